/- scanRows_holds: part 5. -/
import Derived.Test.YtahjmpipllajcaaGreatK4
set_option maxRecDepth 100000
set_option maxHeartbeats 4000000
set_option linter.defProp false
namespace Go.Proofs.YtahjmpipllajcaaGreat.Sl
open Go.RowKit
set_option linter.unusedVariables false
set_option linter.unusedSimpArgs false
def yy := @Prod.mk.inj
def yG := @Tryz.runUnderlying28
def yI := @Tryz.results13
def yS := @Tryz.results28
def yW := @Tryz.results25
def zF := @Tryz.runUnderlying4
def kS:dY := [(43,0,0),(43,1,1),(43,2,2),(43,3,3),(43,4,4),(43,5,5),(43,6,6),(43,7,7),(43,8,8),(43,9,9),(43,10,10),(43,11,11),(69,0,0),(69,1,1),(99,0,0),(99,1,7),(99,2,8)]
theorem aa:(kS).OK Tryz.prog:=⟨FOK.mk yg rfl xU rfl,FOK.mk yg rfl xU rfl,FOK.mk yg rfl yN rfl,FOK.mk yg rfl yN rfl,FOK.mk yg rfl yN rfl,FOK.mk yg rfl xU rfl,FOK.mk yg rfl xU rfl,FOK.mk yg rfl xU rfl,FOK.mk yg rfl xU rfl,FOK.mk yg rfl xU rfl,FOK.mk yg rfl xU rfl,FOK.mk yg rfl Tryz.sizeOf41 rfl,FOK.mk yh rfl xU rfl,FOK.mk yh rfl xU rfl,FOK.mk zq rfl xX rfl,FOK.mk zq rfl xU rfl,FOK.mk zq rfl xU rfl,trivial⟩
theorem da:Tryz.prog.follows .mixedOrders=true:=by kernel_rfl
theorem eA:SOK Tryz.prog 40 3 12 1 #[.int .i64 0,.int .i64 0,.int .i64 0,.int .i64 0,.int .i64 0,.int .i64 0,.int .i64 0,.int .i64 0,.int .i64 0,.int .i64 0,.int .i64 0,.int .i64 0]:=SOK.mk ym xU Tryz.zeroValue3 (by decide) (by kernel_rfl)
def dB (a0:Int) (a1:Int):Option (Bool):=if a0≥a1 then (if a0≤2147483647 then some true else some false) else some false
theorem eK (a0:Int) (a1:Int) (r:Bool) (h:dB a0 a1=some r):ar Tryz.prog 24 #[jI a0,jI a1] .triv (av) (fun v A' N=>v= .bool r∧A'=av∧N = []):=by
 refine aJ Tryz.func24 Z Tryz.ntmps24 Z ?_
 intro F w hX
 unfold dB at h
 refine T.seq (T.region Z (TL.run aa [0] Z Z (TL.nil (X.seq (T.seq (T.region Z ?_))))))
 rcases jF h with⟨c1,h⟩ | ⟨c1,h⟩
 ·refine TL.run aa [0,1,2,3] Z Z ?_
  iterate 2 refine TL.q Z (.g Z Z (xM c1)) (vA aa Z) Z ?_
  refine TL.q Z .u (vz Z (xM c1) Z) Z (TL.run aa [7] Z Z ?_)
  rcases jF h with⟨c2,h⟩ | ⟨c2,h⟩
  ·obtain rfl:=xO h
   exact TL.nil (X.seq (T.ret (vu [0] Tryz.results24 (vt (v:= .bool true) (congrArg (fun b=>some (Value.bool b)) (xM c2))) ⟨Z,Z,Z⟩ (by rfl) (.inl Z))))
  ·obtain rfl:=xO h
   exact TL.nil (X.seq (T.ret (vu [0] Tryz.results24 (vt (v:= .bool false) (congrArg (fun b=>some (Value.bool b)) (xN c2))) ⟨Z,Z,Z⟩ (by rfl) (.inl Z))))
 ·refine TL.run aa [0,1,2,3] Z Z ?_
  iterate 2 refine vv Z (.gn Z Z (xN c1)) Z ?_
  refine TL.q Z .u (vB Z (xN c1) Z) Z (TL.run aa [7] Z Z ?_)
  obtain rfl:=xO h
  exact TL.nil (X.seq (T.ret (vu [0] Tryz.results24 (vt Z) ⟨Z,Z,Z⟩ (by rfl) (.inl Z))))
def dq (a0:Bat):Option (Bool):=if a0.xq=(-1) then (if a0.xv=(-1) then (if a0.xo=(-1) then (if a0.xE=true then some false else some true) else some false) else some false) else (if a0.xq<0 then some false else (if a0.xv<0 then some false else (if a0.xv>32767 then some false else (if a0.xz=true then (if a0.xo=(-1) then some true else some false) else ((dB a0.xo 0).bind fun x13=>some x13)))))
theorem fw (a0:Bat) (A1:Option Addr) (c2:Nat) (r:Bool) (h:dq a0=some r):ar Tryz.prog 25 #[.agg #[jI a0.xy,jI a0.xt,.bool a0.xA,.bool a0.xE,.bool a0.xz,jI a0.xw,jI a0.xr,jI a0.xB,jI a0.xq,jI a0.xv,jI a0.xo,.slice A1 a0.xm.length c2]] (RX.of (aq 7 bj) [.slice A1 a0.xm.length c2] a0.xm) (av) (fun v A' N=>v= .bool r∧A'=av∧N = []):=by
 refine aJ Tryz.func25 Z Tryz.ntmps25 Z ?_
 intro F w hX
 unfold dq at h
 refine T.seq (T.region Z (TL.box Z .u Z Z (fun b3=>(TL.run aa [1] Z Z (TL.nil (X.seq (T.seq (T.seq (T.region Z (TL.run aa [0] Z Z (TL.q Z .u (vr 0 Z xQ Z Z) Z (TL.run aa [2] Z Z ?_))))))))))))
 rcases jF h with⟨c4,h⟩ | ⟨c4,h⟩
 ·refine TL.nil (X.seq (vw Z (xM c4) (T.seq (T.region Z (TL.run aa [0] Z Z (TL.q Z .u (vr 0 Z xQ Z Z) Z ?_))))))
  rcases jF h with⟨c5,h⟩ | ⟨c5,h⟩
  ·refine TL.run aa [2,3] Z Z (TL.q Z (.g Z Z (xM c5)) (vA aa Z) Z (TL.q Z (.g Z Z (xM c5)) (vr 0 Z xQ Z Z) Z (TL.q Z (.g Z Z (xM c5)) (vA aa Z) Z (TL.q Z .u (vz Z (xM c5) Z) Z ?_))))
   rcases jF h with⟨c6,h⟩ | ⟨c6,h⟩
   ·refine TL.run aa [8] Z Z (TL.q Z (.g Z Z (xM c6)) (vA aa Z) Z (TL.q Z (.g Z Z (xM c6)) (vr 0 Z yo Z Z) Z (TL.q Z (.g Z Z (xM c6)) (vA aa Z) Z (TL.q Z .u (vz Z (xM c6) Z) Z (TL.run aa [13] Z Z ?_)))))
    rcases jF h with⟨c7,h⟩ | ⟨c7,h⟩
    ·obtain rfl:=xO h
     exact TL.nil (X.seq (T.ret (vx (vu [1] yW (vt (v:= .bool false) (congrArg (fun b=>some (Value.bool b)) (aw c7))) ⟨Z,Z,Z⟩ (by rfl) (.inl Z)))))
    ·replace c7:=xW c7
     obtain rfl:=xO h
     exact TL.nil (X.seq (T.ret (vx (vu [1] yW (vt (v:= .bool true) (congrArg (fun b=>some (Value.bool b)) (aH c7))) ⟨Z,Z,Z⟩ (by rfl) (.inl Z)))))
   ·refine TL.run aa [8] Z Z ?_
    iterate 3 refine vv Z (.gn Z Z (xN c6)) Z ?_
    refine TL.q Z .u (vB Z (xN c6) Z) Z (TL.run aa [13] Z Z ?_)
    obtain rfl:=xO h
    exact TL.nil (X.seq (T.ret (vx (vu [1] yW (vt Z) ⟨Z,Z,Z⟩ (by rfl) (.inl Z)))))
  ·refine TL.run aa [2,3] Z Z ?_
   iterate 3 refine vv Z (.gn Z Z (xN c5)) Z ?_
   refine TL.q Z .u (vB Z (xN c5) Z) Z (TL.run aa [8] Z Z ?_)
   iterate 3 refine vv Z (.gn Z Z Z) Z ?_
   refine TL.q Z .u (vB Z Z Z) Z (TL.run aa [13] Z Z ?_)
   obtain rfl:=xO h
   exact TL.nil (X.seq (T.ret (vx (vu [1] yW (vt Z) ⟨Z,Z,Z⟩ (by rfl) (.inl Z)))))
 ·refine TL.nil (X.seq (vC Z (xN c4) (T.skip (X.seq (T.seq (T.seq (T.region Z (TL.run aa [0] Z Z (TL.q Z .u (vr 0 Z xQ Z Z) Z ?_)))))))))
  rcases jF h with⟨c8,h⟩ | ⟨c8,h⟩
  ·refine TL.run aa [2,3] Z Z ?_
   iterate 3 refine vv Z (.gn Z Z (xM c8)) Z ?_
   refine TL.q Z .u (vz Z (xM c8) Z) Z (TL.run aa [8] Z Z ?_)
   iterate 3 refine vv Z (.gn Z Z Z) Z ?_
   refine TL.q Z .u (vz Z Z Z) Z (TL.nil (X.seq (vw Z Z (T.seq (T.region Z (TL.run aa [0] Z Z ?_))))))
   obtain rfl:=xO h
   exact TL.nil (X.seq (T.ret (vx (vu [1] yW (vt Z) ⟨Z,Z,Z⟩ (by rfl) (.inl Z)))))
  ·refine TL.run aa [2,3] Z Z (TL.q Z (.g Z Z (xN c8)) (vA aa Z) Z (TL.q Z (.g Z Z (xN c8)) (vr 0 Z xQ Z Z) Z (TL.q Z (.g Z Z (xN c8)) (vA aa Z) Z (TL.q Z .u (vB Z (xN c8) Z) Z ?_))))
   rcases jF h with⟨c9,h⟩ | ⟨c9,h⟩
   ·refine TL.run aa [8] Z Z ?_
    iterate 3 refine vv Z (.gn Z Z (xM c9)) Z ?_
    refine TL.q Z .u (vz Z (xM c9) Z) Z (TL.nil (X.seq (vw Z Z (T.seq (T.region Z (TL.run aa [0] Z Z ?_))))))
    obtain rfl:=xO h
    exact TL.nil (X.seq (T.ret (vx (vu [1] yW (vt Z) ⟨Z,Z,Z⟩ (by rfl) (.inl Z)))))
   ·refine TL.run aa [8] Z Z (TL.q Z (.g Z Z (xN c9)) (vA aa Z) Z (TL.q Z (.g Z Z (xN c9)) (vr 0 Z xQ Z Z) Z (TL.q Z (.g Z Z (xN c9)) (vA aa Z) Z (TL.q Z .u (vB Z (xN c9) Z) Z ?_))))
    rcases jF h with⟨c10,h⟩ | ⟨c10,h⟩
    ·refine TL.nil (X.seq (vw Z (xM c10) (T.seq (T.region Z (TL.run aa [0] Z Z ?_)))))
     obtain rfl:=xO h
     exact TL.nil (X.seq (T.ret (vx (vu [1] yW (vt Z) ⟨Z,Z,Z⟩ (by rfl) (.inl Z)))))
    ·refine TL.nil (X.seq (vC Z (xN c10) (T.skip (X.seq (T.seq (T.seq (T.region Z (TL.run aa [0] Z Z (TL.q Z .u (vr 0 Z yo Z Z) Z ?_)))))))))
     rcases jF h with⟨c11,h⟩ | ⟨c11,h⟩
     ·refine TL.nil (X.seq (vw Z c11 (T.seq (T.region Z (TL.run aa [0] Z Z (TL.q Z .u (vr 0 Z xQ Z Z) Z (TL.run aa [2,3] Z Z ?_)))))))
      rcases jF h with⟨c12,h⟩ | ⟨c12,h⟩
      ·obtain rfl:=xO h
       exact TL.nil (X.seq (T.ret (vx (vu [1] yW (vt (v:= .bool true) (congrArg (fun b=>some (Value.bool b)) (xM c12))) ⟨Z,Z,Z⟩ (by rfl) (.inl Z)))))
      ·obtain rfl:=xO h
       exact TL.nil (X.seq (T.ret (vx (vu [1] yW (vt (v:= .bool false) (congrArg (fun b=>some (Value.bool b)) (xN c12))) ⟨Z,Z,Z⟩ (by rfl) (.inl Z)))))
     ·replace c11:=xW c11
      refine TL.nil (X.seq (vC Z c11 (T.skip (X.seq (T.seq (T.region Z (TL.run aa [0] Z Z (TL.q Z .u (vr 0 Z xQ Z Z) Z ?_))))))))
      obtain⟨x13,hx14,h⟩:=xL h
      refine vL Z .u (.fn Tryz.call24 Z) (eK a0.xo 0 _ hx14) (fun _ hs=>(vy _ _)) Z (TL.run aa [3] Z Z ?_)
      obtain rfl:=xO h
      exact TL.nil (X.seq (T.ret (vu [1] yW (vt Z) ⟨Z,Z,Z⟩ (by rfl) (.inl Z))))
def bQ (a0:Bat):Nat→Int→Int→Nat→Option (Lp Int (Int×Int×Nat))
 | 0,_,_,_=>none
 | m10+1,y4,y5,k6=>if (k6:Int)<(a0.xm.length:Int) then ((a0.xm[k6]?).bind fun x15=>if -9223372036854775808≤(9223372036854775807 - a0.xr)∧(9223372036854775807 - a0.xr)≤9223372036854775807 then (if x15.xC>(9223372036854775807 - a0.xr) then (some (Lp.ret (-1))) else (if -9223372036854775808≤(-a0.xr)∧(-a0.xr)≤9223372036854775807 then (if x15.xC<(-a0.xr) then (some (Lp.ret (-1))) else (if -9223372036854775808≤(a0.xr+x15.xC)∧(a0.xr+x15.xC)≤9223372036854775807 then (if (a0.xr+x15.xC)>y5 then (if -9223372036854775808≤(a0.xr+x15.xC)∧(a0.xr+x15.xC)≤9223372036854775807 then (if -9223372036854775808≤((k6:Int)+1)∧((k6:Int)+1)≤9223372036854775807 then (bQ a0 m10 y4 (a0.xr+x15.xC) (k6+1)) else none) else none) else (if -9223372036854775808≤((k6:Int)+1)∧((k6:Int)+1)≤9223372036854775807 then (bQ a0 m10 y4 y5 (k6+1)) else none)) else none)) else none)) else none) else (some (Lp.go (y4,y5,k6)))
def gi (a0:Bat):Option (Int):=(bQ a0 (((a0.xm.length:Int)).toNat+1) 0 a0.xr 0).bind fun e=>match e with | .ret r=>some r | .go (y30,y31,k32)=>some y31
theorem kT (a0:Bat) (A1:Option Addr) (c2:Nat) (r:Int) (h:gi a0=some r):ar Tryz.prog 54 #[.agg #[jI a0.xy,jI a0.xt,.bool a0.xA,.bool a0.xE,.bool a0.xz,jI a0.xw,jI a0.xr,jI a0.xB,jI a0.xq,jI a0.xv,jI a0.xo,.slice A1 a0.xm.length c2]] (RX.of (aq 7 bj) [.slice A1 a0.xm.length c2] a0.xm) (av) (fun v A' N=>v=jI r∧A'=av∧N = []):=by
 refine aJ Tryz.func54 Z Tryz.ntmps54 Z ?_
 intro F w hX
 unfold gi at h
 refine T.seq (T.region Z (TL.box Z .u Z Z (fun b3=>(TL.run aa [1] Z Z (TL.nil (X.seq (T.seq (T.region Z (TL.run aa [0] Z Z (TL.q Z .u (vr 0 Z xQ Z Z) Z (TL.run aa [2] Z Z (TL.nil (X.seq (T.seq (T.seq (T.region Z ?_))))))))))))))))
 refine TL.run aa [0] Z Z (TL.nil (X.seq (T.block ?_)))
 obtain⟨E7,hE8,hO9⟩:=xL h
 refine v9 (fun m e Rs=> ∃ (y4:Int) (y5:Int) (k6:Nat),e = [(1,jP b3),(2,jI y4),(3,jI y5),(4,jI (k6:Int))]∧Rs = [aA b3 43 #[jI a0.xy,jI a0.xt,.bool a0.xA,.bool a0.xE,.bool a0.xz,jI a0.xw,jI a0.xr,jI a0.xB,jI a0.xq,jI a0.xv,jI a0.xo,.slice A1 a0.xm.length c2],av]∧bQ a0 m y4 y5 k6=some E7) (((a0.xm.length:Int)).toNat+1) [0,0] ⟨0,a0.xr,0,Z,Z,by exact hE8⟩ (by rfl) (by rfl) ?_
 rintro m10 _ _ ⟨y4,y5,k6,rfl,rfl,hl12⟩
 clear hE8 h
 cases m10 with
 | zero =>
  rw[bQ] at hl12
  cases hl12
 | succ m10 =>
  have h:=hl12
  clear hl12
  rw[bQ] at h
  refine T.seq (T.seq (T.region Z (TL.run aa [0,1] Z Z (TL.q Z .u (vr 0 Z yq Z Z) Z (TL.q Z .u (vH Z xZ) Z (TL.run aa [4] Z Z ?_))))))
  rcases jF h with⟨c14,h⟩ | ⟨c14,h⟩
  ·refine TL.nil (X.seq (vw Z (xM c14) (T.skip (X.seq (T.seq (T.block (T.seq (T.region Z (TL.run aa [0] Z Z (TL.q Z .u (vr 0 Z yq Z Z) Z ?_))))))))))
   obtain⟨x15,hx16,h⟩:=xL h
   obtain⟨gz17,oz17,rfl,z17cs,z17cl,z17cc,z17nf,z17r⟩:=vV (by decide) hX hx16
   obtain⟨z17S,z17r,z17rr⟩:=z17r
   obtain⟨A18,c19,rfl,z17s0⟩:=z17r
   have hX20:(RX.of (aq 3 bg) [.slice A18 x15.xp.length c19] x15.xp).reads w F:=⟨z17S,z17s0,z17rr⟩
   refine TL.run aa [2] Z Z ?_
   refine TL.q Z .u (vM (k:=k6) Z Z Z xZ xX (xS hx16).1) Z ?_
   refine TL.run aa [4] Z Z (TL.q Z .u (wM 0 Z xQ z17nf z17cc Z Z) Z (TL.run aa [6] Z Z (TL.nil (X.seq (T.seq (T.seq (T.region Z (TL.run aa [0,1] Z Z (TL.q Z .u (vr 0 Z xQ Z Z) Z ?_)))))))))
   replace h:=ak h
   obtain⟨c21,h⟩:=h
   refine TL.q Z .u (Ex.sub Z Z c21) Z ?_
   rcases jF h with⟨c22,h⟩ | ⟨c22,h⟩
   ·refine TL.run aa [4,5] Z Z ?_
    iterate 5 refine vv Z (.gn Z Z (xM c22)) Z ?_
    refine TL.q Z .u (vz Z (xM c22) Z) Z (TL.nil (X.seq (vw Z Z (T.seq (T.region Z (TL.run aa [0] Z Z ?_))))))
    obtain rfl:=xO h
    replace h:=hO9
    clear hO9
    try dsimp only at h
    obtain rfl:=xO h
    exact TL.nil (X.seq (T.ret (vx (vJ (vx (vx (vJ (vx (vu [1] Tryz.results54 (vt Z) ⟨Z,Z,Z⟩ (by rfl) (.inl Z))))))))))
   ·refine TL.run aa [4,5] Z Z ?_
    iterate 2 refine TL.q Z (.g Z Z (xN c22)) (vA aa Z) Z ?_
    refine TL.q Z (.g Z Z (xN c22)) (vr 0 Z xQ Z Z) Z ?_
    replace h:=ak h
    obtain⟨c23,h⟩:=h
    refine TL.q Z (.g Z Z (xN c22)) (Ex.neg Z c23) Z (TL.q Z (.g Z Z (xN c22)) (vA aa Z) Z (TL.q Z .u (vB Z (xN c22) Z) Z ?_))
    rcases jF h with⟨c24,h⟩ | ⟨c24,h⟩
    ·refine TL.nil (X.seq (vw Z (xM c24) (T.seq (T.region Z (TL.run aa [0] Z Z ?_)))))
     obtain rfl:=xO h
     replace h:=hO9
     clear hO9
     try dsimp only at h
     obtain rfl:=xO h
     exact TL.nil (X.seq (T.ret (vx (vJ (vx (vx (vJ (vx (vu [1] Tryz.results54 (vt Z) ⟨Z,Z,Z⟩ (by rfl) (.inl Z))))))))))
    ·refine TL.nil (X.seq (vC Z (xN c24) (T.skip (X.seq (T.seq (T.region Z (TL.run aa [0] Z Z (TL.q Z .u (vr 0 Z xQ Z Z) Z ?_))))))))
     replace h:=ak h
     obtain⟨c25,h⟩:=h
     refine TL.run aa [2] Z Z (TL.q Z .u (Ex.add Z Z c25) Z (TL.run aa [4,5] Z Z ?_))
     rcases jF h with⟨c26,h⟩ | ⟨c26,h⟩
     ·refine TL.nil (X.seq (vw Z (xM c26) (T.region Z (TL.run aa [0] Z Z (TL.q Z .u (vr 0 Z xQ Z Z) Z ?_)))))
      replace h:=ak h
      obtain⟨c27,h⟩:=h
      refine TL.run aa [2] Z Z (TL.q Z .u (Ex.add Z Z c27) Z (TL.run aa [4] Z Z (TL.nil (vF (X.seq (T.region Z ?_))))))
      replace h:=ak h
      obtain⟨c28,h⟩:=h
      exact TL.run aa [0] Z Z (TL.q Z .u (Ex.add Z Z c28) Z (TL.run aa [2] Z Z (TL.nil (X.back (m':=m10) [0,0] (by omega) ⟨y4,(a0.xr+x15.xC),k6+1,Z,Z,h⟩ (by rfl) (by rfl)))))
     ·refine TL.nil (X.seq (vC Z (xN c26) (T.skip (vF (X.seq (T.region Z ?_))))))
      replace h:=ak h
      obtain⟨c29,h⟩:=h
      exact TL.run aa [0] Z Z (TL.q Z .u (Ex.add Z Z c29) Z (TL.run aa [2] Z Z (TL.nil (X.back (m':=m10) [0,0] (by omega) ⟨y4,y5,k6+1,Z,Z,h⟩ (by rfl) (by rfl)))))
  ·refine TL.nil (X.seq (vC Z (xN c14) ?_))
   obtain rfl:=xO h
   replace h:=hO9
   clear hO9
   try dsimp only at h
   refine T.exit (vD (vD (v6 (X.seq (T.seq (T.region Z (TL.run aa [0,1] Z Z ?_)))))))
   obtain rfl:=xO h
   exact TL.nil (X.seq (T.ret (vu [1] Tryz.results54 (vt Z) ⟨Z,Z,Z⟩ (by rfl) (.inl Z))))
def aV (a0:Bat):Nat→Int→Nat→Option (Lp Int (Int×Nat))
 | 0,_,_=>none
 | m9+1,y4,k5=>if (k5:Int)<(a0.xm.length:Int) then ((a0.xm[k5]?).bind fun x14=>if x14.xx>a0.xw then some (Lp.ret 13) else (if (k5:Int)>0 then (if -9223372036854775808≤((k5:Int) - 1)∧((k5:Int) - 1)≤9223372036854775807 then (if 0≤((k5:Int) - 1) then ((a0.xm[((k5:Int) - 1).toNat]?).bind fun x24=>if x14.xx≤x24.xx then some (Lp.ret 13) else (if x14.xx<0 then some (Lp.ret 13) else (if -9223372036854775808≤(9223372036854775807 - a0.xr)∧(9223372036854775807 - a0.xr)≤9223372036854775807 then (if x14.xC>(9223372036854775807 - a0.xr) then some (Lp.ret 11) else (if -9223372036854775808≤(-a0.xr)∧(-a0.xr)≤9223372036854775807 then (if x14.xC<(-a0.xr) then some (Lp.ret 11) else (if -9223372036854775808≤((k5:Int)+1)∧((k5:Int)+1)≤9223372036854775807 then (aV a0 m9 y4 (k5+1)) else none)) else none)) else none))) else none) else none) else (if x14.xx<0 then some (Lp.ret 13) else (if -9223372036854775808≤(9223372036854775807 - a0.xr)∧(9223372036854775807 - a0.xr)≤9223372036854775807 then (if x14.xC>(9223372036854775807 - a0.xr) then some (Lp.ret 11) else (if -9223372036854775808≤(-a0.xr)∧(-a0.xr)≤9223372036854775807 then (if x14.xC<(-a0.xr) then some (Lp.ret 11) else (if -9223372036854775808≤((k5:Int)+1)∧((k5:Int)+1)≤9223372036854775807 then (aV a0 m9 y4 (k5+1)) else none)) else none)) else none)))) else (some (Lp.go (y4,k5)))
def db (a0:Bat):Option (Int):=(aV a0 (((a0.xm.length:Int)).toNat+1) 0 0).bind fun e=>match e with | .ret r=>some r | .go (y47,k48)=>(if a0.xA=true then some 0 else ((gi a0).bind fun x50=>if x50=a0.xB then some 0 else some 11))
theorem gk (a0:Bat) (A1:Option Addr) (c2:Nat) (r:Int) (h:db a0=some r):ar Tryz.prog 28 #[.agg #[jI a0.xy,jI a0.xt,.bool a0.xA,.bool a0.xE,.bool a0.xz,jI a0.xw,jI a0.xr,jI a0.xB,jI a0.xq,jI a0.xv,jI a0.xo,.slice A1 a0.xm.length c2]] (RX.of (aq 7 bj) [.slice A1 a0.xm.length c2] a0.xm) (av) (fun v A' N=>v=jI r∧A'=av∧N = []):=by
 refine aJ Tryz.func28 Z Tryz.ntmps28 Z ?_
 intro F w hX
 unfold db at h
 refine T.seq (T.region Z (TL.box Z .u Z Z (fun b3=>(TL.run aa [1] Z Z (TL.nil (X.seq (T.seq (T.seq (T.region Z (TL.run aa [0] Z Z (TL.nil (X.seq (T.block ?_)))))))))))))
 obtain⟨E6,hE7,hO8⟩:=xL h
 refine v9 (fun m e Rs=> ∃ (y4:Int) (k5:Nat),e = [(1,jP b3),(2,jI y4),(3,jI (k5:Int))]∧Rs = [aA b3 43 #[jI a0.xy,jI a0.xt,.bool a0.xA,.bool a0.xE,.bool a0.xz,jI a0.xw,jI a0.xr,jI a0.xB,jI a0.xq,jI a0.xv,jI a0.xo,.slice A1 a0.xm.length c2],av]∧aV a0 m y4 k5=some E6) (((a0.xm.length:Int)).toNat+1) [0,0] ⟨0,0,Z,Z,by exact hE7⟩ (by rfl) (by rfl) ?_
 rintro m9 _ _ ⟨y4,k5,rfl,rfl,hl11⟩
 clear hE7 h
 cases m9 with
 | zero =>
  rw[aV] at hl11
  cases hl11
 | succ m9 =>
  have h:=hl11
  clear hl11
  rw[aV] at h
  refine T.seq (T.seq (T.region Z (TL.run aa [0,1] Z Z (TL.q Z .u (vr 0 Z yq Z Z) Z (TL.q Z .u (vH Z xZ) Z (TL.run aa [4] Z Z ?_))))))
  rcases jF h with⟨c13,h⟩ | ⟨c13,h⟩
  ·refine TL.nil (X.seq (vw Z (xM c13) (T.skip (X.seq (T.seq (T.block (T.seq (T.region Z (TL.run aa [0] Z Z (TL.q Z .u (vr 0 Z yq Z Z) Z ?_))))))))))
   obtain⟨x14,hx15,h⟩:=xL h
   obtain⟨gz16,oz16,rfl,z16cs,z16cl,z16cc,z16nf,z16r⟩:=vV (by decide) hX hx15
   obtain⟨z16S,z16r,z16rr⟩:=z16r
   obtain⟨A17,c18,rfl,z16s0⟩:=z16r
   have hX19:(RX.of (aq 3 bg) [.slice A17 x14.xp.length c18] x14.xp).reads w F:=⟨z16S,z16s0,z16rr⟩
   refine TL.run aa [2] Z Z ?_
   refine TL.q Z .u (vM (k:=k5) Z Z Z xZ xX (xS hx15).1) Z ?_
   refine TL.run aa [4] Z Z (TL.q Z .u (wM 1 Z xQ z16nf z16cc Z Z) Z (TL.run aa [6] Z Z (TL.nil (X.seq (T.seq (T.seq (T.region Z (TL.run aa [0,1] Z Z (TL.q Z .u (vr 0 Z xQ Z Z) Z ?_)))))))))
   rcases jF h with⟨c20,h⟩ | ⟨c20,h⟩
   ·refine TL.run aa [3,4] Z Z ?_
    iterate 3 refine vv Z (.gn Z Z (xM c20)) Z ?_
    iterate 9 refine vv Z (.gu Z Z) Z ?_
    refine vv Z (.gn Z Z (xM c20)) Z (TL.q Z .u (vz Z (xM c20) Z) Z (TL.run aa [19] Z Z ?_))
    iterate 2 refine vv Z (.gn Z Z Z) Z ?_
    refine TL.q Z .u (vz Z Z Z) Z (TL.nil (X.seq (vw Z Z (T.seq (T.region Z (TL.run aa [0] Z Z ?_))))))
    obtain rfl:=xO h
    replace h:=hO8
    clear hO8
    try dsimp only at h
    obtain rfl:=xO h
    exact TL.nil (X.seq (T.ret (vx (vJ (vx (vx (vJ (vx (vu [1] yS (vt Z) ⟨Z,Z,Z⟩ (by rfl) (.inl Z))))))))))
   ·refine TL.run aa [3,4] Z Z ?_
    iterate 3 refine TL.q Z (.g Z Z (xN c20)) (vA aa Z) Z ?_
    rcases jF h with⟨c21,h⟩ | ⟨c21,h⟩
    ·refine TL.q Z (.g Z Z (xM c21)) (vA aa Z) Z (TL.q Z (.g Z Z (xM c21)) (vA aa Z) Z (TL.q Z (.g Z Z (xM c21)) (vr 0 Z yq Z Z) Z (TL.q Z (.g Z Z (xM c21)) (vA aa Z) Z ?_)))
     replace h:=ak h
     obtain⟨c22,h⟩:=h
     refine TL.q Z (.g Z Z (xM c21)) (Ex.sub Z Z c22) Z ?_
     replace h:=ak h
     obtain⟨c23,h⟩:=h
     obtain⟨x24,hx25,h⟩:=xL h
     obtain⟨z26cs,z26cl,z26cc,z26nf,z26r⟩:=RX.elem' (by decide) hX hx25
     obtain⟨z26S,z26r,z26rr⟩:=z26r
     obtain⟨A27,c28,rfl,z26s0⟩:=z26r
     have hX29:(RX.of (aq 3 bg) [.slice A27 x24.xp.length c28] x24.xp).reads w F:=⟨z26S,z26s0,z26rr⟩
     refine TL.q Z (.g Z Z (xM c21)) (vM (k:=((k5:Int) - 1).toNat) Z Z ((Int.toNat_of_nonneg c23).symm) xZ xX (xS hx25).1) Z ?_
     refine TL.q Z (.g Z Z (xM c21)) (vA aa Z) Z (TL.q Z (.g Z Z (xM c21)) (wM 1 Z xQ z26nf z26cc Z Z) Z (TL.q Z (.g Z Z (xM c21)) (vA aa Z) Z (TL.q Z (.g Z Z (xN c20)) (vz Z (xM c21) Z) Z (TL.q Z .u (vB Z (xN c20) Z) Z ?_))))
     rcases jF h with⟨c30,h⟩ | ⟨c30,h⟩
     ·refine TL.run aa [19] Z Z ?_
      iterate 2 refine vv Z (.gn Z Z (xM c30)) Z ?_
      refine TL.q Z .u (vz Z (xM c30) Z) Z (TL.nil (X.seq (vw Z Z (T.seq (T.region Z (TL.run aa [0] Z Z ?_))))))
      obtain rfl:=xO h
      replace h:=hO8
      clear hO8
      try dsimp only at h
      obtain rfl:=xO h
      exact TL.nil (X.seq (T.ret (vx (vJ (vx (vx (vJ (vx (vu [1] yS (vt Z) ⟨Z,Z,Z⟩ (by rfl) (.inl Z))))))))))
     ·refine TL.run aa [19] Z Z ?_
      iterate 2 refine TL.q Z (.g Z Z (xN c30)) (vA aa Z) Z ?_
      refine TL.q Z .u (vB Z (xN c30) Z) Z ?_
      rcases jF h with⟨c31,h⟩ | ⟨c31,h⟩
      ·refine TL.nil (X.seq (vw Z (xM c31) (T.seq (T.region Z (TL.run aa [0] Z Z ?_)))))
       obtain rfl:=xO h
       replace h:=hO8
       clear hO8
       try dsimp only at h
       obtain rfl:=xO h
       exact TL.nil (X.seq (T.ret (vx (vJ (vx (vx (vJ (vx (vu [1] yS (vt Z) ⟨Z,Z,Z⟩ (by rfl) (.inl Z))))))))))
      ·refine TL.nil (X.seq (vC Z (xN c31) (T.skip (X.seq (T.seq (T.region Z (TL.run aa [0] Z Z (TL.q Z .u (vr 0 Z yq Z Z) Z (TL.run aa [2] Z Z ?_)))))))))
       refine TL.q Z .u (vM (k:=k5) Z Z Z xZ xX (xS hx15).1) Z ?_
       refine TL.run aa [4] Z Z (TL.q Z .u (wM 0 Z xQ z16nf z16cc Z Z) Z (TL.run aa [6] Z Z (TL.nil (X.seq (T.seq (T.region Z (TL.run aa [0,1] Z Z (TL.q Z .u (vr 0 Z xQ Z Z) Z ?_))))))))
       replace h:=ak h
       obtain⟨c32,h⟩:=h
       refine TL.q Z .u (Ex.sub Z Z c32) Z ?_
       rcases jF h with⟨c33,h⟩ | ⟨c33,h⟩
       ·refine TL.run aa [4,5] Z Z ?_
        iterate 5 refine vv Z (.gn Z Z (xM c33)) Z ?_
        refine TL.q Z .u (vz Z (xM c33) Z) Z (TL.nil (X.seq (vw Z Z (T.seq (T.region Z (TL.run aa [0] Z Z ?_))))))
        obtain rfl:=xO h
        replace h:=hO8
        clear hO8
        try dsimp only at h
        obtain rfl:=xO h
        exact TL.nil (X.seq (T.ret (vJ (vx (vx (vJ (vx (vu [1] yS (vt Z) ⟨Z,Z,Z⟩ (by rfl) (.inl Z)))))))))
       ·refine TL.run aa [4,5] Z Z ?_
        iterate 2 refine TL.q Z (.g Z Z (xN c33)) (vA aa Z) Z ?_
        refine TL.q Z (.g Z Z (xN c33)) (vr 0 Z xQ Z Z) Z ?_
        replace h:=ak h
        obtain⟨c34,h⟩:=h
        refine TL.q Z (.g Z Z (xN c33)) (Ex.neg Z c34) Z (TL.q Z (.g Z Z (xN c33)) (vA aa Z) Z (TL.q Z .u (vB Z (xN c33) Z) Z ?_))
        rcases jF h with⟨c35,h⟩ | ⟨c35,h⟩
        ·refine TL.nil (X.seq (vw Z (xM c35) (T.seq (T.region Z (TL.run aa [0] Z Z ?_)))))
         obtain rfl:=xO h
         replace h:=hO8
         clear hO8
         try dsimp only at h
         obtain rfl:=xO h
         exact TL.nil (X.seq (T.ret (vJ (vx (vx (vJ (vx (vu [1] yS (vt Z) ⟨Z,Z,Z⟩ (by rfl) (.inl Z)))))))))
        ·refine TL.nil (X.seq (vC Z (xN c35) (T.skip (vF (X.seq (T.region Z ?_))))))
         replace h:=ak h
         obtain⟨c36,h⟩:=h
         exact TL.run aa [0] Z Z (TL.q Z .u (Ex.add Z Z c36) Z (TL.run aa [2] Z Z (TL.nil (X.back (m':=m9) [0,0] (by omega) ⟨y4,k5+1,Z,Z,h⟩ (by rfl) (by rfl)))))
    ·refine vv Z (.gn Z Z (xN c21)) Z ?_
     iterate 8 refine vv Z (.gn Z Z (xN c21)) Z ?_
     refine TL.q Z (.g Z Z (xN c20)) (vB Z (xN c21) Z) Z (TL.q Z .u (vB Z (xN c20) Z) Z (TL.run aa [19] Z Z ?_))
     iterate 2 refine TL.q Z (.g Z Z Z) (vA aa Z) Z ?_
     refine TL.q Z .u (vB Z Z Z) Z ?_
     rcases jF h with⟨c37,h⟩ | ⟨c37,h⟩
     ·refine TL.nil (X.seq (vw Z (xM c37) (T.seq (T.region Z (TL.run aa [0] Z Z ?_)))))
      obtain rfl:=xO h
      replace h:=hO8
      clear hO8
      try dsimp only at h
      obtain rfl:=xO h
      exact TL.nil (X.seq (T.ret (vx (vJ (vx (vx (vJ (vx (vu [1] yS (vt Z) ⟨Z,Z,Z⟩ (by rfl) (.inl Z))))))))))
     ·refine TL.nil (X.seq (vC Z (xN c37) (T.skip (X.seq (T.seq (T.region Z (TL.run aa [0] Z Z (TL.q Z .u (vr 0 Z yq Z Z) Z (TL.run aa [2] Z Z ?_)))))))))
      refine TL.q Z .u (vM (k:=k5) Z Z Z xZ xX (xS hx15).1) Z ?_
      refine TL.run aa [4] Z Z (TL.q Z .u (wM 0 Z xQ z16nf z16cc Z Z) Z (TL.run aa [6] Z Z (TL.nil (X.seq (T.seq (T.region Z (TL.run aa [0,1] Z Z (TL.q Z .u (vr 0 Z xQ Z Z) Z ?_))))))))
      replace h:=ak h
      obtain⟨c38,h⟩:=h
      refine TL.q Z .u (Ex.sub Z Z c38) Z ?_
      rcases jF h with⟨c39,h⟩ | ⟨c39,h⟩
      ·refine TL.run aa [4,5] Z Z ?_
       iterate 5 refine vv Z (.gn Z Z (xM c39)) Z ?_
       refine TL.q Z .u (vz Z (xM c39) Z) Z (TL.nil (X.seq (vw Z Z (T.seq (T.region Z (TL.run aa [0] Z Z ?_))))))
       obtain rfl:=xO h
       replace h:=hO8
       clear hO8
       try dsimp only at h
       obtain rfl:=xO h
       exact TL.nil (X.seq (T.ret (vJ (vx (vx (vJ (vx (vu [1] yS (vt Z) ⟨Z,Z,Z⟩ (by rfl) (.inl Z)))))))))
      ·refine TL.run aa [4,5] Z Z ?_
       iterate 2 refine TL.q Z (.g Z Z (xN c39)) (vA aa Z) Z ?_
       refine TL.q Z (.g Z Z (xN c39)) (vr 0 Z xQ Z Z) Z ?_
       replace h:=ak h
       obtain⟨c40,h⟩:=h
       refine TL.q Z (.g Z Z (xN c39)) (Ex.neg Z c40) Z (TL.q Z (.g Z Z (xN c39)) (vA aa Z) Z (TL.q Z .u (vB Z (xN c39) Z) Z ?_))
       rcases jF h with⟨c41,h⟩ | ⟨c41,h⟩
       ·refine TL.nil (X.seq (vw Z (xM c41) (T.seq (T.region Z (TL.run aa [0] Z Z ?_)))))
        obtain rfl:=xO h
        replace h:=hO8
        clear hO8
        try dsimp only at h
        obtain rfl:=xO h
        exact TL.nil (X.seq (T.ret (vJ (vx (vx (vJ (vx (vu [1] yS (vt Z) ⟨Z,Z,Z⟩ (by rfl) (.inl Z)))))))))
       ·refine TL.nil (X.seq (vC Z (xN c41) (T.skip (vF (X.seq (T.region Z ?_))))))
        replace h:=ak h
        obtain⟨c42,h⟩:=h
        exact TL.run aa [0] Z Z (TL.q Z .u (Ex.add Z Z c42) Z (TL.run aa [2] Z Z (TL.nil (X.back (m':=m9) [0,0] (by omega) ⟨y4,k5+1,Z,Z,h⟩ (by rfl) (by rfl)))))
  ·refine TL.nil (X.seq (vC Z (xN c13) ?_))
   obtain rfl:=xO h
   replace h:=hO8
   clear hO8
   try dsimp only at h
   refine T.exit (vD (vD (v6 (X.seq (T.seq (T.seq (vQ (.q 0 (.q 1 (.q 2 (.q 3 (.q 4 (.q 6 (.q 7 (.e 5 (.q 8 (.q 9 .nil)))))))))) [0,0] Z da (NoP.seq (NoP.seq aO)) (by kernel_rfl) ?_)))))))
   refine TD.run aa [0] Z Z (TD.q Z .u (vr 0 Z yo Z Z) Z ?_)
   rcases jF h with⟨c43,h⟩ | ⟨c43,h⟩
   ·refine TD.run aa [2,3] Z Z ?_
    iterate 3 refine TD.no Z (.gn Z Z (aw c43)) Z ?_
    refine TD.noe Z (.gn Z Z (aw c43)) Z [0,0] Z (TD.no Z (.gn Z Z (aw c43)) Z (TD.q Z .u (vB Z (aw c43) Z) Z (TD.nil (X.seq (vC Z Z (T.skip (X.seq (T.seq (T.region Z (TL.run aa [0] Z Z ?_))))))))))
    obtain rfl:=xO h
    exact TL.nil (X.seq (T.ret (vu [1] yS (vt Z) ⟨Z,Z,Z⟩ (by rfl) (.inl Z))))
   ·replace c43:=xW c43
    refine TD.run aa [2,3] Z Z (TD.q Z (.g Z Z (aH c43)) (vE (us := [jI a0.xy,jI a0.xt,.bool a0.xA,.bool a0.xE,.bool a0.xz,jI a0.xw,jI a0.xr,jI a0.xB,jI a0.xq,jI a0.xv,jI a0.xo,.slice A1 a0.xm.length c2]) 0 Z yr yb Z Z Z) Z (TD.q Z (.g Z Z (aH c43)) (vA aa Z) Z (TD.q Z (.g Z Z (aH c43)) (vr 0 Z xQ Z Z) Z ?_)))
    obtain⟨x44,hx45,h⟩:=xL h
    refine vY Z (.g Z Z (aH c43)) (.fn Tryz.call54 Z) (kT a0 _ _ _ hx45) (fun _ hs=>(vK hs hX)) Z [0,0] (Z) (TD.q Z (.g Z Z (aH c43)) (vA aa Z) Z (TD.q Z .u (vz Z (aH c43) Z) Z ?_))
    rcases jF h with⟨c46,h⟩ | ⟨c46,h⟩
    ·refine TD.nil (X.seq (vC Z (aw (xM c46)) (T.skip (X.seq (T.seq (T.region Z (TL.run aa [0] Z Z ?_)))))))
     obtain rfl:=xO h
     exact TL.nil (X.seq (T.ret (vu [1] yS (vt Z) ⟨Z,Z,Z⟩ (by rfl) (.inl Z))))
    ·refine TD.nil (X.seq (vw Z (aH (xN c46)) (T.seq (T.region Z (TL.run aa [0] Z Z ?_)))))
     obtain rfl:=xO h
     exact TL.nil (X.seq (T.ret (vx (vu [1] yS (vt Z) ⟨Z,Z,Z⟩ (by rfl) (.inl Z)))))
def bD (a0:Bat):Nat→Int→Nat→Option (Lp Int (Int×Nat))
 | 0,_,_=>none
 | m26+1,y21,k22=>if (k22:Int)<(a0.xm.length:Int) then ((a0.xm[k22]?).bind fun x31=>(ez x31).bind fun x37=>if x37=0 then (if -9223372036854775808≤((k22:Int)+1)∧((k22:Int)+1)≤9223372036854775807 then (bD a0 m26 y21 (k22+1)) else none) else some (Lp.ret x37)) else (some (Lp.go (y21,k22)))
def cL (a0:Bat):Nat→Int→Nat→Option (Lp Int (Int×Nat))
 | 0,_,_=>none
 | m77+1,y72,k73=>if (k73:Int)<(a0.xm.length:Int) then ((a0.xm[k73]?).bind fun x82=>(ez x82).bind fun x88=>if x88=0 then (if -9223372036854775808≤((k73:Int)+1)∧((k73:Int)+1)≤9223372036854775807 then (cL a0 m77 y72 (k73+1)) else none) else some (Lp.ret x88)) else (some (Lp.go (y72,k73)))
def dU (a0:Bat):Option (Int):=if a0.xy<0 then some 11 else ((dB a0.xt (-1)).bind fun x5=>if x5=true then ((dB a0.xw 0).bind fun x8=>if x8=true then (if -9223372036854775808≤(9223372036854775807 - a0.xy)∧(9223372036854775807 - a0.xy)≤9223372036854775807 then (if a0.xw>(9223372036854775807 - a0.xy) then some 11 else (if a0.xr<0 then some 11 else (if a0.xB<0 then some 11 else (if a0.xz=true then (if a0.xE=true then ((dq a0).bind fun x17=>if x17=true then (if (a0.xm.length:Int)=1 then ((bD a0 (((a0.xm.length:Int)).toNat+1) 0 0).bind fun e=>match e with | .ret r=>some r | .go (y54,k55)=>((a0.xm[0]?).bind fun x56=>(dT x56).bind fun (x62,x63,x64)=>if x64=0 then ((db a0).bind fun x67=>some x67) else some x64)) else some 10) else some 11) else some 8) else ((dq a0).bind fun x69=>if x69=true then ((cL a0 (((a0.xm.length:Int)).toNat+1) 0 0).bind fun e=>match e with | .ret r=>some r | .go (y94,k95)=>((db a0).bind fun x96=>some x96)) else some 11))))) else none) else some 11) else some 11)
theorem kU (a0:Bat) (A1:Option Addr) (c2:Nat) (r:Int) (h:dU a0=some r):ar Tryz.prog 13 #[.agg #[jI a0.xy,jI a0.xt,.bool a0.xA,.bool a0.xE,.bool a0.xz,jI a0.xw,jI a0.xr,jI a0.xB,jI a0.xq,jI a0.xv,jI a0.xo,.slice A1 a0.xm.length c2]] (RX.of (aq 7 bj) [.slice A1 a0.xm.length c2] a0.xm) (av) (fun v A' N=>v=jI r∧A'=av∧N = []):=by
 refine aJ Tryz.func13 Z Tryz.ntmps13 Z ?_
 intro F w hX
 unfold dU at h
 refine T.seq (T.region Z (TL.box Z .u Z Z (fun b3=>(TL.run aa [1] Z Z (TL.nil (X.seq (T.seq (T.seq (T.region Z (TL.run aa [0] Z Z (TL.q Z .u (vr 0 Z xQ Z Z) Z ?_)))))))))))
 rcases jF h with⟨c4,h⟩ | ⟨c4,h⟩
 ·refine TL.run aa [2,3] Z Z ?_
  iterate 4 refine vv Z (.gn Z Z (xM c4)) Z ?_
  refine TL.q Z .u (vz Z (xM c4) Z) Z (TL.run aa [9] Z Z ?_)
  iterate 4 refine vv Z (.gn Z Z Z) Z ?_
  refine TL.q Z .u (vz Z Z Z) Z (TL.run aa [15] Z Z ?_)
  iterate 6 refine vv Z (.gn Z Z Z) Z ?_
  refine TL.q Z .u (vz Z Z Z) Z (TL.run aa [23] Z Z ?_)
  iterate 3 refine vv Z (.gn Z Z Z) Z ?_
  refine TL.q Z .u (vz Z Z Z) Z (TL.run aa [28] Z Z ?_)
  iterate 3 refine vv Z (.gn Z Z Z) Z ?_
  refine TL.q Z .u (vz Z Z Z) Z (TL.nil (X.seq (vw Z Z (T.seq (T.region Z (TL.run aa [0] Z Z ?_))))))
  obtain rfl:=xO h
  exact TL.nil (X.seq (T.ret (vx (vu [1] yI (vt Z) ⟨Z,Z,Z⟩ (by rfl) (.inl Z)))))
 ·refine TL.run aa [2,3] Z Z (TL.q Z (.g Z Z (xN c4)) (vA aa Z) Z (TL.q Z (.g Z Z (xN c4)) (vr 0 Z xQ Z Z) Z ?_))
  obtain⟨x5,hx6,h⟩:=xL h
  refine vL Z (.g Z Z (xN c4)) (.fn Tryz.call24 Z) (eK a0.xt (-1) _ hx6) (fun _ hs=>(vy _ _)) Z (TL.q Z (.g Z Z (xN c4)) (vA aa Z) Z (TL.q Z .u (vB Z (xN c4) Z) Z ?_))
  rcases jF h with⟨c7,h⟩ | ⟨c7,h⟩
  ·refine TL.run aa [9] Z Z (TL.q Z (.g Z Z (aw c7)) (vA aa Z) Z (TL.q Z (.g Z Z (aw c7)) (vr 0 Z xQ Z Z) Z ?_))
   obtain⟨x8,hx9,h⟩:=xL h
   refine vL Z (.g Z Z (aw c7)) (.fn Tryz.call24 Z) (eK a0.xw 0 _ hx9) (fun _ hs=>(vy _ _)) Z (TL.q Z (.g Z Z (aw c7)) (vA aa Z) Z (TL.q Z .u (vB Z (aw c7) Z) Z ?_))
   rcases jF h with⟨c10,h⟩ | ⟨c10,h⟩
   ·refine TL.run aa [15] Z Z (TL.q Z (.g Z Z (aw c10)) (vA aa Z) Z (TL.q Z (.g Z Z (aw c10)) (vr 0 Z xQ Z Z) Z (TL.q Z (.g Z Z (aw c10)) (vA aa Z) Z (TL.q Z (.g Z Z (aw c10)) (vr 0 Z xQ Z Z) Z ?_))))
    replace h:=ak h
    obtain⟨c11,h⟩:=h
    refine TL.q Z (.g Z Z (aw c10)) (Ex.sub Z Z c11) Z (TL.q Z (.g Z Z (aw c10)) (vA aa Z) Z (TL.q Z .u (vB Z (aw c10) Z) Z ?_))
    rcases jF h with⟨c12,h⟩ | ⟨c12,h⟩
    ·refine TL.run aa [23] Z Z ?_
     iterate 3 refine vv Z (.gn Z Z (xM c12)) Z ?_
     refine TL.q Z .u (vz Z (xM c12) Z) Z (TL.run aa [28] Z Z ?_)
     iterate 3 refine vv Z (.gn Z Z Z) Z ?_
     refine TL.q Z .u (vz Z Z Z) Z (TL.nil (X.seq (vw Z Z (T.seq (T.region Z (TL.run aa [0] Z Z ?_))))))
     obtain rfl:=xO h
     exact TL.nil (X.seq (T.ret (vx (vu [1] yI (vt Z) ⟨Z,Z,Z⟩ (by rfl) (.inl Z)))))
    ·refine TL.run aa [23] Z Z (TL.q Z (.g Z Z (xN c12)) (vA aa Z) Z (TL.q Z (.g Z Z (xN c12)) (vr 0 Z xQ Z Z) Z (TL.q Z (.g Z Z (xN c12)) (vA aa Z) Z (TL.q Z .u (vB Z (xN c12) Z) Z ?_))))
     rcases jF h with⟨c13,h⟩ | ⟨c13,h⟩
     ·refine TL.run aa [28] Z Z ?_
      iterate 3 refine vv Z (.gn Z Z (xM c13)) Z ?_
      refine TL.q Z .u (vz Z (xM c13) Z) Z (TL.nil (X.seq (vw Z Z (T.seq (T.region Z (TL.run aa [0] Z Z ?_))))))
      obtain rfl:=xO h
      exact TL.nil (X.seq (T.ret (vx (vu [1] yI (vt Z) ⟨Z,Z,Z⟩ (by rfl) (.inl Z)))))
     ·refine TL.run aa [28] Z Z (TL.q Z (.g Z Z (xN c13)) (vA aa Z) Z (TL.q Z (.g Z Z (xN c13)) (vr 0 Z xQ Z Z) Z (TL.q Z (.g Z Z (xN c13)) (vA aa Z) Z (TL.q Z .u (vB Z (xN c13) Z) Z ?_))))
      rcases jF h with⟨c14,h⟩ | ⟨c14,h⟩
      ·refine TL.nil (X.seq (vw Z (xM c14) (T.seq (T.region Z (TL.run aa [0] Z Z ?_)))))
       obtain rfl:=xO h
       exact TL.nil (X.seq (T.ret (vx (vu [1] yI (vt Z) ⟨Z,Z,Z⟩ (by rfl) (.inl Z)))))
      ·refine TL.nil (X.seq (vC Z (xN c14) (T.skip (X.seq (T.seq (T.seq (T.region Z (TL.run aa [0] Z Z (TL.q Z .u (vr 0 Z yo Z Z) Z ?_)))))))))
       rcases jF h with⟨c15,h⟩ | ⟨c15,h⟩
       ·refine TL.run aa [2] Z Z (TL.q Z (.g Z Z c15) (vA aa Z) Z (TL.q Z (.g Z Z c15) (vr 0 Z yo Z Z) Z (TL.q Z (.g Z Z c15) (vA aa Z) Z (TL.q Z .u (vz Z c15 Z) Z ?_))))
        rcases jF h with⟨c16,h⟩ | ⟨c16,h⟩
        ·refine TL.nil (X.seq (vC Z (aw c16) (T.skip (X.seq (T.seq (T.seq (T.region Z (TL.q Z .u (vE (us := [jI a0.xy,jI a0.xt,.bool a0.xA,.bool a0.xE,.bool a0.xz,jI a0.xw,jI a0.xr,jI a0.xB,jI a0.xq,jI a0.xv,jI a0.xo,.slice A1 a0.xm.length c2]) 0 Z yr yb Z Z Z) Z ?_))))))))
         obtain⟨x17,hx18,h⟩:=xL h
         refine vL Z .u (.fn Tryz.call25 Z) (fw a0 _ _ _ hx18) (fun _ hs=>(vK hs hX)) Z (TL.run aa [2] Z Z ?_)
         rcases jF h with⟨c19,h⟩ | ⟨c19,h⟩
         ·refine TL.nil (X.seq (vC Z (aw c19) (T.skip (X.seq (T.seq (T.seq (T.region Z (TL.run aa [0] Z Z (TL.q Z .u (vr 0 Z yo Z Z) Z (TL.run aa [2] Z Z (TL.q Z (.g Z Z c15) (vA aa Z) Z (TL.q Z (.g Z Z c15) (vr 0 Z yq Z Z) Z ?_))))))))))))
          refine TL.q Z (.g Z Z c15) (vH Z xZ) Z (TL.q Z (.g Z Z c15) (vA aa Z) Z (TL.q Z .u (vz Z c15 Z) Z ?_))
          rcases jF h with⟨c20,h⟩ | ⟨c20,h⟩
          ·refine TL.nil (X.seq (vC Z (aw (xM c20)) (T.skip (X.seq (T.seq (T.seq (T.region Z (TL.run aa [0] Z Z (TL.nil (X.seq (T.block ?_)))))))))))
           obtain⟨E23,hE24,hO25⟩:=xL h
           refine v9 (fun m e Rs=> ∃ (y21:Int) (k22:Nat),e = [(1,jP b3),(2,jI y21),(3,jI (k22:Int))]∧Rs = [aA b3 43 #[jI a0.xy,jI a0.xt,.bool a0.xA,.bool a0.xE,.bool a0.xz,jI a0.xw,jI a0.xr,jI a0.xB,jI a0.xq,jI a0.xv,jI a0.xo,.slice A1 a0.xm.length c2],av]∧bD a0 m y21 k22=some E23) (((a0.xm.length:Int)).toNat+1) [0,0] ⟨0,0,Z,Z,by exact hE24⟩ (by rfl) (by rfl) ?_
           rintro m26 _ _ ⟨y21,k22,rfl,rfl,hl28⟩
           clear hE24 h
           cases m26 with
           | zero =>
            rw[bD] at hl28
            cases hl28
           | succ m26 =>
            have h:=hl28
            clear hl28
            rw[bD] at h
            refine T.seq (T.seq (T.region Z (TL.run aa [0,1] Z Z (TL.q Z .u (vr 0 Z yq Z Z) Z (TL.q Z .u (vH Z xZ) Z (TL.run aa [4] Z Z ?_))))))
            rcases jF h with⟨c30,h⟩ | ⟨c30,h⟩
            ·refine TL.nil (X.seq (vw Z (xM c30) (T.skip (X.seq (T.seq (T.block (T.seq (T.region Z (TL.run aa [0] Z Z (TL.q Z .u (vr 0 Z yq Z Z) Z ?_))))))))))
             obtain⟨x31,hx32,h⟩:=xL h
             obtain⟨gz33,oz33,rfl,z33cs,z33cl,z33cc,z33nf,z33r⟩:=vV (by decide) hX hx32
             obtain⟨z33S,z33r,z33rr⟩:=z33r
             obtain⟨A34,c35,rfl,z33s0⟩:=z33r
             have hX36:(RX.of (aq 3 bg) [.slice A34 x31.xp.length c35] x31.xp).reads w F:=⟨z33S,z33s0,z33rr⟩
             refine TL.run aa [2] Z Z ?_
             refine TL.q Z .u (vM (k:=k22) Z Z Z xZ xX (xS hx32).1) Z ?_
             refine TL.q Z .u (wj (us := [jI x31.xC,jI x31.xx,.bool x31.xu.null,jS x31.xu.data,.bool x31.xn.null,jS x31.xn.data,.slice A34 x31.xp.length c35]) 0 Z yt xX z33nf z33cc Z Z Z) Z ?_
             obtain⟨x37,hx38,h⟩:=xL h
             refine vL Z .u (.fn Tryz.call26 Z) (gE x31 _ _ _ hx38) (fun _ hs=>(vK hs hX36)) Z (TL.run aa [6] Z Z (TL.nil (X.seq (T.seq (T.region Z (TL.run aa [0,1] Z Z ?_))))))
             rcases jF h with⟨c39,h⟩ | ⟨c39,h⟩
             ·refine TL.nil (X.seq (vC Z (aw (xM c39)) (T.skip (vF (X.seq (T.region Z ?_))))))
              replace h:=ak h
              obtain⟨c40,h⟩:=h
              exact TL.run aa [0] Z Z (TL.q Z .u (Ex.add Z Z c40) Z (TL.run aa [2] Z Z (TL.nil (X.back (m':=m26) [0,0] (by omega) ⟨y21,k22+1,Z,Z,h⟩ (by rfl) (by rfl)))))
             ·refine TL.nil (X.seq (vw Z (aH (xN c39)) (T.seq (T.region Z (TL.run aa [0,1] Z Z ?_)))))
              obtain rfl:=xO h
              replace h:=hO25
              clear hO25
              try dsimp only at h
              obtain rfl:=xO h
              exact TL.nil (X.seq (T.ret (vJ (vx (vx (vJ (vx (vu [1] yI (vt Z) ⟨Z,Z,Z⟩ (by rfl) (.inl Z)))))))))
            ·refine TL.nil (X.seq (vC Z (xN c30) ?_))
             obtain rfl:=xO h
             replace h:=hO25
             clear hO25
             try dsimp only at h
             refine T.exit (vD (vD (v6 (X.seq (T.seq (T.seq (T.region Z (TL.run aa [0] Z Z (TL.q Z .u (vr 0 Z yo Z Z) Z (TL.nil (X.seq (vw Z c15 (T.seq (T.region Z (TL.run aa [0] Z Z (TL.q Z .u (vr 0 Z yq Z Z) Z ?_))))))))))))))))
             obtain⟨x41,hx42,h⟩:=xL h
             obtain⟨gz43,oz43,rfl,z43cs,z43cl,z43cc,z43nf,z43r⟩:=vV (by decide) hX hx42
             obtain⟨z43S,z43r,z43rr⟩:=z43r
             obtain⟨A44,c45,rfl,z43s0⟩:=z43r
             have hX46:(RX.of (aq 3 bg) [.slice A44 x41.xp.length c45] x41.xp).reads w F:=⟨z43S,z43s0,z43rr⟩
             refine TL.q Z .u (vM (k:=0) Z Z Z xZ xX (xS hx42).1) Z ?_
             refine TL.q Z .u (wj (us := [jI x41.xC,jI x41.xx,.bool x41.xu.null,jS x41.xu.data,.bool x41.xn.null,jS x41.xn.data,.slice A44 x41.xp.length c45]) 0 Z yt xX z43nf z43cc Z Z Z) Z ?_
             obtain⟨⟨x47,x48,x49⟩,hx50,h⟩:=xL h
             try dsimp only at h
             refine vL Z .u (.fn Tryz.call27 Z) (lI x41 _ _ _ hx50) (fun _ hs=>(vK hs hX46)) Z (TL.run aa [5,6,7,8,9,10,11] Z Z (TL.nil (X.seq (T.seq (T.region Z (TL.run aa [0,1] Z Z ?_))))))
             rcases jF h with⟨c51,h⟩ | ⟨c51,h⟩
             ·refine TL.nil (X.seq (vC Z (aw (xM c51)) (T.skip (X.seq (T.seq (T.region Z (TL.q Z .u (vE (us := [jI a0.xy,jI a0.xt,.bool a0.xA,.bool a0.xE,.bool a0.xz,jI a0.xw,jI a0.xr,jI a0.xB,jI a0.xq,jI a0.xv,jI a0.xo,.slice (some ⟨gz43,oz43,none⟩) a0.xm.length c2]) 0 Z yr yb Z Z Z) Z ?_)))))))
              obtain⟨x52,hx53,h⟩:=xL h
              refine vL Z .u (.fn Tryz.call28 Z) (gk a0 _ _ _ hx53) (fun _ hs=>(vK hs hX)) Z (TL.run aa [2] Z Z ?_)
              obtain rfl:=xO h
              exact TL.nil (X.seq (T.ret (vu [1] yI (vt Z) ⟨Z,Z,Z⟩ (by rfl) (.inl Z))))
             ·refine TL.nil (X.seq (vw Z (aH (xN c51)) (T.seq (T.region Z (TL.run aa [0,1] Z Z ?_)))))
              obtain rfl:=xO h
              exact TL.nil (X.seq (T.ret (vx (vu [1] yI (vt Z) ⟨Z,Z,Z⟩ (by rfl) (.inl Z)))))
          ·refine TL.nil (X.seq (vw Z (aH (xN c20)) (T.seq (T.region Z (TL.run aa [0] Z Z ?_)))))
           obtain rfl:=xO h
           exact TL.nil (X.seq (T.ret (vx (vu [1] yI (vt Z) ⟨Z,Z,Z⟩ (by rfl) (.inl Z)))))
         ·replace c19:=xW c19
          refine TL.nil (X.seq (vw Z (aH c19) (T.seq (T.region Z (TL.run aa [0] Z Z ?_)))))
          obtain rfl:=xO h
          exact TL.nil (X.seq (T.ret (vx (vu [1] yI (vt Z) ⟨Z,Z,Z⟩ (by rfl) (.inl Z)))))
        ·replace c16:=xW c16
         refine TL.nil (X.seq (vw Z (aH c16) (T.seq (T.region Z (TL.run aa [0] Z Z ?_)))))
         obtain rfl:=xO h
         exact TL.nil (X.seq (T.ret (vx (vu [1] yI (vt Z) ⟨Z,Z,Z⟩ (by rfl) (.inl Z)))))
       ·replace c15:=xW c15
        refine TL.run aa [2] Z Z ?_
        iterate 3 refine vv Z (.gn Z Z c15) Z ?_
        refine TL.q Z .u (vB Z c15 Z) Z (TL.nil (X.seq (vC Z Z (T.skip (X.seq (T.seq (T.seq (T.region Z (TL.q Z .u (vE (us := [jI a0.xy,jI a0.xt,.bool a0.xA,.bool a0.xE,.bool a0.xz,jI a0.xw,jI a0.xr,jI a0.xB,jI a0.xq,jI a0.xv,jI a0.xo,.slice A1 a0.xm.length c2]) 0 Z yr yb Z Z Z) Z ?_)))))))))
        obtain⟨x69,hx70,h⟩:=xL h
        refine vL Z .u (.fn Tryz.call25 Z) (fw a0 _ _ _ hx70) (fun _ hs=>(vK hs hX)) Z (TL.run aa [2] Z Z ?_)
        rcases jF h with⟨c71,h⟩ | ⟨c71,h⟩
        ·refine TL.nil (X.seq (vC Z (aw c71) (T.skip (X.seq (T.seq (T.seq (T.region Z (TL.run aa [0] Z Z (TL.q Z .u (vr 0 Z yo Z Z) Z (TL.run aa [2] Z Z ?_))))))))))
         iterate 4 refine vv Z (.gn Z Z c15) Z ?_
         refine TL.q Z .u (vB Z c15 Z) Z (TL.nil (X.seq (vC Z Z (T.skip (X.seq (T.seq (T.seq (T.region Z (TL.run aa [0] Z Z (TL.nil (X.seq (T.block ?_))))))))))))
         obtain⟨E74,hE75,hO76⟩:=xL h
         refine v9 (fun m e Rs=> ∃ (y72:Int) (k73:Nat),e = [(1,jP b3),(2,jI y72),(3,jI (k73:Int))]∧Rs = [aA b3 43 #[jI a0.xy,jI a0.xt,.bool a0.xA,.bool a0.xE,.bool a0.xz,jI a0.xw,jI a0.xr,jI a0.xB,jI a0.xq,jI a0.xv,jI a0.xo,.slice A1 a0.xm.length c2],av]∧cL a0 m y72 k73=some E74) (((a0.xm.length:Int)).toNat+1) [0,0] ⟨0,0,Z,Z,by exact hE75⟩ (by rfl) (by rfl) ?_
         rintro m77 _ _ ⟨y72,k73,rfl,rfl,hl79⟩
         clear hE75 h
         cases m77 with
         | zero =>
          rw[cL] at hl79
          cases hl79
         | succ m77 =>
          have h:=hl79
          clear hl79
          rw[cL] at h
          refine T.seq (T.seq (T.region Z (TL.run aa [0,1] Z Z (TL.q Z .u (vr 0 Z yq Z Z) Z (TL.q Z .u (vH Z xZ) Z (TL.run aa [4] Z Z ?_))))))
          rcases jF h with⟨c81,h⟩ | ⟨c81,h⟩
          ·refine TL.nil (X.seq (vw Z (xM c81) (T.skip (X.seq (T.seq (T.block (T.seq (T.region Z (TL.run aa [0] Z Z (TL.q Z .u (vr 0 Z yq Z Z) Z ?_))))))))))
           obtain⟨x82,hx83,h⟩:=xL h
           obtain⟨gz84,oz84,rfl,z84cs,z84cl,z84cc,z84nf,z84r⟩:=vV (by decide) hX hx83
           obtain⟨z84S,z84r,z84rr⟩:=z84r
           obtain⟨A85,c86,rfl,z84s0⟩:=z84r
           have hX87:(RX.of (aq 3 bg) [.slice A85 x82.xp.length c86] x82.xp).reads w F:=⟨z84S,z84s0,z84rr⟩
           refine TL.run aa [2] Z Z ?_
           refine TL.q Z .u (vM (k:=k73) Z Z Z xZ xX (xS hx83).1) Z ?_
           refine TL.q Z .u (wj (us := [jI x82.xC,jI x82.xx,.bool x82.xu.null,jS x82.xu.data,.bool x82.xn.null,jS x82.xn.data,.slice A85 x82.xp.length c86]) 0 Z yt xX z84nf z84cc Z Z Z) Z ?_
           obtain⟨x88,hx89,h⟩:=xL h
           refine vL Z .u (.fn Tryz.call26 Z) (gE x82 _ _ _ hx89) (fun _ hs=>(vK hs hX87)) Z (TL.run aa [6] Z Z (TL.nil (X.seq (T.seq (T.region Z (TL.run aa [0,1] Z Z ?_))))))
           rcases jF h with⟨c90,h⟩ | ⟨c90,h⟩
           ·refine TL.nil (X.seq (vC Z (aw (xM c90)) (T.skip (vF (X.seq (T.region Z ?_))))))
            replace h:=ak h
            obtain⟨c91,h⟩:=h
            exact TL.run aa [0] Z Z (TL.q Z .u (Ex.add Z Z c91) Z (TL.run aa [2] Z Z (TL.nil (X.back (m':=m77) [0,0] (by omega) ⟨y72,k73+1,Z,Z,h⟩ (by rfl) (by rfl)))))
           ·refine TL.nil (X.seq (vw Z (aH (xN c90)) (T.seq (T.region Z (TL.run aa [0,1] Z Z ?_)))))
            obtain rfl:=xO h
            replace h:=hO76
            clear hO76
            try dsimp only at h
            obtain rfl:=xO h
            exact TL.nil (X.seq (T.ret (vJ (vx (vx (vJ (vx (vu [1] yI (vt Z) ⟨Z,Z,Z⟩ (by rfl) (.inl Z)))))))))
          ·refine TL.nil (X.seq (vC Z (xN c81) ?_))
           obtain rfl:=xO h
           replace h:=hO76
           clear hO76
           try dsimp only at h
           refine T.exit (vD (vD (v6 (X.seq (T.seq (T.seq (T.region Z (TL.run aa [0] Z Z (TL.q Z .u (vr 0 Z yo Z Z) Z (TL.nil (X.seq (vC Z c15 (T.skip (X.seq (T.seq (T.region Z (TL.q Z .u (vE (us := [jI a0.xy,jI a0.xt,.bool a0.xA,.bool a0.xE,.bool a0.xz,jI a0.xw,jI a0.xr,jI a0.xB,jI a0.xq,jI a0.xv,jI a0.xo,.slice A1 a0.xm.length c2]) 0 Z yr yb Z Z Z) Z ?_)))))))))))))))))
           obtain⟨x92,hx93,h⟩:=xL h
           refine vL Z .u (.fn Tryz.call28 Z) (gk a0 _ _ _ hx93) (fun _ hs=>(vK hs hX)) Z (TL.run aa [2] Z Z ?_)
           obtain rfl:=xO h
           exact TL.nil (X.seq (T.ret (vu [1] yI (vt Z) ⟨Z,Z,Z⟩ (by rfl) (.inl Z))))
        ·replace c71:=xW c71
         refine TL.nil (X.seq (vw Z (aH c71) (T.seq (T.region Z (TL.run aa [0] Z Z ?_)))))
         obtain rfl:=xO h
         exact TL.nil (X.seq (T.ret (vx (vu [1] yI (vt Z) ⟨Z,Z,Z⟩ (by rfl) (.inl Z)))))
   ·replace c10:=xW c10
    refine TL.run aa [15] Z Z ?_
    iterate 6 refine vv Z (.gn Z Z (aH c10)) Z ?_
    refine TL.q Z .u (vz Z (aH c10) Z) Z (TL.run aa [23] Z Z ?_)
    iterate 3 refine vv Z (.gn Z Z Z) Z ?_
    refine TL.q Z .u (vz Z Z Z) Z (TL.run aa [28] Z Z ?_)
    iterate 3 refine vv Z (.gn Z Z Z) Z ?_
    refine TL.q Z .u (vz Z Z Z) Z (TL.nil (X.seq (vw Z Z (T.seq (T.region Z (TL.run aa [0] Z Z ?_))))))
    obtain rfl:=xO h
    exact TL.nil (X.seq (T.ret (vx (vu [1] yI (vt Z) ⟨Z,Z,Z⟩ (by rfl) (.inl Z)))))
  ·replace c7:=xW c7
   refine TL.run aa [9] Z Z ?_
   iterate 4 refine vv Z (.gn Z Z (aH c7)) Z ?_
   refine TL.q Z .u (vz Z (aH c7) Z) Z (TL.run aa [15] Z Z ?_)
   iterate 6 refine vv Z (.gn Z Z Z) Z ?_
   refine TL.q Z .u (vz Z Z Z) Z (TL.run aa [23] Z Z ?_)
   iterate 3 refine vv Z (.gn Z Z Z) Z ?_
   refine TL.q Z .u (vz Z Z Z) Z (TL.run aa [28] Z Z ?_)
   iterate 3 refine vv Z (.gn Z Z Z) Z ?_
   refine TL.q Z .u (vz Z Z Z) Z (TL.nil (X.seq (vw Z Z (T.seq (T.region Z (TL.run aa [0] Z Z ?_))))))
   obtain rfl:=xO h
   exact TL.nil (X.seq (T.ret (vx (vu [1] yI (vt Z) ⟨Z,Z,Z⟩ (by rfl) (.inl Z)))))
def cC (a0:Bat) (a1:Bat):Nat→Bool→Nat→Option (Lp Bool (Bool×Nat))
 | 0,_,_=>none
 | m38+1,y33,k34=>if (k34:Int)<(a0.xm.length:Int) then ((a0.xm[k34]?).bind fun x43=>(a1.xm[k34]?).bind fun x49=>(fN x43 x49).bind fun x55=>if x55=true then (if -9223372036854775808≤((k34:Int)+1)∧((k34:Int)+1)≤9223372036854775807 then (cC a0 a1 m38 y33 (k34+1)) else none) else some (Lp.ret false)) else (some (Lp.go (y33,k34)))
def fS (a0:Bat) (a1:Bat):Option (Bool):=(if a0.xy=a1.xy then (if a0.xt=a1.xt then (if (a0.xA == a1.xA)=true then (if (a0.xE == a1.xE)=true then (if (a0.xz == a1.xz)=true then (if a0.xw=a1.xw then (if a0.xr=a1.xr then (if a0.xB=a1.xB then (if a0.xq=a1.xq then (if a0.xv=a1.xv then (if a0.xo=a1.xo then (if (a0.xm.length:Int)=(a1.xm.length:Int) then some false else some true) else some true) else some true) else some true) else some true) else some true) else some true) else some true) else some true) else some true) else some true) else some true).bind fun y18=>if y18=true then some false else ((cC a0 a1 (((a0.xm.length:Int)).toNat+1) false 0).bind fun e=>match e with | .ret r=>some r | .go (y59,k60)=>some true)
theorem lJ (a0:Bat) (A1:Option Addr) (c2:Nat) (a1:Bat) (A3:Option Addr) (c4:Nat) (r:Bool) (h:fS a0 a1=some r):ar Tryz.prog 19 #[.agg #[jI a0.xy,jI a0.xt,.bool a0.xA,.bool a0.xE,.bool a0.xz,jI a0.xw,jI a0.xr,jI a0.xB,jI a0.xq,jI a0.xv,jI a0.xo,.slice A1 a0.xm.length c2],.agg #[jI a1.xy,jI a1.xt,.bool a1.xA,.bool a1.xE,.bool a1.xz,jI a1.xw,jI a1.xr,jI a1.xB,jI a1.xq,jI a1.xv,jI a1.xo,.slice A3 a1.xm.length c4]] (RX.and (RX.of (aq 7 bj) [.slice A1 a0.xm.length c2] a0.xm) (RX.of (aq 7 bj) [.slice A3 a1.xm.length c4] a1.xm)) (av) (fun v A' N=>v= .bool r∧A'=av∧N = []):=by
 refine aJ Tryz.func19 Z Tryz.ntmps19 Z ?_
 intro F w hX
 unfold fS at h
 refine T.seq (T.region Z (TL.box Z .u Z Z (fun b5=>(TL.box Z .u Z Z (fun b6=>(TL.run aa [2] Z Z (TL.nil (X.seq (T.seq (T.seq ?_))))))))))
 obtain⟨y18,h,hk19⟩:=xL h
 refine wn (fun e Rs=>e = [(2,jP b5),(3,jP b6),(4,.bool false),(89,.bool y18)]∧Rs = [aA b6 43 #[jI a1.xy,jI a1.xt,.bool a1.xA,.bool a1.xE,.bool a1.xz,jI a1.xw,jI a1.xr,jI a1.xB,jI a1.xq,jI a1.xv,jI a1.xo,.slice A3 a1.xm.length c4],aA b5 43 #[jI a0.xy,jI a0.xt,.bool a0.xA,.bool a0.xE,.bool a0.xz,jI a0.xw,jI a0.xr,jI a0.xB,jI a0.xq,jI a0.xv,jI a0.xo,.slice A1 a0.xm.length c2],av]) ?_ ?_
 ·clear hk19
  refine T.region Z (TL.run aa [0] Z Z (TL.q Z .u (vr 1 Z xQ Z Z) Z (TL.run aa [2] Z Z (TL.q Z .u (vr 0 Z xQ Z Z) Z ?_))))
  rcases jF h with⟨c20,h⟩ | ⟨c20,h⟩
  ·refine TL.run aa [4,5] Z Z (TL.q Z (.g Z Z (aw (xM c20))) (vA aa Z) Z (TL.q Z (.g Z Z (aw (xM c20))) (vr 1 Z xQ Z Z) Z (TL.q Z (.g Z Z (aw (xM c20))) (vA aa Z) Z (TL.q Z (.g Z Z (aw (xM c20))) (vr 0 Z xQ Z Z) Z (TL.q Z (.g Z Z (aw (xM c20))) (vA aa Z) Z (TL.q Z .u (vB Z (aw (xM c20)) Z) Z ?_))))))
   rcases jF h with⟨c21,h⟩ | ⟨c21,h⟩
   ·refine TL.run aa [12] Z Z (TL.q Z (.g Z Z (aw (xM c21))) (vA aa Z) Z (TL.q Z (.g Z Z (aw (xM c21))) (vr 1 Z yo Z Z) Z (TL.q Z (.g Z Z (aw (xM c21))) (vA aa Z) Z (TL.q Z (.g Z Z (aw (xM c21))) (vr 0 Z yo Z Z) Z (TL.q Z (.g Z Z (aw (xM c21))) (Ex.bNe Z Z Z Z zF) Z (TL.q Z .u (vB Z (aw (xM c21)) Z) Z ?_))))))
    rcases jF h with⟨c22,h⟩ | ⟨c22,h⟩
    ·refine TL.run aa [19] Z Z (TL.q Z (.g Z Z (aw c22)) (vA aa Z) Z (TL.q Z (.g Z Z (aw c22)) (vr 1 Z yo Z Z) Z (TL.q Z (.g Z Z (aw c22)) (vA aa Z) Z (TL.q Z (.g Z Z (aw c22)) (vr 0 Z yo Z Z) Z (TL.q Z (.g Z Z (aw c22)) (Ex.bNe Z Z Z Z zF) Z (TL.q Z .u (vB Z (aw c22) Z) Z ?_))))))
     rcases jF h with⟨c23,h⟩ | ⟨c23,h⟩
     ·refine TL.run aa [26] Z Z (TL.q Z (.g Z Z (aw c23)) (vA aa Z) Z (TL.q Z (.g Z Z (aw c23)) (vr 1 Z yo Z Z) Z (TL.q Z (.g Z Z (aw c23)) (vA aa Z) Z (TL.q Z (.g Z Z (aw c23)) (vr 0 Z yo Z Z) Z (TL.q Z (.g Z Z (aw c23)) (Ex.bNe Z Z Z Z zF) Z (TL.q Z .u (vB Z (aw c23) Z) Z ?_))))))
      rcases jF h with⟨c24,h⟩ | ⟨c24,h⟩
      ·refine TL.run aa [33] Z Z (TL.q Z (.g Z Z (aw c24)) (vA aa Z) Z (TL.q Z (.g Z Z (aw c24)) (vr 1 Z xQ Z Z) Z (TL.q Z (.g Z Z (aw c24)) (vA aa Z) Z (TL.q Z (.g Z Z (aw c24)) (vr 0 Z xQ Z Z) Z (TL.q Z (.g Z Z (aw c24)) (vA aa Z) Z (TL.q Z .u (vB Z (aw c24) Z) Z ?_))))))
       rcases jF h with⟨c25,h⟩ | ⟨c25,h⟩
       ·refine TL.run aa [40] Z Z (TL.q Z (.g Z Z (aw (xM c25))) (vA aa Z) Z (TL.q Z (.g Z Z (aw (xM c25))) (vr 1 Z xQ Z Z) Z (TL.q Z (.g Z Z (aw (xM c25))) (vA aa Z) Z (TL.q Z (.g Z Z (aw (xM c25))) (vr 0 Z xQ Z Z) Z (TL.q Z (.g Z Z (aw (xM c25))) (vA aa Z) Z (TL.q Z .u (vB Z (aw (xM c25)) Z) Z ?_))))))
        rcases jF h with⟨c26,h⟩ | ⟨c26,h⟩
        ·refine TL.run aa [47] Z Z (TL.q Z (.g Z Z (aw (xM c26))) (vA aa Z) Z (TL.q Z (.g Z Z (aw (xM c26))) (vr 1 Z xQ Z Z) Z (TL.q Z (.g Z Z (aw (xM c26))) (vA aa Z) Z (TL.q Z (.g Z Z (aw (xM c26))) (vr 0 Z xQ Z Z) Z (TL.q Z (.g Z Z (aw (xM c26))) (vA aa Z) Z (TL.q Z .u (vB Z (aw (xM c26)) Z) Z ?_))))))
         rcases jF h with⟨c27,h⟩ | ⟨c27,h⟩
         ·refine TL.run aa [54] Z Z (TL.q Z (.g Z Z (aw (xM c27))) (vA aa Z) Z (TL.q Z (.g Z Z (aw (xM c27))) (vr 1 Z xQ Z Z) Z (TL.q Z (.g Z Z (aw (xM c27))) (vA aa Z) Z (TL.q Z (.g Z Z (aw (xM c27))) (vr 0 Z xQ Z Z) Z (TL.q Z (.g Z Z (aw (xM c27))) (vA aa Z) Z (TL.q Z .u (vB Z (aw (xM c27)) Z) Z ?_))))))
          rcases jF h with⟨c28,h⟩ | ⟨c28,h⟩
          ·refine TL.run aa [61] Z Z (TL.q Z (.g Z Z (aw (xM c28))) (vA aa Z) Z (TL.q Z (.g Z Z (aw (xM c28))) (vr 1 Z xQ Z Z) Z (TL.q Z (.g Z Z (aw (xM c28))) (vA aa Z) Z (TL.q Z (.g Z Z (aw (xM c28))) (vr 0 Z xQ Z Z) Z (TL.q Z (.g Z Z (aw (xM c28))) (vA aa Z) Z (TL.q Z .u (vB Z (aw (xM c28)) Z) Z ?_))))))
           rcases jF h with⟨c29,h⟩ | ⟨c29,h⟩
           ·refine TL.run aa [68] Z Z (TL.q Z (.g Z Z (aw (xM c29))) (vA aa Z) Z (TL.q Z (.g Z Z (aw (xM c29))) (vr 1 Z xQ Z Z) Z (TL.q Z (.g Z Z (aw (xM c29))) (vA aa Z) Z (TL.q Z (.g Z Z (aw (xM c29))) (vr 0 Z xQ Z Z) Z (TL.q Z (.g Z Z (aw (xM c29))) (vA aa Z) Z (TL.q Z .u (vB Z (aw (xM c29)) Z) Z ?_))))))
            rcases jF h with⟨c30,h⟩ | ⟨c30,h⟩
            ·refine TL.run aa [75] Z Z (TL.q Z (.g Z Z (aw (xM c30))) (vA aa Z) Z (TL.q Z (.g Z Z (aw (xM c30))) (vr 1 Z yq Z Z) Z (TL.q Z (.g Z Z (aw (xM c30))) (vH Z xZ) Z (TL.q Z (.g Z Z (aw (xM c30))) (vA aa Z) Z (TL.q Z (.g Z Z (aw (xM c30))) (vr 0 Z yq Z Z) Z (TL.q Z (.g Z Z (aw (xM c30))) (vH Z xZ) Z (TL.q Z (.g Z Z (aw (xM c30))) (vA aa Z) Z ?_)))))))
             refine TL.q Z .u (vB Z (aw (xM c30)) Z) Z ?_
             rcases jF h with⟨c31,h⟩ | ⟨c31,h⟩
             ·cases h
              exact TL.nil (wE (d:=89) (v':= .bool false) Z (congrArg Value.bool (aw (xM c31))) (vN [0,0,0] ⟨Z,Z⟩ (by rfl) (by rfl)))
             ·cases h
              exact TL.nil (wE (d:=89) (v':= .bool true) Z (congrArg Value.bool (aH (xN c31))) (vN [0,0,0] ⟨Z,Z⟩ (by rfl) (by rfl)))
            ·refine TL.run aa [75] Z Z ?_
             iterate 7 refine vv Z (.gn Z Z (aH (xN c30))) Z ?_
             refine TL.q Z .u (vz Z (aH (xN c30)) Z) Z ?_
             cases h
             exact TL.nil (vN [0,0,0] ⟨Z,Z⟩ (by rfl) (by rfl))
           ·refine TL.run aa [68] Z Z ?_
            iterate 5 refine vv Z (.gn Z Z (aH (xN c29))) Z ?_
            refine TL.q Z .u (vz Z (aH (xN c29)) Z) Z (TL.run aa [75] Z Z ?_)
            iterate 7 refine vv Z (.gn Z Z Z) Z ?_
            refine TL.q Z .u (vz Z Z Z) Z ?_
            cases h
            exact TL.nil (vN [0,0,0] ⟨Z,Z⟩ (by rfl) (by rfl))
          ·refine TL.run aa [61] Z Z ?_
           iterate 5 refine vv Z (.gn Z Z (aH (xN c28))) Z ?_
           refine TL.q Z .u (vz Z (aH (xN c28)) Z) Z (TL.run aa [68] Z Z ?_)
           iterate 5 refine vv Z (.gn Z Z Z) Z ?_
           refine TL.q Z .u (vz Z Z Z) Z (TL.run aa [75] Z Z ?_)
           iterate 7 refine vv Z (.gn Z Z Z) Z ?_
           refine TL.q Z .u (vz Z Z Z) Z ?_
           cases h
           exact TL.nil (vN [0,0,0] ⟨Z,Z⟩ (by rfl) (by rfl))
         ·refine TL.run aa [54] Z Z ?_
          iterate 5 refine vv Z (.gn Z Z (aH (xN c27))) Z ?_
          refine TL.q Z .u (vz Z (aH (xN c27)) Z) Z (TL.run aa [61] Z Z ?_)
          iterate 5 refine vv Z (.gn Z Z Z) Z ?_
          refine TL.q Z .u (vz Z Z Z) Z (TL.run aa [68] Z Z ?_)
          iterate 5 refine vv Z (.gn Z Z Z) Z ?_
          refine TL.q Z .u (vz Z Z Z) Z (TL.run aa [75] Z Z ?_)
          iterate 7 refine vv Z (.gn Z Z Z) Z ?_
          refine TL.q Z .u (vz Z Z Z) Z ?_
          cases h
          exact TL.nil (vN [0,0,0] ⟨Z,Z⟩ (by rfl) (by rfl))
        ·refine TL.run aa [47] Z Z ?_
         iterate 5 refine vv Z (.gn Z Z (aH (xN c26))) Z ?_
         refine TL.q Z .u (vz Z (aH (xN c26)) Z) Z (TL.run aa [54] Z Z ?_)
         iterate 5 refine vv Z (.gn Z Z Z) Z ?_
         refine TL.q Z .u (vz Z Z Z) Z (TL.run aa [61] Z Z ?_)
         iterate 5 refine vv Z (.gn Z Z Z) Z ?_
         refine TL.q Z .u (vz Z Z Z) Z (TL.run aa [68] Z Z ?_)
         iterate 5 refine vv Z (.gn Z Z Z) Z ?_
         refine TL.q Z .u (vz Z Z Z) Z (TL.run aa [75] Z Z ?_)
         iterate 7 refine vv Z (.gn Z Z Z) Z ?_
         refine TL.q Z .u (vz Z Z Z) Z ?_
         cases h
         exact TL.nil (vN [0,0,0] ⟨Z,Z⟩ (by rfl) (by rfl))
       ·refine TL.run aa [40] Z Z ?_
        iterate 5 refine vv Z (.gn Z Z (aH (xN c25))) Z ?_
        refine TL.q Z .u (vz Z (aH (xN c25)) Z) Z (TL.run aa [47] Z Z ?_)
        iterate 5 refine vv Z (.gn Z Z Z) Z ?_
        refine TL.q Z .u (vz Z Z Z) Z (TL.run aa [54] Z Z ?_)
        iterate 5 refine vv Z (.gn Z Z Z) Z ?_
        refine TL.q Z .u (vz Z Z Z) Z (TL.run aa [61] Z Z ?_)
        iterate 5 refine vv Z (.gn Z Z Z) Z ?_
        refine TL.q Z .u (vz Z Z Z) Z (TL.run aa [68] Z Z ?_)
        iterate 5 refine vv Z (.gn Z Z Z) Z ?_
        refine TL.q Z .u (vz Z Z Z) Z (TL.run aa [75] Z Z ?_)
        iterate 7 refine vv Z (.gn Z Z Z) Z ?_
        refine TL.q Z .u (vz Z Z Z) Z ?_
        cases h
        exact TL.nil (vN [0,0,0] ⟨Z,Z⟩ (by rfl) (by rfl))
      ·replace c24:=xW c24
       refine TL.run aa [33] Z Z ?_
       iterate 5 refine vv Z (.gn Z Z (aH c24)) Z ?_
       refine TL.q Z .u (vz Z (aH c24) Z) Z (TL.run aa [40] Z Z ?_)
       iterate 5 refine vv Z (.gn Z Z Z) Z ?_
       refine TL.q Z .u (vz Z Z Z) Z (TL.run aa [47] Z Z ?_)
       iterate 5 refine vv Z (.gn Z Z Z) Z ?_
       refine TL.q Z .u (vz Z Z Z) Z (TL.run aa [54] Z Z ?_)
       iterate 5 refine vv Z (.gn Z Z Z) Z ?_
       refine TL.q Z .u (vz Z Z Z) Z (TL.run aa [61] Z Z ?_)
       iterate 5 refine vv Z (.gn Z Z Z) Z ?_
       refine TL.q Z .u (vz Z Z Z) Z (TL.run aa [68] Z Z ?_)
       iterate 5 refine vv Z (.gn Z Z Z) Z ?_
       refine TL.q Z .u (vz Z Z Z) Z (TL.run aa [75] Z Z ?_)
       iterate 7 refine vv Z (.gn Z Z Z) Z ?_
       refine TL.q Z .u (vz Z Z Z) Z ?_
       cases h
       exact TL.nil (vN [0,0,0] ⟨Z,Z⟩ (by rfl) (by rfl))
     ·replace c23:=xW c23
      refine TL.run aa [26] Z Z ?_
      iterate 5 refine vv Z (.gn Z Z (aH c23)) Z ?_
      refine TL.q Z .u (vz Z (aH c23) Z) Z (TL.run aa [33] Z Z ?_)
      iterate 5 refine vv Z (.gn Z Z Z) Z ?_
      refine TL.q Z .u (vz Z Z Z) Z (TL.run aa [40] Z Z ?_)
      iterate 5 refine vv Z (.gn Z Z Z) Z ?_
      refine TL.q Z .u (vz Z Z Z) Z (TL.run aa [47] Z Z ?_)
      iterate 5 refine vv Z (.gn Z Z Z) Z ?_
      refine TL.q Z .u (vz Z Z Z) Z (TL.run aa [54] Z Z ?_)
      iterate 5 refine vv Z (.gn Z Z Z) Z ?_
      refine TL.q Z .u (vz Z Z Z) Z (TL.run aa [61] Z Z ?_)
      iterate 5 refine vv Z (.gn Z Z Z) Z ?_
      refine TL.q Z .u (vz Z Z Z) Z (TL.run aa [68] Z Z ?_)
      iterate 5 refine vv Z (.gn Z Z Z) Z ?_
      refine TL.q Z .u (vz Z Z Z) Z (TL.run aa [75] Z Z ?_)
      iterate 7 refine vv Z (.gn Z Z Z) Z ?_
      refine TL.q Z .u (vz Z Z Z) Z ?_
      cases h
      exact TL.nil (vN [0,0,0] ⟨Z,Z⟩ (by rfl) (by rfl))
    ·replace c22:=xW c22
     refine TL.run aa [19] Z Z ?_
     iterate 5 refine vv Z (.gn Z Z (aH c22)) Z ?_
     refine TL.q Z .u (vz Z (aH c22) Z) Z (TL.run aa [26] Z Z ?_)
     iterate 5 refine vv Z (.gn Z Z Z) Z ?_
     refine TL.q Z .u (vz Z Z Z) Z (TL.run aa [33] Z Z ?_)
     iterate 5 refine vv Z (.gn Z Z Z) Z ?_
     refine TL.q Z .u (vz Z Z Z) Z (TL.run aa [40] Z Z ?_)
     iterate 5 refine vv Z (.gn Z Z Z) Z ?_
     refine TL.q Z .u (vz Z Z Z) Z (TL.run aa [47] Z Z ?_)
     iterate 5 refine vv Z (.gn Z Z Z) Z ?_
     refine TL.q Z .u (vz Z Z Z) Z (TL.run aa [54] Z Z ?_)
     iterate 5 refine vv Z (.gn Z Z Z) Z ?_
     refine TL.q Z .u (vz Z Z Z) Z (TL.run aa [61] Z Z ?_)
     iterate 5 refine vv Z (.gn Z Z Z) Z ?_
     refine TL.q Z .u (vz Z Z Z) Z (TL.run aa [68] Z Z ?_)
     iterate 5 refine vv Z (.gn Z Z Z) Z ?_
     refine TL.q Z .u (vz Z Z Z) Z (TL.run aa [75] Z Z ?_)
     iterate 7 refine vv Z (.gn Z Z Z) Z ?_
     refine TL.q Z .u (vz Z Z Z) Z ?_
     cases h
     exact TL.nil (vN [0,0,0] ⟨Z,Z⟩ (by rfl) (by rfl))
   ·refine TL.run aa [12] Z Z ?_
    iterate 5 refine vv Z (.gn Z Z (aH (xN c21))) Z ?_
    refine TL.q Z .u (vz Z (aH (xN c21)) Z) Z (TL.run aa [19] Z Z ?_)
    iterate 5 refine vv Z (.gn Z Z Z) Z ?_
    refine TL.q Z .u (vz Z Z Z) Z (TL.run aa [26] Z Z ?_)
    iterate 5 refine vv Z (.gn Z Z Z) Z ?_
    refine TL.q Z .u (vz Z Z Z) Z (TL.run aa [33] Z Z ?_)
    iterate 5 refine vv Z (.gn Z Z Z) Z ?_
    refine TL.q Z .u (vz Z Z Z) Z (TL.run aa [40] Z Z ?_)
    iterate 5 refine vv Z (.gn Z Z Z) Z ?_
    refine TL.q Z .u (vz Z Z Z) Z (TL.run aa [47] Z Z ?_)
    iterate 5 refine vv Z (.gn Z Z Z) Z ?_
    refine TL.q Z .u (vz Z Z Z) Z (TL.run aa [54] Z Z ?_)
    iterate 5 refine vv Z (.gn Z Z Z) Z ?_
    refine TL.q Z .u (vz Z Z Z) Z (TL.run aa [61] Z Z ?_)
    iterate 5 refine vv Z (.gn Z Z Z) Z ?_
    refine TL.q Z .u (vz Z Z Z) Z (TL.run aa [68] Z Z ?_)
    iterate 5 refine vv Z (.gn Z Z Z) Z ?_
    refine TL.q Z .u (vz Z Z Z) Z (TL.run aa [75] Z Z ?_)
    iterate 7 refine vv Z (.gn Z Z Z) Z ?_
    refine TL.q Z .u (vz Z Z Z) Z ?_
    cases h
    exact TL.nil (vN [0,0,0] ⟨Z,Z⟩ (by rfl) (by rfl))
  ·refine TL.run aa [4,5] Z Z ?_
   iterate 5 refine vv Z (.gn Z Z (aH (xN c20))) Z ?_
   refine TL.q Z .u (vz Z (aH (xN c20)) Z) Z (TL.run aa [12] Z Z ?_)
   iterate 5 refine vv Z (.gn Z Z Z) Z ?_
   refine TL.q Z .u (vz Z Z Z) Z (TL.run aa [19] Z Z ?_)
   iterate 5 refine vv Z (.gn Z Z Z) Z ?_
   refine TL.q Z .u (vz Z Z Z) Z (TL.run aa [26] Z Z ?_)
   iterate 5 refine vv Z (.gn Z Z Z) Z ?_
   refine TL.q Z .u (vz Z Z Z) Z (TL.run aa [33] Z Z ?_)
   iterate 5 refine vv Z (.gn Z Z Z) Z ?_
   refine TL.q Z .u (vz Z Z Z) Z (TL.run aa [40] Z Z ?_)
   iterate 5 refine vv Z (.gn Z Z Z) Z ?_
   refine TL.q Z .u (vz Z Z Z) Z (TL.run aa [47] Z Z ?_)
   iterate 5 refine vv Z (.gn Z Z Z) Z ?_
   refine TL.q Z .u (vz Z Z Z) Z (TL.run aa [54] Z Z ?_)
   iterate 5 refine vv Z (.gn Z Z Z) Z ?_
   refine TL.q Z .u (vz Z Z Z) Z (TL.run aa [61] Z Z ?_)
   iterate 5 refine vv Z (.gn Z Z Z) Z ?_
   refine TL.q Z .u (vz Z Z Z) Z (TL.run aa [68] Z Z ?_)
   iterate 5 refine vv Z (.gn Z Z Z) Z ?_
   refine TL.q Z .u (vz Z Z Z) Z (TL.run aa [75] Z Z ?_)
   iterate 7 refine vv Z (.gn Z Z Z) Z ?_
   refine TL.q Z .u (vz Z Z Z) Z ?_
   cases h
   exact TL.nil (vN [0,0,0] ⟨Z,Z⟩ (by rfl) (by rfl))
 ·rintro _ _ ⟨rfl,rfl⟩
  clear h
  have h:=hk19
  clear hk19
  try dsimp only at h
  rcases jF h with⟨c32,h⟩ | ⟨c32,h⟩
  ·refine X.seq (vw Z c32 (T.seq (T.region Z (TL.run aa [0] Z Z ?_))))
   obtain rfl:=xO h
   exact TL.nil (X.seq (T.ret (vx (vu [2] Tryz.results19 (vt Z) ⟨Z,Z,Z⟩ (by rfl) (.inl Z)))))
  ·replace c32:=xW c32
   refine X.seq (vC Z c32 (T.skip (X.seq (T.seq (T.seq (T.region Z (TL.run aa [0] Z Z (TL.nil (X.seq (T.block ?_))))))))))
   obtain⟨E35,hE36,hO37⟩:=xL h
   refine v9 (fun m e Rs=> ∃ (y33:Bool) (k34:Nat),e = [(2,jP b5),(3,jP b6),(4,.bool y33),(5,jI (k34:Int))]∧Rs = [aA b6 43 #[jI a1.xy,jI a1.xt,.bool a1.xA,.bool a1.xE,.bool a1.xz,jI a1.xw,jI a1.xr,jI a1.xB,jI a1.xq,jI a1.xv,jI a1.xo,.slice A3 a1.xm.length c4],aA b5 43 #[jI a0.xy,jI a0.xt,.bool a0.xA,.bool a0.xE,.bool a0.xz,jI a0.xw,jI a0.xr,jI a0.xB,jI a0.xq,jI a0.xv,jI a0.xo,.slice A1 a0.xm.length c2],av]∧cC a0 a1 m y33 k34=some E35) (((a0.xm.length:Int)).toNat+1) [0,0,0] ⟨false,0,Z,Z,by exact hE36⟩ (by rfl) (by rfl) ?_
   rintro m38 _ _ ⟨y33,k34,rfl,rfl,hl40⟩
   clear hE36 h
   cases m38 with
   | zero =>
    rw[cC] at hl40
    cases hl40
   | succ m38 =>
    have h:=hl40
    clear hl40
    rw[cC] at h
    refine T.seq (T.seq (T.region Z (TL.run aa [0,1] Z Z (TL.q Z .u (vr 1 Z yq Z Z) Z (TL.q Z .u (vH Z xZ) Z (TL.run aa [4] Z Z ?_))))))
    rcases jF h with⟨c42,h⟩ | ⟨c42,h⟩
    ·refine TL.nil (X.seq (vw Z (xM c42) ?_))
     refine T.skip (X.seq (T.seq (T.block (T.seq (vQ (.q 0 (.q 1 (.q 2 (.q 3 (.q 4 (.q 5 (.q 6 (.q 7 (.q 8 (.q 9 (.e 10 (.q 11 .nil)))))))))))) [0,0,0] Z da (NoP.seq (NoP.blk (NoP.seq (NoP.seq (NoP.blk (NoP.seq aO)))))) (by kernel_rfl) ?_)))))
     refine TD.run aa [0] Z Z (TD.q Z .u (vr 1 Z yq Z Z) Z ?_)
     obtain⟨x43,hx44,h⟩:=xL h
     obtain⟨gz45,oz45,rfl,z45cs,z45cl,z45cc,z45nf,z45r⟩:=vV (by decide) (wi hX) hx44
     obtain⟨z45S,z45r,z45rr⟩:=z45r
     obtain⟨A46,c47,rfl,z45s0⟩:=z45r
     have hX48:(RX.of (aq 3 bg) [.slice A46 x43.xp.length c47] x43.xp).reads w F:=⟨z45S,z45s0,z45rr⟩
     refine TD.run aa [2] Z Z ?_
     refine TD.q Z .u (vM (k:=k34) Z Z Z xZ xX (xS hx44).1) Z ?_
     refine TD.q Z .u (wj (us := [jI x43.xC,jI x43.xx,.bool x43.xu.null,jS x43.xu.data,.bool x43.xn.null,jS x43.xn.data,.slice A46 x43.xp.length c47]) 0 Z yt xX z45nf z45cc Z Z Z) Z (TD.run aa [5] Z Z (TD.q Z .u (vr 0 Z yq Z Z) Z ?_))
     obtain⟨x49,hx50,h⟩:=xL h
     obtain⟨gz51,oz51,rfl,z51cs,z51cl,z51cc,z51nf,z51r⟩:=vV (by decide) (wv hX) hx50
     obtain⟨z51S,z51r,z51rr⟩:=z51r
     obtain⟨A52,c53,rfl,z51s0⟩:=z51r
     have hX54:(RX.of (aq 3 bg) [.slice A52 x49.xp.length c53] x49.xp).reads w F:=⟨z51S,z51s0,z51rr⟩
     refine TD.run aa [7] Z Z ?_
     refine TD.q Z .u (vM (k:=k34) Z Z Z xZ xX (xS hx50).1) Z ?_
     refine TD.q Z .u (wj (us := [jI x49.xC,jI x49.xx,.bool x49.xu.null,jS x49.xu.data,.bool x49.xn.null,jS x49.xn.data,.slice A52 x49.xp.length c53]) 0 Z yt xX z51nf z51cc Z Z Z) Z ?_
     obtain⟨x55,hx56,h⟩:=xL h
     refine vY Z .u (.fn Tryz.call45 Z) (lH x43 _ _ x49 _ _ _ hx56) (fun _ hs=>(RX.reads_and (vK hs hX48) (vK hs hX54))) Z [0,0,0] (Z) (TD.run aa [11] Z Z ?_)
     rcases jF h with⟨c57,h⟩ | ⟨c57,h⟩
     ·refine TD.nil (X.seq (vC Z (aw c57) (T.skip (vF (X.seq (T.region Z ?_))))))
      replace h:=ak h
      obtain⟨c58,h⟩:=h
      exact TL.run aa [0] Z Z (TL.q Z .u (Ex.add Z Z c58) Z (TL.run aa [2] Z Z (TL.nil (X.back (m':=m38) [0,0,0] (by omega) ⟨y33,k34+1,Z,Z,h⟩ (by rfl) (by rfl)))))
     ·replace c57:=xW c57
      refine TD.nil (X.seq (vw Z (aH c57) (T.seq (T.region Z (TL.run aa [0] Z Z ?_)))))
      obtain rfl:=xO h
      replace h:=hO37
      clear hO37
      try dsimp only at h
      obtain rfl:=xO h
      exact TL.nil (X.seq (T.ret (vJ (vx (vx (vJ (vx (vu [2] Tryz.results19 (vt Z) ⟨Z,Z,Z⟩ (by rfl) (.inl Z)))))))))
    ·refine TL.nil (X.seq (vC Z (xN c42) ?_))
     obtain rfl:=xO h
     replace h:=hO37
     clear hO37
     try dsimp only at h
     refine T.exit (vD (vD (v6 (X.seq (T.seq (T.region Z (TL.run aa [0] Z Z ?_)))))))
     obtain rfl:=xO h
     exact TL.nil (X.seq (T.ret (vu [2] Tryz.results19 (vt Z) ⟨Z,Z,Z⟩ (by rfl) (.inl Z))))
def cD (a0:List Bat) (a1:List Bat):Nat→Bool→Nat→Option (Lp Bool (Bool×Nat))
 | 0,_,_=>none
 | m11+1,y6,k7=>if (k7:Int)<(a0.length:Int) then ((a0[k7]?).bind fun x16=>(a1[k7]?).bind fun x22=>(fS x16 x22).bind fun x28=>if x28=true then (if -9223372036854775808≤((k7:Int)+1)∧((k7:Int)+1)≤9223372036854775807 then (cD a0 a1 m11 y6 (k7+1)) else none) else some (Lp.ret false)) else (some (Lp.go (y6,k7)))
def et (a0:List Bat) (a1:List Bat):Option (Bool):=if (a0.length:Int)=(a1.length:Int) then ((cD a0 a1 (((a0.length:Int)).toNat+1) false 0).bind fun e=>match e with | .ret r=>some r | .go (y32,k33)=>some true) else some false
theorem lK (a0:List Bat) (A1:Option Addr) (c2:Nat) (a1:List Bat) (A3:Option Addr) (c4:Nat) (r:Bool) (h:et a0 a1=some r):ar Tryz.prog 9 #[.slice A1 a0.length c2,.slice A3 a1.length c4] (RX.and (RX.of (aq 12 dl) [.slice A1 a0.length c2] a0) (RX.of (aq 12 dl) [.slice A3 a1.length c4] a1)) (av) (fun v A' N=>v= .bool r∧A'=av∧N = []):=by
 refine aJ Tryz.func9 Z Tryz.ntmps9 Z ?_
 intro F w hX
 unfold et at h
 refine T.seq (T.region Z (TL.run aa [0] Z Z (TL.nil (X.seq (T.seq (T.seq (T.region Z (TL.run aa [0] Z Z (TL.q Z .u (vH Z yG) Z (TL.run aa [2] Z Z (TL.q Z .u (vH Z yG) Z (TL.run aa [4] Z Z ?_))))))))))))
 rcases jF h with⟨c5,h⟩ | ⟨c5,h⟩
 ·refine TL.nil (X.seq (vC Z (aw (xM c5)) (T.skip (X.seq (T.seq (T.seq (T.region Z (TL.run aa [0] Z Z (TL.nil (X.seq (T.block ?_)))))))))))
  obtain⟨E8,hE9,hO10⟩:=xL h
  refine v9 (fun m e Rs=> ∃ (y6:Bool) (k7:Nat),e = [(0,.slice A1 a0.length c2),(1,.slice A3 a1.length c4),(4,.bool y6),(5,jI (k7:Int))]∧Rs = [av]∧cD a0 a1 m y6 k7=some E8) (((a0.length:Int)).toNat+1) [0] ⟨false,0,Z,Z,by exact hE9⟩ (by rfl) (by rfl) ?_
  rintro m11 _ _ ⟨y6,k7,rfl,rfl,hl13⟩
  clear hE9 h
  cases m11 with
  | zero =>
   rw[cD] at hl13
   cases hl13
  | succ m11 =>
   have h:=hl13
   clear hl13
   rw[cD] at h
   refine T.seq (T.seq (T.region Z (TL.run aa [0,1] Z Z (TL.q Z .u (vH Z yG) Z (TL.run aa [3] Z Z ?_)))))
   rcases jF h with⟨c15,h⟩ | ⟨c15,h⟩
   ·refine TL.nil (X.seq (vw Z (xM c15) ?_))
    refine T.skip (X.seq (T.seq (T.block (T.seq (vQ (.q 0 (.q 1 (.q 2 (.q 3 (.q 4 (.q 5 (.q 6 (.q 7 (.e 8 (.q 9 .nil)))))))))) [0] Z da (NoP.seq (NoP.blk (NoP.seq (NoP.seq (NoP.blk (NoP.seq aO)))))) (by kernel_rfl) ?_)))))
    obtain⟨x16,hx17,h⟩:=xL h
    obtain⟨gz18,oz18,rfl,z18cs,z18cl,z18cc,z18nf,z18r⟩:=vV (by decide) (wi hX) hx17
    obtain⟨z18S,z18r,z18rr⟩:=z18r
    obtain⟨A19,c20,rfl,z18s0⟩:=z18r
    have hX21:(RX.of (aq 7 bj) [.slice A19 x16.xm.length c20] x16.xm).reads w F:=⟨z18S,z18s0,z18rr⟩
    refine TD.run aa [0,1] Z Z ?_
    refine TD.q Z .u (vM (k:=k7) Z Z Z yG yb (xS hx17).1) Z ?_
    refine TD.q Z .u (wj (us := [jI x16.xy,jI x16.xt,.bool x16.xA,.bool x16.xE,.bool x16.xz,jI x16.xw,jI x16.xr,jI x16.xB,jI x16.xq,jI x16.xv,jI x16.xo,.slice A19 x16.xm.length c20]) 0 Z yr yb z18nf z18cc Z Z Z) Z ?_
    obtain⟨x22,hx23,h⟩:=xL h
    obtain⟨gz24,oz24,rfl,z24cs,z24cl,z24cc,z24nf,z24r⟩:=vV (by decide) (wv hX) hx23
    obtain⟨z24S,z24r,z24rr⟩:=z24r
    obtain⟨A25,c26,rfl,z24s0⟩:=z24r
    have hX27:(RX.of (aq 7 bj) [.slice A25 x22.xm.length c26] x22.xm).reads w F:=⟨z24S,z24s0,z24rr⟩
    refine TD.run aa [4,5] Z Z ?_
    refine TD.q Z .u (vM (k:=k7) Z Z Z yG yb (xS hx23).1) Z ?_
    refine TD.q Z .u (wj (us := [jI x22.xy,jI x22.xt,.bool x22.xA,.bool x22.xE,.bool x22.xz,jI x22.xw,jI x22.xr,jI x22.xB,jI x22.xq,jI x22.xv,jI x22.xo,.slice A25 x22.xm.length c26]) 0 Z yr yb z24nf z24cc Z Z Z) Z ?_
    obtain⟨x28,hx29,h⟩:=xL h
    refine vY Z .u (.fn Tryz.call19 Z) (lJ x16 _ _ x22 _ _ _ hx29) (fun _ hs=>(RX.reads_and (vK hs hX21) (vK hs hX27))) Z [0] (Z) (TD.run aa [9] Z Z ?_)
    rcases jF h with⟨c30,h⟩ | ⟨c30,h⟩
    ·refine TD.nil (X.seq (vC Z (aw c30) (T.skip (vF (X.seq (T.region Z ?_))))))
     replace h:=ak h
     obtain⟨c31,h⟩:=h
     exact TL.run aa [0] Z Z (TL.q Z .u (Ex.add Z Z c31) Z (TL.run aa [2] Z Z (TL.nil (X.back (m':=m11) [0] (by omega) ⟨y6,k7+1,Z,Z,h⟩ (by rfl) (by rfl)))))
    ·replace c30:=xW c30
     refine TD.nil (X.seq (vw Z (aH c30) (T.seq (T.region Z (TL.run aa [0] Z Z ?_)))))
     obtain rfl:=xO h
     replace h:=hO10
     clear hO10
     try dsimp only at h
     obtain rfl:=xO h
     exact TL.nil (X.seq (T.ret (vJ (vx (vx (vJ (vx (vu [0] Tryz.results9 (vt Z) ⟨Z,Z,Z⟩ (by rfl) (.inl Z)))))))))
   ·refine TL.nil (X.seq (vC Z (xN c15) ?_))
    obtain rfl:=xO h
    replace h:=hO10
    clear hO10
    try dsimp only at h
    refine T.exit (vD (vD (v6 (X.seq (T.seq (T.region Z (TL.run aa [0] Z Z ?_)))))))
    obtain rfl:=xO h
    exact TL.nil (X.seq (T.ret (vu [0] Tryz.results9 (vt Z) ⟨Z,Z,Z⟩ (by rfl) (.inl Z))))
 ·refine TL.nil (X.seq (vw Z (aH (xN c5)) (T.seq (T.region Z (TL.run aa [0] Z Z ?_)))))
  obtain rfl:=xO h
  exact TL.nil (X.seq (T.ret (vx (vu [0] Tryz.results9 (vt Z) ⟨Z,Z,Z⟩ (by rfl) (.inl Z)))))
def cG (a0:Bat):Option (Int):=(if a0.xA=true then ((some 8:Option (Int))) else ((some 0:Option (Int)))).bind fun y5=>(if a0.xE=true then (if -9223372036854775808≤(y5+16)∧(y5+16)≤9223372036854775807 then some (y5+16) else none) else some y5).bind fun y10=>(if a0.xz=true then (if -9223372036854775808≤(y10+32)∧(y10+32)≤9223372036854775807 then some (y10+32) else none) else some y10).bind fun y16=>some y16
theorem eU (a0:Bat) (A1:Option Addr) (c2:Nat) (r:Int) (h:cG a0=some r):ar Tryz.prog 31 #[.agg #[jI a0.xy,jI a0.xt,.bool a0.xA,.bool a0.xE,.bool a0.xz,jI a0.xw,jI a0.xr,jI a0.xB,jI a0.xq,jI a0.xv,jI a0.xo,.slice A1 a0.xm.length c2]] (RX.of (aq 7 bj) [.slice A1 a0.xm.length c2] a0.xm) (av) (fun v A' N=>v=jI r∧A'=av∧N = []):=by
 refine aJ Tryz.func31 Z Tryz.ntmps31 Z ?_
 intro F w hX
 unfold cG at h
 refine T.seq (T.region Z (TL.box Z .u Z Z (fun b3=>(TL.run aa [1] Z Z (TL.nil (X.seq (T.seq (T.region Z (TL.run aa [0] Z Z (TL.nil (X.seq (T.seq (T.seq (T.region Z (TL.run aa [0] Z Z (TL.q Z .u (vr 0 Z yo Z Z) Z ?_))))))))))))))))
 refine TL.nil (X.seq ?_)
 obtain⟨y5,h,hk6⟩:=xL h
 refine wn (fun e Rs=>e = [(1,jP b3),(2,jI 0),(3,jI y5)]∧Rs = [aA b3 43 #[jI a0.xy,jI a0.xt,.bool a0.xA,.bool a0.xE,.bool a0.xz,jI a0.xw,jI a0.xr,jI a0.xB,jI a0.xq,jI a0.xv,jI a0.xo,.slice A1 a0.xm.length c2],av]) ?_ ?_
 ·clear hk6
  rcases jF h with⟨c7,h⟩ | ⟨c7,h⟩
  ·refine vw Z c7 (T.region Z (TL.run aa [0] Z Z (TL.q Z .u (Ex.add Z Z (by omega)) Z (TL.run aa [2] Z Z ?_))))
   cases h
   exact TL.nil (vN [0,0] ⟨Z,Z⟩ (by rfl) (by rfl))
  ·replace c7:=xW c7
   refine vC Z c7 ?_
   cases h
   exact T.skip (vN [0,0] ⟨Z,Z⟩ (by rfl) (by rfl))
 ·rintro _ _ ⟨rfl,rfl⟩
  clear h
  have h:=hk6
  clear hk6
  try dsimp only at h
  refine X.seq (T.seq (T.seq (T.region Z (TL.run aa [0] Z Z (TL.q Z .u (vr 0 Z yo Z Z) Z (TL.nil (X.seq ?_)))))))
  obtain⟨y10,h,hk11⟩:=xL h
  refine wn (fun e Rs=>e = [(1,jP b3),(2,jI 0),(3,jI y10)]∧Rs = [aA b3 43 #[jI a0.xy,jI a0.xt,.bool a0.xA,.bool a0.xE,.bool a0.xz,jI a0.xw,jI a0.xr,jI a0.xB,jI a0.xq,jI a0.xv,jI a0.xo,.slice A1 a0.xm.length c2],av]) ?_ ?_
  ·clear hk11
   rcases jF h with⟨c12,h⟩ | ⟨c12,h⟩
   ·refine vw Z c12 (T.region Z ?_)
    replace h:=ak h
    obtain⟨c13,h⟩:=h
    refine TL.run aa [0] Z Z (TL.q Z .u (Ex.add Z Z c13) Z (TL.run aa [2] Z Z ?_))
    cases h
    exact TL.nil (vN [0,0] ⟨Z,Z⟩ (by rfl) (by rfl))
   ·replace c12:=xW c12
    refine vC Z c12 ?_
    cases h
    exact T.skip (vN [0,0] ⟨Z,Z⟩ (by rfl) (by rfl))
  ·rintro _ _ ⟨rfl,rfl⟩
   clear h
   have h:=hk11
   clear hk11
   try dsimp only at h
   refine X.seq (T.seq (T.seq (T.region Z (TL.run aa [0] Z Z (TL.q Z .u (vr 0 Z yo Z Z) Z (TL.nil (X.seq ?_)))))))
   obtain⟨y16,h,hk17⟩:=xL h
   refine wn (fun e Rs=>e = [(2,jI 0),(3,jI y16)]∧Rs = [aA b3 43 #[jI a0.xy,jI a0.xt,.bool a0.xA,.bool a0.xE,.bool a0.xz,jI a0.xw,jI a0.xr,jI a0.xB,jI a0.xq,jI a0.xv,jI a0.xo,.slice A1 a0.xm.length c2],av]) ?_ ?_
   ·clear hk17
    rcases jF h with⟨c18,h⟩ | ⟨c18,h⟩
    ·refine vw Z c18 (T.region Z ?_)
     replace h:=ak h
     obtain⟨c19,h⟩:=h
     refine TL.run aa [0] Z Z (TL.q Z .u (Ex.add Z Z c19) Z (TL.run aa [2] Z Z ?_))
     cases h
     exact TL.nil (vN [0,0] ⟨Z,Z⟩ (by rfl) (by rfl))
    ·replace c18:=xW c18
     refine vC Z c18 ?_
     cases h
     exact T.skip (vN [0,0] ⟨Z,Z⟩ (by rfl) (by rfl))
   ·rintro _ _ ⟨rfl,rfl⟩
    clear h
    have h:=hk17
    clear hk17
    try dsimp only at h
    refine X.seq (T.seq (T.region Z (TL.run aa [0,1] Z Z ?_)))
    obtain rfl:=xO h
    exact TL.nil (X.seq (T.ret (vu [1] Tryz.results31 (vt Z) ⟨Z,Z,Z⟩ (by rfl) (.inl Z))))
def bW (a0:Bat):Nat→List UInt8→Nat→Option (List UInt8×Nat)
 | 0,_,_=>none
 | m9+1,y4,k5=>if (k5:Int)<(a0.xm.length:Int) then ((a0.xm[k5]?).bind fun x14=>(fg x14).bind fun x20=>if y4.length+x20.length≤9223372036854775807 then (if -9223372036854775808≤((k5:Int)+1)∧((k5:Int)+1)≤9223372036854775807 then (bW a0 m9 (y4++x20) (k5+1)) else none) else none) else some (y4,k5)
def eL (a0:Bat):Option (List UInt8):=(bW a0 (((a0.xm.length:Int)).toNat+1) [] 0).bind fun (y44,k45)=>if -9223372036854775808≤(49+(y44.length:Int))∧(49+(y44.length:Int))≤9223372036854775807 then ((cG a0).bind fun x47=>(dt [a0.xy,(49+(y44.length:Int)),a0.xt,0,x47,a0.xw,a0.xr,a0.xB,a0.xq,a0.xv,a0.xo,(a0.xm.length:Int)]).bind fun (x50,x51)=>if 21≤x50.length then (if (x50.drop 21).length+y44.length≤9223372036854775807 then ((gJ ((x50.drop 21)++y44)).bind fun x55=>if -9223372036854775808≤x55∧x55≤9223372036854775807 then (if -9223372036854775808≤(49+(y44.length:Int))∧(49+(y44.length:Int))≤9223372036854775807 then ((cG a0).bind fun x59=>(dt [a0.xy,(49+(y44.length:Int)),a0.xt,x55,x59,a0.xw,a0.xr,a0.xB,a0.xq,a0.xv,a0.xo,(a0.xm.length:Int)]).bind fun (x62,x63)=>if x62.length+y44.length≤9223372036854775807 then some (x62++y44) else none) else none) else none) else none) else none) else none
theorem ki (a0:Bat) (A1:Option Addr) (c2:Nat) (r:List UInt8) (h:eL a0=some r):ar Tryz.prog 14 #[.agg #[jI a0.xy,jI a0.xt,.bool a0.xA,.bool a0.xE,.bool a0.xz,jI a0.xw,jI a0.xr,jI a0.xB,jI a0.xq,jI a0.xv,jI a0.xo,.slice A1 a0.xm.length c2]] (RX.of (aq 7 bj) [.slice A1 a0.xm.length c2] a0.xm) (av) (fun v A' N=>v=jS r∧A'=av∧N = []):=by
 refine aJ Tryz.func14 Z Tryz.ntmps14 Z ?_
 intro F w hX
 unfold eL at h
 refine T.seq (T.region Z (TL.box Z .u Z Z (fun b3=>(TL.run aa [1] Z Z (TL.nil (X.seq (T.seq (T.region Z (TL.run aa [0] Z Z (TL.nil (X.seq (T.seq (T.seq (T.region Z (TL.run aa [0] Z Z (TL.nil (X.seq (T.block ?_))))))))))))))))))
 obtain⟨E6,hE7,hO8⟩:=xL h
 refine v9 (fun m e Rs=> ∃ (y4:List UInt8) (k5:Nat),e = [(1,jP b3),(2,.string ⟨#[]⟩),(3,jS y4),(4,jI (k5:Int))]∧Rs = [aA b3 43 #[jI a0.xy,jI a0.xt,.bool a0.xA,.bool a0.xE,.bool a0.xz,jI a0.xw,jI a0.xr,jI a0.xB,jI a0.xq,jI a0.xv,jI a0.xo,.slice A1 a0.xm.length c2],av]∧bW a0 m y4 k5=some E6) (((a0.xm.length:Int)).toNat+1) [0,0] ⟨[],0,Z,Z,by exact hE7⟩ (by rfl) (by rfl) ?_
 rintro m9 _ _ ⟨y4,k5,rfl,rfl,hl11⟩
 clear hE7 h
 cases m9 with
 | zero =>
  rw[bW] at hl11
  cases hl11
 | succ m9 =>
  have h:=hl11
  clear hl11
  rw[bW] at h
  refine T.seq (T.seq (T.region Z (TL.run aa [0,1] Z Z (TL.q Z .u (vr 0 Z yq Z Z) Z (TL.q Z .u (vH Z xZ) Z (TL.run aa [4] Z Z ?_))))))
  rcases jF h with⟨c13,h⟩ | ⟨c13,h⟩
  ·refine TL.nil (X.seq (vw Z (xM c13) (T.skip (X.seq (T.seq (T.block (T.region Z (TL.run aa [0,1] Z Z (TL.q Z .u (vr 0 Z yq Z Z) Z ?_)))))))))
   obtain⟨x14,hx15,h⟩:=xL h
   obtain⟨gz16,oz16,rfl,z16cs,z16cl,z16cc,z16nf,z16r⟩:=vV (by decide) hX hx15
   obtain⟨z16S,z16r,z16rr⟩:=z16r
   obtain⟨A17,c18,rfl,z16s0⟩:=z16r
   have hX19:(RX.of (aq 3 bg) [.slice A17 x14.xp.length c18] x14.xp).reads w F:=⟨z16S,z16s0,z16rr⟩
   refine TL.run aa [3] Z Z ?_
   refine TL.q Z .u (vM (k:=k5) Z Z Z xZ xX (xS hx15).1) Z ?_
   refine TL.q Z .u (wj (us := [jI x14.xC,jI x14.xx,.bool x14.xu.null,jS x14.xu.data,.bool x14.xn.null,jS x14.xn.data,.slice A17 x14.xp.length c18]) 0 Z yt xX z16nf z16cc Z Z Z) Z ?_
   obtain⟨x20,hx21,h⟩:=xL h
   refine vL Z .u (.fn Tryz.call29 Z) (kO x14 _ _ _ hx21) (fun _ hs=>(vK hs hX19)) Z ?_
   replace h:=ak h
   obtain⟨c22,h⟩:=h
   refine TL.q Z .u (vP Z Z c22) Z (TL.run aa [8] Z Z (TL.nil (vF (X.seq (T.region Z ?_)))))
   replace h:=ak h
   obtain⟨c23,h⟩:=h
   exact TL.run aa [0] Z Z (TL.q Z .u (Ex.add Z Z c23) Z (TL.run aa [2] Z Z (TL.nil (X.back (m':=m9) [0,0] (by omega) ⟨(y4++x20),k5+1,Z,Z,h⟩ (by rfl) (by rfl)))))
  ·refine TL.nil (X.seq (vC Z (xN c13) ?_))
   obtain rfl:=xO h
   replace h:=hO8
   clear hO8
   try dsimp only at h
   refine T.exit (vD (vD (v6 (X.seq (T.seq (vQ (.q 0 (.q 1 (.q 2 (.q 3 (.q 4 (.q 5 (.q 6 (.q 7 (.q 9 (.q 10 (.q 11 (.q 12 (.q 13 (.q 14 (.q 15 (.q 16 (.q 17 (.q 18 (.q 19 (.q 20 (.q 21 (.q 22 (.q 23 (.e 8 (.e 24 (.e 25 (.q 26 (.q 27 (.q 28 (.q 29 (.q 30 .nil))))))))))))))))))))))))))))))) [0,0] Z da (NoP.seq aO) (by kernel_rfl) ?_))))))
   refine TD.run aa [0] Z Z (TD.q Z .u (vr 0 Z xQ Z Z) Z (TD.run aa [2] Z Z (TD.q Z .u (v5 Z xY) Z ?_)))
   replace h:=ak h
   obtain⟨c24,h⟩:=h
   refine TD.q Z .u (Ex.add Z Z c24) Z (TD.run aa [5] Z Z (TD.q Z .u (vr 0 Z xQ Z Z) Z (TD.q Z .u (vE (us := [jI a0.xy,jI a0.xt,.bool a0.xA,.bool a0.xE,.bool a0.xz,jI a0.xw,jI a0.xr,jI a0.xB,jI a0.xq,jI a0.xv,jI a0.xo,.slice A1 a0.xm.length c2]) 0 Z yr yb Z Z Z) Z (TD.run aa [9] Z Z (TD.q Z .u (vr 0 Z xQ Z Z) Z (TD.run aa [11] Z Z (TD.q Z .u (vr 0 Z xQ Z Z) Z ?_)))))))
   refine TD.run aa [13] Z Z (TD.q Z .u (vr 0 Z xQ Z Z) Z (TD.run aa [15] Z Z (TD.q Z .u (vr 0 Z xQ Z Z) Z (TD.run aa [17] Z Z (TD.q Z .u (vr 0 Z xQ Z Z) Z (TD.run aa [19] Z Z (TD.q Z .u (vr 0 Z xQ Z Z) Z ?_)))))))
   refine TD.run aa [21] Z Z (TD.q Z .u (vr 0 Z yq Z Z) Z (TD.q Z .u (vH Z xZ) Z ?_))
   obtain⟨x25,hx26,h⟩:=xL h
   refine vY Z .u (.fn Tryz.call31 Z) (eU a0 _ _ _ hx26) (fun _ hs=>(vK hs hX)) Z [0,0] (Z) ?_
   refine xb (cells:= #[jI a0.xy,jI (49+(y4.length:Int)),jI a0.xt,jI 0,jI x25,jI a0.xw,jI a0.xr,jI a0.xB,jI a0.xq,jI a0.xv,jI a0.xo,jI (a0.xm.length:Int)]) Z .u eA Z (by kernel_rfl) Z [1,1] (fun _=>Z) (fun b27=> ?_)
   refine wX (us := [jI a0.xy,jI (49+(y4.length:Int)),jI a0.xt,jI 0,jI x25,jI a0.xw,jI a0.xr,jI a0.xB,jI a0.xq,jI a0.xv,jI a0.xo,jI (a0.xm.length:Int)]) (xs := [a0.xy,(49+(y4.length:Int)),a0.xt,0,x25,a0.xw,a0.xr,a0.xB,a0.xq,a0.xv,a0.xo,(a0.xm.length:Int)]) (E:=dN) (z:=1) Z (Nat.le_of_ble_eq_true Z) (fun _=>⟨Z,Z,⟨Z,Z,⟨Z,Z,⟨Z,Z,⟨Z,Z,⟨Z,Z,⟨Z,Z,⟨Z,Z,⟨Z,Z,⟨Z,Z,⟨Z,Z,⟨Z,Z,Z⟩⟩⟩⟩⟩⟩⟩⟩⟩⟩⟩⟩) ?_
   obtain⟨⟨x28,x29⟩,hx30,h⟩:=xL h
   try dsimp only at h
   refine vY Z .u (.fn Tryz.call30 Z) (gL [a0.xy,(49+(y4.length:Int)),a0.xt,0,x25,a0.xw,a0.xr,a0.xB,a0.xq,a0.xv,a0.xo,(a0.xm.length:Int)] _ _ _ hx30) (fun _ hs=>(wF 0 hs Z (fun w G h=>ba (by decide) w G h))) Z [1,1] (Z) (TD.run aa [26,27,28,29,30] Z Z (TD.nil (X.seq (T.seq (T.region Z ?_)))))
   replace h:=ak h
   obtain⟨c31,h⟩:=h
   refine TL.run aa [0] Z Z ?_
   replace c31:21≤x28.length:=c31
   refine TL.q Z .u (wC (p:=21) (q:=x28.length) (m:=(x28.drop 21)) Z xY (.some Z Z) .none (by first | omega | (dsimp only; omega)) (lP _ _)) Z ?_
   replace h:=ak h
   obtain⟨c32,h⟩:=h
   refine TL.run aa [2] Z Z (TL.q Z .u (vP Z Z c32) Z ?_)
   obtain⟨x33,hx34,h⟩:=xL h
   refine vL Z .u (.fn Tryz.call32 Z) (mw ((x28.drop 21)++y4) _ hx34) (fun _ hs=>(vy _ _)) Z ?_
   replace h:=ak h
   obtain⟨c35,h⟩:=h
   refine TL.q Z .u (wq Z yK yF c35) Z (TL.run aa [6] Z Z ?_)
   refine TL.nil (X.seq (T.seq (vQ (.q 0 (.q 1 (.q 2 (.q 3 (.q 4 (.q 5 (.q 6 (.q 7 (.q 8 (.q 10 (.q 11 (.q 12 (.q 13 (.q 14 (.q 15 (.q 16 (.q 17 (.q 18 (.q 19 (.q 20 (.q 21 (.q 22 (.q 23 (.q 24 (.e 9 (.e 25 (.e 26 (.q 27 (.q 28 (.q 29 (.q 30 (.q 31 .nil)))))))))))))))))))))))))))))))) [0,0,0] Z da (NoP.seq aO) (by kernel_rfl) ?_)))
   refine TD.run aa [0] Z Z (TD.q Z .u (vr 1 Z xQ Z Z) Z (TD.run aa [2] Z Z (TD.q Z .u (v5 Z xY) Z ?_)))
   replace h:=ak h
   obtain⟨c36,h⟩:=h
   refine TD.q Z .u (Ex.add Z Z c36) Z (TD.run aa [5] Z Z (TD.q Z .u (vr 1 Z xQ Z Z) Z (TD.run aa [7] Z Z (TD.q Z .u (vE (us := [jI a0.xy,jI a0.xt,.bool a0.xA,.bool a0.xE,.bool a0.xz,jI a0.xw,jI a0.xr,jI a0.xB,jI a0.xq,jI a0.xv,jI a0.xo,.slice A1 a0.xm.length c2]) 1 Z yr yb Z Z Z) Z (TD.run aa [10] Z Z (TD.q Z .u (vr 1 Z xQ Z Z) Z (TD.run aa [12] Z Z ?_)))))))
   refine TD.q Z .u (vr 1 Z xQ Z Z) Z (TD.run aa [14] Z Z (TD.q Z .u (vr 1 Z xQ Z Z) Z (TD.run aa [16] Z Z (TD.q Z .u (vr 1 Z xQ Z Z) Z (TD.run aa [18] Z Z (TD.q Z .u (vr 1 Z xQ Z Z) Z (TD.run aa [20] Z Z ?_)))))))
   refine TD.q Z .u (vr 1 Z xQ Z Z) Z (TD.run aa [22] Z Z (TD.q Z .u (vr 1 Z yq Z Z) Z (TD.q Z .u (vH Z xZ) Z ?_)))
   obtain⟨x37,hx38,h⟩:=xL h
   refine vY Z .u (.fn Tryz.call31 Z) (eU a0 _ _ _ hx38) (fun _ hs=>(vK hs hX)) Z [0,0,0] (Z) ?_
   refine xb (cells:= #[jI a0.xy,jI (49+(y4.length:Int)),jI a0.xt,jI x33,jI x37,jI a0.xw,jI a0.xr,jI a0.xB,jI a0.xq,jI a0.xv,jI a0.xo,jI (a0.xm.length:Int)]) Z .u eA Z (by kernel_rfl) Z [1,1,1] (fun _=>Z) (fun b39=> ?_)
   refine wX (us := [jI a0.xy,jI (49+(y4.length:Int)),jI a0.xt,jI x33,jI x37,jI a0.xw,jI a0.xr,jI a0.xB,jI a0.xq,jI a0.xv,jI a0.xo,jI (a0.xm.length:Int)]) (xs := [a0.xy,(49+(y4.length:Int)),a0.xt,x33,x37,a0.xw,a0.xr,a0.xB,a0.xq,a0.xv,a0.xo,(a0.xm.length:Int)]) (E:=dN) (z:=1) Z (Nat.le_of_ble_eq_true Z) (fun _=>⟨Z,Z,⟨Z,Z,⟨Z,Z,⟨Z,Z,⟨Z,Z,⟨Z,Z,⟨Z,Z,⟨Z,Z,⟨Z,Z,⟨Z,Z,⟨Z,Z,⟨Z,Z,Z⟩⟩⟩⟩⟩⟩⟩⟩⟩⟩⟩⟩) ?_
   obtain⟨⟨x40,x41⟩,hx42,h⟩:=xL h
   try dsimp only at h
   refine vY Z .u (.fn Tryz.call30 Z) (gL [a0.xy,(49+(y4.length:Int)),a0.xt,x33,x37,a0.xw,a0.xr,a0.xB,a0.xq,a0.xv,a0.xo,(a0.xm.length:Int)] _ _ _ hx42) (fun _ hs=>(wF 0 hs Z (fun w G h=>ba (by decide) w G h))) Z [1,1,1] (Z) (TD.run aa [27,28,29,30,31] Z Z (TD.nil (X.seq (T.seq (T.region Z ?_)))))
   replace h:=ak h
   obtain⟨c43,h⟩:=h
   refine TL.run aa [0,1] Z Z (TL.q Z .u (vP Z Z c43) Z (TL.run aa [3] Z Z ?_))
   obtain rfl:=xO h
   exact TL.nil (X.seq (T.ret (vu [3] Tryz.results14 (vt Z) ⟨Z,Z,Z⟩ (by rfl) (.inl Z))))
theorem my (l:List UInt8) (p:Nat) (h:2≤l.length):eV ⟨l,p,0⟩ 2=(bL (l.take 2),⟨l.drop 2,p+2,0⟩):=od l p 2 (by decide) (by decide) h
theorem tJ (l:List UInt8) (p:Nat) (h:4≤l.length):eV ⟨l,p,0⟩ 4=(bL (l.take 4),⟨l.drop 4,p+4,0⟩):=od l p 4 (by decide) (by decide) h
theorem iD (l:List UInt8) (p:Nat) (h:l.length<2):eV ⟨l,p,0⟩ 2=(0,⟨l,p,1⟩):=ju l p 2 (by decide) (by decide) (by omega)
theorem pH (l:List UInt8) (p:Nat) (h:l.length<4):eV ⟨l,p,0⟩ 4=(0,⟨l,p,1⟩):=ju l p 4 (by decide) (by decide) (by omega)
theorem oH (l:List UInt8) (p:Nat) (e n:Int) (h:e≠0):eV ⟨l,p,e⟩ n=(0,⟨l,p,e⟩):=pm (st:=⟨l,p,e⟩) h n
theorem dH (l:List UInt8) (p:Nat) (e:Int) (h:e≠0):du ⟨l,p,e⟩=⟨l,p,e⟩:=mc (st:=⟨l,p,e⟩) h
theorem rL (l:List UInt8) (p:Nat) (e f:Int) (h:e≠0):cA ⟨l,p,e⟩ f=⟨l,p,e⟩:=kF (st:=⟨l,p,e⟩) h f
theorem lQ (l:List UInt8) (p:Nat) (f:Int):cA ⟨l,p,0⟩ f=⟨l,p,f⟩:=by simp[cA]
theorem pI (l:List UInt8) (p:Nat):du ⟨l,p,0⟩=⟨l,p,if l = [] then 0 else 2⟩:=by unfold du; split <;> simp_all [cA]
theorem kj {l:List UInt8} {n:Nat} (h:n≤l.length):l.drop n = [] ↔ ¬ (l.length:Int)>n:=by rw[List.drop_eq_nil_iff]; omega
theorem tK (l:List UInt8) (hl:l.length≤9223372036854775807):bP l=ee l:=by
 unfold bP ee bu
 simp only[ge l (by omega),gf,eW,dW,xP]
 by_cases h2:l.length<2
 ·have h2i:(l.length:Int)<2:=by omega
  simp[iD l 0 h2,oH,dH,rL,h2i]
 have h2i: ¬ (l.length:Int)<2:=by omega
 have h2j:2≤(l.length:Int):=by omega
 rw[my l 0 (by omega),if_neg h2i,if_pos (show 2≤l.length by omega),j6 _ (by simp; omega)]
 simp only[xP]
 by_cases h0:bL (l.take 2)=0
 ·rw[if_pos h0,if_pos h0]
  simp only[xP]
  by_cases h4:l.length<4
  ·have h4i:(l.length:Int)<4:=by omega
   simp[iD (l.drop 2) (0+2) (by simp; omega),dH,h4i]
  have h4i: ¬ (l.length:Int)<4:=by omega
  rw[my _ _ (by simp; omega),if_neg h4i,if_pos (show 4≤l.length by omega),j6 _ (by simp; omega)]
  simp only[xP,yz,pI,lQ]
  have hd:=kj (l:=l) (n:=4) (by omega)
  generalize bL ((l.drop 2).take 2)=k
  by_cases h5:(l.length:Int)>4
  ·have hd2: ¬ l.drop (2+2) = []:=fun h=>(hd.1 h) h5
   by_cases k0:k=0
   ·simp[hd2,h5,dH,k0]
   ·by_cases k1:k=1 <;> simp[hd2,h5,dH,k0,k1]
  ·have hd2:l.drop (2+2) = []:=hd.2 h5
   by_cases k0:k=0
   ·simp[hd2,h5,dH,k0]
   ·by_cases k1:k=1 <;> simp[hd2,h5,dH,k0,k1]
 ·rw[if_neg h0,if_neg h0]
  simp[lQ,oH,dH]
theorem qT (l:List UInt8) (hl:l.length≤9223372036854775807):bt l=dG l:=by
 unfold bt dG bu
 simp only[ge l (by omega),gf,eW,dW,xP]
 by_cases h2:l.length<2
 ·have h2i:(l.length:Int)<2:=by omega
  simp[iD l 0 h2,oH,dH,rL,h2i]
 have h2i: ¬ (l.length:Int)<2:=by omega
 have h2j:2≤(l.length:Int):=by omega
 rw[my l 0 (by omega),if_neg h2i,if_pos (show 2≤l.length by omega),j6 _ (by simp; omega)]
 simp only[xP]
 by_cases h0:bL (l.take 2)=0
 ·rw[if_pos h0,if_pos h0]
  simp only[xP]
  by_cases h4:l.length<6
  ·have h4i:(l.length:Int)<6:=by omega
   simp[pH (l.drop 2) (0+2) (by simp; omega),dH,h4i]
  have h4i: ¬ (l.length:Int)<6:=by omega
  rw[tJ _ _ (by simp; omega),if_neg h4i,if_pos (show 6≤l.length by omega),j6 _ (by simp; omega)]
  simp only[xP,yz,pI,lQ]
  have hd:=kj (l:=l) (n:=6) (by omega)
  generalize bL ((l.drop 2).take 4)=k
  by_cases h5:(l.length:Int)>6
  ·have hd2: ¬ l.drop (2+4) = []:=fun h=>(hd.1 h) h5
   by_cases k0:k<0 <;> simp[hd2,h5,dH,k0]
  ·have hd2:l.drop (2+4) = []:=hd.2 h5
   by_cases k0:k<0 <;> simp[hd2,h5,dH,k0]
 ·rw[if_neg h0,if_neg h0]
  simp[lQ,oH,dH]
theorem oI (r:Rec) (h1:r.xu.data.length≤9223372036854775807) (h2:r.xn.data.length≤9223372036854775807):bC r=dT r:=by
 unfold bC dT
 rw[tK _ h1,qT _ h2]
def cO:List Rec→Int
 | []=>0
 | r::l=>if dQ r=0 then cO l else dQ r
theorem nI (y:Int): ∀ l:List Rec,(∀ r,r∈l→wI r.xx)→bZ l y=some (if cO l=0 then .go y else .ret (cO l))
 | [],h=>rfl
 | r::l,h=>by
  rw[bZ,kb _ (h r (.head _)),xP,nI y l (fun x hx=>h x (.tail _ hx)),cO]
  by_cases hr:dQ r=0
  ·rw[if_pos hr,if_pos hr]
  ·rw[if_neg hr,if_neg hr,if_neg hr]
theorem nJ (y:Int): ∀ l:List Rec,(∀ r,r∈l→wI r.xx)→ca l y=some (if cO l=0 then .go y else .ret (cO l))
 | [],h=>rfl
 | r::l,h=>by
  rw[ca,kb _ (h r (.head _)),xP,nJ y l (fun x hx=>h x (.tail _ hx)),cO]
  by_cases hr:dQ r=0
  ·rw[if_pos hr,if_pos hr]
  ·rw[if_neg hr,if_neg hr,if_neg hr]
theorem nK (a:Bat) (hb:a.xm.length≤1000000) (hh: ∀ r,r∈a.xm→r.xp.length≤1000000) (y:Int): ∀ (l:List Rec) (k fuel:Nat),a.xm.drop k=l→l.length<fuel→ ∃ z,bD a fuel y k=some (if cO l=0 then .go (y,z) else .ret (cO l))
 | [],k,fuel+1,h,hf=>by
  have:=dP h
  exact⟨k,by rw[bD,if_neg (by omega)]; rfl⟩
 | r::l,k,fuel+1,h,hf=>by
  obtain⟨h1,h2,h3⟩:=dn h
  rw[yd] at hf
  obtain⟨z,hz⟩:=nK a hb hh y l (k+1) fuel h2 (by omega)
  rw[bD,if_pos (by omega),h1,xP,sM _ (hh r (List.mem_of_getElem? h1)),xP,cO]
  by_cases hr:dQ r=0
  ·rw[if_pos hr,if_pos hr,if_pos (by omega)]
   exact⟨z,hz⟩
  ·rw[if_neg hr,if_neg hr]
   exact⟨0,by rw[if_neg hr]⟩
theorem nL (a:Bat): ∀ (fuel:Nat) (y:Int) (k:Nat),cL a fuel y k=bD a fuel y k
 | 0,y,k=>rfl
 | fuel+1,y,k=>by
  rw[cL,bD]
  simp only[nL a fuel]
def jD (F t:Int):Prop:=t>9223372036854775807 - F∨t < -F
instance (F t:Int):Decidable (jD F t):=by unfold jD; infer_instance
def oJ (F L:Int):Int→Int→List Rec→Except Int Int
 | p,m,[]=> .ok m
 | p,m,r::l=>if r.xx≤p∨r.xx>L then .error 13 else if jD F r.xC then .error 11 else oJ F L r.xx (if m<F+r.xC then F+r.xC else m) l
theorem sS {F t:Int} (h0:0≤F) (h1:F≤9223372036854775807) (ht:wI t):(jD F t→(IntKind.i64.wrap (F+t)<0))∧(¬ jD F t→IntKind.i64.wrap (F+t)=F+t∧0≤F+t):=by
 obtain⟨t0,t1⟩:=ht
 unfold jD
 rw[IntKind.wrap_i64]
 constructor
 ·intro h
  omega
 ·intro h
  omega
theorem rM (a:Bat) (h0:0≤a.xr) (h1:a.xr≤9223372036854775807) (y:Int): ∀ (l:List Rec) (p m:Int),(∀ r,r∈l→wI r.xC)→(∃ e,oJ a.xr a.xw p m l= .error e∧aQ a l y p m=some (.ret e))∨(∃ p' m',oJ a.xr a.xw p m l= .ok m'∧aQ a l y p m=some (.go (y,p',m')))
 | [],p,m,h=> .inr ⟨p,m,rfl,rfl⟩
 | r::l,p,m,h=>by
  have ih:=fun p m=>rM a h0 h1 y l p m (fun x hx=>h x (.tail _ hx))
  obtain⟨w1,w2⟩:=sS h0 h1 (h r (.head _))
  rw[aQ,oJ]
  by_cases c1:r.xx≤p
  ·rw[if_pos c1,if_pos (.inl c1)]
   exact .inl ⟨_,rfl,rfl⟩
  rw[if_neg c1]
  by_cases c2:r.xx>a.xw
  ·rw[if_pos c2,if_pos (.inr c2)]
   exact .inl ⟨_,rfl,rfl⟩
  rw[if_neg c2,if_neg (by omega)]
  by_cases c3:jD a.xr r.xC
  ·rw[if_pos c3,if_pos (w1 c3)]
   exact .inl ⟨_,rfl,rfl⟩
  obtain⟨w3,w4⟩:=w2 c3
  rw[if_neg c3,w3,if_neg (show ¬ a.xr+r.xC<0 by omega),if_neg (show ¬ a.xr+r.xC<r.xC by omega),ite_self]
  by_cases c4:m<a.xr+r.xC
  ·rw[if_pos c4,if_pos c4]
   exact ih _ _
  ·rw[if_neg c4,if_neg c4]
   exact ih _ _
theorem oK (a:Bat) (h0:0≤a.xr) (h1:a.xr≤9223372036854775807) (hb:a.xm.length≤1000000) (y:Int): ∀ (l:List Rec) (p m:Int) (k fuel:Nat),a.xm.drop k=l→l.length<fuel→(k=0→p= -1)→(0<k→ ∃ r,a.xm[k - 1]? = some r∧r.xx=p∧0≤p) →
 (∃ e,oJ a.xr a.xw p m l= .error e∧aV a fuel y k=some (.ret e))∨(∃ m' z,oJ a.xr a.xw p m l= .ok m'∧aV a fuel y k=some (.go (y,z)))
 | [],p,m,k,fuel+1,h,hf,hk0,hk1=>by
  have:=dP h
  exact .inr ⟨m,k,rfl,by rw[aV,if_neg (by omega)]⟩
 | r::l,p,m,k,fuel+1,h,hf,hk0,hk1=>by
  obtain⟨g1,g2,g3⟩:=dn h
  rw[yd] at hf
  rw[aV,if_pos (by omega),g1,xP,oJ]
  have hp: -1≤p:=by
   rcases Nat.eq_zero_or_pos k with hk | hk
   ·have:=hk0 hk; omega
   ·obtain⟨_,_,_,h5⟩:=hk1 hk; omega
  have ih:=fun (hge:0≤r.xx) m=>oK a h0 h1 hb y l r.xx m (k+1) fuel g2 (by omega) (fun h=>absurd h (by omega)) (fun _=>⟨r,g1,rfl,hge⟩)
  have tail:0≤r.xx→((if -9223372036854775808≤(9223372036854775807 - a.xr)∧(9223372036854775807 - a.xr)≤9223372036854775807 then (if r.xC>(9223372036854775807 - a.xr) then some (Lp.ret (11:Int)) else (if -9223372036854775808≤(-a.xr)∧(-a.xr)≤9223372036854775807 then (if r.xC<(-a.xr) then some (Lp.ret 11) else (if -9223372036854775808≤((k:Int)+1)∧((k:Int)+1)≤9223372036854775807 then (aV a fuel y (k+1)) else none)) else none)) else none))=if jD a.xr r.xC then some (.ret 11) else aV a fuel y (k+1):=by
   intro hge
   rw[if_pos (by omega)]
   by_cases c1:r.xC>9223372036854775807 - a.xr
   ·rw[if_pos c1,if_pos (show jD a.xr r.xC from .inl c1)]
   rw[if_neg c1,if_pos (by omega)]
   by_cases c2:r.xC < -a.xr
   ·rw[if_pos c2,if_pos (show jD a.xr r.xC from .inr c2)]
   rw[if_neg c2,if_neg (show ¬ jD a.xr r.xC by unfold jD; omega),if_pos (by omega)]
  by_cases c2:r.xx>a.xw
  ·rw[if_pos c2,if_pos (.inr c2)]
   exact .inl ⟨_,rfl,rfl⟩
  rw[if_neg c2]
  rcases Nat.eq_zero_or_pos k with hk | hk
  ·have hp1:=hk0 hk
   rw[if_neg (show ¬ (k:Int)>0 by omega)]
   by_cases c3:r.xx<0
   ·rw[if_pos c3,if_pos (show r.xx≤p∨r.xx>a.xw by omega)]
    exact .inl ⟨_,rfl,rfl⟩
   rw[if_neg c3,if_neg (show ¬ (r.xx≤p∨r.xx>a.xw) by omega),tail (by omega)]
   by_cases c4:jD a.xr r.xC
   ·rw[if_pos c4,if_pos c4]
    exact .inl ⟨_,rfl,rfl⟩
   ·rw[if_neg c4,if_neg c4]
    exact ih (by omega) _
  ·obtain⟨q,q1,q2,q3⟩:=hk1 hk
   rw[if_pos (show (k:Int)>0 by omega),if_pos (show -9223372036854775808≤(k:Int) - 1∧(k:Int) - 1≤9223372036854775807 by omega),if_pos (show 0≤(k:Int) - 1 by omega),show ((k:Int) - 1).toNat=k - 1 by omega,q1,xP,q2]
   by_cases c1:r.xx≤p
   ·rw[if_pos c1,if_pos (.inl c1)]
    exact .inl ⟨_,rfl,rfl⟩
   rw[if_neg c1,if_neg (show ¬ r.xx<0 by omega),if_neg (show ¬ (r.xx≤p∨r.xx>a.xw) by omega),tail (by omega)]
   by_cases c4:jD a.xr r.xC
   ·rw[if_pos c4,if_pos c4]
    exact .inl ⟨_,rfl,rfl⟩
   ·rw[if_neg c4,if_neg c4]
    exact ih (by omega) _
theorem rN (a:Bat) (h0:0≤a.xr) (h1:a.xr≤9223372036854775807) (hb:a.xm.length≤1000000) (y:Int): ∀ (l:List Rec) (p m m':Int) (k fuel:Nat),a.xm.drop k=l→l.length<fuel→oJ a.xr a.xw p m l= .ok m'→(∀ r,r∈l→wI r.xC)→ ∃ z,bQ a fuel y m k=some (.go (y,m',z))
 | [],p,m,m',k,fuel+1,h,hf,ho,hw=>by
  have:=dP h
  injection ho with ho
  subst ho
  exact⟨k,by rw[bQ,if_neg (by omega)]⟩
 | r::l,p,m,m',k,fuel+1,h,hf,ho,hw=>by
  obtain⟨g1,g2,g3⟩:=dn h
  rw[yd] at hf
  rw[oJ] at ho
  split at ho
  ·exact nomatch ho
  split at ho
  ·exact nomatch ho
  rename_i hb2
  have ht:=hw r (.head _)
  have ht0:=ht.1
  have ht1:=ht.2
  unfold jD at hb2
  rw[bQ,if_pos (by omega),g1,xP,if_pos (by omega),if_neg (by omega),if_pos (by omega),if_neg (by omega),if_pos (by omega)]
  obtain⟨z,hz⟩:=rN a h0 h1 hb y l r.xx _ m' (k+1) fuel g2 (by omega) ho (fun x hx=>hw x (.tail _ hx))
  by_cases c:m<a.xr+r.xC
  ·rw[if_pos c] at hz
   rw[if_pos c,if_pos (by omega),if_pos (by omega)]
   exact⟨z,hz⟩
  ·rw[if_neg c] at hz
   rw[if_neg c,if_pos (by omega)]
   exact⟨z,hz⟩
theorem mz (a:Bat) (h0:0≤a.xr) (h1:a.xr≤9223372036854775807) (hb:a.xm.length≤1000000) (hw: ∀ r,r∈a.xm→wI r.xC): ∃ e,bE a=some e∧db a=some e:=by
 unfold bE db gi
 rcases rM a h0 h1 0 a.xm (-1) a.xr hw with⟨e,g1,g2⟩ | ⟨p',m',g1,g2⟩
 ·rcases oK a h0 h1 hb 0 a.xm (-1) a.xr 0 (((a.xm.length:Int)).toNat+1) rfl (by omega) (fun _=>rfl) (fun h=>absurd h (by omega)) with⟨e2,k1,k2⟩ | ⟨m2,z,k1,k2⟩
  ·rw[g1] at k1
   injection k1 with k1
   subst k1
   exact⟨e,by rw[g2]; rfl,by rw[k2]; rfl⟩
  ·rw[g1] at k1
   exact nomatch k1
 ·rcases oK a h0 h1 hb 0 a.xm (-1) a.xr 0 (((a.xm.length:Int)).toNat+1) rfl (by omega) (fun _=>rfl) (fun h=>absurd h (by omega)) with⟨e2,k1,k2⟩ | ⟨m2,z,k1,k2⟩
  ·rw[g1] at k1
   exact nomatch k1
  ·obtain⟨z2,hz2⟩:=rN a h0 h1 hb 0 a.xm (-1) a.xr m' 0 (((a.xm.length:Int)).toNat+1) rfl (by omega) g1 hw
   rw[g2,k2,hz2]
   simp only[xP]
   by_cases ha:a.xA=true
   ·exact⟨0,by rw[if_pos ha],by rw[if_pos ha]⟩
   ·rw[if_neg ha]
    by_cases hm:m'=a.xB
    ·exact⟨0,by rw[if_pos hm],by rw[if_pos hm]⟩
    ·exact⟨11,by rw[if_neg hm],by rw[if_neg hm]⟩
def fk (a:Bat):Prop:=0≤a.xy∧(-1≤a.xt∧a.xt≤2147483647)∧(0≤a.xw∧a.xw≤2147483647)∧a.xy+a.xw≤9223372036854775807∧0≤a.xr∧0≤a.xB
instance (a:Bat):Decidable (fk a):=by unfold fk; infer_instance
theorem qU (a:Bat) (h1:wI a.xy) (h2:wI a.xt) (h3:wI a.xw):dF a=some (decide (fk a)):=by
 obtain⟨u1,u2⟩:=h1
 unfold dF
 rw[ir _ _ h2,ir _ _ h3,gp,gp,IntKind.wrap_i64]
 have no: ∀ {b:Bool},¬ fk a→b=false→some b=some (decide (fk a)):=fun h hb=>by rw[xN h,hb]
 by_cases c1:a.xy≥0
 ·rw[if_pos c1]
  by_cases c2:a.xt≥ -1
  ·rw[if_pos c2,xP]
   by_cases c3: -2147483648≤a.xt∧a.xt≤2147483647
   ·rw[if_pos (xM c3)]
    by_cases c4:a.xw≥0
    ·rw[if_pos c4,xP]
     by_cases c5: -2147483648≤a.xw∧a.xw≤2147483647
     ·rw[if_pos (xM c5)]
      by_cases c6:a.xy+a.xw≤9223372036854775807
      ·rw[if_pos (by omega)]
       by_cases c7:a.xr≥0
       ·rw[if_pos c7]
        by_cases c8:a.xB≥0
        ·rw[if_pos c8,xM (show fk a from ⟨c1,⟨c2,by omega⟩,⟨c4,by omega⟩,c6,c7,c8⟩)]
        ·rw[if_neg c8]; exact no (fun h=>c8 h.2.2.2.2.2) rfl
       ·rw[if_neg c7]; exact no (fun h=>c7 h.2.2.2.2.1) rfl
      ·rw[if_neg (by omega)]; exact no (fun h=>c6 h.2.2.2.1) rfl
     ·rw[if_neg (by rw[decide_eq_true_eq]; exact c5)]; exact no (fun h=>by have:=h.2.2.1; omega) rfl
    ·rw[if_neg c4]; exact no (fun h=>c4 h.2.2.1.1) rfl
   ·rw[if_neg (by rw[decide_eq_true_eq]; exact c3)]; exact no (fun h=>by have:=h.2.1; omega) rfl
  ·rw[if_neg c2]; exact no (fun h=>c2 h.2.1.1) rfl
 ·rw[if_neg c1]; exact no (fun h=>c1 h.1) rfl
theorem kV (n k:Int):dB n k=some (decide (k≤n∧n≤2147483647)):=by
 unfold dB
 by_cases h1:n≥k
 ·rw[if_pos h1]
  by_cases h2:n≤2147483647
  ·rw[if_pos h2,xM ⟨h1,h2⟩]
  ·rw[if_neg h2,xN (fun h=>h2 h.2)]
 ·rw[if_neg h1,xN (fun h=>h1 h.1)]
def ec (a:Bat):Prop:=if a.xq= -1 then a.xv= -1∧a.xo= -1∧a.xE=false else 0≤a.xq∧(0≤a.xv∧a.xv≤32767)∧(if a.xz=true then a.xo= -1 else 0≤a.xo∧a.xo≤2147483647)
instance (a:Bat):Decidable (ec a):=by unfold ec; infer_instance
theorem mA (n:Int):bq n 2=decide (-32768≤n∧n≤32767):=by
 rw[Bool.eq_iff_iff]
 unfold bq
 simp only[Bool.and_eq_true,decide_eq_true_eq]
 have:(2:Int) ^ (8*(2:Int).toNat - 1)=32768:=by decide
 omega
theorem lu (a:Bat) (h1:wI a.xv) (h2:wI a.xo):cF a=some (decide (ec a))∧dq a=some (decide (ec a)):=by
 unfold cF dq
 rw[ir _ _ h1,ir _ _ h2,gp,mA,kV]
 unfold ec
 obtain⟨b0,b1,b2,tx,ct,b5,b6,b7,P,E,S,rs⟩:=a
 simp only
 clear h1 h2
 by_cases c1:P= -1
 ·simp only[if_pos c1]
  by_cases c2:E= -1
  ·simp only[if_pos c2]
   by_cases c3:S= -1
   ·simp only[if_pos c3]
    cases tx <;> simp[c2,c3]
   ·simp[c3]
  ·simp[c2]
 ·simp only[if_neg c1,xP]
  cases ct
  ·simp only[Bool.false_eq_true,if_false]
   constructor
   ·by_cases d1:P≥0
    ·by_cases d2:E≥0
     ·by_cases d3: -32768≤E∧E≤32767
      ·by_cases d4:S≥0
       ·by_cases d5: -2147483648≤S∧S≤2147483647
        ·rw[if_pos d1,if_pos d2,if_pos (xM d3),if_pos d4,if_pos (xM d5),xM (by omega)]
        ·rw[if_pos d1,if_pos d2,if_pos (xM d3),if_pos d4,if_neg (by rw[decide_eq_true_eq]; exact d5),xN (by omega)]
       ·rw[if_pos d1,if_pos d2,if_pos (xM d3),if_neg d4,xN (by omega)]
      ·rw[if_pos d1,if_pos d2,if_neg (by rw[decide_eq_true_eq]; exact d3),xN (by omega)]
     ·rw[if_pos d1,if_neg d2,xN (by omega)]
    ·rw[if_neg d1,xN (by omega)]
   ·by_cases d1:P<0
    ·rw[if_pos d1,xN (by omega)]
    rw[if_neg d1]
    by_cases d2:E<0
    ·rw[if_pos d2,xN (by omega)]
    rw[if_neg d2]
    by_cases d3:E>32767
    ·rw[if_pos d3,xN (by omega)]
    rw[if_neg d3]
    by_cases d4:0≤S∧S≤2147483647
    ·rw[xM d4,xM (by omega)]
    ·rw[xN d4,xN (by omega)]
  ·simp only[if_true]
   constructor
   ·by_cases d1:P≥0
    ·by_cases d2:E≥0
     ·by_cases d3: -32768≤E∧E≤32767
      ·by_cases d4:S≥ -1
       ·by_cases d5: -2147483648≤S∧S≤2147483647
        ·by_cases d6:S= -1
         ·rw[if_pos d1,if_pos d2,if_pos (xM d3),if_pos d4,if_pos (xM d5),if_pos d6,xM (by omega)]
         ·rw[if_pos d1,if_pos d2,if_pos (xM d3),if_pos d4,if_pos (xM d5),if_neg d6,xN (by omega)]
        ·rw[if_pos d1,if_pos d2,if_pos (xM d3),if_pos d4,if_neg (by rw[decide_eq_true_eq]; exact d5),xN (by omega)]
       ·rw[if_pos d1,if_pos d2,if_pos (xM d3),if_neg d4,xN (by omega)]
      ·rw[if_pos d1,if_pos d2,if_neg (by rw[decide_eq_true_eq]; exact d3),xN (by omega)]
     ·rw[if_pos d1,if_neg d2,xN (by omega)]
    ·rw[if_neg d1,xN (by omega)]
   ·by_cases d1:P<0
    ·rw[if_pos d1,xN (by omega)]
    rw[if_neg d1]
    by_cases d2:E<0
    ·rw[if_pos d2,xN (by omega)]
    rw[if_neg d2]
    by_cases d3:E>32767
    ·rw[if_pos d3,xN (by omega)]
    rw[if_neg d3]
    by_cases d4:S= -1
    ·rw[if_pos d4,xM (by omega)]
    ·rw[if_neg d4,xN (by omega)]
theorem tL (l:List UInt8) (hl:l.length≤1000000): ∃ x,bP l=some x:=by
 unfold bP bu
 simp only[ge l (by omega),gf,eW,dW,xP]
 generalize eV ⟨l,0,0⟩ 2=x
 by_cases h:x.1=0
 ·simp only[if_pos h,xP]
  generalize eV x.2 2=y
  split
  ·split <;> exact⟨_,rfl⟩
  ·split
   ·split <;> exact⟨_,rfl⟩
   ·split <;> exact⟨_,rfl⟩
 ·simp only[if_neg h,xP]
  generalize eV (cA x.2 7) 2=y
  split
  ·split <;> exact⟨_,rfl⟩
  ·split
   ·split <;> exact⟨_,rfl⟩
   ·split <;> exact⟨_,rfl⟩
theorem qV (l:List UInt8) (hl:l.length≤1000000): ∃ x,bt l=some x:=by
 unfold bt bu
 simp only[ge l (by omega),gf,eW,dW,xP]
 generalize eV ⟨l,0,0⟩ 2=x
 by_cases h:x.1=0
 ·simp only[if_pos h,xP]
  generalize eV x.2 4=y
  split
  ·split <;> exact⟨_,rfl⟩
  ·split <;> exact⟨_,rfl⟩
 ·simp only[if_neg h,xP]
  generalize eV (cA x.2 7) 4=y
  split
  ·split <;> exact⟨_,rfl⟩
  ·split <;> exact⟨_,rfl⟩
theorem oL (r:Rec) (h1:r.xu.data.length≤1000000) (h2:r.xn.data.length≤1000000): ∃ x1 x2 x3,bC r=some (x1,x2,x3):=by
 obtain⟨⟨k1,k2⟩,hk⟩:=tL _ h1
 obtain⟨⟨v1,v2⟩,hv⟩:=qV _ h2
 unfold bC
 rw[hk,hv]
 simp only[xP]
 split
 ·exact⟨_,_,_,rfl⟩
 split
 ·exact⟨_,_,_,rfl⟩
 split
 ·exact⟨_,_,_,rfl⟩
 split
 ·split
  ·split
   ·exact⟨_,_,_,rfl⟩
   ·exact⟨_,_,_,rfl⟩
  ·exact⟨_,_,_,rfl⟩
 ·exact⟨_,_,_,rfl⟩
def oM (a:Bat) (cr e0:Int):Int:=if fk a then (if a.xz=true then (if a.xE=true then (if ec a then (if (a.xm.length:Int)=1 then (if cO a.xm=0 then (if cr=0 then e0 else cr) else cO a.xm) else 10) else 11) else 8) else (if ec a then (if cO a.xm=0 then e0 else cO a.xm) else 11)) else 11
theorem bchk (a:Bat) (hw:gr a) (cr e0:Int) (hc:fk a→bE a=some e0) (hr:(a.xm.length:Int)=1→ ∃ r x1 x2,a.xm[0]? = some r∧bC r=some (x1,x2,cr)):bM a=some (oM a cr e0):=by
 obtain⟨w1,w2,w3,w4,w5,w6,w7,w8,w9,w10,w11,w12⟩:=hw
 have hoff: ∀ r,r∈a.xm→wI r.xx:=fun r h=>(w12.2 r h).2.1
 unfold bM oM
 rw[qU a w1 w2 w6,(lu a w10 w11).1,nI _ _ hoff,nJ _ _ hoff]
 by_cases hn:fk a
 ·rw[xM hn,xP,if_pos rfl,if_pos hn,hc hn]
  by_cases hct:a.xz=true
  ·rw[if_pos hct,if_pos hct]
   by_cases ht:a.xE=true
   ·rw[if_pos ht,if_pos ht,xP]
    by_cases hp:ec a
    ·rw[xM hp,if_pos rfl,if_pos hp]
     by_cases hl:(a.xm.length:Int)=1
     ·obtain⟨r,x1,x2,r1,r2⟩:=hr hl
      rw[if_pos hl,if_pos hl,r1]
      by_cases hf:cO a.xm=0
      ·simp only[if_pos hf,xP,r2]
       split <;> rfl
      ·simp only[if_neg hf,xP]
     ·rw[if_neg hl,if_neg hl]
    ·rw[xN hp,if_neg (by decide),if_neg hp]
   ·rw[if_neg ht,if_neg ht]
  ·rw[if_neg hct,if_neg hct,xP]
   by_cases hp:ec a
   ·rw[xM hp,if_pos rfl,if_pos hp]
    by_cases hf:cO a.xm=0
    ·simp only[if_pos hf,xP]
    ·simp only[if_neg hf,xP]
   ·rw[xN hp,if_neg (by decide),if_neg hp]
 ·rw[xN hn,xP,if_neg (by decide),if_neg hn]
theorem rchk (a:Bat) (hw:gr a) (hb:a.xm.length≤1000000) (hh: ∀ r,r∈a.xm→r.xp.length≤1000000) (cr e0:Int) (hc:fk a→db a=some e0) (hr:(a.xm.length:Int)=1→ ∃ r x1 x2,a.xm[0]? = some r∧dT r=some (x1,x2,cr)):dU a=some (oM a cr e0):=by
 obtain⟨w1,w2,w3,w4,w5,w6,w7,w8,w9,w10,w11,w12⟩:=hw
 obtain⟨z,hz⟩:=nK a hb hh 0 a.xm 0 (((a.xm.length:Int)).toNat+1) rfl (by omega)
 have b1:=w1.1
 have b2:=w1.2
 unfold dU oM
 rw[kV,kV,(lu a w10 w11).2]
 simp only[nL]
 rw[hz]
 by_cases hn:fk a
 ·obtain⟨n1,n2,n3,n4,n5,n6⟩:=id hn
  rw[if_neg (show ¬ a.xy<0 by omega),xM n2,xP,if_pos rfl,xM n3,xP,if_pos rfl,if_pos (show -9223372036854775808≤9223372036854775807 - a.xy∧9223372036854775807 - a.xy≤9223372036854775807 by omega),if_neg (show ¬ a.xw>9223372036854775807 - a.xy by omega),if_neg (show ¬ a.xr<0 by omega),if_neg (show ¬ a.xB<0 by omega),if_pos hn,hc hn]
  by_cases hct:a.xz=true
  ·rw[if_pos hct,if_pos hct]
   by_cases ht:a.xE=true
   ·rw[if_pos ht,if_pos ht,xP]
    by_cases hp:ec a
    ·rw[xM hp,if_pos rfl,if_pos hp]
     by_cases hl:(a.xm.length:Int)=1
     ·obtain⟨r,x1,x2,r1,r2⟩:=hr hl
      rw[if_pos hl,if_pos hl,r1]
      by_cases hf:cO a.xm=0
      ·simp only[if_pos hf,xP,r2]
       split <;> rfl
      ·simp only[if_neg hf,xP]
     ·rw[if_neg hl,if_neg hl]
    ·rw[xN hp,if_neg (by decide),if_neg hp]
   ·rw[if_neg ht,if_neg ht]
  ·rw[if_neg hct,if_neg hct,xP]
   by_cases hp:ec a
   ·rw[xM hp,if_pos rfl,if_pos hp]
    by_cases hf:cO a.xm=0
    ·simp only[if_pos hf,xP]
    ·simp only[if_neg hf,xP]
   ·rw[xN hp,if_neg (by decide),if_neg hp]
 ·rw[if_neg hn]
  unfold fk at hn
  by_cases c1:a.xy<0
  ·rw[if_pos c1]
  rw[if_neg c1,xP]
  by_cases c2: -1≤a.xt∧a.xt≤2147483647
  ·rw[xM c2,if_pos rfl,xP]
   by_cases c3:0≤a.xw∧a.xw≤2147483647
   ·rw[xM c3,if_pos rfl,if_pos (show -9223372036854775808≤9223372036854775807 - a.xy∧9223372036854775807 - a.xy≤9223372036854775807 by omega)]
    by_cases c4:a.xw>9223372036854775807 - a.xy
    ·rw[if_pos c4]
    rw[if_neg c4]
    by_cases c5:a.xr<0
    ·rw[if_pos c5]
    rw[if_neg c5,if_pos (show a.xB<0 by omega)]
   ·rw[xN c3,if_neg (by decide)]
  ·rw[xN c2,if_neg (by decide)]
theorem mB (a:Bat) (hw:gr a) (hb:a.xm.length≤1000000) (hr: ∀ r,r∈a.xm→r.xp.length≤1000000∧r.xu.data.length≤1000000∧r.xn.data.length≤1000000): ∃ cr e0,bM a=some (oM a cr e0)∧dU a=some (oM a cr e0)∧(fk a→bE a=some e0)∧((a.xm.length:Int)=1→ ∃ r x1 x2,a.xm[0]? = some r∧bC r=some (x1,x2,cr)∧dT r=some (x1,x2,cr)):=by
 have htim: ∀ r,r∈a.xm→wI r.xC:=fun r h=>(hw.2.2.2.2.2.2.2.2.2.2.2.2 r h).1
 have hF:=hw.2.2.2.2.2.2.1
 obtain⟨e0,he⟩: ∃ e0,fk a→bE a=some e0∧db a=some e0:=by
  by_cases hn:fk a
  ·obtain⟨e0,h1,h2⟩:=mz a hn.2.2.2.2.1 hF.2 hb htim
   exact⟨e0,fun _=>⟨h1,h2⟩⟩
  ·exact⟨0,fun h=>absurd h hn⟩
 obtain⟨cr,hcr⟩: ∃ cr,(a.xm.length:Int)=1→ ∃ r x1 x2,a.xm[0]? = some r∧bC r=some (x1,x2,cr)∧dT r=some (x1,x2,cr):=by
  by_cases hl:(a.xm.length:Int)=1
  ·obtain⟨r,hrec⟩: ∃ r,a.xm = [r]:=List.length_eq_one_iff.1 (by omega)
   have h3:=hr r (by rw[hrec]; exact .head _)
   obtain⟨x1,x2,x3,h4⟩:=oL r h3.2.1 h3.2.2
   have h5:=oI r (by omega) (by omega)
   exact⟨x3,fun _=>⟨r,x1,x2,by rw[hrec]; rfl,h4,by rw[← h5]; exact h4⟩⟩
  ·exact⟨0,fun h=>absurd h hl⟩
 refine⟨cr,e0,bchk a hw cr e0 (fun h=>(he h).1) (fun h=> ?_),rchk a hw hb (fun r h=>(hr r h).1) cr e0 (fun h=>(he h).2) (fun h=> ?_),fun h=>(he h).1,hcr⟩
 ·obtain⟨r,x1,x2,h1,h2,h3⟩:=hcr h
  exact⟨r,x1,x2,h1,h2⟩
 ·obtain⟨r,x1,x2,h1,h2,h3⟩:=hcr h
  exact⟨r,x1,x2,h1,h3⟩
abbrev Pr (α:Type):=List UInt8→Nat→Except Int (α×Nat)
namespace Pr
variable {α β:Type}
def ret (a:α):Pr α:=fun _ q=> .ok (a,q)
def err (e:Int):Pr α:=fun _ _=> .error e
def bind (p:Pr α) (f:α→Pr β):Pr β:=fun s q=>match p s q with | .error e=> .error e | .ok (a,r)=>f a s r
theorem bind_ok {p:Pr α} {f:α→Pr β} {s:List UInt8} {q:Nat} {x:β×Nat} (h:p.bind f s q= .ok x): ∃ a r,p s q= .ok (a,r)∧f a s r= .ok x:=by
 unfold bind at h
 cases hp:p s q with
 | error e=>rw[hp] at h; exact nomatch h
 | ok y=>rw[hp] at h; exact⟨_,_,rfl,h⟩
theorem bind_of {p:Pr α} {f:α→Pr β} {s:List UInt8} {q r:Nat} {a:α} (h:p s q= .ok (a,r)):p.bind f s q=f a s r:=by unfold bind; rw[h]
theorem bind_err {p:Pr α} {f:α→Pr β} {s:List UInt8} {q:Nat} {e:Int} (h:p s q= .error e):p.bind f s q= .error e:=by unfold bind; rw[h]
end Pr
structure CR {α:Type} (op:I→Option (α×I)) (p:Pr α) (z:α):Prop where
 dead: ∀ st:I,st.err≠0→op st=some (z,st)
 bad: ∀ (s:List UInt8) (q:Nat) (e:Int),q≤s.length→p s q= .error e→ ∃ st:I,op ⟨s.drop q,q,0⟩=some (z,st)∧st.err=e∧e≠0
 good: ∀ (s:List UInt8) (q:Nat) (a:α) (r:Nat),q≤s.length→p s q= .ok (a,r)→op ⟨s.drop q,q,0⟩=some (a,⟨s.drop r,r,0⟩)
structure Sp {α:Type} (p:Pr α) (enc:α→List UInt8) (ok:α→Prop):Prop where
 spell: ∀ (s:List UInt8) (q:Nat) (a:α) (r:Nat),q≤s.length→p s q= .ok (a,r)→q≤r∧r≤s.length∧r=q+(enc a).length∧s.take r=s.take q++enc a∧ok a
 back: ∀ (s t:List UInt8) (q:Nat) (a:α),q≤s.length→ok a→s.drop q=enc a++t→p s q= .ok (a,q+(enc a).length)
theorem cQ {s x t:List UInt8} {q:Nat} (h:s.drop q=x++t):s.drop (q+x.length)=t:=by rw[← yz,h,List.drop_left]
theorem iP (s:List UInt8) (q k:Nat):s.take (q+k)=s.take q++(s.drop q).take k:=List.take_add
theorem sT (q:Int) (c:UInt8) (k:Nat):be (q*256+c.toNat) (k+1)=be q k ++ [c]:=by
 have hc:=c.toNat_lt
 unfold be
 rw[List.range_succ,List.map_append]
 congr 1
 ·apply List.map_congr_left
  intro i hi
  have hi:=List.mem_range.1 hi
  have e:k+1 - 1 - i=(k - 1 - i)+1:=by omega
  have e2:(q*256+(c.toNat:Int)) / 256=q:=by omega
  rw[e,show 8*(k - 1 - i+1)=8+8*(k - 1 - i) by omega,Int.pow_add,← Int.ediv_ediv_of_nonneg (by decide),show (2 ^ 8:Int)=256 from rfl,e2]
 ·simp only[List.map_cons,List.map_nil,Nat.add_sub_cancel,Nat.sub_self,Nat.mul_zero,Int.pow_zero,Int.ediv_one]
  congr 1
  apply UInt8.toNat_inj.1
  simp[UInt8.toNat_ofNat']
  omega
theorem sU (cs:List UInt8): ∀ (q:Int) (k:Nat),be (cs.foldl (fun n d=>n*256+(d.toNat:Int)) q) (k+cs.length)=be q k++cs:=by
 induction cs with
 | nil=>intro q k; simp
 | cons c cs ih =>
  intro q k
  have h:=ih (q*256+c.toNat) (k+1)
  rw[sT] at h
  rw[List.foldl_cons,yd,show k+(cs.length+1)=k+1+cs.length by omega,h]
  simp
theorem tM (c:UInt8):be (sgn c) 1 = [c]:=by
 have hc:=c.toNat_lt
 unfold be
 simp only[List.range_one,List.map_cons,List.map_nil,Nat.sub_self,Nat.mul_zero,Int.pow_zero,Int.ediv_one]
 congr 1
 apply UInt8.toNat_inj.1
 unfold sgn
 simp[UInt8.toNat_ofNat']
 split <;> omega
theorem qW (l:List UInt8) (h:l ≠ []):be (bL l) l.length=l:=by
 cases l with
 | nil=>exact absurd rfl h
 | cons c cs =>
  have h:=sU cs (sgn c) 1
  rw[tM] at h
  rw[yd,Nat.add_comm]
  exact h
def jE (k:Nat):Pr Int:=fun s q=>if s.length<q+k then .error 1 else .ok (bL ((s.drop q).take k),q+k)
theorem CR_int (k:Nat) (h1:1≤k) (h8:k≤8) (kk:Int) (hk:kk=(k:Int)):CR (fun st=>eQ st kk) (jE k) 0:=by
 subst hk
 refine⟨fun st h=> ?_,fun s q e hq h=> ?_,fun s q a r hq h=> ?_⟩
 ·rw[gf,pm h]
 ·unfold jE at h
  split at h
  ·rename_i hl
   injection h with h
   subst h
   refine⟨⟨s.drop q,q,1⟩,?_,rfl,by decide⟩
   simp only[gf]
   rw[ju _ _ _ (by omega) (by omega) (by rw[xT]; omega)]
  ·exact nomatch h
 ·unfold jE at h
  split at h
  ·exact nomatch h
  ·rename_i hl
   injection h with h
   obtain⟨rfl,rfl⟩:=yy h
   simp only[gf]
   rw[od _ _ _ h1 h8 (by rw[xT]; omega),yz]
theorem oN (k:Nat) (h1:1≤k) (h8:k≤8):Sp (jE k) (fun n=>be n k) (fun n=>bq n k=true):=by
 refine⟨fun s q a r hq h=> ?_,fun s t q a hq ha h=> ?_⟩
 ·unfold jE at h
  split at h
  ·exact nomatch h
  ·rename_i hl
   injection h with h
   obtain⟨rfl,rfl⟩:=yy h
   have hn:((s.drop q).take k).length=k:=by rw[yj,xT]; omega
   have hne:(s.drop q).take k ≠ []:=fun h0=>by rw[h0] at hn; simp at hn; omega
   have hb:be (bL ((s.drop q).take k)) k=(s.drop q).take k:=by
    have:=qW _ hne
    rwa [hn] at this
   refine⟨by omega,by omega,by rw[aE],by rw[hb,iP],?_⟩
   rw[← rz _ _ h1 h8,hb]
 ·have hl:=congrArg List.length h
  rw[xT,xR,aE] at hl
  unfold jE
  rw[if_neg (by omega),h,List.take_append_of_le_length (by rw[aE]; omega),List.take_of_length_le (by rw[aE]; omega),aE,pd _ _ h1 h8 ha]
def qX (n:Int):Pr Bl:=fun s q=>if n= -1 then .ok (⟨true,[]⟩,q) else if n<0 then .error 4 else if (s.length:Int)<q+n then .error 1 else .ok (⟨false,(s.drop q).take n.toNat⟩,q+n.toNat)
theorem jG (n:Int) (s:List UInt8) (q:Nat) (hq:q≤s.length) :
 (∃ e st,qX n s q= .error e∧fH ⟨s.drop q,q,0⟩ n=(⟨false,[]⟩,st)∧st.err=e∧e≠0)∨(∃ b r,qX n s q= .ok (b,r)∧fH ⟨s.drop q,q,0⟩ n=(b,⟨s.drop r,r,0⟩)∧q≤r∧r≤s.length∧cT b=n∧aY b=true∧s.take r=s.take q++b.data∧r=q+b.data.length):=by
 have hd:(s.drop q).length=s.length - q:=xT
 unfold qX fH
 rw[if_neg (show ¬ ((⟨s.drop q,q,0⟩:I).err≠0) by simp)]
 by_cases h1:n= -1
 ·rw[if_pos h1,if_pos h1]
  exact .inr ⟨_,_,rfl,rfl,yn _,hq,h1.symm,rfl,by simp,rfl⟩
 rw[if_neg h1,if_neg h1]
 by_cases h2:n<0
 ·rw[if_pos h2,sB _ _ _ h2]
  exact .inl ⟨_,_,rfl,rfl,rfl,by decide⟩
 rw[if_neg h2]
 by_cases h3:(s.length:Int)<q+n
 ·rw[if_pos h3,li _ _ _ (by omega)]
  exact .inl ⟨_,_,rfl,rfl,rfl,by decide⟩
 rw[if_neg h3]
 obtain⟨m,rfl⟩: ∃ m:Nat,n=(m:Int):=⟨n.toNat,by omega⟩
 rw[yA,po _ _ _ (by omega),yz]
 have hl:((s.drop q).take m).length=m:=by rw[yj]; omega
 exact .inr ⟨_,_,rfl,rfl,by omega,by omega,by unfold cT; simp only[Bool.false_eq_true,if_false]; rw[hl],rfl,iP s q m,by rw[hl]⟩
theorem CR_got {lenop:I→Int×I} {p:Pr Int} (hl:CR (fun st=>some (lenop st)) p 0) (hs: ∀ s q a r,q≤s.length→p s q= .ok (a,r)→r≤s.length):CR (fun st=>some (fH (lenop st).2 (lenop st).1)) (p.bind qX) (⟨false,[]⟩:Bl):=by
 refine⟨fun st h=> ?_,fun s q e hq h=> ?_,fun s q a r hq h=> ?_⟩
 ·have h0:=xO (hl.dead st h)
  rw[h0,nr h]
 ·cases hp:p s q with
  | error e' =>
   rw[Pr.bind_err hp] at h
   injection h with h
   subst h
   obtain⟨st,h1,h2,h3⟩:=hl.bad s q e' hq hp
   have h0:=xO h1
   rw[h0,nr (by simp only[h2]; exact h3)]
   exact⟨st,rfl,h2,h3⟩
  | ok x =>
   obtain⟨n,m⟩:=x
   rw[Pr.bind_of hp] at h
   have h0:=xO (hl.good s q n m hq hp)
   rw[h0]
   rcases jG n s m (hs _ _ _ _ hq hp) with⟨e',st,g1,g2,g3,g4⟩ | ⟨b,r,g1,g2,_⟩
   ·rw[g1] at h
    injection h with h
    subst h
    exact⟨st,by rw[g2],g3,g4⟩
   ·rw[g1] at h
    exact nomatch h
 ·obtain⟨n,m,hp,h⟩:=Pr.bind_ok h
  have h0:=xO (hl.good s q n m hq hp)
  rw[h0]
  rcases jG n s m (hs _ _ _ _ hq hp) with⟨e',st,g1,g2,g3,g4⟩ | ⟨b,r',g1,g2,_⟩
  ·rw[g1] at h
   exact nomatch h
  ·rw[g1] at h
   injection h with h
   obtain⟨rfl,rfl⟩:=yy h
   rw[g2]
theorem Sp_got {p:Pr Int} {enc:Int→List UInt8} {ok:Int→Prop} (hp:Sp p enc ok):Sp (p.bind qX) (fun b=>enc (cT b)++b.data) (fun b=>ok (cT b)∧aY b=true):=by
 refine⟨fun s q a r hq h=> ?_,fun s t q a hq ha h=> ?_⟩
 ·obtain⟨n,m,h1,h⟩:=Pr.bind_ok h
  obtain⟨a1,a2,a3,a4,a5⟩:=hp.spell _ _ _ _ hq h1
  rcases jG n s m a2 with⟨e',st,g1,g2,g3,g4⟩ | ⟨b,r',g1,g2,b1,b2,b3,b4,b5,b6⟩
  ·rw[g1] at h
   exact nomatch h
  ·rw[g1] at h
   injection h with h
   obtain⟨rfl,rfl⟩:=yy h
   refine⟨by omega,b2,by rw[xR,b3]; omega,by rw[b5,a4,b3,ya],by rw[b3]; exact a5,b4⟩
 ·rw[ya] at h
  have h1:=hp.back s _ q _ hq ha.1 h
  rw[Pr.bind_of h1,xR,← Nat.add_assoc]
  have h2:=cQ h
  have hl:=congrArg List.length h
  rw[xT,xR,xR] at hl
  generalize (enc (cT a)).length=m at h2 hl ⊢
  obtain⟨nu,d⟩:=a
  unfold qX cT
  cases nu with
  | true =>
   have:d = []:=by have:=ha.2; unfold aY at this; simpa using this
   subst this
   rw[if_pos rfl,if_pos rfl]
   rfl
  | false =>
   simp only[Bool.false_eq_true,if_false]
   simp only at h2 hl
   rw[if_neg (by omega),if_neg (by omega),h2,if_neg (by omega),yA,List.take_left]
theorem gl (bs:Int) (a:Nat): ∀ (l:List UInt8) (b acc i:Nat),vgo bs l (a+b) acc i=((vgo bs l b acc i).1,⟨(vgo bs l b acc i).2.rest,a+(vgo bs l b acc i).2.pos,(vgo bs l b acc i).2.err⟩)
 | [],b,acc,i=>rfl
 | c::l,b,acc,i=>by
  have ih:=gl bs a l (b+1) (acc+c.toNat % 128*2 ^ (7*i)) (i+1)
  unfold vgo
  split
  ·rfl
  ·split
   ·rw[Nat.add_assoc,ih]
   ·split
    ·rfl
    ·rfl
theorem mC (bs:Int): ∀ (l:List UInt8) (b acc i:Nat),(vgo bs l b acc i).2.err≠0→(vgo bs l b acc i).1=0
 | [],b,acc,i,h=>rfl
 | c::l,b,acc,i,h=>by
  have ih:=mC bs l (b+1) (acc+c.toNat % 128*2 ^ (7*i)) (i+1)
  revert h
  unfold vgo
  split
  ·exact fun _=>rfl
  ·split
   ·exact ih
   ·split
    ·exact fun _=>rfl
    ·exact fun h=>absurd rfl h
def km (bs:Int):Pr Nat:=fun s q=>if (vgo bs (s.drop q) 0 0 0).2.err=0 then .ok ((vgo bs (s.drop q) 0 0 0).1,q+(vgo bs (s.drop q) 0 0 0).2.pos) else .error (vgo bs (s.drop q) 0 0 0).2.err
theorem nM {bs:Int} {s:List UInt8} {q n r:Nat} (hq:q≤s.length) (h:km bs s q= .ok (n,r)):co bs ⟨s.drop q,q,0⟩=(n,⟨s.drop r,r,0⟩)∧q≤r∧r≤s.length∧r=q+(aX n).length∧s.take r=s.take q++aX n:=by
 have hd:(s.drop q).length=s.length - q:=xT
 unfold km at h
 split at h
 ·rename_i he
  injection h with h
  obtain⟨h1,h2⟩:=yy h
  obtain⟨k,v,g1,g2,g3,g4,_⟩:=vgo_ok bs (s.drop q) 0 0 0 _ _ (rfl: _=((vgo bs (s.drop q) 0 0 0).1,(vgo bs (s.drop q) 0 0 0).2)) he
  have g3':(vgo bs (s.drop q) 0 0 0).1=v:=by rw[g3]; simp
  rw[g3'] at h1
  subst h1
  rw[g1] at h2
  simp only[Nat.zero_add] at h2
  have hlk:(aX v).length=k:=by rw[g4,yj]; omega
  refine⟨?_,by omega,by omega,by omega,?_⟩
  ·unfold co
   rw[if_neg (by simp)]
   have:=gl bs q (s.drop q) 0 0 0
   rw[Nat.add_zero] at this
   simp only
   rw[this,g3',g1,← h2,yz]
   simp
  ·rw[← h2,iP,g4]
 ·exact nomatch h
theorem tN {bs:Int} {s:List UInt8} {q:Nat} {e:Int} (h:km bs s q= .error e): ∃ st,co bs ⟨s.drop q,q,0⟩=(0,st)∧st.err=e∧e≠0:=by
 unfold km at h
 split at h
 ·exact nomatch h
 ·rename_i he
  injection h with h
  subst h
  have h0:=mC bs (s.drop q) 0 0 0 he
  refine⟨(co bs ⟨s.drop q,q,0⟩).2,?_,?_,he⟩
  ·unfold co
   rw[if_neg (by simp)]
   have:=gl bs q (s.drop q) 0 0 0
   rw[Nat.add_zero] at this
   simp only
   rw[this,h0]
  ·unfold co
   rw[if_neg (by simp)]
   have:=gl bs q (s.drop q) 0 0 0
   rw[Nat.add_zero] at this
   simp only
   rw[this]
theorem qY {bs:Int} {st:I} (h:st.err≠0):co bs st=(0,st):=if_pos h
theorem pJ (bs:Int) (hb:bs=32∨bs=64): ∀ (l:List UInt8) (b acc i:Nat),acc<2 ^ (7*i)→(vgo bs l b acc i).2.err=0→(vgo bs l b acc i).1<2 ^ bs.toNat
 | [],b,acc,i,ha,h=>by simp[vgo] at h
 | c::l,b,acc,i,ha,h=>by
  have ih:=pJ bs hb l (b+1) (acc+c.toNat % 128*2 ^ (7*i)) (i+1)
  revert h
  unfold vgo
  split
  ·exact fun h=>absurd h (by simp)
  ·rename_i hc
   obtain⟨h1,h2⟩:=jW bs hb acc (c.toNat % 128) i ha (by omega) (Nat.mod_lt _ (by decide)) (fun h=>hc (.inr h))
   split
   ·exact ih h1
   ·split
    ·exact fun h=>absurd h (by simp)
    ·exact fun _=>h2
theorem rO (bs:Int) (hb:bs=32∨bs=64):Sp (km bs) aX (fun n=>n<2 ^ bs.toNat):=by
 refine⟨fun s q a r hq h=> ?_,fun s t q a hq ha h=> ?_⟩
 ·obtain⟨h1,h2,h3,h4,h5⟩:=nM hq h
  refine⟨h2,h3,h4,h5,?_⟩
  unfold km at h
  split at h
  ·rename_i he
   injection h with h
   rw[← (yy h).1]
   exact pJ bs hb _ _ _ _ (by simp) he
  ·exact nomatch h
 ·unfold km
  rw[h,uM bs (by omega) a 0 0 0 t (by simpa using ha) (by omega)]
  simp
def iE (bs:Int):Pr Int:=(km bs).bind fun n=> .ret (gz n)
theorem oO (bs:Int) (hb:bs=32∨bs=64):CR (fun st=>some (dg (co bs st))) (iE bs) 0:=by
 refine⟨fun st h=> ?_,fun s q e hq h=> ?_,fun s q a r hq h=> ?_⟩
 ·rw[qY h]
  simp[dg,gz]
 ·cases hp:km bs s q with
  | error e' =>
   rw[iE,Pr.bind_err hp] at h
   injection h with h
   subst h
   obtain⟨st,h1,h2,h3⟩:=tN hp
   exact⟨st,by rw[h1]; simp[dg,gz],h2,h3⟩
  | ok x =>
   rw[iE,Pr.bind_of (a:=x.1) (r:=x.2) hp] at h
   exact nomatch h
 ·obtain⟨n,m,hp,h⟩:=Pr.bind_ok h
  injection h with h
  obtain⟨rfl,rfl⟩:=yy h
  rw[(nM hq hp).1]
  rfl
theorem e8 (bs:Int) (hb:bs=32∨bs=64):Sp (iE bs) (fun n=>aX (aB n)) (fun n=>aB n<2 ^ bs.toNat):=by
 refine⟨fun s q a r hq h=> ?_,fun s t q a hq ha h=> ?_⟩
 ·obtain⟨n,m,hp,h⟩:=Pr.bind_ok h
  injection h with h
  obtain⟨rfl,rfl⟩:=yy h
  have:=(rO bs hb).spell _ _ _ _ hq hp
  rwa [qt]
 ·rw[iE,Pr.bind_of ((rO bs hb).back s t q _ hq ha h)]
  simp only[Pr.ret,qr]
def gm:Pr Bl:=(iE 32).bind qX
theorem nN:CR bb gm (⟨false,[]⟩:Bl) :=
 CR_got (lenop:=fun st=>dg (co 32 st)) (oO 32 (.inl rfl)) (fun s q a r hq h=>((e8 32 (.inl rfl)).spell s q a r hq h).2.1)
theorem eB:Sp gm (fun b=>aX (aB (cT b))++b.data) (fun b=>aB (cT b)<2 ^ (32:Int).toNat∧aY b=true):=Sp_got (e8 32 (.inl rfl))
def nO (p:Pr Bl):Pr (List UInt8):=p.bind fun b=>if b.null then .err 4 else .ret b.data
theorem uV {op:I→Bl×I} {p:Pr Bl} (h:CR (fun st=>some (op st)) p (⟨false,[]⟩:Bl)) (hb: ∀ s q a r,q≤s.length→p s q= .ok (a,r)→aY a=true):CR (fun st=>some (nq (op st))) (nO p) []:=by
 refine⟨fun st hs=> ?_,fun s q e hq he=> ?_,fun s q a r hq hg=> ?_⟩
 ·have h0:=xO (h.dead st hs)
  rw[h0]
  rfl
 ·cases hp:p s q with
  | error e' =>
   rw[nO,Pr.bind_err hp] at he
   injection he with he
   subst he
   obtain⟨st,h1,h2,h3⟩:=h.bad s q _ hq hp
   have h0:=xO h1
   rw[h0]
   exact⟨st,rfl,h2,h3⟩
  | ok x =>
   obtain⟨b,r⟩:=x
   rw[nO,Pr.bind_of hp] at he
   have h0:=xO (h.good s q b r hq hp)
   rw[h0]
   have hbr:=hb _ _ _ _ hq hp
   split at he
   ·rename_i hn
    injection he with he
    subst he
    have:b.data = []:=by unfold aY at hbr; rw[hn] at hbr; simpa using hbr
    refine⟨⟨s.drop r,r,4⟩,?_,rfl,by decide⟩
    unfold nq
    simp only[hn,if_true,this]
    rfl
   ·exact nomatch he
 ·obtain⟨b,m,hp,hg⟩:=Pr.bind_ok hg
  have h0:=xO (h.good s q b m hq hp)
  rw[h0]
  split at hg
  ·exact nomatch hg
  ·rename_i hn
   injection hg with hg
   obtain⟨rfl,rfl⟩:=yy hg
   unfold nq
   simp only[hn,Bool.false_eq_true,if_false]
theorem uW {p:Pr Bl} {enc:Bl→List UInt8} {ok:Bl→Prop} (hp:Sp p enc ok):Sp (nO p) (fun d=>enc ⟨false,d⟩) (fun d=>ok ⟨false,d⟩):=by
 refine⟨fun s q a r hq h=> ?_,fun s t q a hq ha h=> ?_⟩
 ·obtain⟨b,m,h1,h⟩:=Pr.bind_ok h
  have h2:=hp.spell _ _ _ _ hq h1
  split at h
  ·exact nomatch h
  ·rename_i hn
   injection h with h
   obtain⟨rfl,rfl⟩:=yy h
   obtain⟨nu,d⟩:=b
   simp only[Bool.not_eq_true] at hn
   subst hn
   exact h2
 ·rw[nO,Pr.bind_of (hp.back s t q _ hq ha h)]
  rfl
def nP:Pr (List UInt8):=nO gm
theorem uX:CR ml nP []:=uV (op:=dK) nN (fun s q a r hq h=>(eB.spell s q a r hq h).2.2.2.2.2)
theorem iQ:Sp nP (fun d=>aX (aB (d.length:Int))++d) (fun d=>aB (d.length:Int)<2 ^ (32:Int).toNat∧aY ⟨false,d⟩=true):=uW eB
theorem oput_z (t l:List UInt8):ed (t,0) l=(t++l,0):=rfl
theorem tO {n k:Int} (h:bq n k=true): -9223372036854775808≤n∧n≤9223372036854775807:=by
 unfold bq at h
 simp only[Bool.and_eq_true,decide_eq_true_eq] at h
 obtain⟨⟨⟨h1,h2⟩,h3⟩,h4⟩:=h
 have:(2:Nat) ^ (8*k.toNat - 1)≤2 ^ 63:=Nat.pow_le_pow_right (by decide) (by omega)
 have h5:((2:Int) ^ (8*k.toNat - 1))=((2 ^ (8*k.toNat - 1):Nat):Int):=by simp
 have h6:(2:Nat) ^ 63=9223372036854775808:=by decide
 omega
theorem uY {t:List UInt8} {n k:Int} (hf:bq n k=true) (ht:t.length≤140737488355320):eR (t,0) n k=some (t++be n k.toNat,0):=by
 rw[tu _ _ _ ⟨tO hf,by simp only; omega⟩]
 unfold so
 rw[if_pos hf,oput_z]
structure CQ {α:Type} (op:I→Option (α×I)) (p:Pr α) (z:α):Prop where
 dead: ∀ st:I,st.err≠0→op st=some (z,st)
 run: ∀ (s:List UInt8) (q:Nat),q≤s.length→(∃ (e:Int) (st:I),p s q= .error e∧op ⟨s.drop q,q,0⟩=some (z,st)∧st.err=e∧st.err≠0)∨(∃ (a:α) (r:Nat),p s q= .ok (a,r)∧op ⟨s.drop q,q,0⟩=some (a,⟨s.drop r,r,0⟩)∧q≤r∧r≤s.length)
theorem CR.cq {α:Type} {op:I→Option (α×I)} {p:Pr α} {z:α} {enc:α→List UInt8} {ok:α→Prop} (h:CR op p z) (hs:Sp p enc ok):CQ op p z:=by
 refine⟨h.dead,fun s q hq=> ?_⟩
 cases hp:p s q with
 | error e =>
  obtain⟨st,h1,h2,h3⟩:=h.bad s q e hq hp
  exact .inl ⟨e,st,rfl,h1,h2,by rw[h2]; exact h3⟩
 | ok x =>
  have:=hs.spell s q x.1 x.2 hq hp
  exact .inr ⟨x.1,x.2,rfl,h.good s q x.1 x.2 hq hp,this.1,this.2.1⟩
theorem rP (k:Nat) (h1:1≤k) (h8:k≤8) (kk:Int) (hk:kk=(k:Int)):CQ (fun st=>eQ st kk) (jE k) 0:=(CR_int k h1 h8 kk hk).cq (oN k h1 h8)
theorem Q1:CQ (fun st=>eQ st 1) (jE 1) 0:=rP 1 (by decide) (by decide) 1 rfl
theorem Q2:CQ (fun st=>eQ st 2) (jE 2) 0:=rP 2 (by decide) (by decide) 2 rfl
theorem Q4:CQ (fun st=>eQ st 4) (jE 4) 0:=rP 4 (by decide) (by decide) 4 rfl
theorem Q8:CQ (fun st=>eQ st 8) (jE 8) 0:=rP 8 (by decide) (by decide) 8 rfl
theorem rQ (l:List UInt8) (q:Nat) (e:Int):cA ⟨l,q,0⟩ e=⟨l,q,e⟩:=rfl
theorem QV:CQ bb gm (⟨false,[]⟩:Bl):=nN.cq eB
theorem QN:CQ ml nP []:=uX.cq iQ
theorem otx_z (t:List UInt8):otx (t,0)=(t,0):=by simp[otx]
open Go.RowKit
set_option linter.unusedVariables false
set_option linter.unusedSimpArgs false
def pK (each:Nat) (n:Int):Pr Int:=fun s q=>if n<0 then .error 4 else if 0<each∧((s.length - q:Nat):Int) / each<n then .error 1 else .ok (n,q)
def nd {α:Type} (p:Pr α):Nat→Pr (List α)
 | 0=> .ret []
 | n+1=>p.bind fun a=>(nd p n).bind fun l=> .ret (a::l)
def aN {α:Type} (enc:α→List UInt8):List α→List UInt8
 | [] => []
 | a::l=>enc a++aN enc l
theorem qZ {α:Type} {p:Pr α} {enc:α→List UInt8} {ok:α→Prop} (hp:Sp p enc ok): ∀ n:Nat,Sp (nd p n) (aN enc) (fun l=>l.length=n∧ ∀ x,x∈l→ok x)
 | 0=>by
  refine⟨fun s q a r hq h=> ?_,fun s t q a hq ha h=> ?_⟩
  ·injection h with h
   obtain⟨rfl,rfl⟩:=yy h
   exact⟨yn _,hq,rfl,by simp[aN],rfl,fun x h=>nomatch h⟩
  ·obtain rfl:=List.length_eq_zero_iff.1 ha.1
   rfl
 | n+1=>by
  have ih:=qZ hp n
  refine⟨fun s q a r hq h=> ?_,fun s t q a hq ha h=> ?_⟩
  ·obtain⟨x,q1,h1,h⟩:=Pr.bind_ok h
   obtain⟨l,q2,h2,h⟩:=Pr.bind_ok h
   injection h with h
   obtain⟨rfl,rfl⟩:=yy h
   obtain⟨a1,a2,a3,a4,a5⟩:=hp.spell _ _ _ _ hq h1
   obtain⟨b1,b2,b3,b4,b5,b6⟩:=ih.spell _ _ _ _ a2 h2
   refine⟨by omega,b2,by rw[aN,xR]; omega,by rw[b4,a4,aN,ya],by rw[yd,b5],fun y hy=> ?_⟩
   rcases List.mem_cons.1 hy with rfl | hy
   ·exact a5
   ·exact b6 y hy
  ·obtain⟨ha1,ha2⟩:=ha
   cases a with
   | nil=>exact absurd ha1 (by simp)
   | cons x l =>
    rw[aN,ya] at h
    have hl:=congrArg List.length h
    rw[xT,xR] at hl
    have g1:=hp.back _ _ _ _ hq (ha2 x (.head _)) h
    have g2:=ih.back _ _ _ _ (by omega) ⟨by simpa using ha1,fun y hy=>ha2 y (.tail _ hy)⟩ (cQ h)
    rw[nd,Pr.bind_of g1,Pr.bind_of g2]
    simp only[Pr.ret,aN,xR,Nat.add_assoc]
theorem rR {α:Type} {enc:α→List UInt8} {ok:α→Prop} {each:Nat} (he: ∀ x,ok x→each≤(enc x).length): ∀ l:List α,(∀ x,x∈l→ok x)→l.length*each≤(aN enc l).length
 | [],h=>by simp
 | x::l,h=>by
  have:=rR he l (fun y hy=>h y (.tail _ hy))
  have:=he x (h x (.head _))
  rw[aN,xR,yd,Nat.add_mul]
  omega
structure CB {α:Type} (op:I→Option (α×I)) (p:Pr α) (z:α):Prop where
 dead: ∀ st:I,st.err≠0→op st=some (z,st)
 run: ∀ (s:List UInt8) (q:Nat),s.length≤1000000→q≤s.length→(∃ (e:Int) (st:I),p s q= .error e∧op ⟨s.drop q,q,0⟩=some (z,st)∧st.err=e∧st.err≠0)∨(∃ (a:α) (r:Nat),p s q= .ok (a,r)∧op ⟨s.drop q,q,0⟩=some (a,⟨s.drop r,r,0⟩)∧q≤r∧r≤s.length)
theorem CQ.cb {α:Type} {op:I→Option (α×I)} {p:Pr α} {z:α} (h:CQ op p z):CB op p z:=⟨h.dead,fun s q _ hq=>h.run s q hq⟩
def NZ {α:Type} (p:Pr α):Prop:= ∀ (s:List UInt8) (q:Nat) (e:Int),s.length≤1000000→q≤s.length→p s q= .error e→e≠0
theorem CB.nz {α:Type} {op:I→Option (α×I)} {p:Pr α} {z:α} (h:CB op p z):NZ p:=by
 intro s q e hs hq hp
 rcases h.run s q hs hq with⟨e',st,p1,g,x,y⟩ | ⟨a,r,p1,g,n,l⟩
 ·rw[hp] at p1
  injection p1 with p1
  rw[p1,← x]
  exact y
 ·rw[hp] at p1
  exact nomatch p1
theorem CB.bind {α β:Type} {op1:I→Option (α×I)} {p:Pr α} {z1:α} {op2:α→I→Option (β×I)} {f:α→Pr β} {z:β} (W:α→Prop) (h:CB op1 p z1)
 (hs: ∀ s q a r,s.length≤1000000→q≤s.length→p s q= .ok (a,r)→W a) (hz:W z1) (hf: ∀ a,W a→CB (op2 a) (f a) z):CB (fun st=>(op1 st).bind fun (a,st1)=>op2 a st1) (p.bind f) z:=by
 refine⟨fun st hd=> ?_,fun s q hl hq=> ?_⟩
 ·show (op1 st).bind _= _
  rw[h.dead st hd,xP]
  exact (hf z1 hz).dead st hd
 ·rcases h.run s q hl hq with⟨e,st,p1,g1,x1,y1⟩ | ⟨a,r,p1,g1,n1,l1⟩
  ·refine .inl ⟨e,st,Pr.bind_err p1,?_,x1,y1⟩
   show (op1 _).bind _= _
   rw[g1,xP]
   exact (hf z1 hz).dead st y1
  ·have g2:((op1 ⟨s.drop q,q,0⟩).bind fun (a,st1)=>op2 a st1)=op2 a ⟨s.drop r,r,0⟩:=by rw[g1,xP]
   show (∃ e st,p.bind f s q= _∧((op1 ⟨s.drop q,q,0⟩).bind fun (a,st1)=>op2 a st1)= _∧ _∧ _)∨(∃ x m,p.bind f s q= _∧((op1 ⟨s.drop q,q,0⟩).bind fun (a,st1)=>op2 a st1)= _∧ _∧ _)
   rw[g2,Pr.bind_of p1]
   rcases (hf a (hs s q a r hl hq p1)).run s r hl l1 with⟨e,st,p2,k2,x2,y2⟩ | ⟨b,m,p2,k2,n2,l2⟩
   ·exact .inl ⟨e,st,p2,k2,x2,y2⟩
   ·exact .inr ⟨b,m,p2,k2,by omega,l2⟩
theorem CB.congr {α:Type} {op op':I→Option (α×I)} {p:Pr α} {z:α} (h:CB op p z) (he: ∀ st,op' st=op st):CB op' p z:=⟨fun st hd=>(he st).trans (h.dead st hd),fun s q hl hq=>by rw[he]; exact h.run s q hl hq⟩
theorem CB.pr {α:Type} {op:I→Option (α×I)} {p p':Pr α} {z:α} (h:CB op p z) (he:p=p'):CB op p' z:=he ▸ h
theorem CB_chk {α:Type} {op:I→Option (α×I)} {x0 z:α} {e:Int} (h: ∀ st:I,st.err≠0→op st=some (z,st)) (h0: ∀ st:I,st.err=0→op st=some (if e=0 then (x0,st) else (z,cA st e))):CB op (if e=0 then .ret x0 else .err e) z:=by
 refine⟨h,fun s q hl hq=> ?_⟩
 by_cases he:e=0
 ·rw[if_pos he,h0 _ rfl,if_pos he]
  exact .inr ⟨x0,q,rfl,rfl,yn _,hq⟩
 ·rw[if_neg he,h0 _ rfl,if_neg he]
  exact .inl ⟨e,_,rfl,rfl,rfl,he⟩
theorem Pr.bind_assoc {α β γ:Type} (p:Pr α) (f:α→Pr β) (g:β→Pr γ):(p.bind f).bind g=p.bind fun a=>(f a).bind g:=by
 funext s q
 unfold Pr.bind
 cases p s q with
 | error e=>rfl
 | ok x=>rfl
theorem Pr.ret_bind {α β:Type} (a:α) (f:α→Pr β):(Pr.ret a).bind f=f a:=by
 funext s q
 rfl
def mD:List Nat→Pr (List Int)
 | []=> .ret []
 | k::ks=>(jE k).bind fun a=>(mD ks).bind fun l=> .ret (a::l)
def ja:List Nat→List Int→List UInt8
 | k::ks,x::xs=>be x k++ja ks xs
 | _,_ => []
def okI:List Nat→List Int→Prop
 | [],[]=>True
 | k::ks,x::xs=>bq x k=true∧okI ks xs
 | _,_=>False
theorem lR: ∀ ks:List Nat,(∀ k,k∈ks→1≤k∧k≤8)→Sp (mD ks) (ja ks) (okI ks)
 | [],_=>by
  refine⟨fun s q l r hq h=> ?_,fun s t q l hq hl hd=> ?_⟩
  ·injection h with h
   obtain⟨rfl,rfl⟩:=yy h
   exact⟨yn _,hq,rfl,by simp[ja],trivial⟩
  ·cases l with
   | nil=>rfl
   | cons x xs=>exact nomatch hl
 | k::ks,hk=>by
  have hp:=oN k (hk k (List.mem_cons_self ..)).1 (hk k (List.mem_cons_self ..)).2
  have ih:=lR ks (fun j hj=>hk j (List.mem_cons_of_mem _ hj))
  refine⟨fun s q l r hq h=> ?_,fun s t q l hq hl hd=> ?_⟩
  ·obtain⟨a,m,h1,h2⟩:=Pr.bind_ok h
   obtain⟨xs,m2,h3,h4⟩:=Pr.bind_ok h2
   injection h4 with h4
   obtain⟨rfl,rfl⟩:=yy h4
   obtain⟨a1,a2,a3,a4,a5⟩:=hp.spell s q a m hq h1
   obtain⟨b1,b2,b3,b4,b5⟩:=ih.spell s m xs m2 a2 h3
   exact⟨by omega,b2,by simp only[ja,xR]; omega,by rw[b4,a4,ja,ya],a5,b5⟩
  ·cases l with
   | nil=>exact nomatch hl
   | cons x xs =>
    rw[ja,ya] at hd
    have h1:=hp.back s _ q x hq hl.1 hd
    have hl2:=congrArg List.length hd
    rw[xT,xR] at hl2
    have h2:=ih.back s t _ xs (by omega) hl.2 (cQ hd)
    rw[mD,Pr.bind_of h1,Pr.bind_of h2,ja,xR,← Nat.add_assoc]
    rfl
def KS:List Nat := [8,4,4,1,4,2,4,8,8,8,2,4,4]
theorem tP: ∀ k,k∈KS→1≤k∧k≤8:=by decide
def s32 (n:Int):Int:=if n>2147483647 then n - 4294967296 else n
def toL (p:Pfx):List Int := [p.xy,p.xD,p.xt,2,s32 p.xG,p.xH,p.xw,p.xr,p.xB,p.xq,p.xv,p.xo,p.xF]
def ckE (b m ct:Int):Int:=if m=2 then (if b<49 then 4 else if ct<0 then 10 else 0) else 6
def chkP:List Int→Pr Pfx
 | [a,b,c,m,s,at',la,fi,mx,pr,ep,sq,ct]=>if ckE b m ct=0 then .ret ⟨a,b,c,s % 4294967296,at',la,fi,mx,pr,ep,sq,ct⟩ else .err (ckE b m ct)
 | _=> .err 1
def pL:Pr Pfx:=(mD KS).bind chkP
def g8 (p:Pfx):List UInt8:=ja KS (toL p)
def okP (p:Pfx):Prop:=okI KS (toL p)∧(0≤p.xG∧p.xG≤4294967295)∧49≤p.xD∧0≤p.xF
theorem rS: ∀ {ks:List Nat} {l:List Int},okI ks l→l.length=ks.length
 | [],[],_=>rfl
 | k::ks,x::xs,h=>by rw[yd,yd,rS h.2]
 | [],_ :: _,h=>nomatch h
 | _ :: _,[],h=>nomatch h
theorem pM: ∀ {ks:List Nat} {l:List Int},okI ks l→(ja ks l).length=ks.sum
 | [],[],_=>rfl
 | k::ks,x::xs,h=>by rw[ja,xR,aE,pM h.2,List.sum_cons]
 | [],_ :: _,h=>nomatch h
 | _ :: _,[],h=>nomatch h
theorem len13 {l:List Int} (h:l.length=13): ∃ a b c m s t la fi mx pr ep sq ct,l = [a,b,c,m,s,t,la,fi,mx,pr,ep,sq,ct]:=by
 match l,h with
 | [a,b,c,m,s,t,la,fi,mx,pr,ep,sq,ct],_=>exact⟨a,b,c,m,s,t,la,fi,mx,pr,ep,sq,ct,rfl⟩
theorem tQ {s:Int} (h:bq s 4=true):s32 (s % 4294967296)=s:=by
 rw[gp] at h
 have:=of_decide_eq_true h
 unfold s32
 split <;> omega
theorem uZ {s:Int} (h:0≤s∧s≤4294967295):s32 s % 4294967296=s:=by
 unfold s32
 split <;> omega
theorem pN {b m ct:Int} (h:ckE b m ct=0):m=2∧49≤b∧0≤ct:=by
 unfold ckE at h
 by_cases h1:m=2
 ·rw[if_pos h1] at h
  by_cases h2:b<49
  ·rw[if_pos h2] at h; cases h
  ·rw[if_neg h2] at h
   by_cases h3:ct<0
   ·rw[if_pos h3] at h; cases h
   ·exact⟨h1,by omega,by omega⟩
 ·rw[if_neg h1] at h; cases h
theorem ckE_of {b ct:Int} (h1:49≤b) (h2:0≤ct):ckE b 2 ct=0:=by
 unfold ckE
 rw[if_pos rfl,if_neg (by omega),if_neg (by omega)]
theorem ra:Sp pL g8 okP:=by
 refine⟨fun s q p r hq h=> ?_,fun s t q p hq hp hd=> ?_⟩
 ·obtain⟨l,m,h1,h2⟩:=Pr.bind_ok h
  obtain⟨a1,a2,a3,a4,a5⟩:=(lR KS tP).spell s q l m hq h1
  obtain⟨a,b,c,mg,sm,t,la,fi,mx,pr,ep,sq,ct,rfl⟩:=len13 (rS a5)
  have hs:bq sm 4=true:=a5.2.2.2.2.1
  unfold chkP at h2
  dsimp only at h2
  by_cases hc:ckE b mg ct=0
  ·rw[if_pos hc] at h2
   injection h2 with h2
   obtain⟨rfl,rfl⟩:=yy h2
   obtain⟨rfl,c2,c3⟩:=pN hc
   have e:toL ⟨a,b,c,sm % 4294967296,t,la,fi,mx,pr,ep,sq,ct⟩ = [a,b,c,2,sm,t,la,fi,mx,pr,ep,sq,ct]:=by
    unfold toL
    rw[tQ hs]
   unfold g8 okP
   rw[e]
   exact⟨a1,a2,a3,a4,a5,by show 0≤sm % 4294967296∧sm % 4294967296≤4294967295; omega,c2,c3⟩
  ·rw[if_neg hc] at h2
   exact nomatch h2
 ·have h1:=(lR KS tP).back s t q (toL p) hq hp.1 hd
  rw[pL,Pr.bind_of h1]
  unfold toL chkP
  dsimp only
  rw[if_pos (ckE_of hp.2.2.1 hp.2.2.2),uZ hp.2.1]
  rfl
theorem and32 (n:Int):Go.bits .and .i64 n 4294967295=n % 4294967296:=by
 rw[show (4294967295:Int)=((4294967295:Nat):Int) from rfl,oB n _ (by decide),show (4294967295:Nat)=2 ^ 32 - 1 from rfl,Nat.and_two_pow_sub_one_eq_mod]
 omega
def zP:Pfx:=⟨0,0,0,0,0,0,0,0,0,0,0,0⟩
def tR (a b c m s t la fi mx pr ep sq ct:Int) (st:I):Option (Pfx×I):=(jZ st).bind fun (x57,st58)=>(if x57=0 then ((if m=2 then ((if b<49 then ((bl st58 4).bind fun st164=>some st164) else ((if ct<0 then ((bl st58 10).bind fun st172=>some st172) else some st58).bind fun st169=>some st169)).bind fun st161=>some st161) else ((bl st58 6).bind fun st174=>some st174)).bind fun st147=>some st147) else some st58).bind fun st117=>(jZ st117).bind fun (x176,st177)=>if x176=0 then (some ((⟨a,b,c,(Go.bits .and .i64 s 4294967295),t,la,fi,mx,pr,ep,sq,ct⟩:Pfx),st177)) else (some ((⟨0,0,0,0,0,0,0,0,0,0,0,0⟩:Pfx),st177))
theorem B_tail (a b c m s t la fi mx pr ep sq ct:Int):CB (tR a b c m s t la fi mx pr ep sq ct) (chkP [a,b,c,m,s,t,la,fi,mx,pr,ep,sq,ct]) zP:=by
 refine CB_chk (fun st h=> ?_) (fun st h=> ?_)
 ·unfold tR
  rw[bX,xP]
  dsimp only
  rw[if_neg h,xP,bX,xP]
  dsimp only
  rw[if_neg h]
  rfl
 ·obtain⟨l,q,e⟩:=st
  obtain rfl:e=0:=h
  unfold tR ckE
  rw[bX,xP]
  dsimp only
  rw[if_pos rfl,and32]
  by_cases h1:m=2
  ·rw[if_pos h1,if_pos h1]
   by_cases h2:b<49
   ·rw[if_pos h2,if_pos h2,if_neg (by decide)]; rfl
   ·rw[if_neg h2,if_neg h2]
    by_cases h3:ct<0
    ·rw[if_pos h3,if_pos h3,if_neg (by decide)]; rfl
    ·rw[if_neg h3,if_neg h3,if_pos rfl]; rfl
  ·rw[if_neg h1,if_neg h1,if_neg (by decide)]; rfl
theorem tS:CB (fun st=>di st) pL zP:=by
 have w: ∀ {p:Pr Int} (s:List UInt8) (q:Nat) (a:Int) (r:Nat),s.length≤1000000→q≤s.length→p s q= .ok (a,r)→(fun _:Int=>True) a:=fun _ _ _ _ _ _ _=>trivial
 have h:=CB.bind (fun _=>True) Q8.cb w trivial fun a _=>CB.bind (fun _=>True) Q4.cb w trivial fun b _=>CB.bind (fun _=>True) Q4.cb w trivial fun c _=>CB.bind (fun _=>True) Q1.cb w trivial fun m _=>CB.bind (fun _=>True) Q4.cb w trivial fun s _ =>
  CB.bind (fun _=>True) Q2.cb w trivial fun t _=>CB.bind (fun _=>True) Q4.cb w trivial fun la _=>CB.bind (fun _=>True) Q8.cb w trivial fun fi _=>CB.bind (fun _=>True) Q8.cb w trivial fun mx _=>CB.bind (fun _=>True) Q8.cb w trivial fun pr _ =>
  CB.bind (fun _=>True) Q2.cb w trivial fun ep _=>CB.bind (fun _=>True) Q4.cb w trivial fun sq _=>CB.bind (fun _=>True) Q4.cb w trivial fun ct _=>B_tail a b c m s t la fi mx pr ep sq ct
 refine (h.congr (fun st=>rfl)).pr ?_
 unfold pL KS
 simp only[mD,Pr.bind_assoc,Pr.ret_bind]
end Go.Proofs.YtahjmpipllajcaaGreat.Sl
