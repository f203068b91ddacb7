/- scanFeeds_holds: part 5. -/
import Derived.Test.YtahjmpipllajcaaGreatK4
set_option maxRecDepth 100000
set_option maxHeartbeats 4000000
set_option linter.defProp false
namespace Go.Proofs.YtahjmpipllajcaaGreat.Sl
open Go.RowKit
set_option linter.unusedVariables false
set_option linter.unusedSimpArgs false
def xm := @Tryz.sizeOf56
def xK := @Tryz.results18
def xO := @Tryz.isAgg56
def xU := @Tryz.runUnderlying28
def xV := @Tryz.results13
def yj := @Tryz.results28
def yq := @Tryz.results25
def yN := @Tryz.runUnderlying56
def zb := @Tryz.runUnderlying4
def kv:dU := [(43,0,0),(43,1,1),(43,2,2),(43,3,3),(43,4,4),(43,5,5),(43,6,6),(43,7,7),(43,8,8),(43,9,9),(43,10,10),(43,11,11),(69,0,0),(69,1,1),(99,0,0),(99,1,7),(99,2,8)]
theorem aa:(kv).OK Tryz.prog:=⟨FOK.mk xr rfl xg rfl,FOK.mk xr rfl xg rfl,FOK.mk xr rfl yc rfl,FOK.mk xr rfl yc rfl,FOK.mk xr rfl yc rfl,FOK.mk xr rfl xg rfl,FOK.mk xr rfl xg rfl,FOK.mk xr rfl xg rfl,FOK.mk xr rfl xg rfl,FOK.mk xr rfl xg rfl,FOK.mk xr rfl xg rfl,FOK.mk xr rfl Tryz.sizeOf41 rfl,FOK.mk xz rfl xg rfl,FOK.mk xz rfl xg rfl,FOK.mk yA rfl xk rfl,FOK.mk yA rfl xg rfl,FOK.mk yA rfl xg rfl,trivial⟩
theorem cW:Tryz.prog.follows .mixedOrders=true:=by kernel_rfl
theorem iw:BOK Tryz.prog 43 #[.int .i64 0,.int .i64 0,.bool false,.bool false,.bool false,.int .i64 0,.int .i64 0,.int .i64 0,.int .i64 0,.int .i64 0,.int .i64 0,.slice none 0 0] [(0,1),(1,1),(2,1),(3,1),(4,1),(5,1),(6,1),(7,1),(8,1),(9,1),(10,1),(11,1)]:=BOK.mk Tryz.zeroValue43 xr (by intro w; simp)
theorem aQ:BOK Tryz.prog 56 #[.int .i64 0,.int .i64 0,.bool false,.bool false,.bool false,.int .i64 0,.int .i64 0,.int .i64 0,.int .i64 0,.int .i64 0,.int .i64 0,.slice none 0 0,.int .i64 0,.int .i64 0] [(0,12),(12,1),(13,1)]:=BOK.mk Tryz.zeroValue56 yN (by intro w; simp)
theorem gR:SOK Tryz.prog 41 69 1 7 #[.int .i64 0,.int .i64 0,.bool false,.string ⟨#[]⟩,.bool false,.string ⟨#[]⟩,.slice none 0 0]:=SOK.mk xn xk Tryz.zeroValue69 (by decide) (by kernel_rfl)
theorem iy:(Tryz.prog.info? 69).map (fun i=>(i.zero,i.size,i.bytes))=some (some (.agg #[.int .i64 0,.int .i64 0,.bool false,.string ⟨#[]⟩,.bool false,.string ⟨#[]⟩,.slice none 0 0]),7,88):=by kernel_rfl
def dv (a0:Int) (a1:Int):Option (Bool):=if a0≥a1 then (if a0≤2147483647 then some true else some false) else some false
theorem eH (a0:Int) (a1:Int) (r:Bool) (h:dv a0 a1=some r):au Tryz.prog 24 #[jI a0,jI a1] .triv (aw) (fun v A' N=>v= .bool r∧A'=aw∧N = []):=by
 refine aF Tryz.func24 Z Tryz.ntmps24 Z ?_
 intro F w hX
 unfold dv at h
 refine T.seq (T.region Z (TL.run aa [0] Z Z (TL.nil (X.seq (T.seq (T.region Z ?_))))))
 rcases jF h with⟨c1,h⟩ | ⟨c1,h⟩
 ·refine TL.run aa [0,1,2,3] Z Z ?_
  iterate 2 refine TL.q Z (.g Z Z (wY c1)) (uI aa Z) Z ?_
  refine TL.q Z .u (uJ Z (wY c1) Z) Z (TL.run aa [7] Z Z ?_)
  rcases jF h with⟨c2,h⟩ | ⟨c2,h⟩
  ·obtain rfl:=xa h
   exact TL.nil (X.seq (T.ret (uC [0] Tryz.results24 (uD (v:= .bool true) (congrArg (fun b=>some (Value.bool b)) (wY c2))) ⟨Z,Z,Z⟩ (by rfl) (.inl Z))))
  ·obtain rfl:=xa h
   exact TL.nil (X.seq (T.ret (uC [0] Tryz.results24 (uD (v:= .bool false) (congrArg (fun b=>some (Value.bool b)) (wZ c2))) ⟨Z,Z,Z⟩ (by rfl) (.inl Z))))
 ·refine TL.run aa [0,1,2,3] Z Z ?_
  iterate 2 refine uG Z (.gn Z Z (wZ c1)) Z ?_
  refine TL.q Z .u (uL Z (wZ c1) Z) Z (TL.run aa [7] Z Z ?_)
  obtain rfl:=xa h
  exact TL.nil (X.seq (T.ret (uC [0] Tryz.results24 (uD Z) ⟨Z,Z,Z⟩ (by rfl) (.inl Z))))
def di (a0:Bat):Option (Bool):=if a0.ww=(-1) then (if a0.wA=(-1) then (if a0.wv=(-1) then (if a0.wN=true then some false else some true) else some false) else some false) else (if a0.ww<0 then some false else (if a0.wA<0 then some false else (if a0.wA>32767 then some false else (if a0.wF=true then (if a0.wv=(-1) then some true else some false) else ((dv a0.wv 0).bind fun x13=>some x13)))))
theorem fj (a0:Bat) (A1:Option Addr) (c2:Nat) (r:Bool) (h:di a0=some r):au Tryz.prog 25 #[.agg #[jI a0.wG,jI a0.wz,.bool a0.wH,.bool a0.wN,.bool a0.wF,jI a0.wE,jI a0.wx,jI a0.wJ,jI a0.ww,jI a0.wA,jI a0.wv,.slice A1 a0.ws.length c2]] (RX.of (aq 7 bf) [.slice A1 a0.ws.length c2] a0.ws) (aw) (fun v A' N=>v= .bool r∧A'=aw∧N = []):=by
 refine aF Tryz.func25 Z Tryz.ntmps25 Z ?_
 intro F w hX
 unfold di at h
 refine T.seq (T.region Z (TL.box Z .u Z Z (fun b3=>(TL.run aa [1] Z Z (TL.nil (X.seq (T.seq (T.seq (T.region Z (TL.run aa [0] Z Z (TL.q Z .u (uB 0 Z xc Z Z) Z (TL.run aa [2] Z Z ?_))))))))))))
 rcases jF h with⟨c4,h⟩ | ⟨c4,h⟩
 ·refine TL.nil (X.seq (uF Z (wY c4) (T.seq (T.region Z (TL.run aa [0] Z Z (TL.q Z .u (uB 0 Z xc Z Z) Z ?_))))))
  rcases jF h with⟨c5,h⟩ | ⟨c5,h⟩
  ·refine TL.run aa [2,3] Z Z (TL.q Z (.g Z Z (wY c5)) (uI aa Z) Z (TL.q Z (.g Z Z (wY c5)) (uB 0 Z xc Z Z) Z (TL.q Z (.g Z Z (wY c5)) (uI aa Z) Z (TL.q Z .u (uJ Z (wY c5) Z) Z ?_))))
   rcases jF h with⟨c6,h⟩ | ⟨c6,h⟩
   ·refine TL.run aa [8] Z Z (TL.q Z (.g Z Z (wY c6)) (uI aa Z) Z (TL.q Z (.g Z Z (wY c6)) (uB 0 Z xE Z Z) Z (TL.q Z (.g Z Z (wY c6)) (uI aa Z) Z (TL.q Z .u (uJ Z (wY c6) Z) Z (TL.run aa [13] Z Z ?_)))))
    rcases jF h with⟨c7,h⟩ | ⟨c7,h⟩
    ·obtain rfl:=xa h
     exact TL.nil (X.seq (T.ret (uH (uC [1] yq (uD (v:= .bool false) (congrArg (fun b=>some (Value.bool b)) (av c7))) ⟨Z,Z,Z⟩ (by rfl) (.inl Z)))))
    ·replace c7:=xi c7
     obtain rfl:=xa h
     exact TL.nil (X.seq (T.ret (uH (uC [1] yq (uD (v:= .bool true) (congrArg (fun b=>some (Value.bool b)) (aA c7))) ⟨Z,Z,Z⟩ (by rfl) (.inl Z)))))
   ·refine TL.run aa [8] Z Z ?_
    iterate 3 refine uG Z (.gn Z Z (wZ c6)) Z ?_
    refine TL.q Z .u (uL Z (wZ c6) Z) Z (TL.run aa [13] Z Z ?_)
    obtain rfl:=xa h
    exact TL.nil (X.seq (T.ret (uH (uC [1] yq (uD Z) ⟨Z,Z,Z⟩ (by rfl) (.inl Z)))))
  ·refine TL.run aa [2,3] Z Z ?_
   iterate 3 refine uG Z (.gn Z Z (wZ c5)) Z ?_
   refine TL.q Z .u (uL Z (wZ c5) Z) Z (TL.run aa [8] Z Z ?_)
   iterate 3 refine uG Z (.gn Z Z Z) Z ?_
   refine TL.q Z .u (uL Z Z Z) Z (TL.run aa [13] Z Z ?_)
   obtain rfl:=xa h
   exact TL.nil (X.seq (T.ret (uH (uC [1] yq (uD Z) ⟨Z,Z,Z⟩ (by rfl) (.inl Z)))))
 ·refine TL.nil (X.seq (uK Z (wZ c4) (T.skip (X.seq (T.seq (T.seq (T.region Z (TL.run aa [0] Z Z (TL.q Z .u (uB 0 Z xc Z Z) Z ?_)))))))))
  rcases jF h with⟨c8,h⟩ | ⟨c8,h⟩
  ·refine TL.run aa [2,3] Z Z ?_
   iterate 3 refine uG Z (.gn Z Z (wY c8)) Z ?_
   refine TL.q Z .u (uJ Z (wY c8) Z) Z (TL.run aa [8] Z Z ?_)
   iterate 3 refine uG Z (.gn Z Z Z) Z ?_
   refine TL.q Z .u (uJ Z Z Z) Z (TL.nil (X.seq (uF Z Z (T.seq (T.region Z (TL.run aa [0] Z Z ?_))))))
   obtain rfl:=xa h
   exact TL.nil (X.seq (T.ret (uH (uC [1] yq (uD Z) ⟨Z,Z,Z⟩ (by rfl) (.inl Z)))))
  ·refine TL.run aa [2,3] Z Z (TL.q Z (.g Z Z (wZ c8)) (uI aa Z) Z (TL.q Z (.g Z Z (wZ c8)) (uB 0 Z xc Z Z) Z (TL.q Z (.g Z Z (wZ c8)) (uI aa Z) Z (TL.q Z .u (uL Z (wZ c8) Z) Z ?_))))
   rcases jF h with⟨c9,h⟩ | ⟨c9,h⟩
   ·refine TL.run aa [8] Z Z ?_
    iterate 3 refine uG Z (.gn Z Z (wY c9)) Z ?_
    refine TL.q Z .u (uJ Z (wY c9) Z) Z (TL.nil (X.seq (uF Z Z (T.seq (T.region Z (TL.run aa [0] Z Z ?_))))))
    obtain rfl:=xa h
    exact TL.nil (X.seq (T.ret (uH (uC [1] yq (uD Z) ⟨Z,Z,Z⟩ (by rfl) (.inl Z)))))
   ·refine TL.run aa [8] Z Z (TL.q Z (.g Z Z (wZ c9)) (uI aa Z) Z (TL.q Z (.g Z Z (wZ c9)) (uB 0 Z xc Z Z) Z (TL.q Z (.g Z Z (wZ c9)) (uI aa Z) Z (TL.q Z .u (uL Z (wZ c9) Z) Z ?_))))
    rcases jF h with⟨c10,h⟩ | ⟨c10,h⟩
    ·refine TL.nil (X.seq (uF Z (wY c10) (T.seq (T.region Z (TL.run aa [0] Z Z ?_)))))
     obtain rfl:=xa h
     exact TL.nil (X.seq (T.ret (uH (uC [1] yq (uD Z) ⟨Z,Z,Z⟩ (by rfl) (.inl Z)))))
    ·refine TL.nil (X.seq (uK Z (wZ c10) (T.skip (X.seq (T.seq (T.seq (T.region Z (TL.run aa [0] Z Z (TL.q Z .u (uB 0 Z xE Z Z) Z ?_)))))))))
     rcases jF h with⟨c11,h⟩ | ⟨c11,h⟩
     ·refine TL.nil (X.seq (uF Z c11 (T.seq (T.region Z (TL.run aa [0] Z Z (TL.q Z .u (uB 0 Z xc Z Z) Z (TL.run aa [2,3] Z Z ?_)))))))
      rcases jF h with⟨c12,h⟩ | ⟨c12,h⟩
      ·obtain rfl:=xa h
       exact TL.nil (X.seq (T.ret (uH (uC [1] yq (uD (v:= .bool true) (congrArg (fun b=>some (Value.bool b)) (wY c12))) ⟨Z,Z,Z⟩ (by rfl) (.inl Z)))))
      ·obtain rfl:=xa h
       exact TL.nil (X.seq (T.ret (uH (uC [1] yq (uD (v:= .bool false) (congrArg (fun b=>some (Value.bool b)) (wZ c12))) ⟨Z,Z,Z⟩ (by rfl) (.inl Z)))))
     ·replace c11:=xi c11
      refine TL.nil (X.seq (uK Z c11 (T.skip (X.seq (T.seq (T.region Z (TL.run aa [0] Z Z (TL.q Z .u (uB 0 Z xc Z Z) Z ?_))))))))
      obtain⟨x13,hx14,h⟩:=wX h
      refine uP Z .u (.fn Tryz.call24 Z) (eH a0.wv 0 _ hx14) (fun _ hs=>(uE _ _)) Z (TL.run aa [3] Z Z ?_)
      obtain rfl:=xa h
      exact TL.nil (X.seq (T.ret (uC [1] yq (uD Z) ⟨Z,Z,Z⟩ (by rfl) (.inl Z))))
def bO (a0:Bat):Nat→Int→Int→Nat→Option (Lp Int (Int×Int×Nat))
 | 0,_,_,_=>none
 | m10+1,y4,y5,k6=>if (k6:Int)<(a0.ws.length:Int) then ((a0.ws[k6]?).bind fun x15=>if -9223372036854775808≤(9223372036854775807 - a0.wx)∧(9223372036854775807 - a0.wx)≤9223372036854775807 then (if x15.wK>(9223372036854775807 - a0.wx) then (some (Lp.ret (-1))) else (if -9223372036854775808≤(-a0.wx)∧(-a0.wx)≤9223372036854775807 then (if x15.wK<(-a0.wx) then (some (Lp.ret (-1))) else (if -9223372036854775808≤(a0.wx+x15.wK)∧(a0.wx+x15.wK)≤9223372036854775807 then (if (a0.wx+x15.wK)>y5 then (if -9223372036854775808≤(a0.wx+x15.wK)∧(a0.wx+x15.wK)≤9223372036854775807 then (if -9223372036854775808≤((k6:Int)+1)∧((k6:Int)+1)≤9223372036854775807 then (bO a0 m10 y4 (a0.wx+x15.wK) (k6+1)) else none) else none) else (if -9223372036854775808≤((k6:Int)+1)∧((k6:Int)+1)≤9223372036854775807 then (bO a0 m10 y4 y5 (k6+1)) else none)) else none)) else none)) else none) else (some (Lp.go (y4,y5,k6)))
def f8 (a0:Bat):Option (Int):=(bO a0 (((a0.ws.length:Int)).toNat+1) 0 a0.wx 0).bind fun e=>match e with | .ret r=>some r | .go (y30,y31,k32)=>some y31
theorem kw (a0:Bat) (A1:Option Addr) (c2:Nat) (r:Int) (h:f8 a0=some r):au Tryz.prog 54 #[.agg #[jI a0.wG,jI a0.wz,.bool a0.wH,.bool a0.wN,.bool a0.wF,jI a0.wE,jI a0.wx,jI a0.wJ,jI a0.ww,jI a0.wA,jI a0.wv,.slice A1 a0.ws.length c2]] (RX.of (aq 7 bf) [.slice A1 a0.ws.length c2] a0.ws) (aw) (fun v A' N=>v=jI r∧A'=aw∧N = []):=by
 refine aF Tryz.func54 Z Tryz.ntmps54 Z ?_
 intro F w hX
 unfold f8 at h
 refine T.seq (T.region Z (TL.box Z .u Z Z (fun b3=>(TL.run aa [1] Z Z (TL.nil (X.seq (T.seq (T.region Z (TL.run aa [0] Z Z (TL.q Z .u (uB 0 Z xc Z Z) Z (TL.run aa [2] Z Z (TL.nil (X.seq (T.seq (T.seq (T.region Z ?_))))))))))))))))
 refine TL.run aa [0] Z Z (TL.nil (X.seq (T.block ?_)))
 obtain⟨E7,hE8,hO9⟩:=wX h
 refine vo (fun m e Rs=> ∃ (y4:Int) (y5:Int) (k6:Nat),e = [(1,jP b3),(2,jI y4),(3,jI y5),(4,jI (k6:Int))]∧Rs = [aD b3 43 #[jI a0.wG,jI a0.wz,.bool a0.wH,.bool a0.wN,.bool a0.wF,jI a0.wE,jI a0.wx,jI a0.wJ,jI a0.ww,jI a0.wA,jI a0.wv,.slice A1 a0.ws.length c2],aw]∧bO a0 m y4 y5 k6=some E7) (((a0.ws.length:Int)).toNat+1) [0,0] ⟨0,a0.wx,0,Z,Z,by exact hE8⟩ (by rfl) (by rfl) ?_
 rintro m10 _ _ ⟨y4,y5,k6,rfl,rfl,hl12⟩
 clear hE8 h
 cases m10 with
 | zero =>
  rw[bO] at hl12
  cases hl12
 | succ m10 =>
  have h:=hl12
  clear hl12
  rw[bO] at h
  refine T.seq (T.seq (T.region Z (TL.run aa [0,1] Z Z (TL.q Z .u (uB 0 Z xL Z Z) Z (TL.q Z .u (uY Z xn) Z (TL.run aa [4] Z Z ?_))))))
  rcases jF h with⟨c14,h⟩ | ⟨c14,h⟩
  ·refine TL.nil (X.seq (uF Z (wY c14) (T.skip (X.seq (T.seq (T.block (T.seq (T.region Z (TL.run aa [0] Z Z (TL.q Z .u (uB 0 Z xL Z Z) Z ?_))))))))))
   obtain⟨x15,hx16,h⟩:=wX h
   obtain⟨gz17,oz17,rfl,z17cs,z17cl,z17cc,z17nf,z17r⟩:=vh (by decide) hX hx16
   obtain⟨z17S,z17r,z17rr⟩:=z17r
   obtain⟨A18,c19,rfl,z17s0⟩:=z17r
   have hX20:(RX.of (aq 3 aP) [.slice A18 x15.wy.length c19] x15.wy).reads w F:=⟨z17S,z17s0,z17rr⟩
   refine TL.run aa [2] Z Z ?_
   refine TL.q Z .u (uV (k:=k6) Z Z Z xn xk (xd hx16).1) Z ?_
   refine TL.run aa [4] Z Z (TL.q Z .u (wb 0 Z xc z17nf z17cc Z Z) Z (TL.run aa [6] Z Z (TL.nil (X.seq (T.seq (T.seq (T.region Z (TL.run aa [0,1] Z Z (TL.q Z .u (uB 0 Z xc Z Z) Z ?_)))))))))
   replace h:=ak h
   obtain⟨c21,h⟩:=h
   refine TL.q Z .u (Ex.sub Z Z c21) Z ?_
   rcases jF h with⟨c22,h⟩ | ⟨c22,h⟩
   ·refine TL.run aa [4,5] Z Z ?_
    iterate 5 refine uG Z (.gn Z Z (wY c22)) Z ?_
    refine TL.q Z .u (uJ Z (wY c22) Z) Z (TL.nil (X.seq (uF Z Z (T.seq (T.region Z (TL.run aa [0] Z Z ?_))))))
    obtain rfl:=xa h
    replace h:=hO9
    clear hO9
    try dsimp only at h
    obtain rfl:=xa h
    exact TL.nil (X.seq (T.ret (uH (uS (uH (uH (uS (uH (uC [1] Tryz.results54 (uD Z) ⟨Z,Z,Z⟩ (by rfl) (.inl Z))))))))))
   ·refine TL.run aa [4,5] Z Z ?_
    iterate 2 refine TL.q Z (.g Z Z (wZ c22)) (uI aa Z) Z ?_
    refine TL.q Z (.g Z Z (wZ c22)) (uB 0 Z xc Z Z) Z ?_
    replace h:=ak h
    obtain⟨c23,h⟩:=h
    refine TL.q Z (.g Z Z (wZ c22)) (Ex.neg Z c23) Z (TL.q Z (.g Z Z (wZ c22)) (uI aa Z) Z (TL.q Z .u (uL Z (wZ c22) Z) Z ?_))
    rcases jF h with⟨c24,h⟩ | ⟨c24,h⟩
    ·refine TL.nil (X.seq (uF Z (wY c24) (T.seq (T.region Z (TL.run aa [0] Z Z ?_)))))
     obtain rfl:=xa h
     replace h:=hO9
     clear hO9
     try dsimp only at h
     obtain rfl:=xa h
     exact TL.nil (X.seq (T.ret (uH (uS (uH (uH (uS (uH (uC [1] Tryz.results54 (uD Z) ⟨Z,Z,Z⟩ (by rfl) (.inl Z))))))))))
    ·refine TL.nil (X.seq (uK Z (wZ c24) (T.skip (X.seq (T.seq (T.region Z (TL.run aa [0] Z Z (TL.q Z .u (uB 0 Z xc Z Z) Z ?_))))))))
     replace h:=ak h
     obtain⟨c25,h⟩:=h
     refine TL.run aa [2] Z Z (TL.q Z .u (Ex.add Z Z c25) Z (TL.run aa [4,5] Z Z ?_))
     rcases jF h with⟨c26,h⟩ | ⟨c26,h⟩
     ·refine TL.nil (X.seq (uF Z (wY c26) (T.region Z (TL.run aa [0] Z Z (TL.q Z .u (uB 0 Z xc Z Z) Z ?_)))))
      replace h:=ak h
      obtain⟨c27,h⟩:=h
      refine TL.run aa [2] Z Z (TL.q Z .u (Ex.add Z Z c27) Z (TL.run aa [4] Z Z (TL.nil (uQ (X.seq (T.region Z ?_))))))
      replace h:=ak h
      obtain⟨c28,h⟩:=h
      exact TL.run aa [0] Z Z (TL.q Z .u (Ex.add Z Z c28) Z (TL.run aa [2] Z Z (TL.nil (X.back (m':=m10) [0,0] (by omega) ⟨y4,(a0.wx+x15.wK),k6+1,Z,Z,h⟩ (by rfl) (by rfl)))))
     ·refine TL.nil (X.seq (uK Z (wZ c26) (T.skip (uQ (X.seq (T.region Z ?_))))))
      replace h:=ak h
      obtain⟨c29,h⟩:=h
      exact TL.run aa [0] Z Z (TL.q Z .u (Ex.add Z Z c29) Z (TL.run aa [2] Z Z (TL.nil (X.back (m':=m10) [0,0] (by omega) ⟨y4,y5,k6+1,Z,Z,h⟩ (by rfl) (by rfl)))))
  ·refine TL.nil (X.seq (uK Z (wZ c14) ?_))
   obtain rfl:=xa h
   replace h:=hO9
   clear hO9
   try dsimp only at h
   refine T.exit (uR (uR (vn (X.seq (T.seq (T.region Z (TL.run aa [0,1] Z Z ?_)))))))
   obtain rfl:=xa h
   exact TL.nil (X.seq (T.ret (uC [1] Tryz.results54 (uD Z) ⟨Z,Z,Z⟩ (by rfl) (.inl Z))))
def aU (a0:Bat):Nat→Int→Nat→Option (Lp Int (Int×Nat))
 | 0,_,_=>none
 | m9+1,y4,k5=>if (k5:Int)<(a0.ws.length:Int) then ((a0.ws[k5]?).bind fun x14=>if x14.wD>a0.wE then some (Lp.ret 13) else (if (k5:Int)>0 then (if -9223372036854775808≤((k5:Int) - 1)∧((k5:Int) - 1)≤9223372036854775807 then (if 0≤((k5:Int) - 1) then ((a0.ws[((k5:Int) - 1).toNat]?).bind fun x24=>if x14.wD≤x24.wD then some (Lp.ret 13) else (if x14.wD<0 then some (Lp.ret 13) else (if -9223372036854775808≤(9223372036854775807 - a0.wx)∧(9223372036854775807 - a0.wx)≤9223372036854775807 then (if x14.wK>(9223372036854775807 - a0.wx) then some (Lp.ret 11) else (if -9223372036854775808≤(-a0.wx)∧(-a0.wx)≤9223372036854775807 then (if x14.wK<(-a0.wx) then some (Lp.ret 11) else (if -9223372036854775808≤((k5:Int)+1)∧((k5:Int)+1)≤9223372036854775807 then (aU a0 m9 y4 (k5+1)) else none)) else none)) else none))) else none) else none) else (if x14.wD<0 then some (Lp.ret 13) else (if -9223372036854775808≤(9223372036854775807 - a0.wx)∧(9223372036854775807 - a0.wx)≤9223372036854775807 then (if x14.wK>(9223372036854775807 - a0.wx) then some (Lp.ret 11) else (if -9223372036854775808≤(-a0.wx)∧(-a0.wx)≤9223372036854775807 then (if x14.wK<(-a0.wx) then some (Lp.ret 11) else (if -9223372036854775808≤((k5:Int)+1)∧((k5:Int)+1)≤9223372036854775807 then (aU a0 m9 y4 (k5+1)) else none)) else none)) else none)))) else (some (Lp.go (y4,k5)))
def cX (a0:Bat):Option (Int):=(aU a0 (((a0.ws.length:Int)).toNat+1) 0 0).bind fun e=>match e with | .ret r=>some r | .go (y47,k48)=>(if a0.wH=true then some 0 else ((f8 a0).bind fun x50=>if x50=a0.wJ then some 0 else some 11))
theorem f9 (a0:Bat) (A1:Option Addr) (c2:Nat) (r:Int) (h:cX a0=some r):au Tryz.prog 28 #[.agg #[jI a0.wG,jI a0.wz,.bool a0.wH,.bool a0.wN,.bool a0.wF,jI a0.wE,jI a0.wx,jI a0.wJ,jI a0.ww,jI a0.wA,jI a0.wv,.slice A1 a0.ws.length c2]] (RX.of (aq 7 bf) [.slice A1 a0.ws.length c2] a0.ws) (aw) (fun v A' N=>v=jI r∧A'=aw∧N = []):=by
 refine aF Tryz.func28 Z Tryz.ntmps28 Z ?_
 intro F w hX
 unfold cX at h
 refine T.seq (T.region Z (TL.box Z .u Z Z (fun b3=>(TL.run aa [1] Z Z (TL.nil (X.seq (T.seq (T.seq (T.region Z (TL.run aa [0] Z Z (TL.nil (X.seq (T.block ?_)))))))))))))
 obtain⟨E6,hE7,hO8⟩:=wX h
 refine vo (fun m e Rs=> ∃ (y4:Int) (k5:Nat),e = [(1,jP b3),(2,jI y4),(3,jI (k5:Int))]∧Rs = [aD b3 43 #[jI a0.wG,jI a0.wz,.bool a0.wH,.bool a0.wN,.bool a0.wF,jI a0.wE,jI a0.wx,jI a0.wJ,jI a0.ww,jI a0.wA,jI a0.wv,.slice A1 a0.ws.length c2],aw]∧aU a0 m y4 k5=some E6) (((a0.ws.length:Int)).toNat+1) [0,0] ⟨0,0,Z,Z,by exact hE7⟩ (by rfl) (by rfl) ?_
 rintro m9 _ _ ⟨y4,k5,rfl,rfl,hl11⟩
 clear hE7 h
 cases m9 with
 | zero =>
  rw[aU] at hl11
  cases hl11
 | succ m9 =>
  have h:=hl11
  clear hl11
  rw[aU] at h
  refine T.seq (T.seq (T.region Z (TL.run aa [0,1] Z Z (TL.q Z .u (uB 0 Z xL Z Z) Z (TL.q Z .u (uY Z xn) Z (TL.run aa [4] Z Z ?_))))))
  rcases jF h with⟨c13,h⟩ | ⟨c13,h⟩
  ·refine TL.nil (X.seq (uF Z (wY c13) (T.skip (X.seq (T.seq (T.block (T.seq (T.region Z (TL.run aa [0] Z Z (TL.q Z .u (uB 0 Z xL Z Z) Z ?_))))))))))
   obtain⟨x14,hx15,h⟩:=wX h
   obtain⟨gz16,oz16,rfl,z16cs,z16cl,z16cc,z16nf,z16r⟩:=vh (by decide) hX hx15
   obtain⟨z16S,z16r,z16rr⟩:=z16r
   obtain⟨A17,c18,rfl,z16s0⟩:=z16r
   have hX19:(RX.of (aq 3 aP) [.slice A17 x14.wy.length c18] x14.wy).reads w F:=⟨z16S,z16s0,z16rr⟩
   refine TL.run aa [2] Z Z ?_
   refine TL.q Z .u (uV (k:=k5) Z Z Z xn xk (xd hx15).1) Z ?_
   refine TL.run aa [4] Z Z (TL.q Z .u (wb 1 Z xc z16nf z16cc Z Z) Z (TL.run aa [6] Z Z (TL.nil (X.seq (T.seq (T.seq (T.region Z (TL.run aa [0,1] Z Z (TL.q Z .u (uB 0 Z xc Z Z) Z ?_)))))))))
   rcases jF h with⟨c20,h⟩ | ⟨c20,h⟩
   ·refine TL.run aa [3,4] Z Z ?_
    iterate 3 refine uG Z (.gn Z Z (wY c20)) Z ?_
    iterate 9 refine uG Z (.gu Z Z) Z ?_
    refine uG Z (.gn Z Z (wY c20)) Z (TL.q Z .u (uJ Z (wY c20) Z) Z (TL.run aa [19] Z Z ?_))
    iterate 2 refine uG Z (.gn Z Z Z) Z ?_
    refine TL.q Z .u (uJ Z Z Z) Z (TL.nil (X.seq (uF Z Z (T.seq (T.region Z (TL.run aa [0] Z Z ?_))))))
    obtain rfl:=xa h
    replace h:=hO8
    clear hO8
    try dsimp only at h
    obtain rfl:=xa h
    exact TL.nil (X.seq (T.ret (uH (uS (uH (uH (uS (uH (uC [1] yj (uD Z) ⟨Z,Z,Z⟩ (by rfl) (.inl Z))))))))))
   ·refine TL.run aa [3,4] Z Z ?_
    iterate 3 refine TL.q Z (.g Z Z (wZ c20)) (uI aa Z) Z ?_
    rcases jF h with⟨c21,h⟩ | ⟨c21,h⟩
    ·refine TL.q Z (.g Z Z (wY c21)) (uI aa Z) Z (TL.q Z (.g Z Z (wY c21)) (uI aa Z) Z (TL.q Z (.g Z Z (wY c21)) (uB 0 Z xL Z Z) Z (TL.q Z (.g Z Z (wY c21)) (uI aa Z) Z ?_)))
     replace h:=ak h
     obtain⟨c22,h⟩:=h
     refine TL.q Z (.g Z Z (wY c21)) (Ex.sub Z Z c22) Z ?_
     replace h:=ak h
     obtain⟨c23,h⟩:=h
     obtain⟨x24,hx25,h⟩:=wX h
     obtain⟨z26cs,z26cl,z26cc,z26nf,z26r⟩:=RX.elem' (by decide) hX hx25
     obtain⟨z26S,z26r,z26rr⟩:=z26r
     obtain⟨A27,c28,rfl,z26s0⟩:=z26r
     have hX29:(RX.of (aq 3 aP) [.slice A27 x24.wy.length c28] x24.wy).reads w F:=⟨z26S,z26s0,z26rr⟩
     refine TL.q Z (.g Z Z (wY c21)) (uV (k:=((k5:Int) - 1).toNat) Z Z ((Int.toNat_of_nonneg c23).symm) xn xk (xd hx25).1) Z ?_
     refine TL.q Z (.g Z Z (wY c21)) (uI aa Z) Z (TL.q Z (.g Z Z (wY c21)) (wb 1 Z xc z26nf z26cc Z Z) Z (TL.q Z (.g Z Z (wY c21)) (uI aa Z) Z (TL.q Z (.g Z Z (wZ c20)) (uJ Z (wY c21) Z) Z (TL.q Z .u (uL Z (wZ c20) Z) Z ?_))))
     rcases jF h with⟨c30,h⟩ | ⟨c30,h⟩
     ·refine TL.run aa [19] Z Z ?_
      iterate 2 refine uG Z (.gn Z Z (wY c30)) Z ?_
      refine TL.q Z .u (uJ Z (wY c30) Z) Z (TL.nil (X.seq (uF Z Z (T.seq (T.region Z (TL.run aa [0] Z Z ?_))))))
      obtain rfl:=xa h
      replace h:=hO8
      clear hO8
      try dsimp only at h
      obtain rfl:=xa h
      exact TL.nil (X.seq (T.ret (uH (uS (uH (uH (uS (uH (uC [1] yj (uD Z) ⟨Z,Z,Z⟩ (by rfl) (.inl Z))))))))))
     ·refine TL.run aa [19] Z Z ?_
      iterate 2 refine TL.q Z (.g Z Z (wZ c30)) (uI aa Z) Z ?_
      refine TL.q Z .u (uL Z (wZ c30) Z) Z ?_
      rcases jF h with⟨c31,h⟩ | ⟨c31,h⟩
      ·refine TL.nil (X.seq (uF Z (wY c31) (T.seq (T.region Z (TL.run aa [0] Z Z ?_)))))
       obtain rfl:=xa h
       replace h:=hO8
       clear hO8
       try dsimp only at h
       obtain rfl:=xa h
       exact TL.nil (X.seq (T.ret (uH (uS (uH (uH (uS (uH (uC [1] yj (uD Z) ⟨Z,Z,Z⟩ (by rfl) (.inl Z))))))))))
      ·refine TL.nil (X.seq (uK Z (wZ c31) (T.skip (X.seq (T.seq (T.region Z (TL.run aa [0] Z Z (TL.q Z .u (uB 0 Z xL Z Z) Z (TL.run aa [2] Z Z ?_)))))))))
       refine TL.q Z .u (uV (k:=k5) Z Z Z xn xk (xd hx15).1) Z ?_
       refine TL.run aa [4] Z Z (TL.q Z .u (wb 0 Z xc z16nf z16cc Z Z) Z (TL.run aa [6] Z Z (TL.nil (X.seq (T.seq (T.region Z (TL.run aa [0,1] Z Z (TL.q Z .u (uB 0 Z xc Z Z) Z ?_))))))))
       replace h:=ak h
       obtain⟨c32,h⟩:=h
       refine TL.q Z .u (Ex.sub Z Z c32) Z ?_
       rcases jF h with⟨c33,h⟩ | ⟨c33,h⟩
       ·refine TL.run aa [4,5] Z Z ?_
        iterate 5 refine uG Z (.gn Z Z (wY c33)) Z ?_
        refine TL.q Z .u (uJ Z (wY c33) Z) Z (TL.nil (X.seq (uF Z Z (T.seq (T.region Z (TL.run aa [0] Z Z ?_))))))
        obtain rfl:=xa h
        replace h:=hO8
        clear hO8
        try dsimp only at h
        obtain rfl:=xa h
        exact TL.nil (X.seq (T.ret (uS (uH (uH (uS (uH (uC [1] yj (uD Z) ⟨Z,Z,Z⟩ (by rfl) (.inl Z)))))))))
       ·refine TL.run aa [4,5] Z Z ?_
        iterate 2 refine TL.q Z (.g Z Z (wZ c33)) (uI aa Z) Z ?_
        refine TL.q Z (.g Z Z (wZ c33)) (uB 0 Z xc Z Z) Z ?_
        replace h:=ak h
        obtain⟨c34,h⟩:=h
        refine TL.q Z (.g Z Z (wZ c33)) (Ex.neg Z c34) Z (TL.q Z (.g Z Z (wZ c33)) (uI aa Z) Z (TL.q Z .u (uL Z (wZ c33) Z) Z ?_))
        rcases jF h with⟨c35,h⟩ | ⟨c35,h⟩
        ·refine TL.nil (X.seq (uF Z (wY c35) (T.seq (T.region Z (TL.run aa [0] Z Z ?_)))))
         obtain rfl:=xa h
         replace h:=hO8
         clear hO8
         try dsimp only at h
         obtain rfl:=xa h
         exact TL.nil (X.seq (T.ret (uS (uH (uH (uS (uH (uC [1] yj (uD Z) ⟨Z,Z,Z⟩ (by rfl) (.inl Z)))))))))
        ·refine TL.nil (X.seq (uK Z (wZ c35) (T.skip (uQ (X.seq (T.region Z ?_))))))
         replace h:=ak h
         obtain⟨c36,h⟩:=h
         exact TL.run aa [0] Z Z (TL.q Z .u (Ex.add Z Z c36) Z (TL.run aa [2] Z Z (TL.nil (X.back (m':=m9) [0,0] (by omega) ⟨y4,k5+1,Z,Z,h⟩ (by rfl) (by rfl)))))
    ·refine uG Z (.gn Z Z (wZ c21)) Z ?_
     iterate 8 refine uG Z (.gn Z Z (wZ c21)) Z ?_
     refine TL.q Z (.g Z Z (wZ c20)) (uL Z (wZ c21) Z) Z (TL.q Z .u (uL Z (wZ c20) Z) Z (TL.run aa [19] Z Z ?_))
     iterate 2 refine TL.q Z (.g Z Z Z) (uI aa Z) Z ?_
     refine TL.q Z .u (uL Z Z Z) Z ?_
     rcases jF h with⟨c37,h⟩ | ⟨c37,h⟩
     ·refine TL.nil (X.seq (uF Z (wY c37) (T.seq (T.region Z (TL.run aa [0] Z Z ?_)))))
      obtain rfl:=xa h
      replace h:=hO8
      clear hO8
      try dsimp only at h
      obtain rfl:=xa h
      exact TL.nil (X.seq (T.ret (uH (uS (uH (uH (uS (uH (uC [1] yj (uD Z) ⟨Z,Z,Z⟩ (by rfl) (.inl Z))))))))))
     ·refine TL.nil (X.seq (uK Z (wZ c37) (T.skip (X.seq (T.seq (T.region Z (TL.run aa [0] Z Z (TL.q Z .u (uB 0 Z xL Z Z) Z (TL.run aa [2] Z Z ?_)))))))))
      refine TL.q Z .u (uV (k:=k5) Z Z Z xn xk (xd hx15).1) Z ?_
      refine TL.run aa [4] Z Z (TL.q Z .u (wb 0 Z xc z16nf z16cc Z Z) Z (TL.run aa [6] Z Z (TL.nil (X.seq (T.seq (T.region Z (TL.run aa [0,1] Z Z (TL.q Z .u (uB 0 Z xc Z Z) Z ?_))))))))
      replace h:=ak h
      obtain⟨c38,h⟩:=h
      refine TL.q Z .u (Ex.sub Z Z c38) Z ?_
      rcases jF h with⟨c39,h⟩ | ⟨c39,h⟩
      ·refine TL.run aa [4,5] Z Z ?_
       iterate 5 refine uG Z (.gn Z Z (wY c39)) Z ?_
       refine TL.q Z .u (uJ Z (wY c39) Z) Z (TL.nil (X.seq (uF Z Z (T.seq (T.region Z (TL.run aa [0] Z Z ?_))))))
       obtain rfl:=xa h
       replace h:=hO8
       clear hO8
       try dsimp only at h
       obtain rfl:=xa h
       exact TL.nil (X.seq (T.ret (uS (uH (uH (uS (uH (uC [1] yj (uD Z) ⟨Z,Z,Z⟩ (by rfl) (.inl Z)))))))))
      ·refine TL.run aa [4,5] Z Z ?_
       iterate 2 refine TL.q Z (.g Z Z (wZ c39)) (uI aa Z) Z ?_
       refine TL.q Z (.g Z Z (wZ c39)) (uB 0 Z xc Z Z) Z ?_
       replace h:=ak h
       obtain⟨c40,h⟩:=h
       refine TL.q Z (.g Z Z (wZ c39)) (Ex.neg Z c40) Z (TL.q Z (.g Z Z (wZ c39)) (uI aa Z) Z (TL.q Z .u (uL Z (wZ c39) Z) Z ?_))
       rcases jF h with⟨c41,h⟩ | ⟨c41,h⟩
       ·refine TL.nil (X.seq (uF Z (wY c41) (T.seq (T.region Z (TL.run aa [0] Z Z ?_)))))
        obtain rfl:=xa h
        replace h:=hO8
        clear hO8
        try dsimp only at h
        obtain rfl:=xa h
        exact TL.nil (X.seq (T.ret (uS (uH (uH (uS (uH (uC [1] yj (uD Z) ⟨Z,Z,Z⟩ (by rfl) (.inl Z)))))))))
       ·refine TL.nil (X.seq (uK Z (wZ c41) (T.skip (uQ (X.seq (T.region Z ?_))))))
        replace h:=ak h
        obtain⟨c42,h⟩:=h
        exact TL.run aa [0] Z Z (TL.q Z .u (Ex.add Z Z c42) Z (TL.run aa [2] Z Z (TL.nil (X.back (m':=m9) [0,0] (by omega) ⟨y4,k5+1,Z,Z,h⟩ (by rfl) (by rfl)))))
  ·refine TL.nil (X.seq (uK Z (wZ c13) ?_))
   obtain rfl:=xa h
   replace h:=hO8
   clear hO8
   try dsimp only at h
   refine T.exit (uR (uR (vn (X.seq (T.seq (T.seq (uZ (.q 0 (.q 1 (.q 2 (.q 3 (.q 4 (.q 6 (.q 7 (.e 5 (.q 8 (.q 9 .nil)))))))))) [0,0] Z cW (NoP.seq (NoP.seq aI)) (by kernel_rfl) ?_)))))))
   refine TD.run aa [0] Z Z (TD.q Z .u (uB 0 Z xE Z Z) Z ?_)
   rcases jF h with⟨c43,h⟩ | ⟨c43,h⟩
   ·refine TD.run aa [2,3] Z Z ?_
    iterate 3 refine TD.no Z (.gn Z Z (av c43)) Z ?_
    refine TD.noe Z (.gn Z Z (av c43)) Z [0,0] Z (TD.no Z (.gn Z Z (av c43)) Z (TD.q Z .u (uL Z (av c43) Z) Z (TD.nil (X.seq (uK Z Z (T.skip (X.seq (T.seq (T.region Z (TL.run aa [0] Z Z ?_))))))))))
    obtain rfl:=xa h
    exact TL.nil (X.seq (T.ret (uC [1] yj (uD Z) ⟨Z,Z,Z⟩ (by rfl) (.inl Z))))
   ·replace c43:=xi c43
    refine TD.run aa [2,3] Z Z (TD.q Z (.g Z Z (aA c43)) (uN (us := [jI a0.wG,jI a0.wz,.bool a0.wH,.bool a0.wN,.bool a0.wF,jI a0.wE,jI a0.wx,jI a0.wJ,jI a0.ww,jI a0.wA,jI a0.wv,.slice A1 a0.ws.length c2]) 0 Z xA xl Z Z Z) Z (TD.q Z (.g Z Z (aA c43)) (uI aa Z) Z (TD.q Z (.g Z Z (aA c43)) (uB 0 Z xc Z Z) Z ?_)))
    obtain⟨x44,hx45,h⟩:=wX h
    refine v6 Z (.g Z Z (aA c43)) (.fn Tryz.call54 Z) (kw a0 _ _ _ hx45) (fun _ hs=>(vb hs hX)) Z [0,0] (Z) (TD.q Z (.g Z Z (aA c43)) (uI aa Z) Z (TD.q Z .u (uJ Z (aA c43) Z) Z ?_))
    rcases jF h with⟨c46,h⟩ | ⟨c46,h⟩
    ·refine TD.nil (X.seq (uK Z (av (wY c46)) (T.skip (X.seq (T.seq (T.region Z (TL.run aa [0] Z Z ?_)))))))
     obtain rfl:=xa h
     exact TL.nil (X.seq (T.ret (uC [1] yj (uD Z) ⟨Z,Z,Z⟩ (by rfl) (.inl Z))))
    ·refine TD.nil (X.seq (uF Z (aA (wZ c46)) (T.seq (T.region Z (TL.run aa [0] Z Z ?_)))))
     obtain rfl:=xa h
     exact TL.nil (X.seq (T.ret (uH (uC [1] yj (uD Z) ⟨Z,Z,Z⟩ (by rfl) (.inl Z)))))
def bx (a0:Bat):Nat→Int→Nat→Option (Lp Int (Int×Nat))
 | 0,_,_=>none
 | m26+1,y21,k22=>if (k22:Int)<(a0.ws.length:Int) then ((a0.ws[k22]?).bind fun x31=>(ew x31).bind fun x37=>if x37=0 then (if -9223372036854775808≤((k22:Int)+1)∧((k22:Int)+1)≤9223372036854775807 then (bx a0 m26 y21 (k22+1)) else none) else some (Lp.ret x37)) else (some (Lp.go (y21,k22)))
def cH (a0:Bat):Nat→Int→Nat→Option (Lp Int (Int×Nat))
 | 0,_,_=>none
 | m77+1,y72,k73=>if (k73:Int)<(a0.ws.length:Int) then ((a0.ws[k73]?).bind fun x82=>(ew x82).bind fun x88=>if x88=0 then (if -9223372036854775808≤((k73:Int)+1)∧((k73:Int)+1)≤9223372036854775807 then (cH a0 m77 y72 (k73+1)) else none) else some (Lp.ret x88)) else (some (Lp.go (y72,k73)))
def bq (a0:Bat):Option (Int):=if a0.wG<0 then some 11 else ((dv a0.wz (-1)).bind fun x5=>if x5=true then ((dv a0.wE 0).bind fun x8=>if x8=true then (if -9223372036854775808≤(9223372036854775807 - a0.wG)∧(9223372036854775807 - a0.wG)≤9223372036854775807 then (if a0.wE>(9223372036854775807 - a0.wG) then some 11 else (if a0.wx<0 then some 11 else (if a0.wJ<0 then some 11 else (if a0.wF=true then (if a0.wN=true then ((di a0).bind fun x17=>if x17=true then (if (a0.ws.length:Int)=1 then ((bx a0 (((a0.ws.length:Int)).toNat+1) 0 0).bind fun e=>match e with | .ret r=>some r | .go (y54,k55)=>((a0.ws[0]?).bind fun x56=>(dO x56).bind fun (x62,x63,x64)=>if x64=0 then ((cX a0).bind fun x67=>some x67) else some x64)) else some 10) else some 11) else some 8) else ((di a0).bind fun x69=>if x69=true then ((cH a0 (((a0.ws.length:Int)).toNat+1) 0 0).bind fun e=>match e with | .ret r=>some r | .go (y94,k95)=>((cX a0).bind fun x96=>some x96)) else some 11))))) else none) else some 11) else some 11)
theorem bG (a0:Bat) (A1:Option Addr) (c2:Nat) (r:Int) (h:bq a0=some r):au Tryz.prog 13 #[.agg #[jI a0.wG,jI a0.wz,.bool a0.wH,.bool a0.wN,.bool a0.wF,jI a0.wE,jI a0.wx,jI a0.wJ,jI a0.ww,jI a0.wA,jI a0.wv,.slice A1 a0.ws.length c2]] (RX.of (aq 7 bf) [.slice A1 a0.ws.length c2] a0.ws) (aw) (fun v A' N=>v=jI r∧A'=aw∧N = []):=by
 refine aF Tryz.func13 Z Tryz.ntmps13 Z ?_
 intro F w hX
 unfold bq at h
 refine T.seq (T.region Z (TL.box Z .u Z Z (fun b3=>(TL.run aa [1] Z Z (TL.nil (X.seq (T.seq (T.seq (T.region Z (TL.run aa [0] Z Z (TL.q Z .u (uB 0 Z xc Z Z) Z ?_)))))))))))
 rcases jF h with⟨c4,h⟩ | ⟨c4,h⟩
 ·refine TL.run aa [2,3] Z Z ?_
  iterate 4 refine uG Z (.gn Z Z (wY c4)) Z ?_
  refine TL.q Z .u (uJ Z (wY c4) Z) Z (TL.run aa [9] Z Z ?_)
  iterate 4 refine uG Z (.gn Z Z Z) Z ?_
  refine TL.q Z .u (uJ Z Z Z) Z (TL.run aa [15] Z Z ?_)
  iterate 6 refine uG Z (.gn Z Z Z) Z ?_
  refine TL.q Z .u (uJ Z Z Z) Z (TL.run aa [23] Z Z ?_)
  iterate 3 refine uG Z (.gn Z Z Z) Z ?_
  refine TL.q Z .u (uJ Z Z Z) Z (TL.run aa [28] Z Z ?_)
  iterate 3 refine uG Z (.gn Z Z Z) Z ?_
  refine TL.q Z .u (uJ Z Z Z) Z (TL.nil (X.seq (uF Z Z (T.seq (T.region Z (TL.run aa [0] Z Z ?_))))))
  obtain rfl:=xa h
  exact TL.nil (X.seq (T.ret (uH (uC [1] xV (uD Z) ⟨Z,Z,Z⟩ (by rfl) (.inl Z)))))
 ·refine TL.run aa [2,3] Z Z (TL.q Z (.g Z Z (wZ c4)) (uI aa Z) Z (TL.q Z (.g Z Z (wZ c4)) (uB 0 Z xc Z Z) Z ?_))
  obtain⟨x5,hx6,h⟩:=wX h
  refine uP Z (.g Z Z (wZ c4)) (.fn Tryz.call24 Z) (eH a0.wz (-1) _ hx6) (fun _ hs=>(uE _ _)) Z (TL.q Z (.g Z Z (wZ c4)) (uI aa Z) Z (TL.q Z .u (uL Z (wZ c4) Z) Z ?_))
  rcases jF h with⟨c7,h⟩ | ⟨c7,h⟩
  ·refine TL.run aa [9] Z Z (TL.q Z (.g Z Z (av c7)) (uI aa Z) Z (TL.q Z (.g Z Z (av c7)) (uB 0 Z xc Z Z) Z ?_))
   obtain⟨x8,hx9,h⟩:=wX h
   refine uP Z (.g Z Z (av c7)) (.fn Tryz.call24 Z) (eH a0.wE 0 _ hx9) (fun _ hs=>(uE _ _)) Z (TL.q Z (.g Z Z (av c7)) (uI aa Z) Z (TL.q Z .u (uL Z (av c7) Z) Z ?_))
   rcases jF h with⟨c10,h⟩ | ⟨c10,h⟩
   ·refine TL.run aa [15] Z Z (TL.q Z (.g Z Z (av c10)) (uI aa Z) Z (TL.q Z (.g Z Z (av c10)) (uB 0 Z xc Z Z) Z (TL.q Z (.g Z Z (av c10)) (uI aa Z) Z (TL.q Z (.g Z Z (av c10)) (uB 0 Z xc Z Z) Z ?_))))
    replace h:=ak h
    obtain⟨c11,h⟩:=h
    refine TL.q Z (.g Z Z (av c10)) (Ex.sub Z Z c11) Z (TL.q Z (.g Z Z (av c10)) (uI aa Z) Z (TL.q Z .u (uL Z (av c10) Z) Z ?_))
    rcases jF h with⟨c12,h⟩ | ⟨c12,h⟩
    ·refine TL.run aa [23] Z Z ?_
     iterate 3 refine uG Z (.gn Z Z (wY c12)) Z ?_
     refine TL.q Z .u (uJ Z (wY c12) Z) Z (TL.run aa [28] Z Z ?_)
     iterate 3 refine uG Z (.gn Z Z Z) Z ?_
     refine TL.q Z .u (uJ Z Z Z) Z (TL.nil (X.seq (uF Z Z (T.seq (T.region Z (TL.run aa [0] Z Z ?_))))))
     obtain rfl:=xa h
     exact TL.nil (X.seq (T.ret (uH (uC [1] xV (uD Z) ⟨Z,Z,Z⟩ (by rfl) (.inl Z)))))
    ·refine TL.run aa [23] Z Z (TL.q Z (.g Z Z (wZ c12)) (uI aa Z) Z (TL.q Z (.g Z Z (wZ c12)) (uB 0 Z xc Z Z) Z (TL.q Z (.g Z Z (wZ c12)) (uI aa Z) Z (TL.q Z .u (uL Z (wZ c12) Z) Z ?_))))
     rcases jF h with⟨c13,h⟩ | ⟨c13,h⟩
     ·refine TL.run aa [28] Z Z ?_
      iterate 3 refine uG Z (.gn Z Z (wY c13)) Z ?_
      refine TL.q Z .u (uJ Z (wY c13) Z) Z (TL.nil (X.seq (uF Z Z (T.seq (T.region Z (TL.run aa [0] Z Z ?_))))))
      obtain rfl:=xa h
      exact TL.nil (X.seq (T.ret (uH (uC [1] xV (uD Z) ⟨Z,Z,Z⟩ (by rfl) (.inl Z)))))
     ·refine TL.run aa [28] Z Z (TL.q Z (.g Z Z (wZ c13)) (uI aa Z) Z (TL.q Z (.g Z Z (wZ c13)) (uB 0 Z xc Z Z) Z (TL.q Z (.g Z Z (wZ c13)) (uI aa Z) Z (TL.q Z .u (uL Z (wZ c13) Z) Z ?_))))
      rcases jF h with⟨c14,h⟩ | ⟨c14,h⟩
      ·refine TL.nil (X.seq (uF Z (wY c14) (T.seq (T.region Z (TL.run aa [0] Z Z ?_)))))
       obtain rfl:=xa h
       exact TL.nil (X.seq (T.ret (uH (uC [1] xV (uD Z) ⟨Z,Z,Z⟩ (by rfl) (.inl Z)))))
      ·refine TL.nil (X.seq (uK Z (wZ c14) (T.skip (X.seq (T.seq (T.seq (T.region Z (TL.run aa [0] Z Z (TL.q Z .u (uB 0 Z xE Z Z) Z ?_)))))))))
       rcases jF h with⟨c15,h⟩ | ⟨c15,h⟩
       ·refine TL.run aa [2] Z Z (TL.q Z (.g Z Z c15) (uI aa Z) Z (TL.q Z (.g Z Z c15) (uB 0 Z xE Z Z) Z (TL.q Z (.g Z Z c15) (uI aa Z) Z (TL.q Z .u (uJ Z c15 Z) Z ?_))))
        rcases jF h with⟨c16,h⟩ | ⟨c16,h⟩
        ·refine TL.nil (X.seq (uK Z (av c16) (T.skip (X.seq (T.seq (T.seq (T.region Z (TL.q Z .u (uN (us := [jI a0.wG,jI a0.wz,.bool a0.wH,.bool a0.wN,.bool a0.wF,jI a0.wE,jI a0.wx,jI a0.wJ,jI a0.ww,jI a0.wA,jI a0.wv,.slice A1 a0.ws.length c2]) 0 Z xA xl Z Z Z) Z ?_))))))))
         obtain⟨x17,hx18,h⟩:=wX h
         refine uP Z .u (.fn Tryz.call25 Z) (fj a0 _ _ _ hx18) (fun _ hs=>(vb hs hX)) Z (TL.run aa [2] Z Z ?_)
         rcases jF h with⟨c19,h⟩ | ⟨c19,h⟩
         ·refine TL.nil (X.seq (uK Z (av c19) (T.skip (X.seq (T.seq (T.seq (T.region Z (TL.run aa [0] Z Z (TL.q Z .u (uB 0 Z xE Z Z) Z (TL.run aa [2] Z Z (TL.q Z (.g Z Z c15) (uI aa Z) Z (TL.q Z (.g Z Z c15) (uB 0 Z xL Z Z) Z ?_))))))))))))
          refine TL.q Z (.g Z Z c15) (uY Z xn) Z (TL.q Z (.g Z Z c15) (uI aa Z) Z (TL.q Z .u (uJ Z c15 Z) Z ?_))
          rcases jF h with⟨c20,h⟩ | ⟨c20,h⟩
          ·refine TL.nil (X.seq (uK Z (av (wY c20)) (T.skip (X.seq (T.seq (T.seq (T.region Z (TL.run aa [0] Z Z (TL.nil (X.seq (T.block ?_)))))))))))
           obtain⟨E23,hE24,hO25⟩:=wX h
           refine vo (fun m e Rs=> ∃ (y21:Int) (k22:Nat),e = [(1,jP b3),(2,jI y21),(3,jI (k22:Int))]∧Rs = [aD b3 43 #[jI a0.wG,jI a0.wz,.bool a0.wH,.bool a0.wN,.bool a0.wF,jI a0.wE,jI a0.wx,jI a0.wJ,jI a0.ww,jI a0.wA,jI a0.wv,.slice A1 a0.ws.length c2],aw]∧bx a0 m y21 k22=some E23) (((a0.ws.length:Int)).toNat+1) [0,0] ⟨0,0,Z,Z,by exact hE24⟩ (by rfl) (by rfl) ?_
           rintro m26 _ _ ⟨y21,k22,rfl,rfl,hl28⟩
           clear hE24 h
           cases m26 with
           | zero =>
            rw[bx] at hl28
            cases hl28
           | succ m26 =>
            have h:=hl28
            clear hl28
            rw[bx] at h
            refine T.seq (T.seq (T.region Z (TL.run aa [0,1] Z Z (TL.q Z .u (uB 0 Z xL Z Z) Z (TL.q Z .u (uY Z xn) Z (TL.run aa [4] Z Z ?_))))))
            rcases jF h with⟨c30,h⟩ | ⟨c30,h⟩
            ·refine TL.nil (X.seq (uF Z (wY c30) (T.skip (X.seq (T.seq (T.block (T.seq (T.region Z (TL.run aa [0] Z Z (TL.q Z .u (uB 0 Z xL Z Z) Z ?_))))))))))
             obtain⟨x31,hx32,h⟩:=wX h
             obtain⟨gz33,oz33,rfl,z33cs,z33cl,z33cc,z33nf,z33r⟩:=vh (by decide) hX hx32
             obtain⟨z33S,z33r,z33rr⟩:=z33r
             obtain⟨A34,c35,rfl,z33s0⟩:=z33r
             have hX36:(RX.of (aq 3 aP) [.slice A34 x31.wy.length c35] x31.wy).reads w F:=⟨z33S,z33s0,z33rr⟩
             refine TL.run aa [2] Z Z ?_
             refine TL.q Z .u (uV (k:=k22) Z Z Z xn xk (xd hx32).1) Z ?_
             refine TL.q Z .u (vA (us := [jI x31.wK,jI x31.wD,.bool x31.wC.null,jS x31.wC.data,.bool x31.wt.null,jS x31.wt.data,.slice A34 x31.wy.length c35]) 0 Z xF xk z33nf z33cc Z Z Z) Z ?_
             obtain⟨x37,hx38,h⟩:=wX h
             refine uP Z .u (.fn Tryz.call26 Z) (gw x31 _ _ _ hx38) (fun _ hs=>(vb hs hX36)) Z (TL.run aa [6] Z Z (TL.nil (X.seq (T.seq (T.region Z (TL.run aa [0,1] Z Z ?_))))))
             rcases jF h with⟨c39,h⟩ | ⟨c39,h⟩
             ·refine TL.nil (X.seq (uK Z (av (wY c39)) (T.skip (uQ (X.seq (T.region Z ?_))))))
              replace h:=ak h
              obtain⟨c40,h⟩:=h
              exact TL.run aa [0] Z Z (TL.q Z .u (Ex.add Z Z c40) Z (TL.run aa [2] Z Z (TL.nil (X.back (m':=m26) [0,0] (by omega) ⟨y21,k22+1,Z,Z,h⟩ (by rfl) (by rfl)))))
             ·refine TL.nil (X.seq (uF Z (aA (wZ c39)) (T.seq (T.region Z (TL.run aa [0,1] Z Z ?_)))))
              obtain rfl:=xa h
              replace h:=hO25
              clear hO25
              try dsimp only at h
              obtain rfl:=xa h
              exact TL.nil (X.seq (T.ret (uS (uH (uH (uS (uH (uC [1] xV (uD Z) ⟨Z,Z,Z⟩ (by rfl) (.inl Z)))))))))
            ·refine TL.nil (X.seq (uK Z (wZ c30) ?_))
             obtain rfl:=xa h
             replace h:=hO25
             clear hO25
             try dsimp only at h
             refine T.exit (uR (uR (vn (X.seq (T.seq (T.seq (T.region Z (TL.run aa [0] Z Z (TL.q Z .u (uB 0 Z xE Z Z) Z (TL.nil (X.seq (uF Z c15 (T.seq (T.region Z (TL.run aa [0] Z Z (TL.q Z .u (uB 0 Z xL Z Z) Z ?_))))))))))))))))
             obtain⟨x41,hx42,h⟩:=wX h
             obtain⟨gz43,oz43,rfl,z43cs,z43cl,z43cc,z43nf,z43r⟩:=vh (by decide) hX hx42
             obtain⟨z43S,z43r,z43rr⟩:=z43r
             obtain⟨A44,c45,rfl,z43s0⟩:=z43r
             have hX46:(RX.of (aq 3 aP) [.slice A44 x41.wy.length c45] x41.wy).reads w F:=⟨z43S,z43s0,z43rr⟩
             refine TL.q Z .u (uV (k:=0) Z Z Z xn xk (xd hx42).1) Z ?_
             refine TL.q Z .u (vA (us := [jI x41.wK,jI x41.wD,.bool x41.wC.null,jS x41.wC.data,.bool x41.wt.null,jS x41.wt.data,.slice A44 x41.wy.length c45]) 0 Z xF xk z43nf z43cc Z Z Z) Z ?_
             obtain⟨⟨x47,x48,x49⟩,hx50,h⟩:=wX h
             try dsimp only at h
             refine uP Z .u (.fn Tryz.call27 Z) (lm x41 _ _ _ hx50) (fun _ hs=>(vb hs hX46)) Z (TL.run aa [5,6,7,8,9,10,11] Z Z (TL.nil (X.seq (T.seq (T.region Z (TL.run aa [0,1] Z Z ?_))))))
             rcases jF h with⟨c51,h⟩ | ⟨c51,h⟩
             ·refine TL.nil (X.seq (uK Z (av (wY c51)) (T.skip (X.seq (T.seq (T.region Z (TL.q Z .u (uN (us := [jI a0.wG,jI a0.wz,.bool a0.wH,.bool a0.wN,.bool a0.wF,jI a0.wE,jI a0.wx,jI a0.wJ,jI a0.ww,jI a0.wA,jI a0.wv,.slice (some ⟨gz43,oz43,none⟩) a0.ws.length c2]) 0 Z xA xl Z Z Z) Z ?_)))))))
              obtain⟨x52,hx53,h⟩:=wX h
              refine uP Z .u (.fn Tryz.call28 Z) (f9 a0 _ _ _ hx53) (fun _ hs=>(vb hs hX)) Z (TL.run aa [2] Z Z ?_)
              obtain rfl:=xa h
              exact TL.nil (X.seq (T.ret (uC [1] xV (uD Z) ⟨Z,Z,Z⟩ (by rfl) (.inl Z))))
             ·refine TL.nil (X.seq (uF Z (aA (wZ c51)) (T.seq (T.region Z (TL.run aa [0,1] Z Z ?_)))))
              obtain rfl:=xa h
              exact TL.nil (X.seq (T.ret (uH (uC [1] xV (uD Z) ⟨Z,Z,Z⟩ (by rfl) (.inl Z)))))
          ·refine TL.nil (X.seq (uF Z (aA (wZ c20)) (T.seq (T.region Z (TL.run aa [0] Z Z ?_)))))
           obtain rfl:=xa h
           exact TL.nil (X.seq (T.ret (uH (uC [1] xV (uD Z) ⟨Z,Z,Z⟩ (by rfl) (.inl Z)))))
         ·replace c19:=xi c19
          refine TL.nil (X.seq (uF Z (aA c19) (T.seq (T.region Z (TL.run aa [0] Z Z ?_)))))
          obtain rfl:=xa h
          exact TL.nil (X.seq (T.ret (uH (uC [1] xV (uD Z) ⟨Z,Z,Z⟩ (by rfl) (.inl Z)))))
        ·replace c16:=xi c16
         refine TL.nil (X.seq (uF Z (aA c16) (T.seq (T.region Z (TL.run aa [0] Z Z ?_)))))
         obtain rfl:=xa h
         exact TL.nil (X.seq (T.ret (uH (uC [1] xV (uD Z) ⟨Z,Z,Z⟩ (by rfl) (.inl Z)))))
       ·replace c15:=xi c15
        refine TL.run aa [2] Z Z ?_
        iterate 3 refine uG Z (.gn Z Z c15) Z ?_
        refine TL.q Z .u (uL Z c15 Z) Z (TL.nil (X.seq (uK Z Z (T.skip (X.seq (T.seq (T.seq (T.region Z (TL.q Z .u (uN (us := [jI a0.wG,jI a0.wz,.bool a0.wH,.bool a0.wN,.bool a0.wF,jI a0.wE,jI a0.wx,jI a0.wJ,jI a0.ww,jI a0.wA,jI a0.wv,.slice A1 a0.ws.length c2]) 0 Z xA xl Z Z Z) Z ?_)))))))))
        obtain⟨x69,hx70,h⟩:=wX h
        refine uP Z .u (.fn Tryz.call25 Z) (fj a0 _ _ _ hx70) (fun _ hs=>(vb hs hX)) Z (TL.run aa [2] Z Z ?_)
        rcases jF h with⟨c71,h⟩ | ⟨c71,h⟩
        ·refine TL.nil (X.seq (uK Z (av c71) (T.skip (X.seq (T.seq (T.seq (T.region Z (TL.run aa [0] Z Z (TL.q Z .u (uB 0 Z xE Z Z) Z (TL.run aa [2] Z Z ?_))))))))))
         iterate 4 refine uG Z (.gn Z Z c15) Z ?_
         refine TL.q Z .u (uL Z c15 Z) Z (TL.nil (X.seq (uK Z Z (T.skip (X.seq (T.seq (T.seq (T.region Z (TL.run aa [0] Z Z (TL.nil (X.seq (T.block ?_))))))))))))
         obtain⟨E74,hE75,hO76⟩:=wX h
         refine vo (fun m e Rs=> ∃ (y72:Int) (k73:Nat),e = [(1,jP b3),(2,jI y72),(3,jI (k73:Int))]∧Rs = [aD b3 43 #[jI a0.wG,jI a0.wz,.bool a0.wH,.bool a0.wN,.bool a0.wF,jI a0.wE,jI a0.wx,jI a0.wJ,jI a0.ww,jI a0.wA,jI a0.wv,.slice A1 a0.ws.length c2],aw]∧cH a0 m y72 k73=some E74) (((a0.ws.length:Int)).toNat+1) [0,0] ⟨0,0,Z,Z,by exact hE75⟩ (by rfl) (by rfl) ?_
         rintro m77 _ _ ⟨y72,k73,rfl,rfl,hl79⟩
         clear hE75 h
         cases m77 with
         | zero =>
          rw[cH] at hl79
          cases hl79
         | succ m77 =>
          have h:=hl79
          clear hl79
          rw[cH] at h
          refine T.seq (T.seq (T.region Z (TL.run aa [0,1] Z Z (TL.q Z .u (uB 0 Z xL Z Z) Z (TL.q Z .u (uY Z xn) Z (TL.run aa [4] Z Z ?_))))))
          rcases jF h with⟨c81,h⟩ | ⟨c81,h⟩
          ·refine TL.nil (X.seq (uF Z (wY c81) (T.skip (X.seq (T.seq (T.block (T.seq (T.region Z (TL.run aa [0] Z Z (TL.q Z .u (uB 0 Z xL Z Z) Z ?_))))))))))
           obtain⟨x82,hx83,h⟩:=wX h
           obtain⟨gz84,oz84,rfl,z84cs,z84cl,z84cc,z84nf,z84r⟩:=vh (by decide) hX hx83
           obtain⟨z84S,z84r,z84rr⟩:=z84r
           obtain⟨A85,c86,rfl,z84s0⟩:=z84r
           have hX87:(RX.of (aq 3 aP) [.slice A85 x82.wy.length c86] x82.wy).reads w F:=⟨z84S,z84s0,z84rr⟩
           refine TL.run aa [2] Z Z ?_
           refine TL.q Z .u (uV (k:=k73) Z Z Z xn xk (xd hx83).1) Z ?_
           refine TL.q Z .u (vA (us := [jI x82.wK,jI x82.wD,.bool x82.wC.null,jS x82.wC.data,.bool x82.wt.null,jS x82.wt.data,.slice A85 x82.wy.length c86]) 0 Z xF xk z84nf z84cc Z Z Z) Z ?_
           obtain⟨x88,hx89,h⟩:=wX h
           refine uP Z .u (.fn Tryz.call26 Z) (gw x82 _ _ _ hx89) (fun _ hs=>(vb hs hX87)) Z (TL.run aa [6] Z Z (TL.nil (X.seq (T.seq (T.region Z (TL.run aa [0,1] Z Z ?_))))))
           rcases jF h with⟨c90,h⟩ | ⟨c90,h⟩
           ·refine TL.nil (X.seq (uK Z (av (wY c90)) (T.skip (uQ (X.seq (T.region Z ?_))))))
            replace h:=ak h
            obtain⟨c91,h⟩:=h
            exact TL.run aa [0] Z Z (TL.q Z .u (Ex.add Z Z c91) Z (TL.run aa [2] Z Z (TL.nil (X.back (m':=m77) [0,0] (by omega) ⟨y72,k73+1,Z,Z,h⟩ (by rfl) (by rfl)))))
           ·refine TL.nil (X.seq (uF Z (aA (wZ c90)) (T.seq (T.region Z (TL.run aa [0,1] Z Z ?_)))))
            obtain rfl:=xa h
            replace h:=hO76
            clear hO76
            try dsimp only at h
            obtain rfl:=xa h
            exact TL.nil (X.seq (T.ret (uS (uH (uH (uS (uH (uC [1] xV (uD Z) ⟨Z,Z,Z⟩ (by rfl) (.inl Z)))))))))
          ·refine TL.nil (X.seq (uK Z (wZ c81) ?_))
           obtain rfl:=xa h
           replace h:=hO76
           clear hO76
           try dsimp only at h
           refine T.exit (uR (uR (vn (X.seq (T.seq (T.seq (T.region Z (TL.run aa [0] Z Z (TL.q Z .u (uB 0 Z xE Z Z) Z (TL.nil (X.seq (uK Z c15 (T.skip (X.seq (T.seq (T.region Z (TL.q Z .u (uN (us := [jI a0.wG,jI a0.wz,.bool a0.wH,.bool a0.wN,.bool a0.wF,jI a0.wE,jI a0.wx,jI a0.wJ,jI a0.ww,jI a0.wA,jI a0.wv,.slice A1 a0.ws.length c2]) 0 Z xA xl Z Z Z) Z ?_)))))))))))))))))
           obtain⟨x92,hx93,h⟩:=wX h
           refine uP Z .u (.fn Tryz.call28 Z) (f9 a0 _ _ _ hx93) (fun _ hs=>(vb hs hX)) Z (TL.run aa [2] Z Z ?_)
           obtain rfl:=xa h
           exact TL.nil (X.seq (T.ret (uC [1] xV (uD Z) ⟨Z,Z,Z⟩ (by rfl) (.inl Z))))
        ·replace c71:=xi c71
         refine TL.nil (X.seq (uF Z (aA c71) (T.seq (T.region Z (TL.run aa [0] Z Z ?_)))))
         obtain rfl:=xa h
         exact TL.nil (X.seq (T.ret (uH (uC [1] xV (uD Z) ⟨Z,Z,Z⟩ (by rfl) (.inl Z)))))
   ·replace c10:=xi c10
    refine TL.run aa [15] Z Z ?_
    iterate 6 refine uG Z (.gn Z Z (aA c10)) Z ?_
    refine TL.q Z .u (uJ Z (aA c10) Z) Z (TL.run aa [23] Z Z ?_)
    iterate 3 refine uG Z (.gn Z Z Z) Z ?_
    refine TL.q Z .u (uJ Z Z Z) Z (TL.run aa [28] Z Z ?_)
    iterate 3 refine uG Z (.gn Z Z Z) Z ?_
    refine TL.q Z .u (uJ Z Z Z) Z (TL.nil (X.seq (uF Z Z (T.seq (T.region Z (TL.run aa [0] Z Z ?_))))))
    obtain rfl:=xa h
    exact TL.nil (X.seq (T.ret (uH (uC [1] xV (uD Z) ⟨Z,Z,Z⟩ (by rfl) (.inl Z)))))
  ·replace c7:=xi c7
   refine TL.run aa [9] Z Z ?_
   iterate 4 refine uG Z (.gn Z Z (aA c7)) Z ?_
   refine TL.q Z .u (uJ Z (aA c7) Z) Z (TL.run aa [15] Z Z ?_)
   iterate 6 refine uG Z (.gn Z Z Z) Z ?_
   refine TL.q Z .u (uJ Z Z Z) Z (TL.run aa [23] Z Z ?_)
   iterate 3 refine uG Z (.gn Z Z Z) Z ?_
   refine TL.q Z .u (uJ Z Z Z) Z (TL.run aa [28] Z Z ?_)
   iterate 3 refine uG Z (.gn Z Z Z) Z ?_
   refine TL.q Z .u (uJ Z Z Z) Z (TL.nil (X.seq (uF Z Z (T.seq (T.region Z (TL.run aa [0] Z Z ?_))))))
   obtain rfl:=xa h
   exact TL.nil (X.seq (T.ret (uH (uC [1] xV (uD Z) ⟨Z,Z,Z⟩ (by rfl) (.inl Z)))))
def aR (a0:Int):Option (eB):=some (⟨(⟨0,0,false,false,false,0,0,0,0,0,0,[]⟩:Bat),0,a0⟩:eB)
theorem aG (a0:Int) (r:eB) (h:aR a0=some r):au Tryz.prog 42 #[jI a0] .triv (aw) (fun v A' N=> ∃ (A2:Option Addr) (c3:Nat),v= .agg #[jI r.wq.wG,jI r.wq.wz,.bool r.wq.wH,.bool r.wq.wN,.bool r.wq.wF,jI r.wq.wE,jI r.wq.wx,jI r.wq.wJ,jI r.wq.ww,jI r.wq.wA,jI r.wq.wv,.slice A2 r.wq.ws.length c3,jI r.wP,jI r.wO]∧A'=aw∧N = [RdR (aq 7 bf) [.slice A2 r.wq.ws.length c3] r.wq.ws]):=by
 refine aF Tryz.func42 Z Tryz.ntmps42 Z ?_
 intro F w hX
 unfold aR at h
 refine T.seq (T.region Z (TL.alloc Z .u Tryz.zeroValue56 Z (fun b1=>(TL.nil (X.seq (T.seq (T.region Z (TL.run aa [0] Z Z ?_))))))))
 refine TL.q Z .u (uU (cells:= #[jI 0,jI 0,.bool false,.bool false,.bool false,jI 0,jI 0,jI 0,jI 0,jI 0,jI 0,.slice none 0 0,jI 0,jI a0]) aQ Z (by kernel_rfl)) Z ?_
 refine uO (cs':= #[jI 0,jI 0,.bool false,.bool false,.bool false,jI 0,jI 0,jI 0,jI 0,jI 0,jI 0,.slice none 0 0,jI 0,jI a0]) Z .u Z Z xm Z Z Z Z ?_
 obtain rfl:=xa h
 exact TL.nil (X.seq (T.ret (vd 7 bf (uC [2,0] Tryz.results42 (uT (us:= #[jI 0,jI 0,.bool false,.bool false,.bool false,jI 0,jI 0,jI 0,jI 0,jI 0,jI 0,.slice none 0 0,jI 0,jI a0]) 1 Z xO xm Z Z) ⟨_,_,Z,Z,Z⟩ (by rfl) (.inl Z)))))
def cj (x2:List Int):Nat→List UInt8→Nat→List Rec→Option (Lp eB (List UInt8×Nat×List Rec))
 | 0,_,_,_=>none
 | m89+1,y81,k82,y83=>(x2[11]?).bind fun x93=>if (k82:Int)<x93 then (if y81 = [] then ((aR 10).bind fun x98=>some (Lp.ret x98)) else ((eR y81).bind fun x102=>if x102.wO=0 then (if (y83.length+1)*88≤140737488355328 then (if 0≤x102.wP∧x102.wP.toNat≤y81.length then (if -9223372036854775808≤((k82:Int)+1)∧((k82:Int)+1)≤9223372036854775807 then (cj x2 m89 (y81.drop x102.wP.toNat) (k82+1) (y83 ++ [x102.wu])) else none) else none) else none) else ((aR x102.wO).bind fun x114=>some (Lp.ret x114)))) else (some (Lp.go (y81,k82,y83)))
def eo (a0:List UInt8):Option (eB):=(cV a0).bind fun (x2,x5)=>if x5=0 then ((x2[1]?).bind fun x8=>if -9223372036854775808≤(x8+12)∧(x8+12)≤9223372036854775807 then (if (x8+12)>(a0.length:Int) then ((aR 1).bind fun x13=>some x13) else ((x2[3]?).bind fun x17=>if 0≤(x8+12)∧21≤(x8+12).toNat∧(x8+12).toNat≤a0.length then ((gB ((a0.drop 21).take (((x8+12).toNat) - 21))).bind fun x21=>if -9223372036854775808≤x21∧x21≤9223372036854775807 then (if x21=x17 then ((x2[4]?).bind fun x25=>(ly x25 2).bind fun x28=>(x28[1]?).bind fun ch30=>if 0≤(ch30.toNat:Int) then (if ((ch30.toNat:Int) % 8)=0 then ((if x25<0 then some true else (if x25>63 then some true else (if x25≥32 then (if 0≤x25∧x25≤9223372036854775807 then (if (x25 % 32)<16 then some true else some false) else none) else some false))).bind fun y38=>if y38=true then ((aR 8).bind fun x46=>some x46) else ((x2[0]?).bind fun x50=>(x2[2]?).bind fun x53=>(x2[5]?).bind fun x56=>(x2[6]?).bind fun x59=>(x2[7]?).bind fun x62=>(x2[8]?).bind fun x65=>(x2[9]?).bind fun x68=>(x2[10]?).bind fun x71=>if 0≤x25∧x25≤9223372036854775807 then (if 0≤(x25 / 8)∧(x25 / 8)≤9223372036854775807 then (if 0≤x25∧x25≤9223372036854775807 then (if 0≤(x25 / 16)∧(x25 / 16)≤9223372036854775807 then (if 0≤x25∧x25≤9223372036854775807 then (if 0≤(x8+12)∧61≤(x8+12).toNat∧(x8+12).toNat≤a0.length then ((cj x2 (((x2[11]?).map (fun x81=>(x81).toNat+1)).getD 0) ((a0.drop 61).take (((x8+12).toNat) - 61)) 0 []).bind fun e=>match e with | .ret r=>some r | .go (y186,k187,y188)=>(if y186 = [] then (if ((x25 / 8) % 2)=1 then (if ((x25 / 16) % 2)=1 then (if (x25 / 32)=1 then ((bq (⟨x50,x53,decide (((x25 / 8) % 2)=1),decide (((x25 / 16) % 2)=1),decide ((x25 / 32)=1),x56,x59,x62,x65,x68,x71,y188⟩:Bat)).bind fun x195=>if x195=0 then (some (⟨(⟨x50,x53,decide (((x25 / 8) % 2)=1),decide (((x25 / 16) % 2)=1),decide ((x25 / 32)=1),x56,x59,x62,x65,x68,x71,y188⟩:Bat),(x8+12),0⟩:eB)) else ((aR x195).bind fun x198=>some x198)) else ((bq (⟨x50,x53,decide (((x25 / 8) % 2)=1),decide (((x25 / 16) % 2)=1),decide ((x25 / 32)=1),x56,x59,x62,x65,x68,x71,y188⟩:Bat)).bind fun x202=>if x202=0 then (some (⟨(⟨x50,x53,decide (((x25 / 8) % 2)=1),decide (((x25 / 16) % 2)=1),decide ((x25 / 32)=1),x56,x59,x62,x65,x68,x71,y188⟩:Bat),(x8+12),0⟩:eB)) else ((aR x202).bind fun x205=>some x205))) else (if (x25 / 32)=1 then ((bq (⟨x50,x53,decide (((x25 / 8) % 2)=1),decide (((x25 / 16) % 2)=1),decide ((x25 / 32)=1),x56,x59,x62,x65,x68,x71,y188⟩:Bat)).bind fun x210=>if x210=0 then (some (⟨(⟨x50,x53,decide (((x25 / 8) % 2)=1),decide (((x25 / 16) % 2)=1),decide ((x25 / 32)=1),x56,x59,x62,x65,x68,x71,y188⟩:Bat),(x8+12),0⟩:eB)) else ((aR x210).bind fun x213=>some x213)) else ((bq (⟨x50,x53,decide (((x25 / 8) % 2)=1),decide (((x25 / 16) % 2)=1),decide ((x25 / 32)=1),x56,x59,x62,x65,x68,x71,y188⟩:Bat)).bind fun x217=>if x217=0 then (some (⟨(⟨x50,x53,decide (((x25 / 8) % 2)=1),decide (((x25 / 16) % 2)=1),decide ((x25 / 32)=1),x56,x59,x62,x65,x68,x71,y188⟩:Bat),(x8+12),0⟩:eB)) else ((aR x217).bind fun x220=>some x220)))) else (if ((x25 / 16) % 2)=1 then (if (x25 / 32)=1 then ((bq (⟨x50,x53,decide (((x25 / 8) % 2)=1),decide (((x25 / 16) % 2)=1),decide ((x25 / 32)=1),x56,x59,x62,x65,x68,x71,y188⟩:Bat)).bind fun x226=>if x226=0 then (some (⟨(⟨x50,x53,decide (((x25 / 8) % 2)=1),decide (((x25 / 16) % 2)=1),decide ((x25 / 32)=1),x56,x59,x62,x65,x68,x71,y188⟩:Bat),(x8+12),0⟩:eB)) else ((aR x226).bind fun x229=>some x229)) else ((bq (⟨x50,x53,decide (((x25 / 8) % 2)=1),decide (((x25 / 16) % 2)=1),decide ((x25 / 32)=1),x56,x59,x62,x65,x68,x71,y188⟩:Bat)).bind fun x233=>if x233=0 then (some (⟨(⟨x50,x53,decide (((x25 / 8) % 2)=1),decide (((x25 / 16) % 2)=1),decide ((x25 / 32)=1),x56,x59,x62,x65,x68,x71,y188⟩:Bat),(x8+12),0⟩:eB)) else ((aR x233).bind fun x236=>some x236))) else (if (x25 / 32)=1 then ((bq (⟨x50,x53,decide (((x25 / 8) % 2)=1),decide (((x25 / 16) % 2)=1),decide ((x25 / 32)=1),x56,x59,x62,x65,x68,x71,y188⟩:Bat)).bind fun x241=>if x241=0 then (some (⟨(⟨x50,x53,decide (((x25 / 8) % 2)=1),decide (((x25 / 16) % 2)=1),decide ((x25 / 32)=1),x56,x59,x62,x65,x68,x71,y188⟩:Bat),(x8+12),0⟩:eB)) else ((aR x241).bind fun x244=>some x244)) else ((bq (⟨x50,x53,decide (((x25 / 8) % 2)=1),decide (((x25 / 16) % 2)=1),decide ((x25 / 32)=1),x56,x59,x62,x65,x68,x71,y188⟩:Bat)).bind fun x248=>if x248=0 then (some (⟨(⟨x50,x53,decide (((x25 / 8) % 2)=1),decide (((x25 / 16) % 2)=1),decide ((x25 / 32)=1),x56,x59,x62,x65,x68,x71,y188⟩:Bat),(x8+12),0⟩:eB)) else ((aR x248).bind fun x251=>some x251))))) else ((aR 10).bind fun x255=>some x255))) else none) else none) else none) else none) else none) else none)) else ((aR 9).bind fun x259=>some x259)) else none) else ((aR 5).bind fun x263=>some x263)) else none) else none)) else none) else ((aR x5).bind fun x267=>some x267)
theorem ln (a0:List UInt8) (r:eB) (h:eo a0=some r):au Tryz.prog 18 #[jS a0] .triv (aw) (fun v A' N=> ∃ (A271:Option Addr) (c272:Nat),v= .agg #[jI r.wq.wG,jI r.wq.wz,.bool r.wq.wH,.bool r.wq.wN,.bool r.wq.wF,jI r.wq.wE,jI r.wq.wx,jI r.wq.wJ,jI r.wq.ww,jI r.wq.wA,jI r.wq.wv,.slice A271 r.wq.ws.length c272,jI r.wP,jI r.wO]∧A'=aw∧N = [RdR (aq 7 bf) [.slice A271 r.wq.ws.length c272] r.wq.ws]):=by
 refine aF Tryz.func18 Z Tryz.ntmps18 Z ?_
 intro F w hX
 unfold eo at h
 refine T.seq (T.region Z (TL.alloc Z .u Tryz.zeroValue56 Z (fun b1=>(TL.nil (X.seq (T.seq (T.region Z ?_)))))))
 obtain⟨⟨x2,x5⟩,hx6,h⟩:=wX h
 try dsimp only at h
 refine TL.run aa [0] Z Z (u0 Z .u (.fn Tryz.call17 Z) (f7 a0 _ hx6) (fun _ hs=>(uE _ _)) Z ?_)
 rintro _ _ _ ⟨A3,c4,rfl,rfl,rfl⟩
 refine uM [0,0,0] Z (TL.run aa [2,3,4,5,6] Z Z (TL.nil (X.seq (T.seq (T.seq (T.region Z (TL.run aa [0,1] Z Z ?_)))))))
 rcases jF h with⟨c7,h⟩ | ⟨c7,h⟩
 ·refine TL.nil (X.seq (uK Z (av (wY c7)) (T.skip (X.seq (T.seq (T.region Z ?_))))))
  obtain⟨x8,hx9,h⟩:=wX h
  refine TL.run aa [0] Z Z (vM (E:=ck) (k:=1) 0 Z (fun w G h=>bV w G h) (by decide) hx9 ?_)
  rintro gz10 oz10 z10cs hA z10cl ⟨_,_,z10r⟩
  cases hA
  obtain rfl:z10cs = [jI x8]:=z10r
  clear z10cl
  refine uM [0,0,0] Z ?_
  refine TL.q Z .u (uV (k:=1) Z Z Z xt xg (xd hx9).1) Z ?_
  refine TL.q Z .u (vw (cs := [jI x8]) 0 0 Z xc Z (fun _ _ h=>h.2.2.1) Z) Z ?_
  replace h:=ak h
  obtain⟨c11,h⟩:=h
  refine TL.q Z .u (Ex.add Z Z c11) Z (TL.run aa [4] Z Z (TL.nil (X.seq (T.seq (T.seq (T.region Z (TL.run aa [0,1] Z Z (TL.q Z .u (vk Z xj) Z (TL.run aa [3] Z Z ?_)))))))))
  rcases jF h with⟨c12,h⟩ | ⟨c12,h⟩
  ·refine TL.nil (X.seq (uF Z (wY c12) ?_))
   obtain⟨x13,hx16,h⟩:=wX h
   refine T.seq (T.region Z (u0 Z .u (.fn Tryz.call42 Z) (aG 1 _ hx16) (fun _ hs=>(uE _ _)) Z ?_))
   rintro _ _ _ ⟨A14,c15,rfl,rfl,rfl⟩
   refine uM [0,0,0,0] Z (vB (cs':= #[jI x13.wq.wG,jI x13.wq.wz,.bool x13.wq.wH,.bool x13.wq.wN,.bool x13.wq.wF,jI x13.wq.wE,jI x13.wq.wx,jI x13.wq.wJ,jI x13.wq.ww,jI x13.wq.wA,jI x13.wq.wv,.slice A14 x13.wq.ws.length c15,jI x13.wP,jI x13.wO]) Z .u Z Z xm Z Z Z Z ?_)
   obtain rfl:=xa h
   exact TL.nil (X.seq (T.ret (uH (uC [3,0] xK (uT (us:= #[jI x13.wq.wG,jI x13.wq.wz,.bool x13.wq.wH,.bool x13.wq.wN,.bool x13.wq.wF,jI x13.wq.wE,jI x13.wq.wx,jI x13.wq.wJ,jI x13.wq.ww,jI x13.wq.wA,jI x13.wq.wv,.slice A14 x13.wq.ws.length c15,jI x13.wP,jI x13.wO]) 2 Z xO xm Z Z) ⟨_,_,Z,Z,Z⟩ (by rfl) (.inl Z)))))
  ·refine TL.nil (X.seq (uK Z (wZ c12) ?_))
   obtain⟨x17,hx18,h⟩:=wX h
   refine T.skip (X.seq (T.seq (T.seq (wd (E:=ck) (k:=3) 0 Z (fun w G h=>bV w G h.1) (by decide) hx18 ?_))))
   rintro gg oo z19cs hA z19cl ⟨_,_,z19r⟩
   cases hA
   obtain rfl:z19cs = [jI x17]:=z19r
   clear z19cl
   refine vN [0,0,0] Z ?_
   refine uZ (.q 0 (.q 1 (.q 2 (.q 5 (.q 6 (.q 7 (.e 3 (.q 4 (.q 8 .nil))))))))) [0,0,0] Z cW (NoP.seq (NoP.seq aI)) (by kernel_rfl) ?_
   replace h:=ak h
   obtain⟨c20,h⟩:=h
   refine TD.run aa [0,1] Z Z ?_
   replace c20:0≤(x8+12)∧21≤(x8+12).toNat∧(x8+12).toNat≤a0.length:=c20
   refine TD.q Z .u (vq (p:=21) (q:=(x8+12).toNat) (m:=((a0.drop 21).take (((x8+12).toNat) - 21))) Z xj (.some Z Z) (.some Z ((Int.toNat_of_nonneg c20.1).symm)) (by first | omega | (dsimp only; omega)) Z) Z ?_
   refine TD.run aa [5] Z Z ?_
   refine TD.q Z .u (uV (k:=3) Z Z Z xt xg (xd hx18).1) Z ?_
   refine TD.q Z .u (vw (cs := [jI x17]) 0 0 Z xc Z (fun _ _ h=>h.2.2.1) Z) Z ?_
   obtain⟨x21,hx22,h⟩:=wX h
   refine v6 Z .u (.fn Tryz.call32 Z) (mb ((a0.drop 21).take (((x8+12).toNat) - 21)) _ hx22) (fun _ hs=>(uE _ _)) Z [0,0,0] (Z) ?_
   replace h:=ak h
   obtain⟨c23,h⟩:=h
   refine TD.q Z .u (vG Z xZ xW c23) Z (TD.run aa [8] Z Z ?_)
   rcases jF h with⟨c24,h⟩ | ⟨c24,h⟩
   ·refine TD.nil (X.seq (uK Z (av (wY c24)) (T.skip (X.seq (T.seq (T.region Z ?_))))))
    obtain⟨x25,hx26,h⟩:=wX h
    refine TL.run aa [0] Z Z (vM (E:=ck) (k:=4) 0 Z (fun w G h=>bV w G h.1.1) (by decide) hx26 ?_)
    rintro gg oo z27cs hA z27cl ⟨_,_,z27r⟩
    cases hA
    obtain rfl:z27cs = [jI x25]:=z27r
    clear z27cl
    refine uM [0,0,0] Z ?_
    refine TL.q Z .u (uV (k:=4) Z Z Z xt xg (xd hx26).1) Z ?_
    refine TL.q Z .u (vw (cs := [jI x25]) 0 0 Z xc Z (fun _ _ h=>h.2.2.1) Z) Z (TL.run aa [3] Z Z (TL.nil (X.seq (T.seq (T.seq (T.region Z ?_))))))
    obtain⟨x28,hx29,h⟩:=wX h
    refine TL.run aa [0] Z Z (uP Z .u (.fn Tryz.call43 Z) (nF x25 2 _ hx29) (fun _ hs=>(uE _ _)) Z ?_)
    obtain⟨ch30,hc31,h⟩:=wX h
    refine TL.q Z .u (Ex.sIx Z Z Z Tryz.underlying9 hc31) Z ?_
    replace h:=ak h
    obtain⟨c32,h⟩:=h
    refine TL.q Z .u (Ex.remK Z Z (by omega) c32) Z (TL.run aa [4] Z Z ?_)
    rcases jF h with⟨c33,h⟩ | ⟨c33,h⟩
    ·refine TL.nil (X.seq (uK Z (av (wY c33)) (T.skip (X.seq (T.seq (T.seq ?_))))))
     obtain⟨y38,h,hk39⟩:=wX h
     refine vF (fun e Rs=>e = [(0,jS a0),(2,jP b1),(3,.slice (some ⟨gz10,oz10,none⟩) x2.length c4),(5,jI (x8+12)),(6,jI x25),(63,.bool y38)]∧Rs = [fp (fp (fp (RdR (aq 1 ck) [.slice (some ⟨gz10,oz10,none⟩) x2.length c4] x2) ck gz10 (oz10+1*1) [jI x8] x8) ck gz10 (oz10+3*1) [jI x17] x17) ck gz10 (oz10+4*1) [jI x25] x25,aD b1 56 #[jI 0,jI 0,.bool false,.bool false,.bool false,jI 0,jI 0,jI 0,jI 0,jI 0,jI 0,.slice none 0 0,jI 0,jI 0],aw]) ?_ ?_
     ·clear hk39
      refine T.region Z ?_
      rcases jF h with⟨c40,h⟩ | ⟨c40,h⟩
      ·refine TL.run aa [0,1,2] Z Z ?_
       iterate 2 refine uG Z (.gn Z Z (wY c40)) Z ?_
       refine TL.q Z .u (uJ Z (wY c40) Z) Z (TL.run aa [6] Z Z ?_)
       iterate 3 refine uG Z (.gn Z Z Z) Z ?_
       iterate 3 refine uG Z (.gu Z Z) Z ?_
       refine uG Z (.gn Z Z Z) Z (TL.q Z .u (uJ Z Z Z) Z ?_)
       cases h
       exact TL.nil (u4 [0,0,0] ⟨Z,Z⟩ (by rfl) (by rfl))
      ·refine TL.run aa [0,1,2] Z Z ?_
       iterate 2 refine TL.q Z (.g Z Z (wZ c40)) (uI aa Z) Z ?_
       refine TL.q Z .u (uL Z (wZ c40) Z) Z ?_
       rcases jF h with⟨c41,h⟩ | ⟨c41,h⟩
       ·refine TL.run aa [6] Z Z ?_
        iterate 3 refine uG Z (.gn Z Z (wY c41)) Z ?_
        iterate 3 refine uG Z (.gu Z Z) Z ?_
        refine uG Z (.gn Z Z (wY c41)) Z (TL.q Z .u (uJ Z (wY c41) Z) Z ?_)
        cases h
        exact TL.nil (u4 [0,0,0] ⟨Z,Z⟩ (by rfl) (by rfl))
       ·refine TL.run aa [6] Z Z ?_
        iterate 3 refine TL.q Z (.g Z Z (wZ c41)) (uI aa Z) Z ?_
        rcases jF h with⟨c42,h⟩ | ⟨c42,h⟩
        ·refine TL.q Z (.g Z Z (wY c42)) (uI aa Z) Z ?_
         replace h:=ak h
         obtain⟨c43,h⟩:=h
         refine TL.q Z (.g Z Z (wY c42)) (Ex.rem Z Z (by omega) c43) Z (TL.q Z (.g Z Z (wY c42)) (uI aa Z) Z (TL.q Z (.g Z Z (wZ c41)) (uJ Z (wY c42) Z) Z (TL.q Z .u (uL Z (wZ c41) Z) Z ?_)))
         rcases jF h with⟨c44,h⟩ | ⟨c44,h⟩
         ·cases h
          exact TL.nil (vV (d:=63) (v':= .bool true) Z (congrArg Value.bool (wY c44)) (u4 [0,0,0] ⟨Z,Z⟩ (by rfl) (by rfl)))
         ·cases h
          exact TL.nil (vV (d:=63) (v':= .bool false) Z (congrArg Value.bool (wZ c44)) (u4 [0,0,0] ⟨Z,Z⟩ (by rfl) (by rfl)))
        ·refine uG Z (.gn Z Z (wZ c42)) Z ?_
         iterate 2 refine uG Z (.gn Z Z (wZ c42)) Z ?_
         refine TL.q Z (.g Z Z (wZ c41)) (uL Z (wZ c42) Z) Z (TL.q Z .u (uL Z (wZ c41) Z) Z ?_)
         cases h
         exact TL.nil (u4 [0,0,0] ⟨Z,Z⟩ (by rfl) (by rfl))
     ·rintro _ _ ⟨rfl,rfl⟩
      clear h
      have h:=hk39
      clear hk39
      try dsimp only at h
      rcases jF h with⟨c45,h⟩ | ⟨c45,h⟩
      ·refine X.seq (uF Z c45 ?_)
       obtain⟨x46,hx49,h⟩:=wX h
       refine T.seq (T.region Z (u0 Z .u (.fn Tryz.call42 Z) (aG 8 _ hx49) (fun _ hs=>(uE _ _)) Z ?_))
       rintro _ _ _ ⟨A47,c48,rfl,rfl,rfl⟩
       refine uM [0,0,0,0] Z (vB (cs':= #[jI x46.wq.wG,jI x46.wq.wz,.bool x46.wq.wH,.bool x46.wq.wN,.bool x46.wq.wF,jI x46.wq.wE,jI x46.wq.wx,jI x46.wq.wJ,jI x46.wq.ww,jI x46.wq.wA,jI x46.wq.wv,.slice A47 x46.wq.ws.length c48,jI x46.wP,jI x46.wO]) Z .u Z Z xm Z Z Z Z ?_)
       obtain rfl:=xa h
       exact TL.nil (X.seq (T.ret (uH (uC [3,0] xK (uT (us:= #[jI x46.wq.wG,jI x46.wq.wz,.bool x46.wq.wH,.bool x46.wq.wN,.bool x46.wq.wF,jI x46.wq.wE,jI x46.wq.wx,jI x46.wq.wJ,jI x46.wq.ww,jI x46.wq.wA,jI x46.wq.wv,.slice A47 x46.wq.ws.length c48,jI x46.wP,jI x46.wO]) 2 Z xO xm Z Z) ⟨_,_,Z,Z,Z⟩ (by rfl) (.inl Z)))))
      ·replace c45:=xi c45
       refine X.seq (uK Z c45 ?_)
       obtain⟨x50,hx51,h⟩:=wX h
       refine T.skip (X.seq (T.seq (wd (E:=ck) (k:=0) 0 Z (fun w G h=>bV w G h.1.1.1) (by decide) hx51 ?_)))
       rintro gg oo z52cs hA z52cl ⟨_,_,z52r⟩
       cases hA
       obtain rfl:z52cs = [jI x50]:=z52r
       clear z52cl
       refine vN [0,0,0] Z ?_
       obtain⟨x53,hx54,h⟩:=wX h
       refine wd (E:=ck) (k:=2) 0 Z (fun w G h=>bV w G h.1.1.1.1) (by decide) hx54 ?_
       rintro gg oo z55cs hA z55cl ⟨_,_,z55r⟩
       cases hA
       obtain rfl:z55cs = [jI x53]:=z55r
       clear z55cl
       refine vN [0,0,0] Z ?_
       obtain⟨x56,hx57,h⟩:=wX h
       refine wd (E:=ck) (k:=5) 0 Z (fun w G h=>bV w G h.1.1.1.1.1) (by decide) hx57 ?_
       rintro gg oo z58cs hA z58cl ⟨_,_,z58r⟩
       cases hA
       obtain rfl:z58cs = [jI x56]:=z58r
       clear z58cl
       refine vN [0,0,0] Z ?_
       obtain⟨x59,hx60,h⟩:=wX h
       refine wd (E:=ck) (k:=6) 0 Z (fun w G h=>bV w G h.1.1.1.1.1.1) (by decide) hx60 ?_
       rintro gg oo z61cs hA z61cl ⟨_,_,z61r⟩
       cases hA
       obtain rfl:z61cs = [jI x59]:=z61r
       clear z61cl
       refine vN [0,0,0] Z ?_
       obtain⟨x62,hx63,h⟩:=wX h
       refine wd (E:=ck) (k:=7) 0 Z (fun w G h=>bV w G h.1.1.1.1.1.1.1) (by decide) hx63 ?_
       rintro gg oo z64cs hA z64cl ⟨_,_,z64r⟩
       cases hA
       obtain rfl:z64cs = [jI x62]:=z64r
       clear z64cl
       refine vN [0,0,0] Z ?_
       obtain⟨x65,hx66,h⟩:=wX h
       refine wd (E:=ck) (k:=8) 0 Z (fun w G h=>bV w G h.1.1.1.1.1.1.1.1) (by decide) hx66 ?_
       rintro gg oo z67cs hA z67cl ⟨_,_,z67r⟩
       cases hA
       obtain rfl:z67cs = [jI x65]:=z67r
       clear z67cl
       refine vN [0,0,0] Z ?_
       obtain⟨x68,hx69,h⟩:=wX h
       refine wd (E:=ck) (k:=9) 0 Z (fun w G h=>bV w G h.1.1.1.1.1.1.1.1.1) (by decide) hx69 ?_
       rintro gg oo z70cs hA z70cl ⟨_,_,z70r⟩
       cases hA
       obtain rfl:z70cs = [jI x68]:=z70r
       clear z70cl
       refine vN [0,0,0] Z ?_
       obtain⟨x71,hx72,h⟩:=wX h
       refine wd (E:=ck) (k:=10) 0 Z (fun w G h=>bV w G h.1.1.1.1.1.1.1.1.1.1) (by decide) hx72 ?_
       rintro gg oo z73cs hA z73cl ⟨_,_,z73r⟩
       cases hA
       obtain rfl:z73cs = [jI x71]:=z73r
       clear z73cl
       refine vN [0,0,0] Z ?_
       refine uZ (.q 0 (.q 1 (.q 2 (.q 3 (.q 4 (.q 5 (.q 6 (.q 7 (.q 8 (.q 9 (.q 10 (.q 11 (.q 12 (.q 13 (.q 14 (.q 15 (.q 16 (.q 17 (.q 18 (.q 19 (.q 20 (.q 21 (.q 22 (.q 23 (.q 24 (.q 25 (.q 26 (.q 27 (.q 28 (.q 29 (.q 30 (.q 31 (.q 32 (.q 33 (.q 34 (.q 35 (.e 36 (.e 37 .nil)))))))))))))))))))))))))))))))))))))) [0,0,0] Z cW (NoP.seq aI) (by kernel_rfl) ?_
       refine TD.run aa [0] Z Z ?_
       refine TD.q Z .u (uV (k:=0) Z Z Z xt xg (xd hx51).1) Z ?_
       refine TD.q Z .u (vw (cs := [jI x50]) 0 0 Z xc Z (fun _ _ h=>h.1.1.1.1.1.1.1.2.2.1) Z) Z (TD.run aa [3] Z Z ?_)
       refine TD.q Z .u (uV (k:=2) Z Z Z xt xg (xd hx54).1) Z ?_
       refine TD.q Z .u (vw (cs := [jI x53]) 0 0 Z xc Z (fun _ _ h=>h.1.1.1.1.1.1.2.2.1) Z) Z ?_
       replace h:=ak h
       obtain⟨c74,h⟩:=h
       refine TD.run aa [6] Z Z (TD.q Z .u (Ex.quo Z Z (by omega) c74) Z ?_)
       replace h:=ak h
       obtain⟨c75,h⟩:=h
       refine TD.q Z .u (Ex.rem Z Z (by omega) c75) Z ?_
       replace h:=ak h
       obtain⟨c76,h⟩:=h
       refine TD.run aa [9,10] Z Z (TD.q Z .u (Ex.quo Z Z (by omega) c76) Z ?_)
       replace h:=ak h
       obtain⟨c77,h⟩:=h
       refine TD.q Z .u (Ex.rem Z Z (by omega) c77) Z ?_
       replace h:=ak h
       obtain⟨c78,h⟩:=h
       refine TD.run aa [13,14] Z Z (TD.q Z .u (Ex.quo Z Z (by omega) c78) Z (TD.run aa [16,17] Z Z ?_))
       refine TD.q Z .u (uV (k:=5) Z Z Z xt xg (xd hx57).1) Z ?_
       refine TD.q Z .u (vw (cs := [jI x56]) 0 0 Z xc Z (fun _ _ h=>h.1.1.1.1.1.2.2.1) Z) Z (TD.run aa [20] Z Z ?_)
       refine TD.q Z .u (uV (k:=6) Z Z Z xt xg (xd hx60).1) Z ?_
       refine TD.q Z .u (vw (cs := [jI x59]) 0 0 Z xc Z (fun _ _ h=>h.1.1.1.1.2.2.1) Z) Z (TD.run aa [23] Z Z ?_)
       refine TD.q Z .u (uV (k:=7) Z Z Z xt xg (xd hx63).1) Z ?_
       refine TD.q Z .u (vw (cs := [jI x62]) 0 0 Z xc Z (fun _ _ h=>h.1.1.1.2.2.1) Z) Z (TD.run aa [26] Z Z ?_)
       refine TD.q Z .u (uV (k:=8) Z Z Z xt xg (xd hx66).1) Z ?_
       refine TD.q Z .u (vw (cs := [jI x65]) 0 0 Z xc Z (fun _ _ h=>h.1.1.2.2.1) Z) Z (TD.run aa [29] Z Z ?_)
       refine TD.q Z .u (uV (k:=9) Z Z Z xt xg (xd hx69).1) Z ?_
       refine TD.q Z .u (vw (cs := [jI x68]) 0 0 Z xc Z (fun _ _ h=>h.1.2.2.1) Z) Z (TD.run aa [32] Z Z ?_)
       refine TD.q Z .u (uV (k:=10) Z Z Z xt xg (xd hx72).1) Z ?_
       refine TD.q Z .u (vw (cs := [jI x71]) 0 0 Z xc Z (fun _ _ h=>h.2.2.1) Z) Z ?_
       refine TD.q Z .u (uU (cells:= #[jI x50,jI x53,.bool (decide (((x25 / 8) % 2)=1)),.bool (decide (((x25 / 16) % 2)=1)),.bool (decide ((x25 / 32)=1)),jI x56,jI x59,jI x62,jI x65,jI x68,jI x71,.slice none 0 0]) iw Z (by kernel_rfl)) Z ?_
       refine TD.alloc Z .u Tryz.zeroValue43 Z [1,1,1] (fun _=>Z) (fun b79=>(TD.st0 (cs':= #[jI x50,jI x53,.bool (decide (((x25 / 8) % 2)=1)),.bool (decide (((x25 / 16) % 2)=1)),.bool (decide ((x25 / 32)=1)),jI x56,jI x59,jI x62,jI x65,jI x68,jI x71,.slice none 0 0]) Z .u Z Z xl Z Z Z Z [1,1,1] (Z) (TD.nil (X.seq (T.seq (T.region Z ?_))))))
       replace h:=ak h
       obtain⟨c80,h⟩:=h
       refine TL.run aa [0,1] Z Z ?_
       replace c80:0≤(x8+12)∧61≤(x8+12).toNat∧(x8+12).toNat≤a0.length:=c80
       refine TL.q Z .u (vq (p:=61) (q:=(x8+12).toNat) (m:=((a0.drop 61).take (((x8+12).toNat) - 61))) Z xj (.some Z Z) (.some Z ((Int.toNat_of_nonneg c80.1).symm)) (by first | omega | (dsimp only; omega)) Z) Z ?_
       refine TL.run aa [3] Z Z (TL.nil (X.seq (T.seq (T.seq (T.region Z (TL.run aa [0] Z Z (TL.nil (X.seq (T.block (vO 69 7 bf ?_))))))))))
       obtain⟨E86,hE87,hO88⟩:=wX h
       refine vo (fun m e Rs=> ∃ (y81:List UInt8) (k82:Nat) (y83:List Rec) (A84:Option Addr) (c85:Nat),e = [(2,jP b1),(3,.slice (some ⟨gz10,oz10,none⟩) x2.length c4),(5,jI (x8+12)),(7,jP b79),(8,jS y81),(9,jI (k82:Int))]∧Rs = [aE 69 7 bf (.slice A84 y83.length c85) y83,aD b79 43 #[jI x50,jI x53,.bool (decide (((x25 / 8) % 2)=1)),.bool (decide (((x25 / 16) % 2)=1)),.bool (decide ((x25 / 32)=1)),jI x56,jI x59,jI x62,jI x65,jI x68,jI x71,.slice A84 y83.length c85],fp (fp (fp (fp (fp (fp (fp (fp (fp (fp (fp (RdR (aq 1 ck) [.slice (some ⟨gz10,oz10,none⟩) x2.length c4] x2) ck gz10 (oz10+1*1) [jI x8] x8) ck gz10 (oz10+3*1) [jI x17] x17) ck gz10 (oz10+4*1) [jI x25] x25) ck gz10 (oz10+0*1) [jI x50] x50) ck gz10 (oz10+2*1) [jI x53] x53) ck gz10 (oz10+5*1) [jI x56] x56) ck gz10 (oz10+6*1) [jI x59] x59) ck gz10 (oz10+7*1) [jI x62] x62) ck gz10 (oz10+8*1) [jI x65] x65) ck gz10 (oz10+9*1) [jI x68] x68) ck gz10 (oz10+10*1) [jI x71] x71,aD b1 56 #[jI 0,jI 0,.bool false,.bool false,.bool false,jI 0,jI 0,jI 0,jI 0,jI 0,jI 0,.slice none 0 0,jI 0,jI 0],aw]∧cj x2 m y81 k82 y83=some E86) (((x2[11]?).map (fun x81=>(x81).toNat+1)).getD 0) [0,0,0,0,0] ⟨((a0.drop 61).take (((x8+12).toNat) - 61)),0,[],none,0,Z,Z,by exact hE87⟩ (by rfl) (by rfl) ?_
       rintro m89 _ _ ⟨y81,k82,y83,A84,c85,rfl,rfl,hl91⟩
       clear hE87 h
       cases m89 with
       | zero =>
        rw[cj] at hl91
        cases hl91
       | succ m89 =>
        have h:=hl91
        clear hl91
        rw[cj] at h
        refine T.seq (T.seq (T.region Z ?_))
        obtain⟨x93,hx94,h⟩:=wX h
        refine TL.run aa [0,1] Z Z (vM (E:=ck) (k:=11) 2 Z (fun w G h=>bV w G h.1.1.1.1.1.1.1.1.1.1.1) (by decide) hx94 ?_)
        rintro gg oo z95cs hA z95cl ⟨_,_,z95r⟩
        cases hA
        obtain rfl:z95cs = [jI x93]:=z95r
        clear z95cl
        refine uM [0,0,0,0,0] Z ?_
        refine TL.q Z .u (uV (k:=11) Z Z Z xt xg (xd hx94).1) Z ?_
        refine TL.q Z .u (vw (cs := [jI x93]) 2 0 Z xc Z (fun _ _ h=>h.2.2.1) Z) Z (TL.run aa [4] Z Z ?_)
        rcases jF h with⟨c96,h⟩ | ⟨c96,h⟩
        ·refine TL.nil (X.seq (uF Z (wY c96) (T.skip (X.seq (T.seq (T.block (T.seq (T.seq (T.region Z (TL.run aa [0] Z Z (TL.q Z .u (Ex.sEq Z (m := []) Z) Z ?_)))))))))))
         rcases jF h with⟨c97,h⟩ | ⟨c97,h⟩
         ·refine TL.nil (X.seq (uF Z (wY c97) ?_))
          obtain⟨x98,hx101,h⟩:=wX h
          refine T.seq (T.region Z (u0 Z .u (.fn Tryz.call42 Z) (aG 10 _ hx101) (fun _ hs=>(uE _ _)) Z ?_))
          rintro _ _ _ ⟨A99,c100,rfl,rfl,rfl⟩
          refine uM [0,0,0,0,0,0] Z (vx (cs':= #[jI x98.wq.wG,jI x98.wq.wz,.bool x98.wq.wH,.bool x98.wq.wN,.bool x98.wq.wF,jI x98.wq.wE,jI x98.wq.wx,jI x98.wq.wJ,jI x98.wq.ww,jI x98.wq.wA,jI x98.wq.wv,.slice A99 x98.wq.ws.length c100,jI x98.wP,jI x98.wO]) Z .u Z Z xm Z Z Z Z ?_)
          obtain rfl:=xa h
          replace h:=hO88
          clear hO88
          try dsimp only at h
          obtain rfl:=xa h
          exact TL.nil (X.seq (T.ret (uH (uS (uH (uH (uS (uH (uC [5,0] xK (uT (us:= #[jI x98.wq.wG,jI x98.wq.wz,.bool x98.wq.wH,.bool x98.wq.wN,.bool x98.wq.wF,jI x98.wq.wE,jI x98.wq.wx,jI x98.wq.wJ,jI x98.wq.ww,jI x98.wq.wA,jI x98.wq.wv,.slice A99 x98.wq.ws.length c100,jI x98.wP,jI x98.wO]) 4 Z xO xm Z Z) ⟨_,_,Z,Z,Z⟩ (by rfl) (.inl Z))))))))))
         ·refine TL.nil (X.seq (uK Z (wZ c97) (T.skip (X.seq (T.seq (T.region Z ?_))))))
          obtain⟨x102,hx105,h⟩:=wX h
          refine TL.run aa [0] Z Z (u0 Z .u (.fn Tryz.call44 Z) (lk y81 _ hx105) (fun _ hs=>(uE _ _)) Z ?_)
          rintro _ _ _ ⟨A103,c104,rfl,rfl,rfl⟩
          refine uM [0,0,0,0,0,0] Z (TL.alloc Z .u Tryz.zeroValue99 Z (fun b106=>(uO (cs':= #[jI x102.wu.wK,jI x102.wu.wD,.bool x102.wu.wC.null,jS x102.wu.wC.data,.bool x102.wu.wt.null,jS x102.wu.wt.data,.slice A103 x102.wu.wy.length c104,jI x102.wP,jI x102.wO]) Z .u Z Z xD Z Z Z Z (TL.nil (X.seq (T.seq (T.seq (T.region Z (TL.run aa [0] Z Z (TL.q Z .u (uB 0 Z xc Z Z) Z (TL.run aa [2] Z Z ?_)))))))))))
          rcases jF h with⟨c107,h⟩ | ⟨c107,h⟩
          ·refine TL.nil (X.seq (uK Z (av (wY c107)) (T.skip (X.seq (T.seq (T.region Z (TL.run aa [0] Z Z (TL.q Z .u (uB 3 Z xL Z Z) Z (TL.run aa [2] Z Z (TL.q Z .u (uN (us := [jI x102.wu.wK,jI x102.wu.wD,.bool x102.wu.wC.null,jS x102.wu.wC.data,.bool x102.wu.wt.null,jS x102.wu.wt.data,.slice A103 x102.wu.wy.length c104]) 0 Z xF xk Z Z Z) Z ?_))))))))))
           refine vD (cells:= #[jI x102.wu.wK,jI x102.wu.wD,.bool x102.wu.wC.null,jS x102.wu.wC.data,.bool x102.wu.wt.null,jS x102.wu.wt.data,.slice A103 x102.wu.wy.length c104]) Z .u gR Z (by kernel_rfl) Z (fun b108=> ?_)
           replace h:=ak h
           obtain⟨c109,h⟩:=h
           refine TL.app2 2 1 Z .u (us := [jI x102.wu.wK,jI x102.wu.wD,.bool x102.wu.wC.null,jS x102.wu.wC.data,.bool x102.wu.wt.null,jS x102.wu.wt.data,.slice A103 x102.wu.wy.length c104]) (u:=x102.wu) (l:=y83) (E:=bf) Tryz.underlying41 iy Z (by decide) Z Z Z Z Z Z Z (fun w G hG=>⟨_,_,Z,hG.1⟩) (by have hq:=c109; omega) (by have hq:=c109; omega) Z (fun A110 c111=> ?_)
           refine uM [0,0,0,0,0,0] Z (TL.run aa [6] Z Z (vB (cs':= #[jI x50,jI x53,.bool (decide (((x25 / 8) % 2)=1)),.bool (decide (((x25 / 16) % 2)=1)),.bool (decide ((x25 / 32)=1)),jI x56,jI x59,jI x62,jI x65,jI x68,jI x71,.slice A110 (y83 ++ [x102.wu]).length c111]) Z .u Z Z Tryz.sizeOf41 Z Z Z Z (TL.nil (X.seq (T.region Z (TL.run aa [0,1] Z Z (TL.q Z .u (uB 1 Z xc Z Z) Z ?_)))))))
           replace h:=ak h
           obtain⟨c112,h⟩:=h
           replace c112:0≤x102.wP∧x102.wP.toNat≤y81.length:=c112
           refine TL.q Z .u (vq (p:=x102.wP.toNat) (q:=y81.length) (m:=(y81.drop x102.wP.toNat)) Z xj (.some Z ((Int.toNat_of_nonneg c112.1).symm)) .none (by first | omega | (dsimp only; omega)) (eb _ _)) Z ?_
           refine TL.run aa [4] Z Z (TL.nil (uQ (X.seq (T.region Z ?_))))
           replace h:=ak h
           obtain⟨c113,h⟩:=h
           exact TL.run aa [0] Z Z (TL.q Z .u (Ex.add Z Z c113) Z (TL.run aa [2] Z Z (TL.nil (X.unf 3 Z (uW [0,0,0,0,0,0] Z (X.back (m':=m89) [0,1,1,1,1] (by omega) ⟨(y81.drop x102.wP.toNat),k82+1,(y83 ++ [x102.wu]),A110,c111,Z,Z,h⟩ (by rfl) (by rfl)))))))
          ·refine TL.nil (X.seq (uF Z (aA (wZ c107)) (T.seq (T.region Z (TL.run aa [0] Z Z (TL.q Z .u (uB 0 Z xc Z Z) Z ?_))))))
           obtain⟨x114,hx117,h⟩:=wX h
           refine u0 Z .u (.fn Tryz.call42 Z) (aG x102.wO _ hx117) (fun _ hs=>(uE _ _)) Z ?_
           rintro _ _ _ ⟨A115,c116,rfl,rfl,rfl⟩
           refine uM [0,0,0,0,0,0,0,0] Z (TL.st6 (cs':= #[jI x114.wq.wG,jI x114.wq.wz,.bool x114.wq.wH,.bool x114.wq.wN,.bool x114.wq.wF,jI x114.wq.wE,jI x114.wq.wx,jI x114.wq.wJ,jI x114.wq.ww,jI x114.wq.wA,jI x114.wq.wv,.slice A115 x114.wq.ws.length c116,jI x114.wP,jI x114.wO]) Z .u Z Z xm Z Z Z Z ?_)
           obtain rfl:=xa h
           replace h:=hO88
           clear hO88
           try dsimp only at h
           obtain rfl:=xa h
           exact TL.nil (X.seq (T.ret (uH (uS (uH (uH (uS (uH (uC [7,0] xK (uT (us:= #[jI x114.wq.wG,jI x114.wq.wz,.bool x114.wq.wH,.bool x114.wq.wN,.bool x114.wq.wF,jI x114.wq.wE,jI x114.wq.wx,jI x114.wq.wJ,jI x114.wq.ww,jI x114.wq.wA,jI x114.wq.wv,.slice A115 x114.wq.ws.length c116,jI x114.wP,jI x114.wO]) 6 Z xO xm Z Z) ⟨_,_,Z,Z,Z⟩ (by rfl) (.inl Z))))))))))
        ·refine TL.nil (X.seq (uK Z (wZ c96) ?_))
         obtain rfl:=xa h
         replace h:=hO88
         clear hO88
         try dsimp only at h
         refine T.exit (uR (uR (vn (X.seq (T.seq (T.seq (T.region Z (TL.run aa [0] Z Z (TL.q Z .u (Ex.sNe Z (m := []) Z) Z ?_)))))))))
         rcases jF h with⟨c118,h⟩ | ⟨c118,h⟩
         ·refine TL.nil (X.seq (uK Z (av (wY c118)) (T.skip (X.seq (T.seq (T.region Z (TL.q Z .u (uN (us := [jI x50,jI x53,.bool (decide (((x25 / 8) % 2)=1)),.bool (decide (((x25 / 16) % 2)=1)),.bool (decide ((x25 / 32)=1)),jI x56,jI x59,jI x62,jI x65,jI x68,jI x71,.slice A84 y83.length c85]) 1 Z xA xl Z Z Z) Z ?_)))))))
          rcases jF h with⟨c119,h⟩ | ⟨c119,h⟩
          ·rcases jF h with⟨c120,h⟩ | ⟨c120,h⟩
           ·rcases jF h with⟨c121,h⟩ | ⟨c121,h⟩
            ·obtain⟨x122,hx123,h⟩:=wX h
             refine uP Z .u (.fn Tryz.call13 Z) (bG (⟨x50,x53,decide (((x25 / 8) % 2)=1),decide (((x25 / 16) % 2)=1),decide ((x25 / 32)=1),x56,x59,x62,x65,x68,x71,y83⟩:Bat) _ _ _ hx123) (fun _ hs=>(vu 0 hs Z (fun w G h=>aN (by decide) w G h))) Z (TL.run aa [2] Z Z (TL.nil (X.seq (T.seq (T.seq (T.region Z (TL.run aa [0,1] Z Z ?_)))))))
             rcases jF h with⟨c124,h⟩ | ⟨c124,h⟩
             ·refine TL.nil (X.seq (uK Z (av (wY c124)) (T.skip (X.seq (T.seq (T.region Z (TL.q Z .u (uN (us := [jI x50,jI x53,.bool (decide (((x25 / 8) % 2)=1)),.bool (decide (((x25 / 16) % 2)=1)),.bool (decide ((x25 / 32)=1)),jI x56,jI x59,jI x62,jI x65,jI x68,jI x71,.slice A84 y83.length c85]) 1 Z xA xl Z Z Z) Z (TL.run aa [1] Z Z ?_))))))))
              refine TL.q Z .u (uU (cells:= #[jI x50,jI x53,.bool (decide (((x25 / 8) % 2)=1)),.bool (decide (((x25 / 16) % 2)=1)),.bool (decide ((x25 / 32)=1)),jI x56,jI x59,jI x62,jI x65,jI x68,jI x71,.slice A84 y83.length c85,jI (x8+12),jI 0]) aQ Z (by kernel_rfl)) Z ?_
              refine vg (cs':= #[jI x50,jI x53,.bool (decide (((x25 / 8) % 2)=1)),.bool (decide (((x25 / 16) % 2)=1)),.bool (decide ((x25 / 32)=1)),jI x56,jI x59,jI x62,jI x65,jI x68,jI x71,.slice A84 y83.length c85,jI (x8+12),jI 0]) Z .u Z Z xm Z Z Z Z ?_
              obtain rfl:=xa h
              exact TL.nil (X.seq (T.ret (vt (by decide) 0 Z (uW [0,0,0,0,0] Z (uC [4,0] xK (uT (us:= #[jI x50,jI x53,.bool (decide (((x25 / 8) % 2)=1)),.bool (decide (((x25 / 16) % 2)=1)),.bool (decide ((x25 / 32)=1)),jI x56,jI x59,jI x62,jI x65,jI x68,jI x71,.slice A84 y83.length c85,jI (x8+12),jI 0]) 3 Z xO xm Z Z) ⟨_,_,Z,Z,Z⟩ (by rfl) (.inl Z))))))
             ·refine TL.nil (X.seq (uF Z (aA (wZ c124)) (T.seq (T.region Z ?_))))
              obtain⟨x125,hx128,h⟩:=wX h
              refine TL.run aa [0] Z Z (u0 Z .u (.fn Tryz.call42 Z) (aG x122 _ hx128) (fun _ hs=>(uE _ _)) Z ?_)
              rintro _ _ _ ⟨A126,c127,rfl,rfl,rfl⟩
              refine uM [0,0,0,0,0,0] Z (vx (cs':= #[jI x125.wq.wG,jI x125.wq.wz,.bool x125.wq.wH,.bool x125.wq.wN,.bool x125.wq.wF,jI x125.wq.wE,jI x125.wq.wx,jI x125.wq.wJ,jI x125.wq.ww,jI x125.wq.wA,jI x125.wq.wv,.slice A126 x125.wq.ws.length c127,jI x125.wP,jI x125.wO]) Z .u Z Z xm Z Z Z Z ?_)
              obtain rfl:=xa h
              exact TL.nil (X.seq (T.ret (uH (uC [5,0] xK (uT (us:= #[jI x125.wq.wG,jI x125.wq.wz,.bool x125.wq.wH,.bool x125.wq.wN,.bool x125.wq.wF,jI x125.wq.wE,jI x125.wq.wx,jI x125.wq.wJ,jI x125.wq.ww,jI x125.wq.wA,jI x125.wq.wv,.slice A126 x125.wq.ws.length c127,jI x125.wP,jI x125.wO]) 4 Z xO xm Z Z) ⟨_,_,Z,Z,Z⟩ (by rfl) (.inl Z)))))
            ·obtain⟨x129,hx130,h⟩:=wX h
             refine uP Z .u (.fn Tryz.call13 Z) (bG (⟨x50,x53,decide (((x25 / 8) % 2)=1),decide (((x25 / 16) % 2)=1),decide ((x25 / 32)=1),x56,x59,x62,x65,x68,x71,y83⟩:Bat) _ _ _ hx130) (fun _ hs=>(vu 0 hs Z (fun w G h=>aN (by decide) w G h))) Z (TL.run aa [2] Z Z (TL.nil (X.seq (T.seq (T.seq (T.region Z (TL.run aa [0,1] Z Z ?_)))))))
             rcases jF h with⟨c131,h⟩ | ⟨c131,h⟩
             ·refine TL.nil (X.seq (uK Z (av (wY c131)) (T.skip (X.seq (T.seq (T.region Z (TL.q Z .u (uN (us := [jI x50,jI x53,.bool (decide (((x25 / 8) % 2)=1)),.bool (decide (((x25 / 16) % 2)=1)),.bool (decide ((x25 / 32)=1)),jI x56,jI x59,jI x62,jI x65,jI x68,jI x71,.slice A84 y83.length c85]) 1 Z xA xl Z Z Z) Z (TL.run aa [1] Z Z ?_))))))))
              refine TL.q Z .u (uU (cells:= #[jI x50,jI x53,.bool (decide (((x25 / 8) % 2)=1)),.bool (decide (((x25 / 16) % 2)=1)),.bool (decide ((x25 / 32)=1)),jI x56,jI x59,jI x62,jI x65,jI x68,jI x71,.slice A84 y83.length c85,jI (x8+12),jI 0]) aQ Z (by kernel_rfl)) Z ?_
              refine vg (cs':= #[jI x50,jI x53,.bool (decide (((x25 / 8) % 2)=1)),.bool (decide (((x25 / 16) % 2)=1)),.bool (decide ((x25 / 32)=1)),jI x56,jI x59,jI x62,jI x65,jI x68,jI x71,.slice A84 y83.length c85,jI (x8+12),jI 0]) Z .u Z Z xm Z Z Z Z ?_
              obtain rfl:=xa h
              exact TL.nil (X.seq (T.ret (vt (by decide) 0 Z (uW [0,0,0,0,0] Z (uC [4,0] xK (uT (us:= #[jI x50,jI x53,.bool (decide (((x25 / 8) % 2)=1)),.bool (decide (((x25 / 16) % 2)=1)),.bool (decide ((x25 / 32)=1)),jI x56,jI x59,jI x62,jI x65,jI x68,jI x71,.slice A84 y83.length c85,jI (x8+12),jI 0]) 3 Z xO xm Z Z) ⟨_,_,Z,Z,Z⟩ (by rfl) (.inl Z))))))
             ·refine TL.nil (X.seq (uF Z (aA (wZ c131)) (T.seq (T.region Z ?_))))
              obtain⟨x132,hx135,h⟩:=wX h
              refine TL.run aa [0] Z Z (u0 Z .u (.fn Tryz.call42 Z) (aG x129 _ hx135) (fun _ hs=>(uE _ _)) Z ?_)
              rintro _ _ _ ⟨A133,c134,rfl,rfl,rfl⟩
              refine uM [0,0,0,0,0,0] Z (vx (cs':= #[jI x132.wq.wG,jI x132.wq.wz,.bool x132.wq.wH,.bool x132.wq.wN,.bool x132.wq.wF,jI x132.wq.wE,jI x132.wq.wx,jI x132.wq.wJ,jI x132.wq.ww,jI x132.wq.wA,jI x132.wq.wv,.slice A133 x132.wq.ws.length c134,jI x132.wP,jI x132.wO]) Z .u Z Z xm Z Z Z Z ?_)
              obtain rfl:=xa h
              exact TL.nil (X.seq (T.ret (uH (uC [5,0] xK (uT (us:= #[jI x132.wq.wG,jI x132.wq.wz,.bool x132.wq.wH,.bool x132.wq.wN,.bool x132.wq.wF,jI x132.wq.wE,jI x132.wq.wx,jI x132.wq.wJ,jI x132.wq.ww,jI x132.wq.wA,jI x132.wq.wv,.slice A133 x132.wq.ws.length c134,jI x132.wP,jI x132.wO]) 4 Z xO xm Z Z) ⟨_,_,Z,Z,Z⟩ (by rfl) (.inl Z)))))
           ·rcases jF h with⟨c136,h⟩ | ⟨c136,h⟩
            ·obtain⟨x137,hx138,h⟩:=wX h
             refine uP Z .u (.fn Tryz.call13 Z) (bG (⟨x50,x53,decide (((x25 / 8) % 2)=1),decide (((x25 / 16) % 2)=1),decide ((x25 / 32)=1),x56,x59,x62,x65,x68,x71,y83⟩:Bat) _ _ _ hx138) (fun _ hs=>(vu 0 hs Z (fun w G h=>aN (by decide) w G h))) Z (TL.run aa [2] Z Z (TL.nil (X.seq (T.seq (T.seq (T.region Z (TL.run aa [0,1] Z Z ?_)))))))
             rcases jF h with⟨c139,h⟩ | ⟨c139,h⟩
             ·refine TL.nil (X.seq (uK Z (av (wY c139)) (T.skip (X.seq (T.seq (T.region Z (TL.q Z .u (uN (us := [jI x50,jI x53,.bool (decide (((x25 / 8) % 2)=1)),.bool (decide (((x25 / 16) % 2)=1)),.bool (decide ((x25 / 32)=1)),jI x56,jI x59,jI x62,jI x65,jI x68,jI x71,.slice A84 y83.length c85]) 1 Z xA xl Z Z Z) Z (TL.run aa [1] Z Z ?_))))))))
              refine TL.q Z .u (uU (cells:= #[jI x50,jI x53,.bool (decide (((x25 / 8) % 2)=1)),.bool (decide (((x25 / 16) % 2)=1)),.bool (decide ((x25 / 32)=1)),jI x56,jI x59,jI x62,jI x65,jI x68,jI x71,.slice A84 y83.length c85,jI (x8+12),jI 0]) aQ Z (by kernel_rfl)) Z ?_
              refine vg (cs':= #[jI x50,jI x53,.bool (decide (((x25 / 8) % 2)=1)),.bool (decide (((x25 / 16) % 2)=1)),.bool (decide ((x25 / 32)=1)),jI x56,jI x59,jI x62,jI x65,jI x68,jI x71,.slice A84 y83.length c85,jI (x8+12),jI 0]) Z .u Z Z xm Z Z Z Z ?_
              obtain rfl:=xa h
              exact TL.nil (X.seq (T.ret (vt (by decide) 0 Z (uW [0,0,0,0,0] Z (uC [4,0] xK (uT (us:= #[jI x50,jI x53,.bool (decide (((x25 / 8) % 2)=1)),.bool (decide (((x25 / 16) % 2)=1)),.bool (decide ((x25 / 32)=1)),jI x56,jI x59,jI x62,jI x65,jI x68,jI x71,.slice A84 y83.length c85,jI (x8+12),jI 0]) 3 Z xO xm Z Z) ⟨_,_,Z,Z,Z⟩ (by rfl) (.inl Z))))))
             ·refine TL.nil (X.seq (uF Z (aA (wZ c139)) (T.seq (T.region Z ?_))))
              obtain⟨x140,hx143,h⟩:=wX h
              refine TL.run aa [0] Z Z (u0 Z .u (.fn Tryz.call42 Z) (aG x137 _ hx143) (fun _ hs=>(uE _ _)) Z ?_)
              rintro _ _ _ ⟨A141,c142,rfl,rfl,rfl⟩
              refine uM [0,0,0,0,0,0] Z (vx (cs':= #[jI x140.wq.wG,jI x140.wq.wz,.bool x140.wq.wH,.bool x140.wq.wN,.bool x140.wq.wF,jI x140.wq.wE,jI x140.wq.wx,jI x140.wq.wJ,jI x140.wq.ww,jI x140.wq.wA,jI x140.wq.wv,.slice A141 x140.wq.ws.length c142,jI x140.wP,jI x140.wO]) Z .u Z Z xm Z Z Z Z ?_)
              obtain rfl:=xa h
              exact TL.nil (X.seq (T.ret (uH (uC [5,0] xK (uT (us:= #[jI x140.wq.wG,jI x140.wq.wz,.bool x140.wq.wH,.bool x140.wq.wN,.bool x140.wq.wF,jI x140.wq.wE,jI x140.wq.wx,jI x140.wq.wJ,jI x140.wq.ww,jI x140.wq.wA,jI x140.wq.wv,.slice A141 x140.wq.ws.length c142,jI x140.wP,jI x140.wO]) 4 Z xO xm Z Z) ⟨_,_,Z,Z,Z⟩ (by rfl) (.inl Z)))))
            ·obtain⟨x144,hx145,h⟩:=wX h
             refine uP Z .u (.fn Tryz.call13 Z) (bG (⟨x50,x53,decide (((x25 / 8) % 2)=1),decide (((x25 / 16) % 2)=1),decide ((x25 / 32)=1),x56,x59,x62,x65,x68,x71,y83⟩:Bat) _ _ _ hx145) (fun _ hs=>(vu 0 hs Z (fun w G h=>aN (by decide) w G h))) Z (TL.run aa [2] Z Z (TL.nil (X.seq (T.seq (T.seq (T.region Z (TL.run aa [0,1] Z Z ?_)))))))
             rcases jF h with⟨c146,h⟩ | ⟨c146,h⟩
             ·refine TL.nil (X.seq (uK Z (av (wY c146)) (T.skip (X.seq (T.seq (T.region Z (TL.q Z .u (uN (us := [jI x50,jI x53,.bool (decide (((x25 / 8) % 2)=1)),.bool (decide (((x25 / 16) % 2)=1)),.bool (decide ((x25 / 32)=1)),jI x56,jI x59,jI x62,jI x65,jI x68,jI x71,.slice A84 y83.length c85]) 1 Z xA xl Z Z Z) Z (TL.run aa [1] Z Z ?_))))))))
              refine TL.q Z .u (uU (cells:= #[jI x50,jI x53,.bool (decide (((x25 / 8) % 2)=1)),.bool (decide (((x25 / 16) % 2)=1)),.bool (decide ((x25 / 32)=1)),jI x56,jI x59,jI x62,jI x65,jI x68,jI x71,.slice A84 y83.length c85,jI (x8+12),jI 0]) aQ Z (by kernel_rfl)) Z ?_
              refine vg (cs':= #[jI x50,jI x53,.bool (decide (((x25 / 8) % 2)=1)),.bool (decide (((x25 / 16) % 2)=1)),.bool (decide ((x25 / 32)=1)),jI x56,jI x59,jI x62,jI x65,jI x68,jI x71,.slice A84 y83.length c85,jI (x8+12),jI 0]) Z .u Z Z xm Z Z Z Z ?_
              obtain rfl:=xa h
              exact TL.nil (X.seq (T.ret (vt (by decide) 0 Z (uW [0,0,0,0,0] Z (uC [4,0] xK (uT (us:= #[jI x50,jI x53,.bool (decide (((x25 / 8) % 2)=1)),.bool (decide (((x25 / 16) % 2)=1)),.bool (decide ((x25 / 32)=1)),jI x56,jI x59,jI x62,jI x65,jI x68,jI x71,.slice A84 y83.length c85,jI (x8+12),jI 0]) 3 Z xO xm Z Z) ⟨_,_,Z,Z,Z⟩ (by rfl) (.inl Z))))))
             ·refine TL.nil (X.seq (uF Z (aA (wZ c146)) (T.seq (T.region Z ?_))))
              obtain⟨x147,hx150,h⟩:=wX h
              refine TL.run aa [0] Z Z (u0 Z .u (.fn Tryz.call42 Z) (aG x144 _ hx150) (fun _ hs=>(uE _ _)) Z ?_)
              rintro _ _ _ ⟨A148,c149,rfl,rfl,rfl⟩
              refine uM [0,0,0,0,0,0] Z (vx (cs':= #[jI x147.wq.wG,jI x147.wq.wz,.bool x147.wq.wH,.bool x147.wq.wN,.bool x147.wq.wF,jI x147.wq.wE,jI x147.wq.wx,jI x147.wq.wJ,jI x147.wq.ww,jI x147.wq.wA,jI x147.wq.wv,.slice A148 x147.wq.ws.length c149,jI x147.wP,jI x147.wO]) Z .u Z Z xm Z Z Z Z ?_)
              obtain rfl:=xa h
              exact TL.nil (X.seq (T.ret (uH (uC [5,0] xK (uT (us:= #[jI x147.wq.wG,jI x147.wq.wz,.bool x147.wq.wH,.bool x147.wq.wN,.bool x147.wq.wF,jI x147.wq.wE,jI x147.wq.wx,jI x147.wq.wJ,jI x147.wq.ww,jI x147.wq.wA,jI x147.wq.wv,.slice A148 x147.wq.ws.length c149,jI x147.wP,jI x147.wO]) 4 Z xO xm Z Z) ⟨_,_,Z,Z,Z⟩ (by rfl) (.inl Z)))))
          ·rcases jF h with⟨c151,h⟩ | ⟨c151,h⟩
           ·rcases jF h with⟨c152,h⟩ | ⟨c152,h⟩
            ·obtain⟨x153,hx154,h⟩:=wX h
             refine uP Z .u (.fn Tryz.call13 Z) (bG (⟨x50,x53,decide (((x25 / 8) % 2)=1),decide (((x25 / 16) % 2)=1),decide ((x25 / 32)=1),x56,x59,x62,x65,x68,x71,y83⟩:Bat) _ _ _ hx154) (fun _ hs=>(vu 0 hs Z (fun w G h=>aN (by decide) w G h))) Z (TL.run aa [2] Z Z (TL.nil (X.seq (T.seq (T.seq (T.region Z (TL.run aa [0,1] Z Z ?_)))))))
             rcases jF h with⟨c155,h⟩ | ⟨c155,h⟩
             ·refine TL.nil (X.seq (uK Z (av (wY c155)) (T.skip (X.seq (T.seq (T.region Z (TL.q Z .u (uN (us := [jI x50,jI x53,.bool (decide (((x25 / 8) % 2)=1)),.bool (decide (((x25 / 16) % 2)=1)),.bool (decide ((x25 / 32)=1)),jI x56,jI x59,jI x62,jI x65,jI x68,jI x71,.slice A84 y83.length c85]) 1 Z xA xl Z Z Z) Z (TL.run aa [1] Z Z ?_))))))))
              refine TL.q Z .u (uU (cells:= #[jI x50,jI x53,.bool (decide (((x25 / 8) % 2)=1)),.bool (decide (((x25 / 16) % 2)=1)),.bool (decide ((x25 / 32)=1)),jI x56,jI x59,jI x62,jI x65,jI x68,jI x71,.slice A84 y83.length c85,jI (x8+12),jI 0]) aQ Z (by kernel_rfl)) Z ?_
              refine vg (cs':= #[jI x50,jI x53,.bool (decide (((x25 / 8) % 2)=1)),.bool (decide (((x25 / 16) % 2)=1)),.bool (decide ((x25 / 32)=1)),jI x56,jI x59,jI x62,jI x65,jI x68,jI x71,.slice A84 y83.length c85,jI (x8+12),jI 0]) Z .u Z Z xm Z Z Z Z ?_
              obtain rfl:=xa h
              exact TL.nil (X.seq (T.ret (vt (by decide) 0 Z (uW [0,0,0,0,0] Z (uC [4,0] xK (uT (us:= #[jI x50,jI x53,.bool (decide (((x25 / 8) % 2)=1)),.bool (decide (((x25 / 16) % 2)=1)),.bool (decide ((x25 / 32)=1)),jI x56,jI x59,jI x62,jI x65,jI x68,jI x71,.slice A84 y83.length c85,jI (x8+12),jI 0]) 3 Z xO xm Z Z) ⟨_,_,Z,Z,Z⟩ (by rfl) (.inl Z))))))
             ·refine TL.nil (X.seq (uF Z (aA (wZ c155)) (T.seq (T.region Z ?_))))
              obtain⟨x156,hx159,h⟩:=wX h
              refine TL.run aa [0] Z Z (u0 Z .u (.fn Tryz.call42 Z) (aG x153 _ hx159) (fun _ hs=>(uE _ _)) Z ?_)
              rintro _ _ _ ⟨A157,c158,rfl,rfl,rfl⟩
              refine uM [0,0,0,0,0,0] Z (vx (cs':= #[jI x156.wq.wG,jI x156.wq.wz,.bool x156.wq.wH,.bool x156.wq.wN,.bool x156.wq.wF,jI x156.wq.wE,jI x156.wq.wx,jI x156.wq.wJ,jI x156.wq.ww,jI x156.wq.wA,jI x156.wq.wv,.slice A157 x156.wq.ws.length c158,jI x156.wP,jI x156.wO]) Z .u Z Z xm Z Z Z Z ?_)
              obtain rfl:=xa h
              exact TL.nil (X.seq (T.ret (uH (uC [5,0] xK (uT (us:= #[jI x156.wq.wG,jI x156.wq.wz,.bool x156.wq.wH,.bool x156.wq.wN,.bool x156.wq.wF,jI x156.wq.wE,jI x156.wq.wx,jI x156.wq.wJ,jI x156.wq.ww,jI x156.wq.wA,jI x156.wq.wv,.slice A157 x156.wq.ws.length c158,jI x156.wP,jI x156.wO]) 4 Z xO xm Z Z) ⟨_,_,Z,Z,Z⟩ (by rfl) (.inl Z)))))
            ·obtain⟨x160,hx161,h⟩:=wX h
             refine uP Z .u (.fn Tryz.call13 Z) (bG (⟨x50,x53,decide (((x25 / 8) % 2)=1),decide (((x25 / 16) % 2)=1),decide ((x25 / 32)=1),x56,x59,x62,x65,x68,x71,y83⟩:Bat) _ _ _ hx161) (fun _ hs=>(vu 0 hs Z (fun w G h=>aN (by decide) w G h))) Z (TL.run aa [2] Z Z (TL.nil (X.seq (T.seq (T.seq (T.region Z (TL.run aa [0,1] Z Z ?_)))))))
             rcases jF h with⟨c162,h⟩ | ⟨c162,h⟩
             ·refine TL.nil (X.seq (uK Z (av (wY c162)) (T.skip (X.seq (T.seq (T.region Z (TL.q Z .u (uN (us := [jI x50,jI x53,.bool (decide (((x25 / 8) % 2)=1)),.bool (decide (((x25 / 16) % 2)=1)),.bool (decide ((x25 / 32)=1)),jI x56,jI x59,jI x62,jI x65,jI x68,jI x71,.slice A84 y83.length c85]) 1 Z xA xl Z Z Z) Z (TL.run aa [1] Z Z ?_))))))))
              refine TL.q Z .u (uU (cells:= #[jI x50,jI x53,.bool (decide (((x25 / 8) % 2)=1)),.bool (decide (((x25 / 16) % 2)=1)),.bool (decide ((x25 / 32)=1)),jI x56,jI x59,jI x62,jI x65,jI x68,jI x71,.slice A84 y83.length c85,jI (x8+12),jI 0]) aQ Z (by kernel_rfl)) Z ?_
              refine vg (cs':= #[jI x50,jI x53,.bool (decide (((x25 / 8) % 2)=1)),.bool (decide (((x25 / 16) % 2)=1)),.bool (decide ((x25 / 32)=1)),jI x56,jI x59,jI x62,jI x65,jI x68,jI x71,.slice A84 y83.length c85,jI (x8+12),jI 0]) Z .u Z Z xm Z Z Z Z ?_
              obtain rfl:=xa h
              exact TL.nil (X.seq (T.ret (vt (by decide) 0 Z (uW [0,0,0,0,0] Z (uC [4,0] xK (uT (us:= #[jI x50,jI x53,.bool (decide (((x25 / 8) % 2)=1)),.bool (decide (((x25 / 16) % 2)=1)),.bool (decide ((x25 / 32)=1)),jI x56,jI x59,jI x62,jI x65,jI x68,jI x71,.slice A84 y83.length c85,jI (x8+12),jI 0]) 3 Z xO xm Z Z) ⟨_,_,Z,Z,Z⟩ (by rfl) (.inl Z))))))
             ·refine TL.nil (X.seq (uF Z (aA (wZ c162)) (T.seq (T.region Z ?_))))
              obtain⟨x163,hx166,h⟩:=wX h
              refine TL.run aa [0] Z Z (u0 Z .u (.fn Tryz.call42 Z) (aG x160 _ hx166) (fun _ hs=>(uE _ _)) Z ?_)
              rintro _ _ _ ⟨A164,c165,rfl,rfl,rfl⟩
              refine uM [0,0,0,0,0,0] Z (vx (cs':= #[jI x163.wq.wG,jI x163.wq.wz,.bool x163.wq.wH,.bool x163.wq.wN,.bool x163.wq.wF,jI x163.wq.wE,jI x163.wq.wx,jI x163.wq.wJ,jI x163.wq.ww,jI x163.wq.wA,jI x163.wq.wv,.slice A164 x163.wq.ws.length c165,jI x163.wP,jI x163.wO]) Z .u Z Z xm Z Z Z Z ?_)
              obtain rfl:=xa h
              exact TL.nil (X.seq (T.ret (uH (uC [5,0] xK (uT (us:= #[jI x163.wq.wG,jI x163.wq.wz,.bool x163.wq.wH,.bool x163.wq.wN,.bool x163.wq.wF,jI x163.wq.wE,jI x163.wq.wx,jI x163.wq.wJ,jI x163.wq.ww,jI x163.wq.wA,jI x163.wq.wv,.slice A164 x163.wq.ws.length c165,jI x163.wP,jI x163.wO]) 4 Z xO xm Z Z) ⟨_,_,Z,Z,Z⟩ (by rfl) (.inl Z)))))
           ·rcases jF h with⟨c167,h⟩ | ⟨c167,h⟩
            ·obtain⟨x168,hx169,h⟩:=wX h
             refine uP Z .u (.fn Tryz.call13 Z) (bG (⟨x50,x53,decide (((x25 / 8) % 2)=1),decide (((x25 / 16) % 2)=1),decide ((x25 / 32)=1),x56,x59,x62,x65,x68,x71,y83⟩:Bat) _ _ _ hx169) (fun _ hs=>(vu 0 hs Z (fun w G h=>aN (by decide) w G h))) Z (TL.run aa [2] Z Z (TL.nil (X.seq (T.seq (T.seq (T.region Z (TL.run aa [0,1] Z Z ?_)))))))
             rcases jF h with⟨c170,h⟩ | ⟨c170,h⟩
             ·refine TL.nil (X.seq (uK Z (av (wY c170)) (T.skip (X.seq (T.seq (T.region Z (TL.q Z .u (uN (us := [jI x50,jI x53,.bool (decide (((x25 / 8) % 2)=1)),.bool (decide (((x25 / 16) % 2)=1)),.bool (decide ((x25 / 32)=1)),jI x56,jI x59,jI x62,jI x65,jI x68,jI x71,.slice A84 y83.length c85]) 1 Z xA xl Z Z Z) Z (TL.run aa [1] Z Z ?_))))))))
              refine TL.q Z .u (uU (cells:= #[jI x50,jI x53,.bool (decide (((x25 / 8) % 2)=1)),.bool (decide (((x25 / 16) % 2)=1)),.bool (decide ((x25 / 32)=1)),jI x56,jI x59,jI x62,jI x65,jI x68,jI x71,.slice A84 y83.length c85,jI (x8+12),jI 0]) aQ Z (by kernel_rfl)) Z ?_
              refine vg (cs':= #[jI x50,jI x53,.bool (decide (((x25 / 8) % 2)=1)),.bool (decide (((x25 / 16) % 2)=1)),.bool (decide ((x25 / 32)=1)),jI x56,jI x59,jI x62,jI x65,jI x68,jI x71,.slice A84 y83.length c85,jI (x8+12),jI 0]) Z .u Z Z xm Z Z Z Z ?_
              obtain rfl:=xa h
              exact TL.nil (X.seq (T.ret (vt (by decide) 0 Z (uW [0,0,0,0,0] Z (uC [4,0] xK (uT (us:= #[jI x50,jI x53,.bool (decide (((x25 / 8) % 2)=1)),.bool (decide (((x25 / 16) % 2)=1)),.bool (decide ((x25 / 32)=1)),jI x56,jI x59,jI x62,jI x65,jI x68,jI x71,.slice A84 y83.length c85,jI (x8+12),jI 0]) 3 Z xO xm Z Z) ⟨_,_,Z,Z,Z⟩ (by rfl) (.inl Z))))))
             ·refine TL.nil (X.seq (uF Z (aA (wZ c170)) (T.seq (T.region Z ?_))))
              obtain⟨x171,hx174,h⟩:=wX h
              refine TL.run aa [0] Z Z (u0 Z .u (.fn Tryz.call42 Z) (aG x168 _ hx174) (fun _ hs=>(uE _ _)) Z ?_)
              rintro _ _ _ ⟨A172,c173,rfl,rfl,rfl⟩
              refine uM [0,0,0,0,0,0] Z (vx (cs':= #[jI x171.wq.wG,jI x171.wq.wz,.bool x171.wq.wH,.bool x171.wq.wN,.bool x171.wq.wF,jI x171.wq.wE,jI x171.wq.wx,jI x171.wq.wJ,jI x171.wq.ww,jI x171.wq.wA,jI x171.wq.wv,.slice A172 x171.wq.ws.length c173,jI x171.wP,jI x171.wO]) Z .u Z Z xm Z Z Z Z ?_)
              obtain rfl:=xa h
              exact TL.nil (X.seq (T.ret (uH (uC [5,0] xK (uT (us:= #[jI x171.wq.wG,jI x171.wq.wz,.bool x171.wq.wH,.bool x171.wq.wN,.bool x171.wq.wF,jI x171.wq.wE,jI x171.wq.wx,jI x171.wq.wJ,jI x171.wq.ww,jI x171.wq.wA,jI x171.wq.wv,.slice A172 x171.wq.ws.length c173,jI x171.wP,jI x171.wO]) 4 Z xO xm Z Z) ⟨_,_,Z,Z,Z⟩ (by rfl) (.inl Z)))))
            ·obtain⟨x175,hx176,h⟩:=wX h
             refine uP Z .u (.fn Tryz.call13 Z) (bG (⟨x50,x53,decide (((x25 / 8) % 2)=1),decide (((x25 / 16) % 2)=1),decide ((x25 / 32)=1),x56,x59,x62,x65,x68,x71,y83⟩:Bat) _ _ _ hx176) (fun _ hs=>(vu 0 hs Z (fun w G h=>aN (by decide) w G h))) Z (TL.run aa [2] Z Z (TL.nil (X.seq (T.seq (T.seq (T.region Z (TL.run aa [0,1] Z Z ?_)))))))
             rcases jF h with⟨c177,h⟩ | ⟨c177,h⟩
             ·refine TL.nil (X.seq (uK Z (av (wY c177)) (T.skip (X.seq (T.seq (T.region Z (TL.q Z .u (uN (us := [jI x50,jI x53,.bool (decide (((x25 / 8) % 2)=1)),.bool (decide (((x25 / 16) % 2)=1)),.bool (decide ((x25 / 32)=1)),jI x56,jI x59,jI x62,jI x65,jI x68,jI x71,.slice A84 y83.length c85]) 1 Z xA xl Z Z Z) Z (TL.run aa [1] Z Z ?_))))))))
              refine TL.q Z .u (uU (cells:= #[jI x50,jI x53,.bool (decide (((x25 / 8) % 2)=1)),.bool (decide (((x25 / 16) % 2)=1)),.bool (decide ((x25 / 32)=1)),jI x56,jI x59,jI x62,jI x65,jI x68,jI x71,.slice A84 y83.length c85,jI (x8+12),jI 0]) aQ Z (by kernel_rfl)) Z ?_
              refine vg (cs':= #[jI x50,jI x53,.bool (decide (((x25 / 8) % 2)=1)),.bool (decide (((x25 / 16) % 2)=1)),.bool (decide ((x25 / 32)=1)),jI x56,jI x59,jI x62,jI x65,jI x68,jI x71,.slice A84 y83.length c85,jI (x8+12),jI 0]) Z .u Z Z xm Z Z Z Z ?_
              obtain rfl:=xa h
              exact TL.nil (X.seq (T.ret (vt (by decide) 0 Z (uW [0,0,0,0,0] Z (uC [4,0] xK (uT (us:= #[jI x50,jI x53,.bool (decide (((x25 / 8) % 2)=1)),.bool (decide (((x25 / 16) % 2)=1)),.bool (decide ((x25 / 32)=1)),jI x56,jI x59,jI x62,jI x65,jI x68,jI x71,.slice A84 y83.length c85,jI (x8+12),jI 0]) 3 Z xO xm Z Z) ⟨_,_,Z,Z,Z⟩ (by rfl) (.inl Z))))))
             ·refine TL.nil (X.seq (uF Z (aA (wZ c177)) (T.seq (T.region Z ?_))))
              obtain⟨x178,hx181,h⟩:=wX h
              refine TL.run aa [0] Z Z (u0 Z .u (.fn Tryz.call42 Z) (aG x175 _ hx181) (fun _ hs=>(uE _ _)) Z ?_)
              rintro _ _ _ ⟨A179,c180,rfl,rfl,rfl⟩
              refine uM [0,0,0,0,0,0] Z (vx (cs':= #[jI x178.wq.wG,jI x178.wq.wz,.bool x178.wq.wH,.bool x178.wq.wN,.bool x178.wq.wF,jI x178.wq.wE,jI x178.wq.wx,jI x178.wq.wJ,jI x178.wq.ww,jI x178.wq.wA,jI x178.wq.wv,.slice A179 x178.wq.ws.length c180,jI x178.wP,jI x178.wO]) Z .u Z Z xm Z Z Z Z ?_)
              obtain rfl:=xa h
              exact TL.nil (X.seq (T.ret (uH (uC [5,0] xK (uT (us:= #[jI x178.wq.wG,jI x178.wq.wz,.bool x178.wq.wH,.bool x178.wq.wN,.bool x178.wq.wF,jI x178.wq.wE,jI x178.wq.wx,jI x178.wq.wJ,jI x178.wq.ww,jI x178.wq.wA,jI x178.wq.wv,.slice A179 x178.wq.ws.length c180,jI x178.wP,jI x178.wO]) 4 Z xO xm Z Z) ⟨_,_,Z,Z,Z⟩ (by rfl) (.inl Z)))))
         ·refine TL.nil (X.seq (uF Z (aA (wZ c118)) ?_))
          obtain⟨x182,hx185,h⟩:=wX h
          refine T.seq (T.region Z (u0 Z .u (.fn Tryz.call42 Z) (aG 10 _ hx185) (fun _ hs=>(uE _ _)) Z ?_))
          rintro _ _ _ ⟨A183,c184,rfl,rfl,rfl⟩
          refine uM [0,0,0,0,0,0] Z (vx (cs':= #[jI x182.wq.wG,jI x182.wq.wz,.bool x182.wq.wH,.bool x182.wq.wN,.bool x182.wq.wF,jI x182.wq.wE,jI x182.wq.wx,jI x182.wq.wJ,jI x182.wq.ww,jI x182.wq.wA,jI x182.wq.wv,.slice A183 x182.wq.ws.length c184,jI x182.wP,jI x182.wO]) Z .u Z Z xm Z Z Z Z ?_)
          obtain rfl:=xa h
          exact TL.nil (X.seq (T.ret (uH (uC [5,0] xK (uT (us:= #[jI x182.wq.wG,jI x182.wq.wz,.bool x182.wq.wH,.bool x182.wq.wN,.bool x182.wq.wF,jI x182.wq.wE,jI x182.wq.wx,jI x182.wq.wJ,jI x182.wq.ww,jI x182.wq.wA,jI x182.wq.wv,.slice A183 x182.wq.ws.length c184,jI x182.wP,jI x182.wO]) 4 Z xO xm Z Z) ⟨_,_,Z,Z,Z⟩ (by rfl) (.inl Z)))))
    ·refine TL.nil (X.seq (uF Z (aA (wZ c33)) ?_))
     obtain⟨x259,hx262,h⟩:=wX h
     refine T.seq (T.region Z (u0 Z .u (.fn Tryz.call42 Z) (aG 9 _ hx262) (fun _ hs=>(uE _ _)) Z ?_))
     rintro _ _ _ ⟨A260,c261,rfl,rfl,rfl⟩
     refine uM [0,0,0,0] Z (vB (cs':= #[jI x259.wq.wG,jI x259.wq.wz,.bool x259.wq.wH,.bool x259.wq.wN,.bool x259.wq.wF,jI x259.wq.wE,jI x259.wq.wx,jI x259.wq.wJ,jI x259.wq.ww,jI x259.wq.wA,jI x259.wq.wv,.slice A260 x259.wq.ws.length c261,jI x259.wP,jI x259.wO]) Z .u Z Z xm Z Z Z Z ?_)
     obtain rfl:=xa h
     exact TL.nil (X.seq (T.ret (uH (uC [3,0] xK (uT (us:= #[jI x259.wq.wG,jI x259.wq.wz,.bool x259.wq.wH,.bool x259.wq.wN,.bool x259.wq.wF,jI x259.wq.wE,jI x259.wq.wx,jI x259.wq.wJ,jI x259.wq.ww,jI x259.wq.wA,jI x259.wq.wv,.slice A260 x259.wq.ws.length c261,jI x259.wP,jI x259.wO]) 2 Z xO xm Z Z) ⟨_,_,Z,Z,Z⟩ (by rfl) (.inl Z)))))
   ·refine TD.nil (X.seq (uF Z (aA (wZ c24)) ?_))
    obtain⟨x263,hx266,h⟩:=wX h
    refine T.seq (T.region Z (u0 Z .u (.fn Tryz.call42 Z) (aG 5 _ hx266) (fun _ hs=>(uE _ _)) Z ?_))
    rintro _ _ _ ⟨A264,c265,rfl,rfl,rfl⟩
    refine uM [0,0,0,0] Z (vB (cs':= #[jI x263.wq.wG,jI x263.wq.wz,.bool x263.wq.wH,.bool x263.wq.wN,.bool x263.wq.wF,jI x263.wq.wE,jI x263.wq.wx,jI x263.wq.wJ,jI x263.wq.ww,jI x263.wq.wA,jI x263.wq.wv,.slice A264 x263.wq.ws.length c265,jI x263.wP,jI x263.wO]) Z .u Z Z xm Z Z Z Z ?_)
    obtain rfl:=xa h
    exact TL.nil (X.seq (T.ret (uH (uC [3,0] xK (uT (us:= #[jI x263.wq.wG,jI x263.wq.wz,.bool x263.wq.wH,.bool x263.wq.wN,.bool x263.wq.wF,jI x263.wq.wE,jI x263.wq.wx,jI x263.wq.wJ,jI x263.wq.ww,jI x263.wq.wA,jI x263.wq.wv,.slice A264 x263.wq.ws.length c265,jI x263.wP,jI x263.wO]) 2 Z xO xm Z Z) ⟨_,_,Z,Z,Z⟩ (by rfl) (.inl Z)))))
 ·refine TL.nil (X.seq (uF Z (aA (wZ c7)) (T.seq (T.region Z ?_))))
  obtain⟨x267,hx270,h⟩:=wX h
  refine TL.run aa [0] Z Z (u0 Z .u (.fn Tryz.call42 Z) (aG x5 _ hx270) (fun _ hs=>(uE _ _)) Z ?_)
  rintro _ _ _ ⟨A268,c269,rfl,rfl,rfl⟩
  refine uM [0,0,0,0] Z (vB (cs':= #[jI x267.wq.wG,jI x267.wq.wz,.bool x267.wq.wH,.bool x267.wq.wN,.bool x267.wq.wF,jI x267.wq.wE,jI x267.wq.wx,jI x267.wq.wJ,jI x267.wq.ww,jI x267.wq.wA,jI x267.wq.wv,.slice A268 x267.wq.ws.length c269,jI x267.wP,jI x267.wO]) Z .u Z Z xm Z Z Z Z ?_)
  obtain rfl:=xa h
  exact TL.nil (X.seq (T.ret (uH (uC [3,0] xK (uT (us:= #[jI x267.wq.wG,jI x267.wq.wz,.bool x267.wq.wH,.bool x267.wq.wN,.bool x267.wq.wF,jI x267.wq.wE,jI x267.wq.wx,jI x267.wq.wJ,jI x267.wq.ww,jI x267.wq.wA,jI x267.wq.wv,.slice A268 x267.wq.ws.length c269,jI x267.wP,jI x267.wO]) 2 Z xO xm Z Z) ⟨_,_,Z,Z,Z⟩ (by rfl) (.inl Z)))))
def cA (a0:Bat) (a1:Bat):Nat→Bool→Nat→Option (Lp Bool (Bool×Nat))
 | 0,_,_=>none
 | m38+1,y33,k34=>if (k34:Int)<(a0.ws.length:Int) then ((a0.ws[k34]?).bind fun x43=>(a1.ws[k34]?).bind fun x49=>(fJ x43 x49).bind fun x55=>if x55=true then (if -9223372036854775808≤((k34:Int)+1)∧((k34:Int)+1)≤9223372036854775807 then (cA a0 a1 m38 y33 (k34+1)) else none) else some (Lp.ret false)) else (some (Lp.go (y33,k34)))
def fP (a0:Bat) (a1:Bat):Option (Bool):=(if a0.wG=a1.wG then (if a0.wz=a1.wz then (if (a0.wH == a1.wH)=true then (if (a0.wN == a1.wN)=true then (if (a0.wF == a1.wF)=true then (if a0.wE=a1.wE then (if a0.wx=a1.wx then (if a0.wJ=a1.wJ then (if a0.ww=a1.ww then (if a0.wA=a1.wA then (if a0.wv=a1.wv then (if (a0.ws.length:Int)=(a1.ws.length:Int) then some false else some true) else some true) else some true) else some true) else some true) else some true) else some true) else some true) else some true) else some true) else some true) else some true).bind fun y18=>if y18=true then some false else ((cA a0 a1 (((a0.ws.length:Int)).toNat+1) false 0).bind fun e=>match e with | .ret r=>some r | .go (y59,k60)=>some true)
theorem lq (a0:Bat) (A1:Option Addr) (c2:Nat) (a1:Bat) (A3:Option Addr) (c4:Nat) (r:Bool) (h:fP a0 a1=some r):au Tryz.prog 19 #[.agg #[jI a0.wG,jI a0.wz,.bool a0.wH,.bool a0.wN,.bool a0.wF,jI a0.wE,jI a0.wx,jI a0.wJ,jI a0.ww,jI a0.wA,jI a0.wv,.slice A1 a0.ws.length c2],.agg #[jI a1.wG,jI a1.wz,.bool a1.wH,.bool a1.wN,.bool a1.wF,jI a1.wE,jI a1.wx,jI a1.wJ,jI a1.ww,jI a1.wA,jI a1.wv,.slice A3 a1.ws.length c4]] (RX.and (RX.of (aq 7 bf) [.slice A1 a0.ws.length c2] a0.ws) (RX.of (aq 7 bf) [.slice A3 a1.ws.length c4] a1.ws)) (aw) (fun v A' N=>v= .bool r∧A'=aw∧N = []):=by
 refine aF Tryz.func19 Z Tryz.ntmps19 Z ?_
 intro F w hX
 unfold fP at h
 refine T.seq (T.region Z (TL.box Z .u Z Z (fun b5=>(TL.box Z .u Z Z (fun b6=>(TL.run aa [2] Z Z (TL.nil (X.seq (T.seq (T.seq ?_))))))))))
 obtain⟨y18,h,hk19⟩:=wX h
 refine vF (fun e Rs=>e = [(2,jP b5),(3,jP b6),(4,.bool false),(89,.bool y18)]∧Rs = [aD b6 43 #[jI a1.wG,jI a1.wz,.bool a1.wH,.bool a1.wN,.bool a1.wF,jI a1.wE,jI a1.wx,jI a1.wJ,jI a1.ww,jI a1.wA,jI a1.wv,.slice A3 a1.ws.length c4],aD b5 43 #[jI a0.wG,jI a0.wz,.bool a0.wH,.bool a0.wN,.bool a0.wF,jI a0.wE,jI a0.wx,jI a0.wJ,jI a0.ww,jI a0.wA,jI a0.wv,.slice A1 a0.ws.length c2],aw]) ?_ ?_
 ·clear hk19
  refine T.region Z (TL.run aa [0] Z Z (TL.q Z .u (uB 1 Z xc Z Z) Z (TL.run aa [2] Z Z (TL.q Z .u (uB 0 Z xc Z Z) Z ?_))))
  rcases jF h with⟨c20,h⟩ | ⟨c20,h⟩
  ·refine TL.run aa [4,5] Z Z (TL.q Z (.g Z Z (av (wY c20))) (uI aa Z) Z (TL.q Z (.g Z Z (av (wY c20))) (uB 1 Z xc Z Z) Z (TL.q Z (.g Z Z (av (wY c20))) (uI aa Z) Z (TL.q Z (.g Z Z (av (wY c20))) (uB 0 Z xc Z Z) Z (TL.q Z (.g Z Z (av (wY c20))) (uI aa Z) Z (TL.q Z .u (uL Z (av (wY c20)) Z) Z ?_))))))
   rcases jF h with⟨c21,h⟩ | ⟨c21,h⟩
   ·refine TL.run aa [12] Z Z (TL.q Z (.g Z Z (av (wY c21))) (uI aa Z) Z (TL.q Z (.g Z Z (av (wY c21))) (uB 1 Z xE Z Z) Z (TL.q Z (.g Z Z (av (wY c21))) (uI aa Z) Z (TL.q Z (.g Z Z (av (wY c21))) (uB 0 Z xE Z Z) Z (TL.q Z (.g Z Z (av (wY c21))) (Ex.bNe Z Z Z Z zb) Z (TL.q Z .u (uL Z (av (wY c21)) Z) Z ?_))))))
    rcases jF h with⟨c22,h⟩ | ⟨c22,h⟩
    ·refine TL.run aa [19] Z Z (TL.q Z (.g Z Z (av c22)) (uI aa Z) Z (TL.q Z (.g Z Z (av c22)) (uB 1 Z xE Z Z) Z (TL.q Z (.g Z Z (av c22)) (uI aa Z) Z (TL.q Z (.g Z Z (av c22)) (uB 0 Z xE Z Z) Z (TL.q Z (.g Z Z (av c22)) (Ex.bNe Z Z Z Z zb) Z (TL.q Z .u (uL Z (av c22) Z) Z ?_))))))
     rcases jF h with⟨c23,h⟩ | ⟨c23,h⟩
     ·refine TL.run aa [26] Z Z (TL.q Z (.g Z Z (av c23)) (uI aa Z) Z (TL.q Z (.g Z Z (av c23)) (uB 1 Z xE Z Z) Z (TL.q Z (.g Z Z (av c23)) (uI aa Z) Z (TL.q Z (.g Z Z (av c23)) (uB 0 Z xE Z Z) Z (TL.q Z (.g Z Z (av c23)) (Ex.bNe Z Z Z Z zb) Z (TL.q Z .u (uL Z (av c23) Z) Z ?_))))))
      rcases jF h with⟨c24,h⟩ | ⟨c24,h⟩
      ·refine TL.run aa [33] Z Z (TL.q Z (.g Z Z (av c24)) (uI aa Z) Z (TL.q Z (.g Z Z (av c24)) (uB 1 Z xc Z Z) Z (TL.q Z (.g Z Z (av c24)) (uI aa Z) Z (TL.q Z (.g Z Z (av c24)) (uB 0 Z xc Z Z) Z (TL.q Z (.g Z Z (av c24)) (uI aa Z) Z (TL.q Z .u (uL Z (av c24) Z) Z ?_))))))
       rcases jF h with⟨c25,h⟩ | ⟨c25,h⟩
       ·refine TL.run aa [40] Z Z (TL.q Z (.g Z Z (av (wY c25))) (uI aa Z) Z (TL.q Z (.g Z Z (av (wY c25))) (uB 1 Z xc Z Z) Z (TL.q Z (.g Z Z (av (wY c25))) (uI aa Z) Z (TL.q Z (.g Z Z (av (wY c25))) (uB 0 Z xc Z Z) Z (TL.q Z (.g Z Z (av (wY c25))) (uI aa Z) Z (TL.q Z .u (uL Z (av (wY c25)) Z) Z ?_))))))
        rcases jF h with⟨c26,h⟩ | ⟨c26,h⟩
        ·refine TL.run aa [47] Z Z (TL.q Z (.g Z Z (av (wY c26))) (uI aa Z) Z (TL.q Z (.g Z Z (av (wY c26))) (uB 1 Z xc Z Z) Z (TL.q Z (.g Z Z (av (wY c26))) (uI aa Z) Z (TL.q Z (.g Z Z (av (wY c26))) (uB 0 Z xc Z Z) Z (TL.q Z (.g Z Z (av (wY c26))) (uI aa Z) Z (TL.q Z .u (uL Z (av (wY c26)) Z) Z ?_))))))
         rcases jF h with⟨c27,h⟩ | ⟨c27,h⟩
         ·refine TL.run aa [54] Z Z (TL.q Z (.g Z Z (av (wY c27))) (uI aa Z) Z (TL.q Z (.g Z Z (av (wY c27))) (uB 1 Z xc Z Z) Z (TL.q Z (.g Z Z (av (wY c27))) (uI aa Z) Z (TL.q Z (.g Z Z (av (wY c27))) (uB 0 Z xc Z Z) Z (TL.q Z (.g Z Z (av (wY c27))) (uI aa Z) Z (TL.q Z .u (uL Z (av (wY c27)) Z) Z ?_))))))
          rcases jF h with⟨c28,h⟩ | ⟨c28,h⟩
          ·refine TL.run aa [61] Z Z (TL.q Z (.g Z Z (av (wY c28))) (uI aa Z) Z (TL.q Z (.g Z Z (av (wY c28))) (uB 1 Z xc Z Z) Z (TL.q Z (.g Z Z (av (wY c28))) (uI aa Z) Z (TL.q Z (.g Z Z (av (wY c28))) (uB 0 Z xc Z Z) Z (TL.q Z (.g Z Z (av (wY c28))) (uI aa Z) Z (TL.q Z .u (uL Z (av (wY c28)) Z) Z ?_))))))
           rcases jF h with⟨c29,h⟩ | ⟨c29,h⟩
           ·refine TL.run aa [68] Z Z (TL.q Z (.g Z Z (av (wY c29))) (uI aa Z) Z (TL.q Z (.g Z Z (av (wY c29))) (uB 1 Z xc Z Z) Z (TL.q Z (.g Z Z (av (wY c29))) (uI aa Z) Z (TL.q Z (.g Z Z (av (wY c29))) (uB 0 Z xc Z Z) Z (TL.q Z (.g Z Z (av (wY c29))) (uI aa Z) Z (TL.q Z .u (uL Z (av (wY c29)) Z) Z ?_))))))
            rcases jF h with⟨c30,h⟩ | ⟨c30,h⟩
            ·refine TL.run aa [75] Z Z (TL.q Z (.g Z Z (av (wY c30))) (uI aa Z) Z (TL.q Z (.g Z Z (av (wY c30))) (uB 1 Z xL Z Z) Z (TL.q Z (.g Z Z (av (wY c30))) (uY Z xn) Z (TL.q Z (.g Z Z (av (wY c30))) (uI aa Z) Z (TL.q Z (.g Z Z (av (wY c30))) (uB 0 Z xL Z Z) Z (TL.q Z (.g Z Z (av (wY c30))) (uY Z xn) Z (TL.q Z (.g Z Z (av (wY c30))) (uI aa Z) Z ?_)))))))
             refine TL.q Z .u (uL Z (av (wY c30)) Z) Z ?_
             rcases jF h with⟨c31,h⟩ | ⟨c31,h⟩
             ·cases h
              exact TL.nil (vV (d:=89) (v':= .bool false) Z (congrArg Value.bool (av (wY c31))) (u4 [0,0,0] ⟨Z,Z⟩ (by rfl) (by rfl)))
             ·cases h
              exact TL.nil (vV (d:=89) (v':= .bool true) Z (congrArg Value.bool (aA (wZ c31))) (u4 [0,0,0] ⟨Z,Z⟩ (by rfl) (by rfl)))
            ·refine TL.run aa [75] Z Z ?_
             iterate 7 refine uG Z (.gn Z Z (aA (wZ c30))) Z ?_
             refine TL.q Z .u (uJ Z (aA (wZ c30)) Z) Z ?_
             cases h
             exact TL.nil (u4 [0,0,0] ⟨Z,Z⟩ (by rfl) (by rfl))
           ·refine TL.run aa [68] Z Z ?_
            iterate 5 refine uG Z (.gn Z Z (aA (wZ c29))) Z ?_
            refine TL.q Z .u (uJ Z (aA (wZ c29)) Z) Z (TL.run aa [75] Z Z ?_)
            iterate 7 refine uG Z (.gn Z Z Z) Z ?_
            refine TL.q Z .u (uJ Z Z Z) Z ?_
            cases h
            exact TL.nil (u4 [0,0,0] ⟨Z,Z⟩ (by rfl) (by rfl))
          ·refine TL.run aa [61] Z Z ?_
           iterate 5 refine uG Z (.gn Z Z (aA (wZ c28))) Z ?_
           refine TL.q Z .u (uJ Z (aA (wZ c28)) Z) Z (TL.run aa [68] Z Z ?_)
           iterate 5 refine uG Z (.gn Z Z Z) Z ?_
           refine TL.q Z .u (uJ Z Z Z) Z (TL.run aa [75] Z Z ?_)
           iterate 7 refine uG Z (.gn Z Z Z) Z ?_
           refine TL.q Z .u (uJ Z Z Z) Z ?_
           cases h
           exact TL.nil (u4 [0,0,0] ⟨Z,Z⟩ (by rfl) (by rfl))
         ·refine TL.run aa [54] Z Z ?_
          iterate 5 refine uG Z (.gn Z Z (aA (wZ c27))) Z ?_
          refine TL.q Z .u (uJ Z (aA (wZ c27)) Z) Z (TL.run aa [61] Z Z ?_)
          iterate 5 refine uG Z (.gn Z Z Z) Z ?_
          refine TL.q Z .u (uJ Z Z Z) Z (TL.run aa [68] Z Z ?_)
          iterate 5 refine uG Z (.gn Z Z Z) Z ?_
          refine TL.q Z .u (uJ Z Z Z) Z (TL.run aa [75] Z Z ?_)
          iterate 7 refine uG Z (.gn Z Z Z) Z ?_
          refine TL.q Z .u (uJ Z Z Z) Z ?_
          cases h
          exact TL.nil (u4 [0,0,0] ⟨Z,Z⟩ (by rfl) (by rfl))
        ·refine TL.run aa [47] Z Z ?_
         iterate 5 refine uG Z (.gn Z Z (aA (wZ c26))) Z ?_
         refine TL.q Z .u (uJ Z (aA (wZ c26)) Z) Z (TL.run aa [54] Z Z ?_)
         iterate 5 refine uG Z (.gn Z Z Z) Z ?_
         refine TL.q Z .u (uJ Z Z Z) Z (TL.run aa [61] Z Z ?_)
         iterate 5 refine uG Z (.gn Z Z Z) Z ?_
         refine TL.q Z .u (uJ Z Z Z) Z (TL.run aa [68] Z Z ?_)
         iterate 5 refine uG Z (.gn Z Z Z) Z ?_
         refine TL.q Z .u (uJ Z Z Z) Z (TL.run aa [75] Z Z ?_)
         iterate 7 refine uG Z (.gn Z Z Z) Z ?_
         refine TL.q Z .u (uJ Z Z Z) Z ?_
         cases h
         exact TL.nil (u4 [0,0,0] ⟨Z,Z⟩ (by rfl) (by rfl))
       ·refine TL.run aa [40] Z Z ?_
        iterate 5 refine uG Z (.gn Z Z (aA (wZ c25))) Z ?_
        refine TL.q Z .u (uJ Z (aA (wZ c25)) Z) Z (TL.run aa [47] Z Z ?_)
        iterate 5 refine uG Z (.gn Z Z Z) Z ?_
        refine TL.q Z .u (uJ Z Z Z) Z (TL.run aa [54] Z Z ?_)
        iterate 5 refine uG Z (.gn Z Z Z) Z ?_
        refine TL.q Z .u (uJ Z Z Z) Z (TL.run aa [61] Z Z ?_)
        iterate 5 refine uG Z (.gn Z Z Z) Z ?_
        refine TL.q Z .u (uJ Z Z Z) Z (TL.run aa [68] Z Z ?_)
        iterate 5 refine uG Z (.gn Z Z Z) Z ?_
        refine TL.q Z .u (uJ Z Z Z) Z (TL.run aa [75] Z Z ?_)
        iterate 7 refine uG Z (.gn Z Z Z) Z ?_
        refine TL.q Z .u (uJ Z Z Z) Z ?_
        cases h
        exact TL.nil (u4 [0,0,0] ⟨Z,Z⟩ (by rfl) (by rfl))
      ·replace c24:=xi c24
       refine TL.run aa [33] Z Z ?_
       iterate 5 refine uG Z (.gn Z Z (aA c24)) Z ?_
       refine TL.q Z .u (uJ Z (aA c24) Z) Z (TL.run aa [40] Z Z ?_)
       iterate 5 refine uG Z (.gn Z Z Z) Z ?_
       refine TL.q Z .u (uJ Z Z Z) Z (TL.run aa [47] Z Z ?_)
       iterate 5 refine uG Z (.gn Z Z Z) Z ?_
       refine TL.q Z .u (uJ Z Z Z) Z (TL.run aa [54] Z Z ?_)
       iterate 5 refine uG Z (.gn Z Z Z) Z ?_
       refine TL.q Z .u (uJ Z Z Z) Z (TL.run aa [61] Z Z ?_)
       iterate 5 refine uG Z (.gn Z Z Z) Z ?_
       refine TL.q Z .u (uJ Z Z Z) Z (TL.run aa [68] Z Z ?_)
       iterate 5 refine uG Z (.gn Z Z Z) Z ?_
       refine TL.q Z .u (uJ Z Z Z) Z (TL.run aa [75] Z Z ?_)
       iterate 7 refine uG Z (.gn Z Z Z) Z ?_
       refine TL.q Z .u (uJ Z Z Z) Z ?_
       cases h
       exact TL.nil (u4 [0,0,0] ⟨Z,Z⟩ (by rfl) (by rfl))
     ·replace c23:=xi c23
      refine TL.run aa [26] Z Z ?_
      iterate 5 refine uG Z (.gn Z Z (aA c23)) Z ?_
      refine TL.q Z .u (uJ Z (aA c23) Z) Z (TL.run aa [33] Z Z ?_)
      iterate 5 refine uG Z (.gn Z Z Z) Z ?_
      refine TL.q Z .u (uJ Z Z Z) Z (TL.run aa [40] Z Z ?_)
      iterate 5 refine uG Z (.gn Z Z Z) Z ?_
      refine TL.q Z .u (uJ Z Z Z) Z (TL.run aa [47] Z Z ?_)
      iterate 5 refine uG Z (.gn Z Z Z) Z ?_
      refine TL.q Z .u (uJ Z Z Z) Z (TL.run aa [54] Z Z ?_)
      iterate 5 refine uG Z (.gn Z Z Z) Z ?_
      refine TL.q Z .u (uJ Z Z Z) Z (TL.run aa [61] Z Z ?_)
      iterate 5 refine uG Z (.gn Z Z Z) Z ?_
      refine TL.q Z .u (uJ Z Z Z) Z (TL.run aa [68] Z Z ?_)
      iterate 5 refine uG Z (.gn Z Z Z) Z ?_
      refine TL.q Z .u (uJ Z Z Z) Z (TL.run aa [75] Z Z ?_)
      iterate 7 refine uG Z (.gn Z Z Z) Z ?_
      refine TL.q Z .u (uJ Z Z Z) Z ?_
      cases h
      exact TL.nil (u4 [0,0,0] ⟨Z,Z⟩ (by rfl) (by rfl))
    ·replace c22:=xi c22
     refine TL.run aa [19] Z Z ?_
     iterate 5 refine uG Z (.gn Z Z (aA c22)) Z ?_
     refine TL.q Z .u (uJ Z (aA c22) Z) Z (TL.run aa [26] Z Z ?_)
     iterate 5 refine uG Z (.gn Z Z Z) Z ?_
     refine TL.q Z .u (uJ Z Z Z) Z (TL.run aa [33] Z Z ?_)
     iterate 5 refine uG Z (.gn Z Z Z) Z ?_
     refine TL.q Z .u (uJ Z Z Z) Z (TL.run aa [40] Z Z ?_)
     iterate 5 refine uG Z (.gn Z Z Z) Z ?_
     refine TL.q Z .u (uJ Z Z Z) Z (TL.run aa [47] Z Z ?_)
     iterate 5 refine uG Z (.gn Z Z Z) Z ?_
     refine TL.q Z .u (uJ Z Z Z) Z (TL.run aa [54] Z Z ?_)
     iterate 5 refine uG Z (.gn Z Z Z) Z ?_
     refine TL.q Z .u (uJ Z Z Z) Z (TL.run aa [61] Z Z ?_)
     iterate 5 refine uG Z (.gn Z Z Z) Z ?_
     refine TL.q Z .u (uJ Z Z Z) Z (TL.run aa [68] Z Z ?_)
     iterate 5 refine uG Z (.gn Z Z Z) Z ?_
     refine TL.q Z .u (uJ Z Z Z) Z (TL.run aa [75] Z Z ?_)
     iterate 7 refine uG Z (.gn Z Z Z) Z ?_
     refine TL.q Z .u (uJ Z Z Z) Z ?_
     cases h
     exact TL.nil (u4 [0,0,0] ⟨Z,Z⟩ (by rfl) (by rfl))
   ·refine TL.run aa [12] Z Z ?_
    iterate 5 refine uG Z (.gn Z Z (aA (wZ c21))) Z ?_
    refine TL.q Z .u (uJ Z (aA (wZ c21)) Z) Z (TL.run aa [19] Z Z ?_)
    iterate 5 refine uG Z (.gn Z Z Z) Z ?_
    refine TL.q Z .u (uJ Z Z Z) Z (TL.run aa [26] Z Z ?_)
    iterate 5 refine uG Z (.gn Z Z Z) Z ?_
    refine TL.q Z .u (uJ Z Z Z) Z (TL.run aa [33] Z Z ?_)
    iterate 5 refine uG Z (.gn Z Z Z) Z ?_
    refine TL.q Z .u (uJ Z Z Z) Z (TL.run aa [40] Z Z ?_)
    iterate 5 refine uG Z (.gn Z Z Z) Z ?_
    refine TL.q Z .u (uJ Z Z Z) Z (TL.run aa [47] Z Z ?_)
    iterate 5 refine uG Z (.gn Z Z Z) Z ?_
    refine TL.q Z .u (uJ Z Z Z) Z (TL.run aa [54] Z Z ?_)
    iterate 5 refine uG Z (.gn Z Z Z) Z ?_
    refine TL.q Z .u (uJ Z Z Z) Z (TL.run aa [61] Z Z ?_)
    iterate 5 refine uG Z (.gn Z Z Z) Z ?_
    refine TL.q Z .u (uJ Z Z Z) Z (TL.run aa [68] Z Z ?_)
    iterate 5 refine uG Z (.gn Z Z Z) Z ?_
    refine TL.q Z .u (uJ Z Z Z) Z (TL.run aa [75] Z Z ?_)
    iterate 7 refine uG Z (.gn Z Z Z) Z ?_
    refine TL.q Z .u (uJ Z Z Z) Z ?_
    cases h
    exact TL.nil (u4 [0,0,0] ⟨Z,Z⟩ (by rfl) (by rfl))
  ·refine TL.run aa [4,5] Z Z ?_
   iterate 5 refine uG Z (.gn Z Z (aA (wZ c20))) Z ?_
   refine TL.q Z .u (uJ Z (aA (wZ c20)) Z) Z (TL.run aa [12] Z Z ?_)
   iterate 5 refine uG Z (.gn Z Z Z) Z ?_
   refine TL.q Z .u (uJ Z Z Z) Z (TL.run aa [19] Z Z ?_)
   iterate 5 refine uG Z (.gn Z Z Z) Z ?_
   refine TL.q Z .u (uJ Z Z Z) Z (TL.run aa [26] Z Z ?_)
   iterate 5 refine uG Z (.gn Z Z Z) Z ?_
   refine TL.q Z .u (uJ Z Z Z) Z (TL.run aa [33] Z Z ?_)
   iterate 5 refine uG Z (.gn Z Z Z) Z ?_
   refine TL.q Z .u (uJ Z Z Z) Z (TL.run aa [40] Z Z ?_)
   iterate 5 refine uG Z (.gn Z Z Z) Z ?_
   refine TL.q Z .u (uJ Z Z Z) Z (TL.run aa [47] Z Z ?_)
   iterate 5 refine uG Z (.gn Z Z Z) Z ?_
   refine TL.q Z .u (uJ Z Z Z) Z (TL.run aa [54] Z Z ?_)
   iterate 5 refine uG Z (.gn Z Z Z) Z ?_
   refine TL.q Z .u (uJ Z Z Z) Z (TL.run aa [61] Z Z ?_)
   iterate 5 refine uG Z (.gn Z Z Z) Z ?_
   refine TL.q Z .u (uJ Z Z Z) Z (TL.run aa [68] Z Z ?_)
   iterate 5 refine uG Z (.gn Z Z Z) Z ?_
   refine TL.q Z .u (uJ Z Z Z) Z (TL.run aa [75] Z Z ?_)
   iterate 7 refine uG Z (.gn Z Z Z) Z ?_
   refine TL.q Z .u (uJ Z Z Z) Z ?_
   cases h
   exact TL.nil (u4 [0,0,0] ⟨Z,Z⟩ (by rfl) (by rfl))
 ·rintro _ _ ⟨rfl,rfl⟩
  clear h
  have h:=hk19
  clear hk19
  try dsimp only at h
  rcases jF h with⟨c32,h⟩ | ⟨c32,h⟩
  ·refine X.seq (uF Z c32 (T.seq (T.region Z (TL.run aa [0] Z Z ?_))))
   obtain rfl:=xa h
   exact TL.nil (X.seq (T.ret (uH (uC [2] Tryz.results19 (uD Z) ⟨Z,Z,Z⟩ (by rfl) (.inl Z)))))
  ·replace c32:=xi c32
   refine X.seq (uK Z c32 (T.skip (X.seq (T.seq (T.seq (T.region Z (TL.run aa [0] Z Z (TL.nil (X.seq (T.block ?_))))))))))
   obtain⟨E35,hE36,hO37⟩:=wX h
   refine vo (fun m e Rs=> ∃ (y33:Bool) (k34:Nat),e = [(2,jP b5),(3,jP b6),(4,.bool y33),(5,jI (k34:Int))]∧Rs = [aD b6 43 #[jI a1.wG,jI a1.wz,.bool a1.wH,.bool a1.wN,.bool a1.wF,jI a1.wE,jI a1.wx,jI a1.wJ,jI a1.ww,jI a1.wA,jI a1.wv,.slice A3 a1.ws.length c4],aD b5 43 #[jI a0.wG,jI a0.wz,.bool a0.wH,.bool a0.wN,.bool a0.wF,jI a0.wE,jI a0.wx,jI a0.wJ,jI a0.ww,jI a0.wA,jI a0.wv,.slice A1 a0.ws.length c2],aw]∧cA a0 a1 m y33 k34=some E35) (((a0.ws.length:Int)).toNat+1) [0,0,0] ⟨false,0,Z,Z,by exact hE36⟩ (by rfl) (by rfl) ?_
   rintro m38 _ _ ⟨y33,k34,rfl,rfl,hl40⟩
   clear hE36 h
   cases m38 with
   | zero =>
    rw[cA] at hl40
    cases hl40
   | succ m38 =>
    have h:=hl40
    clear hl40
    rw[cA] at h
    refine T.seq (T.seq (T.region Z (TL.run aa [0,1] Z Z (TL.q Z .u (uB 1 Z xL Z Z) Z (TL.q Z .u (uY Z xn) Z (TL.run aa [4] Z Z ?_))))))
    rcases jF h with⟨c42,h⟩ | ⟨c42,h⟩
    ·refine TL.nil (X.seq (uF Z (wY c42) ?_))
     refine T.skip (X.seq (T.seq (T.block (T.seq (uZ (.q 0 (.q 1 (.q 2 (.q 3 (.q 4 (.q 5 (.q 6 (.q 7 (.q 8 (.q 9 (.e 10 (.q 11 .nil)))))))))))) [0,0,0] Z cW (NoP.seq (NoP.blk (NoP.seq (NoP.seq (NoP.blk (NoP.seq aI)))))) (by kernel_rfl) ?_)))))
     refine TD.run aa [0] Z Z (TD.q Z .u (uB 1 Z xL Z Z) Z ?_)
     obtain⟨x43,hx44,h⟩:=wX h
     obtain⟨gz45,oz45,rfl,z45cs,z45cl,z45cc,z45nf,z45r⟩:=vh (by decide) (vY hX) hx44
     obtain⟨z45S,z45r,z45rr⟩:=z45r
     obtain⟨A46,c47,rfl,z45s0⟩:=z45r
     have hX48:(RX.of (aq 3 aP) [.slice A46 x43.wy.length c47] x43.wy).reads w F:=⟨z45S,z45s0,z45rr⟩
     refine TD.run aa [2] Z Z ?_
     refine TD.q Z .u (uV (k:=k34) Z Z Z xn xk (xd hx44).1) Z ?_
     refine TD.q Z .u (vA (us := [jI x43.wK,jI x43.wD,.bool x43.wC.null,jS x43.wC.data,.bool x43.wt.null,jS x43.wt.data,.slice A46 x43.wy.length c47]) 0 Z xF xk z45nf z45cc Z Z Z) Z (TD.run aa [5] Z Z (TD.q Z .u (uB 0 Z xL Z Z) Z ?_))
     obtain⟨x49,hx50,h⟩:=wX h
     obtain⟨gz51,oz51,rfl,z51cs,z51cl,z51cc,z51nf,z51r⟩:=vh (by decide) (vS hX) hx50
     obtain⟨z51S,z51r,z51rr⟩:=z51r
     obtain⟨A52,c53,rfl,z51s0⟩:=z51r
     have hX54:(RX.of (aq 3 aP) [.slice A52 x49.wy.length c53] x49.wy).reads w F:=⟨z51S,z51s0,z51rr⟩
     refine TD.run aa [7] Z Z ?_
     refine TD.q Z .u (uV (k:=k34) Z Z Z xn xk (xd hx50).1) Z ?_
     refine TD.q Z .u (vA (us := [jI x49.wK,jI x49.wD,.bool x49.wC.null,jS x49.wC.data,.bool x49.wt.null,jS x49.wt.data,.slice A52 x49.wy.length c53]) 0 Z xF xk z51nf z51cc Z Z Z) Z ?_
     obtain⟨x55,hx56,h⟩:=wX h
     refine v6 Z .u (.fn Tryz.call45 Z) (ll x43 _ _ x49 _ _ _ hx56) (fun _ hs=>(v8 (vb hs hX48) (vb hs hX54))) Z [0,0,0] (Z) (TD.run aa [11] Z Z ?_)
     rcases jF h with⟨c57,h⟩ | ⟨c57,h⟩
     ·refine TD.nil (X.seq (uK Z (av c57) (T.skip (uQ (X.seq (T.region Z ?_))))))
      replace h:=ak h
      obtain⟨c58,h⟩:=h
      exact TL.run aa [0] Z Z (TL.q Z .u (Ex.add Z Z c58) Z (TL.run aa [2] Z Z (TL.nil (X.back (m':=m38) [0,0,0] (by omega) ⟨y33,k34+1,Z,Z,h⟩ (by rfl) (by rfl)))))
     ·replace c57:=xi c57
      refine TD.nil (X.seq (uF Z (aA c57) (T.seq (T.region Z (TL.run aa [0] Z Z ?_)))))
      obtain rfl:=xa h
      replace h:=hO37
      clear hO37
      try dsimp only at h
      obtain rfl:=xa h
      exact TL.nil (X.seq (T.ret (uS (uH (uH (uS (uH (uC [2] Tryz.results19 (uD Z) ⟨Z,Z,Z⟩ (by rfl) (.inl Z)))))))))
    ·refine TL.nil (X.seq (uK Z (wZ c42) ?_))
     obtain rfl:=xa h
     replace h:=hO37
     clear hO37
     try dsimp only at h
     refine T.exit (uR (uR (vn (X.seq (T.seq (T.region Z (TL.run aa [0] Z Z ?_)))))))
     obtain rfl:=xa h
     exact TL.nil (X.seq (T.ret (uC [2] Tryz.results19 (uD Z) ⟨Z,Z,Z⟩ (by rfl) (.inl Z))))
def cB (a0:List Bat) (a1:List Bat):Nat→Bool→Nat→Option (Lp Bool (Bool×Nat))
 | 0,_,_=>none
 | m11+1,y6,k7=>if (k7:Int)<(a0.length:Int) then ((a0[k7]?).bind fun x16=>(a1[k7]?).bind fun x22=>(fP x16 x22).bind fun x28=>if x28=true then (if -9223372036854775808≤((k7:Int)+1)∧((k7:Int)+1)≤9223372036854775807 then (cB a0 a1 m11 y6 (k7+1)) else none) else some (Lp.ret false)) else (some (Lp.go (y6,k7)))
def es (a0:List Bat) (a1:List Bat):Option (Bool):=if (a0.length:Int)=(a1.length:Int) then ((cB a0 a1 (((a0.length:Int)).toNat+1) false 0).bind fun e=>match e with | .ret r=>some r | .go (y32,k33)=>some true) else some false
theorem ls (a0:List Bat) (A1:Option Addr) (c2:Nat) (a1:List Bat) (A3:Option Addr) (c4:Nat) (r:Bool) (h:es a0 a1=some r):au Tryz.prog 9 #[.slice A1 a0.length c2,.slice A3 a1.length c4] (RX.and (RX.of (aq 12 cE) [.slice A1 a0.length c2] a0) (RX.of (aq 12 cE) [.slice A3 a1.length c4] a1)) (aw) (fun v A' N=>v= .bool r∧A'=aw∧N = []):=by
 refine aF Tryz.func9 Z Tryz.ntmps9 Z ?_
 intro F w hX
 unfold es at h
 refine T.seq (T.region Z (TL.run aa [0] Z Z (TL.nil (X.seq (T.seq (T.seq (T.region Z (TL.run aa [0] Z Z (TL.q Z .u (uY Z xU) Z (TL.run aa [2] Z Z (TL.q Z .u (uY Z xU) Z (TL.run aa [4] Z Z ?_))))))))))))
 rcases jF h with⟨c5,h⟩ | ⟨c5,h⟩
 ·refine TL.nil (X.seq (uK Z (av (wY c5)) (T.skip (X.seq (T.seq (T.seq (T.region Z (TL.run aa [0] Z Z (TL.nil (X.seq (T.block ?_)))))))))))
  obtain⟨E8,hE9,hO10⟩:=wX h
  refine vo (fun m e Rs=> ∃ (y6:Bool) (k7:Nat),e = [(0,.slice A1 a0.length c2),(1,.slice A3 a1.length c4),(4,.bool y6),(5,jI (k7:Int))]∧Rs = [aw]∧cB a0 a1 m y6 k7=some E8) (((a0.length:Int)).toNat+1) [0] ⟨false,0,Z,Z,by exact hE9⟩ (by rfl) (by rfl) ?_
  rintro m11 _ _ ⟨y6,k7,rfl,rfl,hl13⟩
  clear hE9 h
  cases m11 with
  | zero =>
   rw[cB] at hl13
   cases hl13
  | succ m11 =>
   have h:=hl13
   clear hl13
   rw[cB] at h
   refine T.seq (T.seq (T.region Z (TL.run aa [0,1] Z Z (TL.q Z .u (uY Z xU) Z (TL.run aa [3] Z Z ?_)))))
   rcases jF h with⟨c15,h⟩ | ⟨c15,h⟩
   ·refine TL.nil (X.seq (uF Z (wY c15) ?_))
    refine T.skip (X.seq (T.seq (T.block (T.seq (uZ (.q 0 (.q 1 (.q 2 (.q 3 (.q 4 (.q 5 (.q 6 (.q 7 (.e 8 (.q 9 .nil)))))))))) [0] Z cW (NoP.seq (NoP.blk (NoP.seq (NoP.seq (NoP.blk (NoP.seq aI)))))) (by kernel_rfl) ?_)))))
    obtain⟨x16,hx17,h⟩:=wX h
    obtain⟨gz18,oz18,rfl,z18cs,z18cl,z18cc,z18nf,z18r⟩:=vh (by decide) (vY hX) hx17
    obtain⟨z18S,z18r,z18rr⟩:=z18r
    obtain⟨A19,c20,rfl,z18s0⟩:=z18r
    have hX21:(RX.of (aq 7 bf) [.slice A19 x16.ws.length c20] x16.ws).reads w F:=⟨z18S,z18s0,z18rr⟩
    refine TD.run aa [0,1] Z Z ?_
    refine TD.q Z .u (uV (k:=k7) Z Z Z xU xl (xd hx17).1) Z ?_
    refine TD.q Z .u (vA (us := [jI x16.wG,jI x16.wz,.bool x16.wH,.bool x16.wN,.bool x16.wF,jI x16.wE,jI x16.wx,jI x16.wJ,jI x16.ww,jI x16.wA,jI x16.wv,.slice A19 x16.ws.length c20]) 0 Z xA xl z18nf z18cc Z Z Z) Z ?_
    obtain⟨x22,hx23,h⟩:=wX h
    obtain⟨gz24,oz24,rfl,z24cs,z24cl,z24cc,z24nf,z24r⟩:=vh (by decide) (vS hX) hx23
    obtain⟨z24S,z24r,z24rr⟩:=z24r
    obtain⟨A25,c26,rfl,z24s0⟩:=z24r
    have hX27:(RX.of (aq 7 bf) [.slice A25 x22.ws.length c26] x22.ws).reads w F:=⟨z24S,z24s0,z24rr⟩
    refine TD.run aa [4,5] Z Z ?_
    refine TD.q Z .u (uV (k:=k7) Z Z Z xU xl (xd hx23).1) Z ?_
    refine TD.q Z .u (vA (us := [jI x22.wG,jI x22.wz,.bool x22.wH,.bool x22.wN,.bool x22.wF,jI x22.wE,jI x22.wx,jI x22.wJ,jI x22.ww,jI x22.wA,jI x22.wv,.slice A25 x22.ws.length c26]) 0 Z xA xl z24nf z24cc Z Z Z) Z ?_
    obtain⟨x28,hx29,h⟩:=wX h
    refine v6 Z .u (.fn Tryz.call19 Z) (lq x16 _ _ x22 _ _ _ hx29) (fun _ hs=>(v8 (vb hs hX21) (vb hs hX27))) Z [0] (Z) (TD.run aa [9] Z Z ?_)
    rcases jF h with⟨c30,h⟩ | ⟨c30,h⟩
    ·refine TD.nil (X.seq (uK Z (av c30) (T.skip (uQ (X.seq (T.region Z ?_))))))
     replace h:=ak h
     obtain⟨c31,h⟩:=h
     exact TL.run aa [0] Z Z (TL.q Z .u (Ex.add Z Z c31) Z (TL.run aa [2] Z Z (TL.nil (X.back (m':=m11) [0] (by omega) ⟨y6,k7+1,Z,Z,h⟩ (by rfl) (by rfl)))))
    ·replace c30:=xi c30
     refine TD.nil (X.seq (uF Z (aA c30) (T.seq (T.region Z (TL.run aa [0] Z Z ?_)))))
     obtain rfl:=xa h
     replace h:=hO10
     clear hO10
     try dsimp only at h
     obtain rfl:=xa h
     exact TL.nil (X.seq (T.ret (uS (uH (uH (uS (uH (uC [0] Tryz.results9 (uD Z) ⟨Z,Z,Z⟩ (by rfl) (.inl Z)))))))))
   ·refine TL.nil (X.seq (uK Z (wZ c15) ?_))
    obtain rfl:=xa h
    replace h:=hO10
    clear hO10
    try dsimp only at h
    refine T.exit (uR (uR (vn (X.seq (T.seq (T.region Z (TL.run aa [0] Z Z ?_)))))))
    obtain rfl:=xa h
    exact TL.nil (X.seq (T.ret (uC [0] Tryz.results9 (uD Z) ⟨Z,Z,Z⟩ (by rfl) (.inl Z))))
 ·refine TL.nil (X.seq (uF Z (aA (wZ c5)) (T.seq (T.region Z (TL.run aa [0] Z Z ?_)))))
  obtain rfl:=xa h
  exact TL.nil (X.seq (T.ret (uH (uC [0] Tryz.results9 (uD Z) ⟨Z,Z,Z⟩ (by rfl) (.inl Z)))))
end Go.Proofs.YtahjmpipllajcaaGreat.Sl
