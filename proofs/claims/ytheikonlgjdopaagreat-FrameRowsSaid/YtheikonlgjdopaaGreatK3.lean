/- frameRows_holds: part 3. -/
import Derived.Test.YtheikonlgjdopaaGreatK2
set_option maxRecDepth 100000
set_option maxHeartbeats 4000000
set_option linter.defProp false
namespace Go.Proofs.YtheikonlgjdopaaGreat.Sl
open Go.RowKit
set_option linter.unusedVariables false
set_option linter.unusedSimpArgs false
def KZ := @Tryz.results103
def Le := @Tryz.results109
def Lq := @Tryz.sizeOf47
def Lr := @Tryz.runUnderlying47
def LA := @Tryz.results56
def LE := @Tryz.runUnderlying45
def LJ := @Tryz.results53
def L0 := @Tryz.results160
def Ma := @Tryz.results54
def Mk := @Tryz.results105
def Ms := @Tryz.isAgg47
def MC := @Tryz.runUnderlying268
def MI := @Tryz.results113
def MJ := @Tryz.results104
def MT := @Tryz.results66
def rY:eP := [(23,0,0),(23,1,1),(171,0,0),(171,1,1),(212,0,0),(212,1,2),(212,2,3)]
theorem ae:(rY).OK Tryz.prog:=⟨FOK.mk Kf rfl Kr rfl,FOK.mk Kf rfl Kk rfl,FOK.mk K4 rfl Kk rfl,FOK.mk K4 rfl LF rfl,FOK.mk Kw rfl J2 rfl,FOK.mk Kw rfl JX rfl,FOK.mk Kw rfl JX rfl,trivial⟩
theorem gO:Tryz.prog.follows .mixedOrders=true:=by kernel_rfl
def ci (a0:List UInt8) (a1:List UInt8):Nat→Bool→Nat→Option (Lp Bool (Bool×Nat))
 | 0,_,_=>none
 | m6+1,y1,k2=>if (k2:Int)<(a0.length:Int) then (if (k2:Int)<(a1.length:Int) then ((a0[k2]?).bind fun ch12=>(a1[k2]?).bind fun ch14=>if (ch12.toNat:Int)=(ch14.toNat:Int) then (if -9223372036854775808≤((k2:Int)+1)∧((k2:Int)+1)≤9223372036854775807 then (ci a0 a1 m6 y1 (k2+1)) else none) else (if (ch12.toNat:Int)<(ch14.toNat:Int) then some (Lp.ret true) else some (Lp.ret false))) else (some (Lp.go (y1,k2)))) else (some (Lp.go (y1,k2)))
def gW (a0:List UInt8) (a1:List UInt8):Option (Bool):=(ci a0 a1 (((a1.length:Int)).toNat+1) false 0).bind fun e=>match e with | .ret r=>some r | .go (y21,k22)=>(if (a0.length:Int)<(a1.length:Int) then some true else some false)
theorem tw (a0:List UInt8) (a1:List UInt8) (r:Bool) (h:gW a0 a1=some r):aE Tryz.prog 160 #[jS a0,jS a1] .triv (aO) (fun v A' N=>v= .bool r∧A'=aO∧N = []):=by
 refine aU Tryz.func160 Z Tryz.ntmps160 Z ?_
 intro F w hX
 unfold gW at h
 refine GC Z (GK ae Z (T.seq (GC Z (GK ae Z (T.block ?_)))))
 obtain⟨E3,hE4,hO5⟩:=JO h
 refine Hv (fun m e Rs=> ∃ (y1:Bool) (k2:Nat),e = [(0,jS a0),(1,jS a1),(4,.bool y1),(5,jI (k2:Int))]∧Rs = [aO]∧ci a0 a1 m y1 k2=some E3) (((a1.length:Int)).toNat+1) [0] ⟨false,0,Z,Z,by exact hE4⟩ (by rfl) (by rfl) ?_
 clear hE4 h
 rintro m6 _ _ ⟨y1,k2,rfl,rfl,h⟩
 cases m6 with
 | zero =>
  rw[ci] at h
  cases h
 | succ m6 =>
  rw[ci] at h
  refine T.seq (GC Z (GB ae 2 Z (GE Z (Hw Z J3) Z ?_)))
  rcases jF h with⟨c10,h⟩ | ⟨c10,h⟩
  ·refine GB ae 2 Z (GI 10 Z (JS c10) (GJ ae 2 Z (TL.q Z (.g Z Z Z) (Hw Z J3) Z (GJ ae 2 Z ?_))))
   rcases jF h with⟨c11,h⟩ | ⟨c11,h⟩
   ·refine G9 Z c11 ?_
    refine GW (T.seq (T.block (T.seq (Hp (.q 0 (.q 1 (.q 2 (.q 3 (.q 4 (.q 5 (.q 6 .nil))))))) [0] Z gO (NoP.seq (NoP.blk (NoP.seq (NoP.seq (NoP.blk (NoP.seq bA)))))) (by kernel_rfl) ?_))))
    obtain⟨ch12,hc13,h⟩:=JO h
    refine TD.run ae [0,1] Z Z (GM Z (Ex.sIx Z Z Z Tryz.underlying9 hc13) Z ?_)
    obtain⟨ch14,hc15,h⟩:=JO h
    refine TD.run ae [3,4] Z Z (GM Z (Ex.sIx Z Z Z Tryz.underlying9 hc15) Z (TD.run ae [6] Z Z ?_))
    rcases jF h with⟨c16,h⟩ | ⟨c16,h⟩
    ·refine HX (T.nn Z c16 (T.skip (GX (X.seq (T.region Z ?_)))))
     obtain⟨c17,h⟩:=ay h
     exact GB ae 1 Z (GE Z (Ex.add Z Z c17) Z (GB ae 1 Z (TL.nil (X.back (m':=m6) [0] (by omega) ⟨y1,k2+1,Z,Z,h⟩ (by rfl) (by rfl)))))
    refine HX (T.yn Z c16 ?_)
    refine T.seq (Hp (.q 0 (.q 1 (.q 2 (.q 3 (.q 4 (.q 5 (.q 6 (.q 7 .nil)))))))) [0] Z gO (NoP.seq (NoP.blk (NoP.seq (NoP.seq (NoP.blk (NoP.seq bA)))))) (by kernel_rfl) ?_)
    refine TD.run ae [0,1] Z Z (GM Z (Ex.sIx Z Z Z Tryz.underlying9 hc13) Z (TD.run ae [3,4] Z Z (GM Z (Ex.sIx Z Z Z Tryz.underlying9 hc15) Z (TD.run ae [6,7] Z Z ?_))))
    rcases jF h with⟨c18,h⟩ | ⟨c18,h⟩
    ·obtain rfl:=JP h
     obtain rfl:=JP hO5
     exact HX (T.ret (GN (GH (GH (GN (GH (G8 [0] L0 (GF (v:= .bool true) (congrArg (fun b=>some (Value.bool b)) (JS c18))) ⟨Z,Z,Z⟩ (by rfl) (.inl Z))))))))
    obtain rfl:=JP h
    obtain rfl:=JP hO5
    exact HX (T.ret (GN (GH (GH (GN (GH (G8 [0] L0 (GF (v:= .bool false) (congrArg (fun b=>some (Value.bool b)) (JT c18))) ⟨Z,Z,Z⟩ (by rfl) (.inl Z))))))))
   refine Ha Z c11 ?_
   obtain rfl:=JP h
   replace h:=hO5
   clear hO5
   try dsimp only at h
   refine T.exit (GT (GT (Hu (X.seq (GC Z (GB ae 1 Z (GE Z (Hw Z J3) Z (GB ae 1 Z (GE Z (Hw Z J3) Z (GB ae 2 Z ?_))))))))))
   rcases jF h with⟨c19,h⟩ | ⟨c19,h⟩
   ·obtain rfl:=JP h
    exact GD (T.ret (G8 [0] L0 (GF (v:= .bool true) (congrArg (fun b=>some (Value.bool b)) (JS c19))) ⟨Z,Z,Z⟩ (by rfl) (.inl Z)))
   obtain rfl:=JP h
   exact GD (T.ret (G8 [0] L0 (GF (v:= .bool false) (congrArg (fun b=>some (Value.bool b)) (JT c19))) ⟨Z,Z,Z⟩ (by rfl) (.inl Z)))
  refine GB ae 2 Z (GI 10 Z (JT c10) (Hk ae Z (G7 Z Z ?_)))
  obtain rfl:=JP h
  replace h:=hO5
  clear hO5
  try dsimp only at h
  refine T.exit (GT (GT (Hu (X.seq (GC Z (GB ae 1 Z (GE Z (Hw Z J3) Z (GB ae 1 Z (GE Z (Hw Z J3) Z (GB ae 2 Z ?_))))))))))
  rcases jF h with⟨c20,h⟩ | ⟨c20,h⟩
  ·obtain rfl:=JP h
   exact GD (T.ret (G8 [0] L0 (GF (v:= .bool true) (congrArg (fun b=>some (Value.bool b)) (JS c20))) ⟨Z,Z,Z⟩ (by rfl) (.inl Z)))
  obtain rfl:=JP h
  exact GD (T.ret (G8 [0] L0 (GF (v:= .bool false) (congrArg (fun b=>some (Value.bool b)) (JT c20))) ⟨Z,Z,Z⟩ (by rfl) (.inl Z)))
def cj (x13:Top):Nat→Bool→Nat→Option (Lp Bool (Bool×Nat))
 | 0,_,_=>none
 | m39+1,y34,k35=>if (k35:Int)<(x13.I7.length:Int) then ((x13.I7[k35]?).bind fun x44=>if x44<0 then some (Lp.ret false) else (if x44>2147483647 then some (Lp.ret false) else (if (k35:Int)>0 then (if -9223372036854775808≤((k35:Int) - 1)∧((k35:Int) - 1)≤9223372036854775807 then (if 0≤((k35:Int) - 1) then ((x13.I7[((k35:Int) - 1).toNat]?).bind fun x52=>if x52≥x44 then some (Lp.ret false) else (if -9223372036854775808≤((k35:Int)+1)∧((k35:Int)+1)≤9223372036854775807 then (cj x13 m39 y34 (k35+1)) else none)) else none) else none) else (if -9223372036854775808≤((k35:Int)+1)∧((k35:Int)+1)≤9223372036854775807 then (cj x13 m39 y34 (k35+1)) else none)))) else (some (Lp.go (y34,k35)))
def eA (x13:Top):Nat→Bool→Nat→Option (Lp Bool (Bool×Nat))
 | 0,_,_=>none
 | m67+1,y62,k63=>if (k63:Int)<(x13.I7.length:Int) then ((x13.I7[k63]?).bind fun x72=>if x72<0 then some (Lp.ret false) else (if x72>2147483647 then some (Lp.ret false) else (if (k63:Int)>0 then (if -9223372036854775808≤((k63:Int) - 1)∧((k63:Int) - 1)≤9223372036854775807 then (if 0≤((k63:Int) - 1) then ((x13.I7[((k63:Int) - 1).toNat]?).bind fun x80=>if x80≥x72 then some (Lp.ret false) else (if -9223372036854775808≤((k63:Int)+1)∧((k63:Int)+1)≤9223372036854775807 then (eA x13 m67 y62 (k63+1)) else none)) else none) else none) else (if -9223372036854775808≤((k63:Int)+1)∧((k63:Int)+1)≤9223372036854775807 then (eA x13 m67 y62 (k63+1)) else none)))) else (some (Lp.go (y62,k63)))
def cv (a0:List Top):Nat→Bool→Nat→Option (Lp Bool (Bool×Nat))
 | 0,_,_=>none
 | m8+1,y3,k4=>if (k4:Int)<(a0.length:Int) then ((a0[k4]?).bind fun x13=>if (x13.Jd.length:Int)<1 then some (Lp.ret false) else (if (x13.Jd.length:Int)>32767 then some (Lp.ret false) else (if (x13.I7.length:Int)<1 then some (Lp.ret false) else (if (k4:Int)>0 then (if -9223372036854775808≤((k4:Int) - 1)∧((k4:Int) - 1)≤9223372036854775807 then (if 0≤((k4:Int) - 1) then ((a0[((k4:Int) - 1).toNat]?).bind fun x25=>(gW x25.Jd x13.Jd).bind fun x31=>if x31=true then ((cj x13 (((x13.I7.length:Int)).toNat+1) y3 0).bind fun e=>match e with | .ret r=>some (Lp.ret r) | .go (y59,k60)=>(if -9223372036854775808≤((k4:Int)+1)∧((k4:Int)+1)≤9223372036854775807 then (cv a0 m8 y59 (k4+1)) else none)) else some (Lp.ret false)) else none) else none) else ((eA x13 (((x13.I7.length:Int)).toNat+1) y3 0).bind fun e=>match e with | .ret r=>some (Lp.ret r) | .go (y87,k88)=>(if -9223372036854775808≤((k4:Int)+1)∧((k4:Int)+1)≤9223372036854775807 then (cv a0 m8 y87 (k4+1)) else none)))))) else (some (Lp.go (y3,k4)))
theorem tz (a0:List Top) (u1:Bool) (u2:Nat):cv a0 0 u1 u2=none:=rfl
theorem tA (a0:List Top) (m8:Nat) (y3:Bool) (k4:Nat):cv a0 (m8+1) y3 k4=(if (k4:Int)<(a0.length:Int) then ((a0[k4]?).bind fun x13=>if (x13.Jd.length:Int)<1 then some (Lp.ret false) else (if (x13.Jd.length:Int)>32767 then some (Lp.ret false) else (if (x13.I7.length:Int)<1 then some (Lp.ret false) else (if (k4:Int)>0 then (if -9223372036854775808≤((k4:Int) - 1)∧((k4:Int) - 1)≤9223372036854775807 then (if 0≤((k4:Int) - 1) then ((a0[((k4:Int) - 1).toNat]?).bind fun x25=>(gW x25.Jd x13.Jd).bind fun x31=>if x31=true then ((cj x13 (((x13.I7.length:Int)).toNat+1) y3 0).bind fun e=>match e with | .ret r=>some (Lp.ret r) | .go (y59,k60)=>(if -9223372036854775808≤((k4:Int)+1)∧((k4:Int)+1)≤9223372036854775807 then (cv a0 m8 y59 (k4+1)) else none)) else some (Lp.ret false)) else none) else none) else ((eA x13 (((x13.I7.length:Int)).toNat+1) y3 0).bind fun e=>match e with | .ret r=>some (Lp.ret r) | .go (y87,k88)=>(if -9223372036854775808≤((k4:Int)+1)∧((k4:Int)+1)≤9223372036854775807 then (cv a0 m8 y87 (k4+1)) else none)))))) else (some (Lp.go (y3,k4)))):=rfl
def gi (a0:List Top):Option (Bool):=(cv a0 (((a0.length:Int)).toNat+1) false 0).bind fun e=>match e with | .ret r=>some r | .go (y90,k91)=>some true
theorem ku (a0:List Top) (A1:Option Addr) (c2:Nat) (r:Bool) (h:gi a0=some r):aE Tryz.prog 109 #[.slice A1 a0.length c2] (RX.of (ao 2 ba) [.slice A1 a0.length c2] a0) (aO) (fun v A' N=>v= .bool r∧A'=aO∧N = []):=by
 refine aU Tryz.func109 Z Tryz.ntmps109 Z ?_
 intro F w hX
 unfold gi at h
 refine GC Z (GK ae Z (T.seq (GC Z (GK ae Z (T.block ?_)))))
 obtain⟨E5,hE6,hO7⟩:=JO h
 refine Hv (fun m e Rs=> ∃ (y3:Bool) (k4:Nat),e = [(0,.slice A1 a0.length c2),(2,.bool y3),(3,jI (k4:Int))]∧Rs = [aO]∧cv a0 m y3 k4=some E5) (((a0.length:Int)).toNat+1) [0] ⟨false,0,Z,Z,by exact hE6⟩ (by rfl) (by rfl) ?_
 clear hE6 h
 rintro m8 _ _ ⟨y3,k4,rfl,rfl,h⟩
 cases m8 with
 | zero =>
  rw[tz] at h
  cases h
 | succ m8 =>
  rw[tA] at h
  refine T.seq (GC Z (GB ae 2 Z (GE Z (GQ Z J8) Z (GB ae 1 Z ?_))))
  rcases jF h with⟨c12,h⟩ | ⟨c12,h⟩
  ·refine G9 Z c12 (GW (T.seq (T.block (T.seq (GC Z ?_)))))
   obtain⟨x13,hx14,h⟩:=JO h
   obtain⟨gz15,oz15,rfl,z15cs,z15cl,z15cc,z15nf,z15r⟩:=Hg (by decide) hX hx14
   obtain⟨z15S,z15r,z15rr⟩:=z15r
   obtain⟨A16,c17,rfl,z15s0⟩:=z15r
   have hX18:(RX.of (ao 1 jL) [.slice A16 x13.I7.length c17] x13.I7).reads w F:=⟨z15S,z15s0,z15rr⟩
   refine GB ae 2 Z ?_
   refine GE Z (GY (k:=k4) Z Z Z J8 Km (JV hx14).1) Z ?_
   refine GB ae 1 Z (GE Z (Hr 0 Z Ks z15nf z15cc Z Z) Z (GE Z (Hw Z J3) Z ?_))
   rcases jF h with⟨c19,h⟩ | ⟨c19,h⟩
   ·refine GB ae 2 Z (GI 19 Z (JS c19) (Hk ae Z (GO Z Z (GC Z (GB ae 1 Z ?_)))))
    obtain rfl:=JP h
    obtain rfl:=JP hO7
    exact GD (T.ret (GH (GN (GH (GH (GN (GH (GL [0] Le (GF Z)))))))))
   refine GB ae 2 Z (GI 19 Z (JT c19) (GJ ae 2 Z ?_))
   refine TL.q Z (.g Z Z Z) (GY (k:=k4) Z Z Z J8 Km (JV hx14).1) Z ?_
   refine GJ ae 1 Z (TL.q Z (.g Z Z Z) (Hr 0 Z Ks z15nf z15cc Z Z) Z (TL.q Z (.g Z Z Z) (Hw Z J3) Z ?_))
   rcases jF h with⟨c20,h⟩ | ⟨c20,h⟩
   ·refine GJ ae 3 Z (GI 28 Z (JS c20) (Hk ae Z (GO Z Z (GC Z (GB ae 1 Z ?_)))))
    obtain rfl:=JP h
    obtain rfl:=JP hO7
    exact GD (T.ret (GH (GN (GH (GH (GN (GH (GL [0] Le (GF Z)))))))))
   refine GJ ae 3 Z (GI 28 Z (JT c20) (GJ ae 2 Z ?_))
   refine TL.q Z (.g Z Z Z) (GY (k:=k4) Z Z Z J8 Km (JV hx14).1) Z ?_
   refine GJ ae 1 Z (TL.q Z (.g Z Z Z) (Hr 1 Z K3 z15nf z15cc Z Z) Z (TL.q Z (.g Z Z Z) (GQ Z Kh) Z (GJ ae 2 Z ?_)))
   rcases jF h with⟨c21,h⟩ | ⟨c21,h⟩
   ·refine G9 Z c21 (GC Z (GB ae 1 Z ?_))
    obtain rfl:=JP h
    obtain rfl:=JP hO7
    exact GD (T.ret (GH (GN (GH (GH (GN (GH (GL [0] Le (GF Z)))))))))
   refine Ha Z c21 ?_
   refine GW (In (Hp (.q 0 (.q 1 (.q 2 (.q 3 (.q 4 (.q 5 (.q 6 (.q 7 (.q 8 (.q 9 (.q 10 (.q 11 (.q 12 (.q 13 (.e 14 (.q 15 (.q 16 .nil))))))))))))))))) [0] Z gO (NoP.seq (NoP.seq (NoP.blk (NoP.seq (NoP.seq (NoP.blk (NoP.seq bA))))))) (by kernel_rfl) ?_))
   rcases jF h with⟨c22,h⟩ | ⟨c22,h⟩
   ·refine TD.run ae [0,1,2] Z Z ?_
    iterate 2 refine TD.q Z (.g Z Z (JS c22)) (Hm ae Z) Z ?_
    obtain⟨c23,h⟩:=ay h
    refine TD.q Z (.g Z Z (JS c22)) (Ex.sub Z Z c23) Z ?_
    obtain⟨c24,h⟩:=ay h
    obtain⟨x25,hx26,h⟩:=JO h
    obtain⟨z27cs,z27cl,z27cc,z27nf,z27r⟩:=IA (by decide) hX hx26
    obtain⟨z27S,z27r,z27rr⟩:=z27r
    obtain⟨A28,c29,rfl,z27s0⟩:=z27r
    have hX30:(RX.of (ao 1 jL) [.slice A28 x25.I7.length c29] x25.I7).reads w F:=⟨z27S,z27s0,z27rr⟩
    refine TD.q Z (.g Z Z (JS c22)) (GY (k:=((k4:Int) - 1).toNat) Z Z ((Int.toNat_of_nonneg c24).symm) J8 Km (JV hx26).1) Z ?_
    refine TD.q Z (.g Z Z (JS c22)) (Hm ae Z) Z (TD.q Z (.g Z Z (JS c22)) (Hr 0 Z Ks z27nf z27cc Z Z) Z ?_)
    iterate 2 refine TD.q Z (.g Z Z (JS c22)) (Hm ae Z) Z ?_
    refine TD.q Z (.g Z Z (JS c22)) (GY (k:=k4) Z Z Z J8 Km (JV hx14).1) Z ?_
    refine TD.q Z (.g Z Z (JS c22)) (Hm ae Z) Z (TD.q Z (.g Z Z (JS c22)) (Hr 0 Z Ks z15nf z15cc Z Z) Z ?_)
    obtain⟨x31,hx32,h⟩:=JO h
    refine Iv Z (.g Z Z (JS c22)) (.fn Tryz.call160 Z) (tw x25.Jd x13.Jd _ hx32) rT Z [0] (Z) (TD.q Z (.g Z Z (JS c22)) (Hm ae Z) Z (GM Z (Ia Z (JS c22) Z) Z ?_))
    rcases jF h with⟨c33,h⟩ | ⟨c33,h⟩
    ·refine HX (G7 Z (aZ c33) (Hb Z (GK ae Z (T.block ?_))))
     obtain⟨E36,hE37,hO38⟩:=JO h
     refine Hv (fun m e Rs=> ∃ (y34:Bool) (k35:Nat),e = [(0,.slice (some ⟨gz15,oz15,none⟩) a0.length c2),(2,.bool y34),(3,jI (k4:Int)),(4,jI (k35:Int))]∧Rs = [aO]∧cj x13 m y34 k35=some E36) (((x13.I7.length:Int)).toNat+1) [0] ⟨y3,0,Z,Z,by exact hE37⟩ (by rfl) (by rfl) ?_
     clear hE37 h
     rintro m39 _ _ ⟨y34,k35,rfl,rfl,h⟩
     cases m39 with
     | zero =>
      rw[cj] at h
      cases h
     | succ m39 =>
      rw[cj] at h
      refine T.seq (GC Z (GB ae 3 Z ?_))
      refine GE Z (GY (k:=k4) Z Z Z J8 Km (JV hx14).1) Z ?_
      refine GB ae 1 Z (GE Z (Hr 1 Z K3 z15nf z15cc Z Z) Z (GE Z (GQ Z Kh) Z (GB ae 1 Z ?_)))
      rcases jF h with⟨c43,h⟩ | ⟨c43,h⟩
      ·refine G9 Z c43 (GW (T.seq (T.block (GC Z (GB ae 2 Z ?_)))))
       refine GE Z (GY (k:=k4) Z Z Z J8 Km (JV hx14).1) Z ?_
       refine GB ae 1 Z (GE Z (Hr 1 Z K3 z15nf z15cc Z Z) Z ?_)
       obtain⟨x44,hx45,h⟩:=JO h
       obtain⟨gz46,oz46,rfl,z46cs,z46cl,z46cc,z46nf,z46r⟩:=Hg (by decide) hX18 hx45
       obtain⟨z46S,z46r,z46rr⟩:=z46r
       obtain rfl:z46cs = [jI x44]:=z46r
       refine GB ae 1 Z ?_
       refine GE Z (GY (k:=k35) Z Z Z Kh JX (JV hx45).1) Z ?_
       refine GE Z (Hr 0 Z JZ z46nf z46cc Z Z) Z (G4 ae Z Z ?_)
       rcases jF h with⟨c47,h⟩ | ⟨c47,h⟩
       ·refine GB ae 3 Z (GI 74 Z (JS c47) (Hk ae Z (GO Z Z (GC Z (GB ae 1 Z ?_)))))
        obtain rfl:=JP h
        obtain rfl:=JP hO38
        obtain rfl:=JP hO7
        exact GD (T.ret (GN (GH (GH (GN (GN (GH (GH (GN (GH (GL [0] Le (GF Z))))))))))))
       refine GB ae 3 Z (GI 74 Z (JT c47) ?_)
       rcases jF h with⟨c48,h⟩ | ⟨c48,h⟩
       ·refine GJ ae 4 Z (GI 78 Z (JS c48) (Hk ae Z (GO Z Z (GC Z (GB ae 1 Z ?_)))))
        obtain rfl:=JP h
        obtain rfl:=JP hO38
        obtain rfl:=JP hO7
        exact GD (T.ret (GN (GH (GH (GN (GN (GH (GH (GN (GH (GL [0] Le (GF Z))))))))))))
       refine GJ ae 4 Z (GI 78 Z (JT c48) ?_)
       rcases jF h with⟨c49,h⟩ | ⟨c49,h⟩
       ·refine GJ ae 3 Z (GI 81 Z (JS c49) (GJ ae 2 Z ?_))
        refine TL.q Z (.g Z Z Z) (GY (k:=k4) Z Z Z J8 Km (JV hx14).1) Z ?_
        refine GJ ae 1 Z (TL.q Z (.g Z Z Z) (Hr 1 Z K3 z15nf z15cc Z Z) Z ?_)
        obtain⟨c50,h⟩:=ay h
        refine GJ ae 1 Z (TL.q Z (.g Z Z Z) (Ex.sub Z Z c50) Z ?_)
        obtain⟨c51,h⟩:=ay h
        obtain⟨x52,hx53,h⟩:=JO h
        obtain⟨z54cs,z54cl,z54cc,z54nf,z54r⟩:=IA (by decide) hX18 hx53
        obtain⟨z54S,z54r,z54rr⟩:=z54r
        obtain rfl:z54cs = [jI x52]:=z54r
        refine TL.q Z (.g Z Z Z) (GY (k:=((k35:Int) - 1).toNat) Z Z ((Int.toNat_of_nonneg c51).symm) Kh JX (JV hx53).1) Z ?_
        refine TL.q Z (.g Z Z Z) (Hr 0 Z JZ z54nf z54cc Z Z) Z (GJ ae 4 Z ?_)
        rcases jF h with⟨c55,h⟩ | ⟨c55,h⟩
        ·refine G9 Z c55 (GC Z (GB ae 1 Z ?_))
         obtain rfl:=JP h
         obtain rfl:=JP hO38
         obtain rfl:=JP hO7
         exact GD (T.ret (GN (GH (GH (GN (GN (GH (GH (GN (GH (GL [0] Le (GF Z))))))))))))
        refine Ha Z c55 (T.skip (GX (X.seq (T.region Z ?_))))
        obtain⟨c56,h⟩:=ay h
        exact GB ae 1 Z (GE Z (Ex.add Z Z c56) Z (GB ae 1 Z (TL.nil (X.back (m':=m39) [0] (by omega) ⟨y34,k35+1,Z,Z,h⟩ (by rfl) (by rfl)))))
       refine GJ ae 3 Z (GI 81 Z (JT c49) (Hk ae Z (G7 Z Z (T.skip (GX (X.seq (T.region Z ?_)))))))
       obtain⟨c57,h⟩:=ay h
       exact GB ae 1 Z (GE Z (Ex.add Z Z c57) Z (GB ae 1 Z (TL.nil (X.back (m':=m39) [0] (by omega) ⟨y34,k35+1,Z,Z,h⟩ (by rfl) (by rfl)))))
      refine Ha Z c43 ?_
      obtain rfl:=JP h
      replace h:=hO38
      clear hO38
      try dsimp only at h
      refine T.exit (GT (GT (Hu (GX (X.seq (T.region Z ?_))))))
      obtain⟨c58,h⟩:=ay h
      exact GB ae 1 Z (GE Z (Ex.add Z Z c58) Z (GB ae 1 Z (TL.nil (X.back (m':=m8) [0] (by omega) ⟨y34,k4+1,Z,Z,h⟩ (by rfl) (by rfl)))))
    replace c33:=JW c33
    refine HX (GO Z (bw c33) (GC Z (GB ae 1 Z ?_)))
    obtain rfl:=JP h
    obtain rfl:=JP hO7
    exact GD (T.ret (GH (GN (GH (GH (GN (GH (GL [0] Le (GF Z)))))))))
   refine TD.run ae [0,1,2] Z Z ?_
   iterate 11 refine HU Z (.gn Z Z (JT c22)) Z ?_
   refine IB Z (.gn Z Z (JT c22)) Z [0] Z (HU Z (.gn Z Z (JT c22)) Z (GM Z (H9 Z (JT c22) Z) Z (HX (G7 Z Z (Hb Z (GK ae Z (T.block ?_)))))))
   obtain⟨E64,hE65,hO66⟩:=JO h
   refine Hv (fun m e Rs=> ∃ (y62:Bool) (k63:Nat),e = [(0,.slice (some ⟨gz15,oz15,none⟩) a0.length c2),(2,.bool y62),(3,jI (k4:Int)),(4,jI (k63:Int))]∧Rs = [aO]∧eA x13 m y62 k63=some E64) (((x13.I7.length:Int)).toNat+1) [0] ⟨y3,0,Z,Z,by exact hE65⟩ (by rfl) (by rfl) ?_
   clear hE65 h
   rintro m67 _ _ ⟨y62,k63,rfl,rfl,h⟩
   cases m67 with
   | zero =>
    rw[eA] at h
    cases h
   | succ m67 =>
    rw[eA] at h
    refine T.seq (GC Z (GB ae 3 Z ?_))
    refine GE Z (GY (k:=k4) Z Z Z J8 Km (JV hx14).1) Z ?_
    refine GB ae 1 Z (GE Z (Hr 1 Z K3 z15nf z15cc Z Z) Z (GE Z (GQ Z Kh) Z (GB ae 1 Z ?_)))
    rcases jF h with⟨c71,h⟩ | ⟨c71,h⟩
    ·refine G9 Z c71 (GW (T.seq (T.block (GC Z (GB ae 2 Z ?_)))))
     refine GE Z (GY (k:=k4) Z Z Z J8 Km (JV hx14).1) Z ?_
     refine GB ae 1 Z (GE Z (Hr 1 Z K3 z15nf z15cc Z Z) Z ?_)
     obtain⟨x72,hx73,h⟩:=JO h
     obtain⟨gz74,oz74,rfl,z74cs,z74cl,z74cc,z74nf,z74r⟩:=Hg (by decide) hX18 hx73
     obtain⟨z74S,z74r,z74rr⟩:=z74r
     obtain rfl:z74cs = [jI x72]:=z74r
     refine GB ae 1 Z ?_
     refine GE Z (GY (k:=k63) Z Z Z Kh JX (JV hx73).1) Z ?_
     refine GE Z (Hr 0 Z JZ z74nf z74cc Z Z) Z (G4 ae Z Z ?_)
     rcases jF h with⟨c75,h⟩ | ⟨c75,h⟩
     ·refine GB ae 3 Z (GI 74 Z (JS c75) (Hk ae Z (GO Z Z (GC Z (GB ae 1 Z ?_)))))
      obtain rfl:=JP h
      obtain rfl:=JP hO66
      obtain rfl:=JP hO7
      exact GD (T.ret (GN (GH (GH (GN (GN (GH (GH (GN (GH (GL [0] Le (GF Z))))))))))))
     refine GB ae 3 Z (GI 74 Z (JT c75) ?_)
     rcases jF h with⟨c76,h⟩ | ⟨c76,h⟩
     ·refine GJ ae 4 Z (GI 78 Z (JS c76) (Hk ae Z (GO Z Z (GC Z (GB ae 1 Z ?_)))))
      obtain rfl:=JP h
      obtain rfl:=JP hO66
      obtain rfl:=JP hO7
      exact GD (T.ret (GN (GH (GH (GN (GN (GH (GH (GN (GH (GL [0] Le (GF Z))))))))))))
     refine GJ ae 4 Z (GI 78 Z (JT c76) ?_)
     rcases jF h with⟨c77,h⟩ | ⟨c77,h⟩
     ·refine GJ ae 3 Z (GI 81 Z (JS c77) (GJ ae 2 Z ?_))
      refine TL.q Z (.g Z Z Z) (GY (k:=k4) Z Z Z J8 Km (JV hx14).1) Z ?_
      refine GJ ae 1 Z (TL.q Z (.g Z Z Z) (Hr 1 Z K3 z15nf z15cc Z Z) Z ?_)
      obtain⟨c78,h⟩:=ay h
      refine GJ ae 1 Z (TL.q Z (.g Z Z Z) (Ex.sub Z Z c78) Z ?_)
      obtain⟨c79,h⟩:=ay h
      obtain⟨x80,hx81,h⟩:=JO h
      obtain⟨z82cs,z82cl,z82cc,z82nf,z82r⟩:=IA (by decide) hX18 hx81
      obtain⟨z82S,z82r,z82rr⟩:=z82r
      obtain rfl:z82cs = [jI x80]:=z82r
      refine TL.q Z (.g Z Z Z) (GY (k:=((k63:Int) - 1).toNat) Z Z ((Int.toNat_of_nonneg c79).symm) Kh JX (JV hx81).1) Z ?_
      refine TL.q Z (.g Z Z Z) (Hr 0 Z JZ z82nf z82cc Z Z) Z (GJ ae 4 Z ?_)
      rcases jF h with⟨c83,h⟩ | ⟨c83,h⟩
      ·refine G9 Z c83 (GC Z (GB ae 1 Z ?_))
       obtain rfl:=JP h
       obtain rfl:=JP hO66
       obtain rfl:=JP hO7
       exact GD (T.ret (GN (GH (GH (GN (GN (GH (GH (GN (GH (GL [0] Le (GF Z))))))))))))
      refine Ha Z c83 (T.skip (GX (X.seq (T.region Z ?_))))
      obtain⟨c84,h⟩:=ay h
      exact GB ae 1 Z (GE Z (Ex.add Z Z c84) Z (GB ae 1 Z (TL.nil (X.back (m':=m67) [0] (by omega) ⟨y62,k63+1,Z,Z,h⟩ (by rfl) (by rfl)))))
     refine GJ ae 3 Z (GI 81 Z (JT c77) (Hk ae Z (G7 Z Z (T.skip (GX (X.seq (T.region Z ?_)))))))
     obtain⟨c85,h⟩:=ay h
     exact GB ae 1 Z (GE Z (Ex.add Z Z c85) Z (GB ae 1 Z (TL.nil (X.back (m':=m67) [0] (by omega) ⟨y62,k63+1,Z,Z,h⟩ (by rfl) (by rfl)))))
    refine Ha Z c71 ?_
    obtain rfl:=JP h
    replace h:=hO66
    clear hO66
    try dsimp only at h
    refine T.exit (GT (GT (Hu (GX (X.seq (T.region Z ?_))))))
    obtain⟨c86,h⟩:=ay h
    exact GB ae 1 Z (GE Z (Ex.add Z Z c86) Z (GB ae 1 Z (TL.nil (X.back (m':=m8) [0] (by omega) ⟨y62,k4+1,Z,Z,h⟩ (by rfl) (by rfl)))))
  refine Ha Z c12 ?_
  obtain rfl:=JP h
  replace h:=hO7
  clear hO7
  try dsimp only at h
  refine T.exit (GT (GT (Hu (X.seq (GC Z (GB ae 1 Z ?_))))))
  obtain rfl:=JP h
  exact GD (T.ret (GL [0] Le (GF Z)))
def cO (a0:List Top) (a1:List Top):Nat→Bool→Nat→Option (Lp Bool (Bool×Nat))
 | 0,_,_=>none
 | m11+1,y6,k7=>if (k7:Int)<(a0.length:Int) then ((a0[k7]?).bind fun x16=>(a1[k7]?).bind fun x22=>if x16.Jd=x22.Jd then ((ll x16.I7 x22.I7).bind fun x29=>if x29=true then (if -9223372036854775808≤((k7:Int)+1)∧((k7:Int)+1)≤9223372036854775807 then (cO a0 a1 m11 y6 (k7+1)) else none) else some (Lp.ret false)) else some (Lp.ret false)) else (some (Lp.go (y6,k7)))
def cJ (a0:List Top) (a1:List Top):Option (Bool):=if (a0.length:Int)=(a1.length:Int) then ((cO a0 a1 (((a0.length:Int)).toNat+1) false 0).bind fun e=>match e with | .ret r=>some r | .go (y33,k34)=>some true) else some false
theorem fo (a0:List Top) (A1:Option Addr) (c2:Nat) (a1:List Top) (A3:Option Addr) (c4:Nat) (r:Bool) (h:cJ a0 a1=some r):aE Tryz.prog 113 #[.slice A1 a0.length c2,.slice A3 a1.length c4] (RX.and (RX.of (ao 2 ba) [.slice A1 a0.length c2] a0) (RX.of (ao 2 ba) [.slice A3 a1.length c4] a1)) (aO) (fun v A' N=>v= .bool r∧A'=aO∧N = []):=by
 refine aU Tryz.func113 Z Tryz.ntmps113 Z ?_
 intro F w hX
 unfold cJ at h
 refine GC Z (GK ae Z (T.seq (GC Z (GB ae 1 Z (GE Z (GQ Z J8) Z (GB ae 1 Z (GE Z (GQ Z J8) Z (GB ae 1 Z ?_))))))))
 rcases jF h with⟨c5,h⟩ | ⟨c5,h⟩
 ·refine He Z c5 (GW (T.seq (GC Z (GK ae Z (T.block ?_)))))
  obtain⟨E8,hE9,hO10⟩:=JO h
  refine Hv (fun m e Rs=> ∃ (y6:Bool) (k7:Nat),e = [(0,.slice A1 a0.length c2),(1,.slice A3 a1.length c4),(4,.bool y6),(5,jI (k7:Int))]∧Rs = [aO]∧cO a0 a1 m y6 k7=some E8) (((a0.length:Int)).toNat+1) [0] ⟨false,0,Z,Z,by exact hE9⟩ (by rfl) (by rfl) ?_
  clear hE9 h
  rintro m11 _ _ ⟨y6,k7,rfl,rfl,h⟩
  cases m11 with
  | zero =>
   rw[cO] at h
   cases h
  | succ m11 =>
   rw[cO] at h
   refine T.seq (GC Z (GB ae 2 Z (GE Z (GQ Z J8) Z (GB ae 1 Z ?_))))
   rcases jF h with⟨c15,h⟩ | ⟨c15,h⟩
   ·refine G9 Z c15 ?_
    refine GW (T.seq (T.block (T.seq (Hp (.q 0 (.q 1 (.q 2 (.q 3 (.q 4 (.q 5 (.q 6 (.q 7 (.q 8 (.q 9 (.q 10 (.q 11 (.q 12 (.q 13 (.q 14 (.q 15 (.q 16 (.q 17 (.q 18 (.q 19 (.q 20 (.q 21 (.e 22 (.q 23 (.q 24 .nil))))))))))))))))))))))))) [0] Z gO (NoP.seq (NoP.blk (NoP.seq (NoP.seq (NoP.blk (NoP.seq bA)))))) (by kernel_rfl) ?_))))
    obtain⟨x16,hx17,h⟩:=JO h
    obtain⟨gz18,oz18,rfl,z18cs,z18cl,z18cc,z18nf,z18r⟩:=Hg (by decide) (Ho hX) hx17
    obtain⟨z18S,z18r,z18rr⟩:=z18r
    obtain⟨A19,c20,rfl,z18s0⟩:=z18r
    have hX21:(RX.of (ao 1 jL) [.slice A19 x16.I7.length c20] x16.I7).reads w F:=⟨z18S,z18s0,z18rr⟩
    refine TD.run ae [0,1] Z Z ?_
    refine GM Z (GY (k:=k7) Z Z Z J8 Km (JV hx17).1) Z ?_
    refine TD.run ae [3] Z Z (GM Z (Hr 0 Z Ks z18nf z18cc Z Z) Z ?_)
    obtain⟨x22,hx23,h⟩:=JO h
    obtain⟨gz24,oz24,rfl,z24cs,z24cl,z24cc,z24nf,z24r⟩:=Hg (by decide) (G3 hX) hx23
    obtain⟨z24S,z24r,z24rr⟩:=z24r
    obtain⟨A25,c26,rfl,z24s0⟩:=z24r
    have hX27:(RX.of (ao 1 jL) [.slice A25 x22.I7.length c26] x22.I7).reads w F:=⟨z24S,z24s0,z24rr⟩
    refine TD.run ae [5,6] Z Z ?_
    refine GM Z (GY (k:=k7) Z Z Z J8 Km (JV hx23).1) Z ?_
    refine TD.run ae [8] Z Z (GM Z (Hr 0 Z Ks z24nf z24cc Z Z) Z (GM Z (IY Z Z) Z ?_))
    rcases jF h with⟨c28,h⟩ | ⟨c28,h⟩
    ·refine TD.run ae [11] Z Z ?_
     iterate 2 refine TD.q Z (.g Z Z (aZ (JS c28))) (Hm ae Z) Z ?_
     refine TD.q Z (.g Z Z (aZ (JS c28))) (GY (k:=k7) Z Z Z J8 Km (JV hx17).1) Z ?_
     refine TD.q Z (.g Z Z (aZ (JS c28))) (Hm ae Z) Z (TD.q Z (.g Z Z (aZ (JS c28))) (Hr 1 Z K3 z18nf z18cc Z Z) Z ?_)
     iterate 2 refine TD.q Z (.g Z Z (aZ (JS c28))) (Hm ae Z) Z ?_
     refine TD.q Z (.g Z Z (aZ (JS c28))) (GY (k:=k7) Z Z Z J8 Km (JV hx23).1) Z ?_
     refine TD.q Z (.g Z Z (aZ (JS c28))) (Hm ae Z) Z (TD.q Z (.g Z Z (aZ (JS c28))) (Hr 1 Z K3 z24nf z24cc Z Z) Z ?_)
     obtain⟨x29,hx30,h⟩:=JO h
     refine Iv Z (.g Z Z (aZ (JS c28))) (.fn Tryz.call166 Z) (tv x16.I7 _ _ x22.I7 _ _ _ hx30) (fun _ hs=>(Hn (GS hs hX21) (GS hs hX27))) Z [0] (Z) (TD.q Z (.g Z Z (aZ (JS c28))) (Hm ae Z) Z (GM Z (H9 Z (aZ (JS c28)) Z) Z ?_))
     rcases jF h with⟨c31,h⟩ | ⟨c31,h⟩
     ·refine HX (G7 Z (aZ c31) (T.skip (GX (X.seq (T.region Z ?_)))))
      obtain⟨c32,h⟩:=ay h
      exact GB ae 1 Z (GE Z (Ex.add Z Z c32) Z (GB ae 1 Z (TL.nil (X.back (m':=m11) [0] (by omega) ⟨y6,k7+1,Z,Z,h⟩ (by rfl) (by rfl)))))
     replace c31:=JW c31
     refine HX (GO Z (bw c31) (GC Z (GB ae 1 Z ?_)))
     obtain rfl:=JP h
     obtain rfl:=JP hO10
     exact GD (T.ret (GN (GH (GH (GN (GH (GL [0] MI (GF Z))))))))
    refine TD.run ae [11] Z Z ?_
    iterate 10 refine HU Z (.gn Z Z (bw (JT c28))) Z ?_
    refine IB Z (.gn Z Z (bw (JT c28))) Z [0] Z (HU Z (.gn Z Z (bw (JT c28))) Z (GM Z (Ia Z (bw (JT c28)) Z) Z (HX (GO Z Z (GC Z (GB ae 1 Z ?_))))))
    obtain rfl:=JP h
    obtain rfl:=JP hO10
    exact GD (T.ret (GN (GH (GH (GN (GH (GL [0] MI (GF Z))))))))
   refine Ha Z c15 ?_
   obtain rfl:=JP h
   replace h:=hO10
   clear hO10
   try dsimp only at h
   refine T.exit (GT (GT (Hu (X.seq (GC Z (GB ae 1 Z ?_))))))
   obtain rfl:=JP h
   exact GD (T.ret (GL [0] MI (GF Z)))
 refine Hc Z c5 (GC Z (GB ae 1 Z ?_))
 obtain rfl:=JP h
 exact GD (T.ret (GH (GL [0] MI (GF Z))))
def rZ:eP := [(23,0,0),(23,1,1),(51,0,0),(51,1,2),(51,2,3),(51,3,4),(97,3,3),(97,4,4),(171,1,1),(191,0,0),(191,1,1),(193,0,0),(193,1,1),(212,0,0),(212,1,2),(212,2,3),(268,0,0),(268,1,12),(268,2,13)]
theorem ab:(rZ).OK Tryz.prog:=⟨FOK.mk Kf rfl Kr rfl,FOK.mk Kf rfl Kk rfl,FOK.mk LC rfl J2 rfl,FOK.mk LC rfl JX rfl,FOK.mk LC rfl JX rfl,FOK.mk LC rfl Tryz.sizeOf49 rfl,FOK.mk Kb rfl Kr rfl,FOK.mk Kb rfl Kr rfl,FOK.mk K4 rfl LF rfl,FOK.mk L8 rfl Kk rfl,FOK.mk L8 rfl Tryz.sizeOf189 rfl,FOK.mk Tryz.runUnderlying193 rfl JX rfl,FOK.mk Tryz.runUnderlying193 rfl L7 rfl,FOK.mk Kw rfl J2 rfl,FOK.mk Kw rfl JX rfl,FOK.mk Kw rfl JX rfl,FOK.mk MC rfl J6 rfl,FOK.mk MC rfl JX rfl,FOK.mk MC rfl JX rfl,trivial⟩
def r5:List Nat := [3,4,9,49,177,189]
theorem aM:NOK Tryz.prog r5:=⟨JZ,KG,Ks,Tryz.isAgg49,LI,Ly,trivial⟩
theorem jh:Tryz.prog.follows .mixedOrders=true:=by kernel_rfl
theorem nA:BOK Tryz.prog 171 #[.string ⟨#[]⟩,.slice none 0 0] [(0,1),(1,1)]:=BOK.mk Tryz.zeroValue171 K4 (by intro w; simp)
theorem mS:SOK Tryz.prog 28 171 0 2 #[]:=SOK.mk0 J8 Km
theorem mT:SOK Tryz.prog 28 171 1 2 #[.string ⟨#[]⟩,.slice none 0 0]:=SOK.mk J8 Km Tryz.zeroValue171 (by decide) (by kernel_rfl)
theorem ji:SOK Tryz.prog 74 3 1 1 #[.int .i64 0]:=SOK.mk Kh JX Tryz.zeroValue3 (by decide) (by kernel_rfl)
theorem kF:(Tryz.prog.info? 3).map (fun i=>(i.zero,i.size,i.bytes))=some (some (.int .i64 0),1,8):=by kernel_rfl
theorem nB:(Tryz.prog.info? 171).map (fun i=>(i.zero,i.size,i.bytes))=some (some (.agg #[.string ⟨#[]⟩,.slice none 0 0]),2,40):=by kernel_rfl
theorem gK:fM Tryz.prog 2 23 [.bool,.string] true:=(fM.struct Kt J2 rfl Tryz.underlying23 Tryz.stoodInHeld23 ⟨by decide,rfl,[.bool],[.string],false,rfl,(HZ KG Kr Tryz.underlying4),⟨by decide,rfl,[.string],[],false,rfl,(HZ Ks Kk Tryz.underlying9),rfl⟩⟩)
def dY (a0:dT):Nat→Nat→List Int→Option (Nat×List Int)
 | 0,_,_=>none
 | m13+1,k6,y7=>if (k6:Int)<(a0.I7.length:Int) then ((a0.I7[k6]?).bind fun x18=>if (y7.length+1)*8≤140737488355328 then (if -9223372036854775808≤((k6:Int)+1)∧((k6:Int)+1)≤9223372036854775807 then (dY a0 m13 (k6+1) (y7 ++ [x18.Jp])) else none) else none) else some (k6,y7)
def ke (a0:dT):Option (Top):=(dY a0 (((a0.I7.length:Int)).toNat+1) 0 []).bind fun (k29,y30)=>some (⟨a0.Jd,y30⟩:Top)
theorem r6 (a0:dT) (A1:Option Addr) (c2:Nat) (r:Top) (h:ke a0=some r):aE Tryz.prog 158 #[.agg #[jS a0.Jd,.slice A1 a0.I7.length c2]] (RX.of (ao 2 ff) [.slice A1 a0.I7.length c2] a0.I7) (aO) (fun v A' N=> ∃ (A33:Option Addr) (c34:Nat),v= .agg #[jS r.Jd,.slice A33 r.I7.length c34]∧A'=aO∧N = [RdR (ao 1 jL) [.slice A33 r.I7.length c34] r.I7]):=by
 refine aU Tryz.func158 Z Tryz.ntmps158 Z ?_
 intro F w hX
 unfold ke at h
 refine GC Z (TL.box Z .u Z Z (fun b3=>(TL.alloc Z .u Tryz.zeroValue171 Z (fun b4=>(GV Z (GG ab aM 1 Z 2 Z Z ?_))))))
 refine GE Z (Hf (cells:= #[jS a0.Jd,.slice none 0 0]) nA Z (by kernel_rfl)) Z ?_
 refine TL.alloc Z .u Tryz.zeroValue171 Z (fun b5=>(GU (cs':= #[jS a0.Jd,.slice none 0 0]) Z .u Z Z Km Z Z Z Z (GD (T.seq (GC Z (GK ab Z (T.block (Ih 3 1 jL ?_))))))))
 obtain⟨E10,hE11,hO12⟩:=JO h
 refine Hv (fun m e Rs=> ∃ (k6:Nat) (y7:List Int) (A8:Option Addr) (c9:Nat),e = [(1,jP b3),(2,jP b4),(3,jP b5),(4,jI (k6:Int))]∧Rs = [cI 3 1 jL (.slice A8 y7.length c9) y7,aT b5 171 #[jS a0.Jd,.slice A8 y7.length c9],aT b4 171 #[.string ⟨#[]⟩,.slice none 0 0],aT b3 191 #[jS a0.Jd,.slice A1 a0.I7.length c2],aO]∧dY a0 m k6 y7=some E10) (((a0.I7.length:Int)).toNat+1) [0,0,0,0,0] ⟨0,[],none,0,Z,Z,by exact hE11⟩ (by rfl) (by rfl) ?_
 clear hE11 h
 rintro m13 _ _ ⟨k6,y7,A8,c9,rfl,rfl,h⟩
 cases m13 with
 | zero =>
  rw[dY] at h
  cases h
 | succ m13 =>
  rw[dY] at h
  refine T.seq (GC Z (GG ab aM 3 Z 3 Z Z (GE Z (GQ Z KH) Z (GB ab 1 Z ?_))))
  rcases jF h with⟨c17,h⟩ | ⟨c17,h⟩
  ·refine G9 Z c17 ?_
   obtain⟨x18,hx19,h⟩:=JO h
   obtain⟨gz20,oz20,rfl,z20cs,z20cl,z20cc,z20nf,z20r⟩:=Hg (by decide) hX hx19
   obtain⟨z20S,z20r,z20rr⟩:=z20r
   obtain⟨A21,c22,rfl,z20s0⟩:=z20r
   have hX23:(RX.of (ao 12 dN) [.slice A21 x18.Jf.length c22] x18.Jf).reads w F:=⟨z20S,z20s0,z20rr⟩
   obtain⟨c25,h⟩:=ay h
   refine GW (T.seq (T.block ?_))
   refine IX (fun e Rs=> ∃ (b24:Nat) (A26:Option Addr) (c27:Nat),e = [(1,jP b3),(2,jP b4),(3,jP b5),(4,jI (k6:Int)),(8,jI (k6:Int)),(9,.pointer (some ⟨b3,1,none⟩)),(10,.slice (some ⟨gz20,oz20,none⟩) a0.I7.length c2),(11,jI (a0.I7.length:Int))]∧Rs = [cI 3 1 jL (.slice A26 (y7 ++ [x18.Jp]).length c27) (y7 ++ [x18.Jp]),aT b5 171 #[jS a0.Jd,.slice A26 (y7 ++ [x18.Jp]).length c27],aT b4 171 #[.string ⟨#[]⟩,.slice none 0 0],aT b3 191 #[jS a0.Jd,.slice (some ⟨gz20,oz20,none⟩) a0.I7.length c2],aO]) ?_ ?_
   ·refine Hp (.q 0 (.q 2 (.q 3 (.q 4 (.q 5 (.q 6 (.q 7 (.br 1 (.e 8 (.e 9 (.q 10 (.e 11 .nil)))) (.e 8 (.e 1 (.e 9 (.q 10 (.e 11 .nil))))))))))))) [2,2,2] Z jh ul (by kernel_rfl) ?_
    refine TD.run ab [0,2] Z Z (GM Z (G5 1 Z Ly Z Z) Z (TD.run ab [4] Z Z ?_))
    refine GM Z (GY (k:=k6) Z Z Z KH LU (JV hx19).1) Z ?_
    refine TD.run ab [6] Z Z (GM Z (Hr 0 Z JZ z20nf z20cc Z Z) Z ?_)
    refine TD.br ?_ ?_
    ·refine II Z .u (G5 1 Z K3 Z Z) Z [2,2,2] Z (Ip (cells:= #[jI x18.Jp]) Z .u ji Z (by rfl) Z [3,3,3] (fun _=>Z) (fun b24=> ?_))
     refine TD.app1 0 Z .u (us := [jI x18.Jp]) (u:=x18.Jp) (l:=y7) (E:=jL) Tryz.underlying74 kF Z (by decide) Z Z Z Z Z Z (fun _ _=>Z) (by have hq:=c25; omega) (by have hq:=c25; omega) Z [2,2,2] (fun _ _=>Z) (fun A26 c27=> ?_)
     exact Ic [0,0,0,0,0] Z (TD.run ab [10] Z Z (IP (cs':= #[jS a0.Jd,.slice A26 (y7 ++ [x18.Jp]).length c27]) Z .u Z Z LF Z Z Z Z [2,2,2] (Z) (TD.nil (IC [0,0,0,0,0] ⟨b24,A26,c27,Z,Z⟩ (by rfl) (by rfl)))))
    refine Ip (cells:= #[jI x18.Jp]) Z .u ji Z (by rfl) Z [3,3,3] (fun _=>Z) (fun b24=>(II Z .u (G5 2 Z K3 Z Z) Z [3,3,3] Z ?_))
    refine TD.app1 0 Z .u (us := [jI x18.Jp]) (u:=x18.Jp) (l:=y7) (E:=jL) Tryz.underlying74 kF Z (by decide) Z Z Z Z Z Z (fun _ _=>Z) (by have hq:=c25; omega) (by have hq:=c25; omega) Z [2,2,2] (fun _ _=>Z) (fun A26 c27=> ?_)
    exact Ic [0,0,0,0,0] Z (TD.run ab [10] Z Z (IP (cs':= #[jS a0.Jd,.slice A26 (y7 ++ [x18.Jp]).length c27]) Z .u Z Z LF Z Z Z Z [2,2,2] (Z) (TD.nil (IC [0,0,0,0,0] ⟨b24,A26,c27,Z,Z⟩ (by rfl) (by rfl)))))
   rintro _ _ ⟨b24,A26,c27,rfl,rfl⟩
   refine GX (X.seq (T.region Z ?_))
   obtain⟨c28,h⟩:=ay h
   exact GB ab 1 Z (GE Z (Ex.add Z Z c28) Z (GB ab 1 Z (TL.nil (X.back (m':=m13) [0,0,0,0,0] (by omega) ⟨k6+1,(y7 ++ [x18.Jp]),A26,c27,Z,Z,h⟩ (by rfl) (by rfl)))))
  refine Ha Z c17 ?_
  obtain rfl:=JP h
  replace h:=hO12
  clear hO12
  try dsimp only at h
  refine T.exit (GT (GT (Hu (X.seq (GC Z (GE Z (GR (us := [jS a0.Jd,.slice A8 y7.length c9]) 1 Z Md Km Z Z Z) Z (Iq (cs':= #[jS a0.Jd,.slice A8 y7.length c9]) Z .u Z Z Km Z Z Z Z ?_)))))))
  obtain rfl:=JP h
  exact GD (T.ret (IZ (by decide) 0 Z (HK [0,0,0,0,0] Z (G8 [4,0] Tryz.results158 (Hs (us:= #[jS a0.Jd,.slice A8 y7.length c9]) 2 Z Md Km Z Z) ⟨_,_,Z,Z,Z⟩ (by rfl) (.inl Z)))))
def e6 (a0:List dT):Nat→Int→List Top→Nat→Option (Lp Int (Int×List Top×Nat))
 | 0,_,_,_=>none
 | m13+1,y5,y6,k9=>if (k9:Int)<(a0.length:Int) then ((a0[k9]?).bind fun x18=>if (x18.I7.length:Int)=0 then some (Lp.ret 10) else ((ke x18).bind fun x25=>if (y6.length+1)*40≤140737488355328 then ((gi (y6 ++ [x25])).bind fun x33=>if x33=true then (if -9223372036854775808≤((k9:Int)+1)∧((k9:Int)+1)≤9223372036854775807 then (e6 a0 m13 y5 (y6 ++ [x25]) (k9+1)) else none) else some (Lp.ret 13)) else none)) else (some (Lp.go (y5,y6,k9)))
def jO (a0:List dT):Option (Int):=if (a0.length:Int)=0 then some 10 else ((e6 a0 (((a0.length:Int)).toNat+1) 0 ([]:List Top) 0).bind fun e=>match e with | .ret r=>some r | .go (y37,y38,k41)=>some 0)
theorem tB (a0:List dT) (A1:Option Addr) (c2:Nat) (r:Int) (h:jO a0=some r):aE Tryz.prog 104 #[.slice A1 a0.length c2] (RX.of (ao 2 cm) [.slice A1 a0.length c2] a0) (aO) (fun v A' N=>v=jI r∧A'=aO∧N = []):=by
 refine aU Tryz.func104 Z Tryz.ntmps104 Z ?_
 intro F w hX
 unfold jO at h
 refine GC Z (GK ab Z (T.seq (GC Z (GB ab 1 Z (GE Z (GQ Z KK) Z (GB ab 1 Z ?_))))))
 rcases jF h with⟨c3,h⟩ | ⟨c3,h⟩
 ·refine G9 Z c3 (GC Z (GB ab 1 Z ?_))
  obtain rfl:=JP h
  exact GD (T.ret (GH (GL [0] MJ (GF Z))))
 refine Ha Z c3 (Hb Z (Ix (cells:= #[]) Z .u mS Z (by rfl) Z (fun b4=>(TL.rowOf (us := []) (xs:=([]:List Top)) (E:=ba) (z:=2) Z (Nat.le_of_ble_eq_true Z) (fun _=>Z) (GK ab Z (T.seq (GC Z (GB ab 1 Z ?_))))))))
 refine GD (T.block ?_)
 obtain⟨E10,hE11,hO12⟩:=JO h
 refine Hv (fun m e Rs=> ∃ (y5:Int) (y6:List Top) (A7:Option Addr) (c8:Nat) (k9:Nat),e = [(0,.slice A1 a0.length c2),(2,jI y5),(3,.slice A7 y6.length c8),(4,jI (k9:Int))]∧Rs = [cI 171 2 ba (.slice A7 y6.length c8) y6,aO]∧e6 a0 m y5 y6 k9=some E10) (((a0.length:Int)).toNat+1) [0,0] ⟨0,([]:List Top),(some ⟨b4,0,none⟩),0,0,Z,Z,by exact hE11⟩ (by rfl) (by rfl) ?_
 clear hE11 h
 rintro m13 _ _ ⟨y5,y6,A7,c8,k9,rfl,rfl,h⟩
 cases m13 with
 | zero =>
  rw[e6] at h
  cases h
 | succ m13 =>
  rw[e6] at h
  refine T.seq (GC Z (GB ab 2 Z (GE Z (GQ Z KK) Z (GB ab 1 Z ?_))))
  rcases jF h with⟨c17,h⟩ | ⟨c17,h⟩
  ·refine G9 Z c17 (GW (T.seq (T.block (T.seq (GC Z ?_)))))
   obtain⟨x18,hx19,h⟩:=JO h
   obtain⟨gz20,oz20,rfl,z20cs,z20cl,z20cc,z20nf,z20r⟩:=Hg (by decide) hX hx19
   obtain⟨z20S,z20r,z20rr⟩:=z20r
   obtain⟨A21,c22,rfl,z20s0⟩:=z20r
   have hX23:(RX.of (ao 2 ff) [.slice A21 x18.I7.length c22] x18.I7).reads w F:=⟨z20S,z20s0,z20rr⟩
   refine GB ab 2 Z ?_
   refine GE Z (GY (k:=k9) Z Z Z KK K1 (JV hx19).1) Z ?_
   refine GB ab 1 Z (GE Z (Hr 1 Z Ly z20nf z20cc Z Z) Z (GE Z (GQ Z KH) Z (GB ab 1 Z ?_)))
   rcases jF h with⟨c24,h⟩ | ⟨c24,h⟩
   ·refine G9 Z c24 (GC Z (GB ab 1 Z ?_))
    obtain rfl:=JP h
    obtain rfl:=JP hO12
    exact GD (T.ret (GH (GN (GH (GH (GN (GH (GL [1] MJ (GF Z)))))))))
   refine Ha Z c24 (Hb Z (GB ab 3 Z ?_))
   refine GE Z (GY (k:=k9) Z Z Z KK K1 (JV hx19).1) Z ?_
   refine GE Z (HW (us := [jS x18.Jd,.slice A21 x18.I7.length c22]) 0 Z Tryz.isAgg191 K1 z20nf z20cc Z Z Z) Z ?_
   obtain⟨x25,hx28,h⟩:=JO h
   refine It Z .u (.fn Tryz.call158 Z) (r6 x18 _ _ _ hx28) (fun _ hs=>(GS hs hX23)) Z ?_
   rintro _ _ _ ⟨A26,c27,rfl,rfl,rfl⟩
   refine Hz [0,0,0] Z (Ix (cells:= #[jS x25.Jd,.slice A26 x25.I7.length c27]) Z .u mT Z (by rfl) Z (fun b29=> ?_))
   obtain⟨c30,h⟩:=ay h
   refine IV 1 0 Z .u (us := [jS x25.Jd,.slice A26 x25.I7.length c27]) (u:=x25) (l:=y6) (E:=ba) Tryz.underlying28 nB Z (by decide) Z Z Z Z Z Z Z (fun w G hG=>⟨_,_,Z,hG.1⟩) (by have hq:=c30; omega) (by have hq:=c30; omega) Z (fun A31 c32=> ?_)
   refine Hz [0,0] Z (G4 ab Z Z ?_)
   obtain⟨x33,hx34,h⟩:=JO h
   refine GB ab 1 Z (GZ Z .u (.fn Tryz.call109 Z) (ku (y6 ++ [x25]) _ _ _ hx34) (fun _ hs=>(SrcE.res 0 hs Z (fun w G h=>ed (by decide) w G h))) Z (GB ab 1 Z ?_))
   rcases jF h with⟨c35,h⟩ | ⟨c35,h⟩
   ·refine GD (G7 Z (aZ c35) (T.skip (GX (X.seq (T.region Z ?_)))))
    obtain⟨c36,h⟩:=ay h
    exact GB ab 1 Z (GE Z (Ex.add Z Z c36) Z (GB ab 1 Z (TL.nil (X.back (m':=m13) [0,0] (by omega) ⟨y5,(y6 ++ [x25]),A31,c32,k9+1,Z,Z,h⟩ (by rfl) (by rfl)))))
   replace c35:=JW c35
   refine GD (GO Z (bw c35) (GC Z (GB ab 1 Z ?_)))
   obtain rfl:=JP h
   obtain rfl:=JP hO12
   exact GD (T.ret (GN (GH (GH (GN (GH (GL [1] MJ (GF Z))))))))
  refine Ha Z c17 ?_
  obtain rfl:=JP h
  replace h:=hO12
  clear hO12
  try dsimp only at h
  refine T.exit (GT (GT (Hu (X.seq (GC Z (GB ab 1 Z ?_))))))
  obtain rfl:=JP h
  exact GD (T.ret (GL [1] MJ (GF Z)))
def dQ (a0:List Bat) (a1:Bool):Nat→Int→Nat→Option (Lp Int (Int×Nat))
 | 0,_,_=>none
 | m16+1,y11,k12=>if (k12:Int)<(a0.length:Int) then ((a0[k12]?).bind fun x21=>(gV x21).bind fun x27=>if x27=0 then (if x21.JB=true then some (Lp.ret 12) else (if (x21.JE == a1)=true then (if -9223372036854775808≤((k12:Int)+1)∧((k12:Int)+1)≤9223372036854775807 then (dQ a0 a1 m16 y11 (k12+1)) else none) else some (Lp.ret 8))) else some (Lp.ret x27)) else (some (Lp.go (y11,k12)))
def e7 (a0:List Bat) (a1:Bool) (a2:Int):Option (Int):=(if (a0.length:Int)=0 then some true else (if a2=3 then (if (a0.length:Int)>1 then some true else some false) else some false)).bind fun y5=>if y5=true then some 10 else ((dQ a0 a1 (((a0.length:Int)).toNat+1) 0 0).bind fun e=>match e with | .ret r=>some r | .go (y33,k34)=>some 0)
theorem lm (a0:List Bat) (A1:Option Addr) (c2:Nat) (a1:Bool) (a2:Int) (r:Int) (h:e7 a0 a1 a2=some r):aE Tryz.prog 105 #[.slice A1 a0.length c2,.bool a1,jI a2] (RX.of (ao 12 dN) [.slice A1 a0.length c2] a0) (aO) (fun v A' N=>v=jI r∧A'=aO∧N = []):=by
 refine aU Tryz.func105 Z Tryz.ntmps105 Z ?_
 intro F w hX
 unfold e7 at h
 refine GC Z (GK ab Z (In ?_))
 obtain⟨y5,h,hk6⟩:=JO h
 refine HJ (fun e Rs=>e = [(0,.slice A1 a0.length c2),(1,.bool a1),(6,jI 0),(20,.bool y5)]∧Rs = [aO]) ?_ ?_
 ·clear hk6
  refine T.region Z (GB ab 1 Z (GE Z (GQ Z Kp) Z ?_))
  rcases jF h with⟨c7,h⟩ | ⟨c7,h⟩
  ·refine GB ab 2 Z (GI 12 Z (JS c7) (GJ ab 8 Z ?_))
   cases h
   exact TL.nil (GP [0])
  refine GB ab 2 Z (GI 12 Z (JT c7) ?_)
  rcases jF h with⟨c8,h⟩ | ⟨c8,h⟩
  ·refine GJ ab 3 Z (GI 15 Z (JS c8) (GJ ab 1 Z (TL.q Z (.g Z Z Z) (GQ Z Kp) Z (GJ ab 3 Z ?_))))
   rcases jF h with⟨c9,h⟩ | ⟨c9,h⟩
   ·cases h
    exact TL.nil (Hx (d:=20) (v':= .bool true) Z (congrArg Value.bool (JS c9)) (GP [0]))
   cases h
   exact TL.nil (Hx (d:=20) (v':= .bool false) Z (congrArg Value.bool (JT c9)) (GP [0]))
  refine GJ ab 3 Z (GI 15 Z (JT c8) (GJ ab 5 Z ?_))
  cases h
  exact TL.nil (GP [0])
 rintro _ _ ⟨rfl,rfl⟩
 clear h
 have h:=hk6
 clear hk6
 try dsimp only at h
 rcases jF h with⟨c10,h⟩ | ⟨c10,h⟩
 ·refine X.seq (GO Z c10 (GC Z (GB ab 1 Z ?_)))
  obtain rfl:=JP h
  exact GD (T.ret (GH (GL [0] Mk (GF Z))))
 replace c10:=JW c10
 refine X.seq (G7 Z c10 (GW (T.seq (GC Z (GK ab Z (T.block ?_))))))
 obtain⟨E13,hE14,hO15⟩:=JO h
 refine Hv (fun m e Rs=> ∃ (y11:Int) (k12:Nat),e = [(0,.slice A1 a0.length c2),(1,.bool a1),(6,jI y11),(7,jI (k12:Int))]∧Rs = [aO]∧dQ a0 a1 m y11 k12=some E13) (((a0.length:Int)).toNat+1) [0] ⟨0,0,Z,Z,by exact hE14⟩ (by rfl) (by rfl) ?_
 clear hE14 h
 rintro m16 _ _ ⟨y11,k12,rfl,rfl,h⟩
 cases m16 with
 | zero =>
  rw[dQ] at h
  cases h
 | succ m16 =>
  rw[dQ] at h
  refine T.seq (GC Z (GB ab 2 Z (GE Z (GQ Z Kp) Z (GB ab 1 Z ?_))))
  rcases jF h with⟨c20,h⟩ | ⟨c20,h⟩
  ·refine G9 Z c20 (GW (T.seq (T.block (GC Z ?_))))
   obtain⟨x21,hx22,h⟩:=JO h
   obtain⟨gz23,oz23,rfl,z23cs,z23cl,z23cc,z23nf,z23r⟩:=Hg (by decide) hX hx22
   obtain⟨z23S,z23r,z23rr⟩:=z23r
   obtain⟨A24,c25,rfl,z23s0⟩:=z23r
   have hX26:(RX.of (ao 7 cV) [.slice A24 x21.Ja.length c25] x21.Ja).reads w F:=⟨z23S,z23s0,z23rr⟩
   refine GB ab 2 Z ?_
   refine GE Z (GY (k:=k12) Z Z Z Kp J6 (JV hx22).1) Z ?_
   refine GE Z (HW (us:=wL5 x21 A24 c25) 0 Z Ku J6 z23nf z23cc Z Z Z) Z ?_
   obtain⟨x27,hx28,h⟩:=JO h
   refine GZ Z .u (.fn Tryz.call159 Z) (rW x21 _ _ _ hx28) (fun _ hs=>(GS hs hX26)) Z (GK ab Z (T.seq (GC Z (GB ab 2 Z ?_))))
   rcases jF h with⟨c29,h⟩ | ⟨c29,h⟩
   ·refine He Z c29 (GW (T.seq (GC Z (GB ab 2 Z ?_))))
    refine GE Z (GY (k:=k12) Z Z Z Kp J6 (JV hx22).1) Z ?_
    refine GB ab 1 Z (GE Z (Hr 4 Z KG z23nf z23cc Z Z) Z ?_)
    rcases jF h with⟨c30,h⟩ | ⟨c30,h⟩
    ·refine GD (GO Z c30 (GC Z (GB ab 1 Z ?_)))
     obtain rfl:=JP h
     obtain rfl:=JP hO15
     exact GD (T.ret (GH (GN (GH (GH (GN (GH (GL [0] Mk (GF Z)))))))))
    replace c30:=JW c30
    refine GD (G7 Z c30 (Hb Z (GB ab 2 Z ?_)))
    refine GE Z (GY (k:=k12) Z Z Z Kp J6 (JV hx22).1) Z ?_
    refine GB ab 1 Z (GE Z (Hr 3 Z KG z23nf z23cc Z Z) Z (GB ab 1 Z (GE Z (Id Z Z Z Z Ki) Z ?_)))
    rcases jF h with⟨c31,h⟩ | ⟨c31,h⟩
    ·refine GD (G7 Z (aZ c31) (T.skip (GX (X.seq (T.region Z ?_)))))
     obtain⟨c32,h⟩:=ay h
     exact GB ab 1 Z (GE Z (Ex.add Z Z c32) Z (GB ab 1 Z (TL.nil (X.back (m':=m16) [0] (by omega) ⟨y11,k12+1,Z,Z,h⟩ (by rfl) (by rfl)))))
    replace c31:=JW c31
    refine GD (GO Z (bw c31) (GC Z (GB ab 1 Z ?_)))
    obtain rfl:=JP h
    obtain rfl:=JP hO15
    exact GD (T.ret (GN (GH (GH (GN (GH (GL [0] Mk (GF Z))))))))
   refine Hc Z c29 (GC Z (GB ab 2 Z ?_))
   obtain rfl:=JP h
   obtain rfl:=JP hO15
   exact GD (T.ret (GH (GN (GH (GH (GN (GH (GL [0] Mk (GF Z)))))))))
  refine Ha Z c20 ?_
  obtain rfl:=JP h
  replace h:=hO15
  clear hO15
  try dsimp only at h
  refine T.exit (GT (GT (Hu (X.seq (GC Z (GB ab 1 Z ?_))))))
  obtain rfl:=JP h
  exact GD (T.ret (GL [0] Mk (GF Z)))
def dy (a0:bF) (a1:Int) (k28:Nat):Nat→Int→Nat→Option (Lp Int (Int×Nat))
 | 0,_,_=>none
 | m42+1,y37,k38=>(a0.I5[k28]?).bind fun x46=>if (k38:Int)<(x46.I7.length:Int) then ((x46.I7[k38]?).bind fun x53=>if a0.Jc.null=true then ((e7 x53.Jf false a1).bind fun x60=>if x60=0 then (if -9223372036854775808≤((k38:Int)+1)∧((k38:Int)+1)≤9223372036854775807 then (dy a0 a1 k28 m42 y37 (k38+1)) else none) else some (Lp.ret x60)) else ((e7 x53.Jf true a1).bind fun x64=>if x64=0 then (if -9223372036854775808≤((k38:Int)+1)∧((k38:Int)+1)≤9223372036854775807 then (dy a0 a1 k28 m42 y37 (k38+1)) else none) else some (Lp.ret x64))) else (some (Lp.go (y37,k38)))
def dz (a0:bF) (a1:Int):Nat→Int→Nat→Option (Lp Int (Int×Nat))
 | 0,_,_=>none
 | m32+1,y27,k28=>if (k28:Int)<(a0.I5.length:Int) then ((dy a0 a1 k28 (((a0.I5[k28]?).map (fun x37=>((x37.I7.length:Int)).toNat+1)).getD 0) y27 0).bind fun e=>match e with | .ret r=>some (Lp.ret r) | .go (y69,k70)=>(if -9223372036854775808≤((k28:Int)+1)∧((k28:Int)+1)≤9223372036854775807 then (dz a0 a1 m32 y69 (k28+1)) else none)) else (some (Lp.go (y27,k28)))
theorem r7 (a0:bF) (a1:Int) (u1:Int) (u2:Nat):dz a0 a1 0 u1 u2=none:=rfl
theorem r8 (a0:bF) (a1:Int) (m32:Nat) (y27:Int) (k28:Nat):dz a0 a1 (m32+1) y27 k28=(if (k28:Int)<(a0.I5.length:Int) then ((dy a0 a1 k28 (((a0.I5[k28]?).map (fun x37=>((x37.I7.length:Int)).toNat+1)).getD 0) y27 0).bind fun e=>match e with | .ret r=>some (Lp.ret r) | .go (y69,k70)=>(if -9223372036854775808≤((k28:Int)+1)∧((k28:Int)+1)≤9223372036854775807 then (dz a0 a1 m32 y69 (k28+1)) else none)) else (some (Lp.go (y27,k28)))):=rfl
def iR (a0:bF) (a1:Int):Option (Int):=(if a0.Jc.null=true then (if a0.Jc.data = [] then some false else some true) else (if (a0.Jc.data.length:Int)<1 then some true else (if (a0.Jc.data.length:Int)>32767 then some true else some false))).bind fun y7=>if y7=true then some 4 else ((if a0.Ju<(-1) then some true else (if a0.Ju>1 then some true else (if a0.Jb<0 then some true else (if a0.Jb>2147483647 then some true else some false)))).bind fun y17=>if y17=true then some 11 else ((jO a0.I5).bind fun x24=>if x24=0 then ((dz a0 a1 (((a0.I5.length:Int)).toNat+1) 0 0).bind fun e=>match e with | .ret r=>some r | .go (y72,k73)=>some 0) else some x24))
theorem r9 (a0:bF) (A1:Option Addr) (c2:Nat) (a1:Int) (r:Int) (h:iR a0 a1=some r):aE Tryz.prog 54 #[.agg #[.bool a0.Jc.null,jS a0.Jc.data,jI a0.Ju,jI a0.Jb,.slice A1 a0.I5.length c2],jI a1] (RX.of (ao 2 cm) [.slice A1 a0.I5.length c2] a0.I5) (aO) (fun v A' N=>v=jI r∧A'=aO∧N = []):=by
 refine aU Tryz.func54 Z Tryz.ntmps54 Z ?_
 intro F w hX
 unfold iR at h
 refine GC Z (TL.box Z .u Z Z (fun b3=>(GK ab Z (In ?_))))
 obtain⟨y7,h,hk8⟩:=JO h
 refine HJ (fun e Rs=>e = [(1,jI a1),(2,jP b3),(4,jI 0),(37,.bool y7)]∧Rs = [aT b3 51 #[.bool a0.Jc.null,jS a0.Jc.data,jI a0.Ju,jI a0.Jb,.slice A1 a0.I5.length c2],aO]) ?_ ?_
 ·clear hk8
  refine T.region Z ?_
  rcases jF h with⟨c9,h⟩ | ⟨c9,h⟩
  ·refine GG ab aM 0 Z 4 Z Z (GI 12 Z c9 (GG ab aM 0 Z 3 Z Z (TL.q Z (.g Z Z Z) (IY Z (m := []) Z) Z ?_)))
   rcases jF h with⟨c10,h⟩ | ⟨c10,h⟩
   ·refine GJ ab 2 Z (GI 18 Z (aZ (JS c10)) (GG ab aM 0 Z 5 Z Z (GI 23 Z (aZ c9) (GJ ab 14 Z ?_))))
    cases h
    exact TL.nil (GP [0,0])
   refine GJ ab 2 Z (GI 18 Z (bw (JT c10)) (GJ ab 19 Z ?_))
   cases h
   exact TL.nil (GP [0,0])
  replace c9:=JW c9
  refine GG ab aM 0 Z 4 Z Z (GI 12 Z c9 (GG ab aM 0 Z 11 Z Z (GI 23 Z (bw c9) (GG ab aM 0 Z 3 Z Z (TL.q Z (.g Z Z Z) (Hw Z J3) Z ?_)))))
  rcases jF h with⟨c11,h⟩ | ⟨c11,h⟩
  ·refine GJ ab 2 Z (GI 29 Z (JS c11) (GJ ab 8 Z ?_))
   cases h
   exact TL.nil (GP [0,0])
  refine GJ ab 2 Z (GI 29 Z (JT c11) (GG ab aM 0 Z 3 Z Z (TL.q Z (.g Z Z Z) (Hw Z J3) Z (GJ ab 4 Z ?_))))
  rcases jF h with⟨c12,h⟩ | ⟨c12,h⟩
  ·cases h
   exact TL.nil (Hx (d:=37) (v':= .bool true) Z (congrArg Value.bool (JS c12)) (GP [0,0]))
  cases h
  exact TL.nil (Hx (d:=37) (v':= .bool false) Z (congrArg Value.bool (JT c12)) (GP [0,0]))
 rintro _ _ ⟨rfl,rfl⟩
 clear h
 have h:=hk8
 clear hk8
 try dsimp only at h
 rcases jF h with⟨c13,h⟩ | ⟨c13,h⟩
 ·refine X.seq (GO Z c13 (GC Z (GB ab 1 Z ?_)))
  obtain rfl:=JP h
  exact GD (T.ret (GH (GL [1] Ma (GF Z))))
 replace c13:=JW c13
 refine X.seq (G7 Z c13 (GW (In ?_)))
 obtain⟨y17,h,hk18⟩:=JO h
 refine HJ (fun e Rs=>e = [(1,jI a1),(2,jP b3),(4,jI 0),(55,.bool y17)]∧Rs = [aT b3 51 #[.bool a0.Jc.null,jS a0.Jc.data,jI a0.Ju,jI a0.Jb,.slice A1 a0.I5.length c2],aO]) ?_ ?_
 ·clear hk18
  refine T.region Z ?_
  rcases jF h with⟨c19,h⟩ | ⟨c19,h⟩
  ·refine GG ab aM 0 Z 4 Z Z (GI 41 Z (JS c19) (GJ ab 14 Z ?_))
   cases h
   exact TL.nil (GP [0,0])
  refine GG ab aM 0 Z 4 Z Z (GI 41 Z (JT c19) ?_)
  rcases jF h with⟨c20,h⟩ | ⟨c20,h⟩
  ·refine GG ab aM 0 Z 5 Z Z (GI 46 Z (JS c20) (GJ ab 9 Z ?_))
   cases h
   exact TL.nil (GP [0,0])
  refine GG ab aM 0 Z 5 Z Z (GI 46 Z (JT c20) ?_)
  rcases jF h with⟨c21,h⟩ | ⟨c21,h⟩
  ·refine GG ab aM 0 Z 5 Z Z (GI 51 Z (JS c21) (GJ ab 4 Z ?_))
   cases h
   exact TL.nil (GP [0,0])
  refine GG ab aM 0 Z 5 Z Z (GI 51 Z (JT c21) (GG ab aM 0 Z 4 Z Z ?_))
  rcases jF h with⟨c22,h⟩ | ⟨c22,h⟩
  ·cases h
   exact TL.nil (Hx (d:=55) (v':= .bool true) Z (congrArg Value.bool (JS c22)) (GP [0,0]))
  cases h
  exact TL.nil (Hx (d:=55) (v':= .bool false) Z (congrArg Value.bool (JT c22)) (GP [0,0]))
 rintro _ _ ⟨rfl,rfl⟩
 clear h
 have h:=hk18
 clear hk18
 try dsimp only at h
 rcases jF h with⟨c23,h⟩ | ⟨c23,h⟩
 ·refine X.seq (GO Z c23 (GC Z (GB ab 1 Z ?_)))
  obtain rfl:=JP h
  exact GD (T.ret (GH (GL [1] Ma (GF Z))))
 replace c23:=JW c23
 refine X.seq (G7 Z c23 (Hb Z ?_))
 obtain⟨x24,hx25,h⟩:=JO h
 refine GG ab aM 0 Z 2 Z Z (GZ Z .u (.fn Tryz.call104 Z) (tB a0.I5 _ _ _ hx25) (fun _ hs=>(GS hs hX)) Z (GK ab Z (T.seq (GC Z (GB ab 2 Z ?_)))))
 rcases jF h with⟨c26,h⟩ | ⟨c26,h⟩
 ·refine He Z c26 (GW (T.seq (GC Z (GK ab Z (T.block ?_)))))
  obtain⟨E29,hE30,hO31⟩:=JO h
  refine Hv (fun m e Rs=> ∃ (y27:Int) (k28:Nat),e = [(1,jI a1),(2,jP b3),(4,jI y27),(6,jI (k28:Int))]∧Rs = [aT b3 51 #[.bool a0.Jc.null,jS a0.Jc.data,jI a0.Ju,jI a0.Jb,.slice A1 a0.I5.length c2],aO]∧dz a0 a1 m y27 k28=some E29) (((a0.I5.length:Int)).toNat+1) [0,0] ⟨0,0,Z,Z,by exact hE30⟩ (by rfl) (by rfl) ?_
  clear hE30 h
  rintro m32 _ _ ⟨y27,k28,rfl,rfl,h⟩
  cases m32 with
  | zero =>
   rw[r7] at h
   cases h
  | succ m32 =>
   rw[r8] at h
   refine T.seq (GC Z (GG ab aM 0 Z 3 Z Z (GE Z (GQ Z KK) Z (GB ab 1 Z ?_))))
   rcases jF h with⟨c36,h⟩ | ⟨c36,h⟩
   ·refine G9 Z c36 (GW (T.seq (T.block (GC Z (GK ab Z (T.block ?_))))))
    obtain⟨E39,hE40,hO41⟩:=JO h
    refine Hv (fun m e Rs=> ∃ (y37:Int) (k38:Nat),e = [(1,jI a1),(2,jP b3),(4,jI y37),(6,jI (k28:Int)),(7,jI (k38:Int))]∧Rs = [aT b3 51 #[.bool a0.Jc.null,jS a0.Jc.data,jI a0.Ju,jI a0.Jb,.slice A1 a0.I5.length c2],aO]∧dy a0 a1 k28 m y37 k38=some E39) (((a0.I5[k28]?).map (fun x37=>((x37.I7.length:Int)).toNat+1)).getD 0) [0,0] ⟨y27,0,Z,Z,by exact hE40⟩ (by rfl) (by rfl) ?_
    clear hE40 h
    rintro m42 _ _ ⟨y37,k38,rfl,rfl,h⟩
    cases m42 with
    | zero =>
     rw[dy] at h
     cases h
    | succ m42 =>
     rw[dy] at h
     refine T.seq (GC Z ?_)
     obtain⟨x46,hx47,h⟩:=JO h
     obtain⟨gz48,oz48,rfl,z48cs,z48cl,z48cc,z48nf,z48r⟩:=Hg (by decide) hX hx47
     obtain⟨z48S,z48r,z48rr⟩:=z48r
     obtain⟨A49,c50,rfl,z48s0⟩:=z48r
     have hX51:(RX.of (ao 2 ff) [.slice A49 x46.I7.length c50] x46.I7).reads w F:=⟨z48S,z48s0,z48rr⟩
     refine GG ab aM 0 Z 4 Z Z ?_
     refine GE Z (GY (k:=k28) Z Z Z KK K1 (JV hx47).1) Z ?_
     refine GB ab 1 Z (GE Z (Hr 1 Z Ly z48nf z48cc Z Z) Z (GE Z (GQ Z KH) Z (GB ab 1 Z ?_)))
     rcases jF h with⟨c52,h⟩ | ⟨c52,h⟩
     ·refine G9 Z c52 ?_
      refine GW (T.seq (T.block (T.seq (Hp (.q 0 (.q 1 (.q 2 (.q 3 (.q 4 (.q 5 (.q 6 (.q 7 (.q 8 (.q 9 (.q 10 (.q 11 (.q 12 (.q 13 (.q 14 (.e 15 (.q 16 .nil))))))))))))))))) [0,0] Z jh (NoP.seq (NoP.blk (NoP.seq (NoP.seq (NoP.blk (NoP.blk (NoP.seq (NoP.seq (NoP.blk (NoP.seq bA)))))))))) (by kernel_rfl) ?_))))
      refine TD.run ab [0] Z Z (GM Z (G5 0 Z Tryz.isAgg49 Z Z) Z (TD.run ab [2] Z Z ?_))
      refine GM Z (GY (k:=k28) Z Z Z KK K1 (JV hx47).1) Z ?_
      refine TD.run ab [4] Z Z (GM Z (Hr 1 Z Ly z48nf z48cc Z Z) Z ?_)
      obtain⟨x53,hx54,h⟩:=JO h
      obtain⟨gz55,oz55,rfl,z55cs,z55cl,z55cc,z55nf,z55r⟩:=Hg (by decide) hX51 hx54
      obtain⟨z55S,z55r,z55rr⟩:=z55r
      obtain⟨A56,c57,rfl,z55s0⟩:=z55r
      have hX58:(RX.of (ao 12 dN) [.slice A56 x53.Jf.length c57] x53.Jf).reads w F:=⟨z55S,z55s0,z55rr⟩
      refine TD.run ab [6] Z Z ?_
      refine GM Z (GY (k:=k38) Z Z Z KH LU (JV hx54).1) Z ?_
      refine TD.run ab [8] Z Z (GM Z (Hr 1 Z LI z55nf z55cc Z Z) Z (TD.run ab [10,11] Z Z (GM Z (G5 0 Z KG Z Z) Z ?_)))
      rcases jF h with⟨c59,h⟩ | ⟨c59,h⟩
      ·obtain⟨x60,hx61,h⟩:=JO h
       refine TD.run ab [13,14] Z Z (TD.as (d:=93) (v':= .bool false) Z (congrArg Value.bool (aZ c59)) (Iv Z .u (.fn Tryz.call105 Z) (lm x53.Jf _ _ false a1 _ hx61) (fun _ hs=>(GS hs hX58)) Z [0,0] (Z) (TD.run ab [16] Z Z (HX (GC Z (GB ab 2 Z ?_))))))
       rcases jF h with⟨c62,h⟩ | ⟨c62,h⟩
       ·refine He Z c62 (T.skip (GX (X.seq (T.region Z ?_))))
        obtain⟨c63,h⟩:=ay h
        exact GB ab 1 Z (GE Z (Ex.add Z Z c63) Z (GB ab 1 Z (TL.nil (X.back (m':=m42) [0,0] (by omega) ⟨y37,k38+1,Z,Z,h⟩ (by rfl) (by rfl)))))
       refine Hc Z c62 (GC Z (GB ab 2 Z ?_))
       obtain rfl:=JP h
       obtain rfl:=JP hO41
       obtain rfl:=JP hO31
       exact GD (T.ret (GN (GH (GH (GN (GN (GH (GH (GN (GH (GL [1] Ma (GF Z))))))))))))
      replace c59:=JW c59
      obtain⟨x64,hx65,h⟩:=JO h
      refine TD.run ab [13,14] Z Z (TD.as (d:=93) (v':= .bool true) Z (congrArg Value.bool (bw c59)) (Iv Z .u (.fn Tryz.call105 Z) (lm x53.Jf _ _ true a1 _ hx65) (fun _ hs=>(GS hs hX58)) Z [0,0] (Z) (TD.run ab [16] Z Z (HX (GC Z (GB ab 2 Z ?_))))))
      rcases jF h with⟨c66,h⟩ | ⟨c66,h⟩
      ·refine He Z c66 (T.skip (GX (X.seq (T.region Z ?_))))
       obtain⟨c67,h⟩:=ay h
       exact GB ab 1 Z (GE Z (Ex.add Z Z c67) Z (GB ab 1 Z (TL.nil (X.back (m':=m42) [0,0] (by omega) ⟨y37,k38+1,Z,Z,h⟩ (by rfl) (by rfl)))))
      refine Hc Z c66 (GC Z (GB ab 2 Z ?_))
      obtain rfl:=JP h
      obtain rfl:=JP hO41
      obtain rfl:=JP hO31
      exact GD (T.ret (GN (GH (GH (GN (GN (GH (GH (GN (GH (GL [1] Ma (GF Z))))))))))))
     refine Ha Z c52 ?_
     obtain rfl:=JP h
     replace h:=hO41
     clear hO41
     try dsimp only at h
     refine T.exit (GT (GT (Hu (GX (X.seq (T.region Z ?_))))))
     obtain⟨c68,h⟩:=ay h
     exact GB ab 1 Z (GE Z (Ex.add Z Z c68) Z (GB ab 1 Z (TL.nil (X.back (m':=m32) [0,0] (by omega) ⟨y37,k28+1,Z,Z,h⟩ (by rfl) (by rfl)))))
   refine Ha Z c36 ?_
   obtain rfl:=JP h
   replace h:=hO31
   clear hO31
   try dsimp only at h
   refine T.exit (GT (GT (Hu (X.seq (GC Z (GB ab 1 Z ?_))))))
   obtain rfl:=JP h
   exact GD (T.ret (GL [1] Ma (GF Z)))
 refine Hc Z c26 (GC Z (GB ab 2 Z ?_))
 obtain rfl:=JP h
 exact GD (T.ret (GH (GL [1] Ma (GF Z))))
def eB (x29:dT) (x36:dT):Nat→Bool→Nat→Option (Lp Bool (Bool×Nat))
 | 0,_,_=>none
 | m54+1,y49,k50=>if (k50:Int)<(x29.I7.length:Int) then (((x29.I7[k50]?).bind fun x76=>(x36.I7[k50]?).bind fun x82=>if x76.Jp=x82.Jp then ((jN x76.Jf x82.Jf).bind fun x89=>if x89=true then some false else some true) else some true).bind fun y74=>if y74=true then some (Lp.ret false) else (if -9223372036854775808≤((k50:Int)+1)∧((k50:Int)+1)≤9223372036854775807 then (eB x29 x36 m54 y49 (k50+1)) else none)) else (some (Lp.go (y49,k50)))
def eC (a0:bF) (a1:bF):Nat→Bool→Nat→Option (Lp Bool (Bool×Nat))
 | 0,_,_=>none
 | m24+1,y19,k20=>if (k20:Int)<(a0.I5.length:Int) then ((a0.I5[k20]?).bind fun x29=>(a1.I5[k20]?).bind fun x36=>(if x29.Jd=x36.Jd then (if (x29.I7.length:Int)=(x36.I7.length:Int) then some false else some true) else some true).bind fun y44=>if y44=true then some (Lp.ret false) else ((eB x29 x36 (((x29.I7.length:Int)).toNat+1) y19 0).bind fun e=>match e with | .ret r=>some (Lp.ret r) | .go (y95,k96)=>(if -9223372036854775808≤((k20:Int)+1)∧((k20:Int)+1)≤9223372036854775807 then (eC a0 a1 m24 y95 (k20+1)) else none))) else (some (Lp.go (y19,k20)))
theorem tC (a0:bF) (a1:bF) (u1:Bool) (u2:Nat):eC a0 a1 0 u1 u2=none:=rfl
theorem tD (a0:bF) (a1:bF) (m24:Nat) (y19:Bool) (k20:Nat):eC a0 a1 (m24+1) y19 k20=(if (k20:Int)<(a0.I5.length:Int) then ((a0.I5[k20]?).bind fun x29=>(a1.I5[k20]?).bind fun x36=>(if x29.Jd=x36.Jd then (if (x29.I7.length:Int)=(x36.I7.length:Int) then some false else some true) else some true).bind fun y44=>if y44=true then some (Lp.ret false) else ((eB x29 x36 (((x29.I7.length:Int)).toNat+1) y19 0).bind fun e=>match e with | .ret r=>some (Lp.ret r) | .go (y95,k96)=>(if -9223372036854775808≤((k20:Int)+1)∧((k20:Int)+1)≤9223372036854775807 then (eC a0 a1 m24 y95 (k20+1)) else none))) else (some (Lp.go (y19,k20)))):=rfl
def gX (a0:bF) (a1:bF):Option (Bool):=(if a0.Jc.null=a1.Jc.null then (if a0.Jc.data=a1.Jc.data then (if a0.Ju=a1.Ju then (if a0.Jb=a1.Jb then (if (a0.I5.length:Int)=(a1.I5.length:Int) then some false else some true) else some true) else some true) else some true) else some true).bind fun y11=>if y11=true then some false else ((eC a0 a1 (((a0.I5.length:Int)).toNat+1) false 0).bind fun e=>match e with | .ret r=>some r | .go (y98,k99)=>some true)
theorem tE (a0:bF) (A1:Option Addr) (c2:Nat) (a1:bF) (A3:Option Addr) (c4:Nat) (r:Bool) (h:gX a0 a1=some r):aE Tryz.prog 66 #[.agg #[.bool a0.Jc.null,jS a0.Jc.data,jI a0.Ju,jI a0.Jb,.slice A1 a0.I5.length c2],.agg #[.bool a1.Jc.null,jS a1.Jc.data,jI a1.Ju,jI a1.Jb,.slice A3 a1.I5.length c4]] (RX.and (RX.of (ao 2 cm) [.slice A1 a0.I5.length c2] a0.I5) (RX.of (ao 2 cm) [.slice A3 a1.I5.length c4] a1.I5)) (aO) (fun v A' N=>v= .bool r∧A'=aO∧N = []):=by
 refine aU Tryz.func66 Z Tryz.ntmps66 Z ?_
 intro F w hX
 unfold gX at h
 refine GC Z (TL.box Z .u Z Z (fun b5=>(TL.box Z .u Z Z (fun b6=>(GK ab Z (In ?_))))))
 obtain⟨y11,h,hk12⟩:=JO h
 refine HJ (fun e Rs=>e = [(2,jP b5),(3,jP b6),(4,.bool false),(36,.bool y11)]∧Rs = [aT b6 51 #[.bool a1.Jc.null,jS a1.Jc.data,jI a1.Ju,jI a1.Jb,.slice A3 a1.I5.length c4],aT b5 51 #[.bool a0.Jc.null,jS a0.Jc.data,jI a0.Ju,jI a0.Jb,.slice A1 a0.I5.length c2],aO]) ?_ ?_
 ·clear hk12
  refine T.region Z (GB ab 1 Z (GE Z (GR (us := [.bool a0.Jc.null,jS a0.Jc.data]) 1 Z Kt J2 Z Z Z) Z (GB ab 1 Z (GE Z (GR (us := [.bool a1.Jc.null,jS a1.Jc.data]) 0 Z Kt J2 Z Z Z) Z ?_))))
  rcases jF h with⟨c13,h⟩ | ⟨c13,h⟩
  ·rcases jF h with⟨c14,h⟩ | ⟨c14,h⟩
   ·refine GE Z (I0 (us := [.bool a0.Jc.null,jS a0.Jc.data]) (vs := [.bool a1.Jc.null,jS a1.Jc.data]) gK Z KX Z Z Z Z (dw (mp c13) (dw (mq (l:=a0.Jc.data) (m:=a1.Jc.data) c14) Z))) Z (GG ab aM 1 Z 4 Z Z ?_)
    rcases jF h with⟨c15,h⟩ | ⟨c15,h⟩
    ·refine GG ab aM 0 Z 4 Z Z (GI 21 Z (aZ (JS c15)) (GG ab aM 1 Z 3 Z Z ?_))
     rcases jF h with⟨c16,h⟩ | ⟨c16,h⟩
     ·refine GG ab aM 0 Z 4 Z Z (GI 28 Z (aZ (JS c16)) (GG ab aM 1 Z 2 Z Z (TL.q Z (.g Z Z Z) (GQ Z KK) Z (GG ab aM 0 Z 2 Z Z (TL.q Z (.g Z Z Z) (GQ Z KK) Z (GJ ab 2 Z ?_))))))
      rcases jF h with⟨c17,h⟩ | ⟨c17,h⟩
      ·cases h
       exact TL.nil (Hx (d:=36) (v':= .bool false) Z (congrArg Value.bool (aZ (JS c17))) (GP [0,0,0]))
      cases h
      exact TL.nil (Hx (d:=36) (v':= .bool true) Z (congrArg Value.bool (bw (JT c17))) (GP [0,0,0]))
     refine GG ab aM 0 Z 4 Z Z (GI 28 Z (bw (JT c16)) (GJ ab 8 Z ?_))
     cases h
     exact TL.nil (GP [0,0,0])
    refine GG ab aM 0 Z 4 Z Z (GI 21 Z (bw (JT c15)) (GJ ab 15 Z ?_))
    cases h
    exact TL.nil (GP [0,0,0])
   refine GE Z (I0 (us := [.bool a0.Jc.null,jS a0.Jc.data]) (vs := [.bool a1.Jc.null,jS a1.Jc.data]) gK Z KX Z Z Z Z (dw (mp c13) (iO (nS (l:=a0.Jc.data) (m:=a1.Jc.data) c14)))) Z (GJ ab 23 Z ?_)
   cases h
   exact TL.nil (GP [0,0,0])
  refine GE Z (I0 (us := [.bool a0.Jc.null,jS a0.Jc.data]) (vs := [.bool a1.Jc.null,jS a1.Jc.data]) gK Z KX Z Z Z Z (iO (pJ c13))) Z (GJ ab 23 Z ?_)
  cases h
  exact TL.nil (GP [0,0,0])
 rintro _ _ ⟨rfl,rfl⟩
 clear h
 have h:=hk12
 clear hk12
 try dsimp only at h
 rcases jF h with⟨c18,h⟩ | ⟨c18,h⟩
 ·refine X.seq (GO Z c18 (GC Z (GB ab 1 Z ?_)))
  obtain rfl:=JP h
  exact GD (T.ret (GH (GL [2] MT (GF Z))))
 replace c18:=JW c18
 refine X.seq (G7 Z c18 (GW (T.seq (GC Z (GK ab Z (T.block ?_))))))
 obtain⟨E21,hE22,hO23⟩:=JO h
 refine Hv (fun m e Rs=> ∃ (y19:Bool) (k20:Nat),e = [(2,jP b5),(3,jP b6),(4,.bool y19),(5,jI (k20:Int))]∧Rs = [aT b6 51 #[.bool a1.Jc.null,jS a1.Jc.data,jI a1.Ju,jI a1.Jb,.slice A3 a1.I5.length c4],aT b5 51 #[.bool a0.Jc.null,jS a0.Jc.data,jI a0.Ju,jI a0.Jb,.slice A1 a0.I5.length c2],aO]∧eC a0 a1 m y19 k20=some E21) (((a0.I5.length:Int)).toNat+1) [0,0,0] ⟨false,0,Z,Z,by exact hE22⟩ (by rfl) (by rfl) ?_
 clear hE22 h
 rintro m24 _ _ ⟨y19,k20,rfl,rfl,h⟩
 cases m24 with
 | zero =>
  rw[tC] at h
  cases h
 | succ m24 =>
  rw[tD] at h
  refine T.seq (GC Z (GG ab aM 1 Z 3 Z Z (GE Z (GQ Z KK) Z (GB ab 1 Z ?_))))
  rcases jF h with⟨c28,h⟩ | ⟨c28,h⟩
  ·refine G9 Z c28 (GW (T.seq (T.block (GC Z ?_))))
   obtain⟨x29,hx30,h⟩:=JO h
   obtain⟨gz31,oz31,rfl,z31cs,z31cl,z31cc,z31nf,z31r⟩:=Hg (by decide) (Ho hX) hx30
   obtain⟨z31S,z31r,z31rr⟩:=z31r
   obtain⟨A32,c33,rfl,z31s0⟩:=z31r
   have hX34:(RX.of (ao 2 ff) [.slice A32 x29.I7.length c33] x29.I7).reads w F:=⟨z31S,z31s0,z31rr⟩
   refine GG ab aM 1 Z 3 Z Z ?_
   refine GE Z (GY (k:=k20) Z Z Z KK K1 (JV hx30).1) Z ?_
   refine GE Z (HW (us := [jS x29.Jd,.slice A32 x29.I7.length c33]) 0 Z Tryz.isAgg191 K1 z31nf z31cc Z Z Z) Z (TL.alloc Z .u Tryz.zeroValue191 Z (fun b35=>(GU (cs':= #[jS x29.Jd,.slice A32 x29.I7.length c33]) Z .u Z Z K1 Z Z Z Z (GV Z ?_))))
   obtain⟨x36,hx37,h⟩:=JO h
   obtain⟨gz38,oz38,rfl,z38cs,z38cl,z38cc,z38nf,z38r⟩:=Hg (by decide) (G3 hX) hx37
   obtain⟨z38S,z38r,z38rr⟩:=z38r
   obtain⟨A39,c40,rfl,z38s0⟩:=z38r
   have hX41:(RX.of (ao 2 ff) [.slice A39 x36.I7.length c40] x36.I7).reads w F:=⟨z38S,z38s0,z38rr⟩
   refine GG ab aM 1 Z 3 Z Z ?_
   refine GE Z (GY (k:=k20) Z Z Z KK K1 (JV hx37).1) Z ?_
   refine GE Z (HW (us := [jS x36.Jd,.slice A39 x36.I7.length c40]) 0 Z Tryz.isAgg191 K1 z38nf z38cc Z Z Z) Z (TL.alloc Z .u Tryz.zeroValue191 Z (fun b42=>(GU (cs':= #[jS x36.Jd,.slice A39 x36.I7.length c40]) Z .u Z Z K1 Z Z Z Z (GD (In ?_)))))
   obtain⟨y44,h,hk45⟩:=JO h
   refine HJ (fun e Rs=>e = [(2,jP b5),(3,jP b6),(4,.bool y19),(5,jI (k20:Int)),(6,jP b35),(7,jP b42),(67,.bool y44)]∧Rs = [aT b42 191 #[jS x36.Jd,.slice A39 x36.I7.length c40],aT b35 191 #[jS x29.Jd,.slice A32 x29.I7.length c33],aT b6 51 #[.bool a1.Jc.null,jS a1.Jc.data,jI a1.Ju,jI a1.Jb,.slice (some ⟨gz38,oz38,none⟩) a1.I5.length c4],aT b5 51 #[.bool a0.Jc.null,jS a0.Jc.data,jI a0.Ju,jI a0.Jb,.slice (some ⟨gz31,oz31,none⟩) a0.I5.length c2],aO]) ?_ ?_
   ·clear hk45
    refine T.region Z (GG ab aM 1 Z 3 Z Z (GG ab aM 0 Z 1 Z Z (GE Z (IY Z Z) Z ?_)))
    rcases jF h with⟨c46,h⟩ | ⟨c46,h⟩
    ·refine GB ab 1 Z (GI 59 Z (aZ (JS c46)) (GG ab aM 1 Z 2 Z Z (TL.q Z (.g Z Z Z) (GQ Z KH) Z (GG ab aM 0 Z 2 Z Z (TL.q Z (.g Z Z Z) (GQ Z KH) Z (GJ ab 2 Z ?_))))))
     rcases jF h with⟨c47,h⟩ | ⟨c47,h⟩
     ·cases h
      exact TL.nil (Hx (d:=67) (v':= .bool false) Z (congrArg Value.bool (aZ (JS c47))) (GP [0,0,0,0,0]))
     cases h
     exact TL.nil (Hx (d:=67) (v':= .bool true) Z (congrArg Value.bool (bw (JT c47))) (GP [0,0,0,0,0]))
    refine GB ab 1 Z (GI 59 Z (bw (JT c46)) (GJ ab 8 Z ?_))
    cases h
    exact TL.nil (GP [0,0,0,0,0])
   rintro _ _ ⟨rfl,rfl⟩
   clear h
   have h:=hk45
   clear hk45
   try dsimp only at h
   rcases jF h with⟨c48,h⟩ | ⟨c48,h⟩
   ·refine X.seq (GO Z c48 (GC Z (GB ab 1 Z ?_)))
    obtain rfl:=JP h
    obtain rfl:=JP hO23
    exact GD (T.ret (GH (GN (GH (GH (GN (GH (GL [4] MT (GF Z)))))))))
   replace c48:=JW c48
   refine X.seq (G7 Z c48 (Hb Z (GK ab Z (T.block ?_))))
   obtain⟨E51,hE52,hO53⟩:=JO h
   refine Hv (fun m e Rs=> ∃ (y49:Bool) (k50:Nat),e = [(2,jP b5),(3,jP b6),(4,.bool y49),(5,jI (k20:Int)),(6,jP b35),(7,jP b42),(8,jI (k50:Int))]∧Rs = [aT b42 191 #[jS x36.Jd,.slice A39 x36.I7.length c40],aT b35 191 #[jS x29.Jd,.slice A32 x29.I7.length c33],aT b6 51 #[.bool a1.Jc.null,jS a1.Jc.data,jI a1.Ju,jI a1.Jb,.slice (some ⟨gz38,oz38,none⟩) a1.I5.length c4],aT b5 51 #[.bool a0.Jc.null,jS a0.Jc.data,jI a0.Ju,jI a0.Jb,.slice (some ⟨gz31,oz31,none⟩) a0.I5.length c2],aO]∧eB x29 x36 m y49 k50=some E51) (((x29.I7.length:Int)).toNat+1) [0,0,0,0,0] ⟨y19,0,Z,Z,by exact hE52⟩ (by rfl) (by rfl) ?_
   clear hE52 h
   rintro m54 _ _ ⟨y49,k50,rfl,rfl,h⟩
   cases m54 with
   | zero =>
    rw[eB] at h
    cases h
   | succ m54 =>
    rw[eB] at h
    refine T.seq (GC Z (GG ab aM 1 Z 3 Z Z (GE Z (GQ Z KH) Z (GB ab 1 Z ?_))))
    rcases jF h with⟨c58,h⟩ | ⟨c58,h⟩
    ·refine G9 Z c58 (GW (T.seq (T.block (T.seq ?_))))
     obtain⟨y74,h,hk75⟩:=JO h
     refine HJ (fun e Rs=>e = [(2,jP b5),(3,jP b6),(4,.bool y49),(5,jI (k20:Int)),(6,jP b35),(7,jP b42),(8,jI (k50:Int)),(103,.bool y74)]∧Rs = [aT b42 191 #[jS x36.Jd,.slice A39 x36.I7.length c40],aT b35 191 #[jS x29.Jd,.slice A32 x29.I7.length c33],aT b6 51 #[.bool a1.Jc.null,jS a1.Jc.data,jI a1.Ju,jI a1.Jb,.slice (some ⟨gz38,oz38,none⟩) a1.I5.length c4],aT b5 51 #[.bool a0.Jc.null,jS a0.Jc.data,jI a0.Ju,jI a0.Jb,.slice (some ⟨gz31,oz31,none⟩) a0.I5.length c2],aO]) ?_ ?_
     ·clear hk75
      refine Hp (.q 0 (.q 1 (.q 2 (.q 3 (.q 4 (.q 5 (.q 6 (.q 7 (.q 8 (.q 9 (.q 10 (.q 11 (.q 12 (.q 13 (.q 14 (.q 15 (.q 16 (.q 17 (.q 18 (.q 19 (.q 20 (.q 21 (.q 22 (.q 23 (.q 24 (.q 25 (.e 26 (.q 27 (.q 28 .nil))))))))))))))))))))))))))))) [0,0,0,0,0] Z jh (NoP.seq (NoP.seq (NoP.blk (NoP.seq (NoP.seq (NoP.blk (NoP.blk (NoP.seq (NoP.seq (NoP.blk (NoP.seq bA))))))))))) (by kernel_rfl) ?_
      refine TD.run ab [0] Z Z (GM Z (G5 1 Z Ly Z Z) Z ?_)
      obtain⟨x76,hx77,h⟩:=JO h
      obtain⟨gz78,oz78,rfl,z78cs,z78cl,z78cc,z78nf,z78r⟩:=Hg (by decide) hX34 hx77
      obtain⟨z78S,z78r,z78rr⟩:=z78r
      obtain⟨A79,c80,rfl,z78s0⟩:=z78r
      have hX81:(RX.of (ao 12 dN) [.slice A79 x76.Jf.length c80] x76.Jf).reads w F:=⟨z78S,z78s0,z78rr⟩
      refine TD.run ab [2] Z Z ?_
      refine GM Z (GY (k:=k50) Z Z Z KH LU (JV hx77).1) Z ?_
      refine TD.run ab [4] Z Z (GM Z (Hr 0 Z JZ z78nf z78cc Z Z) Z (TD.run ab [6] Z Z (GM Z (G5 0 Z Ly Z Z) Z ?_)))
      obtain⟨x82,hx83,h⟩:=JO h
      obtain⟨gz84,oz84,rfl,z84cs,z84cl,z84cc,z84nf,z84r⟩:=Hg (by decide) hX41 hx83
      obtain⟨z84S,z84r,z84rr⟩:=z84r
      obtain⟨A85,c86,rfl,z84s0⟩:=z84r
      have hX87:(RX.of (ao 12 dN) [.slice A85 x82.Jf.length c86] x82.Jf).reads w F:=⟨z84S,z84s0,z84rr⟩
      refine TD.run ab [8] Z Z ?_
      refine GM Z (GY (k:=k50) Z Z Z KH LU (JV hx83).1) Z ?_
      refine TD.run ab [10] Z Z (GM Z (Hr 0 Z JZ z84nf z84cc Z Z) Z ?_)
      rcases jF h with⟨c88,h⟩ | ⟨c88,h⟩
      ·refine TD.run ab [12,13] Z Z (TD.q Z (.g Z Z (aZ (JS c88))) (Hm ab Z) Z (TD.q Z (.g Z Z (aZ (JS c88))) (G5 1 Z Ly Z Z) Z (TD.q Z (.g Z Z (aZ (JS c88))) (Hm ab Z) Z ?_)))
       refine TD.q Z (.g Z Z (aZ (JS c88))) (GY (k:=k50) Z Z Z KH LU (JV hx77).1) Z ?_
       refine TD.q Z (.g Z Z (aZ (JS c88))) (Hm ab Z) Z (TD.q Z (.g Z Z (aZ (JS c88))) (Hr 1 Z LI z78nf z78cc Z Z) Z (TD.q Z (.g Z Z (aZ (JS c88))) (Hm ab Z) Z (TD.q Z (.g Z Z (aZ (JS c88))) (G5 0 Z Ly Z Z) Z (TD.q Z (.g Z Z (aZ (JS c88))) (Hm ab Z) Z ?_))))
       refine TD.q Z (.g Z Z (aZ (JS c88))) (GY (k:=k50) Z Z Z KH LU (JV hx83).1) Z ?_
       refine TD.q Z (.g Z Z (aZ (JS c88))) (Hm ab Z) Z (TD.q Z (.g Z Z (aZ (JS c88))) (Hr 1 Z LI z84nf z84cc Z Z) Z ?_)
       obtain⟨x89,hx90,h⟩:=JO h
       refine Iv Z (.g Z Z (aZ (JS c88))) (.fn Tryz.call114 Z) (tu x76.Jf _ _ x82.Jf _ _ _ hx90) (fun _ hs=>(Hn (GS hs hX81) (GS hs hX87))) Z [0,0,0,0,0] (Z) (TD.q Z (.g Z Z (aZ (JS c88))) (Hm ab Z) Z (GM Z (H9 Z (aZ (JS c88)) Z) Z ?_))
       rcases jF h with⟨c91,h⟩ | ⟨c91,h⟩
       ·cases h
        exact TD.nil (Hx (d:=103) (v':= .bool false) Z (congrArg Value.bool (aZ c91)) (GP [0,0,0,0,0]))
       replace c91:=JW c91
       cases h
       exact TD.nil (Hx (d:=103) (v':= .bool true) Z (congrArg Value.bool (bw c91)) (GP [0,0,0,0,0]))
      refine TD.run ab [12,13] Z Z ?_
      iterate 12 refine HU Z (.gn Z Z (bw (JT c88))) Z ?_
      refine IB Z (.gn Z Z (bw (JT c88))) Z [0,0,0,0,0] Z (HU Z (.gn Z Z (bw (JT c88))) Z (GM Z (Ia Z (bw (JT c88)) Z) Z ?_))
      cases h
      exact TD.nil (GP [0,0,0,0,0])
     rintro _ _ ⟨rfl,rfl⟩
     clear h
     have h:=hk75
     clear hk75
     try dsimp only at h
     rcases jF h with⟨c92,h⟩ | ⟨c92,h⟩
     ·refine X.seq (GO Z c92 (GC Z (GB ab 1 Z ?_)))
      obtain rfl:=JP h
      obtain rfl:=JP hO53
      obtain rfl:=JP hO23
      exact GD (T.ret (GN (GH (GH (GN (GN (GH (GH (GN (GH (GL [4] MT (GF Z))))))))))))
     replace c92:=JW c92
     refine X.seq (G7 Z c92 (T.skip (GX (X.seq (T.region Z ?_)))))
     obtain⟨c93,h⟩:=ay h
     exact GB ab 1 Z (GE Z (Ex.add Z Z c93) Z (GB ab 1 Z (TL.nil (X.back (m':=m54) [0,0,0,0,0] (by omega) ⟨y49,k50+1,Z,Z,h⟩ (by rfl) (by rfl)))))
    refine Ha Z c58 ?_
    obtain rfl:=JP h
    replace h:=hO53
    clear hO53
    try dsimp only at h
    refine T.exit (GT (GT (Hu (GX (X.seq (T.region Z ?_))))))
    obtain⟨c94,h⟩:=ay h
    exact GB ab 1 Z (GE Z (Ex.add Z Z c94) Z (GB ab 1 Z (TL.nil (X.back (m':=m24) [2,2,2] (by omega) ⟨y49,k20+1,Z,Z,h⟩ (by rfl) (by rfl)))))
  refine Ha Z c28 ?_
  obtain rfl:=JP h
  replace h:=hO23
  clear hO23
  try dsimp only at h
  refine T.exit (GT (GT (Hu (X.seq (GC Z (GB ab 1 Z ?_))))))
  obtain rfl:=JP h
  exact GD (T.ret (GL [2] MT (GF Z)))
def sa:eP := [(23,0,0),(23,1,1),(45,0,0),(45,1,1),(45,2,2),(45,3,3),(212,0,0),(212,1,2),(212,2,3)]
theorem au:(sa).OK Tryz.prog:=⟨FOK.mk Kf rfl Kr rfl,FOK.mk Kf rfl Kk rfl,FOK.mk LE rfl JX rfl,FOK.mk LE rfl JX rfl,FOK.mk LE rfl JX rfl,FOK.mk LE rfl J2 rfl,FOK.mk Kw rfl J2 rfl,FOK.mk Kw rfl JX rfl,FOK.mk Kw rfl JX rfl,trivial⟩
def sb:List Nat := [3,4,9]
theorem cn:NOK Tryz.prog sb:=⟨JZ,KG,Ks,trivial⟩
def gY (a0:Int) (a1:Int):Option (Int):=if a0=0 then (if a1=3 then some 0 else (if a1=4 then some 0 else some 7)) else (if a0=22 then (if a1=0 then some 0 else (if a1=1 then some 0 else some 7)) else (if a0=27 then (if a1=0 then some 0 else (if a1=1 then some 0 else some 7)) else (if a0=24 then (if a1=0 then some 0 else some 7) else (if a0=26 then (if a1=0 then some 0 else some 7) else some 12))))
theorem o6 (a0:Int) (a1:Int) (r:Int) (h:gY a0 a1=some r):aE Tryz.prog 103 #[jI a0,jI a1] .triv (aO) (fun v A' N=>v=jI r∧A'=aO∧N = []):=by
 refine aU Tryz.func103 Z Tryz.ntmps103 Z ?_
 intro F w hX
 unfold gY at h
 refine GC Z (GK au Z (T.seq (GC Z (GK au Z (T.block (GC Z (GB au 2 Z ?_)))))))
 rcases jF h with⟨c1,h⟩ | ⟨c1,h⟩
 ·refine G9 Z c1 (T.seq (GC Z ?_))
  rcases jF h with⟨c2,h⟩ | ⟨c2,h⟩
  ·refine GB au 3 Z (GI 10 Z (JS c2) (Hk au Z (GO Z Z (GC Z (GB au 1 Z ?_)))))
   obtain rfl:=JP h
   exact GD (T.ret (GH (GN (GH (GL [0] KZ (GF Z))))))
  refine GB au 3 Z (GI 10 Z (JT c2) (GJ au 3 Z ?_))
  rcases jF h with⟨c3,h⟩ | ⟨c3,h⟩
  ·refine G9 Z c3 (GC Z (GB au 1 Z ?_))
   obtain rfl:=JP h
   exact GD (T.ret (GH (GN (GH (GL [0] KZ (GF Z))))))
  refine Ha Z c3 (Hb Z (GB au 1 Z ?_))
  obtain rfl:=JP h
  exact GD (T.ret (GN (GH (GL [0] KZ (GF Z)))))
 refine Ha Z c1 (T.seq (GC Z (GB au 2 Z ?_)))
 rcases jF h with⟨c4,h⟩ | ⟨c4,h⟩
 ·refine G9 Z c4 (GW (Ij Z c4 (T.seq (GC Z ?_))))
  rcases jF h with⟨c5,h⟩ | ⟨c5,h⟩
  ·refine GB au 3 Z (GI 19 Z (JS c5) (Hk au Z (GO Z Z (GC Z (GB au 1 Z ?_)))))
   obtain rfl:=JP h
   exact GD (T.ret (GH (GN (GH (GL [0] KZ (GF Z))))))
  refine GB au 3 Z (GI 19 Z (JT c5) (GJ au 3 Z ?_))
  rcases jF h with⟨c6,h⟩ | ⟨c6,h⟩
  ·refine G9 Z c6 (GC Z (GB au 1 Z ?_))
   obtain rfl:=JP h
   exact GD (T.ret (GH (GN (GH (GL [0] KZ (GF Z))))))
  refine Ha Z c6 (Hb Z (GB au 1 Z ?_))
  obtain rfl:=JP h
  exact GD (T.ret (GN (GH (GL [0] KZ (GF Z)))))
 refine Ha Z c4 (T.region Z (GB au 2 Z ?_))
 rcases jF h with⟨c7,h⟩ | ⟨c7,h⟩
 ·refine G9 Z c7 (T.seq (GC Z ?_))
  rcases jF h with⟨c8,h⟩ | ⟨c8,h⟩
  ·refine GB au 3 Z (GI 19 Z (JS c8) (Hk au Z (GO Z Z (GC Z (GB au 1 Z ?_)))))
   obtain rfl:=JP h
   exact GD (T.ret (GH (GN (GH (GL [0] KZ (GF Z))))))
  refine GB au 3 Z (GI 19 Z (JT c8) (GJ au 3 Z ?_))
  rcases jF h with⟨c9,h⟩ | ⟨c9,h⟩
  ·refine G9 Z c9 (GC Z (GB au 1 Z ?_))
   obtain rfl:=JP h
   exact GD (T.ret (GH (GN (GH (GL [0] KZ (GF Z))))))
  refine Ha Z c9 (Hb Z (GB au 1 Z ?_))
  obtain rfl:=JP h
  exact GD (T.ret (GN (GH (GL [0] KZ (GF Z)))))
 refine Ha Z c7 (T.seq (GC Z (GB au 2 Z ?_)))
 rcases jF h with⟨c10,h⟩ | ⟨c10,h⟩
 ·refine G9 Z c10 (GW (Ij Z c10 (T.seq (GC Z (GB au 2 Z ?_)))))
  rcases jF h with⟨c11,h⟩ | ⟨c11,h⟩
  ·refine G9 Z c11 (GC Z (GB au 1 Z ?_))
   obtain rfl:=JP h
   exact GD (T.ret (GH (GN (GH (GL [0] KZ (GF Z))))))
  refine Ha Z c11 (Hb Z (GB au 1 Z ?_))
  obtain rfl:=JP h
  exact GD (T.ret (GN (GH (GL [0] KZ (GF Z)))))
 refine Ha Z c10 (T.region Z (GB au 2 Z ?_))
 rcases jF h with⟨c12,h⟩ | ⟨c12,h⟩
 ·refine G9 Z c12 (T.seq (GC Z (GB au 2 Z ?_)))
  rcases jF h with⟨c13,h⟩ | ⟨c13,h⟩
  ·refine G9 Z c13 (GC Z (GB au 1 Z ?_))
   obtain rfl:=JP h
   exact GD (T.ret (GH (GN (GH (GL [0] KZ (GF Z))))))
  refine Ha Z c13 (Hb Z (GB au 1 Z ?_))
  obtain rfl:=JP h
  exact GD (T.ret (GN (GH (GL [0] KZ (GF Z)))))
 refine Ha Z c12 (T.skip (GX (X.seq (GC Z (GB au 1 Z ?_)))))
 obtain rfl:=JP h
 exact GD (T.ret (GL [0] KZ (GF Z)))
def kf (a0:jd):Option (Int):=(gY a0.Jk a0.Jg).bind fun x2=>if x2=0 then (if a0.Jo<(-2147483648) then some 11 else (if a0.Jo>2147483647 then some 11 else (if a0.Je.null=true then (if a0.Je.data = [] then (if (a0.Je.data.length:Int)>32767 then some 4 else some 0) else some 4) else (if (a0.Je.data.length:Int)>32767 then some 4 else some 0)))) else some x2
theorem sc (a0:jd) (r:Int) (h:kf a0=some r):aE Tryz.prog 53 #[.agg #[jI a0.Jk,jI a0.Jg,jI a0.Jo,.bool a0.Je.null,jS a0.Je.data]] .triv (aO) (fun v A' N=>v=jI r∧A'=aO∧N = []):=by
 refine aU Tryz.func53 Z Tryz.ntmps53 Z ?_
 intro F w hX
 unfold kf at h
 refine GC Z (TL.box Z .u Z Z (fun b1=>(G4 au Z Z ?_)))
 obtain⟨x2,hx3,h⟩:=JO h
 refine GG au cn 0 Z 4 Z Z (GZ Z .u (.fn Tryz.call103 Z) (o6 a0.Jk a0.Jg _ hx3) rT Z (GK au Z (T.seq (GC Z (GB au 2 Z ?_)))))
 rcases jF h with⟨c4,h⟩ | ⟨c4,h⟩
 ·refine He Z c4 (GW (T.seq (GC Z ?_)))
  rcases jF h with⟨c5,h⟩ | ⟨c5,h⟩
  ·refine GG au cn 0 Z 4 Z Z (GI 15 Z (JS c5) (Hk au Z (GO Z Z (GC Z (GB au 1 Z ?_)))))
   obtain rfl:=JP h
   exact GD (T.ret (GH (GL [1] LJ (GF Z))))
  refine GG au cn 0 Z 4 Z Z (GI 15 Z (JT c5) (GG au cn 0 Z 4 Z Z ?_))
  rcases jF h with⟨c6,h⟩ | ⟨c6,h⟩
  ·refine G9 Z c6 (GC Z (GB au 1 Z ?_))
   obtain rfl:=JP h
   exact GD (T.ret (GH (GL [1] LJ (GF Z))))
  refine Ha Z c6 (GW (T.seq (GC Z ?_)))
  rcases jF h with⟨c7,h⟩ | ⟨c7,h⟩
  ·refine GG au cn 0 Z 4 Z Z (GI 23 Z c7 (GG au cn 0 Z 3 Z Z (TL.q Z (.g Z Z Z) (IY Z (m := []) Z) Z ?_)))
   rcases jF h with⟨c8,h⟩ | ⟨c8,h⟩
   ·refine GJ au 2 Z (GI 29 Z (aZ (JS c8)) (GG au cn 0 Z 3 Z Z (TL.q Z (.g Z Z Z) (Hw Z J3) Z (GJ au 2 Z ?_))))
    rcases jF h with⟨c9,h⟩ | ⟨c9,h⟩
    ·refine G9 Z c9 (GC Z (GB au 1 Z ?_))
     obtain rfl:=JP h
     exact GD (T.ret (GH (GL [1] LJ (GF Z))))
    refine Ha Z c9 (Hb Z (GB au 1 Z ?_))
    obtain rfl:=JP h
    exact GD (T.ret (GL [1] LJ (GF Z)))
   refine GJ au 2 Z (GI 29 Z (bw (JT c8)) (Hk au Z (GO Z Z (GC Z (GB au 1 Z ?_)))))
   obtain rfl:=JP h
   exact GD (T.ret (GH (GL [1] LJ (GF Z))))
  replace c7:=JW c7
  refine GG au cn 0 Z 4 Z Z (GI 23 Z c7 (GG au cn 0 Z 9 Z Z (TL.q Z (.g Z Z Z) (Hw Z J3) Z (GJ au 2 Z ?_))))
  rcases jF h with⟨c10,h⟩ | ⟨c10,h⟩
  ·refine G9 Z c10 (GC Z (GB au 1 Z ?_))
   obtain rfl:=JP h
   exact GD (T.ret (GH (GL [1] LJ (GF Z))))
  refine Ha Z c10 (Hb Z (GB au 1 Z ?_))
  obtain rfl:=JP h
  exact GD (T.ret (GL [1] LJ (GF Z)))
 refine Hc Z c4 (GC Z (GB au 2 Z ?_))
 obtain rfl:=JP h
 exact GD (T.ret (GH (GL [1] LJ (GF Z))))
def sd:eP := [(23,0,0),(23,1,1),(47,0,0),(47,1,2),(47,2,3),(47,3,4),(47,4,5),(47,5,6),(212,0,0),(212,1,2),(212,2,3)]
theorem ak:(sd).OK Tryz.prog:=⟨FOK.mk Kf rfl Kr rfl,FOK.mk Kf rfl Kk rfl,FOK.mk Lr rfl J2 rfl,FOK.mk Lr rfl JX rfl,FOK.mk Lr rfl JX rfl,FOK.mk Lr rfl JX rfl,FOK.mk Lr rfl LG rfl,FOK.mk Lr rfl Kr rfl,FOK.mk Kw rfl J2 rfl,FOK.mk Kw rfl JX rfl,FOK.mk Kw rfl JX rfl,trivial⟩
def se:List Nat := [3,4,9,28]
theorem aG:NOK Tryz.prog se:=⟨JZ,KG,Ks,Lm,trivial⟩
theorem gL:fM Tryz.prog 2 23 [.bool,.string] true:=(fM.struct Kt J2 rfl Tryz.underlying23 Tryz.stoodInHeld23 ⟨by decide,rfl,[.bool],[.string],false,rfl,(HZ KG Kr Tryz.underlying4),⟨by decide,rfl,[.string],[],false,rfl,(HZ Ks Kk Tryz.underlying9),rfl⟩⟩)
def iS (a0:Bl):Option (Bool):=(if a0.null=true then some false else (if (a0.data.length:Int)≥1 then (if (a0.data.length:Int)≤32767 then some true else some false) else some false)).bind fun y4=>some y4
theorem mw (a0:Bl) (r:Bool) (h:iS a0=some r):aE Tryz.prog 107 #[.agg #[.bool a0.null,jS a0.data]] .triv (aO) (fun v A' N=>v= .bool r∧A'=aO∧N = []):=by
 refine aU Tryz.func107 Z Tryz.ntmps107 Z ?_
 intro F w hX
 unfold iS at h
 refine GC Z (TL.box Z .u Z Z (fun b1=>(GK ak Z (T.seq ?_))))
 obtain⟨y4,h,hk5⟩:=JO h
 refine HJ (fun e Rs=>e = [(2,.bool y4)]∧Rs = [aT b1 23 #[.bool a0.null,jS a0.data],aO]) ?_ ?_
 ·clear hk5
  refine T.region Z ?_
  rcases jF h with⟨c6,h⟩ | ⟨c6,h⟩
  ·refine GG ak aG 0 Z 4 Z Z (GI 6 Z (aZ c6) (GJ ak 12 Z ?_))
   cases h
   exact TL.nil (GP [0,0])
  replace c6:=JW c6
  refine GG ak aG 0 Z 4 Z Z (GI 6 Z (bw c6) (GG ak aG 0 Z 2 Z Z (TL.q Z (.g Z Z Z) (Hw Z J3) Z ?_)))
  rcases jF h with⟨c7,h⟩ | ⟨c7,h⟩
  ·refine GJ ak 3 Z (GI 12 Z (JS c7) (GG ak aG 0 Z 2 Z Z (TL.q Z (.g Z Z Z) (Hw Z J3) Z (GJ ak 3 Z ?_))))
   rcases jF h with⟨c8,h⟩ | ⟨c8,h⟩
   ·cases h
    exact TL.nil (Hx (d:=2) (v':= .bool true) Z (congrArg Value.bool (JS c8)) (GP [0,0]))
   cases h
   exact TL.nil (Hx (d:=2) (v':= .bool false) Z (congrArg Value.bool (JT c8)) (GP [0,0]))
  refine GJ ak 3 Z (GI 12 Z (JT c7) (GJ ak 6 Z ?_))
  cases h
  exact TL.nil (GP [0,0])
 rintro _ _ ⟨rfl,rfl⟩
 clear h
 have h:=hk5
 clear hk5
 try dsimp only at h
 obtain rfl:=JP h
 exact X.seq (T.ret (GL [1] Tryz.results107 (GF Z)))
def jQ (a0:bK):Option (Bool):=(if a0.I6≥0 then (if a0.I8≥0 then (if a0.I8≤32767 then some true else some false) else some false) else some false).bind fun y6=>some y6
theorem ln (a0:bK) (A1:Option Addr) (c2:Nat) (r:Bool) (h:jQ a0=some r):aE Tryz.prog 108 #[.agg (wA6 a0 A1 c2)] (RX.of (ao 2 ba) [.slice A1 a0.I5.length c2] a0.I5) (aO) (fun v A' N=>v= .bool r∧A'=aO∧N = []):=by
 refine aU Tryz.func108 Z Tryz.ntmps108 Z ?_
 intro F w hX
 unfold jQ at h
 refine GC Z (TL.box Z .u Z Z (fun b3=>(GK ak Z (T.seq ?_))))
 obtain⟨y6,h,hk7⟩:=JO h
 refine HJ (fun e Rs=>e = [(2,.bool y6)]∧Rs = [aT b3 47 (wA6 a0 A1 c2),aO]) ?_ ?_
 ·clear hk7
  refine T.region Z ?_
  rcases jF h with⟨c8,h⟩ | ⟨c8,h⟩
  ·refine GG ak aG 0 Z 4 Z Z (GI 6 Z (JS c8) ?_)
   rcases jF h with⟨c9,h⟩ | ⟨c9,h⟩
   ·refine GG ak aG 0 Z 5 Z Z (GI 11 Z (JS c9) (GG ak aG 0 Z 5 Z Z ?_))
    rcases jF h with⟨c10,h⟩ | ⟨c10,h⟩
    ·cases h
     exact TL.nil (Hx (d:=2) (v':= .bool true) Z (congrArg Value.bool (JS c10)) (GP [0,0]))
    cases h
    exact TL.nil (Hx (d:=2) (v':= .bool false) Z (congrArg Value.bool (JT c10)) (GP [0,0]))
   refine GG ak aG 0 Z 5 Z Z (GI 11 Z (JT c9) (GJ ak 5 Z ?_))
   cases h
   exact TL.nil (GP [0,0])
  refine GG ak aG 0 Z 4 Z Z (GI 6 Z (JT c8) (GJ ak 10 Z ?_))
  cases h
  exact TL.nil (GP [0,0])
 rintro _ _ ⟨rfl,rfl⟩
 clear h
 have h:=hk7
 clear hk7
 try dsimp only at h
 obtain rfl:=JP h
 exact X.seq (T.ret (GL [1] Tryz.results108 (GF Z)))
def iT (a0:Int) (a1:Int) (a2:bK):Option (Int):=if a0=22 then ((if a2.Jc.null=true then (if a2.Jc.data = [] then some false else some true) else ((iS a2.Jc).bind fun x13=>if x13=true then some false else some true)).bind fun y9=>if y9=true then some 4 else ((if a2.Jb<0 then some true else (if a2.Jb>2147483647 then some true else some false)).bind fun y18=>if y18=true then some 11 else ((if a2.I6=(-1) then (if a2.I8=(-1) then some true else (if a1=1 then ((jQ a2).bind fun x36=>some x36) else some false)) else (if a1=1 then ((jQ a2).bind fun x39=>some x39) else some false)).bind fun y31=>if y31=true then some 0 else some 11))) else ((iS a2.Jc).bind fun x42=>if x42=true then ((jQ a2).bind fun x45=>if x45=true then ((if a0=24 then (if (a2.I5.length:Int)=0 then some true else some false) else some false).bind fun y49=>if y49=true then some 10 else ((if a0=24 then ((gi a2.I5).bind fun x60=>if x60=true then some false else some true) else some false).bind fun y57=>if y57=true then some 13 else some 0)) else some 11) else some 4)
theorem sf (a0:Int) (a1:Int) (a2:bK) (A1:Option Addr) (c2:Nat) (r:Int) (h:iT a0 a1 a2=some r):aE Tryz.prog 56 #[jI a0,jI a1,.agg (wA6 a2 A1 c2)] (RX.of (ao 2 ba) [.slice A1 a2.I5.length c2] a2.I5) (aO) (fun v A' N=>v=jI r∧A'=aO∧N = []):=by
 refine aU Tryz.func56 Z Tryz.ntmps56 Z ?_
 intro F w hX
 unfold iT at h
 refine GC Z (TL.box Z .u Z Z (fun b3=>(GK ak Z (T.seq (GC Z (GB ak 2 Z ?_))))))
 rcases jF h with⟨c4,h⟩ | ⟨c4,h⟩
 ·refine He Z c4 (GW (In ?_))
  obtain⟨y9,h,hk10⟩:=JO h
  refine HJ (fun e Rs=>e = [(1,jI a1),(5,jP b3),(6,jI 0),(52,.bool y9)]∧Rs = [aT b3 47 (wA6 a2 A1 c2),aO]) ?_ ?_
  ·clear hk10
   refine T.region Z ?_
   rcases jF h with⟨c11,h⟩ | ⟨c11,h⟩
   ·refine GG ak aG 0 Z 4 Z Z (GI 35 Z c11 (GG ak aG 0 Z 3 Z Z (TL.q Z (.g Z Z Z) (IY Z (m := []) Z) Z ?_)))
    rcases jF h with⟨c12,h⟩ | ⟨c12,h⟩
    ·refine GJ ak 2 Z (GI 41 Z (aZ (JS c12)) (GG ak aG 0 Z 5 Z Z (GI 46 Z (aZ c11) (GJ ak 6 Z ?_))))
     cases h
     exact TL.nil (GP [0,0])
    refine GJ ak 2 Z (GI 41 Z (bw (JT c12)) (GJ ak 11 Z ?_))
    cases h
    exact TL.nil (GP [0,0])
   replace c11:=JW c11
   refine GG ak aG 0 Z 4 Z Z (GI 35 Z c11 (GG ak aG 0 Z 11 Z Z (GI 46 Z (bw c11) (GJ ak 1 Z (TL.q Z (.g Z Z Z) (GR (us := [.bool a2.Jc.null,jS a2.Jc.data]) 0 Z Kt J2 Z Z Z) Z ?_)))))
   obtain⟨x13,hx14,h⟩:=JO h
   refine GZ Z (.g Z Z Z) (.fn Tryz.call107 Z) (mw a2.Jc _ hx14) rT Z (GJ ak 3 Z ?_)
   rcases jF h with⟨c15,h⟩ | ⟨c15,h⟩
   ·cases h
    exact TL.nil (Hx (d:=52) (v':= .bool false) Z (congrArg Value.bool (aZ c15)) (GP [0,0]))
   replace c15:=JW c15
   cases h
   exact TL.nil (Hx (d:=52) (v':= .bool true) Z (congrArg Value.bool (bw c15)) (GP [0,0]))
  rintro _ _ ⟨rfl,rfl⟩
  clear h
  have h:=hk10
  clear hk10
  try dsimp only at h
  rcases jF h with⟨c16,h⟩ | ⟨c16,h⟩
  ·refine X.seq (GO Z c16 (GC Z (GB ak 1 Z ?_)))
   obtain rfl:=JP h
   exact GD (T.ret (GH (GL [1] LA (GF Z))))
  replace c16:=JW c16
  refine X.seq (G7 Z c16 (GW (In ?_)))
  obtain⟨y18,h,hk19⟩:=JO h
  refine HJ (fun e Rs=>e = [(1,jI a1),(5,jP b3),(6,jI 0),(60,.bool y18)]∧Rs = [aT b3 47 (wA6 a2 A1 c2),aO]) ?_ ?_
  ·clear hk19
   refine T.region Z ?_
   rcases jF h with⟨c20,h⟩ | ⟨c20,h⟩
   ·refine GG ak aG 0 Z 4 Z Z (GI 56 Z (JS c20) (GJ ak 4 Z ?_))
    cases h
    exact TL.nil (GP [0,0])
   refine GG ak aG 0 Z 4 Z Z (GI 56 Z (JT c20) (GG ak aG 0 Z 4 Z Z ?_))
   rcases jF h with⟨c21,h⟩ | ⟨c21,h⟩
   ·cases h
    exact TL.nil (Hx (d:=60) (v':= .bool true) Z (congrArg Value.bool (JS c21)) (GP [0,0]))
   cases h
   exact TL.nil (Hx (d:=60) (v':= .bool false) Z (congrArg Value.bool (JT c21)) (GP [0,0]))
  rintro _ _ ⟨rfl,rfl⟩
  clear h
  have h:=hk19
  clear hk19
  try dsimp only at h
  rcases jF h with⟨c22,h⟩ | ⟨c22,h⟩
  ·refine X.seq (GO Z c22 (GC Z (GB ak 1 Z ?_)))
   obtain rfl:=JP h
   exact GD (T.ret (GH (GL [1] LA (GF Z))))
  replace c22:=JW c22
  refine X.seq (G7 Z c22 (GW (In ?_)))
  obtain⟨y31,h,hk32⟩:=JO h
  refine HJ (fun e Rs=>e = [(6,jI 0),(76,.bool y31)]∧Rs = [aT b3 47 (wA6 a2 A1 c2),aO]) ?_ ?_
  ·clear hk32
   refine T.region Z ?_
   rcases jF h with⟨c33,h⟩ | ⟨c33,h⟩
   ·refine GG ak aG 0 Z 4 Z Z (GI 64 Z (JS c33) ?_)
    rcases jF h with⟨c34,h⟩ | ⟨c34,h⟩
    ·refine GG ak aG 0 Z 5 Z Z (GI 69 Z (JS c34) (GJ ak 7 Z ?_))
     cases h
     exact TL.nil (GP [0,0])
    refine GG ak aG 0 Z 5 Z Z (GI 69 Z (JT c34) ?_)
    rcases jF h with⟨c35,h⟩ | ⟨c35,h⟩
    ·refine GJ ak 3 Z (GI 72 Z (JS c35) (TL.q Z (.g Z Z Z) (GR (us:=wL7 a2 A1 c2) 0 Z Ms Lq Z Z Z) Z ?_))
     obtain⟨x36,hx37,h⟩:=JO h
     refine GZ Z (.g Z Z Z) (.fn Tryz.call108 Z) (ln a2 _ _ _ hx37) (fun _ hs=>(GS hs hX)) Z (GJ ak 2 Z ?_)
     cases h
     exact TL.nil (GP [0,0])
    refine GJ ak 3 Z (GI 72 Z (JT c35) (GJ ak 4 Z ?_))
    cases h
    exact TL.nil (GP [0,0])
   refine GG ak aG 0 Z 4 Z Z (GI 64 Z (JT c33) ?_)
   rcases jF h with⟨c38,h⟩ | ⟨c38,h⟩
   ·refine GJ ak 8 Z (GI 72 Z (JS c38) (TL.q Z (.g Z Z Z) (GR (us:=wL7 a2 A1 c2) 0 Z Ms Lq Z Z Z) Z ?_))
    obtain⟨x39,hx40,h⟩:=JO h
    refine GZ Z (.g Z Z Z) (.fn Tryz.call108 Z) (ln a2 _ _ _ hx40) (fun _ hs=>(GS hs hX)) Z (GJ ak 2 Z ?_)
    cases h
    exact TL.nil (GP [0,0])
   refine GJ ak 8 Z (GI 72 Z (JT c38) (GJ ak 4 Z ?_))
   cases h
   exact TL.nil (GP [0,0])
  rintro _ _ ⟨rfl,rfl⟩
  clear h
  have h:=hk32
  clear hk32
  try dsimp only at h
  rcases jF h with⟨c41,h⟩ | ⟨c41,h⟩
  ·refine X.seq (GO Z c41 (GC Z (GB ak 1 Z ?_)))
   obtain rfl:=JP h
   exact GD (T.ret (GH (GL [1] LA (GF Z))))
  replace c41:=JW c41
  refine X.seq (G7 Z c41 (Hb Z (GB ak 1 Z ?_)))
  obtain rfl:=JP h
  exact GD (T.ret (GL [1] LA (GF Z)))
 refine Hc Z c4 (T.seq (GC Z (GB ak 1 Z (GE Z (GR (us := [.bool a2.Jc.null,jS a2.Jc.data]) 0 Z Kt J2 Z Z Z) Z ?_))))
 obtain⟨x42,hx43,h⟩:=JO h
 refine GZ Z .u (.fn Tryz.call107 Z) (mw a2.Jc _ hx43) rT Z (GB ak 1 Z ?_)
 rcases jF h with⟨c44,h⟩ | ⟨c44,h⟩
 ·refine GD (G7 Z (aZ c44) (GW (T.seq (GC Z (GE Z (GR (us:=wL7 a2 A1 c2) 0 Z Ms Lq Z Z Z) Z ?_)))))
  obtain⟨x45,hx46,h⟩:=JO h
  refine GZ Z .u (.fn Tryz.call108 Z) (ln a2 _ _ _ hx46) (fun _ hs=>(GS hs hX)) Z (GB ak 1 Z ?_)
  rcases jF h with⟨c47,h⟩ | ⟨c47,h⟩
  ·refine GD (G7 Z (aZ c47) (GW (In ?_)))
   obtain⟨y49,h,hk50⟩:=JO h
   refine HJ (fun e Rs=>e = [(0,jI a0),(1,jI a1),(5,jP b3),(6,jI 0),(23,.bool y49)]∧Rs = [aT b3 47 (wA6 a2 A1 c2),aO]) ?_ ?_
   ·clear hk50
    refine T.region Z ?_
    rcases jF h with⟨c51,h⟩ | ⟨c51,h⟩
    ·refine GB ak 3 Z (GI 18 Z (JS c51) (GG ak aG 0 Z 2 Z Z (TL.q Z (.g Z Z Z) (GQ Z J8) Z (GJ ak 2 Z ?_))))
     rcases jF h with⟨c52,h⟩ | ⟨c52,h⟩
     ·cases h
      exact TL.nil (Hx (d:=23) (v':= .bool true) Z (congrArg Value.bool (JS c52)) (GP [0,0]))
     cases h
     exact TL.nil (Hx (d:=23) (v':= .bool false) Z (congrArg Value.bool (JT c52)) (GP [0,0]))
    refine GB ak 3 Z (GI 18 Z (JT c51) (GJ ak 5 Z ?_))
    cases h
    exact TL.nil (GP [0,0])
   rintro _ _ ⟨rfl,rfl⟩
   clear h
   have h:=hk50
   clear hk50
   try dsimp only at h
   rcases jF h with⟨c53,h⟩ | ⟨c53,h⟩
   ·refine X.seq (GO Z c53 (GC Z (GB ak 1 Z ?_)))
    obtain rfl:=JP h
    exact GD (T.ret (GH (GH (GL [1] LA (GF Z)))))
   replace c53:=JW c53
   refine X.seq (G7 Z c53 (GW (In ?_)))
   obtain⟨y57,h,hk58⟩:=JO h
   refine HJ (fun e Rs=>e = [(1,jI a1),(5,jP b3),(6,jI 0),(31,.bool y57)]∧Rs = [aT b3 47 (wA6 a2 A1 c2),aO]) ?_ ?_
   ·clear hk58
    refine T.region Z ?_
    rcases jF h with⟨c59,h⟩ | ⟨c59,h⟩
    ·refine GB ak 3 Z (GI 26 Z (JS c59) ?_)
     obtain⟨x60,hx61,h⟩:=JO h
     refine GG ak aG 0 Z 2 Z Z (GZ Z (.g Z Z Z) (.fn Tryz.call109 Z) (ku a2.I5 _ _ _ hx61) (fun _ hs=>(GS hs hX)) Z (GJ ak 2 Z ?_))
     rcases jF h with⟨c62,h⟩ | ⟨c62,h⟩
     ·cases h
      exact TL.nil (Hx (d:=31) (v':= .bool false) Z (congrArg Value.bool (aZ c62)) (GP [0,0]))
     replace c62:=JW c62
     cases h
     exact TL.nil (Hx (d:=31) (v':= .bool true) Z (congrArg Value.bool (bw c62)) (GP [0,0]))
    refine GB ak 3 Z (GI 26 Z (JT c59) (GJ ak 5 Z ?_))
    cases h
    exact TL.nil (GP [0,0])
   rintro _ _ ⟨rfl,rfl⟩
   clear h
   have h:=hk58
   clear hk58
   try dsimp only at h
   rcases jF h with⟨c63,h⟩ | ⟨c63,h⟩
   ·refine X.seq (GO Z c63 (GC Z (GB ak 1 Z ?_)))
    obtain rfl:=JP h
    exact GD (T.ret (GH (GH (GL [1] LA (GF Z)))))
   replace c63:=JW c63
   refine X.seq (G7 Z c63 (Hb Z (GB ak 1 Z ?_)))
   obtain rfl:=JP h
   exact GD (T.ret (GH (GL [1] LA (GF Z))))
  replace c47:=JW c47
  refine GD (GO Z (bw c47) (GC Z (GB ak 1 Z ?_)))
  obtain rfl:=JP h
  exact GD (T.ret (GH (GH (GL [1] LA (GF Z)))))
 replace c44:=JW c44
 refine GD (GO Z (bw c44) (GC Z (GB ak 1 Z ?_)))
 obtain rfl:=JP h
 exact GD (T.ret (GH (GH (GL [1] LA (GF Z)))))
def jR (a0:bK) (a1:bK):Option (Bool):=(if a0.Jc.null=a1.Jc.null then (if a0.Jc.data=a1.Jc.data then (if a0.Jb=a1.Jb then (if a0.I6=a1.I6 then (if a0.I8=a1.I8 then (if a0.Js=true then (if a1.Js=true then ((cJ a0.I5 a1.I5).bind fun x28=>some x28) else some false) else (if a1.Js=true then some false else ((cJ a0.I5 a1.I5).bind fun x31=>some x31))) else some false) else some false) else some false) else some false) else some false).bind fun y19=>some y19
theorem tF (a0:bK) (A1:Option Addr) (c2:Nat) (a1:bK) (A3:Option Addr) (c4:Nat) (r:Bool) (h:jR a0 a1=some r):aE Tryz.prog 64 #[.agg (wA6 a0 A1 c2),.agg (wA6 a1 A3 c4)] (RX.and (RX.of (ao 2 ba) [.slice A1 a0.I5.length c2] a0.I5) (RX.of (ao 2 ba) [.slice A3 a1.I5.length c4] a1.I5)) (aO) (fun v A' N=>v= .bool r∧A'=aO∧N = []):=by
 refine aU Tryz.func64 Z Tryz.ntmps64 Z ?_
 intro F w hX
 unfold jR at h
 refine GC Z (TL.box Z .u Z Z (fun b5=>(TL.box Z .u Z Z (fun b6=>(GK ak Z (T.seq ?_))))))
 obtain⟨y19,h,hk20⟩:=JO h
 refine HJ (fun e Rs=>e = [(4,.bool y19)]∧Rs = [aT b6 47 (wA6 a1 A3 c4),aT b5 47 (wA6 a0 A1 c2),aO]) ?_ ?_
 ·clear hk20
  refine T.region Z (GB ak 1 Z (GE Z (GR (us := [.bool a0.Jc.null,jS a0.Jc.data]) 1 Z Kt J2 Z Z Z) Z (GB ak 1 Z (GE Z (GR (us := [.bool a1.Jc.null,jS a1.Jc.data]) 0 Z Kt J2 Z Z Z) Z ?_))))
  rcases jF h with⟨c21,h⟩ | ⟨c21,h⟩
  ·rcases jF h with⟨c22,h⟩ | ⟨c22,h⟩
   ·refine GE Z (Ie (us := [.bool a0.Jc.null,jS a0.Jc.data]) (vs := [.bool a1.Jc.null,jS a1.Jc.data]) gL Z KX Z Z Z Z (dw (mp c21) (dw (mq (l:=a0.Jc.data) (m:=a1.Jc.data) c22) Z))) Z (GG ak aG 1 Z 4 Z Z ?_)
    rcases jF h with⟨c23,h⟩ | ⟨c23,h⟩
    ·refine GG ak aG 0 Z 4 Z Z (GI 17 Z (JS c23) (GG ak aG 1 Z 3 Z Z ?_))
     rcases jF h with⟨c24,h⟩ | ⟨c24,h⟩
     ·refine GG ak aG 0 Z 4 Z Z (GI 24 Z (JS c24) (GG ak aG 1 Z 3 Z Z ?_))
      rcases jF h with⟨c25,h⟩ | ⟨c25,h⟩
      ·refine GG ak aG 0 Z 4 Z Z (GI 31 Z (JS c25) (GG ak aG 1 Z 3 Z Z ?_))
       rcases jF h with⟨c26,h⟩ | ⟨c26,h⟩
       ·rcases jF h with⟨c27,h⟩ | ⟨c27,h⟩
        ·refine GG ak aG 0 Z 1 Z Z (TL.q Z (.g Z Z Z) (Ex.bEq Z c26 Z c27 Ki) Z (GG ak aG 1 Z 5 Z Z ?_))
         obtain⟨x28,hx29,h⟩:=JO h
         refine GG ak aG 0 Z 1 Z Z (GZ Z (.g Z Z Z) (.fn Tryz.call113 Z) (fo a0.I5 _ _ a1.I5 _ _ _ hx29) (fun _ hs=>(Hn (GS hs (Ho hX)) (GS hs (G3 hX)))) Z (GJ ak 2 Z ?_))
         cases h
         exact TL.nil (GP [0,0,0])
        replace c27:=JW c27
        refine GG ak aG 0 Z 1 Z Z (TL.q Z (.g Z Z Z) (Ex.bEq Z c26 Z c27 Ki) Z (GJ ak 9 Z ?_))
        cases h
        exact TL.nil (GP [0,0,0])
       replace c26:=JW c26
       rcases jF h with⟨c30,h⟩ | ⟨c30,h⟩
       ·refine GG ak aG 0 Z 1 Z Z (TL.q Z (.g Z Z Z) (Ex.bEq Z c26 Z c30 Ki) Z (GJ ak 9 Z ?_))
        cases h
        exact TL.nil (GP [0,0,0])
       replace c30:=JW c30
       refine GG ak aG 0 Z 1 Z Z (TL.q Z (.g Z Z Z) (Ex.bEq Z c26 Z c30 Ki) Z (GG ak aG 1 Z 5 Z Z ?_))
       obtain⟨x31,hx32,h⟩:=JO h
       refine GG ak aG 0 Z 1 Z Z (GZ Z (.g Z Z Z) (.fn Tryz.call113 Z) (fo a0.I5 _ _ a1.I5 _ _ _ hx32) (fun _ hs=>(Hn (GS hs (Ho hX)) (GS hs (G3 hX)))) Z (GJ ak 2 Z ?_))
       cases h
       exact TL.nil (GP [0,0,0])
      refine GG ak aG 0 Z 4 Z Z (GI 31 Z (JT c25) (GJ ak 14 Z ?_))
      cases h
      exact TL.nil (GP [0,0,0])
     refine GG ak aG 0 Z 4 Z Z (GI 24 Z (JT c24) (GJ ak 21 Z ?_))
     cases h
     exact TL.nil (GP [0,0,0])
    refine GG ak aG 0 Z 4 Z Z (GI 17 Z (JT c23) (GJ ak 28 Z ?_))
    cases h
    exact TL.nil (GP [0,0,0])
   refine GE Z (Ie (us := [.bool a0.Jc.null,jS a0.Jc.data]) (vs := [.bool a1.Jc.null,jS a1.Jc.data]) gL Z KX Z Z Z Z (dw (mp c21) (iO (nS (l:=a0.Jc.data) (m:=a1.Jc.data) c22)))) Z (GJ ak 36 Z ?_)
   cases h
   exact TL.nil (GP [0,0,0])
  refine GE Z (Ie (us := [.bool a0.Jc.null,jS a0.Jc.data]) (vs := [.bool a1.Jc.null,jS a1.Jc.data]) gL Z KX Z Z Z Z (iO (pJ c21))) Z (GJ ak 36 Z ?_)
  cases h
  exact TL.nil (GP [0,0,0])
 rintro _ _ ⟨rfl,rfl⟩
 clear h
 have h:=hk20
 clear hk20
 try dsimp only at h
 obtain rfl:=JP h
 exact X.seq (T.ret (GL [2] Tryz.results64 (GF Z)))
end Go.Proofs.YtheikonlgjdopaaGreat.Sl
