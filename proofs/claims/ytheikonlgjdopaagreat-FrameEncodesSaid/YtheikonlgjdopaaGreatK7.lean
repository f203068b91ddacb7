/- frameEncodes_holds: part 7. -/
import Derived.Test.YtheikonlgjdopaaGreatK6
set_option maxRecDepth 100000
set_option maxHeartbeats 4000000
set_option linter.defProp false
namespace Go.Proofs.YtheikonlgjdopaaGreat.Sl
open Go.RowKit
set_option linter.unusedVariables false
set_option linter.unusedSimpArgs false
def Ow := @Tryz.results136
def Ph := @Tryz.results81
def Pj := @Tryz.results135
def PB := @Tryz.results138
def P7 := @Tryz.results134
def QF := @Tryz.results80
def H6:fg := [(91,0,0),(91,1,1),(97,0,0),(97,1,1),(97,2,2),(97,3,3),(97,4,4),(97,5,5),(97,6,6),(97,7,7),(97,8,8),(97,9,9),(97,10,10),(97,11,11),(159,0,0),(159,1,1),(159,2,2),(159,3,3),(159,4,4),(159,5,5),(159,6,6),(159,7,7),(159,8,8),(159,9,9),(159,10,10),(159,11,11)]
theorem ah:(H6).OK Tryz.prog:=⟨FOK.mk NU rfl Ny rfl,FOK.mk NU rfl Ny rfl,FOK.mk NQ rfl Ny rfl,FOK.mk NQ rfl Ny rfl,FOK.mk NQ rfl N5 rfl,FOK.mk NQ rfl N5 rfl,FOK.mk NQ rfl N5 rfl,FOK.mk NQ rfl Ny rfl,FOK.mk NQ rfl Ny rfl,FOK.mk NQ rfl Ny rfl,FOK.mk NQ rfl Ny rfl,FOK.mk NQ rfl Ny rfl,FOK.mk NQ rfl Ny rfl,FOK.mk NQ rfl Tryz.sizeOf95 rfl,FOK.mk NT rfl Ny rfl,FOK.mk NT rfl Ny rfl,FOK.mk NT rfl Ny rfl,FOK.mk NT rfl Ny rfl,FOK.mk NT rfl Ny rfl,FOK.mk NT rfl Ny rfl,FOK.mk NT rfl Ny rfl,FOK.mk NT rfl Ny rfl,FOK.mk NT rfl Ny rfl,FOK.mk NT rfl Ny rfl,FOK.mk NT rfl Ny rfl,FOK.mk NT rfl Ny rfl,trivial⟩
def H7:List Nat := [3,4,95]
theorem aO:NOK Tryz.prog H7:=⟨Nz,Ok,PD,trivial⟩
theorem o6:Tryz.prog.follows .mixedOrders=true:=by kernel_rfl
theorem gD:BOK Tryz.prog 97 #[.int .i64 0,.int .i64 0,.bool false,.bool false,.bool false,.int .i64 0,.int .i64 0,.int .i64 0,.int .i64 0,.int .i64 0,.int .i64 0,.slice none 0 0] [(0,1),(1,1),(2,1),(3,1),(4,1),(5,1),(6,1),(7,1),(8,1),(9,1),(10,1),(11,1)]:=BOK.mk Tryz.zeroValue97 NQ (by intro w; simp)
theorem yU:BOK Tryz.prog 112 #[.slice none 0 0,.int .i64 0] [(0,1),(1,1)]:=BOK.mk Tryz.zeroValue112 Tryz.runUnderlying112 (by intro w; simp)
theorem rL:BOK Tryz.prog 159 #[.int .i64 0,.int .i64 0,.int .i64 0,.int .i64 0,.int .i64 0,.int .i64 0,.int .i64 0,.int .i64 0,.int .i64 0,.int .i64 0,.int .i64 0,.int .i64 0] [(0,1),(1,1),(2,1),(3,1),(4,1),(5,1),(6,1),(7,1),(8,1),(9,1),(10,1),(11,1)]:=BOK.mk Tryz.zeroValue159 NT (by intro w; simp)
theorem kN:SOK Tryz.prog 78 9 2 1 #[.string ⟨#[]⟩,.string ⟨#[]⟩]:=SOK.mk Pg NZ Tryz.zeroValue9 QH QI
theorem xo:SOK Tryz.prog 95 91 1 7 #[.int .i64 0,.int .i64 0,.bool false,.string ⟨#[]⟩,.bool false,.string ⟨#[]⟩,.slice none 0 0]:=SOK.mk NK NG Tryz.zeroValue91 QH QI
theorem AP:(Tryz.prog.info? 91).map (fun i=>(i.zero,i.size,i.bytes))=some (some (.agg #[.int .i64 0,.int .i64 0,.bool false,.string ⟨#[]⟩,.bool false,.string ⟨#[]⟩,.slice none 0 0]),7,88):=by kernel_rfl
def iH (a0:Bat):Option (Bool):=if a0.Na≥0 then (if a0.M3≥(-1) then ((jM a0.M3 4).bind fun x6=>if x6=true then (if a0.M7≥0 then ((jM a0.M7 4).bind fun x10=>if x10=true then (if (IntKind.i64.wrap (a0.Na+a0.M7))≥0 then (if a0.MW≥0 then (if a0.Ng≥0 then some true else some false) else some false) else some false) else some false) else some false) else some false) else some false) else some false
theorem qz (a0:Bat) (A1:Option Addr) (c2:Nat) (r:Bool) (h:iH a0=some r):aH Tryz.prog 135 #[.agg (wA0 a0 A1 c2)] (RX.of (aq 7 da) [.slice A1 a0.MK.length c2] a0.MK) (aK) (fun v A' N=>v= .bool r∧A'=aK∧N = []):=by
 refine aU Tryz.func135 Z Tryz.ntmps135 Z ?_
 intro F w hX
 unfold iH at h
 refine KG Z (TL.box Z .u Z Z (fun b3=>(K8 ah Z Z ?_)))
 rcases jF h with⟨c4,h⟩ | ⟨c4,h⟩
 ·refine KK ah aO 0 Z 4 Z Z (KN 6 Z (Nt c4) ?_)
  rcases jF h with⟨c5,h⟩ | ⟨c5,h⟩
  ·refine KK ah aO 0 Z 5 Z Z (KN 11 Z (Nt c5) ?_)
   obtain⟨x6,hx7,h⟩:=Np h
   refine KK ah aO 0 Z 2 Z Z (K2 Z (.g Z Z Z) (.fn Tryz.call101 Z) (LB (fun w=>dF a0.M3 4 _ hx7 w)) (fun _ _=>Lk _ _) Z ?_)
   rcases jF h with⟨c8,h⟩ | ⟨c8,h⟩
   ·refine KM ah 2 Z (KN 16 Z c8 ?_)
    rcases jF h with⟨c9,h⟩ | ⟨c9,h⟩
    ·refine KK ah aO 0 Z 5 Z Z (KN 21 Z (Nt c9) ?_)
     obtain⟨x10,hx11,h⟩:=Np h
     refine KK ah aO 0 Z 2 Z Z (K2 Z (.g Z Z Z) (.fn Tryz.call101 Z) (LB (fun w=>dF a0.M7 4 _ hx11 w)) (fun _ _=>Lk _ _) Z ?_)
     rcases jF h with⟨c12,h⟩ | ⟨c12,h⟩
     ·refine KM ah 2 Z (KN 26 Z c12 (KK ah aO 0 Z 4 Z Z (TL.q Z (.g Z Z Z) (Ex.addw Z Z) Z ?_)))
      rcases jF h with⟨c13,h⟩ | ⟨c13,h⟩
      ·refine KM ah 3 Z (KN 34 Z (Nt c13) ?_)
       rcases jF h with⟨c14,h⟩ | ⟨c14,h⟩
       ·refine KK ah aO 0 Z 5 Z Z (KN 39 Z (Nt c14) (KK ah aO 0 Z 5 Z Z ?_))
        rcases jF h with⟨c15,h⟩ | ⟨c15,h⟩
        ·obtain rfl:=Nq h
         exact KI (T.ret (Le [1] Pj (KJ (v:= .bool true) (congrArg (fun b=>some (Value.bool b)) (Nt c15))) ⟨Z,Z,Z⟩ QJ (.inl Z)))
        obtain rfl:=Nq h
        exact KI (T.ret (Le [1] Pj (KJ (v:= .bool false) (congrArg (fun b=>some (Value.bool b)) (Nu c15))) ⟨Z,Z,Z⟩ QJ (.inl Z)))
       refine KK ah aO 0 Z 5 Z Z (KN 39 Z (Nu c14) (KM ah 5 Z ?_))
       obtain rfl:=Nq h
       exact KI (T.ret (KQ [1] Pj (KJ Z)))
      refine KM ah 3 Z (KN 34 Z (Nu c13) (KM ah 10 Z ?_))
      obtain rfl:=Nq h
      exact KI (T.ret (KQ [1] Pj (KJ Z)))
     replace c12:=Nx c12
     refine KM ah 2 Z (KN 26 Z c12 (KM ah 18 Z ?_))
     obtain rfl:=Nq h
     exact KI (T.ret (KQ [1] Pj (KJ Z)))
    refine KK ah aO 0 Z 5 Z Z (KN 21 Z (Nu c9) (KM ah 23 Z ?_))
    obtain rfl:=Nq h
    exact KI (T.ret (KQ [1] Pj (KJ Z)))
   replace c8:=Nx c8
   refine KM ah 2 Z (KN 16 Z c8 (KM ah 28 Z ?_))
   obtain rfl:=Nq h
   exact KI (T.ret (KQ [1] Pj (KJ Z)))
  refine KK ah aO 0 Z 5 Z Z (KN 11 Z (Nu c5) (KM ah 33 Z ?_))
  obtain rfl:=Nq h
  exact KI (T.ret (KQ [1] Pj (KJ Z)))
 refine KK ah aO 0 Z 4 Z Z (KN 6 Z (Nu c4) (KM ah 38 Z ?_))
 obtain rfl:=Nq h
 exact KI (T.ret (KQ [1] Pj (KJ Z)))
def fQ (a0:Bat):Option (Bool):=if a0.MG=(-1) then (if a0.MJ=(-1) then (if a0.MX=(-1) then (if a0.Nd=true then some false else some true) else some false) else some false) else (if a0.Nc=true then (if a0.MG≥0 then (if a0.MJ≥0 then ((jM a0.MJ 2).bind fun x11=>if x11=true then (if a0.MX≥(-1) then ((jM a0.MX 4).bind fun x15=>if x15=true then (if a0.MX=(-1) then some true else some false) else some false) else some false) else some false) else some false) else some false) else (if a0.MG≥0 then (if a0.MJ≥0 then ((jM a0.MJ 2).bind fun x21=>if x21=true then (if a0.MX≥0 then ((jM a0.MX 4).bind fun x25=>if x25=true then some true else some false) else some false) else some false) else some false) else some false))
theorem lg (a0:Bat) (A1:Option Addr) (c2:Nat) (r:Bool) (h:fQ a0=some r):aH Tryz.prog 136 #[.agg (wA0 a0 A1 c2)] (RX.of (aq 7 da) [.slice A1 a0.MK.length c2] a0.MK) (aK) (fun v A' N=>v= .bool r∧A'=aK∧N = []):=by
 refine aU Tryz.func136 Z Tryz.ntmps136 Z ?_
 intro F w hX
 unfold fQ at h
 refine KG Z (TL.box Z .u Z Z (fun b3=>(KP ah Z (T.seq (KG Z (KK ah aO 0 Z 3 Z Z ?_))))))
 rcases jF h with⟨c4,h⟩ | ⟨c4,h⟩
 ·refine La Z c4 (KG Z ?_)
  rcases jF h with⟨c5,h⟩ | ⟨c5,h⟩
  ·refine KK ah aO 0 Z 4 Z Z (KN 10 Z (Nt c5) ?_)
   rcases jF h with⟨c6,h⟩ | ⟨c6,h⟩
   ·refine KK ah aO 0 Z 5 Z Z (KN 15 Z (Nt c6) (KK ah aO 0 Z 5 Z Z ?_))
    rcases jF h with⟨c7,h⟩ | ⟨c7,h⟩
    ·obtain rfl:=Nq h
     exact KI (T.ret (KL (Le [1] Ow (KJ (v:= .bool false) (congrArg (fun b=>some (Value.bool b)) (bf c7))) ⟨Z,Z,Z⟩ QJ (.inl Z))))
    replace c7:=Nx c7
    obtain rfl:=Nq h
    exact KI (T.ret (KL (Le [1] Ow (KJ (v:= .bool true) (congrArg (fun b=>some (Value.bool b)) (bG c7))) ⟨Z,Z,Z⟩ QJ (.inl Z))))
   refine KK ah aO 0 Z 5 Z Z (KN 15 Z (Nu c6) (KM ah 5 Z ?_))
   obtain rfl:=Nq h
   exact KI (T.ret (KL (KQ [1] Ow (KJ Z))))
  refine KK ah aO 0 Z 4 Z Z (KN 10 Z (Nu c5) (KM ah 10 Z ?_))
  obtain rfl:=Nq h
  exact KI (T.ret (KL (KQ [1] Ow (KJ Z))))
 refine K9 Z c4 (Lg Z (KP ah Z (T.seq (KG Z (KK ah aO 0 Z 2 Z Z ?_)))))
 rcases jF h with⟨c8,h⟩ | ⟨c8,h⟩
 ·refine KI (KV Z c8 (T.region Z (K8 ah Z Z ?_)))
  rcases jF h with⟨c9,h⟩ | ⟨c9,h⟩
  ·refine KK ah aO 0 Z 4 Z Z (KN 25 Z (Nt c9) ?_)
   rcases jF h with⟨c10,h⟩ | ⟨c10,h⟩
   ·refine KK ah aO 0 Z 5 Z Z (KN 30 Z (Nt c10) ?_)
    obtain⟨x11,hx12,h⟩:=Np h
    refine KK ah aO 0 Z 2 Z Z (K2 Z (.g Z Z Z) (.fn Tryz.call101 Z) (LB (fun w=>dF a0.MJ 2 _ hx12 w)) (fun _ _=>Lk _ _) Z ?_)
    rcases jF h with⟨c13,h⟩ | ⟨c13,h⟩
    ·refine KM ah 2 Z (KN 35 Z c13 ?_)
     rcases jF h with⟨c14,h⟩ | ⟨c14,h⟩
     ·refine KK ah aO 0 Z 6 Z Z (KN 41 Z (Nt c14) ?_)
      obtain⟨x15,hx16,h⟩:=Np h
      refine KK ah aO 0 Z 2 Z Z (K2 Z (.g Z Z Z) (.fn Tryz.call101 Z) (LB (fun w=>dF a0.MX 4 _ hx16 w)) (fun _ _=>Lk _ _) Z ?_)
      rcases jF h with⟨c17,h⟩ | ⟨c17,h⟩
      ·refine KM ah 2 Z (KN 46 Z c17 (KK ah aO 0 Z 4 Z Z (KN 50 Z (bf c8) (KK ah aO 0 Z 6 Z Z ?_))))
       rcases jF h with⟨c18,h⟩ | ⟨c18,h⟩
       ·obtain rfl:=Nq h
        exact KI (T.ret (Le [1] Ow (KJ (v:= .bool true) (congrArg (fun b=>some (Value.bool b)) (Nt c18))) ⟨Z,Z,Z⟩ QJ (.inl Z)))
       obtain rfl:=Nq h
       exact KI (T.ret (Le [1] Ow (KJ (v:= .bool false) (congrArg (fun b=>some (Value.bool b)) (Nu c18))) ⟨Z,Z,Z⟩ QJ (.inl Z)))
      replace c17:=Nx c17
      refine KM ah 2 Z (KN 46 Z c17 (KM ah 10 Z ?_))
      obtain rfl:=Nq h
      exact KI (T.ret (KQ [1] Ow (KJ Z)))
     refine KK ah aO 0 Z 6 Z Z (KN 41 Z (Nu c14) (KM ah 15 Z ?_))
     obtain rfl:=Nq h
     exact KI (T.ret (KQ [1] Ow (KJ Z)))
    replace c13:=Nx c13
    refine KM ah 2 Z (KN 35 Z c13 (KM ah 21 Z ?_))
    obtain rfl:=Nq h
    exact KI (T.ret (KQ [1] Ow (KJ Z)))
   refine KK ah aO 0 Z 5 Z Z (KN 30 Z (Nu c10) (KM ah 26 Z ?_))
   obtain rfl:=Nq h
   exact KI (T.ret (KQ [1] Ow (KJ Z)))
  refine KK ah aO 0 Z 4 Z Z (KN 25 Z (Nu c9) (KM ah 31 Z ?_))
  obtain rfl:=Nq h
  exact KI (T.ret (KQ [1] Ow (KJ Z)))
 replace c8:=Nx c8
 refine KI (Lb Z c8 (Lg Z ?_))
 rcases jF h with⟨c19,h⟩ | ⟨c19,h⟩
 ·refine KK ah aO 0 Z 4 Z Z (KN 25 Z (Nt c19) ?_)
  rcases jF h with⟨c20,h⟩ | ⟨c20,h⟩
  ·refine KK ah aO 0 Z 5 Z Z (KN 30 Z (Nt c20) ?_)
   obtain⟨x21,hx22,h⟩:=Np h
   refine KK ah aO 0 Z 2 Z Z (K2 Z (.g Z Z Z) (.fn Tryz.call101 Z) (LB (fun w=>dF a0.MJ 2 _ hx22 w)) (fun _ _=>Lk _ _) Z ?_)
   rcases jF h with⟨c23,h⟩ | ⟨c23,h⟩
   ·refine KM ah 2 Z (KN 35 Z c23 ?_)
    rcases jF h with⟨c24,h⟩ | ⟨c24,h⟩
    ·refine KK ah aO 0 Z 6 Z Z (KN 41 Z (Nt c24) ?_)
     obtain⟨x25,hx26,h⟩:=Np h
     refine KK ah aO 0 Z 2 Z Z (K2 Z (.g Z Z Z) (.fn Tryz.call101 Z) (LB (fun w=>dF a0.MX 4 _ hx26 w)) (fun _ _=>Lk _ _) Z ?_)
     rcases jF h with⟨c27,h⟩ | ⟨c27,h⟩
     ·refine KM ah 2 Z (KN 46 Z c27 (KK ah aO 0 Z 4 Z Z (KN 50 Z (bG c8) (KM ah 6 Z ?_))))
      obtain rfl:=Nq h
      exact KI (T.ret (KQ [1] Ow (KJ Z)))
     replace c27:=Nx c27
     refine KM ah 2 Z (KN 46 Z c27 (KM ah 10 Z ?_))
     obtain rfl:=Nq h
     exact KI (T.ret (KQ [1] Ow (KJ Z)))
    refine KK ah aO 0 Z 6 Z Z (KN 41 Z (Nu c24) (KM ah 15 Z ?_))
    obtain rfl:=Nq h
    exact KI (T.ret (KQ [1] Ow (KJ Z)))
   replace c23:=Nx c23
   refine KM ah 2 Z (KN 35 Z c23 (KM ah 21 Z ?_))
   obtain rfl:=Nq h
   exact KI (T.ret (KQ [1] Ow (KJ Z)))
  refine KK ah aO 0 Z 5 Z Z (KN 30 Z (Nu c20) (KM ah 26 Z ?_))
  obtain rfl:=Nq h
  exact KI (T.ret (KQ [1] Ow (KJ Z)))
 refine KK ah aO 0 Z 4 Z Z (KN 25 Z (Nu c19) (KM ah 31 Z ?_))
 obtain rfl:=Nq h
 exact KI (T.ret (KQ [1] Ow (KJ Z)))
def ck (a0:Bat):List Rec→Int→Int→Int→Option (Lp Int (Int×Int×Int))
 | [],y4,y5,y6=>some (Lp.go (y4,y5,y6))
 | x12::xs,y4,y5,y6=>if x12.M1≤y5 then some (Lp.ret 13) else (if x12.M1>a0.M7 then some (Lp.ret 13) else (if (IntKind.i64.wrap (a0.MW+x12.Nb))<0 then some (Lp.ret 11) else (if x12.Nb>0 then (if (IntKind.i64.wrap (a0.MW+x12.Nb))<x12.Nb then some (Lp.ret 11) else (if y6<(IntKind.i64.wrap (a0.MW+x12.Nb)) then (ck a0 xs y4 x12.M1 (IntKind.i64.wrap (a0.MW+x12.Nb))) else (ck a0 xs y4 x12.M1 y6))) else (if y6<(IntKind.i64.wrap (a0.MW+x12.Nb)) then (ck a0 xs y4 x12.M1 (IntKind.i64.wrap (a0.MW+x12.Nb))) else (ck a0 xs y4 x12.M1 y6)))))
def dZ (a0:Bat):Option (Int):=(ck a0 a0.MK 0 (-1) a0.MW).bind fun e=>match e with | .ret r=>some r | .go (y27,y28,y29)=>(if a0.Nh=true then some 0 else (if y29=a0.Ng then some 0 else some 11))
theorem l7 (a0:Bat) (A1:Option Addr) (c2:Nat) (r:Int) (h:dZ a0=some r):aH Tryz.prog 138 #[.agg (wA0 a0 A1 c2)] (RX.of (aq 7 da) [.slice A1 a0.MK.length c2] a0.MK) (aK) (fun v A' N=>v=jI r∧A'=aK∧N = []):=by
 refine aU Tryz.func138 Z Tryz.ntmps138 Z ?_
 intro F w hX
 unfold dZ at h
 refine KG Z (TL.box Z .u Z Z (fun b3=>(KF ah 1 Z ?_)))
 refine KI (T.seq (Lm (.q 0 (.q 1 (.q 2 (.q 3 .nil)))) [0,0] Z o6 (NoP.seq bu) QI ?_))
 refine TD.run ah [0] Z Z (KO Z (K5 0 Z Nz Z Z) Z (TD.run ah [2,3] Z Z (LF (T.seq (KG Z (KK ah aO 0 Z 2 Z Z (KH Z (KX Z NK) Z (KP ah Z (T.block ?_)))))))))
 obtain⟨E8,hE9,hO10⟩:=Np h
 have hk14len:=LA hX
 refine Lv (fun m e Rs=> ∃ (y4:Int) (y5:Int) (y6:Int) (k7:Nat),k7+m=a0.MK.length∧e = [(1,jP b3),(2,jI y4),(3,jI y5),(4,jI y6),(11,.slice A1 a0.MK.length c2),(12,jI (a0.MK.length:Int)),(13,jI (k7:Int))]∧Rs = [aW b3 97 (wA0 a0 A1 c2),aK]∧ck a0 (a0.MK.drop k7) y4 y5 y6=some E8) (a0.MK.length) [0,0] ⟨0,(-1),a0.MW,0,by simp,Z,Z,by rw[List.drop_zero]; exact hE9⟩ QJ QJ ?_
 clear hE9 h
 rintro m11 _ _ ⟨y4,y5,y6,k7,hk14,rfl,rfl,h⟩
 cases m11 with
 | zero =>
  rw[List.drop_of_length_le QG,ck] at h
  have hk14ge: ¬ ((k7:Int)<(a0.MK.length:Int)):=by omega
  refine KG Z (KP ah Z (T.seq (Lb Z (Nu hk14ge) ?_)))
  obtain rfl:=Nq h
  replace h:=hO10
  clear hO10
  refine T.exit (KZ (KZ (Lu (X.seq (T.seq (KG Z ?_))))))
  rcases jF h with⟨c33,h⟩ | ⟨c33,h⟩
  ·refine KK ah aO 0 Z 4 Z Z (KN 55 Z (bf c33) (Lq ah Z (Lb Z Z (Lg Z (KF ah 1 Z ?_)))))
   obtain rfl:=Nq h
   exact KI (T.ret (KQ [1] PB (KJ Z)))
  replace c33:=Nx c33
  refine KK ah aO 0 Z 4 Z Z (KN 55 Z (bG c33) (KK ah aO 0 Z 5 Z Z ?_))
  rcases jF h with⟨c34,h⟩ | ⟨c34,h⟩
  ·refine Lj Z c34 (Lg Z (KF ah 1 Z ?_))
   obtain rfl:=Nq h
   exact KI (T.ret (KQ [1] PB (KJ Z)))
  refine Li Z c34 (KG Z (KF ah 1 Z ?_))
  obtain rfl:=Nq h
  exact KI (T.ret (KL (KQ [1] PB (KJ Z))))
 | succ m11 =>
  obtain⟨x12,hxx12⟩: ∃ x,a0.MK[k7]? = some x:=⟨_,List.getElem?_eq_getElem QG⟩
  rw[bJ hxx12,ck] at h
  have hk14lt:(k7:Int)<(a0.MK.length:Int):=by omega
  refine KG Z (KP ah Z (T.seq (KV Z (Nt hk14lt) ?_)))
  obtain⟨gz15,oz15,rfl,z15cs,z15cl,z15cc,z15nf,z15r⟩:=Lf QH hX hxx12
  obtain⟨z15S,z15r,z15rr⟩:=z15r
  obtain⟨A16,c17,rfl,z15s0⟩:=z15r
  have hX18:(RX.of (aq 3 dq) [.slice A16 x12.MU.length c17] x12.MU).reads w F:=⟨z15S,z15s0,z15rr⟩
  refine K3 (T.seq (T.block (KG Z ?_)))
  refine KH Z (K1 (k:=k7) Z Z Z NK NG (Nw hxx12).1) Z ?_
  refine KH Z (LI (us:=wL1 x12 A16 c17) 0 Z Oa NG z15nf z15cc Z Z Z) Z (TL.alloc Z .u Tryz.zeroValue91 Z (fun b19=>(KW 0 Z (cs':=wA2 x12 A16 c17) Z .u Z Z NG Z Z Z Z Z (KI (T.seq (KG Z ?_))))))
  rcases jF h with⟨c20,h⟩ | ⟨c20,h⟩
  ·refine KK ah aO 0 Z 5 Z Z (KN 21 Z (Nt c20) (Lq ah Z (KV Z Z (KG Z (KF ah 1 Z ?_)))))
   obtain rfl:=Nq h
   obtain rfl:=Nq hO10
   exact KI (T.ret (KL (KU (KL (KL (KU (KL (KQ [2] PB (KJ Z)))))))))
  refine KK ah aO 0 Z 5 Z Z (KN 21 Z (Nu c20) (KK ah aO 0 Z 3 Z Z (KK ah aO 1 Z 3 Z Z ?_)))
  rcases jF h with⟨c21,h⟩ | ⟨c21,h⟩
  ·refine La Z c21 (KG Z (KF ah 1 Z ?_))
   obtain rfl:=Nq h
   obtain rfl:=Nq hO10
   exact KI (T.ret (KL (KU (KL (KL (KU (KL (KQ [2] PB (KJ Z)))))))))
  refine K9 Z c21 (Lg Z (LT ah aO 0 Z Z Z (KG Z (KK ah aO 1 Z 3 Z Z (KK ah aO 0 Z 1 Z Z (KH Z (Ex.addw Z Z) Z ?_))))))
  refine KP ah Z (T.seq (KG Z ?_))
  rcases jF h with⟨c22,h⟩ | ⟨c22,h⟩
  ·refine KF ah 3 Z (KN 37 Z (Nt c22) (Lq ah Z (KV Z Z (KG Z (KF ah 1 Z ?_)))))
   obtain rfl:=Nq h
   obtain rfl:=Nq hO10
   exact KI (T.ret (KL (KU (KL (KL (KU (KL (KQ [2] PB (KJ Z)))))))))
  refine KF ah 3 Z (KN 37 Z (Nu c22) ?_)
  rcases jF h with⟨c23,h⟩ | ⟨c23,h⟩
  ·refine KK ah aO 0 Z 4 Z Z (KN 41 Z (Nt c23) (KK ah aO 0 Z 6 Z Z ?_))
   rcases jF h with⟨c24,h⟩ | ⟨c24,h⟩
   ·refine La Z c24 (KG Z (KF ah 1 Z ?_))
    obtain rfl:=Nq h
    obtain rfl:=Nq hO10
    exact KI (T.ret (KL (KU (KL (KL (KU (KL (KQ [2] PB (KJ Z)))))))))
   refine K9 Z c24 (K3 (T.region Z ?_))
   rcases jF h with⟨c25,h⟩ | ⟨c25,h⟩
   ·exact KF ah 2 Z (KH Z (Ex.maxy Z Z c25) Z (KF ah 1 Z (TL.nil (K4 (X.seq (T.region Z (KH Z (Ex.add Z Z QG) Z (KF ah 1 Z (TL.nil (X.back (m':=m11) [1,1] QG ⟨y4,x12.M1,(IntKind.i64.wrap (a0.MW+x12.Nb)),k7+1,by omega,Z,Z,h⟩ QJ QJ))))))))))
   exact KF ah 2 Z (KH Z (Ex.maxx Z Z c25) Z (KF ah 1 Z (TL.nil (K4 (X.seq (T.region Z (KH Z (Ex.add Z Z QG) Z (KF ah 1 Z (TL.nil (X.back (m':=m11) [1,1] QG ⟨y4,x12.M1,y6,k7+1,by omega,Z,Z,h⟩ QJ QJ))))))))))
  refine KK ah aO 0 Z 4 Z Z (KN 41 Z (Nu c23) (Lq ah Z (Lb Z Z (K3 (T.region Z ?_)))))
  rcases jF h with⟨c26,h⟩ | ⟨c26,h⟩
  ·exact KF ah 2 Z (KH Z (Ex.maxy Z Z c26) Z (KF ah 1 Z (TL.nil (K4 (X.seq (T.region Z (KH Z (Ex.add Z Z QG) Z (KF ah 1 Z (TL.nil (X.back (m':=m11) [1,1] QG ⟨y4,x12.M1,(IntKind.i64.wrap (a0.MW+x12.Nb)),k7+1,by omega,Z,Z,h⟩ QJ QJ))))))))))
  exact KF ah 2 Z (KH Z (Ex.maxx Z Z c26) Z (KF ah 1 Z (TL.nil (K4 (X.seq (T.region Z (KH Z (Ex.add Z Z QG) Z (KF ah 1 Z (TL.nil (X.back (m':=m11) [1,1] QG ⟨y4,x12.M1,y6,k7+1,by omega,Z,Z,h⟩ QJ QJ))))))))))
def eN:List Rec→Int→Option (Lp Int Int)
 | [],y13=>some (Lp.go y13)
 | x19::xs,y13=>(fV x19).bind fun x27=>if x27=0 then (eN xs y13) else some (Lp.ret x27)
def eO:List Rec→Int→Option (Lp Int Int)
 | [],y61=>some (Lp.go y61)
 | x67::xs,y61=>(fV x67).bind fun x75=>if x75=0 then (eO xs y61) else some (Lp.ret x75)
def dW (a0:Bat):Option (Int):=(iH a0).bind fun x4=>if x4=true then (if a0.Nc=true then (if a0.Nd=true then ((fQ a0).bind fun x9=>if x9=true then (if (a0.MK.length:Int)=1 then ((eN a0.MK 0).bind fun e=>match e with | .ret r=>some r | .go y30=>((a0.MK[0]?).bind fun x32=>(dV x32).bind fun (x38,x39,x40)=>if x40=0 then ((dZ a0).bind fun x43=>some x43) else some x40)) else some 10) else some 11) else some 8) else ((fQ a0).bind fun x58=>if x58=true then ((eO a0.MK 0).bind fun e=>match e with | .ret r=>some r | .go y78=>((dZ a0).bind fun x80=>some x80)) else some 11)) else some 11
theorem kb (a0:Bat) (A1:Option Addr) (c2:Nat) (r:Int) (h:dW a0=some r):aH Tryz.prog 81 #[.agg (wA0 a0 A1 c2)] (RX.of (aq 7 da) [.slice A1 a0.MK.length c2] a0.MK) (aK) (fun v A' N=>v=jI r∧A'=aK∧N = []):=by
 refine aU Tryz.func81 Z Tryz.ntmps81 Z ?_
 intro F w hX
 unfold dW at h
 refine KG Z (TL.box Z .u Z Z (fun b3=>(KP ah Z (T.seq (T.block (KG Z (KH Z (KY (us:=wL5 a0 A1 c2) 0 Z N6 NJ Z Z Z) Z ?_)))))))
 obtain⟨x4,hx5,h⟩:=Np h
 refine K2 Z .u (.fn Tryz.call135 Z) (qz a0 _ _ _ hx5) (fun _ hs=>(K0 hs hX)) Z (KF ah 2 Z ?_)
 rcases jF h with⟨c6,h⟩ | ⟨c6,h⟩
 ·refine KI (Lb Z (bf c6) (KG Z ?_))
  rcases jF h with⟨c7,h⟩ | ⟨c7,h⟩
  ·refine KK ah aO 0 Z 3 Z Z (KN 16 Z c7 (KK ah aO 0 Z 5 Z Z ?_))
   rcases jF h with⟨c8,h⟩ | ⟨c8,h⟩
   ·refine KI (Lb Z (bf c8) (KG Z (KH Z (KY (us:=wL5 a0 A1 c2) 0 Z N6 NJ Z Z Z) Z ?_)))
    obtain⟨x9,hx10,h⟩:=Np h
    refine K2 Z .u (.fn Tryz.call136 Z) (lg a0 _ _ _ hx10) (fun _ hs=>(K0 hs hX)) Z (KF ah 2 Z ?_)
    rcases jF h with⟨c11,h⟩ | ⟨c11,h⟩
    ·refine KI (Lb Z (bf c11) (KG Z (KK ah aO 0 Z 3 Z Z (KN 28 Z c7 (KK ah aO 0 Z 2 Z Z (TL.q Z (.g Z Z Z) (KX Z NK) Z (KM ah 3 Z ?_)))))))
     rcases jF h with⟨c12,h⟩ | ⟨c12,h⟩
     ·refine Lj Z c12 (T.skip (K4 (X.seq (T.seq (KG Z (KK ah aO 0 Z 2 Z Z (KH Z (KX Z NK) Z (KP ah Z (T.block ?_)))))))))
      obtain⟨E15,hE16,hO17⟩:=Np h
      have hk21len:=LA hX
      refine Lv (fun m e Rs=> ∃ (y13:Int) (k14:Nat),k14+m=a0.MK.length∧e = [(1,jP b3),(2,jI y13),(35,.slice A1 a0.MK.length c2),(36,jI (a0.MK.length:Int)),(37,jI (k14:Int))]∧Rs = [aW b3 97 (wA0 a0 A1 c2),aK]∧eN (a0.MK.drop k14) y13=some E15) (a0.MK.length) [0,0] ⟨0,0,by simp,Z,Z,by rw[List.drop_zero]; exact hE16⟩ QJ QJ ?_
      clear hE16 h
      rintro m18 _ _ ⟨y13,k14,hk21,rfl,rfl,h⟩
      cases m18 with
      | zero =>
       rw[List.drop_of_length_le QG,eN] at h
       have hk21ge: ¬ ((k14:Int)<(a0.MK.length:Int)):=by omega
       refine KG Z (KP ah Z (T.seq (Lb Z (Nu hk21ge) ?_)))
       obtain rfl:=Nq h
       replace h:=hO17
       clear hO17
       refine T.exit (KZ (KZ (Lu (X.seq (T.seq (KG Z (LT ah aO 0 Z Z Z (KV Z c7 (KG Z ?_)))))))))
       obtain⟨x45,hx46,h⟩:=Np h
       obtain⟨gz47,oz47,rfl,z47cs,z47cl,z47cc,z47nf,z47r⟩:=Lf QH hX hx46
       obtain⟨z47S,z47r,z47rr⟩:=z47r
       obtain⟨A48,c49,rfl,z47s0⟩:=z47r
       have hX50:(RX.of (aq 3 dq) [.slice A48 x45.MU.length c49] x45.MU).reads w F:=⟨z47S,z47s0,z47rr⟩
       refine KK ah aO 0 Z 2 Z Z ?_
       refine KH Z (K1 (k:=0) Z Z Z NK NG (Nw hx46).1) Z ?_
       refine KH Z (LI (us:=wL1 x45 A48 c49) 0 Z Oa NG z47nf z47cc Z Z Z) Z ?_
       obtain⟨⟨x51,x52,x53⟩,hx54,h⟩:=Np h
       refine K2 Z .u (.fn Tryz.call137 Z) (rt x45 _ _ _ hx54) (fun _ hs=>(K0 hs hX50)) Z (K8 ah Z Z (KF ah 2 Z ?_))
       rcases jF h with⟨c55,h⟩ | ⟨c55,h⟩
       ·refine Lj Z c55 (Lg Z (KH Z (KY (us := [jI a0.Na,jI a0.M3,.bool a0.Nh,.bool a0.Nd,.bool a0.Nc,jI a0.M7,jI a0.MW,jI a0.Ng,jI a0.MG,jI a0.MJ,jI a0.MX,.slice (some ⟨gz47,oz47,none⟩) a0.MK.length c2]) 0 Z N6 NJ Z Z Z) Z ?_))
        obtain⟨x56,hx57,h⟩:=Np h
        refine K2 Z .u (.fn Tryz.call138 Z) (l7 a0 _ _ _ hx57) (fun _ hs=>(K0 hs hX)) Z (KF ah 1 Z ?_)
        obtain rfl:=Nq h
        exact KI (T.ret (KQ [1] Ph (KJ Z)))
       refine Li Z c55 (KG Z (KF ah 2 Z ?_))
       obtain rfl:=Nq h
       exact KI (T.ret (KL (KQ [1] Ph (KJ Z))))
      | succ m18 =>
       obtain⟨x19,hxx19⟩: ∃ x,a0.MK[k14]? = some x:=⟨_,List.getElem?_eq_getElem QG⟩
       rw[bJ hxx19,eN] at h
       have hk21lt:(k14:Int)<(a0.MK.length:Int):=by omega
       refine KG Z (KP ah Z (T.seq (KV Z (Nt hk21lt) ?_)))
       obtain⟨gz22,oz22,rfl,z22cs,z22cl,z22cc,z22nf,z22r⟩:=Lf QH hX hxx19
       obtain⟨z22S,z22r,z22rr⟩:=z22r
       obtain⟨A23,c24,rfl,z22s0⟩:=z22r
       have hX25:(RX.of (aq 3 dq) [.slice A23 x19.MU.length c24] x19.MU).reads w F:=⟨z22S,z22s0,z22rr⟩
       refine K3 (T.seq (T.block (KG Z ?_)))
       refine KH Z (K1 (k:=k14) Z Z Z NK NG (Nw hxx19).1) Z ?_
       refine KH Z (LI (us:=wL1 x19 A23 c24) 0 Z Oa NG z22nf z22cc Z Z Z) Z (TL.alloc Z .u Tryz.zeroValue91 Z (fun b26=>(KW 0 Z (cs':=wA2 x19 A23 c24) Z .u Z Z NG Z Z Z Z Z (K7 Z (KH Z (KY (us:=wL1 x19 A23 c24) 0 Z Oa NG Z Z Z) Z ?_)))))
       obtain⟨x27,hx28,h⟩:=Np h
       refine K2 Z .u (.fn Tryz.call130 Z) (jR x19 _ _ _ hx28) (fun _ hs=>(K0 hs hX25)) Z (K8 ah Z Z (KF ah 2 Z ?_))
       rcases jF h with⟨c29,h⟩ | ⟨c29,h⟩
       ·exact Lj Z c29 (T.skip (K4 (X.seq (T.region Z (KH Z (Ex.add Z Z QG) Z (KF ah 1 Z (TL.nil (X.back (m':=m18) [1,1] QG ⟨y13,k14+1,by omega,Z,Z,h⟩ QJ QJ))))))))
       refine Li Z c29 (KG Z (KF ah 2 Z ?_))
       obtain rfl:=Nq h
       obtain rfl:=Nq hO17
       exact KI (T.ret (KU (KL (KL (KU (KL (KQ [2] Ph (KJ Z))))))))
     refine Li Z c12 (KG Z (KF ah 1 Z ?_))
     obtain rfl:=Nq h
     exact KI (T.ret (KU (KL (KQ [1] Ph (KJ Z)))))
    replace c11:=Nx c11
    refine KI (KV Z (bG c11) (KG Z (KF ah 1 Z ?_)))
    obtain rfl:=Nq h
    exact KI (T.ret (KU (KL (KQ [1] Ph (KJ Z)))))
   replace c8:=Nx c8
   refine KI (KV Z (bG c8) (KG Z (KF ah 1 Z ?_)))
   obtain rfl:=Nq h
   exact KI (T.ret (KU (KL (KQ [1] Ph (KJ Z)))))
  replace c7:=Nx c7
  refine KK ah aO 0 Z 3 Z Z (KN 16 Z c7 (Lq ah Z (Lb Z Z (KG Z (KH Z (KY (us:=wL5 a0 A1 c2) 0 Z N6 NJ Z Z Z) Z ?_)))))
  obtain⟨x58,hx59,h⟩:=Np h
  refine K2 Z .u (.fn Tryz.call136 Z) (lg a0 _ _ _ hx59) (fun _ hs=>(K0 hs hX)) Z (KF ah 2 Z ?_)
  rcases jF h with⟨c60,h⟩ | ⟨c60,h⟩
  ·refine KI (Lb Z (bf c60) (KG Z (KK ah aO 0 Z 3 Z Z (KN 28 Z c7 (Lq ah Z (Lb Z Z ?_))))))
   refine T.skip (K4 (X.seq (T.seq (KG Z (KK ah aO 0 Z 2 Z Z (KH Z (KX Z NK) Z (KP ah Z (T.block ?_))))))))
   obtain⟨E63,hE64,hO65⟩:=Np h
   have hk69len:=LA hX
   refine Lv (fun m e Rs=> ∃ (y61:Int) (k62:Nat),k62+m=a0.MK.length∧e = [(1,jP b3),(2,jI y61),(35,.slice A1 a0.MK.length c2),(36,jI (a0.MK.length:Int)),(37,jI (k62:Int))]∧Rs = [aW b3 97 (wA0 a0 A1 c2),aK]∧eO (a0.MK.drop k62) y61=some E63) (a0.MK.length) [0,0] ⟨0,0,by simp,Z,Z,by rw[List.drop_zero]; exact hE64⟩ QJ QJ ?_
   clear hE64 h
   rintro m66 _ _ ⟨y61,k62,hk69,rfl,rfl,h⟩
   cases m66 with
   | zero =>
    rw[List.drop_of_length_le QG,eO] at h
    have hk69ge: ¬ ((k62:Int)<(a0.MK.length:Int)):=by omega
    refine KG Z (KP ah Z (T.seq (Lb Z (Nu hk69ge) ?_)))
    obtain rfl:=Nq h
    replace h:=hO65
    clear hO65
    refine T.exit (KZ (KZ (Lu (X.seq (T.seq (KG Z (LT ah aO 0 Z Z Z (Lb Z c7 (Lg Z (KH Z (KY (us:=wL5 a0 A1 c2) 0 Z N6 NJ Z Z Z) Z ?_))))))))))
    obtain⟨x82,hx83,h⟩:=Np h
    refine K2 Z .u (.fn Tryz.call138 Z) (l7 a0 _ _ _ hx83) (fun _ hs=>(K0 hs hX)) Z (KF ah 1 Z ?_)
    obtain rfl:=Nq h
    exact KI (T.ret (KQ [1] Ph (KJ Z)))
   | succ m66 =>
    obtain⟨x67,hxx67⟩: ∃ x,a0.MK[k62]? = some x:=⟨_,List.getElem?_eq_getElem QG⟩
    rw[bJ hxx67,eO] at h
    have hk69lt:(k62:Int)<(a0.MK.length:Int):=by omega
    refine KG Z (KP ah Z (T.seq (KV Z (Nt hk69lt) ?_)))
    obtain⟨gz70,oz70,rfl,z70cs,z70cl,z70cc,z70nf,z70r⟩:=Lf QH hX hxx67
    obtain⟨z70S,z70r,z70rr⟩:=z70r
    obtain⟨A71,c72,rfl,z70s0⟩:=z70r
    have hX73:(RX.of (aq 3 dq) [.slice A71 x67.MU.length c72] x67.MU).reads w F:=⟨z70S,z70s0,z70rr⟩
    refine K3 (T.seq (T.block (KG Z ?_)))
    refine KH Z (K1 (k:=k62) Z Z Z NK NG (Nw hxx67).1) Z ?_
    refine KH Z (LI (us:=wL1 x67 A71 c72) 0 Z Oa NG z70nf z70cc Z Z Z) Z (TL.alloc Z .u Tryz.zeroValue91 Z (fun b74=>(KW 0 Z (cs':=wA2 x67 A71 c72) Z .u Z Z NG Z Z Z Z Z (K7 Z (KH Z (KY (us:=wL1 x67 A71 c72) 0 Z Oa NG Z Z Z) Z ?_)))))
    obtain⟨x75,hx76,h⟩:=Np h
    refine K2 Z .u (.fn Tryz.call130 Z) (jR x67 _ _ _ hx76) (fun _ hs=>(K0 hs hX73)) Z (K8 ah Z Z (KF ah 2 Z ?_))
    rcases jF h with⟨c77,h⟩ | ⟨c77,h⟩
    ·exact Lj Z c77 (T.skip (K4 (X.seq (T.region Z (KH Z (Ex.add Z Z QG) Z (KF ah 1 Z (TL.nil (X.back (m':=m66) [1,1] QG ⟨y61,k62+1,by omega,Z,Z,h⟩ QJ QJ))))))))
    refine Li Z c77 (KG Z (KF ah 2 Z ?_))
    obtain rfl:=Nq h
    obtain rfl:=Nq hO65
    exact KI (T.ret (KU (KL (KL (KU (KL (KQ [2] Ph (KJ Z))))))))
  replace c60:=Nx c60
  refine KI (KV Z (bG c60) (KG Z (KF ah 1 Z ?_)))
  obtain rfl:=Nq h
  exact KI (T.ret (KU (KL (KQ [1] Ph (KJ Z)))))
 replace c6:=Nx c6
 refine KI (KV Z (bG c6) (KG Z (KF ah 1 Z ?_)))
 obtain rfl:=Nq h
 exact KI (T.ret (KU (KL (KQ [1] Ph (KJ Z)))))
def ey:List Rec→(List UInt8×Int)→Option (List UInt8×Int)
 | [],st9=>some st9
 | x14::xs,st9=>(jt st9 x14).bind fun st22=>ey xs st22
def ju (a0:Bat):Option (List UInt8×Int):=(dW a0).bind fun x4=>if x4=0 then ((ey a0.MK ([],0)).bind fun st25=>(mW st25).bind fun (x26,x27,st28)=>if -9223372036854775808≤(49+(x26.length:Int))∧(49+(x26.length:Int))≤9223372036854775807 then ((gAOf a0).bind fun x31=>(dw ([],0) (⟨a0.Na,(49+(x26.length:Int)),a0.M3,0,x31,a0.M7,a0.MW,a0.Ng,a0.MG,a0.MJ,a0.MX,(a0.MK.length:Int)⟩:Pfx)).bind fun st35=>(mW st35).bind fun (x37,x38,st39)=>(if x27=0 then (if x38=0 then some false else some true) else some true).bind fun y42=>if y42=true then some ([],11) else ((mP).bind fun st47=>if 21≤x37.length then ((g8 st47 [(x37.drop 21),x26]).bind fun (x52,st53)=>if -9223372036854775808≤x52∧x52≤9223372036854775807 then ((dw ([],0) (⟨a0.Na,(49+(x26.length:Int)),a0.M3,x52,x31,a0.M7,a0.MW,a0.Ng,a0.MG,a0.MJ,a0.MX,(a0.MK.length:Int)⟩:Pfx)).bind fun st56=>(zj st56 x26).bind fun st58=>(mW st58).bind fun (x60,x61,st62)=>some (x60,x61)) else none) else none)) else none) else some ([],x4)
theorem ry (a0:Bat) (A1:Option Addr) (c2:Nat) (r:List UInt8×Int) (h:ju a0=some r):aH Tryz.prog 39 #[.agg (wA0 a0 A1 c2)] (RX.of (aq 7 da) [.slice A1 a0.MK.length c2] a0.MK) (aK) (fun v A' N=>v= .tuple #[jS r.1,jI r.2]∧A'=aK∧N = []):=by
 refine aU Tryz.func39 Z Tryz.ntmps39 Z ?_
 intro F w hX
 unfold ju at h
 refine KG Z (TL.box Z .u Z Z (fun b3=>(KP ah Z (T.seq (KG Z (KH Z (KY (us:=wL5 a0 A1 c2) 0 Z N6 NJ Z Z Z) Z ?_))))))
 obtain⟨x4,hx5,h⟩:=Np h
 refine K2 Z .u (.fn Tryz.call81 Z) (kb a0 _ _ _ hx5) (fun _ hs=>(K0 hs hX)) Z (K8 ah Z Z (KF ah 2 Z ?_))
 rcases jF h with⟨c6,h⟩ | ⟨c6,h⟩
 ·refine Lj Z c6 (Lg Z (Mj Z .u Tryz.zeroValue112 Z (fun b7=>(KI (T.seq (KG Z (KK ah aO 1 Z 2 Z Z (KH Z (KX Z NK) Z (KF ah 1 Z ?_)))))))))
  refine KI (T.block ?_)
  obtain⟨E10,hE11,hO12⟩:=Np h
  have hk16len:=LA hX
  refine Lv (fun m e Rs=> ∃ (k8:Nat) (st9:List UInt8×Int),k8+m=a0.MK.length∧e = [(1,jP b3),(2,.string ⟨#[]⟩),(3,jI 0),(5,jP b7),(20,.slice A1 a0.MK.length c2),(21,jI (a0.MK.length:Int)),(22,jI (k8:Int))]∧Rs = [bB b7 st9,aW b3 97 (wA0 a0 A1 c2),aK]∧ey (a0.MK.drop k8) st9=some E10) (a0.MK.length) [0,0,0] ⟨0,([],0),by simp,Z,Z,by rw[List.drop_zero]; exact hE11⟩ QJ QJ ?_
  clear hE11 h
  rintro m13 _ _ ⟨k8,st9,hk16,rfl,rfl,h⟩
  cases m13 with
  | zero =>
   rw[List.drop_of_length_le QG,ey] at h
   have hk16ge: ¬ ((k8:Int)<(a0.MK.length:Int)):=by omega
   refine KG Z (KP ah Z (T.seq (Lb Z (Nu hk16ge) ?_)))
   obtain rfl:=Nq h
   replace h:=hO12
   clear hO12
   obtain⟨⟨x64,x65,st66⟩,hx67,h⟩:=Np h
   refine T.exit (KZ (KZ (Lu (X.seq (KG Z (KT 0 Z Z .u (.fn Tryz.call50 Z) (iZ b7 st9 _ hx67) sT Z Z (KF ah 5 Z ?_)))))))
   obtain⟨c68,h⟩:=ao h
   obtain⟨x69,hx70,h⟩:=Np h
   refine KI (T.seq ?_)
   refine Ml (fun e Rs=> ∃ (b71:Nat),e = [(1,jP b3),(2,.string ⟨#[]⟩),(3,jI 0),(5,jP b7),(8,jS x64),(9,jI x65),(10,jP b71),(20,.slice A1 a0.MK.length c2),(21,jI (a0.MK.length:Int)),(22,jI (k8:Int)),(23,.bool (decide ((k8:Int)<(a0.MK.length:Int)))),(29,.tuple #[jS x64,jI x65]),(30,.tuple #[jS x64,jI x65]),(31,jS x64),(32,jI x65)]∧Rs = [aW b71 159 #[jI a0.Na,jI (49+(x64.length:Int)),jI a0.M3,jI 0,jI x69,jI a0.M7,jI a0.MW,jI a0.Ng,jI a0.MG,jI a0.MJ,jI a0.MX,jI (a0.MK.length:Int)],bB b7 st66,aW b3 97 (wA0 a0 A1 c2),aK]) ?_ ?_
   ·refine Lm (.q 0 (.q 1 (.q 2 (.q 3 (.q 4 (.q 5 (.q 6 (.q 7 (.q 9 (.q 10 (.q 11 (.q 12 (.q 13 (.q 14 (.q 15 (.q 16 (.q 17 (.q 18 (.q 19 (.q 20 (.q 21 (.q 22 (.q 23 (.br 8 (.q 24 (.e 25 (.e 26 .nil))) (.e 25 (.e 8 (.q 24 (.e 26 .nil)))))))))))))))))))))))))))) [0,0,0] Z o6 sP QI ?_
    refine TD.run ah [0] Z Z (KO Z (K5 1 Z Nz Z Z) Z (TD.run ah [2] Z Z (KO Z (Lx Z NE) Z (KO Z (Ex.add Z Z c68) Z (TD.run ah [5] Z Z (KO Z (K5 1 Z Nz Z Z) Z (KO Z (KY (us:=wL5 a0 A1 c2) 1 Z N6 NJ Z Z Z) Z ?_)))))))
    refine TD.run ah [9] Z Z (KO Z (K5 1 Z Nz Z Z) Z (TD.run ah [11] Z Z (KO Z (K5 1 Z Nz Z Z) Z (TD.run ah [13] Z Z (KO Z (K5 1 Z Nz Z Z) Z (TD.run ah [15] Z Z (KO Z (K5 1 Z Nz Z Z) Z ?_)))))))
    refine TD.run ah [17] Z Z (KO Z (K5 1 Z Nz Z Z) Z (TD.run ah [19] Z Z (KO Z (K5 1 Z Nz Z Z) Z (TD.run ah [21] Z Z (KO Z (K5 1 Z PD Z Z) Z (KO Z (KX Z NK) Z ?_))))))
    refine TD.br ?_ ?_
    ·refine Lw Z .u (.fn Tryz.call82 Z) (zq a0 _ _ _ hx70) (fun _ hs=>(K0 hs hX)) Z [0,0,0] (Z) ?_
     refine KO Z (Ld (cells:= #[jI a0.Na,jI (49+(x64.length:Int)),jI a0.M3,jI 0,jI x69,jI a0.M7,jI a0.MW,jI a0.Ng,jI a0.MG,jI a0.MJ,jI a0.MX,jI (a0.MK.length:Int)]) rL Z QI) Z ?_
     exact TD.alloc Z .u Tryz.zeroValue159 Z [1,1,1] (fun _=>Z) (fun b71=>(LS 0 Z (cs':= #[jI a0.Na,jI (49+(x64.length:Int)),jI a0.M3,jI 0,jI x69,jI a0.M7,jI a0.MW,jI a0.Ng,jI a0.MG,jI a0.MJ,jI a0.MX,jI (a0.MK.length:Int)]) Z .u Z Z OV Z Z Z Z Z [1,1,1] (Z) (TD.nil (L5 [0,0,0,0] ⟨b71,Z,Z⟩ QJ QJ))))
    refine TD.alloc Z .u Tryz.zeroValue159 Z [1,1,1] (fun _=>Z) (fun b71=>(Lw Z .u (.fn Tryz.call82 Z) (zq a0 _ _ _ hx70) (fun _ hs=>(K0 hs hX)) Z [1,1,1] (Z) ?_))
    refine KO Z (Ld (cells:= #[jI a0.Na,jI (49+(x64.length:Int)),jI a0.M3,jI 0,jI x69,jI a0.M7,jI a0.MW,jI a0.Ng,jI a0.MG,jI a0.MJ,jI a0.MX,jI (a0.MK.length:Int)]) rL Z QI) Z ?_
    exact LS 0 Z (cs':= #[jI a0.Na,jI (49+(x64.length:Int)),jI a0.M3,jI 0,jI x69,jI a0.M7,jI a0.MW,jI a0.Ng,jI a0.MG,jI a0.MJ,jI a0.MX,jI (a0.MK.length:Int)]) Z .u Z Z OV Z Z Z Z Z [1,1,1] (Z) (TD.nil (L5 [0,0,0,0] ⟨b71,Z,Z⟩ QJ QJ))
   rintro _ _ ⟨b71,rfl,rfl⟩
   refine X.seq (KG Z (Mj Z .u Tryz.zeroValue112 Z (fun b72=>(K7 Z (KH Z (KY (us := [jI a0.Na,jI (49+(x64.length:Int)),jI a0.M3,jI 0,jI x69,jI a0.M7,jI a0.MW,jI a0.Ng,jI a0.MG,jI a0.MJ,jI a0.MX,jI (a0.MK.length:Int)]) 1 Z PG OV Z Z Z) Z ?_)))))
   obtain⟨st73,hx74,h⟩:=Np h
   refine KT 0 Z Z .u (.fn Tryz.call83 Z) (jQ b72 ([],0) (⟨a0.Na,(49+(x64.length:Int)),a0.M3,0,x69,a0.M7,a0.MW,a0.Ng,a0.MG,a0.MJ,a0.MX,(a0.MK.length:Int)⟩:Pfx) _ hx74) sT Z Z ?_
   obtain⟨⟨x75,x76,st77⟩,hx78,h⟩:=Np h
   refine K7 Z (KT 0 Z Z .u (.fn Tryz.call50 Z) (iZ b72 st73 _ hx78) sT Z Z (KP ah Z (L3 ?_)))
   obtain⟨y80,h,hk81⟩:=Np h
   refine Lz (fun e Rs=>e = [(2,.string ⟨#[]⟩),(3,jI 0),(8,jS x64),(10,jP b71),(11,jP b72),(12,jS x75),(69,.bool y80)]∧Rs = [bB b72 st77,aW b71 159 #[jI a0.Na,jI (49+(x64.length:Int)),jI a0.M3,jI 0,jI x69,jI a0.M7,jI a0.MW,jI a0.Ng,jI a0.MG,jI a0.MJ,jI a0.MX,jI (a0.MK.length:Int)],bB b7 st66,aW b3 97 (wA0 a0 A1 c2),aK]) ?_ ?_
   ·clear hk81
    refine T.region Z ?_
    rcases jF h with⟨c82,h⟩ | ⟨c82,h⟩
    ·refine KF ah 3 Z (KN 66 Z (bf (Nt c82)) (KM ah 3 Z ?_))
     rcases jF h with⟨c83,h⟩ | ⟨c83,h⟩
     ·cases h
      exact TL.nil (LE (d:=69) (v':= .bool false) Z (congrArg Value.bool (bf (Nt c83))) (KR [0,0,0,0,0]))
     cases h
     exact TL.nil (LE (d:=69) (v':= .bool true) Z (congrArg Value.bool (bG (Nu c83))) (KR [0,0,0,0,0]))
    refine KF ah 3 Z (KN 66 Z (bG (Nu c82)) (KM ah 3 Z ?_))
    cases h
    exact TL.nil (KR [0,0,0,0,0])
   rintro _ _ ⟨rfl,rfl⟩
   clear h
   have h:=hk81
   clear hk81
   try dsimp only at h
   rcases jF h with⟨c84,h⟩ | ⟨c84,h⟩
   ·refine X.seq (KV Z c84 (KG Z (KF ah 2 Z ?_)))
    obtain rfl:=Nq h
    exact KI (T.ret (KL (Lo [4] Tryz.results39 (KJ Z) (KJ Z) ⟨Z,Z,Z⟩ QJ (.inl Z))))
   replace c84:=Nx c84
   refine X.seq (Lb Z c84 ?_)
   obtain⟨st85,hx86,h⟩:=Np h
   obtain⟨c88,h⟩:=ao h
   obtain⟨⟨x90,st91⟩,hx92,h⟩:=Np h
   try dsimp only at h
   obtain⟨c93,h⟩:=ao h
   refine K3 (T.seq ?_)
   refine Ml (fun e Rs=> ∃ (b87:Nat) (b89:Nat),e = [(2,.string ⟨#[]⟩),(3,jI 0),(8,jS x64),(10,jP b71),(11,jP b72),(69,.bool y80)]∧Rs = [bU 9 1 tX (.slice (some ⟨b89,0,none⟩) 2 2) [(x75.drop 21),x64],nM 238 b87 st91,bB b72 st77,aW b71 159 #[jI a0.Na,jI (49+(x64.length:Int)),jI a0.M3,jI x90,jI x69,jI a0.M7,jI a0.MW,jI a0.Ng,jI a0.MG,jI a0.MJ,jI a0.MX,jI (a0.MK.length:Int)],bB b7 st66,aW b3 97 (wA0 a0 A1 c2),aK]) ?_ ?_
   ·refine Lm (.q 1 (.q 2 (.q 3 (.br 0 (.e 4 (.e 5 (.q 6 (.q 7 (.e 8 .nil))))) (.e 4 (.e 0 (.e 5 (.q 6 (.q 7 (.e 8 .nil)))))))))) [0,1,1,1] Z o6 sP QI ?_
    refine TD.run ah [1] Z Z ?_
    refine KO Z (Mx (p:=21) (q:=x75.length) (m:=(x75.drop 21)) Z NE (.some Z Z) .none (by first | omega | (dsimp only; omega)) (Ay _ _)) Z ?_
    refine TD.run ah [3] Z Z ?_
    refine TD.br ?_ ?_
    ·refine TD.cge Z .u (.fn Tryz.call84 Z) (kM _ hx86) rT Z [1,2,2,2] ?_ ?_
     ·rintro _ _ _ ⟨b87,rfl,rfl,rfl⟩
      rfl
     rintro _ _ _ ⟨b87,rfl,rfl,rfl⟩
     exact LM [0,0,0,0,0,0] Z (LY (cells:= #[.string (bsOf (x75.drop 21)),jS x64]) Z .u kN Z QJ Z [2,3,3,3] (fun _=>Z) (fun b89=>(Mn (us := [.string (bsOf (x75.drop 21)),jS x64]) (xs := [(x75.drop 21),x64]) (E:=tX) (z:=1) Z (Nat.le_of_ble_eq_true Z) (fun _=>⟨Z,Z,⟨Z,Z,Z⟩⟩) (LO 1 Z Z .u (.fn Tryz.call85 Z) (gR b87 st85 [(x75.drop 21),x64] _ _ _ hx92) (fun _ hs=>(Src.res 0 Z (fun w G h=>cm QH w G h))) Z Z [2,3,3,3] (Z) (KO Z (Mf Z OJ OP c93) Z (TD.run ah [7] Z Z (LS 3 Z (cs':= #[jI a0.Na,jI (49+(x64.length:Int)),jI a0.M3,jI x90,jI x69,jI a0.M7,jI a0.MW,jI a0.Ng,jI a0.MG,jI a0.MJ,jI a0.MX,jI (a0.MK.length:Int)]) Z .u Z Z Ny Z Z Z Z Z [2,3,3,3] (Z) (TD.nil (L5 [0,0,0,0,0,0,0] ⟨b87,b89,Z,Z⟩ QJ QJ)))))))))
    refine LY (cells:= #[.string (bsOf (x75.drop 21)),jS x64]) Z .u kN Z QJ Z [1,2,2,2] (fun _=>Z) (fun b89=>(Mn (us := [.string (bsOf (x75.drop 21)),jS x64]) (xs := [(x75.drop 21),x64]) (E:=tX) (z:=1) Z (Nat.le_of_ble_eq_true Z) (fun _=>⟨Z,Z,⟨Z,Z,Z⟩⟩) ?_))
    refine TD.cge Z .u (.fn Tryz.call84 Z) (kM _ hx86) rT Z [2,3,3,3] ?_ ?_
    ·rintro _ _ _ ⟨b87,rfl,rfl,rfl⟩
     rfl
    rintro _ _ _ ⟨b87,rfl,rfl,rfl⟩
    exact LM [0,0,0,0,0,0,0] Z (LO 0 Z Z .u (.fn Tryz.call85 Z) (gR b87 st85 [(x75.drop 21),x64] _ _ _ hx92) (fun _ hs=>(Src.res 0 Z (fun w G h=>cm QH w G h))) Z Z [2,3,3,3] (Z) (KO Z (Mf Z OJ OP c93) Z (TD.run ah [7] Z Z (LS 3 Z (cs':= #[jI a0.Na,jI (49+(x64.length:Int)),jI a0.M3,jI x90,jI x69,jI a0.M7,jI a0.MW,jI a0.Ng,jI a0.MG,jI a0.MJ,jI a0.MX,jI (a0.MK.length:Int)]) Z .u Z Z Ny Z Z Z Z Z [2,3,3,3] (Z) (TD.nil (L5 [1,0,0,0,0,0,0] ⟨b87,b89,Z,Z⟩ QJ QJ))))))
   rintro _ _ ⟨b87,b89,rfl,rfl⟩
   refine X.seq (KG Z ?_)
   refine KH Z (Ld (cells:= #[.slice none 0 0,jI 0]) yU Z QI) Z ?_
   refine TL.outZ 2 Z .u Z Z Tryz.sizeOf112 Z (Lt [0,0,0,0,0,0,0] Z (K7 Z (KH Z (KY (us := [jI a0.Na,jI (49+(x64.length:Int)),jI a0.M3,jI x90,jI x69,jI a0.M7,jI a0.MW,jI a0.Ng,jI a0.MG,jI a0.MJ,jI a0.MX,jI (a0.MK.length:Int)]) 3 Z PG OV Z Z Z) Z ?_)))
   obtain⟨st94,hx95,h⟩:=Np h
   refine KT 2 Z Z .u (.fn Tryz.call83 Z) (jQ b72 ([],0) (⟨a0.Na,(49+(x64.length:Int)),a0.M3,x90,x69,a0.M7,a0.MW,a0.Ng,a0.MG,a0.MJ,a0.MX,(a0.MK.length:Int)⟩:Pfx) _ hx95) sT Z Z (K7 Z ?_)
   obtain⟨st96,hx97,h⟩:=Np h
   refine KF ah 1 Z (KT 2 Z Z .u (.fn Tryz.call52 Z) (wD b72 st94 x64 _ hx97) sT Z Z ?_)
   obtain⟨⟨x98,x99,st100⟩,hx101,h⟩:=Np h
   refine K7 Z (KT 2 Z Z .u (.fn Tryz.call50 Z) (iZ b72 st96 _ hx101) sT Z Z (KF ah 4 Z ?_))
   obtain rfl:=Nq h
   exact KI (T.ret (Lo [6] Tryz.results39 (KJ Z) (KJ Z) ⟨Z,Z,Z⟩ QJ (.inl Z)))
  | succ m13 =>
   obtain⟨x14,hxx14⟩: ∃ x,a0.MK[k8]? = some x:=⟨_,List.getElem?_eq_getElem QG⟩
   rw[bJ hxx14,ey] at h
   have hk16lt:(k8:Int)<(a0.MK.length:Int):=by omega
   refine KG Z (KP ah Z (T.seq (KV Z (Nt hk16lt) ?_)))
   obtain⟨gz17,oz17,rfl,z17cs,z17cl,z17cc,z17nf,z17r⟩:=Lf QH hX hxx14
   obtain⟨z17S,z17r,z17rr⟩:=z17r
   obtain⟨A18,c19,rfl,z17s0⟩:=z17r
   have hX20:(RX.of (aq 3 dq) [.slice A18 x14.MU.length c19] x14.MU).reads w F:=⟨z17S,z17s0,z17rr⟩
   refine K3 (T.seq (T.block (KG Z ?_)))
   refine KH Z (K1 (k:=k8) Z Z Z NK NG (Nw hxx14).1) Z ?_
   refine KH Z (LI (us:=wL1 x14 A18 c19) 0 Z Oa NG z17nf z17cc Z Z Z) Z (TL.alloc Z .u Tryz.zeroValue91 Z (fun b21=>(KW 0 Z (cs':=wA2 x14 A18 c19) Z .u Z Z NG Z Z Z Z Z (KI (T.region Z (KH Z (KY (us:=wL1 x14 A18 c19) 0 Z Oa NG Z Z Z) Z ?_))))))
   obtain⟨st22,hx23,h⟩:=Np h
   exact KT 1 Z Z .u (.fn Tryz.call79 Z) (rv b7 st9 x14 _ _ _ hx23) (fun _ hs=>(Mb hs hX20)) Z Z (TL.nil (K4 (X.seq (T.region Z (KH Z (Ex.add Z Z QG) Z (KF ah 1 Z (TL.nil (X.back (m':=m13) [1,1,1] QG ⟨k8+1,st22,by omega,Z,Z,h⟩ QJ QJ))))))))
 refine Li Z c6 (KG Z (KF ah 3 Z ?_))
 obtain rfl:=Nq h
 exact KI (T.ret (KL (Lo [1] Tryz.results39 (KJ Z) (KJ Z) ⟨Z,Z,Z⟩ QJ (.inl Z))))
def fW:List Bat→List UInt8→Int→List UInt8→Option (Lp (List UInt8×Int) (List UInt8×Int×List UInt8))
 | [],y4,y5,st7=>some (Lp.go (y4,y5,st7))
 | x12::xs,y4,y5,st7=>(ju x12).bind fun (x20,x21)=>if x21=0 then ((wh st7 x20).bind fun st24=>fW xs y4 y5 st24) else (some (Lp.ret ([],x21)))
def l9 (a0:List Bat):Option (List UInt8×Int):=(fW a0 [] 0 []).bind fun e=>match e with | .ret r=>some r | .go (y26,y27,st29)=>((EK st29).bind fun x30=>some (x30,0))
theorem uX (a0:List Bat) (A1:Option Addr) (c2:Nat) (r:List UInt8×Int) (h:l9 a0=some r):aH Tryz.prog 157 #[.slice A1 a0.length c2] (RX.of (aq 12 dG) [.slice A1 a0.length c2] a0) (aK) (fun v A' N=>v= .tuple #[jS r.1,jI r.2]∧A'=aK∧N = []):=by
 refine aU Tryz.func157 Z Tryz.ntmps157 Z ?_
 intro F w hX
 unfold l9 at h
 refine KG Z (K8 ah Z Z (TL.newbld Z .u Tryz.zeroValue292 Z (fun b3=>(KI (T.seq (KG Z (KF ah 1 Z (KH Z (KX Z NY) Z (KF ah 1 Z ?_)))))))))
 refine KI (T.block ?_)
 obtain⟨E8,hE9,hO10⟩:=Np h
 have hk14len:=LA hX
 refine Lv (fun m e Rs=> ∃ (y4:List UInt8) (y5:Int) (k6:Nat) (st7:List UInt8),k6+m=a0.length∧e = [(2,jS y4),(3,jI y5),(4,jP b3),(9,.slice A1 a0.length c2),(10,jI (a0.length:Int)),(11,jI (k6:Int))]∧Rs = [sU b3 st7,aK]∧fW (a0.drop k6) y4 y5 st7=some E8) (a0.length) [0,0] ⟨[],0,0,[],by simp,Z,Z,by rw[List.drop_zero]; exact hE9⟩ QJ QJ ?_
 clear hE9 h
 rintro m11 _ _ ⟨y4,y5,k6,st7,hk14,rfl,rfl,h⟩
 cases m11 with
 | zero =>
  rw[List.drop_of_length_le QG,fW] at h
  have hk14ge: ¬ ((k6:Int)<(a0.length:Int)):=by omega
  refine KG Z (KP ah Z (T.seq (Lb Z (Nu hk14ge) ?_)))
  obtain rfl:=Nq h
  replace h:=hO10
  clear hO10
  obtain⟨x32,hx33,h⟩:=Np h
  refine T.exit (KZ (KZ (Lu (X.seq (KG Z (KT 0 Z Z .u (.fn Tryz.call197 Z) (DF b3 st7 _ hx33) sT Z Z (Lt [1] Z (KF ah 2 Z ?_))))))))
  obtain rfl:=Nq h
  exact KI (T.ret (Lo [0] Tryz.results157 (KJ Z) (KJ Z) ⟨Z,Z,Z⟩ QJ (.inl Z)))
 | succ m11 =>
  obtain⟨x12,hxx12⟩: ∃ x,a0[k6]? = some x:=⟨_,List.getElem?_eq_getElem QG⟩
  rw[bJ hxx12,fW] at h
  have hk14lt:(k6:Int)<(a0.length:Int):=by omega
  refine KG Z (KP ah Z (T.seq (KV Z (Nt hk14lt) ?_)))
  obtain⟨gz15,oz15,rfl,z15cs,z15cl,z15cc,z15nf,z15r⟩:=Lf QH hX hxx12
  obtain⟨z15S,z15r,z15rr⟩:=z15r
  obtain⟨A16,c17,rfl,z15s0⟩:=z15r
  have hX18:(RX.of (aq 7 da) [.slice A16 x12.MK.length c17] x12.MK).reads w F:=⟨z15S,z15s0,z15rr⟩
  refine K3 (T.seq (T.block (KG Z ?_)))
  refine KH Z (K1 (k:=k6) Z Z Z NY NJ (Nw hxx12).1) Z ?_
  refine KH Z (LI (us:=wL5 x12 A16 c17) 0 Z N6 NJ z15nf z15cc Z Z Z) Z (TL.alloc Z .u Tryz.zeroValue97 Z (fun b19=>(KW 0 Z (cs':=wA0 x12 A16 c17) Z .u Z Z NJ Z Z Z Z Z (K7 Z (KH Z (KY (us:=wL5 x12 A16 c17) 0 Z N6 NJ Z Z Z) Z ?_)))))
  obtain⟨⟨x20,x21⟩,hx22,h⟩:=Np h
  refine K2 Z .u (.fn Tryz.call39 Z) (ry x12 _ _ _ hx22) (fun _ hs=>(K0 hs hX18)) Z (KP ah Z (T.seq (KG Z (KF ah 2 Z ?_))))
  rcases jF h with⟨c23,h⟩ | ⟨c23,h⟩
  ·refine Lj Z c23 (K3 (T.region Z ?_))
   obtain⟨st24,hx25,h⟩:=Np h
   exact KF ah 1 Z (KT 1 Z Z .u (.fn Tryz.call196 Z) (AB b3 st7 x20 _ hx25) sT Z Z (TL.nil (K4 (X.seq (T.region Z (KH Z (Ex.add Z Z QG) Z (KF ah 1 Z (TL.nil (X.back (m':=m11) [1,1] QG ⟨y4,y5,k6+1,st24,by omega,Z,Z,h⟩ QJ QJ)))))))))
  refine Li Z c23 (KG Z (KF ah 3 Z ?_))
  obtain rfl:=Nq h
  obtain rfl:=Nq hO10
  exact KI (T.ret (KL (KU (KL (KL (KU (KL (Lo [2] Tryz.results157 (KJ Z) (KJ Z) ⟨Z,Z,Z⟩ QJ (.inl Z)))))))))
def d7 (a0:Pfx):Nat→Int→Nat→List Rec→I→Option (Lp (Bat×Int) (Int×Nat×List Rec×I))
 | 0,_,_,_,_=>none
 | m23+1,y14,k15,y16,st19=>if (k15:Int)<a0.Nj then ((wG st19).bind fun (x28,st29)=>if x28=0 then (some (Lp.ret ((⟨0,0,false,false,false,0,0,0,0,0,0,[]⟩:Bat),10))) else ((iP st29).bind fun (x32,st35)=>(iQ st35).bind fun (x38,st39)=>if x38=0 then (if (y16.length+1)*88≤140737488355328 then (if -9223372036854775808≤((k15:Int)+1)∧((k15:Int)+1)≤9223372036854775807 then (d7 a0 m23 y14 (k15+1) (y16 ++ [x32]) st39) else none) else none) else (some (Lp.ret ((⟨0,0,false,false,false,0,0,0,0,0,0,[]⟩:Bat),x38))))) else (some (Lp.go (y14,k15,y16,st19)))
def jE (a0:Pfx) (a1:List UInt8):Option (Bat×Int):=(AM a0.Nk).bind fun x3=>if x3=0 then ((DJ a0.Nk).bind fun (x7,x8,x9)=>(wF a1).bind fun st11=>(d7 a0 ((a0.Nj).toNat+1) 0 0 [] st11).bind fun e=>match e with | .ret r=>some r | .go (y53,k54,y55,st58)=>((wG st58).bind fun (x59,st60)=>if x59>0 then (some ((⟨0,0,false,false,false,0,0,0,0,0,0,[]⟩:Bat),10)) else ((dW (⟨a0.Na,a0.M3,x7,x8,x9,a0.M7,a0.MW,a0.Ng,a0.MG,a0.MJ,a0.MX,y55⟩:Bat)).bind fun x63=>some ((⟨a0.Na,a0.M3,x7,x8,x9,a0.M7,a0.MW,a0.Ng,a0.MG,a0.MJ,a0.MX,y55⟩:Bat),x63)))) else (some ((⟨0,0,false,false,false,0,0,0,0,0,0,[]⟩:Bat),x3))
theorem te (a0:Pfx) (a1:List UInt8) (r:Bat×Int) (h:jE a0 a1=some r):aH Tryz.prog 134 #[.agg (AD a0),jS a1] .triv (aK) (fun v A' N=> ∃ (A65:Option Addr) (c66:Nat),v= .tuple #[.agg #[jI r.1.Na,jI r.1.M3,.bool r.1.Nh,.bool r.1.Nd,.bool r.1.Nc,jI r.1.M7,jI r.1.MW,jI r.1.Ng,jI r.1.MG,jI r.1.MJ,jI r.1.MX,.slice A65 r.1.MK.length c66],jI r.2]∧A'=aK∧N = [RdR (aq 7 da) [.slice A65 r.1.MK.length c66] r.1.MK]):=by
 refine aU Tryz.func134 Z Tryz.ntmps134 Z ?_
 intro F w hX
 unfold jE at h
 refine KG Z (TL.box Z .u Z Z (fun b1=>(TL.alloc Z .u Tryz.zeroValue97 Z (fun b2=>(KP ah Z (T.seq (KG Z ?_)))))))
 obtain⟨x3,hx4,h⟩:=Np h
 refine KK ah aO 1 Z 2 Z Z (K2 Z .u (.fn Tryz.call185 Z) (LB (fun w=>AN a0.Nk _ hx4 w)) (fun _ _=>Lk _ _) Z (K8 ah Z Z (KF ah 2 Z ?_)))
 rcases jF h with⟨c5,h⟩ | ⟨c5,h⟩
 ·refine Lj Z c5 (Lg Z (KK ah aO 1 Z 16 Z Z ?_))
  refine KH Z (Ld (cells:= #[jI a0.Na,jI a0.M3,.bool false,.bool false,.bool false,jI a0.M7,jI a0.MW,jI a0.Ng,jI a0.MG,jI a0.MJ,jI a0.MX,.slice none 0 0]) gD Z QI) Z ?_
  refine TL.alloc Z .u Tryz.zeroValue97 Z (fun b6=>(KW 0 Z (cs':= #[jI a0.Na,jI a0.M3,.bool false,.bool false,.bool false,jI a0.M7,jI a0.MW,jI a0.Ng,jI a0.MG,jI a0.MJ,jI a0.MX,.slice none 0 0]) Z .u Z Z NJ Z Z Z Z Z (K7 Z ?_)))
  obtain⟨⟨x7,x8,x9⟩,hx10,h⟩:=Np h
  refine KK ah aO 2 Z 2 Z Z (K2 Z .u (.fn Tryz.call186 Z) (LB (fun w=>B8 a0.Nk _ hx10 w)) (fun _ _=>Lk _ _) Z (KF ah 5 Z (KW 0 Z (cs':= #[jI a0.Na,jI a0.M3,.bool x7,.bool false,.bool false,jI a0.M7,jI a0.MW,jI a0.Ng,jI a0.MG,jI a0.MJ,jI a0.MX,.slice none 0 0]) Z .u Z Z N5 Z Z Z Z Z (KF ah 1 Z (KW 0 Z (cs':= #[jI a0.Na,jI a0.M3,.bool x7,.bool x8,.bool false,jI a0.M7,jI a0.MW,jI a0.Ng,jI a0.MG,jI a0.MJ,jI a0.MX,.slice none 0 0]) Z .u Z Z N5 Z Z Z Z Z (KF ah 1 Z (KW 0 Z (cs':= #[jI a0.Na,jI a0.M3,.bool x7,.bool x8,.bool x9,jI a0.M7,jI a0.MW,jI a0.Ng,jI a0.MG,jI a0.MJ,jI a0.MX,.slice none 0 0]) Z .u Z Z N5 Z Z Z Z Z ?_)))))))
  refine K7 Z ?_
  obtain⟨st11,hx12,h⟩:=Np h
  refine KF ah 1 Z (L8 Z .u (.fn Tryz.call19 Z) (lj a1 _ hx12) rT Z ?_)
  rintro _ _ _ ⟨b13,rfl,rfl,rfl⟩
  refine Lt [0,0,0,0,0] Z (KP ah Z (T.seq (KG Z (LT ah aO 3 Z Z Z (T.block (LZ 91 7 da ?_))))))
  obtain⟨E20,hE21,hO22⟩:=Np h
  refine Lv (fun m e Rs=> ∃ (y14:Int) (k15:Nat) (y16:List Rec) (A17:Option Addr) (c18:Nat) (st19:I),e = [(4,jP b2),(5,jI y14),(7,jP b6),(8,jP b13),(48,jI a0.Nj),(49,jI (k15:Int))]∧Rs = [bU 91 7 da (.slice A17 y16.length c18) y16,InR b13 st19,aW b6 97 #[jI a0.Na,jI a0.M3,.bool x7,.bool x8,.bool x9,jI a0.M7,jI a0.MW,jI a0.Ng,jI a0.MG,jI a0.MJ,jI a0.MX,.slice A17 y16.length c18],aW b2 97 nc,aW b1 159 (AD a0),aK]∧d7 a0 m y14 k15 y16 st19=some E20) ((a0.Nj).toNat+1) [0,0,0,0,0,0] ⟨0,0,[],none,0,st11,Z,Z,by exact hE21⟩ QJ QJ ?_
  clear hE21 h
  rintro m23 _ _ ⟨y14,k15,y16,A17,c18,st19,rfl,rfl,h⟩
  cases m23 with
  | zero =>
   rw[d7] at h
   cases h
  | succ m23 =>
   rw[d7] at h
   refine KG Z (KF ah 1 Z ?_)
   rcases jF h with⟨c27,h⟩ | ⟨c27,h⟩
   ·refine KI (T.seq (LU Z c27 (K3 (T.seq (T.block (T.seq (KG Z ?_)))))))
    obtain⟨⟨x28,st29⟩,hx30,h⟩:=Np h
    refine KF ah 1 Z (KT 1 Z Z .u (.fn Tryz.call71 Z) (pi b13 st19 _ hx30) sT Z Z (KF ah 1 Z ?_))
    rcases jF h with⟨c31,h⟩ | ⟨c31,h⟩
    ·refine La Z c31 (KG Z ?_)
     refine KH Z (Ld (cells:=nc) gD Z QI) Z ?_
     refine KW 3 Z (cs':=nc) Z .u Z Z NJ Z Z Z Z Z (KF ah 1 Z ?_)
     obtain rfl:=Nq h
     obtain rfl:=Nq hO22
     exact KI (T.ret (KL (KU (KL (KL (KU (KL (Lc 7 da (Lo [6,0] P7 (Ly (us:=nc) 4 Z N6 NJ Z Z) (KJ Z) ⟨_,_,Z,Z,Z⟩ QJ (.inl Z))))))))))
    refine K9 Z c31 (Lg Z ?_)
    obtain⟨⟨x32,st35⟩,hx36,h⟩:=Np h
    refine KF ah 1 Z (Mp Z .u (.fn Tryz.call78 Z) (se b13 st29 _ hx36) sT Z ?_)
    rintro _ _ _ ⟨A33,c34,rfl,rfl,rfl⟩
    refine Lt [0,0,0,0,0,0,0] Z (TL.alloc Z .u Tryz.zeroValue91 Z (fun b37=>(KW 0 Z (cs':=wA2 x32 A33 c34) Z .u Z Z NG Z Z Z Z Z (KI (T.seq (KG Z ?_))))))
    obtain⟨⟨x38,st39⟩,hx40,h⟩:=Np h
    refine KF ah 1 Z (KT 3 Z Z .u (.fn Tryz.call23 Z) (cy b13 st35 _ hx40) sT Z Z (K8 ah Z Z (KF ah 2 Z ?_)))
    rcases jF h with⟨c41,h⟩ | ⟨c41,h⟩
    ·refine Lj Z c41 (K3 (T.region Z (KK ah aO 4 Z 2 Z Z (KH Z (KY (us:=wL1 x32 A33 c34) 0 Z Oa NG Z Z Z) Z ?_))))
     refine L7 (cells:=wA2 x32 A33 c34) Z .u xo Z QI Z (fun b42=> ?_)
     obtain⟨c43,h⟩:=ao h
     refine Ms 2 1 Z .u (us:=wL1 x32 A33 c34) (u:=x32) (l:=y16) (E:=da) Tryz.underlying95 AP Z QH Z Z Z Z Z Z Z (fun w G hG=>⟨_,_,Z,hG.1⟩) (by have hq:=c43; omega) (by have hq:=c43; omega) Z (fun A44 c45=> ?_)
     refine Lt [0,0,0,0,0,0,0] Z (KF ah 1 Z (KW 3 Z (cs':= #[jI a0.Na,jI a0.M3,.bool x7,.bool x8,.bool x9,jI a0.M7,jI a0.MW,jI a0.Ng,jI a0.MG,jI a0.MJ,jI a0.MX,.slice A44 (y16 ++ [x32]).length c45]) Z .u Z Z Tryz.sizeOf95 Z Z Z Z Z ?_))
     obtain⟨c46,h⟩:=ao h
     exact TL.nil (K4 (X.seq (T.region Z (KH Z (Ex.add Z Z c46) Z (KF ah 1 Z (TL.nil (X.back (m':=m23) [0,1,1,1,1,1] QG ⟨y14,k15+1,(y16 ++ [x32]),A44,c45,st39,Z,Z,h⟩ QJ QJ)))))))
    refine Li Z c41 (KG Z ?_)
    refine KH Z (Ld (cells:=nc) gD Z QI) Z ?_
    refine KF ah 1 Z (KW 5 Z (cs':=nc) Z .u Z Z NJ Z Z Z Z Z (KF ah 1 Z ?_))
    obtain rfl:=Nq h
    obtain rfl:=Nq hO22
    exact KI (T.ret (KL (KU (KL (KL (KU (KL (Lc 7 da (Lo [8,0] P7 (Ly (us:=nc) 6 Z N6 NJ Z Z) (KJ Z) ⟨_,_,Z,Z,Z⟩ QJ (.inl Z))))))))))
   refine KI (T.seq (LX Z c27 ?_))
   obtain rfl:=Nq h
   replace h:=hO22
   clear hO22
   refine T.exit (KZ (KZ (Lu (X.seq (T.seq (KG Z ?_))))))
   obtain⟨⟨x47,st48⟩,hx49,h⟩:=Np h
   refine KF ah 1 Z (KT 1 Z Z .u (.fn Tryz.call71 Z) (pi b13 st19 _ hx49) sT Z Z (KF ah 1 Z ?_))
   rcases jF h with⟨c50,h⟩ | ⟨c50,h⟩
   ·refine La Z c50 (KG Z ?_)
    refine KH Z (Ld (cells:=nc) gD Z QI) Z ?_
    refine KW 3 Z (cs':=nc) Z .u Z Z NJ Z Z Z Z Z (KF ah 1 Z ?_)
    obtain rfl:=Nq h
    exact KI (T.ret (KL (Lc 7 da (Lo [6,0] P7 (Ly (us:=nc) 4 Z N6 NJ Z Z) (KJ Z) ⟨_,_,Z,Z,Z⟩ QJ (.inl Z)))))
   refine K9 Z c50 ?_
   refine K3 (T.seq (Lm (.q 0 (.q 1 (.e 2 (.e 3 (.q 4 .nil))))) [0,0,0,1,1] Z o6 (NoP.seq bu) QI ?_))
   iterate 2 refine KO Z (KY (us := [jI a0.Na,jI a0.M3,.bool x7,.bool x8,.bool x9,jI a0.M7,jI a0.MW,jI a0.Ng,jI a0.MG,jI a0.MJ,jI a0.MX,.slice A17 y16.length c18]) 2 Z N6 NJ Z Z Z) Z ?_
   obtain⟨x51,hx52,h⟩:=Np h
   refine Lw Z .u (.fn Tryz.call81 Z) (kb (⟨a0.Na,a0.M3,x7,x8,x9,a0.M7,a0.MW,a0.Ng,a0.MG,a0.MJ,a0.MX,y16⟩:Bat) _ _ _ hx52) (fun _ hs=>(SrcE.res 0 hs Z (fun w G h=>cm QH w G h))) Z [0,0,0,1,1] (Z) (LS 3 Z (cs':= #[jI a0.Na,jI a0.M3,.bool x7,.bool x8,.bool x9,jI a0.M7,jI a0.MW,jI a0.Ng,jI a0.MG,jI a0.MJ,jI a0.MX,.slice A17 y16.length c18]) Z .u Z Z NJ Z Z Z Z Z [0,0,0,1,1] (Z) (TD.run ah [4] Z Z ?_))
   obtain rfl:=Nq h
   exact LF (T.ret (Mz QH 0 Z (LC [0,0,0,0,0,0] Z (Lo [5,0] P7 (Ly (us:= #[jI a0.Na,jI a0.M3,.bool x7,.bool x8,.bool x9,jI a0.M7,jI a0.MW,jI a0.Ng,jI a0.MG,jI a0.MJ,jI a0.MX,.slice A17 y16.length c18]) 3 Z N6 NJ Z Z) (KJ Z) ⟨_,_,Z,Z,Z⟩ QJ (.inl Z)))))
 refine Li Z c5 (KG Z ?_)
 refine KH Z (Ld (cells:=nc) gD Z QI) Z ?_
 refine KF ah 1 Z (KW 0 Z (cs':=nc) Z .u Z Z NJ Z Z Z Z Z (KF ah 1 Z ?_))
 obtain rfl:=Nq h
 exact KI (T.ret (KL (Lc 7 da (Lo [3,0] P7 (Ly (us:=nc) 1 Z N6 NJ Z Z) (KJ Z) ⟨_,_,Z,Z,Z⟩ QJ (.inl Z)))))
def jG (st:I)  : Option (Bat×I):=(lJ st).bind fun (x3,st4)=>if -9223372036854775808≤(x3.Nf - 49)∧(x3.Nf - 49)≤9223372036854775807 then ((BN st4 (x3.Nf - 49)).bind fun (x8,st9)=>(iQ st9).bind fun (x11,st12)=>if x11=0 then ((dw ([],0) x3).bind fun st15=>(mW st15).bind fun (x17,x18,st19)=>(mP).bind fun st21=>if 21≤x17.length then ((g8 st21 [(x17.drop 21),x8]).bind fun (x26,st27)=>if -9223372036854775808≤x26∧x26≤9223372036854775807 then (if x26=x3.Ni then ((jE x3 x8).bind fun (x31,x34)=>if x34=0 then some (x31,st12) else ((cj st12 x34).bind fun st38=>some ((⟨0,0,false,false,false,0,0,0,0,0,0,[]⟩:Bat),st38))) else ((cj st12 5).bind fun st40=>some ((⟨0,0,false,false,false,0,0,0,0,0,0,[]⟩:Bat),st40))) else none) else none) else (some ((⟨0,0,false,false,false,0,0,0,0,0,0,[]⟩:Bat),st12))) else none
theorem n7 (g:Nat) (st:I)  (r:Bat×I) (h:jG st  = some r):aH Tryz.prog 80 #[jP g] .triv (InR g st) (fun v A' N=> ∃ (A42:Option Addr) (c43:Nat),v= .agg #[jI r.1.Na,jI r.1.M3,.bool r.1.Nh,.bool r.1.Nd,.bool r.1.Nc,jI r.1.M7,jI r.1.MW,jI r.1.Ng,jI r.1.MG,jI r.1.MJ,jI r.1.MX,.slice A42 r.1.MK.length c43]∧A'=InR g r.2∧N = [RdR (aq 7 da) [.slice A42 r.1.MK.length c43] r.1.MK]):=by
 refine aU Tryz.func80 Z Tryz.ntmps80 Z ?_
 intro F w hX
 unfold jG at h
 refine KG Z (TL.alloc Z .u Tryz.zeroValue97 Z (fun b1=>(K7 Z (Mj Z .u Tryz.zeroValue112 Z (fun b2=>(K7 Z ?_))))))
 obtain⟨⟨x3,st4⟩,hx5,h⟩:=Np h
 refine KF ah 1 Z (KT 2 Z Z .u (.fn Tryz.call133 Z) (sc g st _ hx5) sT Z Z (TL.alloc Z .u Tryz.zeroValue159 Z (fun b6=>(KW 0 Z (cs':=AD x3) Z .u Z Z OV Z Z Z Z Z (K7 Z ?_)))))
 obtain⟨c7,h⟩:=ao h
 refine KK ah aO 0 Z 3 Z Z (KH Z (Ex.sub Z Z c7) Z ?_)
 obtain⟨⟨x8,st9⟩,hx10,h⟩:=Np h
 refine KT 3 Z Z .u (.fn Tryz.call67 Z) (wH g st4 (x3.Nf - 49) _ hx10) sT Z Z (KP ah Z (T.seq (KG Z ?_)))
 obtain⟨⟨x11,st12⟩,hx13,h⟩:=Np h
 refine KF ah 1 Z (KT 3 Z Z .u (.fn Tryz.call23 Z) (cy g st9 _ hx13) sT Z Z (KF ah 1 Z ?_))
 rcases jF h with⟨c14,h⟩ | ⟨c14,h⟩
 ·refine Lj Z c14 (Lg Z (KH Z (KY (us:=wL16 x3) 0 Z PG OV Z Z Z) Z ?_))
  obtain⟨st15,hx16,h⟩:=Np h
  refine KT 1 Z Z .u (.fn Tryz.call83 Z) (jQ b2 ([],0) x3 _ hx16) sT Z Z ?_
  obtain⟨⟨x17,x18,st19⟩,hx20,h⟩:=Np h
  refine K7 Z (KT 1 Z Z .u (.fn Tryz.call50 Z) (iZ b2 st15 _ hx20) sT Z Z (KF ah 5 Z ?_))
  obtain⟨st21,hx22,h⟩:=Np h
  obtain⟨c24,h⟩:=ao h
  obtain⟨⟨x26,st27⟩,hx28,h⟩:=Np h
  try dsimp only at h
  obtain⟨c29,h⟩:=ao h
  refine KI (L3 ?_)
  refine Ml (fun e Rs=> ∃ (b23:Nat) (b25:Nat),e = [(0,jP g),(2,jP b1),(3,jP b2),(4,jP b6),(5,jS x8),(10,jP g),(11,.agg (AD x3)),(12,jP g),(13,.pointer (some ⟨b6,1,none⟩)),(14,jI x3.Nf),(15,jI (x3.Nf - 49)),(16,jS x8),(17,jP g),(18,jI x11),(19,.bool (!(decide (x11=0)))),(21,.agg (AD x3)),(23,.tuple #[jS x17,jI x18]),(24,.tuple #[jS x17,jI x18]),(25,jS x17),(26,jI x18),(36,.bool (!(decide (x26=x3.Ni))))]∧Rs = [bU 9 1 tX (.slice (some ⟨b25,0,none⟩) 2 2) [(x17.drop 21),x8],nM 238 b23 st27,aW b6 159 (AD x3),bB b2 st19,aW b1 97 nc,InR g st12]) ?_ ?_
  ·refine Lm (.q 1 (.q 2 (.q 3 (.q 7 (.q 8 (.br 0 (.e 4 (.e 5 (.q 6 (.q 9 .nil)))) (.e 4 (.e 0 (.e 5 (.q 6 (.q 9 .nil))))))))))) [0,0,0,0] Z o6 sP QI ?_
   refine TD.run ah [1] Z Z ?_
   refine KO Z (Mx (p:=21) (q:=x17.length) (m:=(x17.drop 21)) Z NE (.some Z Z) .none (by first | omega | (dsimp only; omega)) (Ay _ _)) Z ?_
   refine TD.run ah [3,7] Z Z (KO Z (K5 0 Z Nz Z Z) Z ?_)
   refine TD.br ?_ ?_
   ·refine TD.cge Z .u (.fn Tryz.call84 Z) (kM _ hx22) rT Z [1,1,1,1] ?_ ?_
    ·rintro _ _ _ ⟨b23,rfl,rfl,rfl⟩
     rfl
    rintro _ _ _ ⟨b23,rfl,rfl,rfl⟩
    exact LM [0,0,0,0,0] Z (LY (cells:= #[.string (bsOf (x17.drop 21)),jS x8]) Z .u kN Z QJ Z [2,2,2,2] (fun _=>Z) (fun b25=>(Mn (us := [.string (bsOf (x17.drop 21)),jS x8]) (xs := [(x17.drop 21),x8]) (E:=tX) (z:=1) Z (Nat.le_of_ble_eq_true Z) (fun _=>⟨Z,Z,⟨Z,Z,Z⟩⟩) (LO 1 Z Z .u (.fn Tryz.call85 Z) (gR b23 st21 [(x17.drop 21),x8] _ _ _ hx28) (fun _ hs=>(Src.res 0 Z (fun w G h=>cm QH w G h))) Z Z [2,2,2,2] (Z) (KO Z (Mf Z OJ OP c29) Z (TD.run ah [9] Z Z (TD.nil (L5 [0,0,0,0,0,0] ⟨b23,b25,Z,Z⟩ QJ QJ))))))))
   refine LY (cells:= #[.string (bsOf (x17.drop 21)),jS x8]) Z .u kN Z QJ Z [1,1,1,1] (fun _=>Z) (fun b25=>(Mn (us := [.string (bsOf (x17.drop 21)),jS x8]) (xs := [(x17.drop 21),x8]) (E:=tX) (z:=1) Z (Nat.le_of_ble_eq_true Z) (fun _=>⟨Z,Z,⟨Z,Z,Z⟩⟩) ?_))
   refine TD.cge Z .u (.fn Tryz.call84 Z) (kM _ hx22) rT Z [2,2,2,2] ?_ ?_
   ·rintro _ _ _ ⟨b23,rfl,rfl,rfl⟩
    rfl
   rintro _ _ _ ⟨b23,rfl,rfl,rfl⟩
   exact LM [0,0,0,0,0,0] Z (LO 0 Z Z .u (.fn Tryz.call85 Z) (gR b23 st21 [(x17.drop 21),x8] _ _ _ hx28) (fun _ hs=>(Src.res 0 Z (fun w G h=>cm QH w G h))) Z Z [2,2,2,2] (Z) (KO Z (Mf Z OJ OP c29) Z (TD.run ah [9] Z Z (TD.nil (L5 [1,0,0,0,0,0] ⟨b23,b25,Z,Z⟩ QJ QJ)))))
  rintro _ _ ⟨b23,b25,rfl,rfl⟩
  rcases jF h with⟨c30,h⟩ | ⟨c30,h⟩
  ·refine X.seq (T.nn Z c30 (Lg Z (KH Z (KY (us:=wL16 x3) 2 Z PG OV Z Z Z) Z ?_)))
   obtain⟨⟨x31,x34⟩,hx35,h⟩:=Np h
   refine KF ah 1 Z (L8 Z .u (.fn Tryz.call134 Z) (te x3 x8 _ hx35) rT Z ?_)
   rintro _ _ _ ⟨A32,c33,rfl,rfl,rfl⟩
   refine Lt [0,0,0,0,0,0,0] Z (KF ah 3 Z (TL.alloc Z .u Tryz.zeroValue97 Z (fun b36=>(KW 0 Z (cs':=wA0 x31 A32 c33) Z .u Z Z NJ Z Z Z Z Z (KP ah Z (T.seq (KG Z (KF ah 2 Z ?_))))))))
   rcases jF h with⟨c37,h⟩ | ⟨c37,h⟩
   ·refine Lj Z c37 (Lg Z (KH Z (KY (us:=wL5 x31 A32 c33) 0 Z N6 NJ Z Z Z) Z (KW 6 Z (cs':=wA0 x31 A32 c33) Z .u Z Z NJ Z Z Z Z Z ?_)))
    obtain rfl:=Nq h
    exact KI (T.ret (Le [7,1] QF (Ly (us:=wA0 x31 A32 c33) 6 Z N6 NJ Z Z) ⟨_,_,Z,Z,Z⟩ QJ (.inl Z)))
   refine Li Z c37 (KG Z ?_)
   obtain⟨st38,hx39,h⟩:=Np h
   refine KF ah 2 Z (KT 7 Z Z .u (.fn Tryz.call70 Z) (bH g st12 x34 _ hx39) sT Z Z (K7 Z ?_))
   refine KH Z (Ld (cells:=nc) gD Z QI) Z ?_
   refine KW 6 Z (cs':=nc) Z .u Z Z NJ Z Z Z Z Z ?_
   obtain rfl:=Nq h
   exact KI (T.ret (KL (Lc 7 da (Le [8,0] QF (Ly (us:=nc) 7 Z N6 NJ Z Z) ⟨_,_,Z,Z,Z⟩ QJ (.inl Z)))))
  refine X.seq (T.yn Z c30 (KG Z ?_))
  obtain⟨st40,hx41,h⟩:=Np h
  refine KF ah 1 Z (KT 5 Z Z .u (.fn Tryz.call70 Z) (bH g st12 5 _ hx41) sT Z Z (K7 Z ?_))
  refine KH Z (Ld (cells:=nc) gD Z QI) Z ?_
  refine KW 4 Z (cs':=nc) Z .u Z Z NJ Z Z Z Z Z ?_
  obtain rfl:=Nq h
  exact KI (T.ret (KL (Lc 7 da (Le [6,0] QF (Ly (us:=nc) 5 Z N6 NJ Z Z) ⟨_,_,Z,Z,Z⟩ QJ (.inl Z)))))
 refine Li Z c14 (KG Z ?_)
 refine KH Z (Ld (cells:=nc) gD Z QI) Z ?_
 refine KW 2 Z (cs':=nc) Z .u Z Z NJ Z Z Z Z Z ?_
 obtain rfl:=Nq h
 exact KI (T.ret (KL (Lc 7 da (Le [4,0] QF (Ly (us:=nc) 3 Z N6 NJ Z Z) ⟨_,_,Z,Z,Z⟩ QJ (.inl Z)))))
end Go.Proofs.YtheikonlgjdopaaGreat.Sl
