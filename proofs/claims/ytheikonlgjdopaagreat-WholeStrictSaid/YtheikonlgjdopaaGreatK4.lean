/- wholeStrict_holds: part 4. -/
import Derived.Test.YtheikonlgjdopaaGreatK3
set_option maxRecDepth 100000
set_option maxHeartbeats 4000000
set_option linter.defProp false
namespace Go.Proofs.YtheikonlgjdopaaGreat.Sl
open Go.RowKit
set_option linter.unusedVariables false
set_option linter.unusedSimpArgs false
def Dq := @Tryz.runUnderlying174
def Dr := @Tryz.sizeOf179
def Ds := @Tryz.sizeOf36
def Du := @Tryz.runUnderlying34
def Dy := @Tryz.sizeOf176
def DM := @Tryz.sizeOf27
def DN := @Tryz.sizeOf30
def DO := @Tryz.sizeOf32
def DT := @Tryz.runUnderlying30
def DU := @Tryz.runUnderlying32
def DV := @Tryz.runUnderlying33
def DW := @Tryz.sizeOf173
def D0 := @Tryz.results168
def D5 := @Tryz.runUnderlying173
def D6 := @Tryz.isAgg36
def D9 := @Tryz.runUnderlying27
def Ea := @Tryz.runUnderlying36
def Eu := @Tryz.results194
def Ev := @Tryz.results195
def Ew := @Tryz.results156
def Ey := @Tryz.isAgg27
def Ez := @Tryz.isAgg30
def EA := @Tryz.isAgg32
def EF := @Tryz.isAgg174
def EG := @Tryz.isAgg179
def EK := @Tryz.runUnderlying176
def EL := @Tryz.runUnderlying179
def ER := @Tryz.results119
def ES := @Tryz.results120
def EV := @Tryz.sizeOf174
def EW := @Tryz.sizeOf177
def ft_txn:fj := [(23,0,0),(23,1,1),(27,0,0),(27,1,2),(27,2,3),(27,3,4),(30,0,0),(30,1,1),(30,2,2),(30,3,3),(32,0,0),(32,1,1),(32,2,2),(32,3,3)]
theorem aj:(ft_txn).OK Tryz.prog:=⟨FOK.mk DP rfl DC rfl,FOK.mk DP rfl DD rfl,FOK.mk D9 rfl C8 rfl,FOK.mk D9 rfl CX rfl,FOK.mk D9 rfl CX rfl,FOK.mk D9 rfl CX rfl,FOK.mk DT rfl DD rfl,FOK.mk DT rfl CX rfl,FOK.mk DT rfl CX rfl,FOK.mk DT rfl Ee rfl,FOK.mk DU rfl DD rfl,FOK.mk DU rfl CX rfl,FOK.mk DU rfl CX rfl,FOK.mk DU rfl DC rfl,trivial⟩
def nt_txn:List Nat := [3,4,9,28]
theorem bi:NOK Tryz.prog nt_txn:=⟨C0,Tryz.isAgg4,DL,Tryz.isAgg28,trivial⟩
theorem mL (v : Value) (w : World) : (method (Tryz.prog.types.size + Made.depth) 30 v "Check").run Tryz.prog w = .ok (170, v) w := oT (k := Tryz.prog.types.size + Made.depth - 1) (by kernel_rfl) (by kernel_rfl) DT v w
theorem mM (v : Value) (w : World) : (method (Tryz.prog.types.size + Made.depth) 32 v "Check").run Tryz.prog w = .ok (172, v) w := oT (k := Tryz.prog.types.size + Made.depth - 1) (by kernel_rfl) (by kernel_rfl) DU v w
theorem o6:BOK Tryz.prog 27 #[.bool false,.string ⟨#[]⟩,.int .i64 0,.int .i64 0,.int .i64 0] [(0,2),(2,1),(3,1),(4,1)]:=BOK.mk Tryz.zeroValue27 D9 (by intro w; simp)
theorem o7:BOK Tryz.prog 30 #[.string ⟨#[]⟩,.int .i64 0,.int .i64 0,.slice none 0 0] [(0,1),(1,1),(2,1),(3,1)]:=BOK.mk Tryz.zeroValue30 DT (by intro w; simp)
theorem o8:BOK Tryz.prog 32 #[.string ⟨#[]⟩,.int .i64 0,.int .i64 0,.bool false] [(0,1),(1,1),(2,1),(3,1)]:=BOK.mk Tryz.zeroValue32 DU (by intro w; simp)
theorem sS:BOK Tryz.prog 103 #[.int .i64 0,.int .i64 0,.int .i64 0,.int .i64 0,.slice none 0 0,.int .i64 0,.int .i64 0] [(0,1),(1,1),(2,1),(3,1),(4,1),(5,1),(6,1)]:=BOK.mk Tryz.zeroValue103 Dw (by intro w; simp)
def fT (st:List UInt8×Int) (a1:Int):Option (Bool×(List UInt8×Int)):=(if a1=0 then some st else ((gE st a1).bind fun st7=>some st7)).bind fun st4=>if a1=0 then some (false,st4) else some (true,st4)
theorem hZ (g:Nat) (st:List UInt8×Int) (a1:Int) (r:Bool×(List UInt8×Int)) (h:fT st a1=some r):au Tryz.prog 151 #[jP g,jI a1] .triv (aP g st) (fun v A' N=>v= .bool r.1∧A'=aP g r.2∧N = []):=by
 refine aL Tryz.func151 Z Tryz.ntmps151 Z ?_
 intro F w hX
 unfold fT at h
 refine zY Z (z8 aj Z (T.seq (zY Z (z8 aj Z ?_))))
 obtain⟨st4,h,hk5⟩:=CL h
 refine AK (fun e Rs=>e = [(1,jI a1),(4,.bool false)]∧Rs = [aP g st4]) ?_ ?_
 ·clear hk5
  rcases jF h with⟨c6,h⟩ | ⟨c6,h⟩
  ·refine T.nn Z c6 ?_
   cases h
   exact T.skip (Ah [0])
  refine T.yn Z c6 (T.region Z ?_)
  obtain⟨st7,hx8,h⟩:=CL h
  refine zX aj 2 Z (Aq Z .u (.fn Tryz.call94 Z) (eC g st a1 _ hx8) sT Z ?_)
  cases h
  exact TL.nil (Ah [0])
 rintro _ _ ⟨rfl,rfl⟩
 clear h
 have h:=hk5
 clear hk5
 try dsimp only at h
 refine X.seq (zY Z (zX aj 3 Z ?_))
 rcases jF h with⟨c9,h⟩ | ⟨c9,h⟩
 ·obtain rfl:=CN h
  exact zZ (T.ret (Aw [0] Tryz.results151 (z5 (v:= .bool false) (congrArg (fun b=>some (Value.bool b)) (cv (CP c9)))) ⟨Z,Z,Z⟩ (by rfl) (.inl Z)))
 obtain rfl:=CN h
 exact zZ (T.ret (Aw [0] Tryz.results151 (z5 (v:= .bool true) (congrArg (fun b=>some (Value.bool b)) (cE (CS c9)))) ⟨Z,Z,Z⟩ (by rfl) (.inl Z)))
def fW (a0:Int) (a1:Int):Option (Bool):=(if a0≥0 then (if a1≥0 then ((fF a1 2).bind fun x9=>some x9) else some false) else some false).bind fun y5=>some y5
theorem gg (a0:Int) (a1:Int) (r:Bool) (h:fW a0 a1=some r):au Tryz.prog 192 #[jI a0,jI a1] .triv (aI) (fun v A' N=>v= .bool r∧A'=aI∧N = []):=by
 refine aL Tryz.func192 Z Tryz.ntmps192 Z ?_
 intro F w hX
 unfold fW at h
 refine zY Z (z8 aj Z (T.seq ?_))
 obtain⟨y5,h,hk6⟩:=CL h
 refine AK (fun e Rs=>e = [(4,.bool y5)]∧Rs = [aI]) ?_ ?_
 ·clear hk6
  refine T.region Z ?_
  rcases jF h with⟨c7,h⟩ | ⟨c7,h⟩
  ·refine zX aj 3 Z (z9 7 Z (CP c7) ?_)
   rcases jF h with⟨c8,h⟩ | ⟨c8,h⟩
   ·refine Ac aj 4 Z (z9 11 Z (CP c8) ?_)
    obtain⟨x9,hx10,h⟩:=CL h
    refine Ac aj 1 Z (An Z (.g Z Z Z) (.fn Tryz.call101 Z) (AJ (fun w=>cw a1 2 _ hx10 w)) (fun _ _=>RX.reads_triv _ _) Z (Ac aj 2 Z ?_))
    cases h
    exact TL.nil (Ah [0])
   refine Ac aj 4 Z (z9 11 Z (CS c8) (Ac aj 4 Z ?_))
   cases h
   exact TL.nil (Ah [0])
  refine zX aj 3 Z (z9 7 Z (CS c7) (Ac aj 8 Z ?_))
  cases h
  exact TL.nil (Ah [0])
 rintro _ _ ⟨rfl,rfl⟩
 clear h
 have h:=hk6
 clear hk6
 try dsimp only at h
 obtain rfl:=CN h
 exact X.seq (T.ret (Af [0] Tryz.results192 (z5 Z)))
def dD (a0:aD) (a1:Int):Option (Int):=(if a0.BX=(-1) then (if a0.B5=(-1) then some true else some false) else some false).bind fun y3=>((kv a0.Cc).bind fun x15=>if x15=true then (if a0.Cc.null=true then some false else ((iZ a0.Cc.data).bind fun x19=>if x19=true then some false else some true)) else some true).bind fun y13=>if y13=true then some 4 else ((if a0.B8<0 then some true else ((fF a0.B8 4).bind fun x29=>if x29=true then some false else some true)).bind fun y26=>(if y26=true then some true else ((if y3=true then some false else (if a1>0 then ((fW a0.BX a0.B5).bind fun x55=>if x55=true then some false else some true) else some true)).bind fun y51=>some y51)).bind fun y44=>if y44=true then some 11 else some 0)
theorem gB (a0:aD) (a1:Int) (r:Int) (h:dD a0 a1=some r):au Tryz.prog 152 #[.agg (qd a0),jI a1] .triv (aI) (fun v A' N=>v=jI r∧A'=aI∧N = []):=by
 refine aL Tryz.func152 Z Tryz.ntmps152 Z ?_
 intro F w hX
 unfold dD at h
 refine zY Z (TL.box Z .u Z Z (fun b1=>(z8 aj Z (T.seq ?_))))
 obtain⟨y3,h,hk4⟩:=CL h
 refine AK (fun e Rs=>e = [(1,jI a1),(2,jP b1),(4,jI 0),(5,.bool y3)]∧Rs = [ay b1 27 (qd a0),aI]) ?_ ?_
 ·clear hk4
  refine T.region Z ?_
  rcases jF h with⟨c5,h⟩ | ⟨c5,h⟩
  ·refine z6 aj bi 0 Z 4 Z Z (z9 9 Z (CP c5) (z6 aj bi 0 Z 5 Z Z ?_))
   rcases jF h with⟨c6,h⟩ | ⟨c6,h⟩
   ·cases h
    exact TL.nil (AS (d:=5) (v':= .bool true) Z (congrArg Value.bool (CP c6)) (Ah [0,0]))
   cases h
   exact TL.nil (AS (d:=5) (v':= .bool false) Z (congrArg Value.bool (CS c6)) (Ah [0,0]))
  refine z6 aj bi 0 Z 4 Z Z (z9 9 Z (CS c5) (Ac aj 5 Z ?_))
  cases h
  exact TL.nil (Ah [0,0])
 rintro _ _ ⟨rfl,rfl⟩
 clear h
 have h:=hk4
 clear hk4
 try dsimp only at h
 refine X.seq (T.seq (T.block (T.seq ?_)))
 obtain⟨y13,h,hk14⟩:=CL h
 refine AK (fun e Rs=>e = [(1,jI a1),(2,jP b1),(4,jI 0),(5,.bool y3),(14,.bool y13)]∧Rs = [ay b1 27 (qd a0),aI]) ?_ ?_
 ·clear hk14
  refine T.region Z (zX aj 1 Z (z4 Z (Ag (us := [.bool a0.Cc.null,jS a0.Cc.data]) 0 Z DG C8 Z Z Z) Z ?_))
  obtain⟨x15,hx16,h⟩:=CL h
  refine An Z .u (.fn Tryz.call148 Z) (iY a0.Cc _ hx16) rT Z ?_
  rcases jF h with⟨c17,h⟩ | ⟨c17,h⟩
  ·refine zX aj 2 Z (z9 19 Z (cv c17) ?_)
   rcases jF h with⟨c18,h⟩ | ⟨c18,h⟩
   ·refine z6 aj bi 0 Z 5 Z Z (z9 24 Z (cv c18) (Ac aj 8 Z ?_))
    cases h
    exact TL.nil (Ah [0,0])
   replace c18:=CU c18
   refine z6 aj bi 0 Z 5 Z Z (z9 24 Z (cE c18) ?_)
   obtain⟨x19,hx20,h⟩:=CL h
   refine z6 aj bi 0 Z 3 Z Z (An Z (.g Z Z Z) (.fn Tryz.call87 Z) (AJ (fun w=>iu a0.Cc.data _ hx20 w)) (fun _ _=>RX.reads_triv _ _) Z (Ac aj 4 Z ?_))
   rcases jF h with⟨c21,h⟩ | ⟨c21,h⟩
   ·cases h
    exact TL.nil (AS (d:=14) (v':= .bool false) Z (congrArg Value.bool (cv c21)) (Ah [0,0]))
   replace c21:=CU c21
   cases h
   exact TL.nil (AS (d:=14) (v':= .bool true) Z (congrArg Value.bool (cE c21)) (Ah [0,0]))
  replace c17:=CU c17
  refine zX aj 2 Z (z9 19 Z (cE c17) (Ac aj 13 Z ?_))
  cases h
  exact TL.nil (Ah [0,0])
 rintro _ _ ⟨rfl,rfl⟩
 clear h
 have h:=hk14
 clear hk14
 try dsimp only at h
 rcases jF h with⟨c22,h⟩ | ⟨c22,h⟩
 ·refine X.seq (Ae Z c22 (zY Z (zX aj 1 Z ?_)))
  obtain rfl:=CN h
  exact zZ (T.ret (Am (z7 (Af [1] Tryz.results152 (z5 Z)))))
 replace c22:=CU c22
 refine X.seq (Ay Z c22 (T.ss ?_))
 obtain⟨y26,h,hk27⟩:=CL h
 refine AK (fun e Rs=>e = [(1,jI a1),(2,jP b1),(4,jI 0),(5,.bool y3),(32,.bool y26)]∧Rs = [ay b1 27 (qd a0),aI]) ?_ ?_
 ·clear hk27
  refine T.region Z ?_
  rcases jF h with⟨c28,h⟩ | ⟨c28,h⟩
  ·refine z6 aj bi 0 Z 4 Z Z (z9 36 Z (CP c28) (Ac aj 6 Z ?_))
   cases h
   exact TL.nil (Ah [0,0])
  refine z6 aj bi 0 Z 4 Z Z (z9 36 Z (CS c28) ?_)
  obtain⟨x29,hx30,h⟩:=CL h
  refine z6 aj bi 0 Z 2 Z Z (An Z (.g Z Z Z) (.fn Tryz.call101 Z) (AJ (fun w=>cw a0.B8 4 _ hx30 w)) (fun _ _=>RX.reads_triv _ _) Z (Ac aj 3 Z ?_))
  rcases jF h with⟨c31,h⟩ | ⟨c31,h⟩
  ·cases h
   exact TL.nil (AS (d:=32) (v':= .bool false) Z (congrArg Value.bool (cv c31)) (Ah [0,0]))
  replace c31:=CU c31
  cases h
  exact TL.nil (AS (d:=32) (v':= .bool true) Z (congrArg Value.bool (cE c31)) (Ah [0,0]))
 rintro _ _ ⟨rfl,rfl⟩
 clear h
 have h:=hk27
 clear hk27
 try dsimp only at h
 refine X.seq ?_
 obtain⟨y44,h,hk45⟩:=CL h
 refine AK (fun e Rs=>e = [(4,jI 0),(32,.bool y44)]∧Rs = [ay b1 27 (qd a0),aI]) ?_ ?_
 ·clear hk45
  rcases jF h with⟨c46,h⟩ | ⟨c46,h⟩
  ·refine Ae Z c46 ?_
   cases h
   exact T.skip (AS (d:=32) (v':= .bool true) Z (congrArg Value.bool c46) (Ah [0,0]))
  replace c46:=CU c46
  refine Ay Z c46 ?_
  obtain⟨y51,h,hk52⟩:=CL h
  refine AK (fun e Rs=>e = [(4,jI 0),(32,.bool y51)]∧Rs = [ay b1 27 (qd a0),aI]) ?_ ?_
  ·clear hk52
   refine T.region Z ?_
   rcases jF h with⟨c53,h⟩ | ⟨c53,h⟩
   ·refine zX aj 3 Z (z9 44 Z (cv c53) (Ac aj 12 Z ?_))
    cases h
    exact TL.nil (Ah [0,0])
   replace c53:=CU c53
   refine zX aj 3 Z (z9 44 Z (cE c53) ?_)
   rcases jF h with⟨c54,h⟩ | ⟨c54,h⟩
   ·refine Ac aj 3 Z (z9 47 Z (CP c54) ?_)
    obtain⟨x55,hx56,h⟩:=CL h
    refine z6 aj bi 0 Z 4 Z Z (An Z (.g Z Z Z) (.fn Tryz.call192 Z) (gg a0.BX a0.B5 _ hx56) rT Z (Ac aj 4 Z ?_))
    rcases jF h with⟨c57,h⟩ | ⟨c57,h⟩
    ·cases h
     exact TL.nil (AS (d:=32) (v':= .bool false) Z (congrArg Value.bool (cv c57)) (Ah [0,0]))
    replace c57:=CU c57
    cases h
    exact TL.nil (AS (d:=32) (v':= .bool true) Z (congrArg Value.bool (cE c57)) (Ah [0,0]))
   refine Ac aj 3 Z (z9 47 Z (CS c54) (Ac aj 9 Z ?_))
   cases h
   exact TL.nil (Ah [0,0])
  rintro _ _ ⟨rfl,rfl⟩
  clear h
  have h:=hk52
  clear hk52
  try dsimp only at h
  cases h
  exact Ah [0,0]
 rintro _ _ ⟨rfl,rfl⟩
 clear h
 have h:=hk45
 clear hk45
 try dsimp only at h
 rcases jF h with⟨c58,h⟩ | ⟨c58,h⟩
 ·refine X.seq (Ae Z c58 (zY Z (zX aj 1 Z ?_)))
  obtain rfl:=CN h
  exact zZ (T.ret (Am (z7 (Af [1] Tryz.results152 (z5 Z)))))
 replace c58:=CU c58
 refine X.seq (Ay Z c58 (T.skip (Ap (X.seq (zY Z (zX aj 1 Z ?_))))))
 obtain rfl:=CN h
 exact zZ (T.ret (Af [1] Tryz.results152 (z5 Z)))
def en (st:List UInt8×Int) (a0:aD) (a2:Int):Option (List UInt8×Int):=(dD a0 a2).bind fun x2=>(fT st x2).bind fun (x4,st5)=>if x4=true then some st5 else ((fU st5 a0.Cc 2).bind fun st8=>(bY st8 a0.B8 4).bind fun st10=>(if a2>0 then ((bY st10 a0.BX 8).bind fun st20=>(bY st20 a0.B5 2).bind fun st22=>some st22) else some st10).bind fun st17=>some st17)
theorem ki (g:Nat) (st:List UInt8×Int) (a0:aD) (a2:Int) (r:List UInt8×Int) (h:en st a0 a2=some r):au Tryz.prog 96 #[.agg (qd a0),jP g,jI a2] .triv (aP g st) (fun v A' N=>v= .tuple #[]∧A'=aP g r∧N = []):=by
 refine aL Tryz.func96 Z Tryz.ntmps96 Z ?_
 intro F w hX
 unfold en at h
 refine zY Z (TL.box Z .u Z Z (fun b1=>(zZ (T.seq (zY Z (zX aj 1 Z (z4 Z (Ag (us:=wL11 a0) 0 Z Ey DM Z Z Z) Z ?_)))))))
 obtain⟨x2,hx3,h⟩:=CL h
 refine zX aj 1 Z (An Z .u (.fn Tryz.call152 Z) (gB a0 a2 _ hx3) rT Z ?_)
 obtain⟨⟨x4,st5⟩,hx6,h⟩:=CL h
 try dsimp only at h
 refine Al Z .u (.fn Tryz.call151 Z) (hZ g st x2 _ hx6) sT Z ?_
 rcases jF h with⟨c7,h⟩ | ⟨c7,h⟩
 ·refine zZ (Ae Z c7 ?_)
  obtain rfl:=CN h
  exact T.ret (z7 (AR [1] Tryz.results96 ⟨Z,Z,Z⟩ (by rfl) (.inl Z)))
 replace c7:=CU c7
 refine zZ (Ay Z c7 (Az Z (zX aj 2 Z (z4 Z (Ag (us := [.bool a0.Cc.null,jS a0.Cc.data]) 0 Z DG C8 Z Z Z) Z ?_))))
 obtain⟨st8,hx9,h⟩:=CL h
 refine Al Z .u (.fn Tryz.call95 Z) (f6 g st5 a0.Cc 2 _ hx9) sT Z (Ab Z ?_)
 obtain⟨st10,hx11,h⟩:=CL h
 refine z6 aj bi 0 Z 3 Z Z (Al Z .u (.fn Tryz.call51 Z) (aF g st8 a0.B8 4 _ hx11) sT Z (Ab Z (z8 aj Z ?_)))
 obtain⟨st17,h,hk18⟩:=CL h
 refine AK (fun e Rs=>e = []∧Rs = [ay b1 27 (qd a0),aP g st17]) ?_ ?_
 ·clear hk18
  rcases jF h with⟨c19,h⟩ | ⟨c19,h⟩
  ·refine Bb Z c19 (zY Z ?_)
   obtain⟨st20,hx21,h⟩:=CL h
   refine z6 aj bi 0 Z 3 Z Z (Al Z .u (.fn Tryz.call51 Z) (aF g st10 a0.BX 8 _ hx21) sT Z (zZ (T.region Z ?_)))
   obtain⟨st22,hx23,h⟩:=CL h
   refine z6 aj bi 0 Z 3 Z Z (Al Z .u (.fn Tryz.call51 Z) (aF g st20 a0.B5 2 _ hx23) sT Z ?_)
   cases h
   exact TL.nil (Ah [0,0])
  refine Bc Z c19 ?_
  cases h
  exact T.skip (Ah [0,0])
 rintro _ _ ⟨rfl,rfl⟩
 clear h
 have h:=hk18
 clear hk18
 try dsimp only at h
 obtain rfl:=CN h
 exact AR [1] Tryz.results96 ⟨Z,Z,Z⟩ (by rfl) (.inr Z)
def gI (a0:List Top):Option (Int):=if (a0.length:Int)=0 then some 10 else ((dA (⟨0,0,0,1,a0,0,0⟩:Val)).bind fun x5=>some x5)
theorem kd (a0:List Top) (A1:Option Addr) (c2:Nat) (r:Int) (h:gI a0=some r):au Tryz.prog 210 #[.slice A1 a0.length c2] (RX.of (an 2 aX) [.slice A1 a0.length c2] a0) (aI) (fun v A' N=>v=jI r∧A'=aI∧N = []):=by
 refine aL Tryz.func210 Z Tryz.ntmps210 Z ?_
 intro F w hX
 unfold gI at h
 refine zY Z (z8 aj Z (T.seq (zY Z (zX aj 1 Z (z4 Z (AB Z DH) Z (zX aj 1 Z ?_))))))
 rcases jF h with⟨c3,h⟩ | ⟨c3,h⟩
 ·refine A4 Z c3 (zY Z (zX aj 1 Z ?_))
  obtain rfl:=CN h
  exact zZ (T.ret (z7 (Af [0] Tryz.results210 (z5 Z))))
 refine A7 Z c3 (Az Z (zX aj 1 Z ?_))
 refine z4 Z (Ao (cells:= #[jI 0,jI 0,jI 0,jI 1,.slice A1 a0.length c2,jI 0,jI 0]) sS Z (by kernel_rfl)) Z ?_
 refine TL.alloc Z .u Tryz.zeroValue103 Z (fun b4=>(Ad (cs':= #[jI 0,jI 0,jI 0,jI 1,.slice A1 a0.length c2,jI 0,jI 0]) Z .u Z Z Dg Z Z Z Z (Ab Z (z4 Z (Ag (us := [jI 0,jI 0,jI 0,jI 1,.slice A1 a0.length c2,jI 0,jI 0]) 0 Z DA Dg Z Z Z) Z ?_))))
 obtain⟨x5,hx6,h⟩:=CL h
 refine An Z .u (.fn Tryz.call90 Z) (eM (⟨0,0,0,1,a0,0,0⟩:Val) _ _ _ hx6) (fun _ hs=>(AC hs hX)) Z (zX aj 1 Z ?_)
 obtain rfl:=CN h
 exact zZ (T.ret (Af [1] Tryz.results210 (z5 Z)))
def eo (a0:bh):Option (Int):=(iZ a0.Cc).bind fun x4=>if x4=true then ((fW a0.BX a0.B5).bind fun x7=>if x7=true then ((gI a0.BZ).bind fun x10=>some x10) else some 11) else some 4
theorem im (a0:bh) (A1:Option Addr) (c2:Nat) (r:Int) (h:eo a0=some r):au Tryz.prog 170 #[.agg (wA12 a0 A1 c2)] (RX.of (an 2 aX) [.slice A1 a0.BZ.length c2] a0.BZ) (aI) (fun v A' N=>v=jI r∧A'=aI∧N = []):=by
 refine aL Tryz.func170 Z Tryz.ntmps170 Z ?_
 intro F w hX
 unfold eo at h
 refine zY Z (TL.box Z .u Z Z (fun b3=>(z8 aj Z (T.seq (T.block (zY Z ?_))))))
 obtain⟨x4,hx5,h⟩:=CL h
 refine z6 aj bi 0 Z 2 Z Z (An Z .u (.fn Tryz.call87 Z) (AJ (fun w=>iu a0.Cc _ hx5 w)) (fun _ _=>RX.reads_triv _ _) Z (zX aj 2 Z ?_))
 rcases jF h with⟨c6,h⟩ | ⟨c6,h⟩
 ·refine zZ (Ay Z (cv c6) (zY Z ?_))
  obtain⟨x7,hx8,h⟩:=CL h
  refine z6 aj bi 0 Z 4 Z Z (An Z .u (.fn Tryz.call192 Z) (gg a0.BX a0.B5 _ hx8) rT Z (zX aj 2 Z ?_))
  rcases jF h with⟨c9,h⟩ | ⟨c9,h⟩
  ·refine zZ (Ay Z (cv c9) (T.skip (Ap (X.seq (zY Z ?_)))))
   obtain⟨x10,hx11,h⟩:=CL h
   refine z6 aj bi 0 Z 2 Z Z (An Z .u (.fn Tryz.call210 Z) (kd a0.BZ _ _ _ hx11) (fun _ hs=>(AC hs hX)) Z (zX aj 1 Z ?_))
   obtain rfl:=CN h
   exact zZ (T.ret (Af [1] Tryz.results170 (z5 Z)))
  replace c9:=CU c9
  refine zZ (Ae Z (cE c9) (zY Z (zX aj 1 Z ?_)))
  obtain rfl:=CN h
  exact zZ (T.ret (Am (z7 (Af [1] Tryz.results170 (z5 Z)))))
 replace c6:=CU c6
 refine zZ (Ae Z (cE c6) (zY Z (zX aj 1 Z ?_)))
 obtain rfl:=CN h
 exact zZ (T.ret (Am (z7 (Af [1] Tryz.results170 (z5 Z)))))
def eN (st:List UInt8×Int) (a1:bh):Option (Bool×(List UInt8×Int)):=(eo a1).bind fun x3=>(fT st x3).bind fun (x5,st6)=>some (x5,st6)
theorem jH (g:Nat) (st:List UInt8×Int) (a1:bh) (A1:Option Addr) (c2:Nat) (r:Bool×(List UInt8×Int)) (h:eN st a1=some r):au Tryz.prog 153 #[jP g,.iface 30 (.agg (wA12 a1 A1 c2))] (RX.of (an 2 aX) [.slice A1 a1.BZ.length c2] a1.BZ) (aP g st) (fun v A' N=>v= .bool r.1∧A'=aP g r.2∧N = []):=by
 refine aL Tryz.func153 Z Tryz.ntmps153 Z ?_
 intro F w hX
 unfold eN at h
 refine zY Z (Ai aj Z Z ?_)
 obtain⟨x3,hx4,h⟩:=CL h
 refine zX aj 2 Z (An Z .u (.inv Z (mL _) Tryz.call170 Z) (im a1 _ _ _ hx4) (fun _ hs=>(AC hs hX)) Z ?_)
 obtain⟨⟨x5,st6⟩,hx7,h⟩:=CL h
 try dsimp only at h
 refine Aq Z .u (.fn Tryz.call151 Z) (hZ g st x3 _ hx7) sT Z (zX aj 1 Z ?_)
 obtain rfl:=CN h
 exact zZ (T.ret (Af [0] Tryz.results153 (z5 Z)))
def fp (st:List UInt8×Int) (a0:bh):Option (List UInt8×Int):=(eN st a0).bind fun (x4,st5)=>if x4=true then some st5 else ((f7 st5 a0.Cc).bind fun st8=>(bY st8 a0.BX 8).bind fun st10=>(bY st10 a0.B5 2).bind fun st12=>(cV st12 a0.BZ).bind fun st14=>some st14)
theorem lw (g:Nat) (st:List UInt8×Int) (a0:bh) (A1:Option Addr) (c2:Nat) (r:List UInt8×Int) (h:fp st a0=some r):au Tryz.prog 97 #[.agg (wA12 a0 A1 c2),jP g] (RX.of (an 2 aX) [.slice A1 a0.BZ.length c2] a0.BZ) (aP g st) (fun v A' N=>v= .tuple #[]∧A'=aP g r∧N = []):=by
 refine aL Tryz.func97 Z Tryz.ntmps97 Z ?_
 intro F w hX
 unfold fp at h
 refine zY Z (TL.box Z .u Z Z (fun b3=>(zZ (T.seq (zY Z (zX aj 1 Z (z4 Z (Ag (us:=wL13 a0 A1 c2) 0 Z Ez DN Z Z Z) Z (z4 Z (Ex.mkI Z DT) Z ?_))))))))
 obtain⟨⟨x4,st5⟩,hx6,h⟩:=CL h
 try dsimp only at h
 refine Al Z .u (.fn Tryz.call153 Z) (jH g st a0 _ _ _ hx6) (fun _ hs=>(Bk hs hX)) Z ?_
 rcases jF h with⟨c7,h⟩ | ⟨c7,h⟩
 ·refine zZ (Ae Z c7 ?_)
  obtain rfl:=CN h
  exact T.ret (z7 (AR [1] Tryz.results97 ⟨Z,Z,Z⟩ (by rfl) (.inl Z)))
 replace c7:=CU c7
 refine zZ (Ay Z c7 (Az Z ?_))
 obtain⟨st8,hx9,h⟩:=CL h
 refine z6 aj bi 0 Z 3 Z Z (Al Z .u (.fn Tryz.call88 Z) (gS g st5 a0.Cc _ hx9) sT Z (Ab Z ?_))
 obtain⟨st10,hx11,h⟩:=CL h
 refine z6 aj bi 0 Z 3 Z Z (Al Z .u (.fn Tryz.call51 Z) (aF g st8 a0.BX 8 _ hx11) sT Z (Ab Z ?_))
 obtain⟨st12,hx13,h⟩:=CL h
 refine z6 aj bi 0 Z 3 Z Z (Al Z .u (.fn Tryz.call51 Z) (aF g st10 a0.B5 2 _ hx13) sT Z (zZ (T.region Z ?_)))
 obtain⟨st14,hx15,h⟩:=CL h
 refine z6 aj bi 0 Z 3 Z Z (Al Z .u (.fn Tryz.call91 Z) (eL g st12 a0.BZ _ _ _ hx15) (fun _ hs=>(Bk hs hX)) Z ?_)
 obtain rfl:=CN h
 exact TL.nil (AR [1] Tryz.results97 ⟨Z,Z,Z⟩ (by rfl) (.inr Z))
def e6 (st:List UInt8×Int) (a1:Bool):Option (List UInt8×Int):=(if a1=true then ((nq st 1).bind fun st9=>some st9) else ((nq st 0).bind fun st11=>some st11)).bind fun st6=>some st6
theorem iN (g:Nat) (st:List UInt8×Int) (a1:Bool) (r:List UInt8×Int) (h:e6 st a1=some r):au Tryz.prog 154 #[jP g,.bool a1] .triv (aP g st) (fun v A' N=>v= .tuple #[]∧A'=aP g r∧N = []):=by
 refine aL Tryz.func154 Z Tryz.ntmps154 Z ?_
 intro F w hX
 unfold e6 at h
 refine zY Z (z8 aj Z ?_)
 obtain⟨st6,h,hk7⟩:=CL h
 refine AK (fun e Rs=>e = []∧Rs = [aP g st6]) ?_ ?_
 ·clear hk7
  rcases jF h with⟨c8,h⟩ | ⟨c8,h⟩
  ·refine Ae Z c8 (T.region Z ?_)
   obtain⟨st9,hx10,h⟩:=CL h
   refine zX aj 1 Z (Aq Z .u (.fn Tryz.call102 Z) (ku g st 1 _ hx10) sT Z ?_)
   cases h
   exact TL.nil (Ah [0])
  replace c8:=CU c8
  refine Ay Z c8 (T.region Z ?_)
  obtain⟨st11,hx12,h⟩:=CL h
  refine zX aj 1 Z (Aq Z .u (.fn Tryz.call102 Z) (ku g st 0 _ hx12) sT Z ?_)
  cases h
  exact TL.nil (Ah [0])
 rintro _ _ ⟨rfl,rfl⟩
 clear h
 have h:=hk7
 clear hk7
 try dsimp only at h
 obtain rfl:=CN h
 exact AR [0] Tryz.results154 ⟨Z,Z,Z⟩ (by rfl) (.inr Z)
def es (a0:bc):Option (Int):=(iZ a0.Cc).bind fun x2=>if x2=true then ((fW a0.BX a0.B5).bind fun x5=>if x5=true then some 0 else some 11) else some 4
theorem io (a0:bc) (r:Int) (h:es a0=some r):au Tryz.prog 172 #[.agg (wA14 a0)] .triv (aI) (fun v A' N=>v=jI r∧A'=aI∧N = []):=by
 refine aL Tryz.func172 Z Tryz.ntmps172 Z ?_
 intro F w hX
 unfold es at h
 refine zY Z (TL.box Z .u Z Z (fun b1=>(z8 aj Z (T.seq (T.block (zY Z ?_))))))
 obtain⟨x2,hx3,h⟩:=CL h
 refine z6 aj bi 0 Z 2 Z Z (An Z .u (.fn Tryz.call87 Z) (AJ (fun w=>iu a0.Cc _ hx3 w)) (fun _ _=>RX.reads_triv _ _) Z (zX aj 2 Z ?_))
 rcases jF h with⟨c4,h⟩ | ⟨c4,h⟩
 ·refine zZ (Ay Z (cv c4) (zY Z ?_))
  obtain⟨x5,hx6,h⟩:=CL h
  refine z6 aj bi 0 Z 4 Z Z (An Z .u (.fn Tryz.call192 Z) (gg a0.BX a0.B5 _ hx6) rT Z (zX aj 2 Z ?_))
  rcases jF h with⟨c7,h⟩ | ⟨c7,h⟩
  ·refine zZ (Ay Z (cv c7) (T.skip (Ap (X.seq (zY Z (zX aj 1 Z ?_))))))
   obtain rfl:=CN h
   exact zZ (T.ret (Af [1] Tryz.results172 (z5 Z)))
  replace c7:=CU c7
  refine zZ (Ae Z (cE c7) (zY Z (zX aj 1 Z ?_)))
  obtain rfl:=CN h
  exact zZ (T.ret (Am (z7 (Af [1] Tryz.results172 (z5 Z)))))
 replace c4:=CU c4
 refine zZ (Ae Z (cE c4) (zY Z (zX aj 1 Z ?_)))
 obtain rfl:=CN h
 exact zZ (T.ret (Am (z7 (Af [1] Tryz.results172 (z5 Z)))))
def eO (st:List UInt8×Int) (a1:bc):Option (Bool×(List UInt8×Int)):=(es a1).bind fun x1=>(fT st x1).bind fun (x3,st4)=>some (x3,st4)
theorem jJ (g:Nat) (st:List UInt8×Int) (a1:bc) (r:Bool×(List UInt8×Int)) (h:eO st a1=some r):au Tryz.prog 153 #[jP g,.iface 32 (.agg (wA14 a1))] .triv (aP g st) (fun v A' N=>v= .bool r.1∧A'=aP g r.2∧N = []):=by
 refine aL Tryz.func153 Z Tryz.ntmps153 Z ?_
 intro F w hX
 unfold eO at h
 refine zY Z (Ai aj Z Z ?_)
 obtain⟨x1,hx2,h⟩:=CL h
 refine zX aj 2 Z (An Z .u (.inv Z (mM _) Tryz.call172 Z) (io a1 _ hx2) rT Z ?_)
 obtain⟨⟨x3,st4⟩,hx5,h⟩:=CL h
 try dsimp only at h
 refine Aq Z .u (.fn Tryz.call151 Z) (hZ g st x1 _ hx5) sT Z (zX aj 1 Z ?_)
 obtain rfl:=CN h
 exact zZ (T.ret (Af [0] Tryz.results153 (z5 Z)))
def fq (st:List UInt8×Int) (a0:bc):Option (List UInt8×Int):=(eO st a0).bind fun (x2,st3)=>if x2=true then some st3 else ((f7 st3 a0.Cc).bind fun st6=>(bY st6 a0.BX 8).bind fun st8=>(bY st8 a0.B5 2).bind fun st10=>(e6 st10 a0.Cw).bind fun st12=>some st12)
theorem lx (g:Nat) (st:List UInt8×Int) (a0:bc) (r:List UInt8×Int) (h:fq st a0=some r):au Tryz.prog 98 #[.agg (wA14 a0),jP g] .triv (aP g st) (fun v A' N=>v= .tuple #[]∧A'=aP g r∧N = []):=by
 refine aL Tryz.func98 Z Tryz.ntmps98 Z ?_
 intro F w hX
 unfold fq at h
 refine zY Z (TL.box Z .u Z Z (fun b1=>(zZ (T.seq (zY Z (zX aj 1 Z (z4 Z (Ag (us:=wL15 a0) 0 Z EA DO Z Z Z) Z (z4 Z (Ex.mkI Z DU) Z ?_))))))))
 obtain⟨⟨x2,st3⟩,hx4,h⟩:=CL h
 try dsimp only at h
 refine Al Z .u (.fn Tryz.call153 Z) (jJ g st a0 _ hx4) sT Z ?_
 rcases jF h with⟨c5,h⟩ | ⟨c5,h⟩
 ·refine zZ (Ae Z c5 ?_)
  obtain rfl:=CN h
  exact T.ret (z7 (AR [1] Tryz.results98 ⟨Z,Z,Z⟩ (by rfl) (.inl Z)))
 replace c5:=CU c5
 refine zZ (Ay Z c5 (Az Z ?_))
 obtain⟨st6,hx7,h⟩:=CL h
 refine z6 aj bi 0 Z 3 Z Z (Al Z .u (.fn Tryz.call88 Z) (gS g st3 a0.Cc _ hx7) sT Z (Ab Z ?_))
 obtain⟨st8,hx9,h⟩:=CL h
 refine z6 aj bi 0 Z 3 Z Z (Al Z .u (.fn Tryz.call51 Z) (aF g st6 a0.BX 8 _ hx9) sT Z (Ab Z ?_))
 obtain⟨st10,hx11,h⟩:=CL h
 refine z6 aj bi 0 Z 3 Z Z (Al Z .u (.fn Tryz.call51 Z) (aF g st8 a0.B5 2 _ hx11) sT Z (zZ (T.region Z ?_)))
 obtain⟨st12,hx13,h⟩:=CL h
 refine z6 aj bi 0 Z 3 Z Z (Al Z .u (.fn Tryz.call154 Z) (iN g st10 a0.Cw _ hx13) sT Z ?_)
 obtain rfl:=CN h
 exact TL.nil (AR [1] Tryz.results98 ⟨Z,Z,Z⟩ (by rfl) (.inr Z))
def eP (a0:aD) (a1:Int):Option (Int):=(dD a0 a1).bind fun x1=>some x1
theorem jK (a0:aD) (ba0:Nat) (a1:Int) (ba1:Nat) (r:Int) (h:eP a0 a1=some r):au Tryz.prog 169 #[jP ba0,jP ba1] (RX.and (RX.blk ba0 27 (qd a0)) (RX.blk ba1 3 #[jI a1])) (aI) (fun v A' N=>v=jI r∧A'=aI∧N = []):=by
 refine aL Tryz.func169 Z Tryz.ntmps169 Z ?_
 intro F w hX
 unfold eP at h
 refine zY Z (Ai aj Z Z (z4 Z (Ex.xbS (us:=wL11 a0) (Bn hX) Z Ey DM Z Z) Z (z4 Z (Ex.xb1 (AV hX) Z C0 Z) Z ?_)))
 obtain⟨x1,hx2,h⟩:=CL h
 refine An Z .u (.fn Tryz.call152 Z) (gB a0 a1 _ hx2) rT Z (zX aj 1 Z ?_)
 obtain rfl:=CN h
 exact zZ (T.ret (Af [0] Tryz.results169 (z5 Z)))
def bD (st:I) (a1_0:aD) (a1_1:Int):Option (Bool×I):=(fa st).bind fun (x1,st2)=>if x1=0 then ((eP a1_0 a1_1).bind fun x5=>if x5=0 then some (true,st2) else ((bg st2 x5).bind fun st8=>some (false,st8))) else some (false,st2)
theorem gh (g:Nat) (st:I) (a1_0:aD) (ba1_0:Nat) (a1_1:Int) (ba1_1:Nat) (r:Bool×I) (h:bD st a1_0 a1_1=some r):au Tryz.prog 168 #[jP g,.func (.func 169) #[] #[jP ba1_0,jP ba1_1]] (RX.and (RX.blk ba1_0 27 (qd a1_0)) (RX.blk ba1_1 3 #[jI a1_1])) (InR g st) (fun v A' N=>v= .bool r.1∧A'=InR g r.2∧N = []):=by
 refine aL Tryz.func168 Z Tryz.ntmps168 Z ?_
 intro F w hX
 unfold bD at h
 refine zY Z (z8 aj Z (T.seq (zY Z ?_)))
 obtain⟨⟨x1,st2⟩,hx3,h⟩:=CL h
 try dsimp only at h
 refine zX aj 1 Z (Aq Z .u (.fn Tryz.call23 Z) (bu g st _ hx3) sT Z (zX aj 1 Z ?_))
 rcases jF h with⟨c4,h⟩ | ⟨c4,h⟩
 ·refine Au Z c4 (Ar (T.seq (zY Z ?_)))
  obtain⟨x5,hx6,h⟩:=CL h
  refine zX aj 1 Z (An Z .u (.val Z Tryz.call169 Z Z) (jK a1_0 ba1_0 a1_1 ba1_1 _ hx6) (fun _ hs=>(Bw (AC hs (Bn hX)) (AC hs (AV hX)))) Z (Ai aj Z Z (zX aj 2 Z ?_)))
  rcases jF h with⟨c7,h⟩ | ⟨c7,h⟩
  ·refine Au Z c7 (Az Z (zX aj 1 Z ?_))
   obtain rfl:=CN h
   exact zZ (T.ret (Af [0] D0 (z5 Z)))
  refine At Z c7 (zY Z ?_)
  obtain⟨st8,hx9,h⟩:=CL h
  refine zX aj 2 Z (Aq Z .u (.fn Tryz.call70 Z) (aU g st2 x5 _ hx9) sT Z (Ab Z (zX aj 1 Z ?_)))
  obtain rfl:=CN h
  exact zZ (T.ret (z7 (Af [0] D0 (z5 Z))))
 refine At Z c4 (zY Z (zX aj 1 Z ?_))
 obtain rfl:=CN h
 exact zZ (T.ret (z7 (Af [0] D0 (z5 Z))))
def da (st:I) (a1:Int):Option (aD×I):=(gG st 2).bind fun (x3,st4)=>(bW st4 4).bind fun (x6,st7)=>(if a1>0 then ((bW st7 8).bind fun (x22,st23)=>(bW st23 2).bind fun (x25,st26)=>some (x22,x25,st26)) else ((some (-1,-1,st7):Option (Int×Int×I)))).bind fun (y17,y18,st19)=>(bD st19 (⟨x3,x6,y17,y18⟩:aD) a1).bind fun (x28,st29)=>if x28=true then (some ((⟨x3,x6,y17,y18⟩:aD),st29)) else (some ((⟨(⟨false,[]⟩:Bl),0,0,0⟩:aD),st29))
theorem kE (g:Nat) (st:I) (a1:Int) (r:aD×I) (h:da st a1=some r):au Tryz.prog 116 #[jP g,jI a1] .triv (InR g st) (fun v A' N=>v= .agg #[.bool r.1.Cc.null,jS r.1.Cc.data,jI r.1.B8,jI r.1.BX,jI r.1.B5]∧A'=InR g r.2∧N = []):=by
 refine aL Tryz.func116 Z Tryz.ntmps116 Z ?_
 intro F w hX
 unfold da at h
 refine zY Z (TL.box Z .u Z Z (fun b1=>(TL.alloc Z .u Tryz.zeroValue27 Z (fun b2=>(Ab Z ?_)))))
 obtain⟨⟨x3,st4⟩,hx5,h⟩:=CL h
 try dsimp only at h
 refine zX aj 1 Z (AH Z .u (.fn Tryz.call142 Z) (fV g st 2 _ hx5) sT Z ?_)
 obtain⟨⟨x6,st7⟩,hx8,h⟩:=CL h
 try dsimp only at h
 refine zX aj 1 Z (AH Z .u (.fn Tryz.call68 Z) (aE g st4 4 _ hx8) sT Z ?_)
 refine z4 Z (Ao (cells:= #[.bool x3.null,jS x3.data,jI x6,jI (-1),jI (-1)]) o6 Z (by kernel_rfl)) Z ?_
 refine TL.alloc Z .u Tryz.zeroValue27 Z (fun b9=>(Ad (cs':= #[.bool x3.null,jS x3.data,jI x6,jI (-1),jI (-1)]) Z .u Z Z DM Z Z Z Z (zZ (T.seq (zY Z (BA aj bi 2 Z Z Z ?_))))))
 obtain⟨⟨y17,y18,st19⟩,h,hk20⟩:=CL h
 refine AK (fun e Rs=>e = [(0,jP g),(3,jP b1),(4,jP b2),(5,jP b9)]∧Rs = [ay b9 27 (vA8 x6 y17 y18 x3),ay b2 27 #[.bool false,.string ⟨#[]⟩,jI 0,jI 0,jI 0],ay b1 3 #[jI a1],InR g st19]) ?_ ?_
 ·clear hk20
  rcases jF h with⟨c21,h⟩ | ⟨c21,h⟩
  ·refine Bb Z c21 (T.region Z ?_)
   obtain⟨⟨x22,st23⟩,hx24,h⟩:=CL h
   try dsimp only at h
   refine zX aj 1 Z (Bq Z .u (.fn Tryz.call68 Z) (aE g st7 8 _ hx24) sT Z ?_)
   obtain⟨⟨x25,st26⟩,hx27,h⟩:=CL h
   try dsimp only at h
   refine zX aj 1 Z (Bq Z .u (.fn Tryz.call68 Z) (aE g st23 2 _ hx27) sT Z (zX aj 1 Z (Ad (cs':= #[.bool x3.null,jS x3.data,jI x6,jI x22,jI (-1)]) Z .u Z Z CX Z Z Z Z (zX aj 1 Z (Ad (cs':=vA8 x6 x22 x25 x3) Z .u Z Z CX Z Z Z Z ?_)))))
   cases h
   exact TL.nil (Ah [0,0,0,0])
  refine Bc Z c21 ?_
  cases h
  exact T.skip (Ah [0,0,0,0])
 rintro _ _ ⟨rfl,rfl⟩
 clear h
 have h:=hk20
 clear hk20
 try dsimp only at h
 refine X.seq (T.seq (zY Z (zX aj 1 Z (z4 Z (Ex.mkF Z Z (fun _=>Z)) Z ?_))))
 obtain⟨⟨x28,st29⟩,hx30,h⟩:=CL h
 try dsimp only at h
 refine Bq Z .u (.fn Tryz.call168 Z) (gh g st19 (⟨x3,x6,y17,y18⟩:aD) b9 a1 b1 _ hx30) (fun _ hs=>(Src.and (BL 0 Z qG) (BL 2 Z qG))) Z (zX aj 1 Z ?_)
 rcases jF h with⟨c31,h⟩ | ⟨c31,h⟩
 ·refine zZ (Ay Z (cv c31) (Az Z (z4 Z (Ag (us := [.bool x3.null,jS x3.data,jI x6,jI y17,jI y18]) 0 Z Ey DM Z Z Z) Z (AP (cs':=vA8 x6 y17 y18 x3) Z .u Z Z DM Z Z Z Z ?_))))
  obtain rfl:=CN h
  exact zZ (T.ret (Af [3] Tryz.results116 (AA (us:=vA8 x6 y17 y18 x3) 1 Z Ey DM Z Z)))
 replace c31:=CU c31
 refine zZ (Ae Z (cE c31) (zY Z ?_))
 refine z4 Z (Ao (cells:= #[.bool false,.string ⟨#[]⟩,jI 0,jI 0,jI 0]) o6 Z (by kernel_rfl)) Z ?_
 refine AP (cs':= #[.bool false,.string ⟨#[]⟩,jI 0,jI 0,jI 0]) Z .u Z Z DM Z Z Z Z ?_
 obtain rfl:=CN h
 exact zZ (T.ret (z7 (Af [3] Tryz.results116 (AA (us:= #[.bool false,.string ⟨#[]⟩,jI 0,jI 0,jI 0]) 1 Z Ey DM Z Z))))
def bO (st:I) (a1_0:bh):Option (Bool×I):=(fa st).bind fun (x3,st4)=>if x3=0 then ((eo a1_0).bind fun x7=>if x7=0 then some (true,st4) else ((bg st4 x7).bind fun st10=>some (false,st10))) else some (false,st4)
theorem gJ (g:Nat) (st:I) (a1_0:bh) (A1:Option Addr) (c2:Nat) (r:Bool×I) (h:bO st a1_0=some r):au Tryz.prog 168 #[jP g,.func (.func 170) #[.agg (wA12 a1_0 A1 c2)] #[]] (RX.of (an 2 aX) [.slice A1 a1_0.BZ.length c2] a1_0.BZ) (InR g st) (fun v A' N=>v= .bool r.1∧A'=InR g r.2∧N = []):=by
 refine aL Tryz.func168 Z Tryz.ntmps168 Z ?_
 intro F w hX
 unfold bO at h
 refine zY Z (z8 aj Z (T.seq (zY Z ?_)))
 obtain⟨⟨x3,st4⟩,hx5,h⟩:=CL h
 try dsimp only at h
 refine zX aj 1 Z (Aq Z .u (.fn Tryz.call23 Z) (bu g st _ hx5) sT Z (zX aj 1 Z ?_))
 rcases jF h with⟨c6,h⟩ | ⟨c6,h⟩
 ·refine Au Z c6 (Ar (T.seq (zY Z ?_)))
  obtain⟨x7,hx8,h⟩:=CL h
  refine zX aj 1 Z (An Z .u (.val Z Tryz.call170 Z Z) (im a1_0 _ _ _ hx8) (fun _ hs=>(AC hs hX)) Z (Ai aj Z Z (zX aj 2 Z ?_)))
  rcases jF h with⟨c9,h⟩ | ⟨c9,h⟩
  ·refine Au Z c9 (Az Z (zX aj 1 Z ?_))
   obtain rfl:=CN h
   exact zZ (T.ret (Af [0] D0 (z5 Z)))
  refine At Z c9 (zY Z ?_)
  obtain⟨st10,hx11,h⟩:=CL h
  refine zX aj 2 Z (Aq Z .u (.fn Tryz.call70 Z) (aU g st4 x7 _ hx11) sT Z (Ab Z (zX aj 1 Z ?_)))
  obtain rfl:=CN h
  exact zZ (T.ret (z7 (Af [0] D0 (z5 Z))))
 refine At Z c6 (zY Z (zX aj 1 Z ?_))
 obtain rfl:=CN h
 exact zZ (T.ret (z7 (Af [0] D0 (z5 Z))))
def gU (st:I)  : Option (bh×I):=(lK st).bind fun (x2,st3)=>(bW st3 8).bind fun (x5,st6)=>(bW st6 2).bind fun (x8,st9)=>(bV st9).bind fun (x12,st15)=>(bO st15 (⟨x2,x5,x8,x12⟩:bh)).bind fun (x17,st18)=>if x17=true then (some ((⟨x2,x5,x8,x12⟩:bh),st18)) else (some ((⟨[],0,0,[]⟩:bh),st18))
theorem l8 (g:Nat) (st:I)  (r:bh×I) (h:gU st  = some r):au Tryz.prog 117 #[jP g] .triv (InR g st) (fun v A' N=> ∃ (A21:Option Addr) (c22:Nat),v= .agg #[jS r.1.Cc,jI r.1.BX,jI r.1.B5,.slice A21 r.1.BZ.length c22]∧A'=InR g r.2∧N = [RdR (an 2 aX) [.slice A21 r.1.BZ.length c22] r.1.BZ]):=by
 refine aL Tryz.func117 Z Tryz.ntmps117 Z ?_
 intro F w hX
 unfold gU at h
 refine zY Z (TL.alloc Z .u Tryz.zeroValue30 Z (fun b1=>(Ab Z ?_)))
 obtain⟨⟨x2,st3⟩,hx4,h⟩:=CL h
 try dsimp only at h
 refine zX aj 1 Z (Al Z .u (.fn Tryz.call86 Z) (jX g st _ hx4) sT Z ?_)
 obtain⟨⟨x5,st6⟩,hx7,h⟩:=CL h
 try dsimp only at h
 refine zX aj 1 Z (Al Z .u (.fn Tryz.call68 Z) (aE g st3 8 _ hx7) sT Z ?_)
 obtain⟨⟨x8,st9⟩,hx10,h⟩:=CL h
 try dsimp only at h
 refine zX aj 1 Z (Al Z .u (.fn Tryz.call68 Z) (aE g st6 2 _ hx10) sT Z ?_)
 refine z4 Z (Ao (cells:= #[jS x2,jI x5,jI x8,.slice none 0 0]) o7 Z (by kernel_rfl)) Z ?_
 refine TL.alloc Z .u Tryz.zeroValue30 Z (fun b11=>(Ad (cs':= #[jS x2,jI x5,jI x8,.slice none 0 0]) Z .u Z Z DN Z Z Z Z (Ab Z ?_)))
 obtain⟨⟨x12,st15⟩,hx16,h⟩:=CL h
 try dsimp only at h
 refine zX aj 1 Z (TL.cg2 Z .u (.fn Tryz.call89 Z) (ec g st9 _ hx16) sT Z ?_)
 rintro _ _ _ ⟨A13,c14,rfl,rfl,rfl⟩
 refine AD [0,0,0,0] Z (zX aj 1 Z (AP (cs':= #[jS x2,jI x5,jI x8,.slice A13 x12.length c14]) Z .u Z Z Ee Z Z Z Z (zZ (T.seq (zY Z (zX aj 1 Z (z4 Z (Ag (us := [jS x2,jI x5,jI x8,.slice A13 x12.length c14]) 1 Z Ez DN Z Z Z) Z (z4 Z (Ex.mkF Z Z (fun _=>Z)) Z ?_))))))))
 obtain⟨⟨x17,st18⟩,hx19,h⟩:=CL h
 try dsimp only at h
 refine Bq Z .u (.fn Tryz.call168 Z) (gJ g st15 (⟨x2,x5,x8,x12⟩:bh) _ _ _ hx19) (fun _ hs=>(BL 0 Z (fun w G h=>ga w G h))) Z (zX aj 1 Z ?_)
 rcases jF h with⟨c20,h⟩ | ⟨c20,h⟩
 ·refine zZ (Ay Z (cv c20) (Az Z (z4 Z (Ag (us := [jS x2,jI x5,jI x8,.slice A13 x12.length c14]) 1 Z Ez DN Z Z Z) Z (Bx (cs':= #[jS x2,jI x5,jI x8,.slice A13 x12.length c14]) Z .u Z Z DN Z Z Z Z ?_))))
  obtain rfl:=CN h
  exact zZ (T.ret (Aw [3,0] Tryz.results117 (AA (us:= #[jS x2,jI x5,jI x8,.slice A13 x12.length c14]) 2 Z Ez DN Z Z) ⟨_,_,Z,Z,Z⟩ (by rfl) (.inl Z)))
 replace c20:=CU c20
 refine zZ (Ae Z (cE c20) (zY Z ?_))
 refine z4 Z (Ao (cells:= #[.string ⟨#[]⟩,jI 0,jI 0,.slice none 0 0]) o7 Z (by kernel_rfl)) Z ?_
 refine Bx (cs':= #[.string ⟨#[]⟩,jI 0,jI 0,.slice none 0 0]) Z .u Z Z DN Z Z Z Z ?_
 obtain rfl:=CN h
 exact zZ (T.ret (z7 (Ak 2 aX (Aw [4,0] Tryz.results117 (AA (us:= #[.string ⟨#[]⟩,jI 0,jI 0,.slice none 0 0]) 3 Z Ez DN Z Z) ⟨_,_,Z,Z,Z⟩ (by rfl) (.inl Z)))))
def d7 (st:I)  : Option (Bool×I):=(bW st 1).bind fun (x1,st2)=>(if x1=0 then some false else (if x1=1 then some false else some true)).bind fun y5=>(if y5=true then ((bg st2 11).bind fun st15=>some st15) else some st2).bind fun st12=>if x1=1 then some (true,st12) else some (false,st12)
theorem ke (g:Nat) (st:I)  (r:Bool×I) (h:d7 st  = some r):au Tryz.prog 171 #[jP g] .triv (InR g st) (fun v A' N=>v= .bool r.1∧A'=InR g r.2∧N = []):=by
 refine aL Tryz.func171 Z Tryz.ntmps171 Z ?_
 intro F w hX
 unfold d7 at h
 refine zY Z (Ai aj Z Z ?_)
 obtain⟨⟨x1,st2⟩,hx3,h⟩:=CL h
 try dsimp only at h
 refine zX aj 1 Z (Aq Z .u (.fn Tryz.call68 Z) (aE g st 1 _ hx3) sT Z (z8 aj Z (T.ss ?_)))
 obtain⟨y5,h,hk6⟩:=CL h
 refine AK (fun e Rs=>e = [(0,jP g),(2,.bool false),(3,jI x1),(11,.bool y5)]∧Rs = [InR g st2]) ?_ ?_
 ·clear hk6
  refine T.region Z ?_
  rcases jF h with⟨c7,h⟩ | ⟨c7,h⟩
  ·refine zX aj 3 Z (z9 8 Z (cv (CP c7)) (Ac aj 3 Z ?_))
   cases h
   exact TL.nil (Ah [0])
  refine zX aj 3 Z (z9 8 Z (cE (CS c7)) (Ac aj 3 Z ?_))
  rcases jF h with⟨c8,h⟩ | ⟨c8,h⟩
  ·cases h
   exact TL.nil (AS (d:=11) (v':= .bool false) Z (congrArg Value.bool (cv (CP c8))) (Ah [0]))
  cases h
  exact TL.nil (AS (d:=11) (v':= .bool true) Z (congrArg Value.bool (cE (CS c8))) (Ah [0]))
 rintro _ _ ⟨rfl,rfl⟩
 clear h
 have h:=hk6
 clear hk6
 try dsimp only at h
 refine X.seq ?_
 obtain⟨st12,h,hk13⟩:=CL h
 refine AK (fun e Rs=>e = [(2,.bool false),(3,jI x1)]∧Rs = [InR g st12]) ?_ ?_
 ·clear hk13
  rcases jF h with⟨c14,h⟩ | ⟨c14,h⟩
  ·refine Ae Z c14 (T.region Z ?_)
   obtain⟨st15,hx16,h⟩:=CL h
   refine zX aj 1 Z (Aq Z .u (.fn Tryz.call70 Z) (aU g st2 11 _ hx16) sT Z ?_)
   cases h
   exact TL.nil (Ah [0])
  replace c14:=CU c14
  refine Ay Z c14 ?_
  cases h
  exact T.skip (Ah [0])
 rintro _ _ ⟨rfl,rfl⟩
 clear h
 have h:=hk13
 clear hk13
 try dsimp only at h
 refine X.seq (zY Z (zX aj 3 Z ?_))
 rcases jF h with⟨c17,h⟩ | ⟨c17,h⟩
 ·obtain rfl:=CN h
  exact zZ (T.ret (Aw [0] Tryz.results171 (z5 (v:= .bool true) (congrArg (fun b=>some (Value.bool b)) (CP c17))) ⟨Z,Z,Z⟩ (by rfl) (.inl Z)))
 obtain rfl:=CN h
 exact zZ (T.ret (Aw [0] Tryz.results171 (z5 (v:= .bool false) (congrArg (fun b=>some (Value.bool b)) (CS c17))) ⟨Z,Z,Z⟩ (by rfl) (.inl Z)))
def bP (st:I) (a1_0:bc):Option (Bool×I):=(fa st).bind fun (x1,st2)=>if x1=0 then ((es a1_0).bind fun x5=>if x5=0 then some (true,st2) else ((bg st2 x5).bind fun st8=>some (false,st8))) else some (false,st2)
theorem gK (g:Nat) (st:I) (a1_0:bc) (r:Bool×I) (h:bP st a1_0=some r):au Tryz.prog 168 #[jP g,.func (.func 172) #[.agg (wA14 a1_0)] #[]] .triv (InR g st) (fun v A' N=>v= .bool r.1∧A'=InR g r.2∧N = []):=by
 refine aL Tryz.func168 Z Tryz.ntmps168 Z ?_
 intro F w hX
 unfold bP at h
 refine zY Z (z8 aj Z (T.seq (zY Z ?_)))
 obtain⟨⟨x1,st2⟩,hx3,h⟩:=CL h
 try dsimp only at h
 refine zX aj 1 Z (Aq Z .u (.fn Tryz.call23 Z) (bu g st _ hx3) sT Z (zX aj 1 Z ?_))
 rcases jF h with⟨c4,h⟩ | ⟨c4,h⟩
 ·refine Au Z c4 (Ar (T.seq (zY Z ?_)))
  obtain⟨x5,hx6,h⟩:=CL h
  refine zX aj 1 Z (An Z .u (.val Z Tryz.call172 Z Z) (io a1_0 _ hx6) rT Z (Ai aj Z Z (zX aj 2 Z ?_)))
  rcases jF h with⟨c7,h⟩ | ⟨c7,h⟩
  ·refine Au Z c7 (Az Z (zX aj 1 Z ?_))
   obtain rfl:=CN h
   exact zZ (T.ret (Af [0] D0 (z5 Z)))
  refine At Z c7 (zY Z ?_)
  obtain⟨st8,hx9,h⟩:=CL h
  refine zX aj 2 Z (Aq Z .u (.fn Tryz.call70 Z) (aU g st2 x5 _ hx9) sT Z (Ab Z (zX aj 1 Z ?_)))
  obtain rfl:=CN h
  exact zZ (T.ret (z7 (Af [0] D0 (z5 Z))))
 refine At Z c4 (zY Z (zX aj 1 Z ?_))
 obtain rfl:=CN h
 exact zZ (T.ret (z7 (Af [0] D0 (z5 Z))))
def gV (st:I)  : Option (bc×I):=(lK st).bind fun (x2,st3)=>(bW st3 8).bind fun (x5,st6)=>(bW st6 2).bind fun (x8,st9)=>(d7 st9).bind fun (x12,st13)=>(bP st13 (⟨x2,x5,x8,x12⟩:bc)).bind fun (x15,st16)=>if x15=true then (some ((⟨x2,x5,x8,x12⟩:bc),st16)) else (some ((⟨[],0,0,false⟩:bc),st16))
theorem l9 (g:Nat) (st:I)  (r:bc×I) (h:gV st  = some r):au Tryz.prog 118 #[jP g] .triv (InR g st) (fun v A' N=>v= .agg #[jS r.1.Cc,jI r.1.BX,jI r.1.B5,.bool r.1.Cw]∧A'=InR g r.2∧N = []):=by
 refine aL Tryz.func118 Z Tryz.ntmps118 Z ?_
 intro F w hX
 unfold gV at h
 refine zY Z (TL.alloc Z .u Tryz.zeroValue32 Z (fun b1=>(Ab Z ?_)))
 obtain⟨⟨x2,st3⟩,hx4,h⟩:=CL h
 try dsimp only at h
 refine zX aj 1 Z (Al Z .u (.fn Tryz.call86 Z) (jX g st _ hx4) sT Z ?_)
 obtain⟨⟨x5,st6⟩,hx7,h⟩:=CL h
 try dsimp only at h
 refine zX aj 1 Z (Al Z .u (.fn Tryz.call68 Z) (aE g st3 8 _ hx7) sT Z ?_)
 obtain⟨⟨x8,st9⟩,hx10,h⟩:=CL h
 try dsimp only at h
 refine zX aj 1 Z (Al Z .u (.fn Tryz.call68 Z) (aE g st6 2 _ hx10) sT Z ?_)
 refine z4 Z (Ao (cells:= #[jS x2,jI x5,jI x8,.bool false]) o8 Z (by kernel_rfl)) Z ?_
 refine TL.alloc Z .u Tryz.zeroValue32 Z (fun b11=>(Ad (cs':= #[jS x2,jI x5,jI x8,.bool false]) Z .u Z Z DO Z Z Z Z (Ab Z ?_)))
 obtain⟨⟨x12,st13⟩,hx14,h⟩:=CL h
 try dsimp only at h
 refine zX aj 1 Z (AH Z .u (.fn Tryz.call171 Z) (ke g st9 _ hx14) sT Z (zX aj 1 Z (Ad (cs':= #[jS x2,jI x5,jI x8,.bool x12]) Z .u Z Z DC Z Z Z Z (zZ (T.seq (zY Z (zX aj 1 Z (z4 Z (Ag (us := [jS x2,jI x5,jI x8,.bool x12]) 0 Z EA DO Z Z Z) Z (z4 Z (Ex.mkF Z Z (fun _=>Z)) Z ?_)))))))))
 obtain⟨⟨x15,st16⟩,hx17,h⟩:=CL h
 try dsimp only at h
 refine AH Z .u (.fn Tryz.call168 Z) (gK g st13 (⟨x2,x5,x8,x12⟩:bc) _ hx17) sT Z (zX aj 1 Z ?_)
 rcases jF h with⟨c18,h⟩ | ⟨c18,h⟩
 ·refine zZ (Ay Z (cv c18) (Az Z (z4 Z (Ag (us := [jS x2,jI x5,jI x8,.bool x12]) 0 Z EA DO Z Z Z) Z (AP (cs':= #[jS x2,jI x5,jI x8,.bool x12]) Z .u Z Z DO Z Z Z Z ?_))))
  obtain rfl:=CN h
  exact zZ (T.ret (Aw [2] Tryz.results118 (AA (us:= #[jS x2,jI x5,jI x8,.bool x12]) 1 Z EA DO Z Z) ⟨Z,Z,Z⟩ (by rfl) (.inl Z)))
 replace c18:=CU c18
 refine zZ (Ae Z (cE c18) (zY Z ?_))
 refine z4 Z (Ao (cells:= #[.string ⟨#[]⟩,jI 0,jI 0,.bool false]) o8 Z (by kernel_rfl)) Z ?_
 refine AP (cs':= #[.string ⟨#[]⟩,jI 0,jI 0,.bool false]) Z .u Z Z DO Z Z Z Z ?_
 obtain rfl:=CN h
 exact zZ (T.ret (z7 (Af [2] Tryz.results118 (AA (us:= #[.string ⟨#[]⟩,jI 0,jI 0,.bool false]) 1 Z EA DO Z Z))))
def zf:fj := [(173,0,0),(173,1,1),(173,2,2),(173,3,3),(173,4,4)]
theorem ar:(zf).OK Tryz.prog:=⟨FOK.mk D5 rfl CX rfl,FOK.mk D5 rfl CX rfl,FOK.mk D5 rfl DC rfl,FOK.mk D5 rfl Ee rfl,FOK.mk D5 rfl CX rfl,trivial⟩
def zg:List Nat := [3,4,28]
theorem dH:NOK Tryz.prog zg:=⟨C0,Tryz.isAgg4,Tryz.isAgg28,trivial⟩
theorem rJ:BOK Tryz.prog 173 #[.int .i64 0,.int .i64 0,.bool false,.slice none 0 0,.int .i64 0] [(0,1),(1,1),(2,1),(3,1),(4,1)]:=BOK.mk Tryz.zeroValue173 D5 (by intro w; simp)
theorem qi:SOK Tryz.prog 33 173 1 5 #[.int .i64 0,.int .i64 0,.bool false,.slice none 0 0,.int .i64 0]:=SOK.mk DV DW Tryz.zeroValue173 (by decide) (by kernel_rfl)
theorem rK:(Tryz.prog.info? 173).map (fun i=>(i.zero,i.size,i.bytes))=some (some (.agg #[.int .i64 0,.int .i64 0,.bool false,.slice none 0 0,.int .i64 0]),5,56):=by kernel_rfl
def et (a0:aA) (a1:Int):Option (Int):=((fW a0.BX a0.B5).bind fun x14=>if x14=true then (if a0.Ci<0 then some true else ((fF a0.Ci 4).bind fun x18=>if x18=true then (if a1=0 then (if a0.Ci>0 then some true else some false) else some false) else some true)) else some true).bind fun y12=>if y12=true then some 11 else ((gI a0.BZ).bind fun x24=>some x24)
theorem kj (a0:aA) (A1:Option Addr) (c2:Nat) (a1:Int) (r:Int) (h:et a0 a1=some r):au Tryz.prog 193 #[.agg (wA16 a0 A1 c2),jI a1] (RX.of (an 2 aX) [.slice A1 a0.BZ.length c2] a0.BZ) (aI) (fun v A' N=>v=jI r∧A'=aI∧N = []):=by
 refine aL Tryz.func193 Z Tryz.ntmps193 Z ?_
 intro F w hX
 unfold et at h
 refine zY Z (TL.box Z .u Z Z (fun b3=>(z8 ar Z (T.ss ?_))))
 obtain⟨y12,h,hk13⟩:=CL h
 refine AK (fun e Rs=>e = [(2,jP b3),(4,jI 0),(30,.bool y12)]∧Rs = [ay b3 173 (wA16 a0 A1 c2),aI]) ?_ ?_
 ·clear hk13
  refine T.region Z ?_
  obtain⟨x14,hx15,h⟩:=CL h
  refine z6 ar dH 0 Z 4 Z Z (An Z .u (.fn Tryz.call192 Z) (gg a0.BX a0.B5 _ hx15) rT Z ?_)
  rcases jF h with⟨c16,h⟩ | ⟨c16,h⟩
  ·refine zX ar 2 Z (z9 11 Z (cv c16) ?_)
   rcases jF h with⟨c17,h⟩ | ⟨c17,h⟩
   ·refine z6 ar dH 0 Z 5 Z Z (z9 16 Z (CP c17) (Ac ar 14 Z ?_))
    cases h
    exact TL.nil (Ah [0,0])
   refine z6 ar dH 0 Z 5 Z Z (z9 16 Z (CS c17) ?_)
   obtain⟨x18,hx19,h⟩:=CL h
   refine z6 ar dH 0 Z 2 Z Z (An Z (.g Z Z Z) (.fn Tryz.call101 Z) (AJ (fun w=>cw a0.Ci 4 _ hx19 w)) (fun _ _=>RX.reads_triv _ _) Z ?_)
   rcases jF h with⟨c20,h⟩ | ⟨c20,h⟩
   ·refine Ac ar 3 Z (z9 22 Z (cv c20) ?_)
    rcases jF h with⟨c21,h⟩ | ⟨c21,h⟩
    ·refine Ac ar 3 Z (z9 25 Z (CP c21) (z6 ar dH 0 Z 5 Z Z ?_))
     rcases jF h with⟨c22,h⟩ | ⟨c22,h⟩
     ·cases h
      exact TL.nil (AS (d:=30) (v':= .bool true) Z (congrArg Value.bool (CP c22)) (Ah [0,0]))
     cases h
     exact TL.nil (AS (d:=30) (v':= .bool false) Z (congrArg Value.bool (CS c22)) (Ah [0,0]))
    refine Ac ar 3 Z (z9 25 Z (CS c21) (Ac ar 5 Z ?_))
    cases h
    exact TL.nil (Ah [0,0])
   replace c20:=CU c20
   refine Ac ar 3 Z (z9 22 Z (cE c20) (Ac ar 8 Z ?_))
   cases h
   exact TL.nil (Ah [0,0])
  replace c16:=CU c16
  refine zX ar 2 Z (z9 11 Z (cE c16) (Ac ar 19 Z ?_))
  cases h
  exact TL.nil (Ah [0,0])
 rintro _ _ ⟨rfl,rfl⟩
 clear h
 have h:=hk13
 clear hk13
 try dsimp only at h
 rcases jF h with⟨c23,h⟩ | ⟨c23,h⟩
 ·refine X.seq (Ae Z c23 (zY Z (zX ar 1 Z ?_)))
  obtain rfl:=CN h
  exact zZ (T.ret (z7 (Af [1] Tryz.results193 (z5 Z))))
 replace c23:=CU c23
 refine X.seq (Ay Z c23 (Az Z ?_))
 obtain⟨x24,hx25,h⟩:=CL h
 refine z6 ar dH 0 Z 2 Z Z (An Z .u (.fn Tryz.call210 Z) (kd a0.BZ _ _ _ hx25) (fun _ hs=>(AC hs hX)) Z (zX ar 1 Z ?_))
 obtain rfl:=CN h
 exact zZ (T.ret (Af [1] Tryz.results193 (z5 Z)))
def dr (a1:Int):List aA→Int→Option (Lp Int Int)
 | [],y4=>some (Lp.go y4)
 | x10::xs,y4=>(et x10 a1).bind fun x18=>if x18=0 then (dr a1 xs y4) else some (Lp.ret x18)
def fC (a0:List aA) (a1:Int):Option (Int):=if (a0.length:Int)=0 then some 10 else ((dr a1 a0 0).bind fun e=>match e with | .ret r=>some r | .go y21=>some 0)
theorem jb (a0:List aA) (A1:Option Addr) (c2:Nat) (a1:Int) (r:Int) (h:fC a0 a1=some r):au Tryz.prog 155 #[.slice A1 a0.length c2,jI a1] (RX.of (an 5 aM) [.slice A1 a0.length c2] a0) (aI) (fun v A' N=>v=jI r∧A'=aI∧N = []):=by
 refine aL Tryz.func155 Z Tryz.ntmps155 Z ?_
 intro F w hX
 unfold fC at h
 refine zY Z (z8 ar Z (T.seq (zY Z (zX ar 1 Z (z4 Z (AB Z DV) Z (zX ar 1 Z ?_))))))
 rcases jF h with⟨c3,h⟩ | ⟨c3,h⟩
 ·refine A4 Z c3 (zY Z (zX ar 1 Z ?_))
  obtain rfl:=CN h
  exact zZ (T.ret (z7 (Af [0] Tryz.results155 (z5 Z))))
 refine A7 Z c3 (Ar (T.seq (zY Z (zX ar 1 Z (z4 Z (AB Z DV) Z (z8 ar Z (T.block ?_)))))))
 obtain⟨E6,hE7,hO8⟩:=CL h
 have hk12len:=AL hX
 refine AX (fun m e Rs=> ∃ (y4:Int) (k5:Nat),k5+m=a0.length∧e = [(1,jI a1),(4,jI y4),(11,.slice A1 a0.length c2),(12,jI (a0.length:Int)),(13,jI (k5:Int))]∧Rs = [aI]∧dr a1 (a0.drop k5) y4=some E6) (a0.length) [0] ⟨0,0,by simp,Z,Z,by rw[List.drop_zero]; exact hE7⟩ (by rfl) (by rfl) ?_
 clear hE7 h
 rintro m9 _ _ ⟨y4,k5,hk12,rfl,rfl,h⟩
 cases m9 with
 | zero =>
  rw[List.drop_of_length_le (by omega),dr] at h
  have hk12ge: ¬ ((k5:Int)<(a0.length:Int)):=by omega
  refine zY Z (z8 ar Z (T.seq (Ay Z (CS hk12ge) ?_)))
  obtain rfl:=CN h
  replace h:=hO8
  clear hO8
  try dsimp only at h
  refine T.exit (As (As (AW (X.seq (zY Z (zX ar 1 Z ?_))))))
  obtain rfl:=CN h
  exact zZ (T.ret (Af [0] Tryz.results155 (z5 Z)))
 | succ m9 =>
  obtain⟨x10,hxx10⟩: ∃ x,a0[k5]? = some x:=⟨_,List.getElem?_eq_getElem (by omega)⟩
  rw[bF hxx10,dr] at h
  have hk12lt:(k5:Int)<(a0.length:Int):=by omega
  refine zY Z (z8 ar Z (T.seq (Ae Z (CP hk12lt) ?_)))
  obtain⟨gz13,oz13,rfl,z13cs,z13cl,z13cc,z13nf,z13r⟩:=AM (by decide) hX hxx10
  obtain⟨z13S,z13r,z13rr⟩:=z13r
  obtain⟨A14,c15,rfl,z13s0⟩:=z13r
  have hX16:(RX.of (an 2 aX) [.slice A14 x10.BZ.length c15] x10.BZ).reads w F:=⟨z13S,z13s0,z13rr⟩
  refine Ar (T.seq (T.block (zY Z ?_)))
  refine z4 Z (AN (k:=k5) Z Z Z DV DW (CZ hxx10).1) Z ?_
  refine z4 Z (Bj (us:=wL17 x10 A14 c15) 0 Z Tryz.isAgg173 DW z13nf z13cc Z Z Z) Z (TL.alloc Z .u Tryz.zeroValue173 Z (fun b17=>(Ad (cs':=wA16 x10 A14 c15) Z .u Z Z DW Z Z Z Z (Ab Z (z4 Z (Ag (us:=wL17 x10 A14 c15) 0 Z Tryz.isAgg173 DW Z Z Z) Z ?_)))))
  obtain⟨x18,hx19,h⟩:=CL h
  refine zX ar 1 Z (An Z .u (.fn Tryz.call193 Z) (kj x10 _ _ a1 _ hx19) (fun _ hs=>(AC hs hX16)) Z (Ai ar Z Z (zX ar 2 Z ?_)))
  rcases jF h with⟨c20,h⟩ | ⟨c20,h⟩
  ·exact Au Z c20 (T.skip (Ap (X.seq (T.region Z (z4 Z (Ex.add Z Z (by omega)) Z (zX ar 1 Z (TL.nil (X.back (m':=m9) [1] (by omega) ⟨y4,k5+1,by omega,Z,Z,h⟩ (by rfl) (by rfl)))))))))
  refine At Z c20 (zY Z (zX ar 2 Z ?_))
  obtain rfl:=CN h
  obtain rfl:=CN hO8
  exact zZ (T.ret (Am (z7 (z7 (Am (z7 (Af [1] Tryz.results155 (z5 Z))))))))
def db (a2:Int):List aA→(List UInt8×Int)→Option (List UInt8×Int)
 | [],st9=>some st9
 | x14::xs,st9=>(bY st9 x14.BX 8).bind fun st22=>(bY st22 x14.B5 2).bind fun st24=>(e6 st24 x14.Cw).bind fun st26=>(cV st26 x14.BZ).bind fun st28=>(if a2>0 then ((bY st28 x14.Ci 4).bind fun st36=>some st36) else some st28).bind fun st33=>db a2 xs st33
def gi (st:List UInt8×Int) (a1:List aA) (a2:Int):Option (List UInt8×Int):=(fC a1 a2).bind fun x3=>if x3=0 then ((bY st (a1.length:Int) 4).bind fun st6=>(db a2 a1 st6).bind fun st39=>some st39) else ((gE st x3).bind fun st40=>some st40)
theorem mN (g:Nat) (st:List UInt8×Int) (a1:List aA) (A1:Option Addr) (c2:Nat) (a2:Int) (r:List UInt8×Int) (h:gi st a1 a2=some r):au Tryz.prog 99 #[jP g,.slice A1 a1.length c2,jI a2] (RX.of (an 5 aM) [.slice A1 a1.length c2] a1) (aP g st) (fun v A' N=>v= .tuple #[]∧A'=aP g r∧N = []):=by
 refine aL Tryz.func99 Z Tryz.ntmps99 Z ?_
 intro F w hX
 unfold gi at h
 refine T.seq (zY Z ?_)
 obtain⟨x3,hx4,h⟩:=CL h
 refine zX ar 2 Z (An Z .u (.fn Tryz.call155 Z) (jb a1 _ _ a2 _ hx4) (fun _ hs=>(AC hs hX)) Z (Ai ar Z Z (zX ar 2 Z ?_)))
 rcases jF h with⟨c5,h⟩ | ⟨c5,h⟩
 ·refine Au Z c5 (Az Z (zX ar 2 Z (z4 Z (AB Z DV) Z ?_)))
  obtain⟨st6,hx7,h⟩:=CL h
  refine Aq Z .u (.fn Tryz.call51 Z) (aF g st (a1.length:Int) 4 _ hx7) sT Z (Ab Z (zX ar 1 Z (z4 Z (AB Z DV) Z (z8 ar Z (T.block ?_)))))
  obtain⟨E10,hE11,hO12⟩:=CL h
  have hk16len:=AL hX
  refine AX (fun m e Rs=> ∃ (k8:Nat) (st9:List UInt8×Int),k8+m=a1.length∧e = [(0,jP g),(2,jI a2),(21,.slice A1 a1.length c2),(22,jI (a1.length:Int)),(23,jI (k8:Int))]∧Rs = [aP g st9]∧db a2 (a1.drop k8) st9=some E10) (a1.length) [0] ⟨0,st6,by simp,Z,Z,by rw[List.drop_zero]; exact hE11⟩ (by rfl) (by rfl) ?_
  clear hE11 h
  rintro m13 _ _ ⟨k8,st9,hk16,rfl,rfl,h⟩
  cases m13 with
  | zero =>
   rw[List.drop_of_length_le (by omega),db] at h
   have hk16ge: ¬ ((k8:Int)<(a1.length:Int)):=by omega
   refine zY Z (z8 ar Z (T.seq (Ay Z (CS hk16ge) ?_)))
   obtain rfl:=CN h
   obtain rfl:=CN hO12
   exact T.exit (As (As (AW (AR [0] Tryz.results99 ⟨Z,Z,Z⟩ (by rfl) (.inr Z)))))
  | succ m13 =>
   obtain⟨x14,hxx14⟩: ∃ x,a1[k8]? = some x:=⟨_,List.getElem?_eq_getElem (by omega)⟩
   rw[bF hxx14,db] at h
   have hk16lt:(k8:Int)<(a1.length:Int):=by omega
   refine zY Z (z8 ar Z (T.seq (Ae Z (CP hk16lt) ?_)))
   obtain⟨gz17,oz17,rfl,z17cs,z17cl,z17cc,z17nf,z17r⟩:=AM (by decide) hX hxx14
   obtain⟨z17S,z17r,z17rr⟩:=z17r
   obtain⟨A18,c19,rfl,z17s0⟩:=z17r
   have hX20:(RX.of (an 2 aX) [.slice A18 x14.BZ.length c19] x14.BZ).reads w F:=⟨z17S,z17s0,z17rr⟩
   refine Ar (T.seq (T.block (zY Z ?_)))
   refine z4 Z (AN (k:=k8) Z Z Z DV DW (CZ hxx14).1) Z ?_
   refine z4 Z (Bj (us:=wL17 x14 A18 c19) 0 Z Tryz.isAgg173 DW z17nf z17cc Z Z Z) Z (TL.alloc Z .u Tryz.zeroValue173 Z (fun b21=>(Ad (cs':=wA16 x14 A18 c19) Z .u Z Z DW Z Z Z Z (Ab Z ?_))))
   obtain⟨st22,hx23,h⟩:=CL h
   refine z6 ar dH 0 Z 3 Z Z (Al Z .u (.fn Tryz.call51 Z) (aF g st9 x14.BX 8 _ hx23) sT Z (Ab Z ?_))
   obtain⟨st24,hx25,h⟩:=CL h
   refine z6 ar dH 0 Z 3 Z Z (Al Z .u (.fn Tryz.call51 Z) (aF g st22 x14.B5 2 _ hx25) sT Z (Ab Z ?_))
   obtain⟨st26,hx27,h⟩:=CL h
   refine z6 ar dH 0 Z 3 Z Z (Al Z .u (.fn Tryz.call154 Z) (iN g st24 x14.Cw _ hx27) sT Z (Ab Z ?_))
   obtain⟨st28,hx29,h⟩:=CL h
   refine z6 ar dH 0 Z 3 Z Z (Al Z .u (.fn Tryz.call91 Z) (eL g st26 x14.BZ _ _ _ hx29) (fun _ hs=>(Bk hs hX20)) Z (Ab Z (z8 ar Z ?_)))
   obtain⟨st33,h,hk34⟩:=CL h
   refine AK (fun e Rs=>e = [(0,jP g),(2,jI a2),(21,.slice (some ⟨gz17,oz17,none⟩) a1.length c2),(22,jI (a1.length:Int)),(23,jI (k8:Int))]∧Rs = [ay b21 173 (wA16 x14 A18 c19),aP g st33]) ?_ ?_
   ·clear hk34
    rcases jF h with⟨c35,h⟩ | ⟨c35,h⟩
    ·refine Bb Z c35 (T.region Z ?_)
     obtain⟨st36,hx37,h⟩:=CL h
     refine z6 ar dH 0 Z 3 Z Z (Al Z .u (.fn Tryz.call51 Z) (aF g st28 x14.Ci 4 _ hx37) sT Z ?_)
     cases h
     exact TL.nil (Ah [0,0])
    refine Bc Z c35 ?_
    cases h
    exact T.skip (Ah [0,0])
   rintro _ _ ⟨rfl,rfl⟩
   clear h
   have h:=hk34
   clear hk34
   try dsimp only at h
   exact Ap (X.seq (T.region Z (z4 Z (Ex.add Z Z (by omega)) Z (zX ar 1 Z (TL.nil (X.back (m':=m13) [1] (by omega) ⟨k8+1,st33,by omega,Z,Z,h⟩ (by rfl) (by rfl)))))))
 refine At Z c5 (zY Z ?_)
 obtain⟨st40,hx41,h⟩:=CL h
 refine zX ar 2 Z (Aq Z .u (.fn Tryz.call94 Z) (eC g st x3 _ hx41) sT Z ?_)
 obtain rfl:=CN h
 exact zZ (T.ret (z7 (AR [0] Tryz.results99 ⟨Z,Z,Z⟩ (by rfl) (.inl Z))))
def cm (a1:Int) (x1:Int):Nat→List aA→List aA→Nat→I→Option (Lp (List aA×I) (List aA×List aA×Nat×I))
 | 0,_,_,_,_=>none
 | m15+1,y4,y7,k10,st11=>if (k10:Int)<x1 then ((bW st11 8).bind fun (x20,st21)=>(bW st21 2).bind fun (x23,st24)=>(d7 st24).bind fun (x26,st27)=>(bV st27).bind fun (x30,st33)=>(if a1>0 then ((bW st33 4).bind fun (x43,st44)=>some (x43,st44)) else ((some (0,st33):Option (Int×I)))).bind fun (y39,st40)=>(fa st40).bind fun (x46,st47)=>if x46=0 then (if (y7.length+1)*56≤140737488355328 then (if -9223372036854775808≤((k10:Int)+1)∧((k10:Int)+1)≤9223372036854775807 then (cm a1 x1 m15 y4 (y7 ++ [(⟨x20,x23,x26,x30,y39⟩:aA)]) (k10+1) st47) else none) else none) else (some (Lp.ret ([],st47)))) else (some (Lp.go (y4,y7,k10,st11)))
def dW (st:I) (a1:Int):Option (List aA×I):=(fI st 4 15).bind fun (x1,st2)=>(cm a1 x1 ((x1).toNat+1) [] [] 0 st2).bind fun e=>match e with | .ret r=>some r | .go (y64,y67,k70,st71)=>((fa st71).bind fun (x72,st73)=>if x72=0 then ((fC y67 a1).bind fun x76=>if x76=0 then some (y67,st73) else ((bg st73 x76).bind fun st79=>some ([],st79))) else some ([],st73))
theorem nD (g:Nat) (st:I) (a1:Int) (r:List aA×I) (h:dW st a1=some r):au Tryz.prog 119 #[jP g,jI a1] .triv (InR g st) (fun v A' N=> ∃ (A81:Option Addr) (c82:Nat),v= .slice A81 r.1.length c82∧A'=InR g r.2∧N = [RdR (an 5 aM) [.slice A81 r.1.length c82] r.1]):=by
 refine aL Tryz.func119 Z Tryz.ntmps119 Z ?_
 intro F w hX
 unfold dW at h
 refine zY Z (Ai ar Z Z (z8 ar Z (T.seq (zY Z ?_))))
 obtain⟨⟨x1,st2⟩,hx3,h⟩:=CL h
 try dsimp only at h
 refine zX ar 1 Z (Aq Z .u (.fn Tryz.call144 Z) (gZ g st 4 15 _ hx3) sT Z (z8 ar Z (T.block ?_)))
 iterate 2 refine Bu 173 5 aM ?_
 obtain⟨E12,hE13,hO14⟩:=CL h
 refine AX (fun m e Rs=> ∃ (y4:List aA) (A5:Option Addr) (c6:Nat) (y7:List aA) (A8:Option Addr) (c9:Nat) (k10:Nat) (st11:I),e = [(0,jP g),(1,jI a1),(4,.slice A5 y4.length c6),(5,.slice A8 y7.length c9),(9,jI x1),(10,jI (k10:Int))]∧Rs = [cD 173 5 aM (.slice A5 y4.length c6) y4,cD 173 5 aM (.slice A8 y7.length c9) y7,InR g st11]∧cm a1 x1 m y4 y7 k10 st11=some E12) ((x1).toNat+1) [0,0,0] ⟨[],none,0,[],none,0,0,st2,Z,Z,by exact hE13⟩ (by rfl) (by rfl) ?_
 clear hE13 h
 rintro m15 _ _ ⟨y4,A5,c6,y7,A8,c9,k10,st11,rfl,rfl,h⟩
 cases m15 with
 | zero =>
  rw[cm] at h
  cases h
 | succ m15 =>
  rw[cm] at h
  refine zY Z (zX ar 1 Z ?_)
  rcases jF h with⟨c19,h⟩ | ⟨c19,h⟩
  ·refine zZ (T.seq (Bb Z c19 (Ar (T.seq (T.block (zY Z ?_))))))
   obtain⟨⟨x20,st21⟩,hx22,h⟩:=CL h
   try dsimp only at h
   refine zX ar 1 Z (AH Z .u (.fn Tryz.call68 Z) (aE g st11 8 _ hx22) sT Z ?_)
   obtain⟨⟨x23,st24⟩,hx25,h⟩:=CL h
   try dsimp only at h
   refine zX ar 1 Z (AH Z .u (.fn Tryz.call68 Z) (aE g st21 2 _ hx25) sT Z ?_)
   obtain⟨⟨x26,st27⟩,hx28,h⟩:=CL h
   try dsimp only at h
   refine zX ar 1 Z (AH Z .u (.fn Tryz.call171 Z) (ke g st24 _ hx28) sT Z ?_)
   refine z4 Z (Ao (cells:= #[jI x20,jI x23,.bool x26,.slice none 0 0,jI 0]) rJ Z (by kernel_rfl)) Z ?_
   refine TL.alloc Z .u Tryz.zeroValue173 Z (fun b29=>(Ad (cs':= #[jI x20,jI x23,.bool x26,.slice none 0 0,jI 0]) Z .u Z Z DW Z Z Z Z (Ab Z ?_)))
   obtain⟨⟨x30,st33⟩,hx34,h⟩:=CL h
   try dsimp only at h
   refine zX ar 1 Z (TL.cg3 Z .u (.fn Tryz.call89 Z) (ec g st27 _ hx34) sT Z ?_)
   rintro _ _ _ ⟨A31,c32,rfl,rfl,rfl⟩
   refine AD [0,0,0,0,0] Z (zX ar 1 Z (AP (cs':= #[jI x20,jI x23,.bool x26,.slice A31 x30.length c32,jI 0]) Z .u Z Z Ee Z Z Z Z (zZ (T.seq (zY Z (z8 ar Z ?_))))))
   obtain⟨⟨y39,st40⟩,h,hk41⟩:=CL h
   refine AK (fun e Rs=>e = [(0,jP g),(1,jI a1),(4,.slice A5 y4.length c6),(5,.slice A8 y7.length c9),(6,jP b29),(9,jI x1),(10,jI (k10:Int))]∧Rs = [RdR (an 2 aX) [.slice A31 x30.length c32] x30,ay b29 173 #[jI x20,jI x23,.bool x26,.slice A31 x30.length c32,jI y39],cD 173 5 aM (.slice A5 y4.length c6) y4,cD 173 5 aM (.slice A8 y7.length c9) y7,InR g st40]) ?_ ?_
   ·clear hk41
    rcases jF h with⟨c42,h⟩ | ⟨c42,h⟩
    ·refine Bb Z c42 (T.region Z ?_)
     obtain⟨⟨x43,st44⟩,hx45,h⟩:=CL h
     try dsimp only at h
     refine zX ar 1 Z (TL.c4 Z .u (.fn Tryz.call68 Z) (aE g st33 4 _ hx45) sT Z (zX ar 1 Z (AP (cs':= #[jI x20,jI x23,.bool x26,.slice A31 x30.length c32,jI x43]) Z .u Z Z CX Z Z Z Z ?_)))
     cases h
     exact TL.nil (Ah [0,0,0,0,0])
    refine Bc Z c42 ?_
    cases h
    exact T.skip (Ah [0,0,0,0,0])
   rintro _ _ ⟨rfl,rfl⟩
   clear h
   have h:=hk41
   clear hk41
   try dsimp only at h
   refine X.seq (T.seq (zY Z ?_))
   obtain⟨⟨x46,st47⟩,hx48,h⟩:=CL h
   try dsimp only at h
   refine zX ar 1 Z (TL.c4 Z .u (.fn Tryz.call23 Z) (bu g st40 _ hx48) sT Z (zX ar 1 Z ?_))
   rcases jF h with⟨c49,h⟩ | ⟨c49,h⟩
   ·refine Au Z c49 (Ar (T.region Z (zX ar 1 Z (z4 Z (Ag (us := [jI x20,jI x23,.bool x26,.slice A31 x30.length c32,jI y39]) 1 Z Tryz.isAgg173 DW Z Z Z) Z ?_))))
    refine BI (cells:= #[jI x20,jI x23,.bool x26,.slice A31 x30.length c32,jI y39]) Z .u qi Z (by kernel_rfl) Z (fun b50=> ?_)
    obtain⟨c51,h⟩:=aH h
    refine TL.app2 3 0 Z .u (us := [jI x20,jI x23,.bool x26,.slice A31 x30.length c32,jI y39]) (u:=(⟨x20,x23,x26,x30,y39⟩:aA)) (l:=y7) (E:=aM) Tryz.underlying33 rK Z (by decide) Z Z Z Z Z Z Z (fun w G hG=>⟨_,_,Z,hG.1⟩) (by have hq:=c51; omega) (by have hq:=c51; omega) Z (fun A52 c53=> ?_)
    refine AD [0,0,0,0] Z (zX ar 1 Z ?_)
    obtain⟨c54,h⟩:=aH h
    exact TL.nil (Ap (X.seq (T.region Z (z4 Z (Ex.add Z Z c54) Z (zX ar 1 Z (TL.nil (X.back (m':=m15) [2,0,1] (by omega) ⟨y4,A5,c6,(y7 ++ [(⟨x20,x23,x26,x30,y39⟩:aA)]),A52,c53,k10+1,st47,Z,Z,h⟩ (by rfl) (by rfl))))))))
   refine At Z c49 (zY Z (zX ar 1 Z ?_))
   obtain rfl:=CN h
   obtain rfl:=CN hO14
   exact zZ (T.ret (z7 (Am (z7 (z7 (Am (z7 (Ak 5 aM (Aw [5,0] ER (z5 Z) ⟨_,_,Z,Z,Z⟩ (by rfl) (.inl Z))))))))))
  refine zZ (T.seq (Bc Z c19 ?_))
  obtain rfl:=CN h
  replace h:=hO14
  clear hO14
  try dsimp only at h
  refine T.exit (As (As (AW (X.seq (T.seq (zY Z ?_))))))
  obtain⟨⟨x55,st56⟩,hx57,h⟩:=CL h
  try dsimp only at h
  refine zX ar 1 Z (AH Z .u (.fn Tryz.call23 Z) (bu g st11 _ hx57) sT Z (zX ar 1 Z ?_))
  rcases jF h with⟨c58,h⟩ | ⟨c58,h⟩
  ·refine Au Z c58 (Ar (T.seq (zY Z ?_)))
   obtain⟨x59,hx60,h⟩:=CL h
   refine zX ar 2 Z (An Z .u (.fn Tryz.call155 Z) (jb y7 _ _ a1 _ hx60) (fun _ hs=>(Bd 1 hs Z (fun w G h=>dB (by decide) w G h))) Z (Ai ar Z Z (zX ar 2 Z ?_)))
   rcases jF h with⟨c61,h⟩ | ⟨c61,h⟩
   ·refine Au Z c61 (Az Z (zX ar 2 Z ?_))
    obtain rfl:=CN h
    exact zZ (T.ret (X.shut (by decide) 1 Z (AU [0,0,0] Z (Aw [2,1] ER (z5 Z) ⟨_,_,Z,Z,Z⟩ (by rfl) (.inl Z)))))
   refine At Z c61 (zY Z ?_)
   obtain⟨st62,hx63,h⟩:=CL h
   refine zX ar 2 Z (AH Z .u (.fn Tryz.call70 Z) (aU g st56 x59 _ hx63) sT Z (Ab Z (zX ar 1 Z ?_)))
   obtain rfl:=CN h
   exact zZ (T.ret (z7 (Ak 5 aM (Aw [3,0] ER (z5 Z) ⟨_,_,Z,Z,Z⟩ (by rfl) (.inl Z)))))
  refine At Z c58 (zY Z (zX ar 1 Z ?_))
  obtain rfl:=CN h
  exact zZ (T.ret (z7 (Ak 5 aM (Aw [3,0] ER (z5 Z) ⟨_,_,Z,Z,Z⟩ (by rfl) (.inl Z)))))
def ud:fj := [(23,0,0),(23,1,1),(36,0,0),(36,1,2),(36,2,3),(36,3,4),(97,3,3),(97,4,4),(176,0,0),(176,1,1),(179,0,0),(179,1,1)]
theorem ae:(ud).OK Tryz.prog:=⟨FOK.mk DP rfl DC rfl,FOK.mk DP rfl DD rfl,FOK.mk Ea rfl C8 rfl,FOK.mk Ea rfl CX rfl,FOK.mk Ea rfl CX rfl,FOK.mk Ea rfl Tryz.sizeOf34 rfl,FOK.mk Dj rfl DC rfl,FOK.mk Dj rfl DC rfl,FOK.mk EK rfl DD rfl,FOK.mk EK rfl EV rfl,FOK.mk EL rfl CX rfl,FOK.mk EL rfl EW rfl,trivial⟩
def ue:List Nat := [3,4,9,34,174,177]
theorem aG:NOK Tryz.prog ue:=⟨C0,Tryz.isAgg4,DL,Tryz.isAgg34,EF,Tryz.isAgg177,trivial⟩
theorem jc:Tryz.prog.follows .mixedOrders=true:=by kernel_rfl
theorem gj:BOK Tryz.prog 36 #[.bool false,.string ⟨#[]⟩,.int .i64 0,.int .i64 0,.slice none 0 0] [(0,2),(2,1),(3,1),(4,1)]:=BOK.mk Tryz.zeroValue36 Ea (by intro w; simp)
theorem ol:BOK Tryz.prog 176 #[.string ⟨#[]⟩,.slice none 0 0] [(0,1),(1,1)]:=BOK.mk Tryz.zeroValue176 EK (by intro w; simp)
theorem om:BOK Tryz.prog 179 #[.int .i64 0,.slice none 0 0] [(0,1),(1,1)]:=BOK.mk Tryz.zeroValue179 EL (by intro w; simp)
theorem nE:SOK Tryz.prog 34 176 1 2 #[.string ⟨#[]⟩,.slice none 0 0]:=SOK.mk Du Dy Tryz.zeroValue176 (by decide) (by kernel_rfl)
theorem gk:SOK Tryz.prog 174 179 1 2 #[.int .i64 0,.slice none 0 0]:=SOK.mk Dq Dr Tryz.zeroValue179 (by decide) (by kernel_rfl)
theorem gl:SOK Tryz.prog 177 97 1 12 #[.int .i64 0,.int .i64 0,.bool false,.bool false,.bool false,.int .i64 0,.int .i64 0,.int .i64 0,.int .i64 0,.int .i64 0,.int .i64 0,.slice none 0 0]:=SOK.mk DK C3 Tryz.zeroValue97 (by decide) (by kernel_rfl)
theorem iO:(Tryz.prog.info? 97).map (fun i=>(i.zero,i.size,i.bytes))=some (some (.agg #[.int .i64 0,.int .i64 0,.bool false,.bool false,.bool false,.int .i64 0,.int .i64 0,.int .i64 0,.int .i64 0,.int .i64 0,.int .i64 0,.slice none 0 0]),12,96):=by kernel_rfl
theorem oo:(Tryz.prog.info? 176).map (fun i=>(i.zero,i.size,i.bytes))=some (some (.agg #[.string ⟨#[]⟩,.slice none 0 0]),2,40):=by kernel_rfl
theorem ia:(Tryz.prog.info? 179).map (fun i=>(i.zero,i.size,i.bytes))=some (some (.agg #[.int .i64 0,.slice none 0 0]),2,32):=by kernel_rfl
def cC (x10:aB):List aW→Int→Nat→Option (Lp Int Int)
 | [],y158,k159=>some (Lp.go y158)
 | x164::xs,y158,k159=>(if x164.Cs<0 then some true else ((fF x164.Cs 4).bind fun x223=>if x223=true then (if (k159:Int)>0 then (if -9223372036854775808≤((k159:Int) - 1)∧((k159:Int) - 1)≤9223372036854775807 then (if 0≤((k159:Int) - 1) then ((x10.B7[((k159:Int) - 1).toNat]?).bind fun x229=>if x229.Cs≥x164.Cs then some true else some false) else none) else none) else some false) else some true)).bind fun y220=>if y220=true then some (Lp.ret 13) else (cC x10 xs y158 (k159+1))
def bJ (a0:List aB):List aB→Int→Nat→Option (Lp Int Int)
 | [],y4,k5=>some (Lp.go y4)
 | x10::xs,y4,k5=>if (x10.B7.length:Int)=0 then some (Lp.ret 10) else ((if x10.Ck = [] then some true else (if (x10.Ck.length:Int)>32767 then some true else (if (k5:Int)>0 then (if -9223372036854775808≤((k5:Int) - 1)∧((k5:Int) - 1)≤9223372036854775807 then (if 0≤((k5:Int) - 1) then ((a0[((k5:Int) - 1).toNat]?).bind fun x150=>if (Op.bytesLess x150.Ck x10.Ck)=true then some false else some true) else none) else none) else some false))).bind fun y143=>if y143=true then some (Lp.ret 13) else ((cC x10 x10.B7 y4 0).bind fun e=>match e with | .ret r=>some (Lp.ret r) | .go y237=>(bJ a0 xs y237 (k5+1))))
theorem ly (a0:List aB) (y4:Int) (k5:Nat):bJ a0 [] y4 k5=(some (Lp.go y4)):=rfl
theorem lz (a0:List aB) (x10:aB) (xs:List aB) (y4:Int) (k5:Nat):bJ a0 (x10::xs) y4 k5=(if (x10.B7.length:Int)=0 then some (Lp.ret 10) else ((if x10.Ck = [] then some true else (if (x10.Ck.length:Int)>32767 then some true else (if (k5:Int)>0 then (if -9223372036854775808≤((k5:Int) - 1)∧((k5:Int) - 1)≤9223372036854775807 then (if 0≤((k5:Int) - 1) then ((a0[((k5:Int) - 1).toNat]?).bind fun x150=>if (Op.bytesLess x150.Ck x10.Ck)=true then some false else some true) else none) else none) else some false))).bind fun y143=>if y143=true then some (Lp.ret 13) else ((cC x10 x10.B7 y4 0).bind fun e=>match e with | .ret r=>some (Lp.ret r) | .go y237=>(bJ a0 xs y237 (k5+1))))):=rfl
def fu (a0:List aB):Option (Int):=if (a0.length:Int)=0 then some 10 else ((bJ a0 a0 0 0).bind fun e=>match e with | .ret r=>some r | .go y239=>some 0)
theorem lA (a0:List aB) (A1:Option Addr) (c2:Nat) (r:Int) (h:fu a0=some r):au Tryz.prog 194 #[.slice A1 a0.length c2] (RX.of (an 2 aw) [.slice A1 a0.length c2] a0) (aI) (fun v A' N=>v=jI r∧A'=aI∧N = []):=by
 refine aL Tryz.func194 Z Tryz.ntmps194 Z ?_
 intro F w hX
 unfold fu at h
 refine zY Z (z8 ae Z (T.seq (zY Z (zX ae 1 Z (z4 Z (AB Z Du) Z (zX ae 1 Z ?_))))))
 rcases jF h with⟨c3,h⟩ | ⟨c3,h⟩
 ·refine A4 Z c3 (zY Z (zX ae 1 Z ?_))
  obtain rfl:=CN h
  exact zZ (T.ret (z7 (Af [0] Eu (z5 Z))))
 refine A7 Z c3 (Ar (T.seq (zY Z (zX ae 1 Z (z4 Z (AB Z Du) Z (z8 ae Z (T.block ?_)))))))
 obtain⟨E6,hE7,hO8⟩:=CL h
 have hk12len:=AL hX
 refine AX (fun m e Rs=> ∃ (y4:Int) (k5:Nat),k5+m=a0.length∧e = [(0,.slice A1 a0.length c2),(2,jI y4),(10,.slice A1 a0.length c2),(11,jI (a0.length:Int)),(12,jI (k5:Int))]∧Rs = [aI]∧bJ a0 (a0.drop k5) y4 k5=some E6) (a0.length) [0] ⟨0,0,by simp,Z,Z,by rw[List.drop_zero]; exact hE7⟩ (by rfl) (by rfl) ?_
 clear hE7 h
 rintro m9 _ _ ⟨y4,k5,hk12,rfl,rfl,h⟩
 cases m9 with
 | zero =>
  rw[List.drop_of_length_le (by omega),ly] at h
  have hk12ge: ¬ ((k5:Int)<(a0.length:Int)):=by omega
  refine zY Z (z8 ae Z (T.seq (Ay Z (CS hk12ge) ?_)))
  obtain rfl:=CN h
  replace h:=hO8
  clear hO8
  try dsimp only at h
  refine T.exit (As (As (AW (X.seq (zY Z (zX ae 1 Z ?_))))))
  obtain rfl:=CN h
  exact zZ (T.ret (Af [0] Eu (z5 Z)))
 | succ m9 =>
  obtain⟨x10,hxx10⟩: ∃ x,a0[k5]? = some x:=⟨_,List.getElem?_eq_getElem (by omega)⟩
  rw[bF hxx10,lz] at h
  have hk12lt:(k5:Int)<(a0.length:Int):=by omega
  refine zY Z (z8 ae Z (T.seq (Ae Z (CP hk12lt) (Ar (T.seq (T.block (zY Z ?_)))))))
  obtain⟨gz126,oz126,rfl,z126cs,z126cl,z126cc,z126nf,z126r⟩:=AM (by decide) hX hxx10
  obtain⟨z126S,z126r,z126rr⟩:=z126r
  obtain⟨A127,c128,rfl,z126s0⟩:=z126r
  have hX129:(RX.of (an 2 bG) [.slice A127 x10.B7.length c128] x10.B7).reads w F:=⟨z126S,z126s0,z126rr⟩
  refine zX ae 1 Z ?_
  refine z4 Z (AN (k:=k5) Z Z Z Du Dy (CZ hxx10).1) Z ?_
  refine z4 Z (Bj (us := [jS x10.Ck,.slice A127 x10.B7.length c128]) 0 Z Tryz.isAgg176 Dy z126nf z126cc Z Z Z) Z (TL.alloc Z .u Tryz.zeroValue176 Z (fun b130=>(zX ae 1 Z (Ad (cs':= #[jS x10.Ck,.slice A127 x10.B7.length c128]) Z .u Z Z Dy Z Z Z Z (zZ (T.seq (zY Z (z6 ae aG 0 Z 2 Z Z (z4 Z (AB Z Dq) Z (zX ae 1 Z ?_))))))))))
  rcases jF h with⟨c131,h⟩ | ⟨c131,h⟩
  ·refine A4 Z c131 (zY Z (zX ae 1 Z ?_))
   obtain rfl:=CN h
   obtain rfl:=CN hO8
   exact zZ (T.ret (z7 (Am (z7 (z7 (Am (z7 (Af [1] Eu (z5 Z)))))))))
  refine A7 Z c131 (Ar (T.ss ?_))
  obtain⟨y143,h,hk144⟩:=CL h
  refine AK (fun e Rs=>e = [(0,.slice (some ⟨gz126,oz126,none⟩) a0.length c2),(2,jI y4),(4,jP b130),(10,.slice (some ⟨gz126,oz126,none⟩) a0.length c2),(11,jI (a0.length:Int)),(12,jI (k5:Int)),(44,.bool y143)]∧Rs = [ay b130 176 #[jS x10.Ck,.slice A127 x10.B7.length c128],aI]) ?_ ?_
  ·clear hk144
   refine AE (.q 0 (.q 1 (.q 2 (.q 3 (.q 4 (.q 5 (.q 6 (.q 7 (.q 8 (.q 9 (.q 10 (.q 11 (.q 12 (.q 13 (.q 14 (.q 15 (.q 16 (.q 17 (.q 18 (.q 19 (.q 20 (.q 21 (.q 22 (.q 23 .nil)))))))))))))))))))))))) [0,0] Z jc (NoP.seq (NoP.seq (NoP.seq (NoP.blk (NoP.seq (NoP.seq (NoP.blk (NoP.seq bx)))))))) (by kernel_rfl) ?_
   refine TD.run ae [0] Z Z (Aa Z (Aj 0 Z DL Z Z) Z (Aa Z (Ex.sEq Z (m := []) Z) Z ?_))
   rcases jF h with⟨c145,h⟩ | ⟨c145,h⟩
   ·refine TD.run ae [3] Z Z ?_
    iterate 4 refine Bf Z (.gn Z Z (CP c145)) Z ?_
    refine Aa Z (BD Z (CP c145) Z) Z (TD.run ae [9] Z Z ?_)
    iterate 3 refine Bf Z (.gn Z Z Z) Z ?_
    iterate 9 refine Bf Z (.gu Z Z) Z ?_
    refine Bf Z (.gn Z Z Z) Z (Aa Z (BD Z Z Z) Z ?_)
    cases h
    exact TD.nil (Ah [0,0])
   refine TD.run ae [3] Z Z (TD.q Z (.g Z Z (CS c145)) (Bg ae Z) Z (TD.q Z (.g Z Z (CS c145)) (Aj 0 Z DL Z Z) Z (TD.q Z (.g Z Z (CS c145)) (BM Z Dv) Z (TD.q Z (.g Z Z (CS c145)) (Bg ae Z) Z (Aa Z (Bm Z (CS c145) Z) Z ?_)))))
   rcases jF h with⟨c146,h⟩ | ⟨c146,h⟩
   ·refine TD.run ae [9] Z Z ?_
    iterate 3 refine Bf Z (.gn Z Z (CP c146)) Z ?_
    iterate 9 refine Bf Z (.gu Z Z) Z ?_
    refine Bf Z (.gn Z Z (CP c146)) Z (Aa Z (BD Z (CP c146) Z) Z ?_)
    cases h
    exact TD.nil (Ah [0,0])
   refine TD.run ae [9] Z Z ?_
   iterate 3 refine TD.q Z (.g Z Z (CS c146)) (Bg ae Z) Z ?_
   rcases jF h with⟨c147,h⟩ | ⟨c147,h⟩
   ·refine TD.q Z (.g Z Z (CP c147)) (Bg ae Z) Z (TD.q Z (.g Z Z (CP c147)) (Bg ae Z) Z ?_)
    obtain⟨c148,h⟩:=aH h
    refine TD.q Z (.g Z Z (CP c147)) (Ex.sub Z Z c148) Z ?_
    obtain⟨c149,h⟩:=aH h
    obtain⟨x150,hx151,h⟩:=CL h
    obtain⟨z152cs,z152cl,z152cc,z152nf,z152r⟩:=RX.elem' (by decide) hX hx151
    obtain⟨z152S,z152r,z152rr⟩:=z152r
    obtain⟨A153,c154,rfl,z152s0⟩:=z152r
    have hX155:(RX.of (an 2 bG) [.slice A153 x150.B7.length c154] x150.B7).reads w F:=⟨z152S,z152s0,z152rr⟩
    refine TD.q Z (.g Z Z (CP c147)) (AN (k:=((k5:Int) - 1).toNat) Z Z ((Int.toNat_of_nonneg c149).symm) Du Dy (CZ hx151).1) Z ?_
    refine TD.q Z (.g Z Z (CP c147)) (Bg ae Z) Z (TD.q Z (.g Z Z (CP c147)) (Ex.o1 0 Z DL z152nf z152cc Z Z) Z (TD.q Z (.g Z Z (CP c147)) (Bg ae Z) Z (TD.q Z (.g Z Z (CP c147)) (Aj 0 Z DL Z Z) Z (TD.q Z (.g Z Z (CP c147)) (Ex.sGe Z Z) Z (TD.q Z (.g Z Z (CS c146)) (BD Z (CP c147) Z) Z (Aa Z (Bm Z (CS c146) Z) Z ?_))))))
    rcases jF h with⟨c156,h⟩ | ⟨c156,h⟩
    ·cases h
     exact TD.nil (AS (d:=44) (v':= .bool false) Z (congrArg Value.bool (cv c156)) (Ah [0,0]))
    replace c156:=CU c156
    cases h
    exact TD.nil (AS (d:=44) (v':= .bool true) Z (congrArg Value.bool (cE c156)) (Ah [0,0]))
   refine Bf Z (.gn Z Z (CS c147)) Z ?_
   iterate 8 refine Bf Z (.gn Z Z (CS c147)) Z ?_
   refine TD.q Z (.g Z Z (CS c146)) (Bm Z (CS c147) Z) Z (Aa Z (Bm Z (CS c146) Z) Z ?_)
   cases h
   exact TD.nil (Ah [0,0])
  rintro _ _ ⟨rfl,rfl⟩
  clear h
  have h:=hk144
  clear hk144
  try dsimp only at h
  rcases jF h with⟨c157,h⟩ | ⟨c157,h⟩
  ·refine X.seq (Ae Z c157 (zY Z (zX ae 1 Z ?_)))
   obtain rfl:=CN h
   obtain rfl:=CN hO8
   exact zZ (T.ret (z7 (Am (z7 (z7 (Am (z7 (Af [1] Eu (z5 Z)))))))))
  replace c157:=CU c157
  refine X.seq (Ay Z c157 (Az Z (z6 ae aG 0 Z 2 Z Z (z4 Z (AB Z Dq) Z (z8 ae Z (T.block ?_))))))
  obtain⟨E160,hE161,hO162⟩:=CL h
  have hk166len:=AL hX129
  refine AX (fun m e Rs=> ∃ (y158:Int) (k159:Nat),k159+m=x10.B7.length∧e = [(0,.slice (some ⟨gz126,oz126,none⟩) a0.length c2),(2,jI y158),(4,jP b130),(10,.slice (some ⟨gz126,oz126,none⟩) a0.length c2),(11,jI (a0.length:Int)),(12,jI (k5:Int)),(46,.slice A127 x10.B7.length c128),(47,jI (x10.B7.length:Int)),(48,jI (k159:Int))]∧Rs = [ay b130 176 #[jS x10.Ck,.slice A127 x10.B7.length c128],aI]∧cC x10 (x10.B7.drop k159) y158 k159=some E160) (x10.B7.length) [0,0] ⟨y4,0,by simp,Z,Z,by rw[List.drop_zero]; exact hE161⟩ (by rfl) (by rfl) ?_
  clear hE161 h
  rintro m163 _ _ ⟨y158,k159,hk166,rfl,rfl,h⟩
  cases m163 with
  | zero =>
   rw[List.drop_of_length_le (by omega),cC] at h
   have hk166ge: ¬ ((k159:Int)<(x10.B7.length:Int)):=by omega
   refine zY Z (z8 ae Z (T.seq (Ay Z (CS hk166ge) ?_)))
   obtain rfl:=CN h
   replace h:=hO162
   clear hO162
   try dsimp only at h
   exact T.exit (As (As (AW (Ap (X.seq (T.region Z (z4 Z (Ex.add Z Z (by omega)) Z (zX ae 1 Z (TL.nil (X.back (m':=m9) [1] (by omega) ⟨y158,k5+1,by omega,Z,Z,h⟩ (by rfl) (by rfl)))))))))))
  | succ m163 =>
   obtain⟨x164,hxx164⟩: ∃ x,x10.B7[k159]? = some x:=⟨_,List.getElem?_eq_getElem (by omega)⟩
   rw[bF hxx164,cC] at h
   have hk166lt:(k159:Int)<(x10.B7.length:Int):=by omega
   refine zY Z (z8 ae Z (T.seq (Ae Z (CP hk166lt) (Ar (T.seq (T.block (zY Z ?_)))))))
   obtain⟨gz202,oz202,rfl,z202cs,z202cl,z202cc,z202nf,z202r⟩:=AM (by decide) hX129 hxx164
   obtain⟨z202S,z202r,z202rr⟩:=z202r
   obtain⟨A203,c204,rfl,z202s0⟩:=z202r
   have hX205:(RX.of (an 12 fb) [.slice A203 x164.Cf.length c204] x164.Cf).reads w F:=⟨z202S,z202s0,z202rr⟩
   refine zX ae 1 Z ?_
   refine z4 Z (AN (k:=k159) Z Z Z Dq Dr (CZ hxx164).1) Z ?_
   refine z4 Z (Bj (us := [jI x164.Cs,.slice A203 x164.Cf.length c204]) 0 Z EG Dr z202nf z202cc Z Z Z) Z (TL.alloc Z .u Tryz.zeroValue179 Z (fun b206=>(zX ae 1 Z (Ad (cs':= #[jI x164.Cs,.slice A203 x164.Cf.length c204]) Z .u Z Z Dr Z Z Z Z (zZ (T.seq ?_))))))
   obtain⟨y220,h,hk221⟩:=CL h
   refine AK (fun e Rs=>e = [(0,.slice (some ⟨gz126,oz126,none⟩) a0.length c2),(2,jI y158),(4,jP b130),(10,.slice (some ⟨gz126,oz126,none⟩) a0.length c2),(11,jI (a0.length:Int)),(12,jI (k5:Int)),(46,.slice (some ⟨gz202,oz202,none⟩) x10.B7.length c128),(47,jI (x10.B7.length:Int)),(48,jI (k159:Int)),(77,.bool y220)]∧Rs = [ay b206 179 #[jI x164.Cs,.slice A203 x164.Cf.length c204],ay b130 176 #[jS x10.Ck,.slice (some ⟨gz202,oz202,none⟩) x10.B7.length c128],aI]) ?_ ?_
   ·clear hk221
    refine AE (.q 0 (.q 1 (.q 2 (.q 3 (.q 4 (.q 5 (.e 6 (.q 7 (.q 8 (.q 9 (.q 10 (.q 11 (.q 12 (.q 13 (.q 14 (.q 15 (.q 16 (.q 17 (.q 18 (.q 19 (.q 20 (.q 21 (.q 22 (.q 23 (.q 24 .nil))))))))))))))))))))))))) [0,0,0] Z jc (NoP.seq (NoP.seq (NoP.blk (NoP.seq (NoP.seq (NoP.blk (NoP.blk (NoP.seq (NoP.seq (NoP.blk (NoP.seq bx))))))))))) (by kernel_rfl) ?_
    refine TD.run ae [0] Z Z (Aa Z (Aj 0 Z C0 Z Z) Z ?_)
    rcases jF h with⟨c222,h⟩ | ⟨c222,h⟩
    ·refine TD.run ae [2,3] Z Z ?_
     iterate 2 refine Bf Z (.gn Z Z (CP c222)) Z ?_
     refine TD.noe Z (.gn Z Z (CP c222)) Z [0,0,0] Z (Bf Z (.gn Z Z (CP c222)) Z (Aa Z (BD Z (CP c222) Z) Z (TD.run ae [9] Z Z ?_)))
     iterate 3 refine Bf Z (.gn Z Z Z) Z ?_
     iterate 10 refine Bf Z (.gu Z Z) Z ?_
     refine Bf Z (.gn Z Z Z) Z (Aa Z (BD Z Z Z) Z ?_)
     cases h
     exact TD.nil (Ah [0,0,0])
    refine TD.run ae [2,3] Z Z (TD.q Z (.g Z Z (CS c222)) (Bg ae Z) Z (TD.q Z (.g Z Z (CS c222)) (Aj 0 Z C0 Z Z) Z ?_))
    obtain⟨x223,hx224,h⟩:=CL h
    refine TD.ce Z (.g Z Z (CS c222)) (.fn Tryz.call101 Z) (AJ (fun w=>cw x164.Cs 4 _ hx224 w)) (fun _ _=>RX.reads_triv _ _) Z [0,0,0] (Z) (TD.q Z (.g Z Z (CS c222)) (Bg ae Z) Z (Aa Z (Bm Z (CS c222) Z) Z ?_))
    rcases jF h with⟨c225,h⟩ | ⟨c225,h⟩
    ·refine TD.run ae [9] Z Z ?_
     iterate 3 refine TD.q Z (.g Z Z (cv c225)) (Bg ae Z) Z ?_
     rcases jF h with⟨c226,h⟩ | ⟨c226,h⟩
     ·refine TD.q Z (.g Z Z (CP c226)) (Bg ae Z) Z (TD.q Z (.g Z Z (CP c226)) (Aj 1 Z EF Z Z) Z (TD.q Z (.g Z Z (CP c226)) (Bg ae Z) Z ?_))
      obtain⟨c227,h⟩:=aH h
      refine TD.q Z (.g Z Z (CP c226)) (Ex.sub Z Z c227) Z ?_
      obtain⟨c228,h⟩:=aH h
      obtain⟨x229,hx230,h⟩:=CL h
      obtain⟨z231cs,z231cl,z231cc,z231nf,z231r⟩:=RX.elem' (by decide) hX129 hx230
      obtain⟨z231S,z231r,z231rr⟩:=z231r
      obtain⟨A232,c233,rfl,z231s0⟩:=z231r
      have hX234:(RX.of (an 12 fb) [.slice A232 x229.Cf.length c233] x229.Cf).reads w F:=⟨z231S,z231s0,z231rr⟩
      refine TD.q Z (.g Z Z (CP c226)) (AN (k:=((k159:Int) - 1).toNat) Z Z ((Int.toNat_of_nonneg c228).symm) Dq Dr (CZ hx230).1) Z ?_
      refine TD.q Z (.g Z Z (CP c226)) (Bg ae Z) Z (TD.q Z (.g Z Z (CP c226)) (Ex.o1 0 Z C0 z231nf z231cc Z Z) Z (TD.q Z (.g Z Z (CP c226)) (Bg ae Z) Z (TD.q Z (.g Z Z (CP c226)) (Aj 0 Z C0 Z Z) Z (TD.q Z (.g Z Z (CP c226)) (Bg ae Z) Z (TD.q Z (.g Z Z (cv c225)) (BD Z (CP c226) Z) Z (Aa Z (Bm Z (cv c225) Z) Z ?_))))))
      rcases jF h with⟨c235,h⟩ | ⟨c235,h⟩
      ·cases h
       exact TD.nil (AS (d:=77) (v':= .bool true) Z (congrArg Value.bool (CP c235)) (Ah [0,0,0]))
      cases h
      exact TD.nil (AS (d:=77) (v':= .bool false) Z (congrArg Value.bool (CS c235)) (Ah [0,0,0]))
     refine Bf Z (.gn Z Z (CS c226)) Z ?_
     iterate 9 refine Bf Z (.gn Z Z (CS c226)) Z ?_
     refine TD.q Z (.g Z Z (cv c225)) (Bm Z (CS c226) Z) Z (Aa Z (Bm Z (cv c225) Z) Z ?_)
     cases h
     exact TD.nil (Ah [0,0,0])
    replace c225:=CU c225
    refine TD.run ae [9] Z Z ?_
    iterate 3 refine Bf Z (.gn Z Z (cE c225)) Z ?_
    iterate 10 refine Bf Z (.gu Z Z) Z ?_
    refine Bf Z (.gn Z Z (cE c225)) Z (Aa Z (BD Z (cE c225) Z) Z ?_)
    cases h
    exact TD.nil (Ah [0,0,0])
   rintro _ _ ⟨rfl,rfl⟩
   clear h
   have h:=hk221
   clear hk221
   try dsimp only at h
   rcases jF h with⟨c236,h⟩ | ⟨c236,h⟩
   ·refine X.seq (Ae Z c236 (zY Z (zX ae 1 Z ?_)))
    obtain rfl:=CN h
    obtain rfl:=CN hO162
    obtain rfl:=CN hO8
    exact zZ (T.ret (Am (z7 (z7 (Am (Am (z7 (z7 (Am (z7 (Af [2] Eu (z5 Z))))))))))))
   replace c236:=CU c236
   exact X.seq (Ay Z c236 (T.skip (Ap (X.seq (T.region Z (z4 Z (Ex.add Z Z (by omega)) Z (zX ae 1 Z (TL.nil (X.back (m':=m163) [1,1] (by omega) ⟨y158,k159+1,by omega,Z,Z,h⟩ (by rfl) (by rfl))))))))))
def bd (a0:ao):List Bat→Int→Option (Lp Int Int)
 | [],y14=>some (Lp.go y14)
 | x20::xs,y14=>(cH x20).bind fun x28=>if x28=0 then (if x20.Ct=true then some (Lp.ret 12) else (if (x20.CI == a0.Cc.null)=true then some (Lp.ret 8) else (bd a0 xs y14))) else some (Lp.ret x28)
def cI (a0:ao) (a1:List Bat) (a2:Int):Option (Int):=(if (a1.length:Int)=0 then some true else (if a2<4 then (if (a1.length:Int)>1 then some true else some false) else some false)).bind fun y8=>if y8=true then some 10 else ((bd a0 a1 0).bind fun e=>match e with | .ret r=>some r | .go y33=>some 0)
theorem hM (a0:ao) (A1:Option Addr) (c2:Nat) (a1:List Bat) (A3:Option Addr) (c4:Nat) (a2:Int) (r:Int) (h:cI a0 a1 a2=some r):au Tryz.prog 195 #[.agg (qe a0 A1 c2),.slice A3 a1.length c4,jI a2] (RX.and (RX.of (an 2 aw) [.slice A1 a0.BZ.length c2] a0.BZ) (RX.of (an 12 fb) [.slice A3 a1.length c4] a1)) (aI) (fun v A' N=>v=jI r∧A'=aI∧N = []):=by
 refine aL Tryz.func195 Z Tryz.ntmps195 Z ?_
 intro F w hX
 unfold cI at h
 refine zY Z (TL.box Z .u Z Z (fun b5=>(z8 ae Z (T.ss ?_))))
 obtain⟨y8,h,hk9⟩:=CL h
 refine AK (fun e Rs=>e = [(1,.slice A3 a1.length c4),(3,jP b5),(6,jI 0),(21,.bool y8)]∧Rs = [ay b5 36 (qe a0 A1 c2),aI]) ?_ ?_
 ·clear hk9
  refine T.region Z (zX ae 1 Z (z4 Z (AB Z DK) Z ?_))
  rcases jF h with⟨c10,h⟩ | ⟨c10,h⟩
  ·refine zX ae 2 Z (z9 13 Z (CP c10) (Ac ae 8 Z ?_))
   cases h
   exact TL.nil (Ah [0,0])
  refine zX ae 2 Z (z9 13 Z (CS c10) ?_)
  rcases jF h with⟨c11,h⟩ | ⟨c11,h⟩
  ·refine Ac ae 3 Z (z9 16 Z (CP c11) (Ac ae 1 Z (TL.q Z (.g Z Z Z) (AB Z DK) Z (Ac ae 3 Z ?_))))
   rcases jF h with⟨c12,h⟩ | ⟨c12,h⟩
   ·cases h
    exact TL.nil (AS (d:=21) (v':= .bool true) Z (congrArg Value.bool (CP c12)) (Ah [0,0]))
   cases h
   exact TL.nil (AS (d:=21) (v':= .bool false) Z (congrArg Value.bool (CS c12)) (Ah [0,0]))
  refine Ac ae 3 Z (z9 16 Z (CS c11) (Ac ae 5 Z ?_))
  cases h
  exact TL.nil (Ah [0,0])
 rintro _ _ ⟨rfl,rfl⟩
 clear h
 have h:=hk9
 clear hk9
 try dsimp only at h
 rcases jF h with⟨c13,h⟩ | ⟨c13,h⟩
 ·refine X.seq (Ae Z c13 (zY Z (zX ae 1 Z ?_)))
  obtain rfl:=CN h
  exact zZ (T.ret (z7 (Af [1] Ev (z5 Z))))
 replace c13:=CU c13
 refine X.seq (Ay Z c13 (Ar (T.seq (zY Z (zX ae 1 Z (z4 Z (AB Z DK) Z (z8 ae Z (T.block ?_))))))))
 obtain⟨E16,hE17,hO18⟩:=CL h
 have hk22len:=AL (AV hX)
 refine AX (fun m e Rs=> ∃ (y14:Int) (k15:Nat),k15+m=a1.length∧e = [(3,jP b5),(6,jI y14),(22,.slice A3 a1.length c4),(23,jI (a1.length:Int)),(24,jI (k15:Int))]∧Rs = [ay b5 36 (qe a0 A1 c2),aI]∧bd a0 (a1.drop k15) y14=some E16) (a1.length) [0,0] ⟨0,0,by simp,Z,Z,by rw[List.drop_zero]; exact hE17⟩ (by rfl) (by rfl) ?_
 clear hE17 h
 rintro m19 _ _ ⟨y14,k15,hk22,rfl,rfl,h⟩
 cases m19 with
 | zero =>
  rw[List.drop_of_length_le (by omega),bd] at h
  have hk22ge: ¬ ((k15:Int)<(a1.length:Int)):=by omega
  refine zY Z (z8 ae Z (T.seq (Ay Z (CS hk22ge) ?_)))
  obtain rfl:=CN h
  replace h:=hO18
  clear hO18
  try dsimp only at h
  refine T.exit (As (As (AW (X.seq (zY Z (zX ae 1 Z ?_))))))
  obtain rfl:=CN h
  exact zZ (T.ret (Af [1] Ev (z5 Z)))
 | succ m19 =>
  obtain⟨x20,hxx20⟩: ∃ x,a1[k15]? = some x:=⟨_,List.getElem?_eq_getElem (by omega)⟩
  rw[bF hxx20,bd] at h
  have hk22lt:(k15:Int)<(a1.length:Int):=by omega
  refine zY Z (z8 ae Z (T.seq (Ae Z (CP hk22lt) ?_)))
  obtain⟨gz23,oz23,rfl,z23cs,z23cl,z23cc,z23nf,z23r⟩:=AM (by decide) (AV hX) hxx20
  obtain⟨z23S,z23r,z23rr⟩:=z23r
  obtain⟨A24,c25,rfl,z23s0⟩:=z23r
  have hX26:(RX.of (an 7 cn) [.slice A24 x20.B0.length c25] x20.B0).reads w F:=⟨z23S,z23s0,z23rr⟩
  refine Ar (T.seq (T.block (zY Z ?_)))
  refine z4 Z (AN (k:=k15) Z Z Z DK C3 (CZ hxx20).1) Z ?_
  refine z4 Z (Bj (us:=wL6 x20 A24 c25) 0 Z Di C3 z23nf z23cc Z Z Z) Z (TL.alloc Z .u Tryz.zeroValue97 Z (fun b27=>(Ad (cs':=wA5 x20 A24 c25) Z .u Z Z C3 Z Z Z Z (zZ (T.seq (zY Z (z4 Z (Ag (us:=wL6 x20 A24 c25) 0 Z Di C3 Z Z Z) Z ?_)))))))
  obtain⟨x28,hx29,h⟩:=CL h
  refine An Z .u (.fn Tryz.call81 Z) (fS x20 _ _ _ hx29) (fun _ hs=>(AC hs hX26)) Z (Ai ae Z Z (zX ae 2 Z ?_))
  rcases jF h with⟨c30,h⟩ | ⟨c30,h⟩
  ·refine Au Z c30 (Ar (T.block (zY Z (z6 ae aG 0 Z 3 Z Z ?_))))
   rcases jF h with⟨c31,h⟩ | ⟨c31,h⟩
   ·refine zZ (Ae Z c31 (zY Z (zX ae 1 Z ?_)))
    obtain rfl:=CN h
    obtain rfl:=CN hO18
    exact zZ (T.ret (Am (Am (z7 (z7 (Am (z7 (Af [2] Ev (z5 Z)))))))))
   replace c31:=CU c31
   refine zZ (Ay Z c31 (zY Z (z6 ae aG 0 Z 4 Z Z (z6 ae aG 1 Z 1 Z Z (z4 Z (Ex.bEq Z Z Z Z Dm) Z (zX ae 1 Z ?_))))))
   rcases jF h with⟨c32,h⟩ | ⟨c32,h⟩
   ·refine zZ (Ae Z c32 (zY Z (zX ae 1 Z ?_)))
    obtain rfl:=CN h
    obtain rfl:=CN hO18
    exact zZ (T.ret (Am (Am (z7 (z7 (Am (z7 (Af [2] Ev (z5 Z)))))))))
   replace c32:=CU c32
   exact zZ (Ay Z c32 (T.skip (Ap (Ap (X.seq (T.region Z (z4 Z (Ex.add Z Z (by omega)) Z (zX ae 1 Z (TL.nil (X.back (m':=m19) [1,1] (by omega) ⟨y14,k15+1,by omega,Z,Z,h⟩ (by rfl) (by rfl)))))))))))
  refine At Z c30 (zY Z (zX ae 2 Z ?_))
  obtain rfl:=CN h
  obtain rfl:=CN hO18
  exact zZ (T.ret (z7 (Am (z7 (z7 (Am (z7 (Af [2] Ev (z5 Z)))))))))
def bp (a0:ao) (a1:Int):List aW→Int→Option (Lp Int Int)
 | [],y51=>some (Lp.go y51)
 | x57::xs,y51=>(cI a0 x57.Cf a1).bind fun x65=>if x65=0 then (bp a0 a1 xs y51) else some (Lp.ret x65)
def bq (a0:ao) (a1:Int):List aB→Int→Option (Lp Int Int)
 | [],y37=>some (Lp.go y37)
 | x43::xs,y37=>(bp a0 a1 x43.B7 y37).bind fun e=>match e with | .ret r=>some (Lp.ret r) | .go y68=>(bq a0 a1 xs y68)
def bz (a0:ao) (a1:Int):Option (Int):=((kv a0.Cc).bind fun x12=>if x12=true then (if a0.Cc.null=true then some false else ((iZ a0.Cc.data).bind fun x16=>if x16=true then some false else some true)) else some true).bind fun y10=>if y10=true then some 4 else ((if a0.CG<(-1) then some true else (if a0.CG>1 then some true else (if a0.B8<0 then some true else ((fF a0.B8 4).bind fun x30=>if x30=true then some false else some true)))).bind fun y25=>if y25=true then some 11 else ((fu a0.BZ).bind fun x34=>if x34=0 then ((bq a0 a1 a0.BZ 0).bind fun e=>match e with | .ret r=>some r | .go y70=>some 0) else some x34))
theorem ff (a0:ao) (A1:Option Addr) (c2:Nat) (a1:Int) (r:Int) (h:bz a0 a1=some r):au Tryz.prog 156 #[.agg (qe a0 A1 c2),jI a1] (RX.of (an 2 aw) [.slice A1 a0.BZ.length c2] a0.BZ) (aI) (fun v A' N=>v=jI r∧A'=aI∧N = []):=by
 refine aL Tryz.func156 Z Tryz.ntmps156 Z ?_
 intro F w hX
 unfold bz at h
 refine zY Z (TL.box Z .u Z Z (fun b3=>(z8 ae Z (T.seq (T.block (T.seq ?_))))))
 obtain⟨y10,h,hk11⟩:=CL h
 refine AK (fun e Rs=>e = [(1,jI a1),(2,jP b3),(4,jI 0),(11,.bool y10)]∧Rs = [ay b3 36 (qe a0 A1 c2),aI]) ?_ ?_
 ·clear hk11
  refine T.region Z (zX ae 1 Z (z4 Z (Ag (us := [.bool a0.Cc.null,jS a0.Cc.data]) 0 Z DG C8 Z Z Z) Z ?_))
  obtain⟨x12,hx13,h⟩:=CL h
  refine An Z .u (.fn Tryz.call148 Z) (iY a0.Cc _ hx13) rT Z ?_
  rcases jF h with⟨c14,h⟩ | ⟨c14,h⟩
  ·refine zX ae 2 Z (z9 16 Z (cv c14) ?_)
   rcases jF h with⟨c15,h⟩ | ⟨c15,h⟩
   ·refine z6 ae aG 0 Z 5 Z Z (z9 21 Z (cv c15) (Ac ae 8 Z ?_))
    cases h
    exact TL.nil (Ah [0,0])
   replace c15:=CU c15
   refine z6 ae aG 0 Z 5 Z Z (z9 21 Z (cE c15) ?_)
   obtain⟨x16,hx17,h⟩:=CL h
   refine z6 ae aG 0 Z 3 Z Z (An Z (.g Z Z Z) (.fn Tryz.call87 Z) (AJ (fun w=>iu a0.Cc.data _ hx17 w)) (fun _ _=>RX.reads_triv _ _) Z (Ac ae 4 Z ?_))
   rcases jF h with⟨c18,h⟩ | ⟨c18,h⟩
   ·cases h
    exact TL.nil (AS (d:=11) (v':= .bool false) Z (congrArg Value.bool (cv c18)) (Ah [0,0]))
   replace c18:=CU c18
   cases h
   exact TL.nil (AS (d:=11) (v':= .bool true) Z (congrArg Value.bool (cE c18)) (Ah [0,0]))
  replace c14:=CU c14
  refine zX ae 2 Z (z9 16 Z (cE c14) (Ac ae 13 Z ?_))
  cases h
  exact TL.nil (Ah [0,0])
 rintro _ _ ⟨rfl,rfl⟩
 clear h
 have h:=hk11
 clear hk11
 try dsimp only at h
 rcases jF h with⟨c19,h⟩ | ⟨c19,h⟩
 ·refine X.seq (Ae Z c19 (zY Z (zX ae 1 Z ?_)))
  obtain rfl:=CN h
  exact zZ (T.ret (Am (z7 (Af [1] Ew (z5 Z)))))
 replace c19:=CU c19
 refine X.seq (Ay Z c19 (T.seq ?_))
 obtain⟨y25,h,hk26⟩:=CL h
 refine AK (fun e Rs=>e = [(1,jI a1),(2,jP b3),(4,jI 0),(29,.bool y25)]∧Rs = [ay b3 36 (qe a0 A1 c2),aI]) ?_ ?_
 ·clear hk26
  refine T.region Z ?_
  rcases jF h with⟨c27,h⟩ | ⟨c27,h⟩
  ·refine z6 ae aG 0 Z 4 Z Z (z9 33 Z (CP c27) (Ac ae 16 Z ?_))
   cases h
   exact TL.nil (Ah [0,0])
  refine z6 ae aG 0 Z 4 Z Z (z9 33 Z (CS c27) ?_)
  rcases jF h with⟨c28,h⟩ | ⟨c28,h⟩
  ·refine z6 ae aG 0 Z 5 Z Z (z9 38 Z (CP c28) (Ac ae 11 Z ?_))
   cases h
   exact TL.nil (Ah [0,0])
  refine z6 ae aG 0 Z 5 Z Z (z9 38 Z (CS c28) ?_)
  rcases jF h with⟨c29,h⟩ | ⟨c29,h⟩
  ·refine z6 ae aG 0 Z 5 Z Z (z9 43 Z (CP c29) (Ac ae 6 Z ?_))
   cases h
   exact TL.nil (Ah [0,0])
  refine z6 ae aG 0 Z 5 Z Z (z9 43 Z (CS c29) ?_)
  obtain⟨x30,hx31,h⟩:=CL h
  refine z6 ae aG 0 Z 2 Z Z (An Z (.g Z Z Z) (.fn Tryz.call101 Z) (AJ (fun w=>cw a0.B8 4 _ hx31 w)) (fun _ _=>RX.reads_triv _ _) Z (Ac ae 3 Z ?_))
  rcases jF h with⟨c32,h⟩ | ⟨c32,h⟩
  ·cases h
   exact TL.nil (AS (d:=29) (v':= .bool false) Z (congrArg Value.bool (cv c32)) (Ah [0,0]))
  replace c32:=CU c32
  cases h
  exact TL.nil (AS (d:=29) (v':= .bool true) Z (congrArg Value.bool (cE c32)) (Ah [0,0]))
 rintro _ _ ⟨rfl,rfl⟩
 clear h
 have h:=hk26
 clear hk26
 try dsimp only at h
 rcases jF h with⟨c33,h⟩ | ⟨c33,h⟩
 ·refine X.seq (Ae Z c33 (zY Z (zX ae 1 Z ?_)))
  obtain rfl:=CN h
  exact zZ (T.ret (Am (z7 (Af [1] Ew (z5 Z)))))
 replace c33:=CU c33
 refine X.seq (Ay Z c33 (T.skip (Ap (X.seq (T.seq (zY Z ?_))))))
 obtain⟨x34,hx35,h⟩:=CL h
 refine z6 ae aG 0 Z 2 Z Z (An Z .u (.fn Tryz.call194 Z) (lA a0.BZ _ _ _ hx35) (fun _ hs=>(AC hs hX)) Z (Ai ae Z Z (zX ae 2 Z ?_)))
 rcases jF h with⟨c36,h⟩ | ⟨c36,h⟩
 ·refine Au Z c36 (Ar (T.seq (zY Z (z6 ae aG 0 Z 2 Z Z (z4 Z (AB Z Du) Z (z8 ae Z (T.block ?_)))))))
  obtain⟨E39,hE40,hO41⟩:=CL h
  have hk45len:=AL hX
  refine AX (fun m e Rs=> ∃ (y37:Int) (k38:Nat),k38+m=a0.BZ.length∧e = [(1,jI a1),(2,jP b3),(4,jI y37),(56,.slice A1 a0.BZ.length c2),(57,jI (a0.BZ.length:Int)),(58,jI (k38:Int))]∧Rs = [ay b3 36 (qe a0 A1 c2),aI]∧bq a0 a1 (a0.BZ.drop k38) y37=some E39) (a0.BZ.length) [0,0] ⟨0,0,by simp,Z,Z,by rw[List.drop_zero]; exact hE40⟩ (by rfl) (by rfl) ?_
  clear hE40 h
  rintro m42 _ _ ⟨y37,k38,hk45,rfl,rfl,h⟩
  cases m42 with
  | zero =>
   rw[List.drop_of_length_le (by omega),bq] at h
   have hk45ge: ¬ ((k38:Int)<(a0.BZ.length:Int)):=by omega
   refine zY Z (z8 ae Z (T.seq (Ay Z (CS hk45ge) ?_)))
   obtain rfl:=CN h
   replace h:=hO41
   clear hO41
   try dsimp only at h
   refine T.exit (As (As (AW (X.seq (zY Z (zX ae 1 Z ?_))))))
   obtain rfl:=CN h
   exact zZ (T.ret (Af [1] Ew (z5 Z)))
  | succ m42 =>
   obtain⟨x43,hxx43⟩: ∃ x,a0.BZ[k38]? = some x:=⟨_,List.getElem?_eq_getElem (by omega)⟩
   rw[bF hxx43,bq] at h
   have hk45lt:(k38:Int)<(a0.BZ.length:Int):=by omega
   refine zY Z (z8 ae Z (T.seq (Ae Z (CP hk45lt) ?_)))
   obtain⟨gz46,oz46,rfl,z46cs,z46cl,z46cc,z46nf,z46r⟩:=AM (by decide) hX hxx43
   obtain⟨z46S,z46r,z46rr⟩:=z46r
   obtain⟨A47,c48,rfl,z46s0⟩:=z46r
   have hX49:(RX.of (an 2 bG) [.slice A47 x43.B7.length c48] x43.B7).reads w F:=⟨z46S,z46s0,z46rr⟩
   refine Ar (T.seq (T.block (zY Z ?_)))
   refine z4 Z (AN (k:=k38) Z Z Z Du Dy (CZ hxx43).1) Z ?_
   refine z4 Z (Bj (us := [jS x43.Ck,.slice A47 x43.B7.length c48]) 0 Z Tryz.isAgg176 Dy z46nf z46cc Z Z Z) Z (TL.alloc Z .u Tryz.zeroValue176 Z (fun b50=>(Ad (cs':= #[jS x43.Ck,.slice A47 x43.B7.length c48]) Z .u Z Z Dy Z Z Z Z (Ab Z (z6 ae aG 0 Z 2 Z Z (z4 Z (AB Z Dq) Z (z8 ae Z (T.block ?_))))))))
   obtain⟨E53,hE54,hO55⟩:=CL h
   have hk59len:=AL hX49
   refine AX (fun m e Rs=> ∃ (y51:Int) (k52:Nat),k52+m=x43.B7.length∧e = [(1,jI a1),(2,jP b3),(4,jI y51),(56,.slice (some ⟨gz46,oz46,none⟩) a0.BZ.length c2),(57,jI (a0.BZ.length:Int)),(58,jI (k38:Int)),(63,.slice A47 x43.B7.length c48),(64,jI (x43.B7.length:Int)),(65,jI (k52:Int))]∧Rs = [ay b50 176 #[jS x43.Ck,.slice A47 x43.B7.length c48],ay b3 36 #[.bool a0.Cc.null,jS a0.Cc.data,jI a0.CG,jI a0.B8,.slice (some ⟨gz46,oz46,none⟩) a0.BZ.length c2],aI]∧bp a0 a1 (x43.B7.drop k52) y51=some E53) (x43.B7.length) [0,0,0] ⟨y37,0,by simp,Z,Z,by rw[List.drop_zero]; exact hE54⟩ (by rfl) (by rfl) ?_
   clear hE54 h
   rintro m56 _ _ ⟨y51,k52,hk59,rfl,rfl,h⟩
   cases m56 with
   | zero =>
    rw[List.drop_of_length_le (by omega),bp] at h
    have hk59ge: ¬ ((k52:Int)<(x43.B7.length:Int)):=by omega
    refine zY Z (z8 ae Z (T.seq (Ay Z (CS hk59ge) ?_)))
    obtain rfl:=CN h
    replace h:=hO55
    clear hO55
    try dsimp only at h
    exact T.exit (As (As (AW (Ap (X.seq (T.region Z (z4 Z (Ex.add Z Z (by omega)) Z (zX ae 1 Z (TL.nil (X.back (m':=m42) [1,1] (by omega) ⟨y51,k38+1,by omega,Z,Z,h⟩ (by rfl) (by rfl)))))))))))
   | succ m56 =>
    obtain⟨x57,hxx57⟩: ∃ x,x43.B7[k52]? = some x:=⟨_,List.getElem?_eq_getElem (by omega)⟩
    rw[bF hxx57,bp] at h
    have hk59lt:(k52:Int)<(x43.B7.length:Int):=by omega
    refine zY Z (z8 ae Z (T.seq (Ae Z (CP hk59lt) ?_)))
    obtain⟨gz60,oz60,rfl,z60cs,z60cl,z60cc,z60nf,z60r⟩:=AM (by decide) hX49 hxx57
    obtain⟨z60S,z60r,z60rr⟩:=z60r
    obtain⟨A61,c62,rfl,z60s0⟩:=z60r
    have hX63:(RX.of (an 12 fb) [.slice A61 x57.Cf.length c62] x57.Cf).reads w F:=⟨z60S,z60s0,z60rr⟩
    refine Ar (T.seq (T.block (zY Z ?_)))
    refine z4 Z (AN (k:=k52) Z Z Z Dq Dr (CZ hxx57).1) Z ?_
    refine z4 Z (Bj (us := [jI x57.Cs,.slice A61 x57.Cf.length c62]) 0 Z EG Dr z60nf z60cc Z Z Z) Z (TL.alloc Z .u Tryz.zeroValue179 Z (fun b64=>(Ad (cs':= #[jI x57.Cs,.slice A61 x57.Cf.length c62]) Z .u Z Z Dr Z Z Z Z (Ab Z (z4 Z (Ag (us := [.bool a0.Cc.null,jS a0.Cc.data,jI a0.CG,jI a0.B8,.slice (some ⟨gz46,oz46,none⟩) a0.BZ.length c2]) 2 Z D6 Ds Z Z Z) Z ?_)))))
    obtain⟨x65,hx66,h⟩:=CL h
    refine z6 ae aG 0 Z 3 Z Z (An Z .u (.fn Tryz.call195 Z) (hM a0 _ _ x57.Cf _ _ a1 _ hx66) (fun _ hs=>(Bw (AC hs hX) (AC hs hX63))) Z (Ai ae Z Z (zX ae 2 Z ?_)))
    rcases jF h with⟨c67,h⟩ | ⟨c67,h⟩
    ·exact Au Z c67 (T.skip (Ap (X.seq (T.region Z (z4 Z (Ex.add Z Z (by omega)) Z (zX ae 1 Z (TL.nil (X.back (m':=m56) [1,1,1] (by omega) ⟨y51,k52+1,by omega,Z,Z,h⟩ (by rfl) (by rfl)))))))))
    refine At Z c67 (zY Z (zX ae 2 Z ?_))
    obtain rfl:=CN h
    obtain rfl:=CN hO55
    obtain rfl:=CN hO41
    exact zZ (T.ret (Am (z7 (z7 (Am (Am (z7 (z7 (Am (z7 (Af [3] Ew (z5 Z))))))))))))
 refine At Z c36 (zY Z (zX ae 2 Z ?_))
 obtain rfl:=CN h
 exact zZ (T.ret (z7 (Af [1] Ew (z5 Z))))
def ba:List aW→(List UInt8×Int)→Option (List UInt8×Int)
 | [],st78=>some st78
 | x83::xs,st78=>(hC x83.Cf).bind fun (x91,x92)=>(if x92=0 then some st78 else ((gE st78 x92).bind fun st100=>some st100)).bind fun st97=>(bY st97 x83.Cs 4).bind fun st102=>(gOf x91).bind fun x104=>(fU st102 x104 4).bind fun st106=>ba xs st106
def bb:List aB→(List UInt8×Int)→Option (List UInt8×Int)
 | [],st16=>some st16
 | x21::xs,st16=>((f7 st16 x21.Ck).bind fun st73=>(bY st73 (x21.B7.length:Int) 4).bind fun st75=>(ba x21.B7 st75).bind fun st109=>some st109).bind fun st66=>bb xs st66
def cW (st:List UInt8×Int) (a0:ao) (a2:Int):Option (List UInt8×Int):=(bz a0 a2).bind fun x4=>if x4=0 then ((fU st a0.Cc 2).bind fun st7=>(bY st7 a0.CG 2).bind fun st9=>(bY st9 a0.B8 4).bind fun st11=>(bY st11 (a0.BZ.length:Int) 4).bind fun st13=>(bb a0.BZ st13).bind fun st111=>some st111) else ((gE st x4).bind fun st112=>some st112)
theorem iw (g:Nat) (st:List UInt8×Int) (a0:ao) (A1:Option Addr) (c2:Nat) (a2:Int) (r:List UInt8×Int) (h:cW st a0 a2=some r):au Tryz.prog 100 #[.agg (qe a0 A1 c2),jP g,jI a2] (RX.of (an 2 aw) [.slice A1 a0.BZ.length c2] a0.BZ) (aP g st) (fun v A' N=>v= .tuple #[]∧A'=aP g r∧N = []):=by
 refine aL Tryz.func100 Z Tryz.ntmps100 Z ?_
 intro F w hX
 unfold cW at h
 refine zY Z (TL.box Z .u Z Z (fun b3=>(zZ (T.seq (zY Z (z4 Z (Ag (us:=wL19 a0 A1 c2) 0 Z D6 Ds Z Z Z) Z ?_))))))
 obtain⟨x4,hx5,h⟩:=CL h
 refine zX ae 1 Z (An Z .u (.fn Tryz.call156 Z) (ff a0 _ _ a2 _ hx5) (fun _ hs=>(AC hs hX)) Z (Ai ae Z Z (zX ae 2 Z ?_)))
 rcases jF h with⟨c6,h⟩ | ⟨c6,h⟩
 ·refine Au Z c6 (Az Z (zX ae 2 Z (z4 Z (Ag (us := [.bool a0.Cc.null,jS a0.Cc.data]) 0 Z DG C8 Z Z Z) Z ?_)))
  obtain⟨st7,hx8,h⟩:=CL h
  refine Al Z .u (.fn Tryz.call95 Z) (f6 g st a0.Cc 2 _ hx8) sT Z (Ab Z ?_)
  obtain⟨st9,hx10,h⟩:=CL h
  refine z6 ae aG 0 Z 3 Z Z (Al Z .u (.fn Tryz.call51 Z) (aF g st7 a0.CG 2 _ hx10) sT Z (Ab Z ?_))
  obtain⟨st11,hx12,h⟩:=CL h
  refine z6 ae aG 0 Z 3 Z Z (Al Z .u (.fn Tryz.call51 Z) (aF g st9 a0.B8 4 _ hx12) sT Z (Ab Z (z6 ae aG 0 Z 3 Z Z (z4 Z (AB Z Du) Z ?_))))
  obtain⟨st13,hx14,h⟩:=CL h
  refine Al Z .u (.fn Tryz.call51 Z) (aF g st11 (a0.BZ.length:Int) 4 _ hx14) sT Z (Ab Z (z6 ae aG 0 Z 2 Z Z (z4 Z (AB Z Du) Z (z8 ae Z (T.block ?_)))))
  obtain⟨E17,hE18,hO19⟩:=CL h
  have hk23len:=AL hX
  refine AX (fun m e Rs=> ∃ (k15:Nat) (st16:List UInt8×Int),k15+m=a0.BZ.length∧e = [(1,jP g),(39,.slice A1 a0.BZ.length c2),(40,jI (a0.BZ.length:Int)),(41,jI (k15:Int))]∧Rs = [ay b3 36 (qe a0 A1 c2),aP g st16]∧bb (a0.BZ.drop k15) st16=some E17) (a0.BZ.length) [0,0] ⟨0,st13,by simp,Z,Z,by rw[List.drop_zero]; exact hE18⟩ (by rfl) (by rfl) ?_
  clear hE18 h
  rintro m20 _ _ ⟨k15,st16,hk23,rfl,rfl,h⟩
  cases m20 with
  | zero =>
   rw[List.drop_of_length_le (by omega),bb] at h
   have hk23ge: ¬ ((k15:Int)<(a0.BZ.length:Int)):=by omega
   refine zY Z (z8 ae Z (T.seq (Ay Z (CS hk23ge) ?_)))
   obtain rfl:=CN h
   obtain rfl:=CN hO19
   exact T.exit (As (As (AW (AR [1] Tryz.results100 ⟨Z,Z,Z⟩ (by rfl) (.inr Z)))))
  | succ m20 =>
   obtain⟨x21,hxx21⟩: ∃ x,a0.BZ[k15]? = some x:=⟨_,List.getElem?_eq_getElem (by omega)⟩
   rw[bF hxx21,bb] at h
   have hk23lt:(k15:Int)<(a0.BZ.length:Int):=by omega
   refine zY Z (z8 ae Z (T.seq (Ae Z (CP hk23lt) (Ar (T.seq ?_)))))
   obtain⟨st66,h,hk67⟩:=CL h
   refine AK (fun e Rs=>e = [(1,jP g),(39,.slice A1 a0.BZ.length c2),(40,jI (a0.BZ.length:Int)),(41,jI (k15:Int))]∧Rs = [ay b3 36 (qe a0 A1 c2),aP g st66]) ?_ ?_
   ·clear hk67
    obtain⟨gz68,oz68,rfl,z68cs,z68cl,z68cc,z68nf,z68r⟩:=AM (by decide) hX hxx21
    obtain⟨z68S,z68r,z68rr⟩:=z68r
    obtain⟨A69,c70,rfl,z68s0⟩:=z68r
    have hX71:(RX.of (an 2 bG) [.slice A69 x21.B7.length c70] x21.B7).reads w F:=⟨z68S,z68s0,z68rr⟩
    refine T.block (zY Z ?_)
    refine z4 Z (AN (k:=k15) Z Z Z Du Dy (CZ hxx21).1) Z ?_
    refine z4 Z (Bj (us := [jS x21.Ck,.slice A69 x21.B7.length c70]) 0 Z Tryz.isAgg176 Dy z68nf z68cc Z Z Z) Z (TL.alloc Z .u Tryz.zeroValue176 Z (fun b72=>(Ad (cs':= #[jS x21.Ck,.slice A69 x21.B7.length c70]) Z .u Z Z Dy Z Z Z Z (Ab Z ?_))))
    obtain⟨st73,hx74,h⟩:=CL h
    refine z6 ae aG 0 Z 3 Z Z (AH Z .u (.fn Tryz.call88 Z) (gS g st16 x21.Ck _ hx74) sT Z (Ab Z (z6 ae aG 0 Z 3 Z Z (z4 Z (AB Z Dq) Z ?_))))
    obtain⟨st75,hx76,h⟩:=CL h
    refine AH Z .u (.fn Tryz.call51 Z) (aF g st73 (x21.B7.length:Int) 4 _ hx76) sT Z (Ab Z (z6 ae aG 0 Z 2 Z Z (z4 Z (AB Z Dq) Z (z8 ae Z (T.block ?_)))))
    obtain⟨E79,hE80,hO81⟩:=CL h
    have hk85len:=AL hX71
    refine AX (fun m e Rs=> ∃ (k77:Nat) (st78:List UInt8×Int),k77+m=x21.B7.length∧e = [(1,jP g),(39,.slice (some ⟨gz68,oz68,none⟩) a0.BZ.length c2),(40,jI (a0.BZ.length:Int)),(41,jI (k15:Int)),(55,.slice A69 x21.B7.length c70),(56,jI (x21.B7.length:Int)),(57,jI (k77:Int))]∧Rs = [ay b72 176 #[jS x21.Ck,.slice A69 x21.B7.length c70],ay b3 36 #[.bool a0.Cc.null,jS a0.Cc.data,jI a0.CG,jI a0.B8,.slice (some ⟨gz68,oz68,none⟩) a0.BZ.length c2],aP g st78]∧ba (x21.B7.drop k77) st78=some E79) (x21.B7.length) [0,0,0] ⟨0,st75,by simp,Z,Z,by rw[List.drop_zero]; exact hE80⟩ (by rfl) (by rfl) ?_
    clear hE80 h
    rintro m82 _ _ ⟨k77,st78,hk85,rfl,rfl,h⟩
    cases m82 with
    | zero =>
     rw[List.drop_of_length_le (by omega),ba] at h
     have hk85ge: ¬ ((k77:Int)<(x21.B7.length:Int)):=by omega
     refine zY Z (z8 ae Z (T.seq (Ay Z (CS hk85ge) ?_)))
     obtain rfl:=CN h
     replace h:=hO81
     clear hO81
     try dsimp only at h
     cases h
     exact T.exit (As (As (AW (Ap (Ah [1,1])))))
    | succ m82 =>
     obtain⟨x83,hxx83⟩: ∃ x,x21.B7[k77]? = some x:=⟨_,List.getElem?_eq_getElem (by omega)⟩
     rw[bF hxx83,ba] at h
     have hk85lt:(k77:Int)<(x21.B7.length:Int):=by omega
     refine zY Z (z8 ae Z (T.seq (Ae Z (CP hk85lt) ?_)))
     obtain⟨gz86,oz86,rfl,z86cs,z86cl,z86cc,z86nf,z86r⟩:=AM (by decide) hX71 hxx83
     obtain⟨z86S,z86r,z86rr⟩:=z86r
     obtain⟨A87,c88,rfl,z86s0⟩:=z86r
     have hX89:(RX.of (an 12 fb) [.slice A87 x83.Cf.length c88] x83.Cf).reads w F:=⟨z86S,z86s0,z86rr⟩
     refine Ar (T.seq (T.block (zY Z ?_)))
     refine z4 Z (AN (k:=k77) Z Z Z Dq Dr (CZ hxx83).1) Z ?_
     refine z4 Z (Bj (us := [jI x83.Cs,.slice A87 x83.Cf.length c88]) 0 Z EG Dr z86nf z86cc Z Z Z) Z (TL.alloc Z .u Tryz.zeroValue179 Z (fun b90=>(Ad (cs':= #[jI x83.Cs,.slice A87 x83.Cf.length c88]) Z .u Z Z Dr Z Z Z Z (Ab Z ?_))))
     obtain⟨⟨x91,x92⟩,hx93,h⟩:=CL h
     try dsimp only at h
     refine z6 ae aG 0 Z 2 Z Z (An Z .u (.fn Tryz.call157 Z) (nC x83.Cf _ _ _ hx93) (fun _ hs=>(AC hs hX89)) Z (z8 ae Z (T.seq (zY Z (z8 ae Z ?_)))))
     obtain⟨st97,h,hk98⟩:=CL h
     refine AK (fun e Rs=>e = [(1,jP g),(10,jP b90),(11,jS x91),(39,.slice (some ⟨gz68,oz68,none⟩) a0.BZ.length c2),(40,jI (a0.BZ.length:Int)),(41,jI (k15:Int)),(55,.slice (some ⟨gz86,oz86,none⟩) x21.B7.length c70),(56,jI (x21.B7.length:Int)),(57,jI (k77:Int))]∧Rs = [ay b90 179 #[jI x83.Cs,.slice A87 x83.Cf.length c88],ay b72 176 #[jS x21.Ck,.slice (some ⟨gz86,oz86,none⟩) x21.B7.length c70],ay b3 36 #[.bool a0.Cc.null,jS a0.Cc.data,jI a0.CG,jI a0.B8,.slice (some ⟨gz68,oz68,none⟩) a0.BZ.length c2],aP g st97]) ?_ ?_
     ·clear hk98
      rcases jF h with⟨c99,h⟩ | ⟨c99,h⟩
      ·refine T.nn Z c99 ?_
       cases h
       exact T.skip (Ah [0,0,0,0])
      refine T.yn Z c99 (T.region Z ?_)
      obtain⟨st100,hx101,h⟩:=CL h
      refine zX ae 2 Z (Bq Z .u (.fn Tryz.call94 Z) (eC g st78 x92 _ hx101) sT Z ?_)
      cases h
      exact TL.nil (Ah [0,0,0,0])
     rintro _ _ ⟨rfl,rfl⟩
     clear h
     have h:=hk98
     clear hk98
     try dsimp only at h
     refine X.seq (zY Z ?_)
     obtain⟨st102,hx103,h⟩:=CL h
     refine z6 ae aG 0 Z 3 Z Z (Bq Z .u (.fn Tryz.call51 Z) (aF g st97 x83.Cs 4 _ hx103) sT Z (zZ (T.region Z ?_)))
     obtain⟨x104,hx105,h⟩:=CL h
     refine zX ae 2 Z (An Z .u (.fn Tryz.call143 Z) (xa x91 _ hx105) rT Z ?_)
     obtain⟨st106,hx107,h⟩:=CL h
     exact Bq Z .u (.fn Tryz.call95 Z) (f6 g st102 x104 4 _ hx107) sT Z (TL.nil (Ap (X.seq (T.region Z (z4 Z (Ex.add Z Z (by omega)) Z (zX ae 1 Z (TL.nil (X.back (m':=m82) [1,1,1] (by omega) ⟨k77+1,st106,by omega,Z,Z,h⟩ (by rfl) (by rfl)))))))))
   rintro _ _ ⟨rfl,rfl⟩
   clear h
   have h:=hk67
   clear hk67
   try dsimp only at h
   exact X.seq (T.region Z (z4 Z (Ex.add Z Z (by omega)) Z (zX ae 1 Z (TL.nil (X.back (m':=m20) [0,0] (by omega) ⟨k15+1,st66,by omega,Z,Z,h⟩ (by rfl) (by rfl))))))
 refine At Z c6 (zY Z ?_)
 obtain⟨st112,hx113,h⟩:=CL h
 refine zX ae 2 Z (Al Z .u (.fn Tryz.call94 Z) (eC g st x4 _ hx113) sT Z ?_)
 obtain rfl:=CN h
 exact zZ (T.ret (z7 (AR [1] Tryz.results100 ⟨Z,Z,Z⟩ (by rfl) (.inl Z))))
def bA:Nat→List Bat→I→I→Option (List Bat×I×I)
 | 0,_,_,_=>none
 | m29+1,y21,st24,st25=>((fa st25).bind fun (x44,st45)=>if x44=0 then ((oK st24).bind fun (x48,st49)=>if x48>0 then some (true,st49,st45) else some (false,st49,st45)) else some (false,st24,st45)).bind fun (y40,st41,st42)=>if y40=true then ((eK st41).bind fun (x53,st56)=>if (y21.length+1)*96≤140737488355328 then ((fa st56).bind fun (x62,st63)=>(if x62=0 then some st42 else ((bg st42 x62).bind fun st71=>some st71)).bind fun st68=>bA m29 (y21 ++ [x53]) st63 st68) else none) else some (y21,st41,st42)
def eu (st:I)  : Option (aW×I):=(bW st 4).bind fun (x2,st3)=>(gG st3 4).bind fun (x6,st7)=>(if x6.null=true then ((bg st7 4).bind fun st16=>some st16) else some st7).bind fun st13=>(mw x6.data).bind fun st18=>(bA (((st18.rest.length:Int)+(st13.rest.length:Int)+1).toNat+1) [] st18 st13).bind fun (y73,st76,st77)=>some ((⟨x2,y73⟩:aW),st77)
theorem ip (g:Nat) (st:I)  (r:aW×I) (h:eu st  = some r):au Tryz.prog 173 #[jP g] .triv (InR g st) (fun v A' N=> ∃ (A78:Option Addr) (c79:Nat),v= .agg #[jI r.1.Cs,.slice A78 r.1.Cf.length c79]∧A'=InR g r.2∧N = [RdR (an 12 fb) [.slice A78 r.1.Cf.length c79] r.1.Cf]):=by
 refine aL Tryz.func173 Z Tryz.ntmps173 Z ?_
 intro F w hX
 unfold eu at h
 refine zY Z (TL.alloc Z .u Tryz.zeroValue179 Z (fun b1=>(Ab Z ?_)))
 obtain⟨⟨x2,st3⟩,hx4,h⟩:=CL h
 try dsimp only at h
 refine zX ae 1 Z (Al Z .u (.fn Tryz.call68 Z) (aE g st 4 _ hx4) sT Z ?_)
 refine z4 Z (Ao (cells:= #[jI x2,.slice none 0 0]) om Z (by kernel_rfl)) Z ?_
 refine TL.alloc Z .u Tryz.zeroValue179 Z (fun b5=>(Ad (cs':= #[jI x2,.slice none 0 0]) Z .u Z Z Dr Z Z Z Z (Ab Z ?_)))
 obtain⟨⟨x6,st7⟩,hx8,h⟩:=CL h
 try dsimp only at h
 refine zX ae 1 Z (AH Z .u (.fn Tryz.call142 Z) (fV g st3 4 _ hx8) sT Z (TL.alloc Z .u Tryz.zeroValue23 Z (fun b9=>(Ad (cs':= #[.bool x6.null,jS x6.data]) Z .u Z Z C8 Z Z Z Z (zZ (T.seq (zY Z (BA ae aG 0 Z Z Z ?_))))))))
 obtain⟨st13,h,hk14⟩:=CL h
 refine AK (fun e Rs=>e = [(0,jP g),(2,jP b1),(3,jP b5),(4,jP b9)]∧Rs = [ay b9 23 #[.bool x6.null,jS x6.data],ay b5 179 #[jI x2,.slice none 0 0],ay b1 179 #[jI 0,.slice none 0 0],InR g st13]) ?_ ?_
 ·clear hk14
  rcases jF h with⟨c15,h⟩ | ⟨c15,h⟩
  ·refine Ae Z c15 (T.region Z ?_)
   obtain⟨st16,hx17,h⟩:=CL h
   refine zX ae 1 Z (Bq Z .u (.fn Tryz.call70 Z) (aU g st7 4 _ hx17) sT Z ?_)
   cases h
   exact TL.nil (Ah [0,0,0,0])
  replace c15:=CU c15
  refine Ay Z c15 ?_
  cases h
  exact T.skip (Ah [0,0,0,0])
 rintro _ _ ⟨rfl,rfl⟩
 clear h
 have h:=hk14
 clear hk14
 try dsimp only at h
 refine X.seq (zY Z ?_)
 obtain⟨st18,hx19,h⟩:=CL h
 refine z6 ae aG 0 Z 2 Z Z (AY Z .u (.fn Tryz.call19 Z) (eY x6.data _ hx19) rT Z ?_)
 rintro _ _ _ ⟨b20,rfl,rfl,rfl⟩
 refine AD [0,0,0,0,0] Z (z8 ae Z (T.seq (T.block (Bu 97 12 fb ?_))))
 obtain⟨E26,hE27,hO28⟩:=CL h
 refine AX (fun m e Rs=> ∃ (y21:List Bat) (A22:Option Addr) (c23:Nat) (st24:I) (st25:I),e = [(0,jP g),(2,jP b1),(3,jP b5),(5,jP b20)]∧Rs = [cD 97 12 fb (.slice A22 y21.length c23) y21,InR b20 st24,ay b9 23 #[.bool x6.null,jS x6.data],ay b5 179 #[jI x2,.slice A22 y21.length c23],ay b1 179 #[jI 0,.slice none 0 0],InR g st25]∧bA m y21 st24 st25=some E26) (((st18.rest.length:Int)+(st13.rest.length:Int)+1).toNat+1) [0,0,0,0,0,0] ⟨[],none,0,st18,st13,Z,Z,by exact hE27⟩ (by rfl) (by rfl) ?_
 clear hE27 h
 rintro m29 _ _ ⟨y21,A22,c23,st24,st25,rfl,rfl,h⟩
 cases m29 with
 | zero =>
  rw[bA] at h
  cases h
 | succ m29 =>
  rw[bA] at h
  refine T.ss ?_
  obtain⟨⟨y40,st41,st42⟩,h,hk43⟩:=CL h
  refine AK (fun e Rs=>e = [(0,jP g),(2,jP b1),(3,jP b5),(5,jP b20),(26,.bool y40)]∧Rs = [cD 97 12 fb (.slice A22 y21.length c23) y21,InR b20 st41,ay b9 23 #[.bool x6.null,jS x6.data],ay b5 179 #[jI x2,.slice A22 y21.length c23],ay b1 179 #[jI 0,.slice none 0 0],InR g st42]) ?_ ?_
  ·clear hk43
   refine T.region Z ?_
   obtain⟨⟨x44,st45⟩,hx46,h⟩:=CL h
   try dsimp only at h
   refine zX ae 1 Z (BJ Z .u (.fn Tryz.call23 Z) (bu g st25 _ hx46) sT Z ?_)
   rcases jF h with⟨c47,h⟩ | ⟨c47,h⟩
   ·refine zX ae 2 Z (z9 22 Z (CP c47) ?_)
    obtain⟨⟨x48,st49⟩,hx50,h⟩:=CL h
    try dsimp only at h
    refine Ac ae 1 Z (Al Z (.g Z Z Z) (.fn Tryz.call71 Z) (jV b20 st24 _ hx50) sT Z (Ac ae 2 Z ?_))
    rcases jF h with⟨c51,h⟩ | ⟨c51,h⟩
    ·cases h
     exact TL.nil (AS (d:=26) (v':= .bool true) Z (congrArg Value.bool (CP c51)) (Ah [0,0,0,0,0,0]))
    cases h
    exact TL.nil (AS (d:=26) (v':= .bool false) Z (congrArg Value.bool (CS c51)) (Ah [0,0,0,0,0,0]))
   refine zX ae 2 Z (z9 22 Z (CS c47) (Ac ae 4 Z ?_))
   cases h
   exact TL.nil (Ah [0,0,0,0,0,0])
  rintro _ _ ⟨rfl,rfl⟩
  clear h
  have h:=hk43
  clear hk43
  try dsimp only at h
  rcases jF h with⟨c52,h⟩ | ⟨c52,h⟩
  ·refine X.seq (Ae Z c52 ?_)
   obtain⟨⟨x53,st56⟩,hx57,h⟩:=CL h
   try dsimp only at h
   obtain⟨c59,h⟩:=aH h
   refine Ar (T.block (T.seq ?_))
   refine T.join (fun e Rs=> ∃ (A54:Option Addr) (c55:Nat) (b58:Nat) (A60:Option Addr) (c61:Nat),e = [(0,jP g),(2,jP b1),(3,jP b5),(5,jP b20)]∧Rs = [cD 97 12 fb (.slice A60 (y21 ++ [x53]).length c61) (y21 ++ [x53]),InR b20 st56,ay b9 23 #[.bool x6.null,jS x6.data],ay b5 179 #[jI x2,.slice A60 (y21 ++ [x53]).length c61],ay b1 179 #[jI 0,.slice none 0 0],InR g st42]) ?_ ?_
   ·refine AE (.q 0 (.q 2 (.br 1 (.e 3 (.e 4 (.e 5 (.q 6 (.e 7 .nil))))) (.e 3 (.br 1 (.e 4 (.e 5 (.q 6 (.e 7 .nil)))) (.e 4 (.e 1 (.e 5 (.q 6 (.e 7 .nil)))))))))) [2,3,3] Z jc qE (by kernel_rfl) ?_
    refine TD.run ae [0,2] Z Z ?_
    refine TD.br ?_ ?_
    ·refine TD.ny Z .u (Aj 3 Z Tryz.isAgg177 Z Z) Z [2,3,3] Z ?_
     refine TD.cg1 Z .u (.fn Tryz.call80 Z) (gf b20 st41 _ hx57) sT Z [3,4,4] ?_ ?_
     ·rintro _ _ _ ⟨A54,c55,rfl,rfl,rfl⟩
      rfl
     rintro _ _ _ ⟨A54,c55,rfl,rfl,rfl⟩
     refine Bh [0,0,0,0,0,0,0] Z ?_
     refine Bp (cells:=wA5 x53 A54 c55) Z .u gl Z (by kernel_rfl) Z [4,5,5] (fun _=>Z) (fun b58=> ?_)
     refine BT 1 0 Z .u (us:=wL6 x53 A54 c55) (u:=x53) (l:=y21) (E:=fb) Tryz.underlying177 iO Z (by decide) Z Z Z Z Z Z Z (fun w G hG=>⟨_,_,Z,hG.1⟩) (by have hq:=c59; omega) (by have hq:=c59; omega) Z [2,3,3] (fun _ _=>Z) (fun A60 c61=> ?_)
     exact Bh [0,0,0,0,0,0] Z (TD.run ae [6] Z Z (BR (cs':= #[jI x2,.slice A60 (y21 ++ [x53]).length c61]) Z .u Z Z EW Z Z Z Z [2,3,3] (Z) (TD.nil (BF [0,0,0,0,0,0] ⟨A54,c55,b58,A60,c61,Z,Z⟩ (by rfl) (by rfl)))))
    refine TD.cg1 Z .u (.fn Tryz.call80 Z) (gf b20 st41 _ hx57) sT Z [3,4,4] ?_ ?_
    ·rintro _ _ _ ⟨A54,c55,rfl,rfl,rfl⟩
     rfl
    rintro _ _ _ ⟨A54,c55,rfl,rfl,rfl⟩
    refine Bh [0,0,0,0,0,0,0] Z ?_
    refine TD.br ?_ ?_
    ·refine TD.ny Z .u (Aj 4 Z Tryz.isAgg177 Z Z) Z [3,4,4] Z ?_
     refine Bp (cells:=wA5 x53 A54 c55) Z .u gl Z (by kernel_rfl) Z [4,5,5] (fun _=>Z) (fun b58=> ?_)
     refine BT 1 0 Z .u (us:=wL6 x53 A54 c55) (u:=x53) (l:=y21) (E:=fb) Tryz.underlying177 iO Z (by decide) Z Z Z Z Z Z Z (fun w G hG=>⟨_,_,Z,hG.1⟩) (by have hq:=c59; omega) (by have hq:=c59; omega) Z [2,3,3] (fun _ _=>Z) (fun A60 c61=> ?_)
     exact Bh [0,0,0,0,0,0] Z (TD.run ae [6] Z Z (BR (cs':= #[jI x2,.slice A60 (y21 ++ [x53]).length c61]) Z .u Z Z EW Z Z Z Z [2,3,3] (Z) (TD.nil (BF [0,0,0,0,0,0] ⟨A54,c55,b58,A60,c61,Z,Z⟩ (by rfl) (by rfl)))))
    refine Bp (cells:=wA5 x53 A54 c55) Z .u gl Z (by kernel_rfl) Z [4,5,5] (fun _=>Z) (fun b58=> ?_)
    refine TD.ny Z .u (Aj 5 Z Tryz.isAgg177 Z Z) Z [4,5,5] Z ?_
    refine BT 1 0 Z .u (us:=wL6 x53 A54 c55) (u:=x53) (l:=y21) (E:=fb) Tryz.underlying177 iO Z (by decide) Z Z Z Z Z Z Z (fun w G hG=>⟨_,_,Z,hG.1⟩) (by have hq:=c59; omega) (by have hq:=c59; omega) Z [2,3,3] (fun _ _=>Z) (fun A60 c61=> ?_)
    exact Bh [0,0,0,0,0,0] Z (TD.run ae [6] Z Z (BR (cs':= #[jI x2,.slice A60 (y21 ++ [x53]).length c61]) Z .u Z Z EW Z Z Z Z [2,3,3] (Z) (TD.nil (BF [0,0,0,0,0,0] ⟨A54,c55,b58,A60,c61,Z,Z⟩ (by rfl) (by rfl)))))
   rintro _ _ ⟨A54,c55,b58,A60,c61,rfl,rfl⟩
   refine X.seq (zY Z ?_)
   obtain⟨⟨x62,st63⟩,hx64,h⟩:=CL h
   try dsimp only at h
   refine zX ae 1 Z (Al Z .u (.fn Tryz.call23 Z) (bu b20 st56 _ hx64) sT Z (Ai ae Z Z (z8 ae Z ?_)))
   obtain⟨st68,h,hk69⟩:=CL h
   refine AK (fun e Rs=>e = [(0,jP g),(2,jP b1),(3,jP b5),(5,jP b20)]∧Rs = [cD 97 12 fb (.slice A60 (y21 ++ [x53]).length c61) (y21 ++ [x53]),InR b20 st63,ay b9 23 #[.bool x6.null,jS x6.data],ay b5 179 #[jI x2,.slice A60 (y21 ++ [x53]).length c61],ay b1 179 #[jI 0,.slice none 0 0],InR g st68]) ?_ ?_
   ·clear hk69
    rcases jF h with⟨c70,h⟩ | ⟨c70,h⟩
    ·refine T.nn Z c70 ?_
     cases h
     exact T.skip (Ah [0,0,0,0,0,0])
    refine T.yn Z c70 (T.region Z ?_)
    obtain⟨st71,hx72,h⟩:=CL h
    refine zX ae 2 Z (BJ Z .u (.fn Tryz.call70 Z) (aU g st42 x62 _ hx72) sT Z ?_)
    cases h
    exact TL.nil (Ah [0,0,0,0,0,0])
   rintro _ _ ⟨rfl,rfl⟩
   clear h
   have h:=hk69
   clear hk69
   try dsimp only at h
   exact Ap (X.back (m':=m29) [0,0,0,0,0,0] (by omega) ⟨(y21 ++ [x53]),A60,c61,st63,st68,Z,Z,h⟩ (by rfl) (by rfl))
  replace c52:=CU c52
  refine X.seq (Ay Z c52 ?_)
  obtain rfl:=CN h
  replace h:=hO28
  clear hO28
  try dsimp only at h
  refine T.exit (As (As (AW (X.seq (zY Z (z4 Z (Ag (us := [jI x2,.slice A22 y21.length c23]) 3 Z EG Dr Z Z Z) Z (BS (cs':= #[jI x2,.slice A22 y21.length c23]) Z .u Z Z Dr Z Z Z Z ?_)))))))
  obtain rfl:=CN h
  exact zZ (T.ret (X.shut (by decide) 0 Z (AU [0,0,0,0,0,0] Z (Aw [5,0] Tryz.results173 (AA (us:= #[jI x2,.slice A22 y21.length c23]) 4 Z EG Dr Z Z) ⟨_,_,Z,Z,Z⟩ (by rfl) (.inl Z)))))
def bl (x32:Int):Nat→Nat→List aW→I→Option (Lp (ao×I) (Nat×List aW×I))
 | 0,_,_,_=>none
 | m43+1,k35,y36,st39=>if (k35:Int)<x32 then ((eu st39).bind fun (x48,st51)=>if (y36.length+1)*32≤140737488355328 then ((fa st51).bind fun (x57,st58)=>if x57=0 then (if -9223372036854775808≤((k35:Int)+1)∧((k35:Int)+1)≤9223372036854775807 then (bl x32 m43 (k35+1) (y36 ++ [x48]) st58) else none) else (some (Lp.ret ((⟨(⟨false,[]⟩:Bl),0,0,[]⟩:ao),st58)))) else none) else (some (Lp.go (k35,y36,st39)))
def bZ (x12:Int):Nat→Nat→List aB→I→Option (Lp (ao×I) (Nat×List aB×I))
 | 0,_,_,_=>none
 | m23+1,k15,y16,st19=>if (k15:Int)<x12 then ((lK st19).bind fun (x28,st29)=>(fI st29 4 8).bind fun (x32,st33)=>(bl x32 ((x32).toNat+1) 0 [] st33).bind fun e=>match e with | .ret r=>some (Lp.ret r) | .go (k71,y72,st75)=>((fa st75).bind fun (x76,st77)=>if x76=0 then (if (y16.length+1)*40≤140737488355328 then (if -9223372036854775808≤((k15:Int)+1)∧((k15:Int)+1)≤9223372036854775807 then (bZ x12 m23 (k15+1) (y16 ++ [(⟨x28,y72⟩:aB)]) st77) else none) else none) else (some (Lp.ret ((⟨(⟨false,[]⟩:Bl),0,0,[]⟩:ao),st77))))) else (some (Lp.go (k15,y16,st19)))
theorem lB (x12:Int) (u1:Nat) (u2:List aB) (u3:I):bZ x12 0 u1 u2 u3=none:=rfl
theorem ed (x12:Int) (m23:Nat) (k15:Nat) (y16:List aB) (st19:I):bZ x12 (m23+1) k15 y16 st19=(if (k15:Int)<x12 then ((lK st19).bind fun (x28,st29)=>(fI st29 4 8).bind fun (x32,st33)=>(bl x32 ((x32).toNat+1) 0 [] st33).bind fun e=>match e with | .ret r=>some (Lp.ret r) | .go (k71,y72,st75)=>((fa st75).bind fun (x76,st77)=>if x76=0 then (if (y16.length+1)*40≤140737488355328 then (if -9223372036854775808≤((k15:Int)+1)∧((k15:Int)+1)≤9223372036854775807 then (bZ x12 m23 (k15+1) (y16 ++ [(⟨x28,y72⟩:aB)]) st77) else none) else none) else (some (Lp.ret ((⟨(⟨false,[]⟩:Bl),0,0,[]⟩:ao),st77))))) else (some (Lp.go (k15,y16,st19)))):=rfl
def cX (st:I) (a1:Int):Option (ao×I):=(gG st 2).bind fun (x2,st3)=>(bW st3 2).bind fun (x5,st6)=>(bW st6 4).bind fun (x8,st9)=>(fI st9 4 6).bind fun (x12,st13)=>(bZ x12 ((x12).toNat+1) 0 [] st13).bind fun e=>match e with | .ret r=>some r | .go (k116,y117,st120)=>((fa st120).bind fun (x121,st122)=>(if x121=0 then ((bz (⟨x2,x5,x8,y117⟩:ao) a1).bind fun x138=>(if x138=0 then some st122 else ((bg st122 x138).bind fun st146=>some st146)).bind fun st143=>some st143) else some st122).bind fun st135=>(fa st135).bind fun (x148,st149)=>if x148=0 then (some ((⟨x2,x5,x8,y117⟩:ao),st149)) else (some ((⟨(⟨false,[]⟩:Bl),0,0,[]⟩:ao),st149)))
theorem lC (g:Nat) (st:I) (a1:Int) (r:ao×I) (h:cX st a1=some r):au Tryz.prog 120 #[jP g,jI a1] .triv (InR g st) (fun v A' N=> ∃ (A152:Option Addr) (c153:Nat),v= .agg #[.bool r.1.Cc.null,jS r.1.Cc.data,jI r.1.CG,jI r.1.B8,.slice A152 r.1.BZ.length c153]∧A'=InR g r.2∧N = [RdR (an 2 aw) [.slice A152 r.1.BZ.length c153] r.1.BZ]):=by
 refine aL Tryz.func120 Z Tryz.ntmps120 Z ?_
 intro F w hX
 unfold cX at h
 refine zY Z (TL.alloc Z .u Tryz.zeroValue36 Z (fun b1=>(Ab Z ?_)))
 obtain⟨⟨x2,st3⟩,hx4,h⟩:=CL h
 try dsimp only at h
 refine zX ae 1 Z (Al Z .u (.fn Tryz.call142 Z) (fV g st 2 _ hx4) sT Z ?_)
 obtain⟨⟨x5,st6⟩,hx7,h⟩:=CL h
 try dsimp only at h
 refine zX ae 1 Z (Al Z .u (.fn Tryz.call68 Z) (aE g st3 2 _ hx7) sT Z ?_)
 obtain⟨⟨x8,st9⟩,hx10,h⟩:=CL h
 try dsimp only at h
 refine zX ae 1 Z (Al Z .u (.fn Tryz.call68 Z) (aE g st6 4 _ hx10) sT Z ?_)
 refine z4 Z (Ao (cells:= #[.bool x2.null,jS x2.data,jI x5,jI x8,.slice none 0 0]) gj Z (by kernel_rfl)) Z ?_
 refine TL.alloc Z .u Tryz.zeroValue36 Z (fun b11=>(Ad (cs':= #[.bool x2.null,jS x2.data,jI x5,jI x8,.slice none 0 0]) Z .u Z Z Ds Z Z Z Z (zZ (T.seq (zY Z ?_)))))
 obtain⟨⟨x12,st13⟩,hx14,h⟩:=CL h
 try dsimp only at h
 refine zX ae 1 Z (AH Z .u (.fn Tryz.call144 Z) (gZ g st9 4 6 _ hx14) sT Z (z8 ae Z (T.block (Bu 176 2 aw ?_))))
 obtain⟨E20,hE21,hO22⟩:=CL h
 refine AX (fun m e Rs=> ∃ (k15:Nat) (y16:List aB) (A17:Option Addr) (c18:Nat) (st19:I),e = [(0,jP g),(1,jI a1),(4,jP b1),(5,jP b11),(16,jI x12),(17,jI (k15:Int))]∧Rs = [cD 176 2 aw (.slice A17 y16.length c18) y16,ay b11 36 (vA9 x5 x8 A17 c18 (y16).length x2),ay b1 36 #[.bool false,.string ⟨#[]⟩,jI 0,jI 0,.slice none 0 0],InR g st19]∧bZ x12 m k15 y16 st19=some E20) ((x12).toNat+1) [0,0,0,0] ⟨0,[],none,0,st13,Z,Z,by exact hE21⟩ (by rfl) (by rfl) ?_
 clear hE21 h
 rintro m23 _ _ ⟨k15,y16,A17,c18,st19,rfl,rfl,h⟩
 cases m23 with
 | zero =>
  rw[lB] at h
  cases h
 | succ m23 =>
  rw[ed] at h
  refine zY Z (zX ae 1 Z ?_)
  rcases jF h with⟨c27,h⟩ | ⟨c27,h⟩
  ·refine zZ (T.seq (Bb Z c27 (Ar (T.seq (T.block (zY Z ?_))))))
   obtain⟨⟨x28,st29⟩,hx30,h⟩:=CL h
   try dsimp only at h
   refine zX ae 1 Z (Bq Z .u (.fn Tryz.call86 Z) (jX g st19 _ hx30) sT Z ?_)
   refine z4 Z (Ao (cells:= #[jS x28,.slice none 0 0]) ol Z (by kernel_rfl)) Z ?_
   refine TL.alloc Z .u Tryz.zeroValue176 Z (fun b31=>(Ad (cs':= #[jS x28,.slice none 0 0]) Z .u Z Z Dy Z Z Z Z (zZ (T.seq (zY Z ?_)))))
   obtain⟨⟨x32,st33⟩,hx34,h⟩:=CL h
   try dsimp only at h
   refine zX ae 1 Z (TL.c4 Z .u (.fn Tryz.call144 Z) (gZ g st29 4 8 _ hx34) sT Z (z8 ae Z (T.block (Bu 179 2 bG ?_))))
   obtain⟨E40,hE41,hO42⟩:=CL h
   refine AX (fun m e Rs=> ∃ (k35:Nat) (y36:List aW) (A37:Option Addr) (c38:Nat) (st39:I),e = [(0,jP g),(1,jI a1),(4,jP b1),(5,jP b11),(6,jP b31),(16,jI x12),(17,jI (k15:Int)),(23,jI x32),(24,jI (k35:Int))]∧Rs = [cD 179 2 bG (.slice A37 y36.length c38) y36,ay b31 176 #[jS x28,.slice A37 y36.length c38],cD 176 2 aw (.slice A17 y16.length c18) y16,ay b11 36 (vA9 x5 x8 A17 c18 (y16).length x2),ay b1 36 #[.bool false,.string ⟨#[]⟩,jI 0,jI 0,.slice none 0 0],InR g st39]∧bl x32 m k35 y36 st39=some E40) ((x32).toNat+1) [0,0,0,0,0,0] ⟨0,[],none,0,st33,Z,Z,by exact hE41⟩ (by rfl) (by rfl) ?_
   clear hE41 h
   rintro m43 _ _ ⟨k35,y36,A37,c38,st39,rfl,rfl,h⟩
   cases m43 with
   | zero =>
    rw[bl] at h
    cases h
   | succ m43 =>
    rw[bl] at h
    refine zY Z (zX ae 1 Z ?_)
    rcases jF h with⟨c47,h⟩ | ⟨c47,h⟩
    ·refine zZ (T.seq (Bb Z c47 ?_))
     obtain⟨⟨x48,st51⟩,hx52,h⟩:=CL h
     try dsimp only at h
     obtain⟨c54,h⟩:=aH h
     refine Ar (T.seq (T.block (T.seq ?_)))
     refine T.join (fun e Rs=> ∃ (A49:Option Addr) (c50:Nat) (b53:Nat) (A55:Option Addr) (c56:Nat),e = [(0,jP g),(1,jI a1),(4,jP b1),(5,jP b11),(6,jP b31),(16,jI x12),(17,jI (k15:Int)),(23,jI x32),(24,jI (k35:Int))]∧Rs = [cD 179 2 bG (.slice A55 (y36 ++ [x48]).length c56) (y36 ++ [x48]),ay b31 176 #[jS x28,.slice A55 (y36 ++ [x48]).length c56],cD 176 2 aw (.slice A17 y16.length c18) y16,ay b11 36 (vA9 x5 x8 A17 c18 (y16).length x2),ay b1 36 #[.bool false,.string ⟨#[]⟩,jI 0,jI 0,.slice none 0 0],InR g st51]) ?_ ?_
     ·refine AE (.q 0 (.q 2 (.br 1 (.e 3 (.e 4 (.e 5 (.q 6 (.e 7 .nil))))) (.e 3 (.br 1 (.e 4 (.e 5 (.q 6 (.e 7 .nil)))) (.e 4 (.e 1 (.e 5 (.q 6 (.e 7 .nil)))))))))) [2,2,2] Z jc qE (by kernel_rfl) ?_
      refine TD.run ae [0,2] Z Z ?_
      refine TD.br ?_ ?_
      ·refine TD.ny Z .u (Aj 1 Z EF Z Z) Z [2,2,2] Z ?_
       refine TD.cg5 Z .u (.fn Tryz.call173 Z) (ip g st39 _ hx52) sT Z [3,3,3] ?_ ?_
       ·rintro _ _ _ ⟨A49,c50,rfl,rfl,rfl⟩
        rfl
       rintro _ _ _ ⟨A49,c50,rfl,rfl,rfl⟩
       refine Bh [0,0,0,0,0,0,0] Z (Bp (cells:= #[jI x48.Cs,.slice A49 x48.Cf.length c50]) Z .u gk Z (by rfl) Z [4,4,4] (fun _=>Z) (fun b53=> ?_))
       refine BT 1 0 Z .u (us := [jI x48.Cs,.slice A49 x48.Cf.length c50]) (u:=x48) (l:=y36) (E:=bG) Tryz.underlying174 ia Z (by decide) Z Z Z Z Z Z Z (fun w G hG=>⟨_,_,Z,hG.1⟩) (by have hq:=c54; omega) (by have hq:=c54; omega) Z [2,2,2] (fun _ _=>Z) (fun A55 c56=> ?_)
       exact Bh [0,0,0,0,0,0] Z (TD.run ae [6] Z Z (TD.st1 (cs':= #[jS x28,.slice A55 (y36 ++ [x48]).length c56]) Z .u Z Z EV Z Z Z Z [2,2,2] (Z) (TD.nil (BF [0,0,0,0,0,0] ⟨A49,c50,b53,A55,c56,Z,Z⟩ (by rfl) (by rfl)))))
      refine TD.cg5 Z .u (.fn Tryz.call173 Z) (ip g st39 _ hx52) sT Z [3,3,3] ?_ ?_
      ·rintro _ _ _ ⟨A49,c50,rfl,rfl,rfl⟩
       rfl
      rintro _ _ _ ⟨A49,c50,rfl,rfl,rfl⟩
      refine Bh [0,0,0,0,0,0,0] Z ?_
      refine TD.br ?_ ?_
      ·refine TD.ny Z .u (Aj 2 Z EF Z Z) Z [3,3,3] Z (Bp (cells:= #[jI x48.Cs,.slice A49 x48.Cf.length c50]) Z .u gk Z (by rfl) Z [4,4,4] (fun _=>Z) (fun b53=> ?_))
       refine BT 1 0 Z .u (us := [jI x48.Cs,.slice A49 x48.Cf.length c50]) (u:=x48) (l:=y36) (E:=bG) Tryz.underlying174 ia Z (by decide) Z Z Z Z Z Z Z (fun w G hG=>⟨_,_,Z,hG.1⟩) (by have hq:=c54; omega) (by have hq:=c54; omega) Z [2,2,2] (fun _ _=>Z) (fun A55 c56=> ?_)
       exact Bh [0,0,0,0,0,0] Z (TD.run ae [6] Z Z (TD.st1 (cs':= #[jS x28,.slice A55 (y36 ++ [x48]).length c56]) Z .u Z Z EV Z Z Z Z [2,2,2] (Z) (TD.nil (BF [0,0,0,0,0,0] ⟨A49,c50,b53,A55,c56,Z,Z⟩ (by rfl) (by rfl)))))
      refine Bp (cells:= #[jI x48.Cs,.slice A49 x48.Cf.length c50]) Z .u gk Z (by rfl) Z [4,4,4] (fun _=>Z) (fun b53=>(TD.ny Z .u (Aj 3 Z EF Z Z) Z [4,4,4] Z ?_))
      refine BT 1 0 Z .u (us := [jI x48.Cs,.slice A49 x48.Cf.length c50]) (u:=x48) (l:=y36) (E:=bG) Tryz.underlying174 ia Z (by decide) Z Z Z Z Z Z Z (fun w G hG=>⟨_,_,Z,hG.1⟩) (by have hq:=c54; omega) (by have hq:=c54; omega) Z [2,2,2] (fun _ _=>Z) (fun A55 c56=> ?_)
      exact Bh [0,0,0,0,0,0] Z (TD.run ae [6] Z Z (TD.st1 (cs':= #[jS x28,.slice A55 (y36 ++ [x48]).length c56]) Z .u Z Z EV Z Z Z Z [2,2,2] (Z) (TD.nil (BF [0,0,0,0,0,0] ⟨A49,c50,b53,A55,c56,Z,Z⟩ (by rfl) (by rfl)))))
     rintro _ _ ⟨A49,c50,b53,A55,c56,rfl,rfl⟩
     refine X.seq (zY Z ?_)
     obtain⟨⟨x57,st58⟩,hx59,h⟩:=CL h
     try dsimp only at h
     refine zX ae 1 Z (BJ Z .u (.fn Tryz.call23 Z) (bu g st51 _ hx59) sT Z (zX ae 1 Z ?_))
     rcases jF h with⟨c60,h⟩ | ⟨c60,h⟩
     ·refine Au Z c60 ?_
      obtain⟨c61,h⟩:=aH h
      exact T.skip (Ap (X.seq (T.region Z (z4 Z (Ex.add Z Z c61) Z (zX ae 1 Z (TL.nil (X.back (m':=m43) [0,0,0,0,0,0] (by omega) ⟨k35+1,(y36 ++ [x48]),A55,c56,st58,Z,Z,h⟩ (by rfl) (by rfl))))))))
     refine At Z c60 (zY Z ?_)
     refine z4 Z (Ao (cells:= #[.bool false,.string ⟨#[]⟩,jI 0,jI 0,.slice none 0 0]) gj Z (by kernel_rfl)) Z ?_
     refine BS (cs':= #[.bool false,.string ⟨#[]⟩,jI 0,jI 0,.slice none 0 0]) Z .u Z Z Ds Z Z Z Z ?_
     obtain rfl:=CN h
     obtain rfl:=CN hO42
     obtain rfl:=CN hO22
     exact zZ (T.ret (Am (z7 (z7 (Am (z7 (Am (z7 (z7 (Am (z7 (Ak 2 aw (Aw [6,0] ES (AA (us:= #[.bool false,.string ⟨#[]⟩,jI 0,jI 0,.slice none 0 0]) 5 Z D6 Ds Z Z) ⟨_,_,Z,Z,Z⟩ (by rfl) (.inl Z))))))))))))))
    refine zZ (T.seq (Bc Z c47 ?_))
    obtain rfl:=CN h
    replace h:=hO42
    clear hO42
    try dsimp only at h
    refine T.exit (As (As (AW (X.seq (T.seq (zY Z ?_))))))
    obtain⟨⟨x62,st63⟩,hx64,h⟩:=CL h
    try dsimp only at h
    refine zX ae 1 Z (BJ Z .u (.fn Tryz.call23 Z) (bu g st39 _ hx64) sT Z (zX ae 1 Z ?_))
    rcases jF h with⟨c65,h⟩ | ⟨c65,h⟩
    ·refine Au Z c65 (Ar (T.region Z (z6 ae aG 3 Z 2 Z Z (z4 Z (Ag (us := [jS x28,.slice A37 y36.length c38]) 1 Z Tryz.isAgg176 Dy Z Z Z) Z (BI (cells:= #[jS x28,.slice A37 y36.length c38]) Z .u nE Z (by rfl) Z (fun b66=> ?_))))))
     obtain⟨c67,h⟩:=aH h
     refine TL.app2 2 0 Z .u (us := [jS x28,.slice A37 y36.length c38]) (u:=(⟨x28,y36⟩:aB)) (l:=y16) (E:=aw) Tryz.underlying34 oo Z (by decide) Z Z Z Z Z Z Z (fun w G hG=>⟨_,_,Z,dB (by decide) _ _ hG⟩) (by have hq:=c67; omega) (by have hq:=c67; omega) Z (fun A68 c69=> ?_)
     refine AD [0,0,0,0,0] Z (zX ae 1 Z (Bx (cs':= #[.bool x2.null,jS x2.data,jI x5,jI x8,.slice A68 (y16 ++ [(⟨x28,y36⟩:aB)]).length c69]) Z .u Z Z Tryz.sizeOf34 Z Z Z Z ?_))
     obtain⟨c70,h⟩:=aH h
     exact TL.nil (Ap (X.seq (T.region Z (z4 Z (Ex.add Z Z c70) Z (zX ae 1 Z (TL.nil (X.back (m':=m23) [0,1,1,1] (by omega) ⟨k15+1,(y16 ++ [(⟨x28,y36⟩:aB)]),A68,c69,st63,Z,Z,h⟩ (by rfl) (by rfl))))))))
    refine At Z c65 (zY Z ?_)
    refine z4 Z (Ao (cells:= #[.bool false,.string ⟨#[]⟩,jI 0,jI 0,.slice none 0 0]) gj Z (by kernel_rfl)) Z ?_
    refine BS (cs':= #[.bool false,.string ⟨#[]⟩,jI 0,jI 0,.slice none 0 0]) Z .u Z Z Ds Z Z Z Z ?_
    obtain rfl:=CN h
    obtain rfl:=CN hO22
    exact zZ (T.ret (z7 (Am (z7 (z7 (Am (z7 (Ak 2 aw (Aw [6,0] ES (AA (us:= #[.bool false,.string ⟨#[]⟩,jI 0,jI 0,.slice none 0 0]) 5 Z D6 Ds Z Z) ⟨_,_,Z,Z,Z⟩ (by rfl) (.inl Z))))))))))
  refine zZ (T.seq (Bc Z c27 ?_))
  obtain rfl:=CN h
  replace h:=hO22
  clear hO22
  try dsimp only at h
  refine T.exit (As (As (AW (X.seq (T.seq (zY Z ?_))))))
  obtain⟨⟨x85,st86⟩,hx87,h⟩:=CL h
  try dsimp only at h
  refine zX ae 1 Z (Bq Z .u (.fn Tryz.call23 Z) (bu g st19 _ hx87) sT Z (z8 ae Z ?_))
  obtain⟨st99,h,hk100⟩:=CL h
  refine AK (fun e Rs=>e = [(0,jP g),(4,jP b1),(5,jP b11)]∧Rs = [cD 176 2 aw (.slice A17 y16.length c18) y16,ay b11 36 (vA9 x5 x8 A17 c18 (y16).length x2),ay b1 36 #[.bool false,.string ⟨#[]⟩,jI 0,jI 0,.slice none 0 0],InR g st99]) ?_ ?_
  ·clear hk100
   rcases jF h with⟨c101,h⟩ | ⟨c101,h⟩
   ·refine Bb Z c101 (zY Z (z4 Z (Ag (us := [.bool x2.null,jS x2.data,jI x5,jI x8,.slice A17 y16.length c18]) 1 Z D6 Ds Z Z Z) Z ?_))
    obtain⟨x102,hx103,h⟩:=CL h
    refine zX ae 1 Z (An Z .u (.fn Tryz.call156 Z) (ff (⟨x2,x5,x8,y16⟩:ao) _ _ a1 _ hx103) (fun _ hs=>(Bd 0 hs Z (fun w G h=>dB (by decide) w G h))) Z (Ai ae Z Z (z8 ae Z ?_)))
    obtain⟨st107,h,hk108⟩:=CL h
    refine AK (fun e Rs=>e = [(0,jP g),(4,jP b1),(5,jP b11)]∧Rs = [cD 176 2 aw (.slice A17 y16.length c18) y16,ay b11 36 (vA9 x5 x8 A17 c18 (y16).length x2),ay b1 36 #[.bool false,.string ⟨#[]⟩,jI 0,jI 0,.slice none 0 0],InR g st107]) ?_ ?_
    ·clear hk108
     rcases jF h with⟨c109,h⟩ | ⟨c109,h⟩
     ·refine T.nn Z c109 ?_
      cases h
      exact T.skip (Ah [0,0,0,0])
     refine T.yn Z c109 (T.region Z ?_)
     obtain⟨st110,hx111,h⟩:=CL h
     refine zX ae 2 Z (Bq Z .u (.fn Tryz.call70 Z) (aU g st86 x102 _ hx111) sT Z ?_)
     cases h
     exact TL.nil (Ah [0,0,0,0])
    rintro _ _ ⟨rfl,rfl⟩
    clear h
    have h:=hk108
    clear hk108
    try dsimp only at h
    cases h
    exact Ah [0,0,0,0]
   refine Bc Z c101 ?_
   cases h
   exact T.skip (Ah [0,0,0,0])
  rintro _ _ ⟨rfl,rfl⟩
  clear h
  have h:=hk100
  clear hk100
  try dsimp only at h
  refine X.seq (T.seq (zY Z ?_))
  obtain⟨⟨x112,st113⟩,hx114,h⟩:=CL h
  try dsimp only at h
  refine zX ae 1 Z (Bq Z .u (.fn Tryz.call23 Z) (bu g st99 _ hx114) sT Z (zX ae 1 Z ?_))
  rcases jF h with⟨c115,h⟩ | ⟨c115,h⟩
  ·refine Au Z c115 (Az Z (z4 Z (Ag (us := [.bool x2.null,jS x2.data,jI x5,jI x8,.slice A17 y16.length c18]) 1 Z D6 Ds Z Z Z) Z (Bx (cs':=vA9 x5 x8 A17 c18 (y16).length x2) Z .u Z Z Ds Z Z Z Z ?_)))
   obtain rfl:=CN h
   exact zZ (T.ret (X.shut (by decide) 0 Z (AU [0,0,0,0] Z (Aw [3,0] ES (AA (us:=vA9 x5 x8 A17 c18 (y16).length x2) 2 Z D6 Ds Z Z) ⟨_,_,Z,Z,Z⟩ (by rfl) (.inl Z)))))
  refine At Z c115 (zY Z ?_)
  refine z4 Z (Ao (cells:= #[.bool false,.string ⟨#[]⟩,jI 0,jI 0,.slice none 0 0]) gj Z (by kernel_rfl)) Z ?_
  refine Bx (cs':= #[.bool false,.string ⟨#[]⟩,jI 0,jI 0,.slice none 0 0]) Z .u Z Z Ds Z Z Z Z ?_
  obtain rfl:=CN h
  exact zZ (T.ret (z7 (Ak 2 aw (Aw [4,0] ES (AA (us:= #[.bool false,.string ⟨#[]⟩,jI 0,jI 0,.slice none 0 0]) 3 Z D6 Ds Z Z) ⟨_,_,Z,Z,Z⟩ (by rfl) (.inl Z)))))
end Go.Proofs.YtheikonlgjdopaaGreat.Sl
