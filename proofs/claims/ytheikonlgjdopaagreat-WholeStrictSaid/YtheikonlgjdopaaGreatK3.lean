/- wholeStrict_holds: part 3. -/
import Derived.Test.YtheikonlgjdopaaGreatK2
set_option maxRecDepth 100000
set_option maxHeartbeats 4000000
set_option linter.defProp false
namespace Go.Proofs.YtheikonlgjdopaaGreat.Sl
open Go.RowKit
set_option linter.unusedVariables false
set_option linter.unusedSimpArgs false
def C3 := @Tryz.sizeOf97
def Dg := @Tryz.sizeOf103
def Dh := @Tryz.results90
def Di := @Tryz.isAgg97
def Dj := @Tryz.runUnderlying97
def Dl := @Tryz.results136
def Dm := @Tryz.runUnderlying4
def Dp := @Tryz.runUnderlying95
def Dt := @Tryz.runUnderlying74
def Dw := @Tryz.runUnderlying103
def DA := @Tryz.isAgg103
def DH := @Tryz.runUnderlying28
def DK := @Tryz.runUnderlying177
def DS := @Tryz.results81
def DZ := @Tryz.results135
def D4 := @Tryz.sizeOf171
def D8 := @Tryz.results138
def Ee := @Tryz.sizeOf28
def En := @Tryz.results42
def Et := @Tryz.results134
def EJ := @Tryz.runUnderlying171
def EP := @Tryz.results189
def EQ := @Tryz.results146
def EU := @Tryz.results80
def xm:fj := [(91,0,0),(91,1,1),(97,0,0),(97,1,1),(97,2,2),(97,3,3),(97,4,4),(97,5,5),(97,6,6),(97,7,7),(97,8,8),(97,9,9),(97,10,10),(97,11,11),(159,0,0),(159,1,1),(159,2,2),(159,3,3),(159,4,4),(159,5,5),(159,6,6),(159,7,7),(159,8,8),(159,9,9),(159,10,10),(159,11,11)]
theorem aa:(xm).OK Tryz.prog:=⟨FOK.mk Do rfl CX rfl,FOK.mk Do rfl CX rfl,FOK.mk Dj rfl CX rfl,FOK.mk Dj rfl CX rfl,FOK.mk Dj rfl DC rfl,FOK.mk Dj rfl DC rfl,FOK.mk Dj rfl DC rfl,FOK.mk Dj rfl CX rfl,FOK.mk Dj rfl CX rfl,FOK.mk Dj rfl CX rfl,FOK.mk Dj rfl CX rfl,FOK.mk Dj rfl CX rfl,FOK.mk Dj rfl CX rfl,FOK.mk Dj rfl Tryz.sizeOf95 rfl,FOK.mk C7 rfl CX rfl,FOK.mk C7 rfl CX rfl,FOK.mk C7 rfl CX rfl,FOK.mk C7 rfl CX rfl,FOK.mk C7 rfl CX rfl,FOK.mk C7 rfl CX rfl,FOK.mk C7 rfl CX rfl,FOK.mk C7 rfl CX rfl,FOK.mk C7 rfl CX rfl,FOK.mk C7 rfl CX rfl,FOK.mk C7 rfl CX rfl,FOK.mk C7 rfl CX rfl,trivial⟩
def xn:List Nat := [3,4,95]
theorem aq:NOK Tryz.prog xn:=⟨C0,Tryz.isAgg4,Tryz.isAgg95,trivial⟩
theorem jG:Tryz.prog.follows .mixedOrders=true:=by kernel_rfl
theorem dx:BOK Tryz.prog 97 #[.int .i64 0,.int .i64 0,.bool false,.bool false,.bool false,.int .i64 0,.int .i64 0,.int .i64 0,.int .i64 0,.int .i64 0,.int .i64 0,.slice none 0 0] [(0,1),(1,1),(2,1),(3,1),(4,1),(5,1),(6,1),(7,1),(8,1),(9,1),(10,1),(11,1)]:=BOK.mk Tryz.zeroValue97 Dj (by intro w; simp)
theorem qf:BOK Tryz.prog 112 #[.slice none 0 0,.int .i64 0] [(0,1),(1,1)]:=BOK.mk Tryz.zeroValue112 Tryz.runUnderlying112 (by intro w; simp)
theorem lM:BOK Tryz.prog 159 #[.int .i64 0,.int .i64 0,.int .i64 0,.int .i64 0,.int .i64 0,.int .i64 0,.int .i64 0,.int .i64 0,.int .i64 0,.int .i64 0,.int .i64 0,.int .i64 0] [(0,1),(1,1),(2,1),(3,1),(4,1),(5,1),(6,1),(7,1),(8,1),(9,1),(10,1),(11,1)]:=BOK.mk Tryz.zeroValue159 C7 (by intro w; simp)
theorem ge:SOK Tryz.prog 78 9 2 1 #[.string ⟨#[]⟩,.string ⟨#[]⟩]:=SOK.mk DR DD Tryz.zeroValue9 (by decide) (by kernel_rfl)
theorem oY:SOK Tryz.prog 95 91 1 7 #[.int .i64 0,.int .i64 0,.bool false,.string ⟨#[]⟩,.bool false,.string ⟨#[]⟩,.slice none 0 0]:=SOK.mk Dp C2 Tryz.zeroValue91 (by decide) (by kernel_rfl)
theorem rI:(Tryz.prog.info? 91).map (fun i=>(i.zero,i.size,i.bytes))=some (some (.agg #[.int .i64 0,.int .i64 0,.bool false,.string ⟨#[]⟩,.bool false,.string ⟨#[]⟩,.slice none 0 0]),7,88):=by kernel_rfl
def eT (a0:Bat):Option (Bool):=if a0.Cn≥0 then (if a0.Ch≥(-1) then ((fF a0.Ch 4).bind fun x6=>if x6=true then (if a0.Cl≥0 then ((fF a0.Cl 4).bind fun x10=>if x10=true then (if (IntKind.i64.wrap (a0.Cn+a0.Cl))≥0 then (if a0.B9≥0 then (if a0.Cu≥0 then some true else some false) else some false) else some false) else some false) else some false) else some false) else some false) else some false
theorem kC (a0:Bat) (A1:Option Addr) (c2:Nat) (r:Bool) (h:eT a0=some r):au Tryz.prog 135 #[.agg (wA5 a0 A1 c2)] (RX.of (an 7 cn) [.slice A1 a0.B0.length c2] a0.B0) (aI) (fun v A' N=>v= .bool r∧A'=aI∧N = []):=by
 refine aL Tryz.func135 Z Tryz.ntmps135 Z ?_
 intro F w hX
 unfold eT at h
 refine zY Z (TL.box Z .u Z Z (fun b3=>(Ai aa Z Z ?_)))
 rcases jF h with⟨c4,h⟩ | ⟨c4,h⟩
 ·refine z6 aa aq 0 Z 4 Z Z (z9 6 Z (CP c4) ?_)
  rcases jF h with⟨c5,h⟩ | ⟨c5,h⟩
  ·refine z6 aa aq 0 Z 5 Z Z (z9 11 Z (CP c5) ?_)
   obtain⟨x6,hx7,h⟩:=CL h
   refine z6 aa aq 0 Z 2 Z Z (An Z (.g Z Z Z) (.fn Tryz.call101 Z) (AJ (fun w=>cw a0.Ch 4 _ hx7 w)) (fun _ _=>RX.reads_triv _ _) Z ?_)
   rcases jF h with⟨c8,h⟩ | ⟨c8,h⟩
   ·refine Ac aa 2 Z (z9 16 Z c8 ?_)
    rcases jF h with⟨c9,h⟩ | ⟨c9,h⟩
    ·refine z6 aa aq 0 Z 5 Z Z (z9 21 Z (CP c9) ?_)
     obtain⟨x10,hx11,h⟩:=CL h
     refine z6 aa aq 0 Z 2 Z Z (An Z (.g Z Z Z) (.fn Tryz.call101 Z) (AJ (fun w=>cw a0.Cl 4 _ hx11 w)) (fun _ _=>RX.reads_triv _ _) Z ?_)
     rcases jF h with⟨c12,h⟩ | ⟨c12,h⟩
     ·refine Ac aa 2 Z (z9 26 Z c12 (z6 aa aq 0 Z 4 Z Z (TL.q Z (.g Z Z Z) (Ex.addw Z Z) Z ?_)))
      rcases jF h with⟨c13,h⟩ | ⟨c13,h⟩
      ·refine Ac aa 3 Z (z9 34 Z (CP c13) ?_)
       rcases jF h with⟨c14,h⟩ | ⟨c14,h⟩
       ·refine z6 aa aq 0 Z 5 Z Z (z9 39 Z (CP c14) (z6 aa aq 0 Z 5 Z Z ?_))
        rcases jF h with⟨c15,h⟩ | ⟨c15,h⟩
        ·obtain rfl:=CN h
         exact zZ (T.ret (Aw [1] DZ (z5 (v:= .bool true) (congrArg (fun b=>some (Value.bool b)) (CP c15))) ⟨Z,Z,Z⟩ (by rfl) (.inl Z)))
        obtain rfl:=CN h
        exact zZ (T.ret (Aw [1] DZ (z5 (v:= .bool false) (congrArg (fun b=>some (Value.bool b)) (CS c15))) ⟨Z,Z,Z⟩ (by rfl) (.inl Z)))
       refine z6 aa aq 0 Z 5 Z Z (z9 39 Z (CS c14) (Ac aa 5 Z ?_))
       obtain rfl:=CN h
       exact zZ (T.ret (Af [1] DZ (z5 Z)))
      refine Ac aa 3 Z (z9 34 Z (CS c13) (Ac aa 10 Z ?_))
      obtain rfl:=CN h
      exact zZ (T.ret (Af [1] DZ (z5 Z)))
     replace c12:=CU c12
     refine Ac aa 2 Z (z9 26 Z c12 (Ac aa 18 Z ?_))
     obtain rfl:=CN h
     exact zZ (T.ret (Af [1] DZ (z5 Z)))
    refine z6 aa aq 0 Z 5 Z Z (z9 21 Z (CS c9) (Ac aa 23 Z ?_))
    obtain rfl:=CN h
    exact zZ (T.ret (Af [1] DZ (z5 Z)))
   replace c8:=CU c8
   refine Ac aa 2 Z (z9 16 Z c8 (Ac aa 28 Z ?_))
   obtain rfl:=CN h
   exact zZ (T.ret (Af [1] DZ (z5 Z)))
  refine z6 aa aq 0 Z 5 Z Z (z9 11 Z (CS c5) (Ac aa 33 Z ?_))
  obtain rfl:=CN h
  exact zZ (T.ret (Af [1] DZ (z5 Z)))
 refine z6 aa aq 0 Z 4 Z Z (z9 6 Z (CS c4) (Ac aa 38 Z ?_))
 obtain rfl:=CN h
 exact zZ (T.ret (Af [1] DZ (z5 Z)))
def dC (a0:Bat):Option (Bool):=if a0.BX=(-1) then (if a0.B5=(-1) then (if a0.Ca=(-1) then (if a0.CI=true then some false else some true) else some false) else some false) else (if a0.Ct=true then (if a0.BX≥0 then (if a0.B5≥0 then ((fF a0.B5 2).bind fun x11=>if x11=true then (if a0.Ca≥(-1) then ((fF a0.Ca 4).bind fun x15=>if x15=true then (if a0.Ca=(-1) then some true else some false) else some false) else some false) else some false) else some false) else some false) else (if a0.BX≥0 then (if a0.B5≥0 then ((fF a0.B5 2).bind fun x21=>if x21=true then (if a0.Ca≥0 then ((fF a0.Ca 4).bind fun x25=>if x25=true then some true else some false) else some false) else some false) else some false) else some false))
theorem gA (a0:Bat) (A1:Option Addr) (c2:Nat) (r:Bool) (h:dC a0=some r):au Tryz.prog 136 #[.agg (wA5 a0 A1 c2)] (RX.of (an 7 cn) [.slice A1 a0.B0.length c2] a0.B0) (aI) (fun v A' N=>v= .bool r∧A'=aI∧N = []):=by
 refine aL Tryz.func136 Z Tryz.ntmps136 Z ?_
 intro F w hX
 unfold dC at h
 refine zY Z (TL.box Z .u Z Z (fun b3=>(z8 aa Z (T.seq (zY Z (z6 aa aq 0 Z 3 Z Z ?_))))))
 rcases jF h with⟨c4,h⟩ | ⟨c4,h⟩
 ·refine A4 Z c4 (zY Z ?_)
  rcases jF h with⟨c5,h⟩ | ⟨c5,h⟩
  ·refine z6 aa aq 0 Z 4 Z Z (z9 10 Z (CP c5) ?_)
   rcases jF h with⟨c6,h⟩ | ⟨c6,h⟩
   ·refine z6 aa aq 0 Z 5 Z Z (z9 15 Z (CP c6) (z6 aa aq 0 Z 5 Z Z ?_))
    rcases jF h with⟨c7,h⟩ | ⟨c7,h⟩
    ·obtain rfl:=CN h
     exact zZ (T.ret (z7 (Aw [1] Dl (z5 (v:= .bool false) (congrArg (fun b=>some (Value.bool b)) (cv c7))) ⟨Z,Z,Z⟩ (by rfl) (.inl Z))))
    replace c7:=CU c7
    obtain rfl:=CN h
    exact zZ (T.ret (z7 (Aw [1] Dl (z5 (v:= .bool true) (congrArg (fun b=>some (Value.bool b)) (cE c7))) ⟨Z,Z,Z⟩ (by rfl) (.inl Z))))
   refine z6 aa aq 0 Z 5 Z Z (z9 15 Z (CS c6) (Ac aa 5 Z ?_))
   obtain rfl:=CN h
   exact zZ (T.ret (z7 (Af [1] Dl (z5 Z))))
  refine z6 aa aq 0 Z 4 Z Z (z9 10 Z (CS c5) (Ac aa 10 Z ?_))
  obtain rfl:=CN h
  exact zZ (T.ret (z7 (Af [1] Dl (z5 Z))))
 refine A7 Z c4 (Az Z (z8 aa Z (T.seq (zY Z (z6 aa aq 0 Z 2 Z Z ?_)))))
 rcases jF h with⟨c8,h⟩ | ⟨c8,h⟩
 ·refine zZ (Ae Z c8 (T.region Z (Ai aa Z Z ?_)))
  rcases jF h with⟨c9,h⟩ | ⟨c9,h⟩
  ·refine z6 aa aq 0 Z 4 Z Z (z9 25 Z (CP c9) ?_)
   rcases jF h with⟨c10,h⟩ | ⟨c10,h⟩
   ·refine z6 aa aq 0 Z 5 Z Z (z9 30 Z (CP c10) ?_)
    obtain⟨x11,hx12,h⟩:=CL h
    refine z6 aa aq 0 Z 2 Z Z (An Z (.g Z Z Z) (.fn Tryz.call101 Z) (AJ (fun w=>cw a0.B5 2 _ hx12 w)) (fun _ _=>RX.reads_triv _ _) Z ?_)
    rcases jF h with⟨c13,h⟩ | ⟨c13,h⟩
    ·refine Ac aa 2 Z (z9 35 Z c13 ?_)
     rcases jF h with⟨c14,h⟩ | ⟨c14,h⟩
     ·refine z6 aa aq 0 Z 6 Z Z (z9 41 Z (CP c14) ?_)
      obtain⟨x15,hx16,h⟩:=CL h
      refine z6 aa aq 0 Z 2 Z Z (An Z (.g Z Z Z) (.fn Tryz.call101 Z) (AJ (fun w=>cw a0.Ca 4 _ hx16 w)) (fun _ _=>RX.reads_triv _ _) Z ?_)
      rcases jF h with⟨c17,h⟩ | ⟨c17,h⟩
      ·refine Ac aa 2 Z (z9 46 Z c17 (z6 aa aq 0 Z 4 Z Z (z9 50 Z (cv c8) (z6 aa aq 0 Z 6 Z Z ?_))))
       rcases jF h with⟨c18,h⟩ | ⟨c18,h⟩
       ·obtain rfl:=CN h
        exact zZ (T.ret (Aw [1] Dl (z5 (v:= .bool true) (congrArg (fun b=>some (Value.bool b)) (CP c18))) ⟨Z,Z,Z⟩ (by rfl) (.inl Z)))
       obtain rfl:=CN h
       exact zZ (T.ret (Aw [1] Dl (z5 (v:= .bool false) (congrArg (fun b=>some (Value.bool b)) (CS c18))) ⟨Z,Z,Z⟩ (by rfl) (.inl Z)))
      replace c17:=CU c17
      refine Ac aa 2 Z (z9 46 Z c17 (Ac aa 10 Z ?_))
      obtain rfl:=CN h
      exact zZ (T.ret (Af [1] Dl (z5 Z)))
     refine z6 aa aq 0 Z 6 Z Z (z9 41 Z (CS c14) (Ac aa 15 Z ?_))
     obtain rfl:=CN h
     exact zZ (T.ret (Af [1] Dl (z5 Z)))
    replace c13:=CU c13
    refine Ac aa 2 Z (z9 35 Z c13 (Ac aa 21 Z ?_))
    obtain rfl:=CN h
    exact zZ (T.ret (Af [1] Dl (z5 Z)))
   refine z6 aa aq 0 Z 5 Z Z (z9 30 Z (CS c10) (Ac aa 26 Z ?_))
   obtain rfl:=CN h
   exact zZ (T.ret (Af [1] Dl (z5 Z)))
  refine z6 aa aq 0 Z 4 Z Z (z9 25 Z (CS c9) (Ac aa 31 Z ?_))
  obtain rfl:=CN h
  exact zZ (T.ret (Af [1] Dl (z5 Z)))
 replace c8:=CU c8
 refine zZ (Ay Z c8 (Az Z ?_))
 rcases jF h with⟨c19,h⟩ | ⟨c19,h⟩
 ·refine z6 aa aq 0 Z 4 Z Z (z9 25 Z (CP c19) ?_)
  rcases jF h with⟨c20,h⟩ | ⟨c20,h⟩
  ·refine z6 aa aq 0 Z 5 Z Z (z9 30 Z (CP c20) ?_)
   obtain⟨x21,hx22,h⟩:=CL h
   refine z6 aa aq 0 Z 2 Z Z (An Z (.g Z Z Z) (.fn Tryz.call101 Z) (AJ (fun w=>cw a0.B5 2 _ hx22 w)) (fun _ _=>RX.reads_triv _ _) Z ?_)
   rcases jF h with⟨c23,h⟩ | ⟨c23,h⟩
   ·refine Ac aa 2 Z (z9 35 Z c23 ?_)
    rcases jF h with⟨c24,h⟩ | ⟨c24,h⟩
    ·refine z6 aa aq 0 Z 6 Z Z (z9 41 Z (CP c24) ?_)
     obtain⟨x25,hx26,h⟩:=CL h
     refine z6 aa aq 0 Z 2 Z Z (An Z (.g Z Z Z) (.fn Tryz.call101 Z) (AJ (fun w=>cw a0.Ca 4 _ hx26 w)) (fun _ _=>RX.reads_triv _ _) Z ?_)
     rcases jF h with⟨c27,h⟩ | ⟨c27,h⟩
     ·refine Ac aa 2 Z (z9 46 Z c27 (z6 aa aq 0 Z 4 Z Z (z9 50 Z (cE c8) (Ac aa 6 Z ?_))))
      obtain rfl:=CN h
      exact zZ (T.ret (Af [1] Dl (z5 Z)))
     replace c27:=CU c27
     refine Ac aa 2 Z (z9 46 Z c27 (Ac aa 10 Z ?_))
     obtain rfl:=CN h
     exact zZ (T.ret (Af [1] Dl (z5 Z)))
    refine z6 aa aq 0 Z 6 Z Z (z9 41 Z (CS c24) (Ac aa 15 Z ?_))
    obtain rfl:=CN h
    exact zZ (T.ret (Af [1] Dl (z5 Z)))
   replace c23:=CU c23
   refine Ac aa 2 Z (z9 35 Z c23 (Ac aa 21 Z ?_))
   obtain rfl:=CN h
   exact zZ (T.ret (Af [1] Dl (z5 Z)))
  refine z6 aa aq 0 Z 5 Z Z (z9 30 Z (CS c20) (Ac aa 26 Z ?_))
  obtain rfl:=CN h
  exact zZ (T.ret (Af [1] Dl (z5 Z)))
 refine z6 aa aq 0 Z 4 Z Z (z9 25 Z (CS c19) (Ac aa 31 Z ?_))
 obtain rfl:=CN h
 exact zZ (T.ret (Af [1] Dl (z5 Z)))
def bm (a0:Bat):List Rec→Int→Int→Int→Option (Lp Int (Int×Int×Int))
 | [],y4,y5,y6=>some (Lp.go (y4,y5,y6))
 | x12::xs,y4,y5,y6=>if x12.Cd≤y5 then some (Lp.ret 13) else (if x12.Cd>a0.Cl then some (Lp.ret 13) else (if (IntKind.i64.wrap (a0.B9+x12.Co))<0 then some (Lp.ret 11) else (if x12.Co>0 then (if (IntKind.i64.wrap (a0.B9+x12.Co))<x12.Co then some (Lp.ret 11) else (if y6<(IntKind.i64.wrap (a0.B9+x12.Co)) then (bm a0 xs y4 x12.Cd (IntKind.i64.wrap (a0.B9+x12.Co))) else (bm a0 xs y4 x12.Cd y6))) else (if y6<(IntKind.i64.wrap (a0.B9+x12.Co)) then (bm a0 xs y4 x12.Cd (IntKind.i64.wrap (a0.B9+x12.Co))) else (bm a0 xs y4 x12.Cd y6)))))
def cK (a0:Bat):Option (Int):=(bm a0 a0.B0 0 (-1) a0.B9).bind fun e=>match e with | .ret r=>some r | .go (y27,y28,y29)=>(if a0.CF=true then some 0 else (if y29=a0.Cu then some 0 else some 11))
theorem g9 (a0:Bat) (A1:Option Addr) (c2:Nat) (r:Int) (h:cK a0=some r):au Tryz.prog 138 #[.agg (wA5 a0 A1 c2)] (RX.of (an 7 cn) [.slice A1 a0.B0.length c2] a0.B0) (aI) (fun v A' N=>v=jI r∧A'=aI∧N = []):=by
 refine aL Tryz.func138 Z Tryz.ntmps138 Z ?_
 intro F w hX
 unfold cK at h
 refine zY Z (TL.box Z .u Z Z (fun b3=>(zX aa 1 Z ?_)))
 refine zZ (T.seq (AE (.q 0 (.q 1 (.q 2 (.q 3 .nil)))) [0,0] Z jG (NoP.seq bx) (by kernel_rfl) ?_))
 refine TD.run aa [0] Z Z (Aa Z (Aj 0 Z C0 Z Z) Z (TD.run aa [2,3] Z Z (Br (T.seq (zY Z (z6 aa aq 0 Z 2 Z Z (z4 Z (AB Z Dp) Z (z8 aa Z (T.block ?_)))))))))
 obtain⟨E8,hE9,hO10⟩:=CL h
 have hk14len:=AL hX
 refine AX (fun m e Rs=> ∃ (y4:Int) (y5:Int) (y6:Int) (k7:Nat),k7+m=a0.B0.length∧e = [(1,jP b3),(2,jI y4),(3,jI y5),(4,jI y6),(11,.slice A1 a0.B0.length c2),(12,jI (a0.B0.length:Int)),(13,jI (k7:Int))]∧Rs = [ay b3 97 (wA5 a0 A1 c2),aI]∧bm a0 (a0.B0.drop k7) y4 y5 y6=some E8) (a0.B0.length) [0,0] ⟨0,(-1),a0.B9,0,by simp,Z,Z,by rw[List.drop_zero]; exact hE9⟩ (by rfl) (by rfl) ?_
 clear hE9 h
 rintro m11 _ _ ⟨y4,y5,y6,k7,hk14,rfl,rfl,h⟩
 cases m11 with
 | zero =>
  rw[List.drop_of_length_le (by omega),bm] at h
  have hk14ge: ¬ ((k7:Int)<(a0.B0.length:Int)):=by omega
  refine zY Z (z8 aa Z (T.seq (Ay Z (CS hk14ge) ?_)))
  obtain rfl:=CN h
  replace h:=hO10
  clear hO10
  try dsimp only at h
  refine T.exit (As (As (AW (X.seq (T.seq (zY Z ?_))))))
  rcases jF h with⟨c33,h⟩ | ⟨c33,h⟩
  ·refine z6 aa aq 0 Z 4 Z Z (z9 55 Z (cv c33) (A9 aa Z (Ay Z Z (Az Z (zX aa 1 Z ?_)))))
   obtain rfl:=CN h
   exact zZ (T.ret (Af [1] D8 (z5 Z)))
  replace c33:=CU c33
  refine z6 aa aq 0 Z 4 Z Z (z9 55 Z (cE c33) (z6 aa aq 0 Z 5 Z Z ?_))
  rcases jF h with⟨c34,h⟩ | ⟨c34,h⟩
  ·refine Au Z c34 (Az Z (zX aa 1 Z ?_))
   obtain rfl:=CN h
   exact zZ (T.ret (Af [1] D8 (z5 Z)))
  refine At Z c34 (zY Z (zX aa 1 Z ?_))
  obtain rfl:=CN h
  exact zZ (T.ret (z7 (Af [1] D8 (z5 Z))))
 | succ m11 =>
  obtain⟨x12,hxx12⟩: ∃ x,a0.B0[k7]? = some x:=⟨_,List.getElem?_eq_getElem (by omega)⟩
  rw[bF hxx12,bm] at h
  have hk14lt:(k7:Int)<(a0.B0.length:Int):=by omega
  refine zY Z (z8 aa Z (T.seq (Ae Z (CP hk14lt) ?_)))
  obtain⟨gz15,oz15,rfl,z15cs,z15cl,z15cc,z15nf,z15r⟩:=AM (by decide) hX hxx12
  obtain⟨z15S,z15r,z15rr⟩:=z15r
  obtain⟨A16,c17,rfl,z15s0⟩:=z15r
  have hX18:(RX.of (an 3 bT) [.slice A16 x12.B6.length c17] x12.B6).reads w F:=⟨z15S,z15s0,z15rr⟩
  refine Ar (T.seq (T.block (zY Z ?_)))
  refine z4 Z (AN (k:=k7) Z Z Z Dp C2 (CZ hxx12).1) Z ?_
  refine z4 Z (Bj (us:=wL4 x12 A16 c17) 0 Z Dd C2 z15nf z15cc Z Z Z) Z (TL.alloc Z .u Tryz.zeroValue91 Z (fun b19=>(Ad (cs':=wA0 x12 A16 c17) Z .u Z Z C2 Z Z Z Z (zZ (T.seq (zY Z ?_))))))
  rcases jF h with⟨c20,h⟩ | ⟨c20,h⟩
  ·refine z6 aa aq 0 Z 5 Z Z (z9 21 Z (CP c20) (A9 aa Z (Ae Z Z (zY Z (zX aa 1 Z ?_)))))
   obtain rfl:=CN h
   obtain rfl:=CN hO10
   exact zZ (T.ret (z7 (Am (z7 (z7 (Am (z7 (Af [2] D8 (z5 Z)))))))))
  refine z6 aa aq 0 Z 5 Z Z (z9 21 Z (CS c20) (z6 aa aq 0 Z 3 Z Z (z6 aa aq 1 Z 3 Z Z ?_)))
  rcases jF h with⟨c21,h⟩ | ⟨c21,h⟩
  ·refine A4 Z c21 (zY Z (zX aa 1 Z ?_))
   obtain rfl:=CN h
   obtain rfl:=CN hO10
   exact zZ (T.ret (z7 (Am (z7 (z7 (Am (z7 (Af [2] D8 (z5 Z)))))))))
  refine A7 Z c21 (Az Z (BA aa aq 0 Z Z Z (zY Z (z6 aa aq 1 Z 3 Z Z (z6 aa aq 0 Z 1 Z Z (z4 Z (Ex.addw Z Z) Z ?_))))))
  refine z8 aa Z (T.seq (zY Z ?_))
  rcases jF h with⟨c22,h⟩ | ⟨c22,h⟩
  ·refine zX aa 3 Z (z9 37 Z (CP c22) (A9 aa Z (Ae Z Z (zY Z (zX aa 1 Z ?_)))))
   obtain rfl:=CN h
   obtain rfl:=CN hO10
   exact zZ (T.ret (z7 (Am (z7 (z7 (Am (z7 (Af [2] D8 (z5 Z)))))))))
  refine zX aa 3 Z (z9 37 Z (CS c22) ?_)
  rcases jF h with⟨c23,h⟩ | ⟨c23,h⟩
  ·refine z6 aa aq 0 Z 4 Z Z (z9 41 Z (CP c23) (z6 aa aq 0 Z 6 Z Z ?_))
   rcases jF h with⟨c24,h⟩ | ⟨c24,h⟩
   ·refine A4 Z c24 (zY Z (zX aa 1 Z ?_))
    obtain rfl:=CN h
    obtain rfl:=CN hO10
    exact zZ (T.ret (z7 (Am (z7 (z7 (Am (z7 (Af [2] D8 (z5 Z)))))))))
   refine A7 Z c24 (Ar (T.region Z ?_))
   rcases jF h with⟨c25,h⟩ | ⟨c25,h⟩
   ·exact zX aa 2 Z (z4 Z (Ex.maxy Z Z c25) Z (zX aa 1 Z (TL.nil (Ap (X.seq (T.region Z (z4 Z (Ex.add Z Z (by omega)) Z (zX aa 1 Z (TL.nil (X.back (m':=m11) [1,1] (by omega) ⟨y4,x12.Cd,(IntKind.i64.wrap (a0.B9+x12.Co)),k7+1,by omega,Z,Z,h⟩ (by rfl) (by rfl)))))))))))
   exact zX aa 2 Z (z4 Z (Ex.maxx Z Z c25) Z (zX aa 1 Z (TL.nil (Ap (X.seq (T.region Z (z4 Z (Ex.add Z Z (by omega)) Z (zX aa 1 Z (TL.nil (X.back (m':=m11) [1,1] (by omega) ⟨y4,x12.Cd,y6,k7+1,by omega,Z,Z,h⟩ (by rfl) (by rfl)))))))))))
  refine z6 aa aq 0 Z 4 Z Z (z9 41 Z (CS c23) (A9 aa Z (Ay Z Z (Ar (T.region Z ?_)))))
  rcases jF h with⟨c26,h⟩ | ⟨c26,h⟩
  ·exact zX aa 2 Z (z4 Z (Ex.maxy Z Z c26) Z (zX aa 1 Z (TL.nil (Ap (X.seq (T.region Z (z4 Z (Ex.add Z Z (by omega)) Z (zX aa 1 Z (TL.nil (X.back (m':=m11) [1,1] (by omega) ⟨y4,x12.Cd,(IntKind.i64.wrap (a0.B9+x12.Co)),k7+1,by omega,Z,Z,h⟩ (by rfl) (by rfl)))))))))))
  exact zX aa 2 Z (z4 Z (Ex.maxx Z Z c26) Z (zX aa 1 Z (TL.nil (Ap (X.seq (T.region Z (z4 Z (Ex.add Z Z (by omega)) Z (zX aa 1 Z (TL.nil (X.back (m':=m11) [1,1] (by omega) ⟨y4,x12.Cd,y6,k7+1,by omega,Z,Z,h⟩ (by rfl) (by rfl)))))))))))
def dg:List Rec→Int→Option (Lp Int Int)
 | [],y13=>some (Lp.go y13)
 | x19::xs,y13=>(dE x19).bind fun x27=>if x27=0 then (dg xs y13) else some (Lp.ret x27)
def dh:List Rec→Int→Option (Lp Int Int)
 | [],y61=>some (Lp.go y61)
 | x67::xs,y61=>(dE x67).bind fun x75=>if x75=0 then (dh xs y61) else some (Lp.ret x75)
def cH (a0:Bat):Option (Int):=(eT a0).bind fun x4=>if x4=true then (if a0.Ct=true then (if a0.CI=true then ((dC a0).bind fun x9=>if x9=true then (if (a0.B0.length:Int)=1 then ((dg a0.B0 0).bind fun e=>match e with | .ret r=>some r | .go y30=>((a0.B0[0]?).bind fun x32=>(cG x32).bind fun (x38,x39,x40)=>if x40=0 then ((cK a0).bind fun x43=>some x43) else some x40)) else some 10) else some 11) else some 8) else ((dC a0).bind fun x58=>if x58=true then ((dh a0.B0 0).bind fun e=>match e with | .ret r=>some r | .go y78=>((cK a0).bind fun x80=>some x80)) else some 11)) else some 11
theorem fS (a0:Bat) (A1:Option Addr) (c2:Nat) (r:Int) (h:cH a0=some r):au Tryz.prog 81 #[.agg (wA5 a0 A1 c2)] (RX.of (an 7 cn) [.slice A1 a0.B0.length c2] a0.B0) (aI) (fun v A' N=>v=jI r∧A'=aI∧N = []):=by
 refine aL Tryz.func81 Z Tryz.ntmps81 Z ?_
 intro F w hX
 unfold cH at h
 refine zY Z (TL.box Z .u Z Z (fun b3=>(z8 aa Z (T.seq (T.block (zY Z (z4 Z (Ag (us:=wL6 a0 A1 c2) 0 Z Di C3 Z Z Z) Z ?_)))))))
 obtain⟨x4,hx5,h⟩:=CL h
 refine An Z .u (.fn Tryz.call135 Z) (kC a0 _ _ _ hx5) (fun _ hs=>(AC hs hX)) Z (zX aa 2 Z ?_)
 rcases jF h with⟨c6,h⟩ | ⟨c6,h⟩
 ·refine zZ (Ay Z (cv c6) (zY Z ?_))
  rcases jF h with⟨c7,h⟩ | ⟨c7,h⟩
  ·refine z6 aa aq 0 Z 3 Z Z (z9 16 Z c7 (z6 aa aq 0 Z 5 Z Z ?_))
   rcases jF h with⟨c8,h⟩ | ⟨c8,h⟩
   ·refine zZ (Ay Z (cv c8) (zY Z (z4 Z (Ag (us:=wL6 a0 A1 c2) 0 Z Di C3 Z Z Z) Z ?_)))
    obtain⟨x9,hx10,h⟩:=CL h
    refine An Z .u (.fn Tryz.call136 Z) (gA a0 _ _ _ hx10) (fun _ hs=>(AC hs hX)) Z (zX aa 2 Z ?_)
    rcases jF h with⟨c11,h⟩ | ⟨c11,h⟩
    ·refine zZ (Ay Z (cv c11) (zY Z (z6 aa aq 0 Z 3 Z Z (z9 28 Z c7 (z6 aa aq 0 Z 2 Z Z (TL.q Z (.g Z Z Z) (AB Z Dp) Z (Ac aa 3 Z ?_)))))))
     rcases jF h with⟨c12,h⟩ | ⟨c12,h⟩
     ·refine Au Z c12 (T.skip (Ap (X.seq (T.seq (zY Z (z6 aa aq 0 Z 2 Z Z (z4 Z (AB Z Dp) Z (z8 aa Z (T.block ?_)))))))))
      obtain⟨E15,hE16,hO17⟩:=CL h
      have hk21len:=AL hX
      refine AX (fun m e Rs=> ∃ (y13:Int) (k14:Nat),k14+m=a0.B0.length∧e = [(1,jP b3),(2,jI y13),(35,.slice A1 a0.B0.length c2),(36,jI (a0.B0.length:Int)),(37,jI (k14:Int))]∧Rs = [ay b3 97 (wA5 a0 A1 c2),aI]∧dg (a0.B0.drop k14) y13=some E15) (a0.B0.length) [0,0] ⟨0,0,by simp,Z,Z,by rw[List.drop_zero]; exact hE16⟩ (by rfl) (by rfl) ?_
      clear hE16 h
      rintro m18 _ _ ⟨y13,k14,hk21,rfl,rfl,h⟩
      cases m18 with
      | zero =>
       rw[List.drop_of_length_le (by omega),dg] at h
       have hk21ge: ¬ ((k14:Int)<(a0.B0.length:Int)):=by omega
       refine zY Z (z8 aa Z (T.seq (Ay Z (CS hk21ge) ?_)))
       obtain rfl:=CN h
       replace h:=hO17
       clear hO17
       try dsimp only at h
       refine T.exit (As (As (AW (X.seq (T.seq (zY Z (BA aa aq 0 Z Z Z (Ae Z c7 (zY Z ?_)))))))))
       obtain⟨x45,hx46,h⟩:=CL h
       obtain⟨gz47,oz47,rfl,z47cs,z47cl,z47cc,z47nf,z47r⟩:=AM (by decide) hX hx46
       obtain⟨z47S,z47r,z47rr⟩:=z47r
       obtain⟨A48,c49,rfl,z47s0⟩:=z47r
       have hX50:(RX.of (an 3 bT) [.slice A48 x45.B6.length c49] x45.B6).reads w F:=⟨z47S,z47s0,z47rr⟩
       refine z6 aa aq 0 Z 2 Z Z ?_
       refine z4 Z (AN (k:=0) Z Z Z Dp C2 (CZ hx46).1) Z ?_
       refine z4 Z (Bj (us:=wL4 x45 A48 c49) 0 Z Dd C2 z47nf z47cc Z Z Z) Z ?_
       obtain⟨⟨x51,x52,x53⟩,hx54,h⟩:=CL h
       try dsimp only at h
       refine An Z .u (.fn Tryz.call137 Z) (ls x45 _ _ _ hx54) (fun _ hs=>(AC hs hX50)) Z (Ai aa Z Z (zX aa 2 Z ?_))
       rcases jF h with⟨c55,h⟩ | ⟨c55,h⟩
       ·refine Au Z c55 (Az Z (z4 Z (Ag (us := [jI a0.Cn,jI a0.Ch,.bool a0.CF,.bool a0.CI,.bool a0.Ct,jI a0.Cl,jI a0.B9,jI a0.Cu,jI a0.BX,jI a0.B5,jI a0.Ca,.slice (some ⟨gz47,oz47,none⟩) a0.B0.length c2]) 0 Z Di C3 Z Z Z) Z ?_))
        obtain⟨x56,hx57,h⟩:=CL h
        refine An Z .u (.fn Tryz.call138 Z) (g9 a0 _ _ _ hx57) (fun _ hs=>(AC hs hX)) Z (zX aa 1 Z ?_)
        obtain rfl:=CN h
        exact zZ (T.ret (Af [1] DS (z5 Z)))
       refine At Z c55 (zY Z (zX aa 2 Z ?_))
       obtain rfl:=CN h
       exact zZ (T.ret (z7 (Af [1] DS (z5 Z))))
      | succ m18 =>
       obtain⟨x19,hxx19⟩: ∃ x,a0.B0[k14]? = some x:=⟨_,List.getElem?_eq_getElem (by omega)⟩
       rw[bF hxx19,dg] at h
       have hk21lt:(k14:Int)<(a0.B0.length:Int):=by omega
       refine zY Z (z8 aa Z (T.seq (Ae Z (CP hk21lt) ?_)))
       obtain⟨gz22,oz22,rfl,z22cs,z22cl,z22cc,z22nf,z22r⟩:=AM (by decide) hX hxx19
       obtain⟨z22S,z22r,z22rr⟩:=z22r
       obtain⟨A23,c24,rfl,z22s0⟩:=z22r
       have hX25:(RX.of (an 3 bT) [.slice A23 x19.B6.length c24] x19.B6).reads w F:=⟨z22S,z22s0,z22rr⟩
       refine Ar (T.seq (T.block (zY Z ?_)))
       refine z4 Z (AN (k:=k14) Z Z Z Dp C2 (CZ hxx19).1) Z ?_
       refine z4 Z (Bj (us:=wL4 x19 A23 c24) 0 Z Dd C2 z22nf z22cc Z Z Z) Z (TL.alloc Z .u Tryz.zeroValue91 Z (fun b26=>(Ad (cs':=wA0 x19 A23 c24) Z .u Z Z C2 Z Z Z Z (Ab Z (z4 Z (Ag (us:=wL4 x19 A23 c24) 0 Z Dd C2 Z Z Z) Z ?_)))))
       obtain⟨x27,hx28,h⟩:=CL h
       refine An Z .u (.fn Tryz.call130 Z) (fL x19 _ _ _ hx28) (fun _ hs=>(AC hs hX25)) Z (Ai aa Z Z (zX aa 2 Z ?_))
       rcases jF h with⟨c29,h⟩ | ⟨c29,h⟩
       ·exact Au Z c29 (T.skip (Ap (X.seq (T.region Z (z4 Z (Ex.add Z Z (by omega)) Z (zX aa 1 Z (TL.nil (X.back (m':=m18) [1,1] (by omega) ⟨y13,k14+1,by omega,Z,Z,h⟩ (by rfl) (by rfl)))))))))
       refine At Z c29 (zY Z (zX aa 2 Z ?_))
       obtain rfl:=CN h
       obtain rfl:=CN hO17
       exact zZ (T.ret (Am (z7 (z7 (Am (z7 (Af [2] DS (z5 Z))))))))
     refine At Z c12 (zY Z (zX aa 1 Z ?_))
     obtain rfl:=CN h
     exact zZ (T.ret (Am (z7 (Af [1] DS (z5 Z)))))
    replace c11:=CU c11
    refine zZ (Ae Z (cE c11) (zY Z (zX aa 1 Z ?_)))
    obtain rfl:=CN h
    exact zZ (T.ret (Am (z7 (Af [1] DS (z5 Z)))))
   replace c8:=CU c8
   refine zZ (Ae Z (cE c8) (zY Z (zX aa 1 Z ?_)))
   obtain rfl:=CN h
   exact zZ (T.ret (Am (z7 (Af [1] DS (z5 Z)))))
  replace c7:=CU c7
  refine z6 aa aq 0 Z 3 Z Z (z9 16 Z c7 (A9 aa Z (Ay Z Z (zY Z (z4 Z (Ag (us:=wL6 a0 A1 c2) 0 Z Di C3 Z Z Z) Z ?_)))))
  obtain⟨x58,hx59,h⟩:=CL h
  refine An Z .u (.fn Tryz.call136 Z) (gA a0 _ _ _ hx59) (fun _ hs=>(AC hs hX)) Z (zX aa 2 Z ?_)
  rcases jF h with⟨c60,h⟩ | ⟨c60,h⟩
  ·refine zZ (Ay Z (cv c60) (zY Z (z6 aa aq 0 Z 3 Z Z (z9 28 Z c7 (A9 aa Z (Ay Z Z ?_))))))
   refine T.skip (Ap (X.seq (T.seq (zY Z (z6 aa aq 0 Z 2 Z Z (z4 Z (AB Z Dp) Z (z8 aa Z (T.block ?_))))))))
   obtain⟨E63,hE64,hO65⟩:=CL h
   have hk69len:=AL hX
   refine AX (fun m e Rs=> ∃ (y61:Int) (k62:Nat),k62+m=a0.B0.length∧e = [(1,jP b3),(2,jI y61),(35,.slice A1 a0.B0.length c2),(36,jI (a0.B0.length:Int)),(37,jI (k62:Int))]∧Rs = [ay b3 97 (wA5 a0 A1 c2),aI]∧dh (a0.B0.drop k62) y61=some E63) (a0.B0.length) [0,0] ⟨0,0,by simp,Z,Z,by rw[List.drop_zero]; exact hE64⟩ (by rfl) (by rfl) ?_
   clear hE64 h
   rintro m66 _ _ ⟨y61,k62,hk69,rfl,rfl,h⟩
   cases m66 with
   | zero =>
    rw[List.drop_of_length_le (by omega),dh] at h
    have hk69ge: ¬ ((k62:Int)<(a0.B0.length:Int)):=by omega
    refine zY Z (z8 aa Z (T.seq (Ay Z (CS hk69ge) ?_)))
    obtain rfl:=CN h
    replace h:=hO65
    clear hO65
    try dsimp only at h
    refine T.exit (As (As (AW (X.seq (T.seq (zY Z (BA aa aq 0 Z Z Z (Ay Z c7 (Az Z (z4 Z (Ag (us:=wL6 a0 A1 c2) 0 Z Di C3 Z Z Z) Z ?_))))))))))
    obtain⟨x82,hx83,h⟩:=CL h
    refine An Z .u (.fn Tryz.call138 Z) (g9 a0 _ _ _ hx83) (fun _ hs=>(AC hs hX)) Z (zX aa 1 Z ?_)
    obtain rfl:=CN h
    exact zZ (T.ret (Af [1] DS (z5 Z)))
   | succ m66 =>
    obtain⟨x67,hxx67⟩: ∃ x,a0.B0[k62]? = some x:=⟨_,List.getElem?_eq_getElem (by omega)⟩
    rw[bF hxx67,dh] at h
    have hk69lt:(k62:Int)<(a0.B0.length:Int):=by omega
    refine zY Z (z8 aa Z (T.seq (Ae Z (CP hk69lt) ?_)))
    obtain⟨gz70,oz70,rfl,z70cs,z70cl,z70cc,z70nf,z70r⟩:=AM (by decide) hX hxx67
    obtain⟨z70S,z70r,z70rr⟩:=z70r
    obtain⟨A71,c72,rfl,z70s0⟩:=z70r
    have hX73:(RX.of (an 3 bT) [.slice A71 x67.B6.length c72] x67.B6).reads w F:=⟨z70S,z70s0,z70rr⟩
    refine Ar (T.seq (T.block (zY Z ?_)))
    refine z4 Z (AN (k:=k62) Z Z Z Dp C2 (CZ hxx67).1) Z ?_
    refine z4 Z (Bj (us:=wL4 x67 A71 c72) 0 Z Dd C2 z70nf z70cc Z Z Z) Z (TL.alloc Z .u Tryz.zeroValue91 Z (fun b74=>(Ad (cs':=wA0 x67 A71 c72) Z .u Z Z C2 Z Z Z Z (Ab Z (z4 Z (Ag (us:=wL4 x67 A71 c72) 0 Z Dd C2 Z Z Z) Z ?_)))))
    obtain⟨x75,hx76,h⟩:=CL h
    refine An Z .u (.fn Tryz.call130 Z) (fL x67 _ _ _ hx76) (fun _ hs=>(AC hs hX73)) Z (Ai aa Z Z (zX aa 2 Z ?_))
    rcases jF h with⟨c77,h⟩ | ⟨c77,h⟩
    ·exact Au Z c77 (T.skip (Ap (X.seq (T.region Z (z4 Z (Ex.add Z Z (by omega)) Z (zX aa 1 Z (TL.nil (X.back (m':=m66) [1,1] (by omega) ⟨y61,k62+1,by omega,Z,Z,h⟩ (by rfl) (by rfl)))))))))
    refine At Z c77 (zY Z (zX aa 2 Z ?_))
    obtain rfl:=CN h
    obtain rfl:=CN hO65
    exact zZ (T.ret (Am (z7 (z7 (Am (z7 (Af [2] DS (z5 Z))))))))
  replace c60:=CU c60
  refine zZ (Ae Z (cE c60) (zY Z (zX aa 1 Z ?_)))
  obtain rfl:=CN h
  exact zZ (T.ret (Am (z7 (Af [1] DS (z5 Z)))))
 replace c6:=CU c6
 refine zZ (Ae Z (cE c6) (zY Z (zX aa 1 Z ?_)))
 obtain rfl:=CN h
 exact zZ (T.ret (Am (z7 (Af [1] DS (z5 Z)))))
def cT:List Rec→(List UInt8×Int)→Option (List UInt8×Int)
 | [],st9=>some st9
 | x14::xs,st9=>(ej st9 x14).bind fun st22=>cT xs st22
def dF (a0:Bat):Option (List UInt8×Int):=(cH a0).bind fun x4=>if x4=0 then ((cT a0.B0 ([],0)).bind fun st25=>(gF st25).bind fun (x26,x27,st28)=>if -9223372036854775808≤(49+(x26.length:Int))∧(49+(x26.length:Int))≤9223372036854775807 then ((gAOf a0).bind fun x31=>(ck ([],0) (⟨a0.Cn,(49+(x26.length:Int)),a0.Ch,0,x31,a0.Cl,a0.B9,a0.Cu,a0.BX,a0.B5,a0.Ca,(a0.B0.length:Int)⟩:Pfx)).bind fun st35=>(gF st35).bind fun (x37,x38,st39)=>(if x27=0 then (if x38=0 then some false else some true) else some true).bind fun y42=>if y42=true then some ([],11) else ((iB).bind fun st47=>if 21≤x37.length then ((ei st47 [(x37.drop 21),x26]).bind fun (x52,st53)=>if -9223372036854775808≤x52∧x52≤9223372036854775807 then ((ck ([],0) (⟨a0.Cn,(49+(x26.length:Int)),a0.Ch,x52,x31,a0.Cl,a0.B9,a0.Cu,a0.BX,a0.B5,a0.Ca,(a0.B0.length:Int)⟩:Pfx)).bind fun st56=>(qC st56 x26).bind fun st58=>(gF st58).bind fun (x60,x61,st62)=>some (x60,x61)) else none) else none)) else none) else some ([],x4)
theorem ij (a0:Bat) (A1:Option Addr) (c2:Nat) (r:List UInt8×Int) (h:dF a0=some r):au Tryz.prog 39 #[.agg (wA5 a0 A1 c2)] (RX.of (an 7 cn) [.slice A1 a0.B0.length c2] a0.B0) (aI) (fun v A' N=>v= .tuple #[jS r.1,jI r.2]∧A'=aI∧N = []):=by
 refine aL Tryz.func39 Z Tryz.ntmps39 Z ?_
 intro F w hX
 unfold dF at h
 refine zY Z (TL.box Z .u Z Z (fun b3=>(z8 aa Z (T.seq (zY Z (z4 Z (Ag (us:=wL6 a0 A1 c2) 0 Z Di C3 Z Z Z) Z ?_))))))
 obtain⟨x4,hx5,h⟩:=CL h
 refine An Z .u (.fn Tryz.call81 Z) (fS a0 _ _ _ hx5) (fun _ hs=>(AC hs hX)) Z (Ai aa Z Z (zX aa 2 Z ?_))
 rcases jF h with⟨c6,h⟩ | ⟨c6,h⟩
 ·refine Au Z c6 (Az Z (Bt Z .u Tryz.zeroValue112 Z (fun b7=>(zZ (T.seq (zY Z (z6 aa aq 1 Z 2 Z Z (z4 Z (AB Z Dp) Z (zX aa 1 Z ?_)))))))))
  refine zZ (T.block ?_)
  obtain⟨E10,hE11,hO12⟩:=CL h
  have hk16len:=AL hX
  refine AX (fun m e Rs=> ∃ (k8:Nat) (st9:List UInt8×Int),k8+m=a0.B0.length∧e = [(1,jP b3),(2,.string ⟨#[]⟩),(3,jI 0),(5,jP b7),(20,.slice A1 a0.B0.length c2),(21,jI (a0.B0.length:Int)),(22,jI (k8:Int))]∧Rs = [aP b7 st9,ay b3 97 (wA5 a0 A1 c2),aI]∧cT (a0.B0.drop k8) st9=some E10) (a0.B0.length) [0,0,0] ⟨0,([],0),by simp,Z,Z,by rw[List.drop_zero]; exact hE11⟩ (by rfl) (by rfl) ?_
  clear hE11 h
  rintro m13 _ _ ⟨k8,st9,hk16,rfl,rfl,h⟩
  cases m13 with
  | zero =>
   rw[List.drop_of_length_le (by omega),cT] at h
   have hk16ge: ¬ ((k8:Int)<(a0.B0.length:Int)):=by omega
   refine zY Z (z8 aa Z (T.seq (Ay Z (CS hk16ge) ?_)))
   obtain rfl:=CN h
   replace h:=hO12
   clear hO12
   try dsimp only at h
   obtain⟨⟨x64,x65,st66⟩,hx67,h⟩:=CL h
   try dsimp only at h
   refine T.exit (As (As (AW (X.seq (zY Z (Aq Z .u (.fn Tryz.call50 Z) (dR b7 st9 _ hx67) sT Z (zX aa 5 Z ?_)))))))
   obtain⟨c68,h⟩:=aH h
   obtain⟨x69,hx70,h⟩:=CL h
   refine zZ (T.seq ?_)
   refine T.join (fun e Rs=> ∃ (b71:Nat),e = [(1,jP b3),(2,.string ⟨#[]⟩),(3,jI 0),(5,jP b7),(8,jS x64),(9,jI x65),(10,jP b71),(20,.slice A1 a0.B0.length c2),(21,jI (a0.B0.length:Int)),(22,jI (k8:Int)),(23,.bool (decide ((k8:Int)<(a0.B0.length:Int)))),(29,.tuple #[jS x64,jI x65]),(30,.tuple #[jS x64,jI x65]),(31,jS x64),(32,jI x65)]∧Rs = [ay b71 159 #[jI a0.Cn,jI (49+(x64.length:Int)),jI a0.Ch,jI 0,jI x69,jI a0.Cl,jI a0.B9,jI a0.Cu,jI a0.BX,jI a0.B5,jI a0.Ca,jI (a0.B0.length:Int)],aP b7 st66,ay b3 97 (wA5 a0 A1 c2),aI]) ?_ ?_
   ·refine AE (.q 0 (.q 1 (.q 2 (.q 3 (.q 4 (.q 5 (.q 6 (.q 7 (.q 9 (.q 10 (.q 11 (.q 12 (.q 13 (.q 14 (.q 15 (.q 16 (.q 17 (.q 18 (.q 19 (.q 20 (.q 21 (.q 22 (.q 23 (.br 8 (.q 24 (.e 25 (.e 26 .nil))) (.e 25 (.e 8 (.q 24 (.e 26 .nil)))))))))))))))))))))))))))) [0,0,0] Z jG qE (by kernel_rfl) ?_
    refine TD.run aa [0] Z Z (Aa Z (Aj 1 Z C0 Z Z) Z (TD.run aa [2] Z Z (Aa Z (BM Z Dv) Z (Aa Z (Ex.add Z Z c68) Z (TD.run aa [5] Z Z (Aa Z (Aj 1 Z C0 Z Z) Z (Aa Z (Ag (us:=wL6 a0 A1 c2) 1 Z Di C3 Z Z Z) Z ?_)))))))
    refine TD.run aa [9] Z Z (Aa Z (Aj 1 Z C0 Z Z) Z (TD.run aa [11] Z Z (Aa Z (Aj 1 Z C0 Z Z) Z (TD.run aa [13] Z Z (Aa Z (Aj 1 Z C0 Z Z) Z (TD.run aa [15] Z Z (Aa Z (Aj 1 Z C0 Z Z) Z ?_)))))))
    refine TD.run aa [17] Z Z (Aa Z (Aj 1 Z C0 Z Z) Z (TD.run aa [19] Z Z (Aa Z (Aj 1 Z C0 Z Z) Z (TD.run aa [21] Z Z (Aa Z (Aj 1 Z Tryz.isAgg95 Z Z) Z (Aa Z (AB Z Dp) Z ?_))))))
    refine TD.br ?_ ?_
    ·refine TD.ce Z .u (.fn Tryz.call82 Z) (qI a0 _ _ _ hx70) (fun _ hs=>(AC hs hX)) Z [0,0,0] (Z) ?_
     refine Aa Z (Ao (cells:= #[jI a0.Cn,jI (49+(x64.length:Int)),jI a0.Ch,jI 0,jI x69,jI a0.Cl,jI a0.B9,jI a0.Cu,jI a0.BX,jI a0.B5,jI a0.Ca,jI (a0.B0.length:Int)]) lM Z (by kernel_rfl)) Z ?_
     exact TD.alloc Z .u Tryz.zeroValue159 Z [1,1,1] (fun _=>Z) (fun b71=>(TD.st0 (cs':= #[jI a0.Cn,jI (49+(x64.length:Int)),jI a0.Ch,jI 0,jI x69,jI a0.Cl,jI a0.B9,jI a0.Cu,jI a0.BX,jI a0.B5,jI a0.Ca,jI (a0.B0.length:Int)]) Z .u Z Z DF Z Z Z Z [1,1,1] (Z) (TD.nil (BF [0,0,0,0] ⟨b71,Z,Z⟩ (by rfl) (by rfl)))))
    refine TD.alloc Z .u Tryz.zeroValue159 Z [1,1,1] (fun _=>Z) (fun b71=>(TD.ce Z .u (.fn Tryz.call82 Z) (qI a0 _ _ _ hx70) (fun _ hs=>(AC hs hX)) Z [1,1,1] (Z) ?_))
    refine Aa Z (Ao (cells:= #[jI a0.Cn,jI (49+(x64.length:Int)),jI a0.Ch,jI 0,jI x69,jI a0.Cl,jI a0.B9,jI a0.Cu,jI a0.BX,jI a0.B5,jI a0.Ca,jI (a0.B0.length:Int)]) lM Z (by kernel_rfl)) Z ?_
    exact TD.st0 (cs':= #[jI a0.Cn,jI (49+(x64.length:Int)),jI a0.Ch,jI 0,jI x69,jI a0.Cl,jI a0.B9,jI a0.Cu,jI a0.BX,jI a0.B5,jI a0.Ca,jI (a0.B0.length:Int)]) Z .u Z Z DF Z Z Z Z [1,1,1] (Z) (TD.nil (BF [0,0,0,0] ⟨b71,Z,Z⟩ (by rfl) (by rfl)))
   rintro _ _ ⟨b71,rfl,rfl⟩
   refine X.seq (zY Z (Bt Z .u Tryz.zeroValue112 Z (fun b72=>(Ab Z (z4 Z (Ag (us := [jI a0.Cn,jI (49+(x64.length:Int)),jI a0.Ch,jI 0,jI x69,jI a0.Cl,jI a0.B9,jI a0.Cu,jI a0.BX,jI a0.B5,jI a0.Ca,jI (a0.B0.length:Int)]) 1 Z Ed DF Z Z Z) Z ?_)))))
   obtain⟨st73,hx74,h⟩:=CL h
   refine Aq Z .u (.fn Tryz.call83 Z) (fK b72 ([],0) (⟨a0.Cn,(49+(x64.length:Int)),a0.Ch,0,x69,a0.Cl,a0.B9,a0.Cu,a0.BX,a0.B5,a0.Ca,(a0.B0.length:Int)⟩:Pfx) _ hx74) sT Z ?_
   obtain⟨⟨x75,x76,st77⟩,hx78,h⟩:=CL h
   try dsimp only at h
   refine Ab Z (Aq Z .u (.fn Tryz.call50 Z) (dR b72 st73 _ hx78) sT Z (z8 aa Z (T.ss ?_)))
   obtain⟨y80,h,hk81⟩:=CL h
   refine AK (fun e Rs=>e = [(2,.string ⟨#[]⟩),(3,jI 0),(8,jS x64),(10,jP b71),(11,jP b72),(12,jS x75),(69,.bool y80)]∧Rs = [aP b72 st77,ay b71 159 #[jI a0.Cn,jI (49+(x64.length:Int)),jI a0.Ch,jI 0,jI x69,jI a0.Cl,jI a0.B9,jI a0.Cu,jI a0.BX,jI a0.B5,jI a0.Ca,jI (a0.B0.length:Int)],aP b7 st66,ay b3 97 (wA5 a0 A1 c2),aI]) ?_ ?_
   ·clear hk81
    refine T.region Z ?_
    rcases jF h with⟨c82,h⟩ | ⟨c82,h⟩
    ·refine zX aa 3 Z (z9 66 Z (cv (CP c82)) (Ac aa 3 Z ?_))
     rcases jF h with⟨c83,h⟩ | ⟨c83,h⟩
     ·cases h
      exact TL.nil (AS (d:=69) (v':= .bool false) Z (congrArg Value.bool (cv (CP c83))) (Ah [0,0,0,0,0]))
     cases h
     exact TL.nil (AS (d:=69) (v':= .bool true) Z (congrArg Value.bool (cE (CS c83))) (Ah [0,0,0,0,0]))
    refine zX aa 3 Z (z9 66 Z (cE (CS c82)) (Ac aa 3 Z ?_))
    cases h
    exact TL.nil (Ah [0,0,0,0,0])
   rintro _ _ ⟨rfl,rfl⟩
   clear h
   have h:=hk81
   clear hk81
   try dsimp only at h
   rcases jF h with⟨c84,h⟩ | ⟨c84,h⟩
   ·refine X.seq (Ae Z c84 (zY Z (zX aa 2 Z ?_)))
    obtain rfl:=CN h
    exact zZ (T.ret (z7 (Ax [4] Tryz.results39 (z5 Z) (z5 Z) ⟨Z,Z,Z⟩ (by rfl) (.inl Z))))
   replace c84:=CU c84
   refine X.seq (Ay Z c84 ?_)
   obtain⟨st85,hx86,h⟩:=CL h
   obtain⟨c88,h⟩:=aH h
   obtain⟨⟨x90,st91⟩,hx92,h⟩:=CL h
   try dsimp only at h
   obtain⟨c93,h⟩:=aH h
   refine Ar (T.seq ?_)
   refine T.join (fun e Rs=> ∃ (b87:Nat) (b89:Nat),e = [(2,.string ⟨#[]⟩),(3,jI 0),(8,jS x64),(10,jP b71),(11,jP b72),(69,.bool y80)]∧Rs = [cD 9 1 oR (.slice (some ⟨b89,0,none⟩) 2 2) [(x75.drop 21),x64],iU 238 b87 st91,aP b72 st77,ay b71 159 #[jI a0.Cn,jI (49+(x64.length:Int)),jI a0.Ch,jI x90,jI x69,jI a0.Cl,jI a0.B9,jI a0.Cu,jI a0.BX,jI a0.B5,jI a0.Ca,jI (a0.B0.length:Int)],aP b7 st66,ay b3 97 (wA5 a0 A1 c2),aI]) ?_ ?_
   ·refine AE (.q 1 (.q 2 (.q 3 (.br 0 (.e 4 (.e 5 (.q 6 (.q 7 (.e 8 .nil))))) (.e 4 (.e 0 (.e 5 (.q 6 (.q 7 (.e 8 .nil)))))))))) [0,1,1,1] Z jG qE (by kernel_rfl) ?_
    refine TD.run aa [1] Z Z ?_
    refine Aa Z (Ex.sSl (p:=21) (q:=x75.length) (m:=(x75.drop 21)) Z Dv (.some Z Z) .none (by first | omega | (dsimp only; omega)) (uY _ _)) Z ?_
    refine TD.run aa [3] Z Z ?_
    refine TD.br ?_ ?_
    ·refine TD.cge Z .u (.fn Tryz.call84 Z) (gc _ hx86) rT Z [1,2,2,2] ?_ ?_
     ·rintro _ _ _ ⟨b87,rfl,rfl,rfl⟩
      rfl
     rintro _ _ _ ⟨b87,rfl,rfl,rfl⟩
     exact Bh [0,0,0,0,0,0] Z (Bp (cells:= #[.string (aC (x75.drop 21)),jS x64]) Z .u ge Z (by rfl) Z [2,3,3,3] (fun _=>Z) (fun b89=>(TD.rowOf (us := [.string (aC (x75.drop 21)),jS x64]) (xs := [(x75.drop 21),x64]) (E:=oR) (z:=1) Z (Nat.le_of_ble_eq_true Z) (fun _=>⟨Z,Z,⟨Z,Z,Z⟩⟩) (TD.c1 Z .u (.fn Tryz.call85 Z) (ea b87 st85 [(x75.drop 21),x64] _ _ _ hx92) (fun _ hs=>(BL 0 Z (fun w G h=>dB (by decide) w G h))) Z [2,3,3,3] (Z) (Aa Z (BQ Z DE D1 c93) Z (TD.run aa [7] Z Z (BR (cs':= #[jI a0.Cn,jI (49+(x64.length:Int)),jI a0.Ch,jI x90,jI x69,jI a0.Cl,jI a0.B9,jI a0.Cu,jI a0.BX,jI a0.B5,jI a0.Ca,jI (a0.B0.length:Int)]) Z .u Z Z CX Z Z Z Z [2,3,3,3] (Z) (TD.nil (BF [0,0,0,0,0,0,0] ⟨b87,b89,Z,Z⟩ (by rfl) (by rfl))))))))))
    refine Bp (cells:= #[.string (aC (x75.drop 21)),jS x64]) Z .u ge Z (by rfl) Z [1,2,2,2] (fun _=>Z) (fun b89=>(TD.rowOf (us := [.string (aC (x75.drop 21)),jS x64]) (xs := [(x75.drop 21),x64]) (E:=oR) (z:=1) Z (Nat.le_of_ble_eq_true Z) (fun _=>⟨Z,Z,⟨Z,Z,Z⟩⟩) ?_))
    refine TD.cge Z .u (.fn Tryz.call84 Z) (gc _ hx86) rT Z [2,3,3,3] ?_ ?_
    ·rintro _ _ _ ⟨b87,rfl,rfl,rfl⟩
     rfl
    rintro _ _ _ ⟨b87,rfl,rfl,rfl⟩
    exact Bh [0,0,0,0,0,0,0] Z (TD.c0 Z .u (.fn Tryz.call85 Z) (ea b87 st85 [(x75.drop 21),x64] _ _ _ hx92) (fun _ hs=>(BL 0 Z (fun w G h=>dB (by decide) w G h))) Z [2,3,3,3] (Z) (Aa Z (BQ Z DE D1 c93) Z (TD.run aa [7] Z Z (BR (cs':= #[jI a0.Cn,jI (49+(x64.length:Int)),jI a0.Ch,jI x90,jI x69,jI a0.Cl,jI a0.B9,jI a0.Cu,jI a0.BX,jI a0.B5,jI a0.Ca,jI (a0.B0.length:Int)]) Z .u Z Z CX Z Z Z Z [2,3,3,3] (Z) (TD.nil (BF [1,0,0,0,0,0,0] ⟨b87,b89,Z,Z⟩ (by rfl) (by rfl)))))))
   rintro _ _ ⟨b87,b89,rfl,rfl⟩
   refine X.seq (zY Z ?_)
   refine z4 Z (Ao (cells:= #[.slice none 0 0,jI 0]) qf Z (by kernel_rfl)) Z ?_
   refine TL.outZ 2 Z .u Z Z Tryz.sizeOf112 Z (AD [0,0,0,0,0,0,0] Z (Ab Z (z4 Z (Ag (us := [jI a0.Cn,jI (49+(x64.length:Int)),jI a0.Ch,jI x90,jI x69,jI a0.Cl,jI a0.B9,jI a0.Cu,jI a0.BX,jI a0.B5,jI a0.Ca,jI (a0.B0.length:Int)]) 3 Z Ed DF Z Z Z) Z ?_)))
   obtain⟨st94,hx95,h⟩:=CL h
   refine AH Z .u (.fn Tryz.call83 Z) (fK b72 ([],0) (⟨a0.Cn,(49+(x64.length:Int)),a0.Ch,x90,x69,a0.Cl,a0.B9,a0.Cu,a0.BX,a0.B5,a0.Ca,(a0.B0.length:Int)⟩:Pfx) _ hx95) sT Z (Ab Z ?_)
   obtain⟨st96,hx97,h⟩:=CL h
   refine zX aa 1 Z (AH Z .u (.fn Tryz.call52 Z) (oJ b72 st94 x64 _ hx97) sT Z ?_)
   obtain⟨⟨x98,x99,st100⟩,hx101,h⟩:=CL h
   try dsimp only at h
   refine Ab Z (AH Z .u (.fn Tryz.call50 Z) (dR b72 st96 _ hx101) sT Z (zX aa 4 Z ?_))
   obtain rfl:=CN h
   exact zZ (T.ret (Ax [6] Tryz.results39 (z5 Z) (z5 Z) ⟨Z,Z,Z⟩ (by rfl) (.inl Z)))
  | succ m13 =>
   obtain⟨x14,hxx14⟩: ∃ x,a0.B0[k8]? = some x:=⟨_,List.getElem?_eq_getElem (by omega)⟩
   rw[bF hxx14,cT] at h
   have hk16lt:(k8:Int)<(a0.B0.length:Int):=by omega
   refine zY Z (z8 aa Z (T.seq (Ae Z (CP hk16lt) ?_)))
   obtain⟨gz17,oz17,rfl,z17cs,z17cl,z17cc,z17nf,z17r⟩:=AM (by decide) hX hxx14
   obtain⟨z17S,z17r,z17rr⟩:=z17r
   obtain⟨A18,c19,rfl,z17s0⟩:=z17r
   have hX20:(RX.of (an 3 bT) [.slice A18 x14.B6.length c19] x14.B6).reads w F:=⟨z17S,z17s0,z17rr⟩
   refine Ar (T.seq (T.block (zY Z ?_)))
   refine z4 Z (AN (k:=k8) Z Z Z Dp C2 (CZ hxx14).1) Z ?_
   refine z4 Z (Bj (us:=wL4 x14 A18 c19) 0 Z Dd C2 z17nf z17cc Z Z Z) Z (TL.alloc Z .u Tryz.zeroValue91 Z (fun b21=>(Ad (cs':=wA0 x14 A18 c19) Z .u Z Z C2 Z Z Z Z (zZ (T.region Z (z4 Z (Ag (us:=wL4 x14 A18 c19) 0 Z Dd C2 Z Z Z) Z ?_))))))
   obtain⟨st22,hx23,h⟩:=CL h
   exact Al Z .u (.fn Tryz.call79 Z) (ig b7 st9 x14 _ _ _ hx23) (fun _ hs=>(Bk hs hX20)) Z (TL.nil (Ap (X.seq (T.region Z (z4 Z (Ex.add Z Z (by omega)) Z (zX aa 1 Z (TL.nil (X.back (m':=m13) [1,1,1] (by omega) ⟨k8+1,st22,by omega,Z,Z,h⟩ (by rfl) (by rfl)))))))))
 refine At Z c6 (zY Z (zX aa 3 Z ?_))
 obtain rfl:=CN h
 exact zZ (T.ret (z7 (Ax [1] Tryz.results39 (z5 Z) (z5 Z) ⟨Z,Z,Z⟩ (by rfl) (.inl Z))))
def dG:List Bat→List UInt8→Int→List UInt8→Option (Lp (List UInt8×Int) (List UInt8×Int×List UInt8))
 | [],y4,y5,st7=>some (Lp.go (y4,y5,st7))
 | x12::xs,y4,y5,st7=>(dF x12).bind fun (x20,x21)=>if x21=0 then ((oq st7 x20).bind fun st24=>dG xs y4 y5 st24) else (some (Lp.ret ([],x21)))
def hC (a0:List Bat):Option (List UInt8×Int):=(dG a0 [] 0 []).bind fun e=>match e with | .ret r=>some r | .go (y26,y27,st29)=>((va st29).bind fun x30=>some (x30,0))
theorem nC (a0:List Bat) (A1:Option Addr) (c2:Nat) (r:List UInt8×Int) (h:hC a0=some r):au Tryz.prog 157 #[.slice A1 a0.length c2] (RX.of (an 12 fb) [.slice A1 a0.length c2] a0) (aI) (fun v A' N=>v= .tuple #[jS r.1,jI r.2]∧A'=aI∧N = []):=by
 refine aL Tryz.func157 Z Tryz.ntmps157 Z ?_
 intro F w hX
 unfold hC at h
 refine zY Z (Ai aa Z Z (TL.newbld Z .u Tryz.zeroValue292 Z (fun b3=>(zZ (T.seq (zY Z (zX aa 1 Z (z4 Z (AB Z DK) Z (zX aa 1 Z ?_)))))))))
 refine zZ (T.block ?_)
 obtain⟨E8,hE9,hO10⟩:=CL h
 have hk14len:=AL hX
 refine AX (fun m e Rs=> ∃ (y4:List UInt8) (y5:Int) (k6:Nat) (st7:List UInt8),k6+m=a0.length∧e = [(2,jS y4),(3,jI y5),(4,jP b3),(9,.slice A1 a0.length c2),(10,jI (a0.length:Int)),(11,jI (k6:Int))]∧Rs = [mG b3 st7,aI]∧dG (a0.drop k6) y4 y5 st7=some E8) (a0.length) [0,0] ⟨[],0,0,[],by simp,Z,Z,by rw[List.drop_zero]; exact hE9⟩ (by rfl) (by rfl) ?_
 clear hE9 h
 rintro m11 _ _ ⟨y4,y5,k6,st7,hk14,rfl,rfl,h⟩
 cases m11 with
 | zero =>
  rw[List.drop_of_length_le (by omega),dG] at h
  have hk14ge: ¬ ((k6:Int)<(a0.length:Int)):=by omega
  refine zY Z (z8 aa Z (T.seq (Ay Z (CS hk14ge) ?_)))
  obtain rfl:=CN h
  replace h:=hO10
  clear hO10
  try dsimp only at h
  obtain⟨x32,hx33,h⟩:=CL h
  refine T.exit (As (As (AW (X.seq (zY Z (Aq Z .u (.fn Tryz.call197 Z) (t7 b3 st7 _ hx33) sT Z (AD [1] Z (zX aa 2 Z ?_))))))))
  obtain rfl:=CN h
  exact zZ (T.ret (Ax [0] Tryz.results157 (z5 Z) (z5 Z) ⟨Z,Z,Z⟩ (by rfl) (.inl Z)))
 | succ m11 =>
  obtain⟨x12,hxx12⟩: ∃ x,a0[k6]? = some x:=⟨_,List.getElem?_eq_getElem (by omega)⟩
  rw[bF hxx12,dG] at h
  have hk14lt:(k6:Int)<(a0.length:Int):=by omega
  refine zY Z (z8 aa Z (T.seq (Ae Z (CP hk14lt) ?_)))
  obtain⟨gz15,oz15,rfl,z15cs,z15cl,z15cc,z15nf,z15r⟩:=AM (by decide) hX hxx12
  obtain⟨z15S,z15r,z15rr⟩:=z15r
  obtain⟨A16,c17,rfl,z15s0⟩:=z15r
  have hX18:(RX.of (an 7 cn) [.slice A16 x12.B0.length c17] x12.B0).reads w F:=⟨z15S,z15s0,z15rr⟩
  refine Ar (T.seq (T.block (zY Z ?_)))
  refine z4 Z (AN (k:=k6) Z Z Z DK C3 (CZ hxx12).1) Z ?_
  refine z4 Z (Bj (us:=wL6 x12 A16 c17) 0 Z Di C3 z15nf z15cc Z Z Z) Z (TL.alloc Z .u Tryz.zeroValue97 Z (fun b19=>(Ad (cs':=wA5 x12 A16 c17) Z .u Z Z C3 Z Z Z Z (Ab Z (z4 Z (Ag (us:=wL6 x12 A16 c17) 0 Z Di C3 Z Z Z) Z ?_)))))
  obtain⟨⟨x20,x21⟩,hx22,h⟩:=CL h
  try dsimp only at h
  refine An Z .u (.fn Tryz.call39 Z) (ij x12 _ _ _ hx22) (fun _ hs=>(AC hs hX18)) Z (z8 aa Z (T.seq (zY Z (zX aa 2 Z ?_))))
  rcases jF h with⟨c23,h⟩ | ⟨c23,h⟩
  ·refine Au Z c23 (Ar (T.region Z ?_))
   obtain⟨st24,hx25,h⟩:=CL h
   exact zX aa 1 Z (Al Z .u (.fn Tryz.call196 Z) (rB b3 st7 x20 _ hx25) sT Z (TL.nil (Ap (X.seq (T.region Z (z4 Z (Ex.add Z Z (by omega)) Z (zX aa 1 Z (TL.nil (X.back (m':=m11) [1,1] (by omega) ⟨y4,y5,k6+1,st24,by omega,Z,Z,h⟩ (by rfl) (by rfl))))))))))
  refine At Z c23 (zY Z (zX aa 3 Z ?_))
  obtain rfl:=CN h
  obtain rfl:=CN hO10
  exact zZ (T.ret (z7 (Am (z7 (z7 (Am (z7 (Ax [2] Tryz.results157 (z5 Z) (z5 Z) ⟨Z,Z,Z⟩ (by rfl) (.inl Z)))))))))
def cL (a0:Pfx):Nat→Int→Nat→List Rec→I→Option (Lp (Bat×Int) (Int×Nat×List Rec×I))
 | 0,_,_,_,_=>none
 | m23+1,y14,k15,y16,st19=>if (k15:Int)<a0.CD then ((oK st19).bind fun (x28,st29)=>if x28=0 then (some (Lp.ret ((⟨0,0,false,false,false,0,0,0,0,0,0,[]⟩:Bat),10))) else ((dZ st29).bind fun (x32,st35)=>(fa st35).bind fun (x38,st39)=>if x38=0 then (if (y16.length+1)*88≤140737488355328 then (if -9223372036854775808≤((k15:Int)+1)∧((k15:Int)+1)≤9223372036854775807 then (cL a0 m23 y14 (k15+1) (y16 ++ [x32]) st39) else none) else none) else (some (Lp.ret ((⟨0,0,false,false,false,0,0,0,0,0,0,[]⟩:Bat),x38))))) else (some (Lp.go (y14,k15,y16,st19)))
def fB (a0:Pfx) (a1:List UInt8):Option (Bat×Int):=(rE a0.CE).bind fun x3=>if x3=0 then ((t9 a0.CE).bind fun (x7,x8,x9)=>(mw a1).bind fun st11=>(cL a0 ((a0.CD).toNat+1) 0 0 [] st11).bind fun e=>match e with | .ret r=>some r | .go (y53,k54,y55,st58)=>((oK st58).bind fun (x59,st60)=>if x59>0 then (some ((⟨0,0,false,false,false,0,0,0,0,0,0,[]⟩:Bat),10)) else ((cH (⟨a0.Cn,a0.Ch,x7,x8,x9,a0.Cl,a0.B9,a0.Cu,a0.BX,a0.B5,a0.Ca,y55⟩:Bat)).bind fun x63=>some ((⟨a0.Cn,a0.Ch,x7,x8,x9,a0.Cl,a0.B9,a0.Cu,a0.BX,a0.B5,a0.Ca,y55⟩:Bat),x63)))) else (some ((⟨0,0,false,false,false,0,0,0,0,0,0,[]⟩:Bat),x3))
theorem mJ (a0:Pfx) (a1:List UInt8) (r:Bat×Int) (h:fB a0 a1=some r):au Tryz.prog 134 #[.agg (wA1 a0),jS a1] .triv (aI) (fun v A' N=> ∃ (A65:Option Addr) (c66:Nat),v= .tuple #[.agg #[jI r.1.Cn,jI r.1.Ch,.bool r.1.CF,.bool r.1.CI,.bool r.1.Ct,jI r.1.Cl,jI r.1.B9,jI r.1.Cu,jI r.1.BX,jI r.1.B5,jI r.1.Ca,.slice A65 r.1.B0.length c66],jI r.2]∧A'=aI∧N = [RdR (an 7 cn) [.slice A65 r.1.B0.length c66] r.1.B0]):=by
 refine aL Tryz.func134 Z Tryz.ntmps134 Z ?_
 intro F w hX
 unfold fB at h
 refine zY Z (TL.box Z .u Z Z (fun b1=>(TL.alloc Z .u Tryz.zeroValue97 Z (fun b2=>(z8 aa Z (T.seq (zY Z ?_)))))))
 obtain⟨x3,hx4,h⟩:=CL h
 refine z6 aa aq 1 Z 2 Z Z (An Z .u (.fn Tryz.call185 Z) (AJ (fun w=>rF a0.CE _ hx4 w)) (fun _ _=>RX.reads_triv _ _) Z (Ai aa Z Z (zX aa 2 Z ?_)))
 rcases jF h with⟨c5,h⟩ | ⟨c5,h⟩
 ·refine Au Z c5 (Az Z (z6 aa aq 1 Z 16 Z Z ?_))
  refine z4 Z (Ao (cells:= #[jI a0.Cn,jI a0.Ch,.bool false,.bool false,.bool false,jI a0.Cl,jI a0.B9,jI a0.Cu,jI a0.BX,jI a0.B5,jI a0.Ca,.slice none 0 0]) dx Z (by kernel_rfl)) Z ?_
  refine TL.alloc Z .u Tryz.zeroValue97 Z (fun b6=>(Ad (cs':= #[jI a0.Cn,jI a0.Ch,.bool false,.bool false,.bool false,jI a0.Cl,jI a0.B9,jI a0.Cu,jI a0.BX,jI a0.B5,jI a0.Ca,.slice none 0 0]) Z .u Z Z C3 Z Z Z Z (Ab Z ?_)))
  obtain⟨⟨x7,x8,x9⟩,hx10,h⟩:=CL h
  try dsimp only at h
  refine z6 aa aq 2 Z 2 Z Z (An Z .u (.fn Tryz.call186 Z) (AJ (fun w=>sQ a0.CE _ hx10 w)) (fun _ _=>RX.reads_triv _ _) Z (zX aa 5 Z (Ad (cs':= #[jI a0.Cn,jI a0.Ch,.bool x7,.bool false,.bool false,jI a0.Cl,jI a0.B9,jI a0.Cu,jI a0.BX,jI a0.B5,jI a0.Ca,.slice none 0 0]) Z .u Z Z DC Z Z Z Z (zX aa 1 Z (Ad (cs':= #[jI a0.Cn,jI a0.Ch,.bool x7,.bool x8,.bool false,jI a0.Cl,jI a0.B9,jI a0.Cu,jI a0.BX,jI a0.B5,jI a0.Ca,.slice none 0 0]) Z .u Z Z DC Z Z Z Z (zX aa 1 Z (Ad (cs':= #[jI a0.Cn,jI a0.Ch,.bool x7,.bool x8,.bool x9,jI a0.Cl,jI a0.B9,jI a0.Cu,jI a0.BX,jI a0.B5,jI a0.Ca,.slice none 0 0]) Z .u Z Z DC Z Z Z Z ?_)))))))
  refine Ab Z ?_
  obtain⟨st11,hx12,h⟩:=CL h
  refine zX aa 1 Z (AY Z .u (.fn Tryz.call19 Z) (eY a1 _ hx12) rT Z ?_)
  rintro _ _ _ ⟨b13,rfl,rfl,rfl⟩
  refine AD [0,0,0,0,0] Z (z8 aa Z (T.seq (zY Z (BA aa aq 3 Z Z Z (T.block (Bu 91 7 cn ?_))))))
  obtain⟨E20,hE21,hO22⟩:=CL h
  refine AX (fun m e Rs=> ∃ (y14:Int) (k15:Nat) (y16:List Rec) (A17:Option Addr) (c18:Nat) (st19:I),e = [(4,jP b2),(5,jI y14),(7,jP b6),(8,jP b13),(48,jI a0.CD),(49,jI (k15:Int))]∧Rs = [cD 91 7 cn (.slice A17 y16.length c18) y16,InR b13 st19,ay b6 97 #[jI a0.Cn,jI a0.Ch,.bool x7,.bool x8,.bool x9,jI a0.Cl,jI a0.B9,jI a0.Cu,jI a0.BX,jI a0.B5,jI a0.Ca,.slice A17 y16.length c18],ay b2 97 #[jI 0,jI 0,.bool false,.bool false,.bool false,jI 0,jI 0,jI 0,jI 0,jI 0,jI 0,.slice none 0 0],ay b1 159 (wA1 a0),aI]∧cL a0 m y14 k15 y16 st19=some E20) ((a0.CD).toNat+1) [0,0,0,0,0,0] ⟨0,0,[],none,0,st11,Z,Z,by exact hE21⟩ (by rfl) (by rfl) ?_
  clear hE21 h
  rintro m23 _ _ ⟨y14,k15,y16,A17,c18,st19,rfl,rfl,h⟩
  cases m23 with
  | zero =>
   rw[cL] at h
   cases h
  | succ m23 =>
   rw[cL] at h
   refine zY Z (zX aa 1 Z ?_)
   rcases jF h with⟨c27,h⟩ | ⟨c27,h⟩
   ·refine zZ (T.seq (Bb Z c27 (Ar (T.seq (T.block (T.seq (zY Z ?_)))))))
    obtain⟨⟨x28,st29⟩,hx30,h⟩:=CL h
    try dsimp only at h
    refine zX aa 1 Z (Al Z .u (.fn Tryz.call71 Z) (jV b13 st19 _ hx30) sT Z (zX aa 1 Z ?_))
    rcases jF h with⟨c31,h⟩ | ⟨c31,h⟩
    ·refine A4 Z c31 (zY Z ?_)
     refine z4 Z (Ao (cells:= #[jI 0,jI 0,.bool false,.bool false,.bool false,jI 0,jI 0,jI 0,jI 0,jI 0,jI 0,.slice none 0 0]) dx Z (by kernel_rfl)) Z ?_
     refine AO (cs':= #[jI 0,jI 0,.bool false,.bool false,.bool false,jI 0,jI 0,jI 0,jI 0,jI 0,jI 0,.slice none 0 0]) Z .u Z Z C3 Z Z Z Z (zX aa 1 Z ?_)
     obtain rfl:=CN h
     obtain rfl:=CN hO22
     exact zZ (T.ret (z7 (Am (z7 (z7 (Am (z7 (Ak 7 cn (Ax [6,0] Et (AA (us:= #[jI 0,jI 0,.bool false,.bool false,.bool false,jI 0,jI 0,jI 0,jI 0,jI 0,jI 0,.slice none 0 0]) 4 Z Di C3 Z Z) (z5 Z) ⟨_,_,Z,Z,Z⟩ (by rfl) (.inl Z))))))))))
    refine A7 Z c31 (Az Z ?_)
    obtain⟨⟨x32,st35⟩,hx36,h⟩:=CL h
    try dsimp only at h
    refine zX aa 1 Z (BC Z .u (.fn Tryz.call78 Z) (iL b13 st29 _ hx36) sT Z ?_)
    rintro _ _ _ ⟨A33,c34,rfl,rfl,rfl⟩
    refine AD [0,0,0,0,0,0,0] Z (TL.alloc Z .u Tryz.zeroValue91 Z (fun b37=>(Ad (cs':=wA0 x32 A33 c34) Z .u Z Z C2 Z Z Z Z (zZ (T.seq (zY Z ?_))))))
    obtain⟨⟨x38,st39⟩,hx40,h⟩:=CL h
    try dsimp only at h
    refine zX aa 1 Z (Bq Z .u (.fn Tryz.call23 Z) (bu b13 st35 _ hx40) sT Z (Ai aa Z Z (zX aa 2 Z ?_)))
    rcases jF h with⟨c41,h⟩ | ⟨c41,h⟩
    ·refine Au Z c41 (Ar (T.region Z (z6 aa aq 4 Z 2 Z Z (z4 Z (Ag (us:=wL4 x32 A33 c34) 0 Z Dd C2 Z Z Z) Z ?_))))
     refine BI (cells:=wA0 x32 A33 c34) Z .u oY Z (by kernel_rfl) Z (fun b42=> ?_)
     obtain⟨c43,h⟩:=aH h
     refine TL.app2 2 1 Z .u (us:=wL4 x32 A33 c34) (u:=x32) (l:=y16) (E:=cn) Tryz.underlying95 rI Z (by decide) Z Z Z Z Z Z Z (fun w G hG=>⟨_,_,Z,hG.1⟩) (by have hq:=c43; omega) (by have hq:=c43; omega) Z (fun A44 c45=> ?_)
     refine AD [0,0,0,0,0,0,0] Z (zX aa 1 Z (AO (cs':= #[jI a0.Cn,jI a0.Ch,.bool x7,.bool x8,.bool x9,jI a0.Cl,jI a0.B9,jI a0.Cu,jI a0.BX,jI a0.B5,jI a0.Ca,.slice A44 (y16 ++ [x32]).length c45]) Z .u Z Z Tryz.sizeOf95 Z Z Z Z ?_))
     obtain⟨c46,h⟩:=aH h
     exact TL.nil (Ap (X.seq (T.region Z (z4 Z (Ex.add Z Z c46) Z (zX aa 1 Z (TL.nil (X.back (m':=m23) [0,1,1,1,1,1] (by omega) ⟨y14,k15+1,(y16 ++ [x32]),A44,c45,st39,Z,Z,h⟩ (by rfl) (by rfl))))))))
    refine At Z c41 (zY Z ?_)
    refine z4 Z (Ao (cells:= #[jI 0,jI 0,.bool false,.bool false,.bool false,jI 0,jI 0,jI 0,jI 0,jI 0,jI 0,.slice none 0 0]) dx Z (by kernel_rfl)) Z ?_
    refine zX aa 1 Z (TL.st5 (cs':= #[jI 0,jI 0,.bool false,.bool false,.bool false,jI 0,jI 0,jI 0,jI 0,jI 0,jI 0,.slice none 0 0]) Z .u Z Z C3 Z Z Z Z (zX aa 1 Z ?_))
    obtain rfl:=CN h
    obtain rfl:=CN hO22
    exact zZ (T.ret (z7 (Am (z7 (z7 (Am (z7 (Ak 7 cn (Ax [8,0] Et (AA (us:= #[jI 0,jI 0,.bool false,.bool false,.bool false,jI 0,jI 0,jI 0,jI 0,jI 0,jI 0,.slice none 0 0]) 6 Z Di C3 Z Z) (z5 Z) ⟨_,_,Z,Z,Z⟩ (by rfl) (.inl Z))))))))))
   refine zZ (T.seq (Bc Z c27 ?_))
   obtain rfl:=CN h
   replace h:=hO22
   clear hO22
   try dsimp only at h
   refine T.exit (As (As (AW (X.seq (T.seq (zY Z ?_))))))
   obtain⟨⟨x47,st48⟩,hx49,h⟩:=CL h
   try dsimp only at h
   refine zX aa 1 Z (Al Z .u (.fn Tryz.call71 Z) (jV b13 st19 _ hx49) sT Z (zX aa 1 Z ?_))
   rcases jF h with⟨c50,h⟩ | ⟨c50,h⟩
   ·refine A4 Z c50 (zY Z ?_)
    refine z4 Z (Ao (cells:= #[jI 0,jI 0,.bool false,.bool false,.bool false,jI 0,jI 0,jI 0,jI 0,jI 0,jI 0,.slice none 0 0]) dx Z (by kernel_rfl)) Z ?_
    refine AO (cs':= #[jI 0,jI 0,.bool false,.bool false,.bool false,jI 0,jI 0,jI 0,jI 0,jI 0,jI 0,.slice none 0 0]) Z .u Z Z C3 Z Z Z Z (zX aa 1 Z ?_)
    obtain rfl:=CN h
    exact zZ (T.ret (z7 (Ak 7 cn (Ax [6,0] Et (AA (us:= #[jI 0,jI 0,.bool false,.bool false,.bool false,jI 0,jI 0,jI 0,jI 0,jI 0,jI 0,.slice none 0 0]) 4 Z Di C3 Z Z) (z5 Z) ⟨_,_,Z,Z,Z⟩ (by rfl) (.inl Z)))))
   refine A7 Z c50 ?_
   refine Ar (T.seq (AE (.q 0 (.q 1 (.e 2 (.e 3 (.q 4 .nil))))) [0,0,0,1,1] Z jG (NoP.seq bx) (by kernel_rfl) ?_))
   iterate 2 refine Aa Z (Ag (us := [jI a0.Cn,jI a0.Ch,.bool x7,.bool x8,.bool x9,jI a0.Cl,jI a0.B9,jI a0.Cu,jI a0.BX,jI a0.B5,jI a0.Ca,.slice A17 y16.length c18]) 2 Z Di C3 Z Z Z) Z ?_
   obtain⟨x51,hx52,h⟩:=CL h
   refine TD.ce Z .u (.fn Tryz.call81 Z) (fS (⟨a0.Cn,a0.Ch,x7,x8,x9,a0.Cl,a0.B9,a0.Cu,a0.BX,a0.B5,a0.Ca,y16⟩:Bat) _ _ _ hx52) (fun _ hs=>(Bd 0 hs Z (fun w G h=>dB (by decide) w G h))) Z [0,0,0,1,1] (Z) (BR (cs':= #[jI a0.Cn,jI a0.Ch,.bool x7,.bool x8,.bool x9,jI a0.Cl,jI a0.B9,jI a0.Cu,jI a0.BX,jI a0.B5,jI a0.Ca,.slice A17 y16.length c18]) Z .u Z Z C3 Z Z Z Z [0,0,0,1,1] (Z) (TD.run aa [4] Z Z ?_))
   obtain rfl:=CN h
   exact Br (T.ret (X.shut (by decide) 0 Z (AU [0,0,0,0,0,0] Z (Ax [5,0] Et (AA (us:= #[jI a0.Cn,jI a0.Ch,.bool x7,.bool x8,.bool x9,jI a0.Cl,jI a0.B9,jI a0.Cu,jI a0.BX,jI a0.B5,jI a0.Ca,.slice A17 y16.length c18]) 3 Z Di C3 Z Z) (z5 Z) ⟨_,_,Z,Z,Z⟩ (by rfl) (.inl Z)))))
 refine At Z c5 (zY Z ?_)
 refine z4 Z (Ao (cells:= #[jI 0,jI 0,.bool false,.bool false,.bool false,jI 0,jI 0,jI 0,jI 0,jI 0,jI 0,.slice none 0 0]) dx Z (by kernel_rfl)) Z ?_
 refine zX aa 1 Z (Ad (cs':= #[jI 0,jI 0,.bool false,.bool false,.bool false,jI 0,jI 0,jI 0,jI 0,jI 0,jI 0,.slice none 0 0]) Z .u Z Z C3 Z Z Z Z (zX aa 1 Z ?_))
 obtain rfl:=CN h
 exact zZ (T.ret (z7 (Ak 7 cn (Ax [3,0] Et (AA (us:= #[jI 0,jI 0,.bool false,.bool false,.bool false,jI 0,jI 0,jI 0,jI 0,jI 0,jI 0,.slice none 0 0]) 1 Z Di C3 Z Z) (z5 Z) ⟨_,_,Z,Z,Z⟩ (by rfl) (.inl Z)))))
def eK (st:I)  : Option (Bat×I):=(gT st).bind fun (x3,st4)=>if -9223372036854775808≤(x3.Cr - 49)∧(x3.Cr - 49)≤9223372036854775807 then ((sE st4 (x3.Cr - 49)).bind fun (x8,st9)=>(fa st9).bind fun (x11,st12)=>if x11=0 then ((ck ([],0) x3).bind fun st15=>(gF st15).bind fun (x17,x18,st19)=>(iB).bind fun st21=>if 21≤x17.length then ((ei st21 [(x17.drop 21),x8]).bind fun (x26,st27)=>if -9223372036854775808≤x26∧x26≤9223372036854775807 then (if x26=x3.CC then ((fB x3 x8).bind fun (x31,x34)=>if x34=0 then some (x31,st12) else ((bg st12 x34).bind fun st38=>some ((⟨0,0,false,false,false,0,0,0,0,0,0,[]⟩:Bat),st38))) else ((bg st12 5).bind fun st40=>some ((⟨0,0,false,false,false,0,0,0,0,0,0,[]⟩:Bat),st40))) else none) else none) else (some ((⟨0,0,false,false,false,0,0,0,0,0,0,[]⟩:Bat),st12))) else none
theorem gf (g:Nat) (st:I)  (r:Bat×I) (h:eK st  = some r):au Tryz.prog 80 #[jP g] .triv (InR g st) (fun v A' N=> ∃ (A42:Option Addr) (c43:Nat),v= .agg #[jI r.1.Cn,jI r.1.Ch,.bool r.1.CF,.bool r.1.CI,.bool r.1.Ct,jI r.1.Cl,jI r.1.B9,jI r.1.Cu,jI r.1.BX,jI r.1.B5,jI r.1.Ca,.slice A42 r.1.B0.length c43]∧A'=InR g r.2∧N = [RdR (an 7 cn) [.slice A42 r.1.B0.length c43] r.1.B0]):=by
 refine aL Tryz.func80 Z Tryz.ntmps80 Z ?_
 intro F w hX
 unfold eK at h
 refine zY Z (TL.alloc Z .u Tryz.zeroValue97 Z (fun b1=>(Ab Z (Bt Z .u Tryz.zeroValue112 Z (fun b2=>(Ab Z ?_))))))
 obtain⟨⟨x3,st4⟩,hx5,h⟩:=CL h
 try dsimp only at h
 refine zX aa 1 Z (AH Z .u (.fn Tryz.call133 Z) (lX g st _ hx5) sT Z (TL.alloc Z .u Tryz.zeroValue159 Z (fun b6=>(Ad (cs':=wA1 x3) Z .u Z Z DF Z Z Z Z (Ab Z ?_)))))
 obtain⟨c7,h⟩:=aH h
 refine z6 aa aq 0 Z 3 Z Z (z4 Z (Ex.sub Z Z c7) Z ?_)
 obtain⟨⟨x8,st9⟩,hx10,h⟩:=CL h
 try dsimp only at h
 refine Bq Z .u (.fn Tryz.call67 Z) (oL g st4 (x3.Cr - 49) _ hx10) sT Z (z8 aa Z (T.seq (zY Z ?_)))
 obtain⟨⟨x11,st12⟩,hx13,h⟩:=CL h
 try dsimp only at h
 refine zX aa 1 Z (Bq Z .u (.fn Tryz.call23 Z) (bu g st9 _ hx13) sT Z (zX aa 1 Z ?_))
 rcases jF h with⟨c14,h⟩ | ⟨c14,h⟩
 ·refine Au Z c14 (Az Z (z4 Z (Ag (us:=wL7 x3) 0 Z Ed DF Z Z Z) Z ?_))
  obtain⟨st15,hx16,h⟩:=CL h
  refine Al Z .u (.fn Tryz.call83 Z) (fK b2 ([],0) x3 _ hx16) sT Z ?_
  obtain⟨⟨x17,x18,st19⟩,hx20,h⟩:=CL h
  try dsimp only at h
  refine Ab Z (Al Z .u (.fn Tryz.call50 Z) (dR b2 st15 _ hx20) sT Z (zX aa 5 Z ?_))
  obtain⟨st21,hx22,h⟩:=CL h
  obtain⟨c24,h⟩:=aH h
  obtain⟨⟨x26,st27⟩,hx28,h⟩:=CL h
  try dsimp only at h
  obtain⟨c29,h⟩:=aH h
  refine zZ (T.ss ?_)
  refine T.join (fun e Rs=> ∃ (b23:Nat) (b25:Nat),e = [(0,jP g),(2,jP b1),(3,jP b2),(4,jP b6),(5,jS x8),(10,jP g),(11,.agg (wA1 x3)),(12,jP g),(13,.pointer (some ⟨b6,1,none⟩)),(14,jI x3.Cr),(15,jI (x3.Cr - 49)),(16,jS x8),(17,jP g),(18,jI x11),(19,.bool (!(decide (x11=0)))),(21,.agg (wA1 x3)),(23,.tuple #[jS x17,jI x18]),(24,.tuple #[jS x17,jI x18]),(25,jS x17),(26,jI x18),(36,.bool (!(decide (x26=x3.CC))))]∧Rs = [cD 9 1 oR (.slice (some ⟨b25,0,none⟩) 2 2) [(x17.drop 21),x8],iU 238 b23 st27,ay b6 159 (wA1 x3),aP b2 st19,ay b1 97 #[jI 0,jI 0,.bool false,.bool false,.bool false,jI 0,jI 0,jI 0,jI 0,jI 0,jI 0,.slice none 0 0],InR g st12]) ?_ ?_
  ·refine AE (.q 1 (.q 2 (.q 3 (.q 7 (.q 8 (.br 0 (.e 4 (.e 5 (.q 6 (.q 9 .nil)))) (.e 4 (.e 0 (.e 5 (.q 6 (.q 9 .nil))))))))))) [0,0,0,0] Z jG qE (by kernel_rfl) ?_
   refine TD.run aa [1] Z Z ?_
   refine Aa Z (Ex.sSl (p:=21) (q:=x17.length) (m:=(x17.drop 21)) Z Dv (.some Z Z) .none (by first | omega | (dsimp only; omega)) (uY _ _)) Z ?_
   refine TD.run aa [3,7] Z Z (Aa Z (Aj 0 Z C0 Z Z) Z ?_)
   refine TD.br ?_ ?_
   ·refine TD.cge Z .u (.fn Tryz.call84 Z) (gc _ hx22) rT Z [1,1,1,1] ?_ ?_
    ·rintro _ _ _ ⟨b23,rfl,rfl,rfl⟩
     rfl
    rintro _ _ _ ⟨b23,rfl,rfl,rfl⟩
    exact Bh [0,0,0,0,0] Z (Bp (cells:= #[.string (aC (x17.drop 21)),jS x8]) Z .u ge Z (by rfl) Z [2,2,2,2] (fun _=>Z) (fun b25=>(TD.rowOf (us := [.string (aC (x17.drop 21)),jS x8]) (xs := [(x17.drop 21),x8]) (E:=oR) (z:=1) Z (Nat.le_of_ble_eq_true Z) (fun _=>⟨Z,Z,⟨Z,Z,Z⟩⟩) (TD.c1 Z .u (.fn Tryz.call85 Z) (ea b23 st21 [(x17.drop 21),x8] _ _ _ hx28) (fun _ hs=>(BL 0 Z (fun w G h=>dB (by decide) w G h))) Z [2,2,2,2] (Z) (Aa Z (BQ Z DE D1 c29) Z (TD.run aa [9] Z Z (TD.nil (BF [0,0,0,0,0,0] ⟨b23,b25,Z,Z⟩ (by rfl) (by rfl)))))))))
   refine Bp (cells:= #[.string (aC (x17.drop 21)),jS x8]) Z .u ge Z (by rfl) Z [1,1,1,1] (fun _=>Z) (fun b25=>(TD.rowOf (us := [.string (aC (x17.drop 21)),jS x8]) (xs := [(x17.drop 21),x8]) (E:=oR) (z:=1) Z (Nat.le_of_ble_eq_true Z) (fun _=>⟨Z,Z,⟨Z,Z,Z⟩⟩) ?_))
   refine TD.cge Z .u (.fn Tryz.call84 Z) (gc _ hx22) rT Z [2,2,2,2] ?_ ?_
   ·rintro _ _ _ ⟨b23,rfl,rfl,rfl⟩
    rfl
   rintro _ _ _ ⟨b23,rfl,rfl,rfl⟩
   exact Bh [0,0,0,0,0,0] Z (TD.c0 Z .u (.fn Tryz.call85 Z) (ea b23 st21 [(x17.drop 21),x8] _ _ _ hx28) (fun _ hs=>(BL 0 Z (fun w G h=>dB (by decide) w G h))) Z [2,2,2,2] (Z) (Aa Z (BQ Z DE D1 c29) Z (TD.run aa [9] Z Z (TD.nil (BF [1,0,0,0,0,0] ⟨b23,b25,Z,Z⟩ (by rfl) (by rfl))))))
  rintro _ _ ⟨b23,b25,rfl,rfl⟩
  rcases jF h with⟨c30,h⟩ | ⟨c30,h⟩
  ·refine X.seq (T.nn Z c30 (Az Z (z4 Z (Ag (us:=wL7 x3) 2 Z Ed DF Z Z Z) Z ?_)))
   obtain⟨⟨x31,x34⟩,hx35,h⟩:=CL h
   try dsimp only at h
   refine zX aa 1 Z (AY Z .u (.fn Tryz.call134 Z) (mJ x3 x8 _ hx35) rT Z ?_)
   rintro _ _ _ ⟨A32,c33,rfl,rfl,rfl⟩
   refine AD [0,0,0,0,0,0,0] Z (zX aa 3 Z (TL.alloc Z .u Tryz.zeroValue97 Z (fun b36=>(Ad (cs':=wA5 x31 A32 c33) Z .u Z Z C3 Z Z Z Z (z8 aa Z (T.seq (zY Z (zX aa 2 Z ?_))))))))
   rcases jF h with⟨c37,h⟩ | ⟨c37,h⟩
   ·refine Au Z c37 (Az Z (z4 Z (Ag (us:=wL6 x31 A32 c33) 0 Z Di C3 Z Z Z) Z (TL.st6 (cs':=wA5 x31 A32 c33) Z .u Z Z C3 Z Z Z Z ?_)))
    obtain rfl:=CN h
    exact zZ (T.ret (Aw [7,1] EU (AA (us:=wA5 x31 A32 c33) 6 Z Di C3 Z Z) ⟨_,_,Z,Z,Z⟩ (by rfl) (.inl Z)))
   refine At Z c37 (zY Z ?_)
   obtain⟨st38,hx39,h⟩:=CL h
   refine zX aa 2 Z (TL.c7 Z .u (.fn Tryz.call70 Z) (aU g st12 x34 _ hx39) sT Z (Ab Z ?_))
   refine z4 Z (Ao (cells:= #[jI 0,jI 0,.bool false,.bool false,.bool false,jI 0,jI 0,jI 0,jI 0,jI 0,jI 0,.slice none 0 0]) dx Z (by kernel_rfl)) Z ?_
   refine TL.st6 (cs':= #[jI 0,jI 0,.bool false,.bool false,.bool false,jI 0,jI 0,jI 0,jI 0,jI 0,jI 0,.slice none 0 0]) Z .u Z Z C3 Z Z Z Z ?_
   obtain rfl:=CN h
   exact zZ (T.ret (z7 (Ak 7 cn (Aw [8,0] EU (AA (us:= #[jI 0,jI 0,.bool false,.bool false,.bool false,jI 0,jI 0,jI 0,jI 0,jI 0,jI 0,.slice none 0 0]) 7 Z Di C3 Z Z) ⟨_,_,Z,Z,Z⟩ (by rfl) (.inl Z)))))
  refine X.seq (T.yn Z c30 (zY Z ?_))
  obtain⟨st40,hx41,h⟩:=CL h
  refine zX aa 1 Z (BJ Z .u (.fn Tryz.call70 Z) (aU g st12 5 _ hx41) sT Z (Ab Z ?_))
  refine z4 Z (Ao (cells:= #[jI 0,jI 0,.bool false,.bool false,.bool false,jI 0,jI 0,jI 0,jI 0,jI 0,jI 0,.slice none 0 0]) dx Z (by kernel_rfl)) Z ?_
  refine BS (cs':= #[jI 0,jI 0,.bool false,.bool false,.bool false,jI 0,jI 0,jI 0,jI 0,jI 0,jI 0,.slice none 0 0]) Z .u Z Z C3 Z Z Z Z ?_
  obtain rfl:=CN h
  exact zZ (T.ret (z7 (Ak 7 cn (Aw [6,0] EU (AA (us:= #[jI 0,jI 0,.bool false,.bool false,.bool false,jI 0,jI 0,jI 0,jI 0,jI 0,jI 0,.slice none 0 0]) 5 Z Di C3 Z Z) ⟨_,_,Z,Z,Z⟩ (by rfl) (.inl Z)))))
 refine At Z c14 (zY Z ?_)
 refine z4 Z (Ao (cells:= #[jI 0,jI 0,.bool false,.bool false,.bool false,jI 0,jI 0,jI 0,jI 0,jI 0,jI 0,.slice none 0 0]) dx Z (by kernel_rfl)) Z ?_
 refine Bx (cs':= #[jI 0,jI 0,.bool false,.bool false,.bool false,jI 0,jI 0,jI 0,jI 0,jI 0,jI 0,.slice none 0 0]) Z .u Z Z C3 Z Z Z Z ?_
 obtain rfl:=CN h
 exact zZ (T.ret (z7 (Ak 7 cn (Aw [4,0] EU (AA (us:= #[jI 0,jI 0,.bool false,.bool false,.bool false,jI 0,jI 0,jI 0,jI 0,jI 0,jI 0,.slice none 0 0]) 3 Z Di C3 Z Z) ⟨_,_,Z,Z,Z⟩ (by rfl) (.inl Z)))))
def cU (a0:List UInt8):Option (Bat×Int):=(mw a0).bind fun st2=>(eK st2).bind fun (x5,st8)=>(cc st8).bind fun (x11,st12)=>if x11=0 then some (x5,0) else (some ((⟨0,0,false,false,false,0,0,0,0,0,0,[]⟩:Bat),x11))
theorem ik (a0:List UInt8) (r:Bat×Int) (h:cU a0=some r):au Tryz.prog 38 #[jS a0] .triv (aI) (fun v A' N=> ∃ (A15:Option Addr) (c16:Nat),v= .tuple #[.agg #[jI r.1.Cn,jI r.1.Ch,.bool r.1.CF,.bool r.1.CI,.bool r.1.Ct,jI r.1.Cl,jI r.1.B9,jI r.1.Cu,jI r.1.BX,jI r.1.B5,jI r.1.Ca,.slice A15 r.1.B0.length c16],jI r.2]∧A'=aI∧N = [RdR (an 7 cn) [.slice A15 r.1.B0.length c16] r.1.B0]):=by
 refine aL Tryz.func38 Z Tryz.ntmps38 Z ?_
 intro F w hX
 unfold cU at h
 refine zY Z (TL.alloc Z .u Tryz.zeroValue97 Z (fun b1=>(Ai aa Z Z ?_)))
 obtain⟨st2,hx3,h⟩:=CL h
 refine zX aa 1 Z (AY Z .u (.fn Tryz.call19 Z) (eY a0 _ hx3) rT Z ?_)
 rintro _ _ _ ⟨b4,rfl,rfl,rfl⟩
 refine AD [0,0,0] Z (Ai aa Z Z ?_)
 obtain⟨⟨x5,st8⟩,hx9,h⟩:=CL h
 try dsimp only at h
 refine zX aa 1 Z (TL.cg0 Z .u (.fn Tryz.call80 Z) (gf b4 st2 _ hx9) sT Z ?_)
 rintro _ _ _ ⟨A6,c7,rfl,rfl,rfl⟩
 refine AD [0,0,0,0] Z (TL.alloc Z .u Tryz.zeroValue97 Z (fun b10=>(Ad (cs':=wA5 x5 A6 c7) Z .u Z Z C3 Z Z Z Z (zZ (T.seq (zY Z ?_))))))
 obtain⟨⟨x11,st12⟩,hx13,h⟩:=CL h
 try dsimp only at h
 refine zX aa 1 Z (AH Z .u (.fn Tryz.call21 Z) (bw b4 st8 _ hx13) sT Z (Ai aa Z Z (zX aa 2 Z ?_)))
 rcases jF h with⟨c14,h⟩ | ⟨c14,h⟩
 ·refine Au Z c14 (Az Z (z4 Z (Ag (us:=wL6 x5 A6 c7) 0 Z Di C3 Z Z Z) Z (AO (cs':=wA5 x5 A6 c7) Z .u Z Z C3 Z Z Z Z (zX aa 1 Z ?_))))
  obtain rfl:=CN h
  exact zZ (T.ret (Ax [4,1] Tryz.results38 (AA (us:=wA5 x5 A6 c7) 3 Z Di C3 Z Z) (z5 Z) ⟨_,_,Z,Z,Z⟩ (by rfl) (.inl Z)))
 refine At Z c14 (zY Z ?_)
 refine z4 Z (Ao (cells:= #[jI 0,jI 0,.bool false,.bool false,.bool false,jI 0,jI 0,jI 0,jI 0,jI 0,jI 0,.slice none 0 0]) dx Z (by kernel_rfl)) Z ?_
 refine zX aa 1 Z (AO (cs':= #[jI 0,jI 0,.bool false,.bool false,.bool false,jI 0,jI 0,jI 0,jI 0,jI 0,jI 0,.slice none 0 0]) Z .u Z Z C3 Z Z Z Z (zX aa 1 Z ?_))
 obtain rfl:=CN h
 exact zZ (T.ret (z7 (Ak 7 cn (Ax [5,0] Tryz.results38 (AA (us:= #[jI 0,jI 0,.bool false,.bool false,.bool false,jI 0,jI 0,jI 0,jI 0,jI 0,jI 0,.slice none 0 0]) 4 Z Di C3 Z Z) (z5 Z) ⟨_,_,Z,Z,Z⟩ (by rfl) (.inl Z)))))
def xo:fj := [(103,0,0),(103,1,1),(103,2,2),(103,3,3),(103,4,4),(103,5,5),(103,6,6),(171,0,0),(171,1,1)]
theorem ab:(xo).OK Tryz.prog:=⟨FOK.mk Dw rfl CX rfl,FOK.mk Dw rfl CX rfl,FOK.mk Dw rfl CX rfl,FOK.mk Dw rfl CX rfl,FOK.mk Dw rfl Ee rfl,FOK.mk Dw rfl CX rfl,FOK.mk Dw rfl CX rfl,FOK.mk EJ rfl DD rfl,FOK.mk EJ rfl Tryz.sizeOf74 rfl,trivial⟩
def xp:List Nat := [3,9,28,74]
theorem aO:NOK Tryz.prog xp:=⟨C0,DL,Tryz.isAgg28,Tryz.isAgg74,trivial⟩
theorem lc:Tryz.prog.follows .mixedOrders=true:=by kernel_rfl
theorem eZ:BOK Tryz.prog 103 #[.int .i64 0,.int .i64 0,.int .i64 0,.int .i64 0,.slice none 0 0,.int .i64 0,.int .i64 0] [(0,1),(1,1),(2,1),(3,1),(4,1),(5,1),(6,1)]:=BOK.mk Tryz.zeroValue103 Dw (by intro w; simp)
theorem qg:BOK Tryz.prog 171 #[.string ⟨#[]⟩,.slice none 0 0] [(0,1),(1,1)]:=BOK.mk Tryz.zeroValue171 EJ (by intro w; simp)
theorem oZ:SOK Tryz.prog 28 171 1 2 #[.string ⟨#[]⟩,.slice none 0 0]:=SOK.mk DH D4 Tryz.zeroValue171 (by decide) (by kernel_rfl)
theorem iM:SOK Tryz.prog 74 3 1 1 #[.int .i64 0]:=SOK.mk Dt CX Tryz.zeroValue3 (by decide) (by kernel_rfl)
theorem o5:SOK Tryz.prog 78 9 1 1 #[.string ⟨#[]⟩]:=SOK.mk DR DD Tryz.zeroValue9 (by decide) (by kernel_rfl)
theorem kD:(Tryz.prog.info? 3).map (fun i=>(i.zero,i.size,i.bytes))=some (some (.int .i64 0),1,8):=by kernel_rfl
theorem sR:(Tryz.prog.info? 9).map (fun i=>(i.zero,i.size,i.bytes))=some (some (.string ⟨#[]⟩),1,16):=by kernel_rfl
theorem qh:(Tryz.prog.info? 171).map (fun i=>(i.zero,i.size,i.bytes))=some (some (.agg #[.string ⟨#[]⟩,.slice none 0 0]),2,40):=by kernel_rfl
def bK:List Int→(List UInt8×Int)→Option (List UInt8×Int)
 | [],st24=>some st24
 | x29::xs,st24=>(bY st24 x29 4).bind fun st33=>bK xs st33
def bL:List Top→(List UInt8×Int)→Option (List UInt8×Int)
 | [],st6=>some st6
 | x11::xs,st6=>(f7 st6 x11.Ck).bind fun st19=>(bY st19 (x11.B7.length:Int) 4).bind fun st21=>(bK x11.B7 st21).bind fun st36=>bL xs st36
def cV (st:List UInt8×Int) (a1:List Top):Option (List UInt8×Int):=(bY st (a1.length:Int) 4).bind fun st3=>(bL a1 st3).bind fun st38=>some st38
theorem eL (g:Nat) (st:List UInt8×Int) (a1:List Top) (A1:Option Addr) (c2:Nat) (r:List UInt8×Int) (h:cV st a1=some r):au Tryz.prog 91 #[jP g,.slice A1 a1.length c2] (RX.of (an 2 aX) [.slice A1 a1.length c2] a1) (aP g st) (fun v A' N=>v= .tuple #[]∧A'=aP g r∧N = []):=by
 refine aL Tryz.func91 Z Tryz.ntmps91 Z ?_
 intro F w hX
 unfold cV at h
 refine zY Z (zX ab 2 Z (z4 Z (AB Z DH) Z ?_))
 obtain⟨st3,hx4,h⟩:=CL h
 refine Aq Z .u (.fn Tryz.call51 Z) (aF g st (a1.length:Int) 4 _ hx4) sT Z (Ab Z (zX ab 1 Z (z4 Z (AB Z DH) Z (z8 ab Z (T.block ?_)))))
 obtain⟨E7,hE8,hO9⟩:=CL h
 have hk13len:=AL hX
 refine AX (fun m e Rs=> ∃ (k5:Nat) (st6:List UInt8×Int),k5+m=a1.length∧e = [(0,jP g),(12,.slice A1 a1.length c2),(13,jI (a1.length:Int)),(14,jI (k5:Int))]∧Rs = [aP g st6]∧bL (a1.drop k5) st6=some E7) (a1.length) [0] ⟨0,st3,by simp,Z,Z,by rw[List.drop_zero]; exact hE8⟩ (by rfl) (by rfl) ?_
 clear hE8 h
 rintro m10 _ _ ⟨k5,st6,hk13,rfl,rfl,h⟩
 cases m10 with
 | zero =>
  rw[List.drop_of_length_le (by omega),bL] at h
  have hk13ge: ¬ ((k5:Int)<(a1.length:Int)):=by omega
  refine zY Z (z8 ab Z (T.seq (Ay Z (CS hk13ge) ?_)))
  obtain rfl:=CN h
  obtain rfl:=CN hO9
  exact T.exit (As (As (AW (AR [0] Tryz.results91 ⟨Z,Z,Z⟩ (by rfl) (.inr Z)))))
 | succ m10 =>
  obtain⟨x11,hxx11⟩: ∃ x,a1[k5]? = some x:=⟨_,List.getElem?_eq_getElem (by omega)⟩
  rw[bF hxx11,bL] at h
  have hk13lt:(k5:Int)<(a1.length:Int):=by omega
  refine zY Z (z8 ab Z (T.seq (Ae Z (CP hk13lt) ?_)))
  obtain⟨gz14,oz14,rfl,z14cs,z14cl,z14cc,z14nf,z14r⟩:=AM (by decide) hX hxx11
  obtain⟨z14S,z14r,z14rr⟩:=z14r
  obtain⟨A15,c16,rfl,z14s0⟩:=z14r
  have hX17:(RX.of (an 1 nv) [.slice A15 x11.B7.length c16] x11.B7).reads w F:=⟨z14S,z14s0,z14rr⟩
  refine Ar (T.seq (T.block (zY Z ?_)))
  refine z4 Z (AN (k:=k5) Z Z Z DH D4 (CZ hxx11).1) Z ?_
  refine z4 Z (Bj (us := [jS x11.Ck,.slice A15 x11.B7.length c16]) 0 Z Tryz.isAgg171 D4 z14nf z14cc Z Z Z) Z (TL.alloc Z .u Tryz.zeroValue171 Z (fun b18=>(Ad (cs':= #[jS x11.Ck,.slice A15 x11.B7.length c16]) Z .u Z Z D4 Z Z Z Z (Ab Z ?_))))
  obtain⟨st19,hx20,h⟩:=CL h
  refine z6 ab aO 0 Z 3 Z Z (Al Z .u (.fn Tryz.call88 Z) (gS g st6 x11.Ck _ hx20) sT Z (Ab Z (z6 ab aO 0 Z 3 Z Z (z4 Z (AB Z Dt) Z ?_))))
  obtain⟨st21,hx22,h⟩:=CL h
  refine Al Z .u (.fn Tryz.call51 Z) (aF g st19 (x11.B7.length:Int) 4 _ hx22) sT Z (Ab Z (z6 ab aO 0 Z 2 Z Z (z4 Z (AB Z Dt) Z (z8 ab Z (T.block ?_)))))
  obtain⟨E25,hE26,hO27⟩:=CL h
  have hk31len:=AL hX17
  refine AX (fun m e Rs=> ∃ (k23:Nat) (st24:List UInt8×Int),k23+m=x11.B7.length∧e = [(0,jP g),(12,.slice (some ⟨gz14,oz14,none⟩) a1.length c2),(13,jI (a1.length:Int)),(14,jI (k5:Int)),(28,.slice A15 x11.B7.length c16),(29,jI (x11.B7.length:Int)),(30,jI (k23:Int))]∧Rs = [ay b18 171 #[jS x11.Ck,.slice A15 x11.B7.length c16],aP g st24]∧bK (x11.B7.drop k23) st24=some E25) (x11.B7.length) [0,0] ⟨0,st21,by simp,Z,Z,by rw[List.drop_zero]; exact hE26⟩ (by rfl) (by rfl) ?_
  clear hE26 h
  rintro m28 _ _ ⟨k23,st24,hk31,rfl,rfl,h⟩
  cases m28 with
  | zero =>
   rw[List.drop_of_length_le (by omega),bK] at h
   have hk31ge: ¬ ((k23:Int)<(x11.B7.length:Int)):=by omega
   refine zY Z (z8 ab Z (T.seq (Ay Z (CS hk31ge) ?_)))
   obtain rfl:=CN h
   replace h:=hO27
   clear hO27
   try dsimp only at h
   exact T.exit (As (As (AW (Ap (X.seq (T.region Z (z4 Z (Ex.add Z Z (by omega)) Z (zX ab 1 Z (TL.nil (X.back (m':=m10) [1] (by omega) ⟨k5+1,st24,by omega,Z,Z,h⟩ (by rfl) (by rfl)))))))))))
  | succ m28 =>
   obtain⟨x29,hxx29⟩: ∃ x,x11.B7[k23]? = some x:=⟨_,List.getElem?_eq_getElem (by omega)⟩
   rw[bF hxx29,bK] at h
   have hk31lt:(k23:Int)<(x11.B7.length:Int):=by omega
   refine zY Z (z8 ab Z (T.seq (Ae Z (CP hk31lt) ?_)))
   obtain⟨gz32,oz32,rfl,z32cs,z32cl,z32cc,z32nf,z32r⟩:=AM (by decide) hX17 hxx29
   obtain⟨z32S,z32r,z32rr⟩:=z32r
   obtain rfl:z32cs = [jI x29]:=z32r
   refine Ar (T.seq (T.block (zY Z ?_)))
   refine z4 Z (AN (k:=k23) Z Z Z Dt CX (CZ hxx29).1) Z ?_
   refine z4 Z (Ex.o1 0 Z C0 z32nf z32cc Z Z) Z (z8 ab Z (T.region Z ?_))
   obtain⟨st33,hx34,h⟩:=CL h
   exact zX ab 2 Z (Al Z .u (.fn Tryz.call51 Z) (aF g st24 x29 4 _ hx34) sT Z (TL.nil (Ap (X.seq (T.region Z (z4 Z (Ex.add Z Z (by omega)) Z (zX ab 1 Z (TL.nil (X.back (m':=m28) [0,0] (by omega) ⟨k23+1,st33,by omega,Z,Z,h⟩ (by rfl) (by rfl))))))))))
def iv (a0:Int):Option (Bool):=if a0=0 then some true else (if a0≥4 then some true else some false)
theorem mK (a0:Int) (r:Bool) (h:iv a0=some r):au Tryz.prog 145 #[jI a0] .triv (aI) (fun v A' N=>v= .bool r∧A'=aI∧N = []):=by
 refine aL Tryz.func145 Z Tryz.ntmps145 Z ?_
 intro F w hX
 unfold iv at h
 refine zY Z (Ai ab Z Z ?_)
 rcases jF h with⟨c1,h⟩ | ⟨c1,h⟩
 ·refine zX ab 3 Z (z9 5 Z (CP c1) (Ac ab 4 Z ?_))
  obtain rfl:=CN h
  exact zZ (T.ret (Af [0] Tryz.results145 (z5 Z)))
 refine zX ab 3 Z (z9 5 Z (CS c1) (Ac ab 4 Z ?_))
 rcases jF h with⟨c2,h⟩ | ⟨c2,h⟩
 ·obtain rfl:=CN h
  exact zZ (T.ret (Aw [0] Tryz.results145 (z5 (v:= .bool true) (congrArg (fun b=>some (Value.bool b)) (CP c2))) ⟨Z,Z,Z⟩ (by rfl) (.inl Z)))
 obtain rfl:=CN h
 exact zZ (T.ret (Aw [0] Tryz.results145 (z5 (v:= .bool false) (congrArg (fun b=>some (Value.bool b)) (CS c2))) ⟨Z,Z,Z⟩ (by rfl) (.inl Z)))
def bM (a0:List Int):Nat→Bool→Int→Option (Lp Bool (Bool×Int))
 | 0,_,_=>none
 | m8+1,y3,y4=>if y4<(a0.length:Int) then (if -9223372036854775808≤(y4 - 1)∧(y4 - 1)≤9223372036854775807 then (if 0≤(y4 - 1) then ((a0[(y4 - 1).toNat]?).bind fun x15=>if 0≤y4 then ((a0[y4.toNat]?).bind fun x19=>if x15≥x19 then some (Lp.ret false) else (if -9223372036854775808≤(y4+1)∧(y4+1)≤9223372036854775807 then (bM a0 m8 y3 (y4+1)) else none)) else none) else none) else none) else (some (Lp.go (y3,y4)))
def dV (a0:List Int):Option (Bool):=(bM a0 ((((a0.length:Int)) - (1)).toNat+1) false 1).bind fun e=>match e with | .ret r=>some r | .go (y24,y25)=>some true
theorem j1 (a0:List Int) (A1:Option Addr) (c2:Nat) (r:Bool) (h:dV a0=some r):au Tryz.prog 218 #[.slice A1 a0.length c2] (RX.of (an 1 nv) [.slice A1 a0.length c2] a0) (aI) (fun v A' N=>v= .bool r∧A'=aI∧N = []):=by
 refine aL Tryz.func218 Z Tryz.ntmps218 Z ?_
 intro F w hX
 unfold dV at h
 refine zY Z (z8 ab Z (T.seq (zY Z (z8 ab Z (T.block ?_)))))
 obtain⟨E5,hE6,hO7⟩:=CL h
 refine AX (fun m e Rs=> ∃ (y3:Bool) (y4:Int),e = [(0,.slice A1 a0.length c2),(2,.bool y3),(3,jI y4)]∧Rs = [aI]∧bM a0 m y3 y4=some E5) ((((a0.length:Int)) - (1)).toNat+1) [0] ⟨false,1,Z,Z,by exact hE6⟩ (by rfl) (by rfl) ?_
 clear hE6 h
 rintro m8 _ _ ⟨y3,y4,rfl,rfl,h⟩
 cases m8 with
 | zero =>
  rw[bM] at h
  cases h
 | succ m8 =>
  rw[bM] at h
  refine T.seq (zY Z (zX ab 2 Z (z4 Z (AB Z Dt) Z (zX ab 1 Z ?_))))
  rcases jF h with⟨c12,h⟩ | ⟨c12,h⟩
  ·refine A4 Z c12 ?_
   refine Ar (T.seq (T.block (T.seq (AE (.q 0 (.q 1 (.q 2 (.q 3 (.q 4 (.q 5 (.q 6 (.q 7 (.q 8 (.q 9 .nil)))))))))) [0] Z lc (NoP.seq (NoP.blk (NoP.seq (NoP.seq (NoP.blk (NoP.seq bx)))))) (by kernel_rfl) ?_))))
   obtain⟨c13,h⟩:=aH h
   refine TD.run ab [0,1] Z Z (Aa Z (Ex.sub Z Z c13) Z ?_)
   obtain⟨c14,h⟩:=aH h
   obtain⟨x15,hx16,h⟩:=CL h
   obtain⟨gz17,oz17,rfl,z17cs,z17cl,z17cc,z17nf,z17r⟩:=AM (by decide) hX hx16
   obtain⟨z17S,z17r,z17rr⟩:=z17r
   obtain rfl:z17cs = [jI x15]:=z17r
   refine Aa Z (AN (k:=(y4 - 1).toNat) Z Z ((Int.toNat_of_nonneg c14).symm) Dt CX (CZ hx16).1) Z ?_
   refine Aa Z (Ex.o1 0 Z C0 z17nf z17cc Z Z) Z ?_
   obtain⟨c18,h⟩:=aH h
   obtain⟨x19,hx20,h⟩:=CL h
   obtain⟨z21cs,z21cl,z21cc,z21nf,z21r⟩:=RX.elem' (by decide) hX hx20
   obtain⟨z21S,z21r,z21rr⟩:=z21r
   obtain rfl:z21cs = [jI x19]:=z21r
   refine TD.run ab [5,6] Z Z ?_
   refine Aa Z (AN (k:=y4.toNat) Z Z ((Int.toNat_of_nonneg c18).symm) Dt CX (CZ hx20).1) Z ?_
   refine Aa Z (Ex.o1 0 Z C0 z21nf z21cc Z Z) Z (TD.run ab [9] Z Z ?_)
   rcases jF h with⟨c22,h⟩ | ⟨c22,h⟩
   ·refine Br (Bb Z c22 (zY Z (zX ab 1 Z ?_)))
    obtain rfl:=CN h
    obtain rfl:=CN hO7
    exact zZ (T.ret (Am (z7 (z7 (Am (z7 (Af [0] Tryz.results218 (z5 Z))))))))
   refine Br (Bc Z c22 (T.skip (Ap (X.seq (T.region Z ?_)))))
   obtain⟨c23,h⟩:=aH h
   exact zX ab 1 Z (z4 Z (Ex.add Z Z c23) Z (zX ab 1 Z (TL.nil (X.back (m':=m8) [0] (by omega) ⟨y3,(y4+1),Z,Z,h⟩ (by rfl) (by rfl)))))
  refine A7 Z c12 ?_
  obtain rfl:=CN h
  replace h:=hO7
  clear hO7
  try dsimp only at h
  refine T.exit (As (As (AW (X.seq (zY Z (zX ab 1 Z ?_))))))
  obtain rfl:=CN h
  exact zZ (T.ret (Af [0] Tryz.results218 (z5 Z)))
def di:List Int→Bool→Option (Lp Bool Bool)
 | [],y3=>some (Lp.go y3)
 | x9::xs,y3=>if x9<0 then some (Lp.ret false) else ((fF x9 4).bind fun x14=>if x14=true then (di xs y3) else some (Lp.ret false))
def fP (a0:List Int):Option (Bool):=(di a0 false).bind fun e=>match e with | .ret r=>some r | .go y17=>(if (a0.length:Int)>0 then ((dV a0).bind fun x20=>some x20) else some false)
theorem lZ (a0:List Int) (A1:Option Addr) (c2:Nat) (r:Bool) (h:fP a0=some r):au Tryz.prog 189 #[.slice A1 a0.length c2] (RX.of (an 1 nv) [.slice A1 a0.length c2] a0) (aI) (fun v A' N=>v= .bool r∧A'=aI∧N = []):=by
 refine aL Tryz.func189 Z Tryz.ntmps189 Z ?_
 intro F w hX
 unfold fP at h
 refine zY Z (z8 ab Z (T.seq (zY Z (zX ab 1 Z (z4 Z (AB Z Dt) Z (z8 ab Z (T.block ?_)))))))
 obtain⟨E5,hE6,hO7⟩:=CL h
 have hk11len:=AL hX
 refine AX (fun m e Rs=> ∃ (y3:Bool) (k4:Nat),k4+m=a0.length∧e = [(0,.slice A1 a0.length c2),(2,.bool y3),(5,.slice A1 a0.length c2),(6,jI (a0.length:Int)),(7,jI (k4:Int))]∧Rs = [aI]∧di (a0.drop k4) y3=some E5) (a0.length) [0] ⟨false,0,by simp,Z,Z,by rw[List.drop_zero]; exact hE6⟩ (by rfl) (by rfl) ?_
 clear hE6 h
 rintro m8 _ _ ⟨y3,k4,hk11,rfl,rfl,h⟩
 cases m8 with
 | zero =>
  rw[List.drop_of_length_le (by omega),di] at h
  have hk11ge: ¬ ((k4:Int)<(a0.length:Int)):=by omega
  refine zY Z (z8 ab Z (T.seq (Ay Z (CS hk11ge) ?_)))
  obtain rfl:=CN h
  replace h:=hO7
  clear hO7
  try dsimp only at h
  refine T.exit (As (As (AW (X.seq (zY Z (zX ab 1 Z (z4 Z (AB Z Dt) Z ?_)))))))
  rcases jF h with⟨c22,h⟩ | ⟨c22,h⟩
  ·refine zX ab 2 Z (z9 22 Z (CP c22) ?_)
   obtain⟨x23,hx24,h⟩:=CL h
   refine Ac ab 1 Z (An Z (.g Z Z Z) (.fn Tryz.call218 Z) (j1 a0 _ _ _ hx24) (fun _ hs=>(AC hs hX)) Z (Ac ab 2 Z ?_))
   obtain rfl:=CN h
   exact zZ (T.ret (Af [0] EP (z5 Z)))
  refine zX ab 2 Z (z9 22 Z (CS c22) (Ac ab 4 Z ?_))
  obtain rfl:=CN h
  exact zZ (T.ret (Af [0] EP (z5 Z)))
 | succ m8 =>
  obtain⟨x9,hxx9⟩: ∃ x,a0[k4]? = some x:=⟨_,List.getElem?_eq_getElem (by omega)⟩
  rw[bF hxx9,di] at h
  have hk11lt:(k4:Int)<(a0.length:Int):=by omega
  refine zY Z (z8 ab Z (T.seq (Ae Z (CP hk11lt) ?_)))
  obtain⟨gz12,oz12,rfl,z12cs,z12cl,z12cc,z12nf,z12r⟩:=AM (by decide) hX hxx9
  obtain⟨z12S,z12r,z12rr⟩:=z12r
  obtain rfl:z12cs = [jI x9]:=z12r
  refine Ar (T.seq (T.block (zY Z ?_)))
  refine z4 Z (AN (k:=k4) Z Z Z Dt CX (CZ hxx9).1) Z ?_
  refine z4 Z (Ex.o1 0 Z C0 z12nf z12cc Z Z) Z (Ai ab Z Z ?_)
  rcases jF h with⟨c13,h⟩ | ⟨c13,h⟩
  ·refine zX ab 3 Z (z9 13 Z (CP c13) (A9 ab Z (Ae Z Z (zY Z (zX ab 1 Z ?_)))))
   obtain rfl:=CN h
   obtain rfl:=CN hO7
   exact zZ (T.ret (Am (z7 (z7 (Am (z7 (Af [0] EP (z5 Z))))))))
  refine zX ab 3 Z (z9 13 Z (CS c13) ?_)
  obtain⟨x14,hx15,h⟩:=CL h
  refine Ac ab 1 Z (An Z (.g Z Z Z) (.fn Tryz.call101 Z) (AJ (fun w=>cw x9 4 _ hx15 w)) (fun _ _=>RX.reads_triv _ _) Z (Ac ab 2 Z ?_))
  rcases jF h with⟨c16,h⟩ | ⟨c16,h⟩
  ·exact zZ (Ay Z (cv c16) (T.skip (Ap (X.seq (T.region Z (z4 Z (Ex.add Z Z (by omega)) Z (zX ab 1 Z (TL.nil (X.back (m':=m8) [0] (by omega) ⟨y3,k4+1,by omega,Z,Z,h⟩ (by rfl) (by rfl))))))))))
  replace c16:=CU c16
  refine zZ (Ae Z (cE c16) (zY Z (zX ab 1 Z ?_)))
  obtain rfl:=CN h
  obtain rfl:=CN hO7
  exact zZ (T.ret (Am (z7 (z7 (Am (z7 (Af [0] EP (z5 Z))))))))
def bn (a0:List (List UInt8)):Nat→Bool→Int→Option (Lp Bool (Bool×Int))
 | 0,_,_=>none
 | m8+1,y3,y4=>if y4<(a0.length:Int) then (if -9223372036854775808≤(y4 - 1)∧(y4 - 1)≤9223372036854775807 then (if 0≤(y4 - 1) then ((a0[(y4 - 1).toNat]?).bind fun x15=>if 0≤y4 then ((a0[y4.toNat]?).bind fun x19=>if (Op.bytesLess x15 x19)=true then (if -9223372036854775808≤(y4+1)∧(y4+1)≤9223372036854775807 then (bn a0 m8 y3 (y4+1)) else none) else some (Lp.ret false)) else none) else none) else none) else (some (Lp.go (y3,y4)))
def dk (a0:List (List UInt8)):Option (Bool):=(bn a0 ((((a0.length:Int)) - (1)).toNat+1) false 1).bind fun e=>match e with | .ret r=>some r | .go (y24,y25)=>some true
theorem iV (a0:List (List UInt8)) (A1:Option Addr) (c2:Nat) (r:Bool) (h:dk a0=some r):au Tryz.prog 190 #[.slice A1 a0.length c2] (RX.of (an 1 oR) [.slice A1 a0.length c2] a0) (aI) (fun v A' N=>v= .bool r∧A'=aI∧N = []):=by
 refine aL Tryz.func190 Z Tryz.ntmps190 Z ?_
 intro F w hX
 unfold dk at h
 refine zY Z (z8 ab Z (T.seq (zY Z (z8 ab Z (T.block ?_)))))
 obtain⟨E5,hE6,hO7⟩:=CL h
 refine AX (fun m e Rs=> ∃ (y3:Bool) (y4:Int),e = [(0,.slice A1 a0.length c2),(2,.bool y3),(3,jI y4)]∧Rs = [aI]∧bn a0 m y3 y4=some E5) ((((a0.length:Int)) - (1)).toNat+1) [0] ⟨false,1,Z,Z,by exact hE6⟩ (by rfl) (by rfl) ?_
 clear hE6 h
 rintro m8 _ _ ⟨y3,y4,rfl,rfl,h⟩
 cases m8 with
 | zero =>
  rw[bn] at h
  cases h
 | succ m8 =>
  rw[bn] at h
  refine T.seq (zY Z (zX ab 2 Z (z4 Z (AB Z DR) Z (zX ab 1 Z ?_))))
  rcases jF h with⟨c12,h⟩ | ⟨c12,h⟩
  ·refine A4 Z c12 ?_
   refine Ar (T.seq (T.block (T.seq (AE (.q 0 (.q 1 (.q 2 (.q 3 (.q 4 (.q 5 (.q 6 (.q 7 (.q 8 (.q 9 .nil)))))))))) [0] Z lc (NoP.seq (NoP.blk (NoP.seq (NoP.seq (NoP.blk (NoP.seq bx)))))) (by kernel_rfl) ?_))))
   obtain⟨c13,h⟩:=aH h
   refine TD.run ab [0,1] Z Z (Aa Z (Ex.sub Z Z c13) Z ?_)
   obtain⟨c14,h⟩:=aH h
   obtain⟨x15,hx16,h⟩:=CL h
   obtain⟨gz17,oz17,rfl,z17cs,z17cl,z17cc,z17nf,z17r⟩:=AM (by decide) hX hx16
   obtain⟨z17S,z17r,z17rr⟩:=z17r
   obtain rfl:z17cs = [jS x15]:=z17r
   refine Aa Z (AN (k:=(y4 - 1).toNat) Z Z ((Int.toNat_of_nonneg c14).symm) DR DD (CZ hx16).1) Z ?_
   refine Aa Z (Ex.o1 0 Z DL z17nf z17cc Z Z) Z ?_
   obtain⟨c18,h⟩:=aH h
   obtain⟨x19,hx20,h⟩:=CL h
   obtain⟨z21cs,z21cl,z21cc,z21nf,z21r⟩:=RX.elem' (by decide) hX hx20
   obtain⟨z21S,z21r,z21rr⟩:=z21r
   obtain rfl:z21cs = [jS x19]:=z21r
   refine TD.run ab [5,6] Z Z ?_
   refine Aa Z (AN (k:=y4.toNat) Z Z ((Int.toNat_of_nonneg c18).symm) DR DD (CZ hx20).1) Z ?_
   refine Aa Z (Ex.o1 0 Z DL z21nf z21cc Z Z) Z (Aa Z (Ex.sGe Z Z) Z ?_)
   rcases jF h with⟨c22,h⟩ | ⟨c22,h⟩
   ·refine Br (Ay Z (cv c22) (T.skip (Ap (X.seq (T.region Z ?_)))))
    obtain⟨c23,h⟩:=aH h
    exact zX ab 1 Z (z4 Z (Ex.add Z Z c23) Z (zX ab 1 Z (TL.nil (X.back (m':=m8) [0] (by omega) ⟨y3,(y4+1),Z,Z,h⟩ (by rfl) (by rfl)))))
   replace c22:=CU c22
   refine Br (Ae Z (cE c22) (zY Z (zX ab 1 Z ?_)))
   obtain rfl:=CN h
   obtain rfl:=CN hO7
   exact zZ (T.ret (Am (z7 (z7 (Am (z7 (Af [0] Tryz.results190 (z5 Z))))))))
  refine A7 Z c12 ?_
  obtain rfl:=CN h
  replace h:=hO7
  clear hO7
  try dsimp only at h
  refine T.exit (As (As (AW (X.seq (zY Z (zX ab 1 Z ?_))))))
  obtain rfl:=CN h
  exact zZ (T.ret (Af [0] Tryz.results190 (z5 Z)))
def cB:List Top→Bool→List (List UInt8)→Option (Lp Bool (Bool×List (List UInt8)))
 | [],y3,y4=>some (Lp.go (y3,y4))
 | x12::xs,y3,y4=>if x12.Ck = [] then some (Lp.ret false) else (if (x12.Ck.length:Int)>32767 then some (Lp.ret false) else ((fP x12.B7).bind fun x22=>if x22=true then (if (y4.length+1)*16≤140737488355328 then (cB xs y3 (y4 ++ [x12.Ck])) else none) else some (Lp.ret false)))
def dl (a0:List Top):Option (Bool):=(cB a0 false []).bind fun e=>match e with | .ret r=>some r | .go (y29,y30)=>((dk y30).bind fun x34=>some x34)
theorem eb (a0:List Top) (A1:Option Addr) (c2:Nat) (r:Bool) (h:dl a0=some r):au Tryz.prog 146 #[.slice A1 a0.length c2] (RX.of (an 2 aX) [.slice A1 a0.length c2] a0) (aI) (fun v A' N=>v= .bool r∧A'=aI∧N = []):=by
 refine aL Tryz.func146 Z Tryz.ntmps146 Z ?_
 intro F w hX
 unfold dl at h
 refine zY Z (Ai ab Z Z (z8 ab Z (T.seq (zY Z (zX ab 1 Z (z4 Z (AB Z DH) Z (zX ab 1 Z ?_)))))))
 refine zZ (T.block (Bu 9 1 oR ?_))
 obtain⟨E8,hE9,hO10⟩:=CL h
 have hk14len:=AL hX
 refine AX (fun m e Rs=> ∃ (y3:Bool) (y4:List (List UInt8)) (A5:Option Addr) (c6:Nat) (k7:Nat),k7+m=a0.length∧e = [(2,.bool y3),(3,.slice A5 y4.length c6),(6,.slice A1 a0.length c2),(7,jI (a0.length:Int)),(8,jI (k7:Int))]∧Rs = [cD 9 1 oR (.slice A5 y4.length c6) y4,aI]∧cB (a0.drop k7) y3 y4=some E8) (a0.length) [0,0] ⟨false,[],none,0,0,by simp,Z,Z,by rw[List.drop_zero]; exact hE9⟩ (by rfl) (by rfl) ?_
 clear hE9 h
 rintro m11 _ _ ⟨y3,y4,A5,c6,k7,hk14,rfl,rfl,h⟩
 cases m11 with
 | zero =>
  rw[List.drop_of_length_le (by omega),cB] at h
  have hk14ge: ¬ ((k7:Int)<(a0.length:Int)):=by omega
  refine zY Z (z8 ab Z (T.seq (Ay Z (CS hk14ge) ?_)))
  obtain rfl:=CN h
  replace h:=hO10
  clear hO10
  try dsimp only at h
  refine T.exit (As (As (AW (X.seq (zY Z ?_)))))
  obtain⟨x36,hx37,h⟩:=CL h
  refine zX ab 1 Z (An Z .u (.fn Tryz.call190 Z) (iV y4 _ _ _ hx37) (fun _ hs=>(Bd 0 hs Z (fun w G h=>dB (by decide) w G h))) Z (zX ab 1 Z ?_))
  obtain rfl:=CN h
  exact zZ (T.ret (Af [1] EQ (z5 Z)))
 | succ m11 =>
  obtain⟨x12,hxx12⟩: ∃ x,a0[k7]? = some x:=⟨_,List.getElem?_eq_getElem (by omega)⟩
  rw[bF hxx12,cB] at h
  have hk14lt:(k7:Int)<(a0.length:Int):=by omega
  refine zY Z (z8 ab Z (T.seq (Ae Z (CP hk14lt) ?_)))
  obtain⟨gz15,oz15,rfl,z15cs,z15cl,z15cc,z15nf,z15r⟩:=AM (by decide) hX hxx12
  obtain⟨z15S,z15r,z15rr⟩:=z15r
  obtain⟨A16,c17,rfl,z15s0⟩:=z15r
  have hX18:(RX.of (an 1 nv) [.slice A16 x12.B7.length c17] x12.B7).reads w F:=⟨z15S,z15s0,z15rr⟩
  refine Ar (T.seq (T.block (zY Z ?_)))
  refine z4 Z (AN (k:=k7) Z Z Z DH D4 (CZ hxx12).1) Z ?_
  refine z4 Z (Bj (us := [jS x12.Ck,.slice A16 x12.B7.length c17]) 0 Z Tryz.isAgg171 D4 z15nf z15cc Z Z Z) Z (TL.alloc Z .u Tryz.zeroValue171 Z (fun b19=>(Ad (cs':= #[jS x12.Ck,.slice A16 x12.B7.length c17]) Z .u Z Z D4 Z Z Z Z (zZ (T.seq (zY Z (z6 ab aO 0 Z 2 Z Z (z4 Z (Ex.sEq Z (m := []) Z) Z ?_))))))))
  rcases jF h with⟨c20,h⟩ | ⟨c20,h⟩
  ·refine zX ab 1 Z (z9 15 Z (CP c20) (A9 ab Z (Ae Z Z (zY Z (zX ab 1 Z ?_)))))
   obtain rfl:=CN h
   obtain rfl:=CN hO10
   exact zZ (T.ret (z7 (Am (z7 (z7 (Am (z7 (Af [2] EQ (z5 Z)))))))))
  refine zX ab 1 Z (z9 15 Z (CS c20) (z6 ab aO 0 Z 2 Z Z (TL.q Z (.g Z Z Z) (BM Z Dv) Z ?_)))
  rcases jF h with⟨c21,h⟩ | ⟨c21,h⟩
  ·refine Ac ab 3 Z (z9 21 Z (CP c21) (A9 ab Z (Ae Z Z (zY Z (zX ab 1 Z ?_)))))
   obtain rfl:=CN h
   obtain rfl:=CN hO10
   exact zZ (T.ret (z7 (Am (z7 (z7 (Am (z7 (Af [2] EQ (z5 Z)))))))))
  refine Ac ab 3 Z (z9 21 Z (CS c21) ?_)
  obtain⟨x22,hx23,h⟩:=CL h
  refine z6 ab aO 0 Z 2 Z Z (An Z (.g Z Z Z) (.fn Tryz.call189 Z) (lZ x12.B7 _ _ _ hx23) (fun _ hs=>(AC hs hX18)) Z (Ac ab 2 Z ?_))
  rcases jF h with⟨c24,h⟩ | ⟨c24,h⟩
  ·refine zZ (Ay Z (cv c24) (Ar (T.region Z (z6 ab aO 0 Z 3 Z Z (BI (cells:= #[jS x12.Ck]) Z .u o5 Z (by rfl) Z (fun b25=> ?_))))))
   obtain⟨c26,h⟩:=aH h
   refine TL.app1 1 Z .u (us := [jS x12.Ck]) (u:=x12.Ck) (l:=y4) (E:=oR) Tryz.underlying78 sR Z (by decide) Z Z Z Z Z Z (fun _ _=>Z) (by have hq:=c26; omega) (by have hq:=c26; omega) Z (fun A27 c28=> ?_)
   exact AD [0,0,0] Z (zX ab 1 Z (TL.nil (Ap (X.seq (T.region Z (z4 Z (Ex.add Z Z (by omega)) Z (zX ab 1 Z (TL.nil (X.back (m':=m11) [1,1] (by omega) ⟨y3,(y4 ++ [x12.Ck]),A27,c28,k7+1,by omega,Z,Z,h⟩ (by rfl) (by rfl))))))))))
  replace c24:=CU c24
  refine zZ (Ae Z (cE c24) (zY Z (zX ab 1 Z ?_)))
  obtain rfl:=CN h
  obtain rfl:=CN hO10
  exact zZ (T.ret (z7 (Am (z7 (z7 (Am (z7 (Af [2] EQ (z5 Z)))))))))
def dA (a0:Val):Option (Int):=if a0.BX<0 then some 11 else (if a0.B5<0 then some 11 else ((fF a0.B5 2).bind fun x6=>if x6=true then (if a0.B8<0 then some 11 else ((fF a0.B8 4).bind fun x10=>if x10=true then (if a0.CK<0 then some 11 else (if a0.CH<(-1) then some 11 else (if a0.CA<0 then some 12 else (if a0.CA≥7 then some 12 else ((iv a0.CA).bind fun x17=>if x17=true then (if (a0.BZ.length:Int)=0 then (if a0.CA=0 then (if a0.CH=(-1) then ((dl a0.BZ).bind fun x23=>if x23=true then some 0 else some 13) else some 10) else (if a0.CH=(-1) then some 10 else ((dl a0.BZ).bind fun x27=>if x27=true then some 0 else some 13))) else some 10) else (if (a0.BZ.length:Int)=0 then some 10 else (if a0.CA=0 then (if a0.CH=(-1) then ((dl a0.BZ).bind fun x33=>if x33=true then some 0 else some 13) else some 10) else (if a0.CH=(-1) then some 10 else ((dl a0.BZ).bind fun x37=>if x37=true then some 0 else some 13))))))))) else some 11)) else some 11))
theorem eM (a0:Val) (A1:Option Addr) (c2:Nat) (r:Int) (h:dA a0=some r):au Tryz.prog 90 #[.agg (wA8 a0 A1 c2)] (RX.of (an 2 aX) [.slice A1 a0.BZ.length c2] a0.BZ) (aI) (fun v A' N=>v=jI r∧A'=aI∧N = []):=by
 refine aL Tryz.func90 Z Tryz.ntmps90 Z ?_
 intro F w hX
 unfold dA at h
 refine zY Z (TL.box Z .u Z Z (fun b3=>(z8 ab Z (T.seq (T.block (zY Z ?_))))))
 rcases jF h with⟨c4,h⟩ | ⟨c4,h⟩
 ·refine z6 ab aO 0 Z 4 Z Z (z9 7 Z (CP c4) (A9 ab Z (Ae Z Z (zY Z (zX ab 1 Z ?_)))))
  obtain rfl:=CN h
  exact zZ (T.ret (Am (z7 (Af [1] Dh (z5 Z)))))
 refine z6 ab aO 0 Z 4 Z Z (z9 7 Z (CS c4) ?_)
 rcases jF h with⟨c5,h⟩ | ⟨c5,h⟩
 ·refine z6 ab aO 0 Z 5 Z Z (z9 12 Z (CP c5) (A9 ab Z (Ae Z Z (zY Z (zX ab 1 Z ?_)))))
  obtain rfl:=CN h
  exact zZ (T.ret (Am (z7 (Af [1] Dh (z5 Z)))))
 refine z6 ab aO 0 Z 5 Z Z (z9 12 Z (CS c5) ?_)
 obtain⟨x6,hx7,h⟩:=CL h
 refine z6 ab aO 0 Z 2 Z Z (An Z (.g Z Z Z) (.fn Tryz.call101 Z) (AJ (fun w=>cw a0.B5 2 _ hx7 w)) (fun _ _=>RX.reads_triv _ _) Z ?_)
 rcases jF h with⟨c8,h⟩ | ⟨c8,h⟩
 ·refine Ac ab 3 Z (z9 18 Z (cv c8) ?_)
  rcases jF h with⟨c9,h⟩ | ⟨c9,h⟩
  ·refine z6 ab aO 0 Z 5 Z Z (z9 23 Z (CP c9) (A9 ab Z (Ae Z Z (zY Z (zX ab 1 Z ?_)))))
   obtain rfl:=CN h
   exact zZ (T.ret (Am (z7 (Af [1] Dh (z5 Z)))))
  refine z6 ab aO 0 Z 5 Z Z (z9 23 Z (CS c9) ?_)
  obtain⟨x10,hx11,h⟩:=CL h
  refine z6 ab aO 0 Z 2 Z Z (An Z (.g Z Z Z) (.fn Tryz.call101 Z) (AJ (fun w=>cw a0.B8 4 _ hx11 w)) (fun _ _=>RX.reads_triv _ _) Z ?_)
  rcases jF h with⟨c12,h⟩ | ⟨c12,h⟩
  ·refine Ac ab 3 Z (z9 29 Z (cv c12) ?_)
   rcases jF h with⟨c13,h⟩ | ⟨c13,h⟩
   ·refine z6 ab aO 0 Z 5 Z Z (z9 34 Z (CP c13) (A9 ab Z (Ae Z Z (zY Z (zX ab 1 Z ?_)))))
    obtain rfl:=CN h
    exact zZ (T.ret (Am (z7 (Af [1] Dh (z5 Z)))))
   refine z6 ab aO 0 Z 5 Z Z (z9 34 Z (CS c13) (z6 ab aO 0 Z 5 Z Z ?_))
   rcases jF h with⟨c14,h⟩ | ⟨c14,h⟩
   ·refine A4 Z c14 (zY Z (zX ab 1 Z ?_))
    obtain rfl:=CN h
    exact zZ (T.ret (Am (z7 (Af [1] Dh (z5 Z)))))
   refine A7 Z c14 (zY Z ?_)
   rcases jF h with⟨c15,h⟩ | ⟨c15,h⟩
   ·refine z6 ab aO 0 Z 4 Z Z (z9 43 Z (CP c15) (A9 ab Z (Ae Z Z (zY Z (zX ab 1 Z ?_)))))
    obtain rfl:=CN h
    exact zZ (T.ret (Am (z7 (Af [1] Dh (z5 Z)))))
   refine z6 ab aO 0 Z 4 Z Z (z9 43 Z (CS c15) (z6 ab aO 0 Z 5 Z Z ?_))
   rcases jF h with⟨c16,h⟩ | ⟨c16,h⟩
   ·refine A4 Z c16 (zY Z (zX ab 1 Z ?_))
    obtain rfl:=CN h
    exact zZ (T.ret (Am (z7 (Af [1] Dh (z5 Z)))))
   refine A7 Z c16 ?_
   refine T.seq (AE (.q 0 (.q 1 (.q 3 (.q 4 (.q 5 (.q 6 (.e 2 (.q 7 (.q 8 (.q 9 (.q 10 (.q 11 (.q 12 (.q 13 (.q 14 (.q 15 (.q 16 (.q 17 .nil)))))))))))))))))) [0,0] Z lc (NoP.seq (NoP.blk (NoP.seq bx))) (by kernel_rfl) ?_)
   refine TD.run ab [0] Z Z (Aa Z (Aj 0 Z C0 Z Z) Z (TD.run ab [3] Z Z (Aa Z (Aj 0 Z Tryz.isAgg28 Z Z) Z (Aa Z (AB Z DH) Z ?_))))
   obtain⟨x17,hx18,h⟩:=CL h
   refine TD.run ab [6] Z Z (TD.ce Z .u (.fn Tryz.call145 Z) (mK a0.CA _ hx18) rT Z [0,0] (Z) ?_)
   rcases jF h with⟨c19,h⟩ | ⟨c19,h⟩
   ·rcases jF h with⟨c20,h⟩ | ⟨c20,h⟩
    ·refine Aa Z (Bv Z c19 Z (CP c20) Dm) Z (TD.run ab [8] Z Z (TD.q Z (.g Z Z Z) (Bg ab Z) Z (TD.q Z (.g Z Z Z) (Aj 0 Z C0 Z Z) Z ?_)))
     iterate 2 refine TD.q Z (.g Z Z Z) (Bg ab Z) Z ?_
     refine TD.q Z (.g Z Z Z) (Aj 0 Z C0 Z Z) Z (TD.q Z (.g Z Z Z) (Bg ab Z) Z ?_)
     rcases jF h with⟨c21,h⟩ | ⟨c21,h⟩
     ·rcases jF h with⟨c22,h⟩ | ⟨c22,h⟩
      ·refine TD.q Z (.g Z Z Z) (Bv Z (CP c21) Z (CP c22) Dm) Z (Aa Z (Bm Z Z Z) Z (TD.run ab [17] Z Z (Br (Ay Z Z (zY Z ?_)))))
       obtain⟨x23,hx24,h⟩:=CL h
       refine z6 ab aO 0 Z 2 Z Z (An Z .u (.fn Tryz.call146 Z) (eb a0.BZ _ _ _ hx24) (fun _ hs=>(AC hs hX)) Z (zX ab 2 Z ?_))
       rcases jF h with⟨c25,h⟩ | ⟨c25,h⟩
       ·refine zZ (Ay Z (cv c25) (T.skip (Ap (X.seq (zY Z (zX ab 1 Z ?_))))))
        obtain rfl:=CN h
        exact zZ (T.ret (Af [1] Dh (z5 Z)))
       replace c25:=CU c25
       refine zZ (Ae Z (cE c25) (zY Z (zX ab 1 Z ?_)))
       obtain rfl:=CN h
       exact zZ (T.ret (Am (z7 (Af [1] Dh (z5 Z)))))
      refine TD.q Z (.g Z Z Z) (Bv Z (CP c21) Z (CS c22) Dm) Z (Aa Z (Bm Z Z Z) Z (TD.run ab [17] Z Z (Br (Ae Z Z (zY Z (zX ab 1 Z ?_))))))
      obtain rfl:=CN h
      exact zZ (T.ret (Am (z7 (Af [1] Dh (z5 Z)))))
     rcases jF h with⟨c26,h⟩ | ⟨c26,h⟩
     ·refine TD.q Z (.g Z Z Z) (Bv Z (CS c21) Z (CP c26) Dm) Z (Aa Z (Bm Z Z Z) Z (TD.run ab [17] Z Z (Br (Ae Z Z (zY Z (zX ab 1 Z ?_))))))
      obtain rfl:=CN h
      exact zZ (T.ret (Am (z7 (Af [1] Dh (z5 Z)))))
     refine TD.q Z (.g Z Z Z) (Bv Z (CS c21) Z (CS c26) Dm) Z (Aa Z (Bm Z Z Z) Z (TD.run ab [17] Z Z (Br (Ay Z Z (zY Z ?_)))))
     obtain⟨x27,hx28,h⟩:=CL h
     refine z6 ab aO 0 Z 2 Z Z (An Z .u (.fn Tryz.call146 Z) (eb a0.BZ _ _ _ hx28) (fun _ hs=>(AC hs hX)) Z (zX ab 2 Z ?_))
     rcases jF h with⟨c29,h⟩ | ⟨c29,h⟩
     ·refine zZ (Ay Z (cv c29) (T.skip (Ap (X.seq (zY Z (zX ab 1 Z ?_))))))
      obtain rfl:=CN h
      exact zZ (T.ret (Af [1] Dh (z5 Z)))
     replace c29:=CU c29
     refine zZ (Ae Z (cE c29) (zY Z (zX ab 1 Z ?_)))
     obtain rfl:=CN h
     exact zZ (T.ret (Am (z7 (Af [1] Dh (z5 Z)))))
    refine Aa Z (Bv Z c19 Z (CS c20) Dm) Z (TD.run ab [8] Z Z ?_)
    iterate 7 refine Bf Z (.gn Z Z Z) Z ?_
    refine Aa Z (BD Z Z Z) Z (TD.run ab [17] Z Z (Br (Ae Z Z (zY Z (zX ab 1 Z ?_)))))
    obtain rfl:=CN h
    exact zZ (T.ret (Am (z7 (Af [1] Dh (z5 Z)))))
   replace c19:=CU c19
   rcases jF h with⟨c30,h⟩ | ⟨c30,h⟩
   ·refine Aa Z (Bv Z c19 Z (CP c30) Dm) Z (TD.run ab [8] Z Z ?_)
    iterate 7 refine Bf Z (.gn Z Z Z) Z ?_
    refine Aa Z (BD Z Z Z) Z (TD.run ab [17] Z Z (Br (Ae Z Z (zY Z (zX ab 1 Z ?_)))))
    obtain rfl:=CN h
    exact zZ (T.ret (Am (z7 (Af [1] Dh (z5 Z)))))
   refine Aa Z (Bv Z c19 Z (CS c30) Dm) Z (TD.run ab [8] Z Z (TD.q Z (.g Z Z Z) (Bg ab Z) Z (TD.q Z (.g Z Z Z) (Aj 0 Z C0 Z Z) Z ?_)))
   iterate 2 refine TD.q Z (.g Z Z Z) (Bg ab Z) Z ?_
   refine TD.q Z (.g Z Z Z) (Aj 0 Z C0 Z Z) Z (TD.q Z (.g Z Z Z) (Bg ab Z) Z ?_)
   rcases jF h with⟨c31,h⟩ | ⟨c31,h⟩
   ·rcases jF h with⟨c32,h⟩ | ⟨c32,h⟩
    ·refine TD.q Z (.g Z Z Z) (Bv Z (CP c31) Z (CP c32) Dm) Z (Aa Z (Bm Z Z Z) Z (TD.run ab [17] Z Z (Br (Ay Z Z (zY Z ?_)))))
     obtain⟨x33,hx34,h⟩:=CL h
     refine z6 ab aO 0 Z 2 Z Z (An Z .u (.fn Tryz.call146 Z) (eb a0.BZ _ _ _ hx34) (fun _ hs=>(AC hs hX)) Z (zX ab 2 Z ?_))
     rcases jF h with⟨c35,h⟩ | ⟨c35,h⟩
     ·refine zZ (Ay Z (cv c35) (T.skip (Ap (X.seq (zY Z (zX ab 1 Z ?_))))))
      obtain rfl:=CN h
      exact zZ (T.ret (Af [1] Dh (z5 Z)))
     replace c35:=CU c35
     refine zZ (Ae Z (cE c35) (zY Z (zX ab 1 Z ?_)))
     obtain rfl:=CN h
     exact zZ (T.ret (Am (z7 (Af [1] Dh (z5 Z)))))
    refine TD.q Z (.g Z Z Z) (Bv Z (CP c31) Z (CS c32) Dm) Z (Aa Z (Bm Z Z Z) Z (TD.run ab [17] Z Z (Br (Ae Z Z (zY Z (zX ab 1 Z ?_))))))
    obtain rfl:=CN h
    exact zZ (T.ret (Am (z7 (Af [1] Dh (z5 Z)))))
   rcases jF h with⟨c36,h⟩ | ⟨c36,h⟩
   ·refine TD.q Z (.g Z Z Z) (Bv Z (CS c31) Z (CP c36) Dm) Z (Aa Z (Bm Z Z Z) Z (TD.run ab [17] Z Z (Br (Ae Z Z (zY Z (zX ab 1 Z ?_))))))
    obtain rfl:=CN h
    exact zZ (T.ret (Am (z7 (Af [1] Dh (z5 Z)))))
   refine TD.q Z (.g Z Z Z) (Bv Z (CS c31) Z (CS c36) Dm) Z (Aa Z (Bm Z Z Z) Z (TD.run ab [17] Z Z (Br (Ay Z Z (zY Z ?_)))))
   obtain⟨x37,hx38,h⟩:=CL h
   refine z6 ab aO 0 Z 2 Z Z (An Z .u (.fn Tryz.call146 Z) (eb a0.BZ _ _ _ hx38) (fun _ hs=>(AC hs hX)) Z (zX ab 2 Z ?_))
   rcases jF h with⟨c39,h⟩ | ⟨c39,h⟩
   ·refine zZ (Ay Z (cv c39) (T.skip (Ap (X.seq (zY Z (zX ab 1 Z ?_))))))
    obtain rfl:=CN h
    exact zZ (T.ret (Af [1] Dh (z5 Z)))
   replace c39:=CU c39
   refine zZ (Ae Z (cE c39) (zY Z (zX ab 1 Z ?_)))
   obtain rfl:=CN h
   exact zZ (T.ret (Am (z7 (Af [1] Dh (z5 Z)))))
  replace c12:=CU c12
  refine Ac ab 3 Z (z9 29 Z (cE c12) (A9 ab Z (Ae Z Z (zY Z (zX ab 1 Z ?_)))))
  obtain rfl:=CN h
  exact zZ (T.ret (Am (z7 (Af [1] Dh (z5 Z)))))
 replace c8:=CU c8
 refine Ac ab 3 Z (z9 18 Z (cE c8) (A9 ab Z (Ae Z Z (zY Z (zX ab 1 Z ?_)))))
 obtain rfl:=CN h
 exact zZ (T.ret (Am (z7 (Af [1] Dh (z5 Z)))))
def bI (x24:Int):Nat→Nat→List Int→I→Option (Nat×List Int×I)
 | 0,_,_,_=>none
 | m35+1,k27,y28,st31=>if (k27:Int)<x24 then ((bW st31 4).bind fun (x40,st41)=>if (y28.length+1)*8≤140737488355328 then (if -9223372036854775808≤((k27:Int)+1)∧((k27:Int)+1)≤9223372036854775807 then (bI x24 m35 (k27+1) (y28 ++ [x40]) st41) else none) else none) else some (k27,y28,st31)
def bj (x1:Int):Nat→List Top→List Top→Nat→I→Option (Lp (List Top×I) (List Top×List Top×Nat×I))
 | 0,_,_,_,_=>none
 | m15+1,y4,y7,k10,st11=>if (k10:Int)<x1 then ((lK st11).bind fun (x20,st21)=>(fI st21 4 4).bind fun (x24,st25)=>(bI x24 ((x24).toNat+1) 0 [] st25).bind fun (k57,y58,st61)=>if (y7.length+1)*40≤140737488355328 then ((fa st61).bind fun (x66,st67)=>if x66=0 then (if -9223372036854775808≤((k10:Int)+1)∧((k10:Int)+1)≤9223372036854775807 then (bj x1 m15 y4 (y7 ++ [(⟨x20,y58⟩:Top)]) (k10+1) st67) else none) else (some (Lp.ret ([],st67)))) else none) else (some (Lp.go (y4,y7,k10,st11)))
def bV (st:I)  : Option (List Top×I):=(fI st 4 6).bind fun (x1,st2)=>(bj x1 ((x1).toNat+1) [] [] 0 st2).bind fun e=>match e with | .ret r=>some r | .go (y71,y74,k77,st78)=>some (y74,st78)
theorem ec (g:Nat) (st:I)  (r:List Top×I) (h:bV st  = some r):au Tryz.prog 89 #[jP g] .triv (InR g st) (fun v A' N=> ∃ (A79:Option Addr) (c80:Nat),v= .slice A79 r.1.length c80∧A'=InR g r.2∧N = [RdR (an 2 aX) [.slice A79 r.1.length c80] r.1]):=by
 refine aL Tryz.func89 Z Tryz.ntmps89 Z ?_
 intro F w hX
 unfold bV at h
 refine zY Z (Ai ab Z Z (z8 ab Z (T.seq (zY Z ?_))))
 obtain⟨⟨x1,st2⟩,hx3,h⟩:=CL h
 try dsimp only at h
 refine zX ab 1 Z (Aq Z .u (.fn Tryz.call144 Z) (gZ g st 4 6 _ hx3) sT Z (z8 ab Z (T.block ?_)))
 iterate 2 refine Bu 171 2 aX ?_
 obtain⟨E12,hE13,hO14⟩:=CL h
 refine AX (fun m e Rs=> ∃ (y4:List Top) (A5:Option Addr) (c6:Nat) (y7:List Top) (A8:Option Addr) (c9:Nat) (k10:Nat) (st11:I),e = [(0,jP g),(2,.slice A5 y4.length c6),(3,.slice A8 y7.length c9),(6,jI x1),(7,jI (k10:Int))]∧Rs = [cD 171 2 aX (.slice A5 y4.length c6) y4,cD 171 2 aX (.slice A8 y7.length c9) y7,InR g st11]∧bj x1 m y4 y7 k10 st11=some E12) ((x1).toNat+1) [0,0,0] ⟨[],none,0,[],none,0,0,st2,Z,Z,by exact hE13⟩ (by rfl) (by rfl) ?_
 clear hE13 h
 rintro m15 _ _ ⟨y4,A5,c6,y7,A8,c9,k10,st11,rfl,rfl,h⟩
 cases m15 with
 | zero =>
  rw[bj] at h
  cases h
 | succ m15 =>
  rw[bj] at h
  refine zY Z (zX ab 1 Z ?_)
  rcases jF h with⟨c19,h⟩ | ⟨c19,h⟩
  ·refine zZ (T.seq (Bb Z c19 (Ar (T.seq (T.block (zY Z ?_))))))
   obtain⟨⟨x20,st21⟩,hx22,h⟩:=CL h
   try dsimp only at h
   refine zX ab 1 Z (AH Z .u (.fn Tryz.call86 Z) (jX g st11 _ hx22) sT Z ?_)
   refine z4 Z (Ao (cells:= #[jS x20,.slice none 0 0]) qg Z (by kernel_rfl)) Z ?_
   refine TL.alloc Z .u Tryz.zeroValue171 Z (fun b23=>(Ad (cs':= #[jS x20,.slice none 0 0]) Z .u Z Z D4 Z Z Z Z (zZ (T.seq (zY Z ?_)))))
   obtain⟨⟨x24,st25⟩,hx26,h⟩:=CL h
   try dsimp only at h
   refine zX ab 1 Z (Bq Z .u (.fn Tryz.call144 Z) (gZ g st21 4 4 _ hx26) sT Z (z8 ab Z (T.block (Bu 3 1 nv ?_))))
   obtain⟨E32,hE33,hO34⟩:=CL h
   refine AX (fun m e Rs=> ∃ (k27:Nat) (y28:List Int) (A29:Option Addr) (c30:Nat) (st31:I),e = [(0,jP g),(2,.slice A5 y4.length c6),(3,.slice A8 y7.length c9),(4,jP b23),(6,jI x1),(7,jI (k10:Int)),(13,jI x24),(14,jI (k27:Int))]∧Rs = [cD 3 1 nv (.slice A29 y28.length c30) y28,ay b23 171 #[jS x20,.slice A29 y28.length c30],cD 171 2 aX (.slice A5 y4.length c6) y4,cD 171 2 aX (.slice A8 y7.length c9) y7,InR g st31]∧bI x24 m k27 y28 st31=some E32) ((x24).toNat+1) [0,0,0,0,0] ⟨0,[],none,0,st25,Z,Z,by exact hE33⟩ (by rfl) (by rfl) ?_
   clear hE33 h
   rintro m35 _ _ ⟨k27,y28,A29,c30,st31,rfl,rfl,h⟩
   cases m35 with
   | zero =>
    rw[bI] at h
    cases h
   | succ m35 =>
    rw[bI] at h
    refine zY Z (zX ab 1 Z ?_)
    rcases jF h with⟨c39,h⟩ | ⟨c39,h⟩
    ·refine zZ (T.seq (Bb Z c39 ?_))
     obtain⟨⟨x40,st41⟩,hx42,h⟩:=CL h
     try dsimp only at h
     obtain⟨c44,h⟩:=aH h
     refine Ar (T.seq (T.block ?_))
     refine T.join (fun e Rs=> ∃ (b43:Nat) (A45:Option Addr) (c46:Nat),e = [(0,jP g),(2,.slice A5 y4.length c6),(3,.slice A8 y7.length c9),(4,jP b23),(6,jI x1),(7,jI (k10:Int)),(13,jI x24),(14,jI (k27:Int))]∧Rs = [cD 3 1 nv (.slice A45 (y28 ++ [x40]).length c46) (y28 ++ [x40]),ay b23 171 #[jS x20,.slice A45 (y28 ++ [x40]).length c46],cD 171 2 aX (.slice A5 y4.length c6) y4,cD 171 2 aX (.slice A8 y7.length c9) y7,InR g st41]) ?_ ?_
     ·refine AE (.q 0 (.q 2 (.br 1 (.e 3 (.e 4 (.e 5 (.q 6 (.e 7 .nil))))) (.e 3 (.br 1 (.e 4 (.e 5 (.q 6 (.e 7 .nil)))) (.e 4 (.e 1 (.e 5 (.q 6 (.e 7 .nil)))))))))) [2,2] Z lc qE (by kernel_rfl) ?_
      refine TD.run ab [0,2] Z Z ?_
      refine TD.br ?_ ?_
      ·refine TD.ny Z .u (Aj 1 Z Tryz.isAgg74 Z Z) Z [2,2] Z (TD.c4 Z .u (.fn Tryz.call68 Z) (aE g st31 4 _ hx42) sT Z [2,2] (Z) (Bp (cells:= #[jI x40]) Z .u iM Z (by rfl) Z [3,3] (fun _=>Z) (fun b43=> ?_)))
       refine TD.app1 0 Z .u (us := [jI x40]) (u:=x40) (l:=y28) (E:=nv) Tryz.underlying74 kD Z (by decide) Z Z Z Z Z Z (fun _ _=>Z) (by have hq:=c44; omega) (by have hq:=c44; omega) Z [2,2] (fun _ _=>Z) (fun A45 c46=> ?_)
       exact Bh [0,0,0,0,0] Z (TD.run ab [6] Z Z (TD.st1 (cs':= #[jS x20,.slice A45 (y28 ++ [x40]).length c46]) Z .u Z Z Tryz.sizeOf74 Z Z Z Z [2,2] (Z) (TD.nil (BF [0,0,0,0,0] ⟨b43,A45,c46,Z,Z⟩ (by rfl) (by rfl)))))
      refine TD.c4 Z .u (.fn Tryz.call68 Z) (aE g st31 4 _ hx42) sT Z [2,2] (Z) ?_
      refine TD.br ?_ ?_
      ·refine TD.ny Z .u (Aj 1 Z Tryz.isAgg74 Z Z) Z [2,2] Z (Bp (cells:= #[jI x40]) Z .u iM Z (by rfl) Z [3,3] (fun _=>Z) (fun b43=> ?_))
       refine TD.app1 0 Z .u (us := [jI x40]) (u:=x40) (l:=y28) (E:=nv) Tryz.underlying74 kD Z (by decide) Z Z Z Z Z Z (fun _ _=>Z) (by have hq:=c44; omega) (by have hq:=c44; omega) Z [2,2] (fun _ _=>Z) (fun A45 c46=> ?_)
       exact Bh [0,0,0,0,0] Z (TD.run ab [6] Z Z (TD.st1 (cs':= #[jS x20,.slice A45 (y28 ++ [x40]).length c46]) Z .u Z Z Tryz.sizeOf74 Z Z Z Z [2,2] (Z) (TD.nil (BF [0,0,0,0,0] ⟨b43,A45,c46,Z,Z⟩ (by rfl) (by rfl)))))
      refine Bp (cells:= #[jI x40]) Z .u iM Z (by rfl) Z [3,3] (fun _=>Z) (fun b43=>(TD.ny Z .u (Aj 2 Z Tryz.isAgg74 Z Z) Z [3,3] Z ?_))
      refine TD.app1 0 Z .u (us := [jI x40]) (u:=x40) (l:=y28) (E:=nv) Tryz.underlying74 kD Z (by decide) Z Z Z Z Z Z (fun _ _=>Z) (by have hq:=c44; omega) (by have hq:=c44; omega) Z [2,2] (fun _ _=>Z) (fun A45 c46=> ?_)
      exact Bh [0,0,0,0,0] Z (TD.run ab [6] Z Z (TD.st1 (cs':= #[jS x20,.slice A45 (y28 ++ [x40]).length c46]) Z .u Z Z Tryz.sizeOf74 Z Z Z Z [2,2] (Z) (TD.nil (BF [0,0,0,0,0] ⟨b43,A45,c46,Z,Z⟩ (by rfl) (by rfl)))))
     rintro _ _ ⟨b43,A45,c46,rfl,rfl⟩
     obtain⟨c47,h⟩:=aH h
     exact Ap (X.seq (T.region Z (z4 Z (Ex.add Z Z c47) Z (zX ab 1 Z (TL.nil (X.back (m':=m35) [0,0,0,0,0] (by omega) ⟨k27+1,(y28 ++ [x40]),A45,c46,st41,Z,Z,h⟩ (by rfl) (by rfl)))))))
    refine zZ (T.seq (Bc Z c39 ?_))
    obtain rfl:=CN h
    replace h:=hO34
    clear hO34
    try dsimp only at h
    refine T.exit (As (As (AW (X.seq (zY Z (zX ab 1 Z (z4 Z (Ag (us := [jS x20,.slice A29 y28.length c30]) 1 Z Tryz.isAgg171 D4 Z Z Z) Z (BI (cells:= #[jS x20,.slice A29 y28.length c30]) Z .u oZ Z (by rfl) Z (fun b48=> ?_)))))))))
    obtain⟨c49,h⟩:=aH h
    refine TL.app2 3 0 Z .u (us := [jS x20,.slice A29 y28.length c30]) (u:=(⟨x20,y28⟩:Top)) (l:=y7) (E:=aX) Tryz.underlying28 qh Z (by decide) Z Z Z Z Z Z Z (fun w G hG=>⟨_,_,Z,dB (by decide) _ _ hG⟩) (by have hq:=c49; omega) (by have hq:=c49; omega) Z (fun A50 c51=> ?_)
    refine AD [0,0,0,0] Z (Ai ab Z Z ?_)
    obtain⟨⟨x52,st53⟩,hx54,h⟩:=CL h
    try dsimp only at h
    refine zX ab 1 Z (Bq Z .u (.fn Tryz.call23 Z) (bu g st31 _ hx54) sT Z (zX ab 1 Z ?_))
    rcases jF h with⟨c55,h⟩ | ⟨c55,h⟩
    ·refine Au Z c55 ?_
     obtain⟨c56,h⟩:=aH h
     exact T.skip (Ap (X.seq (T.region Z (z4 Z (Ex.add Z Z c56) Z (zX ab 1 Z (TL.nil (X.back (m':=m15) [2,0,1] (by omega) ⟨y4,A5,c6,(y7 ++ [(⟨x20,y28⟩:Top)]),A50,c51,k10+1,st53,Z,Z,h⟩ (by rfl) (by rfl))))))))
    refine At Z c55 (zY Z (zX ab 1 Z ?_))
    obtain rfl:=CN h
    obtain rfl:=CN hO14
    exact zZ (T.ret (Am (z7 (z7 (Am (z7 (Ak 2 aX (Aw [4,0] Tryz.results89 (z5 Z) ⟨_,_,Z,Z,Z⟩ (by rfl) (.inl Z)))))))))
  refine zZ (T.seq (Bc Z c19 ?_))
  obtain rfl:=CN h
  replace h:=hO14
  clear hO14
  try dsimp only at h
  refine T.exit (As (As (AW (X.seq (zY Z (zX ab 2 Z ?_))))))
  obtain rfl:=CN h
  exact zZ (T.ret (X.shut (by decide) 1 Z (AU [0,0,0] Z (Aw [2,1] Tryz.results89 (z5 Z) ⟨_,_,Z,Z,Z⟩ (by rfl) (.inl Z)))))
def dm (a0:List UInt8):Option (Val×Int):=(mw a0).bind fun st2=>(bW st2 2).bind fun (x5,st6)=>if x5=0 then ((bW st6 8).bind fun (x9,st10)=>(bW st10 2).bind fun (x12,st13)=>(bW st13 4).bind fun (x15,st16)=>(bW st16 1).bind fun (x18,st19)=>(bV st19).bind fun (x22,st25)=>(bW st25 8).bind fun (x27,st28)=>(bW st28 8).bind fun (x30,st31)=>(cc st31).bind fun (x33,st34)=>if x33=0 then ((dA (⟨x9,x12,x15,x18,x22,x27,x30⟩:Val)).bind fun x37=>if x37=0 then (some ((⟨x9,x12,x15,x18,x22,x27,x30⟩:Val),0)) else (some ((⟨0,0,0,0,[],0,0⟩:Val),x37))) else (some ((⟨0,0,0,0,[],0,0⟩:Val),x33))) else ((bg st6 7).bind fun st40=>(bW st40 8).bind fun (x42,st43)=>(bW st43 2).bind fun (x45,st46)=>(bW st46 4).bind fun (x48,st49)=>(bW st49 1).bind fun (x51,st52)=>(bV st52).bind fun (x55,st58)=>(bW st58 8).bind fun (x60,st61)=>(bW st61 8).bind fun (x63,st64)=>(cc st64).bind fun (x66,st67)=>if x66=0 then ((dA (⟨x42,x45,x48,x51,x55,x60,x63⟩:Val)).bind fun x70=>if x70=0 then (some ((⟨x42,x45,x48,x51,x55,x60,x63⟩:Val),0)) else (some ((⟨0,0,0,0,[],0,0⟩:Val),x70))) else (some ((⟨0,0,0,0,[],0,0⟩:Val),x66)))
theorem il (a0:List UInt8) (r:Val×Int) (h:dm a0=some r):au Tryz.prog 42 #[jS a0] .triv (aI) (fun v A' N=> ∃ (A73:Option Addr) (c74:Nat),v= .tuple #[.agg #[jI r.1.BX,jI r.1.B5,jI r.1.B8,jI r.1.CA,.slice A73 r.1.BZ.length c74,jI r.1.CK,jI r.1.CH],jI r.2]∧A'=aI∧N = [RdR (an 2 aX) [.slice A73 r.1.BZ.length c74] r.1.BZ]):=by
 refine aL Tryz.func42 Z Tryz.ntmps42 Z ?_
 intro F w hX
 unfold dm at h
 refine zY Z (TL.alloc Z .u Tryz.zeroValue103 Z (fun b1=>(Ai ab Z Z ?_)))
 obtain⟨st2,hx3,h⟩:=CL h
 refine zX ab 1 Z (AY Z .u (.fn Tryz.call19 Z) (eY a0 _ hx3) rT Z ?_)
 rintro _ _ _ ⟨b4,rfl,rfl,rfl⟩
 refine AD [0,0,0] Z (z8 ab Z (T.seq (zY Z ?_)))
 obtain⟨⟨x5,st6⟩,hx7,h⟩:=CL h
 try dsimp only at h
 refine zX ab 1 Z (Aq Z .u (.fn Tryz.call68 Z) (aE b4 st2 2 _ hx7) sT Z (zX ab 1 Z ?_))
 rcases jF h with⟨c8,h⟩ | ⟨c8,h⟩
 ·refine Au Z c8 (Az Z ?_)
  obtain⟨⟨x9,st10⟩,hx11,h⟩:=CL h
  try dsimp only at h
  refine zX ab 1 Z (Aq Z .u (.fn Tryz.call68 Z) (aE b4 st6 8 _ hx11) sT Z ?_)
  obtain⟨⟨x12,st13⟩,hx14,h⟩:=CL h
  try dsimp only at h
  refine zX ab 1 Z (Aq Z .u (.fn Tryz.call68 Z) (aE b4 st10 2 _ hx14) sT Z ?_)
  obtain⟨⟨x15,st16⟩,hx17,h⟩:=CL h
  try dsimp only at h
  refine zX ab 1 Z (Aq Z .u (.fn Tryz.call68 Z) (aE b4 st13 4 _ hx17) sT Z ?_)
  obtain⟨⟨x18,st19⟩,hx20,h⟩:=CL h
  try dsimp only at h
  refine zX ab 1 Z (Aq Z .u (.fn Tryz.call68 Z) (aE b4 st16 1 _ hx20) sT Z ?_)
  refine z4 Z (Ao (cells:=vA6 x9 x12 x15 x18) eZ Z (by kernel_rfl)) Z ?_
  refine TL.alloc Z .u Tryz.zeroValue103 Z (fun b21=>(Ad (cs':=vA6 x9 x12 x15 x18) Z .u Z Z Dg Z Z Z Z (Ab Z ?_)))
  obtain⟨⟨x22,st25⟩,hx26,h⟩:=CL h
  try dsimp only at h
  refine zX ab 1 Z (BC Z .u (.fn Tryz.call89 Z) (ec b4 st19 _ hx26) sT Z ?_)
  rintro _ _ _ ⟨A23,c24,rfl,rfl,rfl⟩
  refine AD [0,0,0,0,0] Z (zX ab 1 Z (AP (cs':= #[jI x9,jI x12,jI x15,jI x18,.slice A23 x22.length c24,jI 0,jI 0]) Z .u Z Z Ee Z Z Z Z (Ab Z ?_)))
  obtain⟨⟨x27,st28⟩,hx29,h⟩:=CL h
  try dsimp only at h
  refine zX ab 1 Z (AH Z .u (.fn Tryz.call68 Z) (aE b4 st25 8 _ hx29) sT Z (zX ab 1 Z (AP (cs':= #[jI x9,jI x12,jI x15,jI x18,.slice A23 x22.length c24,jI x27,jI 0]) Z .u Z Z CX Z Z Z Z (Ab Z ?_))))
  obtain⟨⟨x30,st31⟩,hx32,h⟩:=CL h
  try dsimp only at h
  refine zX ab 1 Z (AH Z .u (.fn Tryz.call68 Z) (aE b4 st28 8 _ hx32) sT Z (zX ab 1 Z (AP (cs':=vA7 x9 x12 x15 x18 A23 c24 (x22).length x27 x30) Z .u Z Z CX Z Z Z Z (Ab Z ?_))))
  obtain⟨⟨x33,st34⟩,hx35,h⟩:=CL h
  try dsimp only at h
  refine zX ab 1 Z (AH Z .u (.fn Tryz.call21 Z) (bw b4 st31 _ hx35) sT Z (z8 ab Z (T.seq (zY Z (zX ab 2 Z ?_)))))
  rcases jF h with⟨c36,h⟩ | ⟨c36,h⟩
  ·refine A4 Z c36 (T.region Z (z4 Z (Ag (us := [jI x9,jI x12,jI x15,jI x18,.slice A23 x22.length c24,jI x27,jI x30]) 1 Z DA Dg Z Z Z) Z ?_))
   obtain⟨x37,hx38,h⟩:=CL h
   refine An Z .u (.fn Tryz.call90 Z) (eM (⟨x9,x12,x15,x18,x22,x27,x30⟩:Val) _ _ _ hx38) (fun _ hs=>(Bd 0 hs Z (fun w G h=>ga w G h))) Z (z8 ab Z (T.seq (zY Z (zX ab 2 Z ?_))))
   rcases jF h with⟨c39,h⟩ | ⟨c39,h⟩
   ·refine Au Z c39 (Az Z (z4 Z (Ag (us := [jI x9,jI x12,jI x15,jI x18,.slice A23 x22.length c24,jI x27,jI x30]) 1 Z DA Dg Z Z Z) Z (AO (cs':=vA7 x9 x12 x15 x18 A23 c24 (x22).length x27 x30) Z .u Z Z Dg Z Z Z Z (zX ab 1 Z ?_))))
    obtain rfl:=CN h
    exact zZ (T.ret (Ax [4,0] En (AA (us:=vA7 x9 x12 x15 x18 A23 c24 (x22).length x27 x30) 3 Z DA Dg Z Z) (z5 Z) ⟨_,_,Z,Z,Z⟩ (by rfl) (.inl Z)))
   refine At Z c39 (zY Z ?_)
   refine z4 Z (Ao (cells:= #[jI 0,jI 0,jI 0,jI 0,.slice none 0 0,jI 0,jI 0]) eZ Z (by kernel_rfl)) Z ?_
   refine zX ab 1 Z (AO (cs':= #[jI 0,jI 0,jI 0,jI 0,.slice none 0 0,jI 0,jI 0]) Z .u Z Z Dg Z Z Z Z (zX ab 1 Z ?_))
   obtain rfl:=CN h
   exact zZ (T.ret (z7 (Ak 2 aX (Ax [5,0] En (AA (us:= #[jI 0,jI 0,jI 0,jI 0,.slice none 0 0,jI 0,jI 0]) 4 Z DA Dg Z Z) (z5 Z) ⟨_,_,Z,Z,Z⟩ (by rfl) (.inl Z)))))
  refine A7 Z c36 (Ar (T.seq (zY Z (z8 ab Z (T.yn Z c36 (zY Z ?_))))))
  refine z4 Z (Ao (cells:= #[jI 0,jI 0,jI 0,jI 0,.slice none 0 0,jI 0,jI 0]) eZ Z (by kernel_rfl)) Z ?_
  refine zX ab 1 Z (AO (cs':= #[jI 0,jI 0,jI 0,jI 0,.slice none 0 0,jI 0,jI 0]) Z .u Z Z Dg Z Z Z Z (zX ab 1 Z ?_))
  obtain rfl:=CN h
  exact zZ (T.ret (z7 (Ak 2 aX (Ax [5,0] En (AA (us:= #[jI 0,jI 0,jI 0,jI 0,.slice none 0 0,jI 0,jI 0]) 4 Z DA Dg Z Z) (z5 Z) ⟨_,_,Z,Z,Z⟩ (by rfl) (.inl Z)))))
 refine At Z c8 (T.region Z ?_)
 obtain⟨st40,hx41,h⟩:=CL h
 refine zX ab 1 Z (Aq Z .u (.fn Tryz.call70 Z) (aU b4 st6 7 _ hx41) sT Z (Ab Z ?_))
 obtain⟨⟨x42,st43⟩,hx44,h⟩:=CL h
 try dsimp only at h
 refine zX ab 1 Z (Aq Z .u (.fn Tryz.call68 Z) (aE b4 st40 8 _ hx44) sT Z ?_)
 obtain⟨⟨x45,st46⟩,hx47,h⟩:=CL h
 try dsimp only at h
 refine zX ab 1 Z (Aq Z .u (.fn Tryz.call68 Z) (aE b4 st43 2 _ hx47) sT Z ?_)
 obtain⟨⟨x48,st49⟩,hx50,h⟩:=CL h
 try dsimp only at h
 refine zX ab 1 Z (Aq Z .u (.fn Tryz.call68 Z) (aE b4 st46 4 _ hx50) sT Z ?_)
 obtain⟨⟨x51,st52⟩,hx53,h⟩:=CL h
 try dsimp only at h
 refine zX ab 1 Z (Aq Z .u (.fn Tryz.call68 Z) (aE b4 st49 1 _ hx53) sT Z ?_)
 refine z4 Z (Ao (cells:=vA6 x42 x45 x48 x51) eZ Z (by kernel_rfl)) Z ?_
 refine TL.alloc Z .u Tryz.zeroValue103 Z (fun b54=>(Ad (cs':=vA6 x42 x45 x48 x51) Z .u Z Z Dg Z Z Z Z (Ab Z ?_)))
 obtain⟨⟨x55,st58⟩,hx59,h⟩:=CL h
 try dsimp only at h
 refine zX ab 1 Z (BC Z .u (.fn Tryz.call89 Z) (ec b4 st52 _ hx59) sT Z ?_)
 rintro _ _ _ ⟨A56,c57,rfl,rfl,rfl⟩
 refine AD [0,0,0,0,0] Z (zX ab 1 Z (AP (cs':= #[jI x42,jI x45,jI x48,jI x51,.slice A56 x55.length c57,jI 0,jI 0]) Z .u Z Z Ee Z Z Z Z (Ab Z ?_)))
 obtain⟨⟨x60,st61⟩,hx62,h⟩:=CL h
 try dsimp only at h
 refine zX ab 1 Z (AH Z .u (.fn Tryz.call68 Z) (aE b4 st58 8 _ hx62) sT Z (zX ab 1 Z (AP (cs':= #[jI x42,jI x45,jI x48,jI x51,.slice A56 x55.length c57,jI x60,jI 0]) Z .u Z Z CX Z Z Z Z (Ab Z ?_))))
 obtain⟨⟨x63,st64⟩,hx65,h⟩:=CL h
 try dsimp only at h
 refine zX ab 1 Z (AH Z .u (.fn Tryz.call68 Z) (aE b4 st61 8 _ hx65) sT Z (zX ab 1 Z (AP (cs':=vA7 x42 x45 x48 x51 A56 c57 (x55).length x60 x63) Z .u Z Z CX Z Z Z Z (Ab Z ?_))))
 obtain⟨⟨x66,st67⟩,hx68,h⟩:=CL h
 try dsimp only at h
 refine zX ab 1 Z (AH Z .u (.fn Tryz.call21 Z) (bw b4 st64 _ hx68) sT Z (z8 ab Z (T.seq (zY Z (zX ab 2 Z ?_)))))
 rcases jF h with⟨c69,h⟩ | ⟨c69,h⟩
 ·refine A4 Z c69 (T.region Z (z4 Z (Ag (us := [jI x42,jI x45,jI x48,jI x51,.slice A56 x55.length c57,jI x60,jI x63]) 1 Z DA Dg Z Z Z) Z ?_))
  obtain⟨x70,hx71,h⟩:=CL h
  refine An Z .u (.fn Tryz.call90 Z) (eM (⟨x42,x45,x48,x51,x55,x60,x63⟩:Val) _ _ _ hx71) (fun _ hs=>(Bd 0 hs Z (fun w G h=>ga w G h))) Z (z8 ab Z (T.seq (zY Z (zX ab 2 Z ?_))))
  rcases jF h with⟨c72,h⟩ | ⟨c72,h⟩
  ·refine Au Z c72 (Az Z (z4 Z (Ag (us := [jI x42,jI x45,jI x48,jI x51,.slice A56 x55.length c57,jI x60,jI x63]) 1 Z DA Dg Z Z Z) Z (AO (cs':=vA7 x42 x45 x48 x51 A56 c57 (x55).length x60 x63) Z .u Z Z Dg Z Z Z Z (zX ab 1 Z ?_))))
   obtain rfl:=CN h
   exact zZ (T.ret (Ax [4,0] En (AA (us:=vA7 x42 x45 x48 x51 A56 c57 (x55).length x60 x63) 3 Z DA Dg Z Z) (z5 Z) ⟨_,_,Z,Z,Z⟩ (by rfl) (.inl Z)))
  refine At Z c72 (zY Z ?_)
  refine z4 Z (Ao (cells:= #[jI 0,jI 0,jI 0,jI 0,.slice none 0 0,jI 0,jI 0]) eZ Z (by kernel_rfl)) Z ?_
  refine zX ab 1 Z (AO (cs':= #[jI 0,jI 0,jI 0,jI 0,.slice none 0 0,jI 0,jI 0]) Z .u Z Z Dg Z Z Z Z (zX ab 1 Z ?_))
  obtain rfl:=CN h
  exact zZ (T.ret (z7 (Ak 2 aX (Ax [5,0] En (AA (us:= #[jI 0,jI 0,jI 0,jI 0,.slice none 0 0,jI 0,jI 0]) 4 Z DA Dg Z Z) (z5 Z) ⟨_,_,Z,Z,Z⟩ (by rfl) (.inl Z)))))
 refine A7 Z c69 (Ar (T.seq (zY Z (z8 ab Z (T.yn Z c69 (zY Z ?_))))))
 refine z4 Z (Ao (cells:= #[jI 0,jI 0,jI 0,jI 0,.slice none 0 0,jI 0,jI 0]) eZ Z (by kernel_rfl)) Z ?_
 refine zX ab 1 Z (AO (cs':= #[jI 0,jI 0,jI 0,jI 0,.slice none 0 0,jI 0,jI 0]) Z .u Z Z Dg Z Z Z Z (zX ab 1 Z ?_))
 obtain rfl:=CN h
 exact zZ (T.ret (z7 (Ak 2 aX (Ax [5,0] En (AA (us:= #[jI 0,jI 0,jI 0,jI 0,.slice none 0 0,jI 0,jI 0]) 4 Z DA Dg Z Z) (z5 Z) ⟨_,_,Z,Z,Z⟩ (by rfl) (.inl Z)))))
def ek (a0:Val):Option (List UInt8×Int):=(dA a0).bind fun x4=>if x4=0 then ((bY ([],0) 0 2).bind fun st8=>(bY st8 a0.BX 8).bind fun st10=>(bY st10 a0.B5 2).bind fun st12=>(bY st12 a0.B8 4).bind fun st14=>(bY st14 a0.CA 1).bind fun st16=>(cV st16 a0.BZ).bind fun st18=>(bY st18 a0.CK 8).bind fun st20=>(bY st20 a0.CH 8).bind fun st22=>(gF st22).bind fun (x24,x25,st26)=>some (x24,x25)) else some ([],x4)
theorem lv (a0:Val) (A1:Option Addr) (c2:Nat) (r:List UInt8×Int) (h:ek a0=some r):au Tryz.prog 43 #[.agg (wA8 a0 A1 c2)] (RX.of (an 2 aX) [.slice A1 a0.BZ.length c2] a0.BZ) (aI) (fun v A' N=>v= .tuple #[jS r.1,jI r.2]∧A'=aI∧N = []):=by
 refine aL Tryz.func43 Z Tryz.ntmps43 Z ?_
 intro F w hX
 unfold ek at h
 refine zY Z (TL.box Z .u Z Z (fun b3=>(z8 ab Z (T.seq (zY Z (z4 Z (Ag (us:=wL9 a0 A1 c2) 0 Z DA Dg Z Z Z) Z ?_))))))
 obtain⟨x4,hx5,h⟩:=CL h
 refine An Z .u (.fn Tryz.call90 Z) (eM a0 _ _ _ hx5) (fun _ hs=>(AC hs hX)) Z (Ai ab Z Z (zX ab 2 Z ?_))
 rcases jF h with⟨c6,h⟩ | ⟨c6,h⟩
 ·refine Au Z c6 (Az Z (Bt Z .u Tryz.zeroValue112 Z (fun b7=> ?_)))
  obtain⟨st8,hx9,h⟩:=CL h
  refine Ab Z (Aq Z .u (.fn Tryz.call51 Z) (aF b7 ([],0) 0 2 _ hx9) sT Z (Ab Z ?_))
  obtain⟨st10,hx11,h⟩:=CL h
  refine z6 ab aO 1 Z 2 Z Z (Aq Z .u (.fn Tryz.call51 Z) (aF b7 st8 a0.BX 8 _ hx11) sT Z (Ab Z ?_))
  obtain⟨st12,hx13,h⟩:=CL h
  refine z6 ab aO 1 Z 2 Z Z (Aq Z .u (.fn Tryz.call51 Z) (aF b7 st10 a0.B5 2 _ hx13) sT Z (Ab Z ?_))
  obtain⟨st14,hx15,h⟩:=CL h
  refine z6 ab aO 1 Z 2 Z Z (Aq Z .u (.fn Tryz.call51 Z) (aF b7 st12 a0.B8 4 _ hx15) sT Z (Ab Z ?_))
  obtain⟨st16,hx17,h⟩:=CL h
  refine z6 ab aO 1 Z 2 Z Z (Aq Z .u (.fn Tryz.call51 Z) (aF b7 st14 a0.CA 1 _ hx17) sT Z (Ab Z ?_))
  obtain⟨st18,hx19,h⟩:=CL h
  refine z6 ab aO 1 Z 2 Z Z (Aq Z .u (.fn Tryz.call91 Z) (eL b7 st16 a0.BZ _ _ _ hx19) (fun _ hs=>(Bk hs hX)) Z (Ab Z ?_))
  obtain⟨st20,hx21,h⟩:=CL h
  refine z6 ab aO 1 Z 2 Z Z (Aq Z .u (.fn Tryz.call51 Z) (aF b7 st18 a0.CK 8 _ hx21) sT Z (Ab Z ?_))
  obtain⟨st22,hx23,h⟩:=CL h
  refine z6 ab aO 1 Z 2 Z Z (Aq Z .u (.fn Tryz.call51 Z) (aF b7 st20 a0.CH 8 _ hx23) sT Z ?_)
  obtain⟨⟨x24,x25,st26⟩,hx27,h⟩:=CL h
  try dsimp only at h
  refine Ab Z (Aq Z .u (.fn Tryz.call50 Z) (dR b7 st22 _ hx27) sT Z (zX ab 4 Z ?_))
  obtain rfl:=CN h
  exact zZ (T.ret (Ax [2] Tryz.results43 (z5 Z) (z5 Z) ⟨Z,Z,Z⟩ (by rfl) (.inl Z)))
 refine At Z c6 (zY Z (zX ab 3 Z ?_))
 obtain rfl:=CN h
 exact zZ (T.ret (z7 (Ax [1] Tryz.results43 (z5 Z) (z5 Z) ⟨Z,Z,Z⟩ (by rfl) (.inl Z))))
end Go.Proofs.YtheikonlgjdopaaGreat.Sl
