/- frameRows_holds: part 6. -/
import Derived.Test.YtheikonlgjdopaaGreatK5
set_option maxRecDepth 100000
set_option maxHeartbeats 4000000
set_option linter.defProp false
namespace Go.Proofs.YtheikonlgjdopaaGreat.Sl
open Go.RowKit
set_option linter.unusedVariables false
set_option linter.unusedSimpArgs false
def KM := @Tryz.results136
def Lt := @Tryz.results81
def Lv := @Tryz.results135
def LR := @Tryz.results138
def Mn := @Tryz.results134
def MW := @Tryz.results80
def D9:eP := [(91,0,0),(91,1,1),(97,0,0),(97,1,1),(97,2,2),(97,3,3),(97,4,4),(97,5,5),(97,6,6),(97,7,7),(97,8,8),(97,9,9),(97,10,10),(97,11,11),(159,0,0),(159,1,1),(159,2,2),(159,3,3),(159,4,4),(159,5,5),(159,6,6),(159,7,7),(159,8,8),(159,9,9),(159,10,10),(159,11,11)]
theorem ag:(D9).OK Tryz.prog:=⟨FOK.mk Ke rfl JX rfl,FOK.mk Ke rfl JX rfl,FOK.mk Kb rfl JX rfl,FOK.mk Kb rfl JX rfl,FOK.mk Kb rfl Kr rfl,FOK.mk Kb rfl Kr rfl,FOK.mk Kb rfl Kr rfl,FOK.mk Kb rfl JX rfl,FOK.mk Kb rfl JX rfl,FOK.mk Kb rfl JX rfl,FOK.mk Kb rfl JX rfl,FOK.mk Kb rfl JX rfl,FOK.mk Kb rfl JX rfl,FOK.mk Kb rfl Tryz.sizeOf95 rfl,FOK.mk Kd rfl JX rfl,FOK.mk Kd rfl JX rfl,FOK.mk Kd rfl JX rfl,FOK.mk Kd rfl JX rfl,FOK.mk Kd rfl JX rfl,FOK.mk Kd rfl JX rfl,FOK.mk Kd rfl JX rfl,FOK.mk Kd rfl JX rfl,FOK.mk Kd rfl JX rfl,FOK.mk Kd rfl JX rfl,FOK.mk Kd rfl JX rfl,FOK.mk Kd rfl JX rfl,trivial⟩
def Ea:List Nat := [3,4,95]
theorem aJ:NOK Tryz.prog Ea:=⟨JZ,KG,Mr,trivial⟩
theorem mC:Tryz.prog.follows .mixedOrders=true:=by kernel_rfl
theorem fI:BOK Tryz.prog 97 #[.int .i64 0,.int .i64 0,.bool false,.bool false,.bool false,.int .i64 0,.int .i64 0,.int .i64 0,.int .i64 0,.int .i64 0,.int .i64 0,.slice none 0 0] [(0,1),(1,1),(2,1),(3,1),(4,1),(5,1),(6,1),(7,1),(8,1),(9,1),(10,1),(11,1)]:=BOK.mk Tryz.zeroValue97 Kb (by intro w; simp)
theorem v5:BOK Tryz.prog 112 #[.slice none 0 0,.int .i64 0] [(0,1),(1,1)]:=BOK.mk Tryz.zeroValue112 Tryz.runUnderlying112 (by intro w; simp)
theorem pv:BOK Tryz.prog 159 #[.int .i64 0,.int .i64 0,.int .i64 0,.int .i64 0,.int .i64 0,.int .i64 0,.int .i64 0,.int .i64 0,.int .i64 0,.int .i64 0,.int .i64 0,.int .i64 0] [(0,1),(1,1),(2,1),(3,1),(4,1),(5,1),(6,1),(7,1),(8,1),(9,1),(10,1),(11,1)]:=BOK.mk Tryz.zeroValue159 Kd (by intro w; simp)
theorem jt:SOK Tryz.prog 78 9 2 1 #[.string ⟨#[]⟩,.string ⟨#[]⟩]:=SOK.mk Ls Kk Tryz.zeroValue9 (by decide) (by kernel_rfl)
theorem uH:SOK Tryz.prog 95 91 1 7 #[.int .i64 0,.int .i64 0,.bool false,.string ⟨#[]⟩,.bool false,.string ⟨#[]⟩,.slice none 0 0]:=SOK.mk J9 J4 Tryz.zeroValue91 (by decide) (by kernel_rfl)
theorem xH:(Tryz.prog.info? 91).map (fun i=>(i.zero,i.size,i.bytes))=some (some (.agg #[.int .i64 0,.int .i64 0,.bool false,.string ⟨#[]⟩,.bool false,.string ⟨#[]⟩,.slice none 0 0]),7,88):=by kernel_rfl
def gx (a0:Bat):Option (Bool):=if a0.Jz≥0 then (if a0.Jv≥(-1) then ((il a0.Jv 4).bind fun x6=>if x6=true then (if a0.Jx≥0 then ((il a0.Jx 4).bind fun x10=>if x10=true then (if (IntKind.i64.wrap (a0.Jz+a0.Jx))≥0 then (if a0.Jm≥0 then (if a0.JF≥0 then some true else some false) else some false) else some false) else some false) else some false) else some false) else some false) else some false
theorem n9 (a0:Bat) (A1:Option Addr) (c2:Nat) (r:Bool) (h:gx a0=some r):aE Tryz.prog 135 #[.agg (wA0 a0 A1 c2)] (RX.of (ao 7 cV) [.slice A1 a0.Ja.length c2] a0.Ja) (aO) (fun v A' N=>v= .bool r∧A'=aO∧N = []):=by
 refine aU Tryz.func135 Z Tryz.ntmps135 Z ?_
 intro F w hX
 unfold gx at h
 refine GC Z (TL.box Z .u Z Z (fun b3=>(G4 ag Z Z ?_)))
 rcases jF h with⟨c4,h⟩ | ⟨c4,h⟩
 ·refine GG ag aJ 0 Z 4 Z Z (GI 6 Z (JS c4) ?_)
  rcases jF h with⟨c5,h⟩ | ⟨c5,h⟩
  ·refine GG ag aJ 0 Z 5 Z Z (GI 11 Z (JS c5) ?_)
   obtain⟨x6,hx7,h⟩:=JO h
   refine GG ag aJ 0 Z 2 Z Z (GZ Z (.g Z Z Z) (.fn Tryz.call101 Z) (Hy (fun w=>de a0.Jv 4 _ hx7 w)) (fun _ _=>Hi _ _) Z ?_)
   rcases jF h with⟨c8,h⟩ | ⟨c8,h⟩
   ·refine GJ ag 2 Z (GI 16 Z c8 ?_)
    rcases jF h with⟨c9,h⟩ | ⟨c9,h⟩
    ·refine GG ag aJ 0 Z 5 Z Z (GI 21 Z (JS c9) ?_)
     obtain⟨x10,hx11,h⟩:=JO h
     refine GG ag aJ 0 Z 2 Z Z (GZ Z (.g Z Z Z) (.fn Tryz.call101 Z) (Hy (fun w=>de a0.Jx 4 _ hx11 w)) (fun _ _=>Hi _ _) Z ?_)
     rcases jF h with⟨c12,h⟩ | ⟨c12,h⟩
     ·refine GJ ag 2 Z (GI 26 Z c12 (GG ag aJ 0 Z 4 Z Z (TL.q Z (.g Z Z Z) (Ex.addw Z Z) Z ?_)))
      rcases jF h with⟨c13,h⟩ | ⟨c13,h⟩
      ·refine GJ ag 3 Z (GI 34 Z (JS c13) ?_)
       rcases jF h with⟨c14,h⟩ | ⟨c14,h⟩
       ·refine GG ag aJ 0 Z 5 Z Z (GI 39 Z (JS c14) (GG ag aJ 0 Z 5 Z Z ?_))
        rcases jF h with⟨c15,h⟩ | ⟨c15,h⟩
        ·obtain rfl:=JP h
         exact GD (T.ret (G8 [1] Lv (GF (v:= .bool true) (congrArg (fun b=>some (Value.bool b)) (JS c15))) ⟨Z,Z,Z⟩ (by rfl) (.inl Z)))
        obtain rfl:=JP h
        exact GD (T.ret (G8 [1] Lv (GF (v:= .bool false) (congrArg (fun b=>some (Value.bool b)) (JT c15))) ⟨Z,Z,Z⟩ (by rfl) (.inl Z)))
       refine GG ag aJ 0 Z 5 Z Z (GI 39 Z (JT c14) (GJ ag 5 Z ?_))
       obtain rfl:=JP h
       exact GD (T.ret (GL [1] Lv (GF Z)))
      refine GJ ag 3 Z (GI 34 Z (JT c13) (GJ ag 10 Z ?_))
      obtain rfl:=JP h
      exact GD (T.ret (GL [1] Lv (GF Z)))
     replace c12:=JW c12
     refine GJ ag 2 Z (GI 26 Z c12 (GJ ag 18 Z ?_))
     obtain rfl:=JP h
     exact GD (T.ret (GL [1] Lv (GF Z)))
    refine GG ag aJ 0 Z 5 Z Z (GI 21 Z (JT c9) (GJ ag 23 Z ?_))
    obtain rfl:=JP h
    exact GD (T.ret (GL [1] Lv (GF Z)))
   replace c8:=JW c8
   refine GJ ag 2 Z (GI 16 Z c8 (GJ ag 28 Z ?_))
   obtain rfl:=JP h
   exact GD (T.ret (GL [1] Lv (GF Z)))
  refine GG ag aJ 0 Z 5 Z Z (GI 11 Z (JT c5) (GJ ag 33 Z ?_))
  obtain rfl:=JP h
  exact GD (T.ret (GL [1] Lv (GF Z)))
 refine GG ag aJ 0 Z 4 Z Z (GI 6 Z (JT c4) (GJ ag 38 Z ?_))
 obtain rfl:=JP h
 exact GD (T.ret (GL [1] Lv (GF Z)))
def fc (a0:Bat):Option (Bool):=if a0.I6=(-1) then (if a0.I8=(-1) then (if a0.Jn=(-1) then (if a0.JE=true then some false else some true) else some false) else some false) else (if a0.JB=true then (if a0.I6≥0 then (if a0.I8≥0 then ((il a0.I8 2).bind fun x11=>if x11=true then (if a0.Jn≥(-1) then ((il a0.Jn 4).bind fun x15=>if x15=true then (if a0.Jn=(-1) then some true else some false) else some false) else some false) else some false) else some false) else some false) else (if a0.I6≥0 then (if a0.I8≥0 then ((il a0.I8 2).bind fun x21=>if x21=true then (if a0.Jn≥0 then ((il a0.Jn 4).bind fun x25=>if x25=true then some true else some false) else some false) else some false) else some false) else some false))
theorem jE (a0:Bat) (A1:Option Addr) (c2:Nat) (r:Bool) (h:fc a0=some r):aE Tryz.prog 136 #[.agg (wA0 a0 A1 c2)] (RX.of (ao 7 cV) [.slice A1 a0.Ja.length c2] a0.Ja) (aO) (fun v A' N=>v= .bool r∧A'=aO∧N = []):=by
 refine aU Tryz.func136 Z Tryz.ntmps136 Z ?_
 intro F w hX
 unfold fc at h
 refine GC Z (TL.box Z .u Z Z (fun b3=>(GK ag Z (T.seq (GC Z (GG ag aJ 0 Z 3 Z Z ?_))))))
 rcases jF h with⟨c4,h⟩ | ⟨c4,h⟩
 ·refine G9 Z c4 (GC Z ?_)
  rcases jF h with⟨c5,h⟩ | ⟨c5,h⟩
  ·refine GG ag aJ 0 Z 4 Z Z (GI 10 Z (JS c5) ?_)
   rcases jF h with⟨c6,h⟩ | ⟨c6,h⟩
   ·refine GG ag aJ 0 Z 5 Z Z (GI 15 Z (JS c6) (GG ag aJ 0 Z 5 Z Z ?_))
    rcases jF h with⟨c7,h⟩ | ⟨c7,h⟩
    ·obtain rfl:=JP h
     exact GD (T.ret (GH (G8 [1] KM (GF (v:= .bool false) (congrArg (fun b=>some (Value.bool b)) (aZ c7))) ⟨Z,Z,Z⟩ (by rfl) (.inl Z))))
    replace c7:=JW c7
    obtain rfl:=JP h
    exact GD (T.ret (GH (G8 [1] KM (GF (v:= .bool true) (congrArg (fun b=>some (Value.bool b)) (bw c7))) ⟨Z,Z,Z⟩ (by rfl) (.inl Z))))
   refine GG ag aJ 0 Z 5 Z Z (GI 15 Z (JT c6) (GJ ag 5 Z ?_))
   obtain rfl:=JP h
   exact GD (T.ret (GH (GL [1] KM (GF Z))))
  refine GG ag aJ 0 Z 4 Z Z (GI 10 Z (JT c5) (GJ ag 10 Z ?_))
  obtain rfl:=JP h
  exact GD (T.ret (GH (GL [1] KM (GF Z))))
 refine Ha Z c4 (Hb Z (GK ag Z (T.seq (GC Z (GG ag aJ 0 Z 2 Z Z ?_)))))
 rcases jF h with⟨c8,h⟩ | ⟨c8,h⟩
 ·refine GD (GO Z c8 (T.region Z (G4 ag Z Z ?_)))
  rcases jF h with⟨c9,h⟩ | ⟨c9,h⟩
  ·refine GG ag aJ 0 Z 4 Z Z (GI 25 Z (JS c9) ?_)
   rcases jF h with⟨c10,h⟩ | ⟨c10,h⟩
   ·refine GG ag aJ 0 Z 5 Z Z (GI 30 Z (JS c10) ?_)
    obtain⟨x11,hx12,h⟩:=JO h
    refine GG ag aJ 0 Z 2 Z Z (GZ Z (.g Z Z Z) (.fn Tryz.call101 Z) (Hy (fun w=>de a0.I8 2 _ hx12 w)) (fun _ _=>Hi _ _) Z ?_)
    rcases jF h with⟨c13,h⟩ | ⟨c13,h⟩
    ·refine GJ ag 2 Z (GI 35 Z c13 ?_)
     rcases jF h with⟨c14,h⟩ | ⟨c14,h⟩
     ·refine GG ag aJ 0 Z 6 Z Z (GI 41 Z (JS c14) ?_)
      obtain⟨x15,hx16,h⟩:=JO h
      refine GG ag aJ 0 Z 2 Z Z (GZ Z (.g Z Z Z) (.fn Tryz.call101 Z) (Hy (fun w=>de a0.Jn 4 _ hx16 w)) (fun _ _=>Hi _ _) Z ?_)
      rcases jF h with⟨c17,h⟩ | ⟨c17,h⟩
      ·refine GJ ag 2 Z (GI 46 Z c17 (GG ag aJ 0 Z 4 Z Z (GI 50 Z (aZ c8) (GG ag aJ 0 Z 6 Z Z ?_))))
       rcases jF h with⟨c18,h⟩ | ⟨c18,h⟩
       ·obtain rfl:=JP h
        exact GD (T.ret (G8 [1] KM (GF (v:= .bool true) (congrArg (fun b=>some (Value.bool b)) (JS c18))) ⟨Z,Z,Z⟩ (by rfl) (.inl Z)))
       obtain rfl:=JP h
       exact GD (T.ret (G8 [1] KM (GF (v:= .bool false) (congrArg (fun b=>some (Value.bool b)) (JT c18))) ⟨Z,Z,Z⟩ (by rfl) (.inl Z)))
      replace c17:=JW c17
      refine GJ ag 2 Z (GI 46 Z c17 (GJ ag 10 Z ?_))
      obtain rfl:=JP h
      exact GD (T.ret (GL [1] KM (GF Z)))
     refine GG ag aJ 0 Z 6 Z Z (GI 41 Z (JT c14) (GJ ag 15 Z ?_))
     obtain rfl:=JP h
     exact GD (T.ret (GL [1] KM (GF Z)))
    replace c13:=JW c13
    refine GJ ag 2 Z (GI 35 Z c13 (GJ ag 21 Z ?_))
    obtain rfl:=JP h
    exact GD (T.ret (GL [1] KM (GF Z)))
   refine GG ag aJ 0 Z 5 Z Z (GI 30 Z (JT c10) (GJ ag 26 Z ?_))
   obtain rfl:=JP h
   exact GD (T.ret (GL [1] KM (GF Z)))
  refine GG ag aJ 0 Z 4 Z Z (GI 25 Z (JT c9) (GJ ag 31 Z ?_))
  obtain rfl:=JP h
  exact GD (T.ret (GL [1] KM (GF Z)))
 replace c8:=JW c8
 refine GD (G7 Z c8 (Hb Z ?_))
 rcases jF h with⟨c19,h⟩ | ⟨c19,h⟩
 ·refine GG ag aJ 0 Z 4 Z Z (GI 25 Z (JS c19) ?_)
  rcases jF h with⟨c20,h⟩ | ⟨c20,h⟩
  ·refine GG ag aJ 0 Z 5 Z Z (GI 30 Z (JS c20) ?_)
   obtain⟨x21,hx22,h⟩:=JO h
   refine GG ag aJ 0 Z 2 Z Z (GZ Z (.g Z Z Z) (.fn Tryz.call101 Z) (Hy (fun w=>de a0.I8 2 _ hx22 w)) (fun _ _=>Hi _ _) Z ?_)
   rcases jF h with⟨c23,h⟩ | ⟨c23,h⟩
   ·refine GJ ag 2 Z (GI 35 Z c23 ?_)
    rcases jF h with⟨c24,h⟩ | ⟨c24,h⟩
    ·refine GG ag aJ 0 Z 6 Z Z (GI 41 Z (JS c24) ?_)
     obtain⟨x25,hx26,h⟩:=JO h
     refine GG ag aJ 0 Z 2 Z Z (GZ Z (.g Z Z Z) (.fn Tryz.call101 Z) (Hy (fun w=>de a0.Jn 4 _ hx26 w)) (fun _ _=>Hi _ _) Z ?_)
     rcases jF h with⟨c27,h⟩ | ⟨c27,h⟩
     ·refine GJ ag 2 Z (GI 46 Z c27 (GG ag aJ 0 Z 4 Z Z (GI 50 Z (bw c8) (GJ ag 6 Z ?_))))
      obtain rfl:=JP h
      exact GD (T.ret (GL [1] KM (GF Z)))
     replace c27:=JW c27
     refine GJ ag 2 Z (GI 46 Z c27 (GJ ag 10 Z ?_))
     obtain rfl:=JP h
     exact GD (T.ret (GL [1] KM (GF Z)))
    refine GG ag aJ 0 Z 6 Z Z (GI 41 Z (JT c24) (GJ ag 15 Z ?_))
    obtain rfl:=JP h
    exact GD (T.ret (GL [1] KM (GF Z)))
   replace c23:=JW c23
   refine GJ ag 2 Z (GI 35 Z c23 (GJ ag 21 Z ?_))
   obtain rfl:=JP h
   exact GD (T.ret (GL [1] KM (GF Z)))
  refine GG ag aJ 0 Z 5 Z Z (GI 30 Z (JT c20) (GJ ag 26 Z ?_))
  obtain rfl:=JP h
  exact GD (T.ret (GL [1] KM (GF Z)))
 refine GG ag aJ 0 Z 4 Z Z (GI 25 Z (JT c19) (GJ ag 31 Z ?_))
 obtain rfl:=JP h
 exact GD (T.ret (GL [1] KM (GF Z)))
def bV (a0:Bat):List Rec→Int→Int→Int→Option (Lp Int (Int×Int×Int))
 | [],y4,y5,y6=>some (Lp.go (y4,y5,y6))
 | x12::xs,y4,y5,y6=>if x12.Jq≤y5 then some (Lp.ret 13) else (if x12.Jq>a0.Jx then some (Lp.ret 13) else (if (IntKind.i64.wrap (a0.Jm+x12.JA))<0 then some (Lp.ret 11) else (if x12.JA>0 then (if (IntKind.i64.wrap (a0.Jm+x12.JA))<x12.JA then some (Lp.ret 11) else (if y6<(IntKind.i64.wrap (a0.Jm+x12.JA)) then (bV a0 xs y4 x12.Jq (IntKind.i64.wrap (a0.Jm+x12.JA))) else (bV a0 xs y4 x12.Jq y6))) else (if y6<(IntKind.i64.wrap (a0.Jm+x12.JA)) then (bV a0 xs y4 x12.Jq (IntKind.i64.wrap (a0.Jm+x12.JA))) else (bV a0 xs y4 x12.Jq y6)))))
def dH (a0:Bat):Option (Int):=(bV a0 a0.Ja 0 (-1) a0.Jm).bind fun e=>match e with | .ret r=>some r | .go (y27,y28,y29)=>(if a0.JG=true then some 0 else (if y29=a0.JF then some 0 else some 11))
theorem ki (a0:Bat) (A1:Option Addr) (c2:Nat) (r:Int) (h:dH a0=some r):aE Tryz.prog 138 #[.agg (wA0 a0 A1 c2)] (RX.of (ao 7 cV) [.slice A1 a0.Ja.length c2] a0.Ja) (aO) (fun v A' N=>v=jI r∧A'=aO∧N = []):=by
 refine aU Tryz.func138 Z Tryz.ntmps138 Z ?_
 intro F w hX
 unfold dH at h
 refine GC Z (TL.box Z .u Z Z (fun b3=>(GB ag 1 Z ?_)))
 refine GD (T.seq (Hp (.q 0 (.q 1 (.q 2 (.q 3 .nil)))) [0,0] Z mC (NoP.seq bA) (by kernel_rfl) ?_))
 refine TD.run ag [0] Z Z (GM Z (G5 0 Z JZ Z Z) Z (TD.run ag [2,3] Z Z (HX (T.seq (GC Z (GG ag aJ 0 Z 2 Z Z (GE Z (GQ Z J9) Z (GK ag Z (T.block ?_)))))))))
 obtain⟨E8,hE9,hO10⟩:=JO h
 have hk14len:=Hq hX
 refine Hv (fun m e Rs=> ∃ (y4:Int) (y5:Int) (y6:Int) (k7:Nat),k7+m=a0.Ja.length∧e = [(1,jP b3),(2,jI y4),(3,jI y5),(4,jI y6),(11,.slice A1 a0.Ja.length c2),(12,jI (a0.Ja.length:Int)),(13,jI (k7:Int))]∧Rs = [aT b3 97 (wA0 a0 A1 c2),aO]∧bV a0 (a0.Ja.drop k7) y4 y5 y6=some E8) (a0.Ja.length) [0,0] ⟨0,(-1),a0.Jm,0,by simp,Z,Z,by rw[List.drop_zero]; exact hE9⟩ (by rfl) (by rfl) ?_
 clear hE9 h
 rintro m11 _ _ ⟨y4,y5,y6,k7,hk14,rfl,rfl,h⟩
 cases m11 with
 | zero =>
  rw[List.drop_of_length_le (by omega),bV] at h
  have hk14ge: ¬ ((k7:Int)<(a0.Ja.length:Int)):=by omega
  refine GC Z (GK ag Z (T.seq (G7 Z (JT hk14ge) ?_)))
  obtain rfl:=JP h
  replace h:=hO10
  clear hO10
  try dsimp only at h
  refine T.exit (GT (GT (Hu (X.seq (T.seq (GC Z ?_))))))
  rcases jF h with⟨c33,h⟩ | ⟨c33,h⟩
  ·refine GG ag aJ 0 Z 4 Z Z (GI 55 Z (aZ c33) (Hk ag Z (G7 Z Z (Hb Z (GB ag 1 Z ?_)))))
   obtain rfl:=JP h
   exact GD (T.ret (GL [1] LR (GF Z)))
  replace c33:=JW c33
  refine GG ag aJ 0 Z 4 Z Z (GI 55 Z (bw c33) (GG ag aJ 0 Z 5 Z Z ?_))
  rcases jF h with⟨c34,h⟩ | ⟨c34,h⟩
  ·refine He Z c34 (Hb Z (GB ag 1 Z ?_))
   obtain rfl:=JP h
   exact GD (T.ret (GL [1] LR (GF Z)))
  refine Hc Z c34 (GC Z (GB ag 1 Z ?_))
  obtain rfl:=JP h
  exact GD (T.ret (GH (GL [1] LR (GF Z))))
 | succ m11 =>
  obtain⟨x12,hxx12⟩: ∃ x,a0.Ja[k7]? = some x:=⟨_,List.getElem?_eq_getElem (by omega)⟩
  rw[bz hxx12,bV] at h
  have hk14lt:(k7:Int)<(a0.Ja.length:Int):=by omega
  refine GC Z (GK ag Z (T.seq (GO Z (JS hk14lt) ?_)))
  obtain⟨gz15,oz15,rfl,z15cs,z15cl,z15cc,z15nf,z15r⟩:=Hg (by decide) hX hxx12
  obtain⟨z15S,z15r,z15rr⟩:=z15r
  obtain⟨A16,c17,rfl,z15s0⟩:=z15r
  have hX18:(RX.of (ao 3 db) [.slice A16 x12.Jl.length c17] x12.Jl).reads w F:=⟨z15S,z15s0,z15rr⟩
  refine GW (T.seq (T.block (GC Z ?_)))
  refine GE Z (GY (k:=k7) Z Z Z J9 J4 (JV hxx12).1) Z ?_
  refine GE Z (HW (us:=wL1 x12 A16 c17) 0 Z Ky J4 z15nf z15cc Z Z Z) Z (TL.alloc Z .u Tryz.zeroValue91 Z (fun b19=>(GU (cs':=wA2 x12 A16 c17) Z .u Z Z J4 Z Z Z Z (GD (T.seq (GC Z ?_))))))
  rcases jF h with⟨c20,h⟩ | ⟨c20,h⟩
  ·refine GG ag aJ 0 Z 5 Z Z (GI 21 Z (JS c20) (Hk ag Z (GO Z Z (GC Z (GB ag 1 Z ?_)))))
   obtain rfl:=JP h
   obtain rfl:=JP hO10
   exact GD (T.ret (GH (GN (GH (GH (GN (GH (GL [2] LR (GF Z)))))))))
  refine GG ag aJ 0 Z 5 Z Z (GI 21 Z (JT c20) (GG ag aJ 0 Z 3 Z Z (GG ag aJ 1 Z 3 Z Z ?_)))
  rcases jF h with⟨c21,h⟩ | ⟨c21,h⟩
  ·refine G9 Z c21 (GC Z (GB ag 1 Z ?_))
   obtain rfl:=JP h
   obtain rfl:=JP hO10
   exact GD (T.ret (GH (GN (GH (GH (GN (GH (GL [2] LR (GF Z)))))))))
  refine Ha Z c21 (Hb Z (Ir ag aJ 0 Z Z Z (GC Z (GG ag aJ 1 Z 3 Z Z (GG ag aJ 0 Z 1 Z Z (GE Z (Ex.addw Z Z) Z ?_))))))
  refine GK ag Z (T.seq (GC Z ?_))
  rcases jF h with⟨c22,h⟩ | ⟨c22,h⟩
  ·refine GB ag 3 Z (GI 37 Z (JS c22) (Hk ag Z (GO Z Z (GC Z (GB ag 1 Z ?_)))))
   obtain rfl:=JP h
   obtain rfl:=JP hO10
   exact GD (T.ret (GH (GN (GH (GH (GN (GH (GL [2] LR (GF Z)))))))))
  refine GB ag 3 Z (GI 37 Z (JT c22) ?_)
  rcases jF h with⟨c23,h⟩ | ⟨c23,h⟩
  ·refine GG ag aJ 0 Z 4 Z Z (GI 41 Z (JS c23) (GG ag aJ 0 Z 6 Z Z ?_))
   rcases jF h with⟨c24,h⟩ | ⟨c24,h⟩
   ·refine G9 Z c24 (GC Z (GB ag 1 Z ?_))
    obtain rfl:=JP h
    obtain rfl:=JP hO10
    exact GD (T.ret (GH (GN (GH (GH (GN (GH (GL [2] LR (GF Z)))))))))
   refine Ha Z c24 (GW (T.region Z ?_))
   rcases jF h with⟨c25,h⟩ | ⟨c25,h⟩
   ·exact GB ag 2 Z (GE Z (Ex.maxy Z Z c25) Z (GB ag 1 Z (TL.nil (GX (X.seq (T.region Z (GE Z (Ex.add Z Z (by omega)) Z (GB ag 1 Z (TL.nil (X.back (m':=m11) [1,1] (by omega) ⟨y4,x12.Jq,(IntKind.i64.wrap (a0.Jm+x12.JA)),k7+1,by omega,Z,Z,h⟩ (by rfl) (by rfl)))))))))))
   exact GB ag 2 Z (GE Z (Ex.maxx Z Z c25) Z (GB ag 1 Z (TL.nil (GX (X.seq (T.region Z (GE Z (Ex.add Z Z (by omega)) Z (GB ag 1 Z (TL.nil (X.back (m':=m11) [1,1] (by omega) ⟨y4,x12.Jq,y6,k7+1,by omega,Z,Z,h⟩ (by rfl) (by rfl)))))))))))
  refine GG ag aJ 0 Z 4 Z Z (GI 41 Z (JT c23) (Hk ag Z (G7 Z Z (GW (T.region Z ?_)))))
  rcases jF h with⟨c26,h⟩ | ⟨c26,h⟩
  ·exact GB ag 2 Z (GE Z (Ex.maxy Z Z c26) Z (GB ag 1 Z (TL.nil (GX (X.seq (T.region Z (GE Z (Ex.add Z Z (by omega)) Z (GB ag 1 Z (TL.nil (X.back (m':=m11) [1,1] (by omega) ⟨y4,x12.Jq,(IntKind.i64.wrap (a0.Jm+x12.JA)),k7+1,by omega,Z,Z,h⟩ (by rfl) (by rfl)))))))))))
  exact GB ag 2 Z (GE Z (Ex.maxx Z Z c26) Z (GB ag 1 Z (TL.nil (GX (X.seq (T.region Z (GE Z (Ex.add Z Z (by omega)) Z (GB ag 1 Z (TL.nil (X.back (m':=m11) [1,1] (by omega) ⟨y4,x12.Jq,y6,k7+1,by omega,Z,Z,h⟩ (by rfl) (by rfl)))))))))))
def et:List Rec→Int→Option (Lp Int Int)
 | [],y13=>some (Lp.go y13)
 | x19::xs,y13=>(fj x19).bind fun x27=>if x27=0 then (et xs y13) else some (Lp.ret x27)
def eu:List Rec→Int→Option (Lp Int Int)
 | [],y61=>some (Lp.go y61)
 | x67::xs,y61=>(fj x67).bind fun x75=>if x75=0 then (eu xs y61) else some (Lp.ret x75)
def dC (a0:Bat):Option (Int):=(gx a0).bind fun x4=>if x4=true then (if a0.JB=true then (if a0.JE=true then ((fc a0).bind fun x9=>if x9=true then (if (a0.Ja.length:Int)=1 then ((et a0.Ja 0).bind fun e=>match e with | .ret r=>some r | .go y30=>((a0.Ja[0]?).bind fun x32=>(dB x32).bind fun (x38,x39,x40)=>if x40=0 then ((dH a0).bind fun x43=>some x43) else some x40)) else some 10) else some 11) else some 8) else ((fc a0).bind fun x58=>if x58=true then ((eu a0.Ja 0).bind fun e=>match e with | .ret r=>some r | .go y78=>((dH a0).bind fun x80=>some x80)) else some 11)) else some 11
theorem iJ (a0:Bat) (A1:Option Addr) (c2:Nat) (r:Int) (h:dC a0=some r):aE Tryz.prog 81 #[.agg (wA0 a0 A1 c2)] (RX.of (ao 7 cV) [.slice A1 a0.Ja.length c2] a0.Ja) (aO) (fun v A' N=>v=jI r∧A'=aO∧N = []):=by
 refine aU Tryz.func81 Z Tryz.ntmps81 Z ?_
 intro F w hX
 unfold dC at h
 refine GC Z (TL.box Z .u Z Z (fun b3=>(GK ag Z (T.seq (T.block (GC Z (GE Z (GR (us:=wL5 a0 A1 c2) 0 Z Ku J6 Z Z Z) Z ?_)))))))
 obtain⟨x4,hx5,h⟩:=JO h
 refine GZ Z .u (.fn Tryz.call135 Z) (n9 a0 _ _ _ hx5) (fun _ hs=>(GS hs hX)) Z (GB ag 2 Z ?_)
 rcases jF h with⟨c6,h⟩ | ⟨c6,h⟩
 ·refine GD (G7 Z (aZ c6) (GC Z ?_))
  rcases jF h with⟨c7,h⟩ | ⟨c7,h⟩
  ·refine GG ag aJ 0 Z 3 Z Z (GI 16 Z c7 (GG ag aJ 0 Z 5 Z Z ?_))
   rcases jF h with⟨c8,h⟩ | ⟨c8,h⟩
   ·refine GD (G7 Z (aZ c8) (GC Z (GE Z (GR (us:=wL5 a0 A1 c2) 0 Z Ku J6 Z Z Z) Z ?_)))
    obtain⟨x9,hx10,h⟩:=JO h
    refine GZ Z .u (.fn Tryz.call136 Z) (jE a0 _ _ _ hx10) (fun _ hs=>(GS hs hX)) Z (GB ag 2 Z ?_)
    rcases jF h with⟨c11,h⟩ | ⟨c11,h⟩
    ·refine GD (G7 Z (aZ c11) (GC Z (GG ag aJ 0 Z 3 Z Z (GI 28 Z c7 (GG ag aJ 0 Z 2 Z Z (TL.q Z (.g Z Z Z) (GQ Z J9) Z (GJ ag 3 Z ?_)))))))
     rcases jF h with⟨c12,h⟩ | ⟨c12,h⟩
     ·refine He Z c12 (T.skip (GX (X.seq (T.seq (GC Z (GG ag aJ 0 Z 2 Z Z (GE Z (GQ Z J9) Z (GK ag Z (T.block ?_)))))))))
      obtain⟨E15,hE16,hO17⟩:=JO h
      have hk21len:=Hq hX
      refine Hv (fun m e Rs=> ∃ (y13:Int) (k14:Nat),k14+m=a0.Ja.length∧e = [(1,jP b3),(2,jI y13),(35,.slice A1 a0.Ja.length c2),(36,jI (a0.Ja.length:Int)),(37,jI (k14:Int))]∧Rs = [aT b3 97 (wA0 a0 A1 c2),aO]∧et (a0.Ja.drop k14) y13=some E15) (a0.Ja.length) [0,0] ⟨0,0,by simp,Z,Z,by rw[List.drop_zero]; exact hE16⟩ (by rfl) (by rfl) ?_
      clear hE16 h
      rintro m18 _ _ ⟨y13,k14,hk21,rfl,rfl,h⟩
      cases m18 with
      | zero =>
       rw[List.drop_of_length_le (by omega),et] at h
       have hk21ge: ¬ ((k14:Int)<(a0.Ja.length:Int)):=by omega
       refine GC Z (GK ag Z (T.seq (G7 Z (JT hk21ge) ?_)))
       obtain rfl:=JP h
       replace h:=hO17
       clear hO17
       try dsimp only at h
       refine T.exit (GT (GT (Hu (X.seq (T.seq (GC Z (Ir ag aJ 0 Z Z Z (GO Z c7 (GC Z ?_)))))))))
       obtain⟨x45,hx46,h⟩:=JO h
       obtain⟨gz47,oz47,rfl,z47cs,z47cl,z47cc,z47nf,z47r⟩:=Hg (by decide) hX hx46
       obtain⟨z47S,z47r,z47rr⟩:=z47r
       obtain⟨A48,c49,rfl,z47s0⟩:=z47r
       have hX50:(RX.of (ao 3 db) [.slice A48 x45.Jl.length c49] x45.Jl).reads w F:=⟨z47S,z47s0,z47rr⟩
       refine GG ag aJ 0 Z 2 Z Z ?_
       refine GE Z (GY (k:=0) Z Z Z J9 J4 (JV hx46).1) Z ?_
       refine GE Z (HW (us:=wL1 x45 A48 c49) 0 Z Ky J4 z47nf z47cc Z Z Z) Z ?_
       obtain⟨⟨x51,x52,x53⟩,hx54,h⟩:=JO h
       try dsimp only at h
       refine GZ Z .u (.fn Tryz.call137 Z) (o9 x45 _ _ _ hx54) (fun _ hs=>(GS hs hX50)) Z (G4 ag Z Z (GB ag 2 Z ?_))
       rcases jF h with⟨c55,h⟩ | ⟨c55,h⟩
       ·refine He Z c55 (Hb Z (GE Z (GR (us := [jI a0.Jz,jI a0.Jv,.bool a0.JG,.bool a0.JE,.bool a0.JB,jI a0.Jx,jI a0.Jm,jI a0.JF,jI a0.I6,jI a0.I8,jI a0.Jn,.slice (some ⟨gz47,oz47,none⟩) a0.Ja.length c2]) 0 Z Ku J6 Z Z Z) Z ?_))
        obtain⟨x56,hx57,h⟩:=JO h
        refine GZ Z .u (.fn Tryz.call138 Z) (ki a0 _ _ _ hx57) (fun _ hs=>(GS hs hX)) Z (GB ag 1 Z ?_)
        obtain rfl:=JP h
        exact GD (T.ret (GL [1] Lt (GF Z)))
       refine Hc Z c55 (GC Z (GB ag 2 Z ?_))
       obtain rfl:=JP h
       exact GD (T.ret (GH (GL [1] Lt (GF Z))))
      | succ m18 =>
       obtain⟨x19,hxx19⟩: ∃ x,a0.Ja[k14]? = some x:=⟨_,List.getElem?_eq_getElem (by omega)⟩
       rw[bz hxx19,et] at h
       have hk21lt:(k14:Int)<(a0.Ja.length:Int):=by omega
       refine GC Z (GK ag Z (T.seq (GO Z (JS hk21lt) ?_)))
       obtain⟨gz22,oz22,rfl,z22cs,z22cl,z22cc,z22nf,z22r⟩:=Hg (by decide) hX hxx19
       obtain⟨z22S,z22r,z22rr⟩:=z22r
       obtain⟨A23,c24,rfl,z22s0⟩:=z22r
       have hX25:(RX.of (ao 3 db) [.slice A23 x19.Jl.length c24] x19.Jl).reads w F:=⟨z22S,z22s0,z22rr⟩
       refine GW (T.seq (T.block (GC Z ?_)))
       refine GE Z (GY (k:=k14) Z Z Z J9 J4 (JV hxx19).1) Z ?_
       refine GE Z (HW (us:=wL1 x19 A23 c24) 0 Z Ky J4 z22nf z22cc Z Z Z) Z (TL.alloc Z .u Tryz.zeroValue91 Z (fun b26=>(GU (cs':=wA2 x19 A23 c24) Z .u Z Z J4 Z Z Z Z (GV Z (GE Z (GR (us:=wL1 x19 A23 c24) 0 Z Ky J4 Z Z Z) Z ?_)))))
       obtain⟨x27,hx28,h⟩:=JO h
       refine GZ Z .u (.fn Tryz.call130 Z) (iu x19 _ _ _ hx28) (fun _ hs=>(GS hs hX25)) Z (G4 ag Z Z (GB ag 2 Z ?_))
       rcases jF h with⟨c29,h⟩ | ⟨c29,h⟩
       ·exact He Z c29 (T.skip (GX (X.seq (T.region Z (GE Z (Ex.add Z Z (by omega)) Z (GB ag 1 Z (TL.nil (X.back (m':=m18) [1,1] (by omega) ⟨y13,k14+1,by omega,Z,Z,h⟩ (by rfl) (by rfl)))))))))
       refine Hc Z c29 (GC Z (GB ag 2 Z ?_))
       obtain rfl:=JP h
       obtain rfl:=JP hO17
       exact GD (T.ret (GN (GH (GH (GN (GH (GL [2] Lt (GF Z))))))))
     refine Hc Z c12 (GC Z (GB ag 1 Z ?_))
     obtain rfl:=JP h
     exact GD (T.ret (GN (GH (GL [1] Lt (GF Z)))))
    replace c11:=JW c11
    refine GD (GO Z (bw c11) (GC Z (GB ag 1 Z ?_)))
    obtain rfl:=JP h
    exact GD (T.ret (GN (GH (GL [1] Lt (GF Z)))))
   replace c8:=JW c8
   refine GD (GO Z (bw c8) (GC Z (GB ag 1 Z ?_)))
   obtain rfl:=JP h
   exact GD (T.ret (GN (GH (GL [1] Lt (GF Z)))))
  replace c7:=JW c7
  refine GG ag aJ 0 Z 3 Z Z (GI 16 Z c7 (Hk ag Z (G7 Z Z (GC Z (GE Z (GR (us:=wL5 a0 A1 c2) 0 Z Ku J6 Z Z Z) Z ?_)))))
  obtain⟨x58,hx59,h⟩:=JO h
  refine GZ Z .u (.fn Tryz.call136 Z) (jE a0 _ _ _ hx59) (fun _ hs=>(GS hs hX)) Z (GB ag 2 Z ?_)
  rcases jF h with⟨c60,h⟩ | ⟨c60,h⟩
  ·refine GD (G7 Z (aZ c60) (GC Z (GG ag aJ 0 Z 3 Z Z (GI 28 Z c7 (Hk ag Z (G7 Z Z ?_))))))
   refine T.skip (GX (X.seq (T.seq (GC Z (GG ag aJ 0 Z 2 Z Z (GE Z (GQ Z J9) Z (GK ag Z (T.block ?_))))))))
   obtain⟨E63,hE64,hO65⟩:=JO h
   have hk69len:=Hq hX
   refine Hv (fun m e Rs=> ∃ (y61:Int) (k62:Nat),k62+m=a0.Ja.length∧e = [(1,jP b3),(2,jI y61),(35,.slice A1 a0.Ja.length c2),(36,jI (a0.Ja.length:Int)),(37,jI (k62:Int))]∧Rs = [aT b3 97 (wA0 a0 A1 c2),aO]∧eu (a0.Ja.drop k62) y61=some E63) (a0.Ja.length) [0,0] ⟨0,0,by simp,Z,Z,by rw[List.drop_zero]; exact hE64⟩ (by rfl) (by rfl) ?_
   clear hE64 h
   rintro m66 _ _ ⟨y61,k62,hk69,rfl,rfl,h⟩
   cases m66 with
   | zero =>
    rw[List.drop_of_length_le (by omega),eu] at h
    have hk69ge: ¬ ((k62:Int)<(a0.Ja.length:Int)):=by omega
    refine GC Z (GK ag Z (T.seq (G7 Z (JT hk69ge) ?_)))
    obtain rfl:=JP h
    replace h:=hO65
    clear hO65
    try dsimp only at h
    refine T.exit (GT (GT (Hu (X.seq (T.seq (GC Z (Ir ag aJ 0 Z Z Z (G7 Z c7 (Hb Z (GE Z (GR (us:=wL5 a0 A1 c2) 0 Z Ku J6 Z Z Z) Z ?_))))))))))
    obtain⟨x82,hx83,h⟩:=JO h
    refine GZ Z .u (.fn Tryz.call138 Z) (ki a0 _ _ _ hx83) (fun _ hs=>(GS hs hX)) Z (GB ag 1 Z ?_)
    obtain rfl:=JP h
    exact GD (T.ret (GL [1] Lt (GF Z)))
   | succ m66 =>
    obtain⟨x67,hxx67⟩: ∃ x,a0.Ja[k62]? = some x:=⟨_,List.getElem?_eq_getElem (by omega)⟩
    rw[bz hxx67,eu] at h
    have hk69lt:(k62:Int)<(a0.Ja.length:Int):=by omega
    refine GC Z (GK ag Z (T.seq (GO Z (JS hk69lt) ?_)))
    obtain⟨gz70,oz70,rfl,z70cs,z70cl,z70cc,z70nf,z70r⟩:=Hg (by decide) hX hxx67
    obtain⟨z70S,z70r,z70rr⟩:=z70r
    obtain⟨A71,c72,rfl,z70s0⟩:=z70r
    have hX73:(RX.of (ao 3 db) [.slice A71 x67.Jl.length c72] x67.Jl).reads w F:=⟨z70S,z70s0,z70rr⟩
    refine GW (T.seq (T.block (GC Z ?_)))
    refine GE Z (GY (k:=k62) Z Z Z J9 J4 (JV hxx67).1) Z ?_
    refine GE Z (HW (us:=wL1 x67 A71 c72) 0 Z Ky J4 z70nf z70cc Z Z Z) Z (TL.alloc Z .u Tryz.zeroValue91 Z (fun b74=>(GU (cs':=wA2 x67 A71 c72) Z .u Z Z J4 Z Z Z Z (GV Z (GE Z (GR (us:=wL1 x67 A71 c72) 0 Z Ky J4 Z Z Z) Z ?_)))))
    obtain⟨x75,hx76,h⟩:=JO h
    refine GZ Z .u (.fn Tryz.call130 Z) (iu x67 _ _ _ hx76) (fun _ hs=>(GS hs hX73)) Z (G4 ag Z Z (GB ag 2 Z ?_))
    rcases jF h with⟨c77,h⟩ | ⟨c77,h⟩
    ·exact He Z c77 (T.skip (GX (X.seq (T.region Z (GE Z (Ex.add Z Z (by omega)) Z (GB ag 1 Z (TL.nil (X.back (m':=m66) [1,1] (by omega) ⟨y61,k62+1,by omega,Z,Z,h⟩ (by rfl) (by rfl)))))))))
    refine Hc Z c77 (GC Z (GB ag 2 Z ?_))
    obtain rfl:=JP h
    obtain rfl:=JP hO65
    exact GD (T.ret (GN (GH (GH (GN (GH (GL [2] Lt (GF Z))))))))
  replace c60:=JW c60
  refine GD (GO Z (bw c60) (GC Z (GB ag 1 Z ?_)))
  obtain rfl:=JP h
  exact GD (T.ret (GN (GH (GL [1] Lt (GF Z)))))
 replace c6:=JW c6
 refine GD (GO Z (bw c6) (GC Z (GB ag 1 Z ?_)))
 obtain rfl:=JP h
 exact GD (T.ret (GN (GH (GL [1] Lt (GF Z)))))
def d8:List Rec→(List UInt8×Int)→Option (List UInt8×Int)
 | [],st9=>some st9
 | x14::xs,st9=>(g9 st9 x14).bind fun st22=>d8 xs st22
def hC (a0:Bat):Option (List UInt8×Int):=(dC a0).bind fun x4=>if x4=0 then ((d8 a0.Ja ([],0)).bind fun st25=>(ld st25).bind fun (x26,x27,st28)=>if -9223372036854775808≤(49+(x26.length:Int))∧(49+(x26.length:Int))≤9223372036854775807 then ((gAOf a0).bind fun x31=>(cX ([],0) (⟨a0.Jz,(49+(x26.length:Int)),a0.Jv,0,x31,a0.Jx,a0.Jm,a0.JF,a0.I6,a0.I8,a0.Jn,(a0.Ja.length:Int)⟩:Pfx)).bind fun st35=>(ld st35).bind fun (x37,x38,st39)=>(if x27=0 then (if x38=0 then some false else some true) else some true).bind fun y42=>if y42=true then some ([],11) else ((kX).bind fun st47=>if 21≤x37.length then ((f6 st47 [(x37.drop 21),x26]).bind fun (x52,st53)=>if -9223372036854775808≤x52∧x52≤9223372036854775807 then ((cX ([],0) (⟨a0.Jz,(49+(x26.length:Int)),a0.Jv,x52,x31,a0.Jx,a0.Jm,a0.JF,a0.I6,a0.I8,a0.Jn,(a0.Ja.length:Int)⟩:Pfx)).bind fun st56=>(wi st56 x26).bind fun st58=>(ld st58).bind fun (x60,x61,st62)=>some (x60,x61)) else none) else none)) else none) else some ([],x4)
theorem pc (a0:Bat) (A1:Option Addr) (c2:Nat) (r:List UInt8×Int) (h:hC a0=some r):aE Tryz.prog 39 #[.agg (wA0 a0 A1 c2)] (RX.of (ao 7 cV) [.slice A1 a0.Ja.length c2] a0.Ja) (aO) (fun v A' N=>v= .tuple #[jS r.1,jI r.2]∧A'=aO∧N = []):=by
 refine aU Tryz.func39 Z Tryz.ntmps39 Z ?_
 intro F w hX
 unfold hC at h
 refine GC Z (TL.box Z .u Z Z (fun b3=>(GK ag Z (T.seq (GC Z (GE Z (GR (us:=wL5 a0 A1 c2) 0 Z Ku J6 Z Z Z) Z ?_))))))
 obtain⟨x4,hx5,h⟩:=JO h
 refine GZ Z .u (.fn Tryz.call81 Z) (iJ a0 _ _ _ hx5) (fun _ hs=>(GS hs hX)) Z (G4 ag Z Z (GB ag 2 Z ?_))
 rcases jF h with⟨c6,h⟩ | ⟨c6,h⟩
 ·refine He Z c6 (Hb Z (IH Z .u Tryz.zeroValue112 Z (fun b7=>(GD (T.seq (GC Z (GG ag aJ 1 Z 2 Z Z (GE Z (GQ Z J9) Z (GB ag 1 Z ?_)))))))))
  refine GD (T.block ?_)
  obtain⟨E10,hE11,hO12⟩:=JO h
  have hk16len:=Hq hX
  refine Hv (fun m e Rs=> ∃ (k8:Nat) (st9:List UInt8×Int),k8+m=a0.Ja.length∧e = [(1,jP b3),(2,.string ⟨#[]⟩),(3,jI 0),(5,jP b7),(20,.slice A1 a0.Ja.length c2),(21,jI (a0.Ja.length:Int)),(22,jI (k8:Int))]∧Rs = [bm b7 st9,aT b3 97 (wA0 a0 A1 c2),aO]∧d8 (a0.Ja.drop k8) st9=some E10) (a0.Ja.length) [0,0,0] ⟨0,([],0),by simp,Z,Z,by rw[List.drop_zero]; exact hE11⟩ (by rfl) (by rfl) ?_
  clear hE11 h
  rintro m13 _ _ ⟨k8,st9,hk16,rfl,rfl,h⟩
  cases m13 with
  | zero =>
   rw[List.drop_of_length_le (by omega),d8] at h
   have hk16ge: ¬ ((k8:Int)<(a0.Ja.length:Int)):=by omega
   refine GC Z (GK ag Z (T.seq (G7 Z (JT hk16ge) ?_)))
   obtain rfl:=JP h
   replace h:=hO12
   clear hO12
   try dsimp only at h
   obtain⟨⟨x64,x65,st66⟩,hx67,h⟩:=JO h
   try dsimp only at h
   refine T.exit (GT (GT (Hu (X.seq (GC Z (Ht Z .u (.fn Tryz.call50 Z) (gR b7 st9 _ hx67) sT Z (GB ag 5 Z ?_)))))))
   obtain⟨c68,h⟩:=ay h
   obtain⟨x69,hx70,h⟩:=JO h
   refine GD (T.seq ?_)
   refine IX (fun e Rs=> ∃ (b71:Nat),e = [(1,jP b3),(2,.string ⟨#[]⟩),(3,jI 0),(5,jP b7),(8,jS x64),(9,jI x65),(10,jP b71),(20,.slice A1 a0.Ja.length c2),(21,jI (a0.Ja.length:Int)),(22,jI (k8:Int)),(23,.bool (decide ((k8:Int)<(a0.Ja.length:Int)))),(29,.tuple #[jS x64,jI x65]),(30,.tuple #[jS x64,jI x65]),(31,jS x64),(32,jI x65)]∧Rs = [aT b71 159 #[jI a0.Jz,jI (49+(x64.length:Int)),jI a0.Jv,jI 0,jI x69,jI a0.Jx,jI a0.Jm,jI a0.JF,jI a0.I6,jI a0.I8,jI a0.Jn,jI (a0.Ja.length:Int)],bm b7 st66,aT b3 97 (wA0 a0 A1 c2),aO]) ?_ ?_
   ·refine Hp (.q 0 (.q 1 (.q 2 (.q 3 (.q 4 (.q 5 (.q 6 (.q 7 (.q 9 (.q 10 (.q 11 (.q 12 (.q 13 (.q 14 (.q 15 (.q 16 (.q 17 (.q 18 (.q 19 (.q 20 (.q 21 (.q 22 (.q 23 (.br 8 (.q 24 (.e 25 (.e 26 .nil))) (.e 25 (.e 8 (.q 24 (.e 26 .nil)))))))))))))))))))))))))))) [0,0,0] Z mC ul (by kernel_rfl) ?_
    refine TD.run ag [0] Z Z (GM Z (G5 1 Z JZ Z Z) Z (TD.run ag [2] Z Z (GM Z (Hw Z J3) Z (GM Z (Ex.add Z Z c68) Z (TD.run ag [5] Z Z (GM Z (G5 1 Z JZ Z Z) Z (GM Z (GR (us:=wL5 a0 A1 c2) 1 Z Ku J6 Z Z Z) Z ?_)))))))
    refine TD.run ag [9] Z Z (GM Z (G5 1 Z JZ Z Z) Z (TD.run ag [11] Z Z (GM Z (G5 1 Z JZ Z Z) Z (TD.run ag [13] Z Z (GM Z (G5 1 Z JZ Z Z) Z (TD.run ag [15] Z Z (GM Z (G5 1 Z JZ Z Z) Z ?_)))))))
    refine TD.run ag [17] Z Z (GM Z (G5 1 Z JZ Z Z) Z (TD.run ag [19] Z Z (GM Z (G5 1 Z JZ Z Z) Z (TD.run ag [21] Z Z (GM Z (G5 1 Z Mr Z Z) Z (GM Z (GQ Z J9) Z ?_))))))
    refine TD.br ?_ ?_
    ·refine Iv Z .u (.fn Tryz.call82 Z) (wo a0 _ _ _ hx70) (fun _ hs=>(GS hs hX)) Z [0,0,0] (Z) ?_
     refine GM Z (Hf (cells:= #[jI a0.Jz,jI (49+(x64.length:Int)),jI a0.Jv,jI 0,jI x69,jI a0.Jx,jI a0.Jm,jI a0.JF,jI a0.I6,jI a0.I8,jI a0.Jn,jI (a0.Ja.length:Int)]) pv Z (by kernel_rfl)) Z ?_
     exact TD.alloc Z .u Tryz.zeroValue159 Z [1,1,1] (fun _=>Z) (fun b71=>(TD.st0 (cs':= #[jI a0.Jz,jI (49+(x64.length:Int)),jI a0.Jv,jI 0,jI x69,jI a0.Jx,jI a0.Jm,jI a0.JF,jI a0.I6,jI a0.I8,jI a0.Jn,jI (a0.Ja.length:Int)]) Z .u Z Z Lc Z Z Z Z [1,1,1] (Z) (TD.nil (IC [0,0,0,0] ⟨b71,Z,Z⟩ (by rfl) (by rfl)))))
    refine TD.alloc Z .u Tryz.zeroValue159 Z [1,1,1] (fun _=>Z) (fun b71=>(Iv Z .u (.fn Tryz.call82 Z) (wo a0 _ _ _ hx70) (fun _ hs=>(GS hs hX)) Z [1,1,1] (Z) ?_))
    refine GM Z (Hf (cells:= #[jI a0.Jz,jI (49+(x64.length:Int)),jI a0.Jv,jI 0,jI x69,jI a0.Jx,jI a0.Jm,jI a0.JF,jI a0.I6,jI a0.I8,jI a0.Jn,jI (a0.Ja.length:Int)]) pv Z (by kernel_rfl)) Z ?_
    exact TD.st0 (cs':= #[jI a0.Jz,jI (49+(x64.length:Int)),jI a0.Jv,jI 0,jI x69,jI a0.Jx,jI a0.Jm,jI a0.JF,jI a0.I6,jI a0.I8,jI a0.Jn,jI (a0.Ja.length:Int)]) Z .u Z Z Lc Z Z Z Z [1,1,1] (Z) (TD.nil (IC [0,0,0,0] ⟨b71,Z,Z⟩ (by rfl) (by rfl)))
   rintro _ _ ⟨b71,rfl,rfl⟩
   refine X.seq (GC Z (IH Z .u Tryz.zeroValue112 Z (fun b72=>(GV Z (GE Z (GR (us := [jI a0.Jz,jI (49+(x64.length:Int)),jI a0.Jv,jI 0,jI x69,jI a0.Jx,jI a0.Jm,jI a0.JF,jI a0.I6,jI a0.I8,jI a0.Jn,jI (a0.Ja.length:Int)]) 1 Z LX Lc Z Z Z) Z ?_)))))
   obtain⟨st73,hx74,h⟩:=JO h
   refine Ht Z .u (.fn Tryz.call83 Z) (ir b72 ([],0) (⟨a0.Jz,(49+(x64.length:Int)),a0.Jv,0,x69,a0.Jx,a0.Jm,a0.JF,a0.I6,a0.I8,a0.Jn,(a0.Ja.length:Int)⟩:Pfx) _ hx74) sT Z ?_
   obtain⟨⟨x75,x76,st77⟩,hx78,h⟩:=JO h
   try dsimp only at h
   refine GV Z (Ht Z .u (.fn Tryz.call50 Z) (gR b72 st73 _ hx78) sT Z (GK ag Z (In ?_)))
   obtain⟨y80,h,hk81⟩:=JO h
   refine HJ (fun e Rs=>e = [(2,.string ⟨#[]⟩),(3,jI 0),(8,jS x64),(10,jP b71),(11,jP b72),(12,jS x75),(69,.bool y80)]∧Rs = [bm b72 st77,aT b71 159 #[jI a0.Jz,jI (49+(x64.length:Int)),jI a0.Jv,jI 0,jI x69,jI a0.Jx,jI a0.Jm,jI a0.JF,jI a0.I6,jI a0.I8,jI a0.Jn,jI (a0.Ja.length:Int)],bm b7 st66,aT b3 97 (wA0 a0 A1 c2),aO]) ?_ ?_
   ·clear hk81
    refine T.region Z ?_
    rcases jF h with⟨c82,h⟩ | ⟨c82,h⟩
    ·refine GB ag 3 Z (GI 66 Z (aZ (JS c82)) (GJ ag 3 Z ?_))
     rcases jF h with⟨c83,h⟩ | ⟨c83,h⟩
     ·cases h
      exact TL.nil (Hx (d:=69) (v':= .bool false) Z (congrArg Value.bool (aZ (JS c83))) (GP [0,0,0,0,0]))
     cases h
     exact TL.nil (Hx (d:=69) (v':= .bool true) Z (congrArg Value.bool (bw (JT c83))) (GP [0,0,0,0,0]))
    refine GB ag 3 Z (GI 66 Z (bw (JT c82)) (GJ ag 3 Z ?_))
    cases h
    exact TL.nil (GP [0,0,0,0,0])
   rintro _ _ ⟨rfl,rfl⟩
   clear h
   have h:=hk81
   clear hk81
   try dsimp only at h
   rcases jF h with⟨c84,h⟩ | ⟨c84,h⟩
   ·refine X.seq (GO Z c84 (GC Z (GB ag 2 Z ?_)))
    obtain rfl:=JP h
    exact GD (T.ret (GH (Hl [4] Tryz.results39 (GF Z) (GF Z) ⟨Z,Z,Z⟩ (by rfl) (.inl Z))))
   replace c84:=JW c84
   refine X.seq (G7 Z c84 ?_)
   obtain⟨st85,hx86,h⟩:=JO h
   obtain⟨c88,h⟩:=ay h
   obtain⟨⟨x90,st91⟩,hx92,h⟩:=JO h
   try dsimp only at h
   obtain⟨c93,h⟩:=ay h
   refine GW (T.seq ?_)
   refine IX (fun e Rs=> ∃ (b87:Nat) (b89:Nat),e = [(2,.string ⟨#[]⟩),(3,jI 0),(8,jS x64),(10,jP b71),(11,jP b72),(69,.bool y80)]∧Rs = [cI 9 1 rz (.slice (some ⟨b89,0,none⟩) 2 2) [(x75.drop 21),x64],lG 238 b87 st91,bm b72 st77,aT b71 159 #[jI a0.Jz,jI (49+(x64.length:Int)),jI a0.Jv,jI x90,jI x69,jI a0.Jx,jI a0.Jm,jI a0.JF,jI a0.I6,jI a0.I8,jI a0.Jn,jI (a0.Ja.length:Int)],bm b7 st66,aT b3 97 (wA0 a0 A1 c2),aO]) ?_ ?_
   ·refine Hp (.q 1 (.q 2 (.q 3 (.br 0 (.e 4 (.e 5 (.q 6 (.q 7 (.e 8 .nil))))) (.e 4 (.e 0 (.e 5 (.q 6 (.q 7 (.e 8 .nil)))))))))) [0,1,1,1] Z mC ul (by kernel_rfl) ?_
    refine TD.run ag [1] Z Z ?_
    refine GM Z (Ex.sSl (p:=21) (q:=x75.length) (m:=(x75.drop 21)) Z J3 (.some Z Z) .none (by first | omega | (dsimp only; omega)) (BI _ _)) Z ?_
    refine TD.run ag [3] Z Z ?_
    refine TD.br ?_ ?_
    ·refine TD.cge Z .u (.fn Tryz.call84 Z) (jr _ hx86) rT Z [1,2,2,2] ?_ ?_
     ·rintro _ _ _ ⟨b87,rfl,rfl,rfl⟩
      rfl
     rintro _ _ _ ⟨b87,rfl,rfl,rfl⟩
     exact Ic [0,0,0,0,0,0] Z (Ip (cells:= #[.string (aY (x75.drop 21)),jS x64]) Z .u jt Z (by rfl) Z [2,3,3,3] (fun _=>Z) (fun b89=>(TD.rowOf (us := [.string (aY (x75.drop 21)),jS x64]) (xs := [(x75.drop 21),x64]) (E:=rz) (z:=1) Z (Nat.le_of_ble_eq_true Z) (fun _=>⟨Z,Z,⟨Z,Z,Z⟩⟩) (TD.c1 Z .u (.fn Tryz.call85 Z) (fS b87 st85 [(x75.drop 21),x64] _ _ _ hx92) (fun _ hs=>(Src.res 0 Z (fun w G h=>ed (by decide) w G h))) Z [2,3,3,3] (Z) (GM Z (IO Z Lb Lw c93) Z (TD.run ag [7] Z Z (IR (cs':= #[jI a0.Jz,jI (49+(x64.length:Int)),jI a0.Jv,jI x90,jI x69,jI a0.Jx,jI a0.Jm,jI a0.JF,jI a0.I6,jI a0.I8,jI a0.Jn,jI (a0.Ja.length:Int)]) Z .u Z Z JX Z Z Z Z [2,3,3,3] (Z) (TD.nil (IC [0,0,0,0,0,0,0] ⟨b87,b89,Z,Z⟩ (by rfl) (by rfl))))))))))
    refine Ip (cells:= #[.string (aY (x75.drop 21)),jS x64]) Z .u jt Z (by rfl) Z [1,2,2,2] (fun _=>Z) (fun b89=>(TD.rowOf (us := [.string (aY (x75.drop 21)),jS x64]) (xs := [(x75.drop 21),x64]) (E:=rz) (z:=1) Z (Nat.le_of_ble_eq_true Z) (fun _=>⟨Z,Z,⟨Z,Z,Z⟩⟩) ?_))
    refine TD.cge Z .u (.fn Tryz.call84 Z) (jr _ hx86) rT Z [2,3,3,3] ?_ ?_
    ·rintro _ _ _ ⟨b87,rfl,rfl,rfl⟩
     rfl
    rintro _ _ _ ⟨b87,rfl,rfl,rfl⟩
    exact Ic [0,0,0,0,0,0,0] Z (TD.c0 Z .u (.fn Tryz.call85 Z) (fS b87 st85 [(x75.drop 21),x64] _ _ _ hx92) (fun _ hs=>(Src.res 0 Z (fun w G h=>ed (by decide) w G h))) Z [2,3,3,3] (Z) (GM Z (IO Z Lb Lw c93) Z (TD.run ag [7] Z Z (IR (cs':= #[jI a0.Jz,jI (49+(x64.length:Int)),jI a0.Jv,jI x90,jI x69,jI a0.Jx,jI a0.Jm,jI a0.JF,jI a0.I6,jI a0.I8,jI a0.Jn,jI (a0.Ja.length:Int)]) Z .u Z Z JX Z Z Z Z [2,3,3,3] (Z) (TD.nil (IC [1,0,0,0,0,0,0] ⟨b87,b89,Z,Z⟩ (by rfl) (by rfl)))))))
   rintro _ _ ⟨b87,b89,rfl,rfl⟩
   refine X.seq (GC Z ?_)
   refine GE Z (Hf (cells:= #[.slice none 0 0,jI 0]) v5 Z (by kernel_rfl)) Z ?_
   refine TL.outZ 2 Z .u Z Z Tryz.sizeOf112 Z (Hz [0,0,0,0,0,0,0] Z (GV Z (GE Z (GR (us := [jI a0.Jz,jI (49+(x64.length:Int)),jI a0.Jv,jI x90,jI x69,jI a0.Jx,jI a0.Jm,jI a0.JF,jI a0.I6,jI a0.I8,jI a0.Jn,jI (a0.Ja.length:Int)]) 3 Z LX Lc Z Z Z) Z ?_)))
   obtain⟨st94,hx95,h⟩:=JO h
   refine HY Z .u (.fn Tryz.call83 Z) (ir b72 ([],0) (⟨a0.Jz,(49+(x64.length:Int)),a0.Jv,x90,x69,a0.Jx,a0.Jm,a0.JF,a0.I6,a0.I8,a0.Jn,(a0.Ja.length:Int)⟩:Pfx) _ hx95) sT Z (GV Z ?_)
   obtain⟨st96,hx97,h⟩:=JO h
   refine GB ag 1 Z (HY Z .u (.fn Tryz.call52 Z) (uc b72 st94 x64 _ hx97) sT Z ?_)
   obtain⟨⟨x98,x99,st100⟩,hx101,h⟩:=JO h
   try dsimp only at h
   refine GV Z (HY Z .u (.fn Tryz.call50 Z) (gR b72 st96 _ hx101) sT Z (GB ag 4 Z ?_))
   obtain rfl:=JP h
   exact GD (T.ret (Hl [6] Tryz.results39 (GF Z) (GF Z) ⟨Z,Z,Z⟩ (by rfl) (.inl Z)))
  | succ m13 =>
   obtain⟨x14,hxx14⟩: ∃ x,a0.Ja[k8]? = some x:=⟨_,List.getElem?_eq_getElem (by omega)⟩
   rw[bz hxx14,d8] at h
   have hk16lt:(k8:Int)<(a0.Ja.length:Int):=by omega
   refine GC Z (GK ag Z (T.seq (GO Z (JS hk16lt) ?_)))
   obtain⟨gz17,oz17,rfl,z17cs,z17cl,z17cc,z17nf,z17r⟩:=Hg (by decide) hX hxx14
   obtain⟨z17S,z17r,z17rr⟩:=z17r
   obtain⟨A18,c19,rfl,z17s0⟩:=z17r
   have hX20:(RX.of (ao 3 db) [.slice A18 x14.Jl.length c19] x14.Jl).reads w F:=⟨z17S,z17s0,z17rr⟩
   refine GW (T.seq (T.block (GC Z ?_)))
   refine GE Z (GY (k:=k8) Z Z Z J9 J4 (JV hxx14).1) Z ?_
   refine GE Z (HW (us:=wL1 x14 A18 c19) 0 Z Ky J4 z17nf z17cc Z Z Z) Z (TL.alloc Z .u Tryz.zeroValue91 Z (fun b21=>(GU (cs':=wA2 x14 A18 c19) Z .u Z Z J4 Z Z Z Z (GD (T.region Z (GE Z (GR (us:=wL1 x14 A18 c19) 0 Z Ky J4 Z Z Z) Z ?_))))))
   obtain⟨st22,hx23,h⟩:=JO h
   exact Hh Z .u (.fn Tryz.call79 Z) (pb b7 st9 x14 _ _ _ hx23) (fun _ hs=>(Iw hs hX20)) Z (TL.nil (GX (X.seq (T.region Z (GE Z (Ex.add Z Z (by omega)) Z (GB ag 1 Z (TL.nil (X.back (m':=m13) [1,1,1] (by omega) ⟨k8+1,st22,by omega,Z,Z,h⟩ (by rfl) (by rfl)))))))))
 refine Hc Z c6 (GC Z (GB ag 3 Z ?_))
 obtain rfl:=JP h
 exact GD (T.ret (GH (Hl [1] Tryz.results39 (GF Z) (GF Z) ⟨Z,Z,Z⟩ (by rfl) (.inl Z))))
def fk:List Bat→List UInt8→Int→List UInt8→Option (Lp (List UInt8×Int) (List UInt8×Int×List UInt8))
 | [],y4,y5,st7=>some (Lp.go (y4,y5,st7))
 | x12::xs,y4,y5,st7=>(hC x12).bind fun (x20,x21)=>if x21=0 then ((tQ st7 x20).bind fun st24=>fk xs y4 y5 st24) else (some (Lp.ret ([],x21)))
def kj (a0:List Bat):Option (List UInt8×Int):=(fk a0 [] 0 []).bind fun e=>match e with | .ret r=>some r | .go (y26,y27,st29)=>((BM st29).bind fun x30=>some (x30,0))
theorem sw (a0:List Bat) (A1:Option Addr) (c2:Nat) (r:List UInt8×Int) (h:kj a0=some r):aE Tryz.prog 157 #[.slice A1 a0.length c2] (RX.of (ao 12 dN) [.slice A1 a0.length c2] a0) (aO) (fun v A' N=>v= .tuple #[jS r.1,jI r.2]∧A'=aO∧N = []):=by
 refine aU Tryz.func157 Z Tryz.ntmps157 Z ?_
 intro F w hX
 unfold kj at h
 refine GC Z (G4 ag Z Z (TL.newbld Z .u Tryz.zeroValue292 Z (fun b3=>(GD (T.seq (GC Z (GB ag 1 Z (GE Z (GQ Z Kp) Z (GB ag 1 Z ?_)))))))))
 refine GD (T.block ?_)
 obtain⟨E8,hE9,hO10⟩:=JO h
 have hk14len:=Hq hX
 refine Hv (fun m e Rs=> ∃ (y4:List UInt8) (y5:Int) (k6:Nat) (st7:List UInt8),k6+m=a0.length∧e = [(2,jS y4),(3,jI y5),(4,jP b3),(9,.slice A1 a0.length c2),(10,jI (a0.length:Int)),(11,jI (k6:Int))]∧Rs = [qz b3 st7,aO]∧fk (a0.drop k6) y4 y5 st7=some E8) (a0.length) [0,0] ⟨[],0,0,[],by simp,Z,Z,by rw[List.drop_zero]; exact hE9⟩ (by rfl) (by rfl) ?_
 clear hE9 h
 rintro m11 _ _ ⟨y4,y5,k6,st7,hk14,rfl,rfl,h⟩
 cases m11 with
 | zero =>
  rw[List.drop_of_length_le (by omega),fk] at h
  have hk14ge: ¬ ((k6:Int)<(a0.length:Int)):=by omega
  refine GC Z (GK ag Z (T.seq (G7 Z (JT hk14ge) ?_)))
  obtain rfl:=JP h
  replace h:=hO10
  clear hO10
  try dsimp only at h
  obtain⟨x32,hx33,h⟩:=JO h
  refine T.exit (GT (GT (Hu (X.seq (GC Z (Ht Z .u (.fn Tryz.call197 Z) (Ax b3 st7 _ hx33) sT Z (Hz [1] Z (GB ag 2 Z ?_))))))))
  obtain rfl:=JP h
  exact GD (T.ret (Hl [0] Tryz.results157 (GF Z) (GF Z) ⟨Z,Z,Z⟩ (by rfl) (.inl Z)))
 | succ m11 =>
  obtain⟨x12,hxx12⟩: ∃ x,a0[k6]? = some x:=⟨_,List.getElem?_eq_getElem (by omega)⟩
  rw[bz hxx12,fk] at h
  have hk14lt:(k6:Int)<(a0.length:Int):=by omega
  refine GC Z (GK ag Z (T.seq (GO Z (JS hk14lt) ?_)))
  obtain⟨gz15,oz15,rfl,z15cs,z15cl,z15cc,z15nf,z15r⟩:=Hg (by decide) hX hxx12
  obtain⟨z15S,z15r,z15rr⟩:=z15r
  obtain⟨A16,c17,rfl,z15s0⟩:=z15r
  have hX18:(RX.of (ao 7 cV) [.slice A16 x12.Ja.length c17] x12.Ja).reads w F:=⟨z15S,z15s0,z15rr⟩
  refine GW (T.seq (T.block (GC Z ?_)))
  refine GE Z (GY (k:=k6) Z Z Z Kp J6 (JV hxx12).1) Z ?_
  refine GE Z (HW (us:=wL5 x12 A16 c17) 0 Z Ku J6 z15nf z15cc Z Z Z) Z (TL.alloc Z .u Tryz.zeroValue97 Z (fun b19=>(GU (cs':=wA0 x12 A16 c17) Z .u Z Z J6 Z Z Z Z (GV Z (GE Z (GR (us:=wL5 x12 A16 c17) 0 Z Ku J6 Z Z Z) Z ?_)))))
  obtain⟨⟨x20,x21⟩,hx22,h⟩:=JO h
  try dsimp only at h
  refine GZ Z .u (.fn Tryz.call39 Z) (pc x12 _ _ _ hx22) (fun _ hs=>(GS hs hX18)) Z (GK ag Z (T.seq (GC Z (GB ag 2 Z ?_))))
  rcases jF h with⟨c23,h⟩ | ⟨c23,h⟩
  ·refine He Z c23 (GW (T.region Z ?_))
   obtain⟨st24,hx25,h⟩:=JO h
   exact GB ag 1 Z (Hh Z .u (.fn Tryz.call196 Z) (xx b3 st7 x20 _ hx25) sT Z (TL.nil (GX (X.seq (T.region Z (GE Z (Ex.add Z Z (by omega)) Z (GB ag 1 Z (TL.nil (X.back (m':=m11) [1,1] (by omega) ⟨y4,y5,k6+1,st24,by omega,Z,Z,h⟩ (by rfl) (by rfl))))))))))
  refine Hc Z c23 (GC Z (GB ag 3 Z ?_))
  obtain rfl:=JP h
  obtain rfl:=JP hO10
  exact GD (T.ret (GH (GN (GH (GH (GN (GH (Hl [2] Tryz.results157 (GF Z) (GF Z) ⟨Z,Z,Z⟩ (by rfl) (.inl Z)))))))))
def dI (a0:Pfx):Nat→Int→Nat→List Rec→I→Option (Lp (Bat×Int) (Int×Nat×List Rec×I))
 | 0,_,_,_,_=>none
 | m23+1,y14,k15,y16,st19=>if (k15:Int)<a0.JI then ((ud st19).bind fun (x28,st29)=>if x28=0 then (some (Lp.ret ((⟨0,0,false,false,false,0,0,0,0,0,0,[]⟩:Bat),10))) else ((gH st29).bind fun (x32,st35)=>(gJ st35).bind fun (x38,st39)=>if x38=0 then (if (y16.length+1)*88≤140737488355328 then (if -9223372036854775808≤((k15:Int)+1)∧((k15:Int)+1)≤9223372036854775807 then (dI a0 m23 y14 (k15+1) (y16 ++ [x32]) st39) else none) else none) else (some (Lp.ret ((⟨0,0,false,false,false,0,0,0,0,0,0,[]⟩:Bat),x38))))) else (some (Lp.go (y14,k15,y16,st19)))
def ig (a0:Pfx) (a1:List UInt8):Option (Bat×Int):=(xE a0.JJ).bind fun x3=>if x3=0 then ((Az a0.JJ).bind fun (x7,x8,x9)=>(tn a1).bind fun st11=>(dI a0 ((a0.JI).toNat+1) 0 0 [] st11).bind fun e=>match e with | .ret r=>some r | .go (y53,k54,y55,st58)=>((ud st58).bind fun (x59,st60)=>if x59>0 then (some ((⟨0,0,false,false,false,0,0,0,0,0,0,[]⟩:Bat),10)) else ((dC (⟨a0.Jz,a0.Jv,x7,x8,x9,a0.Jx,a0.Jm,a0.JF,a0.I6,a0.I8,a0.Jn,y55⟩:Bat)).bind fun x63=>some ((⟨a0.Jz,a0.Jv,x7,x8,x9,a0.Jx,a0.Jm,a0.JF,a0.I6,a0.I8,a0.Jn,y55⟩:Bat),x63)))) else (some ((⟨0,0,false,false,false,0,0,0,0,0,0,[]⟩:Bat),x3))
theorem qJ (a0:Pfx) (a1:List UInt8) (r:Bat×Int) (h:ig a0 a1=some r):aE Tryz.prog 134 #[.agg (xy a0),jS a1] .triv (aO) (fun v A' N=> ∃ (A65:Option Addr) (c66:Nat),v= .tuple #[.agg #[jI r.1.Jz,jI r.1.Jv,.bool r.1.JG,.bool r.1.JE,.bool r.1.JB,jI r.1.Jx,jI r.1.Jm,jI r.1.JF,jI r.1.I6,jI r.1.I8,jI r.1.Jn,.slice A65 r.1.Ja.length c66],jI r.2]∧A'=aO∧N = [RdR (ao 7 cV) [.slice A65 r.1.Ja.length c66] r.1.Ja]):=by
 refine aU Tryz.func134 Z Tryz.ntmps134 Z ?_
 intro F w hX
 unfold ig at h
 refine GC Z (TL.box Z .u Z Z (fun b1=>(TL.alloc Z .u Tryz.zeroValue97 Z (fun b2=>(GK ag Z (T.seq (GC Z ?_)))))))
 obtain⟨x3,hx4,h⟩:=JO h
 refine GG ag aJ 1 Z 2 Z Z (GZ Z .u (.fn Tryz.call185 Z) (Hy (fun w=>xF a0.JJ _ hx4 w)) (fun _ _=>Hi _ _) Z (G4 ag Z Z (GB ag 2 Z ?_)))
 rcases jF h with⟨c5,h⟩ | ⟨c5,h⟩
 ·refine He Z c5 (Hb Z (GG ag aJ 1 Z 16 Z Z ?_))
  refine GE Z (Hf (cells:= #[jI a0.Jz,jI a0.Jv,.bool false,.bool false,.bool false,jI a0.Jx,jI a0.Jm,jI a0.JF,jI a0.I6,jI a0.I8,jI a0.Jn,.slice none 0 0]) fI Z (by kernel_rfl)) Z ?_
  refine TL.alloc Z .u Tryz.zeroValue97 Z (fun b6=>(GU (cs':= #[jI a0.Jz,jI a0.Jv,.bool false,.bool false,.bool false,jI a0.Jx,jI a0.Jm,jI a0.JF,jI a0.I6,jI a0.I8,jI a0.Jn,.slice none 0 0]) Z .u Z Z J6 Z Z Z Z (GV Z ?_)))
  obtain⟨⟨x7,x8,x9⟩,hx10,h⟩:=JO h
  try dsimp only at h
  refine GG ag aJ 2 Z 2 Z Z (GZ Z .u (.fn Tryz.call186 Z) (Hy (fun w=>yJ a0.JJ _ hx10 w)) (fun _ _=>Hi _ _) Z (GB ag 5 Z (GU (cs':= #[jI a0.Jz,jI a0.Jv,.bool x7,.bool false,.bool false,jI a0.Jx,jI a0.Jm,jI a0.JF,jI a0.I6,jI a0.I8,jI a0.Jn,.slice none 0 0]) Z .u Z Z Kr Z Z Z Z (GB ag 1 Z (GU (cs':= #[jI a0.Jz,jI a0.Jv,.bool x7,.bool x8,.bool false,jI a0.Jx,jI a0.Jm,jI a0.JF,jI a0.I6,jI a0.I8,jI a0.Jn,.slice none 0 0]) Z .u Z Z Kr Z Z Z Z (GB ag 1 Z (GU (cs':= #[jI a0.Jz,jI a0.Jv,.bool x7,.bool x8,.bool x9,jI a0.Jx,jI a0.Jm,jI a0.JF,jI a0.I6,jI a0.I8,jI a0.Jn,.slice none 0 0]) Z .u Z Z Kr Z Z Z Z ?_)))))))
  refine GV Z ?_
  obtain⟨st11,hx12,h⟩:=JO h
  refine GB ag 1 Z (It Z .u (.fn Tryz.call19 Z) (iL a1 _ hx12) rT Z ?_)
  rintro _ _ _ ⟨b13,rfl,rfl,rfl⟩
  refine Hz [0,0,0,0,0] Z (GK ag Z (T.seq (GC Z (Ir ag aJ 3 Z Z Z (T.block (Ih 91 7 cV ?_))))))
  obtain⟨E20,hE21,hO22⟩:=JO h
  refine Hv (fun m e Rs=> ∃ (y14:Int) (k15:Nat) (y16:List Rec) (A17:Option Addr) (c18:Nat) (st19:I),e = [(4,jP b2),(5,jI y14),(7,jP b6),(8,jP b13),(48,jI a0.JI),(49,jI (k15:Int))]∧Rs = [cI 91 7 cV (.slice A17 y16.length c18) y16,InR b13 st19,aT b6 97 #[jI a0.Jz,jI a0.Jv,.bool x7,.bool x8,.bool x9,jI a0.Jx,jI a0.Jm,jI a0.JF,jI a0.I6,jI a0.I8,jI a0.Jn,.slice A17 y16.length c18],aT b2 97 #[jI 0,jI 0,.bool false,.bool false,.bool false,jI 0,jI 0,jI 0,jI 0,jI 0,jI 0,.slice none 0 0],aT b1 159 (xy a0),aO]∧dI a0 m y14 k15 y16 st19=some E20) ((a0.JI).toNat+1) [0,0,0,0,0,0] ⟨0,0,[],none,0,st11,Z,Z,by exact hE21⟩ (by rfl) (by rfl) ?_
  clear hE21 h
  rintro m23 _ _ ⟨y14,k15,y16,A17,c18,st19,rfl,rfl,h⟩
  cases m23 with
  | zero =>
   rw[dI] at h
   cases h
  | succ m23 =>
   rw[dI] at h
   refine GC Z (GB ag 1 Z ?_)
   rcases jF h with⟨c27,h⟩ | ⟨c27,h⟩
   ·refine GD (T.seq (Ij Z c27 (GW (T.seq (T.block (T.seq (GC Z ?_)))))))
    obtain⟨⟨x28,st29⟩,hx30,h⟩:=JO h
    try dsimp only at h
    refine GB ag 1 Z (Hh Z .u (.fn Tryz.call71 Z) (mK b13 st19 _ hx30) sT Z (GB ag 1 Z ?_))
    rcases jF h with⟨c31,h⟩ | ⟨c31,h⟩
    ·refine G9 Z c31 (GC Z ?_)
     refine GE Z (Hf (cells:= #[jI 0,jI 0,.bool false,.bool false,.bool false,jI 0,jI 0,jI 0,jI 0,jI 0,jI 0,.slice none 0 0]) fI Z (by kernel_rfl)) Z ?_
     refine Ig (cs':= #[jI 0,jI 0,.bool false,.bool false,.bool false,jI 0,jI 0,jI 0,jI 0,jI 0,jI 0,.slice none 0 0]) Z .u Z Z J6 Z Z Z Z (GB ag 1 Z ?_)
     obtain rfl:=JP h
     obtain rfl:=JP hO22
     exact GD (T.ret (GH (GN (GH (GH (GN (GH (G6 7 cV (Hl [6,0] Mn (Hs (us:= #[jI 0,jI 0,.bool false,.bool false,.bool false,jI 0,jI 0,jI 0,jI 0,jI 0,jI 0,.slice none 0 0]) 4 Z Ku J6 Z Z) (GF Z) ⟨_,_,Z,Z,Z⟩ (by rfl) (.inl Z))))))))))
    refine Ha Z c31 (Hb Z ?_)
    obtain⟨⟨x32,st35⟩,hx36,h⟩:=JO h
    try dsimp only at h
    refine GB ag 1 Z (IQ Z .u (.fn Tryz.call78 Z) (pR b13 st29 _ hx36) sT Z ?_)
    rintro _ _ _ ⟨A33,c34,rfl,rfl,rfl⟩
    refine Hz [0,0,0,0,0,0,0] Z (TL.alloc Z .u Tryz.zeroValue91 Z (fun b37=>(GU (cs':=wA2 x32 A33 c34) Z .u Z Z J4 Z Z Z Z (GD (T.seq (GC Z ?_))))))
    obtain⟨⟨x38,st39⟩,hx40,h⟩:=JO h
    try dsimp only at h
    refine GB ag 1 Z (Iu Z .u (.fn Tryz.call23 Z) (cc b13 st35 _ hx40) sT Z (G4 ag Z Z (GB ag 2 Z ?_)))
    rcases jF h with⟨c41,h⟩ | ⟨c41,h⟩
    ·refine He Z c41 (GW (T.region Z (GG ag aJ 4 Z 2 Z Z (GE Z (GR (us:=wL1 x32 A33 c34) 0 Z Ky J4 Z Z Z) Z ?_))))
     refine Ix (cells:=wA2 x32 A33 c34) Z .u uH Z (by kernel_rfl) Z (fun b42=> ?_)
     obtain⟨c43,h⟩:=ay h
     refine IV 2 1 Z .u (us:=wL1 x32 A33 c34) (u:=x32) (l:=y16) (E:=cV) Tryz.underlying95 xH Z (by decide) Z Z Z Z Z Z Z (fun w G hG=>⟨_,_,Z,hG.1⟩) (by have hq:=c43; omega) (by have hq:=c43; omega) Z (fun A44 c45=> ?_)
     refine Hz [0,0,0,0,0,0,0] Z (GB ag 1 Z (Ig (cs':= #[jI a0.Jz,jI a0.Jv,.bool x7,.bool x8,.bool x9,jI a0.Jx,jI a0.Jm,jI a0.JF,jI a0.I6,jI a0.I8,jI a0.Jn,.slice A44 (y16 ++ [x32]).length c45]) Z .u Z Z Tryz.sizeOf95 Z Z Z Z ?_))
     obtain⟨c46,h⟩:=ay h
     exact TL.nil (GX (X.seq (T.region Z (GE Z (Ex.add Z Z c46) Z (GB ag 1 Z (TL.nil (X.back (m':=m23) [0,1,1,1,1,1] (by omega) ⟨y14,k15+1,(y16 ++ [x32]),A44,c45,st39,Z,Z,h⟩ (by rfl) (by rfl))))))))
    refine Hc Z c41 (GC Z ?_)
    refine GE Z (Hf (cells:= #[jI 0,jI 0,.bool false,.bool false,.bool false,jI 0,jI 0,jI 0,jI 0,jI 0,jI 0,.slice none 0 0]) fI Z (by kernel_rfl)) Z ?_
    refine GB ag 1 Z (TL.st5 (cs':= #[jI 0,jI 0,.bool false,.bool false,.bool false,jI 0,jI 0,jI 0,jI 0,jI 0,jI 0,.slice none 0 0]) Z .u Z Z J6 Z Z Z Z (GB ag 1 Z ?_))
    obtain rfl:=JP h
    obtain rfl:=JP hO22
    exact GD (T.ret (GH (GN (GH (GH (GN (GH (G6 7 cV (Hl [8,0] Mn (Hs (us:= #[jI 0,jI 0,.bool false,.bool false,.bool false,jI 0,jI 0,jI 0,jI 0,jI 0,jI 0,.slice none 0 0]) 6 Z Ku J6 Z Z) (GF Z) ⟨_,_,Z,Z,Z⟩ (by rfl) (.inl Z))))))))))
   refine GD (T.seq (Io Z c27 ?_))
   obtain rfl:=JP h
   replace h:=hO22
   clear hO22
   try dsimp only at h
   refine T.exit (GT (GT (Hu (X.seq (T.seq (GC Z ?_))))))
   obtain⟨⟨x47,st48⟩,hx49,h⟩:=JO h
   try dsimp only at h
   refine GB ag 1 Z (Hh Z .u (.fn Tryz.call71 Z) (mK b13 st19 _ hx49) sT Z (GB ag 1 Z ?_))
   rcases jF h with⟨c50,h⟩ | ⟨c50,h⟩
   ·refine G9 Z c50 (GC Z ?_)
    refine GE Z (Hf (cells:= #[jI 0,jI 0,.bool false,.bool false,.bool false,jI 0,jI 0,jI 0,jI 0,jI 0,jI 0,.slice none 0 0]) fI Z (by kernel_rfl)) Z ?_
    refine Ig (cs':= #[jI 0,jI 0,.bool false,.bool false,.bool false,jI 0,jI 0,jI 0,jI 0,jI 0,jI 0,.slice none 0 0]) Z .u Z Z J6 Z Z Z Z (GB ag 1 Z ?_)
    obtain rfl:=JP h
    exact GD (T.ret (GH (G6 7 cV (Hl [6,0] Mn (Hs (us:= #[jI 0,jI 0,.bool false,.bool false,.bool false,jI 0,jI 0,jI 0,jI 0,jI 0,jI 0,.slice none 0 0]) 4 Z Ku J6 Z Z) (GF Z) ⟨_,_,Z,Z,Z⟩ (by rfl) (.inl Z)))))
   refine Ha Z c50 ?_
   refine GW (T.seq (Hp (.q 0 (.q 1 (.e 2 (.e 3 (.q 4 .nil))))) [0,0,0,1,1] Z mC (NoP.seq bA) (by kernel_rfl) ?_))
   iterate 2 refine GM Z (GR (us := [jI a0.Jz,jI a0.Jv,.bool x7,.bool x8,.bool x9,jI a0.Jx,jI a0.Jm,jI a0.JF,jI a0.I6,jI a0.I8,jI a0.Jn,.slice A17 y16.length c18]) 2 Z Ku J6 Z Z Z) Z ?_
   obtain⟨x51,hx52,h⟩:=JO h
   refine Iv Z .u (.fn Tryz.call81 Z) (iJ (⟨a0.Jz,a0.Jv,x7,x8,x9,a0.Jx,a0.Jm,a0.JF,a0.I6,a0.I8,a0.Jn,y16⟩:Bat) _ _ _ hx52) (fun _ hs=>(SrcE.res 0 hs Z (fun w G h=>ed (by decide) w G h))) Z [0,0,0,1,1] (Z) (IR (cs':= #[jI a0.Jz,jI a0.Jv,.bool x7,.bool x8,.bool x9,jI a0.Jx,jI a0.Jm,jI a0.JF,jI a0.I6,jI a0.I8,jI a0.Jn,.slice A17 y16.length c18]) Z .u Z Z J6 Z Z Z Z [0,0,0,1,1] (Z) (TD.run ag [4] Z Z ?_))
   obtain rfl:=JP h
   exact HX (T.ret (IZ (by decide) 0 Z (HK [0,0,0,0,0,0] Z (Hl [5,0] Mn (Hs (us:= #[jI a0.Jz,jI a0.Jv,.bool x7,.bool x8,.bool x9,jI a0.Jx,jI a0.Jm,jI a0.JF,jI a0.I6,jI a0.I8,jI a0.Jn,.slice A17 y16.length c18]) 3 Z Ku J6 Z Z) (GF Z) ⟨_,_,Z,Z,Z⟩ (by rfl) (.inl Z)))))
 refine Hc Z c5 (GC Z ?_)
 refine GE Z (Hf (cells:= #[jI 0,jI 0,.bool false,.bool false,.bool false,jI 0,jI 0,jI 0,jI 0,jI 0,jI 0,.slice none 0 0]) fI Z (by kernel_rfl)) Z ?_
 refine GB ag 1 Z (GU (cs':= #[jI 0,jI 0,.bool false,.bool false,.bool false,jI 0,jI 0,jI 0,jI 0,jI 0,jI 0,.slice none 0 0]) Z .u Z Z J6 Z Z Z Z (GB ag 1 Z ?_))
 obtain rfl:=JP h
 exact GD (T.ret (GH (G6 7 cV (Hl [3,0] Mn (Hs (us:= #[jI 0,jI 0,.bool false,.bool false,.bool false,jI 0,jI 0,jI 0,jI 0,jI 0,jI 0,.slice none 0 0]) 1 Z Ku J6 Z Z) (GF Z) ⟨_,_,Z,Z,Z⟩ (by rfl) (.inl Z)))))
def ij (st:I)  : Option (Bat×I):=(j5 st).bind fun (x3,st4)=>if -9223372036854775808≤(x3.JD - 49)∧(x3.JD - 49)≤9223372036854775807 then ((ue st4 (x3.JD - 49)).bind fun (x8,st9)=>(gJ st9).bind fun (x11,st12)=>if x11=0 then ((cX ([],0) x3).bind fun st15=>(ld st15).bind fun (x17,x18,st19)=>(kX).bind fun st21=>if 21≤x17.length then ((f6 st21 [(x17.drop 21),x8]).bind fun (x26,st27)=>if -9223372036854775808≤x26∧x26≤9223372036854775807 then (if x26=x3.JH then ((ig x3 x8).bind fun (x31,x34)=>if x34=0 then some (x31,st12) else ((bU st12 x34).bind fun st38=>some ((⟨0,0,false,false,false,0,0,0,0,0,0,[]⟩:Bat),st38))) else ((bU st12 5).bind fun st40=>some ((⟨0,0,false,false,false,0,0,0,0,0,0,[]⟩:Bat),st40))) else none) else none) else (some ((⟨0,0,false,false,false,0,0,0,0,0,0,[]⟩:Bat),st12))) else none
theorem lP (g:Nat) (st:I)  (r:Bat×I) (h:ij st  = some r):aE Tryz.prog 80 #[jP g] .triv (InR g st) (fun v A' N=> ∃ (A42:Option Addr) (c43:Nat),v= .agg #[jI r.1.Jz,jI r.1.Jv,.bool r.1.JG,.bool r.1.JE,.bool r.1.JB,jI r.1.Jx,jI r.1.Jm,jI r.1.JF,jI r.1.I6,jI r.1.I8,jI r.1.Jn,.slice A42 r.1.Ja.length c43]∧A'=InR g r.2∧N = [RdR (ao 7 cV) [.slice A42 r.1.Ja.length c43] r.1.Ja]):=by
 refine aU Tryz.func80 Z Tryz.ntmps80 Z ?_
 intro F w hX
 unfold ij at h
 refine GC Z (TL.alloc Z .u Tryz.zeroValue97 Z (fun b1=>(GV Z (IH Z .u Tryz.zeroValue112 Z (fun b2=>(GV Z ?_))))))
 obtain⟨⟨x3,st4⟩,hx5,h⟩:=JO h
 try dsimp only at h
 refine GB ag 1 Z (HY Z .u (.fn Tryz.call133 Z) (pP g st _ hx5) sT Z (TL.alloc Z .u Tryz.zeroValue159 Z (fun b6=>(GU (cs':=xy x3) Z .u Z Z Lc Z Z Z Z (GV Z ?_)))))
 obtain⟨c7,h⟩:=ay h
 refine GG ag aJ 0 Z 3 Z Z (GE Z (Ex.sub Z Z c7) Z ?_)
 obtain⟨⟨x8,st9⟩,hx10,h⟩:=JO h
 try dsimp only at h
 refine Iu Z .u (.fn Tryz.call67 Z) (uf g st4 (x3.JD - 49) _ hx10) sT Z (GK ag Z (T.seq (GC Z ?_)))
 obtain⟨⟨x11,st12⟩,hx13,h⟩:=JO h
 try dsimp only at h
 refine GB ag 1 Z (Iu Z .u (.fn Tryz.call23 Z) (cc g st9 _ hx13) sT Z (GB ag 1 Z ?_))
 rcases jF h with⟨c14,h⟩ | ⟨c14,h⟩
 ·refine He Z c14 (Hb Z (GE Z (GR (us:=wL14 x3) 0 Z LX Lc Z Z Z) Z ?_))
  obtain⟨st15,hx16,h⟩:=JO h
  refine Hh Z .u (.fn Tryz.call83 Z) (ir b2 ([],0) x3 _ hx16) sT Z ?_
  obtain⟨⟨x17,x18,st19⟩,hx20,h⟩:=JO h
  try dsimp only at h
  refine GV Z (Hh Z .u (.fn Tryz.call50 Z) (gR b2 st15 _ hx20) sT Z (GB ag 5 Z ?_))
  obtain⟨st21,hx22,h⟩:=JO h
  obtain⟨c24,h⟩:=ay h
  obtain⟨⟨x26,st27⟩,hx28,h⟩:=JO h
  try dsimp only at h
  obtain⟨c29,h⟩:=ay h
  refine GD (In ?_)
  refine IX (fun e Rs=> ∃ (b23:Nat) (b25:Nat),e = [(0,jP g),(2,jP b1),(3,jP b2),(4,jP b6),(5,jS x8),(10,jP g),(11,.agg (xy x3)),(12,jP g),(13,.pointer (some ⟨b6,1,none⟩)),(14,jI x3.JD),(15,jI (x3.JD - 49)),(16,jS x8),(17,jP g),(18,jI x11),(19,.bool (!(decide (x11=0)))),(21,.agg (xy x3)),(23,.tuple #[jS x17,jI x18]),(24,.tuple #[jS x17,jI x18]),(25,jS x17),(26,jI x18),(36,.bool (!(decide (x26=x3.JH))))]∧Rs = [cI 9 1 rz (.slice (some ⟨b25,0,none⟩) 2 2) [(x17.drop 21),x8],lG 238 b23 st27,aT b6 159 (xy x3),bm b2 st19,aT b1 97 #[jI 0,jI 0,.bool false,.bool false,.bool false,jI 0,jI 0,jI 0,jI 0,jI 0,jI 0,.slice none 0 0],InR g st12]) ?_ ?_
  ·refine Hp (.q 1 (.q 2 (.q 3 (.q 7 (.q 8 (.br 0 (.e 4 (.e 5 (.q 6 (.q 9 .nil)))) (.e 4 (.e 0 (.e 5 (.q 6 (.q 9 .nil))))))))))) [0,0,0,0] Z mC ul (by kernel_rfl) ?_
   refine TD.run ag [1] Z Z ?_
   refine GM Z (Ex.sSl (p:=21) (q:=x17.length) (m:=(x17.drop 21)) Z J3 (.some Z Z) .none (by first | omega | (dsimp only; omega)) (BI _ _)) Z ?_
   refine TD.run ag [3,7] Z Z (GM Z (G5 0 Z JZ Z Z) Z ?_)
   refine TD.br ?_ ?_
   ·refine TD.cge Z .u (.fn Tryz.call84 Z) (jr _ hx22) rT Z [1,1,1,1] ?_ ?_
    ·rintro _ _ _ ⟨b23,rfl,rfl,rfl⟩
     rfl
    rintro _ _ _ ⟨b23,rfl,rfl,rfl⟩
    exact Ic [0,0,0,0,0] Z (Ip (cells:= #[.string (aY (x17.drop 21)),jS x8]) Z .u jt Z (by rfl) Z [2,2,2,2] (fun _=>Z) (fun b25=>(TD.rowOf (us := [.string (aY (x17.drop 21)),jS x8]) (xs := [(x17.drop 21),x8]) (E:=rz) (z:=1) Z (Nat.le_of_ble_eq_true Z) (fun _=>⟨Z,Z,⟨Z,Z,Z⟩⟩) (TD.c1 Z .u (.fn Tryz.call85 Z) (fS b23 st21 [(x17.drop 21),x8] _ _ _ hx28) (fun _ hs=>(Src.res 0 Z (fun w G h=>ed (by decide) w G h))) Z [2,2,2,2] (Z) (GM Z (IO Z Lb Lw c29) Z (TD.run ag [9] Z Z (TD.nil (IC [0,0,0,0,0,0] ⟨b23,b25,Z,Z⟩ (by rfl) (by rfl)))))))))
   refine Ip (cells:= #[.string (aY (x17.drop 21)),jS x8]) Z .u jt Z (by rfl) Z [1,1,1,1] (fun _=>Z) (fun b25=>(TD.rowOf (us := [.string (aY (x17.drop 21)),jS x8]) (xs := [(x17.drop 21),x8]) (E:=rz) (z:=1) Z (Nat.le_of_ble_eq_true Z) (fun _=>⟨Z,Z,⟨Z,Z,Z⟩⟩) ?_))
   refine TD.cge Z .u (.fn Tryz.call84 Z) (jr _ hx22) rT Z [2,2,2,2] ?_ ?_
   ·rintro _ _ _ ⟨b23,rfl,rfl,rfl⟩
    rfl
   rintro _ _ _ ⟨b23,rfl,rfl,rfl⟩
   exact Ic [0,0,0,0,0,0] Z (TD.c0 Z .u (.fn Tryz.call85 Z) (fS b23 st21 [(x17.drop 21),x8] _ _ _ hx28) (fun _ hs=>(Src.res 0 Z (fun w G h=>ed (by decide) w G h))) Z [2,2,2,2] (Z) (GM Z (IO Z Lb Lw c29) Z (TD.run ag [9] Z Z (TD.nil (IC [1,0,0,0,0,0] ⟨b23,b25,Z,Z⟩ (by rfl) (by rfl))))))
  rintro _ _ ⟨b23,b25,rfl,rfl⟩
  rcases jF h with⟨c30,h⟩ | ⟨c30,h⟩
  ·refine X.seq (T.nn Z c30 (Hb Z (GE Z (GR (us:=wL14 x3) 2 Z LX Lc Z Z Z) Z ?_)))
   obtain⟨⟨x31,x34⟩,hx35,h⟩:=JO h
   try dsimp only at h
   refine GB ag 1 Z (It Z .u (.fn Tryz.call134 Z) (qJ x3 x8 _ hx35) rT Z ?_)
   rintro _ _ _ ⟨A32,c33,rfl,rfl,rfl⟩
   refine Hz [0,0,0,0,0,0,0] Z (GB ag 3 Z (TL.alloc Z .u Tryz.zeroValue97 Z (fun b36=>(GU (cs':=wA0 x31 A32 c33) Z .u Z Z J6 Z Z Z Z (GK ag Z (T.seq (GC Z (GB ag 2 Z ?_))))))))
   rcases jF h with⟨c37,h⟩ | ⟨c37,h⟩
   ·refine He Z c37 (Hb Z (GE Z (GR (us:=wL5 x31 A32 c33) 0 Z Ku J6 Z Z Z) Z (TL.st6 (cs':=wA0 x31 A32 c33) Z .u Z Z J6 Z Z Z Z ?_)))
    obtain rfl:=JP h
    exact GD (T.ret (G8 [7,1] MW (Hs (us:=wA0 x31 A32 c33) 6 Z Ku J6 Z Z) ⟨_,_,Z,Z,Z⟩ (by rfl) (.inl Z)))
   refine Hc Z c37 (GC Z ?_)
   obtain⟨st38,hx39,h⟩:=JO h
   refine GB ag 2 Z (TL.c7 Z .u (.fn Tryz.call70 Z) (bx g st12 x34 _ hx39) sT Z (GV Z ?_))
   refine GE Z (Hf (cells:= #[jI 0,jI 0,.bool false,.bool false,.bool false,jI 0,jI 0,jI 0,jI 0,jI 0,jI 0,.slice none 0 0]) fI Z (by kernel_rfl)) Z ?_
   refine TL.st6 (cs':= #[jI 0,jI 0,.bool false,.bool false,.bool false,jI 0,jI 0,jI 0,jI 0,jI 0,jI 0,.slice none 0 0]) Z .u Z Z J6 Z Z Z Z ?_
   obtain rfl:=JP h
   exact GD (T.ret (GH (G6 7 cV (G8 [8,0] MW (Hs (us:= #[jI 0,jI 0,.bool false,.bool false,.bool false,jI 0,jI 0,jI 0,jI 0,jI 0,jI 0,.slice none 0 0]) 7 Z Ku J6 Z Z) ⟨_,_,Z,Z,Z⟩ (by rfl) (.inl Z)))))
  refine X.seq (T.yn Z c30 (GC Z ?_))
  obtain⟨st40,hx41,h⟩:=JO h
  refine GB ag 1 Z (IK Z .u (.fn Tryz.call70 Z) (bx g st12 5 _ hx41) sT Z (GV Z ?_))
  refine GE Z (Hf (cells:= #[jI 0,jI 0,.bool false,.bool false,.bool false,jI 0,jI 0,jI 0,jI 0,jI 0,jI 0,.slice none 0 0]) fI Z (by kernel_rfl)) Z ?_
  refine IU (cs':= #[jI 0,jI 0,.bool false,.bool false,.bool false,jI 0,jI 0,jI 0,jI 0,jI 0,jI 0,.slice none 0 0]) Z .u Z Z J6 Z Z Z Z ?_
  obtain rfl:=JP h
  exact GD (T.ret (GH (G6 7 cV (G8 [6,0] MW (Hs (us:= #[jI 0,jI 0,.bool false,.bool false,.bool false,jI 0,jI 0,jI 0,jI 0,jI 0,jI 0,.slice none 0 0]) 5 Z Ku J6 Z Z) ⟨_,_,Z,Z,Z⟩ (by rfl) (.inl Z)))))
 refine Hc Z c14 (GC Z ?_)
 refine GE Z (Hf (cells:= #[jI 0,jI 0,.bool false,.bool false,.bool false,jI 0,jI 0,jI 0,jI 0,jI 0,jI 0,.slice none 0 0]) fI Z (by kernel_rfl)) Z ?_
 refine Iq (cs':= #[jI 0,jI 0,.bool false,.bool false,.bool false,jI 0,jI 0,jI 0,jI 0,jI 0,jI 0,.slice none 0 0]) Z .u Z Z J6 Z Z Z Z ?_
 obtain rfl:=JP h
 exact GD (T.ret (GH (G6 7 cV (G8 [4,0] MW (Hs (us:= #[jI 0,jI 0,.bool false,.bool false,.bool false,jI 0,jI 0,jI 0,jI 0,jI 0,jI 0,.slice none 0 0]) 3 Z Ku J6 Z Z) ⟨_,_,Z,Z,Z⟩ (by rfl) (.inl Z)))))
end Go.Proofs.YtheikonlgjdopaaGreat.Sl
