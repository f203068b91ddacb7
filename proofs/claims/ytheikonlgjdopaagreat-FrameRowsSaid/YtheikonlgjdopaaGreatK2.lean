/- frameRows_holds: part 2. -/
import Derived.Test.YtheikonlgjdopaaGreatK1
set_option maxRecDepth 100000
set_option maxHeartbeats 4000000
set_option linter.defProp false
namespace Go.Proofs.YtheikonlgjdopaaGreat.Sl
open Go.RowKit
set_option linter.unusedVariables false
set_option linter.unusedSimpArgs false
def JW := @eq_false_of_ne_true
def JX := @Tryz.sizeOf3
def JZ := @Tryz.isAgg3
def J2 := @Tryz.sizeOf23
def J4 := @Tryz.sizeOf91
def J6 := @Tryz.sizeOf97
def J9 := @Tryz.runUnderlying95
def Kb := @Tryz.runUnderlying97
def Ke := @Tryz.runUnderlying91
def Kf := @Tryz.runUnderlying23
def Ki := @Tryz.runUnderlying4
def Kp := @Tryz.runUnderlying177
def Kr := @Tryz.sizeOf4
def Kt := @Tryz.isAgg23
def Ku := @Tryz.isAgg97
def Kv := @Tryz.runUnderlying89
def Kw := @Tryz.runUnderlying212
def Ky := @Tryz.isAgg91
def KC := @Tryz.sizeOf179
def KD := @Tryz.runUnderlying174
def KE := @Tryz.runUnderlying34
def KG := @Tryz.isAgg4
def KH := @Tryz.runUnderlying189
def KJ := @Tryz.sizeOf176
def KK := @Tryz.runUnderlying49
def KU := @Tryz.sizeOf245
def KV := @Tryz.results159
def KX := @Tryz.eqGuardType23
def K1 := @Tryz.sizeOf191
def K7 := @Tryz.runUnderlying36
def K9 := @Tryz.runUnderlying245
def Ld := @Tryz.results202
def Lj := @Tryz.results199
def Ly := @Tryz.isAgg189
def Lz := @Tryz.sizeOf51
def LC := @Tryz.runUnderlying51
def LD := @Tryz.results223
def LH := @Tryz.sizeOf89
def LI := @Tryz.isAgg177
def LM := @Tryz.runUnderlying176
def LN := @Tryz.results209
def LO := @Tryz.results201
def LS := @Tryz.isAgg179
def LU := @Tryz.sizeOf193
def LY := @Tryz.results200
def LZ := @Tryz.results224
def L6 := @Tryz.runUnderlying179
def L7 := @Tryz.sizeOf177
def L8 := @Tryz.runUnderlying191
def L9 := @Tryz.runUnderlying310
def Me := @Tryz.isAgg245
def Mf := @Tryz.isAgg174
def Mg := @Tryz.isAgg176
def Mi := @Tryz.eqGuardType245
def Mj := @Tryz.results228
def Mr := @Tryz.isAgg95
def Mw := @Tryz.results92
def Mx := @Tryz.sizeOf174
def MG := @Tryz.isAgg89
def MH := @Tryz.isAgg51
def MS := @Tryz.results46
def rF:eP := [(23,1,1),(91,2,2),(91,3,4),(91,4,6),(97,11,11),(245,0,0),(245,1,1)]
theorem aS:(rF).OK Tryz.prog:=⟨FOK.mk Kf rfl Kk rfl,FOK.mk Ke rfl J2 rfl,FOK.mk Ke rfl J2 rfl,FOK.mk Ke rfl LH rfl,FOK.mk Kb rfl Tryz.sizeOf95 rfl,FOK.mk K9 rfl Kk rfl,FOK.mk K9 rfl J2 rfl,trivial⟩
def rG:List Nat := [9,89,95]
theorem cM:NOK Tryz.prog rG:=⟨Ks,MG,Mr,trivial⟩
def dU:List Hd→Int→Option (Lp Int Int)
 | [],y22=>some (Lp.go y22)
 | x28::xs,y22=>if -9223372036854775808≤((x28.Jr.length:Int)+(x28.Jj.data.length:Int))∧((x28.Jr.length:Int)+(x28.Jj.data.length:Int))≤9223372036854775807 then (if ((x28.Jr.length:Int)+(x28.Jj.data.length:Int))>100 then some (Lp.ret 0) else (dU xs y22)) else none
def dV:List Rec→Int→Option (Lp Int Int)
 | [],y5=>some (Lp.go y5)
 | x11::xs,y5=>if -9223372036854775808≤((x11.Jr.data.length:Int)+(x11.Jj.data.length:Int))∧((x11.Jr.data.length:Int)+(x11.Jj.data.length:Int))≤9223372036854775807 then (if ((x11.Jr.data.length:Int)+(x11.Jj.data.length:Int))>100 then some (Lp.ret 0) else (if (x11.Jl.length:Int)>6 then some (Lp.ret 0) else ((dU x11.Jl y5).bind fun e=>match e with | .ret r=>some (Lp.ret r) | .go y35=>(dV xs y35)))) else none
theorem rH (y5:Int):dV [] y5=(some (Lp.go y5)):=rfl
theorem rI (x11:Rec) (xs:List Rec) (y5:Int):dV (x11::xs) y5=(if -9223372036854775808≤((x11.Jr.data.length:Int)+(x11.Jj.data.length:Int))∧((x11.Jr.data.length:Int)+(x11.Jj.data.length:Int))≤9223372036854775807 then (if ((x11.Jr.data.length:Int)+(x11.Jj.data.length:Int))>100 then some (Lp.ret 0) else (if (x11.Jl.length:Int)>6 then some (Lp.ret 0) else ((dU x11.Jl y5).bind fun e=>match e with | .ret r=>some (Lp.ret r) | .go y35=>(dV xs y35)))) else none):=rfl
def iP (a0:Bat):Option (Int):=if (a0.Ja.length:Int)>12 then some 0 else ((dV a0.Ja 0).bind fun e=>match e with | .ret r=>some r | .go y37=>some 1)
theorem rJ (a0:Bat) (A1:Option Addr) (c2:Nat) (r:Int) (h:iP a0=some r):aE Tryz.prog 92 #[.agg (wA0 a0 A1 c2)] (RX.of (ao 7 cV) [.slice A1 a0.Ja.length c2] a0.Ja) (aO) (fun v A' N=>v=jI r∧A'=aO∧N = []):=by
 refine aU Tryz.func92 Z Tryz.ntmps92 Z ?_
 intro F w hX
 unfold iP at h
 refine GC Z (TL.box Z .u Z Z (fun b3=>(GK aS Z (T.seq (GC Z (GG aS cM 0 Z 2 Z Z (GE Z (GQ Z J9) Z (GB aS 1 Z ?_))))))))
 rcases jF h with⟨c4,h⟩ | ⟨c4,h⟩
 ·refine G9 Z c4 (GC Z (GB aS 1 Z ?_))
  obtain rfl:=JP h
  exact GD (T.ret (GH (GL [1] Mw (GF Z))))
 refine Ha Z c4 (GW (T.seq (GC Z (GG aS cM 0 Z 2 Z Z (GE Z (GQ Z J9) Z (GK aS Z (T.block ?_)))))))
 obtain⟨E7,hE8,hO9⟩:=JO h
 have hk13len:=Hq hX
 refine Hv (fun m e Rs=> ∃ (y5:Int) (k6:Nat),k6+m=a0.Ja.length∧e = [(2,jI y5),(12,.slice A1 a0.Ja.length c2),(13,jI (a0.Ja.length:Int)),(14,jI (k6:Int))]∧Rs = [aT b3 97 (wA0 a0 A1 c2),aO]∧dV (a0.Ja.drop k6) y5=some E7) (a0.Ja.length) [0,0] ⟨0,0,by simp,Z,Z,by rw[List.drop_zero]; exact hE8⟩ (by rfl) (by rfl) ?_
 clear hE8 h
 rintro m10 _ _ ⟨y5,k6,hk13,rfl,rfl,h⟩
 cases m10 with
 | zero =>
  rw[List.drop_of_length_le (by omega),rH] at h
  have hk13ge: ¬ ((k6:Int)<(a0.Ja.length:Int)):=by omega
  refine GC Z (GK aS Z (T.seq (G7 Z (JT hk13ge) ?_)))
  obtain rfl:=JP h
  replace h:=hO9
  clear hO9
  try dsimp only at h
  refine T.exit (GT (GT (Hu (X.seq (GC Z (GB aS 1 Z ?_))))))
  obtain rfl:=JP h
  exact GD (T.ret (GL [1] Mw (GF Z)))
 | succ m10 =>
  obtain⟨x11,hxx11⟩: ∃ x,a0.Ja[k6]? = some x:=⟨_,List.getElem?_eq_getElem (by omega)⟩
  rw[bz hxx11,rI] at h
  have hk13lt:(k6:Int)<(a0.Ja.length:Int):=by omega
  refine GC Z (GK aS Z (T.seq (GO Z (JS hk13lt) ?_)))
  obtain⟨gz14,oz14,rfl,z14cs,z14cl,z14cc,z14nf,z14r⟩:=Hg (by decide) hX hxx11
  obtain⟨z14S,z14r,z14rr⟩:=z14r
  obtain⟨A15,c16,rfl,z14s0⟩:=z14r
  have hX17:(RX.of (ao 3 db) [.slice A15 x11.Jl.length c16] x11.Jl).reads w F:=⟨z14S,z14s0,z14rr⟩
  refine GW (T.seq (T.block (GC Z ?_)))
  refine GE Z (GY (k:=k6) Z Z Z J9 J4 (JV hxx11).1) Z ?_
  refine GE Z (HW (us:=wL1 x11 A15 c16) 0 Z Ky J4 z14nf z14cc Z Z Z) Z (TL.alloc Z .u Tryz.zeroValue91 Z (fun b18=>(GU (cs':=wA2 x11 A15 c16) Z .u Z Z J4 Z Z Z Z (GD (T.seq (GC Z (GG aS cM 0 Z 3 Z Z (GE Z (Hw Z J3) Z (GG aS cM 0 Z 3 Z Z (GE Z (Hw Z J3) Z ?_))))))))))
  obtain⟨c19,h⟩:=ay h
  refine GE Z (Ex.add Z Z c19) Z ?_
  rcases jF h with⟨c20,h⟩ | ⟨c20,h⟩
  ·refine GB aS 2 Z (GI 28 Z (JS c20) (Hk aS Z (GO Z Z (GC Z (GB aS 1 Z ?_)))))
   obtain rfl:=JP h
   obtain rfl:=JP hO9
   exact GD (T.ret (GH (GN (GH (GH (GN (GH (GL [2] Mw (GF Z)))))))))
  refine GB aS 2 Z (GI 28 Z (JT c20) (GG aS cM 0 Z 2 Z Z (TL.q Z (.g Z Z Z) (GQ Z Kv) Z (GJ aS 2 Z ?_))))
  rcases jF h with⟨c21,h⟩ | ⟨c21,h⟩
  ·refine G9 Z c21 (GC Z (GB aS 1 Z ?_))
   obtain rfl:=JP h
   obtain rfl:=JP hO9
   exact GD (T.ret (GH (GN (GH (GH (GN (GH (GL [2] Mw (GF Z)))))))))
  refine Ha Z c21 (Hb Z (GG aS cM 0 Z 2 Z Z (GE Z (GQ Z Kv) Z (GK aS Z (T.block ?_)))))
  obtain⟨E24,hE25,hO26⟩:=JO h
  have hk30len:=Hq hX17
  refine Hv (fun m e Rs=> ∃ (y22:Int) (k23:Nat),k23+m=x11.Jl.length∧e = [(2,jI y22),(12,.slice (some ⟨gz14,oz14,none⟩) a0.Ja.length c2),(13,jI (a0.Ja.length:Int)),(14,jI (k6:Int)),(35,.slice A15 x11.Jl.length c16),(36,jI (x11.Jl.length:Int)),(37,jI (k23:Int))]∧Rs = [aT b18 91 (wA2 x11 A15 c16),aT b3 97 #[jI a0.Jz,jI a0.Jv,.bool a0.JG,.bool a0.JE,.bool a0.JB,jI a0.Jx,jI a0.Jm,jI a0.JF,jI a0.I6,jI a0.I8,jI a0.Jn,.slice (some ⟨gz14,oz14,none⟩) a0.Ja.length c2],aO]∧dU (x11.Jl.drop k23) y22=some E24) (x11.Jl.length) [0,0,0] ⟨y5,0,by simp,Z,Z,by rw[List.drop_zero]; exact hE25⟩ (by rfl) (by rfl) ?_
  clear hE25 h
  rintro m27 _ _ ⟨y22,k23,hk30,rfl,rfl,h⟩
  cases m27 with
  | zero =>
   rw[List.drop_of_length_le (by omega),dU] at h
   have hk30ge: ¬ ((k23:Int)<(x11.Jl.length:Int)):=by omega
   refine GC Z (GK aS Z (T.seq (G7 Z (JT hk30ge) ?_)))
   obtain rfl:=JP h
   replace h:=hO26
   clear hO26
   try dsimp only at h
   exact T.exit (GT (GT (Hu (GX (X.seq (T.region Z (GE Z (Ex.add Z Z (by omega)) Z (GB aS 1 Z (TL.nil (X.back (m':=m10) [1,1] (by omega) ⟨y22,k6+1,by omega,Z,Z,h⟩ (by rfl) (by rfl)))))))))))
  | succ m27 =>
   obtain⟨x28,hxx28⟩: ∃ x,x11.Jl[k23]? = some x:=⟨_,List.getElem?_eq_getElem (by omega)⟩
   rw[bz hxx28,dU] at h
   have hk30lt:(k23:Int)<(x11.Jl.length:Int):=by omega
   refine GC Z (GK aS Z (T.seq (GO Z (JS hk30lt) ?_)))
   obtain⟨gz31,oz31,rfl,z31cs,z31cl,z31cc,z31nf,z31r⟩:=Hg (by decide) hX17 hxx28
   obtain⟨z31S,z31r,z31rr⟩:=z31r
   obtain rfl:z31cs=(wL3 x28):=z31r
   refine GW (T.seq (T.block (GC Z ?_)))
   refine GE Z (GY (k:=k23) Z Z Z Kv KU (JV hxx28).1) Z ?_
   refine GE Z (HW (us:=wL3 x28) 0 Z Me KU z31nf z31cc Z Z Z) Z (TL.alloc Z .u Tryz.zeroValue245 Z (fun b32=>(GU (cs':=wA4 x28) Z .u Z Z KU Z Z Z Z (GV Z (GG aS cM 0 Z 2 Z Z (GE Z (Hw Z J3) Z (GG aS cM 0 Z 3 Z Z (GE Z (Hw Z J3) Z ?_))))))))
   obtain⟨c33,h⟩:=ay h
   refine GE Z (Ex.add Z Z c33) Z (GB aS 1 Z ?_)
   rcases jF h with⟨c34,h⟩ | ⟨c34,h⟩
   ·refine G9 Z c34 (GC Z (GB aS 1 Z ?_))
    obtain rfl:=JP h
    obtain rfl:=JP hO26
    obtain rfl:=JP hO9
    exact GD (T.ret (GN (GH (GH (GN (GN (GH (GH (GN (GH (GL [3] Mw (GF Z))))))))))))
   exact Ha Z c34 (T.skip (GX (X.seq (T.region Z (GE Z (Ex.add Z Z (by omega)) Z (GB aS 1 Z (TL.nil (X.back (m':=m27) [1,1,1] (by omega) ⟨y22,k23+1,by omega,Z,Z,h⟩ (by rfl) (by rfl)))))))))
def rK:eP := [(23,1,1),(36,0,0),(36,1,2),(36,2,3),(36,3,4),(51,3,4),(176,0,0),(176,1,1),(179,1,1),(191,1,1)]
theorem aB:(rK).OK Tryz.prog:=⟨FOK.mk Kf rfl Kk rfl,FOK.mk K7 rfl J2 rfl,FOK.mk K7 rfl JX rfl,FOK.mk K7 rfl JX rfl,FOK.mk K7 rfl Tryz.sizeOf34 rfl,FOK.mk LC rfl Tryz.sizeOf49 rfl,FOK.mk LM rfl Kk rfl,FOK.mk LM rfl Mx rfl,FOK.mk L6 rfl L7 rfl,FOK.mk L8 rfl Tryz.sizeOf189 rfl,trivial⟩
def rL:List Nat := [3,9,34,49,174,177,189]
theorem bH:NOK Tryz.prog rL:=⟨JZ,Ks,Tryz.isAgg34,Tryz.isAgg49,Mf,LI,Ly,trivial⟩
theorem nW:BOK Tryz.prog 51 #[.bool false,.string ⟨#[]⟩,.int .i64 0,.int .i64 0,.slice none 0 0] [(0,2),(2,1),(3,1),(4,1)]:=BOK.mk Tryz.zeroValue51 LC (by intro w; simp)
theorem nv:BOK Tryz.prog 191 #[.string ⟨#[]⟩,.slice none 0 0] [(0,1),(1,1)]:=BOK.mk Tryz.zeroValue191 L8 (by intro w; simp)
theorem mR:SOK Tryz.prog 49 191 1 2 #[.string ⟨#[]⟩,.slice none 0 0]:=SOK.mk KK K1 Tryz.zeroValue191 (by decide) (by kernel_rfl)
theorem mu:SOK Tryz.prog 189 193 1 2 #[.int .i64 0,.slice none 0 0]:=SOK.mk KH LU Tryz.zeroValue193 (by decide) (by kernel_rfl)
theorem nw:(Tryz.prog.info? 191).map (fun i=>(i.zero,i.size,i.bytes))=some (some (.agg #[.string ⟨#[]⟩,.slice none 0 0]),2,40):=by kernel_rfl
theorem nz:(Tryz.prog.info? 193).map (fun i=>(i.zero,i.size,i.bytes))=some (some (.agg #[.int .i64 0,.slice none 0 0]),2,32):=by kernel_rfl
def fB:List Bat→Int→Option (Lp Int Int)
 | [],y35=>some (Lp.go y35)
 | x41::xs,y35=>(iP x41).bind fun x49=>if x49=0 then some (Lp.ret 0) else (fB xs y35)
def ez:List aR→Int→Int→Option (Lp Int (Int×Int))
 | [],y19,y20=>some (Lp.go (y19,y20))
 | x26::xs,y19,y20=>if (IntKind.i64.wrap (y20+(IntKind.i64.wrap (10+(IntKind.i64.wrap (100*(x26.Jf.length:Int)))))))>2000 then some (Lp.ret 0) else ((fB x26.Jf y19).bind fun e=>match e with | .ret r=>some (Lp.ret r) | .go y52=>(ez xs y52 (IntKind.i64.wrap (y20+(IntKind.i64.wrap (10+(IntKind.i64.wrap (100*(x26.Jf.length:Int)))))))))
def fC:List aD→Int→Int→Option (Lp Int (Int×Int))
 | [],y4,y5=>some (Lp.go (y4,y5))
 | x11::xs,y4,y5=>(ez x11.I7 y4 (IntKind.i64.wrap (y5+(IntKind.i64.wrap ((x11.Jd.length:Int)+10))))).bind fun e=>match e with | .ret r=>some (Lp.ret r) | .go (y54,y55)=>(fC xs y54 y55)
def kV (a0:aw):Option (Int):=(fC a0.I5 0 (a0.Jc.data.length:Int)).bind fun e=>match e with | .ret r=>some r | .go (y57,y58)=>(if y58>2000 then some 0 else some 1)
theorem ux (a0:aw) (A1:Option Addr) (c2:Nat) (r:Int) (h:kV a0=some r):aE Tryz.prog 46 #[.agg #[.bool a0.Jc.null,jS a0.Jc.data,jI a0.Ju,jI a0.Jb,.slice A1 a0.I5.length c2]] (RX.of (ao 2 aH) [.slice A1 a0.I5.length c2] a0.I5) (aO) (fun v A' N=>v=jI r∧A'=aO∧N = []):=by
 refine aU Tryz.func46 Z Tryz.ntmps46 Z ?_
 intro F w hX
 unfold kV at h
 refine GC Z (TL.box Z .u Z Z (fun b3=>(G4 aB Z Z (GG aB bH 0 Z 3 Z Z (GE Z (Hw Z J3) Z (GK aB Z (T.seq (GC Z ?_))))))))
 refine GG aB bH 0 Z 2 Z Z (GE Z (GQ Z KE) Z (GK aB Z (T.block ?_)))
 obtain⟨E7,hE8,hO9⟩:=JO h
 have hk13len:=Hq hX
 refine Hv (fun m e Rs=> ∃ (y4:Int) (y5:Int) (k6:Nat),k6+m=a0.I5.length∧e = [(2,jI y4),(3,jI y5),(15,.slice A1 a0.I5.length c2),(16,jI (a0.I5.length:Int)),(17,jI (k6:Int))]∧Rs = [aT b3 36 #[.bool a0.Jc.null,jS a0.Jc.data,jI a0.Ju,jI a0.Jb,.slice A1 a0.I5.length c2],aO]∧fC (a0.I5.drop k6) y4 y5=some E7) (a0.I5.length) [0,0] ⟨0,(a0.Jc.data.length:Int),0,by simp,Z,Z,by rw[List.drop_zero]; exact hE8⟩ (by rfl) (by rfl) ?_
 clear hE8 h
 rintro m10 _ _ ⟨y4,y5,k6,hk13,rfl,rfl,h⟩
 cases m10 with
 | zero =>
  rw[List.drop_of_length_le (by omega),fC] at h
  have hk13ge: ¬ ((k6:Int)<(a0.I5.length:Int)):=by omega
  refine GC Z (GK aB Z (T.seq (G7 Z (JT hk13ge) ?_)))
  obtain rfl:=JP h
  replace h:=hO9
  clear hO9
  try dsimp only at h
  refine T.exit (GT (GT (Hu (X.seq (T.seq (GC Z (GB aB 2 Z ?_)))))))
  rcases jF h with⟨c61,h⟩ | ⟨c61,h⟩
  ·refine G9 Z c61 (GC Z (GB aB 1 Z ?_))
   obtain rfl:=JP h
   exact GD (T.ret (GH (GL [1] MS (GF Z))))
  refine Ha Z c61 (Hb Z (GB aB 1 Z ?_))
  obtain rfl:=JP h
  exact GD (T.ret (GL [1] MS (GF Z)))
 | succ m10 =>
  obtain⟨x11,hxx11⟩: ∃ x,a0.I5[k6]? = some x:=⟨_,List.getElem?_eq_getElem (by omega)⟩
  rw[bz hxx11,fC] at h
  have hk13lt:(k6:Int)<(a0.I5.length:Int):=by omega
  refine GC Z (GK aB Z (T.seq (GO Z (JS hk13lt) ?_)))
  obtain⟨gz14,oz14,rfl,z14cs,z14cl,z14cc,z14nf,z14r⟩:=Hg (by decide) hX hxx11
  obtain⟨z14S,z14r,z14rr⟩:=z14r
  obtain⟨A15,c16,rfl,z14s0⟩:=z14r
  have hX17:(RX.of (ao 2 bN) [.slice A15 x11.I7.length c16] x11.I7).reads w F:=⟨z14S,z14s0,z14rr⟩
  refine GW (T.seq (T.block (GC Z ?_)))
  refine GE Z (GY (k:=k6) Z Z Z KE KJ (JV hxx11).1) Z ?_
  refine GE Z (HW (us := [jS x11.Jd,.slice A15 x11.I7.length c16]) 0 Z Mg KJ z14nf z14cc Z Z Z) Z (TL.alloc Z .u Tryz.zeroValue176 Z (fun b18=>(GU (cs':= #[jS x11.Jd,.slice A15 x11.I7.length c16]) Z .u Z Z KJ Z Z Z Z (GV Z (GG aB bH 0 Z 3 Z Z (GE Z (Hw Z J3) Z ?_))))))
  iterate 2 refine GE Z (Ex.addw Z Z) Z ?_
  refine G4 aB Z Z (GG aB bH 0 Z 2 Z Z (GE Z (GQ Z KD) Z (GK aB Z (T.block ?_))))
  obtain⟨E22,hE23,hO24⟩:=JO h
  have hk28len:=Hq hX17
  refine Hv (fun m e Rs=> ∃ (y19:Int) (y20:Int) (k21:Nat),k21+m=x11.I7.length∧e = [(2,jI y19),(3,jI y20),(15,.slice (some ⟨gz14,oz14,none⟩) a0.I5.length c2),(16,jI (a0.I5.length:Int)),(17,jI (k6:Int)),(28,.slice A15 x11.I7.length c16),(29,jI (x11.I7.length:Int)),(30,jI (k21:Int))]∧Rs = [aT b18 176 #[jS x11.Jd,.slice A15 x11.I7.length c16],aT b3 36 #[.bool a0.Jc.null,jS a0.Jc.data,jI a0.Ju,jI a0.Jb,.slice (some ⟨gz14,oz14,none⟩) a0.I5.length c2],aO]∧ez (x11.I7.drop k21) y19 y20=some E22) (x11.I7.length) [0,0,0] ⟨y4,(IntKind.i64.wrap (y5+(IntKind.i64.wrap ((x11.Jd.length:Int)+10)))),0,by simp,Z,Z,by rw[List.drop_zero]; exact hE23⟩ (by rfl) (by rfl) ?_
  clear hE23 h
  rintro m25 _ _ ⟨y19,y20,k21,hk28,rfl,rfl,h⟩
  cases m25 with
  | zero =>
   rw[List.drop_of_length_le (by omega),ez] at h
   have hk28ge: ¬ ((k21:Int)<(x11.I7.length:Int)):=by omega
   refine GC Z (GK aB Z (T.seq (G7 Z (JT hk28ge) ?_)))
   obtain rfl:=JP h
   replace h:=hO24
   clear hO24
   try dsimp only at h
   exact T.exit (GT (GT (Hu (GX (X.seq (T.region Z (GE Z (Ex.add Z Z (by omega)) Z (GB aB 1 Z (TL.nil (X.back (m':=m10) [1,1] (by omega) ⟨y19,y20,k6+1,by omega,Z,Z,h⟩ (by rfl) (by rfl)))))))))))
  | succ m25 =>
   obtain⟨x26,hxx26⟩: ∃ x,x11.I7[k21]? = some x:=⟨_,List.getElem?_eq_getElem (by omega)⟩
   rw[bz hxx26,ez] at h
   have hk28lt:(k21:Int)<(x11.I7.length:Int):=by omega
   refine GC Z (GK aB Z (T.seq (GO Z (JS hk28lt) ?_)))
   obtain⟨gz29,oz29,rfl,z29cs,z29cl,z29cc,z29nf,z29r⟩:=Hg (by decide) hX17 hxx26
   obtain⟨z29S,z29r,z29rr⟩:=z29r
   obtain⟨A30,c31,rfl,z29s0⟩:=z29r
   have hX32:(RX.of (ao 12 dN) [.slice A30 x26.Jf.length c31] x26.Jf).reads w F:=⟨z29S,z29s0,z29rr⟩
   refine GW (T.seq (T.block (GC Z ?_)))
   refine GE Z (GY (k:=k21) Z Z Z KD KC (JV hxx26).1) Z ?_
   refine GE Z (HW (us := [jI x26.Jp,.slice A30 x26.Jf.length c31]) 0 Z LS KC z29nf z29cc Z Z Z) Z (TL.alloc Z .u Tryz.zeroValue179 Z (fun b33=>(GU (cs':= #[jI x26.Jp,.slice A30 x26.Jf.length c31]) Z .u Z Z KC Z Z Z Z (GD (T.seq (GC Z (GG aB bH 0 Z 3 Z Z (GE Z (GQ Z Kp) Z (GE Z (Ex.mulw Z Z) Z ?_)))))))))
   iterate 2 refine GE Z (Ex.addw Z Z) Z ?_
   refine G4 aB Z Z (GB aB 2 Z ?_)
   rcases jF h with⟨c34,h⟩ | ⟨c34,h⟩
   ·refine G9 Z c34 (GC Z (GB aB 1 Z ?_))
    obtain rfl:=JP h
    obtain rfl:=JP hO24
    obtain rfl:=JP hO9
    exact GD (T.ret (GH (GN (GH (GH (GN (GN (GH (GH (GN (GH (GL [3] MS (GF Z)))))))))))))
   refine Ha Z c34 (Hb Z (GG aB bH 0 Z 2 Z Z (GE Z (GQ Z Kp) Z (GK aB Z (T.block ?_)))))
   obtain⟨E37,hE38,hO39⟩:=JO h
   have hk43len:=Hq hX32
   refine Hv (fun m e Rs=> ∃ (y35:Int) (k36:Nat),k36+m=x26.Jf.length∧e = [(2,jI y35),(3,jI (IntKind.i64.wrap (y20+(IntKind.i64.wrap (10+(IntKind.i64.wrap (100*(x26.Jf.length:Int)))))))),(15,.slice (some ⟨gz14,oz14,none⟩) a0.I5.length c2),(16,jI (a0.I5.length:Int)),(17,jI (k6:Int)),(28,.slice (some ⟨gz29,oz29,none⟩) x11.I7.length c16),(29,jI (x11.I7.length:Int)),(30,jI (k21:Int)),(44,.slice A30 x26.Jf.length c31),(45,jI (x26.Jf.length:Int)),(46,jI (k36:Int))]∧Rs = [aT b33 179 #[jI x26.Jp,.slice A30 x26.Jf.length c31],aT b18 176 #[jS x11.Jd,.slice (some ⟨gz29,oz29,none⟩) x11.I7.length c16],aT b3 36 #[.bool a0.Jc.null,jS a0.Jc.data,jI a0.Ju,jI a0.Jb,.slice (some ⟨gz14,oz14,none⟩) a0.I5.length c2],aO]∧fB (x26.Jf.drop k36) y35=some E37) (x26.Jf.length) [0,0,0,0] ⟨y19,0,by simp,Z,Z,by rw[List.drop_zero]; exact hE38⟩ (by rfl) (by rfl) ?_
   clear hE38 h
   rintro m40 _ _ ⟨y35,k36,hk43,rfl,rfl,h⟩
   cases m40 with
   | zero =>
    rw[List.drop_of_length_le (by omega),fB] at h
    have hk43ge: ¬ ((k36:Int)<(x26.Jf.length:Int)):=by omega
    refine GC Z (GK aB Z (T.seq (G7 Z (JT hk43ge) ?_)))
    obtain rfl:=JP h
    replace h:=hO39
    clear hO39
    try dsimp only at h
    exact T.exit (GT (GT (Hu (GX (X.seq (T.region Z (GE Z (Ex.add Z Z (by omega)) Z (GB aB 1 Z (TL.nil (X.back (m':=m25) [1,1,1] (by omega) ⟨y35,(IntKind.i64.wrap (y20+(IntKind.i64.wrap (10+(IntKind.i64.wrap (100*(x26.Jf.length:Int))))))),k21+1,by omega,Z,Z,h⟩ (by rfl) (by rfl)))))))))))
   | succ m40 =>
    obtain⟨x41,hxx41⟩: ∃ x,x26.Jf[k36]? = some x:=⟨_,List.getElem?_eq_getElem (by omega)⟩
    rw[bz hxx41,fB] at h
    have hk43lt:(k36:Int)<(x26.Jf.length:Int):=by omega
    refine GC Z (GK aB Z (T.seq (GO Z (JS hk43lt) ?_)))
    obtain⟨gz44,oz44,rfl,z44cs,z44cl,z44cc,z44nf,z44r⟩:=Hg (by decide) hX32 hxx41
    obtain⟨z44S,z44r,z44rr⟩:=z44r
    obtain⟨A45,c46,rfl,z44s0⟩:=z44r
    have hX47:(RX.of (ao 7 cV) [.slice A45 x41.Ja.length c46] x41.Ja).reads w F:=⟨z44S,z44s0,z44rr⟩
    refine GW (T.seq (T.block (GC Z ?_)))
    refine GE Z (GY (k:=k36) Z Z Z Kp J6 (JV hxx41).1) Z ?_
    refine GE Z (HW (us:=wL5 x41 A45 c46) 0 Z Ku J6 z44nf z44cc Z Z Z) Z (TL.alloc Z .u Tryz.zeroValue97 Z (fun b48=>(GU (cs':=wA0 x41 A45 c46) Z .u Z Z J6 Z Z Z Z (GV Z (GE Z (GR (us:=wL5 x41 A45 c46) 0 Z Ku J6 Z Z Z) Z ?_)))))
    obtain⟨x49,hx50,h⟩:=JO h
    refine GZ Z .u (.fn Tryz.call92 Z) (rJ x41 _ _ _ hx50) (fun _ hs=>(GS hs hX47)) Z (GB aB 1 Z ?_)
    rcases jF h with⟨c51,h⟩ | ⟨c51,h⟩
    ·refine G9 Z c51 (GC Z (GB aB 1 Z ?_))
     obtain rfl:=JP h
     obtain rfl:=JP hO39
     obtain rfl:=JP hO24
     obtain rfl:=JP hO9
     exact GD (T.ret (GN (GH (GH (GN (GN (GH (GH (GN (GN (GH (GH (GN (GH (GL [4] MS (GF Z))))))))))))))))
    exact Ha Z c51 (T.skip (GX (X.seq (T.region Z (GE Z (Ex.add Z Z (by omega)) Z (GB aB 1 Z (TL.nil (X.back (m':=m40) [1,1,1,1] (by omega) ⟨y35,k36+1,by omega,Z,Z,h⟩ (by rfl) (by rfl)))))))))
def gS:List aR→List je→Option (List je)
 | [],y24=>some y24
 | x31::xs,y24=>if (y24.length+1)*32≤140737488355328 then (gS xs (y24 ++ [(⟨x31.Jp,x31.Jf⟩:je)])) else none
def gT:List aD→List dT→Option (List dT)
 | [],y7=>some y7
 | x14::xs,y7=>(gS x14.I7 []).bind fun y44=>if (y7.length+1)*40≤140737488355328 then (gT xs (y7 ++ [(⟨x14.Jd,y44⟩:dT)])) else none
def lh (a0:aw):Option (bF):=(gT a0.I5 []).bind fun y56=>some (⟨a0.Jc,a0.Ju,a0.Jb,y56⟩:bF)
theorem vW (a0:aw) (A1:Option Addr) (c2:Nat) (r:bF) (h:lh a0=some r):pu Tryz.prog 57 #[.agg #[.bool a0.Jc.null,jS a0.Jc.data,jI a0.Ju,jI a0.Jb,.slice A1 a0.I5.length c2]] (RX.of (ao 2 aH) [.slice A1 a0.I5.length c2] a0.I5) aO (fun v A' L=> ∃ (A59:Option Addr) (c60:Nat),v= .agg #[.bool r.Jc.null,jS r.Jc.data,jI r.Ju,jI r.Jb,.slice A59 r.I5.length c60]∧A'=aO∧L = [(⟨_,ao 2 cm,[.slice A59 r.I5.length c60],r.I5⟩:RO)]):=by
 refine Au Tryz.func57 Z Tryz.ntmps57 Z ?_
 intro F w S hS hSF
 have hX:(RX.of (ao 2 aH) [.slice A1 a0.I5.length c2] a0.I5).reads w F:=⟨S,hS,hSF⟩
 unfold lh at h
 refine GC Z (TL.box Z .u Z Z (fun b3=>(TL.alloc Z .u Tryz.zeroValue51 Z (fun b4=>(GV Z (GB aB 1 Z (GE Z (GR (us := [.bool a0.Jc.null,jS a0.Jc.data]) 1 Z Kt J2 Z Z Z) Z (GG aB bH 1 Z 4 Z Z ?_))))))))
 refine GE Z (Hf (cells:= #[.bool a0.Jc.null,jS a0.Jc.data,jI a0.Ju,jI a0.Jb,.slice none 0 0]) nW Z (by kernel_rfl)) Z ?_
 refine TL.alloc Z .u Tryz.zeroValue51 Z (fun b5=>(GU (cs':= #[.bool a0.Jc.null,jS a0.Jc.data,jI a0.Ju,jI a0.Jb,.slice none 0 0]) Z .u Z Z Lz Z Z Z Z (GD (T.seq (GC Z (GG aB bH 2 Z 2 Z Z (GE Z (GQ Z KE) Z (GK aB Z (T.block (Ih 191 2 (fy w S cm) ?_))))))))))
 obtain⟨E10,hE11,hO12⟩:=JO h
 have hk16len:=Hq hX
 refine Hv (fun m e Rs=> ∃ (k6:Nat) (y7:List dT) (A8:Option Addr) (c9:Nat),k6+m=a0.I5.length∧e = [(2,jP b4),(3,jP b5),(17,.slice A1 a0.I5.length c2),(18,jI (a0.I5.length:Int)),(19,jI (k6:Int))]∧Rs = [cI 191 2 (fy w S cm) (.slice A8 y7.length c9) y7,aT b5 51 #[.bool a0.Jc.null,jS a0.Jc.data,jI a0.Ju,jI a0.Jb,.slice A8 y7.length c9],aT b4 51 #[.bool false,.string ⟨#[]⟩,jI 0,jI 0,.slice none 0 0],aT b3 36 #[.bool a0.Jc.null,jS a0.Jc.data,jI a0.Ju,jI a0.Jb,.slice A1 a0.I5.length c2],aO]∧gT (a0.I5.drop k6) y7=some E10) (a0.I5.length) [0,0,0,0,0] ⟨0,[],none,0,by simp,Z,Z,by rw[List.drop_zero]; exact hE11⟩ (by rfl) (by rfl) ?_
 clear hE11 h
 rintro m13 _ _ ⟨k6,y7,A8,c9,hk16,rfl,rfl,h⟩
 cases m13 with
 | zero =>
  rw[List.drop_of_length_le (by omega),gT] at h
  have hk16ge: ¬ ((k6:Int)<(a0.I5.length:Int)):=by omega
  refine GC Z (GK aB Z (T.seq (G7 Z (JT hk16ge) ?_)))
  obtain rfl:=JP h
  replace h:=hO12
  clear hO12
  try dsimp only at h
  refine T.exit (GT (GT (Hu (X.seq (GC Z (GE Z (GR (us := [.bool a0.Jc.null,jS a0.Jc.data,jI a0.Ju,jI a0.Jb,.slice A8 y7.length c9]) 1 Z MH Lz Z Z Z) Z (Iq (cs':= #[.bool a0.Jc.null,jS a0.Jc.data,jI a0.Ju,jI a0.Jb,.slice A8 y7.length c9]) Z .u Z Z Lz Z Z Z Z ?_)))))))
  obtain rfl:=JP h
  exact GD (T.ret (X.shutO (by decide) 0 Z (HK [0,0,0,0,0] Z (G8 [4,0] Tryz.results57 (Hs (us:= #[.bool a0.Jc.null,jS a0.Jc.data,jI a0.Ju,jI a0.Jb,.slice A8 y7.length c9]) 2 Z MH Lz Z Z) ⟨_,⟨_,_,Z,Z,Z⟩,Z⟩ (by rfl) (.inl Z)))))
 | succ m13 =>
  obtain⟨x14,hxx14⟩: ∃ x,a0.I5[k6]? = some x:=⟨_,List.getElem?_eq_getElem (by omega)⟩
  rw[bz hxx14,gT] at h
  have hk16lt:(k6:Int)<(a0.I5.length:Int):=by omega
  refine GC Z (GK aB Z (T.seq (GO Z (JS hk16lt) ?_)))
  obtain⟨gz17,oz17,rfl,z17cs,z17cl,z17cc,z17nf,z17r⟩:=I1 (by decide) hS hSF hxx14
  obtain⟨A18,c19,rfl,z17s0⟩:=z17r
  have hX20:(RX.of (ao 2 bN) [.slice A18 x14.I7.length c19] x14.I7).reads w F:=⟨S,z17s0,hSF⟩
  refine GW (T.seq (T.block (GC Z ?_)))
  refine GE Z (GY (k:=k6) Z Z Z KE KJ (JV hxx14).1) Z ?_
  refine GE Z (HW (us := [jS x14.Jd,.slice A18 x14.I7.length c19]) 0 Z Mg KJ z17nf z17cc Z Z Z) Z (TL.alloc Z .u Tryz.zeroValue176 Z (fun b21=>(GU (cs':= #[jS x14.Jd,.slice A18 x14.I7.length c19]) Z .u Z Z KJ Z Z Z Z (GV Z (GG aB bH 0 Z 2 Z Z ?_)))))
  refine GE Z (Hf (cells:= #[jS x14.Jd,.slice none 0 0]) nv Z (by kernel_rfl)) Z ?_
  refine TL.alloc Z .u Tryz.zeroValue191 Z (fun b22=>(GU (cs':= #[jS x14.Jd,.slice none 0 0]) Z .u Z Z K1 Z Z Z Z (GD (T.seq (GC Z (GG aB bH 1 Z 2 Z Z (GE Z (GQ Z KD) Z (GK aB Z (T.block (Ih 193 2 (fy w S ff) ?_))))))))))
  obtain⟨E27,hE28,hO29⟩:=JO h
  have hk33len:=Hq hX20
  refine Hv (fun m e Rs=> ∃ (k23:Nat) (y24:List je) (A25:Option Addr) (c26:Nat),k23+m=x14.I7.length∧e = [(2,jP b4),(3,jP b5),(6,jP b22),(17,.slice (some ⟨gz17,oz17,none⟩) a0.I5.length c2),(18,jI (a0.I5.length:Int)),(19,jI (k6:Int)),(27,.slice A18 x14.I7.length c19),(28,jI (x14.I7.length:Int)),(29,jI (k23:Int))]∧Rs = [cI 193 2 (fy w S ff) (.slice A25 y24.length c26) y24,aT b22 191 #[jS x14.Jd,.slice A25 y24.length c26],aT b21 176 #[jS x14.Jd,.slice A18 x14.I7.length c19],cI 191 2 (fy w S cm) (.slice A8 y7.length c9) y7,aT b5 51 #[.bool a0.Jc.null,jS a0.Jc.data,jI a0.Ju,jI a0.Jb,.slice A8 y7.length c9],aT b4 51 #[.bool false,.string ⟨#[]⟩,jI 0,jI 0,.slice none 0 0],aT b3 36 #[.bool a0.Jc.null,jS a0.Jc.data,jI a0.Ju,jI a0.Jb,.slice (some ⟨gz17,oz17,none⟩) a0.I5.length c2],aO]∧gS (x14.I7.drop k23) y24=some E27) (x14.I7.length) [0,0,0,0,0,0,0,0] ⟨0,[],none,0,by simp,Z,Z,by rw[List.drop_zero]; exact hE28⟩ (by rfl) (by rfl) ?_
  clear hE28 h
  rintro m30 _ _ ⟨k23,y24,A25,c26,hk33,rfl,rfl,h⟩
  cases m30 with
  | zero =>
   rw[List.drop_of_length_le (by omega),gS] at h
   have hk33ge: ¬ ((k23:Int)<(x14.I7.length:Int)):=by omega
   refine GC Z (GK aB Z (T.seq (G7 Z (JT hk33ge) ?_)))
   obtain rfl:=JP h
   replace h:=hO29
   clear hO29
   try dsimp only at h
   refine T.exit (GT (GT (Hu (X.seq (T.region Z (GG aB bH 4 Z 2 Z Z (GE Z (GR (us := [jS x14.Jd,.slice A25 y24.length c26]) 1 Z Tryz.isAgg191 K1 Z Z Z) Z (Ix (cells:= #[jS x14.Jd,.slice A25 y24.length c26]) Z .u mR Z (by rfl) Z (fun b51=> ?_)))))))))
   obtain⟨c52,h⟩:=ay h
   refine IV 3 0 Z .u (us := [jS x14.Jd,.slice A25 y24.length c26]) (u:=(⟨x14.Jd,y24⟩:dT)) (l:=y7) (E:=(fy w S cm)) Tryz.underlying49 nw Z (by decide) Z Z Z Z Z Z Z (fun w1 G1 hG W h1 h2=>⟨_,_,Z,(fun w G h=>DY (by decide) w G h) w1 G1 hG W h1 h2⟩) (by have hq:=c52; omega) (by have hq:=c52; omega) Z (fun A53 c54=> ?_)
   exact Hz [0,0,0,0,0,0,0] Z (GB aB 1 Z (Ig (cs':= #[.bool a0.Jc.null,jS a0.Jc.data,jI a0.Ju,jI a0.Jb,.slice A53 (y7 ++ [(⟨x14.Jd,y24⟩:dT)]).length c54]) Z .u Z Z Tryz.sizeOf49 Z Z Z Z (TL.nil (GX (X.seq (T.region Z (GE Z (Ex.add Z Z (by omega)) Z (GB aB 1 Z (TL.nil (X.back (m':=m13) [0,2,2,2,2] (by omega) ⟨k6+1,(y7 ++ [(⟨x14.Jd,y24⟩:dT)]),A53,c54,by omega,Z,Z,h⟩ (by rfl) (by rfl)))))))))))
  | succ m30 =>
   obtain⟨x31,hxx31⟩: ∃ x,x14.I7[k23]? = some x:=⟨_,List.getElem?_eq_getElem (by omega)⟩
   rw[bz hxx31,gS] at h
   have hk33lt:(k23:Int)<(x14.I7.length:Int):=by omega
   refine GC Z (GK aB Z (T.seq (GO Z (JS hk33lt) ?_)))
   obtain⟨gz34,oz34,rfl,z34cs,z34cl,z34cc,z34nf,z34r⟩:=I1 (by decide) z17s0 hSF hxx31
   obtain⟨A35,c36,rfl,z34s0⟩:=z34r
   have hX37:(RX.of (ao 12 dN) [.slice A35 x31.Jf.length c36] x31.Jf).reads w F:=⟨S,z34s0,hSF⟩
   refine GW (T.seq (T.block (GC Z ?_)))
   refine GE Z (GY (k:=k23) Z Z Z KD KC (JV hxx31).1) Z ?_
   refine GE Z (HW (us := [jI x31.Jp,.slice A35 x31.Jf.length c36]) 0 Z LS KC z34nf z34cc Z Z Z) Z (TL.alloc Z .u Tryz.zeroValue179 Z (fun b38=>(GU (cs':= #[jI x31.Jp,.slice A35 x31.Jf.length c36]) Z .u Z Z KC Z Z Z Z (GD (T.region Z (GG aB bH 2 Z 2 Z Z (GE Z (GR (us := [jI x31.Jp,.slice A35 x31.Jf.length c36]) 0 Z LS KC Z Z Z) Z (Ix (cells:= #[jI x31.Jp,.slice A35 x31.Jf.length c36]) Z .u mu Z (by rfl) Z (fun b39=> ?_)))))))))
   obtain⟨c40,h⟩:=ay h
   refine TL.app1 1 Z .u (us := [jI x31.Jp,.slice A35 x31.Jf.length c36]) (u:=(⟨x31.Jp,x31.Jf⟩:je)) (l:=y24) (E:=(fy w S ff)) Tryz.underlying189 nz Z (by decide) Z Z Z Z Z Z (fun _ _=>At ⟨_,_,Z,z34s0⟩) (by have hq:=c40; omega) (by have hq:=c40; omega) Z (fun A41 c42=> ?_)
   exact Hz [0,0,0,0,0,0,0,0,0] Z (GB aB 1 Z (Iq (cs':= #[jS x14.Jd,.slice A41 (y24 ++ [(⟨x31.Jp,x31.Jf⟩:je)]).length c42]) Z .u Z Z Tryz.sizeOf189 Z Z Z Z (TL.nil (GX (X.seq (T.region Z (GE Z (Ex.add Z Z (by omega)) Z (GB aB 1 Z (TL.nil (X.back (m':=m30) [1,1,1,1,1,1,1,1] (by omega) ⟨k23+1,(y24 ++ [(⟨x31.Jp,x31.Jf⟩:je)]),A41,c42,by omega,Z,Z,h⟩ (by rfl) (by rfl)))))))))))
def rM:eP := [(23,0,0),(23,1,1),(212,0,0),(212,1,2),(212,2,3),(245,0,0),(245,1,1)]
theorem aN:(rM).OK Tryz.prog:=⟨FOK.mk Kf rfl Kr rfl,FOK.mk Kf rfl Kk rfl,FOK.mk Kw rfl J2 rfl,FOK.mk Kw rfl JX rfl,FOK.mk Kw rfl JX rfl,FOK.mk K9 rfl Kk rfl,FOK.mk K9 rfl J2 rfl,trivial⟩
theorem qB:Tryz.prog.follows .mixedOrders=true:=by kernel_rfl
theorem eT:fM Tryz.prog 3 245 [.string,.bool,.string] true:=(fM.struct Me KU rfl Tryz.underlying245 Tryz.stoodInHeld245 ⟨by decide,rfl,[.string],[.bool,.string],false,rfl,((HZ Ks Kk Tryz.underlying9).mono (by decide)),⟨by decide,rfl,[.bool,.string],[],true,rfl,(fM.struct Kt J2 rfl Tryz.underlying23 Tryz.stoodInHeld23 ⟨by decide,rfl,[.bool],[.string],false,rfl,(HZ KG Kr Tryz.underlying4),⟨by decide,rfl,[.string],[],false,rfl,(HZ Ks Kk Tryz.underlying9),rfl⟩⟩),rfl⟩⟩)
def dW (a0:List Hd):Nat→Bool→Nat→Option (Lp Bool (Bool×Nat))
 | 0,_,_=>none
 | m8+1,y3,k4=>if (k4:Int)<(a0.length:Int) then ((a0[k4]?).bind fun x13=>if x13.Jj.null=true then (if x13.Jj.data = [] then (if -9223372036854775808≤((k4:Int)+1)∧((k4:Int)+1)≤9223372036854775807 then (dW a0 m8 y3 (k4+1)) else none) else some (Lp.ret false)) else (if -9223372036854775808≤((k4:Int)+1)∧((k4:Int)+1)≤9223372036854775807 then (dW a0 m8 y3 (k4+1)) else none)) else (some (Lp.go (y3,k4)))
def kd (a0:List Hd):Option (Bool):=(dW a0 (((a0.length:Int)).toNat+1) false 0).bind fun e=>match e with | .ret r=>some r | .go (y20,k21)=>some true
theorem rN (a0:List Hd) (A1:Option Addr) (c2:Nat) (r:Bool) (h:kd a0=some r):aE Tryz.prog 222 #[.slice A1 a0.length c2] (RX.of (ao 3 db) [.slice A1 a0.length c2] a0) (aO) (fun v A' N=>v= .bool r∧A'=aO∧N = []):=by
 refine aU Tryz.func222 Z Tryz.ntmps222 Z ?_
 intro F w hX
 unfold kd at h
 refine GC Z (GK aN Z (T.seq (GC Z (GK aN Z (T.block ?_)))))
 obtain⟨E5,hE6,hO7⟩:=JO h
 refine Hv (fun m e Rs=> ∃ (y3:Bool) (k4:Nat),e = [(0,.slice A1 a0.length c2),(2,.bool y3),(3,jI (k4:Int))]∧Rs = [aO]∧dW a0 m y3 k4=some E5) (((a0.length:Int)).toNat+1) [0] ⟨false,0,Z,Z,by exact hE6⟩ (by rfl) (by rfl) ?_
 clear hE6 h
 rintro m8 _ _ ⟨y3,k4,rfl,rfl,h⟩
 cases m8 with
 | zero =>
  rw[dW] at h
  cases h
 | succ m8 =>
  rw[dW] at h
  refine T.seq (GC Z (GB aN 2 Z (GE Z (GQ Z Kv) Z (GB aN 1 Z ?_))))
  rcases jF h with⟨c12,h⟩ | ⟨c12,h⟩
  ·refine G9 Z c12 (GW (T.seq (T.block (GC Z ?_))))
   obtain⟨x13,hx14,h⟩:=JO h
   obtain⟨gz15,oz15,rfl,z15cs,z15cl,z15cc,z15nf,z15r⟩:=Hg (by decide) hX hx14
   obtain⟨z15S,z15r,z15rr⟩:=z15r
   obtain rfl:z15cs=(wL3 x13):=z15r
   refine GB aN 2 Z ?_
   refine GE Z (GY (k:=k4) Z Z Z Kv KU (JV hx14).1) Z ?_
   refine GB aN 2 Z (GE Z (Hr 1 Z KG z15nf z15cc Z Z) Z ?_)
   rcases jF h with⟨c16,h⟩ | ⟨c16,h⟩
   ·refine GB aN 1 Z (GI 16 Z c16 (GJ aN 2 Z ?_))
    refine TL.q Z (.g Z Z Z) (GY (k:=k4) Z Z Z Kv KU (JV hx14).1) Z ?_
    refine GJ aN 2 Z (TL.q Z (.g Z Z Z) (Hr 2 Z Ks z15nf z15cc Z Z) Z (TL.q Z (.g Z Z Z) (IY Z (m := []) Z) Z (GJ aN 1 Z ?_)))
    rcases jF h with⟨c17,h⟩ | ⟨c17,h⟩
    ·refine He Z c17 (T.skip (GX (X.seq (T.region Z ?_))))
     obtain⟨c18,h⟩:=ay h
     exact GB aN 1 Z (GE Z (Ex.add Z Z c18) Z (GB aN 1 Z (TL.nil (X.back (m':=m8) [0] (by omega) ⟨y3,k4+1,Z,Z,h⟩ (by rfl) (by rfl)))))
    refine Hc Z c17 (GC Z (GB aN 1 Z ?_))
    obtain rfl:=JP h
    obtain rfl:=JP hO7
    exact GD (T.ret (GN (GH (GH (GN (GH (GL [0] Tryz.results222 (GF Z))))))))
   replace c16:=JW c16
   refine GB aN 1 Z (GI 16 Z c16 (Hk aN Z (G7 Z Z (T.skip (GX (X.seq (T.region Z ?_)))))))
   obtain⟨c19,h⟩:=ay h
   exact GB aN 1 Z (GE Z (Ex.add Z Z c19) Z (GB aN 1 Z (TL.nil (X.back (m':=m8) [0] (by omega) ⟨y3,k4+1,Z,Z,h⟩ (by rfl) (by rfl)))))
  refine Ha Z c12 ?_
  obtain rfl:=JP h
  replace h:=hO7
  clear hO7
  try dsimp only at h
  refine T.exit (GT (GT (Hu (X.seq (GC Z (GB aN 1 Z ?_))))))
  obtain rfl:=JP h
  exact GD (T.ret (GL [0] Tryz.results222 (GF Z)))
def eW (a0:List Hd) (a1:List Hd):Nat→Bool→Nat→Option (Lp Bool (Bool×Nat))
 | 0,_,_=>none
 | m11+1,y6,k7=>if (k7:Int)<(a0.length:Int) then ((a0[k7]?).bind fun x16=>(a1[k7]?).bind fun x19=>if x16.Jr=x19.Jr then (if x16.Jj.null=x19.Jj.null then (if x16.Jj.data=x19.Jj.data then (if -9223372036854775808≤((k7:Int)+1)∧((k7:Int)+1)≤9223372036854775807 then (eW a0 a1 m11 y6 (k7+1)) else none) else some (Lp.ret false)) else some (Lp.ret false)) else some (Lp.ret false)) else (some (Lp.go (y6,k7)))
def li (a0:List Hd) (a1:List Hd):Option (Bool):=if (a0.length:Int)=(a1.length:Int) then ((eW a0 a1 (((a0.length:Int)).toNat+1) false 0).bind fun e=>match e with | .ret r=>some r | .go (y26,k27)=>some true) else some false
theorem tp (a0:List Hd) (A1:Option Addr) (c2:Nat) (a1:List Hd) (A3:Option Addr) (c4:Nat) (r:Bool) (h:li a0 a1=some r):aE Tryz.prog 228 #[.slice A1 a0.length c2,.slice A3 a1.length c4] (RX.and (RX.of (ao 3 db) [.slice A1 a0.length c2] a0) (RX.of (ao 3 db) [.slice A3 a1.length c4] a1)) (aO) (fun v A' N=>v= .bool r∧A'=aO∧N = []):=by
 refine aU Tryz.func228 Z Tryz.ntmps228 Z ?_
 intro F w hX
 unfold li at h
 refine GC Z (GK aN Z (T.seq (GC Z (GB aN 1 Z (GE Z (GQ Z Kv) Z (GB aN 1 Z (GE Z (GQ Z Kv) Z (GB aN 1 Z ?_))))))))
 rcases jF h with⟨c5,h⟩ | ⟨c5,h⟩
 ·refine He Z c5 (GW (T.seq (GC Z (GK aN Z (T.block ?_)))))
  obtain⟨E8,hE9,hO10⟩:=JO h
  refine Hv (fun m e Rs=> ∃ (y6:Bool) (k7:Nat),e = [(0,.slice A1 a0.length c2),(1,.slice A3 a1.length c4),(4,.bool y6),(5,jI (k7:Int))]∧Rs = [aO]∧eW a0 a1 m y6 k7=some E8) (((a0.length:Int)).toNat+1) [0] ⟨false,0,Z,Z,by exact hE9⟩ (by rfl) (by rfl) ?_
  clear hE9 h
  rintro m11 _ _ ⟨y6,k7,rfl,rfl,h⟩
  cases m11 with
  | zero =>
   rw[eW] at h
   cases h
  | succ m11 =>
   rw[eW] at h
   refine T.seq (GC Z (GB aN 2 Z (GE Z (GQ Z Kv) Z (GB aN 1 Z ?_))))
   rcases jF h with⟨c15,h⟩ | ⟨c15,h⟩
   ·refine G9 Z c15 ?_
    refine GW (T.seq (T.block (T.seq (Hp (.q 0 (.q 1 (.q 2 (.q 3 (.q 4 (.q 5 (.q 6 (.q 7 (.q 8 .nil))))))))) [0] Z qB (NoP.seq (NoP.blk (NoP.seq (NoP.seq (NoP.blk (NoP.seq bA)))))) (by kernel_rfl) ?_))))
    obtain⟨x16,hx17,h⟩:=JO h
    obtain⟨gz18,oz18,rfl,z18cs,z18cl,z18cc,z18nf,z18r⟩:=Hg (by decide) (Ho hX) hx17
    obtain⟨z18S,z18r,z18rr⟩:=z18r
    obtain rfl:z18cs=(wL3 x16):=z18r
    refine TD.run aN [0,1] Z Z ?_
    refine GM Z (GY (k:=k7) Z Z Z Kv KU (JV hx17).1) Z ?_
    refine GM Z (HW (us:=wL3 x16) 0 Z Me KU z18nf z18cc Z Z Z) Z ?_
    obtain⟨x19,hx20,h⟩:=JO h
    obtain⟨gz21,oz21,rfl,z21cs,z21cl,z21cc,z21nf,z21r⟩:=Hg (by decide) (G3 hX) hx20
    obtain⟨z21S,z21r,z21rr⟩:=z21r
    obtain rfl:z21cs=(wL3 x19):=z21r
    refine TD.run aN [4,5] Z Z ?_
    refine GM Z (GY (k:=k7) Z Z Z Kv KU (JV hx20).1) Z ?_
    refine GM Z (HW (us:=wL3 x19) 0 Z Me KU z21nf z21cc Z Z Z) Z ?_
    rcases jF h with⟨c22,h⟩ | ⟨c22,h⟩
    ·rcases jF h with⟨c23,h⟩ | ⟨c23,h⟩
     ·rcases jF h with⟨c24,h⟩ | ⟨c24,h⟩
      ·refine GM Z (I0 (us:=wL3 x16) (vs:=wL3 x19) eT Z Mi Z Z Z Z (dw (mq (l:=x16.Jr) (m:=x19.Jr) c22) (dw (mp c23) (dw (mq (l:=x16.Jj.data) (m:=x19.Jj.data) c24) Z)))) Z (HX (G7 Z Z (T.skip (GX (X.seq (T.region Z ?_))))))
       obtain⟨c25,h⟩:=ay h
       exact GB aN 1 Z (GE Z (Ex.add Z Z c25) Z (GB aN 1 Z (TL.nil (X.back (m':=m11) [0] (by omega) ⟨y6,k7+1,Z,Z,h⟩ (by rfl) (by rfl)))))
      refine GM Z (I0 (us:=wL3 x16) (vs:=wL3 x19) eT Z Mi Z Z Z Z (dw (mq (l:=x16.Jr) (m:=x19.Jr) c22) (dw (mp c23) (iO (nS (l:=x16.Jj.data) (m:=x19.Jj.data) c24))))) Z (HX (GO Z Z (GC Z (GB aN 1 Z ?_))))
      obtain rfl:=JP h
      obtain rfl:=JP hO10
      exact GD (T.ret (GN (GH (GH (GN (GH (GL [0] Mj (GF Z))))))))
     refine GM Z (I0 (us:=wL3 x16) (vs:=wL3 x19) eT Z Mi Z Z Z Z (dw (mq (l:=x16.Jr) (m:=x19.Jr) c22) (iO (pJ c23)))) Z (HX (GO Z Z (GC Z (GB aN 1 Z ?_))))
     obtain rfl:=JP h
     obtain rfl:=JP hO10
     exact GD (T.ret (GN (GH (GH (GN (GH (GL [0] Mj (GF Z))))))))
    refine GM Z (I0 (us:=wL3 x16) (vs:=wL3 x19) eT Z Mi Z Z Z Z (iO (nS (l:=x16.Jr) (m:=x19.Jr) c22))) Z (HX (GO Z Z (GC Z (GB aN 1 Z ?_))))
    obtain rfl:=JP h
    obtain rfl:=JP hO10
    exact GD (T.ret (GN (GH (GH (GN (GH (GL [0] Mj (GF Z))))))))
   refine Ha Z c15 ?_
   obtain rfl:=JP h
   replace h:=hO10
   clear hO10
   try dsimp only at h
   refine T.exit (GT (GT (Hu (X.seq (GC Z (GB aN 1 Z ?_))))))
   obtain rfl:=JP h
   exact GD (T.ret (GL [0] Mj (GF Z)))
 refine Hc Z c5 (GC Z (GB aN 1 Z ?_))
 obtain rfl:=JP h
 exact GD (T.ret (GH (GL [0] Mj (GF Z))))
def rO:eP := [(23,0,0),(23,1,1),(91,0,0),(91,1,1),(91,2,2),(91,3,4),(91,4,6),(212,0,0),(212,1,2),(212,2,3),(310,1,7)]
theorem az:(rO).OK Tryz.prog:=⟨FOK.mk Kf rfl Kr rfl,FOK.mk Kf rfl Kk rfl,FOK.mk Ke rfl JX rfl,FOK.mk Ke rfl JX rfl,FOK.mk Ke rfl J2 rfl,FOK.mk Ke rfl J2 rfl,FOK.mk Ke rfl LH rfl,FOK.mk Kw rfl J2 rfl,FOK.mk Kw rfl JX rfl,FOK.mk Kw rfl JX rfl,FOK.mk L9 rfl JX rfl,trivial⟩
def rP:List Nat := [3,4,9,89]
theorem bn:NOK Tryz.prog rP:=⟨JZ,KG,Ks,MG,trivial⟩
theorem du:fM Tryz.prog 2 23 [.bool,.string] true:=(fM.struct Kt J2 rfl Tryz.underlying23 Tryz.stoodInHeld23 ⟨by decide,rfl,[.bool],[.string],false,rfl,(HZ KG Kr Tryz.underlying4),⟨by decide,rfl,[.string],[],false,rfl,(HZ Ks Kk Tryz.underlying9),rfl⟩⟩)
def kW (a0:Bl):Option (Bool):=if a0.null=true then (if a0.data = [] then some false else some true) else some false
theorem nX (a0:Bl) (r:Bool) (h:kW a0=some r):aE Tryz.prog 221 #[.agg #[.bool a0.null,jS a0.data]] .triv (aO) (fun v A' N=>v= .bool r∧A'=aO∧N = []):=by
 refine aU Tryz.func221 Z Tryz.ntmps221 Z ?_
 intro F w hX
 unfold kW at h
 refine GC Z (TL.box Z .u Z Z (fun b1=>(G4 az Z Z ?_)))
 rcases jF h with⟨c2,h⟩ | ⟨c2,h⟩
 ·refine GG az bn 0 Z 3 Z Z (GI 5 Z c2 (GG az bn 0 Z 2 Z Z (TL.q Z (.g Z Z Z) (IY Z (m := []) Z) Z (GJ az 2 Z ?_))))
  rcases jF h with⟨c3,h⟩ | ⟨c3,h⟩
  ·obtain rfl:=JP h
   exact GD (T.ret (G8 [1] Tryz.results221 (GF (v:= .bool false) (congrArg (fun b=>some (Value.bool b)) (aZ (JS c3)))) ⟨Z,Z,Z⟩ (by rfl) (.inl Z)))
  obtain rfl:=JP h
  exact GD (T.ret (G8 [1] Tryz.results221 (GF (v:= .bool true) (congrArg (fun b=>some (Value.bool b)) (bw (JT c3)))) ⟨Z,Z,Z⟩ (by rfl) (.inl Z)))
 replace c2:=JW c2
 refine GG az bn 0 Z 3 Z Z (GI 5 Z c2 (GJ az 5 Z ?_))
 obtain rfl:=JP h
 exact GD (T.ret (GL [1] Tryz.results221 (GF Z)))
def iQ (a0:Rec):Option (Int):=if a0.Jq<0 then some 11 else (if a0.Jq>2147483647 then some 11 else ((kW a0.Jr).bind fun x6=>if x6=true then some 4 else ((kW a0.Jj).bind fun x9=>if x9=true then some 4 else ((kd a0.Jl).bind fun x12=>if x12=true then some 0 else some 4))))
theorem mv (a0:Rec) (A1:Option Addr) (c2:Nat) (r:Int) (h:iQ a0=some r):aE Tryz.prog 200 #[.agg (wA2 a0 A1 c2)] (RX.of (ao 3 db) [.slice A1 a0.Jl.length c2] a0.Jl) (aO) (fun v A' N=>v=jI r∧A'=aO∧N = []):=by
 refine aU Tryz.func200 Z Tryz.ntmps200 Z ?_
 intro F w hX
 unfold iQ at h
 refine GC Z (TL.box Z .u Z Z (fun b3=>(GK az Z (T.seq (GC Z ?_)))))
 rcases jF h with⟨c4,h⟩ | ⟨c4,h⟩
 ·refine GG az bn 0 Z 4 Z Z (GI 6 Z (JS c4) (Hk az Z (GO Z Z (GC Z (GB az 1 Z ?_)))))
  obtain rfl:=JP h
  exact GD (T.ret (GH (GL [1] LY (GF Z))))
 refine GG az bn 0 Z 4 Z Z (GI 6 Z (JT c4) (GG az bn 0 Z 4 Z Z ?_))
 rcases jF h with⟨c5,h⟩ | ⟨c5,h⟩
 ·refine G9 Z c5 (GC Z (GB az 1 Z ?_))
  obtain rfl:=JP h
  exact GD (T.ret (GH (GL [1] LY (GF Z))))
 refine Ha Z c5 (GW (T.seq (GC Z (GB az 1 Z (GE Z (GR (us := [.bool a0.Jr.null,jS a0.Jr.data]) 0 Z Kt J2 Z Z Z) Z ?_)))))
 obtain⟨x6,hx7,h⟩:=JO h
 refine GZ Z .u (.fn Tryz.call221 Z) (nX a0.Jr _ hx7) rT Z ?_
 rcases jF h with⟨c8,h⟩ | ⟨c8,h⟩
 ·refine GB az 1 Z (GI 14 Z c8 (Hk az Z (GO Z Z (GC Z (GB az 1 Z ?_)))))
  obtain rfl:=JP h
  exact GD (T.ret (GH (GL [1] LY (GF Z))))
 replace c8:=JW c8
 refine GB az 1 Z (GI 14 Z c8 (GJ az 1 Z (TL.q Z (.g Z Z Z) (GR (us := [.bool a0.Jj.null,jS a0.Jj.data]) 0 Z Kt J2 Z Z Z) Z ?_)))
 obtain⟨x9,hx10,h⟩:=JO h
 refine GZ Z (.g Z Z Z) (.fn Tryz.call221 Z) (nX a0.Jj _ hx10) rT Z ?_
 rcases jF h with⟨c11,h⟩ | ⟨c11,h⟩
 ·refine GJ az 2 Z (GI 19 Z c11 (Hk az Z (GO Z Z (GC Z (GB az 1 Z ?_)))))
  obtain rfl:=JP h
  exact GD (T.ret (GH (GL [1] LY (GF Z))))
 replace c11:=JW c11
 refine GJ az 2 Z (GI 19 Z c11 ?_)
 obtain⟨x12,hx13,h⟩:=JO h
 refine GG az bn 0 Z 2 Z Z (GZ Z (.g Z Z Z) (.fn Tryz.call222 Z) (rN a0.Jl _ _ _ hx13) (fun _ hs=>(GS hs hX)) Z (GJ az 2 Z ?_))
 rcases jF h with⟨c14,h⟩ | ⟨c14,h⟩
 ·refine GD (G7 Z (aZ c14) (Hb Z (GB az 1 Z ?_)))
  obtain rfl:=JP h
  exact GD (T.ret (GL [1] LY (GF Z)))
 replace c14:=JW c14
 refine GD (GO Z (bw c14) (GC Z (GB az 1 Z ?_)))
 obtain rfl:=JP h
 exact GD (T.ret (GH (GL [1] LY (GF Z))))
def lj (a0:Rec) (a1:Rec):Option (Bool):=if a0.JA=a1.JA then (if a0.Jq=a1.Jq then (if a0.Jr.null=a1.Jr.null then (if a0.Jr.data=a1.Jr.data then (if a0.Jj.null=a1.Jj.null then (if a0.Jj.data=a1.Jj.data then ((li a0.Jl a1.Jl).bind fun x13=>some x13) else some false) else some false) else some false) else some false) else some false) else some false
theorem tq (a0:Rec) (A1:Option Addr) (c2:Nat) (a1:Rec) (A3:Option Addr) (c4:Nat) (r:Bool) (h:lj a0 a1=some r):aE Tryz.prog 209 #[.agg (wA2 a0 A1 c2),.agg (wA2 a1 A3 c4)] (RX.and (RX.of (ao 3 db) [.slice A1 a0.Jl.length c2] a0.Jl) (RX.of (ao 3 db) [.slice A3 a1.Jl.length c4] a1.Jl)) (aO) (fun v A' N=>v= .bool r∧A'=aO∧N = []):=by
 refine aU Tryz.func209 Z Tryz.ntmps209 Z ?_
 intro F w hX
 unfold lj at h
 refine GC Z (TL.box Z .u Z Z (fun b5=>(TL.box Z .u Z Z (fun b6=>(G4 az Z Z (GG az bn 1 Z 3 Z Z ?_))))))
 rcases jF h with⟨c7,h⟩ | ⟨c7,h⟩
 ·refine GG az bn 0 Z 3 Z Z (GI 10 Z (JS c7) (GG az bn 1 Z 3 Z Z ?_))
  rcases jF h with⟨c8,h⟩ | ⟨c8,h⟩
  ·refine GG az bn 0 Z 4 Z Z (GI 17 Z (JS c8) (GJ az 1 Z (TL.q Z (.g Z Z Z) (GR (us := [.bool a0.Jr.null,jS a0.Jr.data]) 1 Z Kt J2 Z Z Z) Z (GJ az 1 Z (TL.q Z (.g Z Z Z) (GR (us := [.bool a1.Jr.null,jS a1.Jr.data]) 0 Z Kt J2 Z Z Z) Z ?_)))))
   rcases jF h with⟨c9,h⟩ | ⟨c9,h⟩
   ·rcases jF h with⟨c10,h⟩ | ⟨c10,h⟩
    ·refine TL.q Z (.g Z Z Z) (Ie (us := [.bool a0.Jr.null,jS a0.Jr.data]) (vs := [.bool a1.Jr.null,jS a1.Jr.data]) du Z KX Z Z Z Z (dw (mp c9) (dw (mq (l:=a0.Jr.data) (m:=a1.Jr.data) c10) Z))) Z (GJ az 3 Z (TL.q Z (.g Z Z Z) (GR (us := [.bool a0.Jj.null,jS a0.Jj.data]) 1 Z Kt J2 Z Z Z) Z (GJ az 1 Z (TL.q Z (.g Z Z Z) (GR (us := [.bool a1.Jj.null,jS a1.Jj.data]) 0 Z Kt J2 Z Z Z) Z ?_))))
     rcases jF h with⟨c11,h⟩ | ⟨c11,h⟩
     ·rcases jF h with⟨c12,h⟩ | ⟨c12,h⟩
      ·refine TL.q Z (.g Z Z Z) (Ie (us := [.bool a0.Jj.null,jS a0.Jj.data]) (vs := [.bool a1.Jj.null,jS a1.Jj.data]) du Z KX Z Z Z Z (dw (mp c11) (dw (mq (l:=a0.Jj.data) (m:=a1.Jj.data) c12) Z))) Z (GG az bn 1 Z 5 Z Z ?_)
       obtain⟨x13,hx14,h⟩:=JO h
       refine GG az bn 0 Z 1 Z Z (GZ Z (.g Z Z Z) (.fn Tryz.call228 Z) (tp a0.Jl _ _ a1.Jl _ _ _ hx14) (fun _ hs=>(Hn (GS hs (Ho hX)) (GS hs (G3 hX)))) Z (GJ az 2 Z ?_))
       obtain rfl:=JP h
       exact GD (T.ret (GL [2] LN (GF Z)))
      refine TL.q Z (.g Z Z Z) (Ie (us := [.bool a0.Jj.null,jS a0.Jj.data]) (vs := [.bool a1.Jj.null,jS a1.Jj.data]) du Z KX Z Z Z Z (dw (mp c11) (iO (nS (l:=a0.Jj.data) (m:=a1.Jj.data) c12)))) Z (GJ az 9 Z ?_)
      obtain rfl:=JP h
      exact GD (T.ret (GL [2] LN (GF Z)))
     refine TL.q Z (.g Z Z Z) (Ie (us := [.bool a0.Jj.null,jS a0.Jj.data]) (vs := [.bool a1.Jj.null,jS a1.Jj.data]) du Z KX Z Z Z Z (iO (pJ c11))) Z (GJ az 9 Z ?_)
     obtain rfl:=JP h
     exact GD (T.ret (GL [2] LN (GF Z)))
    refine TL.q Z (.g Z Z Z) (Ie (us := [.bool a0.Jr.null,jS a0.Jr.data]) (vs := [.bool a1.Jr.null,jS a1.Jr.data]) du Z KX Z Z Z Z (dw (mp c9) (iO (nS (l:=a0.Jr.data) (m:=a1.Jr.data) c10)))) Z (GJ az 16 Z ?_)
    obtain rfl:=JP h
    exact GD (T.ret (GL [2] LN (GF Z)))
   refine TL.q Z (.g Z Z Z) (Ie (us := [.bool a0.Jr.null,jS a0.Jr.data]) (vs := [.bool a1.Jr.null,jS a1.Jr.data]) du Z KX Z Z Z Z (iO (pJ c9))) Z (GJ az 16 Z ?_)
   obtain rfl:=JP h
   exact GD (T.ret (GL [2] LN (GF Z)))
  refine GG az bn 0 Z 4 Z Z (GI 17 Z (JT c8) (GJ az 21 Z ?_))
  obtain rfl:=JP h
  exact GD (T.ret (GL [2] LN (GF Z)))
 refine GG az bn 0 Z 3 Z Z (GI 10 Z (JT c7) (GJ az 28 Z ?_))
 obtain rfl:=JP h
 exact GD (T.ret (GL [2] LN (GF Z)))
def rQ:eP := [(23,0,0),(23,1,1),(91,1,1),(91,2,2),(91,3,4),(91,4,6)]
theorem aq:(rQ).OK Tryz.prog:=⟨FOK.mk Kf rfl Kr rfl,FOK.mk Kf rfl Kk rfl,FOK.mk Ke rfl JX rfl,FOK.mk Ke rfl J2 rfl,FOK.mk Ke rfl J2 rfl,FOK.mk Ke rfl LH rfl,trivial⟩
def rR:List Nat := [3,4,9,89]
theorem cN:NOK Tryz.prog rR:=⟨JZ,KG,Ks,MG,trivial⟩
def iz (a0:List UInt8):Option (Int×Int):=if (a0.length:Int)<2 then some (0,1) else (if 2≤a0.length then ((uh (a0.take 2)).bind fun x3=>if x3=0 then (if (a0.length:Int)<4 then some (0,1) else (if 4≤a0.length then ((uh ((a0.drop 2).take 2)).bind fun x8=>if x8=0 then (if (a0.length:Int)>4 then some (0,2) else some (x8,0)) else (if x8=1 then (if (a0.length:Int)>4 then some (0,2) else some (x8,0)) else some (0,12))) else none)) else some (0,7)) else none)
theorem pK (a0:List UInt8) (r:Int×Int) (h:iz a0=some r):aE Tryz.prog 223 #[jS a0] .triv (aO) (fun v A' N=>v= .tuple #[jI r.1,jI r.2]∧A'=aO∧N = []):=by
 refine aU Tryz.func223 Z Tryz.ntmps223 Z ?_
 intro F w hX
 unfold iz at h
 refine GC Z (GK aq Z (T.seq (GC Z (GB aq 1 Z (GE Z (Hw Z J3) Z (GB aq 1 Z ?_))))))
 rcases jF h with⟨c1,h⟩ | ⟨c1,h⟩
 ·refine G9 Z c1 (GC Z (GB aq 2 Z ?_))
  obtain rfl:=JP h
  exact GD (T.ret (GH (Hl [0] LD (GF Z) (GF Z) ⟨Z,Z,Z⟩ (by rfl) (.inl Z))))
 refine Ha Z c1 (GW (T.seq (GC Z ?_)))
 obtain⟨c2,h⟩:=ay h
 refine GB aq 1 Z ?_
 replace c2:2≤a0.length:=c2
 refine GE Z (Ex.sSl (p:=0) (q:=2) (m:=(a0.take 2)) Z J3 .none (.some Z Z) (by first | omega | (dsimp only; omega)) (by simp)) Z ?_
 obtain⟨x3,hx4,h⟩:=JO h
 refine GZ Z .u (.fn Tryz.call25 Z) (Hy (fun w=>mL (a0.take 2) _ hx4 w)) (fun _ _=>Hi _ _) Z (GB aq 1 Z ?_)
 rcases jF h with⟨c5,h⟩ | ⟨c5,h⟩
 ·refine He Z c5 (GW (T.seq (GC Z (GB aq 1 Z (GE Z (Hw Z J3) Z (GB aq 1 Z ?_))))))
  rcases jF h with⟨c6,h⟩ | ⟨c6,h⟩
  ·refine G9 Z c6 (GC Z (GB aq 2 Z ?_))
   obtain rfl:=JP h
   exact GD (T.ret (GH (Hl [0] LD (GF Z) (GF Z) ⟨Z,Z,Z⟩ (by rfl) (.inl Z))))
  refine Ha Z c6 (Hb Z ?_)
  obtain⟨c7,h⟩:=ay h
  refine GB aq 1 Z ?_
  replace c7:4≤a0.length:=c7
  refine GE Z (Ex.sSl (p:=2) (q:=4) (m:=((a0.drop 2).take 2)) Z J3 (.some Z Z) (.some Z Z) (by first | omega | (dsimp only; omega)) Z) Z ?_
  obtain⟨x8,hx9,h⟩:=JO h
  refine GZ Z .u (.fn Tryz.call25 Z) (Hy (fun w=>mL ((a0.drop 2).take 2) _ hx9 w)) (fun _ _=>Hi _ _) Z (GK aq Z (T.seq (GC Z ?_)))
  rcases jF h with⟨c10,h⟩ | ⟨c10,h⟩
  ·refine GB aq 3 Z (GI 20 Z (aZ (JS c10)) (Hk aq Z (G7 Z Z (GW (T.seq (GC Z (GB aq 1 Z (GE Z (Hw Z J3) Z ?_))))))))
   refine GB aq 1 Z ?_
   rcases jF h with⟨c11,h⟩ | ⟨c11,h⟩
   ·refine G9 Z c11 (GC Z (GB aq 2 Z ?_))
    obtain rfl:=JP h
    exact GD (T.ret (GH (Hl [0] LD (GF Z) (GF Z) ⟨Z,Z,Z⟩ (by rfl) (.inl Z))))
   refine Ha Z c11 (Hb Z (GB aq 3 Z ?_))
   obtain rfl:=JP h
   exact GD (T.ret (Hl [0] LD (GF Z) (GF Z) ⟨Z,Z,Z⟩ (by rfl) (.inl Z)))
  refine GB aq 3 Z (GI 20 Z (bw (JT c10)) (GJ aq 3 Z ?_))
  rcases jF h with⟨c12,h⟩ | ⟨c12,h⟩
  ·refine He Z c12 (GW (T.seq (GC Z (GB aq 1 Z (GE Z (Hw Z J3) Z (GB aq 1 Z ?_))))))
   rcases jF h with⟨c13,h⟩ | ⟨c13,h⟩
   ·refine G9 Z c13 (GC Z (GB aq 2 Z ?_))
    obtain rfl:=JP h
    exact GD (T.ret (GH (Hl [0] LD (GF Z) (GF Z) ⟨Z,Z,Z⟩ (by rfl) (.inl Z))))
   refine Ha Z c13 (Hb Z (GB aq 3 Z ?_))
   obtain rfl:=JP h
   exact GD (T.ret (Hl [0] LD (GF Z) (GF Z) ⟨Z,Z,Z⟩ (by rfl) (.inl Z)))
  refine Hc Z c12 (GC Z (GB aq 2 Z ?_))
  obtain rfl:=JP h
  exact GD (T.ret (GH (Hl [0] LD (GF Z) (GF Z) ⟨Z,Z,Z⟩ (by rfl) (.inl Z))))
 refine Hc Z c5 (GC Z (GB aq 2 Z ?_))
 obtain rfl:=JP h
 exact GD (T.ret (GH (Hl [0] LD (GF Z) (GF Z) ⟨Z,Z,Z⟩ (by rfl) (.inl Z))))
def gv (a0:List UInt8):Option (Int×Int):=if (a0.length:Int)<2 then some (0,1) else (if 2≤a0.length then ((uh (a0.take 2)).bind fun x3=>if x3=0 then (if (a0.length:Int)<6 then some (0,1) else (if 6≤a0.length then ((uh ((a0.drop 2).take 4)).bind fun x8=>if x8<0 then some (0,11) else (if (a0.length:Int)>6 then some (0,2) else some (x8,0))) else none)) else some (0,7)) else none)
theorem nY (a0:List UInt8) (r:Int×Int) (h:gv a0=some r):aE Tryz.prog 224 #[jS a0] .triv (aO) (fun v A' N=>v= .tuple #[jI r.1,jI r.2]∧A'=aO∧N = []):=by
 refine aU Tryz.func224 Z Tryz.ntmps224 Z ?_
 intro F w hX
 unfold gv at h
 refine GC Z (GK aq Z (T.seq (GC Z (GB aq 1 Z (GE Z (Hw Z J3) Z (GB aq 1 Z ?_))))))
 rcases jF h with⟨c1,h⟩ | ⟨c1,h⟩
 ·refine G9 Z c1 (GC Z (GB aq 2 Z ?_))
  obtain rfl:=JP h
  exact GD (T.ret (GH (Hl [0] LZ (GF Z) (GF Z) ⟨Z,Z,Z⟩ (by rfl) (.inl Z))))
 refine Ha Z c1 (GW (T.seq (GC Z ?_)))
 obtain⟨c2,h⟩:=ay h
 refine GB aq 1 Z ?_
 replace c2:2≤a0.length:=c2
 refine GE Z (Ex.sSl (p:=0) (q:=2) (m:=(a0.take 2)) Z J3 .none (.some Z Z) (by first | omega | (dsimp only; omega)) (by simp)) Z ?_
 obtain⟨x3,hx4,h⟩:=JO h
 refine GZ Z .u (.fn Tryz.call25 Z) (Hy (fun w=>mL (a0.take 2) _ hx4 w)) (fun _ _=>Hi _ _) Z (GB aq 1 Z ?_)
 rcases jF h with⟨c5,h⟩ | ⟨c5,h⟩
 ·refine He Z c5 (GW (T.seq (GC Z (GB aq 1 Z (GE Z (Hw Z J3) Z (GB aq 1 Z ?_))))))
  rcases jF h with⟨c6,h⟩ | ⟨c6,h⟩
  ·refine G9 Z c6 (GC Z (GB aq 2 Z ?_))
   obtain rfl:=JP h
   exact GD (T.ret (GH (Hl [0] LZ (GF Z) (GF Z) ⟨Z,Z,Z⟩ (by rfl) (.inl Z))))
  refine Ha Z c6 (Hb Z ?_)
  obtain⟨c7,h⟩:=ay h
  refine GB aq 1 Z ?_
  replace c7:6≤a0.length:=c7
  refine GE Z (Ex.sSl (p:=2) (q:=6) (m:=((a0.drop 2).take 4)) Z J3 (.some Z Z) (.some Z Z) (by first | omega | (dsimp only; omega)) Z) Z ?_
  obtain⟨x8,hx9,h⟩:=JO h
  refine GZ Z .u (.fn Tryz.call25 Z) (Hy (fun w=>mL ((a0.drop 2).take 4) _ hx9 w)) (fun _ _=>Hi _ _) Z (GK aq Z (T.seq (GC Z (GB aq 2 Z ?_))))
  rcases jF h with⟨c10,h⟩ | ⟨c10,h⟩
  ·refine G9 Z c10 (GC Z (GB aq 2 Z ?_))
   obtain rfl:=JP h
   exact GD (T.ret (GH (Hl [0] LZ (GF Z) (GF Z) ⟨Z,Z,Z⟩ (by rfl) (.inl Z))))
  refine Ha Z c10 (GW (T.seq (GC Z (GB aq 1 Z (GE Z (Hw Z J3) Z (GB aq 1 Z ?_))))))
  rcases jF h with⟨c11,h⟩ | ⟨c11,h⟩
  ·refine G9 Z c11 (GC Z (GB aq 2 Z ?_))
   obtain rfl:=JP h
   exact GD (T.ret (GH (Hl [0] LZ (GF Z) (GF Z) ⟨Z,Z,Z⟩ (by rfl) (.inl Z))))
  refine Ha Z c11 (Hb Z (GB aq 3 Z ?_))
  obtain rfl:=JP h
  exact GD (T.ret (Hl [0] LZ (GF Z) (GF Z) ⟨Z,Z,Z⟩ (by rfl) (.inl Z)))
 refine Hc Z c5 (GC Z (GB aq 2 Z ?_))
 obtain rfl:=JP h
 exact GD (T.ret (GH (Hl [0] LZ (GF Z) (GF Z) ⟨Z,Z,Z⟩ (by rfl) (.inl Z))))
def gU (a0:Rec):Option (Int×Int×Int):=if a0.Jr.null=true then some (0,0,12) else (if a0.Jj.null=true then some (0,0,12) else (if (a0.Jl.length:Int)>0 then some (0,0,12) else (if a0.Jq=0 then ((iz a0.Jr.data).bind fun (x8,x9)=>if x9=0 then ((gv a0.Jj.data).bind fun (x12,x13)=>if x13=0 then some (x8,x12,0) else some (0,0,x13)) else some (0,0,x9)) else some (0,0,12))))
theorem tr (a0:Rec) (A1:Option Addr) (c2:Nat) (r:Int×Int×Int) (h:gU a0=some r):aE Tryz.prog 201 #[.agg (wA2 a0 A1 c2)] (RX.of (ao 3 db) [.slice A1 a0.Jl.length c2] a0.Jl) (aO) (fun v A' N=>v= .tuple #[jI r.1,jI r.2.1,jI r.2.2]∧A'=aO∧N = []):=by
 refine aU Tryz.func201 Z Tryz.ntmps201 Z ?_
 intro F w hX
 unfold gU at h
 refine GC Z (TL.box Z .u Z Z (fun b3=>(GK aq Z (T.seq (GC Z ?_)))))
 rcases jF h with⟨c4,h⟩ | ⟨c4,h⟩
 ·refine GG aq cN 0 Z 4 Z Z (GI 12 Z c4 (Hk aq Z (GO Z Z (GC Z (GB aq 3 Z ?_)))))
  obtain rfl:=JP h
  exact GD (T.ret (GH (Im [1] LO (GF Z) (GF Z) (GF Z) ⟨Z,Z,Z⟩ (by rfl) (.inl Z))))
 replace c4:=JW c4
 refine GG aq cN 0 Z 4 Z Z (GI 12 Z c4 ?_)
 rcases jF h with⟨c5,h⟩ | ⟨c5,h⟩
 ·refine GG aq cN 0 Z 5 Z Z (GI 17 Z c5 (Hk aq Z (GO Z Z (GC Z (GB aq 3 Z ?_)))))
  obtain rfl:=JP h
  exact GD (T.ret (GH (Im [1] LO (GF Z) (GF Z) (GF Z) ⟨Z,Z,Z⟩ (by rfl) (.inl Z))))
 replace c5:=JW c5
 refine GG aq cN 0 Z 5 Z Z (GI 17 Z c5 (GG aq cN 0 Z 2 Z Z (TL.q Z (.g Z Z Z) (GQ Z Kv) Z ?_)))
 rcases jF h with⟨c6,h⟩ | ⟨c6,h⟩
 ·refine GJ aq 3 Z (GI 23 Z (JS c6) (Hk aq Z (GO Z Z (GC Z (GB aq 3 Z ?_)))))
  obtain rfl:=JP h
  exact GD (T.ret (GH (Im [1] LO (GF Z) (GF Z) (GF Z) ⟨Z,Z,Z⟩ (by rfl) (.inl Z))))
 refine GJ aq 3 Z (GI 23 Z (JT c6) (GG aq cN 0 Z 4 Z Z ?_))
 rcases jF h with⟨c7,h⟩ | ⟨c7,h⟩
 ·refine He Z c7 (Hb Z ?_)
  obtain⟨⟨x8,x9⟩,hx10,h⟩:=JO h
  try dsimp only at h
  refine GG aq cN 0 Z 3 Z Z (GZ Z .u (.fn Tryz.call223 Z) (pK a0.Jr.data _ hx10) rT Z (GK aq Z (T.seq (GC Z (GB aq 2 Z ?_)))))
  rcases jF h with⟨c11,h⟩ | ⟨c11,h⟩
  ·refine He Z c11 (Hb Z ?_)
   obtain⟨⟨x12,x13⟩,hx14,h⟩:=JO h
   try dsimp only at h
   refine GG aq cN 0 Z 3 Z Z (GZ Z .u (.fn Tryz.call224 Z) (nY a0.Jj.data _ hx14) rT Z (GK aq Z (T.seq (GC Z (GB aq 2 Z ?_)))))
   rcases jF h with⟨c15,h⟩ | ⟨c15,h⟩
   ·refine He Z c15 (Hb Z (GB aq 5 Z ?_))
    obtain rfl:=JP h
    exact GD (T.ret (Im [1] LO (GF Z) (GF Z) (GF Z) ⟨Z,Z,Z⟩ (by rfl) (.inl Z)))
   refine Hc Z c15 (GC Z (GB aq 4 Z ?_))
   obtain rfl:=JP h
   exact GD (T.ret (GH (Im [1] LO (GF Z) (GF Z) (GF Z) ⟨Z,Z,Z⟩ (by rfl) (.inl Z))))
  refine Hc Z c11 (GC Z (GB aq 4 Z ?_))
  obtain rfl:=JP h
  exact GD (T.ret (GH (Im [1] LO (GF Z) (GF Z) (GF Z) ⟨Z,Z,Z⟩ (by rfl) (.inl Z))))
 refine Hc Z c7 (GC Z (GB aq 3 Z ?_))
 obtain rfl:=JP h
 exact GD (T.ret (GH (Im [1] LO (GF Z) (GF Z) (GF Z) ⟨Z,Z,Z⟩ (by rfl) (.inl Z))))
def rS:eP := [(91,0,0),(91,1,1),(97,0,0),(97,1,1),(97,2,2),(97,3,3),(97,4,4),(97,5,5),(97,6,6),(97,7,7),(97,8,8),(97,9,9),(97,10,10),(97,11,11),(310,0,0),(310,1,7),(310,2,8)]
theorem aa:(rS).OK Tryz.prog:=⟨FOK.mk Ke rfl JX rfl,FOK.mk Ke rfl JX rfl,FOK.mk Kb rfl JX rfl,FOK.mk Kb rfl JX rfl,FOK.mk Kb rfl Kr rfl,FOK.mk Kb rfl Kr rfl,FOK.mk Kb rfl Kr rfl,FOK.mk Kb rfl JX rfl,FOK.mk Kb rfl JX rfl,FOK.mk Kb rfl JX rfl,FOK.mk Kb rfl JX rfl,FOK.mk Kb rfl JX rfl,FOK.mk Kb rfl JX rfl,FOK.mk Kb rfl Tryz.sizeOf95 rfl,FOK.mk L9 rfl J4 rfl,FOK.mk L9 rfl JX rfl,FOK.mk L9 rfl JX rfl,trivial⟩
def rU:List Nat := [3,4,95]
theorem an:NOK Tryz.prog rU:=⟨JZ,KG,Mr,trivial⟩
theorem jf:Tryz.prog.follows .mixedOrders=true:=by kernel_rfl
def gh (a0:Int) (a1:Int):Option (Bool):=if a0≥a1 then (if a0≤2147483647 then some true else some false) else some false
theorem jg (a0:Int) (a1:Int) (r:Bool) (h:gh a0 a1=some r):aE Tryz.prog 198 #[jI a0,jI a1] .triv (aO) (fun v A' N=>v= .bool r∧A'=aO∧N = []):=by
 refine aU Tryz.func198 Z Tryz.ntmps198 Z ?_
 intro F w hX
 unfold gh at h
 refine GC Z (G4 aa Z Z ?_)
 rcases jF h with⟨c1,h⟩ | ⟨c1,h⟩
 ·refine GB aa 4 Z (GI 8 Z (JS c1) (GJ aa 4 Z ?_))
  rcases jF h with⟨c2,h⟩ | ⟨c2,h⟩
  ·obtain rfl:=JP h
   exact GD (T.ret (G8 [0] Tryz.results198 (GF (v:= .bool true) (congrArg (fun b=>some (Value.bool b)) (JS c2))) ⟨Z,Z,Z⟩ (by rfl) (.inl Z)))
  obtain rfl:=JP h
  exact GD (T.ret (G8 [0] Tryz.results198 (GF (v:= .bool false) (congrArg (fun b=>some (Value.bool b)) (JT c2))) ⟨Z,Z,Z⟩ (by rfl) (.inl Z)))
 refine GB aa 4 Z (GI 8 Z (JT c1) (GJ aa 4 Z ?_))
 obtain rfl:=JP h
 exact GD (T.ret (GL [0] Tryz.results198 (GF Z)))
def fW (a0:Bat):Option (Bool):=if a0.I6=(-1) then (if a0.I8=(-1) then (if a0.Jn=(-1) then (if a0.JE=true then some false else some true) else some false) else some false) else (if a0.I6<0 then some false else (if a0.I8<0 then some false else (if a0.I8>32767 then some false else (if a0.JB=true then (if a0.Jn=(-1) then some true else some false) else ((gh a0.Jn 0).bind fun x13=>some x13)))))
theorem kE (a0:Bat) (A1:Option Addr) (c2:Nat) (r:Bool) (h:fW a0=some r):aE Tryz.prog 199 #[.agg (wA0 a0 A1 c2)] (RX.of (ao 7 cV) [.slice A1 a0.Ja.length c2] a0.Ja) (aO) (fun v A' N=>v= .bool r∧A'=aO∧N = []):=by
 refine aU Tryz.func199 Z Tryz.ntmps199 Z ?_
 intro F w hX
 unfold fW at h
 refine GC Z (TL.box Z .u Z Z (fun b3=>(GK aa Z (T.seq (GC Z (GG aa an 0 Z 3 Z Z ?_))))))
 rcases jF h with⟨c4,h⟩ | ⟨c4,h⟩
 ·refine G9 Z c4 (GC Z ?_)
  rcases jF h with⟨c5,h⟩ | ⟨c5,h⟩
  ·refine GG aa an 0 Z 4 Z Z (GI 9 Z (JS c5) ?_)
   rcases jF h with⟨c6,h⟩ | ⟨c6,h⟩
   ·refine GG aa an 0 Z 5 Z Z (GI 14 Z (JS c6) (GG aa an 0 Z 5 Z Z ?_))
    rcases jF h with⟨c7,h⟩ | ⟨c7,h⟩
    ·obtain rfl:=JP h
     exact GD (T.ret (GH (G8 [1] Lj (GF (v:= .bool false) (congrArg (fun b=>some (Value.bool b)) (aZ c7))) ⟨Z,Z,Z⟩ (by rfl) (.inl Z))))
    replace c7:=JW c7
    obtain rfl:=JP h
    exact GD (T.ret (GH (G8 [1] Lj (GF (v:= .bool true) (congrArg (fun b=>some (Value.bool b)) (bw c7))) ⟨Z,Z,Z⟩ (by rfl) (.inl Z))))
   refine GG aa an 0 Z 5 Z Z (GI 14 Z (JT c6) (GJ aa 5 Z ?_))
   obtain rfl:=JP h
   exact GD (T.ret (GH (GL [1] Lj (GF Z))))
  refine GG aa an 0 Z 4 Z Z (GI 9 Z (JT c5) (GJ aa 10 Z ?_))
  obtain rfl:=JP h
  exact GD (T.ret (GH (GL [1] Lj (GF Z))))
 refine Ha Z c4 (GW (T.seq (GC Z ?_)))
 rcases jF h with⟨c8,h⟩ | ⟨c8,h⟩
 ·refine GG aa an 0 Z 4 Z Z (GI 22 Z (JS c8) (Hk aa Z (GO Z Z (GC Z (GB aa 1 Z ?_)))))
  obtain rfl:=JP h
  exact GD (T.ret (GH (GL [1] Lj (GF Z))))
 refine GG aa an 0 Z 4 Z Z (GI 22 Z (JT c8) ?_)
 rcases jF h with⟨c9,h⟩ | ⟨c9,h⟩
 ·refine GG aa an 0 Z 5 Z Z (GI 27 Z (JS c9) (Hk aa Z (GO Z Z (GC Z (GB aa 1 Z ?_)))))
  obtain rfl:=JP h
  exact GD (T.ret (GH (GL [1] Lj (GF Z))))
 refine GG aa an 0 Z 5 Z Z (GI 27 Z (JT c9) (GG aa an 0 Z 4 Z Z ?_))
 rcases jF h with⟨c10,h⟩ | ⟨c10,h⟩
 ·refine G9 Z c10 (GC Z (GB aa 1 Z ?_))
  obtain rfl:=JP h
  exact GD (T.ret (GH (GL [1] Lj (GF Z))))
 refine Ha Z c10 (GW (T.seq (GC Z (GG aa an 0 Z 2 Z Z ?_))))
 rcases jF h with⟨c11,h⟩ | ⟨c11,h⟩
 ·refine GD (GO Z c11 (GC Z (GG aa an 0 Z 4 Z Z ?_)))
  rcases jF h with⟨c12,h⟩ | ⟨c12,h⟩
  ·obtain rfl:=JP h
   exact GD (T.ret (GH (G8 [1] Lj (GF (v:= .bool true) (congrArg (fun b=>some (Value.bool b)) (JS c12))) ⟨Z,Z,Z⟩ (by rfl) (.inl Z))))
  obtain rfl:=JP h
  exact GD (T.ret (GH (G8 [1] Lj (GF (v:= .bool false) (congrArg (fun b=>some (Value.bool b)) (JT c12))) ⟨Z,Z,Z⟩ (by rfl) (.inl Z))))
 replace c11:=JW c11
 refine GD (G7 Z c11 (Hb Z ?_))
 obtain⟨x13,hx14,h⟩:=JO h
 refine GG aa an 0 Z 2 Z Z (GZ Z .u (.fn Tryz.call198 Z) (jg a0.Jn 0 _ hx14) rT Z (GB aa 1 Z ?_))
 obtain rfl:=JP h
 exact GD (T.ret (GL [1] Lj (GF Z)))
def dX (a0:Bat):Nat→Int→Int→Nat→Option (Lp Int (Int×Int×Nat))
 | 0,_,_,_=>none
 | m10+1,y4,y5,k6=>if (k6:Int)<(a0.Ja.length:Int) then ((a0.Ja[k6]?).bind fun x15=>if -9223372036854775808≤(9223372036854775807 - a0.Jm)∧(9223372036854775807 - a0.Jm)≤9223372036854775807 then (if x15.JA>(9223372036854775807 - a0.Jm) then (some (Lp.ret (-1))) else (if -9223372036854775808≤(-a0.Jm)∧(-a0.Jm)≤9223372036854775807 then (if x15.JA<(-a0.Jm) then (some (Lp.ret (-1))) else (if -9223372036854775808≤(a0.Jm+x15.JA)∧(a0.Jm+x15.JA)≤9223372036854775807 then (if (a0.Jm+x15.JA)>y5 then (if -9223372036854775808≤(a0.Jm+x15.JA)∧(a0.Jm+x15.JA)≤9223372036854775807 then (if -9223372036854775808≤((k6:Int)+1)∧((k6:Int)+1)≤9223372036854775807 then (dX a0 m10 y4 (a0.Jm+x15.JA) (k6+1)) else none) else none) else (if -9223372036854775808≤((k6:Int)+1)∧((k6:Int)+1)≤9223372036854775807 then (dX a0 m10 y4 y5 (k6+1)) else none)) else none)) else none)) else none) else (some (Lp.go (y4,y5,k6)))
def lM (a0:Bat):Option (Int):=(dX a0 (((a0.Ja.length:Int)).toNat+1) 0 a0.Jm 0).bind fun e=>match e with | .ret r=>some r | .go (y30,y31,k32)=>some y31
theorem rV (a0:Bat) (A1:Option Addr) (c2:Nat) (r:Int) (h:lM a0=some r):aE Tryz.prog 225 #[.agg (wA0 a0 A1 c2)] (RX.of (ao 7 cV) [.slice A1 a0.Ja.length c2] a0.Ja) (aO) (fun v A' N=>v=jI r∧A'=aO∧N = []):=by
 refine aU Tryz.func225 Z Tryz.ntmps225 Z ?_
 intro F w hX
 unfold lM at h
 refine GC Z (TL.box Z .u Z Z (fun b3=>(G4 aa Z Z (Ir aa an 0 Z Z Z (T.seq (GC Z (GK aa Z (T.block ?_))))))))
 obtain⟨E7,hE8,hO9⟩:=JO h
 refine Hv (fun m e Rs=> ∃ (y4:Int) (y5:Int) (k6:Nat),e = [(1,jP b3),(2,jI y4),(3,jI y5),(4,jI (k6:Int))]∧Rs = [aT b3 97 (wA0 a0 A1 c2),aO]∧dX a0 m y4 y5 k6=some E7) (((a0.Ja.length:Int)).toNat+1) [0,0] ⟨0,a0.Jm,0,Z,Z,by exact hE8⟩ (by rfl) (by rfl) ?_
 clear hE8 h
 rintro m10 _ _ ⟨y4,y5,k6,rfl,rfl,h⟩
 cases m10 with
 | zero =>
  rw[dX] at h
  cases h
 | succ m10 =>
  rw[dX] at h
  refine T.seq (GC Z (GG aa an 0 Z 3 Z Z (GE Z (GQ Z J9) Z (GB aa 1 Z ?_))))
  rcases jF h with⟨c14,h⟩ | ⟨c14,h⟩
  ·refine G9 Z c14 (GW (T.seq (T.block (GC Z ?_))))
   obtain⟨x15,hx16,h⟩:=JO h
   obtain⟨gz17,oz17,rfl,z17cs,z17cl,z17cc,z17nf,z17r⟩:=Hg (by decide) hX hx16
   obtain⟨z17S,z17r,z17rr⟩:=z17r
   obtain⟨A18,c19,rfl,z17s0⟩:=z17r
   have hX20:(RX.of (ao 3 db) [.slice A18 x15.Jl.length c19] x15.Jl).reads w F:=⟨z17S,z17s0,z17rr⟩
   refine GG aa an 0 Z 3 Z Z ?_
   refine GE Z (GY (k:=k6) Z Z Z J9 J4 (JV hx16).1) Z ?_
   refine GB aa 1 Z (GE Z (Hr 0 Z JZ z17nf z17cc Z Z) Z (GK aa Z (T.seq (GC Z ?_))))
   obtain⟨c21,h⟩:=ay h
   refine GG aa an 0 Z 3 Z Z (GE Z (Ex.sub Z Z c21) Z ?_)
   rcases jF h with⟨c22,h⟩ | ⟨c22,h⟩
   ·refine GB aa 2 Z (GI 26 Z (JS c22) (Hk aa Z (GO Z Z (GC Z (GB aa 1 Z ?_)))))
    obtain rfl:=JP h
    obtain rfl:=JP hO9
    exact GD (T.ret (GH (GN (GH (GH (GN (GH (GL [1] Tryz.results225 (GF Z)))))))))
   refine GB aa 2 Z (GI 26 Z (JT c22) ?_)
   obtain⟨c23,h⟩:=ay h
   refine GG aa an 0 Z 3 Z Z (TL.q Z (.g Z Z Z) (Ex.neg Z c23) Z (GJ aa 2 Z ?_))
   rcases jF h with⟨c24,h⟩ | ⟨c24,h⟩
   ·refine G9 Z c24 (GC Z (GB aa 1 Z ?_))
    obtain rfl:=JP h
    obtain rfl:=JP hO9
    exact GD (T.ret (GH (GN (GH (GH (GN (GH (GL [1] Tryz.results225 (GF Z)))))))))
   refine Ha Z c24 (Hb Z ?_)
   obtain⟨c25,h⟩:=ay h
   refine GG aa an 0 Z 3 Z Z (GE Z (Ex.add Z Z c25) Z (GB aa 2 Z ?_))
   rcases jF h with⟨c26,h⟩ | ⟨c26,h⟩
   ·refine G9 Z c26 (T.region Z ?_)
    obtain⟨c27,h⟩:=ay h
    refine GG aa an 0 Z 3 Z Z (GE Z (Ex.add Z Z c27) Z (GB aa 1 Z (TL.nil (GX (X.seq (T.region Z ?_))))))
    obtain⟨c28,h⟩:=ay h
    exact GB aa 1 Z (GE Z (Ex.add Z Z c28) Z (GB aa 1 Z (TL.nil (X.back (m':=m10) [0,0] (by omega) ⟨y4,(a0.Jm+x15.JA),k6+1,Z,Z,h⟩ (by rfl) (by rfl)))))
   refine Ha Z c26 (T.skip (GX (X.seq (T.region Z ?_))))
   obtain⟨c29,h⟩:=ay h
   exact GB aa 1 Z (GE Z (Ex.add Z Z c29) Z (GB aa 1 Z (TL.nil (X.back (m':=m10) [0,0] (by omega) ⟨y4,y5,k6+1,Z,Z,h⟩ (by rfl) (by rfl)))))
  refine Ha Z c14 ?_
  obtain rfl:=JP h
  replace h:=hO9
  clear hO9
  try dsimp only at h
  refine T.exit (GT (GT (Hu (X.seq (GC Z (GB aa 2 Z ?_))))))
  obtain rfl:=JP h
  exact GD (T.ret (GL [1] Tryz.results225 (GF Z)))
def co (a0:Bat):Nat→Int→Nat→Option (Lp Int (Int×Nat))
 | 0,_,_=>none
 | m9+1,y4,k5=>if (k5:Int)<(a0.Ja.length:Int) then ((a0.Ja[k5]?).bind fun x14=>if x14.Jq>a0.Jx then some (Lp.ret 13) else (if (k5:Int)>0 then (if -9223372036854775808≤((k5:Int) - 1)∧((k5:Int) - 1)≤9223372036854775807 then (if 0≤((k5:Int) - 1) then ((a0.Ja[((k5:Int) - 1).toNat]?).bind fun x24=>if x14.Jq≤x24.Jq then some (Lp.ret 13) else (if x14.Jq<0 then some (Lp.ret 13) else (if -9223372036854775808≤(9223372036854775807 - a0.Jm)∧(9223372036854775807 - a0.Jm)≤9223372036854775807 then (if x14.JA>(9223372036854775807 - a0.Jm) then some (Lp.ret 11) else (if -9223372036854775808≤(-a0.Jm)∧(-a0.Jm)≤9223372036854775807 then (if x14.JA<(-a0.Jm) then some (Lp.ret 11) else (if -9223372036854775808≤((k5:Int)+1)∧((k5:Int)+1)≤9223372036854775807 then (co a0 m9 y4 (k5+1)) else none)) else none)) else none))) else none) else none) else (if x14.Jq<0 then some (Lp.ret 13) else (if -9223372036854775808≤(9223372036854775807 - a0.Jm)∧(9223372036854775807 - a0.Jm)≤9223372036854775807 then (if x14.JA>(9223372036854775807 - a0.Jm) then some (Lp.ret 11) else (if -9223372036854775808≤(-a0.Jm)∧(-a0.Jm)≤9223372036854775807 then (if x14.JA<(-a0.Jm) then some (Lp.ret 11) else (if -9223372036854775808≤((k5:Int)+1)∧((k5:Int)+1)≤9223372036854775807 then (co a0 m9 y4 (k5+1)) else none)) else none)) else none)))) else (some (Lp.go (y4,k5)))
def fD (a0:Bat):Option (Int):=(co a0 (((a0.Ja.length:Int)).toNat+1) 0 0).bind fun e=>match e with | .ret r=>some r | .go (y47,k48)=>(if a0.JG=true then some 0 else ((lM a0).bind fun x50=>if x50=a0.JF then some 0 else some 11))
theorem lN (a0:Bat) (A1:Option Addr) (c2:Nat) (r:Int) (h:fD a0=some r):aE Tryz.prog 202 #[.agg (wA0 a0 A1 c2)] (RX.of (ao 7 cV) [.slice A1 a0.Ja.length c2] a0.Ja) (aO) (fun v A' N=>v=jI r∧A'=aO∧N = []):=by
 refine aU Tryz.func202 Z Tryz.ntmps202 Z ?_
 intro F w hX
 unfold fD at h
 refine GC Z (TL.box Z .u Z Z (fun b3=>(GK aa Z (T.seq (GC Z (GK aa Z (T.block ?_)))))))
 obtain⟨E6,hE7,hO8⟩:=JO h
 refine Hv (fun m e Rs=> ∃ (y4:Int) (k5:Nat),e = [(1,jP b3),(2,jI y4),(3,jI (k5:Int))]∧Rs = [aT b3 97 (wA0 a0 A1 c2),aO]∧co a0 m y4 k5=some E6) (((a0.Ja.length:Int)).toNat+1) [0,0] ⟨0,0,Z,Z,by exact hE7⟩ (by rfl) (by rfl) ?_
 clear hE7 h
 rintro m9 _ _ ⟨y4,k5,rfl,rfl,h⟩
 cases m9 with
 | zero =>
  rw[co] at h
  cases h
 | succ m9 =>
  rw[co] at h
  refine T.seq (GC Z (GG aa an 0 Z 3 Z Z (GE Z (GQ Z J9) Z (GB aa 1 Z ?_))))
  rcases jF h with⟨c13,h⟩ | ⟨c13,h⟩
  ·refine G9 Z c13 (GW (T.seq (T.block (GC Z ?_))))
   obtain⟨x14,hx15,h⟩:=JO h
   obtain⟨gz16,oz16,rfl,z16cs,z16cl,z16cc,z16nf,z16r⟩:=Hg (by decide) hX hx15
   obtain⟨z16S,z16r,z16rr⟩:=z16r
   obtain⟨A17,c18,rfl,z16s0⟩:=z16r
   have hX19:(RX.of (ao 3 db) [.slice A17 x14.Jl.length c18] x14.Jl).reads w F:=⟨z16S,z16s0,z16rr⟩
   refine GG aa an 0 Z 3 Z Z ?_
   refine GE Z (GY (k:=k5) Z Z Z J9 J4 (JV hx15).1) Z ?_
   refine GB aa 1 Z (GE Z (Hr 1 Z JZ z16nf z16cc Z Z) Z (GK aa Z (T.seq (GC Z ?_))))
   rcases jF h with⟨c20,h⟩ | ⟨c20,h⟩
   ·refine GG aa an 0 Z 5 Z Z (GI 23 Z (JS c20) (Hk aa Z (GO Z Z (GC Z (GB aa 1 Z ?_)))))
    obtain rfl:=JP h
    obtain rfl:=JP hO8
    exact GD (T.ret (GH (GN (GH (GH (GN (GH (GL [1] Ld (GF Z)))))))))
   refine GG aa an 0 Z 5 Z Z (GI 23 Z (JT c20) ?_)
   rcases jF h with⟨c21,h⟩ | ⟨c21,h⟩
   ·refine GJ aa 3 Z (GI 26 Z (JS c21) ?_)
    obtain⟨c22,h⟩:=ay h
    refine GG aa an 0 Z 4 Z Z (TL.q Z (.g Z Z Z) (Ex.sub Z Z c22) Z ?_)
    obtain⟨c23,h⟩:=ay h
    obtain⟨x24,hx25,h⟩:=JO h
    obtain⟨z26cs,z26cl,z26cc,z26nf,z26r⟩:=IA (by decide) hX hx25
    obtain⟨z26S,z26r,z26rr⟩:=z26r
    obtain⟨A27,c28,rfl,z26s0⟩:=z26r
    have hX29:(RX.of (ao 3 db) [.slice A27 x24.Jl.length c28] x24.Jl).reads w F:=⟨z26S,z26s0,z26rr⟩
    refine TL.q Z (.g Z Z Z) (GY (k:=((k5:Int) - 1).toNat) Z Z ((Int.toNat_of_nonneg c23).symm) J9 J4 (JV hx25).1) Z ?_
    refine GJ aa 1 Z (TL.q Z (.g Z Z Z) (Hr 1 Z JZ z26nf z26cc Z Z) Z ?_)
    rcases jF h with⟨c30,h⟩ | ⟨c30,h⟩
    ·refine GJ aa 4 Z (GI 38 Z (JS c30) (Hk aa Z (GO Z Z (GC Z (GB aa 1 Z ?_)))))
     obtain rfl:=JP h
     obtain rfl:=JP hO8
     exact GD (T.ret (GH (GN (GH (GH (GN (GH (GL [1] Ld (GF Z)))))))))
    refine GJ aa 4 Z (GI 38 Z (JT c30) (GJ aa 3 Z ?_))
    rcases jF h with⟨c31,h⟩ | ⟨c31,h⟩
    ·refine G9 Z c31 (GC Z (GB aa 1 Z ?_))
     obtain rfl:=JP h
     obtain rfl:=JP hO8
     exact GD (T.ret (GH (GN (GH (GH (GN (GH (GL [1] Ld (GF Z)))))))))
    refine Ha Z c31 (Hb Z (GG aa an 0 Z 3 Z Z ?_))
    refine GE Z (GY (k:=k5) Z Z Z J9 J4 (JV hx15).1) Z ?_
    refine GB aa 1 Z (GE Z (Hr 0 Z JZ z16nf z16cc Z Z) Z (G4 aa Z Z ?_))
    obtain⟨c32,h⟩:=ay h
    refine GG aa an 0 Z 3 Z Z (GE Z (Ex.sub Z Z c32) Z ?_)
    rcases jF h with⟨c33,h⟩ | ⟨c33,h⟩
    ·refine GB aa 2 Z (GI 53 Z (JS c33) (Hk aa Z (GO Z Z (GC Z (GB aa 1 Z ?_)))))
     obtain rfl:=JP h
     obtain rfl:=JP hO8
     exact GD (T.ret (GN (GH (GH (GN (GH (GL [1] Ld (GF Z))))))))
    refine GB aa 2 Z (GI 53 Z (JT c33) ?_)
    obtain⟨c34,h⟩:=ay h
    refine GG aa an 0 Z 3 Z Z (TL.q Z (.g Z Z Z) (Ex.neg Z c34) Z (GJ aa 2 Z ?_))
    rcases jF h with⟨c35,h⟩ | ⟨c35,h⟩
    ·refine G9 Z c35 (GC Z (GB aa 1 Z ?_))
     obtain rfl:=JP h
     obtain rfl:=JP hO8
     exact GD (T.ret (GN (GH (GH (GN (GH (GL [1] Ld (GF Z))))))))
    refine Ha Z c35 (T.skip (GX (X.seq (T.region Z ?_))))
    obtain⟨c36,h⟩:=ay h
    exact GB aa 1 Z (GE Z (Ex.add Z Z c36) Z (GB aa 1 Z (TL.nil (X.back (m':=m9) [0,0] (by omega) ⟨y4,k5+1,Z,Z,h⟩ (by rfl) (by rfl)))))
   refine GJ aa 3 Z (GI 26 Z (JT c21) (GJ aa 15 Z ?_))
   rcases jF h with⟨c37,h⟩ | ⟨c37,h⟩
   ·refine G9 Z c37 (GC Z (GB aa 1 Z ?_))
    obtain rfl:=JP h
    obtain rfl:=JP hO8
    exact GD (T.ret (GH (GN (GH (GH (GN (GH (GL [1] Ld (GF Z)))))))))
   refine Ha Z c37 (Hb Z (GG aa an 0 Z 3 Z Z ?_))
   refine GE Z (GY (k:=k5) Z Z Z J9 J4 (JV hx15).1) Z ?_
   refine GB aa 1 Z (GE Z (Hr 0 Z JZ z16nf z16cc Z Z) Z (G4 aa Z Z ?_))
   obtain⟨c38,h⟩:=ay h
   refine GG aa an 0 Z 3 Z Z (GE Z (Ex.sub Z Z c38) Z ?_)
   rcases jF h with⟨c39,h⟩ | ⟨c39,h⟩
   ·refine GB aa 2 Z (GI 53 Z (JS c39) (Hk aa Z (GO Z Z (GC Z (GB aa 1 Z ?_)))))
    obtain rfl:=JP h
    obtain rfl:=JP hO8
    exact GD (T.ret (GN (GH (GH (GN (GH (GL [1] Ld (GF Z))))))))
   refine GB aa 2 Z (GI 53 Z (JT c39) ?_)
   obtain⟨c40,h⟩:=ay h
   refine GG aa an 0 Z 3 Z Z (TL.q Z (.g Z Z Z) (Ex.neg Z c40) Z (GJ aa 2 Z ?_))
   rcases jF h with⟨c41,h⟩ | ⟨c41,h⟩
   ·refine G9 Z c41 (GC Z (GB aa 1 Z ?_))
    obtain rfl:=JP h
    obtain rfl:=JP hO8
    exact GD (T.ret (GN (GH (GH (GN (GH (GL [1] Ld (GF Z))))))))
   refine Ha Z c41 (T.skip (GX (X.seq (T.region Z ?_))))
   obtain⟨c42,h⟩:=ay h
   exact GB aa 1 Z (GE Z (Ex.add Z Z c42) Z (GB aa 1 Z (TL.nil (X.back (m':=m9) [0,0] (by omega) ⟨y4,k5+1,Z,Z,h⟩ (by rfl) (by rfl)))))
  refine Ha Z c13 ?_
  obtain rfl:=JP h
  replace h:=hO8
  clear hO8
  try dsimp only at h
  refine T.exit (GT (GT (Hu (X.seq (In (Hp (.q 0 (.q 1 (.q 2 (.q 3 (.q 4 (.q 6 (.q 7 (.e 5 (.q 8 (.q 9 .nil)))))))))) [0,0] Z jf (NoP.seq (NoP.seq bA)) (by kernel_rfl) ?_))))))
  refine TD.run aa [0] Z Z (GM Z (G5 0 Z KG Z Z) Z ?_)
  rcases jF h with⟨c43,h⟩ | ⟨c43,h⟩
  ·refine TD.run aa [2,3] Z Z ?_
   iterate 3 refine HU Z (.gn Z Z (aZ c43)) Z ?_
   refine IB Z (.gn Z Z (aZ c43)) Z [0,0] Z (HU Z (.gn Z Z (aZ c43)) Z (GM Z (H9 Z (aZ c43) Z) Z (HX (G7 Z Z (Hb Z (GB aa 1 Z ?_))))))
   obtain rfl:=JP h
   exact GD (T.ret (GL [1] Ld (GF Z)))
  replace c43:=JW c43
  refine TD.run aa [2,3] Z Z (TD.q Z (.g Z Z (bw c43)) (GR (us:=wL5 a0 A1 c2) 0 Z Ku J6 Z Z Z) Z (TD.q Z (.g Z Z (bw c43)) (Hm aa Z) Z (TD.q Z (.g Z Z (bw c43)) (G5 0 Z JZ Z Z) Z ?_)))
  obtain⟨x44,hx45,h⟩:=JO h
  refine Iv Z (.g Z Z (bw c43)) (.fn Tryz.call225 Z) (rV a0 _ _ _ hx45) (fun _ hs=>(GS hs hX)) Z [0,0] (Z) (TD.q Z (.g Z Z (bw c43)) (Hm aa Z) Z (GM Z (Ia Z (bw c43) Z) Z ?_))
  rcases jF h with⟨c46,h⟩ | ⟨c46,h⟩
  ·refine HX (T.nn Z c46 (Hb Z (GB aa 1 Z ?_)))
   obtain rfl:=JP h
   exact GD (T.ret (GL [1] Ld (GF Z)))
  refine HX (T.yn Z c46 (GC Z (GB aa 1 Z ?_)))
  obtain rfl:=JP h
  exact GD (T.ret (GH (GL [1] Ld (GF Z))))
def dx (a0:Bat):Nat→Int→Nat→Option (Lp Int (Int×Nat))
 | 0,_,_=>none
 | m26+1,y21,k22=>if (k22:Int)<(a0.Ja.length:Int) then ((a0.Ja[k22]?).bind fun x31=>(iQ x31).bind fun x37=>if x37=0 then (if -9223372036854775808≤((k22:Int)+1)∧((k22:Int)+1)≤9223372036854775807 then (dx a0 m26 y21 (k22+1)) else none) else some (Lp.ret x37)) else (some (Lp.go (y21,k22)))
def fg (a0:Bat):Nat→Int→Nat→Option (Lp Int (Int×Nat))
 | 0,_,_=>none
 | m77+1,y72,k73=>if (k73:Int)<(a0.Ja.length:Int) then ((a0.Ja[k73]?).bind fun x82=>(iQ x82).bind fun x88=>if x88=0 then (if -9223372036854775808≤((k73:Int)+1)∧((k73:Int)+1)≤9223372036854775807 then (fg a0 m77 y72 (k73+1)) else none) else some (Lp.ret x88)) else (some (Lp.go (y72,k73)))
def gV (a0:Bat):Option (Int):=if a0.Jz<0 then some 11 else ((gh a0.Jv (-1)).bind fun x5=>if x5=true then ((gh a0.Jx 0).bind fun x8=>if x8=true then (if -9223372036854775808≤(9223372036854775807 - a0.Jz)∧(9223372036854775807 - a0.Jz)≤9223372036854775807 then (if a0.Jx>(9223372036854775807 - a0.Jz) then some 11 else (if a0.Jm<0 then some 11 else (if a0.JF<0 then some 11 else (if a0.JB=true then (if a0.JE=true then ((fW a0).bind fun x17=>if x17=true then (if (a0.Ja.length:Int)=1 then ((dx a0 (((a0.Ja.length:Int)).toNat+1) 0 0).bind fun e=>match e with | .ret r=>some r | .go (y54,k55)=>((a0.Ja[0]?).bind fun x56=>(gU x56).bind fun (x62,x63,x64)=>if x64=0 then ((fD a0).bind fun x67=>some x67) else some x64)) else some 10) else some 11) else some 8) else ((fW a0).bind fun x69=>if x69=true then ((fg a0 (((a0.Ja.length:Int)).toNat+1) 0 0).bind fun e=>match e with | .ret r=>some r | .go (y94,k95)=>((fD a0).bind fun x96=>some x96)) else some 11))))) else none) else some 11) else some 11)
theorem rW (a0:Bat) (A1:Option Addr) (c2:Nat) (r:Int) (h:gV a0=some r):aE Tryz.prog 159 #[.agg (wA0 a0 A1 c2)] (RX.of (ao 7 cV) [.slice A1 a0.Ja.length c2] a0.Ja) (aO) (fun v A' N=>v=jI r∧A'=aO∧N = []):=by
 refine aU Tryz.func159 Z Tryz.ntmps159 Z ?_
 intro F w hX
 unfold gV at h
 refine GC Z (TL.box Z .u Z Z (fun b3=>(GK aa Z (T.seq (GC Z ?_)))))
 rcases jF h with⟨c4,h⟩ | ⟨c4,h⟩
 ·refine GG aa an 0 Z 4 Z Z (GI 11 Z (JS c4) (Hk aa Z (GO Z Z (GC Z (GB aa 1 Z ?_)))))
  obtain rfl:=JP h
  exact GD (T.ret (GH (GL [1] KV (GF Z))))
 refine GG aa an 0 Z 4 Z Z (GI 11 Z (JT c4) ?_)
 obtain⟨x5,hx6,h⟩:=JO h
 refine GG aa an 0 Z 2 Z Z (GZ Z (.g Z Z Z) (.fn Tryz.call198 Z) (jg a0.Jv (-1) _ hx6) rT Z ?_)
 rcases jF h with⟨c7,h⟩ | ⟨c7,h⟩
 ·refine GJ aa 3 Z (GI 17 Z (aZ c7) ?_)
  obtain⟨x8,hx9,h⟩:=JO h
  refine GG aa an 0 Z 2 Z Z (GZ Z (.g Z Z Z) (.fn Tryz.call198 Z) (jg a0.Jx 0 _ hx9) rT Z ?_)
  rcases jF h with⟨c10,h⟩ | ⟨c10,h⟩
  ·refine GJ aa 3 Z (GI 23 Z (aZ c10) ?_)
   obtain⟨c11,h⟩:=ay h
   refine GG aa an 0 Z 4 Z Z (TL.q Z (.g Z Z Z) (Ex.sub Z Z c11) Z ?_)
   rcases jF h with⟨c12,h⟩ | ⟨c12,h⟩
   ·refine GJ aa 3 Z (GI 31 Z (JS c12) (Hk aa Z (GO Z Z (GC Z (GB aa 1 Z ?_)))))
    obtain rfl:=JP h
    exact GD (T.ret (GH (GL [1] KV (GF Z))))
   refine GJ aa 3 Z (GI 31 Z (JT c12) ?_)
   rcases jF h with⟨c13,h⟩ | ⟨c13,h⟩
   ·refine GG aa an 0 Z 5 Z Z (GI 36 Z (JS c13) (Hk aa Z (GO Z Z (GC Z (GB aa 1 Z ?_)))))
    obtain rfl:=JP h
    exact GD (T.ret (GH (GL [1] KV (GF Z))))
   refine GG aa an 0 Z 5 Z Z (GI 36 Z (JT c13) (GG aa an 0 Z 4 Z Z ?_))
   rcases jF h with⟨c14,h⟩ | ⟨c14,h⟩
   ·refine G9 Z c14 (GC Z (GB aa 1 Z ?_))
    obtain rfl:=JP h
    exact GD (T.ret (GH (GL [1] KV (GF Z))))
   refine Ha Z c14 (GW (T.seq (GC Z ?_)))
   rcases jF h with⟨c15,h⟩ | ⟨c15,h⟩
   ·refine GG aa an 0 Z 3 Z Z (GI 43 Z c15 (GG aa an 0 Z 4 Z Z ?_))
    rcases jF h with⟨c16,h⟩ | ⟨c16,h⟩
    ·refine GD (G7 Z (aZ c16) (GW (T.seq (GC Z (GE Z (GR (us:=wL5 a0 A1 c2) 0 Z Ku J6 Z Z Z) Z ?_)))))
     obtain⟨x17,hx18,h⟩:=JO h
     refine GZ Z .u (.fn Tryz.call199 Z) (kE a0 _ _ _ hx18) (fun _ hs=>(GS hs hX)) Z (GB aa 1 Z ?_)
     rcases jF h with⟨c19,h⟩ | ⟨c19,h⟩
     ·refine GD (G7 Z (aZ c19) (GW (T.seq (GC Z (GG aa an 0 Z 3 Z Z (GI 53 Z c15 (GG aa an 0 Z 2 Z Z (TL.q Z (.g Z Z Z) (GQ Z J9) Z (GJ aa 2 Z ?_)))))))))
      rcases jF h with⟨c20,h⟩ | ⟨c20,h⟩
      ·refine He Z c20 (GW (T.seq (GC Z (GK aa Z (T.block ?_)))))
       obtain⟨E23,hE24,hO25⟩:=JO h
       refine Hv (fun m e Rs=> ∃ (y21:Int) (k22:Nat),e = [(1,jP b3),(2,jI y21),(3,jI (k22:Int))]∧Rs = [aT b3 97 (wA0 a0 A1 c2),aO]∧dx a0 m y21 k22=some E23) (((a0.Ja.length:Int)).toNat+1) [0,0] ⟨0,0,Z,Z,by exact hE24⟩ (by rfl) (by rfl) ?_
       clear hE24 h
       rintro m26 _ _ ⟨y21,k22,rfl,rfl,h⟩
       cases m26 with
       | zero =>
        rw[dx] at h
        cases h
       | succ m26 =>
        rw[dx] at h
        refine T.seq (GC Z (GG aa an 0 Z 3 Z Z (GE Z (GQ Z J9) Z (GB aa 1 Z ?_))))
        rcases jF h with⟨c30,h⟩ | ⟨c30,h⟩
        ·refine G9 Z c30 (GW (T.seq (T.block (GC Z ?_))))
         obtain⟨x31,hx32,h⟩:=JO h
         obtain⟨gz33,oz33,rfl,z33cs,z33cl,z33cc,z33nf,z33r⟩:=Hg (by decide) hX hx32
         obtain⟨z33S,z33r,z33rr⟩:=z33r
         obtain⟨A34,c35,rfl,z33s0⟩:=z33r
         have hX36:(RX.of (ao 3 db) [.slice A34 x31.Jl.length c35] x31.Jl).reads w F:=⟨z33S,z33s0,z33rr⟩
         refine GG aa an 0 Z 3 Z Z ?_
         refine GE Z (GY (k:=k22) Z Z Z J9 J4 (JV hx32).1) Z ?_
         refine GE Z (HW (us:=wL1 x31 A34 c35) 0 Z Ky J4 z33nf z33cc Z Z Z) Z ?_
         obtain⟨x37,hx38,h⟩:=JO h
         refine GZ Z .u (.fn Tryz.call200 Z) (mv x31 _ _ _ hx38) (fun _ hs=>(GS hs hX36)) Z (G4 aa Z Z (GB aa 2 Z ?_))
         rcases jF h with⟨c39,h⟩ | ⟨c39,h⟩
         ·refine He Z c39 (T.skip (GX (X.seq (T.region Z ?_))))
          obtain⟨c40,h⟩:=ay h
          exact GB aa 1 Z (GE Z (Ex.add Z Z c40) Z (GB aa 1 Z (TL.nil (X.back (m':=m26) [0,0] (by omega) ⟨y21,k22+1,Z,Z,h⟩ (by rfl) (by rfl)))))
         refine Hc Z c39 (GC Z (GB aa 2 Z ?_))
         obtain rfl:=JP h
         obtain rfl:=JP hO25
         exact GD (T.ret (GN (GH (GH (GN (GH (GL [1] KV (GF Z))))))))
        refine Ha Z c30 ?_
        obtain rfl:=JP h
        replace h:=hO25
        clear hO25
        try dsimp only at h
        refine T.exit (GT (GT (Hu (X.seq (T.seq (GC Z (Ir aa an 0 Z Z Z (GO Z c15 (GC Z ?_)))))))))
        obtain⟨x41,hx42,h⟩:=JO h
        obtain⟨gz43,oz43,rfl,z43cs,z43cl,z43cc,z43nf,z43r⟩:=Hg (by decide) hX hx42
        obtain⟨z43S,z43r,z43rr⟩:=z43r
        obtain⟨A44,c45,rfl,z43s0⟩:=z43r
        have hX46:(RX.of (ao 3 db) [.slice A44 x41.Jl.length c45] x41.Jl).reads w F:=⟨z43S,z43s0,z43rr⟩
        refine GG aa an 0 Z 2 Z Z ?_
        refine GE Z (GY (k:=0) Z Z Z J9 J4 (JV hx42).1) Z ?_
        refine GE Z (HW (us:=wL1 x41 A44 c45) 0 Z Ky J4 z43nf z43cc Z Z Z) Z ?_
        obtain⟨⟨x47,x48,x49⟩,hx50,h⟩:=JO h
        try dsimp only at h
        refine GZ Z .u (.fn Tryz.call201 Z) (tr x41 _ _ _ hx50) (fun _ hs=>(GS hs hX46)) Z (G4 aa Z Z (GB aa 2 Z ?_))
        rcases jF h with⟨c51,h⟩ | ⟨c51,h⟩
        ·refine He Z c51 (Hb Z (GE Z (GR (us := [jI a0.Jz,jI a0.Jv,.bool a0.JG,.bool a0.JE,.bool a0.JB,jI a0.Jx,jI a0.Jm,jI a0.JF,jI a0.I6,jI a0.I8,jI a0.Jn,.slice (some ⟨gz43,oz43,none⟩) a0.Ja.length c2]) 0 Z Ku J6 Z Z Z) Z ?_))
         obtain⟨x52,hx53,h⟩:=JO h
         refine GZ Z .u (.fn Tryz.call202 Z) (lN a0 _ _ _ hx53) (fun _ hs=>(GS hs hX)) Z (GB aa 1 Z ?_)
         obtain rfl:=JP h
         exact GD (T.ret (GL [1] KV (GF Z)))
        refine Hc Z c51 (GC Z (GB aa 2 Z ?_))
        obtain rfl:=JP h
        exact GD (T.ret (GH (GL [1] KV (GF Z))))
      refine Hc Z c20 (GC Z (GB aa 1 Z ?_))
      obtain rfl:=JP h
      exact GD (T.ret (GH (GL [1] KV (GF Z))))
     replace c19:=JW c19
     refine GD (GO Z (bw c19) (GC Z (GB aa 1 Z ?_)))
     obtain rfl:=JP h
     exact GD (T.ret (GH (GL [1] KV (GF Z))))
    replace c16:=JW c16
    refine GD (GO Z (bw c16) (GC Z (GB aa 1 Z ?_)))
    obtain rfl:=JP h
    exact GD (T.ret (GH (GL [1] KV (GF Z))))
   replace c15:=JW c15
   refine GG aa an 0 Z 3 Z Z (GI 43 Z c15 (Hk aa Z (G7 Z Z (GW (T.seq (GC Z (GE Z (GR (us:=wL5 a0 A1 c2) 0 Z Ku J6 Z Z Z) Z ?_)))))))
   obtain⟨x69,hx70,h⟩:=JO h
   refine GZ Z .u (.fn Tryz.call199 Z) (kE a0 _ _ _ hx70) (fun _ hs=>(GS hs hX)) Z (GB aa 1 Z ?_)
   rcases jF h with⟨c71,h⟩ | ⟨c71,h⟩
   ·refine GD (G7 Z (aZ c71) (GW (T.seq (GC Z (GG aa an 0 Z 3 Z Z (GI 53 Z c15 (Hk aa Z (G7 Z Z ?_))))))))
    refine GW (T.seq (GC Z (GK aa Z (T.block ?_))))
    obtain⟨E74,hE75,hO76⟩:=JO h
    refine Hv (fun m e Rs=> ∃ (y72:Int) (k73:Nat),e = [(1,jP b3),(2,jI y72),(3,jI (k73:Int))]∧Rs = [aT b3 97 (wA0 a0 A1 c2),aO]∧fg a0 m y72 k73=some E74) (((a0.Ja.length:Int)).toNat+1) [0,0] ⟨0,0,Z,Z,by exact hE75⟩ (by rfl) (by rfl) ?_
    clear hE75 h
    rintro m77 _ _ ⟨y72,k73,rfl,rfl,h⟩
    cases m77 with
    | zero =>
     rw[fg] at h
     cases h
    | succ m77 =>
     rw[fg] at h
     refine T.seq (GC Z (GG aa an 0 Z 3 Z Z (GE Z (GQ Z J9) Z (GB aa 1 Z ?_))))
     rcases jF h with⟨c81,h⟩ | ⟨c81,h⟩
     ·refine G9 Z c81 (GW (T.seq (T.block (GC Z ?_))))
      obtain⟨x82,hx83,h⟩:=JO h
      obtain⟨gz84,oz84,rfl,z84cs,z84cl,z84cc,z84nf,z84r⟩:=Hg (by decide) hX hx83
      obtain⟨z84S,z84r,z84rr⟩:=z84r
      obtain⟨A85,c86,rfl,z84s0⟩:=z84r
      have hX87:(RX.of (ao 3 db) [.slice A85 x82.Jl.length c86] x82.Jl).reads w F:=⟨z84S,z84s0,z84rr⟩
      refine GG aa an 0 Z 3 Z Z ?_
      refine GE Z (GY (k:=k73) Z Z Z J9 J4 (JV hx83).1) Z ?_
      refine GE Z (HW (us:=wL1 x82 A85 c86) 0 Z Ky J4 z84nf z84cc Z Z Z) Z ?_
      obtain⟨x88,hx89,h⟩:=JO h
      refine GZ Z .u (.fn Tryz.call200 Z) (mv x82 _ _ _ hx89) (fun _ hs=>(GS hs hX87)) Z (G4 aa Z Z (GB aa 2 Z ?_))
      rcases jF h with⟨c90,h⟩ | ⟨c90,h⟩
      ·refine He Z c90 (T.skip (GX (X.seq (T.region Z ?_))))
       obtain⟨c91,h⟩:=ay h
       exact GB aa 1 Z (GE Z (Ex.add Z Z c91) Z (GB aa 1 Z (TL.nil (X.back (m':=m77) [0,0] (by omega) ⟨y72,k73+1,Z,Z,h⟩ (by rfl) (by rfl)))))
      refine Hc Z c90 (GC Z (GB aa 2 Z ?_))
      obtain rfl:=JP h
      obtain rfl:=JP hO76
      exact GD (T.ret (GN (GH (GH (GN (GH (GL [1] KV (GF Z))))))))
     refine Ha Z c81 ?_
     obtain rfl:=JP h
     replace h:=hO76
     clear hO76
     try dsimp only at h
     refine T.exit (GT (GT (Hu (X.seq (T.seq (GC Z (Ir aa an 0 Z Z Z (G7 Z c15 (Hb Z (GE Z (GR (us:=wL5 a0 A1 c2) 0 Z Ku J6 Z Z Z) Z ?_))))))))))
     obtain⟨x92,hx93,h⟩:=JO h
     refine GZ Z .u (.fn Tryz.call202 Z) (lN a0 _ _ _ hx93) (fun _ hs=>(GS hs hX)) Z (GB aa 1 Z ?_)
     obtain rfl:=JP h
     exact GD (T.ret (GL [1] KV (GF Z)))
   replace c71:=JW c71
   refine GD (GO Z (bw c71) (GC Z (GB aa 1 Z ?_)))
   obtain rfl:=JP h
   exact GD (T.ret (GH (GL [1] KV (GF Z))))
  replace c10:=JW c10
  refine GJ aa 3 Z (GI 23 Z (bw c10) (Hk aa Z (GO Z Z (GC Z (GB aa 1 Z ?_)))))
  obtain rfl:=JP h
  exact GD (T.ret (GH (GL [1] KV (GF Z))))
 replace c7:=JW c7
 refine GJ aa 3 Z (GI 17 Z (bw c7) (Hk aa Z (GO Z Z (GC Z (GB aa 1 Z ?_)))))
 obtain rfl:=JP h
 exact GD (T.ret (GH (GL [1] KV (GF Z))))
def eX (a0:Bat) (a1:Bat):Nat→Bool→Nat→Option (Lp Bool (Bool×Nat))
 | 0,_,_=>none
 | m38+1,y33,k34=>if (k34:Int)<(a0.Ja.length:Int) then ((a0.Ja[k34]?).bind fun x43=>(a1.Ja[k34]?).bind fun x49=>(lj x43 x49).bind fun x55=>if x55=true then (if -9223372036854775808≤((k34:Int)+1)∧((k34:Int)+1)≤9223372036854775807 then (eX a0 a1 m38 y33 (k34+1)) else none) else some (Lp.ret false)) else (some (Lp.go (y33,k34)))
def lk (a0:Bat) (a1:Bat):Option (Bool):=(if a0.Jz=a1.Jz then (if a0.Jv=a1.Jv then (if (a0.JG == a1.JG)=true then (if (a0.JE == a1.JE)=true then (if (a0.JB == a1.JB)=true then (if a0.Jx=a1.Jx then (if a0.Jm=a1.Jm then (if a0.JF=a1.JF then (if a0.I6=a1.I6 then (if a0.I8=a1.I8 then (if a0.Jn=a1.Jn then (if (a0.Ja.length:Int)=(a1.Ja.length:Int) then some false else some true) else some true) else some true) else some true) else some true) else some true) else some true) else some true) else some true) else some true) else some true) else some true).bind fun y18=>if y18=true then some false else ((eX a0 a1 (((a0.Ja.length:Int)).toNat+1) false 0).bind fun e=>match e with | .ret r=>some r | .go (y59,k60)=>some true)
theorem tt (a0:Bat) (A1:Option Addr) (c2:Nat) (a1:Bat) (A3:Option Addr) (c4:Nat) (r:Bool) (h:lk a0 a1=some r):aE Tryz.prog 167 #[.agg (wA0 a0 A1 c2),.agg (wA0 a1 A3 c4)] (RX.and (RX.of (ao 7 cV) [.slice A1 a0.Ja.length c2] a0.Ja) (RX.of (ao 7 cV) [.slice A3 a1.Ja.length c4] a1.Ja)) (aO) (fun v A' N=>v= .bool r∧A'=aO∧N = []):=by
 refine aU Tryz.func167 Z Tryz.ntmps167 Z ?_
 intro F w hX
 unfold lk at h
 refine GC Z (TL.box Z .u Z Z (fun b5=>(TL.box Z .u Z Z (fun b6=>(GK aa Z (In ?_))))))
 obtain⟨y18,h,hk19⟩:=JO h
 refine HJ (fun e Rs=>e = [(2,jP b5),(3,jP b6),(4,.bool false),(89,.bool y18)]∧Rs = [aT b6 97 (wA0 a1 A3 c4),aT b5 97 (wA0 a0 A1 c2),aO]) ?_ ?_
 ·clear hk19
  refine T.region Z (GG aa an 1 Z 3 Z Z ?_)
  rcases jF h with⟨c20,h⟩ | ⟨c20,h⟩
  ·refine GG aa an 0 Z 3 Z Z (GI 11 Z (aZ (JS c20)) (GG aa an 1 Z 3 Z Z ?_))
   rcases jF h with⟨c21,h⟩ | ⟨c21,h⟩
   ·refine GG aa an 0 Z 4 Z Z (GI 18 Z (aZ (JS c21)) (GG aa an 1 Z 3 Z Z (GG aa an 0 Z 1 Z Z (TL.q Z (.g Z Z Z) (Id Z Z Z Z Ki) Z ?_))))
    rcases jF h with⟨c22,h⟩ | ⟨c22,h⟩
    ·refine GJ aa 2 Z (GI 25 Z (aZ c22) (GG aa an 1 Z 3 Z Z (GG aa an 0 Z 1 Z Z (TL.q Z (.g Z Z Z) (Id Z Z Z Z Ki) Z ?_))))
     rcases jF h with⟨c23,h⟩ | ⟨c23,h⟩
     ·refine GJ aa 2 Z (GI 32 Z (aZ c23) (GG aa an 1 Z 3 Z Z (GG aa an 0 Z 1 Z Z (TL.q Z (.g Z Z Z) (Id Z Z Z Z Ki) Z ?_))))
      rcases jF h with⟨c24,h⟩ | ⟨c24,h⟩
      ·refine GJ aa 2 Z (GI 39 Z (aZ c24) (GG aa an 1 Z 3 Z Z ?_))
       rcases jF h with⟨c25,h⟩ | ⟨c25,h⟩
       ·refine GG aa an 0 Z 4 Z Z (GI 46 Z (aZ (JS c25)) (GG aa an 1 Z 3 Z Z ?_))
        rcases jF h with⟨c26,h⟩ | ⟨c26,h⟩
        ·refine GG aa an 0 Z 4 Z Z (GI 53 Z (aZ (JS c26)) (GG aa an 1 Z 3 Z Z ?_))
         rcases jF h with⟨c27,h⟩ | ⟨c27,h⟩
         ·refine GG aa an 0 Z 4 Z Z (GI 60 Z (aZ (JS c27)) (GG aa an 1 Z 3 Z Z ?_))
          rcases jF h with⟨c28,h⟩ | ⟨c28,h⟩
          ·refine GG aa an 0 Z 4 Z Z (GI 67 Z (aZ (JS c28)) (GG aa an 1 Z 3 Z Z ?_))
           rcases jF h with⟨c29,h⟩ | ⟨c29,h⟩
           ·refine GG aa an 0 Z 4 Z Z (GI 74 Z (aZ (JS c29)) (GG aa an 1 Z 3 Z Z ?_))
            rcases jF h with⟨c30,h⟩ | ⟨c30,h⟩
            ·refine GG aa an 0 Z 4 Z Z (GI 81 Z (aZ (JS c30)) (GG aa an 1 Z 2 Z Z (TL.q Z (.g Z Z Z) (GQ Z J9) Z (GG aa an 0 Z 2 Z Z (TL.q Z (.g Z Z Z) (GQ Z J9) Z (GJ aa 2 Z ?_))))))
             rcases jF h with⟨c31,h⟩ | ⟨c31,h⟩
             ·cases h
              exact TL.nil (Hx (d:=89) (v':= .bool false) Z (congrArg Value.bool (aZ (JS c31))) (GP [0,0,0]))
             cases h
             exact TL.nil (Hx (d:=89) (v':= .bool true) Z (congrArg Value.bool (bw (JT c31))) (GP [0,0,0]))
            refine GG aa an 0 Z 4 Z Z (GI 81 Z (bw (JT c30)) (GJ aa 8 Z ?_))
            cases h
            exact TL.nil (GP [0,0,0])
           refine GG aa an 0 Z 4 Z Z (GI 74 Z (bw (JT c29)) (GJ aa 15 Z ?_))
           cases h
           exact TL.nil (GP [0,0,0])
          refine GG aa an 0 Z 4 Z Z (GI 67 Z (bw (JT c28)) (GJ aa 22 Z ?_))
          cases h
          exact TL.nil (GP [0,0,0])
         refine GG aa an 0 Z 4 Z Z (GI 60 Z (bw (JT c27)) (GJ aa 29 Z ?_))
         cases h
         exact TL.nil (GP [0,0,0])
        refine GG aa an 0 Z 4 Z Z (GI 53 Z (bw (JT c26)) (GJ aa 36 Z ?_))
        cases h
        exact TL.nil (GP [0,0,0])
       refine GG aa an 0 Z 4 Z Z (GI 46 Z (bw (JT c25)) (GJ aa 43 Z ?_))
       cases h
       exact TL.nil (GP [0,0,0])
      replace c24:=JW c24
      refine GJ aa 2 Z (GI 39 Z (bw c24) (GJ aa 50 Z ?_))
      cases h
      exact TL.nil (GP [0,0,0])
     replace c23:=JW c23
     refine GJ aa 2 Z (GI 32 Z (bw c23) (GJ aa 57 Z ?_))
     cases h
     exact TL.nil (GP [0,0,0])
    replace c22:=JW c22
    refine GJ aa 2 Z (GI 25 Z (bw c22) (GJ aa 64 Z ?_))
    cases h
    exact TL.nil (GP [0,0,0])
   refine GG aa an 0 Z 4 Z Z (GI 18 Z (bw (JT c21)) (GJ aa 71 Z ?_))
   cases h
   exact TL.nil (GP [0,0,0])
  refine GG aa an 0 Z 3 Z Z (GI 11 Z (bw (JT c20)) (GJ aa 78 Z ?_))
  cases h
  exact TL.nil (GP [0,0,0])
 rintro _ _ ⟨rfl,rfl⟩
 clear h
 have h:=hk19
 clear hk19
 try dsimp only at h
 rcases jF h with⟨c32,h⟩ | ⟨c32,h⟩
 ·refine X.seq (GO Z c32 (GC Z (GB aa 1 Z ?_)))
  obtain rfl:=JP h
  exact GD (T.ret (GH (GL [2] Tryz.results167 (GF Z))))
 replace c32:=JW c32
 refine X.seq (G7 Z c32 (GW (T.seq (GC Z (GK aa Z (T.block ?_))))))
 obtain⟨E35,hE36,hO37⟩:=JO h
 refine Hv (fun m e Rs=> ∃ (y33:Bool) (k34:Nat),e = [(2,jP b5),(3,jP b6),(4,.bool y33),(5,jI (k34:Int))]∧Rs = [aT b6 97 (wA0 a1 A3 c4),aT b5 97 (wA0 a0 A1 c2),aO]∧eX a0 a1 m y33 k34=some E35) (((a0.Ja.length:Int)).toNat+1) [0,0,0] ⟨false,0,Z,Z,by exact hE36⟩ (by rfl) (by rfl) ?_
 clear hE36 h
 rintro m38 _ _ ⟨y33,k34,rfl,rfl,h⟩
 cases m38 with
 | zero =>
  rw[eX] at h
  cases h
 | succ m38 =>
  rw[eX] at h
  refine T.seq (GC Z (GG aa an 1 Z 3 Z Z (GE Z (GQ Z J9) Z (GB aa 1 Z ?_))))
  rcases jF h with⟨c42,h⟩ | ⟨c42,h⟩
  ·refine G9 Z c42 ?_
   refine GW (T.seq (T.block (T.seq (Hp (.q 0 (.q 1 (.q 2 (.q 3 (.q 4 (.q 5 (.q 6 (.q 7 (.q 8 (.q 9 (.e 10 (.q 11 .nil)))))))))))) [0,0,0] Z jf (NoP.seq (NoP.blk (NoP.seq (NoP.seq (NoP.blk (NoP.seq bA)))))) (by kernel_rfl) ?_))))
   refine TD.run aa [0] Z Z (GM Z (G5 1 Z Mr Z Z) Z ?_)
   obtain⟨x43,hx44,h⟩:=JO h
   obtain⟨gz45,oz45,rfl,z45cs,z45cl,z45cc,z45nf,z45r⟩:=Hg (by decide) (Ho hX) hx44
   obtain⟨z45S,z45r,z45rr⟩:=z45r
   obtain⟨A46,c47,rfl,z45s0⟩:=z45r
   have hX48:(RX.of (ao 3 db) [.slice A46 x43.Jl.length c47] x43.Jl).reads w F:=⟨z45S,z45s0,z45rr⟩
   refine TD.run aa [2] Z Z ?_
   refine GM Z (GY (k:=k34) Z Z Z J9 J4 (JV hx44).1) Z ?_
   refine GM Z (HW (us:=wL1 x43 A46 c47) 0 Z Ky J4 z45nf z45cc Z Z Z) Z (TD.run aa [5] Z Z (GM Z (G5 0 Z Mr Z Z) Z ?_))
   obtain⟨x49,hx50,h⟩:=JO h
   obtain⟨gz51,oz51,rfl,z51cs,z51cl,z51cc,z51nf,z51r⟩:=Hg (by decide) (G3 hX) hx50
   obtain⟨z51S,z51r,z51rr⟩:=z51r
   obtain⟨A52,c53,rfl,z51s0⟩:=z51r
   have hX54:(RX.of (ao 3 db) [.slice A52 x49.Jl.length c53] x49.Jl).reads w F:=⟨z51S,z51s0,z51rr⟩
   refine TD.run aa [7] Z Z ?_
   refine GM Z (GY (k:=k34) Z Z Z J9 J4 (JV hx50).1) Z ?_
   refine GM Z (HW (us:=wL1 x49 A52 c53) 0 Z Ky J4 z51nf z51cc Z Z Z) Z ?_
   obtain⟨x55,hx56,h⟩:=JO h
   refine Iv Z .u (.fn Tryz.call209 Z) (tq x43 _ _ x49 _ _ _ hx56) (fun _ hs=>(Hn (GS hs hX48) (GS hs hX54))) Z [0,0,0] (Z) (TD.run aa [11] Z Z ?_)
   rcases jF h with⟨c57,h⟩ | ⟨c57,h⟩
   ·refine HX (G7 Z (aZ c57) (T.skip (GX (X.seq (T.region Z ?_)))))
    obtain⟨c58,h⟩:=ay h
    exact GB aa 1 Z (GE Z (Ex.add Z Z c58) Z (GB aa 1 Z (TL.nil (X.back (m':=m38) [0,0,0] (by omega) ⟨y33,k34+1,Z,Z,h⟩ (by rfl) (by rfl)))))
   replace c57:=JW c57
   refine HX (GO Z (bw c57) (GC Z (GB aa 1 Z ?_)))
   obtain rfl:=JP h
   obtain rfl:=JP hO37
   exact GD (T.ret (GN (GH (GH (GN (GH (GL [2] Tryz.results167 (GF Z))))))))
  refine Ha Z c42 ?_
  obtain rfl:=JP h
  replace h:=hO37
  clear hO37
  try dsimp only at h
  refine T.exit (GT (GT (Hu (X.seq (GC Z (GB aa 1 Z ?_))))))
  obtain rfl:=JP h
  exact GD (T.ret (GL [2] Tryz.results167 (GF Z)))
def eY (a0:List Bat) (a1:List Bat):Nat→Bool→Nat→Option (Lp Bool (Bool×Nat))
 | 0,_,_=>none
 | m11+1,y6,k7=>if (k7:Int)<(a0.length:Int) then ((a0[k7]?).bind fun x16=>(a1[k7]?).bind fun x22=>(lk x16 x22).bind fun x28=>if x28=true then (if -9223372036854775808≤((k7:Int)+1)∧((k7:Int)+1)≤9223372036854775807 then (eY a0 a1 m11 y6 (k7+1)) else none) else some (Lp.ret false)) else (some (Lp.go (y6,k7)))
def jN (a0:List Bat) (a1:List Bat):Option (Bool):=if (a0.length:Int)=(a1.length:Int) then ((eY a0 a1 (((a0.length:Int)).toNat+1) false 0).bind fun e=>match e with | .ret r=>some r | .go (y32,k33)=>some true) else some false
theorem tu (a0:List Bat) (A1:Option Addr) (c2:Nat) (a1:List Bat) (A3:Option Addr) (c4:Nat) (r:Bool) (h:jN a0 a1=some r):aE Tryz.prog 114 #[.slice A1 a0.length c2,.slice A3 a1.length c4] (RX.and (RX.of (ao 12 dN) [.slice A1 a0.length c2] a0) (RX.of (ao 12 dN) [.slice A3 a1.length c4] a1)) (aO) (fun v A' N=>v= .bool r∧A'=aO∧N = []):=by
 refine aU Tryz.func114 Z Tryz.ntmps114 Z ?_
 intro F w hX
 unfold jN at h
 refine GC Z (GK aa Z (T.seq (GC Z (GB aa 1 Z (GE Z (GQ Z Kp) Z (GB aa 1 Z (GE Z (GQ Z Kp) Z (GB aa 1 Z ?_))))))))
 rcases jF h with⟨c5,h⟩ | ⟨c5,h⟩
 ·refine He Z c5 (GW (T.seq (GC Z (GK aa Z (T.block ?_)))))
  obtain⟨E8,hE9,hO10⟩:=JO h
  refine Hv (fun m e Rs=> ∃ (y6:Bool) (k7:Nat),e = [(0,.slice A1 a0.length c2),(1,.slice A3 a1.length c4),(4,.bool y6),(5,jI (k7:Int))]∧Rs = [aO]∧eY a0 a1 m y6 k7=some E8) (((a0.length:Int)).toNat+1) [0] ⟨false,0,Z,Z,by exact hE9⟩ (by rfl) (by rfl) ?_
  clear hE9 h
  rintro m11 _ _ ⟨y6,k7,rfl,rfl,h⟩
  cases m11 with
  | zero =>
   rw[eY] at h
   cases h
  | succ m11 =>
   rw[eY] at h
   refine T.seq (GC Z (GB aa 2 Z (GE Z (GQ Z Kp) Z (GB aa 1 Z ?_))))
   rcases jF h with⟨c15,h⟩ | ⟨c15,h⟩
   ·refine G9 Z c15 ?_
    refine GW (T.seq (T.block (T.seq (Hp (.q 0 (.q 1 (.q 2 (.q 3 (.q 4 (.q 5 (.q 6 (.q 7 (.e 8 (.q 9 .nil)))))))))) [0] Z jf (NoP.seq (NoP.blk (NoP.seq (NoP.seq (NoP.blk (NoP.seq bA)))))) (by kernel_rfl) ?_))))
    obtain⟨x16,hx17,h⟩:=JO h
    obtain⟨gz18,oz18,rfl,z18cs,z18cl,z18cc,z18nf,z18r⟩:=Hg (by decide) (Ho hX) hx17
    obtain⟨z18S,z18r,z18rr⟩:=z18r
    obtain⟨A19,c20,rfl,z18s0⟩:=z18r
    have hX21:(RX.of (ao 7 cV) [.slice A19 x16.Ja.length c20] x16.Ja).reads w F:=⟨z18S,z18s0,z18rr⟩
    refine TD.run aa [0,1] Z Z ?_
    refine GM Z (GY (k:=k7) Z Z Z Kp J6 (JV hx17).1) Z ?_
    refine GM Z (HW (us:=wL5 x16 A19 c20) 0 Z Ku J6 z18nf z18cc Z Z Z) Z ?_
    obtain⟨x22,hx23,h⟩:=JO h
    obtain⟨gz24,oz24,rfl,z24cs,z24cl,z24cc,z24nf,z24r⟩:=Hg (by decide) (G3 hX) hx23
    obtain⟨z24S,z24r,z24rr⟩:=z24r
    obtain⟨A25,c26,rfl,z24s0⟩:=z24r
    have hX27:(RX.of (ao 7 cV) [.slice A25 x22.Ja.length c26] x22.Ja).reads w F:=⟨z24S,z24s0,z24rr⟩
    refine TD.run aa [4,5] Z Z ?_
    refine GM Z (GY (k:=k7) Z Z Z Kp J6 (JV hx23).1) Z ?_
    refine GM Z (HW (us:=wL5 x22 A25 c26) 0 Z Ku J6 z24nf z24cc Z Z Z) Z ?_
    obtain⟨x28,hx29,h⟩:=JO h
    refine Iv Z .u (.fn Tryz.call167 Z) (tt x16 _ _ x22 _ _ _ hx29) (fun _ hs=>(Hn (GS hs hX21) (GS hs hX27))) Z [0] (Z) (TD.run aa [9] Z Z ?_)
    rcases jF h with⟨c30,h⟩ | ⟨c30,h⟩
    ·refine HX (G7 Z (aZ c30) (T.skip (GX (X.seq (T.region Z ?_)))))
     obtain⟨c31,h⟩:=ay h
     exact GB aa 1 Z (GE Z (Ex.add Z Z c31) Z (GB aa 1 Z (TL.nil (X.back (m':=m11) [0] (by omega) ⟨y6,k7+1,Z,Z,h⟩ (by rfl) (by rfl)))))
    replace c30:=JW c30
    refine HX (GO Z (bw c30) (GC Z (GB aa 1 Z ?_)))
    obtain rfl:=JP h
    obtain rfl:=JP hO10
    exact GD (T.ret (GN (GH (GH (GN (GH (GL [0] Tryz.results114 (GF Z))))))))
   refine Ha Z c15 ?_
   obtain rfl:=JP h
   replace h:=hO10
   clear hO10
   try dsimp only at h
   refine T.exit (GT (GT (Hu (X.seq (GC Z (GB aa 1 Z ?_))))))
   obtain rfl:=JP h
   exact GD (T.ret (GL [0] Tryz.results114 (GF Z)))
 refine Hc Z c5 (GC Z (GB aa 1 Z ?_))
 obtain rfl:=JP h
 exact GD (T.ret (GH (GL [0] Tryz.results114 (GF Z))))
def rX:eP := []
theorem bp:(rX).OK Tryz.prog:=trivial
theorem qC:Tryz.prog.follows .mixedOrders=true:=by kernel_rfl
def eZ (a0:List Int) (a1:List Int):Nat→Bool→Nat→Option (Lp Bool (Bool×Nat))
 | 0,_,_=>none
 | m11+1,y6,k7=>if (k7:Int)<(a0.length:Int) then ((a0[k7]?).bind fun x16=>(a1[k7]?).bind fun x19=>if x16=x19 then (if -9223372036854775808≤((k7:Int)+1)∧((k7:Int)+1)≤9223372036854775807 then (eZ a0 a1 m11 y6 (k7+1)) else none) else some (Lp.ret false)) else (some (Lp.go (y6,k7)))
def ll (a0:List Int) (a1:List Int):Option (Bool):=if (a0.length:Int)=(a1.length:Int) then ((eZ a0 a1 (((a0.length:Int)).toNat+1) false 0).bind fun e=>match e with | .ret r=>some r | .go (y24,k25)=>some true) else some false
theorem tv (a0:List Int) (A1:Option Addr) (c2:Nat) (a1:List Int) (A3:Option Addr) (c4:Nat) (r:Bool) (h:ll a0 a1=some r):aE Tryz.prog 166 #[.slice A1 a0.length c2,.slice A3 a1.length c4] (RX.and (RX.of (ao 1 jL) [.slice A1 a0.length c2] a0) (RX.of (ao 1 jL) [.slice A3 a1.length c4] a1)) (aO) (fun v A' N=>v= .bool r∧A'=aO∧N = []):=by
 refine aU Tryz.func166 Z Tryz.ntmps166 Z ?_
 intro F w hX
 unfold ll at h
 refine GC Z (GK bp Z (T.seq (GC Z (GB bp 1 Z (GE Z (GQ Z Kh) Z (GB bp 1 Z (GE Z (GQ Z Kh) Z (GB bp 1 Z ?_))))))))
 rcases jF h with⟨c5,h⟩ | ⟨c5,h⟩
 ·refine He Z c5 (GW (T.seq (GC Z (GK bp Z (T.block ?_)))))
  obtain⟨E8,hE9,hO10⟩:=JO h
  refine Hv (fun m e Rs=> ∃ (y6:Bool) (k7:Nat),e = [(0,.slice A1 a0.length c2),(1,.slice A3 a1.length c4),(4,.bool y6),(5,jI (k7:Int))]∧Rs = [aO]∧eZ a0 a1 m y6 k7=some E8) (((a0.length:Int)).toNat+1) [0] ⟨false,0,Z,Z,by exact hE9⟩ (by rfl) (by rfl) ?_
  clear hE9 h
  rintro m11 _ _ ⟨y6,k7,rfl,rfl,h⟩
  cases m11 with
  | zero =>
   rw[eZ] at h
   cases h
  | succ m11 =>
   rw[eZ] at h
   refine T.seq (GC Z (GB bp 2 Z (GE Z (GQ Z Kh) Z (GB bp 1 Z ?_))))
   rcases jF h with⟨c15,h⟩ | ⟨c15,h⟩
   ·refine G9 Z c15 ?_
    refine GW (T.seq (T.block (T.seq (Hp (.q 0 (.q 1 (.q 2 (.q 3 (.q 4 (.q 5 (.q 6 (.q 7 (.q 8 .nil))))))))) [0] Z qC (NoP.seq (NoP.blk (NoP.seq (NoP.seq (NoP.blk (NoP.seq bA)))))) (by kernel_rfl) ?_))))
    obtain⟨x16,hx17,h⟩:=JO h
    obtain⟨gz18,oz18,rfl,z18cs,z18cl,z18cc,z18nf,z18r⟩:=Hg (by decide) (Ho hX) hx17
    obtain⟨z18S,z18r,z18rr⟩:=z18r
    obtain rfl:z18cs = [jI x16]:=z18r
    refine TD.run bp [0,1] Z Z ?_
    refine GM Z (GY (k:=k7) Z Z Z Kh JX (JV hx17).1) Z ?_
    refine GM Z (Hr 0 Z JZ z18nf z18cc Z Z) Z ?_
    obtain⟨x19,hx20,h⟩:=JO h
    obtain⟨gz21,oz21,rfl,z21cs,z21cl,z21cc,z21nf,z21r⟩:=Hg (by decide) (G3 hX) hx20
    obtain⟨z21S,z21r,z21rr⟩:=z21r
    obtain rfl:z21cs = [jI x19]:=z21r
    refine TD.run bp [4,5] Z Z ?_
    refine GM Z (GY (k:=k7) Z Z Z Kh JX (JV hx20).1) Z ?_
    refine GM Z (Hr 0 Z JZ z21nf z21cc Z Z) Z (TD.run bp [8] Z Z ?_)
    rcases jF h with⟨c22,h⟩ | ⟨c22,h⟩
    ·refine HX (T.nn Z c22 (T.skip (GX (X.seq (T.region Z ?_)))))
     obtain⟨c23,h⟩:=ay h
     exact GB bp 1 Z (GE Z (Ex.add Z Z c23) Z (GB bp 1 Z (TL.nil (X.back (m':=m11) [0] (by omega) ⟨y6,k7+1,Z,Z,h⟩ (by rfl) (by rfl)))))
    refine HX (T.yn Z c22 (GC Z (GB bp 1 Z ?_)))
    obtain rfl:=JP h
    obtain rfl:=JP hO10
    exact GD (T.ret (GN (GH (GH (GN (GH (GL [0] Tryz.results166 (GF Z))))))))
   refine Ha Z c15 ?_
   obtain rfl:=JP h
   replace h:=hO10
   clear hO10
   try dsimp only at h
   refine T.exit (GT (GT (Hu (X.seq (GC Z (GB bp 1 Z ?_))))))
   obtain rfl:=JP h
   exact GD (T.ret (GL [0] Tryz.results166 (GF Z)))
 refine Hc Z c5 (GC Z (GB bp 1 Z ?_))
 obtain rfl:=JP h
 exact GD (T.ret (GH (GL [0] Tryz.results166 (GF Z))))
end Go.Proofs.YtheikonlgjdopaaGreat.Sl
