/- wholeFrames_holds: part 2. -/
import Derived.Test.YtheikonlgjdopaaGreatK1
set_option maxRecDepth 100000
set_option maxHeartbeats 4000000
set_option linter.defProp false
namespace Go.Proofs.YtheikonlgjdopaaGreat.Sl
open Go.RowKit
set_option linter.unusedVariables false
set_option linter.unusedSimpArgs false
def Ju := @eq_false_of_ne_true
def Jv := @Tryz.sizeOf3
def Jy := @Tryz.isAgg3
def JB := @Tryz.sizeOf23
def JD := @Tryz.sizeOf91
def JF := @Tryz.sizeOf97
def JH := @Tryz.runUnderlying97
def JR := @Tryz.runUnderlying4
def JS := @Tryz.runUnderlying91
def JT := @Tryz.runUnderlying23
def JV := @Tryz.runUnderlying95
def JW := @Tryz.sizeOf4
def JX := @Tryz.runUnderlying48
def JY := @Tryz.isAgg23
def J3 := @Tryz.isAgg91
def J7 := @Tryz.runUnderlying177
def J8 := @Tryz.runUnderlying212
def J9 := @Tryz.isAgg97
def Ka := @Tryz.sizeOf179
def Kb := @Tryz.runUnderlying89
def Kc := @Tryz.runUnderlying174
def Kd := @Tryz.runUnderlying34
def Kg := @Tryz.sizeOf176
def Kl := @Tryz.runUnderlying33
def Km := @Tryz.sizeOf173
def Ks := @Tryz.eqGuardType23
def Ku := @Tryz.sizeOf195
def Kv := @Tryz.sizeOf245
def Ky := @Tryz.isAgg4
def Kz := @Tryz.runUnderlying36
def KD := @Tryz.runUnderlying245
def KE := @Tryz.runUnderlying189
def KI := @Tryz.runUnderlying53
def KO := @Tryz.runUnderlying173
def KR := @Tryz.runUnderlying47
def KW := @Tryz.isAgg28
def KY := @Tryz.sizeOf191
def K0 := @Tryz.runUnderlying51
def K1 := @Tryz.runUnderlying49
def K2 := @Tryz.sizeOf28
def K3 := @Tryz.sizeOf51
def K4 := @Tryz.eqGuardType45
def K5 := @Tryz.runUnderlying176
def K6 := @Tryz.results209
def K7 := @Tryz.runUnderlying195
def La := @Tryz.sizeOf89
def Lb := @Tryz.isAgg177
def Lc := @Tryz.isAgg179
def Le := @Tryz.isAgg173
def Lf := @Tryz.sizeOf47
def Ll := @Tryz.runUnderlying179
def Lm := @Tryz.sizeOf177
def Ln := @Tryz.runUnderlying191
def Lo := @Tryz.runUnderlying310
def Lu := @Tryz.isAgg245
def Lv := @Tryz.isAgg174
def Lw := @Tryz.isAgg189
def Lx := @Tryz.isAgg176
def Lz := @Tryz.eqGuardType245
def LA := @Tryz.results228
def LH := @Tryz.isAgg95
def LM := @Tryz.results92
def LN := @Tryz.sizeOf174
def LO := @Tryz.sizeOf193
def LS := @Tryz.runUnderlying268
def LX := @Tryz.results113
def L7 := @Tryz.results46
def L8 := @Tryz.results66
def ru:ey := [(173,3,3)]
theorem aR:(ru).OK Tryz.prog:=⟨FOK.mk KO rfl K2 rfl,trivial⟩
def rv:List Nat := [28]
theorem oT:NOK Tryz.prog rv:=⟨KW,trivial⟩
theorem mI:SOK Tryz.prog 48 195 1 5 #[.int .i64 0,.int .i64 0,.bool false,.slice none 0 0,.int .i64 0]:=SOK.mk JX Ku Tryz.zeroValue195 Md Me
theorem nk:(Tryz.prog.info? 195).map (fun i=>(i.zero,i.size,i.bytes))=some (some (.agg #[.int .i64 0,.int .i64 0,.bool false,.slice none 0 0,.int .i64 0]),5,56):=by kernel_rfl
def fj:List aH->Int->Option (Lp Int Int)
 | [],y4=>some (Lp.go y4)
 | x10::xs,y4=>(jA x10.IC).bind fun x18=>if x18=0 then some (Lp.ret 0) else (fj xs y4)
def kL (a0:List aH):Option (Int):=if (a0.length:Int)>20 then some 0 else ((fj a0 0).bind fun e=>match e with | .ret r=>some r | .go y21=>some 1)
theorem t6 (a0:List aH) (A1:Option Addr) (c2:Nat) (r:Int) (h:kL a0=some r):aC Tryz.prog 45 #[.slice A1 a0.length c2] (RX.of (ai 5 aP) [.slice A1 a0.length c2] a0) (aO) (fun v A' N=>v=jI r/\A'=aO/\N = []):=by
 refine aU Tryz.func45 Z Tryz.ntmps45 Z ?_;intro F w hX;unfold kL at h;refine Gq Z (Gx aR Z (T.seq (Gq Z (Gp aR 1 Z (Gr Z (GK Z Kl) Z (Gp aR 1 Z ?_))))));rcases jF h with⟨c3,h⟩ | ⟨c3,h⟩
 ·refine Hg Z c3 (Gq Z (Gp aR 1 Z ?_));obtain rfl:=Jp h;exact Gs (T.ret (Gv (GD [0] Tryz.results45 (Gu Z))))
 refine Hh Z c3 (GQ (T.seq (Gq Z (Gp aR 1 Z (Gr Z (GK Z Kl) Z (Gx aR Z (T.block ?_)))))));obtain⟨E6,hE7,hO8⟩:=Jn h;have hk12len:=Ha hX;refine Hl (fun m e Rs=> ∃ (y4:Int) (k5:Nat),k5+m=a0.length/\e = [(2,jI y4),(8,.slice A1 a0.length c2),(9,jI (a0.length:Int)),(10,jI (k5:Int))]/\Rs = [aO]/\fj (a0.drop k5) y4=some E6) (a0.length) [0] ⟨0,0,by simp,Z,Z,by rw[List.drop_zero]; exact hE7⟩ Mf Mf ?_;clear hE7 h;rintro m9 _ _ ⟨y4,k5,hk12,rfl,rfl,h⟩
 cases m9 with
 | zero =>
  rw[List.drop_of_length_le Mc,fj] at h;have hk12ge: ¬ ((k5:Int)<(a0.length:Int)):=by omega
  refine Gq Z (Gx aR Z (T.seq (GU Z (Jr hk12ge) ?_)));obtain rfl:=Jp h;replace h:=hO8;clear hO8;refine T.exit (GL (GL (Hi (X.seq (Gq Z (Gp aR 1 Z ?_))))));obtain rfl:=Jp h;exact Gs (T.ret (GD [0] Tryz.results45 (Gu Z)))
 | succ m9 =>
  obtain⟨x10,hxx10⟩: ∃ x,a0[k5]? = some x:=⟨_,List.getElem?_eq_getElem Mc⟩;rw[bz hxx10,fj] at h;have hk12lt:(k5:Int)<(a0.length:Int):=by omega
  refine Gq Z (Gx aR Z (T.seq (GF Z (Jq hk12lt) ?_)));obtain⟨gz13,oz13,rfl,z13cs,z13cl,z13cc,z13nf,z13r⟩:=G4 Md hX hxx10;obtain⟨z13S,z13r,z13rr⟩:=z13r;obtain⟨A14,c15,rfl,z13s0⟩:=z13r;have hX16:(RX.of (ai 2 aZ) [.slice A14 x10.IC.length c15] x10.IC).reads w F:=⟨z13S,z13s0,z13rr⟩;refine GQ (T.seq (T.block (Gq Z ?_)));refine Gr Z (GS (k:=k5) Z Z Z Kl Km (Jt hxx10).1) Z ?_;refine Gr Z (Ho (us := [jI x10.ID,jI x10.IF,.bool x10.I2,.slice A14 x10.IC.length c15,jI x10.IU]) 0 Z Le Km z13nf z13cc Z Z Z) Z (TL.alloc Z .u Tryz.zeroValue173 Z (fun b17=>(GC 0 Z (cs':= #[jI x10.ID,jI x10.IF,.bool x10.I2,.slice A14 x10.IC.length c15,jI x10.IU]) Z .u Z Z Km Z Z Z Z Z (GG Z ?_))));obtain⟨x18,hx19,h⟩:=Jn h;refine Gt aR oT 0 Z 2 Z Z (GT Z .u (.fn Tryz.call44 Z) (nN x10.IC _ _ _ hx19) (fun _ hs=>(GJ hs hX16)) Z (Gp aR 1 Z ?_));rcases jF h with⟨c20,h⟩ | ⟨c20,h⟩
  ·refine Hg Z c20 (Gq Z (Gp aR 1 Z ?_));obtain rfl:=Jp h;obtain rfl:=Jp hO8;exact Gs (T.ret (GI (Gv (Gv (GI (Gv (GD [1] Tryz.results45 (Gu Z))))))))
  exact Hh Z c20 (T.skip (GN (X.seq (T.region Z (Gr Z (Ex.add Z Z Mc) Z (Gp aR 1 Z (TL.nil (X.back (m':=m9) [1] Mc ⟨y4,k5+1,by omega,Z,Z,h⟩ Mf Mf))))))))
def fU:List aH->List eF->Option (List eF)
 | [],y3=>some y3
 | x11::xs,y3=>if (y3.length+1)*56<=140737488355328 then (fU xs (y3 ++ [(⟨x11.ID,x11.IF,x11.I2,x11.IC,x11.IU⟩:eF)])) else none
def nO (a0:List aH):Option (List eF):=(fU a0 []).bind fun y23=>some y23
theorem vB (a0:List aH) (A1:Option Addr) (c2:Nat) (r:List eF) (h:nO a0=some r):ph Tryz.prog 58 #[.slice A1 a0.length c2] (RX.of (ai 5 aP) [.slice A1 a0.length c2] a0) aO (fun v A' L=> ∃ (A27:Option Addr) (c28:Nat),v= .slice A27 r.length c28/\A'=aO/\L = [(⟨_,ai 5 dM,[.slice A27 r.length c28],r⟩:RO)]):=by
 refine Ae Tryz.func58 Z Tryz.ntmps58 Z ?_;intro F w S hS hSF;have hX:(RX.of (ai 5 aP) [.slice A1 a0.length c2] a0).reads w F:=⟨S,hS,hSF⟩;unfold nO at h;refine Gq Z (GP aR Z Z (Gx aR Z (T.seq (Gq Z (Gp aR 1 Z (Gr Z (GK Z Kl) Z (Gp aR 1 Z ?_)))))));refine Gs (T.block (HK 195 5 (fg w S dM) ?_));obtain⟨E7,hE8,hO9⟩:=Jn h;have hk13len:=Ha hX;refine Hl (fun m e Rs=> ∃ (y3:List eF) (A4:Option Addr) (c5:Nat) (k6:Nat),k6+m=a0.length/\e = [(2,.slice none 0 0),(3,.slice A4 y3.length c5),(6,.slice A1 a0.length c2),(7,jI (a0.length:Int)),(8,jI (k6:Int))]/\Rs = [ci 195 5 (fg w S dM) (.slice A4 y3.length c5) y3,aO]/\fU (a0.drop k6) y3=some E7) (a0.length) [0,0] ⟨[],none,0,0,by simp,Z,Z,by rw[List.drop_zero]; exact hE8⟩ Mf Mf ?_;clear hE8 h;rintro m10 _ _ ⟨y3,A4,c5,k6,hk13,rfl,rfl,h⟩
 cases m10 with
 | zero =>
  rw[List.drop_of_length_le Mc,fU] at h;have hk13ge: ¬ ((k6:Int)<(a0.length:Int)):=by omega
  refine Gq Z (Gx aR Z (T.seq (GU Z (Jr hk13ge) ?_)));obtain rfl:=Jp h;replace h:=hO9;clear hO9;refine T.exit (GL (GL (Hi (X.seq (Gq Z (Gp aR 2 Z ?_))))));obtain rfl:=Jp h;exact Gs (T.ret (X.shutO Md 0 Z (G8 [0,0] Z (GV [1,0] Tryz.results58 (Gu Z) ⟨_,⟨_,_,Z,Z,Z⟩,Z⟩ Mf (.inl Z)))))
 | succ m10 =>
  obtain⟨x11,hxx11⟩: ∃ x,a0[k6]? = some x:=⟨_,List.getElem?_eq_getElem Mc⟩;rw[bz hxx11,fU] at h;have hk13lt:(k6:Int)<(a0.length:Int):=by omega
  refine Gq Z (Gx aR Z (T.seq (GF Z (Jq hk13lt) ?_)));obtain⟨gz14,oz14,rfl,z14cs,z14cl,z14cc,z14nf,z14r⟩:=RX.elemS Md hS hSF hxx11;obtain⟨A15,c16,rfl,z14s0⟩:=z14r;have hX17:(RX.of (ai 2 aZ) [.slice A15 x11.IC.length c16] x11.IC).reads w F:=⟨S,z14s0,hSF⟩;refine GQ (T.seq (T.block (Gq Z ?_)));refine Gr Z (GS (k:=k6) Z Z Z Kl Km (Jt hxx11).1) Z ?_;refine Gr Z (Ho (us := [jI x11.ID,jI x11.IF,.bool x11.I2,.slice A15 x11.IC.length c16,jI x11.IU]) 0 Z Le Km z14nf z14cc Z Z Z) Z (TL.alloc Z .u Tryz.zeroValue173 Z (fun b18=>(GC 0 Z (cs':= #[jI x11.ID,jI x11.IF,.bool x11.I2,.slice A15 x11.IC.length c16,jI x11.IU]) Z .u Z Z Km Z Z Z Z Z (Gs (T.region Z (Gp aR 1 Z (Gr Z (GH (us := [jI x11.ID,jI x11.IF,.bool x11.I2,.slice A15 x11.IC.length c16,jI x11.IU]) 0 Z Le Km Z Z Z) Z ?_)))))));refine Ib (cells:= #[jI x11.ID,jI x11.IF,.bool x11.I2,.slice A15 x11.IC.length c16,jI x11.IU]) Z .u mI Z Me Z (fun b19=> ?_);obtain⟨c20,h⟩:=aE h;refine TL.app1 1 Z .u (us := [jI x11.ID,jI x11.IF,.bool x11.I2,.slice A15 x11.IC.length c16,jI x11.IU]) (u:=(⟨x11.ID,x11.IF,x11.I2,x11.IC,x11.IU⟩:eF)) (l:=y3) (E:=(fg w S dM)) Tryz.underlying48 nk Z Md Z Z Z Z Z Z (fun _ _=>Ad ⟨_,_,Z,z14s0⟩) (by have hq:=c20; omega) (by have hq:=c20; omega) Z (fun A21 c22=> ?_);exact Hc [0,0,0] Z (Gp aR 1 Z (TL.nil (GN (X.seq (T.region Z (Gr Z (Ex.add Z Z Mc) Z (Gp aR 1 Z (TL.nil (X.back (m':=m10) [1,1] Mc ⟨(y3 ++ [(⟨x11.ID,x11.IF,x11.I2,x11.IC,x11.IU⟩:eF)]),A21,c22,k6+1,by omega,Z,Z,h⟩ Mf Mf)))))))))
def ry:ey := [(23,1,1),(91,2,2),(91,3,4),(91,4,6),(97,11,11),(245,0,0),(245,1,1)]
theorem aK:(ry).OK Tryz.prog:=⟨FOK.mk JT rfl JO rfl,FOK.mk JS rfl JB rfl,FOK.mk JS rfl JB rfl,FOK.mk JS rfl La rfl,FOK.mk JH rfl Tryz.sizeOf95 rfl,FOK.mk KD rfl JO rfl,FOK.mk KD rfl JB rfl,trivial⟩
def rz:List Nat := [9,89,95]
theorem cJ:NOK Tryz.prog rz:=⟨JZ,Tryz.isAgg89,LH,trivial⟩
def dN:List Hd->Int->Option (Lp Int Int)
 | [],y22=>some (Lp.go y22)
 | x28::xs,y22=>if -9223372036854775808<=((x28.I3.length:Int)+(x28.IQ.data.length:Int))/\((x28.I3.length:Int)+(x28.IQ.data.length:Int))<=9223372036854775807 then (if ((x28.I3.length:Int)+(x28.IQ.data.length:Int))>100 then some (Lp.ret 0) else (dN xs y22)) else none
def dO:List Rec->Int->Option (Lp Int Int)
 | [],y5=>some (Lp.go y5)
 | x11::xs,y5=>if -9223372036854775808<=((x11.I3.data.length:Int)+(x11.IQ.data.length:Int))/\((x11.I3.data.length:Int)+(x11.IQ.data.length:Int))<=9223372036854775807 then (if ((x11.I3.data.length:Int)+(x11.IQ.data.length:Int))>100 then some (Lp.ret 0) else (if (x11.IR.length:Int)>6 then some (Lp.ret 0) else ((dN x11.IR y5).bind fun e=>match e with | .ret r=>some (Lp.ret r) | .go y35=>(dO xs y35)))) else none
theorem rA (y5:Int):dO [] y5=(some (Lp.go y5)):=rfl
theorem rB (x11:Rec) (xs:List Rec) (y5:Int):dO (x11::xs) y5=(if -9223372036854775808<=((x11.I3.data.length:Int)+(x11.IQ.data.length:Int))/\((x11.I3.data.length:Int)+(x11.IQ.data.length:Int))<=9223372036854775807 then (if ((x11.I3.data.length:Int)+(x11.IQ.data.length:Int))>100 then some (Lp.ret 0) else (if (x11.IR.length:Int)>6 then some (Lp.ret 0) else ((dN x11.IR y5).bind fun e=>match e with | .ret r=>some (Lp.ret r) | .go y35=>(dO xs y35)))) else none):=rfl
def iH (a0:Bat):Option (Int):=if (a0.IG.length:Int)>12 then some 0 else ((dO a0.IG 0).bind fun e=>match e with | .ret r=>some r | .go y37=>some 1)
theorem rC (a0:Bat) (A1:Option Addr) (c2:Nat) (r:Int) (h:iH a0=some r):aC Tryz.prog 92 #[.agg (wA0 a0 A1 c2)] (RX.of (ai 7 dK) [.slice A1 a0.IG.length c2] a0.IG) (aO) (fun v A' N=>v=jI r/\A'=aO/\N = []):=by
 refine aU Tryz.func92 Z Tryz.ntmps92 Z ?_;intro F w hX;unfold iH at h;refine Gq Z (TL.box Z .u Z Z (fun b3=>(Gx aK Z (T.seq (Gq Z (Gt aK cJ 0 Z 2 Z Z (Gr Z (GK Z JV) Z (Gp aK 1 Z ?_))))))));rcases jF h with⟨c4,h⟩ | ⟨c4,h⟩
 ·refine Hg Z c4 (Gq Z (Gp aK 1 Z ?_));obtain rfl:=Jp h;exact Gs (T.ret (Gv (GD [1] LM (Gu Z))))
 refine Hh Z c4 (GQ (T.seq (Gq Z (Gt aK cJ 0 Z 2 Z Z (Gr Z (GK Z JV) Z (Gx aK Z (T.block ?_)))))));obtain⟨E7,hE8,hO9⟩:=Jn h;have hk13len:=Ha hX;refine Hl (fun m e Rs=> ∃ (y5:Int) (k6:Nat),k6+m=a0.IG.length/\e = [(2,jI y5),(12,.slice A1 a0.IG.length c2),(13,jI (a0.IG.length:Int)),(14,jI (k6:Int))]/\Rs = [aN b3 97 (wA0 a0 A1 c2),aO]/\dO (a0.IG.drop k6) y5=some E7) (a0.IG.length) [0,0] ⟨0,0,by simp,Z,Z,by rw[List.drop_zero]; exact hE8⟩ Mf Mf ?_;clear hE8 h;rintro m10 _ _ ⟨y5,k6,hk13,rfl,rfl,h⟩
 cases m10 with
 | zero =>
  rw[List.drop_of_length_le Mc,rA] at h;have hk13ge: ¬ ((k6:Int)<(a0.IG.length:Int)):=by omega
  refine Gq Z (Gx aK Z (T.seq (GU Z (Jr hk13ge) ?_)));obtain rfl:=Jp h;replace h:=hO9;clear hO9;refine T.exit (GL (GL (Hi (X.seq (Gq Z (Gp aK 1 Z ?_))))));obtain rfl:=Jp h;exact Gs (T.ret (GD [1] LM (Gu Z)))
 | succ m10 =>
  obtain⟨x11,hxx11⟩: ∃ x,a0.IG[k6]? = some x:=⟨_,List.getElem?_eq_getElem Mc⟩;rw[bz hxx11,rB] at h;have hk13lt:(k6:Int)<(a0.IG.length:Int):=by omega
  refine Gq Z (Gx aK Z (T.seq (GF Z (Jq hk13lt) ?_)));obtain⟨gz14,oz14,rfl,z14cs,z14cl,z14cc,z14nf,z14r⟩:=G4 Md hX hxx11;obtain⟨z14S,z14r,z14rr⟩:=z14r;obtain⟨A15,c16,rfl,z14s0⟩:=z14r;have hX17:(RX.of (ai 3 ec) [.slice A15 x11.IR.length c16] x11.IR).reads w F:=⟨z14S,z14s0,z14rr⟩;refine GQ (T.seq (T.block (Gq Z ?_)));refine Gr Z (GS (k:=k6) Z Z Z JV JD (Jt hxx11).1) Z ?_;refine Gr Z (Ho (us:=wL1 x11 A15 c16) 0 Z J3 JD z14nf z14cc Z Z Z) Z (TL.alloc Z .u Tryz.zeroValue91 Z (fun b18=>(GC 0 Z (cs':=wA2 x11 A15 c16) Z .u Z Z JD Z Z Z Z Z (Gs (T.seq (Gq Z (Gt aK cJ 0 Z 3 Z Z (Gr Z (Hv Z JJ) Z (Gt aK cJ 0 Z 3 Z Z (Gr Z (Hv Z JJ) Z ?_))))))))));obtain⟨c19,h⟩:=aE h;refine Gr Z (Ex.add Z Z c19) Z ?_;rcases jF h with⟨c20,h⟩ | ⟨c20,h⟩
  ·refine Gp aK 2 Z (GA 28 Z (Jq c20) (Hz aK Z (GF Z Z (Gq Z (Gp aK 1 Z ?_)))));obtain rfl:=Jp h;obtain rfl:=Jp hO9;exact Gs (T.ret (Gv (GI (Gv (Gv (GI (Gv (GD [2] LM (Gu Z)))))))))
  refine Gp aK 2 Z (GA 28 Z (Jr c20) (Gt aK cJ 0 Z 2 Z Z (TL.q Z (.g Z Z Z) (GK Z Kb) Z (GB aK 2 Z ?_))));rcases jF h with⟨c21,h⟩ | ⟨c21,h⟩
  ·refine Hg Z c21 (Gq Z (Gp aK 1 Z ?_));obtain rfl:=Jp h;obtain rfl:=Jp hO9;exact Gs (T.ret (Gv (GI (Gv (Gv (GI (Gv (GD [2] LM (Gu Z)))))))))
  refine Hh Z c21 (G3 Z (Gt aK cJ 0 Z 2 Z Z (Gr Z (GK Z Kb) Z (Gx aK Z (T.block ?_)))));obtain⟨E24,hE25,hO26⟩:=Jn h;have hk30len:=Ha hX17;refine Hl (fun m e Rs=> ∃ (y22:Int) (k23:Nat),k23+m=x11.IR.length/\e = [(2,jI y22),(12,.slice (some ⟨gz14,oz14,none⟩) a0.IG.length c2),(13,jI (a0.IG.length:Int)),(14,jI (k6:Int)),(35,.slice A15 x11.IR.length c16),(36,jI (x11.IR.length:Int)),(37,jI (k23:Int))]/\Rs = [aN b18 91 (wA2 x11 A15 c16),aN b3 97 #[jI a0.I9,jI a0.I5,.bool a0.Jg,.bool a0.Jf,.bool a0.Jc,jI a0.I7,jI a0.IV,jI a0.Je,jI a0.ID,jI a0.IF,jI a0.IX,.slice (some ⟨gz14,oz14,none⟩) a0.IG.length c2],aO]/\dN (x11.IR.drop k23) y22=some E24) (x11.IR.length) [0,0,0] ⟨y5,0,by simp,Z,Z,by rw[List.drop_zero]; exact hE25⟩ Mf Mf ?_;clear hE25 h;rintro m27 _ _ ⟨y22,k23,hk30,rfl,rfl,h⟩
  cases m27 with
  | zero =>
   rw[List.drop_of_length_le Mc,dN] at h;have hk30ge: ¬ ((k23:Int)<(x11.IR.length:Int)):=by omega
   refine Gq Z (Gx aK Z (T.seq (GU Z (Jr hk30ge) ?_)));obtain rfl:=Jp h;replace h:=hO26;clear hO26;exact T.exit (GL (GL (Hi (GN (X.seq (T.region Z (Gr Z (Ex.add Z Z Mc) Z (Gp aK 1 Z (TL.nil (X.back (m':=m10) [1,1] Mc ⟨y22,k6+1,by omega,Z,Z,h⟩ Mf Mf))))))))))
  | succ m27 =>
   obtain⟨x28,hxx28⟩: ∃ x,x11.IR[k23]? = some x:=⟨_,List.getElem?_eq_getElem Mc⟩;rw[bz hxx28,dN] at h;have hk30lt:(k23:Int)<(x11.IR.length:Int):=by omega
   refine Gq Z (Gx aK Z (T.seq (GF Z (Jq hk30lt) ?_)));obtain⟨gz31,oz31,rfl,z31cs,z31cl,z31cc,z31nf,z31r⟩:=G4 Md hX17 hxx28;obtain⟨z31S,z31r,z31rr⟩:=z31r;obtain rfl:z31cs=(wL3 x28):=z31r;refine GQ (T.seq (T.block (Gq Z ?_)));refine Gr Z (GS (k:=k23) Z Z Z Kb Kv (Jt hxx28).1) Z ?_;refine Gr Z (Ho (us:=wL3 x28) 0 Z Lu Kv z31nf z31cc Z Z Z) Z (TL.alloc Z .u Tryz.zeroValue245 Z (fun b32=>(GC 0 Z (cs':=wA4 x28) Z .u Z Z Kv Z Z Z Z Z (GG Z (Gt aK cJ 0 Z 2 Z Z (Gr Z (Hv Z JJ) Z (Gt aK cJ 0 Z 3 Z Z (Gr Z (Hv Z JJ) Z ?_))))))));obtain⟨c33,h⟩:=aE h;refine Gr Z (Ex.add Z Z c33) Z (Gp aK 1 Z ?_);rcases jF h with⟨c34,h⟩ | ⟨c34,h⟩
   ·refine Hg Z c34 (Gq Z (Gp aK 1 Z ?_));obtain rfl:=Jp h;obtain rfl:=Jp hO26;obtain rfl:=Jp hO9;exact Gs (T.ret (GI (Gv (Gv (GI (GI (Gv (Gv (GI (Gv (GD [3] LM (Gu Z))))))))))))
   exact Hh Z c34 (T.skip (GN (X.seq (T.region Z (Gr Z (Ex.add Z Z Mc) Z (Gp aK 1 Z (TL.nil (X.back (m':=m27) [1,1,1] Mc ⟨y22,k23+1,by omega,Z,Z,h⟩ Mf Mf))))))))
def rD:ey := [(23,1,1),(36,0,0),(36,1,2),(36,2,3),(36,3,4),(51,3,4),(176,0,0),(176,1,1),(179,1,1),(191,1,1)]
theorem aw:(rD).OK Tryz.prog:=⟨FOK.mk JT rfl JO rfl,FOK.mk Kz rfl JB rfl,FOK.mk Kz rfl Jv rfl,FOK.mk Kz rfl Jv rfl,FOK.mk Kz rfl Tryz.sizeOf34 rfl,FOK.mk K0 rfl Tryz.sizeOf49 rfl,FOK.mk K5 rfl JO rfl,FOK.mk K5 rfl LN rfl,FOK.mk Ll rfl Lm rfl,FOK.mk Ln rfl Tryz.sizeOf189 rfl,trivial⟩
def rE:List Nat := [3,9,34,49,174,177,189]
theorem bG:NOK Tryz.prog rE:=⟨Jy,JZ,Tryz.isAgg34,Tryz.isAgg49,Lv,Lb,Lw,trivial⟩
theorem nQ:BOK Tryz.prog 51 #[.bool false,.string ⟨#[]⟩,.int .i64 0,.int .i64 0,.slice none 0 0] [(0,2),(2,1),(3,1),(4,1)]:=BOK.mk Tryz.zeroValue51 K0 (by intro w; simp)
theorem nl:BOK Tryz.prog 191 #[.string ⟨#[]⟩,.slice none 0 0] [(0,1),(1,1)]:=BOK.mk Tryz.zeroValue191 Ln (by intro w; simp)
theorem mJ:SOK Tryz.prog 49 191 1 2 #[.string ⟨#[]⟩,.slice none 0 0]:=SOK.mk K1 KY Tryz.zeroValue191 Md Me
theorem mm:SOK Tryz.prog 189 193 1 2 #[.int .i64 0,.slice none 0 0]:=SOK.mk KE LO Tryz.zeroValue193 Md Me
theorem np:(Tryz.prog.info? 191).map (fun i=>(i.zero,i.size,i.bytes))=some (some (.agg #[.string ⟨#[]⟩,.slice none 0 0]),2,40):=by kernel_rfl
theorem nq:(Tryz.prog.info? 193).map (fun i=>(i.zero,i.size,i.bytes))=some (some (.agg #[.int .i64 0,.slice none 0 0]),2,32):=by kernel_rfl
def fk:List Bat->Int->Option (Lp Int Int)
 | [],y35=>some (Lp.go y35)
 | x41::xs,y35=>(iH x41).bind fun x49=>if x49=0 then some (Lp.ret 0) else (fk xs y35)
def ed:List aL->Int->Int->Option (Lp Int (Int×Int))
 | [],y19,y20=>some (Lp.go (y19,y20))
 | x26::xs,y19,y20=>if (IntKind.i64.wrap (y20+(IntKind.i64.wrap (10+(IntKind.i64.wrap (100*(x26.IM.length:Int)))))))>2000 then some (Lp.ret 0) else ((fk x26.IM y19).bind fun e=>match e with | .ret r=>some (Lp.ret r) | .go y52=>(ed xs y52 (IntKind.i64.wrap (y20+(IntKind.i64.wrap (10+(IntKind.i64.wrap (100*(x26.IM.length:Int)))))))))
def fm:List az->Int->Int->Option (Lp Int (Int×Int))
 | [],y4,y5=>some (Lp.go (y4,y5))
 | x11::xs,y4,y5=>(ed x11.IH y4 (IntKind.i64.wrap (y5+(IntKind.i64.wrap ((x11.IW.length:Int)+10))))).bind fun e=>match e with | .ret r=>some (Lp.ret r) | .go (y54,y55)=>(fm xs y54 y55)
def kM (a0:ao):Option (Int):=(fm a0.IC 0 (a0.IJ.data.length:Int)).bind fun e=>match e with | .ret r=>some r | .go (y57,y58)=>(if y58>2000 then some 0 else some 1)
theorem t7 (a0:ao) (A1:Option Addr) (c2:Nat) (r:Int) (h:kM a0=some r):aC Tryz.prog 46 #[.agg #[.bool a0.IJ.null,jS a0.IJ.data,jI a0.I6,jI a0.II,.slice A1 a0.IC.length c2]] (RX.of (ai 2 ay) [.slice A1 a0.IC.length c2] a0.IC) (aO) (fun v A' N=>v=jI r/\A'=aO/\N = []):=by
 refine aU Tryz.func46 Z Tryz.ntmps46 Z ?_;intro F w hX;unfold kM at h;refine Gq Z (TL.box Z .u Z Z (fun b3=>(GP aw Z Z (Gt aw bG 0 Z 3 Z Z (Gr Z (Hv Z JJ) Z (Gx aw Z (T.seq (Gq Z ?_))))))));refine Gt aw bG 0 Z 2 Z Z (Gr Z (GK Z Kd) Z (Gx aw Z (T.block ?_)));obtain⟨E7,hE8,hO9⟩:=Jn h;have hk13len:=Ha hX;refine Hl (fun m e Rs=> ∃ (y4:Int) (y5:Int) (k6:Nat),k6+m=a0.IC.length/\e = [(2,jI y4),(3,jI y5),(15,.slice A1 a0.IC.length c2),(16,jI (a0.IC.length:Int)),(17,jI (k6:Int))]/\Rs = [aN b3 36 #[.bool a0.IJ.null,jS a0.IJ.data,jI a0.I6,jI a0.II,.slice A1 a0.IC.length c2],aO]/\fm (a0.IC.drop k6) y4 y5=some E7) (a0.IC.length) [0,0] ⟨0,(a0.IJ.data.length:Int),0,by simp,Z,Z,by rw[List.drop_zero]; exact hE8⟩ Mf Mf ?_;clear hE8 h;rintro m10 _ _ ⟨y4,y5,k6,hk13,rfl,rfl,h⟩
 cases m10 with
 | zero =>
  rw[List.drop_of_length_le Mc,fm] at h;have hk13ge: ¬ ((k6:Int)<(a0.IC.length:Int)):=by omega
  refine Gq Z (Gx aw Z (T.seq (GU Z (Jr hk13ge) ?_)));obtain rfl:=Jp h;replace h:=hO9;clear hO9;refine T.exit (GL (GL (Hi (X.seq (T.seq (Gq Z (Gp aw 2 Z ?_)))))));rcases jF h with⟨c61,h⟩ | ⟨c61,h⟩
  ·refine Hg Z c61 (Gq Z (Gp aw 1 Z ?_));obtain rfl:=Jp h;exact Gs (T.ret (Gv (GD [1] L7 (Gu Z))))
  refine Hh Z c61 (G3 Z (Gp aw 1 Z ?_));obtain rfl:=Jp h;exact Gs (T.ret (GD [1] L7 (Gu Z)))
 | succ m10 =>
  obtain⟨x11,hxx11⟩: ∃ x,a0.IC[k6]? = some x:=⟨_,List.getElem?_eq_getElem Mc⟩;rw[bz hxx11,fm] at h;have hk13lt:(k6:Int)<(a0.IC.length:Int):=by omega
  refine Gq Z (Gx aw Z (T.seq (GF Z (Jq hk13lt) ?_)));obtain⟨gz14,oz14,rfl,z14cs,z14cl,z14cc,z14nf,z14r⟩:=G4 Md hX hxx11;obtain⟨z14S,z14r,z14rr⟩:=z14r;obtain⟨A15,c16,rfl,z14s0⟩:=z14r;have hX17:(RX.of (ai 2 bL) [.slice A15 x11.IH.length c16] x11.IH).reads w F:=⟨z14S,z14s0,z14rr⟩;refine GQ (T.seq (T.block (Gq Z ?_)));refine Gr Z (GS (k:=k6) Z Z Z Kd Kg (Jt hxx11).1) Z ?_;refine Gr Z (Ho (us := [jS x11.IW,.slice A15 x11.IH.length c16]) 0 Z Lx Kg z14nf z14cc Z Z Z) Z (TL.alloc Z .u Tryz.zeroValue176 Z (fun b18=>(GC 0 Z (cs':= #[jS x11.IW,.slice A15 x11.IH.length c16]) Z .u Z Z Kg Z Z Z Z Z (GG Z (Gt aw bG 0 Z 3 Z Z (Gr Z (Hv Z JJ) Z ?_))))));iterate 2 refine Gr Z (Ex.addw Z Z) Z ?_
  refine GP aw Z Z (Gt aw bG 0 Z 2 Z Z (Gr Z (GK Z Kc) Z (Gx aw Z (T.block ?_))));obtain⟨E22,hE23,hO24⟩:=Jn h;have hk28len:=Ha hX17;refine Hl (fun m e Rs=> ∃ (y19:Int) (y20:Int) (k21:Nat),k21+m=x11.IH.length/\e = [(2,jI y19),(3,jI y20),(15,.slice (some ⟨gz14,oz14,none⟩) a0.IC.length c2),(16,jI (a0.IC.length:Int)),(17,jI (k6:Int)),(28,.slice A15 x11.IH.length c16),(29,jI (x11.IH.length:Int)),(30,jI (k21:Int))]/\Rs = [aN b18 176 #[jS x11.IW,.slice A15 x11.IH.length c16],aN b3 36 #[.bool a0.IJ.null,jS a0.IJ.data,jI a0.I6,jI a0.II,.slice (some ⟨gz14,oz14,none⟩) a0.IC.length c2],aO]/\ed (x11.IH.drop k21) y19 y20=some E22) (x11.IH.length) [0,0,0] ⟨y4,(IntKind.i64.wrap (y5+(IntKind.i64.wrap ((x11.IW.length:Int)+10)))),0,by simp,Z,Z,by rw[List.drop_zero]; exact hE23⟩ Mf Mf ?_;clear hE23 h;rintro m25 _ _ ⟨y19,y20,k21,hk28,rfl,rfl,h⟩
  cases m25 with
  | zero =>
   rw[List.drop_of_length_le Mc,ed] at h;have hk28ge: ¬ ((k21:Int)<(x11.IH.length:Int)):=by omega
   refine Gq Z (Gx aw Z (T.seq (GU Z (Jr hk28ge) ?_)));obtain rfl:=Jp h;replace h:=hO24;clear hO24;exact T.exit (GL (GL (Hi (GN (X.seq (T.region Z (Gr Z (Ex.add Z Z Mc) Z (Gp aw 1 Z (TL.nil (X.back (m':=m10) [1,1] Mc ⟨y19,y20,k6+1,by omega,Z,Z,h⟩ Mf Mf))))))))))
  | succ m25 =>
   obtain⟨x26,hxx26⟩: ∃ x,x11.IH[k21]? = some x:=⟨_,List.getElem?_eq_getElem Mc⟩;rw[bz hxx26,ed] at h;have hk28lt:(k21:Int)<(x11.IH.length:Int):=by omega
   refine Gq Z (Gx aw Z (T.seq (GF Z (Jq hk28lt) ?_)));obtain⟨gz29,oz29,rfl,z29cs,z29cl,z29cc,z29nf,z29r⟩:=G4 Md hX17 hxx26;obtain⟨z29S,z29r,z29rr⟩:=z29r;obtain⟨A30,c31,rfl,z29s0⟩:=z29r;have hX32:(RX.of (ai 12 dY) [.slice A30 x26.IM.length c31] x26.IM).reads w F:=⟨z29S,z29s0,z29rr⟩;refine GQ (T.seq (T.block (Gq Z ?_)));refine Gr Z (GS (k:=k21) Z Z Z Kc Ka (Jt hxx26).1) Z ?_;refine Gr Z (Ho (us := [jI x26.I8,.slice A30 x26.IM.length c31]) 0 Z Lc Ka z29nf z29cc Z Z Z) Z (TL.alloc Z .u Tryz.zeroValue179 Z (fun b33=>(GC 0 Z (cs':= #[jI x26.I8,.slice A30 x26.IM.length c31]) Z .u Z Z Ka Z Z Z Z Z (Gs (T.seq (Gq Z (Gt aw bG 0 Z 3 Z Z (Gr Z (GK Z J7) Z (Gr Z (Ex.mulw Z Z) Z ?_)))))))));iterate 2 refine Gr Z (Ex.addw Z Z) Z ?_
   refine GP aw Z Z (Gp aw 2 Z ?_);rcases jF h with⟨c34,h⟩ | ⟨c34,h⟩
   ·refine Hg Z c34 (Gq Z (Gp aw 1 Z ?_));obtain rfl:=Jp h;obtain rfl:=Jp hO24;obtain rfl:=Jp hO9;exact Gs (T.ret (Gv (GI (Gv (Gv (GI (GI (Gv (Gv (GI (Gv (GD [3] L7 (Gu Z)))))))))))))
   refine Hh Z c34 (G3 Z (Gt aw bG 0 Z 2 Z Z (Gr Z (GK Z J7) Z (Gx aw Z (T.block ?_)))));obtain⟨E37,hE38,hO39⟩:=Jn h;have hk43len:=Ha hX32;refine Hl (fun m e Rs=> ∃ (y35:Int) (k36:Nat),k36+m=x26.IM.length/\e = [(2,jI y35),(3,jI (IntKind.i64.wrap (y20+(IntKind.i64.wrap (10+(IntKind.i64.wrap (100*(x26.IM.length:Int)))))))),(15,.slice (some ⟨gz14,oz14,none⟩) a0.IC.length c2),(16,jI (a0.IC.length:Int)),(17,jI (k6:Int)),(28,.slice (some ⟨gz29,oz29,none⟩) x11.IH.length c16),(29,jI (x11.IH.length:Int)),(30,jI (k21:Int)),(44,.slice A30 x26.IM.length c31),(45,jI (x26.IM.length:Int)),(46,jI (k36:Int))]/\Rs = [aN b33 179 #[jI x26.I8,.slice A30 x26.IM.length c31],aN b18 176 #[jS x11.IW,.slice (some ⟨gz29,oz29,none⟩) x11.IH.length c16],aN b3 36 #[.bool a0.IJ.null,jS a0.IJ.data,jI a0.I6,jI a0.II,.slice (some ⟨gz14,oz14,none⟩) a0.IC.length c2],aO]/\fk (x26.IM.drop k36) y35=some E37) (x26.IM.length) [0,0,0,0] ⟨y19,0,by simp,Z,Z,by rw[List.drop_zero]; exact hE38⟩ Mf Mf ?_;clear hE38 h;rintro m40 _ _ ⟨y35,k36,hk43,rfl,rfl,h⟩
   cases m40 with
   | zero =>
    rw[List.drop_of_length_le Mc,fk] at h;have hk43ge: ¬ ((k36:Int)<(x26.IM.length:Int)):=by omega
    refine Gq Z (Gx aw Z (T.seq (GU Z (Jr hk43ge) ?_)));obtain rfl:=Jp h;replace h:=hO39;clear hO39;exact T.exit (GL (GL (Hi (GN (X.seq (T.region Z (Gr Z (Ex.add Z Z Mc) Z (Gp aw 1 Z (TL.nil (X.back (m':=m25) [1,1,1] Mc ⟨y35,(IntKind.i64.wrap (y20+(IntKind.i64.wrap (10+(IntKind.i64.wrap (100*(x26.IM.length:Int))))))),k21+1,by omega,Z,Z,h⟩ Mf Mf))))))))))
   | succ m40 =>
    obtain⟨x41,hxx41⟩: ∃ x,x26.IM[k36]? = some x:=⟨_,List.getElem?_eq_getElem Mc⟩;rw[bz hxx41,fk] at h;have hk43lt:(k36:Int)<(x26.IM.length:Int):=by omega
    refine Gq Z (Gx aw Z (T.seq (GF Z (Jq hk43lt) ?_)));obtain⟨gz44,oz44,rfl,z44cs,z44cl,z44cc,z44nf,z44r⟩:=G4 Md hX32 hxx41;obtain⟨z44S,z44r,z44rr⟩:=z44r;obtain⟨A45,c46,rfl,z44s0⟩:=z44r;have hX47:(RX.of (ai 7 dK) [.slice A45 x41.IG.length c46] x41.IG).reads w F:=⟨z44S,z44s0,z44rr⟩;refine GQ (T.seq (T.block (Gq Z ?_)));refine Gr Z (GS (k:=k36) Z Z Z J7 JF (Jt hxx41).1) Z ?_;refine Gr Z (Ho (us:=wL5 x41 A45 c46) 0 Z J9 JF z44nf z44cc Z Z Z) Z (TL.alloc Z .u Tryz.zeroValue97 Z (fun b48=>(GC 0 Z (cs':=wA0 x41 A45 c46) Z .u Z Z JF Z Z Z Z Z (GG Z (Gr Z (GH (us:=wL5 x41 A45 c46) 0 Z J9 JF Z Z Z) Z ?_)))));obtain⟨x49,hx50,h⟩:=Jn h;refine GT Z .u (.fn Tryz.call92 Z) (rC x41 _ _ _ hx50) (fun _ hs=>(GJ hs hX47)) Z (Gp aw 1 Z ?_);rcases jF h with⟨c51,h⟩ | ⟨c51,h⟩
    ·refine Hg Z c51 (Gq Z (Gp aw 1 Z ?_));obtain rfl:=Jp h;obtain rfl:=Jp hO39;obtain rfl:=Jp hO24;obtain rfl:=Jp hO9;exact Gs (T.ret (GI (Gv (Gv (GI (GI (Gv (Gv (GI (GI (Gv (Gv (GI (Gv (GD [4] L7 (Gu Z))))))))))))))))
    exact Hh Z c51 (T.skip (GN (X.seq (T.region Z (Gr Z (Ex.add Z Z Mc) Z (Gp aw 1 Z (TL.nil (X.back (m':=m40) [1,1,1,1] Mc ⟨y35,k36+1,by omega,Z,Z,h⟩ Mf Mf))))))))
def gL:List aL->List iP->Option (List iP)
 | [],y24=>some y24
 | x31::xs,y24=>if (y24.length+1)*32<=140737488355328 then (gL xs (y24 ++ [(⟨x31.I8,x31.IM⟩:iP)])) else none
def gM:List az->List fI->Option (List fI)
 | [],y7=>some y7
 | x14::xs,y7=>(gL x14.IH []).bind fun y44=>if (y7.length+1)*40<=140737488355328 then (gM xs (y7 ++ [(⟨x14.IW,y44⟩:fI)])) else none
def kX (a0:ao):Option (cj):=(gM a0.IC []).bind fun y56=>some (⟨a0.IJ,a0.I6,a0.II,y56⟩:cj)
theorem vC (a0:ao) (A1:Option Addr) (c2:Nat) (r:cj) (h:kX a0=some r):ph Tryz.prog 57 #[.agg #[.bool a0.IJ.null,jS a0.IJ.data,jI a0.I6,jI a0.II,.slice A1 a0.IC.length c2]] (RX.of (ai 2 ay) [.slice A1 a0.IC.length c2] a0.IC) aO (fun v A' L=> ∃ (A59:Option Addr) (c60:Nat),v= .agg #[.bool r.IJ.null,jS r.IJ.data,jI r.I6,jI r.II,.slice A59 r.IC.length c60]/\A'=aO/\L = [(⟨_,ai 2 cT,[.slice A59 r.IC.length c60],r.IC⟩:RO)]):=by
 refine Ae Tryz.func57 Z Tryz.ntmps57 Z ?_;intro F w S hS hSF;have hX:(RX.of (ai 2 ay) [.slice A1 a0.IC.length c2] a0.IC).reads w F:=⟨S,hS,hSF⟩;unfold kX at h;refine Gq Z (TL.box Z .u Z Z (fun b3=>(TL.alloc Z .u Tryz.zeroValue51 Z (fun b4=>(GG Z (Gp aw 1 Z (Gr Z (GH (us:=wL6 a0.IJ) 1 Z JY JB Z Z Z) Z (Gt aw bG 1 Z 4 Z Z ?_))))))));refine Gr Z (GW (cells:= #[.bool a0.IJ.null,jS a0.IJ.data,jI a0.I6,jI a0.II,.slice none 0 0]) nQ Z Me) Z ?_;refine TL.alloc Z .u Tryz.zeroValue51 Z (fun b5=>(GC 0 Z (cs':= #[.bool a0.IJ.null,jS a0.IJ.data,jI a0.I6,jI a0.II,.slice none 0 0]) Z .u Z Z K3 Z Z Z Z Z (Gs (T.seq (Gq Z (Gt aw bG 2 Z 2 Z Z (Gr Z (GK Z Kd) Z (Gx aw Z (T.block (HK 191 2 (fg w S cT) ?_))))))))));obtain⟨E10,hE11,hO12⟩:=Jn h;have hk16len:=Ha hX;refine Hl (fun m e Rs=> ∃ (k6:Nat) (y7:List fI) (A8:Option Addr) (c9:Nat),k6+m=a0.IC.length/\e = [(2,jP b4),(3,jP b5),(17,.slice A1 a0.IC.length c2),(18,jI (a0.IC.length:Int)),(19,jI (k6:Int))]/\Rs = [ci 191 2 (fg w S cT) (.slice A8 y7.length c9) y7,aN b5 51 #[.bool a0.IJ.null,jS a0.IJ.data,jI a0.I6,jI a0.II,.slice A8 y7.length c9],aN b4 51 vA0,aN b3 36 #[.bool a0.IJ.null,jS a0.IJ.data,jI a0.I6,jI a0.II,.slice A1 a0.IC.length c2],aO]/\gM (a0.IC.drop k6) y7=some E10) (a0.IC.length) [0,0,0,0,0] ⟨0,[],none,0,by simp,Z,Z,by rw[List.drop_zero]; exact hE11⟩ Mf Mf ?_;clear hE11 h;rintro m13 _ _ ⟨k6,y7,A8,c9,hk16,rfl,rfl,h⟩
 cases m13 with
 | zero =>
  rw[List.drop_of_length_le Mc,gM] at h;have hk16ge: ¬ ((k6:Int)<(a0.IC.length:Int)):=by omega
  refine Gq Z (Gx aw Z (T.seq (GU Z (Jr hk16ge) ?_)));obtain rfl:=Jp h;replace h:=hO12;clear hO12;refine T.exit (GL (GL (Hi (X.seq (Gq Z (Gr Z (GH (us := [.bool a0.IJ.null,jS a0.IJ.data,jI a0.I6,jI a0.II,.slice A8 y7.length c9]) 1 Z Tryz.isAgg51 K3 Z Z Z) Z (GC 2 Z (cs':= #[.bool a0.IJ.null,jS a0.IJ.data,jI a0.I6,jI a0.II,.slice A8 y7.length c9]) Z .u Z Z K3 Z Z Z Z Z ?_)))))));obtain rfl:=Jp h;exact Gs (T.ret (X.shutO Md 0 Z (G8 [0,0,0,0,0] Z (GV [4,0] Tryz.results57 (Hb (us:= #[.bool a0.IJ.null,jS a0.IJ.data,jI a0.I6,jI a0.II,.slice A8 y7.length c9]) 2 Z Tryz.isAgg51 K3 Z Z) ⟨_,⟨_,_,Z,Z,Z⟩,Z⟩ Mf (.inl Z)))))
 | succ m13 =>
  obtain⟨x14,hxx14⟩: ∃ x,a0.IC[k6]? = some x:=⟨_,List.getElem?_eq_getElem Mc⟩;rw[bz hxx14,gM] at h;have hk16lt:(k6:Int)<(a0.IC.length:Int):=by omega
  refine Gq Z (Gx aw Z (T.seq (GF Z (Jq hk16lt) ?_)));obtain⟨gz17,oz17,rfl,z17cs,z17cl,z17cc,z17nf,z17r⟩:=RX.elemS Md hS hSF hxx14;obtain⟨A18,c19,rfl,z17s0⟩:=z17r;have hX20:(RX.of (ai 2 bL) [.slice A18 x14.IH.length c19] x14.IH).reads w F:=⟨S,z17s0,hSF⟩;refine GQ (T.seq (T.block (Gq Z ?_)));refine Gr Z (GS (k:=k6) Z Z Z Kd Kg (Jt hxx14).1) Z ?_;refine Gr Z (Ho (us := [jS x14.IW,.slice A18 x14.IH.length c19]) 0 Z Lx Kg z17nf z17cc Z Z Z) Z (TL.alloc Z .u Tryz.zeroValue176 Z (fun b21=>(GC 0 Z (cs':= #[jS x14.IW,.slice A18 x14.IH.length c19]) Z .u Z Z Kg Z Z Z Z Z (GG Z (Gt aw bG 0 Z 2 Z Z ?_)))));refine Gr Z (GW (cells:= #[jS x14.IW,.slice none 0 0]) nl Z Me) Z ?_;refine TL.alloc Z .u Tryz.zeroValue191 Z (fun b22=>(GC 0 Z (cs':= #[jS x14.IW,.slice none 0 0]) Z .u Z Z KY Z Z Z Z Z (Gs (T.seq (Gq Z (Gt aw bG 1 Z 2 Z Z (Gr Z (GK Z Kc) Z (Gx aw Z (T.block (HK 193 2 (fg w S gK) ?_))))))))));obtain⟨E27,hE28,hO29⟩:=Jn h;have hk33len:=Ha hX20;refine Hl (fun m e Rs=> ∃ (k23:Nat) (y24:List iP) (A25:Option Addr) (c26:Nat),k23+m=x14.IH.length/\e = [(2,jP b4),(3,jP b5),(6,jP b22),(17,.slice (some ⟨gz17,oz17,none⟩) a0.IC.length c2),(18,jI (a0.IC.length:Int)),(19,jI (k6:Int)),(27,.slice A18 x14.IH.length c19),(28,jI (x14.IH.length:Int)),(29,jI (k23:Int))]/\Rs = [ci 193 2 (fg w S gK) (.slice A25 y24.length c26) y24,aN b22 191 #[jS x14.IW,.slice A25 y24.length c26],aN b21 176 #[jS x14.IW,.slice A18 x14.IH.length c19],ci 191 2 (fg w S cT) (.slice A8 y7.length c9) y7,aN b5 51 #[.bool a0.IJ.null,jS a0.IJ.data,jI a0.I6,jI a0.II,.slice A8 y7.length c9],aN b4 51 vA0,aN b3 36 #[.bool a0.IJ.null,jS a0.IJ.data,jI a0.I6,jI a0.II,.slice (some ⟨gz17,oz17,none⟩) a0.IC.length c2],aO]/\gL (x14.IH.drop k23) y24=some E27) (x14.IH.length) [0,0,0,0,0,0,0,0] ⟨0,[],none,0,by simp,Z,Z,by rw[List.drop_zero]; exact hE28⟩ Mf Mf ?_;clear hE28 h;rintro m30 _ _ ⟨k23,y24,A25,c26,hk33,rfl,rfl,h⟩
  cases m30 with
  | zero =>
   rw[List.drop_of_length_le Mc,gL] at h;have hk33ge: ¬ ((k23:Int)<(x14.IH.length:Int)):=by omega
   refine Gq Z (Gx aw Z (T.seq (GU Z (Jr hk33ge) ?_)));obtain rfl:=Jp h;replace h:=hO29;clear hO29;refine T.exit (GL (GL (Hi (X.seq (T.region Z (Gt aw bG 4 Z 2 Z Z (Gr Z (GH (us := [jS x14.IW,.slice A25 y24.length c26]) 1 Z Tryz.isAgg191 KY Z Z Z) Z (Ib (cells:= #[jS x14.IW,.slice A25 y24.length c26]) Z .u mJ Z Mf Z (fun b51=> ?_)))))))));obtain⟨c52,h⟩:=aE h;refine Iu 3 0 Z .u (us := [jS x14.IW,.slice A25 y24.length c26]) (u:=(⟨x14.IW,y24⟩:fI)) (l:=y7) (E:=(fg w S cT)) Tryz.underlying49 np Z Md Z Z Z Z Z Z Z (fun w1 G1 hG W h1 h2=>⟨_,_,Z,(fun w G h=>DS Md w G h) w1 G1 hG W h1 h2⟩) (by have hq:=c52; omega) (by have hq:=c52; omega) Z (fun A53 c54=> ?_);exact Hc [0,0,0,0,0,0,0] Z (Gp aw 1 Z (GC 3 Z (cs':= #[.bool a0.IJ.null,jS a0.IJ.data,jI a0.I6,jI a0.II,.slice A53 (y7 ++ [(⟨x14.IW,y24⟩:fI)]).length c54]) Z .u Z Z Tryz.sizeOf49 Z Z Z Z Z (TL.nil (GN (X.seq (T.region Z (Gr Z (Ex.add Z Z Mc) Z (Gp aw 1 Z (TL.nil (X.back (m':=m13) [0,2,2,2,2] Mc ⟨k6+1,(y7 ++ [(⟨x14.IW,y24⟩:fI)]),A53,c54,by omega,Z,Z,h⟩ Mf Mf))))))))))
  | succ m30 =>
   obtain⟨x31,hxx31⟩: ∃ x,x14.IH[k23]? = some x:=⟨_,List.getElem?_eq_getElem Mc⟩;rw[bz hxx31,gL] at h;have hk33lt:(k23:Int)<(x14.IH.length:Int):=by omega
   refine Gq Z (Gx aw Z (T.seq (GF Z (Jq hk33lt) ?_)));obtain⟨gz34,oz34,rfl,z34cs,z34cl,z34cc,z34nf,z34r⟩:=RX.elemS Md z17s0 hSF hxx31;obtain⟨A35,c36,rfl,z34s0⟩:=z34r;have hX37:(RX.of (ai 12 dY) [.slice A35 x31.IM.length c36] x31.IM).reads w F:=⟨S,z34s0,hSF⟩;refine GQ (T.seq (T.block (Gq Z ?_)));refine Gr Z (GS (k:=k23) Z Z Z Kc Ka (Jt hxx31).1) Z ?_;refine Gr Z (Ho (us := [jI x31.I8,.slice A35 x31.IM.length c36]) 0 Z Lc Ka z34nf z34cc Z Z Z) Z (TL.alloc Z .u Tryz.zeroValue179 Z (fun b38=>(GC 0 Z (cs':= #[jI x31.I8,.slice A35 x31.IM.length c36]) Z .u Z Z Ka Z Z Z Z Z (Gs (T.region Z (Gt aw bG 2 Z 2 Z Z (Gr Z (GH (us := [jI x31.I8,.slice A35 x31.IM.length c36]) 0 Z Lc Ka Z Z Z) Z (Ib (cells:= #[jI x31.I8,.slice A35 x31.IM.length c36]) Z .u mm Z Mf Z (fun b39=> ?_)))))))));obtain⟨c40,h⟩:=aE h;refine TL.app1 1 Z .u (us := [jI x31.I8,.slice A35 x31.IM.length c36]) (u:=(⟨x31.I8,x31.IM⟩:iP)) (l:=y24) (E:=(fg w S gK)) Tryz.underlying189 nq Z Md Z Z Z Z Z Z (fun _ _=>Ad ⟨_,_,Z,z34s0⟩) (by have hq:=c40; omega) (by have hq:=c40; omega) Z (fun A41 c42=> ?_);exact Hc [0,0,0,0,0,0,0,0,0] Z (Gp aw 1 Z (GC 2 Z (cs':= #[jS x14.IW,.slice A41 (y24 ++ [(⟨x31.I8,x31.IM⟩:iP)]).length c42]) Z .u Z Z Tryz.sizeOf189 Z Z Z Z Z (TL.nil (GN (X.seq (T.region Z (Gr Z (Ex.add Z Z Mc) Z (Gp aw 1 Z (TL.nil (X.back (m':=m30) [1,1,1,1,1,1,1,1] Mc ⟨k23+1,(y24 ++ [(⟨x31.I8,x31.IM⟩:iP)]),A41,c42,by omega,Z,Z,h⟩ Mf Mf))))))))))
def rF:ey := [(23,0,0),(23,1,1),(212,0,0),(212,1,2),(212,2,3),(245,0,0),(245,1,1)]
theorem bi:(rF).OK Tryz.prog:=⟨FOK.mk JT rfl JW rfl,FOK.mk JT rfl JO rfl,FOK.mk J8 rfl JB rfl,FOK.mk J8 rfl Jv rfl,FOK.mk J8 rfl Jv rfl,FOK.mk KD rfl JO rfl,FOK.mk KD rfl JB rfl,trivial⟩
theorem qp:Tryz.prog.follows .mixedOrders=true:=by kernel_rfl
theorem eG:gv Tryz.prog 3 245 [.string,.bool,.string] true:=(gv.struct Lu Kv rfl Tryz.underlying245 Tryz.stoodInHeld245 ⟨by decide,rfl,[.string],[.bool,.string],false,rfl,((HJ JZ JO Tryz.underlying9).mono Md),⟨by decide,rfl,[.bool,.string],[],true,rfl,(gv.struct JY JB rfl Tryz.underlying23 Tryz.stoodInHeld23 ⟨by decide,rfl,[.bool],[.string],false,rfl,(HJ Ky JW Tryz.underlying4),⟨by decide,rfl,[.string],[],false,rfl,(HJ JZ JO Tryz.underlying9),rfl⟩⟩),rfl⟩⟩)
def fJ (a0:List Hd):Nat->Bool->Nat->Option (Lp Bool (Bool×Nat))
 | 0,_,_=>none
 | m8+1,y3,k4=>if (k4:Int)<(a0.length:Int) then ((a0[k4]?).bind fun x13=>if x13.IQ.null=true then (if x13.IQ.data = [] then (if -9223372036854775808<=((k4:Int)+1)/\((k4:Int)+1)<=9223372036854775807 then (fJ a0 m8 y3 (k4+1)) else none) else some (Lp.ret false)) else (if -9223372036854775808<=((k4:Int)+1)/\((k4:Int)+1)<=9223372036854775807 then (fJ a0 m8 y3 (k4+1)) else none)) else (some (Lp.go (y3,k4)))
def nR (a0:List Hd):Option (Bool):=(fJ a0 (((a0.length:Int)).toNat+1) false 0).bind fun e=>match e with | .ret r=>some r | .go (y20,k21)=>some true
def eK (a0:List Hd) (a1:List Hd):Nat->Bool->Nat->Option (Lp Bool (Bool×Nat))
 | 0,_,_=>none
 | m11+1,y6,k7=>if (k7:Int)<(a0.length:Int) then ((a0[k7]?).bind fun x16=>(a1[k7]?).bind fun x19=>if x16.I3=x19.I3 then (if x16.IQ.null=x19.IQ.null then (if x16.IQ.data=x19.IQ.data then (if -9223372036854775808<=((k7:Int)+1)/\((k7:Int)+1)<=9223372036854775807 then (eK a0 a1 m11 y6 (k7+1)) else none) else some (Lp.ret false)) else some (Lp.ret false)) else some (Lp.ret false)) else (some (Lp.go (y6,k7)))
def kY (a0:List Hd) (a1:List Hd):Option (Bool):=if (a0.length:Int)=(a1.length:Int) then ((eK a0 a1 (((a0.length:Int)).toNat+1) false 0).bind fun e=>match e with | .ret r=>some r | .go (y26,k27)=>some true) else some false
theorem s7 (a0:List Hd) (A1:Option Addr) (c2:Nat) (a1:List Hd) (A3:Option Addr) (c4:Nat) (r:Bool) (h:kY a0 a1=some r):aC Tryz.prog 228 #[.slice A1 a0.length c2,.slice A3 a1.length c4] (RX.and (RX.of (ai 3 ec) [.slice A1 a0.length c2] a0) (RX.of (ai 3 ec) [.slice A3 a1.length c4] a1)) (aO) (fun v A' N=>v= .bool r/\A'=aO/\N = []):=by
 refine aU Tryz.func228 Z Tryz.ntmps228 Z ?_;intro F w hX;unfold kY at h;refine Gq Z (Gx bi Z (T.seq (Gq Z (Gp bi 1 Z (Gr Z (GK Z Kb) Z (Gp bi 1 Z (Gr Z (GK Z Kb) Z (Gp bi 1 Z ?_))))))));rcases jF h with⟨c5,h⟩ | ⟨c5,h⟩
 ·refine GY Z c5 (GQ (T.seq (Gq Z (Gx bi Z (T.block ?_)))));obtain⟨E8,hE9,hO10⟩:=Jn h;refine Hl (fun m e Rs=> ∃ (y6:Bool) (k7:Nat),e = [(0,.slice A1 a0.length c2),(1,.slice A3 a1.length c4),(4,.bool y6),(5,jI (k7:Int))]/\Rs = [aO]/\eK a0 a1 m y6 k7=some E8) (((a0.length:Int)).toNat+1) [0] ⟨false,0,Z,Z,by exact hE9⟩ Mf Mf ?_;clear hE9 h;rintro m11 _ _ ⟨y6,k7,rfl,rfl,h⟩
  cases m11 with
  | zero =>
   rw[eK] at h;cases h
  | succ m11 =>
   rw[eK] at h;refine T.seq (Gq Z (Gp bi 2 Z (Gr Z (GK Z Kb) Z (Gp bi 1 Z ?_))));rcases jF h with⟨c15,h⟩ | ⟨c15,h⟩
   ·refine Hg Z c15 ?_;refine GQ (T.seq (T.block (T.seq (G6 (.q 0 (.q 1 (.q 2 (.q 3 (.q 4 (.q 5 (.q 6 (.q 7 (.q 8 .nil))))))))) [0] Z qp (NoP.seq (NoP.blk (NoP.seq (NoP.seq (NoP.blk (NoP.seq bA)))))) Me ?_))));obtain⟨x16,hx17,h⟩:=Jn h;obtain⟨gz18,oz18,rfl,z18cs,z18cl,z18cc,z18nf,z18r⟩:=G4 Md (GR hX) hx17;obtain⟨z18S,z18r,z18rr⟩:=z18r;obtain rfl:z18cs=(wL3 x16):=z18r;refine TD.run bi [0,1] Z Z ?_;refine Gw Z (GS (k:=k7) Z Z Z Kb Kv (Jt hx17).1) Z ?_;refine Gw Z (Ho (us:=wL3 x16) 0 Z Lu Kv z18nf z18cc Z Z Z) Z ?_;obtain⟨x19,hx20,h⟩:=Jn h;obtain⟨gz21,oz21,rfl,z21cs,z21cl,z21cc,z21nf,z21r⟩:=G4 Md (Gz hX) hx20;obtain⟨z21S,z21r,z21rr⟩:=z21r;obtain rfl:z21cs=(wL3 x19):=z21r;refine TD.run bi [4,5] Z Z ?_;refine Gw Z (GS (k:=k7) Z Z Z Kb Kv (Jt hx20).1) Z ?_;refine Gw Z (Ho (us:=wL3 x19) 0 Z Lu Kv z21nf z21cc Z Z Z) Z ?_;rcases jF h with⟨c22,h⟩ | ⟨c22,h⟩
    ·rcases jF h with⟨c23,h⟩ | ⟨c23,h⟩
     ·rcases jF h with⟨c24,h⟩ | ⟨c24,h⟩
      ·refine Gw Z (Iy (us:=wL3 x16) (vs:=wL3 x19) eG Z Lz Z Z Z Z (eC (qj (l:=x16.I3) (m:=x19.I3) c22) (eC (ne c23) (eC (qj (l:=x16.IQ.data) (m:=x19.IQ.data) c24) Z)))) Z (Hp (GU Z Z (T.skip (GN (X.seq (T.region Z ?_))))));obtain⟨c25,h⟩:=aE h;exact Gp bi 1 Z (Gr Z (Ex.add Z Z c25) Z (Gp bi 1 Z (TL.nil (X.back (m':=m11) [0] Mc ⟨y6,k7+1,Z,Z,h⟩ Mf Mf))))
      refine Gw Z (Iy (us:=wL3 x16) (vs:=wL3 x19) eG Z Lz Z Z Z Z (eC (qj (l:=x16.I3) (m:=x19.I3) c22) (eC (ne c23) (kr (pv (l:=x16.IQ.data) (m:=x19.IQ.data) c24))))) Z (Hp (GF Z Z (Gq Z (Gp bi 1 Z ?_))));obtain rfl:=Jp h;obtain rfl:=Jp hO10;exact Gs (T.ret (GI (Gv (Gv (GI (Gv (GD [0] LA (Gu Z))))))))
     refine Gw Z (Iy (us:=wL3 x16) (vs:=wL3 x19) eG Z Lz Z Z Z Z (eC (qj (l:=x16.I3) (m:=x19.I3) c22) (kr (rp c23)))) Z (Hp (GF Z Z (Gq Z (Gp bi 1 Z ?_))));obtain rfl:=Jp h;obtain rfl:=Jp hO10;exact Gs (T.ret (GI (Gv (Gv (GI (Gv (GD [0] LA (Gu Z))))))))
    refine Gw Z (Iy (us:=wL3 x16) (vs:=wL3 x19) eG Z Lz Z Z Z Z (kr (pv (l:=x16.I3) (m:=x19.I3) c22))) Z (Hp (GF Z Z (Gq Z (Gp bi 1 Z ?_))));obtain rfl:=Jp h;obtain rfl:=Jp hO10;exact Gs (T.ret (GI (Gv (Gv (GI (Gv (GD [0] LA (Gu Z))))))))
   refine Hh Z c15 ?_;obtain rfl:=Jp h;replace h:=hO10;clear hO10;refine T.exit (GL (GL (Hi (X.seq (Gq Z (Gp bi 1 Z ?_))))));obtain rfl:=Jp h;exact Gs (T.ret (GD [0] LA (Gu Z)))
 refine GX Z c5 (Gq Z (Gp bi 1 Z ?_));obtain rfl:=Jp h;exact Gs (T.ret (Gv (GD [0] LA (Gu Z))))
def rG:ey := [(23,0,0),(23,1,1),(91,0,0),(91,1,1),(91,2,2),(91,3,4),(91,4,6),(212,0,0),(212,1,2),(212,2,3),(310,1,7)]
theorem aW:(rG).OK Tryz.prog:=⟨FOK.mk JT rfl JW rfl,FOK.mk JT rfl JO rfl,FOK.mk JS rfl Jv rfl,FOK.mk JS rfl Jv rfl,FOK.mk JS rfl JB rfl,FOK.mk JS rfl JB rfl,FOK.mk JS rfl La rfl,FOK.mk J8 rfl JB rfl,FOK.mk J8 rfl Jv rfl,FOK.mk J8 rfl Jv rfl,FOK.mk Lo rfl Jv rfl,trivial⟩
def rH:List Nat := [3,4,9,89]
theorem cK:NOK Tryz.prog rH:=⟨Jy,Ky,JZ,Tryz.isAgg89,trivial⟩
theorem dn:gv Tryz.prog 2 23 [.bool,.string] true:=(gv.struct JY JB rfl Tryz.underlying23 Tryz.stoodInHeld23 ⟨by decide,rfl,[.bool],[.string],false,rfl,(HJ Ky JW Tryz.underlying4),⟨by decide,rfl,[.string],[],false,rfl,(HJ JZ JO Tryz.underlying9),rfl⟩⟩)
def oF (a0:Bl):Option (Bool):=if a0.null=true then (if a0.data = [] then some false else some true) else some false
def lH (a0:Rec):Option (Int):=if a0.IZ<0 then some 11 else (if a0.IZ>2147483647 then some 11 else ((oF a0.I3).bind fun x6=>if x6=true then some 4 else ((oF a0.IQ).bind fun x9=>if x9=true then some 4 else ((nR a0.IR).bind fun x12=>if x12=true then some 0 else some 4))))
def kZ (a0:Rec) (a1:Rec):Option (Bool):=if a0.Ja=a1.Ja then (if a0.IZ=a1.IZ then (if a0.I3.null=a1.I3.null then (if a0.I3.data=a1.I3.data then (if a0.IQ.null=a1.IQ.null then (if a0.IQ.data=a1.IQ.data then ((kY a0.IR a1.IR).bind fun x13=>some x13) else some false) else some false) else some false) else some false) else some false) else some false
theorem s8 (a0:Rec) (A1:Option Addr) (c2:Nat) (a1:Rec) (A3:Option Addr) (c4:Nat) (r:Bool) (h:kZ a0 a1=some r):aC Tryz.prog 209 #[.agg (wA2 a0 A1 c2),.agg (wA2 a1 A3 c4)] (RX.and (RX.of (ai 3 ec) [.slice A1 a0.IR.length c2] a0.IR) (RX.of (ai 3 ec) [.slice A3 a1.IR.length c4] a1.IR)) (aO) (fun v A' N=>v= .bool r/\A'=aO/\N = []):=by
 refine aU Tryz.func209 Z Tryz.ntmps209 Z ?_;intro F w hX;unfold kZ at h;refine Gq Z (TL.box Z .u Z Z (fun b5=>(TL.box Z .u Z Z (fun b6=>(GP aW Z Z (Gt aW cK 1 Z 3 Z Z ?_))))));rcases jF h with⟨c7,h⟩ | ⟨c7,h⟩
 ·refine Gt aW cK 0 Z 3 Z Z (GA 10 Z (Jq c7) (Gt aW cK 1 Z 3 Z Z ?_));rcases jF h with⟨c8,h⟩ | ⟨c8,h⟩
  ·refine Gt aW cK 0 Z 4 Z Z (GA 17 Z (Jq c8) (GB aW 1 Z (TL.q Z (.g Z Z Z) (GH (us:=wL6 a0.I3) 1 Z JY JB Z Z Z) Z (GB aW 1 Z (TL.q Z (.g Z Z Z) (GH (us:=wL6 a1.I3) 0 Z JY JB Z Z Z) Z ?_)))));rcases jF h with⟨c9,h⟩ | ⟨c9,h⟩
   ·rcases jF h with⟨c10,h⟩ | ⟨c10,h⟩
    ·refine TL.q Z (.g Z Z Z) (H7 (us:=wL6 a0.I3) (vs:=wL6 a1.I3) dn Z Ks Z Z Z Z (eC (ne c9) (eC (qj (l:=a0.I3.data) (m:=a1.I3.data) c10) Z))) Z (GB aW 3 Z (TL.q Z (.g Z Z Z) (GH (us:=wL6 a0.IQ) 1 Z JY JB Z Z Z) Z (GB aW 1 Z (TL.q Z (.g Z Z Z) (GH (us:=wL6 a1.IQ) 0 Z JY JB Z Z Z) Z ?_))));rcases jF h with⟨c11,h⟩ | ⟨c11,h⟩
     ·rcases jF h with⟨c12,h⟩ | ⟨c12,h⟩
      ·refine TL.q Z (.g Z Z Z) (H7 (us:=wL6 a0.IQ) (vs:=wL6 a1.IQ) dn Z Ks Z Z Z Z (eC (ne c11) (eC (qj (l:=a0.IQ.data) (m:=a1.IQ.data) c12) Z))) Z (Gt aW cK 1 Z 5 Z Z ?_);obtain⟨x13,hx14,h⟩:=Jn h;refine Gt aW cK 0 Z 1 Z Z (GT Z (.g Z Z Z) (.fn Tryz.call228 Z) (s7 a0.IR _ _ a1.IR _ _ _ hx14) (fun _ hs=>(RX.reads_and (GJ hs (GR hX)) (GJ hs (Gz hX)))) Z (GB aW 2 Z ?_));obtain rfl:=Jp h;exact Gs (T.ret (GD [2] K6 (Gu Z)))
      refine TL.q Z (.g Z Z Z) (H7 (us:=wL6 a0.IQ) (vs:=wL6 a1.IQ) dn Z Ks Z Z Z Z (eC (ne c11) (kr (pv (l:=a0.IQ.data) (m:=a1.IQ.data) c12)))) Z (GB aW 9 Z ?_);obtain rfl:=Jp h;exact Gs (T.ret (GD [2] K6 (Gu Z)))
     refine TL.q Z (.g Z Z Z) (H7 (us:=wL6 a0.IQ) (vs:=wL6 a1.IQ) dn Z Ks Z Z Z Z (kr (rp c11))) Z (GB aW 9 Z ?_);obtain rfl:=Jp h;exact Gs (T.ret (GD [2] K6 (Gu Z)))
    refine TL.q Z (.g Z Z Z) (H7 (us:=wL6 a0.I3) (vs:=wL6 a1.I3) dn Z Ks Z Z Z Z (eC (ne c9) (kr (pv (l:=a0.I3.data) (m:=a1.I3.data) c10)))) Z (GB aW 16 Z ?_);obtain rfl:=Jp h;exact Gs (T.ret (GD [2] K6 (Gu Z)))
   refine TL.q Z (.g Z Z Z) (H7 (us:=wL6 a0.I3) (vs:=wL6 a1.I3) dn Z Ks Z Z Z Z (kr (rp c9))) Z (GB aW 16 Z ?_);obtain rfl:=Jp h;exact Gs (T.ret (GD [2] K6 (Gu Z)))
  refine Gt aW cK 0 Z 4 Z Z (GA 17 Z (Jr c8) (GB aW 21 Z ?_));obtain rfl:=Jp h;exact Gs (T.ret (GD [2] K6 (Gu Z)))
 refine Gt aW cK 0 Z 3 Z Z (GA 10 Z (Jr c7) (GB aW 28 Z ?_));obtain rfl:=Jp h;exact Gs (T.ret (GD [2] K6 (Gu Z)))
def lR (a0:List UInt8):Option (Int×Int):=if (a0.length:Int)<2 then some (0,1) else (if 2<=a0.length then ((yf (a0.take 2)).bind fun x3=>if x3=0 then (if (a0.length:Int)<4 then some (0,1) else (if 4<=a0.length then ((yf ((a0.drop 2).take 2)).bind fun x8=>if x8=0 then (if (a0.length:Int)>4 then some (0,2) else some (x8,0)) else (if x8=1 then (if (a0.length:Int)>4 then some (0,2) else some (x8,0)) else some (0,12))) else none)) else some (0,7)) else none)
def kg (a0:List UInt8):Option (Int×Int):=if (a0.length:Int)<2 then some (0,1) else (if 2<=a0.length then ((yf (a0.take 2)).bind fun x3=>if x3=0 then (if (a0.length:Int)<6 then some (0,1) else (if 6<=a0.length then ((yf ((a0.drop 2).take 4)).bind fun x8=>if x8<0 then some (0,11) else (if (a0.length:Int)>6 then some (0,2) else some (x8,0))) else none)) else some (0,7)) else none)
def jB (a0:Rec):Option (Int×Int×Int):=if a0.I3.null=true then some (0,0,12) else (if a0.IQ.null=true then some (0,0,12) else (if (a0.IR.length:Int)>0 then some (0,0,12) else (if a0.IZ=0 then ((lR a0.I3.data).bind fun (x8,x9)=>if x9=0 then ((kg a0.IQ.data).bind fun (x12,x13)=>if x13=0 then some (x8,x12,0) else some (0,0,x13)) else some (0,0,x9)) else some (0,0,12))))
def rI:ey := [(91,0,0),(91,1,1),(97,0,0),(97,1,1),(97,2,2),(97,3,3),(97,4,4),(97,5,5),(97,6,6),(97,7,7),(97,8,8),(97,9,9),(97,10,10),(97,11,11),(310,0,0),(310,1,7),(310,2,8)]
theorem ah:(rI).OK Tryz.prog:=⟨FOK.mk JS rfl Jv rfl,FOK.mk JS rfl Jv rfl,FOK.mk JH rfl Jv rfl,FOK.mk JH rfl Jv rfl,FOK.mk JH rfl JW rfl,FOK.mk JH rfl JW rfl,FOK.mk JH rfl JW rfl,FOK.mk JH rfl Jv rfl,FOK.mk JH rfl Jv rfl,FOK.mk JH rfl Jv rfl,FOK.mk JH rfl Jv rfl,FOK.mk JH rfl Jv rfl,FOK.mk JH rfl Jv rfl,FOK.mk JH rfl Tryz.sizeOf95 rfl,FOK.mk Lo rfl JD rfl,FOK.mk Lo rfl Jv rfl,FOK.mk Lo rfl Jv rfl,trivial⟩
def rJ:List Nat := [3,4,95]
theorem aF:NOK Tryz.prog rJ:=⟨Jy,Ky,LH,trivial⟩
theorem lI:Tryz.prog.follows .mixedOrders=true:=by kernel_rfl
def iQ (a0:Int) (a1:Int):Option (Bool):=if a0>=a1 then (if a0<=2147483647 then some true else some false) else some false
def iR (a0:Bat):Option (Bool):=if a0.ID=(-1) then (if a0.IF=(-1) then (if a0.IX=(-1) then (if a0.Jf=true then some false else some true) else some false) else some false) else (if a0.ID<0 then some false else (if a0.IF<0 then some false else (if a0.IF>32767 then some false else (if a0.Jc=true then (if a0.IX=(-1) then some true else some false) else ((iQ a0.IX 0).bind fun x13=>some x13)))))
def fK (a0:Bat):Nat->Int->Int->Nat->Option (Lp Int (Int×Int×Nat))
 | 0,_,_,_=>none
 | m10+1,y4,y5,k6=>if (k6:Int)<(a0.IG.length:Int) then ((a0.IG[k6]?).bind fun x15=>if -9223372036854775808<=(9223372036854775807 - a0.IV)/\(9223372036854775807 - a0.IV)<=9223372036854775807 then (if x15.Ja>(9223372036854775807 - a0.IV) then (some (Lp.ret (-1))) else (if -9223372036854775808<=(-a0.IV)/\(-a0.IV)<=9223372036854775807 then (if x15.Ja<(-a0.IV) then (some (Lp.ret (-1))) else (if -9223372036854775808<=(a0.IV+x15.Ja)/\(a0.IV+x15.Ja)<=9223372036854775807 then (if (a0.IV+x15.Ja)>y5 then (if -9223372036854775808<=(a0.IV+x15.Ja)/\(a0.IV+x15.Ja)<=9223372036854775807 then (if -9223372036854775808<=((k6:Int)+1)/\((k6:Int)+1)<=9223372036854775807 then (fK a0 m10 y4 (a0.IV+x15.Ja) (k6+1)) else none) else none) else (if -9223372036854775808<=((k6:Int)+1)/\((k6:Int)+1)<=9223372036854775807 then (fK a0 m10 y4 y5 (k6+1)) else none)) else none)) else none)) else none) else (some (Lp.go (y4,y5,k6)))
def sE (a0:Bat):Option (Int):=(fK a0 (((a0.IG.length:Int)).toNat+1) 0 a0.IV 0).bind fun e=>match e with | .ret r=>some r | .go (y30,y31,k32)=>some y31
def dx (a0:Bat):Nat->Int->Nat->Option (Lp Int (Int×Nat))
 | 0,_,_=>none
 | m9+1,y4,k5=>if (k5:Int)<(a0.IG.length:Int) then ((a0.IG[k5]?).bind fun x14=>if x14.IZ>a0.I7 then some (Lp.ret 13) else (if (k5:Int)>0 then (if -9223372036854775808<=((k5:Int) - 1)/\((k5:Int) - 1)<=9223372036854775807 then (if 0<=((k5:Int) - 1) then ((a0.IG[((k5:Int) - 1).toNat]?).bind fun x24=>if x14.IZ<=x24.IZ then some (Lp.ret 13) else (if x14.IZ<0 then some (Lp.ret 13) else (if -9223372036854775808<=(9223372036854775807 - a0.IV)/\(9223372036854775807 - a0.IV)<=9223372036854775807 then (if x14.Ja>(9223372036854775807 - a0.IV) then some (Lp.ret 11) else (if -9223372036854775808<=(-a0.IV)/\(-a0.IV)<=9223372036854775807 then (if x14.Ja<(-a0.IV) then some (Lp.ret 11) else (if -9223372036854775808<=((k5:Int)+1)/\((k5:Int)+1)<=9223372036854775807 then (dx a0 m9 y4 (k5+1)) else none)) else none)) else none))) else none) else none) else (if x14.IZ<0 then some (Lp.ret 13) else (if -9223372036854775808<=(9223372036854775807 - a0.IV)/\(9223372036854775807 - a0.IV)<=9223372036854775807 then (if x14.Ja>(9223372036854775807 - a0.IV) then some (Lp.ret 11) else (if -9223372036854775808<=(-a0.IV)/\(-a0.IV)<=9223372036854775807 then (if x14.Ja<(-a0.IV) then some (Lp.ret 11) else (if -9223372036854775808<=((k5:Int)+1)/\((k5:Int)+1)<=9223372036854775807 then (dx a0 m9 y4 (k5+1)) else none)) else none)) else none)))) else (some (Lp.go (y4,k5)))
def g8 (a0:Bat):Option (Int):=(dx a0 (((a0.IG.length:Int)).toNat+1) 0 0).bind fun e=>match e with | .ret r=>some r | .go (y47,k48)=>(if a0.Jg=true then some 0 else ((sE a0).bind fun x50=>if x50=a0.Je then some 0 else some 11))
def eU (a0:Bat):Nat->Int->Nat->Option (Lp Int (Int×Nat))
 | 0,_,_=>none
 | m26+1,y21,k22=>if (k22:Int)<(a0.IG.length:Int) then ((a0.IG[k22]?).bind fun x31=>(lH x31).bind fun x37=>if x37=0 then (if -9223372036854775808<=((k22:Int)+1)/\((k22:Int)+1)<=9223372036854775807 then (eU a0 m26 y21 (k22+1)) else none) else some (Lp.ret x37)) else (some (Lp.go (y21,k22)))
def iS (a0:Bat):Nat->Int->Nat->Option (Lp Int (Int×Nat))
 | 0,_,_=>none
 | m77+1,y72,k73=>if (k73:Int)<(a0.IG.length:Int) then ((a0.IG[k73]?).bind fun x82=>(lH x82).bind fun x88=>if x88=0 then (if -9223372036854775808<=((k73:Int)+1)/\((k73:Int)+1)<=9223372036854775807 then (iS a0 m77 y72 (k73+1)) else none) else some (Lp.ret x88)) else (some (Lp.go (y72,k73)))
def lJ (a0:Bat):Option (Int):=if a0.I9<0 then some 11 else ((iQ a0.I5 (-1)).bind fun x5=>if x5=true then ((iQ a0.I7 0).bind fun x8=>if x8=true then (if -9223372036854775808<=(9223372036854775807 - a0.I9)/\(9223372036854775807 - a0.I9)<=9223372036854775807 then (if a0.I7>(9223372036854775807 - a0.I9) then some 11 else (if a0.IV<0 then some 11 else (if a0.Je<0 then some 11 else (if a0.Jc=true then (if a0.Jf=true then ((iR a0).bind fun x17=>if x17=true then (if (a0.IG.length:Int)=1 then ((eU a0 (((a0.IG.length:Int)).toNat+1) 0 0).bind fun e=>match e with | .ret r=>some r | .go (y54,k55)=>((a0.IG[0]?).bind fun x56=>(jB x56).bind fun (x62,x63,x64)=>if x64=0 then ((g8 a0).bind fun x67=>some x67) else some x64)) else some 10) else some 11) else some 8) else ((iR a0).bind fun x69=>if x69=true then ((iS a0 (((a0.IG.length:Int)).toNat+1) 0 0).bind fun e=>match e with | .ret r=>some r | .go (y94,k95)=>((g8 a0).bind fun x96=>some x96)) else some 11))))) else none) else some 11) else some 11)
def eL (a0:Bat) (a1:Bat):Nat->Bool->Nat->Option (Lp Bool (Bool×Nat))
 | 0,_,_=>none
 | m38+1,y33,k34=>if (k34:Int)<(a0.IG.length:Int) then ((a0.IG[k34]?).bind fun x43=>(a1.IG[k34]?).bind fun x49=>(kZ x43 x49).bind fun x55=>if x55=true then (if -9223372036854775808<=((k34:Int)+1)/\((k34:Int)+1)<=9223372036854775807 then (eL a0 a1 m38 y33 (k34+1)) else none) else some (Lp.ret false)) else (some (Lp.go (y33,k34)))
def lc (a0:Bat) (a1:Bat):Option (Bool):=(if a0.I9=a1.I9 then (if a0.I5=a1.I5 then (if (a0.Jg == a1.Jg)=true then (if (a0.Jf == a1.Jf)=true then (if (a0.Jc == a1.Jc)=true then (if a0.I7=a1.I7 then (if a0.IV=a1.IV then (if a0.Je=a1.Je then (if a0.ID=a1.ID then (if a0.IF=a1.IF then (if a0.IX=a1.IX then (if (a0.IG.length:Int)=(a1.IG.length:Int) then some false else some true) else some true) else some true) else some true) else some true) else some true) else some true) else some true) else some true) else some true) else some true) else some true).bind fun y18=>if y18=true then some false else ((eL a0 a1 (((a0.IG.length:Int)).toNat+1) false 0).bind fun e=>match e with | .ret r=>some r | .go (y59,k60)=>some true)
theorem s9 (a0:Bat) (A1:Option Addr) (c2:Nat) (a1:Bat) (A3:Option Addr) (c4:Nat) (r:Bool) (h:lc a0 a1=some r):aC Tryz.prog 167 #[.agg (wA0 a0 A1 c2),.agg (wA0 a1 A3 c4)] (RX.and (RX.of (ai 7 dK) [.slice A1 a0.IG.length c2] a0.IG) (RX.of (ai 7 dK) [.slice A3 a1.IG.length c4] a1.IG)) (aO) (fun v A' N=>v= .bool r/\A'=aO/\N = []):=by
 refine aU Tryz.func167 Z Tryz.ntmps167 Z ?_;intro F w hX;unfold lc at h;refine Gq Z (TL.box Z .u Z Z (fun b5=>(TL.box Z .u Z Z (fun b6=>(Gx ah Z (Ig ?_))))));obtain⟨y18,h,hk19⟩:=Jn h;refine Hj (fun e Rs=>e = [(2,jP b5),(3,jP b6),(4,.bool false),(89,.bool y18)]/\Rs = [aN b6 97 (wA0 a1 A3 c4),aN b5 97 (wA0 a0 A1 c2),aO]) ?_ ?_
 ·clear hk19;refine T.region Z (Gt ah aF 1 Z 3 Z Z ?_);rcases jF h with⟨c20,h⟩ | ⟨c20,h⟩
  ·refine Gt ah aF 0 Z 3 Z Z (GA 11 Z (bd (Jq c20)) (Gt ah aF 1 Z 3 Z Z ?_));rcases jF h with⟨c21,h⟩ | ⟨c21,h⟩
   ·refine Gt ah aF 0 Z 4 Z Z (GA 18 Z (bd (Jq c21)) (Gt ah aF 1 Z 3 Z Z (Gt ah aF 0 Z 1 Z Z (TL.q Z (.g Z Z Z) (HM Z Z Z Z JR) Z ?_))));rcases jF h with⟨c22,h⟩ | ⟨c22,h⟩
    ·refine GB ah 2 Z (GA 25 Z (bd c22) (Gt ah aF 1 Z 3 Z Z (Gt ah aF 0 Z 1 Z Z (TL.q Z (.g Z Z Z) (HM Z Z Z Z JR) Z ?_))));rcases jF h with⟨c23,h⟩ | ⟨c23,h⟩
     ·refine GB ah 2 Z (GA 32 Z (bd c23) (Gt ah aF 1 Z 3 Z Z (Gt ah aF 0 Z 1 Z Z (TL.q Z (.g Z Z Z) (HM Z Z Z Z JR) Z ?_))));rcases jF h with⟨c24,h⟩ | ⟨c24,h⟩
      ·refine GB ah 2 Z (GA 39 Z (bd c24) (Gt ah aF 1 Z 3 Z Z ?_));rcases jF h with⟨c25,h⟩ | ⟨c25,h⟩
       ·refine Gt ah aF 0 Z 4 Z Z (GA 46 Z (bd (Jq c25)) (Gt ah aF 1 Z 3 Z Z ?_));rcases jF h with⟨c26,h⟩ | ⟨c26,h⟩
        ·refine Gt ah aF 0 Z 4 Z Z (GA 53 Z (bd (Jq c26)) (Gt ah aF 1 Z 3 Z Z ?_));rcases jF h with⟨c27,h⟩ | ⟨c27,h⟩
         ·refine Gt ah aF 0 Z 4 Z Z (GA 60 Z (bd (Jq c27)) (Gt ah aF 1 Z 3 Z Z ?_));rcases jF h with⟨c28,h⟩ | ⟨c28,h⟩
          ·refine Gt ah aF 0 Z 4 Z Z (GA 67 Z (bd (Jq c28)) (Gt ah aF 1 Z 3 Z Z ?_));rcases jF h with⟨c29,h⟩ | ⟨c29,h⟩
           ·refine Gt ah aF 0 Z 4 Z Z (GA 74 Z (bd (Jq c29)) (Gt ah aF 1 Z 3 Z Z ?_));rcases jF h with⟨c30,h⟩ | ⟨c30,h⟩
            ·refine Gt ah aF 0 Z 4 Z Z (GA 81 Z (bd (Jq c30)) (Gt ah aF 1 Z 2 Z Z (TL.q Z (.g Z Z Z) (GK Z JV) Z (Gt ah aF 0 Z 2 Z Z (TL.q Z (.g Z Z Z) (GK Z JV) Z (GB ah 2 Z ?_))))));rcases jF h with⟨c31,h⟩ | ⟨c31,h⟩
             ·cases h;exact TL.nil (Hn (d:=89) (v':= .bool false) Z (congrArg Value.bool (bd (Jq c31))) (GE [0,0,0]))
             cases h;exact TL.nil (Hn (d:=89) (v':= .bool true) Z (congrArg Value.bool (bM (Jr c31))) (GE [0,0,0]))
            refine Gt ah aF 0 Z 4 Z Z (GA 81 Z (bM (Jr c30)) (GB ah 8 Z ?_));cases h;exact TL.nil (GE [0,0,0])
           refine Gt ah aF 0 Z 4 Z Z (GA 74 Z (bM (Jr c29)) (GB ah 15 Z ?_));cases h;exact TL.nil (GE [0,0,0])
          refine Gt ah aF 0 Z 4 Z Z (GA 67 Z (bM (Jr c28)) (GB ah 22 Z ?_));cases h;exact TL.nil (GE [0,0,0])
         refine Gt ah aF 0 Z 4 Z Z (GA 60 Z (bM (Jr c27)) (GB ah 29 Z ?_));cases h;exact TL.nil (GE [0,0,0])
        refine Gt ah aF 0 Z 4 Z Z (GA 53 Z (bM (Jr c26)) (GB ah 36 Z ?_));cases h;exact TL.nil (GE [0,0,0])
       refine Gt ah aF 0 Z 4 Z Z (GA 46 Z (bM (Jr c25)) (GB ah 43 Z ?_));cases h;exact TL.nil (GE [0,0,0])
      replace c24:=Ju c24;refine GB ah 2 Z (GA 39 Z (bM c24) (GB ah 50 Z ?_));cases h;exact TL.nil (GE [0,0,0])
     replace c23:=Ju c23;refine GB ah 2 Z (GA 32 Z (bM c23) (GB ah 57 Z ?_));cases h;exact TL.nil (GE [0,0,0])
    replace c22:=Ju c22;refine GB ah 2 Z (GA 25 Z (bM c22) (GB ah 64 Z ?_));cases h;exact TL.nil (GE [0,0,0])
   refine Gt ah aF 0 Z 4 Z Z (GA 18 Z (bM (Jr c21)) (GB ah 71 Z ?_));cases h;exact TL.nil (GE [0,0,0])
  refine Gt ah aF 0 Z 3 Z Z (GA 11 Z (bM (Jr c20)) (GB ah 78 Z ?_));cases h;exact TL.nil (GE [0,0,0])
 rintro _ _ ⟨rfl,rfl⟩;clear h;have h:=hk19;clear hk19;try dsimp only at h
 rcases jF h with⟨c32,h⟩ | ⟨c32,h⟩
 ·refine X.seq (GF Z c32 (Gq Z (Gp ah 1 Z ?_)));obtain rfl:=Jp h;exact Gs (T.ret (Gv (GD [2] Tryz.results167 (Gu Z))))
 replace c32:=Ju c32;refine X.seq (GU Z c32 (GQ (T.seq (Gq Z (Gx ah Z (T.block ?_))))));obtain⟨E35,hE36,hO37⟩:=Jn h;refine Hl (fun m e Rs=> ∃ (y33:Bool) (k34:Nat),e = [(2,jP b5),(3,jP b6),(4,.bool y33),(5,jI (k34:Int))]/\Rs = [aN b6 97 (wA0 a1 A3 c4),aN b5 97 (wA0 a0 A1 c2),aO]/\eL a0 a1 m y33 k34=some E35) (((a0.IG.length:Int)).toNat+1) [0,0,0] ⟨false,0,Z,Z,by exact hE36⟩ Mf Mf ?_;clear hE36 h;rintro m38 _ _ ⟨y33,k34,rfl,rfl,h⟩
 cases m38 with
 | zero =>
  rw[eL] at h;cases h
 | succ m38 =>
  rw[eL] at h;refine T.seq (Gq Z (Gt ah aF 1 Z 3 Z Z (Gr Z (GK Z JV) Z (Gp ah 1 Z ?_))));rcases jF h with⟨c42,h⟩ | ⟨c42,h⟩
  ·refine Hg Z c42 ?_;refine GQ (T.seq (T.block (T.seq (G6 (.q 0 (.q 1 (.q 2 (.q 3 (.q 4 (.q 5 (.q 6 (.q 7 (.q 8 (.q 9 (.e 10 (.q 11 .nil)))))))))))) [0,0,0] Z lI (NoP.seq (NoP.blk (NoP.seq (NoP.seq (NoP.blk (NoP.seq bA)))))) Me ?_))));refine TD.run ah [0] Z Z (Gw Z (GM 1 Z LH Z Z) Z ?_);obtain⟨x43,hx44,h⟩:=Jn h;obtain⟨gz45,oz45,rfl,z45cs,z45cl,z45cc,z45nf,z45r⟩:=G4 Md (GR hX) hx44;obtain⟨z45S,z45r,z45rr⟩:=z45r;obtain⟨A46,c47,rfl,z45s0⟩:=z45r;have hX48:(RX.of (ai 3 ec) [.slice A46 x43.IR.length c47] x43.IR).reads w F:=⟨z45S,z45s0,z45rr⟩;refine TD.run ah [2] Z Z ?_;refine Gw Z (GS (k:=k34) Z Z Z JV JD (Jt hx44).1) Z ?_;refine Gw Z (Ho (us:=wL1 x43 A46 c47) 0 Z J3 JD z45nf z45cc Z Z Z) Z (TD.run ah [5] Z Z (Gw Z (GM 0 Z LH Z Z) Z ?_));obtain⟨x49,hx50,h⟩:=Jn h;obtain⟨gz51,oz51,rfl,z51cs,z51cl,z51cc,z51nf,z51r⟩:=G4 Md (Gz hX) hx50;obtain⟨z51S,z51r,z51rr⟩:=z51r;obtain⟨A52,c53,rfl,z51s0⟩:=z51r;have hX54:(RX.of (ai 3 ec) [.slice A52 x49.IR.length c53] x49.IR).reads w F:=⟨z51S,z51s0,z51rr⟩;refine TD.run ah [7] Z Z ?_;refine Gw Z (GS (k:=k34) Z Z Z JV JD (Jt hx50).1) Z ?_;refine Gw Z (Ho (us:=wL1 x49 A52 c53) 0 Z J3 JD z51nf z51cc Z Z Z) Z ?_;obtain⟨x55,hx56,h⟩:=Jn h;refine Ih Z .u (.fn Tryz.call209 Z) (s8 x43 _ _ x49 _ _ _ hx56) (fun _ hs=>(RX.reads_and (GJ hs hX48) (GJ hs hX54))) Z [0,0,0] (Z) (TD.run ah [11] Z Z ?_);rcases jF h with⟨c57,h⟩ | ⟨c57,h⟩
   ·refine Hp (GU Z (bd c57) (T.skip (GN (X.seq (T.region Z ?_)))));obtain⟨c58,h⟩:=aE h;exact Gp ah 1 Z (Gr Z (Ex.add Z Z c58) Z (Gp ah 1 Z (TL.nil (X.back (m':=m38) [0,0,0] Mc ⟨y33,k34+1,Z,Z,h⟩ Mf Mf))))
   replace c57:=Ju c57;refine Hp (GF Z (bM c57) (Gq Z (Gp ah 1 Z ?_)));obtain rfl:=Jp h;obtain rfl:=Jp hO37;exact Gs (T.ret (GI (Gv (Gv (GI (Gv (GD [2] Tryz.results167 (Gu Z))))))))
  refine Hh Z c42 ?_;obtain rfl:=Jp h;replace h:=hO37;clear hO37;refine T.exit (GL (GL (Hi (X.seq (Gq Z (Gp ah 1 Z ?_))))));obtain rfl:=Jp h;exact Gs (T.ret (GD [2] Tryz.results167 (Gu Z)))
def eM (a0:List Bat) (a1:List Bat):Nat->Bool->Nat->Option (Lp Bool (Bool×Nat))
 | 0,_,_=>none
 | m11+1,y6,k7=>if (k7:Int)<(a0.length:Int) then ((a0[k7]?).bind fun x16=>(a1[k7]?).bind fun x22=>(lc x16 x22).bind fun x28=>if x28=true then (if -9223372036854775808<=((k7:Int)+1)/\((k7:Int)+1)<=9223372036854775807 then (eM a0 a1 m11 y6 (k7+1)) else none) else some (Lp.ret false)) else (some (Lp.go (y6,k7)))
def jC (a0:List Bat) (a1:List Bat):Option (Bool):=if (a0.length:Int)=(a1.length:Int) then ((eM a0 a1 (((a0.length:Int)).toNat+1) false 0).bind fun e=>match e with | .ret r=>some r | .go (y32,k33)=>some true) else some false
theorem ta (a0:List Bat) (A1:Option Addr) (c2:Nat) (a1:List Bat) (A3:Option Addr) (c4:Nat) (r:Bool) (h:jC a0 a1=some r):aC Tryz.prog 114 #[.slice A1 a0.length c2,.slice A3 a1.length c4] (RX.and (RX.of (ai 12 dY) [.slice A1 a0.length c2] a0) (RX.of (ai 12 dY) [.slice A3 a1.length c4] a1)) (aO) (fun v A' N=>v= .bool r/\A'=aO/\N = []):=by
 refine aU Tryz.func114 Z Tryz.ntmps114 Z ?_;intro F w hX;unfold jC at h;refine Gq Z (Gx ah Z (T.seq (Gq Z (Gp ah 1 Z (Gr Z (GK Z J7) Z (Gp ah 1 Z (Gr Z (GK Z J7) Z (Gp ah 1 Z ?_))))))));rcases jF h with⟨c5,h⟩ | ⟨c5,h⟩
 ·refine GY Z c5 (GQ (T.seq (Gq Z (Gx ah Z (T.block ?_)))));obtain⟨E8,hE9,hO10⟩:=Jn h;refine Hl (fun m e Rs=> ∃ (y6:Bool) (k7:Nat),e = [(0,.slice A1 a0.length c2),(1,.slice A3 a1.length c4),(4,.bool y6),(5,jI (k7:Int))]/\Rs = [aO]/\eM a0 a1 m y6 k7=some E8) (((a0.length:Int)).toNat+1) [0] ⟨false,0,Z,Z,by exact hE9⟩ Mf Mf ?_;clear hE9 h;rintro m11 _ _ ⟨y6,k7,rfl,rfl,h⟩
  cases m11 with
  | zero =>
   rw[eM] at h;cases h
  | succ m11 =>
   rw[eM] at h;refine T.seq (Gq Z (Gp ah 2 Z (Gr Z (GK Z J7) Z (Gp ah 1 Z ?_))));rcases jF h with⟨c15,h⟩ | ⟨c15,h⟩
   ·refine Hg Z c15 ?_;refine GQ (T.seq (T.block (T.seq (G6 (.q 0 (.q 1 (.q 2 (.q 3 (.q 4 (.q 5 (.q 6 (.q 7 (.e 8 (.q 9 .nil)))))))))) [0] Z lI (NoP.seq (NoP.blk (NoP.seq (NoP.seq (NoP.blk (NoP.seq bA)))))) Me ?_))));obtain⟨x16,hx17,h⟩:=Jn h;obtain⟨gz18,oz18,rfl,z18cs,z18cl,z18cc,z18nf,z18r⟩:=G4 Md (GR hX) hx17;obtain⟨z18S,z18r,z18rr⟩:=z18r;obtain⟨A19,c20,rfl,z18s0⟩:=z18r;have hX21:(RX.of (ai 7 dK) [.slice A19 x16.IG.length c20] x16.IG).reads w F:=⟨z18S,z18s0,z18rr⟩;refine TD.run ah [0,1] Z Z ?_;refine Gw Z (GS (k:=k7) Z Z Z J7 JF (Jt hx17).1) Z ?_;refine Gw Z (Ho (us:=wL5 x16 A19 c20) 0 Z J9 JF z18nf z18cc Z Z Z) Z ?_;obtain⟨x22,hx23,h⟩:=Jn h;obtain⟨gz24,oz24,rfl,z24cs,z24cl,z24cc,z24nf,z24r⟩:=G4 Md (Gz hX) hx23;obtain⟨z24S,z24r,z24rr⟩:=z24r;obtain⟨A25,c26,rfl,z24s0⟩:=z24r;have hX27:(RX.of (ai 7 dK) [.slice A25 x22.IG.length c26] x22.IG).reads w F:=⟨z24S,z24s0,z24rr⟩;refine TD.run ah [4,5] Z Z ?_;refine Gw Z (GS (k:=k7) Z Z Z J7 JF (Jt hx23).1) Z ?_;refine Gw Z (Ho (us:=wL5 x22 A25 c26) 0 Z J9 JF z24nf z24cc Z Z Z) Z ?_;obtain⟨x28,hx29,h⟩:=Jn h;refine Ih Z .u (.fn Tryz.call167 Z) (s9 x16 _ _ x22 _ _ _ hx29) (fun _ hs=>(RX.reads_and (GJ hs hX21) (GJ hs hX27))) Z [0] (Z) (TD.run ah [9] Z Z ?_);rcases jF h with⟨c30,h⟩ | ⟨c30,h⟩
    ·refine Hp (GU Z (bd c30) (T.skip (GN (X.seq (T.region Z ?_)))));obtain⟨c31,h⟩:=aE h;exact Gp ah 1 Z (Gr Z (Ex.add Z Z c31) Z (Gp ah 1 Z (TL.nil (X.back (m':=m11) [0] Mc ⟨y6,k7+1,Z,Z,h⟩ Mf Mf))))
    replace c30:=Ju c30;refine Hp (GF Z (bM c30) (Gq Z (Gp ah 1 Z ?_)));obtain rfl:=Jp h;obtain rfl:=Jp hO10;exact Gs (T.ret (GI (Gv (Gv (GI (Gv (GD [0] Tryz.results114 (Gu Z))))))))
   refine Hh Z c15 ?_;obtain rfl:=Jp h;replace h:=hO10;clear hO10;refine T.exit (GL (GL (Hi (X.seq (Gq Z (Gp ah 1 Z ?_))))));obtain rfl:=Jp h;exact Gs (T.ret (GD [0] Tryz.results114 (Gu Z)))
 refine GX Z c5 (Gq Z (Gp ah 1 Z ?_));obtain rfl:=Jp h;exact Gs (T.ret (Gv (GD [0] Tryz.results114 (Gu Z))))
def rK:ey := []
theorem bq:(rK).OK Tryz.prog:=trivial
theorem qq:Tryz.prog.follows .mixedOrders=true:=by kernel_rfl
def eN (a0:List Int) (a1:List Int):Nat->Bool->Nat->Option (Lp Bool (Bool×Nat))
 | 0,_,_=>none
 | m11+1,y6,k7=>if (k7:Int)<(a0.length:Int) then ((a0[k7]?).bind fun x16=>(a1[k7]?).bind fun x19=>if x16=x19 then (if -9223372036854775808<=((k7:Int)+1)/\((k7:Int)+1)<=9223372036854775807 then (eN a0 a1 m11 y6 (k7+1)) else none) else some (Lp.ret false)) else (some (Lp.go (y6,k7)))
def ld (a0:List Int) (a1:List Int):Option (Bool):=if (a0.length:Int)=(a1.length:Int) then ((eN a0 a1 (((a0.length:Int)).toNat+1) false 0).bind fun e=>match e with | .ret r=>some r | .go (y24,k25)=>some true) else some false
theorem tb (a0:List Int) (A1:Option Addr) (c2:Nat) (a1:List Int) (A3:Option Addr) (c4:Nat) (r:Bool) (h:ld a0 a1=some r):aC Tryz.prog 166 #[.slice A1 a0.length c2,.slice A3 a1.length c4] (RX.and (RX.of (ai 1 mH) [.slice A1 a0.length c2] a0) (RX.of (ai 1 mH) [.slice A3 a1.length c4] a1)) (aO) (fun v A' N=>v= .bool r/\A'=aO/\N = []):=by
 refine aU Tryz.func166 Z Tryz.ntmps166 Z ?_;intro F w hX;unfold ld at h;refine Gq Z (Gx bq Z (T.seq (Gq Z (Gp bq 1 Z (Gr Z (GK Z J5) Z (Gp bq 1 Z (Gr Z (GK Z J5) Z (Gp bq 1 Z ?_))))))));rcases jF h with⟨c5,h⟩ | ⟨c5,h⟩
 ·refine GY Z c5 (GQ (T.seq (Gq Z (Gx bq Z (T.block ?_)))));obtain⟨E8,hE9,hO10⟩:=Jn h;refine Hl (fun m e Rs=> ∃ (y6:Bool) (k7:Nat),e = [(0,.slice A1 a0.length c2),(1,.slice A3 a1.length c4),(4,.bool y6),(5,jI (k7:Int))]/\Rs = [aO]/\eN a0 a1 m y6 k7=some E8) (((a0.length:Int)).toNat+1) [0] ⟨false,0,Z,Z,by exact hE9⟩ Mf Mf ?_;clear hE9 h;rintro m11 _ _ ⟨y6,k7,rfl,rfl,h⟩
  cases m11 with
  | zero =>
   rw[eN] at h;cases h
  | succ m11 =>
   rw[eN] at h;refine T.seq (Gq Z (Gp bq 2 Z (Gr Z (GK Z J5) Z (Gp bq 1 Z ?_))));rcases jF h with⟨c15,h⟩ | ⟨c15,h⟩
   ·refine Hg Z c15 ?_;refine GQ (T.seq (T.block (T.seq (G6 (.q 0 (.q 1 (.q 2 (.q 3 (.q 4 (.q 5 (.q 6 (.q 7 (.q 8 .nil))))))))) [0] Z qq (NoP.seq (NoP.blk (NoP.seq (NoP.seq (NoP.blk (NoP.seq bA)))))) Me ?_))));obtain⟨x16,hx17,h⟩:=Jn h;obtain⟨gz18,oz18,rfl,z18cs,z18cl,z18cc,z18nf,z18r⟩:=G4 Md (GR hX) hx17;obtain⟨z18S,z18r,z18rr⟩:=z18r;obtain rfl:z18cs = [jI x16]:=z18r;refine TD.run bq [0,1] Z Z ?_;refine Gw Z (GS (k:=k7) Z Z Z J5 Jv (Jt hx17).1) Z ?_;refine Gw Z (Hr 0 Z Jy z18nf z18cc Z Z) Z ?_;obtain⟨x19,hx20,h⟩:=Jn h;obtain⟨gz21,oz21,rfl,z21cs,z21cl,z21cc,z21nf,z21r⟩:=G4 Md (Gz hX) hx20;obtain⟨z21S,z21r,z21rr⟩:=z21r;obtain rfl:z21cs = [jI x19]:=z21r;refine TD.run bq [4,5] Z Z ?_;refine Gw Z (GS (k:=k7) Z Z Z J5 Jv (Jt hx20).1) Z ?_;refine Gw Z (Hr 0 Z Jy z21nf z21cc Z Z) Z (TD.run bq [8] Z Z ?_);rcases jF h with⟨c22,h⟩ | ⟨c22,h⟩
    ·refine Hp (T.nn Z c22 (T.skip (GN (X.seq (T.region Z ?_)))));obtain⟨c23,h⟩:=aE h;exact Gp bq 1 Z (Gr Z (Ex.add Z Z c23) Z (Gp bq 1 Z (TL.nil (X.back (m':=m11) [0] Mc ⟨y6,k7+1,Z,Z,h⟩ Mf Mf))))
    refine Hp (T.yn Z c22 (Gq Z (Gp bq 1 Z ?_)));obtain rfl:=Jp h;obtain rfl:=Jp hO10;exact Gs (T.ret (GI (Gv (Gv (GI (Gv (GD [0] Tryz.results166 (Gu Z))))))))
   refine Hh Z c15 ?_;obtain rfl:=Jp h;replace h:=hO10;clear hO10;refine T.exit (GL (GL (Hi (X.seq (Gq Z (Gp bq 1 Z ?_))))));obtain rfl:=Jp h;exact Gs (T.ret (GD [0] Tryz.results166 (Gu Z)))
 refine GX Z c5 (Gq Z (Gp bq 1 Z ?_));obtain rfl:=Jp h;exact Gs (T.ret (Gv (GD [0] Tryz.results166 (Gu Z))))
def rL:ey := [(23,0,0),(23,1,1),(171,0,0),(171,1,1),(212,0,0),(212,1,2),(212,2,3)]
theorem aQ:(rL).OK Tryz.prog:=⟨FOK.mk JT rfl JW rfl,FOK.mk JT rfl JO rfl,FOK.mk KC rfl JO rfl,FOK.mk KC rfl Ld rfl,FOK.mk J8 rfl JB rfl,FOK.mk J8 rfl Jv rfl,FOK.mk J8 rfl Jv rfl,trivial⟩
theorem qr:Tryz.prog.follows .mixedOrders=true:=by kernel_rfl
def cL (a0:List Top) (a1:List Top):Nat->Bool->Nat->Option (Lp Bool (Bool×Nat))
 | 0,_,_=>none
 | m11+1,y6,k7=>if (k7:Int)<(a0.length:Int) then ((a0[k7]?).bind fun x16=>(a1[k7]?).bind fun x22=>if x16.IW=x22.IW then ((ld x16.IH x22.IH).bind fun x29=>if x29=true then (if -9223372036854775808<=((k7:Int)+1)/\((k7:Int)+1)<=9223372036854775807 then (cL a0 a1 m11 y6 (k7+1)) else none) else some (Lp.ret false)) else some (Lp.ret false)) else (some (Lp.go (y6,k7)))
def cI (a0:List Top) (a1:List Top):Option (Bool):=if (a0.length:Int)=(a1.length:Int) then ((cL a0 a1 (((a0.length:Int)).toNat+1) false 0).bind fun e=>match e with | .ret r=>some r | .go (y33,k34)=>some true) else some false
theorem e6 (a0:List Top) (A1:Option Addr) (c2:Nat) (a1:List Top) (A3:Option Addr) (c4:Nat) (r:Bool) (h:cI a0 a1=some r):aC Tryz.prog 113 #[.slice A1 a0.length c2,.slice A3 a1.length c4] (RX.and (RX.of (ai 2 aZ) [.slice A1 a0.length c2] a0) (RX.of (ai 2 aZ) [.slice A3 a1.length c4] a1)) (aO) (fun v A' N=>v= .bool r/\A'=aO/\N = []):=by
 refine aU Tryz.func113 Z Tryz.ntmps113 Z ?_;intro F w hX;unfold cI at h;refine Gq Z (Gx aQ Z (T.seq (Gq Z (Gp aQ 1 Z (Gr Z (GK Z J0) Z (Gp aQ 1 Z (Gr Z (GK Z J0) Z (Gp aQ 1 Z ?_))))))));rcases jF h with⟨c5,h⟩ | ⟨c5,h⟩
 ·refine GY Z c5 (GQ (T.seq (Gq Z (Gx aQ Z (T.block ?_)))));obtain⟨E8,hE9,hO10⟩:=Jn h;refine Hl (fun m e Rs=> ∃ (y6:Bool) (k7:Nat),e = [(0,.slice A1 a0.length c2),(1,.slice A3 a1.length c4),(4,.bool y6),(5,jI (k7:Int))]/\Rs = [aO]/\cL a0 a1 m y6 k7=some E8) (((a0.length:Int)).toNat+1) [0] ⟨false,0,Z,Z,by exact hE9⟩ Mf Mf ?_;clear hE9 h;rintro m11 _ _ ⟨y6,k7,rfl,rfl,h⟩
  cases m11 with
  | zero =>
   rw[cL] at h;cases h
  | succ m11 =>
   rw[cL] at h;refine T.seq (Gq Z (Gp aQ 2 Z (Gr Z (GK Z J0) Z (Gp aQ 1 Z ?_))));rcases jF h with⟨c15,h⟩ | ⟨c15,h⟩
   ·refine Hg Z c15 ?_;refine GQ (T.seq (T.block (T.seq (G6 (.q 0 (.q 1 (.q 2 (.q 3 (.q 4 (.q 5 (.q 6 (.q 7 (.q 8 (.q 9 (.q 10 (.q 11 (.q 12 (.q 13 (.q 14 (.q 15 (.q 16 (.q 17 (.q 18 (.q 19 (.q 20 (.q 21 (.e 22 (.q 23 (.q 24 .nil))))))))))))))))))))))))) [0] Z qr (NoP.seq (NoP.blk (NoP.seq (NoP.seq (NoP.blk (NoP.seq bA)))))) Me ?_))));obtain⟨x16,hx17,h⟩:=Jn h;obtain⟨gz18,oz18,rfl,z18cs,z18cl,z18cc,z18nf,z18r⟩:=G4 Md (GR hX) hx17;obtain⟨z18S,z18r,z18rr⟩:=z18r;obtain⟨A19,c20,rfl,z18s0⟩:=z18r;have hX21:(RX.of (ai 1 mH) [.slice A19 x16.IH.length c20] x16.IH).reads w F:=⟨z18S,z18s0,z18rr⟩;refine TD.run aQ [0,1] Z Z ?_;refine Gw Z (GS (k:=k7) Z Z Z J0 Ko (Jt hx17).1) Z ?_;refine TD.run aQ [3] Z Z (Gw Z (Hr 0 Z JZ z18nf z18cc Z Z) Z ?_);obtain⟨x22,hx23,h⟩:=Jn h;obtain⟨gz24,oz24,rfl,z24cs,z24cl,z24cc,z24nf,z24r⟩:=G4 Md (Gz hX) hx23;obtain⟨z24S,z24r,z24rr⟩:=z24r;obtain⟨A25,c26,rfl,z24s0⟩:=z24r;have hX27:(RX.of (ai 1 mH) [.slice A25 x22.IH.length c26] x22.IH).reads w F:=⟨z24S,z24s0,z24rr⟩;refine TD.run aQ [5,6] Z Z ?_;refine Gw Z (GS (k:=k7) Z Z Z J0 Ko (Jt hx23).1) Z ?_;refine TD.run aQ [8] Z Z (Gw Z (Hr 0 Z JZ z24nf z24cc Z Z) Z (Gw Z (Ex.sNe Z Z) Z ?_));rcases jF h with⟨c28,h⟩ | ⟨c28,h⟩
    ·refine TD.run aQ [11] Z Z ?_;iterate 2 refine TD.q Z (.g Z Z (bd (Jq c28))) (G7 aQ Z) Z ?_
     refine TD.q Z (.g Z Z (bd (Jq c28))) (GS (k:=k7) Z Z Z J0 Ko (Jt hx17).1) Z ?_;refine TD.q Z (.g Z Z (bd (Jq c28))) (G7 aQ Z) Z (TD.q Z (.g Z Z (bd (Jq c28))) (Hr 1 Z Lk z18nf z18cc Z Z) Z ?_);iterate 2 refine TD.q Z (.g Z Z (bd (Jq c28))) (G7 aQ Z) Z ?_
     refine TD.q Z (.g Z Z (bd (Jq c28))) (GS (k:=k7) Z Z Z J0 Ko (Jt hx23).1) Z ?_;refine TD.q Z (.g Z Z (bd (Jq c28))) (G7 aQ Z) Z (TD.q Z (.g Z Z (bd (Jq c28))) (Hr 1 Z Lk z24nf z24cc Z Z) Z ?_);obtain⟨x29,hx30,h⟩:=Jn h;refine Ih Z (.g Z Z (bd (Jq c28))) (.fn Tryz.call166 Z) (tb x16.IH _ _ x22.IH _ _ _ hx30) (fun _ hs=>(RX.reads_and (GJ hs hX21) (GJ hs hX27))) Z [0] (Z) (TD.q Z (.g Z Z (bd (Jq c28))) (G7 aQ Z) Z (Gw Z (Hq Z (bd (Jq c28)) Z) Z ?_));rcases jF h with⟨c31,h⟩ | ⟨c31,h⟩
     ·refine Hp (GU Z (bd c31) (T.skip (GN (X.seq (T.region Z ?_)))));obtain⟨c32,h⟩:=aE h;exact Gp aQ 1 Z (Gr Z (Ex.add Z Z c32) Z (Gp aQ 1 Z (TL.nil (X.back (m':=m11) [0] Mc ⟨y6,k7+1,Z,Z,h⟩ Mf Mf))))
     replace c31:=Ju c31;refine Hp (GF Z (bM c31) (Gq Z (Gp aQ 1 Z ?_)));obtain rfl:=Jp h;obtain rfl:=Jp hO10;exact Gs (T.ret (GI (Gv (Gv (GI (Gv (GD [0] LX (Gu Z))))))))
    refine TD.run aQ [11] Z Z ?_;iterate 10 refine He Z (.gn Z Z (bM (Jr c28))) Z ?_
    refine H5 Z (.gn Z Z (bM (Jr c28))) Z [0] Z (He Z (.gn Z Z (bM (Jr c28))) Z (Gw Z (Hy Z (bM (Jr c28)) Z) Z (Hp (GF Z Z (Gq Z (Gp aQ 1 Z ?_))))));obtain rfl:=Jp h;obtain rfl:=Jp hO10;exact Gs (T.ret (GI (Gv (Gv (GI (Gv (GD [0] LX (Gu Z))))))))
   refine Hh Z c15 ?_;obtain rfl:=Jp h;replace h:=hO10;clear hO10;refine T.exit (GL (GL (Hi (X.seq (Gq Z (Gp aQ 1 Z ?_))))));obtain rfl:=Jp h;exact Gs (T.ret (GD [0] LX (Gu Z)))
 refine GX Z c5 (Gq Z (Gp aQ 1 Z ?_));obtain rfl:=Jp h;exact Gs (T.ret (Gv (GD [0] LX (Gu Z))))
def rM:ey := [(23,0,0),(23,1,1),(51,0,0),(51,1,2),(51,2,3),(51,3,4),(97,3,3),(97,4,4),(171,1,1),(191,0,0),(191,1,1),(193,0,0),(193,1,1),(212,0,0),(212,1,2),(212,2,3),(268,0,0),(268,1,12),(268,2,13)]
theorem an:(rM).OK Tryz.prog:=⟨FOK.mk JT rfl JW rfl,FOK.mk JT rfl JO rfl,FOK.mk K0 rfl JB rfl,FOK.mk K0 rfl Jv rfl,FOK.mk K0 rfl Jv rfl,FOK.mk K0 rfl Tryz.sizeOf49 rfl,FOK.mk JH rfl JW rfl,FOK.mk JH rfl JW rfl,FOK.mk KC rfl Ld rfl,FOK.mk Ln rfl JO rfl,FOK.mk Ln rfl Tryz.sizeOf189 rfl,FOK.mk Tryz.runUnderlying193 rfl Jv rfl,FOK.mk Tryz.runUnderlying193 rfl Lm rfl,FOK.mk J8 rfl JB rfl,FOK.mk J8 rfl Jv rfl,FOK.mk J8 rfl Jv rfl,FOK.mk LS rfl JF rfl,FOK.mk LS rfl Jv rfl,FOK.mk LS rfl Jv rfl,trivial⟩
def rN:List Nat := [3,4,9,49,177,189]
theorem bj:NOK Tryz.prog rN:=⟨Jy,Ky,JZ,Tryz.isAgg49,Lb,Lw,trivial⟩
theorem qt:Tryz.prog.follows .mixedOrders=true:=by kernel_rfl
theorem gw:gv Tryz.prog 2 23 [.bool,.string] true:=(gv.struct JY JB rfl Tryz.underlying23 Tryz.stoodInHeld23 ⟨by decide,rfl,[.bool],[.string],false,rfl,(HJ Ky JW Tryz.underlying4),⟨by decide,rfl,[.string],[],false,rfl,(HJ JZ JO Tryz.underlying9),rfl⟩⟩)
def eg (x29:fI) (x36:fI):Nat->Bool->Nat->Option (Lp Bool (Bool×Nat))
 | 0,_,_=>none
 | m54+1,y49,k50=>if (k50:Int)<(x29.IH.length:Int) then (((x29.IH[k50]?).bind fun x76=>(x36.IH[k50]?).bind fun x82=>if x76.I8=x82.I8 then ((jC x76.IM x82.IM).bind fun x89=>if x89=true then some false else some true) else some true).bind fun y74=>if y74=true then some (Lp.ret false) else (if -9223372036854775808<=((k50:Int)+1)/\((k50:Int)+1)<=9223372036854775807 then (eg x29 x36 m54 y49 (k50+1)) else none)) else (some (Lp.go (y49,k50)))
def eh (a0:cj) (a1:cj):Nat->Bool->Nat->Option (Lp Bool (Bool×Nat))
 | 0,_,_=>none
 | m24+1,y19,k20=>if (k20:Int)<(a0.IC.length:Int) then ((a0.IC[k20]?).bind fun x29=>(a1.IC[k20]?).bind fun x36=>(if x29.IW=x36.IW then (if (x29.IH.length:Int)=(x36.IH.length:Int) then some false else some true) else some true).bind fun y44=>if y44=true then some (Lp.ret false) else ((eg x29 x36 (((x29.IH.length:Int)).toNat+1) y19 0).bind fun e=>match e with | .ret r=>some (Lp.ret r) | .go (y95,k96)=>(if -9223372036854775808<=((k20:Int)+1)/\((k20:Int)+1)<=9223372036854775807 then (eh a0 a1 m24 y95 (k20+1)) else none))) else (some (Lp.go (y19,k20)))
theorem tc (a0:cj) (a1:cj) (u1:Bool) (u2:Nat):eh a0 a1 0 u1 u2=none:=rfl
theorem td (a0:cj) (a1:cj) (m24:Nat) (y19:Bool) (k20:Nat):eh a0 a1 (m24+1) y19 k20=(if (k20:Int)<(a0.IC.length:Int) then ((a0.IC[k20]?).bind fun x29=>(a1.IC[k20]?).bind fun x36=>(if x29.IW=x36.IW then (if (x29.IH.length:Int)=(x36.IH.length:Int) then some false else some true) else some true).bind fun y44=>if y44=true then some (Lp.ret false) else ((eg x29 x36 (((x29.IH.length:Int)).toNat+1) y19 0).bind fun e=>match e with | .ret r=>some (Lp.ret r) | .go (y95,k96)=>(if -9223372036854775808<=((k20:Int)+1)/\((k20:Int)+1)<=9223372036854775807 then (eh a0 a1 m24 y95 (k20+1)) else none))) else (some (Lp.go (y19,k20)))):=rfl
def gN (a0:cj) (a1:cj):Option (Bool):=(if a0.IJ.null=a1.IJ.null then (if a0.IJ.data=a1.IJ.data then (if a0.I6=a1.I6 then (if a0.II=a1.II then (if (a0.IC.length:Int)=(a1.IC.length:Int) then some false else some true) else some true) else some true) else some true) else some true).bind fun y11=>if y11=true then some false else ((eh a0 a1 (((a0.IC.length:Int)).toNat+1) false 0).bind fun e=>match e with | .ret r=>some r | .go (y98,k99)=>some true)
theorem te (a0:cj) (A1:Option Addr) (c2:Nat) (a1:cj) (A3:Option Addr) (c4:Nat) (r:Bool) (h:gN a0 a1=some r):aC Tryz.prog 66 #[.agg #[.bool a0.IJ.null,jS a0.IJ.data,jI a0.I6,jI a0.II,.slice A1 a0.IC.length c2],.agg #[.bool a1.IJ.null,jS a1.IJ.data,jI a1.I6,jI a1.II,.slice A3 a1.IC.length c4]] (RX.and (RX.of (ai 2 cT) [.slice A1 a0.IC.length c2] a0.IC) (RX.of (ai 2 cT) [.slice A3 a1.IC.length c4] a1.IC)) (aO) (fun v A' N=>v= .bool r/\A'=aO/\N = []):=by
 refine aU Tryz.func66 Z Tryz.ntmps66 Z ?_;intro F w hX;unfold gN at h;refine Gq Z (TL.box Z .u Z Z (fun b5=>(TL.box Z .u Z Z (fun b6=>(Gx an Z (Ig ?_))))));obtain⟨y11,h,hk12⟩:=Jn h;refine Hj (fun e Rs=>e = [(2,jP b5),(3,jP b6),(4,.bool false),(36,.bool y11)]/\Rs = [aN b6 51 #[.bool a1.IJ.null,jS a1.IJ.data,jI a1.I6,jI a1.II,.slice A3 a1.IC.length c4],aN b5 51 #[.bool a0.IJ.null,jS a0.IJ.data,jI a0.I6,jI a0.II,.slice A1 a0.IC.length c2],aO]) ?_ ?_
 ·clear hk12;refine T.region Z (Gp an 1 Z (Gr Z (GH (us:=wL6 a0.IJ) 1 Z JY JB Z Z Z) Z (Gp an 1 Z (Gr Z (GH (us:=wL6 a1.IJ) 0 Z JY JB Z Z Z) Z ?_))));rcases jF h with⟨c13,h⟩ | ⟨c13,h⟩
  ·rcases jF h with⟨c14,h⟩ | ⟨c14,h⟩
   ·refine Gr Z (Iy (us:=wL6 a0.IJ) (vs:=wL6 a1.IJ) gw Z Ks Z Z Z Z (eC (ne c13) (eC (qj (l:=a0.IJ.data) (m:=a1.IJ.data) c14) Z))) Z (Gt an bj 1 Z 4 Z Z ?_);rcases jF h with⟨c15,h⟩ | ⟨c15,h⟩
    ·refine Gt an bj 0 Z 4 Z Z (GA 21 Z (bd (Jq c15)) (Gt an bj 1 Z 3 Z Z ?_));rcases jF h with⟨c16,h⟩ | ⟨c16,h⟩
     ·refine Gt an bj 0 Z 4 Z Z (GA 28 Z (bd (Jq c16)) (Gt an bj 1 Z 2 Z Z (TL.q Z (.g Z Z Z) (GK Z K1) Z (Gt an bj 0 Z 2 Z Z (TL.q Z (.g Z Z Z) (GK Z K1) Z (GB an 2 Z ?_))))));rcases jF h with⟨c17,h⟩ | ⟨c17,h⟩
      ·cases h;exact TL.nil (Hn (d:=36) (v':= .bool false) Z (congrArg Value.bool (bd (Jq c17))) (GE [0,0,0]))
      cases h;exact TL.nil (Hn (d:=36) (v':= .bool true) Z (congrArg Value.bool (bM (Jr c17))) (GE [0,0,0]))
     refine Gt an bj 0 Z 4 Z Z (GA 28 Z (bM (Jr c16)) (GB an 8 Z ?_));cases h;exact TL.nil (GE [0,0,0])
    refine Gt an bj 0 Z 4 Z Z (GA 21 Z (bM (Jr c15)) (GB an 15 Z ?_));cases h;exact TL.nil (GE [0,0,0])
   refine Gr Z (Iy (us:=wL6 a0.IJ) (vs:=wL6 a1.IJ) gw Z Ks Z Z Z Z (eC (ne c13) (kr (pv (l:=a0.IJ.data) (m:=a1.IJ.data) c14)))) Z (GB an 23 Z ?_);cases h;exact TL.nil (GE [0,0,0])
  refine Gr Z (Iy (us:=wL6 a0.IJ) (vs:=wL6 a1.IJ) gw Z Ks Z Z Z Z (kr (rp c13))) Z (GB an 23 Z ?_);cases h;exact TL.nil (GE [0,0,0])
 rintro _ _ ⟨rfl,rfl⟩;clear h;have h:=hk12;clear hk12;try dsimp only at h
 rcases jF h with⟨c18,h⟩ | ⟨c18,h⟩
 ·refine X.seq (GF Z c18 (Gq Z (Gp an 1 Z ?_)));obtain rfl:=Jp h;exact Gs (T.ret (Gv (GD [2] L8 (Gu Z))))
 replace c18:=Ju c18;refine X.seq (GU Z c18 (GQ (T.seq (Gq Z (Gx an Z (T.block ?_))))));obtain⟨E21,hE22,hO23⟩:=Jn h;refine Hl (fun m e Rs=> ∃ (y19:Bool) (k20:Nat),e = [(2,jP b5),(3,jP b6),(4,.bool y19),(5,jI (k20:Int))]/\Rs = [aN b6 51 #[.bool a1.IJ.null,jS a1.IJ.data,jI a1.I6,jI a1.II,.slice A3 a1.IC.length c4],aN b5 51 #[.bool a0.IJ.null,jS a0.IJ.data,jI a0.I6,jI a0.II,.slice A1 a0.IC.length c2],aO]/\eh a0 a1 m y19 k20=some E21) (((a0.IC.length:Int)).toNat+1) [0,0,0] ⟨false,0,Z,Z,by exact hE22⟩ Mf Mf ?_;clear hE22 h;rintro m24 _ _ ⟨y19,k20,rfl,rfl,h⟩
 cases m24 with
 | zero =>
  rw[tc] at h;cases h
 | succ m24 =>
  rw[td] at h;refine T.seq (Gq Z (Gt an bj 1 Z 3 Z Z (Gr Z (GK Z K1) Z (Gp an 1 Z ?_))));rcases jF h with⟨c28,h⟩ | ⟨c28,h⟩
  ·refine Hg Z c28 (GQ (T.seq (T.block (Gq Z ?_))));obtain⟨x29,hx30,h⟩:=Jn h;obtain⟨gz31,oz31,rfl,z31cs,z31cl,z31cc,z31nf,z31r⟩:=G4 Md (GR hX) hx30;obtain⟨z31S,z31r,z31rr⟩:=z31r;obtain⟨A32,c33,rfl,z31s0⟩:=z31r;have hX34:(RX.of (ai 2 gK) [.slice A32 x29.IH.length c33] x29.IH).reads w F:=⟨z31S,z31s0,z31rr⟩;refine Gt an bj 1 Z 3 Z Z ?_;refine Gr Z (GS (k:=k20) Z Z Z K1 KY (Jt hx30).1) Z ?_;refine Gr Z (Ho (us := [jS x29.IW,.slice A32 x29.IH.length c33]) 0 Z Tryz.isAgg191 KY z31nf z31cc Z Z Z) Z (TL.alloc Z .u Tryz.zeroValue191 Z (fun b35=>(GC 0 Z (cs':= #[jS x29.IW,.slice A32 x29.IH.length c33]) Z .u Z Z KY Z Z Z Z Z (GG Z ?_))));obtain⟨x36,hx37,h⟩:=Jn h;obtain⟨gz38,oz38,rfl,z38cs,z38cl,z38cc,z38nf,z38r⟩:=G4 Md (Gz hX) hx37;obtain⟨z38S,z38r,z38rr⟩:=z38r;obtain⟨A39,c40,rfl,z38s0⟩:=z38r;have hX41:(RX.of (ai 2 gK) [.slice A39 x36.IH.length c40] x36.IH).reads w F:=⟨z38S,z38s0,z38rr⟩;refine Gt an bj 1 Z 3 Z Z ?_;refine Gr Z (GS (k:=k20) Z Z Z K1 KY (Jt hx37).1) Z ?_;refine Gr Z (Ho (us := [jS x36.IW,.slice A39 x36.IH.length c40]) 0 Z Tryz.isAgg191 KY z38nf z38cc Z Z Z) Z (TL.alloc Z .u Tryz.zeroValue191 Z (fun b42=>(GC 0 Z (cs':= #[jS x36.IW,.slice A39 x36.IH.length c40]) Z .u Z Z KY Z Z Z Z Z (Gs (Ig ?_)))));obtain⟨y44,h,hk45⟩:=Jn h;refine Hj (fun e Rs=>e = [(2,jP b5),(3,jP b6),(4,.bool y19),(5,jI (k20:Int)),(6,jP b35),(7,jP b42),(67,.bool y44)]/\Rs = [aN b42 191 #[jS x36.IW,.slice A39 x36.IH.length c40],aN b35 191 #[jS x29.IW,.slice A32 x29.IH.length c33],aN b6 51 #[.bool a1.IJ.null,jS a1.IJ.data,jI a1.I6,jI a1.II,.slice (some ⟨gz38,oz38,none⟩) a1.IC.length c4],aN b5 51 #[.bool a0.IJ.null,jS a0.IJ.data,jI a0.I6,jI a0.II,.slice (some ⟨gz31,oz31,none⟩) a0.IC.length c2],aO]) ?_ ?_
   ·clear hk45;refine T.region Z (Gt an bj 1 Z 3 Z Z (Gt an bj 0 Z 1 Z Z (Gr Z (Ex.sNe Z Z) Z ?_)));rcases jF h with⟨c46,h⟩ | ⟨c46,h⟩
    ·refine Gp an 1 Z (GA 59 Z (bd (Jq c46)) (Gt an bj 1 Z 2 Z Z (TL.q Z (.g Z Z Z) (GK Z KE) Z (Gt an bj 0 Z 2 Z Z (TL.q Z (.g Z Z Z) (GK Z KE) Z (GB an 2 Z ?_))))));rcases jF h with⟨c47,h⟩ | ⟨c47,h⟩
     ·cases h;exact TL.nil (Hn (d:=67) (v':= .bool false) Z (congrArg Value.bool (bd (Jq c47))) (GE [0,0,0,0,0]))
     cases h;exact TL.nil (Hn (d:=67) (v':= .bool true) Z (congrArg Value.bool (bM (Jr c47))) (GE [0,0,0,0,0]))
    refine Gp an 1 Z (GA 59 Z (bM (Jr c46)) (GB an 8 Z ?_));cases h;exact TL.nil (GE [0,0,0,0,0])
   rintro _ _ ⟨rfl,rfl⟩;clear h;have h:=hk45;clear hk45;try dsimp only at h
   rcases jF h with⟨c48,h⟩ | ⟨c48,h⟩
   ·refine X.seq (GF Z c48 (Gq Z (Gp an 1 Z ?_)));obtain rfl:=Jp h;obtain rfl:=Jp hO23;exact Gs (T.ret (Gv (GI (Gv (Gv (GI (Gv (GD [4] L8 (Gu Z)))))))))
   replace c48:=Ju c48;refine X.seq (GU Z c48 (G3 Z (Gx an Z (T.block ?_))));obtain⟨E51,hE52,hO53⟩:=Jn h;refine Hl (fun m e Rs=> ∃ (y49:Bool) (k50:Nat),e = [(2,jP b5),(3,jP b6),(4,.bool y49),(5,jI (k20:Int)),(6,jP b35),(7,jP b42),(8,jI (k50:Int))]/\Rs = [aN b42 191 #[jS x36.IW,.slice A39 x36.IH.length c40],aN b35 191 #[jS x29.IW,.slice A32 x29.IH.length c33],aN b6 51 #[.bool a1.IJ.null,jS a1.IJ.data,jI a1.I6,jI a1.II,.slice (some ⟨gz38,oz38,none⟩) a1.IC.length c4],aN b5 51 #[.bool a0.IJ.null,jS a0.IJ.data,jI a0.I6,jI a0.II,.slice (some ⟨gz31,oz31,none⟩) a0.IC.length c2],aO]/\eg x29 x36 m y49 k50=some E51) (((x29.IH.length:Int)).toNat+1) [0,0,0,0,0] ⟨y19,0,Z,Z,by exact hE52⟩ Mf Mf ?_;clear hE52 h;rintro m54 _ _ ⟨y49,k50,rfl,rfl,h⟩
   cases m54 with
   | zero =>
    rw[eg] at h;cases h
   | succ m54 =>
    rw[eg] at h;refine T.seq (Gq Z (Gt an bj 1 Z 3 Z Z (Gr Z (GK Z KE) Z (Gp an 1 Z ?_))));rcases jF h with⟨c58,h⟩ | ⟨c58,h⟩
    ·refine Hg Z c58 (GQ (T.seq (T.block (T.seq ?_))));obtain⟨y74,h,hk75⟩:=Jn h;refine Hj (fun e Rs=>e = [(2,jP b5),(3,jP b6),(4,.bool y49),(5,jI (k20:Int)),(6,jP b35),(7,jP b42),(8,jI (k50:Int)),(103,.bool y74)]/\Rs = [aN b42 191 #[jS x36.IW,.slice A39 x36.IH.length c40],aN b35 191 #[jS x29.IW,.slice A32 x29.IH.length c33],aN b6 51 #[.bool a1.IJ.null,jS a1.IJ.data,jI a1.I6,jI a1.II,.slice (some ⟨gz38,oz38,none⟩) a1.IC.length c4],aN b5 51 #[.bool a0.IJ.null,jS a0.IJ.data,jI a0.I6,jI a0.II,.slice (some ⟨gz31,oz31,none⟩) a0.IC.length c2],aO]) ?_ ?_
     ·clear hk75;refine G6 (.q 0 (.q 1 (.q 2 (.q 3 (.q 4 (.q 5 (.q 6 (.q 7 (.q 8 (.q 9 (.q 10 (.q 11 (.q 12 (.q 13 (.q 14 (.q 15 (.q 16 (.q 17 (.q 18 (.q 19 (.q 20 (.q 21 (.q 22 (.q 23 (.q 24 (.q 25 (.e 26 (.q 27 (.q 28 .nil))))))))))))))))))))))))))))) [0,0,0,0,0] Z qt (NoP.seq (NoP.seq (NoP.blk (NoP.seq (NoP.seq (NoP.blk (NoP.blk (NoP.seq (NoP.seq (NoP.blk (NoP.seq bA))))))))))) Me ?_;refine TD.run an [0] Z Z (Gw Z (GM 1 Z Lw Z Z) Z ?_);obtain⟨x76,hx77,h⟩:=Jn h;obtain⟨gz78,oz78,rfl,z78cs,z78cl,z78cc,z78nf,z78r⟩:=G4 Md hX34 hx77;obtain⟨z78S,z78r,z78rr⟩:=z78r;obtain⟨A79,c80,rfl,z78s0⟩:=z78r;have hX81:(RX.of (ai 12 dY) [.slice A79 x76.IM.length c80] x76.IM).reads w F:=⟨z78S,z78s0,z78rr⟩;refine TD.run an [2] Z Z ?_;refine Gw Z (GS (k:=k50) Z Z Z KE LO (Jt hx77).1) Z ?_;refine TD.run an [4] Z Z (Gw Z (Hr 0 Z Jy z78nf z78cc Z Z) Z (TD.run an [6] Z Z (Gw Z (GM 0 Z Lw Z Z) Z ?_)));obtain⟨x82,hx83,h⟩:=Jn h;obtain⟨gz84,oz84,rfl,z84cs,z84cl,z84cc,z84nf,z84r⟩:=G4 Md hX41 hx83;obtain⟨z84S,z84r,z84rr⟩:=z84r;obtain⟨A85,c86,rfl,z84s0⟩:=z84r;have hX87:(RX.of (ai 12 dY) [.slice A85 x82.IM.length c86] x82.IM).reads w F:=⟨z84S,z84s0,z84rr⟩;refine TD.run an [8] Z Z ?_;refine Gw Z (GS (k:=k50) Z Z Z KE LO (Jt hx83).1) Z ?_;refine TD.run an [10] Z Z (Gw Z (Hr 0 Z Jy z84nf z84cc Z Z) Z ?_);rcases jF h with⟨c88,h⟩ | ⟨c88,h⟩
      ·refine TD.run an [12,13] Z Z (TD.q Z (.g Z Z (bd (Jq c88))) (G7 an Z) Z (TD.q Z (.g Z Z (bd (Jq c88))) (GM 1 Z Lw Z Z) Z (TD.q Z (.g Z Z (bd (Jq c88))) (G7 an Z) Z ?_)));refine TD.q Z (.g Z Z (bd (Jq c88))) (GS (k:=k50) Z Z Z KE LO (Jt hx77).1) Z ?_;refine TD.q Z (.g Z Z (bd (Jq c88))) (G7 an Z) Z (TD.q Z (.g Z Z (bd (Jq c88))) (Hr 1 Z Lb z78nf z78cc Z Z) Z (TD.q Z (.g Z Z (bd (Jq c88))) (G7 an Z) Z (TD.q Z (.g Z Z (bd (Jq c88))) (GM 0 Z Lw Z Z) Z (TD.q Z (.g Z Z (bd (Jq c88))) (G7 an Z) Z ?_))));refine TD.q Z (.g Z Z (bd (Jq c88))) (GS (k:=k50) Z Z Z KE LO (Jt hx83).1) Z ?_;refine TD.q Z (.g Z Z (bd (Jq c88))) (G7 an Z) Z (TD.q Z (.g Z Z (bd (Jq c88))) (Hr 1 Z Lb z84nf z84cc Z Z) Z ?_);obtain⟨x89,hx90,h⟩:=Jn h;refine Ih Z (.g Z Z (bd (Jq c88))) (.fn Tryz.call114 Z) (ta x76.IM _ _ x82.IM _ _ _ hx90) (fun _ hs=>(RX.reads_and (GJ hs hX81) (GJ hs hX87))) Z [0,0,0,0,0] (Z) (TD.q Z (.g Z Z (bd (Jq c88))) (G7 an Z) Z (Gw Z (Hq Z (bd (Jq c88)) Z) Z ?_));rcases jF h with⟨c91,h⟩ | ⟨c91,h⟩
       ·cases h;exact TD.nil (Hn (d:=103) (v':= .bool false) Z (congrArg Value.bool (bd c91)) (GE [0,0,0,0,0]))
       replace c91:=Ju c91;cases h;exact TD.nil (Hn (d:=103) (v':= .bool true) Z (congrArg Value.bool (bM c91)) (GE [0,0,0,0,0]))
      refine TD.run an [12,13] Z Z ?_;iterate 12 refine He Z (.gn Z Z (bM (Jr c88))) Z ?_
      refine H5 Z (.gn Z Z (bM (Jr c88))) Z [0,0,0,0,0] Z (He Z (.gn Z Z (bM (Jr c88))) Z (Gw Z (Hy Z (bM (Jr c88)) Z) Z ?_));cases h;exact TD.nil (GE [0,0,0,0,0])
     rintro _ _ ⟨rfl,rfl⟩;clear h;have h:=hk75;clear hk75;try dsimp only at h
     rcases jF h with⟨c92,h⟩ | ⟨c92,h⟩
     ·refine X.seq (GF Z c92 (Gq Z (Gp an 1 Z ?_)));obtain rfl:=Jp h;obtain rfl:=Jp hO53;obtain rfl:=Jp hO23;exact Gs (T.ret (GI (Gv (Gv (GI (GI (Gv (Gv (GI (Gv (GD [4] L8 (Gu Z))))))))))))
     replace c92:=Ju c92;refine X.seq (GU Z c92 (T.skip (GN (X.seq (T.region Z ?_)))));obtain⟨c93,h⟩:=aE h;exact Gp an 1 Z (Gr Z (Ex.add Z Z c93) Z (Gp an 1 Z (TL.nil (X.back (m':=m54) [0,0,0,0,0] Mc ⟨y49,k50+1,Z,Z,h⟩ Mf Mf))))
    refine Hh Z c58 ?_;obtain rfl:=Jp h;replace h:=hO53;clear hO53;refine T.exit (GL (GL (Hi (GN (X.seq (T.region Z ?_))))));obtain⟨c94,h⟩:=aE h;exact Gp an 1 Z (Gr Z (Ex.add Z Z c94) Z (Gp an 1 Z (TL.nil (X.back (m':=m24) [2,2,2] Mc ⟨y49,k20+1,Z,Z,h⟩ Mf Mf))))
  refine Hh Z c28 ?_;obtain rfl:=Jp h;replace h:=hO23;clear hO23;refine T.exit (GL (GL (Hi (X.seq (Gq Z (Gp an 1 Z ?_))))));obtain rfl:=Jp h;exact Gs (T.ret (GD [2] L8 (Gu Z)))
def rO:ey := [(23,0,0),(23,1,1),(47,0,0),(47,1,2),(47,2,3),(47,3,4),(47,4,5),(47,5,6),(212,0,0),(212,1,2),(212,2,3)]
theorem aI:(rO).OK Tryz.prog:=⟨FOK.mk JT rfl JW rfl,FOK.mk JT rfl JO rfl,FOK.mk KR rfl JB rfl,FOK.mk KR rfl Jv rfl,FOK.mk KR rfl Jv rfl,FOK.mk KR rfl Jv rfl,FOK.mk KR rfl K2 rfl,FOK.mk KR rfl JW rfl,FOK.mk J8 rfl JB rfl,FOK.mk J8 rfl Jv rfl,FOK.mk J8 rfl Jv rfl,trivial⟩
def rP:List Nat := [3,4,9,28]
theorem bb:NOK Tryz.prog rP:=⟨Jy,Ky,JZ,KW,trivial⟩
theorem gx:gv Tryz.prog 2 23 [.bool,.string] true:=(gv.struct JY JB rfl Tryz.underlying23 Tryz.stoodInHeld23 ⟨by decide,rfl,[.bool],[.string],false,rfl,(HJ Ky JW Tryz.underlying4),⟨by decide,rfl,[.string],[],false,rfl,(HJ JZ JO Tryz.underlying9),rfl⟩⟩)
def gO (a0:cG) (a1:cG):Option (Bool):=(if a0.IJ.null=a1.IJ.null then (if a0.IJ.data=a1.IJ.data then (if a0.II=a1.II then (if a0.ID=a1.ID then (if a0.IF=a1.IF then (if a0.I2=true then (if a1.I2=true then ((cI a0.IC a1.IC).bind fun x28=>some x28) else some false) else (if a1.I2=true then some false else ((cI a0.IC a1.IC).bind fun x31=>some x31))) else some false) else some false) else some false) else some false) else some false).bind fun y19=>some y19
theorem tf (a0:cG) (A1:Option Addr) (c2:Nat) (a1:cG) (A3:Option Addr) (c4:Nat) (r:Bool) (h:gO a0 a1=some r):aC Tryz.prog 64 #[.agg (wA7 a0 A1 c2),.agg (wA7 a1 A3 c4)] (RX.and (RX.of (ai 2 aZ) [.slice A1 a0.IC.length c2] a0.IC) (RX.of (ai 2 aZ) [.slice A3 a1.IC.length c4] a1.IC)) (aO) (fun v A' N=>v= .bool r/\A'=aO/\N = []):=by
 refine aU Tryz.func64 Z Tryz.ntmps64 Z ?_;intro F w hX;unfold gO at h;refine Gq Z (TL.box Z .u Z Z (fun b5=>(TL.box Z .u Z Z (fun b6=>(Gx aI Z (T.seq ?_))))));obtain⟨y19,h,hk20⟩:=Jn h;refine Hj (fun e Rs=>e = [(4,.bool y19)]/\Rs = [aN b6 47 (wA7 a1 A3 c4),aN b5 47 (wA7 a0 A1 c2),aO]) ?_ ?_
 ·clear hk20;refine T.region Z (Gp aI 1 Z (Gr Z (GH (us:=wL6 a0.IJ) 1 Z JY JB Z Z Z) Z (Gp aI 1 Z (Gr Z (GH (us:=wL6 a1.IJ) 0 Z JY JB Z Z Z) Z ?_))));rcases jF h with⟨c21,h⟩ | ⟨c21,h⟩
  ·rcases jF h with⟨c22,h⟩ | ⟨c22,h⟩
   ·refine Gr Z (H7 (us:=wL6 a0.IJ) (vs:=wL6 a1.IJ) gx Z Ks Z Z Z Z (eC (ne c21) (eC (qj (l:=a0.IJ.data) (m:=a1.IJ.data) c22) Z))) Z (Gt aI bb 1 Z 4 Z Z ?_);rcases jF h with⟨c23,h⟩ | ⟨c23,h⟩
    ·refine Gt aI bb 0 Z 4 Z Z (GA 17 Z (Jq c23) (Gt aI bb 1 Z 3 Z Z ?_));rcases jF h with⟨c24,h⟩ | ⟨c24,h⟩
     ·refine Gt aI bb 0 Z 4 Z Z (GA 24 Z (Jq c24) (Gt aI bb 1 Z 3 Z Z ?_));rcases jF h with⟨c25,h⟩ | ⟨c25,h⟩
      ·refine Gt aI bb 0 Z 4 Z Z (GA 31 Z (Jq c25) (Gt aI bb 1 Z 3 Z Z ?_));rcases jF h with⟨c26,h⟩ | ⟨c26,h⟩
       ·rcases jF h with⟨c27,h⟩ | ⟨c27,h⟩
        ·refine Gt aI bb 0 Z 1 Z Z (TL.q Z (.g Z Z Z) (Ex.bEq Z c26 Z c27 JR) Z (Gt aI bb 1 Z 5 Z Z ?_));obtain⟨x28,hx29,h⟩:=Jn h;refine Gt aI bb 0 Z 1 Z Z (GT Z (.g Z Z Z) (.fn Tryz.call113 Z) (e6 a0.IC _ _ a1.IC _ _ _ hx29) (fun _ hs=>(RX.reads_and (GJ hs (GR hX)) (GJ hs (Gz hX)))) Z (GB aI 2 Z ?_));cases h;exact TL.nil (GE [0,0,0])
        replace c27:=Ju c27;refine Gt aI bb 0 Z 1 Z Z (TL.q Z (.g Z Z Z) (Ex.bEq Z c26 Z c27 JR) Z (GB aI 9 Z ?_));cases h;exact TL.nil (GE [0,0,0])
       replace c26:=Ju c26;rcases jF h with⟨c30,h⟩ | ⟨c30,h⟩
       ·refine Gt aI bb 0 Z 1 Z Z (TL.q Z (.g Z Z Z) (Ex.bEq Z c26 Z c30 JR) Z (GB aI 9 Z ?_));cases h;exact TL.nil (GE [0,0,0])
       replace c30:=Ju c30;refine Gt aI bb 0 Z 1 Z Z (TL.q Z (.g Z Z Z) (Ex.bEq Z c26 Z c30 JR) Z (Gt aI bb 1 Z 5 Z Z ?_));obtain⟨x31,hx32,h⟩:=Jn h;refine Gt aI bb 0 Z 1 Z Z (GT Z (.g Z Z Z) (.fn Tryz.call113 Z) (e6 a0.IC _ _ a1.IC _ _ _ hx32) (fun _ hs=>(RX.reads_and (GJ hs (GR hX)) (GJ hs (Gz hX)))) Z (GB aI 2 Z ?_));cases h;exact TL.nil (GE [0,0,0])
      refine Gt aI bb 0 Z 4 Z Z (GA 31 Z (Jr c25) (GB aI 14 Z ?_));cases h;exact TL.nil (GE [0,0,0])
     refine Gt aI bb 0 Z 4 Z Z (GA 24 Z (Jr c24) (GB aI 21 Z ?_));cases h;exact TL.nil (GE [0,0,0])
    refine Gt aI bb 0 Z 4 Z Z (GA 17 Z (Jr c23) (GB aI 28 Z ?_));cases h;exact TL.nil (GE [0,0,0])
   refine Gr Z (H7 (us:=wL6 a0.IJ) (vs:=wL6 a1.IJ) gx Z Ks Z Z Z Z (eC (ne c21) (kr (pv (l:=a0.IJ.data) (m:=a1.IJ.data) c22)))) Z (GB aI 36 Z ?_);cases h;exact TL.nil (GE [0,0,0])
  refine Gr Z (H7 (us:=wL6 a0.IJ) (vs:=wL6 a1.IJ) gx Z Ks Z Z Z Z (kr (rp c21))) Z (GB aI 36 Z ?_);cases h;exact TL.nil (GE [0,0,0])
 rintro _ _ ⟨rfl,rfl⟩;clear h;have h:=hk20;clear hk20;obtain rfl:=Jp h;exact X.seq (T.ret (GD [2] Tryz.results64 (Gu Z)))
def rQ:ey := [(195,0,0),(195,1,1),(195,2,2),(195,3,3),(195,4,4)]
theorem aj:(rQ).OK Tryz.prog:=⟨FOK.mk K7 rfl Jv rfl,FOK.mk K7 rfl Jv rfl,FOK.mk K7 rfl JW rfl,FOK.mk K7 rfl K2 rfl,FOK.mk K7 rfl Jv rfl,trivial⟩
theorem qv:Tryz.prog.follows .mixedOrders=true:=by kernel_rfl
def eO (a0:List eF) (a1:List eF):Nat->Bool->Nat->Option (Lp Bool (Bool×Nat))
 | 0,_,_=>none
 | m11+1,y6,k7=>if (k7:Int)<(a0.length:Int) then (((a0[k7]?).bind fun x41=>(a1[k7]?).bind fun x47=>if x41.ID=x47.ID then (if x41.IF=x47.IF then (if x41.I2=true then (if x47.I2=true then (if x41.IU=x47.IU then ((cI x41.IC x47.IC).bind fun x58=>if x58=true then some false else some true) else some true) else some true) else (if x47.I2=true then some true else (if x41.IU=x47.IU then ((cI x41.IC x47.IC).bind fun x63=>if x63=true then some false else some true) else some true))) else some true) else some true).bind fun y39=>if y39=true then some (Lp.ret false) else (if -9223372036854775808<=((k7:Int)+1)/\((k7:Int)+1)<=9223372036854775807 then (eO a0 a1 m11 y6 (k7+1)) else none)) else (some (Lp.go (y6,k7)))
def iA (a0:List eF) (a1:List eF):Option (Bool):=if (a0.length:Int)=(a1.length:Int) then ((eO a0 a1 (((a0.length:Int)).toNat+1) false 0).bind fun e=>match e with | .ret r=>some r | .go (y68,k69)=>some true) else some false
theorem tg (a0:List eF) (A1:Option Addr) (c2:Nat) (a1:List eF) (A3:Option Addr) (c4:Nat) (r:Bool) (h:iA a0 a1=some r):aC Tryz.prog 65 #[.slice A1 a0.length c2,.slice A3 a1.length c4] (RX.and (RX.of (ai 5 dM) [.slice A1 a0.length c2] a0) (RX.of (ai 5 dM) [.slice A3 a1.length c4] a1)) (aO) (fun v A' N=>v= .bool r/\A'=aO/\N = []):=by
 refine aU Tryz.func65 Z Tryz.ntmps65 Z ?_;intro F w hX;unfold iA at h;refine Gq Z (Gx aj Z (T.seq (Gq Z (Gp aj 1 Z (Gr Z (GK Z JX) Z (Gp aj 1 Z (Gr Z (GK Z JX) Z (Gp aj 1 Z ?_))))))));rcases jF h with⟨c5,h⟩ | ⟨c5,h⟩
 ·refine GY Z c5 (GQ (T.seq (Gq Z (Gx aj Z (T.block ?_)))));obtain⟨E8,hE9,hO10⟩:=Jn h;refine Hl (fun m e Rs=> ∃ (y6:Bool) (k7:Nat),e = [(0,.slice A1 a0.length c2),(1,.slice A3 a1.length c4),(4,.bool y6),(5,jI (k7:Int))]/\Rs = [aO]/\eO a0 a1 m y6 k7=some E8) (((a0.length:Int)).toNat+1) [0] ⟨false,0,Z,Z,by exact hE9⟩ Mf Mf ?_;clear hE9 h;rintro m11 _ _ ⟨y6,k7,rfl,rfl,h⟩
  cases m11 with
  | zero =>
   rw[eO] at h;cases h
  | succ m11 =>
   rw[eO] at h;refine T.seq (Gq Z (Gp aj 2 Z (Gr Z (GK Z JX) Z (Gp aj 1 Z ?_))));rcases jF h with⟨c15,h⟩ | ⟨c15,h⟩
   ·refine Hg Z c15 (GQ (T.seq (T.block (T.seq ?_))));obtain⟨y39,h,hk40⟩:=Jn h;refine Hj (fun e Rs=>e = [(0,.slice A1 a0.length c2),(1,.slice A3 a1.length c4),(4,.bool y6),(5,jI (k7:Int)),(80,.bool y39)]/\Rs = [aO]) ?_ ?_
    ·clear hk40;refine G6 (.q 0 (.q 1 (.q 2 (.q 3 (.q 4 (.q 5 (.q 6 (.q 7 (.q 8 (.q 9 (.q 10 (.q 11 (.q 12 (.q 13 (.q 14 (.q 15 (.q 16 (.q 17 (.q 18 (.q 19 (.q 20 (.q 21 (.q 22 (.q 23 (.q 24 (.q 25 (.q 26 (.q 27 (.q 28 (.q 29 (.q 30 (.q 31 (.q 32 (.q 33 (.q 34 (.q 35 (.q 36 (.q 37 (.q 38 (.q 39 (.q 40 (.q 41 (.q 42 (.q 43 (.q 44 (.q 45 (.q 46 (.q 47 (.q 48 (.q 49 (.q 50 (.q 51 (.q 52 (.q 53 (.q 54 (.q 55 (.q 56 (.q 57 (.q 58 (.q 59 (.q 60 (.e 61 (.q 62 (.q 63 .nil)))))))))))))))))))))))))))))))))))))))))))))))))))))))))))))))) [0] Z qv (NoP.seq (NoP.seq (NoP.blk (NoP.seq (NoP.seq (NoP.blk (NoP.seq bA))))))) Me ?_;obtain⟨x41,hx42,h⟩:=Jn h;obtain⟨gz43,oz43,rfl,z43cs,z43cl,z43cc,z43nf,z43r⟩:=G4 Md (GR hX) hx42;obtain⟨z43S,z43r,z43rr⟩:=z43r;obtain⟨A44,c45,rfl,z43s0⟩:=z43r;have hX46:(RX.of (ai 2 aZ) [.slice A44 x41.IC.length c45] x41.IC).reads w F:=⟨z43S,z43s0,z43rr⟩;refine TD.run aj [0,1] Z Z ?_;refine Gw Z (GS (k:=k7) Z Z Z JX Ku (Jt hx42).1) Z ?_;refine TD.run aj [3] Z Z (Gw Z (Hr 0 Z Jy z43nf z43cc Z Z) Z ?_);obtain⟨x47,hx48,h⟩:=Jn h;obtain⟨gz49,oz49,rfl,z49cs,z49cl,z49cc,z49nf,z49r⟩:=G4 Md (Gz hX) hx48;obtain⟨z49S,z49r,z49rr⟩:=z49r;obtain⟨A50,c51,rfl,z49s0⟩:=z49r;have hX52:(RX.of (ai 2 aZ) [.slice A50 x47.IC.length c51] x47.IC).reads w F:=⟨z49S,z49s0,z49rr⟩;refine TD.run aj [5,6] Z Z ?_;refine Gw Z (GS (k:=k7) Z Z Z JX Ku (Jt hx48).1) Z ?_;refine TD.run aj [8] Z Z (Gw Z (Hr 0 Z Jy z49nf z49cc Z Z) Z ?_);rcases jF h with⟨c53,h⟩ | ⟨c53,h⟩
     ·refine TD.run aj [10,11] Z Z ?_;iterate 2 refine TD.q Z (.g Z Z (bd (Jq c53))) (G7 aj Z) Z ?_
      refine TD.q Z (.g Z Z (bd (Jq c53))) (GS (k:=k7) Z Z Z JX Ku (Jt hx42).1) Z ?_;refine TD.q Z (.g Z Z (bd (Jq c53))) (G7 aj Z) Z (TD.q Z (.g Z Z (bd (Jq c53))) (Hr 1 Z Jy z43nf z43cc Z Z) Z ?_);iterate 2 refine TD.q Z (.g Z Z (bd (Jq c53))) (G7 aj Z) Z ?_
      refine TD.q Z (.g Z Z (bd (Jq c53))) (GS (k:=k7) Z Z Z JX Ku (Jt hx48).1) Z ?_;refine TD.q Z (.g Z Z (bd (Jq c53))) (G7 aj Z) Z (TD.q Z (.g Z Z (bd (Jq c53))) (Hr 1 Z Jy z49nf z49cc Z Z) Z (TD.q Z (.g Z Z (bd (Jq c53))) (G7 aj Z) Z (Gw Z (Hq Z (bd (Jq c53)) Z) Z ?_)));rcases jF h with⟨c54,h⟩ | ⟨c54,h⟩
      ·refine TD.run aj [24] Z Z ?_;iterate 2 refine TD.q Z (.g Z Z (bd (Jq c54))) (G7 aj Z) Z ?_
       refine TD.q Z (.g Z Z (bd (Jq c54))) (GS (k:=k7) Z Z Z JX Ku (Jt hx42).1) Z ?_;refine TD.q Z (.g Z Z (bd (Jq c54))) (G7 aj Z) Z (TD.q Z (.g Z Z (bd (Jq c54))) (Hr 2 Z Ky z43nf z43cc Z Z) Z ?_);iterate 2 refine TD.q Z (.g Z Z (bd (Jq c54))) (G7 aj Z) Z ?_
       refine TD.q Z (.g Z Z (bd (Jq c54))) (GS (k:=k7) Z Z Z JX Ku (Jt hx48).1) Z ?_;refine TD.q Z (.g Z Z (bd (Jq c54))) (G7 aj Z) Z (TD.q Z (.g Z Z (bd (Jq c54))) (Hr 2 Z Ky z49nf z49cc Z Z) Z ?_);rcases jF h with⟨c55,h⟩ | ⟨c55,h⟩
       ·rcases jF h with⟨c56,h⟩ | ⟨c56,h⟩
        ·refine TD.q Z (.g Z Z (bd (Jq c54))) (HM Z c55 Z c56 JR) Z (Gw Z (Hq Z (bd (Jq c54)) Z) Z (TD.run aj [37] Z Z ?_));iterate 2 refine TD.q Z (.g Z Z Z) (G7 aj Z) Z ?_
         refine TD.q Z (.g Z Z Z) (GS (k:=k7) Z Z Z JX Ku (Jt hx42).1) Z ?_;refine TD.q Z (.g Z Z Z) (G7 aj Z) Z (TD.q Z (.g Z Z Z) (Hr 4 Z Jy z43nf z43cc Z Z) Z ?_);iterate 2 refine TD.q Z (.g Z Z Z) (G7 aj Z) Z ?_
         refine TD.q Z (.g Z Z Z) (GS (k:=k7) Z Z Z JX Ku (Jt hx48).1) Z ?_;refine TD.q Z (.g Z Z Z) (G7 aj Z) Z (TD.q Z (.g Z Z Z) (Hr 4 Z Jy z49nf z49cc Z Z) Z (TD.q Z (.g Z Z Z) (G7 aj Z) Z (Gw Z (Hq Z Z Z) Z ?_)));rcases jF h with⟨c57,h⟩ | ⟨c57,h⟩
         ·refine TD.run aj [50] Z Z ?_;iterate 2 refine TD.q Z (.g Z Z (bd (Jq c57))) (G7 aj Z) Z ?_
          refine TD.q Z (.g Z Z (bd (Jq c57))) (GS (k:=k7) Z Z Z JX Ku (Jt hx42).1) Z ?_;refine TD.q Z (.g Z Z (bd (Jq c57))) (G7 aj Z) Z (TD.q Z (.g Z Z (bd (Jq c57))) (Hr 3 Z KW z43nf z43cc Z Z) Z ?_);iterate 2 refine TD.q Z (.g Z Z (bd (Jq c57))) (G7 aj Z) Z ?_
          refine TD.q Z (.g Z Z (bd (Jq c57))) (GS (k:=k7) Z Z Z JX Ku (Jt hx48).1) Z ?_;refine TD.q Z (.g Z Z (bd (Jq c57))) (G7 aj Z) Z (TD.q Z (.g Z Z (bd (Jq c57))) (Hr 3 Z KW z49nf z49cc Z Z) Z ?_);obtain⟨x58,hx59,h⟩:=Jn h;refine Ih Z (.g Z Z (bd (Jq c57))) (.fn Tryz.call113 Z) (e6 x41.IC _ _ x47.IC _ _ _ hx59) (fun _ hs=>(RX.reads_and (GJ hs hX46) (GJ hs hX52))) Z [0] (Z) (TD.q Z (.g Z Z (bd (Jq c57))) (G7 aj Z) Z (Gw Z (Hq Z (bd (Jq c57)) Z) Z ?_));rcases jF h with⟨c60,h⟩ | ⟨c60,h⟩
          ·cases h;exact TD.nil (Hn (d:=80) (v':= .bool false) Z (congrArg Value.bool (bd c60)) (GE [0]))
          replace c60:=Ju c60;cases h;exact TD.nil (Hn (d:=80) (v':= .bool true) Z (congrArg Value.bool (bM c60)) (GE [0]))
         refine TD.run aj [50] Z Z ?_;iterate 10 refine He Z (.gn Z Z (bM (Jr c57))) Z ?_
         refine H5 Z (.gn Z Z (bM (Jr c57))) Z [0] Z (He Z (.gn Z Z (bM (Jr c57))) Z (Gw Z (Hy Z (bM (Jr c57)) Z) Z ?_));cases h;exact TD.nil (GE [0])
        replace c56:=Ju c56;refine TD.q Z (.g Z Z (bd (Jq c54))) (HM Z c55 Z c56 JR) Z (Gw Z (Hq Z (bd (Jq c54)) Z) Z (TD.run aj [37] Z Z ?_));iterate 11 refine He Z (.gn Z Z Z) Z ?_
        refine Gw Z (Hy Z Z Z) Z (TD.run aj [50] Z Z ?_);iterate 10 refine He Z (.gn Z Z Z) Z ?_
        refine H5 Z (.gn Z Z Z) Z [0] Z (He Z (.gn Z Z Z) Z (Gw Z (Hy Z Z Z) Z ?_));cases h;exact TD.nil (GE [0])
       replace c55:=Ju c55;rcases jF h with⟨c61,h⟩ | ⟨c61,h⟩
       ·refine TD.q Z (.g Z Z (bd (Jq c54))) (HM Z c55 Z c61 JR) Z (Gw Z (Hq Z (bd (Jq c54)) Z) Z (TD.run aj [37] Z Z ?_));iterate 11 refine He Z (.gn Z Z Z) Z ?_
        refine Gw Z (Hy Z Z Z) Z (TD.run aj [50] Z Z ?_);iterate 10 refine He Z (.gn Z Z Z) Z ?_
        refine H5 Z (.gn Z Z Z) Z [0] Z (He Z (.gn Z Z Z) Z (Gw Z (Hy Z Z Z) Z ?_));cases h;exact TD.nil (GE [0])
       replace c61:=Ju c61;refine TD.q Z (.g Z Z (bd (Jq c54))) (HM Z c55 Z c61 JR) Z (Gw Z (Hq Z (bd (Jq c54)) Z) Z (TD.run aj [37] Z Z ?_));iterate 2 refine TD.q Z (.g Z Z Z) (G7 aj Z) Z ?_
       refine TD.q Z (.g Z Z Z) (GS (k:=k7) Z Z Z JX Ku (Jt hx42).1) Z ?_;refine TD.q Z (.g Z Z Z) (G7 aj Z) Z (TD.q Z (.g Z Z Z) (Hr 4 Z Jy z43nf z43cc Z Z) Z ?_);iterate 2 refine TD.q Z (.g Z Z Z) (G7 aj Z) Z ?_
       refine TD.q Z (.g Z Z Z) (GS (k:=k7) Z Z Z JX Ku (Jt hx48).1) Z ?_;refine TD.q Z (.g Z Z Z) (G7 aj Z) Z (TD.q Z (.g Z Z Z) (Hr 4 Z Jy z49nf z49cc Z Z) Z (TD.q Z (.g Z Z Z) (G7 aj Z) Z (Gw Z (Hq Z Z Z) Z ?_)));rcases jF h with⟨c62,h⟩ | ⟨c62,h⟩
       ·refine TD.run aj [50] Z Z ?_;iterate 2 refine TD.q Z (.g Z Z (bd (Jq c62))) (G7 aj Z) Z ?_
        refine TD.q Z (.g Z Z (bd (Jq c62))) (GS (k:=k7) Z Z Z JX Ku (Jt hx42).1) Z ?_;refine TD.q Z (.g Z Z (bd (Jq c62))) (G7 aj Z) Z (TD.q Z (.g Z Z (bd (Jq c62))) (Hr 3 Z KW z43nf z43cc Z Z) Z ?_);iterate 2 refine TD.q Z (.g Z Z (bd (Jq c62))) (G7 aj Z) Z ?_
        refine TD.q Z (.g Z Z (bd (Jq c62))) (GS (k:=k7) Z Z Z JX Ku (Jt hx48).1) Z ?_;refine TD.q Z (.g Z Z (bd (Jq c62))) (G7 aj Z) Z (TD.q Z (.g Z Z (bd (Jq c62))) (Hr 3 Z KW z49nf z49cc Z Z) Z ?_);obtain⟨x63,hx64,h⟩:=Jn h;refine Ih Z (.g Z Z (bd (Jq c62))) (.fn Tryz.call113 Z) (e6 x41.IC _ _ x47.IC _ _ _ hx64) (fun _ hs=>(RX.reads_and (GJ hs hX46) (GJ hs hX52))) Z [0] (Z) (TD.q Z (.g Z Z (bd (Jq c62))) (G7 aj Z) Z (Gw Z (Hq Z (bd (Jq c62)) Z) Z ?_));rcases jF h with⟨c65,h⟩ | ⟨c65,h⟩
        ·cases h;exact TD.nil (Hn (d:=80) (v':= .bool false) Z (congrArg Value.bool (bd c65)) (GE [0]))
        replace c65:=Ju c65;cases h;exact TD.nil (Hn (d:=80) (v':= .bool true) Z (congrArg Value.bool (bM c65)) (GE [0]))
       refine TD.run aj [50] Z Z ?_;iterate 10 refine He Z (.gn Z Z (bM (Jr c62))) Z ?_
       refine H5 Z (.gn Z Z (bM (Jr c62))) Z [0] Z (He Z (.gn Z Z (bM (Jr c62))) Z (Gw Z (Hy Z (bM (Jr c62)) Z) Z ?_));cases h;exact TD.nil (GE [0])
      refine TD.run aj [24] Z Z ?_;iterate 11 refine He Z (.gn Z Z (bM (Jr c54))) Z ?_
      refine Gw Z (Hy Z (bM (Jr c54)) Z) Z (TD.run aj [37] Z Z ?_);iterate 11 refine He Z (.gn Z Z Z) Z ?_
      refine Gw Z (Hy Z Z Z) Z (TD.run aj [50] Z Z ?_);iterate 10 refine He Z (.gn Z Z Z) Z ?_
      refine H5 Z (.gn Z Z Z) Z [0] Z (He Z (.gn Z Z Z) Z (Gw Z (Hy Z Z Z) Z ?_));cases h;exact TD.nil (GE [0])
     refine TD.run aj [10,11] Z Z ?_;iterate 11 refine He Z (.gn Z Z (bM (Jr c53))) Z ?_
     refine Gw Z (Hy Z (bM (Jr c53)) Z) Z (TD.run aj [24] Z Z ?_);iterate 11 refine He Z (.gn Z Z Z) Z ?_
     refine Gw Z (Hy Z Z Z) Z (TD.run aj [37] Z Z ?_);iterate 11 refine He Z (.gn Z Z Z) Z ?_
     refine Gw Z (Hy Z Z Z) Z (TD.run aj [50] Z Z ?_);iterate 10 refine He Z (.gn Z Z Z) Z ?_
     refine H5 Z (.gn Z Z Z) Z [0] Z (He Z (.gn Z Z Z) Z (Gw Z (Hy Z Z Z) Z ?_));cases h;exact TD.nil (GE [0])
    rintro _ _ ⟨rfl,rfl⟩;clear h;have h:=hk40;clear hk40;try dsimp only at h
    rcases jF h with⟨c66,h⟩ | ⟨c66,h⟩
    ·refine X.seq (GF Z c66 (Gq Z (Gp aj 1 Z ?_)));obtain rfl:=Jp h;obtain rfl:=Jp hO10;exact Gs (T.ret (GI (Gv (Gv (GI (Gv (GD [0] Tryz.results65 (Gu Z))))))))
    replace c66:=Ju c66;refine X.seq (GU Z c66 (T.skip (GN (X.seq (T.region Z ?_)))));obtain⟨c67,h⟩:=aE h;exact Gp aj 1 Z (Gr Z (Ex.add Z Z c67) Z (Gp aj 1 Z (TL.nil (X.back (m':=m11) [0] Mc ⟨y6,k7+1,Z,Z,h⟩ Mf Mf))))
   refine Hh Z c15 ?_;obtain rfl:=Jp h;replace h:=hO10;clear hO10;refine T.exit (GL (GL (Hi (X.seq (Gq Z (Gp aj 1 Z ?_))))));obtain rfl:=Jp h;exact Gs (T.ret (GD [0] Tryz.results65 (Gu Z)))
 refine GX Z c5 (Gq Z (Gp aj 1 Z ?_));obtain rfl:=Jp h;exact Gs (T.ret (Gv (GD [0] Tryz.results65 (Gu Z))))
def rR:ey := [(45,0,0),(45,1,1),(53,0,0),(53,1,5),(53,2,12),(53,3,13)]
theorem aV:(rR).OK Tryz.prog:=⟨FOK.mk Tryz.runUnderlying45 rfl Jv rfl,FOK.mk Tryz.runUnderlying45 rfl Jv rfl,FOK.mk KI rfl Tryz.sizeOf45 rfl,FOK.mk KI rfl Lf rfl,FOK.mk KI rfl Tryz.sizeOf48 rfl,FOK.mk KI rfl K3 rfl,trivial⟩
def rS:List Nat := [3,48]
theorem ku:NOK Tryz.prog rS:=⟨Jy,Tryz.isAgg48,trivial⟩
theorem dp:gv Tryz.prog 3 45 [.int .i64,.int .i64,.int .i64,.bool,.string] true:=(gv.struct Tryz.isAgg45 Tryz.sizeOf45 rfl Tryz.underlying45 Tryz.stoodInHeld45 ⟨by decide,rfl,[.int .i64],[.int .i64,.int .i64,.bool,.string],false,rfl,((HJ Jy Jv Tryz.underlying3).mono Md),⟨by decide,rfl,[.int .i64],[.int .i64,.bool,.string],false,rfl,((HJ Jy Jv Tryz.underlying3).mono Md),⟨by decide,rfl,[.int .i64],[.bool,.string],false,rfl,((HJ Jy Jv Tryz.underlying3).mono Md),⟨by decide,rfl,[.bool,.string],[],true,rfl,(gv.struct JY JB rfl Tryz.underlying23 Tryz.stoodInHeld23 ⟨by decide,rfl,[.bool],[.string],false,rfl,(HJ Ky JW Tryz.underlying4),⟨by decide,rfl,[.string],[],false,rfl,(HJ JZ JO Tryz.underlying9),rfl⟩⟩),rfl⟩⟩⟩⟩)
def ez (a0:ff) (a1:ff):Option (Bool):=(if a0.IE.IP=a1.IE.IP then (if a0.IE.IO=a1.IE.IO then (if a0.IE.IY=a1.IE.IY then (if a0.IE.IK.null=a1.IE.IK.null then (if a0.IE.IK.data=a1.IE.IK.data then ((gO a0.Jf a1.Jf).bind fun x35=>if x35=true then ((iA a0.I1 a1.I1).bind fun x38=>if x38=true then ((gN a0.IL a1.IL).bind fun x41=>some x41) else some false) else some false) else some false) else some false) else some false) else some false) else some false).bind fun y28=>some y28
theorem kh (a0:ff) (A1:Option Addr) (c2:Nat) (A3:Option Addr) (c4:Nat) (A5:Option Addr) (c6:Nat) (a1:ff) (A7:Option Addr) (c8:Nat) (A9:Option Addr) (c10:Nat) (A11:Option Addr) (c12:Nat) (r:Bool) (h:ez a0 a1=some r):aC Tryz.prog 17 #[.agg (wA8 a0 A1 A3 A5 c2 c4 c6),.agg (wA8 a1 A7 A9 A11 c8 c10 c12)] (RX.and (RX.of (ai 2 aZ) [.slice A1 a0.Jf.IC.length c2] a0.Jf.IC) (RX.and (RX.of (ai 5 dM) [.slice A3 a0.I1.length c4] a0.I1) (RX.and (RX.of (ai 2 cT) [.slice A5 a0.IL.IC.length c6] a0.IL.IC) (RX.and (RX.of (ai 2 aZ) [.slice A7 a1.Jf.IC.length c8] a1.Jf.IC) (RX.and (RX.of (ai 5 dM) [.slice A9 a1.I1.length c10] a1.I1) (RX.of (ai 2 cT) [.slice A11 a1.IL.IC.length c12] a1.IL.IC)))))) (aO) (fun v A' N=>v= .bool r/\A'=aO/\N = []):=by
 refine aU Tryz.func17 Z Tryz.ntmps17 Z ?_;intro F w hX;unfold ez at h;refine Gq Z (TL.box Z .u Z Z (fun b13=>(TL.box Z .u Z Z (fun b14=>(Gx aV Z (T.seq ?_))))));obtain⟨y28,h,hk29⟩:=Jn h;refine Hj (fun e Rs=>e = [(4,.bool y28)]/\Rs = [aN b14 53 (wA8 a1 A7 A9 A11 c8 c10 c12),aN b13 53 (wA8 a0 A1 A3 A5 c2 c4 c6),aO]) ?_ ?_
 ·clear hk29;refine T.region Z (Gp aV 1 Z (Gr Z (GH (us := [jI a0.IE.IP,jI a0.IE.IO,jI a0.IE.IY,.bool a0.IE.IK.null,jS a0.IE.IK.data]) 1 Z Tryz.isAgg45 Tryz.sizeOf45 Z Z Z) Z (Gp aV 1 Z (Gr Z (GH (us := [jI a1.IE.IP,jI a1.IE.IO,jI a1.IE.IY,.bool a1.IE.IK.null,jS a1.IE.IK.data]) 0 Z Tryz.isAgg45 Tryz.sizeOf45 Z Z Z) Z ?_))));rcases jF h with⟨c30,h⟩ | ⟨c30,h⟩
  ·rcases jF h with⟨c31,h⟩ | ⟨c31,h⟩
   ·rcases jF h with⟨c32,h⟩ | ⟨c32,h⟩
    ·rcases jF h with⟨c33,h⟩ | ⟨c33,h⟩
     ·rcases jF h with⟨c34,h⟩ | ⟨c34,h⟩
      ·refine Gr Z (H7 (us := [jI a0.IE.IP,jI a0.IE.IO,jI a0.IE.IY,.bool a0.IE.IK.null,jS a0.IE.IK.data]) (vs := [jI a1.IE.IP,jI a1.IE.IO,jI a1.IE.IY,.bool a1.IE.IK.null,jS a1.IE.IK.data]) dp Z K4 Z Z Z Z (eC (nc c30) (eC (nc c31) (eC (nc c32) (eC (ne c33) (eC (qj (l:=a0.IE.IK.data) (m:=a1.IE.IK.data) c34) Z)))))) Z (GB aV 2 Z (TL.q Z (.g Z Z Z) (GH (us:=wL9 a0.Jf A1 c2) 1 Z Tryz.isAgg47 Lf Z Z Z) Z (GB aV 1 Z (TL.q Z (.g Z Z Z) (GH (us:=wL9 a1.Jf A7 c8) 0 Z Tryz.isAgg47 Lf Z Z Z) Z ?_))));obtain⟨x35,hx36,h⟩:=Jn h;refine GT Z (.g Z Z Z) (.fn Tryz.call64 Z) (tf a0.Jf _ _ a1.Jf _ _ _ hx36) (fun _ hs=>(RX.reads_and (GJ hs (GR hX)) (GJ hs (GR (Gz (Gz (Gz hX))))))) Z ?_;rcases jF h with⟨c37,h⟩ | ⟨c37,h⟩
       ·refine GB aV 2 Z (GA 17 Z c37 (Gt aV ku 1 Z 3 Z Z ?_));obtain⟨x38,hx39,h⟩:=Jn h;refine Gt aV ku 0 Z 1 Z Z (GT Z (.g Z Z Z) (.fn Tryz.call65 Z) (tg a0.I1 _ _ a1.I1 _ _ _ hx39) (fun _ hs=>(RX.reads_and (GJ hs (GR (Gz hX))) (GJ hs (GR (Gz (Gz (Gz (Gz hX)))))))) Z ?_);rcases jF h with⟨c40,h⟩ | ⟨c40,h⟩
        ·refine GB aV 2 Z (GA 24 Z c40 (GB aV 1 Z (TL.q Z (.g Z Z Z) (GH (us := [.bool a0.IL.IJ.null,jS a0.IL.IJ.data,jI a0.IL.I6,jI a0.IL.II,.slice A5 a0.IL.IC.length c6]) 1 Z Tryz.isAgg51 K3 Z Z Z) Z (GB aV 1 Z (TL.q Z (.g Z Z Z) (GH (us := [.bool a1.IL.IJ.null,jS a1.IL.IJ.data,jI a1.IL.I6,jI a1.IL.II,.slice A11 a1.IL.IC.length c12]) 0 Z Tryz.isAgg51 K3 Z Z Z) Z ?_)))));obtain⟨x41,hx42,h⟩:=Jn h;refine GT Z (.g Z Z Z) (.fn Tryz.call66 Z) (te a0.IL _ _ a1.IL _ _ _ hx42) (fun _ hs=>(RX.reads_and (GJ hs (GR (Gz (Gz hX)))) (GJ hs (Gz (Gz (Gz (Gz (Gz hX)))))))) Z (GB aV 2 Z ?_);cases h;exact TL.nil (GE [0,0,0])
        replace c40:=Ju c40;refine GB aV 2 Z (GA 24 Z c40 (GB aV 7 Z ?_));cases h;exact TL.nil (GE [0,0,0])
       replace c37:=Ju c37;refine GB aV 2 Z (GA 17 Z c37 (GB aV 14 Z ?_));cases h;exact TL.nil (GE [0,0,0])
      refine Gr Z (H7 (us := [jI a0.IE.IP,jI a0.IE.IO,jI a0.IE.IY,.bool a0.IE.IK.null,jS a0.IE.IK.data]) (vs := [jI a1.IE.IP,jI a1.IE.IO,jI a1.IE.IY,.bool a1.IE.IK.null,jS a1.IE.IK.data]) dp Z K4 Z Z Z Z (eC (nc c30) (eC (nc c31) (eC (nc c32) (eC (ne c33) (kr (pv (l:=a0.IE.IK.data) (m:=a1.IE.IK.data) c34))))))) Z (GB aV 22 Z ?_);cases h;exact TL.nil (GE [0,0,0])
     refine Gr Z (H7 (us := [jI a0.IE.IP,jI a0.IE.IO,jI a0.IE.IY,.bool a0.IE.IK.null,jS a0.IE.IK.data]) (vs := [jI a1.IE.IP,jI a1.IE.IO,jI a1.IE.IY,.bool a1.IE.IK.null,jS a1.IE.IK.data]) dp Z K4 Z Z Z Z (eC (nc c30) (eC (nc c31) (eC (nc c32) (kr (rp c33)))))) Z (GB aV 22 Z ?_);cases h;exact TL.nil (GE [0,0,0])
    refine Gr Z (H7 (us := [jI a0.IE.IP,jI a0.IE.IO,jI a0.IE.IY,.bool a0.IE.IK.null,jS a0.IE.IK.data]) (vs := [jI a1.IE.IP,jI a1.IE.IO,jI a1.IE.IY,.bool a1.IE.IK.null,jS a1.IE.IK.data]) dp Z K4 Z Z Z Z (eC (nc c30) (eC (nc c31) (kr (Ab c32))))) Z (GB aV 22 Z ?_);cases h;exact TL.nil (GE [0,0,0])
   refine Gr Z (H7 (us := [jI a0.IE.IP,jI a0.IE.IO,jI a0.IE.IY,.bool a0.IE.IK.null,jS a0.IE.IK.data]) (vs := [jI a1.IE.IP,jI a1.IE.IO,jI a1.IE.IY,.bool a1.IE.IK.null,jS a1.IE.IK.data]) dp Z K4 Z Z Z Z (eC (nc c30) (kr (Ab c31)))) Z (GB aV 22 Z ?_);cases h;exact TL.nil (GE [0,0,0])
  refine Gr Z (H7 (us := [jI a0.IE.IP,jI a0.IE.IO,jI a0.IE.IY,.bool a0.IE.IK.null,jS a0.IE.IK.data]) (vs := [jI a1.IE.IP,jI a1.IE.IO,jI a1.IE.IY,.bool a1.IE.IK.null,jS a1.IE.IK.data]) dp Z K4 Z Z Z Z (kr (Ab c30))) Z (GB aV 22 Z ?_);cases h;exact TL.nil (GE [0,0,0])
 rintro _ _ ⟨rfl,rfl⟩;clear h;have h:=hk29;clear hk29;obtain rfl:=Jp h;exact X.seq (T.ret (GD [2] Tryz.results17 (Gu Z)))
end Go.Proofs.YtheikonlgjdopaaGreat.Sl
