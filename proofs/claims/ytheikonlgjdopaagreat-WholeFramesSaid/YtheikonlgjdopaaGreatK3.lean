/- wholeFrames_holds: part 3. -/
import Derived.Test.YtheikonlgjdopaaGreatK2
set_option maxRecDepth 100000
set_option maxHeartbeats 4000000
set_option linter.defProp false
namespace Go.Proofs.YtheikonlgjdopaaGreat.Sl
open Go.RowKit
set_option linter.unusedVariables false
set_option linter.unusedSimpArgs false
def J4 := @Tryz.results90
def Kq := @Tryz.runUnderlying30
def Kr := @Tryz.runUnderlying32
def Kx := @Tryz.runUnderlying78
def KA := @Tryz.runUnderlying27
def KF := @Tryz.runUnderlying103
def KJ := @Tryz.sizeOf27
def KK := @Tryz.sizeOf30
def KL := @Tryz.sizeOf32
def KU := @Tryz.results168
def K8 := @Tryz.results137
def Lh := @Tryz.results187
def LI := @Tryz.isAgg27
def LJ := @Tryz.isAgg30
def LK := @Tryz.isAgg32
def LR := @Tryz.ntmps185
def LY := @Tryz.results189
def LZ := @Tryz.results146
def L0 := @Tryz.results119
def L2 := @Tryz.func185
def L3 := @Tryz.results188
def DY:ey := [(103,0,0),(103,1,1),(103,2,2),(103,3,3),(103,4,4),(103,5,5),(103,6,6),(171,0,0),(171,1,1)]
theorem ag:(DY).OK Tryz.prog:=⟨FOK.mk KF rfl Jv rfl,FOK.mk KF rfl Jv rfl,FOK.mk KF rfl Jv rfl,FOK.mk KF rfl Jv rfl,FOK.mk KF rfl K2 rfl,FOK.mk KF rfl Jv rfl,FOK.mk KF rfl Jv rfl,FOK.mk KC rfl JO rfl,FOK.mk KC rfl Ld rfl,trivial⟩
def DZ:List Nat := [3,9,28,74]
theorem bD:NOK Tryz.prog DZ:=⟨Jy,JZ,KW,Lk,trivial⟩
theorem oG:Tryz.prog.follows .mixedOrders=true:=by kernel_rfl
theorem vD:BOK Tryz.prog 171 #[.string ⟨#[]⟩,.slice none 0 0] [(0,1),(1,1)]:=BOK.mk Tryz.zeroValue171 KC (by intro w; simp)
theorem t8:SOK Tryz.prog 28 171 1 2 #[.string ⟨#[]⟩,.slice none 0 0]:=SOK.mk J0 Ko Tryz.zeroValue171 Md Me
theorem lf:SOK Tryz.prog 74 3 1 1 #[.int .i64 0]:=SOK.mk J5 Jv Tryz.zeroValue3 Md Me
theorem t9:SOK Tryz.prog 78 9 1 1 #[.string ⟨#[]⟩]:=SOK.mk Kx JO Tryz.zeroValue9 Md Me
theorem nS:(Tryz.prog.info? 3).map (fun i=>(i.zero,i.size,i.bytes))=some (some (.int .i64 0),1,8):=by kernel_rfl
theorem yr:(Tryz.prog.info? 9).map (fun i=>(i.zero,i.size,i.bytes))=some (some (.string ⟨#[]⟩),1,16):=by kernel_rfl
theorem vE:(Tryz.prog.info? 171).map (fun i=>(i.zero,i.size,i.bytes))=some (some (.agg #[.string ⟨#[]⟩,.slice none 0 0]),2,40):=by kernel_rfl
def cz:List Int->(List UInt8×Int)->Option (List UInt8×Int)
 | [],st24=>some st24
 | x29::xs,st24=>(dA st24 x29 4).bind fun st33=>cz xs st33
def cA:List Top->(List UInt8×Int)->Option (List UInt8×Int)
 | [],st6=>some st6
 | x11::xs,st6=>(iO st6 x11.IW).bind fun st19=>(dA st19 (x11.IH.length:Int) 4).bind fun st21=>(cz x11.IH st21).bind fun st36=>cA xs st36
def et (st:List UInt8×Int) (a1:List Top):Option (List UInt8×Int):=(dA st (a1.length:Int) 4).bind fun st3=>(cA a1 st3).bind fun st38=>some st38
theorem iT (g:Nat) (st:List UInt8×Int) (a1:List Top) (A1:Option Addr) (c2:Nat) (r:List UInt8×Int) (h:et st a1=some r):aC Tryz.prog 91 #[jP g,.slice A1 a1.length c2] (RX.of (ai 2 aZ) [.slice A1 a1.length c2] a1) (bp g st) (fun v A' N=>v= .tuple #[]/\A'=bp g r/\N = []):=by
 refine aU Tryz.func91 Z Tryz.ntmps91 Z ?_;intro F w hX;unfold et at h;refine Gq Z (Gp ag 2 Z (Gr Z (GK Z J0) Z ?_));obtain⟨st3,hx4,h⟩:=Jn h;refine Gy 0 Z Z .u (.fn Tryz.call51 Z) (bh g st (a1.length:Int) 4 _ hx4) sT Z Z (GG Z (Gp ag 1 Z (Gr Z (GK Z J0) Z (Gx ag Z (T.block ?_)))));obtain⟨E7,hE8,hO9⟩:=Jn h;have hk13len:=Ha hX;refine Hl (fun m e Rs=> ∃ (k5:Nat) (st6:List UInt8×Int),k5+m=a1.length/\e = [(0,jP g),(12,.slice A1 a1.length c2),(13,jI (a1.length:Int)),(14,jI (k5:Int))]/\Rs = [bp g st6]/\cA (a1.drop k5) st6=some E7) (a1.length) [0] ⟨0,st3,by simp,Z,Z,by rw[List.drop_zero]; exact hE8⟩ Mf Mf ?_;clear hE8 h;rintro m10 _ _ ⟨k5,st6,hk13,rfl,rfl,h⟩
 cases m10 with
 | zero =>
  rw[List.drop_of_length_le Mc,cA] at h;have hk13ge: ¬ ((k5:Int)<(a1.length:Int)):=by omega
  refine Gq Z (Gx ag Z (T.seq (GU Z (Jr hk13ge) ?_)));obtain rfl:=Jp h;obtain rfl:=Jp hO9;exact T.exit (GL (GL (Hi (Ht [0] Tryz.results91 ⟨Z,Z,Z⟩ Mf (.inr Z)))))
 | succ m10 =>
  obtain⟨x11,hxx11⟩: ∃ x,a1[k5]? = some x:=⟨_,List.getElem?_eq_getElem Mc⟩;rw[bz hxx11,cA] at h;have hk13lt:(k5:Int)<(a1.length:Int):=by omega
  refine Gq Z (Gx ag Z (T.seq (GF Z (Jq hk13lt) ?_)));obtain⟨gz14,oz14,rfl,z14cs,z14cl,z14cc,z14nf,z14r⟩:=G4 Md hX hxx11;obtain⟨z14S,z14r,z14rr⟩:=z14r;obtain⟨A15,c16,rfl,z14s0⟩:=z14r;have hX17:(RX.of (ai 1 mH) [.slice A15 x11.IH.length c16] x11.IH).reads w F:=⟨z14S,z14s0,z14rr⟩;refine GQ (T.seq (T.block (Gq Z ?_)));refine Gr Z (GS (k:=k5) Z Z Z J0 Ko (Jt hxx11).1) Z ?_;refine Gr Z (Ho (us := [jS x11.IW,.slice A15 x11.IH.length c16]) 0 Z Tryz.isAgg171 Ko z14nf z14cc Z Z Z) Z (TL.alloc Z .u Tryz.zeroValue171 Z (fun b18=>(GC 0 Z (cs':= #[jS x11.IW,.slice A15 x11.IH.length c16]) Z .u Z Z Ko Z Z Z Z Z (GG Z ?_))));obtain⟨st19,hx20,h⟩:=Jn h;refine Gt ag bD 0 Z 3 Z Z (Gy 1 Z Z .u (.fn Tryz.call88 Z) (jO g st6 x11.IW _ hx20) sT Z Z (GG Z (Gt ag bD 0 Z 3 Z Z (Gr Z (GK Z J5) Z ?_))));obtain⟨st21,hx22,h⟩:=Jn h;refine Gy 1 Z Z .u (.fn Tryz.call51 Z) (bh g st19 (x11.IH.length:Int) 4 _ hx22) sT Z Z (GG Z (Gt ag bD 0 Z 2 Z Z (Gr Z (GK Z J5) Z (Gx ag Z (T.block ?_)))));obtain⟨E25,hE26,hO27⟩:=Jn h;have hk31len:=Ha hX17;refine Hl (fun m e Rs=> ∃ (k23:Nat) (st24:List UInt8×Int),k23+m=x11.IH.length/\e = [(0,jP g),(12,.slice (some ⟨gz14,oz14,none⟩) a1.length c2),(13,jI (a1.length:Int)),(14,jI (k5:Int)),(28,.slice A15 x11.IH.length c16),(29,jI (x11.IH.length:Int)),(30,jI (k23:Int))]/\Rs = [aN b18 171 #[jS x11.IW,.slice A15 x11.IH.length c16],bp g st24]/\cz (x11.IH.drop k23) st24=some E25) (x11.IH.length) [0,0] ⟨0,st21,by simp,Z,Z,by rw[List.drop_zero]; exact hE26⟩ Mf Mf ?_;clear hE26 h;rintro m28 _ _ ⟨k23,st24,hk31,rfl,rfl,h⟩
  cases m28 with
  | zero =>
   rw[List.drop_of_length_le Mc,cz] at h;have hk31ge: ¬ ((k23:Int)<(x11.IH.length:Int)):=by omega
   refine Gq Z (Gx ag Z (T.seq (GU Z (Jr hk31ge) ?_)));obtain rfl:=Jp h;replace h:=hO27;clear hO27;exact T.exit (GL (GL (Hi (GN (X.seq (T.region Z (Gr Z (Ex.add Z Z Mc) Z (Gp ag 1 Z (TL.nil (X.back (m':=m10) [1] Mc ⟨k5+1,st24,by omega,Z,Z,h⟩ Mf Mf))))))))))
  | succ m28 =>
   obtain⟨x29,hxx29⟩: ∃ x,x11.IH[k23]? = some x:=⟨_,List.getElem?_eq_getElem Mc⟩;rw[bz hxx29,cz] at h;have hk31lt:(k23:Int)<(x11.IH.length:Int):=by omega
   refine Gq Z (Gx ag Z (T.seq (GF Z (Jq hk31lt) ?_)));obtain⟨gz32,oz32,rfl,z32cs,z32cl,z32cc,z32nf,z32r⟩:=G4 Md hX17 hxx29;obtain⟨z32S,z32r,z32rr⟩:=z32r;obtain rfl:z32cs = [jI x29]:=z32r;refine GQ (T.seq (T.block (Gq Z ?_)));refine Gr Z (GS (k:=k23) Z Z Z J5 Jv (Jt hxx29).1) Z ?_;refine Gr Z (Hr 0 Z Jy z32nf z32cc Z Z) Z (Gx ag Z (T.region Z ?_));obtain⟨st33,hx34,h⟩:=Jn h;exact Gp ag 2 Z (Gy 1 Z Z .u (.fn Tryz.call51 Z) (bh g st24 x29 4 _ hx34) sT Z Z (TL.nil (GN (X.seq (T.region Z (Gr Z (Ex.add Z Z Mc) Z (Gp ag 1 Z (TL.nil (X.back (m':=m28) [0,0] Mc ⟨k23+1,st33,by omega,Z,Z,h⟩ Mf Mf)))))))))
def kF (a0:Int):Option (Bool):=if a0=0 then some true else (if a0>=4 then some true else some false)
theorem qw (a0:Int) (r:Bool) (h:kF a0=some r):aC Tryz.prog 145 #[jI a0] .triv (aO) (fun v A' N=>v= .bool r/\A'=aO/\N = []):=by
 refine aU Tryz.func145 Z Tryz.ntmps145 Z ?_;intro F w hX;unfold kF at h;refine Gq Z (GP ag Z Z ?_);rcases jF h with⟨c1,h⟩ | ⟨c1,h⟩
 ·refine Gp ag 3 Z (GA 5 Z (Jq c1) (GB ag 4 Z ?_));obtain rfl:=Jp h;exact Gs (T.ret (GD [0] Tryz.results145 (Gu Z)))
 refine Gp ag 3 Z (GA 5 Z (Jr c1) (GB ag 4 Z ?_));rcases jF h with⟨c2,h⟩ | ⟨c2,h⟩
 ·obtain rfl:=Jp h;exact Gs (T.ret (GV [0] Tryz.results145 (Gu (v:= .bool true) (congrArg (fun b=>some (Value.bool b)) (Jq c2))) ⟨Z,Z,Z⟩ Mf (.inl Z)))
 obtain rfl:=Jp h;exact Gs (T.ret (GV [0] Tryz.results145 (Gu (v:= .bool false) (congrArg (fun b=>some (Value.bool b)) (Jr c2))) ⟨Z,Z,Z⟩ Mf (.inl Z)))
def cB (a0:List Int):Nat->Bool->Int->Option (Lp Bool (Bool×Int))
 | 0,_,_=>none
 | m8+1,y3,y4=>if y4<(a0.length:Int) then (if -9223372036854775808<=(y4 - 1)/\(y4 - 1)<=9223372036854775807 then (if 0<=(y4 - 1) then ((a0[(y4 - 1).toNat]?).bind fun x15=>if 0<=y4 then ((a0[y4.toNat]?).bind fun x19=>if x15>=x19 then some (Lp.ret false) else (if -9223372036854775808<=(y4+1)/\(y4+1)<=9223372036854775807 then (cB a0 m8 y3 (y4+1)) else none)) else none) else none) else none) else (some (Lp.go (y3,y4)))
def fo (a0:List Int):Option (Bool):=(cB a0 ((((a0.length:Int)) - (1)).toNat+1) false 1).bind fun e=>match e with | .ret r=>some r | .go (y24,y25)=>some true
theorem mK (a0:List Int) (A1:Option Addr) (c2:Nat) (r:Bool) (h:fo a0=some r):aC Tryz.prog 218 #[.slice A1 a0.length c2] (RX.of (ai 1 mH) [.slice A1 a0.length c2] a0) (aO) (fun v A' N=>v= .bool r/\A'=aO/\N = []):=by
 refine aU Tryz.func218 Z Tryz.ntmps218 Z ?_;intro F w hX;unfold fo at h;refine Gq Z (Gx ag Z (T.seq (Gq Z (Gx ag Z (T.block ?_)))));obtain⟨E5,hE6,hO7⟩:=Jn h;refine Hl (fun m e Rs=> ∃ (y3:Bool) (y4:Int),e = [(0,.slice A1 a0.length c2),(2,.bool y3),(3,jI y4)]/\Rs = [aO]/\cB a0 m y3 y4=some E5) ((((a0.length:Int)) - (1)).toNat+1) [0] ⟨false,1,Z,Z,by exact hE6⟩ Mf Mf ?_;clear hE6 h;rintro m8 _ _ ⟨y3,y4,rfl,rfl,h⟩
 cases m8 with
 | zero =>
  rw[cB] at h;cases h
 | succ m8 =>
  rw[cB] at h;refine T.seq (Gq Z (Gp ag 2 Z (Gr Z (GK Z J5) Z (Gp ag 1 Z ?_))));rcases jF h with⟨c12,h⟩ | ⟨c12,h⟩
  ·refine Hg Z c12 ?_;refine GQ (T.seq (T.block (T.seq (G6 (.q 0 (.q 1 (.q 2 (.q 3 (.q 4 (.q 5 (.q 6 (.q 7 (.q 8 (.q 9 .nil)))))))))) [0] Z oG (NoP.seq (NoP.blk (NoP.seq (NoP.seq (NoP.blk (NoP.seq bA)))))) Me ?_))));obtain⟨c13,h⟩:=aE h;refine TD.run ag [0,1] Z Z (Gw Z (Ex.sub Z Z c13) Z ?_);obtain⟨c14,h⟩:=aE h;obtain⟨x15,hx16,h⟩:=Jn h;obtain⟨gz17,oz17,rfl,z17cs,z17cl,z17cc,z17nf,z17r⟩:=G4 Md hX hx16;obtain⟨z17S,z17r,z17rr⟩:=z17r;obtain rfl:z17cs = [jI x15]:=z17r;refine Gw Z (GS (k:=(y4 - 1).toNat) Z Z ((Int.toNat_of_nonneg c14).symm) J5 Jv (Jt hx16).1) Z ?_;refine Gw Z (Hr 0 Z Jy z17nf z17cc Z Z) Z ?_;obtain⟨c18,h⟩:=aE h;obtain⟨x19,hx20,h⟩:=Jn h;obtain⟨z21cs,z21cl,z21cc,z21nf,z21r⟩:=RX.elem' Md hX hx20;obtain⟨z21S,z21r,z21rr⟩:=z21r;obtain rfl:z21cs = [jI x19]:=z21r;refine TD.run ag [5,6] Z Z ?_;refine Gw Z (GS (k:=y4.toNat) Z Z ((Int.toNat_of_nonneg c18).symm) J5 Jv (Jt hx20).1) Z ?_;refine Gw Z (Hr 0 Z Jy z21nf z21cc Z Z) Z (TD.run ag [9] Z Z ?_);rcases jF h with⟨c22,h⟩ | ⟨c22,h⟩
   ·refine Hp (HX Z c22 (Gq Z (Gp ag 1 Z ?_)));obtain rfl:=Jp h;obtain rfl:=Jp hO7;exact Gs (T.ret (GI (Gv (Gv (GI (Gv (GD [0] Tryz.results218 (Gu Z))))))))
   refine Hp (HY Z c22 (T.skip (GN (X.seq (T.region Z ?_)))));obtain⟨c23,h⟩:=aE h;exact Gp ag 1 Z (Gr Z (Ex.add Z Z c23) Z (Gp ag 1 Z (TL.nil (X.back (m':=m8) [0] Mc ⟨y3,(y4+1),Z,Z,h⟩ Mf Mf))))
  refine Hh Z c12 ?_;obtain rfl:=Jp h;replace h:=hO7;clear hO7;refine T.exit (GL (GL (Hi (X.seq (Gq Z (Gp ag 1 Z ?_))))));obtain rfl:=Jp h;exact Gs (T.ret (GD [0] Tryz.results218 (Gu Z)))
def d8:List Int->Bool->Option (Lp Bool Bool)
 | [],y3=>some (Lp.go y3)
 | x9::xs,y3=>if x9<0 then some (Lp.ret false) else ((ib x9 4).bind fun x14=>if x14=true then (d8 xs y3) else some (Lp.ret false))
def ip (a0:List Int):Option (Bool):=(d8 a0 false).bind fun e=>match e with | .ret r=>some r | .go y17=>(if (a0.length:Int)>0 then ((fo a0).bind fun x20=>some x20) else some false)
theorem px (a0:List Int) (A1:Option Addr) (c2:Nat) (r:Bool) (h:ip a0=some r):aC Tryz.prog 189 #[.slice A1 a0.length c2] (RX.of (ai 1 mH) [.slice A1 a0.length c2] a0) (aO) (fun v A' N=>v= .bool r/\A'=aO/\N = []):=by
 refine aU Tryz.func189 Z Tryz.ntmps189 Z ?_;intro F w hX;unfold ip at h;refine Gq Z (Gx ag Z (T.seq (Gq Z (Gp ag 1 Z (Gr Z (GK Z J5) Z (Gx ag Z (T.block ?_)))))));obtain⟨E5,hE6,hO7⟩:=Jn h;have hk11len:=Ha hX;refine Hl (fun m e Rs=> ∃ (y3:Bool) (k4:Nat),k4+m=a0.length/\e = [(0,.slice A1 a0.length c2),(2,.bool y3),(5,.slice A1 a0.length c2),(6,jI (a0.length:Int)),(7,jI (k4:Int))]/\Rs = [aO]/\d8 (a0.drop k4) y3=some E5) (a0.length) [0] ⟨false,0,by simp,Z,Z,by rw[List.drop_zero]; exact hE6⟩ Mf Mf ?_;clear hE6 h;rintro m8 _ _ ⟨y3,k4,hk11,rfl,rfl,h⟩
 cases m8 with
 | zero =>
  rw[List.drop_of_length_le Mc,d8] at h;have hk11ge: ¬ ((k4:Int)<(a0.length:Int)):=by omega
  refine Gq Z (Gx ag Z (T.seq (GU Z (Jr hk11ge) ?_)));obtain rfl:=Jp h;replace h:=hO7;clear hO7;refine T.exit (GL (GL (Hi (X.seq (Gq Z (Gp ag 1 Z (Gr Z (GK Z J5) Z ?_)))))));rcases jF h with⟨c22,h⟩ | ⟨c22,h⟩
  ·refine Gp ag 2 Z (GA 22 Z (Jq c22) ?_);obtain⟨x23,hx24,h⟩:=Jn h;refine GB ag 1 Z (GT Z (.g Z Z Z) (.fn Tryz.call218 Z) (mK a0 _ _ _ hx24) (fun _ hs=>(GJ hs hX)) Z (GB ag 2 Z ?_));obtain rfl:=Jp h;exact Gs (T.ret (GD [0] LY (Gu Z)))
  refine Gp ag 2 Z (GA 22 Z (Jr c22) (GB ag 4 Z ?_));obtain rfl:=Jp h;exact Gs (T.ret (GD [0] LY (Gu Z)))
 | succ m8 =>
  obtain⟨x9,hxx9⟩: ∃ x,a0[k4]? = some x:=⟨_,List.getElem?_eq_getElem Mc⟩;rw[bz hxx9,d8] at h;have hk11lt:(k4:Int)<(a0.length:Int):=by omega
  refine Gq Z (Gx ag Z (T.seq (GF Z (Jq hk11lt) ?_)));obtain⟨gz12,oz12,rfl,z12cs,z12cl,z12cc,z12nf,z12r⟩:=G4 Md hX hxx9;obtain⟨z12S,z12r,z12rr⟩:=z12r;obtain rfl:z12cs = [jI x9]:=z12r;refine GQ (T.seq (T.block (Gq Z ?_)));refine Gr Z (GS (k:=k4) Z Z Z J5 Jv (Jt hxx9).1) Z ?_;refine Gr Z (Hr 0 Z Jy z12nf z12cc Z Z) Z (GP ag Z Z ?_);rcases jF h with⟨c13,h⟩ | ⟨c13,h⟩
  ·refine Gp ag 3 Z (GA 13 Z (Jq c13) (Hz ag Z (GF Z Z (Gq Z (Gp ag 1 Z ?_)))));obtain rfl:=Jp h;obtain rfl:=Jp hO7;exact Gs (T.ret (GI (Gv (Gv (GI (Gv (GD [0] LY (Gu Z))))))))
  refine Gp ag 3 Z (GA 13 Z (Jr c13) ?_);obtain⟨x14,hx15,h⟩:=Jn h;refine GB ag 1 Z (GT Z (.g Z Z Z) (.fn Tryz.call101 Z) (Hk (fun w=>db x9 4 _ hx15 w)) (fun _ _=>G5 _ _) Z (GB ag 2 Z ?_));rcases jF h with⟨c16,h⟩ | ⟨c16,h⟩
  ·exact Gs (GU Z (bd c16) (T.skip (GN (X.seq (T.region Z (Gr Z (Ex.add Z Z Mc) Z (Gp ag 1 Z (TL.nil (X.back (m':=m8) [0] Mc ⟨y3,k4+1,by omega,Z,Z,h⟩ Mf Mf)))))))))
  replace c16:=Ju c16;refine Gs (GF Z (bM c16) (Gq Z (Gp ag 1 Z ?_)));obtain rfl:=Jp h;obtain rfl:=Jp hO7;exact Gs (T.ret (GI (Gv (Gv (GI (Gv (GD [0] LY (Gu Z))))))))
def bV (a0:List (List UInt8)):Nat->Bool->Int->Option (Lp Bool (Bool×Int))
 | 0,_,_=>none
 | m8+1,y3,y4=>if y4<(a0.length:Int) then (if -9223372036854775808<=(y4 - 1)/\(y4 - 1)<=9223372036854775807 then (if 0<=(y4 - 1) then ((a0[(y4 - 1).toNat]?).bind fun x15=>if 0<=y4 then ((a0[y4.toNat]?).bind fun x19=>if (Op.bytesLess x15 x19)=true then (if -9223372036854775808<=(y4+1)/\(y4+1)<=9223372036854775807 then (bV a0 m8 y3 (y4+1)) else none) else some (Lp.ret false)) else none) else none) else none) else (some (Lp.go (y3,y4)))
def ek (a0:List (List UInt8)):Option (Bool):=(bV a0 ((((a0.length:Int)) - (1)).toNat+1) false 1).bind fun e=>match e with | .ret r=>some r | .go (y24,y25)=>some true
theorem lz (a0:List (List UInt8)) (A1:Option Addr) (c2:Nat) (r:Bool) (h:ek a0=some r):aC Tryz.prog 190 #[.slice A1 a0.length c2] (RX.of (ai 1 lx) [.slice A1 a0.length c2] a0) (aO) (fun v A' N=>v= .bool r/\A'=aO/\N = []):=by
 refine aU Tryz.func190 Z Tryz.ntmps190 Z ?_;intro F w hX;unfold ek at h;refine Gq Z (Gx ag Z (T.seq (Gq Z (Gx ag Z (T.block ?_)))));obtain⟨E5,hE6,hO7⟩:=Jn h;refine Hl (fun m e Rs=> ∃ (y3:Bool) (y4:Int),e = [(0,.slice A1 a0.length c2),(2,.bool y3),(3,jI y4)]/\Rs = [aO]/\bV a0 m y3 y4=some E5) ((((a0.length:Int)) - (1)).toNat+1) [0] ⟨false,1,Z,Z,by exact hE6⟩ Mf Mf ?_;clear hE6 h;rintro m8 _ _ ⟨y3,y4,rfl,rfl,h⟩
 cases m8 with
 | zero =>
  rw[bV] at h;cases h
 | succ m8 =>
  rw[bV] at h;refine T.seq (Gq Z (Gp ag 2 Z (Gr Z (GK Z Kx) Z (Gp ag 1 Z ?_))));rcases jF h with⟨c12,h⟩ | ⟨c12,h⟩
  ·refine Hg Z c12 ?_;refine GQ (T.seq (T.block (T.seq (G6 (.q 0 (.q 1 (.q 2 (.q 3 (.q 4 (.q 5 (.q 6 (.q 7 (.q 8 (.q 9 .nil)))))))))) [0] Z oG (NoP.seq (NoP.blk (NoP.seq (NoP.seq (NoP.blk (NoP.seq bA)))))) Me ?_))));obtain⟨c13,h⟩:=aE h;refine TD.run ag [0,1] Z Z (Gw Z (Ex.sub Z Z c13) Z ?_);obtain⟨c14,h⟩:=aE h;obtain⟨x15,hx16,h⟩:=Jn h;obtain⟨gz17,oz17,rfl,z17cs,z17cl,z17cc,z17nf,z17r⟩:=G4 Md hX hx16;obtain⟨z17S,z17r,z17rr⟩:=z17r;obtain rfl:z17cs = [jS x15]:=z17r;refine Gw Z (GS (k:=(y4 - 1).toNat) Z Z ((Int.toNat_of_nonneg c14).symm) Kx JO (Jt hx16).1) Z ?_;refine Gw Z (Hr 0 Z JZ z17nf z17cc Z Z) Z ?_;obtain⟨c18,h⟩:=aE h;obtain⟨x19,hx20,h⟩:=Jn h;obtain⟨z21cs,z21cl,z21cc,z21nf,z21r⟩:=RX.elem' Md hX hx20;obtain⟨z21S,z21r,z21rr⟩:=z21r;obtain rfl:z21cs = [jS x19]:=z21r;refine TD.run ag [5,6] Z Z ?_;refine Gw Z (GS (k:=y4.toNat) Z Z ((Int.toNat_of_nonneg c18).symm) Kx JO (Jt hx20).1) Z ?_;refine Gw Z (Hr 0 Z JZ z21nf z21cc Z Z) Z (Gw Z (Ex.sGe Z Z) Z ?_);rcases jF h with⟨c22,h⟩ | ⟨c22,h⟩
   ·refine Hp (GU Z (bd c22) (T.skip (GN (X.seq (T.region Z ?_)))));obtain⟨c23,h⟩:=aE h;exact Gp ag 1 Z (Gr Z (Ex.add Z Z c23) Z (Gp ag 1 Z (TL.nil (X.back (m':=m8) [0] Mc ⟨y3,(y4+1),Z,Z,h⟩ Mf Mf))))
   replace c22:=Ju c22;refine Hp (GF Z (bM c22) (Gq Z (Gp ag 1 Z ?_)));obtain rfl:=Jp h;obtain rfl:=Jp hO7;exact Gs (T.ret (GI (Gv (Gv (GI (Gv (GD [0] Tryz.results190 (Gu Z))))))))
  refine Hh Z c12 ?_;obtain rfl:=Jp h;replace h:=hO7;clear hO7;refine T.exit (GL (GL (Hi (X.seq (Gq Z (Gp ag 1 Z ?_))))));obtain rfl:=Jp h;exact Gs (T.ret (GD [0] Tryz.results190 (Gu Z)))
def de:List Top->Bool->List (List UInt8)->Option (Lp Bool (Bool×List (List UInt8)))
 | [],y3,y4=>some (Lp.go (y3,y4))
 | x12::xs,y3,y4=>if x12.IW = [] then some (Lp.ret false) else (if (x12.IW.length:Int)>32767 then some (Lp.ret false) else ((ip x12.IH).bind fun x22=>if x22=true then (if (y4.length+1)*16<=140737488355328 then (de xs y3 (y4 ++ [x12.IW])) else none) else some (Lp.ret false)))
def eo (a0:List Top):Option (Bool):=(de a0 false []).bind fun e=>match e with | .ret r=>some r | .go (y29,y30)=>((ek y30).bind fun x34=>some x34)
theorem fD (a0:List Top) (A1:Option Addr) (c2:Nat) (r:Bool) (h:eo a0=some r):aC Tryz.prog 146 #[.slice A1 a0.length c2] (RX.of (ai 2 aZ) [.slice A1 a0.length c2] a0) (aO) (fun v A' N=>v= .bool r/\A'=aO/\N = []):=by
 refine aU Tryz.func146 Z Tryz.ntmps146 Z ?_;intro F w hX;unfold eo at h;refine Gq Z (GP ag Z Z (Gx ag Z (T.seq (Gq Z (Gp ag 1 Z (Gr Z (GK Z J0) Z (Gp ag 1 Z ?_)))))));refine Gs (T.block (HK 9 1 lx ?_));obtain⟨E8,hE9,hO10⟩:=Jn h;have hk14len:=Ha hX;refine Hl (fun m e Rs=> ∃ (y3:Bool) (y4:List (List UInt8)) (A5:Option Addr) (c6:Nat) (k7:Nat),k7+m=a0.length/\e = [(2,.bool y3),(3,.slice A5 y4.length c6),(6,.slice A1 a0.length c2),(7,jI (a0.length:Int)),(8,jI (k7:Int))]/\Rs = [ci 9 1 lx (.slice A5 y4.length c6) y4,aO]/\de (a0.drop k7) y3 y4=some E8) (a0.length) [0,0] ⟨false,[],none,0,0,by simp,Z,Z,by rw[List.drop_zero]; exact hE9⟩ Mf Mf ?_;clear hE9 h;rintro m11 _ _ ⟨y3,y4,A5,c6,k7,hk14,rfl,rfl,h⟩
 cases m11 with
 | zero =>
  rw[List.drop_of_length_le Mc,de] at h;have hk14ge: ¬ ((k7:Int)<(a0.length:Int)):=by omega
  refine Gq Z (Gx ag Z (T.seq (GU Z (Jr hk14ge) ?_)));obtain rfl:=Jp h;replace h:=hO10;clear hO10;refine T.exit (GL (GL (Hi (X.seq (Gq Z ?_)))));obtain⟨x36,hx37,h⟩:=Jn h;refine Gp ag 1 Z (GT Z .u (.fn Tryz.call190 Z) (lz y4 _ _ _ hx37) (fun _ hs=>(SrcE.res 0 hs Z (fun w G h=>dG Md w G h))) Z (Gp ag 1 Z ?_));obtain rfl:=Jp h;exact Gs (T.ret (GD [1] LZ (Gu Z)))
 | succ m11 =>
  obtain⟨x12,hxx12⟩: ∃ x,a0[k7]? = some x:=⟨_,List.getElem?_eq_getElem Mc⟩;rw[bz hxx12,de] at h;have hk14lt:(k7:Int)<(a0.length:Int):=by omega
  refine Gq Z (Gx ag Z (T.seq (GF Z (Jq hk14lt) ?_)));obtain⟨gz15,oz15,rfl,z15cs,z15cl,z15cc,z15nf,z15r⟩:=G4 Md hX hxx12;obtain⟨z15S,z15r,z15rr⟩:=z15r;obtain⟨A16,c17,rfl,z15s0⟩:=z15r;have hX18:(RX.of (ai 1 mH) [.slice A16 x12.IH.length c17] x12.IH).reads w F:=⟨z15S,z15s0,z15rr⟩;refine GQ (T.seq (T.block (Gq Z ?_)));refine Gr Z (GS (k:=k7) Z Z Z J0 Ko (Jt hxx12).1) Z ?_;refine Gr Z (Ho (us := [jS x12.IW,.slice A16 x12.IH.length c17]) 0 Z Tryz.isAgg171 Ko z15nf z15cc Z Z Z) Z (TL.alloc Z .u Tryz.zeroValue171 Z (fun b19=>(GC 0 Z (cs':= #[jS x12.IW,.slice A16 x12.IH.length c17]) Z .u Z Z Ko Z Z Z Z Z (Gs (T.seq (Gq Z (Gt ag bD 0 Z 2 Z Z (Gr Z (Ex.sEq Z (m := []) Z) Z ?_))))))));rcases jF h with⟨c20,h⟩ | ⟨c20,h⟩
  ·refine Gp ag 1 Z (GA 15 Z (Jq c20) (Hz ag Z (GF Z Z (Gq Z (Gp ag 1 Z ?_)))));obtain rfl:=Jp h;obtain rfl:=Jp hO10;exact Gs (T.ret (Gv (GI (Gv (Gv (GI (Gv (GD [2] LZ (Gu Z)))))))))
  refine Gp ag 1 Z (GA 15 Z (Jr c20) (Gt ag bD 0 Z 2 Z Z (TL.q Z (.g Z Z Z) (Hv Z JJ) Z ?_)));rcases jF h with⟨c21,h⟩ | ⟨c21,h⟩
  ·refine GB ag 3 Z (GA 21 Z (Jq c21) (Hz ag Z (GF Z Z (Gq Z (Gp ag 1 Z ?_)))));obtain rfl:=Jp h;obtain rfl:=Jp hO10;exact Gs (T.ret (Gv (GI (Gv (Gv (GI (Gv (GD [2] LZ (Gu Z)))))))))
  refine GB ag 3 Z (GA 21 Z (Jr c21) ?_);obtain⟨x22,hx23,h⟩:=Jn h;refine Gt ag bD 0 Z 2 Z Z (GT Z (.g Z Z Z) (.fn Tryz.call189 Z) (px x12.IH _ _ _ hx23) (fun _ hs=>(GJ hs hX18)) Z (GB ag 2 Z ?_));rcases jF h with⟨c24,h⟩ | ⟨c24,h⟩
  ·refine Gs (GU Z (bd c24) (GQ (T.region Z (Gt ag bD 0 Z 3 Z Z (Ib (cells:= #[jS x12.IW]) Z .u t9 Z Mf Z (fun b25=> ?_))))));obtain⟨c26,h⟩:=aE h;refine TL.app1 1 Z .u (us := [jS x12.IW]) (u:=x12.IW) (l:=y4) (E:=lx) Tryz.underlying78 yr Z Md Z Z Z Z Z Z (fun _ _=>Z) (by have hq:=c26; omega) (by have hq:=c26; omega) Z (fun A27 c28=> ?_);exact Hc [0,0,0] Z (Gp ag 1 Z (TL.nil (GN (X.seq (T.region Z (Gr Z (Ex.add Z Z Mc) Z (Gp ag 1 Z (TL.nil (X.back (m':=m11) [1,1] Mc ⟨y3,(y4 ++ [x12.IW]),A27,c28,k7+1,by omega,Z,Z,h⟩ Mf Mf)))))))))
  replace c24:=Ju c24;refine Gs (GF Z (bM c24) (Gq Z (Gp ag 1 Z ?_)));obtain rfl:=Jp h;obtain rfl:=Jp hO10;exact Gs (T.ret (Gv (GI (Gv (Gv (GI (Gv (GD [2] LZ (Gu Z)))))))))
def iq (a0:Val):Option (Int):=if a0.ID<0 then some 11 else (if a0.IF<0 then some 11 else ((ib a0.IF 2).bind fun x6=>if x6=true then (if a0.II<0 then some 11 else ((ib a0.II 4).bind fun x10=>if x10=true then (if a0.Jm<0 then some 11 else (if a0.Jl<(-1) then some 11 else (if a0.Jk<0 then some 12 else (if a0.Jk>=7 then some 12 else ((kF a0.Jk).bind fun x17=>if x17=true then (if (a0.IC.length:Int)=0 then (if a0.Jk=0 then (if a0.Jl=(-1) then ((eo a0.IC).bind fun x23=>if x23=true then some 0 else some 13) else some 10) else (if a0.Jl=(-1) then some 10 else ((eo a0.IC).bind fun x27=>if x27=true then some 0 else some 13))) else some 10) else (if (a0.IC.length:Int)=0 then some 10 else (if a0.Jk=0 then (if a0.Jl=(-1) then ((eo a0.IC).bind fun x33=>if x33=true then some 0 else some 13) else some 10) else (if a0.Jl=(-1) then some 10 else ((eo a0.IC).bind fun x37=>if x37=true then some 0 else some 13))))))))) else some 11)) else some 11))
theorem pz (a0:Val) (A1:Option Addr) (c2:Nat) (r:Int) (h:iq a0=some r):aC Tryz.prog 90 #[.agg #[jI a0.ID,jI a0.IF,jI a0.II,jI a0.Jk,.slice A1 a0.IC.length c2,jI a0.Jm,jI a0.Jl]] (RX.of (ai 2 aZ) [.slice A1 a0.IC.length c2] a0.IC) (aO) (fun v A' N=>v=jI r/\A'=aO/\N = []):=by
 refine aU Tryz.func90 Z Tryz.ntmps90 Z ?_;intro F w hX;unfold iq at h;refine Gq Z (TL.box Z .u Z Z (fun b3=>(Gx ag Z (T.seq (T.block (Gq Z ?_))))));rcases jF h with⟨c4,h⟩ | ⟨c4,h⟩
 ·refine Gt ag bD 0 Z 4 Z Z (GA 7 Z (Jq c4) (Hz ag Z (GF Z Z (Gq Z (Gp ag 1 Z ?_)))));obtain rfl:=Jp h;exact Gs (T.ret (GI (Gv (GD [1] J4 (Gu Z)))))
 refine Gt ag bD 0 Z 4 Z Z (GA 7 Z (Jr c4) ?_);rcases jF h with⟨c5,h⟩ | ⟨c5,h⟩
 ·refine Gt ag bD 0 Z 5 Z Z (GA 12 Z (Jq c5) (Hz ag Z (GF Z Z (Gq Z (Gp ag 1 Z ?_)))));obtain rfl:=Jp h;exact Gs (T.ret (GI (Gv (GD [1] J4 (Gu Z)))))
 refine Gt ag bD 0 Z 5 Z Z (GA 12 Z (Jr c5) ?_);obtain⟨x6,hx7,h⟩:=Jn h;refine Gt ag bD 0 Z 2 Z Z (GT Z (.g Z Z Z) (.fn Tryz.call101 Z) (Hk (fun w=>db a0.IF 2 _ hx7 w)) (fun _ _=>G5 _ _) Z ?_);rcases jF h with⟨c8,h⟩ | ⟨c8,h⟩
 ·refine GB ag 3 Z (GA 18 Z (bd c8) ?_);rcases jF h with⟨c9,h⟩ | ⟨c9,h⟩
  ·refine Gt ag bD 0 Z 5 Z Z (GA 23 Z (Jq c9) (Hz ag Z (GF Z Z (Gq Z (Gp ag 1 Z ?_)))));obtain rfl:=Jp h;exact Gs (T.ret (GI (Gv (GD [1] J4 (Gu Z)))))
  refine Gt ag bD 0 Z 5 Z Z (GA 23 Z (Jr c9) ?_);obtain⟨x10,hx11,h⟩:=Jn h;refine Gt ag bD 0 Z 2 Z Z (GT Z (.g Z Z Z) (.fn Tryz.call101 Z) (Hk (fun w=>db a0.II 4 _ hx11 w)) (fun _ _=>G5 _ _) Z ?_);rcases jF h with⟨c12,h⟩ | ⟨c12,h⟩
  ·refine GB ag 3 Z (GA 29 Z (bd c12) ?_);rcases jF h with⟨c13,h⟩ | ⟨c13,h⟩
   ·refine Gt ag bD 0 Z 5 Z Z (GA 34 Z (Jq c13) (Hz ag Z (GF Z Z (Gq Z (Gp ag 1 Z ?_)))));obtain rfl:=Jp h;exact Gs (T.ret (GI (Gv (GD [1] J4 (Gu Z)))))
   refine Gt ag bD 0 Z 5 Z Z (GA 34 Z (Jr c13) (Gt ag bD 0 Z 5 Z Z ?_));rcases jF h with⟨c14,h⟩ | ⟨c14,h⟩
   ·refine Hg Z c14 (Gq Z (Gp ag 1 Z ?_));obtain rfl:=Jp h;exact Gs (T.ret (GI (Gv (GD [1] J4 (Gu Z)))))
   refine Hh Z c14 (Gq Z ?_);rcases jF h with⟨c15,h⟩ | ⟨c15,h⟩
   ·refine Gt ag bD 0 Z 4 Z Z (GA 43 Z (Jq c15) (Hz ag Z (GF Z Z (Gq Z (Gp ag 1 Z ?_)))));obtain rfl:=Jp h;exact Gs (T.ret (GI (Gv (GD [1] J4 (Gu Z)))))
   refine Gt ag bD 0 Z 4 Z Z (GA 43 Z (Jr c15) (Gt ag bD 0 Z 5 Z Z ?_));rcases jF h with⟨c16,h⟩ | ⟨c16,h⟩
   ·refine Hg Z c16 (Gq Z (Gp ag 1 Z ?_));obtain rfl:=Jp h;exact Gs (T.ret (GI (Gv (GD [1] J4 (Gu Z)))))
   refine Hh Z c16 ?_;refine T.seq (G6 (.q 0 (.q 1 (.q 3 (.q 4 (.q 5 (.q 6 (.e 2 (.q 7 (.q 8 (.q 9 (.q 10 (.q 11 (.q 12 (.q 13 (.q 14 (.q 15 (.q 16 (.q 17 .nil)))))))))))))))))) [0,0] Z oG (NoP.seq (NoP.blk (NoP.seq bA))) Me ?_);refine TD.run ag [0] Z Z (Gw Z (GM 0 Z Jy Z Z) Z (TD.run ag [3] Z Z (Gw Z (GM 0 Z KW Z Z) Z (Gw Z (GK Z J0) Z ?_))));obtain⟨x17,hx18,h⟩:=Jn h;refine TD.run ag [6] Z Z (Ih Z .u (.fn Tryz.call145 Z) (qw a0.Jk _ hx18) rT Z [0,0] (Z) ?_);rcases jF h with⟨c19,h⟩ | ⟨c19,h⟩
   ·rcases jF h with⟨c20,h⟩ | ⟨c20,h⟩
    ·refine Gw Z (HM Z c19 Z (Jq c20) JR) Z (TD.run ag [8] Z Z (TD.q Z (.g Z Z Z) (G7 ag Z) Z (TD.q Z (.g Z Z Z) (GM 0 Z Jy Z Z) Z ?_)));iterate 2 refine TD.q Z (.g Z Z Z) (G7 ag Z) Z ?_
     refine TD.q Z (.g Z Z Z) (GM 0 Z Jy Z Z) Z (TD.q Z (.g Z Z Z) (G7 ag Z) Z ?_);rcases jF h with⟨c21,h⟩ | ⟨c21,h⟩
     ·rcases jF h with⟨c22,h⟩ | ⟨c22,h⟩
      ·refine TD.q Z (.g Z Z Z) (HM Z (Jq c21) Z (Jq c22) JR) Z (Gw Z (Hq Z Z Z) Z (TD.run ag [17] Z Z (Hp (GU Z Z (Gq Z ?_)))));obtain⟨x23,hx24,h⟩:=Jn h;refine Gt ag bD 0 Z 2 Z Z (GT Z .u (.fn Tryz.call146 Z) (fD a0.IC _ _ _ hx24) (fun _ hs=>(GJ hs hX)) Z (Gp ag 2 Z ?_));rcases jF h with⟨c25,h⟩ | ⟨c25,h⟩
       ·refine Gs (GU Z (bd c25) (T.skip (GN (X.seq (Gq Z (Gp ag 1 Z ?_))))));obtain rfl:=Jp h;exact Gs (T.ret (GD [1] J4 (Gu Z)))
       replace c25:=Ju c25;refine Gs (GF Z (bM c25) (Gq Z (Gp ag 1 Z ?_)));obtain rfl:=Jp h;exact Gs (T.ret (GI (Gv (GD [1] J4 (Gu Z)))))
      refine TD.q Z (.g Z Z Z) (HM Z (Jq c21) Z (Jr c22) JR) Z (Gw Z (Hq Z Z Z) Z (TD.run ag [17] Z Z (Hp (GF Z Z (Gq Z (Gp ag 1 Z ?_))))));obtain rfl:=Jp h;exact Gs (T.ret (GI (Gv (GD [1] J4 (Gu Z)))))
     rcases jF h with⟨c26,h⟩ | ⟨c26,h⟩
     ·refine TD.q Z (.g Z Z Z) (HM Z (Jr c21) Z (Jq c26) JR) Z (Gw Z (Hq Z Z Z) Z (TD.run ag [17] Z Z (Hp (GF Z Z (Gq Z (Gp ag 1 Z ?_))))));obtain rfl:=Jp h;exact Gs (T.ret (GI (Gv (GD [1] J4 (Gu Z)))))
     refine TD.q Z (.g Z Z Z) (HM Z (Jr c21) Z (Jr c26) JR) Z (Gw Z (Hq Z Z Z) Z (TD.run ag [17] Z Z (Hp (GU Z Z (Gq Z ?_)))));obtain⟨x27,hx28,h⟩:=Jn h;refine Gt ag bD 0 Z 2 Z Z (GT Z .u (.fn Tryz.call146 Z) (fD a0.IC _ _ _ hx28) (fun _ hs=>(GJ hs hX)) Z (Gp ag 2 Z ?_));rcases jF h with⟨c29,h⟩ | ⟨c29,h⟩
     ·refine Gs (GU Z (bd c29) (T.skip (GN (X.seq (Gq Z (Gp ag 1 Z ?_))))));obtain rfl:=Jp h;exact Gs (T.ret (GD [1] J4 (Gu Z)))
     replace c29:=Ju c29;refine Gs (GF Z (bM c29) (Gq Z (Gp ag 1 Z ?_)));obtain rfl:=Jp h;exact Gs (T.ret (GI (Gv (GD [1] J4 (Gu Z)))))
    refine Gw Z (HM Z c19 Z (Jr c20) JR) Z (TD.run ag [8] Z Z ?_);iterate 7 refine He Z (.gn Z Z Z) Z ?_
    refine Gw Z (Hy Z Z Z) Z (TD.run ag [17] Z Z (Hp (GF Z Z (Gq Z (Gp ag 1 Z ?_)))));obtain rfl:=Jp h;exact Gs (T.ret (GI (Gv (GD [1] J4 (Gu Z)))))
   replace c19:=Ju c19;rcases jF h with⟨c30,h⟩ | ⟨c30,h⟩
   ·refine Gw Z (HM Z c19 Z (Jq c30) JR) Z (TD.run ag [8] Z Z ?_);iterate 7 refine He Z (.gn Z Z Z) Z ?_
    refine Gw Z (Hy Z Z Z) Z (TD.run ag [17] Z Z (Hp (GF Z Z (Gq Z (Gp ag 1 Z ?_)))));obtain rfl:=Jp h;exact Gs (T.ret (GI (Gv (GD [1] J4 (Gu Z)))))
   refine Gw Z (HM Z c19 Z (Jr c30) JR) Z (TD.run ag [8] Z Z (TD.q Z (.g Z Z Z) (G7 ag Z) Z (TD.q Z (.g Z Z Z) (GM 0 Z Jy Z Z) Z ?_)));iterate 2 refine TD.q Z (.g Z Z Z) (G7 ag Z) Z ?_
   refine TD.q Z (.g Z Z Z) (GM 0 Z Jy Z Z) Z (TD.q Z (.g Z Z Z) (G7 ag Z) Z ?_);rcases jF h with⟨c31,h⟩ | ⟨c31,h⟩
   ·rcases jF h with⟨c32,h⟩ | ⟨c32,h⟩
    ·refine TD.q Z (.g Z Z Z) (HM Z (Jq c31) Z (Jq c32) JR) Z (Gw Z (Hq Z Z Z) Z (TD.run ag [17] Z Z (Hp (GU Z Z (Gq Z ?_)))));obtain⟨x33,hx34,h⟩:=Jn h;refine Gt ag bD 0 Z 2 Z Z (GT Z .u (.fn Tryz.call146 Z) (fD a0.IC _ _ _ hx34) (fun _ hs=>(GJ hs hX)) Z (Gp ag 2 Z ?_));rcases jF h with⟨c35,h⟩ | ⟨c35,h⟩
     ·refine Gs (GU Z (bd c35) (T.skip (GN (X.seq (Gq Z (Gp ag 1 Z ?_))))));obtain rfl:=Jp h;exact Gs (T.ret (GD [1] J4 (Gu Z)))
     replace c35:=Ju c35;refine Gs (GF Z (bM c35) (Gq Z (Gp ag 1 Z ?_)));obtain rfl:=Jp h;exact Gs (T.ret (GI (Gv (GD [1] J4 (Gu Z)))))
    refine TD.q Z (.g Z Z Z) (HM Z (Jq c31) Z (Jr c32) JR) Z (Gw Z (Hq Z Z Z) Z (TD.run ag [17] Z Z (Hp (GF Z Z (Gq Z (Gp ag 1 Z ?_))))));obtain rfl:=Jp h;exact Gs (T.ret (GI (Gv (GD [1] J4 (Gu Z)))))
   rcases jF h with⟨c36,h⟩ | ⟨c36,h⟩
   ·refine TD.q Z (.g Z Z Z) (HM Z (Jr c31) Z (Jq c36) JR) Z (Gw Z (Hq Z Z Z) Z (TD.run ag [17] Z Z (Hp (GF Z Z (Gq Z (Gp ag 1 Z ?_))))));obtain rfl:=Jp h;exact Gs (T.ret (GI (Gv (GD [1] J4 (Gu Z)))))
   refine TD.q Z (.g Z Z Z) (HM Z (Jr c31) Z (Jr c36) JR) Z (Gw Z (Hq Z Z Z) Z (TD.run ag [17] Z Z (Hp (GU Z Z (Gq Z ?_)))));obtain⟨x37,hx38,h⟩:=Jn h;refine Gt ag bD 0 Z 2 Z Z (GT Z .u (.fn Tryz.call146 Z) (fD a0.IC _ _ _ hx38) (fun _ hs=>(GJ hs hX)) Z (Gp ag 2 Z ?_));rcases jF h with⟨c39,h⟩ | ⟨c39,h⟩
   ·refine Gs (GU Z (bd c39) (T.skip (GN (X.seq (Gq Z (Gp ag 1 Z ?_))))));obtain rfl:=Jp h;exact Gs (T.ret (GD [1] J4 (Gu Z)))
   replace c39:=Ju c39;refine Gs (GF Z (bM c39) (Gq Z (Gp ag 1 Z ?_)));obtain rfl:=Jp h;exact Gs (T.ret (GI (Gv (GD [1] J4 (Gu Z)))))
  replace c12:=Ju c12;refine GB ag 3 Z (GA 29 Z (bM c12) (Hz ag Z (GF Z Z (Gq Z (Gp ag 1 Z ?_)))));obtain rfl:=Jp h;exact Gs (T.ret (GI (Gv (GD [1] J4 (Gu Z)))))
 replace c8:=Ju c8;refine GB ag 3 Z (GA 18 Z (bM c8) (Hz ag Z (GF Z Z (Gq Z (Gp ag 1 Z ?_)))));obtain rfl:=Jp h;exact Gs (T.ret (GI (Gv (GD [1] J4 (Gu Z)))))
def cv (x24:Int):Nat->Nat->List Int->I->Option (Nat×List Int×I)
 | 0,_,_,_=>none
 | m35+1,k27,y28,st31=>if (k27:Int)<x24 then ((dB st31 4).bind fun (x40,st41)=>if (y28.length+1)*8<=140737488355328 then (if -9223372036854775808<=((k27:Int)+1)/\((k27:Int)+1)<=9223372036854775807 then (cv x24 m35 (k27+1) (y28 ++ [x40]) st41) else none) else none) else some (k27,y28,st31)
def bQ (x1:Int):Nat->List Top->List Top->Nat->I->Option (Lp (List Top×I) (List Top×List Top×Nat×I))
 | 0,_,_,_,_=>none
 | m15+1,y4,y7,k10,st11=>if (k10:Int)<x1 then ((qg st11).bind fun (x20,st21)=>(ie st21 4 4).bind fun (x24,st25)=>(cv x24 ((x24).toNat+1) 0 [] st25).bind fun (k57,y58,st61)=>if (y7.length+1)*40<=140737488355328 then ((gt st61).bind fun (x66,st67)=>if x66=0 then (if -9223372036854775808<=((k10:Int)+1)/\((k10:Int)+1)<=9223372036854775807 then (bQ x1 m15 y4 (y7 ++ [(⟨x20,y58⟩:Top)]) (k10+1) st67) else none) else (some (Lp.ret ([],st67)))) else none) else (some (Lp.go (y4,y7,k10,st11)))
def dr (st:I)  : Option (List Top×I):=(ie st 4 6).bind fun (x1,st2)=>(bQ x1 ((x1).toNat+1) [] [] 0 st2).bind fun e=>match e with | .ret r=>some r | .go (y71,y74,k77,st78)=>some (y74,st78)
theorem kv (g:Nat) (st:I)  (r:List Top×I) (h:dr st  = some r):aC Tryz.prog 89 #[jP g] .triv (InR g st) (fun v A' N=> ∃ (A79:Option Addr) (c80:Nat),v= .slice A79 r.1.length c80/\A'=InR g r.2/\N = [RdR (ai 2 aZ) [.slice A79 r.1.length c80] r.1]):=by
 refine aU Tryz.func89 Z Tryz.ntmps89 Z ?_;intro F w hX;unfold dr at h;refine Gq Z (GP ag Z Z (Gx ag Z (T.seq (Gq Z ?_))));obtain⟨⟨x1,st2⟩,hx3,h⟩:=Jn h;refine Gp ag 1 Z (Gy 0 Z Z .u (.fn Tryz.call144 Z) (jY g st 4 6 _ hx3) sT Z Z (Gx ag Z (T.block ?_)));iterate 2 refine HK 171 2 aZ ?_
 obtain⟨E12,hE13,hO14⟩:=Jn h;refine Hl (fun m e Rs=> ∃ (y4:List Top) (A5:Option Addr) (c6:Nat) (y7:List Top) (A8:Option Addr) (c9:Nat) (k10:Nat) (st11:I),e = [(0,jP g),(2,.slice A5 y4.length c6),(3,.slice A8 y7.length c9),(6,jI x1),(7,jI (k10:Int))]/\Rs = [ci 171 2 aZ (.slice A5 y4.length c6) y4,ci 171 2 aZ (.slice A8 y7.length c9) y7,InR g st11]/\bQ x1 m y4 y7 k10 st11=some E12) ((x1).toNat+1) [0,0,0] ⟨[],none,0,[],none,0,0,st2,Z,Z,by exact hE13⟩ Mf Mf ?_;clear hE13 h;rintro m15 _ _ ⟨y4,A5,c6,y7,A8,c9,k10,st11,rfl,rfl,h⟩
 cases m15 with
 | zero =>
  rw[bQ] at h;cases h
 | succ m15 =>
  rw[bQ] at h;refine Gq Z (Gp ag 1 Z ?_);rcases jF h with⟨c19,h⟩ | ⟨c19,h⟩
  ·refine Gs (T.seq (HX Z c19 (GQ (T.seq (T.block (Gq Z ?_))))));obtain⟨⟨x20,st21⟩,hx22,h⟩:=Jn h;refine Gp ag 1 Z (Gy 2 Z Z .u (.fn Tryz.call86 Z) (mD g st11 _ hx22) sT Z Z ?_);refine Gr Z (GW (cells:= #[jS x20,.slice none 0 0]) vD Z Me) Z ?_;refine TL.alloc Z .u Tryz.zeroValue171 Z (fun b23=>(GC 0 Z (cs':= #[jS x20,.slice none 0 0]) Z .u Z Z Ko Z Z Z Z Z (Gs (T.seq (Gq Z ?_)))));obtain⟨⟨x24,st25⟩,hx26,h⟩:=Jn h;refine Gp ag 1 Z (Gy 3 Z Z .u (.fn Tryz.call144 Z) (jY g st21 4 4 _ hx26) sT Z Z (Gx ag Z (T.block (HK 3 1 mH ?_))));obtain⟨E32,hE33,hO34⟩:=Jn h;refine Hl (fun m e Rs=> ∃ (k27:Nat) (y28:List Int) (A29:Option Addr) (c30:Nat) (st31:I),e = [(0,jP g),(2,.slice A5 y4.length c6),(3,.slice A8 y7.length c9),(4,jP b23),(6,jI x1),(7,jI (k10:Int)),(13,jI x24),(14,jI (k27:Int))]/\Rs = [ci 3 1 mH (.slice A29 y28.length c30) y28,aN b23 171 #[jS x20,.slice A29 y28.length c30],ci 171 2 aZ (.slice A5 y4.length c6) y4,ci 171 2 aZ (.slice A8 y7.length c9) y7,InR g st31]/\cv x24 m k27 y28 st31=some E32) ((x24).toNat+1) [0,0,0,0,0] ⟨0,[],none,0,st25,Z,Z,by exact hE33⟩ Mf Mf ?_;clear hE33 h;rintro m35 _ _ ⟨k27,y28,A29,c30,st31,rfl,rfl,h⟩
   cases m35 with
   | zero =>
    rw[cv] at h;cases h
   | succ m35 =>
    rw[cv] at h;refine Gq Z (Gp ag 1 Z ?_);rcases jF h with⟨c39,h⟩ | ⟨c39,h⟩
    ·refine Gs (T.seq (HX Z c39 ?_));obtain⟨⟨x40,st41⟩,hx42,h⟩:=Jn h;try dsimp only at h
     obtain⟨c44,h⟩:=aE h;refine GQ (T.seq (T.block ?_));refine Ix (fun e Rs=> ∃ (b43:Nat) (A45:Option Addr) (c46:Nat),e = [(0,jP g),(2,.slice A5 y4.length c6),(3,.slice A8 y7.length c9),(4,jP b23),(6,jI x1),(7,jI (k10:Int)),(13,jI x24),(14,jI (k27:Int))]/\Rs = [ci 3 1 mH (.slice A45 (y28 ++ [x40]).length c46) (y28 ++ [x40]),aN b23 171 #[jS x20,.slice A45 (y28 ++ [x40]).length c46],ci 171 2 aZ (.slice A5 y4.length c6) y4,ci 171 2 aZ (.slice A8 y7.length c9) y7,InR g st41]) ?_ ?_
     ·refine G6 (.q 0 (.q 2 (.br 1 (.e 3 (.e 4 (.e 5 (.q 6 (.e 7 .nil))))) (.e 3 (.br 1 (.e 4 (.e 5 (.q 6 (.e 7 .nil)))) (.e 4 (.e 1 (.e 5 (.q 6 (.e 7 .nil)))))))))) [2,2] Z oG tV Me ?_;refine TD.run ag [0,2] Z Z ?_;refine TD.br ?_ ?_
      ·refine Id Z .u (GM 1 Z Lk Z Z) Z [2,2] Z (Hs 4 Z Z .u (.fn Tryz.call68 Z) (bl g st31 4 _ hx42) sT Z Z [2,2] (Z) (H6 (cells:= #[jI x40]) Z .u lf Z Mf Z [3,3] (fun _=>Z) (fun b43=> ?_)));refine TD.app1 0 Z .u (us := [jI x40]) (u:=x40) (l:=y28) (E:=mH) Tryz.underlying74 nS Z Md Z Z Z Z Z Z (fun _ _=>Z) (by have hq:=c44; omega) (by have hq:=c44; omega) Z [2,2] (fun _ _=>Z) (fun A45 c46=> ?_);exact Hx [0,0,0,0,0] Z (TD.run ag [6] Z Z (Hw 1 Z (cs':= #[jS x20,.slice A45 (y28 ++ [x40]).length c46]) Z .u Z Z Ld Z Z Z Z Z [2,2] (Z) (TD.nil (Ij [0,0,0,0,0] ⟨b43,A45,c46,Z,Z⟩ Mf Mf))))
      refine Hs 4 Z Z .u (.fn Tryz.call68 Z) (bl g st31 4 _ hx42) sT Z Z [2,2] (Z) ?_;refine TD.br ?_ ?_
      ·refine Id Z .u (GM 1 Z Lk Z Z) Z [2,2] Z (H6 (cells:= #[jI x40]) Z .u lf Z Mf Z [3,3] (fun _=>Z) (fun b43=> ?_));refine TD.app1 0 Z .u (us := [jI x40]) (u:=x40) (l:=y28) (E:=mH) Tryz.underlying74 nS Z Md Z Z Z Z Z Z (fun _ _=>Z) (by have hq:=c44; omega) (by have hq:=c44; omega) Z [2,2] (fun _ _=>Z) (fun A45 c46=> ?_);exact Hx [0,0,0,0,0] Z (TD.run ag [6] Z Z (Hw 1 Z (cs':= #[jS x20,.slice A45 (y28 ++ [x40]).length c46]) Z .u Z Z Ld Z Z Z Z Z [2,2] (Z) (TD.nil (Ij [0,0,0,0,0] ⟨b43,A45,c46,Z,Z⟩ Mf Mf))))
      refine H6 (cells:= #[jI x40]) Z .u lf Z Mf Z [3,3] (fun _=>Z) (fun b43=>(Id Z .u (GM 2 Z Lk Z Z) Z [3,3] Z ?_));refine TD.app1 0 Z .u (us := [jI x40]) (u:=x40) (l:=y28) (E:=mH) Tryz.underlying74 nS Z Md Z Z Z Z Z Z (fun _ _=>Z) (by have hq:=c44; omega) (by have hq:=c44; omega) Z [2,2] (fun _ _=>Z) (fun A45 c46=> ?_);exact Hx [0,0,0,0,0] Z (TD.run ag [6] Z Z (Hw 1 Z (cs':= #[jS x20,.slice A45 (y28 ++ [x40]).length c46]) Z .u Z Z Ld Z Z Z Z Z [2,2] (Z) (TD.nil (Ij [0,0,0,0,0] ⟨b43,A45,c46,Z,Z⟩ Mf Mf))))
     rintro _ _ ⟨b43,A45,c46,rfl,rfl⟩;obtain⟨c47,h⟩:=aE h;exact GN (X.seq (T.region Z (Gr Z (Ex.add Z Z c47) Z (Gp ag 1 Z (TL.nil (X.back (m':=m35) [0,0,0,0,0] Mc ⟨k27+1,(y28 ++ [x40]),A45,c46,st41,Z,Z,h⟩ Mf Mf))))))
    refine Gs (T.seq (HY Z c39 ?_));obtain rfl:=Jp h;replace h:=hO34;clear hO34;refine T.exit (GL (GL (Hi (X.seq (Gq Z (Gp ag 1 Z (Gr Z (GH (us := [jS x20,.slice A29 y28.length c30]) 1 Z Tryz.isAgg171 Ko Z Z Z) Z (Ib (cells:= #[jS x20,.slice A29 y28.length c30]) Z .u t8 Z Mf Z (fun b48=> ?_)))))))));obtain⟨c49,h⟩:=aE h;refine Iu 3 0 Z .u (us := [jS x20,.slice A29 y28.length c30]) (u:=(⟨x20,y28⟩:Top)) (l:=y7) (E:=aZ) Tryz.underlying28 vE Z Md Z Z Z Z Z Z Z (fun w G hG=>⟨_,_,Z,dG Md _ _ hG⟩) (by have hq:=c49; omega) (by have hq:=c49; omega) Z (fun A50 c51=> ?_);refine Hc [0,0,0,0] Z (GP ag Z Z ?_);obtain⟨⟨x52,st53⟩,hx54,h⟩:=Jn h;refine Gp ag 1 Z (Gy 3 Z Z .u (.fn Tryz.call23 Z) (bY g st31 _ hx54) sT Z Z (Gp ag 1 Z ?_));rcases jF h with⟨c55,h⟩ | ⟨c55,h⟩
    ·refine GY Z c55 ?_;obtain⟨c56,h⟩:=aE h;exact T.skip (GN (X.seq (T.region Z (Gr Z (Ex.add Z Z c56) Z (Gp ag 1 Z (TL.nil (X.back (m':=m15) [2,0,1] Mc ⟨y4,A5,c6,(y7 ++ [(⟨x20,y28⟩:Top)]),A50,c51,k10+1,st53,Z,Z,h⟩ Mf Mf)))))))
    refine GX Z c55 (Gq Z (Gp ag 1 Z ?_));obtain rfl:=Jp h;obtain rfl:=Jp hO14;exact Gs (T.ret (GI (Gv (Gv (GI (Gv (GO 2 aZ (GV [4,0] Tryz.results89 (Gu Z) ⟨_,_,Z,Z,Z⟩ Mf (.inl Z)))))))))
  refine Gs (T.seq (HY Z c19 ?_));obtain rfl:=Jp h;replace h:=hO14;clear hO14;refine T.exit (GL (GL (Hi (X.seq (Gq Z (Gp ag 2 Z ?_))))));obtain rfl:=Jp h;exact Gs (T.ret (Ip Md 1 Z (G8 [0,0,0] Z (GV [2,1] Tryz.results89 (Gu Z) ⟨_,_,Z,Z,Z⟩ Mf (.inl Z)))))
def ft_txn:ey := [(23,0,0),(23,1,1),(27,0,0),(27,1,2),(27,2,3),(27,3,4),(30,0,0),(30,1,1),(30,2,2),(30,3,3),(32,0,0),(32,1,1),(32,2,2),(32,3,3)]
theorem ak:(ft_txn).OK Tryz.prog:=⟨FOK.mk JT rfl JW rfl,FOK.mk JT rfl JO rfl,FOK.mk KA rfl JB rfl,FOK.mk KA rfl Jv rfl,FOK.mk KA rfl Jv rfl,FOK.mk KA rfl Jv rfl,FOK.mk Kq rfl JO rfl,FOK.mk Kq rfl Jv rfl,FOK.mk Kq rfl Jv rfl,FOK.mk Kq rfl K2 rfl,FOK.mk Kr rfl JO rfl,FOK.mk Kr rfl Jv rfl,FOK.mk Kr rfl Jv rfl,FOK.mk Kr rfl JW rfl,trivial⟩
def nt_txn:List Nat := [3,4,9,28]
theorem bP:NOK Tryz.prog nt_txn:=⟨Jy,Ky,JZ,KW,trivial⟩
theorem qx (v : Value) (w : World) : (method (Tryz.prog.types.size + Made.depth) 30 v "Check").run Tryz.prog w = .ok (170, v) w := tZ (k := Tryz.prog.types.size + Made.depth - 1) Me Me Kq v w
theorem qy (v : Value) (w : World) : (method (Tryz.prog.types.size + Made.depth) 32 v "Check").run Tryz.prog w = .ok (172, v) w := tZ (k := Tryz.prog.types.size + Made.depth - 1) Me Me Kr v w
theorem ua:BOK Tryz.prog 27 #[.bool false,.string ⟨#[]⟩,.int .i64 0,.int .i64 0,.int .i64 0] [(0,2),(2,1),(3,1),(4,1)]:=BOK.mk Tryz.zeroValue27 KA (by intro w; simp)
theorem ub:BOK Tryz.prog 30 #[.string ⟨#[]⟩,.int .i64 0,.int .i64 0,.slice none 0 0] [(0,1),(1,1),(2,1),(3,1)]:=BOK.mk Tryz.zeroValue30 Kq (by intro w; simp)
theorem uc:BOK Tryz.prog 32 #[.string ⟨#[]⟩,.int .i64 0,.int .i64 0,.bool false] [(0,1),(1,1),(2,1),(3,1)]:=BOK.mk Tryz.zeroValue32 Kr (by intro w; simp)
theorem yt:BOK Tryz.prog 103 #[.int .i64 0,.int .i64 0,.int .i64 0,.int .i64 0,.slice none 0 0,.int .i64 0,.int .i64 0] [(0,1),(1,1),(2,1),(3,1),(4,1),(5,1),(6,1)]:=BOK.mk Tryz.zeroValue103 KF (by intro w; simp)
def iB (st:List UInt8×Int) (a1:Int):Option (Bool×(List UInt8×Int)):=(if a1=0 then some st else ((jw st a1).bind fun st7=>some st7)).bind fun st4=>if a1=0 then some (false,st4) else some (true,st4)
theorem ki (g:Nat) (st:List UInt8×Int) (a1:Int) (r:Bool×(List UInt8×Int)) (h:iB st a1=some r):aC Tryz.prog 151 #[jP g,jI a1] .triv (bp g st) (fun v A' N=>v= .bool r.1/\A'=bp g r.2/\N = []):=by
 refine aU Tryz.func151 Z Tryz.ntmps151 Z ?_;intro F w hX;unfold iB at h;refine Gq Z (Gx ak Z (T.seq (Gq Z (Gx ak Z ?_))));obtain⟨st4,h,hk5⟩:=Jn h;refine Hj (fun e Rs=>e = [(1,jI a1),(4,.bool false)]/\Rs = [bp g st4]) ?_ ?_
 ·clear hk5;rcases jF h with⟨c6,h⟩ | ⟨c6,h⟩
  ·refine T.nn Z c6 ?_;cases h;exact T.skip (GE [0])
  refine T.yn Z c6 (T.region Z ?_);obtain⟨st7,hx8,h⟩:=Jn h;refine Gp ak 2 Z (Gy 0 Z Z .u (.fn Tryz.call94 Z) (fT g st a1 _ hx8) sT Z Z ?_);cases h;exact TL.nil (GE [0])
 rintro _ _ ⟨rfl,rfl⟩;clear h;have h:=hk5;clear hk5;refine X.seq (Gq Z (Gp ak 3 Z ?_));rcases jF h with⟨c9,h⟩ | ⟨c9,h⟩
 ·obtain rfl:=Jp h;exact Gs (T.ret (GV [0] Tryz.results151 (Gu (v:= .bool false) (congrArg (fun b=>some (Value.bool b)) (bd (Jq c9)))) ⟨Z,Z,Z⟩ Mf (.inl Z)))
 obtain rfl:=Jp h;exact Gs (T.ret (GV [0] Tryz.results151 (Gu (v:= .bool true) (congrArg (fun b=>some (Value.bool b)) (bM (Jr c9)))) ⟨Z,Z,Z⟩ Mf (.inl Z)))
def iI (a0:Int) (a1:Int):Option (Bool):=(if a0>=0 then (if a1>=0 then ((ib a1 2).bind fun x9=>some x9) else some false) else some false).bind fun y5=>some y5
theorem iU (a0:Int) (a1:Int) (r:Bool) (h:iI a0 a1=some r):aC Tryz.prog 192 #[jI a0,jI a1] .triv (aO) (fun v A' N=>v= .bool r/\A'=aO/\N = []):=by
 refine aU Tryz.func192 Z Tryz.ntmps192 Z ?_;intro F w hX;unfold iI at h;refine Gq Z (Gx ak Z (T.seq ?_));obtain⟨y5,h,hk6⟩:=Jn h;refine Hj (fun e Rs=>e = [(4,.bool y5)]/\Rs = [aO]) ?_ ?_
 ·clear hk6;refine T.region Z ?_;rcases jF h with⟨c7,h⟩ | ⟨c7,h⟩
  ·refine Gp ak 3 Z (GA 7 Z (Jq c7) ?_);rcases jF h with⟨c8,h⟩ | ⟨c8,h⟩
   ·refine GB ak 4 Z (GA 11 Z (Jq c8) ?_);obtain⟨x9,hx10,h⟩:=Jn h;refine GB ak 1 Z (GT Z (.g Z Z Z) (.fn Tryz.call101 Z) (Hk (fun w=>db a1 2 _ hx10 w)) (fun _ _=>G5 _ _) Z (GB ak 2 Z ?_));cases h;exact TL.nil (GE [0])
   refine GB ak 4 Z (GA 11 Z (Jr c8) (GB ak 4 Z ?_));cases h;exact TL.nil (GE [0])
  refine Gp ak 3 Z (GA 7 Z (Jr c7) (GB ak 8 Z ?_));cases h;exact TL.nil (GE [0])
 rintro _ _ ⟨rfl,rfl⟩;clear h;have h:=hk6;clear hk6;obtain rfl:=Jp h;exact X.seq (T.ret (GD [0] Tryz.results192 (Gu Z)))
def eR (a0:aT) (a1:Int):Option (Int):=(if a0.ID=(-1) then (if a0.IF=(-1) then some true else some false) else some false).bind fun y3=>((nK a0.IJ).bind fun x15=>if x15=true then (if a0.IJ.null=true then some false else ((lF a0.IJ.data).bind fun x19=>if x19=true then some false else some true)) else some true).bind fun y13=>if y13=true then some 4 else ((if a0.II<0 then some true else ((ib a0.II 4).bind fun x29=>if x29=true then some false else some true)).bind fun y26=>(if y26=true then some true else ((if y3=true then some false else (if a1>0 then ((iI a0.ID a0.IF).bind fun x55=>if x55=true then some false else some true) else some true)).bind fun y51=>some y51)).bind fun y44=>if y44=true then some 11 else some 0)
theorem jr (a0:aT) (a1:Int) (r:Int) (h:eR a0 a1=some r):aC Tryz.prog 152 #[.agg #[.bool a0.IJ.null,jS a0.IJ.data,jI a0.II,jI a0.ID,jI a0.IF],jI a1] .triv (aO) (fun v A' N=>v=jI r/\A'=aO/\N = []):=by
 refine aU Tryz.func152 Z Tryz.ntmps152 Z ?_;intro F w hX;unfold eR at h;refine Gq Z (TL.box Z .u Z Z (fun b1=>(Gx ak Z (T.seq ?_))));obtain⟨y3,h,hk4⟩:=Jn h;refine Hj (fun e Rs=>e = [(1,jI a1),(2,jP b1),(4,jI 0),(5,.bool y3)]/\Rs = [aN b1 27 #[.bool a0.IJ.null,jS a0.IJ.data,jI a0.II,jI a0.ID,jI a0.IF],aO]) ?_ ?_
 ·clear hk4;refine T.region Z ?_;rcases jF h with⟨c5,h⟩ | ⟨c5,h⟩
  ·refine Gt ak bP 0 Z 4 Z Z (GA 9 Z (Jq c5) (Gt ak bP 0 Z 5 Z Z ?_));rcases jF h with⟨c6,h⟩ | ⟨c6,h⟩
   ·cases h;exact TL.nil (Hn (d:=5) (v':= .bool true) Z (congrArg Value.bool (Jq c6)) (GE [0,0]))
   cases h;exact TL.nil (Hn (d:=5) (v':= .bool false) Z (congrArg Value.bool (Jr c6)) (GE [0,0]))
  refine Gt ak bP 0 Z 4 Z Z (GA 9 Z (Jr c5) (GB ak 5 Z ?_));cases h;exact TL.nil (GE [0,0])
 rintro _ _ ⟨rfl,rfl⟩;clear h;have h:=hk4;clear hk4;refine X.seq (T.seq (T.block (T.seq ?_)));obtain⟨y13,h,hk14⟩:=Jn h;refine Hj (fun e Rs=>e = [(1,jI a1),(2,jP b1),(4,jI 0),(5,.bool y3),(14,.bool y13)]/\Rs = [aN b1 27 #[.bool a0.IJ.null,jS a0.IJ.data,jI a0.II,jI a0.ID,jI a0.IF],aO]) ?_ ?_
 ·clear hk14;refine T.region Z (Gp ak 1 Z (Gr Z (GH (us:=wL6 a0.IJ) 0 Z JY JB Z Z Z) Z ?_));obtain⟨x15,hx16,h⟩:=Jn h;refine GT Z .u (.fn Tryz.call148 Z) (lE a0.IJ _ hx16) rT Z ?_;rcases jF h with⟨c17,h⟩ | ⟨c17,h⟩
  ·refine Gp ak 2 Z (GA 19 Z (bd c17) ?_);rcases jF h with⟨c18,h⟩ | ⟨c18,h⟩
   ·refine Gt ak bP 0 Z 5 Z Z (GA 24 Z (bd c18) (GB ak 8 Z ?_));cases h;exact TL.nil (GE [0,0])
   replace c18:=Ju c18;refine Gt ak bP 0 Z 5 Z Z (GA 24 Z (bM c18) ?_);obtain⟨x19,hx20,h⟩:=Jn h;refine Gt ak bP 0 Z 3 Z Z (GT Z (.g Z Z Z) (.fn Tryz.call87 Z) (Hk (fun w=>kE a0.IJ.data _ hx20 w)) (fun _ _=>G5 _ _) Z (GB ak 4 Z ?_));rcases jF h with⟨c21,h⟩ | ⟨c21,h⟩
   ·cases h;exact TL.nil (Hn (d:=14) (v':= .bool false) Z (congrArg Value.bool (bd c21)) (GE [0,0]))
   replace c21:=Ju c21;cases h;exact TL.nil (Hn (d:=14) (v':= .bool true) Z (congrArg Value.bool (bM c21)) (GE [0,0]))
  replace c17:=Ju c17;refine Gp ak 2 Z (GA 19 Z (bM c17) (GB ak 13 Z ?_));cases h;exact TL.nil (GE [0,0])
 rintro _ _ ⟨rfl,rfl⟩;clear h;have h:=hk14;clear hk14;try dsimp only at h
 rcases jF h with⟨c22,h⟩ | ⟨c22,h⟩
 ·refine X.seq (GF Z c22 (Gq Z (Gp ak 1 Z ?_)));obtain rfl:=Jp h;exact Gs (T.ret (GI (Gv (GD [1] Tryz.results152 (Gu Z)))))
 replace c22:=Ju c22;refine X.seq (GU Z c22 (Ig ?_));obtain⟨y26,h,hk27⟩:=Jn h;refine Hj (fun e Rs=>e = [(1,jI a1),(2,jP b1),(4,jI 0),(5,.bool y3),(32,.bool y26)]/\Rs = [aN b1 27 #[.bool a0.IJ.null,jS a0.IJ.data,jI a0.II,jI a0.ID,jI a0.IF],aO]) ?_ ?_
 ·clear hk27;refine T.region Z ?_;rcases jF h with⟨c28,h⟩ | ⟨c28,h⟩
  ·refine Gt ak bP 0 Z 4 Z Z (GA 36 Z (Jq c28) (GB ak 6 Z ?_));cases h;exact TL.nil (GE [0,0])
  refine Gt ak bP 0 Z 4 Z Z (GA 36 Z (Jr c28) ?_);obtain⟨x29,hx30,h⟩:=Jn h;refine Gt ak bP 0 Z 2 Z Z (GT Z (.g Z Z Z) (.fn Tryz.call101 Z) (Hk (fun w=>db a0.II 4 _ hx30 w)) (fun _ _=>G5 _ _) Z (GB ak 3 Z ?_));rcases jF h with⟨c31,h⟩ | ⟨c31,h⟩
  ·cases h;exact TL.nil (Hn (d:=32) (v':= .bool false) Z (congrArg Value.bool (bd c31)) (GE [0,0]))
  replace c31:=Ju c31;cases h;exact TL.nil (Hn (d:=32) (v':= .bool true) Z (congrArg Value.bool (bM c31)) (GE [0,0]))
 rintro _ _ ⟨rfl,rfl⟩;clear h;have h:=hk27;clear hk27;refine X.seq ?_;obtain⟨y44,h,hk45⟩:=Jn h;refine Hj (fun e Rs=>e = [(4,jI 0),(32,.bool y44)]/\Rs = [aN b1 27 #[.bool a0.IJ.null,jS a0.IJ.data,jI a0.II,jI a0.ID,jI a0.IF],aO]) ?_ ?_
 ·clear hk45;rcases jF h with⟨c46,h⟩ | ⟨c46,h⟩
  ·refine GF Z c46 ?_;cases h;exact T.skip (Hn (d:=32) (v':= .bool true) Z (congrArg Value.bool c46) (GE [0,0]))
  replace c46:=Ju c46;refine GU Z c46 ?_;obtain⟨y51,h,hk52⟩:=Jn h;refine Hj (fun e Rs=>e = [(4,jI 0),(32,.bool y51)]/\Rs = [aN b1 27 #[.bool a0.IJ.null,jS a0.IJ.data,jI a0.II,jI a0.ID,jI a0.IF],aO]) ?_ ?_
  ·clear hk52;refine T.region Z ?_;rcases jF h with⟨c53,h⟩ | ⟨c53,h⟩
   ·refine Gp ak 3 Z (GA 44 Z (bd c53) (GB ak 12 Z ?_));cases h;exact TL.nil (GE [0,0])
   replace c53:=Ju c53;refine Gp ak 3 Z (GA 44 Z (bM c53) ?_);rcases jF h with⟨c54,h⟩ | ⟨c54,h⟩
   ·refine GB ak 3 Z (GA 47 Z (Jq c54) ?_);obtain⟨x55,hx56,h⟩:=Jn h;refine Gt ak bP 0 Z 4 Z Z (GT Z (.g Z Z Z) (.fn Tryz.call192 Z) (iU a0.ID a0.IF _ hx56) rT Z (GB ak 4 Z ?_));rcases jF h with⟨c57,h⟩ | ⟨c57,h⟩
    ·cases h;exact TL.nil (Hn (d:=32) (v':= .bool false) Z (congrArg Value.bool (bd c57)) (GE [0,0]))
    replace c57:=Ju c57;cases h;exact TL.nil (Hn (d:=32) (v':= .bool true) Z (congrArg Value.bool (bM c57)) (GE [0,0]))
   refine GB ak 3 Z (GA 47 Z (Jr c54) (GB ak 9 Z ?_));cases h;exact TL.nil (GE [0,0])
  rintro _ _ ⟨rfl,rfl⟩;clear h;have h:=hk52;clear hk52;try dsimp only at h
  cases h;exact GE [0,0]
 rintro _ _ ⟨rfl,rfl⟩;clear h;have h:=hk45;clear hk45;try dsimp only at h
 rcases jF h with⟨c58,h⟩ | ⟨c58,h⟩
 ·refine X.seq (GF Z c58 (Gq Z (Gp ak 1 Z ?_)));obtain rfl:=Jp h;exact Gs (T.ret (GI (Gv (GD [1] Tryz.results152 (Gu Z)))))
 replace c58:=Ju c58;refine X.seq (GU Z c58 (T.skip (GN (X.seq (Gq Z (Gp ak 1 Z ?_))))));obtain rfl:=Jp h;exact Gs (T.ret (GD [1] Tryz.results152 (Gu Z)))
def fL (st:List UInt8×Int) (a0:aT) (a2:Int):Option (List UInt8×Int):=(eR a0 a2).bind fun x2=>(iB st x2).bind fun (x4,st5)=>if x4=true then some st5 else ((iF st5 a0.IJ 2).bind fun st8=>(dA st8 a0.II 4).bind fun st10=>(if a2>0 then ((dA st10 a0.ID 8).bind fun st20=>(dA st20 a0.IF 2).bind fun st22=>some st22) else some st10).bind fun st17=>some st17)
theorem nr (g:Nat) (st:List UInt8×Int) (a0:aT) (a2:Int) (r:List UInt8×Int) (h:fL st a0 a2=some r):aC Tryz.prog 96 #[.agg #[.bool a0.IJ.null,jS a0.IJ.data,jI a0.II,jI a0.ID,jI a0.IF],jP g,jI a2] .triv (bp g st) (fun v A' N=>v= .tuple #[]/\A'=bp g r/\N = []):=by
 refine aU Tryz.func96 Z Tryz.ntmps96 Z ?_;intro F w hX;unfold fL at h;refine Gq Z (TL.box Z .u Z Z (fun b1=>(Gs (T.seq (Gq Z (Gp ak 1 Z (Gr Z (GH (us := [.bool a0.IJ.null,jS a0.IJ.data,jI a0.II,jI a0.ID,jI a0.IF]) 0 Z LI KJ Z Z Z) Z ?_)))))));obtain⟨x2,hx3,h⟩:=Jn h;refine Gp ak 1 Z (GT Z .u (.fn Tryz.call152 Z) (jr a0 a2 _ hx3) rT Z ?_);obtain⟨⟨x4,st5⟩,hx6,h⟩:=Jn h;refine Gy 1 Z Z .u (.fn Tryz.call151 Z) (ki g st x2 _ hx6) sT Z Z ?_;rcases jF h with⟨c7,h⟩ | ⟨c7,h⟩
 ·refine Gs (GF Z c7 ?_);obtain rfl:=Jp h;exact T.ret (Gv (Ht [1] Tryz.results96 ⟨Z,Z,Z⟩ Mf (.inl Z)))
 replace c7:=Ju c7;refine Gs (GU Z c7 (G3 Z (Gp ak 2 Z (Gr Z (GH (us:=wL6 a0.IJ) 0 Z JY JB Z Z Z) Z ?_))));obtain⟨st8,hx9,h⟩:=Jn h;refine Gy 1 Z Z .u (.fn Tryz.call95 Z) (iN g st5 a0.IJ 2 _ hx9) sT Z Z (GG Z ?_);obtain⟨st10,hx11,h⟩:=Jn h;refine Gt ak bP 0 Z 3 Z Z (Gy 1 Z Z .u (.fn Tryz.call51 Z) (bh g st8 a0.II 4 _ hx11) sT Z Z (GG Z (Gx ak Z ?_)));obtain⟨st17,h,hk18⟩:=Jn h;refine Hj (fun e Rs=>e = []/\Rs = [aN b1 27 #[.bool a0.IJ.null,jS a0.IJ.data,jI a0.II,jI a0.ID,jI a0.IF],bp g st17]) ?_ ?_
 ·clear hk18;rcases jF h with⟨c19,h⟩ | ⟨c19,h⟩
  ·refine HX Z c19 (Gq Z ?_);obtain⟨st20,hx21,h⟩:=Jn h;refine Gt ak bP 0 Z 3 Z Z (Gy 1 Z Z .u (.fn Tryz.call51 Z) (bh g st10 a0.ID 8 _ hx21) sT Z Z (Gs (T.region Z ?_)));obtain⟨st22,hx23,h⟩:=Jn h;refine Gt ak bP 0 Z 3 Z Z (Gy 1 Z Z .u (.fn Tryz.call51 Z) (bh g st20 a0.IF 2 _ hx23) sT Z Z ?_);cases h;exact TL.nil (GE [0,0])
  refine HY Z c19 ?_;cases h;exact T.skip (GE [0,0])
 rintro _ _ ⟨rfl,rfl⟩;clear h;have h:=hk18;clear hk18;obtain rfl:=Jp h;exact Ht [1] Tryz.results96 ⟨Z,Z,Z⟩ Mf (.inr Z)
def jD (a0:List Top):Option (Int):=if (a0.length:Int)=0 then some 10 else ((iq (⟨0,0,0,1,a0,0,0⟩:Val)).bind fun x5=>some x5)
theorem ng (a0:List Top) (A1:Option Addr) (c2:Nat) (r:Int) (h:jD a0=some r):aC Tryz.prog 210 #[.slice A1 a0.length c2] (RX.of (ai 2 aZ) [.slice A1 a0.length c2] a0) (aO) (fun v A' N=>v=jI r/\A'=aO/\N = []):=by
 refine aU Tryz.func210 Z Tryz.ntmps210 Z ?_;intro F w hX;unfold jD at h;refine Gq Z (Gx ak Z (T.seq (Gq Z (Gp ak 1 Z (Gr Z (GK Z J0) Z (Gp ak 1 Z ?_))))));rcases jF h with⟨c3,h⟩ | ⟨c3,h⟩
 ·refine Hg Z c3 (Gq Z (Gp ak 1 Z ?_));obtain rfl:=Jp h;exact Gs (T.ret (Gv (GD [0] Tryz.results210 (Gu Z))))
 refine Hh Z c3 (G3 Z (Gp ak 1 Z ?_));refine Gr Z (GW (cells:= #[jI 0,jI 0,jI 0,jI 1,.slice A1 a0.length c2,jI 0,jI 0]) yt Z Me) Z ?_;refine TL.alloc Z .u Tryz.zeroValue103 Z (fun b4=>(GC 0 Z (cs':= #[jI 0,jI 0,jI 0,jI 1,.slice A1 a0.length c2,jI 0,jI 0]) Z .u Z Z Tryz.sizeOf103 Z Z Z Z Z (GG Z (Gr Z (GH (us := [jI 0,jI 0,jI 0,jI 1,.slice A1 a0.length c2,jI 0,jI 0]) 0 Z Tryz.isAgg103 Tryz.sizeOf103 Z Z Z) Z ?_))));obtain⟨x5,hx6,h⟩:=Jn h;refine GT Z .u (.fn Tryz.call90 Z) (pz (⟨0,0,0,1,a0,0,0⟩:Val) _ _ _ hx6) (fun _ hs=>(GJ hs hX)) Z (Gp ak 1 Z ?_);obtain rfl:=Jp h;exact Gs (T.ret (GD [1] Tryz.results210 (Gu Z)))
def fM (a0:bI):Option (Int):=(lF a0.IJ).bind fun x4=>if x4=true then ((iI a0.ID a0.IF).bind fun x7=>if x7=true then ((jD a0.IC).bind fun x10=>some x10) else some 11) else some 4
theorem kw (a0:bI) (A1:Option Addr) (c2:Nat) (r:Int) (h:fM a0=some r):aC Tryz.prog 170 #[.agg (wA10 a0 A1 c2)] (RX.of (ai 2 aZ) [.slice A1 a0.IC.length c2] a0.IC) (aO) (fun v A' N=>v=jI r/\A'=aO/\N = []):=by
 refine aU Tryz.func170 Z Tryz.ntmps170 Z ?_;intro F w hX;unfold fM at h;refine Gq Z (TL.box Z .u Z Z (fun b3=>(Gx ak Z (T.seq (T.block (Gq Z ?_))))));obtain⟨x4,hx5,h⟩:=Jn h;refine Gt ak bP 0 Z 2 Z Z (GT Z .u (.fn Tryz.call87 Z) (Hk (fun w=>kE a0.IJ _ hx5 w)) (fun _ _=>G5 _ _) Z (Gp ak 2 Z ?_));rcases jF h with⟨c6,h⟩ | ⟨c6,h⟩
 ·refine Gs (GU Z (bd c6) (Gq Z ?_));obtain⟨x7,hx8,h⟩:=Jn h;refine Gt ak bP 0 Z 4 Z Z (GT Z .u (.fn Tryz.call192 Z) (iU a0.ID a0.IF _ hx8) rT Z (Gp ak 2 Z ?_));rcases jF h with⟨c9,h⟩ | ⟨c9,h⟩
  ·refine Gs (GU Z (bd c9) (T.skip (GN (X.seq (Gq Z ?_)))));obtain⟨x10,hx11,h⟩:=Jn h;refine Gt ak bP 0 Z 2 Z Z (GT Z .u (.fn Tryz.call210 Z) (ng a0.IC _ _ _ hx11) (fun _ hs=>(GJ hs hX)) Z (Gp ak 1 Z ?_));obtain rfl:=Jp h;exact Gs (T.ret (GD [1] Tryz.results170 (Gu Z)))
  replace c9:=Ju c9;refine Gs (GF Z (bM c9) (Gq Z (Gp ak 1 Z ?_)));obtain rfl:=Jp h;exact Gs (T.ret (GI (Gv (GD [1] Tryz.results170 (Gu Z)))))
 replace c6:=Ju c6;refine Gs (GF Z (bM c6) (Gq Z (Gp ak 1 Z ?_)));obtain rfl:=Jp h;exact Gs (T.ret (GI (Gv (GD [1] Tryz.results170 (Gu Z)))))
def fY (st:List UInt8×Int) (a1:bI):Option (Bool×(List UInt8×Int)):=(fM a1).bind fun x3=>(iB st x3).bind fun (x5,st6)=>some (x5,st6)
theorem mn (g:Nat) (st:List UInt8×Int) (a1:bI) (A1:Option Addr) (c2:Nat) (r:Bool×(List UInt8×Int)) (h:fY st a1=some r):aC Tryz.prog 153 #[jP g,.iface 30 (.agg (wA10 a1 A1 c2))] (RX.of (ai 2 aZ) [.slice A1 a1.IC.length c2] a1.IC) (bp g st) (fun v A' N=>v= .bool r.1/\A'=bp g r.2/\N = []):=by
 refine aU Tryz.func153 Z Tryz.ntmps153 Z ?_;intro F w hX;unfold fY at h;refine Gq Z (GP ak Z Z ?_);obtain⟨x3,hx4,h⟩:=Jn h;refine Gp ak 2 Z (GT Z .u (.inv Z (qx _) Tryz.call170 Z) (kw a1 _ _ _ hx4) (fun _ hs=>(GJ hs hX)) Z ?_);obtain⟨⟨x5,st6⟩,hx7,h⟩:=Jn h;refine Gy 0 Z Z .u (.fn Tryz.call151 Z) (ki g st x3 _ hx7) sT Z Z (Gp ak 1 Z ?_);obtain rfl:=Jp h;exact Gs (T.ret (GD [0] Tryz.results153 (Gu Z)))
def gP (st:List UInt8×Int) (a0:bI):Option (List UInt8×Int):=(fY st a0).bind fun (x4,st5)=>if x4=true then some st5 else ((iO st5 a0.IJ).bind fun st8=>(dA st8 a0.ID 8).bind fun st10=>(dA st10 a0.IF 2).bind fun st12=>(et st12 a0.IC).bind fun st14=>some st14)
theorem oU (g:Nat) (st:List UInt8×Int) (a0:bI) (A1:Option Addr) (c2:Nat) (r:List UInt8×Int) (h:gP st a0=some r):aC Tryz.prog 97 #[.agg (wA10 a0 A1 c2),jP g] (RX.of (ai 2 aZ) [.slice A1 a0.IC.length c2] a0.IC) (bp g st) (fun v A' N=>v= .tuple #[]/\A'=bp g r/\N = []):=by
 refine aU Tryz.func97 Z Tryz.ntmps97 Z ?_;intro F w hX;unfold gP at h;refine Gq Z (TL.box Z .u Z Z (fun b3=>(Gs (T.seq (Gq Z (Gp ak 1 Z (Gr Z (GH (us:=wL11 a0 A1 c2) 0 Z LJ KK Z Z Z) Z (Gr Z (Ex.mkI Z Kq) Z ?_))))))));obtain⟨⟨x4,st5⟩,hx6,h⟩:=Jn h;refine Gy 1 Z Z .u (.fn Tryz.call153 Z) (mn g st a0 _ _ _ hx6) (fun _ hs=>(Ia hs hX)) Z Z ?_;rcases jF h with⟨c7,h⟩ | ⟨c7,h⟩
 ·refine Gs (GF Z c7 ?_);obtain rfl:=Jp h;exact T.ret (Gv (Ht [1] Tryz.results97 ⟨Z,Z,Z⟩ Mf (.inl Z)))
 replace c7:=Ju c7;refine Gs (GU Z c7 (G3 Z ?_));obtain⟨st8,hx9,h⟩:=Jn h;refine Gt ak bP 0 Z 3 Z Z (Gy 1 Z Z .u (.fn Tryz.call88 Z) (jO g st5 a0.IJ _ hx9) sT Z Z (GG Z ?_));obtain⟨st10,hx11,h⟩:=Jn h;refine Gt ak bP 0 Z 3 Z Z (Gy 1 Z Z .u (.fn Tryz.call51 Z) (bh g st8 a0.ID 8 _ hx11) sT Z Z (GG Z ?_));obtain⟨st12,hx13,h⟩:=Jn h;refine Gt ak bP 0 Z 3 Z Z (Gy 1 Z Z .u (.fn Tryz.call51 Z) (bh g st10 a0.IF 2 _ hx13) sT Z Z (Gs (T.region Z ?_)));obtain⟨st14,hx15,h⟩:=Jn h;refine Gt ak bP 0 Z 3 Z Z (Gy 1 Z Z .u (.fn Tryz.call91 Z) (iT g st12 a0.IC _ _ _ hx15) (fun _ hs=>(Ia hs hX)) Z Z ?_);obtain rfl:=Jp h;exact TL.nil (Ht [1] Tryz.results97 ⟨Z,Z,Z⟩ Mf (.inr Z))
def gm (st:List UInt8×Int) (a1:Bool):Option (List UInt8×Int):=(if a1=true then ((rk st 1).bind fun st9=>some st9) else ((rk st 0).bind fun st11=>some st11)).bind fun st6=>some st6
theorem lg (g:Nat) (st:List UInt8×Int) (a1:Bool) (r:List UInt8×Int) (h:gm st a1=some r):aC Tryz.prog 154 #[jP g,.bool a1] .triv (bp g st) (fun v A' N=>v= .tuple #[]/\A'=bp g r/\N = []):=by
 refine aU Tryz.func154 Z Tryz.ntmps154 Z ?_;intro F w hX;unfold gm at h;refine Gq Z (Gx ak Z ?_);obtain⟨st6,h,hk7⟩:=Jn h;refine Hj (fun e Rs=>e = []/\Rs = [bp g st6]) ?_ ?_
 ·clear hk7;rcases jF h with⟨c8,h⟩ | ⟨c8,h⟩
  ·refine GF Z c8 (T.region Z ?_);obtain⟨st9,hx10,h⟩:=Jn h;refine Gp ak 1 Z (Gy 0 Z Z .u (.fn Tryz.call102 Z) (nJ g st 1 _ hx10) sT Z Z ?_);cases h;exact TL.nil (GE [0])
  replace c8:=Ju c8;refine GU Z c8 (T.region Z ?_);obtain⟨st11,hx12,h⟩:=Jn h;refine Gp ak 1 Z (Gy 0 Z Z .u (.fn Tryz.call102 Z) (nJ g st 0 _ hx12) sT Z Z ?_);cases h;exact TL.nil (GE [0])
 rintro _ _ ⟨rfl,rfl⟩;clear h;have h:=hk7;clear hk7;obtain rfl:=Jp h;exact Ht [0] Tryz.results154 ⟨Z,Z,Z⟩ Mf (.inr Z)
def fN (a0:bH):Option (Int):=(lF a0.IJ).bind fun x2=>if x2=true then ((iI a0.ID a0.IF).bind fun x5=>if x5=true then some 0 else some 11) else some 4
theorem ky (a0:bH) (r:Int) (h:fN a0=some r):aC Tryz.prog 172 #[.agg (wA12 a0)] .triv (aO) (fun v A' N=>v=jI r/\A'=aO/\N = []):=by
 refine aU Tryz.func172 Z Tryz.ntmps172 Z ?_;intro F w hX;unfold fN at h;refine Gq Z (TL.box Z .u Z Z (fun b1=>(Gx ak Z (T.seq (T.block (Gq Z ?_))))));obtain⟨x2,hx3,h⟩:=Jn h;refine Gt ak bP 0 Z 2 Z Z (GT Z .u (.fn Tryz.call87 Z) (Hk (fun w=>kE a0.IJ _ hx3 w)) (fun _ _=>G5 _ _) Z (Gp ak 2 Z ?_));rcases jF h with⟨c4,h⟩ | ⟨c4,h⟩
 ·refine Gs (GU Z (bd c4) (Gq Z ?_));obtain⟨x5,hx6,h⟩:=Jn h;refine Gt ak bP 0 Z 4 Z Z (GT Z .u (.fn Tryz.call192 Z) (iU a0.ID a0.IF _ hx6) rT Z (Gp ak 2 Z ?_));rcases jF h with⟨c7,h⟩ | ⟨c7,h⟩
  ·refine Gs (GU Z (bd c7) (T.skip (GN (X.seq (Gq Z (Gp ak 1 Z ?_))))));obtain rfl:=Jp h;exact Gs (T.ret (GD [1] Tryz.results172 (Gu Z)))
  replace c7:=Ju c7;refine Gs (GF Z (bM c7) (Gq Z (Gp ak 1 Z ?_)));obtain rfl:=Jp h;exact Gs (T.ret (GI (Gv (GD [1] Tryz.results172 (Gu Z)))))
 replace c4:=Ju c4;refine Gs (GF Z (bM c4) (Gq Z (Gp ak 1 Z ?_)));obtain rfl:=Jp h;exact Gs (T.ret (GI (Gv (GD [1] Tryz.results172 (Gu Z)))))
def fZ (st:List UInt8×Int) (a1:bH):Option (Bool×(List UInt8×Int)):=(fN a1).bind fun x1=>(iB st x1).bind fun (x3,st4)=>some (x3,st4)
theorem mo (g:Nat) (st:List UInt8×Int) (a1:bH) (r:Bool×(List UInt8×Int)) (h:fZ st a1=some r):aC Tryz.prog 153 #[jP g,.iface 32 (.agg (wA12 a1))] .triv (bp g st) (fun v A' N=>v= .bool r.1/\A'=bp g r.2/\N = []):=by
 refine aU Tryz.func153 Z Tryz.ntmps153 Z ?_;intro F w hX;unfold fZ at h;refine Gq Z (GP ak Z Z ?_);obtain⟨x1,hx2,h⟩:=Jn h;refine Gp ak 2 Z (GT Z .u (.inv Z (qy _) Tryz.call172 Z) (ky a1 _ hx2) rT Z ?_);obtain⟨⟨x3,st4⟩,hx5,h⟩:=Jn h;refine Gy 0 Z Z .u (.fn Tryz.call151 Z) (ki g st x1 _ hx5) sT Z Z (Gp ak 1 Z ?_);obtain rfl:=Jp h;exact Gs (T.ret (GD [0] Tryz.results153 (Gu Z)))
def gQ (st:List UInt8×Int) (a0:bH):Option (List UInt8×Int):=(fZ st a0).bind fun (x2,st3)=>if x2=true then some st3 else ((iO st3 a0.IJ).bind fun st6=>(dA st6 a0.ID 8).bind fun st8=>(dA st8 a0.IF 2).bind fun st10=>(gm st10 a0.I2).bind fun st12=>some st12)
theorem oV (g:Nat) (st:List UInt8×Int) (a0:bH) (r:List UInt8×Int) (h:gQ st a0=some r):aC Tryz.prog 98 #[.agg (wA12 a0),jP g] .triv (bp g st) (fun v A' N=>v= .tuple #[]/\A'=bp g r/\N = []):=by
 refine aU Tryz.func98 Z Tryz.ntmps98 Z ?_;intro F w hX;unfold gQ at h;refine Gq Z (TL.box Z .u Z Z (fun b1=>(Gs (T.seq (Gq Z (Gp ak 1 Z (Gr Z (GH (us:=wL13 a0) 0 Z LK KL Z Z Z) Z (Gr Z (Ex.mkI Z Kr) Z ?_))))))));obtain⟨⟨x2,st3⟩,hx4,h⟩:=Jn h;refine Gy 1 Z Z .u (.fn Tryz.call153 Z) (mo g st a0 _ hx4) sT Z Z ?_;rcases jF h with⟨c5,h⟩ | ⟨c5,h⟩
 ·refine Gs (GF Z c5 ?_);obtain rfl:=Jp h;exact T.ret (Gv (Ht [1] Tryz.results98 ⟨Z,Z,Z⟩ Mf (.inl Z)))
 replace c5:=Ju c5;refine Gs (GU Z c5 (G3 Z ?_));obtain⟨st6,hx7,h⟩:=Jn h;refine Gt ak bP 0 Z 3 Z Z (Gy 1 Z Z .u (.fn Tryz.call88 Z) (jO g st3 a0.IJ _ hx7) sT Z Z (GG Z ?_));obtain⟨st8,hx9,h⟩:=Jn h;refine Gt ak bP 0 Z 3 Z Z (Gy 1 Z Z .u (.fn Tryz.call51 Z) (bh g st6 a0.ID 8 _ hx9) sT Z Z (GG Z ?_));obtain⟨st10,hx11,h⟩:=Jn h;refine Gt ak bP 0 Z 3 Z Z (Gy 1 Z Z .u (.fn Tryz.call51 Z) (bh g st8 a0.IF 2 _ hx11) sT Z Z (Gs (T.region Z ?_)));obtain⟨st12,hx13,h⟩:=Jn h;refine Gt ak bP 0 Z 3 Z Z (Gy 1 Z Z .u (.fn Tryz.call154 Z) (lg g st10 a0.I2 _ hx13) sT Z Z ?_);obtain rfl:=Jp h;exact TL.nil (Ht [1] Tryz.results98 ⟨Z,Z,Z⟩ Mf (.inr Z))
def f7 (a0:aT) (a1:Int):Option (Int):=(eR a0 a1).bind fun x1=>some x1
theorem mp (a0:aT) (ba0:Nat) (a1:Int) (ba1:Nat) (r:Int) (h:f7 a0 a1=some r):aC Tryz.prog 169 #[jP ba0,jP ba1] (RX.and (RX.blk ba0 27 #[.bool a0.IJ.null,jS a0.IJ.data,jI a0.II,jI a0.ID,jI a0.IF]) (RX.blk ba1 3 #[jI a1])) (aO) (fun v A' N=>v=jI r/\A'=aO/\N = []):=by
 refine aU Tryz.func169 Z Tryz.ntmps169 Z ?_;intro F w hX;unfold f7 at h;refine Gq Z (GP ak Z Z (Gr Z (Ex.xbS (us := [.bool a0.IJ.null,jS a0.IJ.data,jI a0.II,jI a0.ID,jI a0.IF]) (GR hX) Z LI KJ Z Z) Z (Gr Z (Ex.xb1 (Gz hX) Z Jy Z) Z ?_)));obtain⟨x1,hx2,h⟩:=Jn h;refine GT Z .u (.fn Tryz.call152 Z) (jr a0 a1 _ hx2) rT Z (Gp ak 1 Z ?_);obtain rfl:=Jp h;exact Gs (T.ret (GD [0] Tryz.results169 (Gu Z)))
def cm (st:I) (a1_0:aT) (a1_1:Int):Option (Bool×I):=(gt st).bind fun (x1,st2)=>if x1=0 then ((f7 a1_0 a1_1).bind fun x5=>if x5=0 then some (true,st2) else ((bT st2 x5).bind fun st8=>some (false,st8))) else some (false,st2)
theorem iV (g:Nat) (st:I) (a1_0:aT) (ba1_0:Nat) (a1_1:Int) (ba1_1:Nat) (r:Bool×I) (h:cm st a1_0 a1_1=some r):aC Tryz.prog 168 #[jP g,.func (.func 169) #[] #[jP ba1_0,jP ba1_1]] (RX.and (RX.blk ba1_0 27 #[.bool a1_0.IJ.null,jS a1_0.IJ.data,jI a1_0.II,jI a1_0.ID,jI a1_0.IF]) (RX.blk ba1_1 3 #[jI a1_1])) (InR g st) (fun v A' N=>v= .bool r.1/\A'=InR g r.2/\N = []):=by
 refine aU Tryz.func168 Z Tryz.ntmps168 Z ?_;intro F w hX;unfold cm at h;refine Gq Z (Gx ak Z (T.seq (Gq Z ?_)));obtain⟨⟨x1,st2⟩,hx3,h⟩:=Jn h;refine Gp ak 1 Z (Gy 0 Z Z .u (.fn Tryz.call23 Z) (bY g st _ hx3) sT Z Z (Gp ak 1 Z ?_));rcases jF h with⟨c4,h⟩ | ⟨c4,h⟩
 ·refine GY Z c4 (GQ (T.seq (Gq Z ?_)));obtain⟨x5,hx6,h⟩:=Jn h;refine Gp ak 1 Z (GT Z .u (.val Z Tryz.call169 Z Z) (mp a1_0 ba1_0 a1_1 ba1_1 _ hx6) (fun _ hs=>(RX.reads_and (GJ hs (GR hX)) (GJ hs (Gz hX)))) Z (GP ak Z Z (Gp ak 2 Z ?_)));rcases jF h with⟨c7,h⟩ | ⟨c7,h⟩
  ·refine GY Z c7 (G3 Z (Gp ak 1 Z ?_));obtain rfl:=Jp h;exact Gs (T.ret (GD [0] KU (Gu Z)))
  refine GX Z c7 (Gq Z ?_);obtain⟨st8,hx9,h⟩:=Jn h;refine Gp ak 2 Z (Gy 0 Z Z .u (.fn Tryz.call70 Z) (bx g st2 x5 _ hx9) sT Z Z (GG Z (Gp ak 1 Z ?_)));obtain rfl:=Jp h;exact Gs (T.ret (Gv (GD [0] KU (Gu Z))))
 refine GX Z c4 (Gq Z (Gp ak 1 Z ?_));obtain rfl:=Jp h;exact Gs (T.ret (Gv (GD [0] KU (Gu Z))))
def dW (st:I) (a1:Int):Option (aT×I):=(jx st 2).bind fun (x3,st4)=>(dB st4 4).bind fun (x6,st7)=>(if a1>0 then ((dB st7 8).bind fun (x22,st23)=>(dB st23 2).bind fun (x25,st26)=>some (x22,x25,st26)) else ((some (-1,-1,st7):Option (Int×Int×I)))).bind fun (y17,y18,st19)=>(cm st19 (⟨x3,x6,y17,y18⟩:aT) a1).bind fun (x28,st29)=>if x28=true then (some ((⟨x3,x6,y17,y18⟩:aT),st29)) else (some ((⟨(⟨false,[]⟩:Bl),0,0,0⟩:aT),st29))
theorem nU (g:Nat) (st:I) (a1:Int) (r:aT×I) (h:dW st a1=some r):aC Tryz.prog 116 #[jP g,jI a1] .triv (InR g st) (fun v A' N=>v= .agg #[.bool r.1.IJ.null,jS r.1.IJ.data,jI r.1.II,jI r.1.ID,jI r.1.IF]/\A'=InR g r.2/\N = []):=by
 refine aU Tryz.func116 Z Tryz.ntmps116 Z ?_;intro F w hX;unfold dW at h;refine Gq Z (TL.box Z .u Z Z (fun b1=>(TL.alloc Z .u Tryz.zeroValue27 Z (fun b2=>(GG Z ?_)))));obtain⟨⟨x3,st4⟩,hx5,h⟩:=Jn h;refine Gp ak 1 Z (Gy 2 Z Z .u (.fn Tryz.call142 Z) (iG g st 2 _ hx5) sT Z Z ?_);obtain⟨⟨x6,st7⟩,hx8,h⟩:=Jn h;refine Gp ak 1 Z (Gy 2 Z Z .u (.fn Tryz.call68 Z) (bl g st4 4 _ hx8) sT Z Z ?_);refine Gr Z (GW (cells:= #[.bool x3.null,jS x3.data,jI x6,jI (-1),jI (-1)]) ua Z Me) Z ?_;refine TL.alloc Z .u Tryz.zeroValue27 Z (fun b9=>(GC 0 Z (cs':= #[.bool x3.null,jS x3.data,jI x6,jI (-1),jI (-1)]) Z .u Z Z KJ Z Z Z Z Z (Gs (T.seq (Gq Z (Ie ak bP 2 Z Z Z ?_))))));obtain⟨⟨y17,y18,st19⟩,h,hk20⟩:=Jn h;refine Hj (fun e Rs=>e = [(0,jP g),(3,jP b1),(4,jP b2),(5,jP b9)]/\Rs = [aN b9 27 (vA1 x6 y17 y18 x3),aN b2 27 vA2,aN b1 3 #[jI a1],InR g st19]) ?_ ?_
 ·clear hk20;rcases jF h with⟨c21,h⟩ | ⟨c21,h⟩
  ·refine HX Z c21 (T.region Z ?_);obtain⟨⟨x22,st23⟩,hx24,h⟩:=Jn h;refine Gp ak 1 Z (Gy 3 Z Z .u (.fn Tryz.call68 Z) (bl g st7 8 _ hx24) sT Z Z ?_);obtain⟨⟨x25,st26⟩,hx27,h⟩:=Jn h;refine Gp ak 1 Z (Gy 3 Z Z .u (.fn Tryz.call68 Z) (bl g st23 2 _ hx27) sT Z Z (Gp ak 1 Z (GC 0 Z (cs':= #[.bool x3.null,jS x3.data,jI x6,jI x22,jI (-1)]) Z .u Z Z Jv Z Z Z Z Z (Gp ak 1 Z (GC 0 Z (cs':=vA1 x6 x22 x25 x3) Z .u Z Z Jv Z Z Z Z Z ?_)))));cases h;exact TL.nil (GE [0,0,0,0])
  refine HY Z c21 ?_;cases h;exact T.skip (GE [0,0,0,0])
 rintro _ _ ⟨rfl,rfl⟩;clear h;have h:=hk20;clear hk20;refine X.seq (T.seq (Gq Z (Gp ak 1 Z (Gr Z (Ex.mkF Z Z (fun _=>Z)) Z ?_))));obtain⟨⟨x28,st29⟩,hx30,h⟩:=Jn h;refine Gy 3 Z Z .u (.fn Tryz.call168 Z) (iV g st19 (⟨x3,x6,y17,y18⟩:aT) b9 a1 b1 _ hx30) (fun _ hs=>(Src.and (Src.res 0 Z vX) (Src.res 2 Z vX))) Z Z (Gp ak 1 Z ?_);rcases jF h with⟨c31,h⟩ | ⟨c31,h⟩
 ·refine Gs (GU Z (bd c31) (G3 Z (Gr Z (GH (us := [.bool x3.null,jS x3.data,jI x6,jI y17,jI y18]) 0 Z LI KJ Z Z Z) Z (GC 1 Z (cs':=vA1 x6 y17 y18 x3) Z .u Z Z KJ Z Z Z Z Z ?_))));obtain rfl:=Jp h;exact Gs (T.ret (GD [3] Tryz.results116 (Hb (us:=vA1 x6 y17 y18 x3) 1 Z LI KJ Z Z)))
 replace c31:=Ju c31;refine Gs (GF Z (bM c31) (Gq Z ?_));refine Gr Z (GW (cells:=vA2) ua Z Me) Z ?_;refine GC 1 Z (cs':=vA2) Z .u Z Z KJ Z Z Z Z Z ?_;obtain rfl:=Jp h;exact Gs (T.ret (Gv (GD [3] Tryz.results116 (Hb (us:=vA2) 1 Z LI KJ Z Z))))
def cD (st:I) (a1_0:bI):Option (Bool×I):=(gt st).bind fun (x3,st4)=>if x3=0 then ((fM a1_0).bind fun x7=>if x7=0 then some (true,st4) else ((bT st4 x7).bind fun st10=>some (false,st10))) else some (false,st4)
theorem jE (g:Nat) (st:I) (a1_0:bI) (A1:Option Addr) (c2:Nat) (r:Bool×I) (h:cD st a1_0=some r):aC Tryz.prog 168 #[jP g,.func (.func 170) #[.agg (wA10 a1_0 A1 c2)] #[]] (RX.of (ai 2 aZ) [.slice A1 a1_0.IC.length c2] a1_0.IC) (InR g st) (fun v A' N=>v= .bool r.1/\A'=InR g r.2/\N = []):=by
 refine aU Tryz.func168 Z Tryz.ntmps168 Z ?_;intro F w hX;unfold cD at h;refine Gq Z (Gx ak Z (T.seq (Gq Z ?_)));obtain⟨⟨x3,st4⟩,hx5,h⟩:=Jn h;refine Gp ak 1 Z (Gy 0 Z Z .u (.fn Tryz.call23 Z) (bY g st _ hx5) sT Z Z (Gp ak 1 Z ?_));rcases jF h with⟨c6,h⟩ | ⟨c6,h⟩
 ·refine GY Z c6 (GQ (T.seq (Gq Z ?_)));obtain⟨x7,hx8,h⟩:=Jn h;refine Gp ak 1 Z (GT Z .u (.val Z Tryz.call170 Z Z) (kw a1_0 _ _ _ hx8) (fun _ hs=>(GJ hs hX)) Z (GP ak Z Z (Gp ak 2 Z ?_)));rcases jF h with⟨c9,h⟩ | ⟨c9,h⟩
  ·refine GY Z c9 (G3 Z (Gp ak 1 Z ?_));obtain rfl:=Jp h;exact Gs (T.ret (GD [0] KU (Gu Z)))
  refine GX Z c9 (Gq Z ?_);obtain⟨st10,hx11,h⟩:=Jn h;refine Gp ak 2 Z (Gy 0 Z Z .u (.fn Tryz.call70 Z) (bx g st4 x7 _ hx11) sT Z Z (GG Z (Gp ak 1 Z ?_)));obtain rfl:=Jp h;exact Gs (T.ret (Gv (GD [0] KU (Gu Z))))
 refine GX Z c6 (Gq Z (Gp ak 1 Z ?_));obtain rfl:=Jp h;exact Gs (T.ret (Gv (GD [0] KU (Gu Z))))
def jQ (st:I)  : Option (bI×I):=(qg st).bind fun (x2,st3)=>(dB st3 8).bind fun (x5,st6)=>(dB st6 2).bind fun (x8,st9)=>(dr st9).bind fun (x12,st15)=>(cD st15 (⟨x2,x5,x8,x12⟩:bI)).bind fun (x17,st18)=>if x17=true then (some ((⟨x2,x5,x8,x12⟩:bI),st18)) else (some ((⟨[],0,0,[]⟩:bI),st18))
theorem pA (g:Nat) (st:I)  (r:bI×I) (h:jQ st  = some r):aC Tryz.prog 117 #[jP g] .triv (InR g st) (fun v A' N=> ∃ (A21:Option Addr) (c22:Nat),v= .agg #[jS r.1.IJ,jI r.1.ID,jI r.1.IF,.slice A21 r.1.IC.length c22]/\A'=InR g r.2/\N = [RdR (ai 2 aZ) [.slice A21 r.1.IC.length c22] r.1.IC]):=by
 refine aU Tryz.func117 Z Tryz.ntmps117 Z ?_;intro F w hX;unfold jQ at h;refine Gq Z (TL.alloc Z .u Tryz.zeroValue30 Z (fun b1=>(GG Z ?_)));obtain⟨⟨x2,st3⟩,hx4,h⟩:=Jn h;refine Gp ak 1 Z (Gy 1 Z Z .u (.fn Tryz.call86 Z) (mD g st _ hx4) sT Z Z ?_);obtain⟨⟨x5,st6⟩,hx7,h⟩:=Jn h;refine Gp ak 1 Z (Gy 1 Z Z .u (.fn Tryz.call68 Z) (bl g st3 8 _ hx7) sT Z Z ?_);obtain⟨⟨x8,st9⟩,hx10,h⟩:=Jn h;refine Gp ak 1 Z (Gy 1 Z Z .u (.fn Tryz.call68 Z) (bl g st6 2 _ hx10) sT Z Z ?_);refine Gr Z (GW (cells:= #[jS x2,jI x5,jI x8,.slice none 0 0]) ub Z Me) Z ?_;refine TL.alloc Z .u Tryz.zeroValue30 Z (fun b11=>(GC 0 Z (cs':= #[jS x2,jI x5,jI x8,.slice none 0 0]) Z .u Z Z KK Z Z Z Z Z (GG Z ?_)));obtain⟨⟨x12,st15⟩,hx16,h⟩:=Jn h;refine Gp ak 1 Z (TL.cg2 Z .u (.fn Tryz.call89 Z) (kv g st9 _ hx16) sT Z ?_);rintro _ _ _ ⟨A13,c14,rfl,rfl,rfl⟩;refine Hc [0,0,0,0] Z (Gp ak 1 Z (GC 1 Z (cs':= #[jS x2,jI x5,jI x8,.slice A13 x12.length c14]) Z .u Z Z K2 Z Z Z Z Z (Gs (T.seq (Gq Z (Gp ak 1 Z (Gr Z (GH (us := [jS x2,jI x5,jI x8,.slice A13 x12.length c14]) 1 Z LJ KK Z Z Z) Z (Gr Z (Ex.mkF Z Z (fun _=>Z)) Z ?_))))))));obtain⟨⟨x17,st18⟩,hx19,h⟩:=Jn h;refine Gy 3 Z Z .u (.fn Tryz.call168 Z) (jE g st15 (⟨x2,x5,x8,x12⟩:bI) _ _ _ hx19) (fun _ hs=>(Src.res 0 Z (fun w G h=>tU w G h))) Z Z (Gp ak 1 Z ?_);rcases jF h with⟨c20,h⟩ | ⟨c20,h⟩
 ·refine Gs (GU Z (bd c20) (G3 Z (Gr Z (GH (us := [jS x2,jI x5,jI x8,.slice A13 x12.length c14]) 1 Z LJ KK Z Z Z) Z (GC 2 Z (cs':= #[jS x2,jI x5,jI x8,.slice A13 x12.length c14]) Z .u Z Z KK Z Z Z Z Z ?_))));obtain rfl:=Jp h;exact Gs (T.ret (GV [3,0] Tryz.results117 (Hb (us:= #[jS x2,jI x5,jI x8,.slice A13 x12.length c14]) 2 Z LJ KK Z Z) ⟨_,_,Z,Z,Z⟩ Mf (.inl Z)))
 replace c20:=Ju c20;refine Gs (GF Z (bM c20) (Gq Z ?_));refine Gr Z (GW (cells:=vA3) ub Z Me) Z ?_;refine GC 2 Z (cs':=vA3) Z .u Z Z KK Z Z Z Z Z ?_;obtain rfl:=Jp h;exact Gs (T.ret (Gv (GO 2 aZ (GV [4,0] Tryz.results117 (Hb (us:=vA3) 3 Z LJ KK Z Z) ⟨_,_,Z,Z,Z⟩ Mf (.inl Z)))))
def fA (st:I)  : Option (Bool×I):=(dB st 1).bind fun (x1,st2)=>(if x1=0 then some false else (if x1=1 then some false else some true)).bind fun y5=>(if y5=true then ((bT st2 11).bind fun st15=>some st15) else some st2).bind fun st12=>if x1=1 then some (true,st12) else some (false,st12)
theorem nh (g:Nat) (st:I)  (r:Bool×I) (h:fA st  = some r):aC Tryz.prog 171 #[jP g] .triv (InR g st) (fun v A' N=>v= .bool r.1/\A'=InR g r.2/\N = []):=by
 refine aU Tryz.func171 Z Tryz.ntmps171 Z ?_;intro F w hX;unfold fA at h;refine Gq Z (GP ak Z Z ?_);obtain⟨⟨x1,st2⟩,hx3,h⟩:=Jn h;refine Gp ak 1 Z (Gy 0 Z Z .u (.fn Tryz.call68 Z) (bl g st 1 _ hx3) sT Z Z (Gx ak Z (Ig ?_)));obtain⟨y5,h,hk6⟩:=Jn h;refine Hj (fun e Rs=>e = [(0,jP g),(2,.bool false),(3,jI x1),(11,.bool y5)]/\Rs = [InR g st2]) ?_ ?_
 ·clear hk6;refine T.region Z ?_;rcases jF h with⟨c7,h⟩ | ⟨c7,h⟩
  ·refine Gp ak 3 Z (GA 8 Z (bd (Jq c7)) (GB ak 3 Z ?_));cases h;exact TL.nil (GE [0])
  refine Gp ak 3 Z (GA 8 Z (bM (Jr c7)) (GB ak 3 Z ?_));rcases jF h with⟨c8,h⟩ | ⟨c8,h⟩
  ·cases h;exact TL.nil (Hn (d:=11) (v':= .bool false) Z (congrArg Value.bool (bd (Jq c8))) (GE [0]))
  cases h;exact TL.nil (Hn (d:=11) (v':= .bool true) Z (congrArg Value.bool (bM (Jr c8))) (GE [0]))
 rintro _ _ ⟨rfl,rfl⟩;clear h;have h:=hk6;clear hk6;refine X.seq ?_;obtain⟨st12,h,hk13⟩:=Jn h;refine Hj (fun e Rs=>e = [(2,.bool false),(3,jI x1)]/\Rs = [InR g st12]) ?_ ?_
 ·clear hk13;rcases jF h with⟨c14,h⟩ | ⟨c14,h⟩
  ·refine GF Z c14 (T.region Z ?_);obtain⟨st15,hx16,h⟩:=Jn h;refine Gp ak 1 Z (Gy 0 Z Z .u (.fn Tryz.call70 Z) (bx g st2 11 _ hx16) sT Z Z ?_);cases h;exact TL.nil (GE [0])
  replace c14:=Ju c14;refine GU Z c14 ?_;cases h;exact T.skip (GE [0])
 rintro _ _ ⟨rfl,rfl⟩;clear h;have h:=hk13;clear hk13;refine X.seq (Gq Z (Gp ak 3 Z ?_));rcases jF h with⟨c17,h⟩ | ⟨c17,h⟩
 ·obtain rfl:=Jp h;exact Gs (T.ret (GV [0] Tryz.results171 (Gu (v:= .bool true) (congrArg (fun b=>some (Value.bool b)) (Jq c17))) ⟨Z,Z,Z⟩ Mf (.inl Z)))
 obtain rfl:=Jp h;exact Gs (T.ret (GV [0] Tryz.results171 (Gu (v:= .bool false) (congrArg (fun b=>some (Value.bool b)) (Jr c17))) ⟨Z,Z,Z⟩ Mf (.inl Z)))
def cE (st:I) (a1_0:bH):Option (Bool×I):=(gt st).bind fun (x1,st2)=>if x1=0 then ((fN a1_0).bind fun x5=>if x5=0 then some (true,st2) else ((bT st2 x5).bind fun st8=>some (false,st8))) else some (false,st2)
theorem jG (g:Nat) (st:I) (a1_0:bH) (r:Bool×I) (h:cE st a1_0=some r):aC Tryz.prog 168 #[jP g,.func (.func 172) #[.agg (wA12 a1_0)] #[]] .triv (InR g st) (fun v A' N=>v= .bool r.1/\A'=InR g r.2/\N = []):=by
 refine aU Tryz.func168 Z Tryz.ntmps168 Z ?_;intro F w hX;unfold cE at h;refine Gq Z (Gx ak Z (T.seq (Gq Z ?_)));obtain⟨⟨x1,st2⟩,hx3,h⟩:=Jn h;refine Gp ak 1 Z (Gy 0 Z Z .u (.fn Tryz.call23 Z) (bY g st _ hx3) sT Z Z (Gp ak 1 Z ?_));rcases jF h with⟨c4,h⟩ | ⟨c4,h⟩
 ·refine GY Z c4 (GQ (T.seq (Gq Z ?_)));obtain⟨x5,hx6,h⟩:=Jn h;refine Gp ak 1 Z (GT Z .u (.val Z Tryz.call172 Z Z) (ky a1_0 _ hx6) rT Z (GP ak Z Z (Gp ak 2 Z ?_)));rcases jF h with⟨c7,h⟩ | ⟨c7,h⟩
  ·refine GY Z c7 (G3 Z (Gp ak 1 Z ?_));obtain rfl:=Jp h;exact Gs (T.ret (GD [0] KU (Gu Z)))
  refine GX Z c7 (Gq Z ?_);obtain⟨st8,hx9,h⟩:=Jn h;refine Gp ak 2 Z (Gy 0 Z Z .u (.fn Tryz.call70 Z) (bx g st2 x5 _ hx9) sT Z Z (GG Z (Gp ak 1 Z ?_)));obtain rfl:=Jp h;exact Gs (T.ret (Gv (GD [0] KU (Gu Z))))
 refine GX Z c4 (Gq Z (Gp ak 1 Z ?_));obtain rfl:=Jp h;exact Gs (T.ret (Gv (GD [0] KU (Gu Z))))
def jR (st:I)  : Option (bH×I):=(qg st).bind fun (x2,st3)=>(dB st3 8).bind fun (x5,st6)=>(dB st6 2).bind fun (x8,st9)=>(fA st9).bind fun (x12,st13)=>(cE st13 (⟨x2,x5,x8,x12⟩:bH)).bind fun (x15,st16)=>if x15=true then (some ((⟨x2,x5,x8,x12⟩:bH),st16)) else (some ((⟨[],0,0,false⟩:bH),st16))
theorem pC (g:Nat) (st:I)  (r:bH×I) (h:jR st  = some r):aC Tryz.prog 118 #[jP g] .triv (InR g st) (fun v A' N=>v= .agg #[jS r.1.IJ,jI r.1.ID,jI r.1.IF,.bool r.1.I2]/\A'=InR g r.2/\N = []):=by
 refine aU Tryz.func118 Z Tryz.ntmps118 Z ?_;intro F w hX;unfold jR at h;refine Gq Z (TL.alloc Z .u Tryz.zeroValue32 Z (fun b1=>(GG Z ?_)));obtain⟨⟨x2,st3⟩,hx4,h⟩:=Jn h;refine Gp ak 1 Z (Gy 1 Z Z .u (.fn Tryz.call86 Z) (mD g st _ hx4) sT Z Z ?_);obtain⟨⟨x5,st6⟩,hx7,h⟩:=Jn h;refine Gp ak 1 Z (Gy 1 Z Z .u (.fn Tryz.call68 Z) (bl g st3 8 _ hx7) sT Z Z ?_);obtain⟨⟨x8,st9⟩,hx10,h⟩:=Jn h;refine Gp ak 1 Z (Gy 1 Z Z .u (.fn Tryz.call68 Z) (bl g st6 2 _ hx10) sT Z Z ?_);refine Gr Z (GW (cells:= #[jS x2,jI x5,jI x8,.bool false]) uc Z Me) Z ?_;refine TL.alloc Z .u Tryz.zeroValue32 Z (fun b11=>(GC 0 Z (cs':= #[jS x2,jI x5,jI x8,.bool false]) Z .u Z Z KL Z Z Z Z Z (GG Z ?_)));obtain⟨⟨x12,st13⟩,hx14,h⟩:=Jn h;refine Gp ak 1 Z (Gy 2 Z Z .u (.fn Tryz.call171 Z) (nh g st9 _ hx14) sT Z Z (Gp ak 1 Z (GC 0 Z (cs':= #[jS x2,jI x5,jI x8,.bool x12]) Z .u Z Z JW Z Z Z Z Z (Gs (T.seq (Gq Z (Gp ak 1 Z (Gr Z (GH (us := [jS x2,jI x5,jI x8,.bool x12]) 0 Z LK KL Z Z Z) Z (Gr Z (Ex.mkF Z Z (fun _=>Z)) Z ?_)))))))));obtain⟨⟨x15,st16⟩,hx17,h⟩:=Jn h;refine Gy 2 Z Z .u (.fn Tryz.call168 Z) (jG g st13 (⟨x2,x5,x8,x12⟩:bH) _ hx17) sT Z Z (Gp ak 1 Z ?_);rcases jF h with⟨c18,h⟩ | ⟨c18,h⟩
 ·refine Gs (GU Z (bd c18) (G3 Z (Gr Z (GH (us := [jS x2,jI x5,jI x8,.bool x12]) 0 Z LK KL Z Z Z) Z (GC 1 Z (cs':= #[jS x2,jI x5,jI x8,.bool x12]) Z .u Z Z KL Z Z Z Z Z ?_))));obtain rfl:=Jp h;exact Gs (T.ret (GV [2] Tryz.results118 (Hb (us:= #[jS x2,jI x5,jI x8,.bool x12]) 1 Z LK KL Z Z) ⟨Z,Z,Z⟩ Mf (.inl Z)))
 replace c18:=Ju c18;refine Gs (GF Z (bM c18) (Gq Z ?_));refine Gr Z (GW (cells:=vA4) uc Z Me) Z ?_;refine GC 1 Z (cs':=vA4) Z .u Z Z KL Z Z Z Z Z ?_;obtain rfl:=Jp h;exact Gs (T.ret (Gv (GD [2] Tryz.results118 (Hb (us:=vA4) 1 Z LK KL Z Z))))
def FF:ey := [(173,0,0),(173,1,1),(173,2,2),(173,3,3),(173,4,4)]
theorem aD:(FF).OK Tryz.prog:=⟨FOK.mk KO rfl Jv rfl,FOK.mk KO rfl Jv rfl,FOK.mk KO rfl JW rfl,FOK.mk KO rfl K2 rfl,FOK.mk KO rfl Jv rfl,trivial⟩
def FG:List Nat := [3,4,28]
theorem eV:NOK Tryz.prog FG:=⟨Jy,Ky,KW,trivial⟩
theorem xh:BOK Tryz.prog 173 #[.int .i64 0,.int .i64 0,.bool false,.slice none 0 0,.int .i64 0] [(0,1),(1,1),(2,1),(3,1),(4,1)]:=BOK.mk Tryz.zeroValue173 KO (by intro w; simp)
theorem vF:SOK Tryz.prog 33 173 1 5 #[.int .i64 0,.int .i64 0,.bool false,.slice none 0 0,.int .i64 0]:=SOK.mk Kl Km Tryz.zeroValue173 Md Me
theorem xi:(Tryz.prog.info? 173).map (fun i=>(i.zero,i.size,i.bytes))=some (some (.agg #[.int .i64 0,.int .i64 0,.bool false,.slice none 0 0,.int .i64 0]),5,56):=by kernel_rfl
def fO (a0:aH) (a1:Int):Option (Int):=((iI a0.ID a0.IF).bind fun x14=>if x14=true then (if a0.IU<0 then some true else ((ib a0.IU 4).bind fun x18=>if x18=true then (if a1=0 then (if a0.IU>0 then some true else some false) else some false) else some true)) else some true).bind fun y12=>if y12=true then some 11 else ((jD a0.IC).bind fun x24=>some x24)
theorem nv (a0:aH) (A1:Option Addr) (c2:Nat) (a1:Int) (r:Int) (h:fO a0 a1=some r):aC Tryz.prog 193 #[.agg #[jI a0.ID,jI a0.IF,.bool a0.I2,.slice A1 a0.IC.length c2,jI a0.IU],jI a1] (RX.of (ai 2 aZ) [.slice A1 a0.IC.length c2] a0.IC) (aO) (fun v A' N=>v=jI r/\A'=aO/\N = []):=by
 refine aU Tryz.func193 Z Tryz.ntmps193 Z ?_;intro F w hX;unfold fO at h;refine Gq Z (TL.box Z .u Z Z (fun b3=>(Gx aD Z (Ig ?_))));obtain⟨y12,h,hk13⟩:=Jn h;refine Hj (fun e Rs=>e = [(2,jP b3),(4,jI 0),(30,.bool y12)]/\Rs = [aN b3 173 #[jI a0.ID,jI a0.IF,.bool a0.I2,.slice A1 a0.IC.length c2,jI a0.IU],aO]) ?_ ?_
 ·clear hk13;refine T.region Z ?_;obtain⟨x14,hx15,h⟩:=Jn h;refine Gt aD eV 0 Z 4 Z Z (GT Z .u (.fn Tryz.call192 Z) (iU a0.ID a0.IF _ hx15) rT Z ?_);rcases jF h with⟨c16,h⟩ | ⟨c16,h⟩
  ·refine Gp aD 2 Z (GA 11 Z (bd c16) ?_);rcases jF h with⟨c17,h⟩ | ⟨c17,h⟩
   ·refine Gt aD eV 0 Z 5 Z Z (GA 16 Z (Jq c17) (GB aD 14 Z ?_));cases h;exact TL.nil (GE [0,0])
   refine Gt aD eV 0 Z 5 Z Z (GA 16 Z (Jr c17) ?_);obtain⟨x18,hx19,h⟩:=Jn h;refine Gt aD eV 0 Z 2 Z Z (GT Z (.g Z Z Z) (.fn Tryz.call101 Z) (Hk (fun w=>db a0.IU 4 _ hx19 w)) (fun _ _=>G5 _ _) Z ?_);rcases jF h with⟨c20,h⟩ | ⟨c20,h⟩
   ·refine GB aD 3 Z (GA 22 Z (bd c20) ?_);rcases jF h with⟨c21,h⟩ | ⟨c21,h⟩
    ·refine GB aD 3 Z (GA 25 Z (Jq c21) (Gt aD eV 0 Z 5 Z Z ?_));rcases jF h with⟨c22,h⟩ | ⟨c22,h⟩
     ·cases h;exact TL.nil (Hn (d:=30) (v':= .bool true) Z (congrArg Value.bool (Jq c22)) (GE [0,0]))
     cases h;exact TL.nil (Hn (d:=30) (v':= .bool false) Z (congrArg Value.bool (Jr c22)) (GE [0,0]))
    refine GB aD 3 Z (GA 25 Z (Jr c21) (GB aD 5 Z ?_));cases h;exact TL.nil (GE [0,0])
   replace c20:=Ju c20;refine GB aD 3 Z (GA 22 Z (bM c20) (GB aD 8 Z ?_));cases h;exact TL.nil (GE [0,0])
  replace c16:=Ju c16;refine Gp aD 2 Z (GA 11 Z (bM c16) (GB aD 19 Z ?_));cases h;exact TL.nil (GE [0,0])
 rintro _ _ ⟨rfl,rfl⟩;clear h;have h:=hk13;clear hk13;try dsimp only at h
 rcases jF h with⟨c23,h⟩ | ⟨c23,h⟩
 ·refine X.seq (GF Z c23 (Gq Z (Gp aD 1 Z ?_)));obtain rfl:=Jp h;exact Gs (T.ret (Gv (GD [1] Tryz.results193 (Gu Z))))
 replace c23:=Ju c23;refine X.seq (GU Z c23 (G3 Z ?_));obtain⟨x24,hx25,h⟩:=Jn h;refine Gt aD eV 0 Z 2 Z Z (GT Z .u (.fn Tryz.call210 Z) (ng a0.IC _ _ _ hx25) (fun _ hs=>(GJ hs hX)) Z (Gp aD 1 Z ?_));obtain rfl:=Jp h;exact Gs (T.ret (GD [1] Tryz.results193 (Gu Z)))
def eA (a1:Int):List aH->Int->Option (Lp Int Int)
 | [],y4=>some (Lp.go y4)
 | x10::xs,y4=>(fO x10 a1).bind fun x18=>if x18=0 then (eA a1 xs y4) else some (Lp.ret x18)
def g9 (a0:List aH) (a1:Int):Option (Int):=if (a0.length:Int)=0 then some 10 else ((eA a1 a0 0).bind fun e=>match e with | .ret r=>some r | .go y21=>some 0)
theorem lK (a0:List aH) (A1:Option Addr) (c2:Nat) (a1:Int) (r:Int) (h:g9 a0 a1=some r):aC Tryz.prog 155 #[.slice A1 a0.length c2,jI a1] (RX.of (ai 5 aP) [.slice A1 a0.length c2] a0) (aO) (fun v A' N=>v=jI r/\A'=aO/\N = []):=by
 refine aU Tryz.func155 Z Tryz.ntmps155 Z ?_;intro F w hX;unfold g9 at h;refine Gq Z (Gx aD Z (T.seq (Gq Z (Gp aD 1 Z (Gr Z (GK Z Kl) Z (Gp aD 1 Z ?_))))));rcases jF h with⟨c3,h⟩ | ⟨c3,h⟩
 ·refine Hg Z c3 (Gq Z (Gp aD 1 Z ?_));obtain rfl:=Jp h;exact Gs (T.ret (Gv (GD [0] Tryz.results155 (Gu Z))))
 refine Hh Z c3 (GQ (T.seq (Gq Z (Gp aD 1 Z (Gr Z (GK Z Kl) Z (Gx aD Z (T.block ?_)))))));obtain⟨E6,hE7,hO8⟩:=Jn h;have hk12len:=Ha hX;refine Hl (fun m e Rs=> ∃ (y4:Int) (k5:Nat),k5+m=a0.length/\e = [(1,jI a1),(4,jI y4),(11,.slice A1 a0.length c2),(12,jI (a0.length:Int)),(13,jI (k5:Int))]/\Rs = [aO]/\eA a1 (a0.drop k5) y4=some E6) (a0.length) [0] ⟨0,0,by simp,Z,Z,by rw[List.drop_zero]; exact hE7⟩ Mf Mf ?_;clear hE7 h;rintro m9 _ _ ⟨y4,k5,hk12,rfl,rfl,h⟩
 cases m9 with
 | zero =>
  rw[List.drop_of_length_le Mc,eA] at h;have hk12ge: ¬ ((k5:Int)<(a0.length:Int)):=by omega
  refine Gq Z (Gx aD Z (T.seq (GU Z (Jr hk12ge) ?_)));obtain rfl:=Jp h;replace h:=hO8;clear hO8;refine T.exit (GL (GL (Hi (X.seq (Gq Z (Gp aD 1 Z ?_))))));obtain rfl:=Jp h;exact Gs (T.ret (GD [0] Tryz.results155 (Gu Z)))
 | succ m9 =>
  obtain⟨x10,hxx10⟩: ∃ x,a0[k5]? = some x:=⟨_,List.getElem?_eq_getElem Mc⟩;rw[bz hxx10,eA] at h;have hk12lt:(k5:Int)<(a0.length:Int):=by omega
  refine Gq Z (Gx aD Z (T.seq (GF Z (Jq hk12lt) ?_)));obtain⟨gz13,oz13,rfl,z13cs,z13cl,z13cc,z13nf,z13r⟩:=G4 Md hX hxx10;obtain⟨z13S,z13r,z13rr⟩:=z13r;obtain⟨A14,c15,rfl,z13s0⟩:=z13r;have hX16:(RX.of (ai 2 aZ) [.slice A14 x10.IC.length c15] x10.IC).reads w F:=⟨z13S,z13s0,z13rr⟩;refine GQ (T.seq (T.block (Gq Z ?_)));refine Gr Z (GS (k:=k5) Z Z Z Kl Km (Jt hxx10).1) Z ?_;refine Gr Z (Ho (us := [jI x10.ID,jI x10.IF,.bool x10.I2,.slice A14 x10.IC.length c15,jI x10.IU]) 0 Z Le Km z13nf z13cc Z Z Z) Z (TL.alloc Z .u Tryz.zeroValue173 Z (fun b17=>(GC 0 Z (cs':= #[jI x10.ID,jI x10.IF,.bool x10.I2,.slice A14 x10.IC.length c15,jI x10.IU]) Z .u Z Z Km Z Z Z Z Z (GG Z (Gr Z (GH (us := [jI x10.ID,jI x10.IF,.bool x10.I2,.slice A14 x10.IC.length c15,jI x10.IU]) 0 Z Le Km Z Z Z) Z ?_)))));obtain⟨x18,hx19,h⟩:=Jn h;refine Gp aD 1 Z (GT Z .u (.fn Tryz.call193 Z) (nv x10 _ _ a1 _ hx19) (fun _ hs=>(GJ hs hX16)) Z (GP aD Z Z (Gp aD 2 Z ?_)));rcases jF h with⟨c20,h⟩ | ⟨c20,h⟩
  ·exact GY Z c20 (T.skip (GN (X.seq (T.region Z (Gr Z (Ex.add Z Z Mc) Z (Gp aD 1 Z (TL.nil (X.back (m':=m9) [1] Mc ⟨y4,k5+1,by omega,Z,Z,h⟩ Mf Mf))))))))
  refine GX Z c20 (Gq Z (Gp aD 2 Z ?_));obtain rfl:=Jp h;obtain rfl:=Jp hO8;exact Gs (T.ret (GI (Gv (Gv (GI (Gv (GD [1] Tryz.results155 (Gu Z))))))))
def dX (a2:Int):List aH->(List UInt8×Int)->Option (List UInt8×Int)
 | [],st9=>some st9
 | x14::xs,st9=>(dA st9 x14.ID 8).bind fun st22=>(dA st22 x14.IF 2).bind fun st24=>(gm st24 x14.I2).bind fun st26=>(et st26 x14.IC).bind fun st28=>(if a2>0 then ((dA st28 x14.IU 4).bind fun st36=>some st36) else some st28).bind fun st33=>dX a2 xs st33
def hC (st:List UInt8×Int) (a1:List aH) (a2:Int):Option (List UInt8×Int):=(g9 a1 a2).bind fun x3=>if x3=0 then ((dA st (a1.length:Int) 4).bind fun st6=>(dX a2 a1 st6).bind fun st39=>some st39) else ((jw st x3).bind fun st40=>some st40)
theorem qz (g:Nat) (st:List UInt8×Int) (a1:List aH) (A1:Option Addr) (c2:Nat) (a2:Int) (r:List UInt8×Int) (h:hC st a1 a2=some r):aC Tryz.prog 99 #[jP g,.slice A1 a1.length c2,jI a2] (RX.of (ai 5 aP) [.slice A1 a1.length c2] a1) (bp g st) (fun v A' N=>v= .tuple #[]/\A'=bp g r/\N = []):=by
 refine aU Tryz.func99 Z Tryz.ntmps99 Z ?_;intro F w hX;unfold hC at h;refine T.seq (Gq Z ?_);obtain⟨x3,hx4,h⟩:=Jn h;refine Gp aD 2 Z (GT Z .u (.fn Tryz.call155 Z) (lK a1 _ _ a2 _ hx4) (fun _ hs=>(GJ hs hX)) Z (GP aD Z Z (Gp aD 2 Z ?_)));rcases jF h with⟨c5,h⟩ | ⟨c5,h⟩
 ·refine GY Z c5 (G3 Z (Gp aD 2 Z (Gr Z (GK Z Kl) Z ?_)));obtain⟨st6,hx7,h⟩:=Jn h;refine Gy 0 Z Z .u (.fn Tryz.call51 Z) (bh g st (a1.length:Int) 4 _ hx7) sT Z Z (GG Z (Gp aD 1 Z (Gr Z (GK Z Kl) Z (Gx aD Z (T.block ?_)))));obtain⟨E10,hE11,hO12⟩:=Jn h;have hk16len:=Ha hX;refine Hl (fun m e Rs=> ∃ (k8:Nat) (st9:List UInt8×Int),k8+m=a1.length/\e = [(0,jP g),(2,jI a2),(21,.slice A1 a1.length c2),(22,jI (a1.length:Int)),(23,jI (k8:Int))]/\Rs = [bp g st9]/\dX a2 (a1.drop k8) st9=some E10) (a1.length) [0] ⟨0,st6,by simp,Z,Z,by rw[List.drop_zero]; exact hE11⟩ Mf Mf ?_;clear hE11 h;rintro m13 _ _ ⟨k8,st9,hk16,rfl,rfl,h⟩
  cases m13 with
  | zero =>
   rw[List.drop_of_length_le Mc,dX] at h;have hk16ge: ¬ ((k8:Int)<(a1.length:Int)):=by omega
   refine Gq Z (Gx aD Z (T.seq (GU Z (Jr hk16ge) ?_)));obtain rfl:=Jp h;obtain rfl:=Jp hO12;exact T.exit (GL (GL (Hi (Ht [0] Tryz.results99 ⟨Z,Z,Z⟩ Mf (.inr Z)))))
  | succ m13 =>
   obtain⟨x14,hxx14⟩: ∃ x,a1[k8]? = some x:=⟨_,List.getElem?_eq_getElem Mc⟩;rw[bz hxx14,dX] at h;have hk16lt:(k8:Int)<(a1.length:Int):=by omega
   refine Gq Z (Gx aD Z (T.seq (GF Z (Jq hk16lt) ?_)));obtain⟨gz17,oz17,rfl,z17cs,z17cl,z17cc,z17nf,z17r⟩:=G4 Md hX hxx14;obtain⟨z17S,z17r,z17rr⟩:=z17r;obtain⟨A18,c19,rfl,z17s0⟩:=z17r;have hX20:(RX.of (ai 2 aZ) [.slice A18 x14.IC.length c19] x14.IC).reads w F:=⟨z17S,z17s0,z17rr⟩;refine GQ (T.seq (T.block (Gq Z ?_)));refine Gr Z (GS (k:=k8) Z Z Z Kl Km (Jt hxx14).1) Z ?_;refine Gr Z (Ho (us := [jI x14.ID,jI x14.IF,.bool x14.I2,.slice A18 x14.IC.length c19,jI x14.IU]) 0 Z Le Km z17nf z17cc Z Z Z) Z (TL.alloc Z .u Tryz.zeroValue173 Z (fun b21=>(GC 0 Z (cs':= #[jI x14.ID,jI x14.IF,.bool x14.I2,.slice A18 x14.IC.length c19,jI x14.IU]) Z .u Z Z Km Z Z Z Z Z (GG Z ?_))));obtain⟨st22,hx23,h⟩:=Jn h;refine Gt aD eV 0 Z 3 Z Z (Gy 1 Z Z .u (.fn Tryz.call51 Z) (bh g st9 x14.ID 8 _ hx23) sT Z Z (GG Z ?_));obtain⟨st24,hx25,h⟩:=Jn h;refine Gt aD eV 0 Z 3 Z Z (Gy 1 Z Z .u (.fn Tryz.call51 Z) (bh g st22 x14.IF 2 _ hx25) sT Z Z (GG Z ?_));obtain⟨st26,hx27,h⟩:=Jn h;refine Gt aD eV 0 Z 3 Z Z (Gy 1 Z Z .u (.fn Tryz.call154 Z) (lg g st24 x14.I2 _ hx27) sT Z Z (GG Z ?_));obtain⟨st28,hx29,h⟩:=Jn h;refine Gt aD eV 0 Z 3 Z Z (Gy 1 Z Z .u (.fn Tryz.call91 Z) (iT g st26 x14.IC _ _ _ hx29) (fun _ hs=>(Ia hs hX20)) Z Z (GG Z (Gx aD Z ?_)));obtain⟨st33,h,hk34⟩:=Jn h;refine Hj (fun e Rs=>e = [(0,jP g),(2,jI a2),(21,.slice (some ⟨gz17,oz17,none⟩) a1.length c2),(22,jI (a1.length:Int)),(23,jI (k8:Int))]/\Rs = [aN b21 173 #[jI x14.ID,jI x14.IF,.bool x14.I2,.slice A18 x14.IC.length c19,jI x14.IU],bp g st33]) ?_ ?_
   ·clear hk34;rcases jF h with⟨c35,h⟩ | ⟨c35,h⟩
    ·refine HX Z c35 (T.region Z ?_);obtain⟨st36,hx37,h⟩:=Jn h;refine Gt aD eV 0 Z 3 Z Z (Gy 1 Z Z .u (.fn Tryz.call51 Z) (bh g st28 x14.IU 4 _ hx37) sT Z Z ?_);cases h;exact TL.nil (GE [0,0])
    refine HY Z c35 ?_;cases h;exact T.skip (GE [0,0])
   rintro _ _ ⟨rfl,rfl⟩;clear h;have h:=hk34;clear hk34;exact GN (X.seq (T.region Z (Gr Z (Ex.add Z Z Mc) Z (Gp aD 1 Z (TL.nil (X.back (m':=m13) [1] Mc ⟨k8+1,st33,by omega,Z,Z,h⟩ Mf Mf))))))
 refine GX Z c5 (Gq Z ?_);obtain⟨st40,hx41,h⟩:=Jn h;refine Gp aD 2 Z (Gy 0 Z Z .u (.fn Tryz.call94 Z) (fT g st x3 _ hx41) sT Z Z ?_);obtain rfl:=Jp h;exact Gs (T.ret (Gv (Ht [0] Tryz.results99 ⟨Z,Z,Z⟩ Mf (.inl Z))))
def cU (a1:Int) (x1:Int):Nat->List aH->List aH->Nat->I->Option (Lp (List aH×I) (List aH×List aH×Nat×I))
 | 0,_,_,_,_=>none
 | m15+1,y4,y7,k10,st11=>if (k10:Int)<x1 then ((dB st11 8).bind fun (x20,st21)=>(dB st21 2).bind fun (x23,st24)=>(fA st24).bind fun (x26,st27)=>(dr st27).bind fun (x30,st33)=>(if a1>0 then ((dB st33 4).bind fun (x43,st44)=>some (x43,st44)) else ((some (0,st33):Option (Int×I)))).bind fun (y39,st40)=>(gt st40).bind fun (x46,st47)=>if x46=0 then (if (y7.length+1)*56<=140737488355328 then (if -9223372036854775808<=((k10:Int)+1)/\((k10:Int)+1)<=9223372036854775807 then (cU a1 x1 m15 y4 (y7 ++ [(⟨x20,x23,x26,x30,y39⟩:aH)]) (k10+1) st47) else none) else none) else (some (Lp.ret ([],st47)))) else (some (Lp.go (y4,y7,k10,st11)))
def fp (st:I) (a1:Int):Option (List aH×I):=(ie st 4 15).bind fun (x1,st2)=>(cU a1 x1 ((x1).toNat+1) [] [] 0 st2).bind fun e=>match e with | .ret r=>some r | .go (y64,y67,k70,st71)=>((gt st71).bind fun (x72,st73)=>if x72=0 then ((g9 y67 a1).bind fun x76=>if x76=0 then some (y67,st73) else ((bT st73 x76).bind fun st79=>some ([],st79))) else some ([],st73))
theorem rU (g:Nat) (st:I) (a1:Int) (r:List aH×I) (h:fp st a1=some r):aC Tryz.prog 119 #[jP g,jI a1] .triv (InR g st) (fun v A' N=> ∃ (A81:Option Addr) (c82:Nat),v= .slice A81 r.1.length c82/\A'=InR g r.2/\N = [RdR (ai 5 aP) [.slice A81 r.1.length c82] r.1]):=by
 refine aU Tryz.func119 Z Tryz.ntmps119 Z ?_;intro F w hX;unfold fp at h;refine Gq Z (GP aD Z Z (Gx aD Z (T.seq (Gq Z ?_))));obtain⟨⟨x1,st2⟩,hx3,h⟩:=Jn h;refine Gp aD 1 Z (Gy 0 Z Z .u (.fn Tryz.call144 Z) (jY g st 4 15 _ hx3) sT Z Z (Gx aD Z (T.block ?_)));iterate 2 refine HK 173 5 aP ?_
 obtain⟨E12,hE13,hO14⟩:=Jn h;refine Hl (fun m e Rs=> ∃ (y4:List aH) (A5:Option Addr) (c6:Nat) (y7:List aH) (A8:Option Addr) (c9:Nat) (k10:Nat) (st11:I),e = [(0,jP g),(1,jI a1),(4,.slice A5 y4.length c6),(5,.slice A8 y7.length c9),(9,jI x1),(10,jI (k10:Int))]/\Rs = [ci 173 5 aP (.slice A5 y4.length c6) y4,ci 173 5 aP (.slice A8 y7.length c9) y7,InR g st11]/\cU a1 x1 m y4 y7 k10 st11=some E12) ((x1).toNat+1) [0,0,0] ⟨[],none,0,[],none,0,0,st2,Z,Z,by exact hE13⟩ Mf Mf ?_;clear hE13 h;rintro m15 _ _ ⟨y4,A5,c6,y7,A8,c9,k10,st11,rfl,rfl,h⟩
 cases m15 with
 | zero =>
  rw[cU] at h;cases h
 | succ m15 =>
  rw[cU] at h;refine Gq Z (Gp aD 1 Z ?_);rcases jF h with⟨c19,h⟩ | ⟨c19,h⟩
  ·refine Gs (T.seq (HX Z c19 (GQ (T.seq (T.block (Gq Z ?_))))));obtain⟨⟨x20,st21⟩,hx22,h⟩:=Jn h;refine Gp aD 1 Z (Gy 2 Z Z .u (.fn Tryz.call68 Z) (bl g st11 8 _ hx22) sT Z Z ?_);obtain⟨⟨x23,st24⟩,hx25,h⟩:=Jn h;refine Gp aD 1 Z (Gy 2 Z Z .u (.fn Tryz.call68 Z) (bl g st21 2 _ hx25) sT Z Z ?_);obtain⟨⟨x26,st27⟩,hx28,h⟩:=Jn h;refine Gp aD 1 Z (Gy 2 Z Z .u (.fn Tryz.call171 Z) (nh g st24 _ hx28) sT Z Z ?_);refine Gr Z (GW (cells:= #[jI x20,jI x23,.bool x26,.slice none 0 0,jI 0]) xh Z Me) Z ?_;refine TL.alloc Z .u Tryz.zeroValue173 Z (fun b29=>(GC 0 Z (cs':= #[jI x20,jI x23,.bool x26,.slice none 0 0,jI 0]) Z .u Z Z Km Z Z Z Z Z (GG Z ?_)));obtain⟨⟨x30,st33⟩,hx34,h⟩:=Jn h;refine Gp aD 1 Z (TL.cg3 Z .u (.fn Tryz.call89 Z) (kv g st27 _ hx34) sT Z ?_);rintro _ _ _ ⟨A31,c32,rfl,rfl,rfl⟩;refine Hc [0,0,0,0,0] Z (Gp aD 1 Z (GC 1 Z (cs':= #[jI x20,jI x23,.bool x26,.slice A31 x30.length c32,jI 0]) Z .u Z Z K2 Z Z Z Z Z (Gs (T.seq (Gq Z (Gx aD Z ?_))))));obtain⟨⟨y39,st40⟩,h,hk41⟩:=Jn h;refine Hj (fun e Rs=>e = [(0,jP g),(1,jI a1),(4,.slice A5 y4.length c6),(5,.slice A8 y7.length c9),(6,jP b29),(9,jI x1),(10,jI (k10:Int))]/\Rs = [RdR (ai 2 aZ) [.slice A31 x30.length c32] x30,aN b29 173 #[jI x20,jI x23,.bool x26,.slice A31 x30.length c32,jI y39],ci 173 5 aP (.slice A5 y4.length c6) y4,ci 173 5 aP (.slice A8 y7.length c9) y7,InR g st40]) ?_ ?_
   ·clear hk41;rcases jF h with⟨c42,h⟩ | ⟨c42,h⟩
    ·refine HX Z c42 (T.region Z ?_);obtain⟨⟨x43,st44⟩,hx45,h⟩:=Jn h;refine Gp aD 1 Z (Gy 4 Z Z .u (.fn Tryz.call68 Z) (bl g st33 4 _ hx45) sT Z Z (Gp aD 1 Z (GC 1 Z (cs':= #[jI x20,jI x23,.bool x26,.slice A31 x30.length c32,jI x43]) Z .u Z Z Jv Z Z Z Z Z ?_)));cases h;exact TL.nil (GE [0,0,0,0,0])
    refine HY Z c42 ?_;cases h;exact T.skip (GE [0,0,0,0,0])
   rintro _ _ ⟨rfl,rfl⟩;clear h;have h:=hk41;clear hk41;refine X.seq (T.seq (Gq Z ?_));obtain⟨⟨x46,st47⟩,hx48,h⟩:=Jn h;refine Gp aD 1 Z (Gy 4 Z Z .u (.fn Tryz.call23 Z) (bY g st40 _ hx48) sT Z Z (Gp aD 1 Z ?_));rcases jF h with⟨c49,h⟩ | ⟨c49,h⟩
   ·refine GY Z c49 (GQ (T.region Z (Gp aD 1 Z (Gr Z (GH (us := [jI x20,jI x23,.bool x26,.slice A31 x30.length c32,jI y39]) 1 Z Le Km Z Z Z) Z ?_))));refine Ib (cells:= #[jI x20,jI x23,.bool x26,.slice A31 x30.length c32,jI y39]) Z .u vF Z Me Z (fun b50=> ?_);obtain⟨c51,h⟩:=aE h;refine Iu 3 0 Z .u (us := [jI x20,jI x23,.bool x26,.slice A31 x30.length c32,jI y39]) (u:=(⟨x20,x23,x26,x30,y39⟩:aH)) (l:=y7) (E:=aP) Tryz.underlying33 xi Z Md Z Z Z Z Z Z Z (fun w G hG=>⟨_,_,Z,hG.1⟩) (by have hq:=c51; omega) (by have hq:=c51; omega) Z (fun A52 c53=> ?_);refine Hc [0,0,0,0] Z (Gp aD 1 Z ?_);obtain⟨c54,h⟩:=aE h;exact TL.nil (GN (X.seq (T.region Z (Gr Z (Ex.add Z Z c54) Z (Gp aD 1 Z (TL.nil (X.back (m':=m15) [2,0,1] Mc ⟨y4,A5,c6,(y7 ++ [(⟨x20,x23,x26,x30,y39⟩:aH)]),A52,c53,k10+1,st47,Z,Z,h⟩ Mf Mf)))))))
   refine GX Z c49 (Gq Z (Gp aD 1 Z ?_));obtain rfl:=Jp h;obtain rfl:=Jp hO14;exact Gs (T.ret (Gv (GI (Gv (Gv (GI (Gv (GO 5 aP (GV [5,0] L0 (Gu Z) ⟨_,_,Z,Z,Z⟩ Mf (.inl Z))))))))))
  refine Gs (T.seq (HY Z c19 ?_));obtain rfl:=Jp h;replace h:=hO14;clear hO14;refine T.exit (GL (GL (Hi (X.seq (T.seq (Gq Z ?_))))));obtain⟨⟨x55,st56⟩,hx57,h⟩:=Jn h;refine Gp aD 1 Z (Gy 2 Z Z .u (.fn Tryz.call23 Z) (bY g st11 _ hx57) sT Z Z (Gp aD 1 Z ?_));rcases jF h with⟨c58,h⟩ | ⟨c58,h⟩
  ·refine GY Z c58 (GQ (T.seq (Gq Z ?_)));obtain⟨x59,hx60,h⟩:=Jn h;refine Gp aD 2 Z (GT Z .u (.fn Tryz.call155 Z) (lK y7 _ _ a1 _ hx60) (fun _ hs=>(SrcE.res 1 hs Z (fun w G h=>dG Md w G h))) Z (GP aD Z Z (Gp aD 2 Z ?_)));rcases jF h with⟨c61,h⟩ | ⟨c61,h⟩
   ·refine GY Z c61 (G3 Z (Gp aD 2 Z ?_));obtain rfl:=Jp h;exact Gs (T.ret (Ip Md 1 Z (G8 [0,0,0] Z (GV [2,1] L0 (Gu Z) ⟨_,_,Z,Z,Z⟩ Mf (.inl Z)))))
   refine GX Z c61 (Gq Z ?_);obtain⟨st62,hx63,h⟩:=Jn h;refine Gp aD 2 Z (Gy 2 Z Z .u (.fn Tryz.call70 Z) (bx g st56 x59 _ hx63) sT Z Z (GG Z (Gp aD 1 Z ?_)));obtain rfl:=Jp h;exact Gs (T.ret (Gv (GO 5 aP (GV [3,0] L0 (Gu Z) ⟨_,_,Z,Z,Z⟩ Mf (.inl Z)))))
  refine GX Z c58 (Gq Z (Gp aD 1 Z ?_));obtain rfl:=Jp h;exact Gs (T.ret (Gv (GO 5 aP (GV [3,0] L0 (Gu Z) ⟨_,_,Z,Z,Z⟩ Mf (.inl Z)))))
def eu (n:Int) (i:Nat):Bool:=decide (n / 2 ^ i % 2=1)
theorem xj (n:Int) (m:Nat) (hm:m<9223372036854775808):bits .and .i64 n m=(((n % 18446744073709551616).toNat &&& m:Nat):Int):=by
 have e1:(BitVec.ofInt 64 n).toNat=(n % 18446744073709551616).toNat:=by simp[BitVec.toNat_ofInt]
 have e2:(BitVec.ofInt 64 (m:Int)).toNat=m:=by
  rw[BitVec.ofInt_natCast,BitVec.toNat_ofNat,Nat.mod_eq_of_lt Mc]
 show IntKind.i64.wrap (((BitVec.ofInt 64 n) &&& (BitVec.ofInt 64 (m:Int))).toNat:Int)= _;rw[BitVec.toNat_and,e1,e2];have h:(n % 18446744073709551616).toNat &&& m<=m:=Nat.and_le_right;rw[IntKind.wrap_i64];omega
theorem FH (n:Int) (i:Nat) (hi:i<64):(n % 18446744073709551616).toNat.testBit i=eu n i:=by
 have hs:(18446744073709551616:Int)=2 ^ i*2 ^ (64 - i):=by
  rw[<- Int.pow_add,show i+(64 - i)=64 by omega];rfl
 have h2:(2:Int) ^ (64 - i)=2*2 ^ (63 - i):=by
  rw[show 64 - i=1+(63 - i) by omega,Int.pow_add];rfl
 rw[Nat.testBit_eq_decide_div_mod_eq,eu];have hp:(0:Int)<2 ^ i:=Int.pow_pos Md;have h4:n % 18446744073709551616 / 2 ^ i=n / 2 ^ i % 2 ^ (64 - i):=by
  have e:n % 18446744073709551616=n - 2 ^ i*(2 ^ (64 - i)*(n / 18446744073709551616)):=by
   have:=Int.emod_def n 18446744073709551616;rw[this,hs,Int.mul_assoc]
  rw[e,Int.sub_mul_ediv_left _ _ Mc,Int.emod_def,Int.ediv_ediv_of_nonneg (Int.le_of_lt hp),<- hs]
 have h5:n / 2 ^ i % 2 ^ (64 - i) % 2=n / 2 ^ i % 2:=by
  rw[h2];exact Int.emod_emod_of_dvd _ ⟨_,rfl⟩
 have h6:(((n % 18446744073709551616).toNat / 2 ^ i % 2:Nat):Int)=n / 2 ^ i % 2:=by
  have e:((n % 18446744073709551616).toNat:Int)=n % 18446744073709551616:=by omega
  rw[Int.natCast_emod,Int.natCast_ediv,e,Int.natCast_pow];show n % 18446744073709551616 / 2 ^ i % 2= _;rw[h4,h5]
 congr 1;apply propext;omega
theorem xk (n:Int) (i:Nat) (hi:i<63):(bits .and .i64 n ((2 ^ i:Nat):Int) != 0)=eu n i:=by
 have hm:2 ^ i<9223372036854775808:=Nat.lt_of_lt_of_eq (Nat.pow_lt_pow_right Md hi) (show 2 ^ 63=9223372036854775808 by decide);rw[xj n _ hm,<- FH n i Mc];generalize (n % 18446744073709551616).toNat=a
 cases h:a.testBit i with
 | true =>
  have:(a &&& 2 ^ i)≠0:=by
   intro h0;have:=congrArg (fun x=>Nat.testBit x i) h0;simp[h,Nat.testBit_two_pow_self] at this
  simp; omega
 | false =>
  have:(a &&& 2 ^ i)=0:=by
   apply Nat.eq_of_testBit_eq;intro j;rw[Nat.testBit_and,Nat.testBit_two_pow];by_cases hj:i=j
   ·subst hj; simp[h]
   ·simp[hj]
  simp[this]
theorem CL (n:Int):(bits .and .i64 n 7 != 0)=decide (n % 8≠0):=by
 have h:=xj n 7 Md;rw[show ((7:Nat):Int)=7 from rfl] at h;rw[h,Nat.and_two_pow_sub_one_eq_mod _ 3];rw[Bool.eq_iff_iff];simp;omega
theorem CM (n:Int) (h8:n % 8=0) (h0: -9223372036854775808<=n) (h1:n<=9223372036854775807):(bits .andNot .i64 n 56 != 0)=decide (n<0\/63<n):=by
 have e1:(BitVec.ofInt 64 n).toNat=(n % 18446744073709551616).toNat:=by simp[BitVec.toNat_ofInt]
 have e2:(~~~ BitVec.ofInt 64 (56:Int)).toNat=18446744073709551559:=by decide
 have e3:bits .andNot .i64 n 56=IntKind.i64.wrap (((BitVec.ofInt 64 n) &&& ~~~ (BitVec.ofInt 64 (56:Int))).toNat:Int):=rfl;rw[e3,BitVec.toNat_and,e1,e2];have ha:(n % 18446744073709551616).toNat % 8=0:=by omega
 have hb:(n % 18446744073709551616).toNat<64 ↔ ¬ (n<0\/63<n):=by omega
 have hc:(n % 18446744073709551616).toNat<18446744073709551616:=by omega
 generalize (n % 18446744073709551616).toNat=a at *;have hw: ∀ x:Nat,x<18446744073709551616->((IntKind.i64.wrap (x:Int) != 0)=decide (x≠0)):=by
  intro x hx;rw[IntKind.wrap_i64,Bool.eq_iff_iff];simp;omega
 rw[hw _ (Nat.lt_of_le_of_lt Nat.and_le_left hc)];by_cases h:a<64
 ·have:a=0\/a=8\/a=16\/a=24\/a=32\/a=40\/a=48\/a=56:=by omega
  have hz:a &&& 18446744073709551559=0:=by rcases this with rfl | rfl | rfl | rfl | rfl | rfl | rfl | rfl <;> decide
  simp[hz,hb.1 h]
 ·have hz:a &&& 18446744073709551559≠0:=by
   intro h0;have h2:=congrArg (fun x=>x >>> 6) h0;simp only[Nat.shiftRight_and_distrib] at h2;rw[show 18446744073709551559 >>> 6=2 ^ 58 - 1 from rfl,Nat.and_two_pow_sub_one_eq_mod,Nat.shiftRight_eq_div_pow] at h2;simp at h2;omega
  have:n<0\/63<n:=by
   rcases Classical.em (n<0\/63<n) with h2 | h2
   ·exact h2
   ·exact absurd (hb.2 h2) h
  simp[hz,this]
theorem and_8 (n:Int):(bits .and .i64 n 8 != 0)=eu n 3:=xk n 3 Md
theorem D0 (n:Int):(bits .and .i64 n 16 != 0)=eu n 4:=xk n 4 Md
theorem D1 (n:Int):(bits .and .i64 n 32 != 0)=eu n 5:=xk n 5 Md
theorem D2 {a b:Int} {c:Bool} (h:(a != b)=c):(a == b)= !c:=by rw[<- h,bne,Bool.not_not]
theorem CN (n:Int) (w:World) :
 Calls Tryz.prog 186 #[.int .i64 n] w fun e w'=>e= .returned (.tuple #[.bool (eu n 3),.bool (eu n 4),.bool (eu n 5)])/\w=w':=by
 have H1:=Lib.hid (and_8 n);have H2:=Lib.hid (D0 n);have H3:=Lib.hid (D1 n);go_enter Tryz.func186,Tryz.ntmps186
 go_wp2
 go_ret3
 exact⟨congrArg Ending.returned (show (Value.tuple #[.bool (bits .and .i64 n 8 != 0),.bool (bits .and .i64 n 16 != 0),.bool (bits .and .i64 n 32 != 0)])= _ by rw[H1.out,H2.out,H3.out]),rfl⟩
def eB (n:Int):Int:=if n % 8≠0 then 9 else if n<0\/63<n\/(eu n 5=true/\eu n 4=false) then 8 else 0
theorem Ak (n:Int) (h0: -9223372036854775808<=n) (h1:n<=9223372036854775807) (w:World) :
 Calls Tryz.prog 185 #[.int .i64 n] w fun e w'=>e= .returned (.int .i64 (eB n))/\w=w':=by
 have h7:=CL n;by_cases h8:n % 8=0
 ·have ha:=CM n h8 h0 h1;have h32:=D1 n;have h16:=D2 (D0 n);have H8:=Lib.hid h8;simp only[h8] at h7;by_cases hr:n<0\/63<n
  ·have HA:=Lib.hid (show eB n=8 by simp only[eB,h8]; rcases hr with h | h <;> simp[h]);simp only[hr] at ha;clear hr h8 h32 h16;go_enter L2,LR
   go_wp2
   go_ret
   exact⟨lC (by rw[HA.out]),rfl⟩
  ·simp only[hr] at ha;have HR:=Lib.hid hr;clear hr h8
   cases b5:eu n 5 with
   | true =>
    cases b4:eu n 4 with
    | true =>
     have HA:=Lib.hid (show eB n=0 by have:=HR.out; simp[eB,H8.out,b5,b4]; omega);rw[b5] at h32;rw[b4] at h16;clear b5 b4;go_enter L2,LR
     go_wp2
     go_ret
     exact⟨lC (by rw[HA.out]),rfl⟩
    | false =>
     have HA:=Lib.hid (show eB n=8 by simp[eB,H8.out,b5,b4]);rw[b5] at h32;rw[b4] at h16;clear b5 b4;go_enter L2,LR
     go_wp2
     go_ret
     exact⟨lC (by rw[HA.out]),rfl⟩
   | false =>
    have HA:=Lib.hid (show eB n=0 by have:=HR.out; simp[eB,H8.out,b5]; omega);rw[b5] at h32;clear b5 h16;go_enter L2,LR
    go_wp2
    go_ret
    exact⟨lC (by rw[HA.out]),rfl⟩
 ·have HA:=Lib.hid (show eB n=9 by simp[eB,h8]);simp only[ne_eq,h8] at h7;clear h8;go_enter L2,LR
  go_wp2
  go_ret
  exact⟨lC (by rw[HA.out]),rfl⟩
def ig (a t c:Bool):Int:=(if a then 8 else 0)+(if t then 16 else 0)+(if c then 32 else 0)
theorem yu {w W:World} (h:Below w.heap.size w W) (o:Obj):Below w.heap.size w (W.alloc o):=h.alloc h.size o
theorem Of_any (i0 i1 i5 i6 i7 i8 i9 i10:Int) (a t c:Bool) (A:Option Addr) (n k:Nat) (w:World) :
 Calls Tryz.prog 82 #[.agg #[.int .i64 i0,.int .i64 i1,.bool a,.bool t,.bool c,.int .i64 i5,.int .i64 i6,.int .i64 i7,.int .i64 i8,.int .i64 i9,.int .i64 i10,.slice A n k]] w fun e w' =>
  e= .returned (.int .i64 (ig a t c))/\Below w.heap.size w w':=by
 have ix: ∀ (x0 x1 x2 x3 x4 x5: Value),(∀ w:World,(Instr.index 231 (.agg #[x0,x1,x2,x3,x4,x5]) (.int .i64 0)).run Tryz.prog w= .ok (.agg #[x0,x1]) w)/\(∀ w:World,(Instr.index 231 (.agg #[x0,x1,x2,x3,x4,x5]) (.int .i64 1)).run Tryz.prog w= .ok (.agg #[x2,x3]) w)/\(∀ w:World,(Instr.index 231 (.agg #[x0,x1,x2,x3,x4,x5]) (.int .i64 2)).run Tryz.prog w= .ok (.agg #[x4,x5]) w):=fun _ _ _ _ _ _=>⟨fun _=>by kernel_rfl,fun _=>by kernel_rfl,fun _=>by kernel_rfl⟩;cases a <;> cases t <;> cases c <;>
 ·go_enter Tryz.func82,Tryz.ntmps82
  go_wp2_with fail
  refine wp_loop_rounds 4 ?_;rw[rounds_succ];go_wp2_with fail
  rw[rounds_succ];go_wp2_with fail
  rw[rounds_succ];go_wp2_with fail
  rw[rounds_succ];go_wp2_with fail
  go_ret
  exact⟨rfl,by repeat (first | exact Below.refl _ _ | refine yu ?_ _)⟩
theorem FI (i0 i1 i5 i6 i7 i8 i9 i10:Int) (a t c:Bool) (A:Option Addr) (n k:Nat) :
 pd Tryz.prog 82 #[.agg #[.int .i64 i0,.int .i64 i1,.bool a,.bool t,.bool c,.int .i64 i5,.int .i64 i6,.int .i64 i7,.int .i64 i8,.int .i64 i9,.int .i64 i10,.slice A n k]] (fun v N=>v= .int .i64 (ig a t c)/\N = []):=by
 intro w;refine (Of_any i0 i1 i5 i6 i7 i8 i9 i10 a t c A n k w).mono ?_;rintro e w' ⟨rfl,hb⟩;exact⟨_,_,rfl,⟨rfl,rfl⟩,Ir hb,trivial⟩
def Al (n:Int):Option (Bool×Bool×Bool):=some (eu n 3,eu n 4,eu n 5)
theorem CO (n:Int):Al n=some (eu n 3,eu n 4,eu n 5):=rfl
theorem yv (n:Int) (r:Bool×Bool×Bool) (h:Al n=some r) (w:World):Calls Tryz.prog 186 #[.int .i64 n] w fun e w'=>e= .returned (.tuple #[.bool r.1,.bool r.2.1,.bool r.2.2])/\w=w':=by
 obtain rfl:=Jp h;exact CN n w
def xl (n:Int):Option Int:=if -9223372036854775808<=n/\n<=9223372036854775807 then some (eB n) else none
theorem Am (n:Int) (h: -9223372036854775808<=n/\n<=9223372036854775807):xl n=some (eB n):=Mg h
theorem xm (n:Int) (r:Int) (h:xl n=some r) (w:World):Calls Tryz.prog 185 #[.int .i64 n] w fun e w'=>e= .returned (.int .i64 r)/\w=w':=by
 obtain⟨h1,h⟩:=aE h;obtain rfl:=Jp h;exact Ak n h1.1 h1.2 w
def gAOf (b:Bat):Option Int:=some (ig b.Jg b.Jf b.Jc)
theorem FJ (b:Bat):gAOf b=some (ig b.Jg b.Jf b.Jc):=rfl
theorem v6 (b:Bat) (A:Option Addr) (c:Nat) (r:Int) (h:gAOf b=some r):aC Tryz.prog 82 #[.agg #[.int .i64 b.I9,.int .i64 b.I5,.bool b.Jg,.bool b.Jf,.bool b.Jc,.int .i64 b.I7,.int .i64 b.IV,.int .i64 b.Je,.int .i64 b.ID,.int .i64 b.IF,.int .i64 b.IX,.slice A b.IG.length c]]
 (RX.of (ai 7 dK) [.slice A b.IG.length c] b.IG) aO (fun u A' N=>u= .int .i64 r/\A'=aO/\N = []):=by
 obtain rfl:=Jp h;exact Ic (FI _ _ _ _ _ _ _ _ _ _ _ _ _ _)
def An:ey := [(23,0,0),(23,1,1),(91,1,1),(91,2,2),(91,3,4),(91,4,6)]
theorem av:(An).OK Tryz.prog:=⟨FOK.mk JT rfl JW rfl,FOK.mk JT rfl JO rfl,FOK.mk JS rfl Jv rfl,FOK.mk JS rfl JB rfl,FOK.mk JS rfl JB rfl,FOK.mk JS rfl La rfl,trivial⟩
def Ao:List Nat := [3,4,9,89]
theorem eP:NOK Tryz.prog Ao:=⟨Jy,Ky,JZ,Tryz.isAgg89,trivial⟩
def dg (st:I)  : Option (I):=(dB st 2).bind fun (x1,st2)=>if x1=0 then some st2 else ((bT st2 7).bind fun st5=>some st5)
theorem iW (g:Nat) (st:I)  (r:I) (h:dg st  = some r):aC Tryz.prog 217 #[jP g] .triv (InR g st) (fun v A' N=>v= .tuple #[]/\A'=InR g r/\N = []):=by
 refine aU Tryz.func217 Z Tryz.ntmps217 Z ?_;intro F w hX;unfold dg at h;refine Gq Z ?_;obtain⟨⟨x1,st2⟩,hx3,h⟩:=Jn h;refine Gp av 1 Z (Gy 0 Z Z .u (.fn Tryz.call68 Z) (bl g st 2 _ hx3) sT Z Z (Gp av 1 Z ?_));rcases jF h with⟨c4,h⟩ | ⟨c4,h⟩
 ·refine GY Z c4 ?_;obtain rfl:=Jp h;exact T.skip (Ht [0] Tryz.results217 ⟨Z,Z,Z⟩ Mf (.inr Z))
 refine GX Z c4 (T.region Z ?_);obtain⟨st5,hx6,h⟩:=Jn h;refine Gp av 1 Z (Gy 0 Z Z .u (.fn Tryz.call70 Z) (bx g st2 7 _ hx6) sT Z Z ?_);obtain rfl:=Jp h;exact TL.nil (Ht [0] Tryz.results217 ⟨Z,Z,Z⟩ Mf (.inr Z))
def dP (a0:List UInt8):Option (Int×Int):=(sZ a0).bind fun st1=>(dg st1).bind fun st4=>(dB st4 2).bind fun (x6,st7)=>if x6=0 then ((dJ st7).bind fun (x10,st11)=>if x10=0 then some (x6,0) else some (0,x10)) else (if x6=1 then ((dJ st7).bind fun (x15,st16)=>if x15=0 then some (x6,0) else some (0,x15)) else ((bT st7 12).bind fun st19=>(dJ st19).bind fun (x21,st22)=>if x21=0 then some (x6,0) else some (0,x21)))
theorem mL (a0:List UInt8) (r:Int×Int) (h:dP a0=some r):aC Tryz.prog 187 #[jS a0] .triv (aO) (fun v A' N=>v= .tuple #[jI r.1,jI r.2]/\A'=aO/\N = []):=by
 refine aU Tryz.func187 Z Tryz.ntmps187 Z ?_;intro F w hX;unfold dP at h;refine Gq Z (GP av Z Z ?_);obtain⟨st1,hx2,h⟩:=Jn h;refine Gp av 1 Z (HZ Z .u (.fn Tryz.call19 Z) (iE a0 _ hx2) rT Z ?_);rintro _ _ _ ⟨b3,rfl,rfl,rfl⟩;refine Hc [0,0] Z (GP av Z Z ?_);obtain⟨st4,hx5,h⟩:=Jn h;refine Gp av 1 Z (Gy 0 Z Z .u (.fn Tryz.call217 Z) (iW b3 st1 _ hx5) sT Z Z (GG Z ?_));obtain⟨⟨x6,st7⟩,hx8,h⟩:=Jn h;refine Gp av 1 Z (Gy 0 Z Z .u (.fn Tryz.call68 Z) (bl b3 st4 2 _ hx8) sT Z Z (Gx av Z (T.seq (Gq Z ?_))));rcases jF h with⟨c9,h⟩ | ⟨c9,h⟩
 ·refine Gp av 3 Z (GA 15 Z (bd (Jq c9)) (Hz av Z (GU Z Z (GQ (T.seq (Gq Z ?_))))));obtain⟨⟨x10,st11⟩,hx12,h⟩:=Jn h;refine Gp av 1 Z (Gy 0 Z Z .u (.fn Tryz.call21 Z) (cR b3 st7 _ hx12) sT Z Z (GP av Z Z (Gp av 2 Z ?_)));rcases jF h with⟨c13,h⟩ | ⟨c13,h⟩
  ·refine GY Z c13 (G3 Z (Gp av 3 Z ?_));obtain rfl:=Jp h;exact Gs (T.ret (G9 [1] Lh (Gu Z) (Gu Z) ⟨Z,Z,Z⟩ Mf (.inl Z)))
  refine GX Z c13 (Gq Z (Gp av 3 Z ?_));obtain rfl:=Jp h;exact Gs (T.ret (Gv (G9 [1] Lh (Gu Z) (Gu Z) ⟨Z,Z,Z⟩ Mf (.inl Z))))
 refine Gp av 3 Z (GA 15 Z (bM (Jr c9)) (GB av 3 Z ?_));rcases jF h with⟨c14,h⟩ | ⟨c14,h⟩
 ·refine GY Z c14 (GQ (T.seq (Gq Z ?_)));obtain⟨⟨x15,st16⟩,hx17,h⟩:=Jn h;refine Gp av 1 Z (Gy 0 Z Z .u (.fn Tryz.call21 Z) (cR b3 st7 _ hx17) sT Z Z (GP av Z Z (Gp av 2 Z ?_)));rcases jF h with⟨c18,h⟩ | ⟨c18,h⟩
  ·refine GY Z c18 (G3 Z (Gp av 3 Z ?_));obtain rfl:=Jp h;exact Gs (T.ret (G9 [1] Lh (Gu Z) (Gu Z) ⟨Z,Z,Z⟩ Mf (.inl Z)))
  refine GX Z c18 (Gq Z (Gp av 3 Z ?_));obtain rfl:=Jp h;exact Gs (T.ret (Gv (G9 [1] Lh (Gu Z) (Gu Z) ⟨Z,Z,Z⟩ Mf (.inl Z))))
 refine GX Z c14 (T.region Z ?_);obtain⟨st19,hx20,h⟩:=Jn h;refine Gp av 1 Z (Gy 0 Z Z .u (.fn Tryz.call70 Z) (bx b3 st7 12 _ hx20) sT Z Z (Gs (T.seq (Gq Z ?_))));obtain⟨⟨x21,st22⟩,hx23,h⟩:=Jn h;refine Gp av 1 Z (Gy 0 Z Z .u (.fn Tryz.call21 Z) (cR b3 st19 _ hx23) sT Z Z (GP av Z Z (Gp av 2 Z ?_)));rcases jF h with⟨c24,h⟩ | ⟨c24,h⟩
 ·refine GY Z c24 (G3 Z (Gp av 3 Z ?_));obtain rfl:=Jp h;exact Gs (T.ret (G9 [1] Lh (Gu Z) (Gu Z) ⟨Z,Z,Z⟩ Mf (.inl Z)))
 refine GX Z c24 (Gq Z (Gp av 3 Z ?_));obtain rfl:=Jp h;exact Gs (T.ret (Gv (G9 [1] Lh (Gu Z) (Gu Z) ⟨Z,Z,Z⟩ Mf (.inl Z))))
def dc (a0:List UInt8):Option (Int×Int):=(sZ a0).bind fun st1=>(dg st1).bind fun st4=>(dB st4 4).bind fun (x6,st7)=>if x6<0 then ((bT st7 11).bind fun st10=>(dJ st10).bind fun (x12,st13)=>if x12=0 then some (x6,0) else some (0,x12)) else ((dJ st7).bind fun (x16,st17)=>if x16=0 then some (x6,0) else some (0,x16))
theorem lS (a0:List UInt8) (r:Int×Int) (h:dc a0=some r):aC Tryz.prog 188 #[jS a0] .triv (aO) (fun v A' N=>v= .tuple #[jI r.1,jI r.2]/\A'=aO/\N = []):=by
 refine aU Tryz.func188 Z Tryz.ntmps188 Z ?_;intro F w hX;unfold dc at h;refine Gq Z (GP av Z Z ?_);obtain⟨st1,hx2,h⟩:=Jn h;refine Gp av 1 Z (HZ Z .u (.fn Tryz.call19 Z) (iE a0 _ hx2) rT Z ?_);rintro _ _ _ ⟨b3,rfl,rfl,rfl⟩;refine Hc [0,0] Z (GP av Z Z ?_);obtain⟨st4,hx5,h⟩:=Jn h;refine Gp av 1 Z (Gy 0 Z Z .u (.fn Tryz.call217 Z) (iW b3 st1 _ hx5) sT Z Z (GG Z ?_));obtain⟨⟨x6,st7⟩,hx8,h⟩:=Jn h;refine Gp av 1 Z (Gy 0 Z Z .u (.fn Tryz.call68 Z) (bl b3 st4 4 _ hx8) sT Z Z (Gx av Z (T.seq (Gq Z (Gp av 2 Z ?_)))));rcases jF h with⟨c9,h⟩ | ⟨c9,h⟩
 ·refine Hg Z c9 (T.region Z ?_);obtain⟨st10,hx11,h⟩:=Jn h;refine Gp av 1 Z (Gy 0 Z Z .u (.fn Tryz.call70 Z) (bx b3 st7 11 _ hx11) sT Z Z (Gs (T.seq (Gq Z ?_))));obtain⟨⟨x12,st13⟩,hx14,h⟩:=Jn h;refine Gp av 1 Z (Gy 0 Z Z .u (.fn Tryz.call21 Z) (cR b3 st10 _ hx14) sT Z Z (GP av Z Z (Gp av 2 Z ?_)));rcases jF h with⟨c15,h⟩ | ⟨c15,h⟩
  ·refine GY Z c15 (G3 Z (Gp av 3 Z ?_));obtain rfl:=Jp h;exact Gs (T.ret (G9 [1] L3 (Gu Z) (Gu Z) ⟨Z,Z,Z⟩ Mf (.inl Z)))
  refine GX Z c15 (Gq Z (Gp av 3 Z ?_));obtain rfl:=Jp h;exact Gs (T.ret (Gv (G9 [1] L3 (Gu Z) (Gu Z) ⟨Z,Z,Z⟩ Mf (.inl Z))))
 refine Hh Z c9 (GQ (T.seq (Gq Z ?_)));obtain⟨⟨x16,st17⟩,hx18,h⟩:=Jn h;refine Gp av 1 Z (Gy 0 Z Z .u (.fn Tryz.call21 Z) (cR b3 st7 _ hx18) sT Z Z (GP av Z Z (Gp av 2 Z ?_)));rcases jF h with⟨c19,h⟩ | ⟨c19,h⟩
 ·refine GY Z c19 (G3 Z (Gp av 3 Z ?_));obtain rfl:=Jp h;exact Gs (T.ret (G9 [1] L3 (Gu Z) (Gu Z) ⟨Z,Z,Z⟩ Mf (.inl Z)))
 refine GX Z c19 (Gq Z (Gp av 3 Z ?_));obtain rfl:=Jp h;exact Gs (T.ret (Gv (G9 [1] L3 (Gu Z) (Gu Z) ⟨Z,Z,Z⟩ Mf (.inl Z))))
def dt (a0:Rec):Option (Int×Int×Int):=if a0.I3.null=true then some (0,0,12) else (if a0.IQ.null=true then some (0,0,12) else (if (a0.IR.length:Int)>0 then some (0,0,12) else (if a0.IZ=0 then ((dP a0.I3.data).bind fun (x8,x9)=>if x9=0 then ((dc a0.IQ.data).bind fun (x12,x13)=>if x13=0 then some (x8,x12,0) else some (0,0,x13)) else some (0,0,x9)) else some (0,0,12))))
theorem oW (a0:Rec) (A1:Option Addr) (c2:Nat) (r:Int×Int×Int) (h:dt a0=some r):aC Tryz.prog 137 #[.agg (wA2 a0 A1 c2)] (RX.of (ai 3 ec) [.slice A1 a0.IR.length c2] a0.IR) (aO) (fun v A' N=>v= .tuple #[jI r.1,jI r.2.1,jI r.2.2]/\A'=aO/\N = []):=by
 refine aU Tryz.func137 Z Tryz.ntmps137 Z ?_;intro F w hX;unfold dt at h;refine Gq Z (TL.box Z .u Z Z (fun b3=>(Gx av Z (T.seq (Gq Z ?_)))));rcases jF h with⟨c4,h⟩ | ⟨c4,h⟩
 ·refine Gt av eP 0 Z 4 Z Z (GA 8 Z c4 (Hz av Z (GF Z Z (Gq Z (Gp av 3 Z ?_)))));obtain rfl:=Jp h;exact Gs (T.ret (Gv (Iq [1] K8 (Gu Z) (Gu Z) (Gu Z) ⟨Z,Z,Z⟩ Mf (.inl Z))))
 replace c4:=Ju c4;refine Gt av eP 0 Z 4 Z Z (GA 8 Z c4 ?_);rcases jF h with⟨c5,h⟩ | ⟨c5,h⟩
 ·refine Gt av eP 0 Z 5 Z Z (GA 13 Z c5 (Hz av Z (GF Z Z (Gq Z (Gp av 3 Z ?_)))));obtain rfl:=Jp h;exact Gs (T.ret (Gv (Iq [1] K8 (Gu Z) (Gu Z) (Gu Z) ⟨Z,Z,Z⟩ Mf (.inl Z))))
 replace c5:=Ju c5;refine Gt av eP 0 Z 5 Z Z (GA 13 Z c5 (Gt av eP 0 Z 2 Z Z (TL.q Z (.g Z Z Z) (GK Z Kb) Z ?_)));rcases jF h with⟨c6,h⟩ | ⟨c6,h⟩
 ·refine GB av 3 Z (GA 19 Z (Jq c6) (Hz av Z (GF Z Z (Gq Z (Gp av 3 Z ?_)))));obtain rfl:=Jp h;exact Gs (T.ret (Gv (Iq [1] K8 (Gu Z) (Gu Z) (Gu Z) ⟨Z,Z,Z⟩ Mf (.inl Z))))
 refine GB av 3 Z (GA 19 Z (Jr c6) (Gt av eP 0 Z 4 Z Z ?_));rcases jF h with⟨c7,h⟩ | ⟨c7,h⟩
 ·refine GY Z c7 (GQ (T.seq (Gq Z ?_)));obtain⟨⟨x8,x9⟩,hx10,h⟩:=Jn h;refine Gt av eP 0 Z 3 Z Z (GT Z .u (.fn Tryz.call187 Z) (mL a0.I3.data _ hx10) rT Z (GP av Z Z (Gp av 2 Z ?_)));rcases jF h with⟨c11,h⟩ | ⟨c11,h⟩
  ·refine GY Z c11 (GQ (T.seq (Gq Z ?_)));obtain⟨⟨x12,x13⟩,hx14,h⟩:=Jn h;refine Gt av eP 0 Z 3 Z Z (GT Z .u (.fn Tryz.call188 Z) (lS a0.IQ.data _ hx14) rT Z (GP av Z Z (Gp av 2 Z ?_)));rcases jF h with⟨c15,h⟩ | ⟨c15,h⟩
   ·refine GY Z c15 (G3 Z (Gp av 5 Z ?_));obtain rfl:=Jp h;exact Gs (T.ret (Iq [1] K8 (Gu Z) (Gu Z) (Gu Z) ⟨Z,Z,Z⟩ Mf (.inl Z)))
   refine GX Z c15 (Gq Z (Gp av 4 Z ?_));obtain rfl:=Jp h;exact Gs (T.ret (Gv (Iq [1] K8 (Gu Z) (Gu Z) (Gu Z) ⟨Z,Z,Z⟩ Mf (.inl Z))))
  refine GX Z c11 (Gq Z (Gp av 4 Z ?_));obtain rfl:=Jp h;exact Gs (T.ret (Gv (Iq [1] K8 (Gu Z) (Gu Z) (Gu Z) ⟨Z,Z,Z⟩ Mf (.inl Z))))
 refine GX Z c7 (Gq Z (Gp av 3 Z ?_));obtain rfl:=Jp h;exact Gs (T.ret (Gv (Iq [1] K8 (Gu Z) (Gu Z) (Gu Z) ⟨Z,Z,Z⟩ Mf (.inl Z))))
end Go.Proofs.YtheikonlgjdopaaGreat.Sl
