/- splitRows_holds: part 4. -/
import Derived.Test.YtheikonlgjdopaaGreatK3
set_option maxRecDepth 100000
set_option maxHeartbeats 4000000
set_option linter.defProp false
namespace Go.Proofs.YtheikonlgjdopaaGreat.Sl
open Go.RowKit
set_option linter.unusedVariables false
set_option linter.unusedSimpArgs false
def OS := @Tryz.results103
def O8 := @Tryz.sizeOf47
def Pm := @Tryz.runUnderlying47
def Ps := @Tryz.results56
def Pw := @Tryz.runUnderlying45
def PA := @Tryz.results53
def PF := @Tryz.runUnderlying195
def PW := @Tryz.results54
def PX := @Tryz.isAgg47
def PY := @Tryz.results62
def Qb := @Tryz.results105
def Qu := @Tryz.runUnderlying268
def QA := @Tryz.results104
def QB := @Tryz.results106
def QL := @Tryz.results66
def uQ:eO := [(23,0,0),(23,1,1),(51,0,0),(51,1,2),(51,2,3),(51,3,4),(97,3,3),(97,4,4),(171,1,1),(191,0,0),(191,1,1),(193,0,0),(193,1,1),(212,0,0),(212,1,2),(212,2,3),(268,0,0),(268,1,12),(268,2,13)]
theorem ab:(uQ).OK Tryz.prog:=⟨FOK.mk N2 rfl Oe rfl,FOK.mk N2 rfl N6 rfl,FOK.mk Pu rfl NM rfl,FOK.mk Pu rfl NG rfl,FOK.mk Pu rfl NG rfl,FOK.mk Pu rfl Tryz.sizeOf49 rfl,FOK.mk NZ rfl Oe rfl,FOK.mk NZ rfl Oe rfl,FOK.mk OW rfl Px rfl,FOK.mk PU rfl N6 rfl,FOK.mk PU rfl Tryz.sizeOf189 rfl,FOK.mk Tryz.runUnderlying193 rfl NG rfl,FOK.mk Tryz.runUnderlying193 rfl PT rfl,FOK.mk Oi rfl NM rfl,FOK.mk Oi rfl NG rfl,FOK.mk Oi rfl NG rfl,FOK.mk Qu rfl NR rfl,FOK.mk Qu rfl NG rfl,FOK.mk Qu rfl NG rfl,trivial⟩
def uR:List Nat := [3,4,9,49,177,189]
theorem aM:NOK Tryz.prog uR:=⟨NH,Oz,Oc,Tryz.isAgg49,Ph,Pi,trivial⟩
theorem gi:Tryz.prog.follows .mixedOrders=true:=by kernel_rfl
theorem lK:BOK Tryz.prog 23 #[.bool false,.string ⟨#[]⟩] [(0,1),(1,1)]:=BOK.mk Tryz.zeroValue23 N2 (by intro w; simp)
theorem pU:BOK Tryz.prog 171 #[.string ⟨#[]⟩,.slice none 0 0] [(0,1),(1,1)]:=BOK.mk Tryz.zeroValue171 OW (by intro w; simp)
theorem pm:SOK Tryz.prog 28 171 0 2 #[]:=SOK.mk0 NQ N5
theorem po:SOK Tryz.prog 28 171 1 2 #[.string ⟨#[]⟩,.slice none 0 0]:=SOK.mk NQ N5 Tryz.zeroValue171 QS QU
theorem kw:SOK Tryz.prog 74 3 1 1 #[.int .i64 0]:=SOK.mk NN NG Tryz.zeroValue3 QS QU
theorem mr:(Tryz.prog.info? 3).map (fun i=>(i.zero,i.size,i.bytes))=some (some (.int .i64 0),1,8):=by kernel_rfl
theorem pV:(Tryz.prog.info? 171).map (fun i=>(i.zero,i.size,i.bytes))=some (some (.agg #[.string ⟨#[]⟩,.slice none 0 0]),2,40):=by kernel_rfl
theorem iH:iG Tryz.prog 2 23 [.bool,.string] true:=(iG.struct Oa NM rfl Tryz.underlying23 Tryz.stoodInHeld23 ⟨by decide,rfl,[.bool],[.string],false,rfl,(LZ Oz Oe Tryz.underlying4),⟨by decide,rfl,[.string],[],false,rfl,(LZ Oc N6 Tryz.underlying9),rfl⟩⟩)
def ey (a0:dF):Nat->Nat->List Int->Option (Nat×List Int)
 | 0,_,_=>none
 | m13+1,k6,y7=>if (k6:Int)<(a0.MP.length:Int) then ((a0.MP[k6]?).bind fun x18=>if (y7.length+1)*8<=140737488355328 then (if -9223372036854775808<=((k6:Int)+1)/\((k6:Int)+1)<=9223372036854775807 then (ey a0 m13 (k6+1) (y7 ++ [x18.M8])) else none) else none) else some (k6,y7)
def lL (a0:dF):Option (Top):=(ey a0 (((a0.MP.length:Int)).toNat+1) 0 []).bind fun (k29,y30)=>some (⟨a0.MV,y30⟩:Top)
theorem uS (a0:dF) (A1:Option Addr) (c2:Nat) (r:Top) (h:lL a0=some r):aG Tryz.prog 158 #[.agg #[jS a0.MV,.slice A1 a0.MP.length c2]] (RX.of (aq 2 fm) [.slice A1 a0.MP.length c2] a0.MP) (aL) (fun v A' N=> ∃ (A33:Option Addr) (c34:Nat),v= .agg #[jS r.MV,.slice A33 r.MP.length c34]/\A'=aL/\N = [RdR (aq 1 ea) [.slice A33 r.MP.length c34] r.MP]):=by
 refine aU Tryz.func158 Z Tryz.ntmps158 Z ?_;intro F w hX;unfold lL at h;refine KN Z (TL.box Z .u Z Z (fun b3=>(TL.alloc Z .u Tryz.zeroValue171 Z (fun b4=>(Ld Z (KR ab aM 1 Z 2 Z Z ?_))))));refine KO Z (Lo (cells:= #[jS a0.MV,.slice none 0 0]) pU Z QU) Z ?_;refine TL.alloc Z .u Tryz.zeroValue171 Z (fun b5=>(K3 0 Z (cs':= #[jS a0.MV,.slice none 0 0]) Z .u Z Z N5 Z Z Z Z Z (KP (T.seq (KN Z (KX ab Z (T.block (LY 3 1 ea ?_))))))));obtain⟨E10,hE11,hO12⟩:=Ny h;refine LB (fun m e Rs=> ∃ (k6:Nat) (y7:List Int) (A8:Option Addr) (c9:Nat),e = [(1,jP b3),(2,jP b4),(3,jP b5),(4,jI (k6:Int))]/\Rs = [bG 3 1 ea (.slice A8 y7.length c9) y7,aV b5 171 #[jS a0.MV,.slice A8 y7.length c9],aV b4 171 #[.string ⟨#[]⟩,.slice none 0 0],aV b3 191 #[jS a0.MV,.slice A1 a0.MP.length c2],aL]/\ey a0 m k6 y7=some E10) (((a0.MP.length:Int)).toNat+1) [0,0,0,0,0] ⟨0,[],none,0,Z,Z,by exact hE11⟩ QW QW ?_;clear hE11 h;rintro m13 _ _ ⟨k6,y7,A8,c9,rfl,rfl,h⟩
 cases m13 with
 | zero =>
  rw[ey] at h;cases h
 | succ m13 =>
  rw[ey] at h;refine T.seq (KN Z (KR ab aM 3 Z 3 Z Z (KO Z (K4 Z Oh) Z (KM ab 1 Z ?_))));rcases jF h with⟨c17,h⟩ | ⟨c17,h⟩
  ·refine Lh Z c17 ?_;obtain⟨x18,hx19,h⟩:=Ny h;obtain⟨gz20,oz20,rfl,z20cs,z20cl,z20cc,z20nf,z20r⟩:=Lm QS hX hx19;obtain⟨z20S,z20r,z20rr⟩:=z20r;obtain⟨A21,c22,rfl,z20s0⟩:=z20r;have hX23:(RX.of (aq 12 dJ) [.slice A21 x18.MW.length c22] x18.MW).reads w F:=⟨z20S,z20s0,z20rr⟩;obtain⟨c25,h⟩:=al h;refine K8 (T.seq (T.block ?_));refine Mr (fun e Rs=> ∃ (b24:Nat) (A26:Option Addr) (c27:Nat),e = [(1,jP b3),(2,jP b4),(3,jP b5),(4,jI (k6:Int)),(8,jI (k6:Int)),(9,.pointer (some ⟨b3,1,none⟩)),(10,.slice (some ⟨gz20,oz20,none⟩) a0.MP.length c2),(11,jI (a0.MP.length:Int))]/\Rs = [bG 3 1 ea (.slice A26 (y7 ++ [x18.M8]).length c27) (y7 ++ [x18.M8]),aV b5 171 #[jS a0.MV,.slice A26 (y7 ++ [x18.M8]).length c27],aV b4 171 #[.string ⟨#[]⟩,.slice none 0 0],aV b3 191 #[jS a0.MV,.slice (some ⟨gz20,oz20,none⟩) a0.MP.length c2],aL]) ?_ ?_
   ·refine Ls (.q 0 (.q 2 (.q 3 (.q 4 (.q 5 (.q 6 (.q 7 (.br 1 (.e 8 (.e 9 (.q 10 (.e 11 .nil)))) (.e 8 (.e 1 (.e 9 (.q 10 (.e 11 .nil))))))))))))) [2,2,2] Z gi r8 QU ?_;refine TD.run ab [0,2] Z Z (KU Z (Lc 1 Z Pi Z Z) Z (TD.run ab [4] Z Z ?_));refine KU Z (K6 (k:=k6) Z Z Z Oh Pk (ND hx19).1) Z ?_;refine TD.run ab [6] Z Z (KU Z (Lw 0 Z NH z20nf z20cc Z Z) Z ?_);refine TD.br ?_ ?_
    ·refine Mh Z .u (Lc 1 Z OM Z Z) Z [2,2,2] Z (L8 (cells:= #[jI x18.M8]) Z .u kw Z QW Z [3,3,3] (fun _=>Z) (fun b24=> ?_));refine MG 0 Z .u (us := [jI x18.M8]) (u:=x18.M8) (l:=y7) (E:=ea) Tryz.underlying74 mr Z QS Z Z Z Z Z Z (fun _ _=>Z) (by have hq:=c25; omega) (by have hq:=c25; omega) Z [2,2,2] (fun _ _=>Z) (fun A26 c27=> ?_);exact LV [0,0,0,0,0] Z (TD.run ab [10] Z Z (LP 1 Z (cs':= #[jS a0.MV,.slice A26 (y7 ++ [x18.M8]).length c27]) Z .u Z Z Px Z Z Z Z Z [2,2,2] (Z) (TD.nil (L9 [0,0,0,0,0] ⟨b24,A26,c27,Z,Z⟩ QW QW))))
    refine L8 (cells:= #[jI x18.M8]) Z .u kw Z QW Z [3,3,3] (fun _=>Z) (fun b24=>(Mh Z .u (Lc 2 Z OM Z Z) Z [3,3,3] Z ?_));refine MG 0 Z .u (us := [jI x18.M8]) (u:=x18.M8) (l:=y7) (E:=ea) Tryz.underlying74 mr Z QS Z Z Z Z Z Z (fun _ _=>Z) (by have hq:=c25; omega) (by have hq:=c25; omega) Z [2,2,2] (fun _ _=>Z) (fun A26 c27=> ?_);exact LV [0,0,0,0,0] Z (TD.run ab [10] Z Z (LP 1 Z (cs':= #[jS a0.MV,.slice A26 (y7 ++ [x18.M8]).length c27]) Z .u Z Z Px Z Z Z Z Z [2,2,2] (Z) (TD.nil (L9 [0,0,0,0,0] ⟨b24,A26,c27,Z,Z⟩ QW QW))))
   rintro _ _ ⟨b24,A26,c27,rfl,rfl⟩;refine La (X.seq (T.region Z ?_));obtain⟨c28,h⟩:=al h;exact KM ab 1 Z (KO Z (Ex.add Z Z c28) Z (KM ab 1 Z (TL.nil (X.back (m':=m13) [0,0,0,0,0] QR ⟨k6+1,(y7 ++ [x18.M8]),A26,c27,Z,Z,h⟩ QW QW))))
  refine Lg Z c17 ?_;obtain rfl:=Nz h;replace h:=hO12;clear hO12;refine T.exit (K5 (K5 (Ly (X.seq (KN Z (KO Z (K9 (us := [jS a0.MV,.slice A8 y7.length c9]) 1 Z P3 N5 Z Z Z) Z (K3 2 Z (cs':= #[jS a0.MV,.slice A8 y7.length c9]) Z .u Z Z N5 Z Z Z Z Z ?_)))))));obtain rfl:=Nz h;exact KP (T.ret (Ms QS 0 Z (LJ [0,0,0,0,0] Z (Ll [4,0] Tryz.results158 (LI (us:= #[jS a0.MV,.slice A8 y7.length c9]) 2 Z P3 N5 Z Z) ⟨_,_,Z,Z,Z⟩ QW (.inl Z)))))
def fE (a0:List dF):Nat->Int->List Top->Nat->Option (Lp Int (Int×List Top×Nat))
 | 0,_,_,_=>none
 | m13+1,y5,y6,k9=>if (k9:Int)<(a0.length:Int) then ((a0[k9]?).bind fun x18=>if (x18.MP.length:Int)=0 then some (Lp.ret 10) else ((lL x18).bind fun x25=>if (y6.length+1)*40<=140737488355328 then ((ig (y6 ++ [x25])).bind fun x33=>if x33=true then (if -9223372036854775808<=((k9:Int)+1)/\((k9:Int)+1)<=9223372036854775807 then (fE a0 m13 y5 (y6 ++ [x25]) (k9+1)) else none) else some (Lp.ret 13)) else none)) else (some (Lp.go (y5,y6,k9)))
def ld (a0:List dF):Option (Int):=if (a0.length:Int)=0 then some 10 else ((fE a0 (((a0.length:Int)).toNat+1) 0 ([]:List Top) 0).bind fun e=>match e with | .ret r=>some r | .go (y37,y38,k41)=>some 0)
theorem wq (a0:List dF) (A1:Option Addr) (c2:Nat) (r:Int) (h:ld a0=some r):aG Tryz.prog 104 #[.slice A1 a0.length c2] (RX.of (aq 2 bR) [.slice A1 a0.length c2] a0) (aL) (fun v A' N=>v=jI r/\A'=aL/\N = []):=by
 refine aU Tryz.func104 Z Tryz.ntmps104 Z ?_;intro F w hX;unfold ld at h;refine KN Z (KX ab Z (T.seq (KN Z (KM ab 1 Z (KO Z (K4 Z Oq) Z (KM ab 1 Z ?_))))));rcases jF h with⟨c3,h⟩ | ⟨c3,h⟩
 ·refine Lh Z c3 (KN Z (KM ab 1 Z ?_));obtain rfl:=Nz h;exact KP (T.ret (KT (KY [0] QA (KQ Z))))
 refine Lg Z c3 (Lk Z (L4 (cells:= #[]) Z .u pm Z QW Z (fun b4=>(MA (us := []) (xs:=([]:List Top)) (E:=bh) (z:=2) Z (Nat.le_of_ble_eq_true Z) (fun _=>Z) (KX ab Z (T.seq (KN Z (KM ab 1 Z ?_))))))));refine KP (T.block ?_);obtain⟨E10,hE11,hO12⟩:=Ny h;refine LB (fun m e Rs=> ∃ (y5:Int) (y6:List Top) (A7:Option Addr) (c8:Nat) (k9:Nat),e = [(0,.slice A1 a0.length c2),(2,jI y5),(3,.slice A7 y6.length c8),(4,jI (k9:Int))]/\Rs = [bG 171 2 bh (.slice A7 y6.length c8) y6,aL]/\fE a0 m y5 y6 k9=some E10) (((a0.length:Int)).toNat+1) [0,0] ⟨0,([]:List Top),(some ⟨b4,0,none⟩),0,0,Z,Z,by exact hE11⟩ QW QW ?_;clear hE11 h;rintro m13 _ _ ⟨y5,y6,A7,c8,k9,rfl,rfl,h⟩
 cases m13 with
 | zero =>
  rw[fE] at h;cases h
 | succ m13 =>
  rw[fE] at h;refine T.seq (KN Z (KM ab 2 Z (KO Z (K4 Z Oq) Z (KM ab 1 Z ?_))));rcases jF h with⟨c17,h⟩ | ⟨c17,h⟩
  ·refine Lh Z c17 (K8 (T.seq (T.block (T.seq (KN Z ?_)))));obtain⟨x18,hx19,h⟩:=Ny h;obtain⟨gz20,oz20,rfl,z20cs,z20cl,z20cc,z20nf,z20r⟩:=Lm QS hX hx19;obtain⟨z20S,z20r,z20rr⟩:=z20r;obtain⟨A21,c22,rfl,z20s0⟩:=z20r;have hX23:(RX.of (aq 2 fm) [.slice A21 x18.MP.length c22] x18.MP).reads w F:=⟨z20S,z20s0,z20rr⟩;refine KM ab 2 Z ?_;refine KO Z (K6 (k:=k9) Z Z Z Oq OL (ND hx19).1) Z ?_;refine KM ab 1 Z (KO Z (Lw 1 Z Pi z20nf z20cc Z Z) Z (KO Z (K4 Z Oh) Z (KM ab 1 Z ?_)));rcases jF h with⟨c24,h⟩ | ⟨c24,h⟩
   ·refine Lh Z c24 (KN Z (KM ab 1 Z ?_));obtain rfl:=Nz h;obtain rfl:=Nz hO12;exact KP (T.ret (KT (K2 (KT (KT (K2 (KT (KY [1] QA (KQ Z)))))))))
   refine Lg Z c24 (Lk Z (KM ab 3 Z ?_));refine KO Z (K6 (k:=k9) Z Z Z Oq OL (ND hx19).1) Z ?_;refine KO Z (LM (us := [jS x18.MV,.slice A21 x18.MP.length c22]) 0 Z Qs OL z20nf z20cc Z Z Z) Z ?_;obtain⟨x25,hx28,h⟩:=Ny h;refine Mb Z .u (.fn Tryz.call158 Z) (uS x18 _ _ _ hx28) (fun _ hs=>(K7 hs hX23)) Z ?_;rintro _ _ _ ⟨A26,c27,rfl,rfl,rfl⟩;refine Lt [0,0,0] Z (L4 (cells:= #[jS x25.MV,.slice A26 x25.MP.length c27]) Z .u po Z QW Z (fun b29=> ?_));obtain⟨c30,h⟩:=al h;refine Mw 1 0 Z .u (us := [jS x25.MV,.slice A26 x25.MP.length c27]) (u:=x25) (l:=y6) (E:=bh) Tryz.underlying28 pV Z QS Z Z Z Z Z Z Z (fun w G hG=>⟨_,_,Z,hG.1⟩) (by have hq:=c30; omega) (by have hq:=c30; omega) Z (fun A31 c32=> ?_);refine Lt [0,0] Z (Le ab Z Z ?_);obtain⟨x33,hx34,h⟩:=Ny h;refine KM ab 1 Z (Lb Z .u (.fn Tryz.call109 Z) (mb (y6 ++ [x25]) _ _ _ hx34) (fun _ hs=>(SrcE.res 0 hs Z (fun w G h=>bX QS w G h))) Z (KM ab 1 Z ?_));rcases jF h with⟨c35,h⟩ | ⟨c35,h⟩
   ·refine KP (Li Z (bi c35) (T.skip (La (X.seq (T.region Z ?_)))));obtain⟨c36,h⟩:=al h;exact KM ab 1 Z (KO Z (Ex.add Z Z c36) Z (KM ab 1 Z (TL.nil (X.back (m':=m13) [0,0] QR ⟨y5,(y6 ++ [x25]),A31,c32,k9+1,Z,Z,h⟩ QW QW))))
   replace c35:=NF c35;refine KP (K1 Z (bF c35) (KN Z (KM ab 1 Z ?_)));obtain rfl:=Nz h;obtain rfl:=Nz hO12;exact KP (T.ret (K2 (KT (KT (K2 (KT (KY [1] QA (KQ Z))))))))
  refine Lg Z c17 ?_;obtain rfl:=Nz h;replace h:=hO12;clear hO12;refine T.exit (K5 (K5 (Ly (X.seq (KN Z (KM ab 1 Z ?_))))));obtain rfl:=Nz h;exact KP (T.ret (KY [1] QA (KQ Z)))
def eg (a0:List Bat) (a1:Bool):Nat->Int->Nat->Option (Lp Int (Int×Nat))
 | 0,_,_=>none
 | m16+1,y11,k12=>if (k12:Int)<(a0.length:Int) then ((a0[k12]?).bind fun x21=>(iU x21).bind fun x27=>if x27=0 then (if x21.Nl=true then some (Lp.ret 12) else (if (x21.Ni == a1)=true then (if -9223372036854775808<=((k12:Int)+1)/\((k12:Int)+1)<=9223372036854775807 then (eg a0 a1 m16 y11 (k12+1)) else none) else some (Lp.ret 8))) else some (Lp.ret x27)) else (some (Lp.go (y11,k12)))
def fF (a0:List Bat) (a1:Bool) (a2:Int):Option (Int):=(if (a0.length:Int)=0 then some true else (if a2=3 then (if (a0.length:Int)>1 then some true else some false) else some false)).bind fun y5=>if y5=true then some 10 else ((eg a0 a1 (((a0.length:Int)).toNat+1) 0 0).bind fun e=>match e with | .ret r=>some r | .go (y33,k34)=>some 0)
theorem ne (a0:List Bat) (A1:Option Addr) (c2:Nat) (a1:Bool) (a2:Int) (r:Int) (h:fF a0 a1 a2=some r):aG Tryz.prog 105 #[.slice A1 a0.length c2,.bool a1,jI a2] (RX.of (aq 12 dJ) [.slice A1 a0.length c2] a0) (aL) (fun v A' N=>v=jI r/\A'=aL/\N = []):=by
 refine aU Tryz.func105 Z Tryz.ntmps105 Z ?_;intro F w hX;unfold fF at h;refine KN Z (KX ab Z (L0 ?_));obtain⟨y5,h,hk6⟩:=Ny h;refine LE (fun e Rs=>e = [(0,.slice A1 a0.length c2),(1,.bool a1),(6,jI 0),(20,.bool y5)]/\Rs = [aL]) ?_ ?_
 ·clear hk6;refine T.region Z (KM ab 1 Z (KO Z (K4 Z N7) Z ?_));rcases jF h with⟨c7,h⟩ | ⟨c7,h⟩
  ·refine KM ab 2 Z (KV 12 Z (NB c7) (KW ab 8 Z ?_));cases h;exact TL.nil (K0 [0])
  refine KM ab 2 Z (KV 12 Z (NC c7) ?_);rcases jF h with⟨c8,h⟩ | ⟨c8,h⟩
  ·refine KW ab 3 Z (KV 15 Z (NB c8) (KW ab 1 Z (TL.q Z (.g Z Z Z) (K4 Z N7) Z (KW ab 3 Z ?_))));rcases jF h with⟨c9,h⟩ | ⟨c9,h⟩
   ·cases h;exact TL.nil (LH (d:=20) (v':= .bool true) Z (congrArg Value.bool (NB c9)) (K0 [0]))
   cases h;exact TL.nil (LH (d:=20) (v':= .bool false) Z (congrArg Value.bool (NC c9)) (K0 [0]))
  refine KW ab 3 Z (KV 15 Z (NC c8) (KW ab 5 Z ?_));cases h;exact TL.nil (K0 [0])
 rintro _ _ ⟨rfl,rfl⟩;clear h;have h:=hk6;clear hk6;try dsimp only at h
 rcases jF h with⟨c10,h⟩ | ⟨c10,h⟩
 ·refine X.seq (K1 Z c10 (KN Z (KM ab 1 Z ?_)));obtain rfl:=Nz h;exact KP (T.ret (KT (KY [0] Qb (KQ Z))))
 replace c10:=NF c10;refine X.seq (Li Z c10 (K8 (T.seq (KN Z (KX ab Z (T.block ?_))))));obtain⟨E13,hE14,hO15⟩:=Ny h;refine LB (fun m e Rs=> ∃ (y11:Int) (k12:Nat),e = [(0,.slice A1 a0.length c2),(1,.bool a1),(6,jI y11),(7,jI (k12:Int))]/\Rs = [aL]/\eg a0 a1 m y11 k12=some E13) (((a0.length:Int)).toNat+1) [0] ⟨0,0,Z,Z,by exact hE14⟩ QW QW ?_;clear hE14 h;rintro m16 _ _ ⟨y11,k12,rfl,rfl,h⟩
 cases m16 with
 | zero =>
  rw[eg] at h;cases h
 | succ m16 =>
  rw[eg] at h;refine T.seq (KN Z (KM ab 2 Z (KO Z (K4 Z N7) Z (KM ab 1 Z ?_))));rcases jF h with⟨c20,h⟩ | ⟨c20,h⟩
  ·refine Lh Z c20 (K8 (T.seq (T.block (KN Z ?_))));obtain⟨x21,hx22,h⟩:=Ny h;obtain⟨gz23,oz23,rfl,z23cs,z23cl,z23cc,z23nf,z23r⟩:=Lm QS hX hx22;obtain⟨z23S,z23r,z23rr⟩:=z23r;obtain⟨A24,c25,rfl,z23s0⟩:=z23r;have hX26:(RX.of (aq 7 cZ) [.slice A24 x21.MS.length c25] x21.MS).reads w F:=⟨z23S,z23s0,z23rr⟩;refine KM ab 2 Z ?_;refine KO Z (K6 (k:=k12) Z Z Z N7 NR (ND hx22).1) Z ?_;refine KO Z (LM (us:=wL5 x21 A24 c25) 0 Z Od NR z23nf z23cc Z Z Z) Z ?_;obtain⟨x27,hx28,h⟩:=Ny h;refine Lb Z .u (.fn Tryz.call159 Z) (uN x21 _ _ _ hx28) (fun _ hs=>(K7 hs hX26)) Z (KX ab Z (T.seq (KN Z (KM ab 2 Z ?_))));rcases jF h with⟨c29,h⟩ | ⟨c29,h⟩
   ·refine Lr Z c29 (K8 (T.seq (KN Z (KM ab 2 Z ?_))));refine KO Z (K6 (k:=k12) Z Z Z N7 NR (ND hx22).1) Z ?_;refine KM ab 1 Z (KO Z (Lw 4 Z Oz z23nf z23cc Z Z) Z ?_);rcases jF h with⟨c30,h⟩ | ⟨c30,h⟩
    ·refine KP (K1 Z c30 (KN Z (KM ab 1 Z ?_)));obtain rfl:=Nz h;obtain rfl:=Nz hO15;exact KP (T.ret (KT (K2 (KT (KT (K2 (KT (KY [0] Qb (KQ Z)))))))))
    replace c30:=NF c30;refine KP (Li Z c30 (Lk Z (KM ab 2 Z ?_)));refine KO Z (K6 (k:=k12) Z Z Z N7 NR (ND hx22).1) Z ?_;refine KM ab 1 Z (KO Z (Lw 3 Z Oz z23nf z23cc Z Z) Z (KM ab 1 Z (KO Z (L5 Z Z Z Z N8) Z ?_)));rcases jF h with⟨c31,h⟩ | ⟨c31,h⟩
    ·refine KP (Li Z (bi c31) (T.skip (La (X.seq (T.region Z ?_)))));obtain⟨c32,h⟩:=al h;exact KM ab 1 Z (KO Z (Ex.add Z Z c32) Z (KM ab 1 Z (TL.nil (X.back (m':=m16) [0] QR ⟨y11,k12+1,Z,Z,h⟩ QW QW))))
    replace c31:=NF c31;refine KP (K1 Z (bF c31) (KN Z (KM ab 1 Z ?_)));obtain rfl:=Nz h;obtain rfl:=Nz hO15;exact KP (T.ret (K2 (KT (KT (K2 (KT (KY [0] Qb (KQ Z))))))))
   refine Lq Z c29 (KN Z (KM ab 2 Z ?_));obtain rfl:=Nz h;obtain rfl:=Nz hO15;exact KP (T.ret (KT (K2 (KT (KT (K2 (KT (KY [0] Qb (KQ Z)))))))))
  refine Lg Z c20 ?_;obtain rfl:=Nz h;replace h:=hO15;clear hO15;refine T.exit (K5 (K5 (Ly (X.seq (KN Z (KM ab 1 Z ?_))))));obtain rfl:=Nz h;exact KP (T.ret (KY [0] Qb (KQ Z)))
def dU (a0:bM) (a1:Int) (k28:Nat):Nat->Int->Nat->Option (Lp Int (Int×Nat))
 | 0,_,_=>none
 | m42+1,y37,k38=>(a0.MN[k28]?).bind fun x46=>if (k38:Int)<(x46.MP.length:Int) then ((x46.MP[k38]?).bind fun x53=>if a0.MU.null=true then ((fF x53.MW false a1).bind fun x60=>if x60=0 then (if -9223372036854775808<=((k38:Int)+1)/\((k38:Int)+1)<=9223372036854775807 then (dU a0 a1 k28 m42 y37 (k38+1)) else none) else some (Lp.ret x60)) else ((fF x53.MW true a1).bind fun x64=>if x64=0 then (if -9223372036854775808<=((k38:Int)+1)/\((k38:Int)+1)<=9223372036854775807 then (dU a0 a1 k28 m42 y37 (k38+1)) else none) else some (Lp.ret x64))) else (some (Lp.go (y37,k38)))
def dV (a0:bM) (a1:Int):Nat->Int->Nat->Option (Lp Int (Int×Nat))
 | 0,_,_=>none
 | m32+1,y27,k28=>if (k28:Int)<(a0.MN.length:Int) then ((dU a0 a1 k28 (((a0.MN[k28]?).map (fun x37=>((x37.MP.length:Int)).toNat+1)).getD 0) y27 0).bind fun e=>match e with | .ret r=>some (Lp.ret r) | .go (y69,k70)=>(if -9223372036854775808<=((k28:Int)+1)/\((k28:Int)+1)<=9223372036854775807 then (dV a0 a1 m32 y69 (k28+1)) else none)) else (some (Lp.go (y27,k28)))
theorem uT (a0:bM) (a1:Int) (u1:Int) (u2:Nat):dV a0 a1 0 u1 u2=none:=rfl
theorem uU (a0:bM) (a1:Int) (m32:Nat) (y27:Int) (k28:Nat):dV a0 a1 (m32+1) y27 k28=(if (k28:Int)<(a0.MN.length:Int) then ((dU a0 a1 k28 (((a0.MN[k28]?).map (fun x37=>((x37.MP.length:Int)).toNat+1)).getD 0) y27 0).bind fun e=>match e with | .ret r=>some (Lp.ret r) | .go (y69,k70)=>(if -9223372036854775808<=((k28:Int)+1)/\((k28:Int)+1)<=9223372036854775807 then (dV a0 a1 m32 y69 (k28+1)) else none)) else (some (Lp.go (y27,k28)))):=rfl
def kg (a0:bM) (a1:Int):Option (Int):=(if a0.MU.null=true then (if a0.MU.data = [] then some false else some true) else (if (a0.MU.data.length:Int)<1 then some true else (if (a0.MU.data.length:Int)>32767 then some true else some false))).bind fun y7=>if y7=true then some 4 else ((if a0.Nc<(-1) then some true else (if a0.Nc>1 then some true else (if a0.MT<0 then some true else (if a0.MT>2147483647 then some true else some false)))).bind fun y17=>if y17=true then some 11 else ((ld a0.MN).bind fun x24=>if x24=0 then ((dV a0 a1 (((a0.MN.length:Int)).toNat+1) 0 0).bind fun e=>match e with | .ret r=>some r | .go (y72,k73)=>some 0) else some x24))
theorem uV (a0:bM) (A1:Option Addr) (c2:Nat) (a1:Int) (r:Int) (h:kg a0 a1=some r):aG Tryz.prog 54 #[.agg #[.bool a0.MU.null,jS a0.MU.data,jI a0.Nc,jI a0.MT,.slice A1 a0.MN.length c2],jI a1] (RX.of (aq 2 bR) [.slice A1 a0.MN.length c2] a0.MN) (aL) (fun v A' N=>v=jI r/\A'=aL/\N = []):=by
 refine aU Tryz.func54 Z Tryz.ntmps54 Z ?_;intro F w hX;unfold kg at h;refine KN Z (TL.box Z .u Z Z (fun b3=>(KX ab Z (L0 ?_))));obtain⟨y7,h,hk8⟩:=Ny h;refine LE (fun e Rs=>e = [(1,jI a1),(2,jP b3),(4,jI 0),(37,.bool y7)]/\Rs = [aV b3 51 #[.bool a0.MU.null,jS a0.MU.data,jI a0.Nc,jI a0.MT,.slice A1 a0.MN.length c2],aL]) ?_ ?_
 ·clear hk8;refine T.region Z ?_;rcases jF h with⟨c9,h⟩ | ⟨c9,h⟩
  ·refine KR ab aM 0 Z 4 Z Z (KV 12 Z c9 (KR ab aM 0 Z 3 Z Z (TL.q Z (.g Z Z Z) (MD Z (m := []) Z) Z ?_)));rcases jF h with⟨c10,h⟩ | ⟨c10,h⟩
   ·refine KW ab 2 Z (KV 18 Z (bi (NB c10)) (KR ab aM 0 Z 5 Z Z (KV 23 Z (bi c9) (KW ab 14 Z ?_))));cases h;exact TL.nil (K0 [0,0])
   refine KW ab 2 Z (KV 18 Z (bF (NC c10)) (KW ab 19 Z ?_));cases h;exact TL.nil (K0 [0,0])
  replace c9:=NF c9;refine KR ab aM 0 Z 4 Z Z (KV 12 Z c9 (KR ab aM 0 Z 11 Z Z (KV 23 Z (bF c9) (KR ab aM 0 Z 3 Z Z (TL.q Z (.g Z Z Z) (LD Z NK) Z ?_)))));rcases jF h with⟨c11,h⟩ | ⟨c11,h⟩
  ·refine KW ab 2 Z (KV 29 Z (NB c11) (KW ab 8 Z ?_));cases h;exact TL.nil (K0 [0,0])
  refine KW ab 2 Z (KV 29 Z (NC c11) (KR ab aM 0 Z 3 Z Z (TL.q Z (.g Z Z Z) (LD Z NK) Z (KW ab 4 Z ?_))));rcases jF h with⟨c12,h⟩ | ⟨c12,h⟩
  ·cases h;exact TL.nil (LH (d:=37) (v':= .bool true) Z (congrArg Value.bool (NB c12)) (K0 [0,0]))
  cases h;exact TL.nil (LH (d:=37) (v':= .bool false) Z (congrArg Value.bool (NC c12)) (K0 [0,0]))
 rintro _ _ ⟨rfl,rfl⟩;clear h;have h:=hk8;clear hk8;try dsimp only at h
 rcases jF h with⟨c13,h⟩ | ⟨c13,h⟩
 ·refine X.seq (K1 Z c13 (KN Z (KM ab 1 Z ?_)));obtain rfl:=Nz h;exact KP (T.ret (KT (KY [1] PW (KQ Z))))
 replace c13:=NF c13;refine X.seq (Li Z c13 (K8 (L0 ?_)));obtain⟨y17,h,hk18⟩:=Ny h;refine LE (fun e Rs=>e = [(1,jI a1),(2,jP b3),(4,jI 0),(55,.bool y17)]/\Rs = [aV b3 51 #[.bool a0.MU.null,jS a0.MU.data,jI a0.Nc,jI a0.MT,.slice A1 a0.MN.length c2],aL]) ?_ ?_
 ·clear hk18;refine T.region Z ?_;rcases jF h with⟨c19,h⟩ | ⟨c19,h⟩
  ·refine KR ab aM 0 Z 4 Z Z (KV 41 Z (NB c19) (KW ab 14 Z ?_));cases h;exact TL.nil (K0 [0,0])
  refine KR ab aM 0 Z 4 Z Z (KV 41 Z (NC c19) ?_);rcases jF h with⟨c20,h⟩ | ⟨c20,h⟩
  ·refine KR ab aM 0 Z 5 Z Z (KV 46 Z (NB c20) (KW ab 9 Z ?_));cases h;exact TL.nil (K0 [0,0])
  refine KR ab aM 0 Z 5 Z Z (KV 46 Z (NC c20) ?_);rcases jF h with⟨c21,h⟩ | ⟨c21,h⟩
  ·refine KR ab aM 0 Z 5 Z Z (KV 51 Z (NB c21) (KW ab 4 Z ?_));cases h;exact TL.nil (K0 [0,0])
  refine KR ab aM 0 Z 5 Z Z (KV 51 Z (NC c21) (KR ab aM 0 Z 4 Z Z ?_));rcases jF h with⟨c22,h⟩ | ⟨c22,h⟩
  ·cases h;exact TL.nil (LH (d:=55) (v':= .bool true) Z (congrArg Value.bool (NB c22)) (K0 [0,0]))
  cases h;exact TL.nil (LH (d:=55) (v':= .bool false) Z (congrArg Value.bool (NC c22)) (K0 [0,0]))
 rintro _ _ ⟨rfl,rfl⟩;clear h;have h:=hk18;clear hk18;try dsimp only at h
 rcases jF h with⟨c23,h⟩ | ⟨c23,h⟩
 ·refine X.seq (K1 Z c23 (KN Z (KM ab 1 Z ?_)));obtain rfl:=Nz h;exact KP (T.ret (KT (KY [1] PW (KQ Z))))
 replace c23:=NF c23;refine X.seq (Li Z c23 (Lk Z ?_));obtain⟨x24,hx25,h⟩:=Ny h;refine KR ab aM 0 Z 2 Z Z (Lb Z .u (.fn Tryz.call104 Z) (wq a0.MN _ _ _ hx25) (fun _ hs=>(K7 hs hX)) Z (KX ab Z (T.seq (KN Z (KM ab 2 Z ?_)))));rcases jF h with⟨c26,h⟩ | ⟨c26,h⟩
 ·refine Lr Z c26 (K8 (T.seq (KN Z (KX ab Z (T.block ?_)))));obtain⟨E29,hE30,hO31⟩:=Ny h;refine LB (fun m e Rs=> ∃ (y27:Int) (k28:Nat),e = [(1,jI a1),(2,jP b3),(4,jI y27),(6,jI (k28:Int))]/\Rs = [aV b3 51 #[.bool a0.MU.null,jS a0.MU.data,jI a0.Nc,jI a0.MT,.slice A1 a0.MN.length c2],aL]/\dV a0 a1 m y27 k28=some E29) (((a0.MN.length:Int)).toNat+1) [0,0] ⟨0,0,Z,Z,by exact hE30⟩ QW QW ?_;clear hE30 h;rintro m32 _ _ ⟨y27,k28,rfl,rfl,h⟩
  cases m32 with
  | zero =>
   rw[uT] at h;cases h
  | succ m32 =>
   rw[uU] at h;refine T.seq (KN Z (KR ab aM 0 Z 3 Z Z (KO Z (K4 Z Oq) Z (KM ab 1 Z ?_))));rcases jF h with⟨c36,h⟩ | ⟨c36,h⟩
   ·refine Lh Z c36 (K8 (T.seq (T.block (KN Z (KX ab Z (T.block ?_))))));obtain⟨E39,hE40,hO41⟩:=Ny h;refine LB (fun m e Rs=> ∃ (y37:Int) (k38:Nat),e = [(1,jI a1),(2,jP b3),(4,jI y37),(6,jI (k28:Int)),(7,jI (k38:Int))]/\Rs = [aV b3 51 #[.bool a0.MU.null,jS a0.MU.data,jI a0.Nc,jI a0.MT,.slice A1 a0.MN.length c2],aL]/\dU a0 a1 k28 m y37 k38=some E39) (((a0.MN[k28]?).map (fun x37=>((x37.MP.length:Int)).toNat+1)).getD 0) [0,0] ⟨y27,0,Z,Z,by exact hE40⟩ QW QW ?_;clear hE40 h;rintro m42 _ _ ⟨y37,k38,rfl,rfl,h⟩
    cases m42 with
    | zero =>
     rw[dU] at h;cases h
    | succ m42 =>
     rw[dU] at h;refine T.seq (KN Z ?_);obtain⟨x46,hx47,h⟩:=Ny h;obtain⟨gz48,oz48,rfl,z48cs,z48cl,z48cc,z48nf,z48r⟩:=Lm QS hX hx47;obtain⟨z48S,z48r,z48rr⟩:=z48r;obtain⟨A49,c50,rfl,z48s0⟩:=z48r;have hX51:(RX.of (aq 2 fm) [.slice A49 x46.MP.length c50] x46.MP).reads w F:=⟨z48S,z48s0,z48rr⟩;refine KR ab aM 0 Z 4 Z Z ?_;refine KO Z (K6 (k:=k28) Z Z Z Oq OL (ND hx47).1) Z ?_;refine KM ab 1 Z (KO Z (Lw 1 Z Pi z48nf z48cc Z Z) Z (KO Z (K4 Z Oh) Z (KM ab 1 Z ?_)));rcases jF h with⟨c52,h⟩ | ⟨c52,h⟩
     ·refine Lh Z c52 ?_;refine K8 (T.seq (T.block (T.seq (Ls (.q 0 (.q 1 (.q 2 (.q 3 (.q 4 (.q 5 (.q 6 (.q 7 (.q 8 (.q 9 (.q 10 (.q 11 (.q 12 (.q 13 (.q 14 (.e 15 (.q 16 .nil))))))))))))))))) [0,0] Z gi (NoP.seq (NoP.blk (NoP.seq (NoP.seq (NoP.blk (NoP.blk (NoP.seq (NoP.seq (NoP.blk (NoP.seq bq)))))))))) QU ?_))));refine TD.run ab [0] Z Z (KU Z (Lc 0 Z Tryz.isAgg49 Z Z) Z (TD.run ab [2] Z Z ?_));refine KU Z (K6 (k:=k28) Z Z Z Oq OL (ND hx47).1) Z ?_;refine TD.run ab [4] Z Z (KU Z (Lw 1 Z Pi z48nf z48cc Z Z) Z ?_);obtain⟨x53,hx54,h⟩:=Ny h;obtain⟨gz55,oz55,rfl,z55cs,z55cl,z55cc,z55nf,z55r⟩:=Lm QS hX51 hx54;obtain⟨z55S,z55r,z55rr⟩:=z55r;obtain⟨A56,c57,rfl,z55s0⟩:=z55r;have hX58:(RX.of (aq 12 dJ) [.slice A56 x53.MW.length c57] x53.MW).reads w F:=⟨z55S,z55s0,z55rr⟩;refine TD.run ab [6] Z Z ?_;refine KU Z (K6 (k:=k38) Z Z Z Oh Pk (ND hx54).1) Z ?_;refine TD.run ab [8] Z Z (KU Z (Lw 1 Z Ph z55nf z55cc Z Z) Z (TD.run ab [10,11] Z Z (KU Z (Lc 0 Z Oz Z Z) Z ?_)));rcases jF h with⟨c59,h⟩ | ⟨c59,h⟩
      ·obtain⟨x60,hx61,h⟩:=Ny h;refine TD.run ab [13,14] Z Z (TD.as (d:=93) (v':= .bool false) Z (congrArg Value.bool (bi c59)) (LF Z .u (.fn Tryz.call105 Z) (ne x53.MW _ _ false a1 _ hx61) (fun _ hs=>(K7 hs hX58)) Z [0,0] (Z) (TD.run ab [16] Z Z (LK (KN Z (KM ab 2 Z ?_))))));rcases jF h with⟨c62,h⟩ | ⟨c62,h⟩
       ·refine Lr Z c62 (T.skip (La (X.seq (T.region Z ?_))));obtain⟨c63,h⟩:=al h;exact KM ab 1 Z (KO Z (Ex.add Z Z c63) Z (KM ab 1 Z (TL.nil (X.back (m':=m42) [0,0] QR ⟨y37,k38+1,Z,Z,h⟩ QW QW))))
       refine Lq Z c62 (KN Z (KM ab 2 Z ?_));obtain rfl:=Nz h;obtain rfl:=Nz hO41;obtain rfl:=Nz hO31;exact KP (T.ret (K2 (KT (KT (K2 (K2 (KT (KT (K2 (KT (KY [1] PW (KQ Z))))))))))))
      replace c59:=NF c59;obtain⟨x64,hx65,h⟩:=Ny h;refine TD.run ab [13,14] Z Z (TD.as (d:=93) (v':= .bool true) Z (congrArg Value.bool (bF c59)) (LF Z .u (.fn Tryz.call105 Z) (ne x53.MW _ _ true a1 _ hx65) (fun _ hs=>(K7 hs hX58)) Z [0,0] (Z) (TD.run ab [16] Z Z (LK (KN Z (KM ab 2 Z ?_))))));rcases jF h with⟨c66,h⟩ | ⟨c66,h⟩
      ·refine Lr Z c66 (T.skip (La (X.seq (T.region Z ?_))));obtain⟨c67,h⟩:=al h;exact KM ab 1 Z (KO Z (Ex.add Z Z c67) Z (KM ab 1 Z (TL.nil (X.back (m':=m42) [0,0] QR ⟨y37,k38+1,Z,Z,h⟩ QW QW))))
      refine Lq Z c66 (KN Z (KM ab 2 Z ?_));obtain rfl:=Nz h;obtain rfl:=Nz hO41;obtain rfl:=Nz hO31;exact KP (T.ret (K2 (KT (KT (K2 (K2 (KT (KT (K2 (KT (KY [1] PW (KQ Z))))))))))))
     refine Lg Z c52 ?_;obtain rfl:=Nz h;replace h:=hO41;clear hO41;refine T.exit (K5 (K5 (Ly (La (X.seq (T.region Z ?_))))));obtain⟨c68,h⟩:=al h;exact KM ab 1 Z (KO Z (Ex.add Z Z c68) Z (KM ab 1 Z (TL.nil (X.back (m':=m32) [0,0] QR ⟨y37,k28+1,Z,Z,h⟩ QW QW))))
   refine Lg Z c36 ?_;obtain rfl:=Nz h;replace h:=hO31;clear hO31;refine T.exit (K5 (K5 (Ly (X.seq (KN Z (KM ab 1 Z ?_))))));obtain rfl:=Nz h;exact KP (T.ret (KY [1] PW (KQ Z)))
 refine Lq Z c26 (KN Z (KM ab 2 Z ?_));obtain rfl:=Nz h;exact KP (T.ret (KT (KY [1] PW (KQ Z))))
def eY (x159:dF) (k173:Nat):Nat->List UInt8->Nat->Option (List UInt8×Nat)
 | 0,_,_=>none
 | m241+1,y236,k237=>(x159.MP[k173]?).bind fun x245=>if (k237:Int)<(x245.MW.length:Int) then ((x245.MW[k237]?).bind fun x252=>(kv x252).bind fun x258=>if y236.length+x258.length<=9223372036854775807 then (if -9223372036854775808<=((k237:Int)+1)/\((k237:Int)+1)<=9223372036854775807 then (eY x159 k173 m241 (y236++x258) (k237+1)) else none) else none) else some (y236,k237)
def eZ (x159:dF):Nat->List UInt8->Nat->Option (List UInt8×Nat)
 | 0,_,_=>none
 | m177+1,y172,k173=>if (k173:Int)<(x159.MP.length:Int) then (((eY x159 k173 (((x159.MP[k173]?).map (fun x236=>((x236.MW.length:Int)).toNat+1)).getD 0) [] 0).bind fun (y274,k275)=>(x159.MP[k173]?).bind fun x276=>(cP x276.M8 4).bind fun x282=>if y172.length+x282.length<=9223372036854775807 then ((jK (⟨false,y274⟩:Bl) 4).bind fun x285=>if (y172++x282).length+x285.length<=9223372036854775807 then (some ((y172++x282)++x285)) else none) else none).bind fun y234=>if -9223372036854775808<=((k173:Int)+1)/\((k173:Int)+1)<=9223372036854775807 then (eZ x159 m177 y234 (k173+1)) else none) else some (y172,k173)
def e7 (a0:bM):Nat->List UInt8->Nat->Option (List UInt8×Nat)
 | 0,_,_=>none
 | m20+1,y15,k16=>if (k16:Int)<(a0.MN.length:Int) then (((a0.MN[k16]?).bind fun x159=>(jK (⟨false,x159.MV⟩:Bl) 2).bind fun x166=>if y15.length+x166.length<=9223372036854775807 then ((cP (x159.MP.length:Int) 4).bind fun x169=>if (y15++x166).length+x169.length<=9223372036854775807 then ((eZ x159 (((x159.MP.length:Int)).toNat+1) ((y15++x166)++x169) 0).bind fun (y289,k290)=>some y289) else none) else none).bind fun y157=>if -9223372036854775808<=((k16:Int)+1)/\((k16:Int)+1)<=9223372036854775807 then (e7 a0 m20 y157 (k16+1)) else none) else some (y15,k16)
def iW (a0:bM):Option (List UInt8):=(jK a0.MU 2).bind fun x4=>(cP a0.Nc 2).bind fun x6=>if x4.length+x6.length<=9223372036854775807 then ((cP a0.MT 4).bind fun x9=>if (x4++x6).length+x9.length<=9223372036854775807 then ((cP (a0.MN.length:Int) 4).bind fun x12=>if ((x4++x6)++x9).length+x12.length<=9223372036854775807 then ((e7 a0 (((a0.MN.length:Int)).toNat+1) (((x4++x6)++x9)++x12) 0).bind fun (y292,k293)=>some y292) else none) else none) else none
theorem uW (a0:bM) (A1:Option Addr) (c2:Nat) (r:List UInt8) (h:iW a0=some r):aG Tryz.prog 60 #[.agg #[.bool a0.MU.null,jS a0.MU.data,jI a0.Nc,jI a0.MT,.slice A1 a0.MN.length c2]] (RX.of (aq 2 bR) [.slice A1 a0.MN.length c2] a0.MN) (aL) (fun v A' N=>v=jS r/\A'=aL/\N = []):=by
 refine aU Tryz.func60 Z Tryz.ntmps60 Z ?_;intro F w hX;unfold iW at h;refine KN Z (TL.box Z .u Z Z (fun b3=>(KM ab 1 Z ?_)));refine KP (T.seq (Ls (.q 0 (.q 1 (.q 3 (.q 4 (.q 7 (.q 8 (.q 11 (.q 12 (.q 13 (.e 2 (.e 5 (.q 6 (.e 9 (.q 10 (.e 14 (.q 15 (.q 16 .nil))))))))))))))))) [0,0] Z gi (NoP.seq bq) QU ?_));refine TD.run ab [0] Z Z (KU Z (K9 (us:=wL6 a0.MU) 0 Z Oa NM Z Z Z) Z (TD.run ab [3] Z Z (KU Z (Lc 0 Z NH Z Z) Z (TD.run ab [7] Z Z (KU Z (Lc 0 Z NH Z Z) Z (TD.run ab [11] Z Z (KU Z (Lc 0 Z Tryz.isAgg49 Z Z) Z ?_)))))));refine KU Z (K4 Z Oq) Z ?_;obtain⟨x4,hx5,h⟩:=Ny h;refine LF Z .u (.fn Tryz.call110 Z) (iC a0.MU 2 _ hx5) rT Z [0,0] (Z) ?_;obtain⟨x6,hx7,h⟩:=Ny h;refine LF Z .u (.fn Tryz.call63 Z) (bB a0.Nc 2 _ hx7) rT Z [0,0] (Z) ?_;obtain⟨c8,h⟩:=al h;refine KU Z (Ln Z Z c8) Z ?_;obtain⟨x9,hx10,h⟩:=Ny h;refine LF Z .u (.fn Tryz.call63 Z) (bB a0.MT 4 _ hx10) rT Z [0,0] (Z) ?_;obtain⟨c11,h⟩:=al h;refine KU Z (Ln Z Z c11) Z ?_;obtain⟨x12,hx13,h⟩:=Ny h;refine LF Z .u (.fn Tryz.call63 Z) (bB (a0.MN.length:Int) 4 _ hx13) rT Z [0,0] (Z) ?_;obtain⟨c14,h⟩:=al h;refine KU Z (Ln Z Z c14) Z (TD.run ab [16] Z Z (LK (T.seq (KN Z (KX ab Z (T.block ?_))))));obtain⟨E17,hE18,hO19⟩:=Ny h;refine LB (fun m e Rs=> ∃ (y15:List UInt8) (k16:Nat),e = [(1,jP b3),(2,.string ⟨#[]⟩),(3,jS y15),(4,jI (k16:Int))]/\Rs = [aV b3 51 #[.bool a0.MU.null,jS a0.MU.data,jI a0.Nc,jI a0.MT,.slice A1 a0.MN.length c2],aL]/\e7 a0 m y15 k16=some E17) (((a0.MN.length:Int)).toNat+1) [0,0] ⟨(((x4++x6)++x9)++x12),0,Z,Z,by exact hE18⟩ QW QW ?_;clear hE18 h;rintro m20 _ _ ⟨y15,k16,rfl,rfl,h⟩
 cases m20 with
 | zero =>
  rw[e7] at h;cases h
 | succ m20 =>
  rw[e7] at h;refine T.seq (KN Z (KR ab aM 0 Z 3 Z Z (KO Z (K4 Z Oq) Z (KM ab 1 Z ?_))));rcases jF h with⟨c24,h⟩ | ⟨c24,h⟩
  ·refine Lh Z c24 (K8 (T.seq ?_));obtain⟨y157,h,hk158⟩:=Ny h;refine LE (fun e Rs=>e = [(1,jP b3),(2,.string ⟨#[]⟩),(3,jS y157),(4,jI (k16:Int))]/\Rs = [aV b3 51 #[.bool a0.MU.null,jS a0.MU.data,jI a0.Nc,jI a0.MT,.slice A1 a0.MN.length c2],aL]) ?_ ?_
   ·clear hk158;refine T.block (KN Z ?_);obtain⟨x159,hx160,h⟩:=Ny h;obtain⟨gz161,oz161,rfl,z161cs,z161cl,z161cc,z161nf,z161r⟩:=Lm QS hX hx160;obtain⟨z161S,z161r,z161rr⟩:=z161r;obtain⟨A162,c163,rfl,z161s0⟩:=z161r;have hX164:(RX.of (aq 2 fm) [.slice A162 x159.MP.length c163] x159.MP).reads w F:=⟨z161S,z161s0,z161rr⟩;refine KR ab aM 0 Z 3 Z Z ?_;refine KO Z (K6 (k:=k16) Z Z Z Oq OL (ND hx160).1) Z ?_;refine KO Z (LM (us := [jS x159.MV,.slice A162 x159.MP.length c163]) 0 Z Qs OL z161nf z161cc Z Z Z) Z (TL.alloc Z .u Tryz.zeroValue191 Z (fun b165=>(K3 0 Z (cs':= #[jS x159.MV,.slice A162 x159.MP.length c163]) Z .u Z Z OL Z Z Z Z Z ?_)));refine KP (T.seq (Ls (.q 0 (.q 1 (.q 2 (.q 3 (.q 6 (.q 7 (.q 8 (.e 4 (.q 5 (.e 9 (.q 10 (.q 11 .nil)))))))))))) [0,0,0] Z gi (NoP.seq (NoP.blk (NoP.seq (NoP.seq (NoP.seq (NoP.blk (NoP.seq bq))))))) QU ?_));refine TD.run ab [0,1] Z Z (KU Z (Lc 0 Z Oc Z Z) Z ?_);refine KU Z (Lo (cells:= #[.bool false,jS x159.MV]) lK Z QU) Z ?_;refine TD.run ab [6] Z Z (KU Z (Lc 0 Z Pi Z Z) Z (KU Z (K4 Z Oh) Z ?_));obtain⟨x166,hx167,h⟩:=Ny h;refine LF Z .u (.fn Tryz.call110 Z) (iC (⟨false,x159.MV⟩:Bl) 2 _ hx167) rT Z [0,0,0] (Z) ?_;obtain⟨c168,h⟩:=al h;refine KU Z (Ln Z Z c168) Z ?_;obtain⟨x169,hx170,h⟩:=Ny h;refine LF Z .u (.fn Tryz.call63 Z) (bB (x159.MP.length:Int) 4 _ hx170) rT Z [0,0,0] (Z) ?_;obtain⟨c171,h⟩:=al h;refine KU Z (Ln Z Z c171) Z (TD.run ab [11] Z Z (LK (KN Z (KX ab Z (T.block ?_)))));obtain⟨E174,hE175,hO176⟩:=Ny h;refine LB (fun m e Rs=> ∃ (y172:List UInt8) (k173:Nat),e = [(1,jP b3),(2,.string ⟨#[]⟩),(3,jS y172),(4,jI (k16:Int)),(5,jP b165),(6,jI (k173:Int))]/\Rs = [aV b165 191 #[jS x159.MV,.slice A162 x159.MP.length c163],aV b3 51 #[.bool a0.MU.null,jS a0.MU.data,jI a0.Nc,jI a0.MT,.slice (some ⟨gz161,oz161,none⟩) a0.MN.length c2],aL]/\eZ x159 m y172 k173=some E174) (((x159.MP.length:Int)).toNat+1) [0,0,0] ⟨((y15++x166)++x169),0,Z,Z,by exact hE175⟩ QW QW ?_;clear hE175 h;rintro m177 _ _ ⟨y172,k173,rfl,rfl,h⟩
    cases m177 with
    | zero =>
     rw[eZ] at h;cases h
    | succ m177 =>
     rw[eZ] at h;refine T.seq (KN Z (KR ab aM 0 Z 3 Z Z (KO Z (K4 Z Oh) Z (KM ab 1 Z ?_))));rcases jF h with⟨c181,h⟩ | ⟨c181,h⟩
     ·refine Lh Z c181 (K8 (T.seq ?_));obtain⟨y234,h,hk235⟩:=Ny h;refine LE (fun e Rs=>e = [(1,jP b3),(2,.string ⟨#[]⟩),(3,jS y234),(4,jI (k16:Int)),(5,jP b165),(6,jI (k173:Int))]/\Rs = [aV b165 191 #[jS x159.MV,.slice A162 x159.MP.length c163],aV b3 51 #[.bool a0.MU.null,jS a0.MU.data,jI a0.Nc,jI a0.MT,.slice (some ⟨gz161,oz161,none⟩) a0.MN.length c2],aL]) ?_ ?_
      ·clear hk235;refine T.block (KN Z (KX ab Z (T.seq (KN Z (KX ab Z (T.block ?_))))));obtain⟨E238,hE239,hO240⟩:=Ny h;refine LB (fun m e Rs=> ∃ (y236:List UInt8) (k237:Nat),e = [(1,jP b3),(2,.string ⟨#[]⟩),(3,jS y172),(4,jI (k16:Int)),(5,jP b165),(6,jI (k173:Int)),(7,jS y236),(8,jI (k237:Int))]/\Rs = [aV b165 191 #[jS x159.MV,.slice A162 x159.MP.length c163],aV b3 51 #[.bool a0.MU.null,jS a0.MU.data,jI a0.Nc,jI a0.MT,.slice (some ⟨gz161,oz161,none⟩) a0.MN.length c2],aL]/\eY x159 k173 m y236 k237=some E238) (((x159.MP[k173]?).map (fun x236=>((x236.MW.length:Int)).toNat+1)).getD 0) [0,0,0] ⟨[],0,Z,Z,by exact hE239⟩ QW QW ?_;clear hE239 h;rintro m241 _ _ ⟨y236,k237,rfl,rfl,h⟩
       cases m241 with
       | zero =>
        rw[eY] at h;cases h
       | succ m241 =>
        rw[eY] at h;refine T.seq (KN Z ?_);obtain⟨x245,hx246,h⟩:=Ny h;obtain⟨gz247,oz247,rfl,z247cs,z247cl,z247cc,z247nf,z247r⟩:=Lm QS hX164 hx246;obtain⟨z247S,z247r,z247rr⟩:=z247r;obtain⟨A248,c249,rfl,z247s0⟩:=z247r;have hX250:(RX.of (aq 12 dJ) [.slice A248 x245.MW.length c249] x245.MW).reads w F:=⟨z247S,z247s0,z247rr⟩;refine KR ab aM 0 Z 4 Z Z ?_;refine KO Z (K6 (k:=k173) Z Z Z Oh Pk (ND hx246).1) Z ?_;refine KM ab 1 Z (KO Z (Lw 1 Z Ph z247nf z247cc Z Z) Z (KO Z (K4 Z N7) Z (KM ab 1 Z ?_)));rcases jF h with⟨c251,h⟩ | ⟨c251,h⟩
        ·refine Lh Z c251 (K8 (T.seq (T.block (T.region Z (KR ab aM 0 Z 4 Z Z ?_)))));refine KO Z (K6 (k:=k173) Z Z Z Oh Pk (ND hx246).1) Z ?_;refine KM ab 1 Z (KO Z (Lw 1 Z Ph z247nf z247cc Z Z) Z ?_);obtain⟨x252,hx253,h⟩:=Ny h;obtain⟨gz254,oz254,rfl,z254cs,z254cl,z254cc,z254nf,z254r⟩:=Lm QS hX250 hx253;obtain⟨z254S,z254r,z254rr⟩:=z254r;obtain⟨A255,c256,rfl,z254s0⟩:=z254r;have hX257:(RX.of (aq 7 cZ) [.slice A255 x252.MS.length c256] x252.MS).reads w F:=⟨z254S,z254s0,z254rr⟩;refine KM ab 1 Z ?_;refine KO Z (K6 (k:=k237) Z Z Z N7 NR (ND hx253).1) Z ?_;refine KO Z (LM (us:=wL5 x252 A255 c256) 0 Z Od NR z254nf z254cc Z Z Z) Z ?_;obtain⟨x258,hx259,h⟩:=Ny h;refine Lb Z .u (.fn Tryz.call111 Z) (tp x252 _ _ _ hx259) (fun _ hs=>(K7 hs hX257)) Z ?_;obtain⟨c260,h⟩:=al h;refine KO Z (Ln Z Z c260) Z (KM ab 1 Z (TL.nil (La (X.seq (T.region Z ?_)))));obtain⟨c261,h⟩:=al h;exact KM ab 1 Z (KO Z (Ex.add Z Z c261) Z (KM ab 1 Z (TL.nil (X.back (m':=m241) [0,0,0] QR ⟨(y236++x258),k237+1,Z,Z,h⟩ QW QW))))
        refine Lg Z c251 ?_;obtain rfl:=Nz h;replace h:=hO240;clear hO240;refine T.exit (K5 (K5 (Ly (X.seq (T.region Z ?_)))));obtain⟨x262,hx263,h⟩:=Ny h;obtain⟨z264cs,z264cl,z264cc,z264nf,z264r⟩:=Ml QS hX164 hx263;obtain⟨z264S,z264r,z264rr⟩:=z264r;obtain⟨A265,c266,rfl,z264s0⟩:=z264r;have hX267:(RX.of (aq 12 dJ) [.slice A265 x262.MW.length c266] x262.MW).reads w F:=⟨z264S,z264s0,z264rr⟩;refine KR ab aM 0 Z 4 Z Z ?_;refine KO Z (K6 (k:=k173) Z Z Z Oh Pk (ND hx263).1) Z ?_;refine KM ab 1 Z (KO Z (Lw 0 Z NH z264nf z264cc Z Z) Z ?_);obtain⟨x268,hx269,h⟩:=Ny h;refine Lb Z .u (.fn Tryz.call63 Z) (bB x262.M8 4 _ hx269) rT Z ?_;obtain⟨c270,h⟩:=al h;refine KO Z (Ln Z Z c270) Z (KM ab 1 Z ?_);refine KO Z (Lo (cells:= #[.bool false,jS y236]) lK Z QU) Z ?_;obtain⟨x271,hx272,h⟩:=Ny h;refine Lb Z .u (.fn Tryz.call110 Z) (iC (⟨false,y236⟩:Bl) 4 _ hx272) rT Z ?_;obtain⟨c273,h⟩:=al h;refine KO Z (Ln Z Z c273) Z (KM ab 1 Z ?_);cases h;exact TL.nil (La (K0 [0,0,0]))
      rintro _ _ ⟨rfl,rfl⟩;clear h;have h:=hk235;clear hk235;refine X.seq (T.region Z ?_);obtain⟨c288,h⟩:=al h;exact KM ab 1 Z (KO Z (Ex.add Z Z c288) Z (KM ab 1 Z (TL.nil (X.back (m':=m177) [0,0,0] QR ⟨y234,k173+1,Z,Z,h⟩ QW QW))))
     refine Lg Z c181 ?_;obtain rfl:=Nz h;replace h:=hO176;clear hO176;try dsimp only at h
     cases h;exact T.exit (K5 (K5 (Ly (La (K0 [1,1])))))
   rintro _ _ ⟨rfl,rfl⟩;clear h;have h:=hk158;clear hk158;refine X.seq (T.region Z ?_);obtain⟨c291,h⟩:=al h;exact KM ab 1 Z (KO Z (Ex.add Z Z c291) Z (KM ab 1 Z (TL.nil (X.back (m':=m20) [0,0] QR ⟨y157,k16+1,Z,Z,h⟩ QW QW))))
  refine Lg Z c24 ?_;obtain rfl:=Nz h;replace h:=hO19;clear hO19;refine T.exit (K5 (K5 (Ly (X.seq (KN Z (KM ab 2 Z ?_))))));obtain rfl:=Nz h;exact KP (T.ret (KY [1] Tryz.results60 (KQ Z)))
def eR (x29:dF) (x36:dF):Nat->Bool->Nat->Option (Lp Bool (Bool×Nat))
 | 0,_,_=>none
 | m54+1,y49,k50=>if (k50:Int)<(x29.MP.length:Int) then (((x29.MP[k50]?).bind fun x76=>(x36.MP[k50]?).bind fun x82=>if x76.M8=x82.M8 then ((lc x76.MW x82.MW).bind fun x89=>if x89=true then some false else some true) else some true).bind fun y74=>if y74=true then some (Lp.ret false) else (if -9223372036854775808<=((k50:Int)+1)/\((k50:Int)+1)<=9223372036854775807 then (eR x29 x36 m54 y49 (k50+1)) else none)) else (some (Lp.go (y49,k50)))
def eS (a0:bM) (a1:bM):Nat->Bool->Nat->Option (Lp Bool (Bool×Nat))
 | 0,_,_=>none
 | m24+1,y19,k20=>if (k20:Int)<(a0.MN.length:Int) then ((a0.MN[k20]?).bind fun x29=>(a1.MN[k20]?).bind fun x36=>(if x29.MV=x36.MV then (if (x29.MP.length:Int)=(x36.MP.length:Int) then some false else some true) else some true).bind fun y44=>if y44=true then some (Lp.ret false) else ((eR x29 x36 (((x29.MP.length:Int)).toNat+1) y19 0).bind fun e=>match e with | .ret r=>some (Lp.ret r) | .go (y95,k96)=>(if -9223372036854775808<=((k20:Int)+1)/\((k20:Int)+1)<=9223372036854775807 then (eS a0 a1 m24 y95 (k20+1)) else none))) else (some (Lp.go (y19,k20)))
theorem wt (a0:bM) (a1:bM) (u1:Bool) (u2:Nat):eS a0 a1 0 u1 u2=none:=rfl
theorem wu (a0:bM) (a1:bM) (m24:Nat) (y19:Bool) (k20:Nat):eS a0 a1 (m24+1) y19 k20=(if (k20:Int)<(a0.MN.length:Int) then ((a0.MN[k20]?).bind fun x29=>(a1.MN[k20]?).bind fun x36=>(if x29.MV=x36.MV then (if (x29.MP.length:Int)=(x36.MP.length:Int) then some false else some true) else some true).bind fun y44=>if y44=true then some (Lp.ret false) else ((eR x29 x36 (((x29.MP.length:Int)).toNat+1) y19 0).bind fun e=>match e with | .ret r=>some (Lp.ret r) | .go (y95,k96)=>(if -9223372036854775808<=((k20:Int)+1)/\((k20:Int)+1)<=9223372036854775807 then (eS a0 a1 m24 y95 (k20+1)) else none))) else (some (Lp.go (y19,k20)))):=rfl
def iX (a0:bM) (a1:bM):Option (Bool):=(if a0.MU.null=a1.MU.null then (if a0.MU.data=a1.MU.data then (if a0.Nc=a1.Nc then (if a0.MT=a1.MT then (if (a0.MN.length:Int)=(a1.MN.length:Int) then some false else some true) else some true) else some true) else some true) else some true).bind fun y11=>if y11=true then some false else ((eS a0 a1 (((a0.MN.length:Int)).toNat+1) false 0).bind fun e=>match e with | .ret r=>some r | .go (y98,k99)=>some true)
theorem wv (a0:bM) (A1:Option Addr) (c2:Nat) (a1:bM) (A3:Option Addr) (c4:Nat) (r:Bool) (h:iX a0 a1=some r):aG Tryz.prog 66 #[.agg #[.bool a0.MU.null,jS a0.MU.data,jI a0.Nc,jI a0.MT,.slice A1 a0.MN.length c2],.agg #[.bool a1.MU.null,jS a1.MU.data,jI a1.Nc,jI a1.MT,.slice A3 a1.MN.length c4]] (RX.and (RX.of (aq 2 bR) [.slice A1 a0.MN.length c2] a0.MN) (RX.of (aq 2 bR) [.slice A3 a1.MN.length c4] a1.MN)) (aL) (fun v A' N=>v= .bool r/\A'=aL/\N = []):=by
 refine aU Tryz.func66 Z Tryz.ntmps66 Z ?_;intro F w hX;unfold iX at h;refine KN Z (TL.box Z .u Z Z (fun b5=>(TL.box Z .u Z Z (fun b6=>(KX ab Z (L0 ?_))))));obtain⟨y11,h,hk12⟩:=Ny h;refine LE (fun e Rs=>e = [(2,jP b5),(3,jP b6),(4,.bool false),(36,.bool y11)]/\Rs = [aV b6 51 #[.bool a1.MU.null,jS a1.MU.data,jI a1.Nc,jI a1.MT,.slice A3 a1.MN.length c4],aV b5 51 #[.bool a0.MU.null,jS a0.MU.data,jI a0.Nc,jI a0.MT,.slice A1 a0.MN.length c2],aL]) ?_ ?_
 ·clear hk12;refine T.region Z (KM ab 1 Z (KO Z (K9 (us:=wL6 a0.MU) 1 Z Oa NM Z Z Z) Z (KM ab 1 Z (KO Z (K9 (us:=wL6 a1.MU) 0 Z Oa NM Z Z Z) Z ?_))));rcases jF h with⟨c13,h⟩ | ⟨c13,h⟩
  ·rcases jF h with⟨c14,h⟩ | ⟨c14,h⟩
   ·refine KO Z (MJ (us:=wL6 a0.MU) (vs:=wL6 a1.MU) iH Z OQ Z Z Z Z (fq (pM c13) (fq (tf (l:=a0.MU.data) (m:=a1.MU.data) c14) Z))) Z (KR ab aM 1 Z 4 Z Z ?_);rcases jF h with⟨c15,h⟩ | ⟨c15,h⟩
    ·refine KR ab aM 0 Z 4 Z Z (KV 21 Z (bi (NB c15)) (KR ab aM 1 Z 3 Z Z ?_));rcases jF h with⟨c16,h⟩ | ⟨c16,h⟩
     ·refine KR ab aM 0 Z 4 Z Z (KV 28 Z (bi (NB c16)) (KR ab aM 1 Z 2 Z Z (TL.q Z (.g Z Z Z) (K4 Z Oq) Z (KR ab aM 0 Z 2 Z Z (TL.q Z (.g Z Z Z) (K4 Z Oq) Z (KW ab 2 Z ?_))))));rcases jF h with⟨c17,h⟩ | ⟨c17,h⟩
      ·cases h;exact TL.nil (LH (d:=36) (v':= .bool false) Z (congrArg Value.bool (bi (NB c17))) (K0 [0,0,0]))
      cases h;exact TL.nil (LH (d:=36) (v':= .bool true) Z (congrArg Value.bool (bF (NC c17))) (K0 [0,0,0]))
     refine KR ab aM 0 Z 4 Z Z (KV 28 Z (bF (NC c16)) (KW ab 8 Z ?_));cases h;exact TL.nil (K0 [0,0,0])
    refine KR ab aM 0 Z 4 Z Z (KV 21 Z (bF (NC c15)) (KW ab 15 Z ?_));cases h;exact TL.nil (K0 [0,0,0])
   refine KO Z (MJ (us:=wL6 a0.MU) (vs:=wL6 a1.MU) iH Z OQ Z Z Z Z (fq (pM c13) (mo (sv (l:=a0.MU.data) (m:=a1.MU.data) c14)))) Z (KW ab 23 Z ?_);cases h;exact TL.nil (K0 [0,0,0])
  refine KO Z (MJ (us:=wL6 a0.MU) (vs:=wL6 a1.MU) iH Z OQ Z Z Z Z (mo (ul c13))) Z (KW ab 23 Z ?_);cases h;exact TL.nil (K0 [0,0,0])
 rintro _ _ ⟨rfl,rfl⟩;clear h;have h:=hk12;clear hk12;try dsimp only at h
 rcases jF h with⟨c18,h⟩ | ⟨c18,h⟩
 ·refine X.seq (K1 Z c18 (KN Z (KM ab 1 Z ?_)));obtain rfl:=Nz h;exact KP (T.ret (KT (KY [2] QL (KQ Z))))
 replace c18:=NF c18;refine X.seq (Li Z c18 (K8 (T.seq (KN Z (KX ab Z (T.block ?_))))));obtain⟨E21,hE22,hO23⟩:=Ny h;refine LB (fun m e Rs=> ∃ (y19:Bool) (k20:Nat),e = [(2,jP b5),(3,jP b6),(4,.bool y19),(5,jI (k20:Int))]/\Rs = [aV b6 51 #[.bool a1.MU.null,jS a1.MU.data,jI a1.Nc,jI a1.MT,.slice A3 a1.MN.length c4],aV b5 51 #[.bool a0.MU.null,jS a0.MU.data,jI a0.Nc,jI a0.MT,.slice A1 a0.MN.length c2],aL]/\eS a0 a1 m y19 k20=some E21) (((a0.MN.length:Int)).toNat+1) [0,0,0] ⟨false,0,Z,Z,by exact hE22⟩ QW QW ?_;clear hE22 h;rintro m24 _ _ ⟨y19,k20,rfl,rfl,h⟩
 cases m24 with
 | zero =>
  rw[wt] at h;cases h
 | succ m24 =>
  rw[wu] at h;refine T.seq (KN Z (KR ab aM 1 Z 3 Z Z (KO Z (K4 Z Oq) Z (KM ab 1 Z ?_))));rcases jF h with⟨c28,h⟩ | ⟨c28,h⟩
  ·refine Lh Z c28 (K8 (T.seq (T.block (KN Z ?_))));obtain⟨x29,hx30,h⟩:=Ny h;obtain⟨gz31,oz31,rfl,z31cs,z31cl,z31cc,z31nf,z31r⟩:=Lm QS (Lx hX) hx30;obtain⟨z31S,z31r,z31rr⟩:=z31r;obtain⟨A32,c33,rfl,z31s0⟩:=z31r;have hX34:(RX.of (aq 2 fm) [.slice A32 x29.MP.length c33] x29.MP).reads w F:=⟨z31S,z31s0,z31rr⟩;refine KR ab aM 1 Z 3 Z Z ?_;refine KO Z (K6 (k:=k20) Z Z Z Oq OL (ND hx30).1) Z ?_;refine KO Z (LM (us := [jS x29.MV,.slice A32 x29.MP.length c33]) 0 Z Qs OL z31nf z31cc Z Z Z) Z (TL.alloc Z .u Tryz.zeroValue191 Z (fun b35=>(K3 0 Z (cs':= #[jS x29.MV,.slice A32 x29.MP.length c33]) Z .u Z Z OL Z Z Z Z Z (Ld Z ?_))));obtain⟨x36,hx37,h⟩:=Ny h;obtain⟨gz38,oz38,rfl,z38cs,z38cl,z38cc,z38nf,z38r⟩:=Lm QS (Lf hX) hx37;obtain⟨z38S,z38r,z38rr⟩:=z38r;obtain⟨A39,c40,rfl,z38s0⟩:=z38r;have hX41:(RX.of (aq 2 fm) [.slice A39 x36.MP.length c40] x36.MP).reads w F:=⟨z38S,z38s0,z38rr⟩;refine KR ab aM 1 Z 3 Z Z ?_;refine KO Z (K6 (k:=k20) Z Z Z Oq OL (ND hx37).1) Z ?_;refine KO Z (LM (us := [jS x36.MV,.slice A39 x36.MP.length c40]) 0 Z Qs OL z38nf z38cc Z Z Z) Z (TL.alloc Z .u Tryz.zeroValue191 Z (fun b42=>(K3 0 Z (cs':= #[jS x36.MV,.slice A39 x36.MP.length c40]) Z .u Z Z OL Z Z Z Z Z (KP (L0 ?_)))));obtain⟨y44,h,hk45⟩:=Ny h;refine LE (fun e Rs=>e = [(2,jP b5),(3,jP b6),(4,.bool y19),(5,jI (k20:Int)),(6,jP b35),(7,jP b42),(67,.bool y44)]/\Rs = [aV b42 191 #[jS x36.MV,.slice A39 x36.MP.length c40],aV b35 191 #[jS x29.MV,.slice A32 x29.MP.length c33],aV b6 51 #[.bool a1.MU.null,jS a1.MU.data,jI a1.Nc,jI a1.MT,.slice (some ⟨gz38,oz38,none⟩) a1.MN.length c4],aV b5 51 #[.bool a0.MU.null,jS a0.MU.data,jI a0.Nc,jI a0.MT,.slice (some ⟨gz31,oz31,none⟩) a0.MN.length c2],aL]) ?_ ?_
   ·clear hk45;refine T.region Z (KR ab aM 1 Z 3 Z Z (KR ab aM 0 Z 1 Z Z (KO Z (MD Z Z) Z ?_)));rcases jF h with⟨c46,h⟩ | ⟨c46,h⟩
    ·refine KM ab 1 Z (KV 59 Z (bi (NB c46)) (KR ab aM 1 Z 2 Z Z (TL.q Z (.g Z Z Z) (K4 Z Oh) Z (KR ab aM 0 Z 2 Z Z (TL.q Z (.g Z Z Z) (K4 Z Oh) Z (KW ab 2 Z ?_))))));rcases jF h with⟨c47,h⟩ | ⟨c47,h⟩
     ·cases h;exact TL.nil (LH (d:=67) (v':= .bool false) Z (congrArg Value.bool (bi (NB c47))) (K0 [0,0,0,0,0]))
     cases h;exact TL.nil (LH (d:=67) (v':= .bool true) Z (congrArg Value.bool (bF (NC c47))) (K0 [0,0,0,0,0]))
    refine KM ab 1 Z (KV 59 Z (bF (NC c46)) (KW ab 8 Z ?_));cases h;exact TL.nil (K0 [0,0,0,0,0])
   rintro _ _ ⟨rfl,rfl⟩;clear h;have h:=hk45;clear hk45;try dsimp only at h
   rcases jF h with⟨c48,h⟩ | ⟨c48,h⟩
   ·refine X.seq (K1 Z c48 (KN Z (KM ab 1 Z ?_)));obtain rfl:=Nz h;obtain rfl:=Nz hO23;exact KP (T.ret (KT (K2 (KT (KT (K2 (KT (KY [4] QL (KQ Z)))))))))
   replace c48:=NF c48;refine X.seq (Li Z c48 (Lk Z (KX ab Z (T.block ?_))));obtain⟨E51,hE52,hO53⟩:=Ny h;refine LB (fun m e Rs=> ∃ (y49:Bool) (k50:Nat),e = [(2,jP b5),(3,jP b6),(4,.bool y49),(5,jI (k20:Int)),(6,jP b35),(7,jP b42),(8,jI (k50:Int))]/\Rs = [aV b42 191 #[jS x36.MV,.slice A39 x36.MP.length c40],aV b35 191 #[jS x29.MV,.slice A32 x29.MP.length c33],aV b6 51 #[.bool a1.MU.null,jS a1.MU.data,jI a1.Nc,jI a1.MT,.slice (some ⟨gz38,oz38,none⟩) a1.MN.length c4],aV b5 51 #[.bool a0.MU.null,jS a0.MU.data,jI a0.Nc,jI a0.MT,.slice (some ⟨gz31,oz31,none⟩) a0.MN.length c2],aL]/\eR x29 x36 m y49 k50=some E51) (((x29.MP.length:Int)).toNat+1) [0,0,0,0,0] ⟨y19,0,Z,Z,by exact hE52⟩ QW QW ?_;clear hE52 h;rintro m54 _ _ ⟨y49,k50,rfl,rfl,h⟩
   cases m54 with
   | zero =>
    rw[eR] at h;cases h
   | succ m54 =>
    rw[eR] at h;refine T.seq (KN Z (KR ab aM 1 Z 3 Z Z (KO Z (K4 Z Oh) Z (KM ab 1 Z ?_))));rcases jF h with⟨c58,h⟩ | ⟨c58,h⟩
    ·refine Lh Z c58 (K8 (T.seq (T.block (T.seq ?_))));obtain⟨y74,h,hk75⟩:=Ny h;refine LE (fun e Rs=>e = [(2,jP b5),(3,jP b6),(4,.bool y49),(5,jI (k20:Int)),(6,jP b35),(7,jP b42),(8,jI (k50:Int)),(103,.bool y74)]/\Rs = [aV b42 191 #[jS x36.MV,.slice A39 x36.MP.length c40],aV b35 191 #[jS x29.MV,.slice A32 x29.MP.length c33],aV b6 51 #[.bool a1.MU.null,jS a1.MU.data,jI a1.Nc,jI a1.MT,.slice (some ⟨gz38,oz38,none⟩) a1.MN.length c4],aV b5 51 #[.bool a0.MU.null,jS a0.MU.data,jI a0.Nc,jI a0.MT,.slice (some ⟨gz31,oz31,none⟩) a0.MN.length c2],aL]) ?_ ?_
     ·clear hk75;refine Ls (.q 0 (.q 1 (.q 2 (.q 3 (.q 4 (.q 5 (.q 6 (.q 7 (.q 8 (.q 9 (.q 10 (.q 11 (.q 12 (.q 13 (.q 14 (.q 15 (.q 16 (.q 17 (.q 18 (.q 19 (.q 20 (.q 21 (.q 22 (.q 23 (.q 24 (.q 25 (.e 26 (.q 27 (.q 28 .nil))))))))))))))))))))))))))))) [0,0,0,0,0] Z gi (NoP.seq (NoP.seq (NoP.blk (NoP.seq (NoP.seq (NoP.blk (NoP.blk (NoP.seq (NoP.seq (NoP.blk (NoP.seq bq))))))))))) QU ?_;refine TD.run ab [0] Z Z (KU Z (Lc 1 Z Pi Z Z) Z ?_);obtain⟨x76,hx77,h⟩:=Ny h;obtain⟨gz78,oz78,rfl,z78cs,z78cl,z78cc,z78nf,z78r⟩:=Lm QS hX34 hx77;obtain⟨z78S,z78r,z78rr⟩:=z78r;obtain⟨A79,c80,rfl,z78s0⟩:=z78r;have hX81:(RX.of (aq 12 dJ) [.slice A79 x76.MW.length c80] x76.MW).reads w F:=⟨z78S,z78s0,z78rr⟩;refine TD.run ab [2] Z Z ?_;refine KU Z (K6 (k:=k50) Z Z Z Oh Pk (ND hx77).1) Z ?_;refine TD.run ab [4] Z Z (KU Z (Lw 0 Z NH z78nf z78cc Z Z) Z (TD.run ab [6] Z Z (KU Z (Lc 0 Z Pi Z Z) Z ?_)));obtain⟨x82,hx83,h⟩:=Ny h;obtain⟨gz84,oz84,rfl,z84cs,z84cl,z84cc,z84nf,z84r⟩:=Lm QS hX41 hx83;obtain⟨z84S,z84r,z84rr⟩:=z84r;obtain⟨A85,c86,rfl,z84s0⟩:=z84r;have hX87:(RX.of (aq 12 dJ) [.slice A85 x82.MW.length c86] x82.MW).reads w F:=⟨z84S,z84s0,z84rr⟩;refine TD.run ab [8] Z Z ?_;refine KU Z (K6 (k:=k50) Z Z Z Oh Pk (ND hx83).1) Z ?_;refine TD.run ab [10] Z Z (KU Z (Lw 0 Z NH z84nf z84cc Z Z) Z ?_);rcases jF h with⟨c88,h⟩ | ⟨c88,h⟩
      ·refine TD.run ab [12,13] Z Z (TD.q Z (.g Z Z (bi (NB c88))) (LC ab Z) Z (TD.q Z (.g Z Z (bi (NB c88))) (Lc 1 Z Pi Z Z) Z (TD.q Z (.g Z Z (bi (NB c88))) (LC ab Z) Z ?_)));refine TD.q Z (.g Z Z (bi (NB c88))) (K6 (k:=k50) Z Z Z Oh Pk (ND hx77).1) Z ?_;refine TD.q Z (.g Z Z (bi (NB c88))) (LC ab Z) Z (TD.q Z (.g Z Z (bi (NB c88))) (Lw 1 Z Ph z78nf z78cc Z Z) Z (TD.q Z (.g Z Z (bi (NB c88))) (LC ab Z) Z (TD.q Z (.g Z Z (bi (NB c88))) (Lc 0 Z Pi Z Z) Z (TD.q Z (.g Z Z (bi (NB c88))) (LC ab Z) Z ?_))));refine TD.q Z (.g Z Z (bi (NB c88))) (K6 (k:=k50) Z Z Z Oh Pk (ND hx83).1) Z ?_;refine TD.q Z (.g Z Z (bi (NB c88))) (LC ab Z) Z (TD.q Z (.g Z Z (bi (NB c88))) (Lw 1 Z Ph z84nf z84cc Z Z) Z ?_);obtain⟨x89,hx90,h⟩:=Ny h;refine LF Z (.g Z Z (bi (NB c88))) (.fn Tryz.call114 Z) (wk x76.MW _ _ x82.MW _ _ _ hx90) (fun _ hs=>(RX.reads_and (K7 hs hX81) (K7 hs hX87))) Z [0,0,0,0,0] (Z) (TD.q Z (.g Z Z (bi (NB c88))) (LC ab Z) Z (KU Z (LU Z (bi (NB c88)) Z) Z ?_));rcases jF h with⟨c91,h⟩ | ⟨c91,h⟩
       ·cases h;exact TD.nil (LH (d:=103) (v':= .bool false) Z (congrArg Value.bool (bi c91)) (K0 [0,0,0,0,0]))
       replace c91:=NF c91;cases h;exact TD.nil (LH (d:=103) (v':= .bool true) Z (congrArg Value.bool (bF c91)) (K0 [0,0,0,0,0]))
      refine TD.run ab [12,13] Z Z ?_;iterate 12 refine LO Z (.gn Z Z (bF (NC c88))) Z ?_
      refine Mo Z (.gn Z Z (bF (NC c88))) Z [0,0,0,0,0] Z (LO Z (.gn Z Z (bF (NC c88))) Z (KU Z (LX Z (bF (NC c88)) Z) Z ?_));cases h;exact TD.nil (K0 [0,0,0,0,0])
     rintro _ _ ⟨rfl,rfl⟩;clear h;have h:=hk75;clear hk75;try dsimp only at h
     rcases jF h with⟨c92,h⟩ | ⟨c92,h⟩
     ·refine X.seq (K1 Z c92 (KN Z (KM ab 1 Z ?_)));obtain rfl:=Nz h;obtain rfl:=Nz hO53;obtain rfl:=Nz hO23;exact KP (T.ret (K2 (KT (KT (K2 (K2 (KT (KT (K2 (KT (KY [4] QL (KQ Z))))))))))))
     replace c92:=NF c92;refine X.seq (Li Z c92 (T.skip (La (X.seq (T.region Z ?_)))));obtain⟨c93,h⟩:=al h;exact KM ab 1 Z (KO Z (Ex.add Z Z c93) Z (KM ab 1 Z (TL.nil (X.back (m':=m54) [0,0,0,0,0] QR ⟨y49,k50+1,Z,Z,h⟩ QW QW))))
    refine Lg Z c58 ?_;obtain rfl:=Nz h;replace h:=hO53;clear hO53;refine T.exit (K5 (K5 (Ly (La (X.seq (T.region Z ?_))))));obtain⟨c94,h⟩:=al h;exact KM ab 1 Z (KO Z (Ex.add Z Z c94) Z (KM ab 1 Z (TL.nil (X.back (m':=m24) [2,2,2] QR ⟨y49,k20+1,Z,Z,h⟩ QW QW))))
  refine Lg Z c28 ?_;obtain rfl:=Nz h;replace h:=hO23;clear hO23;refine T.exit (K5 (K5 (Ly (X.seq (KN Z (KM ab 1 Z ?_))))));obtain rfl:=Nz h;exact KP (T.ret (KY [2] QL (KQ Z)))
def uX:eO := [(23,0,0),(23,1,1),(45,0,0),(45,1,1),(45,2,2),(45,3,3),(212,0,0),(212,1,2),(212,2,3)]
theorem au:(uX).OK Tryz.prog:=⟨FOK.mk N2 rfl Oe rfl,FOK.mk N2 rfl N6 rfl,FOK.mk Pw rfl NG rfl,FOK.mk Pw rfl NG rfl,FOK.mk Pw rfl NG rfl,FOK.mk Pw rfl NM rfl,FOK.mk Oi rfl NM rfl,FOK.mk Oi rfl NG rfl,FOK.mk Oi rfl NG rfl,trivial⟩
def uY:List Nat := [3,4,9]
theorem cJ:NOK Tryz.prog uY:=⟨NH,Oz,Oc,trivial⟩
theorem tr:Tryz.prog.follows .mixedOrders=true:=by kernel_rfl
def iY (a0:Int) (a1:Int):Option (Int):=if a0=0 then (if a1=3 then some 0 else (if a1=4 then some 0 else some 7)) else (if a0=22 then (if a1=0 then some 0 else (if a1=1 then some 0 else some 7)) else (if a0=27 then (if a1=0 then some 0 else (if a1=1 then some 0 else some 7)) else (if a0=24 then (if a1=0 then some 0 else some 7) else (if a0=26 then (if a1=0 then some 0 else some 7) else some 12))))
theorem rF (a0:Int) (a1:Int) (r:Int) (h:iY a0 a1=some r):aG Tryz.prog 103 #[jI a0,jI a1] .triv (aL) (fun v A' N=>v=jI r/\A'=aL/\N = []):=by
 refine aU Tryz.func103 Z Tryz.ntmps103 Z ?_;intro F w hX;unfold iY at h;refine KN Z (KX au Z (T.seq (KN Z (KX au Z (T.block (KN Z (KM au 2 Z ?_)))))));rcases jF h with⟨c1,h⟩ | ⟨c1,h⟩
 ·refine Lh Z c1 (T.seq (KN Z ?_));rcases jF h with⟨c2,h⟩ | ⟨c2,h⟩
  ·refine KM au 3 Z (KV 10 Z (NB c2) (Lz au Z (K1 Z Z (KN Z (KM au 1 Z ?_)))));obtain rfl:=Nz h;exact KP (T.ret (KT (K2 (KT (KY [0] OS (KQ Z))))))
  refine KM au 3 Z (KV 10 Z (NC c2) (KW au 3 Z ?_));rcases jF h with⟨c3,h⟩ | ⟨c3,h⟩
  ·refine Lh Z c3 (KN Z (KM au 1 Z ?_));obtain rfl:=Nz h;exact KP (T.ret (KT (K2 (KT (KY [0] OS (KQ Z))))))
  refine Lg Z c3 (Lk Z (KM au 1 Z ?_));obtain rfl:=Nz h;exact KP (T.ret (K2 (KT (KY [0] OS (KQ Z)))))
 refine Lg Z c1 (T.seq (KN Z (KM au 2 Z ?_)));rcases jF h with⟨c4,h⟩ | ⟨c4,h⟩
 ·refine Lh Z c4 (K8 (L2 Z c4 (T.seq (KN Z ?_))));rcases jF h with⟨c5,h⟩ | ⟨c5,h⟩
  ·refine KM au 3 Z (KV 19 Z (NB c5) (Lz au Z (K1 Z Z (KN Z (KM au 1 Z ?_)))));obtain rfl:=Nz h;exact KP (T.ret (KT (K2 (KT (KY [0] OS (KQ Z))))))
  refine KM au 3 Z (KV 19 Z (NC c5) (KW au 3 Z ?_));rcases jF h with⟨c6,h⟩ | ⟨c6,h⟩
  ·refine Lh Z c6 (KN Z (KM au 1 Z ?_));obtain rfl:=Nz h;exact KP (T.ret (KT (K2 (KT (KY [0] OS (KQ Z))))))
  refine Lg Z c6 (Lk Z (KM au 1 Z ?_));obtain rfl:=Nz h;exact KP (T.ret (K2 (KT (KY [0] OS (KQ Z)))))
 refine Lg Z c4 (T.region Z (KM au 2 Z ?_));rcases jF h with⟨c7,h⟩ | ⟨c7,h⟩
 ·refine Lh Z c7 (T.seq (KN Z ?_));rcases jF h with⟨c8,h⟩ | ⟨c8,h⟩
  ·refine KM au 3 Z (KV 19 Z (NB c8) (Lz au Z (K1 Z Z (KN Z (KM au 1 Z ?_)))));obtain rfl:=Nz h;exact KP (T.ret (KT (K2 (KT (KY [0] OS (KQ Z))))))
  refine KM au 3 Z (KV 19 Z (NC c8) (KW au 3 Z ?_));rcases jF h with⟨c9,h⟩ | ⟨c9,h⟩
  ·refine Lh Z c9 (KN Z (KM au 1 Z ?_));obtain rfl:=Nz h;exact KP (T.ret (KT (K2 (KT (KY [0] OS (KQ Z))))))
  refine Lg Z c9 (Lk Z (KM au 1 Z ?_));obtain rfl:=Nz h;exact KP (T.ret (K2 (KT (KY [0] OS (KQ Z)))))
 refine Lg Z c7 (T.seq (KN Z (KM au 2 Z ?_)));rcases jF h with⟨c10,h⟩ | ⟨c10,h⟩
 ·refine Lh Z c10 (K8 (L2 Z c10 (T.seq (KN Z (KM au 2 Z ?_)))));rcases jF h with⟨c11,h⟩ | ⟨c11,h⟩
  ·refine Lh Z c11 (KN Z (KM au 1 Z ?_));obtain rfl:=Nz h;exact KP (T.ret (KT (K2 (KT (KY [0] OS (KQ Z))))))
  refine Lg Z c11 (Lk Z (KM au 1 Z ?_));obtain rfl:=Nz h;exact KP (T.ret (K2 (KT (KY [0] OS (KQ Z)))))
 refine Lg Z c10 (T.region Z (KM au 2 Z ?_));rcases jF h with⟨c12,h⟩ | ⟨c12,h⟩
 ·refine Lh Z c12 (T.seq (KN Z (KM au 2 Z ?_)));rcases jF h with⟨c13,h⟩ | ⟨c13,h⟩
  ·refine Lh Z c13 (KN Z (KM au 1 Z ?_));obtain rfl:=Nz h;exact KP (T.ret (KT (K2 (KT (KY [0] OS (KQ Z))))))
  refine Lg Z c13 (Lk Z (KM au 1 Z ?_));obtain rfl:=Nz h;exact KP (T.ret (K2 (KT (KY [0] OS (KQ Z)))))
 refine Lg Z c12 (T.skip (La (X.seq (KN Z (KM au 1 Z ?_)))));obtain rfl:=Nz h;exact KP (T.ret (KY [0] OS (KQ Z)))
def lM (a0:iL):Option (Int):=(iY a0.M1 a0.MY).bind fun x2=>if x2=0 then (if a0.M6<(-2147483648) then some 11 else (if a0.M6>2147483647 then some 11 else (if a0.MX.null=true then (if a0.MX.data = [] then (if (a0.MX.data.length:Int)>32767 then some 4 else some 0) else some 4) else (if (a0.MX.data.length:Int)>32767 then some 4 else some 0)))) else some x2
theorem uZ (a0:iL) (r:Int) (h:lM a0=some r):aG Tryz.prog 53 #[.agg #[jI a0.M1,jI a0.MY,jI a0.M6,.bool a0.MX.null,jS a0.MX.data]] .triv (aL) (fun v A' N=>v=jI r/\A'=aL/\N = []):=by
 refine aU Tryz.func53 Z Tryz.ntmps53 Z ?_;intro F w hX;unfold lM at h;refine KN Z (TL.box Z .u Z Z (fun b1=>(Le au Z Z ?_)));obtain⟨x2,hx3,h⟩:=Ny h;refine KR au cJ 0 Z 4 Z Z (Lb Z .u (.fn Tryz.call103 Z) (rF a0.M1 a0.MY _ hx3) rT Z (KX au Z (T.seq (KN Z (KM au 2 Z ?_)))));rcases jF h with⟨c4,h⟩ | ⟨c4,h⟩
 ·refine Lr Z c4 (K8 (T.seq (KN Z ?_)));rcases jF h with⟨c5,h⟩ | ⟨c5,h⟩
  ·refine KR au cJ 0 Z 4 Z Z (KV 15 Z (NB c5) (Lz au Z (K1 Z Z (KN Z (KM au 1 Z ?_)))));obtain rfl:=Nz h;exact KP (T.ret (KT (KY [1] PA (KQ Z))))
  refine KR au cJ 0 Z 4 Z Z (KV 15 Z (NC c5) (KR au cJ 0 Z 4 Z Z ?_));rcases jF h with⟨c6,h⟩ | ⟨c6,h⟩
  ·refine Lh Z c6 (KN Z (KM au 1 Z ?_));obtain rfl:=Nz h;exact KP (T.ret (KT (KY [1] PA (KQ Z))))
  refine Lg Z c6 (K8 (T.seq (KN Z ?_)));rcases jF h with⟨c7,h⟩ | ⟨c7,h⟩
  ·refine KR au cJ 0 Z 4 Z Z (KV 23 Z c7 (KR au cJ 0 Z 3 Z Z (TL.q Z (.g Z Z Z) (MD Z (m := []) Z) Z ?_)));rcases jF h with⟨c8,h⟩ | ⟨c8,h⟩
   ·refine KW au 2 Z (KV 29 Z (bi (NB c8)) (KR au cJ 0 Z 3 Z Z (TL.q Z (.g Z Z Z) (LD Z NK) Z (KW au 2 Z ?_))));rcases jF h with⟨c9,h⟩ | ⟨c9,h⟩
    ·refine Lh Z c9 (KN Z (KM au 1 Z ?_));obtain rfl:=Nz h;exact KP (T.ret (KT (KY [1] PA (KQ Z))))
    refine Lg Z c9 (Lk Z (KM au 1 Z ?_));obtain rfl:=Nz h;exact KP (T.ret (KY [1] PA (KQ Z)))
   refine KW au 2 Z (KV 29 Z (bF (NC c8)) (Lz au Z (K1 Z Z (KN Z (KM au 1 Z ?_)))));obtain rfl:=Nz h;exact KP (T.ret (KT (KY [1] PA (KQ Z))))
  replace c7:=NF c7;refine KR au cJ 0 Z 4 Z Z (KV 23 Z c7 (KR au cJ 0 Z 9 Z Z (TL.q Z (.g Z Z Z) (LD Z NK) Z (KW au 2 Z ?_))));rcases jF h with⟨c10,h⟩ | ⟨c10,h⟩
  ·refine Lh Z c10 (KN Z (KM au 1 Z ?_));obtain rfl:=Nz h;exact KP (T.ret (KT (KY [1] PA (KQ Z))))
  refine Lg Z c10 (Lk Z (KM au 1 Z ?_));obtain rfl:=Nz h;exact KP (T.ret (KY [1] PA (KQ Z)))
 refine Lq Z c4 (KN Z (KM au 2 Z ?_));obtain rfl:=Nz h;exact KP (T.ret (KT (KY [1] PA (KQ Z))))
def lN (a0:iL):Option (List UInt8):=(cP a0.M1 2).bind fun x2=>(cP a0.MY 2).bind fun x4=>if x2.length+x4.length<=9223372036854775807 then ((cP a0.M6 4).bind fun x7=>if (x2++x4).length+x7.length<=9223372036854775807 then ((jK a0.MX 2).bind fun x10=>if ((x2++x4)++x7).length+x10.length<=9223372036854775807 then (some (((x2++x4)++x7)++x10)) else none) else none) else none
theorem u0 (a0:iL) (r:List UInt8) (h:lN a0=some r):aG Tryz.prog 59 #[.agg #[jI a0.M1,jI a0.MY,jI a0.M6,.bool a0.MX.null,jS a0.MX.data]] .triv (aL) (fun v A' N=>v=jS r/\A'=aL/\N = []):=by
 refine aU Tryz.func59 Z Tryz.ntmps59 Z ?_;intro F w hX;unfold lN at h;refine KN Z (TL.box Z .u Z Z (fun b1=>(KM au 1 Z ?_)));refine KP (T.seq (Ls (.q 0 (.q 1 (.q 3 (.q 4 (.q 7 (.q 8 (.q 11 (.q 12 (.e 2 (.e 5 (.q 6 (.e 9 (.q 10 (.e 13 (.q 14 (.q 15 .nil)))))))))))))))) [0,0] Z tr (NoP.seq bq) QU ?_));refine TD.run au [0] Z Z (KU Z (Lc 0 Z NH Z Z) Z (TD.run au [3] Z Z (KU Z (Lc 0 Z NH Z Z) Z (TD.run au [7] Z Z (KU Z (Lc 0 Z NH Z Z) Z (TD.run au [11] Z Z (KU Z (K9 (us:=wL6 a0.MX) 0 Z Oa NM Z Z Z) Z ?_)))))));obtain⟨x2,hx3,h⟩:=Ny h;refine LF Z .u (.fn Tryz.call63 Z) (bB a0.M1 2 _ hx3) rT Z [0,0] (Z) ?_;obtain⟨x4,hx5,h⟩:=Ny h;refine LF Z .u (.fn Tryz.call63 Z) (bB a0.MY 2 _ hx5) rT Z [0,0] (Z) ?_;obtain⟨c6,h⟩:=al h;refine KU Z (Ln Z Z c6) Z ?_;obtain⟨x7,hx8,h⟩:=Ny h;refine LF Z .u (.fn Tryz.call63 Z) (bB a0.M6 4 _ hx8) rT Z [0,0] (Z) ?_;obtain⟨c9,h⟩:=al h;refine KU Z (Ln Z Z c9) Z ?_;obtain⟨x10,hx11,h⟩:=Ny h;refine LF Z .u (.fn Tryz.call110 Z) (iC a0.MX 2 _ hx11) rT Z [0,0] (Z) ?_;obtain⟨c12,h⟩:=al h;refine KU Z (Ln Z Z c12) Z (TD.run au [15] Z Z ?_);obtain rfl:=Nz h;exact LK (T.ret (KY [1] Tryz.results59 (KQ Z)))
def u4:eO := [(23,0,0),(23,1,1),(47,0,0),(47,1,2),(47,2,3),(47,3,4),(47,4,5),(47,5,6),(212,0,0),(212,1,2),(212,2,3)]
theorem ai:(u4).OK Tryz.prog:=⟨FOK.mk N2 rfl Oe rfl,FOK.mk N2 rfl N6 rfl,FOK.mk Pm rfl NM rfl,FOK.mk Pm rfl NG rfl,FOK.mk Pm rfl NG rfl,FOK.mk Pm rfl NG rfl,FOK.mk Pm rfl Py rfl,FOK.mk Pm rfl Oe rfl,FOK.mk Oi rfl NM rfl,FOK.mk Oi rfl NG rfl,FOK.mk Oi rfl NG rfl,trivial⟩
def va:List Nat := [3,4,9,28]
theorem aK:NOK Tryz.prog va:=⟨NH,Oz,Oc,O7,trivial⟩
theorem nW:Tryz.prog.follows .mixedOrders=true:=by kernel_rfl
theorem iI:iG Tryz.prog 2 23 [.bool,.string] true:=(iG.struct Oa NM rfl Tryz.underlying23 Tryz.stoodInHeld23 ⟨by decide,rfl,[.bool],[.string],false,rfl,(LZ Oz Oe Tryz.underlying4),⟨by decide,rfl,[.string],[],false,rfl,(LZ Oc N6 Tryz.underlying9),rfl⟩⟩)
def kh (a0:Bl):Option (Bool):=(if a0.null=true then some false else (if (a0.data.length:Int)>=1 then (if (a0.data.length:Int)<=32767 then some true else some false) else some false)).bind fun y4=>some y4
theorem oU (a0:Bl) (r:Bool) (h:kh a0=some r):aG Tryz.prog 107 #[.agg (wA7 a0)] .triv (aL) (fun v A' N=>v= .bool r/\A'=aL/\N = []):=by
 refine aU Tryz.func107 Z Tryz.ntmps107 Z ?_;intro F w hX;unfold kh at h;refine KN Z (TL.box Z .u Z Z (fun b1=>(KX ai Z (T.seq ?_))));obtain⟨y4,h,hk5⟩:=Ny h;refine LE (fun e Rs=>e = [(2,.bool y4)]/\Rs = [aV b1 23 (wA7 a0),aL]) ?_ ?_
 ·clear hk5;refine T.region Z ?_;rcases jF h with⟨c6,h⟩ | ⟨c6,h⟩
  ·refine KR ai aK 0 Z 4 Z Z (KV 6 Z (bi c6) (KW ai 12 Z ?_));cases h;exact TL.nil (K0 [0,0])
  replace c6:=NF c6;refine KR ai aK 0 Z 4 Z Z (KV 6 Z (bF c6) (KR ai aK 0 Z 2 Z Z (TL.q Z (.g Z Z Z) (LD Z NK) Z ?_)));rcases jF h with⟨c7,h⟩ | ⟨c7,h⟩
  ·refine KW ai 3 Z (KV 12 Z (NB c7) (KR ai aK 0 Z 2 Z Z (TL.q Z (.g Z Z Z) (LD Z NK) Z (KW ai 3 Z ?_))));rcases jF h with⟨c8,h⟩ | ⟨c8,h⟩
   ·cases h;exact TL.nil (LH (d:=2) (v':= .bool true) Z (congrArg Value.bool (NB c8)) (K0 [0,0]))
   cases h;exact TL.nil (LH (d:=2) (v':= .bool false) Z (congrArg Value.bool (NC c8)) (K0 [0,0]))
  refine KW ai 3 Z (KV 12 Z (NC c7) (KW ai 6 Z ?_));cases h;exact TL.nil (K0 [0,0])
 rintro _ _ ⟨rfl,rfl⟩;clear h;have h:=hk5;clear hk5;obtain rfl:=Nz h;exact X.seq (T.ret (KY [1] Tryz.results107 (KQ Z)))
def lf (a0:bJ):Option (Bool):=(if a0.MO>=0 then (if a0.MR>=0 then (if a0.MR<=32767 then some true else some false) else some false) else some false).bind fun y6=>some y6
theorem ng (a0:bJ) (A1:Option Addr) (c2:Nat) (r:Bool) (h:lf a0=some r):aG Tryz.prog 108 #[.agg (wA8 a0 A1 c2)] (RX.of (aq 2 bh) [.slice A1 a0.MN.length c2] a0.MN) (aL) (fun v A' N=>v= .bool r/\A'=aL/\N = []):=by
 refine aU Tryz.func108 Z Tryz.ntmps108 Z ?_;intro F w hX;unfold lf at h;refine KN Z (TL.box Z .u Z Z (fun b3=>(KX ai Z (T.seq ?_))));obtain⟨y6,h,hk7⟩:=Ny h;refine LE (fun e Rs=>e = [(2,.bool y6)]/\Rs = [aV b3 47 (wA8 a0 A1 c2),aL]) ?_ ?_
 ·clear hk7;refine T.region Z ?_;rcases jF h with⟨c8,h⟩ | ⟨c8,h⟩
  ·refine KR ai aK 0 Z 4 Z Z (KV 6 Z (NB c8) ?_);rcases jF h with⟨c9,h⟩ | ⟨c9,h⟩
   ·refine KR ai aK 0 Z 5 Z Z (KV 11 Z (NB c9) (KR ai aK 0 Z 5 Z Z ?_));rcases jF h with⟨c10,h⟩ | ⟨c10,h⟩
    ·cases h;exact TL.nil (LH (d:=2) (v':= .bool true) Z (congrArg Value.bool (NB c10)) (K0 [0,0]))
    cases h;exact TL.nil (LH (d:=2) (v':= .bool false) Z (congrArg Value.bool (NC c10)) (K0 [0,0]))
   refine KR ai aK 0 Z 5 Z Z (KV 11 Z (NC c9) (KW ai 5 Z ?_));cases h;exact TL.nil (K0 [0,0])
  refine KR ai aK 0 Z 4 Z Z (KV 6 Z (NC c8) (KW ai 10 Z ?_));cases h;exact TL.nil (K0 [0,0])
 rintro _ _ ⟨rfl,rfl⟩;clear h;have h:=hk7;clear hk7;obtain rfl:=Nz h;exact X.seq (T.ret (KY [1] Tryz.results108 (KQ Z)))
def ki (a0:Int) (a1:Int) (a2:bJ):Option (Int):=if a0=22 then ((if a2.MU.null=true then (if a2.MU.data = [] then some false else some true) else ((kh a2.MU).bind fun x13=>if x13=true then some false else some true)).bind fun y9=>if y9=true then some 4 else ((if a2.MT<0 then some true else (if a2.MT>2147483647 then some true else some false)).bind fun y18=>if y18=true then some 11 else ((if a2.MO=(-1) then (if a2.MR=(-1) then some true else (if a1=1 then ((lf a2).bind fun x36=>some x36) else some false)) else (if a1=1 then ((lf a2).bind fun x39=>some x39) else some false)).bind fun y31=>if y31=true then some 0 else some 11))) else ((kh a2.MU).bind fun x42=>if x42=true then ((lf a2).bind fun x45=>if x45=true then ((if a0=24 then (if (a2.MN.length:Int)=0 then some true else some false) else some false).bind fun y49=>if y49=true then some 10 else ((if a0=24 then ((ig a2.MN).bind fun x60=>if x60=true then some false else some true) else some false).bind fun y57=>if y57=true then some 13 else some 0)) else some 11) else some 4)
theorem vb (a0:Int) (a1:Int) (a2:bJ) (A1:Option Addr) (c2:Nat) (r:Int) (h:ki a0 a1 a2=some r):aG Tryz.prog 56 #[jI a0,jI a1,.agg (wA8 a2 A1 c2)] (RX.of (aq 2 bh) [.slice A1 a2.MN.length c2] a2.MN) (aL) (fun v A' N=>v=jI r/\A'=aL/\N = []):=by
 refine aU Tryz.func56 Z Tryz.ntmps56 Z ?_;intro F w hX;unfold ki at h;refine KN Z (TL.box Z .u Z Z (fun b3=>(KX ai Z (T.seq (KN Z (KM ai 2 Z ?_))))));rcases jF h with⟨c4,h⟩ | ⟨c4,h⟩
 ·refine Lr Z c4 (K8 (L0 ?_));obtain⟨y9,h,hk10⟩:=Ny h;refine LE (fun e Rs=>e = [(1,jI a1),(5,jP b3),(6,jI 0),(52,.bool y9)]/\Rs = [aV b3 47 (wA8 a2 A1 c2),aL]) ?_ ?_
  ·clear hk10;refine T.region Z ?_;rcases jF h with⟨c11,h⟩ | ⟨c11,h⟩
   ·refine KR ai aK 0 Z 4 Z Z (KV 35 Z c11 (KR ai aK 0 Z 3 Z Z (TL.q Z (.g Z Z Z) (MD Z (m := []) Z) Z ?_)));rcases jF h with⟨c12,h⟩ | ⟨c12,h⟩
    ·refine KW ai 2 Z (KV 41 Z (bi (NB c12)) (KR ai aK 0 Z 5 Z Z (KV 46 Z (bi c11) (KW ai 6 Z ?_))));cases h;exact TL.nil (K0 [0,0])
    refine KW ai 2 Z (KV 41 Z (bF (NC c12)) (KW ai 11 Z ?_));cases h;exact TL.nil (K0 [0,0])
   replace c11:=NF c11;refine KR ai aK 0 Z 4 Z Z (KV 35 Z c11 (KR ai aK 0 Z 11 Z Z (KV 46 Z (bF c11) (KW ai 1 Z (TL.q Z (.g Z Z Z) (K9 (us:=wL6 a2.MU) 0 Z Oa NM Z Z Z) Z ?_)))));obtain⟨x13,hx14,h⟩:=Ny h;refine Lb Z (.g Z Z Z) (.fn Tryz.call107 Z) (oU a2.MU _ hx14) rT Z (KW ai 3 Z ?_);rcases jF h with⟨c15,h⟩ | ⟨c15,h⟩
   ·cases h;exact TL.nil (LH (d:=52) (v':= .bool false) Z (congrArg Value.bool (bi c15)) (K0 [0,0]))
   replace c15:=NF c15;cases h;exact TL.nil (LH (d:=52) (v':= .bool true) Z (congrArg Value.bool (bF c15)) (K0 [0,0]))
  rintro _ _ ⟨rfl,rfl⟩;clear h;have h:=hk10;clear hk10;try dsimp only at h
  rcases jF h with⟨c16,h⟩ | ⟨c16,h⟩
  ·refine X.seq (K1 Z c16 (KN Z (KM ai 1 Z ?_)));obtain rfl:=Nz h;exact KP (T.ret (KT (KY [1] Ps (KQ Z))))
  replace c16:=NF c16;refine X.seq (Li Z c16 (K8 (L0 ?_)));obtain⟨y18,h,hk19⟩:=Ny h;refine LE (fun e Rs=>e = [(1,jI a1),(5,jP b3),(6,jI 0),(60,.bool y18)]/\Rs = [aV b3 47 (wA8 a2 A1 c2),aL]) ?_ ?_
  ·clear hk19;refine T.region Z ?_;rcases jF h with⟨c20,h⟩ | ⟨c20,h⟩
   ·refine KR ai aK 0 Z 4 Z Z (KV 56 Z (NB c20) (KW ai 4 Z ?_));cases h;exact TL.nil (K0 [0,0])
   refine KR ai aK 0 Z 4 Z Z (KV 56 Z (NC c20) (KR ai aK 0 Z 4 Z Z ?_));rcases jF h with⟨c21,h⟩ | ⟨c21,h⟩
   ·cases h;exact TL.nil (LH (d:=60) (v':= .bool true) Z (congrArg Value.bool (NB c21)) (K0 [0,0]))
   cases h;exact TL.nil (LH (d:=60) (v':= .bool false) Z (congrArg Value.bool (NC c21)) (K0 [0,0]))
  rintro _ _ ⟨rfl,rfl⟩;clear h;have h:=hk19;clear hk19;try dsimp only at h
  rcases jF h with⟨c22,h⟩ | ⟨c22,h⟩
  ·refine X.seq (K1 Z c22 (KN Z (KM ai 1 Z ?_)));obtain rfl:=Nz h;exact KP (T.ret (KT (KY [1] Ps (KQ Z))))
  replace c22:=NF c22;refine X.seq (Li Z c22 (K8 (L0 ?_)));obtain⟨y31,h,hk32⟩:=Ny h;refine LE (fun e Rs=>e = [(6,jI 0),(76,.bool y31)]/\Rs = [aV b3 47 (wA8 a2 A1 c2),aL]) ?_ ?_
  ·clear hk32;refine T.region Z ?_;rcases jF h with⟨c33,h⟩ | ⟨c33,h⟩
   ·refine KR ai aK 0 Z 4 Z Z (KV 64 Z (NB c33) ?_);rcases jF h with⟨c34,h⟩ | ⟨c34,h⟩
    ·refine KR ai aK 0 Z 5 Z Z (KV 69 Z (NB c34) (KW ai 7 Z ?_));cases h;exact TL.nil (K0 [0,0])
    refine KR ai aK 0 Z 5 Z Z (KV 69 Z (NC c34) ?_);rcases jF h with⟨c35,h⟩ | ⟨c35,h⟩
    ·refine KW ai 3 Z (KV 72 Z (NB c35) (TL.q Z (.g Z Z Z) (K9 (us:=wL9 a2 A1 c2) 0 Z PX O8 Z Z Z) Z ?_));obtain⟨x36,hx37,h⟩:=Ny h;refine Lb Z (.g Z Z Z) (.fn Tryz.call108 Z) (ng a2 _ _ _ hx37) (fun _ hs=>(K7 hs hX)) Z (KW ai 2 Z ?_);cases h;exact TL.nil (K0 [0,0])
    refine KW ai 3 Z (KV 72 Z (NC c35) (KW ai 4 Z ?_));cases h;exact TL.nil (K0 [0,0])
   refine KR ai aK 0 Z 4 Z Z (KV 64 Z (NC c33) ?_);rcases jF h with⟨c38,h⟩ | ⟨c38,h⟩
   ·refine KW ai 8 Z (KV 72 Z (NB c38) (TL.q Z (.g Z Z Z) (K9 (us:=wL9 a2 A1 c2) 0 Z PX O8 Z Z Z) Z ?_));obtain⟨x39,hx40,h⟩:=Ny h;refine Lb Z (.g Z Z Z) (.fn Tryz.call108 Z) (ng a2 _ _ _ hx40) (fun _ hs=>(K7 hs hX)) Z (KW ai 2 Z ?_);cases h;exact TL.nil (K0 [0,0])
   refine KW ai 8 Z (KV 72 Z (NC c38) (KW ai 4 Z ?_));cases h;exact TL.nil (K0 [0,0])
  rintro _ _ ⟨rfl,rfl⟩;clear h;have h:=hk32;clear hk32;try dsimp only at h
  rcases jF h with⟨c41,h⟩ | ⟨c41,h⟩
  ·refine X.seq (K1 Z c41 (KN Z (KM ai 1 Z ?_)));obtain rfl:=Nz h;exact KP (T.ret (KT (KY [1] Ps (KQ Z))))
  replace c41:=NF c41;refine X.seq (Li Z c41 (Lk Z (KM ai 1 Z ?_)));obtain rfl:=Nz h;exact KP (T.ret (KY [1] Ps (KQ Z)))
 refine Lq Z c4 (T.seq (KN Z (KM ai 1 Z (KO Z (K9 (us:=wL6 a2.MU) 0 Z Oa NM Z Z Z) Z ?_))));obtain⟨x42,hx43,h⟩:=Ny h;refine Lb Z .u (.fn Tryz.call107 Z) (oU a2.MU _ hx43) rT Z (KM ai 1 Z ?_);rcases jF h with⟨c44,h⟩ | ⟨c44,h⟩
 ·refine KP (Li Z (bi c44) (K8 (T.seq (KN Z (KO Z (K9 (us:=wL9 a2 A1 c2) 0 Z PX O8 Z Z Z) Z ?_)))));obtain⟨x45,hx46,h⟩:=Ny h;refine Lb Z .u (.fn Tryz.call108 Z) (ng a2 _ _ _ hx46) (fun _ hs=>(K7 hs hX)) Z (KM ai 1 Z ?_);rcases jF h with⟨c47,h⟩ | ⟨c47,h⟩
  ·refine KP (Li Z (bi c47) (K8 (L0 ?_)));obtain⟨y49,h,hk50⟩:=Ny h;refine LE (fun e Rs=>e = [(0,jI a0),(1,jI a1),(5,jP b3),(6,jI 0),(23,.bool y49)]/\Rs = [aV b3 47 (wA8 a2 A1 c2),aL]) ?_ ?_
   ·clear hk50;refine T.region Z ?_;rcases jF h with⟨c51,h⟩ | ⟨c51,h⟩
    ·refine KM ai 3 Z (KV 18 Z (NB c51) (KR ai aK 0 Z 2 Z Z (TL.q Z (.g Z Z Z) (K4 Z NQ) Z (KW ai 2 Z ?_))));rcases jF h with⟨c52,h⟩ | ⟨c52,h⟩
     ·cases h;exact TL.nil (LH (d:=23) (v':= .bool true) Z (congrArg Value.bool (NB c52)) (K0 [0,0]))
     cases h;exact TL.nil (LH (d:=23) (v':= .bool false) Z (congrArg Value.bool (NC c52)) (K0 [0,0]))
    refine KM ai 3 Z (KV 18 Z (NC c51) (KW ai 5 Z ?_));cases h;exact TL.nil (K0 [0,0])
   rintro _ _ ⟨rfl,rfl⟩;clear h;have h:=hk50;clear hk50;try dsimp only at h
   rcases jF h with⟨c53,h⟩ | ⟨c53,h⟩
   ·refine X.seq (K1 Z c53 (KN Z (KM ai 1 Z ?_)));obtain rfl:=Nz h;exact KP (T.ret (KT (KT (KY [1] Ps (KQ Z)))))
   replace c53:=NF c53;refine X.seq (Li Z c53 (K8 (L0 ?_)));obtain⟨y57,h,hk58⟩:=Ny h;refine LE (fun e Rs=>e = [(1,jI a1),(5,jP b3),(6,jI 0),(31,.bool y57)]/\Rs = [aV b3 47 (wA8 a2 A1 c2),aL]) ?_ ?_
   ·clear hk58;refine T.region Z ?_;rcases jF h with⟨c59,h⟩ | ⟨c59,h⟩
    ·refine KM ai 3 Z (KV 26 Z (NB c59) ?_);obtain⟨x60,hx61,h⟩:=Ny h;refine KR ai aK 0 Z 2 Z Z (Lb Z (.g Z Z Z) (.fn Tryz.call109 Z) (mb a2.MN _ _ _ hx61) (fun _ hs=>(K7 hs hX)) Z (KW ai 2 Z ?_));rcases jF h with⟨c62,h⟩ | ⟨c62,h⟩
     ·cases h;exact TL.nil (LH (d:=31) (v':= .bool false) Z (congrArg Value.bool (bi c62)) (K0 [0,0]))
     replace c62:=NF c62;cases h;exact TL.nil (LH (d:=31) (v':= .bool true) Z (congrArg Value.bool (bF c62)) (K0 [0,0]))
    refine KM ai 3 Z (KV 26 Z (NC c59) (KW ai 5 Z ?_));cases h;exact TL.nil (K0 [0,0])
   rintro _ _ ⟨rfl,rfl⟩;clear h;have h:=hk58;clear hk58;try dsimp only at h
   rcases jF h with⟨c63,h⟩ | ⟨c63,h⟩
   ·refine X.seq (K1 Z c63 (KN Z (KM ai 1 Z ?_)));obtain rfl:=Nz h;exact KP (T.ret (KT (KT (KY [1] Ps (KQ Z)))))
   replace c63:=NF c63;refine X.seq (Li Z c63 (Lk Z (KM ai 1 Z ?_)));obtain rfl:=Nz h;exact KP (T.ret (KT (KY [1] Ps (KQ Z))))
  replace c47:=NF c47;refine KP (K1 Z (bF c47) (KN Z (KM ai 1 Z ?_)));obtain rfl:=Nz h;exact KP (T.ret (KT (KT (KY [1] Ps (KQ Z)))))
 replace c44:=NF c44;refine KP (K1 Z (bF c44) (KN Z (KM ai 1 Z ?_)));obtain rfl:=Nz h;exact KP (T.ret (KT (KT (KY [1] Ps (KQ Z)))))
def iZ (a0:Int) (a1:Int) (a2:bJ):Option (List UInt8):=(jK a2.MU 2).bind fun x4=>if a0=22 then ((cP a2.MT 4).bind fun x7=>if x4.length+x7.length<=9223372036854775807 then (if a1=0 then some (x4++x7) else ((cP a2.MO 8).bind fun x11=>if (x4++x7).length+x11.length<=9223372036854775807 then ((cP a2.MR 2).bind fun x14=>if ((x4++x7)++x11).length+x14.length<=9223372036854775807 then (some (((x4++x7)++x11)++x14)) else none) else none)) else none) else ((cP a2.MO 8).bind fun x19=>if x4.length+x19.length<=9223372036854775807 then ((cP a2.MR 2).bind fun x22=>if (x4++x19).length+x22.length<=9223372036854775807 then (if a0=24 then ((jo a2.MN).bind fun x26=>if ((x4++x19)++x22).length+x26.length<=9223372036854775807 then (some (((x4++x19)++x22)++x26)) else none) else ((if a0=26 then some a2.M7 else some false).bind fun y30=>if y30=true then ((cP 1 1).bind fun x34=>if ((x4++x19)++x22).length+x34.length<=9223372036854775807 then (some (((x4++x19)++x22)++x34)) else none) else (if a0=26 then ((cP 0 1).bind fun x38=>if ((x4++x19)++x22).length+x38.length<=9223372036854775807 then (some (((x4++x19)++x22)++x38)) else none) else (some ((x4++x19)++x22))))) else none) else none)
theorem vc (a0:Int) (a1:Int) (a2:bJ) (A1:Option Addr) (c2:Nat) (r:List UInt8) (h:iZ a0 a1 a2=some r):aG Tryz.prog 62 #[jI a0,jI a1,.agg (wA8 a2 A1 c2)] (RX.of (aq 2 bh) [.slice A1 a2.MN.length c2] a2.MN) (aL) (fun v A' N=>v=jS r/\A'=aL/\N = []):=by
 refine aU Tryz.func62 Z Tryz.ntmps62 Z ?_;intro F w hX;unfold iZ at h;refine KN Z (TL.box Z .u Z Z (fun b3=>(Le ai Z Z (KM ai 1 Z (KO Z (K9 (us:=wL6 a2.MU) 0 Z Oa NM Z Z Z) Z ?_)))));obtain⟨x4,hx5,h⟩:=Ny h;refine Lb Z .u (.fn Tryz.call110 Z) (iC a2.MU 2 _ hx5) rT Z (KX ai Z (T.seq (KN Z (KM ai 2 Z ?_))));rcases jF h with⟨c6,h⟩ | ⟨c6,h⟩
 ·refine Lh Z c6 (KN Z ?_);obtain⟨x7,hx8,h⟩:=Ny h;refine KR ai aK 0 Z 3 Z Z (Lb Z .u (.fn Tryz.call63 Z) (bB a2.MT 4 _ hx8) rT Z ?_);obtain⟨c9,h⟩:=al h;refine KO Z (Ln Z Z c9) Z (Le ai Z Z (KM ai 2 Z ?_));rcases jF h with⟨c10,h⟩ | ⟨c10,h⟩
  ·refine Lh Z c10 (KN Z (KM ai 2 Z ?_));obtain rfl:=Nz h;exact KP (T.ret (KT (KY [1] PY (KQ Z))))
  refine Lg Z c10 ?_;refine K8 (T.seq (Ls (.q 0 (.q 1 (.q 2 (.q 5 (.q 6 (.e 3 (.q 4 (.e 7 (.q 8 (.q 9 .nil)))))))))) [0,0] Z nW (NoP.seq bq) QU ?_));refine TD.run ai [0,1] Z Z (KU Z (Lc 0 Z NH Z Z) Z (TD.run ai [5] Z Z (KU Z (Lc 0 Z NH Z Z) Z ?_)));obtain⟨x11,hx12,h⟩:=Ny h;refine LF Z .u (.fn Tryz.call63 Z) (bB a2.MO 8 _ hx12) rT Z [0,0] (Z) ?_;obtain⟨c13,h⟩:=al h;refine KU Z (Ln Z Z c13) Z ?_;obtain⟨x14,hx15,h⟩:=Ny h;refine LF Z .u (.fn Tryz.call63 Z) (bB a2.MR 2 _ hx15) rT Z [0,0] (Z) ?_;obtain⟨c16,h⟩:=al h;refine KU Z (Ln Z Z c16) Z (TD.run ai [9] Z Z (LK (T.seq (KN Z (KM ai 2 Z ?_)))));have c17: ¬ (a0=24):=by have hq:=c6; omega
  refine Lg Z c17 (K8 (T.seq (KN Z ?_)));have c18: ¬ (a0=26):=by have hq:=c6; omega
  refine KM ai 3 Z (KV 39 Z (NC c18) (Lz ai Z (Li Z Z (K8 (T.seq (KN Z (KX ai Z ?_)))))));refine L3 Z c18 (Lk Z (KM ai 2 Z ?_));obtain rfl:=Nz h;exact KP (T.ret (KY [1] PY (KQ Z)))
 refine Lg Z c6 ?_;refine K8 (T.seq (Ls (.q 0 (.q 1 (.q 2 (.q 5 (.q 6 (.e 3 (.q 4 (.e 7 (.q 8 (.q 9 .nil)))))))))) [0,0] Z nW (NoP.seq bq) QU ?_));refine TD.run ai [0,1] Z Z (KU Z (Lc 0 Z NH Z Z) Z (TD.run ai [5] Z Z (KU Z (Lc 0 Z NH Z Z) Z ?_)));obtain⟨x19,hx20,h⟩:=Ny h;refine LF Z .u (.fn Tryz.call63 Z) (bB a2.MO 8 _ hx20) rT Z [0,0] (Z) ?_;obtain⟨c21,h⟩:=al h;refine KU Z (Ln Z Z c21) Z ?_;obtain⟨x22,hx23,h⟩:=Ny h;refine LF Z .u (.fn Tryz.call63 Z) (bB a2.MR 2 _ hx23) rT Z [0,0] (Z) ?_;obtain⟨c24,h⟩:=al h;refine KU Z (Ln Z Z c24) Z (TD.run ai [9] Z Z (LK (T.seq (KN Z (KM ai 2 Z ?_)))));rcases jF h with⟨c25,h⟩ | ⟨c25,h⟩
 ·refine Lh Z c25 (KN Z ?_);obtain⟨x26,hx27,h⟩:=Ny h;refine KR ai aK 0 Z 3 Z Z (Lb Z .u (.fn Tryz.call112 Z) (nV a2.MN _ _ _ hx27) (fun _ hs=>(K7 hs hX)) Z ?_);obtain⟨c28,h⟩:=al h;refine KO Z (Ln Z Z c28) Z (KM ai 1 Z ?_);obtain rfl:=Nz h;exact KP (T.ret (KT (KY [1] PY (KQ Z))))
 refine Lg Z c25 (K8 (L0 ?_));obtain⟨y30,h,hk31⟩:=Ny h;refine LE (fun e Rs=>e = [(0,jI a0),(6,.string ⟨#[]⟩),(7,.string (ba ((x4++x19)++x22))),(42,.bool y30)]/\Rs = [aV b3 47 (wA8 a2 A1 c2),aL]) ?_ ?_
 ·clear hk31;refine T.region Z ?_;rcases jF h with⟨c32,h⟩ | ⟨c32,h⟩
  ·refine KM ai 3 Z (KV 39 Z (NB c32) (KR ai aK 0 Z 3 Z Z ?_));cases h;exact TL.nil (K0 [0,0])
  refine KM ai 3 Z (KV 39 Z (NC c32) (KW ai 3 Z ?_));cases h;exact TL.nil (K0 [0,0])
 rintro _ _ ⟨rfl,rfl⟩;clear h;have h:=hk31;clear hk31;try dsimp only at h
 rcases jF h with⟨c33,h⟩ | ⟨c33,h⟩
 ·refine X.seq (K1 Z c33 (KN Z ?_));obtain⟨x34,hx35,h⟩:=Ny h;refine KM ai 1 Z (Lb Z .u (.fn Tryz.call63 Z) (bB 1 1 _ hx35) rT Z ?_);obtain⟨c36,h⟩:=al h;refine KO Z (Ln Z Z c36) Z (KM ai 1 Z ?_);obtain rfl:=Nz h;exact KP (T.ret (KT (KY [1] PY (KQ Z))))
 replace c33:=NF c33;refine X.seq (Li Z c33 (K8 (T.seq (KN Z (KM ai 2 Z ?_)))));rcases jF h with⟨c37,h⟩ | ⟨c37,h⟩
 ·refine Lh Z c37 (KN Z ?_);obtain⟨x38,hx39,h⟩:=Ny h;refine KM ai 1 Z (Lb Z .u (.fn Tryz.call63 Z) (bB 0 1 _ hx39) rT Z ?_);obtain⟨c40,h⟩:=al h;refine KO Z (Ln Z Z c40) Z (KM ai 1 Z ?_);obtain rfl:=Nz h;exact KP (T.ret (KT (KY [1] PY (KQ Z))))
 refine Lg Z c37 (Lk Z (KM ai 2 Z ?_));obtain rfl:=Nz h;exact KP (T.ret (KY [1] PY (KQ Z)))
def lg (a0:bJ) (a1:bJ):Option (Bool):=(if a0.MU.null=a1.MU.null then (if a0.MU.data=a1.MU.data then (if a0.MT=a1.MT then (if a0.MO=a1.MO then (if a0.MR=a1.MR then (if a0.M7=true then (if a1.M7=true then ((da a0.MN a1.MN).bind fun x28=>some x28) else some false) else (if a1.M7=true then some false else ((da a0.MN a1.MN).bind fun x31=>some x31))) else some false) else some false) else some false) else some false) else some false).bind fun y19=>some y19
theorem ww (a0:bJ) (A1:Option Addr) (c2:Nat) (a1:bJ) (A3:Option Addr) (c4:Nat) (r:Bool) (h:lg a0 a1=some r):aG Tryz.prog 64 #[.agg (wA8 a0 A1 c2),.agg (wA8 a1 A3 c4)] (RX.and (RX.of (aq 2 bh) [.slice A1 a0.MN.length c2] a0.MN) (RX.of (aq 2 bh) [.slice A3 a1.MN.length c4] a1.MN)) (aL) (fun v A' N=>v= .bool r/\A'=aL/\N = []):=by
 refine aU Tryz.func64 Z Tryz.ntmps64 Z ?_;intro F w hX;unfold lg at h;refine KN Z (TL.box Z .u Z Z (fun b5=>(TL.box Z .u Z Z (fun b6=>(KX ai Z (T.seq ?_))))));obtain⟨y19,h,hk20⟩:=Ny h;refine LE (fun e Rs=>e = [(4,.bool y19)]/\Rs = [aV b6 47 (wA8 a1 A3 c4),aV b5 47 (wA8 a0 A1 c2),aL]) ?_ ?_
 ·clear hk20;refine T.region Z (KM ai 1 Z (KO Z (K9 (us:=wL6 a0.MU) 1 Z Oa NM Z Z Z) Z (KM ai 1 Z (KO Z (K9 (us:=wL6 a1.MU) 0 Z Oa NM Z Z Z) Z ?_))));rcases jF h with⟨c21,h⟩ | ⟨c21,h⟩
  ·rcases jF h with⟨c22,h⟩ | ⟨c22,h⟩
   ·refine KO Z (Mf (us:=wL6 a0.MU) (vs:=wL6 a1.MU) iI Z OQ Z Z Z Z (fq (pM c21) (fq (tf (l:=a0.MU.data) (m:=a1.MU.data) c22) Z))) Z (KR ai aK 1 Z 4 Z Z ?_);rcases jF h with⟨c23,h⟩ | ⟨c23,h⟩
    ·refine KR ai aK 0 Z 4 Z Z (KV 17 Z (NB c23) (KR ai aK 1 Z 3 Z Z ?_));rcases jF h with⟨c24,h⟩ | ⟨c24,h⟩
     ·refine KR ai aK 0 Z 4 Z Z (KV 24 Z (NB c24) (KR ai aK 1 Z 3 Z Z ?_));rcases jF h with⟨c25,h⟩ | ⟨c25,h⟩
      ·refine KR ai aK 0 Z 4 Z Z (KV 31 Z (NB c25) (KR ai aK 1 Z 3 Z Z ?_));rcases jF h with⟨c26,h⟩ | ⟨c26,h⟩
       ·rcases jF h with⟨c27,h⟩ | ⟨c27,h⟩
        ·refine KR ai aK 0 Z 1 Z Z (TL.q Z (.g Z Z Z) (Ex.bEq Z c26 Z c27 N8) Z (KR ai aK 1 Z 5 Z Z ?_));obtain⟨x28,hx29,h⟩:=Ny h;refine KR ai aK 0 Z 1 Z Z (Lb Z (.g Z Z Z) (.fn Tryz.call113 Z) (fT a0.MN _ _ a1.MN _ _ _ hx29) (fun _ hs=>(RX.reads_and (K7 hs (Lx hX)) (K7 hs (Lf hX)))) Z (KW ai 2 Z ?_));cases h;exact TL.nil (K0 [0,0,0])
        replace c27:=NF c27;refine KR ai aK 0 Z 1 Z Z (TL.q Z (.g Z Z Z) (Ex.bEq Z c26 Z c27 N8) Z (KW ai 9 Z ?_));cases h;exact TL.nil (K0 [0,0,0])
       replace c26:=NF c26;rcases jF h with⟨c30,h⟩ | ⟨c30,h⟩
       ·refine KR ai aK 0 Z 1 Z Z (TL.q Z (.g Z Z Z) (Ex.bEq Z c26 Z c30 N8) Z (KW ai 9 Z ?_));cases h;exact TL.nil (K0 [0,0,0])
       replace c30:=NF c30;refine KR ai aK 0 Z 1 Z Z (TL.q Z (.g Z Z Z) (Ex.bEq Z c26 Z c30 N8) Z (KR ai aK 1 Z 5 Z Z ?_));obtain⟨x31,hx32,h⟩:=Ny h;refine KR ai aK 0 Z 1 Z Z (Lb Z (.g Z Z Z) (.fn Tryz.call113 Z) (fT a0.MN _ _ a1.MN _ _ _ hx32) (fun _ hs=>(RX.reads_and (K7 hs (Lx hX)) (K7 hs (Lf hX)))) Z (KW ai 2 Z ?_));cases h;exact TL.nil (K0 [0,0,0])
      refine KR ai aK 0 Z 4 Z Z (KV 31 Z (NC c25) (KW ai 14 Z ?_));cases h;exact TL.nil (K0 [0,0,0])
     refine KR ai aK 0 Z 4 Z Z (KV 24 Z (NC c24) (KW ai 21 Z ?_));cases h;exact TL.nil (K0 [0,0,0])
    refine KR ai aK 0 Z 4 Z Z (KV 17 Z (NC c23) (KW ai 28 Z ?_));cases h;exact TL.nil (K0 [0,0,0])
   refine KO Z (Mf (us:=wL6 a0.MU) (vs:=wL6 a1.MU) iI Z OQ Z Z Z Z (fq (pM c21) (mo (sv (l:=a0.MU.data) (m:=a1.MU.data) c22)))) Z (KW ai 36 Z ?_);cases h;exact TL.nil (K0 [0,0,0])
  refine KO Z (Mf (us:=wL6 a0.MU) (vs:=wL6 a1.MU) iI Z OQ Z Z Z Z (mo (ul c21))) Z (KW ai 36 Z ?_);cases h;exact TL.nil (K0 [0,0,0])
 rintro _ _ ⟨rfl,rfl⟩;clear h;have h:=hk20;clear hk20;obtain rfl:=Nz h;exact X.seq (T.ret (KY [2] Tryz.results64 (KQ Z)))
def vd:eO := [(195,0,0),(195,1,1),(195,2,2),(195,3,3),(195,4,4)]
theorem aj:(vd).OK Tryz.prog:=⟨FOK.mk PF rfl NG rfl,FOK.mk PF rfl NG rfl,FOK.mk PF rfl Oe rfl,FOK.mk PF rfl Py rfl,FOK.mk PF rfl NG rfl,trivial⟩
def ve:List Nat := [3,28]
theorem bO:NOK Tryz.prog ve:=⟨NH,O7,trivial⟩
theorem nX:Tryz.prog.follows .mixedOrders=true:=by kernel_rfl
def oV (a0:di) (a1:Int):Option (Int):=(if a0.MO<0 then some true else (if a0.MR<0 then some true else (if a0.MR>32767 then some true else (if a0.M0<0 then some true else (if a0.M0>2147483647 then some true else (if a1=0 then (if a0.M0=0 then some false else some true) else some false)))))).bind fun y10=>if y10=true then some 11 else (if (a0.MN.length:Int)=0 then some 10 else ((ig a0.MN).bind fun x21=>if x21=true then some 0 else some 13))
theorem xA (a0:di) (A1:Option Addr) (c2:Nat) (a1:Int) (r:Int) (h:oV a0 a1=some r):aG Tryz.prog 106 #[.agg #[jI a0.MO,jI a0.MR,.bool a0.M7,.slice A1 a0.MN.length c2,jI a0.M0],jI a1] (RX.of (aq 2 bh) [.slice A1 a0.MN.length c2] a0.MN) (aL) (fun v A' N=>v=jI r/\A'=aL/\N = []):=by
 refine aU Tryz.func106 Z Tryz.ntmps106 Z ?_;intro F w hX;unfold oV at h;refine KN Z (TL.box Z .u Z Z (fun b3=>(KX aj Z (L0 ?_))));obtain⟨y10,h,hk11⟩:=Ny h;refine LE (fun e Rs=>e = [(2,jP b3),(4,jI 0),(36,.bool y10)]/\Rs = [aV b3 195 #[jI a0.MO,jI a0.MR,.bool a0.M7,.slice A1 a0.MN.length c2,jI a0.M0],aL]) ?_ ?_
 ·clear hk11;refine T.region Z ?_;rcases jF h with⟨c12,h⟩ | ⟨c12,h⟩
  ·refine KR aj bO 0 Z 4 Z Z (KV 8 Z (NB c12) (KW aj 28 Z ?_));cases h;exact TL.nil (K0 [0,0])
  refine KR aj bO 0 Z 4 Z Z (KV 8 Z (NC c12) ?_);rcases jF h with⟨c13,h⟩ | ⟨c13,h⟩
  ·refine KR aj bO 0 Z 5 Z Z (KV 13 Z (NB c13) (KW aj 23 Z ?_));cases h;exact TL.nil (K0 [0,0])
  refine KR aj bO 0 Z 5 Z Z (KV 13 Z (NC c13) ?_);rcases jF h with⟨c14,h⟩ | ⟨c14,h⟩
  ·refine KR aj bO 0 Z 5 Z Z (KV 18 Z (NB c14) (KW aj 18 Z ?_));cases h;exact TL.nil (K0 [0,0])
  refine KR aj bO 0 Z 5 Z Z (KV 18 Z (NC c14) ?_);rcases jF h with⟨c15,h⟩ | ⟨c15,h⟩
  ·refine KR aj bO 0 Z 5 Z Z (KV 23 Z (NB c15) (KW aj 13 Z ?_));cases h;exact TL.nil (K0 [0,0])
  refine KR aj bO 0 Z 5 Z Z (KV 23 Z (NC c15) ?_);rcases jF h with⟨c16,h⟩ | ⟨c16,h⟩
  ·refine KR aj bO 0 Z 5 Z Z (KV 28 Z (NB c16) (KW aj 8 Z ?_));cases h;exact TL.nil (K0 [0,0])
  refine KR aj bO 0 Z 5 Z Z (KV 28 Z (NC c16) ?_);rcases jF h with⟨c17,h⟩ | ⟨c17,h⟩
  ·refine KW aj 3 Z (KV 31 Z (NB c17) (KR aj bO 0 Z 5 Z Z ?_));rcases jF h with⟨c18,h⟩ | ⟨c18,h⟩
   ·cases h;exact TL.nil (LH (d:=36) (v':= .bool false) Z (congrArg Value.bool (bi (NB c18))) (K0 [0,0]))
   cases h;exact TL.nil (LH (d:=36) (v':= .bool true) Z (congrArg Value.bool (bF (NC c18))) (K0 [0,0]))
  refine KW aj 3 Z (KV 31 Z (NC c17) (KW aj 5 Z ?_));cases h;exact TL.nil (K0 [0,0])
 rintro _ _ ⟨rfl,rfl⟩;clear h;have h:=hk11;clear hk11;try dsimp only at h
 rcases jF h with⟨c19,h⟩ | ⟨c19,h⟩
 ·refine X.seq (K1 Z c19 (KN Z (KM aj 1 Z ?_)));obtain rfl:=Nz h;exact KP (T.ret (KT (KY [1] QB (KQ Z))))
 replace c19:=NF c19;refine X.seq (Li Z c19 (K8 (T.seq (KN Z (KR aj bO 0 Z 2 Z Z (KO Z (K4 Z NQ) Z (KM aj 1 Z ?_)))))));rcases jF h with⟨c20,h⟩ | ⟨c20,h⟩
 ·refine Lh Z c20 (KN Z (KM aj 1 Z ?_));obtain rfl:=Nz h;exact KP (T.ret (KT (KY [1] QB (KQ Z))))
 refine Lg Z c20 (K8 (T.seq (KN Z ?_)));obtain⟨x21,hx22,h⟩:=Ny h;refine KR aj bO 0 Z 2 Z Z (Lb Z .u (.fn Tryz.call109 Z) (mb a0.MN _ _ _ hx22) (fun _ hs=>(K7 hs hX)) Z (KM aj 1 Z ?_));rcases jF h with⟨c23,h⟩ | ⟨c23,h⟩
 ·refine KP (Li Z (bi c23) (Lk Z (KM aj 1 Z ?_)));obtain rfl:=Nz h;exact KP (T.ret (KY [1] QB (KQ Z)))
 replace c23:=NF c23;refine KP (K1 Z (bF c23) (KN Z (KM aj 1 Z ?_)));obtain rfl:=Nz h;exact KP (T.ret (KT (KY [1] QB (KQ Z))))
def e9 (a0:List di) (a1:Int):Nat->Int->Nat->Option (Lp Int (Int×Nat))
 | 0,_,_=>none
 | m9+1,y4,k5=>if (k5:Int)<(a0.length:Int) then ((a0[k5]?).bind fun x14=>(oV x14 a1).bind fun x20=>if x20=0 then (if -9223372036854775808<=((k5:Int)+1)/\((k5:Int)+1)<=9223372036854775807 then (e9 a0 a1 m9 y4 (k5+1)) else none) else some (Lp.ret x20)) else (some (Lp.go (y4,k5)))
def kj (a0:List di) (a1:Int):Option (Int):=if (a0.length:Int)=0 then some 10 else ((e9 a0 a1 (((a0.length:Int)).toNat+1) 0 0).bind fun e=>match e with | .ret r=>some r | .go (y24,k25)=>some 0)
theorem vf (a0:List di) (A1:Option Addr) (c2:Nat) (a1:Int) (r:Int) (h:kj a0 a1=some r):aG Tryz.prog 55 #[.slice A1 a0.length c2,jI a1] (RX.of (aq 5 co) [.slice A1 a0.length c2] a0) (aL) (fun v A' N=>v=jI r/\A'=aL/\N = []):=by
 refine aU Tryz.func55 Z Tryz.ntmps55 Z ?_;intro F w hX;unfold kj at h;refine KN Z (KX aj Z (T.seq (KN Z (KM aj 1 Z (KO Z (K4 Z N1) Z (KM aj 1 Z ?_))))));rcases jF h with⟨c3,h⟩ | ⟨c3,h⟩
 ·refine Lh Z c3 (KN Z (KM aj 1 Z ?_));obtain rfl:=Nz h;exact KP (T.ret (KT (KY [0] Tryz.results55 (KQ Z))))
 refine Lg Z c3 (K8 (T.seq (KN Z (KX aj Z (T.block ?_)))));obtain⟨E6,hE7,hO8⟩:=Ny h;refine LB (fun m e Rs=> ∃ (y4:Int) (k5:Nat),e = [(0,.slice A1 a0.length c2),(1,jI a1),(4,jI y4),(5,jI (k5:Int))]/\Rs = [aL]/\e9 a0 a1 m y4 k5=some E6) (((a0.length:Int)).toNat+1) [0] ⟨0,0,Z,Z,by exact hE7⟩ QW QW ?_;clear hE7 h;rintro m9 _ _ ⟨y4,k5,rfl,rfl,h⟩
 cases m9 with
 | zero =>
  rw[e9] at h;cases h
 | succ m9 =>
  rw[e9] at h;refine T.seq (KN Z (KM aj 2 Z (KO Z (K4 Z N1) Z (KM aj 1 Z ?_))));rcases jF h with⟨c13,h⟩ | ⟨c13,h⟩
  ·refine Lh Z c13 (K8 (T.seq (T.block (KN Z ?_))));obtain⟨x14,hx15,h⟩:=Ny h;obtain⟨gz16,oz16,rfl,z16cs,z16cl,z16cc,z16nf,z16r⟩:=Lm QS hX hx15;obtain⟨z16S,z16r,z16rr⟩:=z16r;obtain⟨A17,c18,rfl,z16s0⟩:=z16r;have hX19:(RX.of (aq 2 bh) [.slice A17 x14.MN.length c18] x14.MN).reads w F:=⟨z16S,z16s0,z16rr⟩;refine KM aj 2 Z ?_;refine KO Z (K6 (k:=k5) Z Z Z N1 Ou (ND hx15).1) Z ?_;refine KO Z (LM (us := [jI x14.MO,jI x14.MR,.bool x14.M7,.slice A17 x14.MN.length c18,jI x14.M0]) 0 Z Tryz.isAgg195 Ou z16nf z16cc Z Z Z) Z ?_;obtain⟨x20,hx21,h⟩:=Ny h;refine KM aj 1 Z (Lb Z .u (.fn Tryz.call106 Z) (xA x14 _ _ a1 _ hx21) (fun _ hs=>(K7 hs hX19)) Z (Le aj Z Z (KM aj 2 Z ?_)));rcases jF h with⟨c22,h⟩ | ⟨c22,h⟩
   ·refine Lr Z c22 (T.skip (La (X.seq (T.region Z ?_))));obtain⟨c23,h⟩:=al h;exact KM aj 1 Z (KO Z (Ex.add Z Z c23) Z (KM aj 1 Z (TL.nil (X.back (m':=m9) [0] QR ⟨y4,k5+1,Z,Z,h⟩ QW QW))))
   refine Lq Z c22 (KN Z (KM aj 2 Z ?_));obtain rfl:=Nz h;obtain rfl:=Nz hO8;exact KP (T.ret (K2 (KT (KT (K2 (KT (KY [0] Tryz.results55 (KQ Z))))))))
  refine Lg Z c13 ?_;obtain rfl:=Nz h;replace h:=hO8;clear hO8;refine T.exit (K5 (K5 (Ly (X.seq (KN Z (KM aj 1 Z ?_))))));obtain rfl:=Nz h;exact KP (T.ret (KY [0] Tryz.results55 (KQ Z)))
def fa (a0:List di) (a1:Int):Nat->List UInt8->Nat->Option (List UInt8×Nat)
 | 0,_,_=>none
 | m10+1,y5,k6=>if (k6:Int)<(a0.length:Int) then ((a0[k6]?).bind fun x15=>(if x15.M7=true then ((some 1:Option (Int))) else ((some 0:Option (Int)))).bind fun y22=>(cP x15.MO 8).bind fun x25=>if y5.length+x25.length<=9223372036854775807 then ((cP x15.MR 2).bind fun x28=>if (y5++x25).length+x28.length<=9223372036854775807 then ((cP y22 1).bind fun x31=>if ((y5++x25)++x28).length+x31.length<=9223372036854775807 then ((jo x15.MN).bind fun x34=>if (((y5++x25)++x28)++x31).length+x34.length<=9223372036854775807 then ((if a1=1 then ((cP x15.M0 4).bind fun x44=>if ((((y5++x25)++x28)++x31)++x34).length+x44.length<=9223372036854775807 then (some (((((y5++x25)++x28)++x31)++x34)++x44)) else none) else (some ((((y5++x25)++x28)++x31)++x34))).bind fun y41=>if -9223372036854775808<=((k6:Int)+1)/\((k6:Int)+1)<=9223372036854775807 then (fa a0 a1 m10 y41 (k6+1)) else none) else none) else none) else none) else none) else some (y5,k6)
def jb (a0:List di) (a1:Int):Option (List UInt8):=(cP (a0.length:Int) 4).bind fun x3=>(fa a0 a1 (((a0.length:Int)).toNat+1) x3 0).bind fun (y48,k49)=>some y48
theorem vg (a0:List di) (A1:Option Addr) (c2:Nat) (a1:Int) (r:List UInt8) (h:jb a0 a1=some r):aG Tryz.prog 61 #[.slice A1 a0.length c2,jI a1] (RX.of (aq 5 co) [.slice A1 a0.length c2] a0) (aL) (fun v A' N=>v=jS r/\A'=aL/\N = []):=by
 refine aU Tryz.func61 Z Tryz.ntmps61 Z ?_;intro F w hX;unfold jb at h;refine KN Z (Le aj Z Z (KM aj 1 Z (KO Z (K4 Z N1) Z ?_)));obtain⟨x3,hx4,h⟩:=Ny h;refine Lb Z .u (.fn Tryz.call63 Z) (bB (a0.length:Int) 4 _ hx4) rT Z (KX aj Z (T.seq (KN Z (KX aj Z (T.block ?_)))));obtain⟨E7,hE8,hO9⟩:=Ny h;refine LB (fun m e Rs=> ∃ (y5:List UInt8) (k6:Nat),e = [(0,.slice A1 a0.length c2),(1,jI a1),(4,.string ⟨#[]⟩),(5,jS y5),(6,jI (k6:Int))]/\Rs = [aL]/\fa a0 a1 m y5 k6=some E7) (((a0.length:Int)).toNat+1) [0] ⟨x3,0,Z,Z,by exact hE8⟩ QW QW ?_;clear hE8 h;rintro m10 _ _ ⟨y5,k6,rfl,rfl,h⟩
 cases m10 with
 | zero =>
  rw[fa] at h;cases h
 | succ m10 =>
  rw[fa] at h;refine T.seq (KN Z (KM aj 2 Z (KO Z (K4 Z N1) Z (KM aj 1 Z ?_))));rcases jF h with⟨c14,h⟩ | ⟨c14,h⟩
  ·refine Lh Z c14 (K8 (T.seq (T.block (KN Z (KX aj Z (T.seq (KN Z ?_)))))));obtain⟨x15,hx16,h⟩:=Ny h;obtain⟨gz17,oz17,rfl,z17cs,z17cl,z17cc,z17nf,z17r⟩:=Lm QS hX hx16;obtain⟨z17S,z17r,z17rr⟩:=z17r;obtain⟨A18,c19,rfl,z17s0⟩:=z17r;have hX20:(RX.of (aq 2 bh) [.slice A18 x15.MN.length c19] x15.MN).reads w F:=⟨z17S,z17s0,z17rr⟩;refine KM aj 2 Z ?_;refine KO Z (K6 (k:=k6) Z Z Z N1 Ou (ND hx16).1) Z ?_;refine KM aj 1 Z (KO Z (Lw 2 Z Oz z17nf z17cc Z Z) Z (KP ?_));obtain⟨y22,h,hk23⟩:=Ny h;refine LE (fun e Rs=>e = [(0,.slice (some ⟨gz17,oz17,none⟩) a0.length c2),(1,jI a1),(4,.string ⟨#[]⟩),(5,jS y5),(6,jI (k6:Int)),(7,jI y22)]/\Rs = [aL]) ?_ ?_
   ·clear hk23;rcases jF h with⟨c24,h⟩ | ⟨c24,h⟩
    ·refine K1 Z c24 (T.region Z (KM aj 1 Z ?_));cases h;exact TL.nil (K0 [0])
    replace c24:=NF c24;refine Li Z c24 ?_;cases h;exact T.skip (K0 [0])
   rintro _ _ ⟨rfl,rfl⟩;clear h;have h:=hk23;clear hk23;refine X.seq (T.seq (Ls (.q 0 (.q 1 (.q 2 (.q 3 (.q 4 (.q 5 (.q 8 (.q 9 (.q 10 (.q 11 (.q 12 (.q 15 (.q 18 (.q 19 (.q 20 (.q 21 (.q 22 (.e 6 (.q 7 (.e 13 (.q 14 (.e 16 (.q 17 (.e 23 (.q 24 (.q 25 .nil)))))))))))))))))))))))))) [0] Z nX (NoP.seq (NoP.blk (NoP.seq (NoP.seq (NoP.blk (NoP.seq bq)))))) QU ?_));refine TD.run aj [0,1,2] Z Z ?_;refine KU Z (K6 (k:=k6) Z Z Z N1 Ou (ND hx16).1) Z ?_;refine TD.run aj [4] Z Z (KU Z (Lw 0 Z NH z17nf z17cc Z Z) Z (TD.run aj [8,9] Z Z ?_));refine KU Z (K6 (k:=k6) Z Z Z N1 Ou (ND hx16).1) Z ?_;refine TD.run aj [11] Z Z (KU Z (Lw 1 Z NH z17nf z17cc Z Z) Z (TD.run aj [15,18,19] Z Z ?_));refine KU Z (K6 (k:=k6) Z Z Z N1 Ou (ND hx16).1) Z ?_;refine TD.run aj [21] Z Z (KU Z (Lw 3 Z O7 z17nf z17cc Z Z) Z ?_);obtain⟨x25,hx26,h⟩:=Ny h;refine LF Z .u (.fn Tryz.call63 Z) (bB x15.MO 8 _ hx26) rT Z [0] (Z) ?_;obtain⟨c27,h⟩:=al h;refine KU Z (Ln Z Z c27) Z ?_;obtain⟨x28,hx29,h⟩:=Ny h;refine LF Z .u (.fn Tryz.call63 Z) (bB x15.MR 2 _ hx29) rT Z [0] (Z) ?_;obtain⟨c30,h⟩:=al h;refine KU Z (Ln Z Z c30) Z ?_;obtain⟨x31,hx32,h⟩:=Ny h;refine LF Z .u (.fn Tryz.call63 Z) (bB y22 1 _ hx32) rT Z [0] (Z) ?_;obtain⟨c33,h⟩:=al h;refine KU Z (Ln Z Z c33) Z ?_;obtain⟨x34,hx35,h⟩:=Ny h;refine LF Z .u (.fn Tryz.call112 Z) (nV x15.MN _ _ _ hx35) (fun _ hs=>(K7 hs hX20)) Z [0] (Z) ?_;obtain⟨c36,h⟩:=al h;refine KU Z (Ln Z Z c36) Z (TD.run aj [25] Z Z (LK (KN Z (KX aj Z ?_))));obtain⟨y41,h,hk42⟩:=Ny h;refine LE (fun e Rs=>e = [(0,.slice (some ⟨gz17,oz17,none⟩) a0.length c2),(1,jI a1),(4,.string ⟨#[]⟩),(5,jS y41),(6,jI (k6:Int))]/\Rs = [aL]) ?_ ?_
   ·clear hk42;rcases jF h with⟨c43,h⟩ | ⟨c43,h⟩
    ·refine L2 Z c43 (T.region Z (KM aj 3 Z ?_));refine KO Z (K6 (k:=k6) Z Z Z N1 Ou (ND hx16).1) Z ?_;refine KM aj 1 Z (KO Z (Lw 4 Z NH z17nf z17cc Z Z) Z ?_);obtain⟨x44,hx45,h⟩:=Ny h;refine Lb Z .u (.fn Tryz.call63 Z) (bB x15.M0 4 _ hx45) rT Z ?_;obtain⟨c46,h⟩:=al h;refine KO Z (Ln Z Z c46) Z (KM aj 1 Z ?_);cases h;exact TL.nil (K0 [0])
    refine L3 Z c43 ?_;cases h;exact T.skip (K0 [0])
   rintro _ _ ⟨rfl,rfl⟩;clear h;have h:=hk42;clear hk42;refine La (X.seq (T.region Z ?_));obtain⟨c47,h⟩:=al h;exact KM aj 1 Z (KO Z (Ex.add Z Z c47) Z (KM aj 1 Z (TL.nil (X.back (m':=m10) [0] QR ⟨y41,k6+1,Z,Z,h⟩ QW QW))))
  refine Lg Z c14 ?_;obtain rfl:=Nz h;replace h:=hO9;clear hO9;refine T.exit (K5 (K5 (Ly (X.seq (KN Z (KM aj 2 Z ?_))))));obtain rfl:=Nz h;exact KP (T.ret (KY [0] Tryz.results61 (KQ Z)))
def fG (a0:List di) (a1:List di):Nat->Bool->Nat->Option (Lp Bool (Bool×Nat))
 | 0,_,_=>none
 | m11+1,y6,k7=>if (k7:Int)<(a0.length:Int) then (((a0[k7]?).bind fun x41=>(a1[k7]?).bind fun x47=>if x41.MO=x47.MO then (if x41.MR=x47.MR then (if x41.M7=true then (if x47.M7=true then (if x41.M0=x47.M0 then ((da x41.MN x47.MN).bind fun x58=>if x58=true then some false else some true) else some true) else some true) else (if x47.M7=true then some true else (if x41.M0=x47.M0 then ((da x41.MN x47.MN).bind fun x63=>if x63=true then some false else some true) else some true))) else some true) else some true).bind fun y39=>if y39=true then some (Lp.ret false) else (if -9223372036854775808<=((k7:Int)+1)/\((k7:Int)+1)<=9223372036854775807 then (fG a0 a1 m11 y6 (k7+1)) else none)) else (some (Lp.go (y6,k7)))
def jW (a0:List di) (a1:List di):Option (Bool):=if (a0.length:Int)=(a1.length:Int) then ((fG a0 a1 (((a0.length:Int)).toNat+1) false 0).bind fun e=>match e with | .ret r=>some r | .go (y68,k69)=>some true) else some false
theorem wx (a0:List di) (A1:Option Addr) (c2:Nat) (a1:List di) (A3:Option Addr) (c4:Nat) (r:Bool) (h:jW a0 a1=some r):aG Tryz.prog 65 #[.slice A1 a0.length c2,.slice A3 a1.length c4] (RX.and (RX.of (aq 5 co) [.slice A1 a0.length c2] a0) (RX.of (aq 5 co) [.slice A3 a1.length c4] a1)) (aL) (fun v A' N=>v= .bool r/\A'=aL/\N = []):=by
 refine aU Tryz.func65 Z Tryz.ntmps65 Z ?_;intro F w hX;unfold jW at h;refine KN Z (KX aj Z (T.seq (KN Z (KM aj 1 Z (KO Z (K4 Z N1) Z (KM aj 1 Z (KO Z (K4 Z N1) Z (KM aj 1 Z ?_))))))));rcases jF h with⟨c5,h⟩ | ⟨c5,h⟩
 ·refine Lr Z c5 (K8 (T.seq (KN Z (KX aj Z (T.block ?_)))));obtain⟨E8,hE9,hO10⟩:=Ny h;refine LB (fun m e Rs=> ∃ (y6:Bool) (k7:Nat),e = [(0,.slice A1 a0.length c2),(1,.slice A3 a1.length c4),(4,.bool y6),(5,jI (k7:Int))]/\Rs = [aL]/\fG a0 a1 m y6 k7=some E8) (((a0.length:Int)).toNat+1) [0] ⟨false,0,Z,Z,by exact hE9⟩ QW QW ?_;clear hE9 h;rintro m11 _ _ ⟨y6,k7,rfl,rfl,h⟩
  cases m11 with
  | zero =>
   rw[fG] at h;cases h
  | succ m11 =>
   rw[fG] at h;refine T.seq (KN Z (KM aj 2 Z (KO Z (K4 Z N1) Z (KM aj 1 Z ?_))));rcases jF h with⟨c15,h⟩ | ⟨c15,h⟩
   ·refine Lh Z c15 (K8 (T.seq (T.block (T.seq ?_))));obtain⟨y39,h,hk40⟩:=Ny h;refine LE (fun e Rs=>e = [(0,.slice A1 a0.length c2),(1,.slice A3 a1.length c4),(4,.bool y6),(5,jI (k7:Int)),(80,.bool y39)]/\Rs = [aL]) ?_ ?_
    ·clear hk40;refine Ls (.q 0 (.q 1 (.q 2 (.q 3 (.q 4 (.q 5 (.q 6 (.q 7 (.q 8 (.q 9 (.q 10 (.q 11 (.q 12 (.q 13 (.q 14 (.q 15 (.q 16 (.q 17 (.q 18 (.q 19 (.q 20 (.q 21 (.q 22 (.q 23 (.q 24 (.q 25 (.q 26 (.q 27 (.q 28 (.q 29 (.q 30 (.q 31 (.q 32 (.q 33 (.q 34 (.q 35 (.q 36 (.q 37 (.q 38 (.q 39 (.q 40 (.q 41 (.q 42 (.q 43 (.q 44 (.q 45 (.q 46 (.q 47 (.q 48 (.q 49 (.q 50 (.q 51 (.q 52 (.q 53 (.q 54 (.q 55 (.q 56 (.q 57 (.q 58 (.q 59 (.q 60 (.e 61 (.q 62 (.q 63 .nil)))))))))))))))))))))))))))))))))))))))))))))))))))))))))))))))) [0] Z nX (NoP.seq (NoP.seq (NoP.blk (NoP.seq (NoP.seq (NoP.blk (NoP.seq bq))))))) QU ?_;obtain⟨x41,hx42,h⟩:=Ny h;obtain⟨gz43,oz43,rfl,z43cs,z43cl,z43cc,z43nf,z43r⟩:=Lm QS (Lx hX) hx42;obtain⟨z43S,z43r,z43rr⟩:=z43r;obtain⟨A44,c45,rfl,z43s0⟩:=z43r;have hX46:(RX.of (aq 2 bh) [.slice A44 x41.MN.length c45] x41.MN).reads w F:=⟨z43S,z43s0,z43rr⟩;refine TD.run aj [0,1] Z Z ?_;refine KU Z (K6 (k:=k7) Z Z Z N1 Ou (ND hx42).1) Z ?_;refine TD.run aj [3] Z Z (KU Z (Lw 0 Z NH z43nf z43cc Z Z) Z ?_);obtain⟨x47,hx48,h⟩:=Ny h;obtain⟨gz49,oz49,rfl,z49cs,z49cl,z49cc,z49nf,z49r⟩:=Lm QS (Lf hX) hx48;obtain⟨z49S,z49r,z49rr⟩:=z49r;obtain⟨A50,c51,rfl,z49s0⟩:=z49r;have hX52:(RX.of (aq 2 bh) [.slice A50 x47.MN.length c51] x47.MN).reads w F:=⟨z49S,z49s0,z49rr⟩;refine TD.run aj [5,6] Z Z ?_;refine KU Z (K6 (k:=k7) Z Z Z N1 Ou (ND hx48).1) Z ?_;refine TD.run aj [8] Z Z (KU Z (Lw 0 Z NH z49nf z49cc Z Z) Z ?_);rcases jF h with⟨c53,h⟩ | ⟨c53,h⟩
     ·refine TD.run aj [10,11] Z Z ?_;iterate 2 refine TD.q Z (.g Z Z (bi (NB c53))) (LC aj Z) Z ?_
      refine TD.q Z (.g Z Z (bi (NB c53))) (K6 (k:=k7) Z Z Z N1 Ou (ND hx42).1) Z ?_;refine TD.q Z (.g Z Z (bi (NB c53))) (LC aj Z) Z (TD.q Z (.g Z Z (bi (NB c53))) (Lw 1 Z NH z43nf z43cc Z Z) Z ?_);iterate 2 refine TD.q Z (.g Z Z (bi (NB c53))) (LC aj Z) Z ?_
      refine TD.q Z (.g Z Z (bi (NB c53))) (K6 (k:=k7) Z Z Z N1 Ou (ND hx48).1) Z ?_;refine TD.q Z (.g Z Z (bi (NB c53))) (LC aj Z) Z (TD.q Z (.g Z Z (bi (NB c53))) (Lw 1 Z NH z49nf z49cc Z Z) Z (TD.q Z (.g Z Z (bi (NB c53))) (LC aj Z) Z (KU Z (LU Z (bi (NB c53)) Z) Z ?_)));rcases jF h with⟨c54,h⟩ | ⟨c54,h⟩
      ·refine TD.run aj [24] Z Z ?_;iterate 2 refine TD.q Z (.g Z Z (bi (NB c54))) (LC aj Z) Z ?_
       refine TD.q Z (.g Z Z (bi (NB c54))) (K6 (k:=k7) Z Z Z N1 Ou (ND hx42).1) Z ?_;refine TD.q Z (.g Z Z (bi (NB c54))) (LC aj Z) Z (TD.q Z (.g Z Z (bi (NB c54))) (Lw 2 Z Oz z43nf z43cc Z Z) Z ?_);iterate 2 refine TD.q Z (.g Z Z (bi (NB c54))) (LC aj Z) Z ?_
       refine TD.q Z (.g Z Z (bi (NB c54))) (K6 (k:=k7) Z Z Z N1 Ou (ND hx48).1) Z ?_;refine TD.q Z (.g Z Z (bi (NB c54))) (LC aj Z) Z (TD.q Z (.g Z Z (bi (NB c54))) (Lw 2 Z Oz z49nf z49cc Z Z) Z ?_);rcases jF h with⟨c55,h⟩ | ⟨c55,h⟩
       ·rcases jF h with⟨c56,h⟩ | ⟨c56,h⟩
        ·refine TD.q Z (.g Z Z (bi (NB c54))) (L5 Z c55 Z c56 N8) Z (KU Z (LU Z (bi (NB c54)) Z) Z (TD.run aj [37] Z Z ?_));iterate 2 refine TD.q Z (.g Z Z Z) (LC aj Z) Z ?_
         refine TD.q Z (.g Z Z Z) (K6 (k:=k7) Z Z Z N1 Ou (ND hx42).1) Z ?_;refine TD.q Z (.g Z Z Z) (LC aj Z) Z (TD.q Z (.g Z Z Z) (Lw 4 Z NH z43nf z43cc Z Z) Z ?_);iterate 2 refine TD.q Z (.g Z Z Z) (LC aj Z) Z ?_
         refine TD.q Z (.g Z Z Z) (K6 (k:=k7) Z Z Z N1 Ou (ND hx48).1) Z ?_;refine TD.q Z (.g Z Z Z) (LC aj Z) Z (TD.q Z (.g Z Z Z) (Lw 4 Z NH z49nf z49cc Z Z) Z (TD.q Z (.g Z Z Z) (LC aj Z) Z (KU Z (LU Z Z Z) Z ?_)));rcases jF h with⟨c57,h⟩ | ⟨c57,h⟩
         ·refine TD.run aj [50] Z Z ?_;iterate 2 refine TD.q Z (.g Z Z (bi (NB c57))) (LC aj Z) Z ?_
          refine TD.q Z (.g Z Z (bi (NB c57))) (K6 (k:=k7) Z Z Z N1 Ou (ND hx42).1) Z ?_;refine TD.q Z (.g Z Z (bi (NB c57))) (LC aj Z) Z (TD.q Z (.g Z Z (bi (NB c57))) (Lw 3 Z O7 z43nf z43cc Z Z) Z ?_);iterate 2 refine TD.q Z (.g Z Z (bi (NB c57))) (LC aj Z) Z ?_
          refine TD.q Z (.g Z Z (bi (NB c57))) (K6 (k:=k7) Z Z Z N1 Ou (ND hx48).1) Z ?_;refine TD.q Z (.g Z Z (bi (NB c57))) (LC aj Z) Z (TD.q Z (.g Z Z (bi (NB c57))) (Lw 3 Z O7 z49nf z49cc Z Z) Z ?_);obtain⟨x58,hx59,h⟩:=Ny h;refine LF Z (.g Z Z (bi (NB c57))) (.fn Tryz.call113 Z) (fT x41.MN _ _ x47.MN _ _ _ hx59) (fun _ hs=>(RX.reads_and (K7 hs hX46) (K7 hs hX52))) Z [0] (Z) (TD.q Z (.g Z Z (bi (NB c57))) (LC aj Z) Z (KU Z (LU Z (bi (NB c57)) Z) Z ?_));rcases jF h with⟨c60,h⟩ | ⟨c60,h⟩
          ·cases h;exact TD.nil (LH (d:=80) (v':= .bool false) Z (congrArg Value.bool (bi c60)) (K0 [0]))
          replace c60:=NF c60;cases h;exact TD.nil (LH (d:=80) (v':= .bool true) Z (congrArg Value.bool (bF c60)) (K0 [0]))
         refine TD.run aj [50] Z Z ?_;iterate 10 refine LO Z (.gn Z Z (bF (NC c57))) Z ?_
         refine Mo Z (.gn Z Z (bF (NC c57))) Z [0] Z (LO Z (.gn Z Z (bF (NC c57))) Z (KU Z (LX Z (bF (NC c57)) Z) Z ?_));cases h;exact TD.nil (K0 [0])
        replace c56:=NF c56;refine TD.q Z (.g Z Z (bi (NB c54))) (L5 Z c55 Z c56 N8) Z (KU Z (LU Z (bi (NB c54)) Z) Z (TD.run aj [37] Z Z ?_));iterate 11 refine LO Z (.gn Z Z Z) Z ?_
        refine KU Z (LX Z Z Z) Z (TD.run aj [50] Z Z ?_);iterate 10 refine LO Z (.gn Z Z Z) Z ?_
        refine Mo Z (.gn Z Z Z) Z [0] Z (LO Z (.gn Z Z Z) Z (KU Z (LX Z Z Z) Z ?_));cases h;exact TD.nil (K0 [0])
       replace c55:=NF c55;rcases jF h with⟨c61,h⟩ | ⟨c61,h⟩
       ·refine TD.q Z (.g Z Z (bi (NB c54))) (L5 Z c55 Z c61 N8) Z (KU Z (LU Z (bi (NB c54)) Z) Z (TD.run aj [37] Z Z ?_));iterate 11 refine LO Z (.gn Z Z Z) Z ?_
        refine KU Z (LX Z Z Z) Z (TD.run aj [50] Z Z ?_);iterate 10 refine LO Z (.gn Z Z Z) Z ?_
        refine Mo Z (.gn Z Z Z) Z [0] Z (LO Z (.gn Z Z Z) Z (KU Z (LX Z Z Z) Z ?_));cases h;exact TD.nil (K0 [0])
       replace c61:=NF c61;refine TD.q Z (.g Z Z (bi (NB c54))) (L5 Z c55 Z c61 N8) Z (KU Z (LU Z (bi (NB c54)) Z) Z (TD.run aj [37] Z Z ?_));iterate 2 refine TD.q Z (.g Z Z Z) (LC aj Z) Z ?_
       refine TD.q Z (.g Z Z Z) (K6 (k:=k7) Z Z Z N1 Ou (ND hx42).1) Z ?_;refine TD.q Z (.g Z Z Z) (LC aj Z) Z (TD.q Z (.g Z Z Z) (Lw 4 Z NH z43nf z43cc Z Z) Z ?_);iterate 2 refine TD.q Z (.g Z Z Z) (LC aj Z) Z ?_
       refine TD.q Z (.g Z Z Z) (K6 (k:=k7) Z Z Z N1 Ou (ND hx48).1) Z ?_;refine TD.q Z (.g Z Z Z) (LC aj Z) Z (TD.q Z (.g Z Z Z) (Lw 4 Z NH z49nf z49cc Z Z) Z (TD.q Z (.g Z Z Z) (LC aj Z) Z (KU Z (LU Z Z Z) Z ?_)));rcases jF h with⟨c62,h⟩ | ⟨c62,h⟩
       ·refine TD.run aj [50] Z Z ?_;iterate 2 refine TD.q Z (.g Z Z (bi (NB c62))) (LC aj Z) Z ?_
        refine TD.q Z (.g Z Z (bi (NB c62))) (K6 (k:=k7) Z Z Z N1 Ou (ND hx42).1) Z ?_;refine TD.q Z (.g Z Z (bi (NB c62))) (LC aj Z) Z (TD.q Z (.g Z Z (bi (NB c62))) (Lw 3 Z O7 z43nf z43cc Z Z) Z ?_);iterate 2 refine TD.q Z (.g Z Z (bi (NB c62))) (LC aj Z) Z ?_
        refine TD.q Z (.g Z Z (bi (NB c62))) (K6 (k:=k7) Z Z Z N1 Ou (ND hx48).1) Z ?_;refine TD.q Z (.g Z Z (bi (NB c62))) (LC aj Z) Z (TD.q Z (.g Z Z (bi (NB c62))) (Lw 3 Z O7 z49nf z49cc Z Z) Z ?_);obtain⟨x63,hx64,h⟩:=Ny h;refine LF Z (.g Z Z (bi (NB c62))) (.fn Tryz.call113 Z) (fT x41.MN _ _ x47.MN _ _ _ hx64) (fun _ hs=>(RX.reads_and (K7 hs hX46) (K7 hs hX52))) Z [0] (Z) (TD.q Z (.g Z Z (bi (NB c62))) (LC aj Z) Z (KU Z (LU Z (bi (NB c62)) Z) Z ?_));rcases jF h with⟨c65,h⟩ | ⟨c65,h⟩
        ·cases h;exact TD.nil (LH (d:=80) (v':= .bool false) Z (congrArg Value.bool (bi c65)) (K0 [0]))
        replace c65:=NF c65;cases h;exact TD.nil (LH (d:=80) (v':= .bool true) Z (congrArg Value.bool (bF c65)) (K0 [0]))
       refine TD.run aj [50] Z Z ?_;iterate 10 refine LO Z (.gn Z Z (bF (NC c62))) Z ?_
       refine Mo Z (.gn Z Z (bF (NC c62))) Z [0] Z (LO Z (.gn Z Z (bF (NC c62))) Z (KU Z (LX Z (bF (NC c62)) Z) Z ?_));cases h;exact TD.nil (K0 [0])
      refine TD.run aj [24] Z Z ?_;iterate 11 refine LO Z (.gn Z Z (bF (NC c54))) Z ?_
      refine KU Z (LX Z (bF (NC c54)) Z) Z (TD.run aj [37] Z Z ?_);iterate 11 refine LO Z (.gn Z Z Z) Z ?_
      refine KU Z (LX Z Z Z) Z (TD.run aj [50] Z Z ?_);iterate 10 refine LO Z (.gn Z Z Z) Z ?_
      refine Mo Z (.gn Z Z Z) Z [0] Z (LO Z (.gn Z Z Z) Z (KU Z (LX Z Z Z) Z ?_));cases h;exact TD.nil (K0 [0])
     refine TD.run aj [10,11] Z Z ?_;iterate 11 refine LO Z (.gn Z Z (bF (NC c53))) Z ?_
     refine KU Z (LX Z (bF (NC c53)) Z) Z (TD.run aj [24] Z Z ?_);iterate 11 refine LO Z (.gn Z Z Z) Z ?_
     refine KU Z (LX Z Z Z) Z (TD.run aj [37] Z Z ?_);iterate 11 refine LO Z (.gn Z Z Z) Z ?_
     refine KU Z (LX Z Z Z) Z (TD.run aj [50] Z Z ?_);iterate 10 refine LO Z (.gn Z Z Z) Z ?_
     refine Mo Z (.gn Z Z Z) Z [0] Z (LO Z (.gn Z Z Z) Z (KU Z (LX Z Z Z) Z ?_));cases h;exact TD.nil (K0 [0])
    rintro _ _ ⟨rfl,rfl⟩;clear h;have h:=hk40;clear hk40;try dsimp only at h
    rcases jF h with⟨c66,h⟩ | ⟨c66,h⟩
    ·refine X.seq (K1 Z c66 (KN Z (KM aj 1 Z ?_)));obtain rfl:=Nz h;obtain rfl:=Nz hO10;exact KP (T.ret (K2 (KT (KT (K2 (KT (KY [0] Tryz.results65 (KQ Z))))))))
    replace c66:=NF c66;refine X.seq (Li Z c66 (T.skip (La (X.seq (T.region Z ?_)))));obtain⟨c67,h⟩:=al h;exact KM aj 1 Z (KO Z (Ex.add Z Z c67) Z (KM aj 1 Z (TL.nil (X.back (m':=m11) [0] QR ⟨y6,k7+1,Z,Z,h⟩ QW QW))))
   refine Lg Z c15 ?_;obtain rfl:=Nz h;replace h:=hO10;clear hO10;refine T.exit (K5 (K5 (Ly (X.seq (KN Z (KM aj 1 Z ?_))))));obtain rfl:=Nz h;exact KP (T.ret (KY [0] Tryz.results65 (KQ Z)))
 refine Lq Z c5 (KN Z (KM aj 1 Z ?_));obtain rfl:=Nz h;exact KP (T.ret (KT (KY [0] Tryz.results65 (KQ Z))))
end Go.Proofs.YtheikonlgjdopaaGreat.Sl
