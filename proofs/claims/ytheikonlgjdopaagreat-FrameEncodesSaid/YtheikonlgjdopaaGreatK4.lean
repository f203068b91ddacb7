/- frameEncodes_holds: part 4. -/
import Derived.Test.YtheikonlgjdopaaGreatK3
set_option maxRecDepth 100000
set_option maxHeartbeats 4000000
set_option linter.defProp false
namespace Go.Proofs.YtheikonlgjdopaaGreat.Sl
open Go.RowKit
set_option linter.unusedVariables false
set_option linter.unusedSimpArgs false
def OL := @Tryz.results103
def O0 := @Tryz.sizeOf47
def Pf := @Tryz.runUnderlying47
def Pk := @Tryz.results56
def Po := @Tryz.runUnderlying45
def Pt := @Tryz.results53
def Pz := @Tryz.runUnderlying195
def PR := @Tryz.results54
def PS := @Tryz.isAgg47
def PT := @Tryz.results62
def P4 := @Tryz.results105
def Ql := @Tryz.runUnderlying268
def Qr := @Tryz.results104
def Qs := @Tryz.results106
def QC := @Tryz.results66
def uy:fg := [(23,0,0),(23,1,1),(51,0,0),(51,1,2),(51,2,3),(51,3,4),(97,3,3),(97,4,4),(171,1,1),(191,0,0),(191,1,1),(193,0,0),(193,1,1),(212,0,0),(212,1,2),(212,2,3),(268,0,0),(268,1,12),(268,2,13)]
theorem ab:(uy).OK Tryz.prog:=⟨FOK.mk NS rfl N5 rfl,FOK.mk NS rfl NZ rfl,FOK.mk Pc rfl ND rfl,FOK.mk Pc rfl Ny rfl,FOK.mk Pc rfl Ny rfl,FOK.mk Pc rfl Tryz.sizeOf49 rfl,FOK.mk NQ rfl N5 rfl,FOK.mk NQ rfl N5 rfl,FOK.mk OQ rfl Pp rfl,FOK.mk PP rfl NZ rfl,FOK.mk PP rfl Tryz.sizeOf189 rfl,FOK.mk Tryz.runUnderlying193 rfl Ny rfl,FOK.mk Tryz.runUnderlying193 rfl PO rfl,FOK.mk N9 rfl ND rfl,FOK.mk N9 rfl Ny rfl,FOK.mk N9 rfl Ny rfl,FOK.mk Ql rfl NJ rfl,FOK.mk Ql rfl Ny rfl,FOK.mk Ql rfl Ny rfl,trivial⟩
def uz:List Nat := [3,4,9,49,177,189]
theorem aL:NOK Tryz.prog uz:=⟨Nz,Ok,N4,Tryz.isAgg49,O9,Pa,trivial⟩
theorem gw:Tryz.prog.follows .mixedOrders=true:=by kernel_rfl
theorem lV:BOK Tryz.prog 23 #[.bool false,.string ⟨#[]⟩] [(0,1),(1,1)]:=BOK.mk Tryz.zeroValue23 NS (by intro w; simp)
theorem pU:BOK Tryz.prog 171 #[.string ⟨#[]⟩,.slice none 0 0] [(0,1),(1,1)]:=BOK.mk Tryz.zeroValue171 OQ (by intro w; simp)
theorem pu:SOK Tryz.prog 28 171 0 2 #[]:=SOK.mk0 NH NV
theorem pv:SOK Tryz.prog 28 171 1 2 #[.string ⟨#[]⟩,.slice none 0 0]:=SOK.mk NH NV Tryz.zeroValue171 QH QI
theorem kG:SOK Tryz.prog 74 3 1 1 #[.int .i64 0]:=SOK.mk NF Ny Tryz.zeroValue3 QH QI
theorem mw:(Tryz.prog.info? 3).map (fun i=>(i.zero,i.size,i.bytes))=some (some (.int .i64 0),1,8):=by kernel_rfl
theorem pV:(Tryz.prog.info? 171).map (fun i=>(i.zero,i.size,i.bytes))=some (some (.agg #[.string ⟨#[]⟩,.slice none 0 0]),2,40):=by kernel_rfl
theorem iR:fu Tryz.prog 2 23 [.bool,.string] true:=(fu.struct N0 ND rfl Tryz.underlying23 Tryz.stoodInHeld23 ⟨by decide,rfl,[.bool],[.string],false,rfl,(LK Ok N5 Tryz.underlying4),⟨by decide,rfl,[.string],[],false,rfl,(LK N4 NZ Tryz.underlying9),rfl⟩⟩)
def es (a0:dD):Nat→Nat→List Int→Option (Nat×List Int)
 | 0,_,_=>none
 | m13+1,k6,y7=>if (k6:Int)<(a0.MH.length:Int) then ((a0.MH[k6]?).bind fun x18=>if (y7.length+1)*8≤140737488355328 then (if -9223372036854775808≤((k6:Int)+1)∧((k6:Int)+1)≤9223372036854775807 then (es a0 m13 (k6+1) (y7 ++ [x18.M2])) else none) else none) else some (k6,y7)
def lW (a0:dD):Option (Top):=(es a0 (((a0.MH.length:Int)).toNat+1) 0 []).bind fun (k29,y30)=>some (⟨a0.MO,y30⟩:Top)
theorem uA (a0:dD) (A1:Option Addr) (c2:Nat) (r:Top) (h:lW a0=some r):aH Tryz.prog 158 #[.agg #[jS a0.MO,.slice A1 a0.MH.length c2]] (RX.of (aq 2 fq) [.slice A1 a0.MH.length c2] a0.MH) (aK) (fun v A' N=> ∃ (A33:Option Addr) (c34:Nat),v= .agg #[jS r.MO,.slice A33 r.MH.length c34]∧A'=aK∧N = [RdR (aq 1 fh) [.slice A33 r.MH.length c34] r.MH]):=by
 refine aU Tryz.func158 Z Tryz.ntmps158 Z ?_
 intro F w hX
 unfold lW at h
 refine KG Z (TL.box Z .u Z Z (fun b3=>(TL.alloc Z .u Tryz.zeroValue171 Z (fun b4=>(K7 Z (KK ab aL 1 Z 2 Z Z ?_))))))
 refine KH Z (Ld (cells:= #[jS a0.MO,.slice none 0 0]) pU Z QI) Z ?_
 refine TL.alloc Z .u Tryz.zeroValue171 Z (fun b5=>(KW 0 Z (cs':= #[jS a0.MO,.slice none 0 0]) Z .u Z Z NV Z Z Z Z Z (KI (T.seq (KG Z (KP ab Z (T.block (LZ 3 1 fh ?_))))))))
 obtain⟨E10,hE11,hO12⟩:=Np h
 refine Lv (fun m e Rs=> ∃ (k6:Nat) (y7:List Int) (A8:Option Addr) (c9:Nat),e = [(1,jP b3),(2,jP b4),(3,jP b5),(4,jI (k6:Int))]∧Rs = [bU 3 1 fh (.slice A8 y7.length c9) y7,aW b5 171 #[jS a0.MO,.slice A8 y7.length c9],aW b4 171 #[.string ⟨#[]⟩,.slice none 0 0],aW b3 191 #[jS a0.MO,.slice A1 a0.MH.length c2],aK]∧es a0 m k6 y7=some E10) (((a0.MH.length:Int)).toNat+1) [0,0,0,0,0] ⟨0,[],none,0,Z,Z,by exact hE11⟩ QJ QJ ?_
 clear hE11 h
 rintro m13 _ _ ⟨k6,y7,A8,c9,rfl,rfl,h⟩
 cases m13 with
 | zero =>
  rw[es] at h
  cases h
 | succ m13 =>
  rw[es] at h
  refine T.seq (KG Z (KK ab aL 3 Z 3 Z Z (KH Z (KX Z N8) Z (KF ab 1 Z ?_))))
  rcases jF h with⟨c17,h⟩ | ⟨c17,h⟩
  ·refine La Z c17 ?_
   obtain⟨x18,hx19,h⟩:=Np h
   obtain⟨gz20,oz20,rfl,z20cs,z20cl,z20cc,z20nf,z20r⟩:=Lf QH hX hx19
   obtain⟨z20S,z20r,z20rr⟩:=z20r
   obtain⟨A21,c22,rfl,z20s0⟩:=z20r
   have hX23:(RX.of (aq 12 dG) [.slice A21 x18.MP.length c22] x18.MP).reads w F:=⟨z20S,z20s0,z20rr⟩
   obtain⟨c25,h⟩:=ao h
   refine K3 (T.seq (T.block ?_))
   refine Ml (fun e Rs=> ∃ (b24:Nat) (A26:Option Addr) (c27:Nat),e = [(1,jP b3),(2,jP b4),(3,jP b5),(4,jI (k6:Int)),(8,jI (k6:Int)),(9,.pointer (some ⟨b3,1,none⟩)),(10,.slice (some ⟨gz20,oz20,none⟩) a0.MH.length c2),(11,jI (a0.MH.length:Int))]∧Rs = [bU 3 1 fh (.slice A26 (y7 ++ [x18.M2]).length c27) (y7 ++ [x18.M2]),aW b5 171 #[jS a0.MO,.slice A26 (y7 ++ [x18.M2]).length c27],aW b4 171 #[.string ⟨#[]⟩,.slice none 0 0],aW b3 191 #[jS a0.MO,.slice (some ⟨gz20,oz20,none⟩) a0.MH.length c2],aK]) ?_ ?_
   ·refine Lm (.q 0 (.q 2 (.q 3 (.q 4 (.q 5 (.q 6 (.q 7 (.br 1 (.e 8 (.e 9 (.q 10 (.e 11 .nil)))) (.e 8 (.e 1 (.e 9 (.q 10 (.e 11 .nil))))))))))))) [2,2,2] Z gw sP QI ?_
    refine TD.run ab [0,2] Z Z (KO Z (K5 1 Z Pa Z Z) Z (TD.run ab [4] Z Z ?_))
    refine KO Z (K1 (k:=k6) Z Z Z N8 Pd (Nw hx19).1) Z ?_
    refine TD.run ab [6] Z Z (KO Z (Ln 0 Z Nz z20nf z20cc Z Z) Z ?_)
    refine TD.br ?_ ?_
    ·refine Mg Z .u (K5 1 Z OD Z Z) Z [2,2,2] Z (LY (cells:= #[jI x18.M2]) Z .u kG Z QJ Z [3,3,3] (fun _=>Z) (fun b24=> ?_))
     refine TD.app1 0 Z .u (us := [jI x18.M2]) (u:=x18.M2) (l:=y7) (E:=fh) Tryz.underlying74 mw Z QH Z Z Z Z Z Z (fun _ _=>Z) (by have hq:=c25; omega) (by have hq:=c25; omega) Z [2,2,2] (fun _ _=>Z) (fun A26 c27=> ?_)
     exact LM [0,0,0,0,0] Z (TD.run ab [10] Z Z (LS 1 Z (cs':= #[jS a0.MO,.slice A26 (y7 ++ [x18.M2]).length c27]) Z .u Z Z Pp Z Z Z Z Z [2,2,2] (Z) (TD.nil (L5 [0,0,0,0,0] ⟨b24,A26,c27,Z,Z⟩ QJ QJ))))
    refine LY (cells:= #[jI x18.M2]) Z .u kG Z QJ Z [3,3,3] (fun _=>Z) (fun b24=>(Mg Z .u (K5 2 Z OD Z Z) Z [3,3,3] Z ?_))
    refine TD.app1 0 Z .u (us := [jI x18.M2]) (u:=x18.M2) (l:=y7) (E:=fh) Tryz.underlying74 mw Z QH Z Z Z Z Z Z (fun _ _=>Z) (by have hq:=c25; omega) (by have hq:=c25; omega) Z [2,2,2] (fun _ _=>Z) (fun A26 c27=> ?_)
    exact LM [0,0,0,0,0] Z (TD.run ab [10] Z Z (LS 1 Z (cs':= #[jS a0.MO,.slice A26 (y7 ++ [x18.M2]).length c27]) Z .u Z Z Pp Z Z Z Z Z [2,2,2] (Z) (TD.nil (L5 [0,0,0,0,0] ⟨b24,A26,c27,Z,Z⟩ QJ QJ))))
   rintro _ _ ⟨b24,A26,c27,rfl,rfl⟩
   refine K4 (X.seq (T.region Z ?_))
   obtain⟨c28,h⟩:=ao h
   exact KF ab 1 Z (KH Z (Ex.add Z Z c28) Z (KF ab 1 Z (TL.nil (X.back (m':=m13) [0,0,0,0,0] QG ⟨k6+1,(y7 ++ [x18.M2]),A26,c27,Z,Z,h⟩ QJ QJ))))
  refine K9 Z c17 ?_
  obtain rfl:=Nq h
  replace h:=hO12
  clear hO12
  refine T.exit (KZ (KZ (Lu (X.seq (KG Z (KH Z (KY (us := [jS a0.MO,.slice A8 y7.length c9]) 1 Z PW NV Z Z Z) Z (KW 2 Z (cs':= #[jS a0.MO,.slice A8 y7.length c9]) Z .u Z Z NV Z Z Z Z Z ?_)))))))
  obtain rfl:=Nq h
  exact KI (T.ret (Mz QH 0 Z (LC [0,0,0,0,0] Z (Le [4,0] Tryz.results158 (Ly (us:= #[jS a0.MO,.slice A8 y7.length c9]) 2 Z PW NV Z Z) ⟨_,_,Z,Z,Z⟩ QJ (.inl Z)))))
def fJ (a0:List dD):Nat→Int→List Top→Nat→Option (Lp Int (Int×List Top×Nat))
 | 0,_,_,_=>none
 | m13+1,y5,y6,k9=>if (k9:Int)<(a0.length:Int) then ((a0[k9]?).bind fun x18=>if (x18.MH.length:Int)=0 then some (Lp.ret 10) else ((lW x18).bind fun x25=>if (y6.length+1)*40≤140737488355328 then ((iu (y6 ++ [x25])).bind fun x33=>if x33=true then (if -9223372036854775808≤((k9:Int)+1)∧((k9:Int)+1)≤9223372036854775807 then (fJ a0 m13 y5 (y6 ++ [x25]) (k9+1)) else none) else some (Lp.ret 13)) else none)) else (some (Lp.go (y5,y6,k9)))
def ls (a0:List dD):Option (Int):=if (a0.length:Int)=0 then some 10 else ((fJ a0 (((a0.length:Int)).toNat+1) 0 ([]:List Top) 0).bind fun e=>match e with | .ret r=>some r | .go (y37,y38,k41)=>some 0)
theorem vZ (a0:List dD) (A1:Option Addr) (c2:Nat) (r:Int) (h:ls a0=some r):aH Tryz.prog 104 #[.slice A1 a0.length c2] (RX.of (aq 2 ca) [.slice A1 a0.length c2] a0) (aK) (fun v A' N=>v=jI r∧A'=aK∧N = []):=by
 refine aU Tryz.func104 Z Tryz.ntmps104 Z ?_
 intro F w hX
 unfold ls at h
 refine KG Z (KP ab Z (T.seq (KG Z (KF ab 1 Z (KH Z (KX Z Og) Z (KF ab 1 Z ?_))))))
 rcases jF h with⟨c3,h⟩ | ⟨c3,h⟩
 ·refine La Z c3 (KG Z (KF ab 1 Z ?_))
  obtain rfl:=Nq h
  exact KI (T.ret (KL (KQ [0] Qr (KJ Z))))
 refine K9 Z c3 (Lg Z (L7 (cells:= #[]) Z .u pu Z QJ Z (fun b4=>(My (us := []) (xs:=([]:List Top)) (E:=bc) (z:=2) Z (Nat.le_of_ble_eq_true Z) (fun _=>Z) (KP ab Z (T.seq (KG Z (KF ab 1 Z ?_))))))))
 refine KI (T.block ?_)
 obtain⟨E10,hE11,hO12⟩:=Np h
 refine Lv (fun m e Rs=> ∃ (y5:Int) (y6:List Top) (A7:Option Addr) (c8:Nat) (k9:Nat),e = [(0,.slice A1 a0.length c2),(2,jI y5),(3,.slice A7 y6.length c8),(4,jI (k9:Int))]∧Rs = [bU 171 2 bc (.slice A7 y6.length c8) y6,aK]∧fJ a0 m y5 y6 k9=some E10) (((a0.length:Int)).toNat+1) [0,0] ⟨0,([]:List Top),(some ⟨b4,0,none⟩),0,0,Z,Z,by exact hE11⟩ QJ QJ ?_
 clear hE11 h
 rintro m13 _ _ ⟨y5,y6,A7,c8,k9,rfl,rfl,h⟩
 cases m13 with
 | zero =>
  rw[fJ] at h
  cases h
 | succ m13 =>
  rw[fJ] at h
  refine T.seq (KG Z (KF ab 2 Z (KH Z (KX Z Og) Z (KF ab 1 Z ?_))))
  rcases jF h with⟨c17,h⟩ | ⟨c17,h⟩
  ·refine La Z c17 (K3 (T.seq (T.block (T.seq (KG Z ?_)))))
   obtain⟨x18,hx19,h⟩:=Np h
   obtain⟨gz20,oz20,rfl,z20cs,z20cl,z20cc,z20nf,z20r⟩:=Lf QH hX hx19
   obtain⟨z20S,z20r,z20rr⟩:=z20r
   obtain⟨A21,c22,rfl,z20s0⟩:=z20r
   have hX23:(RX.of (aq 2 fq) [.slice A21 x18.MH.length c22] x18.MH).reads w F:=⟨z20S,z20s0,z20rr⟩
   refine KF ab 2 Z ?_
   refine KH Z (K1 (k:=k9) Z Z Z Og OB (Nw hx19).1) Z ?_
   refine KF ab 1 Z (KH Z (Ln 1 Z Pa z20nf z20cc Z Z) Z (KH Z (KX Z N8) Z (KF ab 1 Z ?_)))
   rcases jF h with⟨c24,h⟩ | ⟨c24,h⟩
   ·refine La Z c24 (KG Z (KF ab 1 Z ?_))
    obtain rfl:=Nq h
    obtain rfl:=Nq hO12
    exact KI (T.ret (KL (KU (KL (KL (KU (KL (KQ [1] Qr (KJ Z)))))))))
   refine K9 Z c24 (Lg Z (KF ab 3 Z ?_))
   refine KH Z (K1 (k:=k9) Z Z Z Og OB (Nw hx19).1) Z ?_
   refine KH Z (LI (us := [jS x18.MO,.slice A21 x18.MH.length c22]) 0 Z Qj OB z20nf z20cc Z Z Z) Z ?_
   obtain⟨x25,hx28,h⟩:=Np h
   refine L8 Z .u (.fn Tryz.call158 Z) (uA x18 _ _ _ hx28) (fun _ hs=>(K0 hs hX23)) Z ?_
   rintro _ _ _ ⟨A26,c27,rfl,rfl,rfl⟩
   refine Lt [0,0,0] Z (L7 (cells:= #[jS x25.MO,.slice A26 x25.MH.length c27]) Z .u pv Z QJ Z (fun b29=> ?_))
   obtain⟨c30,h⟩:=ao h
   refine Ms 1 0 Z .u (us := [jS x25.MO,.slice A26 x25.MH.length c27]) (u:=x25) (l:=y6) (E:=bc) Tryz.underlying28 pV Z QH Z Z Z Z Z Z Z (fun w G hG=>⟨_,_,Z,hG.1⟩) (by have hq:=c30; omega) (by have hq:=c30; omega) Z (fun A31 c32=> ?_)
   refine Lt [0,0] Z (K8 ab Z Z ?_)
   obtain⟨x33,hx34,h⟩:=Np h
   refine KF ab 1 Z (K2 Z .u (.fn Tryz.call109 Z) (mm (y6 ++ [x25]) _ _ _ hx34) (fun _ hs=>(SrcE.res 0 hs Z (fun w G h=>cm QH w G h))) Z (KF ab 1 Z ?_))
   rcases jF h with⟨c35,h⟩ | ⟨c35,h⟩
   ·refine KI (Lb Z (bf c35) (T.skip (K4 (X.seq (T.region Z ?_)))))
    obtain⟨c36,h⟩:=ao h
    exact KF ab 1 Z (KH Z (Ex.add Z Z c36) Z (KF ab 1 Z (TL.nil (X.back (m':=m13) [0,0] QG ⟨y5,(y6 ++ [x25]),A31,c32,k9+1,Z,Z,h⟩ QJ QJ))))
   replace c35:=Nx c35
   refine KI (KV Z (bG c35) (KG Z (KF ab 1 Z ?_)))
   obtain rfl:=Nq h
   obtain rfl:=Nq hO12
   exact KI (T.ret (KU (KL (KL (KU (KL (KQ [1] Qr (KJ Z))))))))
  refine K9 Z c17 ?_
  obtain rfl:=Nq h
  replace h:=hO12
  clear hO12
  refine T.exit (KZ (KZ (Lu (X.seq (KG Z (KF ab 1 Z ?_))))))
  obtain rfl:=Nq h
  exact KI (T.ret (KQ [1] Qr (KJ Z)))
def eb (a0:List Bat) (a1:Bool):Nat→Int→Nat→Option (Lp Int (Int×Nat))
 | 0,_,_=>none
 | m16+1,y11,k12=>if (k12:Int)<(a0.length:Int) then ((a0[k12]?).bind fun x21=>(jf x21).bind fun x27=>if x27=0 then (if x21.Nc=true then some (Lp.ret 12) else (if (x21.Nd == a1)=true then (if -9223372036854775808≤((k12:Int)+1)∧((k12:Int)+1)≤9223372036854775807 then (eb a0 a1 m16 y11 (k12+1)) else none) else some (Lp.ret 8))) else some (Lp.ret x27)) else (some (Lp.go (y11,k12)))
def fK (a0:List Bat) (a1:Bool) (a2:Int):Option (Int):=(if (a0.length:Int)=0 then some true else (if a2=3 then (if (a0.length:Int)>1 then some true else some false) else some false)).bind fun y5=>if y5=true then some 10 else ((eb a0 a1 (((a0.length:Int)).toNat+1) 0 0).bind fun e=>match e with | .ret r=>some r | .go (y33,k34)=>some 0)
theorem nj (a0:List Bat) (A1:Option Addr) (c2:Nat) (a1:Bool) (a2:Int) (r:Int) (h:fK a0 a1 a2=some r):aH Tryz.prog 105 #[.slice A1 a0.length c2,.bool a1,jI a2] (RX.of (aq 12 dG) [.slice A1 a0.length c2] a0) (aK) (fun v A' N=>v=jI r∧A'=aK∧N = []):=by
 refine aU Tryz.func105 Z Tryz.ntmps105 Z ?_
 intro F w hX
 unfold fK at h
 refine KG Z (KP ab Z (L3 ?_))
 obtain⟨y5,h,hk6⟩:=Np h
 refine Lz (fun e Rs=>e = [(0,.slice A1 a0.length c2),(1,.bool a1),(6,jI 0),(20,.bool y5)]∧Rs = [aK]) ?_ ?_
 ·clear hk6
  refine T.region Z (KF ab 1 Z (KH Z (KX Z NY) Z ?_))
  rcases jF h with⟨c7,h⟩ | ⟨c7,h⟩
  ·refine KF ab 2 Z (KN 12 Z (Nt c7) (KM ab 8 Z ?_))
   cases h
   exact TL.nil (KR [0])
  refine KF ab 2 Z (KN 12 Z (Nu c7) ?_)
  rcases jF h with⟨c8,h⟩ | ⟨c8,h⟩
  ·refine KM ab 3 Z (KN 15 Z (Nt c8) (KM ab 1 Z (TL.q Z (.g Z Z Z) (KX Z NY) Z (KM ab 3 Z ?_))))
   rcases jF h with⟨c9,h⟩ | ⟨c9,h⟩
   ·cases h
    exact TL.nil (LE (d:=20) (v':= .bool true) Z (congrArg Value.bool (Nt c9)) (KR [0]))
   cases h
   exact TL.nil (LE (d:=20) (v':= .bool false) Z (congrArg Value.bool (Nu c9)) (KR [0]))
  refine KM ab 3 Z (KN 15 Z (Nu c8) (KM ab 5 Z ?_))
  cases h
  exact TL.nil (KR [0])
 rintro _ _ ⟨rfl,rfl⟩
 clear h
 have h:=hk6
 clear hk6
 try dsimp only at h
 rcases jF h with⟨c10,h⟩ | ⟨c10,h⟩
 ·refine X.seq (KV Z c10 (KG Z (KF ab 1 Z ?_)))
  obtain rfl:=Nq h
  exact KI (T.ret (KL (KQ [0] P4 (KJ Z))))
 replace c10:=Nx c10
 refine X.seq (Lb Z c10 (K3 (T.seq (KG Z (KP ab Z (T.block ?_))))))
 obtain⟨E13,hE14,hO15⟩:=Np h
 refine Lv (fun m e Rs=> ∃ (y11:Int) (k12:Nat),e = [(0,.slice A1 a0.length c2),(1,.bool a1),(6,jI y11),(7,jI (k12:Int))]∧Rs = [aK]∧eb a0 a1 m y11 k12=some E13) (((a0.length:Int)).toNat+1) [0] ⟨0,0,Z,Z,by exact hE14⟩ QJ QJ ?_
 clear hE14 h
 rintro m16 _ _ ⟨y11,k12,rfl,rfl,h⟩
 cases m16 with
 | zero =>
  rw[eb] at h
  cases h
 | succ m16 =>
  rw[eb] at h
  refine T.seq (KG Z (KF ab 2 Z (KH Z (KX Z NY) Z (KF ab 1 Z ?_))))
  rcases jF h with⟨c20,h⟩ | ⟨c20,h⟩
  ·refine La Z c20 (K3 (T.seq (T.block (KG Z ?_))))
   obtain⟨x21,hx22,h⟩:=Np h
   obtain⟨gz23,oz23,rfl,z23cs,z23cl,z23cc,z23nf,z23r⟩:=Lf QH hX hx22
   obtain⟨z23S,z23r,z23rr⟩:=z23r
   obtain⟨A24,c25,rfl,z23s0⟩:=z23r
   have hX26:(RX.of (aq 7 da) [.slice A24 x21.MK.length c25] x21.MK).reads w F:=⟨z23S,z23s0,z23rr⟩
   refine KF ab 2 Z ?_
   refine KH Z (K1 (k:=k12) Z Z Z NY NJ (Nw hx22).1) Z ?_
   refine KH Z (LI (us:=wL5 x21 A24 c25) 0 Z N6 NJ z23nf z23cc Z Z Z) Z ?_
   obtain⟨x27,hx28,h⟩:=Np h
   refine K2 Z .u (.fn Tryz.call159 Z) (uv x21 _ _ _ hx28) (fun _ hs=>(K0 hs hX26)) Z (KP ab Z (T.seq (KG Z (KF ab 2 Z ?_))))
   rcases jF h with⟨c29,h⟩ | ⟨c29,h⟩
   ·refine Lj Z c29 (K3 (T.seq (KG Z (KF ab 2 Z ?_))))
    refine KH Z (K1 (k:=k12) Z Z Z NY NJ (Nw hx22).1) Z ?_
    refine KF ab 1 Z (KH Z (Ln 4 Z Ok z23nf z23cc Z Z) Z ?_)
    rcases jF h with⟨c30,h⟩ | ⟨c30,h⟩
    ·refine KI (KV Z c30 (KG Z (KF ab 1 Z ?_)))
     obtain rfl:=Nq h
     obtain rfl:=Nq hO15
     exact KI (T.ret (KL (KU (KL (KL (KU (KL (KQ [0] P4 (KJ Z)))))))))
    replace c30:=Nx c30
    refine KI (Lb Z c30 (Lg Z (KF ab 2 Z ?_)))
    refine KH Z (K1 (k:=k12) Z Z Z NY NJ (Nw hx22).1) Z ?_
    refine KF ab 1 Z (KH Z (Ln 3 Z Ok z23nf z23cc Z Z) Z (KF ab 1 Z (KH Z (LV Z Z Z Z N1) Z ?_)))
    rcases jF h with⟨c31,h⟩ | ⟨c31,h⟩
    ·refine KI (Lb Z (bf c31) (T.skip (K4 (X.seq (T.region Z ?_)))))
     obtain⟨c32,h⟩:=ao h
     exact KF ab 1 Z (KH Z (Ex.add Z Z c32) Z (KF ab 1 Z (TL.nil (X.back (m':=m16) [0] QG ⟨y11,k12+1,Z,Z,h⟩ QJ QJ))))
    replace c31:=Nx c31
    refine KI (KV Z (bG c31) (KG Z (KF ab 1 Z ?_)))
    obtain rfl:=Nq h
    obtain rfl:=Nq hO15
    exact KI (T.ret (KU (KL (KL (KU (KL (KQ [0] P4 (KJ Z))))))))
   refine Li Z c29 (KG Z (KF ab 2 Z ?_))
   obtain rfl:=Nq h
   obtain rfl:=Nq hO15
   exact KI (T.ret (KL (KU (KL (KL (KU (KL (KQ [0] P4 (KJ Z)))))))))
  refine K9 Z c20 ?_
  obtain rfl:=Nq h
  replace h:=hO15
  clear hO15
  refine T.exit (KZ (KZ (Lu (X.seq (KG Z (KF ab 1 Z ?_))))))
  obtain rfl:=Nq h
  exact KI (T.ret (KQ [0] P4 (KJ Z)))
def dS (a0:bl) (a1:Int) (k28:Nat):Nat→Int→Nat→Option (Lp Int (Int×Nat))
 | 0,_,_=>none
 | m42+1,y37,k38=>(a0.MF[k28]?).bind fun x46=>if (k38:Int)<(x46.MH.length:Int) then ((x46.MH[k38]?).bind fun x53=>if a0.MM.null=true then ((fK x53.MP false a1).bind fun x60=>if x60=0 then (if -9223372036854775808≤((k38:Int)+1)∧((k38:Int)+1)≤9223372036854775807 then (dS a0 a1 k28 m42 y37 (k38+1)) else none) else some (Lp.ret x60)) else ((fK x53.MP true a1).bind fun x64=>if x64=0 then (if -9223372036854775808≤((k38:Int)+1)∧((k38:Int)+1)≤9223372036854775807 then (dS a0 a1 k28 m42 y37 (k38+1)) else none) else some (Lp.ret x64))) else (some (Lp.go (y37,k38)))
def dT (a0:bl) (a1:Int):Nat→Int→Nat→Option (Lp Int (Int×Nat))
 | 0,_,_=>none
 | m32+1,y27,k28=>if (k28:Int)<(a0.MF.length:Int) then ((dS a0 a1 k28 (((a0.MF[k28]?).map (fun x37=>((x37.MH.length:Int)).toNat+1)).getD 0) y27 0).bind fun e=>match e with | .ret r=>some (Lp.ret r) | .go (y69,k70)=>(if -9223372036854775808≤((k28:Int)+1)∧((k28:Int)+1)≤9223372036854775807 then (dT a0 a1 m32 y69 (k28+1)) else none)) else (some (Lp.go (y27,k28)))
theorem uB (a0:bl) (a1:Int) (u1:Int) (u2:Nat):dT a0 a1 0 u1 u2=none:=rfl
theorem uC (a0:bl) (a1:Int) (m32:Nat) (y27:Int) (k28:Nat):dT a0 a1 (m32+1) y27 k28=(if (k28:Int)<(a0.MF.length:Int) then ((dS a0 a1 k28 (((a0.MF[k28]?).map (fun x37=>((x37.MH.length:Int)).toNat+1)).getD 0) y27 0).bind fun e=>match e with | .ret r=>some (Lp.ret r) | .go (y69,k70)=>(if -9223372036854775808≤((k28:Int)+1)∧((k28:Int)+1)≤9223372036854775807 then (dT a0 a1 m32 y69 (k28+1)) else none)) else (some (Lp.go (y27,k28)))):=rfl
def kp (a0:bl) (a1:Int):Option (Int):=(if a0.MM.null=true then (if a0.MM.data = [] then some false else some true) else (if (a0.MM.data.length:Int)<1 then some true else (if (a0.MM.data.length:Int)>32767 then some true else some false))).bind fun y7=>if y7=true then some 4 else ((if a0.M5<(-1) then some true else (if a0.M5>1 then some true else (if a0.ML<0 then some true else (if a0.ML>2147483647 then some true else some false)))).bind fun y17=>if y17=true then some 11 else ((ls a0.MF).bind fun x24=>if x24=0 then ((dT a0 a1 (((a0.MF.length:Int)).toNat+1) 0 0).bind fun e=>match e with | .ret r=>some r | .go (y72,k73)=>some 0) else some x24))
theorem uD (a0:bl) (A1:Option Addr) (c2:Nat) (a1:Int) (r:Int) (h:kp a0 a1=some r):aH Tryz.prog 54 #[.agg #[.bool a0.MM.null,jS a0.MM.data,jI a0.M5,jI a0.ML,.slice A1 a0.MF.length c2],jI a1] (RX.of (aq 2 ca) [.slice A1 a0.MF.length c2] a0.MF) (aK) (fun v A' N=>v=jI r∧A'=aK∧N = []):=by
 refine aU Tryz.func54 Z Tryz.ntmps54 Z ?_
 intro F w hX
 unfold kp at h
 refine KG Z (TL.box Z .u Z Z (fun b3=>(KP ab Z (L3 ?_))))
 obtain⟨y7,h,hk8⟩:=Np h
 refine Lz (fun e Rs=>e = [(1,jI a1),(2,jP b3),(4,jI 0),(37,.bool y7)]∧Rs = [aW b3 51 #[.bool a0.MM.null,jS a0.MM.data,jI a0.M5,jI a0.ML,.slice A1 a0.MF.length c2],aK]) ?_ ?_
 ·clear hk8
  refine T.region Z ?_
  rcases jF h with⟨c9,h⟩ | ⟨c9,h⟩
  ·refine KK ab aL 0 Z 4 Z Z (KN 12 Z c9 (KK ab aL 0 Z 3 Z Z (TL.q Z (.g Z Z Z) (Mv Z (m := []) Z) Z ?_)))
   rcases jF h with⟨c10,h⟩ | ⟨c10,h⟩
   ·refine KM ab 2 Z (KN 18 Z (bf (Nt c10)) (KK ab aL 0 Z 5 Z Z (KN 23 Z (bf c9) (KM ab 14 Z ?_))))
    cases h
    exact TL.nil (KR [0,0])
   refine KM ab 2 Z (KN 18 Z (bG (Nu c10)) (KM ab 19 Z ?_))
   cases h
   exact TL.nil (KR [0,0])
  replace c9:=Nx c9
  refine KK ab aL 0 Z 4 Z Z (KN 12 Z c9 (KK ab aL 0 Z 11 Z Z (KN 23 Z (bG c9) (KK ab aL 0 Z 3 Z Z (TL.q Z (.g Z Z Z) (Lx Z NE) Z ?_)))))
  rcases jF h with⟨c11,h⟩ | ⟨c11,h⟩
  ·refine KM ab 2 Z (KN 29 Z (Nt c11) (KM ab 8 Z ?_))
   cases h
   exact TL.nil (KR [0,0])
  refine KM ab 2 Z (KN 29 Z (Nu c11) (KK ab aL 0 Z 3 Z Z (TL.q Z (.g Z Z Z) (Lx Z NE) Z (KM ab 4 Z ?_))))
  rcases jF h with⟨c12,h⟩ | ⟨c12,h⟩
  ·cases h
   exact TL.nil (LE (d:=37) (v':= .bool true) Z (congrArg Value.bool (Nt c12)) (KR [0,0]))
  cases h
  exact TL.nil (LE (d:=37) (v':= .bool false) Z (congrArg Value.bool (Nu c12)) (KR [0,0]))
 rintro _ _ ⟨rfl,rfl⟩
 clear h
 have h:=hk8
 clear hk8
 try dsimp only at h
 rcases jF h with⟨c13,h⟩ | ⟨c13,h⟩
 ·refine X.seq (KV Z c13 (KG Z (KF ab 1 Z ?_)))
  obtain rfl:=Nq h
  exact KI (T.ret (KL (KQ [1] PR (KJ Z))))
 replace c13:=Nx c13
 refine X.seq (Lb Z c13 (K3 (L3 ?_)))
 obtain⟨y17,h,hk18⟩:=Np h
 refine Lz (fun e Rs=>e = [(1,jI a1),(2,jP b3),(4,jI 0),(55,.bool y17)]∧Rs = [aW b3 51 #[.bool a0.MM.null,jS a0.MM.data,jI a0.M5,jI a0.ML,.slice A1 a0.MF.length c2],aK]) ?_ ?_
 ·clear hk18
  refine T.region Z ?_
  rcases jF h with⟨c19,h⟩ | ⟨c19,h⟩
  ·refine KK ab aL 0 Z 4 Z Z (KN 41 Z (Nt c19) (KM ab 14 Z ?_))
   cases h
   exact TL.nil (KR [0,0])
  refine KK ab aL 0 Z 4 Z Z (KN 41 Z (Nu c19) ?_)
  rcases jF h with⟨c20,h⟩ | ⟨c20,h⟩
  ·refine KK ab aL 0 Z 5 Z Z (KN 46 Z (Nt c20) (KM ab 9 Z ?_))
   cases h
   exact TL.nil (KR [0,0])
  refine KK ab aL 0 Z 5 Z Z (KN 46 Z (Nu c20) ?_)
  rcases jF h with⟨c21,h⟩ | ⟨c21,h⟩
  ·refine KK ab aL 0 Z 5 Z Z (KN 51 Z (Nt c21) (KM ab 4 Z ?_))
   cases h
   exact TL.nil (KR [0,0])
  refine KK ab aL 0 Z 5 Z Z (KN 51 Z (Nu c21) (KK ab aL 0 Z 4 Z Z ?_))
  rcases jF h with⟨c22,h⟩ | ⟨c22,h⟩
  ·cases h
   exact TL.nil (LE (d:=55) (v':= .bool true) Z (congrArg Value.bool (Nt c22)) (KR [0,0]))
  cases h
  exact TL.nil (LE (d:=55) (v':= .bool false) Z (congrArg Value.bool (Nu c22)) (KR [0,0]))
 rintro _ _ ⟨rfl,rfl⟩
 clear h
 have h:=hk18
 clear hk18
 try dsimp only at h
 rcases jF h with⟨c23,h⟩ | ⟨c23,h⟩
 ·refine X.seq (KV Z c23 (KG Z (KF ab 1 Z ?_)))
  obtain rfl:=Nq h
  exact KI (T.ret (KL (KQ [1] PR (KJ Z))))
 replace c23:=Nx c23
 refine X.seq (Lb Z c23 (Lg Z ?_))
 obtain⟨x24,hx25,h⟩:=Np h
 refine KK ab aL 0 Z 2 Z Z (K2 Z .u (.fn Tryz.call104 Z) (vZ a0.MF _ _ _ hx25) (fun _ hs=>(K0 hs hX)) Z (KP ab Z (T.seq (KG Z (KF ab 2 Z ?_)))))
 rcases jF h with⟨c26,h⟩ | ⟨c26,h⟩
 ·refine Lj Z c26 (K3 (T.seq (KG Z (KP ab Z (T.block ?_)))))
  obtain⟨E29,hE30,hO31⟩:=Np h
  refine Lv (fun m e Rs=> ∃ (y27:Int) (k28:Nat),e = [(1,jI a1),(2,jP b3),(4,jI y27),(6,jI (k28:Int))]∧Rs = [aW b3 51 #[.bool a0.MM.null,jS a0.MM.data,jI a0.M5,jI a0.ML,.slice A1 a0.MF.length c2],aK]∧dT a0 a1 m y27 k28=some E29) (((a0.MF.length:Int)).toNat+1) [0,0] ⟨0,0,Z,Z,by exact hE30⟩ QJ QJ ?_
  clear hE30 h
  rintro m32 _ _ ⟨y27,k28,rfl,rfl,h⟩
  cases m32 with
  | zero =>
   rw[uB] at h
   cases h
  | succ m32 =>
   rw[uC] at h
   refine T.seq (KG Z (KK ab aL 0 Z 3 Z Z (KH Z (KX Z Og) Z (KF ab 1 Z ?_))))
   rcases jF h with⟨c36,h⟩ | ⟨c36,h⟩
   ·refine La Z c36 (K3 (T.seq (T.block (KG Z (KP ab Z (T.block ?_))))))
    obtain⟨E39,hE40,hO41⟩:=Np h
    refine Lv (fun m e Rs=> ∃ (y37:Int) (k38:Nat),e = [(1,jI a1),(2,jP b3),(4,jI y37),(6,jI (k28:Int)),(7,jI (k38:Int))]∧Rs = [aW b3 51 #[.bool a0.MM.null,jS a0.MM.data,jI a0.M5,jI a0.ML,.slice A1 a0.MF.length c2],aK]∧dS a0 a1 k28 m y37 k38=some E39) (((a0.MF[k28]?).map (fun x37=>((x37.MH.length:Int)).toNat+1)).getD 0) [0,0] ⟨y27,0,Z,Z,by exact hE40⟩ QJ QJ ?_
    clear hE40 h
    rintro m42 _ _ ⟨y37,k38,rfl,rfl,h⟩
    cases m42 with
    | zero =>
     rw[dS] at h
     cases h
    | succ m42 =>
     rw[dS] at h
     refine T.seq (KG Z ?_)
     obtain⟨x46,hx47,h⟩:=Np h
     obtain⟨gz48,oz48,rfl,z48cs,z48cl,z48cc,z48nf,z48r⟩:=Lf QH hX hx47
     obtain⟨z48S,z48r,z48rr⟩:=z48r
     obtain⟨A49,c50,rfl,z48s0⟩:=z48r
     have hX51:(RX.of (aq 2 fq) [.slice A49 x46.MH.length c50] x46.MH).reads w F:=⟨z48S,z48s0,z48rr⟩
     refine KK ab aL 0 Z 4 Z Z ?_
     refine KH Z (K1 (k:=k28) Z Z Z Og OB (Nw hx47).1) Z ?_
     refine KF ab 1 Z (KH Z (Ln 1 Z Pa z48nf z48cc Z Z) Z (KH Z (KX Z N8) Z (KF ab 1 Z ?_)))
     rcases jF h with⟨c52,h⟩ | ⟨c52,h⟩
     ·refine La Z c52 ?_
      refine K3 (T.seq (T.block (T.seq (Lm (.q 0 (.q 1 (.q 2 (.q 3 (.q 4 (.q 5 (.q 6 (.q 7 (.q 8 (.q 9 (.q 10 (.q 11 (.q 12 (.q 13 (.q 14 (.e 15 (.q 16 .nil))))))))))))))))) [0,0] Z gw (NoP.seq (NoP.blk (NoP.seq (NoP.seq (NoP.blk (NoP.blk (NoP.seq (NoP.seq (NoP.blk (NoP.seq bu)))))))))) QI ?_))))
      refine TD.run ab [0] Z Z (KO Z (K5 0 Z Tryz.isAgg49 Z Z) Z (TD.run ab [2] Z Z ?_))
      refine KO Z (K1 (k:=k28) Z Z Z Og OB (Nw hx47).1) Z ?_
      refine TD.run ab [4] Z Z (KO Z (Ln 1 Z Pa z48nf z48cc Z Z) Z ?_)
      obtain⟨x53,hx54,h⟩:=Np h
      obtain⟨gz55,oz55,rfl,z55cs,z55cl,z55cc,z55nf,z55r⟩:=Lf QH hX51 hx54
      obtain⟨z55S,z55r,z55rr⟩:=z55r
      obtain⟨A56,c57,rfl,z55s0⟩:=z55r
      have hX58:(RX.of (aq 12 dG) [.slice A56 x53.MP.length c57] x53.MP).reads w F:=⟨z55S,z55s0,z55rr⟩
      refine TD.run ab [6] Z Z ?_
      refine KO Z (K1 (k:=k38) Z Z Z N8 Pd (Nw hx54).1) Z ?_
      refine TD.run ab [8] Z Z (KO Z (Ln 1 Z O9 z55nf z55cc Z Z) Z (TD.run ab [10,11] Z Z (KO Z (K5 0 Z Ok Z Z) Z ?_)))
      rcases jF h with⟨c59,h⟩ | ⟨c59,h⟩
      ·obtain⟨x60,hx61,h⟩:=Np h
       refine TD.run ab [13,14] Z Z (TD.as (d:=93) (v':= .bool false) Z (congrArg Value.bool (bf c59)) (Lw Z .u (.fn Tryz.call105 Z) (nj x53.MP _ _ false a1 _ hx61) (fun _ hs=>(K0 hs hX58)) Z [0,0] (Z) (TD.run ab [16] Z Z (LF (KG Z (KF ab 2 Z ?_))))))
       rcases jF h with⟨c62,h⟩ | ⟨c62,h⟩
       ·refine Lj Z c62 (T.skip (K4 (X.seq (T.region Z ?_))))
        obtain⟨c63,h⟩:=ao h
        exact KF ab 1 Z (KH Z (Ex.add Z Z c63) Z (KF ab 1 Z (TL.nil (X.back (m':=m42) [0,0] QG ⟨y37,k38+1,Z,Z,h⟩ QJ QJ))))
       refine Li Z c62 (KG Z (KF ab 2 Z ?_))
       obtain rfl:=Nq h
       obtain rfl:=Nq hO41
       obtain rfl:=Nq hO31
       exact KI (T.ret (KU (KL (KL (KU (KU (KL (KL (KU (KL (KQ [1] PR (KJ Z))))))))))))
      replace c59:=Nx c59
      obtain⟨x64,hx65,h⟩:=Np h
      refine TD.run ab [13,14] Z Z (TD.as (d:=93) (v':= .bool true) Z (congrArg Value.bool (bG c59)) (Lw Z .u (.fn Tryz.call105 Z) (nj x53.MP _ _ true a1 _ hx65) (fun _ hs=>(K0 hs hX58)) Z [0,0] (Z) (TD.run ab [16] Z Z (LF (KG Z (KF ab 2 Z ?_))))))
      rcases jF h with⟨c66,h⟩ | ⟨c66,h⟩
      ·refine Lj Z c66 (T.skip (K4 (X.seq (T.region Z ?_))))
       obtain⟨c67,h⟩:=ao h
       exact KF ab 1 Z (KH Z (Ex.add Z Z c67) Z (KF ab 1 Z (TL.nil (X.back (m':=m42) [0,0] QG ⟨y37,k38+1,Z,Z,h⟩ QJ QJ))))
      refine Li Z c66 (KG Z (KF ab 2 Z ?_))
      obtain rfl:=Nq h
      obtain rfl:=Nq hO41
      obtain rfl:=Nq hO31
      exact KI (T.ret (KU (KL (KL (KU (KU (KL (KL (KU (KL (KQ [1] PR (KJ Z))))))))))))
     refine K9 Z c52 ?_
     obtain rfl:=Nq h
     replace h:=hO41
     clear hO41
     refine T.exit (KZ (KZ (Lu (K4 (X.seq (T.region Z ?_))))))
     obtain⟨c68,h⟩:=ao h
     exact KF ab 1 Z (KH Z (Ex.add Z Z c68) Z (KF ab 1 Z (TL.nil (X.back (m':=m32) [0,0] QG ⟨y37,k28+1,Z,Z,h⟩ QJ QJ))))
   refine K9 Z c36 ?_
   obtain rfl:=Nq h
   replace h:=hO31
   clear hO31
   refine T.exit (KZ (KZ (Lu (X.seq (KG Z (KF ab 1 Z ?_))))))
   obtain rfl:=Nq h
   exact KI (T.ret (KQ [1] PR (KJ Z)))
 refine Li Z c26 (KG Z (KF ab 2 Z ?_))
 obtain rfl:=Nq h
 exact KI (T.ret (KL (KQ [1] PR (KJ Z))))
def eZ (x159:dD) (k173:Nat):Nat→List UInt8→Nat→Option (List UInt8×Nat)
 | 0,_,_=>none
 | m241+1,y236,k237=>(x159.MH[k173]?).bind fun x245=>if (k237:Int)<(x245.MP.length:Int) then ((x245.MP[k237]?).bind fun x252=>(kF x252).bind fun x258=>if y236.length+x258.length≤9223372036854775807 then (if -9223372036854775808≤((k237:Int)+1)∧((k237:Int)+1)≤9223372036854775807 then (eZ x159 k173 m241 (y236++x258) (k237+1)) else none) else none) else some (y236,k237)
def e7 (x159:dD):Nat→List UInt8→Nat→Option (List UInt8×Nat)
 | 0,_,_=>none
 | m177+1,y172,k173=>if (k173:Int)<(x159.MH.length:Int) then (((eZ x159 k173 (((x159.MH[k173]?).map (fun x236=>((x236.MP.length:Int)).toNat+1)).getD 0) [] 0).bind fun (y274,k275)=>(x159.MH[k173]?).bind fun x276=>(cN x276.M2 4).bind fun x282=>if y172.length+x282.length≤9223372036854775807 then ((jW (⟨false,y274⟩:Bl) 4).bind fun x285=>if (y172++x282).length+x285.length≤9223372036854775807 then (some ((y172++x282)++x285)) else none) else none).bind fun y234=>if -9223372036854775808≤((k173:Int)+1)∧((k173:Int)+1)≤9223372036854775807 then (e7 x159 m177 y234 (k173+1)) else none) else some (y172,k173)
def e9 (a0:bl):Nat→List UInt8→Nat→Option (List UInt8×Nat)
 | 0,_,_=>none
 | m20+1,y15,k16=>if (k16:Int)<(a0.MF.length:Int) then (((a0.MF[k16]?).bind fun x159=>(jW (⟨false,x159.MO⟩:Bl) 2).bind fun x166=>if y15.length+x166.length≤9223372036854775807 then ((cN (x159.MH.length:Int) 4).bind fun x169=>if (y15++x166).length+x169.length≤9223372036854775807 then ((e7 x159 (((x159.MH.length:Int)).toNat+1) ((y15++x166)++x169) 0).bind fun (y289,k290)=>some y289) else none) else none).bind fun y157=>if -9223372036854775808≤((k16:Int)+1)∧((k16:Int)+1)≤9223372036854775807 then (e9 a0 m20 y157 (k16+1)) else none) else some (y15,k16)
def jh (a0:bl):Option (List UInt8):=(jW a0.MM 2).bind fun x4=>(cN a0.M5 2).bind fun x6=>if x4.length+x6.length≤9223372036854775807 then ((cN a0.ML 4).bind fun x9=>if (x4++x6).length+x9.length≤9223372036854775807 then ((cN (a0.MF.length:Int) 4).bind fun x12=>if ((x4++x6)++x9).length+x12.length≤9223372036854775807 then ((e9 a0 (((a0.MF.length:Int)).toNat+1) (((x4++x6)++x9)++x12) 0).bind fun (y292,k293)=>some y292) else none) else none) else none
theorem uE (a0:bl) (A1:Option Addr) (c2:Nat) (r:List UInt8) (h:jh a0=some r):aH Tryz.prog 60 #[.agg #[.bool a0.MM.null,jS a0.MM.data,jI a0.M5,jI a0.ML,.slice A1 a0.MF.length c2]] (RX.of (aq 2 ca) [.slice A1 a0.MF.length c2] a0.MF) (aK) (fun v A' N=>v=jS r∧A'=aK∧N = []):=by
 refine aU Tryz.func60 Z Tryz.ntmps60 Z ?_
 intro F w hX
 unfold jh at h
 refine KG Z (TL.box Z .u Z Z (fun b3=>(KF ab 1 Z ?_)))
 refine KI (T.seq (Lm (.q 0 (.q 1 (.q 3 (.q 4 (.q 7 (.q 8 (.q 11 (.q 12 (.q 13 (.e 2 (.e 5 (.q 6 (.e 9 (.q 10 (.e 14 (.q 15 (.q 16 .nil))))))))))))))))) [0,0] Z gw (NoP.seq bu) QI ?_))
 refine TD.run ab [0] Z Z (KO Z (KY (us:=wL6 a0.MM) 0 Z N0 ND Z Z Z) Z (TD.run ab [3] Z Z (KO Z (K5 0 Z Nz Z Z) Z (TD.run ab [7] Z Z (KO Z (K5 0 Z Nz Z Z) Z (TD.run ab [11] Z Z (KO Z (K5 0 Z Tryz.isAgg49 Z Z) Z ?_)))))))
 refine KO Z (KX Z Og) Z ?_
 obtain⟨x4,hx5,h⟩:=Np h
 refine Lw Z .u (.fn Tryz.call110 Z) (iM a0.MM 2 _ hx5) rT Z [0,0] (Z) ?_
 obtain⟨x6,hx7,h⟩:=Np h
 refine Lw Z .u (.fn Tryz.call63 Z) (bA a0.M5 2 _ hx7) rT Z [0,0] (Z) ?_
 obtain⟨c8,h⟩:=ao h
 refine KO Z (Lh Z Z c8) Z ?_
 obtain⟨x9,hx10,h⟩:=Np h
 refine Lw Z .u (.fn Tryz.call63 Z) (bA a0.ML 4 _ hx10) rT Z [0,0] (Z) ?_
 obtain⟨c11,h⟩:=ao h
 refine KO Z (Lh Z Z c11) Z ?_
 obtain⟨x12,hx13,h⟩:=Np h
 refine Lw Z .u (.fn Tryz.call63 Z) (bA (a0.MF.length:Int) 4 _ hx13) rT Z [0,0] (Z) ?_
 obtain⟨c14,h⟩:=ao h
 refine KO Z (Lh Z Z c14) Z (TD.run ab [16] Z Z (LF (T.seq (KG Z (KP ab Z (T.block ?_))))))
 obtain⟨E17,hE18,hO19⟩:=Np h
 refine Lv (fun m e Rs=> ∃ (y15:List UInt8) (k16:Nat),e = [(1,jP b3),(2,.string ⟨#[]⟩),(3,jS y15),(4,jI (k16:Int))]∧Rs = [aW b3 51 #[.bool a0.MM.null,jS a0.MM.data,jI a0.M5,jI a0.ML,.slice A1 a0.MF.length c2],aK]∧e9 a0 m y15 k16=some E17) (((a0.MF.length:Int)).toNat+1) [0,0] ⟨(((x4++x6)++x9)++x12),0,Z,Z,by exact hE18⟩ QJ QJ ?_
 clear hE18 h
 rintro m20 _ _ ⟨y15,k16,rfl,rfl,h⟩
 cases m20 with
 | zero =>
  rw[e9] at h
  cases h
 | succ m20 =>
  rw[e9] at h
  refine T.seq (KG Z (KK ab aL 0 Z 3 Z Z (KH Z (KX Z Og) Z (KF ab 1 Z ?_))))
  rcases jF h with⟨c24,h⟩ | ⟨c24,h⟩
  ·refine La Z c24 (K3 (T.seq ?_))
   obtain⟨y157,h,hk158⟩:=Np h
   refine Lz (fun e Rs=>e = [(1,jP b3),(2,.string ⟨#[]⟩),(3,jS y157),(4,jI (k16:Int))]∧Rs = [aW b3 51 #[.bool a0.MM.null,jS a0.MM.data,jI a0.M5,jI a0.ML,.slice A1 a0.MF.length c2],aK]) ?_ ?_
   ·clear hk158
    refine T.block (KG Z ?_)
    obtain⟨x159,hx160,h⟩:=Np h
    obtain⟨gz161,oz161,rfl,z161cs,z161cl,z161cc,z161nf,z161r⟩:=Lf QH hX hx160
    obtain⟨z161S,z161r,z161rr⟩:=z161r
    obtain⟨A162,c163,rfl,z161s0⟩:=z161r
    have hX164:(RX.of (aq 2 fq) [.slice A162 x159.MH.length c163] x159.MH).reads w F:=⟨z161S,z161s0,z161rr⟩
    refine KK ab aL 0 Z 3 Z Z ?_
    refine KH Z (K1 (k:=k16) Z Z Z Og OB (Nw hx160).1) Z ?_
    refine KH Z (LI (us := [jS x159.MO,.slice A162 x159.MH.length c163]) 0 Z Qj OB z161nf z161cc Z Z Z) Z (TL.alloc Z .u Tryz.zeroValue191 Z (fun b165=>(KW 0 Z (cs':= #[jS x159.MO,.slice A162 x159.MH.length c163]) Z .u Z Z OB Z Z Z Z Z ?_)))
    refine KI (T.seq (Lm (.q 0 (.q 1 (.q 2 (.q 3 (.q 6 (.q 7 (.q 8 (.e 4 (.q 5 (.e 9 (.q 10 (.q 11 .nil)))))))))))) [0,0,0] Z gw (NoP.seq (NoP.blk (NoP.seq (NoP.seq (NoP.seq (NoP.blk (NoP.seq bu))))))) QI ?_))
    refine TD.run ab [0,1] Z Z (KO Z (K5 0 Z N4 Z Z) Z ?_)
    refine KO Z (Ld (cells:= #[.bool false,jS x159.MO]) lV Z QI) Z ?_
    refine TD.run ab [6] Z Z (KO Z (K5 0 Z Pa Z Z) Z (KO Z (KX Z N8) Z ?_))
    obtain⟨x166,hx167,h⟩:=Np h
    refine Lw Z .u (.fn Tryz.call110 Z) (iM (⟨false,x159.MO⟩:Bl) 2 _ hx167) rT Z [0,0,0] (Z) ?_
    obtain⟨c168,h⟩:=ao h
    refine KO Z (Lh Z Z c168) Z ?_
    obtain⟨x169,hx170,h⟩:=Np h
    refine Lw Z .u (.fn Tryz.call63 Z) (bA (x159.MH.length:Int) 4 _ hx170) rT Z [0,0,0] (Z) ?_
    obtain⟨c171,h⟩:=ao h
    refine KO Z (Lh Z Z c171) Z (TD.run ab [11] Z Z (LF (KG Z (KP ab Z (T.block ?_)))))
    obtain⟨E174,hE175,hO176⟩:=Np h
    refine Lv (fun m e Rs=> ∃ (y172:List UInt8) (k173:Nat),e = [(1,jP b3),(2,.string ⟨#[]⟩),(3,jS y172),(4,jI (k16:Int)),(5,jP b165),(6,jI (k173:Int))]∧Rs = [aW b165 191 #[jS x159.MO,.slice A162 x159.MH.length c163],aW b3 51 #[.bool a0.MM.null,jS a0.MM.data,jI a0.M5,jI a0.ML,.slice (some ⟨gz161,oz161,none⟩) a0.MF.length c2],aK]∧e7 x159 m y172 k173=some E174) (((x159.MH.length:Int)).toNat+1) [0,0,0] ⟨((y15++x166)++x169),0,Z,Z,by exact hE175⟩ QJ QJ ?_
    clear hE175 h
    rintro m177 _ _ ⟨y172,k173,rfl,rfl,h⟩
    cases m177 with
    | zero =>
     rw[e7] at h
     cases h
    | succ m177 =>
     rw[e7] at h
     refine T.seq (KG Z (KK ab aL 0 Z 3 Z Z (KH Z (KX Z N8) Z (KF ab 1 Z ?_))))
     rcases jF h with⟨c181,h⟩ | ⟨c181,h⟩
     ·refine La Z c181 (K3 (T.seq ?_))
      obtain⟨y234,h,hk235⟩:=Np h
      refine Lz (fun e Rs=>e = [(1,jP b3),(2,.string ⟨#[]⟩),(3,jS y234),(4,jI (k16:Int)),(5,jP b165),(6,jI (k173:Int))]∧Rs = [aW b165 191 #[jS x159.MO,.slice A162 x159.MH.length c163],aW b3 51 #[.bool a0.MM.null,jS a0.MM.data,jI a0.M5,jI a0.ML,.slice (some ⟨gz161,oz161,none⟩) a0.MF.length c2],aK]) ?_ ?_
      ·clear hk235
       refine T.block (KG Z (KP ab Z (T.seq (KG Z (KP ab Z (T.block ?_))))))
       obtain⟨E238,hE239,hO240⟩:=Np h
       refine Lv (fun m e Rs=> ∃ (y236:List UInt8) (k237:Nat),e = [(1,jP b3),(2,.string ⟨#[]⟩),(3,jS y172),(4,jI (k16:Int)),(5,jP b165),(6,jI (k173:Int)),(7,jS y236),(8,jI (k237:Int))]∧Rs = [aW b165 191 #[jS x159.MO,.slice A162 x159.MH.length c163],aW b3 51 #[.bool a0.MM.null,jS a0.MM.data,jI a0.M5,jI a0.ML,.slice (some ⟨gz161,oz161,none⟩) a0.MF.length c2],aK]∧eZ x159 k173 m y236 k237=some E238) (((x159.MH[k173]?).map (fun x236=>((x236.MP.length:Int)).toNat+1)).getD 0) [0,0,0] ⟨[],0,Z,Z,by exact hE239⟩ QJ QJ ?_
       clear hE239 h
       rintro m241 _ _ ⟨y236,k237,rfl,rfl,h⟩
       cases m241 with
       | zero =>
        rw[eZ] at h
        cases h
       | succ m241 =>
        rw[eZ] at h
        refine T.seq (KG Z ?_)
        obtain⟨x245,hx246,h⟩:=Np h
        obtain⟨gz247,oz247,rfl,z247cs,z247cl,z247cc,z247nf,z247r⟩:=Lf QH hX164 hx246
        obtain⟨z247S,z247r,z247rr⟩:=z247r
        obtain⟨A248,c249,rfl,z247s0⟩:=z247r
        have hX250:(RX.of (aq 12 dG) [.slice A248 x245.MP.length c249] x245.MP).reads w F:=⟨z247S,z247s0,z247rr⟩
        refine KK ab aL 0 Z 4 Z Z ?_
        refine KH Z (K1 (k:=k173) Z Z Z N8 Pd (Nw hx246).1) Z ?_
        refine KF ab 1 Z (KH Z (Ln 1 Z O9 z247nf z247cc Z Z) Z (KH Z (KX Z NY) Z (KF ab 1 Z ?_)))
        rcases jF h with⟨c251,h⟩ | ⟨c251,h⟩
        ·refine La Z c251 (K3 (T.seq (T.block (T.region Z (KK ab aL 0 Z 4 Z Z ?_)))))
         refine KH Z (K1 (k:=k173) Z Z Z N8 Pd (Nw hx246).1) Z ?_
         refine KF ab 1 Z (KH Z (Ln 1 Z O9 z247nf z247cc Z Z) Z ?_)
         obtain⟨x252,hx253,h⟩:=Np h
         obtain⟨gz254,oz254,rfl,z254cs,z254cl,z254cc,z254nf,z254r⟩:=Lf QH hX250 hx253
         obtain⟨z254S,z254r,z254rr⟩:=z254r
         obtain⟨A255,c256,rfl,z254s0⟩:=z254r
         have hX257:(RX.of (aq 7 da) [.slice A255 x252.MK.length c256] x252.MK).reads w F:=⟨z254S,z254s0,z254rr⟩
         refine KF ab 1 Z ?_
         refine KH Z (K1 (k:=k237) Z Z Z NY NJ (Nw hx253).1) Z ?_
         refine KH Z (LI (us:=wL5 x252 A255 c256) 0 Z N6 NJ z254nf z254cc Z Z Z) Z ?_
         obtain⟨x258,hx259,h⟩:=Np h
         refine K2 Z .u (.fn Tryz.call111 Z) (sZ x252 _ _ _ hx259) (fun _ hs=>(K0 hs hX257)) Z ?_
         obtain⟨c260,h⟩:=ao h
         refine KH Z (Lh Z Z c260) Z (KF ab 1 Z (TL.nil (K4 (X.seq (T.region Z ?_)))))
         obtain⟨c261,h⟩:=ao h
         exact KF ab 1 Z (KH Z (Ex.add Z Z c261) Z (KF ab 1 Z (TL.nil (X.back (m':=m241) [0,0,0] QG ⟨(y236++x258),k237+1,Z,Z,h⟩ QJ QJ))))
        refine K9 Z c251 ?_
        obtain rfl:=Nq h
        replace h:=hO240
        clear hO240
        refine T.exit (KZ (KZ (Lu (X.seq (T.region Z ?_)))))
        obtain⟨x262,hx263,h⟩:=Np h
        obtain⟨z264cs,z264cl,z264cc,z264nf,z264r⟩:=Mc QH hX164 hx263
        obtain⟨z264S,z264r,z264rr⟩:=z264r
        obtain⟨A265,c266,rfl,z264s0⟩:=z264r
        have hX267:(RX.of (aq 12 dG) [.slice A265 x262.MP.length c266] x262.MP).reads w F:=⟨z264S,z264s0,z264rr⟩
        refine KK ab aL 0 Z 4 Z Z ?_
        refine KH Z (K1 (k:=k173) Z Z Z N8 Pd (Nw hx263).1) Z ?_
        refine KF ab 1 Z (KH Z (Ln 0 Z Nz z264nf z264cc Z Z) Z ?_)
        obtain⟨x268,hx269,h⟩:=Np h
        refine K2 Z .u (.fn Tryz.call63 Z) (bA x262.M2 4 _ hx269) rT Z ?_
        obtain⟨c270,h⟩:=ao h
        refine KH Z (Lh Z Z c270) Z (KF ab 1 Z ?_)
        refine KH Z (Ld (cells:= #[.bool false,jS y236]) lV Z QI) Z ?_
        obtain⟨x271,hx272,h⟩:=Np h
        refine K2 Z .u (.fn Tryz.call110 Z) (iM (⟨false,y236⟩:Bl) 4 _ hx272) rT Z ?_
        obtain⟨c273,h⟩:=ao h
        refine KH Z (Lh Z Z c273) Z (KF ab 1 Z ?_)
        cases h
        exact TL.nil (K4 (KR [0,0,0]))
      rintro _ _ ⟨rfl,rfl⟩
      clear h
      have h:=hk235
      clear hk235
      refine X.seq (T.region Z ?_)
      obtain⟨c288,h⟩:=ao h
      exact KF ab 1 Z (KH Z (Ex.add Z Z c288) Z (KF ab 1 Z (TL.nil (X.back (m':=m177) [0,0,0] QG ⟨y234,k173+1,Z,Z,h⟩ QJ QJ))))
     refine K9 Z c181 ?_
     obtain rfl:=Nq h
     replace h:=hO176
     clear hO176
     try dsimp only at h
     cases h
     exact T.exit (KZ (KZ (Lu (K4 (KR [1,1])))))
   rintro _ _ ⟨rfl,rfl⟩
   clear h
   have h:=hk158
   clear hk158
   refine X.seq (T.region Z ?_)
   obtain⟨c291,h⟩:=ao h
   exact KF ab 1 Z (KH Z (Ex.add Z Z c291) Z (KF ab 1 Z (TL.nil (X.back (m':=m20) [0,0] QG ⟨y157,k16+1,Z,Z,h⟩ QJ QJ))))
  refine K9 Z c24 ?_
  obtain rfl:=Nq h
  replace h:=hO19
  clear hO19
  refine T.exit (KZ (KZ (Lu (X.seq (KG Z (KF ab 2 Z ?_))))))
  obtain rfl:=Nq h
  exact KI (T.ret (KQ [1] Tryz.results60 (KJ Z)))
def eU (x29:dD) (x36:dD):Nat→Bool→Nat→Option (Lp Bool (Bool×Nat))
 | 0,_,_=>none
 | m54+1,y49,k50=>if (k50:Int)<(x29.MH.length:Int) then (((x29.MH[k50]?).bind fun x76=>(x36.MH[k50]?).bind fun x82=>if x76.M2=x82.M2 then ((lq x76.MP x82.MP).bind fun x89=>if x89=true then some false else some true) else some true).bind fun y74=>if y74=true then some (Lp.ret false) else (if -9223372036854775808≤((k50:Int)+1)∧((k50:Int)+1)≤9223372036854775807 then (eU x29 x36 m54 y49 (k50+1)) else none)) else (some (Lp.go (y49,k50)))
def eV (a0:bl) (a1:bl):Nat→Bool→Nat→Option (Lp Bool (Bool×Nat))
 | 0,_,_=>none
 | m24+1,y19,k20=>if (k20:Int)<(a0.MF.length:Int) then ((a0.MF[k20]?).bind fun x29=>(a1.MF[k20]?).bind fun x36=>(if x29.MO=x36.MO then (if (x29.MH.length:Int)=(x36.MH.length:Int) then some false else some true) else some true).bind fun y44=>if y44=true then some (Lp.ret false) else ((eU x29 x36 (((x29.MH.length:Int)).toNat+1) y19 0).bind fun e=>match e with | .ret r=>some (Lp.ret r) | .go (y95,k96)=>(if -9223372036854775808≤((k20:Int)+1)∧((k20:Int)+1)≤9223372036854775807 then (eV a0 a1 m24 y95 (k20+1)) else none))) else (some (Lp.go (y19,k20)))
theorem v5 (a0:bl) (a1:bl) (u1:Bool) (u2:Nat):eV a0 a1 0 u1 u2=none:=rfl
theorem v6 (a0:bl) (a1:bl) (m24:Nat) (y19:Bool) (k20:Nat):eV a0 a1 (m24+1) y19 k20=(if (k20:Int)<(a0.MF.length:Int) then ((a0.MF[k20]?).bind fun x29=>(a1.MF[k20]?).bind fun x36=>(if x29.MO=x36.MO then (if (x29.MH.length:Int)=(x36.MH.length:Int) then some false else some true) else some true).bind fun y44=>if y44=true then some (Lp.ret false) else ((eU x29 x36 (((x29.MH.length:Int)).toNat+1) y19 0).bind fun e=>match e with | .ret r=>some (Lp.ret r) | .go (y95,k96)=>(if -9223372036854775808≤((k20:Int)+1)∧((k20:Int)+1)≤9223372036854775807 then (eV a0 a1 m24 y95 (k20+1)) else none))) else (some (Lp.go (y19,k20)))):=rfl
def et (a0:bl) (a1:bl):Option (Bool):=(if a0.MM.null=a1.MM.null then (if a0.MM.data=a1.MM.data then (if a0.M5=a1.M5 then (if a0.ML=a1.ML then (if (a0.MF.length:Int)=(a1.MF.length:Int) then some false else some true) else some true) else some true) else some true) else some true).bind fun y11=>if y11=true then some false else ((eV a0 a1 (((a0.MF.length:Int)).toNat+1) false 0).bind fun e=>match e with | .ret r=>some r | .go (y98,k99)=>some true)
theorem ge (a0:bl) (A1:Option Addr) (c2:Nat) (a1:bl) (A3:Option Addr) (c4:Nat) (r:Bool) (h:et a0 a1=some r):aH Tryz.prog 66 #[.agg #[.bool a0.MM.null,jS a0.MM.data,jI a0.M5,jI a0.ML,.slice A1 a0.MF.length c2],.agg #[.bool a1.MM.null,jS a1.MM.data,jI a1.M5,jI a1.ML,.slice A3 a1.MF.length c4]] (RX.and (RX.of (aq 2 ca) [.slice A1 a0.MF.length c2] a0.MF) (RX.of (aq 2 ca) [.slice A3 a1.MF.length c4] a1.MF)) (aK) (fun v A' N=>v= .bool r∧A'=aK∧N = []):=by
 refine aU Tryz.func66 Z Tryz.ntmps66 Z ?_
 intro F w hX
 unfold et at h
 refine KG Z (TL.box Z .u Z Z (fun b5=>(TL.box Z .u Z Z (fun b6=>(KP ab Z (L3 ?_))))))
 obtain⟨y11,h,hk12⟩:=Np h
 refine Lz (fun e Rs=>e = [(2,jP b5),(3,jP b6),(4,.bool false),(36,.bool y11)]∧Rs = [aW b6 51 #[.bool a1.MM.null,jS a1.MM.data,jI a1.M5,jI a1.ML,.slice A3 a1.MF.length c4],aW b5 51 #[.bool a0.MM.null,jS a0.MM.data,jI a0.M5,jI a0.ML,.slice A1 a0.MF.length c2],aK]) ?_ ?_
 ·clear hk12
  refine T.region Z (KF ab 1 Z (KH Z (KY (us:=wL6 a0.MM) 1 Z N0 ND Z Z Z) Z (KF ab 1 Z (KH Z (KY (us:=wL6 a1.MM) 0 Z N0 ND Z Z Z) Z ?_))))
  rcases jF h with⟨c13,h⟩ | ⟨c13,h⟩
  ·rcases jF h with⟨c14,h⟩ | ⟨c14,h⟩
   ·refine KH Z (MA (us:=wL6 a0.MM) (vs:=wL6 a1.MM) iR Z OH Z Z Z Z (bE (jX c13) (bE (gj (l:=a0.MM.data) (m:=a1.MM.data) c14) Z))) Z (KK ab aL 1 Z 4 Z Z ?_)
    rcases jF h with⟨c15,h⟩ | ⟨c15,h⟩
    ·refine KK ab aL 0 Z 4 Z Z (KN 21 Z (bf (Nt c15)) (KK ab aL 1 Z 3 Z Z ?_))
     rcases jF h with⟨c16,h⟩ | ⟨c16,h⟩
     ·refine KK ab aL 0 Z 4 Z Z (KN 28 Z (bf (Nt c16)) (KK ab aL 1 Z 2 Z Z (TL.q Z (.g Z Z Z) (KX Z Og) Z (KK ab aL 0 Z 2 Z Z (TL.q Z (.g Z Z Z) (KX Z Og) Z (KM ab 2 Z ?_))))))
      rcases jF h with⟨c17,h⟩ | ⟨c17,h⟩
      ·cases h
       exact TL.nil (LE (d:=36) (v':= .bool false) Z (congrArg Value.bool (bf (Nt c17))) (KR [0,0,0]))
      cases h
      exact TL.nil (LE (d:=36) (v':= .bool true) Z (congrArg Value.bool (bG (Nu c17))) (KR [0,0,0]))
     refine KK ab aL 0 Z 4 Z Z (KN 28 Z (bG (Nu c16)) (KM ab 8 Z ?_))
     cases h
     exact TL.nil (KR [0,0,0])
    refine KK ab aL 0 Z 4 Z Z (KN 21 Z (bG (Nu c15)) (KM ab 15 Z ?_))
    cases h
    exact TL.nil (KR [0,0,0])
   refine KH Z (MA (us:=wL6 a0.MM) (vs:=wL6 a1.MM) iR Z OH Z Z Z Z (bE (jX c13) (eK (mj (l:=a0.MM.data) (m:=a1.MM.data) c14)))) Z (KM ab 23 Z ?_)
   cases h
   exact TL.nil (KR [0,0,0])
  refine KH Z (MA (us:=wL6 a0.MM) (vs:=wL6 a1.MM) iR Z OH Z Z Z Z (eK (nb c13))) Z (KM ab 23 Z ?_)
  cases h
  exact TL.nil (KR [0,0,0])
 rintro _ _ ⟨rfl,rfl⟩
 clear h
 have h:=hk12
 clear hk12
 try dsimp only at h
 rcases jF h with⟨c18,h⟩ | ⟨c18,h⟩
 ·refine X.seq (KV Z c18 (KG Z (KF ab 1 Z ?_)))
  obtain rfl:=Nq h
  exact KI (T.ret (KL (KQ [2] QC (KJ Z))))
 replace c18:=Nx c18
 refine X.seq (Lb Z c18 (K3 (T.seq (KG Z (KP ab Z (T.block ?_))))))
 obtain⟨E21,hE22,hO23⟩:=Np h
 refine Lv (fun m e Rs=> ∃ (y19:Bool) (k20:Nat),e = [(2,jP b5),(3,jP b6),(4,.bool y19),(5,jI (k20:Int))]∧Rs = [aW b6 51 #[.bool a1.MM.null,jS a1.MM.data,jI a1.M5,jI a1.ML,.slice A3 a1.MF.length c4],aW b5 51 #[.bool a0.MM.null,jS a0.MM.data,jI a0.M5,jI a0.ML,.slice A1 a0.MF.length c2],aK]∧eV a0 a1 m y19 k20=some E21) (((a0.MF.length:Int)).toNat+1) [0,0,0] ⟨false,0,Z,Z,by exact hE22⟩ QJ QJ ?_
 clear hE22 h
 rintro m24 _ _ ⟨y19,k20,rfl,rfl,h⟩
 cases m24 with
 | zero =>
  rw[v5] at h
  cases h
 | succ m24 =>
  rw[v6] at h
  refine T.seq (KG Z (KK ab aL 1 Z 3 Z Z (KH Z (KX Z Og) Z (KF ab 1 Z ?_))))
  rcases jF h with⟨c28,h⟩ | ⟨c28,h⟩
  ·refine La Z c28 (K3 (T.seq (T.block (KG Z ?_))))
   obtain⟨x29,hx30,h⟩:=Np h
   obtain⟨gz31,oz31,rfl,z31cs,z31cl,z31cc,z31nf,z31r⟩:=Lf QH (Ll hX) hx30
   obtain⟨z31S,z31r,z31rr⟩:=z31r
   obtain⟨A32,c33,rfl,z31s0⟩:=z31r
   have hX34:(RX.of (aq 2 fq) [.slice A32 x29.MH.length c33] x29.MH).reads w F:=⟨z31S,z31s0,z31rr⟩
   refine KK ab aL 1 Z 3 Z Z ?_
   refine KH Z (K1 (k:=k20) Z Z Z Og OB (Nw hx30).1) Z ?_
   refine KH Z (LI (us := [jS x29.MO,.slice A32 x29.MH.length c33]) 0 Z Qj OB z31nf z31cc Z Z Z) Z (TL.alloc Z .u Tryz.zeroValue191 Z (fun b35=>(KW 0 Z (cs':= #[jS x29.MO,.slice A32 x29.MH.length c33]) Z .u Z Z OB Z Z Z Z Z (K7 Z ?_))))
   obtain⟨x36,hx37,h⟩:=Np h
   obtain⟨gz38,oz38,rfl,z38cs,z38cl,z38cc,z38nf,z38r⟩:=Lf QH (K6 hX) hx37
   obtain⟨z38S,z38r,z38rr⟩:=z38r
   obtain⟨A39,c40,rfl,z38s0⟩:=z38r
   have hX41:(RX.of (aq 2 fq) [.slice A39 x36.MH.length c40] x36.MH).reads w F:=⟨z38S,z38s0,z38rr⟩
   refine KK ab aL 1 Z 3 Z Z ?_
   refine KH Z (K1 (k:=k20) Z Z Z Og OB (Nw hx37).1) Z ?_
   refine KH Z (LI (us := [jS x36.MO,.slice A39 x36.MH.length c40]) 0 Z Qj OB z38nf z38cc Z Z Z) Z (TL.alloc Z .u Tryz.zeroValue191 Z (fun b42=>(KW 0 Z (cs':= #[jS x36.MO,.slice A39 x36.MH.length c40]) Z .u Z Z OB Z Z Z Z Z (KI (L3 ?_)))))
   obtain⟨y44,h,hk45⟩:=Np h
   refine Lz (fun e Rs=>e = [(2,jP b5),(3,jP b6),(4,.bool y19),(5,jI (k20:Int)),(6,jP b35),(7,jP b42),(67,.bool y44)]∧Rs = [aW b42 191 #[jS x36.MO,.slice A39 x36.MH.length c40],aW b35 191 #[jS x29.MO,.slice A32 x29.MH.length c33],aW b6 51 #[.bool a1.MM.null,jS a1.MM.data,jI a1.M5,jI a1.ML,.slice (some ⟨gz38,oz38,none⟩) a1.MF.length c4],aW b5 51 #[.bool a0.MM.null,jS a0.MM.data,jI a0.M5,jI a0.ML,.slice (some ⟨gz31,oz31,none⟩) a0.MF.length c2],aK]) ?_ ?_
   ·clear hk45
    refine T.region Z (KK ab aL 1 Z 3 Z Z (KK ab aL 0 Z 1 Z Z (KH Z (Mv Z Z) Z ?_)))
    rcases jF h with⟨c46,h⟩ | ⟨c46,h⟩
    ·refine KF ab 1 Z (KN 59 Z (bf (Nt c46)) (KK ab aL 1 Z 2 Z Z (TL.q Z (.g Z Z Z) (KX Z N8) Z (KK ab aL 0 Z 2 Z Z (TL.q Z (.g Z Z Z) (KX Z N8) Z (KM ab 2 Z ?_))))))
     rcases jF h with⟨c47,h⟩ | ⟨c47,h⟩
     ·cases h
      exact TL.nil (LE (d:=67) (v':= .bool false) Z (congrArg Value.bool (bf (Nt c47))) (KR [0,0,0,0,0]))
     cases h
     exact TL.nil (LE (d:=67) (v':= .bool true) Z (congrArg Value.bool (bG (Nu c47))) (KR [0,0,0,0,0]))
    refine KF ab 1 Z (KN 59 Z (bG (Nu c46)) (KM ab 8 Z ?_))
    cases h
    exact TL.nil (KR [0,0,0,0,0])
   rintro _ _ ⟨rfl,rfl⟩
   clear h
   have h:=hk45
   clear hk45
   try dsimp only at h
   rcases jF h with⟨c48,h⟩ | ⟨c48,h⟩
   ·refine X.seq (KV Z c48 (KG Z (KF ab 1 Z ?_)))
    obtain rfl:=Nq h
    obtain rfl:=Nq hO23
    exact KI (T.ret (KL (KU (KL (KL (KU (KL (KQ [4] QC (KJ Z)))))))))
   replace c48:=Nx c48
   refine X.seq (Lb Z c48 (Lg Z (KP ab Z (T.block ?_))))
   obtain⟨E51,hE52,hO53⟩:=Np h
   refine Lv (fun m e Rs=> ∃ (y49:Bool) (k50:Nat),e = [(2,jP b5),(3,jP b6),(4,.bool y49),(5,jI (k20:Int)),(6,jP b35),(7,jP b42),(8,jI (k50:Int))]∧Rs = [aW b42 191 #[jS x36.MO,.slice A39 x36.MH.length c40],aW b35 191 #[jS x29.MO,.slice A32 x29.MH.length c33],aW b6 51 #[.bool a1.MM.null,jS a1.MM.data,jI a1.M5,jI a1.ML,.slice (some ⟨gz38,oz38,none⟩) a1.MF.length c4],aW b5 51 #[.bool a0.MM.null,jS a0.MM.data,jI a0.M5,jI a0.ML,.slice (some ⟨gz31,oz31,none⟩) a0.MF.length c2],aK]∧eU x29 x36 m y49 k50=some E51) (((x29.MH.length:Int)).toNat+1) [0,0,0,0,0] ⟨y19,0,Z,Z,by exact hE52⟩ QJ QJ ?_
   clear hE52 h
   rintro m54 _ _ ⟨y49,k50,rfl,rfl,h⟩
   cases m54 with
   | zero =>
    rw[eU] at h
    cases h
   | succ m54 =>
    rw[eU] at h
    refine T.seq (KG Z (KK ab aL 1 Z 3 Z Z (KH Z (KX Z N8) Z (KF ab 1 Z ?_))))
    rcases jF h with⟨c58,h⟩ | ⟨c58,h⟩
    ·refine La Z c58 (K3 (T.seq (T.block (T.seq ?_))))
     obtain⟨y74,h,hk75⟩:=Np h
     refine Lz (fun e Rs=>e = [(2,jP b5),(3,jP b6),(4,.bool y49),(5,jI (k20:Int)),(6,jP b35),(7,jP b42),(8,jI (k50:Int)),(103,.bool y74)]∧Rs = [aW b42 191 #[jS x36.MO,.slice A39 x36.MH.length c40],aW b35 191 #[jS x29.MO,.slice A32 x29.MH.length c33],aW b6 51 #[.bool a1.MM.null,jS a1.MM.data,jI a1.M5,jI a1.ML,.slice (some ⟨gz38,oz38,none⟩) a1.MF.length c4],aW b5 51 #[.bool a0.MM.null,jS a0.MM.data,jI a0.M5,jI a0.ML,.slice (some ⟨gz31,oz31,none⟩) a0.MF.length c2],aK]) ?_ ?_
     ·clear hk75
      refine Lm (.q 0 (.q 1 (.q 2 (.q 3 (.q 4 (.q 5 (.q 6 (.q 7 (.q 8 (.q 9 (.q 10 (.q 11 (.q 12 (.q 13 (.q 14 (.q 15 (.q 16 (.q 17 (.q 18 (.q 19 (.q 20 (.q 21 (.q 22 (.q 23 (.q 24 (.q 25 (.e 26 (.q 27 (.q 28 .nil))))))))))))))))))))))))))))) [0,0,0,0,0] Z gw (NoP.seq (NoP.seq (NoP.blk (NoP.seq (NoP.seq (NoP.blk (NoP.blk (NoP.seq (NoP.seq (NoP.blk (NoP.seq bu))))))))))) QI ?_
      refine TD.run ab [0] Z Z (KO Z (K5 1 Z Pa Z Z) Z ?_)
      obtain⟨x76,hx77,h⟩:=Np h
      obtain⟨gz78,oz78,rfl,z78cs,z78cl,z78cc,z78nf,z78r⟩:=Lf QH hX34 hx77
      obtain⟨z78S,z78r,z78rr⟩:=z78r
      obtain⟨A79,c80,rfl,z78s0⟩:=z78r
      have hX81:(RX.of (aq 12 dG) [.slice A79 x76.MP.length c80] x76.MP).reads w F:=⟨z78S,z78s0,z78rr⟩
      refine TD.run ab [2] Z Z ?_
      refine KO Z (K1 (k:=k50) Z Z Z N8 Pd (Nw hx77).1) Z ?_
      refine TD.run ab [4] Z Z (KO Z (Ln 0 Z Nz z78nf z78cc Z Z) Z (TD.run ab [6] Z Z (KO Z (K5 0 Z Pa Z Z) Z ?_)))
      obtain⟨x82,hx83,h⟩:=Np h
      obtain⟨gz84,oz84,rfl,z84cs,z84cl,z84cc,z84nf,z84r⟩:=Lf QH hX41 hx83
      obtain⟨z84S,z84r,z84rr⟩:=z84r
      obtain⟨A85,c86,rfl,z84s0⟩:=z84r
      have hX87:(RX.of (aq 12 dG) [.slice A85 x82.MP.length c86] x82.MP).reads w F:=⟨z84S,z84s0,z84rr⟩
      refine TD.run ab [8] Z Z ?_
      refine KO Z (K1 (k:=k50) Z Z Z N8 Pd (Nw hx83).1) Z ?_
      refine TD.run ab [10] Z Z (KO Z (Ln 0 Z Nz z84nf z84cc Z Z) Z ?_)
      rcases jF h with⟨c88,h⟩ | ⟨c88,h⟩
      ·refine TD.run ab [12,13] Z Z (TD.q Z (.g Z Z (bf (Nt c88))) (Ls ab Z) Z (TD.q Z (.g Z Z (bf (Nt c88))) (K5 1 Z Pa Z Z) Z (TD.q Z (.g Z Z (bf (Nt c88))) (Ls ab Z) Z ?_)))
       refine TD.q Z (.g Z Z (bf (Nt c88))) (K1 (k:=k50) Z Z Z N8 Pd (Nw hx77).1) Z ?_
       refine TD.q Z (.g Z Z (bf (Nt c88))) (Ls ab Z) Z (TD.q Z (.g Z Z (bf (Nt c88))) (Ln 1 Z O9 z78nf z78cc Z Z) Z (TD.q Z (.g Z Z (bf (Nt c88))) (Ls ab Z) Z (TD.q Z (.g Z Z (bf (Nt c88))) (K5 0 Z Pa Z Z) Z (TD.q Z (.g Z Z (bf (Nt c88))) (Ls ab Z) Z ?_))))
       refine TD.q Z (.g Z Z (bf (Nt c88))) (K1 (k:=k50) Z Z Z N8 Pd (Nw hx83).1) Z ?_
       refine TD.q Z (.g Z Z (bf (Nt c88))) (Ls ab Z) Z (TD.q Z (.g Z Z (bf (Nt c88))) (Ln 1 Z O9 z84nf z84cc Z Z) Z ?_)
       obtain⟨x89,hx90,h⟩:=Np h
       refine Lw Z (.g Z Z (bf (Nt c88))) (.fn Tryz.call114 Z) (vU x76.MP _ _ x82.MP _ _ _ hx90) (fun _ hs=>(RX.reads_and (K0 hs hX81) (K0 hs hX87))) Z [0,0,0,0,0] (Z) (TD.q Z (.g Z Z (bf (Nt c88))) (Ls ab Z) Z (KO Z (LL Z (bf (Nt c88)) Z) Z ?_))
       rcases jF h with⟨c91,h⟩ | ⟨c91,h⟩
       ·cases h
        exact TD.nil (LE (d:=103) (v':= .bool false) Z (congrArg Value.bool (bf c91)) (KR [0,0,0,0,0]))
       replace c91:=Nx c91
       cases h
       exact TD.nil (LE (d:=103) (v':= .bool true) Z (congrArg Value.bool (bG c91)) (KR [0,0,0,0,0]))
      refine TD.run ab [12,13] Z Z ?_
      iterate 12 refine LD Z (.gn Z Z (bG (Nu c88))) Z ?_
      refine L6 Z (.gn Z Z (bG (Nu c88))) Z [0,0,0,0,0] Z (LD Z (.gn Z Z (bG (Nu c88))) Z (KO Z (LN Z (bG (Nu c88)) Z) Z ?_))
      cases h
      exact TD.nil (KR [0,0,0,0,0])
     rintro _ _ ⟨rfl,rfl⟩
     clear h
     have h:=hk75
     clear hk75
     try dsimp only at h
     rcases jF h with⟨c92,h⟩ | ⟨c92,h⟩
     ·refine X.seq (KV Z c92 (KG Z (KF ab 1 Z ?_)))
      obtain rfl:=Nq h
      obtain rfl:=Nq hO53
      obtain rfl:=Nq hO23
      exact KI (T.ret (KU (KL (KL (KU (KU (KL (KL (KU (KL (KQ [4] QC (KJ Z))))))))))))
     replace c92:=Nx c92
     refine X.seq (Lb Z c92 (T.skip (K4 (X.seq (T.region Z ?_)))))
     obtain⟨c93,h⟩:=ao h
     exact KF ab 1 Z (KH Z (Ex.add Z Z c93) Z (KF ab 1 Z (TL.nil (X.back (m':=m54) [0,0,0,0,0] QG ⟨y49,k50+1,Z,Z,h⟩ QJ QJ))))
    refine K9 Z c58 ?_
    obtain rfl:=Nq h
    replace h:=hO53
    clear hO53
    refine T.exit (KZ (KZ (Lu (K4 (X.seq (T.region Z ?_))))))
    obtain⟨c94,h⟩:=ao h
    exact KF ab 1 Z (KH Z (Ex.add Z Z c94) Z (KF ab 1 Z (TL.nil (X.back (m':=m24) [2,2,2] QG ⟨y49,k20+1,Z,Z,h⟩ QJ QJ))))
  refine K9 Z c28 ?_
  obtain rfl:=Nq h
  replace h:=hO23
  clear hO23
  refine T.exit (KZ (KZ (Lu (X.seq (KG Z (KF ab 1 Z ?_))))))
  obtain rfl:=Nq h
  exact KI (T.ret (KQ [2] QC (KJ Z)))
def uF:fg := [(23,0,0),(23,1,1),(45,0,0),(45,1,1),(45,2,2),(45,3,3),(212,0,0),(212,1,2),(212,2,3)]
theorem au:(uF).OK Tryz.prog:=⟨FOK.mk NS rfl N5 rfl,FOK.mk NS rfl NZ rfl,FOK.mk Po rfl Ny rfl,FOK.mk Po rfl Ny rfl,FOK.mk Po rfl Ny rfl,FOK.mk Po rfl ND rfl,FOK.mk N9 rfl ND rfl,FOK.mk N9 rfl Ny rfl,FOK.mk N9 rfl Ny rfl,trivial⟩
def uG:List Nat := [3,4,9]
theorem cJ:NOK Tryz.prog uG:=⟨Nz,Ok,N4,trivial⟩
theorem s7:Tryz.prog.follows .mixedOrders=true:=by kernel_rfl
def ji (a0:Int) (a1:Int):Option (Int):=if a0=0 then (if a1=3 then some 0 else (if a1=4 then some 0 else some 7)) else (if a0=22 then (if a1=0 then some 0 else (if a1=1 then some 0 else some 7)) else (if a0=27 then (if a1=0 then some 0 else (if a1=1 then some 0 else some 7)) else (if a0=24 then (if a1=0 then some 0 else some 7) else (if a0=26 then (if a1=0 then some 0 else some 7) else some 12))))
theorem rp (a0:Int) (a1:Int) (r:Int) (h:ji a0 a1=some r):aH Tryz.prog 103 #[jI a0,jI a1] .triv (aK) (fun v A' N=>v=jI r∧A'=aK∧N = []):=by
 refine aU Tryz.func103 Z Tryz.ntmps103 Z ?_
 intro F w hX
 unfold ji at h
 refine KG Z (KP au Z (T.seq (KG Z (KP au Z (T.block (KG Z (KF au 2 Z ?_)))))))
 rcases jF h with⟨c1,h⟩ | ⟨c1,h⟩
 ·refine La Z c1 (T.seq (KG Z ?_))
  rcases jF h with⟨c2,h⟩ | ⟨c2,h⟩
  ·refine KF au 3 Z (KN 10 Z (Nt c2) (Lq au Z (KV Z Z (KG Z (KF au 1 Z ?_)))))
   obtain rfl:=Nq h
   exact KI (T.ret (KL (KU (KL (KQ [0] OL (KJ Z))))))
  refine KF au 3 Z (KN 10 Z (Nu c2) (KM au 3 Z ?_))
  rcases jF h with⟨c3,h⟩ | ⟨c3,h⟩
  ·refine La Z c3 (KG Z (KF au 1 Z ?_))
   obtain rfl:=Nq h
   exact KI (T.ret (KL (KU (KL (KQ [0] OL (KJ Z))))))
  refine K9 Z c3 (Lg Z (KF au 1 Z ?_))
  obtain rfl:=Nq h
  exact KI (T.ret (KU (KL (KQ [0] OL (KJ Z)))))
 refine K9 Z c1 (T.seq (KG Z (KF au 2 Z ?_)))
 rcases jF h with⟨c4,h⟩ | ⟨c4,h⟩
 ·refine La Z c4 (K3 (LU Z c4 (T.seq (KG Z ?_))))
  rcases jF h with⟨c5,h⟩ | ⟨c5,h⟩
  ·refine KF au 3 Z (KN 19 Z (Nt c5) (Lq au Z (KV Z Z (KG Z (KF au 1 Z ?_)))))
   obtain rfl:=Nq h
   exact KI (T.ret (KL (KU (KL (KQ [0] OL (KJ Z))))))
  refine KF au 3 Z (KN 19 Z (Nu c5) (KM au 3 Z ?_))
  rcases jF h with⟨c6,h⟩ | ⟨c6,h⟩
  ·refine La Z c6 (KG Z (KF au 1 Z ?_))
   obtain rfl:=Nq h
   exact KI (T.ret (KL (KU (KL (KQ [0] OL (KJ Z))))))
  refine K9 Z c6 (Lg Z (KF au 1 Z ?_))
  obtain rfl:=Nq h
  exact KI (T.ret (KU (KL (KQ [0] OL (KJ Z)))))
 refine K9 Z c4 (T.region Z (KF au 2 Z ?_))
 rcases jF h with⟨c7,h⟩ | ⟨c7,h⟩
 ·refine La Z c7 (T.seq (KG Z ?_))
  rcases jF h with⟨c8,h⟩ | ⟨c8,h⟩
  ·refine KF au 3 Z (KN 19 Z (Nt c8) (Lq au Z (KV Z Z (KG Z (KF au 1 Z ?_)))))
   obtain rfl:=Nq h
   exact KI (T.ret (KL (KU (KL (KQ [0] OL (KJ Z))))))
  refine KF au 3 Z (KN 19 Z (Nu c8) (KM au 3 Z ?_))
  rcases jF h with⟨c9,h⟩ | ⟨c9,h⟩
  ·refine La Z c9 (KG Z (KF au 1 Z ?_))
   obtain rfl:=Nq h
   exact KI (T.ret (KL (KU (KL (KQ [0] OL (KJ Z))))))
  refine K9 Z c9 (Lg Z (KF au 1 Z ?_))
  obtain rfl:=Nq h
  exact KI (T.ret (KU (KL (KQ [0] OL (KJ Z)))))
 refine K9 Z c7 (T.seq (KG Z (KF au 2 Z ?_)))
 rcases jF h with⟨c10,h⟩ | ⟨c10,h⟩
 ·refine La Z c10 (K3 (LU Z c10 (T.seq (KG Z (KF au 2 Z ?_)))))
  rcases jF h with⟨c11,h⟩ | ⟨c11,h⟩
  ·refine La Z c11 (KG Z (KF au 1 Z ?_))
   obtain rfl:=Nq h
   exact KI (T.ret (KL (KU (KL (KQ [0] OL (KJ Z))))))
  refine K9 Z c11 (Lg Z (KF au 1 Z ?_))
  obtain rfl:=Nq h
  exact KI (T.ret (KU (KL (KQ [0] OL (KJ Z)))))
 refine K9 Z c10 (T.region Z (KF au 2 Z ?_))
 rcases jF h with⟨c12,h⟩ | ⟨c12,h⟩
 ·refine La Z c12 (T.seq (KG Z (KF au 2 Z ?_)))
  rcases jF h with⟨c13,h⟩ | ⟨c13,h⟩
  ·refine La Z c13 (KG Z (KF au 1 Z ?_))
   obtain rfl:=Nq h
   exact KI (T.ret (KL (KU (KL (KQ [0] OL (KJ Z))))))
  refine K9 Z c13 (Lg Z (KF au 1 Z ?_))
  obtain rfl:=Nq h
  exact KI (T.ret (KU (KL (KQ [0] OL (KJ Z)))))
 refine K9 Z c12 (T.skip (K4 (X.seq (KG Z (KF au 1 Z ?_)))))
 obtain rfl:=Nq h
 exact KI (T.ret (KQ [0] OL (KJ Z)))
def lX (a0:iV):Option (Int):=(ji a0.MS a0.MR).bind fun x2=>if x2=0 then (if a0.MY<(-2147483648) then some 11 else (if a0.MY>2147483647 then some 11 else (if a0.MQ.null=true then (if a0.MQ.data = [] then (if (a0.MQ.data.length:Int)>32767 then some 4 else some 0) else some 4) else (if (a0.MQ.data.length:Int)>32767 then some 4 else some 0)))) else some x2
theorem uH (a0:iV) (r:Int) (h:lX a0=some r):aH Tryz.prog 53 #[.agg #[jI a0.MS,jI a0.MR,jI a0.MY,.bool a0.MQ.null,jS a0.MQ.data]] .triv (aK) (fun v A' N=>v=jI r∧A'=aK∧N = []):=by
 refine aU Tryz.func53 Z Tryz.ntmps53 Z ?_
 intro F w hX
 unfold lX at h
 refine KG Z (TL.box Z .u Z Z (fun b1=>(K8 au Z Z ?_)))
 obtain⟨x2,hx3,h⟩:=Np h
 refine KK au cJ 0 Z 4 Z Z (K2 Z .u (.fn Tryz.call103 Z) (rp a0.MS a0.MR _ hx3) rT Z (KP au Z (T.seq (KG Z (KF au 2 Z ?_)))))
 rcases jF h with⟨c4,h⟩ | ⟨c4,h⟩
 ·refine Lj Z c4 (K3 (T.seq (KG Z ?_)))
  rcases jF h with⟨c5,h⟩ | ⟨c5,h⟩
  ·refine KK au cJ 0 Z 4 Z Z (KN 15 Z (Nt c5) (Lq au Z (KV Z Z (KG Z (KF au 1 Z ?_)))))
   obtain rfl:=Nq h
   exact KI (T.ret (KL (KQ [1] Pt (KJ Z))))
  refine KK au cJ 0 Z 4 Z Z (KN 15 Z (Nu c5) (KK au cJ 0 Z 4 Z Z ?_))
  rcases jF h with⟨c6,h⟩ | ⟨c6,h⟩
  ·refine La Z c6 (KG Z (KF au 1 Z ?_))
   obtain rfl:=Nq h
   exact KI (T.ret (KL (KQ [1] Pt (KJ Z))))
  refine K9 Z c6 (K3 (T.seq (KG Z ?_)))
  rcases jF h with⟨c7,h⟩ | ⟨c7,h⟩
  ·refine KK au cJ 0 Z 4 Z Z (KN 23 Z c7 (KK au cJ 0 Z 3 Z Z (TL.q Z (.g Z Z Z) (Mv Z (m := []) Z) Z ?_)))
   rcases jF h with⟨c8,h⟩ | ⟨c8,h⟩
   ·refine KM au 2 Z (KN 29 Z (bf (Nt c8)) (KK au cJ 0 Z 3 Z Z (TL.q Z (.g Z Z Z) (Lx Z NE) Z (KM au 2 Z ?_))))
    rcases jF h with⟨c9,h⟩ | ⟨c9,h⟩
    ·refine La Z c9 (KG Z (KF au 1 Z ?_))
     obtain rfl:=Nq h
     exact KI (T.ret (KL (KQ [1] Pt (KJ Z))))
    refine K9 Z c9 (Lg Z (KF au 1 Z ?_))
    obtain rfl:=Nq h
    exact KI (T.ret (KQ [1] Pt (KJ Z)))
   refine KM au 2 Z (KN 29 Z (bG (Nu c8)) (Lq au Z (KV Z Z (KG Z (KF au 1 Z ?_)))))
   obtain rfl:=Nq h
   exact KI (T.ret (KL (KQ [1] Pt (KJ Z))))
  replace c7:=Nx c7
  refine KK au cJ 0 Z 4 Z Z (KN 23 Z c7 (KK au cJ 0 Z 9 Z Z (TL.q Z (.g Z Z Z) (Lx Z NE) Z (KM au 2 Z ?_))))
  rcases jF h with⟨c10,h⟩ | ⟨c10,h⟩
  ·refine La Z c10 (KG Z (KF au 1 Z ?_))
   obtain rfl:=Nq h
   exact KI (T.ret (KL (KQ [1] Pt (KJ Z))))
  refine K9 Z c10 (Lg Z (KF au 1 Z ?_))
  obtain rfl:=Nq h
  exact KI (T.ret (KQ [1] Pt (KJ Z)))
 refine Li Z c4 (KG Z (KF au 2 Z ?_))
 obtain rfl:=Nq h
 exact KI (T.ret (KL (KQ [1] Pt (KJ Z))))
def lY (a0:iV):Option (List UInt8):=(cN a0.MS 2).bind fun x2=>(cN a0.MR 2).bind fun x4=>if x2.length+x4.length≤9223372036854775807 then ((cN a0.MY 4).bind fun x7=>if (x2++x4).length+x7.length≤9223372036854775807 then ((jW a0.MQ 2).bind fun x10=>if ((x2++x4)++x7).length+x10.length≤9223372036854775807 then (some (((x2++x4)++x7)++x10)) else none) else none) else none
theorem uI (a0:iV) (r:List UInt8) (h:lY a0=some r):aH Tryz.prog 59 #[.agg #[jI a0.MS,jI a0.MR,jI a0.MY,.bool a0.MQ.null,jS a0.MQ.data]] .triv (aK) (fun v A' N=>v=jS r∧A'=aK∧N = []):=by
 refine aU Tryz.func59 Z Tryz.ntmps59 Z ?_
 intro F w hX
 unfold lY at h
 refine KG Z (TL.box Z .u Z Z (fun b1=>(KF au 1 Z ?_)))
 refine KI (T.seq (Lm (.q 0 (.q 1 (.q 3 (.q 4 (.q 7 (.q 8 (.q 11 (.q 12 (.e 2 (.e 5 (.q 6 (.e 9 (.q 10 (.e 13 (.q 14 (.q 15 .nil)))))))))))))))) [0,0] Z s7 (NoP.seq bu) QI ?_))
 refine TD.run au [0] Z Z (KO Z (K5 0 Z Nz Z Z) Z (TD.run au [3] Z Z (KO Z (K5 0 Z Nz Z Z) Z (TD.run au [7] Z Z (KO Z (K5 0 Z Nz Z Z) Z (TD.run au [11] Z Z (KO Z (KY (us:=wL6 a0.MQ) 0 Z N0 ND Z Z Z) Z ?_)))))))
 obtain⟨x2,hx3,h⟩:=Np h
 refine Lw Z .u (.fn Tryz.call63 Z) (bA a0.MS 2 _ hx3) rT Z [0,0] (Z) ?_
 obtain⟨x4,hx5,h⟩:=Np h
 refine Lw Z .u (.fn Tryz.call63 Z) (bA a0.MR 2 _ hx5) rT Z [0,0] (Z) ?_
 obtain⟨c6,h⟩:=ao h
 refine KO Z (Lh Z Z c6) Z ?_
 obtain⟨x7,hx8,h⟩:=Np h
 refine Lw Z .u (.fn Tryz.call63 Z) (bA a0.MY 4 _ hx8) rT Z [0,0] (Z) ?_
 obtain⟨c9,h⟩:=ao h
 refine KO Z (Lh Z Z c9) Z ?_
 obtain⟨x10,hx11,h⟩:=Np h
 refine Lw Z .u (.fn Tryz.call110 Z) (iM a0.MQ 2 _ hx11) rT Z [0,0] (Z) ?_
 obtain⟨c12,h⟩:=ao h
 refine KO Z (Lh Z Z c12) Z (TD.run au [15] Z Z ?_)
 obtain rfl:=Nq h
 exact LF (T.ret (KQ [1] Tryz.results59 (KJ Z)))
def uJ:fg := [(23,0,0),(23,1,1),(47,0,0),(47,1,2),(47,2,3),(47,3,4),(47,4,5),(47,5,6),(212,0,0),(212,1,2),(212,2,3)]
theorem ai:(uJ).OK Tryz.prog:=⟨FOK.mk NS rfl N5 rfl,FOK.mk NS rfl NZ rfl,FOK.mk Pf rfl ND rfl,FOK.mk Pf rfl Ny rfl,FOK.mk Pf rfl Ny rfl,FOK.mk Pf rfl Ny rfl,FOK.mk Pf rfl Pq rfl,FOK.mk Pf rfl N5 rfl,FOK.mk N9 rfl ND rfl,FOK.mk N9 rfl Ny rfl,FOK.mk N9 rfl Ny rfl,trivial⟩
def uK:List Nat := [3,4,9,28]
theorem aJ:NOK Tryz.prog uK:=⟨Nz,Ok,N4,OZ,trivial⟩
theorem nX:Tryz.prog.follows .mixedOrders=true:=by kernel_rfl
theorem iS:fu Tryz.prog 2 23 [.bool,.string] true:=(fu.struct N0 ND rfl Tryz.underlying23 Tryz.stoodInHeld23 ⟨by decide,rfl,[.bool],[.string],false,rfl,(LK Ok N5 Tryz.underlying4),⟨by decide,rfl,[.string],[],false,rfl,(LK N4 NZ Tryz.underlying9),rfl⟩⟩)
def kq (a0:Bl):Option (Bool):=(if a0.null=true then some false else (if (a0.data.length:Int)≥1 then (if (a0.data.length:Int)≤32767 then some true else some false) else some false)).bind fun y4=>some y4
theorem oW (a0:Bl) (r:Bool) (h:kq a0=some r):aH Tryz.prog 107 #[.agg (wA7 a0)] .triv (aK) (fun v A' N=>v= .bool r∧A'=aK∧N = []):=by
 refine aU Tryz.func107 Z Tryz.ntmps107 Z ?_
 intro F w hX
 unfold kq at h
 refine KG Z (TL.box Z .u Z Z (fun b1=>(KP ai Z (T.seq ?_))))
 obtain⟨y4,h,hk5⟩:=Np h
 refine Lz (fun e Rs=>e = [(2,.bool y4)]∧Rs = [aW b1 23 (wA7 a0),aK]) ?_ ?_
 ·clear hk5
  refine T.region Z ?_
  rcases jF h with⟨c6,h⟩ | ⟨c6,h⟩
  ·refine KK ai aJ 0 Z 4 Z Z (KN 6 Z (bf c6) (KM ai 12 Z ?_))
   cases h
   exact TL.nil (KR [0,0])
  replace c6:=Nx c6
  refine KK ai aJ 0 Z 4 Z Z (KN 6 Z (bG c6) (KK ai aJ 0 Z 2 Z Z (TL.q Z (.g Z Z Z) (Lx Z NE) Z ?_)))
  rcases jF h with⟨c7,h⟩ | ⟨c7,h⟩
  ·refine KM ai 3 Z (KN 12 Z (Nt c7) (KK ai aJ 0 Z 2 Z Z (TL.q Z (.g Z Z Z) (Lx Z NE) Z (KM ai 3 Z ?_))))
   rcases jF h with⟨c8,h⟩ | ⟨c8,h⟩
   ·cases h
    exact TL.nil (LE (d:=2) (v':= .bool true) Z (congrArg Value.bool (Nt c8)) (KR [0,0]))
   cases h
   exact TL.nil (LE (d:=2) (v':= .bool false) Z (congrArg Value.bool (Nu c8)) (KR [0,0]))
  refine KM ai 3 Z (KN 12 Z (Nu c7) (KM ai 6 Z ?_))
  cases h
  exact TL.nil (KR [0,0])
 rintro _ _ ⟨rfl,rfl⟩
 clear h
 have h:=hk5
 clear hk5
 obtain rfl:=Nq h
 exact X.seq (T.ret (KQ [1] Tryz.results107 (KJ Z)))
def lu (a0:bF):Option (Bool):=(if a0.MG≥0 then (if a0.MJ≥0 then (if a0.MJ≤32767 then some true else some false) else some false) else some false).bind fun y6=>some y6
theorem nk (a0:bF) (A1:Option Addr) (c2:Nat) (r:Bool) (h:lu a0=some r):aH Tryz.prog 108 #[.agg (wA8 a0 A1 c2)] (RX.of (aq 2 bc) [.slice A1 a0.MF.length c2] a0.MF) (aK) (fun v A' N=>v= .bool r∧A'=aK∧N = []):=by
 refine aU Tryz.func108 Z Tryz.ntmps108 Z ?_
 intro F w hX
 unfold lu at h
 refine KG Z (TL.box Z .u Z Z (fun b3=>(KP ai Z (T.seq ?_))))
 obtain⟨y6,h,hk7⟩:=Np h
 refine Lz (fun e Rs=>e = [(2,.bool y6)]∧Rs = [aW b3 47 (wA8 a0 A1 c2),aK]) ?_ ?_
 ·clear hk7
  refine T.region Z ?_
  rcases jF h with⟨c8,h⟩ | ⟨c8,h⟩
  ·refine KK ai aJ 0 Z 4 Z Z (KN 6 Z (Nt c8) ?_)
   rcases jF h with⟨c9,h⟩ | ⟨c9,h⟩
   ·refine KK ai aJ 0 Z 5 Z Z (KN 11 Z (Nt c9) (KK ai aJ 0 Z 5 Z Z ?_))
    rcases jF h with⟨c10,h⟩ | ⟨c10,h⟩
    ·cases h
     exact TL.nil (LE (d:=2) (v':= .bool true) Z (congrArg Value.bool (Nt c10)) (KR [0,0]))
    cases h
    exact TL.nil (LE (d:=2) (v':= .bool false) Z (congrArg Value.bool (Nu c10)) (KR [0,0]))
   refine KK ai aJ 0 Z 5 Z Z (KN 11 Z (Nu c9) (KM ai 5 Z ?_))
   cases h
   exact TL.nil (KR [0,0])
  refine KK ai aJ 0 Z 4 Z Z (KN 6 Z (Nu c8) (KM ai 10 Z ?_))
  cases h
  exact TL.nil (KR [0,0])
 rintro _ _ ⟨rfl,rfl⟩
 clear h
 have h:=hk7
 clear hk7
 obtain rfl:=Nq h
 exact X.seq (T.ret (KQ [1] Tryz.results108 (KJ Z)))
def kr (a0:Int) (a1:Int) (a2:bF):Option (Int):=if a0=22 then ((if a2.MM.null=true then (if a2.MM.data = [] then some false else some true) else ((kq a2.MM).bind fun x13=>if x13=true then some false else some true)).bind fun y9=>if y9=true then some 4 else ((if a2.ML<0 then some true else (if a2.ML>2147483647 then some true else some false)).bind fun y18=>if y18=true then some 11 else ((if a2.MG=(-1) then (if a2.MJ=(-1) then some true else (if a1=1 then ((lu a2).bind fun x36=>some x36) else some false)) else (if a1=1 then ((lu a2).bind fun x39=>some x39) else some false)).bind fun y31=>if y31=true then some 0 else some 11))) else ((kq a2.MM).bind fun x42=>if x42=true then ((lu a2).bind fun x45=>if x45=true then ((if a0=24 then (if (a2.MF.length:Int)=0 then some true else some false) else some false).bind fun y49=>if y49=true then some 10 else ((if a0=24 then ((iu a2.MF).bind fun x60=>if x60=true then some false else some true) else some false).bind fun y57=>if y57=true then some 13 else some 0)) else some 11) else some 4)
theorem uL (a0:Int) (a1:Int) (a2:bF) (A1:Option Addr) (c2:Nat) (r:Int) (h:kr a0 a1 a2=some r):aH Tryz.prog 56 #[jI a0,jI a1,.agg (wA8 a2 A1 c2)] (RX.of (aq 2 bc) [.slice A1 a2.MF.length c2] a2.MF) (aK) (fun v A' N=>v=jI r∧A'=aK∧N = []):=by
 refine aU Tryz.func56 Z Tryz.ntmps56 Z ?_
 intro F w hX
 unfold kr at h
 refine KG Z (TL.box Z .u Z Z (fun b3=>(KP ai Z (T.seq (KG Z (KF ai 2 Z ?_))))))
 rcases jF h with⟨c4,h⟩ | ⟨c4,h⟩
 ·refine Lj Z c4 (K3 (L3 ?_))
  obtain⟨y9,h,hk10⟩:=Np h
  refine Lz (fun e Rs=>e = [(1,jI a1),(5,jP b3),(6,jI 0),(52,.bool y9)]∧Rs = [aW b3 47 (wA8 a2 A1 c2),aK]) ?_ ?_
  ·clear hk10
   refine T.region Z ?_
   rcases jF h with⟨c11,h⟩ | ⟨c11,h⟩
   ·refine KK ai aJ 0 Z 4 Z Z (KN 35 Z c11 (KK ai aJ 0 Z 3 Z Z (TL.q Z (.g Z Z Z) (Mv Z (m := []) Z) Z ?_)))
    rcases jF h with⟨c12,h⟩ | ⟨c12,h⟩
    ·refine KM ai 2 Z (KN 41 Z (bf (Nt c12)) (KK ai aJ 0 Z 5 Z Z (KN 46 Z (bf c11) (KM ai 6 Z ?_))))
     cases h
     exact TL.nil (KR [0,0])
    refine KM ai 2 Z (KN 41 Z (bG (Nu c12)) (KM ai 11 Z ?_))
    cases h
    exact TL.nil (KR [0,0])
   replace c11:=Nx c11
   refine KK ai aJ 0 Z 4 Z Z (KN 35 Z c11 (KK ai aJ 0 Z 11 Z Z (KN 46 Z (bG c11) (KM ai 1 Z (TL.q Z (.g Z Z Z) (KY (us:=wL6 a2.MM) 0 Z N0 ND Z Z Z) Z ?_)))))
   obtain⟨x13,hx14,h⟩:=Np h
   refine K2 Z (.g Z Z Z) (.fn Tryz.call107 Z) (oW a2.MM _ hx14) rT Z (KM ai 3 Z ?_)
   rcases jF h with⟨c15,h⟩ | ⟨c15,h⟩
   ·cases h
    exact TL.nil (LE (d:=52) (v':= .bool false) Z (congrArg Value.bool (bf c15)) (KR [0,0]))
   replace c15:=Nx c15
   cases h
   exact TL.nil (LE (d:=52) (v':= .bool true) Z (congrArg Value.bool (bG c15)) (KR [0,0]))
  rintro _ _ ⟨rfl,rfl⟩
  clear h
  have h:=hk10
  clear hk10
  try dsimp only at h
  rcases jF h with⟨c16,h⟩ | ⟨c16,h⟩
  ·refine X.seq (KV Z c16 (KG Z (KF ai 1 Z ?_)))
   obtain rfl:=Nq h
   exact KI (T.ret (KL (KQ [1] Pk (KJ Z))))
  replace c16:=Nx c16
  refine X.seq (Lb Z c16 (K3 (L3 ?_)))
  obtain⟨y18,h,hk19⟩:=Np h
  refine Lz (fun e Rs=>e = [(1,jI a1),(5,jP b3),(6,jI 0),(60,.bool y18)]∧Rs = [aW b3 47 (wA8 a2 A1 c2),aK]) ?_ ?_
  ·clear hk19
   refine T.region Z ?_
   rcases jF h with⟨c20,h⟩ | ⟨c20,h⟩
   ·refine KK ai aJ 0 Z 4 Z Z (KN 56 Z (Nt c20) (KM ai 4 Z ?_))
    cases h
    exact TL.nil (KR [0,0])
   refine KK ai aJ 0 Z 4 Z Z (KN 56 Z (Nu c20) (KK ai aJ 0 Z 4 Z Z ?_))
   rcases jF h with⟨c21,h⟩ | ⟨c21,h⟩
   ·cases h
    exact TL.nil (LE (d:=60) (v':= .bool true) Z (congrArg Value.bool (Nt c21)) (KR [0,0]))
   cases h
   exact TL.nil (LE (d:=60) (v':= .bool false) Z (congrArg Value.bool (Nu c21)) (KR [0,0]))
  rintro _ _ ⟨rfl,rfl⟩
  clear h
  have h:=hk19
  clear hk19
  try dsimp only at h
  rcases jF h with⟨c22,h⟩ | ⟨c22,h⟩
  ·refine X.seq (KV Z c22 (KG Z (KF ai 1 Z ?_)))
   obtain rfl:=Nq h
   exact KI (T.ret (KL (KQ [1] Pk (KJ Z))))
  replace c22:=Nx c22
  refine X.seq (Lb Z c22 (K3 (L3 ?_)))
  obtain⟨y31,h,hk32⟩:=Np h
  refine Lz (fun e Rs=>e = [(6,jI 0),(76,.bool y31)]∧Rs = [aW b3 47 (wA8 a2 A1 c2),aK]) ?_ ?_
  ·clear hk32
   refine T.region Z ?_
   rcases jF h with⟨c33,h⟩ | ⟨c33,h⟩
   ·refine KK ai aJ 0 Z 4 Z Z (KN 64 Z (Nt c33) ?_)
    rcases jF h with⟨c34,h⟩ | ⟨c34,h⟩
    ·refine KK ai aJ 0 Z 5 Z Z (KN 69 Z (Nt c34) (KM ai 7 Z ?_))
     cases h
     exact TL.nil (KR [0,0])
    refine KK ai aJ 0 Z 5 Z Z (KN 69 Z (Nu c34) ?_)
    rcases jF h with⟨c35,h⟩ | ⟨c35,h⟩
    ·refine KM ai 3 Z (KN 72 Z (Nt c35) (TL.q Z (.g Z Z Z) (KY (us:=wL9 a2 A1 c2) 0 Z PS O0 Z Z Z) Z ?_))
     obtain⟨x36,hx37,h⟩:=Np h
     refine K2 Z (.g Z Z Z) (.fn Tryz.call108 Z) (nk a2 _ _ _ hx37) (fun _ hs=>(K0 hs hX)) Z (KM ai 2 Z ?_)
     cases h
     exact TL.nil (KR [0,0])
    refine KM ai 3 Z (KN 72 Z (Nu c35) (KM ai 4 Z ?_))
    cases h
    exact TL.nil (KR [0,0])
   refine KK ai aJ 0 Z 4 Z Z (KN 64 Z (Nu c33) ?_)
   rcases jF h with⟨c38,h⟩ | ⟨c38,h⟩
   ·refine KM ai 8 Z (KN 72 Z (Nt c38) (TL.q Z (.g Z Z Z) (KY (us:=wL9 a2 A1 c2) 0 Z PS O0 Z Z Z) Z ?_))
    obtain⟨x39,hx40,h⟩:=Np h
    refine K2 Z (.g Z Z Z) (.fn Tryz.call108 Z) (nk a2 _ _ _ hx40) (fun _ hs=>(K0 hs hX)) Z (KM ai 2 Z ?_)
    cases h
    exact TL.nil (KR [0,0])
   refine KM ai 8 Z (KN 72 Z (Nu c38) (KM ai 4 Z ?_))
   cases h
   exact TL.nil (KR [0,0])
  rintro _ _ ⟨rfl,rfl⟩
  clear h
  have h:=hk32
  clear hk32
  try dsimp only at h
  rcases jF h with⟨c41,h⟩ | ⟨c41,h⟩
  ·refine X.seq (KV Z c41 (KG Z (KF ai 1 Z ?_)))
   obtain rfl:=Nq h
   exact KI (T.ret (KL (KQ [1] Pk (KJ Z))))
  replace c41:=Nx c41
  refine X.seq (Lb Z c41 (Lg Z (KF ai 1 Z ?_)))
  obtain rfl:=Nq h
  exact KI (T.ret (KQ [1] Pk (KJ Z)))
 refine Li Z c4 (T.seq (KG Z (KF ai 1 Z (KH Z (KY (us:=wL6 a2.MM) 0 Z N0 ND Z Z Z) Z ?_))))
 obtain⟨x42,hx43,h⟩:=Np h
 refine K2 Z .u (.fn Tryz.call107 Z) (oW a2.MM _ hx43) rT Z (KF ai 1 Z ?_)
 rcases jF h with⟨c44,h⟩ | ⟨c44,h⟩
 ·refine KI (Lb Z (bf c44) (K3 (T.seq (KG Z (KH Z (KY (us:=wL9 a2 A1 c2) 0 Z PS O0 Z Z Z) Z ?_)))))
  obtain⟨x45,hx46,h⟩:=Np h
  refine K2 Z .u (.fn Tryz.call108 Z) (nk a2 _ _ _ hx46) (fun _ hs=>(K0 hs hX)) Z (KF ai 1 Z ?_)
  rcases jF h with⟨c47,h⟩ | ⟨c47,h⟩
  ·refine KI (Lb Z (bf c47) (K3 (L3 ?_)))
   obtain⟨y49,h,hk50⟩:=Np h
   refine Lz (fun e Rs=>e = [(0,jI a0),(1,jI a1),(5,jP b3),(6,jI 0),(23,.bool y49)]∧Rs = [aW b3 47 (wA8 a2 A1 c2),aK]) ?_ ?_
   ·clear hk50
    refine T.region Z ?_
    rcases jF h with⟨c51,h⟩ | ⟨c51,h⟩
    ·refine KF ai 3 Z (KN 18 Z (Nt c51) (KK ai aJ 0 Z 2 Z Z (TL.q Z (.g Z Z Z) (KX Z NH) Z (KM ai 2 Z ?_))))
     rcases jF h with⟨c52,h⟩ | ⟨c52,h⟩
     ·cases h
      exact TL.nil (LE (d:=23) (v':= .bool true) Z (congrArg Value.bool (Nt c52)) (KR [0,0]))
     cases h
     exact TL.nil (LE (d:=23) (v':= .bool false) Z (congrArg Value.bool (Nu c52)) (KR [0,0]))
    refine KF ai 3 Z (KN 18 Z (Nu c51) (KM ai 5 Z ?_))
    cases h
    exact TL.nil (KR [0,0])
   rintro _ _ ⟨rfl,rfl⟩
   clear h
   have h:=hk50
   clear hk50
   try dsimp only at h
   rcases jF h with⟨c53,h⟩ | ⟨c53,h⟩
   ·refine X.seq (KV Z c53 (KG Z (KF ai 1 Z ?_)))
    obtain rfl:=Nq h
    exact KI (T.ret (KL (KL (KQ [1] Pk (KJ Z)))))
   replace c53:=Nx c53
   refine X.seq (Lb Z c53 (K3 (L3 ?_)))
   obtain⟨y57,h,hk58⟩:=Np h
   refine Lz (fun e Rs=>e = [(1,jI a1),(5,jP b3),(6,jI 0),(31,.bool y57)]∧Rs = [aW b3 47 (wA8 a2 A1 c2),aK]) ?_ ?_
   ·clear hk58
    refine T.region Z ?_
    rcases jF h with⟨c59,h⟩ | ⟨c59,h⟩
    ·refine KF ai 3 Z (KN 26 Z (Nt c59) ?_)
     obtain⟨x60,hx61,h⟩:=Np h
     refine KK ai aJ 0 Z 2 Z Z (K2 Z (.g Z Z Z) (.fn Tryz.call109 Z) (mm a2.MF _ _ _ hx61) (fun _ hs=>(K0 hs hX)) Z (KM ai 2 Z ?_))
     rcases jF h with⟨c62,h⟩ | ⟨c62,h⟩
     ·cases h
      exact TL.nil (LE (d:=31) (v':= .bool false) Z (congrArg Value.bool (bf c62)) (KR [0,0]))
     replace c62:=Nx c62
     cases h
     exact TL.nil (LE (d:=31) (v':= .bool true) Z (congrArg Value.bool (bG c62)) (KR [0,0]))
    refine KF ai 3 Z (KN 26 Z (Nu c59) (KM ai 5 Z ?_))
    cases h
    exact TL.nil (KR [0,0])
   rintro _ _ ⟨rfl,rfl⟩
   clear h
   have h:=hk58
   clear hk58
   try dsimp only at h
   rcases jF h with⟨c63,h⟩ | ⟨c63,h⟩
   ·refine X.seq (KV Z c63 (KG Z (KF ai 1 Z ?_)))
    obtain rfl:=Nq h
    exact KI (T.ret (KL (KL (KQ [1] Pk (KJ Z)))))
   replace c63:=Nx c63
   refine X.seq (Lb Z c63 (Lg Z (KF ai 1 Z ?_)))
   obtain rfl:=Nq h
   exact KI (T.ret (KL (KQ [1] Pk (KJ Z))))
  replace c47:=Nx c47
  refine KI (KV Z (bG c47) (KG Z (KF ai 1 Z ?_)))
  obtain rfl:=Nq h
  exact KI (T.ret (KL (KL (KQ [1] Pk (KJ Z)))))
 replace c44:=Nx c44
 refine KI (KV Z (bG c44) (KG Z (KF ai 1 Z ?_)))
 obtain rfl:=Nq h
 exact KI (T.ret (KL (KL (KQ [1] Pk (KJ Z)))))
def jk (a0:Int) (a1:Int) (a2:bF):Option (List UInt8):=(jW a2.MM 2).bind fun x4=>if a0=22 then ((cN a2.ML 4).bind fun x7=>if x4.length+x7.length≤9223372036854775807 then (if a1=0 then some (x4++x7) else ((cN a2.MG 8).bind fun x11=>if (x4++x7).length+x11.length≤9223372036854775807 then ((cN a2.MJ 2).bind fun x14=>if ((x4++x7)++x11).length+x14.length≤9223372036854775807 then (some (((x4++x7)++x11)++x14)) else none) else none)) else none) else ((cN a2.MG 8).bind fun x19=>if x4.length+x19.length≤9223372036854775807 then ((cN a2.MJ 2).bind fun x22=>if (x4++x19).length+x22.length≤9223372036854775807 then (if a0=24 then ((jB a2.MF).bind fun x26=>if ((x4++x19)++x22).length+x26.length≤9223372036854775807 then (some (((x4++x19)++x22)++x26)) else none) else ((if a0=26 then some a2.MZ else some false).bind fun y30=>if y30=true then ((cN 1 1).bind fun x34=>if ((x4++x19)++x22).length+x34.length≤9223372036854775807 then (some (((x4++x19)++x22)++x34)) else none) else (if a0=26 then ((cN 0 1).bind fun x38=>if ((x4++x19)++x22).length+x38.length≤9223372036854775807 then (some (((x4++x19)++x22)++x38)) else none) else (some ((x4++x19)++x22))))) else none) else none)
theorem uM (a0:Int) (a1:Int) (a2:bF) (A1:Option Addr) (c2:Nat) (r:List UInt8) (h:jk a0 a1 a2=some r):aH Tryz.prog 62 #[jI a0,jI a1,.agg (wA8 a2 A1 c2)] (RX.of (aq 2 bc) [.slice A1 a2.MF.length c2] a2.MF) (aK) (fun v A' N=>v=jS r∧A'=aK∧N = []):=by
 refine aU Tryz.func62 Z Tryz.ntmps62 Z ?_
 intro F w hX
 unfold jk at h
 refine KG Z (TL.box Z .u Z Z (fun b3=>(K8 ai Z Z (KF ai 1 Z (KH Z (KY (us:=wL6 a2.MM) 0 Z N0 ND Z Z Z) Z ?_)))))
 obtain⟨x4,hx5,h⟩:=Np h
 refine K2 Z .u (.fn Tryz.call110 Z) (iM a2.MM 2 _ hx5) rT Z (KP ai Z (T.seq (KG Z (KF ai 2 Z ?_))))
 rcases jF h with⟨c6,h⟩ | ⟨c6,h⟩
 ·refine La Z c6 (KG Z ?_)
  obtain⟨x7,hx8,h⟩:=Np h
  refine KK ai aJ 0 Z 3 Z Z (K2 Z .u (.fn Tryz.call63 Z) (bA a2.ML 4 _ hx8) rT Z ?_)
  obtain⟨c9,h⟩:=ao h
  refine KH Z (Lh Z Z c9) Z (K8 ai Z Z (KF ai 2 Z ?_))
  rcases jF h with⟨c10,h⟩ | ⟨c10,h⟩
  ·refine La Z c10 (KG Z (KF ai 2 Z ?_))
   obtain rfl:=Nq h
   exact KI (T.ret (KL (KQ [1] PT (KJ Z))))
  refine K9 Z c10 ?_
  refine K3 (T.seq (Lm (.q 0 (.q 1 (.q 2 (.q 5 (.q 6 (.e 3 (.q 4 (.e 7 (.q 8 (.q 9 .nil)))))))))) [0,0] Z nX (NoP.seq bu) QI ?_))
  refine TD.run ai [0,1] Z Z (KO Z (K5 0 Z Nz Z Z) Z (TD.run ai [5] Z Z (KO Z (K5 0 Z Nz Z Z) Z ?_)))
  obtain⟨x11,hx12,h⟩:=Np h
  refine Lw Z .u (.fn Tryz.call63 Z) (bA a2.MG 8 _ hx12) rT Z [0,0] (Z) ?_
  obtain⟨c13,h⟩:=ao h
  refine KO Z (Lh Z Z c13) Z ?_
  obtain⟨x14,hx15,h⟩:=Np h
  refine Lw Z .u (.fn Tryz.call63 Z) (bA a2.MJ 2 _ hx15) rT Z [0,0] (Z) ?_
  obtain⟨c16,h⟩:=ao h
  refine KO Z (Lh Z Z c16) Z (TD.run ai [9] Z Z (LF (T.seq (KG Z (KF ai 2 Z ?_)))))
  have c17: ¬ (a0=24):=by have hq:=c6; omega
  refine K9 Z c17 (K3 (T.seq (KG Z ?_)))
  have c18: ¬ (a0=26):=by have hq:=c6; omega
  refine KF ai 3 Z (KN 39 Z (Nu c18) (Lq ai Z (Lb Z Z (K3 (T.seq (KG Z (KP ai Z ?_)))))))
  refine LX Z c18 (Lg Z (KF ai 2 Z ?_))
  obtain rfl:=Nq h
  exact KI (T.ret (KQ [1] PT (KJ Z)))
 refine K9 Z c6 ?_
 refine K3 (T.seq (Lm (.q 0 (.q 1 (.q 2 (.q 5 (.q 6 (.e 3 (.q 4 (.e 7 (.q 8 (.q 9 .nil)))))))))) [0,0] Z nX (NoP.seq bu) QI ?_))
 refine TD.run ai [0,1] Z Z (KO Z (K5 0 Z Nz Z Z) Z (TD.run ai [5] Z Z (KO Z (K5 0 Z Nz Z Z) Z ?_)))
 obtain⟨x19,hx20,h⟩:=Np h
 refine Lw Z .u (.fn Tryz.call63 Z) (bA a2.MG 8 _ hx20) rT Z [0,0] (Z) ?_
 obtain⟨c21,h⟩:=ao h
 refine KO Z (Lh Z Z c21) Z ?_
 obtain⟨x22,hx23,h⟩:=Np h
 refine Lw Z .u (.fn Tryz.call63 Z) (bA a2.MJ 2 _ hx23) rT Z [0,0] (Z) ?_
 obtain⟨c24,h⟩:=ao h
 refine KO Z (Lh Z Z c24) Z (TD.run ai [9] Z Z (LF (T.seq (KG Z (KF ai 2 Z ?_)))))
 rcases jF h with⟨c25,h⟩ | ⟨c25,h⟩
 ·refine La Z c25 (KG Z ?_)
  obtain⟨x26,hx27,h⟩:=Np h
  refine KK ai aJ 0 Z 3 Z Z (K2 Z .u (.fn Tryz.call112 Z) (nW a2.MF _ _ _ hx27) (fun _ hs=>(K0 hs hX)) Z ?_)
  obtain⟨c28,h⟩:=ao h
  refine KH Z (Lh Z Z c28) Z (KF ai 1 Z ?_)
  obtain rfl:=Nq h
  exact KI (T.ret (KL (KQ [1] PT (KJ Z))))
 refine K9 Z c25 (K3 (L3 ?_))
 obtain⟨y30,h,hk31⟩:=Np h
 refine Lz (fun e Rs=>e = [(0,jI a0),(6,.string ⟨#[]⟩),(7,.string (bsOf ((x4++x19)++x22))),(42,.bool y30)]∧Rs = [aW b3 47 (wA8 a2 A1 c2),aK]) ?_ ?_
 ·clear hk31
  refine T.region Z ?_
  rcases jF h with⟨c32,h⟩ | ⟨c32,h⟩
  ·refine KF ai 3 Z (KN 39 Z (Nt c32) (KK ai aJ 0 Z 3 Z Z ?_))
   cases h
   exact TL.nil (KR [0,0])
  refine KF ai 3 Z (KN 39 Z (Nu c32) (KM ai 3 Z ?_))
  cases h
  exact TL.nil (KR [0,0])
 rintro _ _ ⟨rfl,rfl⟩
 clear h
 have h:=hk31
 clear hk31
 try dsimp only at h
 rcases jF h with⟨c33,h⟩ | ⟨c33,h⟩
 ·refine X.seq (KV Z c33 (KG Z ?_))
  obtain⟨x34,hx35,h⟩:=Np h
  refine KF ai 1 Z (K2 Z .u (.fn Tryz.call63 Z) (bA 1 1 _ hx35) rT Z ?_)
  obtain⟨c36,h⟩:=ao h
  refine KH Z (Lh Z Z c36) Z (KF ai 1 Z ?_)
  obtain rfl:=Nq h
  exact KI (T.ret (KL (KQ [1] PT (KJ Z))))
 replace c33:=Nx c33
 refine X.seq (Lb Z c33 (K3 (T.seq (KG Z (KF ai 2 Z ?_)))))
 rcases jF h with⟨c37,h⟩ | ⟨c37,h⟩
 ·refine La Z c37 (KG Z ?_)
  obtain⟨x38,hx39,h⟩:=Np h
  refine KF ai 1 Z (K2 Z .u (.fn Tryz.call63 Z) (bA 0 1 _ hx39) rT Z ?_)
  obtain⟨c40,h⟩:=ao h
  refine KH Z (Lh Z Z c40) Z (KF ai 1 Z ?_)
  obtain rfl:=Nq h
  exact KI (T.ret (KL (KQ [1] PT (KJ Z))))
 refine K9 Z c37 (Lg Z (KF ai 2 Z ?_))
 obtain rfl:=Nq h
 exact KI (T.ret (KQ [1] PT (KJ Z)))
def lv (a0:bF) (a1:bF):Option (Bool):=(if a0.MM.null=a1.MM.null then (if a0.MM.data=a1.MM.data then (if a0.ML=a1.ML then (if a0.MG=a1.MG then (if a0.MJ=a1.MJ then (if a0.MZ=true then (if a1.MZ=true then ((dc a0.MF a1.MF).bind fun x28=>some x28) else some false) else (if a1.MZ=true then some false else ((dc a0.MF a1.MF).bind fun x31=>some x31))) else some false) else some false) else some false) else some false) else some false).bind fun y19=>some y19
theorem v7 (a0:bF) (A1:Option Addr) (c2:Nat) (a1:bF) (A3:Option Addr) (c4:Nat) (r:Bool) (h:lv a0 a1=some r):aH Tryz.prog 64 #[.agg (wA8 a0 A1 c2),.agg (wA8 a1 A3 c4)] (RX.and (RX.of (aq 2 bc) [.slice A1 a0.MF.length c2] a0.MF) (RX.of (aq 2 bc) [.slice A3 a1.MF.length c4] a1.MF)) (aK) (fun v A' N=>v= .bool r∧A'=aK∧N = []):=by
 refine aU Tryz.func64 Z Tryz.ntmps64 Z ?_
 intro F w hX
 unfold lv at h
 refine KG Z (TL.box Z .u Z Z (fun b5=>(TL.box Z .u Z Z (fun b6=>(KP ai Z (T.seq ?_))))))
 obtain⟨y19,h,hk20⟩:=Np h
 refine Lz (fun e Rs=>e = [(4,.bool y19)]∧Rs = [aW b6 47 (wA8 a1 A3 c4),aW b5 47 (wA8 a0 A1 c2),aK]) ?_ ?_
 ·clear hk20
  refine T.region Z (KF ai 1 Z (KH Z (KY (us:=wL6 a0.MM) 1 Z N0 ND Z Z Z) Z (KF ai 1 Z (KH Z (KY (us:=wL6 a1.MM) 0 Z N0 ND Z Z Z) Z ?_))))
  rcases jF h with⟨c21,h⟩ | ⟨c21,h⟩
  ·rcases jF h with⟨c22,h⟩ | ⟨c22,h⟩
   ·refine KH Z (LG (us:=wL6 a0.MM) (vs:=wL6 a1.MM) iS Z OH Z Z Z Z (bE (jX c21) (bE (gj (l:=a0.MM.data) (m:=a1.MM.data) c22) Z))) Z (KK ai aJ 1 Z 4 Z Z ?_)
    rcases jF h with⟨c23,h⟩ | ⟨c23,h⟩
    ·refine KK ai aJ 0 Z 4 Z Z (KN 17 Z (Nt c23) (KK ai aJ 1 Z 3 Z Z ?_))
     rcases jF h with⟨c24,h⟩ | ⟨c24,h⟩
     ·refine KK ai aJ 0 Z 4 Z Z (KN 24 Z (Nt c24) (KK ai aJ 1 Z 3 Z Z ?_))
      rcases jF h with⟨c25,h⟩ | ⟨c25,h⟩
      ·refine KK ai aJ 0 Z 4 Z Z (KN 31 Z (Nt c25) (KK ai aJ 1 Z 3 Z Z ?_))
       rcases jF h with⟨c26,h⟩ | ⟨c26,h⟩
       ·rcases jF h with⟨c27,h⟩ | ⟨c27,h⟩
        ·refine KK ai aJ 0 Z 1 Z Z (TL.q Z (.g Z Z Z) (Ex.bEq Z c26 Z c27 N1) Z (KK ai aJ 1 Z 5 Z Z ?_))
         obtain⟨x28,hx29,h⟩:=Np h
         refine KK ai aJ 0 Z 1 Z Z (K2 Z (.g Z Z Z) (.fn Tryz.call113 Z) (ga a0.MF _ _ a1.MF _ _ _ hx29) (fun _ hs=>(RX.reads_and (K0 hs (Ll hX)) (K0 hs (K6 hX)))) Z (KM ai 2 Z ?_))
         cases h
         exact TL.nil (KR [0,0,0])
        replace c27:=Nx c27
        refine KK ai aJ 0 Z 1 Z Z (TL.q Z (.g Z Z Z) (Ex.bEq Z c26 Z c27 N1) Z (KM ai 9 Z ?_))
        cases h
        exact TL.nil (KR [0,0,0])
       replace c26:=Nx c26
       rcases jF h with⟨c30,h⟩ | ⟨c30,h⟩
       ·refine KK ai aJ 0 Z 1 Z Z (TL.q Z (.g Z Z Z) (Ex.bEq Z c26 Z c30 N1) Z (KM ai 9 Z ?_))
        cases h
        exact TL.nil (KR [0,0,0])
       replace c30:=Nx c30
       refine KK ai aJ 0 Z 1 Z Z (TL.q Z (.g Z Z Z) (Ex.bEq Z c26 Z c30 N1) Z (KK ai aJ 1 Z 5 Z Z ?_))
       obtain⟨x31,hx32,h⟩:=Np h
       refine KK ai aJ 0 Z 1 Z Z (K2 Z (.g Z Z Z) (.fn Tryz.call113 Z) (ga a0.MF _ _ a1.MF _ _ _ hx32) (fun _ hs=>(RX.reads_and (K0 hs (Ll hX)) (K0 hs (K6 hX)))) Z (KM ai 2 Z ?_))
       cases h
       exact TL.nil (KR [0,0,0])
      refine KK ai aJ 0 Z 4 Z Z (KN 31 Z (Nu c25) (KM ai 14 Z ?_))
      cases h
      exact TL.nil (KR [0,0,0])
     refine KK ai aJ 0 Z 4 Z Z (KN 24 Z (Nu c24) (KM ai 21 Z ?_))
     cases h
     exact TL.nil (KR [0,0,0])
    refine KK ai aJ 0 Z 4 Z Z (KN 17 Z (Nu c23) (KM ai 28 Z ?_))
    cases h
    exact TL.nil (KR [0,0,0])
   refine KH Z (LG (us:=wL6 a0.MM) (vs:=wL6 a1.MM) iS Z OH Z Z Z Z (bE (jX c21) (eK (mj (l:=a0.MM.data) (m:=a1.MM.data) c22)))) Z (KM ai 36 Z ?_)
   cases h
   exact TL.nil (KR [0,0,0])
  refine KH Z (LG (us:=wL6 a0.MM) (vs:=wL6 a1.MM) iS Z OH Z Z Z Z (eK (nb c21))) Z (KM ai 36 Z ?_)
  cases h
  exact TL.nil (KR [0,0,0])
 rintro _ _ ⟨rfl,rfl⟩
 clear h
 have h:=hk20
 clear hk20
 obtain rfl:=Nq h
 exact X.seq (T.ret (KQ [2] Tryz.results64 (KJ Z)))
def uN:fg := [(195,0,0),(195,1,1),(195,2,2),(195,3,3),(195,4,4)]
theorem aj:(uN).OK Tryz.prog:=⟨FOK.mk Pz rfl Ny rfl,FOK.mk Pz rfl Ny rfl,FOK.mk Pz rfl N5 rfl,FOK.mk Pz rfl Pq rfl,FOK.mk Pz rfl Ny rfl,trivial⟩
def uO:List Nat := [3,28]
theorem bL:NOK Tryz.prog uO:=⟨Nz,OZ,trivial⟩
theorem nY:Tryz.prog.follows .mixedOrders=true:=by kernel_rfl
def oX (a0:dj) (a1:Int):Option (Int):=(if a0.MG<0 then some true else (if a0.MJ<0 then some true else (if a0.MJ>32767 then some true else (if a0.MT<0 then some true else (if a0.MT>2147483647 then some true else (if a1=0 then (if a0.MT=0 then some false else some true) else some false)))))).bind fun y10=>if y10=true then some 11 else (if (a0.MF.length:Int)=0 then some 10 else ((iu a0.MF).bind fun x21=>if x21=true then some 0 else some 13))
theorem xf (a0:dj) (A1:Option Addr) (c2:Nat) (a1:Int) (r:Int) (h:oX a0 a1=some r):aH Tryz.prog 106 #[.agg #[jI a0.MG,jI a0.MJ,.bool a0.MZ,.slice A1 a0.MF.length c2,jI a0.MT],jI a1] (RX.of (aq 2 bc) [.slice A1 a0.MF.length c2] a0.MF) (aK) (fun v A' N=>v=jI r∧A'=aK∧N = []):=by
 refine aU Tryz.func106 Z Tryz.ntmps106 Z ?_
 intro F w hX
 unfold oX at h
 refine KG Z (TL.box Z .u Z Z (fun b3=>(KP aj Z (L3 ?_))))
 obtain⟨y10,h,hk11⟩:=Np h
 refine Lz (fun e Rs=>e = [(2,jP b3),(4,jI 0),(36,.bool y10)]∧Rs = [aW b3 195 #[jI a0.MG,jI a0.MJ,.bool a0.MZ,.slice A1 a0.MF.length c2,jI a0.MT],aK]) ?_ ?_
 ·clear hk11
  refine T.region Z ?_
  rcases jF h with⟨c12,h⟩ | ⟨c12,h⟩
  ·refine KK aj bL 0 Z 4 Z Z (KN 8 Z (Nt c12) (KM aj 28 Z ?_))
   cases h
   exact TL.nil (KR [0,0])
  refine KK aj bL 0 Z 4 Z Z (KN 8 Z (Nu c12) ?_)
  rcases jF h with⟨c13,h⟩ | ⟨c13,h⟩
  ·refine KK aj bL 0 Z 5 Z Z (KN 13 Z (Nt c13) (KM aj 23 Z ?_))
   cases h
   exact TL.nil (KR [0,0])
  refine KK aj bL 0 Z 5 Z Z (KN 13 Z (Nu c13) ?_)
  rcases jF h with⟨c14,h⟩ | ⟨c14,h⟩
  ·refine KK aj bL 0 Z 5 Z Z (KN 18 Z (Nt c14) (KM aj 18 Z ?_))
   cases h
   exact TL.nil (KR [0,0])
  refine KK aj bL 0 Z 5 Z Z (KN 18 Z (Nu c14) ?_)
  rcases jF h with⟨c15,h⟩ | ⟨c15,h⟩
  ·refine KK aj bL 0 Z 5 Z Z (KN 23 Z (Nt c15) (KM aj 13 Z ?_))
   cases h
   exact TL.nil (KR [0,0])
  refine KK aj bL 0 Z 5 Z Z (KN 23 Z (Nu c15) ?_)
  rcases jF h with⟨c16,h⟩ | ⟨c16,h⟩
  ·refine KK aj bL 0 Z 5 Z Z (KN 28 Z (Nt c16) (KM aj 8 Z ?_))
   cases h
   exact TL.nil (KR [0,0])
  refine KK aj bL 0 Z 5 Z Z (KN 28 Z (Nu c16) ?_)
  rcases jF h with⟨c17,h⟩ | ⟨c17,h⟩
  ·refine KM aj 3 Z (KN 31 Z (Nt c17) (KK aj bL 0 Z 5 Z Z ?_))
   rcases jF h with⟨c18,h⟩ | ⟨c18,h⟩
   ·cases h
    exact TL.nil (LE (d:=36) (v':= .bool false) Z (congrArg Value.bool (bf (Nt c18))) (KR [0,0]))
   cases h
   exact TL.nil (LE (d:=36) (v':= .bool true) Z (congrArg Value.bool (bG (Nu c18))) (KR [0,0]))
  refine KM aj 3 Z (KN 31 Z (Nu c17) (KM aj 5 Z ?_))
  cases h
  exact TL.nil (KR [0,0])
 rintro _ _ ⟨rfl,rfl⟩
 clear h
 have h:=hk11
 clear hk11
 try dsimp only at h
 rcases jF h with⟨c19,h⟩ | ⟨c19,h⟩
 ·refine X.seq (KV Z c19 (KG Z (KF aj 1 Z ?_)))
  obtain rfl:=Nq h
  exact KI (T.ret (KL (KQ [1] Qs (KJ Z))))
 replace c19:=Nx c19
 refine X.seq (Lb Z c19 (K3 (T.seq (KG Z (KK aj bL 0 Z 2 Z Z (KH Z (KX Z NH) Z (KF aj 1 Z ?_)))))))
 rcases jF h with⟨c20,h⟩ | ⟨c20,h⟩
 ·refine La Z c20 (KG Z (KF aj 1 Z ?_))
  obtain rfl:=Nq h
  exact KI (T.ret (KL (KQ [1] Qs (KJ Z))))
 refine K9 Z c20 (K3 (T.seq (KG Z ?_)))
 obtain⟨x21,hx22,h⟩:=Np h
 refine KK aj bL 0 Z 2 Z Z (K2 Z .u (.fn Tryz.call109 Z) (mm a0.MF _ _ _ hx22) (fun _ hs=>(K0 hs hX)) Z (KF aj 1 Z ?_))
 rcases jF h with⟨c23,h⟩ | ⟨c23,h⟩
 ·refine KI (Lb Z (bf c23) (Lg Z (KF aj 1 Z ?_)))
  obtain rfl:=Nq h
  exact KI (T.ret (KQ [1] Qs (KJ Z)))
 replace c23:=Nx c23
 refine KI (KV Z (bG c23) (KG Z (KF aj 1 Z ?_)))
 obtain rfl:=Nq h
 exact KI (T.ret (KL (KQ [1] Qs (KJ Z))))
def fa (a0:List dj) (a1:Int):Nat→Int→Nat→Option (Lp Int (Int×Nat))
 | 0,_,_=>none
 | m9+1,y4,k5=>if (k5:Int)<(a0.length:Int) then ((a0[k5]?).bind fun x14=>(oX x14 a1).bind fun x20=>if x20=0 then (if -9223372036854775808≤((k5:Int)+1)∧((k5:Int)+1)≤9223372036854775807 then (fa a0 a1 m9 y4 (k5+1)) else none) else some (Lp.ret x20)) else (some (Lp.go (y4,k5)))
def kt (a0:List dj) (a1:Int):Option (Int):=if (a0.length:Int)=0 then some 10 else ((fa a0 a1 (((a0.length:Int)).toNat+1) 0 0).bind fun e=>match e with | .ret r=>some r | .go (y24,k25)=>some 0)
theorem uP (a0:List dj) (A1:Option Addr) (c2:Nat) (a1:Int) (r:Int) (h:kt a0 a1=some r):aH Tryz.prog 55 #[.slice A1 a0.length c2,jI a1] (RX.of (aq 5 cZ) [.slice A1 a0.length c2] a0) (aK) (fun v A' N=>v=jI r∧A'=aK∧N = []):=by
 refine aU Tryz.func55 Z Tryz.ntmps55 Z ?_
 intro F w hX
 unfold kt at h
 refine KG Z (KP aj Z (T.seq (KG Z (KF aj 1 Z (KH Z (KX Z NR) Z (KF aj 1 Z ?_))))))
 rcases jF h with⟨c3,h⟩ | ⟨c3,h⟩
 ·refine La Z c3 (KG Z (KF aj 1 Z ?_))
  obtain rfl:=Nq h
  exact KI (T.ret (KL (KQ [0] Tryz.results55 (KJ Z))))
 refine K9 Z c3 (K3 (T.seq (KG Z (KP aj Z (T.block ?_)))))
 obtain⟨E6,hE7,hO8⟩:=Np h
 refine Lv (fun m e Rs=> ∃ (y4:Int) (k5:Nat),e = [(0,.slice A1 a0.length c2),(1,jI a1),(4,jI y4),(5,jI (k5:Int))]∧Rs = [aK]∧fa a0 a1 m y4 k5=some E6) (((a0.length:Int)).toNat+1) [0] ⟨0,0,Z,Z,by exact hE7⟩ QJ QJ ?_
 clear hE7 h
 rintro m9 _ _ ⟨y4,k5,rfl,rfl,h⟩
 cases m9 with
 | zero =>
  rw[fa] at h
  cases h
 | succ m9 =>
  rw[fa] at h
  refine T.seq (KG Z (KF aj 2 Z (KH Z (KX Z NR) Z (KF aj 1 Z ?_))))
  rcases jF h with⟨c13,h⟩ | ⟨c13,h⟩
  ·refine La Z c13 (K3 (T.seq (T.block (KG Z ?_))))
   obtain⟨x14,hx15,h⟩:=Np h
   obtain⟨gz16,oz16,rfl,z16cs,z16cl,z16cc,z16nf,z16r⟩:=Lf QH hX hx15
   obtain⟨z16S,z16r,z16rr⟩:=z16r
   obtain⟨A17,c18,rfl,z16s0⟩:=z16r
   have hX19:(RX.of (aq 2 bc) [.slice A17 x14.MF.length c18] x14.MF).reads w F:=⟨z16S,z16s0,z16rr⟩
   refine KF aj 2 Z ?_
   refine KH Z (K1 (k:=k5) Z Z Z NR Oi (Nw hx15).1) Z ?_
   refine KH Z (LI (us := [jI x14.MG,jI x14.MJ,.bool x14.MZ,.slice A17 x14.MF.length c18,jI x14.MT]) 0 Z Tryz.isAgg195 Oi z16nf z16cc Z Z Z) Z ?_
   obtain⟨x20,hx21,h⟩:=Np h
   refine KF aj 1 Z (K2 Z .u (.fn Tryz.call106 Z) (xf x14 _ _ a1 _ hx21) (fun _ hs=>(K0 hs hX19)) Z (K8 aj Z Z (KF aj 2 Z ?_)))
   rcases jF h with⟨c22,h⟩ | ⟨c22,h⟩
   ·refine Lj Z c22 (T.skip (K4 (X.seq (T.region Z ?_))))
    obtain⟨c23,h⟩:=ao h
    exact KF aj 1 Z (KH Z (Ex.add Z Z c23) Z (KF aj 1 Z (TL.nil (X.back (m':=m9) [0] QG ⟨y4,k5+1,Z,Z,h⟩ QJ QJ))))
   refine Li Z c22 (KG Z (KF aj 2 Z ?_))
   obtain rfl:=Nq h
   obtain rfl:=Nq hO8
   exact KI (T.ret (KU (KL (KL (KU (KL (KQ [0] Tryz.results55 (KJ Z))))))))
  refine K9 Z c13 ?_
  obtain rfl:=Nq h
  replace h:=hO8
  clear hO8
  refine T.exit (KZ (KZ (Lu (X.seq (KG Z (KF aj 1 Z ?_))))))
  obtain rfl:=Nq h
  exact KI (T.ret (KQ [0] Tryz.results55 (KJ Z)))
def fb (a0:List dj) (a1:Int):Nat→List UInt8→Nat→Option (List UInt8×Nat)
 | 0,_,_=>none
 | m10+1,y5,k6=>if (k6:Int)<(a0.length:Int) then ((a0[k6]?).bind fun x15=>(if x15.MZ=true then ((some 1:Option (Int))) else ((some 0:Option (Int)))).bind fun y22=>(cN x15.MG 8).bind fun x25=>if y5.length+x25.length≤9223372036854775807 then ((cN x15.MJ 2).bind fun x28=>if (y5++x25).length+x28.length≤9223372036854775807 then ((cN y22 1).bind fun x31=>if ((y5++x25)++x28).length+x31.length≤9223372036854775807 then ((jB x15.MF).bind fun x34=>if (((y5++x25)++x28)++x31).length+x34.length≤9223372036854775807 then ((if a1=1 then ((cN x15.MT 4).bind fun x44=>if ((((y5++x25)++x28)++x31)++x34).length+x44.length≤9223372036854775807 then (some (((((y5++x25)++x28)++x31)++x34)++x44)) else none) else (some ((((y5++x25)++x28)++x31)++x34))).bind fun y41=>if -9223372036854775808≤((k6:Int)+1)∧((k6:Int)+1)≤9223372036854775807 then (fb a0 a1 m10 y41 (k6+1)) else none) else none) else none) else none) else none) else some (y5,k6)
def jl (a0:List dj) (a1:Int):Option (List UInt8):=(cN (a0.length:Int) 4).bind fun x3=>(fb a0 a1 (((a0.length:Int)).toNat+1) x3 0).bind fun (y48,k49)=>some y48
theorem uQ (a0:List dj) (A1:Option Addr) (c2:Nat) (a1:Int) (r:List UInt8) (h:jl a0 a1=some r):aH Tryz.prog 61 #[.slice A1 a0.length c2,jI a1] (RX.of (aq 5 cZ) [.slice A1 a0.length c2] a0) (aK) (fun v A' N=>v=jS r∧A'=aK∧N = []):=by
 refine aU Tryz.func61 Z Tryz.ntmps61 Z ?_
 intro F w hX
 unfold jl at h
 refine KG Z (K8 aj Z Z (KF aj 1 Z (KH Z (KX Z NR) Z ?_)))
 obtain⟨x3,hx4,h⟩:=Np h
 refine K2 Z .u (.fn Tryz.call63 Z) (bA (a0.length:Int) 4 _ hx4) rT Z (KP aj Z (T.seq (KG Z (KP aj Z (T.block ?_)))))
 obtain⟨E7,hE8,hO9⟩:=Np h
 refine Lv (fun m e Rs=> ∃ (y5:List UInt8) (k6:Nat),e = [(0,.slice A1 a0.length c2),(1,jI a1),(4,.string ⟨#[]⟩),(5,jS y5),(6,jI (k6:Int))]∧Rs = [aK]∧fb a0 a1 m y5 k6=some E7) (((a0.length:Int)).toNat+1) [0] ⟨x3,0,Z,Z,by exact hE8⟩ QJ QJ ?_
 clear hE8 h
 rintro m10 _ _ ⟨y5,k6,rfl,rfl,h⟩
 cases m10 with
 | zero =>
  rw[fb] at h
  cases h
 | succ m10 =>
  rw[fb] at h
  refine T.seq (KG Z (KF aj 2 Z (KH Z (KX Z NR) Z (KF aj 1 Z ?_))))
  rcases jF h with⟨c14,h⟩ | ⟨c14,h⟩
  ·refine La Z c14 (K3 (T.seq (T.block (KG Z (KP aj Z (T.seq (KG Z ?_)))))))
   obtain⟨x15,hx16,h⟩:=Np h
   obtain⟨gz17,oz17,rfl,z17cs,z17cl,z17cc,z17nf,z17r⟩:=Lf QH hX hx16
   obtain⟨z17S,z17r,z17rr⟩:=z17r
   obtain⟨A18,c19,rfl,z17s0⟩:=z17r
   have hX20:(RX.of (aq 2 bc) [.slice A18 x15.MF.length c19] x15.MF).reads w F:=⟨z17S,z17s0,z17rr⟩
   refine KF aj 2 Z ?_
   refine KH Z (K1 (k:=k6) Z Z Z NR Oi (Nw hx16).1) Z ?_
   refine KF aj 1 Z (KH Z (Ln 2 Z Ok z17nf z17cc Z Z) Z (KI ?_))
   obtain⟨y22,h,hk23⟩:=Np h
   refine Lz (fun e Rs=>e = [(0,.slice (some ⟨gz17,oz17,none⟩) a0.length c2),(1,jI a1),(4,.string ⟨#[]⟩),(5,jS y5),(6,jI (k6:Int)),(7,jI y22)]∧Rs = [aK]) ?_ ?_
   ·clear hk23
    rcases jF h with⟨c24,h⟩ | ⟨c24,h⟩
    ·refine KV Z c24 (T.region Z (KF aj 1 Z ?_))
     cases h
     exact TL.nil (KR [0])
    replace c24:=Nx c24
    refine Lb Z c24 ?_
    cases h
    exact T.skip (KR [0])
   rintro _ _ ⟨rfl,rfl⟩
   clear h
   have h:=hk23
   clear hk23
   refine X.seq (T.seq (Lm (.q 0 (.q 1 (.q 2 (.q 3 (.q 4 (.q 5 (.q 8 (.q 9 (.q 10 (.q 11 (.q 12 (.q 15 (.q 18 (.q 19 (.q 20 (.q 21 (.q 22 (.e 6 (.q 7 (.e 13 (.q 14 (.e 16 (.q 17 (.e 23 (.q 24 (.q 25 .nil)))))))))))))))))))))))))) [0] Z nY (NoP.seq (NoP.blk (NoP.seq (NoP.seq (NoP.blk (NoP.seq bu)))))) QI ?_))
   refine TD.run aj [0,1,2] Z Z ?_
   refine KO Z (K1 (k:=k6) Z Z Z NR Oi (Nw hx16).1) Z ?_
   refine TD.run aj [4] Z Z (KO Z (Ln 0 Z Nz z17nf z17cc Z Z) Z (TD.run aj [8,9] Z Z ?_))
   refine KO Z (K1 (k:=k6) Z Z Z NR Oi (Nw hx16).1) Z ?_
   refine TD.run aj [11] Z Z (KO Z (Ln 1 Z Nz z17nf z17cc Z Z) Z (TD.run aj [15,18,19] Z Z ?_))
   refine KO Z (K1 (k:=k6) Z Z Z NR Oi (Nw hx16).1) Z ?_
   refine TD.run aj [21] Z Z (KO Z (Ln 3 Z OZ z17nf z17cc Z Z) Z ?_)
   obtain⟨x25,hx26,h⟩:=Np h
   refine Lw Z .u (.fn Tryz.call63 Z) (bA x15.MG 8 _ hx26) rT Z [0] (Z) ?_
   obtain⟨c27,h⟩:=ao h
   refine KO Z (Lh Z Z c27) Z ?_
   obtain⟨x28,hx29,h⟩:=Np h
   refine Lw Z .u (.fn Tryz.call63 Z) (bA x15.MJ 2 _ hx29) rT Z [0] (Z) ?_
   obtain⟨c30,h⟩:=ao h
   refine KO Z (Lh Z Z c30) Z ?_
   obtain⟨x31,hx32,h⟩:=Np h
   refine Lw Z .u (.fn Tryz.call63 Z) (bA y22 1 _ hx32) rT Z [0] (Z) ?_
   obtain⟨c33,h⟩:=ao h
   refine KO Z (Lh Z Z c33) Z ?_
   obtain⟨x34,hx35,h⟩:=Np h
   refine Lw Z .u (.fn Tryz.call112 Z) (nW x15.MF _ _ _ hx35) (fun _ hs=>(K0 hs hX20)) Z [0] (Z) ?_
   obtain⟨c36,h⟩:=ao h
   refine KO Z (Lh Z Z c36) Z (TD.run aj [25] Z Z (LF (KG Z (KP aj Z ?_))))
   obtain⟨y41,h,hk42⟩:=Np h
   refine Lz (fun e Rs=>e = [(0,.slice (some ⟨gz17,oz17,none⟩) a0.length c2),(1,jI a1),(4,.string ⟨#[]⟩),(5,jS y41),(6,jI (k6:Int))]∧Rs = [aK]) ?_ ?_
   ·clear hk42
    rcases jF h with⟨c43,h⟩ | ⟨c43,h⟩
    ·refine LU Z c43 (T.region Z (KF aj 3 Z ?_))
     refine KH Z (K1 (k:=k6) Z Z Z NR Oi (Nw hx16).1) Z ?_
     refine KF aj 1 Z (KH Z (Ln 4 Z Nz z17nf z17cc Z Z) Z ?_)
     obtain⟨x44,hx45,h⟩:=Np h
     refine K2 Z .u (.fn Tryz.call63 Z) (bA x15.MT 4 _ hx45) rT Z ?_
     obtain⟨c46,h⟩:=ao h
     refine KH Z (Lh Z Z c46) Z (KF aj 1 Z ?_)
     cases h
     exact TL.nil (KR [0])
    refine LX Z c43 ?_
    cases h
    exact T.skip (KR [0])
   rintro _ _ ⟨rfl,rfl⟩
   clear h
   have h:=hk42
   clear hk42
   refine K4 (X.seq (T.region Z ?_))
   obtain⟨c47,h⟩:=ao h
   exact KF aj 1 Z (KH Z (Ex.add Z Z c47) Z (KF aj 1 Z (TL.nil (X.back (m':=m10) [0] QG ⟨y41,k6+1,Z,Z,h⟩ QJ QJ))))
  refine K9 Z c14 ?_
  obtain rfl:=Nq h
  replace h:=hO9
  clear hO9
  refine T.exit (KZ (KZ (Lu (X.seq (KG Z (KF aj 2 Z ?_))))))
  obtain rfl:=Nq h
  exact KI (T.ret (KQ [0] Tryz.results61 (KJ Z)))
def fL (a0:List dj) (a1:List dj):Nat→Bool→Nat→Option (Lp Bool (Bool×Nat))
 | 0,_,_=>none
 | m11+1,y6,k7=>if (k7:Int)<(a0.length:Int) then (((a0[k7]?).bind fun x41=>(a1[k7]?).bind fun x47=>if x41.MG=x47.MG then (if x41.MJ=x47.MJ then (if x41.MZ=true then (if x47.MZ=true then (if x41.MT=x47.MT then ((dc x41.MF x47.MF).bind fun x58=>if x58=true then some false else some true) else some true) else some true) else (if x47.MZ=true then some true else (if x41.MT=x47.MT then ((dc x41.MF x47.MF).bind fun x63=>if x63=true then some false else some true) else some true))) else some true) else some true).bind fun y39=>if y39=true then some (Lp.ret false) else (if -9223372036854775808≤((k7:Int)+1)∧((k7:Int)+1)≤9223372036854775807 then (fL a0 a1 m11 y6 (k7+1)) else none)) else (some (Lp.go (y6,k7)))
def j9 (a0:List dj) (a1:List dj):Option (Bool):=if (a0.length:Int)=(a1.length:Int) then ((fL a0 a1 (((a0.length:Int)).toNat+1) false 0).bind fun e=>match e with | .ret r=>some r | .go (y68,k69)=>some true) else some false
theorem v8 (a0:List dj) (A1:Option Addr) (c2:Nat) (a1:List dj) (A3:Option Addr) (c4:Nat) (r:Bool) (h:j9 a0 a1=some r):aH Tryz.prog 65 #[.slice A1 a0.length c2,.slice A3 a1.length c4] (RX.and (RX.of (aq 5 cZ) [.slice A1 a0.length c2] a0) (RX.of (aq 5 cZ) [.slice A3 a1.length c4] a1)) (aK) (fun v A' N=>v= .bool r∧A'=aK∧N = []):=by
 refine aU Tryz.func65 Z Tryz.ntmps65 Z ?_
 intro F w hX
 unfold j9 at h
 refine KG Z (KP aj Z (T.seq (KG Z (KF aj 1 Z (KH Z (KX Z NR) Z (KF aj 1 Z (KH Z (KX Z NR) Z (KF aj 1 Z ?_))))))))
 rcases jF h with⟨c5,h⟩ | ⟨c5,h⟩
 ·refine Lj Z c5 (K3 (T.seq (KG Z (KP aj Z (T.block ?_)))))
  obtain⟨E8,hE9,hO10⟩:=Np h
  refine Lv (fun m e Rs=> ∃ (y6:Bool) (k7:Nat),e = [(0,.slice A1 a0.length c2),(1,.slice A3 a1.length c4),(4,.bool y6),(5,jI (k7:Int))]∧Rs = [aK]∧fL a0 a1 m y6 k7=some E8) (((a0.length:Int)).toNat+1) [0] ⟨false,0,Z,Z,by exact hE9⟩ QJ QJ ?_
  clear hE9 h
  rintro m11 _ _ ⟨y6,k7,rfl,rfl,h⟩
  cases m11 with
  | zero =>
   rw[fL] at h
   cases h
  | succ m11 =>
   rw[fL] at h
   refine T.seq (KG Z (KF aj 2 Z (KH Z (KX Z NR) Z (KF aj 1 Z ?_))))
   rcases jF h with⟨c15,h⟩ | ⟨c15,h⟩
   ·refine La Z c15 (K3 (T.seq (T.block (T.seq ?_))))
    obtain⟨y39,h,hk40⟩:=Np h
    refine Lz (fun e Rs=>e = [(0,.slice A1 a0.length c2),(1,.slice A3 a1.length c4),(4,.bool y6),(5,jI (k7:Int)),(80,.bool y39)]∧Rs = [aK]) ?_ ?_
    ·clear hk40
     refine Lm (.q 0 (.q 1 (.q 2 (.q 3 (.q 4 (.q 5 (.q 6 (.q 7 (.q 8 (.q 9 (.q 10 (.q 11 (.q 12 (.q 13 (.q 14 (.q 15 (.q 16 (.q 17 (.q 18 (.q 19 (.q 20 (.q 21 (.q 22 (.q 23 (.q 24 (.q 25 (.q 26 (.q 27 (.q 28 (.q 29 (.q 30 (.q 31 (.q 32 (.q 33 (.q 34 (.q 35 (.q 36 (.q 37 (.q 38 (.q 39 (.q 40 (.q 41 (.q 42 (.q 43 (.q 44 (.q 45 (.q 46 (.q 47 (.q 48 (.q 49 (.q 50 (.q 51 (.q 52 (.q 53 (.q 54 (.q 55 (.q 56 (.q 57 (.q 58 (.q 59 (.q 60 (.e 61 (.q 62 (.q 63 .nil)))))))))))))))))))))))))))))))))))))))))))))))))))))))))))))))) [0] Z nY (NoP.seq (NoP.seq (NoP.blk (NoP.seq (NoP.seq (NoP.blk (NoP.seq bu))))))) QI ?_
     obtain⟨x41,hx42,h⟩:=Np h
     obtain⟨gz43,oz43,rfl,z43cs,z43cl,z43cc,z43nf,z43r⟩:=Lf QH (Ll hX) hx42
     obtain⟨z43S,z43r,z43rr⟩:=z43r
     obtain⟨A44,c45,rfl,z43s0⟩:=z43r
     have hX46:(RX.of (aq 2 bc) [.slice A44 x41.MF.length c45] x41.MF).reads w F:=⟨z43S,z43s0,z43rr⟩
     refine TD.run aj [0,1] Z Z ?_
     refine KO Z (K1 (k:=k7) Z Z Z NR Oi (Nw hx42).1) Z ?_
     refine TD.run aj [3] Z Z (KO Z (Ln 0 Z Nz z43nf z43cc Z Z) Z ?_)
     obtain⟨x47,hx48,h⟩:=Np h
     obtain⟨gz49,oz49,rfl,z49cs,z49cl,z49cc,z49nf,z49r⟩:=Lf QH (K6 hX) hx48
     obtain⟨z49S,z49r,z49rr⟩:=z49r
     obtain⟨A50,c51,rfl,z49s0⟩:=z49r
     have hX52:(RX.of (aq 2 bc) [.slice A50 x47.MF.length c51] x47.MF).reads w F:=⟨z49S,z49s0,z49rr⟩
     refine TD.run aj [5,6] Z Z ?_
     refine KO Z (K1 (k:=k7) Z Z Z NR Oi (Nw hx48).1) Z ?_
     refine TD.run aj [8] Z Z (KO Z (Ln 0 Z Nz z49nf z49cc Z Z) Z ?_)
     rcases jF h with⟨c53,h⟩ | ⟨c53,h⟩
     ·refine TD.run aj [10,11] Z Z ?_
      iterate 2 refine TD.q Z (.g Z Z (bf (Nt c53))) (Ls aj Z) Z ?_
      refine TD.q Z (.g Z Z (bf (Nt c53))) (K1 (k:=k7) Z Z Z NR Oi (Nw hx42).1) Z ?_
      refine TD.q Z (.g Z Z (bf (Nt c53))) (Ls aj Z) Z (TD.q Z (.g Z Z (bf (Nt c53))) (Ln 1 Z Nz z43nf z43cc Z Z) Z ?_)
      iterate 2 refine TD.q Z (.g Z Z (bf (Nt c53))) (Ls aj Z) Z ?_
      refine TD.q Z (.g Z Z (bf (Nt c53))) (K1 (k:=k7) Z Z Z NR Oi (Nw hx48).1) Z ?_
      refine TD.q Z (.g Z Z (bf (Nt c53))) (Ls aj Z) Z (TD.q Z (.g Z Z (bf (Nt c53))) (Ln 1 Z Nz z49nf z49cc Z Z) Z (TD.q Z (.g Z Z (bf (Nt c53))) (Ls aj Z) Z (KO Z (LL Z (bf (Nt c53)) Z) Z ?_)))
      rcases jF h with⟨c54,h⟩ | ⟨c54,h⟩
      ·refine TD.run aj [24] Z Z ?_
       iterate 2 refine TD.q Z (.g Z Z (bf (Nt c54))) (Ls aj Z) Z ?_
       refine TD.q Z (.g Z Z (bf (Nt c54))) (K1 (k:=k7) Z Z Z NR Oi (Nw hx42).1) Z ?_
       refine TD.q Z (.g Z Z (bf (Nt c54))) (Ls aj Z) Z (TD.q Z (.g Z Z (bf (Nt c54))) (Ln 2 Z Ok z43nf z43cc Z Z) Z ?_)
       iterate 2 refine TD.q Z (.g Z Z (bf (Nt c54))) (Ls aj Z) Z ?_
       refine TD.q Z (.g Z Z (bf (Nt c54))) (K1 (k:=k7) Z Z Z NR Oi (Nw hx48).1) Z ?_
       refine TD.q Z (.g Z Z (bf (Nt c54))) (Ls aj Z) Z (TD.q Z (.g Z Z (bf (Nt c54))) (Ln 2 Z Ok z49nf z49cc Z Z) Z ?_)
       rcases jF h with⟨c55,h⟩ | ⟨c55,h⟩
       ·rcases jF h with⟨c56,h⟩ | ⟨c56,h⟩
        ·refine TD.q Z (.g Z Z (bf (Nt c54))) (LV Z c55 Z c56 N1) Z (KO Z (LL Z (bf (Nt c54)) Z) Z (TD.run aj [37] Z Z ?_))
         iterate 2 refine TD.q Z (.g Z Z Z) (Ls aj Z) Z ?_
         refine TD.q Z (.g Z Z Z) (K1 (k:=k7) Z Z Z NR Oi (Nw hx42).1) Z ?_
         refine TD.q Z (.g Z Z Z) (Ls aj Z) Z (TD.q Z (.g Z Z Z) (Ln 4 Z Nz z43nf z43cc Z Z) Z ?_)
         iterate 2 refine TD.q Z (.g Z Z Z) (Ls aj Z) Z ?_
         refine TD.q Z (.g Z Z Z) (K1 (k:=k7) Z Z Z NR Oi (Nw hx48).1) Z ?_
         refine TD.q Z (.g Z Z Z) (Ls aj Z) Z (TD.q Z (.g Z Z Z) (Ln 4 Z Nz z49nf z49cc Z Z) Z (TD.q Z (.g Z Z Z) (Ls aj Z) Z (KO Z (LL Z Z Z) Z ?_)))
         rcases jF h with⟨c57,h⟩ | ⟨c57,h⟩
         ·refine TD.run aj [50] Z Z ?_
          iterate 2 refine TD.q Z (.g Z Z (bf (Nt c57))) (Ls aj Z) Z ?_
          refine TD.q Z (.g Z Z (bf (Nt c57))) (K1 (k:=k7) Z Z Z NR Oi (Nw hx42).1) Z ?_
          refine TD.q Z (.g Z Z (bf (Nt c57))) (Ls aj Z) Z (TD.q Z (.g Z Z (bf (Nt c57))) (Ln 3 Z OZ z43nf z43cc Z Z) Z ?_)
          iterate 2 refine TD.q Z (.g Z Z (bf (Nt c57))) (Ls aj Z) Z ?_
          refine TD.q Z (.g Z Z (bf (Nt c57))) (K1 (k:=k7) Z Z Z NR Oi (Nw hx48).1) Z ?_
          refine TD.q Z (.g Z Z (bf (Nt c57))) (Ls aj Z) Z (TD.q Z (.g Z Z (bf (Nt c57))) (Ln 3 Z OZ z49nf z49cc Z Z) Z ?_)
          obtain⟨x58,hx59,h⟩:=Np h
          refine Lw Z (.g Z Z (bf (Nt c57))) (.fn Tryz.call113 Z) (ga x41.MF _ _ x47.MF _ _ _ hx59) (fun _ hs=>(RX.reads_and (K0 hs hX46) (K0 hs hX52))) Z [0] (Z) (TD.q Z (.g Z Z (bf (Nt c57))) (Ls aj Z) Z (KO Z (LL Z (bf (Nt c57)) Z) Z ?_))
          rcases jF h with⟨c60,h⟩ | ⟨c60,h⟩
          ·cases h
           exact TD.nil (LE (d:=80) (v':= .bool false) Z (congrArg Value.bool (bf c60)) (KR [0]))
          replace c60:=Nx c60
          cases h
          exact TD.nil (LE (d:=80) (v':= .bool true) Z (congrArg Value.bool (bG c60)) (KR [0]))
         refine TD.run aj [50] Z Z ?_
         iterate 10 refine LD Z (.gn Z Z (bG (Nu c57))) Z ?_
         refine L6 Z (.gn Z Z (bG (Nu c57))) Z [0] Z (LD Z (.gn Z Z (bG (Nu c57))) Z (KO Z (LN Z (bG (Nu c57)) Z) Z ?_))
         cases h
         exact TD.nil (KR [0])
        replace c56:=Nx c56
        refine TD.q Z (.g Z Z (bf (Nt c54))) (LV Z c55 Z c56 N1) Z (KO Z (LL Z (bf (Nt c54)) Z) Z (TD.run aj [37] Z Z ?_))
        iterate 11 refine LD Z (.gn Z Z Z) Z ?_
        refine KO Z (LN Z Z Z) Z (TD.run aj [50] Z Z ?_)
        iterate 10 refine LD Z (.gn Z Z Z) Z ?_
        refine L6 Z (.gn Z Z Z) Z [0] Z (LD Z (.gn Z Z Z) Z (KO Z (LN Z Z Z) Z ?_))
        cases h
        exact TD.nil (KR [0])
       replace c55:=Nx c55
       rcases jF h with⟨c61,h⟩ | ⟨c61,h⟩
       ·refine TD.q Z (.g Z Z (bf (Nt c54))) (LV Z c55 Z c61 N1) Z (KO Z (LL Z (bf (Nt c54)) Z) Z (TD.run aj [37] Z Z ?_))
        iterate 11 refine LD Z (.gn Z Z Z) Z ?_
        refine KO Z (LN Z Z Z) Z (TD.run aj [50] Z Z ?_)
        iterate 10 refine LD Z (.gn Z Z Z) Z ?_
        refine L6 Z (.gn Z Z Z) Z [0] Z (LD Z (.gn Z Z Z) Z (KO Z (LN Z Z Z) Z ?_))
        cases h
        exact TD.nil (KR [0])
       replace c61:=Nx c61
       refine TD.q Z (.g Z Z (bf (Nt c54))) (LV Z c55 Z c61 N1) Z (KO Z (LL Z (bf (Nt c54)) Z) Z (TD.run aj [37] Z Z ?_))
       iterate 2 refine TD.q Z (.g Z Z Z) (Ls aj Z) Z ?_
       refine TD.q Z (.g Z Z Z) (K1 (k:=k7) Z Z Z NR Oi (Nw hx42).1) Z ?_
       refine TD.q Z (.g Z Z Z) (Ls aj Z) Z (TD.q Z (.g Z Z Z) (Ln 4 Z Nz z43nf z43cc Z Z) Z ?_)
       iterate 2 refine TD.q Z (.g Z Z Z) (Ls aj Z) Z ?_
       refine TD.q Z (.g Z Z Z) (K1 (k:=k7) Z Z Z NR Oi (Nw hx48).1) Z ?_
       refine TD.q Z (.g Z Z Z) (Ls aj Z) Z (TD.q Z (.g Z Z Z) (Ln 4 Z Nz z49nf z49cc Z Z) Z (TD.q Z (.g Z Z Z) (Ls aj Z) Z (KO Z (LL Z Z Z) Z ?_)))
       rcases jF h with⟨c62,h⟩ | ⟨c62,h⟩
       ·refine TD.run aj [50] Z Z ?_
        iterate 2 refine TD.q Z (.g Z Z (bf (Nt c62))) (Ls aj Z) Z ?_
        refine TD.q Z (.g Z Z (bf (Nt c62))) (K1 (k:=k7) Z Z Z NR Oi (Nw hx42).1) Z ?_
        refine TD.q Z (.g Z Z (bf (Nt c62))) (Ls aj Z) Z (TD.q Z (.g Z Z (bf (Nt c62))) (Ln 3 Z OZ z43nf z43cc Z Z) Z ?_)
        iterate 2 refine TD.q Z (.g Z Z (bf (Nt c62))) (Ls aj Z) Z ?_
        refine TD.q Z (.g Z Z (bf (Nt c62))) (K1 (k:=k7) Z Z Z NR Oi (Nw hx48).1) Z ?_
        refine TD.q Z (.g Z Z (bf (Nt c62))) (Ls aj Z) Z (TD.q Z (.g Z Z (bf (Nt c62))) (Ln 3 Z OZ z49nf z49cc Z Z) Z ?_)
        obtain⟨x63,hx64,h⟩:=Np h
        refine Lw Z (.g Z Z (bf (Nt c62))) (.fn Tryz.call113 Z) (ga x41.MF _ _ x47.MF _ _ _ hx64) (fun _ hs=>(RX.reads_and (K0 hs hX46) (K0 hs hX52))) Z [0] (Z) (TD.q Z (.g Z Z (bf (Nt c62))) (Ls aj Z) Z (KO Z (LL Z (bf (Nt c62)) Z) Z ?_))
        rcases jF h with⟨c65,h⟩ | ⟨c65,h⟩
        ·cases h
         exact TD.nil (LE (d:=80) (v':= .bool false) Z (congrArg Value.bool (bf c65)) (KR [0]))
        replace c65:=Nx c65
        cases h
        exact TD.nil (LE (d:=80) (v':= .bool true) Z (congrArg Value.bool (bG c65)) (KR [0]))
       refine TD.run aj [50] Z Z ?_
       iterate 10 refine LD Z (.gn Z Z (bG (Nu c62))) Z ?_
       refine L6 Z (.gn Z Z (bG (Nu c62))) Z [0] Z (LD Z (.gn Z Z (bG (Nu c62))) Z (KO Z (LN Z (bG (Nu c62)) Z) Z ?_))
       cases h
       exact TD.nil (KR [0])
      refine TD.run aj [24] Z Z ?_
      iterate 11 refine LD Z (.gn Z Z (bG (Nu c54))) Z ?_
      refine KO Z (LN Z (bG (Nu c54)) Z) Z (TD.run aj [37] Z Z ?_)
      iterate 11 refine LD Z (.gn Z Z Z) Z ?_
      refine KO Z (LN Z Z Z) Z (TD.run aj [50] Z Z ?_)
      iterate 10 refine LD Z (.gn Z Z Z) Z ?_
      refine L6 Z (.gn Z Z Z) Z [0] Z (LD Z (.gn Z Z Z) Z (KO Z (LN Z Z Z) Z ?_))
      cases h
      exact TD.nil (KR [0])
     refine TD.run aj [10,11] Z Z ?_
     iterate 11 refine LD Z (.gn Z Z (bG (Nu c53))) Z ?_
     refine KO Z (LN Z (bG (Nu c53)) Z) Z (TD.run aj [24] Z Z ?_)
     iterate 11 refine LD Z (.gn Z Z Z) Z ?_
     refine KO Z (LN Z Z Z) Z (TD.run aj [37] Z Z ?_)
     iterate 11 refine LD Z (.gn Z Z Z) Z ?_
     refine KO Z (LN Z Z Z) Z (TD.run aj [50] Z Z ?_)
     iterate 10 refine LD Z (.gn Z Z Z) Z ?_
     refine L6 Z (.gn Z Z Z) Z [0] Z (LD Z (.gn Z Z Z) Z (KO Z (LN Z Z Z) Z ?_))
     cases h
     exact TD.nil (KR [0])
    rintro _ _ ⟨rfl,rfl⟩
    clear h
    have h:=hk40
    clear hk40
    try dsimp only at h
    rcases jF h with⟨c66,h⟩ | ⟨c66,h⟩
    ·refine X.seq (KV Z c66 (KG Z (KF aj 1 Z ?_)))
     obtain rfl:=Nq h
     obtain rfl:=Nq hO10
     exact KI (T.ret (KU (KL (KL (KU (KL (KQ [0] Tryz.results65 (KJ Z))))))))
    replace c66:=Nx c66
    refine X.seq (Lb Z c66 (T.skip (K4 (X.seq (T.region Z ?_)))))
    obtain⟨c67,h⟩:=ao h
    exact KF aj 1 Z (KH Z (Ex.add Z Z c67) Z (KF aj 1 Z (TL.nil (X.back (m':=m11) [0] QG ⟨y6,k7+1,Z,Z,h⟩ QJ QJ))))
   refine K9 Z c15 ?_
   obtain rfl:=Nq h
   replace h:=hO10
   clear hO10
   refine T.exit (KZ (KZ (Lu (X.seq (KG Z (KF aj 1 Z ?_))))))
   obtain rfl:=Nq h
   exact KI (T.ret (KQ [0] Tryz.results65 (KJ Z)))
 refine Li Z c5 (KG Z (KF aj 1 Z ?_))
 obtain rfl:=Nq h
 exact KI (T.ret (KL (KQ [0] Tryz.results65 (KJ Z))))
end Go.Proofs.YtheikonlgjdopaaGreat.Sl
