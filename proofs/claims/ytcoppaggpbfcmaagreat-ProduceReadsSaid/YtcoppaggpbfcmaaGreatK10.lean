/- ProduceReads: for every input the law returns true, and its arguments read behind the call as they did before. -/
import Derived.Test.YtcoppaggpbfcmaaGreatRows
import Derived.WalkKit
import Derived.ProofKit
import Derived.OpenShut
import Derived.ShutString
import Derived.ChangeOld
import Derived.Below
import Derived.SizedLaws
import Derived.Test.YtcoppaggpbfcmaaGreatK9
set_option maxRecDepth 100000
set_option maxHeartbeats 4000000
set_option linter.defProp false
namespace Go.Proofs.YtcoppaggpbfcmaaGreat.Sl
open Go.RowKit
set_option linter.unusedVariables false
set_option linter.unusedSimpArgs false
def oC:fv := [(35,1,1),(50,0,0),(50,1,2),(50,2,3),(50,3,4),(54,3,4),(81,0,0),(81,1,1),(84,1,1),(126,1,1)]
theorem ao:(oC).OK Tryz.prog:=⟨FOK.mk DD rfl DT rfl,FOK.mk DX rfl C7 rfl,FOK.mk DX rfl CY rfl,FOK.mk DX rfl CY rfl,FOK.mk DX rfl Tryz.sizeOf48 rfl,FOK.mk Ee rfl Tryz.sizeOf52 rfl,FOK.mk Em rfl DT rfl,FOK.mk Em rfl Fb rfl,FOK.mk Ev rfl Eu rfl,FOK.mk Et rfl Fp rfl,trivial⟩
theorem gw:Tryz.prog.follows .mixedOrders=true:=by kernel_rfl
theorem lQ:BOK Tryz.prog 27 #[.int .i64 0,.int .i64 0,.bool false,.bool false,.bool false,.int .i64 0,.int .i64 0,.int .i64 0,.int .i64 0,.int .i64 0,.int .i64 0,.slice none 0 0] [(0,1),(1,1),(2,1),(3,1),(4,1),(5,1),(6,1),(7,1),(8,1),(9,1),(10,1),(11,1)]:=BOK.mk Tryz.zeroValue27 Da (by intro w; simp)
theorem lR:BOK Tryz.prog 35 #[.bool false,.string ⟨#[]⟩] [(0,1),(1,1)]:=BOK.mk Tryz.zeroValue35 DD (by intro w; simp)
theorem lS:BOK Tryz.prog 50 #[.bool false,.string ⟨#[]⟩,.int .i64 0,.int .i64 0,.slice none 0 0] [(0,2),(2,1),(3,1),(4,1)]:=BOK.mk Tryz.zeroValue50 DX (by intro w; simp)
theorem lT:BOK Tryz.prog 54 #[.bool false,.string ⟨#[]⟩,.int .i64 0,.int .i64 0,.slice none 0 0] [(0,2),(2,1),(3,1),(4,1)]:=BOK.mk Tryz.zeroValue54 Ee (by intro w; simp)
theorem lU:BOK Tryz.prog 81 #[.string ⟨#[]⟩,.slice none 0 0] [(0,1),(1,1)]:=BOK.mk Tryz.zeroValue81 Em (by intro w; simp)
theorem lV:BOK Tryz.prog 84 #[.int .i64 0,.slice none 0 0] [(0,1),(1,1)]:=BOK.mk Tryz.zeroValue84 Ev (by intro w; simp)
theorem lc:BOK Tryz.prog 126 #[.string ⟨#[]⟩,.slice none 0 0] [(0,1),(1,1)]:=BOK.mk Tryz.zeroValue126 Et (by intro w; simp)
theorem kG:SOK Tryz.prog 48 81 1 2 #[.string ⟨#[]⟩,.slice none 0 0]:=SOK.mk DG DR Tryz.zeroValue81 (by decide) (by kernel_rfl)
theorem kH:SOK Tryz.prog 52 126 1 2 #[.string ⟨#[]⟩,.slice none 0 0]:=SOK.mk Dz DI Tryz.zeroValue126 (by decide) (by kernel_rfl)
theorem kI:SOK Tryz.prog 79 84 1 2 #[.int .i64 0,.slice none 0 0]:=SOK.mk DH DJ Tryz.zeroValue84 (by decide) (by kernel_rfl)
theorem kJ:SOK Tryz.prog 82 27 1 12 #[.int .i64 0,.int .i64 0,.bool false,.bool false,.bool false,.int .i64 0,.int .i64 0,.int .i64 0,.int .i64 0,.int .i64 0,.int .i64 0,.slice none 0 0]:=SOK.mk Dk C3 Tryz.zeroValue27 (by decide) (by kernel_rfl)
theorem kK:SOK Tryz.prog 82 27 2 12 #[.int .i64 0,.int .i64 0,.bool false,.bool false,.bool false,.int .i64 0,.int .i64 0,.int .i64 0,.int .i64 0,.int .i64 0,.int .i64 0,.slice none 0 0,.int .i64 0,.int .i64 0,.bool false,.bool false,.bool false,.int .i64 0,.int .i64 0,.int .i64 0,.int .i64 0,.int .i64 0,.int .i64 0,.slice none 0 0]:=SOK.mk Dk C3 Tryz.zeroValue27 (by decide) (by kernel_rfl)
theorem kj:SOK Tryz.prog 124 127 1 2 #[.int .i64 0,.slice none 0 0]:=SOK.mk Do Dn Tryz.zeroValue127 (by decide) (by kernel_rfl)
theorem ld:(Tryz.prog.info? 126).map (fun i=>(i.zero,i.size,i.bytes))=some (some (.agg #[.string ⟨#[]⟩,.slice none 0 0]),2,40):=by kernel_rfl
theorem le:(Tryz.prog.info? 127).map (fun i=>(i.zero,i.size,i.bytes))=some (some (.agg #[.int .i64 0,.slice none 0 0]),2,32):=by kernel_rfl
def gx  : Option (Bat):=some (⟨0,0,false,false,false,0,0,0,-1,-1,-1,[]⟩:Bat)
theorem gy  (r:Bat) (h:gx  = some r):ay Tryz.prog 55 #[] .triv (aB) (fun v A' N=> ∃ (A2:Option Addr) (c3:Nat),v= .agg #[jI r.Cu,jI r.Co,.bool r.Cw,.bool r.CE,.bool r.Cq,jI r.Cr,jI r.Cl,jI r.Cy,jI r.Ci,jI r.Cp,jI r.Ch,.slice A2 r.Ce.length c3]∧A'=aB∧N = [RdR (av 7 aU) [.slice A2 r.Ce.length c3] r.Ce]):=by
 refine aL Tryz.func55 Z Tryz.ntmps55 Z ?_
 intro F w hX
 unfold gx at h
 refine T.seq (T.region Z (TL.alloc Z .u Tryz.zeroValue27 Z (fun b1=>(TL.nil (X.seq (T.seq (T.region Z ?_)))))))
 refine TL.q Z .u (AD (cells:= #[jI 0,jI 0,.bool false,.bool false,.bool false,jI 0,jI 0,jI 0,jI (-1),jI (-1),jI (-1),.slice none 0 0]) lQ Z (by kernel_rfl)) Z ?_
 refine Ay (cs':= #[jI 0,jI 0,.bool false,.bool false,.bool false,jI 0,jI 0,jI 0,jI (-1),jI (-1),jI (-1),.slice none 0 0]) Z .u Z Z C3 Z Z Z Z ?_
 obtain rfl:=CP h
 exact TL.nil (X.seq (T.ret (AO 7 aU (Ak [2,0] Tryz.results55 (AF (us:= #[jI 0,jI 0,.bool false,.bool false,.bool false,jI 0,jI 0,jI 0,jI (-1),jI (-1),jI (-1),.slice none 0 0]) 1 Z Df C3 Z Z) ⟨_,_,Z,Z,Z⟩ (by rfl) (.inl Z)))))
def iG  : Option (Bool):=(gx).bind fun x1=>(eN ([],0) (⟨(⟨true,[]⟩:Bl),0,0,[(⟨[97],[(⟨0,[x1]⟩:aE)]⟩:ax)]⟩:aw) 3).bind fun st10=>(kv st10).bind fun (x12,x13,st14)=>(gx).bind fun x16=>(gx).bind fun x20=>(if x13=0 then (if (x12.length:Int)=88 then ((aT (⟨(⟨true,[]⟩:Bl),0,0,[(⟨[97],[(⟨0,[x16,x20]⟩:aE)]⟩:ax)]⟩:aw) 3).bind fun x36=>if x36=10 then ((aT (⟨(⟨true,[]⟩:Bl),0,0,[(⟨[97],[(⟨0,[x16,x20]⟩:aE)]⟩:ax)]⟩:aw) 4).bind fun x39=>if x39=0 then some true else some false) else some false) else some false) else some false).bind fun y32=>some y32
theorem nA  (r:Bool) (h:iG  = some r):ay Tryz.prog 17 #[] .triv (aB) (fun v A' N=>v= .bool r∧A'=aB∧N = []):=by
 refine aL Tryz.func17 Z Tryz.ntmps17 Z ?_
 intro F w hX
 unfold iG at h
 refine T.seq (T.region Z (TL.run ao [0] Z Z (TL.nil (X.seq (T.seq (T.region Z ?_))))))
 refine TL.q Z .u (AD (cells:= #[.bool true,.string ⟨#[]⟩]) lR Z (by kernel_rfl)) Z ?_
 obtain⟨x1,hx4,h⟩:=CM h
 refine AP Z .u (.fn Tryz.call55 Z) (gy _ hx4) (fun _ hs=>(RX.reads_triv _ _)) Z ?_
 rintro _ _ _ ⟨A2,c3,rfl,rfl,rfl⟩
 refine AC [0,0] Z ?_
 refine Bk (cells:= #[jI x1.Cu,jI x1.Co,.bool x1.Cw,.bool x1.CE,.bool x1.Cq,jI x1.Cr,jI x1.Cl,jI x1.Cy,jI x1.Ci,jI x1.Cp,jI x1.Ch,.slice A2 x1.Ce.length c3]) Z .u kJ Z (by kernel_rfl) Z (fun b5=> ?_)
 refine TL.q Z .u (AD (cells:= #[jI 0,.slice (some ⟨b5,0,none⟩) 1 1]) lV Z (by kernel_rfl)) Z ?_
 refine Bk (cells:= #[jI 0,.slice (some ⟨b5,0,none⟩) 1 1]) Z .u kI Z (by kernel_rfl) Z (fun b6=> ?_)
 refine TL.q Z .u (AD (cells:= #[.string ⟨#[97]⟩,.slice (some ⟨b6,0,none⟩) 1 1]) lU Z (by kernel_rfl)) Z ?_
 refine Bk (cells:= #[.string ⟨#[97]⟩,.slice (some ⟨b6,0,none⟩) 1 1]) Z .u kG Z (by kernel_rfl) Z (fun b7=> ?_)
 refine TL.q Z .u (AD (cells:= #[.bool true,.string ⟨#[]⟩,jI 0,jI 0,.slice (some ⟨b7,0,none⟩) 1 1]) lS Z (by kernel_rfl)) Z ?_
 refine TL.alloc Z .u Tryz.zeroValue50 Z (fun b8=>(Ay (cs':= #[.bool true,.string ⟨#[]⟩,jI 0,jI 0,.slice (some ⟨b7,0,none⟩) 1 1]) Z .u Z Z DM Z Z Z Z (TL.nil (X.seq (T.seq (T.region Z (B7 Z .u Tryz.zeroValue66 Z (fun b9=>(TL.nil (X.seq (T.seq (T.region Z (TL.q Z .u (Av (us := [.bool true,.string ⟨#[]⟩,jI 0,jI 0,.slice (some ⟨b7,0,none⟩) 1 1]) 1 Z D6 DM Z Z Z) Z ?_)))))))))))))
 obtain⟨st10,hx11,h⟩:=CM h
 refine AZ Z .u (.fn Tryz.call27 Z) (iF b9 ([],0) (⟨(⟨true,[]⟩:Bl),0,0,[(⟨[97],[(⟨0,[x1]⟩:aE)]⟩:ax)]⟩:aw) _ _ 3 _ hx11) (fun _ hs=>(Src.many [1,1,1,1] Z (fun w G hS=>by obtain⟨⟨G0,⟨h0,i0⟩,j0⟩,⟨⟨G1,⟨h1,i1⟩,j1⟩,⟨⟨G2,⟨h2,i2⟩,j2⟩,⟨⟨G3,⟨h3,i3⟩,j3⟩,_⟩⟩⟩⟩:=hS; exact (fy (us := [.string ⟨#[97]⟩,.slice (some ⟨b6,0,none⟩) 1 1]) h0 (j0 _ ((i0 _).2 rfl)) rfl (Nat.le_of_ble_eq_true rfl) ⟨rfl,⟨_,_,rfl,(fy (us := [jI 0,.slice (some ⟨b5,0,none⟩) 1 1]) h1 (j1 _ ((i1 _).2 rfl)) rfl (Nat.le_of_ble_eq_true rfl) ⟨rfl,⟨_,_,rfl,(fy (us := [jI x1.Cu,jI x1.Co,.bool x1.Cw,.bool x1.CE,.bool x1.Cq,jI x1.Cr,jI x1.Cl,jI x1.Cy,jI x1.Ci,jI x1.Cp,jI x1.Ch,.slice A2 x1.Ce.length c3]) h2 (j2 _ ((i2 _).2 rfl)) rfl (Nat.le_of_ble_eq_true rfl) ⟨rfl,⟨_,_,rfl,((av 7 aU).mono h3 j3)⟩,rfl⟩)⟩,rfl⟩)⟩,rfl⟩)))) Z ?_
 obtain⟨⟨x12,x13,st14⟩,hx15,h⟩:=CM h
 try dsimp only at h
 refine TL.nil (X.seq (T.seq (T.region Z (AZ Z .u (.fn Tryz.call28 Z) (fV b9 st10 _ hx15) (fun _ hs=>(Src.triv _)) Z (TL.run ao [1,2,3,4,5] Z Z ?_)))))
 refine TL.nil (X.seq (T.seq (AH (.q 0 (.q 1 (.q 2 (.q 3 (.q 4 (.e 5 (.e 6 (.e 7 (.q 8 (.q 9 (.e 10 .nil))))))))))) [0,0,0,1,1,1] Z gw (NoP.seq aM) (by kernel_rfl) ?_)))
 refine TD.run ao [0] Z Z (TD.q Z .u (Ai 1 Z EL Z Z) Z (TD.q Z .u (Be (k:=0) (r:=0) Z Z Z DG DR (by decide) Z) Z (TD.run ao [3] Z Z (TD.q Z .u (Ai 2 Z Eh Z Z) Z ?_))))
 obtain⟨x16,hx19,h⟩:=CM h
 refine TD.cge Z .u (.fn Tryz.call55 Z) (gy _ hx19) (fun _ hs=>(RX.reads_triv _ _)) Z [1,1,1,2,2,2] ?_ ?_
 ·rintro _ _ _ ⟨A17,c18,rfl,rfl,rfl⟩
  rfl
 rintro _ _ _ ⟨A17,c18,rfl,rfl,rfl⟩
 refine Bi [0,0,0,0,0,0,0,0] Z ?_
 obtain⟨x20,hx23,h⟩:=CM h
 refine TD.cge Z .u (.fn Tryz.call55 Z) (gy _ hx23) (fun _ hs=>(RX.reads_triv _ _)) Z [2,2,2,3,3,3] ?_ ?_
 ·rintro _ _ _ ⟨A21,c22,rfl,rfl,rfl⟩
  rfl
 rintro _ _ _ ⟨A21,c22,rfl,rfl,rfl⟩
 refine Bi [0,0,0,0,0,0,0,0,0] Z ?_
 refine Bx (cells:= #[jI x16.Cu,jI x16.Co,.bool x16.Cw,.bool x16.CE,.bool x16.Cq,jI x16.Cr,jI x16.Cl,jI x16.Cy,jI x16.Ci,jI x16.Cp,jI x16.Ch,.slice A17 x16.Ce.length c18,jI x20.Cu,jI x20.Co,.bool x20.Cw,.bool x20.CE,.bool x20.Cq,jI x20.Cr,jI x20.Cl,jI x20.Cy,jI x20.Ci,jI x20.Cp,jI x20.Ch,.slice A21 x20.Ce.length c22]) Z .u kK Z (by kernel_rfl) Z [3,3,3,4,4,4] (fun _=>Z) (fun b24=> ?_)
 refine TD.q Z .u (Be (k:=0) (r:=0) Z Z Z DH DJ (by decide) Z) Z (TD.run ao [9] Z Z (TD.st6 (cs':= #[jI 0,.slice (some ⟨b24,0,none⟩) 2 2]) Z .u Z Z Eu Z Z Z Z [3,3,3,4,4,4] (Z) (TD.nil (X.seq (T.seq ?_)))))
 obtain⟨y32,h,hk33⟩:=CM h
 refine Bg (fun e Rs=>e = [(0,.bool y32)]∧Rs = [aC b24 27 #[jI x16.Cu,jI x16.Co,.bool x16.Cw,.bool x16.CE,.bool x16.Cq,jI x16.Cr,jI x16.Cl,jI x16.Cy,jI x16.Ci,jI x16.Cp,jI x16.Ch,.slice A17 x16.Ce.length c18,jI x20.Cu,jI x20.Co,.bool x20.Cw,.bool x20.CE,.bool x20.Cq,jI x20.Cr,jI x20.Cl,jI x20.Cy,jI x20.Ci,jI x20.Cp,jI x20.Ch,.slice A21 x20.Ce.length c22],RdR (av 7 aU) [.slice A21 x20.Ce.length c22] x20.Ce,RdR (av 7 aU) [.slice A17 x16.Ce.length c18] x16.Ce,aW b9 st14,aC b8 50 #[.bool true,.string ⟨#[]⟩,jI 0,jI 0,.slice (some ⟨b7,0,none⟩) 1 1],aC b7 81 #[.string ⟨#[97]⟩,.slice (some ⟨b6,0,none⟩) 1 1],aC b6 84 #[jI 0,.slice (some ⟨b24,0,none⟩) 2 2],aC b5 27 #[jI x1.Cu,jI x1.Co,.bool x1.Cw,.bool x1.CE,.bool x1.Cq,jI x1.Cr,jI x1.Cl,jI x1.Cy,jI x1.Ci,jI x1.Cp,jI x1.Ch,.slice A2 x1.Ce.length c3],RdR (av 7 aU) [.slice A2 x1.Ce.length c3] x1.Ce,aB]) ?_ ?_
 ·clear hk33
  refine T.region Z ?_
  rcases jF h with⟨c34,h⟩ | ⟨c34,h⟩
  ·refine TL.run ao [0,1,2] Z Z (TL.q Z (.g Z Z (CN c34)) (Ao ao Z) Z (TL.q Z (.g Z Z (CN c34)) (AW Z CZ) Z (TL.q Z (.g Z Z (CN c34)) (Ao ao Z) Z (TL.q Z .u (Aq Z (CN c34) Z) Z ?_))))
   rcases jF h with⟨c35,h⟩ | ⟨c35,h⟩
   ·refine TL.run ao [7] Z Z (TL.q Z (.g Z Z (CN c35)) (Av (us := [.bool true,.string ⟨#[]⟩,jI 0,jI 0,.slice (some ⟨b7,0,none⟩) 1 1]) 4 Z D6 DM Z Z Z) Z ?_)
    obtain⟨x36,hx37,h⟩:=CM h
    refine Ax Z (.g Z Z (CN c35)) (.fn Tryz.call30 Z) (cJ (⟨(⟨true,[]⟩:Bl),0,0,[(⟨[97],[(⟨0,[x16,x20]⟩:aE)]⟩:ax)]⟩:aw) _ _ 3 _ hx37) (fun _ hs=>(SrcE.many [5,5,0,1,0] hs Z (fun w G hS=>by obtain⟨⟨G0,⟨h0,i0⟩,j0⟩,⟨⟨G1,⟨h1,i1⟩,j1⟩,⟨⟨G2,⟨h2,i2⟩,j2⟩,⟨⟨G3,⟨h3,i3⟩,j3⟩,⟨⟨G4,⟨h4,i4⟩,j4⟩,_⟩⟩⟩⟩⟩:=hS; exact (fy (us := [.string ⟨#[97]⟩,.slice (some ⟨b6,0,none⟩) 1 1]) h0 (j0 _ ((i0 _).2 rfl)) rfl (Nat.le_of_ble_eq_true rfl) ⟨rfl,⟨_,_,rfl,(fy (us := [jI 0,.slice (some ⟨b24,0,none⟩) 2 2]) h1 (j1 _ ((i1 _).2 rfl)) rfl (Nat.le_of_ble_eq_true rfl) ⟨rfl,⟨_,_,rfl,(fy (us := [jI x16.Cu,jI x16.Co,.bool x16.Cw,.bool x16.CE,.bool x16.Cq,jI x16.Cr,jI x16.Cl,jI x16.Cy,jI x16.Ci,jI x16.Cp,jI x16.Ch,.slice A17 x16.Ce.length c18,jI x20.Cu,jI x20.Co,.bool x20.Cw,.bool x20.CE,.bool x20.Cq,jI x20.Cr,jI x20.Cl,jI x20.Cy,jI x20.Ci,jI x20.Cp,jI x20.Ch,.slice A21 x20.Ce.length c22]) h2 (j2 _ ((i2 _).2 rfl)) rfl (Nat.le_of_ble_eq_true rfl) ⟨rfl,⟨_,_,rfl,((av 7 aU).mono h3 j3)⟩,⟨rfl,⟨_,_,rfl,((av 7 aU).mono h4 j4)⟩,rfl⟩⟩)⟩,rfl⟩)⟩,rfl⟩)))) Z (TL.q Z (.g Z Z (CN c35)) (Ao ao Z) Z (TL.q Z .u (Aq Z (CN c35) Z) Z ?_))
    rcases jF h with⟨c38,h⟩ | ⟨c38,h⟩
    ·refine TL.run ao [12] Z Z (TL.q Z (.g Z Z (CN c38)) (Av (us := [.bool true,.string ⟨#[]⟩,jI 0,jI 0,.slice (some ⟨b7,0,none⟩) 1 1]) 4 Z D6 DM Z Z Z) Z ?_)
     obtain⟨x39,hx40,h⟩:=CM h
     refine Ax Z (.g Z Z (CN c38)) (.fn Tryz.call30 Z) (cJ (⟨(⟨true,[]⟩:Bl),0,0,[(⟨[97],[(⟨0,[x16,x20]⟩:aE)]⟩:ax)]⟩:aw) _ _ 4 _ hx40) (fun _ hs=>(SrcE.many [5,5,0,1,0] hs Z (fun w G hS=>by obtain⟨⟨G0,⟨h0,i0⟩,j0⟩,⟨⟨G1,⟨h1,i1⟩,j1⟩,⟨⟨G2,⟨h2,i2⟩,j2⟩,⟨⟨G3,⟨h3,i3⟩,j3⟩,⟨⟨G4,⟨h4,i4⟩,j4⟩,_⟩⟩⟩⟩⟩:=hS; exact (fy (us := [.string ⟨#[97]⟩,.slice (some ⟨b6,0,none⟩) 1 1]) h0 (j0 _ ((i0 _).2 rfl)) rfl (Nat.le_of_ble_eq_true rfl) ⟨rfl,⟨_,_,rfl,(fy (us := [jI 0,.slice (some ⟨b24,0,none⟩) 2 2]) h1 (j1 _ ((i1 _).2 rfl)) rfl (Nat.le_of_ble_eq_true rfl) ⟨rfl,⟨_,_,rfl,(fy (us := [jI x16.Cu,jI x16.Co,.bool x16.Cw,.bool x16.CE,.bool x16.Cq,jI x16.Cr,jI x16.Cl,jI x16.Cy,jI x16.Ci,jI x16.Cp,jI x16.Ch,.slice A17 x16.Ce.length c18,jI x20.Cu,jI x20.Co,.bool x20.Cw,.bool x20.CE,.bool x20.Cq,jI x20.Cr,jI x20.Cl,jI x20.Cy,jI x20.Ci,jI x20.Cp,jI x20.Ch,.slice A21 x20.Ce.length c22]) h2 (j2 _ ((i2 _).2 rfl)) rfl (Nat.le_of_ble_eq_true rfl) ⟨rfl,⟨_,_,rfl,((av 7 aU).mono h3 j3)⟩,⟨rfl,⟨_,_,rfl,((av 7 aU).mono h4 j4)⟩,rfl⟩⟩)⟩,rfl⟩)⟩,rfl⟩)))) Z (TL.q Z (.g Z Z (CN c38)) (Ao ao Z) Z (TL.q Z .u (Aq Z (CN c38) Z) Z (TL.run ao [17] Z Z ?_)))
     rcases jF h with⟨c41,h⟩ | ⟨c41,h⟩
     ·cases h
      exact TL.nil (Bh (d:=0) (v':= .bool true) Z (congrArg Value.bool (CN c41)) (AB [0,0,0,0,0,0,0,0,0,0] ⟨Z,Z⟩ (by rfl) (by rfl)))
     ·cases h
      exact TL.nil (Bh (d:=0) (v':= .bool false) Z (congrArg Value.bool (CO c41)) (AB [0,0,0,0,0,0,0,0,0,0] ⟨Z,Z⟩ (by rfl) (by rfl)))
    ·refine TL.run ao [12] Z Z ?_
     iterate 3 refine An Z (.gn Z Z (CO c38)) Z ?_
     refine TL.q Z .u (Ar Z (CO c38) Z) Z (TL.run ao [17] Z Z ?_)
     cases h
     exact TL.nil (AB [0,0,0,0,0,0,0,0,0,0] ⟨Z,Z⟩ (by rfl) (by rfl))
   ·refine TL.run ao [7] Z Z ?_
    iterate 3 refine An Z (.gn Z Z (CO c35)) Z ?_
    refine TL.q Z .u (Ar Z (CO c35) Z) Z (TL.run ao [12] Z Z ?_)
    iterate 3 refine An Z (.gn Z Z Z) Z ?_
    refine TL.q Z .u (Ar Z Z Z) Z (TL.run ao [17] Z Z ?_)
    cases h
    exact TL.nil (AB [0,0,0,0,0,0,0,0,0,0] ⟨Z,Z⟩ (by rfl) (by rfl))
  ·refine TL.run ao [0,1,2] Z Z ?_
   iterate 3 refine An Z (.gn Z Z (CO c34)) Z ?_
   refine TL.q Z .u (Ar Z (CO c34) Z) Z (TL.run ao [7] Z Z ?_)
   iterate 3 refine An Z (.gn Z Z Z) Z ?_
   refine TL.q Z .u (Ar Z Z Z) Z (TL.run ao [12] Z Z ?_)
   iterate 3 refine An Z (.gn Z Z Z) Z ?_
   refine TL.q Z .u (Ar Z Z Z) Z (TL.run ao [17] Z Z ?_)
   cases h
   exact TL.nil (AB [0,0,0,0,0,0,0,0,0,0] ⟨Z,Z⟩ (by rfl) (by rfl))
 ·rintro _ _ ⟨rfl,rfl⟩
  clear h
  have h:=hk33
  clear hk33
  try dsimp only at h
  obtain rfl:=CP h
  exact X.seq (T.ret (Ak [9] Tryz.results17 (Aj Z) ⟨Z,Z,Z⟩ (by rfl) (.inl Z)))
def fo:List aE→List cB→Option (List cB)
 | [],y24=>some y24
 | x31::xs,y24=>if (y24.length+1)*32≤140737488355328 then (fo xs (y24 ++ [(⟨x31.CD,x31.Ct⟩:cB)])) else none
def fp:List ax→List aV→Option (List aV)
 | [],y7=>some y7
 | x14::xs,y7=>(fo x14.Cj []).bind fun y44=>if (y7.length+1)*40≤140737488355328 then (fp xs (y7 ++ [(⟨x14.Cx,y44⟩:aV)])) else none
def km (a0:aw):Option (aG):=(fp a0.Cm []).bind fun y56=>some (⟨a0.CA,a0.CG,a0.Cz,y56⟩:aG)
theorem my (a0:aw) (A1:Option Addr) (c2:Nat) (r:aG) (h:km a0=some r):tH Tryz.prog 23 #[.agg #[.bool a0.CA.null,jS a0.CA.data,jI a0.CG,jI a0.Cz,.slice A1 a0.Cm.length c2]] (RX.of (av 2 aO) [.slice A1 a0.Cm.length c2] a0.Cm) aB (fun v A' L=> ∃ (A59:Option Addr) (c60:Nat),v= .agg #[.bool r.CA.null,jS r.CA.data,jI r.CG,jI r.Cz,.slice A59 r.Cm.length c60]∧A'=aB∧L = [(⟨_,av 2 aR,[.slice A59 r.Cm.length c60],r.Cm⟩:RO)]):=by
 refine enterS Tryz.func23 Z Tryz.ntmps23 Z ?_
 intro F w S hS hSF
 have hX:(RX.of (av 2 aO) [.slice A1 a0.Cm.length c2] a0.Cm).reads w F:=⟨S,hS,hSF⟩
 unfold km at h
 refine T.seq (T.region Z (TL.box Z .u Z Z (fun b3=>(TL.alloc Z .u Tryz.zeroValue54 Z (fun b4=>(TL.nil (X.seq (T.seq (T.region Z (TL.run ao [0] Z Z (TL.q Z .u (Av (us := [.bool a0.CA.null,jS a0.CA.data]) 1 Z Dw C7 Z Z Z) Z (TL.run ao [2] Z Z (TL.q Z .u (Ai 1 Z CV Z Z) Z ?_)))))))))))))
 refine TL.run ao [4] Z Z (TL.q Z .u (Ai 1 Z CV Z Z) Z ?_)
 refine TL.q Z .u (AD (cells:= #[.bool a0.CA.null,jS a0.CA.data,jI a0.CG,jI a0.Cz,.slice none 0 0]) lT Z (by kernel_rfl)) Z ?_
 refine TL.alloc Z .u Tryz.zeroValue54 Z (fun b5=>(Ay (cs':= #[.bool a0.CA.null,jS a0.CA.data,jI a0.CG,jI a0.Cz,.slice none 0 0]) Z .u Z Z Di Z Z Z Z (TL.nil (X.seq (T.seq (T.seq (T.region Z (TL.run ao [0] Z Z (TL.q Z .u (Ai 2 Z EL Z Z) Z (TL.q Z .u (AA Z DG) Z (TL.run ao [3] Z Z (TL.nil (X.seq (T.block ?_))))))))))))))
 refine Bt 126 2 (gA w S aR) ?_
 obtain⟨E10,hE11,hO12⟩:=CM h
 have hk16len:=Bf hX
 refine AV (fun m e Rs=> ∃ (k6:Nat) (y7:List aV) (A8:Option Addr) (c9:Nat),k6+m=a0.Cm.length∧e = [(2,jP b4),(3,jP b5),(17,.slice A1 a0.Cm.length c2),(18,jI (a0.Cm.length:Int)),(19,jI (k6:Int))]∧Rs = [aZ 126 2 (gA w S aR) (.slice A8 y7.length c9) y7,aC b5 54 #[.bool a0.CA.null,jS a0.CA.data,jI a0.CG,jI a0.Cz,.slice A8 y7.length c9],aC b4 54 #[.bool false,.string ⟨#[]⟩,jI 0,jI 0,.slice none 0 0],aC b3 50 #[.bool a0.CA.null,jS a0.CA.data,jI a0.CG,jI a0.Cz,.slice A1 a0.Cm.length c2],aB]∧fp (a0.Cm.drop k6) y7=some E10) (a0.Cm.length) [0,0,0,0,0] ⟨0,[],none,0,by simp,Z,Z,by rw[List.drop_zero]; exact hE11⟩ (by rfl) (by rfl) ?_
 rintro m13 _ _ ⟨k6,y7,A8,c9,hk16,rfl,rfl,hl15⟩
 clear hE11 h
 cases m13 with
 | zero =>
  have h:=hl15
  clear hl15
  rw[List.drop_of_length_le (by omega),fp] at h
  have hk16ge: ¬ ((k6:Int)<(a0.Cm.length:Int)):=by omega
  refine T.seq (T.region Z (TL.run ao [0] Z Z (TL.nil (X.seq (T.seq (Ap Z (CO hk16ge) ?_))))))
  obtain rfl:=CP h
  replace h:=hO12
  clear hO12
  try dsimp only at h
  refine T.exit (Au (Au (AS (X.seq (T.seq (T.region Z (TL.q Z .u (Av (us := [.bool a0.CA.null,jS a0.CA.data,jI a0.CG,jI a0.Cz,.slice A8 y7.length c9]) 1 Z DL Di Z Z Z) Z (Bq (cs':= #[.bool a0.CA.null,jS a0.CA.data,jI a0.CG,jI a0.Cz,.slice A8 y7.length c9]) Z .u Z Z Di Z Z Z Z ?_))))))))
  obtain rfl:=CP h
  exact TL.nil (X.seq (T.ret (X.shutO (by decide) 0 Z (AQ [0,0,0,0,0] Z (Ak [4,0] Tryz.results23 (AF (us:= #[.bool a0.CA.null,jS a0.CA.data,jI a0.CG,jI a0.Cz,.slice A8 y7.length c9]) 2 Z DL Di Z Z) ⟨_,⟨_,_,Z,Z,Z⟩,Z⟩ (by rfl) (.inl Z))))))
 | succ m13 =>
  have h:=hl15
  clear hl15
  obtain⟨x14,hxx14⟩: ∃ x,a0.Cm[k6]? = some x:=⟨_,List.getElem?_eq_getElem (by omega)⟩
  rw[bU hxx14,fp] at h
  have hk16lt:(k6:Int)<(a0.Cm.length:Int):=by omega
  refine T.seq (T.region Z (TL.run ao [0] Z Z (TL.nil (X.seq (T.seq (Am Z (CN hk16lt) ?_))))))
  obtain⟨gz17,oz17,rfl,z17cs,z17cl,z17cc,z17nf,z17r⟩:=RX.elemS (by decide) hS hSF hxx14
  obtain⟨A18,c19,rfl,z17s0⟩:=z17r
  have hX20:(RX.of (av 2 bm) [.slice A18 x14.Cj.length c19] x14.Cj).reads w F:=⟨S,z17s0,hSF⟩
  refine T.skip (X.seq (T.seq (T.block (T.seq (T.region Z ?_)))))
  refine TL.q Z .u (Aw (k:=k6) Z Z Z DG DR (CU hxx14).1) Z ?_
  refine TL.q Z .u (Bb (us := [jS x14.Cx,.slice A18 x14.Cj.length c19]) 0 Z Fj DR z17nf z17cc Z Z Z) Z (TL.alloc Z .u Tryz.zeroValue81 Z (fun b21=>(Ay (cs':= #[jS x14.Cx,.slice A18 x14.Cj.length c19]) Z .u Z Z DR Z Z Z Z (TL.nil (X.seq (T.seq (T.region Z (TL.run ao [0] Z Z (TL.q Z .u (Ai 0 Z Dp Z Z) Z ?_)))))))))
  refine TL.q Z .u (AD (cells:= #[jS x14.Cx,.slice none 0 0]) lc Z (by kernel_rfl)) Z ?_
  refine TL.alloc Z .u Tryz.zeroValue126 Z (fun b22=>(Ay (cs':= #[jS x14.Cx,.slice none 0 0]) Z .u Z Z DI Z Z Z Z (TL.nil (X.seq (T.seq (T.seq (T.region Z (TL.run ao [0] Z Z (TL.q Z .u (Ai 1 Z Eh Z Z) Z (TL.q Z .u (AA Z DH) Z (TL.run ao [3] Z Z (TL.nil (X.seq (T.block ?_))))))))))))))
  refine Bt 127 2 (gA w S cF) ?_
  obtain⟨E27,hE28,hO29⟩:=CM h
  have hk33len:=Bf hX20
  refine AV (fun m e Rs=> ∃ (k23:Nat) (y24:List cB) (A25:Option Addr) (c26:Nat),k23+m=x14.Cj.length∧e = [(2,jP b4),(3,jP b5),(6,jP b22),(17,.slice (some ⟨gz17,oz17,none⟩) a0.Cm.length c2),(18,jI (a0.Cm.length:Int)),(19,jI (k6:Int)),(27,.slice A18 x14.Cj.length c19),(28,jI (x14.Cj.length:Int)),(29,jI (k23:Int))]∧Rs = [aZ 127 2 (gA w S cF) (.slice A25 y24.length c26) y24,aC b22 126 #[jS x14.Cx,.slice A25 y24.length c26],aC b21 81 #[jS x14.Cx,.slice A18 x14.Cj.length c19],aZ 126 2 (gA w S aR) (.slice A8 y7.length c9) y7,aC b5 54 #[.bool a0.CA.null,jS a0.CA.data,jI a0.CG,jI a0.Cz,.slice A8 y7.length c9],aC b4 54 #[.bool false,.string ⟨#[]⟩,jI 0,jI 0,.slice none 0 0],aC b3 50 #[.bool a0.CA.null,jS a0.CA.data,jI a0.CG,jI a0.Cz,.slice (some ⟨gz17,oz17,none⟩) a0.Cm.length c2],aB]∧fo (x14.Cj.drop k23) y24=some E27) (x14.Cj.length) [0,0,0,0,0,0,0,0] ⟨0,[],none,0,by simp,Z,Z,by rw[List.drop_zero]; exact hE28⟩ (by rfl) (by rfl) ?_
  rintro m30 _ _ ⟨k23,y24,A25,c26,hk33,rfl,rfl,hl32⟩
  clear hE28 h
  cases m30 with
  | zero =>
   have h:=hl32
   clear hl32
   rw[List.drop_of_length_le (by omega),fo] at h
   have hk33ge: ¬ ((k23:Int)<(x14.Cj.length:Int)):=by omega
   refine T.seq (T.region Z (TL.run ao [0] Z Z (TL.nil (X.seq (T.seq (Ap Z (CO hk33ge) ?_))))))
   obtain rfl:=CP h
   replace h:=hO29
   clear hO29
   try dsimp only at h
   refine T.exit (Au (Au (AS (X.seq (T.region Z (TL.run ao [0] Z Z (TL.q Z .u (Ai 4 Z D2 Z Z) Z (TL.q Z .u (Av (us := [jS x14.Cx,.slice A25 y24.length c26]) 1 Z EO DI Z Z Z) Z (Bk (cells:= #[jS x14.Cx,.slice A25 y24.length c26]) Z .u kH Z (by rfl) Z (fun b51=> ?_))))))))))
   replace h:=ak h
   obtain⟨c52,h⟩:=h
   refine BP 3 0 Z .u (us := [jS x14.Cx,.slice A25 y24.length c26]) (u:=(⟨x14.Cx,y24⟩:aV)) (l:=y7) (E:=(gA w S aR)) Tryz.underlying52 ld Z (by decide) Z Z Z Z Z Z Z (fun w1 G1 hG W h1 h2=>⟨_,_,Z,(fun w G h=>ye (by decide) w G h) w1 G1 hG W h1 h2⟩) (by have hq:=c52; omega) (by have hq:=c52; omega) Z (fun A53 c54=> ?_)
   exact AC [0,0,0,0,0,0,0] Z (TL.run ao [5] Z Z (A5 (cs':= #[.bool a0.CA.null,jS a0.CA.data,jI a0.CG,jI a0.Cz,.slice A53 (y7 ++ [(⟨x14.Cx,y24⟩:aV)]).length c54]) Z .u Z Z Tryz.sizeOf52 Z Z Z Z (TL.nil (Az (X.seq (T.region Z (TL.q Z .u (Ex.add Z Z (by omega)) Z (TL.run ao [1] Z Z (TL.nil (X.back (m':=m13) [0,2,2,2,2] (by omega) ⟨k6+1,(y7 ++ [(⟨x14.Cx,y24⟩:aV)]),A53,c54,by omega,Z,Z,h⟩ (by rfl) (by rfl)))))))))))
  | succ m30 =>
   have h:=hl32
   clear hl32
   obtain⟨x31,hxx31⟩: ∃ x,x14.Cj[k23]? = some x:=⟨_,List.getElem?_eq_getElem (by omega)⟩
   rw[bU hxx31,fo] at h
   have hk33lt:(k23:Int)<(x14.Cj.length:Int):=by omega
   refine T.seq (T.region Z (TL.run ao [0] Z Z (TL.nil (X.seq (T.seq (Am Z (CN hk33lt) ?_))))))
   obtain⟨gz34,oz34,rfl,z34cs,z34cl,z34cc,z34nf,z34r⟩:=RX.elemS (by decide) z17s0 hSF hxx31
   obtain⟨A35,c36,rfl,z34s0⟩:=z34r
   have hX37:(RX.of (av 12 bD) [.slice A35 x31.Ct.length c36] x31.Ct).reads w F:=⟨S,z34s0,hSF⟩
   refine T.skip (X.seq (T.seq (T.block (T.seq (T.region Z ?_)))))
   refine TL.q Z .u (Aw (k:=k23) Z Z Z DH DJ (CU hxx31).1) Z ?_
   refine TL.q Z .u (Bb (us := [jI x31.CD,.slice A35 x31.Ct.length c36]) 0 Z EK DJ z34nf z34cc Z Z Z) Z (TL.alloc Z .u Tryz.zeroValue84 Z (fun b38=>(Ay (cs':= #[jI x31.CD,.slice A35 x31.Ct.length c36]) Z .u Z Z DJ Z Z Z Z (TL.nil (X.seq (T.region Z (TL.run ao [0] Z Z (TL.q Z .u (Ai 2 Z DO Z Z) Z (TL.q Z .u (Av (us := [jI x31.CD,.slice A35 x31.Ct.length c36]) 0 Z EK DJ Z Z Z) Z (Bk (cells:= #[jI x31.CD,.slice A35 x31.Ct.length c36]) Z .u kj Z (by rfl) Z (fun b39=> ?_)))))))))))
   replace h:=ak h
   obtain⟨c40,h⟩:=h
   refine TL.app1 1 Z .u (us := [jI x31.CD,.slice A35 x31.Ct.length c36]) (u:=(⟨x31.CD,x31.Ct⟩:cB)) (l:=y24) (E:=(gA w S cF)) Tryz.underlying124 le Z (by decide) Z Z Z Z Z Z (fun _ _=>old_in ⟨_,_,Z,z34s0⟩) (by have hq:=c40; omega) (by have hq:=c40; omega) Z (fun A41 c42=> ?_)
   exact AC [0,0,0,0,0,0,0,0,0] Z (TL.run ao [5] Z Z (Bq (cs':= #[jS x14.Cx,.slice A41 (y24 ++ [(⟨x31.CD,x31.Ct⟩:cB)]).length c42]) Z .u Z Z Fp Z Z Z Z (TL.nil (Az (X.seq (T.region Z (TL.q Z .u (Ex.add Z Z (by omega)) Z (TL.run ao [1] Z Z (TL.nil (X.back (m':=m30) [1,1,1,1,1,1,1,1] (by omega) ⟨k23+1,(y24 ++ [(⟨x31.CD,x31.Ct⟩:cB)]),A41,c42,by omega,Z,Z,h⟩ (by rfl) (by rfl)))))))))))
def eO (a0:List UInt8) (a1:Int):Option (Bool):=(iG).bind fun x1=>if x1=true then (if (a0.length:Int)>2000 then some true else (if 0≤a1 then (if -9223372036854775808≤(a1 % 2)∧(a1 % 2)≤9223372036854775807 then (if -9223372036854775808≤(3+(a1 % 2))∧(3+(a1 % 2))≤9223372036854775807 then ((rf a0).bind fun st8=>(cU st8 (3+(a1 % 2))).bind fun (x11,st14)=>(gT a0 (3+(a1 % 2))).bind fun (x17,x20,x21)=>((iD st14).bind fun (x38,st39)=>if x38=x21 then ((km x11).bind fun x42=>(fU x42 x17).bind fun x47=>if x47=true then some (false,st39) else some (true,st39)) else some (true,st39)).bind fun (y35,st36)=>if y35=true then none else ((if x21=0 then ((gAt st36).bind fun (x68,st69)=>if x68=x20 then (if 0≤x20∧x20.toNat≤a0.length then ((km x11).bind fun x73=>(ig x73).bind fun x78=>if x78=(a0.take x20.toNat) then some (true,st69) else some (false,st69)) else none) else some (false,st69)) else some (true,st36)).bind fun (y64,st65)=>some y64)) else none) else none) else none)) else none
theorem f_l20_ProduceReads_spec (a0:List UInt8) (a1:Int) (r:Bool) (h:eO a0 a1=some r):ay Tryz.prog 4 #[jS a0,.int .u8 a1] .triv (aB) (fun v A' N=>v= .bool r∧A'=aB∧N = []):=by
 refine aL Tryz.func4 Z Tryz.ntmps4 Z ?_
 intro F w hX
 obtain⟨S,hS,hSF⟩:=hX
 have hX:RX.triv.reads w F:=⟨S,hS,hSF⟩
 unfold eO at h
 refine T.seq (T.region Z (TL.run ao [0] Z Z ?_))
 obtain⟨x1,hx2,h⟩:=CM h
 refine TL.nil (X.seq (T.seq (T.seq (T.region Z (Ax Z .u (.fn Tryz.call17 Z) (nA _ hx2) (fun _ hs=>(RX.reads_triv _ _)) Z (TL.run ao [1] Z Z ?_))))))
 rcases jF h with⟨c3,h⟩ | ⟨c3,h⟩
 ·refine TL.nil (X.seq (Ap Z (az c3) (T.skip (X.seq (T.seq (T.seq (T.region Z (TL.run ao [0] Z Z (TL.q Z .u (AW Z CZ) Z (TL.run ao [2] Z Z ?_))))))))))
  rcases jF h with⟨c4,h⟩ | ⟨c4,h⟩
  ·refine TL.nil (X.seq (Am Z (CN c4) (T.seq (T.region Z (TL.run ao [0] Z Z ?_)))))
   obtain rfl:=CP h
   exact TL.nil (X.seq (T.ret (Al (Ak [0] Tryz.results4 (Aj Z) ⟨Z,Z,Z⟩ (by rfl) (.inl Z)))))
  ·refine TL.nil (X.seq (Ap Z (CO c4) (T.skip (X.seq (T.seq (T.region Z ?_))))))
   replace h:=ak h
   obtain⟨c5,h⟩:=h
   refine TL.run ao [0] Z Z (TL.q Z .u (Ex.remK Z Z (by omega) c5) Z ?_)
   replace h:=ak h
   obtain⟨c6,h⟩:=h
   refine TL.q Z .u (Bz Z D0 DU c6) Z ?_
   replace h:=ak h
   obtain⟨c7,h⟩:=h
   refine TL.q Z .u (Ex.add Z Z c7) Z (TL.run ao [4] Z Z (TL.nil (X.seq (T.seq (T.region Z ?_)))))
   obtain⟨st8,hx9,h⟩:=CM h
   refine TL.run ao [0] Z Z (AP Z .u (.fn Tryz.call18 Z) (iH a0 _ hx9) (fun _ hs=>(RX.reads_triv _ _)) Z ?_)
   rintro _ _ _ ⟨b10,rfl,rfl,rfl⟩
   refine AC [0,0] Z (TL.run ao [2] Z Z (TL.nil (X.seq (T.seq (T.region Z ?_)))))
   obtain⟨⟨x11,st14⟩,hx15,h⟩:=CM h
   try dsimp only at h
   refine TL.run ao [0,1] Z Z (TL.cg0 Z .u (.fn Tryz.call19 Z) (mp b10 st8 (3+(a1 % 2)) _ hx15) (fun _ hs=>(Src.triv _)) Z ?_)
   rintro _ _ _ ⟨A12,c13,rfl,rfl,rfl⟩
   refine AC [0,0,0] Z (TL.alloc Z .u Tryz.zeroValue50 Z (fun b16=>(Ay (cs':= #[.bool x11.CA.null,jS x11.CA.data,jI x11.CG,jI x11.Cz,.slice A12 x11.Cm.length c13]) Z .u Z Z DM Z Z Z Z (TL.nil (X.seq (T.seq (T.region Z ?_)))))))
   obtain⟨⟨x17,x20,x21⟩,hx22,h⟩:=CM h
   try dsimp only at h
   refine TL.run ao [0,1] Z Z (AP Z .u (.fn Tryz.call20 Z) (px a0 (3+(a1 % 2)) _ hx22) (fun _ hs=>(RX.reads_triv _ _)) Z ?_)
   rintro _ _ _ ⟨A18,c19,rfl,rfl,rfl⟩
   refine AC [0,0,0,0,0] Z (TL.run ao [3,4,5,6] Z Z (TL.alloc Z .u Tryz.zeroValue54 Z (fun b23=>(Ay (cs':= #[.bool x17.CA.null,jS x17.CA.data,jI x17.CG,jI x17.Cz,.slice A18 x17.Cm.length c19]) Z .u Z Z Di Z Z Z Z (TL.run ao [9,10] Z Z (TL.nil (X.seq (T.seq (T.seq ?_)))))))))
   obtain⟨⟨y35,st36⟩,h,hk37⟩:=CM h
   refine Bg (fun e Rs=>e = [(0,jS a0),(4,.bool false),(6,jP b10),(7,jP b16),(9,jI x20),(10,jI x21),(42,.bool y35)]∧Rs = [aC b23 54 #[.bool x17.CA.null,jS x17.CA.data,jI x17.CG,jI x17.Cz,.slice A18 x17.Cm.length c19],RdR (av 2 aR) [.slice A18 x17.Cm.length c19] x17.Cm,aC b16 50 #[.bool x11.CA.null,jS x11.CA.data,jI x11.CG,jI x11.Cz,.slice A12 x11.Cm.length c13],RdR (av 2 aO) [.slice A12 x11.Cm.length c13] x11.Cm,InR b10 st36,aB]) ?_ ?_
   ·clear hk37
    refine AH (.q 0 (.q 2 (.e 1 (.q 3 (.q 4 (.q 5 (.q 7 (.e 6 (.e 8 (.q 9 (.q 10 .nil))))))))))) [0,0,0,2] Z gw (NoP.seq (NoP.seq (NoP.seq aM))) (by kernel_rfl) ?_
    obtain⟨⟨x38,st39⟩,hx40,h⟩:=CM h
    try dsimp only at h
    refine TD.run ao [0,2] Z Z (TD.c4 Z .u (.fn Tryz.call21 Z) (dr b10 st14 _ hx40) (fun _ hs=>(Src.triv _)) Z [0,0,0,2] (Z) ?_)
    rcases jF h with⟨c41,h⟩ | ⟨c41,h⟩
    ·refine TD.run ao [3,4] Z Z (TD.q Z (.g Z Z (az (CN c41))) (Av (us := [.bool x11.CA.null,jS x11.CA.data,jI x11.CG,jI x11.Cz,.slice A12 x11.Cm.length c13]) 2 Z D6 DM Z Z Z) Z (TD.q Z (.g Z Z (az (CN c41))) (Av (us := [.bool x17.CA.null,jS x17.CA.data,jI x17.CG,jI x17.Cz,.slice A18 x17.Cm.length c19]) 0 Z DL Di Z Z Z) Z ?_))
     obtain⟨x42,hx45,h⟩:=CM h
     refine Bi [3,0,0,0,0,0] Z ?_
     refine TD.csn 1 Z (.g Z Z (az (CN c41))) (.fn Tryz.call23 Z) (my x11 _ _ _ hx45) (fun w1 G1 hG=>(Sep.has 0 Z hG (tG (fun w G h=>dL w G h)))) hSF Z [1,1,1,2] ?_ ?_
     ·rintro _ _ _ ⟨A43,c44,rfl,rfl,rfl⟩
      rfl
     rintro _ _ _ ⟨A43,c44,rfl,rfl,rfl⟩
     refine Bi [0,0,0,0,0,0] Z ?_
     obtain⟨x47,hx48,h⟩:=CM h
     refine AR Z (.g Z Z (az (CN c41))) (.fn Tryz.call22 Z) (pC x42 _ _ x17 _ _ _ hx48) (fun _ hs=>(BB (SrcE.oldres 0 hs Z (tJ 0 Z) hSF) (SrcE.res 2 hs Z (fun w G h=>dL w G h)))) Z [1,1,1,2] (Z) (TD.q Z (.g Z Z (az (CN c41))) (Ao ao Z) Z (TD.q Z .u (Ar Z (az (CN c41)) Z) Z ?_))
     rcases jF h with⟨c49,h⟩ | ⟨c49,h⟩
     ·refine TD.nil (X.ungrp 0 Z (AQ [0,0,0,0,0,0] Z ?_))
      cases h
      exact Bh (d:=42) (v':= .bool false) Z (congrArg Value.bool (az c49)) (AB [1,1,1,0,0,0] ⟨Z,Z⟩ (by rfl) (by rfl))
     ·replace c49:=CX c49
      refine TD.nil (X.ungrp 0 Z (AQ [0,0,0,0,0,0] Z ?_))
      cases h
      exact Bh (d:=42) (v':= .bool true) Z (congrArg Value.bool (aD c49)) (AB [1,1,1,0,0,0] ⟨Z,Z⟩ (by rfl) (by rfl))
    ·refine TD.run ao [3,4] Z Z ?_
     iterate 2 refine A9 Z (.gn Z Z (aD (CO c41))) Z ?_
     iterate 2 refine B5 Z (.gn Z Z (aD (CO c41))) Z [0,0,0,2] Z ?_
     refine A9 Z (.gn Z Z (aD (CO c41))) Z (TD.q Z .u (Aq Z (aD (CO c41)) Z) Z ?_)
     cases h
     exact TD.nil (AB [0,0,0,0,0,0] ⟨Z,Z⟩ (by rfl) (by rfl))
   ·rintro _ _ ⟨rfl,rfl⟩
    clear h
    have h:=hk37
    clear hk37
    try dsimp only at h
    rcases jF h with⟨c50,h⟩ | ⟨c50,h⟩
    ·exact X.seq (Am rfl c50 (nomatch h))
    ·replace c50:=CX c50
     refine X.seq (Ap Z c50 (T.skip (X.seq (T.seq ?_))))
     obtain⟨⟨y64,st65⟩,h,hk66⟩:=CM h
     refine Bg (fun e Rs=>e = [(4,.bool y64)]∧Rs = [aC b23 54 #[.bool x17.CA.null,jS x17.CA.data,jI x17.CG,jI x17.Cz,.slice A18 x17.Cm.length c19],RdR (av 2 aR) [.slice A18 x17.Cm.length c19] x17.Cm,aC b16 50 #[.bool x11.CA.null,jS x11.CA.data,jI x11.CG,jI x11.Cz,.slice A12 x11.Cm.length c13],RdR (av 2 aO) [.slice A12 x11.Cm.length c13] x11.Cm,InR b10 st65,aB]) ?_ ?_
     ·clear hk66
      refine AH (.q 0 (.q 1 (.q 2 (.q 3 (.q 5 (.e 4 (.q 6 (.q 7 (.q 8 (.q 11 (.q 12 (.q 13 (.e 9 (.e 10 (.q 14 (.q 15 (.q 16 (.q 17 .nil)))))))))))))))))) [0,0,0,2] Z gw (NoP.seq (NoP.seq aM)) (by kernel_rfl) ?_
      rcases jF h with⟨c67,h⟩ | ⟨c67,h⟩
      ·refine TD.run ao [0,1,2] Z Z ?_
       iterate 2 refine TD.q Z (.g Z Z (az (CN c67))) (Ao ao Z) Z ?_
       obtain⟨⟨x68,st69⟩,hx70,h⟩:=CM h
       try dsimp only at h
       refine TD.c4 Z (.g Z Z (az (CN c67))) (.fn Tryz.call24 Z) (xW b10 st36 _ hx70) (fun _ hs=>(Src.triv _)) Z [0,0,0,2] (Z) ?_
       iterate 2 refine TD.q Z (.g Z Z (az (CN c67))) (Ao ao Z) Z ?_
       rcases jF h with⟨c71,h⟩ | ⟨c71,h⟩
       ·refine TD.q Z (.g Z Z (CN c71)) (Av (us := [.bool x11.CA.null,jS x11.CA.data,jI x11.CG,jI x11.Cz,.slice A12 x11.Cm.length c13]) 2 Z D6 DM Z Z Z) Z ?_
        iterate 2 refine TD.q Z (.g Z Z (CN c71)) (Ao ao Z) Z ?_
        replace h:=ak h
        obtain⟨c72,h⟩:=h
        replace c72:0≤x20∧x20.toNat≤a0.length:=c72
        refine TD.q Z (.g Z Z (CN c71)) (Ba (p:=0) (q:=x20.toNat) (m:=(a0.take x20.toNat)) Z CZ .none (.some Z ((Int.toNat_of_nonneg c72.1).symm)) (by first | omega | (dsimp only; omega)) (by simp)) Z ?_
        obtain⟨x73,hx76,h⟩:=CM h
        refine Bi [3,0,0,0,0,0] Z ?_
        refine TD.csn 1 Z (.g Z Z (CN c71)) (.fn Tryz.call23 Z) (my x11 _ _ _ hx76) (fun w1 G1 hG=>(Sep.has 0 Z hG (tG (fun w G h=>dL w G h)))) hSF Z [1,1,1,2] ?_ ?_
        ·rintro _ _ _ ⟨A74,c75,rfl,rfl,rfl⟩
         rfl
        rintro _ _ _ ⟨A74,c75,rfl,rfl,rfl⟩
        refine Bi [0,0,0,0,0,0] Z ?_
        obtain⟨x78,hx79,h⟩:=CM h
        refine AR Z (.g Z Z (CN c71)) (.fn Tryz.call25 Z) (oB x73 _ _ _ hx79) (fun _ hs=>(SrcE.oldres 0 hs Z (tJ 0 Z) hSF)) Z [1,1,1,2] (Z) (TD.q Z (.g Z Z (CN c71)) (Ex.sEq Z Z) Z (TD.q Z (.g Z Z (az (CN c67))) (Aq Z (CN c71) Z) Z (TD.q Z .u (Ar Z (az (CN c67)) Z) Z (TD.run ao [17] Z Z ?_))))
        rcases jF h with⟨c80,h⟩ | ⟨c80,h⟩
        ·refine TD.nil (X.ungrp 0 Z (AQ [0,0,0,0,0,0] Z ?_))
         cases h
         exact Bh (d:=4) (v':= .bool true) Z (congrArg Value.bool (CN c80)) (AB [1,1,1,0,0,0] ⟨Z,Z⟩ (by rfl) (by rfl))
        ·refine TD.nil (X.ungrp 0 Z (AQ [0,0,0,0,0,0] Z ?_))
         cases h
         exact Bh (d:=4) (v':= .bool false) Z (congrArg Value.bool (CO c80)) (AB [1,1,1,0,0,0] ⟨Z,Z⟩ (by rfl) (by rfl))
       ·refine A9 Z (.gn Z Z (CO c71)) Z ?_
        iterate 3 refine A9 Z (.gn Z Z (CO c71)) Z ?_
        iterate 2 refine B5 Z (.gn Z Z (CO c71)) Z [0,0,0,2] Z ?_
        refine A9 Z (.gn Z Z (CO c71)) Z (TD.q Z (.g Z Z (az (CN c67))) (Ar Z (CO c71) Z) Z (TD.q Z .u (Ar Z (az (CN c67)) Z) Z (TD.run ao [17] Z Z ?_)))
        cases h
        exact TD.nil (AB [0,0,0,0,0,0] ⟨Z,Z⟩ (by rfl) (by rfl))
      ·refine TD.run ao [0,1,2] Z Z ?_
       iterate 2 refine A9 Z (.gn Z Z (aD (CO c67))) Z ?_
       refine B5 Z (.gn Z Z (aD (CO c67))) Z [0,0,0,2] Z ?_
       iterate 2 refine A9 Z (.gn Z Z (aD (CO c67))) Z ?_
       iterate 4 refine A9 Z (.gu Z Z) Z ?_
       iterate 2 refine B5 Z (.gu Z Z) Z [0,0,0,2] Z ?_
       refine A9 Z (.gu Z Z) Z (A9 Z (.gn Z Z (aD (CO c67))) Z (TD.q Z .u (Aq Z (aD (CO c67)) Z) Z (TD.run ao [17] Z Z ?_)))
       cases h
       exact TD.nil (AB [0,0,0,0,0,0] ⟨Z,Z⟩ (by rfl) (by rfl))
     ·rintro _ _ ⟨rfl,rfl⟩
      clear h
      have h:=hk66
      clear hk66
      try dsimp only at h
      obtain rfl:=CP h
      exact X.seq (T.ret (Ak [5] Tryz.results4 (Aj Z) ⟨Z,Z,Z⟩ (by rfl) (.inl Z)))
 ·replace c3:=CX c3
  exact TL.nil (X.seq (Am rfl (aD c3) (nomatch h)))
theorem zi:iG=some true:=by kernel_rfl
def jM:List Bat→List Bat→Bool
 | x::l,y::m=>qK x y && jM l m
 | _,_=>true
def qsP (p q:aE):Bool:=decide (p.CD=q.CD∧p.Ct.length=q.Ct.length) && jM p.Ct q.Ct
def vz:List aE→List aE→Bool
 | x::l,y::m=>qsP x y && vz l m
 | _,_=>true
def qsT (t u:ax):Bool:=decide (t.Cx=u.Cx∧t.Cj.length=u.Cj.length) && vz t.Cj u.Cj
def vA:List ax→List ax→Bool
 | x::l,y::m=>qsT x y && vA l m
 | _,_=>true
def sa (a b:aw):Bool:=decide (a.CA.null=b.CA.null∧a.CA.data=b.CA.data∧a.CG=b.CG∧a.Cz=b.Cz∧a.Cm.length=b.Cm.length) && vA a.Cm b.Cm
theorem o6: ∀ l:List Bat,jM l l=true
 | []=>rfl
 | x::l=>by rw[jM,vx,o6 l]; rfl
theorem sb: ∀ l:List aE,vz l l=true
 | []=>rfl
 | x::l=>by rw[vz,qsP,o6,sb l,CN ⟨rfl,rfl⟩]; rfl
theorem sc: ∀ l:List ax,vA l l=true
 | []=>rfl
 | x::l=>by rw[vA,qsT,sb,sc l,CN ⟨rfl,rfl⟩]; rfl
theorem qP (a:aw):sa a a=true:=by
 unfold sa
 rw[sc,CN ⟨rfl,rfl,rfl,rfl,rfl⟩]; rfl
def ofP (p:aE):cB:=⟨p.CD,p.Ct⟩
def ofT (t:ax):aV:=⟨t.Cx,t.Cj.map ofP⟩
def ofQ (a:aw):aG:=⟨a.CA,a.CG,a.Cz,a.Cm.map ofT⟩
theorem ws: ∀ (l:List aE) (acc:List cB),(acc.length+l.length)*32≤140737488355328→fo l acc=some (acc++l.map ofP)
 | [],acc,_=>by rw[List.map_nil,DE]; rfl
 | x::l,acc,h=>by
  rw[C5] at h
  rw[fo,if_pos (by omega),ws l _ (by rw[CW,DV]; omega),C2]
  rfl
theorem wt: ∀ (l:List ax) (acc:List aV),(acc.length+l.length)*40≤140737488355328→(∀ t,t∈l→t.Cj.length*32≤140737488351232)→fp l acc=some (acc++l.map ofT)
 | [],acc,_,_=>by rw[List.map_nil,DE]; rfl
 | x::l,acc,h,hp=>by
  have hx:=hp x (.head _)
  rw[C5] at h
  rw[fp,ws x.Cj [] (by rw[D3]; omega),CS,if_pos (by omega),wt l _ (by rw[CW,DV]; omega) (fun t ht=>hp t (.tail _ ht)),C2]
  rfl
theorem sd (a b:List Bat) (hn:a.length≤140737488351232) (y:Bool): ∀ (l m:List Bat) (k fuel:Nat),a.drop k=l→b.drop k=m→l.length=m.length→l.length<fuel→(∀ x,x∈l→bnB x)→ ∃ z,dD a b fuel y k=some (if jM l m=true then .go (y,z) else .ret false)
 | [],m,k,fuel+1,h1,h2,hl,hf,_=>by
  have:=bL h1
  exact⟨k,by rw[dD,if_neg (by omega)]; rfl⟩
 | x::l,v::m,k,fuel+1,h1,h2,hl,hf,hw=>by
  obtain⟨g1,g2,g3⟩:=bl h1
  obtain⟨k1,k2,k3⟩:=bl h2
  have hx:=hw x (.head _)
  rw[C5] at hf
  rw[C5,C5] at hl
  obtain⟨z,hz⟩:=sd a b hn y l m (k+1) fuel g2 k2 (by omega) (by omega) (fun u hu=>hw u (.tail _ hu))
  refine⟨z,?_⟩
  rw[dD,if_pos (by omega),g1,CS,k1,CS,zg hx.2.1 (fun z hz=>(hx.2.2 z hz).1),CS,jM,if_pos (show -9223372036854775808≤(k:Int)+1∧(k:Int)+1≤9223372036854775807 by omega),hz]
  cases qK x v <;> rfl
theorem zj {a b:List Bat} (hn:a.length≤140737488351232) (hw: ∀ x,x∈a→bnB x):gL a b=some (decide (a.length=b.length) && jM a b):=by
 unfold gL
 by_cases c:a.length=b.length
 ·obtain⟨z,hz⟩:=sd a b hn false a b 0 (((a.length:Int)).toNat+1) rfl rfl c (by omega) hw
  rw[if_pos (by omega),hz,CN c,Bool.true_and]
  cases jM a b <;> rfl
 ·rw[if_neg (by omega),CO c]
  rfl
def bnT (t:ax):Prop:=t.Cj.length≤140737488351232∧ ∀ p,p∈t.Cj→p.Ct.length≤140737488351232∧ ∀ b,b∈p.Ct→bnB b
theorem wu (t u:ax) (hn:t.Cj.length≤140737488351232) (y:Bool): ∀ (l m:List aE) (k fuel:Nat),t.Cj.drop k=l→u.Cj.drop k=m→l.length=m.length→l.length<fuel→(∀ p,p∈l→p.Ct.length≤140737488351232∧ ∀ b,b∈p.Ct→bnB b)→ ∃ z,de (ofT t) (ofT u) fuel y k=some (if vz l m=true then .go (y,z) else .ret false)
 | [],m,k,fuel+1,h1,h2,hl,hf,_=>by
  have:=bL h1
  exact⟨k,by rw[de,if_neg (by show ¬ (k:Int)<((t.Cj.map ofP).length:Int); rw[Dh]; omega)]; rfl⟩
 | x::l,v::m,k,fuel+1,h1,h2,hl,hf,hw=>by
  obtain⟨g1,g2,g3⟩:=bl h1
  obtain⟨k1,k2,k3⟩:=bl h2
  have hx:=hw x (.head _)
  rw[C5] at hf
  rw[C5,C5] at hl
  obtain⟨z,hz⟩:=wu t u hn y l m (k+1) fuel g2 k2 (by omega) (by omega) (fun q hq=>hw q (.tail _ hq))
  refine⟨z,?_⟩
  have e1:(ofT t).Cj[k]? = some (ofP x):=by show (t.Cj.map ofP)[k]? = _; rw[List.getElem?_map,g1]; rfl
  have e2:(ofT u).Cj[k]? = some (ofP v):=by show (u.Cj.map ofP)[k]? = _; rw[List.getElem?_map,k1]; rfl
  have e3:gL (ofP x).Ct (ofP v).Ct=some (decide (x.Ct.length=v.Ct.length) && jM x.Ct v.Ct):=zj hx.1 hx.2
  rw[de,if_pos (by show (k:Int)<((t.Cj.map ofP).length:Int); rw[Dh]; omega),e1,CS,e2,CS,e3,if_pos (show -9223372036854775808≤(k:Int)+1∧(k:Int)+1≤9223372036854775807 by omega),hz,vz,qsP]
  show ((if x.CD=v.CD then _ else some true).bind _)= _
  by_cases c1:x.CD=v.CD
  ·rw[if_pos c1,CS]
   by_cases c2:x.Ct.length=v.Ct.length
   ·rw[CN c2,CN (⟨c1,c2⟩:x.CD=v.CD∧x.Ct.length=v.Ct.length)]
    cases jM x.Ct v.Ct <;> rfl
   ·rw[CO c2,CO (fun h:x.CD=v.CD∧x.Ct.length=v.Ct.length=>c2 h.2)]
    rfl
  ·rw[if_neg c1,CO (fun h:x.CD=v.CD∧x.Ct.length=v.Ct.length=>c1 h.1)]
   rfl
theorem wv (a b:aw) (hn:a.Cm.length≤140737488351232) (y:Bool): ∀ (l m:List ax) (k fuel:Nat),a.Cm.drop k=l→b.Cm.drop k=m→l.length=m.length→l.length<fuel→(∀ t,t∈l→bnT t)→ ∃ z,dg (ofQ a) (ofQ b) fuel y k=some (if vA l m=true then .go (y,z) else .ret false)
 | [],m,k,fuel+1,h1,h2,hl,hf,_=>by
  have:=bL h1
  exact⟨k,by rw[dg,if_neg (by show ¬ (k:Int)<((a.Cm.map ofT).length:Int); rw[Dh]; omega)]; rfl⟩
 | x::l,v::m,k,fuel+1,h1,h2,hl,hf,hw=>by
  obtain⟨g1,g2,g3⟩:=bl h1
  obtain⟨k1,k2,k3⟩:=bl h2
  have hx:=hw x (.head _)
  rw[C5] at hf
  rw[C5,C5] at hl
  obtain⟨z,hz⟩:=wv a b hn y l m (k+1) fuel g2 k2 (by omega) (by omega) (fun q hq=>hw q (.tail _ hq))
  refine⟨z,?_⟩
  have e1:(ofQ a).Cm[k]? = some (ofT x):=by show (a.Cm.map ofT)[k]? = _; rw[List.getElem?_map,g1]; rfl
  have e2:(ofQ b).Cm[k]? = some (ofT v):=by show (b.Cm.map ofT)[k]? = _; rw[List.getElem?_map,k1]; rfl
  have e4:(ofT x).Cj.length=x.Cj.length:=Dh _
  have e5:(ofT v).Cj.length=v.Cj.length:=Dh _
  rw[dg,if_pos (by show (k:Int)<((a.Cm.map ofT).length:Int); rw[Dh]; omega),e1,CS,e2,CS,e4,e5,vA,qsT]
  show ((if x.Cx=v.Cx then _ else some true).bind _)= _
  by_cases c1:x.Cx=v.Cx
  ·rw[if_pos c1]
   by_cases c2:x.Cj.length=v.Cj.length
   ·obtain⟨z2,hz2⟩:=wu x v hx.1 y x.Cj v.Cj 0 (((x.Cj.length:Int)).toNat+1) rfl rfl c2 (by omega) hx.2
    rw[if_pos (by omega),CS,if_neg (by decide),hz2,CN (⟨c1,c2⟩:x.Cx=v.Cx∧x.Cj.length=v.Cj.length),Bool.true_and]
    cases vz x.Cj v.Cj
    ·rfl
    ·rw[if_pos rfl,CS]
     dsimp only
     rw[if_pos (show -9223372036854775808≤(k:Int)+1∧(k:Int)+1≤9223372036854775807 by omega),hz]
     rfl
   ·rw[if_neg (by omega),CS,if_pos rfl,CO (fun h:x.Cx=v.Cx∧x.Cj.length=v.Cj.length=>c2 h.2)]
    rfl
  ·rw[if_neg c1,CS,if_pos rfl,CO (fun h:x.Cx=v.Cx∧x.Cj.length=v.Cj.length=>c1 h.1)]
   rfl
theorem zk {a b:aw} (hn:a.Cm.length≤140737488351232) (hw: ∀ t,t∈a.Cm→bnT t):fU (ofQ a) (ofQ b)=some (sa a b):=by
 have e4:(ofQ a).Cm.length=a.Cm.length:=Dh _
 have e5:(ofQ b).Cm.length=b.Cm.length:=Dh _
 unfold fU sa
 rw[e4,e5]
 show ((if a.CA.null=b.CA.null then (if a.CA.data=b.CA.data then (if a.CG=b.CG then (if a.Cz=b.Cz then _ else some true) else some true) else some true) else some true).bind _)= _
 by_cases c1:a.CA.null=b.CA.null
 rotate_left
 ·rw[if_neg c1,CS,if_pos rfl,CO (fun h=>c1 h.1)]; rfl
 by_cases c2:a.CA.data=b.CA.data
 rotate_left
 ·rw[if_pos c1,if_neg c2,CS,if_pos rfl,CO (fun h=>c2 h.2.1)]; rfl
 by_cases c3:a.CG=b.CG
 rotate_left
 ·rw[if_pos c1,if_pos c2,if_neg c3,CS,if_pos rfl,CO (fun h=>c3 h.2.2.1)]; rfl
 by_cases c4:a.Cz=b.Cz
 rotate_left
 ·rw[if_pos c1,if_pos c2,if_pos c3,if_neg c4,CS,if_pos rfl,CO (fun h=>c4 h.2.2.2.1)]; rfl
 by_cases c5:a.Cm.length=b.Cm.length
 rotate_left
 ·rw[if_pos c1,if_pos c2,if_pos c3,if_pos c4,if_neg (by omega),CS,if_pos rfl,CO (fun h=>c5 h.2.2.2.2)]; rfl
 obtain⟨z,hz⟩:=wv a b hn false a.Cm b.Cm 0 (((a.Cm.length:Int)).toNat+1) rfl rfl c5 (by omega) hw
 rw[if_pos c1,if_pos c2,if_pos c3,if_pos c4,if_pos (by omega),CS,if_neg (by decide),hz,CN ⟨c1,c2,c3,c4,c5⟩,Bool.true_and]
 cases vA a.Cm b.Cm <;> rfl
theorem mb {α:Type} {l:List α} {k:Nat} {x:α} {t:List α} (h:l.drop k=x::t):l[k]? = some x∧l.drop (k+1)=t∧l.length=k+1+t.length:=by
 have hl:=congrArg List.length h
 rw[C0,C5] at hl
 refine⟨?_,?_,by omega⟩
 ·have:=congrArg (fun z=>z[0]?) h
  simpa using this
 ·rw[← Dq,h]
  rfl
theorem lW {α:Type} {l:List α} {k:Nat} (h:l.drop k = []):l.length≤k:=List.drop_eq_nil_iff.1 h
def up {α:Type} (lt:α→α→Bool):Option α→List α→Bool
 | _,[]=>true
 | none,x::t=>up lt (some x) t
 | some p,x::t=>lt p x && up lt (some x) t
def ltI (a b:Int):Bool:=decide (a<b)
def okn (n:Int):Bool:=decide (0≤n) && decide (n≤2147483647)
def okps (l:List Int):Bool:=l.all okn && up ltI none l && !l.isEmpty
def rl (t:Top):Bool:= !t.Cx.isEmpty && decide (t.Cx.length≤32767) && okps t.Cj
def vB (l:List Top):Bool:=l.all rl && up Op.bytesLess none (l.map (·.Cx))
theorem ww (x:Top): ∀ (fuel:Nat) (y:Bool) (k:Nat),dc x fuel y k=bT x fuel y k
 | 0,y,k=>rfl
 | fuel+1,y,k=>by
  rw[dc,bT]
  simp only[ww x fuel]
theorem qQ (a b:List UInt8) (ha:a.length≤140737488355328) (y:Bool): ∀ (u v:List UInt8) (k fuel:Nat),a.drop k=u→b.drop k=v→v.length<fuel→k≤a.length→k≤b.length→(∃ r,cM a b fuel y k=some (.ret r)∧r=Op.bytesLess u v)∨(∃ z,cM a b fuel y k=some (.go z)∧Op.bytesLess u v=decide (a.length<b.length))
 | [],v,k,fuel+1,hu,hv,hf,h1,h2=>by
  have:=lW hu
  right
  refine⟨(y,k),by rw[cM,if_neg (by omega)],?_⟩
  cases v with
  | nil =>
   have:=lW hv
   simp[Op.bytesLess]
   omega
  | cons c v =>
   have:=(mb hv).2.2
   simp[Op.bytesLess]
   omega
 | c::u,[],k,fuel+1,hu,hv,hf,h1,h2=>by
  have g1:=lW hv
  have g2:=(mb hu).2.2
  right
  refine⟨(y,k),by rw[cM,if_pos (by omega),if_neg (by omega)],?_⟩
  simp[Op.bytesLess]
  omega
 | c::u,d::v,k,fuel+1,hu,hv,hf,h1,h2=>by
  obtain⟨u1,u2,u3⟩:=mb hu
  obtain⟨v1,v2,v3⟩:=mb hv
  rw[C5] at hf
  rw[cM,if_pos (by omega),if_pos (by omega),u1,v1]
  simp only[CS]
  by_cases hc:(c.toNat:Int)=(d.toNat:Int)
  ·have hcd:c=d:=UInt8.toNat_inj.1 (by omega)
   rw[if_pos hc,if_pos (by omega)]
   have:=qQ a b ha y u v (k+1) fuel u2 v2 (by omega) (by omega) (by omega)
   have hb:Op.bytesLess (c::u) (d::v)=Op.bytesLess u v:=by
    rw[hcd]
    simp[Op.bytesLess]
   rw[hb]
   exact this
  ·rw[if_neg hc]
   left
   have hcd:c≠d:=fun h=>hc (by rw[h])
   by_cases hl:(c.toNat:Int)<(d.toNat:Int)
   ·refine⟨true,by rw[if_pos hl],?_⟩
    have:c<d:=UInt8.lt_iff_toNat_lt.2 (by omega)
    simp[Op.bytesLess,this]
   ·refine⟨false,by rw[if_neg hl],?_⟩
    have: ¬ c<d:=fun h=>hl (by have:=UInt8.lt_iff_toNat_lt.1 h; omega)
    simp[Op.bytesLess,this,hcd]
theorem zl (a b:List UInt8) (ha:a.length≤140737488355328):gQ a b=some (Op.bytesLess a b):=by
 unfold gQ
 rcases qQ a b ha false a b 0 (((b.length:Int)).toNat+1) rfl rfl (by omega) (Du _) (Du _) with⟨r,h1,h2⟩ | ⟨z,h1,h2⟩
 ·rw[show ((0:Nat))=0 from rfl] at h1
  rw[h1,h2]
  rfl
 ·rw[h1,h2]
  simp only[CS]
  by_cases h:a.length<b.length
  ·rw[if_pos (by omega)]
   simp[h]
  ·rw[if_neg (by omega)]
   simp[h]
theorem ug (x:Top) (hb:x.Cj.length≤140737488355328) (y:Bool): ∀ (t:List Int) (p:Option Int) (k fuel:Nat),x.Cj.drop k=t→t.length<fuel→(k=0→p=none)→(0<k→x.Cj[k - 1]? = p∧p≠none)→ ∃ z,bT x fuel y k=some (if (t.all okn && up ltI p t)=true then .go (y,z) else .ret false)
 | [],p,k,fuel+1,h,hf,h0,h1=>by
  have:=lW h
  refine⟨k,?_⟩
  rw[bT,if_neg (by omega)]
  cases p <;> rfl
 | n::t,p,k,fuel+1,h,hf,h0,h1=>by
  obtain⟨g1,g2,g3⟩:=mb h
  rw[C5] at hf
  obtain⟨z,hz⟩:=ug x hb y t (some n) (k+1) fuel g2 (by omega) (fun h=>absurd h (by omega)) (fun _=>⟨g1,by simp⟩)
  rw[bT,if_pos (by omega),g1]
  simp only[CS]
  rw[List.all_cons]
  by_cases c1:n<0
  ·refine⟨0,?_⟩
   rw[if_pos c1,if_neg]
   simp only[okn,Bool.and_eq_true,decide_eq_true_eq]
   omega
  by_cases c2:n>2147483647
  ·refine⟨0,?_⟩
   rw[if_neg c1,if_pos c2,if_neg]
   simp only[okn,Bool.and_eq_true,decide_eq_true_eq]
   omega
  rw[if_neg c1,if_neg c2]
  have ho:okn n=true:=by simp only[okn,Bool.and_eq_true,decide_eq_true_eq]; omega
  rcases Nat.eq_zero_or_pos k with hk | hk
  ·obtain rfl:=h0 hk
   refine⟨z,?_⟩
   rw[if_neg (by omega),if_pos (by omega),hz,ho,Bool.true_and,show up ltI none (n::t)=up ltI (some n) t from rfl]
  ·obtain⟨e1,e2⟩:=h1 hk
   rw[if_pos (by omega),if_pos (by omega),if_pos (by omega),show ((k:Int) - 1).toNat=k - 1 by omega,e1]
   cases p with
   | none=>exact absurd rfl e2
   | some q =>
    simp only[CS]
    by_cases hc:q<n
    ·refine⟨z,?_⟩
     rw[if_neg (by omega),if_pos (by omega),hz,ho,Bool.true_and]
     simp only[up,ltI,hc,decide_true,Bool.true_and]
    ·refine⟨0,?_⟩
     rw[if_pos (by omega),if_neg]
     simp only[up,ltI,hc,decide_false,Bool.false_and,Bool.and_false,Bool.false_eq_true,not_false_eq_true]
theorem uh (a0:List Top) (hb:a0.length≤140737488355328) (hw: ∀ t,t∈a0→t.Cj.length≤140737488355328∧t.Cx.length≤140737488355328) (y:Bool): ∀ (t:List Top) (p:Option Top) (k fuel:Nat),a0.drop k=t→t.length<fuel→(k=0→p=none)→(0<k→a0[k - 1]? = p∧p≠none)→ ∃ z,cy a0 fuel y k=some (if (t.all rl && up Op.bytesLess (p.map (·.Cx)) (t.map (·.Cx)))=true then .go (y,z) else .ret false)
 | [],p,k,fuel+1,h,hf,h0,h1=>by
  have:=lW h
  refine⟨k,?_⟩
  rw[cy,if_neg (by omega)]
  cases p <;> rfl
 | x::t,p,k,fuel+1,h,hf,h0,h1=>by
  obtain⟨g1,g2,g3⟩:=mb h
  have hx:=hw x (List.mem_of_getElem? g1)
  rw[C5] at hf
  obtain⟨z,hz⟩:=uh a0 hb hw y t (some x) (k+1) fuel g2 (by omega) (fun h=>absurd h (by omega)) (fun _=>⟨g1,by simp⟩)
  rw[cy,if_pos (by omega),g1,CS]
  rw[List.all_cons,List.map_cons]
  by_cases c1:(x.Cx.length:Int)<1
  ·refine⟨0,?_⟩
   have:x.Cx = []:=List.length_eq_zero_iff.1 (by omega)
   rw[if_pos c1,if_neg]
   simp[rl,this]
  by_cases c2:(x.Cx.length:Int)>32767
  ·refine⟨0,?_⟩
   rw[if_neg c1,if_pos c2,if_neg]
   simp[rl,show ¬ x.Cx.length≤32767 by omega]
  by_cases c3:(x.Cj.length:Int)<1
  ·refine⟨0,?_⟩
   have:x.Cj = []:=List.length_eq_zero_iff.1 (by omega)
   rw[if_neg c1,if_neg c2,if_pos c3,if_neg]
   simp[rl,okps,this]
  rw[if_neg c1,if_neg c2,if_neg c3]
  have hne:x.Cx.isEmpty=false:=by cases hh:x.Cx with | nil=>rw[hh] at c1; simp at c1 | cons c u=>rfl
  have hnp:x.Cj.isEmpty=false:=by cases hh:x.Cj with | nil=>rw[hh] at c3; simp at c3 | cons c u=>rfl
  have ho:rl x=(x.Cj.all okn && up ltI none x.Cj):=by
   simp[rl,okps,hne,hnp,show x.Cx.length≤32767 by omega]
  obtain⟨z2,hz2⟩:=ug x hx.1 y x.Cj none 0 (((x.Cj.length:Int)).toNat+1) rfl (by omega) (fun _=>rfl) (fun h=>absurd h (by omega))
  rw[ho]
  rcases Nat.eq_zero_or_pos k with hk | hk
  ·obtain rfl:=h0 hk
   rw[if_neg (by omega),ww,hz2]
   cases hq:(x.Cj.all okn && up ltI none x.Cj) with
   | false=>exact⟨0,by simp⟩
   | true =>
    refine⟨z,?_⟩
    rw[if_pos rfl,CS,Bool.true_and]
    simp only
    rw[if_pos (by omega),hz,show (none:Option Top).map (·.Cx)=none from rfl,show up Op.bytesLess none (x.Cx::t.map (·.Cx))=up Op.bytesLess (some x.Cx) (t.map (·.Cx)) from rfl]
    rfl
  ·obtain⟨e1,e2⟩:=h1 hk
   rw[if_pos (by omega),if_pos (by omega),if_pos (by omega),show ((k:Int) - 1).toNat=k - 1 by omega,e1]
   cases p with
   | none=>exact absurd rfl e2
   | some q =>
    rw[CS]
    rw[zl _ _ (hw q (List.mem_of_getElem? e1)).2]
    rw[CS,show (some q).map (·.Cx)=some q.Cx from rfl,show up Op.bytesLess (some q.Cx) (x.Cx::t.map (·.Cx))=(Op.bytesLess q.Cx x.Cx && up Op.bytesLess (some x.Cx) (t.map (·.Cx))) from rfl]
    cases hc:Op.bytesLess q.Cx x.Cx with
    | false=>exact⟨0,by simp⟩
    | true =>
     rw[if_pos rfl,hz2]
     cases hq:(x.Cj.all okn && up ltI none x.Cj) with
     | false=>exact⟨0,by simp⟩
     | true =>
      refine⟨z,?_⟩
      rw[if_pos rfl,CS,Bool.true_and]
      simp only
      rw[if_pos (by omega),hz]
      rfl
theorem zm (a0:List Top) (hb:a0.length≤140737488355328) (hw: ∀ t,t∈a0→t.Cj.length≤140737488355328∧t.Cx.length≤140737488355328):jg a0=some (vB a0):=by
 unfold jg vB
 obtain⟨z,hz⟩:=uh a0 hb hw false a0 none 0 (((a0.length:Int)).toNat+1) rfl (by omega) (fun _=>rfl) (fun h=>absurd h (by omega))
 rw[show (none:Option Top).map (·.Cx)=none from rfl] at hz
 rw[hz]
 cases (a0.all rl && up Op.bytesLess none (a0.map (·.Cx))) <;> rfl
def gdP (p:aE):Prop:=wI p.CD∧p.Ct.length≤140737488351232∧ ∀ b,b∈p.Ct→bnB b
def gdT (t:ax):Prop:=t.Cx.length≤140737488351232∧t.Cj.length*32≤140737488351232∧ ∀ p,p∈t.Cj→gdP p
def gdQ (r:aw):Prop:=wI r.Cz∧r.Cm.length*40≤140737488351232∧ ∀ t,t∈r.Cm→gdT t
def e7 (nul:Bool):List Bat→Int
 | []=>0
 | b::l=>if chk b=0 then (if b.Cq=true then 12 else if b.CE=nul then 8 else e7 nul l) else chk b
def nB (v:Int) (nul:Bool) (l:List Bat):Int:=if l.length=0∨(v<4∧1<l.length) then 10 else e7 nul l
theorem zn (r:aw) (y:Int): ∀ l:List Bat,(∀ b,b∈l→bnB b)→aX r l y=some (if e7 r.CA.null l=0 then .go y else .ret (e7 r.CA.null l))
 | [],_=>rfl
 | b::l,h=>by
  rw[aX,(s9 (h b (.head _))).1,CS,e7,zn r y l (fun x hx=>h x (.tail _ hx))]
  by_cases c1:chk b=0
  ·rw[if_pos c1,if_pos c1]
   by_cases c2:b.Cq=true
   ·rw[if_pos c2,if_pos c2]; rfl
   ·rw[if_neg c2,if_neg c2]
    by_cases c3:b.CE=r.CA.null
    ·rw[if_pos (by rw[c3]; exact beq_self_eq_true _),if_pos c3]; rfl
    ·rw[if_neg (by simpa using c3),if_neg c3]
  ·rw[if_neg c1,if_neg c1,if_neg c1]
theorem zo (r:aw) (l:List Bat) (v:Int) (h: ∀ b,b∈l→bnB b):cx r l v=some (nB v r.CA.null l):=by
 unfold cx nB
 by_cases c0:l.length=0
 ·rw[if_pos (by omega),CS,if_pos rfl,if_pos (.inl c0)]
 rw[if_neg (by omega)]
 by_cases c1:v<4
 ·rw[if_pos c1]
  by_cases c2:1<l.length
  ·rw[if_pos (by omega),CS,if_pos rfl,if_pos (.inr ⟨c1,c2⟩)]
  ·rw[if_neg (by omega),CS,if_neg (by decide),zn r 0 l h,if_neg (show ¬ (l.length=0∨(v<4∧1<l.length)) from fun hh=>by rcases hh with hh | hh; exact c0 hh; exact c2 hh.2)]
   by_cases c3:e7 r.CA.null l=0
   ·rw[if_pos c3,c3]; rfl
   ·rw[if_neg c3]; rfl
 ·rw[if_neg c1,CS,if_neg (by decide),zn r 0 l h,if_neg (show ¬ (l.length=0∨(v<4∧1<l.length)) from fun hh=>by rcases hh with hh | hh; exact c0 hh; exact c1 hh.1)]
  by_cases c3:e7 r.CA.null l=0
  ·rw[if_pos c3,c3]; rfl
  ·rw[if_neg c3]; rfl
theorem wx (a:List Bat) (nul:Bool) (hn:a.length≤140737488351232) (y:Int): ∀ (l:List Bat) (k fuel:Nat),a.drop k=l→l.length<fuel→(∀ b,b∈l→bnB b)→ ∃ z,cI a (!nul) fuel y k=some (if e7 nul l=0 then .go (y,z) else .ret (e7 nul l))
 | [],k,fuel+1,h,hf,_=>by
  have:=bL h
  exact⟨k,by rw[cI,if_neg (by omega)]; rfl⟩
 | b::l,k,fuel+1,h,hf,hw=>by
  obtain⟨g1,g2,g3⟩:=bl h
  rw[C5] at hf
  obtain⟨z,hz⟩:=wx a nul hn y l (k+1) fuel g2 (by omega) (fun x hx=>hw x (.tail _ hx))
  refine⟨z,?_⟩
  rw[cI,if_pos (by omega),g1,CS,(s9 (hw b (.head _))).2,CS,e7,if_pos (show -9223372036854775808≤(k:Int)+1∧(k:Int)+1≤9223372036854775807 by omega),hz]
  by_cases c1:chk b=0
  ·rw[if_pos c1,if_pos c1]
   by_cases c2:b.Cq=true
   ·rw[if_pos c2,if_pos c2]; rfl
   ·rw[if_neg c2,if_neg c2]
    by_cases c3:b.CE=nul
    ·rw[if_neg (by rw[c3]; cases nul <;> decide),if_pos c3]; rfl
    ·rw[if_pos (by cases hb:b.CE <;> cases nul <;> simp_all),if_neg c3]
  ·rw[if_neg c1,if_neg c1,if_neg c1]
theorem ui (l:List Bat) (nul:Bool) (v:Int) (hv:v=3∨v=4) (hn:l.length≤140737488351232) (h: ∀ b,b∈l→bnB b):dF l (!nul) v=some (nB v nul l):=by
 obtain⟨z,hz⟩:=wx l nul hn 0 l 0 (((l.length:Int)).toNat+1) rfl (by omega) h
 have hend:((some (if e7 nul l=0 then (.go (0,z):Lp Int (Int×Nat)) else .ret (e7 nul l))).bind fun e=>match e with | .ret r=>some r | .go (y33,k34)=>(some 0:Option Int))=some (e7 nul l):=by
  by_cases c3:e7 nul l=0
  ·rw[if_pos c3,c3]; rfl
  ·rw[if_neg c3]; rfl
 unfold dF nB
 by_cases c0:l.length=0
 ·rw[if_pos (by omega),CS,if_pos rfl,if_pos (.inl c0)]
 rw[if_neg (by omega)]
 rcases hv with rfl | rfl
 ·rw[if_pos rfl]
  by_cases c2:1<l.length
  ·rw[if_pos (by omega),CS,if_pos rfl,if_pos (.inr ⟨by decide,c2⟩)]
  ·rw[if_neg (by omega),CS,if_neg (by decide),hz,if_neg (show ¬ (l.length=0∨((3:Int)<4∧1<l.length)) from fun hh=>by rcases hh with hh | hh; exact c0 hh; exact c2 hh.2)]
   exact hend
 ·rw[if_neg (by decide),CS,if_neg (by decide),hz,if_neg (show ¬ (l.length=0∨((4:Int)<4∧1<l.length)) from fun hh=>by rcases hh with hh | hh; exact c0 hh; exact absurd hh.1 (by decide))]
  exact hend
def qR:Option Int→Int→Bool
 | none,_=>true
 | some q,n=>decide (q<n)
def rqP:Option Int→List aE→Bool
 | _,[]=>true
 | p,x::l=>okn x.CD && qR p x.CD && rqP (some x.CD) l
def oD:Option (List UInt8)→List UInt8→Bool
 | none,_=>true
 | some q,d=>Op.bytesLess q d
def oE (p:Option (List UInt8)) (t:ax):Bool:= !t.Cx.isEmpty && decide (t.Cx.length≤32767) && oD p t.Cx && rqP none t.Cj
def rqT:Option (List UInt8)→List ax→Int
 | _,[]=>0
 | p,t::l=>if t.Cj.length=0 then 10 else if oE p t=true then rqT (some t.Cx) l else 13
def o7 (l:List ax):Int:=if l.length=0 then 10 else rqT none l
theorem uj (t:ax) (hn:t.Cj.length≤140737488351232) (y:Int): ∀ (l:List aE) (p:Option Int) (k:Nat),t.Cj.drop k=l→(∀ q,q∈l→wI q.CD)→(k=0→p=none)→(0<k→ ∃ u,t.Cj[k - 1]? = some u∧p=some u.CD)→cn t l y k=some (if rqP p l=true then .go y else .ret 13)
 | [],p,k,_,_,_,_=>rfl
 | x::l,p,k,h,hw,h0,h1=>by
  obtain⟨g1,g2,g3⟩:=bl h
  have hx:=hw x (.head _)
  have ih:=uj t hn y l (some x.CD) (k+1) g2 (fun q hq=>hw q (.tail _ hq)) (fun h=>absurd h (by omega)) (fun _=>⟨x,g1,rfl⟩)
  rw[cn,iP _ _ hx,CS,ik,rqP]
  by_cases c1:x.CD<0
  ·have:okn x.CD=false:=by unfold okn; simp; omega
   rw[if_pos c1,CS,if_pos rfl,this]; rfl
  rw[if_neg c1]
  by_cases c2:x.CD≤2147483647
  rotate_left
  ·have:okn x.CD=false:=by unfold okn; simp; omega
   rw[if_neg (by simp; omega),CS,if_pos rfl,this]; rfl
  have hok:okn x.CD=true:=by unfold okn; simp; omega
  rw[if_pos (by simp; omega),hok]
  rcases Nat.eq_zero_or_pos k with hk | hk
  ·rw[h0 hk,if_neg (by omega),CS,if_neg (by decide),ih]; rfl
  ·obtain⟨u,u1,rfl⟩:=h1 hk
   rw[if_pos (by omega),if_pos (by omega),if_pos (by omega),show ((k:Int) - 1).toNat=k - 1 by omega,u1,CS]
   by_cases c3:u.CD<x.CD
   ·rw[if_neg (by omega),CS,if_neg (by decide),ih]
    rw[qR,CN c3]; rfl
   ·rw[if_pos (by omega),CS,if_pos rfl]
    rw[qR,CO c3]; rfl
theorem uk (a:List ax) (y:Int): ∀ (l:List ax) (p:Option (List UInt8)) (k:Nat),a.drop k=l→a.length≤140737488351232→(∀ t,t∈l→gdT t)→(k=0→p=none)→(0<k→ ∃ u,a[k - 1]? = some u∧p=some u.Cx)→bC a l y k=some (if rqT p l=0 then .go y else .ret (rqT p l))
 | [],p,k,_,_,_,_,_=>rfl
 | t::l,p,k,h,hn,hw,h0,h1=>by
  obtain⟨g1,g2,g3⟩:=bl h
  have ht:=hw t (.head _)
  have ih:=uk a y l (some t.Cx) (k+1) g2 hn (fun q hq=>hw q (.tail _ hq)) (fun h=>absurd h (by omega)) (fun _=>⟨t,g1,rfl⟩)
  rw[bC,rqT]
  by_cases c0:t.Cj.length=0
  ·rw[if_pos (by omega),if_pos c0]; rfl
  rw[if_neg (by omega),if_neg c0]
  have hl3:=uj t (by have:=ht.2.1; omega) y t.Cj none 0 rfl (fun q hq=>(ht.2.2 q hq).1) (fun _=>rfl) (fun h=>absurd h (by omega))
  rw[hl3]
  have bad: ∀ {b:Bool},oE p t=false→b=true→((some b).bind fun y143=>if y143=true then some (Lp.ret 13:Lp Int Int) else ((some (if rqP none t.Cj=true then (.go y:Lp Int Int) else .ret 13)).bind fun e=>match e with | .ret r=>some (Lp.ret r) | .go y237=>(bC a l y237 (k+1))))=some (if (if oE p t=true then rqT (some t.Cx) l else 13)=0 then .go y else .ret (if oE p t=true then rqT (some t.Cx) l else 13)):=by
   intro b hb hb2
   rw[hb2,CS,if_pos rfl,hb]; rfl
  have good: ∀ {b:Bool},(!t.Cx.isEmpty && decide (t.Cx.length≤32767) && oD p t.Cx)=true→b=false→((some b).bind fun y143=>if y143=true then some (Lp.ret 13:Lp Int Int) else ((some (if rqP none t.Cj=true then (.go y:Lp Int Int) else .ret 13)).bind fun e=>match e with | .ret r=>some (Lp.ret r) | .go y237=>(bC a l y237 (k+1))))=some (if (if oE p t=true then rqT (some t.Cx) l else 13)=0 then .go y else .ret (if oE p t=true then rqT (some t.Cx) l else 13)):=by
   intro b hb hb2
   rw[hb2,CS,if_neg (by decide),CS]
   unfold oE
   rw[hb,Bool.true_and]
   cases rqP none t.Cj
   ·rfl
   ·exact ih
  by_cases c1:t.Cx = []
  ·rw[if_pos c1]
   exact bad (by unfold oE; rw[c1]; rfl) rfl
  rw[if_neg c1]
  have hne:t.Cx.isEmpty=false:=by cases hh:t.Cx with | nil=>exact absurd hh c1 | cons c u=>rfl
  by_cases c2:(t.Cx.length:Int)>32767
  ·rw[if_pos c2]
   exact bad (by unfold oE; rw[CO (by omega)]; simp) rfl
  rw[if_neg c2]
  rcases Nat.eq_zero_or_pos k with hk | hk
  ·rw[if_neg (by omega)]
   exact good (by rw[h0 hk,hne,CN (by omega)]; rfl) rfl
  ·obtain⟨u,u1,rfl⟩:=h1 hk
   rw[if_pos (by omega),if_pos (by omega),if_pos (by omega),show ((k:Int) - 1).toNat=k - 1 by omega,u1,CS]
   by_cases c3:Op.bytesLess u.Cx t.Cx=true
   ·rw[if_pos c3]
    exact good (by rw[hne,CN (by omega)]; exact c3) rfl
   ·rw[if_neg c3]
    exact bad (by unfold oE oD; simp only[c3]; simp) rfl
theorem zp (l:List ax) (hn:l.length≤140737488351232) (hw: ∀ t,t∈l→gdT t):fk l=some (o7 l):=by
 unfold fk o7
 by_cases c0:l.length=0
 ·rw[if_pos (by omega),if_pos c0]
 ·rw[if_neg (by omega),if_neg c0,uk l 0 l none 0 rfl hn hw (fun _=>rfl) (fun h=>absurd h (by omega))]
  by_cases c:rqT none l=0
  ·rw[if_pos c,c]; rfl
  ·rw[if_neg c]; rfl
def qS (t:ax):Top:=⟨t.Cx,t.Cj.map (·.CD)⟩
theorem ul (t:ax) (hn:t.Cj.length*8≤140737488351232): ∀ (l:List aE) (acc:List Int) (k fuel:Nat),t.Cj.drop k=l→l.length<fuel→acc.length=k→ ∃ z,cV (ofT t) fuel k acc=some (z,acc++l.map (·.CD))
 | [],acc,k,fuel+1,h,hf,_=>by
  have:=bL h
  exact⟨k,by rw[cV,if_neg (by show ¬ (k:Int)<((t.Cj.map ofP).length:Int); rw[Dh]; omega),List.map_nil,DE]⟩
 | x::l,acc,k,fuel+1,h,hf,hk=>by
  obtain⟨g1,g2,g3⟩:=bl h
  rw[C5] at hf
  obtain⟨z,hz⟩:=ul t hn l (acc ++ [x.CD]) (k+1) fuel g2 (by omega) (by rw[CW,DV,hk])
  have e1:(ofT t).Cj[k]? = some (ofP x):=by show (t.Cj.map ofP)[k]? = _; rw[List.getElem?_map,g1]; rfl
  refine⟨z,?_⟩
  rw[cV,if_pos (by show (k:Int)<((t.Cj.map ofP).length:Int); rw[Dh]; omega),e1,CS,if_pos (by omega),if_pos (by omega)]
  show cV (ofT t) fuel (k+1) (acc ++ [x.CD])= _
  rw[hz,C2]
  rfl
theorem zq (t:ax) (hn:t.Cj.length*8≤140737488351232):ie (ofT t)=some (qS t):=by
 have e4:(ofT t).Cj.length=t.Cj.length:=Dh _
 obtain⟨z,hz⟩:=ul t hn t.Cj [] 0 (((t.Cj.length:Int)).toNat+1) rfl (by omega) rfl
 unfold ie
 rw[e4,hz,CS,Db]
 rfl
theorem vC: ∀ (l:List aE) (p:Option Int),rqP p l=((l.map (·.CD)).all okn && up ltI p (l.map (·.CD)))
 | [],p=>by cases p <;> rfl
 | x::l,none=>by
  rw[rqP,vC l,List.map_cons,List.all_cons,up,qR]
  cases okn x.CD <;> cases (l.map (·.CD)).all okn <;> rfl
 | x::l,some q=>by
  rw[rqP,vC l,List.map_cons,List.all_cons,up,qR,ltI]
  cases okn x.CD <;> cases (l.map (·.CD)).all okn <;> cases decide (q<x.CD) <;> rfl
def mz:Option (List UInt8)→List (List UInt8)→Option (List UInt8)
 | p,[]=>p
 | _,x::l=>mz (some x) l
theorem ta: ∀ (l:List (List UInt8)) (p:Option (List UInt8)) (x:List UInt8),up Op.bytesLess p (l ++ [x])=(up Op.bytesLess p l && oD (mz p l) x)
 | [],none,x=>rfl
 | [],some q,x=>by show (Op.bytesLess q x && true)=(true && Op.bytesLess q x); rw[Bool.and_true,Bool.true_and]
 | y::l,none,x=>by
  show up Op.bytesLess (some y) (l ++ [x])= _
  rw[ta l (some y) x]; rfl
 | y::l,some q,x=>by
  show (Op.bytesLess q y && up Op.bytesLess (some y) (l ++ [x]))= _
  rw[ta l (some y) x,← Bool.and_assoc]; rfl
theorem qT: ∀ (l:List (List UInt8)) (p:Option (List UInt8)) (x:List UInt8),mz p (l ++ [x])=some x
 | [],p,x=>rfl
 | y::l,p,x=>qT l (some y) x
theorem se (l:List Top) (t:ax) (h:vB l=true) (hp:t.Cj.length≠0):vB (l ++ [qS t])=oE (mz none (l.map (·.Cx))) t:=by
 have h2:l.all rl=true∧up Op.bytesLess none (l.map (·.Cx))=true:=by simpa [vB] using h
 have h3:(t.Cj.map (·.CD)).isEmpty=false:=by cases hh:t.Cj with | nil=>exact absurd (by rw[hh]; rfl) hp | cons c u=>rfl
 unfold vB oE
 rw[List.all_append,h2.1,List.map_append,List.map_singleton,ta,h2.2,vC]
 simp only[List.all_cons,List.all_nil,Bool.and_true,Bool.true_and,rl,okps]
 show (!t.Cx.isEmpty && decide (t.Cx.length≤32767) && ((t.Cj.map (·.CD)).all okn && up ltI none (t.Cj.map (·.CD)) && !(t.Cj.map (·.CD)).isEmpty) && oD (mz none (l.map (·.Cx))) t.Cx)= _
 rw[h3]
 cases t.Cx.isEmpty <;> cases decide (t.Cx.length≤32767) <;> cases oD (mz none (l.map (·.Cx))) t.Cx <;> cases (t.Cj.map (·.CD)).all okn <;> cases up ltI none (t.Cj.map (·.CD)) <;> rfl
theorem qU (a:List ax) (hn:a.length*40≤140737488351232) (y:Int): ∀ (l:List ax) (acc:List Top) (k fuel:Nat),a.drop k=l→l.length<fuel→acc.length=k→(∀ t,t∈l→gdT t)→(∀ t,t∈acc→t.Cj.length≤140737488355328∧t.Cx.length≤140737488355328)→vB acc=true→ ∃ z,dE (a.map ofT) fuel y acc k=some (if rqT (mz none (acc.map (·.Cx))) l=0 then .go (y,z) else .ret (rqT (mz none (acc.map (·.Cx))) l))
 | [],acc,k,fuel+1,h,hf,_,_,_,_=>by
  have:=bL h
  exact⟨(acc,k),by rw[dE,if_neg (by rw[Dh]; omega)]; rfl⟩
 | t::l,acc,k,fuel+1,h,hf,hk,hw,ha,ho=>by
  obtain⟨g1,g2,g3⟩:=bl h
  obtain⟨t1,t2,t3⟩:=hw t (.head _)
  rw[C5] at hf
  have e1:(a.map ofT)[k]? = some (ofT t):=by rw[List.getElem?_map,g1]; rfl
  have e4:(ofT t).Cj.length=t.Cj.length:=Dh _
  rw[dE,if_pos (by rw[Dh]; omega),e1,CS,e4,rqT]
  by_cases c0:t.Cj.length=0
  ·rw[if_pos (by omega),if_pos c0]
   exact⟨(acc,k),rfl⟩
  have ha2: ∀ u,u∈acc ++ [qS t]→u.Cj.length≤140737488355328∧u.Cx.length≤140737488355328:=fun u hu=>by
   rcases List.mem_append.1 hu with hu | hu
   ·exact ha u hu
   ·rw[List.mem_singleton.1 hu]
    refine⟨?_,by show t.Cx.length≤ _; omega⟩
    show (t.Cj.map _).length≤ _
    rw[Dh]; omega
  rw[if_neg (by omega),if_neg c0,zq t (by omega),CS,if_pos (by omega),zm _ (by rw[CW,DV]; omega) ha2,CS,se acc t ho c0]
  by_cases c1:oE (mz none (acc.map (·.Cx))) t=true
  ·obtain⟨z,hz⟩:=qU a hn y l (acc ++ [qS t]) (k+1) fuel g2 (by omega) (by rw[CW,DV,hk]) (fun u hu=>hw u (.tail _ hu)) ha2 (by rw[se acc t ho c0]; exact c1)
   have e5:mz none ((acc ++ [qS t]).map (·.Cx))=some t.Cx:=by rw[List.map_append,List.map_singleton,qT]; rfl
   rw[e5] at hz
   exact⟨z,by rw[if_pos c1,if_pos c1,if_pos (by omega),hz]⟩
  ·exact⟨(acc,k),by rw[if_neg c1,if_neg c1]; rfl⟩
theorem vD (l:List ax) (hn:l.length*40≤140737488351232) (hw: ∀ t,t∈l→gdT t):gR (l.map ofT)=some (o7 l):=by
 unfold gR o7
 rw[Dh]
 by_cases c0:l.length=0
 ·rw[if_pos (by omega),if_pos c0]
 ·obtain⟨z,hz⟩:=qU l hn 0 l [] 0 (((l.length:Int)).toNat+1) rfl (by omega) rfl hw (fun t h=>nomatch h) rfl
  rw[if_neg (by omega),if_neg c0,hz]
  show ((some (if rqT none l=0 then _ else _)).bind _)= _
  by_cases c:rqT none l=0
  ·rw[if_pos c,c]; rfl
  ·rw[if_neg c]; rfl
def gz (v:Int) (nul:Bool):List aE→Int
 | []=>0
 | p::l=>if nB v nul p.Ct=0 then gz v nul l else nB v nul p.Ct
def gW (v:Int) (nul:Bool):List ax→Int
 | []=>0
 | t::l=>if gz v nul t.Cj=0 then gW v nul l else gz v nul t.Cj
def vE (r:aw):Prop:=bh r.CA=true∧(r.CA.null=true∨kt r.CA.data=true)
def tb (r:aw):Prop:= -1≤r.CG∧r.CG≤1∧0≤r.Cz∧r.Cz≤2147483647
instance (r:aw):Decidable (vE r):=by unfold vE; infer_instance
instance (r:aw):Decidable (tb r):=by unfold tb; infer_instance
def pD (v:Int) (r:aw):Int:=if vE r then (if tb r then (if o7 r.Cm=0 then gW v r.CA.null r.Cm else o7 r.Cm) else 11) else 4
theorem pc_l2 (r:aw) (v y:Int): ∀ l:List aE,(∀ p,p∈l→gdP p)→bi r v l y=some (if gz v r.CA.null l=0 then .go y else .ret (gz v r.CA.null l))
 | [],_=>rfl
 | p::l,h=>by
  rw[bi,zo r p.Ct v (h p (.head _)).2.2,CS,gz,pc_l2 r v y l (fun q hq=>h q (.tail _ hq))]
  by_cases c:nB v r.CA.null p.Ct=0
  ·rw[if_pos c,if_pos c]
  ·rw[if_neg c,if_neg c,if_neg c]
theorem pc_l1 (r:aw) (v y:Int): ∀ l:List ax,(∀ t,t∈l→gdT t)→bj r v l y=some (if gW v r.CA.null l=0 then .go y else .ret (gW v r.CA.null l))
 | [],_=>rfl
 | t::l,h=>by
  rw[bj,pc_l2 r v y t.Cj (h t (.head _)).2.2,CS,gW]
  by_cases c:gz v r.CA.null t.Cj=0
  ·rw[if_pos c,if_pos c]
   dsimp only
   rw[pc_l1 r v y l (fun q hq=>h q (.tail _ hq))]
  ·rw[if_neg c,if_neg c,if_neg c]
theorem pcheck (r:aw) (v:Int) (h:gdQ r):aT r v=some (pD v r):=by
 unfold aT pD
 have h1:(((nN r.CA).bind fun x12=>if x12=true then (if r.CA.null=true then some false else ((nc r.CA.data).bind fun x16=>if x16=true then some false else some true)) else some true):Option Bool)=some (decide (¬ vE r)):=by
  rw[rB,CS,uY]
  by_cases c1:bh r.CA=true
  ·rw[if_pos c1]
   by_cases c2:r.CA.null=true
   ·rw[if_pos c2]; exact congrArg some (Eq.symm (CO (fun hh=>hh ⟨c1,.inl c2⟩)))
   ·rw[if_neg c2,CS]
    by_cases c3:kt r.CA.data=true
    ·rw[if_pos c3]; exact congrArg some (Eq.symm (CO (fun hh=>hh ⟨c1,.inr c3⟩)))
    ·rw[if_neg c3]; exact congrArg some (Eq.symm (CN (fun hh=>hh.2.elim c2 c3)))
  ·rw[if_neg c1]; exact congrArg some (Eq.symm (CN (fun hh=>c1 hh.1)))
 have h2:((if r.CG<(-1) then some true else (if r.CG>1 then some true else (if r.Cz<0 then some true else ((jW r.Cz 4).bind fun x30=>if x30=true then some false else some true)))):Option Bool)=some (decide (¬ tb r)):=by
  rw[iP _ _ h.1,CS,ik]
  unfold tb
  by_cases c1:r.CG < -1
  ·rw[if_pos c1,CN (by omega)]
  rw[if_neg c1]
  by_cases c2:r.CG>1
  ·rw[if_pos c2,CN (by omega)]
  rw[if_neg c2]
  by_cases c3:r.Cz<0
  ·rw[if_pos c3,CN (by omega)]
  rw[if_neg c3]
  by_cases c4:r.Cz≤2147483647
  ·rw[if_pos (CN (by omega)),CO (by omega)]
  ·rw[if_neg (by rw[decide_eq_true_eq]; omega),CN (by omega)]
 rw[h1,CS]
 by_cases c1:vE r
 rotate_left
 ·rw[CN c1,if_pos rfl,if_neg c1]
 rw[CO (fun hh=>hh c1),if_neg (by decide),if_pos c1,h2,CS]
 by_cases c2:tb r
 rotate_left
 ·rw[CN c2,if_pos rfl,if_neg c2]
 rw[CO (fun hh=>hh c2),if_neg (by decide),if_pos c2,zp _ (by have:=h.2.1; omega) h.2.2,CS]
 by_cases c3:o7 r.Cm=0
 ·rw[if_pos c3,if_pos c3,pc_l1 r v 0 _ h.2.2]
  by_cases c4:gW v r.CA.null r.Cm=0
  ·rw[if_pos c4,c4]; rfl
  ·rw[if_neg c4]; rfl
 ·rw[if_neg c3,if_neg c3]
theorem rc_l2 (r:aw) (v:Int) (hv:v=3∨v=4) (t:ax) (j:Nat) (hj:r.Cm[j]? = some t) (hn:t.Cj.length≤140737488351232) (y:Int): ∀ (l:List aE) (k fuel:Nat),t.Cj.drop k=l→l.length<fuel→(∀ p,p∈l→gdP p)→ ∃ z,cz (ofQ r) v j fuel y k=some (if gz v r.CA.null l=0 then .go (y,z) else .ret (gz v r.CA.null l))
 | [],k,fuel+1,h,hf,_=>by
  have:=bL h
  have e1:(ofQ r).Cm[j]? = some (ofT t):=by show (r.Cm.map ofT)[j]? = _; rw[List.getElem?_map,hj]; rfl
  exact⟨k,by rw[cz,e1,CS,if_neg (by show ¬ (k:Int)<((t.Cj.map ofP).length:Int); rw[Dh]; omega)]; rfl⟩
 | p::l,k,fuel+1,h,hf,hw=>by
  obtain⟨g1,g2,g3⟩:=bl h
  obtain⟨p1,p2,p3⟩:=hw p (.head _)
  rw[C5] at hf
  obtain⟨z,hz⟩:=rc_l2 r v hv t j hj hn y l (k+1) fuel g2 (by omega) (fun x hx=>hw x (.tail _ hx))
  have e1:(ofQ r).Cm[j]? = some (ofT t):=by show (r.Cm.map ofT)[j]? = _; rw[List.getElem?_map,hj]; rfl
  have e2:(ofT t).Cj[k]? = some (ofP p):=by show (t.Cj.map ofP)[k]? = _; rw[List.getElem?_map,g1]; rfl
  have R5: -9223372036854775808≤(k:Int)+1∧(k:Int)+1≤9223372036854775807:=by omega
  have hb:=fun nul=>ui p.Ct nul v hv p2 p3
  refine⟨z,?_⟩
  rw[cz,e1,CS,if_pos (by show (k:Int)<((t.Cj.map ofP).length:Int); rw[Dh]; omega),e2,CS,gz]
  show (if r.CA.null=true then ((dF p.Ct false v).bind _) else ((dF p.Ct true v).bind _))= _
  by_cases c:r.CA.null=true
  ·have h1:=hb true
   rw[Bool.not_true] at h1
   rw[if_pos c,h1,CS,if_pos R5,hz,c]
   by_cases c2:nB v true p.Ct=0
   ·rw[if_pos c2,if_pos c2]
   ·rw[if_neg c2,if_neg c2,if_neg c2]
  ·have h1:=hb false
   rw[Bool.not_false] at h1
   have c':r.CA.null=false:=by simpa using c
   rw[if_neg c,h1,CS,if_pos R5,hz,c']
   by_cases c2:nB v false p.Ct=0
   ·rw[if_pos c2,if_pos c2]
   ·rw[if_neg c2,if_neg c2,if_neg c2]
theorem rc_l1 (r:aw) (v:Int) (hv:v=3∨v=4) (hn:r.Cm.length≤140737488351232) (y:Int): ∀ (l:List ax) (k fuel:Nat),r.Cm.drop k=l→l.length<fuel→(∀ t,t∈l→gdT t)→ ∃ z,cA (ofQ r) v fuel y k=some (if gW v r.CA.null l=0 then .go (y,z) else .ret (gW v r.CA.null l))
 | [],k,fuel+1,h,hf,_=>by
  have:=bL h
  exact⟨k,by rw[cA,if_neg (by show ¬ (k:Int)<((r.Cm.map ofT).length:Int); rw[Dh]; omega)]; rfl⟩
 | t::l,k,fuel+1,h,hf,hw=>by
  obtain⟨g1,g2,g3⟩:=bl h
  obtain⟨t1,t2,t3⟩:=hw t (.head _)
  rw[C5] at hf
  obtain⟨z,hz⟩:=rc_l1 r v hv hn y l (k+1) fuel g2 (by omega) (fun x hx=>hw x (.tail _ hx))
  obtain⟨z2,hz2⟩:=rc_l2 r v hv t k g1 (by omega) y t.Cj 0 (t.Cj.length+1) rfl (by omega) t3
  have e1:(ofQ r).Cm[k]? = some (ofT t):=by show (r.Cm.map ofT)[k]? = _; rw[List.getElem?_map,g1]; rfl
  have e3:(((ofQ r).Cm[k]?).map (fun x37=>((x37.Cj.length:Int)).toNat+1)).getD 0=t.Cj.length+1:=by
   rw[e1]
   show (((t.Cj.map ofP).length:Int)).toNat+1= _
   rw[Dh]; omega
  refine⟨z,?_⟩
  rw[cA,if_pos (by show (k:Int)<((r.Cm.map ofT).length:Int); rw[Dh]; omega),e3,hz2,CS,gW]
  by_cases c:gz v r.CA.null t.Cj=0
  ·rw[if_pos c,if_pos c]
   dsimp only
   rw[if_pos (show -9223372036854775808≤(k:Int)+1∧(k:Int)+1≤9223372036854775807 by omega),hz]
  ·rw[if_neg c,if_neg c,if_neg c]
theorem vF (d:List UInt8):kt d=true↔d ≠ []∧d.length≤32767:=by
 unfold kt
 cases d with
 | nil=>simp
 | cons c d=>simp; omega
theorem vG (n:Bool) (d:List UInt8) (b:Bl) (h1:b.null=n) (h2:b.data=d):bh b=true↔(n=true→d = []):=by
 unfold bh
 rw[h1,h2]
 cases n <;> cases d <;> simp
theorem zr (r:aw) (v:Int) (hv:v=3∨v=4) (h:gdQ r):ga (ofQ r) v=some (pD v r):=by
 have e4:(ofQ r).Cm.length=r.Cm.length:=Dh _
 unfold ga pD
 rw[e4]
 have h1:((if r.CA.null=true then (if r.CA.data = [] then some false else some true) else (if (r.CA.data.length:Int)<1 then some true else (if (r.CA.data.length:Int)>32767 then some true else some false))):Option Bool)=some (decide (¬ vE r)):=by
  have hk:=vF r.CA.data
  have hb:=vG r.CA.null r.CA.data r.CA rfl rfl
  by_cases c2:r.CA.null=true
  ·rw[if_pos c2]
   by_cases c3:r.CA.data = []
   ·rw[if_pos c3]
    exact congrArg some (Eq.symm (CO (fun hh=>hh ⟨hb.2 (fun _=>c3),.inl c2⟩)))
   ·rw[if_neg c3]
    exact congrArg some (Eq.symm (CN (fun hh=>c3 (hb.1 hh.1 c2))))
  ·rw[if_neg c2]
   by_cases c3:r.CA.data = []
   ·rw[if_pos (by rw[c3]; decide)]
    exact congrArg some (Eq.symm (CN (fun hh=>hh.2.elim c2 (fun h=>(hk.1 h).1 c3))))
   ·have hl:0<r.CA.data.length:=List.length_pos_iff.2 c3
    rw[if_neg (by omega)]
    by_cases c4:(r.CA.data.length:Int)>32767
    ·rw[if_pos c4]
     exact congrArg some (Eq.symm (CN (fun hh=>hh.2.elim c2 (fun h=>by have:=(hk.1 h).2; omega))))
    ·rw[if_neg c4]
     exact congrArg some (Eq.symm (CO (fun hh=>hh ⟨hb.2 (fun h=>absurd h c2),.inr (hk.2 ⟨c3,by omega⟩)⟩)))
 have h2:((if r.CG<(-1) then some true else (if r.CG>1 then some true else (if r.Cz<0 then some true else (if r.Cz>2147483647 then some true else some false)))):Option Bool)=some (decide (¬ tb r)):=by
  unfold tb
  by_cases c1:r.CG < -1
  ·rw[if_pos c1,CN (by omega)]
  rw[if_neg c1]
  by_cases c2:r.CG>1
  ·rw[if_pos c2,CN (by omega)]
  rw[if_neg c2]
  by_cases c3:r.Cz<0
  ·rw[if_pos c3,CN (by omega)]
  rw[if_neg c3]
  by_cases c4:r.Cz>2147483647
  ·rw[if_pos c4,CN (by omega)]
  ·rw[if_neg c4,CO (by omega)]
 show ((if r.CA.null=true then (if r.CA.data = [] then some false else some true) else (if (r.CA.data.length:Int)<1 then some true else (if (r.CA.data.length:Int)>32767 then some true else some false))).bind fun y7=>if y7=true then some 4 else ((if r.CG<(-1) then some true else (if r.CG>1 then some true else (if r.Cz<0 then some true else (if r.Cz>2147483647 then some true else some false)))).bind fun y17=>if y17=true then some 11 else ((gR (r.Cm.map ofT)).bind fun x24=>if x24=0 then ((cA (ofQ r) v (((r.Cm.length:Int)).toNat+1) 0 0).bind fun e=>match e with | .ret r=>some r | .go (y72,k73)=>some 0) else some x24)))= _
 rw[h1,CS]
 by_cases c1:vE r
 rotate_left
 ·rw[CN c1,if_pos rfl,if_neg c1]
 rw[CO (fun hh=>hh c1),if_neg (by decide),if_pos c1,h2,CS]
 by_cases c2:tb r
 rotate_left
 ·rw[CN c2,if_pos rfl,if_neg c2]
 rw[CO (fun hh=>hh c2),if_neg (by decide),if_pos c2,vD _ h.2.1 h.2.2,CS]
 by_cases c3:o7 r.Cm=0
 ·obtain⟨z,hz⟩:=rc_l1 r v hv (by have:=h.2.1; omega) 0 r.Cm 0 (((r.Cm.length:Int)).toNat+1) rfl (by omega) h.2.2
  rw[if_pos c3,if_pos c3,hz]
  by_cases c4:gW v r.CA.null r.Cm=0
  ·rw[if_pos c4,c4]; rfl
  ·rw[if_neg c4]; rfl
 ·rw[if_neg c3,if_neg c3]
def kQ:Nat→Pr (List Bat)
 | 0=> .ret []
 | n+1=>fun s q=>if q=s.length then .ok ([],q) else (nx.bind fun b=>(kQ n).bind fun l=> .ret (b::l)) s q
theorem kn {b:Bat} (h:okB b):61≤(dS b).length:=by rw[oh h]; omega
theorem sf: ∀ (n:Nat) (s:List UInt8) (q:Nat) (l:List Bat) (r:Nat),q≤s.length→s.length - q≤n→kQ n s q= .ok (l,r)→r=s.length∧s.drop q=bt dS l∧ ∀ b,b∈l→okB b
 | 0,s,q,l,r,hq,hn,h=>by
  injection h with h
  obtain⟨rfl,rfl⟩:=Dv h
  exact⟨by omega,by rw[List.drop_eq_nil_of_le (by omega)]; rfl,fun b h=>nomatch h⟩
 | n+1,s,q,l,r,hq,hn,h=>by
  unfold kQ at h
  by_cases he:q=s.length
  ·rw[if_pos he] at h
   injection h with h
   obtain⟨rfl,rfl⟩:=Dv h
   exact⟨he,by rw[List.drop_eq_nil_of_le (by omega)]; rfl,fun b h=>nomatch h⟩
  rw[if_neg he] at h
  obtain⟨b,m,h1,h2⟩:=Pr.bind_ok h
  obtain⟨bs,m2,h3,h4⟩:=Pr.bind_ok h2
  injection h4 with h4
  obtain⟨rfl,rfl⟩:=Dv h4
  obtain⟨a1,a2,a3,a4,a5⟩:=s8.spell s q b m hq h1
  have hp:=kn a5
  obtain⟨b1,b2,b3⟩:=sf n s m bs m2 a2 (by omega) h3
  refine⟨b1,?_,fun y hy=> ?_⟩
  ·have e:s.drop q=dS b++s.drop m:=by
    have e1:s=s.take q++dS b++s.drop m:=by rw[← a4,List.take_append_drop]
    conv=>lhs; rw[e1,C2,List.drop_left' (by rw[Dt]; omega)]
   rw[e,b2,bt]
  ·rcases List.mem_cons.1 hy with rfl | hy
   ·exact a5
   ·exact b3 y hy
theorem um: ∀ (l:List Bat) (n:Nat) (s:List UInt8) (q:Nat),q≤s.length→s.length - q≤n→(∀ b,b∈l→okB b)→s.drop q=bt dS l→kQ n s q= .ok (l,s.length)
 | [],n,s,q,hq,hn,_,hd=>by
  have hl:=congrArg List.length hd
  rw[C0] at hl
  have hl:s.length - q=0:=hl
  have:q=s.length:=by omega
  subst this
  cases n with
  | zero=>rfl
  | succ n=>exact if_pos rfl
 | b::l,n,s,q,hq,hn,ho,hd=>by
  have hl:=congrArg List.length hd
  rw[bt] at hd
  rw[C0,bt,CW] at hl
  have hp:=kn (ho b (.head _))
  cases n with
  | zero=>omega
  | succ n =>
   have h1:=s8.back s _ q b hq (ho b (.head _)) hd
   have h2:=um l n s (q+(dS b).length) (by omega) (by omega) (fun y hy=>ho y (.tail _ hy)) (bZ hd)
   show (if q=s.length then _ else _)= _
   rw[if_neg (by omega),Pr.bind_of h1,Pr.bind_of h2]
   rfl
theorem fq {α:Type} {enc:α→List UInt8}: ∀ (l:List α) (x:α),x∈l→(enc x).length≤(bt enc l).length
 | c::l,x,h=>by
  rw[bt,CW]
  rcases List.mem_cons.1 h with rfl | h
  ·omega
  ·have:=fq (enc:=enc) l x h; omega
theorem sg {l:List Bat} (h: ∀ b,b∈l→okB b):l.length*61≤(bt dS l).length:=jx (ok:=okB) (fun x hx=>kn hx) l h
def jN:Pr (List UInt8):=eZ (ip 4)
theorem uo:Sp jN (fun d=>be (d.length:Int) 4++d) (fun d=>bu (d.length:Int) 4=true∧bh ⟨false,d⟩=true):=sU (fK 4 (by decide) (by decide))
def nC (i:Int) (d:List UInt8):Pr aE:=match kQ d.length d 0 with | .error e=> .err e | .ok (l,_)=> .ret ⟨i,l⟩
def gb:Pr aE:=(dQ 4).bind fun i=>jN.bind fun d=>nC i d
def fM (p:aE):List UInt8:=be p.CD 4++(be ((bt dS p.Ct).length:Int) 4++bt dS p.Ct)
def vH (p:aE):Prop:=bu p.CD 4=true∧bu ((bt dS p.Ct).length:Int) 4=true∧ ∀ b,b∈p.Ct→okB b
theorem zt {i:Int} {d s:List UInt8} {q r:Nat} {p:aE} (h:nC i d s q= .ok (p,r)):r=q∧p.CD=i∧d=bt dS p.Ct∧ ∀ b,b∈p.Ct→okB b:=by
 unfold nC at h
 cases ha:kQ d.length d 0 with
 | error e=>rw[ha] at h; exact nomatch h
 | ok x =>
  rw[ha] at h
  injection h with h
  obtain⟨rfl,rfl⟩:=Dv h
  obtain⟨a1,a2,a3⟩:=sf _ d 0 x.1 x.2 (Du _) (by omega) ha
  rw[List.drop_zero] at a2
  exact⟨rfl,rfl,a2,a3⟩
theorem zu (i:Int) {l:List Bat} (h: ∀ b,b∈l→okB b) (s:List UInt8) (q:Nat):nC i (bt dS l) s q= .ok (⟨i,l⟩,q):=by
 unfold nC
 rw[um l _ (bt dS l) 0 (Du _) (by omega) h List.drop_zero]
 rfl
theorem zw:Sp gb fM vH:=by
 refine⟨fun s q a r hq h=> ?_,fun s t q a hq ha h=> ?_⟩
 ·obtain⟨i,q1,h1,h⟩:=Pr.bind_ok h
  obtain⟨d,q2,h2,h⟩:=Pr.bind_ok h
  obtain⟨rfl,c2,rfl,c4⟩:=zt h
  obtain⟨a1,a2,a3,a4,a5⟩:=(fg 4 (by decide) (by decide)).spell _ _ _ _ hq h1
  obtain⟨b1,b2,b3,b4,b5⟩:=uo.spell _ _ _ _ a2 h2
  refine⟨by omega,b2,by simp only[fM,CW,aA] at *; omega,by rw[b4,a4]; simp only[fM,c2,C2],by rw[c2]; exact a5,b5.1,c4⟩
 ·obtain⟨a1,a2,a3⟩:=ha
  have hl:=congrArg List.length h
  rw[fM,C2] at h
  have g1:=(fg 4 (by decide) (by decide)).back _ _ _ _ hq a1 h
  have h:=bZ h
  have g2:=uo.back _ _ _ _ (by simp only[fM,C0,CW,aA] at *; omega) ⟨a2,rfl⟩ h
  rw[gb,Pr.bind_of g1,Pr.bind_of g2,zu _ a3]
  simp only[fM,CW,Nat.add_assoc]
theorem qV (p:aE) (h:vH p):8≤(fM p).length:=by simp only[fM,CW,aA]; omega
def dh:Pr ax:=oY.bind fun nm=>(kc 4 8 gb).bind fun ps=> .ret ⟨nm,ps⟩
def fz (t:ax):List UInt8:=(be (t.Cx.length:Int) 2++t.Cx)++(be (t.Cj.length:Int) 4++bt fM t.Cj)
def uq (t:ax):Prop:=bu (t.Cx.length:Int) 2=true∧bu (t.Cj.length:Int) 4=true∧ ∀ p,p∈t.Cj→vH p
theorem si:Sp (kc 4 8 gb) (fun l=>be (l.length:Int) 4++bt fM l) (fun l=>bu (l.length:Int) 4=true∧ ∀ p,p∈l→vH p):=yz 4 8 (by decide) (by decide) zw qV
theorem xE:Sp dh fz uq:=by
 refine⟨fun s q a r hq h=> ?_,fun s t q a hq ha h=> ?_⟩
 ·obtain⟨k,q1,h1,h⟩:=Pr.bind_ok h
  obtain⟨v,q2,h2,h⟩:=Pr.bind_ok h
  injection h with h
  obtain⟨rfl,rfl⟩:=Dv h
  obtain⟨a1,a2,a3,a4,a5⟩:=sV.spell _ _ _ _ hq h1
  obtain⟨b1,b2,b3,b4,b5⟩:=si.spell _ _ _ _ a2 h2
  exact⟨by omega,b2,by simp only[fz,CW] at *; omega,by rw[b4,a4]; simp only[fz,C2],a5.1,b5⟩
 ·obtain⟨a1,a2,a3⟩:=ha
  have hl:=congrArg List.length h
  rw[fz,C2] at h
  have g1:=sV.back _ _ _ _ hq ⟨a1,rfl⟩ h
  have h:=bZ h
  have g2:=si.back _ _ _ _ (by simp only[fz,C0,CW,aA] at *; omega) ⟨a2,a3⟩ h
  rw[dh,Pr.bind_of g1,Pr.bind_of g2]
  simp only[Pr.ret,fz,CW,Nat.add_assoc]
theorem qW (t:ax) (h:uq t):6≤(fz t).length:=by simp only[fz,CW,aA]; omega
theorem kL:Sp (kc 4 6 dh) (fun l=>be (l.length:Int) 4++bt fz l) (fun l=>bu (l.length:Int) 4=true∧ ∀ t,t∈l→uq t):=yz 4 6 (by decide) (by decide) xE qW
def mq (v:Int):Pr aw:=(ip 2).bind fun id=>(dQ 2).bind fun a=>(dQ 4).bind fun t=>(kc 4 6 dh).bind fun l=>if pD v ⟨id,a,t,l⟩=0 then .ret ⟨id,a,t,l⟩ else .err (pD v ⟨id,a,t,l⟩)
def nD (r:aw):List UInt8:=(be (cg r.CA) 2++r.CA.data)++(be r.CG 2++(be r.Cz 4++(be (r.Cm.length:Int) 4++bt fz r.Cm)))
def okQ (v:Int) (r:aw):Prop:=(bu (cg r.CA) 2=true∧bh r.CA=true)∧bu r.CG 2=true∧bu r.Cz 4=true∧(bu (r.Cm.length:Int) 4=true∧ ∀ t,t∈r.Cm→uq t)∧pD v r=0
theorem Sp_prq (v:Int):Sp (mq v) nD (okQ v):=by
 refine⟨fun s q a r hq h=> ?_,fun s t q a hq ha h=> ?_⟩
 ·obtain⟨id,q1,h1,h⟩:=Pr.bind_ok h
  obtain⟨ac,q2,h2,h⟩:=Pr.bind_ok h
  obtain⟨tm,q3,h3,h⟩:=Pr.bind_ok h
  obtain⟨l,q4,h4,h⟩:=Pr.bind_ok h
  by_cases hc:pD v ⟨id,ac,tm,l⟩=0
  rotate_left
  ·rw[if_neg hc] at h
   exact nomatch h
  rw[if_pos hc] at h
  injection h with h
  obtain⟨rfl,rfl⟩:=Dv h
  obtain⟨a1,a2,a3,a4,a5⟩:=(fK 2 (by decide) (by decide)).spell _ _ _ _ hq h1
  obtain⟨b1,b2,b3,b4,b5⟩:=(fg 2 (by decide) (by decide)).spell _ _ _ _ a2 h2
  obtain⟨c1,c2,c3,c4,c5⟩:=(fg 4 (by decide) (by decide)).spell _ _ _ _ b2 h3
  obtain⟨d1,d2,d3,d4,d5⟩:=kL.spell _ _ _ _ c2 h4
  exact⟨by omega,d2,by simp only[nD,CW] at *; omega,by rw[d4,c4,b4,a4]; simp only[nD,C2],a5,b5,c5,d5,hc⟩
 ·obtain⟨a1,a2,a3,a4,a5⟩:=ha
  have hl:=congrArg List.length h
  simp only[nD,C2] at h
  rw[← C2] at h
  simp only[nD,C0,CW,aA] at hl
  have g1:=(fK 2 (by decide) (by decide)).back _ _ _ _ hq a1 h
  have h:=bZ h
  have g2:=(fg 2 (by decide) (by decide)).back _ _ _ _ (by simp only[CW,aA] at *; omega) a2 h
  have h:=bZ h
  have g3:=(fg 4 (by decide) (by decide)).back _ _ _ _ (by simp only[CW,aA] at *; omega) a3 h
  have h:=bZ h
  rw[← C2] at h
  have g4:=kL.back _ _ _ _ (by simp only[CW,aA] at *; omega) a4 h
  rw[mq,Pr.bind_of g1,Pr.bind_of g2,Pr.bind_of g3,Pr.bind_of g4,if_pos a5]
  simp only[Pr.ret,nD,CW,Nat.add_assoc]
theorem wy (n:Nat) (acc:List Bat) (x st:I) (h:st.err≠0):bp (n+1) acc x st=some (acc,x,st):=by
 rw[bp,bw,CS]
 dsimp only
 rw[if_neg h]
 rfl
theorem pp_l1 (s:List UInt8) (hs:s.length≤1000000) (st:I) (h0:st.err=0): ∀ (n fuel:Nat) (acc:List Bat) (q:Nat),q≤s.length→s.length - q≤n→s.length - q+1<fuel→acc.length+(s.length - q)≤1000000 →
 (∃ e acc' x,kQ n s q= .error e∧e≠0∧bp fuel acc ⟨s.drop q,q,0⟩ st=some (acc',x,cE st e))∨(∃ l x,kQ n s q= .ok (l,s.length)∧bp fuel acc ⟨s.drop q,q,0⟩ st=some (acc++l,x,st))
 | n,0,acc,q,hq,hn,hf,_=>absurd hf (by omega)
 | n,fuel+1,acc,q,hq,hn,hf,ha=>by
  have hd:(s.drop q).length=s.length - q:=C0
  rw[bp,bw,CS]
  dsimp only
  rw[if_pos h0,m5,CS]
  dsimp only
  by_cases he:q=s.length
  ·rw[if_neg (by omega),CS]
   dsimp only
   rw[if_neg (by decide)]
   refine .inr ⟨[],_,?_,by rw[DE]⟩
   cases n with
   | zero=>rw[he]; rfl
   | succ n=>rw[he]; exact if_pos rfl
  rw[if_pos (by omega),CS]
  dsimp only
  rw[if_pos rfl]
  cases n with
  | zero=>omega
  | succ n =>
  unfold kQ
  rw[if_neg he]
  rcases B_bat.run s q hs hq with⟨e,st2,p1,g1,x1,y1⟩ | ⟨b,r,p1,g1,n1,l1⟩
  ·refine .inl ⟨e,acc ++ [zBat],st2,by rw[Pr.bind_err p1],by rw[← x1]; exact y1,?_⟩
   rw[g1,CS]
   dsimp only
   rw[if_pos (by omega),bw,CS]
   dsimp only
   rw[if_neg y1,dV,CS,CS,x1]
   have hfl:fuel=(fuel - 1)+1:=by omega
   rw[hfl]
   refine wy _ _ _ _ ?_
   rw[cE,if_pos h0]
   show e≠0
   rw[← x1]; exact y1
  ·have a3:=(s8.spell s q b r hq p1)
   have hp:=kn a3.2.2.2.2
   have a4:=a3.2.2.1
   rw[g1,CS]
   dsimp only
   rw[if_pos (by omega),bw,CS]
   dsimp only
   rw[if_pos rfl,CS]
   rcases pp_l1 s hs st h0 n fuel (acc ++ [b]) r l1 (by omega) (by omega) (by rw[CW,DV]; omega) with⟨e,acc',x,q1,q2,q3⟩ | ⟨l,x,q1,q2⟩
   ·exact .inl ⟨e,acc',x,by rw[Pr.bind_of p1,Pr.bind_err q1],q2,q3⟩
   ·exact .inr ⟨b::l,x,by rw[Pr.bind_of p1,Pr.bind_of q1]; rfl,by rw[q2,C2]; rfl⟩
theorem xF (s:List UInt8) (hs:s.length≤1000000) (q:Nat) (hq:q≤s.length) :
 (∃ e p st,gb s q= .error e∧ew ⟨s.drop q,q,0⟩=some (p,st)∧st.err=e∧e≠0)∨(∃ p r,gb s q= .ok (p,r)∧ew ⟨s.drop q,q,0⟩=some (p,⟨s.drop r,r,0⟩)∧q≤r∧r≤s.length):=by
 have dead: ∀ (i:Int) (d:List UInt8) (st:I),d.length≤1000000→st.err≠0→((rf d).bind fun st18=>(bp (((st18.rest.length:Int)+(st.rest.length:Int)+1).toNat+1) [] st18 st).bind fun (y73,st76,st77)=>some ((⟨i,y73⟩:aE),st77))=some (⟨i,[]⟩,st):=by
  intro i d st hd h
  rw[iC _ (by omega),CS,wy _ _ _ _ h]
  rfl
 unfold ew
 rcases Q4.run s q hq with⟨e,st,p1,g1,x1,y1⟩ | ⟨i,q1,p1,g1,n1,l1⟩
 ·refine .inl ⟨e,⟨0,[]⟩,st,Pr.bind_err p1,?_,x1,by rw[← x1]; exact y1⟩
  rw[g1,CS]
  dsimp only
  rw[tS y1,CS]
  dsimp only
  rw[if_neg (by decide),CS]
  exact dead 0 [] st (by decide) y1
 rw[g1,CS]
 dsimp only
 rcases QF4.run s q1 l1 with⟨e,st,p2,g2,x2,y2⟩ | ⟨b,q2,p2,g2,n2,l2⟩
 ·refine .inl ⟨e,⟨i,[]⟩,st,by rw[gb,Pr.bind_of p1,Pr.bind_err]; rw[jN,eZ,Pr.bind_err p2],?_,x2,by rw[← x2]; exact y2⟩
  rw[g2,CS]
  dsimp only
  rw[if_neg (by decide),CS]
  exact dead i [] st (by decide) y2
 have h2:=(fK 4 (by decide) (by decide)).spell _ _ _ _ l1 p2
 have hbl:b.data.length≤1000000:=by
  have:=h2.2.2.1
  rw[CW] at this
  omega
 rw[g2,CS]
 dsimp only
 by_cases hb:b.null=true
 ·refine .inl ⟨4,⟨i,[]⟩,⟨s.drop q2,q2,4⟩,by rw[gb,Pr.bind_of p1,Pr.bind_err]; rw[jN,eZ,Pr.bind_of p2,if_pos hb]; rfl,?_,rfl,by decide⟩
  rw[if_pos hb,dV,CS,CS,pH]
  exact dead i b.data _ hbl (show (4:Int)≠0 by decide)
 have hx:jN s q1= .ok (b.data,q2):=by
  rw[jN,eZ,Pr.bind_of p2,if_neg hb]
  rfl
 rw[if_neg hb,CS,iC _ (by omega),CS]
 rcases pp_l1 b.data hbl ⟨s.drop q2,q2,0⟩ rfl b.data.length ((((b.data.length:Int))+((s.drop q2).length:Int)+1).toNat+1) [] 0 (Du _) (by omega) (by omega) (by rw[D3]; omega) with⟨e,acc',x,r1,r2,r3⟩ | ⟨l,x,r1,r2⟩
 ·rw[List.drop_zero] at r3
  refine .inl ⟨e,⟨i,acc'⟩,⟨s.drop q2,q2,e⟩,?_,?_,rfl,r2⟩
  ·rw[gb,Pr.bind_of p1,Pr.bind_of hx,nC,r1]
   rfl
  ·rw[r3]
   rfl
 ·rw[List.drop_zero] at r2
  refine .inr ⟨⟨i,l⟩,q2,?_,?_,by omega,l2⟩
  ·rw[gb,Pr.bind_of p1,Pr.bind_of hx,nC,r1]
   rfl
  ·rw[r2]
   rfl
def zQ:aw:=⟨⟨false,[]⟩,0,0,[]⟩
theorem Ae {p:aE} (h:vH p) (hl:(fM p).length≤1000000):gdP p:=by
 have h1:=sg h.2.2
 simp only[fM,CW,aA] at hl
 refine⟨ka h.1,by omega,fun b hb=>qL (h.2.2 b hb) ?_⟩
 have:=fq (enc:=dS) _ b hb
 omega
theorem Af {t:ax} (h:uq t) (hl:(fz t).length≤1000000):gdT t:=by
 have h1:=jx (ok:=vH) qV t.Cj h.2.2
 simp only[fz,CW,aA] at hl
 refine⟨by omega,by omega,fun p hp=>Ae (h.2.2 p hp) ?_⟩
 have:=fq (enc:=fM) t.Cj p hp
 omega
theorem vJ {a:Bl} {k t:Int} {l:List ax} (ht:bu t 4=true) (h: ∀ x,x∈l→uq x) (hl:(bt fz l).length≤1000000):gdQ ⟨a,k,t,l⟩:=by
 have h1:=jx (ok:=uq) qW l h
 refine⟨ka ht,by show l.length*40≤ _; omega,fun x hx=>Af (h x hx) ?_⟩
 have:=fq (enc:=fz) l x hx
 omega
theorem Ag {v:Int} {r:aw} (h:okQ v r) (hl:(nD r).length≤1000000):gdQ r:=by
 simp only[nD,CW,aA] at hl
 exact vJ h.2.2.1 h.2.2.2.1.2 (by omega)
theorem qr_l2 (n:Int) (s:List UInt8) (hs:s.length≤1000000) (hn:n≤1000000): ∀ (m fuel k:Nat) (acc:List aE) (q:Nat),((k+m:Nat):Int)=n→m<fuel→q≤s.length→acc.length=k →
 (∃ (e:Int) (st:I),ei gb m s q= .error e∧ba n fuel k acc ⟨s.drop q,q,0⟩=some (.ret (zQ,st))∧st.err=e∧e≠0) ∨
 (∃ l r,ei gb m s q= .ok (l,r)∧ba n fuel k acc ⟨s.drop q,q,0⟩=some (.go (k+m,acc++l,⟨s.drop r,r,0⟩))∧q≤r∧r≤s.length)
 | 0,fuel+1,k,acc,q,h1,h2,h3,h4=> .inr ⟨[],q,rfl,by rw[ba,if_neg (by omega),DE]; rfl,Dy _,h3⟩
 | m+1,fuel+1,k,acc,q,h1,h2,h3,h4=>by
  rw[ba,if_pos (by omega)]
  rcases xF s hs q h3 with⟨e,p,st,p1,g1,x1,y1⟩ | ⟨p,r,p1,g1,n1,l1⟩
  ·refine .inl ⟨e,st,by rw[ei,Pr.bind_err p1],?_,x1,y1⟩
   rw[g1,CS]
   dsimp only
   rw[if_pos (by omega),bw,CS]
   dsimp only
   rw[if_neg (by rw[x1]; exact y1)]
   rfl
  ·rw[g1,CS]
   dsimp only
   rw[if_pos (by omega),bw,CS]
   dsimp only
   rw[if_pos rfl,if_pos (by omega),ei,Pr.bind_of p1]
   rcases qr_l2 n s hs hn m fuel (k+1) (acc ++ [p]) r (by omega) (by omega) l1 (by rw[CW,h4]; rfl) with⟨e,st,r1,r2,r3,r4⟩ | ⟨l,r',r1,r2,r3,r4⟩
   ·exact .inl ⟨e,st,by rw[Pr.bind_err r1],r2,r3,r4⟩
   ·refine .inr ⟨p::l,r',by rw[Pr.bind_of r1]; rfl,?_,by omega,r4⟩
    rw[r2,C2,show k+1+m=k+(m+1) by omega]
    rfl
theorem qr_l1 (n:Int) (s:List UInt8) (hs:s.length≤1000000) (hn:n≤1000000): ∀ (m fuel k:Nat) (acc:List ax) (q:Nat),((k+m:Nat):Int)=n→m<fuel→q≤s.length→acc.length=k →
 (∃ (e:Int) (st:I),ei dh m s q= .error e∧bM n fuel k acc ⟨s.drop q,q,0⟩=some (.ret (zQ,st))∧st.err=e∧e≠0) ∨
 (∃ l r,ei dh m s q= .ok (l,r)∧bM n fuel k acc ⟨s.drop q,q,0⟩=some (.go (k+m,acc++l,⟨s.drop r,r,0⟩))∧q≤r∧r≤s.length)
 | 0,fuel+1,k,acc,q,h1,h2,h3,h4=> .inr ⟨[],q,rfl,by rw[ek,if_neg (by omega),DE]; rfl,Dy _,h3⟩
 | m+1,fuel+1,k,acc,q,h1,h2,h3,h4=>by
  rw[ek,if_pos (by omega)]
  rcases QT.run s q h3 with⟨e,st,p1,g1,x1,y1⟩ | ⟨nm,q1,p1,g1,n1,l1⟩
  ·refine .inl ⟨e,st,by rw[ei,Pr.bind_err (show dh s q= .error e from Pr.bind_err p1)],?_,x1,by rw[← x1]; exact y1⟩
   rw[g1,CS]
   dsimp only
   rw[qv y1 (by decide) (by decide),CS]
   dsimp only
   rw[show (0:Int).toNat+1=0+1 from rfl,ba,if_neg (by decide),CS]
   dsimp only
   rw[bw,CS]
   dsimp only
   rw[if_neg y1]
   rfl
  rw[g1,CS]
  dsimp only
  rcases (wb 4 8 (by decide) (by decide) 4 8 rfl rfl (by decide)).run s q1 l1 with⟨e,st,p2,g2,x2,y2⟩ | ⟨c,q2,p2,g2,n2,l2⟩
  ·refine .inl ⟨e,st,by rw[ei,Pr.bind_err]; rw[dh,Pr.bind_of p1,Pr.bind_err]; rw[kc,Pr.bind_err p2],?_,x2,by rw[← x2]; exact y2⟩
   rw[g2,CS]
   dsimp only
   rw[show (0:Int).toNat+1=0+1 from rfl,ba,if_neg (by decide),CS]
   dsimp only
   rw[bw,CS]
   dsimp only
   rw[if_neg y2]
   rfl
  obtain⟨c1,c2,c3,c4,c5,c6⟩:=kb (by decide) (by decide) l1 p2
  have c2:=c2 (by decide)
  rw[g2,CS]
  dsimp only
  rcases qr_l2 c s hs (by omega) c.toNat (c.toNat+1) 0 [] q2 (by omega) (by omega) l2 rfl with⟨e,st,r1,r2,r3,r4⟩ | ⟨ps,q3,r1,r2,r3,r4⟩
  ·refine .inl ⟨e,st,by rw[ei,Pr.bind_err]; rw[dh,Pr.bind_of p1,Pr.bind_err]; rw[kc,Pr.bind_of p2,r1],?_,r3,r4⟩
   rw[r2]
   rfl
  have ht:dh s q= .ok (⟨nm,ps⟩,q3):=by
   rw[dh,Pr.bind_of p1,Pr.bind_of (a:=ps) (r:=q3) (by rw[kc,Pr.bind_of p2,r1])]
   rfl
  rw[r2,CS]
  dsimp only
  rw[bw,CS]
  dsimp only
  rw[if_pos rfl,if_pos (by omega),if_pos (by omega),Db,ei,Pr.bind_of ht]
  rcases qr_l1 n s hs hn m fuel (k+1) (acc ++ [⟨nm,ps⟩]) q3 (by omega) (by omega) r4 (by rw[CW,h4]; rfl) with⟨e,st,s1,s2,s3,s4⟩ | ⟨l,r',s1,s2,s3,s4⟩
  ·exact .inl ⟨e,st,by rw[Pr.bind_err s1],s2,s3,s4⟩
  ·refine .inr ⟨⟨nm,ps⟩::l,r',by rw[Pr.bind_of s1]; rfl,?_,by omega,s4⟩
   rw[s2,C2,show k+1+m=k+(m+1) by omega]
   rfl
theorem B_prq (v:Int):CB (fun st=>cU st v) (mq v) zQ:=by
 have tail: ∀ (b:Bl) (a t:Int) (st:I),st.err≠0→((iD st).bind fun (x121,st122)=>(if x121=0 then ((aT (⟨b,a,t,[]⟩:aw) v).bind fun x138=>(if x138=0 then some st122 else ((bE st122 x138).bind fun st146=>some st146)).bind fun st143=>some st143) else some st122).bind fun st135=>(iD st135).bind fun (x148,st149)=>if x148=0 then (some ((⟨b,a,t,[]⟩:aw),st149)) else (some ((⟨(⟨false,[]⟩:Bl),0,0,[]⟩:aw),st149)))=some (zQ,st):=by
  intro b a t st h
  rw[bw,CS]
  dsimp only
  rw[if_neg h,CS,bw,CS]
  dsimp only
  rw[if_neg h]
  rfl
 have dead: ∀ (b:Bl) (a t:Int) (st:I),st.err≠0→((il st 4 6).bind fun (x12,st13)=>(bM x12 ((x12).toNat+1) 0 [] st13).bind fun e=>match e with | .ret r=>some r | .go (k116,y117,st120)=>((iD st120).bind fun (x121,st122)=>(if x121=0 then ((aT (⟨b,a,t,y117⟩:aw) v).bind fun x138=>(if x138=0 then some st122 else ((bE st122 x138).bind fun st146=>some st146)).bind fun st143=>some st143) else some st122).bind fun st135=>(iD st135).bind fun (x148,st149)=>if x148=0 then (some ((⟨b,a,t,y117⟩:aw),st149)) else (some ((⟨(⟨false,[]⟩:Bl),0,0,[]⟩:aw),st149))))=some (zQ,st):=by
  intro b a t st h
  rw[qv h (by decide) (by decide),CS]
  dsimp only
  rw[show (0:Int).toNat+1=0+1 from rfl,ek,if_neg (by decide),CS]
  exact tail b a t st h
 refine⟨fun st h=> ?_,fun s q hs hq=> ?_⟩
 ·show cU st v= _
  unfold cU
  rw[tS h,CS]
  dsimp only
  rw[qu h,CS]
  dsimp only
  rw[qu h,CS]
  exact dead _ _ _ st h
 ·show (∃ e st,mq v s q= _∧cU _ v= _∧ _∧ _)∨(∃ a r,mq v s q= _∧cU _ v= _∧ _∧ _)
  unfold cU
  rcases QF2.run s q hq with⟨e,st,p1,g1,x1,y1⟩ | ⟨b,q1,p1,g1,n1,l1⟩
  ·refine .inl ⟨e,st,Pr.bind_err p1,?_,x1,y1⟩
   rw[g1,CS]
   dsimp only
   rw[qu y1,CS]
   dsimp only
   rw[qu y1,CS]
   exact dead _ _ _ st y1
  rw[g1,CS]
  dsimp only
  rcases Q2.run s q1 l1 with⟨e,st,p2,g2,x2,y2⟩ | ⟨a,q2,p2,g2,n2,l2⟩
  ·refine .inl ⟨e,st,by rw[mq,Pr.bind_of p1,Pr.bind_err p2],?_,x2,y2⟩
   rw[g2,CS]
   dsimp only
   rw[qu y2,CS]
   exact dead _ _ _ st y2
  rw[g2,CS]
  dsimp only
  rcases Q4.run s q2 l2 with⟨e,st,p3,g3,x3,y3⟩ | ⟨t,q3,p3,g3,n3,l3⟩
  ·refine .inl ⟨e,st,by rw[mq,Pr.bind_of p1,Pr.bind_of p2,Pr.bind_err p3],?_,x3,y3⟩
   rw[g3,CS]
   exact dead _ _ _ st y3
  rw[g3,CS]
  dsimp only
  rcases (wb 4 6 (by decide) (by decide) 4 6 rfl rfl (by decide)).run s q3 l3 with⟨e,st,p4,g4,x4,y4⟩ | ⟨c,q4,p4,g4,n4,l4⟩
  ·refine .inl ⟨e,st,by rw[mq,Pr.bind_of p1,Pr.bind_of p2,Pr.bind_of p3,Pr.bind_err]; rw[kc,Pr.bind_err p4],?_,x4,y4⟩
   have:=dead b a t st y4
   rw[qv y4 (by decide) (by decide)] at this
   rw[g4]
   exact this
  obtain⟨c1,c2,c3,c4,c5,c6⟩:=kb (by decide) (by decide) l3 p4
  have c2:=c2 (by decide)
  rw[g4,CS]
  dsimp only
  rcases qr_l1 c s hs (by omega) c.toNat (c.toNat+1) 0 [] q4 (by omega) (by omega) l4 rfl with⟨e,st,r1,r2,r3,r4⟩ | ⟨l,q5,r1,r2,r3,r4⟩
  ·refine .inl ⟨e,st,by rw[mq,Pr.bind_of p1,Pr.bind_of p2,Pr.bind_of p3,Pr.bind_err]; rw[kc,Pr.bind_of p4,r1],?_,r3,by rw[r3]; exact r4⟩
   rw[r2]
   rfl
  have hl:kc 4 6 dh s q3= .ok (l,q5):=by rw[kc,Pr.bind_of p4,r1]
  obtain⟨d1,d2,d3,d4,d5⟩:=kL.spell _ _ _ _ l3 hl
  obtain⟨t1,t2,t3,t4,t5⟩:=(fg 4 (by decide) (by decide)).spell _ _ _ _ l2 p3
  rw[CW,aA] at d3
  have hg:gdQ ⟨b,a,t,l⟩:=vJ t5 d5.2 (by omega)
  rw[r2,CS]
  dsimp only
  rw[bw,CS]
  dsimp only
  rw[if_pos rfl,Db,pcheck _ v hg,CS,mq,Pr.bind_of p1,Pr.bind_of p2,Pr.bind_of p3,Pr.bind_of hl]
  by_cases hc:pD v ⟨b,a,t,l⟩=0
  ·rw[if_pos hc,if_pos hc]
   exact .inr ⟨_,q5,rfl,rfl,by omega,r4⟩
  ·rw[if_neg hc,if_neg hc,dV,pH]
   refine .inl ⟨_,⟨s.drop q5,q5,pD v ⟨b,a,t,l⟩⟩,rfl,?_,rfl,hc⟩
   rw[CS,CS,CS,bw,CS]
   dsimp only
   rw[if_neg hc]
   rfl
def vI (s:List UInt8) (q k:Nat):Int:=bk ((s.drop q).take k)
def vals (s:List UInt8):List Nat→Nat→List Int
 | [],_ => []
 | k::ks,q=>vI s q k::vals s ks (q+k)
theorem qX (s:List UInt8): ∀ (ks:List Nat) (q:Nat),q+ks.sum≤s.length→mv ks s q= .ok (vals s ks q,q+ks.sum)
 | [],q,_=>rfl
 | k::ks,q,h=>by
  rw[List.sum_cons] at h
  have h1:dQ k s q= .ok (vI s q k,q+k):=by unfold dQ; rw[if_neg (by omega)]; rfl
  rw[mv,Pr.bind_of h1,Pr.bind_of (qX s ks (q+k) (by omega)),List.sum_cons,← Nat.add_assoc]
  rfl
theorem o8 (s:List UInt8): ∀ (ks:List Nat) (q:Nat),q≤s.length→s.length<q+ks.sum→mv ks s q= .error 1
 | [],q,h1,h2=>by rw[List.sum_nil] at h2; omega
 | k::ks,q,h1,h2=>by
  rw[List.sum_cons] at h2
  rw[mv]
  by_cases h:s.length<q+k
  ·exact Pr.bind_err (by unfold dQ; rw[if_pos h])
  ·have h3:dQ k s q= .ok (vI s q k,q+k):=by unfold dQ; rw[if_neg h]; rfl
   rw[Pr.bind_of h3,Pr.bind_err (o8 s ks (q+k) (by omega) (by omega))]
def pOf (s:List UInt8):Pfx:=⟨vI s 0 8,vI s 8 4,vI s 12 4,vI s 17 4 % 4294967296,vI s 21 2,vI s 23 4,vI s 27 8,vI s 35 8,vI s 43 8,vI s 51 2,vI s 53 4,vI s 57 4⟩
def eOf (s:List UInt8):Int:=ckE (vI s 8 4) (vI s 16 1) (vI s 57 4)
theorem Ah (s:List UInt8) (h:61≤s.length):qw s 0=if eOf s=0 then .ok (pOf s,61) else .error (eOf s):=by
 rw[qw,Pr.bind_of (qX s KS 0 (by show 0+61≤ _; omega))]
 show (if eOf s=0 then Pr.ret (pOf s) else Pr.err (eOf s)) s 61= _
 by_cases he:eOf s=0
 ·rw[if_pos he,if_pos he]; rfl
 ·rw[if_neg he,if_neg he]; rfl
theorem xG (s:List UInt8) (h:61≤s.length):okI KS (vals s KS 0):=((l8 KS tT).spell s 0 _ _ (Du _) (qX s KS 0 (by show 0+61≤ _; omega))).2.2.2.2
theorem r10_at (s:List UInt8) (a k:Nat) (h:a+k≤s.length) (hk:k≤8) (hl:s.length≤1000000):dl s (a:Int) (k:Int)=some (vI s a k):=by
 unfold dl
 rw[if_pos (by omega),if_pos (by omega),show ((a:Int)+(k:Int)).toNat - (a:Int).toNat=k by omega,Dg,gh _ (by rw[Dt]; omega)]
 rfl
theorem vK (s:List UInt8) (h:61≤s.length) (hl:s.length≤1000000):eK s=some (if eOf s=0 then (du (pOf s),0) else ([],eOf s)):=by
 have hf:=(xG s h).2.2.2.2.1
 have hs:bu (vI s 17 4) 4=true:=hf
 rw[ik] at hs
 have hs:=of_decide_eq_true hs
 have hy:(if vI s 17 4<0 then (if -9223372036854775808≤(vI s 17 4+4294967296)∧(vI s 17 4+4294967296)≤9223372036854775807 then some (vI s 17 4+4294967296) else none) else some (vI s 17 4))=some (vI s 17 4 % 4294967296):=by
  by_cases q:vI s 17 4<0
  ·rw[if_pos q,if_pos (by omega)]; congr 1; omega
  ·rw[if_neg q]; congr 1; omega
 unfold eK
 rw[if_neg (by omega)]
 have A:=fun (a k:Nat) (h1:a+k≤61) (h2:k≤8)=>r10_at s a k (by omega) h2 hl
 have a1:=A 17 4 (by decide) (by decide)
 have a2:=A 0 8 (by decide) (by decide)
 have a3:=A 8 4 (by decide) (by decide)
 have a4:=A 12 4 (by decide) (by decide)
 have a5:=A 21 2 (by decide) (by decide)
 have a6:=A 23 4 (by decide) (by decide)
 have a7:=A 27 8 (by decide) (by decide)
 have a8:=A 35 8 (by decide) (by decide)
 have a9:=A 43 8 (by decide) (by decide)
 have a10:=A 51 2 (by decide) (by decide)
 have a11:=A 53 4 (by decide) (by decide)
 have a12:=A 57 4 (by decide) (by decide)
 have a13:=A 16 1 (by decide) (by decide)
 simp only[Int.cast_ofNat_Int] at a1 a2 a3 a4 a5 a6 a7 a8 a9 a10 a11 a12 a13
 rw[a1,CS,hy,CS,a2,CS,a3,CS,a4,CS,a5,CS,a6,CS,a7,CS,a8,CS,a9,CS,a10,CS,a11,CS,a12,CS,a13,CS]
 unfold eOf ckE
 by_cases h1:vI s 16 1=2
 ·rw[if_pos h1,if_pos h1]
  show ((some (vI s 8 4)).bind _)= _
  rw[CS]
  by_cases h2:vI s 8 4<49
  ·rw[if_pos h2,if_pos h2,if_neg (by decide)]
  ·rw[if_neg h2,if_neg h2]
   show ((some (vI s 57 4)).bind _)= _
   rw[CS]
   by_cases h3:vI s 57 4<0
   ·rw[if_pos h3,if_pos h3,if_neg (by decide)]
   ·rw[if_neg h3,if_neg h3,if_pos rfl]
    rfl
 ·rw[if_neg h1,if_neg h1,if_neg (by decide)]
def fzB:Bat:=⟨0,0,false,false,false,0,0,0,0,0,0,[]⟩
theorem wz (x2:List Int) (n:Int) (h11:x2[11]? = some n) (hn:n≤4294967296) (s:List UInt8) (hs:s.length≤1000000): ∀ (m k fuel:Nat) (acc:List Rec) (q:Nat),((k+m:Nat):Int)=n→m<fuel→q≤s.length→acc.length+(s.length - q)≤1000000 →
 (∃ e,jz m s q= .error e∧e≠0∧db x2 fuel (s.drop q) k acc=some (.ret ⟨fzB,0,e⟩))∨(∃ l r,jz m s q= .ok (l,r)∧db x2 fuel (s.drop q) k acc=some (.go (s.drop r,k+m,acc++l)))
 | 0,k,fuel+1,acc,q,h1,h2,h3,h4=> .inr ⟨[],q,rfl,by rw[db,h11,CS,if_neg (by omega),DE]; rfl⟩
 | m+1,k,fuel+1,acc,q,h1,h2,h3,h4=>by
  have hd:(s.drop q).length=s.length - q:=C0
  rw[db,h11,CS,if_pos (by omega)]
  by_cases hq:q=s.length
  ·refine .inl ⟨10,Pr.bind_err (if_pos hq),by decide,?_⟩
   rw[if_pos (by rw[hq,List.drop_length])]
   rfl
  have h0:ud s q= .ok ((),q):=if_neg hq
  rw[if_neg (by intro h; rw[h,D3] at hd; omega)]
  rcases yK s q h3 hs with⟨e,m',p1,e0,g⟩ | ⟨x,r,p1,n1,l1,g⟩
  ·refine .inl ⟨e,by rw[jz,Pr.bind_of h0,Pr.bind_err p1],e0,?_⟩
   rw[g,CS,if_neg e0]
   rfl
  ·have a3:=(sX.spell s q x r h3 p1).2.2.1
   have a4:=kC x
   rw[g,CS,if_pos rfl,if_pos (by omega),if_pos (by dsimp only; rw[Dg]; omega),if_pos (by omega)]
   dsimp only
   rw[Dg,Dq,show q+(r - q)=r by omega]
   rcases wz x2 n h11 hn s hs m (k+1) fuel (acc ++ [x]) r (by omega) (by omega) l1 (by rw[CW,DV]; omega) with⟨e,q1,q2,q3⟩ | ⟨l,r',q1,q2⟩
   ·exact .inl ⟨e,by rw[jz,Pr.bind_of h0,Pr.bind_of p1,Pr.bind_err q1],q2,q3⟩
   ·refine .inr ⟨x::l,r',by rw[jz,Pr.bind_of h0,Pr.bind_of p1,Pr.bind_of q1]; rfl,?_⟩
    rw[q2,C2,show k+1+m=k+(m+1) by omega]
    rfl
theorem be_low (n:Int): ∃ a b,be n 2 = [a,b]∧(b.toNat:Int) % 8=n % 8:=by
 refine⟨_,_,rfl,?_⟩
 rw[UInt8.toNat_ofNat']
 rw[Int.pow_zero,Int.ediv_one]
 omega
theorem xH {s:List UInt8} {p:Pfx} (hl:(jl p).length=61) (hd:s.take 61=jl p) (h61:61≤s.length) (L:Nat) (hL:49≤L):(s.drop 21).take (L+12 - 21)=dU p++(s.drop 61).take (L - 49):=by
 have e1:s=jl p++s.drop 61:=by rw[← hd,List.take_append_drop]
 have h40:(dU p).length=40:=by rw[← kd p,C0,hl]
 have e2:s.drop 21=dU p++s.drop 61:=by
  conv=>lhs; rw[e1]
  rw[wl,C2,← rY p,List.drop_left]
 rw[e2,show L+12 - 21=(dU p).length+(L - 49) by omega,List.take_length_add_append]
theorem attr_y {n:Int} (h8:n % 8=0):((if n<0 then some true else (if n>63 then some true else (if n≥32 then (if 0≤n∧n≤9223372036854775807 then (if (n % 32)<16 then some true else some false) else none) else some false))):Option Bool)=some (decide (bX n≠0)):=by
 unfold bX
 rw[if_neg (show ¬ (n % 8≠0) by omega)]
 by_cases c1:n<0
 ·rw[if_pos c1,if_pos (.inl c1)]; rfl
 by_cases c2:n>63
 ·rw[if_neg c1,if_pos c2,if_pos (.inr (.inl (by omega)))]; rfl
 rw[if_neg c1,if_neg c2]
 have h2:n=0∨n=8∨n=16∨n=24∨n=32∨n=40∨n=48∨n=56:=by omega
 rcases h2 with rfl | rfl | rfl | rfl | rfl | rfl | rfl | rfl <;> decide
theorem ur {n:Int} (h:bX n=0):n % 8=0∧0≤n∧n≤63:=by
 unfold bX at h
 split at h
 ·cases h
 ·split at h
  ·cases h
  ·omega
theorem zx {n:Int} (h8:n % 8=0) (h:bX n≠0):bX n=8:=by
 unfold bX at h ⊢
 rw[if_neg (by omega)] at h ⊢
 split at h
 ·rename_i g; rw[if_pos g]
 ·exact absurd rfl h
theorem bits_d {n:Int} (h:bX n=0):decide (n / 8 % 2=1)=cL n 3∧decide (n / 16 % 2=1)=cL n 4∧decide (n / 32=1)=cL n 5:=by
 obtain⟨h1,h2,h3⟩:=ur h
 have h2:n=0∨n=8∨n=16∨n=24∨n=32∨n=40∨n=48∨n=56:=by omega
 rcases h2 with rfl | rfl | rfl | rfl | rfl | rfl | rfl | rfl <;> decide
theorem zy (s:List UInt8) (hs:s.length≤1000000):(∃ e,nx s 0= .error e∧e≠0∧fT s=some ⟨fzB,0,e⟩)∨(∃ b r,nx s 0= .ok (b,r)∧r≤s.length∧fT s=some ⟨b,(r:Int),0⟩):=by
 by_cases h61:61≤s.length
 rotate_left
 ·have hF:eK s=some ([],1):=by unfold eK; rw[if_pos (by omega)]
  have hp:qw s 0= .error 1:=Pr.bind_err (o8 s KS 0 (Du _) (by show _<0+61; omega))
  refine .inl ⟨1,by unfold nx; rw[hp],by decide,?_⟩
  unfold fT
  rw[hF]
  rfl
 have hp:=Ah s h61
 have hB:nx s 0=nx s 0:=rfl
 conv at hB=>rhs; unfold nx; rw[hp]
 unfold fT
 rw[vK s h61 hs,CS]
 by_cases h0:eOf s=0
 rotate_left
 ·rw[if_neg h0] at hB
  rw[if_neg h0]
  dsimp only
  rw[if_neg h0]
  exact .inl ⟨_,hB,h0,rfl⟩
 rw[if_pos h0] at hp hB
 rw[if_pos h0]
 obtain⟨a1,a2,a3,a4,ap⟩:=qx.spell s 0 _ _ (Du _) hp
 rw[List.take_zero,Db] at a4
 obtain⟨k1,k2,k3,k4⟩:=id ap
 have hL:=wI4 k1.2.1
 have hA:=wI2 k1.2.2.2.2.2.1
 have hC:=wI4 k1.2.2.2.2.2.2.2.2.2.2.2.2.1
 have hl61:=lL k1
 generalize pOf s=p at *
 try dsimp only at hL hA hC
 dsimp only at hB ⊢
 rw[if_pos rfl,show (du p)[1]? = some p.CF from rfl,CS,if_pos (by omega)]
 by_cases hl:s.length<61+(p.CF - 49).toNat
 ·rw[if_pos hl] at hB
  rw[if_pos (by omega)]
  exact .inl ⟨1,hB,by decide,rfl⟩
 rw[if_neg hl] at hB
 rw[if_neg (by omega),show (du p)[3]? = some p.CL from rfl,CS,if_pos (by omega),wj _ (by rw[Dt,C0]; omega),CS]
 have hsp:=xH hl61 a4 h61 p.CF.toNat (by omega)
 rw[show p.CF.toNat+12 - 21=(p.CF+12).toNat - 21 by omega,show p.CF.toNat - 49=(p.CF - 49).toNat by omega] at hsp
 rw[hsp]
 have hlt:jL 0 (dU p++(s.drop 61).take (p.CF - 49).toNat)<4294967296:=pN (by decide) _
 rw[if_pos (by omega)]
 by_cases hsum:((vv p ((s.drop 61).take (p.CF - 49).toNat):Nat):Int)=p.CL
 rotate_left
 ·rw[if_neg hsum] at hB
  rw[if_neg (show ¬ (((jL 0 (dU p++(s.drop 61).take (p.CF - 49).toNat):Nat):Int)=p.CL) from hsum)]
  exact .inl ⟨5,hB,by decide,rfl⟩
 rw[if_pos hsum] at hB
 rw[if_pos (show ((jL 0 (dU p++(s.drop 61).take (p.CF - 49).toNat):Nat):Int)=p.CL from hsum),show (du p)[4]? = some p.CJ from rfl,CS,eD _ _ (by omega),CS]
 obtain⟨ca,cb,hc1,hc2⟩:=be_low p.CJ
 rw[show (2:Int).toNat=2 from rfl,hc1,show ([ca,cb]:List UInt8)[1]? = some cb from rfl,CS,if_pos (by omega),hc2]
 unfold lN at hB
 by_cases h8:p.CJ % 8=0
 rotate_left
 ·have hk:bX p.CJ=9:=if_pos h8
  rw[if_neg (by rw[hk]; decide),hk] at hB
  rw[if_neg h8]
  exact .inl ⟨9,hB,by decide,rfl⟩
 rw[if_pos h8,attr_y h8,CS]
 by_cases hk:bX p.CJ=0
 rotate_left
 ·rw[if_neg hk,zx h8 hk] at hB
  rw[if_pos (CN hk)]
  exact .inl ⟨8,hB,by decide,rfl⟩
 obtain⟨b1,b2,b3⟩:=bits_d hk
 have hr:=ur hk
 rw[if_pos hk] at hB
 rw[if_neg (by rw[decide_eq_true_eq]; exact fun h=>h hk)]
 rw[show (du p)[0]? = some p.Cu from rfl,CS,show (du p)[2]? = some p.Co from rfl,CS,show (du p)[5]? = some p.Cr from rfl,CS,show (du p)[6]? = some p.Cl from rfl,CS,show (du p)[7]? = some p.Cy from rfl,CS,show (du p)[8]? = some p.Ci from rfl,CS,show (du p)[9]? = some p.Cp from rfl,CS,show (du p)[10]? = some p.Ch from rfl,CS]
 rw[if_pos (by omega),if_pos (by omega),if_pos (by omega),if_pos (by omega),if_pos (by omega),if_pos (by omega)]
 rw[show (((du p)[11]?).map (fun x81=>(x81).toNat+1)).getD 0=p.CK.toNat+1 from rfl,show (p.CF+12).toNat - 61=(p.CF - 49).toNat by omega]
 simp only[ite_self,b1,b2,b3]
 have hn:((s.drop 61).take (p.CF - 49).toNat).length=(p.CF - 49).toNat:=by rw[Dt,C0]; omega
 generalize (s.drop 61).take (p.CF - 49).toNat=b at hn hB
 rcases wz (du p) p.CK rfl (by omega) b (by omega) p.CK.toNat 0 (p.CK.toNat+1) [] 0 (by omega) (by omega) (Du _) (by rw[D3]; omega) with⟨e,q1,q2,q3⟩ | ⟨l,r,q1,q2⟩
 ·rw[List.drop_zero] at q3
  rw[q1] at hB
  rw[q3]
  exact .inl ⟨e,hB,q2,rfl⟩
 ·obtain⟨s1,s2,s3,s4,s5⟩:=kD _ b 0 l r (Du _) q1
  rw[List.drop_zero] at q2
  rw[q1] at hB
  rw[q2,CS]
  dsimp only at hB ⊢
  by_cases hl2:r<b.length
  ·rw[if_pos hl2] at hB
   rw[if_neg (by intro h; have:=congrArg List.length h; rw[C0,D3] at this; omega)]
   exact .inl ⟨10,hB,by decide,rfl⟩
  rw[List.take_of_length_le (by omega),List.take_zero,Db] at s3
  rw[if_neg hl2] at hB
  rw[if_pos (List.drop_eq_nil_of_le (by omega)),Db]
  have hbb:=mT ap s5 (by rw[← s3]; omega)
  rw[show (⟨p.Cu,p.Co,cL p.CJ 3,cL p.CJ 4,cL p.CJ 5,p.Cr,p.Cl,p.Cy,p.Ci,p.Cp,p.Ch,l⟩:Bat)=mkB p l from rfl,(s9 hbb).2,CS]
  by_cases hk2:chk (mkB p l)=0
  ·rw[if_pos hk2] at hB
   rw[if_pos hk2]
   refine .inr ⟨_,_,hB,by omega,?_⟩
   rw[show ((61+(p.CF - 49).toNat:Nat):Int)=p.CF+12 by omega]
  ·rw[if_neg hk2] at hB
   rw[if_neg hk2]
   exact .inl ⟨_,hB,hk2,rfl⟩
theorem wA: ∀ ks:List Nat,(∀ k,k∈ks→1≤k∧k≤8)→Sh (mv ks)
 | [],_=> .ret []
 | k::ks,h=>(Sh_int k).bind (fg k (h k (.head _)).1 (h k (.head _)).2) fun a=>(wA ks (fun j hj=>h j (.tail _ hj))).bind (l8 ks (fun j hj=>h j (.tail _ hj))) fun l=> .ret _
theorem Sh_pfx:Sh qw:=(wA KS tT).bind (l8 KS tT) fun l=>by
 unfold chkP
 split
 ·split
  ·exact .ret _
  ·exact .err _
 ·exact .err _
theorem Sh_bat:Sh nx:=by
 intro s q k h
 have hd:(s.drop q).length=s.length - q:=C0
 unfold nx
 rw[Sh_pfx s q k h]
 cases hx:qw (s.drop q) k with
 | error e=>rfl
 | ok x =>
  obtain⟨p,r⟩:=x
  have a2:=(qx.spell (s.drop q) k p r (by omega) hx).2.1
  show (if s.length<q+r+(p.CF - 49).toNat then Except.error 1 else _)=shift q (if (s.drop q).length<r+(p.CF - 49).toNat then Except.error 1 else _)
  rw[Dq]
  by_cases hl:s.length<q+r+(p.CF - 49).toNat
  ·rw[if_pos hl,if_pos (by omega)]
   rfl
  rw[if_neg hl,if_neg (show ¬ ((s.drop q).length<r+(p.CF - 49).toNat) by omega)]
  generalize (s.drop (q+r)).take (p.CF - 49).toNat=b
  by_cases hs:((vv p b:Nat):Int)=p.CL
  ·rw[if_pos hs,if_pos hs]
   cases lN p b with
   | error e=>rfl
   | ok x=>simp only[shift,Nat.add_assoc]
  ·rw[if_neg hs,if_neg hs]
   rfl
theorem wC (b:List UInt8) (hb:b.length≤1000000): ∀ (n fuel:Nat) (acc:List Bat) (q:Nat),q≤b.length→b.length - q≤n→b.length - q+1<fuel→acc.length+(b.length - q)≤1000000 →
 (∃ e,kQ n b q= .error e∧e≠0∧dG fuel 0 0 (b.drop q) acc=some (.ret ((⟨0,[]⟩:cB),0,e)))∨(∃ l,kQ n b q= .ok (l,b.length)∧dG fuel 0 0 (b.drop q) acc=some (.go (0,0,[],acc++l)))
 | n,0,acc,q,hq,hn,hf,_=>absurd hf (by omega)
 | n,fuel+1,acc,q,hq,hn,hf,ha=>by
  have hd:(b.drop q).length=b.length - q:=C0
  rw[dG]
  by_cases he:q=b.length
  ·have h0:b.drop q = []:=by rw[he,List.drop_length]
   rw[if_pos h0,h0]
   refine .inr ⟨[],?_,by rw[DE]⟩
   cases n with
   | zero=>rw[he]; rfl
   | succ n=>rw[he]; exact if_pos rfl
  rw[if_neg (by intro h; rw[h,D3] at hd; omega)]
  cases n with
  | zero=>omega
  | succ n =>
  unfold kQ
  rw[if_neg he]
  have hsh:=Sh_bat b q 0 (by omega)
  rw[Nat.add_zero] at hsh
  rcases zy (b.drop q) (by omega) with⟨e,p1,e0,g⟩ | ⟨x,r,p1,l1,g⟩
  ·rw[p1] at hsh
   refine .inl ⟨e,by rw[Pr.bind_err hsh],e0,?_⟩
   rw[g,CS,if_neg e0]
  ·rw[p1] at hsh
   have hsp:=s8.spell b q x (q+r) hq hsh
   have hp:=kn hsp.2.2.2.2
   have h3:=hsp.2.2.1
   rw[g,CS,if_pos rfl,if_pos (by omega),if_pos (by dsimp only; rw[Dg]; omega)]
   dsimp only
   rw[Dg,Dq]
   rcases wC b hb n fuel (acc ++ [x]) (q+r) (by omega) (by omega) (by omega) (by rw[CW,DV]; omega) with⟨e,q1,q2,q3⟩ | ⟨l,q1,q2⟩
   ·exact .inl ⟨e,by rw[Pr.bind_of hsh,Pr.bind_err q1],q2,q3⟩
   ·exact .inr ⟨x::l,by rw[Pr.bind_of hsh,Pr.bind_of q1]; rfl,by rw[q2,C2]; rfl⟩
theorem zz (s:List UInt8) (hs:s.length≤1000000) (q:Nat) (hq:q≤s.length) :
 (∃ e,gb s q= .error e∧e≠0∧gS (s.drop q)=some ((⟨0,[]⟩:cB),0,e))∨(∃ p r,gb s q= .ok (p,r)∧q≤r∧r≤s.length∧gS (s.drop q)=some (ofP p,((r - q:Nat):Int),0)):=by
 have hd:(s.drop q).length=s.length - q:=C0
 unfold gS
 by_cases h4:((s.drop q).length:Int)<4
 ·rw[if_pos h4]
  exact .inl ⟨1,Pr.bind_err (by unfold dQ; rw[if_pos (by omega)]),by decide,rfl⟩
 have p1:dQ 4 s q= .ok (bk ((s.drop q).take 4),q+4):=by unfold dQ; rw[if_neg (by omega)]
 rw[if_neg h4,if_pos (by omega),gh _ (by rw[Dt]; omega),CS,if_pos (by omega),Dq,lx _ _ ⟨by decide,by decide,by rw[C0]; omega⟩,CS,show (4:Int).toNat=4 from rfl]
 generalize bk ((s.drop q).take 4)=i at p1
 rcases qt s (q+4) 4 (by decide) (by decide) (by omega) with⟨e,g1,g2,g3⟩ | ⟨b,q2,g1,g2,g3,g4⟩
 ·refine .inl ⟨e,by rw[gb,Pr.bind_of p1,Pr.bind_err]; rw[jN,eZ,Pr.bind_err g1],g2,?_⟩
  rw[g3,if_neg g2]
 rw[g4,if_pos rfl]
 dsimp only
 have h2:=(fK 4 (by decide) (by decide)).spell _ _ _ _ (by omega) g1
 have hbl:b.data.length≤1000000:=by
  have:=h2.2.2.1
  rw[CW] at this
  omega
 by_cases hb:b.null=true
 ·rw[if_pos hb]
  exact .inl ⟨4,by rw[gb,Pr.bind_of p1,Pr.bind_err]; rw[jN,eZ,Pr.bind_of g1,if_pos hb]; rfl,by decide,rfl⟩
 have hx:jN s (q+4)= .ok (b.data,q2):=by
  rw[jN,eZ,Pr.bind_of g1,if_neg hb]
  rfl
 rw[if_neg hb]
 rcases wC b.data hbl b.data.length ((((b.data.length:Int))+1).toNat+1) [] 0 (Du _) (by omega) (by omega) (by rw[D3]; omega) with⟨e,r1,r2,r3⟩ | ⟨l,r1,r2⟩
 ·rw[List.drop_zero] at r3
  refine .inl ⟨e,?_,r2,by rw[r3]; rfl⟩
  rw[gb,Pr.bind_of p1,Pr.bind_of hx,nC,r1]
  rfl
 ·rw[List.drop_zero] at r2
  refine .inr ⟨⟨i,l⟩,q2,?_,by omega,g3,?_⟩
  ·rw[gb,Pr.bind_of p1,Pr.bind_of hx,nC,r1]
   rfl
  ·rw[r2,CS]
   dsimp only
   rw[if_pos (by omega),Db,show ((4:Int)+((q2 - (q+4):Nat):Int))=((q2 - q:Nat):Int) by omega]
   rfl
def zR20:aG:=⟨⟨false,[]⟩,0,0,[]⟩
theorem sj (s:List UInt8) (q:Nat) (hq:q≤s.length) (hs:s.length≤1000000) (each:Nat) (he:1≤each):fm (s.drop q) (each:Int)=some (match gq 4 each s q with | .error e=>(0,e) | .ok (n,_)=>(n,0)):=by
 have hd:(s.drop q).length=s.length - q:=C0
 unfold fm gq
 by_cases h4:((s.drop q).length:Int)<4
 ·rw[if_pos h4,Pr.bind_err (e:=1) (by unfold dQ; rw[if_pos (by omega)])]
 ·rw[if_neg h4,if_pos (by omega),gh _ (by rw[Dt]; omega),Pr.bind_of (a:=bk ((s.drop q).take 4)) (r:=q+4) (by unfold dQ; rw[if_neg (by omega)])]
  simp only[CS]
  generalize bk ((s.drop q).take 4)=n
  unfold jd
  by_cases hn:n<0
  ·rw[if_pos hn,if_pos hn]
  ·rw[if_neg hn,if_neg hn,if_pos (by omega),if_pos (by omega),show ((s.drop q).length:Int) - 4=((s.length - (q+4):Nat):Int) by omega]
   by_cases hc:n>((s.length - (q+4):Nat):Int) / (each:Int)
   ·rw[if_pos hc,if_pos ⟨by omega,hc⟩]
   ·rw[if_neg hc,if_neg (fun h=>hc h.2)]
theorem o9 {each:Nat} {s:List UInt8} {q:Nat} {e:Int} (h:gq 4 each s q= .error e):e≠0:=by
 unfold gq at h
 cases hp:dQ 4 s q with
 | error e' =>
  rw[Pr.bind_err hp] at h
  unfold dQ at hp
  split at hp
  ·injection hp with hp
   injection h with h
   omega
  ·exact nomatch hp
 | ok x =>
  rw[Pr.bind_of (a:=x.1) (r:=x.2) hp] at h
  unfold jd at h
  split at h
  ·injection h with h
   omega
  ·split at h
   ·injection h with h
    omega
   ·exact nomatch h
theorem wD (n:Int) (s:List UInt8) (hs:s.length≤1000000) (hn:n≤1000000): ∀ (m fuel k:Nat) (acc:List aE) (q:Nat),((k+m:Nat):Int)=n→m<fuel→q≤s.length→acc.length=k →
 (∃ e,ei gb m s q= .error e∧e≠0∧cN s n fuel 0 0 (q:Int) k (acc.map ofP)=some (.ret (zR20,0,e))) ∨
 (∃ l r,ei gb m s q= .ok (l,r)∧q≤r∧r≤s.length∧cN s n fuel 0 0 (q:Int) k (acc.map ofP)=some (.go (0,0,(r:Int),k+m,(acc++l).map ofP)))
 | 0,fuel+1,k,acc,q,h1,h2,h3,h4=> .inr ⟨[],q,rfl,Dy _,h3,by rw[cN,if_neg (by omega),DE]; rfl⟩
 | m+1,fuel+1,k,acc,q,h1,h2,h3,h4=>by
  rw[cN,if_pos (by omega),if_pos (by omega),Dg]
  rcases zz s hs q h3 with⟨e,p1,e0,g⟩ | ⟨p,r,p1,n1,l1,g⟩
  ·refine .inl ⟨e,by rw[ei,Pr.bind_err p1],e0,?_⟩
   rw[g,CS]
   dsimp only
   rw[if_neg e0]
   rfl
  ·rw[g,CS]
   dsimp only
   rw[if_pos rfl,if_pos (by rw[Dh]; omega),if_pos (by omega),if_pos (by omega),show ((q:Int)+((r - q:Nat):Int))=(r:Int) by omega]
   have e1:acc.map ofP ++ [ofP p]=(acc ++ [p]).map ofP:=by rw[List.map_append]; rfl
   rw[e1,ei,Pr.bind_of p1]
   rcases wD n s hs hn m fuel (k+1) (acc ++ [p]) r (by omega) (by omega) l1 (by rw[CW,h4]; rfl) with⟨e,r1,r2,r3⟩ | ⟨l,r',r1,r2,r3,r4⟩
   ·exact .inl ⟨e,by rw[Pr.bind_err r1],r2,r3⟩
   ·refine .inr ⟨p::l,r',by rw[Pr.bind_of r1]; rfl,by omega,r3,?_⟩
    rw[r4,C2,show k+1+m=k+(m+1) by omega]
    rfl
theorem wE (n:Int) (s:List UInt8) (hs:s.length≤1000000) (hn:n≤1000000): ∀ (m fuel k:Nat) (acc:List ax) (q:Nat),((k+m:Nat):Int)=n→m<fuel→q≤s.length→acc.length=k →
 (∃ e,ei dh m s q= .error e∧e≠0∧dH s n fuel 0 0 (q:Int) k (acc.map ofT)=some (.ret (zR20,0,e))) ∨
 (∃ l r,ei dh m s q= .ok (l,r)∧q≤r∧r≤s.length∧dH s n fuel 0 0 (q:Int) k (acc.map ofT)=some (.go (0,0,(r:Int),k+m,(acc++l).map ofT)))
 | 0,fuel+1,k,acc,q,h1,h2,h3,h4=> .inr ⟨[],q,rfl,Dy _,h3,by rw[ir,if_neg (by omega),DE]; rfl⟩
 | m+1,fuel+1,k,acc,q,h1,h2,h3,h4=>by
  rw[ir,if_pos (by omega),if_pos (by omega),Dg,lx _ _ ⟨by decide,by decide,by rw[C0]; omega⟩,show (2:Int).toNat=2 from rfl,CS]
  rcases qt s q 2 (by decide) (by decide) h3 with⟨e,g1,g2,g3⟩ | ⟨b,q1,g1,g2,g3,g4⟩
  ·refine .inl ⟨e,by rw[ei,Pr.bind_err]; rw[dh,Pr.bind_err]; rw[oY,eZ,Pr.bind_err g1],g2,?_⟩
   rw[g3,if_neg g2]
   rfl
  rw[g4,if_pos rfl]
  dsimp only
  by_cases hb:b.null=true
  ·rw[if_pos hb]
   refine .inl ⟨4,?_,by decide,rfl⟩
   rw[ei,Pr.bind_err]
   rw[dh,Pr.bind_err]
   rw[oY,eZ,Pr.bind_of g1,if_pos hb]
   rfl
  rw[if_neg hb,if_pos (by omega),if_pos (by omega),show ((q:Int)+((q1 - q:Nat):Int))=(q1:Int) by omega,Dg]
  have hx:oY s q= .ok (b.data,q1):=by
   rw[oY,eZ,Pr.bind_of g1,if_neg hb]
   rfl
  have hc:=sj s q1 g3 hs 8 (by decide)
  rw[show ((8:Nat):Int)=8 from rfl] at hc
  rw[hc,CS]
  cases hp:gq 4 8 s q1 with
  | error e =>
   have he:=o9 hp
   dsimp only
   rw[if_neg he]
   refine .inl ⟨e,?_,he,rfl⟩
   rw[ei,Pr.bind_err]
   rw[dh,Pr.bind_of hx,Pr.bind_err]
   rw[kc,Pr.bind_err hp]
  | ok x =>
   obtain⟨c,q2⟩:=x
   obtain⟨c1,c2,c3,c4,c5,c6⟩:=kb (by decide) (by decide) g3 hp
   have c2:=c2 (by decide)
   dsimp only
   rw[if_pos rfl,if_pos (by omega),show ((q1:Int)+4)=(q2:Int) by omega]
   rcases wD c s hs (by omega) c.toNat (c.toNat+1) 0 [] q2 (by omega) (by omega) (by omega) rfl with⟨e,r1,r2,r3⟩ | ⟨ps,q3,r1,r2,r3,r4⟩
   ·rw[List.map_nil] at r3
    refine .inl ⟨e,?_,r2,by rw[r3]; rfl⟩
    rw[ei,Pr.bind_err]
    rw[dh,Pr.bind_of hx,Pr.bind_err]
    rw[kc,Pr.bind_of hp,r1]
   ·rw[List.map_nil,Db] at r4
    rw[r4,CS]
    dsimp only
    rw[if_pos (by rw[Dh]; omega),if_pos (by omega)]
    have ht:dh s q= .ok (⟨b.data,ps⟩,q3):=by
     rw[dh,Pr.bind_of hx,Pr.bind_of (a:=ps) (r:=q3) (by rw[kc,Pr.bind_of hp,r1])]
     rfl
    have e1:acc.map ofT ++ [(⟨b.data,ps.map ofP⟩:aV)]=(acc ++ [(⟨b.data,ps⟩:ax)]).map ofT:=by rw[List.map_append]; rfl
    rw[e1,ei,Pr.bind_of ht]
    rcases wE n s hs hn m fuel (k+1) (acc ++ [⟨b.data,ps⟩]) q3 (by omega) (by omega) r3 (by rw[CW,h4]; rfl) with⟨e,s1,s2,s3⟩ | ⟨l,r',s1,s2,s3,s4⟩
    ·exact .inl ⟨e,by rw[Pr.bind_err s1],s2,s3⟩
    ·refine .inr ⟨⟨b.data,ps⟩::l,r',by rw[Pr.bind_of s1]; rfl,by omega,s3,?_⟩
     rw[s4,C2,show k+1+m=k+(m+1) by omega]
     rfl
theorem ut (s:List UInt8) (hs:s.length≤1000000) (v:Int) (hv:v=3∨v=4):(∃ e,mq v s 0= .error e∧e≠0∧gT s v=some (zR20,0,e))∨(∃ r n,mq v s 0= .ok (r,n)∧n≤s.length∧gT s v=some (ofQ r,(n:Int),0)):=by
 unfold gT
 rw[lx _ _ ⟨by decide,by decide,by omega⟩,show (2:Int).toNat=2 from rfl,CS]
 have hr:=qt s 0 2 (by decide) (by decide) (Du _)
 rw[List.drop_zero] at hr
 rcases hr with⟨e,g1,g2,g3⟩ | ⟨b,q1,g1,g2,g3,g4⟩
 ·refine .inl ⟨e,Pr.bind_err g1,g2,?_⟩
  rw[g3,if_neg g2]
  rfl
 rw[g4,if_pos rfl]
 dsimp only
 rw[Nat.sub_zero,if_pos (by omega)]
 by_cases h6:(s.length:Int) - (q1:Int)<6
 ·rw[if_pos h6]
  refine .inl ⟨1,?_,by decide,rfl⟩
  rw[mq,Pr.bind_of g1]
  by_cases h2:s.length<q1+2
  ·rw[Pr.bind_err]
   unfold dQ
   rw[if_pos h2]
  ·have p2:dQ 2 s q1= .ok (bk ((s.drop q1).take 2),q1+2):=by unfold dQ; rw[if_neg h2]
   rw[Pr.bind_of p2,Pr.bind_err]
   unfold dQ
   rw[if_pos (by omega)]
 have p2:dQ 2 s q1= .ok (bk ((s.drop q1).take 2),q1+2):=by unfold dQ; rw[if_neg (by omega)]
 have p3:dQ 4 s (q1+2)= .ok (bk ((s.drop (q1+2)).take 4),q1+2+4):=by unfold dQ; rw[if_neg (by omega)]
 have e6:(((q1:Nat):Int)+6).toNat=q1+2+4:=by omega
 have e2:(((q1:Nat):Int)+2).toNat=q1+2:=by omega
 rw[if_neg h6,if_pos (by omega),if_pos (by omega),Dg,e2,show q1+2 - q1=2 by omega,gh _ (by rw[Dt]; omega),CS,if_pos (by omega),if_pos (by omega),if_pos (by omega),e6,show q1+2+4 - (q1+2)=4 by omega,gh _ (by rw[Dt]; omega),CS,if_pos (by omega),if_pos (by omega)]
 generalize bk ((s.drop q1).take 2)=ia at p2
 generalize bk ((s.drop (q1+2)).take 4)=it at p3
 have hc:=sj s (q1+2+4) (by omega) hs 6 (by decide)
 rw[show ((6:Nat):Int)=6 from rfl] at hc
 rw[hc,CS]
 cases hp:gq 4 6 s (q1+2+4) with
 | error e =>
  have he:=o9 hp
  dsimp only
  rw[if_neg he]
  refine .inl ⟨e,?_,he,rfl⟩
  rw[mq,Pr.bind_of g1,Pr.bind_of p2,Pr.bind_of p3,Pr.bind_err]
  rw[kc,Pr.bind_err hp]
 | ok x =>
  obtain⟨c,q4⟩:=x
  obtain⟨c1,c2,c3,c4,c5,c6⟩:=kb (by decide) (by decide) (by omega) hp
  have c2:=c2 (by decide)
  dsimp only
  rw[if_pos rfl,if_pos (by omega),show (((q1:Nat):Int)+6+4)=(q4:Int) by omega]
  rcases wE c s hs (by omega) c.toNat (c.toNat+1) 0 [] q4 (by omega) (by omega) (by omega) rfl with⟨e,r1,r2,r3⟩ | ⟨l,q5,r1,r2,r3,r4⟩
  ·rw[List.map_nil] at r3
   refine .inl ⟨e,?_,r2,by rw[r3]; rfl⟩
   rw[mq,Pr.bind_of g1,Pr.bind_of p2,Pr.bind_of p3,Pr.bind_err]
   rw[kc,Pr.bind_of hp,r1]
  ·rw[List.map_nil,Db] at r4
   have hl:kc 4 6 dh s (q1+2+4)= .ok (l,q5):=by rw[kc,Pr.bind_of hp,r1]
   obtain⟨d1,d2,d3,d4,d5⟩:=kL.spell _ _ _ _ (by omega) hl
   obtain⟨t1,t2,t3,t4,t5⟩:=(fg 4 (by decide) (by decide)).spell _ _ _ _ (by omega) p3
   rw[CW,aA] at d3
   have hg:gdQ ⟨b,ia,it,l⟩:=vJ t5 d5.2 (by omega)
   have hk:=zr ⟨b,ia,it,l⟩ v hv hg
   have hk:ga (⟨b,ia,it,l.map ofT⟩:aG) v=some (pD v ⟨b,ia,it,l⟩):=hk
   rw[r4,CS]
   dsimp only
   rw[hk,CS,mq,Pr.bind_of g1,Pr.bind_of p2,Pr.bind_of p3,Pr.bind_of hl]
   by_cases hc:pD v ⟨b,ia,it,l⟩=0
   ·rw[if_pos hc,if_pos hc]
    exact .inr ⟨_,q5,rfl,r3,rfl⟩
   ·rw[if_neg hc,if_neg hc]
    exact .inl ⟨_,rfl,hc,rfl⟩
def smBl (l:List Bat):Prop:= ∀ b,b∈l→smB b∧chk b=0
theorem vL {b:Bat} (h:okB b) (hl:(dS b).length≤80000):smB b:=by
 have h1:=oh h
 refine⟨qL h (by omega),fun r hr=> ?_,by omega⟩
 have h2:=fq (enc:=cK) b.Ce r hr
 have h3:=vr r
 have h4:(bO r).length≤(cK r).length:=by
  unfold cK
  rw[CW]
  omega
 unfold body at h1
 omega
theorem wF (t:aV) (i:Nat) (p:cB) (hi:t.Cj[i]? = some p) (hp:p.Ct.length≤1000000): ∀ (l:List Bat) (acc:List UInt8) (k fuel:Nat),p.Ct.drop k=l→l.length<fuel→smBl l→acc.length+(bt dS l).length≤1000000→ ∃ z,dm t i fuel acc k=some (acc++bt dS l,z)
 | [],acc,k,fuel+1,h,hf,_,_=>by
  have:=bL h
  exact⟨k,by rw[dm,hi,CS,if_neg (by omega)]; simp[bt]⟩
 | b::l,acc,k,fuel+1,h,hf,hw,hl=>by
  obtain⟨g1,g2,g3⟩:=bl h
  rw[C5] at hf
  rw[bt,CW] at hl
  obtain⟨hb1,hb2⟩:=hw b (.head _)
  obtain⟨z,hz⟩:=wF t i p hi hp l (acc++dS b) (k+1) fuel g2 (by omega) (fun x hx=>hw x (.tail _ hx)) (by rw[CW]; omega)
  exact⟨z,by rw[dm,hi,CS,if_pos (by omega),g1,CS,r11enc hb1 hb2,CS,if_pos (by omega),if_pos (by omega),hz,bt,C2]⟩
theorem wG (t:ax) (hn:t.Cj.length≤1000000): ∀ (l:List aE) (acc:List UInt8) (k fuel:Nat),t.Cj.drop k=l→l.length<fuel→(∀ p,p∈l→wI p.CD∧p.Ct.length≤1000000∧smBl p.Ct)→acc.length+(bt fM l).length≤1000000→ ∃ z,dn (ofT t) fuel acc k=some (acc++bt fM l,z)
 | [],acc,k,fuel+1,h,hf,_,_=>by
  have:=bL h
  exact⟨k,by rw[dn,if_neg (by show ¬ (k:Int)<((t.Cj.map ofP).length:Int); rw[Dh]; omega)]; simp[bt]⟩
 | p::l,acc,k,fuel+1,h,hf,hw,hl=>by
  obtain⟨g1,g2,g3⟩:=bl h
  rw[C5] at hf
  rw[bt,CW] at hl
  have hpl:=hl
  simp only[fM,CW,aA] at hpl
  obtain⟨hp1,hp2,hp3⟩:=hw p (.head _)
  have e1:(ofT t).Cj[k]? = some (ofP p):=by show (t.Cj.map ofP)[k]? = _; rw[List.getElem?_map,g1]; rfl
  have e3:(((ofT t).Cj[k]?).map (fun x236=>((x236.Ct.length:Int)).toNat+1)).getD 0=p.Ct.length+1:=by
   rw[e1]
   show ((p.Ct.length:Int)).toNat+1= _
   omega
  obtain⟨z2,hz2⟩:=wF (ofT t) k (ofP p) e1 hp2 p.Ct [] 0 (p.Ct.length+1) rfl (by omega) hp3 (by rw[D3]; omega)
  obtain⟨z,hz⟩:=wG t hn l (acc++fM p) (k+1) fuel g2 (by omega) (fun x hx=>hw x (.tail _ hx)) (by rw[CW]; omega)
  refine⟨z,?_⟩
  rw[dn,if_pos (by show (k:Int)<((t.Cj.map ofP).length:Int); rw[Dh]; omega),e3,hz2,CS,e1,Db]
  dsimp only
  rw[CS,eD (ofP p).CD _ ⟨hp1,by decide,by decide⟩,CS,if_pos (by rw[aA]; show _+4≤ _; omega),lw _ _ ⟨by decide,by decide,by dsimp only; omega⟩,CS,if_pos (by simp only[CW,aA]; show _+4+(4 + _)≤ _; omega),CS,if_pos (by omega)]
  have e4:(acc++be (ofP p).CD (4:Int).toNat)++(be (cg (⟨false,bt dS p.Ct⟩:Bl)) (4:Int).toNat++(bt dS p.Ct))=acc++fM p:=by rw[C2]; rfl
  rw[e4,hz,bt,C2]
theorem wH (r:aw) (hn:r.Cm.length≤1000000): ∀ (l:List ax) (acc:List UInt8) (k fuel:Nat),r.Cm.drop k=l→l.length<fuel→(∀ t,t∈l→t.Cj.length≤1000000∧ ∀ p,p∈t.Cj→wI p.CD∧p.Ct.length≤1000000∧smBl p.Ct)→acc.length+(bt fz l).length≤1000000→ ∃ z,dp (ofQ r) fuel acc k=some (acc++bt fz l,z)
 | [],acc,k,fuel+1,h,hf,_,_=>by
  have:=bL h
  exact⟨k,by rw[dp,if_neg (by show ¬ (k:Int)<((r.Cm.map ofT).length:Int); rw[Dh]; omega)]; simp[bt]⟩
 | t::l,acc,k,fuel+1,h,hf,hw,hl=>by
  obtain⟨g1,g2,g3⟩:=bl h
  rw[C5] at hf
  rw[bt,CW] at hl
  have hpl:=hl
  simp only[fz,CW,aA] at hpl
  obtain⟨ht1,ht2⟩:=hw t (.head _)
  have e1:(ofQ r).Cm[k]? = some (ofT t):=by show (r.Cm.map ofT)[k]? = _; rw[List.getElem?_map,g1]; rfl
  have e4:(ofT t).Cj.length=t.Cj.length:=Dh _
  obtain⟨z2,hz2⟩:=wG t ht1 t.Cj ((acc++(be (t.Cx.length:Int) 2++t.Cx))++be (t.Cj.length:Int) 4) 0 (((t.Cj.length:Int)).toNat+1) rfl (by omega) ht2 (by simp only[CW,aA]; omega)
  obtain⟨z,hz⟩:=wH r hn l (acc++fz t) (k+1) fuel g2 (by omega) (fun x hx=>hw x (.tail _ hx)) (by rw[CW]; omega)
  refine⟨z,?_⟩
  rw[dp,if_pos (by show (k:Int)<((r.Cm.map ofT).length:Int); rw[Dh]; omega),e1,CS,lw _ _ ⟨by decide,by decide,by show t.Cx.length≤ _; omega⟩,CS,e4]
  rw[if_pos (by rw[CW,aA]; show _+(2+t.Cx.length)≤ _; omega),eD _ _ ⟨by omega,by decide,by decide⟩,CS,if_pos (by simp only[CW,aA]; show _+(2+t.Cx.length)+4≤ _; omega)]
  have e5:acc++(be (cg (⟨false,(ofT t).Cx⟩:Bl)) (2:Int).toNat++(⟨false,(ofT t).Cx⟩:Bl).data)++be (t.Cj.length:Int) (4:Int).toNat=(acc++(be (t.Cx.length:Int) 2++t.Cx))++be (t.Cj.length:Int) 4:=rfl
  rw[e5,hz2,CS]
  dsimp only
  rw[CS,if_pos (by omega)]
  have e6:(acc++(be (t.Cx.length:Int) 2++t.Cx))++be (t.Cj.length:Int) 4++bt fM t.Cj=acc++fz t:=by simp only[fz,C2]
  rw[e6,hz,bt,C2]
theorem xI {r:aw} (ha:wI r.CG∧wI r.Cz) (hn:r.Cm.length≤1000000) (hw: ∀ t,t∈r.Cm→t.Cj.length≤1000000∧ ∀ p,p∈t.Cj→wI p.CD∧p.Ct.length≤1000000∧smBl p.Ct) (hl:(nD r).length≤1000000):ig (ofQ r)=some (nD r):=by
 have e4:(ofQ r).Cm.length=r.Cm.length:=Dh _
 simp only[nD,CW,aA] at hl
 obtain⟨z,hz⟩:=wH r hn r.Cm ((((be (cg r.CA) 2++r.CA.data)++be r.CG 2)++be r.Cz 4)++be (r.Cm.length:Int) 4) 0 (((r.Cm.length:Int)).toNat+1) rfl (by omega) hw (by simp only[CW,aA]; omega)
 have l1:(be (cg r.CA) (2:Int).toNat++r.CA.data).length=2+r.CA.data.length:=by rw[CW,aA]; rfl
 have l2: ∀ n:Int,(be n (2:Int).toNat).length=2:=fun n=>aA _ _
 have l4: ∀ n:Int,(be n (4:Int).toNat).length=4:=fun n=>aA _ _
 unfold ig
 rw[e4]
 show ((iS r.CA 2).bind fun x4=>(eX r.CG 2).bind fun x6=>if x4.length+x6.length≤9223372036854775807 then ((eX r.Cz 4).bind fun x9=> _) else none)= _
 rw[lw _ _ ⟨by decide,by decide,by omega⟩,CS,eD _ _ ⟨ha.1,by decide,by decide⟩,CS,if_pos (by rw[l1,l2]; omega),eD _ _ ⟨ha.2,by decide,by decide⟩,CS,if_pos (by rw[CW,l1,l2,l4]; omega),eD _ _ ⟨by omega,by decide,by decide⟩,CS,if_pos (by rw[CW,CW,l1,l2,l4,l4]; omega)]
 have e5:((((be (cg r.CA) (2:Int).toNat++r.CA.data)++be r.CG (2:Int).toNat)++be r.Cz (4:Int).toNat)++be (r.Cm.length:Int) (4:Int).toNat)=((((be (cg r.CA) 2++r.CA.data)++be r.CG 2)++be r.Cz 4)++be (r.Cm.length:Int) 4):=rfl
 rw[e5,hz,CS]
 simp only[nD,C2]
theorem wJ {r:aw} (h:gdQ r):km r=some (ofQ r):=by
 have h1:=h.2.1
 unfold km
 rw[wt r.Cm [] (by rw[D3]; omega) (fun t ht=>(h.2.2 t ht).2.1),CS,Db]
 rfl
theorem pa {a b:aw} (h:gdQ a):fU (ofQ a) (ofQ b)=some (sa a b):=by
 have h1:=h.2.1
 refine zk (by omega) (fun t ht=> ?_)
 have h2:=h.2.2 t ht
 exact⟨by have:=h2.2.1; omega,fun p hp=>(h2.2.2 p hp).2⟩
theorem zQ_gd:gdQ zQ:=⟨by unfold wI zQ; decide,by decide,fun t h=>nomatch h⟩
theorem xJ {v:Int} {r:aw} (h:okQ v r) (hl:(nD r).length≤80000):(wI r.CG∧wI r.Cz)∧r.Cm.length≤1000000∧ ∀ t,t∈r.Cm→t.Cj.length≤1000000∧ ∀ p,p∈t.Cj→wI p.CD∧p.Ct.length≤1000000∧smBl p.Ct:=by
 obtain⟨h1,h2,h3,h4,h5⟩:=h
 have n1:=jx (ok:=uq) qW r.Cm h4.2
 simp only[nD,CW,aA] at hl
 refine⟨⟨ka h2,ka h3⟩,by omega,fun t ht=> ?_⟩
 have n2:=fq (enc:=fz) r.Cm t ht
 have n3:=jx (ok:=vH) qV t.Cj (h4.2 t ht).2.2
 simp only[fz,CW,aA] at n2
 refine⟨by omega,fun p hp=> ?_⟩
 have n4:=fq (enc:=fM) t.Cj p hp
 have hpo:=(h4.2 t ht).2.2 p hp
 have n5:=sg hpo.2.2
 simp only[fM,CW,aA] at n4
 refine⟨ka hpo.1,by omega,fun b hb=>⟨vL (hpo.2.2 b hb) ?_,(hpo.2.2 b hb).2.2.2⟩⟩
 have:=fq (enc:=dS) p.Ct b hb
 omega
theorem pure_ProduceReads (a0:List UInt8) (a1:Int) (w0:a0.length≤140737488351232) (w1:0≤a1∧a1≤255):eO a0 a1=some true:=by
 unfold eO
 rw[zi,CS,if_pos rfl]
 by_cases h:(a0.length:Int)>2000
 ·rw[if_pos h]
 have hs:a0.length≤1000000:=by omega
 rw[if_neg h,if_pos w1.1,if_pos (by omega),if_pos (by omega),iC _ (by omega),CS]
 have hv:3+a1 % 2=3∨3+a1 % 2=4:=by omega
 generalize 3+a1 % 2=v at hv
 have hB:=(B_prq v).run a0 0 hs (Du _)
 rw[List.drop_zero] at hB
 rcases hB with⟨e,st,p1,g1,x1,y1⟩ | ⟨r,n,p1,g1,n1,l1⟩
 ·rcases ut a0 hs v hv with⟨e',p2,e0,k⟩ | ⟨r',n',p2,_,k⟩
  rotate_left
  ·rw[p1] at p2
   exact nomatch p2
  rw[p1] at p2
  injection p2 with p2
  subst p2
  try dsimp only at g1
  rw[g1,CS]
  dsimp only
  rw[k,CS]
  dsimp only
  rw[bw,CS]
  dsimp only
  have e1:fU (ofQ zQ) zR20=some (sa zQ zQ):=pa zQ_gd (b:=zQ)
  rw[if_pos x1,wJ zQ_gd,CS,e1,qP,CS,if_pos rfl,CS]
  dsimp only
  rw[if_neg (by decide),if_neg e0]
  rfl
 ·rcases ut a0 hs v hv with⟨e',p2,e0,k⟩ | ⟨r',n',p2,l2,k⟩
  ·rw[p1] at p2
   exact nomatch p2
  rw[p1] at p2
  injection p2 with p2
  obtain⟨rfl,rfl⟩:=Dv p2
  obtain⟨s1,s2,s3,s4,s5⟩:=(Sp_prq v).spell a0 0 r n (Du _) p1
  rw[List.take_zero,Db] at s4
  have hg:gdQ r:=Ag s5 (by omega)
  obtain⟨z1,z2,z3⟩:=xJ s5 (by omega)
  try dsimp only at g1
  rw[g1,CS]
  dsimp only
  rw[k,CS]
  dsimp only
  rw[bw,CS]
  dsimp only
  rw[if_pos rfl,wJ hg,CS,pa hg,qP,CS,if_pos rfl,CS]
  dsimp only
  rw[if_neg (by decide),if_pos rfl,gAt_eq,CS]
  dsimp only
  rw[if_pos rfl,if_pos (by omega),CS,xI z1 z2 z3 (by omega),CS,Dg,s4,if_pos rfl]
  rfl
end Go.Proofs.YtcoppaggpbfcmaaGreat.Sl
namespace Go.Proofs.YtcoppaggpbfcmaaGreat.produceReads
open Go.ChangeShapes Go.WideShapes Go.ChangeAt Go.RowKit
open Go.ChangeMaps (open_string shut_string)
set_option linter.unusedVariables false
theorem own:ownKnob Tryz.prog.godebug=none:=by kernel_rfl
theorem lifted (os:Os) (started:os.Started) (H:Type) (enc:TypeId×Value→H) :
 ReturnsInHanded {} Tryz.checked os 4 .any (Rows.produceReadsSpec.pre6 enc Tryz.prog Tryz.f4 Rows.produceReadsRow.domain false) (Rows.produceReadsSpec.post enc Tryz.prog Tryz.f4 false true false false):=by
 refine returnsInHanded_of_change_sized (C:=Tryz.checked) own started (by kernel_rfl) Tryz.func4
  (ChangeSpec.witness6 (enc:=enc) (C:=Tryz.checked) false ⟨#[],#[.string ByteArray.empty,.int .u8 0],[]⟩ 8 (by kernel_rfl) (by kernel_rfl) (by kernel_rfl) (by kernel_rfl)) ?_
 intro W base args ds gs before hval0 hW hcnd hsz0 _
 have hsz:(DataW.weightsEach Tryz.prog (Tryz.f4.params.toList++Rows.produceReadsSpec.plain.varTypes Tryz.prog) (ds++gs)).all (· ≤ reachBytes)=true:=hsz0
 have hval: ∀ (j:Nat) t v,Tryz.f4.params[j]? = some t→args[j]? = some v→Value.okWide Tryz.prog W .any base t v:=hval0
 have hW':=hW
 obtain⟨p,q,hA0,hV,rfl,hfz,hnd⟩:=hW
 have hA:DataW.TrodAll enc Tryz.prog W 0 (fun _=>true) true Tryz.f4.params.toList args.toList ds p:=hA0
 rw[Tryz.params4] at hA hval hsz
 obtain⟨v0,vs0,d0,ds0,p0,q0,hargs,rfl,rfl,h0,r0⟩:=trodAll_cons hA
 obtain⟨v1,vs1,d1,ds1,p1,q1,rfl,rfl,rfl,h1,r1⟩:=trodAll_cons r0
 obtain⟨rfl,rfl,rfl⟩:=trodAll_nil r1
 obtain rfl:args= #[v0,v1]:=by cases args; simp_all
 obtain⟨rfl,rfl⟩:=trodVars_none hV
 obtain⟨s0,rfl,rfl,rfl,y0⟩:=open_string Tryz.underlying9 (hval 0 9 v0 rfl rfl) h0
 have z0:s0.size≤140737488351232:=by
  have z:=sized_string hsz (j:=0) (t:=9) rfl rfl
  rw[Array.length_toList] at z
  exact z
 obtain⟨a0,rfl⟩:=Sl.bsOf_of s0
 have w0:a0.length≤140737488351232:=by rwa [Sl.bsOf_size] at z0
 obtain⟨a1,rfl,rfl,rfl,u1⟩:=open_int Tryz.underlying5 (hval 1 5 v1 rfl rfl) h1
 have w1:=Go.bounds_u8 u1
 clear hA0 hval0 hsz0 hsz
 refine (Sl.f_l20_ProduceReads_spec a0 a1 true (Sl.pure_ProduceReads a0 a1 w0 w1) (fun _=>False) W (fun _ h=>h) (Sl.RX.reads_triv _ _)).mono fun e W' hP=> ?_
 obtain⟨v,A',Ns,rfl,⟨rfl,rfl,rfl⟩,hst⟩:=hP
 have bel:=Sl.St.below hst
 exact⟨_,rfl,_,_,_,[],_,[],hW',trodAll_mk1 (shut_bool Tryz.underlying4 _),(trodAll_cons_mk (shut_string Tryz.underlying9 y0) (trodAll_cons_mk (shut_int Tryz.underlying5 u1) trodAll_mk0)),rfl,bel.frame _,fun h=>by cases h⟩
theorem over:Rows.produceReadsRow.holds Tryz.pinned (OpenSpec.ofChange Rows.produceReadsSpec) :=
 OpenClaim.holds_of_wide 4 Tryz.f4 rfl rfl rfl rfl rfl rfl rfl ⟨rfl,rfl,rfl,rfl,rfl⟩ rfl rfl rfl rfl rfl (by kernel_rfl) Tryz.func4 (by kernel_rfl)
  (of_decide_eq_true (by kernel_rfl)) (by unfold Func.isWrapper; first | (rw[if_pos (by decide +kernel)]; kernel_rfl) | (rw[if_neg (by decide +kernel)]; exact⟨rfl,rfl⟩))
  (fun os started H enc _=>lifted os started H enc)
theorem proved:Rows.ProduceReadsSaid:=over
end Go.Proofs.YtcoppaggpbfcmaaGreat.produceReads
namespace Go.Proofs.YtcoppaggpbfcmaaGreat
theorem produceReads_holds:Rows.ProduceReadsSaid:=produceReads.proved
end Go.Proofs.YtcoppaggpbfcmaaGreat
