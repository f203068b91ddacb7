/- produceWrites_holds: part 5. -/
import Derived.Test.YtcoppaggpbfcmaaGreatK4
set_option maxRecDepth 100000
set_option maxHeartbeats 4000000
set_option linter.defProp false
namespace Go.Proofs.YtcoppaggpbfcmaaGreat.Sl
open Go.RowKit
set_option linter.unusedVariables false
set_option linter.unusedSimpArgs false
def D6 := @Tryz.results12
def Em := @Tryz.results47
def Et := @Tryz.results44
def Ez := @Tryz.results104
def EJ := @Tryz.results46
def EL := @Tryz.runUnderlying4
def EP := @Tryz.results105
def Ft := @Tryz.results52
def n9:fh := [(35,0,0),(35,1,1),(38,1,1),(38,2,2),(38,3,4),(38,4,6)]
theorem am:(n9).OK Tryz.prog:=⟨FOK.mk DM rfl DP rfl,FOK.mk DM rfl DT rfl,FOK.mk Dw rfl De rfl,FOK.mk Dw rfl Dk rfl,FOK.mk Dw rfl Dk rfl,FOK.mk Dw rfl ED rfl,trivial⟩
def fQ (a0:List UInt8):Option (Int×Int):=if (a0.length:Int)<2 then some (0,1) else (if 2≤a0.length then ((pZ (a0.take 2)).bind fun x3=>if x3=0 then (if (a0.length:Int)<4 then some (0,1) else (if 4≤a0.length then ((pZ ((a0.drop 2).take 2)).bind fun x8=>if x8=0 then (if (a0.length:Int)>4 then some (0,2) else some (x8,0)) else (if x8=1 then (if (a0.length:Int)>4 then some (0,2) else some (x8,0)) else some (0,12))) else none)) else some (0,7)) else none)
theorem mC (a0:List UInt8) (r:Int×Int) (h:fQ a0=some r):aA Tryz.prog 104 #[jS a0] .triv (aD) (fun v A' N=>v= .tuple #[jI r.1,jI r.2]∧A'=aD∧N = []):=by
 refine aM Tryz.func104 Z Tryz.ntmps104 Z ?_
 intro F w hX
 unfold fQ at h
 refine T.seq (T.region Z (TL.run am [0,1] Z Z (TL.nil (X.seq (T.seq (T.seq (T.region Z (TL.run am [0] Z Z (TL.q Z .u (Br Z Dm) Z (TL.run am [2] Z Z ?_))))))))))
 rcases jF h with⟨c1,h⟩ | ⟨c1,h⟩
 ·refine TL.nil (X.seq (AN Z (C6 c1) (T.seq (T.region Z (TL.run am [0,1] Z Z ?_)))))
  obtain rfl:=C8 h
  exact TL.nil (X.seq (T.ret (AL (Bi [0] Ez (AK Z) (AK Z) ⟨Z,Z,Z⟩ (by rfl) (.inl Z)))))
 ·refine TL.nil (X.seq (AS Z (C7 c1) (T.skip (X.seq (T.seq (T.seq (T.region Z ?_)))))))
  replace h:=an h
  obtain⟨c2,h⟩:=h
  refine TL.run am [0] Z Z ?_
  replace c2:2≤a0.length:=c2
  refine TL.q Z .u (Cs (p:=0) (q:=2) (m:=(a0.take 2)) Z Dm .none (.some Z Z) (by first | omega | (dsimp only; omega)) (by simp)) Z ?_
  obtain⟨x3,hx4,h⟩:=C5 h
  refine Bc Z .u (.fn Tryz.call63 Z) (BA (fun w=>kv (a0.take 2) _ hx4 w)) (fun _ _=>AQ _ _) Z (TL.run am [3] Z Z ?_)
  rcases jF h with⟨c5,h⟩ | ⟨c5,h⟩
  ·refine TL.nil (X.seq (AS Z (ax (C6 c5)) (T.skip (X.seq (T.seq (T.seq (T.region Z (TL.run am [0] Z Z (TL.q Z .u (Br Z Dm) Z (TL.run am [2] Z Z ?_))))))))))
   rcases jF h with⟨c6,h⟩ | ⟨c6,h⟩
   ·refine TL.nil (X.seq (AN Z (C6 c6) (T.seq (T.region Z (TL.run am [0,1] Z Z ?_)))))
    obtain rfl:=C8 h
    exact TL.nil (X.seq (T.ret (AL (Bi [0] Ez (AK Z) (AK Z) ⟨Z,Z,Z⟩ (by rfl) (.inl Z)))))
   ·refine TL.nil (X.seq (AS Z (C7 c6) (T.skip (X.seq (T.seq (T.region Z ?_))))))
    replace h:=an h
    obtain⟨c7,h⟩:=h
    refine TL.run am [0] Z Z ?_
    replace c7:4≤a0.length:=c7
    refine TL.q Z .u (Cs (p:=2) (q:=4) (m:=((a0.drop 2).take 2)) Z Dm (.some Z Z) (.some Z Z) (by first | omega | (dsimp only; omega)) Z) Z ?_
    obtain⟨x8,hx9,h⟩:=C5 h
    refine Bc Z .u (.fn Tryz.call63 Z) (BA (fun w=>kv ((a0.drop 2).take 2) _ hx9 w)) (fun _ _=>AQ _ _) Z (TL.run am [3] Z Z (TL.nil (X.seq (T.seq (T.seq (T.region Z ?_))))))
    rcases jF h with⟨c10,h⟩ | ⟨c10,h⟩
    ·refine TL.run am [0,1,2] Z Z ?_
     iterate 2 refine AM Z (.gn Z Z (ax (C6 c10))) Z ?_
     refine TL.q Z .u (AR Z (ax (C6 c10)) Z) Z (TL.nil (X.seq (AS Z Z (T.skip (X.seq (T.seq (T.seq (T.region Z (TL.run am [0] Z Z (TL.q Z .u (Br Z Dm) Z (TL.run am [2] Z Z ?_)))))))))))
     rcases jF h with⟨c11,h⟩ | ⟨c11,h⟩
     ·refine TL.nil (X.seq (AN Z (C6 c11) (T.seq (T.region Z (TL.run am [0,1] Z Z ?_)))))
      obtain rfl:=C8 h
      exact TL.nil (X.seq (T.ret (AL (Bi [0] Ez (AK Z) (AK Z) ⟨Z,Z,Z⟩ (by rfl) (.inl Z)))))
     ·refine TL.nil (X.seq (AS Z (C7 c11) (T.skip (X.seq (T.seq (T.region Z (TL.run am [0,1,2] Z Z ?_)))))))
      obtain rfl:=C8 h
      exact TL.nil (X.seq (T.ret (Bi [0] Ez (AK Z) (AK Z) ⟨Z,Z,Z⟩ (by rfl) (.inl Z))))
    ·refine TL.run am [0,1,2] Z Z ?_
     iterate 2 refine TL.q Z (.g Z Z (aF (C7 c10))) (AO am Z) Z ?_
     refine TL.q Z .u (AP Z (aF (C7 c10)) Z) Z ?_
     rcases jF h with⟨c12,h⟩ | ⟨c12,h⟩
     ·refine TL.nil (X.seq (AS Z (ax (C6 c12)) (T.skip (X.seq (T.seq (T.seq (T.region Z (TL.run am [0] Z Z (TL.q Z .u (Br Z Dm) Z (TL.run am [2] Z Z ?_))))))))))
      rcases jF h with⟨c13,h⟩ | ⟨c13,h⟩
      ·refine TL.nil (X.seq (AN Z (C6 c13) (T.seq (T.region Z (TL.run am [0,1] Z Z ?_)))))
       obtain rfl:=C8 h
       exact TL.nil (X.seq (T.ret (AL (Bi [0] Ez (AK Z) (AK Z) ⟨Z,Z,Z⟩ (by rfl) (.inl Z)))))
      ·refine TL.nil (X.seq (AS Z (C7 c13) (T.skip (X.seq (T.seq (T.region Z (TL.run am [0,1,2] Z Z ?_)))))))
       obtain rfl:=C8 h
       exact TL.nil (X.seq (T.ret (Bi [0] Ez (AK Z) (AK Z) ⟨Z,Z,Z⟩ (by rfl) (.inl Z))))
     ·refine TL.nil (X.seq (AN Z (aF (C7 c12)) (T.seq (T.region Z (TL.run am [0,1] Z Z ?_)))))
      obtain rfl:=C8 h
      exact TL.nil (X.seq (T.ret (AL (Bi [0] Ez (AK Z) (AK Z) ⟨Z,Z,Z⟩ (by rfl) (.inl Z)))))
  ·refine TL.nil (X.seq (AN Z (aF (C7 c5)) (T.seq (T.region Z (TL.run am [0,1] Z Z ?_)))))
   obtain rfl:=C8 h
   exact TL.nil (X.seq (T.ret (AL (Bi [0] Ez (AK Z) (AK Z) ⟨Z,Z,Z⟩ (by rfl) (.inl Z)))))
def eU (a0:List UInt8):Option (Int×Int):=if (a0.length:Int)<2 then some (0,1) else (if 2≤a0.length then ((pZ (a0.take 2)).bind fun x3=>if x3=0 then (if (a0.length:Int)<6 then some (0,1) else (if 6≤a0.length then ((pZ ((a0.drop 2).take 4)).bind fun x8=>if x8<0 then some (0,11) else (if (a0.length:Int)>6 then some (0,2) else some (x8,0))) else none)) else some (0,7)) else none)
theorem lw (a0:List UInt8) (r:Int×Int) (h:eU a0=some r):aA Tryz.prog 105 #[jS a0] .triv (aD) (fun v A' N=>v= .tuple #[jI r.1,jI r.2]∧A'=aD∧N = []):=by
 refine aM Tryz.func105 Z Tryz.ntmps105 Z ?_
 intro F w hX
 unfold eU at h
 refine T.seq (T.region Z (TL.run am [0,1] Z Z (TL.nil (X.seq (T.seq (T.seq (T.region Z (TL.run am [0] Z Z (TL.q Z .u (Br Z Dm) Z (TL.run am [2] Z Z ?_))))))))))
 rcases jF h with⟨c1,h⟩ | ⟨c1,h⟩
 ·refine TL.nil (X.seq (AN Z (C6 c1) (T.seq (T.region Z (TL.run am [0,1] Z Z ?_)))))
  obtain rfl:=C8 h
  exact TL.nil (X.seq (T.ret (AL (Bi [0] EP (AK Z) (AK Z) ⟨Z,Z,Z⟩ (by rfl) (.inl Z)))))
 ·refine TL.nil (X.seq (AS Z (C7 c1) (T.skip (X.seq (T.seq (T.seq (T.region Z ?_)))))))
  replace h:=an h
  obtain⟨c2,h⟩:=h
  refine TL.run am [0] Z Z ?_
  replace c2:2≤a0.length:=c2
  refine TL.q Z .u (Cs (p:=0) (q:=2) (m:=(a0.take 2)) Z Dm .none (.some Z Z) (by first | omega | (dsimp only; omega)) (by simp)) Z ?_
  obtain⟨x3,hx4,h⟩:=C5 h
  refine Bc Z .u (.fn Tryz.call63 Z) (BA (fun w=>kv (a0.take 2) _ hx4 w)) (fun _ _=>AQ _ _) Z (TL.run am [3] Z Z ?_)
  rcases jF h with⟨c5,h⟩ | ⟨c5,h⟩
  ·refine TL.nil (X.seq (AS Z (ax (C6 c5)) (T.skip (X.seq (T.seq (T.seq (T.region Z (TL.run am [0] Z Z (TL.q Z .u (Br Z Dm) Z (TL.run am [2] Z Z ?_))))))))))
   rcases jF h with⟨c6,h⟩ | ⟨c6,h⟩
   ·refine TL.nil (X.seq (AN Z (C6 c6) (T.seq (T.region Z (TL.run am [0,1] Z Z ?_)))))
    obtain rfl:=C8 h
    exact TL.nil (X.seq (T.ret (AL (Bi [0] EP (AK Z) (AK Z) ⟨Z,Z,Z⟩ (by rfl) (.inl Z)))))
   ·refine TL.nil (X.seq (AS Z (C7 c6) (T.skip (X.seq (T.seq (T.region Z ?_))))))
    replace h:=an h
    obtain⟨c7,h⟩:=h
    refine TL.run am [0] Z Z ?_
    replace c7:6≤a0.length:=c7
    refine TL.q Z .u (Cs (p:=2) (q:=6) (m:=((a0.drop 2).take 4)) Z Dm (.some Z Z) (.some Z Z) (by first | omega | (dsimp only; omega)) Z) Z ?_
    obtain⟨x8,hx9,h⟩:=C5 h
    refine Bc Z .u (.fn Tryz.call63 Z) (BA (fun w=>kv ((a0.drop 2).take 4) _ hx9 w)) (fun _ _=>AQ _ _) Z (TL.run am [3] Z Z (TL.nil (X.seq (T.seq (T.seq (T.region Z (TL.run am [0,1] Z Z ?_)))))))
    rcases jF h with⟨c10,h⟩ | ⟨c10,h⟩
    ·refine TL.nil (X.seq (AN Z (C6 c10) (T.seq (T.region Z (TL.run am [0,1] Z Z ?_)))))
     obtain rfl:=C8 h
     exact TL.nil (X.seq (T.ret (AL (Bi [0] EP (AK Z) (AK Z) ⟨Z,Z,Z⟩ (by rfl) (.inl Z)))))
    ·refine TL.nil (X.seq (AS Z (C7 c10) (T.skip (X.seq (T.seq (T.seq (T.region Z (TL.run am [0] Z Z (TL.q Z .u (Br Z Dm) Z (TL.run am [2] Z Z ?_))))))))))
     rcases jF h with⟨c11,h⟩ | ⟨c11,h⟩
     ·refine TL.nil (X.seq (AN Z (C6 c11) (T.seq (T.region Z (TL.run am [0,1] Z Z ?_)))))
      obtain rfl:=C8 h
      exact TL.nil (X.seq (T.ret (AL (Bi [0] EP (AK Z) (AK Z) ⟨Z,Z,Z⟩ (by rfl) (.inl Z)))))
     ·refine TL.nil (X.seq (AS Z (C7 c11) (T.skip (X.seq (T.seq (T.region Z (TL.run am [0,1,2] Z Z ?_)))))))
      obtain rfl:=C8 h
      exact TL.nil (X.seq (T.ret (Bi [0] EP (AK Z) (AK Z) ⟨Z,Z,Z⟩ (by rfl) (.inl Z))))
  ·refine TL.nil (X.seq (AN Z (aF (C7 c5)) (T.seq (T.region Z (TL.run am [0,1] Z Z ?_)))))
   obtain rfl:=C8 h
   exact TL.nil (X.seq (T.ret (AL (Bi [0] EP (AK Z) (AK Z) ⟨Z,Z,Z⟩ (by rfl) (.inl Z)))))
def fq (a0:Rec):Option (Int×Int×Int):=if a0.CJ.null=true then some (0,0,12) else (if a0.Cz.null=true then some (0,0,12) else (if (a0.CF.length:Int)>0 then some (0,0,12) else (if a0.CU=0 then ((fQ a0.CJ.data).bind fun (x8,x9)=>if x9=0 then ((eU a0.Cz.data).bind fun (x12,x13)=>if x13=0 then some (x8,x12,0) else some (0,0,x13)) else some (0,0,x9)) else some (0,0,12))))
theorem ph (a0:Rec) (A1:Option Addr) (c2:Nat) (r:Int×Int×Int) (h:fq a0=some r):aA Tryz.prog 46 #[.agg #[jI a0.CY,jI a0.CU,.bool a0.CJ.null,jS a0.CJ.data,.bool a0.Cz.null,jS a0.Cz.data,.slice A1 a0.CF.length c2]] (RX.of (ar 3 bG) [.slice A1 a0.CF.length c2] a0.CF) (aD) (fun v A' N=>v= .tuple #[jI r.1,jI r.2.1,jI r.2.2]∧A'=aD∧N = []):=by
 refine aM Tryz.func46 Z Tryz.ntmps46 Z ?_
 intro F w hX
 unfold fq at h
 refine T.seq (T.region Z (TL.box Z .u Z Z (fun b3=>(TL.run am [1,2,3] Z Z (TL.nil (X.seq (T.seq (T.seq (T.region Z (TL.run am [0,1] Z Z (TL.q Z .u (AH 0 Z Do Z Z) Z ?_)))))))))))
 rcases jF h with⟨c4,h⟩ | ⟨c4,h⟩
 ·refine TL.run am [3] Z Z ?_
  iterate 3 refine AM Z (.gn Z Z c4) Z ?_
  refine TL.q Z .u (AP Z c4 Z) Z (TL.run am [8] Z Z ?_)
  iterate 4 refine AM Z (.gn Z Z Z) Z ?_
  refine TL.q Z .u (AP Z Z Z) Z (TL.run am [14] Z Z ?_)
  iterate 3 refine AM Z (.gn Z Z Z) Z ?_
  refine TL.q Z .u (AP Z Z Z) Z (TL.nil (X.seq (AN Z Z (T.seq (T.region Z (TL.run am [0,1,2] Z Z ?_))))))
  obtain rfl:=C8 h
  exact TL.nil (X.seq (T.ret (AL (BP [1] EJ (AK Z) (AK Z) (AK Z) ⟨Z,Z,Z⟩ (by rfl) (.inl Z)))))
 ·replace c4:=Dd c4
  refine TL.run am [3] Z Z ?_
  iterate 2 refine TL.q Z (.g Z Z c4) (AO am Z) Z ?_
  refine TL.q Z (.g Z Z c4) (AH 0 Z Do Z Z) Z (TL.q Z .u (AR Z c4 Z) Z ?_)
  rcases jF h with⟨c5,h⟩ | ⟨c5,h⟩
  ·refine TL.run am [8] Z Z ?_
   iterate 4 refine AM Z (.gn Z Z c5) Z ?_
   refine TL.q Z .u (AP Z c5 Z) Z (TL.run am [14] Z Z ?_)
   iterate 3 refine AM Z (.gn Z Z Z) Z ?_
   refine TL.q Z .u (AP Z Z Z) Z (TL.nil (X.seq (AN Z Z (T.seq (T.region Z (TL.run am [0,1,2] Z Z ?_))))))
   obtain rfl:=C8 h
   exact TL.nil (X.seq (T.ret (AL (BP [1] EJ (AK Z) (AK Z) (AK Z) ⟨Z,Z,Z⟩ (by rfl) (.inl Z)))))
  ·replace c5:=Dd c5
   refine TL.run am [8] Z Z (TL.q Z (.g Z Z c5) (AO am Z) Z (TL.q Z (.g Z Z c5) (AH 0 Z Eh Z Z) Z (TL.q Z (.g Z Z c5) (AW Z Dt) Z (TL.q Z (.g Z Z c5) (AO am Z) Z (TL.q Z .u (AR Z c5 Z) Z ?_)))))
   rcases jF h with⟨c6,h⟩ | ⟨c6,h⟩
   ·refine TL.run am [14] Z Z ?_
    iterate 3 refine AM Z (.gn Z Z (C6 c6)) Z ?_
    refine TL.q Z .u (AP Z (C6 c6) Z) Z (TL.nil (X.seq (AN Z Z (T.seq (T.region Z (TL.run am [0,1,2] Z Z ?_))))))
    obtain rfl:=C8 h
    exact TL.nil (X.seq (T.ret (AL (BP [1] EJ (AK Z) (AK Z) (AK Z) ⟨Z,Z,Z⟩ (by rfl) (.inl Z)))))
   ·refine TL.run am [14] Z Z (TL.q Z (.g Z Z (C7 c6)) (AO am Z) Z (TL.q Z (.g Z Z (C7 c6)) (AH 0 Z Dc Z Z) Z (TL.q Z (.g Z Z (C7 c6)) (AO am Z) Z (TL.q Z .u (AR Z (C7 c6) Z) Z ?_))))
    rcases jF h with⟨c7,h⟩ | ⟨c7,h⟩
    ·refine TL.nil (X.seq (AS Z (ax (C6 c7)) (T.skip (X.seq (T.seq (T.region Z (TL.run am [0,1] Z Z (TL.q Z .u (AH 0 Z Dz Z Z) Z ?_))))))))
     obtain⟨⟨x8,x9⟩,hx10,h⟩:=C5 h
     try dsimp only at h
     refine Bc Z .u (.fn Tryz.call104 Z) (mC a0.CJ.data _ hx10) (fun _ hs=>(AQ _ _)) Z (TL.run am [4,5,6,7,8] Z Z (TL.nil (X.seq (T.seq (T.seq (T.region Z (TL.run am [0,1] Z Z ?_)))))))
     rcases jF h with⟨c11,h⟩ | ⟨c11,h⟩
     ·refine TL.nil (X.seq (AS Z (ax (C6 c11)) (T.skip (X.seq (T.seq (T.region Z (TL.run am [0,1] Z Z (TL.q Z .u (AH 0 Z Dz Z Z) Z ?_))))))))
      obtain⟨⟨x12,x13⟩,hx14,h⟩:=C5 h
      try dsimp only at h
      refine Bc Z .u (.fn Tryz.call105 Z) (lw a0.Cz.data _ hx14) (fun _ hs=>(AQ _ _)) Z (TL.run am [4,5,6,7,8] Z Z (TL.nil (X.seq (T.seq (T.seq (T.region Z (TL.run am [0,1] Z Z ?_)))))))
      rcases jF h with⟨c15,h⟩ | ⟨c15,h⟩
      ·refine TL.nil (X.seq (AS Z (ax (C6 c15)) (T.skip (X.seq (T.seq (T.region Z (TL.run am [0,1,2,3,4] Z Z ?_)))))))
       obtain rfl:=C8 h
       exact TL.nil (X.seq (T.ret (BP [1] EJ (AK Z) (AK Z) (AK Z) ⟨Z,Z,Z⟩ (by rfl) (.inl Z))))
      ·refine TL.nil (X.seq (AN Z (aF (C7 c15)) (T.seq (T.region Z (TL.run am [0,1,2,3] Z Z ?_)))))
       obtain rfl:=C8 h
       exact TL.nil (X.seq (T.ret (AL (BP [1] EJ (AK Z) (AK Z) (AK Z) ⟨Z,Z,Z⟩ (by rfl) (.inl Z)))))
     ·refine TL.nil (X.seq (AN Z (aF (C7 c11)) (T.seq (T.region Z (TL.run am [0,1,2,3] Z Z ?_)))))
      obtain rfl:=C8 h
      exact TL.nil (X.seq (T.ret (AL (BP [1] EJ (AK Z) (AK Z) (AK Z) ⟨Z,Z,Z⟩ (by rfl) (.inl Z)))))
    ·refine TL.nil (X.seq (AN Z (aF (C7 c7)) (T.seq (T.region Z (TL.run am [0,1,2] Z Z ?_)))))
     obtain rfl:=C8 h
     exact TL.nil (X.seq (T.ret (AL (BP [1] EJ (AK Z) (AK Z) (AK Z) ⟨Z,Z,Z⟩ (by rfl) (.inl Z)))))
def oa:fh := []
theorem aB:(oa).OK Tryz.prog:=trivial
theorem jO:SOK Tryz.prog 106 3 12 1 #[.int .i64 0,.int .i64 0,.int .i64 0,.int .i64 0,.int .i64 0,.int .i64 0,.int .i64 0,.int .i64 0,.int .i64 0,.int .i64 0,.int .i64 0,.int .i64 0]:=SOK.mk Dv De Tryz.zeroValue3 (by decide) (by kernel_rfl)
def bt (a0:List Int):Nat→List UInt8→Bool→List UInt8→Nat→Option (Lp (List UInt8×Bool) (List UInt8×Bool×List UInt8×Nat))
 | 0,_,_,_,_=>none
 | m11+1,y4,y5,y6,k7=>if (k7:Int)<12 then ((a0[k7]?).bind fun x16=>if (k7:Int)=3 then ((if x16<0 then some true else (if x16>4294967295 then some true else some false)).bind fun y21=>if y21=true then (some (Lp.ret ([],false))) else ((if x16>2147483647 then (if -9223372036854775808≤(x16 - 4294967296)∧(x16 - 4294967296)≤9223372036854775807 then some (x16 - 4294967296) else none) else some x16).bind fun y28=>(fA 2 1).bind fun x32=>if y6.length+x32.length≤9223372036854775807 then (([8,4,4,4,2,4,8,8,8,2,4,4][k7]?).bind fun x35=>(qa y28 x35).bind fun x38=>if x38=true then ((fA y28 x35).bind fun x41=>if (y6++x32).length+x41.length≤9223372036854775807 then (if -9223372036854775808≤((k7:Int)+1)∧((k7:Int)+1)≤9223372036854775807 then (bt a0 m11 y4 y5 ((y6++x32)++x41) (k7+1)) else none) else none) else (some (Lp.ret ([],false)))) else none)) else (([8,4,4,4,2,4,8,8,8,2,4,4][k7]?).bind fun x45=>(qa x16 x45).bind fun x48=>if x48=true then ((fA x16 x45).bind fun x51=>if y6.length+x51.length≤9223372036854775807 then (if -9223372036854775808≤((k7:Int)+1)∧((k7:Int)+1)≤9223372036854775807 then (bt a0 m11 y4 y5 (y6++x51) (k7+1)) else none) else none) else (some (Lp.ret ([],false))))) else (some (Lp.go (y4,y5,y6,k7)))
def eD (a0:List Int):Option (List UInt8×Bool):=(bt a0 ((12:Int).toNat+1) [] false [] 0).bind fun e=>match e with | .ret r=>some r | .go (y55,y56,y57,k58)=>some (y57,true)
theorem ke (a0:List Int) (A1:Option Addr) (c2:Nat) (r:List UInt8×Bool) (h:eD a0=some r):aA Tryz.prog 52 #[.slice A1 a0.length c2] (RX.of (ar 1 fc) [.slice A1 a0.length c2] a0) (aD) (fun v A' N=>v= .tuple #[jS r.1,.bool r.2]∧A'=aD∧N = []):=by
 refine aM Tryz.func52 Z Tryz.ntmps52 Z ?_
 intro F w hX
 unfold eD at h
 refine T.seq (T.region Z (TL.run aB [0,1] Z Z (TL.nil (X.seq (T.seq (T.region Z ?_))))))
 refine BT (cells:= #[jI 8,jI 4,jI 4,jI 4,jI 2,jI 4,jI 8,jI 8,jI 8,jI 2,jI 4,jI 4]) Z .u jO Z (by kernel_rfl) Z (fun b3=> ?_)
 refine Ct (us := [jI 8,jI 4,jI 4,jI 4,jI 2,jI 4,jI 8,jI 8,jI 8,jI 2,jI 4,jI 4]) (xs := [8,4,4,4,2,4,8,8,8,2,4,4]) (E:=fc) (z:=1) Z (Nat.le_of_ble_eq_true Z) (fun _=>⟨Z,Z,⟨Z,Z,⟨Z,Z,⟨Z,Z,⟨Z,Z,⟨Z,Z,⟨Z,Z,⟨Z,Z,⟨Z,Z,⟨Z,Z,⟨Z,Z,⟨Z,Z,Z⟩⟩⟩⟩⟩⟩⟩⟩⟩⟩⟩⟩) (TL.run aB [1] Z Z (TL.nil (X.seq (T.seq (T.region Z (TL.run aB [0] Z Z (TL.nil (X.seq (T.seq (T.seq (T.region Z (TL.run aB [0] Z Z (TL.nil (X.seq (T.block ?_)))))))))))))))
 obtain⟨E8,hE9,hO10⟩:=C5 h
 refine Bj (fun m e Rs=> ∃ (y4:List UInt8) (y5:Bool) (y6:List UInt8) (k7:Nat),e = [(0,.slice A1 a0.length c2),(2,jS y4),(3,.bool y5),(4,.slice (some ⟨b3,0,none⟩) 12 12),(5,jS y6),(6,jI (k7:Int))]∧Rs = [bp 3 1 fc (.slice (some ⟨b3,0,none⟩) 12 12) [8,4,4,4,2,4,8,8,8,2,4,4],aD]∧bt a0 m y4 y5 y6 k7=some E8) ((12:Int).toNat+1) [0,0] ⟨[],false,[],0,Z,Z,by exact hE9⟩ (by rfl) (by rfl) ?_
 rintro m11 _ _ ⟨y4,y5,y6,k7,rfl,rfl,hl13⟩
 clear hE9 h
 cases m11 with
 | zero =>
  rw[bt] at hl13
  cases hl13
 | succ m11 =>
  have h:=hl13
  clear hl13
  rw[bt] at h
  refine T.seq (T.seq (T.region Z (TL.run aB [0,1] Z Z ?_)))
  rcases jF h with⟨c15,h⟩ | ⟨c15,h⟩
  ·refine TL.nil (X.seq (AN Z (C6 c15) (T.skip (X.seq (T.seq (T.block (T.seq (T.region Z ?_))))))))
   obtain⟨x16,hx17,h⟩:=C5 h
   obtain⟨gz18,oz18,rfl,z18cs,z18cl,z18cc,z18nf,z18r⟩:=Bb (by decide) hX hx17
   obtain⟨z18S,z18r,z18rr⟩:=z18r
   obtain rfl:z18cs = [jI x16]:=z18r
   refine TL.run aB [0,1] Z Z ?_
   refine TL.q Z .u (AX (k:=k7) Z Z Z Dv De (Da hx17).1) Z ?_
   refine TL.q Z .u (Bt 0 Z Dc z18nf z18cc Z Z) Z (TL.run aB [4] Z Z (TL.nil (X.seq (T.seq (T.seq (T.region Z (TL.run aB [0,1] Z Z ?_)))))))
   rcases jF h with⟨c19,h⟩ | ⟨c19,h⟩
   ·refine TL.nil (X.seq (AN Z (C6 c19) (T.seq (T.seq ?_))))
    obtain⟨y21,h,hk22⟩:=C5 h
    refine BE (fun e Rs=>e = [(0,.slice (some ⟨gz18,oz18,none⟩) a0.length c2),(2,jS y4),(3,.bool y5),(4,.slice (some ⟨b3,0,none⟩) 12 12),(5,jS y6),(6,jI (k7:Int)),(7,jI x16),(24,.bool y21)]∧Rs = [bp 3 1 fc (.slice (some ⟨b3,0,none⟩) 12 12) [8,4,4,4,2,4,8,8,8,2,4,4],aD]) ?_ ?_
    ·clear hk22
     refine T.region Z ?_
     rcases jF h with⟨c23,h⟩ | ⟨c23,h⟩
     ·refine TL.run aB [0,1,2] Z Z ?_
      iterate 2 refine AM Z (.gn Z Z (C6 c23)) Z ?_
      refine TL.q Z .u (AP Z (C6 c23) Z) Z ?_
      cases h
      exact TL.nil (A5 [0,0] ⟨Z,Z⟩ (by rfl) (by rfl))
     ·refine TL.run aB [0,1,2] Z Z ?_
      iterate 2 refine TL.q Z (.g Z Z (C7 c23)) (AO aB Z) Z ?_
      refine TL.q Z .u (AR Z (C7 c23) Z) Z ?_
      rcases jF h with⟨c24,h⟩ | ⟨c24,h⟩
      ·cases h
       exact TL.nil (Bw (d:=24) (v':= .bool true) Z (congrArg Value.bool (C6 c24)) (A5 [0,0] ⟨Z,Z⟩ (by rfl) (by rfl)))
      ·cases h
       exact TL.nil (Bw (d:=24) (v':= .bool false) Z (congrArg Value.bool (C7 c24)) (A5 [0,0] ⟨Z,Z⟩ (by rfl) (by rfl)))
    ·rintro _ _ ⟨rfl,rfl⟩
     clear h
     have h:=hk22
     clear hk22
     try dsimp only at h
     rcases jF h with⟨c25,h⟩ | ⟨c25,h⟩
     ·refine X.seq (AN Z c25 (T.seq (T.region Z (TL.run aB [0,1] Z Z ?_))))
      obtain rfl:=C8 h
      replace h:=hO10
      clear hO10
      try dsimp only at h
      obtain rfl:=C8 h
      exact TL.nil (X.seq (T.ret (AL (AL (AU (AL (AL (AU (AL (Bi [1] Ft (AK Z) (AK Z) ⟨Z,Z,Z⟩ (by rfl) (.inl Z)))))))))))
     ·replace c25:=Dd c25
      refine X.seq (AS Z c25 (T.skip (X.seq (T.seq (T.seq (T.region Z (TL.run aB [0,1] Z Z (TL.nil (X.seq ?_)))))))))
      obtain⟨y28,h,hk29⟩:=C5 h
      refine BE (fun e Rs=>e = [(0,.slice (some ⟨gz18,oz18,none⟩) a0.length c2),(2,jS y4),(3,.bool y5),(4,.slice (some ⟨b3,0,none⟩) 12 12),(5,jS y6),(6,jI (k7:Int)),(7,jI y28)]∧Rs = [bp 3 1 fc (.slice (some ⟨b3,0,none⟩) 12 12) [8,4,4,4,2,4,8,8,8,2,4,4],aD]) ?_ ?_
      ·clear hk29
       rcases jF h with⟨c30,h⟩ | ⟨c30,h⟩
       ·refine AN Z (C6 c30) (T.region Z ?_)
        replace h:=an h
        obtain⟨c31,h⟩:=h
        refine TL.run aB [0] Z Z (TL.q Z .u (Ex.sub Z Z c31) Z (TL.run aB [2] Z Z ?_))
        cases h
        exact TL.nil (A5 [0,0] ⟨Z,Z⟩ (by rfl) (by rfl))
       ·refine AS Z (C7 c30) ?_
        cases h
        exact T.skip (A5 [0,0] ⟨Z,Z⟩ (by rfl) (by rfl))
      ·rintro _ _ ⟨rfl,rfl⟩
       clear h
       have h:=hk29
       clear hk29
       try dsimp only at h
       refine X.seq (T.region Z ?_)
       obtain⟨x32,hx33,h⟩:=C5 h
       refine TL.run aB [0] Z Z (Bc Z .u (.fn Tryz.call42 Z) (dV 2 1 _ hx33) (fun _ hs=>(AQ _ _)) Z ?_)
       replace h:=an h
       obtain⟨c34,h⟩:=h
       refine TL.q Z .u (Bf Z Z c34) Z (TL.run aB [3] Z Z (TL.nil (X.seq (T.seq (T.seq (T.region Z ?_))))))
       obtain⟨x35,hx36,h⟩:=C5 h
       refine TL.run aB [0,1,2] Z Z (Cv (E:=fc) (k:=k7) 0 Z (fun w G h=>bA (by decide) w G h) (by decide) hx36 ?_)
       rintro gg oo z37cs hA z37cl ⟨_,_,z37r⟩
       cases hA
       obtain rfl:z37cs = [jI x35]:=z37r
       clear z37cl
       refine Bp [0,0] Z ?_
       refine TL.q Z .u (AX (k:=k7) Z Z Z Dv De (Da hx36).1) Z ?_
       refine TL.q Z .u (Cl (cs := [jI x35]) 0 0 Z Dc Z (fun _ _ h=>h.2.2.1) Z) Z ?_
       obtain⟨x38,hx39,h⟩:=C5 h
       refine Bc Z .u (.fn Tryz.call116 Z) (oW y28 x35 _ hx39) (fun _ hs=>(AQ _ _)) Z (TL.run aB [6] Z Z ?_)
       rcases jF h with⟨c40,h⟩ | ⟨c40,h⟩
       ·refine TL.nil (X.seq (AS Z (ax c40) (T.skip (X.seq (T.region Z (TL.run aB [0,1,2,3] Z Z ?_))))))
        refine TL.q Z .u (AX (k:=k7) Z Z Z Dv De (Da hx36).1) Z ?_
        refine TL.q Z .u (Cl (cs := [jI x35]) 0 0 Z Dc Z (fun _ _ h=>h.2.2.1) Z) Z ?_
        obtain⟨x41,hx42,h⟩:=C5 h
        refine Bc Z .u (.fn Tryz.call42 Z) (dV y28 x35 _ hx42) (fun _ hs=>(AQ _ _)) Z ?_
        replace h:=an h
        obtain⟨c43,h⟩:=h
        refine TL.q Z .u (Bf Z Z c43) Z (TL.run aB [8] Z Z (TL.nil (AZ (X.seq (T.region Z ?_)))))
        replace h:=an h
        obtain⟨c44,h⟩:=h
        exact TL.run aB [0] Z Z (TL.q Z .u (Ex.add Z Z c44) Z (TL.run aB [2] Z Z (TL.nil (X.unf 0 Z (Bv [0,0] Z (X.back (m':=m11) [0,0] (by omega) ⟨y4,y5,((y6++x32)++x41),k7+1,Z,Z,h⟩ (by rfl) (by rfl)))))))
       ·replace c40:=Dd c40
        refine TL.nil (X.seq (AN Z (aF c40) (T.seq (T.region Z (TL.run aB [0,1] Z Z ?_)))))
        obtain rfl:=C8 h
        replace h:=hO10
        clear hO10
        try dsimp only at h
        obtain rfl:=C8 h
        exact TL.nil (X.seq (T.ret (AL (AU (AL (AL (AU (AL (Bi [1] Ft (AK Z) (AK Z) ⟨Z,Z,Z⟩ (by rfl) (.inl Z))))))))))
   ·refine TL.nil (X.seq (AS Z (C7 c19) (T.skip (X.seq (T.seq (T.seq (T.region Z ?_)))))))
    obtain⟨x45,hx46,h⟩:=C5 h
    refine TL.run aB [0,1,2] Z Z (Cv (E:=fc) (k:=k7) 0 Z (fun w G h=>bA (by decide) w G h) (by decide) hx46 ?_)
    rintro gg oo z47cs hA z47cl ⟨_,_,z47r⟩
    cases hA
    obtain rfl:z47cs = [jI x45]:=z47r
    clear z47cl
    refine Bp [0,0] Z ?_
    refine TL.q Z .u (AX (k:=k7) Z Z Z Dv De (Da hx46).1) Z ?_
    refine TL.q Z .u (Cl (cs := [jI x45]) 0 0 Z Dc Z (fun _ _ h=>h.2.2.1) Z) Z ?_
    obtain⟨x48,hx49,h⟩:=C5 h
    refine Bc Z .u (.fn Tryz.call116 Z) (oW x16 x45 _ hx49) (fun _ hs=>(AQ _ _)) Z (TL.run aB [6] Z Z ?_)
    rcases jF h with⟨c50,h⟩ | ⟨c50,h⟩
    ·refine TL.nil (X.seq (AS Z (ax c50) (T.skip (X.seq (T.region Z (TL.run aB [0,1,2,3] Z Z ?_))))))
     refine TL.q Z .u (AX (k:=k7) Z Z Z Dv De (Da hx46).1) Z ?_
     refine TL.q Z .u (Cl (cs := [jI x45]) 0 0 Z Dc Z (fun _ _ h=>h.2.2.1) Z) Z ?_
     obtain⟨x51,hx52,h⟩:=C5 h
     refine Bc Z .u (.fn Tryz.call42 Z) (dV x16 x45 _ hx52) (fun _ hs=>(AQ _ _)) Z ?_
     replace h:=an h
     obtain⟨c53,h⟩:=h
     refine TL.q Z .u (Bf Z Z c53) Z (TL.run aB [8] Z Z (TL.nil (AZ (X.seq (T.region Z ?_)))))
     replace h:=an h
     obtain⟨c54,h⟩:=h
     exact TL.run aB [0] Z Z (TL.q Z .u (Ex.add Z Z c54) Z (TL.run aB [2] Z Z (TL.nil (X.unf 0 Z (Bv [0,0] Z (X.back (m':=m11) [0,0] (by omega) ⟨y4,y5,(y6++x51),k7+1,Z,Z,h⟩ (by rfl) (by rfl)))))))
    ·replace c50:=Dd c50
     refine TL.nil (X.seq (AN Z (aF c50) (T.seq (T.region Z (TL.run aB [0,1] Z Z ?_)))))
     obtain rfl:=C8 h
     replace h:=hO10
     clear hO10
     try dsimp only at h
     obtain rfl:=C8 h
     exact TL.nil (X.seq (T.ret (AL (AU (AL (AL (AU (AL (Bi [1] Ft (AK Z) (AK Z) ⟨Z,Z,Z⟩ (by rfl) (.inl Z))))))))))
  ·refine TL.nil (X.seq (AS Z (C7 c15) ?_))
   obtain rfl:=C8 h
   replace h:=hO10
   clear hO10
   try dsimp only at h
   refine T.exit (AV (AV (Bh (X.seq (T.seq (T.region Z (TL.run aB [0,1,2] Z Z ?_)))))))
   obtain rfl:=C8 h
   exact TL.nil (X.seq (T.ret (Bi [1] Ft (AK Z) (AK Z) ⟨Z,Z,Z⟩ (by rfl) (.inl Z))))
def ob:fh := [(27,0,0),(27,1,1),(27,2,2),(27,3,3),(27,4,4),(27,5,5),(27,6,6),(27,7,7),(27,8,8),(27,9,9),(27,10,10),(27,11,11),(38,0,0),(38,1,1),(220,0,0),(220,1,7),(220,2,8)]
theorem aa:(ob).OK Tryz.prog:=⟨FOK.mk Dp rfl De rfl,FOK.mk Dp rfl De rfl,FOK.mk Dp rfl DP rfl,FOK.mk Dp rfl DP rfl,FOK.mk Dp rfl DP rfl,FOK.mk Dp rfl De rfl,FOK.mk Dp rfl De rfl,FOK.mk Dp rfl De rfl,FOK.mk Dp rfl De rfl,FOK.mk Dp rfl De rfl,FOK.mk Dp rfl De rfl,FOK.mk Dp rfl Tryz.sizeOf25 rfl,FOK.mk Dw rfl De rfl,FOK.mk Dw rfl De rfl,FOK.mk ES rfl Dj rfl,FOK.mk ES rfl De rfl,FOK.mk ES rfl De rfl,trivial⟩
theorem d7:Tryz.prog.follows .mixedOrders=true:=by kernel_rfl
theorem fR:SOK Tryz.prog 106 3 12 1 #[.int .i64 0,.int .i64 0,.int .i64 0,.int .i64 0,.int .i64 0,.int .i64 0,.int .i64 0,.int .i64 0,.int .i64 0,.int .i64 0,.int .i64 0,.int .i64 0]:=SOK.mk Dv De Tryz.zeroValue3 (by decide) (by kernel_rfl)
def eP (a0:Int) (a1:Int):Option (Bool):=if a0≥a1 then (if a0≤2147483647 then some true else some false) else some false
theorem gv (a0:Int) (a1:Int) (r:Bool) (h:eP a0 a1=some r):aA Tryz.prog 43 #[jI a0,jI a1] .triv (aD) (fun v A' N=>v= .bool r∧A'=aD∧N = []):=by
 refine aM Tryz.func43 Z Tryz.ntmps43 Z ?_
 intro F w hX
 unfold eP at h
 refine T.seq (T.region Z (TL.run aa [0] Z Z (TL.nil (X.seq (T.seq (T.region Z ?_))))))
 rcases jF h with⟨c1,h⟩ | ⟨c1,h⟩
 ·refine TL.run aa [0,1,2,3] Z Z ?_
  iterate 2 refine TL.q Z (.g Z Z (C6 c1)) (AO aa Z) Z ?_
  refine TL.q Z .u (AP Z (C6 c1) Z) Z (TL.run aa [7] Z Z ?_)
  rcases jF h with⟨c2,h⟩ | ⟨c2,h⟩
  ·obtain rfl:=C8 h
   exact TL.nil (X.seq (T.ret (AJ [0] Tryz.results43 (AK (v:= .bool true) (congrArg (fun b=>some (Value.bool b)) (C6 c2))) ⟨Z,Z,Z⟩ (by rfl) (.inl Z))))
  ·obtain rfl:=C8 h
   exact TL.nil (X.seq (T.ret (AJ [0] Tryz.results43 (AK (v:= .bool false) (congrArg (fun b=>some (Value.bool b)) (C7 c2))) ⟨Z,Z,Z⟩ (by rfl) (.inl Z))))
 ·refine TL.run aa [0,1,2,3] Z Z ?_
  iterate 2 refine AM Z (.gn Z Z (C7 c1)) Z ?_
  refine TL.q Z .u (AR Z (C7 c1) Z) Z (TL.run aa [7] Z Z ?_)
  obtain rfl:=C8 h
  exact TL.nil (X.seq (T.ret (AJ [0] Tryz.results43 (AK Z) ⟨Z,Z,Z⟩ (by rfl) (.inl Z))))
def ey (a0:Bat):Option (Bool):=if a0.CE=(-1) then (if a0.CK=(-1) then (if a0.CD=(-1) then (if a0.C0=true then some false else some true) else some false) else some false) else (if a0.CE<0 then some false else (if a0.CK<0 then some false else (if a0.CK>32767 then some false else (if a0.CL=true then (if a0.CD=(-1) then some true else some false) else ((eP a0.CD 0).bind fun x13=>some x13)))))
theorem iE (a0:Bat) (A1:Option Addr) (c2:Nat) (r:Bool) (h:ey a0=some r):aA Tryz.prog 44 #[.agg #[jI a0.CP,jI a0.CI,.bool a0.CV,.bool a0.C0,.bool a0.CL,jI a0.CN,jI a0.CH,jI a0.CW,jI a0.CE,jI a0.CK,jI a0.CD,.slice A1 a0.Cy.length c2]] (RX.of (ar 7 aU) [.slice A1 a0.Cy.length c2] a0.Cy) (aD) (fun v A' N=>v= .bool r∧A'=aD∧N = []):=by
 refine aM Tryz.func44 Z Tryz.ntmps44 Z ?_
 intro F w hX
 unfold ey at h
 refine T.seq (T.region Z (TL.box Z .u Z Z (fun b3=>(TL.run aa [1] Z Z (TL.nil (X.seq (T.seq (T.seq (T.region Z (TL.run aa [0] Z Z (TL.q Z .u (AH 0 Z Dc Z Z) Z (TL.run aa [2] Z Z ?_))))))))))))
 rcases jF h with⟨c4,h⟩ | ⟨c4,h⟩
 ·refine TL.nil (X.seq (AN Z (C6 c4) (T.seq (T.region Z (TL.run aa [0] Z Z (TL.q Z .u (AH 0 Z Dc Z Z) Z ?_))))))
  rcases jF h with⟨c5,h⟩ | ⟨c5,h⟩
  ·refine TL.run aa [2,3] Z Z (TL.q Z (.g Z Z (C6 c5)) (AO aa Z) Z (TL.q Z (.g Z Z (C6 c5)) (AH 0 Z Dc Z Z) Z (TL.q Z (.g Z Z (C6 c5)) (AO aa Z) Z (TL.q Z .u (AP Z (C6 c5) Z) Z ?_))))
   rcases jF h with⟨c6,h⟩ | ⟨c6,h⟩
   ·refine TL.run aa [8] Z Z (TL.q Z (.g Z Z (C6 c6)) (AO aa Z) Z (TL.q Z (.g Z Z (C6 c6)) (AH 0 Z Do Z Z) Z (TL.q Z (.g Z Z (C6 c6)) (AO aa Z) Z (TL.q Z .u (AP Z (C6 c6) Z) Z (TL.run aa [13] Z Z ?_)))))
    rcases jF h with⟨c7,h⟩ | ⟨c7,h⟩
    ·obtain rfl:=C8 h
     exact TL.nil (X.seq (T.ret (AL (AJ [1] Et (AK (v:= .bool false) (congrArg (fun b=>some (Value.bool b)) (ax c7))) ⟨Z,Z,Z⟩ (by rfl) (.inl Z)))))
    ·replace c7:=Dd c7
     obtain rfl:=C8 h
     exact TL.nil (X.seq (T.ret (AL (AJ [1] Et (AK (v:= .bool true) (congrArg (fun b=>some (Value.bool b)) (aF c7))) ⟨Z,Z,Z⟩ (by rfl) (.inl Z)))))
   ·refine TL.run aa [8] Z Z ?_
    iterate 3 refine AM Z (.gn Z Z (C7 c6)) Z ?_
    refine TL.q Z .u (AR Z (C7 c6) Z) Z (TL.run aa [13] Z Z ?_)
    obtain rfl:=C8 h
    exact TL.nil (X.seq (T.ret (AL (AJ [1] Et (AK Z) ⟨Z,Z,Z⟩ (by rfl) (.inl Z)))))
  ·refine TL.run aa [2,3] Z Z ?_
   iterate 3 refine AM Z (.gn Z Z (C7 c5)) Z ?_
   refine TL.q Z .u (AR Z (C7 c5) Z) Z (TL.run aa [8] Z Z ?_)
   iterate 3 refine AM Z (.gn Z Z Z) Z ?_
   refine TL.q Z .u (AR Z Z Z) Z (TL.run aa [13] Z Z ?_)
   obtain rfl:=C8 h
   exact TL.nil (X.seq (T.ret (AL (AJ [1] Et (AK Z) ⟨Z,Z,Z⟩ (by rfl) (.inl Z)))))
 ·refine TL.nil (X.seq (AS Z (C7 c4) (T.skip (X.seq (T.seq (T.seq (T.region Z (TL.run aa [0] Z Z (TL.q Z .u (AH 0 Z Dc Z Z) Z ?_)))))))))
  rcases jF h with⟨c8,h⟩ | ⟨c8,h⟩
  ·refine TL.run aa [2,3] Z Z ?_
   iterate 3 refine AM Z (.gn Z Z (C6 c8)) Z ?_
   refine TL.q Z .u (AP Z (C6 c8) Z) Z (TL.run aa [8] Z Z ?_)
   iterate 3 refine AM Z (.gn Z Z Z) Z ?_
   refine TL.q Z .u (AP Z Z Z) Z (TL.nil (X.seq (AN Z Z (T.seq (T.region Z (TL.run aa [0] Z Z ?_))))))
   obtain rfl:=C8 h
   exact TL.nil (X.seq (T.ret (AL (AJ [1] Et (AK Z) ⟨Z,Z,Z⟩ (by rfl) (.inl Z)))))
  ·refine TL.run aa [2,3] Z Z (TL.q Z (.g Z Z (C7 c8)) (AO aa Z) Z (TL.q Z (.g Z Z (C7 c8)) (AH 0 Z Dc Z Z) Z (TL.q Z (.g Z Z (C7 c8)) (AO aa Z) Z (TL.q Z .u (AR Z (C7 c8) Z) Z ?_))))
   rcases jF h with⟨c9,h⟩ | ⟨c9,h⟩
   ·refine TL.run aa [8] Z Z ?_
    iterate 3 refine AM Z (.gn Z Z (C6 c9)) Z ?_
    refine TL.q Z .u (AP Z (C6 c9) Z) Z (TL.nil (X.seq (AN Z Z (T.seq (T.region Z (TL.run aa [0] Z Z ?_))))))
    obtain rfl:=C8 h
    exact TL.nil (X.seq (T.ret (AL (AJ [1] Et (AK Z) ⟨Z,Z,Z⟩ (by rfl) (.inl Z)))))
   ·refine TL.run aa [8] Z Z (TL.q Z (.g Z Z (C7 c9)) (AO aa Z) Z (TL.q Z (.g Z Z (C7 c9)) (AH 0 Z Dc Z Z) Z (TL.q Z (.g Z Z (C7 c9)) (AO aa Z) Z (TL.q Z .u (AR Z (C7 c9) Z) Z ?_))))
    rcases jF h with⟨c10,h⟩ | ⟨c10,h⟩
    ·refine TL.nil (X.seq (AN Z (C6 c10) (T.seq (T.region Z (TL.run aa [0] Z Z ?_)))))
     obtain rfl:=C8 h
     exact TL.nil (X.seq (T.ret (AL (AJ [1] Et (AK Z) ⟨Z,Z,Z⟩ (by rfl) (.inl Z)))))
    ·refine TL.nil (X.seq (AS Z (C7 c10) (T.skip (X.seq (T.seq (T.seq (T.region Z (TL.run aa [0] Z Z (TL.q Z .u (AH 0 Z Do Z Z) Z ?_)))))))))
     rcases jF h with⟨c11,h⟩ | ⟨c11,h⟩
     ·refine TL.nil (X.seq (AN Z c11 (T.seq (T.region Z (TL.run aa [0] Z Z (TL.q Z .u (AH 0 Z Dc Z Z) Z (TL.run aa [2,3] Z Z ?_)))))))
      rcases jF h with⟨c12,h⟩ | ⟨c12,h⟩
      ·obtain rfl:=C8 h
       exact TL.nil (X.seq (T.ret (AL (AJ [1] Et (AK (v:= .bool true) (congrArg (fun b=>some (Value.bool b)) (C6 c12))) ⟨Z,Z,Z⟩ (by rfl) (.inl Z)))))
      ·obtain rfl:=C8 h
       exact TL.nil (X.seq (T.ret (AL (AJ [1] Et (AK (v:= .bool false) (congrArg (fun b=>some (Value.bool b)) (C7 c12))) ⟨Z,Z,Z⟩ (by rfl) (.inl Z)))))
     ·replace c11:=Dd c11
      refine TL.nil (X.seq (AS Z c11 (T.skip (X.seq (T.seq (T.region Z (TL.run aa [0] Z Z (TL.q Z .u (AH 0 Z Dc Z Z) Z ?_))))))))
      obtain⟨x13,hx14,h⟩:=C5 h
      refine Bc Z .u (.fn Tryz.call43 Z) (gv a0.CD 0 _ hx14) (fun _ hs=>(AQ _ _)) Z (TL.run aa [3] Z Z ?_)
      obtain rfl:=C8 h
      exact TL.nil (X.seq (T.ret (AJ [1] Et (AK Z) ⟨Z,Z,Z⟩ (by rfl) (.inl Z))))
def cM (a0:Bat):Nat→Int→Int→Nat→Option (Lp Int (Int×Int×Nat))
 | 0,_,_,_=>none
 | m10+1,y4,y5,k6=>if (k6:Int)<(a0.Cy.length:Int) then ((a0.Cy[k6]?).bind fun x15=>if -9223372036854775808≤(9223372036854775807 - a0.CH)∧(9223372036854775807 - a0.CH)≤9223372036854775807 then (if x15.CY>(9223372036854775807 - a0.CH) then (some (Lp.ret (-1))) else (if -9223372036854775808≤(-a0.CH)∧(-a0.CH)≤9223372036854775807 then (if x15.CY<(-a0.CH) then (some (Lp.ret (-1))) else (if -9223372036854775808≤(a0.CH+x15.CY)∧(a0.CH+x15.CY)≤9223372036854775807 then (if (a0.CH+x15.CY)>y5 then (if -9223372036854775808≤(a0.CH+x15.CY)∧(a0.CH+x15.CY)≤9223372036854775807 then (if -9223372036854775808≤((k6:Int)+1)∧((k6:Int)+1)≤9223372036854775807 then (cM a0 m10 y4 (a0.CH+x15.CY) (k6+1)) else none) else none) else (if -9223372036854775808≤((k6:Int)+1)∧((k6:Int)+1)≤9223372036854775807 then (cM a0 m10 y4 y5 (k6+1)) else none)) else none)) else none)) else none) else (some (Lp.go (y4,y5,k6)))
def jz (a0:Bat):Option (Int):=(cM a0 (((a0.Cy.length:Int)).toNat+1) 0 a0.CH 0).bind fun e=>match e with | .ret r=>some r | .go (y30,y31,k32)=>some y31
theorem oc (a0:Bat) (A1:Option Addr) (c2:Nat) (r:Int) (h:jz a0=some r):aA Tryz.prog 106 #[.agg #[jI a0.CP,jI a0.CI,.bool a0.CV,.bool a0.C0,.bool a0.CL,jI a0.CN,jI a0.CH,jI a0.CW,jI a0.CE,jI a0.CK,jI a0.CD,.slice A1 a0.Cy.length c2]] (RX.of (ar 7 aU) [.slice A1 a0.Cy.length c2] a0.Cy) (aD) (fun v A' N=>v=jI r∧A'=aD∧N = []):=by
 refine aM Tryz.func106 Z Tryz.ntmps106 Z ?_
 intro F w hX
 unfold jz at h
 refine T.seq (T.region Z (TL.box Z .u Z Z (fun b3=>(TL.run aa [1] Z Z (TL.nil (X.seq (T.seq (T.region Z (TL.run aa [0] Z Z (TL.q Z .u (AH 0 Z Dc Z Z) Z (TL.run aa [2] Z Z (TL.nil (X.seq (T.seq (T.seq (T.region Z ?_))))))))))))))))
 refine TL.run aa [0] Z Z (TL.nil (X.seq (T.block ?_)))
 obtain⟨E7,hE8,hO9⟩:=C5 h
 refine Bj (fun m e Rs=> ∃ (y4:Int) (y5:Int) (k6:Nat),e = [(1,jP b3),(2,jI y4),(3,jI y5),(4,jI (k6:Int))]∧Rs = [aC b3 27 #[jI a0.CP,jI a0.CI,.bool a0.CV,.bool a0.C0,.bool a0.CL,jI a0.CN,jI a0.CH,jI a0.CW,jI a0.CE,jI a0.CK,jI a0.CD,.slice A1 a0.Cy.length c2],aD]∧cM a0 m y4 y5 k6=some E7) (((a0.Cy.length:Int)).toNat+1) [0,0] ⟨0,a0.CH,0,Z,Z,by exact hE8⟩ (by rfl) (by rfl) ?_
 rintro m10 _ _ ⟨y4,y5,k6,rfl,rfl,hl12⟩
 clear hE8 h
 cases m10 with
 | zero =>
  rw[cM] at hl12
  cases hl12
 | succ m10 =>
  have h:=hl12
  clear hl12
  rw[cM] at h
  refine T.seq (T.seq (T.region Z (TL.run aa [0,1] Z Z (TL.q Z .u (AH 0 Z DA Z Z) Z (TL.q Z .u (AW Z Dl) Z (TL.run aa [4] Z Z ?_))))))
  rcases jF h with⟨c14,h⟩ | ⟨c14,h⟩
  ·refine TL.nil (X.seq (AN Z (C6 c14) (T.skip (X.seq (T.seq (T.block (T.seq (T.region Z (TL.run aa [0] Z Z (TL.q Z .u (AH 0 Z DA Z Z) Z ?_))))))))))
   obtain⟨x15,hx16,h⟩:=C5 h
   obtain⟨gz17,oz17,rfl,z17cs,z17cl,z17cc,z17nf,z17r⟩:=Bb (by decide) hX hx16
   obtain⟨z17S,z17r,z17rr⟩:=z17r
   obtain⟨A18,c19,rfl,z17s0⟩:=z17r
   have hX20:(RX.of (ar 3 bG) [.slice A18 x15.CF.length c19] x15.CF).reads w F:=⟨z17S,z17s0,z17rr⟩
   refine TL.run aa [2] Z Z ?_
   refine TL.q Z .u (AX (k:=k6) Z Z Z Dl Dj (Da hx16).1) Z ?_
   refine TL.run aa [4] Z Z (TL.q Z .u (Bt 0 Z Dc z17nf z17cc Z Z) Z (TL.run aa [6] Z Z (TL.nil (X.seq (T.seq (T.seq (T.region Z (TL.run aa [0,1] Z Z (TL.q Z .u (AH 0 Z Dc Z Z) Z ?_)))))))))
   replace h:=an h
   obtain⟨c21,h⟩:=h
   refine TL.q Z .u (Ex.sub Z Z c21) Z ?_
   rcases jF h with⟨c22,h⟩ | ⟨c22,h⟩
   ·refine TL.run aa [4,5] Z Z ?_
    iterate 5 refine AM Z (.gn Z Z (C6 c22)) Z ?_
    refine TL.q Z .u (AP Z (C6 c22) Z) Z (TL.nil (X.seq (AN Z Z (T.seq (T.region Z (TL.run aa [0] Z Z ?_))))))
    obtain rfl:=C8 h
    replace h:=hO9
    clear hO9
    try dsimp only at h
    obtain rfl:=C8 h
    exact TL.nil (X.seq (T.ret (AL (AU (AL (AL (AU (AL (AJ [1] Tryz.results106 (AK Z) ⟨Z,Z,Z⟩ (by rfl) (.inl Z))))))))))
   ·refine TL.run aa [4,5] Z Z ?_
    iterate 2 refine TL.q Z (.g Z Z (C7 c22)) (AO aa Z) Z ?_
    refine TL.q Z (.g Z Z (C7 c22)) (AH 0 Z Dc Z Z) Z ?_
    replace h:=an h
    obtain⟨c23,h⟩:=h
    refine TL.q Z (.g Z Z (C7 c22)) (Ex.neg Z c23) Z (TL.q Z (.g Z Z (C7 c22)) (AO aa Z) Z (TL.q Z .u (AR Z (C7 c22) Z) Z ?_))
    rcases jF h with⟨c24,h⟩ | ⟨c24,h⟩
    ·refine TL.nil (X.seq (AN Z (C6 c24) (T.seq (T.region Z (TL.run aa [0] Z Z ?_)))))
     obtain rfl:=C8 h
     replace h:=hO9
     clear hO9
     try dsimp only at h
     obtain rfl:=C8 h
     exact TL.nil (X.seq (T.ret (AL (AU (AL (AL (AU (AL (AJ [1] Tryz.results106 (AK Z) ⟨Z,Z,Z⟩ (by rfl) (.inl Z))))))))))
    ·refine TL.nil (X.seq (AS Z (C7 c24) (T.skip (X.seq (T.seq (T.region Z (TL.run aa [0] Z Z (TL.q Z .u (AH 0 Z Dc Z Z) Z ?_))))))))
     replace h:=an h
     obtain⟨c25,h⟩:=h
     refine TL.run aa [2] Z Z (TL.q Z .u (Ex.add Z Z c25) Z (TL.run aa [4,5] Z Z ?_))
     rcases jF h with⟨c26,h⟩ | ⟨c26,h⟩
     ·refine TL.nil (X.seq (AN Z (C6 c26) (T.region Z (TL.run aa [0] Z Z (TL.q Z .u (AH 0 Z Dc Z Z) Z ?_)))))
      replace h:=an h
      obtain⟨c27,h⟩:=h
      refine TL.run aa [2] Z Z (TL.q Z .u (Ex.add Z Z c27) Z (TL.run aa [4] Z Z (TL.nil (AZ (X.seq (T.region Z ?_))))))
      replace h:=an h
      obtain⟨c28,h⟩:=h
      exact TL.run aa [0] Z Z (TL.q Z .u (Ex.add Z Z c28) Z (TL.run aa [2] Z Z (TL.nil (X.back (m':=m10) [0,0] (by omega) ⟨y4,(a0.CH+x15.CY),k6+1,Z,Z,h⟩ (by rfl) (by rfl)))))
     ·refine TL.nil (X.seq (AS Z (C7 c26) (T.skip (AZ (X.seq (T.region Z ?_))))))
      replace h:=an h
      obtain⟨c29,h⟩:=h
      exact TL.run aa [0] Z Z (TL.q Z .u (Ex.add Z Z c29) Z (TL.run aa [2] Z Z (TL.nil (X.back (m':=m10) [0,0] (by omega) ⟨y4,y5,k6+1,Z,Z,h⟩ (by rfl) (by rfl)))))
  ·refine TL.nil (X.seq (AS Z (C7 c14) ?_))
   obtain rfl:=C8 h
   replace h:=hO9
   clear hO9
   try dsimp only at h
   refine T.exit (AV (AV (Bh (X.seq (T.seq (T.region Z (TL.run aa [0,1] Z Z ?_)))))))
   obtain rfl:=C8 h
   exact TL.nil (X.seq (T.ret (AJ [1] Tryz.results106 (AK Z) ⟨Z,Z,Z⟩ (by rfl) (.inl Z))))
def bz (a0:Bat):Nat→Int→Nat→Option (Lp Int (Int×Nat))
 | 0,_,_=>none
 | m9+1,y4,k5=>if (k5:Int)<(a0.Cy.length:Int) then ((a0.Cy[k5]?).bind fun x14=>if x14.CU>a0.CN then some (Lp.ret 13) else (if (k5:Int)>0 then (if -9223372036854775808≤((k5:Int) - 1)∧((k5:Int) - 1)≤9223372036854775807 then (if 0≤((k5:Int) - 1) then ((a0.Cy[((k5:Int) - 1).toNat]?).bind fun x24=>if x14.CU≤x24.CU then some (Lp.ret 13) else (if x14.CU<0 then some (Lp.ret 13) else (if -9223372036854775808≤(9223372036854775807 - a0.CH)∧(9223372036854775807 - a0.CH)≤9223372036854775807 then (if x14.CY>(9223372036854775807 - a0.CH) then some (Lp.ret 11) else (if -9223372036854775808≤(-a0.CH)∧(-a0.CH)≤9223372036854775807 then (if x14.CY<(-a0.CH) then some (Lp.ret 11) else (if -9223372036854775808≤((k5:Int)+1)∧((k5:Int)+1)≤9223372036854775807 then (bz a0 m9 y4 (k5+1)) else none)) else none)) else none))) else none) else none) else (if x14.CU<0 then some (Lp.ret 13) else (if -9223372036854775808≤(9223372036854775807 - a0.CH)∧(9223372036854775807 - a0.CH)≤9223372036854775807 then (if x14.CY>(9223372036854775807 - a0.CH) then some (Lp.ret 11) else (if -9223372036854775808≤(-a0.CH)∧(-a0.CH)≤9223372036854775807 then (if x14.CY<(-a0.CH) then some (Lp.ret 11) else (if -9223372036854775808≤((k5:Int)+1)∧((k5:Int)+1)≤9223372036854775807 then (bz a0 m9 y4 (k5+1)) else none)) else none)) else none)))) else (some (Lp.go (y4,k5)))
def d8 (a0:Bat):Option (Int):=(bz a0 (((a0.Cy.length:Int)).toNat+1) 0 0).bind fun e=>match e with | .ret r=>some r | .go (y47,k48)=>(if a0.CV=true then some 0 else ((jz a0).bind fun x50=>if x50=a0.CW then some 0 else some 11))
theorem jA (a0:Bat) (A1:Option Addr) (c2:Nat) (r:Int) (h:d8 a0=some r):aA Tryz.prog 47 #[.agg #[jI a0.CP,jI a0.CI,.bool a0.CV,.bool a0.C0,.bool a0.CL,jI a0.CN,jI a0.CH,jI a0.CW,jI a0.CE,jI a0.CK,jI a0.CD,.slice A1 a0.Cy.length c2]] (RX.of (ar 7 aU) [.slice A1 a0.Cy.length c2] a0.Cy) (aD) (fun v A' N=>v=jI r∧A'=aD∧N = []):=by
 refine aM Tryz.func47 Z Tryz.ntmps47 Z ?_
 intro F w hX
 unfold d8 at h
 refine T.seq (T.region Z (TL.box Z .u Z Z (fun b3=>(TL.run aa [1] Z Z (TL.nil (X.seq (T.seq (T.seq (T.region Z (TL.run aa [0] Z Z (TL.nil (X.seq (T.block ?_)))))))))))))
 obtain⟨E6,hE7,hO8⟩:=C5 h
 refine Bj (fun m e Rs=> ∃ (y4:Int) (k5:Nat),e = [(1,jP b3),(2,jI y4),(3,jI (k5:Int))]∧Rs = [aC b3 27 #[jI a0.CP,jI a0.CI,.bool a0.CV,.bool a0.C0,.bool a0.CL,jI a0.CN,jI a0.CH,jI a0.CW,jI a0.CE,jI a0.CK,jI a0.CD,.slice A1 a0.Cy.length c2],aD]∧bz a0 m y4 k5=some E6) (((a0.Cy.length:Int)).toNat+1) [0,0] ⟨0,0,Z,Z,by exact hE7⟩ (by rfl) (by rfl) ?_
 rintro m9 _ _ ⟨y4,k5,rfl,rfl,hl11⟩
 clear hE7 h
 cases m9 with
 | zero =>
  rw[bz] at hl11
  cases hl11
 | succ m9 =>
  have h:=hl11
  clear hl11
  rw[bz] at h
  refine T.seq (T.seq (T.region Z (TL.run aa [0,1] Z Z (TL.q Z .u (AH 0 Z DA Z Z) Z (TL.q Z .u (AW Z Dl) Z (TL.run aa [4] Z Z ?_))))))
  rcases jF h with⟨c13,h⟩ | ⟨c13,h⟩
  ·refine TL.nil (X.seq (AN Z (C6 c13) (T.skip (X.seq (T.seq (T.block (T.seq (T.region Z (TL.run aa [0] Z Z (TL.q Z .u (AH 0 Z DA Z Z) Z ?_))))))))))
   obtain⟨x14,hx15,h⟩:=C5 h
   obtain⟨gz16,oz16,rfl,z16cs,z16cl,z16cc,z16nf,z16r⟩:=Bb (by decide) hX hx15
   obtain⟨z16S,z16r,z16rr⟩:=z16r
   obtain⟨A17,c18,rfl,z16s0⟩:=z16r
   have hX19:(RX.of (ar 3 bG) [.slice A17 x14.CF.length c18] x14.CF).reads w F:=⟨z16S,z16s0,z16rr⟩
   refine TL.run aa [2] Z Z ?_
   refine TL.q Z .u (AX (k:=k5) Z Z Z Dl Dj (Da hx15).1) Z ?_
   refine TL.run aa [4] Z Z (TL.q Z .u (Bt 1 Z Dc z16nf z16cc Z Z) Z (TL.run aa [6] Z Z (TL.nil (X.seq (T.seq (T.seq (T.region Z (TL.run aa [0,1] Z Z (TL.q Z .u (AH 0 Z Dc Z Z) Z ?_)))))))))
   rcases jF h with⟨c20,h⟩ | ⟨c20,h⟩
   ·refine TL.run aa [3,4] Z Z ?_
    iterate 3 refine AM Z (.gn Z Z (C6 c20)) Z ?_
    iterate 9 refine AM Z (.gu Z Z) Z ?_
    refine AM Z (.gn Z Z (C6 c20)) Z (TL.q Z .u (AP Z (C6 c20) Z) Z (TL.run aa [19] Z Z ?_))
    iterate 2 refine AM Z (.gn Z Z Z) Z ?_
    refine TL.q Z .u (AP Z Z Z) Z (TL.nil (X.seq (AN Z Z (T.seq (T.region Z (TL.run aa [0] Z Z ?_))))))
    obtain rfl:=C8 h
    replace h:=hO8
    clear hO8
    try dsimp only at h
    obtain rfl:=C8 h
    exact TL.nil (X.seq (T.ret (AL (AU (AL (AL (AU (AL (AJ [1] Em (AK Z) ⟨Z,Z,Z⟩ (by rfl) (.inl Z))))))))))
   ·refine TL.run aa [3,4] Z Z ?_
    iterate 3 refine TL.q Z (.g Z Z (C7 c20)) (AO aa Z) Z ?_
    rcases jF h with⟨c21,h⟩ | ⟨c21,h⟩
    ·refine TL.q Z (.g Z Z (C6 c21)) (AO aa Z) Z (TL.q Z (.g Z Z (C6 c21)) (AO aa Z) Z (TL.q Z (.g Z Z (C6 c21)) (AH 0 Z DA Z Z) Z (TL.q Z (.g Z Z (C6 c21)) (AO aa Z) Z ?_)))
     replace h:=an h
     obtain⟨c22,h⟩:=h
     refine TL.q Z (.g Z Z (C6 c21)) (Ex.sub Z Z c22) Z ?_
     replace h:=an h
     obtain⟨c23,h⟩:=h
     obtain⟨x24,hx25,h⟩:=C5 h
     obtain⟨z26cs,z26cl,z26cc,z26nf,z26r⟩:=Cd (by decide) hX hx25
     obtain⟨z26S,z26r,z26rr⟩:=z26r
     obtain⟨A27,c28,rfl,z26s0⟩:=z26r
     have hX29:(RX.of (ar 3 bG) [.slice A27 x24.CF.length c28] x24.CF).reads w F:=⟨z26S,z26s0,z26rr⟩
     refine TL.q Z (.g Z Z (C6 c21)) (AX (k:=((k5:Int) - 1).toNat) Z Z ((Int.toNat_of_nonneg c23).symm) Dl Dj (Da hx25).1) Z ?_
     refine TL.q Z (.g Z Z (C6 c21)) (AO aa Z) Z (TL.q Z (.g Z Z (C6 c21)) (Bt 1 Z Dc z26nf z26cc Z Z) Z (TL.q Z (.g Z Z (C6 c21)) (AO aa Z) Z (TL.q Z (.g Z Z (C7 c20)) (AP Z (C6 c21) Z) Z (TL.q Z .u (AR Z (C7 c20) Z) Z ?_))))
     rcases jF h with⟨c30,h⟩ | ⟨c30,h⟩
     ·refine TL.run aa [19] Z Z ?_
      iterate 2 refine AM Z (.gn Z Z (C6 c30)) Z ?_
      refine TL.q Z .u (AP Z (C6 c30) Z) Z (TL.nil (X.seq (AN Z Z (T.seq (T.region Z (TL.run aa [0] Z Z ?_))))))
      obtain rfl:=C8 h
      replace h:=hO8
      clear hO8
      try dsimp only at h
      obtain rfl:=C8 h
      exact TL.nil (X.seq (T.ret (AL (AU (AL (AL (AU (AL (AJ [1] Em (AK Z) ⟨Z,Z,Z⟩ (by rfl) (.inl Z))))))))))
     ·refine TL.run aa [19] Z Z ?_
      iterate 2 refine TL.q Z (.g Z Z (C7 c30)) (AO aa Z) Z ?_
      refine TL.q Z .u (AR Z (C7 c30) Z) Z ?_
      rcases jF h with⟨c31,h⟩ | ⟨c31,h⟩
      ·refine TL.nil (X.seq (AN Z (C6 c31) (T.seq (T.region Z (TL.run aa [0] Z Z ?_)))))
       obtain rfl:=C8 h
       replace h:=hO8
       clear hO8
       try dsimp only at h
       obtain rfl:=C8 h
       exact TL.nil (X.seq (T.ret (AL (AU (AL (AL (AU (AL (AJ [1] Em (AK Z) ⟨Z,Z,Z⟩ (by rfl) (.inl Z))))))))))
      ·refine TL.nil (X.seq (AS Z (C7 c31) (T.skip (X.seq (T.seq (T.region Z (TL.run aa [0] Z Z (TL.q Z .u (AH 0 Z DA Z Z) Z (TL.run aa [2] Z Z ?_)))))))))
       refine TL.q Z .u (AX (k:=k5) Z Z Z Dl Dj (Da hx15).1) Z ?_
       refine TL.run aa [4] Z Z (TL.q Z .u (Bt 0 Z Dc z16nf z16cc Z Z) Z (TL.run aa [6] Z Z (TL.nil (X.seq (T.seq (T.region Z (TL.run aa [0,1] Z Z (TL.q Z .u (AH 0 Z Dc Z Z) Z ?_))))))))
       replace h:=an h
       obtain⟨c32,h⟩:=h
       refine TL.q Z .u (Ex.sub Z Z c32) Z ?_
       rcases jF h with⟨c33,h⟩ | ⟨c33,h⟩
       ·refine TL.run aa [4,5] Z Z ?_
        iterate 5 refine AM Z (.gn Z Z (C6 c33)) Z ?_
        refine TL.q Z .u (AP Z (C6 c33) Z) Z (TL.nil (X.seq (AN Z Z (T.seq (T.region Z (TL.run aa [0] Z Z ?_))))))
        obtain rfl:=C8 h
        replace h:=hO8
        clear hO8
        try dsimp only at h
        obtain rfl:=C8 h
        exact TL.nil (X.seq (T.ret (AU (AL (AL (AU (AL (AJ [1] Em (AK Z) ⟨Z,Z,Z⟩ (by rfl) (.inl Z)))))))))
       ·refine TL.run aa [4,5] Z Z ?_
        iterate 2 refine TL.q Z (.g Z Z (C7 c33)) (AO aa Z) Z ?_
        refine TL.q Z (.g Z Z (C7 c33)) (AH 0 Z Dc Z Z) Z ?_
        replace h:=an h
        obtain⟨c34,h⟩:=h
        refine TL.q Z (.g Z Z (C7 c33)) (Ex.neg Z c34) Z (TL.q Z (.g Z Z (C7 c33)) (AO aa Z) Z (TL.q Z .u (AR Z (C7 c33) Z) Z ?_))
        rcases jF h with⟨c35,h⟩ | ⟨c35,h⟩
        ·refine TL.nil (X.seq (AN Z (C6 c35) (T.seq (T.region Z (TL.run aa [0] Z Z ?_)))))
         obtain rfl:=C8 h
         replace h:=hO8
         clear hO8
         try dsimp only at h
         obtain rfl:=C8 h
         exact TL.nil (X.seq (T.ret (AU (AL (AL (AU (AL (AJ [1] Em (AK Z) ⟨Z,Z,Z⟩ (by rfl) (.inl Z)))))))))
        ·refine TL.nil (X.seq (AS Z (C7 c35) (T.skip (AZ (X.seq (T.region Z ?_))))))
         replace h:=an h
         obtain⟨c36,h⟩:=h
         exact TL.run aa [0] Z Z (TL.q Z .u (Ex.add Z Z c36) Z (TL.run aa [2] Z Z (TL.nil (X.back (m':=m9) [0,0] (by omega) ⟨y4,k5+1,Z,Z,h⟩ (by rfl) (by rfl)))))
    ·refine AM Z (.gn Z Z (C7 c21)) Z ?_
     iterate 8 refine AM Z (.gn Z Z (C7 c21)) Z ?_
     refine TL.q Z (.g Z Z (C7 c20)) (AR Z (C7 c21) Z) Z (TL.q Z .u (AR Z (C7 c20) Z) Z (TL.run aa [19] Z Z ?_))
     iterate 2 refine TL.q Z (.g Z Z Z) (AO aa Z) Z ?_
     refine TL.q Z .u (AR Z Z Z) Z ?_
     rcases jF h with⟨c37,h⟩ | ⟨c37,h⟩
     ·refine TL.nil (X.seq (AN Z (C6 c37) (T.seq (T.region Z (TL.run aa [0] Z Z ?_)))))
      obtain rfl:=C8 h
      replace h:=hO8
      clear hO8
      try dsimp only at h
      obtain rfl:=C8 h
      exact TL.nil (X.seq (T.ret (AL (AU (AL (AL (AU (AL (AJ [1] Em (AK Z) ⟨Z,Z,Z⟩ (by rfl) (.inl Z))))))))))
     ·refine TL.nil (X.seq (AS Z (C7 c37) (T.skip (X.seq (T.seq (T.region Z (TL.run aa [0] Z Z (TL.q Z .u (AH 0 Z DA Z Z) Z (TL.run aa [2] Z Z ?_)))))))))
      refine TL.q Z .u (AX (k:=k5) Z Z Z Dl Dj (Da hx15).1) Z ?_
      refine TL.run aa [4] Z Z (TL.q Z .u (Bt 0 Z Dc z16nf z16cc Z Z) Z (TL.run aa [6] Z Z (TL.nil (X.seq (T.seq (T.region Z (TL.run aa [0,1] Z Z (TL.q Z .u (AH 0 Z Dc Z Z) Z ?_))))))))
      replace h:=an h
      obtain⟨c38,h⟩:=h
      refine TL.q Z .u (Ex.sub Z Z c38) Z ?_
      rcases jF h with⟨c39,h⟩ | ⟨c39,h⟩
      ·refine TL.run aa [4,5] Z Z ?_
       iterate 5 refine AM Z (.gn Z Z (C6 c39)) Z ?_
       refine TL.q Z .u (AP Z (C6 c39) Z) Z (TL.nil (X.seq (AN Z Z (T.seq (T.region Z (TL.run aa [0] Z Z ?_))))))
       obtain rfl:=C8 h
       replace h:=hO8
       clear hO8
       try dsimp only at h
       obtain rfl:=C8 h
       exact TL.nil (X.seq (T.ret (AU (AL (AL (AU (AL (AJ [1] Em (AK Z) ⟨Z,Z,Z⟩ (by rfl) (.inl Z)))))))))
      ·refine TL.run aa [4,5] Z Z ?_
       iterate 2 refine TL.q Z (.g Z Z (C7 c39)) (AO aa Z) Z ?_
       refine TL.q Z (.g Z Z (C7 c39)) (AH 0 Z Dc Z Z) Z ?_
       replace h:=an h
       obtain⟨c40,h⟩:=h
       refine TL.q Z (.g Z Z (C7 c39)) (Ex.neg Z c40) Z (TL.q Z (.g Z Z (C7 c39)) (AO aa Z) Z (TL.q Z .u (AR Z (C7 c39) Z) Z ?_))
       rcases jF h with⟨c41,h⟩ | ⟨c41,h⟩
       ·refine TL.nil (X.seq (AN Z (C6 c41) (T.seq (T.region Z (TL.run aa [0] Z Z ?_)))))
        obtain rfl:=C8 h
        replace h:=hO8
        clear hO8
        try dsimp only at h
        obtain rfl:=C8 h
        exact TL.nil (X.seq (T.ret (AU (AL (AL (AU (AL (AJ [1] Em (AK Z) ⟨Z,Z,Z⟩ (by rfl) (.inl Z)))))))))
       ·refine TL.nil (X.seq (AS Z (C7 c41) (T.skip (AZ (X.seq (T.region Z ?_))))))
        replace h:=an h
        obtain⟨c42,h⟩:=h
        exact TL.run aa [0] Z Z (TL.q Z .u (Ex.add Z Z c42) Z (TL.run aa [2] Z Z (TL.nil (X.back (m':=m9) [0,0] (by omega) ⟨y4,k5+1,Z,Z,h⟩ (by rfl) (by rfl)))))
  ·refine TL.nil (X.seq (AS Z (C7 c13) ?_))
   obtain rfl:=C8 h
   replace h:=hO8
   clear hO8
   try dsimp only at h
   refine T.exit (AV (AV (Bh (X.seq (T.seq (T.seq (Bd (.q 0 (.q 1 (.q 2 (.q 3 (.q 4 (.q 6 (.q 7 (.e 5 (.q 8 (.q 9 .nil)))))))))) [0,0] Z d7 (NoP.seq (NoP.seq aP)) (by kernel_rfl) ?_)))))))
   refine TD.run aa [0] Z Z (TD.q Z .u (AH 0 Z Do Z Z) Z ?_)
   rcases jF h with⟨c43,h⟩ | ⟨c43,h⟩
   ·refine TD.run aa [2,3] Z Z ?_
    iterate 3 refine BB Z (.gn Z Z (ax c43)) Z ?_
    refine B9 Z (.gn Z Z (ax c43)) Z [0,0] Z (BB Z (.gn Z Z (ax c43)) Z (TD.q Z .u (AR Z (ax c43) Z) Z (TD.nil (X.seq (AS Z Z (T.skip (X.seq (T.seq (T.region Z (TL.run aa [0] Z Z ?_))))))))))
    obtain rfl:=C8 h
    exact TL.nil (X.seq (T.ret (AJ [1] Em (AK Z) ⟨Z,Z,Z⟩ (by rfl) (.inl Z))))
   ·replace c43:=Dd c43
    refine TD.run aa [2,3] Z Z (TD.q Z (.g Z Z (aF c43)) (AY (us := [jI a0.CP,jI a0.CI,.bool a0.CV,.bool a0.C0,.bool a0.CL,jI a0.CN,jI a0.CH,jI a0.CW,jI a0.CE,jI a0.CK,jI a0.CD,.slice A1 a0.Cy.length c2]) 0 Z Dx Di Z Z Z) Z (TD.q Z (.g Z Z (aF c43)) (AO aa Z) Z (TD.q Z (.g Z Z (aF c43)) (AH 0 Z Dc Z Z) Z ?_)))
    obtain⟨x44,hx45,h⟩:=C5 h
    refine Bk Z (.g Z Z (aF c43)) (.fn Tryz.call106 Z) (oc a0 _ _ _ hx45) (fun _ hs=>(Ba hs hX)) Z [0,0] (Z) (TD.q Z (.g Z Z (aF c43)) (AO aa Z) Z (TD.q Z .u (AP Z (aF c43) Z) Z ?_))
    rcases jF h with⟨c46,h⟩ | ⟨c46,h⟩
    ·refine TD.nil (X.seq (AS Z (ax (C6 c46)) (T.skip (X.seq (T.seq (T.region Z (TL.run aa [0] Z Z ?_)))))))
     obtain rfl:=C8 h
     exact TL.nil (X.seq (T.ret (AJ [1] Em (AK Z) ⟨Z,Z,Z⟩ (by rfl) (.inl Z))))
    ·refine TD.nil (X.seq (AN Z (aF (C7 c46)) (T.seq (T.region Z (TL.run aa [0] Z Z ?_)))))
     obtain rfl:=C8 h
     exact TL.nil (X.seq (T.ret (AL (AJ [1] Em (AK Z) ⟨Z,Z,Z⟩ (by rfl) (.inl Z)))))
def cu (a0:Bat):Nat→Int→Nat→Option (Lp Int (Int×Nat))
 | 0,_,_=>none
 | m26+1,y21,k22=>if (k22:Int)<(a0.Cy.length:Int) then ((a0.Cy[k22]?).bind fun x31=>(gb x31).bind fun x37=>if x37=0 then (if -9223372036854775808≤((k22:Int)+1)∧((k22:Int)+1)≤9223372036854775807 then (cu a0 m26 y21 (k22+1)) else none) else some (Lp.ret x37)) else (some (Lp.go (y21,k22)))
def dO (a0:Bat):Nat→Int→Nat→Option (Lp Int (Int×Nat))
 | 0,_,_=>none
 | m77+1,y72,k73=>if (k73:Int)<(a0.Cy.length:Int) then ((a0.Cy[k73]?).bind fun x82=>(gb x82).bind fun x88=>if x88=0 then (if -9223372036854775808≤((k73:Int)+1)∧((k73:Int)+1)≤9223372036854775807 then (dO a0 m77 y72 (k73+1)) else none) else some (Lp.ret x88)) else (some (Lp.go (y72,k73)))
def fu (a0:Bat):Option (Int):=if a0.CP<0 then some 11 else ((eP a0.CI (-1)).bind fun x5=>if x5=true then ((eP a0.CN 0).bind fun x8=>if x8=true then (if -9223372036854775808≤(9223372036854775807 - a0.CP)∧(9223372036854775807 - a0.CP)≤9223372036854775807 then (if a0.CN>(9223372036854775807 - a0.CP) then some 11 else (if a0.CH<0 then some 11 else (if a0.CW<0 then some 11 else (if a0.CL=true then (if a0.C0=true then ((ey a0).bind fun x17=>if x17=true then (if (a0.Cy.length:Int)=1 then ((cu a0 (((a0.Cy.length:Int)).toNat+1) 0 0).bind fun e=>match e with | .ret r=>some r | .go (y54,k55)=>((a0.Cy[0]?).bind fun x56=>(fq x56).bind fun (x62,x63,x64)=>if x64=0 then ((d8 a0).bind fun x67=>some x67) else some x64)) else some 10) else some 11) else some 8) else ((ey a0).bind fun x69=>if x69=true then ((dO a0 (((a0.Cy.length:Int)).toNat+1) 0 0).bind fun e=>match e with | .ret r=>some r | .go (y94,k95)=>((d8 a0).bind fun x96=>some x96)) else some 11))))) else none) else some 11) else some 11)
theorem od (a0:Bat) (A1:Option Addr) (c2:Nat) (r:Int) (h:fu a0=some r):aA Tryz.prog 12 #[.agg #[jI a0.CP,jI a0.CI,.bool a0.CV,.bool a0.C0,.bool a0.CL,jI a0.CN,jI a0.CH,jI a0.CW,jI a0.CE,jI a0.CK,jI a0.CD,.slice A1 a0.Cy.length c2]] (RX.of (ar 7 aU) [.slice A1 a0.Cy.length c2] a0.Cy) (aD) (fun v A' N=>v=jI r∧A'=aD∧N = []):=by
 refine aM Tryz.func12 Z Tryz.ntmps12 Z ?_
 intro F w hX
 unfold fu at h
 refine T.seq (T.region Z (TL.box Z .u Z Z (fun b3=>(TL.run aa [1] Z Z (TL.nil (X.seq (T.seq (T.seq (T.region Z (TL.run aa [0] Z Z (TL.q Z .u (AH 0 Z Dc Z Z) Z ?_)))))))))))
 rcases jF h with⟨c4,h⟩ | ⟨c4,h⟩
 ·refine TL.run aa [2,3] Z Z ?_
  iterate 4 refine AM Z (.gn Z Z (C6 c4)) Z ?_
  refine TL.q Z .u (AP Z (C6 c4) Z) Z (TL.run aa [9] Z Z ?_)
  iterate 4 refine AM Z (.gn Z Z Z) Z ?_
  refine TL.q Z .u (AP Z Z Z) Z (TL.run aa [15] Z Z ?_)
  iterate 6 refine AM Z (.gn Z Z Z) Z ?_
  refine TL.q Z .u (AP Z Z Z) Z (TL.run aa [23] Z Z ?_)
  iterate 3 refine AM Z (.gn Z Z Z) Z ?_
  refine TL.q Z .u (AP Z Z Z) Z (TL.run aa [28] Z Z ?_)
  iterate 3 refine AM Z (.gn Z Z Z) Z ?_
  refine TL.q Z .u (AP Z Z Z) Z (TL.nil (X.seq (AN Z Z (T.seq (T.region Z (TL.run aa [0] Z Z ?_))))))
  obtain rfl:=C8 h
  exact TL.nil (X.seq (T.ret (AL (AJ [1] D6 (AK Z) ⟨Z,Z,Z⟩ (by rfl) (.inl Z)))))
 ·refine TL.run aa [2,3] Z Z (TL.q Z (.g Z Z (C7 c4)) (AO aa Z) Z (TL.q Z (.g Z Z (C7 c4)) (AH 0 Z Dc Z Z) Z ?_))
  obtain⟨x5,hx6,h⟩:=C5 h
  refine Bc Z (.g Z Z (C7 c4)) (.fn Tryz.call43 Z) (gv a0.CI (-1) _ hx6) (fun _ hs=>(AQ _ _)) Z (TL.q Z (.g Z Z (C7 c4)) (AO aa Z) Z (TL.q Z .u (AR Z (C7 c4) Z) Z ?_))
  rcases jF h with⟨c7,h⟩ | ⟨c7,h⟩
  ·refine TL.run aa [9] Z Z (TL.q Z (.g Z Z (ax c7)) (AO aa Z) Z (TL.q Z (.g Z Z (ax c7)) (AH 0 Z Dc Z Z) Z ?_))
   obtain⟨x8,hx9,h⟩:=C5 h
   refine Bc Z (.g Z Z (ax c7)) (.fn Tryz.call43 Z) (gv a0.CN 0 _ hx9) (fun _ hs=>(AQ _ _)) Z (TL.q Z (.g Z Z (ax c7)) (AO aa Z) Z (TL.q Z .u (AR Z (ax c7) Z) Z ?_))
   rcases jF h with⟨c10,h⟩ | ⟨c10,h⟩
   ·refine TL.run aa [15] Z Z (TL.q Z (.g Z Z (ax c10)) (AO aa Z) Z (TL.q Z (.g Z Z (ax c10)) (AH 0 Z Dc Z Z) Z (TL.q Z (.g Z Z (ax c10)) (AO aa Z) Z (TL.q Z (.g Z Z (ax c10)) (AH 0 Z Dc Z Z) Z ?_))))
    replace h:=an h
    obtain⟨c11,h⟩:=h
    refine TL.q Z (.g Z Z (ax c10)) (Ex.sub Z Z c11) Z (TL.q Z (.g Z Z (ax c10)) (AO aa Z) Z (TL.q Z .u (AR Z (ax c10) Z) Z ?_))
    rcases jF h with⟨c12,h⟩ | ⟨c12,h⟩
    ·refine TL.run aa [23] Z Z ?_
     iterate 3 refine AM Z (.gn Z Z (C6 c12)) Z ?_
     refine TL.q Z .u (AP Z (C6 c12) Z) Z (TL.run aa [28] Z Z ?_)
     iterate 3 refine AM Z (.gn Z Z Z) Z ?_
     refine TL.q Z .u (AP Z Z Z) Z (TL.nil (X.seq (AN Z Z (T.seq (T.region Z (TL.run aa [0] Z Z ?_))))))
     obtain rfl:=C8 h
     exact TL.nil (X.seq (T.ret (AL (AJ [1] D6 (AK Z) ⟨Z,Z,Z⟩ (by rfl) (.inl Z)))))
    ·refine TL.run aa [23] Z Z (TL.q Z (.g Z Z (C7 c12)) (AO aa Z) Z (TL.q Z (.g Z Z (C7 c12)) (AH 0 Z Dc Z Z) Z (TL.q Z (.g Z Z (C7 c12)) (AO aa Z) Z (TL.q Z .u (AR Z (C7 c12) Z) Z ?_))))
     rcases jF h with⟨c13,h⟩ | ⟨c13,h⟩
     ·refine TL.run aa [28] Z Z ?_
      iterate 3 refine AM Z (.gn Z Z (C6 c13)) Z ?_
      refine TL.q Z .u (AP Z (C6 c13) Z) Z (TL.nil (X.seq (AN Z Z (T.seq (T.region Z (TL.run aa [0] Z Z ?_))))))
      obtain rfl:=C8 h
      exact TL.nil (X.seq (T.ret (AL (AJ [1] D6 (AK Z) ⟨Z,Z,Z⟩ (by rfl) (.inl Z)))))
     ·refine TL.run aa [28] Z Z (TL.q Z (.g Z Z (C7 c13)) (AO aa Z) Z (TL.q Z (.g Z Z (C7 c13)) (AH 0 Z Dc Z Z) Z (TL.q Z (.g Z Z (C7 c13)) (AO aa Z) Z (TL.q Z .u (AR Z (C7 c13) Z) Z ?_))))
      rcases jF h with⟨c14,h⟩ | ⟨c14,h⟩
      ·refine TL.nil (X.seq (AN Z (C6 c14) (T.seq (T.region Z (TL.run aa [0] Z Z ?_)))))
       obtain rfl:=C8 h
       exact TL.nil (X.seq (T.ret (AL (AJ [1] D6 (AK Z) ⟨Z,Z,Z⟩ (by rfl) (.inl Z)))))
      ·refine TL.nil (X.seq (AS Z (C7 c14) (T.skip (X.seq (T.seq (T.seq (T.region Z (TL.run aa [0] Z Z (TL.q Z .u (AH 0 Z Do Z Z) Z ?_)))))))))
       rcases jF h with⟨c15,h⟩ | ⟨c15,h⟩
       ·refine TL.run aa [2] Z Z (TL.q Z (.g Z Z c15) (AO aa Z) Z (TL.q Z (.g Z Z c15) (AH 0 Z Do Z Z) Z (TL.q Z (.g Z Z c15) (AO aa Z) Z (TL.q Z .u (AP Z c15 Z) Z ?_))))
        rcases jF h with⟨c16,h⟩ | ⟨c16,h⟩
        ·refine TL.nil (X.seq (AS Z (ax c16) (T.skip (X.seq (T.seq (T.seq (T.region Z (TL.q Z .u (AY (us := [jI a0.CP,jI a0.CI,.bool a0.CV,.bool a0.C0,.bool a0.CL,jI a0.CN,jI a0.CH,jI a0.CW,jI a0.CE,jI a0.CK,jI a0.CD,.slice A1 a0.Cy.length c2]) 0 Z Dx Di Z Z Z) Z ?_))))))))
         obtain⟨x17,hx18,h⟩:=C5 h
         refine Bc Z .u (.fn Tryz.call44 Z) (iE a0 _ _ _ hx18) (fun _ hs=>(Ba hs hX)) Z (TL.run aa [2] Z Z ?_)
         rcases jF h with⟨c19,h⟩ | ⟨c19,h⟩
         ·refine TL.nil (X.seq (AS Z (ax c19) (T.skip (X.seq (T.seq (T.seq (T.region Z (TL.run aa [0] Z Z (TL.q Z .u (AH 0 Z Do Z Z) Z (TL.run aa [2] Z Z (TL.q Z (.g Z Z c15) (AO aa Z) Z (TL.q Z (.g Z Z c15) (AH 0 Z DA Z Z) Z ?_))))))))))))
          refine TL.q Z (.g Z Z c15) (AW Z Dl) Z (TL.q Z (.g Z Z c15) (AO aa Z) Z (TL.q Z .u (AP Z c15 Z) Z ?_))
          rcases jF h with⟨c20,h⟩ | ⟨c20,h⟩
          ·refine TL.nil (X.seq (AS Z (ax (C6 c20)) (T.skip (X.seq (T.seq (T.seq (T.region Z (TL.run aa [0] Z Z (TL.nil (X.seq (T.block ?_)))))))))))
           obtain⟨E23,hE24,hO25⟩:=C5 h
           refine Bj (fun m e Rs=> ∃ (y21:Int) (k22:Nat),e = [(1,jP b3),(2,jI y21),(3,jI (k22:Int))]∧Rs = [aC b3 27 #[jI a0.CP,jI a0.CI,.bool a0.CV,.bool a0.C0,.bool a0.CL,jI a0.CN,jI a0.CH,jI a0.CW,jI a0.CE,jI a0.CK,jI a0.CD,.slice A1 a0.Cy.length c2],aD]∧cu a0 m y21 k22=some E23) (((a0.Cy.length:Int)).toNat+1) [0,0] ⟨0,0,Z,Z,by exact hE24⟩ (by rfl) (by rfl) ?_
           rintro m26 _ _ ⟨y21,k22,rfl,rfl,hl28⟩
           clear hE24 h
           cases m26 with
           | zero =>
            rw[cu] at hl28
            cases hl28
           | succ m26 =>
            have h:=hl28
            clear hl28
            rw[cu] at h
            refine T.seq (T.seq (T.region Z (TL.run aa [0,1] Z Z (TL.q Z .u (AH 0 Z DA Z Z) Z (TL.q Z .u (AW Z Dl) Z (TL.run aa [4] Z Z ?_))))))
            rcases jF h with⟨c30,h⟩ | ⟨c30,h⟩
            ·refine TL.nil (X.seq (AN Z (C6 c30) (T.skip (X.seq (T.seq (T.block (T.seq (T.region Z (TL.run aa [0] Z Z (TL.q Z .u (AH 0 Z DA Z Z) Z ?_))))))))))
             obtain⟨x31,hx32,h⟩:=C5 h
             obtain⟨gz33,oz33,rfl,z33cs,z33cl,z33cc,z33nf,z33r⟩:=Bb (by decide) hX hx32
             obtain⟨z33S,z33r,z33rr⟩:=z33r
             obtain⟨A34,c35,rfl,z33s0⟩:=z33r
             have hX36:(RX.of (ar 3 bG) [.slice A34 x31.CF.length c35] x31.CF).reads w F:=⟨z33S,z33s0,z33rr⟩
             refine TL.run aa [2] Z Z ?_
             refine TL.q Z .u (AX (k:=k22) Z Z Z Dl Dj (Da hx32).1) Z ?_
             refine TL.q Z .u (Bn (us := [jI x31.CY,jI x31.CU,.bool x31.CJ.null,jS x31.CJ.data,.bool x31.Cz.null,jS x31.Cz.data,.slice A34 x31.CF.length c35]) 0 Z DE Dj z33nf z33cc Z Z Z) Z ?_
             obtain⟨x37,hx38,h⟩:=C5 h
             refine Bc Z .u (.fn Tryz.call45 Z) (ka x31 _ _ _ hx38) (fun _ hs=>(Ba hs hX36)) Z (TL.run aa [6] Z Z (TL.nil (X.seq (T.seq (T.region Z (TL.run aa [0,1] Z Z ?_))))))
             rcases jF h with⟨c39,h⟩ | ⟨c39,h⟩
             ·refine TL.nil (X.seq (AS Z (ax (C6 c39)) (T.skip (AZ (X.seq (T.region Z ?_))))))
              replace h:=an h
              obtain⟨c40,h⟩:=h
              exact TL.run aa [0] Z Z (TL.q Z .u (Ex.add Z Z c40) Z (TL.run aa [2] Z Z (TL.nil (X.back (m':=m26) [0,0] (by omega) ⟨y21,k22+1,Z,Z,h⟩ (by rfl) (by rfl)))))
             ·refine TL.nil (X.seq (AN Z (aF (C7 c39)) (T.seq (T.region Z (TL.run aa [0,1] Z Z ?_)))))
              obtain rfl:=C8 h
              replace h:=hO25
              clear hO25
              try dsimp only at h
              obtain rfl:=C8 h
              exact TL.nil (X.seq (T.ret (AU (AL (AL (AU (AL (AJ [1] D6 (AK Z) ⟨Z,Z,Z⟩ (by rfl) (.inl Z)))))))))
            ·refine TL.nil (X.seq (AS Z (C7 c30) ?_))
             obtain rfl:=C8 h
             replace h:=hO25
             clear hO25
             try dsimp only at h
             refine T.exit (AV (AV (Bh (X.seq (T.seq (T.seq (T.region Z (TL.run aa [0] Z Z (TL.q Z .u (AH 0 Z Do Z Z) Z (TL.nil (X.seq (AN Z c15 (T.seq (T.region Z (TL.run aa [0] Z Z (TL.q Z .u (AH 0 Z DA Z Z) Z ?_))))))))))))))))
             obtain⟨x41,hx42,h⟩:=C5 h
             obtain⟨gz43,oz43,rfl,z43cs,z43cl,z43cc,z43nf,z43r⟩:=Bb (by decide) hX hx42
             obtain⟨z43S,z43r,z43rr⟩:=z43r
             obtain⟨A44,c45,rfl,z43s0⟩:=z43r
             have hX46:(RX.of (ar 3 bG) [.slice A44 x41.CF.length c45] x41.CF).reads w F:=⟨z43S,z43s0,z43rr⟩
             refine TL.q Z .u (AX (k:=0) Z Z Z Dl Dj (Da hx42).1) Z ?_
             refine TL.q Z .u (Bn (us := [jI x41.CY,jI x41.CU,.bool x41.CJ.null,jS x41.CJ.data,.bool x41.Cz.null,jS x41.Cz.data,.slice A44 x41.CF.length c45]) 0 Z DE Dj z43nf z43cc Z Z Z) Z ?_
             obtain⟨⟨x47,x48,x49⟩,hx50,h⟩:=C5 h
             try dsimp only at h
             refine Bc Z .u (.fn Tryz.call46 Z) (ph x41 _ _ _ hx50) (fun _ hs=>(Ba hs hX46)) Z (TL.run aa [5,6,7,8,9,10,11] Z Z (TL.nil (X.seq (T.seq (T.region Z (TL.run aa [0,1] Z Z ?_))))))
             rcases jF h with⟨c51,h⟩ | ⟨c51,h⟩
             ·refine TL.nil (X.seq (AS Z (ax (C6 c51)) (T.skip (X.seq (T.seq (T.region Z (TL.q Z .u (AY (us := [jI a0.CP,jI a0.CI,.bool a0.CV,.bool a0.C0,.bool a0.CL,jI a0.CN,jI a0.CH,jI a0.CW,jI a0.CE,jI a0.CK,jI a0.CD,.slice (some ⟨gz43,oz43,none⟩) a0.Cy.length c2]) 0 Z Dx Di Z Z Z) Z ?_)))))))
              obtain⟨x52,hx53,h⟩:=C5 h
              refine Bc Z .u (.fn Tryz.call47 Z) (jA a0 _ _ _ hx53) (fun _ hs=>(Ba hs hX)) Z (TL.run aa [2] Z Z ?_)
              obtain rfl:=C8 h
              exact TL.nil (X.seq (T.ret (AJ [1] D6 (AK Z) ⟨Z,Z,Z⟩ (by rfl) (.inl Z))))
             ·refine TL.nil (X.seq (AN Z (aF (C7 c51)) (T.seq (T.region Z (TL.run aa [0,1] Z Z ?_)))))
              obtain rfl:=C8 h
              exact TL.nil (X.seq (T.ret (AL (AJ [1] D6 (AK Z) ⟨Z,Z,Z⟩ (by rfl) (.inl Z)))))
          ·refine TL.nil (X.seq (AN Z (aF (C7 c20)) (T.seq (T.region Z (TL.run aa [0] Z Z ?_)))))
           obtain rfl:=C8 h
           exact TL.nil (X.seq (T.ret (AL (AJ [1] D6 (AK Z) ⟨Z,Z,Z⟩ (by rfl) (.inl Z)))))
         ·replace c19:=Dd c19
          refine TL.nil (X.seq (AN Z (aF c19) (T.seq (T.region Z (TL.run aa [0] Z Z ?_)))))
          obtain rfl:=C8 h
          exact TL.nil (X.seq (T.ret (AL (AJ [1] D6 (AK Z) ⟨Z,Z,Z⟩ (by rfl) (.inl Z)))))
        ·replace c16:=Dd c16
         refine TL.nil (X.seq (AN Z (aF c16) (T.seq (T.region Z (TL.run aa [0] Z Z ?_)))))
         obtain rfl:=C8 h
         exact TL.nil (X.seq (T.ret (AL (AJ [1] D6 (AK Z) ⟨Z,Z,Z⟩ (by rfl) (.inl Z)))))
       ·replace c15:=Dd c15
        refine TL.run aa [2] Z Z ?_
        iterate 3 refine AM Z (.gn Z Z c15) Z ?_
        refine TL.q Z .u (AR Z c15 Z) Z (TL.nil (X.seq (AS Z Z (T.skip (X.seq (T.seq (T.seq (T.region Z (TL.q Z .u (AY (us := [jI a0.CP,jI a0.CI,.bool a0.CV,.bool a0.C0,.bool a0.CL,jI a0.CN,jI a0.CH,jI a0.CW,jI a0.CE,jI a0.CK,jI a0.CD,.slice A1 a0.Cy.length c2]) 0 Z Dx Di Z Z Z) Z ?_)))))))))
        obtain⟨x69,hx70,h⟩:=C5 h
        refine Bc Z .u (.fn Tryz.call44 Z) (iE a0 _ _ _ hx70) (fun _ hs=>(Ba hs hX)) Z (TL.run aa [2] Z Z ?_)
        rcases jF h with⟨c71,h⟩ | ⟨c71,h⟩
        ·refine TL.nil (X.seq (AS Z (ax c71) (T.skip (X.seq (T.seq (T.seq (T.region Z (TL.run aa [0] Z Z (TL.q Z .u (AH 0 Z Do Z Z) Z (TL.run aa [2] Z Z ?_))))))))))
         iterate 4 refine AM Z (.gn Z Z c15) Z ?_
         refine TL.q Z .u (AR Z c15 Z) Z (TL.nil (X.seq (AS Z Z (T.skip (X.seq (T.seq (T.seq (T.region Z (TL.run aa [0] Z Z (TL.nil (X.seq (T.block ?_))))))))))))
         obtain⟨E74,hE75,hO76⟩:=C5 h
         refine Bj (fun m e Rs=> ∃ (y72:Int) (k73:Nat),e = [(1,jP b3),(2,jI y72),(3,jI (k73:Int))]∧Rs = [aC b3 27 #[jI a0.CP,jI a0.CI,.bool a0.CV,.bool a0.C0,.bool a0.CL,jI a0.CN,jI a0.CH,jI a0.CW,jI a0.CE,jI a0.CK,jI a0.CD,.slice A1 a0.Cy.length c2],aD]∧dO a0 m y72 k73=some E74) (((a0.Cy.length:Int)).toNat+1) [0,0] ⟨0,0,Z,Z,by exact hE75⟩ (by rfl) (by rfl) ?_
         rintro m77 _ _ ⟨y72,k73,rfl,rfl,hl79⟩
         clear hE75 h
         cases m77 with
         | zero =>
          rw[dO] at hl79
          cases hl79
         | succ m77 =>
          have h:=hl79
          clear hl79
          rw[dO] at h
          refine T.seq (T.seq (T.region Z (TL.run aa [0,1] Z Z (TL.q Z .u (AH 0 Z DA Z Z) Z (TL.q Z .u (AW Z Dl) Z (TL.run aa [4] Z Z ?_))))))
          rcases jF h with⟨c81,h⟩ | ⟨c81,h⟩
          ·refine TL.nil (X.seq (AN Z (C6 c81) (T.skip (X.seq (T.seq (T.block (T.seq (T.region Z (TL.run aa [0] Z Z (TL.q Z .u (AH 0 Z DA Z Z) Z ?_))))))))))
           obtain⟨x82,hx83,h⟩:=C5 h
           obtain⟨gz84,oz84,rfl,z84cs,z84cl,z84cc,z84nf,z84r⟩:=Bb (by decide) hX hx83
           obtain⟨z84S,z84r,z84rr⟩:=z84r
           obtain⟨A85,c86,rfl,z84s0⟩:=z84r
           have hX87:(RX.of (ar 3 bG) [.slice A85 x82.CF.length c86] x82.CF).reads w F:=⟨z84S,z84s0,z84rr⟩
           refine TL.run aa [2] Z Z ?_
           refine TL.q Z .u (AX (k:=k73) Z Z Z Dl Dj (Da hx83).1) Z ?_
           refine TL.q Z .u (Bn (us := [jI x82.CY,jI x82.CU,.bool x82.CJ.null,jS x82.CJ.data,.bool x82.Cz.null,jS x82.Cz.data,.slice A85 x82.CF.length c86]) 0 Z DE Dj z84nf z84cc Z Z Z) Z ?_
           obtain⟨x88,hx89,h⟩:=C5 h
           refine Bc Z .u (.fn Tryz.call45 Z) (ka x82 _ _ _ hx89) (fun _ hs=>(Ba hs hX87)) Z (TL.run aa [6] Z Z (TL.nil (X.seq (T.seq (T.region Z (TL.run aa [0,1] Z Z ?_))))))
           rcases jF h with⟨c90,h⟩ | ⟨c90,h⟩
           ·refine TL.nil (X.seq (AS Z (ax (C6 c90)) (T.skip (AZ (X.seq (T.region Z ?_))))))
            replace h:=an h
            obtain⟨c91,h⟩:=h
            exact TL.run aa [0] Z Z (TL.q Z .u (Ex.add Z Z c91) Z (TL.run aa [2] Z Z (TL.nil (X.back (m':=m77) [0,0] (by omega) ⟨y72,k73+1,Z,Z,h⟩ (by rfl) (by rfl)))))
           ·refine TL.nil (X.seq (AN Z (aF (C7 c90)) (T.seq (T.region Z (TL.run aa [0,1] Z Z ?_)))))
            obtain rfl:=C8 h
            replace h:=hO76
            clear hO76
            try dsimp only at h
            obtain rfl:=C8 h
            exact TL.nil (X.seq (T.ret (AU (AL (AL (AU (AL (AJ [1] D6 (AK Z) ⟨Z,Z,Z⟩ (by rfl) (.inl Z)))))))))
          ·refine TL.nil (X.seq (AS Z (C7 c81) ?_))
           obtain rfl:=C8 h
           replace h:=hO76
           clear hO76
           try dsimp only at h
           refine T.exit (AV (AV (Bh (X.seq (T.seq (T.seq (T.region Z (TL.run aa [0] Z Z (TL.q Z .u (AH 0 Z Do Z Z) Z (TL.nil (X.seq (AS Z c15 (T.skip (X.seq (T.seq (T.region Z (TL.q Z .u (AY (us := [jI a0.CP,jI a0.CI,.bool a0.CV,.bool a0.C0,.bool a0.CL,jI a0.CN,jI a0.CH,jI a0.CW,jI a0.CE,jI a0.CK,jI a0.CD,.slice A1 a0.Cy.length c2]) 0 Z Dx Di Z Z Z) Z ?_)))))))))))))))))
           obtain⟨x92,hx93,h⟩:=C5 h
           refine Bc Z .u (.fn Tryz.call47 Z) (jA a0 _ _ _ hx93) (fun _ hs=>(Ba hs hX)) Z (TL.run aa [2] Z Z ?_)
           obtain rfl:=C8 h
           exact TL.nil (X.seq (T.ret (AJ [1] D6 (AK Z) ⟨Z,Z,Z⟩ (by rfl) (.inl Z))))
        ·replace c71:=Dd c71
         refine TL.nil (X.seq (AN Z (aF c71) (T.seq (T.region Z (TL.run aa [0] Z Z ?_)))))
         obtain rfl:=C8 h
         exact TL.nil (X.seq (T.ret (AL (AJ [1] D6 (AK Z) ⟨Z,Z,Z⟩ (by rfl) (.inl Z)))))
   ·replace c10:=Dd c10
    refine TL.run aa [15] Z Z ?_
    iterate 6 refine AM Z (.gn Z Z (aF c10)) Z ?_
    refine TL.q Z .u (AP Z (aF c10) Z) Z (TL.run aa [23] Z Z ?_)
    iterate 3 refine AM Z (.gn Z Z Z) Z ?_
    refine TL.q Z .u (AP Z Z Z) Z (TL.run aa [28] Z Z ?_)
    iterate 3 refine AM Z (.gn Z Z Z) Z ?_
    refine TL.q Z .u (AP Z Z Z) Z (TL.nil (X.seq (AN Z Z (T.seq (T.region Z (TL.run aa [0] Z Z ?_))))))
    obtain rfl:=C8 h
    exact TL.nil (X.seq (T.ret (AL (AJ [1] D6 (AK Z) ⟨Z,Z,Z⟩ (by rfl) (.inl Z)))))
  ·replace c7:=Dd c7
   refine TL.run aa [9] Z Z ?_
   iterate 4 refine AM Z (.gn Z Z (aF c7)) Z ?_
   refine TL.q Z .u (AP Z (aF c7) Z) Z (TL.run aa [15] Z Z ?_)
   iterate 6 refine AM Z (.gn Z Z Z) Z ?_
   refine TL.q Z .u (AP Z Z Z) Z (TL.run aa [23] Z Z ?_)
   iterate 3 refine AM Z (.gn Z Z Z) Z ?_
   refine TL.q Z .u (AP Z Z Z) Z (TL.run aa [28] Z Z ?_)
   iterate 3 refine AM Z (.gn Z Z Z) Z ?_
   refine TL.q Z .u (AP Z Z Z) Z (TL.nil (X.seq (AN Z Z (T.seq (T.region Z (TL.run aa [0] Z Z ?_))))))
   obtain rfl:=C8 h
   exact TL.nil (X.seq (T.ret (AL (AJ [1] D6 (AK Z) ⟨Z,Z,Z⟩ (by rfl) (.inl Z)))))
def dD (a0:Bat) (a1:Bat):Nat→Bool→Nat→Option (Lp Bool (Bool×Nat))
 | 0,_,_=>none
 | m38+1,y33,k34=>if (k34:Int)<(a0.Cy.length:Int) then ((a0.Cy[k34]?).bind fun x43=>(a1.Cy[k34]?).bind fun x49=>(je x43 x49).bind fun x55=>if x55=true then (if -9223372036854775808≤((k34:Int)+1)∧((k34:Int)+1)≤9223372036854775807 then (dD a0 a1 m38 y33 (k34+1)) else none) else some (Lp.ret false)) else (some (Lp.go (y33,k34)))
def jg (a0:Bat) (a1:Bat):Option (Bool):=(if a0.CP=a1.CP then (if a0.CI=a1.CI then (if (a0.CV == a1.CV)=true then (if (a0.C0 == a1.C0)=true then (if (a0.CL == a1.CL)=true then (if a0.CN=a1.CN then (if a0.CH=a1.CH then (if a0.CW=a1.CW then (if a0.CE=a1.CE then (if a0.CK=a1.CK then (if a0.CD=a1.CD then (if (a0.Cy.length:Int)=(a1.Cy.length:Int) then some false else some true) else some true) else some true) else some true) else some true) else some true) else some true) else some true) else some true) else some true) else some true) else some true).bind fun y18=>if y18=true then some false else ((dD a0 a1 (((a0.Cy.length:Int)).toNat+1) false 0).bind fun e=>match e with | .ret r=>some r | .go (y59,k60)=>some true)
theorem pi (a0:Bat) (A1:Option Addr) (c2:Nat) (a1:Bat) (A3:Option Addr) (c4:Nat) (r:Bool) (h:jg a0 a1=some r):aA Tryz.prog 13 #[.agg #[jI a0.CP,jI a0.CI,.bool a0.CV,.bool a0.C0,.bool a0.CL,jI a0.CN,jI a0.CH,jI a0.CW,jI a0.CE,jI a0.CK,jI a0.CD,.slice A1 a0.Cy.length c2],.agg #[jI a1.CP,jI a1.CI,.bool a1.CV,.bool a1.C0,.bool a1.CL,jI a1.CN,jI a1.CH,jI a1.CW,jI a1.CE,jI a1.CK,jI a1.CD,.slice A3 a1.Cy.length c4]] (RX.and (RX.of (ar 7 aU) [.slice A1 a0.Cy.length c2] a0.Cy) (RX.of (ar 7 aU) [.slice A3 a1.Cy.length c4] a1.Cy)) (aD) (fun v A' N=>v= .bool r∧A'=aD∧N = []):=by
 refine aM Tryz.func13 Z Tryz.ntmps13 Z ?_
 intro F w hX
 unfold jg at h
 refine T.seq (T.region Z (TL.box Z .u Z Z (fun b5=>(TL.box Z .u Z Z (fun b6=>(TL.run aa [2] Z Z (TL.nil (X.seq (T.seq (T.seq ?_))))))))))
 obtain⟨y18,h,hk19⟩:=C5 h
 refine BE (fun e Rs=>e = [(2,jP b5),(3,jP b6),(4,.bool false),(89,.bool y18)]∧Rs = [aC b6 27 #[jI a1.CP,jI a1.CI,.bool a1.CV,.bool a1.C0,.bool a1.CL,jI a1.CN,jI a1.CH,jI a1.CW,jI a1.CE,jI a1.CK,jI a1.CD,.slice A3 a1.Cy.length c4],aC b5 27 #[jI a0.CP,jI a0.CI,.bool a0.CV,.bool a0.C0,.bool a0.CL,jI a0.CN,jI a0.CH,jI a0.CW,jI a0.CE,jI a0.CK,jI a0.CD,.slice A1 a0.Cy.length c2],aD]) ?_ ?_
 ·clear hk19
  refine T.region Z (TL.run aa [0] Z Z (TL.q Z .u (AH 1 Z Dc Z Z) Z (TL.run aa [2] Z Z (TL.q Z .u (AH 0 Z Dc Z Z) Z ?_))))
  rcases jF h with⟨c20,h⟩ | ⟨c20,h⟩
  ·refine TL.run aa [4,5] Z Z (TL.q Z (.g Z Z (ax (C6 c20))) (AO aa Z) Z (TL.q Z (.g Z Z (ax (C6 c20))) (AH 1 Z Dc Z Z) Z (TL.q Z (.g Z Z (ax (C6 c20))) (AO aa Z) Z (TL.q Z (.g Z Z (ax (C6 c20))) (AH 0 Z Dc Z Z) Z (TL.q Z (.g Z Z (ax (C6 c20))) (AO aa Z) Z (TL.q Z .u (AR Z (ax (C6 c20)) Z) Z ?_))))))
   rcases jF h with⟨c21,h⟩ | ⟨c21,h⟩
   ·refine TL.run aa [12] Z Z (TL.q Z (.g Z Z (ax (C6 c21))) (AO aa Z) Z (TL.q Z (.g Z Z (ax (C6 c21))) (AH 1 Z Do Z Z) Z (TL.q Z (.g Z Z (ax (C6 c21))) (AO aa Z) Z (TL.q Z (.g Z Z (ax (C6 c21))) (AH 0 Z Do Z Z) Z (TL.q Z (.g Z Z (ax (C6 c21))) (Ex.bNe Z Z Z Z EL) Z (TL.q Z .u (AR Z (ax (C6 c21)) Z) Z ?_))))))
    rcases jF h with⟨c22,h⟩ | ⟨c22,h⟩
    ·refine TL.run aa [19] Z Z (TL.q Z (.g Z Z (ax c22)) (AO aa Z) Z (TL.q Z (.g Z Z (ax c22)) (AH 1 Z Do Z Z) Z (TL.q Z (.g Z Z (ax c22)) (AO aa Z) Z (TL.q Z (.g Z Z (ax c22)) (AH 0 Z Do Z Z) Z (TL.q Z (.g Z Z (ax c22)) (Ex.bNe Z Z Z Z EL) Z (TL.q Z .u (AR Z (ax c22) Z) Z ?_))))))
     rcases jF h with⟨c23,h⟩ | ⟨c23,h⟩
     ·refine TL.run aa [26] Z Z (TL.q Z (.g Z Z (ax c23)) (AO aa Z) Z (TL.q Z (.g Z Z (ax c23)) (AH 1 Z Do Z Z) Z (TL.q Z (.g Z Z (ax c23)) (AO aa Z) Z (TL.q Z (.g Z Z (ax c23)) (AH 0 Z Do Z Z) Z (TL.q Z (.g Z Z (ax c23)) (Ex.bNe Z Z Z Z EL) Z (TL.q Z .u (AR Z (ax c23) Z) Z ?_))))))
      rcases jF h with⟨c24,h⟩ | ⟨c24,h⟩
      ·refine TL.run aa [33] Z Z (TL.q Z (.g Z Z (ax c24)) (AO aa Z) Z (TL.q Z (.g Z Z (ax c24)) (AH 1 Z Dc Z Z) Z (TL.q Z (.g Z Z (ax c24)) (AO aa Z) Z (TL.q Z (.g Z Z (ax c24)) (AH 0 Z Dc Z Z) Z (TL.q Z (.g Z Z (ax c24)) (AO aa Z) Z (TL.q Z .u (AR Z (ax c24) Z) Z ?_))))))
       rcases jF h with⟨c25,h⟩ | ⟨c25,h⟩
       ·refine TL.run aa [40] Z Z (TL.q Z (.g Z Z (ax (C6 c25))) (AO aa Z) Z (TL.q Z (.g Z Z (ax (C6 c25))) (AH 1 Z Dc Z Z) Z (TL.q Z (.g Z Z (ax (C6 c25))) (AO aa Z) Z (TL.q Z (.g Z Z (ax (C6 c25))) (AH 0 Z Dc Z Z) Z (TL.q Z (.g Z Z (ax (C6 c25))) (AO aa Z) Z (TL.q Z .u (AR Z (ax (C6 c25)) Z) Z ?_))))))
        rcases jF h with⟨c26,h⟩ | ⟨c26,h⟩
        ·refine TL.run aa [47] Z Z (TL.q Z (.g Z Z (ax (C6 c26))) (AO aa Z) Z (TL.q Z (.g Z Z (ax (C6 c26))) (AH 1 Z Dc Z Z) Z (TL.q Z (.g Z Z (ax (C6 c26))) (AO aa Z) Z (TL.q Z (.g Z Z (ax (C6 c26))) (AH 0 Z Dc Z Z) Z (TL.q Z (.g Z Z (ax (C6 c26))) (AO aa Z) Z (TL.q Z .u (AR Z (ax (C6 c26)) Z) Z ?_))))))
         rcases jF h with⟨c27,h⟩ | ⟨c27,h⟩
         ·refine TL.run aa [54] Z Z (TL.q Z (.g Z Z (ax (C6 c27))) (AO aa Z) Z (TL.q Z (.g Z Z (ax (C6 c27))) (AH 1 Z Dc Z Z) Z (TL.q Z (.g Z Z (ax (C6 c27))) (AO aa Z) Z (TL.q Z (.g Z Z (ax (C6 c27))) (AH 0 Z Dc Z Z) Z (TL.q Z (.g Z Z (ax (C6 c27))) (AO aa Z) Z (TL.q Z .u (AR Z (ax (C6 c27)) Z) Z ?_))))))
          rcases jF h with⟨c28,h⟩ | ⟨c28,h⟩
          ·refine TL.run aa [61] Z Z (TL.q Z (.g Z Z (ax (C6 c28))) (AO aa Z) Z (TL.q Z (.g Z Z (ax (C6 c28))) (AH 1 Z Dc Z Z) Z (TL.q Z (.g Z Z (ax (C6 c28))) (AO aa Z) Z (TL.q Z (.g Z Z (ax (C6 c28))) (AH 0 Z Dc Z Z) Z (TL.q Z (.g Z Z (ax (C6 c28))) (AO aa Z) Z (TL.q Z .u (AR Z (ax (C6 c28)) Z) Z ?_))))))
           rcases jF h with⟨c29,h⟩ | ⟨c29,h⟩
           ·refine TL.run aa [68] Z Z (TL.q Z (.g Z Z (ax (C6 c29))) (AO aa Z) Z (TL.q Z (.g Z Z (ax (C6 c29))) (AH 1 Z Dc Z Z) Z (TL.q Z (.g Z Z (ax (C6 c29))) (AO aa Z) Z (TL.q Z (.g Z Z (ax (C6 c29))) (AH 0 Z Dc Z Z) Z (TL.q Z (.g Z Z (ax (C6 c29))) (AO aa Z) Z (TL.q Z .u (AR Z (ax (C6 c29)) Z) Z ?_))))))
            rcases jF h with⟨c30,h⟩ | ⟨c30,h⟩
            ·refine TL.run aa [75] Z Z (TL.q Z (.g Z Z (ax (C6 c30))) (AO aa Z) Z (TL.q Z (.g Z Z (ax (C6 c30))) (AH 1 Z DA Z Z) Z (TL.q Z (.g Z Z (ax (C6 c30))) (AW Z Dl) Z (TL.q Z (.g Z Z (ax (C6 c30))) (AO aa Z) Z (TL.q Z (.g Z Z (ax (C6 c30))) (AH 0 Z DA Z Z) Z (TL.q Z (.g Z Z (ax (C6 c30))) (AW Z Dl) Z (TL.q Z (.g Z Z (ax (C6 c30))) (AO aa Z) Z ?_)))))))
             refine TL.q Z .u (AR Z (ax (C6 c30)) Z) Z ?_
             rcases jF h with⟨c31,h⟩ | ⟨c31,h⟩
             ·cases h
              exact TL.nil (Bw (d:=89) (v':= .bool false) Z (congrArg Value.bool (ax (C6 c31))) (A5 [0,0,0] ⟨Z,Z⟩ (by rfl) (by rfl)))
             ·cases h
              exact TL.nil (Bw (d:=89) (v':= .bool true) Z (congrArg Value.bool (aF (C7 c31))) (A5 [0,0,0] ⟨Z,Z⟩ (by rfl) (by rfl)))
            ·refine TL.run aa [75] Z Z ?_
             iterate 7 refine AM Z (.gn Z Z (aF (C7 c30))) Z ?_
             refine TL.q Z .u (AP Z (aF (C7 c30)) Z) Z ?_
             cases h
             exact TL.nil (A5 [0,0,0] ⟨Z,Z⟩ (by rfl) (by rfl))
           ·refine TL.run aa [68] Z Z ?_
            iterate 5 refine AM Z (.gn Z Z (aF (C7 c29))) Z ?_
            refine TL.q Z .u (AP Z (aF (C7 c29)) Z) Z (TL.run aa [75] Z Z ?_)
            iterate 7 refine AM Z (.gn Z Z Z) Z ?_
            refine TL.q Z .u (AP Z Z Z) Z ?_
            cases h
            exact TL.nil (A5 [0,0,0] ⟨Z,Z⟩ (by rfl) (by rfl))
          ·refine TL.run aa [61] Z Z ?_
           iterate 5 refine AM Z (.gn Z Z (aF (C7 c28))) Z ?_
           refine TL.q Z .u (AP Z (aF (C7 c28)) Z) Z (TL.run aa [68] Z Z ?_)
           iterate 5 refine AM Z (.gn Z Z Z) Z ?_
           refine TL.q Z .u (AP Z Z Z) Z (TL.run aa [75] Z Z ?_)
           iterate 7 refine AM Z (.gn Z Z Z) Z ?_
           refine TL.q Z .u (AP Z Z Z) Z ?_
           cases h
           exact TL.nil (A5 [0,0,0] ⟨Z,Z⟩ (by rfl) (by rfl))
         ·refine TL.run aa [54] Z Z ?_
          iterate 5 refine AM Z (.gn Z Z (aF (C7 c27))) Z ?_
          refine TL.q Z .u (AP Z (aF (C7 c27)) Z) Z (TL.run aa [61] Z Z ?_)
          iterate 5 refine AM Z (.gn Z Z Z) Z ?_
          refine TL.q Z .u (AP Z Z Z) Z (TL.run aa [68] Z Z ?_)
          iterate 5 refine AM Z (.gn Z Z Z) Z ?_
          refine TL.q Z .u (AP Z Z Z) Z (TL.run aa [75] Z Z ?_)
          iterate 7 refine AM Z (.gn Z Z Z) Z ?_
          refine TL.q Z .u (AP Z Z Z) Z ?_
          cases h
          exact TL.nil (A5 [0,0,0] ⟨Z,Z⟩ (by rfl) (by rfl))
        ·refine TL.run aa [47] Z Z ?_
         iterate 5 refine AM Z (.gn Z Z (aF (C7 c26))) Z ?_
         refine TL.q Z .u (AP Z (aF (C7 c26)) Z) Z (TL.run aa [54] Z Z ?_)
         iterate 5 refine AM Z (.gn Z Z Z) Z ?_
         refine TL.q Z .u (AP Z Z Z) Z (TL.run aa [61] Z Z ?_)
         iterate 5 refine AM Z (.gn Z Z Z) Z ?_
         refine TL.q Z .u (AP Z Z Z) Z (TL.run aa [68] Z Z ?_)
         iterate 5 refine AM Z (.gn Z Z Z) Z ?_
         refine TL.q Z .u (AP Z Z Z) Z (TL.run aa [75] Z Z ?_)
         iterate 7 refine AM Z (.gn Z Z Z) Z ?_
         refine TL.q Z .u (AP Z Z Z) Z ?_
         cases h
         exact TL.nil (A5 [0,0,0] ⟨Z,Z⟩ (by rfl) (by rfl))
       ·refine TL.run aa [40] Z Z ?_
        iterate 5 refine AM Z (.gn Z Z (aF (C7 c25))) Z ?_
        refine TL.q Z .u (AP Z (aF (C7 c25)) Z) Z (TL.run aa [47] Z Z ?_)
        iterate 5 refine AM Z (.gn Z Z Z) Z ?_
        refine TL.q Z .u (AP Z Z Z) Z (TL.run aa [54] Z Z ?_)
        iterate 5 refine AM Z (.gn Z Z Z) Z ?_
        refine TL.q Z .u (AP Z Z Z) Z (TL.run aa [61] Z Z ?_)
        iterate 5 refine AM Z (.gn Z Z Z) Z ?_
        refine TL.q Z .u (AP Z Z Z) Z (TL.run aa [68] Z Z ?_)
        iterate 5 refine AM Z (.gn Z Z Z) Z ?_
        refine TL.q Z .u (AP Z Z Z) Z (TL.run aa [75] Z Z ?_)
        iterate 7 refine AM Z (.gn Z Z Z) Z ?_
        refine TL.q Z .u (AP Z Z Z) Z ?_
        cases h
        exact TL.nil (A5 [0,0,0] ⟨Z,Z⟩ (by rfl) (by rfl))
      ·replace c24:=Dd c24
       refine TL.run aa [33] Z Z ?_
       iterate 5 refine AM Z (.gn Z Z (aF c24)) Z ?_
       refine TL.q Z .u (AP Z (aF c24) Z) Z (TL.run aa [40] Z Z ?_)
       iterate 5 refine AM Z (.gn Z Z Z) Z ?_
       refine TL.q Z .u (AP Z Z Z) Z (TL.run aa [47] Z Z ?_)
       iterate 5 refine AM Z (.gn Z Z Z) Z ?_
       refine TL.q Z .u (AP Z Z Z) Z (TL.run aa [54] Z Z ?_)
       iterate 5 refine AM Z (.gn Z Z Z) Z ?_
       refine TL.q Z .u (AP Z Z Z) Z (TL.run aa [61] Z Z ?_)
       iterate 5 refine AM Z (.gn Z Z Z) Z ?_
       refine TL.q Z .u (AP Z Z Z) Z (TL.run aa [68] Z Z ?_)
       iterate 5 refine AM Z (.gn Z Z Z) Z ?_
       refine TL.q Z .u (AP Z Z Z) Z (TL.run aa [75] Z Z ?_)
       iterate 7 refine AM Z (.gn Z Z Z) Z ?_
       refine TL.q Z .u (AP Z Z Z) Z ?_
       cases h
       exact TL.nil (A5 [0,0,0] ⟨Z,Z⟩ (by rfl) (by rfl))
     ·replace c23:=Dd c23
      refine TL.run aa [26] Z Z ?_
      iterate 5 refine AM Z (.gn Z Z (aF c23)) Z ?_
      refine TL.q Z .u (AP Z (aF c23) Z) Z (TL.run aa [33] Z Z ?_)
      iterate 5 refine AM Z (.gn Z Z Z) Z ?_
      refine TL.q Z .u (AP Z Z Z) Z (TL.run aa [40] Z Z ?_)
      iterate 5 refine AM Z (.gn Z Z Z) Z ?_
      refine TL.q Z .u (AP Z Z Z) Z (TL.run aa [47] Z Z ?_)
      iterate 5 refine AM Z (.gn Z Z Z) Z ?_
      refine TL.q Z .u (AP Z Z Z) Z (TL.run aa [54] Z Z ?_)
      iterate 5 refine AM Z (.gn Z Z Z) Z ?_
      refine TL.q Z .u (AP Z Z Z) Z (TL.run aa [61] Z Z ?_)
      iterate 5 refine AM Z (.gn Z Z Z) Z ?_
      refine TL.q Z .u (AP Z Z Z) Z (TL.run aa [68] Z Z ?_)
      iterate 5 refine AM Z (.gn Z Z Z) Z ?_
      refine TL.q Z .u (AP Z Z Z) Z (TL.run aa [75] Z Z ?_)
      iterate 7 refine AM Z (.gn Z Z Z) Z ?_
      refine TL.q Z .u (AP Z Z Z) Z ?_
      cases h
      exact TL.nil (A5 [0,0,0] ⟨Z,Z⟩ (by rfl) (by rfl))
    ·replace c22:=Dd c22
     refine TL.run aa [19] Z Z ?_
     iterate 5 refine AM Z (.gn Z Z (aF c22)) Z ?_
     refine TL.q Z .u (AP Z (aF c22) Z) Z (TL.run aa [26] Z Z ?_)
     iterate 5 refine AM Z (.gn Z Z Z) Z ?_
     refine TL.q Z .u (AP Z Z Z) Z (TL.run aa [33] Z Z ?_)
     iterate 5 refine AM Z (.gn Z Z Z) Z ?_
     refine TL.q Z .u (AP Z Z Z) Z (TL.run aa [40] Z Z ?_)
     iterate 5 refine AM Z (.gn Z Z Z) Z ?_
     refine TL.q Z .u (AP Z Z Z) Z (TL.run aa [47] Z Z ?_)
     iterate 5 refine AM Z (.gn Z Z Z) Z ?_
     refine TL.q Z .u (AP Z Z Z) Z (TL.run aa [54] Z Z ?_)
     iterate 5 refine AM Z (.gn Z Z Z) Z ?_
     refine TL.q Z .u (AP Z Z Z) Z (TL.run aa [61] Z Z ?_)
     iterate 5 refine AM Z (.gn Z Z Z) Z ?_
     refine TL.q Z .u (AP Z Z Z) Z (TL.run aa [68] Z Z ?_)
     iterate 5 refine AM Z (.gn Z Z Z) Z ?_
     refine TL.q Z .u (AP Z Z Z) Z (TL.run aa [75] Z Z ?_)
     iterate 7 refine AM Z (.gn Z Z Z) Z ?_
     refine TL.q Z .u (AP Z Z Z) Z ?_
     cases h
     exact TL.nil (A5 [0,0,0] ⟨Z,Z⟩ (by rfl) (by rfl))
   ·refine TL.run aa [12] Z Z ?_
    iterate 5 refine AM Z (.gn Z Z (aF (C7 c21))) Z ?_
    refine TL.q Z .u (AP Z (aF (C7 c21)) Z) Z (TL.run aa [19] Z Z ?_)
    iterate 5 refine AM Z (.gn Z Z Z) Z ?_
    refine TL.q Z .u (AP Z Z Z) Z (TL.run aa [26] Z Z ?_)
    iterate 5 refine AM Z (.gn Z Z Z) Z ?_
    refine TL.q Z .u (AP Z Z Z) Z (TL.run aa [33] Z Z ?_)
    iterate 5 refine AM Z (.gn Z Z Z) Z ?_
    refine TL.q Z .u (AP Z Z Z) Z (TL.run aa [40] Z Z ?_)
    iterate 5 refine AM Z (.gn Z Z Z) Z ?_
    refine TL.q Z .u (AP Z Z Z) Z (TL.run aa [47] Z Z ?_)
    iterate 5 refine AM Z (.gn Z Z Z) Z ?_
    refine TL.q Z .u (AP Z Z Z) Z (TL.run aa [54] Z Z ?_)
    iterate 5 refine AM Z (.gn Z Z Z) Z ?_
    refine TL.q Z .u (AP Z Z Z) Z (TL.run aa [61] Z Z ?_)
    iterate 5 refine AM Z (.gn Z Z Z) Z ?_
    refine TL.q Z .u (AP Z Z Z) Z (TL.run aa [68] Z Z ?_)
    iterate 5 refine AM Z (.gn Z Z Z) Z ?_
    refine TL.q Z .u (AP Z Z Z) Z (TL.run aa [75] Z Z ?_)
    iterate 7 refine AM Z (.gn Z Z Z) Z ?_
    refine TL.q Z .u (AP Z Z Z) Z ?_
    cases h
    exact TL.nil (A5 [0,0,0] ⟨Z,Z⟩ (by rfl) (by rfl))
  ·refine TL.run aa [4,5] Z Z ?_
   iterate 5 refine AM Z (.gn Z Z (aF (C7 c20))) Z ?_
   refine TL.q Z .u (AP Z (aF (C7 c20)) Z) Z (TL.run aa [12] Z Z ?_)
   iterate 5 refine AM Z (.gn Z Z Z) Z ?_
   refine TL.q Z .u (AP Z Z Z) Z (TL.run aa [19] Z Z ?_)
   iterate 5 refine AM Z (.gn Z Z Z) Z ?_
   refine TL.q Z .u (AP Z Z Z) Z (TL.run aa [26] Z Z ?_)
   iterate 5 refine AM Z (.gn Z Z Z) Z ?_
   refine TL.q Z .u (AP Z Z Z) Z (TL.run aa [33] Z Z ?_)
   iterate 5 refine AM Z (.gn Z Z Z) Z ?_
   refine TL.q Z .u (AP Z Z Z) Z (TL.run aa [40] Z Z ?_)
   iterate 5 refine AM Z (.gn Z Z Z) Z ?_
   refine TL.q Z .u (AP Z Z Z) Z (TL.run aa [47] Z Z ?_)
   iterate 5 refine AM Z (.gn Z Z Z) Z ?_
   refine TL.q Z .u (AP Z Z Z) Z (TL.run aa [54] Z Z ?_)
   iterate 5 refine AM Z (.gn Z Z Z) Z ?_
   refine TL.q Z .u (AP Z Z Z) Z (TL.run aa [61] Z Z ?_)
   iterate 5 refine AM Z (.gn Z Z Z) Z ?_
   refine TL.q Z .u (AP Z Z Z) Z (TL.run aa [68] Z Z ?_)
   iterate 5 refine AM Z (.gn Z Z Z) Z ?_
   refine TL.q Z .u (AP Z Z Z) Z (TL.run aa [75] Z Z ?_)
   iterate 7 refine AM Z (.gn Z Z Z) Z ?_
   refine TL.q Z .u (AP Z Z Z) Z ?_
   cases h
   exact TL.nil (A5 [0,0,0] ⟨Z,Z⟩ (by rfl) (by rfl))
 ·rintro _ _ ⟨rfl,rfl⟩
  clear h
  have h:=hk19
  clear hk19
  try dsimp only at h
  rcases jF h with⟨c32,h⟩ | ⟨c32,h⟩
  ·refine X.seq (AN Z c32 (T.seq (T.region Z (TL.run aa [0] Z Z ?_))))
   obtain rfl:=C8 h
   exact TL.nil (X.seq (T.ret (AL (AJ [2] Tryz.results13 (AK Z) ⟨Z,Z,Z⟩ (by rfl) (.inl Z)))))
  ·replace c32:=Dd c32
   refine X.seq (AS Z c32 (T.skip (X.seq (T.seq (T.seq (T.region Z (TL.run aa [0] Z Z (TL.nil (X.seq (T.block ?_))))))))))
   obtain⟨E35,hE36,hO37⟩:=C5 h
   refine Bj (fun m e Rs=> ∃ (y33:Bool) (k34:Nat),e = [(2,jP b5),(3,jP b6),(4,.bool y33),(5,jI (k34:Int))]∧Rs = [aC b6 27 #[jI a1.CP,jI a1.CI,.bool a1.CV,.bool a1.C0,.bool a1.CL,jI a1.CN,jI a1.CH,jI a1.CW,jI a1.CE,jI a1.CK,jI a1.CD,.slice A3 a1.Cy.length c4],aC b5 27 #[jI a0.CP,jI a0.CI,.bool a0.CV,.bool a0.C0,.bool a0.CL,jI a0.CN,jI a0.CH,jI a0.CW,jI a0.CE,jI a0.CK,jI a0.CD,.slice A1 a0.Cy.length c2],aD]∧dD a0 a1 m y33 k34=some E35) (((a0.Cy.length:Int)).toNat+1) [0,0,0] ⟨false,0,Z,Z,by exact hE36⟩ (by rfl) (by rfl) ?_
   rintro m38 _ _ ⟨y33,k34,rfl,rfl,hl40⟩
   clear hE36 h
   cases m38 with
   | zero =>
    rw[dD] at hl40
    cases hl40
   | succ m38 =>
    have h:=hl40
    clear hl40
    rw[dD] at h
    refine T.seq (T.seq (T.region Z (TL.run aa [0,1] Z Z (TL.q Z .u (AH 1 Z DA Z Z) Z (TL.q Z .u (AW Z Dl) Z (TL.run aa [4] Z Z ?_))))))
    rcases jF h with⟨c42,h⟩ | ⟨c42,h⟩
    ·refine TL.nil (X.seq (AN Z (C6 c42) ?_))
     refine T.skip (X.seq (T.seq (T.block (T.seq (Bd (.q 0 (.q 1 (.q 2 (.q 3 (.q 4 (.q 5 (.q 6 (.q 7 (.q 8 (.q 9 (.e 10 (.q 11 .nil)))))))))))) [0,0,0] Z d7 (NoP.seq (NoP.blk (NoP.seq (NoP.seq (NoP.blk (NoP.seq aP)))))) (by kernel_rfl) ?_)))))
     refine TD.run aa [0] Z Z (TD.q Z .u (AH 1 Z DA Z Z) Z ?_)
     obtain⟨x43,hx44,h⟩:=C5 h
     obtain⟨gz45,oz45,rfl,z45cs,z45cl,z45cc,z45nf,z45r⟩:=Bb (by decide) (Bx hX) hx44
     obtain⟨z45S,z45r,z45rr⟩:=z45r
     obtain⟨A46,c47,rfl,z45s0⟩:=z45r
     have hX48:(RX.of (ar 3 bG) [.slice A46 x43.CF.length c47] x43.CF).reads w F:=⟨z45S,z45s0,z45rr⟩
     refine TD.run aa [2] Z Z ?_
     refine TD.q Z .u (AX (k:=k34) Z Z Z Dl Dj (Da hx44).1) Z ?_
     refine TD.q Z .u (Bn (us := [jI x43.CY,jI x43.CU,.bool x43.CJ.null,jS x43.CJ.data,.bool x43.Cz.null,jS x43.Cz.data,.slice A46 x43.CF.length c47]) 0 Z DE Dj z45nf z45cc Z Z Z) Z (TD.run aa [5] Z Z (TD.q Z .u (AH 0 Z DA Z Z) Z ?_))
     obtain⟨x49,hx50,h⟩:=C5 h
     obtain⟨gz51,oz51,rfl,z51cs,z51cl,z51cc,z51nf,z51r⟩:=Bb (by decide) (Bz hX) hx50
     obtain⟨z51S,z51r,z51rr⟩:=z51r
     obtain⟨A52,c53,rfl,z51s0⟩:=z51r
     have hX54:(RX.of (ar 3 bG) [.slice A52 x49.CF.length c53] x49.CF).reads w F:=⟨z51S,z51s0,z51rr⟩
     refine TD.run aa [7] Z Z ?_
     refine TD.q Z .u (AX (k:=k34) Z Z Z Dl Dj (Da hx50).1) Z ?_
     refine TD.q Z .u (Bn (us := [jI x49.CY,jI x49.CU,.bool x49.CJ.null,jS x49.CJ.data,.bool x49.Cz.null,jS x49.Cz.data,.slice A52 x49.CF.length c53]) 0 Z DE Dj z51nf z51cc Z Z Z) Z ?_
     obtain⟨x55,hx56,h⟩:=C5 h
     refine Bk Z .u (.fn Tryz.call48 Z) (pg x43 _ _ x49 _ _ _ hx56) (fun _ hs=>(BJ (Ba hs hX48) (Ba hs hX54))) Z [0,0,0] (Z) (TD.run aa [11] Z Z ?_)
     rcases jF h with⟨c57,h⟩ | ⟨c57,h⟩
     ·refine TD.nil (X.seq (AS Z (ax c57) (T.skip (AZ (X.seq (T.region Z ?_))))))
      replace h:=an h
      obtain⟨c58,h⟩:=h
      exact TL.run aa [0] Z Z (TL.q Z .u (Ex.add Z Z c58) Z (TL.run aa [2] Z Z (TL.nil (X.back (m':=m38) [0,0,0] (by omega) ⟨y33,k34+1,Z,Z,h⟩ (by rfl) (by rfl)))))
     ·replace c57:=Dd c57
      refine TD.nil (X.seq (AN Z (aF c57) (T.seq (T.region Z (TL.run aa [0] Z Z ?_)))))
      obtain rfl:=C8 h
      replace h:=hO37
      clear hO37
      try dsimp only at h
      obtain rfl:=C8 h
      exact TL.nil (X.seq (T.ret (AU (AL (AL (AU (AL (AJ [2] Tryz.results13 (AK Z) ⟨Z,Z,Z⟩ (by rfl) (.inl Z)))))))))
    ·refine TL.nil (X.seq (AS Z (C7 c42) ?_))
     obtain rfl:=C8 h
     replace h:=hO37
     clear hO37
     try dsimp only at h
     refine T.exit (AV (AV (Bh (X.seq (T.seq (T.region Z (TL.run aa [0] Z Z ?_)))))))
     obtain rfl:=C8 h
     exact TL.nil (X.seq (T.ret (AJ [2] Tryz.results13 (AK Z) ⟨Z,Z,Z⟩ (by rfl) (.inl Z))))
def dK (a0:Bat):Option (Int):=(if a0.CV=true then ((some 8:Option (Int))) else ((some 0:Option (Int)))).bind fun y5=>(if a0.C0=true then (if -9223372036854775808≤(y5+16)∧(y5+16)≤9223372036854775807 then some (y5+16) else none) else some y5).bind fun y10=>(if a0.CL=true then (if -9223372036854775808≤(y10+32)∧(y10+32)≤9223372036854775807 then some (y10+32) else none) else some y10).bind fun y16=>some y16
theorem gF (a0:Bat) (A1:Option Addr) (c2:Nat) (r:Int) (h:dK a0=some r):aA Tryz.prog 53 #[.agg #[jI a0.CP,jI a0.CI,.bool a0.CV,.bool a0.C0,.bool a0.CL,jI a0.CN,jI a0.CH,jI a0.CW,jI a0.CE,jI a0.CK,jI a0.CD,.slice A1 a0.Cy.length c2]] (RX.of (ar 7 aU) [.slice A1 a0.Cy.length c2] a0.Cy) (aD) (fun v A' N=>v=jI r∧A'=aD∧N = []):=by
 refine aM Tryz.func53 Z Tryz.ntmps53 Z ?_
 intro F w hX
 unfold dK at h
 refine T.seq (T.region Z (TL.box Z .u Z Z (fun b3=>(TL.run aa [1] Z Z (TL.nil (X.seq (T.seq (T.region Z (TL.run aa [0] Z Z (TL.nil (X.seq (T.seq (T.seq (T.region Z (TL.run aa [0] Z Z (TL.q Z .u (AH 0 Z Do Z Z) Z ?_))))))))))))))))
 refine TL.nil (X.seq ?_)
 obtain⟨y5,h,hk6⟩:=C5 h
 refine BE (fun e Rs=>e = [(1,jP b3),(2,jI 0),(3,jI y5)]∧Rs = [aC b3 27 #[jI a0.CP,jI a0.CI,.bool a0.CV,.bool a0.C0,.bool a0.CL,jI a0.CN,jI a0.CH,jI a0.CW,jI a0.CE,jI a0.CK,jI a0.CD,.slice A1 a0.Cy.length c2],aD]) ?_ ?_
 ·clear hk6
  rcases jF h with⟨c7,h⟩ | ⟨c7,h⟩
  ·refine AN Z c7 (T.region Z (TL.run aa [0] Z Z (TL.q Z .u (Ex.add Z Z (by omega)) Z (TL.run aa [2] Z Z ?_))))
   cases h
   exact TL.nil (A5 [0,0] ⟨Z,Z⟩ (by rfl) (by rfl))
  ·replace c7:=Dd c7
   refine AS Z c7 ?_
   cases h
   exact T.skip (A5 [0,0] ⟨Z,Z⟩ (by rfl) (by rfl))
 ·rintro _ _ ⟨rfl,rfl⟩
  clear h
  have h:=hk6
  clear hk6
  try dsimp only at h
  refine X.seq (T.seq (T.seq (T.region Z (TL.run aa [0] Z Z (TL.q Z .u (AH 0 Z Do Z Z) Z (TL.nil (X.seq ?_)))))))
  obtain⟨y10,h,hk11⟩:=C5 h
  refine BE (fun e Rs=>e = [(1,jP b3),(2,jI 0),(3,jI y10)]∧Rs = [aC b3 27 #[jI a0.CP,jI a0.CI,.bool a0.CV,.bool a0.C0,.bool a0.CL,jI a0.CN,jI a0.CH,jI a0.CW,jI a0.CE,jI a0.CK,jI a0.CD,.slice A1 a0.Cy.length c2],aD]) ?_ ?_
  ·clear hk11
   rcases jF h with⟨c12,h⟩ | ⟨c12,h⟩
   ·refine AN Z c12 (T.region Z ?_)
    replace h:=an h
    obtain⟨c13,h⟩:=h
    refine TL.run aa [0] Z Z (TL.q Z .u (Ex.add Z Z c13) Z (TL.run aa [2] Z Z ?_))
    cases h
    exact TL.nil (A5 [0,0] ⟨Z,Z⟩ (by rfl) (by rfl))
   ·replace c12:=Dd c12
    refine AS Z c12 ?_
    cases h
    exact T.skip (A5 [0,0] ⟨Z,Z⟩ (by rfl) (by rfl))
  ·rintro _ _ ⟨rfl,rfl⟩
   clear h
   have h:=hk11
   clear hk11
   try dsimp only at h
   refine X.seq (T.seq (T.seq (T.region Z (TL.run aa [0] Z Z (TL.q Z .u (AH 0 Z Do Z Z) Z (TL.nil (X.seq ?_)))))))
   obtain⟨y16,h,hk17⟩:=C5 h
   refine BE (fun e Rs=>e = [(2,jI 0),(3,jI y16)]∧Rs = [aC b3 27 #[jI a0.CP,jI a0.CI,.bool a0.CV,.bool a0.C0,.bool a0.CL,jI a0.CN,jI a0.CH,jI a0.CW,jI a0.CE,jI a0.CK,jI a0.CD,.slice A1 a0.Cy.length c2],aD]) ?_ ?_
   ·clear hk17
    rcases jF h with⟨c18,h⟩ | ⟨c18,h⟩
    ·refine AN Z c18 (T.region Z ?_)
     replace h:=an h
     obtain⟨c19,h⟩:=h
     refine TL.run aa [0] Z Z (TL.q Z .u (Ex.add Z Z c19) Z (TL.run aa [2] Z Z ?_))
     cases h
     exact TL.nil (A5 [0,0] ⟨Z,Z⟩ (by rfl) (by rfl))
    ·replace c18:=Dd c18
     refine AS Z c18 ?_
     cases h
     exact T.skip (A5 [0,0] ⟨Z,Z⟩ (by rfl) (by rfl))
   ·rintro _ _ ⟨rfl,rfl⟩
    clear h
    have h:=hk17
    clear hk17
    try dsimp only at h
    refine X.seq (T.seq (T.region Z (TL.run aa [0,1] Z Z ?_)))
    obtain rfl:=C8 h
    exact TL.nil (X.seq (T.ret (AJ [1] Tryz.results53 (AK Z) ⟨Z,Z,Z⟩ (by rfl) (.inl Z))))
def cX (a0:Bat):Nat→List UInt8→Nat→Option (List UInt8×Nat)
 | 0,_,_=>none
 | m9+1,y4,k5=>if (k5:Int)<(a0.Cy.length:Int) then ((a0.Cy[k5]?).bind fun x14=>(ib x14).bind fun x20=>if y4.length+x20.length≤9223372036854775807 then (if -9223372036854775808≤((k5:Int)+1)∧((k5:Int)+1)≤9223372036854775807 then (cX a0 m9 (y4++x20) (k5+1)) else none) else none) else some (y4,k5)
def gw (a0:Bat):Option (List UInt8):=(cX a0 (((a0.Cy.length:Int)).toNat+1) [] 0).bind fun (y44,k45)=>if -9223372036854775808≤(49+(y44.length:Int))∧(49+(y44.length:Int))≤9223372036854775807 then ((dK a0).bind fun x47=>(eD [a0.CP,(49+(y44.length:Int)),a0.CI,0,x47,a0.CN,a0.CH,a0.CW,a0.CE,a0.CK,a0.CD,(a0.Cy.length:Int)]).bind fun (x50,x51)=>if 21≤x50.length then (if (x50.drop 21).length+y44.length≤9223372036854775807 then ((kd ((x50.drop 21)++y44)).bind fun x55=>if -9223372036854775808≤x55∧x55≤9223372036854775807 then (if -9223372036854775808≤(49+(y44.length:Int))∧(49+(y44.length:Int))≤9223372036854775807 then ((dK a0).bind fun x59=>(eD [a0.CP,(49+(y44.length:Int)),a0.CI,x55,x59,a0.CN,a0.CH,a0.CW,a0.CE,a0.CK,a0.CD,(a0.Cy.length:Int)]).bind fun (x62,x63)=>if x62.length+y44.length≤9223372036854775807 then some (x62++y44) else none) else none) else none) else none) else none) else none
theorem ns (a0:Bat) (A1:Option Addr) (c2:Nat) (r:List UInt8) (h:gw a0=some r):aA Tryz.prog 16 #[.agg #[jI a0.CP,jI a0.CI,.bool a0.CV,.bool a0.C0,.bool a0.CL,jI a0.CN,jI a0.CH,jI a0.CW,jI a0.CE,jI a0.CK,jI a0.CD,.slice A1 a0.Cy.length c2]] (RX.of (ar 7 aU) [.slice A1 a0.Cy.length c2] a0.Cy) (aD) (fun v A' N=>v=jS r∧A'=aD∧N = []):=by
 refine aM Tryz.func16 Z Tryz.ntmps16 Z ?_
 intro F w hX
 unfold gw at h
 refine T.seq (T.region Z (TL.box Z .u Z Z (fun b3=>(TL.run aa [1] Z Z (TL.nil (X.seq (T.seq (T.region Z (TL.run aa [0] Z Z (TL.nil (X.seq (T.seq (T.seq (T.region Z (TL.run aa [0] Z Z (TL.nil (X.seq (T.block ?_))))))))))))))))))
 obtain⟨E6,hE7,hO8⟩:=C5 h
 refine Bj (fun m e Rs=> ∃ (y4:List UInt8) (k5:Nat),e = [(1,jP b3),(2,.string ⟨#[]⟩),(3,jS y4),(4,jI (k5:Int))]∧Rs = [aC b3 27 #[jI a0.CP,jI a0.CI,.bool a0.CV,.bool a0.C0,.bool a0.CL,jI a0.CN,jI a0.CH,jI a0.CW,jI a0.CE,jI a0.CK,jI a0.CD,.slice A1 a0.Cy.length c2],aD]∧cX a0 m y4 k5=some E6) (((a0.Cy.length:Int)).toNat+1) [0,0] ⟨[],0,Z,Z,by exact hE7⟩ (by rfl) (by rfl) ?_
 rintro m9 _ _ ⟨y4,k5,rfl,rfl,hl11⟩
 clear hE7 h
 cases m9 with
 | zero =>
  rw[cX] at hl11
  cases hl11
 | succ m9 =>
  have h:=hl11
  clear hl11
  rw[cX] at h
  refine T.seq (T.seq (T.region Z (TL.run aa [0,1] Z Z (TL.q Z .u (AH 0 Z DA Z Z) Z (TL.q Z .u (AW Z Dl) Z (TL.run aa [4] Z Z ?_))))))
  rcases jF h with⟨c13,h⟩ | ⟨c13,h⟩
  ·refine TL.nil (X.seq (AN Z (C6 c13) (T.skip (X.seq (T.seq (T.block (T.region Z (TL.run aa [0,1] Z Z (TL.q Z .u (AH 0 Z DA Z Z) Z ?_)))))))))
   obtain⟨x14,hx15,h⟩:=C5 h
   obtain⟨gz16,oz16,rfl,z16cs,z16cl,z16cc,z16nf,z16r⟩:=Bb (by decide) hX hx15
   obtain⟨z16S,z16r,z16rr⟩:=z16r
   obtain⟨A17,c18,rfl,z16s0⟩:=z16r
   have hX19:(RX.of (ar 3 bG) [.slice A17 x14.CF.length c18] x14.CF).reads w F:=⟨z16S,z16s0,z16rr⟩
   refine TL.run aa [3] Z Z ?_
   refine TL.q Z .u (AX (k:=k5) Z Z Z Dl Dj (Da hx15).1) Z ?_
   refine TL.q Z .u (Bn (us := [jI x14.CY,jI x14.CU,.bool x14.CJ.null,jS x14.CJ.data,.bool x14.Cz.null,jS x14.Cz.data,.slice A17 x14.CF.length c18]) 0 Z DE Dj z16nf z16cc Z Z Z) Z ?_
   obtain⟨x20,hx21,h⟩:=C5 h
   refine Bc Z .u (.fn Tryz.call51 Z) (nZ x14 _ _ _ hx21) (fun _ hs=>(Ba hs hX19)) Z ?_
   replace h:=an h
   obtain⟨c22,h⟩:=h
   refine TL.q Z .u (Bf Z Z c22) Z (TL.run aa [8] Z Z (TL.nil (AZ (X.seq (T.region Z ?_)))))
   replace h:=an h
   obtain⟨c23,h⟩:=h
   exact TL.run aa [0] Z Z (TL.q Z .u (Ex.add Z Z c23) Z (TL.run aa [2] Z Z (TL.nil (X.back (m':=m9) [0,0] (by omega) ⟨(y4++x20),k5+1,Z,Z,h⟩ (by rfl) (by rfl)))))
  ·refine TL.nil (X.seq (AS Z (C7 c13) ?_))
   obtain rfl:=C8 h
   replace h:=hO8
   clear hO8
   try dsimp only at h
   refine T.exit (AV (AV (Bh (X.seq (T.seq (Bd (.q 0 (.q 1 (.q 2 (.q 3 (.q 4 (.q 5 (.q 6 (.q 7 (.q 9 (.q 10 (.q 11 (.q 12 (.q 13 (.q 14 (.q 15 (.q 16 (.q 17 (.q 18 (.q 19 (.q 20 (.q 21 (.q 22 (.q 23 (.e 8 (.e 24 (.e 25 (.q 26 (.q 27 (.q 28 (.q 29 (.q 30 .nil))))))))))))))))))))))))))))))) [0,0] Z d7 (NoP.seq aP) (by kernel_rfl) ?_))))))
   refine TD.run aa [0] Z Z (TD.q Z .u (AH 0 Z Dc Z Z) Z (TD.run aa [2] Z Z (TD.q Z .u (Br Z Dm) Z ?_)))
   replace h:=an h
   obtain⟨c24,h⟩:=h
   refine TD.q Z .u (Ex.add Z Z c24) Z (TD.run aa [5] Z Z (TD.q Z .u (AH 0 Z Dc Z Z) Z (TD.q Z .u (AY (us := [jI a0.CP,jI a0.CI,.bool a0.CV,.bool a0.C0,.bool a0.CL,jI a0.CN,jI a0.CH,jI a0.CW,jI a0.CE,jI a0.CK,jI a0.CD,.slice A1 a0.Cy.length c2]) 0 Z Dx Di Z Z Z) Z (TD.run aa [9] Z Z (TD.q Z .u (AH 0 Z Dc Z Z) Z (TD.run aa [11] Z Z (TD.q Z .u (AH 0 Z Dc Z Z) Z ?_)))))))
   refine TD.run aa [13] Z Z (TD.q Z .u (AH 0 Z Dc Z Z) Z (TD.run aa [15] Z Z (TD.q Z .u (AH 0 Z Dc Z Z) Z (TD.run aa [17] Z Z (TD.q Z .u (AH 0 Z Dc Z Z) Z (TD.run aa [19] Z Z (TD.q Z .u (AH 0 Z Dc Z Z) Z ?_)))))))
   refine TD.run aa [21] Z Z (TD.q Z .u (AH 0 Z DA Z Z) Z (TD.q Z .u (AW Z Dl) Z ?_))
   obtain⟨x25,hx26,h⟩:=C5 h
   refine Bk Z .u (.fn Tryz.call53 Z) (gF a0 _ _ _ hx26) (fun _ hs=>(Ba hs hX)) Z [0,0] (Z) ?_
   refine BQ (cells:= #[jI a0.CP,jI (49+(y4.length:Int)),jI a0.CI,jI 0,jI x25,jI a0.CN,jI a0.CH,jI a0.CW,jI a0.CE,jI a0.CK,jI a0.CD,jI (a0.Cy.length:Int)]) Z .u fR Z (by kernel_rfl) Z [1,1] (fun _=>Z) (fun b27=> ?_)
   refine Ci (us := [jI a0.CP,jI (49+(y4.length:Int)),jI a0.CI,jI 0,jI x25,jI a0.CN,jI a0.CH,jI a0.CW,jI a0.CE,jI a0.CK,jI a0.CD,jI (a0.Cy.length:Int)]) (xs := [a0.CP,(49+(y4.length:Int)),a0.CI,0,x25,a0.CN,a0.CH,a0.CW,a0.CE,a0.CK,a0.CD,(a0.Cy.length:Int)]) (E:=fc) (z:=1) Z (Nat.le_of_ble_eq_true Z) (fun _=>⟨Z,Z,⟨Z,Z,⟨Z,Z,⟨Z,Z,⟨Z,Z,⟨Z,Z,⟨Z,Z,⟨Z,Z,⟨Z,Z,⟨Z,Z,⟨Z,Z,⟨Z,Z,Z⟩⟩⟩⟩⟩⟩⟩⟩⟩⟩⟩⟩) ?_
   obtain⟨⟨x28,x29⟩,hx30,h⟩:=C5 h
   try dsimp only at h
   refine Bk Z .u (.fn Tryz.call52 Z) (ke [a0.CP,(49+(y4.length:Int)),a0.CI,0,x25,a0.CN,a0.CH,a0.CW,a0.CE,a0.CK,a0.CD,(a0.Cy.length:Int)] _ _ _ hx30) (fun _ hs=>(SrcE.res 0 hs Z (fun w G h=>bA (by decide) w G h))) Z [1,1] (Z) (TD.run aa [26,27,28,29,30] Z Z (TD.nil (X.seq (T.seq (T.region Z ?_)))))
   replace h:=an h
   obtain⟨c31,h⟩:=h
   refine TL.run aa [0] Z Z ?_
   replace c31:21≤x28.length:=c31
   refine TL.q Z .u (Cs (p:=21) (q:=x28.length) (m:=(x28.drop 21)) Z Dm (.some Z Z) .none (by first | omega | (dsimp only; omega)) (sS _ _)) Z ?_
   replace h:=an h
   obtain⟨c32,h⟩:=h
   refine TL.run aa [2] Z Z (TL.q Z .u (Bf Z Z c32) Z ?_)
   obtain⟨x33,hx34,h⟩:=C5 h
   refine Bc Z .u (.fn Tryz.call54 Z) (qn ((x28.drop 21)++y4) _ hx34) (fun _ hs=>(AQ _ _)) Z ?_
   replace h:=an h
   obtain⟨c35,h⟩:=h
   refine TL.q Z .u (BW Z D5 D7 c35) Z (TL.run aa [6] Z Z ?_)
   refine TL.nil (X.seq (T.seq (Bd (.q 0 (.q 1 (.q 2 (.q 3 (.q 4 (.q 5 (.q 6 (.q 7 (.q 8 (.q 10 (.q 11 (.q 12 (.q 13 (.q 14 (.q 15 (.q 16 (.q 17 (.q 18 (.q 19 (.q 20 (.q 21 (.q 22 (.q 23 (.q 24 (.e 9 (.e 25 (.e 26 (.q 27 (.q 28 (.q 29 (.q 30 (.q 31 .nil)))))))))))))))))))))))))))))))) [0,0,0] Z d7 (NoP.seq aP) (by kernel_rfl) ?_)))
   refine TD.run aa [0] Z Z (TD.q Z .u (AH 1 Z Dc Z Z) Z (TD.run aa [2] Z Z (TD.q Z .u (Br Z Dm) Z ?_)))
   replace h:=an h
   obtain⟨c36,h⟩:=h
   refine TD.q Z .u (Ex.add Z Z c36) Z (TD.run aa [5] Z Z (TD.q Z .u (AH 1 Z Dc Z Z) Z (TD.run aa [7] Z Z (TD.q Z .u (AY (us := [jI a0.CP,jI a0.CI,.bool a0.CV,.bool a0.C0,.bool a0.CL,jI a0.CN,jI a0.CH,jI a0.CW,jI a0.CE,jI a0.CK,jI a0.CD,.slice A1 a0.Cy.length c2]) 1 Z Dx Di Z Z Z) Z (TD.run aa [10] Z Z (TD.q Z .u (AH 1 Z Dc Z Z) Z (TD.run aa [12] Z Z ?_)))))))
   refine TD.q Z .u (AH 1 Z Dc Z Z) Z (TD.run aa [14] Z Z (TD.q Z .u (AH 1 Z Dc Z Z) Z (TD.run aa [16] Z Z (TD.q Z .u (AH 1 Z Dc Z Z) Z (TD.run aa [18] Z Z (TD.q Z .u (AH 1 Z Dc Z Z) Z (TD.run aa [20] Z Z ?_)))))))
   refine TD.q Z .u (AH 1 Z Dc Z Z) Z (TD.run aa [22] Z Z (TD.q Z .u (AH 1 Z DA Z Z) Z (TD.q Z .u (AW Z Dl) Z ?_)))
   obtain⟨x37,hx38,h⟩:=C5 h
   refine Bk Z .u (.fn Tryz.call53 Z) (gF a0 _ _ _ hx38) (fun _ hs=>(Ba hs hX)) Z [0,0,0] (Z) ?_
   refine BQ (cells:= #[jI a0.CP,jI (49+(y4.length:Int)),jI a0.CI,jI x33,jI x37,jI a0.CN,jI a0.CH,jI a0.CW,jI a0.CE,jI a0.CK,jI a0.CD,jI (a0.Cy.length:Int)]) Z .u fR Z (by kernel_rfl) Z [1,1,1] (fun _=>Z) (fun b39=> ?_)
   refine Ci (us := [jI a0.CP,jI (49+(y4.length:Int)),jI a0.CI,jI x33,jI x37,jI a0.CN,jI a0.CH,jI a0.CW,jI a0.CE,jI a0.CK,jI a0.CD,jI (a0.Cy.length:Int)]) (xs := [a0.CP,(49+(y4.length:Int)),a0.CI,x33,x37,a0.CN,a0.CH,a0.CW,a0.CE,a0.CK,a0.CD,(a0.Cy.length:Int)]) (E:=fc) (z:=1) Z (Nat.le_of_ble_eq_true Z) (fun _=>⟨Z,Z,⟨Z,Z,⟨Z,Z,⟨Z,Z,⟨Z,Z,⟨Z,Z,⟨Z,Z,⟨Z,Z,⟨Z,Z,⟨Z,Z,⟨Z,Z,⟨Z,Z,Z⟩⟩⟩⟩⟩⟩⟩⟩⟩⟩⟩⟩) ?_
   obtain⟨⟨x40,x41⟩,hx42,h⟩:=C5 h
   try dsimp only at h
   refine Bk Z .u (.fn Tryz.call52 Z) (ke [a0.CP,(49+(y4.length:Int)),a0.CI,x33,x37,a0.CN,a0.CH,a0.CW,a0.CE,a0.CK,a0.CD,(a0.Cy.length:Int)] _ _ _ hx42) (fun _ hs=>(SrcE.res 0 hs Z (fun w G h=>bA (by decide) w G h))) Z [1,1,1] (Z) (TD.run aa [27,28,29,30,31] Z Z (TD.nil (X.seq (T.seq (T.region Z ?_)))))
   replace h:=an h
   obtain⟨c43,h⟩:=h
   refine TL.run aa [0,1] Z Z (TL.q Z .u (Bf Z Z c43) Z (TL.run aa [3] Z Z ?_))
   obtain rfl:=C8 h
   exact TL.nil (X.seq (T.ret (AJ [3] Tryz.results16 (AK Z) ⟨Z,Z,Z⟩ (by rfl) (.inl Z))))
def dE (a0:List Bat) (a1:List Bat):Nat→Bool→Nat→Option (Lp Bool (Bool×Nat))
 | 0,_,_=>none
 | m11+1,y6,k7=>if (k7:Int)<(a0.length:Int) then ((a0[k7]?).bind fun x16=>(a1[k7]?).bind fun x22=>(jg x16 x22).bind fun x28=>if x28=true then (if -9223372036854775808≤((k7:Int)+1)∧((k7:Int)+1)≤9223372036854775807 then (dE a0 a1 m11 y6 (k7+1)) else none) else some (Lp.ret false)) else (some (Lp.go (y6,k7)))
def gM (a0:List Bat) (a1:List Bat):Option (Bool):=if (a0.length:Int)=(a1.length:Int) then ((dE a0 a1 (((a0.length:Int)).toNat+1) false 0).bind fun e=>match e with | .ret r=>some r | .go (y32,k33)=>some true) else some false
theorem pj (a0:List Bat) (A1:Option Addr) (c2:Nat) (a1:List Bat) (A3:Option Addr) (c4:Nat) (r:Bool) (h:gM a0 a1=some r):aA Tryz.prog 66 #[.slice A1 a0.length c2,.slice A3 a1.length c4] (RX.and (RX.of (ar 12 bT) [.slice A1 a0.length c2] a0) (RX.of (ar 12 bT) [.slice A3 a1.length c4] a1)) (aD) (fun v A' N=>v= .bool r∧A'=aD∧N = []):=by
 refine aM Tryz.func66 Z Tryz.ntmps66 Z ?_
 intro F w hX
 unfold gM at h
 refine T.seq (T.region Z (TL.run aa [0] Z Z (TL.nil (X.seq (T.seq (T.seq (T.region Z (TL.run aa [0] Z Z (TL.q Z .u (AW Z Dr) Z (TL.run aa [2] Z Z (TL.q Z .u (AW Z Dr) Z (TL.run aa [4] Z Z ?_))))))))))))
 rcases jF h with⟨c5,h⟩ | ⟨c5,h⟩
 ·refine TL.nil (X.seq (AS Z (ax (C6 c5)) (T.skip (X.seq (T.seq (T.seq (T.region Z (TL.run aa [0] Z Z (TL.nil (X.seq (T.block ?_)))))))))))
  obtain⟨E8,hE9,hO10⟩:=C5 h
  refine Bj (fun m e Rs=> ∃ (y6:Bool) (k7:Nat),e = [(0,.slice A1 a0.length c2),(1,.slice A3 a1.length c4),(4,.bool y6),(5,jI (k7:Int))]∧Rs = [aD]∧dE a0 a1 m y6 k7=some E8) (((a0.length:Int)).toNat+1) [0] ⟨false,0,Z,Z,by exact hE9⟩ (by rfl) (by rfl) ?_
  rintro m11 _ _ ⟨y6,k7,rfl,rfl,hl13⟩
  clear hE9 h
  cases m11 with
  | zero =>
   rw[dE] at hl13
   cases hl13
  | succ m11 =>
   have h:=hl13
   clear hl13
   rw[dE] at h
   refine T.seq (T.seq (T.region Z (TL.run aa [0,1] Z Z (TL.q Z .u (AW Z Dr) Z (TL.run aa [3] Z Z ?_)))))
   rcases jF h with⟨c15,h⟩ | ⟨c15,h⟩
   ·refine TL.nil (X.seq (AN Z (C6 c15) ?_))
    refine T.skip (X.seq (T.seq (T.block (T.seq (Bd (.q 0 (.q 1 (.q 2 (.q 3 (.q 4 (.q 5 (.q 6 (.q 7 (.e 8 (.q 9 .nil)))))))))) [0] Z d7 (NoP.seq (NoP.blk (NoP.seq (NoP.seq (NoP.blk (NoP.seq aP)))))) (by kernel_rfl) ?_)))))
    obtain⟨x16,hx17,h⟩:=C5 h
    obtain⟨gz18,oz18,rfl,z18cs,z18cl,z18cc,z18nf,z18r⟩:=Bb (by decide) (Bx hX) hx17
    obtain⟨z18S,z18r,z18rr⟩:=z18r
    obtain⟨A19,c20,rfl,z18s0⟩:=z18r
    have hX21:(RX.of (ar 7 aU) [.slice A19 x16.Cy.length c20] x16.Cy).reads w F:=⟨z18S,z18s0,z18rr⟩
    refine TD.run aa [0,1] Z Z ?_
    refine TD.q Z .u (AX (k:=k7) Z Z Z Dr Di (Da hx17).1) Z ?_
    refine TD.q Z .u (Bn (us := [jI x16.CP,jI x16.CI,.bool x16.CV,.bool x16.C0,.bool x16.CL,jI x16.CN,jI x16.CH,jI x16.CW,jI x16.CE,jI x16.CK,jI x16.CD,.slice A19 x16.Cy.length c20]) 0 Z Dx Di z18nf z18cc Z Z Z) Z ?_
    obtain⟨x22,hx23,h⟩:=C5 h
    obtain⟨gz24,oz24,rfl,z24cs,z24cl,z24cc,z24nf,z24r⟩:=Bb (by decide) (Bz hX) hx23
    obtain⟨z24S,z24r,z24rr⟩:=z24r
    obtain⟨A25,c26,rfl,z24s0⟩:=z24r
    have hX27:(RX.of (ar 7 aU) [.slice A25 x22.Cy.length c26] x22.Cy).reads w F:=⟨z24S,z24s0,z24rr⟩
    refine TD.run aa [4,5] Z Z ?_
    refine TD.q Z .u (AX (k:=k7) Z Z Z Dr Di (Da hx23).1) Z ?_
    refine TD.q Z .u (Bn (us := [jI x22.CP,jI x22.CI,.bool x22.CV,.bool x22.C0,.bool x22.CL,jI x22.CN,jI x22.CH,jI x22.CW,jI x22.CE,jI x22.CK,jI x22.CD,.slice A25 x22.Cy.length c26]) 0 Z Dx Di z24nf z24cc Z Z Z) Z ?_
    obtain⟨x28,hx29,h⟩:=C5 h
    refine Bk Z .u (.fn Tryz.call13 Z) (pi x16 _ _ x22 _ _ _ hx29) (fun _ hs=>(BJ (Ba hs hX21) (Ba hs hX27))) Z [0] (Z) (TD.run aa [9] Z Z ?_)
    rcases jF h with⟨c30,h⟩ | ⟨c30,h⟩
    ·refine TD.nil (X.seq (AS Z (ax c30) (T.skip (AZ (X.seq (T.region Z ?_))))))
     replace h:=an h
     obtain⟨c31,h⟩:=h
     exact TL.run aa [0] Z Z (TL.q Z .u (Ex.add Z Z c31) Z (TL.run aa [2] Z Z (TL.nil (X.back (m':=m11) [0] (by omega) ⟨y6,k7+1,Z,Z,h⟩ (by rfl) (by rfl)))))
    ·replace c30:=Dd c30
     refine TD.nil (X.seq (AN Z (aF c30) (T.seq (T.region Z (TL.run aa [0] Z Z ?_)))))
     obtain rfl:=C8 h
     replace h:=hO10
     clear hO10
     try dsimp only at h
     obtain rfl:=C8 h
     exact TL.nil (X.seq (T.ret (AU (AL (AL (AU (AL (AJ [0] Tryz.results66 (AK Z) ⟨Z,Z,Z⟩ (by rfl) (.inl Z)))))))))
   ·refine TL.nil (X.seq (AS Z (C7 c15) ?_))
    obtain rfl:=C8 h
    replace h:=hO10
    clear hO10
    try dsimp only at h
    refine T.exit (AV (AV (Bh (X.seq (T.seq (T.region Z (TL.run aa [0] Z Z ?_)))))))
    obtain rfl:=C8 h
    exact TL.nil (X.seq (T.ret (AJ [0] Tryz.results66 (AK Z) ⟨Z,Z,Z⟩ (by rfl) (.inl Z))))
 ·refine TL.nil (X.seq (AN Z (aF (C7 c5)) (T.seq (T.region Z (TL.run aa [0] Z Z ?_)))))
  obtain rfl:=C8 h
  exact TL.nil (X.seq (T.ret (AL (AJ [0] Tryz.results66 (AK Z) ⟨Z,Z,Z⟩ (by rfl) (.inl Z)))))
theorem qo (l:List UInt8) (p:Nat) (h:2≤l.length):dr ⟨l,p,0⟩ 2=(cG (l.take 2),⟨l.drop 2,p+2,0⟩):=sK l p 2 (by decide) (by decide) h
theorem yY (l:List UInt8) (p:Nat) (h:4≤l.length):dr ⟨l,p,0⟩ 4=(cG (l.take 4),⟨l.drop 4,p+4,0⟩):=sK l p 4 (by decide) (by decide) h
theorem lx (l:List UInt8) (p:Nat) (h:l.length<2):dr ⟨l,p,0⟩ 2=(0,⟨l,p,1⟩):=mv l p 2 (by decide) (by decide) (by omega)
theorem ud (l:List UInt8) (p:Nat) (h:l.length<4):dr ⟨l,p,0⟩ 4=(0,⟨l,p,1⟩):=mv l p 4 (by decide) (by decide) (by omega)
theorem s8 (l:List UInt8) (p:Nat) (e n:Int) (h:e≠0):dr ⟨l,p,e⟩ n=(0,⟨l,p,e⟩):=j5 (st:=⟨l,p,e⟩) h n
theorem eV (l:List UInt8) (p:Nat) (e:Int) (h:e≠0):eF ⟨l,p,e⟩=⟨l,p,e⟩:=pT (st:=⟨l,p,e⟩) h
theorem wz (l:List UInt8) (p:Nat) (e f:Int) (h:e≠0):cB ⟨l,p,e⟩ f=⟨l,p,e⟩:=nM (st:=⟨l,p,e⟩) h f
theorem pC (l:List UInt8) (p:Nat) (f:Int):cB ⟨l,p,0⟩ f=⟨l,p,f⟩:=by simp[cB]
theorem ue (l:List UInt8) (p:Nat):eF ⟨l,p,0⟩=⟨l,p,if l = [] then 0 else 2⟩:=by unfold eF; split <;> simp_all [cB]
theorem nt {l:List UInt8} {n:Nat} (h:n≤l.length):l.drop n = [] ↔ ¬ (l.length:Int)>n:=by rw[List.drop_eq_nil_iff]; omega
theorem yZ (l:List UInt8) (hl:l.length≤9223372036854775807):cK l=fQ l:=by
 unfold cK fQ cg
 simp only[iI l (by omega),gp,gJ,dR,C9]
 by_cases h2:l.length<2
 ·have h2i:(l.length:Int)<2:=by omega
  simp[lx l 0 h2,s8,eV,wz,h2i]
 have h2i: ¬ (l.length:Int)<2:=by omega
 have h2j:2≤(l.length:Int):=by omega
 rw[qo l 0 (by omega),if_neg h2i,if_pos (show 2≤l.length by omega),nd _ (by simp; omega)]
 simp only[C9]
 by_cases h0:cG (l.take 2)=0
 ·rw[if_pos h0,if_pos h0]
  simp only[C9]
  by_cases h4:l.length<4
  ·have h4i:(l.length:Int)<4:=by omega
   simp[lx (l.drop 2) (0+2) (by simp; omega),eV,h4i]
  have h4i: ¬ (l.length:Int)<4:=by omega
  rw[qo _ _ (by simp; omega),if_neg h4i,if_pos (show 4≤l.length by omega),nd _ (by simp; omega)]
  simp only[C9,DW,ue,pC]
  have hd:=nt (l:=l) (n:=4) (by omega)
  generalize cG ((l.drop 2).take 2)=k
  by_cases h5:(l.length:Int)>4
  ·have hd2: ¬ l.drop (2+2) = []:=fun h=>(hd.1 h) h5
   by_cases k0:k=0
   ·simp[hd2,h5,eV,k0]
   ·by_cases k1:k=1 <;> simp[hd2,h5,eV,k0,k1]
  ·have hd2:l.drop (2+2) = []:=hd.2 h5
   by_cases k0:k=0
   ·simp[hd2,h5,eV,k0]
   ·by_cases k1:k=1 <;> simp[hd2,h5,eV,k0,k1]
 ·rw[if_neg h0,if_neg h0]
  simp[pC,s8,eV]
theorem vJ (l:List UInt8) (hl:l.length≤9223372036854775807):cc l=eU l:=by
 unfold cc eU cg
 simp only[iI l (by omega),gp,gJ,dR,C9]
 by_cases h2:l.length<2
 ·have h2i:(l.length:Int)<2:=by omega
  simp[lx l 0 h2,s8,eV,wz,h2i]
 have h2i: ¬ (l.length:Int)<2:=by omega
 have h2j:2≤(l.length:Int):=by omega
 rw[qo l 0 (by omega),if_neg h2i,if_pos (show 2≤l.length by omega),nd _ (by simp; omega)]
 simp only[C9]
 by_cases h0:cG (l.take 2)=0
 ·rw[if_pos h0,if_pos h0]
  simp only[C9]
  by_cases h4:l.length<6
  ·have h4i:(l.length:Int)<6:=by omega
   simp[ud (l.drop 2) (0+2) (by simp; omega),eV,h4i]
  have h4i: ¬ (l.length:Int)<6:=by omega
  rw[yY _ _ (by simp; omega),if_neg h4i,if_pos (show 6≤l.length by omega),nd _ (by simp; omega)]
  simp only[C9,DW,ue,pC]
  have hd:=nt (l:=l) (n:=6) (by omega)
  generalize cG ((l.drop 2).take 4)=k
  by_cases h5:(l.length:Int)>6
  ·have hd2: ¬ l.drop (2+4) = []:=fun h=>(hd.1 h) h5
   by_cases k0:k<0 <;> simp[hd2,h5,eV,k0]
  ·have hd2:l.drop (2+4) = []:=hd.2 h5
   by_cases k0:k<0 <;> simp[hd2,h5,eV,k0]
 ·rw[if_neg h0,if_neg h0]
  simp[pC,s8,eV]
theorem s9 (r:Rec) (h1:r.CJ.data.length≤9223372036854775807) (h2:r.Cz.data.length≤9223372036854775807):cn r=fq r:=by
 unfold cn fq
 rw[yZ _ h1,vJ _ h2]
def dQ:List Rec→Int
 | []=>0
 | r::l=>if dP r=0 then dQ l else dP r
theorem r6 (y:Int): ∀ l:List Rec,(∀ r,r∈l→wI r.CU)→cY l y=some (if dQ l=0 then .go y else .ret (dQ l))
 | [],h=>rfl
 | r::l,h=>by
  rw[cY,kx _ (h r (.head _)),C9,r6 y l (fun x hx=>h x (.tail _ hx)),dQ]
  by_cases hr:dP r=0
  ·rw[if_pos hr,if_pos hr]
  ·rw[if_neg hr,if_neg hr,if_neg hr]
theorem r7 (y:Int): ∀ l:List Rec,(∀ r,r∈l→wI r.CU)→cZ l y=some (if dQ l=0 then .go y else .ret (dQ l))
 | [],h=>rfl
 | r::l,h=>by
  rw[cZ,kx _ (h r (.head _)),C9,r7 y l (fun x hx=>h x (.tail _ hx)),dQ]
  by_cases hr:dP r=0
  ·rw[if_pos hr,if_pos hr]
  ·rw[if_neg hr,if_neg hr,if_neg hr]
theorem r8 (a:Bat) (hb:a.Cy.length≤1000000) (hh: ∀ r,r∈a.Cy→r.CF.length≤1000000) (y:Int): ∀ (l:List Rec) (k fuel:Nat),a.Cy.drop k=l→l.length<fuel→ ∃ z,cu a fuel y k=some (if dQ l=0 then .go (y,z) else .ret (dQ l))
 | [],k,fuel+1,h,hf=>by
  have:=bM h
  exact⟨k,by rw[cu,if_neg (by omega)]; rfl⟩
 | r::l,k,fuel+1,h,hf=>by
  obtain⟨h1,h2,h3⟩:=aW h
  rw[Dh] at hf
  obtain⟨z,hz⟩:=r8 a hb hh y l (k+1) fuel h2 (by omega)
  rw[cu,if_pos (by omega),h1,C9,xN _ (hh r (List.mem_of_getElem? h1)),C9,dQ]
  by_cases hr:dP r=0
  ·rw[if_pos hr,if_pos hr,if_pos (by omega)]
   exact⟨z,hz⟩
  ·rw[if_neg hr,if_neg hr]
   exact⟨0,by rw[if_neg hr]⟩
theorem r9 (a:Bat): ∀ (fuel:Nat) (y:Int) (k:Nat),dO a fuel y k=cu a fuel y k
 | 0,y,k=>rfl
 | fuel+1,y,k=>by
  rw[dO,cu]
  simp only[r9 a fuel]
def mD (F t:Int):Prop:=t>9223372036854775807 - F∨t < -F
instance (F t:Int):Decidable (mD F t):=by unfold mD; infer_instance
def ta (F L:Int):Int→Int→List Rec→Except Int Int
 | p,m,[]=> .ok m
 | p,m,r::l=>if r.CU≤p∨r.CU>L then .error 13 else if mD F r.CY then .error 11 else ta F L r.CU (if m<F+r.CY then F+r.CY else m) l
theorem xT {F t:Int} (h0:0≤F) (h1:F≤9223372036854775807) (ht:wI t):(mD F t→(IntKind.i64.wrap (F+t)<0))∧(¬ mD F t→IntKind.i64.wrap (F+t)=F+t∧0≤F+t):=by
 obtain⟨t0,t1⟩:=ht
 unfold mD
 rw[IntKind.wrap_i64]
 constructor
 ·intro h
  omega
 ·intro h
  omega
theorem wA (a:Bat) (h0:0≤a.CH) (h1:a.CH≤9223372036854775807) (y:Int): ∀ (l:List Rec) (p m:Int),(∀ r,r∈l→wI r.CY)→(∃ e,ta a.CH a.CN p m l= .error e∧bh a l y p m=some (.ret e))∨(∃ p' m',ta a.CH a.CN p m l= .ok m'∧bh a l y p m=some (.go (y,p',m')))
 | [],p,m,h=> .inr ⟨p,m,rfl,rfl⟩
 | r::l,p,m,h=>by
  have ih:=fun p m=>wA a h0 h1 y l p m (fun x hx=>h x (.tail _ hx))
  obtain⟨w1,w2⟩:=xT h0 h1 (h r (.head _))
  rw[bh,ta]
  by_cases c1:r.CU≤p
  ·rw[if_pos c1,if_pos (.inl c1)]
   exact .inl ⟨_,rfl,rfl⟩
  rw[if_neg c1]
  by_cases c2:r.CU>a.CN
  ·rw[if_pos c2,if_pos (.inr c2)]
   exact .inl ⟨_,rfl,rfl⟩
  rw[if_neg c2,if_neg (by omega)]
  by_cases c3:mD a.CH r.CY
  ·rw[if_pos c3,if_pos (w1 c3)]
   exact .inl ⟨_,rfl,rfl⟩
  obtain⟨w3,w4⟩:=w2 c3
  rw[if_neg c3,w3,if_neg (show ¬ a.CH+r.CY<0 by omega),if_neg (show ¬ a.CH+r.CY<r.CY by omega),ite_self]
  by_cases c4:m<a.CH+r.CY
  ·rw[if_pos c4,if_pos c4]
   exact ih _ _
  ·rw[if_neg c4,if_neg c4]
   exact ih _ _
theorem tb (a:Bat) (h0:0≤a.CH) (h1:a.CH≤9223372036854775807) (hb:a.Cy.length≤1000000) (y:Int): ∀ (l:List Rec) (p m:Int) (k fuel:Nat),a.Cy.drop k=l→l.length<fuel→(k=0→p= -1)→(0<k→ ∃ r,a.Cy[k - 1]? = some r∧r.CU=p∧0≤p) →
 (∃ e,ta a.CH a.CN p m l= .error e∧bz a fuel y k=some (.ret e))∨(∃ m' z,ta a.CH a.CN p m l= .ok m'∧bz a fuel y k=some (.go (y,z)))
 | [],p,m,k,fuel+1,h,hf,hk0,hk1=>by
  have:=bM h
  exact .inr ⟨m,k,rfl,by rw[bz,if_neg (by omega)]⟩
 | r::l,p,m,k,fuel+1,h,hf,hk0,hk1=>by
  obtain⟨g1,g2,g3⟩:=aW h
  rw[Dh] at hf
  rw[bz,if_pos (by omega),g1,C9,ta]
  have hp: -1≤p:=by
   rcases Nat.eq_zero_or_pos k with hk | hk
   ·have:=hk0 hk; omega
   ·obtain⟨_,_,_,h5⟩:=hk1 hk; omega
  have ih:=fun (hge:0≤r.CU) m=>tb a h0 h1 hb y l r.CU m (k+1) fuel g2 (by omega) (fun h=>absurd h (by omega)) (fun _=>⟨r,g1,rfl,hge⟩)
  have tail:0≤r.CU→((if -9223372036854775808≤(9223372036854775807 - a.CH)∧(9223372036854775807 - a.CH)≤9223372036854775807 then (if r.CY>(9223372036854775807 - a.CH) then some (Lp.ret (11:Int)) else (if -9223372036854775808≤(-a.CH)∧(-a.CH)≤9223372036854775807 then (if r.CY<(-a.CH) then some (Lp.ret 11) else (if -9223372036854775808≤((k:Int)+1)∧((k:Int)+1)≤9223372036854775807 then (bz a fuel y (k+1)) else none)) else none)) else none))=if mD a.CH r.CY then some (.ret 11) else bz a fuel y (k+1):=by
   intro hge
   rw[if_pos (by omega)]
   by_cases c1:r.CY>9223372036854775807 - a.CH
   ·rw[if_pos c1,if_pos (show mD a.CH r.CY from .inl c1)]
   rw[if_neg c1,if_pos (by omega)]
   by_cases c2:r.CY < -a.CH
   ·rw[if_pos c2,if_pos (show mD a.CH r.CY from .inr c2)]
   rw[if_neg c2,if_neg (show ¬ mD a.CH r.CY by unfold mD; omega),if_pos (by omega)]
  by_cases c2:r.CU>a.CN
  ·rw[if_pos c2,if_pos (.inr c2)]
   exact .inl ⟨_,rfl,rfl⟩
  rw[if_neg c2]
  rcases Nat.eq_zero_or_pos k with hk | hk
  ·have hp1:=hk0 hk
   rw[if_neg (show ¬ (k:Int)>0 by omega)]
   by_cases c3:r.CU<0
   ·rw[if_pos c3,if_pos (show r.CU≤p∨r.CU>a.CN by omega)]
    exact .inl ⟨_,rfl,rfl⟩
   rw[if_neg c3,if_neg (show ¬ (r.CU≤p∨r.CU>a.CN) by omega),tail (by omega)]
   by_cases c4:mD a.CH r.CY
   ·rw[if_pos c4,if_pos c4]
    exact .inl ⟨_,rfl,rfl⟩
   ·rw[if_neg c4,if_neg c4]
    exact ih (by omega) _
  ·obtain⟨q,q1,q2,q3⟩:=hk1 hk
   rw[if_pos (show (k:Int)>0 by omega),if_pos (show -9223372036854775808≤(k:Int) - 1∧(k:Int) - 1≤9223372036854775807 by omega),if_pos (show 0≤(k:Int) - 1 by omega),show ((k:Int) - 1).toNat=k - 1 by omega,q1,C9,q2]
   by_cases c1:r.CU≤p
   ·rw[if_pos c1,if_pos (.inl c1)]
    exact .inl ⟨_,rfl,rfl⟩
   rw[if_neg c1,if_neg (show ¬ r.CU<0 by omega),if_neg (show ¬ (r.CU≤p∨r.CU>a.CN) by omega),tail (by omega)]
   by_cases c4:mD a.CH r.CY
   ·rw[if_pos c4,if_pos c4]
    exact .inl ⟨_,rfl,rfl⟩
   ·rw[if_neg c4,if_neg c4]
    exact ih (by omega) _
theorem wC (a:Bat) (h0:0≤a.CH) (h1:a.CH≤9223372036854775807) (hb:a.Cy.length≤1000000) (y:Int): ∀ (l:List Rec) (p m m':Int) (k fuel:Nat),a.Cy.drop k=l→l.length<fuel→ta a.CH a.CN p m l= .ok m'→(∀ r,r∈l→wI r.CY)→ ∃ z,cM a fuel y m k=some (.go (y,m',z))
 | [],p,m,m',k,fuel+1,h,hf,ho,hw=>by
  have:=bM h
  injection ho with ho
  subst ho
  exact⟨k,by rw[cM,if_neg (by omega)]⟩
 | r::l,p,m,m',k,fuel+1,h,hf,ho,hw=>by
  obtain⟨g1,g2,g3⟩:=aW h
  rw[Dh] at hf
  rw[ta] at ho
  split at ho
  ·exact nomatch ho
  split at ho
  ·exact nomatch ho
  rename_i hb2
  have ht:=hw r (.head _)
  have ht0:=ht.1
  have ht1:=ht.2
  unfold mD at hb2
  rw[cM,if_pos (by omega),g1,C9,if_pos (by omega),if_neg (by omega),if_pos (by omega),if_neg (by omega),if_pos (by omega)]
  obtain⟨z,hz⟩:=wC a h0 h1 hb y l r.CU _ m' (k+1) fuel g2 (by omega) ho (fun x hx=>hw x (.tail _ hx))
  by_cases c:m<a.CH+r.CY
  ·rw[if_pos c] at hz
   rw[if_pos c,if_pos (by omega),if_pos (by omega)]
   exact⟨z,hz⟩
  ·rw[if_neg c] at hz
   rw[if_neg c,if_pos (by omega)]
   exact⟨z,hz⟩
theorem qp (a:Bat) (h0:0≤a.CH) (h1:a.CH≤9223372036854775807) (hb:a.Cy.length≤1000000) (hw: ∀ r,r∈a.Cy→wI r.CY): ∃ e,cz a=some e∧d8 a=some e:=by
 unfold cz d8 jz
 rcases wA a h0 h1 0 a.Cy (-1) a.CH hw with⟨e,g1,g2⟩ | ⟨p',m',g1,g2⟩
 ·rcases tb a h0 h1 hb 0 a.Cy (-1) a.CH 0 (((a.Cy.length:Int)).toNat+1) rfl (by omega) (fun _=>rfl) (fun h=>absurd h (by omega)) with⟨e2,k1,k2⟩ | ⟨m2,z,k1,k2⟩
  ·rw[g1] at k1
   injection k1 with k1
   subst k1
   exact⟨e,by rw[g2]; rfl,by rw[k2]; rfl⟩
  ·rw[g1] at k1
   exact nomatch k1
 ·rcases tb a h0 h1 hb 0 a.Cy (-1) a.CH 0 (((a.Cy.length:Int)).toNat+1) rfl (by omega) (fun _=>rfl) (fun h=>absurd h (by omega)) with⟨e2,k1,k2⟩ | ⟨m2,z,k1,k2⟩
  ·rw[g1] at k1
   exact nomatch k1
  ·obtain⟨z2,hz2⟩:=wC a h0 h1 hb 0 a.Cy (-1) a.CH m' 0 (((a.Cy.length:Int)).toNat+1) rfl (by omega) g1 hw
   rw[g2,k2,hz2]
   simp only[C9]
   by_cases ha:a.CV=true
   ·exact⟨0,by rw[if_pos ha],by rw[if_pos ha]⟩
   ·rw[if_neg ha]
    by_cases hm:m'=a.CW
    ·exact⟨0,by rw[if_pos hm],by rw[if_pos hm]⟩
    ·exact⟨11,by rw[if_neg hm],by rw[if_neg hm]⟩
def ij (a:Bat):Prop:=0≤a.CP∧(-1≤a.CI∧a.CI≤2147483647)∧(0≤a.CN∧a.CN≤2147483647)∧a.CP+a.CN≤9223372036854775807∧0≤a.CH∧0≤a.CW
instance (a:Bat):Decidable (ij a):=by unfold ij; infer_instance
theorem vK (a:Bat) (h1:wI a.CP) (h2:wI a.CI) (h3:wI a.CN):eT a=some (decide (ij a)):=by
 obtain⟨u1,u2⟩:=h1
 unfold eT
 rw[iX _ _ h2,iX _ _ h3,gl,gl,IntKind.wrap_i64]
 have no: ∀ {b:Bool},¬ ij a→b=false→some b=some (decide (ij a)):=fun h hb=>by rw[C7 h,hb]
 by_cases c1:a.CP≥0
 ·rw[if_pos c1]
  by_cases c2:a.CI≥ -1
  ·rw[if_pos c2,C9]
   by_cases c3: -2147483648≤a.CI∧a.CI≤2147483647
   ·rw[if_pos (C6 c3)]
    by_cases c4:a.CN≥0
    ·rw[if_pos c4,C9]
     by_cases c5: -2147483648≤a.CN∧a.CN≤2147483647
     ·rw[if_pos (C6 c5)]
      by_cases c6:a.CP+a.CN≤9223372036854775807
      ·rw[if_pos (by omega)]
       by_cases c7:a.CH≥0
       ·rw[if_pos c7]
        by_cases c8:a.CW≥0
        ·rw[if_pos c8,C6 (show ij a from ⟨c1,⟨c2,by omega⟩,⟨c4,by omega⟩,c6,c7,c8⟩)]
        ·rw[if_neg c8]; exact no (fun h=>c8 h.2.2.2.2.2) rfl
       ·rw[if_neg c7]; exact no (fun h=>c7 h.2.2.2.2.1) rfl
      ·rw[if_neg (by omega)]; exact no (fun h=>c6 h.2.2.2.1) rfl
     ·rw[if_neg (by rw[decide_eq_true_eq]; exact c5)]; exact no (fun h=>by have:=h.2.2.1; omega) rfl
    ·rw[if_neg c4]; exact no (fun h=>c4 h.2.2.1.1) rfl
   ·rw[if_neg (by rw[decide_eq_true_eq]; exact c3)]; exact no (fun h=>by have:=h.2.1; omega) rfl
  ·rw[if_neg c2]; exact no (fun h=>c2 h.2.1.1) rfl
 ·rw[if_neg c1]; exact no (fun h=>c1 h.1) rfl
theorem oe (n k:Int):eP n k=some (decide (k≤n∧n≤2147483647)):=by
 unfold eP
 by_cases h1:n≥k
 ·rw[if_pos h1]
  by_cases h2:n≤2147483647
  ·rw[if_pos h2,C6 ⟨h1,h2⟩]
  ·rw[if_neg h2,C7 (fun h=>h2 h.2)]
 ·rw[if_neg h1,C7 (fun h=>h1 h.1)]
def fK (a:Bat):Prop:=if a.CE= -1 then a.CK= -1∧a.CD= -1∧a.C0=false else 0≤a.CE∧(0≤a.CK∧a.CK≤32767)∧(if a.CL=true then a.CD= -1 else 0≤a.CD∧a.CD≤2147483647)
instance (a:Bat):Decidable (fK a):=by unfold fK; infer_instance
theorem qq (n:Int):bj n 2=decide (-32768≤n∧n≤32767):=by
 rw[Bool.eq_iff_iff]
 unfold bj
 simp only[Bool.and_eq_true,decide_eq_true_eq]
 have:(2:Int) ^ (8*(2:Int).toNat - 1)=32768:=by decide
 omega
theorem o7 (a:Bat) (h1:wI a.CK) (h2:wI a.CD):dJ a=some (decide (fK a))∧ey a=some (decide (fK a)):=by
 unfold dJ ey
 rw[iX _ _ h1,iX _ _ h2,gl,qq,oe]
 unfold fK
 obtain⟨b0,b1,b2,tx,ct,b5,b6,b7,P,E,S,rs⟩:=a
 simp only
 clear h1 h2
 by_cases c1:P= -1
 ·simp only[if_pos c1]
  by_cases c2:E= -1
  ·simp only[if_pos c2]
   by_cases c3:S= -1
   ·simp only[if_pos c3]
    cases tx <;> simp[c2,c3]
   ·simp[c3]
  ·simp[c2]
 ·simp only[if_neg c1,C9]
  cases ct
  ·simp only[Bool.false_eq_true,if_false]
   constructor
   ·by_cases d1:P≥0
    ·by_cases d2:E≥0
     ·by_cases d3: -32768≤E∧E≤32767
      ·by_cases d4:S≥0
       ·by_cases d5: -2147483648≤S∧S≤2147483647
        ·rw[if_pos d1,if_pos d2,if_pos (C6 d3),if_pos d4,if_pos (C6 d5),C6 (by omega)]
        ·rw[if_pos d1,if_pos d2,if_pos (C6 d3),if_pos d4,if_neg (by rw[decide_eq_true_eq]; exact d5),C7 (by omega)]
       ·rw[if_pos d1,if_pos d2,if_pos (C6 d3),if_neg d4,C7 (by omega)]
      ·rw[if_pos d1,if_pos d2,if_neg (by rw[decide_eq_true_eq]; exact d3),C7 (by omega)]
     ·rw[if_pos d1,if_neg d2,C7 (by omega)]
    ·rw[if_neg d1,C7 (by omega)]
   ·by_cases d1:P<0
    ·rw[if_pos d1,C7 (by omega)]
    rw[if_neg d1]
    by_cases d2:E<0
    ·rw[if_pos d2,C7 (by omega)]
    rw[if_neg d2]
    by_cases d3:E>32767
    ·rw[if_pos d3,C7 (by omega)]
    rw[if_neg d3]
    by_cases d4:0≤S∧S≤2147483647
    ·rw[C6 d4,C6 (by omega)]
    ·rw[C7 d4,C7 (by omega)]
  ·simp only[if_true]
   constructor
   ·by_cases d1:P≥0
    ·by_cases d2:E≥0
     ·by_cases d3: -32768≤E∧E≤32767
      ·by_cases d4:S≥ -1
       ·by_cases d5: -2147483648≤S∧S≤2147483647
        ·by_cases d6:S= -1
         ·rw[if_pos d1,if_pos d2,if_pos (C6 d3),if_pos d4,if_pos (C6 d5),if_pos d6,C6 (by omega)]
         ·rw[if_pos d1,if_pos d2,if_pos (C6 d3),if_pos d4,if_pos (C6 d5),if_neg d6,C7 (by omega)]
        ·rw[if_pos d1,if_pos d2,if_pos (C6 d3),if_pos d4,if_neg (by rw[decide_eq_true_eq]; exact d5),C7 (by omega)]
       ·rw[if_pos d1,if_pos d2,if_pos (C6 d3),if_neg d4,C7 (by omega)]
      ·rw[if_pos d1,if_pos d2,if_neg (by rw[decide_eq_true_eq]; exact d3),C7 (by omega)]
     ·rw[if_pos d1,if_neg d2,C7 (by omega)]
    ·rw[if_neg d1,C7 (by omega)]
   ·by_cases d1:P<0
    ·rw[if_pos d1,C7 (by omega)]
    rw[if_neg d1]
    by_cases d2:E<0
    ·rw[if_pos d2,C7 (by omega)]
    rw[if_neg d2]
    by_cases d3:E>32767
    ·rw[if_pos d3,C7 (by omega)]
    rw[if_neg d3]
    by_cases d4:S= -1
    ·rw[if_pos d4,C6 (by omega)]
    ·rw[if_neg d4,C7 (by omega)]
theorem y9 (l:List UInt8) (hl:l.length≤1000000): ∃ x,cK l=some x:=by
 unfold cK cg
 simp only[iI l (by omega),gp,gJ,dR,C9]
 generalize dr ⟨l,0,0⟩ 2=x
 by_cases h:x.1=0
 ·simp only[if_pos h,C9]
  generalize dr x.2 2=y
  split
  ·split <;> exact⟨_,rfl⟩
  ·split
   ·split <;> exact⟨_,rfl⟩
   ·split <;> exact⟨_,rfl⟩
 ·simp only[if_neg h,C9]
  generalize dr (cB x.2 7) 2=y
  split
  ·split <;> exact⟨_,rfl⟩
  ·split
   ·split <;> exact⟨_,rfl⟩
   ·split <;> exact⟨_,rfl⟩
theorem vL (l:List UInt8) (hl:l.length≤1000000): ∃ x,cc l=some x:=by
 unfold cc cg
 simp only[iI l (by omega),gp,gJ,dR,C9]
 generalize dr ⟨l,0,0⟩ 2=x
 by_cases h:x.1=0
 ·simp only[if_pos h,C9]
  generalize dr x.2 4=y
  split
  ·split <;> exact⟨_,rfl⟩
  ·split <;> exact⟨_,rfl⟩
 ·simp only[if_neg h,C9]
  generalize dr (cB x.2 7) 4=y
  split
  ·split <;> exact⟨_,rfl⟩
  ·split <;> exact⟨_,rfl⟩
theorem tc (r:Rec) (h1:r.CJ.data.length≤1000000) (h2:r.Cz.data.length≤1000000): ∃ x1 x2 x3,cn r=some (x1,x2,x3):=by
 obtain⟨⟨k1,k2⟩,hk⟩:=y9 _ h1
 obtain⟨⟨v1,v2⟩,hv⟩:=vL _ h2
 unfold cn
 rw[hk,hv]
 simp only[C9]
 split
 ·exact⟨_,_,_,rfl⟩
 split
 ·exact⟨_,_,_,rfl⟩
 split
 ·exact⟨_,_,_,rfl⟩
 split
 ·split
  ·split
   ·exact⟨_,_,_,rfl⟩
   ·exact⟨_,_,_,rfl⟩
  ·exact⟨_,_,_,rfl⟩
 ·exact⟨_,_,_,rfl⟩
def td (a:Bat) (cr e0:Int):Int:=if ij a then (if a.CL=true then (if a.C0=true then (if fK a then (if (a.Cy.length:Int)=1 then (if dQ a.Cy=0 then (if cr=0 then e0 else cr) else dQ a.Cy) else 10) else 11) else 8) else (if fK a then (if dQ a.Cy=0 then e0 else dQ a.Cy) else 11)) else 11
theorem bchk (a:Bat) (hw:jG a) (cr e0:Int) (hc:ij a→cz a=some e0) (hr:(a.Cy.length:Int)=1→ ∃ r x1 x2,a.Cy[0]? = some r∧cn r=some (x1,x2,cr)):co a=some (td a cr e0):=by
 obtain⟨w1,w2,w3,w4,w5,w6,w7,w8,w9,w10,w11,w12⟩:=hw
 have hoff: ∀ r,r∈a.Cy→wI r.CU:=fun r h=>(w12.2 r h).2.1
 unfold co td
 rw[vK a w1 w2 w6,(o7 a w10 w11).1,r6 _ _ hoff,r7 _ _ hoff]
 by_cases hn:ij a
 ·rw[C6 hn,C9,if_pos rfl,if_pos hn,hc hn]
  by_cases hct:a.CL=true
  ·rw[if_pos hct,if_pos hct]
   by_cases ht:a.C0=true
   ·rw[if_pos ht,if_pos ht,C9]
    by_cases hp:fK a
    ·rw[C6 hp,if_pos rfl,if_pos hp]
     by_cases hl:(a.Cy.length:Int)=1
     ·obtain⟨r,x1,x2,r1,r2⟩:=hr hl
      rw[if_pos hl,if_pos hl,r1]
      by_cases hf:dQ a.Cy=0
      ·simp only[if_pos hf,C9,r2]
       split <;> rfl
      ·simp only[if_neg hf,C9]
     ·rw[if_neg hl,if_neg hl]
    ·rw[C7 hp,if_neg (by decide),if_neg hp]
   ·rw[if_neg ht,if_neg ht]
  ·rw[if_neg hct,if_neg hct,C9]
   by_cases hp:fK a
   ·rw[C6 hp,if_pos rfl,if_pos hp]
    by_cases hf:dQ a.Cy=0
    ·simp only[if_pos hf,C9]
    ·simp only[if_neg hf,C9]
   ·rw[C7 hp,if_neg (by decide),if_neg hp]
 ·rw[C7 hn,C9,if_neg (by decide),if_neg hn]
theorem rchk (a:Bat) (hw:jG a) (hb:a.Cy.length≤1000000) (hh: ∀ r,r∈a.Cy→r.CF.length≤1000000) (cr e0:Int) (hc:ij a→d8 a=some e0) (hr:(a.Cy.length:Int)=1→ ∃ r x1 x2,a.Cy[0]? = some r∧fq r=some (x1,x2,cr)):fu a=some (td a cr e0):=by
 obtain⟨w1,w2,w3,w4,w5,w6,w7,w8,w9,w10,w11,w12⟩:=hw
 obtain⟨z,hz⟩:=r8 a hb hh 0 a.Cy 0 (((a.Cy.length:Int)).toNat+1) rfl (by omega)
 have b1:=w1.1
 have b2:=w1.2
 unfold fu td
 rw[oe,oe,(o7 a w10 w11).2]
 simp only[r9]
 rw[hz]
 by_cases hn:ij a
 ·obtain⟨n1,n2,n3,n4,n5,n6⟩:=id hn
  rw[if_neg (show ¬ a.CP<0 by omega),C6 n2,C9,if_pos rfl,C6 n3,C9,if_pos rfl,if_pos (show -9223372036854775808≤9223372036854775807 - a.CP∧9223372036854775807 - a.CP≤9223372036854775807 by omega),if_neg (show ¬ a.CN>9223372036854775807 - a.CP by omega),if_neg (show ¬ a.CH<0 by omega),if_neg (show ¬ a.CW<0 by omega),if_pos hn,hc hn]
  by_cases hct:a.CL=true
  ·rw[if_pos hct,if_pos hct]
   by_cases ht:a.C0=true
   ·rw[if_pos ht,if_pos ht,C9]
    by_cases hp:fK a
    ·rw[C6 hp,if_pos rfl,if_pos hp]
     by_cases hl:(a.Cy.length:Int)=1
     ·obtain⟨r,x1,x2,r1,r2⟩:=hr hl
      rw[if_pos hl,if_pos hl,r1]
      by_cases hf:dQ a.Cy=0
      ·simp only[if_pos hf,C9,r2]
       split <;> rfl
      ·simp only[if_neg hf,C9]
     ·rw[if_neg hl,if_neg hl]
    ·rw[C7 hp,if_neg (by decide),if_neg hp]
   ·rw[if_neg ht,if_neg ht]
  ·rw[if_neg hct,if_neg hct,C9]
   by_cases hp:fK a
   ·rw[C6 hp,if_pos rfl,if_pos hp]
    by_cases hf:dQ a.Cy=0
    ·simp only[if_pos hf,C9]
    ·simp only[if_neg hf,C9]
   ·rw[C7 hp,if_neg (by decide),if_neg hp]
 ·rw[if_neg hn]
  unfold ij at hn
  by_cases c1:a.CP<0
  ·rw[if_pos c1]
  rw[if_neg c1,C9]
  by_cases c2: -1≤a.CI∧a.CI≤2147483647
  ·rw[C6 c2,if_pos rfl,C9]
   by_cases c3:0≤a.CN∧a.CN≤2147483647
   ·rw[C6 c3,if_pos rfl,if_pos (show -9223372036854775808≤9223372036854775807 - a.CP∧9223372036854775807 - a.CP≤9223372036854775807 by omega)]
    by_cases c4:a.CN>9223372036854775807 - a.CP
    ·rw[if_pos c4]
    rw[if_neg c4]
    by_cases c5:a.CH<0
    ·rw[if_pos c5]
    rw[if_neg c5,if_pos (show a.CW<0 by omega)]
   ·rw[C7 c3,if_neg (by decide)]
  ·rw[C7 c2,if_neg (by decide)]
theorem qr (a:Bat) (hw:jG a) (hb:a.Cy.length≤1000000) (hr: ∀ r,r∈a.Cy→r.CF.length≤1000000∧r.CJ.data.length≤1000000∧r.Cz.data.length≤1000000): ∃ cr e0,co a=some (td a cr e0)∧fu a=some (td a cr e0)∧(ij a→cz a=some e0)∧((a.Cy.length:Int)=1→ ∃ r x1 x2,a.Cy[0]? = some r∧cn r=some (x1,x2,cr)∧fq r=some (x1,x2,cr)):=by
 have htim: ∀ r,r∈a.Cy→wI r.CY:=fun r h=>(hw.2.2.2.2.2.2.2.2.2.2.2.2 r h).1
 have hF:=hw.2.2.2.2.2.2.1
 obtain⟨e0,he⟩: ∃ e0,ij a→cz a=some e0∧d8 a=some e0:=by
  by_cases hn:ij a
  ·obtain⟨e0,h1,h2⟩:=qp a hn.2.2.2.2.1 hF.2 hb htim
   exact⟨e0,fun _=>⟨h1,h2⟩⟩
  ·exact⟨0,fun h=>absurd h hn⟩
 obtain⟨cr,hcr⟩: ∃ cr,(a.Cy.length:Int)=1→ ∃ r x1 x2,a.Cy[0]? = some r∧cn r=some (x1,x2,cr)∧fq r=some (x1,x2,cr):=by
  by_cases hl:(a.Cy.length:Int)=1
  ·obtain⟨r,hrec⟩: ∃ r,a.Cy = [r]:=List.length_eq_one_iff.1 (by omega)
   have h3:=hr r (by rw[hrec]; exact .head _)
   obtain⟨x1,x2,x3,h4⟩:=tc r h3.2.1 h3.2.2
   have h5:=s9 r (by omega) (by omega)
   exact⟨x3,fun _=>⟨r,x1,x2,by rw[hrec]; rfl,h4,by rw[← h5]; exact h4⟩⟩
  ·exact⟨0,fun h=>absurd h hl⟩
 refine⟨cr,e0,bchk a hw cr e0 (fun h=>(he h).1) (fun h=> ?_),rchk a hw hb (fun r h=>(hr r h).1) cr e0 (fun h=>(he h).2) (fun h=> ?_),fun h=>(he h).1,hcr⟩
 ·obtain⟨r,x1,x2,h1,h2,h3⟩:=hcr h
  exact⟨r,x1,x2,h1,h2⟩
 ·obtain⟨r,x1,x2,h1,h2,h3⟩:=hcr h
  exact⟨r,x1,x2,h1,h3⟩
end Go.Proofs.YtcoppaggpbfcmaaGreat.Sl
