/- produceReads_holds: part 6. -/
import Derived.Test.YtcoppaggpbfcmaaGreatK5
set_option maxRecDepth 100000
set_option maxHeartbeats 4000000
set_option linter.defProp false
namespace Go.Proofs.YtcoppaggpbfcmaaGreat.Sl
open Go.RowKit
set_option linter.unusedVariables false
set_option linter.unusedSimpArgs false
def C8 := @Tryz.sizeOf181
def Dx := @Tryz.results122
def DC := @Tryz.isAgg181
def DW := @Tryz.results12
def D7 := @Tryz.results47
def Ed := @Tryz.results44
def EC := @Tryz.runUnderlying4
def EJ := @Tryz.runUnderlying181
def n8:fv := [(27,0,0),(27,1,1),(27,2,2),(27,3,3),(27,4,4),(27,5,5),(27,6,6),(27,7,7),(27,8,8),(27,9,9),(27,10,10),(27,11,11),(38,0,0),(38,1,1),(220,0,0),(220,1,7),(220,2,8)]
theorem aa:(n8).OK Tryz.prog:=⟨FOK.mk Da rfl CY rfl,FOK.mk Da rfl CY rfl,FOK.mk Da rfl DK rfl,FOK.mk Da rfl DK rfl,FOK.mk Da rfl DK rfl,FOK.mk Da rfl CY rfl,FOK.mk Da rfl CY rfl,FOK.mk Da rfl CY rfl,FOK.mk Da rfl CY rfl,FOK.mk Da rfl CY rfl,FOK.mk Da rfl CY rfl,FOK.mk Da rfl Tryz.sizeOf25 rfl,FOK.mk Dj rfl CY rfl,FOK.mk Dj rfl CY rfl,FOK.mk Es rfl C4 rfl,FOK.mk Es rfl CY rfl,FOK.mk Es rfl CY rfl,trivial⟩
theorem cR:Tryz.prog.follows .mixedOrders=true:=by kernel_rfl
theorem lI:BOK Tryz.prog 27 #[.int .i64 0,.int .i64 0,.bool false,.bool false,.bool false,.int .i64 0,.int .i64 0,.int .i64 0,.int .i64 0,.int .i64 0,.int .i64 0,.slice none 0 0] [(0,1),(1,1),(2,1),(3,1),(4,1),(5,1),(6,1),(7,1),(8,1),(9,1),(10,1),(11,1)]:=BOK.mk Tryz.zeroValue27 Da (by intro w; simp)
theorem bc:BOK Tryz.prog 181 #[.int .i64 0,.int .i64 0,.bool false,.bool false,.bool false,.int .i64 0,.int .i64 0,.int .i64 0,.int .i64 0,.int .i64 0,.int .i64 0,.slice none 0 0,.int .i64 0,.int .i64 0] [(0,12),(12,1),(13,1)]:=BOK.mk Tryz.zeroValue181 EJ (by intro w; simp)
theorem kB:SOK Tryz.prog 25 38 1 7 #[.int .i64 0,.int .i64 0,.bool false,.string ⟨#[]⟩,.bool false,.string ⟨#[]⟩,.slice none 0 0]:=SOK.mk C9 C4 Tryz.zeroValue38 (by decide) (by kernel_rfl)
theorem fJ:SOK Tryz.prog 106 3 12 1 #[.int .i64 0,.int .i64 0,.int .i64 0,.int .i64 0,.int .i64 0,.int .i64 0,.int .i64 0,.int .i64 0,.int .i64 0,.int .i64 0,.int .i64 0,.int .i64 0]:=SOK.mk C6 CY Tryz.zeroValue3 (by decide) (by kernel_rfl)
theorem lJ:(Tryz.prog.info? 38).map (fun i=>(i.zero,i.size,i.bytes))=some (some (.agg #[.int .i64 0,.int .i64 0,.bool false,.string ⟨#[]⟩,.bool false,.string ⟨#[]⟩,.slice none 0 0]),7,88):=by kernel_rfl
def eL (a0:Int) (a1:Int):Option (Bool):=if a0≥a1 then (if a0≤2147483647 then some true else some false) else some false
theorem gm (a0:Int) (a1:Int) (r:Bool) (h:eL a0 a1=some r):ay Tryz.prog 43 #[jI a0,jI a1] .triv (aB) (fun v A' N=>v= .bool r∧A'=aB∧N = []):=by
 refine aL Tryz.func43 Z Tryz.ntmps43 Z ?_
 intro F w hX
 unfold eL at h
 refine T.seq (T.region Z (TL.run aa [0] Z Z (TL.nil (X.seq (T.seq (T.region Z ?_))))))
 rcases jF h with⟨c1,h⟩ | ⟨c1,h⟩
 ·refine TL.run aa [0,1,2,3] Z Z ?_
  iterate 2 refine TL.q Z (.g Z Z (CN c1)) (Ao aa Z) Z ?_
  refine TL.q Z .u (Aq Z (CN c1) Z) Z (TL.run aa [7] Z Z ?_)
  rcases jF h with⟨c2,h⟩ | ⟨c2,h⟩
  ·obtain rfl:=CP h
   exact TL.nil (X.seq (T.ret (Ak [0] Tryz.results43 (Aj (v:= .bool true) (congrArg (fun b=>some (Value.bool b)) (CN c2))) ⟨Z,Z,Z⟩ (by rfl) (.inl Z))))
  ·obtain rfl:=CP h
   exact TL.nil (X.seq (T.ret (Ak [0] Tryz.results43 (Aj (v:= .bool false) (congrArg (fun b=>some (Value.bool b)) (CO c2))) ⟨Z,Z,Z⟩ (by rfl) (.inl Z))))
 ·refine TL.run aa [0,1,2,3] Z Z ?_
  iterate 2 refine An Z (.gn Z Z (CO c1)) Z ?_
  refine TL.q Z .u (Ar Z (CO c1) Z) Z (TL.run aa [7] Z Z ?_)
  obtain rfl:=CP h
  exact TL.nil (X.seq (T.ret (Ak [0] Tryz.results43 (Aj Z) ⟨Z,Z,Z⟩ (by rfl) (.inl Z))))
def et (a0:Bat):Option (Bool):=if a0.Ci=(-1) then (if a0.Cp=(-1) then (if a0.Ch=(-1) then (if a0.CE=true then some false else some true) else some false) else some false) else (if a0.Ci<0 then some false else (if a0.Cp<0 then some false else (if a0.Cp>32767 then some false else (if a0.Cq=true then (if a0.Ch=(-1) then some true else some false) else ((eL a0.Ch 0).bind fun x13=>some x13)))))
theorem iw (a0:Bat) (A1:Option Addr) (c2:Nat) (r:Bool) (h:et a0=some r):ay Tryz.prog 44 #[.agg #[jI a0.Cu,jI a0.Co,.bool a0.Cw,.bool a0.CE,.bool a0.Cq,jI a0.Cr,jI a0.Cl,jI a0.Cy,jI a0.Ci,jI a0.Cp,jI a0.Ch,.slice A1 a0.Ce.length c2]] (RX.of (av 7 aU) [.slice A1 a0.Ce.length c2] a0.Ce) (aB) (fun v A' N=>v= .bool r∧A'=aB∧N = []):=by
 refine aL Tryz.func44 Z Tryz.ntmps44 Z ?_
 intro F w hX
 unfold et at h
 refine T.seq (T.region Z (TL.box Z .u Z Z (fun b3=>(TL.run aa [1] Z Z (TL.nil (X.seq (T.seq (T.seq (T.region Z (TL.run aa [0] Z Z (TL.q Z .u (Ai 0 Z CV Z Z) Z (TL.run aa [2] Z Z ?_))))))))))))
 rcases jF h with⟨c4,h⟩ | ⟨c4,h⟩
 ·refine TL.nil (X.seq (Am Z (CN c4) (T.seq (T.region Z (TL.run aa [0] Z Z (TL.q Z .u (Ai 0 Z CV Z Z) Z ?_))))))
  rcases jF h with⟨c5,h⟩ | ⟨c5,h⟩
  ·refine TL.run aa [2,3] Z Z (TL.q Z (.g Z Z (CN c5)) (Ao aa Z) Z (TL.q Z (.g Z Z (CN c5)) (Ai 0 Z CV Z Z) Z (TL.q Z (.g Z Z (CN c5)) (Ao aa Z) Z (TL.q Z .u (Aq Z (CN c5) Z) Z ?_))))
   rcases jF h with⟨c6,h⟩ | ⟨c6,h⟩
   ·refine TL.run aa [8] Z Z (TL.q Z (.g Z Z (CN c6)) (Ao aa Z) Z (TL.q Z (.g Z Z (CN c6)) (Ai 0 Z Dd Z Z) Z (TL.q Z (.g Z Z (CN c6)) (Ao aa Z) Z (TL.q Z .u (Aq Z (CN c6) Z) Z (TL.run aa [13] Z Z ?_)))))
    rcases jF h with⟨c7,h⟩ | ⟨c7,h⟩
    ·obtain rfl:=CP h
     exact TL.nil (X.seq (T.ret (Al (Ak [1] Ed (Aj (v:= .bool false) (congrArg (fun b=>some (Value.bool b)) (az c7))) ⟨Z,Z,Z⟩ (by rfl) (.inl Z)))))
    ·replace c7:=CX c7
     obtain rfl:=CP h
     exact TL.nil (X.seq (T.ret (Al (Ak [1] Ed (Aj (v:= .bool true) (congrArg (fun b=>some (Value.bool b)) (aD c7))) ⟨Z,Z,Z⟩ (by rfl) (.inl Z)))))
   ·refine TL.run aa [8] Z Z ?_
    iterate 3 refine An Z (.gn Z Z (CO c6)) Z ?_
    refine TL.q Z .u (Ar Z (CO c6) Z) Z (TL.run aa [13] Z Z ?_)
    obtain rfl:=CP h
    exact TL.nil (X.seq (T.ret (Al (Ak [1] Ed (Aj Z) ⟨Z,Z,Z⟩ (by rfl) (.inl Z)))))
  ·refine TL.run aa [2,3] Z Z ?_
   iterate 3 refine An Z (.gn Z Z (CO c5)) Z ?_
   refine TL.q Z .u (Ar Z (CO c5) Z) Z (TL.run aa [8] Z Z ?_)
   iterate 3 refine An Z (.gn Z Z Z) Z ?_
   refine TL.q Z .u (Ar Z Z Z) Z (TL.run aa [13] Z Z ?_)
   obtain rfl:=CP h
   exact TL.nil (X.seq (T.ret (Al (Ak [1] Ed (Aj Z) ⟨Z,Z,Z⟩ (by rfl) (.inl Z)))))
 ·refine TL.nil (X.seq (Ap Z (CO c4) (T.skip (X.seq (T.seq (T.seq (T.region Z (TL.run aa [0] Z Z (TL.q Z .u (Ai 0 Z CV Z Z) Z ?_)))))))))
  rcases jF h with⟨c8,h⟩ | ⟨c8,h⟩
  ·refine TL.run aa [2,3] Z Z ?_
   iterate 3 refine An Z (.gn Z Z (CN c8)) Z ?_
   refine TL.q Z .u (Aq Z (CN c8) Z) Z (TL.run aa [8] Z Z ?_)
   iterate 3 refine An Z (.gn Z Z Z) Z ?_
   refine TL.q Z .u (Aq Z Z Z) Z (TL.nil (X.seq (Am Z Z (T.seq (T.region Z (TL.run aa [0] Z Z ?_))))))
   obtain rfl:=CP h
   exact TL.nil (X.seq (T.ret (Al (Ak [1] Ed (Aj Z) ⟨Z,Z,Z⟩ (by rfl) (.inl Z)))))
  ·refine TL.run aa [2,3] Z Z (TL.q Z (.g Z Z (CO c8)) (Ao aa Z) Z (TL.q Z (.g Z Z (CO c8)) (Ai 0 Z CV Z Z) Z (TL.q Z (.g Z Z (CO c8)) (Ao aa Z) Z (TL.q Z .u (Ar Z (CO c8) Z) Z ?_))))
   rcases jF h with⟨c9,h⟩ | ⟨c9,h⟩
   ·refine TL.run aa [8] Z Z ?_
    iterate 3 refine An Z (.gn Z Z (CN c9)) Z ?_
    refine TL.q Z .u (Aq Z (CN c9) Z) Z (TL.nil (X.seq (Am Z Z (T.seq (T.region Z (TL.run aa [0] Z Z ?_))))))
    obtain rfl:=CP h
    exact TL.nil (X.seq (T.ret (Al (Ak [1] Ed (Aj Z) ⟨Z,Z,Z⟩ (by rfl) (.inl Z)))))
   ·refine TL.run aa [8] Z Z (TL.q Z (.g Z Z (CO c9)) (Ao aa Z) Z (TL.q Z (.g Z Z (CO c9)) (Ai 0 Z CV Z Z) Z (TL.q Z (.g Z Z (CO c9)) (Ao aa Z) Z (TL.q Z .u (Ar Z (CO c9) Z) Z ?_))))
    rcases jF h with⟨c10,h⟩ | ⟨c10,h⟩
    ·refine TL.nil (X.seq (Am Z (CN c10) (T.seq (T.region Z (TL.run aa [0] Z Z ?_)))))
     obtain rfl:=CP h
     exact TL.nil (X.seq (T.ret (Al (Ak [1] Ed (Aj Z) ⟨Z,Z,Z⟩ (by rfl) (.inl Z)))))
    ·refine TL.nil (X.seq (Ap Z (CO c10) (T.skip (X.seq (T.seq (T.seq (T.region Z (TL.run aa [0] Z Z (TL.q Z .u (Ai 0 Z Dd Z Z) Z ?_)))))))))
     rcases jF h with⟨c11,h⟩ | ⟨c11,h⟩
     ·refine TL.nil (X.seq (Am Z c11 (T.seq (T.region Z (TL.run aa [0] Z Z (TL.q Z .u (Ai 0 Z CV Z Z) Z (TL.run aa [2,3] Z Z ?_)))))))
      rcases jF h with⟨c12,h⟩ | ⟨c12,h⟩
      ·obtain rfl:=CP h
       exact TL.nil (X.seq (T.ret (Al (Ak [1] Ed (Aj (v:= .bool true) (congrArg (fun b=>some (Value.bool b)) (CN c12))) ⟨Z,Z,Z⟩ (by rfl) (.inl Z)))))
      ·obtain rfl:=CP h
       exact TL.nil (X.seq (T.ret (Al (Ak [1] Ed (Aj (v:= .bool false) (congrArg (fun b=>some (Value.bool b)) (CO c12))) ⟨Z,Z,Z⟩ (by rfl) (.inl Z)))))
     ·replace c11:=CX c11
      refine TL.nil (X.seq (Ap Z c11 (T.skip (X.seq (T.seq (T.region Z (TL.run aa [0] Z Z (TL.q Z .u (Ai 0 Z CV Z Z) Z ?_))))))))
      obtain⟨x13,hx14,h⟩:=CM h
      refine Ax Z .u (.fn Tryz.call43 Z) (gm a0.Ch 0 _ hx14) (fun _ hs=>(RX.reads_triv _ _)) Z (TL.run aa [3] Z Z ?_)
      obtain rfl:=CP h
      exact TL.nil (X.seq (T.ret (Ak [1] Ed (Aj Z) ⟨Z,Z,Z⟩ (by rfl) (.inl Z))))
def cT (a0:Bat):Nat→Int→Int→Nat→Option (Lp Int (Int×Int×Nat))
 | 0,_,_,_=>none
 | m10+1,y4,y5,k6=>if (k6:Int)<(a0.Ce.length:Int) then ((a0.Ce[k6]?).bind fun x15=>if -9223372036854775808≤(9223372036854775807 - a0.Cl)∧(9223372036854775807 - a0.Cl)≤9223372036854775807 then (if x15.CC>(9223372036854775807 - a0.Cl) then (some (Lp.ret (-1))) else (if -9223372036854775808≤(-a0.Cl)∧(-a0.Cl)≤9223372036854775807 then (if x15.CC<(-a0.Cl) then (some (Lp.ret (-1))) else (if -9223372036854775808≤(a0.Cl+x15.CC)∧(a0.Cl+x15.CC)≤9223372036854775807 then (if (a0.Cl+x15.CC)>y5 then (if -9223372036854775808≤(a0.Cl+x15.CC)∧(a0.Cl+x15.CC)≤9223372036854775807 then (if -9223372036854775808≤((k6:Int)+1)∧((k6:Int)+1)≤9223372036854775807 then (cT a0 m10 y4 (a0.Cl+x15.CC) (k6+1)) else none) else none) else (if -9223372036854775808≤((k6:Int)+1)∧((k6:Int)+1)≤9223372036854775807 then (cT a0 m10 y4 y5 (k6+1)) else none)) else none)) else none)) else none) else (some (Lp.go (y4,y5,k6)))
def jt (a0:Bat):Option (Int):=(cT a0 (((a0.Ce.length:Int)).toNat+1) 0 a0.Cl 0).bind fun e=>match e with | .ret r=>some r | .go (y30,y31,k32)=>some y31
theorem n9 (a0:Bat) (A1:Option Addr) (c2:Nat) (r:Int) (h:jt a0=some r):ay Tryz.prog 106 #[.agg #[jI a0.Cu,jI a0.Co,.bool a0.Cw,.bool a0.CE,.bool a0.Cq,jI a0.Cr,jI a0.Cl,jI a0.Cy,jI a0.Ci,jI a0.Cp,jI a0.Ch,.slice A1 a0.Ce.length c2]] (RX.of (av 7 aU) [.slice A1 a0.Ce.length c2] a0.Ce) (aB) (fun v A' N=>v=jI r∧A'=aB∧N = []):=by
 refine aL Tryz.func106 Z Tryz.ntmps106 Z ?_
 intro F w hX
 unfold jt at h
 refine T.seq (T.region Z (TL.box Z .u Z Z (fun b3=>(TL.run aa [1] Z Z (TL.nil (X.seq (T.seq (T.region Z (TL.run aa [0] Z Z (TL.q Z .u (Ai 0 Z CV Z Z) Z (TL.run aa [2] Z Z (TL.nil (X.seq (T.seq (T.seq (T.region Z ?_))))))))))))))))
 refine TL.run aa [0] Z Z (TL.nil (X.seq (T.block ?_)))
 obtain⟨E7,hE8,hO9⟩:=CM h
 refine AV (fun m e Rs=> ∃ (y4:Int) (y5:Int) (k6:Nat),e = [(1,jP b3),(2,jI y4),(3,jI y5),(4,jI (k6:Int))]∧Rs = [aC b3 27 #[jI a0.Cu,jI a0.Co,.bool a0.Cw,.bool a0.CE,.bool a0.Cq,jI a0.Cr,jI a0.Cl,jI a0.Cy,jI a0.Ci,jI a0.Cp,jI a0.Ch,.slice A1 a0.Ce.length c2],aB]∧cT a0 m y4 y5 k6=some E7) (((a0.Ce.length:Int)).toNat+1) [0,0] ⟨0,a0.Cl,0,Z,Z,by exact hE8⟩ (by rfl) (by rfl) ?_
 rintro m10 _ _ ⟨y4,y5,k6,rfl,rfl,hl12⟩
 clear hE8 h
 cases m10 with
 | zero =>
  rw[cT] at hl12
  cases hl12
 | succ m10 =>
  have h:=hl12
  clear hl12
  rw[cT] at h
  refine T.seq (T.seq (T.region Z (TL.run aa [0,1] Z Z (TL.q Z .u (Ai 0 Z Ds Z Z) Z (TL.q Z .u (AA Z C9) Z (TL.run aa [4] Z Z ?_))))))
  rcases jF h with⟨c14,h⟩ | ⟨c14,h⟩
  ·refine TL.nil (X.seq (Am Z (CN c14) (T.skip (X.seq (T.seq (T.block (T.seq (T.region Z (TL.run aa [0] Z Z (TL.q Z .u (Ai 0 Z Ds Z Z) Z ?_))))))))))
   obtain⟨x15,hx16,h⟩:=CM h
   obtain⟨gz17,oz17,rfl,z17cs,z17cl,z17cc,z17nf,z17r⟩:=AK (by decide) hX hx16
   obtain⟨z17S,z17r,z17rr⟩:=z17r
   obtain⟨A18,c19,rfl,z17s0⟩:=z17r
   have hX20:(RX.of (av 3 bf) [.slice A18 x15.Cn.length c19] x15.Cn).reads w F:=⟨z17S,z17s0,z17rr⟩
   refine TL.run aa [2] Z Z ?_
   refine TL.q Z .u (Aw (k:=k6) Z Z Z C9 C4 (CU hx16).1) Z ?_
   refine TL.run aa [4] Z Z (TL.q Z .u (AY 0 Z CV z17nf z17cc Z Z) Z (TL.run aa [6] Z Z (TL.nil (X.seq (T.seq (T.seq (T.region Z (TL.run aa [0,1] Z Z (TL.q Z .u (Ai 0 Z CV Z Z) Z ?_)))))))))
   replace h:=ak h
   obtain⟨c21,h⟩:=h
   refine TL.q Z .u (Ex.sub Z Z c21) Z ?_
   rcases jF h with⟨c22,h⟩ | ⟨c22,h⟩
   ·refine TL.run aa [4,5] Z Z ?_
    iterate 5 refine An Z (.gn Z Z (CN c22)) Z ?_
    refine TL.q Z .u (Aq Z (CN c22) Z) Z (TL.nil (X.seq (Am Z Z (T.seq (T.region Z (TL.run aa [0] Z Z ?_))))))
    obtain rfl:=CP h
    replace h:=hO9
    clear hO9
    try dsimp only at h
    obtain rfl:=CP h
    exact TL.nil (X.seq (T.ret (Al (At (Al (Al (At (Al (Ak [1] Tryz.results106 (Aj Z) ⟨Z,Z,Z⟩ (by rfl) (.inl Z))))))))))
   ·refine TL.run aa [4,5] Z Z ?_
    iterate 2 refine TL.q Z (.g Z Z (CO c22)) (Ao aa Z) Z ?_
    refine TL.q Z (.g Z Z (CO c22)) (Ai 0 Z CV Z Z) Z ?_
    replace h:=ak h
    obtain⟨c23,h⟩:=h
    refine TL.q Z (.g Z Z (CO c22)) (Ex.neg Z c23) Z (TL.q Z (.g Z Z (CO c22)) (Ao aa Z) Z (TL.q Z .u (Ar Z (CO c22) Z) Z ?_))
    rcases jF h with⟨c24,h⟩ | ⟨c24,h⟩
    ·refine TL.nil (X.seq (Am Z (CN c24) (T.seq (T.region Z (TL.run aa [0] Z Z ?_)))))
     obtain rfl:=CP h
     replace h:=hO9
     clear hO9
     try dsimp only at h
     obtain rfl:=CP h
     exact TL.nil (X.seq (T.ret (Al (At (Al (Al (At (Al (Ak [1] Tryz.results106 (Aj Z) ⟨Z,Z,Z⟩ (by rfl) (.inl Z))))))))))
    ·refine TL.nil (X.seq (Ap Z (CO c24) (T.skip (X.seq (T.seq (T.region Z (TL.run aa [0] Z Z (TL.q Z .u (Ai 0 Z CV Z Z) Z ?_))))))))
     replace h:=ak h
     obtain⟨c25,h⟩:=h
     refine TL.run aa [2] Z Z (TL.q Z .u (Ex.add Z Z c25) Z (TL.run aa [4,5] Z Z ?_))
     rcases jF h with⟨c26,h⟩ | ⟨c26,h⟩
     ·refine TL.nil (X.seq (Am Z (CN c26) (T.region Z (TL.run aa [0] Z Z (TL.q Z .u (Ai 0 Z CV Z Z) Z ?_)))))
      replace h:=ak h
      obtain⟨c27,h⟩:=h
      refine TL.run aa [2] Z Z (TL.q Z .u (Ex.add Z Z c27) Z (TL.run aa [4] Z Z (TL.nil (Az (X.seq (T.region Z ?_))))))
      replace h:=ak h
      obtain⟨c28,h⟩:=h
      exact TL.run aa [0] Z Z (TL.q Z .u (Ex.add Z Z c28) Z (TL.run aa [2] Z Z (TL.nil (X.back (m':=m10) [0,0] (by omega) ⟨y4,(a0.Cl+x15.CC),k6+1,Z,Z,h⟩ (by rfl) (by rfl)))))
     ·refine TL.nil (X.seq (Ap Z (CO c26) (T.skip (Az (X.seq (T.region Z ?_))))))
      replace h:=ak h
      obtain⟨c29,h⟩:=h
      exact TL.run aa [0] Z Z (TL.q Z .u (Ex.add Z Z c29) Z (TL.run aa [2] Z Z (TL.nil (X.back (m':=m10) [0,0] (by omega) ⟨y4,y5,k6+1,Z,Z,h⟩ (by rfl) (by rfl)))))
  ·refine TL.nil (X.seq (Ap Z (CO c14) ?_))
   obtain rfl:=CP h
   replace h:=hO9
   clear hO9
   try dsimp only at h
   refine T.exit (Au (Au (AS (X.seq (T.seq (T.region Z (TL.run aa [0,1] Z Z ?_)))))))
   obtain rfl:=CP h
   exact TL.nil (X.seq (T.ret (Ak [1] Tryz.results106 (Aj Z) ⟨Z,Z,Z⟩ (by rfl) (.inl Z))))
def bx (a0:Bat):Nat→Int→Nat→Option (Lp Int (Int×Nat))
 | 0,_,_=>none
 | m9+1,y4,k5=>if (k5:Int)<(a0.Ce.length:Int) then ((a0.Ce[k5]?).bind fun x14=>if x14.Cv>a0.Cr then some (Lp.ret 13) else (if (k5:Int)>0 then (if -9223372036854775808≤((k5:Int) - 1)∧((k5:Int) - 1)≤9223372036854775807 then (if 0≤((k5:Int) - 1) then ((a0.Ce[((k5:Int) - 1).toNat]?).bind fun x24=>if x14.Cv≤x24.Cv then some (Lp.ret 13) else (if x14.Cv<0 then some (Lp.ret 13) else (if -9223372036854775808≤(9223372036854775807 - a0.Cl)∧(9223372036854775807 - a0.Cl)≤9223372036854775807 then (if x14.CC>(9223372036854775807 - a0.Cl) then some (Lp.ret 11) else (if -9223372036854775808≤(-a0.Cl)∧(-a0.Cl)≤9223372036854775807 then (if x14.CC<(-a0.Cl) then some (Lp.ret 11) else (if -9223372036854775808≤((k5:Int)+1)∧((k5:Int)+1)≤9223372036854775807 then (bx a0 m9 y4 (k5+1)) else none)) else none)) else none))) else none) else none) else (if x14.Cv<0 then some (Lp.ret 13) else (if -9223372036854775808≤(9223372036854775807 - a0.Cl)∧(9223372036854775807 - a0.Cl)≤9223372036854775807 then (if x14.CC>(9223372036854775807 - a0.Cl) then some (Lp.ret 11) else (if -9223372036854775808≤(-a0.Cl)∧(-a0.Cl)≤9223372036854775807 then (if x14.CC<(-a0.Cl) then some (Lp.ret 11) else (if -9223372036854775808≤((k5:Int)+1)∧((k5:Int)+1)≤9223372036854775807 then (bx a0 m9 y4 (k5+1)) else none)) else none)) else none)))) else (some (Lp.go (y4,k5)))
def eb (a0:Bat):Option (Int):=(bx a0 (((a0.Ce.length:Int)).toNat+1) 0 0).bind fun e=>match e with | .ret r=>some r | .go (y47,k48)=>(if a0.Cw=true then some 0 else ((jt a0).bind fun x50=>if x50=a0.Cy then some 0 else some 11))
theorem ju (a0:Bat) (A1:Option Addr) (c2:Nat) (r:Int) (h:eb a0=some r):ay Tryz.prog 47 #[.agg #[jI a0.Cu,jI a0.Co,.bool a0.Cw,.bool a0.CE,.bool a0.Cq,jI a0.Cr,jI a0.Cl,jI a0.Cy,jI a0.Ci,jI a0.Cp,jI a0.Ch,.slice A1 a0.Ce.length c2]] (RX.of (av 7 aU) [.slice A1 a0.Ce.length c2] a0.Ce) (aB) (fun v A' N=>v=jI r∧A'=aB∧N = []):=by
 refine aL Tryz.func47 Z Tryz.ntmps47 Z ?_
 intro F w hX
 unfold eb at h
 refine T.seq (T.region Z (TL.box Z .u Z Z (fun b3=>(TL.run aa [1] Z Z (TL.nil (X.seq (T.seq (T.seq (T.region Z (TL.run aa [0] Z Z (TL.nil (X.seq (T.block ?_)))))))))))))
 obtain⟨E6,hE7,hO8⟩:=CM h
 refine AV (fun m e Rs=> ∃ (y4:Int) (k5:Nat),e = [(1,jP b3),(2,jI y4),(3,jI (k5:Int))]∧Rs = [aC b3 27 #[jI a0.Cu,jI a0.Co,.bool a0.Cw,.bool a0.CE,.bool a0.Cq,jI a0.Cr,jI a0.Cl,jI a0.Cy,jI a0.Ci,jI a0.Cp,jI a0.Ch,.slice A1 a0.Ce.length c2],aB]∧bx a0 m y4 k5=some E6) (((a0.Ce.length:Int)).toNat+1) [0,0] ⟨0,0,Z,Z,by exact hE7⟩ (by rfl) (by rfl) ?_
 rintro m9 _ _ ⟨y4,k5,rfl,rfl,hl11⟩
 clear hE7 h
 cases m9 with
 | zero =>
  rw[bx] at hl11
  cases hl11
 | succ m9 =>
  have h:=hl11
  clear hl11
  rw[bx] at h
  refine T.seq (T.seq (T.region Z (TL.run aa [0,1] Z Z (TL.q Z .u (Ai 0 Z Ds Z Z) Z (TL.q Z .u (AA Z C9) Z (TL.run aa [4] Z Z ?_))))))
  rcases jF h with⟨c13,h⟩ | ⟨c13,h⟩
  ·refine TL.nil (X.seq (Am Z (CN c13) (T.skip (X.seq (T.seq (T.block (T.seq (T.region Z (TL.run aa [0] Z Z (TL.q Z .u (Ai 0 Z Ds Z Z) Z ?_))))))))))
   obtain⟨x14,hx15,h⟩:=CM h
   obtain⟨gz16,oz16,rfl,z16cs,z16cl,z16cc,z16nf,z16r⟩:=AK (by decide) hX hx15
   obtain⟨z16S,z16r,z16rr⟩:=z16r
   obtain⟨A17,c18,rfl,z16s0⟩:=z16r
   have hX19:(RX.of (av 3 bf) [.slice A17 x14.Cn.length c18] x14.Cn).reads w F:=⟨z16S,z16s0,z16rr⟩
   refine TL.run aa [2] Z Z ?_
   refine TL.q Z .u (Aw (k:=k5) Z Z Z C9 C4 (CU hx15).1) Z ?_
   refine TL.run aa [4] Z Z (TL.q Z .u (AY 1 Z CV z16nf z16cc Z Z) Z (TL.run aa [6] Z Z (TL.nil (X.seq (T.seq (T.seq (T.region Z (TL.run aa [0,1] Z Z (TL.q Z .u (Ai 0 Z CV Z Z) Z ?_)))))))))
   rcases jF h with⟨c20,h⟩ | ⟨c20,h⟩
   ·refine TL.run aa [3,4] Z Z ?_
    iterate 3 refine An Z (.gn Z Z (CN c20)) Z ?_
    iterate 9 refine An Z (.gu Z Z) Z ?_
    refine An Z (.gn Z Z (CN c20)) Z (TL.q Z .u (Aq Z (CN c20) Z) Z (TL.run aa [19] Z Z ?_))
    iterate 2 refine An Z (.gn Z Z Z) Z ?_
    refine TL.q Z .u (Aq Z Z Z) Z (TL.nil (X.seq (Am Z Z (T.seq (T.region Z (TL.run aa [0] Z Z ?_))))))
    obtain rfl:=CP h
    replace h:=hO8
    clear hO8
    try dsimp only at h
    obtain rfl:=CP h
    exact TL.nil (X.seq (T.ret (Al (At (Al (Al (At (Al (Ak [1] D7 (Aj Z) ⟨Z,Z,Z⟩ (by rfl) (.inl Z))))))))))
   ·refine TL.run aa [3,4] Z Z ?_
    iterate 3 refine TL.q Z (.g Z Z (CO c20)) (Ao aa Z) Z ?_
    rcases jF h with⟨c21,h⟩ | ⟨c21,h⟩
    ·refine TL.q Z (.g Z Z (CN c21)) (Ao aa Z) Z (TL.q Z (.g Z Z (CN c21)) (Ao aa Z) Z (TL.q Z (.g Z Z (CN c21)) (Ai 0 Z Ds Z Z) Z (TL.q Z (.g Z Z (CN c21)) (Ao aa Z) Z ?_)))
     replace h:=ak h
     obtain⟨c22,h⟩:=h
     refine TL.q Z (.g Z Z (CN c21)) (Ex.sub Z Z c22) Z ?_
     replace h:=ak h
     obtain⟨c23,h⟩:=h
     obtain⟨x24,hx25,h⟩:=CM h
     obtain⟨z26cs,z26cl,z26cc,z26nf,z26r⟩:=BN (by decide) hX hx25
     obtain⟨z26S,z26r,z26rr⟩:=z26r
     obtain⟨A27,c28,rfl,z26s0⟩:=z26r
     have hX29:(RX.of (av 3 bf) [.slice A27 x24.Cn.length c28] x24.Cn).reads w F:=⟨z26S,z26s0,z26rr⟩
     refine TL.q Z (.g Z Z (CN c21)) (Aw (k:=((k5:Int) - 1).toNat) Z Z ((Int.toNat_of_nonneg c23).symm) C9 C4 (CU hx25).1) Z ?_
     refine TL.q Z (.g Z Z (CN c21)) (Ao aa Z) Z (TL.q Z (.g Z Z (CN c21)) (AY 1 Z CV z26nf z26cc Z Z) Z (TL.q Z (.g Z Z (CN c21)) (Ao aa Z) Z (TL.q Z (.g Z Z (CO c20)) (Aq Z (CN c21) Z) Z (TL.q Z .u (Ar Z (CO c20) Z) Z ?_))))
     rcases jF h with⟨c30,h⟩ | ⟨c30,h⟩
     ·refine TL.run aa [19] Z Z ?_
      iterate 2 refine An Z (.gn Z Z (CN c30)) Z ?_
      refine TL.q Z .u (Aq Z (CN c30) Z) Z (TL.nil (X.seq (Am Z Z (T.seq (T.region Z (TL.run aa [0] Z Z ?_))))))
      obtain rfl:=CP h
      replace h:=hO8
      clear hO8
      try dsimp only at h
      obtain rfl:=CP h
      exact TL.nil (X.seq (T.ret (Al (At (Al (Al (At (Al (Ak [1] D7 (Aj Z) ⟨Z,Z,Z⟩ (by rfl) (.inl Z))))))))))
     ·refine TL.run aa [19] Z Z ?_
      iterate 2 refine TL.q Z (.g Z Z (CO c30)) (Ao aa Z) Z ?_
      refine TL.q Z .u (Ar Z (CO c30) Z) Z ?_
      rcases jF h with⟨c31,h⟩ | ⟨c31,h⟩
      ·refine TL.nil (X.seq (Am Z (CN c31) (T.seq (T.region Z (TL.run aa [0] Z Z ?_)))))
       obtain rfl:=CP h
       replace h:=hO8
       clear hO8
       try dsimp only at h
       obtain rfl:=CP h
       exact TL.nil (X.seq (T.ret (Al (At (Al (Al (At (Al (Ak [1] D7 (Aj Z) ⟨Z,Z,Z⟩ (by rfl) (.inl Z))))))))))
      ·refine TL.nil (X.seq (Ap Z (CO c31) (T.skip (X.seq (T.seq (T.region Z (TL.run aa [0] Z Z (TL.q Z .u (Ai 0 Z Ds Z Z) Z (TL.run aa [2] Z Z ?_)))))))))
       refine TL.q Z .u (Aw (k:=k5) Z Z Z C9 C4 (CU hx15).1) Z ?_
       refine TL.run aa [4] Z Z (TL.q Z .u (AY 0 Z CV z16nf z16cc Z Z) Z (TL.run aa [6] Z Z (TL.nil (X.seq (T.seq (T.region Z (TL.run aa [0,1] Z Z (TL.q Z .u (Ai 0 Z CV Z Z) Z ?_))))))))
       replace h:=ak h
       obtain⟨c32,h⟩:=h
       refine TL.q Z .u (Ex.sub Z Z c32) Z ?_
       rcases jF h with⟨c33,h⟩ | ⟨c33,h⟩
       ·refine TL.run aa [4,5] Z Z ?_
        iterate 5 refine An Z (.gn Z Z (CN c33)) Z ?_
        refine TL.q Z .u (Aq Z (CN c33) Z) Z (TL.nil (X.seq (Am Z Z (T.seq (T.region Z (TL.run aa [0] Z Z ?_))))))
        obtain rfl:=CP h
        replace h:=hO8
        clear hO8
        try dsimp only at h
        obtain rfl:=CP h
        exact TL.nil (X.seq (T.ret (At (Al (Al (At (Al (Ak [1] D7 (Aj Z) ⟨Z,Z,Z⟩ (by rfl) (.inl Z)))))))))
       ·refine TL.run aa [4,5] Z Z ?_
        iterate 2 refine TL.q Z (.g Z Z (CO c33)) (Ao aa Z) Z ?_
        refine TL.q Z (.g Z Z (CO c33)) (Ai 0 Z CV Z Z) Z ?_
        replace h:=ak h
        obtain⟨c34,h⟩:=h
        refine TL.q Z (.g Z Z (CO c33)) (Ex.neg Z c34) Z (TL.q Z (.g Z Z (CO c33)) (Ao aa Z) Z (TL.q Z .u (Ar Z (CO c33) Z) Z ?_))
        rcases jF h with⟨c35,h⟩ | ⟨c35,h⟩
        ·refine TL.nil (X.seq (Am Z (CN c35) (T.seq (T.region Z (TL.run aa [0] Z Z ?_)))))
         obtain rfl:=CP h
         replace h:=hO8
         clear hO8
         try dsimp only at h
         obtain rfl:=CP h
         exact TL.nil (X.seq (T.ret (At (Al (Al (At (Al (Ak [1] D7 (Aj Z) ⟨Z,Z,Z⟩ (by rfl) (.inl Z)))))))))
        ·refine TL.nil (X.seq (Ap Z (CO c35) (T.skip (Az (X.seq (T.region Z ?_))))))
         replace h:=ak h
         obtain⟨c36,h⟩:=h
         exact TL.run aa [0] Z Z (TL.q Z .u (Ex.add Z Z c36) Z (TL.run aa [2] Z Z (TL.nil (X.back (m':=m9) [0,0] (by omega) ⟨y4,k5+1,Z,Z,h⟩ (by rfl) (by rfl)))))
    ·refine An Z (.gn Z Z (CO c21)) Z ?_
     iterate 8 refine An Z (.gn Z Z (CO c21)) Z ?_
     refine TL.q Z (.g Z Z (CO c20)) (Ar Z (CO c21) Z) Z (TL.q Z .u (Ar Z (CO c20) Z) Z (TL.run aa [19] Z Z ?_))
     iterate 2 refine TL.q Z (.g Z Z Z) (Ao aa Z) Z ?_
     refine TL.q Z .u (Ar Z Z Z) Z ?_
     rcases jF h with⟨c37,h⟩ | ⟨c37,h⟩
     ·refine TL.nil (X.seq (Am Z (CN c37) (T.seq (T.region Z (TL.run aa [0] Z Z ?_)))))
      obtain rfl:=CP h
      replace h:=hO8
      clear hO8
      try dsimp only at h
      obtain rfl:=CP h
      exact TL.nil (X.seq (T.ret (Al (At (Al (Al (At (Al (Ak [1] D7 (Aj Z) ⟨Z,Z,Z⟩ (by rfl) (.inl Z))))))))))
     ·refine TL.nil (X.seq (Ap Z (CO c37) (T.skip (X.seq (T.seq (T.region Z (TL.run aa [0] Z Z (TL.q Z .u (Ai 0 Z Ds Z Z) Z (TL.run aa [2] Z Z ?_)))))))))
      refine TL.q Z .u (Aw (k:=k5) Z Z Z C9 C4 (CU hx15).1) Z ?_
      refine TL.run aa [4] Z Z (TL.q Z .u (AY 0 Z CV z16nf z16cc Z Z) Z (TL.run aa [6] Z Z (TL.nil (X.seq (T.seq (T.region Z (TL.run aa [0,1] Z Z (TL.q Z .u (Ai 0 Z CV Z Z) Z ?_))))))))
      replace h:=ak h
      obtain⟨c38,h⟩:=h
      refine TL.q Z .u (Ex.sub Z Z c38) Z ?_
      rcases jF h with⟨c39,h⟩ | ⟨c39,h⟩
      ·refine TL.run aa [4,5] Z Z ?_
       iterate 5 refine An Z (.gn Z Z (CN c39)) Z ?_
       refine TL.q Z .u (Aq Z (CN c39) Z) Z (TL.nil (X.seq (Am Z Z (T.seq (T.region Z (TL.run aa [0] Z Z ?_))))))
       obtain rfl:=CP h
       replace h:=hO8
       clear hO8
       try dsimp only at h
       obtain rfl:=CP h
       exact TL.nil (X.seq (T.ret (At (Al (Al (At (Al (Ak [1] D7 (Aj Z) ⟨Z,Z,Z⟩ (by rfl) (.inl Z)))))))))
      ·refine TL.run aa [4,5] Z Z ?_
       iterate 2 refine TL.q Z (.g Z Z (CO c39)) (Ao aa Z) Z ?_
       refine TL.q Z (.g Z Z (CO c39)) (Ai 0 Z CV Z Z) Z ?_
       replace h:=ak h
       obtain⟨c40,h⟩:=h
       refine TL.q Z (.g Z Z (CO c39)) (Ex.neg Z c40) Z (TL.q Z (.g Z Z (CO c39)) (Ao aa Z) Z (TL.q Z .u (Ar Z (CO c39) Z) Z ?_))
       rcases jF h with⟨c41,h⟩ | ⟨c41,h⟩
       ·refine TL.nil (X.seq (Am Z (CN c41) (T.seq (T.region Z (TL.run aa [0] Z Z ?_)))))
        obtain rfl:=CP h
        replace h:=hO8
        clear hO8
        try dsimp only at h
        obtain rfl:=CP h
        exact TL.nil (X.seq (T.ret (At (Al (Al (At (Al (Ak [1] D7 (Aj Z) ⟨Z,Z,Z⟩ (by rfl) (.inl Z)))))))))
       ·refine TL.nil (X.seq (Ap Z (CO c41) (T.skip (Az (X.seq (T.region Z ?_))))))
        replace h:=ak h
        obtain⟨c42,h⟩:=h
        exact TL.run aa [0] Z Z (TL.q Z .u (Ex.add Z Z c42) Z (TL.run aa [2] Z Z (TL.nil (X.back (m':=m9) [0,0] (by omega) ⟨y4,k5+1,Z,Z,h⟩ (by rfl) (by rfl)))))
  ·refine TL.nil (X.seq (Ap Z (CO c13) ?_))
   obtain rfl:=CP h
   replace h:=hO8
   clear hO8
   try dsimp only at h
   refine T.exit (Au (Au (AS (X.seq (T.seq (T.seq (AH (.q 0 (.q 1 (.q 2 (.q 3 (.q 4 (.q 6 (.q 7 (.e 5 (.q 8 (.q 9 .nil)))))))))) [0,0] Z cR (NoP.seq (NoP.seq aM)) (by kernel_rfl) ?_)))))))
   refine TD.run aa [0] Z Z (TD.q Z .u (Ai 0 Z Dd Z Z) Z ?_)
   rcases jF h with⟨c43,h⟩ | ⟨c43,h⟩
   ·refine TD.run aa [2,3] Z Z ?_
    iterate 3 refine A9 Z (.gn Z Z (az c43)) Z ?_
    refine B5 Z (.gn Z Z (az c43)) Z [0,0] Z (A9 Z (.gn Z Z (az c43)) Z (TD.q Z .u (Ar Z (az c43) Z) Z (TD.nil (X.seq (Ap Z Z (T.skip (X.seq (T.seq (T.region Z (TL.run aa [0] Z Z ?_))))))))))
    obtain rfl:=CP h
    exact TL.nil (X.seq (T.ret (Ak [1] D7 (Aj Z) ⟨Z,Z,Z⟩ (by rfl) (.inl Z))))
   ·replace c43:=CX c43
    refine TD.run aa [2,3] Z Z (TD.q Z (.g Z Z (aD c43)) (Av (us := [jI a0.Cu,jI a0.Co,.bool a0.Cw,.bool a0.CE,.bool a0.Cq,jI a0.Cr,jI a0.Cl,jI a0.Cy,jI a0.Ci,jI a0.Cp,jI a0.Ch,.slice A1 a0.Ce.length c2]) 0 Z Df C3 Z Z Z) Z (TD.q Z (.g Z Z (aD c43)) (Ao aa Z) Z (TD.q Z (.g Z Z (aD c43)) (Ai 0 Z CV Z Z) Z ?_)))
    obtain⟨x44,hx45,h⟩:=CM h
    refine AR Z (.g Z Z (aD c43)) (.fn Tryz.call106 Z) (n9 a0 _ _ _ hx45) (fun _ hs=>(AE hs hX)) Z [0,0] (Z) (TD.q Z (.g Z Z (aD c43)) (Ao aa Z) Z (TD.q Z .u (Aq Z (aD c43) Z) Z ?_))
    rcases jF h with⟨c46,h⟩ | ⟨c46,h⟩
    ·refine TD.nil (X.seq (Ap Z (az (CN c46)) (T.skip (X.seq (T.seq (T.region Z (TL.run aa [0] Z Z ?_)))))))
     obtain rfl:=CP h
     exact TL.nil (X.seq (T.ret (Ak [1] D7 (Aj Z) ⟨Z,Z,Z⟩ (by rfl) (.inl Z))))
    ·refine TD.nil (X.seq (Am Z (aD (CO c46)) (T.seq (T.region Z (TL.run aa [0] Z Z ?_)))))
     obtain rfl:=CP h
     exact TL.nil (X.seq (T.ret (Al (Ak [1] D7 (Aj Z) ⟨Z,Z,Z⟩ (by rfl) (.inl Z)))))
def cw (a0:Bat):Nat→Int→Nat→Option (Lp Int (Int×Nat))
 | 0,_,_=>none
 | m26+1,y21,k22=>if (k22:Int)<(a0.Ce.length:Int) then ((a0.Ce[k22]?).bind fun x31=>(fY x31).bind fun x37=>if x37=0 then (if -9223372036854775808≤((k22:Int)+1)∧((k22:Int)+1)≤9223372036854775807 then (cw a0 m26 y21 (k22+1)) else none) else some (Lp.ret x37)) else (some (Lp.go (y21,k22)))
def dP (a0:Bat):Nat→Int→Nat→Option (Lp Int (Int×Nat))
 | 0,_,_=>none
 | m77+1,y72,k73=>if (k73:Int)<(a0.Ce.length:Int) then ((a0.Ce[k73]?).bind fun x82=>(fY x82).bind fun x88=>if x88=0 then (if -9223372036854775808≤((k73:Int)+1)∧((k73:Int)+1)≤9223372036854775807 then (dP a0 m77 y72 (k73+1)) else none) else some (Lp.ret x88)) else (some (Lp.go (y72,k73)))
def bR (a0:Bat):Option (Int):=if a0.Cu<0 then some 11 else ((eL a0.Co (-1)).bind fun x5=>if x5=true then ((eL a0.Cr 0).bind fun x8=>if x8=true then (if -9223372036854775808≤(9223372036854775807 - a0.Cu)∧(9223372036854775807 - a0.Cu)≤9223372036854775807 then (if a0.Cr>(9223372036854775807 - a0.Cu) then some 11 else (if a0.Cl<0 then some 11 else (if a0.Cy<0 then some 11 else (if a0.Cq=true then (if a0.CE=true then ((et a0).bind fun x17=>if x17=true then (if (a0.Ce.length:Int)=1 then ((cw a0 (((a0.Ce.length:Int)).toNat+1) 0 0).bind fun e=>match e with | .ret r=>some r | .go (y54,k55)=>((a0.Ce[0]?).bind fun x56=>(ff x56).bind fun (x62,x63,x64)=>if x64=0 then ((eb a0).bind fun x67=>some x67) else some x64)) else some 10) else some 11) else some 8) else ((et a0).bind fun x69=>if x69=true then ((dP a0 (((a0.Ce.length:Int)).toNat+1) 0 0).bind fun e=>match e with | .ret r=>some r | .go (y94,k95)=>((eb a0).bind fun x96=>some x96)) else some 11))))) else none) else some 11) else some 11)
theorem bY (a0:Bat) (A1:Option Addr) (c2:Nat) (r:Int) (h:bR a0=some r):ay Tryz.prog 12 #[.agg #[jI a0.Cu,jI a0.Co,.bool a0.Cw,.bool a0.CE,.bool a0.Cq,jI a0.Cr,jI a0.Cl,jI a0.Cy,jI a0.Ci,jI a0.Cp,jI a0.Ch,.slice A1 a0.Ce.length c2]] (RX.of (av 7 aU) [.slice A1 a0.Ce.length c2] a0.Ce) (aB) (fun v A' N=>v=jI r∧A'=aB∧N = []):=by
 refine aL Tryz.func12 Z Tryz.ntmps12 Z ?_
 intro F w hX
 unfold bR at h
 refine T.seq (T.region Z (TL.box Z .u Z Z (fun b3=>(TL.run aa [1] Z Z (TL.nil (X.seq (T.seq (T.seq (T.region Z (TL.run aa [0] Z Z (TL.q Z .u (Ai 0 Z CV Z Z) Z ?_)))))))))))
 rcases jF h with⟨c4,h⟩ | ⟨c4,h⟩
 ·refine TL.run aa [2,3] Z Z ?_
  iterate 4 refine An Z (.gn Z Z (CN c4)) Z ?_
  refine TL.q Z .u (Aq Z (CN c4) Z) Z (TL.run aa [9] Z Z ?_)
  iterate 4 refine An Z (.gn Z Z Z) Z ?_
  refine TL.q Z .u (Aq Z Z Z) Z (TL.run aa [15] Z Z ?_)
  iterate 6 refine An Z (.gn Z Z Z) Z ?_
  refine TL.q Z .u (Aq Z Z Z) Z (TL.run aa [23] Z Z ?_)
  iterate 3 refine An Z (.gn Z Z Z) Z ?_
  refine TL.q Z .u (Aq Z Z Z) Z (TL.run aa [28] Z Z ?_)
  iterate 3 refine An Z (.gn Z Z Z) Z ?_
  refine TL.q Z .u (Aq Z Z Z) Z (TL.nil (X.seq (Am Z Z (T.seq (T.region Z (TL.run aa [0] Z Z ?_))))))
  obtain rfl:=CP h
  exact TL.nil (X.seq (T.ret (Al (Ak [1] DW (Aj Z) ⟨Z,Z,Z⟩ (by rfl) (.inl Z)))))
 ·refine TL.run aa [2,3] Z Z (TL.q Z (.g Z Z (CO c4)) (Ao aa Z) Z (TL.q Z (.g Z Z (CO c4)) (Ai 0 Z CV Z Z) Z ?_))
  obtain⟨x5,hx6,h⟩:=CM h
  refine Ax Z (.g Z Z (CO c4)) (.fn Tryz.call43 Z) (gm a0.Co (-1) _ hx6) (fun _ hs=>(RX.reads_triv _ _)) Z (TL.q Z (.g Z Z (CO c4)) (Ao aa Z) Z (TL.q Z .u (Ar Z (CO c4) Z) Z ?_))
  rcases jF h with⟨c7,h⟩ | ⟨c7,h⟩
  ·refine TL.run aa [9] Z Z (TL.q Z (.g Z Z (az c7)) (Ao aa Z) Z (TL.q Z (.g Z Z (az c7)) (Ai 0 Z CV Z Z) Z ?_))
   obtain⟨x8,hx9,h⟩:=CM h
   refine Ax Z (.g Z Z (az c7)) (.fn Tryz.call43 Z) (gm a0.Cr 0 _ hx9) (fun _ hs=>(RX.reads_triv _ _)) Z (TL.q Z (.g Z Z (az c7)) (Ao aa Z) Z (TL.q Z .u (Ar Z (az c7) Z) Z ?_))
   rcases jF h with⟨c10,h⟩ | ⟨c10,h⟩
   ·refine TL.run aa [15] Z Z (TL.q Z (.g Z Z (az c10)) (Ao aa Z) Z (TL.q Z (.g Z Z (az c10)) (Ai 0 Z CV Z Z) Z (TL.q Z (.g Z Z (az c10)) (Ao aa Z) Z (TL.q Z (.g Z Z (az c10)) (Ai 0 Z CV Z Z) Z ?_))))
    replace h:=ak h
    obtain⟨c11,h⟩:=h
    refine TL.q Z (.g Z Z (az c10)) (Ex.sub Z Z c11) Z (TL.q Z (.g Z Z (az c10)) (Ao aa Z) Z (TL.q Z .u (Ar Z (az c10) Z) Z ?_))
    rcases jF h with⟨c12,h⟩ | ⟨c12,h⟩
    ·refine TL.run aa [23] Z Z ?_
     iterate 3 refine An Z (.gn Z Z (CN c12)) Z ?_
     refine TL.q Z .u (Aq Z (CN c12) Z) Z (TL.run aa [28] Z Z ?_)
     iterate 3 refine An Z (.gn Z Z Z) Z ?_
     refine TL.q Z .u (Aq Z Z Z) Z (TL.nil (X.seq (Am Z Z (T.seq (T.region Z (TL.run aa [0] Z Z ?_))))))
     obtain rfl:=CP h
     exact TL.nil (X.seq (T.ret (Al (Ak [1] DW (Aj Z) ⟨Z,Z,Z⟩ (by rfl) (.inl Z)))))
    ·refine TL.run aa [23] Z Z (TL.q Z (.g Z Z (CO c12)) (Ao aa Z) Z (TL.q Z (.g Z Z (CO c12)) (Ai 0 Z CV Z Z) Z (TL.q Z (.g Z Z (CO c12)) (Ao aa Z) Z (TL.q Z .u (Ar Z (CO c12) Z) Z ?_))))
     rcases jF h with⟨c13,h⟩ | ⟨c13,h⟩
     ·refine TL.run aa [28] Z Z ?_
      iterate 3 refine An Z (.gn Z Z (CN c13)) Z ?_
      refine TL.q Z .u (Aq Z (CN c13) Z) Z (TL.nil (X.seq (Am Z Z (T.seq (T.region Z (TL.run aa [0] Z Z ?_))))))
      obtain rfl:=CP h
      exact TL.nil (X.seq (T.ret (Al (Ak [1] DW (Aj Z) ⟨Z,Z,Z⟩ (by rfl) (.inl Z)))))
     ·refine TL.run aa [28] Z Z (TL.q Z (.g Z Z (CO c13)) (Ao aa Z) Z (TL.q Z (.g Z Z (CO c13)) (Ai 0 Z CV Z Z) Z (TL.q Z (.g Z Z (CO c13)) (Ao aa Z) Z (TL.q Z .u (Ar Z (CO c13) Z) Z ?_))))
      rcases jF h with⟨c14,h⟩ | ⟨c14,h⟩
      ·refine TL.nil (X.seq (Am Z (CN c14) (T.seq (T.region Z (TL.run aa [0] Z Z ?_)))))
       obtain rfl:=CP h
       exact TL.nil (X.seq (T.ret (Al (Ak [1] DW (Aj Z) ⟨Z,Z,Z⟩ (by rfl) (.inl Z)))))
      ·refine TL.nil (X.seq (Ap Z (CO c14) (T.skip (X.seq (T.seq (T.seq (T.region Z (TL.run aa [0] Z Z (TL.q Z .u (Ai 0 Z Dd Z Z) Z ?_)))))))))
       rcases jF h with⟨c15,h⟩ | ⟨c15,h⟩
       ·refine TL.run aa [2] Z Z (TL.q Z (.g Z Z c15) (Ao aa Z) Z (TL.q Z (.g Z Z c15) (Ai 0 Z Dd Z Z) Z (TL.q Z (.g Z Z c15) (Ao aa Z) Z (TL.q Z .u (Aq Z c15 Z) Z ?_))))
        rcases jF h with⟨c16,h⟩ | ⟨c16,h⟩
        ·refine TL.nil (X.seq (Ap Z (az c16) (T.skip (X.seq (T.seq (T.seq (T.region Z (TL.q Z .u (Av (us := [jI a0.Cu,jI a0.Co,.bool a0.Cw,.bool a0.CE,.bool a0.Cq,jI a0.Cr,jI a0.Cl,jI a0.Cy,jI a0.Ci,jI a0.Cp,jI a0.Ch,.slice A1 a0.Ce.length c2]) 0 Z Df C3 Z Z Z) Z ?_))))))))
         obtain⟨x17,hx18,h⟩:=CM h
         refine Ax Z .u (.fn Tryz.call44 Z) (iw a0 _ _ _ hx18) (fun _ hs=>(AE hs hX)) Z (TL.run aa [2] Z Z ?_)
         rcases jF h with⟨c19,h⟩ | ⟨c19,h⟩
         ·refine TL.nil (X.seq (Ap Z (az c19) (T.skip (X.seq (T.seq (T.seq (T.region Z (TL.run aa [0] Z Z (TL.q Z .u (Ai 0 Z Dd Z Z) Z (TL.run aa [2] Z Z (TL.q Z (.g Z Z c15) (Ao aa Z) Z (TL.q Z (.g Z Z c15) (Ai 0 Z Ds Z Z) Z ?_))))))))))))
          refine TL.q Z (.g Z Z c15) (AA Z C9) Z (TL.q Z (.g Z Z c15) (Ao aa Z) Z (TL.q Z .u (Aq Z c15 Z) Z ?_))
          rcases jF h with⟨c20,h⟩ | ⟨c20,h⟩
          ·refine TL.nil (X.seq (Ap Z (az (CN c20)) (T.skip (X.seq (T.seq (T.seq (T.region Z (TL.run aa [0] Z Z (TL.nil (X.seq (T.block ?_)))))))))))
           obtain⟨E23,hE24,hO25⟩:=CM h
           refine AV (fun m e Rs=> ∃ (y21:Int) (k22:Nat),e = [(1,jP b3),(2,jI y21),(3,jI (k22:Int))]∧Rs = [aC b3 27 #[jI a0.Cu,jI a0.Co,.bool a0.Cw,.bool a0.CE,.bool a0.Cq,jI a0.Cr,jI a0.Cl,jI a0.Cy,jI a0.Ci,jI a0.Cp,jI a0.Ch,.slice A1 a0.Ce.length c2],aB]∧cw a0 m y21 k22=some E23) (((a0.Ce.length:Int)).toNat+1) [0,0] ⟨0,0,Z,Z,by exact hE24⟩ (by rfl) (by rfl) ?_
           rintro m26 _ _ ⟨y21,k22,rfl,rfl,hl28⟩
           clear hE24 h
           cases m26 with
           | zero =>
            rw[cw] at hl28
            cases hl28
           | succ m26 =>
            have h:=hl28
            clear hl28
            rw[cw] at h
            refine T.seq (T.seq (T.region Z (TL.run aa [0,1] Z Z (TL.q Z .u (Ai 0 Z Ds Z Z) Z (TL.q Z .u (AA Z C9) Z (TL.run aa [4] Z Z ?_))))))
            rcases jF h with⟨c30,h⟩ | ⟨c30,h⟩
            ·refine TL.nil (X.seq (Am Z (CN c30) (T.skip (X.seq (T.seq (T.block (T.seq (T.region Z (TL.run aa [0] Z Z (TL.q Z .u (Ai 0 Z Ds Z Z) Z ?_))))))))))
             obtain⟨x31,hx32,h⟩:=CM h
             obtain⟨gz33,oz33,rfl,z33cs,z33cl,z33cc,z33nf,z33r⟩:=AK (by decide) hX hx32
             obtain⟨z33S,z33r,z33rr⟩:=z33r
             obtain⟨A34,c35,rfl,z33s0⟩:=z33r
             have hX36:(RX.of (av 3 bf) [.slice A34 x31.Cn.length c35] x31.Cn).reads w F:=⟨z33S,z33s0,z33rr⟩
             refine TL.run aa [2] Z Z ?_
             refine TL.q Z .u (Aw (k:=k22) Z Z Z C9 C4 (CU hx32).1) Z ?_
             refine TL.q Z .u (Bb (us := [jI x31.CC,jI x31.Cv,.bool x31.Cs.null,jS x31.Cs.data,.bool x31.Cg.null,jS x31.Cg.data,.slice A34 x31.Cn.length c35]) 0 Z Dr C4 z33nf z33cc Z Z Z) Z ?_
             obtain⟨x37,hx38,h⟩:=CM h
             refine Ax Z .u (.fn Tryz.call45 Z) (jZ x31 _ _ _ hx38) (fun _ hs=>(AE hs hX36)) Z (TL.run aa [6] Z Z (TL.nil (X.seq (T.seq (T.region Z (TL.run aa [0,1] Z Z ?_))))))
             rcases jF h with⟨c39,h⟩ | ⟨c39,h⟩
             ·refine TL.nil (X.seq (Ap Z (az (CN c39)) (T.skip (Az (X.seq (T.region Z ?_))))))
              replace h:=ak h
              obtain⟨c40,h⟩:=h
              exact TL.run aa [0] Z Z (TL.q Z .u (Ex.add Z Z c40) Z (TL.run aa [2] Z Z (TL.nil (X.back (m':=m26) [0,0] (by omega) ⟨y21,k22+1,Z,Z,h⟩ (by rfl) (by rfl)))))
             ·refine TL.nil (X.seq (Am Z (aD (CO c39)) (T.seq (T.region Z (TL.run aa [0,1] Z Z ?_)))))
              obtain rfl:=CP h
              replace h:=hO25
              clear hO25
              try dsimp only at h
              obtain rfl:=CP h
              exact TL.nil (X.seq (T.ret (At (Al (Al (At (Al (Ak [1] DW (Aj Z) ⟨Z,Z,Z⟩ (by rfl) (.inl Z)))))))))
            ·refine TL.nil (X.seq (Ap Z (CO c30) ?_))
             obtain rfl:=CP h
             replace h:=hO25
             clear hO25
             try dsimp only at h
             refine T.exit (Au (Au (AS (X.seq (T.seq (T.seq (T.region Z (TL.run aa [0] Z Z (TL.q Z .u (Ai 0 Z Dd Z Z) Z (TL.nil (X.seq (Am Z c15 (T.seq (T.region Z (TL.run aa [0] Z Z (TL.q Z .u (Ai 0 Z Ds Z Z) Z ?_))))))))))))))))
             obtain⟨x41,hx42,h⟩:=CM h
             obtain⟨gz43,oz43,rfl,z43cs,z43cl,z43cc,z43nf,z43r⟩:=AK (by decide) hX hx42
             obtain⟨z43S,z43r,z43rr⟩:=z43r
             obtain⟨A44,c45,rfl,z43s0⟩:=z43r
             have hX46:(RX.of (av 3 bf) [.slice A44 x41.Cn.length c45] x41.Cn).reads w F:=⟨z43S,z43s0,z43rr⟩
             refine TL.q Z .u (Aw (k:=0) Z Z Z C9 C4 (CU hx42).1) Z ?_
             refine TL.q Z .u (Bb (us := [jI x41.CC,jI x41.Cv,.bool x41.Cs.null,jS x41.Cs.data,.bool x41.Cg.null,jS x41.Cg.data,.slice A44 x41.Cn.length c45]) 0 Z Dr C4 z43nf z43cc Z Z Z) Z ?_
             obtain⟨⟨x47,x48,x49⟩,hx50,h⟩:=CM h
             try dsimp only at h
             refine Ax Z .u (.fn Tryz.call46 Z) (ph x41 _ _ _ hx50) (fun _ hs=>(AE hs hX46)) Z (TL.run aa [5,6,7,8,9,10,11] Z Z (TL.nil (X.seq (T.seq (T.region Z (TL.run aa [0,1] Z Z ?_))))))
             rcases jF h with⟨c51,h⟩ | ⟨c51,h⟩
             ·refine TL.nil (X.seq (Ap Z (az (CN c51)) (T.skip (X.seq (T.seq (T.region Z (TL.q Z .u (Av (us := [jI a0.Cu,jI a0.Co,.bool a0.Cw,.bool a0.CE,.bool a0.Cq,jI a0.Cr,jI a0.Cl,jI a0.Cy,jI a0.Ci,jI a0.Cp,jI a0.Ch,.slice (some ⟨gz43,oz43,none⟩) a0.Ce.length c2]) 0 Z Df C3 Z Z Z) Z ?_)))))))
              obtain⟨x52,hx53,h⟩:=CM h
              refine Ax Z .u (.fn Tryz.call47 Z) (ju a0 _ _ _ hx53) (fun _ hs=>(AE hs hX)) Z (TL.run aa [2] Z Z ?_)
              obtain rfl:=CP h
              exact TL.nil (X.seq (T.ret (Ak [1] DW (Aj Z) ⟨Z,Z,Z⟩ (by rfl) (.inl Z))))
             ·refine TL.nil (X.seq (Am Z (aD (CO c51)) (T.seq (T.region Z (TL.run aa [0,1] Z Z ?_)))))
              obtain rfl:=CP h
              exact TL.nil (X.seq (T.ret (Al (Ak [1] DW (Aj Z) ⟨Z,Z,Z⟩ (by rfl) (.inl Z)))))
          ·refine TL.nil (X.seq (Am Z (aD (CO c20)) (T.seq (T.region Z (TL.run aa [0] Z Z ?_)))))
           obtain rfl:=CP h
           exact TL.nil (X.seq (T.ret (Al (Ak [1] DW (Aj Z) ⟨Z,Z,Z⟩ (by rfl) (.inl Z)))))
         ·replace c19:=CX c19
          refine TL.nil (X.seq (Am Z (aD c19) (T.seq (T.region Z (TL.run aa [0] Z Z ?_)))))
          obtain rfl:=CP h
          exact TL.nil (X.seq (T.ret (Al (Ak [1] DW (Aj Z) ⟨Z,Z,Z⟩ (by rfl) (.inl Z)))))
        ·replace c16:=CX c16
         refine TL.nil (X.seq (Am Z (aD c16) (T.seq (T.region Z (TL.run aa [0] Z Z ?_)))))
         obtain rfl:=CP h
         exact TL.nil (X.seq (T.ret (Al (Ak [1] DW (Aj Z) ⟨Z,Z,Z⟩ (by rfl) (.inl Z)))))
       ·replace c15:=CX c15
        refine TL.run aa [2] Z Z ?_
        iterate 3 refine An Z (.gn Z Z c15) Z ?_
        refine TL.q Z .u (Ar Z c15 Z) Z (TL.nil (X.seq (Ap Z Z (T.skip (X.seq (T.seq (T.seq (T.region Z (TL.q Z .u (Av (us := [jI a0.Cu,jI a0.Co,.bool a0.Cw,.bool a0.CE,.bool a0.Cq,jI a0.Cr,jI a0.Cl,jI a0.Cy,jI a0.Ci,jI a0.Cp,jI a0.Ch,.slice A1 a0.Ce.length c2]) 0 Z Df C3 Z Z Z) Z ?_)))))))))
        obtain⟨x69,hx70,h⟩:=CM h
        refine Ax Z .u (.fn Tryz.call44 Z) (iw a0 _ _ _ hx70) (fun _ hs=>(AE hs hX)) Z (TL.run aa [2] Z Z ?_)
        rcases jF h with⟨c71,h⟩ | ⟨c71,h⟩
        ·refine TL.nil (X.seq (Ap Z (az c71) (T.skip (X.seq (T.seq (T.seq (T.region Z (TL.run aa [0] Z Z (TL.q Z .u (Ai 0 Z Dd Z Z) Z (TL.run aa [2] Z Z ?_))))))))))
         iterate 4 refine An Z (.gn Z Z c15) Z ?_
         refine TL.q Z .u (Ar Z c15 Z) Z (TL.nil (X.seq (Ap Z Z (T.skip (X.seq (T.seq (T.seq (T.region Z (TL.run aa [0] Z Z (TL.nil (X.seq (T.block ?_))))))))))))
         obtain⟨E74,hE75,hO76⟩:=CM h
         refine AV (fun m e Rs=> ∃ (y72:Int) (k73:Nat),e = [(1,jP b3),(2,jI y72),(3,jI (k73:Int))]∧Rs = [aC b3 27 #[jI a0.Cu,jI a0.Co,.bool a0.Cw,.bool a0.CE,.bool a0.Cq,jI a0.Cr,jI a0.Cl,jI a0.Cy,jI a0.Ci,jI a0.Cp,jI a0.Ch,.slice A1 a0.Ce.length c2],aB]∧dP a0 m y72 k73=some E74) (((a0.Ce.length:Int)).toNat+1) [0,0] ⟨0,0,Z,Z,by exact hE75⟩ (by rfl) (by rfl) ?_
         rintro m77 _ _ ⟨y72,k73,rfl,rfl,hl79⟩
         clear hE75 h
         cases m77 with
         | zero =>
          rw[dP] at hl79
          cases hl79
         | succ m77 =>
          have h:=hl79
          clear hl79
          rw[dP] at h
          refine T.seq (T.seq (T.region Z (TL.run aa [0,1] Z Z (TL.q Z .u (Ai 0 Z Ds Z Z) Z (TL.q Z .u (AA Z C9) Z (TL.run aa [4] Z Z ?_))))))
          rcases jF h with⟨c81,h⟩ | ⟨c81,h⟩
          ·refine TL.nil (X.seq (Am Z (CN c81) (T.skip (X.seq (T.seq (T.block (T.seq (T.region Z (TL.run aa [0] Z Z (TL.q Z .u (Ai 0 Z Ds Z Z) Z ?_))))))))))
           obtain⟨x82,hx83,h⟩:=CM h
           obtain⟨gz84,oz84,rfl,z84cs,z84cl,z84cc,z84nf,z84r⟩:=AK (by decide) hX hx83
           obtain⟨z84S,z84r,z84rr⟩:=z84r
           obtain⟨A85,c86,rfl,z84s0⟩:=z84r
           have hX87:(RX.of (av 3 bf) [.slice A85 x82.Cn.length c86] x82.Cn).reads w F:=⟨z84S,z84s0,z84rr⟩
           refine TL.run aa [2] Z Z ?_
           refine TL.q Z .u (Aw (k:=k73) Z Z Z C9 C4 (CU hx83).1) Z ?_
           refine TL.q Z .u (Bb (us := [jI x82.CC,jI x82.Cv,.bool x82.Cs.null,jS x82.Cs.data,.bool x82.Cg.null,jS x82.Cg.data,.slice A85 x82.Cn.length c86]) 0 Z Dr C4 z84nf z84cc Z Z Z) Z ?_
           obtain⟨x88,hx89,h⟩:=CM h
           refine Ax Z .u (.fn Tryz.call45 Z) (jZ x82 _ _ _ hx89) (fun _ hs=>(AE hs hX87)) Z (TL.run aa [6] Z Z (TL.nil (X.seq (T.seq (T.region Z (TL.run aa [0,1] Z Z ?_))))))
           rcases jF h with⟨c90,h⟩ | ⟨c90,h⟩
           ·refine TL.nil (X.seq (Ap Z (az (CN c90)) (T.skip (Az (X.seq (T.region Z ?_))))))
            replace h:=ak h
            obtain⟨c91,h⟩:=h
            exact TL.run aa [0] Z Z (TL.q Z .u (Ex.add Z Z c91) Z (TL.run aa [2] Z Z (TL.nil (X.back (m':=m77) [0,0] (by omega) ⟨y72,k73+1,Z,Z,h⟩ (by rfl) (by rfl)))))
           ·refine TL.nil (X.seq (Am Z (aD (CO c90)) (T.seq (T.region Z (TL.run aa [0,1] Z Z ?_)))))
            obtain rfl:=CP h
            replace h:=hO76
            clear hO76
            try dsimp only at h
            obtain rfl:=CP h
            exact TL.nil (X.seq (T.ret (At (Al (Al (At (Al (Ak [1] DW (Aj Z) ⟨Z,Z,Z⟩ (by rfl) (.inl Z)))))))))
          ·refine TL.nil (X.seq (Ap Z (CO c81) ?_))
           obtain rfl:=CP h
           replace h:=hO76
           clear hO76
           try dsimp only at h
           refine T.exit (Au (Au (AS (X.seq (T.seq (T.seq (T.region Z (TL.run aa [0] Z Z (TL.q Z .u (Ai 0 Z Dd Z Z) Z (TL.nil (X.seq (Ap Z c15 (T.skip (X.seq (T.seq (T.region Z (TL.q Z .u (Av (us := [jI a0.Cu,jI a0.Co,.bool a0.Cw,.bool a0.CE,.bool a0.Cq,jI a0.Cr,jI a0.Cl,jI a0.Cy,jI a0.Ci,jI a0.Cp,jI a0.Ch,.slice A1 a0.Ce.length c2]) 0 Z Df C3 Z Z Z) Z ?_)))))))))))))))))
           obtain⟨x92,hx93,h⟩:=CM h
           refine Ax Z .u (.fn Tryz.call47 Z) (ju a0 _ _ _ hx93) (fun _ hs=>(AE hs hX)) Z (TL.run aa [2] Z Z ?_)
           obtain rfl:=CP h
           exact TL.nil (X.seq (T.ret (Ak [1] DW (Aj Z) ⟨Z,Z,Z⟩ (by rfl) (.inl Z))))
        ·replace c71:=CX c71
         refine TL.nil (X.seq (Am Z (aD c71) (T.seq (T.region Z (TL.run aa [0] Z Z ?_)))))
         obtain rfl:=CP h
         exact TL.nil (X.seq (T.ret (Al (Ak [1] DW (Aj Z) ⟨Z,Z,Z⟩ (by rfl) (.inl Z)))))
   ·replace c10:=CX c10
    refine TL.run aa [15] Z Z ?_
    iterate 6 refine An Z (.gn Z Z (aD c10)) Z ?_
    refine TL.q Z .u (Aq Z (aD c10) Z) Z (TL.run aa [23] Z Z ?_)
    iterate 3 refine An Z (.gn Z Z Z) Z ?_
    refine TL.q Z .u (Aq Z Z Z) Z (TL.run aa [28] Z Z ?_)
    iterate 3 refine An Z (.gn Z Z Z) Z ?_
    refine TL.q Z .u (Aq Z Z Z) Z (TL.nil (X.seq (Am Z Z (T.seq (T.region Z (TL.run aa [0] Z Z ?_))))))
    obtain rfl:=CP h
    exact TL.nil (X.seq (T.ret (Al (Ak [1] DW (Aj Z) ⟨Z,Z,Z⟩ (by rfl) (.inl Z)))))
  ·replace c7:=CX c7
   refine TL.run aa [9] Z Z ?_
   iterate 4 refine An Z (.gn Z Z (aD c7)) Z ?_
   refine TL.q Z .u (Aq Z (aD c7) Z) Z (TL.run aa [15] Z Z ?_)
   iterate 6 refine An Z (.gn Z Z Z) Z ?_
   refine TL.q Z .u (Aq Z Z Z) Z (TL.run aa [23] Z Z ?_)
   iterate 3 refine An Z (.gn Z Z Z) Z ?_
   refine TL.q Z .u (Aq Z Z Z) Z (TL.run aa [28] Z Z ?_)
   iterate 3 refine An Z (.gn Z Z Z) Z ?_
   refine TL.q Z .u (Aq Z Z Z) Z (TL.nil (X.seq (Am Z Z (T.seq (T.region Z (TL.run aa [0] Z Z ?_))))))
   obtain rfl:=CP h
   exact TL.nil (X.seq (T.ret (Al (Ak [1] DW (Aj Z) ⟨Z,Z,Z⟩ (by rfl) (.inl Z)))))
def dC (a0:Bat) (a1:Bat):Nat→Bool→Nat→Option (Lp Bool (Bool×Nat))
 | 0,_,_=>none
 | m38+1,y33,k34=>if (k34:Int)<(a0.Ce.length:Int) then ((a0.Ce[k34]?).bind fun x43=>(a1.Ce[k34]?).bind fun x49=>(ja x43 x49).bind fun x55=>if x55=true then (if -9223372036854775808≤((k34:Int)+1)∧((k34:Int)+1)≤9223372036854775807 then (dC a0 a1 m38 y33 (k34+1)) else none) else some (Lp.ret false)) else (some (Lp.go (y33,k34)))
def jc (a0:Bat) (a1:Bat):Option (Bool):=(if a0.Cu=a1.Cu then (if a0.Co=a1.Co then (if (a0.Cw == a1.Cw)=true then (if (a0.CE == a1.CE)=true then (if (a0.Cq == a1.Cq)=true then (if a0.Cr=a1.Cr then (if a0.Cl=a1.Cl then (if a0.Cy=a1.Cy then (if a0.Ci=a1.Ci then (if a0.Cp=a1.Cp then (if a0.Ch=a1.Ch then (if (a0.Ce.length:Int)=(a1.Ce.length:Int) then some false else some true) else some true) else some true) else some true) else some true) else some true) else some true) else some true) else some true) else some true) else some true) else some true).bind fun y18=>if y18=true then some false else ((dC a0 a1 (((a0.Ce.length:Int)).toNat+1) false 0).bind fun e=>match e with | .ret r=>some r | .go (y59,k60)=>some true)
theorem pi (a0:Bat) (A1:Option Addr) (c2:Nat) (a1:Bat) (A3:Option Addr) (c4:Nat) (r:Bool) (h:jc a0 a1=some r):ay Tryz.prog 13 #[.agg #[jI a0.Cu,jI a0.Co,.bool a0.Cw,.bool a0.CE,.bool a0.Cq,jI a0.Cr,jI a0.Cl,jI a0.Cy,jI a0.Ci,jI a0.Cp,jI a0.Ch,.slice A1 a0.Ce.length c2],.agg #[jI a1.Cu,jI a1.Co,.bool a1.Cw,.bool a1.CE,.bool a1.Cq,jI a1.Cr,jI a1.Cl,jI a1.Cy,jI a1.Ci,jI a1.Cp,jI a1.Ch,.slice A3 a1.Ce.length c4]] (RX.and (RX.of (av 7 aU) [.slice A1 a0.Ce.length c2] a0.Ce) (RX.of (av 7 aU) [.slice A3 a1.Ce.length c4] a1.Ce)) (aB) (fun v A' N=>v= .bool r∧A'=aB∧N = []):=by
 refine aL Tryz.func13 Z Tryz.ntmps13 Z ?_
 intro F w hX
 unfold jc at h
 refine T.seq (T.region Z (TL.box Z .u Z Z (fun b5=>(TL.box Z .u Z Z (fun b6=>(TL.run aa [2] Z Z (TL.nil (X.seq (T.seq (T.seq ?_))))))))))
 obtain⟨y18,h,hk19⟩:=CM h
 refine Bg (fun e Rs=>e = [(2,jP b5),(3,jP b6),(4,.bool false),(89,.bool y18)]∧Rs = [aC b6 27 #[jI a1.Cu,jI a1.Co,.bool a1.Cw,.bool a1.CE,.bool a1.Cq,jI a1.Cr,jI a1.Cl,jI a1.Cy,jI a1.Ci,jI a1.Cp,jI a1.Ch,.slice A3 a1.Ce.length c4],aC b5 27 #[jI a0.Cu,jI a0.Co,.bool a0.Cw,.bool a0.CE,.bool a0.Cq,jI a0.Cr,jI a0.Cl,jI a0.Cy,jI a0.Ci,jI a0.Cp,jI a0.Ch,.slice A1 a0.Ce.length c2],aB]) ?_ ?_
 ·clear hk19
  refine T.region Z (TL.run aa [0] Z Z (TL.q Z .u (Ai 1 Z CV Z Z) Z (TL.run aa [2] Z Z (TL.q Z .u (Ai 0 Z CV Z Z) Z ?_))))
  rcases jF h with⟨c20,h⟩ | ⟨c20,h⟩
  ·refine TL.run aa [4,5] Z Z (TL.q Z (.g Z Z (az (CN c20))) (Ao aa Z) Z (TL.q Z (.g Z Z (az (CN c20))) (Ai 1 Z CV Z Z) Z (TL.q Z (.g Z Z (az (CN c20))) (Ao aa Z) Z (TL.q Z (.g Z Z (az (CN c20))) (Ai 0 Z CV Z Z) Z (TL.q Z (.g Z Z (az (CN c20))) (Ao aa Z) Z (TL.q Z .u (Ar Z (az (CN c20)) Z) Z ?_))))))
   rcases jF h with⟨c21,h⟩ | ⟨c21,h⟩
   ·refine TL.run aa [12] Z Z (TL.q Z (.g Z Z (az (CN c21))) (Ao aa Z) Z (TL.q Z (.g Z Z (az (CN c21))) (Ai 1 Z Dd Z Z) Z (TL.q Z (.g Z Z (az (CN c21))) (Ao aa Z) Z (TL.q Z (.g Z Z (az (CN c21))) (Ai 0 Z Dd Z Z) Z (TL.q Z (.g Z Z (az (CN c21))) (Ex.bNe Z Z Z Z EC) Z (TL.q Z .u (Ar Z (az (CN c21)) Z) Z ?_))))))
    rcases jF h with⟨c22,h⟩ | ⟨c22,h⟩
    ·refine TL.run aa [19] Z Z (TL.q Z (.g Z Z (az c22)) (Ao aa Z) Z (TL.q Z (.g Z Z (az c22)) (Ai 1 Z Dd Z Z) Z (TL.q Z (.g Z Z (az c22)) (Ao aa Z) Z (TL.q Z (.g Z Z (az c22)) (Ai 0 Z Dd Z Z) Z (TL.q Z (.g Z Z (az c22)) (Ex.bNe Z Z Z Z EC) Z (TL.q Z .u (Ar Z (az c22) Z) Z ?_))))))
     rcases jF h with⟨c23,h⟩ | ⟨c23,h⟩
     ·refine TL.run aa [26] Z Z (TL.q Z (.g Z Z (az c23)) (Ao aa Z) Z (TL.q Z (.g Z Z (az c23)) (Ai 1 Z Dd Z Z) Z (TL.q Z (.g Z Z (az c23)) (Ao aa Z) Z (TL.q Z (.g Z Z (az c23)) (Ai 0 Z Dd Z Z) Z (TL.q Z (.g Z Z (az c23)) (Ex.bNe Z Z Z Z EC) Z (TL.q Z .u (Ar Z (az c23) Z) Z ?_))))))
      rcases jF h with⟨c24,h⟩ | ⟨c24,h⟩
      ·refine TL.run aa [33] Z Z (TL.q Z (.g Z Z (az c24)) (Ao aa Z) Z (TL.q Z (.g Z Z (az c24)) (Ai 1 Z CV Z Z) Z (TL.q Z (.g Z Z (az c24)) (Ao aa Z) Z (TL.q Z (.g Z Z (az c24)) (Ai 0 Z CV Z Z) Z (TL.q Z (.g Z Z (az c24)) (Ao aa Z) Z (TL.q Z .u (Ar Z (az c24) Z) Z ?_))))))
       rcases jF h with⟨c25,h⟩ | ⟨c25,h⟩
       ·refine TL.run aa [40] Z Z (TL.q Z (.g Z Z (az (CN c25))) (Ao aa Z) Z (TL.q Z (.g Z Z (az (CN c25))) (Ai 1 Z CV Z Z) Z (TL.q Z (.g Z Z (az (CN c25))) (Ao aa Z) Z (TL.q Z (.g Z Z (az (CN c25))) (Ai 0 Z CV Z Z) Z (TL.q Z (.g Z Z (az (CN c25))) (Ao aa Z) Z (TL.q Z .u (Ar Z (az (CN c25)) Z) Z ?_))))))
        rcases jF h with⟨c26,h⟩ | ⟨c26,h⟩
        ·refine TL.run aa [47] Z Z (TL.q Z (.g Z Z (az (CN c26))) (Ao aa Z) Z (TL.q Z (.g Z Z (az (CN c26))) (Ai 1 Z CV Z Z) Z (TL.q Z (.g Z Z (az (CN c26))) (Ao aa Z) Z (TL.q Z (.g Z Z (az (CN c26))) (Ai 0 Z CV Z Z) Z (TL.q Z (.g Z Z (az (CN c26))) (Ao aa Z) Z (TL.q Z .u (Ar Z (az (CN c26)) Z) Z ?_))))))
         rcases jF h with⟨c27,h⟩ | ⟨c27,h⟩
         ·refine TL.run aa [54] Z Z (TL.q Z (.g Z Z (az (CN c27))) (Ao aa Z) Z (TL.q Z (.g Z Z (az (CN c27))) (Ai 1 Z CV Z Z) Z (TL.q Z (.g Z Z (az (CN c27))) (Ao aa Z) Z (TL.q Z (.g Z Z (az (CN c27))) (Ai 0 Z CV Z Z) Z (TL.q Z (.g Z Z (az (CN c27))) (Ao aa Z) Z (TL.q Z .u (Ar Z (az (CN c27)) Z) Z ?_))))))
          rcases jF h with⟨c28,h⟩ | ⟨c28,h⟩
          ·refine TL.run aa [61] Z Z (TL.q Z (.g Z Z (az (CN c28))) (Ao aa Z) Z (TL.q Z (.g Z Z (az (CN c28))) (Ai 1 Z CV Z Z) Z (TL.q Z (.g Z Z (az (CN c28))) (Ao aa Z) Z (TL.q Z (.g Z Z (az (CN c28))) (Ai 0 Z CV Z Z) Z (TL.q Z (.g Z Z (az (CN c28))) (Ao aa Z) Z (TL.q Z .u (Ar Z (az (CN c28)) Z) Z ?_))))))
           rcases jF h with⟨c29,h⟩ | ⟨c29,h⟩
           ·refine TL.run aa [68] Z Z (TL.q Z (.g Z Z (az (CN c29))) (Ao aa Z) Z (TL.q Z (.g Z Z (az (CN c29))) (Ai 1 Z CV Z Z) Z (TL.q Z (.g Z Z (az (CN c29))) (Ao aa Z) Z (TL.q Z (.g Z Z (az (CN c29))) (Ai 0 Z CV Z Z) Z (TL.q Z (.g Z Z (az (CN c29))) (Ao aa Z) Z (TL.q Z .u (Ar Z (az (CN c29)) Z) Z ?_))))))
            rcases jF h with⟨c30,h⟩ | ⟨c30,h⟩
            ·refine TL.run aa [75] Z Z (TL.q Z (.g Z Z (az (CN c30))) (Ao aa Z) Z (TL.q Z (.g Z Z (az (CN c30))) (Ai 1 Z Ds Z Z) Z (TL.q Z (.g Z Z (az (CN c30))) (AA Z C9) Z (TL.q Z (.g Z Z (az (CN c30))) (Ao aa Z) Z (TL.q Z (.g Z Z (az (CN c30))) (Ai 0 Z Ds Z Z) Z (TL.q Z (.g Z Z (az (CN c30))) (AA Z C9) Z (TL.q Z (.g Z Z (az (CN c30))) (Ao aa Z) Z ?_)))))))
             refine TL.q Z .u (Ar Z (az (CN c30)) Z) Z ?_
             rcases jF h with⟨c31,h⟩ | ⟨c31,h⟩
             ·cases h
              exact TL.nil (Bh (d:=89) (v':= .bool false) Z (congrArg Value.bool (az (CN c31))) (AB [0,0,0] ⟨Z,Z⟩ (by rfl) (by rfl)))
             ·cases h
              exact TL.nil (Bh (d:=89) (v':= .bool true) Z (congrArg Value.bool (aD (CO c31))) (AB [0,0,0] ⟨Z,Z⟩ (by rfl) (by rfl)))
            ·refine TL.run aa [75] Z Z ?_
             iterate 7 refine An Z (.gn Z Z (aD (CO c30))) Z ?_
             refine TL.q Z .u (Aq Z (aD (CO c30)) Z) Z ?_
             cases h
             exact TL.nil (AB [0,0,0] ⟨Z,Z⟩ (by rfl) (by rfl))
           ·refine TL.run aa [68] Z Z ?_
            iterate 5 refine An Z (.gn Z Z (aD (CO c29))) Z ?_
            refine TL.q Z .u (Aq Z (aD (CO c29)) Z) Z (TL.run aa [75] Z Z ?_)
            iterate 7 refine An Z (.gn Z Z Z) Z ?_
            refine TL.q Z .u (Aq Z Z Z) Z ?_
            cases h
            exact TL.nil (AB [0,0,0] ⟨Z,Z⟩ (by rfl) (by rfl))
          ·refine TL.run aa [61] Z Z ?_
           iterate 5 refine An Z (.gn Z Z (aD (CO c28))) Z ?_
           refine TL.q Z .u (Aq Z (aD (CO c28)) Z) Z (TL.run aa [68] Z Z ?_)
           iterate 5 refine An Z (.gn Z Z Z) Z ?_
           refine TL.q Z .u (Aq Z Z Z) Z (TL.run aa [75] Z Z ?_)
           iterate 7 refine An Z (.gn Z Z Z) Z ?_
           refine TL.q Z .u (Aq Z Z Z) Z ?_
           cases h
           exact TL.nil (AB [0,0,0] ⟨Z,Z⟩ (by rfl) (by rfl))
         ·refine TL.run aa [54] Z Z ?_
          iterate 5 refine An Z (.gn Z Z (aD (CO c27))) Z ?_
          refine TL.q Z .u (Aq Z (aD (CO c27)) Z) Z (TL.run aa [61] Z Z ?_)
          iterate 5 refine An Z (.gn Z Z Z) Z ?_
          refine TL.q Z .u (Aq Z Z Z) Z (TL.run aa [68] Z Z ?_)
          iterate 5 refine An Z (.gn Z Z Z) Z ?_
          refine TL.q Z .u (Aq Z Z Z) Z (TL.run aa [75] Z Z ?_)
          iterate 7 refine An Z (.gn Z Z Z) Z ?_
          refine TL.q Z .u (Aq Z Z Z) Z ?_
          cases h
          exact TL.nil (AB [0,0,0] ⟨Z,Z⟩ (by rfl) (by rfl))
        ·refine TL.run aa [47] Z Z ?_
         iterate 5 refine An Z (.gn Z Z (aD (CO c26))) Z ?_
         refine TL.q Z .u (Aq Z (aD (CO c26)) Z) Z (TL.run aa [54] Z Z ?_)
         iterate 5 refine An Z (.gn Z Z Z) Z ?_
         refine TL.q Z .u (Aq Z Z Z) Z (TL.run aa [61] Z Z ?_)
         iterate 5 refine An Z (.gn Z Z Z) Z ?_
         refine TL.q Z .u (Aq Z Z Z) Z (TL.run aa [68] Z Z ?_)
         iterate 5 refine An Z (.gn Z Z Z) Z ?_
         refine TL.q Z .u (Aq Z Z Z) Z (TL.run aa [75] Z Z ?_)
         iterate 7 refine An Z (.gn Z Z Z) Z ?_
         refine TL.q Z .u (Aq Z Z Z) Z ?_
         cases h
         exact TL.nil (AB [0,0,0] ⟨Z,Z⟩ (by rfl) (by rfl))
       ·refine TL.run aa [40] Z Z ?_
        iterate 5 refine An Z (.gn Z Z (aD (CO c25))) Z ?_
        refine TL.q Z .u (Aq Z (aD (CO c25)) Z) Z (TL.run aa [47] Z Z ?_)
        iterate 5 refine An Z (.gn Z Z Z) Z ?_
        refine TL.q Z .u (Aq Z Z Z) Z (TL.run aa [54] Z Z ?_)
        iterate 5 refine An Z (.gn Z Z Z) Z ?_
        refine TL.q Z .u (Aq Z Z Z) Z (TL.run aa [61] Z Z ?_)
        iterate 5 refine An Z (.gn Z Z Z) Z ?_
        refine TL.q Z .u (Aq Z Z Z) Z (TL.run aa [68] Z Z ?_)
        iterate 5 refine An Z (.gn Z Z Z) Z ?_
        refine TL.q Z .u (Aq Z Z Z) Z (TL.run aa [75] Z Z ?_)
        iterate 7 refine An Z (.gn Z Z Z) Z ?_
        refine TL.q Z .u (Aq Z Z Z) Z ?_
        cases h
        exact TL.nil (AB [0,0,0] ⟨Z,Z⟩ (by rfl) (by rfl))
      ·replace c24:=CX c24
       refine TL.run aa [33] Z Z ?_
       iterate 5 refine An Z (.gn Z Z (aD c24)) Z ?_
       refine TL.q Z .u (Aq Z (aD c24) Z) Z (TL.run aa [40] Z Z ?_)
       iterate 5 refine An Z (.gn Z Z Z) Z ?_
       refine TL.q Z .u (Aq Z Z Z) Z (TL.run aa [47] Z Z ?_)
       iterate 5 refine An Z (.gn Z Z Z) Z ?_
       refine TL.q Z .u (Aq Z Z Z) Z (TL.run aa [54] Z Z ?_)
       iterate 5 refine An Z (.gn Z Z Z) Z ?_
       refine TL.q Z .u (Aq Z Z Z) Z (TL.run aa [61] Z Z ?_)
       iterate 5 refine An Z (.gn Z Z Z) Z ?_
       refine TL.q Z .u (Aq Z Z Z) Z (TL.run aa [68] Z Z ?_)
       iterate 5 refine An Z (.gn Z Z Z) Z ?_
       refine TL.q Z .u (Aq Z Z Z) Z (TL.run aa [75] Z Z ?_)
       iterate 7 refine An Z (.gn Z Z Z) Z ?_
       refine TL.q Z .u (Aq Z Z Z) Z ?_
       cases h
       exact TL.nil (AB [0,0,0] ⟨Z,Z⟩ (by rfl) (by rfl))
     ·replace c23:=CX c23
      refine TL.run aa [26] Z Z ?_
      iterate 5 refine An Z (.gn Z Z (aD c23)) Z ?_
      refine TL.q Z .u (Aq Z (aD c23) Z) Z (TL.run aa [33] Z Z ?_)
      iterate 5 refine An Z (.gn Z Z Z) Z ?_
      refine TL.q Z .u (Aq Z Z Z) Z (TL.run aa [40] Z Z ?_)
      iterate 5 refine An Z (.gn Z Z Z) Z ?_
      refine TL.q Z .u (Aq Z Z Z) Z (TL.run aa [47] Z Z ?_)
      iterate 5 refine An Z (.gn Z Z Z) Z ?_
      refine TL.q Z .u (Aq Z Z Z) Z (TL.run aa [54] Z Z ?_)
      iterate 5 refine An Z (.gn Z Z Z) Z ?_
      refine TL.q Z .u (Aq Z Z Z) Z (TL.run aa [61] Z Z ?_)
      iterate 5 refine An Z (.gn Z Z Z) Z ?_
      refine TL.q Z .u (Aq Z Z Z) Z (TL.run aa [68] Z Z ?_)
      iterate 5 refine An Z (.gn Z Z Z) Z ?_
      refine TL.q Z .u (Aq Z Z Z) Z (TL.run aa [75] Z Z ?_)
      iterate 7 refine An Z (.gn Z Z Z) Z ?_
      refine TL.q Z .u (Aq Z Z Z) Z ?_
      cases h
      exact TL.nil (AB [0,0,0] ⟨Z,Z⟩ (by rfl) (by rfl))
    ·replace c22:=CX c22
     refine TL.run aa [19] Z Z ?_
     iterate 5 refine An Z (.gn Z Z (aD c22)) Z ?_
     refine TL.q Z .u (Aq Z (aD c22) Z) Z (TL.run aa [26] Z Z ?_)
     iterate 5 refine An Z (.gn Z Z Z) Z ?_
     refine TL.q Z .u (Aq Z Z Z) Z (TL.run aa [33] Z Z ?_)
     iterate 5 refine An Z (.gn Z Z Z) Z ?_
     refine TL.q Z .u (Aq Z Z Z) Z (TL.run aa [40] Z Z ?_)
     iterate 5 refine An Z (.gn Z Z Z) Z ?_
     refine TL.q Z .u (Aq Z Z Z) Z (TL.run aa [47] Z Z ?_)
     iterate 5 refine An Z (.gn Z Z Z) Z ?_
     refine TL.q Z .u (Aq Z Z Z) Z (TL.run aa [54] Z Z ?_)
     iterate 5 refine An Z (.gn Z Z Z) Z ?_
     refine TL.q Z .u (Aq Z Z Z) Z (TL.run aa [61] Z Z ?_)
     iterate 5 refine An Z (.gn Z Z Z) Z ?_
     refine TL.q Z .u (Aq Z Z Z) Z (TL.run aa [68] Z Z ?_)
     iterate 5 refine An Z (.gn Z Z Z) Z ?_
     refine TL.q Z .u (Aq Z Z Z) Z (TL.run aa [75] Z Z ?_)
     iterate 7 refine An Z (.gn Z Z Z) Z ?_
     refine TL.q Z .u (Aq Z Z Z) Z ?_
     cases h
     exact TL.nil (AB [0,0,0] ⟨Z,Z⟩ (by rfl) (by rfl))
   ·refine TL.run aa [12] Z Z ?_
    iterate 5 refine An Z (.gn Z Z (aD (CO c21))) Z ?_
    refine TL.q Z .u (Aq Z (aD (CO c21)) Z) Z (TL.run aa [19] Z Z ?_)
    iterate 5 refine An Z (.gn Z Z Z) Z ?_
    refine TL.q Z .u (Aq Z Z Z) Z (TL.run aa [26] Z Z ?_)
    iterate 5 refine An Z (.gn Z Z Z) Z ?_
    refine TL.q Z .u (Aq Z Z Z) Z (TL.run aa [33] Z Z ?_)
    iterate 5 refine An Z (.gn Z Z Z) Z ?_
    refine TL.q Z .u (Aq Z Z Z) Z (TL.run aa [40] Z Z ?_)
    iterate 5 refine An Z (.gn Z Z Z) Z ?_
    refine TL.q Z .u (Aq Z Z Z) Z (TL.run aa [47] Z Z ?_)
    iterate 5 refine An Z (.gn Z Z Z) Z ?_
    refine TL.q Z .u (Aq Z Z Z) Z (TL.run aa [54] Z Z ?_)
    iterate 5 refine An Z (.gn Z Z Z) Z ?_
    refine TL.q Z .u (Aq Z Z Z) Z (TL.run aa [61] Z Z ?_)
    iterate 5 refine An Z (.gn Z Z Z) Z ?_
    refine TL.q Z .u (Aq Z Z Z) Z (TL.run aa [68] Z Z ?_)
    iterate 5 refine An Z (.gn Z Z Z) Z ?_
    refine TL.q Z .u (Aq Z Z Z) Z (TL.run aa [75] Z Z ?_)
    iterate 7 refine An Z (.gn Z Z Z) Z ?_
    refine TL.q Z .u (Aq Z Z Z) Z ?_
    cases h
    exact TL.nil (AB [0,0,0] ⟨Z,Z⟩ (by rfl) (by rfl))
  ·refine TL.run aa [4,5] Z Z ?_
   iterate 5 refine An Z (.gn Z Z (aD (CO c20))) Z ?_
   refine TL.q Z .u (Aq Z (aD (CO c20)) Z) Z (TL.run aa [12] Z Z ?_)
   iterate 5 refine An Z (.gn Z Z Z) Z ?_
   refine TL.q Z .u (Aq Z Z Z) Z (TL.run aa [19] Z Z ?_)
   iterate 5 refine An Z (.gn Z Z Z) Z ?_
   refine TL.q Z .u (Aq Z Z Z) Z (TL.run aa [26] Z Z ?_)
   iterate 5 refine An Z (.gn Z Z Z) Z ?_
   refine TL.q Z .u (Aq Z Z Z) Z (TL.run aa [33] Z Z ?_)
   iterate 5 refine An Z (.gn Z Z Z) Z ?_
   refine TL.q Z .u (Aq Z Z Z) Z (TL.run aa [40] Z Z ?_)
   iterate 5 refine An Z (.gn Z Z Z) Z ?_
   refine TL.q Z .u (Aq Z Z Z) Z (TL.run aa [47] Z Z ?_)
   iterate 5 refine An Z (.gn Z Z Z) Z ?_
   refine TL.q Z .u (Aq Z Z Z) Z (TL.run aa [54] Z Z ?_)
   iterate 5 refine An Z (.gn Z Z Z) Z ?_
   refine TL.q Z .u (Aq Z Z Z) Z (TL.run aa [61] Z Z ?_)
   iterate 5 refine An Z (.gn Z Z Z) Z ?_
   refine TL.q Z .u (Aq Z Z Z) Z (TL.run aa [68] Z Z ?_)
   iterate 5 refine An Z (.gn Z Z Z) Z ?_
   refine TL.q Z .u (Aq Z Z Z) Z (TL.run aa [75] Z Z ?_)
   iterate 7 refine An Z (.gn Z Z Z) Z ?_
   refine TL.q Z .u (Aq Z Z Z) Z ?_
   cases h
   exact TL.nil (AB [0,0,0] ⟨Z,Z⟩ (by rfl) (by rfl))
 ·rintro _ _ ⟨rfl,rfl⟩
  clear h
  have h:=hk19
  clear hk19
  try dsimp only at h
  rcases jF h with⟨c32,h⟩ | ⟨c32,h⟩
  ·refine X.seq (Am Z c32 (T.seq (T.region Z (TL.run aa [0] Z Z ?_))))
   obtain rfl:=CP h
   exact TL.nil (X.seq (T.ret (Al (Ak [2] Tryz.results13 (Aj Z) ⟨Z,Z,Z⟩ (by rfl) (.inl Z)))))
  ·replace c32:=CX c32
   refine X.seq (Ap Z c32 (T.skip (X.seq (T.seq (T.seq (T.region Z (TL.run aa [0] Z Z (TL.nil (X.seq (T.block ?_))))))))))
   obtain⟨E35,hE36,hO37⟩:=CM h
   refine AV (fun m e Rs=> ∃ (y33:Bool) (k34:Nat),e = [(2,jP b5),(3,jP b6),(4,.bool y33),(5,jI (k34:Int))]∧Rs = [aC b6 27 #[jI a1.Cu,jI a1.Co,.bool a1.Cw,.bool a1.CE,.bool a1.Cq,jI a1.Cr,jI a1.Cl,jI a1.Cy,jI a1.Ci,jI a1.Cp,jI a1.Ch,.slice A3 a1.Ce.length c4],aC b5 27 #[jI a0.Cu,jI a0.Co,.bool a0.Cw,.bool a0.CE,.bool a0.Cq,jI a0.Cr,jI a0.Cl,jI a0.Cy,jI a0.Ci,jI a0.Cp,jI a0.Ch,.slice A1 a0.Ce.length c2],aB]∧dC a0 a1 m y33 k34=some E35) (((a0.Ce.length:Int)).toNat+1) [0,0,0] ⟨false,0,Z,Z,by exact hE36⟩ (by rfl) (by rfl) ?_
   rintro m38 _ _ ⟨y33,k34,rfl,rfl,hl40⟩
   clear hE36 h
   cases m38 with
   | zero =>
    rw[dC] at hl40
    cases hl40
   | succ m38 =>
    have h:=hl40
    clear hl40
    rw[dC] at h
    refine T.seq (T.seq (T.region Z (TL.run aa [0,1] Z Z (TL.q Z .u (Ai 1 Z Ds Z Z) Z (TL.q Z .u (AA Z C9) Z (TL.run aa [4] Z Z ?_))))))
    rcases jF h with⟨c42,h⟩ | ⟨c42,h⟩
    ·refine TL.nil (X.seq (Am Z (CN c42) ?_))
     refine T.skip (X.seq (T.seq (T.block (T.seq (AH (.q 0 (.q 1 (.q 2 (.q 3 (.q 4 (.q 5 (.q 6 (.q 7 (.q 8 (.q 9 (.e 10 (.q 11 .nil)))))))))))) [0,0,0] Z cR (NoP.seq (NoP.blk (NoP.seq (NoP.seq (NoP.blk (NoP.seq aM)))))) (by kernel_rfl) ?_)))))
     refine TD.run aa [0] Z Z (TD.q Z .u (Ai 1 Z Ds Z Z) Z ?_)
     obtain⟨x43,hx44,h⟩:=CM h
     obtain⟨gz45,oz45,rfl,z45cs,z45cl,z45cc,z45nf,z45r⟩:=AK (by decide) (BD hX) hx44
     obtain⟨z45S,z45r,z45rr⟩:=z45r
     obtain⟨A46,c47,rfl,z45s0⟩:=z45r
     have hX48:(RX.of (av 3 bf) [.slice A46 x43.Cn.length c47] x43.Cn).reads w F:=⟨z45S,z45s0,z45rr⟩
     refine TD.run aa [2] Z Z ?_
     refine TD.q Z .u (Aw (k:=k34) Z Z Z C9 C4 (CU hx44).1) Z ?_
     refine TD.q Z .u (Bb (us := [jI x43.CC,jI x43.Cv,.bool x43.Cs.null,jS x43.Cs.data,.bool x43.Cg.null,jS x43.Cg.data,.slice A46 x43.Cn.length c47]) 0 Z Dr C4 z45nf z45cc Z Z Z) Z (TD.run aa [5] Z Z (TD.q Z .u (Ai 0 Z Ds Z Z) Z ?_))
     obtain⟨x49,hx50,h⟩:=CM h
     obtain⟨gz51,oz51,rfl,z51cs,z51cl,z51cc,z51nf,z51r⟩:=AK (by decide) (Br hX) hx50
     obtain⟨z51S,z51r,z51rr⟩:=z51r
     obtain⟨A52,c53,rfl,z51s0⟩:=z51r
     have hX54:(RX.of (av 3 bf) [.slice A52 x49.Cn.length c53] x49.Cn).reads w F:=⟨z51S,z51s0,z51rr⟩
     refine TD.run aa [7] Z Z ?_
     refine TD.q Z .u (Aw (k:=k34) Z Z Z C9 C4 (CU hx50).1) Z ?_
     refine TD.q Z .u (Bb (us := [jI x49.CC,jI x49.Cv,.bool x49.Cs.null,jS x49.Cs.data,.bool x49.Cg.null,jS x49.Cg.data,.slice A52 x49.Cn.length c53]) 0 Z Dr C4 z51nf z51cc Z Z Z) Z ?_
     obtain⟨x55,hx56,h⟩:=CM h
     refine AR Z .u (.fn Tryz.call48 Z) (pf x43 _ _ x49 _ _ _ hx56) (fun _ hs=>(BB (AE hs hX48) (AE hs hX54))) Z [0,0,0] (Z) (TD.run aa [11] Z Z ?_)
     rcases jF h with⟨c57,h⟩ | ⟨c57,h⟩
     ·refine TD.nil (X.seq (Ap Z (az c57) (T.skip (Az (X.seq (T.region Z ?_))))))
      replace h:=ak h
      obtain⟨c58,h⟩:=h
      exact TL.run aa [0] Z Z (TL.q Z .u (Ex.add Z Z c58) Z (TL.run aa [2] Z Z (TL.nil (X.back (m':=m38) [0,0,0] (by omega) ⟨y33,k34+1,Z,Z,h⟩ (by rfl) (by rfl)))))
     ·replace c57:=CX c57
      refine TD.nil (X.seq (Am Z (aD c57) (T.seq (T.region Z (TL.run aa [0] Z Z ?_)))))
      obtain rfl:=CP h
      replace h:=hO37
      clear hO37
      try dsimp only at h
      obtain rfl:=CP h
      exact TL.nil (X.seq (T.ret (At (Al (Al (At (Al (Ak [2] Tryz.results13 (Aj Z) ⟨Z,Z,Z⟩ (by rfl) (.inl Z)))))))))
    ·refine TL.nil (X.seq (Ap Z (CO c42) ?_))
     obtain rfl:=CP h
     replace h:=hO37
     clear hO37
     try dsimp only at h
     refine T.exit (Au (Au (AS (X.seq (T.seq (T.region Z (TL.run aa [0] Z Z ?_)))))))
     obtain rfl:=CP h
     exact TL.nil (X.seq (T.ret (Ak [2] Tryz.results13 (Aj Z) ⟨Z,Z,Z⟩ (by rfl) (.inl Z))))
def dK (a0:Bat):Option (Int):=(if a0.Cw=true then ((some 8:Option (Int))) else ((some 0:Option (Int)))).bind fun y5=>(if a0.CE=true then (if -9223372036854775808≤(y5+16)∧(y5+16)≤9223372036854775807 then some (y5+16) else none) else some y5).bind fun y10=>(if a0.Cq=true then (if -9223372036854775808≤(y10+32)∧(y10+32)≤9223372036854775807 then some (y10+32) else none) else some y10).bind fun y16=>some y16
theorem gE (a0:Bat) (A1:Option Addr) (c2:Nat) (r:Int) (h:dK a0=some r):ay Tryz.prog 53 #[.agg #[jI a0.Cu,jI a0.Co,.bool a0.Cw,.bool a0.CE,.bool a0.Cq,jI a0.Cr,jI a0.Cl,jI a0.Cy,jI a0.Ci,jI a0.Cp,jI a0.Ch,.slice A1 a0.Ce.length c2]] (RX.of (av 7 aU) [.slice A1 a0.Ce.length c2] a0.Ce) (aB) (fun v A' N=>v=jI r∧A'=aB∧N = []):=by
 refine aL Tryz.func53 Z Tryz.ntmps53 Z ?_
 intro F w hX
 unfold dK at h
 refine T.seq (T.region Z (TL.box Z .u Z Z (fun b3=>(TL.run aa [1] Z Z (TL.nil (X.seq (T.seq (T.region Z (TL.run aa [0] Z Z (TL.nil (X.seq (T.seq (T.seq (T.region Z (TL.run aa [0] Z Z (TL.q Z .u (Ai 0 Z Dd Z Z) Z ?_))))))))))))))))
 refine TL.nil (X.seq ?_)
 obtain⟨y5,h,hk6⟩:=CM h
 refine Bg (fun e Rs=>e = [(1,jP b3),(2,jI 0),(3,jI y5)]∧Rs = [aC b3 27 #[jI a0.Cu,jI a0.Co,.bool a0.Cw,.bool a0.CE,.bool a0.Cq,jI a0.Cr,jI a0.Cl,jI a0.Cy,jI a0.Ci,jI a0.Cp,jI a0.Ch,.slice A1 a0.Ce.length c2],aB]) ?_ ?_
 ·clear hk6
  rcases jF h with⟨c7,h⟩ | ⟨c7,h⟩
  ·refine Am Z c7 (T.region Z (TL.run aa [0] Z Z (TL.q Z .u (Ex.add Z Z (by omega)) Z (TL.run aa [2] Z Z ?_))))
   cases h
   exact TL.nil (AB [0,0] ⟨Z,Z⟩ (by rfl) (by rfl))
  ·replace c7:=CX c7
   refine Ap Z c7 ?_
   cases h
   exact T.skip (AB [0,0] ⟨Z,Z⟩ (by rfl) (by rfl))
 ·rintro _ _ ⟨rfl,rfl⟩
  clear h
  have h:=hk6
  clear hk6
  try dsimp only at h
  refine X.seq (T.seq (T.seq (T.region Z (TL.run aa [0] Z Z (TL.q Z .u (Ai 0 Z Dd Z Z) Z (TL.nil (X.seq ?_)))))))
  obtain⟨y10,h,hk11⟩:=CM h
  refine Bg (fun e Rs=>e = [(1,jP b3),(2,jI 0),(3,jI y10)]∧Rs = [aC b3 27 #[jI a0.Cu,jI a0.Co,.bool a0.Cw,.bool a0.CE,.bool a0.Cq,jI a0.Cr,jI a0.Cl,jI a0.Cy,jI a0.Ci,jI a0.Cp,jI a0.Ch,.slice A1 a0.Ce.length c2],aB]) ?_ ?_
  ·clear hk11
   rcases jF h with⟨c12,h⟩ | ⟨c12,h⟩
   ·refine Am Z c12 (T.region Z ?_)
    replace h:=ak h
    obtain⟨c13,h⟩:=h
    refine TL.run aa [0] Z Z (TL.q Z .u (Ex.add Z Z c13) Z (TL.run aa [2] Z Z ?_))
    cases h
    exact TL.nil (AB [0,0] ⟨Z,Z⟩ (by rfl) (by rfl))
   ·replace c12:=CX c12
    refine Ap Z c12 ?_
    cases h
    exact T.skip (AB [0,0] ⟨Z,Z⟩ (by rfl) (by rfl))
  ·rintro _ _ ⟨rfl,rfl⟩
   clear h
   have h:=hk11
   clear hk11
   try dsimp only at h
   refine X.seq (T.seq (T.seq (T.region Z (TL.run aa [0] Z Z (TL.q Z .u (Ai 0 Z Dd Z Z) Z (TL.nil (X.seq ?_)))))))
   obtain⟨y16,h,hk17⟩:=CM h
   refine Bg (fun e Rs=>e = [(2,jI 0),(3,jI y16)]∧Rs = [aC b3 27 #[jI a0.Cu,jI a0.Co,.bool a0.Cw,.bool a0.CE,.bool a0.Cq,jI a0.Cr,jI a0.Cl,jI a0.Cy,jI a0.Ci,jI a0.Cp,jI a0.Ch,.slice A1 a0.Ce.length c2],aB]) ?_ ?_
   ·clear hk17
    rcases jF h with⟨c18,h⟩ | ⟨c18,h⟩
    ·refine Am Z c18 (T.region Z ?_)
     replace h:=ak h
     obtain⟨c19,h⟩:=h
     refine TL.run aa [0] Z Z (TL.q Z .u (Ex.add Z Z c19) Z (TL.run aa [2] Z Z ?_))
     cases h
     exact TL.nil (AB [0,0] ⟨Z,Z⟩ (by rfl) (by rfl))
    ·replace c18:=CX c18
     refine Ap Z c18 ?_
     cases h
     exact T.skip (AB [0,0] ⟨Z,Z⟩ (by rfl) (by rfl))
   ·rintro _ _ ⟨rfl,rfl⟩
    clear h
    have h:=hk17
    clear hk17
    try dsimp only at h
    refine X.seq (T.seq (T.region Z (TL.run aa [0,1] Z Z ?_)))
    obtain rfl:=CP h
    exact TL.nil (X.seq (T.ret (Ak [1] Tryz.results53 (Aj Z) ⟨Z,Z,Z⟩ (by rfl) (.inl Z))))
def cX (a0:Bat):Nat→List UInt8→Nat→Option (List UInt8×Nat)
 | 0,_,_=>none
 | m9+1,y4,k5=>if (k5:Int)<(a0.Ce.length:Int) then ((a0.Ce[k5]?).bind fun x14=>(g8 x14).bind fun x20=>if y4.length+x20.length≤9223372036854775807 then (if -9223372036854775808≤((k5:Int)+1)∧((k5:Int)+1)≤9223372036854775807 then (cX a0 m9 (y4++x20) (k5+1)) else none) else none) else some (y4,k5)
def gp (a0:Bat):Option (List UInt8):=(cX a0 (((a0.Ce.length:Int)).toNat+1) [] 0).bind fun (y44,k45)=>if -9223372036854775808≤(49+(y44.length:Int))∧(49+(y44.length:Int))≤9223372036854775807 then ((dK a0).bind fun x47=>(ey [a0.Cu,(49+(y44.length:Int)),a0.Co,0,x47,a0.Cr,a0.Cl,a0.Cy,a0.Ci,a0.Cp,a0.Ch,(a0.Ce.length:Int)]).bind fun (x50,x51)=>if 21≤x50.length then (if (x50.drop 21).length+y44.length≤9223372036854775807 then ((iK ((x50.drop 21)++y44)).bind fun x55=>if -9223372036854775808≤x55∧x55≤9223372036854775807 then (if -9223372036854775808≤(49+(y44.length:Int))∧(49+(y44.length:Int))≤9223372036854775807 then ((dK a0).bind fun x59=>(ey [a0.Cu,(49+(y44.length:Int)),a0.Co,x55,x59,a0.Cr,a0.Cl,a0.Cy,a0.Ci,a0.Cp,a0.Ch,(a0.Ce.length:Int)]).bind fun (x62,x63)=>if x62.length+y44.length≤9223372036854775807 then some (x62++y44) else none) else none) else none) else none) else none) else none
theorem nr (a0:Bat) (A1:Option Addr) (c2:Nat) (r:List UInt8) (h:gp a0=some r):ay Tryz.prog 16 #[.agg #[jI a0.Cu,jI a0.Co,.bool a0.Cw,.bool a0.CE,.bool a0.Cq,jI a0.Cr,jI a0.Cl,jI a0.Cy,jI a0.Ci,jI a0.Cp,jI a0.Ch,.slice A1 a0.Ce.length c2]] (RX.of (av 7 aU) [.slice A1 a0.Ce.length c2] a0.Ce) (aB) (fun v A' N=>v=jS r∧A'=aB∧N = []):=by
 refine aL Tryz.func16 Z Tryz.ntmps16 Z ?_
 intro F w hX
 unfold gp at h
 refine T.seq (T.region Z (TL.box Z .u Z Z (fun b3=>(TL.run aa [1] Z Z (TL.nil (X.seq (T.seq (T.region Z (TL.run aa [0] Z Z (TL.nil (X.seq (T.seq (T.seq (T.region Z (TL.run aa [0] Z Z (TL.nil (X.seq (T.block ?_))))))))))))))))))
 obtain⟨E6,hE7,hO8⟩:=CM h
 refine AV (fun m e Rs=> ∃ (y4:List UInt8) (k5:Nat),e = [(1,jP b3),(2,.string ⟨#[]⟩),(3,jS y4),(4,jI (k5:Int))]∧Rs = [aC b3 27 #[jI a0.Cu,jI a0.Co,.bool a0.Cw,.bool a0.CE,.bool a0.Cq,jI a0.Cr,jI a0.Cl,jI a0.Cy,jI a0.Ci,jI a0.Cp,jI a0.Ch,.slice A1 a0.Ce.length c2],aB]∧cX a0 m y4 k5=some E6) (((a0.Ce.length:Int)).toNat+1) [0,0] ⟨[],0,Z,Z,by exact hE7⟩ (by rfl) (by rfl) ?_
 rintro m9 _ _ ⟨y4,k5,rfl,rfl,hl11⟩
 clear hE7 h
 cases m9 with
 | zero =>
  rw[cX] at hl11
  cases hl11
 | succ m9 =>
  have h:=hl11
  clear hl11
  rw[cX] at h
  refine T.seq (T.seq (T.region Z (TL.run aa [0,1] Z Z (TL.q Z .u (Ai 0 Z Ds Z Z) Z (TL.q Z .u (AA Z C9) Z (TL.run aa [4] Z Z ?_))))))
  rcases jF h with⟨c13,h⟩ | ⟨c13,h⟩
  ·refine TL.nil (X.seq (Am Z (CN c13) (T.skip (X.seq (T.seq (T.block (T.region Z (TL.run aa [0,1] Z Z (TL.q Z .u (Ai 0 Z Ds Z Z) Z ?_)))))))))
   obtain⟨x14,hx15,h⟩:=CM h
   obtain⟨gz16,oz16,rfl,z16cs,z16cl,z16cc,z16nf,z16r⟩:=AK (by decide) hX hx15
   obtain⟨z16S,z16r,z16rr⟩:=z16r
   obtain⟨A17,c18,rfl,z16s0⟩:=z16r
   have hX19:(RX.of (av 3 bf) [.slice A17 x14.Cn.length c18] x14.Cn).reads w F:=⟨z16S,z16s0,z16rr⟩
   refine TL.run aa [3] Z Z ?_
   refine TL.q Z .u (Aw (k:=k5) Z Z Z C9 C4 (CU hx15).1) Z ?_
   refine TL.q Z .u (Bb (us := [jI x14.CC,jI x14.Cv,.bool x14.Cs.null,jS x14.Cs.data,.bool x14.Cg.null,jS x14.Cg.data,.slice A17 x14.Cn.length c18]) 0 Z Dr C4 z16nf z16cc Z Z Z) Z ?_
   obtain⟨x20,hx21,h⟩:=CM h
   refine Ax Z .u (.fn Tryz.call51 Z) (nV x14 _ _ _ hx21) (fun _ hs=>(AE hs hX19)) Z ?_
   replace h:=ak h
   obtain⟨c22,h⟩:=h
   refine TL.q Z .u (AM Z Z c22) Z (TL.run aa [8] Z Z (TL.nil (Az (X.seq (T.region Z ?_)))))
   replace h:=ak h
   obtain⟨c23,h⟩:=h
   exact TL.run aa [0] Z Z (TL.q Z .u (Ex.add Z Z c23) Z (TL.run aa [2] Z Z (TL.nil (X.back (m':=m9) [0,0] (by omega) ⟨(y4++x20),k5+1,Z,Z,h⟩ (by rfl) (by rfl)))))
  ·refine TL.nil (X.seq (Ap Z (CO c13) ?_))
   obtain rfl:=CP h
   replace h:=hO8
   clear hO8
   try dsimp only at h
   refine T.exit (Au (Au (AS (X.seq (T.seq (AH (.q 0 (.q 1 (.q 2 (.q 3 (.q 4 (.q 5 (.q 6 (.q 7 (.q 9 (.q 10 (.q 11 (.q 12 (.q 13 (.q 14 (.q 15 (.q 16 (.q 17 (.q 18 (.q 19 (.q 20 (.q 21 (.q 22 (.q 23 (.e 8 (.e 24 (.e 25 (.q 26 (.q 27 (.q 28 (.q 29 (.q 30 .nil))))))))))))))))))))))))))))))) [0,0] Z cR (NoP.seq aM) (by kernel_rfl) ?_))))))
   refine TD.run aa [0] Z Z (TD.q Z .u (Ai 0 Z CV Z Z) Z (TD.run aa [2] Z Z (TD.q Z .u (AW Z CZ) Z ?_)))
   replace h:=ak h
   obtain⟨c24,h⟩:=h
   refine TD.q Z .u (Ex.add Z Z c24) Z (TD.run aa [5] Z Z (TD.q Z .u (Ai 0 Z CV Z Z) Z (TD.q Z .u (Av (us := [jI a0.Cu,jI a0.Co,.bool a0.Cw,.bool a0.CE,.bool a0.Cq,jI a0.Cr,jI a0.Cl,jI a0.Cy,jI a0.Ci,jI a0.Cp,jI a0.Ch,.slice A1 a0.Ce.length c2]) 0 Z Df C3 Z Z Z) Z (TD.run aa [9] Z Z (TD.q Z .u (Ai 0 Z CV Z Z) Z (TD.run aa [11] Z Z (TD.q Z .u (Ai 0 Z CV Z Z) Z ?_)))))))
   refine TD.run aa [13] Z Z (TD.q Z .u (Ai 0 Z CV Z Z) Z (TD.run aa [15] Z Z (TD.q Z .u (Ai 0 Z CV Z Z) Z (TD.run aa [17] Z Z (TD.q Z .u (Ai 0 Z CV Z Z) Z (TD.run aa [19] Z Z (TD.q Z .u (Ai 0 Z CV Z Z) Z ?_)))))))
   refine TD.run aa [21] Z Z (TD.q Z .u (Ai 0 Z Ds Z Z) Z (TD.q Z .u (AA Z C9) Z ?_))
   obtain⟨x25,hx26,h⟩:=CM h
   refine AR Z .u (.fn Tryz.call53 Z) (gE a0 _ _ _ hx26) (fun _ hs=>(AE hs hX)) Z [0,0] (Z) ?_
   refine Bx (cells:= #[jI a0.Cu,jI (49+(y4.length:Int)),jI a0.Co,jI 0,jI x25,jI a0.Cr,jI a0.Cl,jI a0.Cy,jI a0.Ci,jI a0.Cp,jI a0.Ch,jI (a0.Ce.length:Int)]) Z .u fJ Z (by kernel_rfl) Z [1,1] (fun _=>Z) (fun b27=> ?_)
   refine BW (us := [jI a0.Cu,jI (49+(y4.length:Int)),jI a0.Co,jI 0,jI x25,jI a0.Cr,jI a0.Cl,jI a0.Cy,jI a0.Ci,jI a0.Cp,jI a0.Ch,jI (a0.Ce.length:Int)]) (xs := [a0.Cu,(49+(y4.length:Int)),a0.Co,0,x25,a0.Cr,a0.Cl,a0.Cy,a0.Ci,a0.Cp,a0.Ch,(a0.Ce.length:Int)]) (E:=bP) (z:=1) Z (Nat.le_of_ble_eq_true Z) (fun _=>⟨Z,Z,⟨Z,Z,⟨Z,Z,⟨Z,Z,⟨Z,Z,⟨Z,Z,⟨Z,Z,⟨Z,Z,⟨Z,Z,⟨Z,Z,⟨Z,Z,⟨Z,Z,Z⟩⟩⟩⟩⟩⟩⟩⟩⟩⟩⟩⟩) ?_
   obtain⟨⟨x28,x29⟩,hx30,h⟩:=CM h
   try dsimp only at h
   refine AR Z .u (.fn Tryz.call52 Z) (j8 [a0.Cu,(49+(y4.length:Int)),a0.Co,0,x25,a0.Cr,a0.Cl,a0.Cy,a0.Ci,a0.Cp,a0.Ch,(a0.Ce.length:Int)] _ _ _ hx30) (fun _ hs=>(SrcE.res 0 hs Z (fun w G h=>aP (by decide) w G h))) Z [1,1] (Z) (TD.run aa [26,27,28,29,30] Z Z (TD.nil (X.seq (T.seq (T.region Z ?_)))))
   replace h:=ak h
   obtain⟨c31,h⟩:=h
   refine TL.run aa [0] Z Z ?_
   replace c31:21≤x28.length:=c31
   refine TL.q Z .u (Ba (p:=21) (q:=x28.length) (m:=(x28.drop 21)) Z CZ (.some Z Z) .none (by first | omega | (dsimp only; omega)) (dY _ _)) Z ?_
   replace h:=ak h
   obtain⟨c32,h⟩:=h
   refine TL.run aa [2] Z Z (TL.q Z .u (AM Z Z c32) Z ?_)
   obtain⟨x33,hx34,h⟩:=CM h
   refine Ax Z .u (.fn Tryz.call54 Z) (lG ((x28.drop 21)++y4) _ hx34) (fun _ hs=>(RX.reads_triv _ _)) Z ?_
   replace h:=ak h
   obtain⟨c35,h⟩:=h
   refine TL.q Z .u (Bz Z DS DU c35) Z (TL.run aa [6] Z Z ?_)
   refine TL.nil (X.seq (T.seq (AH (.q 0 (.q 1 (.q 2 (.q 3 (.q 4 (.q 5 (.q 6 (.q 7 (.q 8 (.q 10 (.q 11 (.q 12 (.q 13 (.q 14 (.q 15 (.q 16 (.q 17 (.q 18 (.q 19 (.q 20 (.q 21 (.q 22 (.q 23 (.q 24 (.e 9 (.e 25 (.e 26 (.q 27 (.q 28 (.q 29 (.q 30 (.q 31 .nil)))))))))))))))))))))))))))))))) [0,0,0] Z cR (NoP.seq aM) (by kernel_rfl) ?_)))
   refine TD.run aa [0] Z Z (TD.q Z .u (Ai 1 Z CV Z Z) Z (TD.run aa [2] Z Z (TD.q Z .u (AW Z CZ) Z ?_)))
   replace h:=ak h
   obtain⟨c36,h⟩:=h
   refine TD.q Z .u (Ex.add Z Z c36) Z (TD.run aa [5] Z Z (TD.q Z .u (Ai 1 Z CV Z Z) Z (TD.run aa [7] Z Z (TD.q Z .u (Av (us := [jI a0.Cu,jI a0.Co,.bool a0.Cw,.bool a0.CE,.bool a0.Cq,jI a0.Cr,jI a0.Cl,jI a0.Cy,jI a0.Ci,jI a0.Cp,jI a0.Ch,.slice A1 a0.Ce.length c2]) 1 Z Df C3 Z Z Z) Z (TD.run aa [10] Z Z (TD.q Z .u (Ai 1 Z CV Z Z) Z (TD.run aa [12] Z Z ?_)))))))
   refine TD.q Z .u (Ai 1 Z CV Z Z) Z (TD.run aa [14] Z Z (TD.q Z .u (Ai 1 Z CV Z Z) Z (TD.run aa [16] Z Z (TD.q Z .u (Ai 1 Z CV Z Z) Z (TD.run aa [18] Z Z (TD.q Z .u (Ai 1 Z CV Z Z) Z (TD.run aa [20] Z Z ?_)))))))
   refine TD.q Z .u (Ai 1 Z CV Z Z) Z (TD.run aa [22] Z Z (TD.q Z .u (Ai 1 Z Ds Z Z) Z (TD.q Z .u (AA Z C9) Z ?_)))
   obtain⟨x37,hx38,h⟩:=CM h
   refine AR Z .u (.fn Tryz.call53 Z) (gE a0 _ _ _ hx38) (fun _ hs=>(AE hs hX)) Z [0,0,0] (Z) ?_
   refine Bx (cells:= #[jI a0.Cu,jI (49+(y4.length:Int)),jI a0.Co,jI x33,jI x37,jI a0.Cr,jI a0.Cl,jI a0.Cy,jI a0.Ci,jI a0.Cp,jI a0.Ch,jI (a0.Ce.length:Int)]) Z .u fJ Z (by kernel_rfl) Z [1,1,1] (fun _=>Z) (fun b39=> ?_)
   refine BW (us := [jI a0.Cu,jI (49+(y4.length:Int)),jI a0.Co,jI x33,jI x37,jI a0.Cr,jI a0.Cl,jI a0.Cy,jI a0.Ci,jI a0.Cp,jI a0.Ch,jI (a0.Ce.length:Int)]) (xs := [a0.Cu,(49+(y4.length:Int)),a0.Co,x33,x37,a0.Cr,a0.Cl,a0.Cy,a0.Ci,a0.Cp,a0.Ch,(a0.Ce.length:Int)]) (E:=bP) (z:=1) Z (Nat.le_of_ble_eq_true Z) (fun _=>⟨Z,Z,⟨Z,Z,⟨Z,Z,⟨Z,Z,⟨Z,Z,⟨Z,Z,⟨Z,Z,⟨Z,Z,⟨Z,Z,⟨Z,Z,⟨Z,Z,⟨Z,Z,Z⟩⟩⟩⟩⟩⟩⟩⟩⟩⟩⟩⟩) ?_
   obtain⟨⟨x40,x41⟩,hx42,h⟩:=CM h
   try dsimp only at h
   refine AR Z .u (.fn Tryz.call52 Z) (j8 [a0.Cu,(49+(y4.length:Int)),a0.Co,x33,x37,a0.Cr,a0.Cl,a0.Cy,a0.Ci,a0.Cp,a0.Ch,(a0.Ce.length:Int)] _ _ _ hx42) (fun _ hs=>(SrcE.res 0 hs Z (fun w G h=>aP (by decide) w G h))) Z [1,1,1] (Z) (TD.run aa [27,28,29,30,31] Z Z (TD.nil (X.seq (T.seq (T.region Z ?_)))))
   replace h:=ak h
   obtain⟨c43,h⟩:=h
   refine TL.run aa [0,1] Z Z (TL.q Z .u (AM Z Z c43) Z (TL.run aa [3] Z Z ?_))
   obtain rfl:=CP h
   exact TL.nil (X.seq (T.ret (Ak [3] Tryz.results16 (Aj Z) ⟨Z,Z,Z⟩ (by rfl) (.inl Z))))
def bv (a0:Int):Option (ge):=some (⟨(⟨0,0,false,false,false,0,0,0,0,0,0,[]⟩:Bat),0,a0⟩:ge)
theorem aQ (a0:Int) (r:ge) (h:bv a0=some r):ay Tryz.prog 151 #[jI a0] .triv (aB) (fun v A' N=> ∃ (A2:Option Addr) (c3:Nat),v= .agg #[jI r.Cf.Cu,jI r.Cf.Co,.bool r.Cf.Cw,.bool r.Cf.CE,.bool r.Cf.Cq,jI r.Cf.Cr,jI r.Cf.Cl,jI r.Cf.Cy,jI r.Cf.Ci,jI r.Cf.Cp,jI r.Cf.Ch,.slice A2 r.Cf.Ce.length c3,jI r.CH,jI r.CI]∧A'=aB∧N = [RdR (av 7 aU) [.slice A2 r.Cf.Ce.length c3] r.Cf.Ce]):=by
 refine aL Tryz.func151 Z Tryz.ntmps151 Z ?_
 intro F w hX
 unfold bv at h
 refine T.seq (T.region Z (TL.alloc Z .u Tryz.zeroValue181 Z (fun b1=>(TL.nil (X.seq (T.seq (T.region Z (TL.run aa [0] Z Z ?_))))))))
 refine TL.q Z .u (AD (cells:= #[jI 0,jI 0,.bool false,.bool false,.bool false,jI 0,jI 0,jI 0,jI 0,jI 0,jI 0,.slice none 0 0,jI 0,jI a0]) bc Z (by kernel_rfl)) Z ?_
 refine Ay (cs':= #[jI 0,jI 0,.bool false,.bool false,.bool false,jI 0,jI 0,jI 0,jI 0,jI 0,jI 0,.slice none 0 0,jI 0,jI a0]) Z .u Z Z C8 Z Z Z Z ?_
 obtain rfl:=CP h
 exact TL.nil (X.seq (T.ret (AO 7 aU (Ak [2,0] Tryz.results151 (AF (us:= #[jI 0,jI 0,.bool false,.bool false,.bool false,jI 0,jI 0,jI 0,jI 0,jI 0,jI 0,.slice none 0 0,jI 0,jI a0]) 1 Z DC C8 Z Z) ⟨_,_,Z,Z,Z⟩ (by rfl) (.inl Z)))))
def db (x2:List Int):Nat→List UInt8→Nat→List Rec→Option (Lp ge (List UInt8×Nat×List Rec))
 | 0,_,_,_=>none
 | m89+1,y81,k82,y83=>(x2[11]?).bind fun x93=>if (k82:Int)<x93 then (if y81 = [] then ((bv 10).bind fun x98=>some (Lp.ret x98)) else ((gK y81).bind fun x102=>if x102.CI=0 then (if (y83.length+1)*88≤140737488355328 then (if 0≤x102.CH∧x102.CH.toNat≤y81.length then (if -9223372036854775808≤((k82:Int)+1)∧((k82:Int)+1)≤9223372036854775807 then (db x2 m89 (y81.drop x102.CH.toNat) (k82+1) (y83 ++ [x102.Ck])) else none) else none) else none) else ((bv x102.CI).bind fun x114=>some (Lp.ret x114)))) else (some (Lp.go (y81,k82,y83)))
def fT (a0:List UInt8):Option (ge):=(eK a0).bind fun (x2,x5)=>if x5=0 then ((x2[1]?).bind fun x8=>if -9223372036854775808≤(x8+12)∧(x8+12)≤9223372036854775807 then (if (x8+12)>(a0.length:Int) then ((bv 1).bind fun x13=>some x13) else ((x2[3]?).bind fun x17=>if 0≤(x8+12)∧21≤(x8+12).toNat∧(x8+12).toNat≤a0.length then ((iK ((a0.drop 21).take (((x8+12).toNat) - 21))).bind fun x21=>if -9223372036854775808≤x21∧x21≤9223372036854775807 then (if x21=x17 then ((x2[4]?).bind fun x25=>(eX x25 2).bind fun x28=>(x28[1]?).bind fun ch30=>if 0≤(ch30.toNat:Int) then (if ((ch30.toNat:Int) % 8)=0 then ((if x25<0 then some true else (if x25>63 then some true else (if x25≥32 then (if 0≤x25∧x25≤9223372036854775807 then (if (x25 % 32)<16 then some true else some false) else none) else some false))).bind fun y38=>if y38=true then ((bv 8).bind fun x46=>some x46) else ((x2[0]?).bind fun x50=>(x2[2]?).bind fun x53=>(x2[5]?).bind fun x56=>(x2[6]?).bind fun x59=>(x2[7]?).bind fun x62=>(x2[8]?).bind fun x65=>(x2[9]?).bind fun x68=>(x2[10]?).bind fun x71=>if 0≤x25∧x25≤9223372036854775807 then (if 0≤(x25 / 8)∧(x25 / 8)≤9223372036854775807 then (if 0≤x25∧x25≤9223372036854775807 then (if 0≤(x25 / 16)∧(x25 / 16)≤9223372036854775807 then (if 0≤x25∧x25≤9223372036854775807 then (if 0≤(x8+12)∧61≤(x8+12).toNat∧(x8+12).toNat≤a0.length then ((db x2 (((x2[11]?).map (fun x81=>(x81).toNat+1)).getD 0) ((a0.drop 61).take (((x8+12).toNat) - 61)) 0 []).bind fun e=>match e with | .ret r=>some r | .go (y186,k187,y188)=>(if y186 = [] then (if ((x25 / 8) % 2)=1 then (if ((x25 / 16) % 2)=1 then (if (x25 / 32)=1 then ((bR (⟨x50,x53,decide (((x25 / 8) % 2)=1),decide (((x25 / 16) % 2)=1),decide ((x25 / 32)=1),x56,x59,x62,x65,x68,x71,y188⟩:Bat)).bind fun x195=>if x195=0 then (some (⟨(⟨x50,x53,decide (((x25 / 8) % 2)=1),decide (((x25 / 16) % 2)=1),decide ((x25 / 32)=1),x56,x59,x62,x65,x68,x71,y188⟩:Bat),(x8+12),0⟩:ge)) else ((bv x195).bind fun x198=>some x198)) else ((bR (⟨x50,x53,decide (((x25 / 8) % 2)=1),decide (((x25 / 16) % 2)=1),decide ((x25 / 32)=1),x56,x59,x62,x65,x68,x71,y188⟩:Bat)).bind fun x202=>if x202=0 then (some (⟨(⟨x50,x53,decide (((x25 / 8) % 2)=1),decide (((x25 / 16) % 2)=1),decide ((x25 / 32)=1),x56,x59,x62,x65,x68,x71,y188⟩:Bat),(x8+12),0⟩:ge)) else ((bv x202).bind fun x205=>some x205))) else (if (x25 / 32)=1 then ((bR (⟨x50,x53,decide (((x25 / 8) % 2)=1),decide (((x25 / 16) % 2)=1),decide ((x25 / 32)=1),x56,x59,x62,x65,x68,x71,y188⟩:Bat)).bind fun x210=>if x210=0 then (some (⟨(⟨x50,x53,decide (((x25 / 8) % 2)=1),decide (((x25 / 16) % 2)=1),decide ((x25 / 32)=1),x56,x59,x62,x65,x68,x71,y188⟩:Bat),(x8+12),0⟩:ge)) else ((bv x210).bind fun x213=>some x213)) else ((bR (⟨x50,x53,decide (((x25 / 8) % 2)=1),decide (((x25 / 16) % 2)=1),decide ((x25 / 32)=1),x56,x59,x62,x65,x68,x71,y188⟩:Bat)).bind fun x217=>if x217=0 then (some (⟨(⟨x50,x53,decide (((x25 / 8) % 2)=1),decide (((x25 / 16) % 2)=1),decide ((x25 / 32)=1),x56,x59,x62,x65,x68,x71,y188⟩:Bat),(x8+12),0⟩:ge)) else ((bv x217).bind fun x220=>some x220)))) else (if ((x25 / 16) % 2)=1 then (if (x25 / 32)=1 then ((bR (⟨x50,x53,decide (((x25 / 8) % 2)=1),decide (((x25 / 16) % 2)=1),decide ((x25 / 32)=1),x56,x59,x62,x65,x68,x71,y188⟩:Bat)).bind fun x226=>if x226=0 then (some (⟨(⟨x50,x53,decide (((x25 / 8) % 2)=1),decide (((x25 / 16) % 2)=1),decide ((x25 / 32)=1),x56,x59,x62,x65,x68,x71,y188⟩:Bat),(x8+12),0⟩:ge)) else ((bv x226).bind fun x229=>some x229)) else ((bR (⟨x50,x53,decide (((x25 / 8) % 2)=1),decide (((x25 / 16) % 2)=1),decide ((x25 / 32)=1),x56,x59,x62,x65,x68,x71,y188⟩:Bat)).bind fun x233=>if x233=0 then (some (⟨(⟨x50,x53,decide (((x25 / 8) % 2)=1),decide (((x25 / 16) % 2)=1),decide ((x25 / 32)=1),x56,x59,x62,x65,x68,x71,y188⟩:Bat),(x8+12),0⟩:ge)) else ((bv x233).bind fun x236=>some x236))) else (if (x25 / 32)=1 then ((bR (⟨x50,x53,decide (((x25 / 8) % 2)=1),decide (((x25 / 16) % 2)=1),decide ((x25 / 32)=1),x56,x59,x62,x65,x68,x71,y188⟩:Bat)).bind fun x241=>if x241=0 then (some (⟨(⟨x50,x53,decide (((x25 / 8) % 2)=1),decide (((x25 / 16) % 2)=1),decide ((x25 / 32)=1),x56,x59,x62,x65,x68,x71,y188⟩:Bat),(x8+12),0⟩:ge)) else ((bv x241).bind fun x244=>some x244)) else ((bR (⟨x50,x53,decide (((x25 / 8) % 2)=1),decide (((x25 / 16) % 2)=1),decide ((x25 / 32)=1),x56,x59,x62,x65,x68,x71,y188⟩:Bat)).bind fun x248=>if x248=0 then (some (⟨(⟨x50,x53,decide (((x25 / 8) % 2)=1),decide (((x25 / 16) % 2)=1),decide ((x25 / 32)=1),x56,x59,x62,x65,x68,x71,y188⟩:Bat),(x8+12),0⟩:ge)) else ((bv x248).bind fun x251=>some x251))))) else ((bv 10).bind fun x255=>some x255))) else none) else none) else none) else none) else none) else none)) else ((bv 9).bind fun x259=>some x259)) else none) else ((bv 5).bind fun x263=>some x263)) else none) else none)) else none) else ((bv x5).bind fun x267=>some x267)
theorem pj (a0:List UInt8) (r:ge) (h:fT a0=some r):ay Tryz.prog 122 #[jS a0] .triv (aB) (fun v A' N=> ∃ (A271:Option Addr) (c272:Nat),v= .agg #[jI r.Cf.Cu,jI r.Cf.Co,.bool r.Cf.Cw,.bool r.Cf.CE,.bool r.Cf.Cq,jI r.Cf.Cr,jI r.Cf.Cl,jI r.Cf.Cy,jI r.Cf.Ci,jI r.Cf.Cp,jI r.Cf.Ch,.slice A271 r.Cf.Ce.length c272,jI r.CH,jI r.CI]∧A'=aB∧N = [RdR (av 7 aU) [.slice A271 r.Cf.Ce.length c272] r.Cf.Ce]):=by
 refine aL Tryz.func122 Z Tryz.ntmps122 Z ?_
 intro F w hX
 unfold fT at h
 refine T.seq (T.region Z (TL.alloc Z .u Tryz.zeroValue181 Z (fun b1=>(TL.nil (X.seq (T.seq (T.region Z ?_)))))))
 obtain⟨⟨x2,x5⟩,hx6,h⟩:=CM h
 try dsimp only at h
 refine TL.run aa [0] Z Z (AP Z .u (.fn Tryz.call150 Z) (nq a0 _ hx6) (fun _ hs=>(RX.reads_triv _ _)) Z ?_)
 rintro _ _ _ ⟨A3,c4,rfl,rfl,rfl⟩
 refine AC [0,0,0] Z (TL.run aa [2,3,4,5,6] Z Z (TL.nil (X.seq (T.seq (T.seq (T.region Z (TL.run aa [0,1] Z Z ?_)))))))
 rcases jF h with⟨c7,h⟩ | ⟨c7,h⟩
 ·refine TL.nil (X.seq (Ap Z (az (CN c7)) (T.skip (X.seq (T.seq (T.region Z ?_))))))
  obtain⟨x8,hx9,h⟩:=CM h
  refine TL.run aa [0] Z Z (BF (E:=bP) (k:=1) 0 Z (fun w G h=>dL w G h) (by decide) hx9 ?_)
  rintro gz10 oz10 z10cs hA z10cl ⟨_,_,z10r⟩
  cases hA
  obtain rfl:z10cs = [jI x8]:=z10r
  clear z10cl
  refine AC [0,0,0] Z ?_
  refine TL.q Z .u (Aw (k:=1) Z Z Z C6 CY (CU hx9).1) Z ?_
  refine TL.q Z .u (Bo (cs := [jI x8]) 0 0 Z CV Z (fun _ _ h=>h.2.2.1) Z) Z ?_
  replace h:=ak h
  obtain⟨c11,h⟩:=h
  refine TL.q Z .u (Ex.add Z Z c11) Z (TL.run aa [4] Z Z (TL.nil (X.seq (T.seq (T.seq (T.region Z (TL.run aa [0,1] Z Z (TL.q Z .u (AW Z CZ) Z (TL.run aa [3] Z Z ?_)))))))))
  rcases jF h with⟨c12,h⟩ | ⟨c12,h⟩
  ·refine TL.nil (X.seq (Am Z (CN c12) ?_))
   obtain⟨x13,hx16,h⟩:=CM h
   refine T.seq (T.region Z (AP Z .u (.fn Tryz.call151 Z) (aQ 1 _ hx16) (fun _ hs=>(RX.reads_triv _ _)) Z ?_))
   rintro _ _ _ ⟨A14,c15,rfl,rfl,rfl⟩
   refine AC [0,0,0,0] Z (Bq (cs':= #[jI x13.Cf.Cu,jI x13.Cf.Co,.bool x13.Cf.Cw,.bool x13.Cf.CE,.bool x13.Cf.Cq,jI x13.Cf.Cr,jI x13.Cf.Cl,jI x13.Cf.Cy,jI x13.Cf.Ci,jI x13.Cf.Cp,jI x13.Cf.Ch,.slice A14 x13.Cf.Ce.length c15,jI x13.CH,jI x13.CI]) Z .u Z Z C8 Z Z Z Z ?_)
   obtain rfl:=CP h
   exact TL.nil (X.seq (T.ret (Al (Ak [3,0] Dx (AF (us:= #[jI x13.Cf.Cu,jI x13.Cf.Co,.bool x13.Cf.Cw,.bool x13.Cf.CE,.bool x13.Cf.Cq,jI x13.Cf.Cr,jI x13.Cf.Cl,jI x13.Cf.Cy,jI x13.Cf.Ci,jI x13.Cf.Cp,jI x13.Cf.Ch,.slice A14 x13.Cf.Ce.length c15,jI x13.CH,jI x13.CI]) 2 Z DC C8 Z Z) ⟨_,_,Z,Z,Z⟩ (by rfl) (.inl Z)))))
  ·refine TL.nil (X.seq (Ap Z (CO c12) ?_))
   obtain⟨x17,hx18,h⟩:=CM h
   refine T.skip (X.seq (T.seq (T.seq (B0 (E:=bP) (k:=3) 0 Z (fun w G h=>dL w G h.1) (by decide) hx18 ?_))))
   rintro gg oo z19cs hA z19cl ⟨_,_,z19r⟩
   cases hA
   obtain rfl:z19cs = [jI x17]:=z19r
   clear z19cl
   refine BU [0,0,0] Z ?_
   refine AH (.q 0 (.q 1 (.q 2 (.q 5 (.q 6 (.q 7 (.e 3 (.q 4 (.q 8 .nil))))))))) [0,0,0] Z cR (NoP.seq (NoP.seq aM)) (by kernel_rfl) ?_
   replace h:=ak h
   obtain⟨c20,h⟩:=h
   refine TD.run aa [0,1] Z Z ?_
   replace c20:0≤(x8+12)∧21≤(x8+12).toNat∧(x8+12).toNat≤a0.length:=c20
   refine TD.q Z .u (Ba (p:=21) (q:=(x8+12).toNat) (m:=((a0.drop 21).take (((x8+12).toNat) - 21))) Z CZ (.some Z Z) (.some Z ((Int.toNat_of_nonneg c20.1).symm)) (by first | omega | (dsimp only; omega)) Z) Z ?_
   refine TD.run aa [5] Z Z ?_
   refine TD.q Z .u (Aw (k:=3) Z Z Z C6 CY (CU hx18).1) Z ?_
   refine TD.q Z .u (Bo (cs := [jI x17]) 0 0 Z CV Z (fun _ _ h=>h.2.2.1) Z) Z ?_
   obtain⟨x21,hx22,h⟩:=CM h
   refine AR Z .u (.fn Tryz.call54 Z) (lG ((a0.drop 21).take (((x8+12).toNat) - 21)) _ hx22) (fun _ hs=>(RX.reads_triv _ _)) Z [0,0,0] (Z) ?_
   replace h:=ak h
   obtain⟨c23,h⟩:=h
   refine TD.q Z .u (Bz Z DS DU c23) Z (TD.run aa [8] Z Z ?_)
   rcases jF h with⟨c24,h⟩ | ⟨c24,h⟩
   ·refine TD.nil (X.seq (Ap Z (az (CN c24)) (T.skip (X.seq (T.seq (T.region Z ?_))))))
    obtain⟨x25,hx26,h⟩:=CM h
    refine TL.run aa [0] Z Z (BF (E:=bP) (k:=4) 0 Z (fun w G h=>dL w G h.1.1) (by decide) hx26 ?_)
    rintro gg oo z27cs hA z27cl ⟨_,_,z27r⟩
    cases hA
    obtain rfl:z27cs = [jI x25]:=z27r
    clear z27cl
    refine AC [0,0,0] Z ?_
    refine TL.q Z .u (Aw (k:=4) Z Z Z C6 CY (CU hx26).1) Z ?_
    refine TL.q Z .u (Bo (cs := [jI x25]) 0 0 Z CV Z (fun _ _ h=>h.2.2.1) Z) Z (TL.run aa [3] Z Z (TL.nil (X.seq (T.seq (T.seq (T.region Z ?_))))))
    obtain⟨x28,hx29,h⟩:=CM h
    refine TL.run aa [0] Z Z (Ax Z .u (.fn Tryz.call42 Z) (dv x25 2 _ hx29) (fun _ hs=>(RX.reads_triv _ _)) Z ?_)
    obtain⟨ch30,hc31,h⟩:=CM h
    refine TL.q Z .u (B6 Z Z Z Tryz.underlying9 hc31) Z ?_
    replace h:=ak h
    obtain⟨c32,h⟩:=h
    refine TL.q Z .u (Ex.remK Z Z (by omega) c32) Z (TL.run aa [4] Z Z ?_)
    rcases jF h with⟨c33,h⟩ | ⟨c33,h⟩
    ·refine TL.nil (X.seq (Ap Z (az (CN c33)) (T.skip (X.seq (T.seq (T.seq ?_))))))
     obtain⟨y38,h,hk39⟩:=CM h
     refine Bg (fun e Rs=>e = [(0,jS a0),(2,jP b1),(3,.slice (some ⟨gz10,oz10,none⟩) x2.length c4),(5,jI (x8+12)),(6,jI x25),(63,.bool y38)]∧Rs = [iV (iV (iV (RdR (av 1 bP) [.slice (some ⟨gz10,oz10,none⟩) x2.length c4] x2) bP gz10 (oz10+1*1) [jI x8] x8) bP gz10 (oz10+3*1) [jI x17] x17) bP gz10 (oz10+4*1) [jI x25] x25,aC b1 181 #[jI 0,jI 0,.bool false,.bool false,.bool false,jI 0,jI 0,jI 0,jI 0,jI 0,jI 0,.slice none 0 0,jI 0,jI 0],aB]) ?_ ?_
     ·clear hk39
      refine T.region Z ?_
      rcases jF h with⟨c40,h⟩ | ⟨c40,h⟩
      ·refine TL.run aa [0,1,2] Z Z ?_
       iterate 2 refine An Z (.gn Z Z (CN c40)) Z ?_
       refine TL.q Z .u (Aq Z (CN c40) Z) Z (TL.run aa [6] Z Z ?_)
       iterate 3 refine An Z (.gn Z Z Z) Z ?_
       iterate 3 refine An Z (.gu Z Z) Z ?_
       refine An Z (.gn Z Z Z) Z (TL.q Z .u (Aq Z Z Z) Z ?_)
       cases h
       exact TL.nil (AB [0,0,0] ⟨Z,Z⟩ (by rfl) (by rfl))
      ·refine TL.run aa [0,1,2] Z Z ?_
       iterate 2 refine TL.q Z (.g Z Z (CO c40)) (Ao aa Z) Z ?_
       refine TL.q Z .u (Ar Z (CO c40) Z) Z ?_
       rcases jF h with⟨c41,h⟩ | ⟨c41,h⟩
       ·refine TL.run aa [6] Z Z ?_
        iterate 3 refine An Z (.gn Z Z (CN c41)) Z ?_
        iterate 3 refine An Z (.gu Z Z) Z ?_
        refine An Z (.gn Z Z (CN c41)) Z (TL.q Z .u (Aq Z (CN c41) Z) Z ?_)
        cases h
        exact TL.nil (AB [0,0,0] ⟨Z,Z⟩ (by rfl) (by rfl))
       ·refine TL.run aa [6] Z Z ?_
        iterate 3 refine TL.q Z (.g Z Z (CO c41)) (Ao aa Z) Z ?_
        rcases jF h with⟨c42,h⟩ | ⟨c42,h⟩
        ·refine TL.q Z (.g Z Z (CN c42)) (Ao aa Z) Z ?_
         replace h:=ak h
         obtain⟨c43,h⟩:=h
         refine TL.q Z (.g Z Z (CN c42)) (Ex.rem Z Z (by omega) c43) Z (TL.q Z (.g Z Z (CN c42)) (Ao aa Z) Z (TL.q Z (.g Z Z (CO c41)) (Aq Z (CN c42) Z) Z (TL.q Z .u (Ar Z (CO c41) Z) Z ?_)))
         rcases jF h with⟨c44,h⟩ | ⟨c44,h⟩
         ·cases h
          exact TL.nil (Bh (d:=63) (v':= .bool true) Z (congrArg Value.bool (CN c44)) (AB [0,0,0] ⟨Z,Z⟩ (by rfl) (by rfl)))
         ·cases h
          exact TL.nil (Bh (d:=63) (v':= .bool false) Z (congrArg Value.bool (CO c44)) (AB [0,0,0] ⟨Z,Z⟩ (by rfl) (by rfl)))
        ·refine An Z (.gn Z Z (CO c42)) Z ?_
         iterate 2 refine An Z (.gn Z Z (CO c42)) Z ?_
         refine TL.q Z (.g Z Z (CO c41)) (Ar Z (CO c42) Z) Z (TL.q Z .u (Ar Z (CO c41) Z) Z ?_)
         cases h
         exact TL.nil (AB [0,0,0] ⟨Z,Z⟩ (by rfl) (by rfl))
     ·rintro _ _ ⟨rfl,rfl⟩
      clear h
      have h:=hk39
      clear hk39
      try dsimp only at h
      rcases jF h with⟨c45,h⟩ | ⟨c45,h⟩
      ·refine X.seq (Am Z c45 ?_)
       obtain⟨x46,hx49,h⟩:=CM h
       refine T.seq (T.region Z (AP Z .u (.fn Tryz.call151 Z) (aQ 8 _ hx49) (fun _ hs=>(RX.reads_triv _ _)) Z ?_))
       rintro _ _ _ ⟨A47,c48,rfl,rfl,rfl⟩
       refine AC [0,0,0,0] Z (Bq (cs':= #[jI x46.Cf.Cu,jI x46.Cf.Co,.bool x46.Cf.Cw,.bool x46.Cf.CE,.bool x46.Cf.Cq,jI x46.Cf.Cr,jI x46.Cf.Cl,jI x46.Cf.Cy,jI x46.Cf.Ci,jI x46.Cf.Cp,jI x46.Cf.Ch,.slice A47 x46.Cf.Ce.length c48,jI x46.CH,jI x46.CI]) Z .u Z Z C8 Z Z Z Z ?_)
       obtain rfl:=CP h
       exact TL.nil (X.seq (T.ret (Al (Ak [3,0] Dx (AF (us:= #[jI x46.Cf.Cu,jI x46.Cf.Co,.bool x46.Cf.Cw,.bool x46.Cf.CE,.bool x46.Cf.Cq,jI x46.Cf.Cr,jI x46.Cf.Cl,jI x46.Cf.Cy,jI x46.Cf.Ci,jI x46.Cf.Cp,jI x46.Cf.Ch,.slice A47 x46.Cf.Ce.length c48,jI x46.CH,jI x46.CI]) 2 Z DC C8 Z Z) ⟨_,_,Z,Z,Z⟩ (by rfl) (.inl Z)))))
      ·replace c45:=CX c45
       refine X.seq (Ap Z c45 ?_)
       obtain⟨x50,hx51,h⟩:=CM h
       refine T.skip (X.seq (T.seq (B0 (E:=bP) (k:=0) 0 Z (fun w G h=>dL w G h.1.1.1) (by decide) hx51 ?_)))
       rintro gg oo z52cs hA z52cl ⟨_,_,z52r⟩
       cases hA
       obtain rfl:z52cs = [jI x50]:=z52r
       clear z52cl
       refine BU [0,0,0] Z ?_
       obtain⟨x53,hx54,h⟩:=CM h
       refine B0 (E:=bP) (k:=2) 0 Z (fun w G h=>dL w G h.1.1.1.1) (by decide) hx54 ?_
       rintro gg oo z55cs hA z55cl ⟨_,_,z55r⟩
       cases hA
       obtain rfl:z55cs = [jI x53]:=z55r
       clear z55cl
       refine BU [0,0,0] Z ?_
       obtain⟨x56,hx57,h⟩:=CM h
       refine B0 (E:=bP) (k:=5) 0 Z (fun w G h=>dL w G h.1.1.1.1.1) (by decide) hx57 ?_
       rintro gg oo z58cs hA z58cl ⟨_,_,z58r⟩
       cases hA
       obtain rfl:z58cs = [jI x56]:=z58r
       clear z58cl
       refine BU [0,0,0] Z ?_
       obtain⟨x59,hx60,h⟩:=CM h
       refine B0 (E:=bP) (k:=6) 0 Z (fun w G h=>dL w G h.1.1.1.1.1.1) (by decide) hx60 ?_
       rintro gg oo z61cs hA z61cl ⟨_,_,z61r⟩
       cases hA
       obtain rfl:z61cs = [jI x59]:=z61r
       clear z61cl
       refine BU [0,0,0] Z ?_
       obtain⟨x62,hx63,h⟩:=CM h
       refine B0 (E:=bP) (k:=7) 0 Z (fun w G h=>dL w G h.1.1.1.1.1.1.1) (by decide) hx63 ?_
       rintro gg oo z64cs hA z64cl ⟨_,_,z64r⟩
       cases hA
       obtain rfl:z64cs = [jI x62]:=z64r
       clear z64cl
       refine BU [0,0,0] Z ?_
       obtain⟨x65,hx66,h⟩:=CM h
       refine B0 (E:=bP) (k:=8) 0 Z (fun w G h=>dL w G h.1.1.1.1.1.1.1.1) (by decide) hx66 ?_
       rintro gg oo z67cs hA z67cl ⟨_,_,z67r⟩
       cases hA
       obtain rfl:z67cs = [jI x65]:=z67r
       clear z67cl
       refine BU [0,0,0] Z ?_
       obtain⟨x68,hx69,h⟩:=CM h
       refine B0 (E:=bP) (k:=9) 0 Z (fun w G h=>dL w G h.1.1.1.1.1.1.1.1.1) (by decide) hx69 ?_
       rintro gg oo z70cs hA z70cl ⟨_,_,z70r⟩
       cases hA
       obtain rfl:z70cs = [jI x68]:=z70r
       clear z70cl
       refine BU [0,0,0] Z ?_
       obtain⟨x71,hx72,h⟩:=CM h
       refine B0 (E:=bP) (k:=10) 0 Z (fun w G h=>dL w G h.1.1.1.1.1.1.1.1.1.1) (by decide) hx72 ?_
       rintro gg oo z73cs hA z73cl ⟨_,_,z73r⟩
       cases hA
       obtain rfl:z73cs = [jI x71]:=z73r
       clear z73cl
       refine BU [0,0,0] Z ?_
       refine AH (.q 0 (.q 1 (.q 2 (.q 3 (.q 4 (.q 5 (.q 6 (.q 7 (.q 8 (.q 9 (.q 10 (.q 11 (.q 12 (.q 13 (.q 14 (.q 15 (.q 16 (.q 17 (.q 18 (.q 19 (.q 20 (.q 21 (.q 22 (.q 23 (.q 24 (.q 25 (.q 26 (.q 27 (.q 28 (.q 29 (.q 30 (.q 31 (.q 32 (.q 33 (.q 34 (.q 35 (.e 36 (.e 37 .nil)))))))))))))))))))))))))))))))))))))) [0,0,0] Z cR (NoP.seq aM) (by kernel_rfl) ?_
       refine TD.run aa [0] Z Z ?_
       refine TD.q Z .u (Aw (k:=0) Z Z Z C6 CY (CU hx51).1) Z ?_
       refine TD.q Z .u (Bo (cs := [jI x50]) 0 0 Z CV Z (fun _ _ h=>h.1.1.1.1.1.1.1.2.2.1) Z) Z (TD.run aa [3] Z Z ?_)
       refine TD.q Z .u (Aw (k:=2) Z Z Z C6 CY (CU hx54).1) Z ?_
       refine TD.q Z .u (Bo (cs := [jI x53]) 0 0 Z CV Z (fun _ _ h=>h.1.1.1.1.1.1.2.2.1) Z) Z ?_
       replace h:=ak h
       obtain⟨c74,h⟩:=h
       refine TD.run aa [6] Z Z (TD.q Z .u (Ex.quo Z Z (by omega) c74) Z ?_)
       replace h:=ak h
       obtain⟨c75,h⟩:=h
       refine TD.q Z .u (Ex.rem Z Z (by omega) c75) Z ?_
       replace h:=ak h
       obtain⟨c76,h⟩:=h
       refine TD.run aa [9,10] Z Z (TD.q Z .u (Ex.quo Z Z (by omega) c76) Z ?_)
       replace h:=ak h
       obtain⟨c77,h⟩:=h
       refine TD.q Z .u (Ex.rem Z Z (by omega) c77) Z ?_
       replace h:=ak h
       obtain⟨c78,h⟩:=h
       refine TD.run aa [13,14] Z Z (TD.q Z .u (Ex.quo Z Z (by omega) c78) Z (TD.run aa [16,17] Z Z ?_))
       refine TD.q Z .u (Aw (k:=5) Z Z Z C6 CY (CU hx57).1) Z ?_
       refine TD.q Z .u (Bo (cs := [jI x56]) 0 0 Z CV Z (fun _ _ h=>h.1.1.1.1.1.2.2.1) Z) Z (TD.run aa [20] Z Z ?_)
       refine TD.q Z .u (Aw (k:=6) Z Z Z C6 CY (CU hx60).1) Z ?_
       refine TD.q Z .u (Bo (cs := [jI x59]) 0 0 Z CV Z (fun _ _ h=>h.1.1.1.1.2.2.1) Z) Z (TD.run aa [23] Z Z ?_)
       refine TD.q Z .u (Aw (k:=7) Z Z Z C6 CY (CU hx63).1) Z ?_
       refine TD.q Z .u (Bo (cs := [jI x62]) 0 0 Z CV Z (fun _ _ h=>h.1.1.1.2.2.1) Z) Z (TD.run aa [26] Z Z ?_)
       refine TD.q Z .u (Aw (k:=8) Z Z Z C6 CY (CU hx66).1) Z ?_
       refine TD.q Z .u (Bo (cs := [jI x65]) 0 0 Z CV Z (fun _ _ h=>h.1.1.2.2.1) Z) Z (TD.run aa [29] Z Z ?_)
       refine TD.q Z .u (Aw (k:=9) Z Z Z C6 CY (CU hx69).1) Z ?_
       refine TD.q Z .u (Bo (cs := [jI x68]) 0 0 Z CV Z (fun _ _ h=>h.1.2.2.1) Z) Z (TD.run aa [32] Z Z ?_)
       refine TD.q Z .u (Aw (k:=10) Z Z Z C6 CY (CU hx72).1) Z ?_
       refine TD.q Z .u (Bo (cs := [jI x71]) 0 0 Z CV Z (fun _ _ h=>h.2.2.1) Z) Z ?_
       refine TD.q Z .u (AD (cells:= #[jI x50,jI x53,.bool (decide (((x25 / 8) % 2)=1)),.bool (decide (((x25 / 16) % 2)=1)),.bool (decide ((x25 / 32)=1)),jI x56,jI x59,jI x62,jI x65,jI x68,jI x71,.slice none 0 0]) lI Z (by kernel_rfl)) Z ?_
       refine TD.alloc Z .u Tryz.zeroValue27 Z [1,1,1] (fun _=>Z) (fun b79=>(TD.st0 (cs':= #[jI x50,jI x53,.bool (decide (((x25 / 8) % 2)=1)),.bool (decide (((x25 / 16) % 2)=1)),.bool (decide ((x25 / 32)=1)),jI x56,jI x59,jI x62,jI x65,jI x68,jI x71,.slice none 0 0]) Z .u Z Z C3 Z Z Z Z [1,1,1] (Z) (TD.nil (X.seq (T.seq (T.region Z ?_))))))
       replace h:=ak h
       obtain⟨c80,h⟩:=h
       refine TL.run aa [0,1] Z Z ?_
       replace c80:0≤(x8+12)∧61≤(x8+12).toNat∧(x8+12).toNat≤a0.length:=c80
       refine TL.q Z .u (Ba (p:=61) (q:=(x8+12).toNat) (m:=((a0.drop 61).take (((x8+12).toNat) - 61))) Z CZ (.some Z Z) (.some Z ((Int.toNat_of_nonneg c80.1).symm)) (by first | omega | (dsimp only; omega)) Z) Z ?_
       refine TL.run aa [3] Z Z (TL.nil (X.seq (T.seq (T.seq (T.region Z (TL.run aa [0] Z Z (TL.nil (X.seq (T.block (Bt 38 7 aU ?_))))))))))
       obtain⟨E86,hE87,hO88⟩:=CM h
       refine AV (fun m e Rs=> ∃ (y81:List UInt8) (k82:Nat) (y83:List Rec) (A84:Option Addr) (c85:Nat),e = [(2,jP b1),(3,.slice (some ⟨gz10,oz10,none⟩) x2.length c4),(5,jI (x8+12)),(7,jP b79),(8,jS y81),(9,jI (k82:Int))]∧Rs = [aZ 38 7 aU (.slice A84 y83.length c85) y83,aC b79 27 #[jI x50,jI x53,.bool (decide (((x25 / 8) % 2)=1)),.bool (decide (((x25 / 16) % 2)=1)),.bool (decide ((x25 / 32)=1)),jI x56,jI x59,jI x62,jI x65,jI x68,jI x71,.slice A84 y83.length c85],iV (iV (iV (iV (iV (iV (iV (iV (iV (iV (iV (RdR (av 1 bP) [.slice (some ⟨gz10,oz10,none⟩) x2.length c4] x2) bP gz10 (oz10+1*1) [jI x8] x8) bP gz10 (oz10+3*1) [jI x17] x17) bP gz10 (oz10+4*1) [jI x25] x25) bP gz10 (oz10+0*1) [jI x50] x50) bP gz10 (oz10+2*1) [jI x53] x53) bP gz10 (oz10+5*1) [jI x56] x56) bP gz10 (oz10+6*1) [jI x59] x59) bP gz10 (oz10+7*1) [jI x62] x62) bP gz10 (oz10+8*1) [jI x65] x65) bP gz10 (oz10+9*1) [jI x68] x68) bP gz10 (oz10+10*1) [jI x71] x71,aC b1 181 #[jI 0,jI 0,.bool false,.bool false,.bool false,jI 0,jI 0,jI 0,jI 0,jI 0,jI 0,.slice none 0 0,jI 0,jI 0],aB]∧db x2 m y81 k82 y83=some E86) (((x2[11]?).map (fun x81=>(x81).toNat+1)).getD 0) [0,0,0,0,0] ⟨((a0.drop 61).take (((x8+12).toNat) - 61)),0,[],none,0,Z,Z,by exact hE87⟩ (by rfl) (by rfl) ?_
       rintro m89 _ _ ⟨y81,k82,y83,A84,c85,rfl,rfl,hl91⟩
       clear hE87 h
       cases m89 with
       | zero =>
        rw[db] at hl91
        cases hl91
       | succ m89 =>
        have h:=hl91
        clear hl91
        rw[db] at h
        refine T.seq (T.seq (T.region Z ?_))
        obtain⟨x93,hx94,h⟩:=CM h
        refine TL.run aa [0,1] Z Z (BF (E:=bP) (k:=11) 2 Z (fun w G h=>dL w G h.1.1.1.1.1.1.1.1.1.1.1) (by decide) hx94 ?_)
        rintro gg oo z95cs hA z95cl ⟨_,_,z95r⟩
        cases hA
        obtain rfl:z95cs = [jI x93]:=z95r
        clear z95cl
        refine AC [0,0,0,0,0] Z ?_
        refine TL.q Z .u (Aw (k:=11) Z Z Z C6 CY (CU hx94).1) Z ?_
        refine TL.q Z .u (Bo (cs := [jI x93]) 2 0 Z CV Z (fun _ _ h=>h.2.2.1) Z) Z (TL.run aa [4] Z Z ?_)
        rcases jF h with⟨c96,h⟩ | ⟨c96,h⟩
        ·refine TL.nil (X.seq (Am Z (CN c96) (T.skip (X.seq (T.seq (T.block (T.seq (T.seq (T.region Z (TL.run aa [0] Z Z (TL.q Z .u (Ex.sEq Z (m := []) Z) Z ?_)))))))))))
         rcases jF h with⟨c97,h⟩ | ⟨c97,h⟩
         ·refine TL.nil (X.seq (Am Z (CN c97) ?_))
          obtain⟨x98,hx101,h⟩:=CM h
          refine T.seq (T.region Z (AP Z .u (.fn Tryz.call151 Z) (aQ 10 _ hx101) (fun _ hs=>(RX.reads_triv _ _)) Z ?_))
          rintro _ _ _ ⟨A99,c100,rfl,rfl,rfl⟩
          refine AC [0,0,0,0,0,0] Z (Bn (cs':= #[jI x98.Cf.Cu,jI x98.Cf.Co,.bool x98.Cf.Cw,.bool x98.Cf.CE,.bool x98.Cf.Cq,jI x98.Cf.Cr,jI x98.Cf.Cl,jI x98.Cf.Cy,jI x98.Cf.Ci,jI x98.Cf.Cp,jI x98.Cf.Ch,.slice A99 x98.Cf.Ce.length c100,jI x98.CH,jI x98.CI]) Z .u Z Z C8 Z Z Z Z ?_)
          obtain rfl:=CP h
          replace h:=hO88
          clear hO88
          try dsimp only at h
          obtain rfl:=CP h
          exact TL.nil (X.seq (T.ret (Al (At (Al (Al (At (Al (Ak [5,0] Dx (AF (us:= #[jI x98.Cf.Cu,jI x98.Cf.Co,.bool x98.Cf.Cw,.bool x98.Cf.CE,.bool x98.Cf.Cq,jI x98.Cf.Cr,jI x98.Cf.Cl,jI x98.Cf.Cy,jI x98.Cf.Ci,jI x98.Cf.Cp,jI x98.Cf.Ch,.slice A99 x98.Cf.Ce.length c100,jI x98.CH,jI x98.CI]) 4 Z DC C8 Z Z) ⟨_,_,Z,Z,Z⟩ (by rfl) (.inl Z))))))))))
         ·refine TL.nil (X.seq (Ap Z (CO c97) (T.skip (X.seq (T.seq (T.region Z ?_))))))
          obtain⟨x102,hx105,h⟩:=CM h
          refine TL.run aa [0] Z Z (AP Z .u (.fn Tryz.call152 Z) (pg y81 _ hx105) (fun _ hs=>(RX.reads_triv _ _)) Z ?_)
          rintro _ _ _ ⟨A103,c104,rfl,rfl,rfl⟩
          refine AC [0,0,0,0,0,0] Z (TL.alloc Z .u Tryz.zeroValue220 Z (fun b106=>(Ay (cs':= #[jI x102.Ck.CC,jI x102.Ck.Cv,.bool x102.Ck.Cs.null,jS x102.Ck.Cs.data,.bool x102.Ck.Cg.null,jS x102.Ck.Cg.data,.slice A103 x102.Ck.Cn.length c104,jI x102.CH,jI x102.CI]) Z .u Z Z Dm Z Z Z Z (TL.nil (X.seq (T.seq (T.seq (T.region Z (TL.run aa [0] Z Z (TL.q Z .u (Ai 0 Z CV Z Z) Z (TL.run aa [2] Z Z ?_)))))))))))
          rcases jF h with⟨c107,h⟩ | ⟨c107,h⟩
          ·refine TL.nil (X.seq (Ap Z (az (CN c107)) (T.skip (X.seq (T.seq (T.region Z (TL.run aa [0] Z Z (TL.q Z .u (Ai 3 Z Ds Z Z) Z (TL.run aa [2] Z Z (TL.q Z .u (Av (us := [jI x102.Ck.CC,jI x102.Ck.Cv,.bool x102.Ck.Cs.null,jS x102.Ck.Cs.data,.bool x102.Ck.Cg.null,jS x102.Ck.Cg.data,.slice A103 x102.Ck.Cn.length c104]) 0 Z Dr C4 Z Z Z) Z ?_))))))))))
           refine Bk (cells:= #[jI x102.Ck.CC,jI x102.Ck.Cv,.bool x102.Ck.Cs.null,jS x102.Ck.Cs.data,.bool x102.Ck.Cg.null,jS x102.Ck.Cg.data,.slice A103 x102.Ck.Cn.length c104]) Z .u kB Z (by kernel_rfl) Z (fun b108=> ?_)
           replace h:=ak h
           obtain⟨c109,h⟩:=h
           refine BP 2 1 Z .u (us := [jI x102.Ck.CC,jI x102.Ck.Cv,.bool x102.Ck.Cs.null,jS x102.Ck.Cs.data,.bool x102.Ck.Cg.null,jS x102.Ck.Cg.data,.slice A103 x102.Ck.Cn.length c104]) (u:=x102.Ck) (l:=y83) (E:=aU) Tryz.underlying25 lJ Z (by decide) Z Z Z Z Z Z Z (fun w G hG=>⟨_,_,Z,hG.1⟩) (by have hq:=c109; omega) (by have hq:=c109; omega) Z (fun A110 c111=> ?_)
           refine AC [0,0,0,0,0,0] Z (TL.run aa [6] Z Z (Bq (cs':= #[jI x50,jI x53,.bool (decide (((x25 / 8) % 2)=1)),.bool (decide (((x25 / 16) % 2)=1)),.bool (decide ((x25 / 32)=1)),jI x56,jI x59,jI x62,jI x65,jI x68,jI x71,.slice A110 (y83 ++ [x102.Ck]).length c111]) Z .u Z Z Tryz.sizeOf25 Z Z Z Z (TL.nil (X.seq (T.region Z (TL.run aa [0,1] Z Z (TL.q Z .u (Ai 1 Z CV Z Z) Z ?_)))))))
           replace h:=ak h
           obtain⟨c112,h⟩:=h
           replace c112:0≤x102.CH∧x102.CH.toNat≤y81.length:=c112
           refine TL.q Z .u (Ba (p:=x102.CH.toNat) (q:=y81.length) (m:=(y81.drop x102.CH.toNat)) Z CZ (.some Z ((Int.toNat_of_nonneg c112.1).symm)) .none (by first | omega | (dsimp only; omega)) (dY _ _)) Z ?_
           refine TL.run aa [4] Z Z (TL.nil (Az (X.seq (T.region Z ?_))))
           replace h:=ak h
           obtain⟨c113,h⟩:=h
           exact TL.run aa [0] Z Z (TL.q Z .u (Ex.add Z Z c113) Z (TL.run aa [2] Z Z (TL.nil (X.unf 3 Z (AQ [0,0,0,0,0,0] Z (X.back (m':=m89) [0,1,1,1,1] (by omega) ⟨(y81.drop x102.CH.toNat),k82+1,(y83 ++ [x102.Ck]),A110,c111,Z,Z,h⟩ (by rfl) (by rfl)))))))
          ·refine TL.nil (X.seq (Am Z (aD (CO c107)) (T.seq (T.region Z (TL.run aa [0] Z Z (TL.q Z .u (Ai 0 Z CV Z Z) Z ?_))))))
           obtain⟨x114,hx117,h⟩:=CM h
           refine AP Z .u (.fn Tryz.call151 Z) (aQ x102.CI _ hx117) (fun _ hs=>(RX.reads_triv _ _)) Z ?_
           rintro _ _ _ ⟨A115,c116,rfl,rfl,rfl⟩
           refine AC [0,0,0,0,0,0,0,0] Z (TL.st6 (cs':= #[jI x114.Cf.Cu,jI x114.Cf.Co,.bool x114.Cf.Cw,.bool x114.Cf.CE,.bool x114.Cf.Cq,jI x114.Cf.Cr,jI x114.Cf.Cl,jI x114.Cf.Cy,jI x114.Cf.Ci,jI x114.Cf.Cp,jI x114.Cf.Ch,.slice A115 x114.Cf.Ce.length c116,jI x114.CH,jI x114.CI]) Z .u Z Z C8 Z Z Z Z ?_)
           obtain rfl:=CP h
           replace h:=hO88
           clear hO88
           try dsimp only at h
           obtain rfl:=CP h
           exact TL.nil (X.seq (T.ret (Al (At (Al (Al (At (Al (Ak [7,0] Dx (AF (us:= #[jI x114.Cf.Cu,jI x114.Cf.Co,.bool x114.Cf.Cw,.bool x114.Cf.CE,.bool x114.Cf.Cq,jI x114.Cf.Cr,jI x114.Cf.Cl,jI x114.Cf.Cy,jI x114.Cf.Ci,jI x114.Cf.Cp,jI x114.Cf.Ch,.slice A115 x114.Cf.Ce.length c116,jI x114.CH,jI x114.CI]) 6 Z DC C8 Z Z) ⟨_,_,Z,Z,Z⟩ (by rfl) (.inl Z))))))))))
        ·refine TL.nil (X.seq (Ap Z (CO c96) ?_))
         obtain rfl:=CP h
         replace h:=hO88
         clear hO88
         try dsimp only at h
         refine T.exit (Au (Au (AS (X.seq (T.seq (T.seq (T.region Z (TL.run aa [0] Z Z (TL.q Z .u (Ex.sNe Z (m := []) Z) Z ?_)))))))))
         rcases jF h with⟨c118,h⟩ | ⟨c118,h⟩
         ·refine TL.nil (X.seq (Ap Z (az (CN c118)) (T.skip (X.seq (T.seq (T.region Z (TL.q Z .u (Av (us := [jI x50,jI x53,.bool (decide (((x25 / 8) % 2)=1)),.bool (decide (((x25 / 16) % 2)=1)),.bool (decide ((x25 / 32)=1)),jI x56,jI x59,jI x62,jI x65,jI x68,jI x71,.slice A84 y83.length c85]) 1 Z Df C3 Z Z Z) Z ?_)))))))
          rcases jF h with⟨c119,h⟩ | ⟨c119,h⟩
          ·rcases jF h with⟨c120,h⟩ | ⟨c120,h⟩
           ·rcases jF h with⟨c121,h⟩ | ⟨c121,h⟩
            ·obtain⟨x122,hx123,h⟩:=CM h
             refine Ax Z .u (.fn Tryz.call12 Z) (bY (⟨x50,x53,decide (((x25 / 8) % 2)=1),decide (((x25 / 16) % 2)=1),decide ((x25 / 32)=1),x56,x59,x62,x65,x68,x71,y83⟩:Bat) _ _ _ hx123) (fun _ hs=>(SrcE.res 0 hs Z (fun w G h=>aP (by decide) w G h))) Z (TL.run aa [2] Z Z (TL.nil (X.seq (T.seq (T.seq (T.region Z (TL.run aa [0,1] Z Z ?_)))))))
             rcases jF h with⟨c124,h⟩ | ⟨c124,h⟩
             ·refine TL.nil (X.seq (Ap Z (az (CN c124)) (T.skip (X.seq (T.seq (T.region Z (TL.q Z .u (Av (us := [jI x50,jI x53,.bool (decide (((x25 / 8) % 2)=1)),.bool (decide (((x25 / 16) % 2)=1)),.bool (decide ((x25 / 32)=1)),jI x56,jI x59,jI x62,jI x65,jI x68,jI x71,.slice A84 y83.length c85]) 1 Z Df C3 Z Z Z) Z (TL.run aa [1] Z Z ?_))))))))
              refine TL.q Z .u (AD (cells:= #[jI x50,jI x53,.bool (decide (((x25 / 8) % 2)=1)),.bool (decide (((x25 / 16) % 2)=1)),.bool (decide ((x25 / 32)=1)),jI x56,jI x59,jI x62,jI x65,jI x68,jI x71,.slice A84 y83.length c85,jI (x8+12),jI 0]) bc Z (by kernel_rfl)) Z ?_
              refine A5 (cs':= #[jI x50,jI x53,.bool (decide (((x25 / 8) % 2)=1)),.bool (decide (((x25 / 16) % 2)=1)),.bool (decide ((x25 / 32)=1)),jI x56,jI x59,jI x62,jI x65,jI x68,jI x71,.slice A84 y83.length c85,jI (x8+12),jI 0]) Z .u Z Z C8 Z Z Z Z ?_
              obtain rfl:=CP h
              exact TL.nil (X.seq (T.ret (Bu (by decide) 0 Z (AQ [0,0,0,0,0] Z (Ak [4,0] Dx (AF (us:= #[jI x50,jI x53,.bool (decide (((x25 / 8) % 2)=1)),.bool (decide (((x25 / 16) % 2)=1)),.bool (decide ((x25 / 32)=1)),jI x56,jI x59,jI x62,jI x65,jI x68,jI x71,.slice A84 y83.length c85,jI (x8+12),jI 0]) 3 Z DC C8 Z Z) ⟨_,_,Z,Z,Z⟩ (by rfl) (.inl Z))))))
             ·refine TL.nil (X.seq (Am Z (aD (CO c124)) (T.seq (T.region Z ?_))))
              obtain⟨x125,hx128,h⟩:=CM h
              refine TL.run aa [0] Z Z (AP Z .u (.fn Tryz.call151 Z) (aQ x122 _ hx128) (fun _ hs=>(RX.reads_triv _ _)) Z ?_)
              rintro _ _ _ ⟨A126,c127,rfl,rfl,rfl⟩
              refine AC [0,0,0,0,0,0] Z (Bn (cs':= #[jI x125.Cf.Cu,jI x125.Cf.Co,.bool x125.Cf.Cw,.bool x125.Cf.CE,.bool x125.Cf.Cq,jI x125.Cf.Cr,jI x125.Cf.Cl,jI x125.Cf.Cy,jI x125.Cf.Ci,jI x125.Cf.Cp,jI x125.Cf.Ch,.slice A126 x125.Cf.Ce.length c127,jI x125.CH,jI x125.CI]) Z .u Z Z C8 Z Z Z Z ?_)
              obtain rfl:=CP h
              exact TL.nil (X.seq (T.ret (Al (Ak [5,0] Dx (AF (us:= #[jI x125.Cf.Cu,jI x125.Cf.Co,.bool x125.Cf.Cw,.bool x125.Cf.CE,.bool x125.Cf.Cq,jI x125.Cf.Cr,jI x125.Cf.Cl,jI x125.Cf.Cy,jI x125.Cf.Ci,jI x125.Cf.Cp,jI x125.Cf.Ch,.slice A126 x125.Cf.Ce.length c127,jI x125.CH,jI x125.CI]) 4 Z DC C8 Z Z) ⟨_,_,Z,Z,Z⟩ (by rfl) (.inl Z)))))
            ·obtain⟨x129,hx130,h⟩:=CM h
             refine Ax Z .u (.fn Tryz.call12 Z) (bY (⟨x50,x53,decide (((x25 / 8) % 2)=1),decide (((x25 / 16) % 2)=1),decide ((x25 / 32)=1),x56,x59,x62,x65,x68,x71,y83⟩:Bat) _ _ _ hx130) (fun _ hs=>(SrcE.res 0 hs Z (fun w G h=>aP (by decide) w G h))) Z (TL.run aa [2] Z Z (TL.nil (X.seq (T.seq (T.seq (T.region Z (TL.run aa [0,1] Z Z ?_)))))))
             rcases jF h with⟨c131,h⟩ | ⟨c131,h⟩
             ·refine TL.nil (X.seq (Ap Z (az (CN c131)) (T.skip (X.seq (T.seq (T.region Z (TL.q Z .u (Av (us := [jI x50,jI x53,.bool (decide (((x25 / 8) % 2)=1)),.bool (decide (((x25 / 16) % 2)=1)),.bool (decide ((x25 / 32)=1)),jI x56,jI x59,jI x62,jI x65,jI x68,jI x71,.slice A84 y83.length c85]) 1 Z Df C3 Z Z Z) Z (TL.run aa [1] Z Z ?_))))))))
              refine TL.q Z .u (AD (cells:= #[jI x50,jI x53,.bool (decide (((x25 / 8) % 2)=1)),.bool (decide (((x25 / 16) % 2)=1)),.bool (decide ((x25 / 32)=1)),jI x56,jI x59,jI x62,jI x65,jI x68,jI x71,.slice A84 y83.length c85,jI (x8+12),jI 0]) bc Z (by kernel_rfl)) Z ?_
              refine A5 (cs':= #[jI x50,jI x53,.bool (decide (((x25 / 8) % 2)=1)),.bool (decide (((x25 / 16) % 2)=1)),.bool (decide ((x25 / 32)=1)),jI x56,jI x59,jI x62,jI x65,jI x68,jI x71,.slice A84 y83.length c85,jI (x8+12),jI 0]) Z .u Z Z C8 Z Z Z Z ?_
              obtain rfl:=CP h
              exact TL.nil (X.seq (T.ret (Bu (by decide) 0 Z (AQ [0,0,0,0,0] Z (Ak [4,0] Dx (AF (us:= #[jI x50,jI x53,.bool (decide (((x25 / 8) % 2)=1)),.bool (decide (((x25 / 16) % 2)=1)),.bool (decide ((x25 / 32)=1)),jI x56,jI x59,jI x62,jI x65,jI x68,jI x71,.slice A84 y83.length c85,jI (x8+12),jI 0]) 3 Z DC C8 Z Z) ⟨_,_,Z,Z,Z⟩ (by rfl) (.inl Z))))))
             ·refine TL.nil (X.seq (Am Z (aD (CO c131)) (T.seq (T.region Z ?_))))
              obtain⟨x132,hx135,h⟩:=CM h
              refine TL.run aa [0] Z Z (AP Z .u (.fn Tryz.call151 Z) (aQ x129 _ hx135) (fun _ hs=>(RX.reads_triv _ _)) Z ?_)
              rintro _ _ _ ⟨A133,c134,rfl,rfl,rfl⟩
              refine AC [0,0,0,0,0,0] Z (Bn (cs':= #[jI x132.Cf.Cu,jI x132.Cf.Co,.bool x132.Cf.Cw,.bool x132.Cf.CE,.bool x132.Cf.Cq,jI x132.Cf.Cr,jI x132.Cf.Cl,jI x132.Cf.Cy,jI x132.Cf.Ci,jI x132.Cf.Cp,jI x132.Cf.Ch,.slice A133 x132.Cf.Ce.length c134,jI x132.CH,jI x132.CI]) Z .u Z Z C8 Z Z Z Z ?_)
              obtain rfl:=CP h
              exact TL.nil (X.seq (T.ret (Al (Ak [5,0] Dx (AF (us:= #[jI x132.Cf.Cu,jI x132.Cf.Co,.bool x132.Cf.Cw,.bool x132.Cf.CE,.bool x132.Cf.Cq,jI x132.Cf.Cr,jI x132.Cf.Cl,jI x132.Cf.Cy,jI x132.Cf.Ci,jI x132.Cf.Cp,jI x132.Cf.Ch,.slice A133 x132.Cf.Ce.length c134,jI x132.CH,jI x132.CI]) 4 Z DC C8 Z Z) ⟨_,_,Z,Z,Z⟩ (by rfl) (.inl Z)))))
           ·rcases jF h with⟨c136,h⟩ | ⟨c136,h⟩
            ·obtain⟨x137,hx138,h⟩:=CM h
             refine Ax Z .u (.fn Tryz.call12 Z) (bY (⟨x50,x53,decide (((x25 / 8) % 2)=1),decide (((x25 / 16) % 2)=1),decide ((x25 / 32)=1),x56,x59,x62,x65,x68,x71,y83⟩:Bat) _ _ _ hx138) (fun _ hs=>(SrcE.res 0 hs Z (fun w G h=>aP (by decide) w G h))) Z (TL.run aa [2] Z Z (TL.nil (X.seq (T.seq (T.seq (T.region Z (TL.run aa [0,1] Z Z ?_)))))))
             rcases jF h with⟨c139,h⟩ | ⟨c139,h⟩
             ·refine TL.nil (X.seq (Ap Z (az (CN c139)) (T.skip (X.seq (T.seq (T.region Z (TL.q Z .u (Av (us := [jI x50,jI x53,.bool (decide (((x25 / 8) % 2)=1)),.bool (decide (((x25 / 16) % 2)=1)),.bool (decide ((x25 / 32)=1)),jI x56,jI x59,jI x62,jI x65,jI x68,jI x71,.slice A84 y83.length c85]) 1 Z Df C3 Z Z Z) Z (TL.run aa [1] Z Z ?_))))))))
              refine TL.q Z .u (AD (cells:= #[jI x50,jI x53,.bool (decide (((x25 / 8) % 2)=1)),.bool (decide (((x25 / 16) % 2)=1)),.bool (decide ((x25 / 32)=1)),jI x56,jI x59,jI x62,jI x65,jI x68,jI x71,.slice A84 y83.length c85,jI (x8+12),jI 0]) bc Z (by kernel_rfl)) Z ?_
              refine A5 (cs':= #[jI x50,jI x53,.bool (decide (((x25 / 8) % 2)=1)),.bool (decide (((x25 / 16) % 2)=1)),.bool (decide ((x25 / 32)=1)),jI x56,jI x59,jI x62,jI x65,jI x68,jI x71,.slice A84 y83.length c85,jI (x8+12),jI 0]) Z .u Z Z C8 Z Z Z Z ?_
              obtain rfl:=CP h
              exact TL.nil (X.seq (T.ret (Bu (by decide) 0 Z (AQ [0,0,0,0,0] Z (Ak [4,0] Dx (AF (us:= #[jI x50,jI x53,.bool (decide (((x25 / 8) % 2)=1)),.bool (decide (((x25 / 16) % 2)=1)),.bool (decide ((x25 / 32)=1)),jI x56,jI x59,jI x62,jI x65,jI x68,jI x71,.slice A84 y83.length c85,jI (x8+12),jI 0]) 3 Z DC C8 Z Z) ⟨_,_,Z,Z,Z⟩ (by rfl) (.inl Z))))))
             ·refine TL.nil (X.seq (Am Z (aD (CO c139)) (T.seq (T.region Z ?_))))
              obtain⟨x140,hx143,h⟩:=CM h
              refine TL.run aa [0] Z Z (AP Z .u (.fn Tryz.call151 Z) (aQ x137 _ hx143) (fun _ hs=>(RX.reads_triv _ _)) Z ?_)
              rintro _ _ _ ⟨A141,c142,rfl,rfl,rfl⟩
              refine AC [0,0,0,0,0,0] Z (Bn (cs':= #[jI x140.Cf.Cu,jI x140.Cf.Co,.bool x140.Cf.Cw,.bool x140.Cf.CE,.bool x140.Cf.Cq,jI x140.Cf.Cr,jI x140.Cf.Cl,jI x140.Cf.Cy,jI x140.Cf.Ci,jI x140.Cf.Cp,jI x140.Cf.Ch,.slice A141 x140.Cf.Ce.length c142,jI x140.CH,jI x140.CI]) Z .u Z Z C8 Z Z Z Z ?_)
              obtain rfl:=CP h
              exact TL.nil (X.seq (T.ret (Al (Ak [5,0] Dx (AF (us:= #[jI x140.Cf.Cu,jI x140.Cf.Co,.bool x140.Cf.Cw,.bool x140.Cf.CE,.bool x140.Cf.Cq,jI x140.Cf.Cr,jI x140.Cf.Cl,jI x140.Cf.Cy,jI x140.Cf.Ci,jI x140.Cf.Cp,jI x140.Cf.Ch,.slice A141 x140.Cf.Ce.length c142,jI x140.CH,jI x140.CI]) 4 Z DC C8 Z Z) ⟨_,_,Z,Z,Z⟩ (by rfl) (.inl Z)))))
            ·obtain⟨x144,hx145,h⟩:=CM h
             refine Ax Z .u (.fn Tryz.call12 Z) (bY (⟨x50,x53,decide (((x25 / 8) % 2)=1),decide (((x25 / 16) % 2)=1),decide ((x25 / 32)=1),x56,x59,x62,x65,x68,x71,y83⟩:Bat) _ _ _ hx145) (fun _ hs=>(SrcE.res 0 hs Z (fun w G h=>aP (by decide) w G h))) Z (TL.run aa [2] Z Z (TL.nil (X.seq (T.seq (T.seq (T.region Z (TL.run aa [0,1] Z Z ?_)))))))
             rcases jF h with⟨c146,h⟩ | ⟨c146,h⟩
             ·refine TL.nil (X.seq (Ap Z (az (CN c146)) (T.skip (X.seq (T.seq (T.region Z (TL.q Z .u (Av (us := [jI x50,jI x53,.bool (decide (((x25 / 8) % 2)=1)),.bool (decide (((x25 / 16) % 2)=1)),.bool (decide ((x25 / 32)=1)),jI x56,jI x59,jI x62,jI x65,jI x68,jI x71,.slice A84 y83.length c85]) 1 Z Df C3 Z Z Z) Z (TL.run aa [1] Z Z ?_))))))))
              refine TL.q Z .u (AD (cells:= #[jI x50,jI x53,.bool (decide (((x25 / 8) % 2)=1)),.bool (decide (((x25 / 16) % 2)=1)),.bool (decide ((x25 / 32)=1)),jI x56,jI x59,jI x62,jI x65,jI x68,jI x71,.slice A84 y83.length c85,jI (x8+12),jI 0]) bc Z (by kernel_rfl)) Z ?_
              refine A5 (cs':= #[jI x50,jI x53,.bool (decide (((x25 / 8) % 2)=1)),.bool (decide (((x25 / 16) % 2)=1)),.bool (decide ((x25 / 32)=1)),jI x56,jI x59,jI x62,jI x65,jI x68,jI x71,.slice A84 y83.length c85,jI (x8+12),jI 0]) Z .u Z Z C8 Z Z Z Z ?_
              obtain rfl:=CP h
              exact TL.nil (X.seq (T.ret (Bu (by decide) 0 Z (AQ [0,0,0,0,0] Z (Ak [4,0] Dx (AF (us:= #[jI x50,jI x53,.bool (decide (((x25 / 8) % 2)=1)),.bool (decide (((x25 / 16) % 2)=1)),.bool (decide ((x25 / 32)=1)),jI x56,jI x59,jI x62,jI x65,jI x68,jI x71,.slice A84 y83.length c85,jI (x8+12),jI 0]) 3 Z DC C8 Z Z) ⟨_,_,Z,Z,Z⟩ (by rfl) (.inl Z))))))
             ·refine TL.nil (X.seq (Am Z (aD (CO c146)) (T.seq (T.region Z ?_))))
              obtain⟨x147,hx150,h⟩:=CM h
              refine TL.run aa [0] Z Z (AP Z .u (.fn Tryz.call151 Z) (aQ x144 _ hx150) (fun _ hs=>(RX.reads_triv _ _)) Z ?_)
              rintro _ _ _ ⟨A148,c149,rfl,rfl,rfl⟩
              refine AC [0,0,0,0,0,0] Z (Bn (cs':= #[jI x147.Cf.Cu,jI x147.Cf.Co,.bool x147.Cf.Cw,.bool x147.Cf.CE,.bool x147.Cf.Cq,jI x147.Cf.Cr,jI x147.Cf.Cl,jI x147.Cf.Cy,jI x147.Cf.Ci,jI x147.Cf.Cp,jI x147.Cf.Ch,.slice A148 x147.Cf.Ce.length c149,jI x147.CH,jI x147.CI]) Z .u Z Z C8 Z Z Z Z ?_)
              obtain rfl:=CP h
              exact TL.nil (X.seq (T.ret (Al (Ak [5,0] Dx (AF (us:= #[jI x147.Cf.Cu,jI x147.Cf.Co,.bool x147.Cf.Cw,.bool x147.Cf.CE,.bool x147.Cf.Cq,jI x147.Cf.Cr,jI x147.Cf.Cl,jI x147.Cf.Cy,jI x147.Cf.Ci,jI x147.Cf.Cp,jI x147.Cf.Ch,.slice A148 x147.Cf.Ce.length c149,jI x147.CH,jI x147.CI]) 4 Z DC C8 Z Z) ⟨_,_,Z,Z,Z⟩ (by rfl) (.inl Z)))))
          ·rcases jF h with⟨c151,h⟩ | ⟨c151,h⟩
           ·rcases jF h with⟨c152,h⟩ | ⟨c152,h⟩
            ·obtain⟨x153,hx154,h⟩:=CM h
             refine Ax Z .u (.fn Tryz.call12 Z) (bY (⟨x50,x53,decide (((x25 / 8) % 2)=1),decide (((x25 / 16) % 2)=1),decide ((x25 / 32)=1),x56,x59,x62,x65,x68,x71,y83⟩:Bat) _ _ _ hx154) (fun _ hs=>(SrcE.res 0 hs Z (fun w G h=>aP (by decide) w G h))) Z (TL.run aa [2] Z Z (TL.nil (X.seq (T.seq (T.seq (T.region Z (TL.run aa [0,1] Z Z ?_)))))))
             rcases jF h with⟨c155,h⟩ | ⟨c155,h⟩
             ·refine TL.nil (X.seq (Ap Z (az (CN c155)) (T.skip (X.seq (T.seq (T.region Z (TL.q Z .u (Av (us := [jI x50,jI x53,.bool (decide (((x25 / 8) % 2)=1)),.bool (decide (((x25 / 16) % 2)=1)),.bool (decide ((x25 / 32)=1)),jI x56,jI x59,jI x62,jI x65,jI x68,jI x71,.slice A84 y83.length c85]) 1 Z Df C3 Z Z Z) Z (TL.run aa [1] Z Z ?_))))))))
              refine TL.q Z .u (AD (cells:= #[jI x50,jI x53,.bool (decide (((x25 / 8) % 2)=1)),.bool (decide (((x25 / 16) % 2)=1)),.bool (decide ((x25 / 32)=1)),jI x56,jI x59,jI x62,jI x65,jI x68,jI x71,.slice A84 y83.length c85,jI (x8+12),jI 0]) bc Z (by kernel_rfl)) Z ?_
              refine A5 (cs':= #[jI x50,jI x53,.bool (decide (((x25 / 8) % 2)=1)),.bool (decide (((x25 / 16) % 2)=1)),.bool (decide ((x25 / 32)=1)),jI x56,jI x59,jI x62,jI x65,jI x68,jI x71,.slice A84 y83.length c85,jI (x8+12),jI 0]) Z .u Z Z C8 Z Z Z Z ?_
              obtain rfl:=CP h
              exact TL.nil (X.seq (T.ret (Bu (by decide) 0 Z (AQ [0,0,0,0,0] Z (Ak [4,0] Dx (AF (us:= #[jI x50,jI x53,.bool (decide (((x25 / 8) % 2)=1)),.bool (decide (((x25 / 16) % 2)=1)),.bool (decide ((x25 / 32)=1)),jI x56,jI x59,jI x62,jI x65,jI x68,jI x71,.slice A84 y83.length c85,jI (x8+12),jI 0]) 3 Z DC C8 Z Z) ⟨_,_,Z,Z,Z⟩ (by rfl) (.inl Z))))))
             ·refine TL.nil (X.seq (Am Z (aD (CO c155)) (T.seq (T.region Z ?_))))
              obtain⟨x156,hx159,h⟩:=CM h
              refine TL.run aa [0] Z Z (AP Z .u (.fn Tryz.call151 Z) (aQ x153 _ hx159) (fun _ hs=>(RX.reads_triv _ _)) Z ?_)
              rintro _ _ _ ⟨A157,c158,rfl,rfl,rfl⟩
              refine AC [0,0,0,0,0,0] Z (Bn (cs':= #[jI x156.Cf.Cu,jI x156.Cf.Co,.bool x156.Cf.Cw,.bool x156.Cf.CE,.bool x156.Cf.Cq,jI x156.Cf.Cr,jI x156.Cf.Cl,jI x156.Cf.Cy,jI x156.Cf.Ci,jI x156.Cf.Cp,jI x156.Cf.Ch,.slice A157 x156.Cf.Ce.length c158,jI x156.CH,jI x156.CI]) Z .u Z Z C8 Z Z Z Z ?_)
              obtain rfl:=CP h
              exact TL.nil (X.seq (T.ret (Al (Ak [5,0] Dx (AF (us:= #[jI x156.Cf.Cu,jI x156.Cf.Co,.bool x156.Cf.Cw,.bool x156.Cf.CE,.bool x156.Cf.Cq,jI x156.Cf.Cr,jI x156.Cf.Cl,jI x156.Cf.Cy,jI x156.Cf.Ci,jI x156.Cf.Cp,jI x156.Cf.Ch,.slice A157 x156.Cf.Ce.length c158,jI x156.CH,jI x156.CI]) 4 Z DC C8 Z Z) ⟨_,_,Z,Z,Z⟩ (by rfl) (.inl Z)))))
            ·obtain⟨x160,hx161,h⟩:=CM h
             refine Ax Z .u (.fn Tryz.call12 Z) (bY (⟨x50,x53,decide (((x25 / 8) % 2)=1),decide (((x25 / 16) % 2)=1),decide ((x25 / 32)=1),x56,x59,x62,x65,x68,x71,y83⟩:Bat) _ _ _ hx161) (fun _ hs=>(SrcE.res 0 hs Z (fun w G h=>aP (by decide) w G h))) Z (TL.run aa [2] Z Z (TL.nil (X.seq (T.seq (T.seq (T.region Z (TL.run aa [0,1] Z Z ?_)))))))
             rcases jF h with⟨c162,h⟩ | ⟨c162,h⟩
             ·refine TL.nil (X.seq (Ap Z (az (CN c162)) (T.skip (X.seq (T.seq (T.region Z (TL.q Z .u (Av (us := [jI x50,jI x53,.bool (decide (((x25 / 8) % 2)=1)),.bool (decide (((x25 / 16) % 2)=1)),.bool (decide ((x25 / 32)=1)),jI x56,jI x59,jI x62,jI x65,jI x68,jI x71,.slice A84 y83.length c85]) 1 Z Df C3 Z Z Z) Z (TL.run aa [1] Z Z ?_))))))))
              refine TL.q Z .u (AD (cells:= #[jI x50,jI x53,.bool (decide (((x25 / 8) % 2)=1)),.bool (decide (((x25 / 16) % 2)=1)),.bool (decide ((x25 / 32)=1)),jI x56,jI x59,jI x62,jI x65,jI x68,jI x71,.slice A84 y83.length c85,jI (x8+12),jI 0]) bc Z (by kernel_rfl)) Z ?_
              refine A5 (cs':= #[jI x50,jI x53,.bool (decide (((x25 / 8) % 2)=1)),.bool (decide (((x25 / 16) % 2)=1)),.bool (decide ((x25 / 32)=1)),jI x56,jI x59,jI x62,jI x65,jI x68,jI x71,.slice A84 y83.length c85,jI (x8+12),jI 0]) Z .u Z Z C8 Z Z Z Z ?_
              obtain rfl:=CP h
              exact TL.nil (X.seq (T.ret (Bu (by decide) 0 Z (AQ [0,0,0,0,0] Z (Ak [4,0] Dx (AF (us:= #[jI x50,jI x53,.bool (decide (((x25 / 8) % 2)=1)),.bool (decide (((x25 / 16) % 2)=1)),.bool (decide ((x25 / 32)=1)),jI x56,jI x59,jI x62,jI x65,jI x68,jI x71,.slice A84 y83.length c85,jI (x8+12),jI 0]) 3 Z DC C8 Z Z) ⟨_,_,Z,Z,Z⟩ (by rfl) (.inl Z))))))
             ·refine TL.nil (X.seq (Am Z (aD (CO c162)) (T.seq (T.region Z ?_))))
              obtain⟨x163,hx166,h⟩:=CM h
              refine TL.run aa [0] Z Z (AP Z .u (.fn Tryz.call151 Z) (aQ x160 _ hx166) (fun _ hs=>(RX.reads_triv _ _)) Z ?_)
              rintro _ _ _ ⟨A164,c165,rfl,rfl,rfl⟩
              refine AC [0,0,0,0,0,0] Z (Bn (cs':= #[jI x163.Cf.Cu,jI x163.Cf.Co,.bool x163.Cf.Cw,.bool x163.Cf.CE,.bool x163.Cf.Cq,jI x163.Cf.Cr,jI x163.Cf.Cl,jI x163.Cf.Cy,jI x163.Cf.Ci,jI x163.Cf.Cp,jI x163.Cf.Ch,.slice A164 x163.Cf.Ce.length c165,jI x163.CH,jI x163.CI]) Z .u Z Z C8 Z Z Z Z ?_)
              obtain rfl:=CP h
              exact TL.nil (X.seq (T.ret (Al (Ak [5,0] Dx (AF (us:= #[jI x163.Cf.Cu,jI x163.Cf.Co,.bool x163.Cf.Cw,.bool x163.Cf.CE,.bool x163.Cf.Cq,jI x163.Cf.Cr,jI x163.Cf.Cl,jI x163.Cf.Cy,jI x163.Cf.Ci,jI x163.Cf.Cp,jI x163.Cf.Ch,.slice A164 x163.Cf.Ce.length c165,jI x163.CH,jI x163.CI]) 4 Z DC C8 Z Z) ⟨_,_,Z,Z,Z⟩ (by rfl) (.inl Z)))))
           ·rcases jF h with⟨c167,h⟩ | ⟨c167,h⟩
            ·obtain⟨x168,hx169,h⟩:=CM h
             refine Ax Z .u (.fn Tryz.call12 Z) (bY (⟨x50,x53,decide (((x25 / 8) % 2)=1),decide (((x25 / 16) % 2)=1),decide ((x25 / 32)=1),x56,x59,x62,x65,x68,x71,y83⟩:Bat) _ _ _ hx169) (fun _ hs=>(SrcE.res 0 hs Z (fun w G h=>aP (by decide) w G h))) Z (TL.run aa [2] Z Z (TL.nil (X.seq (T.seq (T.seq (T.region Z (TL.run aa [0,1] Z Z ?_)))))))
             rcases jF h with⟨c170,h⟩ | ⟨c170,h⟩
             ·refine TL.nil (X.seq (Ap Z (az (CN c170)) (T.skip (X.seq (T.seq (T.region Z (TL.q Z .u (Av (us := [jI x50,jI x53,.bool (decide (((x25 / 8) % 2)=1)),.bool (decide (((x25 / 16) % 2)=1)),.bool (decide ((x25 / 32)=1)),jI x56,jI x59,jI x62,jI x65,jI x68,jI x71,.slice A84 y83.length c85]) 1 Z Df C3 Z Z Z) Z (TL.run aa [1] Z Z ?_))))))))
              refine TL.q Z .u (AD (cells:= #[jI x50,jI x53,.bool (decide (((x25 / 8) % 2)=1)),.bool (decide (((x25 / 16) % 2)=1)),.bool (decide ((x25 / 32)=1)),jI x56,jI x59,jI x62,jI x65,jI x68,jI x71,.slice A84 y83.length c85,jI (x8+12),jI 0]) bc Z (by kernel_rfl)) Z ?_
              refine A5 (cs':= #[jI x50,jI x53,.bool (decide (((x25 / 8) % 2)=1)),.bool (decide (((x25 / 16) % 2)=1)),.bool (decide ((x25 / 32)=1)),jI x56,jI x59,jI x62,jI x65,jI x68,jI x71,.slice A84 y83.length c85,jI (x8+12),jI 0]) Z .u Z Z C8 Z Z Z Z ?_
              obtain rfl:=CP h
              exact TL.nil (X.seq (T.ret (Bu (by decide) 0 Z (AQ [0,0,0,0,0] Z (Ak [4,0] Dx (AF (us:= #[jI x50,jI x53,.bool (decide (((x25 / 8) % 2)=1)),.bool (decide (((x25 / 16) % 2)=1)),.bool (decide ((x25 / 32)=1)),jI x56,jI x59,jI x62,jI x65,jI x68,jI x71,.slice A84 y83.length c85,jI (x8+12),jI 0]) 3 Z DC C8 Z Z) ⟨_,_,Z,Z,Z⟩ (by rfl) (.inl Z))))))
             ·refine TL.nil (X.seq (Am Z (aD (CO c170)) (T.seq (T.region Z ?_))))
              obtain⟨x171,hx174,h⟩:=CM h
              refine TL.run aa [0] Z Z (AP Z .u (.fn Tryz.call151 Z) (aQ x168 _ hx174) (fun _ hs=>(RX.reads_triv _ _)) Z ?_)
              rintro _ _ _ ⟨A172,c173,rfl,rfl,rfl⟩
              refine AC [0,0,0,0,0,0] Z (Bn (cs':= #[jI x171.Cf.Cu,jI x171.Cf.Co,.bool x171.Cf.Cw,.bool x171.Cf.CE,.bool x171.Cf.Cq,jI x171.Cf.Cr,jI x171.Cf.Cl,jI x171.Cf.Cy,jI x171.Cf.Ci,jI x171.Cf.Cp,jI x171.Cf.Ch,.slice A172 x171.Cf.Ce.length c173,jI x171.CH,jI x171.CI]) Z .u Z Z C8 Z Z Z Z ?_)
              obtain rfl:=CP h
              exact TL.nil (X.seq (T.ret (Al (Ak [5,0] Dx (AF (us:= #[jI x171.Cf.Cu,jI x171.Cf.Co,.bool x171.Cf.Cw,.bool x171.Cf.CE,.bool x171.Cf.Cq,jI x171.Cf.Cr,jI x171.Cf.Cl,jI x171.Cf.Cy,jI x171.Cf.Ci,jI x171.Cf.Cp,jI x171.Cf.Ch,.slice A172 x171.Cf.Ce.length c173,jI x171.CH,jI x171.CI]) 4 Z DC C8 Z Z) ⟨_,_,Z,Z,Z⟩ (by rfl) (.inl Z)))))
            ·obtain⟨x175,hx176,h⟩:=CM h
             refine Ax Z .u (.fn Tryz.call12 Z) (bY (⟨x50,x53,decide (((x25 / 8) % 2)=1),decide (((x25 / 16) % 2)=1),decide ((x25 / 32)=1),x56,x59,x62,x65,x68,x71,y83⟩:Bat) _ _ _ hx176) (fun _ hs=>(SrcE.res 0 hs Z (fun w G h=>aP (by decide) w G h))) Z (TL.run aa [2] Z Z (TL.nil (X.seq (T.seq (T.seq (T.region Z (TL.run aa [0,1] Z Z ?_)))))))
             rcases jF h with⟨c177,h⟩ | ⟨c177,h⟩
             ·refine TL.nil (X.seq (Ap Z (az (CN c177)) (T.skip (X.seq (T.seq (T.region Z (TL.q Z .u (Av (us := [jI x50,jI x53,.bool (decide (((x25 / 8) % 2)=1)),.bool (decide (((x25 / 16) % 2)=1)),.bool (decide ((x25 / 32)=1)),jI x56,jI x59,jI x62,jI x65,jI x68,jI x71,.slice A84 y83.length c85]) 1 Z Df C3 Z Z Z) Z (TL.run aa [1] Z Z ?_))))))))
              refine TL.q Z .u (AD (cells:= #[jI x50,jI x53,.bool (decide (((x25 / 8) % 2)=1)),.bool (decide (((x25 / 16) % 2)=1)),.bool (decide ((x25 / 32)=1)),jI x56,jI x59,jI x62,jI x65,jI x68,jI x71,.slice A84 y83.length c85,jI (x8+12),jI 0]) bc Z (by kernel_rfl)) Z ?_
              refine A5 (cs':= #[jI x50,jI x53,.bool (decide (((x25 / 8) % 2)=1)),.bool (decide (((x25 / 16) % 2)=1)),.bool (decide ((x25 / 32)=1)),jI x56,jI x59,jI x62,jI x65,jI x68,jI x71,.slice A84 y83.length c85,jI (x8+12),jI 0]) Z .u Z Z C8 Z Z Z Z ?_
              obtain rfl:=CP h
              exact TL.nil (X.seq (T.ret (Bu (by decide) 0 Z (AQ [0,0,0,0,0] Z (Ak [4,0] Dx (AF (us:= #[jI x50,jI x53,.bool (decide (((x25 / 8) % 2)=1)),.bool (decide (((x25 / 16) % 2)=1)),.bool (decide ((x25 / 32)=1)),jI x56,jI x59,jI x62,jI x65,jI x68,jI x71,.slice A84 y83.length c85,jI (x8+12),jI 0]) 3 Z DC C8 Z Z) ⟨_,_,Z,Z,Z⟩ (by rfl) (.inl Z))))))
             ·refine TL.nil (X.seq (Am Z (aD (CO c177)) (T.seq (T.region Z ?_))))
              obtain⟨x178,hx181,h⟩:=CM h
              refine TL.run aa [0] Z Z (AP Z .u (.fn Tryz.call151 Z) (aQ x175 _ hx181) (fun _ hs=>(RX.reads_triv _ _)) Z ?_)
              rintro _ _ _ ⟨A179,c180,rfl,rfl,rfl⟩
              refine AC [0,0,0,0,0,0] Z (Bn (cs':= #[jI x178.Cf.Cu,jI x178.Cf.Co,.bool x178.Cf.Cw,.bool x178.Cf.CE,.bool x178.Cf.Cq,jI x178.Cf.Cr,jI x178.Cf.Cl,jI x178.Cf.Cy,jI x178.Cf.Ci,jI x178.Cf.Cp,jI x178.Cf.Ch,.slice A179 x178.Cf.Ce.length c180,jI x178.CH,jI x178.CI]) Z .u Z Z C8 Z Z Z Z ?_)
              obtain rfl:=CP h
              exact TL.nil (X.seq (T.ret (Al (Ak [5,0] Dx (AF (us:= #[jI x178.Cf.Cu,jI x178.Cf.Co,.bool x178.Cf.Cw,.bool x178.Cf.CE,.bool x178.Cf.Cq,jI x178.Cf.Cr,jI x178.Cf.Cl,jI x178.Cf.Cy,jI x178.Cf.Ci,jI x178.Cf.Cp,jI x178.Cf.Ch,.slice A179 x178.Cf.Ce.length c180,jI x178.CH,jI x178.CI]) 4 Z DC C8 Z Z) ⟨_,_,Z,Z,Z⟩ (by rfl) (.inl Z)))))
         ·refine TL.nil (X.seq (Am Z (aD (CO c118)) ?_))
          obtain⟨x182,hx185,h⟩:=CM h
          refine T.seq (T.region Z (AP Z .u (.fn Tryz.call151 Z) (aQ 10 _ hx185) (fun _ hs=>(RX.reads_triv _ _)) Z ?_))
          rintro _ _ _ ⟨A183,c184,rfl,rfl,rfl⟩
          refine AC [0,0,0,0,0,0] Z (Bn (cs':= #[jI x182.Cf.Cu,jI x182.Cf.Co,.bool x182.Cf.Cw,.bool x182.Cf.CE,.bool x182.Cf.Cq,jI x182.Cf.Cr,jI x182.Cf.Cl,jI x182.Cf.Cy,jI x182.Cf.Ci,jI x182.Cf.Cp,jI x182.Cf.Ch,.slice A183 x182.Cf.Ce.length c184,jI x182.CH,jI x182.CI]) Z .u Z Z C8 Z Z Z Z ?_)
          obtain rfl:=CP h
          exact TL.nil (X.seq (T.ret (Al (Ak [5,0] Dx (AF (us:= #[jI x182.Cf.Cu,jI x182.Cf.Co,.bool x182.Cf.Cw,.bool x182.Cf.CE,.bool x182.Cf.Cq,jI x182.Cf.Cr,jI x182.Cf.Cl,jI x182.Cf.Cy,jI x182.Cf.Ci,jI x182.Cf.Cp,jI x182.Cf.Ch,.slice A183 x182.Cf.Ce.length c184,jI x182.CH,jI x182.CI]) 4 Z DC C8 Z Z) ⟨_,_,Z,Z,Z⟩ (by rfl) (.inl Z)))))
    ·refine TL.nil (X.seq (Am Z (aD (CO c33)) ?_))
     obtain⟨x259,hx262,h⟩:=CM h
     refine T.seq (T.region Z (AP Z .u (.fn Tryz.call151 Z) (aQ 9 _ hx262) (fun _ hs=>(RX.reads_triv _ _)) Z ?_))
     rintro _ _ _ ⟨A260,c261,rfl,rfl,rfl⟩
     refine AC [0,0,0,0] Z (Bq (cs':= #[jI x259.Cf.Cu,jI x259.Cf.Co,.bool x259.Cf.Cw,.bool x259.Cf.CE,.bool x259.Cf.Cq,jI x259.Cf.Cr,jI x259.Cf.Cl,jI x259.Cf.Cy,jI x259.Cf.Ci,jI x259.Cf.Cp,jI x259.Cf.Ch,.slice A260 x259.Cf.Ce.length c261,jI x259.CH,jI x259.CI]) Z .u Z Z C8 Z Z Z Z ?_)
     obtain rfl:=CP h
     exact TL.nil (X.seq (T.ret (Al (Ak [3,0] Dx (AF (us:= #[jI x259.Cf.Cu,jI x259.Cf.Co,.bool x259.Cf.Cw,.bool x259.Cf.CE,.bool x259.Cf.Cq,jI x259.Cf.Cr,jI x259.Cf.Cl,jI x259.Cf.Cy,jI x259.Cf.Ci,jI x259.Cf.Cp,jI x259.Cf.Ch,.slice A260 x259.Cf.Ce.length c261,jI x259.CH,jI x259.CI]) 2 Z DC C8 Z Z) ⟨_,_,Z,Z,Z⟩ (by rfl) (.inl Z)))))
   ·refine TD.nil (X.seq (Am Z (aD (CO c24)) ?_))
    obtain⟨x263,hx266,h⟩:=CM h
    refine T.seq (T.region Z (AP Z .u (.fn Tryz.call151 Z) (aQ 5 _ hx266) (fun _ hs=>(RX.reads_triv _ _)) Z ?_))
    rintro _ _ _ ⟨A264,c265,rfl,rfl,rfl⟩
    refine AC [0,0,0,0] Z (Bq (cs':= #[jI x263.Cf.Cu,jI x263.Cf.Co,.bool x263.Cf.Cw,.bool x263.Cf.CE,.bool x263.Cf.Cq,jI x263.Cf.Cr,jI x263.Cf.Cl,jI x263.Cf.Cy,jI x263.Cf.Ci,jI x263.Cf.Cp,jI x263.Cf.Ch,.slice A264 x263.Cf.Ce.length c265,jI x263.CH,jI x263.CI]) Z .u Z Z C8 Z Z Z Z ?_)
    obtain rfl:=CP h
    exact TL.nil (X.seq (T.ret (Al (Ak [3,0] Dx (AF (us:= #[jI x263.Cf.Cu,jI x263.Cf.Co,.bool x263.Cf.Cw,.bool x263.Cf.CE,.bool x263.Cf.Cq,jI x263.Cf.Cr,jI x263.Cf.Cl,jI x263.Cf.Cy,jI x263.Cf.Ci,jI x263.Cf.Cp,jI x263.Cf.Ch,.slice A264 x263.Cf.Ce.length c265,jI x263.CH,jI x263.CI]) 2 Z DC C8 Z Z) ⟨_,_,Z,Z,Z⟩ (by rfl) (.inl Z)))))
 ·refine TL.nil (X.seq (Am Z (aD (CO c7)) (T.seq (T.region Z ?_))))
  obtain⟨x267,hx270,h⟩:=CM h
  refine TL.run aa [0] Z Z (AP Z .u (.fn Tryz.call151 Z) (aQ x5 _ hx270) (fun _ hs=>(RX.reads_triv _ _)) Z ?_)
  rintro _ _ _ ⟨A268,c269,rfl,rfl,rfl⟩
  refine AC [0,0,0,0] Z (Bq (cs':= #[jI x267.Cf.Cu,jI x267.Cf.Co,.bool x267.Cf.Cw,.bool x267.Cf.CE,.bool x267.Cf.Cq,jI x267.Cf.Cr,jI x267.Cf.Cl,jI x267.Cf.Cy,jI x267.Cf.Ci,jI x267.Cf.Cp,jI x267.Cf.Ch,.slice A268 x267.Cf.Ce.length c269,jI x267.CH,jI x267.CI]) Z .u Z Z C8 Z Z Z Z ?_)
  obtain rfl:=CP h
  exact TL.nil (X.seq (T.ret (Al (Ak [3,0] Dx (AF (us:= #[jI x267.Cf.Cu,jI x267.Cf.Co,.bool x267.Cf.Cw,.bool x267.Cf.CE,.bool x267.Cf.Cq,jI x267.Cf.Cr,jI x267.Cf.Cl,jI x267.Cf.Cy,jI x267.Cf.Ci,jI x267.Cf.Cp,jI x267.Cf.Ch,.slice A268 x267.Cf.Ce.length c269,jI x267.CH,jI x267.CI]) 2 Z DC C8 Z Z) ⟨_,_,Z,Z,Z⟩ (by rfl) (.inl Z)))))
def dD (a0:List Bat) (a1:List Bat):Nat→Bool→Nat→Option (Lp Bool (Bool×Nat))
 | 0,_,_=>none
 | m11+1,y6,k7=>if (k7:Int)<(a0.length:Int) then ((a0[k7]?).bind fun x16=>(a1[k7]?).bind fun x22=>(jc x16 x22).bind fun x28=>if x28=true then (if -9223372036854775808≤((k7:Int)+1)∧((k7:Int)+1)≤9223372036854775807 then (dD a0 a1 m11 y6 (k7+1)) else none) else some (Lp.ret false)) else (some (Lp.go (y6,k7)))
def gL (a0:List Bat) (a1:List Bat):Option (Bool):=if (a0.length:Int)=(a1.length:Int) then ((dD a0 a1 (((a0.length:Int)).toNat+1) false 0).bind fun e=>match e with | .ret r=>some r | .go (y32,k33)=>some true) else some false
theorem pk (a0:List Bat) (A1:Option Addr) (c2:Nat) (a1:List Bat) (A3:Option Addr) (c4:Nat) (r:Bool) (h:gL a0 a1=some r):ay Tryz.prog 66 #[.slice A1 a0.length c2,.slice A3 a1.length c4] (RX.and (RX.of (av 12 bD) [.slice A1 a0.length c2] a0) (RX.of (av 12 bD) [.slice A3 a1.length c4] a1)) (aB) (fun v A' N=>v= .bool r∧A'=aB∧N = []):=by
 refine aL Tryz.func66 Z Tryz.ntmps66 Z ?_
 intro F w hX
 unfold gL at h
 refine T.seq (T.region Z (TL.run aa [0] Z Z (TL.nil (X.seq (T.seq (T.seq (T.region Z (TL.run aa [0] Z Z (TL.q Z .u (AA Z Dk) Z (TL.run aa [2] Z Z (TL.q Z .u (AA Z Dk) Z (TL.run aa [4] Z Z ?_))))))))))))
 rcases jF h with⟨c5,h⟩ | ⟨c5,h⟩
 ·refine TL.nil (X.seq (Ap Z (az (CN c5)) (T.skip (X.seq (T.seq (T.seq (T.region Z (TL.run aa [0] Z Z (TL.nil (X.seq (T.block ?_)))))))))))
  obtain⟨E8,hE9,hO10⟩:=CM h
  refine AV (fun m e Rs=> ∃ (y6:Bool) (k7:Nat),e = [(0,.slice A1 a0.length c2),(1,.slice A3 a1.length c4),(4,.bool y6),(5,jI (k7:Int))]∧Rs = [aB]∧dD a0 a1 m y6 k7=some E8) (((a0.length:Int)).toNat+1) [0] ⟨false,0,Z,Z,by exact hE9⟩ (by rfl) (by rfl) ?_
  rintro m11 _ _ ⟨y6,k7,rfl,rfl,hl13⟩
  clear hE9 h
  cases m11 with
  | zero =>
   rw[dD] at hl13
   cases hl13
  | succ m11 =>
   have h:=hl13
   clear hl13
   rw[dD] at h
   refine T.seq (T.seq (T.region Z (TL.run aa [0,1] Z Z (TL.q Z .u (AA Z Dk) Z (TL.run aa [3] Z Z ?_)))))
   rcases jF h with⟨c15,h⟩ | ⟨c15,h⟩
   ·refine TL.nil (X.seq (Am Z (CN c15) ?_))
    refine T.skip (X.seq (T.seq (T.block (T.seq (AH (.q 0 (.q 1 (.q 2 (.q 3 (.q 4 (.q 5 (.q 6 (.q 7 (.e 8 (.q 9 .nil)))))))))) [0] Z cR (NoP.seq (NoP.blk (NoP.seq (NoP.seq (NoP.blk (NoP.seq aM)))))) (by kernel_rfl) ?_)))))
    obtain⟨x16,hx17,h⟩:=CM h
    obtain⟨gz18,oz18,rfl,z18cs,z18cl,z18cc,z18nf,z18r⟩:=AK (by decide) (BD hX) hx17
    obtain⟨z18S,z18r,z18rr⟩:=z18r
    obtain⟨A19,c20,rfl,z18s0⟩:=z18r
    have hX21:(RX.of (av 7 aU) [.slice A19 x16.Ce.length c20] x16.Ce).reads w F:=⟨z18S,z18s0,z18rr⟩
    refine TD.run aa [0,1] Z Z ?_
    refine TD.q Z .u (Aw (k:=k7) Z Z Z Dk C3 (CU hx17).1) Z ?_
    refine TD.q Z .u (Bb (us := [jI x16.Cu,jI x16.Co,.bool x16.Cw,.bool x16.CE,.bool x16.Cq,jI x16.Cr,jI x16.Cl,jI x16.Cy,jI x16.Ci,jI x16.Cp,jI x16.Ch,.slice A19 x16.Ce.length c20]) 0 Z Df C3 z18nf z18cc Z Z Z) Z ?_
    obtain⟨x22,hx23,h⟩:=CM h
    obtain⟨gz24,oz24,rfl,z24cs,z24cl,z24cc,z24nf,z24r⟩:=AK (by decide) (Br hX) hx23
    obtain⟨z24S,z24r,z24rr⟩:=z24r
    obtain⟨A25,c26,rfl,z24s0⟩:=z24r
    have hX27:(RX.of (av 7 aU) [.slice A25 x22.Ce.length c26] x22.Ce).reads w F:=⟨z24S,z24s0,z24rr⟩
    refine TD.run aa [4,5] Z Z ?_
    refine TD.q Z .u (Aw (k:=k7) Z Z Z Dk C3 (CU hx23).1) Z ?_
    refine TD.q Z .u (Bb (us := [jI x22.Cu,jI x22.Co,.bool x22.Cw,.bool x22.CE,.bool x22.Cq,jI x22.Cr,jI x22.Cl,jI x22.Cy,jI x22.Ci,jI x22.Cp,jI x22.Ch,.slice A25 x22.Ce.length c26]) 0 Z Df C3 z24nf z24cc Z Z Z) Z ?_
    obtain⟨x28,hx29,h⟩:=CM h
    refine AR Z .u (.fn Tryz.call13 Z) (pi x16 _ _ x22 _ _ _ hx29) (fun _ hs=>(BB (AE hs hX21) (AE hs hX27))) Z [0] (Z) (TD.run aa [9] Z Z ?_)
    rcases jF h with⟨c30,h⟩ | ⟨c30,h⟩
    ·refine TD.nil (X.seq (Ap Z (az c30) (T.skip (Az (X.seq (T.region Z ?_))))))
     replace h:=ak h
     obtain⟨c31,h⟩:=h
     exact TL.run aa [0] Z Z (TL.q Z .u (Ex.add Z Z c31) Z (TL.run aa [2] Z Z (TL.nil (X.back (m':=m11) [0] (by omega) ⟨y6,k7+1,Z,Z,h⟩ (by rfl) (by rfl)))))
    ·replace c30:=CX c30
     refine TD.nil (X.seq (Am Z (aD c30) (T.seq (T.region Z (TL.run aa [0] Z Z ?_)))))
     obtain rfl:=CP h
     replace h:=hO10
     clear hO10
     try dsimp only at h
     obtain rfl:=CP h
     exact TL.nil (X.seq (T.ret (At (Al (Al (At (Al (Ak [0] Tryz.results66 (Aj Z) ⟨Z,Z,Z⟩ (by rfl) (.inl Z)))))))))
   ·refine TL.nil (X.seq (Ap Z (CO c15) ?_))
    obtain rfl:=CP h
    replace h:=hO10
    clear hO10
    try dsimp only at h
    refine T.exit (Au (Au (AS (X.seq (T.seq (T.region Z (TL.run aa [0] Z Z ?_)))))))
    obtain rfl:=CP h
    exact TL.nil (X.seq (T.ret (Ak [0] Tryz.results66 (Aj Z) ⟨Z,Z,Z⟩ (by rfl) (.inl Z))))
 ·refine TL.nil (X.seq (Am Z (aD (CO c5)) (T.seq (T.region Z (TL.run aa [0] Z Z ?_)))))
  obtain rfl:=CP h
  exact TL.nil (X.seq (T.ret (Al (Ak [0] Tryz.results66 (Aj Z) ⟨Z,Z,Z⟩ (by rfl) (.inl Z)))))
end Go.Proofs.YtcoppaggpbfcmaaGreat.Sl
