/- produceReads_holds: part 8. -/
import Derived.Test.YtcoppaggpbfcmaaGreatK7
set_option maxRecDepth 100000
set_option maxHeartbeats 4000000
set_option linter.defProp false
namespace Go.Proofs.YtcoppaggpbfcmaaGreat.Sl
open Go.RowKit
set_option linter.unusedVariables false
set_option linter.unusedSimpArgs false
def DF := @Tryz.runUnderlying142
def DG := @Tryz.runUnderlying48
def DH := @Tryz.runUnderlying79
def DJ := @Tryz.sizeOf84
def DM := @Tryz.sizeOf50
def DQ := @Tryz.sizeOf189
def DR := @Tryz.sizeOf81
def DX := @Tryz.runUnderlying50
def D4 := @Tryz.results128
def D6 := @Tryz.isAgg50
def Eh := @Tryz.isAgg79
def Ei := @Tryz.isAgg82
def Em := @Tryz.runUnderlying81
def Eo := @Tryz.isAgg106
def Eu := @Tryz.sizeOf82
def Ev := @Tryz.runUnderlying84
def EG := @Tryz.results153
def EK := @Tryz.isAgg84
def EL := @Tryz.isAgg48
def EM := @Tryz.runUnderlying189
def EV := @Tryz.results79
def EW := @Tryz.results80
def EX := @Tryz.results30
def Fb := @Tryz.sizeOf79
def Fj := @Tryz.isAgg81
def Fn := @Tryz.results19
def Fo := @Tryz.sizeOf106
def vy:fv := [(27,3,3),(27,4,4),(35,0,0),(35,1,1),(50,0,0),(50,1,2),(50,2,3),(50,3,4),(81,0,0),(81,1,1),(84,0,0),(84,1,1)]
theorem ah:(vy).OK Tryz.prog:=⟨FOK.mk Da rfl DK rfl,FOK.mk Da rfl DK rfl,FOK.mk DD rfl DK rfl,FOK.mk DD rfl DT rfl,FOK.mk DX rfl C7 rfl,FOK.mk DX rfl CY rfl,FOK.mk DX rfl CY rfl,FOK.mk DX rfl Tryz.sizeOf48 rfl,FOK.mk Em rfl DT rfl,FOK.mk Em rfl Fb rfl,FOK.mk Ev rfl CY rfl,FOK.mk Ev rfl Eu rfl,trivial⟩
theorem jA:Tryz.prog.follows .mixedOrders=true:=by kernel_rfl
theorem gt:BOK Tryz.prog 50 #[.bool false,.string ⟨#[]⟩,.int .i64 0,.int .i64 0,.slice none 0 0] [(0,2),(2,1),(3,1),(4,1)]:=BOK.mk Tryz.zeroValue50 DX (by intro w; simp)
theorem qM:BOK Tryz.prog 81 #[.string ⟨#[]⟩,.slice none 0 0] [(0,1),(1,1)]:=BOK.mk Tryz.zeroValue81 Em (by intro w; simp)
theorem qN:BOK Tryz.prog 84 #[.int .i64 0,.slice none 0 0] [(0,1),(1,1)]:=BOK.mk Tryz.zeroValue84 Ev (by intro w; simp)
theorem ol:SOK Tryz.prog 48 81 1 2 #[.string ⟨#[]⟩,.slice none 0 0]:=SOK.mk DG DR Tryz.zeroValue81 (by decide) (by kernel_rfl)
theorem gO:SOK Tryz.prog 79 84 1 2 #[.int .i64 0,.slice none 0 0]:=SOK.mk DH DJ Tryz.zeroValue84 (by decide) (by kernel_rfl)
theorem gP:SOK Tryz.prog 82 27 1 12 #[.int .i64 0,.int .i64 0,.bool false,.bool false,.bool false,.int .i64 0,.int .i64 0,.int .i64 0,.int .i64 0,.int .i64 0,.int .i64 0,.slice none 0 0]:=SOK.mk Dk C3 Tryz.zeroValue27 (by decide) (by kernel_rfl)
theorem je:(Tryz.prog.info? 27).map (fun i=>(i.zero,i.size,i.bytes))=some (some (.agg #[.int .i64 0,.int .i64 0,.bool false,.bool false,.bool false,.int .i64 0,.int .i64 0,.int .i64 0,.int .i64 0,.int .i64 0,.int .i64 0,.slice none 0 0]),12,96):=by kernel_rfl
theorem qO:(Tryz.prog.info? 81).map (fun i=>(i.zero,i.size,i.bytes))=some (some (.agg #[.string ⟨#[]⟩,.slice none 0 0]),2,40):=by kernel_rfl
theorem jf:(Tryz.prog.info? 84).map (fun i=>(i.zero,i.size,i.bytes))=some (some (.agg #[.int .i64 0,.slice none 0 0]),2,32):=by kernel_rfl
def cn (x10:ax):List aE→Int→Nat→Option (Lp Int Int)
 | [],y158,k159=>some (Lp.go y158)
 | x164::xs,y158,k159=>(if x164.CD<0 then some true else ((jW x164.CD 4).bind fun x223=>if x223=true then (if (k159:Int)>0 then (if -9223372036854775808≤((k159:Int) - 1)∧((k159:Int) - 1)≤9223372036854775807 then (if 0≤((k159:Int) - 1) then ((x10.Cj[((k159:Int) - 1).toNat]?).bind fun x229=>if x229.CD≥x164.CD then some true else some false) else none) else none) else some false) else some true)).bind fun y220=>if y220=true then some (Lp.ret 13) else (cn x10 xs y158 (k159+1))
def bC (a0:List ax):List ax→Int→Nat→Option (Lp Int Int)
 | [],y4,k5=>some (Lp.go y4)
 | x10::xs,y4,k5=>if (x10.Cj.length:Int)=0 then some (Lp.ret 10) else ((if x10.Cx = [] then some true else (if (x10.Cx.length:Int)>32767 then some true else (if (k5:Int)>0 then (if -9223372036854775808≤((k5:Int) - 1)∧((k5:Int) - 1)≤9223372036854775807 then (if 0≤((k5:Int) - 1) then ((a0[((k5:Int) - 1).toNat]?).bind fun x150=>if (Op.bytesLess x150.Cx x10.Cx)=true then some false else some true) else none) else none) else some false))).bind fun y143=>if y143=true then some (Lp.ret 13) else ((cn x10 x10.Cj y4 0).bind fun e=>match e with | .ret r=>some (Lp.ret r) | .go y237=>(bC a0 xs y237 (k5+1))))
theorem ml (a0:List ax) (y4:Int) (k5:Nat):bC a0 [] y4 k5=(some (Lp.go y4)):=rfl
theorem mm (a0:List ax) (x10:ax) (xs:List ax) (y4:Int) (k5:Nat):bC a0 (x10::xs) y4 k5=(if (x10.Cj.length:Int)=0 then some (Lp.ret 10) else ((if x10.Cx = [] then some true else (if (x10.Cx.length:Int)>32767 then some true else (if (k5:Int)>0 then (if -9223372036854775808≤((k5:Int) - 1)∧((k5:Int) - 1)≤9223372036854775807 then (if 0≤((k5:Int) - 1) then ((a0[((k5:Int) - 1).toNat]?).bind fun x150=>if (Op.bytesLess x150.Cx x10.Cx)=true then some false else some true) else none) else none) else some false))).bind fun y143=>if y143=true then some (Lp.ret 13) else ((cn x10 x10.Cj y4 0).bind fun e=>match e with | .ret r=>some (Lp.ret r) | .go y237=>(bC a0 xs y237 (k5+1))))):=rfl
def fk (a0:List ax):Option (Int):=if (a0.length:Int)=0 then some 10 else ((bC a0 a0 0 0).bind fun e=>match e with | .ret r=>some r | .go y239=>some 0)
theorem mn (a0:List ax) (A1:Option Addr) (c2:Nat) (r:Int) (h:fk a0=some r):ay Tryz.prog 79 #[.slice A1 a0.length c2] (RX.of (av 2 aO) [.slice A1 a0.length c2] a0) (aB) (fun v A' N=>v=jI r∧A'=aB∧N = []):=by
 refine aL Tryz.func79 Z Tryz.ntmps79 Z ?_
 intro F w hX
 unfold fk at h
 refine T.seq (T.region Z (TL.run ah [0] Z Z (TL.nil (X.seq (T.seq (T.seq (T.region Z (TL.run ah [0] Z Z (TL.q Z .u (AA Z DG) Z (TL.run ah [2] Z Z ?_))))))))))
 rcases jF h with⟨c3,h⟩ | ⟨c3,h⟩
 ·refine TL.nil (X.seq (Am Z (CN c3) (T.seq (T.region Z (TL.run ah [0] Z Z ?_)))))
  obtain rfl:=CP h
  exact TL.nil (X.seq (T.ret (Al (Ak [0] EV (Aj Z) ⟨Z,Z,Z⟩ (by rfl) (.inl Z)))))
 ·refine TL.nil (X.seq (Ap Z (CO c3) (T.skip (X.seq (T.seq (T.seq (T.region Z (TL.run ah [0] Z Z (TL.q Z .u (AA Z DG) Z (TL.run ah [2] Z Z (TL.nil (X.seq (T.block ?_)))))))))))))
  obtain⟨E6,hE7,hO8⟩:=CM h
  have hk12len:=Bf hX
  refine AV (fun m e Rs=> ∃ (y4:Int) (k5:Nat),k5+m=a0.length∧e = [(0,.slice A1 a0.length c2),(2,jI y4),(10,.slice A1 a0.length c2),(11,jI (a0.length:Int)),(12,jI (k5:Int))]∧Rs = [aB]∧bC a0 (a0.drop k5) y4 k5=some E6) (a0.length) [0] ⟨0,0,by simp,Z,Z,by rw[List.drop_zero]; exact hE7⟩ (by rfl) (by rfl) ?_
  rintro m9 _ _ ⟨y4,k5,hk12,rfl,rfl,hl11⟩
  clear hE7 h
  cases m9 with
  | zero =>
   have h:=hl11
   clear hl11
   rw[List.drop_of_length_le (by omega),ml] at h
   have hk12ge: ¬ ((k5:Int)<(a0.length:Int)):=by omega
   refine T.seq (T.region Z (TL.run ah [0] Z Z (TL.nil (X.seq (T.seq (Ap Z (CO hk12ge) ?_))))))
   obtain rfl:=CP h
   replace h:=hO8
   clear hO8
   try dsimp only at h
   refine T.exit (Au (Au (AS (X.seq (T.seq (T.region Z (TL.run ah [0] Z Z ?_)))))))
   obtain rfl:=CP h
   exact TL.nil (X.seq (T.ret (Ak [0] EV (Aj Z) ⟨Z,Z,Z⟩ (by rfl) (.inl Z))))
  | succ m9 =>
   have h:=hl11
   clear hl11
   obtain⟨x10,hxx10⟩: ∃ x,a0[k5]? = some x:=⟨_,List.getElem?_eq_getElem (by omega)⟩
   rw[bU hxx10,mm] at h
   have hk12lt:(k5:Int)<(a0.length:Int):=by omega
   refine T.seq (T.region Z (TL.run ah [0] Z Z (TL.nil (X.seq (T.seq (Am Z (CN hk12lt) (T.skip (X.seq (T.seq (T.block (T.seq (T.region Z ?_))))))))))))
   obtain⟨gz126,oz126,rfl,z126cs,z126cl,z126cc,z126nf,z126r⟩:=AK (by decide) hX hxx10
   obtain⟨z126S,z126r,z126rr⟩:=z126r
   obtain⟨A127,c128,rfl,z126s0⟩:=z126r
   have hX129:(RX.of (av 2 bm) [.slice A127 x10.Cj.length c128] x10.Cj).reads w F:=⟨z126S,z126s0,z126rr⟩
   refine TL.run ah [0] Z Z ?_
   refine TL.q Z .u (Aw (k:=k5) Z Z Z DG DR (CU hxx10).1) Z ?_
   refine TL.q Z .u (Bb (us := [jS x10.Cx,.slice A127 x10.Cj.length c128]) 0 Z Fj DR z126nf z126cc Z Z Z) Z (TL.alloc Z .u Tryz.zeroValue81 Z (fun b130=>(TL.run ah [4] Z Z (Ay (cs':= #[jS x10.Cx,.slice A127 x10.Cj.length c128]) Z .u Z Z DR Z Z Z Z (TL.nil (X.seq (T.seq (T.seq (T.region Z (TL.run ah [0] Z Z (TL.q Z .u (Ai 0 Z Eh Z Z) Z (TL.q Z .u (AA Z DH) Z ?_))))))))))))
   refine TL.run ah [3] Z Z ?_
   rcases jF h with⟨c131,h⟩ | ⟨c131,h⟩
   ·refine TL.nil (X.seq (Am Z (CN c131) (T.seq (T.region Z (TL.run ah [0] Z Z ?_)))))
    obtain rfl:=CP h
    replace h:=hO8
    clear hO8
    try dsimp only at h
    obtain rfl:=CP h
    exact TL.nil (X.seq (T.ret (Al (At (Al (Al (At (Al (Ak [1] EV (Aj Z) ⟨Z,Z,Z⟩ (by rfl) (.inl Z))))))))))
   ·refine TL.nil (X.seq (Ap Z (CO c131) (T.skip (X.seq (T.seq (T.seq ?_))))))
    obtain⟨y143,h,hk144⟩:=CM h
    refine Bg (fun e Rs=>e = [(0,.slice (some ⟨gz126,oz126,none⟩) a0.length c2),(2,jI y4),(4,jP b130),(10,.slice (some ⟨gz126,oz126,none⟩) a0.length c2),(11,jI (a0.length:Int)),(12,jI (k5:Int)),(44,.bool y143)]∧Rs = [aC b130 81 #[jS x10.Cx,.slice A127 x10.Cj.length c128],aB]) ?_ ?_
    ·clear hk144
     refine AH (.q 0 (.q 1 (.q 2 (.q 3 (.q 4 (.q 5 (.q 6 (.q 7 (.q 8 (.q 9 (.q 10 (.q 11 (.q 12 (.q 13 (.q 14 (.q 15 (.q 16 (.q 17 (.q 18 (.q 19 (.q 20 (.q 21 (.q 22 (.q 23 .nil)))))))))))))))))))))))) [0,0] Z jA (NoP.seq (NoP.seq (NoP.seq (NoP.blk (NoP.seq (NoP.seq (NoP.blk (NoP.seq aM)))))))) (by kernel_rfl) ?_
     refine TD.run ah [0] Z Z (TD.q Z .u (Ai 0 Z Dp Z Z) Z (TD.q Z .u (Ex.sEq Z (m := []) Z) Z ?_))
     rcases jF h with⟨c145,h⟩ | ⟨c145,h⟩
     ·refine TD.run ah [3] Z Z ?_
      iterate 4 refine A9 Z (.gn Z Z (CN c145)) Z ?_
      refine TD.q Z .u (Aq Z (CN c145) Z) Z (TD.run ah [9] Z Z ?_)
      iterate 3 refine A9 Z (.gn Z Z Z) Z ?_
      iterate 9 refine A9 Z (.gu Z Z) Z ?_
      refine A9 Z (.gn Z Z Z) Z (TD.q Z .u (Aq Z Z Z) Z ?_)
      cases h
      exact TD.nil (AB [0,0] ⟨Z,Z⟩ (by rfl) (by rfl))
     ·refine TD.run ah [3] Z Z (TD.q Z (.g Z Z (CO c145)) (Ao ah Z) Z (TD.q Z (.g Z Z (CO c145)) (Ai 0 Z Dp Z Z) Z (TD.q Z (.g Z Z (CO c145)) (AW Z CZ) Z (TD.q Z (.g Z Z (CO c145)) (Ao ah Z) Z (TD.q Z .u (Ar Z (CO c145) Z) Z ?_)))))
      rcases jF h with⟨c146,h⟩ | ⟨c146,h⟩
      ·refine TD.run ah [9] Z Z ?_
       iterate 3 refine A9 Z (.gn Z Z (CN c146)) Z ?_
       iterate 9 refine A9 Z (.gu Z Z) Z ?_
       refine A9 Z (.gn Z Z (CN c146)) Z (TD.q Z .u (Aq Z (CN c146) Z) Z ?_)
       cases h
       exact TD.nil (AB [0,0] ⟨Z,Z⟩ (by rfl) (by rfl))
      ·refine TD.run ah [9] Z Z ?_
       iterate 3 refine TD.q Z (.g Z Z (CO c146)) (Ao ah Z) Z ?_
       rcases jF h with⟨c147,h⟩ | ⟨c147,h⟩
       ·refine TD.q Z (.g Z Z (CN c147)) (Ao ah Z) Z (TD.q Z (.g Z Z (CN c147)) (Ao ah Z) Z ?_)
        replace h:=ak h
        obtain⟨c148,h⟩:=h
        refine TD.q Z (.g Z Z (CN c147)) (Ex.sub Z Z c148) Z ?_
        replace h:=ak h
        obtain⟨c149,h⟩:=h
        obtain⟨x150,hx151,h⟩:=CM h
        obtain⟨z152cs,z152cl,z152cc,z152nf,z152r⟩:=BN (by decide) hX hx151
        obtain⟨z152S,z152r,z152rr⟩:=z152r
        obtain⟨A153,c154,rfl,z152s0⟩:=z152r
        have hX155:(RX.of (av 2 bm) [.slice A153 x150.Cj.length c154] x150.Cj).reads w F:=⟨z152S,z152s0,z152rr⟩
        refine TD.q Z (.g Z Z (CN c147)) (Aw (k:=((k5:Int) - 1).toNat) Z Z ((Int.toNat_of_nonneg c149).symm) DG DR (CU hx151).1) Z ?_
        refine TD.q Z (.g Z Z (CN c147)) (Ao ah Z) Z (TD.q Z (.g Z Z (CN c147)) (AY 0 Z Dp z152nf z152cc Z Z) Z (TD.q Z (.g Z Z (CN c147)) (Ao ah Z) Z (TD.q Z (.g Z Z (CN c147)) (Ai 0 Z Dp Z Z) Z (TD.q Z (.g Z Z (CN c147)) (Ex.sGe Z Z) Z (TD.q Z (.g Z Z (CO c146)) (Aq Z (CN c147) Z) Z (TD.q Z .u (Ar Z (CO c146) Z) Z ?_))))))
        rcases jF h with⟨c156,h⟩ | ⟨c156,h⟩
        ·cases h
         exact TD.nil (Bh (d:=44) (v':= .bool false) Z (congrArg Value.bool (az c156)) (AB [0,0] ⟨Z,Z⟩ (by rfl) (by rfl)))
        ·replace c156:=CX c156
         cases h
         exact TD.nil (Bh (d:=44) (v':= .bool true) Z (congrArg Value.bool (aD c156)) (AB [0,0] ⟨Z,Z⟩ (by rfl) (by rfl)))
       ·refine A9 Z (.gn Z Z (CO c147)) Z ?_
        iterate 8 refine A9 Z (.gn Z Z (CO c147)) Z ?_
        refine TD.q Z (.g Z Z (CO c146)) (Ar Z (CO c147) Z) Z (TD.q Z .u (Ar Z (CO c146) Z) Z ?_)
        cases h
        exact TD.nil (AB [0,0] ⟨Z,Z⟩ (by rfl) (by rfl))
    ·rintro _ _ ⟨rfl,rfl⟩
     clear h
     have h:=hk144
     clear hk144
     try dsimp only at h
     rcases jF h with⟨c157,h⟩ | ⟨c157,h⟩
     ·refine X.seq (Am Z c157 (T.seq (T.region Z (TL.run ah [0] Z Z ?_))))
      obtain rfl:=CP h
      replace h:=hO8
      clear hO8
      try dsimp only at h
      obtain rfl:=CP h
      exact TL.nil (X.seq (T.ret (Al (At (Al (Al (At (Al (Ak [1] EV (Aj Z) ⟨Z,Z,Z⟩ (by rfl) (.inl Z))))))))))
     ·replace c157:=CX c157
      refine X.seq (Ap Z c157 (T.skip (X.seq (T.seq (T.region Z (TL.run ah [0] Z Z (TL.q Z .u (Ai 0 Z Eh Z Z) Z (TL.q Z .u (AA Z DH) Z (TL.run ah [3] Z Z (TL.nil (X.seq (T.block ?_))))))))))))
      obtain⟨E160,hE161,hO162⟩:=CM h
      have hk166len:=Bf hX129
      refine AV (fun m e Rs=> ∃ (y158:Int) (k159:Nat),k159+m=x10.Cj.length∧e = [(0,.slice (some ⟨gz126,oz126,none⟩) a0.length c2),(2,jI y158),(4,jP b130),(10,.slice (some ⟨gz126,oz126,none⟩) a0.length c2),(11,jI (a0.length:Int)),(12,jI (k5:Int)),(46,.slice A127 x10.Cj.length c128),(47,jI (x10.Cj.length:Int)),(48,jI (k159:Int))]∧Rs = [aC b130 81 #[jS x10.Cx,.slice A127 x10.Cj.length c128],aB]∧cn x10 (x10.Cj.drop k159) y158 k159=some E160) (x10.Cj.length) [0,0] ⟨y4,0,by simp,Z,Z,by rw[List.drop_zero]; exact hE161⟩ (by rfl) (by rfl) ?_
      rintro m163 _ _ ⟨y158,k159,hk166,rfl,rfl,hl165⟩
      clear hE161 h
      cases m163 with
      | zero =>
       have h:=hl165
       clear hl165
       rw[List.drop_of_length_le (by omega),cn] at h
       have hk166ge: ¬ ((k159:Int)<(x10.Cj.length:Int)):=by omega
       refine T.seq (T.region Z (TL.run ah [0] Z Z (TL.nil (X.seq (T.seq (Ap Z (CO hk166ge) ?_))))))
       obtain rfl:=CP h
       replace h:=hO162
       clear hO162
       try dsimp only at h
       exact T.exit (Au (Au (AS (Az (X.seq (T.region Z (TL.q Z .u (Ex.add Z Z (by omega)) Z (TL.run ah [1] Z Z (TL.nil (X.back (m':=m9) [1] (by omega) ⟨y158,k5+1,by omega,Z,Z,h⟩ (by rfl) (by rfl)))))))))))
      | succ m163 =>
       have h:=hl165
       clear hl165
       obtain⟨x164,hxx164⟩: ∃ x,x10.Cj[k159]? = some x:=⟨_,List.getElem?_eq_getElem (by omega)⟩
       rw[bU hxx164,cn] at h
       have hk166lt:(k159:Int)<(x10.Cj.length:Int):=by omega
       refine T.seq (T.region Z (TL.run ah [0] Z Z (TL.nil (X.seq (T.seq (Am Z (CN hk166lt) (T.skip (X.seq (T.seq (T.block (T.seq (T.region Z ?_))))))))))))
       obtain⟨gz202,oz202,rfl,z202cs,z202cl,z202cc,z202nf,z202r⟩:=AK (by decide) hX129 hxx164
       obtain⟨z202S,z202r,z202rr⟩:=z202r
       obtain⟨A203,c204,rfl,z202s0⟩:=z202r
       have hX205:(RX.of (av 12 bD) [.slice A203 x164.Ct.length c204] x164.Ct).reads w F:=⟨z202S,z202s0,z202rr⟩
       refine TL.run ah [0] Z Z ?_
       refine TL.q Z .u (Aw (k:=k159) Z Z Z DH DJ (CU hxx164).1) Z ?_
       refine TL.q Z .u (Bb (us := [jI x164.CD,.slice A203 x164.Ct.length c204]) 0 Z EK DJ z202nf z202cc Z Z Z) Z (TL.alloc Z .u Tryz.zeroValue84 Z (fun b206=>(TL.run ah [4] Z Z (Ay (cs':= #[jI x164.CD,.slice A203 x164.Ct.length c204]) Z .u Z Z DJ Z Z Z Z (TL.nil (X.seq (T.seq ?_)))))))
       obtain⟨y220,h,hk221⟩:=CM h
       refine Bg (fun e Rs=>e = [(0,.slice (some ⟨gz126,oz126,none⟩) a0.length c2),(2,jI y158),(4,jP b130),(10,.slice (some ⟨gz126,oz126,none⟩) a0.length c2),(11,jI (a0.length:Int)),(12,jI (k5:Int)),(46,.slice (some ⟨gz202,oz202,none⟩) x10.Cj.length c128),(47,jI (x10.Cj.length:Int)),(48,jI (k159:Int)),(77,.bool y220)]∧Rs = [aC b206 84 #[jI x164.CD,.slice A203 x164.Ct.length c204],aC b130 81 #[jS x10.Cx,.slice (some ⟨gz202,oz202,none⟩) x10.Cj.length c128],aB]) ?_ ?_
       ·clear hk221
        refine AH (.q 0 (.q 1 (.q 2 (.q 3 (.q 4 (.q 5 (.e 6 (.q 7 (.q 8 (.q 9 (.q 10 (.q 11 (.q 12 (.q 13 (.q 14 (.q 15 (.q 16 (.q 17 (.q 18 (.q 19 (.q 20 (.q 21 (.q 22 (.q 23 (.q 24 .nil))))))))))))))))))))))))) [0,0,0] Z jA (NoP.seq (NoP.seq (NoP.blk (NoP.seq (NoP.seq (NoP.blk (NoP.blk (NoP.seq (NoP.seq (NoP.blk (NoP.seq aM))))))))))) (by kernel_rfl) ?_
        refine TD.run ah [0] Z Z (TD.q Z .u (Ai 0 Z CV Z Z) Z ?_)
        rcases jF h with⟨c222,h⟩ | ⟨c222,h⟩
        ·refine TD.run ah [2,3] Z Z ?_
         iterate 2 refine A9 Z (.gn Z Z (CN c222)) Z ?_
         refine B5 Z (.gn Z Z (CN c222)) Z [0,0,0] Z (A9 Z (.gn Z Z (CN c222)) Z (TD.q Z .u (Aq Z (CN c222) Z) Z (TD.run ah [9] Z Z ?_)))
         iterate 3 refine A9 Z (.gn Z Z Z) Z ?_
         iterate 10 refine A9 Z (.gu Z Z) Z ?_
         refine A9 Z (.gn Z Z Z) Z (TD.q Z .u (Aq Z Z Z) Z ?_)
         cases h
         exact TD.nil (AB [0,0,0] ⟨Z,Z⟩ (by rfl) (by rfl))
        ·refine TD.run ah [2,3] Z Z (TD.q Z (.g Z Z (CO c222)) (Ao ah Z) Z (TD.q Z (.g Z Z (CO c222)) (Ai 0 Z CV Z Z) Z ?_))
         obtain⟨x223,hx224,h⟩:=CM h
         refine AR Z (.g Z Z (CO c222)) (.fn Tryz.call78 Z) (AN (fun w=>eC x164.CD 4 _ hx224 w)) (fun _ _=>RX.reads_triv _ _) Z [0,0,0] (Z) (TD.q Z (.g Z Z (CO c222)) (Ao ah Z) Z (TD.q Z .u (Ar Z (CO c222) Z) Z ?_))
         rcases jF h with⟨c225,h⟩ | ⟨c225,h⟩
         ·refine TD.run ah [9] Z Z ?_
          iterate 3 refine TD.q Z (.g Z Z (az c225)) (Ao ah Z) Z ?_
          rcases jF h with⟨c226,h⟩ | ⟨c226,h⟩
          ·refine TD.q Z (.g Z Z (CN c226)) (Ao ah Z) Z (TD.q Z (.g Z Z (CN c226)) (Ai 1 Z Eh Z Z) Z (TD.q Z (.g Z Z (CN c226)) (Ao ah Z) Z ?_))
           replace h:=ak h
           obtain⟨c227,h⟩:=h
           refine TD.q Z (.g Z Z (CN c226)) (Ex.sub Z Z c227) Z ?_
           replace h:=ak h
           obtain⟨c228,h⟩:=h
           obtain⟨x229,hx230,h⟩:=CM h
           obtain⟨z231cs,z231cl,z231cc,z231nf,z231r⟩:=BN (by decide) hX129 hx230
           obtain⟨z231S,z231r,z231rr⟩:=z231r
           obtain⟨A232,c233,rfl,z231s0⟩:=z231r
           have hX234:(RX.of (av 12 bD) [.slice A232 x229.Ct.length c233] x229.Ct).reads w F:=⟨z231S,z231s0,z231rr⟩
           refine TD.q Z (.g Z Z (CN c226)) (Aw (k:=((k159:Int) - 1).toNat) Z Z ((Int.toNat_of_nonneg c228).symm) DH DJ (CU hx230).1) Z ?_
           refine TD.q Z (.g Z Z (CN c226)) (Ao ah Z) Z (TD.q Z (.g Z Z (CN c226)) (AY 0 Z CV z231nf z231cc Z Z) Z (TD.q Z (.g Z Z (CN c226)) (Ao ah Z) Z (TD.q Z (.g Z Z (CN c226)) (Ai 0 Z CV Z Z) Z (TD.q Z (.g Z Z (CN c226)) (Ao ah Z) Z (TD.q Z (.g Z Z (az c225)) (Aq Z (CN c226) Z) Z (TD.q Z .u (Ar Z (az c225) Z) Z ?_))))))
           rcases jF h with⟨c235,h⟩ | ⟨c235,h⟩
           ·cases h
            exact TD.nil (Bh (d:=77) (v':= .bool true) Z (congrArg Value.bool (CN c235)) (AB [0,0,0] ⟨Z,Z⟩ (by rfl) (by rfl)))
           ·cases h
            exact TD.nil (Bh (d:=77) (v':= .bool false) Z (congrArg Value.bool (CO c235)) (AB [0,0,0] ⟨Z,Z⟩ (by rfl) (by rfl)))
          ·refine A9 Z (.gn Z Z (CO c226)) Z ?_
           iterate 9 refine A9 Z (.gn Z Z (CO c226)) Z ?_
           refine TD.q Z (.g Z Z (az c225)) (Ar Z (CO c226) Z) Z (TD.q Z .u (Ar Z (az c225) Z) Z ?_)
           cases h
           exact TD.nil (AB [0,0,0] ⟨Z,Z⟩ (by rfl) (by rfl))
         ·replace c225:=CX c225
          refine TD.run ah [9] Z Z ?_
          iterate 3 refine A9 Z (.gn Z Z (aD c225)) Z ?_
          iterate 10 refine A9 Z (.gu Z Z) Z ?_
          refine A9 Z (.gn Z Z (aD c225)) Z (TD.q Z .u (Aq Z (aD c225) Z) Z ?_)
          cases h
          exact TD.nil (AB [0,0,0] ⟨Z,Z⟩ (by rfl) (by rfl))
       ·rintro _ _ ⟨rfl,rfl⟩
        clear h
        have h:=hk221
        clear hk221
        try dsimp only at h
        rcases jF h with⟨c236,h⟩ | ⟨c236,h⟩
        ·refine X.seq (Am Z c236 (T.seq (T.region Z (TL.run ah [0] Z Z ?_))))
         obtain rfl:=CP h
         replace h:=hO162
         clear hO162
         try dsimp only at h
         obtain rfl:=CP h
         replace h:=hO8
         clear hO8
         try dsimp only at h
         obtain rfl:=CP h
         exact TL.nil (X.seq (T.ret (At (Al (Al (At (At (Al (Al (At (Al (Ak [2] EV (Aj Z) ⟨Z,Z,Z⟩ (by rfl) (.inl Z)))))))))))))
        ·replace c236:=CX c236
         exact X.seq (Ap Z c236 (T.skip (Az (X.seq (T.region Z (TL.q Z .u (Ex.add Z Z (by omega)) Z (TL.run ah [1] Z Z (TL.nil (X.back (m':=m163) [1,1] (by omega) ⟨y158,k159+1,by omega,Z,Z,h⟩ (by rfl) (by rfl))))))))))
def aX (a0:aw):List Bat→Int→Option (Lp Int Int)
 | [],y14=>some (Lp.go y14)
 | x20::xs,y14=>(cv x20).bind fun x28=>if x28=0 then (if x20.Cq=true then some (Lp.ret 12) else (if (x20.CE == a0.CA.null)=true then some (Lp.ret 8) else (aX a0 xs y14))) else some (Lp.ret x28)
def cx (a0:aw) (a1:List Bat) (a2:Int):Option (Int):=(if (a1.length:Int)=0 then some true else (if a2<4 then (if (a1.length:Int)>1 then some true else some false) else some false)).bind fun y8=>if y8=true then some 10 else ((aX a0 a1 0).bind fun e=>match e with | .ret r=>some r | .go y33=>some 0)
theorem ib (a0:aw) (A1:Option Addr) (c2:Nat) (a1:List Bat) (A3:Option Addr) (c4:Nat) (a2:Int) (r:Int) (h:cx a0 a1 a2=some r):ay Tryz.prog 80 #[.agg #[.bool a0.CA.null,jS a0.CA.data,jI a0.CG,jI a0.Cz,.slice A1 a0.Cm.length c2],.slice A3 a1.length c4,jI a2] (RX.and (RX.of (av 2 aO) [.slice A1 a0.Cm.length c2] a0.Cm) (RX.of (av 12 bD) [.slice A3 a1.length c4] a1)) (aB) (fun v A' N=>v=jI r∧A'=aB∧N = []):=by
 refine aL Tryz.func80 Z Tryz.ntmps80 Z ?_
 intro F w hX
 unfold cx at h
 refine T.seq (T.region Z (TL.box Z .u Z Z (fun b5=>(TL.run ah [1] Z Z (TL.nil (X.seq (T.seq (T.seq ?_))))))))
 obtain⟨y8,h,hk9⟩:=CM h
 refine Bg (fun e Rs=>e = [(1,.slice A3 a1.length c4),(3,jP b5),(6,jI 0),(21,.bool y8)]∧Rs = [aC b5 50 #[.bool a0.CA.null,jS a0.CA.data,jI a0.CG,jI a0.Cz,.slice A1 a0.Cm.length c2],aB]) ?_ ?_
 ·clear hk9
  refine T.region Z (TL.run ah [0] Z Z (TL.q Z .u (AA Z Dk) Z ?_))
  rcases jF h with⟨c10,h⟩ | ⟨c10,h⟩
  ·refine TL.run ah [2,3] Z Z ?_
   iterate 3 refine An Z (.gn Z Z (CN c10)) Z ?_
   iterate 3 refine An Z (.gu Z Z) Z ?_
   refine An Z (.gn Z Z (CN c10)) Z (TL.q Z .u (Aq Z (CN c10) Z) Z ?_)
   cases h
   exact TL.nil (AB [0,0] ⟨Z,Z⟩ (by rfl) (by rfl))
  ·refine TL.run ah [2,3] Z Z ?_
   iterate 3 refine TL.q Z (.g Z Z (CO c10)) (Ao ah Z) Z ?_
   rcases jF h with⟨c11,h⟩ | ⟨c11,h⟩
   ·refine TL.q Z (.g Z Z (CN c11)) (Ao ah Z) Z (TL.q Z (.g Z Z (CN c11)) (AA Z Dk) Z (TL.q Z (.g Z Z (CN c11)) (Ao ah Z) Z (TL.q Z (.g Z Z (CO c10)) (Aq Z (CN c11) Z) Z (TL.q Z .u (Ar Z (CO c10) Z) Z ?_))))
    rcases jF h with⟨c12,h⟩ | ⟨c12,h⟩
    ·cases h
     exact TL.nil (Bh (d:=21) (v':= .bool true) Z (congrArg Value.bool (CN c12)) (AB [0,0] ⟨Z,Z⟩ (by rfl) (by rfl)))
    ·cases h
     exact TL.nil (Bh (d:=21) (v':= .bool false) Z (congrArg Value.bool (CO c12)) (AB [0,0] ⟨Z,Z⟩ (by rfl) (by rfl)))
   ·refine An Z (.gn Z Z (CO c11)) Z ?_
    iterate 2 refine An Z (.gn Z Z (CO c11)) Z ?_
    refine TL.q Z (.g Z Z (CO c10)) (Ar Z (CO c11) Z) Z (TL.q Z .u (Ar Z (CO c10) Z) Z ?_)
    cases h
    exact TL.nil (AB [0,0] ⟨Z,Z⟩ (by rfl) (by rfl))
 ·rintro _ _ ⟨rfl,rfl⟩
  clear h
  have h:=hk9
  clear hk9
  try dsimp only at h
  rcases jF h with⟨c13,h⟩ | ⟨c13,h⟩
  ·refine X.seq (Am Z c13 (T.seq (T.region Z (TL.run ah [0] Z Z ?_))))
   obtain rfl:=CP h
   exact TL.nil (X.seq (T.ret (Al (Ak [1] EW (Aj Z) ⟨Z,Z,Z⟩ (by rfl) (.inl Z)))))
  ·replace c13:=CX c13
   refine X.seq (Ap Z c13 (T.skip (X.seq (T.seq (T.seq (T.region Z (TL.run ah [0] Z Z (TL.q Z .u (AA Z Dk) Z (TL.run ah [2] Z Z (TL.nil (X.seq (T.block ?_))))))))))))
   obtain⟨E16,hE17,hO18⟩:=CM h
   have hk22len:=Bf (Br hX)
   refine AV (fun m e Rs=> ∃ (y14:Int) (k15:Nat),k15+m=a1.length∧e = [(3,jP b5),(6,jI y14),(22,.slice A3 a1.length c4),(23,jI (a1.length:Int)),(24,jI (k15:Int))]∧Rs = [aC b5 50 #[.bool a0.CA.null,jS a0.CA.data,jI a0.CG,jI a0.Cz,.slice A1 a0.Cm.length c2],aB]∧aX a0 (a1.drop k15) y14=some E16) (a1.length) [0,0] ⟨0,0,by simp,Z,Z,by rw[List.drop_zero]; exact hE17⟩ (by rfl) (by rfl) ?_
   rintro m19 _ _ ⟨y14,k15,hk22,rfl,rfl,hl21⟩
   clear hE17 h
   cases m19 with
   | zero =>
    have h:=hl21
    clear hl21
    rw[List.drop_of_length_le (by omega),aX] at h
    have hk22ge: ¬ ((k15:Int)<(a1.length:Int)):=by omega
    refine T.seq (T.region Z (TL.run ah [0] Z Z (TL.nil (X.seq (T.seq (Ap Z (CO hk22ge) ?_))))))
    obtain rfl:=CP h
    replace h:=hO18
    clear hO18
    try dsimp only at h
    refine T.exit (Au (Au (AS (X.seq (T.seq (T.region Z (TL.run ah [0] Z Z ?_)))))))
    obtain rfl:=CP h
    exact TL.nil (X.seq (T.ret (Ak [1] EW (Aj Z) ⟨Z,Z,Z⟩ (by rfl) (.inl Z))))
   | succ m19 =>
    have h:=hl21
    clear hl21
    obtain⟨x20,hxx20⟩: ∃ x,a1[k15]? = some x:=⟨_,List.getElem?_eq_getElem (by omega)⟩
    rw[bU hxx20,aX] at h
    have hk22lt:(k15:Int)<(a1.length:Int):=by omega
    refine T.seq (T.region Z (TL.run ah [0] Z Z (TL.nil (X.seq (T.seq (Am Z (CN hk22lt) ?_))))))
    obtain⟨gz23,oz23,rfl,z23cs,z23cl,z23cc,z23nf,z23r⟩:=AK (by decide) (Br hX) hxx20
    obtain⟨z23S,z23r,z23rr⟩:=z23r
    obtain⟨A24,c25,rfl,z23s0⟩:=z23r
    have hX26:(RX.of (av 7 aU) [.slice A24 x20.Ce.length c25] x20.Ce).reads w F:=⟨z23S,z23s0,z23rr⟩
    refine T.skip (X.seq (T.seq (T.block (T.seq (T.region Z ?_)))))
    refine TL.q Z .u (Aw (k:=k15) Z Z Z Dk C3 (CU hxx20).1) Z ?_
    refine TL.q Z .u (Bb (us := [jI x20.Cu,jI x20.Co,.bool x20.Cw,.bool x20.CE,.bool x20.Cq,jI x20.Cr,jI x20.Cl,jI x20.Cy,jI x20.Ci,jI x20.Cp,jI x20.Ch,.slice A24 x20.Ce.length c25]) 0 Z Df C3 z23nf z23cc Z Z Z) Z (TL.alloc Z .u Tryz.zeroValue27 Z (fun b27=>(Ay (cs':= #[jI x20.Cu,jI x20.Co,.bool x20.Cw,.bool x20.CE,.bool x20.Cq,jI x20.Cr,jI x20.Cl,jI x20.Cy,jI x20.Ci,jI x20.Cp,jI x20.Ch,.slice A24 x20.Ce.length c25]) Z .u Z Z C3 Z Z Z Z (TL.nil (X.seq (T.seq (T.seq (T.region Z (TL.q Z .u (Av (us := [jI x20.Cu,jI x20.Co,.bool x20.Cw,.bool x20.CE,.bool x20.Cq,jI x20.Cr,jI x20.Cl,jI x20.Cy,jI x20.Ci,jI x20.Cp,jI x20.Ch,.slice A24 x20.Ce.length c25]) 0 Z Df C3 Z Z Z) Z ?_)))))))))
    obtain⟨x28,hx29,h⟩:=CM h
    refine Ax Z .u (.fn Tryz.call40 Z) (fS x20 _ _ _ hx29) (fun _ hs=>(AE hs hX26)) Z (TL.run ah [2] Z Z (TL.nil (X.seq (T.seq (T.region Z (TL.run ah [0,1] Z Z ?_))))))
    rcases jF h with⟨c30,h⟩ | ⟨c30,h⟩
    ·refine TL.nil (X.seq (Ap Z (az (CN c30)) (T.skip (X.seq (T.block (T.seq (T.region Z (TL.run ah [0] Z Z (TL.q Z .u (Ai 0 Z Dd Z Z) Z (TL.run ah [2] Z Z ?_))))))))))
     rcases jF h with⟨c31,h⟩ | ⟨c31,h⟩
     ·refine TL.nil (X.seq (Am Z c31 (T.seq (T.region Z (TL.run ah [0] Z Z ?_)))))
      obtain rfl:=CP h
      replace h:=hO18
      clear hO18
      try dsimp only at h
      obtain rfl:=CP h
      exact TL.nil (X.seq (T.ret (At (At (Al (Al (At (Al (Ak [2] EW (Aj Z) ⟨Z,Z,Z⟩ (by rfl) (.inl Z))))))))))
     ·replace c31:=CX c31
      refine TL.nil (X.seq (Ap Z c31 (T.seq (T.region Z (TL.run ah [0] Z Z (TL.q Z .u (Ai 0 Z Dd Z Z) Z (TL.run ah [2,3] Z Z (TL.q Z .u (Ai 1 Z Dd Z Z) Z (TL.q Z .u (Ex.bEq Z Z Z Z EC) Z ?_)))))))))
      refine TL.run ah [6] Z Z ?_
      rcases jF h with⟨c32,h⟩ | ⟨c32,h⟩
      ·refine TL.nil (X.seq (Am Z c32 (T.seq (T.region Z (TL.run ah [0] Z Z ?_)))))
       obtain rfl:=CP h
       replace h:=hO18
       clear hO18
       try dsimp only at h
       obtain rfl:=CP h
       exact TL.nil (X.seq (T.ret (At (At (Al (Al (At (Al (Ak [2] EW (Aj Z) ⟨Z,Z,Z⟩ (by rfl) (.inl Z))))))))))
      ·replace c32:=CX c32
       exact TL.nil (X.seq (Ap Z c32 (T.skip (Az (Az (X.seq (T.region Z (TL.q Z .u (Ex.add Z Z (by omega)) Z (TL.run ah [1] Z Z (TL.nil (X.back (m':=m19) [1,1] (by omega) ⟨y14,k15+1,by omega,Z,Z,h⟩ (by rfl) (by rfl))))))))))))
    ·refine TL.nil (X.seq (Am Z (aD (CO c30)) (T.seq (T.region Z (TL.run ah [0,1] Z Z ?_)))))
     obtain rfl:=CP h
     replace h:=hO18
     clear hO18
     try dsimp only at h
     obtain rfl:=CP h
     exact TL.nil (X.seq (T.ret (Al (At (Al (Al (At (Al (Ak [2] EW (Aj Z) ⟨Z,Z,Z⟩ (by rfl) (.inl Z))))))))))
def bi (a0:aw) (a1:Int):List aE→Int→Option (Lp Int Int)
 | [],y51=>some (Lp.go y51)
 | x57::xs,y51=>(cx a0 x57.Ct a1).bind fun x65=>if x65=0 then (bi a0 a1 xs y51) else some (Lp.ret x65)
def bj (a0:aw) (a1:Int):List ax→Int→Option (Lp Int Int)
 | [],y37=>some (Lp.go y37)
 | x43::xs,y37=>(bi a0 a1 x43.Cj y37).bind fun e=>match e with | .ret r=>some (Lp.ret r) | .go y68=>(bj a0 a1 xs y68)
def aT (a0:aw) (a1:Int):Option (Int):=((nN a0.CA).bind fun x12=>if x12=true then (if a0.CA.null=true then some false else ((nc a0.CA.data).bind fun x16=>if x16=true then some false else some true)) else some true).bind fun y10=>if y10=true then some 4 else ((if a0.CG<(-1) then some true else (if a0.CG>1 then some true else (if a0.Cz<0 then some true else ((jW a0.Cz 4).bind fun x30=>if x30=true then some false else some true)))).bind fun y25=>if y25=true then some 11 else ((fk a0.Cm).bind fun x34=>if x34=0 then ((bj a0 a1 a0.Cm 0).bind fun e=>match e with | .ret r=>some r | .go y70=>some 0) else some x34))
theorem cJ (a0:aw) (A1:Option Addr) (c2:Nat) (a1:Int) (r:Int) (h:aT a0 a1=some r):ay Tryz.prog 30 #[.agg #[.bool a0.CA.null,jS a0.CA.data,jI a0.CG,jI a0.Cz,.slice A1 a0.Cm.length c2],jI a1] (RX.of (av 2 aO) [.slice A1 a0.Cm.length c2] a0.Cm) (aB) (fun v A' N=>v=jI r∧A'=aB∧N = []):=by
 refine aL Tryz.func30 Z Tryz.ntmps30 Z ?_
 intro F w hX
 unfold aT at h
 refine T.seq (T.region Z (TL.box Z .u Z Z (fun b3=>(TL.run ah [1] Z Z (TL.nil (X.seq (T.seq (T.block (T.seq ?_)))))))))
 obtain⟨y10,h,hk11⟩:=CM h
 refine Bg (fun e Rs=>e = [(1,jI a1),(2,jP b3),(4,jI 0),(11,.bool y10)]∧Rs = [aC b3 50 #[.bool a0.CA.null,jS a0.CA.data,jI a0.CG,jI a0.Cz,.slice A1 a0.Cm.length c2],aB]) ?_ ?_
 ·clear hk11
  refine T.region Z (TL.run ah [0] Z Z (TL.q Z .u (Av (us := [.bool a0.CA.null,jS a0.CA.data]) 0 Z Dw C7 Z Z Z) Z ?_))
  obtain⟨x12,hx13,h⟩:=CM h
  refine Ax Z .u (.fn Tryz.call76 Z) (oR a0.CA _ hx13) (fun _ hs=>(RX.reads_triv _ _)) Z ?_
  rcases jF h with⟨c14,h⟩ | ⟨c14,h⟩
  ·refine TL.run ah [3,4] Z Z ?_
   iterate 2 refine TL.q Z (.g Z Z (az c14)) (Ao ah Z) Z ?_
   refine TL.q Z (.g Z Z (az c14)) (Ai 0 Z Dd Z Z) Z ?_
   iterate 2 refine TL.q Z (.g Z Z (az c14)) (Ao ah Z) Z ?_
   rcases jF h with⟨c15,h⟩ | ⟨c15,h⟩
   ·refine An Z (.gn Z Z (az c15)) Z ?_
    iterate 4 refine An Z (.gn Z Z (az c15)) Z ?_
    refine TL.q Z (.g Z Z (az c14)) (Ar Z (az c15) Z) Z (TL.q Z .u (Ar Z (az c14) Z) Z (TL.run ah [17] Z Z ?_))
    cases h
    exact TL.nil (AB [0,0] ⟨Z,Z⟩ (by rfl) (by rfl))
   ·replace c15:=CX c15
    iterate 2 refine TL.q Z (.g Z Z (aD c15)) (Ao ah Z) Z ?_
    refine TL.q Z (.g Z Z (aD c15)) (Ai 0 Z Dp Z Z) Z ?_
    obtain⟨x16,hx17,h⟩:=CM h
    refine Ax Z (.g Z Z (aD c15)) (.fn Tryz.call77 Z) (AN (fun w=>sB a0.CA.data _ hx17 w)) (fun _ _=>RX.reads_triv _ _) Z (TL.q Z (.g Z Z (aD c15)) (Ao ah Z) Z (TL.q Z (.g Z Z (az c14)) (Aq Z (aD c15) Z) Z (TL.q Z .u (Ar Z (az c14) Z) Z (TL.run ah [17] Z Z ?_))))
    rcases jF h with⟨c18,h⟩ | ⟨c18,h⟩
    ·cases h
     exact TL.nil (Bh (d:=11) (v':= .bool false) Z (congrArg Value.bool (az c18)) (AB [0,0] ⟨Z,Z⟩ (by rfl) (by rfl)))
    ·replace c18:=CX c18
     cases h
     exact TL.nil (Bh (d:=11) (v':= .bool true) Z (congrArg Value.bool (aD c18)) (AB [0,0] ⟨Z,Z⟩ (by rfl) (by rfl)))
  ·replace c14:=CX c14
   refine TL.run ah [3,4] Z Z ?_
   iterate 5 refine An Z (.gn Z Z (aD c14)) Z ?_
   iterate 5 refine An Z (.gu Z Z) Z ?_
   refine An Z (.gn Z Z (aD c14)) Z (TL.q Z .u (Aq Z (aD c14) Z) Z (TL.run ah [17] Z Z ?_))
   cases h
   exact TL.nil (AB [0,0] ⟨Z,Z⟩ (by rfl) (by rfl))
 ·rintro _ _ ⟨rfl,rfl⟩
  clear h
  have h:=hk11
  clear hk11
  try dsimp only at h
  rcases jF h with⟨c19,h⟩ | ⟨c19,h⟩
  ·refine X.seq (Am Z c19 (T.seq (T.region Z (TL.run ah [0] Z Z ?_))))
   obtain rfl:=CP h
   exact TL.nil (X.seq (T.ret (At (Al (Ak [1] EX (Aj Z) ⟨Z,Z,Z⟩ (by rfl) (.inl Z))))))
  ·replace c19:=CX c19
   refine X.seq (Ap Z c19 (T.seq ?_))
   obtain⟨y25,h,hk26⟩:=CM h
   refine Bg (fun e Rs=>e = [(1,jI a1),(2,jP b3),(4,jI 0),(29,.bool y25)]∧Rs = [aC b3 50 #[.bool a0.CA.null,jS a0.CA.data,jI a0.CG,jI a0.Cz,.slice A1 a0.Cm.length c2],aB]) ?_ ?_
   ·clear hk26
    refine T.region Z (TL.run ah [0] Z Z (TL.q Z .u (Ai 0 Z CV Z Z) Z ?_))
    rcases jF h with⟨c27,h⟩ | ⟨c27,h⟩
    ·refine TL.run ah [2,3] Z Z ?_
     iterate 3 refine An Z (.gn Z Z (CN c27)) Z ?_
     refine TL.q Z .u (Aq Z (CN c27) Z) Z (TL.run ah [8] Z Z ?_)
     iterate 3 refine An Z (.gn Z Z Z) Z ?_
     refine TL.q Z .u (Aq Z Z Z) Z (TL.run ah [13] Z Z ?_)
     iterate 4 refine An Z (.gn Z Z Z) Z ?_
     refine TL.q Z .u (Aq Z Z Z) Z (TL.run ah [19] Z Z ?_)
     cases h
     exact TL.nil (AB [0,0] ⟨Z,Z⟩ (by rfl) (by rfl))
    ·refine TL.run ah [2,3] Z Z (TL.q Z (.g Z Z (CO c27)) (Ao ah Z) Z (TL.q Z (.g Z Z (CO c27)) (Ai 0 Z CV Z Z) Z (TL.q Z (.g Z Z (CO c27)) (Ao ah Z) Z (TL.q Z .u (Ar Z (CO c27) Z) Z ?_))))
     rcases jF h with⟨c28,h⟩ | ⟨c28,h⟩
     ·refine TL.run ah [8] Z Z ?_
      iterate 3 refine An Z (.gn Z Z (CN c28)) Z ?_
      refine TL.q Z .u (Aq Z (CN c28) Z) Z (TL.run ah [13] Z Z ?_)
      iterate 4 refine An Z (.gn Z Z Z) Z ?_
      refine TL.q Z .u (Aq Z Z Z) Z (TL.run ah [19] Z Z ?_)
      cases h
      exact TL.nil (AB [0,0] ⟨Z,Z⟩ (by rfl) (by rfl))
     ·refine TL.run ah [8] Z Z (TL.q Z (.g Z Z (CO c28)) (Ao ah Z) Z (TL.q Z (.g Z Z (CO c28)) (Ai 0 Z CV Z Z) Z (TL.q Z (.g Z Z (CO c28)) (Ao ah Z) Z (TL.q Z .u (Ar Z (CO c28) Z) Z ?_))))
      rcases jF h with⟨c29,h⟩ | ⟨c29,h⟩
      ·refine TL.run ah [13] Z Z ?_
       iterate 4 refine An Z (.gn Z Z (CN c29)) Z ?_
       refine TL.q Z .u (Aq Z (CN c29) Z) Z (TL.run ah [19] Z Z ?_)
       cases h
       exact TL.nil (AB [0,0] ⟨Z,Z⟩ (by rfl) (by rfl))
      ·refine TL.run ah [13] Z Z (TL.q Z (.g Z Z (CO c29)) (Ao ah Z) Z (TL.q Z (.g Z Z (CO c29)) (Ai 0 Z CV Z Z) Z ?_))
       obtain⟨x30,hx31,h⟩:=CM h
       refine Ax Z (.g Z Z (CO c29)) (.fn Tryz.call78 Z) (AN (fun w=>eC a0.Cz 4 _ hx31 w)) (fun _ _=>RX.reads_triv _ _) Z (TL.q Z (.g Z Z (CO c29)) (Ao ah Z) Z (TL.q Z .u (Ar Z (CO c29) Z) Z (TL.run ah [19] Z Z ?_)))
       rcases jF h with⟨c32,h⟩ | ⟨c32,h⟩
       ·cases h
        exact TL.nil (Bh (d:=29) (v':= .bool false) Z (congrArg Value.bool (az c32)) (AB [0,0] ⟨Z,Z⟩ (by rfl) (by rfl)))
       ·replace c32:=CX c32
        cases h
        exact TL.nil (Bh (d:=29) (v':= .bool true) Z (congrArg Value.bool (aD c32)) (AB [0,0] ⟨Z,Z⟩ (by rfl) (by rfl)))
   ·rintro _ _ ⟨rfl,rfl⟩
    clear h
    have h:=hk26
    clear hk26
    try dsimp only at h
    rcases jF h with⟨c33,h⟩ | ⟨c33,h⟩
    ·refine X.seq (Am Z c33 (T.seq (T.region Z (TL.run ah [0] Z Z ?_))))
     obtain rfl:=CP h
     exact TL.nil (X.seq (T.ret (At (Al (Ak [1] EX (Aj Z) ⟨Z,Z,Z⟩ (by rfl) (.inl Z))))))
    ·replace c33:=CX c33
     refine X.seq (Ap Z c33 (T.skip (Az (X.seq (T.seq (T.seq (T.region Z (TL.run ah [0] Z Z (TL.q Z .u (Ai 0 Z EL Z Z) Z ?_)))))))))
     obtain⟨x34,hx35,h⟩:=CM h
     refine Ax Z .u (.fn Tryz.call79 Z) (mn a0.Cm _ _ _ hx35) (fun _ hs=>(AE hs hX)) Z (TL.run ah [3] Z Z (TL.nil (X.seq (T.seq (T.region Z (TL.run ah [0,1] Z Z ?_))))))
     rcases jF h with⟨c36,h⟩ | ⟨c36,h⟩
     ·refine TL.nil (X.seq (Ap Z (az (CN c36)) (T.skip (X.seq (T.seq (T.seq (T.region Z (TL.run ah [0] Z Z (TL.q Z .u (Ai 0 Z EL Z Z) Z (TL.q Z .u (AA Z DG) Z (TL.run ah [3] Z Z (TL.nil (X.seq (T.block ?_))))))))))))))
      obtain⟨E39,hE40,hO41⟩:=CM h
      have hk45len:=Bf hX
      refine AV (fun m e Rs=> ∃ (y37:Int) (k38:Nat),k38+m=a0.Cm.length∧e = [(1,jI a1),(2,jP b3),(4,jI y37),(56,.slice A1 a0.Cm.length c2),(57,jI (a0.Cm.length:Int)),(58,jI (k38:Int))]∧Rs = [aC b3 50 #[.bool a0.CA.null,jS a0.CA.data,jI a0.CG,jI a0.Cz,.slice A1 a0.Cm.length c2],aB]∧bj a0 a1 (a0.Cm.drop k38) y37=some E39) (a0.Cm.length) [0,0] ⟨0,0,by simp,Z,Z,by rw[List.drop_zero]; exact hE40⟩ (by rfl) (by rfl) ?_
      rintro m42 _ _ ⟨y37,k38,hk45,rfl,rfl,hl44⟩
      clear hE40 h
      cases m42 with
      | zero =>
       have h:=hl44
       clear hl44
       rw[List.drop_of_length_le (by omega),bj] at h
       have hk45ge: ¬ ((k38:Int)<(a0.Cm.length:Int)):=by omega
       refine T.seq (T.region Z (TL.run ah [0] Z Z (TL.nil (X.seq (T.seq (Ap Z (CO hk45ge) ?_))))))
       obtain rfl:=CP h
       replace h:=hO41
       clear hO41
       try dsimp only at h
       refine T.exit (Au (Au (AS (X.seq (T.seq (T.region Z (TL.run ah [0] Z Z ?_)))))))
       obtain rfl:=CP h
       exact TL.nil (X.seq (T.ret (Ak [1] EX (Aj Z) ⟨Z,Z,Z⟩ (by rfl) (.inl Z))))
      | succ m42 =>
       have h:=hl44
       clear hl44
       obtain⟨x43,hxx43⟩: ∃ x,a0.Cm[k38]? = some x:=⟨_,List.getElem?_eq_getElem (by omega)⟩
       rw[bU hxx43,bj] at h
       have hk45lt:(k38:Int)<(a0.Cm.length:Int):=by omega
       refine T.seq (T.region Z (TL.run ah [0] Z Z (TL.nil (X.seq (T.seq (Am Z (CN hk45lt) ?_))))))
       obtain⟨gz46,oz46,rfl,z46cs,z46cl,z46cc,z46nf,z46r⟩:=AK (by decide) hX hxx43
       obtain⟨z46S,z46r,z46rr⟩:=z46r
       obtain⟨A47,c48,rfl,z46s0⟩:=z46r
       have hX49:(RX.of (av 2 bm) [.slice A47 x43.Cj.length c48] x43.Cj).reads w F:=⟨z46S,z46s0,z46rr⟩
       refine T.skip (X.seq (T.seq (T.block (T.seq (T.region Z ?_)))))
       refine TL.q Z .u (Aw (k:=k38) Z Z Z DG DR (CU hxx43).1) Z ?_
       refine TL.q Z .u (Bb (us := [jS x43.Cx,.slice A47 x43.Cj.length c48]) 0 Z Fj DR z46nf z46cc Z Z Z) Z (TL.alloc Z .u Tryz.zeroValue81 Z (fun b50=>(Ay (cs':= #[jS x43.Cx,.slice A47 x43.Cj.length c48]) Z .u Z Z DR Z Z Z Z (TL.nil (X.seq (T.seq (T.region Z (TL.run ah [0] Z Z (TL.q Z .u (Ai 0 Z Eh Z Z) Z (TL.q Z .u (AA Z DH) Z (TL.run ah [3] Z Z ?_)))))))))))
       refine TL.nil (X.seq (T.block ?_))
       obtain⟨E53,hE54,hO55⟩:=CM h
       have hk59len:=Bf hX49
       refine AV (fun m e Rs=> ∃ (y51:Int) (k52:Nat),k52+m=x43.Cj.length∧e = [(1,jI a1),(2,jP b3),(4,jI y51),(56,.slice (some ⟨gz46,oz46,none⟩) a0.Cm.length c2),(57,jI (a0.Cm.length:Int)),(58,jI (k38:Int)),(63,.slice A47 x43.Cj.length c48),(64,jI (x43.Cj.length:Int)),(65,jI (k52:Int))]∧Rs = [aC b50 81 #[jS x43.Cx,.slice A47 x43.Cj.length c48],aC b3 50 #[.bool a0.CA.null,jS a0.CA.data,jI a0.CG,jI a0.Cz,.slice (some ⟨gz46,oz46,none⟩) a0.Cm.length c2],aB]∧bi a0 a1 (x43.Cj.drop k52) y51=some E53) (x43.Cj.length) [0,0,0] ⟨y37,0,by simp,Z,Z,by rw[List.drop_zero]; exact hE54⟩ (by rfl) (by rfl) ?_
       rintro m56 _ _ ⟨y51,k52,hk59,rfl,rfl,hl58⟩
       clear hE54 h
       cases m56 with
       | zero =>
        have h:=hl58
        clear hl58
        rw[List.drop_of_length_le (by omega),bi] at h
        have hk59ge: ¬ ((k52:Int)<(x43.Cj.length:Int)):=by omega
        refine T.seq (T.region Z (TL.run ah [0] Z Z (TL.nil (X.seq (T.seq (Ap Z (CO hk59ge) ?_))))))
        obtain rfl:=CP h
        replace h:=hO55
        clear hO55
        try dsimp only at h
        exact T.exit (Au (Au (AS (Az (X.seq (T.region Z (TL.q Z .u (Ex.add Z Z (by omega)) Z (TL.run ah [1] Z Z (TL.nil (X.back (m':=m42) [1,1] (by omega) ⟨y51,k38+1,by omega,Z,Z,h⟩ (by rfl) (by rfl)))))))))))
       | succ m56 =>
        have h:=hl58
        clear hl58
        obtain⟨x57,hxx57⟩: ∃ x,x43.Cj[k52]? = some x:=⟨_,List.getElem?_eq_getElem (by omega)⟩
        rw[bU hxx57,bi] at h
        have hk59lt:(k52:Int)<(x43.Cj.length:Int):=by omega
        refine T.seq (T.region Z (TL.run ah [0] Z Z (TL.nil (X.seq (T.seq (Am Z (CN hk59lt) ?_))))))
        obtain⟨gz60,oz60,rfl,z60cs,z60cl,z60cc,z60nf,z60r⟩:=AK (by decide) hX49 hxx57
        obtain⟨z60S,z60r,z60rr⟩:=z60r
        obtain⟨A61,c62,rfl,z60s0⟩:=z60r
        have hX63:(RX.of (av 12 bD) [.slice A61 x57.Ct.length c62] x57.Ct).reads w F:=⟨z60S,z60s0,z60rr⟩
        refine T.skip (X.seq (T.seq (T.block (T.seq (T.region Z ?_)))))
        refine TL.q Z .u (Aw (k:=k52) Z Z Z DH DJ (CU hxx57).1) Z ?_
        refine TL.q Z .u (Bb (us := [jI x57.CD,.slice A61 x57.Ct.length c62]) 0 Z EK DJ z60nf z60cc Z Z Z) Z (TL.alloc Z .u Tryz.zeroValue84 Z (fun b64=>(Ay (cs':= #[jI x57.CD,.slice A61 x57.Ct.length c62]) Z .u Z Z DJ Z Z Z Z (TL.nil (X.seq (T.seq (T.region Z (TL.q Z .u (Av (us := [.bool a0.CA.null,jS a0.CA.data,jI a0.CG,jI a0.Cz,.slice (some ⟨gz46,oz46,none⟩) a0.Cm.length c2]) 2 Z D6 DM Z Z Z) Z (TL.run ah [1] Z Z (TL.q Z .u (Ai 0 Z Ei Z Z) Z ?_))))))))))
        obtain⟨x65,hx66,h⟩:=CM h
        refine TL.run ah [3] Z Z (Ax Z .u (.fn Tryz.call80 Z) (ib a0 _ _ x57.Ct _ _ a1 _ hx66) (fun _ hs=>(BB (AE hs hX) (AE hs hX63))) Z (TL.run ah [5] Z Z (TL.nil (X.seq (T.seq (T.region Z (TL.run ah [0,1] Z Z ?_)))))))
        rcases jF h with⟨c67,h⟩ | ⟨c67,h⟩
        ·exact TL.nil (X.seq (Ap Z (az (CN c67)) (T.skip (Az (X.seq (T.region Z (TL.q Z .u (Ex.add Z Z (by omega)) Z (TL.run ah [1] Z Z (TL.nil (X.back (m':=m56) [1,1,1] (by omega) ⟨y51,k52+1,by omega,Z,Z,h⟩ (by rfl) (by rfl)))))))))))
        ·refine TL.nil (X.seq (Am Z (aD (CO c67)) (T.seq (T.region Z (TL.run ah [0,1] Z Z ?_)))))
         obtain rfl:=CP h
         replace h:=hO55
         clear hO55
         try dsimp only at h
         obtain rfl:=CP h
         replace h:=hO41
         clear hO41
         try dsimp only at h
         obtain rfl:=CP h
         exact TL.nil (X.seq (T.ret (At (Al (Al (At (At (Al (Al (At (Al (Ak [3] EX (Aj Z) ⟨Z,Z,Z⟩ (by rfl) (.inl Z)))))))))))))
     ·refine TL.nil (X.seq (Am Z (aD (CO c36)) (T.seq (T.region Z (TL.run ah [0,1] Z Z ?_)))))
      obtain rfl:=CP h
      exact TL.nil (X.seq (T.ret (Al (Ak [1] EX (Aj Z) ⟨Z,Z,Z⟩ (by rfl) (.inl Z)))))
def cc:List aE→(List UInt8×Int)→Option (List UInt8×Int)
 | [],st78=>some st78
 | x83::xs,st78=>(lF x83.Ct).bind fun (x91,x92)=>(if x92=0 then some st78 else ((ku st78 x92).bind fun st100=>some st100)).bind fun st97=>(fa st97 x83.CD 4).bind fun st102=>(gOf x91).bind fun x104=>(l6 st102 x104 4).bind fun st106=>cc xs st106
def cf:List ax→(List UInt8×Int)→Option (List UInt8×Int)
 | [],st16=>some st16
 | x21::xs,st16=>((p7 st16 x21.Cx).bind fun st73=>(fa st73 (x21.Cj.length:Int) 4).bind fun st75=>(cc x21.Cj st75).bind fun st109=>some st109).bind fun st66=>cf xs st66
def eN (st:List UInt8×Int) (a0:aw) (a2:Int):Option (List UInt8×Int):=(aT a0 a2).bind fun x4=>if x4=0 then ((l6 st a0.CA 2).bind fun st7=>(fa st7 a0.CG 2).bind fun st9=>(fa st9 a0.Cz 4).bind fun st11=>(fa st11 (a0.Cm.length:Int) 4).bind fun st13=>(cf a0.Cm st13).bind fun st111=>some st111) else ((ku st x4).bind fun st112=>some st112)
theorem iF (g:Nat) (st:List UInt8×Int) (a0:aw) (A1:Option Addr) (c2:Nat) (a2:Int) (r:List UInt8×Int) (h:eN st a0 a2=some r):ay Tryz.prog 27 #[.agg #[.bool a0.CA.null,jS a0.CA.data,jI a0.CG,jI a0.Cz,.slice A1 a0.Cm.length c2],jP g,jI a2] (RX.of (av 2 aO) [.slice A1 a0.Cm.length c2] a0.Cm) (aW g st) (fun v A' N=>v= .tuple #[]∧A'=aW g r∧N = []):=by
 refine aL Tryz.func27 Z Tryz.ntmps27 Z ?_
 intro F w hX
 unfold eN at h
 refine T.seq (T.region Z (TL.box Z .u Z Z (fun b3=>(TL.nil (X.seq (T.seq (T.seq (T.region Z (TL.q Z .u (Av (us := [.bool a0.CA.null,jS a0.CA.data,jI a0.CG,jI a0.Cz,.slice A1 a0.Cm.length c2]) 0 Z D6 DM Z Z Z) Z ?_)))))))))
 obtain⟨x4,hx5,h⟩:=CM h
 refine TL.run ah [1] Z Z (Ax Z .u (.fn Tryz.call30 Z) (cJ a0 _ _ a2 _ hx5) (fun _ hs=>(AE hs hX)) Z (TL.run ah [3] Z Z (TL.nil (X.seq (T.seq (T.region Z (TL.run ah [0,1] Z Z ?_)))))))
 rcases jF h with⟨c6,h⟩ | ⟨c6,h⟩
 ·refine TL.nil (X.seq (Ap Z (az (CN c6)) (T.skip (X.seq (T.seq (T.region Z (TL.run ah [0,1] Z Z (TL.q Z .u (Av (us := [.bool a0.CA.null,jS a0.CA.data]) 0 Z Dw C7 Z Z Z) Z ?_))))))))
  obtain⟨st7,hx8,h⟩:=CM h
  refine Bd Z .u (.fn Tryz.call70 Z) (lv g st a0.CA 2 _ hx8) (fun _ hs=>(Src.triv _)) Z (TL.nil (X.seq (T.seq (T.region Z (TL.run ah [0,1] Z Z (TL.q Z .u (Ai 0 Z CV Z Z) Z ?_))))))
  obtain⟨st9,hx10,h⟩:=CM h
  refine Bd Z .u (.fn Tryz.call71 Z) (bK g st7 a0.CG 2 _ hx10) (fun _ hs=>(Src.triv _)) Z (TL.nil (X.seq (T.seq (T.region Z (TL.run ah [0,1] Z Z (TL.q Z .u (Ai 0 Z CV Z Z) Z ?_))))))
  obtain⟨st11,hx12,h⟩:=CM h
  refine Bd Z .u (.fn Tryz.call71 Z) (bK g st9 a0.Cz 4 _ hx12) (fun _ hs=>(Src.triv _)) Z (TL.nil (X.seq (T.seq (T.region Z (TL.run ah [0,1] Z Z (TL.q Z .u (Ai 0 Z EL Z Z) Z (TL.q Z .u (AA Z DG) Z ?_)))))))
  obtain⟨st13,hx14,h⟩:=CM h
  refine Bd Z .u (.fn Tryz.call71 Z) (bK g st11 (a0.Cm.length:Int) 4 _ hx14) (fun _ hs=>(Src.triv _)) Z (TL.nil (X.seq (T.seq (T.region Z (TL.run ah [0] Z Z (TL.q Z .u (Ai 0 Z EL Z Z) Z (TL.q Z .u (AA Z DG) Z (TL.run ah [3] Z Z (TL.nil (X.seq (T.block ?_)))))))))))
  obtain⟨E17,hE18,hO19⟩:=CM h
  have hk23len:=Bf hX
  refine AV (fun m e Rs=> ∃ (k15:Nat) (st16:List UInt8×Int),k15+m=a0.Cm.length∧e = [(1,jP g),(39,.slice A1 a0.Cm.length c2),(40,jI (a0.Cm.length:Int)),(41,jI (k15:Int))]∧Rs = [aC b3 50 #[.bool a0.CA.null,jS a0.CA.data,jI a0.CG,jI a0.Cz,.slice A1 a0.Cm.length c2],aW g st16]∧cf (a0.Cm.drop k15) st16=some E17) (a0.Cm.length) [0,0] ⟨0,st13,by simp,Z,Z,by rw[List.drop_zero]; exact hE18⟩ (by rfl) (by rfl) ?_
  rintro m20 _ _ ⟨k15,st16,hk23,rfl,rfl,hl22⟩
  clear hE18 h
  cases m20 with
  | zero =>
   have h:=hl22
   clear hl22
   rw[List.drop_of_length_le (by omega),cf] at h
   have hk23ge: ¬ ((k15:Int)<(a0.Cm.length:Int)):=by omega
   refine T.seq (T.region Z (TL.run ah [0] Z Z (TL.nil (X.seq (T.seq (Ap Z (CO hk23ge) ?_))))))
   obtain rfl:=CP h
   replace h:=hO19
   clear hO19
   try dsimp only at h
   obtain rfl:=CP h
   exact T.exit (Au (Au (AS (BH [1] Tryz.results27 ⟨Z,Z,Z⟩ (by rfl) (.inr Z)))))
  | succ m20 =>
   have h:=hl22
   clear hl22
   obtain⟨x21,hxx21⟩: ∃ x,a0.Cm[k15]? = some x:=⟨_,List.getElem?_eq_getElem (by omega)⟩
   rw[bU hxx21,cf] at h
   have hk23lt:(k15:Int)<(a0.Cm.length:Int):=by omega
   refine T.seq (T.region Z (TL.run ah [0] Z Z (TL.nil (X.seq (T.seq (Am Z (CN hk23lt) (T.skip (X.seq (T.seq ?_)))))))))
   obtain⟨st66,h,hk67⟩:=CM h
   refine Bg (fun e Rs=>e = [(1,jP g),(39,.slice A1 a0.Cm.length c2),(40,jI (a0.Cm.length:Int)),(41,jI (k15:Int))]∧Rs = [aC b3 50 #[.bool a0.CA.null,jS a0.CA.data,jI a0.CG,jI a0.Cz,.slice A1 a0.Cm.length c2],aW g st66]) ?_ ?_
   ·clear hk67
    obtain⟨gz68,oz68,rfl,z68cs,z68cl,z68cc,z68nf,z68r⟩:=AK (by decide) hX hxx21
    obtain⟨z68S,z68r,z68rr⟩:=z68r
    obtain⟨A69,c70,rfl,z68s0⟩:=z68r
    have hX71:(RX.of (av 2 bm) [.slice A69 x21.Cj.length c70] x21.Cj).reads w F:=⟨z68S,z68s0,z68rr⟩
    refine T.block (T.seq (T.region Z ?_))
    refine TL.q Z .u (Aw (k:=k15) Z Z Z DG DR (CU hxx21).1) Z ?_
    refine TL.q Z .u (Bb (us := [jS x21.Cx,.slice A69 x21.Cj.length c70]) 0 Z Fj DR z68nf z68cc Z Z Z) Z (TL.alloc Z .u Tryz.zeroValue81 Z (fun b72=>(Ay (cs':= #[jS x21.Cx,.slice A69 x21.Cj.length c70]) Z .u Z Z DR Z Z Z Z (TL.nil (X.seq (T.seq (T.region Z (TL.run ah [0,1] Z Z (TL.q Z .u (Ai 0 Z Dp Z Z) Z ?_)))))))))
    obtain⟨st73,hx74,h⟩:=CM h
    refine BA Z .u (.fn Tryz.call72 Z) (rh g st16 x21.Cx _ hx74) (fun _ hs=>(Src.triv _)) Z (TL.nil (X.seq (T.seq (T.region Z (TL.run ah [0,1] Z Z (TL.q Z .u (Ai 0 Z Eh Z Z) Z (TL.q Z .u (AA Z DH) Z ?_)))))))
    obtain⟨st75,hx76,h⟩:=CM h
    refine BA Z .u (.fn Tryz.call71 Z) (bK g st73 (x21.Cj.length:Int) 4 _ hx76) (fun _ hs=>(Src.triv _)) Z (TL.nil (X.seq (T.seq (T.region Z (TL.run ah [0] Z Z (TL.q Z .u (Ai 0 Z Eh Z Z) Z (TL.q Z .u (AA Z DH) Z (TL.run ah [3] Z Z (TL.nil (X.seq (T.block ?_)))))))))))
    obtain⟨E79,hE80,hO81⟩:=CM h
    have hk85len:=Bf hX71
    refine AV (fun m e Rs=> ∃ (k77:Nat) (st78:List UInt8×Int),k77+m=x21.Cj.length∧e = [(1,jP g),(39,.slice (some ⟨gz68,oz68,none⟩) a0.Cm.length c2),(40,jI (a0.Cm.length:Int)),(41,jI (k15:Int)),(55,.slice A69 x21.Cj.length c70),(56,jI (x21.Cj.length:Int)),(57,jI (k77:Int))]∧Rs = [aC b72 81 #[jS x21.Cx,.slice A69 x21.Cj.length c70],aC b3 50 #[.bool a0.CA.null,jS a0.CA.data,jI a0.CG,jI a0.Cz,.slice (some ⟨gz68,oz68,none⟩) a0.Cm.length c2],aW g st78]∧cc (x21.Cj.drop k77) st78=some E79) (x21.Cj.length) [0,0,0] ⟨0,st75,by simp,Z,Z,by rw[List.drop_zero]; exact hE80⟩ (by rfl) (by rfl) ?_
    rintro m82 _ _ ⟨k77,st78,hk85,rfl,rfl,hl84⟩
    clear hE80 h
    cases m82 with
    | zero =>
     have h:=hl84
     clear hl84
     rw[List.drop_of_length_le (by omega),cc] at h
     have hk85ge: ¬ ((k77:Int)<(x21.Cj.length:Int)):=by omega
     refine T.seq (T.region Z (TL.run ah [0] Z Z (TL.nil (X.seq (T.seq (Ap Z (CO hk85ge) ?_))))))
     obtain rfl:=CP h
     replace h:=hO81
     clear hO81
     try dsimp only at h
     cases h
     exact T.exit (Au (Au (AS (Az (AB [1,1] ⟨Z,Z⟩ (by rfl) (by rfl))))))
    | succ m82 =>
     have h:=hl84
     clear hl84
     obtain⟨x83,hxx83⟩: ∃ x,x21.Cj[k77]? = some x:=⟨_,List.getElem?_eq_getElem (by omega)⟩
     rw[bU hxx83,cc] at h
     have hk85lt:(k77:Int)<(x21.Cj.length:Int):=by omega
     refine T.seq (T.region Z (TL.run ah [0] Z Z (TL.nil (X.seq (T.seq (Am Z (CN hk85lt) ?_))))))
     obtain⟨gz86,oz86,rfl,z86cs,z86cl,z86cc,z86nf,z86r⟩:=AK (by decide) hX71 hxx83
     obtain⟨z86S,z86r,z86rr⟩:=z86r
     obtain⟨A87,c88,rfl,z86s0⟩:=z86r
     have hX89:(RX.of (av 12 bD) [.slice A87 x83.Ct.length c88] x83.Ct).reads w F:=⟨z86S,z86s0,z86rr⟩
     refine T.skip (X.seq (T.seq (T.block (T.seq (T.region Z ?_)))))
     refine TL.q Z .u (Aw (k:=k77) Z Z Z DH DJ (CU hxx83).1) Z ?_
     refine TL.q Z .u (Bb (us := [jI x83.CD,.slice A87 x83.Ct.length c88]) 0 Z EK DJ z86nf z86cc Z Z Z) Z (TL.alloc Z .u Tryz.zeroValue84 Z (fun b90=>(Ay (cs':= #[jI x83.CD,.slice A87 x83.Ct.length c88]) Z .u Z Z DJ Z Z Z Z (TL.nil (X.seq (T.seq (T.region Z (TL.run ah [0] Z Z (TL.q Z .u (Ai 0 Z Ei Z Z) Z ?_)))))))))
     obtain⟨⟨x91,x92⟩,hx93,h⟩:=CM h
     try dsimp only at h
     refine Ax Z .u (.fn Tryz.call36 Z) (nX x83.Ct _ _ _ hx93) (fun _ hs=>(AE hs hX89)) Z (TL.run ah [3,4,5,6,7] Z Z (TL.nil (X.seq (T.seq (T.seq (T.region Z (TL.run ah [0,1] Z Z (TL.nil (X.seq ?_)))))))))
     obtain⟨st97,h,hk98⟩:=CM h
     refine Bg (fun e Rs=>e = [(1,jP g),(10,jP b90),(11,jS x91),(39,.slice (some ⟨gz68,oz68,none⟩) a0.Cm.length c2),(40,jI (a0.Cm.length:Int)),(41,jI (k15:Int)),(55,.slice (some ⟨gz86,oz86,none⟩) x21.Cj.length c70),(56,jI (x21.Cj.length:Int)),(57,jI (k77:Int))]∧Rs = [aC b90 84 #[jI x83.CD,.slice A87 x83.Ct.length c88],aC b72 81 #[jS x21.Cx,.slice (some ⟨gz86,oz86,none⟩) x21.Cj.length c70],aC b3 50 #[.bool a0.CA.null,jS a0.CA.data,jI a0.CG,jI a0.Cz,.slice (some ⟨gz68,oz68,none⟩) a0.Cm.length c2],aW g st97]) ?_ ?_
     ·clear hk98
      rcases jF h with⟨c99,h⟩ | ⟨c99,h⟩
      ·refine Ap Z (az (CN c99)) ?_
       cases h
       exact T.skip (AB [0,0,0,0] ⟨Z,Z⟩ (by rfl) (by rfl))
      ·refine Am Z (aD (CO c99)) (T.region Z ?_)
       obtain⟨st100,hx101,h⟩:=CM h
       refine TL.run ah [0,1] Z Z (BT Z .u (.fn Tryz.call69 Z) (gX g st78 x92 _ hx101) (fun _ hs=>(Src.triv _)) Z ?_)
       cases h
       exact TL.nil (AB [0,0,0,0] ⟨Z,Z⟩ (by rfl) (by rfl))
     ·rintro _ _ ⟨rfl,rfl⟩
      clear h
      have h:=hk98
      clear hk98
      try dsimp only at h
      refine X.seq (T.seq (T.region Z (TL.run ah [0,1] Z Z (TL.q Z .u (Ai 0 Z CV Z Z) Z ?_))))
      obtain⟨st102,hx103,h⟩:=CM h
      refine BT Z .u (.fn Tryz.call71 Z) (bK g st97 x83.CD 4 _ hx103) (fun _ hs=>(Src.triv _)) Z (TL.nil (X.seq (T.region Z ?_)))
      obtain⟨x104,hx105,h⟩:=CM h
      refine TL.run ah [0,1] Z Z (Ax Z .u (.fn Tryz.call73 Z) (ya x91 _ hx105) (fun _ hs=>(RX.reads_triv _ _)) Z ?_)
      obtain⟨st106,hx107,h⟩:=CM h
      exact BT Z .u (.fn Tryz.call70 Z) (lv g st102 x104 4 _ hx107) (fun _ hs=>(Src.triv _)) Z (TL.nil (Az (X.seq (T.region Z (TL.q Z .u (Ex.add Z Z (by omega)) Z (TL.run ah [1] Z Z (TL.nil (X.back (m':=m82) [1,1,1] (by omega) ⟨k77+1,st106,by omega,Z,Z,h⟩ (by rfl) (by rfl)))))))))
   ·rintro _ _ ⟨rfl,rfl⟩
    clear h
    have h:=hk67
    clear hk67
    try dsimp only at h
    exact X.seq (T.region Z (TL.q Z .u (Ex.add Z Z (by omega)) Z (TL.run ah [1] Z Z (TL.nil (X.back (m':=m20) [0,0] (by omega) ⟨k15+1,st66,by omega,Z,Z,h⟩ (by rfl) (by rfl))))))
 ·refine TL.nil (X.seq (Am Z (aD (CO c6)) (T.seq (T.region Z ?_))))
  obtain⟨st112,hx113,h⟩:=CM h
  refine TL.run ah [0,1] Z Z (Bd Z .u (.fn Tryz.call69 Z) (gX g st x4 _ hx113) (fun _ hs=>(Src.triv _)) Z ?_)
  obtain rfl:=CP h
  exact TL.nil (X.seq (T.ret (Al (BH [1] Tryz.results27 ⟨Z,Z,Z⟩ (by rfl) (.inl Z)))))
def bp:Nat→List Bat→I→I→Option (List Bat×I×I)
 | 0,_,_,_=>none
 | m29+1,y21,st24,st25=>((iD st25).bind fun (x44,st45)=>if x44=0 then ((pX st24).bind fun (x48,st49)=>if x48>0 then some (true,st49,st45) else some (false,st49,st45)) else some (false,st24,st45)).bind fun (y40,st41,st42)=>if y40=true then ((fx st41).bind fun (x53,st56)=>if (y21.length+1)*96≤140737488355328 then ((iD st56).bind fun (x62,st63)=>(if x62=0 then some st42 else ((bE st42 x62).bind fun st71=>some st71)).bind fun st68=>bp m29 (y21 ++ [x53]) st63 st68) else none) else some (y21,st41,st42)
def ew (st:I)  : Option (aE×I):=(fG st 4).bind fun (x2,st3)=>(kx st3 4).bind fun (x6,st7)=>(if x6.null=true then ((bE st7 4).bind fun st16=>some st16) else some st7).bind fun st13=>(rf x6.data).bind fun st18=>(bp (((st18.rest.length:Int)+(st13.rest.length:Int)+1).toNat+1) [] st18 st13).bind fun (y73,st76,st77)=>some ((⟨x2,y73⟩:aE),st77)
theorem iy (g:Nat) (st:I)  (r:aE×I) (h:ew st  = some r):ay Tryz.prog 60 #[jP g] .triv (InR g st) (fun v A' N=> ∃ (A78:Option Addr) (c79:Nat),v= .agg #[jI r.1.CD,.slice A78 r.1.Ct.length c79]∧A'=InR g r.2∧N = [RdR (av 12 bD) [.slice A78 r.1.Ct.length c79] r.1.Ct]):=by
 refine aL Tryz.func60 Z Tryz.ntmps60 Z ?_
 intro F w hX
 unfold ew at h
 refine T.seq (T.region Z (TL.alloc Z .u Tryz.zeroValue84 Z (fun b1=>(TL.nil (X.seq (T.seq (T.region Z ?_)))))))
 obtain⟨⟨x2,st3⟩,hx4,h⟩:=CM h
 try dsimp only at h
 refine TL.run ah [0] Z Z (Bd Z .u (.fn Tryz.call57 Z) (bN g st 4 _ hx4) (fun _ hs=>(Src.triv _)) Z ?_)
 refine TL.q Z .u (AD (cells:= #[jI x2,.slice none 0 0]) qN Z (by kernel_rfl)) Z ?_
 refine TL.alloc Z .u Tryz.zeroValue84 Z (fun b5=>(Ay (cs':= #[jI x2,.slice none 0 0]) Z .u Z Z DJ Z Z Z Z (TL.nil (X.seq (T.seq (T.region Z ?_))))))
 obtain⟨⟨x6,st7⟩,hx8,h⟩:=CM h
 try dsimp only at h
 refine TL.run ah [0] Z Z (BA Z .u (.fn Tryz.call56 Z) (oT g st3 4 _ hx8) (fun _ hs=>(Src.triv _)) Z (TL.alloc Z .u Tryz.zeroValue35 Z (fun b9=>(Ay (cs':= #[.bool x6.null,jS x6.data]) Z .u Z Z C7 Z Z Z Z (TL.nil (X.seq (T.seq (T.seq (T.region Z (TL.run ah [0] Z Z (TL.q Z .u (Ai 0 Z Dd Z Z) Z (TL.nil (X.seq ?_)))))))))))))
 obtain⟨st13,h,hk14⟩:=CM h
 refine Bg (fun e Rs=>e = [(0,jP g),(2,jP b1),(3,jP b5),(4,jP b9)]∧Rs = [aC b9 35 #[.bool x6.null,jS x6.data],aC b5 84 #[jI x2,.slice none 0 0],aC b1 84 #[jI 0,.slice none 0 0],InR g st13]) ?_ ?_
 ·clear hk14
  rcases jF h with⟨c15,h⟩ | ⟨c15,h⟩
  ·refine Am Z c15 (T.region Z ?_)
   obtain⟨st16,hx17,h⟩:=CM h
   refine TL.run ah [0] Z Z (BT Z .u (.fn Tryz.call61 Z) (bg g st7 4 _ hx17) (fun _ hs=>(Src.triv _)) Z ?_)
   cases h
   exact TL.nil (AB [0,0,0,0] ⟨Z,Z⟩ (by rfl) (by rfl))
  ·replace c15:=CX c15
   refine Ap Z c15 ?_
   cases h
   exact T.skip (AB [0,0,0,0] ⟨Z,Z⟩ (by rfl) (by rfl))
 ·rintro _ _ ⟨rfl,rfl⟩
  clear h
  have h:=hk14
  clear hk14
  try dsimp only at h
  refine X.seq (T.seq (T.region Z (TL.run ah [0] Z Z (TL.q Z .u (Ai 0 Z Dp Z Z) Z ?_))))
  obtain⟨st18,hx19,h⟩:=CM h
  refine AP Z .u (.fn Tryz.call18 Z) (iH x6.data _ hx19) (fun _ hs=>(RX.reads_triv _ _)) Z ?_
  rintro _ _ _ ⟨b20,rfl,rfl,rfl⟩
  refine AC [0,0,0,0,0] Z (TL.run ah [3] Z Z (TL.nil (X.seq (T.seq (T.block (Bt 27 12 bD ?_))))))
  obtain⟨E26,hE27,hO28⟩:=CM h
  refine AV (fun m e Rs=> ∃ (y21:List Bat) (A22:Option Addr) (c23:Nat) (st24:I) (st25:I),e = [(0,jP g),(2,jP b1),(3,jP b5),(5,jP b20)]∧Rs = [aZ 27 12 bD (.slice A22 y21.length c23) y21,InR b20 st24,aC b9 35 #[.bool x6.null,jS x6.data],aC b5 84 #[jI x2,.slice A22 y21.length c23],aC b1 84 #[jI 0,.slice none 0 0],InR g st25]∧bp m y21 st24 st25=some E26) (((st18.rest.length:Int)+(st13.rest.length:Int)+1).toNat+1) [0,0,0,0,0,0] ⟨[],none,0,st18,st13,Z,Z,by exact hE27⟩ (by rfl) (by rfl) ?_
  rintro m29 _ _ ⟨y21,A22,c23,st24,st25,rfl,rfl,hl31⟩
  clear hE27 h
  cases m29 with
  | zero =>
   rw[bp] at hl31
   cases hl31
  | succ m29 =>
   have h:=hl31
   clear hl31
   rw[bp] at h
   refine T.seq (T.seq ?_)
   obtain⟨⟨y40,st41,st42⟩,h,hk43⟩:=CM h
   refine Bg (fun e Rs=>e = [(0,jP g),(2,jP b1),(3,jP b5),(5,jP b20),(26,.bool y40)]∧Rs = [aZ 27 12 bD (.slice A22 y21.length c23) y21,InR b20 st41,aC b9 35 #[.bool x6.null,jS x6.data],aC b5 84 #[jI x2,.slice A22 y21.length c23],aC b1 84 #[jI 0,.slice none 0 0],InR g st42]) ?_ ?_
   ·clear hk43
    refine T.region Z ?_
    obtain⟨⟨x44,st45⟩,hx46,h⟩:=CM h
    try dsimp only at h
    refine TL.run ah [0] Z Z (BZ Z .u (.fn Tryz.call21 Z) (dr g st25 _ hx46) (fun _ hs=>(Src.triv _)) Z ?_)
    rcases jF h with⟨c47,h⟩ | ⟨c47,h⟩
    ·refine TL.run ah [2,3] Z Z (TL.q Z (.g Z Z (CN c47)) (Ao ah Z) Z ?_)
     obtain⟨⟨x48,st49⟩,hx50,h⟩:=CM h
     try dsimp only at h
     refine Bd Z (.g Z Z (CN c47)) (.fn Tryz.call82 Z) (kw b20 st24 _ hx50) (fun _ hs=>(Src.triv _)) Z (TL.q Z (.g Z Z (CN c47)) (Ao ah Z) Z (TL.q Z .u (Aq Z (CN c47) Z) Z ?_))
     rcases jF h with⟨c51,h⟩ | ⟨c51,h⟩
     ·cases h
      exact TL.nil (Bh (d:=26) (v':= .bool true) Z (congrArg Value.bool (CN c51)) (AB [0,0,0,0,0,0] ⟨Z,Z⟩ (by rfl) (by rfl)))
     ·cases h
      exact TL.nil (Bh (d:=26) (v':= .bool false) Z (congrArg Value.bool (CO c51)) (AB [0,0,0,0,0,0] ⟨Z,Z⟩ (by rfl) (by rfl)))
    ·refine TL.run ah [2,3] Z Z ?_
     iterate 3 refine An Z (.gn Z Z (CO c47)) Z ?_
     refine TL.q Z .u (Ar Z (CO c47) Z) Z ?_
     cases h
     exact TL.nil (AB [0,0,0,0,0,0] ⟨Z,Z⟩ (by rfl) (by rfl))
   ·rintro _ _ ⟨rfl,rfl⟩
    clear h
    have h:=hk43
    clear hk43
    try dsimp only at h
    rcases jF h with⟨c52,h⟩ | ⟨c52,h⟩
    ·refine X.seq (Am Z c52 ?_)
     obtain⟨⟨x53,st56⟩,hx57,h⟩:=CM h
     try dsimp only at h
     replace h:=ak h
     obtain⟨c59,h⟩:=h
     refine T.skip (X.seq (T.block (T.seq ?_)))
     refine BR (fun e Rs=> ∃ (A54:Option Addr) (c55:Nat) (b58:Nat) (A60:Option Addr) (c61:Nat),e = [(0,jP g),(2,jP b1),(3,jP b5),(5,jP b20)]∧Rs = [aZ 27 12 bD (.slice A60 (y21 ++ [x53]).length c61) (y21 ++ [x53]),InR b20 st56,aC b9 35 #[.bool x6.null,jS x6.data],aC b5 84 #[jI x2,.slice A60 (y21 ++ [x53]).length c61],aC b1 84 #[jI 0,.slice none 0 0],InR g st42]) ?_ ?_
     ·refine AH (.q 0 (.q 2 (.br 1 (.e 3 (.e 4 (.e 5 (.q 6 (.e 7 .nil))))) (.e 3 (.br 1 (.e 4 (.e 5 (.q 6 (.e 7 .nil)))) (.e 4 (.e 1 (.e 5 (.q 6 (.e 7 .nil)))))))))) [2,3,3] Z jA nd (by kernel_rfl) ?_
      refine TD.run ah [0,2] Z Z ?_
      refine TD.br ?_ ?_
      ·refine BX Z .u (Ai 3 Z Ei Z Z) Z [2,3,3] Z ?_
       refine TD.cg1 Z .u (.fn Tryz.call49 Z) (jr b20 st41 _ hx57) (fun _ hs=>(Src.triv _)) Z [3,4,4] ?_ ?_
       ·rintro _ _ _ ⟨A54,c55,rfl,rfl,rfl⟩
        rfl
       rintro _ _ _ ⟨A54,c55,rfl,rfl,rfl⟩
       refine Bi [0,0,0,0,0,0,0] Z ?_
       refine Bx (cells:= #[jI x53.Cu,jI x53.Co,.bool x53.Cw,.bool x53.CE,.bool x53.Cq,jI x53.Cr,jI x53.Cl,jI x53.Cy,jI x53.Ci,jI x53.Cp,jI x53.Ch,.slice A54 x53.Ce.length c55]) Z .u gP Z (by kernel_rfl) Z [4,5,5] (fun _=>Z) (fun b58=> ?_)
       refine B9 1 0 Z .u (us := [jI x53.Cu,jI x53.Co,.bool x53.Cw,.bool x53.CE,.bool x53.Cq,jI x53.Cr,jI x53.Cl,jI x53.Cy,jI x53.Ci,jI x53.Cp,jI x53.Ch,.slice A54 x53.Ce.length c55]) (u:=x53) (l:=y21) (E:=bD) Tryz.underlying82 je Z (by decide) Z Z Z Z Z Z Z (fun w G hG=>⟨_,_,Z,hG.1⟩) (by have hq:=c59; omega) (by have hq:=c59; omega) Z [2,3,3] (fun _ _=>Z) (fun A60 c61=> ?_)
       exact Bi [0,0,0,0,0,0] Z (TD.run ah [6] Z Z (BS (cs':= #[jI x2,.slice A60 (y21 ++ [x53]).length c61]) Z .u Z Z Eu Z Z Z Z [2,3,3] (Z) (TD.nil (Bw [0,0,0,0,0,0] ⟨A54,c55,b58,A60,c61,Z,Z⟩ (by rfl) (by rfl)))))
      ·refine TD.cg1 Z .u (.fn Tryz.call49 Z) (jr b20 st41 _ hx57) (fun _ hs=>(Src.triv _)) Z [3,4,4] ?_ ?_
       ·rintro _ _ _ ⟨A54,c55,rfl,rfl,rfl⟩
        rfl
       rintro _ _ _ ⟨A54,c55,rfl,rfl,rfl⟩
       refine Bi [0,0,0,0,0,0,0] Z ?_
       refine TD.br ?_ ?_
       ·refine BX Z .u (Ai 4 Z Ei Z Z) Z [3,4,4] Z ?_
        refine Bx (cells:= #[jI x53.Cu,jI x53.Co,.bool x53.Cw,.bool x53.CE,.bool x53.Cq,jI x53.Cr,jI x53.Cl,jI x53.Cy,jI x53.Ci,jI x53.Cp,jI x53.Ch,.slice A54 x53.Ce.length c55]) Z .u gP Z (by kernel_rfl) Z [4,5,5] (fun _=>Z) (fun b58=> ?_)
        refine B9 1 0 Z .u (us := [jI x53.Cu,jI x53.Co,.bool x53.Cw,.bool x53.CE,.bool x53.Cq,jI x53.Cr,jI x53.Cl,jI x53.Cy,jI x53.Ci,jI x53.Cp,jI x53.Ch,.slice A54 x53.Ce.length c55]) (u:=x53) (l:=y21) (E:=bD) Tryz.underlying82 je Z (by decide) Z Z Z Z Z Z Z (fun w G hG=>⟨_,_,Z,hG.1⟩) (by have hq:=c59; omega) (by have hq:=c59; omega) Z [2,3,3] (fun _ _=>Z) (fun A60 c61=> ?_)
        exact Bi [0,0,0,0,0,0] Z (TD.run ah [6] Z Z (BS (cs':= #[jI x2,.slice A60 (y21 ++ [x53]).length c61]) Z .u Z Z Eu Z Z Z Z [2,3,3] (Z) (TD.nil (Bw [0,0,0,0,0,0] ⟨A54,c55,b58,A60,c61,Z,Z⟩ (by rfl) (by rfl)))))
       ·refine Bx (cells:= #[jI x53.Cu,jI x53.Co,.bool x53.Cw,.bool x53.CE,.bool x53.Cq,jI x53.Cr,jI x53.Cl,jI x53.Cy,jI x53.Ci,jI x53.Cp,jI x53.Ch,.slice A54 x53.Ce.length c55]) Z .u gP Z (by kernel_rfl) Z [4,5,5] (fun _=>Z) (fun b58=> ?_)
        refine BX Z .u (Ai 5 Z Ei Z Z) Z [4,5,5] Z ?_
        refine B9 1 0 Z .u (us := [jI x53.Cu,jI x53.Co,.bool x53.Cw,.bool x53.CE,.bool x53.Cq,jI x53.Cr,jI x53.Cl,jI x53.Cy,jI x53.Ci,jI x53.Cp,jI x53.Ch,.slice A54 x53.Ce.length c55]) (u:=x53) (l:=y21) (E:=bD) Tryz.underlying82 je Z (by decide) Z Z Z Z Z Z Z (fun w G hG=>⟨_,_,Z,hG.1⟩) (by have hq:=c59; omega) (by have hq:=c59; omega) Z [2,3,3] (fun _ _=>Z) (fun A60 c61=> ?_)
        exact Bi [0,0,0,0,0,0] Z (TD.run ah [6] Z Z (BS (cs':= #[jI x2,.slice A60 (y21 ++ [x53]).length c61]) Z .u Z Z Eu Z Z Z Z [2,3,3] (Z) (TD.nil (Bw [0,0,0,0,0,0] ⟨A54,c55,b58,A60,c61,Z,Z⟩ (by rfl) (by rfl)))))
     ·rintro _ _ ⟨A54,c55,b58,A60,c61,rfl,rfl⟩
      refine X.seq (T.seq (T.region Z ?_))
      obtain⟨⟨x62,st63⟩,hx64,h⟩:=CM h
      try dsimp only at h
      refine TL.run ah [0] Z Z (Bd Z .u (.fn Tryz.call21 Z) (dr b20 st56 _ hx64) (fun _ hs=>(Src.triv _)) Z (TL.run ah [2] Z Z (TL.nil (X.seq (T.seq (T.region Z (TL.run ah [0,1] Z Z (TL.nil (X.seq ?_)))))))))
      obtain⟨st68,h,hk69⟩:=CM h
      refine Bg (fun e Rs=>e = [(0,jP g),(2,jP b1),(3,jP b5),(5,jP b20)]∧Rs = [aZ 27 12 bD (.slice A60 (y21 ++ [x53]).length c61) (y21 ++ [x53]),InR b20 st63,aC b9 35 #[.bool x6.null,jS x6.data],aC b5 84 #[jI x2,.slice A60 (y21 ++ [x53]).length c61],aC b1 84 #[jI 0,.slice none 0 0],InR g st68]) ?_ ?_
      ·clear hk69
       rcases jF h with⟨c70,h⟩ | ⟨c70,h⟩
       ·refine Ap Z (az (CN c70)) ?_
        cases h
        exact T.skip (AB [0,0,0,0,0,0] ⟨Z,Z⟩ (by rfl) (by rfl))
       ·refine Am Z (aD (CO c70)) (T.region Z ?_)
        obtain⟨st71,hx72,h⟩:=CM h
        refine TL.run ah [0,1] Z Z (BZ Z .u (.fn Tryz.call61 Z) (bg g st42 x62 _ hx72) (fun _ hs=>(Src.triv _)) Z ?_)
        cases h
        exact TL.nil (AB [0,0,0,0,0,0] ⟨Z,Z⟩ (by rfl) (by rfl))
      ·rintro _ _ ⟨rfl,rfl⟩
       clear h
       have h:=hk69
       clear hk69
       try dsimp only at h
       exact Az (X.back (m':=m29) [0,0,0,0,0,0] (by omega) ⟨(y21 ++ [x53]),A60,c61,st63,st68,Z,Z,h⟩ (by rfl) (by rfl))
    ·replace c52:=CX c52
     refine X.seq (Ap Z c52 ?_)
     obtain rfl:=CP h
     replace h:=hO28
     clear hO28
     try dsimp only at h
     refine T.exit (Au (Au (AS (X.seq (T.seq (T.region Z (TL.q Z .u (Av (us := [jI x2,.slice A22 y21.length c23]) 3 Z EK DJ Z Z Z) Z (Bn (cs':= #[jI x2,.slice A22 y21.length c23]) Z .u Z Z DJ Z Z Z Z ?_))))))))
     obtain rfl:=CP h
     exact TL.nil (X.seq (T.ret (Bu (by decide) 0 Z (AQ [0,0,0,0,0,0] Z (Ak [5,0] Tryz.results60 (AF (us:= #[jI x2,.slice A22 y21.length c23]) 4 Z EK DJ Z Z) ⟨_,_,Z,Z,Z⟩ (by rfl) (.inl Z))))))
def ba (x32:Int):Nat→Nat→List aE→I→Option (Lp (aw×I) (Nat×List aE×I))
 | 0,_,_,_=>none
 | m43+1,k35,y36,st39=>if (k35:Int)<x32 then ((ew st39).bind fun (x48,st51)=>if (y36.length+1)*32≤140737488355328 then ((iD st51).bind fun (x57,st58)=>if x57=0 then (if -9223372036854775808≤((k35:Int)+1)∧((k35:Int)+1)≤9223372036854775807 then (ba x32 m43 (k35+1) (y36 ++ [x48]) st58) else none) else (some (Lp.ret ((⟨(⟨false,[]⟩:Bl),0,0,[]⟩:aw),st58)))) else none) else (some (Lp.go (k35,y36,st39)))
def bM (x12:Int):Nat→Nat→List ax→I→Option (Lp (aw×I) (Nat×List ax×I))
 | 0,_,_,_=>none
 | m23+1,k15,y16,st19=>if (k15:Int)<x12 then ((rC st19).bind fun (x28,st29)=>(il st29 4 8).bind fun (x32,st33)=>(ba x32 ((x32).toNat+1) 0 [] st33).bind fun e=>match e with | .ret r=>some (Lp.ret r) | .go (k71,y72,st75)=>((iD st75).bind fun (x76,st77)=>if x76=0 then (if (y16.length+1)*40≤140737488355328 then (if -9223372036854775808≤((k15:Int)+1)∧((k15:Int)+1)≤9223372036854775807 then (bM x12 m23 (k15+1) (y16 ++ [(⟨x28,y72⟩:ax)]) st77) else none) else none) else (some (Lp.ret ((⟨(⟨false,[]⟩:Bl),0,0,[]⟩:aw),st77))))) else (some (Lp.go (k15,y16,st19)))
theorem mo (x12:Int) (u1:Nat) (u2:List ax) (u3:I):bM x12 0 u1 u2 u3=none:=rfl
theorem ek (x12:Int) (m23:Nat) (k15:Nat) (y16:List ax) (st19:I):bM x12 (m23+1) k15 y16 st19=(if (k15:Int)<x12 then ((rC st19).bind fun (x28,st29)=>(il st29 4 8).bind fun (x32,st33)=>(ba x32 ((x32).toNat+1) 0 [] st33).bind fun e=>match e with | .ret r=>some (Lp.ret r) | .go (k71,y72,st75)=>((iD st75).bind fun (x76,st77)=>if x76=0 then (if (y16.length+1)*40≤140737488355328 then (if -9223372036854775808≤((k15:Int)+1)∧((k15:Int)+1)≤9223372036854775807 then (bM x12 m23 (k15+1) (y16 ++ [(⟨x28,y72⟩:ax)]) st77) else none) else none) else (some (Lp.ret ((⟨(⟨false,[]⟩:Bl),0,0,[]⟩:aw),st77))))) else (some (Lp.go (k15,y16,st19)))):=rfl
def cU (st:I) (a1:Int):Option (aw×I):=(kx st 2).bind fun (x2,st3)=>(fG st3 2).bind fun (x5,st6)=>(fG st6 4).bind fun (x8,st9)=>(il st9 4 6).bind fun (x12,st13)=>(bM x12 ((x12).toNat+1) 0 [] st13).bind fun e=>match e with | .ret r=>some r | .go (k116,y117,st120)=>((iD st120).bind fun (x121,st122)=>(if x121=0 then ((aT (⟨x2,x5,x8,y117⟩:aw) a1).bind fun x138=>(if x138=0 then some st122 else ((bE st122 x138).bind fun st146=>some st146)).bind fun st143=>some st143) else some st122).bind fun st135=>(iD st135).bind fun (x148,st149)=>if x148=0 then (some ((⟨x2,x5,x8,y117⟩:aw),st149)) else (some ((⟨(⟨false,[]⟩:Bl),0,0,[]⟩:aw),st149)))
theorem mp (g:Nat) (st:I) (a1:Int) (r:aw×I) (h:cU st a1=some r):ay Tryz.prog 19 #[jP g,jI a1] .triv (InR g st) (fun v A' N=> ∃ (A152:Option Addr) (c153:Nat),v= .agg #[.bool r.1.CA.null,jS r.1.CA.data,jI r.1.CG,jI r.1.Cz,.slice A152 r.1.Cm.length c153]∧A'=InR g r.2∧N = [RdR (av 2 aO) [.slice A152 r.1.Cm.length c153] r.1.Cm]):=by
 refine aL Tryz.func19 Z Tryz.ntmps19 Z ?_
 intro F w hX
 unfold cU at h
 refine T.seq (T.region Z (TL.alloc Z .u Tryz.zeroValue50 Z (fun b1=>(TL.nil (X.seq (T.seq (T.region Z ?_)))))))
 obtain⟨⟨x2,st3⟩,hx4,h⟩:=CM h
 try dsimp only at h
 refine TL.run ah [0] Z Z (Bd Z .u (.fn Tryz.call56 Z) (oT g st 2 _ hx4) (fun _ hs=>(Src.triv _)) Z ?_)
 obtain⟨⟨x5,st6⟩,hx7,h⟩:=CM h
 try dsimp only at h
 refine TL.run ah [2] Z Z (Bd Z .u (.fn Tryz.call57 Z) (bN g st3 2 _ hx7) (fun _ hs=>(Src.triv _)) Z ?_)
 obtain⟨⟨x8,st9⟩,hx10,h⟩:=CM h
 try dsimp only at h
 refine TL.run ah [4] Z Z (Bd Z .u (.fn Tryz.call57 Z) (bN g st6 4 _ hx10) (fun _ hs=>(Src.triv _)) Z ?_)
 refine TL.q Z .u (AD (cells:= #[.bool x2.null,jS x2.data,jI x5,jI x8,.slice none 0 0]) gt Z (by kernel_rfl)) Z ?_
 refine TL.alloc Z .u Tryz.zeroValue50 Z (fun b11=>(Ay (cs':= #[.bool x2.null,jS x2.data,jI x5,jI x8,.slice none 0 0]) Z .u Z Z DM Z Z Z Z (TL.nil (X.seq (T.seq (T.seq (T.region Z ?_)))))))
 obtain⟨⟨x12,st13⟩,hx14,h⟩:=CM h
 try dsimp only at h
 refine TL.run ah [0] Z Z (BA Z .u (.fn Tryz.call58 Z) (oN g st9 4 6 _ hx14) (fun _ hs=>(Src.triv _)) Z (TL.run ah [2] Z Z (TL.nil (X.seq (T.block (Bt 81 2 aO ?_))))))
 obtain⟨E20,hE21,hO22⟩:=CM h
 refine AV (fun m e Rs=> ∃ (k15:Nat) (y16:List ax) (A17:Option Addr) (c18:Nat) (st19:I),e = [(0,jP g),(1,jI a1),(4,jP b1),(5,jP b11),(16,jI x12),(17,jI (k15:Int))]∧Rs = [aZ 81 2 aO (.slice A17 y16.length c18) y16,aC b11 50 #[.bool x2.null,jS x2.data,jI x5,jI x8,.slice A17 y16.length c18],aC b1 50 #[.bool false,.string ⟨#[]⟩,jI 0,jI 0,.slice none 0 0],InR g st19]∧bM x12 m k15 y16 st19=some E20) ((x12).toNat+1) [0,0,0,0] ⟨0,[],none,0,st13,Z,Z,by exact hE21⟩ (by rfl) (by rfl) ?_
 rintro m23 _ _ ⟨k15,y16,A17,c18,st19,rfl,rfl,hl25⟩
 clear hE21 h
 cases m23 with
 | zero =>
  rw[mo] at hl25
  cases hl25
 | succ m23 =>
  have h:=hl25
  clear hl25
  rw[ek] at h
  refine T.seq (T.region Z (TL.run ah [0] Z Z ?_))
  rcases jF h with⟨c27,h⟩ | ⟨c27,h⟩
  ·refine TL.nil (X.seq (T.seq (Am Z (CN c27) (T.skip (X.seq (T.seq (T.block (T.seq (T.region Z ?_)))))))))
   obtain⟨⟨x28,st29⟩,hx30,h⟩:=CM h
   try dsimp only at h
   refine TL.run ah [0] Z Z (BT Z .u (.fn Tryz.call59 Z) (uX g st19 _ hx30) (fun _ hs=>(Src.triv _)) Z ?_)
   refine TL.q Z .u (AD (cells:= #[jS x28,.slice none 0 0]) qM Z (by kernel_rfl)) Z ?_
   refine TL.alloc Z .u Tryz.zeroValue81 Z (fun b31=>(Ay (cs':= #[jS x28,.slice none 0 0]) Z .u Z Z DR Z Z Z Z (TL.nil (X.seq (T.seq (T.seq (T.region Z ?_)))))))
   obtain⟨⟨x32,st33⟩,hx34,h⟩:=CM h
   try dsimp only at h
   refine TL.run ah [0] Z Z (TL.c4 Z .u (.fn Tryz.call58 Z) (oN g st29 4 8 _ hx34) (fun _ hs=>(Src.triv _)) Z (TL.run ah [2] Z Z (TL.nil (X.seq (T.block (Bt 84 2 bm ?_))))))
   obtain⟨E40,hE41,hO42⟩:=CM h
   refine AV (fun m e Rs=> ∃ (k35:Nat) (y36:List aE) (A37:Option Addr) (c38:Nat) (st39:I),e = [(0,jP g),(1,jI a1),(4,jP b1),(5,jP b11),(6,jP b31),(16,jI x12),(17,jI (k15:Int)),(23,jI x32),(24,jI (k35:Int))]∧Rs = [aZ 84 2 bm (.slice A37 y36.length c38) y36,aC b31 81 #[jS x28,.slice A37 y36.length c38],aZ 81 2 aO (.slice A17 y16.length c18) y16,aC b11 50 #[.bool x2.null,jS x2.data,jI x5,jI x8,.slice A17 y16.length c18],aC b1 50 #[.bool false,.string ⟨#[]⟩,jI 0,jI 0,.slice none 0 0],InR g st39]∧ba x32 m k35 y36 st39=some E40) ((x32).toNat+1) [0,0,0,0,0,0] ⟨0,[],none,0,st33,Z,Z,by exact hE41⟩ (by rfl) (by rfl) ?_
   rintro m43 _ _ ⟨k35,y36,A37,c38,st39,rfl,rfl,hl45⟩
   clear hE41 h
   cases m43 with
   | zero =>
    rw[ba] at hl45
    cases hl45
   | succ m43 =>
    have h:=hl45
    clear hl45
    rw[ba] at h
    refine T.seq (T.region Z (TL.run ah [0] Z Z ?_))
    rcases jF h with⟨c47,h⟩ | ⟨c47,h⟩
    ·refine TL.nil (X.seq (T.seq (Am Z (CN c47) ?_)))
     obtain⟨⟨x48,st51⟩,hx52,h⟩:=CM h
     try dsimp only at h
     replace h:=ak h
     obtain⟨c54,h⟩:=h
     refine T.skip (X.seq (T.seq (T.block (T.seq ?_))))
     refine BR (fun e Rs=> ∃ (A49:Option Addr) (c50:Nat) (b53:Nat) (A55:Option Addr) (c56:Nat),e = [(0,jP g),(1,jI a1),(4,jP b1),(5,jP b11),(6,jP b31),(16,jI x12),(17,jI (k15:Int)),(23,jI x32),(24,jI (k35:Int))]∧Rs = [aZ 84 2 bm (.slice A55 (y36 ++ [x48]).length c56) (y36 ++ [x48]),aC b31 81 #[jS x28,.slice A55 (y36 ++ [x48]).length c56],aZ 81 2 aO (.slice A17 y16.length c18) y16,aC b11 50 #[.bool x2.null,jS x2.data,jI x5,jI x8,.slice A17 y16.length c18],aC b1 50 #[.bool false,.string ⟨#[]⟩,jI 0,jI 0,.slice none 0 0],InR g st51]) ?_ ?_
     ·refine AH (.q 0 (.q 2 (.br 1 (.e 3 (.e 4 (.e 5 (.q 6 (.e 7 .nil))))) (.e 3 (.br 1 (.e 4 (.e 5 (.q 6 (.e 7 .nil)))) (.e 4 (.e 1 (.e 5 (.q 6 (.e 7 .nil)))))))))) [2,2,2] Z jA nd (by kernel_rfl) ?_
      refine TD.run ah [0,2] Z Z ?_
      refine TD.br ?_ ?_
      ·refine BX Z .u (Ai 1 Z Eh Z Z) Z [2,2,2] Z ?_
       refine TD.cg5 Z .u (.fn Tryz.call60 Z) (iy g st39 _ hx52) (fun _ hs=>(Src.triv _)) Z [3,3,3] ?_ ?_
       ·rintro _ _ _ ⟨A49,c50,rfl,rfl,rfl⟩
        rfl
       rintro _ _ _ ⟨A49,c50,rfl,rfl,rfl⟩
       refine Bi [0,0,0,0,0,0,0] Z (Bx (cells:= #[jI x48.CD,.slice A49 x48.Ct.length c50]) Z .u gO Z (by rfl) Z [4,4,4] (fun _=>Z) (fun b53=> ?_))
       refine B9 1 0 Z .u (us := [jI x48.CD,.slice A49 x48.Ct.length c50]) (u:=x48) (l:=y36) (E:=bm) Tryz.underlying79 jf Z (by decide) Z Z Z Z Z Z Z (fun w G hG=>⟨_,_,Z,hG.1⟩) (by have hq:=c54; omega) (by have hq:=c54; omega) Z [2,2,2] (fun _ _=>Z) (fun A55 c56=> ?_)
       exact Bi [0,0,0,0,0,0] Z (TD.run ah [6] Z Z (TD.st1 (cs':= #[jS x28,.slice A55 (y36 ++ [x48]).length c56]) Z .u Z Z Fb Z Z Z Z [2,2,2] (Z) (TD.nil (Bw [0,0,0,0,0,0] ⟨A49,c50,b53,A55,c56,Z,Z⟩ (by rfl) (by rfl)))))
      ·refine TD.cg5 Z .u (.fn Tryz.call60 Z) (iy g st39 _ hx52) (fun _ hs=>(Src.triv _)) Z [3,3,3] ?_ ?_
       ·rintro _ _ _ ⟨A49,c50,rfl,rfl,rfl⟩
        rfl
       rintro _ _ _ ⟨A49,c50,rfl,rfl,rfl⟩
       refine Bi [0,0,0,0,0,0,0] Z ?_
       refine TD.br ?_ ?_
       ·refine BX Z .u (Ai 2 Z Eh Z Z) Z [3,3,3] Z (Bx (cells:= #[jI x48.CD,.slice A49 x48.Ct.length c50]) Z .u gO Z (by rfl) Z [4,4,4] (fun _=>Z) (fun b53=> ?_))
        refine B9 1 0 Z .u (us := [jI x48.CD,.slice A49 x48.Ct.length c50]) (u:=x48) (l:=y36) (E:=bm) Tryz.underlying79 jf Z (by decide) Z Z Z Z Z Z Z (fun w G hG=>⟨_,_,Z,hG.1⟩) (by have hq:=c54; omega) (by have hq:=c54; omega) Z [2,2,2] (fun _ _=>Z) (fun A55 c56=> ?_)
        exact Bi [0,0,0,0,0,0] Z (TD.run ah [6] Z Z (TD.st1 (cs':= #[jS x28,.slice A55 (y36 ++ [x48]).length c56]) Z .u Z Z Fb Z Z Z Z [2,2,2] (Z) (TD.nil (Bw [0,0,0,0,0,0] ⟨A49,c50,b53,A55,c56,Z,Z⟩ (by rfl) (by rfl)))))
       ·refine Bx (cells:= #[jI x48.CD,.slice A49 x48.Ct.length c50]) Z .u gO Z (by rfl) Z [4,4,4] (fun _=>Z) (fun b53=>(BX Z .u (Ai 3 Z Eh Z Z) Z [4,4,4] Z ?_))
        refine B9 1 0 Z .u (us := [jI x48.CD,.slice A49 x48.Ct.length c50]) (u:=x48) (l:=y36) (E:=bm) Tryz.underlying79 jf Z (by decide) Z Z Z Z Z Z Z (fun w G hG=>⟨_,_,Z,hG.1⟩) (by have hq:=c54; omega) (by have hq:=c54; omega) Z [2,2,2] (fun _ _=>Z) (fun A55 c56=> ?_)
        exact Bi [0,0,0,0,0,0] Z (TD.run ah [6] Z Z (TD.st1 (cs':= #[jS x28,.slice A55 (y36 ++ [x48]).length c56]) Z .u Z Z Fb Z Z Z Z [2,2,2] (Z) (TD.nil (Bw [0,0,0,0,0,0] ⟨A49,c50,b53,A55,c56,Z,Z⟩ (by rfl) (by rfl)))))
     ·rintro _ _ ⟨A49,c50,b53,A55,c56,rfl,rfl⟩
      refine X.seq (T.seq (T.region Z ?_))
      obtain⟨⟨x57,st58⟩,hx59,h⟩:=CM h
      try dsimp only at h
      refine TL.run ah [0] Z Z (BZ Z .u (.fn Tryz.call21 Z) (dr g st51 _ hx59) (fun _ hs=>(Src.triv _)) Z (TL.run ah [2] Z Z ?_))
      rcases jF h with⟨c60,h⟩ | ⟨c60,h⟩
      ·refine TL.nil (X.seq (Ap Z (az (CN c60)) ?_))
       replace h:=ak h
       obtain⟨c61,h⟩:=h
       exact T.skip (Az (X.seq (T.region Z (TL.q Z .u (Ex.add Z Z c61) Z (TL.run ah [1] Z Z (TL.nil (X.back (m':=m43) [0,0,0,0,0,0] (by omega) ⟨k35+1,(y36 ++ [x48]),A55,c56,st58,Z,Z,h⟩ (by rfl) (by rfl))))))))
      ·refine TL.nil (X.seq (Am Z (aD (CO c60)) (T.seq (T.region Z ?_))))
       refine TL.q Z .u (AD (cells:= #[.bool false,.string ⟨#[]⟩,jI 0,jI 0,.slice none 0 0]) gt Z (by kernel_rfl)) Z ?_
       refine Bn (cs':= #[.bool false,.string ⟨#[]⟩,jI 0,jI 0,.slice none 0 0]) Z .u Z Z DM Z Z Z Z ?_
       obtain rfl:=CP h
       replace h:=hO42
       clear hO42
       try dsimp only at h
       obtain rfl:=CP h
       replace h:=hO22
       clear hO22
       try dsimp only at h
       obtain rfl:=CP h
       exact TL.nil (X.seq (T.ret (At (Al (Al (At (Al (At (Al (Al (At (Al (AO 2 aO (Ak [6,0] Fn (AF (us:= #[.bool false,.string ⟨#[]⟩,jI 0,jI 0,.slice none 0 0]) 5 Z D6 DM Z Z) ⟨_,_,Z,Z,Z⟩ (by rfl) (.inl Z)))))))))))))))
    ·refine TL.nil (X.seq (T.seq (Ap Z (CO c47) ?_)))
     obtain rfl:=CP h
     replace h:=hO42
     clear hO42
     try dsimp only at h
     refine T.exit (Au (Au (AS (X.seq (T.seq (T.seq (T.region Z ?_)))))))
     obtain⟨⟨x62,st63⟩,hx64,h⟩:=CM h
     try dsimp only at h
     refine TL.run ah [0] Z Z (BZ Z .u (.fn Tryz.call21 Z) (dr g st39 _ hx64) (fun _ hs=>(Src.triv _)) Z (TL.run ah [2] Z Z ?_))
     rcases jF h with⟨c65,h⟩ | ⟨c65,h⟩
     ·refine TL.nil (X.seq (Ap Z (az (CN c65)) (T.skip (X.seq (T.region Z (TL.run ah [0] Z Z (TL.q Z .u (Ai 3 Z EL Z Z) Z (TL.q Z .u (Av (us := [jS x28,.slice A37 y36.length c38]) 1 Z Fj DR Z Z Z) Z (Bk (cells:= #[jS x28,.slice A37 y36.length c38]) Z .u ol Z (by rfl) Z (fun b66=> ?_))))))))))
      replace h:=ak h
      obtain⟨c67,h⟩:=h
      refine BP 2 0 Z .u (us := [jS x28,.slice A37 y36.length c38]) (u:=(⟨x28,y36⟩:ax)) (l:=y16) (E:=aO) Tryz.underlying48 qO Z (by decide) Z Z Z Z Z Z Z (fun w G hG=>⟨_,_,Z,aP (by decide) _ _ hG⟩) (by have hq:=c67; omega) (by have hq:=c67; omega) Z (fun A68 c69=> ?_)
      refine AC [0,0,0,0,0] Z (TL.run ah [5] Z Z (Bq (cs':= #[.bool x2.null,jS x2.data,jI x5,jI x8,.slice A68 (y16 ++ [(⟨x28,y36⟩:ax)]).length c69]) Z .u Z Z Tryz.sizeOf48 Z Z Z Z ?_))
      replace h:=ak h
      obtain⟨c70,h⟩:=h
      exact TL.nil (Az (X.seq (T.region Z (TL.q Z .u (Ex.add Z Z c70) Z (TL.run ah [1] Z Z (TL.nil (X.back (m':=m23) [0,1,1,1] (by omega) ⟨k15+1,(y16 ++ [(⟨x28,y36⟩:ax)]),A68,c69,st63,Z,Z,h⟩ (by rfl) (by rfl))))))))
     ·refine TL.nil (X.seq (Am Z (aD (CO c65)) (T.seq (T.region Z ?_))))
      refine TL.q Z .u (AD (cells:= #[.bool false,.string ⟨#[]⟩,jI 0,jI 0,.slice none 0 0]) gt Z (by kernel_rfl)) Z ?_
      refine Bn (cs':= #[.bool false,.string ⟨#[]⟩,jI 0,jI 0,.slice none 0 0]) Z .u Z Z DM Z Z Z Z ?_
      obtain rfl:=CP h
      replace h:=hO22
      clear hO22
      try dsimp only at h
      obtain rfl:=CP h
      exact TL.nil (X.seq (T.ret (Al (At (Al (Al (At (Al (AO 2 aO (Ak [6,0] Fn (AF (us:= #[.bool false,.string ⟨#[]⟩,jI 0,jI 0,.slice none 0 0]) 5 Z D6 DM Z Z) ⟨_,_,Z,Z,Z⟩ (by rfl) (.inl Z)))))))))))
  ·refine TL.nil (X.seq (T.seq (Ap Z (CO c27) ?_)))
   obtain rfl:=CP h
   replace h:=hO22
   clear hO22
   try dsimp only at h
   refine T.exit (Au (Au (AS (X.seq (T.seq (T.seq (T.region Z ?_)))))))
   obtain⟨⟨x85,st86⟩,hx87,h⟩:=CM h
   try dsimp only at h
   refine TL.run ah [0] Z Z (BT Z .u (.fn Tryz.call21 Z) (dr g st19 _ hx87) (fun _ hs=>(Src.triv _)) Z (TL.run ah [2] Z Z (TL.nil (X.seq ?_))))
   obtain⟨st99,h,hk100⟩:=CM h
   refine Bg (fun e Rs=>e = [(0,jP g),(4,jP b1),(5,jP b11)]∧Rs = [aZ 81 2 aO (.slice A17 y16.length c18) y16,aC b11 50 #[.bool x2.null,jS x2.data,jI x5,jI x8,.slice A17 y16.length c18],aC b1 50 #[.bool false,.string ⟨#[]⟩,jI 0,jI 0,.slice none 0 0],InR g st99]) ?_ ?_
   ·clear hk100
    rcases jF h with⟨c101,h⟩ | ⟨c101,h⟩
    ·refine Am Z (CN c101) (T.seq (T.region Z (TL.q Z .u (Av (us := [.bool x2.null,jS x2.data,jI x5,jI x8,.slice A17 y16.length c18]) 1 Z D6 DM Z Z Z) Z ?_)))
     obtain⟨x102,hx103,h⟩:=CM h
     refine TL.run ah [1] Z Z (Ax Z .u (.fn Tryz.call30 Z) (cJ (⟨x2,x5,x8,y16⟩:aw) _ _ a1 _ hx103) (fun _ hs=>(SrcE.res 0 hs Z (fun w G h=>aP (by decide) w G h))) Z (TL.run ah [3] Z Z (TL.nil (X.seq (T.seq (T.region Z (TL.run ah [0,1] Z Z (TL.nil (X.seq ?_)))))))))
     obtain⟨st107,h,hk108⟩:=CM h
     refine Bg (fun e Rs=>e = [(0,jP g),(4,jP b1),(5,jP b11)]∧Rs = [aZ 81 2 aO (.slice A17 y16.length c18) y16,aC b11 50 #[.bool x2.null,jS x2.data,jI x5,jI x8,.slice A17 y16.length c18],aC b1 50 #[.bool false,.string ⟨#[]⟩,jI 0,jI 0,.slice none 0 0],InR g st107]) ?_ ?_
     ·clear hk108
      rcases jF h with⟨c109,h⟩ | ⟨c109,h⟩
      ·refine Ap Z (az (CN c109)) ?_
       cases h
       exact T.skip (AB [0,0,0,0] ⟨Z,Z⟩ (by rfl) (by rfl))
      ·refine Am Z (aD (CO c109)) (T.region Z ?_)
       obtain⟨st110,hx111,h⟩:=CM h
       refine TL.run ah [0,1] Z Z (BT Z .u (.fn Tryz.call61 Z) (bg g st86 x102 _ hx111) (fun _ hs=>(Src.triv _)) Z ?_)
       cases h
       exact TL.nil (AB [0,0,0,0] ⟨Z,Z⟩ (by rfl) (by rfl))
     ·rintro _ _ ⟨rfl,rfl⟩
      clear h
      have h:=hk108
      clear hk108
      try dsimp only at h
      cases h
      exact AB [0,0,0,0] ⟨Z,Z⟩ (by rfl) (by rfl)
    ·refine Ap Z (CO c101) ?_
     cases h
     exact T.skip (AB [0,0,0,0] ⟨Z,Z⟩ (by rfl) (by rfl))
   ·rintro _ _ ⟨rfl,rfl⟩
    clear h
    have h:=hk100
    clear hk100
    try dsimp only at h
    refine X.seq (T.seq (T.seq (T.region Z ?_)))
    obtain⟨⟨x112,st113⟩,hx114,h⟩:=CM h
    try dsimp only at h
    refine TL.run ah [0] Z Z (BT Z .u (.fn Tryz.call21 Z) (dr g st99 _ hx114) (fun _ hs=>(Src.triv _)) Z (TL.run ah [2] Z Z ?_))
    rcases jF h with⟨c115,h⟩ | ⟨c115,h⟩
    ·refine TL.nil (X.seq (Ap Z (az (CN c115)) (T.skip (X.seq (T.seq (T.region Z (TL.q Z .u (Av (us := [.bool x2.null,jS x2.data,jI x5,jI x8,.slice A17 y16.length c18]) 1 Z D6 DM Z Z Z) Z (Bq (cs':= #[.bool x2.null,jS x2.data,jI x5,jI x8,.slice A17 y16.length c18]) Z .u Z Z DM Z Z Z Z ?_))))))))
     obtain rfl:=CP h
     exact TL.nil (X.seq (T.ret (Bu (by decide) 0 Z (AQ [0,0,0,0] Z (Ak [3,0] Fn (AF (us:= #[.bool x2.null,jS x2.data,jI x5,jI x8,.slice A17 y16.length c18]) 2 Z D6 DM Z Z) ⟨_,_,Z,Z,Z⟩ (by rfl) (.inl Z))))))
    ·refine TL.nil (X.seq (Am Z (aD (CO c115)) (T.seq (T.region Z ?_))))
     refine TL.q Z .u (AD (cells:= #[.bool false,.string ⟨#[]⟩,jI 0,jI 0,.slice none 0 0]) gt Z (by kernel_rfl)) Z ?_
     refine Bq (cs':= #[.bool false,.string ⟨#[]⟩,jI 0,jI 0,.slice none 0 0]) Z .u Z Z DM Z Z Z Z ?_
     obtain rfl:=CP h
     exact TL.nil (X.seq (T.ret (Al (AO 2 aO (Ak [4,0] Fn (AF (us:= #[.bool false,.string ⟨#[]⟩,jI 0,jI 0,.slice none 0 0]) 3 Z D6 DM Z Z) ⟨_,_,Z,Z,Z⟩ (by rfl) (.inl Z))))))
def om:fv := [(189,0,0),(189,1,1)]
theorem ai:(om).OK Tryz.prog:=⟨FOK.mk EM rfl DT rfl,FOK.mk EM rfl Fo rfl,trivial⟩
theorem gv:Tryz.prog.follows .mixedOrders=true:=by kernel_rfl
def cM (a0:List UInt8) (a1:List UInt8):Nat→Bool→Nat→Option (Lp Bool (Bool×Nat))
 | 0,_,_=>none
 | m6+1,y1,k2=>if (k2:Int)<(a0.length:Int) then (if (k2:Int)<(a1.length:Int) then ((a0[k2]?).bind fun ch12=>(a1[k2]?).bind fun ch14=>if (ch12.toNat:Int)=(ch14.toNat:Int) then (if -9223372036854775808≤((k2:Int)+1)∧((k2:Int)+1)≤9223372036854775807 then (cM a0 a1 m6 y1 (k2+1)) else none) else (if (ch12.toNat:Int)<(ch14.toNat:Int) then some (Lp.ret true) else some (Lp.ret false))) else (some (Lp.go (y1,k2)))) else (some (Lp.go (y1,k2)))
def gQ (a0:List UInt8) (a1:List UInt8):Option (Bool):=(cM a0 a1 (((a1.length:Int)).toNat+1) false 0).bind fun e=>match e with | .ret r=>some r | .go (y21,k22)=>(if (a0.length:Int)<(a1.length:Int) then some true else some false)
theorem po (a0:List UInt8) (a1:List UInt8) (r:Bool) (h:gQ a0 a1=some r):ay Tryz.prog 153 #[jS a0,jS a1] .triv (aB) (fun v A' N=>v= .bool r∧A'=aB∧N = []):=by
 refine aL Tryz.func153 Z Tryz.ntmps153 Z ?_
 intro F w hX
 unfold gQ at h
 refine T.seq (T.region Z (TL.run ai [0] Z Z (TL.nil (X.seq (T.seq (T.seq (T.region Z (TL.run ai [0] Z Z (TL.nil (X.seq (T.block ?_)))))))))))
 obtain⟨E3,hE4,hO5⟩:=CM h
 refine AV (fun m e Rs=> ∃ (y1:Bool) (k2:Nat),e = [(0,jS a0),(1,jS a1),(4,.bool y1),(5,jI (k2:Int))]∧Rs = [aB]∧cM a0 a1 m y1 k2=some E3) (((a1.length:Int)).toNat+1) [0] ⟨false,0,Z,Z,by exact hE4⟩ (by rfl) (by rfl) ?_
 rintro m6 _ _ ⟨y1,k2,rfl,rfl,hl8⟩
 clear hE4 h
 cases m6 with
 | zero =>
  rw[cM] at hl8
  cases hl8
 | succ m6 =>
  have h:=hl8
  clear hl8
  rw[cM] at h
  refine T.seq (T.seq (T.region Z (TL.run ai [0,1] Z Z (TL.q Z .u (AW Z CZ) Z ?_))))
  rcases jF h with⟨c10,h⟩ | ⟨c10,h⟩
  ·refine TL.run ai [3,4] Z Z ?_
   iterate 2 refine TL.q Z (.g Z Z (CN c10)) (Ao ai Z) Z ?_
   refine TL.q Z (.g Z Z (CN c10)) (AW Z CZ) Z (TL.q Z (.g Z Z (CN c10)) (Ao ai Z) Z (TL.q Z .u (Aq Z (CN c10) Z) Z ?_))
   rcases jF h with⟨c11,h⟩ | ⟨c11,h⟩
   ·refine TL.nil (X.seq (Am Z (CN c11) ?_))
    refine T.skip (X.seq (T.seq (T.block (T.seq (AH (.q 0 (.q 1 (.q 2 (.q 3 (.q 4 (.q 5 (.q 6 .nil))))))) [0] Z gv (NoP.seq (NoP.blk (NoP.seq (NoP.seq (NoP.blk (NoP.seq aM)))))) (by kernel_rfl) ?_)))))
    obtain⟨ch12,hc13,h⟩:=CM h
    refine TD.run ai [0,1] Z Z (TD.q Z .u (B6 Z Z Z Tryz.underlying9 hc13) Z ?_)
    obtain⟨ch14,hc15,h⟩:=CM h
    refine TD.run ai [3,4] Z Z (TD.q Z .u (B6 Z Z Z Tryz.underlying9 hc15) Z (TD.run ai [6] Z Z ?_))
    rcases jF h with⟨c16,h⟩ | ⟨c16,h⟩
    ·refine TD.nil (X.seq (Ap Z (az (CN c16)) (T.skip (Az (X.seq (T.region Z ?_))))))
     replace h:=ak h
     obtain⟨c17,h⟩:=h
     exact TL.run ai [0] Z Z (TL.q Z .u (Ex.add Z Z c17) Z (TL.run ai [2] Z Z (TL.nil (X.back (m':=m6) [0] (by omega) ⟨y1,k2+1,Z,Z,h⟩ (by rfl) (by rfl)))))
    ·refine TD.nil (X.seq (Am Z (aD (CO c16)) ?_))
     refine T.seq (AH (.q 0 (.q 1 (.q 2 (.q 3 (.q 4 (.q 5 (.q 6 (.q 7 .nil)))))))) [0] Z gv (NoP.seq (NoP.blk (NoP.seq (NoP.seq (NoP.blk (NoP.seq aM)))))) (by kernel_rfl) ?_)
     refine TD.run ai [0,1] Z Z (TD.q Z .u (B6 Z Z Z Tryz.underlying9 hc13) Z (TD.run ai [3,4] Z Z (TD.q Z .u (B6 Z Z Z Tryz.underlying9 hc15) Z (TD.run ai [6,7] Z Z ?_))))
     rcases jF h with⟨c18,h⟩ | ⟨c18,h⟩
     ·obtain rfl:=CP h
      replace h:=hO5
      clear hO5
      try dsimp only at h
      obtain rfl:=CP h
      exact TD.nil (X.seq (T.ret (At (Al (Al (At (Al (Ak [0] EG (Aj (v:= .bool true) (congrArg (fun b=>some (Value.bool b)) (CN c18))) ⟨Z,Z,Z⟩ (by rfl) (.inl Z)))))))))
     ·obtain rfl:=CP h
      replace h:=hO5
      clear hO5
      try dsimp only at h
      obtain rfl:=CP h
      exact TD.nil (X.seq (T.ret (At (Al (Al (At (Al (Ak [0] EG (Aj (v:= .bool false) (congrArg (fun b=>some (Value.bool b)) (CO c18))) ⟨Z,Z,Z⟩ (by rfl) (.inl Z)))))))))
   ·refine TL.nil (X.seq (Ap Z (CO c11) ?_))
    obtain rfl:=CP h
    replace h:=hO5
    clear hO5
    try dsimp only at h
    refine T.exit (Au (Au (AS (X.seq (T.seq (T.region Z (TL.run ai [0] Z Z (TL.q Z .u (AW Z CZ) Z (TL.run ai [2] Z Z (TL.q Z .u (AW Z CZ) Z (TL.run ai [4,5] Z Z ?_)))))))))))
    rcases jF h with⟨c19,h⟩ | ⟨c19,h⟩
    ·obtain rfl:=CP h
     exact TL.nil (X.seq (T.ret (Ak [0] EG (Aj (v:= .bool true) (congrArg (fun b=>some (Value.bool b)) (CN c19))) ⟨Z,Z,Z⟩ (by rfl) (.inl Z))))
    ·obtain rfl:=CP h
     exact TL.nil (X.seq (T.ret (Ak [0] EG (Aj (v:= .bool false) (congrArg (fun b=>some (Value.bool b)) (CO c19))) ⟨Z,Z,Z⟩ (by rfl) (.inl Z))))
  ·refine TL.run ai [3,4] Z Z ?_
   iterate 4 refine An Z (.gn Z Z (CO c10)) Z ?_
   refine TL.q Z .u (Ar Z (CO c10) Z) Z (TL.nil (X.seq (Ap Z Z ?_)))
   obtain rfl:=CP h
   replace h:=hO5
   clear hO5
   try dsimp only at h
   refine T.exit (Au (Au (AS (X.seq (T.seq (T.region Z (TL.run ai [0] Z Z (TL.q Z .u (AW Z CZ) Z (TL.run ai [2] Z Z (TL.q Z .u (AW Z CZ) Z (TL.run ai [4,5] Z Z ?_)))))))))))
   rcases jF h with⟨c20,h⟩ | ⟨c20,h⟩
   ·obtain rfl:=CP h
    exact TL.nil (X.seq (T.ret (Ak [0] EG (Aj (v:= .bool true) (congrArg (fun b=>some (Value.bool b)) (CN c20))) ⟨Z,Z,Z⟩ (by rfl) (.inl Z))))
   ·obtain rfl:=CP h
    exact TL.nil (X.seq (T.ret (Ak [0] EG (Aj (v:= .bool false) (congrArg (fun b=>some (Value.bool b)) (CO c20))) ⟨Z,Z,Z⟩ (by rfl) (.inl Z))))
def bT (x13:Top):Nat→Bool→Nat→Option (Lp Bool (Bool×Nat))
 | 0,_,_=>none
 | m39+1,y34,k35=>if (k35:Int)<(x13.Cj.length:Int) then ((x13.Cj[k35]?).bind fun x44=>if x44<0 then some (Lp.ret false) else (if x44>2147483647 then some (Lp.ret false) else (if (k35:Int)>0 then (if -9223372036854775808≤((k35:Int) - 1)∧((k35:Int) - 1)≤9223372036854775807 then (if 0≤((k35:Int) - 1) then ((x13.Cj[((k35:Int) - 1).toNat]?).bind fun x52=>if x52≥x44 then some (Lp.ret false) else (if -9223372036854775808≤((k35:Int)+1)∧((k35:Int)+1)≤9223372036854775807 then (bT x13 m39 y34 (k35+1)) else none)) else none) else none) else (if -9223372036854775808≤((k35:Int)+1)∧((k35:Int)+1)≤9223372036854775807 then (bT x13 m39 y34 (k35+1)) else none)))) else (some (Lp.go (y34,k35)))
def dc (x13:Top):Nat→Bool→Nat→Option (Lp Bool (Bool×Nat))
 | 0,_,_=>none
 | m67+1,y62,k63=>if (k63:Int)<(x13.Cj.length:Int) then ((x13.Cj[k63]?).bind fun x72=>if x72<0 then some (Lp.ret false) else (if x72>2147483647 then some (Lp.ret false) else (if (k63:Int)>0 then (if -9223372036854775808≤((k63:Int) - 1)∧((k63:Int) - 1)≤9223372036854775807 then (if 0≤((k63:Int) - 1) then ((x13.Cj[((k63:Int) - 1).toNat]?).bind fun x80=>if x80≥x72 then some (Lp.ret false) else (if -9223372036854775808≤((k63:Int)+1)∧((k63:Int)+1)≤9223372036854775807 then (dc x13 m67 y62 (k63+1)) else none)) else none) else none) else (if -9223372036854775808≤((k63:Int)+1)∧((k63:Int)+1)≤9223372036854775807 then (dc x13 m67 y62 (k63+1)) else none)))) else (some (Lp.go (y62,k63)))
def cy (a0:List Top):Nat→Bool→Nat→Option (Lp Bool (Bool×Nat))
 | 0,_,_=>none
 | m8+1,y3,k4=>if (k4:Int)<(a0.length:Int) then ((a0[k4]?).bind fun x13=>if (x13.Cx.length:Int)<1 then some (Lp.ret false) else (if (x13.Cx.length:Int)>32767 then some (Lp.ret false) else (if (x13.Cj.length:Int)<1 then some (Lp.ret false) else (if (k4:Int)>0 then (if -9223372036854775808≤((k4:Int) - 1)∧((k4:Int) - 1)≤9223372036854775807 then (if 0≤((k4:Int) - 1) then ((a0[((k4:Int) - 1).toNat]?).bind fun x25=>(gQ x25.Cx x13.Cx).bind fun x31=>if x31=true then ((bT x13 (((x13.Cj.length:Int)).toNat+1) y3 0).bind fun e=>match e with | .ret r=>some (Lp.ret r) | .go (y59,k60)=>(if -9223372036854775808≤((k4:Int)+1)∧((k4:Int)+1)≤9223372036854775807 then (cy a0 m8 y59 (k4+1)) else none)) else some (Lp.ret false)) else none) else none) else ((dc x13 (((x13.Cj.length:Int)).toNat+1) y3 0).bind fun e=>match e with | .ret r=>some (Lp.ret r) | .go (y87,k88)=>(if -9223372036854775808≤((k4:Int)+1)∧((k4:Int)+1)≤9223372036854775807 then (cy a0 m8 y87 (k4+1)) else none)))))) else (some (Lp.go (y3,k4)))
theorem pp (a0:List Top) (u1:Bool) (u2:Nat):cy a0 0 u1 u2=none:=rfl
theorem pq (a0:List Top) (m8:Nat) (y3:Bool) (k4:Nat):cy a0 (m8+1) y3 k4=(if (k4:Int)<(a0.length:Int) then ((a0[k4]?).bind fun x13=>if (x13.Cx.length:Int)<1 then some (Lp.ret false) else (if (x13.Cx.length:Int)>32767 then some (Lp.ret false) else (if (x13.Cj.length:Int)<1 then some (Lp.ret false) else (if (k4:Int)>0 then (if -9223372036854775808≤((k4:Int) - 1)∧((k4:Int) - 1)≤9223372036854775807 then (if 0≤((k4:Int) - 1) then ((a0[((k4:Int) - 1).toNat]?).bind fun x25=>(gQ x25.Cx x13.Cx).bind fun x31=>if x31=true then ((bT x13 (((x13.Cj.length:Int)).toNat+1) y3 0).bind fun e=>match e with | .ret r=>some (Lp.ret r) | .go (y59,k60)=>(if -9223372036854775808≤((k4:Int)+1)∧((k4:Int)+1)≤9223372036854775807 then (cy a0 m8 y59 (k4+1)) else none)) else some (Lp.ret false)) else none) else none) else ((dc x13 (((x13.Cj.length:Int)).toNat+1) y3 0).bind fun e=>match e with | .ret r=>some (Lp.ret r) | .go (y87,k88)=>(if -9223372036854775808≤((k4:Int)+1)∧((k4:Int)+1)≤9223372036854775807 then (cy a0 m8 y87 (k4+1)) else none)))))) else (some (Lp.go (y3,k4)))):=rfl
def jg (a0:List Top):Option (Bool):=(cy a0 (((a0.length:Int)).toNat+1) false 0).bind fun e=>match e with | .ret r=>some r | .go (y90,k91)=>some true
theorem pt (a0:List Top) (A1:Option Addr) (c2:Nat) (r:Bool) (h:jg a0=some r):ay Tryz.prog 128 #[.slice A1 a0.length c2] (RX.of (av 2 sp) [.slice A1 a0.length c2] a0) (aB) (fun v A' N=>v= .bool r∧A'=aB∧N = []):=by
 refine aL Tryz.func128 Z Tryz.ntmps128 Z ?_
 intro F w hX
 unfold jg at h
 refine T.seq (T.region Z (TL.run ai [0] Z Z (TL.nil (X.seq (T.seq (T.seq (T.region Z (TL.run ai [0] Z Z (TL.nil (X.seq (T.block ?_)))))))))))
 obtain⟨E5,hE6,hO7⟩:=CM h
 refine AV (fun m e Rs=> ∃ (y3:Bool) (k4:Nat),e = [(0,.slice A1 a0.length c2),(2,.bool y3),(3,jI (k4:Int))]∧Rs = [aB]∧cy a0 m y3 k4=some E5) (((a0.length:Int)).toNat+1) [0] ⟨false,0,Z,Z,by exact hE6⟩ (by rfl) (by rfl) ?_
 rintro m8 _ _ ⟨y3,k4,rfl,rfl,hl10⟩
 clear hE6 h
 cases m8 with
 | zero =>
  rw[pp] at hl10
  cases hl10
 | succ m8 =>
  have h:=hl10
  clear hl10
  rw[pq] at h
  refine T.seq (T.seq (T.region Z (TL.run ai [0,1] Z Z (TL.q Z .u (AA Z DF) Z (TL.run ai [3] Z Z ?_)))))
  rcases jF h with⟨c12,h⟩ | ⟨c12,h⟩
  ·refine TL.nil (X.seq (Am Z (CN c12) (T.skip (X.seq (T.seq (T.block (T.seq (T.seq (T.region Z ?_)))))))))
   obtain⟨x13,hx14,h⟩:=CM h
   obtain⟨gz15,oz15,rfl,z15cs,z15cl,z15cc,z15nf,z15r⟩:=AK (by decide) hX hx14
   obtain⟨z15S,z15r,z15rr⟩:=z15r
   obtain⟨A16,c17,rfl,z15s0⟩:=z15r
   have hX18:(RX.of (av 1 bP) [.slice A16 x13.Cj.length c17] x13.Cj).reads w F:=⟨z15S,z15s0,z15rr⟩
   refine TL.run ai [0,1] Z Z ?_
   refine TL.q Z .u (Aw (k:=k4) Z Z Z DF DQ (CU hx14).1) Z ?_
   refine TL.run ai [3] Z Z (TL.q Z .u (AY 0 Z Dp z15nf z15cc Z Z) Z (TL.q Z .u (AW Z CZ) Z ?_))
   rcases jF h with⟨c19,h⟩ | ⟨c19,h⟩
   ·refine TL.run ai [6,7] Z Z ?_
    iterate 7 refine An Z (.gn Z Z (CN c19)) Z ?_
    refine TL.q Z .u (Aq Z (CN c19) Z) Z (TL.run ai [16] Z Z ?_)
    iterate 7 refine An Z (.gn Z Z Z) Z ?_
    refine TL.q Z .u (Aq Z Z Z) Z (TL.nil (X.seq (Am Z Z (T.seq (T.region Z (TL.run ai [0] Z Z ?_))))))
    obtain rfl:=CP h
    replace h:=hO7
    clear hO7
    try dsimp only at h
    obtain rfl:=CP h
    exact TL.nil (X.seq (T.ret (Al (At (Al (Al (At (Al (Ak [0] D4 (Aj Z) ⟨Z,Z,Z⟩ (by rfl) (.inl Z))))))))))
   ·refine TL.run ai [6,7] Z Z ?_
    iterate 2 refine TL.q Z (.g Z Z (CO c19)) (Ao ai Z) Z ?_
    refine TL.q Z (.g Z Z (CO c19)) (Aw (k:=k4) Z Z Z DF DQ (CU hx14).1) Z ?_
    refine TL.q Z (.g Z Z (CO c19)) (Ao ai Z) Z (TL.q Z (.g Z Z (CO c19)) (AY 0 Z Dp z15nf z15cc Z Z) Z (TL.q Z (.g Z Z (CO c19)) (AW Z CZ) Z (TL.q Z (.g Z Z (CO c19)) (Ao ai Z) Z (TL.q Z .u (Ar Z (CO c19) Z) Z ?_))))
    rcases jF h with⟨c20,h⟩ | ⟨c20,h⟩
    ·refine TL.run ai [16] Z Z ?_
     iterate 7 refine An Z (.gn Z Z (CN c20)) Z ?_
     refine TL.q Z .u (Aq Z (CN c20) Z) Z (TL.nil (X.seq (Am Z Z (T.seq (T.region Z (TL.run ai [0] Z Z ?_))))))
     obtain rfl:=CP h
     replace h:=hO7
     clear hO7
     try dsimp only at h
     obtain rfl:=CP h
     exact TL.nil (X.seq (T.ret (Al (At (Al (Al (At (Al (Ak [0] D4 (Aj Z) ⟨Z,Z,Z⟩ (by rfl) (.inl Z))))))))))
    ·refine TL.run ai [16] Z Z ?_
     iterate 2 refine TL.q Z (.g Z Z (CO c20)) (Ao ai Z) Z ?_
     refine TL.q Z (.g Z Z (CO c20)) (Aw (k:=k4) Z Z Z DF DQ (CU hx14).1) Z ?_
     refine TL.q Z (.g Z Z (CO c20)) (Ao ai Z) Z (TL.q Z (.g Z Z (CO c20)) (AY 1 Z Eo z15nf z15cc Z Z) Z (TL.q Z (.g Z Z (CO c20)) (AA Z C6) Z (TL.q Z (.g Z Z (CO c20)) (Ao ai Z) Z (TL.q Z .u (Ar Z (CO c20) Z) Z ?_))))
     rcases jF h with⟨c21,h⟩ | ⟨c21,h⟩
     ·refine TL.nil (X.seq (Am Z (CN c21) (T.seq (T.region Z (TL.run ai [0] Z Z ?_)))))
      obtain rfl:=CP h
      replace h:=hO7
      clear hO7
      try dsimp only at h
      obtain rfl:=CP h
      exact TL.nil (X.seq (T.ret (Al (At (Al (Al (At (Al (Ak [0] D4 (Aj Z) ⟨Z,Z,Z⟩ (by rfl) (.inl Z))))))))))
     ·refine TL.nil (X.seq (Ap Z (CO c21) ?_))
      refine T.skip (X.seq (T.seq (T.seq (AH (.q 0 (.q 1 (.q 2 (.q 3 (.q 4 (.q 5 (.q 6 (.q 7 (.q 8 (.q 9 (.q 10 (.q 11 (.q 12 (.q 13 (.e 14 (.q 15 (.q 16 .nil))))))))))))))))) [0] Z gv (NoP.seq (NoP.seq (NoP.blk (NoP.seq (NoP.seq (NoP.blk (NoP.seq aM))))))) (by kernel_rfl) ?_))))
      rcases jF h with⟨c22,h⟩ | ⟨c22,h⟩
      ·refine TD.run ai [0,1,2] Z Z ?_
       iterate 2 refine TD.q Z (.g Z Z (CN c22)) (Ao ai Z) Z ?_
       replace h:=ak h
       obtain⟨c23,h⟩:=h
       refine TD.q Z (.g Z Z (CN c22)) (Ex.sub Z Z c23) Z ?_
       replace h:=ak h
       obtain⟨c24,h⟩:=h
       obtain⟨x25,hx26,h⟩:=CM h
       obtain⟨z27cs,z27cl,z27cc,z27nf,z27r⟩:=BN (by decide) hX hx26
       obtain⟨z27S,z27r,z27rr⟩:=z27r
       obtain⟨A28,c29,rfl,z27s0⟩:=z27r
       have hX30:(RX.of (av 1 bP) [.slice A28 x25.Cj.length c29] x25.Cj).reads w F:=⟨z27S,z27s0,z27rr⟩
       refine TD.q Z (.g Z Z (CN c22)) (Aw (k:=((k4:Int) - 1).toNat) Z Z ((Int.toNat_of_nonneg c24).symm) DF DQ (CU hx26).1) Z ?_
       refine TD.q Z (.g Z Z (CN c22)) (Ao ai Z) Z (TD.q Z (.g Z Z (CN c22)) (AY 0 Z Dp z27nf z27cc Z Z) Z ?_)
       iterate 2 refine TD.q Z (.g Z Z (CN c22)) (Ao ai Z) Z ?_
       refine TD.q Z (.g Z Z (CN c22)) (Aw (k:=k4) Z Z Z DF DQ (CU hx14).1) Z ?_
       refine TD.q Z (.g Z Z (CN c22)) (Ao ai Z) Z (TD.q Z (.g Z Z (CN c22)) (AY 0 Z Dp z15nf z15cc Z Z) Z ?_)
       obtain⟨x31,hx32,h⟩:=CM h
       refine AR Z (.g Z Z (CN c22)) (.fn Tryz.call153 Z) (po x25.Cx x13.Cx _ hx32) (fun _ hs=>(RX.reads_triv _ _)) Z [0] (Z) (TD.q Z (.g Z Z (CN c22)) (Ao ai Z) Z (TD.q Z .u (Aq Z (CN c22) Z) Z ?_))
       rcases jF h with⟨c33,h⟩ | ⟨c33,h⟩
       ·refine TD.nil (X.seq (Ap Z (az c33) (T.skip (X.seq (T.seq (T.region Z (TL.run ai [0] Z Z (TL.nil (X.seq (T.block ?_))))))))))
        obtain⟨E36,hE37,hO38⟩:=CM h
        refine AV (fun m e Rs=> ∃ (y34:Bool) (k35:Nat),e = [(0,.slice (some ⟨gz15,oz15,none⟩) a0.length c2),(2,.bool y34),(3,jI (k4:Int)),(4,jI (k35:Int))]∧Rs = [aB]∧bT x13 m y34 k35=some E36) (((x13.Cj.length:Int)).toNat+1) [0] ⟨y3,0,Z,Z,by exact hE37⟩ (by rfl) (by rfl) ?_
        rintro m39 _ _ ⟨y34,k35,rfl,rfl,hl41⟩
        clear hE37 h
        cases m39 with
        | zero =>
         rw[bT] at hl41
         cases hl41
        | succ m39 =>
         have h:=hl41
         clear hl41
         rw[bT] at h
         refine T.seq (T.seq (T.region Z (TL.run ai [0,1,2] Z Z ?_)))
         refine TL.q Z .u (Aw (k:=k4) Z Z Z DF DQ (CU hx14).1) Z ?_
         refine TL.run ai [4] Z Z (TL.q Z .u (AY 1 Z Eo z15nf z15cc Z Z) Z (TL.q Z .u (AA Z C6) Z (TL.run ai [7] Z Z ?_)))
         rcases jF h with⟨c43,h⟩ | ⟨c43,h⟩
         ·refine TL.nil (X.seq (Am Z (CN c43) (T.skip (X.seq (T.seq (T.block (T.seq (T.region Z (TL.run ai [0,1] Z Z ?_)))))))))
          refine TL.q Z .u (Aw (k:=k4) Z Z Z DF DQ (CU hx14).1) Z ?_
          refine TL.run ai [3] Z Z (TL.q Z .u (AY 1 Z Eo z15nf z15cc Z Z) Z ?_)
          obtain⟨x44,hx45,h⟩:=CM h
          obtain⟨gz46,oz46,rfl,z46cs,z46cl,z46cc,z46nf,z46r⟩:=AK (by decide) hX18 hx45
          obtain⟨z46S,z46r,z46rr⟩:=z46r
          obtain rfl:z46cs = [jI x44]:=z46r
          refine TL.run ai [5] Z Z ?_
          refine TL.q Z .u (Aw (k:=k35) Z Z Z C6 CY (CU hx45).1) Z ?_
          refine TL.q Z .u (AY 0 Z CV z46nf z46cc Z Z) Z (TL.run ai [8] Z Z (TL.nil (X.seq (T.seq (T.region Z ?_)))))
          rcases jF h with⟨c47,h⟩ | ⟨c47,h⟩
          ·refine TL.run ai [0,1,2] Z Z ?_
           iterate 2 refine An Z (.gn Z Z (CN c47)) Z ?_
           refine TL.q Z .u (Aq Z (CN c47) Z) Z (TL.run ai [6] Z Z ?_)
           iterate 3 refine An Z (.gn Z Z Z) Z ?_
           iterate 11 refine An Z (.gu Z Z) Z ?_
           refine An Z (.gn Z Z Z) Z (TL.q Z .u (Aq Z Z Z) Z (TL.nil (X.seq (Am Z Z (T.seq (T.region Z (TL.run ai [0] Z Z ?_)))))))
           obtain rfl:=CP h
           replace h:=hO38
           clear hO38
           try dsimp only at h
           obtain rfl:=CP h
           replace h:=hO7
           clear hO7
           try dsimp only at h
           obtain rfl:=CP h
           exact TL.nil (X.seq (T.ret (At (Al (Al (At (At (Al (Al (At (Al (Ak [0] D4 (Aj Z) ⟨Z,Z,Z⟩ (by rfl) (.inl Z)))))))))))))
          ·refine TL.run ai [0,1,2] Z Z ?_
           iterate 2 refine TL.q Z (.g Z Z (CO c47)) (Ao ai Z) Z ?_
           refine TL.q Z .u (Ar Z (CO c47) Z) Z ?_
           rcases jF h with⟨c48,h⟩ | ⟨c48,h⟩
           ·refine TL.run ai [6] Z Z ?_
            iterate 3 refine An Z (.gn Z Z (CN c48)) Z ?_
            iterate 11 refine An Z (.gu Z Z) Z ?_
            refine An Z (.gn Z Z (CN c48)) Z (TL.q Z .u (Aq Z (CN c48) Z) Z (TL.nil (X.seq (Am Z Z (T.seq (T.region Z (TL.run ai [0] Z Z ?_)))))))
            obtain rfl:=CP h
            replace h:=hO38
            clear hO38
            try dsimp only at h
            obtain rfl:=CP h
            replace h:=hO7
            clear hO7
            try dsimp only at h
            obtain rfl:=CP h
            exact TL.nil (X.seq (T.ret (At (Al (Al (At (At (Al (Al (At (Al (Ak [0] D4 (Aj Z) ⟨Z,Z,Z⟩ (by rfl) (.inl Z)))))))))))))
           ·refine TL.run ai [6] Z Z ?_
            iterate 3 refine TL.q Z (.g Z Z (CO c48)) (Ao ai Z) Z ?_
            rcases jF h with⟨c49,h⟩ | ⟨c49,h⟩
            ·refine TL.q Z (.g Z Z (CN c49)) (Ao ai Z) Z (TL.q Z (.g Z Z (CN c49)) (Ao ai Z) Z ?_)
             refine TL.q Z (.g Z Z (CN c49)) (Aw (k:=k4) Z Z Z DF DQ (CU hx14).1) Z ?_
             refine TL.q Z (.g Z Z (CN c49)) (Ao ai Z) Z (TL.q Z (.g Z Z (CN c49)) (AY 1 Z Eo z15nf z15cc Z Z) Z (TL.q Z (.g Z Z (CN c49)) (Ao ai Z) Z ?_))
             replace h:=ak h
             obtain⟨c50,h⟩:=h
             refine TL.q Z (.g Z Z (CN c49)) (Ex.sub Z Z c50) Z ?_
             replace h:=ak h
             obtain⟨c51,h⟩:=h
             obtain⟨x52,hx53,h⟩:=CM h
             obtain⟨z54cs,z54cl,z54cc,z54nf,z54r⟩:=BN (by decide) hX18 hx53
             obtain⟨z54S,z54r,z54rr⟩:=z54r
             obtain rfl:z54cs = [jI x52]:=z54r
             refine TL.q Z (.g Z Z (CN c49)) (Aw (k:=((k35:Int) - 1).toNat) Z Z ((Int.toNat_of_nonneg c51).symm) C6 CY (CU hx53).1) Z ?_
             refine TL.q Z (.g Z Z (CN c49)) (AY 0 Z CV z54nf z54cc Z Z) Z ?_
             iterate 2 refine TL.q Z (.g Z Z (CN c49)) (Ao ai Z) Z ?_
             refine TL.q Z (.g Z Z (CO c48)) (Aq Z (CN c49) Z) Z (TL.q Z .u (Ar Z (CO c48) Z) Z ?_)
             rcases jF h with⟨c55,h⟩ | ⟨c55,h⟩
             ·refine TL.nil (X.seq (Am Z (CN c55) (T.seq (T.region Z (TL.run ai [0] Z Z ?_)))))
              obtain rfl:=CP h
              replace h:=hO38
              clear hO38
              try dsimp only at h
              obtain rfl:=CP h
              replace h:=hO7
              clear hO7
              try dsimp only at h
              obtain rfl:=CP h
              exact TL.nil (X.seq (T.ret (At (Al (Al (At (At (Al (Al (At (Al (Ak [0] D4 (Aj Z) ⟨Z,Z,Z⟩ (by rfl) (.inl Z)))))))))))))
             ·refine TL.nil (X.seq (Ap Z (CO c55) (T.skip (Az (X.seq (T.region Z ?_))))))
              replace h:=ak h
              obtain⟨c56,h⟩:=h
              exact TL.run ai [0] Z Z (TL.q Z .u (Ex.add Z Z c56) Z (TL.run ai [2] Z Z (TL.nil (X.back (m':=m39) [0] (by omega) ⟨y34,k35+1,Z,Z,h⟩ (by rfl) (by rfl)))))
            ·refine An Z (.gn Z Z (CO c49)) Z ?_
             iterate 10 refine An Z (.gn Z Z (CO c49)) Z ?_
             refine TL.q Z (.g Z Z (CO c48)) (Ar Z (CO c49) Z) Z (TL.q Z .u (Ar Z (CO c48) Z) Z (TL.nil (X.seq (Ap Z Z (T.skip (Az (X.seq (T.region Z ?_))))))))
             replace h:=ak h
             obtain⟨c57,h⟩:=h
             exact TL.run ai [0] Z Z (TL.q Z .u (Ex.add Z Z c57) Z (TL.run ai [2] Z Z (TL.nil (X.back (m':=m39) [0] (by omega) ⟨y34,k35+1,Z,Z,h⟩ (by rfl) (by rfl)))))
         ·refine TL.nil (X.seq (Ap Z (CO c43) ?_))
          obtain rfl:=CP h
          replace h:=hO38
          clear hO38
          try dsimp only at h
          refine T.exit (Au (Au (AS (Az (X.seq (T.region Z ?_))))))
          replace h:=ak h
          obtain⟨c58,h⟩:=h
          exact TL.run ai [0] Z Z (TL.q Z .u (Ex.add Z Z c58) Z (TL.run ai [2] Z Z (TL.nil (X.back (m':=m8) [0] (by omega) ⟨y34,k4+1,Z,Z,h⟩ (by rfl) (by rfl)))))
       ·replace c33:=CX c33
        refine TD.nil (X.seq (Am Z (aD c33) (T.seq (T.region Z (TL.run ai [0] Z Z ?_)))))
        obtain rfl:=CP h
        replace h:=hO7
        clear hO7
        try dsimp only at h
        obtain rfl:=CP h
        exact TL.nil (X.seq (T.ret (Al (At (Al (Al (At (Al (Ak [0] D4 (Aj Z) ⟨Z,Z,Z⟩ (by rfl) (.inl Z))))))))))
      ·refine TD.run ai [0,1,2] Z Z ?_
       iterate 11 refine A9 Z (.gn Z Z (CO c22)) Z ?_
       refine B5 Z (.gn Z Z (CO c22)) Z [0] Z (A9 Z (.gn Z Z (CO c22)) Z (TD.q Z .u (Ar Z (CO c22) Z) Z (TD.nil (X.seq (Ap Z Z (T.skip (X.seq (T.seq (T.region Z (TL.run ai [0] Z Z (TL.nil (X.seq (T.block ?_)))))))))))))
       obtain⟨E64,hE65,hO66⟩:=CM h
       refine AV (fun m e Rs=> ∃ (y62:Bool) (k63:Nat),e = [(0,.slice (some ⟨gz15,oz15,none⟩) a0.length c2),(2,.bool y62),(3,jI (k4:Int)),(4,jI (k63:Int))]∧Rs = [aB]∧dc x13 m y62 k63=some E64) (((x13.Cj.length:Int)).toNat+1) [0] ⟨y3,0,Z,Z,by exact hE65⟩ (by rfl) (by rfl) ?_
       rintro m67 _ _ ⟨y62,k63,rfl,rfl,hl69⟩
       clear hE65 h
       cases m67 with
       | zero =>
        rw[dc] at hl69
        cases hl69
       | succ m67 =>
        have h:=hl69
        clear hl69
        rw[dc] at h
        refine T.seq (T.seq (T.region Z (TL.run ai [0,1,2] Z Z ?_)))
        refine TL.q Z .u (Aw (k:=k4) Z Z Z DF DQ (CU hx14).1) Z ?_
        refine TL.run ai [4] Z Z (TL.q Z .u (AY 1 Z Eo z15nf z15cc Z Z) Z (TL.q Z .u (AA Z C6) Z (TL.run ai [7] Z Z ?_)))
        rcases jF h with⟨c71,h⟩ | ⟨c71,h⟩
        ·refine TL.nil (X.seq (Am Z (CN c71) (T.skip (X.seq (T.seq (T.block (T.seq (T.region Z (TL.run ai [0,1] Z Z ?_)))))))))
         refine TL.q Z .u (Aw (k:=k4) Z Z Z DF DQ (CU hx14).1) Z ?_
         refine TL.run ai [3] Z Z (TL.q Z .u (AY 1 Z Eo z15nf z15cc Z Z) Z ?_)
         obtain⟨x72,hx73,h⟩:=CM h
         obtain⟨gz74,oz74,rfl,z74cs,z74cl,z74cc,z74nf,z74r⟩:=AK (by decide) hX18 hx73
         obtain⟨z74S,z74r,z74rr⟩:=z74r
         obtain rfl:z74cs = [jI x72]:=z74r
         refine TL.run ai [5] Z Z ?_
         refine TL.q Z .u (Aw (k:=k63) Z Z Z C6 CY (CU hx73).1) Z ?_
         refine TL.q Z .u (AY 0 Z CV z74nf z74cc Z Z) Z (TL.run ai [8] Z Z (TL.nil (X.seq (T.seq (T.region Z ?_)))))
         rcases jF h with⟨c75,h⟩ | ⟨c75,h⟩
         ·refine TL.run ai [0,1,2] Z Z ?_
          iterate 2 refine An Z (.gn Z Z (CN c75)) Z ?_
          refine TL.q Z .u (Aq Z (CN c75) Z) Z (TL.run ai [6] Z Z ?_)
          iterate 3 refine An Z (.gn Z Z Z) Z ?_
          iterate 11 refine An Z (.gu Z Z) Z ?_
          refine An Z (.gn Z Z Z) Z (TL.q Z .u (Aq Z Z Z) Z (TL.nil (X.seq (Am Z Z (T.seq (T.region Z (TL.run ai [0] Z Z ?_)))))))
          obtain rfl:=CP h
          replace h:=hO66
          clear hO66
          try dsimp only at h
          obtain rfl:=CP h
          replace h:=hO7
          clear hO7
          try dsimp only at h
          obtain rfl:=CP h
          exact TL.nil (X.seq (T.ret (At (Al (Al (At (At (Al (Al (At (Al (Ak [0] D4 (Aj Z) ⟨Z,Z,Z⟩ (by rfl) (.inl Z)))))))))))))
         ·refine TL.run ai [0,1,2] Z Z ?_
          iterate 2 refine TL.q Z (.g Z Z (CO c75)) (Ao ai Z) Z ?_
          refine TL.q Z .u (Ar Z (CO c75) Z) Z ?_
          rcases jF h with⟨c76,h⟩ | ⟨c76,h⟩
          ·refine TL.run ai [6] Z Z ?_
           iterate 3 refine An Z (.gn Z Z (CN c76)) Z ?_
           iterate 11 refine An Z (.gu Z Z) Z ?_
           refine An Z (.gn Z Z (CN c76)) Z (TL.q Z .u (Aq Z (CN c76) Z) Z (TL.nil (X.seq (Am Z Z (T.seq (T.region Z (TL.run ai [0] Z Z ?_)))))))
           obtain rfl:=CP h
           replace h:=hO66
           clear hO66
           try dsimp only at h
           obtain rfl:=CP h
           replace h:=hO7
           clear hO7
           try dsimp only at h
           obtain rfl:=CP h
           exact TL.nil (X.seq (T.ret (At (Al (Al (At (At (Al (Al (At (Al (Ak [0] D4 (Aj Z) ⟨Z,Z,Z⟩ (by rfl) (.inl Z)))))))))))))
          ·refine TL.run ai [6] Z Z ?_
           iterate 3 refine TL.q Z (.g Z Z (CO c76)) (Ao ai Z) Z ?_
           rcases jF h with⟨c77,h⟩ | ⟨c77,h⟩
           ·refine TL.q Z (.g Z Z (CN c77)) (Ao ai Z) Z (TL.q Z (.g Z Z (CN c77)) (Ao ai Z) Z ?_)
            refine TL.q Z (.g Z Z (CN c77)) (Aw (k:=k4) Z Z Z DF DQ (CU hx14).1) Z ?_
            refine TL.q Z (.g Z Z (CN c77)) (Ao ai Z) Z (TL.q Z (.g Z Z (CN c77)) (AY 1 Z Eo z15nf z15cc Z Z) Z (TL.q Z (.g Z Z (CN c77)) (Ao ai Z) Z ?_))
            replace h:=ak h
            obtain⟨c78,h⟩:=h
            refine TL.q Z (.g Z Z (CN c77)) (Ex.sub Z Z c78) Z ?_
            replace h:=ak h
            obtain⟨c79,h⟩:=h
            obtain⟨x80,hx81,h⟩:=CM h
            obtain⟨z82cs,z82cl,z82cc,z82nf,z82r⟩:=BN (by decide) hX18 hx81
            obtain⟨z82S,z82r,z82rr⟩:=z82r
            obtain rfl:z82cs = [jI x80]:=z82r
            refine TL.q Z (.g Z Z (CN c77)) (Aw (k:=((k63:Int) - 1).toNat) Z Z ((Int.toNat_of_nonneg c79).symm) C6 CY (CU hx81).1) Z ?_
            refine TL.q Z (.g Z Z (CN c77)) (AY 0 Z CV z82nf z82cc Z Z) Z ?_
            iterate 2 refine TL.q Z (.g Z Z (CN c77)) (Ao ai Z) Z ?_
            refine TL.q Z (.g Z Z (CO c76)) (Aq Z (CN c77) Z) Z (TL.q Z .u (Ar Z (CO c76) Z) Z ?_)
            rcases jF h with⟨c83,h⟩ | ⟨c83,h⟩
            ·refine TL.nil (X.seq (Am Z (CN c83) (T.seq (T.region Z (TL.run ai [0] Z Z ?_)))))
             obtain rfl:=CP h
             replace h:=hO66
             clear hO66
             try dsimp only at h
             obtain rfl:=CP h
             replace h:=hO7
             clear hO7
             try dsimp only at h
             obtain rfl:=CP h
             exact TL.nil (X.seq (T.ret (At (Al (Al (At (At (Al (Al (At (Al (Ak [0] D4 (Aj Z) ⟨Z,Z,Z⟩ (by rfl) (.inl Z)))))))))))))
            ·refine TL.nil (X.seq (Ap Z (CO c83) (T.skip (Az (X.seq (T.region Z ?_))))))
             replace h:=ak h
             obtain⟨c84,h⟩:=h
             exact TL.run ai [0] Z Z (TL.q Z .u (Ex.add Z Z c84) Z (TL.run ai [2] Z Z (TL.nil (X.back (m':=m67) [0] (by omega) ⟨y62,k63+1,Z,Z,h⟩ (by rfl) (by rfl)))))
           ·refine An Z (.gn Z Z (CO c77)) Z ?_
            iterate 10 refine An Z (.gn Z Z (CO c77)) Z ?_
            refine TL.q Z (.g Z Z (CO c76)) (Ar Z (CO c77) Z) Z (TL.q Z .u (Ar Z (CO c76) Z) Z (TL.nil (X.seq (Ap Z Z (T.skip (Az (X.seq (T.region Z ?_))))))))
            replace h:=ak h
            obtain⟨c85,h⟩:=h
            exact TL.run ai [0] Z Z (TL.q Z .u (Ex.add Z Z c85) Z (TL.run ai [2] Z Z (TL.nil (X.back (m':=m67) [0] (by omega) ⟨y62,k63+1,Z,Z,h⟩ (by rfl) (by rfl)))))
        ·refine TL.nil (X.seq (Ap Z (CO c71) ?_))
         obtain rfl:=CP h
         replace h:=hO66
         clear hO66
         try dsimp only at h
         refine T.exit (Au (Au (AS (Az (X.seq (T.region Z ?_))))))
         replace h:=ak h
         obtain⟨c86,h⟩:=h
         exact TL.run ai [0] Z Z (TL.q Z .u (Ex.add Z Z c86) Z (TL.run ai [2] Z Z (TL.nil (X.back (m':=m8) [0] (by omega) ⟨y62,k4+1,Z,Z,h⟩ (by rfl) (by rfl)))))
  ·refine TL.nil (X.seq (Ap Z (CO c12) ?_))
   obtain rfl:=CP h
   replace h:=hO7
   clear hO7
   try dsimp only at h
   refine T.exit (Au (Au (AS (X.seq (T.seq (T.region Z (TL.run ai [0] Z Z ?_)))))))
   obtain rfl:=CP h
   exact TL.nil (X.seq (T.ret (Ak [0] D4 (Aj Z) ⟨Z,Z,Z⟩ (by rfl) (.inl Z))))
end Go.Proofs.YtcoppaggpbfcmaaGreat.Sl
