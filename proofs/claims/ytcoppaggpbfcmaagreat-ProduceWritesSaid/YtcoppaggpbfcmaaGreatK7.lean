/- produceWrites_holds: part 7. -/
import Derived.Test.YtcoppaggpbfcmaaGreatK6
set_option maxRecDepth 100000
set_option maxHeartbeats 4000000
set_option linter.defProp false
namespace Go.Proofs.YtcoppaggpbfcmaaGreat.Sl
open Go.RowKit
set_option linter.unusedVariables false
set_option linter.unusedSimpArgs false
def DC := @Tryz.runUnderlying48
def DD := @Tryz.runUnderlying79
def DF := @Tryz.sizeOf84
def DI := @Tryz.sizeOf50
def DL := @Tryz.sizeOf81
def DU := @Tryz.runUnderlying142
def DX := @Tryz.isAgg50
def DZ := @Tryz.sizeOf189
def D8 := @Tryz.runUnderlying50
def D9 := @Tryz.isAgg79
def Ea := @Tryz.isAgg82
def Ek := @Tryz.results128
def Ep := @Tryz.isAgg48
def EA := @Tryz.runUnderlying81
def EB := @Tryz.isAgg84
def EE := @Tryz.isAgg106
def EF := @Tryz.runUnderlying84
def EK := @Tryz.isAgg81
def EN := @Tryz.sizeOf82
def EQ := @Tryz.results153
def EU := @Tryz.runUnderlying189
def Fb := @Tryz.results79
def Fc := @Tryz.results80
def Fd := @Tryz.results30
def Fe := @Tryz.results31
def Fh := @Tryz.sizeOf79
def Fu := @Tryz.results19
def Fv := @Tryz.sizeOf106
def v8:fh := [(27,3,3),(27,4,4),(35,0,0),(35,1,1),(50,0,0),(50,1,2),(50,2,3),(50,3,4),(81,0,0),(81,1,1),(84,0,0),(84,1,1)]
theorem ag:(v8).OK Tryz.prog:=⟨FOK.mk Dp rfl DP rfl,FOK.mk Dp rfl DP rfl,FOK.mk DM rfl DP rfl,FOK.mk DM rfl DT rfl,FOK.mk D8 rfl Dk rfl,FOK.mk D8 rfl De rfl,FOK.mk D8 rfl De rfl,FOK.mk D8 rfl Tryz.sizeOf48 rfl,FOK.mk EA rfl DT rfl,FOK.mk EA rfl Fh rfl,FOK.mk EF rfl De rfl,FOK.mk EF rfl EN rfl,trivial⟩
theorem io:Tryz.prog.follows .mixedOrders=true:=by kernel_rfl
theorem iC:dm Tryz.prog 2 35 [.bool,.string] true:=(dm.struct DB Dk rfl Tryz.underlying35 Tryz.stoodInHeld35 ⟨by decide,rfl,[.bool],[.string],false,rfl,(Bq Do DP Tryz.underlying4),⟨by decide,rfl,[.string],[],false,rfl,(Bq Dz DT Tryz.underlying9),rfl⟩⟩)
theorem gz:BOK Tryz.prog 50 #[.bool false,.string ⟨#[]⟩,.int .i64 0,.int .i64 0,.slice none 0 0] [(0,2),(2,1),(3,1),(4,1)]:=BOK.mk Tryz.zeroValue50 D8 (by intro w; simp)
theorem qN:BOK Tryz.prog 81 #[.string ⟨#[]⟩,.slice none 0 0] [(0,1),(1,1)]:=BOK.mk Tryz.zeroValue81 EA (by intro w; simp)
theorem qO:BOK Tryz.prog 84 #[.int .i64 0,.slice none 0 0] [(0,1),(1,1)]:=BOK.mk Tryz.zeroValue84 EF (by intro w; simp)
theorem oA:SOK Tryz.prog 48 81 1 2 #[.string ⟨#[]⟩,.slice none 0 0]:=SOK.mk DC DL Tryz.zeroValue81 (by decide) (by kernel_rfl)
theorem gR:SOK Tryz.prog 79 84 1 2 #[.int .i64 0,.slice none 0 0]:=SOK.mk DD DF Tryz.zeroValue84 (by decide) (by kernel_rfl)
theorem gS:SOK Tryz.prog 82 27 1 12 #[.int .i64 0,.int .i64 0,.bool false,.bool false,.bool false,.int .i64 0,.int .i64 0,.int .i64 0,.int .i64 0,.int .i64 0,.int .i64 0,.slice none 0 0]:=SOK.mk Dr Di Tryz.zeroValue27 (by decide) (by kernel_rfl)
theorem jl:(Tryz.prog.info? 27).map (fun i=>(i.zero,i.size,i.bytes))=some (some (.agg #[.int .i64 0,.int .i64 0,.bool false,.bool false,.bool false,.int .i64 0,.int .i64 0,.int .i64 0,.int .i64 0,.int .i64 0,.int .i64 0,.slice none 0 0]),12,96):=by kernel_rfl
theorem qP:(Tryz.prog.info? 81).map (fun i=>(i.zero,i.size,i.bytes))=some (some (.agg #[.string ⟨#[]⟩,.slice none 0 0]),2,40):=by kernel_rfl
theorem jm:(Tryz.prog.info? 84).map (fun i=>(i.zero,i.size,i.bytes))=some (some (.agg #[.int .i64 0,.slice none 0 0]),2,32):=by kernel_rfl
def cj (x10:au):List ay→Int→Nat→Option (Lp Int Int)
 | [],y158,k159=>some (Lp.go y158)
 | x164::xs,y158,k159=>(if x164.CX<0 then some true else ((j6 x164.CX 4).bind fun x223=>if x223=true then (if (k159:Int)>0 then (if -9223372036854775808≤((k159:Int) - 1)∧((k159:Int) - 1)≤9223372036854775807 then (if 0≤((k159:Int) - 1) then ((x10.CA[((k159:Int) - 1).toNat]?).bind fun x229=>if x229.CX≥x164.CX then some true else some false) else none) else none) else some false) else some true)).bind fun y220=>if y220=true then some (Lp.ret 13) else (cj x10 xs y158 (k159+1))
def bC (a0:List au):List au→Int→Nat→Option (Lp Int Int)
 | [],y4,k5=>some (Lp.go y4)
 | x10::xs,y4,k5=>if (x10.CA.length:Int)=0 then some (Lp.ret 10) else ((if x10.CM = [] then some true else (if (x10.CM.length:Int)>32767 then some true else (if (k5:Int)>0 then (if -9223372036854775808≤((k5:Int) - 1)∧((k5:Int) - 1)≤9223372036854775807 then (if 0≤((k5:Int) - 1) then ((a0[((k5:Int) - 1).toNat]?).bind fun x150=>if (Op.bytesLess x150.CM x10.CM)=true then some false else some true) else none) else none) else some false))).bind fun y143=>if y143=true then some (Lp.ret 13) else ((cj x10 x10.CA y4 0).bind fun e=>match e with | .ret r=>some (Lp.ret r) | .go y237=>(bC a0 xs y237 (k5+1))))
theorem mb (a0:List au) (y4:Int) (k5:Nat):bC a0 [] y4 k5=(some (Lp.go y4)):=rfl
theorem mc (a0:List au) (x10:au) (xs:List au) (y4:Int) (k5:Nat):bC a0 (x10::xs) y4 k5=(if (x10.CA.length:Int)=0 then some (Lp.ret 10) else ((if x10.CM = [] then some true else (if (x10.CM.length:Int)>32767 then some true else (if (k5:Int)>0 then (if -9223372036854775808≤((k5:Int) - 1)∧((k5:Int) - 1)≤9223372036854775807 then (if 0≤((k5:Int) - 1) then ((a0[((k5:Int) - 1).toNat]?).bind fun x150=>if (Op.bytesLess x150.CM x10.CM)=true then some false else some true) else none) else none) else some false))).bind fun y143=>if y143=true then some (Lp.ret 13) else ((cj x10 x10.CA y4 0).bind fun e=>match e with | .ret r=>some (Lp.ret r) | .go y237=>(bC a0 xs y237 (k5+1))))):=rfl
def fw (a0:List au):Option (Int):=if (a0.length:Int)=0 then some 10 else ((bC a0 a0 0 0).bind fun e=>match e with | .ret r=>some r | .go y239=>some 0)
theorem md (a0:List au) (A1:Option Addr) (c2:Nat) (r:Int) (h:fw a0=some r):aA Tryz.prog 79 #[.slice A1 a0.length c2] (RX.of (ar 2 aG) [.slice A1 a0.length c2] a0) (aD) (fun v A' N=>v=jI r∧A'=aD∧N = []):=by
 refine aM Tryz.func79 Z Tryz.ntmps79 Z ?_
 intro F w hX
 unfold fw at h
 refine T.seq (T.region Z (TL.run ag [0] Z Z (TL.nil (X.seq (T.seq (T.seq (T.region Z (TL.run ag [0] Z Z (TL.q Z .u (AW Z DC) Z (TL.run ag [2] Z Z ?_))))))))))
 rcases jF h with⟨c3,h⟩ | ⟨c3,h⟩
 ·refine TL.nil (X.seq (AN Z (C6 c3) (T.seq (T.region Z (TL.run ag [0] Z Z ?_)))))
  obtain rfl:=C8 h
  exact TL.nil (X.seq (T.ret (AL (AJ [0] Fb (AK Z) ⟨Z,Z,Z⟩ (by rfl) (.inl Z)))))
 ·refine TL.nil (X.seq (AS Z (C7 c3) (T.skip (X.seq (T.seq (T.seq (T.region Z (TL.run ag [0] Z Z (TL.q Z .u (AW Z DC) Z (TL.run ag [2] Z Z (TL.nil (X.seq (T.block ?_)))))))))))))
  obtain⟨E6,hE7,hO8⟩:=C5 h
  have hk12len:=Bm hX
  refine Bj (fun m e Rs=> ∃ (y4:Int) (k5:Nat),k5+m=a0.length∧e = [(0,.slice A1 a0.length c2),(2,jI y4),(10,.slice A1 a0.length c2),(11,jI (a0.length:Int)),(12,jI (k5:Int))]∧Rs = [aD]∧bC a0 (a0.drop k5) y4 k5=some E6) (a0.length) [0] ⟨0,0,by simp,Z,Z,by rw[List.drop_zero]; exact hE7⟩ (by rfl) (by rfl) ?_
  rintro m9 _ _ ⟨y4,k5,hk12,rfl,rfl,hl11⟩
  clear hE7 h
  cases m9 with
  | zero =>
   have h:=hl11
   clear hl11
   rw[List.drop_of_length_le (by omega),mb] at h
   have hk12ge: ¬ ((k5:Int)<(a0.length:Int)):=by omega
   refine T.seq (T.region Z (TL.run ag [0] Z Z (TL.nil (X.seq (T.seq (AS Z (C7 hk12ge) ?_))))))
   obtain rfl:=C8 h
   replace h:=hO8
   clear hO8
   try dsimp only at h
   refine T.exit (AV (AV (Bh (X.seq (T.seq (T.region Z (TL.run ag [0] Z Z ?_)))))))
   obtain rfl:=C8 h
   exact TL.nil (X.seq (T.ret (AJ [0] Fb (AK Z) ⟨Z,Z,Z⟩ (by rfl) (.inl Z))))
  | succ m9 =>
   have h:=hl11
   clear hl11
   obtain⟨x10,hxx10⟩: ∃ x,a0[k5]? = some x:=⟨_,List.getElem?_eq_getElem (by omega)⟩
   rw[aX hxx10,mc] at h
   have hk12lt:(k5:Int)<(a0.length:Int):=by omega
   refine T.seq (T.region Z (TL.run ag [0] Z Z (TL.nil (X.seq (T.seq (AN Z (C6 hk12lt) (T.skip (X.seq (T.seq (T.block (T.seq (T.region Z ?_))))))))))))
   obtain⟨gz126,oz126,rfl,z126cs,z126cl,z126cc,z126nf,z126r⟩:=Bb (by decide) hX hxx10
   obtain⟨z126S,z126r,z126rr⟩:=z126r
   obtain⟨A127,c128,rfl,z126s0⟩:=z126r
   have hX129:(RX.of (ar 2 aS) [.slice A127 x10.CA.length c128] x10.CA).reads w F:=⟨z126S,z126s0,z126rr⟩
   refine TL.run ag [0] Z Z ?_
   refine TL.q Z .u (AX (k:=k5) Z Z Z DC DL (Da hxx10).1) Z ?_
   refine TL.q Z .u (Bn (us := [jS x10.CM,.slice A127 x10.CA.length c128]) 0 Z EK DL z126nf z126cc Z Z Z) Z (TL.alloc Z .u Tryz.zeroValue81 Z (fun b130=>(TL.run ag [4] Z Z (A9 (cs':= #[jS x10.CM,.slice A127 x10.CA.length c128]) Z .u Z Z DL Z Z Z Z (TL.nil (X.seq (T.seq (T.seq (T.region Z (TL.run ag [0] Z Z (TL.q Z .u (AH 0 Z D9 Z Z) Z (TL.q Z .u (AW Z DD) Z ?_))))))))))))
   refine TL.run ag [3] Z Z ?_
   rcases jF h with⟨c131,h⟩ | ⟨c131,h⟩
   ·refine TL.nil (X.seq (AN Z (C6 c131) (T.seq (T.region Z (TL.run ag [0] Z Z ?_)))))
    obtain rfl:=C8 h
    replace h:=hO8
    clear hO8
    try dsimp only at h
    obtain rfl:=C8 h
    exact TL.nil (X.seq (T.ret (AL (AU (AL (AL (AU (AL (AJ [1] Fb (AK Z) ⟨Z,Z,Z⟩ (by rfl) (.inl Z))))))))))
   ·refine TL.nil (X.seq (AS Z (C7 c131) (T.skip (X.seq (T.seq (T.seq ?_))))))
    obtain⟨y143,h,hk144⟩:=C5 h
    refine BE (fun e Rs=>e = [(0,.slice (some ⟨gz126,oz126,none⟩) a0.length c2),(2,jI y4),(4,jP b130),(10,.slice (some ⟨gz126,oz126,none⟩) a0.length c2),(11,jI (a0.length:Int)),(12,jI (k5:Int)),(44,.bool y143)]∧Rs = [aC b130 81 #[jS x10.CM,.slice A127 x10.CA.length c128],aD]) ?_ ?_
    ·clear hk144
     refine Bd (.q 0 (.q 1 (.q 2 (.q 3 (.q 4 (.q 5 (.q 6 (.q 7 (.q 8 (.q 9 (.q 10 (.q 11 (.q 12 (.q 13 (.q 14 (.q 15 (.q 16 (.q 17 (.q 18 (.q 19 (.q 20 (.q 21 (.q 22 (.q 23 .nil)))))))))))))))))))))))) [0,0] Z io (NoP.seq (NoP.seq (NoP.seq (NoP.blk (NoP.seq (NoP.seq (NoP.blk (NoP.seq aP)))))))) (by kernel_rfl) ?_
     refine TD.run ag [0] Z Z (TD.q Z .u (AH 0 Z Dz Z Z) Z (TD.q Z .u (Ex.sEq Z (m := []) Z) Z ?_))
     rcases jF h with⟨c145,h⟩ | ⟨c145,h⟩
     ·refine TD.run ag [3] Z Z ?_
      iterate 4 refine BB Z (.gn Z Z (C6 c145)) Z ?_
      refine TD.q Z .u (AP Z (C6 c145) Z) Z (TD.run ag [9] Z Z ?_)
      iterate 3 refine BB Z (.gn Z Z Z) Z ?_
      iterate 9 refine BB Z (.gu Z Z) Z ?_
      refine BB Z (.gn Z Z Z) Z (TD.q Z .u (AP Z Z Z) Z ?_)
      cases h
      exact TD.nil (A5 [0,0] ⟨Z,Z⟩ (by rfl) (by rfl))
     ·refine TD.run ag [3] Z Z (TD.q Z (.g Z Z (C7 c145)) (AO ag Z) Z (TD.q Z (.g Z Z (C7 c145)) (AH 0 Z Dz Z Z) Z (TD.q Z (.g Z Z (C7 c145)) (Br Z Dm) Z (TD.q Z (.g Z Z (C7 c145)) (AO ag Z) Z (TD.q Z .u (AR Z (C7 c145) Z) Z ?_)))))
      rcases jF h with⟨c146,h⟩ | ⟨c146,h⟩
      ·refine TD.run ag [9] Z Z ?_
       iterate 3 refine BB Z (.gn Z Z (C6 c146)) Z ?_
       iterate 9 refine BB Z (.gu Z Z) Z ?_
       refine BB Z (.gn Z Z (C6 c146)) Z (TD.q Z .u (AP Z (C6 c146) Z) Z ?_)
       cases h
       exact TD.nil (A5 [0,0] ⟨Z,Z⟩ (by rfl) (by rfl))
      ·refine TD.run ag [9] Z Z ?_
       iterate 3 refine TD.q Z (.g Z Z (C7 c146)) (AO ag Z) Z ?_
       rcases jF h with⟨c147,h⟩ | ⟨c147,h⟩
       ·refine TD.q Z (.g Z Z (C6 c147)) (AO ag Z) Z (TD.q Z (.g Z Z (C6 c147)) (AO ag Z) Z ?_)
        replace h:=an h
        obtain⟨c148,h⟩:=h
        refine TD.q Z (.g Z Z (C6 c147)) (Ex.sub Z Z c148) Z ?_
        replace h:=an h
        obtain⟨c149,h⟩:=h
        obtain⟨x150,hx151,h⟩:=C5 h
        obtain⟨z152cs,z152cl,z152cc,z152nf,z152r⟩:=Cd (by decide) hX hx151
        obtain⟨z152S,z152r,z152rr⟩:=z152r
        obtain⟨A153,c154,rfl,z152s0⟩:=z152r
        have hX155:(RX.of (ar 2 aS) [.slice A153 x150.CA.length c154] x150.CA).reads w F:=⟨z152S,z152s0,z152rr⟩
        refine TD.q Z (.g Z Z (C6 c147)) (AX (k:=((k5:Int) - 1).toNat) Z Z ((Int.toNat_of_nonneg c149).symm) DC DL (Da hx151).1) Z ?_
        refine TD.q Z (.g Z Z (C6 c147)) (AO ag Z) Z (TD.q Z (.g Z Z (C6 c147)) (Bt 0 Z Dz z152nf z152cc Z Z) Z (TD.q Z (.g Z Z (C6 c147)) (AO ag Z) Z (TD.q Z (.g Z Z (C6 c147)) (AH 0 Z Dz Z Z) Z (TD.q Z (.g Z Z (C6 c147)) (Ex.sGe Z Z) Z (TD.q Z (.g Z Z (C7 c146)) (AP Z (C6 c147) Z) Z (TD.q Z .u (AR Z (C7 c146) Z) Z ?_))))))
        rcases jF h with⟨c156,h⟩ | ⟨c156,h⟩
        ·cases h
         exact TD.nil (Bw (d:=44) (v':= .bool false) Z (congrArg Value.bool (ax c156)) (A5 [0,0] ⟨Z,Z⟩ (by rfl) (by rfl)))
        ·replace c156:=Dd c156
         cases h
         exact TD.nil (Bw (d:=44) (v':= .bool true) Z (congrArg Value.bool (aF c156)) (A5 [0,0] ⟨Z,Z⟩ (by rfl) (by rfl)))
       ·refine BB Z (.gn Z Z (C7 c147)) Z ?_
        iterate 8 refine BB Z (.gn Z Z (C7 c147)) Z ?_
        refine TD.q Z (.g Z Z (C7 c146)) (AR Z (C7 c147) Z) Z (TD.q Z .u (AR Z (C7 c146) Z) Z ?_)
        cases h
        exact TD.nil (A5 [0,0] ⟨Z,Z⟩ (by rfl) (by rfl))
    ·rintro _ _ ⟨rfl,rfl⟩
     clear h
     have h:=hk144
     clear hk144
     try dsimp only at h
     rcases jF h with⟨c157,h⟩ | ⟨c157,h⟩
     ·refine X.seq (AN Z c157 (T.seq (T.region Z (TL.run ag [0] Z Z ?_))))
      obtain rfl:=C8 h
      replace h:=hO8
      clear hO8
      try dsimp only at h
      obtain rfl:=C8 h
      exact TL.nil (X.seq (T.ret (AL (AU (AL (AL (AU (AL (AJ [1] Fb (AK Z) ⟨Z,Z,Z⟩ (by rfl) (.inl Z))))))))))
     ·replace c157:=Dd c157
      refine X.seq (AS Z c157 (T.skip (X.seq (T.seq (T.region Z (TL.run ag [0] Z Z (TL.q Z .u (AH 0 Z D9 Z Z) Z (TL.q Z .u (AW Z DD) Z (TL.run ag [3] Z Z (TL.nil (X.seq (T.block ?_))))))))))))
      obtain⟨E160,hE161,hO162⟩:=C5 h
      have hk166len:=Bm hX129
      refine Bj (fun m e Rs=> ∃ (y158:Int) (k159:Nat),k159+m=x10.CA.length∧e = [(0,.slice (some ⟨gz126,oz126,none⟩) a0.length c2),(2,jI y158),(4,jP b130),(10,.slice (some ⟨gz126,oz126,none⟩) a0.length c2),(11,jI (a0.length:Int)),(12,jI (k5:Int)),(46,.slice A127 x10.CA.length c128),(47,jI (x10.CA.length:Int)),(48,jI (k159:Int))]∧Rs = [aC b130 81 #[jS x10.CM,.slice A127 x10.CA.length c128],aD]∧cj x10 (x10.CA.drop k159) y158 k159=some E160) (x10.CA.length) [0,0] ⟨y4,0,by simp,Z,Z,by rw[List.drop_zero]; exact hE161⟩ (by rfl) (by rfl) ?_
      rintro m163 _ _ ⟨y158,k159,hk166,rfl,rfl,hl165⟩
      clear hE161 h
      cases m163 with
      | zero =>
       have h:=hl165
       clear hl165
       rw[List.drop_of_length_le (by omega),cj] at h
       have hk166ge: ¬ ((k159:Int)<(x10.CA.length:Int)):=by omega
       refine T.seq (T.region Z (TL.run ag [0] Z Z (TL.nil (X.seq (T.seq (AS Z (C7 hk166ge) ?_))))))
       obtain rfl:=C8 h
       replace h:=hO162
       clear hO162
       try dsimp only at h
       exact T.exit (AV (AV (Bh (AZ (X.seq (T.region Z (TL.q Z .u (Ex.add Z Z (by omega)) Z (TL.run ag [1] Z Z (TL.nil (X.back (m':=m9) [1] (by omega) ⟨y158,k5+1,by omega,Z,Z,h⟩ (by rfl) (by rfl)))))))))))
      | succ m163 =>
       have h:=hl165
       clear hl165
       obtain⟨x164,hxx164⟩: ∃ x,x10.CA[k159]? = some x:=⟨_,List.getElem?_eq_getElem (by omega)⟩
       rw[aX hxx164,cj] at h
       have hk166lt:(k159:Int)<(x10.CA.length:Int):=by omega
       refine T.seq (T.region Z (TL.run ag [0] Z Z (TL.nil (X.seq (T.seq (AN Z (C6 hk166lt) (T.skip (X.seq (T.seq (T.block (T.seq (T.region Z ?_))))))))))))
       obtain⟨gz202,oz202,rfl,z202cs,z202cl,z202cc,z202nf,z202r⟩:=Bb (by decide) hX129 hxx164
       obtain⟨z202S,z202r,z202rr⟩:=z202r
       obtain⟨A203,c204,rfl,z202s0⟩:=z202r
       have hX205:(RX.of (ar 12 bT) [.slice A203 x164.CG.length c204] x164.CG).reads w F:=⟨z202S,z202s0,z202rr⟩
       refine TL.run ag [0] Z Z ?_
       refine TL.q Z .u (AX (k:=k159) Z Z Z DD DF (Da hxx164).1) Z ?_
       refine TL.q Z .u (Bn (us := [jI x164.CX,.slice A203 x164.CG.length c204]) 0 Z EB DF z202nf z202cc Z Z Z) Z (TL.alloc Z .u Tryz.zeroValue84 Z (fun b206=>(TL.run ag [4] Z Z (A9 (cs':= #[jI x164.CX,.slice A203 x164.CG.length c204]) Z .u Z Z DF Z Z Z Z (TL.nil (X.seq (T.seq ?_)))))))
       obtain⟨y220,h,hk221⟩:=C5 h
       refine BE (fun e Rs=>e = [(0,.slice (some ⟨gz126,oz126,none⟩) a0.length c2),(2,jI y158),(4,jP b130),(10,.slice (some ⟨gz126,oz126,none⟩) a0.length c2),(11,jI (a0.length:Int)),(12,jI (k5:Int)),(46,.slice (some ⟨gz202,oz202,none⟩) x10.CA.length c128),(47,jI (x10.CA.length:Int)),(48,jI (k159:Int)),(77,.bool y220)]∧Rs = [aC b206 84 #[jI x164.CX,.slice A203 x164.CG.length c204],aC b130 81 #[jS x10.CM,.slice (some ⟨gz202,oz202,none⟩) x10.CA.length c128],aD]) ?_ ?_
       ·clear hk221
        refine Bd (.q 0 (.q 1 (.q 2 (.q 3 (.q 4 (.q 5 (.e 6 (.q 7 (.q 8 (.q 9 (.q 10 (.q 11 (.q 12 (.q 13 (.q 14 (.q 15 (.q 16 (.q 17 (.q 18 (.q 19 (.q 20 (.q 21 (.q 22 (.q 23 (.q 24 .nil))))))))))))))))))))))))) [0,0,0] Z io (NoP.seq (NoP.seq (NoP.blk (NoP.seq (NoP.seq (NoP.blk (NoP.blk (NoP.seq (NoP.seq (NoP.blk (NoP.seq aP))))))))))) (by kernel_rfl) ?_
        refine TD.run ag [0] Z Z (TD.q Z .u (AH 0 Z Dc Z Z) Z ?_)
        rcases jF h with⟨c222,h⟩ | ⟨c222,h⟩
        ·refine TD.run ag [2,3] Z Z ?_
         iterate 2 refine BB Z (.gn Z Z (C6 c222)) Z ?_
         refine B9 Z (.gn Z Z (C6 c222)) Z [0,0,0] Z (BB Z (.gn Z Z (C6 c222)) Z (TD.q Z .u (AP Z (C6 c222) Z) Z (TD.run ag [9] Z Z ?_)))
         iterate 3 refine BB Z (.gn Z Z Z) Z ?_
         iterate 10 refine BB Z (.gu Z Z) Z ?_
         refine BB Z (.gn Z Z Z) Z (TD.q Z .u (AP Z Z Z) Z ?_)
         cases h
         exact TD.nil (A5 [0,0,0] ⟨Z,Z⟩ (by rfl) (by rfl))
        ·refine TD.run ag [2,3] Z Z (TD.q Z (.g Z Z (C7 c222)) (AO ag Z) Z (TD.q Z (.g Z Z (C7 c222)) (AH 0 Z Dc Z Z) Z ?_))
         obtain⟨x223,hx224,h⟩:=C5 h
         refine Bk Z (.g Z Z (C7 c222)) (.fn Tryz.call78 Z) (BA (fun w=>eH x164.CX 4 _ hx224 w)) (fun _ _=>AQ _ _) Z [0,0,0] (Z) (TD.q Z (.g Z Z (C7 c222)) (AO ag Z) Z (TD.q Z .u (AR Z (C7 c222) Z) Z ?_))
         rcases jF h with⟨c225,h⟩ | ⟨c225,h⟩
         ·refine TD.run ag [9] Z Z ?_
          iterate 3 refine TD.q Z (.g Z Z (ax c225)) (AO ag Z) Z ?_
          rcases jF h with⟨c226,h⟩ | ⟨c226,h⟩
          ·refine TD.q Z (.g Z Z (C6 c226)) (AO ag Z) Z (TD.q Z (.g Z Z (C6 c226)) (AH 1 Z D9 Z Z) Z (TD.q Z (.g Z Z (C6 c226)) (AO ag Z) Z ?_))
           replace h:=an h
           obtain⟨c227,h⟩:=h
           refine TD.q Z (.g Z Z (C6 c226)) (Ex.sub Z Z c227) Z ?_
           replace h:=an h
           obtain⟨c228,h⟩:=h
           obtain⟨x229,hx230,h⟩:=C5 h
           obtain⟨z231cs,z231cl,z231cc,z231nf,z231r⟩:=Cd (by decide) hX129 hx230
           obtain⟨z231S,z231r,z231rr⟩:=z231r
           obtain⟨A232,c233,rfl,z231s0⟩:=z231r
           have hX234:(RX.of (ar 12 bT) [.slice A232 x229.CG.length c233] x229.CG).reads w F:=⟨z231S,z231s0,z231rr⟩
           refine TD.q Z (.g Z Z (C6 c226)) (AX (k:=((k159:Int) - 1).toNat) Z Z ((Int.toNat_of_nonneg c228).symm) DD DF (Da hx230).1) Z ?_
           refine TD.q Z (.g Z Z (C6 c226)) (AO ag Z) Z (TD.q Z (.g Z Z (C6 c226)) (Bt 0 Z Dc z231nf z231cc Z Z) Z (TD.q Z (.g Z Z (C6 c226)) (AO ag Z) Z (TD.q Z (.g Z Z (C6 c226)) (AH 0 Z Dc Z Z) Z (TD.q Z (.g Z Z (C6 c226)) (AO ag Z) Z (TD.q Z (.g Z Z (ax c225)) (AP Z (C6 c226) Z) Z (TD.q Z .u (AR Z (ax c225) Z) Z ?_))))))
           rcases jF h with⟨c235,h⟩ | ⟨c235,h⟩
           ·cases h
            exact TD.nil (Bw (d:=77) (v':= .bool true) Z (congrArg Value.bool (C6 c235)) (A5 [0,0,0] ⟨Z,Z⟩ (by rfl) (by rfl)))
           ·cases h
            exact TD.nil (Bw (d:=77) (v':= .bool false) Z (congrArg Value.bool (C7 c235)) (A5 [0,0,0] ⟨Z,Z⟩ (by rfl) (by rfl)))
          ·refine BB Z (.gn Z Z (C7 c226)) Z ?_
           iterate 9 refine BB Z (.gn Z Z (C7 c226)) Z ?_
           refine TD.q Z (.g Z Z (ax c225)) (AR Z (C7 c226) Z) Z (TD.q Z .u (AR Z (ax c225) Z) Z ?_)
           cases h
           exact TD.nil (A5 [0,0,0] ⟨Z,Z⟩ (by rfl) (by rfl))
         ·replace c225:=Dd c225
          refine TD.run ag [9] Z Z ?_
          iterate 3 refine BB Z (.gn Z Z (aF c225)) Z ?_
          iterate 10 refine BB Z (.gu Z Z) Z ?_
          refine BB Z (.gn Z Z (aF c225)) Z (TD.q Z .u (AP Z (aF c225) Z) Z ?_)
          cases h
          exact TD.nil (A5 [0,0,0] ⟨Z,Z⟩ (by rfl) (by rfl))
       ·rintro _ _ ⟨rfl,rfl⟩
        clear h
        have h:=hk221
        clear hk221
        try dsimp only at h
        rcases jF h with⟨c236,h⟩ | ⟨c236,h⟩
        ·refine X.seq (AN Z c236 (T.seq (T.region Z (TL.run ag [0] Z Z ?_))))
         obtain rfl:=C8 h
         replace h:=hO162
         clear hO162
         try dsimp only at h
         obtain rfl:=C8 h
         replace h:=hO8
         clear hO8
         try dsimp only at h
         obtain rfl:=C8 h
         exact TL.nil (X.seq (T.ret (AU (AL (AL (AU (AU (AL (AL (AU (AL (AJ [2] Fb (AK Z) ⟨Z,Z,Z⟩ (by rfl) (.inl Z)))))))))))))
        ·replace c236:=Dd c236
         exact X.seq (AS Z c236 (T.skip (AZ (X.seq (T.region Z (TL.q Z .u (Ex.add Z Z (by omega)) Z (TL.run ag [1] Z Z (TL.nil (X.back (m':=m163) [1,1] (by omega) ⟨y158,k159+1,by omega,Z,Z,h⟩ (by rfl) (by rfl))))))))))
def bc (a0:aq):List Bat→Int→Option (Lp Int Int)
 | [],y14=>some (Lp.go y14)
 | x20::xs,y14=>(co x20).bind fun x28=>if x28=0 then (if x20.CL=true then some (Lp.ret 12) else (if (x20.C0 == a0.CS.null)=true then some (Lp.ret 8) else (bc a0 xs y14))) else some (Lp.ret x28)
def cv (a0:aq) (a1:List Bat) (a2:Int):Option (Int):=(if (a1.length:Int)=0 then some true else (if a2<4 then (if (a1.length:Int)>1 then some true else some false) else some false)).bind fun y8=>if y8=true then some 10 else ((bc a0 a1 0).bind fun e=>match e with | .ret r=>some r | .go y33=>some 0)
theorem ip (a0:aq) (A1:Option Addr) (c2:Nat) (a1:List Bat) (A3:Option Addr) (c4:Nat) (a2:Int) (r:Int) (h:cv a0 a1 a2=some r):aA Tryz.prog 80 #[.agg #[.bool a0.CS.null,jS a0.CS.data,jI a0.CZ,jI a0.CO,.slice A1 a0.CC.length c2],.slice A3 a1.length c4,jI a2] (RX.and (RX.of (ar 2 aG) [.slice A1 a0.CC.length c2] a0.CC) (RX.of (ar 12 bT) [.slice A3 a1.length c4] a1)) (aD) (fun v A' N=>v=jI r∧A'=aD∧N = []):=by
 refine aM Tryz.func80 Z Tryz.ntmps80 Z ?_
 intro F w hX
 unfold cv at h
 refine T.seq (T.region Z (TL.box Z .u Z Z (fun b5=>(TL.run ag [1] Z Z (TL.nil (X.seq (T.seq (T.seq ?_))))))))
 obtain⟨y8,h,hk9⟩:=C5 h
 refine BE (fun e Rs=>e = [(1,.slice A3 a1.length c4),(3,jP b5),(6,jI 0),(21,.bool y8)]∧Rs = [aC b5 50 #[.bool a0.CS.null,jS a0.CS.data,jI a0.CZ,jI a0.CO,.slice A1 a0.CC.length c2],aD]) ?_ ?_
 ·clear hk9
  refine T.region Z (TL.run ag [0] Z Z (TL.q Z .u (AW Z Dr) Z ?_))
  rcases jF h with⟨c10,h⟩ | ⟨c10,h⟩
  ·refine TL.run ag [2,3] Z Z ?_
   iterate 3 refine AM Z (.gn Z Z (C6 c10)) Z ?_
   iterate 3 refine AM Z (.gu Z Z) Z ?_
   refine AM Z (.gn Z Z (C6 c10)) Z (TL.q Z .u (AP Z (C6 c10) Z) Z ?_)
   cases h
   exact TL.nil (A5 [0,0] ⟨Z,Z⟩ (by rfl) (by rfl))
  ·refine TL.run ag [2,3] Z Z ?_
   iterate 3 refine TL.q Z (.g Z Z (C7 c10)) (AO ag Z) Z ?_
   rcases jF h with⟨c11,h⟩ | ⟨c11,h⟩
   ·refine TL.q Z (.g Z Z (C6 c11)) (AO ag Z) Z (TL.q Z (.g Z Z (C6 c11)) (AW Z Dr) Z (TL.q Z (.g Z Z (C6 c11)) (AO ag Z) Z (TL.q Z (.g Z Z (C7 c10)) (AP Z (C6 c11) Z) Z (TL.q Z .u (AR Z (C7 c10) Z) Z ?_))))
    rcases jF h with⟨c12,h⟩ | ⟨c12,h⟩
    ·cases h
     exact TL.nil (Bw (d:=21) (v':= .bool true) Z (congrArg Value.bool (C6 c12)) (A5 [0,0] ⟨Z,Z⟩ (by rfl) (by rfl)))
    ·cases h
     exact TL.nil (Bw (d:=21) (v':= .bool false) Z (congrArg Value.bool (C7 c12)) (A5 [0,0] ⟨Z,Z⟩ (by rfl) (by rfl)))
   ·refine AM Z (.gn Z Z (C7 c11)) Z ?_
    iterate 2 refine AM Z (.gn Z Z (C7 c11)) Z ?_
    refine TL.q Z (.g Z Z (C7 c10)) (AR Z (C7 c11) Z) Z (TL.q Z .u (AR Z (C7 c10) Z) Z ?_)
    cases h
    exact TL.nil (A5 [0,0] ⟨Z,Z⟩ (by rfl) (by rfl))
 ·rintro _ _ ⟨rfl,rfl⟩
  clear h
  have h:=hk9
  clear hk9
  try dsimp only at h
  rcases jF h with⟨c13,h⟩ | ⟨c13,h⟩
  ·refine X.seq (AN Z c13 (T.seq (T.region Z (TL.run ag [0] Z Z ?_))))
   obtain rfl:=C8 h
   exact TL.nil (X.seq (T.ret (AL (AJ [1] Fc (AK Z) ⟨Z,Z,Z⟩ (by rfl) (.inl Z)))))
  ·replace c13:=Dd c13
   refine X.seq (AS Z c13 (T.skip (X.seq (T.seq (T.seq (T.region Z (TL.run ag [0] Z Z (TL.q Z .u (AW Z Dr) Z (TL.run ag [2] Z Z (TL.nil (X.seq (T.block ?_))))))))))))
   obtain⟨E16,hE17,hO18⟩:=C5 h
   have hk22len:=Bm (Bz hX)
   refine Bj (fun m e Rs=> ∃ (y14:Int) (k15:Nat),k15+m=a1.length∧e = [(3,jP b5),(6,jI y14),(22,.slice A3 a1.length c4),(23,jI (a1.length:Int)),(24,jI (k15:Int))]∧Rs = [aC b5 50 #[.bool a0.CS.null,jS a0.CS.data,jI a0.CZ,jI a0.CO,.slice A1 a0.CC.length c2],aD]∧bc a0 (a1.drop k15) y14=some E16) (a1.length) [0,0] ⟨0,0,by simp,Z,Z,by rw[List.drop_zero]; exact hE17⟩ (by rfl) (by rfl) ?_
   rintro m19 _ _ ⟨y14,k15,hk22,rfl,rfl,hl21⟩
   clear hE17 h
   cases m19 with
   | zero =>
    have h:=hl21
    clear hl21
    rw[List.drop_of_length_le (by omega),bc] at h
    have hk22ge: ¬ ((k15:Int)<(a1.length:Int)):=by omega
    refine T.seq (T.region Z (TL.run ag [0] Z Z (TL.nil (X.seq (T.seq (AS Z (C7 hk22ge) ?_))))))
    obtain rfl:=C8 h
    replace h:=hO18
    clear hO18
    try dsimp only at h
    refine T.exit (AV (AV (Bh (X.seq (T.seq (T.region Z (TL.run ag [0] Z Z ?_)))))))
    obtain rfl:=C8 h
    exact TL.nil (X.seq (T.ret (AJ [1] Fc (AK Z) ⟨Z,Z,Z⟩ (by rfl) (.inl Z))))
   | succ m19 =>
    have h:=hl21
    clear hl21
    obtain⟨x20,hxx20⟩: ∃ x,a1[k15]? = some x:=⟨_,List.getElem?_eq_getElem (by omega)⟩
    rw[aX hxx20,bc] at h
    have hk22lt:(k15:Int)<(a1.length:Int):=by omega
    refine T.seq (T.region Z (TL.run ag [0] Z Z (TL.nil (X.seq (T.seq (AN Z (C6 hk22lt) ?_))))))
    obtain⟨gz23,oz23,rfl,z23cs,z23cl,z23cc,z23nf,z23r⟩:=Bb (by decide) (Bz hX) hxx20
    obtain⟨z23S,z23r,z23rr⟩:=z23r
    obtain⟨A24,c25,rfl,z23s0⟩:=z23r
    have hX26:(RX.of (ar 7 aU) [.slice A24 x20.Cy.length c25] x20.Cy).reads w F:=⟨z23S,z23s0,z23rr⟩
    refine T.skip (X.seq (T.seq (T.block (T.seq (T.region Z ?_)))))
    refine TL.q Z .u (AX (k:=k15) Z Z Z Dr Di (Da hxx20).1) Z ?_
    refine TL.q Z .u (Bn (us := [jI x20.CP,jI x20.CI,.bool x20.CV,.bool x20.C0,.bool x20.CL,jI x20.CN,jI x20.CH,jI x20.CW,jI x20.CE,jI x20.CK,jI x20.CD,.slice A24 x20.Cy.length c25]) 0 Z Dx Di z23nf z23cc Z Z Z) Z (TL.alloc Z .u Tryz.zeroValue27 Z (fun b27=>(A9 (cs':= #[jI x20.CP,jI x20.CI,.bool x20.CV,.bool x20.C0,.bool x20.CL,jI x20.CN,jI x20.CH,jI x20.CW,jI x20.CE,jI x20.CK,jI x20.CD,.slice A24 x20.Cy.length c25]) Z .u Z Z Di Z Z Z Z (TL.nil (X.seq (T.seq (T.seq (T.region Z (TL.q Z .u (AY (us := [jI x20.CP,jI x20.CI,.bool x20.CV,.bool x20.C0,.bool x20.CL,jI x20.CN,jI x20.CH,jI x20.CW,jI x20.CE,jI x20.CK,jI x20.CD,.slice A24 x20.Cy.length c25]) 0 Z Dx Di Z Z Z) Z ?_)))))))))
    obtain⟨x28,hx29,h⟩:=C5 h
    refine Bc Z .u (.fn Tryz.call40 Z) (fY x20 _ _ _ hx29) (fun _ hs=>(Ba hs hX26)) Z (TL.run ag [2] Z Z (TL.nil (X.seq (T.seq (T.region Z (TL.run ag [0,1] Z Z ?_))))))
    rcases jF h with⟨c30,h⟩ | ⟨c30,h⟩
    ·refine TL.nil (X.seq (AS Z (ax (C6 c30)) (T.skip (X.seq (T.block (T.seq (T.region Z (TL.run ag [0] Z Z (TL.q Z .u (AH 0 Z Do Z Z) Z (TL.run ag [2] Z Z ?_))))))))))
     rcases jF h with⟨c31,h⟩ | ⟨c31,h⟩
     ·refine TL.nil (X.seq (AN Z c31 (T.seq (T.region Z (TL.run ag [0] Z Z ?_)))))
      obtain rfl:=C8 h
      replace h:=hO18
      clear hO18
      try dsimp only at h
      obtain rfl:=C8 h
      exact TL.nil (X.seq (T.ret (AU (AU (AL (AL (AU (AL (AJ [2] Fc (AK Z) ⟨Z,Z,Z⟩ (by rfl) (.inl Z))))))))))
     ·replace c31:=Dd c31
      refine TL.nil (X.seq (AS Z c31 (T.seq (T.region Z (TL.run ag [0] Z Z (TL.q Z .u (AH 0 Z Do Z Z) Z (TL.run ag [2,3] Z Z (TL.q Z .u (AH 1 Z Do Z Z) Z (TL.q Z .u (Ex.bEq Z Z Z Z EL) Z ?_)))))))))
      refine TL.run ag [6] Z Z ?_
      rcases jF h with⟨c32,h⟩ | ⟨c32,h⟩
      ·refine TL.nil (X.seq (AN Z c32 (T.seq (T.region Z (TL.run ag [0] Z Z ?_)))))
       obtain rfl:=C8 h
       replace h:=hO18
       clear hO18
       try dsimp only at h
       obtain rfl:=C8 h
       exact TL.nil (X.seq (T.ret (AU (AU (AL (AL (AU (AL (AJ [2] Fc (AK Z) ⟨Z,Z,Z⟩ (by rfl) (.inl Z))))))))))
      ·replace c32:=Dd c32
       exact TL.nil (X.seq (AS Z c32 (T.skip (AZ (AZ (X.seq (T.region Z (TL.q Z .u (Ex.add Z Z (by omega)) Z (TL.run ag [1] Z Z (TL.nil (X.back (m':=m19) [1,1] (by omega) ⟨y14,k15+1,by omega,Z,Z,h⟩ (by rfl) (by rfl))))))))))))
    ·refine TL.nil (X.seq (AN Z (aF (C7 c30)) (T.seq (T.region Z (TL.run ag [0,1] Z Z ?_)))))
     obtain rfl:=C8 h
     replace h:=hO18
     clear hO18
     try dsimp only at h
     obtain rfl:=C8 h
     exact TL.nil (X.seq (T.ret (AL (AU (AL (AL (AU (AL (AJ [2] Fc (AK Z) ⟨Z,Z,Z⟩ (by rfl) (.inl Z))))))))))
def bl (a0:aq) (a1:Int):List ay→Int→Option (Lp Int Int)
 | [],y51=>some (Lp.go y51)
 | x57::xs,y51=>(cv a0 x57.CG a1).bind fun x65=>if x65=0 then (bl a0 a1 xs y51) else some (Lp.ret x65)
def bm (a0:aq) (a1:Int):List au→Int→Option (Lp Int Int)
 | [],y37=>some (Lp.go y37)
 | x43::xs,y37=>(bl a0 a1 x43.CA y37).bind fun e=>match e with | .ret r=>some (Lp.ret r) | .go y68=>(bm a0 a1 xs y68)
def aR (a0:aq) (a1:Int):Option (Int):=((nQ a0.CS).bind fun x12=>if x12=true then (if a0.CS.null=true then some false else ((ng a0.CS.data).bind fun x16=>if x16=true then some false else some true)) else some true).bind fun y10=>if y10=true then some 4 else ((if a0.CZ<(-1) then some true else (if a0.CZ>1 then some true else (if a0.CO<0 then some true else ((j6 a0.CO 4).bind fun x30=>if x30=true then some false else some true)))).bind fun y25=>if y25=true then some 11 else ((fw a0.CC).bind fun x34=>if x34=0 then ((bm a0 a1 a0.CC 0).bind fun e=>match e with | .ret r=>some r | .go y70=>some 0) else some x34))
theorem bO (a0:aq) (A1:Option Addr) (c2:Nat) (a1:Int) (r:Int) (h:aR a0 a1=some r):aA Tryz.prog 30 #[.agg #[.bool a0.CS.null,jS a0.CS.data,jI a0.CZ,jI a0.CO,.slice A1 a0.CC.length c2],jI a1] (RX.of (ar 2 aG) [.slice A1 a0.CC.length c2] a0.CC) (aD) (fun v A' N=>v=jI r∧A'=aD∧N = []):=by
 refine aM Tryz.func30 Z Tryz.ntmps30 Z ?_
 intro F w hX
 unfold aR at h
 refine T.seq (T.region Z (TL.box Z .u Z Z (fun b3=>(TL.run ag [1] Z Z (TL.nil (X.seq (T.seq (T.block (T.seq ?_)))))))))
 obtain⟨y10,h,hk11⟩:=C5 h
 refine BE (fun e Rs=>e = [(1,jI a1),(2,jP b3),(4,jI 0),(11,.bool y10)]∧Rs = [aC b3 50 #[.bool a0.CS.null,jS a0.CS.data,jI a0.CZ,jI a0.CO,.slice A1 a0.CC.length c2],aD]) ?_ ?_
 ·clear hk11
  refine T.region Z (TL.run ag [0] Z Z (TL.q Z .u (AY (us := [.bool a0.CS.null,jS a0.CS.data]) 0 Z DB Dk Z Z Z) Z ?_))
  obtain⟨x12,hx13,h⟩:=C5 h
  refine Bc Z .u (.fn Tryz.call76 Z) (oX a0.CS _ hx13) (fun _ hs=>(AQ _ _)) Z ?_
  rcases jF h with⟨c14,h⟩ | ⟨c14,h⟩
  ·refine TL.run ag [3,4] Z Z ?_
   iterate 2 refine TL.q Z (.g Z Z (ax c14)) (AO ag Z) Z ?_
   refine TL.q Z (.g Z Z (ax c14)) (AH 0 Z Do Z Z) Z ?_
   iterate 2 refine TL.q Z (.g Z Z (ax c14)) (AO ag Z) Z ?_
   rcases jF h with⟨c15,h⟩ | ⟨c15,h⟩
   ·refine AM Z (.gn Z Z (ax c15)) Z ?_
    iterate 4 refine AM Z (.gn Z Z (ax c15)) Z ?_
    refine TL.q Z (.g Z Z (ax c14)) (AR Z (ax c15) Z) Z (TL.q Z .u (AR Z (ax c14) Z) Z (TL.run ag [17] Z Z ?_))
    cases h
    exact TL.nil (A5 [0,0] ⟨Z,Z⟩ (by rfl) (by rfl))
   ·replace c15:=Dd c15
    iterate 2 refine TL.q Z (.g Z Z (aF c15)) (AO ag Z) Z ?_
    refine TL.q Z (.g Z Z (aF c15)) (AH 0 Z Dz Z Z) Z ?_
    obtain⟨x16,hx17,h⟩:=C5 h
    refine Bc Z (.g Z Z (aF c15)) (.fn Tryz.call77 Z) (BA (fun w=>sP a0.CS.data _ hx17 w)) (fun _ _=>AQ _ _) Z (TL.q Z (.g Z Z (aF c15)) (AO ag Z) Z (TL.q Z (.g Z Z (ax c14)) (AP Z (aF c15) Z) Z (TL.q Z .u (AR Z (ax c14) Z) Z (TL.run ag [17] Z Z ?_))))
    rcases jF h with⟨c18,h⟩ | ⟨c18,h⟩
    ·cases h
     exact TL.nil (Bw (d:=11) (v':= .bool false) Z (congrArg Value.bool (ax c18)) (A5 [0,0] ⟨Z,Z⟩ (by rfl) (by rfl)))
    ·replace c18:=Dd c18
     cases h
     exact TL.nil (Bw (d:=11) (v':= .bool true) Z (congrArg Value.bool (aF c18)) (A5 [0,0] ⟨Z,Z⟩ (by rfl) (by rfl)))
  ·replace c14:=Dd c14
   refine TL.run ag [3,4] Z Z ?_
   iterate 5 refine AM Z (.gn Z Z (aF c14)) Z ?_
   iterate 5 refine AM Z (.gu Z Z) Z ?_
   refine AM Z (.gn Z Z (aF c14)) Z (TL.q Z .u (AP Z (aF c14) Z) Z (TL.run ag [17] Z Z ?_))
   cases h
   exact TL.nil (A5 [0,0] ⟨Z,Z⟩ (by rfl) (by rfl))
 ·rintro _ _ ⟨rfl,rfl⟩
  clear h
  have h:=hk11
  clear hk11
  try dsimp only at h
  rcases jF h with⟨c19,h⟩ | ⟨c19,h⟩
  ·refine X.seq (AN Z c19 (T.seq (T.region Z (TL.run ag [0] Z Z ?_))))
   obtain rfl:=C8 h
   exact TL.nil (X.seq (T.ret (AU (AL (AJ [1] Fd (AK Z) ⟨Z,Z,Z⟩ (by rfl) (.inl Z))))))
  ·replace c19:=Dd c19
   refine X.seq (AS Z c19 (T.seq ?_))
   obtain⟨y25,h,hk26⟩:=C5 h
   refine BE (fun e Rs=>e = [(1,jI a1),(2,jP b3),(4,jI 0),(29,.bool y25)]∧Rs = [aC b3 50 #[.bool a0.CS.null,jS a0.CS.data,jI a0.CZ,jI a0.CO,.slice A1 a0.CC.length c2],aD]) ?_ ?_
   ·clear hk26
    refine T.region Z (TL.run ag [0] Z Z (TL.q Z .u (AH 0 Z Dc Z Z) Z ?_))
    rcases jF h with⟨c27,h⟩ | ⟨c27,h⟩
    ·refine TL.run ag [2,3] Z Z ?_
     iterate 3 refine AM Z (.gn Z Z (C6 c27)) Z ?_
     refine TL.q Z .u (AP Z (C6 c27) Z) Z (TL.run ag [8] Z Z ?_)
     iterate 3 refine AM Z (.gn Z Z Z) Z ?_
     refine TL.q Z .u (AP Z Z Z) Z (TL.run ag [13] Z Z ?_)
     iterate 4 refine AM Z (.gn Z Z Z) Z ?_
     refine TL.q Z .u (AP Z Z Z) Z (TL.run ag [19] Z Z ?_)
     cases h
     exact TL.nil (A5 [0,0] ⟨Z,Z⟩ (by rfl) (by rfl))
    ·refine TL.run ag [2,3] Z Z (TL.q Z (.g Z Z (C7 c27)) (AO ag Z) Z (TL.q Z (.g Z Z (C7 c27)) (AH 0 Z Dc Z Z) Z (TL.q Z (.g Z Z (C7 c27)) (AO ag Z) Z (TL.q Z .u (AR Z (C7 c27) Z) Z ?_))))
     rcases jF h with⟨c28,h⟩ | ⟨c28,h⟩
     ·refine TL.run ag [8] Z Z ?_
      iterate 3 refine AM Z (.gn Z Z (C6 c28)) Z ?_
      refine TL.q Z .u (AP Z (C6 c28) Z) Z (TL.run ag [13] Z Z ?_)
      iterate 4 refine AM Z (.gn Z Z Z) Z ?_
      refine TL.q Z .u (AP Z Z Z) Z (TL.run ag [19] Z Z ?_)
      cases h
      exact TL.nil (A5 [0,0] ⟨Z,Z⟩ (by rfl) (by rfl))
     ·refine TL.run ag [8] Z Z (TL.q Z (.g Z Z (C7 c28)) (AO ag Z) Z (TL.q Z (.g Z Z (C7 c28)) (AH 0 Z Dc Z Z) Z (TL.q Z (.g Z Z (C7 c28)) (AO ag Z) Z (TL.q Z .u (AR Z (C7 c28) Z) Z ?_))))
      rcases jF h with⟨c29,h⟩ | ⟨c29,h⟩
      ·refine TL.run ag [13] Z Z ?_
       iterate 4 refine AM Z (.gn Z Z (C6 c29)) Z ?_
       refine TL.q Z .u (AP Z (C6 c29) Z) Z (TL.run ag [19] Z Z ?_)
       cases h
       exact TL.nil (A5 [0,0] ⟨Z,Z⟩ (by rfl) (by rfl))
      ·refine TL.run ag [13] Z Z (TL.q Z (.g Z Z (C7 c29)) (AO ag Z) Z (TL.q Z (.g Z Z (C7 c29)) (AH 0 Z Dc Z Z) Z ?_))
       obtain⟨x30,hx31,h⟩:=C5 h
       refine Bc Z (.g Z Z (C7 c29)) (.fn Tryz.call78 Z) (BA (fun w=>eH a0.CO 4 _ hx31 w)) (fun _ _=>AQ _ _) Z (TL.q Z (.g Z Z (C7 c29)) (AO ag Z) Z (TL.q Z .u (AR Z (C7 c29) Z) Z (TL.run ag [19] Z Z ?_)))
       rcases jF h with⟨c32,h⟩ | ⟨c32,h⟩
       ·cases h
        exact TL.nil (Bw (d:=29) (v':= .bool false) Z (congrArg Value.bool (ax c32)) (A5 [0,0] ⟨Z,Z⟩ (by rfl) (by rfl)))
       ·replace c32:=Dd c32
        cases h
        exact TL.nil (Bw (d:=29) (v':= .bool true) Z (congrArg Value.bool (aF c32)) (A5 [0,0] ⟨Z,Z⟩ (by rfl) (by rfl)))
   ·rintro _ _ ⟨rfl,rfl⟩
    clear h
    have h:=hk26
    clear hk26
    try dsimp only at h
    rcases jF h with⟨c33,h⟩ | ⟨c33,h⟩
    ·refine X.seq (AN Z c33 (T.seq (T.region Z (TL.run ag [0] Z Z ?_))))
     obtain rfl:=C8 h
     exact TL.nil (X.seq (T.ret (AU (AL (AJ [1] Fd (AK Z) ⟨Z,Z,Z⟩ (by rfl) (.inl Z))))))
    ·replace c33:=Dd c33
     refine X.seq (AS Z c33 (T.skip (AZ (X.seq (T.seq (T.seq (T.region Z (TL.run ag [0] Z Z (TL.q Z .u (AH 0 Z Ep Z Z) Z ?_)))))))))
     obtain⟨x34,hx35,h⟩:=C5 h
     refine Bc Z .u (.fn Tryz.call79 Z) (md a0.CC _ _ _ hx35) (fun _ hs=>(Ba hs hX)) Z (TL.run ag [3] Z Z (TL.nil (X.seq (T.seq (T.region Z (TL.run ag [0,1] Z Z ?_))))))
     rcases jF h with⟨c36,h⟩ | ⟨c36,h⟩
     ·refine TL.nil (X.seq (AS Z (ax (C6 c36)) (T.skip (X.seq (T.seq (T.seq (T.region Z (TL.run ag [0] Z Z (TL.q Z .u (AH 0 Z Ep Z Z) Z (TL.q Z .u (AW Z DC) Z (TL.run ag [3] Z Z (TL.nil (X.seq (T.block ?_))))))))))))))
      obtain⟨E39,hE40,hO41⟩:=C5 h
      have hk45len:=Bm hX
      refine Bj (fun m e Rs=> ∃ (y37:Int) (k38:Nat),k38+m=a0.CC.length∧e = [(1,jI a1),(2,jP b3),(4,jI y37),(56,.slice A1 a0.CC.length c2),(57,jI (a0.CC.length:Int)),(58,jI (k38:Int))]∧Rs = [aC b3 50 #[.bool a0.CS.null,jS a0.CS.data,jI a0.CZ,jI a0.CO,.slice A1 a0.CC.length c2],aD]∧bm a0 a1 (a0.CC.drop k38) y37=some E39) (a0.CC.length) [0,0] ⟨0,0,by simp,Z,Z,by rw[List.drop_zero]; exact hE40⟩ (by rfl) (by rfl) ?_
      rintro m42 _ _ ⟨y37,k38,hk45,rfl,rfl,hl44⟩
      clear hE40 h
      cases m42 with
      | zero =>
       have h:=hl44
       clear hl44
       rw[List.drop_of_length_le (by omega),bm] at h
       have hk45ge: ¬ ((k38:Int)<(a0.CC.length:Int)):=by omega
       refine T.seq (T.region Z (TL.run ag [0] Z Z (TL.nil (X.seq (T.seq (AS Z (C7 hk45ge) ?_))))))
       obtain rfl:=C8 h
       replace h:=hO41
       clear hO41
       try dsimp only at h
       refine T.exit (AV (AV (Bh (X.seq (T.seq (T.region Z (TL.run ag [0] Z Z ?_)))))))
       obtain rfl:=C8 h
       exact TL.nil (X.seq (T.ret (AJ [1] Fd (AK Z) ⟨Z,Z,Z⟩ (by rfl) (.inl Z))))
      | succ m42 =>
       have h:=hl44
       clear hl44
       obtain⟨x43,hxx43⟩: ∃ x,a0.CC[k38]? = some x:=⟨_,List.getElem?_eq_getElem (by omega)⟩
       rw[aX hxx43,bm] at h
       have hk45lt:(k38:Int)<(a0.CC.length:Int):=by omega
       refine T.seq (T.region Z (TL.run ag [0] Z Z (TL.nil (X.seq (T.seq (AN Z (C6 hk45lt) ?_))))))
       obtain⟨gz46,oz46,rfl,z46cs,z46cl,z46cc,z46nf,z46r⟩:=Bb (by decide) hX hxx43
       obtain⟨z46S,z46r,z46rr⟩:=z46r
       obtain⟨A47,c48,rfl,z46s0⟩:=z46r
       have hX49:(RX.of (ar 2 aS) [.slice A47 x43.CA.length c48] x43.CA).reads w F:=⟨z46S,z46s0,z46rr⟩
       refine T.skip (X.seq (T.seq (T.block (T.seq (T.region Z ?_)))))
       refine TL.q Z .u (AX (k:=k38) Z Z Z DC DL (Da hxx43).1) Z ?_
       refine TL.q Z .u (Bn (us := [jS x43.CM,.slice A47 x43.CA.length c48]) 0 Z EK DL z46nf z46cc Z Z Z) Z (TL.alloc Z .u Tryz.zeroValue81 Z (fun b50=>(A9 (cs':= #[jS x43.CM,.slice A47 x43.CA.length c48]) Z .u Z Z DL Z Z Z Z (TL.nil (X.seq (T.seq (T.region Z (TL.run ag [0] Z Z (TL.q Z .u (AH 0 Z D9 Z Z) Z (TL.q Z .u (AW Z DD) Z (TL.run ag [3] Z Z ?_)))))))))))
       refine TL.nil (X.seq (T.block ?_))
       obtain⟨E53,hE54,hO55⟩:=C5 h
       have hk59len:=Bm hX49
       refine Bj (fun m e Rs=> ∃ (y51:Int) (k52:Nat),k52+m=x43.CA.length∧e = [(1,jI a1),(2,jP b3),(4,jI y51),(56,.slice (some ⟨gz46,oz46,none⟩) a0.CC.length c2),(57,jI (a0.CC.length:Int)),(58,jI (k38:Int)),(63,.slice A47 x43.CA.length c48),(64,jI (x43.CA.length:Int)),(65,jI (k52:Int))]∧Rs = [aC b50 81 #[jS x43.CM,.slice A47 x43.CA.length c48],aC b3 50 #[.bool a0.CS.null,jS a0.CS.data,jI a0.CZ,jI a0.CO,.slice (some ⟨gz46,oz46,none⟩) a0.CC.length c2],aD]∧bl a0 a1 (x43.CA.drop k52) y51=some E53) (x43.CA.length) [0,0,0] ⟨y37,0,by simp,Z,Z,by rw[List.drop_zero]; exact hE54⟩ (by rfl) (by rfl) ?_
       rintro m56 _ _ ⟨y51,k52,hk59,rfl,rfl,hl58⟩
       clear hE54 h
       cases m56 with
       | zero =>
        have h:=hl58
        clear hl58
        rw[List.drop_of_length_le (by omega),bl] at h
        have hk59ge: ¬ ((k52:Int)<(x43.CA.length:Int)):=by omega
        refine T.seq (T.region Z (TL.run ag [0] Z Z (TL.nil (X.seq (T.seq (AS Z (C7 hk59ge) ?_))))))
        obtain rfl:=C8 h
        replace h:=hO55
        clear hO55
        try dsimp only at h
        exact T.exit (AV (AV (Bh (AZ (X.seq (T.region Z (TL.q Z .u (Ex.add Z Z (by omega)) Z (TL.run ag [1] Z Z (TL.nil (X.back (m':=m42) [1,1] (by omega) ⟨y51,k38+1,by omega,Z,Z,h⟩ (by rfl) (by rfl)))))))))))
       | succ m56 =>
        have h:=hl58
        clear hl58
        obtain⟨x57,hxx57⟩: ∃ x,x43.CA[k52]? = some x:=⟨_,List.getElem?_eq_getElem (by omega)⟩
        rw[aX hxx57,bl] at h
        have hk59lt:(k52:Int)<(x43.CA.length:Int):=by omega
        refine T.seq (T.region Z (TL.run ag [0] Z Z (TL.nil (X.seq (T.seq (AN Z (C6 hk59lt) ?_))))))
        obtain⟨gz60,oz60,rfl,z60cs,z60cl,z60cc,z60nf,z60r⟩:=Bb (by decide) hX49 hxx57
        obtain⟨z60S,z60r,z60rr⟩:=z60r
        obtain⟨A61,c62,rfl,z60s0⟩:=z60r
        have hX63:(RX.of (ar 12 bT) [.slice A61 x57.CG.length c62] x57.CG).reads w F:=⟨z60S,z60s0,z60rr⟩
        refine T.skip (X.seq (T.seq (T.block (T.seq (T.region Z ?_)))))
        refine TL.q Z .u (AX (k:=k52) Z Z Z DD DF (Da hxx57).1) Z ?_
        refine TL.q Z .u (Bn (us := [jI x57.CX,.slice A61 x57.CG.length c62]) 0 Z EB DF z60nf z60cc Z Z Z) Z (TL.alloc Z .u Tryz.zeroValue84 Z (fun b64=>(A9 (cs':= #[jI x57.CX,.slice A61 x57.CG.length c62]) Z .u Z Z DF Z Z Z Z (TL.nil (X.seq (T.seq (T.region Z (TL.q Z .u (AY (us := [.bool a0.CS.null,jS a0.CS.data,jI a0.CZ,jI a0.CO,.slice (some ⟨gz46,oz46,none⟩) a0.CC.length c2]) 2 Z DX DI Z Z Z) Z (TL.run ag [1] Z Z (TL.q Z .u (AH 0 Z Ea Z Z) Z ?_))))))))))
        obtain⟨x65,hx66,h⟩:=C5 h
        refine TL.run ag [3] Z Z (Bc Z .u (.fn Tryz.call80 Z) (ip a0 _ _ x57.CG _ _ a1 _ hx66) (fun _ hs=>(BJ (Ba hs hX) (Ba hs hX63))) Z (TL.run ag [5] Z Z (TL.nil (X.seq (T.seq (T.region Z (TL.run ag [0,1] Z Z ?_)))))))
        rcases jF h with⟨c67,h⟩ | ⟨c67,h⟩
        ·exact TL.nil (X.seq (AS Z (ax (C6 c67)) (T.skip (AZ (X.seq (T.region Z (TL.q Z .u (Ex.add Z Z (by omega)) Z (TL.run ag [1] Z Z (TL.nil (X.back (m':=m56) [1,1,1] (by omega) ⟨y51,k52+1,by omega,Z,Z,h⟩ (by rfl) (by rfl)))))))))))
        ·refine TL.nil (X.seq (AN Z (aF (C7 c67)) (T.seq (T.region Z (TL.run ag [0,1] Z Z ?_)))))
         obtain rfl:=C8 h
         replace h:=hO55
         clear hO55
         try dsimp only at h
         obtain rfl:=C8 h
         replace h:=hO41
         clear hO41
         try dsimp only at h
         obtain rfl:=C8 h
         exact TL.nil (X.seq (T.ret (AU (AL (AL (AU (AU (AL (AL (AU (AL (AJ [3] Fd (AK Z) ⟨Z,Z,Z⟩ (by rfl) (.inl Z)))))))))))))
     ·refine TL.nil (X.seq (AN Z (aF (C7 c36)) (T.seq (T.region Z (TL.run ag [0,1] Z Z ?_)))))
      obtain rfl:=C8 h
      exact TL.nil (X.seq (T.ret (AL (AJ [1] Fd (AK Z) ⟨Z,Z,Z⟩ (by rfl) (.inl Z)))))
def aY:List ay→(List UInt8×Int)→Option (List UInt8×Int)
 | [],st78=>some st78
 | x83::xs,st78=>(ie x83.CG).bind fun (x91,x92)=>(if x92=0 then some st78 else ((jH st78 x92).bind fun st100=>some st100)).bind fun st97=>(ff st97 x83.CX 4).bind fun st102=>(gOf x91).bind fun x104=>(iO st102 x104 4).bind fun st106=>aY xs st106
def aZ:List au→(List UInt8×Int)→Option (List UInt8×Int)
 | [],st16=>some st16
 | x21::xs,st16=>((lj st16 x21.CM).bind fun st73=>(ff st73 (x21.CA.length:Int) 4).bind fun st75=>(aY x21.CA st75).bind fun st109=>some st109).bind fun st66=>aZ xs st66
def bu (st:List UInt8×Int) (a0:aq) (a2:Int):Option (List UInt8×Int):=(aR a0 a2).bind fun x4=>if x4=0 then ((iO st a0.CS 2).bind fun st7=>(ff st7 a0.CZ 2).bind fun st9=>(ff st9 a0.CO 4).bind fun st11=>(ff st11 (a0.CC.length:Int) 4).bind fun st13=>(aZ a0.CC st13).bind fun st111=>some st111) else ((jH st x4).bind fun st112=>some st112)
theorem fa (g:Nat) (st:List UInt8×Int) (a0:aq) (A1:Option Addr) (c2:Nat) (a2:Int) (r:List UInt8×Int) (h:bu st a0 a2=some r):aA Tryz.prog 27 #[.agg #[.bool a0.CS.null,jS a0.CS.data,jI a0.CZ,jI a0.CO,.slice A1 a0.CC.length c2],jP g,jI a2] (RX.of (ar 2 aG) [.slice A1 a0.CC.length c2] a0.CC) (ba g st) (fun v A' N=>v= .tuple #[]∧A'=ba g r∧N = []):=by
 refine aM Tryz.func27 Z Tryz.ntmps27 Z ?_
 intro F w hX
 unfold bu at h
 refine T.seq (T.region Z (TL.box Z .u Z Z (fun b3=>(TL.nil (X.seq (T.seq (T.seq (T.region Z (TL.q Z .u (AY (us := [.bool a0.CS.null,jS a0.CS.data,jI a0.CZ,jI a0.CO,.slice A1 a0.CC.length c2]) 0 Z DX DI Z Z Z) Z ?_)))))))))
 obtain⟨x4,hx5,h⟩:=C5 h
 refine TL.run ag [1] Z Z (Bc Z .u (.fn Tryz.call30 Z) (bO a0 _ _ a2 _ hx5) (fun _ hs=>(Ba hs hX)) Z (TL.run ag [3] Z Z (TL.nil (X.seq (T.seq (T.region Z (TL.run ag [0,1] Z Z ?_)))))))
 rcases jF h with⟨c6,h⟩ | ⟨c6,h⟩
 ·refine TL.nil (X.seq (AS Z (ax (C6 c6)) (T.skip (X.seq (T.seq (T.region Z (TL.run ag [0,1] Z Z (TL.q Z .u (AY (us := [.bool a0.CS.null,jS a0.CS.data]) 0 Z DB Dk Z Z Z) Z ?_))))))))
  obtain⟨st7,hx8,h⟩:=C5 h
  refine BC Z .u (.fn Tryz.call70 Z) (li g st a0.CS 2 _ hx8) (fun _ hs=>(Src.triv _)) Z (TL.nil (X.seq (T.seq (T.region Z (TL.run ag [0,1] Z Z (TL.q Z .u (AH 0 Z Dc Z Z) Z ?_))))))
  obtain⟨st9,hx10,h⟩:=C5 h
  refine BC Z .u (.fn Tryz.call71 Z) (bL g st7 a0.CZ 2 _ hx10) (fun _ hs=>(Src.triv _)) Z (TL.nil (X.seq (T.seq (T.region Z (TL.run ag [0,1] Z Z (TL.q Z .u (AH 0 Z Dc Z Z) Z ?_))))))
  obtain⟨st11,hx12,h⟩:=C5 h
  refine BC Z .u (.fn Tryz.call71 Z) (bL g st9 a0.CO 4 _ hx12) (fun _ hs=>(Src.triv _)) Z (TL.nil (X.seq (T.seq (T.region Z (TL.run ag [0,1] Z Z (TL.q Z .u (AH 0 Z Ep Z Z) Z (TL.q Z .u (AW Z DC) Z ?_)))))))
  obtain⟨st13,hx14,h⟩:=C5 h
  refine BC Z .u (.fn Tryz.call71 Z) (bL g st11 (a0.CC.length:Int) 4 _ hx14) (fun _ hs=>(Src.triv _)) Z (TL.nil (X.seq (T.seq (T.region Z (TL.run ag [0] Z Z (TL.q Z .u (AH 0 Z Ep Z Z) Z (TL.q Z .u (AW Z DC) Z (TL.run ag [3] Z Z (TL.nil (X.seq (T.block ?_)))))))))))
  obtain⟨E17,hE18,hO19⟩:=C5 h
  have hk23len:=Bm hX
  refine Bj (fun m e Rs=> ∃ (k15:Nat) (st16:List UInt8×Int),k15+m=a0.CC.length∧e = [(1,jP g),(39,.slice A1 a0.CC.length c2),(40,jI (a0.CC.length:Int)),(41,jI (k15:Int))]∧Rs = [aC b3 50 #[.bool a0.CS.null,jS a0.CS.data,jI a0.CZ,jI a0.CO,.slice A1 a0.CC.length c2],ba g st16]∧aZ (a0.CC.drop k15) st16=some E17) (a0.CC.length) [0,0] ⟨0,st13,by simp,Z,Z,by rw[List.drop_zero]; exact hE18⟩ (by rfl) (by rfl) ?_
  rintro m20 _ _ ⟨k15,st16,hk23,rfl,rfl,hl22⟩
  clear hE18 h
  cases m20 with
  | zero =>
   have h:=hl22
   clear hl22
   rw[List.drop_of_length_le (by omega),aZ] at h
   have hk23ge: ¬ ((k15:Int)<(a0.CC.length:Int)):=by omega
   refine T.seq (T.region Z (TL.run ag [0] Z Z (TL.nil (X.seq (T.seq (AS Z (C7 hk23ge) ?_))))))
   obtain rfl:=C8 h
   replace h:=hO19
   clear hO19
   try dsimp only at h
   obtain rfl:=C8 h
   exact T.exit (AV (AV (Bh (B5 [1] Tryz.results27 ⟨Z,Z,Z⟩ (by rfl) (.inr Z)))))
  | succ m20 =>
   have h:=hl22
   clear hl22
   obtain⟨x21,hxx21⟩: ∃ x,a0.CC[k15]? = some x:=⟨_,List.getElem?_eq_getElem (by omega)⟩
   rw[aX hxx21,aZ] at h
   have hk23lt:(k15:Int)<(a0.CC.length:Int):=by omega
   refine T.seq (T.region Z (TL.run ag [0] Z Z (TL.nil (X.seq (T.seq (AN Z (C6 hk23lt) (T.skip (X.seq (T.seq ?_)))))))))
   obtain⟨st66,h,hk67⟩:=C5 h
   refine BE (fun e Rs=>e = [(1,jP g),(39,.slice A1 a0.CC.length c2),(40,jI (a0.CC.length:Int)),(41,jI (k15:Int))]∧Rs = [aC b3 50 #[.bool a0.CS.null,jS a0.CS.data,jI a0.CZ,jI a0.CO,.slice A1 a0.CC.length c2],ba g st66]) ?_ ?_
   ·clear hk67
    obtain⟨gz68,oz68,rfl,z68cs,z68cl,z68cc,z68nf,z68r⟩:=Bb (by decide) hX hxx21
    obtain⟨z68S,z68r,z68rr⟩:=z68r
    obtain⟨A69,c70,rfl,z68s0⟩:=z68r
    have hX71:(RX.of (ar 2 aS) [.slice A69 x21.CA.length c70] x21.CA).reads w F:=⟨z68S,z68s0,z68rr⟩
    refine T.block (T.seq (T.region Z ?_))
    refine TL.q Z .u (AX (k:=k15) Z Z Z DC DL (Da hxx21).1) Z ?_
    refine TL.q Z .u (Bn (us := [jS x21.CM,.slice A69 x21.CA.length c70]) 0 Z EK DL z68nf z68cc Z Z Z) Z (TL.alloc Z .u Tryz.zeroValue81 Z (fun b72=>(A9 (cs':= #[jS x21.CM,.slice A69 x21.CA.length c70]) Z .u Z Z DL Z Z Z Z (TL.nil (X.seq (T.seq (T.region Z (TL.run ag [0,1] Z Z (TL.q Z .u (AH 0 Z Dz Z Z) Z ?_)))))))))
    obtain⟨st73,hx74,h⟩:=C5 h
    refine BU Z .u (.fn Tryz.call72 Z) (rr g st16 x21.CM _ hx74) (fun _ hs=>(Src.triv _)) Z (TL.nil (X.seq (T.seq (T.region Z (TL.run ag [0,1] Z Z (TL.q Z .u (AH 0 Z D9 Z Z) Z (TL.q Z .u (AW Z DD) Z ?_)))))))
    obtain⟨st75,hx76,h⟩:=C5 h
    refine BU Z .u (.fn Tryz.call71 Z) (bL g st73 (x21.CA.length:Int) 4 _ hx76) (fun _ hs=>(Src.triv _)) Z (TL.nil (X.seq (T.seq (T.region Z (TL.run ag [0] Z Z (TL.q Z .u (AH 0 Z D9 Z Z) Z (TL.q Z .u (AW Z DD) Z (TL.run ag [3] Z Z (TL.nil (X.seq (T.block ?_)))))))))))
    obtain⟨E79,hE80,hO81⟩:=C5 h
    have hk85len:=Bm hX71
    refine Bj (fun m e Rs=> ∃ (k77:Nat) (st78:List UInt8×Int),k77+m=x21.CA.length∧e = [(1,jP g),(39,.slice (some ⟨gz68,oz68,none⟩) a0.CC.length c2),(40,jI (a0.CC.length:Int)),(41,jI (k15:Int)),(55,.slice A69 x21.CA.length c70),(56,jI (x21.CA.length:Int)),(57,jI (k77:Int))]∧Rs = [aC b72 81 #[jS x21.CM,.slice A69 x21.CA.length c70],aC b3 50 #[.bool a0.CS.null,jS a0.CS.data,jI a0.CZ,jI a0.CO,.slice (some ⟨gz68,oz68,none⟩) a0.CC.length c2],ba g st78]∧aY (x21.CA.drop k77) st78=some E79) (x21.CA.length) [0,0,0] ⟨0,st75,by simp,Z,Z,by rw[List.drop_zero]; exact hE80⟩ (by rfl) (by rfl) ?_
    rintro m82 _ _ ⟨k77,st78,hk85,rfl,rfl,hl84⟩
    clear hE80 h
    cases m82 with
    | zero =>
     have h:=hl84
     clear hl84
     rw[List.drop_of_length_le (by omega),aY] at h
     have hk85ge: ¬ ((k77:Int)<(x21.CA.length:Int)):=by omega
     refine T.seq (T.region Z (TL.run ag [0] Z Z (TL.nil (X.seq (T.seq (AS Z (C7 hk85ge) ?_))))))
     obtain rfl:=C8 h
     replace h:=hO81
     clear hO81
     try dsimp only at h
     cases h
     exact T.exit (AV (AV (Bh (AZ (A5 [1,1] ⟨Z,Z⟩ (by rfl) (by rfl))))))
    | succ m82 =>
     have h:=hl84
     clear hl84
     obtain⟨x83,hxx83⟩: ∃ x,x21.CA[k77]? = some x:=⟨_,List.getElem?_eq_getElem (by omega)⟩
     rw[aX hxx83,aY] at h
     have hk85lt:(k77:Int)<(x21.CA.length:Int):=by omega
     refine T.seq (T.region Z (TL.run ag [0] Z Z (TL.nil (X.seq (T.seq (AN Z (C6 hk85lt) ?_))))))
     obtain⟨gz86,oz86,rfl,z86cs,z86cl,z86cc,z86nf,z86r⟩:=Bb (by decide) hX71 hxx83
     obtain⟨z86S,z86r,z86rr⟩:=z86r
     obtain⟨A87,c88,rfl,z86s0⟩:=z86r
     have hX89:(RX.of (ar 12 bT) [.slice A87 x83.CG.length c88] x83.CG).reads w F:=⟨z86S,z86s0,z86rr⟩
     refine T.skip (X.seq (T.seq (T.block (T.seq (T.region Z ?_)))))
     refine TL.q Z .u (AX (k:=k77) Z Z Z DD DF (Da hxx83).1) Z ?_
     refine TL.q Z .u (Bn (us := [jI x83.CX,.slice A87 x83.CG.length c88]) 0 Z EB DF z86nf z86cc Z Z Z) Z (TL.alloc Z .u Tryz.zeroValue84 Z (fun b90=>(A9 (cs':= #[jI x83.CX,.slice A87 x83.CG.length c88]) Z .u Z Z DF Z Z Z Z (TL.nil (X.seq (T.seq (T.region Z (TL.run ag [0] Z Z (TL.q Z .u (AH 0 Z Ea Z Z) Z ?_)))))))))
     obtain⟨⟨x91,x92⟩,hx93,h⟩:=C5 h
     try dsimp only at h
     refine Bc Z .u (.fn Tryz.call36 Z) (n7 x83.CG _ _ _ hx93) (fun _ hs=>(Ba hs hX89)) Z (TL.run ag [3,4,5,6,7] Z Z (TL.nil (X.seq (T.seq (T.seq (T.region Z (TL.run ag [0,1] Z Z (TL.nil (X.seq ?_)))))))))
     obtain⟨st97,h,hk98⟩:=C5 h
     refine BE (fun e Rs=>e = [(1,jP g),(10,jP b90),(11,jS x91),(39,.slice (some ⟨gz68,oz68,none⟩) a0.CC.length c2),(40,jI (a0.CC.length:Int)),(41,jI (k15:Int)),(55,.slice (some ⟨gz86,oz86,none⟩) x21.CA.length c70),(56,jI (x21.CA.length:Int)),(57,jI (k77:Int))]∧Rs = [aC b90 84 #[jI x83.CX,.slice A87 x83.CG.length c88],aC b72 81 #[jS x21.CM,.slice (some ⟨gz86,oz86,none⟩) x21.CA.length c70],aC b3 50 #[.bool a0.CS.null,jS a0.CS.data,jI a0.CZ,jI a0.CO,.slice (some ⟨gz68,oz68,none⟩) a0.CC.length c2],ba g st97]) ?_ ?_
     ·clear hk98
      rcases jF h with⟨c99,h⟩ | ⟨c99,h⟩
      ·refine AS Z (ax (C6 c99)) ?_
       cases h
       exact T.skip (A5 [0,0,0,0] ⟨Z,Z⟩ (by rfl) (by rfl))
      ·refine AN Z (aF (C7 c99)) (T.region Z ?_)
       obtain⟨st100,hx101,h⟩:=C5 h
       refine TL.run ag [0,1] Z Z (Cg Z .u (.fn Tryz.call69 Z) (g9 g st78 x92 _ hx101) (fun _ hs=>(Src.triv _)) Z ?_)
       cases h
       exact TL.nil (A5 [0,0,0,0] ⟨Z,Z⟩ (by rfl) (by rfl))
     ·rintro _ _ ⟨rfl,rfl⟩
      clear h
      have h:=hk98
      clear hk98
      try dsimp only at h
      refine X.seq (T.seq (T.region Z (TL.run ag [0,1] Z Z (TL.q Z .u (AH 0 Z Dc Z Z) Z ?_))))
      obtain⟨st102,hx103,h⟩:=C5 h
      refine Cg Z .u (.fn Tryz.call71 Z) (bL g st97 x83.CX 4 _ hx103) (fun _ hs=>(Src.triv _)) Z (TL.nil (X.seq (T.region Z ?_)))
      obtain⟨x104,hx105,h⟩:=C5 h
      refine TL.run ag [0,1] Z Z (Bc Z .u (.fn Tryz.call73 Z) (yH x91 _ hx105) (fun _ hs=>(AQ _ _)) Z ?_)
      obtain⟨st106,hx107,h⟩:=C5 h
      exact Cg Z .u (.fn Tryz.call70 Z) (li g st102 x104 4 _ hx107) (fun _ hs=>(Src.triv _)) Z (TL.nil (AZ (X.seq (T.region Z (TL.q Z .u (Ex.add Z Z (by omega)) Z (TL.run ag [1] Z Z (TL.nil (X.back (m':=m82) [1,1,1] (by omega) ⟨k77+1,st106,by omega,Z,Z,h⟩ (by rfl) (by rfl)))))))))
   ·rintro _ _ ⟨rfl,rfl⟩
    clear h
    have h:=hk67
    clear hk67
    try dsimp only at h
    exact X.seq (T.region Z (TL.q Z .u (Ex.add Z Z (by omega)) Z (TL.run ag [1] Z Z (TL.nil (X.back (m':=m20) [0,0] (by omega) ⟨k15+1,st66,by omega,Z,Z,h⟩ (by rfl) (by rfl))))))
 ·refine TL.nil (X.seq (AN Z (aF (C7 c6)) (T.seq (T.region Z ?_))))
  obtain⟨st112,hx113,h⟩:=C5 h
  refine TL.run ag [0,1] Z Z (BC Z .u (.fn Tryz.call69 Z) (g9 g st x4 _ hx113) (fun _ hs=>(Src.triv _)) Z ?_)
  obtain rfl:=C8 h
  exact TL.nil (X.seq (T.ret (AL (B5 [1] Tryz.results27 ⟨Z,Z,Z⟩ (by rfl) (.inl Z)))))
def bw:Nat→List Bat→I→I→Option (List Bat×I×I)
 | 0,_,_,_=>none
 | m29+1,y21,st24,st25=>((iY st25).bind fun (x44,st45)=>if x44=0 then ((pW st24).bind fun (x48,st49)=>if x48>0 then some (true,st49,st45) else some (false,st49,st45)) else some (false,st24,st45)).bind fun (y40,st41,st42)=>if y40=true then ((fC st41).bind fun (x53,st56)=>if (y21.length+1)*96≤140737488355328 then ((iY st56).bind fun (x62,st63)=>(if x62=0 then some st42 else ((bD st42 x62).bind fun st71=>some st71)).bind fun st68=>bw m29 (y21 ++ [x53]) st63 st68) else none) else some (y21,st41,st42)
def eA (st:I)  : Option (ay×I):=(fM st 4).bind fun (x2,st3)=>(kw st3 4).bind fun (x6,st7)=>(if x6.null=true then ((bD st7 4).bind fun st16=>some st16) else some st7).bind fun st13=>(rp x6.data).bind fun st18=>(bw (((st18.rest.length:Int)+(st13.rest.length:Int)+1).toNat+1) [] st18 st13).bind fun (y73,st76,st77)=>some ((⟨x2,y73⟩:ay),st77)
theorem iF (g:Nat) (st:I)  (r:ay×I) (h:eA st  = some r):aA Tryz.prog 60 #[jP g] .triv (InR g st) (fun v A' N=> ∃ (A78:Option Addr) (c79:Nat),v= .agg #[jI r.1.CX,.slice A78 r.1.CG.length c79]∧A'=InR g r.2∧N = [RdR (ar 12 bT) [.slice A78 r.1.CG.length c79] r.1.CG]):=by
 refine aM Tryz.func60 Z Tryz.ntmps60 Z ?_
 intro F w hX
 unfold eA at h
 refine T.seq (T.region Z (TL.alloc Z .u Tryz.zeroValue84 Z (fun b1=>(TL.nil (X.seq (T.seq (T.region Z ?_)))))))
 obtain⟨⟨x2,st3⟩,hx4,h⟩:=C5 h
 try dsimp only at h
 refine TL.run ag [0] Z Z (BC Z .u (.fn Tryz.call57 Z) (bR g st 4 _ hx4) (fun _ hs=>(Src.triv _)) Z ?_)
 refine TL.q Z .u (Bg (cells:= #[jI x2,.slice none 0 0]) qO Z (by kernel_rfl)) Z ?_
 refine TL.alloc Z .u Tryz.zeroValue84 Z (fun b5=>(A9 (cs':= #[jI x2,.slice none 0 0]) Z .u Z Z DF Z Z Z Z (TL.nil (X.seq (T.seq (T.region Z ?_))))))
 obtain⟨⟨x6,st7⟩,hx8,h⟩:=C5 h
 try dsimp only at h
 refine TL.run ag [0] Z Z (BU Z .u (.fn Tryz.call56 Z) (oY g st3 4 _ hx8) (fun _ hs=>(Src.triv _)) Z (TL.alloc Z .u Tryz.zeroValue35 Z (fun b9=>(A9 (cs':= #[.bool x6.null,jS x6.data]) Z .u Z Z Dk Z Z Z Z (TL.nil (X.seq (T.seq (T.seq (T.region Z (TL.run ag [0] Z Z (TL.q Z .u (AH 0 Z Do Z Z) Z (TL.nil (X.seq ?_)))))))))))))
 obtain⟨st13,h,hk14⟩:=C5 h
 refine BE (fun e Rs=>e = [(0,jP g),(2,jP b1),(3,jP b5),(4,jP b9)]∧Rs = [aC b9 35 #[.bool x6.null,jS x6.data],aC b5 84 #[jI x2,.slice none 0 0],aC b1 84 #[jI 0,.slice none 0 0],InR g st13]) ?_ ?_
 ·clear hk14
  rcases jF h with⟨c15,h⟩ | ⟨c15,h⟩
  ·refine AN Z c15 (T.region Z ?_)
   obtain⟨st16,hx17,h⟩:=C5 h
   refine TL.run ag [0] Z Z (Cg Z .u (.fn Tryz.call61 Z) (bi g st7 4 _ hx17) (fun _ hs=>(Src.triv _)) Z ?_)
   cases h
   exact TL.nil (A5 [0,0,0,0] ⟨Z,Z⟩ (by rfl) (by rfl))
  ·replace c15:=Dd c15
   refine AS Z c15 ?_
   cases h
   exact T.skip (A5 [0,0,0,0] ⟨Z,Z⟩ (by rfl) (by rfl))
 ·rintro _ _ ⟨rfl,rfl⟩
  clear h
  have h:=hk14
  clear hk14
  try dsimp only at h
  refine X.seq (T.seq (T.region Z (TL.run ag [0] Z Z (TL.q Z .u (AH 0 Z Dz Z Z) Z ?_))))
  obtain⟨st18,hx19,h⟩:=C5 h
  refine B0 Z .u (.fn Tryz.call18 Z) (iN x6.data _ hx19) (fun _ hs=>(AQ _ _)) Z ?_
  rintro _ _ _ ⟨b20,rfl,rfl,rfl⟩
  refine Bp [0,0,0,0,0] Z (TL.run ag [3] Z Z (TL.nil (X.seq (T.seq (T.block (BX 27 12 bT ?_))))))
  obtain⟨E26,hE27,hO28⟩:=C5 h
  refine Bj (fun m e Rs=> ∃ (y21:List Bat) (A22:Option Addr) (c23:Nat) (st24:I) (st25:I),e = [(0,jP g),(2,jP b1),(3,jP b5),(5,jP b20)]∧Rs = [bp 27 12 bT (.slice A22 y21.length c23) y21,InR b20 st24,aC b9 35 #[.bool x6.null,jS x6.data],aC b5 84 #[jI x2,.slice A22 y21.length c23],aC b1 84 #[jI 0,.slice none 0 0],InR g st25]∧bw m y21 st24 st25=some E26) (((st18.rest.length:Int)+(st13.rest.length:Int)+1).toNat+1) [0,0,0,0,0,0] ⟨[],none,0,st18,st13,Z,Z,by exact hE27⟩ (by rfl) (by rfl) ?_
  rintro m29 _ _ ⟨y21,A22,c23,st24,st25,rfl,rfl,hl31⟩
  clear hE27 h
  cases m29 with
  | zero =>
   rw[bw] at hl31
   cases hl31
  | succ m29 =>
   have h:=hl31
   clear hl31
   rw[bw] at h
   refine T.seq (T.seq ?_)
   obtain⟨⟨y40,st41,st42⟩,h,hk43⟩:=C5 h
   refine BE (fun e Rs=>e = [(0,jP g),(2,jP b1),(3,jP b5),(5,jP b20),(26,.bool y40)]∧Rs = [bp 27 12 bT (.slice A22 y21.length c23) y21,InR b20 st41,aC b9 35 #[.bool x6.null,jS x6.data],aC b5 84 #[jI x2,.slice A22 y21.length c23],aC b1 84 #[jI 0,.slice none 0 0],InR g st42]) ?_ ?_
   ·clear hk43
    refine T.region Z ?_
    obtain⟨⟨x44,st45⟩,hx46,h⟩:=C5 h
    try dsimp only at h
    refine TL.run ag [0] Z Z (Ck Z .u (.fn Tryz.call21 Z) (dH g st25 _ hx46) (fun _ hs=>(Src.triv _)) Z ?_)
    rcases jF h with⟨c47,h⟩ | ⟨c47,h⟩
    ·refine TL.run ag [2,3] Z Z (TL.q Z (.g Z Z (C6 c47)) (AO ag Z) Z ?_)
     obtain⟨⟨x48,st49⟩,hx50,h⟩:=C5 h
     try dsimp only at h
     refine BC Z (.g Z Z (C6 c47)) (.fn Tryz.call82 Z) (ku b20 st24 _ hx50) (fun _ hs=>(Src.triv _)) Z (TL.q Z (.g Z Z (C6 c47)) (AO ag Z) Z (TL.q Z .u (AP Z (C6 c47) Z) Z ?_))
     rcases jF h with⟨c51,h⟩ | ⟨c51,h⟩
     ·cases h
      exact TL.nil (Bw (d:=26) (v':= .bool true) Z (congrArg Value.bool (C6 c51)) (A5 [0,0,0,0,0,0] ⟨Z,Z⟩ (by rfl) (by rfl)))
     ·cases h
      exact TL.nil (Bw (d:=26) (v':= .bool false) Z (congrArg Value.bool (C7 c51)) (A5 [0,0,0,0,0,0] ⟨Z,Z⟩ (by rfl) (by rfl)))
    ·refine TL.run ag [2,3] Z Z ?_
     iterate 3 refine AM Z (.gn Z Z (C7 c47)) Z ?_
     refine TL.q Z .u (AR Z (C7 c47) Z) Z ?_
     cases h
     exact TL.nil (A5 [0,0,0,0,0,0] ⟨Z,Z⟩ (by rfl) (by rfl))
   ·rintro _ _ ⟨rfl,rfl⟩
    clear h
    have h:=hk43
    clear hk43
    try dsimp only at h
    rcases jF h with⟨c52,h⟩ | ⟨c52,h⟩
    ·refine X.seq (AN Z c52 ?_)
     obtain⟨⟨x53,st56⟩,hx57,h⟩:=C5 h
     try dsimp only at h
     replace h:=an h
     obtain⟨c59,h⟩:=h
     refine T.skip (X.seq (T.block (T.seq ?_)))
     refine Cn (fun e Rs=> ∃ (A54:Option Addr) (c55:Nat) (b58:Nat) (A60:Option Addr) (c61:Nat),e = [(0,jP g),(2,jP b1),(3,jP b5),(5,jP b20)]∧Rs = [bp 27 12 bT (.slice A60 (y21 ++ [x53]).length c61) (y21 ++ [x53]),InR b20 st56,aC b9 35 #[.bool x6.null,jS x6.data],aC b5 84 #[jI x2,.slice A60 (y21 ++ [x53]).length c61],aC b1 84 #[jI 0,.slice none 0 0],InR g st42]) ?_ ?_
     ·refine Bd (.q 0 (.q 2 (.br 1 (.e 3 (.e 4 (.e 5 (.q 6 (.e 7 .nil))))) (.e 3 (.br 1 (.e 4 (.e 5 (.q 6 (.e 7 .nil)))) (.e 4 (.e 1 (.e 5 (.q 6 (.e 7 .nil)))))))))) [2,3,3] Z io oZ (by kernel_rfl) ?_
      refine TD.run ag [0,2] Z Z ?_
      refine TD.br ?_ ?_
      ·refine Cj Z .u (AH 3 Z Ea Z Z) Z [2,3,3] Z ?_
       refine TD.cg1 Z .u (.fn Tryz.call49 Z) (jy b20 st41 _ hx57) (fun _ hs=>(Src.triv _)) Z [3,4,4] ?_ ?_
       ·rintro _ _ _ ⟨A54,c55,rfl,rfl,rfl⟩
        rfl
       rintro _ _ _ ⟨A54,c55,rfl,rfl,rfl⟩
       refine BF [0,0,0,0,0,0,0] Z ?_
       refine BQ (cells:= #[jI x53.CP,jI x53.CI,.bool x53.CV,.bool x53.C0,.bool x53.CL,jI x53.CN,jI x53.CH,jI x53.CW,jI x53.CE,jI x53.CK,jI x53.CD,.slice A54 x53.Cy.length c55]) Z .u gS Z (by kernel_rfl) Z [4,5,5] (fun _=>Z) (fun b58=> ?_)
       refine Cq 1 0 Z .u (us := [jI x53.CP,jI x53.CI,.bool x53.CV,.bool x53.C0,.bool x53.CL,jI x53.CN,jI x53.CH,jI x53.CW,jI x53.CE,jI x53.CK,jI x53.CD,.slice A54 x53.Cy.length c55]) (u:=x53) (l:=y21) (E:=bT) Tryz.underlying82 jl Z (by decide) Z Z Z Z Z Z Z (fun w G hG=>⟨_,_,Z,hG.1⟩) (by have hq:=c59; omega) (by have hq:=c59; omega) Z [2,3,3] (fun _ _=>Z) (fun A60 c61=> ?_)
       exact BF [0,0,0,0,0,0] Z (TD.run ag [6] Z Z (Co (cs':= #[jI x2,.slice A60 (y21 ++ [x53]).length c61]) Z .u Z Z EN Z Z Z Z [2,3,3] (Z) (TD.nil (BR [0,0,0,0,0,0] ⟨A54,c55,b58,A60,c61,Z,Z⟩ (by rfl) (by rfl)))))
      ·refine TD.cg1 Z .u (.fn Tryz.call49 Z) (jy b20 st41 _ hx57) (fun _ hs=>(Src.triv _)) Z [3,4,4] ?_ ?_
       ·rintro _ _ _ ⟨A54,c55,rfl,rfl,rfl⟩
        rfl
       rintro _ _ _ ⟨A54,c55,rfl,rfl,rfl⟩
       refine BF [0,0,0,0,0,0,0] Z ?_
       refine TD.br ?_ ?_
       ·refine Cj Z .u (AH 4 Z Ea Z Z) Z [3,4,4] Z ?_
        refine BQ (cells:= #[jI x53.CP,jI x53.CI,.bool x53.CV,.bool x53.C0,.bool x53.CL,jI x53.CN,jI x53.CH,jI x53.CW,jI x53.CE,jI x53.CK,jI x53.CD,.slice A54 x53.Cy.length c55]) Z .u gS Z (by kernel_rfl) Z [4,5,5] (fun _=>Z) (fun b58=> ?_)
        refine Cq 1 0 Z .u (us := [jI x53.CP,jI x53.CI,.bool x53.CV,.bool x53.C0,.bool x53.CL,jI x53.CN,jI x53.CH,jI x53.CW,jI x53.CE,jI x53.CK,jI x53.CD,.slice A54 x53.Cy.length c55]) (u:=x53) (l:=y21) (E:=bT) Tryz.underlying82 jl Z (by decide) Z Z Z Z Z Z Z (fun w G hG=>⟨_,_,Z,hG.1⟩) (by have hq:=c59; omega) (by have hq:=c59; omega) Z [2,3,3] (fun _ _=>Z) (fun A60 c61=> ?_)
        exact BF [0,0,0,0,0,0] Z (TD.run ag [6] Z Z (Co (cs':= #[jI x2,.slice A60 (y21 ++ [x53]).length c61]) Z .u Z Z EN Z Z Z Z [2,3,3] (Z) (TD.nil (BR [0,0,0,0,0,0] ⟨A54,c55,b58,A60,c61,Z,Z⟩ (by rfl) (by rfl)))))
       ·refine BQ (cells:= #[jI x53.CP,jI x53.CI,.bool x53.CV,.bool x53.C0,.bool x53.CL,jI x53.CN,jI x53.CH,jI x53.CW,jI x53.CE,jI x53.CK,jI x53.CD,.slice A54 x53.Cy.length c55]) Z .u gS Z (by kernel_rfl) Z [4,5,5] (fun _=>Z) (fun b58=> ?_)
        refine Cj Z .u (AH 5 Z Ea Z Z) Z [4,5,5] Z ?_
        refine Cq 1 0 Z .u (us := [jI x53.CP,jI x53.CI,.bool x53.CV,.bool x53.C0,.bool x53.CL,jI x53.CN,jI x53.CH,jI x53.CW,jI x53.CE,jI x53.CK,jI x53.CD,.slice A54 x53.Cy.length c55]) (u:=x53) (l:=y21) (E:=bT) Tryz.underlying82 jl Z (by decide) Z Z Z Z Z Z Z (fun w G hG=>⟨_,_,Z,hG.1⟩) (by have hq:=c59; omega) (by have hq:=c59; omega) Z [2,3,3] (fun _ _=>Z) (fun A60 c61=> ?_)
        exact BF [0,0,0,0,0,0] Z (TD.run ag [6] Z Z (Co (cs':= #[jI x2,.slice A60 (y21 ++ [x53]).length c61]) Z .u Z Z EN Z Z Z Z [2,3,3] (Z) (TD.nil (BR [0,0,0,0,0,0] ⟨A54,c55,b58,A60,c61,Z,Z⟩ (by rfl) (by rfl)))))
     ·rintro _ _ ⟨A54,c55,b58,A60,c61,rfl,rfl⟩
      refine X.seq (T.seq (T.region Z ?_))
      obtain⟨⟨x62,st63⟩,hx64,h⟩:=C5 h
      try dsimp only at h
      refine TL.run ag [0] Z Z (BC Z .u (.fn Tryz.call21 Z) (dH b20 st56 _ hx64) (fun _ hs=>(Src.triv _)) Z (TL.run ag [2] Z Z (TL.nil (X.seq (T.seq (T.region Z (TL.run ag [0,1] Z Z (TL.nil (X.seq ?_)))))))))
      obtain⟨st68,h,hk69⟩:=C5 h
      refine BE (fun e Rs=>e = [(0,jP g),(2,jP b1),(3,jP b5),(5,jP b20)]∧Rs = [bp 27 12 bT (.slice A60 (y21 ++ [x53]).length c61) (y21 ++ [x53]),InR b20 st63,aC b9 35 #[.bool x6.null,jS x6.data],aC b5 84 #[jI x2,.slice A60 (y21 ++ [x53]).length c61],aC b1 84 #[jI 0,.slice none 0 0],InR g st68]) ?_ ?_
      ·clear hk69
       rcases jF h with⟨c70,h⟩ | ⟨c70,h⟩
       ·refine AS Z (ax (C6 c70)) ?_
        cases h
        exact T.skip (A5 [0,0,0,0,0,0] ⟨Z,Z⟩ (by rfl) (by rfl))
       ·refine AN Z (aF (C7 c70)) (T.region Z ?_)
        obtain⟨st71,hx72,h⟩:=C5 h
        refine TL.run ag [0,1] Z Z (Ck Z .u (.fn Tryz.call61 Z) (bi g st42 x62 _ hx72) (fun _ hs=>(Src.triv _)) Z ?_)
        cases h
        exact TL.nil (A5 [0,0,0,0,0,0] ⟨Z,Z⟩ (by rfl) (by rfl))
      ·rintro _ _ ⟨rfl,rfl⟩
       clear h
       have h:=hk69
       clear hk69
       try dsimp only at h
       exact AZ (X.back (m':=m29) [0,0,0,0,0,0] (by omega) ⟨(y21 ++ [x53]),A60,c61,st63,st68,Z,Z,h⟩ (by rfl) (by rfl))
    ·replace c52:=Dd c52
     refine X.seq (AS Z c52 ?_)
     obtain rfl:=C8 h
     replace h:=hO28
     clear hO28
     try dsimp only at h
     refine T.exit (AV (AV (Bh (X.seq (T.seq (T.region Z (TL.q Z .u (AY (us := [jI x2,.slice A22 y21.length c23]) 3 Z EB DF Z Z Z) Z (TL.st4 (cs':= #[jI x2,.slice A22 y21.length c23]) Z .u Z Z DF Z Z Z Z ?_))))))))
     obtain rfl:=C8 h
     exact TL.nil (X.seq (T.ret (X.shut (by decide) 0 Z (Bv [0,0,0,0,0,0] Z (AJ [5,0] Tryz.results60 (BG (us:= #[jI x2,.slice A22 y21.length c23]) 4 Z EB DF Z Z) ⟨_,_,Z,Z,Z⟩ (by rfl) (.inl Z))))))
def bf (x32:Int):Nat→Nat→List ay→I→Option (Lp (aq×I) (Nat×List ay×I))
 | 0,_,_,_=>none
 | m43+1,k35,y36,st39=>if (k35:Int)<x32 then ((eA st39).bind fun (x48,st51)=>if (y36.length+1)*32≤140737488355328 then ((iY st51).bind fun (x57,st58)=>if x57=0 then (if -9223372036854775808≤((k35:Int)+1)∧((k35:Int)+1)≤9223372036854775807 then (bf x32 m43 (k35+1) (y36 ++ [x48]) st58) else none) else (some (Lp.ret ((⟨(⟨false,[]⟩:Bl),0,0,[]⟩:aq),st58)))) else none) else (some (Lp.go (k35,y36,st39)))
def bP (x12:Int):Nat→Nat→List au→I→Option (Lp (aq×I) (Nat×List au×I))
 | 0,_,_,_=>none
 | m23+1,k15,y16,st19=>if (k15:Int)<x12 then ((rU st19).bind fun (x28,st29)=>(iA st29 4 8).bind fun (x32,st33)=>(bf x32 ((x32).toNat+1) 0 [] st33).bind fun e=>match e with | .ret r=>some (Lp.ret r) | .go (k71,y72,st75)=>((iY st75).bind fun (x76,st77)=>if x76=0 then (if (y16.length+1)*40≤140737488355328 then (if -9223372036854775808≤((k15:Int)+1)∧((k15:Int)+1)≤9223372036854775807 then (bP x12 m23 (k15+1) (y16 ++ [(⟨x28,y72⟩:au)]) st77) else none) else none) else (some (Lp.ret ((⟨(⟨false,[]⟩:Bl),0,0,[]⟩:aq),st77))))) else (some (Lp.go (k15,y16,st19)))
theorem me (x12:Int) (u1:Nat) (u2:List au) (u3:I):bP x12 0 u1 u2 u3=none:=rfl
theorem ek (x12:Int) (m23:Nat) (k15:Nat) (y16:List au) (st19:I):bP x12 (m23+1) k15 y16 st19=(if (k15:Int)<x12 then ((rU st19).bind fun (x28,st29)=>(iA st29 4 8).bind fun (x32,st33)=>(bf x32 ((x32).toNat+1) 0 [] st33).bind fun e=>match e with | .ret r=>some (Lp.ret r) | .go (k71,y72,st75)=>((iY st75).bind fun (x76,st77)=>if x76=0 then (if (y16.length+1)*40≤140737488355328 then (if -9223372036854775808≤((k15:Int)+1)∧((k15:Int)+1)≤9223372036854775807 then (bP x12 m23 (k15+1) (y16 ++ [(⟨x28,y72⟩:au)]) st77) else none) else none) else (some (Lp.ret ((⟨(⟨false,[]⟩:Bl),0,0,[]⟩:aq),st77))))) else (some (Lp.go (k15,y16,st19)))):=rfl
def cP (st:I) (a1:Int):Option (aq×I):=(kw st 2).bind fun (x2,st3)=>(fM st3 2).bind fun (x5,st6)=>(fM st6 4).bind fun (x8,st9)=>(iA st9 4 6).bind fun (x12,st13)=>(bP x12 ((x12).toNat+1) 0 [] st13).bind fun e=>match e with | .ret r=>some r | .go (k116,y117,st120)=>((iY st120).bind fun (x121,st122)=>(if x121=0 then ((aR (⟨x2,x5,x8,y117⟩:aq) a1).bind fun x138=>(if x138=0 then some st122 else ((bD st122 x138).bind fun st146=>some st146)).bind fun st143=>some st143) else some st122).bind fun st135=>(iY st135).bind fun (x148,st149)=>if x148=0 then (some ((⟨x2,x5,x8,y117⟩:aq),st149)) else (some ((⟨(⟨false,[]⟩:Bl),0,0,[]⟩:aq),st149)))
theorem mf (g:Nat) (st:I) (a1:Int) (r:aq×I) (h:cP st a1=some r):aA Tryz.prog 19 #[jP g,jI a1] .triv (InR g st) (fun v A' N=> ∃ (A152:Option Addr) (c153:Nat),v= .agg #[.bool r.1.CS.null,jS r.1.CS.data,jI r.1.CZ,jI r.1.CO,.slice A152 r.1.CC.length c153]∧A'=InR g r.2∧N = [RdR (ar 2 aG) [.slice A152 r.1.CC.length c153] r.1.CC]):=by
 refine aM Tryz.func19 Z Tryz.ntmps19 Z ?_
 intro F w hX
 unfold cP at h
 refine T.seq (T.region Z (TL.alloc Z .u Tryz.zeroValue50 Z (fun b1=>(TL.nil (X.seq (T.seq (T.region Z ?_)))))))
 obtain⟨⟨x2,st3⟩,hx4,h⟩:=C5 h
 try dsimp only at h
 refine TL.run ag [0] Z Z (BC Z .u (.fn Tryz.call56 Z) (oY g st 2 _ hx4) (fun _ hs=>(Src.triv _)) Z ?_)
 obtain⟨⟨x5,st6⟩,hx7,h⟩:=C5 h
 try dsimp only at h
 refine TL.run ag [2] Z Z (BC Z .u (.fn Tryz.call57 Z) (bR g st3 2 _ hx7) (fun _ hs=>(Src.triv _)) Z ?_)
 obtain⟨⟨x8,st9⟩,hx10,h⟩:=C5 h
 try dsimp only at h
 refine TL.run ag [4] Z Z (BC Z .u (.fn Tryz.call57 Z) (bR g st6 4 _ hx10) (fun _ hs=>(Src.triv _)) Z ?_)
 refine TL.q Z .u (Bg (cells:= #[.bool x2.null,jS x2.data,jI x5,jI x8,.slice none 0 0]) gz Z (by kernel_rfl)) Z ?_
 refine TL.alloc Z .u Tryz.zeroValue50 Z (fun b11=>(A9 (cs':= #[.bool x2.null,jS x2.data,jI x5,jI x8,.slice none 0 0]) Z .u Z Z DI Z Z Z Z (TL.nil (X.seq (T.seq (T.seq (T.region Z ?_)))))))
 obtain⟨⟨x12,st13⟩,hx14,h⟩:=C5 h
 try dsimp only at h
 refine TL.run ag [0] Z Z (BU Z .u (.fn Tryz.call58 Z) (oU g st9 4 6 _ hx14) (fun _ hs=>(Src.triv _)) Z (TL.run ag [2] Z Z (TL.nil (X.seq (T.block (BX 81 2 aG ?_))))))
 obtain⟨E20,hE21,hO22⟩:=C5 h
 refine Bj (fun m e Rs=> ∃ (k15:Nat) (y16:List au) (A17:Option Addr) (c18:Nat) (st19:I),e = [(0,jP g),(1,jI a1),(4,jP b1),(5,jP b11),(16,jI x12),(17,jI (k15:Int))]∧Rs = [bp 81 2 aG (.slice A17 y16.length c18) y16,aC b11 50 #[.bool x2.null,jS x2.data,jI x5,jI x8,.slice A17 y16.length c18],aC b1 50 #[.bool false,.string ⟨#[]⟩,jI 0,jI 0,.slice none 0 0],InR g st19]∧bP x12 m k15 y16 st19=some E20) ((x12).toNat+1) [0,0,0,0] ⟨0,[],none,0,st13,Z,Z,by exact hE21⟩ (by rfl) (by rfl) ?_
 rintro m23 _ _ ⟨k15,y16,A17,c18,st19,rfl,rfl,hl25⟩
 clear hE21 h
 cases m23 with
 | zero =>
  rw[me] at hl25
  cases hl25
 | succ m23 =>
  have h:=hl25
  clear hl25
  rw[ek] at h
  refine T.seq (T.region Z (TL.run ag [0] Z Z ?_))
  rcases jF h with⟨c27,h⟩ | ⟨c27,h⟩
  ·refine TL.nil (X.seq (T.seq (AN Z (C6 c27) (T.skip (X.seq (T.seq (T.block (T.seq (T.region Z ?_)))))))))
   obtain⟨⟨x28,st29⟩,hx30,h⟩:=C5 h
   try dsimp only at h
   refine TL.run ag [0] Z Z (Cg Z .u (.fn Tryz.call59 Z) (vx g st19 _ hx30) (fun _ hs=>(Src.triv _)) Z ?_)
   refine TL.q Z .u (Bg (cells:= #[jS x28,.slice none 0 0]) qN Z (by kernel_rfl)) Z ?_
   refine TL.alloc Z .u Tryz.zeroValue81 Z (fun b31=>(A9 (cs':= #[jS x28,.slice none 0 0]) Z .u Z Z DL Z Z Z Z (TL.nil (X.seq (T.seq (T.seq (T.region Z ?_)))))))
   obtain⟨⟨x32,st33⟩,hx34,h⟩:=C5 h
   try dsimp only at h
   refine TL.run ag [0] Z Z (TL.c4 Z .u (.fn Tryz.call58 Z) (oU g st29 4 8 _ hx34) (fun _ hs=>(Src.triv _)) Z (TL.run ag [2] Z Z (TL.nil (X.seq (T.block (BX 84 2 aS ?_))))))
   obtain⟨E40,hE41,hO42⟩:=C5 h
   refine Bj (fun m e Rs=> ∃ (k35:Nat) (y36:List ay) (A37:Option Addr) (c38:Nat) (st39:I),e = [(0,jP g),(1,jI a1),(4,jP b1),(5,jP b11),(6,jP b31),(16,jI x12),(17,jI (k15:Int)),(23,jI x32),(24,jI (k35:Int))]∧Rs = [bp 84 2 aS (.slice A37 y36.length c38) y36,aC b31 81 #[jS x28,.slice A37 y36.length c38],bp 81 2 aG (.slice A17 y16.length c18) y16,aC b11 50 #[.bool x2.null,jS x2.data,jI x5,jI x8,.slice A17 y16.length c18],aC b1 50 #[.bool false,.string ⟨#[]⟩,jI 0,jI 0,.slice none 0 0],InR g st39]∧bf x32 m k35 y36 st39=some E40) ((x32).toNat+1) [0,0,0,0,0,0] ⟨0,[],none,0,st33,Z,Z,by exact hE41⟩ (by rfl) (by rfl) ?_
   rintro m43 _ _ ⟨k35,y36,A37,c38,st39,rfl,rfl,hl45⟩
   clear hE41 h
   cases m43 with
   | zero =>
    rw[bf] at hl45
    cases hl45
   | succ m43 =>
    have h:=hl45
    clear hl45
    rw[bf] at h
    refine T.seq (T.region Z (TL.run ag [0] Z Z ?_))
    rcases jF h with⟨c47,h⟩ | ⟨c47,h⟩
    ·refine TL.nil (X.seq (T.seq (AN Z (C6 c47) ?_)))
     obtain⟨⟨x48,st51⟩,hx52,h⟩:=C5 h
     try dsimp only at h
     replace h:=an h
     obtain⟨c54,h⟩:=h
     refine T.skip (X.seq (T.seq (T.block (T.seq ?_))))
     refine Cn (fun e Rs=> ∃ (A49:Option Addr) (c50:Nat) (b53:Nat) (A55:Option Addr) (c56:Nat),e = [(0,jP g),(1,jI a1),(4,jP b1),(5,jP b11),(6,jP b31),(16,jI x12),(17,jI (k15:Int)),(23,jI x32),(24,jI (k35:Int))]∧Rs = [bp 84 2 aS (.slice A55 (y36 ++ [x48]).length c56) (y36 ++ [x48]),aC b31 81 #[jS x28,.slice A55 (y36 ++ [x48]).length c56],bp 81 2 aG (.slice A17 y16.length c18) y16,aC b11 50 #[.bool x2.null,jS x2.data,jI x5,jI x8,.slice A17 y16.length c18],aC b1 50 #[.bool false,.string ⟨#[]⟩,jI 0,jI 0,.slice none 0 0],InR g st51]) ?_ ?_
     ·refine Bd (.q 0 (.q 2 (.br 1 (.e 3 (.e 4 (.e 5 (.q 6 (.e 7 .nil))))) (.e 3 (.br 1 (.e 4 (.e 5 (.q 6 (.e 7 .nil)))) (.e 4 (.e 1 (.e 5 (.q 6 (.e 7 .nil)))))))))) [2,2,2] Z io oZ (by kernel_rfl) ?_
      refine TD.run ag [0,2] Z Z ?_
      refine TD.br ?_ ?_
      ·refine Cj Z .u (AH 1 Z D9 Z Z) Z [2,2,2] Z ?_
       refine TD.cg5 Z .u (.fn Tryz.call60 Z) (iF g st39 _ hx52) (fun _ hs=>(Src.triv _)) Z [3,3,3] ?_ ?_
       ·rintro _ _ _ ⟨A49,c50,rfl,rfl,rfl⟩
        rfl
       rintro _ _ _ ⟨A49,c50,rfl,rfl,rfl⟩
       refine BF [0,0,0,0,0,0,0] Z (BQ (cells:= #[jI x48.CX,.slice A49 x48.CG.length c50]) Z .u gR Z (by rfl) Z [4,4,4] (fun _=>Z) (fun b53=> ?_))
       refine Cq 1 0 Z .u (us := [jI x48.CX,.slice A49 x48.CG.length c50]) (u:=x48) (l:=y36) (E:=aS) Tryz.underlying79 jm Z (by decide) Z Z Z Z Z Z Z (fun w G hG=>⟨_,_,Z,hG.1⟩) (by have hq:=c54; omega) (by have hq:=c54; omega) Z [2,2,2] (fun _ _=>Z) (fun A55 c56=> ?_)
       exact BF [0,0,0,0,0,0] Z (TD.run ag [6] Z Z (TD.st1 (cs':= #[jS x28,.slice A55 (y36 ++ [x48]).length c56]) Z .u Z Z Fh Z Z Z Z [2,2,2] (Z) (TD.nil (BR [0,0,0,0,0,0] ⟨A49,c50,b53,A55,c56,Z,Z⟩ (by rfl) (by rfl)))))
      ·refine TD.cg5 Z .u (.fn Tryz.call60 Z) (iF g st39 _ hx52) (fun _ hs=>(Src.triv _)) Z [3,3,3] ?_ ?_
       ·rintro _ _ _ ⟨A49,c50,rfl,rfl,rfl⟩
        rfl
       rintro _ _ _ ⟨A49,c50,rfl,rfl,rfl⟩
       refine BF [0,0,0,0,0,0,0] Z ?_
       refine TD.br ?_ ?_
       ·refine Cj Z .u (AH 2 Z D9 Z Z) Z [3,3,3] Z (BQ (cells:= #[jI x48.CX,.slice A49 x48.CG.length c50]) Z .u gR Z (by rfl) Z [4,4,4] (fun _=>Z) (fun b53=> ?_))
        refine Cq 1 0 Z .u (us := [jI x48.CX,.slice A49 x48.CG.length c50]) (u:=x48) (l:=y36) (E:=aS) Tryz.underlying79 jm Z (by decide) Z Z Z Z Z Z Z (fun w G hG=>⟨_,_,Z,hG.1⟩) (by have hq:=c54; omega) (by have hq:=c54; omega) Z [2,2,2] (fun _ _=>Z) (fun A55 c56=> ?_)
        exact BF [0,0,0,0,0,0] Z (TD.run ag [6] Z Z (TD.st1 (cs':= #[jS x28,.slice A55 (y36 ++ [x48]).length c56]) Z .u Z Z Fh Z Z Z Z [2,2,2] (Z) (TD.nil (BR [0,0,0,0,0,0] ⟨A49,c50,b53,A55,c56,Z,Z⟩ (by rfl) (by rfl)))))
       ·refine BQ (cells:= #[jI x48.CX,.slice A49 x48.CG.length c50]) Z .u gR Z (by rfl) Z [4,4,4] (fun _=>Z) (fun b53=>(Cj Z .u (AH 3 Z D9 Z Z) Z [4,4,4] Z ?_))
        refine Cq 1 0 Z .u (us := [jI x48.CX,.slice A49 x48.CG.length c50]) (u:=x48) (l:=y36) (E:=aS) Tryz.underlying79 jm Z (by decide) Z Z Z Z Z Z Z (fun w G hG=>⟨_,_,Z,hG.1⟩) (by have hq:=c54; omega) (by have hq:=c54; omega) Z [2,2,2] (fun _ _=>Z) (fun A55 c56=> ?_)
        exact BF [0,0,0,0,0,0] Z (TD.run ag [6] Z Z (TD.st1 (cs':= #[jS x28,.slice A55 (y36 ++ [x48]).length c56]) Z .u Z Z Fh Z Z Z Z [2,2,2] (Z) (TD.nil (BR [0,0,0,0,0,0] ⟨A49,c50,b53,A55,c56,Z,Z⟩ (by rfl) (by rfl)))))
     ·rintro _ _ ⟨A49,c50,b53,A55,c56,rfl,rfl⟩
      refine X.seq (T.seq (T.region Z ?_))
      obtain⟨⟨x57,st58⟩,hx59,h⟩:=C5 h
      try dsimp only at h
      refine TL.run ag [0] Z Z (Ck Z .u (.fn Tryz.call21 Z) (dH g st51 _ hx59) (fun _ hs=>(Src.triv _)) Z (TL.run ag [2] Z Z ?_))
      rcases jF h with⟨c60,h⟩ | ⟨c60,h⟩
      ·refine TL.nil (X.seq (AS Z (ax (C6 c60)) ?_))
       replace h:=an h
       obtain⟨c61,h⟩:=h
       exact T.skip (AZ (X.seq (T.region Z (TL.q Z .u (Ex.add Z Z c61) Z (TL.run ag [1] Z Z (TL.nil (X.back (m':=m43) [0,0,0,0,0,0] (by omega) ⟨k35+1,(y36 ++ [x48]),A55,c56,st58,Z,Z,h⟩ (by rfl) (by rfl))))))))
      ·refine TL.nil (X.seq (AN Z (aF (C7 c60)) (T.seq (T.region Z ?_))))
       refine TL.q Z .u (Bg (cells:= #[.bool false,.string ⟨#[]⟩,jI 0,jI 0,.slice none 0 0]) gz Z (by kernel_rfl)) Z ?_
       refine TL.st4 (cs':= #[.bool false,.string ⟨#[]⟩,jI 0,jI 0,.slice none 0 0]) Z .u Z Z DI Z Z Z Z ?_
       obtain rfl:=C8 h
       replace h:=hO42
       clear hO42
       try dsimp only at h
       obtain rfl:=C8 h
       replace h:=hO22
       clear hO22
       try dsimp only at h
       obtain rfl:=C8 h
       exact TL.nil (X.seq (T.ret (AU (AL (AL (AU (AL (AU (AL (AL (AU (AL (BH 2 aG (AJ [6,0] Fu (BG (us:= #[.bool false,.string ⟨#[]⟩,jI 0,jI 0,.slice none 0 0]) 5 Z DX DI Z Z) ⟨_,_,Z,Z,Z⟩ (by rfl) (.inl Z)))))))))))))))
    ·refine TL.nil (X.seq (T.seq (AS Z (C7 c47) ?_)))
     obtain rfl:=C8 h
     replace h:=hO42
     clear hO42
     try dsimp only at h
     refine T.exit (AV (AV (Bh (X.seq (T.seq (T.seq (T.region Z ?_)))))))
     obtain⟨⟨x62,st63⟩,hx64,h⟩:=C5 h
     try dsimp only at h
     refine TL.run ag [0] Z Z (Ck Z .u (.fn Tryz.call21 Z) (dH g st39 _ hx64) (fun _ hs=>(Src.triv _)) Z (TL.run ag [2] Z Z ?_))
     rcases jF h with⟨c65,h⟩ | ⟨c65,h⟩
     ·refine TL.nil (X.seq (AS Z (ax (C6 c65)) (T.skip (X.seq (T.region Z (TL.run ag [0] Z Z (TL.q Z .u (AH 3 Z Ep Z Z) Z (TL.q Z .u (AY (us := [jS x28,.slice A37 y36.length c38]) 1 Z EK DL Z Z Z) Z (BT (cells:= #[jS x28,.slice A37 y36.length c38]) Z .u oA Z (by rfl) Z (fun b66=> ?_))))))))))
      replace h:=an h
      obtain⟨c67,h⟩:=h
      refine TL.app2 2 0 Z .u (us := [jS x28,.slice A37 y36.length c38]) (u:=(⟨x28,y36⟩:au)) (l:=y16) (E:=aG) Tryz.underlying48 qP Z (by decide) Z Z Z Z Z Z Z (fun w G hG=>⟨_,_,Z,bA (by decide) _ _ hG⟩) (by have hq:=c67; omega) (by have hq:=c67; omega) Z (fun A68 c69=> ?_)
      refine Bp [0,0,0,0,0] Z (TL.run ag [5] Z Z (Cu (cs':= #[.bool x2.null,jS x2.data,jI x5,jI x8,.slice A68 (y16 ++ [(⟨x28,y36⟩:au)]).length c69]) Z .u Z Z Tryz.sizeOf48 Z Z Z Z ?_))
      replace h:=an h
      obtain⟨c70,h⟩:=h
      exact TL.nil (AZ (X.seq (T.region Z (TL.q Z .u (Ex.add Z Z c70) Z (TL.run ag [1] Z Z (TL.nil (X.back (m':=m23) [0,1,1,1] (by omega) ⟨k15+1,(y16 ++ [(⟨x28,y36⟩:au)]),A68,c69,st63,Z,Z,h⟩ (by rfl) (by rfl))))))))
     ·refine TL.nil (X.seq (AN Z (aF (C7 c65)) (T.seq (T.region Z ?_))))
      refine TL.q Z .u (Bg (cells:= #[.bool false,.string ⟨#[]⟩,jI 0,jI 0,.slice none 0 0]) gz Z (by kernel_rfl)) Z ?_
      refine TL.st4 (cs':= #[.bool false,.string ⟨#[]⟩,jI 0,jI 0,.slice none 0 0]) Z .u Z Z DI Z Z Z Z ?_
      obtain rfl:=C8 h
      replace h:=hO22
      clear hO22
      try dsimp only at h
      obtain rfl:=C8 h
      exact TL.nil (X.seq (T.ret (AL (AU (AL (AL (AU (AL (BH 2 aG (AJ [6,0] Fu (BG (us:= #[.bool false,.string ⟨#[]⟩,jI 0,jI 0,.slice none 0 0]) 5 Z DX DI Z Z) ⟨_,_,Z,Z,Z⟩ (by rfl) (.inl Z)))))))))))
  ·refine TL.nil (X.seq (T.seq (AS Z (C7 c27) ?_)))
   obtain rfl:=C8 h
   replace h:=hO22
   clear hO22
   try dsimp only at h
   refine T.exit (AV (AV (Bh (X.seq (T.seq (T.seq (T.region Z ?_)))))))
   obtain⟨⟨x85,st86⟩,hx87,h⟩:=C5 h
   try dsimp only at h
   refine TL.run ag [0] Z Z (Cg Z .u (.fn Tryz.call21 Z) (dH g st19 _ hx87) (fun _ hs=>(Src.triv _)) Z (TL.run ag [2] Z Z (TL.nil (X.seq ?_))))
   obtain⟨st99,h,hk100⟩:=C5 h
   refine BE (fun e Rs=>e = [(0,jP g),(4,jP b1),(5,jP b11)]∧Rs = [bp 81 2 aG (.slice A17 y16.length c18) y16,aC b11 50 #[.bool x2.null,jS x2.data,jI x5,jI x8,.slice A17 y16.length c18],aC b1 50 #[.bool false,.string ⟨#[]⟩,jI 0,jI 0,.slice none 0 0],InR g st99]) ?_ ?_
   ·clear hk100
    rcases jF h with⟨c101,h⟩ | ⟨c101,h⟩
    ·refine AN Z (C6 c101) (T.seq (T.region Z (TL.q Z .u (AY (us := [.bool x2.null,jS x2.data,jI x5,jI x8,.slice A17 y16.length c18]) 1 Z DX DI Z Z Z) Z ?_)))
     obtain⟨x102,hx103,h⟩:=C5 h
     refine TL.run ag [1] Z Z (Bc Z .u (.fn Tryz.call30 Z) (bO (⟨x2,x5,x8,y16⟩:aq) _ _ a1 _ hx103) (fun _ hs=>(SrcE.res 0 hs Z (fun w G h=>bA (by decide) w G h))) Z (TL.run ag [3] Z Z (TL.nil (X.seq (T.seq (T.region Z (TL.run ag [0,1] Z Z (TL.nil (X.seq ?_)))))))))
     obtain⟨st107,h,hk108⟩:=C5 h
     refine BE (fun e Rs=>e = [(0,jP g),(4,jP b1),(5,jP b11)]∧Rs = [bp 81 2 aG (.slice A17 y16.length c18) y16,aC b11 50 #[.bool x2.null,jS x2.data,jI x5,jI x8,.slice A17 y16.length c18],aC b1 50 #[.bool false,.string ⟨#[]⟩,jI 0,jI 0,.slice none 0 0],InR g st107]) ?_ ?_
     ·clear hk108
      rcases jF h with⟨c109,h⟩ | ⟨c109,h⟩
      ·refine AS Z (ax (C6 c109)) ?_
       cases h
       exact T.skip (A5 [0,0,0,0] ⟨Z,Z⟩ (by rfl) (by rfl))
      ·refine AN Z (aF (C7 c109)) (T.region Z ?_)
       obtain⟨st110,hx111,h⟩:=C5 h
       refine TL.run ag [0,1] Z Z (Cg Z .u (.fn Tryz.call61 Z) (bi g st86 x102 _ hx111) (fun _ hs=>(Src.triv _)) Z ?_)
       cases h
       exact TL.nil (A5 [0,0,0,0] ⟨Z,Z⟩ (by rfl) (by rfl))
     ·rintro _ _ ⟨rfl,rfl⟩
      clear h
      have h:=hk108
      clear hk108
      try dsimp only at h
      cases h
      exact A5 [0,0,0,0] ⟨Z,Z⟩ (by rfl) (by rfl)
    ·refine AS Z (C7 c101) ?_
     cases h
     exact T.skip (A5 [0,0,0,0] ⟨Z,Z⟩ (by rfl) (by rfl))
   ·rintro _ _ ⟨rfl,rfl⟩
    clear h
    have h:=hk100
    clear hk100
    try dsimp only at h
    refine X.seq (T.seq (T.seq (T.region Z ?_)))
    obtain⟨⟨x112,st113⟩,hx114,h⟩:=C5 h
    try dsimp only at h
    refine TL.run ag [0] Z Z (Cg Z .u (.fn Tryz.call21 Z) (dH g st99 _ hx114) (fun _ hs=>(Src.triv _)) Z (TL.run ag [2] Z Z ?_))
    rcases jF h with⟨c115,h⟩ | ⟨c115,h⟩
    ·refine TL.nil (X.seq (AS Z (ax (C6 c115)) (T.skip (X.seq (T.seq (T.region Z (TL.q Z .u (AY (us := [.bool x2.null,jS x2.data,jI x5,jI x8,.slice A17 y16.length c18]) 1 Z DX DI Z Z Z) Z (Cu (cs':= #[.bool x2.null,jS x2.data,jI x5,jI x8,.slice A17 y16.length c18]) Z .u Z Z DI Z Z Z Z ?_))))))))
     obtain rfl:=C8 h
     exact TL.nil (X.seq (T.ret (X.shut (by decide) 0 Z (Bv [0,0,0,0] Z (AJ [3,0] Fu (BG (us:= #[.bool x2.null,jS x2.data,jI x5,jI x8,.slice A17 y16.length c18]) 2 Z DX DI Z Z) ⟨_,_,Z,Z,Z⟩ (by rfl) (.inl Z))))))
    ·refine TL.nil (X.seq (AN Z (aF (C7 c115)) (T.seq (T.region Z ?_))))
     refine TL.q Z .u (Bg (cells:= #[.bool false,.string ⟨#[]⟩,jI 0,jI 0,.slice none 0 0]) gz Z (by kernel_rfl)) Z ?_
     refine Cu (cs':= #[.bool false,.string ⟨#[]⟩,jI 0,jI 0,.slice none 0 0]) Z .u Z Z DI Z Z Z Z ?_
     obtain rfl:=C8 h
     exact TL.nil (X.seq (T.ret (AL (BH 2 aG (AJ [4,0] Fu (BG (us:= #[.bool false,.string ⟨#[]⟩,jI 0,jI 0,.slice none 0 0]) 3 Z DX DI Z Z) ⟨_,_,Z,Z,Z⟩ (by rfl) (.inl Z))))))
def cQ (x260:ay):List Bat→Bool→Nat→Option (Lp Bool Bool)
 | [],y273,k274=>some (Lp.go y273)
 | x279::xs,y273,k274=>(x260.CG[k274]?).bind fun x301=>(gt x279 x301).bind fun x307=>if x307=true then (cQ x260 xs y273 (k274+1)) else some (Lp.ret false)
def cR (x176:au):List ay→Bool→Nat→Option (Lp Bool Bool)
 | [],y189,k190=>some (Lp.go y189)
 | x195::xs,y189,k190=>(x176.CA[k190]?).bind fun x260=>(if x195.CX=x260.CX then (if (x195.CG.length:Int)=(x260.CG.length:Int) then some false else some true) else some true).bind fun y268=>if y268=true then some (Lp.ret false) else ((cQ x260 x195.CG y189 0).bind fun e=>match e with | .ret r=>some (Lp.ret r) | .go y310=>(cR x176 xs y310 (k190+1)))
def cT (a1:aq):List au→Bool→Nat→Option (Lp Bool Bool)
 | [],y19,k20=>some (Lp.go y19)
 | x25::xs,y19,k20=>(a1.CC[k20]?).bind fun x176=>(if x25.CM=x176.CM then (if (x25.CA.length:Int)=(x176.CA.length:Int) then some false else some true) else some true).bind fun y184=>if y184=true then some (Lp.ret false) else ((cR x176 x25.CA y19 0).bind fun e=>match e with | .ret r=>some (Lp.ret r) | .go y312=>(cT a1 xs y312 (k20+1)))
def eB (a0:aq) (a1:aq):Option (Bool):=(if a0.CS.null=a1.CS.null then (if a0.CS.data=a1.CS.data then (if a0.CZ=a1.CZ then (if a0.CO=a1.CO then (if (a0.CC.length:Int)=(a1.CC.length:Int) then some false else some true) else some true) else some true) else some true) else some true).bind fun y11=>if y11=true then some false else ((cT a1 a0.CC false 0).bind fun e=>match e with | .ret r=>some r | .go y314=>some true)
theorem iG (a0:aq) (A1:Option Addr) (c2:Nat) (a1:aq) (A3:Option Addr) (c4:Nat) (r:Bool) (h:eB a0 a1=some r):aA Tryz.prog 31 #[.agg #[.bool a0.CS.null,jS a0.CS.data,jI a0.CZ,jI a0.CO,.slice A1 a0.CC.length c2],.agg #[.bool a1.CS.null,jS a1.CS.data,jI a1.CZ,jI a1.CO,.slice A3 a1.CC.length c4]] (RX.and (RX.of (ar 2 aG) [.slice A1 a0.CC.length c2] a0.CC) (RX.of (ar 2 aG) [.slice A3 a1.CC.length c4] a1.CC)) (aD) (fun v A' N=>v= .bool r∧A'=aD∧N = []):=by
 refine aM Tryz.func31 Z Tryz.ntmps31 Z ?_
 intro F w hX
 unfold eB at h
 refine T.seq (T.region Z (TL.box Z .u Z Z (fun b5=>(TL.box Z .u Z Z (fun b6=>(TL.run ag [2] Z Z (TL.nil (X.seq (T.seq (T.seq ?_))))))))))
 obtain⟨y11,h,hk12⟩:=C5 h
 refine BE (fun e Rs=>e = [(2,jP b5),(3,jP b6),(4,.bool false),(40,.bool y11)]∧Rs = [aC b6 50 #[.bool a1.CS.null,jS a1.CS.data,jI a1.CZ,jI a1.CO,.slice A3 a1.CC.length c4],aC b5 50 #[.bool a0.CS.null,jS a0.CS.data,jI a0.CZ,jI a0.CO,.slice A1 a0.CC.length c2],aD]) ?_ ?_
 ·clear hk12
  refine T.region Z (TL.run ag [0] Z Z (TL.q Z .u (AY (us := [.bool a0.CS.null,jS a0.CS.data]) 1 Z DB Dk Z Z Z) Z (TL.run ag [2] Z Z (TL.q Z .u (AY (us := [.bool a1.CS.null,jS a1.CS.data]) 0 Z DB Dk Z Z Z) Z ?_))))
  rcases jF h with⟨c13,h⟩ | ⟨c13,h⟩
  ·rcases jF h with⟨c14,h⟩ | ⟨c14,h⟩
   ·refine TL.q Z .u (BL (us := [.bool a0.CS.null,jS a0.CS.data]) (vs := [.bool a1.CS.null,jS a1.CS.data]) iC Z DQ Z Z Z Z (aO (fG c13) (aO (jw (l:=a0.CS.data) (m:=a1.CS.data) c14) Z))) Z (TL.run ag [5] Z Z (TL.q Z (.g Z Z Z) (AO ag Z) Z (TL.q Z (.g Z Z Z) (AH 1 Z Dc Z Z) Z (TL.q Z (.g Z Z Z) (AO ag Z) Z (TL.q Z (.g Z Z Z) (AH 0 Z Dc Z Z) Z (TL.q Z (.g Z Z Z) (AO ag Z) Z (TL.q Z .u (AR Z Z Z) Z ?_)))))))
    rcases jF h with⟨c15,h⟩ | ⟨c15,h⟩
    ·refine TL.run ag [12] Z Z (TL.q Z (.g Z Z (ax (C6 c15))) (AO ag Z) Z (TL.q Z (.g Z Z (ax (C6 c15))) (AH 1 Z Dc Z Z) Z (TL.q Z (.g Z Z (ax (C6 c15))) (AO ag Z) Z (TL.q Z (.g Z Z (ax (C6 c15))) (AH 0 Z Dc Z Z) Z (TL.q Z (.g Z Z (ax (C6 c15))) (AO ag Z) Z (TL.q Z .u (AR Z (ax (C6 c15)) Z) Z ?_))))))
     rcases jF h with⟨c16,h⟩ | ⟨c16,h⟩
     ·refine TL.run ag [19] Z Z (TL.q Z (.g Z Z (ax (C6 c16))) (AO ag Z) Z (TL.q Z (.g Z Z (ax (C6 c16))) (AH 1 Z Ep Z Z) Z (TL.q Z (.g Z Z (ax (C6 c16))) (AW Z DC) Z (TL.q Z (.g Z Z (ax (C6 c16))) (AO ag Z) Z (TL.q Z (.g Z Z (ax (C6 c16))) (AH 0 Z Ep Z Z) Z (TL.q Z (.g Z Z (ax (C6 c16))) (AW Z DC) Z (TL.q Z (.g Z Z (ax (C6 c16))) (AO ag Z) Z ?_)))))))
      refine TL.q Z .u (AR Z (ax (C6 c16)) Z) Z ?_
      rcases jF h with⟨c17,h⟩ | ⟨c17,h⟩
      ·cases h
       exact TL.nil (Bw (d:=40) (v':= .bool false) Z (congrArg Value.bool (ax (C6 c17))) (A5 [0,0,0] ⟨Z,Z⟩ (by rfl) (by rfl)))
      ·cases h
       exact TL.nil (Bw (d:=40) (v':= .bool true) Z (congrArg Value.bool (aF (C7 c17))) (A5 [0,0,0] ⟨Z,Z⟩ (by rfl) (by rfl)))
     ·refine TL.run ag [19] Z Z ?_
      iterate 7 refine AM Z (.gn Z Z (aF (C7 c16))) Z ?_
      refine TL.q Z .u (AP Z (aF (C7 c16)) Z) Z ?_
      cases h
      exact TL.nil (A5 [0,0,0] ⟨Z,Z⟩ (by rfl) (by rfl))
    ·refine TL.run ag [12] Z Z ?_
     iterate 5 refine AM Z (.gn Z Z (aF (C7 c15))) Z ?_
     refine TL.q Z .u (AP Z (aF (C7 c15)) Z) Z (TL.run ag [19] Z Z ?_)
     iterate 7 refine AM Z (.gn Z Z Z) Z ?_
     refine TL.q Z .u (AP Z Z Z) Z ?_
     cases h
     exact TL.nil (A5 [0,0,0] ⟨Z,Z⟩ (by rfl) (by rfl))
   ·refine TL.q Z .u (BL (us := [.bool a0.CS.null,jS a0.CS.data]) (vs := [.bool a1.CS.null,jS a1.CS.data]) iC Z DQ Z Z Z Z (aO (fG c13) (dW (jL (l:=a0.CS.data) (m:=a1.CS.data) c14)))) Z (TL.run ag [5] Z Z ?_)
    iterate 5 refine AM Z (.gn Z Z Z) Z ?_
    refine TL.q Z .u (AP Z Z Z) Z (TL.run ag [12] Z Z ?_)
    iterate 5 refine AM Z (.gn Z Z Z) Z ?_
    refine TL.q Z .u (AP Z Z Z) Z (TL.run ag [19] Z Z ?_)
    iterate 7 refine AM Z (.gn Z Z Z) Z ?_
    refine TL.q Z .u (AP Z Z Z) Z ?_
    cases h
    exact TL.nil (A5 [0,0,0] ⟨Z,Z⟩ (by rfl) (by rfl))
  ·refine TL.q Z .u (BL (us := [.bool a0.CS.null,jS a0.CS.data]) (vs := [.bool a1.CS.null,jS a1.CS.data]) iC Z DQ Z Z Z Z (dW (jc c13))) Z (TL.run ag [5] Z Z ?_)
   iterate 5 refine AM Z (.gn Z Z Z) Z ?_
   refine TL.q Z .u (AP Z Z Z) Z (TL.run ag [12] Z Z ?_)
   iterate 5 refine AM Z (.gn Z Z Z) Z ?_
   refine TL.q Z .u (AP Z Z Z) Z (TL.run ag [19] Z Z ?_)
   iterate 7 refine AM Z (.gn Z Z Z) Z ?_
   refine TL.q Z .u (AP Z Z Z) Z ?_
   cases h
   exact TL.nil (A5 [0,0,0] ⟨Z,Z⟩ (by rfl) (by rfl))
 ·rintro _ _ ⟨rfl,rfl⟩
  clear h
  have h:=hk12
  clear hk12
  try dsimp only at h
  rcases jF h with⟨c18,h⟩ | ⟨c18,h⟩
  ·refine X.seq (AN Z c18 (T.seq (T.region Z (TL.run ag [0] Z Z ?_))))
   obtain rfl:=C8 h
   exact TL.nil (X.seq (T.ret (AL (AJ [2] Fe (AK Z) ⟨Z,Z,Z⟩ (by rfl) (.inl Z)))))
  ·replace c18:=Dd c18
   refine X.seq (AS Z c18 (T.skip (X.seq (T.seq (T.seq (T.region Z (TL.run ag [0] Z Z (TL.q Z .u (AH 1 Z Ep Z Z) Z (TL.q Z .u (AW Z DC) Z (TL.run ag [3] Z Z (TL.nil (X.seq (T.block ?_)))))))))))))
   obtain⟨E21,hE22,hO23⟩:=C5 h
   have hk27len:=Bm (Bx hX)
   refine Bj (fun m e Rs=> ∃ (y19:Bool) (k20:Nat),k20+m=a0.CC.length∧e = [(3,jP b6),(4,.bool y19),(42,.slice A1 a0.CC.length c2),(43,jI (a0.CC.length:Int)),(44,jI (k20:Int))]∧Rs = [aC b6 50 #[.bool a1.CS.null,jS a1.CS.data,jI a1.CZ,jI a1.CO,.slice A3 a1.CC.length c4],aC b5 50 #[.bool a0.CS.null,jS a0.CS.data,jI a0.CZ,jI a0.CO,.slice A1 a0.CC.length c2],aD]∧cT a1 (a0.CC.drop k20) y19 k20=some E21) (a0.CC.length) [0,0,0] ⟨false,0,by simp,Z,Z,by rw[List.drop_zero]; exact hE22⟩ (by rfl) (by rfl) ?_
   rintro m24 _ _ ⟨y19,k20,hk27,rfl,rfl,hl26⟩
   clear hE22 h
   cases m24 with
   | zero =>
    have h:=hl26
    clear hl26
    rw[List.drop_of_length_le (by omega),cT] at h
    have hk27ge: ¬ ((k20:Int)<(a0.CC.length:Int)):=by omega
    refine T.seq (T.region Z (TL.run ag [0] Z Z (TL.nil (X.seq (T.seq (AS Z (C7 hk27ge) ?_))))))
    obtain rfl:=C8 h
    replace h:=hO23
    clear hO23
    try dsimp only at h
    refine T.exit (AV (AV (Bh (X.seq (T.seq (T.region Z (TL.run ag [0] Z Z ?_)))))))
    obtain rfl:=C8 h
    exact TL.nil (X.seq (T.ret (AJ [2] Fe (AK Z) ⟨Z,Z,Z⟩ (by rfl) (.inl Z))))
   | succ m24 =>
    have h:=hl26
    clear hl26
    obtain⟨x25,hxx25⟩: ∃ x,a0.CC[k20]? = some x:=⟨_,List.getElem?_eq_getElem (by omega)⟩
    rw[aX hxx25,cT] at h
    have hk27lt:(k20:Int)<(a0.CC.length:Int):=by omega
    refine T.seq (T.region Z (TL.run ag [0] Z Z (TL.nil (X.seq (T.seq (AN Z (C6 hk27lt) (T.skip (X.seq (T.seq (T.block (T.seq (T.region Z ?_))))))))))))
    obtain⟨gz171,oz171,rfl,z171cs,z171cl,z171cc,z171nf,z171r⟩:=Bb (by decide) (Bx hX) hxx25
    obtain⟨z171S,z171r,z171rr⟩:=z171r
    obtain⟨A172,c173,rfl,z171s0⟩:=z171r
    have hX174:(RX.of (ar 2 aS) [.slice A172 x25.CA.length c173] x25.CA).reads w F:=⟨z171S,z171s0,z171rr⟩
    refine TL.run ag [0] Z Z ?_
    refine TL.q Z .u (AX (k:=k20) Z Z Z DC DL (Da hxx25).1) Z ?_
    refine TL.q Z .u (Bn (us := [jS x25.CM,.slice A172 x25.CA.length c173]) 0 Z EK DL z171nf z171cc Z Z Z) Z (TL.alloc Z .u Tryz.zeroValue81 Z (fun b175=>(TL.run ag [4] Z Z (A9 (cs':= #[jS x25.CM,.slice A172 x25.CA.length c173]) Z .u Z Z DL Z Z Z Z (TL.nil (X.seq (T.seq (T.region Z (TL.run ag [0] Z Z (TL.q Z .u (AH 1 Z Ep Z Z) Z ?_))))))))))
    obtain⟨x176,hx177,h⟩:=C5 h
    obtain⟨gz178,oz178,rfl,z178cs,z178cl,z178cc,z178nf,z178r⟩:=Bb (by decide) (Bz hX) hx177
    obtain⟨z178S,z178r,z178rr⟩:=z178r
    obtain⟨A179,c180,rfl,z178s0⟩:=z178r
    have hX181:(RX.of (ar 2 aS) [.slice A179 x176.CA.length c180] x176.CA).reads w F:=⟨z178S,z178s0,z178rr⟩
    refine TL.run ag [2] Z Z ?_
    refine TL.q Z .u (AX (k:=k20) Z Z Z DC DL (Da hx177).1) Z ?_
    refine TL.q Z .u (Bn (us := [jS x176.CM,.slice A179 x176.CA.length c180]) 0 Z EK DL z178nf z178cc Z Z Z) Z (TL.alloc Z .u Tryz.zeroValue81 Z (fun b182=>(A9 (cs':= #[jS x176.CM,.slice A179 x176.CA.length c180]) Z .u Z Z DL Z Z Z Z (TL.nil (X.seq (T.seq (T.seq ?_)))))))
    obtain⟨y184,h,hk185⟩:=C5 h
    refine BE (fun e Rs=>e = [(3,jP b6),(4,.bool y19),(6,jP b175),(7,jP b182),(42,.slice (some ⟨gz171,oz171,none⟩) a0.CC.length c2),(43,jI (a0.CC.length:Int)),(44,jI (k20:Int)),(67,.bool y184)]∧Rs = [aC b182 81 #[jS x176.CM,.slice A179 x176.CA.length c180],aC b175 81 #[jS x25.CM,.slice A172 x25.CA.length c173],aC b6 50 #[.bool a1.CS.null,jS a1.CS.data,jI a1.CZ,jI a1.CO,.slice (some ⟨gz178,oz178,none⟩) a1.CC.length c4],aC b5 50 #[.bool a0.CS.null,jS a0.CS.data,jI a0.CZ,jI a0.CO,.slice (some ⟨gz171,oz171,none⟩) a0.CC.length c2],aD]) ?_ ?_
    ·clear hk185
     refine T.region Z (TL.run ag [0] Z Z (TL.q Z .u (AH 1 Z Dz Z Z) Z (TL.run ag [2] Z Z (TL.q Z .u (AH 0 Z Dz Z Z) Z (TL.q Z .u (Ex.sNe Z Z) Z ?_)))))
     rcases jF h with⟨c186,h⟩ | ⟨c186,h⟩
     ·refine TL.run ag [5] Z Z (TL.q Z (.g Z Z (ax (C6 c186))) (AO ag Z) Z (TL.q Z (.g Z Z (ax (C6 c186))) (AH 1 Z D9 Z Z) Z (TL.q Z (.g Z Z (ax (C6 c186))) (AW Z DD) Z (TL.q Z (.g Z Z (ax (C6 c186))) (AO ag Z) Z (TL.q Z (.g Z Z (ax (C6 c186))) (AH 0 Z D9 Z Z) Z (TL.q Z (.g Z Z (ax (C6 c186))) (AW Z DD) Z (TL.q Z (.g Z Z (ax (C6 c186))) (AO ag Z) Z ?_)))))))
      refine TL.q Z .u (AR Z (ax (C6 c186)) Z) Z ?_
      rcases jF h with⟨c187,h⟩ | ⟨c187,h⟩
      ·cases h
       exact TL.nil (Bw (d:=67) (v':= .bool false) Z (congrArg Value.bool (ax (C6 c187))) (A5 [0,0,0,0,0] ⟨Z,Z⟩ (by rfl) (by rfl)))
      ·cases h
       exact TL.nil (Bw (d:=67) (v':= .bool true) Z (congrArg Value.bool (aF (C7 c187))) (A5 [0,0,0,0,0] ⟨Z,Z⟩ (by rfl) (by rfl)))
     ·refine TL.run ag [5] Z Z ?_
      iterate 7 refine AM Z (.gn Z Z (aF (C7 c186))) Z ?_
      refine TL.q Z .u (AP Z (aF (C7 c186)) Z) Z ?_
      cases h
      exact TL.nil (A5 [0,0,0,0,0] ⟨Z,Z⟩ (by rfl) (by rfl))
    ·rintro _ _ ⟨rfl,rfl⟩
     clear h
     have h:=hk185
     clear hk185
     try dsimp only at h
     rcases jF h with⟨c188,h⟩ | ⟨c188,h⟩
     ·refine X.seq (AN Z c188 (T.seq (T.region Z (TL.run ag [0] Z Z ?_))))
      obtain rfl:=C8 h
      replace h:=hO23
      clear hO23
      try dsimp only at h
      obtain rfl:=C8 h
      exact TL.nil (X.seq (T.ret (AL (AU (AL (AL (AU (AL (AJ [4] Fe (AK Z) ⟨Z,Z,Z⟩ (by rfl) (.inl Z))))))))))
     ·replace c188:=Dd c188
      refine X.seq (AS Z c188 (T.skip (X.seq (T.seq (T.region Z (TL.run ag [0] Z Z (TL.q Z .u (AH 1 Z D9 Z Z) Z (TL.q Z .u (AW Z DD) Z (TL.run ag [3] Z Z (TL.nil (X.seq (T.block ?_))))))))))))
      obtain⟨E191,hE192,hO193⟩:=C5 h
      have hk197len:=Bm hX174
      refine Bj (fun m e Rs=> ∃ (y189:Bool) (k190:Nat),k190+m=x25.CA.length∧e = [(3,jP b6),(4,.bool y189),(7,jP b182),(42,.slice (some ⟨gz171,oz171,none⟩) a0.CC.length c2),(43,jI (a0.CC.length:Int)),(44,jI (k20:Int)),(69,.slice A172 x25.CA.length c173),(70,jI (x25.CA.length:Int)),(71,jI (k190:Int))]∧Rs = [aC b182 81 #[jS x176.CM,.slice A179 x176.CA.length c180],aC b175 81 #[jS x25.CM,.slice A172 x25.CA.length c173],aC b6 50 #[.bool a1.CS.null,jS a1.CS.data,jI a1.CZ,jI a1.CO,.slice (some ⟨gz178,oz178,none⟩) a1.CC.length c4],aC b5 50 #[.bool a0.CS.null,jS a0.CS.data,jI a0.CZ,jI a0.CO,.slice (some ⟨gz171,oz171,none⟩) a0.CC.length c2],aD]∧cR x176 (x25.CA.drop k190) y189 k190=some E191) (x25.CA.length) [0,0,0,0,0] ⟨y19,0,by simp,Z,Z,by rw[List.drop_zero]; exact hE192⟩ (by rfl) (by rfl) ?_
      rintro m194 _ _ ⟨y189,k190,hk197,rfl,rfl,hl196⟩
      clear hE192 h
      cases m194 with
      | zero =>
       have h:=hl196
       clear hl196
       rw[List.drop_of_length_le (by omega),cR] at h
       have hk197ge: ¬ ((k190:Int)<(x25.CA.length:Int)):=by omega
       refine T.seq (T.region Z (TL.run ag [0] Z Z (TL.nil (X.seq (T.seq (AS Z (C7 hk197ge) ?_))))))
       obtain rfl:=C8 h
       replace h:=hO193
       clear hO193
       try dsimp only at h
       exact T.exit (AV (AV (Bh (AZ (X.seq (T.region Z (TL.q Z .u (Ex.add Z Z (by omega)) Z (TL.run ag [1] Z Z (TL.nil (X.back (m':=m24) [2,2,2] (by omega) ⟨y189,k20+1,by omega,Z,Z,h⟩ (by rfl) (by rfl)))))))))))
      | succ m194 =>
       have h:=hl196
       clear hl196
       obtain⟨x195,hxx195⟩: ∃ x,x25.CA[k190]? = some x:=⟨_,List.getElem?_eq_getElem (by omega)⟩
       rw[aX hxx195,cR] at h
       have hk197lt:(k190:Int)<(x25.CA.length:Int):=by omega
       refine T.seq (T.region Z (TL.run ag [0] Z Z (TL.nil (X.seq (T.seq (AN Z (C6 hk197lt) (T.skip (X.seq (T.seq (T.block (T.seq (T.region Z ?_))))))))))))
       obtain⟨gz255,oz255,rfl,z255cs,z255cl,z255cc,z255nf,z255r⟩:=Bb (by decide) hX174 hxx195
       obtain⟨z255S,z255r,z255rr⟩:=z255r
       obtain⟨A256,c257,rfl,z255s0⟩:=z255r
       have hX258:(RX.of (ar 12 bT) [.slice A256 x195.CG.length c257] x195.CG).reads w F:=⟨z255S,z255s0,z255rr⟩
       refine TL.run ag [0] Z Z ?_
       refine TL.q Z .u (AX (k:=k190) Z Z Z DD DF (Da hxx195).1) Z ?_
       refine TL.q Z .u (Bn (us := [jI x195.CX,.slice A256 x195.CG.length c257]) 0 Z EB DF z255nf z255cc Z Z Z) Z (TL.alloc Z .u Tryz.zeroValue84 Z (fun b259=>(TL.run ag [4] Z Z (A9 (cs':= #[jI x195.CX,.slice A256 x195.CG.length c257]) Z .u Z Z DF Z Z Z Z (TL.nil (X.seq (T.seq (T.region Z (TL.run ag [0] Z Z (TL.q Z .u (AH 1 Z D9 Z Z) Z ?_))))))))))
       obtain⟨x260,hx261,h⟩:=C5 h
       obtain⟨gz262,oz262,rfl,z262cs,z262cl,z262cc,z262nf,z262r⟩:=Bb (by decide) hX181 hx261
       obtain⟨z262S,z262r,z262rr⟩:=z262r
       obtain⟨A263,c264,rfl,z262s0⟩:=z262r
       have hX265:(RX.of (ar 12 bT) [.slice A263 x260.CG.length c264] x260.CG).reads w F:=⟨z262S,z262s0,z262rr⟩
       refine TL.run ag [2] Z Z ?_
       refine TL.q Z .u (AX (k:=k190) Z Z Z DD DF (Da hx261).1) Z ?_
       refine TL.q Z .u (Bn (us := [jI x260.CX,.slice A263 x260.CG.length c264]) 0 Z EB DF z262nf z262cc Z Z Z) Z (TL.alloc Z .u Tryz.zeroValue84 Z (fun b266=>(A9 (cs':= #[jI x260.CX,.slice A263 x260.CG.length c264]) Z .u Z Z DF Z Z Z Z (TL.nil (X.seq (T.seq (T.seq ?_)))))))
       obtain⟨y268,h,hk269⟩:=C5 h
       refine BE (fun e Rs=>e = [(3,jP b6),(4,.bool y189),(7,jP b182),(9,jP b259),(10,jP b266),(42,.slice (some ⟨gz171,oz171,none⟩) a0.CC.length c2),(43,jI (a0.CC.length:Int)),(44,jI (k20:Int)),(69,.slice (some ⟨gz255,oz255,none⟩) x25.CA.length c173),(70,jI (x25.CA.length:Int)),(71,jI (k190:Int)),(94,.bool y268)]∧Rs = [aC b266 84 #[jI x260.CX,.slice A263 x260.CG.length c264],aC b259 84 #[jI x195.CX,.slice A256 x195.CG.length c257],aC b182 81 #[jS x176.CM,.slice (some ⟨gz262,oz262,none⟩) x176.CA.length c180],aC b175 81 #[jS x25.CM,.slice (some ⟨gz255,oz255,none⟩) x25.CA.length c173],aC b6 50 #[.bool a1.CS.null,jS a1.CS.data,jI a1.CZ,jI a1.CO,.slice (some ⟨gz178,oz178,none⟩) a1.CC.length c4],aC b5 50 #[.bool a0.CS.null,jS a0.CS.data,jI a0.CZ,jI a0.CO,.slice (some ⟨gz171,oz171,none⟩) a0.CC.length c2],aD]) ?_ ?_
       ·clear hk269
        refine T.region Z (TL.run ag [0] Z Z (TL.q Z .u (AH 1 Z Dc Z Z) Z (TL.run ag [2] Z Z (TL.q Z .u (AH 0 Z Dc Z Z) Z ?_))))
        rcases jF h with⟨c270,h⟩ | ⟨c270,h⟩
        ·refine TL.run ag [4,5] Z Z (TL.q Z (.g Z Z (ax (C6 c270))) (AO ag Z) Z (TL.q Z (.g Z Z (ax (C6 c270))) (AH 1 Z Ea Z Z) Z (TL.q Z (.g Z Z (ax (C6 c270))) (AW Z Dr) Z (TL.q Z (.g Z Z (ax (C6 c270))) (AO ag Z) Z (TL.q Z (.g Z Z (ax (C6 c270))) (AH 0 Z Ea Z Z) Z (TL.q Z (.g Z Z (ax (C6 c270))) (AW Z Dr) Z (TL.q Z (.g Z Z (ax (C6 c270))) (AO ag Z) Z ?_)))))))
         refine TL.q Z .u (AR Z (ax (C6 c270)) Z) Z ?_
         rcases jF h with⟨c271,h⟩ | ⟨c271,h⟩
         ·cases h
          exact TL.nil (Bw (d:=94) (v':= .bool false) Z (congrArg Value.bool (ax (C6 c271))) (A5 [0,0,0,0,0,0,0] ⟨Z,Z⟩ (by rfl) (by rfl)))
         ·cases h
          exact TL.nil (Bw (d:=94) (v':= .bool true) Z (congrArg Value.bool (aF (C7 c271))) (A5 [0,0,0,0,0,0,0] ⟨Z,Z⟩ (by rfl) (by rfl)))
        ·refine TL.run ag [4,5] Z Z ?_
         iterate 7 refine AM Z (.gn Z Z (aF (C7 c270))) Z ?_
         refine TL.q Z .u (AP Z (aF (C7 c270)) Z) Z ?_
         cases h
         exact TL.nil (A5 [0,0,0,0,0,0,0] ⟨Z,Z⟩ (by rfl) (by rfl))
       ·rintro _ _ ⟨rfl,rfl⟩
        clear h
        have h:=hk269
        clear hk269
        try dsimp only at h
        rcases jF h with⟨c272,h⟩ | ⟨c272,h⟩
        ·refine X.seq (AN Z c272 (T.seq (T.region Z (TL.run ag [0] Z Z ?_))))
         obtain rfl:=C8 h
         replace h:=hO193
         clear hO193
         try dsimp only at h
         obtain rfl:=C8 h
         replace h:=hO23
         clear hO23
         try dsimp only at h
         obtain rfl:=C8 h
         exact TL.nil (X.seq (T.ret (AL (AU (AL (AL (AU (AU (AL (AL (AU (AL (AJ [6] Fe (AK Z) ⟨Z,Z,Z⟩ (by rfl) (.inl Z))))))))))))))
        ·replace c272:=Dd c272
         refine X.seq (AS Z c272 (T.skip (X.seq (T.seq (T.region Z (TL.run ag [0] Z Z (TL.q Z .u (AH 1 Z Ea Z Z) Z (TL.q Z .u (AW Z Dr) Z (TL.run ag [3] Z Z (TL.nil (X.seq (T.block ?_))))))))))))
         obtain⟨E275,hE276,hO277⟩:=C5 h
         have hk281len:=Bm hX258
         refine Bj (fun m e Rs=> ∃ (y273:Bool) (k274:Nat),k274+m=x195.CG.length∧e = [(3,jP b6),(4,.bool y273),(7,jP b182),(10,jP b266),(42,.slice (some ⟨gz171,oz171,none⟩) a0.CC.length c2),(43,jI (a0.CC.length:Int)),(44,jI (k20:Int)),(69,.slice (some ⟨gz255,oz255,none⟩) x25.CA.length c173),(70,jI (x25.CA.length:Int)),(71,jI (k190:Int)),(96,.slice A256 x195.CG.length c257),(97,jI (x195.CG.length:Int)),(98,jI (k274:Int))]∧Rs = [aC b266 84 #[jI x260.CX,.slice A263 x260.CG.length c264],aC b259 84 #[jI x195.CX,.slice A256 x195.CG.length c257],aC b182 81 #[jS x176.CM,.slice (some ⟨gz262,oz262,none⟩) x176.CA.length c180],aC b175 81 #[jS x25.CM,.slice (some ⟨gz255,oz255,none⟩) x25.CA.length c173],aC b6 50 #[.bool a1.CS.null,jS a1.CS.data,jI a1.CZ,jI a1.CO,.slice (some ⟨gz178,oz178,none⟩) a1.CC.length c4],aC b5 50 #[.bool a0.CS.null,jS a0.CS.data,jI a0.CZ,jI a0.CO,.slice (some ⟨gz171,oz171,none⟩) a0.CC.length c2],aD]∧cQ x260 (x195.CG.drop k274) y273 k274=some E275) (x195.CG.length) [0,0,0,0,0,0,0] ⟨y189,0,by simp,Z,Z,by rw[List.drop_zero]; exact hE276⟩ (by rfl) (by rfl) ?_
         rintro m278 _ _ ⟨y273,k274,hk281,rfl,rfl,hl280⟩
         clear hE276 h
         cases m278 with
         | zero =>
          have h:=hl280
          clear hl280
          rw[List.drop_of_length_le (by omega),cQ] at h
          have hk281ge: ¬ ((k274:Int)<(x195.CG.length:Int)):=by omega
          refine T.seq (T.region Z (TL.run ag [0] Z Z (TL.nil (X.seq (T.seq (AS Z (C7 hk281ge) ?_))))))
          obtain rfl:=C8 h
          replace h:=hO277
          clear hO277
          try dsimp only at h
          exact T.exit (AV (AV (Bh (AZ (X.seq (T.region Z (TL.q Z .u (Ex.add Z Z (by omega)) Z (TL.run ag [1] Z Z (TL.nil (X.back (m':=m194) [2,2,2,2,2] (by omega) ⟨y273,k190+1,by omega,Z,Z,h⟩ (by rfl) (by rfl)))))))))))
         | succ m278 =>
          have h:=hl280
          clear hl280
          obtain⟨x279,hxx279⟩: ∃ x,x195.CG[k274]? = some x:=⟨_,List.getElem?_eq_getElem (by omega)⟩
          rw[aX hxx279,cQ] at h
          have hk281lt:(k274:Int)<(x195.CG.length:Int):=by omega
          refine T.seq (T.region Z (TL.run ag [0] Z Z (TL.nil (X.seq (T.seq (AN Z (C6 hk281lt) (T.skip (X.seq (T.seq (T.block (T.seq (T.region Z ?_))))))))))))
          obtain⟨gz296,oz296,rfl,z296cs,z296cl,z296cc,z296nf,z296r⟩:=Bb (by decide) hX258 hxx279
          obtain⟨z296S,z296r,z296rr⟩:=z296r
          obtain⟨A297,c298,rfl,z296s0⟩:=z296r
          have hX299:(RX.of (ar 7 aU) [.slice A297 x279.Cy.length c298] x279.Cy).reads w F:=⟨z296S,z296s0,z296rr⟩
          refine TL.run ag [0] Z Z ?_
          refine TL.q Z .u (AX (k:=k274) Z Z Z Dr Di (Da hxx279).1) Z ?_
          refine TL.q Z .u (Bn (us := [jI x279.CP,jI x279.CI,.bool x279.CV,.bool x279.C0,.bool x279.CL,jI x279.CN,jI x279.CH,jI x279.CW,jI x279.CE,jI x279.CK,jI x279.CD,.slice A297 x279.Cy.length c298]) 0 Z Dx Di z296nf z296cc Z Z Z) Z (TL.alloc Z .u Tryz.zeroValue27 Z (fun b300=>(TL.run ag [4] Z Z (A9 (cs':= #[jI x279.CP,jI x279.CI,.bool x279.CV,.bool x279.C0,.bool x279.CL,jI x279.CN,jI x279.CH,jI x279.CW,jI x279.CE,jI x279.CK,jI x279.CD,.slice A297 x279.Cy.length c298]) Z .u Z Z Di Z Z Z Z ?_))))
          refine TL.nil (X.seq (T.seq (Bd (.q 0 (.q 1 (.q 2 (.q 3 (.q 4 (.q 5 (.e 6 (.q 7 .nil)))))))) [0,0,0,0,0,0,0,0] Z io (NoP.seq (NoP.blk (NoP.seq (NoP.seq (NoP.blk (NoP.blk (NoP.seq (NoP.seq (NoP.blk (NoP.blk (NoP.seq (NoP.seq (NoP.blk (NoP.seq aP)))))))))))))) (by kernel_rfl) ?_)))
          refine TD.q Z .u (AY (us := [jI x279.CP,jI x279.CI,.bool x279.CV,.bool x279.C0,.bool x279.CL,jI x279.CN,jI x279.CH,jI x279.CW,jI x279.CE,jI x279.CK,jI x279.CD,.slice A297 x279.Cy.length c298]) 0 Z Dx Di Z Z Z) Z (TD.run ag [1] Z Z (TD.q Z .u (AH 1 Z Ea Z Z) Z ?_))
          obtain⟨x301,hx302,h⟩:=C5 h
          obtain⟨gz303,oz303,rfl,z303cs,z303cl,z303cc,z303nf,z303r⟩:=Bb (by decide) hX265 hx302
          obtain⟨z303S,z303r,z303rr⟩:=z303r
          obtain⟨A304,c305,rfl,z303s0⟩:=z303r
          have hX306:(RX.of (ar 7 aU) [.slice A304 x301.Cy.length c305] x301.Cy).reads w F:=⟨z303S,z303s0,z303rr⟩
          refine TD.run ag [3] Z Z ?_
          refine TD.q Z .u (AX (k:=k274) Z Z Z Dr Di (Da hx302).1) Z ?_
          refine TD.q Z .u (Bn (us := [jI x301.CP,jI x301.CI,.bool x301.CV,.bool x301.C0,.bool x301.CL,jI x301.CN,jI x301.CH,jI x301.CW,jI x301.CE,jI x301.CK,jI x301.CD,.slice A304 x301.Cy.length c305]) 0 Z Dx Di z303nf z303cc Z Z Z) Z ?_
          obtain⟨x307,hx308,h⟩:=C5 h
          refine Bk Z .u (.fn Tryz.call81 Z) (nq x279 _ _ x301 _ _ _ hx308) (fun _ hs=>(BJ (Ba hs hX299) (Ba hs hX306))) Z [0,0,0,0,0,0,0,0] (Z) (TD.run ag [7] Z Z ?_)
          rcases jF h with⟨c309,h⟩ | ⟨c309,h⟩
          ·exact TD.nil (X.seq (AS Z (ax c309) (T.skip (AZ (X.seq (T.region Z (TL.q Z .u (Ex.add Z Z (by omega)) Z (TL.run ag [1] Z Z (TL.nil (X.back (m':=m278) [1,1,1,1,1,1,1] (by omega) ⟨y273,k274+1,by omega,Z,Z,h⟩ (by rfl) (by rfl)))))))))))
          ·replace c309:=Dd c309
           refine TD.nil (X.seq (AN Z (aF c309) (T.seq (T.region Z (TL.run ag [0] Z Z ?_)))))
           obtain rfl:=C8 h
           replace h:=hO277
           clear hO277
           try dsimp only at h
           obtain rfl:=C8 h
           replace h:=hO193
           clear hO193
           try dsimp only at h
           obtain rfl:=C8 h
           replace h:=hO23
           clear hO23
           try dsimp only at h
           obtain rfl:=C8 h
           exact TL.nil (X.seq (T.ret (AU (AL (AL (AU (AU (AL (AL (AU (AU (AL (AL (AU (AL (AJ [7] Fe (AK Z) ⟨Z,Z,Z⟩ (by rfl) (.inl Z)))))))))))))))))
def oB:fh := [(189,0,0),(189,1,1)]
theorem ai:(oB).OK Tryz.prog:=⟨FOK.mk EU rfl DT rfl,FOK.mk EU rfl Fv rfl,trivial⟩
theorem gA:Tryz.prog.follows .mixedOrders=true:=by kernel_rfl
def cH (a0:List UInt8) (a1:List UInt8):Nat→Bool→Nat→Option (Lp Bool (Bool×Nat))
 | 0,_,_=>none
 | m6+1,y1,k2=>if (k2:Int)<(a0.length:Int) then (if (k2:Int)<(a1.length:Int) then ((a0[k2]?).bind fun ch12=>(a1[k2]?).bind fun ch14=>if (ch12.toNat:Int)=(ch14.toNat:Int) then (if -9223372036854775808≤((k2:Int)+1)∧((k2:Int)+1)≤9223372036854775807 then (cH a0 a1 m6 y1 (k2+1)) else none) else (if (ch12.toNat:Int)<(ch14.toNat:Int) then some (Lp.ret true) else some (Lp.ret false))) else (some (Lp.go (y1,k2)))) else (some (Lp.go (y1,k2)))
def gT (a0:List UInt8) (a1:List UInt8):Option (Bool):=(cH a0 a1 (((a1.length:Int)).toNat+1) false 0).bind fun e=>match e with | .ret r=>some r | .go (y21,k22)=>(if (a0.length:Int)<(a1.length:Int) then some true else some false)
theorem pm (a0:List UInt8) (a1:List UInt8) (r:Bool) (h:gT a0 a1=some r):aA Tryz.prog 153 #[jS a0,jS a1] .triv (aD) (fun v A' N=>v= .bool r∧A'=aD∧N = []):=by
 refine aM Tryz.func153 Z Tryz.ntmps153 Z ?_
 intro F w hX
 unfold gT at h
 refine T.seq (T.region Z (TL.run ai [0] Z Z (TL.nil (X.seq (T.seq (T.seq (T.region Z (TL.run ai [0] Z Z (TL.nil (X.seq (T.block ?_)))))))))))
 obtain⟨E3,hE4,hO5⟩:=C5 h
 refine Bj (fun m e Rs=> ∃ (y1:Bool) (k2:Nat),e = [(0,jS a0),(1,jS a1),(4,.bool y1),(5,jI (k2:Int))]∧Rs = [aD]∧cH a0 a1 m y1 k2=some E3) (((a1.length:Int)).toNat+1) [0] ⟨false,0,Z,Z,by exact hE4⟩ (by rfl) (by rfl) ?_
 rintro m6 _ _ ⟨y1,k2,rfl,rfl,hl8⟩
 clear hE4 h
 cases m6 with
 | zero =>
  rw[cH] at hl8
  cases hl8
 | succ m6 =>
  have h:=hl8
  clear hl8
  rw[cH] at h
  refine T.seq (T.seq (T.region Z (TL.run ai [0,1] Z Z (TL.q Z .u (Br Z Dm) Z ?_))))
  rcases jF h with⟨c10,h⟩ | ⟨c10,h⟩
  ·refine TL.run ai [3,4] Z Z ?_
   iterate 2 refine TL.q Z (.g Z Z (C6 c10)) (AO ai Z) Z ?_
   refine TL.q Z (.g Z Z (C6 c10)) (Br Z Dm) Z (TL.q Z (.g Z Z (C6 c10)) (AO ai Z) Z (TL.q Z .u (AP Z (C6 c10) Z) Z ?_))
   rcases jF h with⟨c11,h⟩ | ⟨c11,h⟩
   ·refine TL.nil (X.seq (AN Z (C6 c11) ?_))
    refine T.skip (X.seq (T.seq (T.block (T.seq (Bd (.q 0 (.q 1 (.q 2 (.q 3 (.q 4 (.q 5 (.q 6 .nil))))))) [0] Z gA (NoP.seq (NoP.blk (NoP.seq (NoP.seq (NoP.blk (NoP.seq aP)))))) (by kernel_rfl) ?_)))))
    obtain⟨ch12,hc13,h⟩:=C5 h
    refine TD.run ai [0,1] Z Z (TD.q Z .u (Ex.sIx Z Z Z Tryz.underlying9 hc13) Z ?_)
    obtain⟨ch14,hc15,h⟩:=C5 h
    refine TD.run ai [3,4] Z Z (TD.q Z .u (Ex.sIx Z Z Z Tryz.underlying9 hc15) Z (TD.run ai [6] Z Z ?_))
    rcases jF h with⟨c16,h⟩ | ⟨c16,h⟩
    ·refine TD.nil (X.seq (AS Z (ax (C6 c16)) (T.skip (AZ (X.seq (T.region Z ?_))))))
     replace h:=an h
     obtain⟨c17,h⟩:=h
     exact TL.run ai [0] Z Z (TL.q Z .u (Ex.add Z Z c17) Z (TL.run ai [2] Z Z (TL.nil (X.back (m':=m6) [0] (by omega) ⟨y1,k2+1,Z,Z,h⟩ (by rfl) (by rfl)))))
    ·refine TD.nil (X.seq (AN Z (aF (C7 c16)) ?_))
     refine T.seq (Bd (.q 0 (.q 1 (.q 2 (.q 3 (.q 4 (.q 5 (.q 6 (.q 7 .nil)))))))) [0] Z gA (NoP.seq (NoP.blk (NoP.seq (NoP.seq (NoP.blk (NoP.seq aP)))))) (by kernel_rfl) ?_)
     refine TD.run ai [0,1] Z Z (TD.q Z .u (Ex.sIx Z Z Z Tryz.underlying9 hc13) Z (TD.run ai [3,4] Z Z (TD.q Z .u (Ex.sIx Z Z Z Tryz.underlying9 hc15) Z (TD.run ai [6,7] Z Z ?_))))
     rcases jF h with⟨c18,h⟩ | ⟨c18,h⟩
     ·obtain rfl:=C8 h
      replace h:=hO5
      clear hO5
      try dsimp only at h
      obtain rfl:=C8 h
      exact TD.nil (X.seq (T.ret (AU (AL (AL (AU (AL (AJ [0] EQ (AK (v:= .bool true) (congrArg (fun b=>some (Value.bool b)) (C6 c18))) ⟨Z,Z,Z⟩ (by rfl) (.inl Z)))))))))
     ·obtain rfl:=C8 h
      replace h:=hO5
      clear hO5
      try dsimp only at h
      obtain rfl:=C8 h
      exact TD.nil (X.seq (T.ret (AU (AL (AL (AU (AL (AJ [0] EQ (AK (v:= .bool false) (congrArg (fun b=>some (Value.bool b)) (C7 c18))) ⟨Z,Z,Z⟩ (by rfl) (.inl Z)))))))))
   ·refine TL.nil (X.seq (AS Z (C7 c11) ?_))
    obtain rfl:=C8 h
    replace h:=hO5
    clear hO5
    try dsimp only at h
    refine T.exit (AV (AV (Bh (X.seq (T.seq (T.region Z (TL.run ai [0] Z Z (TL.q Z .u (Br Z Dm) Z (TL.run ai [2] Z Z (TL.q Z .u (Br Z Dm) Z (TL.run ai [4,5] Z Z ?_)))))))))))
    rcases jF h with⟨c19,h⟩ | ⟨c19,h⟩
    ·obtain rfl:=C8 h
     exact TL.nil (X.seq (T.ret (AJ [0] EQ (AK (v:= .bool true) (congrArg (fun b=>some (Value.bool b)) (C6 c19))) ⟨Z,Z,Z⟩ (by rfl) (.inl Z))))
    ·obtain rfl:=C8 h
     exact TL.nil (X.seq (T.ret (AJ [0] EQ (AK (v:= .bool false) (congrArg (fun b=>some (Value.bool b)) (C7 c19))) ⟨Z,Z,Z⟩ (by rfl) (.inl Z))))
  ·refine TL.run ai [3,4] Z Z ?_
   iterate 4 refine AM Z (.gn Z Z (C7 c10)) Z ?_
   refine TL.q Z .u (AR Z (C7 c10) Z) Z (TL.nil (X.seq (AS Z Z ?_)))
   obtain rfl:=C8 h
   replace h:=hO5
   clear hO5
   try dsimp only at h
   refine T.exit (AV (AV (Bh (X.seq (T.seq (T.region Z (TL.run ai [0] Z Z (TL.q Z .u (Br Z Dm) Z (TL.run ai [2] Z Z (TL.q Z .u (Br Z Dm) Z (TL.run ai [4,5] Z Z ?_)))))))))))
   rcases jF h with⟨c20,h⟩ | ⟨c20,h⟩
   ·obtain rfl:=C8 h
    exact TL.nil (X.seq (T.ret (AJ [0] EQ (AK (v:= .bool true) (congrArg (fun b=>some (Value.bool b)) (C6 c20))) ⟨Z,Z,Z⟩ (by rfl) (.inl Z))))
   ·obtain rfl:=C8 h
    exact TL.nil (X.seq (T.ret (AJ [0] EQ (AK (v:= .bool false) (congrArg (fun b=>some (Value.bool b)) (C7 c20))) ⟨Z,Z,Z⟩ (by rfl) (.inl Z))))
def bW (x13:Top):Nat→Bool→Nat→Option (Lp Bool (Bool×Nat))
 | 0,_,_=>none
 | m39+1,y34,k35=>if (k35:Int)<(x13.CA.length:Int) then ((x13.CA[k35]?).bind fun x44=>if x44<0 then some (Lp.ret false) else (if x44>2147483647 then some (Lp.ret false) else (if (k35:Int)>0 then (if -9223372036854775808≤((k35:Int) - 1)∧((k35:Int) - 1)≤9223372036854775807 then (if 0≤((k35:Int) - 1) then ((x13.CA[((k35:Int) - 1).toNat]?).bind fun x52=>if x52≥x44 then some (Lp.ret false) else (if -9223372036854775808≤((k35:Int)+1)∧((k35:Int)+1)≤9223372036854775807 then (bW x13 m39 y34 (k35+1)) else none)) else none) else none) else (if -9223372036854775808≤((k35:Int)+1)∧((k35:Int)+1)≤9223372036854775807 then (bW x13 m39 y34 (k35+1)) else none)))) else (some (Lp.go (y34,k35)))
def db (x13:Top):Nat→Bool→Nat→Option (Lp Bool (Bool×Nat))
 | 0,_,_=>none
 | m67+1,y62,k63=>if (k63:Int)<(x13.CA.length:Int) then ((x13.CA[k63]?).bind fun x72=>if x72<0 then some (Lp.ret false) else (if x72>2147483647 then some (Lp.ret false) else (if (k63:Int)>0 then (if -9223372036854775808≤((k63:Int) - 1)∧((k63:Int) - 1)≤9223372036854775807 then (if 0≤((k63:Int) - 1) then ((x13.CA[((k63:Int) - 1).toNat]?).bind fun x80=>if x80≥x72 then some (Lp.ret false) else (if -9223372036854775808≤((k63:Int)+1)∧((k63:Int)+1)≤9223372036854775807 then (db x13 m67 y62 (k63+1)) else none)) else none) else none) else (if -9223372036854775808≤((k63:Int)+1)∧((k63:Int)+1)≤9223372036854775807 then (db x13 m67 y62 (k63+1)) else none)))) else (some (Lp.go (y62,k63)))
def cw (a0:List Top):Nat→Bool→Nat→Option (Lp Bool (Bool×Nat))
 | 0,_,_=>none
 | m8+1,y3,k4=>if (k4:Int)<(a0.length:Int) then ((a0[k4]?).bind fun x13=>if (x13.CM.length:Int)<1 then some (Lp.ret false) else (if (x13.CM.length:Int)>32767 then some (Lp.ret false) else (if (x13.CA.length:Int)<1 then some (Lp.ret false) else (if (k4:Int)>0 then (if -9223372036854775808≤((k4:Int) - 1)∧((k4:Int) - 1)≤9223372036854775807 then (if 0≤((k4:Int) - 1) then ((a0[((k4:Int) - 1).toNat]?).bind fun x25=>(gT x25.CM x13.CM).bind fun x31=>if x31=true then ((bW x13 (((x13.CA.length:Int)).toNat+1) y3 0).bind fun e=>match e with | .ret r=>some (Lp.ret r) | .go (y59,k60)=>(if -9223372036854775808≤((k4:Int)+1)∧((k4:Int)+1)≤9223372036854775807 then (cw a0 m8 y59 (k4+1)) else none)) else some (Lp.ret false)) else none) else none) else ((db x13 (((x13.CA.length:Int)).toNat+1) y3 0).bind fun e=>match e with | .ret r=>some (Lp.ret r) | .go (y87,k88)=>(if -9223372036854775808≤((k4:Int)+1)∧((k4:Int)+1)≤9223372036854775807 then (cw a0 m8 y87 (k4+1)) else none)))))) else (some (Lp.go (y3,k4)))
theorem po (a0:List Top) (u1:Bool) (u2:Nat):cw a0 0 u1 u2=none:=rfl
theorem pp (a0:List Top) (m8:Nat) (y3:Bool) (k4:Nat):cw a0 (m8+1) y3 k4=(if (k4:Int)<(a0.length:Int) then ((a0[k4]?).bind fun x13=>if (x13.CM.length:Int)<1 then some (Lp.ret false) else (if (x13.CM.length:Int)>32767 then some (Lp.ret false) else (if (x13.CA.length:Int)<1 then some (Lp.ret false) else (if (k4:Int)>0 then (if -9223372036854775808≤((k4:Int) - 1)∧((k4:Int) - 1)≤9223372036854775807 then (if 0≤((k4:Int) - 1) then ((a0[((k4:Int) - 1).toNat]?).bind fun x25=>(gT x25.CM x13.CM).bind fun x31=>if x31=true then ((bW x13 (((x13.CA.length:Int)).toNat+1) y3 0).bind fun e=>match e with | .ret r=>some (Lp.ret r) | .go (y59,k60)=>(if -9223372036854775808≤((k4:Int)+1)∧((k4:Int)+1)≤9223372036854775807 then (cw a0 m8 y59 (k4+1)) else none)) else some (Lp.ret false)) else none) else none) else ((db x13 (((x13.CA.length:Int)).toNat+1) y3 0).bind fun e=>match e with | .ret r=>some (Lp.ret r) | .go (y87,k88)=>(if -9223372036854775808≤((k4:Int)+1)∧((k4:Int)+1)≤9223372036854775807 then (cw a0 m8 y87 (k4+1)) else none)))))) else (some (Lp.go (y3,k4)))):=rfl
def jo (a0:List Top):Option (Bool):=(cw a0 (((a0.length:Int)).toNat+1) false 0).bind fun e=>match e with | .ret r=>some r | .go (y90,k91)=>some true
theorem pq (a0:List Top) (A1:Option Addr) (c2:Nat) (r:Bool) (h:jo a0=some r):aA Tryz.prog 128 #[.slice A1 a0.length c2] (RX.of (ar 2 sI) [.slice A1 a0.length c2] a0) (aD) (fun v A' N=>v= .bool r∧A'=aD∧N = []):=by
 refine aM Tryz.func128 Z Tryz.ntmps128 Z ?_
 intro F w hX
 unfold jo at h
 refine T.seq (T.region Z (TL.run ai [0] Z Z (TL.nil (X.seq (T.seq (T.seq (T.region Z (TL.run ai [0] Z Z (TL.nil (X.seq (T.block ?_)))))))))))
 obtain⟨E5,hE6,hO7⟩:=C5 h
 refine Bj (fun m e Rs=> ∃ (y3:Bool) (k4:Nat),e = [(0,.slice A1 a0.length c2),(2,.bool y3),(3,jI (k4:Int))]∧Rs = [aD]∧cw a0 m y3 k4=some E5) (((a0.length:Int)).toNat+1) [0] ⟨false,0,Z,Z,by exact hE6⟩ (by rfl) (by rfl) ?_
 rintro m8 _ _ ⟨y3,k4,rfl,rfl,hl10⟩
 clear hE6 h
 cases m8 with
 | zero =>
  rw[po] at hl10
  cases hl10
 | succ m8 =>
  have h:=hl10
  clear hl10
  rw[pp] at h
  refine T.seq (T.seq (T.region Z (TL.run ai [0,1] Z Z (TL.q Z .u (AW Z DU) Z (TL.run ai [3] Z Z ?_)))))
  rcases jF h with⟨c12,h⟩ | ⟨c12,h⟩
  ·refine TL.nil (X.seq (AN Z (C6 c12) (T.skip (X.seq (T.seq (T.block (T.seq (T.seq (T.region Z ?_)))))))))
   obtain⟨x13,hx14,h⟩:=C5 h
   obtain⟨gz15,oz15,rfl,z15cs,z15cl,z15cc,z15nf,z15r⟩:=Bb (by decide) hX hx14
   obtain⟨z15S,z15r,z15rr⟩:=z15r
   obtain⟨A16,c17,rfl,z15s0⟩:=z15r
   have hX18:(RX.of (ar 1 fc) [.slice A16 x13.CA.length c17] x13.CA).reads w F:=⟨z15S,z15s0,z15rr⟩
   refine TL.run ai [0,1] Z Z ?_
   refine TL.q Z .u (AX (k:=k4) Z Z Z DU DZ (Da hx14).1) Z ?_
   refine TL.run ai [3] Z Z (TL.q Z .u (Bt 0 Z Dz z15nf z15cc Z Z) Z (TL.q Z .u (Br Z Dm) Z ?_))
   rcases jF h with⟨c19,h⟩ | ⟨c19,h⟩
   ·refine TL.run ai [6,7] Z Z ?_
    iterate 7 refine AM Z (.gn Z Z (C6 c19)) Z ?_
    refine TL.q Z .u (AP Z (C6 c19) Z) Z (TL.run ai [16] Z Z ?_)
    iterate 7 refine AM Z (.gn Z Z Z) Z ?_
    refine TL.q Z .u (AP Z Z Z) Z (TL.nil (X.seq (AN Z Z (T.seq (T.region Z (TL.run ai [0] Z Z ?_))))))
    obtain rfl:=C8 h
    replace h:=hO7
    clear hO7
    try dsimp only at h
    obtain rfl:=C8 h
    exact TL.nil (X.seq (T.ret (AL (AU (AL (AL (AU (AL (AJ [0] Ek (AK Z) ⟨Z,Z,Z⟩ (by rfl) (.inl Z))))))))))
   ·refine TL.run ai [6,7] Z Z ?_
    iterate 2 refine TL.q Z (.g Z Z (C7 c19)) (AO ai Z) Z ?_
    refine TL.q Z (.g Z Z (C7 c19)) (AX (k:=k4) Z Z Z DU DZ (Da hx14).1) Z ?_
    refine TL.q Z (.g Z Z (C7 c19)) (AO ai Z) Z (TL.q Z (.g Z Z (C7 c19)) (Bt 0 Z Dz z15nf z15cc Z Z) Z (TL.q Z (.g Z Z (C7 c19)) (Br Z Dm) Z (TL.q Z (.g Z Z (C7 c19)) (AO ai Z) Z (TL.q Z .u (AR Z (C7 c19) Z) Z ?_))))
    rcases jF h with⟨c20,h⟩ | ⟨c20,h⟩
    ·refine TL.run ai [16] Z Z ?_
     iterate 7 refine AM Z (.gn Z Z (C6 c20)) Z ?_
     refine TL.q Z .u (AP Z (C6 c20) Z) Z (TL.nil (X.seq (AN Z Z (T.seq (T.region Z (TL.run ai [0] Z Z ?_))))))
     obtain rfl:=C8 h
     replace h:=hO7
     clear hO7
     try dsimp only at h
     obtain rfl:=C8 h
     exact TL.nil (X.seq (T.ret (AL (AU (AL (AL (AU (AL (AJ [0] Ek (AK Z) ⟨Z,Z,Z⟩ (by rfl) (.inl Z))))))))))
    ·refine TL.run ai [16] Z Z ?_
     iterate 2 refine TL.q Z (.g Z Z (C7 c20)) (AO ai Z) Z ?_
     refine TL.q Z (.g Z Z (C7 c20)) (AX (k:=k4) Z Z Z DU DZ (Da hx14).1) Z ?_
     refine TL.q Z (.g Z Z (C7 c20)) (AO ai Z) Z (TL.q Z (.g Z Z (C7 c20)) (Bt 1 Z EE z15nf z15cc Z Z) Z (TL.q Z (.g Z Z (C7 c20)) (AW Z Dv) Z (TL.q Z (.g Z Z (C7 c20)) (AO ai Z) Z (TL.q Z .u (AR Z (C7 c20) Z) Z ?_))))
     rcases jF h with⟨c21,h⟩ | ⟨c21,h⟩
     ·refine TL.nil (X.seq (AN Z (C6 c21) (T.seq (T.region Z (TL.run ai [0] Z Z ?_)))))
      obtain rfl:=C8 h
      replace h:=hO7
      clear hO7
      try dsimp only at h
      obtain rfl:=C8 h
      exact TL.nil (X.seq (T.ret (AL (AU (AL (AL (AU (AL (AJ [0] Ek (AK Z) ⟨Z,Z,Z⟩ (by rfl) (.inl Z))))))))))
     ·refine TL.nil (X.seq (AS Z (C7 c21) ?_))
      refine T.skip (X.seq (T.seq (T.seq (Bd (.q 0 (.q 1 (.q 2 (.q 3 (.q 4 (.q 5 (.q 6 (.q 7 (.q 8 (.q 9 (.q 10 (.q 11 (.q 12 (.q 13 (.e 14 (.q 15 (.q 16 .nil))))))))))))))))) [0] Z gA (NoP.seq (NoP.seq (NoP.blk (NoP.seq (NoP.seq (NoP.blk (NoP.seq aP))))))) (by kernel_rfl) ?_))))
      rcases jF h with⟨c22,h⟩ | ⟨c22,h⟩
      ·refine TD.run ai [0,1,2] Z Z ?_
       iterate 2 refine TD.q Z (.g Z Z (C6 c22)) (AO ai Z) Z ?_
       replace h:=an h
       obtain⟨c23,h⟩:=h
       refine TD.q Z (.g Z Z (C6 c22)) (Ex.sub Z Z c23) Z ?_
       replace h:=an h
       obtain⟨c24,h⟩:=h
       obtain⟨x25,hx26,h⟩:=C5 h
       obtain⟨z27cs,z27cl,z27cc,z27nf,z27r⟩:=Cd (by decide) hX hx26
       obtain⟨z27S,z27r,z27rr⟩:=z27r
       obtain⟨A28,c29,rfl,z27s0⟩:=z27r
       have hX30:(RX.of (ar 1 fc) [.slice A28 x25.CA.length c29] x25.CA).reads w F:=⟨z27S,z27s0,z27rr⟩
       refine TD.q Z (.g Z Z (C6 c22)) (AX (k:=((k4:Int) - 1).toNat) Z Z ((Int.toNat_of_nonneg c24).symm) DU DZ (Da hx26).1) Z ?_
       refine TD.q Z (.g Z Z (C6 c22)) (AO ai Z) Z (TD.q Z (.g Z Z (C6 c22)) (Bt 0 Z Dz z27nf z27cc Z Z) Z ?_)
       iterate 2 refine TD.q Z (.g Z Z (C6 c22)) (AO ai Z) Z ?_
       refine TD.q Z (.g Z Z (C6 c22)) (AX (k:=k4) Z Z Z DU DZ (Da hx14).1) Z ?_
       refine TD.q Z (.g Z Z (C6 c22)) (AO ai Z) Z (TD.q Z (.g Z Z (C6 c22)) (Bt 0 Z Dz z15nf z15cc Z Z) Z ?_)
       obtain⟨x31,hx32,h⟩:=C5 h
       refine Bk Z (.g Z Z (C6 c22)) (.fn Tryz.call153 Z) (pm x25.CM x13.CM _ hx32) (fun _ hs=>(AQ _ _)) Z [0] (Z) (TD.q Z (.g Z Z (C6 c22)) (AO ai Z) Z (TD.q Z .u (AP Z (C6 c22) Z) Z ?_))
       rcases jF h with⟨c33,h⟩ | ⟨c33,h⟩
       ·refine TD.nil (X.seq (AS Z (ax c33) (T.skip (X.seq (T.seq (T.region Z (TL.run ai [0] Z Z (TL.nil (X.seq (T.block ?_))))))))))
        obtain⟨E36,hE37,hO38⟩:=C5 h
        refine Bj (fun m e Rs=> ∃ (y34:Bool) (k35:Nat),e = [(0,.slice (some ⟨gz15,oz15,none⟩) a0.length c2),(2,.bool y34),(3,jI (k4:Int)),(4,jI (k35:Int))]∧Rs = [aD]∧bW x13 m y34 k35=some E36) (((x13.CA.length:Int)).toNat+1) [0] ⟨y3,0,Z,Z,by exact hE37⟩ (by rfl) (by rfl) ?_
        rintro m39 _ _ ⟨y34,k35,rfl,rfl,hl41⟩
        clear hE37 h
        cases m39 with
        | zero =>
         rw[bW] at hl41
         cases hl41
        | succ m39 =>
         have h:=hl41
         clear hl41
         rw[bW] at h
         refine T.seq (T.seq (T.region Z (TL.run ai [0,1,2] Z Z ?_)))
         refine TL.q Z .u (AX (k:=k4) Z Z Z DU DZ (Da hx14).1) Z ?_
         refine TL.run ai [4] Z Z (TL.q Z .u (Bt 1 Z EE z15nf z15cc Z Z) Z (TL.q Z .u (AW Z Dv) Z (TL.run ai [7] Z Z ?_)))
         rcases jF h with⟨c43,h⟩ | ⟨c43,h⟩
         ·refine TL.nil (X.seq (AN Z (C6 c43) (T.skip (X.seq (T.seq (T.block (T.seq (T.region Z (TL.run ai [0,1] Z Z ?_)))))))))
          refine TL.q Z .u (AX (k:=k4) Z Z Z DU DZ (Da hx14).1) Z ?_
          refine TL.run ai [3] Z Z (TL.q Z .u (Bt 1 Z EE z15nf z15cc Z Z) Z ?_)
          obtain⟨x44,hx45,h⟩:=C5 h
          obtain⟨gz46,oz46,rfl,z46cs,z46cl,z46cc,z46nf,z46r⟩:=Bb (by decide) hX18 hx45
          obtain⟨z46S,z46r,z46rr⟩:=z46r
          obtain rfl:z46cs = [jI x44]:=z46r
          refine TL.run ai [5] Z Z ?_
          refine TL.q Z .u (AX (k:=k35) Z Z Z Dv De (Da hx45).1) Z ?_
          refine TL.q Z .u (Bt 0 Z Dc z46nf z46cc Z Z) Z (TL.run ai [8] Z Z (TL.nil (X.seq (T.seq (T.region Z ?_)))))
          rcases jF h with⟨c47,h⟩ | ⟨c47,h⟩
          ·refine TL.run ai [0,1,2] Z Z ?_
           iterate 2 refine AM Z (.gn Z Z (C6 c47)) Z ?_
           refine TL.q Z .u (AP Z (C6 c47) Z) Z (TL.run ai [6] Z Z ?_)
           iterate 3 refine AM Z (.gn Z Z Z) Z ?_
           iterate 11 refine AM Z (.gu Z Z) Z ?_
           refine AM Z (.gn Z Z Z) Z (TL.q Z .u (AP Z Z Z) Z (TL.nil (X.seq (AN Z Z (T.seq (T.region Z (TL.run ai [0] Z Z ?_)))))))
           obtain rfl:=C8 h
           replace h:=hO38
           clear hO38
           try dsimp only at h
           obtain rfl:=C8 h
           replace h:=hO7
           clear hO7
           try dsimp only at h
           obtain rfl:=C8 h
           exact TL.nil (X.seq (T.ret (AU (AL (AL (AU (AU (AL (AL (AU (AL (AJ [0] Ek (AK Z) ⟨Z,Z,Z⟩ (by rfl) (.inl Z)))))))))))))
          ·refine TL.run ai [0,1,2] Z Z ?_
           iterate 2 refine TL.q Z (.g Z Z (C7 c47)) (AO ai Z) Z ?_
           refine TL.q Z .u (AR Z (C7 c47) Z) Z ?_
           rcases jF h with⟨c48,h⟩ | ⟨c48,h⟩
           ·refine TL.run ai [6] Z Z ?_
            iterate 3 refine AM Z (.gn Z Z (C6 c48)) Z ?_
            iterate 11 refine AM Z (.gu Z Z) Z ?_
            refine AM Z (.gn Z Z (C6 c48)) Z (TL.q Z .u (AP Z (C6 c48) Z) Z (TL.nil (X.seq (AN Z Z (T.seq (T.region Z (TL.run ai [0] Z Z ?_)))))))
            obtain rfl:=C8 h
            replace h:=hO38
            clear hO38
            try dsimp only at h
            obtain rfl:=C8 h
            replace h:=hO7
            clear hO7
            try dsimp only at h
            obtain rfl:=C8 h
            exact TL.nil (X.seq (T.ret (AU (AL (AL (AU (AU (AL (AL (AU (AL (AJ [0] Ek (AK Z) ⟨Z,Z,Z⟩ (by rfl) (.inl Z)))))))))))))
           ·refine TL.run ai [6] Z Z ?_
            iterate 3 refine TL.q Z (.g Z Z (C7 c48)) (AO ai Z) Z ?_
            rcases jF h with⟨c49,h⟩ | ⟨c49,h⟩
            ·refine TL.q Z (.g Z Z (C6 c49)) (AO ai Z) Z (TL.q Z (.g Z Z (C6 c49)) (AO ai Z) Z ?_)
             refine TL.q Z (.g Z Z (C6 c49)) (AX (k:=k4) Z Z Z DU DZ (Da hx14).1) Z ?_
             refine TL.q Z (.g Z Z (C6 c49)) (AO ai Z) Z (TL.q Z (.g Z Z (C6 c49)) (Bt 1 Z EE z15nf z15cc Z Z) Z (TL.q Z (.g Z Z (C6 c49)) (AO ai Z) Z ?_))
             replace h:=an h
             obtain⟨c50,h⟩:=h
             refine TL.q Z (.g Z Z (C6 c49)) (Ex.sub Z Z c50) Z ?_
             replace h:=an h
             obtain⟨c51,h⟩:=h
             obtain⟨x52,hx53,h⟩:=C5 h
             obtain⟨z54cs,z54cl,z54cc,z54nf,z54r⟩:=Cd (by decide) hX18 hx53
             obtain⟨z54S,z54r,z54rr⟩:=z54r
             obtain rfl:z54cs = [jI x52]:=z54r
             refine TL.q Z (.g Z Z (C6 c49)) (AX (k:=((k35:Int) - 1).toNat) Z Z ((Int.toNat_of_nonneg c51).symm) Dv De (Da hx53).1) Z ?_
             refine TL.q Z (.g Z Z (C6 c49)) (Bt 0 Z Dc z54nf z54cc Z Z) Z ?_
             iterate 2 refine TL.q Z (.g Z Z (C6 c49)) (AO ai Z) Z ?_
             refine TL.q Z (.g Z Z (C7 c48)) (AP Z (C6 c49) Z) Z (TL.q Z .u (AR Z (C7 c48) Z) Z ?_)
             rcases jF h with⟨c55,h⟩ | ⟨c55,h⟩
             ·refine TL.nil (X.seq (AN Z (C6 c55) (T.seq (T.region Z (TL.run ai [0] Z Z ?_)))))
              obtain rfl:=C8 h
              replace h:=hO38
              clear hO38
              try dsimp only at h
              obtain rfl:=C8 h
              replace h:=hO7
              clear hO7
              try dsimp only at h
              obtain rfl:=C8 h
              exact TL.nil (X.seq (T.ret (AU (AL (AL (AU (AU (AL (AL (AU (AL (AJ [0] Ek (AK Z) ⟨Z,Z,Z⟩ (by rfl) (.inl Z)))))))))))))
             ·refine TL.nil (X.seq (AS Z (C7 c55) (T.skip (AZ (X.seq (T.region Z ?_))))))
              replace h:=an h
              obtain⟨c56,h⟩:=h
              exact TL.run ai [0] Z Z (TL.q Z .u (Ex.add Z Z c56) Z (TL.run ai [2] Z Z (TL.nil (X.back (m':=m39) [0] (by omega) ⟨y34,k35+1,Z,Z,h⟩ (by rfl) (by rfl)))))
            ·refine AM Z (.gn Z Z (C7 c49)) Z ?_
             iterate 10 refine AM Z (.gn Z Z (C7 c49)) Z ?_
             refine TL.q Z (.g Z Z (C7 c48)) (AR Z (C7 c49) Z) Z (TL.q Z .u (AR Z (C7 c48) Z) Z (TL.nil (X.seq (AS Z Z (T.skip (AZ (X.seq (T.region Z ?_))))))))
             replace h:=an h
             obtain⟨c57,h⟩:=h
             exact TL.run ai [0] Z Z (TL.q Z .u (Ex.add Z Z c57) Z (TL.run ai [2] Z Z (TL.nil (X.back (m':=m39) [0] (by omega) ⟨y34,k35+1,Z,Z,h⟩ (by rfl) (by rfl)))))
         ·refine TL.nil (X.seq (AS Z (C7 c43) ?_))
          obtain rfl:=C8 h
          replace h:=hO38
          clear hO38
          try dsimp only at h
          refine T.exit (AV (AV (Bh (AZ (X.seq (T.region Z ?_))))))
          replace h:=an h
          obtain⟨c58,h⟩:=h
          exact TL.run ai [0] Z Z (TL.q Z .u (Ex.add Z Z c58) Z (TL.run ai [2] Z Z (TL.nil (X.back (m':=m8) [0] (by omega) ⟨y34,k4+1,Z,Z,h⟩ (by rfl) (by rfl)))))
       ·replace c33:=Dd c33
        refine TD.nil (X.seq (AN Z (aF c33) (T.seq (T.region Z (TL.run ai [0] Z Z ?_)))))
        obtain rfl:=C8 h
        replace h:=hO7
        clear hO7
        try dsimp only at h
        obtain rfl:=C8 h
        exact TL.nil (X.seq (T.ret (AL (AU (AL (AL (AU (AL (AJ [0] Ek (AK Z) ⟨Z,Z,Z⟩ (by rfl) (.inl Z))))))))))
      ·refine TD.run ai [0,1,2] Z Z ?_
       iterate 11 refine BB Z (.gn Z Z (C7 c22)) Z ?_
       refine B9 Z (.gn Z Z (C7 c22)) Z [0] Z (BB Z (.gn Z Z (C7 c22)) Z (TD.q Z .u (AR Z (C7 c22) Z) Z (TD.nil (X.seq (AS Z Z (T.skip (X.seq (T.seq (T.region Z (TL.run ai [0] Z Z (TL.nil (X.seq (T.block ?_)))))))))))))
       obtain⟨E64,hE65,hO66⟩:=C5 h
       refine Bj (fun m e Rs=> ∃ (y62:Bool) (k63:Nat),e = [(0,.slice (some ⟨gz15,oz15,none⟩) a0.length c2),(2,.bool y62),(3,jI (k4:Int)),(4,jI (k63:Int))]∧Rs = [aD]∧db x13 m y62 k63=some E64) (((x13.CA.length:Int)).toNat+1) [0] ⟨y3,0,Z,Z,by exact hE65⟩ (by rfl) (by rfl) ?_
       rintro m67 _ _ ⟨y62,k63,rfl,rfl,hl69⟩
       clear hE65 h
       cases m67 with
       | zero =>
        rw[db] at hl69
        cases hl69
       | succ m67 =>
        have h:=hl69
        clear hl69
        rw[db] at h
        refine T.seq (T.seq (T.region Z (TL.run ai [0,1,2] Z Z ?_)))
        refine TL.q Z .u (AX (k:=k4) Z Z Z DU DZ (Da hx14).1) Z ?_
        refine TL.run ai [4] Z Z (TL.q Z .u (Bt 1 Z EE z15nf z15cc Z Z) Z (TL.q Z .u (AW Z Dv) Z (TL.run ai [7] Z Z ?_)))
        rcases jF h with⟨c71,h⟩ | ⟨c71,h⟩
        ·refine TL.nil (X.seq (AN Z (C6 c71) (T.skip (X.seq (T.seq (T.block (T.seq (T.region Z (TL.run ai [0,1] Z Z ?_)))))))))
         refine TL.q Z .u (AX (k:=k4) Z Z Z DU DZ (Da hx14).1) Z ?_
         refine TL.run ai [3] Z Z (TL.q Z .u (Bt 1 Z EE z15nf z15cc Z Z) Z ?_)
         obtain⟨x72,hx73,h⟩:=C5 h
         obtain⟨gz74,oz74,rfl,z74cs,z74cl,z74cc,z74nf,z74r⟩:=Bb (by decide) hX18 hx73
         obtain⟨z74S,z74r,z74rr⟩:=z74r
         obtain rfl:z74cs = [jI x72]:=z74r
         refine TL.run ai [5] Z Z ?_
         refine TL.q Z .u (AX (k:=k63) Z Z Z Dv De (Da hx73).1) Z ?_
         refine TL.q Z .u (Bt 0 Z Dc z74nf z74cc Z Z) Z (TL.run ai [8] Z Z (TL.nil (X.seq (T.seq (T.region Z ?_)))))
         rcases jF h with⟨c75,h⟩ | ⟨c75,h⟩
         ·refine TL.run ai [0,1,2] Z Z ?_
          iterate 2 refine AM Z (.gn Z Z (C6 c75)) Z ?_
          refine TL.q Z .u (AP Z (C6 c75) Z) Z (TL.run ai [6] Z Z ?_)
          iterate 3 refine AM Z (.gn Z Z Z) Z ?_
          iterate 11 refine AM Z (.gu Z Z) Z ?_
          refine AM Z (.gn Z Z Z) Z (TL.q Z .u (AP Z Z Z) Z (TL.nil (X.seq (AN Z Z (T.seq (T.region Z (TL.run ai [0] Z Z ?_)))))))
          obtain rfl:=C8 h
          replace h:=hO66
          clear hO66
          try dsimp only at h
          obtain rfl:=C8 h
          replace h:=hO7
          clear hO7
          try dsimp only at h
          obtain rfl:=C8 h
          exact TL.nil (X.seq (T.ret (AU (AL (AL (AU (AU (AL (AL (AU (AL (AJ [0] Ek (AK Z) ⟨Z,Z,Z⟩ (by rfl) (.inl Z)))))))))))))
         ·refine TL.run ai [0,1,2] Z Z ?_
          iterate 2 refine TL.q Z (.g Z Z (C7 c75)) (AO ai Z) Z ?_
          refine TL.q Z .u (AR Z (C7 c75) Z) Z ?_
          rcases jF h with⟨c76,h⟩ | ⟨c76,h⟩
          ·refine TL.run ai [6] Z Z ?_
           iterate 3 refine AM Z (.gn Z Z (C6 c76)) Z ?_
           iterate 11 refine AM Z (.gu Z Z) Z ?_
           refine AM Z (.gn Z Z (C6 c76)) Z (TL.q Z .u (AP Z (C6 c76) Z) Z (TL.nil (X.seq (AN Z Z (T.seq (T.region Z (TL.run ai [0] Z Z ?_)))))))
           obtain rfl:=C8 h
           replace h:=hO66
           clear hO66
           try dsimp only at h
           obtain rfl:=C8 h
           replace h:=hO7
           clear hO7
           try dsimp only at h
           obtain rfl:=C8 h
           exact TL.nil (X.seq (T.ret (AU (AL (AL (AU (AU (AL (AL (AU (AL (AJ [0] Ek (AK Z) ⟨Z,Z,Z⟩ (by rfl) (.inl Z)))))))))))))
          ·refine TL.run ai [6] Z Z ?_
           iterate 3 refine TL.q Z (.g Z Z (C7 c76)) (AO ai Z) Z ?_
           rcases jF h with⟨c77,h⟩ | ⟨c77,h⟩
           ·refine TL.q Z (.g Z Z (C6 c77)) (AO ai Z) Z (TL.q Z (.g Z Z (C6 c77)) (AO ai Z) Z ?_)
            refine TL.q Z (.g Z Z (C6 c77)) (AX (k:=k4) Z Z Z DU DZ (Da hx14).1) Z ?_
            refine TL.q Z (.g Z Z (C6 c77)) (AO ai Z) Z (TL.q Z (.g Z Z (C6 c77)) (Bt 1 Z EE z15nf z15cc Z Z) Z (TL.q Z (.g Z Z (C6 c77)) (AO ai Z) Z ?_))
            replace h:=an h
            obtain⟨c78,h⟩:=h
            refine TL.q Z (.g Z Z (C6 c77)) (Ex.sub Z Z c78) Z ?_
            replace h:=an h
            obtain⟨c79,h⟩:=h
            obtain⟨x80,hx81,h⟩:=C5 h
            obtain⟨z82cs,z82cl,z82cc,z82nf,z82r⟩:=Cd (by decide) hX18 hx81
            obtain⟨z82S,z82r,z82rr⟩:=z82r
            obtain rfl:z82cs = [jI x80]:=z82r
            refine TL.q Z (.g Z Z (C6 c77)) (AX (k:=((k63:Int) - 1).toNat) Z Z ((Int.toNat_of_nonneg c79).symm) Dv De (Da hx81).1) Z ?_
            refine TL.q Z (.g Z Z (C6 c77)) (Bt 0 Z Dc z82nf z82cc Z Z) Z ?_
            iterate 2 refine TL.q Z (.g Z Z (C6 c77)) (AO ai Z) Z ?_
            refine TL.q Z (.g Z Z (C7 c76)) (AP Z (C6 c77) Z) Z (TL.q Z .u (AR Z (C7 c76) Z) Z ?_)
            rcases jF h with⟨c83,h⟩ | ⟨c83,h⟩
            ·refine TL.nil (X.seq (AN Z (C6 c83) (T.seq (T.region Z (TL.run ai [0] Z Z ?_)))))
             obtain rfl:=C8 h
             replace h:=hO66
             clear hO66
             try dsimp only at h
             obtain rfl:=C8 h
             replace h:=hO7
             clear hO7
             try dsimp only at h
             obtain rfl:=C8 h
             exact TL.nil (X.seq (T.ret (AU (AL (AL (AU (AU (AL (AL (AU (AL (AJ [0] Ek (AK Z) ⟨Z,Z,Z⟩ (by rfl) (.inl Z)))))))))))))
            ·refine TL.nil (X.seq (AS Z (C7 c83) (T.skip (AZ (X.seq (T.region Z ?_))))))
             replace h:=an h
             obtain⟨c84,h⟩:=h
             exact TL.run ai [0] Z Z (TL.q Z .u (Ex.add Z Z c84) Z (TL.run ai [2] Z Z (TL.nil (X.back (m':=m67) [0] (by omega) ⟨y62,k63+1,Z,Z,h⟩ (by rfl) (by rfl)))))
           ·refine AM Z (.gn Z Z (C7 c77)) Z ?_
            iterate 10 refine AM Z (.gn Z Z (C7 c77)) Z ?_
            refine TL.q Z (.g Z Z (C7 c76)) (AR Z (C7 c77) Z) Z (TL.q Z .u (AR Z (C7 c76) Z) Z (TL.nil (X.seq (AS Z Z (T.skip (AZ (X.seq (T.region Z ?_))))))))
            replace h:=an h
            obtain⟨c85,h⟩:=h
            exact TL.run ai [0] Z Z (TL.q Z .u (Ex.add Z Z c85) Z (TL.run ai [2] Z Z (TL.nil (X.back (m':=m67) [0] (by omega) ⟨y62,k63+1,Z,Z,h⟩ (by rfl) (by rfl)))))
        ·refine TL.nil (X.seq (AS Z (C7 c71) ?_))
         obtain rfl:=C8 h
         replace h:=hO66
         clear hO66
         try dsimp only at h
         refine T.exit (AV (AV (Bh (AZ (X.seq (T.region Z ?_))))))
         replace h:=an h
         obtain⟨c86,h⟩:=h
         exact TL.run ai [0] Z Z (TL.q Z .u (Ex.add Z Z c86) Z (TL.run ai [2] Z Z (TL.nil (X.back (m':=m8) [0] (by omega) ⟨y62,k4+1,Z,Z,h⟩ (by rfl) (by rfl)))))
  ·refine TL.nil (X.seq (AS Z (C7 c12) ?_))
   obtain rfl:=C8 h
   replace h:=hO7
   clear hO7
   try dsimp only at h
   refine T.exit (AV (AV (Bh (X.seq (T.seq (T.region Z (TL.run ai [0] Z Z ?_)))))))
   obtain rfl:=C8 h
   exact TL.nil (X.seq (T.ret (AJ [0] Ek (AK Z) ⟨Z,Z,Z⟩ (by rfl) (.inl Z))))
end Go.Proofs.YtcoppaggpbfcmaaGreat.Sl
