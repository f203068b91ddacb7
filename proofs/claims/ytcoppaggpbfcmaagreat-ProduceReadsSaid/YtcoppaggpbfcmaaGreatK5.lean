/- produceReads_holds: part 5. -/
import Derived.Test.YtcoppaggpbfcmaaGreatK4
set_option maxRecDepth 100000
set_option maxHeartbeats 4000000
set_option linter.defProp false
namespace Go.Proofs.YtcoppaggpbfcmaaGreat.Sl
open Go.RowKit
set_option linter.unusedVariables false
set_option linter.unusedSimpArgs false
def ET := @Tryz.results150
def Fm := @Tryz.results52
def n7:fv := []
theorem an:(n7).OK Tryz.prog:=trivial
theorem fI:SOK Tryz.prog 106 3 12 1 #[.int .i64 0,.int .i64 0,.int .i64 0,.int .i64 0,.int .i64 0,.int .i64 0,.int .i64 0,.int .i64 0,.int .i64 0,.int .i64 0,.int .i64 0,.int .i64 0]:=SOK.mk C6 CY Tryz.zeroValue3 (by decide) (by kernel_rfl)
def bn (a0:List Int):Nat→List UInt8→Bool→List UInt8→Nat→Option (Lp (List UInt8×Bool) (List UInt8×Bool×List UInt8×Nat))
 | 0,_,_,_,_=>none
 | m11+1,y4,y5,y6,k7=>if (k7:Int)<12 then ((a0[k7]?).bind fun x16=>if (k7:Int)=3 then ((if x16<0 then some true else (if x16>4294967295 then some true else some false)).bind fun y21=>if y21=true then (some (Lp.ret ([],false))) else ((if x16>2147483647 then (if -9223372036854775808≤(x16 - 4294967296)∧(x16 - 4294967296)≤9223372036854775807 then some (x16 - 4294967296) else none) else some x16).bind fun y28=>(eX 2 1).bind fun x32=>if y6.length+x32.length≤9223372036854775807 then (([8,4,4,4,2,4,8,8,8,2,4,4][k7]?).bind fun x35=>(p6 y28 x35).bind fun x38=>if x38=true then ((eX y28 x35).bind fun x41=>if (y6++x32).length+x41.length≤9223372036854775807 then (if -9223372036854775808≤((k7:Int)+1)∧((k7:Int)+1)≤9223372036854775807 then (bn a0 m11 y4 y5 ((y6++x32)++x41) (k7+1)) else none) else none) else (some (Lp.ret ([],false)))) else none)) else (([8,4,4,4,2,4,8,8,8,2,4,4][k7]?).bind fun x45=>(p6 x16 x45).bind fun x48=>if x48=true then ((eX x16 x45).bind fun x51=>if y6.length+x51.length≤9223372036854775807 then (if -9223372036854775808≤((k7:Int)+1)∧((k7:Int)+1)≤9223372036854775807 then (bn a0 m11 y4 y5 (y6++x51) (k7+1)) else none) else none) else (some (Lp.ret ([],false))))) else (some (Lp.go (y4,y5,y6,k7)))
def ey (a0:List Int):Option (List UInt8×Bool):=(bn a0 ((12:Int).toNat+1) [] false [] 0).bind fun e=>match e with | .ret r=>some r | .go (y55,y56,y57,k58)=>some (y57,true)
theorem j8 (a0:List Int) (A1:Option Addr) (c2:Nat) (r:List UInt8×Bool) (h:ey a0=some r):ay Tryz.prog 52 #[.slice A1 a0.length c2] (RX.of (av 1 bP) [.slice A1 a0.length c2] a0) (aB) (fun v A' N=>v= .tuple #[jS r.1,.bool r.2]∧A'=aB∧N = []):=by
 refine aL Tryz.func52 Z Tryz.ntmps52 Z ?_
 intro F w hX
 unfold ey at h
 refine T.seq (T.region Z (TL.run an [0,1] Z Z (TL.nil (X.seq (T.seq (T.region Z ?_))))))
 refine Bk (cells:= #[jI 8,jI 4,jI 4,jI 4,jI 2,jI 4,jI 8,jI 8,jI 8,jI 2,jI 4,jI 4]) Z .u fI Z (by kernel_rfl) Z (fun b3=> ?_)
 refine BO (us := [jI 8,jI 4,jI 4,jI 4,jI 2,jI 4,jI 8,jI 8,jI 8,jI 2,jI 4,jI 4]) (xs := [8,4,4,4,2,4,8,8,8,2,4,4]) (E:=bP) (z:=1) Z (Nat.le_of_ble_eq_true Z) (fun _=>⟨Z,Z,⟨Z,Z,⟨Z,Z,⟨Z,Z,⟨Z,Z,⟨Z,Z,⟨Z,Z,⟨Z,Z,⟨Z,Z,⟨Z,Z,⟨Z,Z,⟨Z,Z,Z⟩⟩⟩⟩⟩⟩⟩⟩⟩⟩⟩⟩) (TL.run an [1] Z Z (TL.nil (X.seq (T.seq (T.region Z (TL.run an [0] Z Z (TL.nil (X.seq (T.seq (T.seq (T.region Z (TL.run an [0] Z Z (TL.nil (X.seq (T.block ?_)))))))))))))))
 obtain⟨E8,hE9,hO10⟩:=CM h
 refine AV (fun m e Rs=> ∃ (y4:List UInt8) (y5:Bool) (y6:List UInt8) (k7:Nat),e = [(0,.slice A1 a0.length c2),(2,jS y4),(3,.bool y5),(4,.slice (some ⟨b3,0,none⟩) 12 12),(5,jS y6),(6,jI (k7:Int))]∧Rs = [aZ 3 1 bP (.slice (some ⟨b3,0,none⟩) 12 12) [8,4,4,4,2,4,8,8,8,2,4,4],aB]∧bn a0 m y4 y5 y6 k7=some E8) ((12:Int).toNat+1) [0,0] ⟨[],false,[],0,Z,Z,by exact hE9⟩ (by rfl) (by rfl) ?_
 rintro m11 _ _ ⟨y4,y5,y6,k7,rfl,rfl,hl13⟩
 clear hE9 h
 cases m11 with
 | zero =>
  rw[bn] at hl13
  cases hl13
 | succ m11 =>
  have h:=hl13
  clear hl13
  rw[bn] at h
  refine T.seq (T.seq (T.region Z (TL.run an [0,1] Z Z ?_)))
  rcases jF h with⟨c15,h⟩ | ⟨c15,h⟩
  ·refine TL.nil (X.seq (Am Z (CN c15) (T.skip (X.seq (T.seq (T.block (T.seq (T.region Z ?_))))))))
   obtain⟨x16,hx17,h⟩:=CM h
   obtain⟨gz18,oz18,rfl,z18cs,z18cl,z18cc,z18nf,z18r⟩:=AK (by decide) hX hx17
   obtain⟨z18S,z18r,z18rr⟩:=z18r
   obtain rfl:z18cs = [jI x16]:=z18r
   refine TL.run an [0,1] Z Z ?_
   refine TL.q Z .u (Aw (k:=k7) Z Z Z C6 CY (CU hx17).1) Z ?_
   refine TL.q Z .u (AY 0 Z CV z18nf z18cc Z Z) Z (TL.run an [4] Z Z (TL.nil (X.seq (T.seq (T.seq (T.region Z (TL.run an [0,1] Z Z ?_)))))))
   rcases jF h with⟨c19,h⟩ | ⟨c19,h⟩
   ·refine TL.nil (X.seq (Am Z (CN c19) (T.seq (T.seq ?_))))
    obtain⟨y21,h,hk22⟩:=CM h
    refine Bg (fun e Rs=>e = [(0,.slice (some ⟨gz18,oz18,none⟩) a0.length c2),(2,jS y4),(3,.bool y5),(4,.slice (some ⟨b3,0,none⟩) 12 12),(5,jS y6),(6,jI (k7:Int)),(7,jI x16),(24,.bool y21)]∧Rs = [aZ 3 1 bP (.slice (some ⟨b3,0,none⟩) 12 12) [8,4,4,4,2,4,8,8,8,2,4,4],aB]) ?_ ?_
    ·clear hk22
     refine T.region Z ?_
     rcases jF h with⟨c23,h⟩ | ⟨c23,h⟩
     ·refine TL.run an [0,1,2] Z Z ?_
      iterate 2 refine An Z (.gn Z Z (CN c23)) Z ?_
      refine TL.q Z .u (Aq Z (CN c23) Z) Z ?_
      cases h
      exact TL.nil (AB [0,0] ⟨Z,Z⟩ (by rfl) (by rfl))
     ·refine TL.run an [0,1,2] Z Z ?_
      iterate 2 refine TL.q Z (.g Z Z (CO c23)) (Ao an Z) Z ?_
      refine TL.q Z .u (Ar Z (CO c23) Z) Z ?_
      rcases jF h with⟨c24,h⟩ | ⟨c24,h⟩
      ·cases h
       exact TL.nil (Bh (d:=24) (v':= .bool true) Z (congrArg Value.bool (CN c24)) (AB [0,0] ⟨Z,Z⟩ (by rfl) (by rfl)))
      ·cases h
       exact TL.nil (Bh (d:=24) (v':= .bool false) Z (congrArg Value.bool (CO c24)) (AB [0,0] ⟨Z,Z⟩ (by rfl) (by rfl)))
    ·rintro _ _ ⟨rfl,rfl⟩
     clear h
     have h:=hk22
     clear hk22
     try dsimp only at h
     rcases jF h with⟨c25,h⟩ | ⟨c25,h⟩
     ·refine X.seq (Am Z c25 (T.seq (T.region Z (TL.run an [0,1] Z Z ?_))))
      obtain rfl:=CP h
      replace h:=hO10
      clear hO10
      try dsimp only at h
      obtain rfl:=CP h
      exact TL.nil (X.seq (T.ret (Al (Al (At (Al (Al (At (Al (AL [1] Fm (Aj Z) (Aj Z) ⟨Z,Z,Z⟩ (by rfl) (.inl Z)))))))))))
     ·replace c25:=CX c25
      refine X.seq (Ap Z c25 (T.skip (X.seq (T.seq (T.seq (T.region Z (TL.run an [0,1] Z Z (TL.nil (X.seq ?_)))))))))
      obtain⟨y28,h,hk29⟩:=CM h
      refine Bg (fun e Rs=>e = [(0,.slice (some ⟨gz18,oz18,none⟩) a0.length c2),(2,jS y4),(3,.bool y5),(4,.slice (some ⟨b3,0,none⟩) 12 12),(5,jS y6),(6,jI (k7:Int)),(7,jI y28)]∧Rs = [aZ 3 1 bP (.slice (some ⟨b3,0,none⟩) 12 12) [8,4,4,4,2,4,8,8,8,2,4,4],aB]) ?_ ?_
      ·clear hk29
       rcases jF h with⟨c30,h⟩ | ⟨c30,h⟩
       ·refine Am Z (CN c30) (T.region Z ?_)
        replace h:=ak h
        obtain⟨c31,h⟩:=h
        refine TL.run an [0] Z Z (TL.q Z .u (Ex.sub Z Z c31) Z (TL.run an [2] Z Z ?_))
        cases h
        exact TL.nil (AB [0,0] ⟨Z,Z⟩ (by rfl) (by rfl))
       ·refine Ap Z (CO c30) ?_
        cases h
        exact T.skip (AB [0,0] ⟨Z,Z⟩ (by rfl) (by rfl))
      ·rintro _ _ ⟨rfl,rfl⟩
       clear h
       have h:=hk29
       clear hk29
       try dsimp only at h
       refine X.seq (T.region Z ?_)
       obtain⟨x32,hx33,h⟩:=CM h
       refine TL.run an [0] Z Z (Ax Z .u (.fn Tryz.call42 Z) (dv 2 1 _ hx33) (fun _ hs=>(RX.reads_triv _ _)) Z ?_)
       replace h:=ak h
       obtain⟨c34,h⟩:=h
       refine TL.q Z .u (AM Z Z c34) Z (TL.run an [3] Z Z (TL.nil (X.seq (T.seq (T.seq (T.region Z ?_))))))
       obtain⟨x35,hx36,h⟩:=CM h
       refine TL.run an [0,1,2] Z Z (BF (E:=bP) (k:=k7) 0 Z (fun w G h=>aP (by decide) w G h) (by decide) hx36 ?_)
       rintro gg oo z37cs hA z37cl ⟨_,_,z37r⟩
       cases hA
       obtain rfl:z37cs = [jI x35]:=z37r
       clear z37cl
       refine AC [0,0] Z ?_
       refine TL.q Z .u (Aw (k:=k7) Z Z Z C6 CY (CU hx36).1) Z ?_
       refine TL.q Z .u (Bo (cs := [jI x35]) 0 0 Z CV Z (fun _ _ h=>h.2.2.1) Z) Z ?_
       obtain⟨x38,hx39,h⟩:=CM h
       refine Ax Z .u (.fn Tryz.call116 Z) (oP y28 x35 _ hx39) (fun _ hs=>(RX.reads_triv _ _)) Z (TL.run an [6] Z Z ?_)
       rcases jF h with⟨c40,h⟩ | ⟨c40,h⟩
       ·refine TL.nil (X.seq (Ap Z (az c40) (T.skip (X.seq (T.region Z (TL.run an [0,1,2,3] Z Z ?_))))))
        refine TL.q Z .u (Aw (k:=k7) Z Z Z C6 CY (CU hx36).1) Z ?_
        refine TL.q Z .u (Bo (cs := [jI x35]) 0 0 Z CV Z (fun _ _ h=>h.2.2.1) Z) Z ?_
        obtain⟨x41,hx42,h⟩:=CM h
        refine Ax Z .u (.fn Tryz.call42 Z) (dv y28 x35 _ hx42) (fun _ hs=>(RX.reads_triv _ _)) Z ?_
        replace h:=ak h
        obtain⟨c43,h⟩:=h
        refine TL.q Z .u (AM Z Z c43) Z (TL.run an [8] Z Z (TL.nil (Az (X.seq (T.region Z ?_)))))
        replace h:=ak h
        obtain⟨c44,h⟩:=h
        exact TL.run an [0] Z Z (TL.q Z .u (Ex.add Z Z c44) Z (TL.run an [2] Z Z (TL.nil (X.unf 0 Z (AQ [0,0] Z (X.back (m':=m11) [0,0] (by omega) ⟨y4,y5,((y6++x32)++x41),k7+1,Z,Z,h⟩ (by rfl) (by rfl)))))))
       ·replace c40:=CX c40
        refine TL.nil (X.seq (Am Z (aD c40) (T.seq (T.region Z (TL.run an [0,1] Z Z ?_)))))
        obtain rfl:=CP h
        replace h:=hO10
        clear hO10
        try dsimp only at h
        obtain rfl:=CP h
        exact TL.nil (X.seq (T.ret (Al (At (Al (Al (At (Al (AL [1] Fm (Aj Z) (Aj Z) ⟨Z,Z,Z⟩ (by rfl) (.inl Z))))))))))
   ·refine TL.nil (X.seq (Ap Z (CO c19) (T.skip (X.seq (T.seq (T.seq (T.region Z ?_)))))))
    obtain⟨x45,hx46,h⟩:=CM h
    refine TL.run an [0,1,2] Z Z (BF (E:=bP) (k:=k7) 0 Z (fun w G h=>aP (by decide) w G h) (by decide) hx46 ?_)
    rintro gg oo z47cs hA z47cl ⟨_,_,z47r⟩
    cases hA
    obtain rfl:z47cs = [jI x45]:=z47r
    clear z47cl
    refine AC [0,0] Z ?_
    refine TL.q Z .u (Aw (k:=k7) Z Z Z C6 CY (CU hx46).1) Z ?_
    refine TL.q Z .u (Bo (cs := [jI x45]) 0 0 Z CV Z (fun _ _ h=>h.2.2.1) Z) Z ?_
    obtain⟨x48,hx49,h⟩:=CM h
    refine Ax Z .u (.fn Tryz.call116 Z) (oP x16 x45 _ hx49) (fun _ hs=>(RX.reads_triv _ _)) Z (TL.run an [6] Z Z ?_)
    rcases jF h with⟨c50,h⟩ | ⟨c50,h⟩
    ·refine TL.nil (X.seq (Ap Z (az c50) (T.skip (X.seq (T.region Z (TL.run an [0,1,2,3] Z Z ?_))))))
     refine TL.q Z .u (Aw (k:=k7) Z Z Z C6 CY (CU hx46).1) Z ?_
     refine TL.q Z .u (Bo (cs := [jI x45]) 0 0 Z CV Z (fun _ _ h=>h.2.2.1) Z) Z ?_
     obtain⟨x51,hx52,h⟩:=CM h
     refine Ax Z .u (.fn Tryz.call42 Z) (dv x16 x45 _ hx52) (fun _ hs=>(RX.reads_triv _ _)) Z ?_
     replace h:=ak h
     obtain⟨c53,h⟩:=h
     refine TL.q Z .u (AM Z Z c53) Z (TL.run an [8] Z Z (TL.nil (Az (X.seq (T.region Z ?_)))))
     replace h:=ak h
     obtain⟨c54,h⟩:=h
     exact TL.run an [0] Z Z (TL.q Z .u (Ex.add Z Z c54) Z (TL.run an [2] Z Z (TL.nil (X.unf 0 Z (AQ [0,0] Z (X.back (m':=m11) [0,0] (by omega) ⟨y4,y5,(y6++x51),k7+1,Z,Z,h⟩ (by rfl) (by rfl)))))))
    ·replace c50:=CX c50
     refine TL.nil (X.seq (Am Z (aD c50) (T.seq (T.region Z (TL.run an [0,1] Z Z ?_)))))
     obtain rfl:=CP h
     replace h:=hO10
     clear hO10
     try dsimp only at h
     obtain rfl:=CP h
     exact TL.nil (X.seq (T.ret (Al (At (Al (Al (At (Al (AL [1] Fm (Aj Z) (Aj Z) ⟨Z,Z,Z⟩ (by rfl) (.inl Z))))))))))
  ·refine TL.nil (X.seq (Ap Z (CO c15) ?_))
   obtain rfl:=CP h
   replace h:=hO10
   clear hO10
   try dsimp only at h
   refine T.exit (Au (Au (AS (X.seq (T.seq (T.region Z (TL.run an [0,1,2] Z Z ?_)))))))
   obtain rfl:=CP h
   exact TL.nil (X.seq (T.ret (AL [1] Fm (Aj Z) (Aj Z) ⟨Z,Z,Z⟩ (by rfl) (.inl Z))))
def dl (a0:List UInt8) (a1:Int) (a2:Int):Option (Int):=if -9223372036854775808≤(a1+a2)∧(a1+a2)≤9223372036854775807 then (if 0≤a1∧0≤(a1+a2)∧a1.toNat≤(a1+a2).toNat∧(a1+a2).toNat≤a0.length then ((kO ((a0.drop a1.toNat).take (((a1+a2).toNat) - a1.toNat))).bind fun x3=>some x3) else none) else none
theorem bJ (a0:List UInt8) (a1:Int) (a2:Int) (r:Int) (h:dl a0 a1 a2=some r):ay Tryz.prog 169 #[jS a0,jI a1,jI a2] .triv (aB) (fun v A' N=>v=jI r∧A'=aB∧N = []):=by
 refine aL Tryz.func169 Z Tryz.ntmps169 Z ?_
 intro F w hX
 unfold dl at h
 refine T.seq (T.region Z (TL.run an [0] Z Z (TL.nil (X.seq (T.seq (T.region Z ?_))))))
 replace h:=ak h
 obtain⟨c1,h⟩:=h
 refine TL.run an [0,1,2,3] Z Z (TL.q Z .u (Ex.add Z Z c1) Z ?_)
 replace h:=ak h
 obtain⟨c2,h⟩:=h
 replace c2:0≤a1∧0≤(a1+a2)∧a1.toNat≤(a1+a2).toNat∧(a1+a2).toNat≤a0.length:=c2
 refine TL.q Z .u (Ba (p:=a1.toNat) (q:=(a1+a2).toNat) (m:=((a0.drop a1.toNat).take (((a1+a2).toNat) - a1.toNat))) Z CZ (.some Z ((Int.toNat_of_nonneg c2.1).symm)) (.some Z ((Int.toNat_of_nonneg c2.2.1).symm)) (by first | omega | (dsimp only; omega)) Z) Z ?_
 obtain⟨x3,hx4,h⟩:=CM h
 refine Ax Z .u (.fn Tryz.call63 Z) (AN (fun w=>dt ((a0.drop a1.toNat).take (((a1+a2).toNat) - a1.toNat)) _ hx4 w)) (fun _ _=>RX.reads_triv _ _) Z (TL.run an [7] Z Z ?_)
 obtain rfl:=CP h
 exact TL.nil (X.seq (T.ret (Ak [0] Tryz.results169 (Aj Z) ⟨Z,Z,Z⟩ (by rfl) (.inl Z))))
def eK (a0:List UInt8):Option (List Int×Int):=if (a0.length:Int)<61 then some ([],1) else ((dl a0 17 4).bind fun x2=>(if x2<0 then (if -9223372036854775808≤(x2+4294967296)∧(x2+4294967296)≤9223372036854775807 then some (x2+4294967296) else none) else some x2).bind fun y6=>(dl a0 0 8).bind fun x10=>(dl a0 8 4).bind fun x12=>(dl a0 12 4).bind fun x14=>(dl a0 21 2).bind fun x16=>(dl a0 23 4).bind fun x18=>(dl a0 27 8).bind fun x20=>(dl a0 35 8).bind fun x22=>(dl a0 43 8).bind fun x24=>(dl a0 51 2).bind fun x26=>(dl a0 53 4).bind fun x28=>(dl a0 57 4).bind fun x30=>(dl a0 16 1).bind fun x33=>if x33=2 then (([x10,x12,x14,y6,x16,x18,x20,x22,x24,x26,x28,x30][1]?).bind fun x36=>if x36<49 then some ([],4) else (([x10,x12,x14,y6,x16,x18,x20,x22,x24,x26,x28,x30][11]?).bind fun x40=>if x40<0 then some ([],10) else some ([x10,x12,x14,y6,x16,x18,x20,x22,x24,x26,x28,x30],0))) else some ([],6))
theorem nq (a0:List UInt8) (r:List Int×Int) (h:eK a0=some r):ay Tryz.prog 150 #[jS a0] .triv (aB) (fun v A' N=> ∃ (A44:Option Addr) (c45:Nat),v= .tuple #[.slice A44 r.1.length c45,jI r.2]∧A'=aB∧N = [RdR (av 1 bP) [.slice A44 r.1.length c45] r.1]):=by
 refine aL Tryz.func150 Z Tryz.ntmps150 Z ?_
 intro F w hX
 unfold eK at h
 refine T.seq (T.region Z (TL.run an [0,1] Z Z (TL.nil (X.seq (T.seq (T.seq (T.region Z (TL.run an [0] Z Z (TL.q Z .u (AW Z CZ) Z (TL.run an [2] Z Z ?_))))))))))
 rcases jF h with⟨c1,h⟩ | ⟨c1,h⟩
 ·refine TL.nil (X.seq (Am Z (CN c1) (T.seq (T.region Z (TL.run an [0,1] Z Z ?_)))))
  obtain rfl:=CP h
  exact TL.nil (X.seq (T.ret (Al (AO 1 bP (AL [1,0] ET (Aj Z) (Aj Z) ⟨_,_,Z,Z,Z⟩ (by rfl) (.inl Z))))))
 ·refine TL.nil (X.seq (Ap Z (CO c1) (T.skip (X.seq (T.seq (T.region Z ?_))))))
  obtain⟨x2,hx3,h⟩:=CM h
  refine TL.run an [0] Z Z (Ax Z .u (.fn Tryz.call169 Z) (bJ a0 17 4 _ hx3) (fun _ hs=>(RX.reads_triv _ _)) Z (TL.run an [2] Z Z (TL.nil (X.seq (T.seq (T.seq (T.region Z (TL.run an [0,1] Z Z (TL.nil (X.seq ?_))))))))))
  obtain⟨y6,h,hk7⟩:=CM h
  refine Bg (fun e Rs=>e = [(0,jS a0),(2,.slice none 0 0),(3,jI 0),(4,jI y6)]∧Rs = [aB]) ?_ ?_
  ·clear hk7
   rcases jF h with⟨c8,h⟩ | ⟨c8,h⟩
   ·refine Am Z (CN c8) (T.region Z ?_)
    replace h:=ak h
    obtain⟨c9,h⟩:=h
    refine TL.run an [0] Z Z (TL.q Z .u (Ex.add Z Z c9) Z (TL.run an [2] Z Z ?_))
    cases h
    exact TL.nil (AB [0] ⟨Z,Z⟩ (by rfl) (by rfl))
   ·refine Ap Z (CO c8) ?_
    cases h
    exact T.skip (AB [0] ⟨Z,Z⟩ (by rfl) (by rfl))
  ·rintro _ _ ⟨rfl,rfl⟩
   clear h
   have h:=hk7
   clear hk7
   try dsimp only at h
   refine X.seq (T.seq (T.region Z ?_))
   obtain⟨x10,hx11,h⟩:=CM h
   refine TL.run an [0] Z Z (Ax Z .u (.fn Tryz.call169 Z) (bJ a0 0 8 _ hx11) (fun _ hs=>(RX.reads_triv _ _)) Z ?_)
   obtain⟨x12,hx13,h⟩:=CM h
   refine TL.run an [2] Z Z (Ax Z .u (.fn Tryz.call169 Z) (bJ a0 8 4 _ hx13) (fun _ hs=>(RX.reads_triv _ _)) Z ?_)
   obtain⟨x14,hx15,h⟩:=CM h
   refine TL.run an [4] Z Z (Ax Z .u (.fn Tryz.call169 Z) (bJ a0 12 4 _ hx15) (fun _ hs=>(RX.reads_triv _ _)) Z ?_)
   obtain⟨x16,hx17,h⟩:=CM h
   refine TL.run an [6,7] Z Z (Ax Z .u (.fn Tryz.call169 Z) (bJ a0 21 2 _ hx17) (fun _ hs=>(RX.reads_triv _ _)) Z ?_)
   obtain⟨x18,hx19,h⟩:=CM h
   refine TL.run an [9] Z Z (Ax Z .u (.fn Tryz.call169 Z) (bJ a0 23 4 _ hx19) (fun _ hs=>(RX.reads_triv _ _)) Z ?_)
   obtain⟨x20,hx21,h⟩:=CM h
   refine TL.run an [11] Z Z (Ax Z .u (.fn Tryz.call169 Z) (bJ a0 27 8 _ hx21) (fun _ hs=>(RX.reads_triv _ _)) Z ?_)
   obtain⟨x22,hx23,h⟩:=CM h
   refine TL.run an [13] Z Z (Ax Z .u (.fn Tryz.call169 Z) (bJ a0 35 8 _ hx23) (fun _ hs=>(RX.reads_triv _ _)) Z ?_)
   obtain⟨x24,hx25,h⟩:=CM h
   refine TL.run an [15] Z Z (Ax Z .u (.fn Tryz.call169 Z) (bJ a0 43 8 _ hx25) (fun _ hs=>(RX.reads_triv _ _)) Z ?_)
   obtain⟨x26,hx27,h⟩:=CM h
   refine TL.run an [17] Z Z (Ax Z .u (.fn Tryz.call169 Z) (bJ a0 51 2 _ hx27) (fun _ hs=>(RX.reads_triv _ _)) Z ?_)
   obtain⟨x28,hx29,h⟩:=CM h
   refine TL.run an [19] Z Z (Ax Z .u (.fn Tryz.call169 Z) (bJ a0 53 4 _ hx29) (fun _ hs=>(RX.reads_triv _ _)) Z ?_)
   obtain⟨x30,hx31,h⟩:=CM h
   refine TL.run an [21] Z Z (Ax Z .u (.fn Tryz.call169 Z) (bJ a0 57 4 _ hx31) (fun _ hs=>(RX.reads_triv _ _)) Z ?_)
   refine Bk (cells:= #[jI x10,jI x12,jI x14,jI y6,jI x16,jI x18,jI x20,jI x22,jI x24,jI x26,jI x28,jI x30]) Z .u fI Z (by kernel_rfl) Z (fun b32=> ?_)
   refine BO (us := [jI x10,jI x12,jI x14,jI y6,jI x16,jI x18,jI x20,jI x22,jI x24,jI x26,jI x28,jI x30]) (xs := [x10,x12,x14,y6,x16,x18,x20,x22,x24,x26,x28,x30]) (E:=bP) (z:=1) Z (Nat.le_of_ble_eq_true Z) (fun _=>⟨Z,Z,⟨Z,Z,⟨Z,Z,⟨Z,Z,⟨Z,Z,⟨Z,Z,⟨Z,Z,⟨Z,Z,⟨Z,Z,⟨Z,Z,⟨Z,Z,⟨Z,Z,Z⟩⟩⟩⟩⟩⟩⟩⟩⟩⟩⟩⟩) (TL.run an [24] Z Z (TL.nil (X.seq (T.seq (T.seq (T.region Z ?_))))))
   obtain⟨x33,hx34,h⟩:=CM h
   refine TL.run an [0] Z Z (Ax Z .u (.fn Tryz.call169 Z) (bJ a0 16 1 _ hx34) (fun _ hs=>(RX.reads_triv _ _)) Z (TL.run an [2] Z Z ?_))
   rcases jF h with⟨c35,h⟩ | ⟨c35,h⟩
   ·refine TL.nil (X.seq (Ap Z (az (CN c35)) (T.skip (X.seq (T.seq (T.seq (T.region Z ?_)))))))
    obtain⟨x36,hx37,h⟩:=CM h
    refine TL.run an [0] Z Z (BF (E:=bP) (k:=1) 0 Z (fun w G h=>aP (by decide) w G h) (by decide) hx37 ?_)
    rintro gg oo z38cs hA z38cl ⟨_,_,z38r⟩
    cases hA
    obtain rfl:z38cs = [jI x36]:=z38r
    clear z38cl
    refine AC [0,0] Z ?_
    refine TL.q Z .u (Aw (k:=1) Z Z Z C6 CY (CU hx37).1) Z ?_
    refine TL.q Z .u (Bo (cs := [jI x36]) 0 0 Z CV Z (fun _ _ h=>h.2.2.1) Z) Z (TL.run an [3] Z Z ?_)
    rcases jF h with⟨c39,h⟩ | ⟨c39,h⟩
    ·refine TL.nil (X.seq (Am Z (CN c39) (T.seq (T.region Z (TL.run an [0,1] Z Z ?_)))))
     obtain rfl:=CP h
     exact TL.nil (X.seq (T.ret (Al (AO 1 bP (AL [2,0] ET (Aj Z) (Aj Z) ⟨_,_,Z,Z,Z⟩ (by rfl) (.inl Z))))))
    ·refine TL.nil (X.seq (Ap Z (CO c39) (T.skip (X.seq (T.seq (T.seq (T.region Z ?_)))))))
     obtain⟨x40,hx41,h⟩:=CM h
     refine TL.run an [0] Z Z (BF (E:=bP) (k:=11) 0 Z (fun w G h=>aP (by decide) w G h.1) (by decide) hx41 ?_)
     rintro gg oo z42cs hA z42cl ⟨_,_,z42r⟩
     cases hA
     obtain rfl:z42cs = [jI x40]:=z42r
     clear z42cl
     refine AC [0,0] Z ?_
     refine TL.q Z .u (Aw (k:=11) Z Z Z C6 CY (CU hx41).1) Z ?_
     refine TL.q Z .u (Bo (cs := [jI x40]) 0 0 Z CV Z (fun _ _ h=>h.2.2.1) Z) Z (TL.run an [3] Z Z ?_)
     rcases jF h with⟨c43,h⟩ | ⟨c43,h⟩
     ·refine TL.nil (X.seq (Am Z (CN c43) (T.seq (T.region Z (TL.run an [0,1] Z Z ?_)))))
      obtain rfl:=CP h
      exact TL.nil (X.seq (T.ret (Al (AO 1 bP (AL [2,0] ET (Aj Z) (Aj Z) ⟨_,_,Z,Z,Z⟩ (by rfl) (.inl Z))))))
     ·refine TL.nil (X.seq (Ap Z (CO c43) (T.skip (X.seq (T.seq (T.region Z (TL.run an [0,1,2] Z Z ?_)))))))
      obtain rfl:=CP h
      exact TL.nil (X.seq (T.ret (X.unf 0 Z (AQ [0,0] Z (X.unf 0 Z (AQ [0,0] Z (Bu (by decide) 0 Z (AQ [0,0] Z (AL [1,0] ET (Aj Z) (Aj Z) ⟨_,_,Z,Z,Z⟩ (by rfl) (.inl Z))))))))))
   ·refine TL.nil (X.seq (Am Z (aD (CO c35)) (T.seq (T.region Z (TL.run an [0,1] Z Z ?_)))))
    obtain rfl:=CP h
    exact TL.nil (X.seq (T.ret (Al (AO 1 bP (AL [2,0] ET (Aj Z) (Aj Z) ⟨_,_,Z,Z,Z⟩ (by rfl) (.inl Z))))))
end Go.Proofs.YtcoppaggpbfcmaaGreat.Sl
