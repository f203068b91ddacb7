/- produceReads_holds: part 9. -/
import Derived.Test.YtcoppaggpbfcmaaGreatK8
set_option maxRecDepth 100000
set_option maxHeartbeats 4000000
set_option linter.defProp false
namespace Go.Proofs.YtcoppaggpbfcmaaGreat.Sl
open Go.RowKit
set_option linter.unusedVariables false
set_option linter.unusedSimpArgs false
def Di := @Tryz.sizeOf54
def Dn := @Tryz.sizeOf127
def Do := @Tryz.runUnderlying124
def Dz := @Tryz.runUnderlying52
def DI := @Tryz.sizeOf126
def DL := @Tryz.isAgg54
def DO := @Tryz.isAgg124
def D2 := @Tryz.isAgg52
def Ea := @Tryz.isAgg127
def Ee := @Tryz.runUnderlying54
def Ek := @Tryz.results20
def Et := @Tryz.runUnderlying126
def EN := @Tryz.results29
def EO := @Tryz.isAgg126
def EY := @Tryz.results75
def EZ := @Tryz.results65
def Ff := @Tryz.runUnderlying127
def Fp := @Tryz.sizeOf124
def Fq := @Tryz.results74
def Fs := @Tryz.results64
def Ft := @Tryz.results22
def oq:fv := [(27,3,3),(27,4,4),(35,0,0),(35,1,1),(54,0,0),(54,1,2),(54,2,3),(54,3,4),(119,0,0),(119,1,2),(119,2,3),(126,0,0),(126,1,1),(127,0,0),(127,1,1),(181,0,0),(181,1,12),(181,2,13),(189,1,1)]
theorem ab:(oq).OK Tryz.prog:=⟨FOK.mk Da rfl DK rfl,FOK.mk Da rfl DK rfl,FOK.mk DD rfl DK rfl,FOK.mk DD rfl DT rfl,FOK.mk Ee rfl C7 rfl,FOK.mk Ee rfl CY rfl,FOK.mk Ee rfl CY rfl,FOK.mk Ee rfl Tryz.sizeOf52 rfl,FOK.mk DZ rfl C7 rfl,FOK.mk DZ rfl CY rfl,FOK.mk DZ rfl CY rfl,FOK.mk Et rfl DT rfl,FOK.mk Et rfl Fp rfl,FOK.mk Ff rfl CY rfl,FOK.mk Ff rfl Eu rfl,FOK.mk EJ rfl C3 rfl,FOK.mk EJ rfl CY rfl,FOK.mk EJ rfl CY rfl,FOK.mk EM rfl Fo rfl,trivial⟩
theorem bq:Tryz.prog.follows .mixedOrders=true:=by kernel_rfl
theorem eU:io Tryz.prog 2 35 [.bool,.string] true:=(io.struct Dw C7 rfl Tryz.underlying35 Tryz.stoodInHeld35 ⟨by decide,rfl,[.bool],[.string],false,rfl,(BG Dd DK Tryz.underlying4),⟨by decide,rfl,[.string],[],false,rfl,(BG Dp DT Tryz.underlying9),rfl⟩⟩)
theorem ic:BOK Tryz.prog 35 #[.bool false,.string ⟨#[]⟩] [(0,1),(1,1)]:=BOK.mk Tryz.zeroValue35 DD (by intro w; simp)
theorem ed:BOK Tryz.prog 54 #[.bool false,.string ⟨#[]⟩,.int .i64 0,.int .i64 0,.slice none 0 0] [(0,2),(2,1),(3,1),(4,1)]:=BOK.mk Tryz.zeroValue54 Ee (by intro w; simp)
theorem kV:BOK Tryz.prog 126 #[.string ⟨#[]⟩,.slice none 0 0] [(0,1),(1,1)]:=BOK.mk Tryz.zeroValue126 Et (by intro w; simp)
theorem gG:BOK Tryz.prog 127 #[.int .i64 0,.slice none 0 0] [(0,1),(1,1)]:=BOK.mk Tryz.zeroValue127 Ff (by intro w; simp)
theorem kW:BOK Tryz.prog 189 #[.string ⟨#[]⟩,.slice none 0 0] [(0,1),(1,1)]:=BOK.mk Tryz.zeroValue189 EM (by intro w; simp)
theorem kE:SOK Tryz.prog 52 126 1 2 #[.string ⟨#[]⟩,.slice none 0 0]:=SOK.mk Dz DI Tryz.zeroValue126 (by decide) (by kernel_rfl)
theorem kF:SOK Tryz.prog 82 27 1 12 #[.int .i64 0,.int .i64 0,.bool false,.bool false,.bool false,.int .i64 0,.int .i64 0,.int .i64 0,.int .i64 0,.int .i64 0,.int .i64 0,.slice none 0 0]:=SOK.mk Dk C3 Tryz.zeroValue27 (by decide) (by kernel_rfl)
theorem fZ:SOK Tryz.prog 106 3 1 1 #[.int .i64 0]:=SOK.mk C6 CY Tryz.zeroValue3 (by decide) (by kernel_rfl)
theorem kf:SOK Tryz.prog 124 127 1 2 #[.int .i64 0,.slice none 0 0]:=SOK.mk Do Dn Tryz.zeroValue127 (by decide) (by kernel_rfl)
theorem kg:SOK Tryz.prog 142 189 0 2 #[]:=SOK.mk0 DF DQ
theorem kh:SOK Tryz.prog 142 189 1 2 #[.string ⟨#[]⟩,.slice none 0 0]:=SOK.mk DF DQ Tryz.zeroValue189 (by decide) (by kernel_rfl)
theorem iz:(Tryz.prog.info? 3).map (fun i=>(i.zero,i.size,i.bytes))=some (some (.int .i64 0),1,8):=by kernel_rfl
theorem lP:(Tryz.prog.info? 27).map (fun i=>(i.zero,i.size,i.bytes))=some (some (.agg #[.int .i64 0,.int .i64 0,.bool false,.bool false,.bool false,.int .i64 0,.int .i64 0,.int .i64 0,.int .i64 0,.int .i64 0,.int .i64 0,.slice none 0 0]),12,96):=by kernel_rfl
theorem kX:(Tryz.prog.info? 126).map (fun i=>(i.zero,i.size,i.bytes))=some (some (.agg #[.string ⟨#[]⟩,.slice none 0 0]),2,40):=by kernel_rfl
theorem kY:(Tryz.prog.info? 127).map (fun i=>(i.zero,i.size,i.bytes))=some (some (.agg #[.int .i64 0,.slice none 0 0]),2,32):=by kernel_rfl
theorem kZ:(Tryz.prog.info? 189).map (fun i=>(i.zero,i.size,i.bytes))=some (some (.agg #[.string ⟨#[]⟩,.slice none 0 0]),2,40):=by kernel_rfl
def cV (a0:aV):Nat→Nat→List Int→Option (Nat×List Int)
 | 0,_,_=>none
 | m13+1,k6,y7=>if (k6:Int)<(a0.Cj.length:Int) then ((a0.Cj[k6]?).bind fun x18=>if (y7.length+1)*8≤140737488355328 then (if -9223372036854775808≤((k6:Int)+1)∧((k6:Int)+1)≤9223372036854775807 then (cV a0 m13 (k6+1) (y7 ++ [x18.CD])) else none) else none) else some (k6,y7)
def ie (a0:aV):Option (Top):=(cV a0 (((a0.Cj.length:Int)).toNat+1) 0 []).bind fun (k29,y30)=>some (⟨a0.Cx,y30⟩:Top)
theorem ot (a0:aV) (A1:Option Addr) (c2:Nat) (r:Top) (h:ie a0=some r):ay Tryz.prog 127 #[.agg #[jS a0.Cx,.slice A1 a0.Cj.length c2]] (RX.of (av 2 cF) [.slice A1 a0.Cj.length c2] a0.Cj) (aB) (fun v A' N=> ∃ (A33:Option Addr) (c34:Nat),v= .agg #[jS r.Cx,.slice A33 r.Cj.length c34]∧A'=aB∧N = [RdR (av 1 bP) [.slice A33 r.Cj.length c34] r.Cj]):=by
 refine aL Tryz.func127 Z Tryz.ntmps127 Z ?_
 intro F w hX
 unfold ie at h
 refine T.seq (T.region Z (TL.box Z .u Z Z (fun b3=>(TL.alloc Z .u Tryz.zeroValue189 Z (fun b4=>(TL.nil (X.seq (T.seq (T.region Z (TL.run ab [0] Z Z (TL.q Z .u (Ai 1 Z Dp Z Z) Z ?_)))))))))))
 refine TL.q Z .u (AD (cells:= #[jS a0.Cx,.slice none 0 0]) kW Z (by kernel_rfl)) Z ?_
 refine TL.alloc Z .u Tryz.zeroValue189 Z (fun b5=>(Ay (cs':= #[jS a0.Cx,.slice none 0 0]) Z .u Z Z DQ Z Z Z Z (TL.nil (X.seq (T.seq (T.seq (T.region Z (TL.run ab [0] Z Z (TL.nil (X.seq (T.block (Bt 3 1 bP ?_))))))))))))
 obtain⟨E10,hE11,hO12⟩:=CM h
 refine AV (fun m e Rs=> ∃ (k6:Nat) (y7:List Int) (A8:Option Addr) (c9:Nat),e = [(1,jP b3),(2,jP b4),(3,jP b5),(4,jI (k6:Int))]∧Rs = [aZ 3 1 bP (.slice A8 y7.length c9) y7,aC b5 189 #[jS a0.Cx,.slice A8 y7.length c9],aC b4 189 #[.string ⟨#[]⟩,.slice none 0 0],aC b3 126 #[jS a0.Cx,.slice A1 a0.Cj.length c2],aB]∧cV a0 m k6 y7=some E10) (((a0.Cj.length:Int)).toNat+1) [0,0,0,0,0] ⟨0,[],none,0,Z,Z,by exact hE11⟩ (by rfl) (by rfl) ?_
 rintro m13 _ _ ⟨k6,y7,A8,c9,rfl,rfl,hl15⟩
 clear hE11 h
 cases m13 with
 | zero =>
  rw[cV] at hl15
  cases hl15
 | succ m13 =>
  have h:=hl15
  clear hl15
  rw[cV] at h
  refine T.seq (T.seq (T.region Z (TL.run ab [0,1] Z Z (TL.q Z .u (Ai 3 Z DO Z Z) Z (TL.q Z .u (AA Z Do) Z (TL.run ab [4] Z Z ?_))))))
  rcases jF h with⟨c17,h⟩ | ⟨c17,h⟩
  ·refine TL.nil (X.seq (Am Z (CN c17) ?_))
   obtain⟨x18,hx19,h⟩:=CM h
   obtain⟨gz20,oz20,rfl,z20cs,z20cl,z20cc,z20nf,z20r⟩:=AK (by decide) hX hx19
   obtain⟨z20S,z20r,z20rr⟩:=z20r
   obtain⟨A21,c22,rfl,z20s0⟩:=z20r
   have hX23:(RX.of (av 12 bD) [.slice A21 x18.Ct.length c22] x18.Ct).reads w F:=⟨z20S,z20s0,z20rr⟩
   replace h:=ak h
   obtain⟨c25,h⟩:=h
   refine T.skip (X.seq (T.seq (T.block ?_)))
   refine BR (fun e Rs=> ∃ (b24:Nat) (A26:Option Addr) (c27:Nat),e = [(1,jP b3),(2,jP b4),(3,jP b5),(4,jI (k6:Int)),(8,jI (k6:Int)),(9,.pointer (some ⟨b3,1,none⟩)),(10,.slice (some ⟨gz20,oz20,none⟩) a0.Cj.length c2),(11,jI (a0.Cj.length:Int))]∧Rs = [aZ 3 1 bP (.slice A26 (y7 ++ [x18.CD]).length c27) (y7 ++ [x18.CD]),aC b5 189 #[jS a0.Cx,.slice A26 (y7 ++ [x18.CD]).length c27],aC b4 189 #[.string ⟨#[]⟩,.slice none 0 0],aC b3 126 #[jS a0.Cx,.slice (some ⟨gz20,oz20,none⟩) a0.Cj.length c2],aB]) ?_ ?_
   ·refine AH (.q 0 (.q 2 (.q 3 (.q 4 (.q 5 (.q 6 (.q 7 (.br 1 (.e 8 (.e 9 (.q 10 (.e 11 .nil)))) (.e 8 (.e 1 (.e 9 (.q 10 (.e 11 .nil))))))))))))) [2,2,2] Z bq nd (by kernel_rfl) ?_
    refine TD.run ab [0,2] Z Z (TD.q Z .u (Ai 1 Z DO Z Z) Z (TD.run ab [4] Z Z ?_))
    refine TD.q Z .u (Aw (k:=k6) Z Z Z Do Dn (CU hx19).1) Z ?_
    refine TD.run ab [6] Z Z (TD.q Z .u (AY 0 Z CV z20nf z20cc Z Z) Z ?_)
    refine TD.br ?_ ?_
    ·refine BX Z .u (Ai 1 Z Eo Z Z) Z [2,2,2] Z (Bx (cells:= #[jI x18.CD]) Z .u fZ Z (by rfl) Z [3,3,3] (fun _=>Z) (fun b24=> ?_))
     refine TD.app1 0 Z .u (us := [jI x18.CD]) (u:=x18.CD) (l:=y7) (E:=bP) Tryz.underlying106 iz Z (by decide) Z Z Z Z Z Z (fun _ _=>Z) (by have hq:=c25; omega) (by have hq:=c25; omega) Z [2,2,2] (fun _ _=>Z) (fun A26 c27=> ?_)
     exact Bi [0,0,0,0,0] Z (TD.run ab [10] Z Z (TD.st1 (cs':= #[jS a0.Cx,.slice A26 (y7 ++ [x18.CD]).length c27]) Z .u Z Z Fo Z Z Z Z [2,2,2] (Z) (TD.nil (Bw [0,0,0,0,0] ⟨b24,A26,c27,Z,Z⟩ (by rfl) (by rfl)))))
    ·refine Bx (cells:= #[jI x18.CD]) Z .u fZ Z (by rfl) Z [3,3,3] (fun _=>Z) (fun b24=>(BX Z .u (Ai 2 Z Eo Z Z) Z [3,3,3] Z ?_))
     refine TD.app1 0 Z .u (us := [jI x18.CD]) (u:=x18.CD) (l:=y7) (E:=bP) Tryz.underlying106 iz Z (by decide) Z Z Z Z Z Z (fun _ _=>Z) (by have hq:=c25; omega) (by have hq:=c25; omega) Z [2,2,2] (fun _ _=>Z) (fun A26 c27=> ?_)
     exact Bi [0,0,0,0,0] Z (TD.run ab [10] Z Z (TD.st1 (cs':= #[jS a0.Cx,.slice A26 (y7 ++ [x18.CD]).length c27]) Z .u Z Z Fo Z Z Z Z [2,2,2] (Z) (TD.nil (Bw [0,0,0,0,0] ⟨b24,A26,c27,Z,Z⟩ (by rfl) (by rfl)))))
   ·rintro _ _ ⟨b24,A26,c27,rfl,rfl⟩
    refine Az (X.seq (T.region Z ?_))
    replace h:=ak h
    obtain⟨c28,h⟩:=h
    exact TL.run ab [0] Z Z (TL.q Z .u (Ex.add Z Z c28) Z (TL.run ab [2] Z Z (TL.nil (X.back (m':=m13) [0,0,0,0,0] (by omega) ⟨k6+1,(y7 ++ [x18.CD]),A26,c27,Z,Z,h⟩ (by rfl) (by rfl)))))
  ·refine TL.nil (X.seq (Ap Z (CO c17) ?_))
   obtain rfl:=CP h
   replace h:=hO12
   clear hO12
   try dsimp only at h
   refine T.exit (Au (Au (AS (X.seq (T.seq (T.region Z (TL.q Z .u (Av (us := [jS a0.Cx,.slice A8 y7.length c9]) 1 Z Tryz.isAgg189 DQ Z Z Z) Z (Bq (cs':= #[jS a0.Cx,.slice A8 y7.length c9]) Z .u Z Z DQ Z Z Z Z ?_))))))))
   obtain rfl:=CP h
   exact TL.nil (X.seq (T.ret (Bu (by decide) 0 Z (AQ [0,0,0,0,0] Z (Ak [4,0] Tryz.results127 (AF (us:= #[jS a0.Cx,.slice A8 y7.length c9]) 2 Z Tryz.isAgg189 DQ Z Z) ⟨_,_,Z,Z,Z⟩ (by rfl) (.inl Z))))))
def dE (a0:List aV):Nat→Int→List Top→Nat→Option (Lp Int (Int×List Top×Nat))
 | 0,_,_,_=>none
 | m13+1,y5,y6,k9=>if (k9:Int)<(a0.length:Int) then ((a0[k9]?).bind fun x18=>if (x18.Cj.length:Int)=0 then some (Lp.ret 10) else ((ie x18).bind fun x25=>if (y6.length+1)*40≤140737488355328 then ((jg (y6 ++ [x25])).bind fun x33=>if x33=true then (if -9223372036854775808≤((k9:Int)+1)∧((k9:Int)+1)≤9223372036854775807 then (dE a0 m13 y5 (y6 ++ [x25]) (k9+1)) else none) else some (Lp.ret 13)) else none)) else (some (Lp.go (y5,y6,k9)))
def gR (a0:List aV):Option (Int):=if (a0.length:Int)=0 then some 10 else ((dE a0 (((a0.length:Int)).toNat+1) 0 ([]:List Top) 0).bind fun e=>match e with | .ret r=>some r | .go (y37,y38,k41)=>some 0)
theorem pu (a0:List aV) (A1:Option Addr) (c2:Nat) (r:Int) (h:gR a0=some r):ay Tryz.prog 74 #[.slice A1 a0.length c2] (RX.of (av 2 aR) [.slice A1 a0.length c2] a0) (aB) (fun v A' N=>v=jI r∧A'=aB∧N = []):=by
 refine aL Tryz.func74 Z Tryz.ntmps74 Z ?_
 intro F w hX
 unfold gR at h
 refine T.seq (T.region Z (TL.run ab [0] Z Z (TL.nil (X.seq (T.seq (T.seq (T.region Z (TL.run ab [0] Z Z (TL.q Z .u (AA Z Dz) Z (TL.run ab [2] Z Z ?_))))))))))
 rcases jF h with⟨c3,h⟩ | ⟨c3,h⟩
 ·refine TL.nil (X.seq (Am Z (CN c3) (T.seq (T.region Z (TL.run ab [0] Z Z ?_)))))
  obtain rfl:=CP h
  exact TL.nil (X.seq (T.ret (Al (Ak [0] Fq (Aj Z) ⟨Z,Z,Z⟩ (by rfl) (.inl Z)))))
 ·refine TL.nil (X.seq (Ap Z (CO c3) (T.skip (X.seq (T.seq (T.region Z (Bk (cells:= #[]) Z .u kg Z (by rfl) Z (fun b4=>(BO (us := []) (xs:=([]:List Top)) (E:=sp) (z:=2) Z (Nat.le_of_ble_eq_true Z) (fun _=>Z) (TL.run ab [1] Z Z (TL.nil (X.seq (T.seq (T.seq (T.region Z (TL.run ab [0] Z Z ?_))))))))))))))))
  refine TL.nil (X.seq (T.block ?_))
  obtain⟨E10,hE11,hO12⟩:=CM h
  refine AV (fun m e Rs=> ∃ (y5:Int) (y6:List Top) (A7:Option Addr) (c8:Nat) (k9:Nat),e = [(0,.slice A1 a0.length c2),(2,jI y5),(3,.slice A7 y6.length c8),(4,jI (k9:Int))]∧Rs = [aZ 189 2 sp (.slice A7 y6.length c8) y6,aB]∧dE a0 m y5 y6 k9=some E10) (((a0.length:Int)).toNat+1) [0,0] ⟨0,([]:List Top),(some ⟨b4,0,none⟩),0,0,Z,Z,by exact hE11⟩ (by rfl) (by rfl) ?_
  rintro m13 _ _ ⟨y5,y6,A7,c8,k9,rfl,rfl,hl15⟩
  clear hE11 h
  cases m13 with
  | zero =>
   rw[dE] at hl15
   cases hl15
  | succ m13 =>
   have h:=hl15
   clear hl15
   rw[dE] at h
   refine T.seq (T.seq (T.region Z (TL.run ab [0,1] Z Z (TL.q Z .u (AA Z Dz) Z (TL.run ab [3] Z Z ?_)))))
   rcases jF h with⟨c17,h⟩ | ⟨c17,h⟩
   ·refine TL.nil (X.seq (Am Z (CN c17) (T.skip (X.seq (T.seq (T.block (T.seq (T.seq (T.region Z ?_)))))))))
    obtain⟨x18,hx19,h⟩:=CM h
    obtain⟨gz20,oz20,rfl,z20cs,z20cl,z20cc,z20nf,z20r⟩:=AK (by decide) hX hx19
    obtain⟨z20S,z20r,z20rr⟩:=z20r
    obtain⟨A21,c22,rfl,z20s0⟩:=z20r
    have hX23:(RX.of (av 2 cF) [.slice A21 x18.Cj.length c22] x18.Cj).reads w F:=⟨z20S,z20s0,z20rr⟩
    refine TL.run ab [0,1] Z Z ?_
    refine TL.q Z .u (Aw (k:=k9) Z Z Z Dz DI (CU hx19).1) Z ?_
    refine TL.run ab [3] Z Z (TL.q Z .u (AY 1 Z DO z20nf z20cc Z Z) Z (TL.q Z .u (AA Z Do) Z (TL.run ab [6] Z Z ?_)))
    rcases jF h with⟨c24,h⟩ | ⟨c24,h⟩
    ·refine TL.nil (X.seq (Am Z (CN c24) (T.seq (T.region Z (TL.run ab [0] Z Z ?_)))))
     obtain rfl:=CP h
     replace h:=hO12
     clear hO12
     try dsimp only at h
     obtain rfl:=CP h
     exact TL.nil (X.seq (T.ret (Al (At (Al (Al (At (Al (Ak [1] Fq (Aj Z) ⟨Z,Z,Z⟩ (by rfl) (.inl Z))))))))))
    ·refine TL.nil (X.seq (Ap Z (CO c24) (T.skip (X.seq (T.seq (T.region Z (TL.run ab [0,1,2] Z Z ?_)))))))
     refine TL.q Z .u (Aw (k:=k9) Z Z Z Dz DI (CU hx19).1) Z ?_
     refine TL.q Z .u (Bb (us := [jS x18.Cx,.slice A21 x18.Cj.length c22]) 0 Z EO DI z20nf z20cc Z Z Z) Z ?_
     obtain⟨x25,hx28,h⟩:=CM h
     refine AP Z .u (.fn Tryz.call127 Z) (ot x18 _ _ _ hx28) (fun _ hs=>(AE hs hX23)) Z ?_
     rintro _ _ _ ⟨A26,c27,rfl,rfl,rfl⟩
     refine AC [0,0,0] Z (Bk (cells:= #[jS x25.Cx,.slice A26 x25.Cj.length c27]) Z .u kh Z (by rfl) Z (fun b29=> ?_))
     replace h:=ak h
     obtain⟨c30,h⟩:=h
     refine BP 1 0 Z .u (us := [jS x25.Cx,.slice A26 x25.Cj.length c27]) (u:=x25) (l:=y6) (E:=sp) Tryz.underlying142 kZ Z (by decide) Z Z Z Z Z Z Z (fun w G hG=>⟨_,_,Z,hG.1⟩) (by have hq:=c30; omega) (by have hq:=c30; omega) Z (fun A31 c32=> ?_)
     refine AC [0,0] Z (TL.run ab [8] Z Z (TL.nil (X.seq (T.seq (T.region Z ?_)))))
     obtain⟨x33,hx34,h⟩:=CM h
     refine TL.run ab [0] Z Z (Ax Z .u (.fn Tryz.call128 Z) (pt (y6 ++ [x25]) _ _ _ hx34) (fun _ hs=>(SrcE.res 0 hs Z (fun w G h=>aP (by decide) w G h))) Z (TL.run ab [2] Z Z ?_))
     rcases jF h with⟨c35,h⟩ | ⟨c35,h⟩
     ·refine TL.nil (X.seq (Ap Z (az c35) (T.skip (Az (X.seq (T.region Z ?_))))))
      replace h:=ak h
      obtain⟨c36,h⟩:=h
      exact TL.run ab [0] Z Z (TL.q Z .u (Ex.add Z Z c36) Z (TL.run ab [2] Z Z (TL.nil (X.back (m':=m13) [0,0] (by omega) ⟨y5,(y6 ++ [x25]),A31,c32,k9+1,Z,Z,h⟩ (by rfl) (by rfl)))))
     ·replace c35:=CX c35
      refine TL.nil (X.seq (Am Z (aD c35) (T.seq (T.region Z (TL.run ab [0] Z Z ?_)))))
      obtain rfl:=CP h
      replace h:=hO12
      clear hO12
      try dsimp only at h
      obtain rfl:=CP h
      exact TL.nil (X.seq (T.ret (At (Al (Al (At (Al (Ak [1] Fq (Aj Z) ⟨Z,Z,Z⟩ (by rfl) (.inl Z)))))))))
   ·refine TL.nil (X.seq (Ap Z (CO c17) ?_))
    obtain rfl:=CP h
    replace h:=hO12
    clear hO12
    try dsimp only at h
    refine T.exit (Au (Au (AS (X.seq (T.seq (T.region Z (TL.run ab [0] Z Z ?_)))))))
    obtain rfl:=CP h
    exact TL.nil (X.seq (T.ret (Ak [1] Fq (Aj Z) ⟨Z,Z,Z⟩ (by rfl) (.inl Z))))
def cI (a0:List Bat) (a1:Bool):Nat→Int→Nat→Option (Lp Int (Int×Nat))
 | 0,_,_=>none
 | m16+1,y11,k12=>if (k12:Int)<(a0.length:Int) then ((a0[k12]?).bind fun x21=>(bR x21).bind fun x27=>if x27=0 then (if x21.Cq=true then some (Lp.ret 12) else (if (x21.CE == a1)=true then (if -9223372036854775808≤((k12:Int)+1)∧((k12:Int)+1)≤9223372036854775807 then (cI a0 a1 m16 y11 (k12+1)) else none) else some (Lp.ret 8))) else some (Lp.ret x27)) else (some (Lp.go (y11,k12)))
def dF (a0:List Bat) (a1:Bool) (a2:Int):Option (Int):=(if (a0.length:Int)=0 then some true else (if a2=3 then (if (a0.length:Int)>1 then some true else some false) else some false)).bind fun y5=>if y5=true then some 10 else ((cI a0 a1 (((a0.length:Int)).toNat+1) 0 0).bind fun e=>match e with | .ret r=>some r | .go (y33,k34)=>some 0)
theorem jh (a0:List Bat) (A1:Option Addr) (c2:Nat) (a1:Bool) (a2:Int) (r:Int) (h:dF a0 a1 a2=some r):ay Tryz.prog 75 #[.slice A1 a0.length c2,.bool a1,jI a2] (RX.of (av 12 bD) [.slice A1 a0.length c2] a0) (aB) (fun v A' N=>v=jI r∧A'=aB∧N = []):=by
 refine aL Tryz.func75 Z Tryz.ntmps75 Z ?_
 intro F w hX
 unfold dF at h
 refine T.seq (T.region Z (TL.run ab [0] Z Z (TL.nil (X.seq (T.seq (T.seq ?_))))))
 obtain⟨y5,h,hk6⟩:=CM h
 refine Bg (fun e Rs=>e = [(0,.slice A1 a0.length c2),(1,.bool a1),(6,jI 0),(20,.bool y5)]∧Rs = [aB]) ?_ ?_
 ·clear hk6
  refine T.region Z (TL.run ab [0] Z Z (TL.q Z .u (AA Z Dk) Z ?_))
  rcases jF h with⟨c7,h⟩ | ⟨c7,h⟩
  ·refine TL.run ab [2,3] Z Z ?_
   iterate 3 refine An Z (.gn Z Z (CN c7)) Z ?_
   iterate 3 refine An Z (.gu Z Z) Z ?_
   refine An Z (.gn Z Z (CN c7)) Z (TL.q Z .u (Aq Z (CN c7) Z) Z ?_)
   cases h
   exact TL.nil (AB [0] ⟨Z,Z⟩ (by rfl) (by rfl))
  ·refine TL.run ab [2,3] Z Z ?_
   iterate 3 refine TL.q Z (.g Z Z (CO c7)) (Ao ab Z) Z ?_
   rcases jF h with⟨c8,h⟩ | ⟨c8,h⟩
   ·refine TL.q Z (.g Z Z (CN c8)) (Ao ab Z) Z (TL.q Z (.g Z Z (CN c8)) (AA Z Dk) Z (TL.q Z (.g Z Z (CN c8)) (Ao ab Z) Z (TL.q Z (.g Z Z (CO c7)) (Aq Z (CN c8) Z) Z (TL.q Z .u (Ar Z (CO c7) Z) Z ?_))))
    rcases jF h with⟨c9,h⟩ | ⟨c9,h⟩
    ·cases h
     exact TL.nil (Bh (d:=20) (v':= .bool true) Z (congrArg Value.bool (CN c9)) (AB [0] ⟨Z,Z⟩ (by rfl) (by rfl)))
    ·cases h
     exact TL.nil (Bh (d:=20) (v':= .bool false) Z (congrArg Value.bool (CO c9)) (AB [0] ⟨Z,Z⟩ (by rfl) (by rfl)))
   ·refine An Z (.gn Z Z (CO c8)) Z ?_
    iterate 2 refine An Z (.gn Z Z (CO c8)) Z ?_
    refine TL.q Z (.g Z Z (CO c7)) (Ar Z (CO c8) Z) Z (TL.q Z .u (Ar Z (CO c7) Z) Z ?_)
    cases h
    exact TL.nil (AB [0] ⟨Z,Z⟩ (by rfl) (by rfl))
 ·rintro _ _ ⟨rfl,rfl⟩
  clear h
  have h:=hk6
  clear hk6
  try dsimp only at h
  rcases jF h with⟨c10,h⟩ | ⟨c10,h⟩
  ·refine X.seq (Am Z c10 (T.seq (T.region Z (TL.run ab [0] Z Z ?_))))
   obtain rfl:=CP h
   exact TL.nil (X.seq (T.ret (Al (Ak [0] EY (Aj Z) ⟨Z,Z,Z⟩ (by rfl) (.inl Z)))))
  ·replace c10:=CX c10
   refine X.seq (Ap Z c10 (T.skip (X.seq (T.seq (T.seq (T.region Z (TL.run ab [0] Z Z (TL.nil (X.seq (T.block ?_))))))))))
   obtain⟨E13,hE14,hO15⟩:=CM h
   refine AV (fun m e Rs=> ∃ (y11:Int) (k12:Nat),e = [(0,.slice A1 a0.length c2),(1,.bool a1),(6,jI y11),(7,jI (k12:Int))]∧Rs = [aB]∧cI a0 a1 m y11 k12=some E13) (((a0.length:Int)).toNat+1) [0] ⟨0,0,Z,Z,by exact hE14⟩ (by rfl) (by rfl) ?_
   rintro m16 _ _ ⟨y11,k12,rfl,rfl,hl18⟩
   clear hE14 h
   cases m16 with
   | zero =>
    rw[cI] at hl18
    cases hl18
   | succ m16 =>
    have h:=hl18
    clear hl18
    rw[cI] at h
    refine T.seq (T.seq (T.region Z (TL.run ab [0,1] Z Z (TL.q Z .u (AA Z Dk) Z (TL.run ab [3] Z Z ?_)))))
    rcases jF h with⟨c20,h⟩ | ⟨c20,h⟩
    ·refine TL.nil (X.seq (Am Z (CN c20) (T.skip (X.seq (T.seq (T.block (T.seq (T.region Z ?_))))))))
     obtain⟨x21,hx22,h⟩:=CM h
     obtain⟨gz23,oz23,rfl,z23cs,z23cl,z23cc,z23nf,z23r⟩:=AK (by decide) hX hx22
     obtain⟨z23S,z23r,z23rr⟩:=z23r
     obtain⟨A24,c25,rfl,z23s0⟩:=z23r
     have hX26:(RX.of (av 7 aU) [.slice A24 x21.Ce.length c25] x21.Ce).reads w F:=⟨z23S,z23s0,z23rr⟩
     refine TL.run ab [0,1] Z Z ?_
     refine TL.q Z .u (Aw (k:=k12) Z Z Z Dk C3 (CU hx22).1) Z ?_
     refine TL.q Z .u (Bb (us := [jI x21.Cu,jI x21.Co,.bool x21.Cw,.bool x21.CE,.bool x21.Cq,jI x21.Cr,jI x21.Cl,jI x21.Cy,jI x21.Ci,jI x21.Cp,jI x21.Ch,.slice A24 x21.Ce.length c25]) 0 Z Df C3 z23nf z23cc Z Z Z) Z ?_
     obtain⟨x27,hx28,h⟩:=CM h
     refine Ax Z .u (.fn Tryz.call12 Z) (bY x21 _ _ _ hx28) (fun _ hs=>(AE hs hX26)) Z (TL.run ab [5] Z Z (TL.nil (X.seq (T.seq (T.seq (T.region Z (TL.run ab [0,1] Z Z ?_)))))))
     rcases jF h with⟨c29,h⟩ | ⟨c29,h⟩
     ·refine TL.nil (X.seq (Ap Z (az (CN c29)) (T.skip (X.seq (T.seq (T.seq (T.region Z (TL.run ab [0,1] Z Z ?_))))))))
      refine TL.q Z .u (Aw (k:=k12) Z Z Z Dk C3 (CU hx22).1) Z ?_
      refine TL.run ab [3] Z Z (TL.q Z .u (AY 4 Z Dd z23nf z23cc Z Z) Z ?_)
      rcases jF h with⟨c30,h⟩ | ⟨c30,h⟩
      ·refine TL.nil (X.seq (Am Z c30 (T.seq (T.region Z (TL.run ab [0] Z Z ?_)))))
       obtain rfl:=CP h
       replace h:=hO15
       clear hO15
       try dsimp only at h
       obtain rfl:=CP h
       exact TL.nil (X.seq (T.ret (Al (At (Al (Al (At (Al (Ak [0] EY (Aj Z) ⟨Z,Z,Z⟩ (by rfl) (.inl Z))))))))))
      ·replace c30:=CX c30
       refine TL.nil (X.seq (Ap Z c30 (T.skip (X.seq (T.seq (T.region Z (TL.run ab [0,1] Z Z ?_)))))))
       refine TL.q Z .u (Aw (k:=k12) Z Z Z Dk C3 (CU hx22).1) Z ?_
       refine TL.run ab [3] Z Z (TL.q Z .u (AY 3 Z Dd z23nf z23cc Z Z) Z (TL.run ab [5] Z Z (TL.q Z .u (Ex.bNe Z Z Z Z EC) Z ?_)))
       rcases jF h with⟨c31,h⟩ | ⟨c31,h⟩
       ·refine TL.nil (X.seq (Ap Z (az c31) (T.skip (Az (X.seq (T.region Z ?_))))))
        replace h:=ak h
        obtain⟨c32,h⟩:=h
        exact TL.run ab [0] Z Z (TL.q Z .u (Ex.add Z Z c32) Z (TL.run ab [2] Z Z (TL.nil (X.back (m':=m16) [0] (by omega) ⟨y11,k12+1,Z,Z,h⟩ (by rfl) (by rfl)))))
       ·replace c31:=CX c31
        refine TL.nil (X.seq (Am Z (aD c31) (T.seq (T.region Z (TL.run ab [0] Z Z ?_)))))
        obtain rfl:=CP h
        replace h:=hO15
        clear hO15
        try dsimp only at h
        obtain rfl:=CP h
        exact TL.nil (X.seq (T.ret (At (Al (Al (At (Al (Ak [0] EY (Aj Z) ⟨Z,Z,Z⟩ (by rfl) (.inl Z)))))))))
     ·refine TL.nil (X.seq (Am Z (aD (CO c29)) (T.seq (T.region Z (TL.run ab [0,1] Z Z ?_)))))
      obtain rfl:=CP h
      replace h:=hO15
      clear hO15
      try dsimp only at h
      obtain rfl:=CP h
      exact TL.nil (X.seq (T.ret (Al (At (Al (Al (At (Al (Ak [0] EY (Aj Z) ⟨Z,Z,Z⟩ (by rfl) (.inl Z))))))))))
    ·refine TL.nil (X.seq (Ap Z (CO c20) ?_))
     obtain rfl:=CP h
     replace h:=hO15
     clear hO15
     try dsimp only at h
     refine T.exit (Au (Au (AS (X.seq (T.seq (T.region Z (TL.run ab [0] Z Z ?_)))))))
     obtain rfl:=CP h
     exact TL.nil (X.seq (T.ret (Ak [0] EY (Aj Z) ⟨Z,Z,Z⟩ (by rfl) (.inl Z))))
def cz (a0:aG) (a1:Int) (k28:Nat):Nat→Int→Nat→Option (Lp Int (Int×Nat))
 | 0,_,_=>none
 | m42+1,y37,k38=>(a0.Cm[k28]?).bind fun x46=>if (k38:Int)<(x46.Cj.length:Int) then ((x46.Cj[k38]?).bind fun x53=>if a0.CA.null=true then ((dF x53.Ct false a1).bind fun x60=>if x60=0 then (if -9223372036854775808≤((k38:Int)+1)∧((k38:Int)+1)≤9223372036854775807 then (cz a0 a1 k28 m42 y37 (k38+1)) else none) else some (Lp.ret x60)) else ((dF x53.Ct true a1).bind fun x64=>if x64=0 then (if -9223372036854775808≤((k38:Int)+1)∧((k38:Int)+1)≤9223372036854775807 then (cz a0 a1 k28 m42 y37 (k38+1)) else none) else some (Lp.ret x64))) else (some (Lp.go (y37,k38)))
def cA (a0:aG) (a1:Int):Nat→Int→Nat→Option (Lp Int (Int×Nat))
 | 0,_,_=>none
 | m32+1,y27,k28=>if (k28:Int)<(a0.Cm.length:Int) then ((cz a0 a1 k28 (((a0.Cm[k28]?).map (fun x37=>((x37.Cj.length:Int)).toNat+1)).getD 0) y27 0).bind fun e=>match e with | .ret r=>some (Lp.ret r) | .go (y69,k70)=>(if -9223372036854775808≤((k28:Int)+1)∧((k28:Int)+1)≤9223372036854775807 then (cA a0 a1 m32 y69 (k28+1)) else none)) else (some (Lp.go (y27,k28)))
theorem ow (a0:aG) (a1:Int) (u1:Int) (u2:Nat):cA a0 a1 0 u1 u2=none:=rfl
theorem oz (a0:aG) (a1:Int) (m32:Nat) (y27:Int) (k28:Nat):cA a0 a1 (m32+1) y27 k28=(if (k28:Int)<(a0.Cm.length:Int) then ((cz a0 a1 k28 (((a0.Cm[k28]?).map (fun x37=>((x37.Cj.length:Int)).toNat+1)).getD 0) y27 0).bind fun e=>match e with | .ret r=>some (Lp.ret r) | .go (y69,k70)=>(if -9223372036854775808≤((k28:Int)+1)∧((k28:Int)+1)≤9223372036854775807 then (cA a0 a1 m32 y69 (k28+1)) else none)) else (some (Lp.go (y27,k28)))):=rfl
def ga (a0:aG) (a1:Int):Option (Int):=(if a0.CA.null=true then (if a0.CA.data = [] then some false else some true) else (if (a0.CA.data.length:Int)<1 then some true else (if (a0.CA.data.length:Int)>32767 then some true else some false))).bind fun y7=>if y7=true then some 4 else ((if a0.CG<(-1) then some true else (if a0.CG>1 then some true else (if a0.Cz<0 then some true else (if a0.Cz>2147483647 then some true else some false)))).bind fun y17=>if y17=true then some 11 else ((gR a0.Cm).bind fun x24=>if x24=0 then ((cA a0 a1 (((a0.Cm.length:Int)).toNat+1) 0 0).bind fun e=>match e with | .ret r=>some r | .go (y72,k73)=>some 0) else some x24))
theorem oA (a0:aG) (A1:Option Addr) (c2:Nat) (a1:Int) (r:Int) (h:ga a0 a1=some r):ay Tryz.prog 29 #[.agg #[.bool a0.CA.null,jS a0.CA.data,jI a0.CG,jI a0.Cz,.slice A1 a0.Cm.length c2],jI a1] (RX.of (av 2 aR) [.slice A1 a0.Cm.length c2] a0.Cm) (aB) (fun v A' N=>v=jI r∧A'=aB∧N = []):=by
 refine aL Tryz.func29 Z Tryz.ntmps29 Z ?_
 intro F w hX
 unfold ga at h
 refine T.seq (T.region Z (TL.box Z .u Z Z (fun b3=>(TL.run ab [1] Z Z (TL.nil (X.seq (T.seq (T.seq ?_))))))))
 obtain⟨y7,h,hk8⟩:=CM h
 refine Bg (fun e Rs=>e = [(1,jI a1),(2,jP b3),(4,jI 0),(37,.bool y7)]∧Rs = [aC b3 54 #[.bool a0.CA.null,jS a0.CA.data,jI a0.CG,jI a0.Cz,.slice A1 a0.Cm.length c2],aB]) ?_ ?_
 ·clear hk8
  refine T.region Z (TL.run ab [0,1] Z Z (TL.q Z .u (Ai 0 Z Dd Z Z) Z ?_))
  rcases jF h with⟨c9,h⟩ | ⟨c9,h⟩
  ·refine TL.run ab [3] Z Z ?_
   iterate 2 refine TL.q Z (.g Z Z c9) (Ao ab Z) Z ?_
   refine TL.q Z (.g Z Z c9) (Ai 0 Z Dp Z Z) Z (TL.q Z (.g Z Z c9) (Ex.sNe Z (m := []) Z) Z (TL.q Z .u (Aq Z c9 Z) Z ?_))
   rcases jF h with⟨c10,h⟩ | ⟨c10,h⟩
   ·refine TL.run ab [9] Z Z ?_
    iterate 2 refine TL.q Z (.g Z Z (az (CN c10))) (Ao ab Z) Z ?_
    refine TL.q Z (.g Z Z (az (CN c10))) (Ai 0 Z Dd Z Z) Z ?_
    iterate 2 refine TL.q Z (.g Z Z (az (CN c10))) (Ao ab Z) Z ?_
    iterate 6 refine An Z (.gn Z Z (az c9)) Z ?_
    iterate 5 refine An Z (.gu Z Z) Z ?_
    refine An Z (.gn Z Z (az c9)) Z (TL.q Z (.g Z Z (az (CN c10))) (Ar Z (az c9) Z) Z (TL.q Z .u (Ar Z (az (CN c10)) Z) Z ?_))
    cases h
    exact TL.nil (AB [0,0] ⟨Z,Z⟩ (by rfl) (by rfl))
   ·refine TL.run ab [9] Z Z ?_
    iterate 5 refine An Z (.gn Z Z (aD (CO c10))) Z ?_
    iterate 12 refine An Z (.gu Z Z) Z ?_
    refine An Z (.gn Z Z (aD (CO c10))) Z (TL.q Z .u (Aq Z (aD (CO c10)) Z) Z ?_)
    cases h
    exact TL.nil (AB [0,0] ⟨Z,Z⟩ (by rfl) (by rfl))
  ·replace c9:=CX c9
   refine TL.run ab [3] Z Z ?_
   iterate 4 refine An Z (.gn Z Z c9) Z ?_
   refine TL.q Z .u (Ar Z c9 Z) Z (TL.run ab [9] Z Z ?_)
   iterate 2 refine TL.q Z (.g Z Z Z) (Ao ab Z) Z ?_
   refine TL.q Z (.g Z Z Z) (Ai 0 Z Dd Z Z) Z ?_
   iterate 2 refine TL.q Z (.g Z Z Z) (Ao ab Z) Z ?_
   iterate 2 refine TL.q Z (.g Z Z (aD c9)) (Ao ab Z) Z ?_
   refine TL.q Z (.g Z Z (aD c9)) (Ai 0 Z Dp Z Z) Z (TL.q Z (.g Z Z (aD c9)) (AW Z CZ) Z ?_)
   iterate 2 refine TL.q Z (.g Z Z (aD c9)) (Ao ab Z) Z ?_
   rcases jF h with⟨c11,h⟩ | ⟨c11,h⟩
   ·refine An Z (.gn Z Z (CN c11)) Z ?_
    iterate 4 refine An Z (.gn Z Z (CN c11)) Z ?_
    refine TL.q Z (.g Z Z (aD c9)) (Aq Z (CN c11) Z) Z (TL.q Z (.g Z Z Z) (Aq Z (aD c9) Z) Z (TL.q Z .u (Ar Z Z Z) Z ?_))
    cases h
    exact TL.nil (AB [0,0] ⟨Z,Z⟩ (by rfl) (by rfl))
   ·refine TL.q Z (.g Z Z (CO c11)) (Ao ab Z) Z (TL.q Z (.g Z Z (CO c11)) (Ao ab Z) Z (TL.q Z (.g Z Z (CO c11)) (Ai 0 Z Dp Z Z) Z (TL.q Z (.g Z Z (CO c11)) (AW Z CZ) Z (TL.q Z (.g Z Z (CO c11)) (Ao ab Z) Z (TL.q Z (.g Z Z (aD c9)) (Ar Z (CO c11) Z) Z (TL.q Z (.g Z Z Z) (Aq Z (aD c9) Z) Z (TL.q Z .u (Ar Z Z Z) Z ?_)))))))
    rcases jF h with⟨c12,h⟩ | ⟨c12,h⟩
    ·cases h
     exact TL.nil (Bh (d:=37) (v':= .bool true) Z (congrArg Value.bool (CN c12)) (AB [0,0] ⟨Z,Z⟩ (by rfl) (by rfl)))
    ·cases h
     exact TL.nil (Bh (d:=37) (v':= .bool false) Z (congrArg Value.bool (CO c12)) (AB [0,0] ⟨Z,Z⟩ (by rfl) (by rfl)))
 ·rintro _ _ ⟨rfl,rfl⟩
  clear h
  have h:=hk8
  clear hk8
  try dsimp only at h
  rcases jF h with⟨c13,h⟩ | ⟨c13,h⟩
  ·refine X.seq (Am Z c13 (T.seq (T.region Z (TL.run ab [0] Z Z ?_))))
   obtain rfl:=CP h
   exact TL.nil (X.seq (T.ret (Al (Ak [1] EN (Aj Z) ⟨Z,Z,Z⟩ (by rfl) (.inl Z)))))
  ·replace c13:=CX c13
   refine X.seq (Ap Z c13 (T.skip (X.seq (T.seq (T.seq ?_)))))
   obtain⟨y17,h,hk18⟩:=CM h
   refine Bg (fun e Rs=>e = [(1,jI a1),(2,jP b3),(4,jI 0),(55,.bool y17)]∧Rs = [aC b3 54 #[.bool a0.CA.null,jS a0.CA.data,jI a0.CG,jI a0.Cz,.slice A1 a0.Cm.length c2],aB]) ?_ ?_
   ·clear hk18
    refine T.region Z (TL.run ab [0] Z Z (TL.q Z .u (Ai 0 Z CV Z Z) Z ?_))
    rcases jF h with⟨c19,h⟩ | ⟨c19,h⟩
    ·refine TL.run ab [2,3] Z Z ?_
     iterate 3 refine An Z (.gn Z Z (CN c19)) Z ?_
     refine TL.q Z .u (Aq Z (CN c19) Z) Z (TL.run ab [8] Z Z ?_)
     iterate 3 refine An Z (.gn Z Z Z) Z ?_
     refine TL.q Z .u (Aq Z Z Z) Z (TL.run ab [13] Z Z ?_)
     iterate 3 refine An Z (.gn Z Z Z) Z ?_
     refine TL.q Z .u (Aq Z Z Z) Z ?_
     cases h
     exact TL.nil (AB [0,0] ⟨Z,Z⟩ (by rfl) (by rfl))
    ·refine TL.run ab [2,3] Z Z (TL.q Z (.g Z Z (CO c19)) (Ao ab Z) Z (TL.q Z (.g Z Z (CO c19)) (Ai 0 Z CV Z Z) Z (TL.q Z (.g Z Z (CO c19)) (Ao ab Z) Z (TL.q Z .u (Ar Z (CO c19) Z) Z ?_))))
     rcases jF h with⟨c20,h⟩ | ⟨c20,h⟩
     ·refine TL.run ab [8] Z Z ?_
      iterate 3 refine An Z (.gn Z Z (CN c20)) Z ?_
      refine TL.q Z .u (Aq Z (CN c20) Z) Z (TL.run ab [13] Z Z ?_)
      iterate 3 refine An Z (.gn Z Z Z) Z ?_
      refine TL.q Z .u (Aq Z Z Z) Z ?_
      cases h
      exact TL.nil (AB [0,0] ⟨Z,Z⟩ (by rfl) (by rfl))
     ·refine TL.run ab [8] Z Z (TL.q Z (.g Z Z (CO c20)) (Ao ab Z) Z (TL.q Z (.g Z Z (CO c20)) (Ai 0 Z CV Z Z) Z (TL.q Z (.g Z Z (CO c20)) (Ao ab Z) Z (TL.q Z .u (Ar Z (CO c20) Z) Z ?_))))
      rcases jF h with⟨c21,h⟩ | ⟨c21,h⟩
      ·refine TL.run ab [13] Z Z ?_
       iterate 3 refine An Z (.gn Z Z (CN c21)) Z ?_
       refine TL.q Z .u (Aq Z (CN c21) Z) Z ?_
       cases h
       exact TL.nil (AB [0,0] ⟨Z,Z⟩ (by rfl) (by rfl))
      ·refine TL.run ab [13] Z Z (TL.q Z (.g Z Z (CO c21)) (Ao ab Z) Z (TL.q Z (.g Z Z (CO c21)) (Ai 0 Z CV Z Z) Z (TL.q Z (.g Z Z (CO c21)) (Ao ab Z) Z (TL.q Z .u (Ar Z (CO c21) Z) Z ?_))))
       rcases jF h with⟨c22,h⟩ | ⟨c22,h⟩
       ·cases h
        exact TL.nil (Bh (d:=55) (v':= .bool true) Z (congrArg Value.bool (CN c22)) (AB [0,0] ⟨Z,Z⟩ (by rfl) (by rfl)))
       ·cases h
        exact TL.nil (Bh (d:=55) (v':= .bool false) Z (congrArg Value.bool (CO c22)) (AB [0,0] ⟨Z,Z⟩ (by rfl) (by rfl)))
   ·rintro _ _ ⟨rfl,rfl⟩
    clear h
    have h:=hk18
    clear hk18
    try dsimp only at h
    rcases jF h with⟨c23,h⟩ | ⟨c23,h⟩
    ·refine X.seq (Am Z c23 (T.seq (T.region Z (TL.run ab [0] Z Z ?_))))
     obtain rfl:=CP h
     exact TL.nil (X.seq (T.ret (Al (Ak [1] EN (Aj Z) ⟨Z,Z,Z⟩ (by rfl) (.inl Z)))))
    ·replace c23:=CX c23
     refine X.seq (Ap Z c23 (T.skip (X.seq (T.seq (T.region Z (TL.run ab [0] Z Z (TL.q Z .u (Ai 0 Z D2 Z Z) Z ?_)))))))
     obtain⟨x24,hx25,h⟩:=CM h
     refine Ax Z .u (.fn Tryz.call74 Z) (pu a0.Cm _ _ _ hx25) (fun _ hs=>(AE hs hX)) Z (TL.run ab [3] Z Z (TL.nil (X.seq (T.seq (T.seq (T.region Z (TL.run ab [0,1] Z Z ?_)))))))
     rcases jF h with⟨c26,h⟩ | ⟨c26,h⟩
     ·refine TL.nil (X.seq (Ap Z (az (CN c26)) (T.skip (X.seq (T.seq (T.seq (T.region Z (TL.run ab [0] Z Z (TL.nil (X.seq (T.block ?_)))))))))))
      obtain⟨E29,hE30,hO31⟩:=CM h
      refine AV (fun m e Rs=> ∃ (y27:Int) (k28:Nat),e = [(1,jI a1),(2,jP b3),(4,jI y27),(6,jI (k28:Int))]∧Rs = [aC b3 54 #[.bool a0.CA.null,jS a0.CA.data,jI a0.CG,jI a0.Cz,.slice A1 a0.Cm.length c2],aB]∧cA a0 a1 m y27 k28=some E29) (((a0.Cm.length:Int)).toNat+1) [0,0] ⟨0,0,Z,Z,by exact hE30⟩ (by rfl) (by rfl) ?_
      rintro m32 _ _ ⟨y27,k28,rfl,rfl,hl34⟩
      clear hE30 h
      cases m32 with
      | zero =>
       rw[ow] at hl34
       cases hl34
      | succ m32 =>
       have h:=hl34
       clear hl34
       rw[oz] at h
       refine T.seq (T.seq (T.region Z (TL.run ab [0,1] Z Z (TL.q Z .u (Ai 0 Z D2 Z Z) Z (TL.q Z .u (AA Z Dz) Z (TL.run ab [4] Z Z ?_))))))
       rcases jF h with⟨c36,h⟩ | ⟨c36,h⟩
       ·refine TL.nil (X.seq (Am Z (CN c36) (T.skip (X.seq (T.seq (T.block (T.seq (T.region Z (TL.run ab [0] Z Z (TL.nil (X.seq (T.block ?_))))))))))))
        obtain⟨E39,hE40,hO41⟩:=CM h
        refine AV (fun m e Rs=> ∃ (y37:Int) (k38:Nat),e = [(1,jI a1),(2,jP b3),(4,jI y37),(6,jI (k28:Int)),(7,jI (k38:Int))]∧Rs = [aC b3 54 #[.bool a0.CA.null,jS a0.CA.data,jI a0.CG,jI a0.Cz,.slice A1 a0.Cm.length c2],aB]∧cz a0 a1 k28 m y37 k38=some E39) (((a0.Cm[k28]?).map (fun x37=>((x37.Cj.length:Int)).toNat+1)).getD 0) [0,0] ⟨y27,0,Z,Z,by exact hE40⟩ (by rfl) (by rfl) ?_
        rintro m42 _ _ ⟨y37,k38,rfl,rfl,hl44⟩
        clear hE40 h
        cases m42 with
        | zero =>
         rw[cz] at hl44
         cases hl44
        | succ m42 =>
         have h:=hl44
         clear hl44
         rw[cz] at h
         refine T.seq (T.seq (T.region Z (TL.run ab [0,1] Z Z (TL.q Z .u (Ai 0 Z D2 Z Z) Z ?_))))
         obtain⟨x46,hx47,h⟩:=CM h
         obtain⟨gz48,oz48,rfl,z48cs,z48cl,z48cc,z48nf,z48r⟩:=AK (by decide) hX hx47
         obtain⟨z48S,z48r,z48rr⟩:=z48r
         obtain⟨A49,c50,rfl,z48s0⟩:=z48r
         have hX51:(RX.of (av 2 cF) [.slice A49 x46.Cj.length c50] x46.Cj).reads w F:=⟨z48S,z48s0,z48rr⟩
         refine TL.run ab [3] Z Z ?_
         refine TL.q Z .u (Aw (k:=k28) Z Z Z Dz DI (CU hx47).1) Z ?_
         refine TL.run ab [5] Z Z (TL.q Z .u (AY 1 Z DO z48nf z48cc Z Z) Z (TL.q Z .u (AA Z Do) Z (TL.run ab [8] Z Z ?_)))
         rcases jF h with⟨c52,h⟩ | ⟨c52,h⟩
         ·refine TL.nil (X.seq (Am Z (CN c52) ?_))
          refine T.skip (X.seq (T.seq (T.block (T.seq (AH (.q 0 (.q 1 (.q 2 (.q 3 (.q 4 (.q 5 (.q 6 (.q 7 (.q 8 (.q 9 (.q 10 (.q 11 (.q 12 (.q 13 (.q 14 (.e 15 (.q 16 .nil))))))))))))))))) [0,0] Z bq (NoP.seq (NoP.blk (NoP.seq (NoP.seq (NoP.blk (NoP.blk (NoP.seq (NoP.seq (NoP.blk (NoP.seq aM)))))))))) (by kernel_rfl) ?_)))))
          refine TD.run ab [0] Z Z (TD.q Z .u (Ai 0 Z D2 Z Z) Z (TD.run ab [2] Z Z ?_))
          refine TD.q Z .u (Aw (k:=k28) Z Z Z Dz DI (CU hx47).1) Z ?_
          refine TD.run ab [4] Z Z (TD.q Z .u (AY 1 Z DO z48nf z48cc Z Z) Z ?_)
          obtain⟨x53,hx54,h⟩:=CM h
          obtain⟨gz55,oz55,rfl,z55cs,z55cl,z55cc,z55nf,z55r⟩:=AK (by decide) hX51 hx54
          obtain⟨z55S,z55r,z55rr⟩:=z55r
          obtain⟨A56,c57,rfl,z55s0⟩:=z55r
          have hX58:(RX.of (av 12 bD) [.slice A56 x53.Ct.length c57] x53.Ct).reads w F:=⟨z55S,z55s0,z55rr⟩
          refine TD.run ab [6] Z Z ?_
          refine TD.q Z .u (Aw (k:=k38) Z Z Z Do Dn (CU hx54).1) Z ?_
          refine TD.run ab [8] Z Z (TD.q Z .u (AY 1 Z Ei z55nf z55cc Z Z) Z (TD.run ab [10,11] Z Z (TD.q Z .u (Ai 0 Z Dd Z Z) Z ?_)))
          rcases jF h with⟨c59,h⟩ | ⟨c59,h⟩
          ·obtain⟨x60,hx61,h⟩:=CM h
           refine TD.run ab [13,14] Z Z (TD.as (d:=93) (v':= .bool false) Z (congrArg Value.bool (az c59)) (AR Z .u (.fn Tryz.call75 Z) (jh x53.Ct _ _ false a1 _ hx61) (fun _ hs=>(AE hs hX58)) Z [0,0] (Z) (TD.run ab [16] Z Z (TD.nil (X.seq (T.seq (T.region Z (TL.run ab [0,1] Z Z ?_))))))))
           rcases jF h with⟨c62,h⟩ | ⟨c62,h⟩
           ·refine TL.nil (X.seq (Ap Z (az (CN c62)) (T.skip (Az (X.seq (T.region Z ?_))))))
            replace h:=ak h
            obtain⟨c63,h⟩:=h
            exact TL.run ab [0] Z Z (TL.q Z .u (Ex.add Z Z c63) Z (TL.run ab [2] Z Z (TL.nil (X.back (m':=m42) [0,0] (by omega) ⟨y37,k38+1,Z,Z,h⟩ (by rfl) (by rfl)))))
           ·refine TL.nil (X.seq (Am Z (aD (CO c62)) (T.seq (T.region Z (TL.run ab [0,1] Z Z ?_)))))
            obtain rfl:=CP h
            replace h:=hO41
            clear hO41
            try dsimp only at h
            obtain rfl:=CP h
            replace h:=hO31
            clear hO31
            try dsimp only at h
            obtain rfl:=CP h
            exact TL.nil (X.seq (T.ret (At (Al (Al (At (At (Al (Al (At (Al (Ak [1] EN (Aj Z) ⟨Z,Z,Z⟩ (by rfl) (.inl Z)))))))))))))
          ·replace c59:=CX c59
           obtain⟨x64,hx65,h⟩:=CM h
           refine TD.run ab [13,14] Z Z (TD.as (d:=93) (v':= .bool true) Z (congrArg Value.bool (aD c59)) (AR Z .u (.fn Tryz.call75 Z) (jh x53.Ct _ _ true a1 _ hx65) (fun _ hs=>(AE hs hX58)) Z [0,0] (Z) (TD.run ab [16] Z Z (TD.nil (X.seq (T.seq (T.region Z (TL.run ab [0,1] Z Z ?_))))))))
           rcases jF h with⟨c66,h⟩ | ⟨c66,h⟩
           ·refine TL.nil (X.seq (Ap Z (az (CN c66)) (T.skip (Az (X.seq (T.region Z ?_))))))
            replace h:=ak h
            obtain⟨c67,h⟩:=h
            exact TL.run ab [0] Z Z (TL.q Z .u (Ex.add Z Z c67) Z (TL.run ab [2] Z Z (TL.nil (X.back (m':=m42) [0,0] (by omega) ⟨y37,k38+1,Z,Z,h⟩ (by rfl) (by rfl)))))
           ·refine TL.nil (X.seq (Am Z (aD (CO c66)) (T.seq (T.region Z (TL.run ab [0,1] Z Z ?_)))))
            obtain rfl:=CP h
            replace h:=hO41
            clear hO41
            try dsimp only at h
            obtain rfl:=CP h
            replace h:=hO31
            clear hO31
            try dsimp only at h
            obtain rfl:=CP h
            exact TL.nil (X.seq (T.ret (At (Al (Al (At (At (Al (Al (At (Al (Ak [1] EN (Aj Z) ⟨Z,Z,Z⟩ (by rfl) (.inl Z)))))))))))))
         ·refine TL.nil (X.seq (Ap Z (CO c52) ?_))
          obtain rfl:=CP h
          replace h:=hO41
          clear hO41
          try dsimp only at h
          refine T.exit (Au (Au (AS (Az (X.seq (T.region Z ?_))))))
          replace h:=ak h
          obtain⟨c68,h⟩:=h
          exact TL.run ab [0] Z Z (TL.q Z .u (Ex.add Z Z c68) Z (TL.run ab [2] Z Z (TL.nil (X.back (m':=m32) [0,0] (by omega) ⟨y37,k28+1,Z,Z,h⟩ (by rfl) (by rfl)))))
       ·refine TL.nil (X.seq (Ap Z (CO c36) ?_))
        obtain rfl:=CP h
        replace h:=hO31
        clear hO31
        try dsimp only at h
        refine T.exit (Au (Au (AS (X.seq (T.seq (T.region Z (TL.run ab [0] Z Z ?_)))))))
        obtain rfl:=CP h
        exact TL.nil (X.seq (T.ret (Ak [1] EN (Aj Z) ⟨Z,Z,Z⟩ (by rfl) (.inl Z))))
     ·refine TL.nil (X.seq (Am Z (aD (CO c26)) (T.seq (T.region Z (TL.run ab [0,1] Z Z ?_)))))
      obtain rfl:=CP h
      exact TL.nil (X.seq (T.ret (Al (Ak [1] EN (Aj Z) ⟨Z,Z,Z⟩ (by rfl) (.inl Z)))))
def fm (a0:List UInt8) (a1:Int):Option (Int×Int):=if (a0.length:Int)<4 then some (0,1) else (if 4≤a0.length then ((kO (a0.take 4)).bind fun x3=>if x3<0 then some (0,4) else (if -9223372036854775808≤((a0.length:Int) - 4)∧((a0.length:Int) - 4)≤9223372036854775807 then (if 1≤a1∧0≤((a0.length:Int) - 4)∧((a0.length:Int) - 4)≤9223372036854775807 then (if x3>(((a0.length:Int) - 4) / a1) then some (0,1) else some (x3,0)) else none) else none)) else none)
theorem ki (a0:List UInt8) (a1:Int) (r:Int×Int) (h:fm a0 a1=some r):ay Tryz.prog 64 #[jS a0,jI a1] .triv (aB) (fun v A' N=>v= .tuple #[jI r.1,jI r.2]∧A'=aB∧N = []):=by
 refine aL Tryz.func64 Z Tryz.ntmps64 Z ?_
 intro F w hX
 unfold fm at h
 refine T.seq (T.region Z (TL.run ab [0,1] Z Z (TL.nil (X.seq (T.seq (T.seq (T.region Z (TL.run ab [0] Z Z (TL.q Z .u (AW Z CZ) Z (TL.run ab [2] Z Z ?_))))))))))
 rcases jF h with⟨c1,h⟩ | ⟨c1,h⟩
 ·refine TL.nil (X.seq (Am Z (CN c1) (T.seq (T.region Z (TL.run ab [0,1] Z Z ?_)))))
  obtain rfl:=CP h
  exact TL.nil (X.seq (T.ret (Al (AL [0] Fs (Aj Z) (Aj Z) ⟨Z,Z,Z⟩ (by rfl) (.inl Z)))))
 ·refine TL.nil (X.seq (Ap Z (CO c1) (T.skip (X.seq (T.seq (T.region Z ?_))))))
  replace h:=ak h
  obtain⟨c2,h⟩:=h
  refine TL.run ab [0] Z Z ?_
  replace c2:4≤a0.length:=c2
  refine TL.q Z .u (Ba (p:=0) (q:=4) (m:=(a0.take 4)) Z CZ .none (.some Z Z) (by first | omega | (dsimp only; omega)) (by simp)) Z ?_
  obtain⟨x3,hx4,h⟩:=CM h
  refine Ax Z .u (.fn Tryz.call63 Z) (AN (fun w=>dt (a0.take 4) _ hx4 w)) (fun _ _=>RX.reads_triv _ _) Z (TL.run ab [3] Z Z (TL.nil (X.seq (T.seq (T.seq (T.region Z (TL.run ab [0,1] Z Z ?_)))))))
  rcases jF h with⟨c5,h⟩ | ⟨c5,h⟩
  ·refine TL.nil (X.seq (Am Z (CN c5) (T.seq (T.region Z (TL.run ab [0,1] Z Z ?_)))))
   obtain rfl:=CP h
   exact TL.nil (X.seq (T.ret (Al (AL [0] Fs (Aj Z) (Aj Z) ⟨Z,Z,Z⟩ (by rfl) (.inl Z)))))
  ·refine TL.nil (X.seq (Ap Z (CO c5) (T.skip (X.seq (T.seq (T.seq (T.region Z (TL.run ab [0,1] Z Z (TL.q Z .u (AW Z CZ) Z ?_)))))))))
   replace h:=ak h
   obtain⟨c6,h⟩:=h
   refine TL.q Z .u (Ex.sub Z Z c6) Z ?_
   replace h:=ak h
   obtain⟨c7,h⟩:=h
   refine TL.run ab [4] Z Z (TL.q Z .u (Ex.quo Z Z c7.1 c7.2) Z (TL.run ab [6] Z Z ?_))
   rcases jF h with⟨c8,h⟩ | ⟨c8,h⟩
   ·refine TL.nil (X.seq (Am Z (CN c8) (T.seq (T.region Z (TL.run ab [0,1] Z Z ?_)))))
    obtain rfl:=CP h
    exact TL.nil (X.seq (T.ret (Al (AL [0] Fs (Aj Z) (Aj Z) ⟨Z,Z,Z⟩ (by rfl) (.inl Z)))))
   ·refine TL.nil (X.seq (Ap Z (CO c8) (T.skip (X.seq (T.seq (T.region Z (TL.run ab [0,1,2] Z Z ?_)))))))
    obtain rfl:=CP h
    exact TL.nil (X.seq (T.ret (AL [0] Fs (Aj Z) (Aj Z) ⟨Z,Z,Z⟩ (by rfl) (.inl Z))))
def dG:Nat→Int→Int→List UInt8→List Bat→Option (Lp (cB×Int×Int) (Int×Int×List UInt8×List Bat))
 | 0,_,_,_,_=>none
 | m23+1,y14,y15,y16,y17=>if y16 = [] then (some (Lp.go (y14,y15,y16,y17))) else ((fT y16).bind fun x29=>if x29.CI=0 then (if (y17.length+1)*96≤140737488355328 then (if 0≤x29.CH∧x29.CH.toNat≤y16.length then (dG m23 y14 y15 (y16.drop x29.CH.toNat) (y17 ++ [x29.Cf])) else none) else none) else (some (Lp.ret ((⟨0,[]⟩:cB),0,x29.CI))))
def gS (a0:List UInt8):Option (cB×Int×Int):=if (a0.length:Int)<4 then (some ((⟨0,[]⟩:cB),0,1)) else (if 4≤a0.length then ((kO (a0.take 4)).bind fun x5=>if 4≤a0.length then ((iT (a0.drop 4) 4).bind fun x9=>if x9.err=0 then (if x9.blob.null=true then (some ((⟨0,[]⟩:cB),0,4)) else ((dG (((x9.blob.data.length:Int)+1).toNat+1) 0 0 x9.blob.data []).bind fun e=>match e with | .ret r=>some r | .go (y40,y41,y42,y43)=>(if -9223372036854775808≤(4+x9.many)∧(4+x9.many)≤9223372036854775807 then (some ((⟨x5,y43⟩:cB),(4+x9.many),0)) else none))) else (some ((⟨0,[]⟩:cB),0,x9.err))) else none) else none)
theorem pv (a0:List UInt8) (r:cB×Int×Int) (h:gS a0=some r):ay Tryz.prog 65 #[jS a0] .triv (aB) (fun v A' N=> ∃ (A47:Option Addr) (c48:Nat),v= .tuple #[.agg #[jI r.1.CD,.slice A47 r.1.Ct.length c48],jI r.2.1,jI r.2.2]∧A'=aB∧N = [RdR (av 12 bD) [.slice A47 r.1.Ct.length c48] r.1.Ct]):=by
 refine aL Tryz.func65 Z Tryz.ntmps65 Z ?_
 intro F w hX
 unfold gS at h
 refine T.seq (T.region Z (TL.alloc Z .u Tryz.zeroValue127 Z (fun b1=>(TL.run ab [1,2] Z Z (TL.nil (X.seq (T.seq (T.region Z ?_))))))))
 refine TL.q Z .u (AD (cells:= #[jI 0,.slice none 0 0]) gG Z (by kernel_rfl)) Z ?_
 refine TL.alloc Z .u Tryz.zeroValue127 Z (fun b2=>(Ay (cs':= #[jI 0,.slice none 0 0]) Z .u Z Z Dn Z Z Z Z (TL.nil (X.seq (T.seq (T.seq (T.region Z (TL.run ab [0] Z Z (TL.q Z .u (AW Z CZ) Z (TL.run ab [2] Z Z ?_))))))))))
 rcases jF h with⟨c3,h⟩ | ⟨c3,h⟩
 ·refine TL.nil (X.seq (Am Z (CN c3) (T.seq (T.region Z (TL.q Z .u (Av (us := [jI 0,.slice none 0 0]) 0 Z Ea Dn Z Z Z) Z (BL (cs':= #[jI 0,.slice none 0 0]) Z .u Z Z Dn Z Z Z Z (TL.run ab [2,3] Z Z ?_)))))))
  obtain rfl:=CP h
  exact TL.nil (X.seq (T.ret (Al (AO 12 bD (AX [3,0] EZ (AF (us:= #[jI 0,.slice none 0 0]) 2 Z Ea Dn Z Z) (Aj Z) (Aj Z) ⟨_,_,Z,Z,Z⟩ (by rfl) (.inl Z))))))
 ·refine TL.nil (X.seq (Ap Z (CO c3) (T.skip (X.seq (T.seq (T.region Z ?_))))))
  replace h:=ak h
  obtain⟨c4,h⟩:=h
  refine TL.run ab [0] Z Z ?_
  replace c4:4≤a0.length:=c4
  refine TL.q Z .u (Ba (p:=0) (q:=4) (m:=(a0.take 4)) Z CZ .none (.some Z Z) (by first | omega | (dsimp only; omega)) (by simp)) Z ?_
  obtain⟨x5,hx6,h⟩:=CM h
  refine Ax Z .u (.fn Tryz.call63 Z) (AN (fun w=>dt (a0.take 4) _ hx6 w)) (fun _ _=>RX.reads_triv _ _) Z ?_
  refine TL.q Z .u (AD (cells:= #[jI x5,.slice none 0 0]) gG Z (by kernel_rfl)) Z ?_
  refine TL.alloc Z .u Tryz.zeroValue127 Z (fun b7=>(Ay (cs':= #[jI x5,.slice none 0 0]) Z .u Z Z Dn Z Z Z Z (TL.nil (X.seq (T.seq (T.region Z ?_))))))
  replace h:=ak h
  obtain⟨c8,h⟩:=h
  refine TL.run ab [0] Z Z ?_
  replace c8:4≤a0.length:=c8
  refine TL.q Z .u (Ba (p:=4) (q:=a0.length) (m:=(a0.drop 4)) Z CZ (.some Z Z) .none (by first | omega | (dsimp only; omega)) (dY _ _)) Z ?_
  obtain⟨x9,hx10,h⟩:=CM h
  refine Ax Z .u (.fn Tryz.call62 Z) (jD (a0.drop 4) 4 _ hx10) (fun _ hs=>(RX.reads_triv _ _)) Z (TL.alloc Z .u Tryz.zeroValue119 Z (fun b11=>(Ay (cs':= #[.bool x9.blob.null,jS x9.blob.data,jI x9.many,jI x9.err]) Z .u Z Z Ep Z Z Z Z (TL.nil (X.seq (T.seq (T.seq (T.region Z (TL.run ab [0] Z Z (TL.q Z .u (Ai 0 Z CV Z Z) Z (TL.run ab [2] Z Z ?_)))))))))))
  rcases jF h with⟨c12,h⟩ | ⟨c12,h⟩
  ·refine TL.nil (X.seq (Ap Z (az (CN c12)) (T.skip (X.seq (T.seq (T.seq (T.region Z (TL.run ab [0,1] Z Z (TL.q Z .u (Ai 0 Z Dd Z Z) Z ?_)))))))))
   rcases jF h with⟨c13,h⟩ | ⟨c13,h⟩
   ·refine TL.nil (X.seq (Am Z c13 (T.seq (T.region Z (TL.q Z .u (Av (us := [jI 0,.slice none 0 0]) 2 Z Ea Dn Z Z Z) Z (A5 (cs':= #[jI 0,.slice none 0 0]) Z .u Z Z Dn Z Z Z Z (TL.run ab [2,3] Z Z ?_)))))))
    obtain rfl:=CP h
    exact TL.nil (X.seq (T.ret (Al (AO 12 bD (AX [5,0] EZ (AF (us:= #[jI 0,.slice none 0 0]) 4 Z Ea Dn Z Z) (Aj Z) (Aj Z) ⟨_,_,Z,Z,Z⟩ (by rfl) (.inl Z))))))
   ·replace c13:=CX c13
    refine TL.nil (X.seq (Ap Z c13 (T.skip (X.seq (T.seq (T.region Z (TL.run ab [0,1] Z Z (TL.q Z .u (Ai 0 Z Dp Z Z) Z (TL.run ab [3] Z Z (TL.nil (X.seq (T.seq (T.block (Bt 27 12 bD ?_))))))))))))))
    obtain⟨E20,hE21,hO22⟩:=CM h
    refine AV (fun m e Rs=> ∃ (y14:Int) (y15:Int) (y16:List UInt8) (y17:List Bat) (A18:Option Addr) (c19:Nat),e = [(2,jP b1),(3,jI y14),(4,jI y15),(5,jP b2),(6,jP b7),(7,jP b11),(8,jS y16)]∧Rs = [aZ 27 12 bD (.slice A18 y17.length c19) y17,aC b11 119 #[.bool x9.blob.null,jS x9.blob.data,jI x9.many,jI x9.err],aC b7 127 #[jI x5,.slice A18 y17.length c19],aC b2 127 #[jI 0,.slice none 0 0],aC b1 127 #[jI 0,.slice none 0 0],aB]∧dG m y14 y15 y16 y17=some E20) (((x9.blob.data.length:Int)+1).toNat+1) [0,0,0,0,0,0] ⟨0,0,x9.blob.data,[],none,0,Z,Z,by exact hE21⟩ (by rfl) (by rfl) ?_
    rintro m23 _ _ ⟨y14,y15,y16,y17,A18,c19,rfl,rfl,hl25⟩
    clear hE21 h
    cases m23 with
    | zero =>
     rw[dG] at hl25
     cases hl25
    | succ m23 =>
     have h:=hl25
     clear hl25
     rw[dG] at h
     refine T.seq (T.seq (T.region Z (TL.run ab [0] Z Z (TL.q Z .u (Ex.sNe Z (m := []) Z) Z ?_))))
     rcases jF h with⟨c27,h⟩ | ⟨c27,h⟩
     ·refine TL.nil (X.seq (Ap Z (az (CN c27)) ?_))
      obtain rfl:=CP h
      replace h:=hO22
      clear hO22
      try dsimp only at h
      refine T.exit (Au (Au (AS (X.seq (T.seq (AH (.q 0 (.q 1 (.q 2 (.q 3 (.e 4 (.q 5 (.q 6 .nil))))))) [0,0,0,0,1] Z bq (NoP.seq aM) (by kernel_rfl) ?_))))))
      refine TD.q Z .u (Av (us := [jI x5,.slice A18 y17.length c19]) 2 Z Ea Dn Z Z Z) Z (TD.run ab [1] Z Z (TD.q Z .u (Ai 1 Z CV Z Z) Z ?_))
      replace h:=ak h
      obtain⟨c28,h⟩:=h
      refine TD.q Z .u (Ex.add Z Z c28) Z (BE (cs':= #[jI x5,.slice A18 y17.length c19]) Z .u Z Z Dn Z Z Z Z [0,0,0,0,1] (Z) (TD.run ab [5,6] Z Z ?_))
      obtain rfl:=CP h
      exact TD.nil (X.seq (T.ret (Bu (by decide) 0 Z (AQ [0,0,0,0,0,0] Z (AX [5,0] EZ (AF (us:= #[jI x5,.slice A18 y17.length c19]) 4 Z Ea Dn Z Z) (Aj Z) (Aj Z) ⟨_,_,Z,Z,Z⟩ (by rfl) (.inl Z))))))
     ·refine TL.nil (X.seq (Am Z (aD (CO c27)) (T.skip (X.seq (T.block (T.seq (T.region Z ?_)))))))
      obtain⟨x29,hx32,h⟩:=CM h
      refine TL.run ab [0] Z Z (AP Z .u (.fn Tryz.call122 Z) (pj y16 _ hx32) (fun _ hs=>(RX.reads_triv _ _)) Z ?_)
      rintro _ _ _ ⟨A30,c31,rfl,rfl,rfl⟩
      refine AC [0,0,0,0,0,0,0] Z (TL.alloc Z .u Tryz.zeroValue181 Z (fun b33=>(Ay (cs':= #[jI x29.Cf.Cu,jI x29.Cf.Co,.bool x29.Cf.Cw,.bool x29.Cf.CE,.bool x29.Cf.Cq,jI x29.Cf.Cr,jI x29.Cf.Cl,jI x29.Cf.Cy,jI x29.Cf.Ci,jI x29.Cf.Cp,jI x29.Cf.Ch,.slice A30 x29.Cf.Ce.length c31,jI x29.CH,jI x29.CI]) Z .u Z Z C8 Z Z Z Z (TL.nil (X.seq (T.seq (T.seq (T.region Z (TL.run ab [0] Z Z (TL.q Z .u (Ai 0 Z CV Z Z) Z (TL.run ab [2] Z Z ?_)))))))))))
      rcases jF h with⟨c34,h⟩ | ⟨c34,h⟩
      ·refine TL.nil (X.seq (Ap Z (az (CN c34)) (T.skip (X.seq (T.seq (T.region Z (TL.run ab [0] Z Z (TL.q Z .u (Ai 4 Z Ei Z Z) Z (TL.run ab [2] Z Z (TL.q Z .u (Av (us := [jI x29.Cf.Cu,jI x29.Cf.Co,.bool x29.Cf.Cw,.bool x29.Cf.CE,.bool x29.Cf.Cq,jI x29.Cf.Cr,jI x29.Cf.Cl,jI x29.Cf.Cy,jI x29.Cf.Ci,jI x29.Cf.Cp,jI x29.Cf.Ch,.slice A30 x29.Cf.Ce.length c31]) 0 Z Df C3 Z Z Z) Z ?_))))))))))
       refine Bk (cells:= #[jI x29.Cf.Cu,jI x29.Cf.Co,.bool x29.Cf.Cw,.bool x29.Cf.CE,.bool x29.Cf.Cq,jI x29.Cf.Cr,jI x29.Cf.Cl,jI x29.Cf.Cy,jI x29.Cf.Ci,jI x29.Cf.Cp,jI x29.Cf.Ch,.slice A30 x29.Cf.Ce.length c31]) Z .u kF Z (by kernel_rfl) Z (fun b35=> ?_)
       replace h:=ak h
       obtain⟨c36,h⟩:=h
       refine BP 2 1 Z .u (us := [jI x29.Cf.Cu,jI x29.Cf.Co,.bool x29.Cf.Cw,.bool x29.Cf.CE,.bool x29.Cf.Cq,jI x29.Cf.Cr,jI x29.Cf.Cl,jI x29.Cf.Cy,jI x29.Cf.Ci,jI x29.Cf.Cp,jI x29.Cf.Ch,.slice A30 x29.Cf.Ce.length c31]) (u:=x29.Cf) (l:=y17) (E:=bD) Tryz.underlying82 lP Z (by decide) Z Z Z Z Z Z Z (fun w G hG=>⟨_,_,Z,hG.1⟩) (by have hq:=c36; omega) (by have hq:=c36; omega) Z (fun A37 c38=> ?_)
       refine AC [0,0,0,0,0,0,0] Z (TL.run ab [6] Z Z (A5 (cs':= #[jI x5,.slice A37 (y17 ++ [x29.Cf]).length c38]) Z .u Z Z Eu Z Z Z Z (TL.nil (X.seq (T.region Z (TL.run ab [0,1] Z Z (TL.q Z .u (Ai 1 Z CV Z Z) Z ?_)))))))
       replace h:=ak h
       obtain⟨c39,h⟩:=h
       replace c39:0≤x29.CH∧x29.CH.toNat≤y16.length:=c39
       refine TL.q Z .u (Ba (p:=x29.CH.toNat) (q:=y16.length) (m:=(y16.drop x29.CH.toNat)) Z CZ (.some Z ((Int.toNat_of_nonneg c39.1).symm)) .none (by first | omega | (dsimp only; omega)) (dY _ _)) Z ?_
       exact TL.run ab [4] Z Z (TL.nil (Az (X.back (m':=m23) [0,1,1,1,1,1] (by omega) ⟨y14,y15,(y16.drop x29.CH.toNat),(y17 ++ [x29.Cf]),A37,c38,Z,Z,h⟩ (by rfl) (by rfl))))
      ·refine TL.nil (X.seq (Am Z (aD (CO c34)) ?_))
       refine T.seq (AH (.q 0 (.q 1 (.q 2 (.e 3 (.q 4 (.q 5 .nil)))))) [0,0,0,0,0,0,1] Z bq (NoP.seq (NoP.seq (NoP.blk (NoP.seq (NoP.blk (NoP.seq aM)))))) (by kernel_rfl) ?_)
       refine TD.q Z .u (Av (us := [jI 0,.slice none 0 0]) 5 Z Ea Dn Z Z Z) Z (TD.run ab [1] Z Z (TD.q Z .u (Ai 0 Z CV Z Z) Z (TD.st6 (cs':= #[jI 0,.slice none 0 0]) Z .u Z Z Dn Z Z Z Z [0,0,0,0,0,0,1] (Z) (TD.run ab [4,5] Z Z ?_))))
       obtain rfl:=CP h
       replace h:=hO22
       clear hO22
       try dsimp only at h
       obtain rfl:=CP h
       exact TD.nil (X.seq (T.ret (Al (At (Al (At (Al (AO 12 bD (AX [8,0] EZ (AF (us:= #[jI 0,.slice none 0 0]) 7 Z Ea Dn Z Z) (Aj Z) (Aj Z) ⟨_,_,Z,Z,Z⟩ (by rfl) (.inl Z))))))))))
  ·refine TL.nil (X.seq (Am Z (aD (CO c12)) ?_))
   refine T.seq (AH (.q 0 (.q 1 (.q 2 (.e 3 (.q 4 (.q 5 .nil)))))) [0,0,0,1] Z bq (NoP.seq (NoP.seq aM)) (by kernel_rfl) ?_)
   refine TD.q Z .u (Av (us := [jI 0,.slice none 0 0]) 2 Z Ea Dn Z Z Z) Z (TD.run ab [1] Z Z (TD.q Z .u (Ai 0 Z CV Z Z) Z (BS (cs':= #[jI 0,.slice none 0 0]) Z .u Z Z Dn Z Z Z Z [0,0,0,1] (Z) (TD.run ab [4,5] Z Z ?_))))
   obtain rfl:=CP h
   exact TD.nil (X.seq (T.ret (Al (AO 12 bD (AX [5,0] EZ (AF (us:= #[jI 0,.slice none 0 0]) 4 Z Ea Dn Z Z) (Aj Z) (Aj Z) ⟨_,_,Z,Z,Z⟩ (by rfl) (.inl Z))))))
def cN (a0:List UInt8) (x49:Int):Nat→Int→Int→Int→Nat→List cB→Option (Lp (aG×Int×Int) (Int×Int×Int×Nat×List cB))
 | 0,_,_,_,_,_=>none
 | m65+1,y55,y56,y57,k58,y59=>if (k58:Int)<x49 then (if 0≤y57∧y57.toNat≤a0.length then ((gS (a0.drop y57.toNat)).bind fun (x71,x74,x75)=>if x75=0 then (if (y59.length+1)*32≤140737488355328 then (if -9223372036854775808≤(y57+x74)∧(y57+x74)≤9223372036854775807 then (if -9223372036854775808≤((k58:Int)+1)∧((k58:Int)+1)≤9223372036854775807 then (cN a0 x49 m65 y55 y56 (y57+x74) (k58+1) (y59 ++ [x71])) else none) else none) else none) else (some (Lp.ret ((⟨(⟨false,[]⟩:Bl),0,0,[]⟩:aG),0,x75)))) else none) else (some (Lp.go (y55,y56,y57,k58,y59)))
def dH (a0:List UInt8) (x21:Int):Nat→Int→Int→Int→Nat→List aV→Option (Lp (aG×Int×Int) (Int×Int×Int×Nat×List aV))
 | 0,_,_,_,_,_=>none
 | m36+1,y26,y27,y28,k29,y30=>if (k29:Int)<x21 then (if 0≤y28∧y28.toNat≤a0.length then ((iT (a0.drop y28.toNat) 2).bind fun x42=>if x42.err=0 then (if x42.blob.null=true then (some (Lp.ret ((⟨(⟨false,[]⟩:Bl),0,0,[]⟩:aG),0,4))) else (if -9223372036854775808≤(y28+x42.many)∧(y28+x42.many)≤9223372036854775807 then (if 0≤(y28+x42.many)∧(y28+x42.many).toNat≤a0.length then ((fm (a0.drop ((y28+x42.many).toNat)) 8).bind fun (x49,x50)=>if x50=0 then (if -9223372036854775808≤((y28+x42.many)+4)∧((y28+x42.many)+4)≤9223372036854775807 then ((cN a0 x49 ((x49).toNat+1) y26 y27 ((y28+x42.many)+4) 0 []).bind fun e=>match e with | .ret r=>some (Lp.ret r) | .go (y90,y91,y92,k93,y94)=>(if (y30.length+1)*40≤140737488355328 then (if -9223372036854775808≤((k29:Int)+1)∧((k29:Int)+1)≤9223372036854775807 then (dH a0 x21 m36 y90 y91 y92 (k29+1) (y30 ++ [(⟨x42.blob.data,y94⟩:aV)])) else none) else none)) else none) else (some (Lp.ret ((⟨(⟨false,[]⟩:Bl),0,0,[]⟩:aG),0,x50)))) else none) else none)) else (some (Lp.ret ((⟨(⟨false,[]⟩:Bl),0,0,[]⟩:aG),0,x42.err)))) else none) else (some (Lp.go (y26,y27,y28,k29,y30)))
theorem pw (a0:List UInt8) (x21:Int) (u1:Int) (u2:Int) (u3:Int) (u4:Nat) (u5:List aV):dH a0 x21 0 u1 u2 u3 u4 u5=none:=rfl
theorem ir (a0:List UInt8) (x21:Int) (m36:Nat) (y26:Int) (y27:Int) (y28:Int) (k29:Nat) (y30:List aV):dH a0 x21 (m36+1) y26 y27 y28 k29 y30=(if (k29:Int)<x21 then (if 0≤y28∧y28.toNat≤a0.length then ((iT (a0.drop y28.toNat) 2).bind fun x42=>if x42.err=0 then (if x42.blob.null=true then (some (Lp.ret ((⟨(⟨false,[]⟩:Bl),0,0,[]⟩:aG),0,4))) else (if -9223372036854775808≤(y28+x42.many)∧(y28+x42.many)≤9223372036854775807 then (if 0≤(y28+x42.many)∧(y28+x42.many).toNat≤a0.length then ((fm (a0.drop ((y28+x42.many).toNat)) 8).bind fun (x49,x50)=>if x50=0 then (if -9223372036854775808≤((y28+x42.many)+4)∧((y28+x42.many)+4)≤9223372036854775807 then ((cN a0 x49 ((x49).toNat+1) y26 y27 ((y28+x42.many)+4) 0 []).bind fun e=>match e with | .ret r=>some (Lp.ret r) | .go (y90,y91,y92,k93,y94)=>(if (y30.length+1)*40≤140737488355328 then (if -9223372036854775808≤((k29:Int)+1)∧((k29:Int)+1)≤9223372036854775807 then (dH a0 x21 m36 y90 y91 y92 (k29+1) (y30 ++ [(⟨x42.blob.data,y94⟩:aV)])) else none) else none)) else none) else (some (Lp.ret ((⟨(⟨false,[]⟩:Bl),0,0,[]⟩:aG),0,x50)))) else none) else none)) else (some (Lp.ret ((⟨(⟨false,[]⟩:Bl),0,0,[]⟩:aG),0,x42.err)))) else none) else (some (Lp.go (y26,y27,y28,k29,y30)))):=rfl
def gT (a0:List UInt8) (a1:Int):Option (aG×Int×Int):=(iT a0 2).bind fun x3=>if x3.err=0 then (if -9223372036854775808≤((a0.length:Int) - x3.many)∧((a0.length:Int) - x3.many)≤9223372036854775807 then (if ((a0.length:Int) - x3.many)<6 then (some ((⟨(⟨false,[]⟩:Bl),0,0,[]⟩:aG),0,1)) else (if -9223372036854775808≤(x3.many+2)∧(x3.many+2)≤9223372036854775807 then (if 0≤x3.many∧0≤(x3.many+2)∧x3.many.toNat≤(x3.many+2).toNat∧(x3.many+2).toNat≤a0.length then ((kO ((a0.drop x3.many.toNat).take (((x3.many+2).toNat) - x3.many.toNat))).bind fun x11=>if -9223372036854775808≤(x3.many+2)∧(x3.many+2)≤9223372036854775807 then (if -9223372036854775808≤(x3.many+6)∧(x3.many+6)≤9223372036854775807 then (if 0≤(x3.many+2)∧0≤(x3.many+6)∧(x3.many+2).toNat≤(x3.many+6).toNat∧(x3.many+6).toNat≤a0.length then ((kO ((a0.drop ((x3.many+2).toNat)).take (((x3.many+6).toNat) - ((x3.many+2).toNat)))).bind fun x16=>if -9223372036854775808≤(x3.many+6)∧(x3.many+6)≤9223372036854775807 then (if 0≤(x3.many+6)∧(x3.many+6).toNat≤a0.length then ((fm (a0.drop ((x3.many+6).toNat)) 6).bind fun (x21,x22)=>if x22=0 then (if -9223372036854775808≤((x3.many+6)+4)∧((x3.many+6)+4)≤9223372036854775807 then ((dH a0 x21 ((x21).toNat+1) 0 0 ((x3.many+6)+4) 0 []).bind fun e=>match e with | .ret r=>some r | .go (y105,y106,y107,k108,y109)=>((ga (⟨x3.blob,x11,x16,y109⟩:aG) a1).bind fun x112=>if x112=0 then (some ((⟨x3.blob,x11,x16,y109⟩:aG),y107,0)) else (some ((⟨(⟨false,[]⟩:Bl),0,0,[]⟩:aG),0,x112)))) else none) else (some ((⟨(⟨false,[]⟩:Bl),0,0,[]⟩:aG),0,x22))) else none) else none) else none) else none) else none) else none) else none)) else none) else (some ((⟨(⟨false,[]⟩:Bl),0,0,[]⟩:aG),0,x3.err))
theorem px (a0:List UInt8) (a1:Int) (r:aG×Int×Int) (h:gT a0 a1=some r):ay Tryz.prog 20 #[jS a0,jI a1] .triv (aB) (fun v A' N=> ∃ (A115:Option Addr) (c116:Nat),v= .tuple #[.agg #[.bool r.1.CA.null,jS r.1.CA.data,jI r.1.CG,jI r.1.Cz,.slice A115 r.1.Cm.length c116],jI r.2.1,jI r.2.2]∧A'=aB∧N = [RdR (av 2 aR) [.slice A115 r.1.Cm.length c116] r.1.Cm]):=by
 refine aL Tryz.func20 Z Tryz.ntmps20 Z ?_
 intro F w hX
 unfold gT at h
 refine T.seq (T.region Z (TL.alloc Z .u Tryz.zeroValue54 Z (fun b1=>(TL.run ab [1,2] Z Z (TL.nil (X.seq (T.seq (T.region Z ?_))))))))
 refine TL.q Z .u (AD (cells:= #[.bool false,.string ⟨#[]⟩,jI 0,jI 0,.slice none 0 0]) ed Z (by kernel_rfl)) Z ?_
 refine TL.alloc Z .u Tryz.zeroValue54 Z (fun b2=>(Ay (cs':= #[.bool false,.string ⟨#[]⟩,jI 0,jI 0,.slice none 0 0]) Z .u Z Z Di Z Z Z Z (TL.nil (X.seq (T.seq (T.region Z ?_))))))
 obtain⟨x3,hx4,h⟩:=CM h
 refine TL.run ab [0] Z Z (Ax Z .u (.fn Tryz.call62 Z) (jD a0 2 _ hx4) (fun _ hs=>(RX.reads_triv _ _)) Z (TL.alloc Z .u Tryz.zeroValue119 Z (fun b5=>(Ay (cs':= #[.bool x3.blob.null,jS x3.blob.data,jI x3.many,jI x3.err]) Z .u Z Z Ep Z Z Z Z (TL.nil (X.seq (T.seq (T.seq (T.region Z (TL.run ab [0] Z Z (TL.q Z .u (Ai 0 Z CV Z Z) Z (TL.run ab [2] Z Z ?_))))))))))))
 rcases jF h with⟨c6,h⟩ | ⟨c6,h⟩
 ·refine TL.nil (X.seq (Ap Z (az (CN c6)) (T.skip (X.seq (T.seq (T.region Z (TL.run ab [0] Z Z (TL.q Z .u (Ai 0 Z CV Z Z) Z (TL.run ab [2] Z Z (TL.nil (X.seq (T.seq (T.seq (T.region Z (TL.run ab [0] Z Z ?_)))))))))))))))
  refine TL.q Z .u (AW Z CZ) Z ?_
  replace h:=ak h
  obtain⟨c7,h⟩:=h
  refine TL.run ab [2] Z Z (TL.q Z .u (Ex.sub Z Z c7) Z (TL.run ab [4] Z Z ?_))
  rcases jF h with⟨c8,h⟩ | ⟨c8,h⟩
  ·refine TL.nil (X.seq (Am Z (CN c8) (T.seq (T.region Z (TL.q Z .u (Av (us := [.bool false,.string ⟨#[]⟩,jI 0,jI 0,.slice none 0 0]) 1 Z DL Di Z Z Z) Z (Bq (cs':= #[.bool false,.string ⟨#[]⟩,jI 0,jI 0,.slice none 0 0]) Z .u Z Z Di Z Z Z Z (TL.run ab [2,3] Z Z ?_)))))))
   obtain rfl:=CP h
   exact TL.nil (X.seq (T.ret (Al (AO 2 aR (AX [4,0] Ek (AF (us:= #[.bool false,.string ⟨#[]⟩,jI 0,jI 0,.slice none 0 0]) 3 Z DL Di Z Z) (Aj Z) (Aj Z) ⟨_,_,Z,Z,Z⟩ (by rfl) (.inl Z))))))
  ·refine TL.nil (X.seq (Ap Z (CO c8) ?_))
   replace h:=ak h
   obtain⟨c9,h⟩:=h
   replace h:=ak h
   obtain⟨c10,h⟩:=h
   obtain⟨x11,hx12,h⟩:=CM h
   replace h:=ak h
   obtain⟨c13,h⟩:=h
   replace h:=ak h
   obtain⟨c14,h⟩:=h
   replace h:=ak h
   obtain⟨c15,h⟩:=h
   obtain⟨x16,hx17,h⟩:=CM h
   refine T.skip (X.seq (T.seq ?_))
   refine BR (fun e Rs=> ∃ (b18:Nat),e = [(0,jS a0),(1,jI a1),(4,jP b1),(5,jI 0),(6,jI 0),(7,jP b2),(8,jP b5),(9,jI x3.many),(10,jP b18),(23,.agg #[.bool false,.string ⟨#[]⟩,jI 0,jI 0,.slice none 0 0]),(24,jS a0),(25,.agg #[.bool x3.blob.null,jS x3.blob.data,jI x3.many,jI x3.err]),(26,.pointer (some ⟨b5,3,none⟩)),(27,jI x3.err),(28,.bool (!(decide (x3.err=0)))),(32,.pointer (some ⟨b5,2,none⟩)),(33,jI x3.many),(34,jS a0),(35,jI (a0.length:Int)),(36,jI x3.many),(37,jI ((a0.length:Int) - x3.many)),(38,.bool (decide (((a0.length:Int) - x3.many)<6)))]∧Rs = [aC b18 54 #[.bool x3.blob.null,jS x3.blob.data,jI x11,jI x16,.slice none 0 0],aC b5 119 #[.bool x3.blob.null,jS x3.blob.data,jI x3.many,jI x3.err],aC b2 54 #[.bool false,.string ⟨#[]⟩,jI 0,jI 0,.slice none 0 0],aC b1 54 #[.bool false,.string ⟨#[]⟩,jI 0,jI 0,.slice none 0 0],aB]) ?_ ?_
   ·refine AH (.q 0 (.q 1 (.q 2 (.q 3 (.q 4 (.q 5 (.q 6 (.q 8 (.q 9 (.q 10 (.q 11 (.q 12 (.q 13 (.br 7 (.br 14 (.q 15 (.e 16 (.e 17 .nil))) (.e 16 (.e 14 (.q 15 (.e 17 .nil))))) (.e 16 (.e 7 (.e 14 (.q 15 (.e 17 .nil))))))))))))))))))) [0,0,0,0] Z bq nd (by kernel_rfl) ?_
    refine TD.run ab [0] Z Z (TD.q Z .u (Av (us := [.bool x3.blob.null,jS x3.blob.data]) 0 Z Dw C7 Z Z Z) Z (TD.run ab [2,3,4] Z Z (TD.q Z .u (Ex.add Z Z c9) Z ?_)))
    refine TD.q Z .u (Ba (p:=x3.many.toNat) (q:=(x3.many+2).toNat) (m:=((a0.drop x3.many.toNat).take (((x3.many+2).toNat) - x3.many.toNat))) Z CZ (.some Z ((Int.toNat_of_nonneg c10.1).symm)) (.some Z ((Int.toNat_of_nonneg c10.2.1).symm)) (by first | omega | (dsimp only; omega)) Z) Z ?_
    refine TD.run ab [8,9] Z Z (TD.q Z .u (Ex.add Z Z c13) Z (TD.run ab [11] Z Z (TD.q Z .u (Ex.add Z Z c14) Z ?_)))
    refine TD.q Z .u (Ba (p:=(x3.many+2).toNat) (q:=(x3.many+6).toNat) (m:=((a0.drop ((x3.many+2).toNat)).take (((x3.many+6).toNat) - ((x3.many+2).toNat)))) Z CZ (.some Z ((Int.toNat_of_nonneg c15.1).symm)) (.some Z ((Int.toNat_of_nonneg c15.2.1).symm)) (by first | omega | (dsimp only; omega)) Z) Z ?_
    refine TD.br ?_ ?_
    ·refine AR Z .u (.fn Tryz.call63 Z) (AN (fun w=>dt ((a0.drop x3.many.toNat).take (((x3.many+2).toNat) - x3.many.toNat)) _ hx12 w)) (fun _ _=>RX.reads_triv _ _) Z [0,0,0,0] (Z) ?_
     refine TD.br ?_ ?_
     ·refine AR Z .u (.fn Tryz.call63 Z) (AN (fun w=>dt ((a0.drop ((x3.many+2).toNat)).take (((x3.many+6).toNat) - ((x3.many+2).toNat))) _ hx17 w)) (fun _ _=>RX.reads_triv _ _) Z [0,0,0,0] (Z) ?_
      refine TD.q Z .u (AD (cells:= #[.bool x3.blob.null,jS x3.blob.data,jI x11,jI x16,.slice none 0 0]) ed Z (by kernel_rfl)) Z ?_
      exact TD.alloc Z .u Tryz.zeroValue54 Z [1,1,1,1] (fun _=>Z) (fun b18=>(TD.st0 (cs':= #[.bool x3.blob.null,jS x3.blob.data,jI x11,jI x16,.slice none 0 0]) Z .u Z Z Di Z Z Z Z [1,1,1,1] (Z) (TD.nil (Bw [0,0,0,0,0] ⟨b18,Z,Z⟩ (by rfl) (by rfl)))))
     ·refine TD.alloc Z .u Tryz.zeroValue54 Z [1,1,1,1] (fun _=>Z) (fun b18=>(AR Z .u (.fn Tryz.call63 Z) (AN (fun w=>dt ((a0.drop ((x3.many+2).toNat)).take (((x3.many+6).toNat) - ((x3.many+2).toNat))) _ hx17 w)) (fun _ _=>RX.reads_triv _ _) Z [1,1,1,1] (Z) ?_))
      refine TD.q Z .u (AD (cells:= #[.bool x3.blob.null,jS x3.blob.data,jI x11,jI x16,.slice none 0 0]) ed Z (by kernel_rfl)) Z ?_
      exact TD.st0 (cs':= #[.bool x3.blob.null,jS x3.blob.data,jI x11,jI x16,.slice none 0 0]) Z .u Z Z Di Z Z Z Z [1,1,1,1] (Z) (TD.nil (Bw [0,0,0,0,0] ⟨b18,Z,Z⟩ (by rfl) (by rfl)))
    ·refine TD.alloc Z .u Tryz.zeroValue54 Z [1,1,1,1] (fun _=>Z) (fun b18=>(AR Z .u (.fn Tryz.call63 Z) (AN (fun w=>dt ((a0.drop x3.many.toNat).take (((x3.many+2).toNat) - x3.many.toNat)) _ hx12 w)) (fun _ _=>RX.reads_triv _ _) Z [1,1,1,1] (Z) (AR Z .u (.fn Tryz.call63 Z) (AN (fun w=>dt ((a0.drop ((x3.many+2).toNat)).take (((x3.many+6).toNat) - ((x3.many+2).toNat))) _ hx17 w)) (fun _ _=>RX.reads_triv _ _) Z [1,1,1,1] (Z) ?_)))
     refine TD.q Z .u (AD (cells:= #[.bool x3.blob.null,jS x3.blob.data,jI x11,jI x16,.slice none 0 0]) ed Z (by kernel_rfl)) Z ?_
     exact TD.st0 (cs':= #[.bool x3.blob.null,jS x3.blob.data,jI x11,jI x16,.slice none 0 0]) Z .u Z Z Di Z Z Z Z [1,1,1,1] (Z) (TD.nil (Bw [0,0,0,0,0] ⟨b18,Z,Z⟩ (by rfl) (by rfl)))
   ·rintro _ _ ⟨b18,rfl,rfl⟩
    refine X.seq (T.seq (T.region Z ?_))
    replace h:=ak h
    obtain⟨c19,h⟩:=h
    refine TL.run ab [0] Z Z (TL.q Z .u (Ex.add Z Z c19) Z (TL.run ab [2] Z Z (TL.nil (X.seq (T.seq (T.region Z ?_))))))
    replace h:=ak h
    obtain⟨c20,h⟩:=h
    refine TL.run ab [0,1] Z Z ?_
    replace c20:0≤(x3.many+6)∧(x3.many+6).toNat≤a0.length:=c20
    refine TL.q Z .u (Ba (p:=(x3.many+6).toNat) (q:=a0.length) (m:=(a0.drop ((x3.many+6).toNat))) Z CZ (.some Z ((Int.toNat_of_nonneg c20.1).symm)) .none (by first | omega | (dsimp only; omega)) (dY _ _)) Z ?_
    obtain⟨⟨x21,x22⟩,hx23,h⟩:=CM h
    try dsimp only at h
    refine Ax Z .u (.fn Tryz.call64 Z) (ki (a0.drop ((x3.many+6).toNat)) 6 _ hx23) (fun _ hs=>(RX.reads_triv _ _)) Z (TL.run ab [4,5,6,7,8] Z Z (TL.nil (X.seq (T.seq (T.seq (T.region Z (TL.run ab [0,1] Z Z ?_)))))))
    rcases jF h with⟨c24,h⟩ | ⟨c24,h⟩
    ·refine TL.nil (X.seq (Ap Z (az (CN c24)) (T.skip (X.seq (T.seq (T.region Z ?_))))))
     replace h:=ak h
     obtain⟨c25,h⟩:=h
     refine TL.run ab [0] Z Z (TL.q Z .u (Ex.add Z Z c25) Z (TL.run ab [2] Z Z (TL.nil (X.seq (T.seq (T.seq (T.region Z (TL.run ab [0] Z Z (TL.nil (X.seq (T.block (Bt 126 2 aR ?_))))))))))))
     obtain⟨E33,hE34,hO35⟩:=CM h
     refine AV (fun m e Rs=> ∃ (y26:Int) (y27:Int) (y28:Int) (k29:Nat) (y30:List aV) (A31:Option Addr) (c32:Nat),e = [(0,jS a0),(1,jI a1),(4,jP b1),(5,jI y26),(6,jI y27),(7,jP b2),(9,jI y28),(10,jP b18),(11,jI x21),(13,jI (k29:Int))]∧Rs = [aZ 126 2 aR (.slice A31 y30.length c32) y30,aC b18 54 #[.bool x3.blob.null,jS x3.blob.data,jI x11,jI x16,.slice A31 y30.length c32],aC b5 119 #[.bool x3.blob.null,jS x3.blob.data,jI x3.many,jI x3.err],aC b2 54 #[.bool false,.string ⟨#[]⟩,jI 0,jI 0,.slice none 0 0],aC b1 54 #[.bool false,.string ⟨#[]⟩,jI 0,jI 0,.slice none 0 0],aB]∧dH a0 x21 m y26 y27 y28 k29 y30=some E33) ((x21).toNat+1) [0,0,0,0,0,0] ⟨0,0,((x3.many+6)+4),0,[],none,0,Z,Z,by exact hE34⟩ (by rfl) (by rfl) ?_
     rintro m36 _ _ ⟨y26,y27,y28,k29,y30,A31,c32,rfl,rfl,hl38⟩
     clear hE34 h
     cases m36 with
     | zero =>
      rw[pw] at hl38
      cases hl38
     | succ m36 =>
      have h:=hl38
      clear hl38
      rw[ir] at h
      refine T.seq (T.seq (T.region Z (TL.run ab [0,1,2] Z Z ?_)))
      rcases jF h with⟨c40,h⟩ | ⟨c40,h⟩
      ·refine TL.nil (X.seq (Am Z (CN c40) (T.skip (X.seq (T.seq (T.block (T.seq (T.region Z ?_))))))))
       replace h:=ak h
       obtain⟨c41,h⟩:=h
       refine TL.run ab [0,1] Z Z ?_
       replace c41:0≤y28∧y28.toNat≤a0.length:=c41
       refine TL.q Z .u (Ba (p:=y28.toNat) (q:=a0.length) (m:=(a0.drop y28.toNat)) Z CZ (.some Z ((Int.toNat_of_nonneg c41.1).symm)) .none (by first | omega | (dsimp only; omega)) (dY _ _)) Z ?_
       obtain⟨x42,hx43,h⟩:=CM h
       refine Ax Z .u (.fn Tryz.call62 Z) (jD (a0.drop y28.toNat) 2 _ hx43) (fun _ hs=>(RX.reads_triv _ _)) Z (TL.alloc Z .u Tryz.zeroValue119 Z (fun b44=>(Ay (cs':= #[.bool x42.blob.null,jS x42.blob.data,jI x42.many,jI x42.err]) Z .u Z Z Ep Z Z Z Z (TL.nil (X.seq (T.seq (T.seq (T.region Z (TL.run ab [0] Z Z (TL.q Z .u (Ai 0 Z CV Z Z) Z (TL.run ab [2] Z Z ?_)))))))))))
       rcases jF h with⟨c45,h⟩ | ⟨c45,h⟩
       ·refine TL.nil (X.seq (Ap Z (az (CN c45)) (T.skip (X.seq (T.seq (T.seq (T.region Z (TL.run ab [0,1] Z Z (TL.q Z .u (Ai 0 Z Dd Z Z) Z ?_)))))))))
        rcases jF h with⟨c46,h⟩ | ⟨c46,h⟩
        ·refine TL.nil (X.seq (Am Z c46 (T.seq (T.region Z (TL.q Z .u (Av (us := [.bool false,.string ⟨#[]⟩,jI 0,jI 0,.slice none 0 0]) 4 Z DL Di Z Z Z) Z (TL.st5 (cs':= #[.bool false,.string ⟨#[]⟩,jI 0,jI 0,.slice none 0 0]) Z .u Z Z Di Z Z Z Z (TL.run ab [2,3] Z Z ?_)))))))
         obtain rfl:=CP h
         replace h:=hO35
         clear hO35
         try dsimp only at h
         obtain rfl:=CP h
         exact TL.nil (X.seq (T.ret (Al (At (Al (Al (At (Al (AO 2 aR (AX [7,0] Ek (AF (us:= #[.bool false,.string ⟨#[]⟩,jI 0,jI 0,.slice none 0 0]) 6 Z DL Di Z Z) (Aj Z) (Aj Z) ⟨_,_,Z,Z,Z⟩ (by rfl) (.inl Z)))))))))))
        ·replace c46:=CX c46
         refine TL.nil (X.seq (Ap Z c46 (T.skip (X.seq (T.seq (T.region Z (TL.run ab [0,1] Z Z (TL.q Z .u (Ai 0 Z CV Z Z) Z ?_))))))))
         replace h:=ak h
         obtain⟨c47,h⟩:=h
         refine TL.q Z .u (Ex.add Z Z c47) Z (TL.run ab [4] Z Z (TL.nil (X.seq (T.seq (T.region Z ?_)))))
         replace h:=ak h
         obtain⟨c48,h⟩:=h
         refine TL.run ab [0,1] Z Z ?_
         replace c48:0≤(y28+x42.many)∧(y28+x42.many).toNat≤a0.length:=c48
         refine TL.q Z .u (Ba (p:=(y28+x42.many).toNat) (q:=a0.length) (m:=(a0.drop ((y28+x42.many).toNat))) Z CZ (.some Z ((Int.toNat_of_nonneg c48.1).symm)) .none (by first | omega | (dsimp only; omega)) (dY _ _)) Z ?_
         obtain⟨⟨x49,x50⟩,hx51,h⟩:=CM h
         try dsimp only at h
         refine Ax Z .u (.fn Tryz.call64 Z) (ki (a0.drop ((y28+x42.many).toNat)) 8 _ hx51) (fun _ hs=>(RX.reads_triv _ _)) Z (TL.run ab [4,5,6,7,8] Z Z (TL.nil (X.seq (T.seq (T.seq (T.region Z (TL.run ab [0,1] Z Z ?_)))))))
         rcases jF h with⟨c52,h⟩ | ⟨c52,h⟩
         ·refine TL.nil (X.seq (Ap Z (az (CN c52)) (T.skip (X.seq (T.seq (T.region Z ?_))))))
          replace h:=ak h
          obtain⟨c53,h⟩:=h
          refine TL.run ab [0] Z Z (TL.q Z .u (Ex.add Z Z c53) Z (TL.run ab [2] Z Z (TL.nil (X.seq (T.seq (T.region Z (TL.run ab [0,1] Z Z (TL.q Z .u (Ai 0 Z Dp Z Z) Z ?_))))))))
          refine TL.q Z .u (AD (cells:= #[jS x42.blob.data,.slice none 0 0]) kV Z (by kernel_rfl)) Z ?_
          refine TL.alloc Z .u Tryz.zeroValue126 Z (fun b54=>(Ay (cs':= #[jS x42.blob.data,.slice none 0 0]) Z .u Z Z DI Z Z Z Z (TL.nil (X.seq (T.seq (T.seq (T.region Z (TL.run ab [0] Z Z (TL.nil (X.seq (T.block (Bt 127 2 cF ?_))))))))))))
          obtain⟨E62,hE63,hO64⟩:=CM h
          refine AV (fun m e Rs=> ∃ (y55:Int) (y56:Int) (y57:Int) (k58:Nat) (y59:List cB) (A60:Option Addr) (c61:Nat),e = [(0,jS a0),(1,jI a1),(4,jP b1),(5,jI y55),(6,jI y56),(7,jP b2),(9,jI y57),(10,jP b18),(11,jI x21),(13,jI (k29:Int)),(15,jI x49),(17,jP b54),(18,jI (k58:Int))]∧Rs = [aZ 127 2 cF (.slice A60 y59.length c61) y59,aC b54 126 #[jS x42.blob.data,.slice A60 y59.length c61],aC b44 119 #[.bool x42.blob.null,jS x42.blob.data,jI x42.many,jI x42.err],aZ 126 2 aR (.slice A31 y30.length c32) y30,aC b18 54 #[.bool x3.blob.null,jS x3.blob.data,jI x11,jI x16,.slice A31 y30.length c32],aC b5 119 #[.bool x3.blob.null,jS x3.blob.data,jI x3.many,jI x3.err],aC b2 54 #[.bool false,.string ⟨#[]⟩,jI 0,jI 0,.slice none 0 0],aC b1 54 #[.bool false,.string ⟨#[]⟩,jI 0,jI 0,.slice none 0 0],aB]∧cN a0 x49 m y55 y56 y57 k58 y59=some E62) ((x49).toNat+1) [0,0,0,0,0,0,0,0,0] ⟨y26,y27,((y28+x42.many)+4),0,[],none,0,Z,Z,by exact hE63⟩ (by rfl) (by rfl) ?_
          rintro m65 _ _ ⟨y55,y56,y57,k58,y59,A60,c61,rfl,rfl,hl67⟩
          clear hE63 h
          cases m65 with
          | zero =>
           rw[cN] at hl67
           cases hl67
          | succ m65 =>
           have h:=hl67
           clear hl67
           rw[cN] at h
           refine T.seq (T.seq (T.region Z (TL.run ab [0,1,2] Z Z ?_)))
           rcases jF h with⟨c69,h⟩ | ⟨c69,h⟩
           ·refine TL.nil (X.seq (Am Z (CN c69) (T.skip (X.seq (T.seq (T.block (T.seq (T.region Z ?_))))))))
            replace h:=ak h
            obtain⟨c70,h⟩:=h
            refine TL.run ab [0,1] Z Z ?_
            replace c70:0≤y57∧y57.toNat≤a0.length:=c70
            refine TL.q Z .u (Ba (p:=y57.toNat) (q:=a0.length) (m:=(a0.drop y57.toNat)) Z CZ (.some Z ((Int.toNat_of_nonneg c70.1).symm)) .none (by first | omega | (dsimp only; omega)) (dY _ _)) Z ?_
            obtain⟨⟨x71,x74,x75⟩,hx76,h⟩:=CM h
            try dsimp only at h
            refine AP Z .u (.fn Tryz.call65 Z) (pv (a0.drop y57.toNat) _ hx76) (fun _ hs=>(RX.reads_triv _ _)) Z ?_
            rintro _ _ _ ⟨A72,c73,rfl,rfl,rfl⟩
            refine AC [0,0,0,0,0,0,0,0,0,0] Z (TL.run ab [4,5,6,7] Z Z (TL.alloc Z .u Tryz.zeroValue127 Z (fun b77=>(Ay (cs':= #[jI x71.CD,.slice A72 x71.Ct.length c73]) Z .u Z Z Dn Z Z Z Z (TL.run ab [10,11] Z Z (TL.nil (X.seq (T.seq (T.seq (T.region Z (TL.run ab [0,1] Z Z ?_)))))))))))
            rcases jF h with⟨c78,h⟩ | ⟨c78,h⟩
            ·refine TL.nil (X.seq (Ap Z (az (CN c78)) (T.skip (X.seq (T.seq (T.region Z (TL.run ab [0] Z Z (TL.q Z .u (Ai 3 Z DO Z Z) Z (TL.q Z .u (Av (us := [jI x71.CD,.slice A72 x71.Ct.length c73]) 0 Z Ea Dn Z Z Z) Z (Bk (cells:= #[jI x71.CD,.slice A72 x71.Ct.length c73]) Z .u kf Z (by rfl) Z (fun b79=> ?_)))))))))))
             replace h:=ak h
             obtain⟨c80,h⟩:=h
             refine BP 2 1 Z .u (us := [jI x71.CD,.slice A72 x71.Ct.length c73]) (u:=x71) (l:=y59) (E:=cF) Tryz.underlying124 kY Z (by decide) Z Z Z Z Z Z Z (fun w G hG=>⟨_,_,Z,hG.1⟩) (by have hq:=c80; omega) (by have hq:=c80; omega) Z (fun A81 c82=> ?_)
             refine AC [0,0,0,0,0,0,0,0,0,0] Z (TL.run ab [5] Z Z (Bq (cs':= #[jS x42.blob.data,.slice A81 (y59 ++ [x71]).length c82]) Z .u Z Z Fp Z Z Z Z (TL.nil (X.seq (T.region Z ?_)))))
             replace h:=ak h
             obtain⟨c83,h⟩:=h
             refine TL.run ab [0,1] Z Z (TL.q Z .u (Ex.add Z Z c83) Z (TL.run ab [3] Z Z (TL.nil (Az (X.seq (T.region Z ?_))))))
             replace h:=ak h
             obtain⟨c84,h⟩:=h
             exact TL.run ab [0] Z Z (TL.q Z .u (Ex.add Z Z c84) Z (TL.run ab [2] Z Z (TL.nil (X.back (m':=m65) [0,1,1,1,1,1,1,1,1] (by omega) ⟨y55,y56,(y57+x74),k58+1,(y59 ++ [x71]),A81,c82,Z,Z,h⟩ (by rfl) (by rfl)))))
            ·refine TL.nil (X.seq (Am Z (aD (CO c78)) (T.seq (T.region Z (TL.q Z .u (Av (us := [.bool false,.string ⟨#[]⟩,jI 0,jI 0,.slice none 0 0]) 8 Z DL Di Z Z Z) Z (TL.run ab [1] Z Z (TL.st9 (cs':= #[.bool false,.string ⟨#[]⟩,jI 0,jI 0,.slice none 0 0]) Z .u Z Z Di Z Z Z Z (TL.run ab [3,4] Z Z ?_))))))))
             obtain rfl:=CP h
             replace h:=hO64
             clear hO64
             try dsimp only at h
             obtain rfl:=CP h
             replace h:=hO35
             clear hO35
             try dsimp only at h
             obtain rfl:=CP h
             exact TL.nil (X.seq (T.ret (Al (At (Al (Al (At (Al (At (Al (Al (At (Al (AO 2 aR (AX [11,0] Ek (AF (us:= #[.bool false,.string ⟨#[]⟩,jI 0,jI 0,.slice none 0 0]) 10 Z DL Di Z Z) (Aj Z) (Aj Z) ⟨_,_,Z,Z,Z⟩ (by rfl) (.inl Z))))))))))))))))
           ·refine TL.nil (X.seq (Ap Z (CO c69) ?_))
            obtain rfl:=CP h
            replace h:=hO64
            clear hO64
            try dsimp only at h
            refine T.exit (Au (Au (AS (X.seq (T.region Z (TL.run ab [0] Z Z (TL.q Z .u (Ai 4 Z D2 Z Z) Z (TL.q Z .u (Av (us := [jS x42.blob.data,.slice A60 y59.length c61]) 1 Z EO DI Z Z Z) Z (Bk (cells:= #[jS x42.blob.data,.slice A60 y59.length c61]) Z .u kE Z (by rfl) Z (fun b85=> ?_))))))))))
            replace h:=ak h
            obtain⟨c86,h⟩:=h
            refine BP 3 0 Z .u (us := [jS x42.blob.data,.slice A60 y59.length c61]) (u:=(⟨x42.blob.data,y59⟩:aV)) (l:=y30) (E:=aR) Tryz.underlying52 kX Z (by decide) Z Z Z Z Z Z Z (fun w G hG=>⟨_,_,Z,aP (by decide) _ _ hG⟩) (by have hq:=c86; omega) (by have hq:=c86; omega) Z (fun A87 c88=> ?_)
            refine AC [0,0,0,0,0,0,0,0] Z (TL.run ab [5] Z Z (A5 (cs':= #[.bool x3.blob.null,jS x3.blob.data,jI x11,jI x16,.slice A87 (y30 ++ [(⟨x42.blob.data,y59⟩:aV)]).length c88]) Z .u Z Z Tryz.sizeOf52 Z Z Z Z (TL.nil (Az (X.seq (T.region Z ?_))))))
            replace h:=ak h
            obtain⟨c89,h⟩:=h
            exact TL.run ab [0] Z Z (TL.q Z .u (Ex.add Z Z c89) Z (TL.run ab [2] Z Z (TL.nil (X.back (m':=m36) [0,2,2,2,2,2] (by omega) ⟨y55,y56,y57,k29+1,(y30 ++ [(⟨x42.blob.data,y59⟩:aV)]),A87,c88,Z,Z,h⟩ (by rfl) (by rfl)))))
         ·refine TL.nil (X.seq (Am Z (aD (CO c52)) (T.seq (T.region Z (TL.q Z .u (Av (us := [.bool false,.string ⟨#[]⟩,jI 0,jI 0,.slice none 0 0]) 4 Z DL Di Z Z Z) Z (TL.run ab [1] Z Z (TL.st5 (cs':= #[.bool false,.string ⟨#[]⟩,jI 0,jI 0,.slice none 0 0]) Z .u Z Z Di Z Z Z Z (TL.run ab [3,4] Z Z ?_))))))))
          obtain rfl:=CP h
          replace h:=hO35
          clear hO35
          try dsimp only at h
          obtain rfl:=CP h
          exact TL.nil (X.seq (T.ret (Al (At (Al (Al (At (Al (AO 2 aR (AX [7,0] Ek (AF (us:= #[.bool false,.string ⟨#[]⟩,jI 0,jI 0,.slice none 0 0]) 6 Z DL Di Z Z) (Aj Z) (Aj Z) ⟨_,_,Z,Z,Z⟩ (by rfl) (.inl Z)))))))))))
       ·refine TL.nil (X.seq (Am Z (aD (CO c45)) ?_))
        refine T.seq (AH (.q 0 (.q 1 (.q 2 (.e 3 (.q 4 (.q 5 .nil)))))) [0,0,0,0,0,1] Z bq (NoP.seq (NoP.seq (NoP.blk (NoP.seq (NoP.seq (NoP.blk (NoP.seq aM))))))) (by kernel_rfl) ?_)
        refine TD.q Z .u (Av (us := [.bool false,.string ⟨#[]⟩,jI 0,jI 0,.slice none 0 0]) 4 Z DL Di Z Z Z) Z (TD.run ab [1] Z Z (TD.q Z .u (Ai 0 Z CV Z Z) Z (TD.st5 (cs':= #[.bool false,.string ⟨#[]⟩,jI 0,jI 0,.slice none 0 0]) Z .u Z Z Di Z Z Z Z [0,0,0,0,0,1] (Z) (TD.run ab [4,5] Z Z ?_))))
        obtain rfl:=CP h
        replace h:=hO35
        clear hO35
        try dsimp only at h
        obtain rfl:=CP h
        exact TD.nil (X.seq (T.ret (Al (At (Al (Al (At (Al (AO 2 aR (AX [7,0] Ek (AF (us:= #[.bool false,.string ⟨#[]⟩,jI 0,jI 0,.slice none 0 0]) 6 Z DL Di Z Z) (Aj Z) (Aj Z) ⟨_,_,Z,Z,Z⟩ (by rfl) (.inl Z)))))))))))
      ·refine TL.nil (X.seq (Ap Z (CO c40) ?_))
       obtain rfl:=CP h
       replace h:=hO35
       clear hO35
       try dsimp only at h
       refine T.exit (Au (Au (AS (X.seq (T.seq (T.region Z (TL.q Z .u (Av (us := [.bool x3.blob.null,jS x3.blob.data,jI x11,jI x16,.slice A31 y30.length c32]) 1 Z DL Di Z Z Z) Z ?_)))))))
       obtain⟨x102,hx103,h⟩:=CM h
       refine TL.run ab [1] Z Z (Ax Z .u (.fn Tryz.call29 Z) (oA (⟨x3.blob,x11,x16,y30⟩:aG) _ _ a1 _ hx103) (fun _ hs=>(SrcE.res 0 hs Z (fun w G h=>aP (by decide) w G h))) Z (TL.run ab [3] Z Z (TL.nil (X.seq (T.seq (T.seq (T.region Z (TL.run ab [0,1] Z Z ?_))))))))
       rcases jF h with⟨c104,h⟩ | ⟨c104,h⟩
       ·refine TL.nil (X.seq (Ap Z (az (CN c104)) (T.skip (X.seq (T.seq (T.region Z (TL.q Z .u (Av (us := [.bool x3.blob.null,jS x3.blob.data,jI x11,jI x16,.slice A31 y30.length c32]) 1 Z DL Di Z Z Z) Z (TL.run ab [1] Z Z (Bn (cs':= #[.bool x3.blob.null,jS x3.blob.data,jI x11,jI x16,.slice A31 y30.length c32]) Z .u Z Z Di Z Z Z Z (TL.run ab [3,4] Z Z ?_))))))))))
        obtain rfl:=CP h
        exact TL.nil (X.seq (T.ret (Bu (by decide) 0 Z (AQ [0,0,0,0,0,0] Z (AX [5,0] Ek (AF (us:= #[.bool x3.blob.null,jS x3.blob.data,jI x11,jI x16,.slice A31 y30.length c32]) 4 Z DL Di Z Z) (Aj Z) (Aj Z) ⟨_,_,Z,Z,Z⟩ (by rfl) (.inl Z))))))
       ·refine TL.nil (X.seq (Am Z (aD (CO c104)) (T.seq (T.region Z (TL.q Z .u (Av (us := [.bool false,.string ⟨#[]⟩,jI 0,jI 0,.slice none 0 0]) 3 Z DL Di Z Z Z) Z (TL.run ab [1] Z Z (Bn (cs':= #[.bool false,.string ⟨#[]⟩,jI 0,jI 0,.slice none 0 0]) Z .u Z Z Di Z Z Z Z (TL.run ab [3,4] Z Z ?_))))))))
        obtain rfl:=CP h
        exact TL.nil (X.seq (T.ret (Al (AO 2 aR (AX [6,0] Ek (AF (us:= #[.bool false,.string ⟨#[]⟩,jI 0,jI 0,.slice none 0 0]) 5 Z DL Di Z Z) (Aj Z) (Aj Z) ⟨_,_,Z,Z,Z⟩ (by rfl) (.inl Z))))))
    ·refine TL.nil (X.seq (Am Z (aD (CO c24)) (T.seq (T.region Z (TL.q Z .u (Av (us := [.bool false,.string ⟨#[]⟩,jI 0,jI 0,.slice none 0 0]) 2 Z DL Di Z Z Z) Z (TL.run ab [1] Z Z (A5 (cs':= #[.bool false,.string ⟨#[]⟩,jI 0,jI 0,.slice none 0 0]) Z .u Z Z Di Z Z Z Z (TL.run ab [3,4] Z Z ?_))))))))
     obtain rfl:=CP h
     exact TL.nil (X.seq (T.ret (Al (AO 2 aR (AX [5,0] Ek (AF (us:= #[.bool false,.string ⟨#[]⟩,jI 0,jI 0,.slice none 0 0]) 4 Z DL Di Z Z) (Aj Z) (Aj Z) ⟨_,_,Z,Z,Z⟩ (by rfl) (.inl Z))))))
 ·refine TL.nil (X.seq (Am Z (aD (CO c6)) ?_))
  refine T.seq (AH (.q 0 (.q 1 (.q 2 (.e 3 (.q 4 (.q 5 .nil)))))) [0,0,1] Z bq (NoP.seq (NoP.seq aM)) (by kernel_rfl) ?_)
  refine TD.q Z .u (Av (us := [.bool false,.string ⟨#[]⟩,jI 0,jI 0,.slice none 0 0]) 1 Z DL Di Z Z Z) Z (TD.run ab [1] Z Z (TD.q Z .u (Ai 0 Z CV Z Z) Z (TD.st2 (cs':= #[.bool false,.string ⟨#[]⟩,jI 0,jI 0,.slice none 0 0]) Z .u Z Z Di Z Z Z Z [0,0,1] (Z) (TD.run ab [4,5] Z Z ?_))))
  obtain rfl:=CP h
  exact TD.nil (X.seq (T.ret (Al (AO 2 aR (AX [4,0] Ek (AF (us:= #[.bool false,.string ⟨#[]⟩,jI 0,jI 0,.slice none 0 0]) 3 Z DL Di Z Z) (Aj Z) (Aj Z) ⟨_,_,Z,Z,Z⟩ (by rfl) (.inl Z))))))
def de (x29:aV) (x36:aV):Nat→Bool→Nat→Option (Lp Bool (Bool×Nat))
 | 0,_,_=>none
 | m54+1,y49,k50=>if (k50:Int)<(x29.Cj.length:Int) then (((x29.Cj[k50]?).bind fun x76=>(x36.Cj[k50]?).bind fun x82=>if x76.CD=x82.CD then ((gL x76.Ct x82.Ct).bind fun x89=>if x89=true then some false else some true) else some true).bind fun y74=>if y74=true then some (Lp.ret false) else (if -9223372036854775808≤((k50:Int)+1)∧((k50:Int)+1)≤9223372036854775807 then (de x29 x36 m54 y49 (k50+1)) else none)) else (some (Lp.go (y49,k50)))
def dg (a0:aG) (a1:aG):Nat→Bool→Nat→Option (Lp Bool (Bool×Nat))
 | 0,_,_=>none
 | m24+1,y19,k20=>if (k20:Int)<(a0.Cm.length:Int) then ((a0.Cm[k20]?).bind fun x29=>(a1.Cm[k20]?).bind fun x36=>(if x29.Cx=x36.Cx then (if (x29.Cj.length:Int)=(x36.Cj.length:Int) then some false else some true) else some true).bind fun y44=>if y44=true then some (Lp.ret false) else ((de x29 x36 (((x29.Cj.length:Int)).toNat+1) y19 0).bind fun e=>match e with | .ret r=>some (Lp.ret r) | .go (y95,k96)=>(if -9223372036854775808≤((k20:Int)+1)∧((k20:Int)+1)≤9223372036854775807 then (dg a0 a1 m24 y95 (k20+1)) else none))) else (some (Lp.go (y19,k20)))
theorem pz (a0:aG) (a1:aG) (u1:Bool) (u2:Nat):dg a0 a1 0 u1 u2=none:=rfl
theorem pA (a0:aG) (a1:aG) (m24:Nat) (y19:Bool) (k20:Nat):dg a0 a1 (m24+1) y19 k20=(if (k20:Int)<(a0.Cm.length:Int) then ((a0.Cm[k20]?).bind fun x29=>(a1.Cm[k20]?).bind fun x36=>(if x29.Cx=x36.Cx then (if (x29.Cj.length:Int)=(x36.Cj.length:Int) then some false else some true) else some true).bind fun y44=>if y44=true then some (Lp.ret false) else ((de x29 x36 (((x29.Cj.length:Int)).toNat+1) y19 0).bind fun e=>match e with | .ret r=>some (Lp.ret r) | .go (y95,k96)=>(if -9223372036854775808≤((k20:Int)+1)∧((k20:Int)+1)≤9223372036854775807 then (dg a0 a1 m24 y95 (k20+1)) else none))) else (some (Lp.go (y19,k20)))):=rfl
def fU (a0:aG) (a1:aG):Option (Bool):=(if a0.CA.null=a1.CA.null then (if a0.CA.data=a1.CA.data then (if a0.CG=a1.CG then (if a0.Cz=a1.Cz then (if (a0.Cm.length:Int)=(a1.Cm.length:Int) then some false else some true) else some true) else some true) else some true) else some true).bind fun y11=>if y11=true then some false else ((dg a0 a1 (((a0.Cm.length:Int)).toNat+1) false 0).bind fun e=>match e with | .ret r=>some r | .go (y98,k99)=>some true)
theorem pC (a0:aG) (A1:Option Addr) (c2:Nat) (a1:aG) (A3:Option Addr) (c4:Nat) (r:Bool) (h:fU a0 a1=some r):ay Tryz.prog 22 #[.agg #[.bool a0.CA.null,jS a0.CA.data,jI a0.CG,jI a0.Cz,.slice A1 a0.Cm.length c2],.agg #[.bool a1.CA.null,jS a1.CA.data,jI a1.CG,jI a1.Cz,.slice A3 a1.Cm.length c4]] (RX.and (RX.of (av 2 aR) [.slice A1 a0.Cm.length c2] a0.Cm) (RX.of (av 2 aR) [.slice A3 a1.Cm.length c4] a1.Cm)) (aB) (fun v A' N=>v= .bool r∧A'=aB∧N = []):=by
 refine aL Tryz.func22 Z Tryz.ntmps22 Z ?_
 intro F w hX
 unfold fU at h
 refine T.seq (T.region Z (TL.box Z .u Z Z (fun b5=>(TL.box Z .u Z Z (fun b6=>(TL.run ab [2] Z Z (TL.nil (X.seq (T.seq (T.seq ?_))))))))))
 obtain⟨y11,h,hk12⟩:=CM h
 refine Bg (fun e Rs=>e = [(2,jP b5),(3,jP b6),(4,.bool false),(36,.bool y11)]∧Rs = [aC b6 54 #[.bool a1.CA.null,jS a1.CA.data,jI a1.CG,jI a1.Cz,.slice A3 a1.Cm.length c4],aC b5 54 #[.bool a0.CA.null,jS a0.CA.data,jI a0.CG,jI a0.Cz,.slice A1 a0.Cm.length c2],aB]) ?_ ?_
 ·clear hk12
  refine T.region Z (TL.run ab [0] Z Z (TL.q Z .u (Av (us := [.bool a0.CA.null,jS a0.CA.data]) 1 Z Dw C7 Z Z Z) Z (TL.run ab [2] Z Z (TL.q Z .u (Av (us := [.bool a1.CA.null,jS a1.CA.data]) 0 Z Dw C7 Z Z Z) Z ?_))))
  rcases jF h with⟨c13,h⟩ | ⟨c13,h⟩
  ·rcases jF h with⟨c14,h⟩ | ⟨c14,h⟩
   ·refine TL.q Z .u (Cb (us := [.bool a0.CA.null,jS a0.CA.data]) (vs := [.bool a1.CA.null,jS a1.CA.data]) eU Z D5 Z Z Z Z (iU (oU c13) (iU (qa (l:=a0.CA.data) (m:=a1.CA.data) c14) Z))) Z (TL.run ab [5] Z Z (TL.q Z (.g Z Z Z) (Ao ab Z) Z (TL.q Z (.g Z Z Z) (Ai 1 Z CV Z Z) Z (TL.q Z (.g Z Z Z) (Ao ab Z) Z (TL.q Z (.g Z Z Z) (Ai 0 Z CV Z Z) Z (TL.q Z (.g Z Z Z) (Ao ab Z) Z (TL.q Z .u (Ar Z Z Z) Z ?_)))))))
    rcases jF h with⟨c15,h⟩ | ⟨c15,h⟩
    ·refine TL.run ab [12] Z Z (TL.q Z (.g Z Z (az (CN c15))) (Ao ab Z) Z (TL.q Z (.g Z Z (az (CN c15))) (Ai 1 Z CV Z Z) Z (TL.q Z (.g Z Z (az (CN c15))) (Ao ab Z) Z (TL.q Z (.g Z Z (az (CN c15))) (Ai 0 Z CV Z Z) Z (TL.q Z (.g Z Z (az (CN c15))) (Ao ab Z) Z (TL.q Z .u (Ar Z (az (CN c15)) Z) Z ?_))))))
     rcases jF h with⟨c16,h⟩ | ⟨c16,h⟩
     ·refine TL.run ab [19] Z Z (TL.q Z (.g Z Z (az (CN c16))) (Ao ab Z) Z (TL.q Z (.g Z Z (az (CN c16))) (Ai 1 Z D2 Z Z) Z (TL.q Z (.g Z Z (az (CN c16))) (AA Z Dz) Z (TL.q Z (.g Z Z (az (CN c16))) (Ao ab Z) Z (TL.q Z (.g Z Z (az (CN c16))) (Ai 0 Z D2 Z Z) Z (TL.q Z (.g Z Z (az (CN c16))) (AA Z Dz) Z (TL.q Z (.g Z Z (az (CN c16))) (Ao ab Z) Z ?_)))))))
      refine TL.q Z .u (Ar Z (az (CN c16)) Z) Z ?_
      rcases jF h with⟨c17,h⟩ | ⟨c17,h⟩
      ·cases h
       exact TL.nil (Bh (d:=36) (v':= .bool false) Z (congrArg Value.bool (az (CN c17))) (AB [0,0,0] ⟨Z,Z⟩ (by rfl) (by rfl)))
      ·cases h
       exact TL.nil (Bh (d:=36) (v':= .bool true) Z (congrArg Value.bool (aD (CO c17))) (AB [0,0,0] ⟨Z,Z⟩ (by rfl) (by rfl)))
     ·refine TL.run ab [19] Z Z ?_
      iterate 7 refine An Z (.gn Z Z (aD (CO c16))) Z ?_
      refine TL.q Z .u (Aq Z (aD (CO c16)) Z) Z ?_
      cases h
      exact TL.nil (AB [0,0,0] ⟨Z,Z⟩ (by rfl) (by rfl))
    ·refine TL.run ab [12] Z Z ?_
     iterate 5 refine An Z (.gn Z Z (aD (CO c15))) Z ?_
     refine TL.q Z .u (Aq Z (aD (CO c15)) Z) Z (TL.run ab [19] Z Z ?_)
     iterate 7 refine An Z (.gn Z Z Z) Z ?_
     refine TL.q Z .u (Aq Z Z Z) Z ?_
     cases h
     exact TL.nil (AB [0,0,0] ⟨Z,Z⟩ (by rfl) (by rfl))
   ·refine TL.q Z .u (Cb (us := [.bool a0.CA.null,jS a0.CA.data]) (vs := [.bool a1.CA.null,jS a1.CA.data]) eU Z D5 Z Z Z Z (iU (oU c13) (ng (qb (l:=a0.CA.data) (m:=a1.CA.data) c14)))) Z (TL.run ab [5] Z Z ?_)
    iterate 5 refine An Z (.gn Z Z Z) Z ?_
    refine TL.q Z .u (Aq Z Z Z) Z (TL.run ab [12] Z Z ?_)
    iterate 5 refine An Z (.gn Z Z Z) Z ?_
    refine TL.q Z .u (Aq Z Z Z) Z (TL.run ab [19] Z Z ?_)
    iterate 7 refine An Z (.gn Z Z Z) Z ?_
    refine TL.q Z .u (Aq Z Z Z) Z ?_
    cases h
    exact TL.nil (AB [0,0,0] ⟨Z,Z⟩ (by rfl) (by rfl))
  ·refine TL.q Z .u (Cb (us := [.bool a0.CA.null,jS a0.CA.data]) (vs := [.bool a1.CA.null,jS a1.CA.data]) eU Z D5 Z Z Z Z (ng (sE c13))) Z (TL.run ab [5] Z Z ?_)
   iterate 5 refine An Z (.gn Z Z Z) Z ?_
   refine TL.q Z .u (Aq Z Z Z) Z (TL.run ab [12] Z Z ?_)
   iterate 5 refine An Z (.gn Z Z Z) Z ?_
   refine TL.q Z .u (Aq Z Z Z) Z (TL.run ab [19] Z Z ?_)
   iterate 7 refine An Z (.gn Z Z Z) Z ?_
   refine TL.q Z .u (Aq Z Z Z) Z ?_
   cases h
   exact TL.nil (AB [0,0,0] ⟨Z,Z⟩ (by rfl) (by rfl))
 ·rintro _ _ ⟨rfl,rfl⟩
  clear h
  have h:=hk12
  clear hk12
  try dsimp only at h
  rcases jF h with⟨c18,h⟩ | ⟨c18,h⟩
  ·refine X.seq (Am Z c18 (T.seq (T.region Z (TL.run ab [0] Z Z ?_))))
   obtain rfl:=CP h
   exact TL.nil (X.seq (T.ret (Al (Ak [2] Ft (Aj Z) ⟨Z,Z,Z⟩ (by rfl) (.inl Z)))))
  ·replace c18:=CX c18
   refine X.seq (Ap Z c18 (T.skip (X.seq (T.seq (T.seq (T.region Z (TL.run ab [0] Z Z (TL.nil (X.seq (T.block ?_))))))))))
   obtain⟨E21,hE22,hO23⟩:=CM h
   refine AV (fun m e Rs=> ∃ (y19:Bool) (k20:Nat),e = [(2,jP b5),(3,jP b6),(4,.bool y19),(5,jI (k20:Int))]∧Rs = [aC b6 54 #[.bool a1.CA.null,jS a1.CA.data,jI a1.CG,jI a1.Cz,.slice A3 a1.Cm.length c4],aC b5 54 #[.bool a0.CA.null,jS a0.CA.data,jI a0.CG,jI a0.Cz,.slice A1 a0.Cm.length c2],aB]∧dg a0 a1 m y19 k20=some E21) (((a0.Cm.length:Int)).toNat+1) [0,0,0] ⟨false,0,Z,Z,by exact hE22⟩ (by rfl) (by rfl) ?_
   rintro m24 _ _ ⟨y19,k20,rfl,rfl,hl26⟩
   clear hE22 h
   cases m24 with
   | zero =>
    rw[pz] at hl26
    cases hl26
   | succ m24 =>
    have h:=hl26
    clear hl26
    rw[pA] at h
    refine T.seq (T.seq (T.region Z (TL.run ab [0,1] Z Z (TL.q Z .u (Ai 1 Z D2 Z Z) Z (TL.q Z .u (AA Z Dz) Z (TL.run ab [4] Z Z ?_))))))
    rcases jF h with⟨c28,h⟩ | ⟨c28,h⟩
    ·refine TL.nil (X.seq (Am Z (CN c28) (T.skip (X.seq (T.seq (T.block (T.seq (T.region Z (TL.run ab [0] Z Z (TL.q Z .u (Ai 1 Z D2 Z Z) Z ?_))))))))))
     obtain⟨x29,hx30,h⟩:=CM h
     obtain⟨gz31,oz31,rfl,z31cs,z31cl,z31cc,z31nf,z31r⟩:=AK (by decide) (BD hX) hx30
     obtain⟨z31S,z31r,z31rr⟩:=z31r
     obtain⟨A32,c33,rfl,z31s0⟩:=z31r
     have hX34:(RX.of (av 2 cF) [.slice A32 x29.Cj.length c33] x29.Cj).reads w F:=⟨z31S,z31s0,z31rr⟩
     refine TL.run ab [2] Z Z ?_
     refine TL.q Z .u (Aw (k:=k20) Z Z Z Dz DI (CU hx30).1) Z ?_
     refine TL.q Z .u (Bb (us := [jS x29.Cx,.slice A32 x29.Cj.length c33]) 0 Z EO DI z31nf z31cc Z Z Z) Z (TL.alloc Z .u Tryz.zeroValue126 Z (fun b35=>(Ay (cs':= #[jS x29.Cx,.slice A32 x29.Cj.length c33]) Z .u Z Z DI Z Z Z Z (TL.nil (X.seq (T.seq (T.region Z (TL.run ab [0] Z Z (TL.q Z .u (Ai 1 Z D2 Z Z) Z ?_)))))))))
     obtain⟨x36,hx37,h⟩:=CM h
     obtain⟨gz38,oz38,rfl,z38cs,z38cl,z38cc,z38nf,z38r⟩:=AK (by decide) (Br hX) hx37
     obtain⟨z38S,z38r,z38rr⟩:=z38r
     obtain⟨A39,c40,rfl,z38s0⟩:=z38r
     have hX41:(RX.of (av 2 cF) [.slice A39 x36.Cj.length c40] x36.Cj).reads w F:=⟨z38S,z38s0,z38rr⟩
     refine TL.run ab [2] Z Z ?_
     refine TL.q Z .u (Aw (k:=k20) Z Z Z Dz DI (CU hx37).1) Z ?_
     refine TL.q Z .u (Bb (us := [jS x36.Cx,.slice A39 x36.Cj.length c40]) 0 Z EO DI z38nf z38cc Z Z Z) Z (TL.alloc Z .u Tryz.zeroValue126 Z (fun b42=>(Ay (cs':= #[jS x36.Cx,.slice A39 x36.Cj.length c40]) Z .u Z Z DI Z Z Z Z (TL.nil (X.seq (T.seq (T.seq ?_)))))))
     obtain⟨y44,h,hk45⟩:=CM h
     refine Bg (fun e Rs=>e = [(2,jP b5),(3,jP b6),(4,.bool y19),(5,jI (k20:Int)),(6,jP b35),(7,jP b42),(67,.bool y44)]∧Rs = [aC b42 126 #[jS x36.Cx,.slice A39 x36.Cj.length c40],aC b35 126 #[jS x29.Cx,.slice A32 x29.Cj.length c33],aC b6 54 #[.bool a1.CA.null,jS a1.CA.data,jI a1.CG,jI a1.Cz,.slice (some ⟨gz38,oz38,none⟩) a1.Cm.length c4],aC b5 54 #[.bool a0.CA.null,jS a0.CA.data,jI a0.CG,jI a0.Cz,.slice (some ⟨gz31,oz31,none⟩) a0.Cm.length c2],aB]) ?_ ?_
     ·clear hk45
      refine T.region Z (TL.run ab [0] Z Z (TL.q Z .u (Ai 1 Z Dp Z Z) Z (TL.run ab [2] Z Z (TL.q Z .u (Ai 0 Z Dp Z Z) Z (TL.q Z .u (Ex.sNe Z Z) Z ?_)))))
      rcases jF h with⟨c46,h⟩ | ⟨c46,h⟩
      ·refine TL.run ab [5] Z Z (TL.q Z (.g Z Z (az (CN c46))) (Ao ab Z) Z (TL.q Z (.g Z Z (az (CN c46))) (Ai 1 Z DO Z Z) Z (TL.q Z (.g Z Z (az (CN c46))) (AA Z Do) Z (TL.q Z (.g Z Z (az (CN c46))) (Ao ab Z) Z (TL.q Z (.g Z Z (az (CN c46))) (Ai 0 Z DO Z Z) Z (TL.q Z (.g Z Z (az (CN c46))) (AA Z Do) Z (TL.q Z (.g Z Z (az (CN c46))) (Ao ab Z) Z ?_)))))))
       refine TL.q Z .u (Ar Z (az (CN c46)) Z) Z ?_
       rcases jF h with⟨c47,h⟩ | ⟨c47,h⟩
       ·cases h
        exact TL.nil (Bh (d:=67) (v':= .bool false) Z (congrArg Value.bool (az (CN c47))) (AB [0,0,0,0,0] ⟨Z,Z⟩ (by rfl) (by rfl)))
       ·cases h
        exact TL.nil (Bh (d:=67) (v':= .bool true) Z (congrArg Value.bool (aD (CO c47))) (AB [0,0,0,0,0] ⟨Z,Z⟩ (by rfl) (by rfl)))
      ·refine TL.run ab [5] Z Z ?_
       iterate 7 refine An Z (.gn Z Z (aD (CO c46))) Z ?_
       refine TL.q Z .u (Aq Z (aD (CO c46)) Z) Z ?_
       cases h
       exact TL.nil (AB [0,0,0,0,0] ⟨Z,Z⟩ (by rfl) (by rfl))
     ·rintro _ _ ⟨rfl,rfl⟩
      clear h
      have h:=hk45
      clear hk45
      try dsimp only at h
      rcases jF h with⟨c48,h⟩ | ⟨c48,h⟩
      ·refine X.seq (Am Z c48 (T.seq (T.region Z (TL.run ab [0] Z Z ?_))))
       obtain rfl:=CP h
       replace h:=hO23
       clear hO23
       try dsimp only at h
       obtain rfl:=CP h
       exact TL.nil (X.seq (T.ret (Al (At (Al (Al (At (Al (Ak [4] Ft (Aj Z) ⟨Z,Z,Z⟩ (by rfl) (.inl Z))))))))))
      ·replace c48:=CX c48
       refine X.seq (Ap Z c48 (T.skip (X.seq (T.seq (T.region Z (TL.run ab [0] Z Z (TL.nil (X.seq (T.block ?_)))))))))
       obtain⟨E51,hE52,hO53⟩:=CM h
       refine AV (fun m e Rs=> ∃ (y49:Bool) (k50:Nat),e = [(2,jP b5),(3,jP b6),(4,.bool y49),(5,jI (k20:Int)),(6,jP b35),(7,jP b42),(8,jI (k50:Int))]∧Rs = [aC b42 126 #[jS x36.Cx,.slice A39 x36.Cj.length c40],aC b35 126 #[jS x29.Cx,.slice A32 x29.Cj.length c33],aC b6 54 #[.bool a1.CA.null,jS a1.CA.data,jI a1.CG,jI a1.Cz,.slice (some ⟨gz38,oz38,none⟩) a1.Cm.length c4],aC b5 54 #[.bool a0.CA.null,jS a0.CA.data,jI a0.CG,jI a0.Cz,.slice (some ⟨gz31,oz31,none⟩) a0.Cm.length c2],aB]∧de x29 x36 m y49 k50=some E51) (((x29.Cj.length:Int)).toNat+1) [0,0,0,0,0] ⟨y19,0,Z,Z,by exact hE52⟩ (by rfl) (by rfl) ?_
       rintro m54 _ _ ⟨y49,k50,rfl,rfl,hl56⟩
       clear hE52 h
       cases m54 with
       | zero =>
        rw[de] at hl56
        cases hl56
       | succ m54 =>
        have h:=hl56
        clear hl56
        rw[de] at h
        refine T.seq (T.seq (T.region Z (TL.run ab [0,1] Z Z (TL.q Z .u (Ai 1 Z DO Z Z) Z (TL.q Z .u (AA Z Do) Z (TL.run ab [4] Z Z ?_))))))
        rcases jF h with⟨c58,h⟩ | ⟨c58,h⟩
        ·refine TL.nil (X.seq (Am Z (CN c58) (T.skip (X.seq (T.seq (T.block (T.seq ?_)))))))
         obtain⟨y74,h,hk75⟩:=CM h
         refine Bg (fun e Rs=>e = [(2,jP b5),(3,jP b6),(4,.bool y49),(5,jI (k20:Int)),(6,jP b35),(7,jP b42),(8,jI (k50:Int)),(103,.bool y74)]∧Rs = [aC b42 126 #[jS x36.Cx,.slice A39 x36.Cj.length c40],aC b35 126 #[jS x29.Cx,.slice A32 x29.Cj.length c33],aC b6 54 #[.bool a1.CA.null,jS a1.CA.data,jI a1.CG,jI a1.Cz,.slice (some ⟨gz38,oz38,none⟩) a1.Cm.length c4],aC b5 54 #[.bool a0.CA.null,jS a0.CA.data,jI a0.CG,jI a0.Cz,.slice (some ⟨gz31,oz31,none⟩) a0.Cm.length c2],aB]) ?_ ?_
         ·clear hk75
          refine AH (.q 0 (.q 1 (.q 2 (.q 3 (.q 4 (.q 5 (.q 6 (.q 7 (.q 8 (.q 9 (.q 10 (.q 11 (.q 12 (.q 13 (.q 14 (.q 15 (.q 16 (.q 17 (.q 18 (.q 19 (.q 20 (.q 21 (.q 22 (.q 23 (.q 24 (.q 25 (.e 26 (.q 27 (.q 28 .nil))))))))))))))))))))))))))))) [0,0,0,0,0] Z bq (NoP.seq (NoP.seq (NoP.blk (NoP.seq (NoP.seq (NoP.blk (NoP.blk (NoP.seq (NoP.seq (NoP.blk (NoP.seq aM))))))))))) (by kernel_rfl) ?_
          refine TD.run ab [0] Z Z (TD.q Z .u (Ai 1 Z DO Z Z) Z ?_)
          obtain⟨x76,hx77,h⟩:=CM h
          obtain⟨gz78,oz78,rfl,z78cs,z78cl,z78cc,z78nf,z78r⟩:=AK (by decide) hX34 hx77
          obtain⟨z78S,z78r,z78rr⟩:=z78r
          obtain⟨A79,c80,rfl,z78s0⟩:=z78r
          have hX81:(RX.of (av 12 bD) [.slice A79 x76.Ct.length c80] x76.Ct).reads w F:=⟨z78S,z78s0,z78rr⟩
          refine TD.run ab [2] Z Z ?_
          refine TD.q Z .u (Aw (k:=k50) Z Z Z Do Dn (CU hx77).1) Z ?_
          refine TD.run ab [4] Z Z (TD.q Z .u (AY 0 Z CV z78nf z78cc Z Z) Z (TD.run ab [6] Z Z (TD.q Z .u (Ai 0 Z DO Z Z) Z ?_)))
          obtain⟨x82,hx83,h⟩:=CM h
          obtain⟨gz84,oz84,rfl,z84cs,z84cl,z84cc,z84nf,z84r⟩:=AK (by decide) hX41 hx83
          obtain⟨z84S,z84r,z84rr⟩:=z84r
          obtain⟨A85,c86,rfl,z84s0⟩:=z84r
          have hX87:(RX.of (av 12 bD) [.slice A85 x82.Ct.length c86] x82.Ct).reads w F:=⟨z84S,z84s0,z84rr⟩
          refine TD.run ab [8] Z Z ?_
          refine TD.q Z .u (Aw (k:=k50) Z Z Z Do Dn (CU hx83).1) Z ?_
          refine TD.run ab [10] Z Z (TD.q Z .u (AY 0 Z CV z84nf z84cc Z Z) Z ?_)
          rcases jF h with⟨c88,h⟩ | ⟨c88,h⟩
          ·refine TD.run ab [12,13] Z Z (TD.q Z (.g Z Z (az (CN c88))) (Ao ab Z) Z (TD.q Z (.g Z Z (az (CN c88))) (Ai 1 Z DO Z Z) Z (TD.q Z (.g Z Z (az (CN c88))) (Ao ab Z) Z ?_)))
           refine TD.q Z (.g Z Z (az (CN c88))) (Aw (k:=k50) Z Z Z Do Dn (CU hx77).1) Z ?_
           refine TD.q Z (.g Z Z (az (CN c88))) (Ao ab Z) Z (TD.q Z (.g Z Z (az (CN c88))) (AY 1 Z Ei z78nf z78cc Z Z) Z (TD.q Z (.g Z Z (az (CN c88))) (Ao ab Z) Z (TD.q Z (.g Z Z (az (CN c88))) (Ai 0 Z DO Z Z) Z (TD.q Z (.g Z Z (az (CN c88))) (Ao ab Z) Z ?_))))
           refine TD.q Z (.g Z Z (az (CN c88))) (Aw (k:=k50) Z Z Z Do Dn (CU hx83).1) Z ?_
           refine TD.q Z (.g Z Z (az (CN c88))) (Ao ab Z) Z (TD.q Z (.g Z Z (az (CN c88))) (AY 1 Z Ei z84nf z84cc Z Z) Z ?_)
           obtain⟨x89,hx90,h⟩:=CM h
           refine AR Z (.g Z Z (az (CN c88))) (.fn Tryz.call66 Z) (pk x76.Ct _ _ x82.Ct _ _ _ hx90) (fun _ hs=>(BB (AE hs hX81) (AE hs hX87))) Z [0,0,0,0,0] (Z) (TD.q Z (.g Z Z (az (CN c88))) (Ao ab Z) Z (TD.q Z .u (Ar Z (az (CN c88)) Z) Z ?_))
           rcases jF h with⟨c91,h⟩ | ⟨c91,h⟩
           ·cases h
            exact TD.nil (Bh (d:=103) (v':= .bool false) Z (congrArg Value.bool (az c91)) (AB [0,0,0,0,0] ⟨Z,Z⟩ (by rfl) (by rfl)))
           ·replace c91:=CX c91
            cases h
            exact TD.nil (Bh (d:=103) (v':= .bool true) Z (congrArg Value.bool (aD c91)) (AB [0,0,0,0,0] ⟨Z,Z⟩ (by rfl) (by rfl)))
          ·refine TD.run ab [12,13] Z Z ?_
           iterate 12 refine A9 Z (.gn Z Z (aD (CO c88))) Z ?_
           refine B5 Z (.gn Z Z (aD (CO c88))) Z [0,0,0,0,0] Z (A9 Z (.gn Z Z (aD (CO c88))) Z (TD.q Z .u (Aq Z (aD (CO c88)) Z) Z ?_))
           cases h
           exact TD.nil (AB [0,0,0,0,0] ⟨Z,Z⟩ (by rfl) (by rfl))
         ·rintro _ _ ⟨rfl,rfl⟩
          clear h
          have h:=hk75
          clear hk75
          try dsimp only at h
          rcases jF h with⟨c92,h⟩ | ⟨c92,h⟩
          ·refine X.seq (Am Z c92 (T.seq (T.region Z (TL.run ab [0] Z Z ?_))))
           obtain rfl:=CP h
           replace h:=hO53
           clear hO53
           try dsimp only at h
           obtain rfl:=CP h
           replace h:=hO23
           clear hO23
           try dsimp only at h
           obtain rfl:=CP h
           exact TL.nil (X.seq (T.ret (At (Al (Al (At (At (Al (Al (At (Al (Ak [4] Ft (Aj Z) ⟨Z,Z,Z⟩ (by rfl) (.inl Z)))))))))))))
          ·replace c92:=CX c92
           refine X.seq (Ap Z c92 (T.skip (Az (X.seq (T.region Z ?_)))))
           replace h:=ak h
           obtain⟨c93,h⟩:=h
           exact TL.run ab [0] Z Z (TL.q Z .u (Ex.add Z Z c93) Z (TL.run ab [2] Z Z (TL.nil (X.back (m':=m54) [0,0,0,0,0] (by omega) ⟨y49,k50+1,Z,Z,h⟩ (by rfl) (by rfl)))))
        ·refine TL.nil (X.seq (Ap Z (CO c58) ?_))
         obtain rfl:=CP h
         replace h:=hO53
         clear hO53
         try dsimp only at h
         refine T.exit (Au (Au (AS (Az (X.seq (T.region Z ?_))))))
         replace h:=ak h
         obtain⟨c94,h⟩:=h
         exact TL.run ab [0] Z Z (TL.q Z .u (Ex.add Z Z c94) Z (TL.run ab [2] Z Z (TL.nil (X.back (m':=m24) [2,2,2] (by omega) ⟨y49,k20+1,Z,Z,h⟩ (by rfl) (by rfl)))))
    ·refine TL.nil (X.seq (Ap Z (CO c28) ?_))
     obtain rfl:=CP h
     replace h:=hO23
     clear hO23
     try dsimp only at h
     refine T.exit (Au (Au (AS (X.seq (T.seq (T.region Z (TL.run ab [0] Z Z ?_)))))))
     obtain rfl:=CP h
     exact TL.nil (X.seq (T.ret (Ak [2] Ft (Aj Z) ⟨Z,Z,Z⟩ (by rfl) (.inl Z))))
def dm (x159:aV) (k173:Nat):Nat→List UInt8→Nat→Option (List UInt8×Nat)
 | 0,_,_=>none
 | m241+1,y236,k237=>(x159.Cj[k173]?).bind fun x245=>if (k237:Int)<(x245.Ct.length:Int) then ((x245.Ct[k237]?).bind fun x252=>(gp x252).bind fun x258=>if y236.length+x258.length≤9223372036854775807 then (if -9223372036854775808≤((k237:Int)+1)∧((k237:Int)+1)≤9223372036854775807 then (dm x159 k173 m241 (y236++x258) (k237+1)) else none) else none) else some (y236,k237)
def dn (x159:aV):Nat→List UInt8→Nat→Option (List UInt8×Nat)
 | 0,_,_=>none
 | m177+1,y172,k173=>if (k173:Int)<(x159.Cj.length:Int) then (((dm x159 k173 (((x159.Cj[k173]?).map (fun x236=>((x236.Ct.length:Int)).toNat+1)).getD 0) [] 0).bind fun (y274,k275)=>(x159.Cj[k173]?).bind fun x276=>(eX x276.CD 4).bind fun x282=>if y172.length+x282.length≤9223372036854775807 then ((iS (⟨false,y274⟩:Bl) 4).bind fun x285=>if (y172++x282).length+x285.length≤9223372036854775807 then (some ((y172++x282)++x285)) else none) else none).bind fun y234=>if -9223372036854775808≤((k173:Int)+1)∧((k173:Int)+1)≤9223372036854775807 then (dn x159 m177 y234 (k173+1)) else none) else some (y172,k173)
def dp (a0:aG):Nat→List UInt8→Nat→Option (List UInt8×Nat)
 | 0,_,_=>none
 | m20+1,y15,k16=>if (k16:Int)<(a0.Cm.length:Int) then (((a0.Cm[k16]?).bind fun x159=>(iS (⟨false,x159.Cx⟩:Bl) 2).bind fun x166=>if y15.length+x166.length≤9223372036854775807 then ((eX (x159.Cj.length:Int) 4).bind fun x169=>if (y15++x166).length+x169.length≤9223372036854775807 then ((dn x159 (((x159.Cj.length:Int)).toNat+1) ((y15++x166)++x169) 0).bind fun (y289,k290)=>some y289) else none) else none).bind fun y157=>if -9223372036854775808≤((k16:Int)+1)∧((k16:Int)+1)≤9223372036854775807 then (dp a0 m20 y157 (k16+1)) else none) else some (y15,k16)
def ig (a0:aG):Option (List UInt8):=(iS a0.CA 2).bind fun x4=>(eX a0.CG 2).bind fun x6=>if x4.length+x6.length≤9223372036854775807 then ((eX a0.Cz 4).bind fun x9=>if (x4++x6).length+x9.length≤9223372036854775807 then ((eX (a0.Cm.length:Int) 4).bind fun x12=>if ((x4++x6)++x9).length+x12.length≤9223372036854775807 then ((dp a0 (((a0.Cm.length:Int)).toNat+1) (((x4++x6)++x9)++x12) 0).bind fun (y292,k293)=>some y292) else none) else none) else none
theorem oB (a0:aG) (A1:Option Addr) (c2:Nat) (r:List UInt8) (h:ig a0=some r):ay Tryz.prog 25 #[.agg #[.bool a0.CA.null,jS a0.CA.data,jI a0.CG,jI a0.Cz,.slice A1 a0.Cm.length c2]] (RX.of (av 2 aR) [.slice A1 a0.Cm.length c2] a0.Cm) (aB) (fun v A' N=>v=jS r∧A'=aB∧N = []):=by
 refine aL Tryz.func25 Z Tryz.ntmps25 Z ?_
 intro F w hX
 unfold ig at h
 refine T.seq (T.region Z (TL.box Z .u Z Z (fun b3=>(TL.run ab [1] Z Z ?_))))
 refine TL.nil (X.seq (T.seq (AH (.q 0 (.q 1 (.q 3 (.q 4 (.q 7 (.q 8 (.q 11 (.q 12 (.q 13 (.e 2 (.e 5 (.q 6 (.e 9 (.q 10 (.e 14 (.q 15 (.q 16 .nil))))))))))))))))) [0,0] Z bq (NoP.seq aM) (by kernel_rfl) ?_)))
 refine TD.run ab [0] Z Z (TD.q Z .u (Av (us := [.bool a0.CA.null,jS a0.CA.data]) 0 Z Dw C7 Z Z Z) Z (TD.run ab [3] Z Z (TD.q Z .u (Ai 0 Z CV Z Z) Z (TD.run ab [7] Z Z (TD.q Z .u (Ai 0 Z CV Z Z) Z (TD.run ab [11] Z Z (TD.q Z .u (Ai 0 Z D2 Z Z) Z ?_)))))))
 refine TD.q Z .u (AA Z Dz) Z ?_
 obtain⟨x4,hx5,h⟩:=CM h
 refine AR Z .u (.fn Tryz.call67 Z) (jC a0.CA 2 _ hx5) (fun _ hs=>(RX.reads_triv _ _)) Z [0,0] (Z) ?_
 obtain⟨x6,hx7,h⟩:=CM h
 refine AR Z .u (.fn Tryz.call42 Z) (dv a0.CG 2 _ hx7) (fun _ hs=>(RX.reads_triv _ _)) Z [0,0] (Z) ?_
 replace h:=ak h
 obtain⟨c8,h⟩:=h
 refine TD.q Z .u (AM Z Z c8) Z ?_
 obtain⟨x9,hx10,h⟩:=CM h
 refine AR Z .u (.fn Tryz.call42 Z) (dv a0.Cz 4 _ hx10) (fun _ hs=>(RX.reads_triv _ _)) Z [0,0] (Z) ?_
 replace h:=ak h
 obtain⟨c11,h⟩:=h
 refine TD.q Z .u (AM Z Z c11) Z ?_
 obtain⟨x12,hx13,h⟩:=CM h
 refine AR Z .u (.fn Tryz.call42 Z) (dv (a0.Cm.length:Int) 4 _ hx13) (fun _ hs=>(RX.reads_triv _ _)) Z [0,0] (Z) ?_
 replace h:=ak h
 obtain⟨c14,h⟩:=h
 refine TD.q Z .u (AM Z Z c14) Z (TD.run ab [16] Z Z (TD.nil (X.seq (T.seq (T.seq (T.region Z (TL.run ab [0] Z Z (TL.nil (X.seq (T.block ?_))))))))))
 obtain⟨E17,hE18,hO19⟩:=CM h
 refine AV (fun m e Rs=> ∃ (y15:List UInt8) (k16:Nat),e = [(1,jP b3),(2,.string ⟨#[]⟩),(3,jS y15),(4,jI (k16:Int))]∧Rs = [aC b3 54 #[.bool a0.CA.null,jS a0.CA.data,jI a0.CG,jI a0.Cz,.slice A1 a0.Cm.length c2],aB]∧dp a0 m y15 k16=some E17) (((a0.Cm.length:Int)).toNat+1) [0,0] ⟨(((x4++x6)++x9)++x12),0,Z,Z,by exact hE18⟩ (by rfl) (by rfl) ?_
 rintro m20 _ _ ⟨y15,k16,rfl,rfl,hl22⟩
 clear hE18 h
 cases m20 with
 | zero =>
  rw[dp] at hl22
  cases hl22
 | succ m20 =>
  have h:=hl22
  clear hl22
  rw[dp] at h
  refine T.seq (T.seq (T.region Z (TL.run ab [0,1] Z Z (TL.q Z .u (Ai 0 Z D2 Z Z) Z (TL.q Z .u (AA Z Dz) Z (TL.run ab [4] Z Z ?_))))))
  rcases jF h with⟨c24,h⟩ | ⟨c24,h⟩
  ·refine TL.nil (X.seq (Am Z (CN c24) (T.skip (X.seq (T.seq ?_)))))
   obtain⟨y157,h,hk158⟩:=CM h
   refine Bg (fun e Rs=>e = [(1,jP b3),(2,.string ⟨#[]⟩),(3,jS y157),(4,jI (k16:Int))]∧Rs = [aC b3 54 #[.bool a0.CA.null,jS a0.CA.data,jI a0.CG,jI a0.Cz,.slice A1 a0.Cm.length c2],aB]) ?_ ?_
   ·clear hk158
    refine T.block (T.seq (T.region Z (TL.run ab [0] Z Z (TL.q Z .u (Ai 0 Z D2 Z Z) Z ?_))))
    obtain⟨x159,hx160,h⟩:=CM h
    obtain⟨gz161,oz161,rfl,z161cs,z161cl,z161cc,z161nf,z161r⟩:=AK (by decide) hX hx160
    obtain⟨z161S,z161r,z161rr⟩:=z161r
    obtain⟨A162,c163,rfl,z161s0⟩:=z161r
    have hX164:(RX.of (av 2 cF) [.slice A162 x159.Cj.length c163] x159.Cj).reads w F:=⟨z161S,z161s0,z161rr⟩
    refine TL.run ab [2] Z Z ?_
    refine TL.q Z .u (Aw (k:=k16) Z Z Z Dz DI (CU hx160).1) Z ?_
    refine TL.q Z .u (Bb (us := [jS x159.Cx,.slice A162 x159.Cj.length c163]) 0 Z EO DI z161nf z161cc Z Z Z) Z (TL.alloc Z .u Tryz.zeroValue126 Z (fun b165=>(Ay (cs':= #[jS x159.Cx,.slice A162 x159.Cj.length c163]) Z .u Z Z DI Z Z Z Z ?_)))
    refine TL.nil (X.seq (T.seq (AH (.q 0 (.q 1 (.q 2 (.q 3 (.q 6 (.q 7 (.q 8 (.e 4 (.q 5 (.e 9 (.q 10 (.q 11 .nil)))))))))))) [0,0,0] Z bq (NoP.seq (NoP.blk (NoP.seq (NoP.seq (NoP.seq (NoP.blk (NoP.seq aM))))))) (by kernel_rfl) ?_)))
    refine TD.run ab [0,1] Z Z (TD.q Z .u (Ai 0 Z Dp Z Z) Z ?_)
    refine TD.q Z .u (AD (cells:= #[.bool false,jS x159.Cx]) ic Z (by kernel_rfl)) Z ?_
    refine TD.run ab [6] Z Z (TD.q Z .u (Ai 0 Z DO Z Z) Z (TD.q Z .u (AA Z Do) Z ?_))
    obtain⟨x166,hx167,h⟩:=CM h
    refine AR Z .u (.fn Tryz.call67 Z) (jC (⟨false,x159.Cx⟩:Bl) 2 _ hx167) (fun _ hs=>(RX.reads_triv _ _)) Z [0,0,0] (Z) ?_
    replace h:=ak h
    obtain⟨c168,h⟩:=h
    refine TD.q Z .u (AM Z Z c168) Z ?_
    obtain⟨x169,hx170,h⟩:=CM h
    refine AR Z .u (.fn Tryz.call42 Z) (dv (x159.Cj.length:Int) 4 _ hx170) (fun _ hs=>(RX.reads_triv _ _)) Z [0,0,0] (Z) ?_
    replace h:=ak h
    obtain⟨c171,h⟩:=h
    refine TD.q Z .u (AM Z Z c171) Z (TD.run ab [11] Z Z (TD.nil (X.seq (T.seq (T.region Z (TL.run ab [0] Z Z (TL.nil (X.seq (T.block ?_)))))))))
    obtain⟨E174,hE175,hO176⟩:=CM h
    refine AV (fun m e Rs=> ∃ (y172:List UInt8) (k173:Nat),e = [(1,jP b3),(2,.string ⟨#[]⟩),(3,jS y172),(4,jI (k16:Int)),(5,jP b165),(6,jI (k173:Int))]∧Rs = [aC b165 126 #[jS x159.Cx,.slice A162 x159.Cj.length c163],aC b3 54 #[.bool a0.CA.null,jS a0.CA.data,jI a0.CG,jI a0.Cz,.slice (some ⟨gz161,oz161,none⟩) a0.Cm.length c2],aB]∧dn x159 m y172 k173=some E174) (((x159.Cj.length:Int)).toNat+1) [0,0,0] ⟨((y15++x166)++x169),0,Z,Z,by exact hE175⟩ (by rfl) (by rfl) ?_
    rintro m177 _ _ ⟨y172,k173,rfl,rfl,hl179⟩
    clear hE175 h
    cases m177 with
    | zero =>
     rw[dn] at hl179
     cases hl179
    | succ m177 =>
     have h:=hl179
     clear hl179
     rw[dn] at h
     refine T.seq (T.seq (T.region Z (TL.run ab [0,1] Z Z (TL.q Z .u (Ai 0 Z DO Z Z) Z (TL.q Z .u (AA Z Do) Z (TL.run ab [4] Z Z ?_))))))
     rcases jF h with⟨c181,h⟩ | ⟨c181,h⟩
     ·refine TL.nil (X.seq (Am Z (CN c181) (T.skip (X.seq (T.seq ?_)))))
      obtain⟨y234,h,hk235⟩:=CM h
      refine Bg (fun e Rs=>e = [(1,jP b3),(2,.string ⟨#[]⟩),(3,jS y234),(4,jI (k16:Int)),(5,jP b165),(6,jI (k173:Int))]∧Rs = [aC b165 126 #[jS x159.Cx,.slice A162 x159.Cj.length c163],aC b3 54 #[.bool a0.CA.null,jS a0.CA.data,jI a0.CG,jI a0.Cz,.slice (some ⟨gz161,oz161,none⟩) a0.Cm.length c2],aB]) ?_ ?_
      ·clear hk235
       refine T.block (T.seq (T.region Z (TL.run ab [0] Z Z (TL.nil (X.seq (T.seq (T.seq (T.region Z (TL.run ab [0] Z Z (TL.nil (X.seq (T.block ?_))))))))))))
       obtain⟨E238,hE239,hO240⟩:=CM h
       refine AV (fun m e Rs=> ∃ (y236:List UInt8) (k237:Nat),e = [(1,jP b3),(2,.string ⟨#[]⟩),(3,jS y172),(4,jI (k16:Int)),(5,jP b165),(6,jI (k173:Int)),(7,jS y236),(8,jI (k237:Int))]∧Rs = [aC b165 126 #[jS x159.Cx,.slice A162 x159.Cj.length c163],aC b3 54 #[.bool a0.CA.null,jS a0.CA.data,jI a0.CG,jI a0.Cz,.slice (some ⟨gz161,oz161,none⟩) a0.Cm.length c2],aB]∧dm x159 k173 m y236 k237=some E238) (((x159.Cj[k173]?).map (fun x236=>((x236.Ct.length:Int)).toNat+1)).getD 0) [0,0,0] ⟨[],0,Z,Z,by exact hE239⟩ (by rfl) (by rfl) ?_
       rintro m241 _ _ ⟨y236,k237,rfl,rfl,hl243⟩
       clear hE239 h
       cases m241 with
       | zero =>
        rw[dm] at hl243
        cases hl243
       | succ m241 =>
        have h:=hl243
        clear hl243
        rw[dm] at h
        refine T.seq (T.seq (T.region Z (TL.run ab [0,1] Z Z (TL.q Z .u (Ai 0 Z DO Z Z) Z ?_))))
        obtain⟨x245,hx246,h⟩:=CM h
        obtain⟨gz247,oz247,rfl,z247cs,z247cl,z247cc,z247nf,z247r⟩:=AK (by decide) hX164 hx246
        obtain⟨z247S,z247r,z247rr⟩:=z247r
        obtain⟨A248,c249,rfl,z247s0⟩:=z247r
        have hX250:(RX.of (av 12 bD) [.slice A248 x245.Ct.length c249] x245.Ct).reads w F:=⟨z247S,z247s0,z247rr⟩
        refine TL.run ab [3] Z Z ?_
        refine TL.q Z .u (Aw (k:=k173) Z Z Z Do Dn (CU hx246).1) Z ?_
        refine TL.run ab [5] Z Z (TL.q Z .u (AY 1 Z Ei z247nf z247cc Z Z) Z (TL.q Z .u (AA Z Dk) Z (TL.run ab [8] Z Z ?_)))
        rcases jF h with⟨c251,h⟩ | ⟨c251,h⟩
        ·refine TL.nil (X.seq (Am Z (CN c251) (T.skip (X.seq (T.seq (T.block (T.region Z (TL.run ab [0,1] Z Z (TL.q Z .u (Ai 0 Z DO Z Z) Z (TL.run ab [3] Z Z ?_))))))))))
         refine TL.q Z .u (Aw (k:=k173) Z Z Z Do Dn (CU hx246).1) Z ?_
         refine TL.run ab [5] Z Z (TL.q Z .u (AY 1 Z Ei z247nf z247cc Z Z) Z ?_)
         obtain⟨x252,hx253,h⟩:=CM h
         obtain⟨gz254,oz254,rfl,z254cs,z254cl,z254cc,z254nf,z254r⟩:=AK (by decide) hX250 hx253
         obtain⟨z254S,z254r,z254rr⟩:=z254r
         obtain⟨A255,c256,rfl,z254s0⟩:=z254r
         have hX257:(RX.of (av 7 aU) [.slice A255 x252.Ce.length c256] x252.Ce).reads w F:=⟨z254S,z254s0,z254rr⟩
         refine TL.run ab [7] Z Z ?_
         refine TL.q Z .u (Aw (k:=k237) Z Z Z Dk C3 (CU hx253).1) Z ?_
         refine TL.q Z .u (Bb (us := [jI x252.Cu,jI x252.Co,.bool x252.Cw,.bool x252.CE,.bool x252.Cq,jI x252.Cr,jI x252.Cl,jI x252.Cy,jI x252.Ci,jI x252.Cp,jI x252.Ch,.slice A255 x252.Ce.length c256]) 0 Z Df C3 z254nf z254cc Z Z Z) Z ?_
         obtain⟨x258,hx259,h⟩:=CM h
         refine Ax Z .u (.fn Tryz.call16 Z) (nr x252 _ _ _ hx259) (fun _ hs=>(AE hs hX257)) Z ?_
         replace h:=ak h
         obtain⟨c260,h⟩:=h
         refine TL.q Z .u (AM Z Z c260) Z (TL.run ab [12] Z Z (TL.nil (Az (X.seq (T.region Z ?_)))))
         replace h:=ak h
         obtain⟨c261,h⟩:=h
         exact TL.run ab [0] Z Z (TL.q Z .u (Ex.add Z Z c261) Z (TL.run ab [2] Z Z (TL.nil (X.back (m':=m241) [0,0,0] (by omega) ⟨(y236++x258),k237+1,Z,Z,h⟩ (by rfl) (by rfl)))))
        ·refine TL.nil (X.seq (Ap Z (CO c251) ?_))
         obtain rfl:=CP h
         replace h:=hO240
         clear hO240
         try dsimp only at h
         refine T.exit (Au (Au (AS (X.seq (T.region Z (TL.run ab [0,1] Z Z (TL.q Z .u (Ai 0 Z DO Z Z) Z ?_)))))))
         obtain⟨x262,hx263,h⟩:=CM h
         obtain⟨z264cs,z264cl,z264cc,z264nf,z264r⟩:=BN (by decide) hX164 hx263
         obtain⟨z264S,z264r,z264rr⟩:=z264r
         obtain⟨A265,c266,rfl,z264s0⟩:=z264r
         have hX267:(RX.of (av 12 bD) [.slice A265 x262.Ct.length c266] x262.Ct).reads w F:=⟨z264S,z264s0,z264rr⟩
         refine TL.run ab [3] Z Z ?_
         refine TL.q Z .u (Aw (k:=k173) Z Z Z Do Dn (CU hx263).1) Z ?_
         refine TL.run ab [5] Z Z (TL.q Z .u (AY 0 Z CV z264nf z264cc Z Z) Z ?_)
         obtain⟨x268,hx269,h⟩:=CM h
         refine Ax Z .u (.fn Tryz.call42 Z) (dv x262.CD 4 _ hx269) (fun _ hs=>(RX.reads_triv _ _)) Z ?_
         replace h:=ak h
         obtain⟨c270,h⟩:=h
         refine TL.q Z .u (AM Z Z c270) Z (TL.run ab [9] Z Z ?_)
         refine TL.q Z .u (AD (cells:= #[.bool false,jS y236]) ic Z (by kernel_rfl)) Z ?_
         obtain⟨x271,hx272,h⟩:=CM h
         refine Ax Z .u (.fn Tryz.call67 Z) (jC (⟨false,y236⟩:Bl) 4 _ hx272) (fun _ hs=>(RX.reads_triv _ _)) Z ?_
         replace h:=ak h
         obtain⟨c273,h⟩:=h
         refine TL.q Z .u (AM Z Z c273) Z (TL.run ab [13] Z Z ?_)
         cases h
         exact TL.nil (Az (AB [0,0,0] ⟨Z,Z⟩ (by rfl) (by rfl)))
      ·rintro _ _ ⟨rfl,rfl⟩
       clear h
       have h:=hk235
       clear hk235
       try dsimp only at h
       refine X.seq (T.region Z ?_)
       replace h:=ak h
       obtain⟨c288,h⟩:=h
       exact TL.run ab [0] Z Z (TL.q Z .u (Ex.add Z Z c288) Z (TL.run ab [2] Z Z (TL.nil (X.back (m':=m177) [0,0,0] (by omega) ⟨y234,k173+1,Z,Z,h⟩ (by rfl) (by rfl)))))
     ·refine TL.nil (X.seq (Ap Z (CO c181) ?_))
      obtain rfl:=CP h
      replace h:=hO176
      clear hO176
      try dsimp only at h
      cases h
      exact T.exit (Au (Au (AS (Az (AB [1,1] ⟨Z,Z⟩ (by rfl) (by rfl))))))
   ·rintro _ _ ⟨rfl,rfl⟩
    clear h
    have h:=hk158
    clear hk158
    try dsimp only at h
    refine X.seq (T.region Z ?_)
    replace h:=ak h
    obtain⟨c291,h⟩:=h
    exact TL.run ab [0] Z Z (TL.q Z .u (Ex.add Z Z c291) Z (TL.run ab [2] Z Z (TL.nil (X.back (m':=m20) [0,0] (by omega) ⟨y157,k16+1,Z,Z,h⟩ (by rfl) (by rfl)))))
  ·refine TL.nil (X.seq (Ap Z (CO c24) ?_))
   obtain rfl:=CP h
   replace h:=hO19
   clear hO19
   try dsimp only at h
   refine T.exit (Au (Au (AS (X.seq (T.seq (T.region Z (TL.run ab [0,1] Z Z ?_)))))))
   obtain rfl:=CP h
   exact TL.nil (X.seq (T.ret (Ak [1] Tryz.results25 (Aj Z) ⟨Z,Z,Z⟩ (by rfl) (.inl Z))))
end Go.Proofs.YtcoppaggpbfcmaaGreat.Sl
