/- produceWrites_holds: part 8. -/
import Derived.Test.YtcoppaggpbfcmaaGreatK7
set_option maxRecDepth 100000
set_option maxHeartbeats 4000000
set_option linter.defProp false
namespace Go.Proofs.YtcoppaggpbfcmaaGreat.Sl
open Go.RowKit
set_option linter.unusedVariables false
set_option linter.unusedSimpArgs false
def DG := @Tryz.runUnderlying124
def DR := @Tryz.runUnderlying52
def D0 := @Tryz.sizeOf126
def D1 := @Tryz.isAgg124
def El := @Tryz.isAgg52
def Eu := @Tryz.sizeOf127
def EC := @Tryz.runUnderlying54
def EV := @Tryz.runUnderlying126
def EW := @Tryz.results29
def Ff := @Tryz.results75
def Fi := @Tryz.isAgg126
def Fm := @Tryz.runUnderlying181
def Fw := @Tryz.results74
def Fx := @Tryz.results22
def Fy := @Tryz.results26
def oC:fh := [(27,3,3),(27,4,4),(35,0,0),(35,1,1),(54,0,0),(54,1,2),(54,2,3),(54,3,4),(119,0,0),(119,1,2),(119,2,3),(126,0,0),(126,1,1),(127,0,0),(127,1,1),(181,0,0),(181,1,12),(181,2,13),(189,1,1)]
theorem ab:(oC).OK Tryz.prog:=⟨FOK.mk Dp rfl DP rfl,FOK.mk Dp rfl DP rfl,FOK.mk DM rfl DP rfl,FOK.mk DM rfl DT rfl,FOK.mk EC rfl Dk rfl,FOK.mk EC rfl De rfl,FOK.mk EC rfl De rfl,FOK.mk EC rfl Tryz.sizeOf52 rfl,FOK.mk Eb rfl Dk rfl,FOK.mk Eb rfl De rfl,FOK.mk Eb rfl De rfl,FOK.mk EV rfl DT rfl,FOK.mk EV rfl Tryz.sizeOf124 rfl,FOK.mk Tryz.runUnderlying127 rfl De rfl,FOK.mk Tryz.runUnderlying127 rfl EN rfl,FOK.mk Fm rfl Di rfl,FOK.mk Fm rfl De rfl,FOK.mk Fm rfl De rfl,FOK.mk EU rfl Fv rfl,trivial⟩
theorem ea:Tryz.prog.follows .mixedOrders=true:=by kernel_rfl
theorem eY:dm Tryz.prog 2 35 [.bool,.string] true:=(dm.struct DB Dk rfl Tryz.underlying35 Tryz.stoodInHeld35 ⟨by decide,rfl,[.bool],[.string],false,rfl,(Bq Do DP Tryz.underlying4),⟨by decide,rfl,[.string],[],false,rfl,(Bq Dz DT Tryz.underlying9),rfl⟩⟩)
theorem iq:BOK Tryz.prog 35 #[.bool false,.string ⟨#[]⟩] [(0,1),(1,1)]:=BOK.mk Tryz.zeroValue35 DM (by intro w; simp)
theorem kQ:BOK Tryz.prog 189 #[.string ⟨#[]⟩,.slice none 0 0] [(0,1),(1,1)]:=BOK.mk Tryz.zeroValue189 EU (by intro w; simp)
theorem gf:SOK Tryz.prog 106 3 1 1 #[.int .i64 0]:=SOK.mk Dv De Tryz.zeroValue3 (by decide) (by kernel_rfl)
theorem kh:SOK Tryz.prog 142 189 0 2 #[]:=SOK.mk0 DU DZ
theorem ki:SOK Tryz.prog 142 189 1 2 #[.string ⟨#[]⟩,.slice none 0 0]:=SOK.mk DU DZ Tryz.zeroValue189 (by decide) (by kernel_rfl)
theorem iH:(Tryz.prog.info? 3).map (fun i=>(i.zero,i.size,i.bytes))=some (some (.int .i64 0),1,8):=by kernel_rfl
theorem kR:(Tryz.prog.info? 189).map (fun i=>(i.zero,i.size,i.bytes))=some (some (.agg #[.string ⟨#[]⟩,.slice none 0 0]),2,40):=by kernel_rfl
def cU (a0:ca):Nat→Nat→List Int→Option (Nat×List Int)
 | 0,_,_=>none
 | m13+1,k6,y7=>if (k6:Int)<(a0.CA.length:Int) then ((a0.CA[k6]?).bind fun x18=>if (y7.length+1)*8≤140737488355328 then (if -9223372036854775808≤((k6:Int)+1)∧((k6:Int)+1)≤9223372036854775807 then (cU a0 m13 (k6+1) (y7 ++ [x18.CX])) else none) else none) else some (k6,y7)
def ir (a0:ca):Option (Top):=(cU a0 (((a0.CA.length:Int)).toNat+1) 0 []).bind fun (k29,y30)=>some (⟨a0.CM,y30⟩:Top)
theorem oD (a0:ca) (A1:Option Addr) (c2:Nat) (r:Top) (h:ir a0=some r):aA Tryz.prog 127 #[.agg #[jS a0.CM,.slice A1 a0.CA.length c2]] (RX.of (ar 2 dt) [.slice A1 a0.CA.length c2] a0.CA) (aD) (fun v A' N=> ∃ (A33:Option Addr) (c34:Nat),v= .agg #[jS r.CM,.slice A33 r.CA.length c34]∧A'=aD∧N = [RdR (ar 1 fc) [.slice A33 r.CA.length c34] r.CA]):=by
 refine aM Tryz.func127 Z Tryz.ntmps127 Z ?_
 intro F w hX
 unfold ir at h
 refine T.seq (T.region Z (TL.box Z .u Z Z (fun b3=>(TL.alloc Z .u Tryz.zeroValue189 Z (fun b4=>(TL.nil (X.seq (T.seq (T.region Z (TL.run ab [0] Z Z (TL.q Z .u (AH 1 Z Dz Z Z) Z ?_)))))))))))
 refine TL.q Z .u (Bg (cells:= #[jS a0.CM,.slice none 0 0]) kQ Z (by kernel_rfl)) Z ?_
 refine TL.alloc Z .u Tryz.zeroValue189 Z (fun b5=>(A9 (cs':= #[jS a0.CM,.slice none 0 0]) Z .u Z Z DZ Z Z Z Z (TL.nil (X.seq (T.seq (T.seq (T.region Z (TL.run ab [0] Z Z (TL.nil (X.seq (T.block (BX 3 1 fc ?_))))))))))))
 obtain⟨E10,hE11,hO12⟩:=C5 h
 refine Bj (fun m e Rs=> ∃ (k6:Nat) (y7:List Int) (A8:Option Addr) (c9:Nat),e = [(1,jP b3),(2,jP b4),(3,jP b5),(4,jI (k6:Int))]∧Rs = [bp 3 1 fc (.slice A8 y7.length c9) y7,aC b5 189 #[jS a0.CM,.slice A8 y7.length c9],aC b4 189 #[.string ⟨#[]⟩,.slice none 0 0],aC b3 126 #[jS a0.CM,.slice A1 a0.CA.length c2],aD]∧cU a0 m k6 y7=some E10) (((a0.CA.length:Int)).toNat+1) [0,0,0,0,0] ⟨0,[],none,0,Z,Z,by exact hE11⟩ (by rfl) (by rfl) ?_
 rintro m13 _ _ ⟨k6,y7,A8,c9,rfl,rfl,hl15⟩
 clear hE11 h
 cases m13 with
 | zero =>
  rw[cU] at hl15
  cases hl15
 | succ m13 =>
  have h:=hl15
  clear hl15
  rw[cU] at h
  refine T.seq (T.seq (T.region Z (TL.run ab [0,1] Z Z (TL.q Z .u (AH 3 Z D1 Z Z) Z (TL.q Z .u (AW Z DG) Z (TL.run ab [4] Z Z ?_))))))
  rcases jF h with⟨c17,h⟩ | ⟨c17,h⟩
  ·refine TL.nil (X.seq (AN Z (C6 c17) ?_))
   obtain⟨x18,hx19,h⟩:=C5 h
   obtain⟨gz20,oz20,rfl,z20cs,z20cl,z20cc,z20nf,z20r⟩:=Bb (by decide) hX hx19
   obtain⟨z20S,z20r,z20rr⟩:=z20r
   obtain⟨A21,c22,rfl,z20s0⟩:=z20r
   have hX23:(RX.of (ar 12 bT) [.slice A21 x18.CG.length c22] x18.CG).reads w F:=⟨z20S,z20s0,z20rr⟩
   replace h:=an h
   obtain⟨c25,h⟩:=h
   refine T.skip (X.seq (T.seq (T.block ?_)))
   refine Cn (fun e Rs=> ∃ (b24:Nat) (A26:Option Addr) (c27:Nat),e = [(1,jP b3),(2,jP b4),(3,jP b5),(4,jI (k6:Int)),(8,jI (k6:Int)),(9,.pointer (some ⟨b3,1,none⟩)),(10,.slice (some ⟨gz20,oz20,none⟩) a0.CA.length c2),(11,jI (a0.CA.length:Int))]∧Rs = [bp 3 1 fc (.slice A26 (y7 ++ [x18.CX]).length c27) (y7 ++ [x18.CX]),aC b5 189 #[jS a0.CM,.slice A26 (y7 ++ [x18.CX]).length c27],aC b4 189 #[.string ⟨#[]⟩,.slice none 0 0],aC b3 126 #[jS a0.CM,.slice (some ⟨gz20,oz20,none⟩) a0.CA.length c2],aD]) ?_ ?_
   ·refine Bd (.q 0 (.q 2 (.q 3 (.q 4 (.q 5 (.q 6 (.q 7 (.br 1 (.e 8 (.e 9 (.q 10 (.e 11 .nil)))) (.e 8 (.e 1 (.e 9 (.q 10 (.e 11 .nil))))))))))))) [2,2,2] Z ea oZ (by kernel_rfl) ?_
    refine TD.run ab [0,2] Z Z (TD.q Z .u (AH 1 Z D1 Z Z) Z (TD.run ab [4] Z Z ?_))
    refine TD.q Z .u (AX (k:=k6) Z Z Z DG Eu (Da hx19).1) Z ?_
    refine TD.run ab [6] Z Z (TD.q Z .u (Bt 0 Z Dc z20nf z20cc Z Z) Z ?_)
    refine TD.br ?_ ?_
    ·refine Cj Z .u (AH 1 Z EE Z Z) Z [2,2,2] Z (BQ (cells:= #[jI x18.CX]) Z .u gf Z (by rfl) Z [3,3,3] (fun _=>Z) (fun b24=> ?_))
     refine TD.app1 0 Z .u (us := [jI x18.CX]) (u:=x18.CX) (l:=y7) (E:=fc) Tryz.underlying106 iH Z (by decide) Z Z Z Z Z Z (fun _ _=>Z) (by have hq:=c25; omega) (by have hq:=c25; omega) Z [2,2,2] (fun _ _=>Z) (fun A26 c27=> ?_)
     exact BF [0,0,0,0,0] Z (TD.run ab [10] Z Z (TD.st1 (cs':= #[jS a0.CM,.slice A26 (y7 ++ [x18.CX]).length c27]) Z .u Z Z Fv Z Z Z Z [2,2,2] (Z) (TD.nil (BR [0,0,0,0,0] ⟨b24,A26,c27,Z,Z⟩ (by rfl) (by rfl)))))
    ·refine BQ (cells:= #[jI x18.CX]) Z .u gf Z (by rfl) Z [3,3,3] (fun _=>Z) (fun b24=>(Cj Z .u (AH 2 Z EE Z Z) Z [3,3,3] Z ?_))
     refine TD.app1 0 Z .u (us := [jI x18.CX]) (u:=x18.CX) (l:=y7) (E:=fc) Tryz.underlying106 iH Z (by decide) Z Z Z Z Z Z (fun _ _=>Z) (by have hq:=c25; omega) (by have hq:=c25; omega) Z [2,2,2] (fun _ _=>Z) (fun A26 c27=> ?_)
     exact BF [0,0,0,0,0] Z (TD.run ab [10] Z Z (TD.st1 (cs':= #[jS a0.CM,.slice A26 (y7 ++ [x18.CX]).length c27]) Z .u Z Z Fv Z Z Z Z [2,2,2] (Z) (TD.nil (BR [0,0,0,0,0] ⟨b24,A26,c27,Z,Z⟩ (by rfl) (by rfl)))))
   ·rintro _ _ ⟨b24,A26,c27,rfl,rfl⟩
    refine AZ (X.seq (T.region Z ?_))
    replace h:=an h
    obtain⟨c28,h⟩:=h
    exact TL.run ab [0] Z Z (TL.q Z .u (Ex.add Z Z c28) Z (TL.run ab [2] Z Z (TL.nil (X.back (m':=m13) [0,0,0,0,0] (by omega) ⟨k6+1,(y7 ++ [x18.CX]),A26,c27,Z,Z,h⟩ (by rfl) (by rfl)))))
  ·refine TL.nil (X.seq (AS Z (C7 c17) ?_))
   obtain rfl:=C8 h
   replace h:=hO12
   clear hO12
   try dsimp only at h
   refine T.exit (AV (AV (Bh (X.seq (T.seq (T.region Z (TL.q Z .u (AY (us := [jS a0.CM,.slice A8 y7.length c9]) 1 Z Tryz.isAgg189 DZ Z Z Z) Z (Cu (cs':= #[jS a0.CM,.slice A8 y7.length c9]) Z .u Z Z DZ Z Z Z Z ?_))))))))
   obtain rfl:=C8 h
   exact TL.nil (X.seq (T.ret (X.shut (by decide) 0 Z (Bv [0,0,0,0,0] Z (AJ [4,0] Tryz.results127 (BG (us:= #[jS a0.CM,.slice A8 y7.length c9]) 2 Z Tryz.isAgg189 DZ Z Z) ⟨_,_,Z,Z,Z⟩ (by rfl) (.inl Z))))))
def dF (a0:List ca):Nat→Int→List Top→Nat→Option (Lp Int (Int×List Top×Nat))
 | 0,_,_,_=>none
 | m13+1,y5,y6,k9=>if (k9:Int)<(a0.length:Int) then ((a0[k9]?).bind fun x18=>if (x18.CA.length:Int)=0 then some (Lp.ret 10) else ((ir x18).bind fun x25=>if (y6.length+1)*40≤140737488355328 then ((jo (y6 ++ [x25])).bind fun x33=>if x33=true then (if -9223372036854775808≤((k9:Int)+1)∧((k9:Int)+1)≤9223372036854775807 then (dF a0 m13 y5 (y6 ++ [x25]) (k9+1)) else none) else some (Lp.ret 13)) else none)) else (some (Lp.go (y5,y6,k9)))
def gU (a0:List ca):Option (Int):=if (a0.length:Int)=0 then some 10 else ((dF a0 (((a0.length:Int)).toNat+1) 0 ([]:List Top) 0).bind fun e=>match e with | .ret r=>some r | .go (y37,y38,k41)=>some 0)
theorem pt (a0:List ca) (A1:Option Addr) (c2:Nat) (r:Int) (h:gU a0=some r):aA Tryz.prog 74 #[.slice A1 a0.length c2] (RX.of (ar 2 cW) [.slice A1 a0.length c2] a0) (aD) (fun v A' N=>v=jI r∧A'=aD∧N = []):=by
 refine aM Tryz.func74 Z Tryz.ntmps74 Z ?_
 intro F w hX
 unfold gU at h
 refine T.seq (T.region Z (TL.run ab [0] Z Z (TL.nil (X.seq (T.seq (T.seq (T.region Z (TL.run ab [0] Z Z (TL.q Z .u (AW Z DR) Z (TL.run ab [2] Z Z ?_))))))))))
 rcases jF h with⟨c3,h⟩ | ⟨c3,h⟩
 ·refine TL.nil (X.seq (AN Z (C6 c3) (T.seq (T.region Z (TL.run ab [0] Z Z ?_)))))
  obtain rfl:=C8 h
  exact TL.nil (X.seq (T.ret (AL (AJ [0] Fw (AK Z) ⟨Z,Z,Z⟩ (by rfl) (.inl Z)))))
 ·refine TL.nil (X.seq (AS Z (C7 c3) (T.skip (X.seq (T.seq (T.region Z (BT (cells:= #[]) Z .u kh Z (by rfl) Z (fun b4=>(Ct (us := []) (xs:=([]:List Top)) (E:=sI) (z:=2) Z (Nat.le_of_ble_eq_true Z) (fun _=>Z) (TL.run ab [1] Z Z (TL.nil (X.seq (T.seq (T.seq (T.region Z (TL.run ab [0] Z Z ?_))))))))))))))))
  refine TL.nil (X.seq (T.block ?_))
  obtain⟨E10,hE11,hO12⟩:=C5 h
  refine Bj (fun m e Rs=> ∃ (y5:Int) (y6:List Top) (A7:Option Addr) (c8:Nat) (k9:Nat),e = [(0,.slice A1 a0.length c2),(2,jI y5),(3,.slice A7 y6.length c8),(4,jI (k9:Int))]∧Rs = [bp 189 2 sI (.slice A7 y6.length c8) y6,aD]∧dF a0 m y5 y6 k9=some E10) (((a0.length:Int)).toNat+1) [0,0] ⟨0,([]:List Top),(some ⟨b4,0,none⟩),0,0,Z,Z,by exact hE11⟩ (by rfl) (by rfl) ?_
  rintro m13 _ _ ⟨y5,y6,A7,c8,k9,rfl,rfl,hl15⟩
  clear hE11 h
  cases m13 with
  | zero =>
   rw[dF] at hl15
   cases hl15
  | succ m13 =>
   have h:=hl15
   clear hl15
   rw[dF] at h
   refine T.seq (T.seq (T.region Z (TL.run ab [0,1] Z Z (TL.q Z .u (AW Z DR) Z (TL.run ab [3] Z Z ?_)))))
   rcases jF h with⟨c17,h⟩ | ⟨c17,h⟩
   ·refine TL.nil (X.seq (AN Z (C6 c17) (T.skip (X.seq (T.seq (T.block (T.seq (T.seq (T.region Z ?_)))))))))
    obtain⟨x18,hx19,h⟩:=C5 h
    obtain⟨gz20,oz20,rfl,z20cs,z20cl,z20cc,z20nf,z20r⟩:=Bb (by decide) hX hx19
    obtain⟨z20S,z20r,z20rr⟩:=z20r
    obtain⟨A21,c22,rfl,z20s0⟩:=z20r
    have hX23:(RX.of (ar 2 dt) [.slice A21 x18.CA.length c22] x18.CA).reads w F:=⟨z20S,z20s0,z20rr⟩
    refine TL.run ab [0,1] Z Z ?_
    refine TL.q Z .u (AX (k:=k9) Z Z Z DR D0 (Da hx19).1) Z ?_
    refine TL.run ab [3] Z Z (TL.q Z .u (Bt 1 Z D1 z20nf z20cc Z Z) Z (TL.q Z .u (AW Z DG) Z (TL.run ab [6] Z Z ?_)))
    rcases jF h with⟨c24,h⟩ | ⟨c24,h⟩
    ·refine TL.nil (X.seq (AN Z (C6 c24) (T.seq (T.region Z (TL.run ab [0] Z Z ?_)))))
     obtain rfl:=C8 h
     replace h:=hO12
     clear hO12
     try dsimp only at h
     obtain rfl:=C8 h
     exact TL.nil (X.seq (T.ret (AL (AU (AL (AL (AU (AL (AJ [1] Fw (AK Z) ⟨Z,Z,Z⟩ (by rfl) (.inl Z))))))))))
    ·refine TL.nil (X.seq (AS Z (C7 c24) (T.skip (X.seq (T.seq (T.region Z (TL.run ab [0,1,2] Z Z ?_)))))))
     refine TL.q Z .u (AX (k:=k9) Z Z Z DR D0 (Da hx19).1) Z ?_
     refine TL.q Z .u (Bn (us := [jS x18.CM,.slice A21 x18.CA.length c22]) 0 Z Fi D0 z20nf z20cc Z Z Z) Z ?_
     obtain⟨x25,hx28,h⟩:=C5 h
     refine B0 Z .u (.fn Tryz.call127 Z) (oD x18 _ _ _ hx28) (fun _ hs=>(Ba hs hX23)) Z ?_
     rintro _ _ _ ⟨A26,c27,rfl,rfl,rfl⟩
     refine Bp [0,0,0] Z (BT (cells:= #[jS x25.CM,.slice A26 x25.CA.length c27]) Z .u ki Z (by rfl) Z (fun b29=> ?_))
     replace h:=an h
     obtain⟨c30,h⟩:=h
     refine TL.app2 1 0 Z .u (us := [jS x25.CM,.slice A26 x25.CA.length c27]) (u:=x25) (l:=y6) (E:=sI) Tryz.underlying142 kR Z (by decide) Z Z Z Z Z Z Z (fun w G hG=>⟨_,_,Z,hG.1⟩) (by have hq:=c30; omega) (by have hq:=c30; omega) Z (fun A31 c32=> ?_)
     refine Bp [0,0] Z (TL.run ab [8] Z Z (TL.nil (X.seq (T.seq (T.region Z ?_)))))
     obtain⟨x33,hx34,h⟩:=C5 h
     refine TL.run ab [0] Z Z (Bc Z .u (.fn Tryz.call128 Z) (pq (y6 ++ [x25]) _ _ _ hx34) (fun _ hs=>(SrcE.res 0 hs Z (fun w G h=>bA (by decide) w G h))) Z (TL.run ab [2] Z Z ?_))
     rcases jF h with⟨c35,h⟩ | ⟨c35,h⟩
     ·refine TL.nil (X.seq (AS Z (ax c35) (T.skip (AZ (X.seq (T.region Z ?_))))))
      replace h:=an h
      obtain⟨c36,h⟩:=h
      exact TL.run ab [0] Z Z (TL.q Z .u (Ex.add Z Z c36) Z (TL.run ab [2] Z Z (TL.nil (X.back (m':=m13) [0,0] (by omega) ⟨y5,(y6 ++ [x25]),A31,c32,k9+1,Z,Z,h⟩ (by rfl) (by rfl)))))
     ·replace c35:=Dd c35
      refine TL.nil (X.seq (AN Z (aF c35) (T.seq (T.region Z (TL.run ab [0] Z Z ?_)))))
      obtain rfl:=C8 h
      replace h:=hO12
      clear hO12
      try dsimp only at h
      obtain rfl:=C8 h
      exact TL.nil (X.seq (T.ret (AU (AL (AL (AU (AL (AJ [1] Fw (AK Z) ⟨Z,Z,Z⟩ (by rfl) (.inl Z)))))))))
   ·refine TL.nil (X.seq (AS Z (C7 c17) ?_))
    obtain rfl:=C8 h
    replace h:=hO12
    clear hO12
    try dsimp only at h
    refine T.exit (AV (AV (Bh (X.seq (T.seq (T.region Z (TL.run ab [0] Z Z ?_)))))))
    obtain rfl:=C8 h
    exact TL.nil (X.seq (T.ret (AJ [1] Fw (AK Z) ⟨Z,Z,Z⟩ (by rfl) (.inl Z))))
def cF (a0:List Bat) (a1:Bool):Nat→Int→Nat→Option (Lp Int (Int×Nat))
 | 0,_,_=>none
 | m16+1,y11,k12=>if (k12:Int)<(a0.length:Int) then ((a0[k12]?).bind fun x21=>(fu x21).bind fun x27=>if x27=0 then (if x21.CL=true then some (Lp.ret 12) else (if (x21.C0 == a1)=true then (if -9223372036854775808≤((k12:Int)+1)∧((k12:Int)+1)≤9223372036854775807 then (cF a0 a1 m16 y11 (k12+1)) else none) else some (Lp.ret 8))) else some (Lp.ret x27)) else (some (Lp.go (y11,k12)))
def dG (a0:List Bat) (a1:Bool) (a2:Int):Option (Int):=(if (a0.length:Int)=0 then some true else (if a2=3 then (if (a0.length:Int)>1 then some true else some false) else some false)).bind fun y5=>if y5=true then some 10 else ((cF a0 a1 (((a0.length:Int)).toNat+1) 0 0).bind fun e=>match e with | .ret r=>some r | .go (y33,k34)=>some 0)
theorem jp (a0:List Bat) (A1:Option Addr) (c2:Nat) (a1:Bool) (a2:Int) (r:Int) (h:dG a0 a1 a2=some r):aA Tryz.prog 75 #[.slice A1 a0.length c2,.bool a1,jI a2] (RX.of (ar 12 bT) [.slice A1 a0.length c2] a0) (aD) (fun v A' N=>v=jI r∧A'=aD∧N = []):=by
 refine aM Tryz.func75 Z Tryz.ntmps75 Z ?_
 intro F w hX
 unfold dG at h
 refine T.seq (T.region Z (TL.run ab [0] Z Z (TL.nil (X.seq (T.seq (T.seq ?_))))))
 obtain⟨y5,h,hk6⟩:=C5 h
 refine BE (fun e Rs=>e = [(0,.slice A1 a0.length c2),(1,.bool a1),(6,jI 0),(20,.bool y5)]∧Rs = [aD]) ?_ ?_
 ·clear hk6
  refine T.region Z (TL.run ab [0] Z Z (TL.q Z .u (AW Z Dr) Z ?_))
  rcases jF h with⟨c7,h⟩ | ⟨c7,h⟩
  ·refine TL.run ab [2,3] Z Z ?_
   iterate 3 refine AM Z (.gn Z Z (C6 c7)) Z ?_
   iterate 3 refine AM Z (.gu Z Z) Z ?_
   refine AM Z (.gn Z Z (C6 c7)) Z (TL.q Z .u (AP Z (C6 c7) Z) Z ?_)
   cases h
   exact TL.nil (A5 [0] ⟨Z,Z⟩ (by rfl) (by rfl))
  ·refine TL.run ab [2,3] Z Z ?_
   iterate 3 refine TL.q Z (.g Z Z (C7 c7)) (AO ab Z) Z ?_
   rcases jF h with⟨c8,h⟩ | ⟨c8,h⟩
   ·refine TL.q Z (.g Z Z (C6 c8)) (AO ab Z) Z (TL.q Z (.g Z Z (C6 c8)) (AW Z Dr) Z (TL.q Z (.g Z Z (C6 c8)) (AO ab Z) Z (TL.q Z (.g Z Z (C7 c7)) (AP Z (C6 c8) Z) Z (TL.q Z .u (AR Z (C7 c7) Z) Z ?_))))
    rcases jF h with⟨c9,h⟩ | ⟨c9,h⟩
    ·cases h
     exact TL.nil (Bw (d:=20) (v':= .bool true) Z (congrArg Value.bool (C6 c9)) (A5 [0] ⟨Z,Z⟩ (by rfl) (by rfl)))
    ·cases h
     exact TL.nil (Bw (d:=20) (v':= .bool false) Z (congrArg Value.bool (C7 c9)) (A5 [0] ⟨Z,Z⟩ (by rfl) (by rfl)))
   ·refine AM Z (.gn Z Z (C7 c8)) Z ?_
    iterate 2 refine AM Z (.gn Z Z (C7 c8)) Z ?_
    refine TL.q Z (.g Z Z (C7 c7)) (AR Z (C7 c8) Z) Z (TL.q Z .u (AR Z (C7 c7) Z) Z ?_)
    cases h
    exact TL.nil (A5 [0] ⟨Z,Z⟩ (by rfl) (by rfl))
 ·rintro _ _ ⟨rfl,rfl⟩
  clear h
  have h:=hk6
  clear hk6
  try dsimp only at h
  rcases jF h with⟨c10,h⟩ | ⟨c10,h⟩
  ·refine X.seq (AN Z c10 (T.seq (T.region Z (TL.run ab [0] Z Z ?_))))
   obtain rfl:=C8 h
   exact TL.nil (X.seq (T.ret (AL (AJ [0] Ff (AK Z) ⟨Z,Z,Z⟩ (by rfl) (.inl Z)))))
  ·replace c10:=Dd c10
   refine X.seq (AS Z c10 (T.skip (X.seq (T.seq (T.seq (T.region Z (TL.run ab [0] Z Z (TL.nil (X.seq (T.block ?_))))))))))
   obtain⟨E13,hE14,hO15⟩:=C5 h
   refine Bj (fun m e Rs=> ∃ (y11:Int) (k12:Nat),e = [(0,.slice A1 a0.length c2),(1,.bool a1),(6,jI y11),(7,jI (k12:Int))]∧Rs = [aD]∧cF a0 a1 m y11 k12=some E13) (((a0.length:Int)).toNat+1) [0] ⟨0,0,Z,Z,by exact hE14⟩ (by rfl) (by rfl) ?_
   rintro m16 _ _ ⟨y11,k12,rfl,rfl,hl18⟩
   clear hE14 h
   cases m16 with
   | zero =>
    rw[cF] at hl18
    cases hl18
   | succ m16 =>
    have h:=hl18
    clear hl18
    rw[cF] at h
    refine T.seq (T.seq (T.region Z (TL.run ab [0,1] Z Z (TL.q Z .u (AW Z Dr) Z (TL.run ab [3] Z Z ?_)))))
    rcases jF h with⟨c20,h⟩ | ⟨c20,h⟩
    ·refine TL.nil (X.seq (AN Z (C6 c20) (T.skip (X.seq (T.seq (T.block (T.seq (T.region Z ?_))))))))
     obtain⟨x21,hx22,h⟩:=C5 h
     obtain⟨gz23,oz23,rfl,z23cs,z23cl,z23cc,z23nf,z23r⟩:=Bb (by decide) hX hx22
     obtain⟨z23S,z23r,z23rr⟩:=z23r
     obtain⟨A24,c25,rfl,z23s0⟩:=z23r
     have hX26:(RX.of (ar 7 aU) [.slice A24 x21.Cy.length c25] x21.Cy).reads w F:=⟨z23S,z23s0,z23rr⟩
     refine TL.run ab [0,1] Z Z ?_
     refine TL.q Z .u (AX (k:=k12) Z Z Z Dr Di (Da hx22).1) Z ?_
     refine TL.q Z .u (Bn (us := [jI x21.CP,jI x21.CI,.bool x21.CV,.bool x21.C0,.bool x21.CL,jI x21.CN,jI x21.CH,jI x21.CW,jI x21.CE,jI x21.CK,jI x21.CD,.slice A24 x21.Cy.length c25]) 0 Z Dx Di z23nf z23cc Z Z Z) Z ?_
     obtain⟨x27,hx28,h⟩:=C5 h
     refine Bc Z .u (.fn Tryz.call12 Z) (od x21 _ _ _ hx28) (fun _ hs=>(Ba hs hX26)) Z (TL.run ab [5] Z Z (TL.nil (X.seq (T.seq (T.seq (T.region Z (TL.run ab [0,1] Z Z ?_)))))))
     rcases jF h with⟨c29,h⟩ | ⟨c29,h⟩
     ·refine TL.nil (X.seq (AS Z (ax (C6 c29)) (T.skip (X.seq (T.seq (T.seq (T.region Z (TL.run ab [0,1] Z Z ?_))))))))
      refine TL.q Z .u (AX (k:=k12) Z Z Z Dr Di (Da hx22).1) Z ?_
      refine TL.run ab [3] Z Z (TL.q Z .u (Bt 4 Z Do z23nf z23cc Z Z) Z ?_)
      rcases jF h with⟨c30,h⟩ | ⟨c30,h⟩
      ·refine TL.nil (X.seq (AN Z c30 (T.seq (T.region Z (TL.run ab [0] Z Z ?_)))))
       obtain rfl:=C8 h
       replace h:=hO15
       clear hO15
       try dsimp only at h
       obtain rfl:=C8 h
       exact TL.nil (X.seq (T.ret (AL (AU (AL (AL (AU (AL (AJ [0] Ff (AK Z) ⟨Z,Z,Z⟩ (by rfl) (.inl Z))))))))))
      ·replace c30:=Dd c30
       refine TL.nil (X.seq (AS Z c30 (T.skip (X.seq (T.seq (T.region Z (TL.run ab [0,1] Z Z ?_)))))))
       refine TL.q Z .u (AX (k:=k12) Z Z Z Dr Di (Da hx22).1) Z ?_
       refine TL.run ab [3] Z Z (TL.q Z .u (Bt 3 Z Do z23nf z23cc Z Z) Z (TL.run ab [5] Z Z (TL.q Z .u (Ex.bNe Z Z Z Z EL) Z ?_)))
       rcases jF h with⟨c31,h⟩ | ⟨c31,h⟩
       ·refine TL.nil (X.seq (AS Z (ax c31) (T.skip (AZ (X.seq (T.region Z ?_))))))
        replace h:=an h
        obtain⟨c32,h⟩:=h
        exact TL.run ab [0] Z Z (TL.q Z .u (Ex.add Z Z c32) Z (TL.run ab [2] Z Z (TL.nil (X.back (m':=m16) [0] (by omega) ⟨y11,k12+1,Z,Z,h⟩ (by rfl) (by rfl)))))
       ·replace c31:=Dd c31
        refine TL.nil (X.seq (AN Z (aF c31) (T.seq (T.region Z (TL.run ab [0] Z Z ?_)))))
        obtain rfl:=C8 h
        replace h:=hO15
        clear hO15
        try dsimp only at h
        obtain rfl:=C8 h
        exact TL.nil (X.seq (T.ret (AU (AL (AL (AU (AL (AJ [0] Ff (AK Z) ⟨Z,Z,Z⟩ (by rfl) (.inl Z)))))))))
     ·refine TL.nil (X.seq (AN Z (aF (C7 c29)) (T.seq (T.region Z (TL.run ab [0,1] Z Z ?_)))))
      obtain rfl:=C8 h
      replace h:=hO15
      clear hO15
      try dsimp only at h
      obtain rfl:=C8 h
      exact TL.nil (X.seq (T.ret (AL (AU (AL (AL (AU (AL (AJ [0] Ff (AK Z) ⟨Z,Z,Z⟩ (by rfl) (.inl Z))))))))))
    ·refine TL.nil (X.seq (AS Z (C7 c20) ?_))
     obtain rfl:=C8 h
     replace h:=hO15
     clear hO15
     try dsimp only at h
     refine T.exit (AV (AV (Bh (X.seq (T.seq (T.region Z (TL.run ab [0] Z Z ?_)))))))
     obtain rfl:=C8 h
     exact TL.nil (X.seq (T.ret (AJ [0] Ff (AK Z) ⟨Z,Z,Z⟩ (by rfl) (.inl Z))))
def cx (a0:bg) (a1:Int) (k28:Nat):Nat→Int→Nat→Option (Lp Int (Int×Nat))
 | 0,_,_=>none
 | m42+1,y37,k38=>(a0.CC[k28]?).bind fun x46=>if (k38:Int)<(x46.CA.length:Int) then ((x46.CA[k38]?).bind fun x53=>if a0.CS.null=true then ((dG x53.CG false a1).bind fun x60=>if x60=0 then (if -9223372036854775808≤((k38:Int)+1)∧((k38:Int)+1)≤9223372036854775807 then (cx a0 a1 k28 m42 y37 (k38+1)) else none) else some (Lp.ret x60)) else ((dG x53.CG true a1).bind fun x64=>if x64=0 then (if -9223372036854775808≤((k38:Int)+1)∧((k38:Int)+1)≤9223372036854775807 then (cx a0 a1 k28 m42 y37 (k38+1)) else none) else some (Lp.ret x64))) else (some (Lp.go (y37,k38)))
def cy (a0:bg) (a1:Int):Nat→Int→Nat→Option (Lp Int (Int×Nat))
 | 0,_,_=>none
 | m32+1,y27,k28=>if (k28:Int)<(a0.CC.length:Int) then ((cx a0 a1 k28 (((a0.CC[k28]?).map (fun x37=>((x37.CA.length:Int)).toNat+1)).getD 0) y27 0).bind fun e=>match e with | .ret r=>some (Lp.ret r) | .go (y69,k70)=>(if -9223372036854775808≤((k28:Int)+1)∧((k28:Int)+1)≤9223372036854775807 then (cy a0 a1 m32 y69 (k28+1)) else none)) else (some (Lp.go (y27,k28)))
theorem oE (a0:bg) (a1:Int) (u1:Int) (u2:Nat):cy a0 a1 0 u1 u2=none:=rfl
theorem oF (a0:bg) (a1:Int) (m32:Nat) (y27:Int) (k28:Nat):cy a0 a1 (m32+1) y27 k28=(if (k28:Int)<(a0.CC.length:Int) then ((cx a0 a1 k28 (((a0.CC[k28]?).map (fun x37=>((x37.CA.length:Int)).toNat+1)).getD 0) y27 0).bind fun e=>match e with | .ret r=>some (Lp.ret r) | .go (y69,k70)=>(if -9223372036854775808≤((k28:Int)+1)∧((k28:Int)+1)≤9223372036854775807 then (cy a0 a1 m32 y69 (k28+1)) else none)) else (some (Lp.go (y27,k28)))):=rfl
def iu (a0:bg) (a1:Int):Option (Int):=(if a0.CS.null=true then (if a0.CS.data = [] then some false else some true) else (if (a0.CS.data.length:Int)<1 then some true else (if (a0.CS.data.length:Int)>32767 then some true else some false))).bind fun y7=>if y7=true then some 4 else ((if a0.CZ<(-1) then some true else (if a0.CZ>1 then some true else (if a0.CO<0 then some true else (if a0.CO>2147483647 then some true else some false)))).bind fun y17=>if y17=true then some 11 else ((gU a0.CC).bind fun x24=>if x24=0 then ((cy a0 a1 (((a0.CC.length:Int)).toNat+1) 0 0).bind fun e=>match e with | .ret r=>some r | .go (y72,k73)=>some 0) else some x24))
theorem oG (a0:bg) (A1:Option Addr) (c2:Nat) (a1:Int) (r:Int) (h:iu a0 a1=some r):aA Tryz.prog 29 #[.agg #[.bool a0.CS.null,jS a0.CS.data,jI a0.CZ,jI a0.CO,.slice A1 a0.CC.length c2],jI a1] (RX.of (ar 2 cW) [.slice A1 a0.CC.length c2] a0.CC) (aD) (fun v A' N=>v=jI r∧A'=aD∧N = []):=by
 refine aM Tryz.func29 Z Tryz.ntmps29 Z ?_
 intro F w hX
 unfold iu at h
 refine T.seq (T.region Z (TL.box Z .u Z Z (fun b3=>(TL.run ab [1] Z Z (TL.nil (X.seq (T.seq (T.seq ?_))))))))
 obtain⟨y7,h,hk8⟩:=C5 h
 refine BE (fun e Rs=>e = [(1,jI a1),(2,jP b3),(4,jI 0),(37,.bool y7)]∧Rs = [aC b3 54 #[.bool a0.CS.null,jS a0.CS.data,jI a0.CZ,jI a0.CO,.slice A1 a0.CC.length c2],aD]) ?_ ?_
 ·clear hk8
  refine T.region Z (TL.run ab [0,1] Z Z (TL.q Z .u (AH 0 Z Do Z Z) Z ?_))
  rcases jF h with⟨c9,h⟩ | ⟨c9,h⟩
  ·refine TL.run ab [3] Z Z ?_
   iterate 2 refine TL.q Z (.g Z Z c9) (AO ab Z) Z ?_
   refine TL.q Z (.g Z Z c9) (AH 0 Z Dz Z Z) Z (TL.q Z (.g Z Z c9) (Ex.sNe Z (m := []) Z) Z (TL.q Z .u (AP Z c9 Z) Z ?_))
   rcases jF h with⟨c10,h⟩ | ⟨c10,h⟩
   ·refine TL.run ab [9] Z Z ?_
    iterate 2 refine TL.q Z (.g Z Z (ax (C6 c10))) (AO ab Z) Z ?_
    refine TL.q Z (.g Z Z (ax (C6 c10))) (AH 0 Z Do Z Z) Z ?_
    iterate 2 refine TL.q Z (.g Z Z (ax (C6 c10))) (AO ab Z) Z ?_
    iterate 6 refine AM Z (.gn Z Z (ax c9)) Z ?_
    iterate 5 refine AM Z (.gu Z Z) Z ?_
    refine AM Z (.gn Z Z (ax c9)) Z (TL.q Z (.g Z Z (ax (C6 c10))) (AR Z (ax c9) Z) Z (TL.q Z .u (AR Z (ax (C6 c10)) Z) Z ?_))
    cases h
    exact TL.nil (A5 [0,0] ⟨Z,Z⟩ (by rfl) (by rfl))
   ·refine TL.run ab [9] Z Z ?_
    iterate 5 refine AM Z (.gn Z Z (aF (C7 c10))) Z ?_
    iterate 12 refine AM Z (.gu Z Z) Z ?_
    refine AM Z (.gn Z Z (aF (C7 c10))) Z (TL.q Z .u (AP Z (aF (C7 c10)) Z) Z ?_)
    cases h
    exact TL.nil (A5 [0,0] ⟨Z,Z⟩ (by rfl) (by rfl))
  ·replace c9:=Dd c9
   refine TL.run ab [3] Z Z ?_
   iterate 4 refine AM Z (.gn Z Z c9) Z ?_
   refine TL.q Z .u (AR Z c9 Z) Z (TL.run ab [9] Z Z ?_)
   iterate 2 refine TL.q Z (.g Z Z Z) (AO ab Z) Z ?_
   refine TL.q Z (.g Z Z Z) (AH 0 Z Do Z Z) Z ?_
   iterate 2 refine TL.q Z (.g Z Z Z) (AO ab Z) Z ?_
   iterate 2 refine TL.q Z (.g Z Z (aF c9)) (AO ab Z) Z ?_
   refine TL.q Z (.g Z Z (aF c9)) (AH 0 Z Dz Z Z) Z (TL.q Z (.g Z Z (aF c9)) (Br Z Dm) Z ?_)
   iterate 2 refine TL.q Z (.g Z Z (aF c9)) (AO ab Z) Z ?_
   rcases jF h with⟨c11,h⟩ | ⟨c11,h⟩
   ·refine AM Z (.gn Z Z (C6 c11)) Z ?_
    iterate 4 refine AM Z (.gn Z Z (C6 c11)) Z ?_
    refine TL.q Z (.g Z Z (aF c9)) (AP Z (C6 c11) Z) Z (TL.q Z (.g Z Z Z) (AP Z (aF c9) Z) Z (TL.q Z .u (AR Z Z Z) Z ?_))
    cases h
    exact TL.nil (A5 [0,0] ⟨Z,Z⟩ (by rfl) (by rfl))
   ·refine TL.q Z (.g Z Z (C7 c11)) (AO ab Z) Z (TL.q Z (.g Z Z (C7 c11)) (AO ab Z) Z (TL.q Z (.g Z Z (C7 c11)) (AH 0 Z Dz Z Z) Z (TL.q Z (.g Z Z (C7 c11)) (Br Z Dm) Z (TL.q Z (.g Z Z (C7 c11)) (AO ab Z) Z (TL.q Z (.g Z Z (aF c9)) (AR Z (C7 c11) Z) Z (TL.q Z (.g Z Z Z) (AP Z (aF c9) Z) Z (TL.q Z .u (AR Z Z Z) Z ?_)))))))
    rcases jF h with⟨c12,h⟩ | ⟨c12,h⟩
    ·cases h
     exact TL.nil (Bw (d:=37) (v':= .bool true) Z (congrArg Value.bool (C6 c12)) (A5 [0,0] ⟨Z,Z⟩ (by rfl) (by rfl)))
    ·cases h
     exact TL.nil (Bw (d:=37) (v':= .bool false) Z (congrArg Value.bool (C7 c12)) (A5 [0,0] ⟨Z,Z⟩ (by rfl) (by rfl)))
 ·rintro _ _ ⟨rfl,rfl⟩
  clear h
  have h:=hk8
  clear hk8
  try dsimp only at h
  rcases jF h with⟨c13,h⟩ | ⟨c13,h⟩
  ·refine X.seq (AN Z c13 (T.seq (T.region Z (TL.run ab [0] Z Z ?_))))
   obtain rfl:=C8 h
   exact TL.nil (X.seq (T.ret (AL (AJ [1] EW (AK Z) ⟨Z,Z,Z⟩ (by rfl) (.inl Z)))))
  ·replace c13:=Dd c13
   refine X.seq (AS Z c13 (T.skip (X.seq (T.seq (T.seq ?_)))))
   obtain⟨y17,h,hk18⟩:=C5 h
   refine BE (fun e Rs=>e = [(1,jI a1),(2,jP b3),(4,jI 0),(55,.bool y17)]∧Rs = [aC b3 54 #[.bool a0.CS.null,jS a0.CS.data,jI a0.CZ,jI a0.CO,.slice A1 a0.CC.length c2],aD]) ?_ ?_
   ·clear hk18
    refine T.region Z (TL.run ab [0] Z Z (TL.q Z .u (AH 0 Z Dc Z Z) Z ?_))
    rcases jF h with⟨c19,h⟩ | ⟨c19,h⟩
    ·refine TL.run ab [2,3] Z Z ?_
     iterate 3 refine AM Z (.gn Z Z (C6 c19)) Z ?_
     refine TL.q Z .u (AP Z (C6 c19) Z) Z (TL.run ab [8] Z Z ?_)
     iterate 3 refine AM Z (.gn Z Z Z) Z ?_
     refine TL.q Z .u (AP Z Z Z) Z (TL.run ab [13] Z Z ?_)
     iterate 3 refine AM Z (.gn Z Z Z) Z ?_
     refine TL.q Z .u (AP Z Z Z) Z ?_
     cases h
     exact TL.nil (A5 [0,0] ⟨Z,Z⟩ (by rfl) (by rfl))
    ·refine TL.run ab [2,3] Z Z (TL.q Z (.g Z Z (C7 c19)) (AO ab Z) Z (TL.q Z (.g Z Z (C7 c19)) (AH 0 Z Dc Z Z) Z (TL.q Z (.g Z Z (C7 c19)) (AO ab Z) Z (TL.q Z .u (AR Z (C7 c19) Z) Z ?_))))
     rcases jF h with⟨c20,h⟩ | ⟨c20,h⟩
     ·refine TL.run ab [8] Z Z ?_
      iterate 3 refine AM Z (.gn Z Z (C6 c20)) Z ?_
      refine TL.q Z .u (AP Z (C6 c20) Z) Z (TL.run ab [13] Z Z ?_)
      iterate 3 refine AM Z (.gn Z Z Z) Z ?_
      refine TL.q Z .u (AP Z Z Z) Z ?_
      cases h
      exact TL.nil (A5 [0,0] ⟨Z,Z⟩ (by rfl) (by rfl))
     ·refine TL.run ab [8] Z Z (TL.q Z (.g Z Z (C7 c20)) (AO ab Z) Z (TL.q Z (.g Z Z (C7 c20)) (AH 0 Z Dc Z Z) Z (TL.q Z (.g Z Z (C7 c20)) (AO ab Z) Z (TL.q Z .u (AR Z (C7 c20) Z) Z ?_))))
      rcases jF h with⟨c21,h⟩ | ⟨c21,h⟩
      ·refine TL.run ab [13] Z Z ?_
       iterate 3 refine AM Z (.gn Z Z (C6 c21)) Z ?_
       refine TL.q Z .u (AP Z (C6 c21) Z) Z ?_
       cases h
       exact TL.nil (A5 [0,0] ⟨Z,Z⟩ (by rfl) (by rfl))
      ·refine TL.run ab [13] Z Z (TL.q Z (.g Z Z (C7 c21)) (AO ab Z) Z (TL.q Z (.g Z Z (C7 c21)) (AH 0 Z Dc Z Z) Z (TL.q Z (.g Z Z (C7 c21)) (AO ab Z) Z (TL.q Z .u (AR Z (C7 c21) Z) Z ?_))))
       rcases jF h with⟨c22,h⟩ | ⟨c22,h⟩
       ·cases h
        exact TL.nil (Bw (d:=55) (v':= .bool true) Z (congrArg Value.bool (C6 c22)) (A5 [0,0] ⟨Z,Z⟩ (by rfl) (by rfl)))
       ·cases h
        exact TL.nil (Bw (d:=55) (v':= .bool false) Z (congrArg Value.bool (C7 c22)) (A5 [0,0] ⟨Z,Z⟩ (by rfl) (by rfl)))
   ·rintro _ _ ⟨rfl,rfl⟩
    clear h
    have h:=hk18
    clear hk18
    try dsimp only at h
    rcases jF h with⟨c23,h⟩ | ⟨c23,h⟩
    ·refine X.seq (AN Z c23 (T.seq (T.region Z (TL.run ab [0] Z Z ?_))))
     obtain rfl:=C8 h
     exact TL.nil (X.seq (T.ret (AL (AJ [1] EW (AK Z) ⟨Z,Z,Z⟩ (by rfl) (.inl Z)))))
    ·replace c23:=Dd c23
     refine X.seq (AS Z c23 (T.skip (X.seq (T.seq (T.region Z (TL.run ab [0] Z Z (TL.q Z .u (AH 0 Z El Z Z) Z ?_)))))))
     obtain⟨x24,hx25,h⟩:=C5 h
     refine Bc Z .u (.fn Tryz.call74 Z) (pt a0.CC _ _ _ hx25) (fun _ hs=>(Ba hs hX)) Z (TL.run ab [3] Z Z (TL.nil (X.seq (T.seq (T.seq (T.region Z (TL.run ab [0,1] Z Z ?_)))))))
     rcases jF h with⟨c26,h⟩ | ⟨c26,h⟩
     ·refine TL.nil (X.seq (AS Z (ax (C6 c26)) (T.skip (X.seq (T.seq (T.seq (T.region Z (TL.run ab [0] Z Z (TL.nil (X.seq (T.block ?_)))))))))))
      obtain⟨E29,hE30,hO31⟩:=C5 h
      refine Bj (fun m e Rs=> ∃ (y27:Int) (k28:Nat),e = [(1,jI a1),(2,jP b3),(4,jI y27),(6,jI (k28:Int))]∧Rs = [aC b3 54 #[.bool a0.CS.null,jS a0.CS.data,jI a0.CZ,jI a0.CO,.slice A1 a0.CC.length c2],aD]∧cy a0 a1 m y27 k28=some E29) (((a0.CC.length:Int)).toNat+1) [0,0] ⟨0,0,Z,Z,by exact hE30⟩ (by rfl) (by rfl) ?_
      rintro m32 _ _ ⟨y27,k28,rfl,rfl,hl34⟩
      clear hE30 h
      cases m32 with
      | zero =>
       rw[oE] at hl34
       cases hl34
      | succ m32 =>
       have h:=hl34
       clear hl34
       rw[oF] at h
       refine T.seq (T.seq (T.region Z (TL.run ab [0,1] Z Z (TL.q Z .u (AH 0 Z El Z Z) Z (TL.q Z .u (AW Z DR) Z (TL.run ab [4] Z Z ?_))))))
       rcases jF h with⟨c36,h⟩ | ⟨c36,h⟩
       ·refine TL.nil (X.seq (AN Z (C6 c36) (T.skip (X.seq (T.seq (T.block (T.seq (T.region Z (TL.run ab [0] Z Z (TL.nil (X.seq (T.block ?_))))))))))))
        obtain⟨E39,hE40,hO41⟩:=C5 h
        refine Bj (fun m e Rs=> ∃ (y37:Int) (k38:Nat),e = [(1,jI a1),(2,jP b3),(4,jI y37),(6,jI (k28:Int)),(7,jI (k38:Int))]∧Rs = [aC b3 54 #[.bool a0.CS.null,jS a0.CS.data,jI a0.CZ,jI a0.CO,.slice A1 a0.CC.length c2],aD]∧cx a0 a1 k28 m y37 k38=some E39) (((a0.CC[k28]?).map (fun x37=>((x37.CA.length:Int)).toNat+1)).getD 0) [0,0] ⟨y27,0,Z,Z,by exact hE40⟩ (by rfl) (by rfl) ?_
        rintro m42 _ _ ⟨y37,k38,rfl,rfl,hl44⟩
        clear hE40 h
        cases m42 with
        | zero =>
         rw[cx] at hl44
         cases hl44
        | succ m42 =>
         have h:=hl44
         clear hl44
         rw[cx] at h
         refine T.seq (T.seq (T.region Z (TL.run ab [0,1] Z Z (TL.q Z .u (AH 0 Z El Z Z) Z ?_))))
         obtain⟨x46,hx47,h⟩:=C5 h
         obtain⟨gz48,oz48,rfl,z48cs,z48cl,z48cc,z48nf,z48r⟩:=Bb (by decide) hX hx47
         obtain⟨z48S,z48r,z48rr⟩:=z48r
         obtain⟨A49,c50,rfl,z48s0⟩:=z48r
         have hX51:(RX.of (ar 2 dt) [.slice A49 x46.CA.length c50] x46.CA).reads w F:=⟨z48S,z48s0,z48rr⟩
         refine TL.run ab [3] Z Z ?_
         refine TL.q Z .u (AX (k:=k28) Z Z Z DR D0 (Da hx47).1) Z ?_
         refine TL.run ab [5] Z Z (TL.q Z .u (Bt 1 Z D1 z48nf z48cc Z Z) Z (TL.q Z .u (AW Z DG) Z (TL.run ab [8] Z Z ?_)))
         rcases jF h with⟨c52,h⟩ | ⟨c52,h⟩
         ·refine TL.nil (X.seq (AN Z (C6 c52) ?_))
          refine T.skip (X.seq (T.seq (T.block (T.seq (Bd (.q 0 (.q 1 (.q 2 (.q 3 (.q 4 (.q 5 (.q 6 (.q 7 (.q 8 (.q 9 (.q 10 (.q 11 (.q 12 (.q 13 (.q 14 (.e 15 (.q 16 .nil))))))))))))))))) [0,0] Z ea (NoP.seq (NoP.blk (NoP.seq (NoP.seq (NoP.blk (NoP.blk (NoP.seq (NoP.seq (NoP.blk (NoP.seq aP)))))))))) (by kernel_rfl) ?_)))))
          refine TD.run ab [0] Z Z (TD.q Z .u (AH 0 Z El Z Z) Z (TD.run ab [2] Z Z ?_))
          refine TD.q Z .u (AX (k:=k28) Z Z Z DR D0 (Da hx47).1) Z ?_
          refine TD.run ab [4] Z Z (TD.q Z .u (Bt 1 Z D1 z48nf z48cc Z Z) Z ?_)
          obtain⟨x53,hx54,h⟩:=C5 h
          obtain⟨gz55,oz55,rfl,z55cs,z55cl,z55cc,z55nf,z55r⟩:=Bb (by decide) hX51 hx54
          obtain⟨z55S,z55r,z55rr⟩:=z55r
          obtain⟨A56,c57,rfl,z55s0⟩:=z55r
          have hX58:(RX.of (ar 12 bT) [.slice A56 x53.CG.length c57] x53.CG).reads w F:=⟨z55S,z55s0,z55rr⟩
          refine TD.run ab [6] Z Z ?_
          refine TD.q Z .u (AX (k:=k38) Z Z Z DG Eu (Da hx54).1) Z ?_
          refine TD.run ab [8] Z Z (TD.q Z .u (Bt 1 Z Ea z55nf z55cc Z Z) Z (TD.run ab [10,11] Z Z (TD.q Z .u (AH 0 Z Do Z Z) Z ?_)))
          rcases jF h with⟨c59,h⟩ | ⟨c59,h⟩
          ·obtain⟨x60,hx61,h⟩:=C5 h
           refine TD.run ab [13,14] Z Z (TD.as (d:=93) (v':= .bool false) Z (congrArg Value.bool (ax c59)) (Bk Z .u (.fn Tryz.call75 Z) (jp x53.CG _ _ false a1 _ hx61) (fun _ hs=>(Ba hs hX58)) Z [0,0] (Z) (TD.run ab [16] Z Z (TD.nil (X.seq (T.seq (T.region Z (TL.run ab [0,1] Z Z ?_))))))))
           rcases jF h with⟨c62,h⟩ | ⟨c62,h⟩
           ·refine TL.nil (X.seq (AS Z (ax (C6 c62)) (T.skip (AZ (X.seq (T.region Z ?_))))))
            replace h:=an h
            obtain⟨c63,h⟩:=h
            exact TL.run ab [0] Z Z (TL.q Z .u (Ex.add Z Z c63) Z (TL.run ab [2] Z Z (TL.nil (X.back (m':=m42) [0,0] (by omega) ⟨y37,k38+1,Z,Z,h⟩ (by rfl) (by rfl)))))
           ·refine TL.nil (X.seq (AN Z (aF (C7 c62)) (T.seq (T.region Z (TL.run ab [0,1] Z Z ?_)))))
            obtain rfl:=C8 h
            replace h:=hO41
            clear hO41
            try dsimp only at h
            obtain rfl:=C8 h
            replace h:=hO31
            clear hO31
            try dsimp only at h
            obtain rfl:=C8 h
            exact TL.nil (X.seq (T.ret (AU (AL (AL (AU (AU (AL (AL (AU (AL (AJ [1] EW (AK Z) ⟨Z,Z,Z⟩ (by rfl) (.inl Z)))))))))))))
          ·replace c59:=Dd c59
           obtain⟨x64,hx65,h⟩:=C5 h
           refine TD.run ab [13,14] Z Z (TD.as (d:=93) (v':= .bool true) Z (congrArg Value.bool (aF c59)) (Bk Z .u (.fn Tryz.call75 Z) (jp x53.CG _ _ true a1 _ hx65) (fun _ hs=>(Ba hs hX58)) Z [0,0] (Z) (TD.run ab [16] Z Z (TD.nil (X.seq (T.seq (T.region Z (TL.run ab [0,1] Z Z ?_))))))))
           rcases jF h with⟨c66,h⟩ | ⟨c66,h⟩
           ·refine TL.nil (X.seq (AS Z (ax (C6 c66)) (T.skip (AZ (X.seq (T.region Z ?_))))))
            replace h:=an h
            obtain⟨c67,h⟩:=h
            exact TL.run ab [0] Z Z (TL.q Z .u (Ex.add Z Z c67) Z (TL.run ab [2] Z Z (TL.nil (X.back (m':=m42) [0,0] (by omega) ⟨y37,k38+1,Z,Z,h⟩ (by rfl) (by rfl)))))
           ·refine TL.nil (X.seq (AN Z (aF (C7 c66)) (T.seq (T.region Z (TL.run ab [0,1] Z Z ?_)))))
            obtain rfl:=C8 h
            replace h:=hO41
            clear hO41
            try dsimp only at h
            obtain rfl:=C8 h
            replace h:=hO31
            clear hO31
            try dsimp only at h
            obtain rfl:=C8 h
            exact TL.nil (X.seq (T.ret (AU (AL (AL (AU (AU (AL (AL (AU (AL (AJ [1] EW (AK Z) ⟨Z,Z,Z⟩ (by rfl) (.inl Z)))))))))))))
         ·refine TL.nil (X.seq (AS Z (C7 c52) ?_))
          obtain rfl:=C8 h
          replace h:=hO41
          clear hO41
          try dsimp only at h
          refine T.exit (AV (AV (Bh (AZ (X.seq (T.region Z ?_))))))
          replace h:=an h
          obtain⟨c68,h⟩:=h
          exact TL.run ab [0] Z Z (TL.q Z .u (Ex.add Z Z c68) Z (TL.run ab [2] Z Z (TL.nil (X.back (m':=m32) [0,0] (by omega) ⟨y37,k28+1,Z,Z,h⟩ (by rfl) (by rfl)))))
       ·refine TL.nil (X.seq (AS Z (C7 c36) ?_))
        obtain rfl:=C8 h
        replace h:=hO31
        clear hO31
        try dsimp only at h
        refine T.exit (AV (AV (Bh (X.seq (T.seq (T.region Z (TL.run ab [0] Z Z ?_)))))))
        obtain rfl:=C8 h
        exact TL.nil (X.seq (T.ret (AJ [1] EW (AK Z) ⟨Z,Z,Z⟩ (by rfl) (.inl Z))))
     ·refine TL.nil (X.seq (AN Z (aF (C7 c26)) (T.seq (T.region Z (TL.run ab [0,1] Z Z ?_)))))
      obtain rfl:=C8 h
      exact TL.nil (X.seq (T.ret (AL (AJ [1] EW (AK Z) ⟨Z,Z,Z⟩ (by rfl) (.inl Z)))))
def dc (x29:ca) (x36:ca):Nat→Bool→Nat→Option (Lp Bool (Bool×Nat))
 | 0,_,_=>none
 | m54+1,y49,k50=>if (k50:Int)<(x29.CA.length:Int) then (((x29.CA[k50]?).bind fun x76=>(x36.CA[k50]?).bind fun x82=>if x76.CX=x82.CX then ((gM x76.CG x82.CG).bind fun x89=>if x89=true then some false else some true) else some true).bind fun y74=>if y74=true then some (Lp.ret false) else (if -9223372036854775808≤((k50:Int)+1)∧((k50:Int)+1)≤9223372036854775807 then (dc x29 x36 m54 y49 (k50+1)) else none)) else (some (Lp.go (y49,k50)))
def de (a0:bg) (a1:bg):Nat→Bool→Nat→Option (Lp Bool (Bool×Nat))
 | 0,_,_=>none
 | m24+1,y19,k20=>if (k20:Int)<(a0.CC.length:Int) then ((a0.CC[k20]?).bind fun x29=>(a1.CC[k20]?).bind fun x36=>(if x29.CM=x36.CM then (if (x29.CA.length:Int)=(x36.CA.length:Int) then some false else some true) else some true).bind fun y44=>if y44=true then some (Lp.ret false) else ((dc x29 x36 (((x29.CA.length:Int)).toNat+1) y19 0).bind fun e=>match e with | .ret r=>some (Lp.ret r) | .go (y95,k96)=>(if -9223372036854775808≤((k20:Int)+1)∧((k20:Int)+1)≤9223372036854775807 then (de a0 a1 m24 y95 (k20+1)) else none))) else (some (Lp.go (y19,k20)))
theorem pu (a0:bg) (a1:bg) (u1:Bool) (u2:Nat):de a0 a1 0 u1 u2=none:=rfl
theorem pv (a0:bg) (a1:bg) (m24:Nat) (y19:Bool) (k20:Nat):de a0 a1 (m24+1) y19 k20=(if (k20:Int)<(a0.CC.length:Int) then ((a0.CC[k20]?).bind fun x29=>(a1.CC[k20]?).bind fun x36=>(if x29.CM=x36.CM then (if (x29.CA.length:Int)=(x36.CA.length:Int) then some false else some true) else some true).bind fun y44=>if y44=true then some (Lp.ret false) else ((dc x29 x36 (((x29.CA.length:Int)).toNat+1) y19 0).bind fun e=>match e with | .ret r=>some (Lp.ret r) | .go (y95,k96)=>(if -9223372036854775808≤((k20:Int)+1)∧((k20:Int)+1)≤9223372036854775807 then (de a0 a1 m24 y95 (k20+1)) else none))) else (some (Lp.go (y19,k20)))):=rfl
def gV (a0:bg) (a1:bg):Option (Bool):=(if a0.CS.null=a1.CS.null then (if a0.CS.data=a1.CS.data then (if a0.CZ=a1.CZ then (if a0.CO=a1.CO then (if (a0.CC.length:Int)=(a1.CC.length:Int) then some false else some true) else some true) else some true) else some true) else some true).bind fun y11=>if y11=true then some false else ((de a0 a1 (((a0.CC.length:Int)).toNat+1) false 0).bind fun e=>match e with | .ret r=>some r | .go (y98,k99)=>some true)
theorem pw (a0:bg) (A1:Option Addr) (c2:Nat) (a1:bg) (A3:Option Addr) (c4:Nat) (r:Bool) (h:gV a0 a1=some r):aA Tryz.prog 22 #[.agg #[.bool a0.CS.null,jS a0.CS.data,jI a0.CZ,jI a0.CO,.slice A1 a0.CC.length c2],.agg #[.bool a1.CS.null,jS a1.CS.data,jI a1.CZ,jI a1.CO,.slice A3 a1.CC.length c4]] (RX.and (RX.of (ar 2 cW) [.slice A1 a0.CC.length c2] a0.CC) (RX.of (ar 2 cW) [.slice A3 a1.CC.length c4] a1.CC)) (aD) (fun v A' N=>v= .bool r∧A'=aD∧N = []):=by
 refine aM Tryz.func22 Z Tryz.ntmps22 Z ?_
 intro F w hX
 unfold gV at h
 refine T.seq (T.region Z (TL.box Z .u Z Z (fun b5=>(TL.box Z .u Z Z (fun b6=>(TL.run ab [2] Z Z (TL.nil (X.seq (T.seq (T.seq ?_))))))))))
 obtain⟨y11,h,hk12⟩:=C5 h
 refine BE (fun e Rs=>e = [(2,jP b5),(3,jP b6),(4,.bool false),(36,.bool y11)]∧Rs = [aC b6 54 #[.bool a1.CS.null,jS a1.CS.data,jI a1.CZ,jI a1.CO,.slice A3 a1.CC.length c4],aC b5 54 #[.bool a0.CS.null,jS a0.CS.data,jI a0.CZ,jI a0.CO,.slice A1 a0.CC.length c2],aD]) ?_ ?_
 ·clear hk12
  refine T.region Z (TL.run ab [0] Z Z (TL.q Z .u (AY (us := [.bool a0.CS.null,jS a0.CS.data]) 1 Z DB Dk Z Z Z) Z (TL.run ab [2] Z Z (TL.q Z .u (AY (us := [.bool a1.CS.null,jS a1.CS.data]) 0 Z DB Dk Z Z Z) Z ?_))))
  rcases jF h with⟨c13,h⟩ | ⟨c13,h⟩
  ·rcases jF h with⟨c14,h⟩ | ⟨c14,h⟩
   ·refine TL.q Z .u (BL (us := [.bool a0.CS.null,jS a0.CS.data]) (vs := [.bool a1.CS.null,jS a1.CS.data]) eY Z DQ Z Z Z Z (aO (fG c13) (aO (jw (l:=a0.CS.data) (m:=a1.CS.data) c14) Z))) Z (TL.run ab [5] Z Z (TL.q Z (.g Z Z Z) (AO ab Z) Z (TL.q Z (.g Z Z Z) (AH 1 Z Dc Z Z) Z (TL.q Z (.g Z Z Z) (AO ab Z) Z (TL.q Z (.g Z Z Z) (AH 0 Z Dc Z Z) Z (TL.q Z (.g Z Z Z) (AO ab Z) Z (TL.q Z .u (AR Z Z Z) Z ?_)))))))
    rcases jF h with⟨c15,h⟩ | ⟨c15,h⟩
    ·refine TL.run ab [12] Z Z (TL.q Z (.g Z Z (ax (C6 c15))) (AO ab Z) Z (TL.q Z (.g Z Z (ax (C6 c15))) (AH 1 Z Dc Z Z) Z (TL.q Z (.g Z Z (ax (C6 c15))) (AO ab Z) Z (TL.q Z (.g Z Z (ax (C6 c15))) (AH 0 Z Dc Z Z) Z (TL.q Z (.g Z Z (ax (C6 c15))) (AO ab Z) Z (TL.q Z .u (AR Z (ax (C6 c15)) Z) Z ?_))))))
     rcases jF h with⟨c16,h⟩ | ⟨c16,h⟩
     ·refine TL.run ab [19] Z Z (TL.q Z (.g Z Z (ax (C6 c16))) (AO ab Z) Z (TL.q Z (.g Z Z (ax (C6 c16))) (AH 1 Z El Z Z) Z (TL.q Z (.g Z Z (ax (C6 c16))) (AW Z DR) Z (TL.q Z (.g Z Z (ax (C6 c16))) (AO ab Z) Z (TL.q Z (.g Z Z (ax (C6 c16))) (AH 0 Z El Z Z) Z (TL.q Z (.g Z Z (ax (C6 c16))) (AW Z DR) Z (TL.q Z (.g Z Z (ax (C6 c16))) (AO ab Z) Z ?_)))))))
      refine TL.q Z .u (AR Z (ax (C6 c16)) Z) Z ?_
      rcases jF h with⟨c17,h⟩ | ⟨c17,h⟩
      ·cases h
       exact TL.nil (Bw (d:=36) (v':= .bool false) Z (congrArg Value.bool (ax (C6 c17))) (A5 [0,0,0] ⟨Z,Z⟩ (by rfl) (by rfl)))
      ·cases h
       exact TL.nil (Bw (d:=36) (v':= .bool true) Z (congrArg Value.bool (aF (C7 c17))) (A5 [0,0,0] ⟨Z,Z⟩ (by rfl) (by rfl)))
     ·refine TL.run ab [19] Z Z ?_
      iterate 7 refine AM Z (.gn Z Z (aF (C7 c16))) Z ?_
      refine TL.q Z .u (AP Z (aF (C7 c16)) Z) Z ?_
      cases h
      exact TL.nil (A5 [0,0,0] ⟨Z,Z⟩ (by rfl) (by rfl))
    ·refine TL.run ab [12] Z Z ?_
     iterate 5 refine AM Z (.gn Z Z (aF (C7 c15))) Z ?_
     refine TL.q Z .u (AP Z (aF (C7 c15)) Z) Z (TL.run ab [19] Z Z ?_)
     iterate 7 refine AM Z (.gn Z Z Z) Z ?_
     refine TL.q Z .u (AP Z Z Z) Z ?_
     cases h
     exact TL.nil (A5 [0,0,0] ⟨Z,Z⟩ (by rfl) (by rfl))
   ·refine TL.q Z .u (BL (us := [.bool a0.CS.null,jS a0.CS.data]) (vs := [.bool a1.CS.null,jS a1.CS.data]) eY Z DQ Z Z Z Z (aO (fG c13) (dW (jL (l:=a0.CS.data) (m:=a1.CS.data) c14)))) Z (TL.run ab [5] Z Z ?_)
    iterate 5 refine AM Z (.gn Z Z Z) Z ?_
    refine TL.q Z .u (AP Z Z Z) Z (TL.run ab [12] Z Z ?_)
    iterate 5 refine AM Z (.gn Z Z Z) Z ?_
    refine TL.q Z .u (AP Z Z Z) Z (TL.run ab [19] Z Z ?_)
    iterate 7 refine AM Z (.gn Z Z Z) Z ?_
    refine TL.q Z .u (AP Z Z Z) Z ?_
    cases h
    exact TL.nil (A5 [0,0,0] ⟨Z,Z⟩ (by rfl) (by rfl))
  ·refine TL.q Z .u (BL (us := [.bool a0.CS.null,jS a0.CS.data]) (vs := [.bool a1.CS.null,jS a1.CS.data]) eY Z DQ Z Z Z Z (dW (jc c13))) Z (TL.run ab [5] Z Z ?_)
   iterate 5 refine AM Z (.gn Z Z Z) Z ?_
   refine TL.q Z .u (AP Z Z Z) Z (TL.run ab [12] Z Z ?_)
   iterate 5 refine AM Z (.gn Z Z Z) Z ?_
   refine TL.q Z .u (AP Z Z Z) Z (TL.run ab [19] Z Z ?_)
   iterate 7 refine AM Z (.gn Z Z Z) Z ?_
   refine TL.q Z .u (AP Z Z Z) Z ?_
   cases h
   exact TL.nil (A5 [0,0,0] ⟨Z,Z⟩ (by rfl) (by rfl))
 ·rintro _ _ ⟨rfl,rfl⟩
  clear h
  have h:=hk12
  clear hk12
  try dsimp only at h
  rcases jF h with⟨c18,h⟩ | ⟨c18,h⟩
  ·refine X.seq (AN Z c18 (T.seq (T.region Z (TL.run ab [0] Z Z ?_))))
   obtain rfl:=C8 h
   exact TL.nil (X.seq (T.ret (AL (AJ [2] Fx (AK Z) ⟨Z,Z,Z⟩ (by rfl) (.inl Z)))))
  ·replace c18:=Dd c18
   refine X.seq (AS Z c18 (T.skip (X.seq (T.seq (T.seq (T.region Z (TL.run ab [0] Z Z (TL.nil (X.seq (T.block ?_))))))))))
   obtain⟨E21,hE22,hO23⟩:=C5 h
   refine Bj (fun m e Rs=> ∃ (y19:Bool) (k20:Nat),e = [(2,jP b5),(3,jP b6),(4,.bool y19),(5,jI (k20:Int))]∧Rs = [aC b6 54 #[.bool a1.CS.null,jS a1.CS.data,jI a1.CZ,jI a1.CO,.slice A3 a1.CC.length c4],aC b5 54 #[.bool a0.CS.null,jS a0.CS.data,jI a0.CZ,jI a0.CO,.slice A1 a0.CC.length c2],aD]∧de a0 a1 m y19 k20=some E21) (((a0.CC.length:Int)).toNat+1) [0,0,0] ⟨false,0,Z,Z,by exact hE22⟩ (by rfl) (by rfl) ?_
   rintro m24 _ _ ⟨y19,k20,rfl,rfl,hl26⟩
   clear hE22 h
   cases m24 with
   | zero =>
    rw[pu] at hl26
    cases hl26
   | succ m24 =>
    have h:=hl26
    clear hl26
    rw[pv] at h
    refine T.seq (T.seq (T.region Z (TL.run ab [0,1] Z Z (TL.q Z .u (AH 1 Z El Z Z) Z (TL.q Z .u (AW Z DR) Z (TL.run ab [4] Z Z ?_))))))
    rcases jF h with⟨c28,h⟩ | ⟨c28,h⟩
    ·refine TL.nil (X.seq (AN Z (C6 c28) (T.skip (X.seq (T.seq (T.block (T.seq (T.region Z (TL.run ab [0] Z Z (TL.q Z .u (AH 1 Z El Z Z) Z ?_))))))))))
     obtain⟨x29,hx30,h⟩:=C5 h
     obtain⟨gz31,oz31,rfl,z31cs,z31cl,z31cc,z31nf,z31r⟩:=Bb (by decide) (Bx hX) hx30
     obtain⟨z31S,z31r,z31rr⟩:=z31r
     obtain⟨A32,c33,rfl,z31s0⟩:=z31r
     have hX34:(RX.of (ar 2 dt) [.slice A32 x29.CA.length c33] x29.CA).reads w F:=⟨z31S,z31s0,z31rr⟩
     refine TL.run ab [2] Z Z ?_
     refine TL.q Z .u (AX (k:=k20) Z Z Z DR D0 (Da hx30).1) Z ?_
     refine TL.q Z .u (Bn (us := [jS x29.CM,.slice A32 x29.CA.length c33]) 0 Z Fi D0 z31nf z31cc Z Z Z) Z (TL.alloc Z .u Tryz.zeroValue126 Z (fun b35=>(A9 (cs':= #[jS x29.CM,.slice A32 x29.CA.length c33]) Z .u Z Z D0 Z Z Z Z (TL.nil (X.seq (T.seq (T.region Z (TL.run ab [0] Z Z (TL.q Z .u (AH 1 Z El Z Z) Z ?_)))))))))
     obtain⟨x36,hx37,h⟩:=C5 h
     obtain⟨gz38,oz38,rfl,z38cs,z38cl,z38cc,z38nf,z38r⟩:=Bb (by decide) (Bz hX) hx37
     obtain⟨z38S,z38r,z38rr⟩:=z38r
     obtain⟨A39,c40,rfl,z38s0⟩:=z38r
     have hX41:(RX.of (ar 2 dt) [.slice A39 x36.CA.length c40] x36.CA).reads w F:=⟨z38S,z38s0,z38rr⟩
     refine TL.run ab [2] Z Z ?_
     refine TL.q Z .u (AX (k:=k20) Z Z Z DR D0 (Da hx37).1) Z ?_
     refine TL.q Z .u (Bn (us := [jS x36.CM,.slice A39 x36.CA.length c40]) 0 Z Fi D0 z38nf z38cc Z Z Z) Z (TL.alloc Z .u Tryz.zeroValue126 Z (fun b42=>(A9 (cs':= #[jS x36.CM,.slice A39 x36.CA.length c40]) Z .u Z Z D0 Z Z Z Z (TL.nil (X.seq (T.seq (T.seq ?_)))))))
     obtain⟨y44,h,hk45⟩:=C5 h
     refine BE (fun e Rs=>e = [(2,jP b5),(3,jP b6),(4,.bool y19),(5,jI (k20:Int)),(6,jP b35),(7,jP b42),(67,.bool y44)]∧Rs = [aC b42 126 #[jS x36.CM,.slice A39 x36.CA.length c40],aC b35 126 #[jS x29.CM,.slice A32 x29.CA.length c33],aC b6 54 #[.bool a1.CS.null,jS a1.CS.data,jI a1.CZ,jI a1.CO,.slice (some ⟨gz38,oz38,none⟩) a1.CC.length c4],aC b5 54 #[.bool a0.CS.null,jS a0.CS.data,jI a0.CZ,jI a0.CO,.slice (some ⟨gz31,oz31,none⟩) a0.CC.length c2],aD]) ?_ ?_
     ·clear hk45
      refine T.region Z (TL.run ab [0] Z Z (TL.q Z .u (AH 1 Z Dz Z Z) Z (TL.run ab [2] Z Z (TL.q Z .u (AH 0 Z Dz Z Z) Z (TL.q Z .u (Ex.sNe Z Z) Z ?_)))))
      rcases jF h with⟨c46,h⟩ | ⟨c46,h⟩
      ·refine TL.run ab [5] Z Z (TL.q Z (.g Z Z (ax (C6 c46))) (AO ab Z) Z (TL.q Z (.g Z Z (ax (C6 c46))) (AH 1 Z D1 Z Z) Z (TL.q Z (.g Z Z (ax (C6 c46))) (AW Z DG) Z (TL.q Z (.g Z Z (ax (C6 c46))) (AO ab Z) Z (TL.q Z (.g Z Z (ax (C6 c46))) (AH 0 Z D1 Z Z) Z (TL.q Z (.g Z Z (ax (C6 c46))) (AW Z DG) Z (TL.q Z (.g Z Z (ax (C6 c46))) (AO ab Z) Z ?_)))))))
       refine TL.q Z .u (AR Z (ax (C6 c46)) Z) Z ?_
       rcases jF h with⟨c47,h⟩ | ⟨c47,h⟩
       ·cases h
        exact TL.nil (Bw (d:=67) (v':= .bool false) Z (congrArg Value.bool (ax (C6 c47))) (A5 [0,0,0,0,0] ⟨Z,Z⟩ (by rfl) (by rfl)))
       ·cases h
        exact TL.nil (Bw (d:=67) (v':= .bool true) Z (congrArg Value.bool (aF (C7 c47))) (A5 [0,0,0,0,0] ⟨Z,Z⟩ (by rfl) (by rfl)))
      ·refine TL.run ab [5] Z Z ?_
       iterate 7 refine AM Z (.gn Z Z (aF (C7 c46))) Z ?_
       refine TL.q Z .u (AP Z (aF (C7 c46)) Z) Z ?_
       cases h
       exact TL.nil (A5 [0,0,0,0,0] ⟨Z,Z⟩ (by rfl) (by rfl))
     ·rintro _ _ ⟨rfl,rfl⟩
      clear h
      have h:=hk45
      clear hk45
      try dsimp only at h
      rcases jF h with⟨c48,h⟩ | ⟨c48,h⟩
      ·refine X.seq (AN Z c48 (T.seq (T.region Z (TL.run ab [0] Z Z ?_))))
       obtain rfl:=C8 h
       replace h:=hO23
       clear hO23
       try dsimp only at h
       obtain rfl:=C8 h
       exact TL.nil (X.seq (T.ret (AL (AU (AL (AL (AU (AL (AJ [4] Fx (AK Z) ⟨Z,Z,Z⟩ (by rfl) (.inl Z))))))))))
      ·replace c48:=Dd c48
       refine X.seq (AS Z c48 (T.skip (X.seq (T.seq (T.region Z (TL.run ab [0] Z Z (TL.nil (X.seq (T.block ?_)))))))))
       obtain⟨E51,hE52,hO53⟩:=C5 h
       refine Bj (fun m e Rs=> ∃ (y49:Bool) (k50:Nat),e = [(2,jP b5),(3,jP b6),(4,.bool y49),(5,jI (k20:Int)),(6,jP b35),(7,jP b42),(8,jI (k50:Int))]∧Rs = [aC b42 126 #[jS x36.CM,.slice A39 x36.CA.length c40],aC b35 126 #[jS x29.CM,.slice A32 x29.CA.length c33],aC b6 54 #[.bool a1.CS.null,jS a1.CS.data,jI a1.CZ,jI a1.CO,.slice (some ⟨gz38,oz38,none⟩) a1.CC.length c4],aC b5 54 #[.bool a0.CS.null,jS a0.CS.data,jI a0.CZ,jI a0.CO,.slice (some ⟨gz31,oz31,none⟩) a0.CC.length c2],aD]∧dc x29 x36 m y49 k50=some E51) (((x29.CA.length:Int)).toNat+1) [0,0,0,0,0] ⟨y19,0,Z,Z,by exact hE52⟩ (by rfl) (by rfl) ?_
       rintro m54 _ _ ⟨y49,k50,rfl,rfl,hl56⟩
       clear hE52 h
       cases m54 with
       | zero =>
        rw[dc] at hl56
        cases hl56
       | succ m54 =>
        have h:=hl56
        clear hl56
        rw[dc] at h
        refine T.seq (T.seq (T.region Z (TL.run ab [0,1] Z Z (TL.q Z .u (AH 1 Z D1 Z Z) Z (TL.q Z .u (AW Z DG) Z (TL.run ab [4] Z Z ?_))))))
        rcases jF h with⟨c58,h⟩ | ⟨c58,h⟩
        ·refine TL.nil (X.seq (AN Z (C6 c58) (T.skip (X.seq (T.seq (T.block (T.seq ?_)))))))
         obtain⟨y74,h,hk75⟩:=C5 h
         refine BE (fun e Rs=>e = [(2,jP b5),(3,jP b6),(4,.bool y49),(5,jI (k20:Int)),(6,jP b35),(7,jP b42),(8,jI (k50:Int)),(103,.bool y74)]∧Rs = [aC b42 126 #[jS x36.CM,.slice A39 x36.CA.length c40],aC b35 126 #[jS x29.CM,.slice A32 x29.CA.length c33],aC b6 54 #[.bool a1.CS.null,jS a1.CS.data,jI a1.CZ,jI a1.CO,.slice (some ⟨gz38,oz38,none⟩) a1.CC.length c4],aC b5 54 #[.bool a0.CS.null,jS a0.CS.data,jI a0.CZ,jI a0.CO,.slice (some ⟨gz31,oz31,none⟩) a0.CC.length c2],aD]) ?_ ?_
         ·clear hk75
          refine Bd (.q 0 (.q 1 (.q 2 (.q 3 (.q 4 (.q 5 (.q 6 (.q 7 (.q 8 (.q 9 (.q 10 (.q 11 (.q 12 (.q 13 (.q 14 (.q 15 (.q 16 (.q 17 (.q 18 (.q 19 (.q 20 (.q 21 (.q 22 (.q 23 (.q 24 (.q 25 (.e 26 (.q 27 (.q 28 .nil))))))))))))))))))))))))))))) [0,0,0,0,0] Z ea (NoP.seq (NoP.seq (NoP.blk (NoP.seq (NoP.seq (NoP.blk (NoP.blk (NoP.seq (NoP.seq (NoP.blk (NoP.seq aP))))))))))) (by kernel_rfl) ?_
          refine TD.run ab [0] Z Z (TD.q Z .u (AH 1 Z D1 Z Z) Z ?_)
          obtain⟨x76,hx77,h⟩:=C5 h
          obtain⟨gz78,oz78,rfl,z78cs,z78cl,z78cc,z78nf,z78r⟩:=Bb (by decide) hX34 hx77
          obtain⟨z78S,z78r,z78rr⟩:=z78r
          obtain⟨A79,c80,rfl,z78s0⟩:=z78r
          have hX81:(RX.of (ar 12 bT) [.slice A79 x76.CG.length c80] x76.CG).reads w F:=⟨z78S,z78s0,z78rr⟩
          refine TD.run ab [2] Z Z ?_
          refine TD.q Z .u (AX (k:=k50) Z Z Z DG Eu (Da hx77).1) Z ?_
          refine TD.run ab [4] Z Z (TD.q Z .u (Bt 0 Z Dc z78nf z78cc Z Z) Z (TD.run ab [6] Z Z (TD.q Z .u (AH 0 Z D1 Z Z) Z ?_)))
          obtain⟨x82,hx83,h⟩:=C5 h
          obtain⟨gz84,oz84,rfl,z84cs,z84cl,z84cc,z84nf,z84r⟩:=Bb (by decide) hX41 hx83
          obtain⟨z84S,z84r,z84rr⟩:=z84r
          obtain⟨A85,c86,rfl,z84s0⟩:=z84r
          have hX87:(RX.of (ar 12 bT) [.slice A85 x82.CG.length c86] x82.CG).reads w F:=⟨z84S,z84s0,z84rr⟩
          refine TD.run ab [8] Z Z ?_
          refine TD.q Z .u (AX (k:=k50) Z Z Z DG Eu (Da hx83).1) Z ?_
          refine TD.run ab [10] Z Z (TD.q Z .u (Bt 0 Z Dc z84nf z84cc Z Z) Z ?_)
          rcases jF h with⟨c88,h⟩ | ⟨c88,h⟩
          ·refine TD.run ab [12,13] Z Z (TD.q Z (.g Z Z (ax (C6 c88))) (AO ab Z) Z (TD.q Z (.g Z Z (ax (C6 c88))) (AH 1 Z D1 Z Z) Z (TD.q Z (.g Z Z (ax (C6 c88))) (AO ab Z) Z ?_)))
           refine TD.q Z (.g Z Z (ax (C6 c88))) (AX (k:=k50) Z Z Z DG Eu (Da hx77).1) Z ?_
           refine TD.q Z (.g Z Z (ax (C6 c88))) (AO ab Z) Z (TD.q Z (.g Z Z (ax (C6 c88))) (Bt 1 Z Ea z78nf z78cc Z Z) Z (TD.q Z (.g Z Z (ax (C6 c88))) (AO ab Z) Z (TD.q Z (.g Z Z (ax (C6 c88))) (AH 0 Z D1 Z Z) Z (TD.q Z (.g Z Z (ax (C6 c88))) (AO ab Z) Z ?_))))
           refine TD.q Z (.g Z Z (ax (C6 c88))) (AX (k:=k50) Z Z Z DG Eu (Da hx83).1) Z ?_
           refine TD.q Z (.g Z Z (ax (C6 c88))) (AO ab Z) Z (TD.q Z (.g Z Z (ax (C6 c88))) (Bt 1 Z Ea z84nf z84cc Z Z) Z ?_)
           obtain⟨x89,hx90,h⟩:=C5 h
           refine Bk Z (.g Z Z (ax (C6 c88))) (.fn Tryz.call66 Z) (pj x76.CG _ _ x82.CG _ _ _ hx90) (fun _ hs=>(BJ (Ba hs hX81) (Ba hs hX87))) Z [0,0,0,0,0] (Z) (TD.q Z (.g Z Z (ax (C6 c88))) (AO ab Z) Z (TD.q Z .u (AR Z (ax (C6 c88)) Z) Z ?_))
           rcases jF h with⟨c91,h⟩ | ⟨c91,h⟩
           ·cases h
            exact TD.nil (Bw (d:=103) (v':= .bool false) Z (congrArg Value.bool (ax c91)) (A5 [0,0,0,0,0] ⟨Z,Z⟩ (by rfl) (by rfl)))
           ·replace c91:=Dd c91
            cases h
            exact TD.nil (Bw (d:=103) (v':= .bool true) Z (congrArg Value.bool (aF c91)) (A5 [0,0,0,0,0] ⟨Z,Z⟩ (by rfl) (by rfl)))
          ·refine TD.run ab [12,13] Z Z ?_
           iterate 12 refine BB Z (.gn Z Z (aF (C7 c88))) Z ?_
           refine B9 Z (.gn Z Z (aF (C7 c88))) Z [0,0,0,0,0] Z (BB Z (.gn Z Z (aF (C7 c88))) Z (TD.q Z .u (AP Z (aF (C7 c88)) Z) Z ?_))
           cases h
           exact TD.nil (A5 [0,0,0,0,0] ⟨Z,Z⟩ (by rfl) (by rfl))
         ·rintro _ _ ⟨rfl,rfl⟩
          clear h
          have h:=hk75
          clear hk75
          try dsimp only at h
          rcases jF h with⟨c92,h⟩ | ⟨c92,h⟩
          ·refine X.seq (AN Z c92 (T.seq (T.region Z (TL.run ab [0] Z Z ?_))))
           obtain rfl:=C8 h
           replace h:=hO53
           clear hO53
           try dsimp only at h
           obtain rfl:=C8 h
           replace h:=hO23
           clear hO23
           try dsimp only at h
           obtain rfl:=C8 h
           exact TL.nil (X.seq (T.ret (AU (AL (AL (AU (AU (AL (AL (AU (AL (AJ [4] Fx (AK Z) ⟨Z,Z,Z⟩ (by rfl) (.inl Z)))))))))))))
          ·replace c92:=Dd c92
           refine X.seq (AS Z c92 (T.skip (AZ (X.seq (T.region Z ?_)))))
           replace h:=an h
           obtain⟨c93,h⟩:=h
           exact TL.run ab [0] Z Z (TL.q Z .u (Ex.add Z Z c93) Z (TL.run ab [2] Z Z (TL.nil (X.back (m':=m54) [0,0,0,0,0] (by omega) ⟨y49,k50+1,Z,Z,h⟩ (by rfl) (by rfl)))))
        ·refine TL.nil (X.seq (AS Z (C7 c58) ?_))
         obtain rfl:=C8 h
         replace h:=hO53
         clear hO53
         try dsimp only at h
         refine T.exit (AV (AV (Bh (AZ (X.seq (T.region Z ?_))))))
         replace h:=an h
         obtain⟨c94,h⟩:=h
         exact TL.run ab [0] Z Z (TL.q Z .u (Ex.add Z Z c94) Z (TL.run ab [2] Z Z (TL.nil (X.back (m':=m24) [2,2,2] (by omega) ⟨y49,k20+1,Z,Z,h⟩ (by rfl) (by rfl)))))
    ·refine TL.nil (X.seq (AS Z (C7 c28) ?_))
     obtain rfl:=C8 h
     replace h:=hO23
     clear hO23
     try dsimp only at h
     refine T.exit (AV (AV (Bh (X.seq (T.seq (T.region Z (TL.run ab [0] Z Z ?_)))))))
     obtain rfl:=C8 h
     exact TL.nil (X.seq (T.ret (AJ [2] Fx (AK Z) ⟨Z,Z,Z⟩ (by rfl) (.inl Z))))
def dj (x159:ca) (k173:Nat):Nat→List UInt8→Nat→Option (List UInt8×Nat)
 | 0,_,_=>none
 | m241+1,y236,k237=>(x159.CA[k173]?).bind fun x245=>if (k237:Int)<(x245.CG.length:Int) then ((x245.CG[k237]?).bind fun x252=>(gw x252).bind fun x258=>if y236.length+x258.length≤9223372036854775807 then (if -9223372036854775808≤((k237:Int)+1)∧((k237:Int)+1)≤9223372036854775807 then (dj x159 k173 m241 (y236++x258) (k237+1)) else none) else none) else some (y236,k237)
def dk (x159:ca):Nat→List UInt8→Nat→Option (List UInt8×Nat)
 | 0,_,_=>none
 | m177+1,y172,k173=>if (k173:Int)<(x159.CA.length:Int) then (((dj x159 k173 (((x159.CA[k173]?).map (fun x236=>((x236.CG.length:Int)).toNat+1)).getD 0) [] 0).bind fun (y274,k275)=>(x159.CA[k173]?).bind fun x276=>(fA x276.CX 4).bind fun x282=>if y172.length+x282.length≤9223372036854775807 then ((ja (⟨false,y274⟩:Bl) 4).bind fun x285=>if (y172++x282).length+x285.length≤9223372036854775807 then (some ((y172++x282)++x285)) else none) else none).bind fun y234=>if -9223372036854775808≤((k173:Int)+1)∧((k173:Int)+1)≤9223372036854775807 then (dk x159 m177 y234 (k173+1)) else none) else some (y172,k173)
def dl (a0:bg):Nat→List UInt8→Nat→Option (List UInt8×Nat)
 | 0,_,_=>none
 | m20+1,y15,k16=>if (k16:Int)<(a0.CC.length:Int) then (((a0.CC[k16]?).bind fun x159=>(ja (⟨false,x159.CM⟩:Bl) 2).bind fun x166=>if y15.length+x166.length≤9223372036854775807 then ((fA (x159.CA.length:Int) 4).bind fun x169=>if (y15++x166).length+x169.length≤9223372036854775807 then ((dk x159 (((x159.CA.length:Int)).toNat+1) ((y15++x166)++x169) 0).bind fun (y289,k290)=>some y289) else none) else none).bind fun y157=>if -9223372036854775808≤((k16:Int)+1)∧((k16:Int)+1)≤9223372036854775807 then (dl a0 m20 y157 (k16+1)) else none) else some (y15,k16)
def gh (a0:bg):Option (List UInt8):=(ja a0.CS 2).bind fun x4=>(fA a0.CZ 2).bind fun x6=>if x4.length+x6.length≤9223372036854775807 then ((fA a0.CO 4).bind fun x9=>if (x4++x6).length+x9.length≤9223372036854775807 then ((fA (a0.CC.length:Int) 4).bind fun x12=>if ((x4++x6)++x9).length+x12.length≤9223372036854775807 then ((dl a0 (((a0.CC.length:Int)).toNat+1) (((x4++x6)++x9)++x12) 0).bind fun (y292,k293)=>some y292) else none) else none) else none
theorem oH (a0:bg) (A1:Option Addr) (c2:Nat) (r:List UInt8) (h:gh a0=some r):aA Tryz.prog 25 #[.agg #[.bool a0.CS.null,jS a0.CS.data,jI a0.CZ,jI a0.CO,.slice A1 a0.CC.length c2]] (RX.of (ar 2 cW) [.slice A1 a0.CC.length c2] a0.CC) (aD) (fun v A' N=>v=jS r∧A'=aD∧N = []):=by
 refine aM Tryz.func25 Z Tryz.ntmps25 Z ?_
 intro F w hX
 unfold gh at h
 refine T.seq (T.region Z (TL.box Z .u Z Z (fun b3=>(TL.run ab [1] Z Z ?_))))
 refine TL.nil (X.seq (T.seq (Bd (.q 0 (.q 1 (.q 3 (.q 4 (.q 7 (.q 8 (.q 11 (.q 12 (.q 13 (.e 2 (.e 5 (.q 6 (.e 9 (.q 10 (.e 14 (.q 15 (.q 16 .nil))))))))))))))))) [0,0] Z ea (NoP.seq aP) (by kernel_rfl) ?_)))
 refine TD.run ab [0] Z Z (TD.q Z .u (AY (us := [.bool a0.CS.null,jS a0.CS.data]) 0 Z DB Dk Z Z Z) Z (TD.run ab [3] Z Z (TD.q Z .u (AH 0 Z Dc Z Z) Z (TD.run ab [7] Z Z (TD.q Z .u (AH 0 Z Dc Z Z) Z (TD.run ab [11] Z Z (TD.q Z .u (AH 0 Z El Z Z) Z ?_)))))))
 refine TD.q Z .u (AW Z DR) Z ?_
 obtain⟨x4,hx5,h⟩:=C5 h
 refine Bk Z .u (.fn Tryz.call67 Z) (jK a0.CS 2 _ hx5) (fun _ hs=>(AQ _ _)) Z [0,0] (Z) ?_
 obtain⟨x6,hx7,h⟩:=C5 h
 refine Bk Z .u (.fn Tryz.call42 Z) (dV a0.CZ 2 _ hx7) (fun _ hs=>(AQ _ _)) Z [0,0] (Z) ?_
 replace h:=an h
 obtain⟨c8,h⟩:=h
 refine TD.q Z .u (Bf Z Z c8) Z ?_
 obtain⟨x9,hx10,h⟩:=C5 h
 refine Bk Z .u (.fn Tryz.call42 Z) (dV a0.CO 4 _ hx10) (fun _ hs=>(AQ _ _)) Z [0,0] (Z) ?_
 replace h:=an h
 obtain⟨c11,h⟩:=h
 refine TD.q Z .u (Bf Z Z c11) Z ?_
 obtain⟨x12,hx13,h⟩:=C5 h
 refine Bk Z .u (.fn Tryz.call42 Z) (dV (a0.CC.length:Int) 4 _ hx13) (fun _ hs=>(AQ _ _)) Z [0,0] (Z) ?_
 replace h:=an h
 obtain⟨c14,h⟩:=h
 refine TD.q Z .u (Bf Z Z c14) Z (TD.run ab [16] Z Z (TD.nil (X.seq (T.seq (T.seq (T.region Z (TL.run ab [0] Z Z (TL.nil (X.seq (T.block ?_))))))))))
 obtain⟨E17,hE18,hO19⟩:=C5 h
 refine Bj (fun m e Rs=> ∃ (y15:List UInt8) (k16:Nat),e = [(1,jP b3),(2,.string ⟨#[]⟩),(3,jS y15),(4,jI (k16:Int))]∧Rs = [aC b3 54 #[.bool a0.CS.null,jS a0.CS.data,jI a0.CZ,jI a0.CO,.slice A1 a0.CC.length c2],aD]∧dl a0 m y15 k16=some E17) (((a0.CC.length:Int)).toNat+1) [0,0] ⟨(((x4++x6)++x9)++x12),0,Z,Z,by exact hE18⟩ (by rfl) (by rfl) ?_
 rintro m20 _ _ ⟨y15,k16,rfl,rfl,hl22⟩
 clear hE18 h
 cases m20 with
 | zero =>
  rw[dl] at hl22
  cases hl22
 | succ m20 =>
  have h:=hl22
  clear hl22
  rw[dl] at h
  refine T.seq (T.seq (T.region Z (TL.run ab [0,1] Z Z (TL.q Z .u (AH 0 Z El Z Z) Z (TL.q Z .u (AW Z DR) Z (TL.run ab [4] Z Z ?_))))))
  rcases jF h with⟨c24,h⟩ | ⟨c24,h⟩
  ·refine TL.nil (X.seq (AN Z (C6 c24) (T.skip (X.seq (T.seq ?_)))))
   obtain⟨y157,h,hk158⟩:=C5 h
   refine BE (fun e Rs=>e = [(1,jP b3),(2,.string ⟨#[]⟩),(3,jS y157),(4,jI (k16:Int))]∧Rs = [aC b3 54 #[.bool a0.CS.null,jS a0.CS.data,jI a0.CZ,jI a0.CO,.slice A1 a0.CC.length c2],aD]) ?_ ?_
   ·clear hk158
    refine T.block (T.seq (T.region Z (TL.run ab [0] Z Z (TL.q Z .u (AH 0 Z El Z Z) Z ?_))))
    obtain⟨x159,hx160,h⟩:=C5 h
    obtain⟨gz161,oz161,rfl,z161cs,z161cl,z161cc,z161nf,z161r⟩:=Bb (by decide) hX hx160
    obtain⟨z161S,z161r,z161rr⟩:=z161r
    obtain⟨A162,c163,rfl,z161s0⟩:=z161r
    have hX164:(RX.of (ar 2 dt) [.slice A162 x159.CA.length c163] x159.CA).reads w F:=⟨z161S,z161s0,z161rr⟩
    refine TL.run ab [2] Z Z ?_
    refine TL.q Z .u (AX (k:=k16) Z Z Z DR D0 (Da hx160).1) Z ?_
    refine TL.q Z .u (Bn (us := [jS x159.CM,.slice A162 x159.CA.length c163]) 0 Z Fi D0 z161nf z161cc Z Z Z) Z (TL.alloc Z .u Tryz.zeroValue126 Z (fun b165=>(A9 (cs':= #[jS x159.CM,.slice A162 x159.CA.length c163]) Z .u Z Z D0 Z Z Z Z ?_)))
    refine TL.nil (X.seq (T.seq (Bd (.q 0 (.q 1 (.q 2 (.q 3 (.q 6 (.q 7 (.q 8 (.e 4 (.q 5 (.e 9 (.q 10 (.q 11 .nil)))))))))))) [0,0,0] Z ea (NoP.seq (NoP.blk (NoP.seq (NoP.seq (NoP.seq (NoP.blk (NoP.seq aP))))))) (by kernel_rfl) ?_)))
    refine TD.run ab [0,1] Z Z (TD.q Z .u (AH 0 Z Dz Z Z) Z ?_)
    refine TD.q Z .u (Bg (cells:= #[.bool false,jS x159.CM]) iq Z (by kernel_rfl)) Z ?_
    refine TD.run ab [6] Z Z (TD.q Z .u (AH 0 Z D1 Z Z) Z (TD.q Z .u (AW Z DG) Z ?_))
    obtain⟨x166,hx167,h⟩:=C5 h
    refine Bk Z .u (.fn Tryz.call67 Z) (jK (⟨false,x159.CM⟩:Bl) 2 _ hx167) (fun _ hs=>(AQ _ _)) Z [0,0,0] (Z) ?_
    replace h:=an h
    obtain⟨c168,h⟩:=h
    refine TD.q Z .u (Bf Z Z c168) Z ?_
    obtain⟨x169,hx170,h⟩:=C5 h
    refine Bk Z .u (.fn Tryz.call42 Z) (dV (x159.CA.length:Int) 4 _ hx170) (fun _ hs=>(AQ _ _)) Z [0,0,0] (Z) ?_
    replace h:=an h
    obtain⟨c171,h⟩:=h
    refine TD.q Z .u (Bf Z Z c171) Z (TD.run ab [11] Z Z (TD.nil (X.seq (T.seq (T.region Z (TL.run ab [0] Z Z (TL.nil (X.seq (T.block ?_)))))))))
    obtain⟨E174,hE175,hO176⟩:=C5 h
    refine Bj (fun m e Rs=> ∃ (y172:List UInt8) (k173:Nat),e = [(1,jP b3),(2,.string ⟨#[]⟩),(3,jS y172),(4,jI (k16:Int)),(5,jP b165),(6,jI (k173:Int))]∧Rs = [aC b165 126 #[jS x159.CM,.slice A162 x159.CA.length c163],aC b3 54 #[.bool a0.CS.null,jS a0.CS.data,jI a0.CZ,jI a0.CO,.slice (some ⟨gz161,oz161,none⟩) a0.CC.length c2],aD]∧dk x159 m y172 k173=some E174) (((x159.CA.length:Int)).toNat+1) [0,0,0] ⟨((y15++x166)++x169),0,Z,Z,by exact hE175⟩ (by rfl) (by rfl) ?_
    rintro m177 _ _ ⟨y172,k173,rfl,rfl,hl179⟩
    clear hE175 h
    cases m177 with
    | zero =>
     rw[dk] at hl179
     cases hl179
    | succ m177 =>
     have h:=hl179
     clear hl179
     rw[dk] at h
     refine T.seq (T.seq (T.region Z (TL.run ab [0,1] Z Z (TL.q Z .u (AH 0 Z D1 Z Z) Z (TL.q Z .u (AW Z DG) Z (TL.run ab [4] Z Z ?_))))))
     rcases jF h with⟨c181,h⟩ | ⟨c181,h⟩
     ·refine TL.nil (X.seq (AN Z (C6 c181) (T.skip (X.seq (T.seq ?_)))))
      obtain⟨y234,h,hk235⟩:=C5 h
      refine BE (fun e Rs=>e = [(1,jP b3),(2,.string ⟨#[]⟩),(3,jS y234),(4,jI (k16:Int)),(5,jP b165),(6,jI (k173:Int))]∧Rs = [aC b165 126 #[jS x159.CM,.slice A162 x159.CA.length c163],aC b3 54 #[.bool a0.CS.null,jS a0.CS.data,jI a0.CZ,jI a0.CO,.slice (some ⟨gz161,oz161,none⟩) a0.CC.length c2],aD]) ?_ ?_
      ·clear hk235
       refine T.block (T.seq (T.region Z (TL.run ab [0] Z Z (TL.nil (X.seq (T.seq (T.seq (T.region Z (TL.run ab [0] Z Z (TL.nil (X.seq (T.block ?_))))))))))))
       obtain⟨E238,hE239,hO240⟩:=C5 h
       refine Bj (fun m e Rs=> ∃ (y236:List UInt8) (k237:Nat),e = [(1,jP b3),(2,.string ⟨#[]⟩),(3,jS y172),(4,jI (k16:Int)),(5,jP b165),(6,jI (k173:Int)),(7,jS y236),(8,jI (k237:Int))]∧Rs = [aC b165 126 #[jS x159.CM,.slice A162 x159.CA.length c163],aC b3 54 #[.bool a0.CS.null,jS a0.CS.data,jI a0.CZ,jI a0.CO,.slice (some ⟨gz161,oz161,none⟩) a0.CC.length c2],aD]∧dj x159 k173 m y236 k237=some E238) (((x159.CA[k173]?).map (fun x236=>((x236.CG.length:Int)).toNat+1)).getD 0) [0,0,0] ⟨[],0,Z,Z,by exact hE239⟩ (by rfl) (by rfl) ?_
       rintro m241 _ _ ⟨y236,k237,rfl,rfl,hl243⟩
       clear hE239 h
       cases m241 with
       | zero =>
        rw[dj] at hl243
        cases hl243
       | succ m241 =>
        have h:=hl243
        clear hl243
        rw[dj] at h
        refine T.seq (T.seq (T.region Z (TL.run ab [0,1] Z Z (TL.q Z .u (AH 0 Z D1 Z Z) Z ?_))))
        obtain⟨x245,hx246,h⟩:=C5 h
        obtain⟨gz247,oz247,rfl,z247cs,z247cl,z247cc,z247nf,z247r⟩:=Bb (by decide) hX164 hx246
        obtain⟨z247S,z247r,z247rr⟩:=z247r
        obtain⟨A248,c249,rfl,z247s0⟩:=z247r
        have hX250:(RX.of (ar 12 bT) [.slice A248 x245.CG.length c249] x245.CG).reads w F:=⟨z247S,z247s0,z247rr⟩
        refine TL.run ab [3] Z Z ?_
        refine TL.q Z .u (AX (k:=k173) Z Z Z DG Eu (Da hx246).1) Z ?_
        refine TL.run ab [5] Z Z (TL.q Z .u (Bt 1 Z Ea z247nf z247cc Z Z) Z (TL.q Z .u (AW Z Dr) Z (TL.run ab [8] Z Z ?_)))
        rcases jF h with⟨c251,h⟩ | ⟨c251,h⟩
        ·refine TL.nil (X.seq (AN Z (C6 c251) (T.skip (X.seq (T.seq (T.block (T.region Z (TL.run ab [0,1] Z Z (TL.q Z .u (AH 0 Z D1 Z Z) Z (TL.run ab [3] Z Z ?_))))))))))
         refine TL.q Z .u (AX (k:=k173) Z Z Z DG Eu (Da hx246).1) Z ?_
         refine TL.run ab [5] Z Z (TL.q Z .u (Bt 1 Z Ea z247nf z247cc Z Z) Z ?_)
         obtain⟨x252,hx253,h⟩:=C5 h
         obtain⟨gz254,oz254,rfl,z254cs,z254cl,z254cc,z254nf,z254r⟩:=Bb (by decide) hX250 hx253
         obtain⟨z254S,z254r,z254rr⟩:=z254r
         obtain⟨A255,c256,rfl,z254s0⟩:=z254r
         have hX257:(RX.of (ar 7 aU) [.slice A255 x252.Cy.length c256] x252.Cy).reads w F:=⟨z254S,z254s0,z254rr⟩
         refine TL.run ab [7] Z Z ?_
         refine TL.q Z .u (AX (k:=k237) Z Z Z Dr Di (Da hx253).1) Z ?_
         refine TL.q Z .u (Bn (us := [jI x252.CP,jI x252.CI,.bool x252.CV,.bool x252.C0,.bool x252.CL,jI x252.CN,jI x252.CH,jI x252.CW,jI x252.CE,jI x252.CK,jI x252.CD,.slice A255 x252.Cy.length c256]) 0 Z Dx Di z254nf z254cc Z Z Z) Z ?_
         obtain⟨x258,hx259,h⟩:=C5 h
         refine Bc Z .u (.fn Tryz.call16 Z) (ns x252 _ _ _ hx259) (fun _ hs=>(Ba hs hX257)) Z ?_
         replace h:=an h
         obtain⟨c260,h⟩:=h
         refine TL.q Z .u (Bf Z Z c260) Z (TL.run ab [12] Z Z (TL.nil (AZ (X.seq (T.region Z ?_)))))
         replace h:=an h
         obtain⟨c261,h⟩:=h
         exact TL.run ab [0] Z Z (TL.q Z .u (Ex.add Z Z c261) Z (TL.run ab [2] Z Z (TL.nil (X.back (m':=m241) [0,0,0] (by omega) ⟨(y236++x258),k237+1,Z,Z,h⟩ (by rfl) (by rfl)))))
        ·refine TL.nil (X.seq (AS Z (C7 c251) ?_))
         obtain rfl:=C8 h
         replace h:=hO240
         clear hO240
         try dsimp only at h
         refine T.exit (AV (AV (Bh (X.seq (T.region Z (TL.run ab [0,1] Z Z (TL.q Z .u (AH 0 Z D1 Z Z) Z ?_)))))))
         obtain⟨x262,hx263,h⟩:=C5 h
         obtain⟨z264cs,z264cl,z264cc,z264nf,z264r⟩:=Cd (by decide) hX164 hx263
         obtain⟨z264S,z264r,z264rr⟩:=z264r
         obtain⟨A265,c266,rfl,z264s0⟩:=z264r
         have hX267:(RX.of (ar 12 bT) [.slice A265 x262.CG.length c266] x262.CG).reads w F:=⟨z264S,z264s0,z264rr⟩
         refine TL.run ab [3] Z Z ?_
         refine TL.q Z .u (AX (k:=k173) Z Z Z DG Eu (Da hx263).1) Z ?_
         refine TL.run ab [5] Z Z (TL.q Z .u (Bt 0 Z Dc z264nf z264cc Z Z) Z ?_)
         obtain⟨x268,hx269,h⟩:=C5 h
         refine Bc Z .u (.fn Tryz.call42 Z) (dV x262.CX 4 _ hx269) (fun _ hs=>(AQ _ _)) Z ?_
         replace h:=an h
         obtain⟨c270,h⟩:=h
         refine TL.q Z .u (Bf Z Z c270) Z (TL.run ab [9] Z Z ?_)
         refine TL.q Z .u (Bg (cells:= #[.bool false,jS y236]) iq Z (by kernel_rfl)) Z ?_
         obtain⟨x271,hx272,h⟩:=C5 h
         refine Bc Z .u (.fn Tryz.call67 Z) (jK (⟨false,y236⟩:Bl) 4 _ hx272) (fun _ hs=>(AQ _ _)) Z ?_
         replace h:=an h
         obtain⟨c273,h⟩:=h
         refine TL.q Z .u (Bf Z Z c273) Z (TL.run ab [13] Z Z ?_)
         cases h
         exact TL.nil (AZ (A5 [0,0,0] ⟨Z,Z⟩ (by rfl) (by rfl)))
      ·rintro _ _ ⟨rfl,rfl⟩
       clear h
       have h:=hk235
       clear hk235
       try dsimp only at h
       refine X.seq (T.region Z ?_)
       replace h:=an h
       obtain⟨c288,h⟩:=h
       exact TL.run ab [0] Z Z (TL.q Z .u (Ex.add Z Z c288) Z (TL.run ab [2] Z Z (TL.nil (X.back (m':=m177) [0,0,0] (by omega) ⟨y234,k173+1,Z,Z,h⟩ (by rfl) (by rfl)))))
     ·refine TL.nil (X.seq (AS Z (C7 c181) ?_))
      obtain rfl:=C8 h
      replace h:=hO176
      clear hO176
      try dsimp only at h
      cases h
      exact T.exit (AV (AV (Bh (AZ (A5 [1,1] ⟨Z,Z⟩ (by rfl) (by rfl))))))
   ·rintro _ _ ⟨rfl,rfl⟩
    clear h
    have h:=hk158
    clear hk158
    try dsimp only at h
    refine X.seq (T.region Z ?_)
    replace h:=an h
    obtain⟨c291,h⟩:=h
    exact TL.run ab [0] Z Z (TL.q Z .u (Ex.add Z Z c291) Z (TL.run ab [2] Z Z (TL.nil (X.back (m':=m20) [0,0] (by omega) ⟨y157,k16+1,Z,Z,h⟩ (by rfl) (by rfl)))))
  ·refine TL.nil (X.seq (AS Z (C7 c24) ?_))
   obtain rfl:=C8 h
   replace h:=hO19
   clear hO19
   try dsimp only at h
   refine T.exit (AV (AV (Bh (X.seq (T.seq (T.region Z (TL.run ab [0,1] Z Z ?_)))))))
   obtain rfl:=C8 h
   exact TL.nil (X.seq (T.ret (AJ [1] Tryz.results25 (AK Z) ⟨Z,Z,Z⟩ (by rfl) (.inl Z))))
def oI:fh := [(35,1,1),(50,0,0),(50,1,2),(50,2,3),(50,3,4),(54,3,4),(81,0,0),(81,1,1),(84,1,1),(126,1,1)]
theorem ah:(oI).OK Tryz.prog:=⟨FOK.mk DM rfl DT rfl,FOK.mk D8 rfl Dk rfl,FOK.mk D8 rfl De rfl,FOK.mk D8 rfl De rfl,FOK.mk D8 rfl Tryz.sizeOf48 rfl,FOK.mk EC rfl Tryz.sizeOf52 rfl,FOK.mk EA rfl DT rfl,FOK.mk EA rfl Fh rfl,FOK.mk EF rfl EN rfl,FOK.mk EV rfl Tryz.sizeOf124 rfl,trivial⟩
theorem jE:Tryz.prog.follows .mixedOrders=true:=by kernel_rfl
theorem lE:BOK Tryz.prog 27 #[.int .i64 0,.int .i64 0,.bool false,.bool false,.bool false,.int .i64 0,.int .i64 0,.int .i64 0,.int .i64 0,.int .i64 0,.int .i64 0,.slice none 0 0] [(0,1),(1,1),(2,1),(3,1),(4,1),(5,1),(6,1),(7,1),(8,1),(9,1),(10,1),(11,1)]:=BOK.mk Tryz.zeroValue27 Dp (by intro w; simp)
theorem lF:BOK Tryz.prog 35 #[.bool false,.string ⟨#[]⟩] [(0,1),(1,1)]:=BOK.mk Tryz.zeroValue35 DM (by intro w; simp)
theorem lG:BOK Tryz.prog 50 #[.bool false,.string ⟨#[]⟩,.int .i64 0,.int .i64 0,.slice none 0 0] [(0,2),(2,1),(3,1),(4,1)]:=BOK.mk Tryz.zeroValue50 D8 (by intro w; simp)
theorem lH:BOK Tryz.prog 54 #[.bool false,.string ⟨#[]⟩,.int .i64 0,.int .i64 0,.slice none 0 0] [(0,2),(2,1),(3,1),(4,1)]:=BOK.mk Tryz.zeroValue54 EC (by intro w; simp)
theorem lI:BOK Tryz.prog 81 #[.string ⟨#[]⟩,.slice none 0 0] [(0,1),(1,1)]:=BOK.mk Tryz.zeroValue81 EA (by intro w; simp)
theorem lJ:BOK Tryz.prog 84 #[.int .i64 0,.slice none 0 0] [(0,1),(1,1)]:=BOK.mk Tryz.zeroValue84 EF (by intro w; simp)
theorem kS:BOK Tryz.prog 126 #[.string ⟨#[]⟩,.slice none 0 0] [(0,1),(1,1)]:=BOK.mk Tryz.zeroValue126 EV (by intro w; simp)
theorem kC:SOK Tryz.prog 48 81 1 2 #[.string ⟨#[]⟩,.slice none 0 0]:=SOK.mk DC DL Tryz.zeroValue81 (by decide) (by kernel_rfl)
theorem kD:SOK Tryz.prog 52 126 1 2 #[.string ⟨#[]⟩,.slice none 0 0]:=SOK.mk DR D0 Tryz.zeroValue126 (by decide) (by kernel_rfl)
theorem kE:SOK Tryz.prog 79 84 1 2 #[.int .i64 0,.slice none 0 0]:=SOK.mk DD DF Tryz.zeroValue84 (by decide) (by kernel_rfl)
theorem kF:SOK Tryz.prog 82 27 1 12 #[.int .i64 0,.int .i64 0,.bool false,.bool false,.bool false,.int .i64 0,.int .i64 0,.int .i64 0,.int .i64 0,.int .i64 0,.int .i64 0,.slice none 0 0]:=SOK.mk Dr Di Tryz.zeroValue27 (by decide) (by kernel_rfl)
theorem kG:SOK Tryz.prog 82 27 2 12 #[.int .i64 0,.int .i64 0,.bool false,.bool false,.bool false,.int .i64 0,.int .i64 0,.int .i64 0,.int .i64 0,.int .i64 0,.int .i64 0,.slice none 0 0,.int .i64 0,.int .i64 0,.bool false,.bool false,.bool false,.int .i64 0,.int .i64 0,.int .i64 0,.int .i64 0,.int .i64 0,.int .i64 0,.slice none 0 0]:=SOK.mk Dr Di Tryz.zeroValue27 (by decide) (by kernel_rfl)
theorem kj:SOK Tryz.prog 124 127 1 2 #[.int .i64 0,.slice none 0 0]:=SOK.mk DG Eu Tryz.zeroValue127 (by decide) (by kernel_rfl)
theorem kT:(Tryz.prog.info? 126).map (fun i=>(i.zero,i.size,i.bytes))=some (some (.agg #[.string ⟨#[]⟩,.slice none 0 0]),2,40):=by kernel_rfl
theorem kU:(Tryz.prog.info? 127).map (fun i=>(i.zero,i.size,i.bytes))=some (some (.agg #[.int .i64 0,.slice none 0 0]),2,32):=by kernel_rfl
def gB  : Option (Bat):=some (⟨0,0,false,false,false,0,0,0,-1,-1,-1,[]⟩:Bat)
theorem gC  (r:Bat) (h:gB  = some r):aA Tryz.prog 55 #[] .triv (aD) (fun v A' N=> ∃ (A2:Option Addr) (c3:Nat),v= .agg #[jI r.CP,jI r.CI,.bool r.CV,.bool r.C0,.bool r.CL,jI r.CN,jI r.CH,jI r.CW,jI r.CE,jI r.CK,jI r.CD,.slice A2 r.Cy.length c3]∧A'=aD∧N = [RdR (ar 7 aU) [.slice A2 r.Cy.length c3] r.Cy]):=by
 refine aM Tryz.func55 Z Tryz.ntmps55 Z ?_
 intro F w hX
 unfold gB at h
 refine T.seq (T.region Z (TL.alloc Z .u Tryz.zeroValue27 Z (fun b1=>(TL.nil (X.seq (T.seq (T.region Z ?_)))))))
 refine TL.q Z .u (Bg (cells:= #[jI 0,jI 0,.bool false,.bool false,.bool false,jI 0,jI 0,jI 0,jI (-1),jI (-1),jI (-1),.slice none 0 0]) lE Z (by kernel_rfl)) Z ?_
 refine A9 (cs':= #[jI 0,jI 0,.bool false,.bool false,.bool false,jI 0,jI 0,jI 0,jI (-1),jI (-1),jI (-1),.slice none 0 0]) Z .u Z Z Di Z Z Z Z ?_
 obtain rfl:=C8 h
 exact TL.nil (X.seq (T.ret (BH 7 aU (AJ [2,0] Tryz.results55 (BG (us:= #[jI 0,jI 0,.bool false,.bool false,.bool false,jI 0,jI 0,jI 0,jI (-1),jI (-1),jI (-1),.slice none 0 0]) 1 Z Dx Di Z Z) ⟨_,_,Z,Z,Z⟩ (by rfl) (.inl Z)))))
def iM  : Option (Bool):=(gB).bind fun x1=>(bu ([],0) (⟨(⟨true,[]⟩:Bl),0,0,[(⟨[97],[(⟨0,[x1]⟩:ay)]⟩:au)]⟩:aq) 3).bind fun st10=>(jJ st10).bind fun (x12,x13,st14)=>(gB).bind fun x16=>(gB).bind fun x20=>(if x13=0 then (if (x12.length:Int)=88 then ((aR (⟨(⟨true,[]⟩:Bl),0,0,[(⟨[97],[(⟨0,[x16,x20]⟩:ay)]⟩:au)]⟩:aq) 3).bind fun x36=>if x36=10 then ((aR (⟨(⟨true,[]⟩:Bl),0,0,[(⟨[97],[(⟨0,[x16,x20]⟩:ay)]⟩:au)]⟩:aq) 4).bind fun x39=>if x39=0 then some true else some false) else some false) else some false) else some false).bind fun y32=>some y32
theorem nD  (r:Bool) (h:iM  = some r):aA Tryz.prog 17 #[] .triv (aD) (fun v A' N=>v= .bool r∧A'=aD∧N = []):=by
 refine aM Tryz.func17 Z Tryz.ntmps17 Z ?_
 intro F w hX
 unfold iM at h
 refine T.seq (T.region Z (TL.run ah [0] Z Z (TL.nil (X.seq (T.seq (T.region Z ?_))))))
 refine TL.q Z .u (Bg (cells:= #[.bool true,.string ⟨#[]⟩]) lF Z (by kernel_rfl)) Z ?_
 obtain⟨x1,hx4,h⟩:=C5 h
 refine B0 Z .u (.fn Tryz.call55 Z) (gC _ hx4) (fun _ hs=>(AQ _ _)) Z ?_
 rintro _ _ _ ⟨A2,c3,rfl,rfl,rfl⟩
 refine Bp [0,0] Z ?_
 refine BT (cells:= #[jI x1.CP,jI x1.CI,.bool x1.CV,.bool x1.C0,.bool x1.CL,jI x1.CN,jI x1.CH,jI x1.CW,jI x1.CE,jI x1.CK,jI x1.CD,.slice A2 x1.Cy.length c3]) Z .u kF Z (by kernel_rfl) Z (fun b5=> ?_)
 refine TL.q Z .u (Bg (cells:= #[jI 0,.slice (some ⟨b5,0,none⟩) 1 1]) lJ Z (by kernel_rfl)) Z ?_
 refine BT (cells:= #[jI 0,.slice (some ⟨b5,0,none⟩) 1 1]) Z .u kE Z (by kernel_rfl) Z (fun b6=> ?_)
 refine TL.q Z .u (Bg (cells:= #[.string ⟨#[97]⟩,.slice (some ⟨b6,0,none⟩) 1 1]) lI Z (by kernel_rfl)) Z ?_
 refine BT (cells:= #[.string ⟨#[97]⟩,.slice (some ⟨b6,0,none⟩) 1 1]) Z .u kC Z (by kernel_rfl) Z (fun b7=> ?_)
 refine TL.q Z .u (Bg (cells:= #[.bool true,.string ⟨#[]⟩,jI 0,jI 0,.slice (some ⟨b7,0,none⟩) 1 1]) lG Z (by kernel_rfl)) Z ?_
 refine TL.alloc Z .u Tryz.zeroValue50 Z (fun b8=>(A9 (cs':= #[.bool true,.string ⟨#[]⟩,jI 0,jI 0,.slice (some ⟨b7,0,none⟩) 1 1]) Z .u Z Z DI Z Z Z Z (TL.nil (X.seq (T.seq (T.region Z (Ce Z .u Tryz.zeroValue66 Z (fun b9=>(TL.nil (X.seq (T.seq (T.region Z (TL.q Z .u (AY (us := [.bool true,.string ⟨#[]⟩,jI 0,jI 0,.slice (some ⟨b7,0,none⟩) 1 1]) 1 Z DX DI Z Z Z) Z ?_)))))))))))))
 obtain⟨st10,hx11,h⟩:=C5 h
 refine Bu Z .u (.fn Tryz.call27 Z) (fa b9 ([],0) (⟨(⟨true,[]⟩:Bl),0,0,[(⟨[97],[(⟨0,[x1]⟩:ay)]⟩:au)]⟩:aq) _ _ 3 _ hx11) (fun _ hs=>(Src.many [1,1,1,1] Z (fun w G hS=>by obtain⟨⟨G0,⟨h0,i0⟩,j0⟩,⟨⟨G1,⟨h1,i1⟩,j1⟩,⟨⟨G2,⟨h2,i2⟩,j2⟩,⟨⟨G3,⟨h3,i3⟩,j3⟩,_⟩⟩⟩⟩:=hS; exact (fD (us := [.string ⟨#[97]⟩,.slice (some ⟨b6,0,none⟩) 1 1]) h0 (j0 _ ((i0 _).2 rfl)) rfl (Nat.le_of_ble_eq_true rfl) ⟨rfl,⟨_,_,rfl,(fD (us := [jI 0,.slice (some ⟨b5,0,none⟩) 1 1]) h1 (j1 _ ((i1 _).2 rfl)) rfl (Nat.le_of_ble_eq_true rfl) ⟨rfl,⟨_,_,rfl,(fD (us := [jI x1.CP,jI x1.CI,.bool x1.CV,.bool x1.C0,.bool x1.CL,jI x1.CN,jI x1.CH,jI x1.CW,jI x1.CE,jI x1.CK,jI x1.CD,.slice A2 x1.Cy.length c3]) h2 (j2 _ ((i2 _).2 rfl)) rfl (Nat.le_of_ble_eq_true rfl) ⟨rfl,⟨_,_,rfl,((ar 7 aU).mono h3 j3)⟩,rfl⟩)⟩,rfl⟩)⟩,rfl⟩)))) Z ?_
 obtain⟨⟨x12,x13,st14⟩,hx15,h⟩:=C5 h
 try dsimp only at h
 refine TL.nil (X.seq (T.seq (T.region Z (Bu Z .u (.fn Tryz.call28 Z) (fe b9 st10 _ hx15) (fun _ hs=>(Src.triv _)) Z (TL.run ah [1,2,3,4,5] Z Z ?_)))))
 refine TL.nil (X.seq (T.seq (Bd (.q 0 (.q 1 (.q 2 (.q 3 (.q 4 (.e 5 (.e 6 (.e 7 (.q 8 (.q 9 (.e 10 .nil))))))))))) [0,0,0,1,1,1] Z jE (NoP.seq aP) (by kernel_rfl) ?_)))
 refine TD.run ah [0] Z Z (TD.q Z .u (AH 1 Z Ep Z Z) Z (TD.q Z .u (BD (k:=0) (r:=0) Z Z Z DC DL (by decide) Z) Z (TD.run ah [3] Z Z (TD.q Z .u (AH 2 Z D9 Z Z) Z ?_))))
 obtain⟨x16,hx19,h⟩:=C5 h
 refine TD.cge Z .u (.fn Tryz.call55 Z) (gC _ hx19) (fun _ hs=>(AQ _ _)) Z [1,1,1,2,2,2] ?_ ?_
 ·rintro _ _ _ ⟨A17,c18,rfl,rfl,rfl⟩
  rfl
 rintro _ _ _ ⟨A17,c18,rfl,rfl,rfl⟩
 refine BF [0,0,0,0,0,0,0,0] Z ?_
 obtain⟨x20,hx23,h⟩:=C5 h
 refine TD.cge Z .u (.fn Tryz.call55 Z) (gC _ hx23) (fun _ hs=>(AQ _ _)) Z [2,2,2,3,3,3] ?_ ?_
 ·rintro _ _ _ ⟨A21,c22,rfl,rfl,rfl⟩
  rfl
 rintro _ _ _ ⟨A21,c22,rfl,rfl,rfl⟩
 refine BF [0,0,0,0,0,0,0,0,0] Z ?_
 refine BQ (cells:= #[jI x16.CP,jI x16.CI,.bool x16.CV,.bool x16.C0,.bool x16.CL,jI x16.CN,jI x16.CH,jI x16.CW,jI x16.CE,jI x16.CK,jI x16.CD,.slice A17 x16.Cy.length c18,jI x20.CP,jI x20.CI,.bool x20.CV,.bool x20.C0,.bool x20.CL,jI x20.CN,jI x20.CH,jI x20.CW,jI x20.CE,jI x20.CK,jI x20.CD,.slice A21 x20.Cy.length c22]) Z .u kG Z (by kernel_rfl) Z [3,3,3,4,4,4] (fun _=>Z) (fun b24=> ?_)
 refine TD.q Z .u (BD (k:=0) (r:=0) Z Z Z DD DF (by decide) Z) Z (TD.run ah [9] Z Z (TD.st6 (cs':= #[jI 0,.slice (some ⟨b24,0,none⟩) 2 2]) Z .u Z Z EN Z Z Z Z [3,3,3,4,4,4] (Z) (TD.nil (X.seq (T.seq ?_)))))
 obtain⟨y32,h,hk33⟩:=C5 h
 refine BE (fun e Rs=>e = [(0,.bool y32)]∧Rs = [aC b24 27 #[jI x16.CP,jI x16.CI,.bool x16.CV,.bool x16.C0,.bool x16.CL,jI x16.CN,jI x16.CH,jI x16.CW,jI x16.CE,jI x16.CK,jI x16.CD,.slice A17 x16.Cy.length c18,jI x20.CP,jI x20.CI,.bool x20.CV,.bool x20.C0,.bool x20.CL,jI x20.CN,jI x20.CH,jI x20.CW,jI x20.CE,jI x20.CK,jI x20.CD,.slice A21 x20.Cy.length c22],RdR (ar 7 aU) [.slice A21 x20.Cy.length c22] x20.Cy,RdR (ar 7 aU) [.slice A17 x16.Cy.length c18] x16.Cy,ba b9 st14,aC b8 50 #[.bool true,.string ⟨#[]⟩,jI 0,jI 0,.slice (some ⟨b7,0,none⟩) 1 1],aC b7 81 #[.string ⟨#[97]⟩,.slice (some ⟨b6,0,none⟩) 1 1],aC b6 84 #[jI 0,.slice (some ⟨b24,0,none⟩) 2 2],aC b5 27 #[jI x1.CP,jI x1.CI,.bool x1.CV,.bool x1.C0,.bool x1.CL,jI x1.CN,jI x1.CH,jI x1.CW,jI x1.CE,jI x1.CK,jI x1.CD,.slice A2 x1.Cy.length c3],RdR (ar 7 aU) [.slice A2 x1.Cy.length c3] x1.Cy,aD]) ?_ ?_
 ·clear hk33
  refine T.region Z ?_
  rcases jF h with⟨c34,h⟩ | ⟨c34,h⟩
  ·refine TL.run ah [0,1,2] Z Z (TL.q Z (.g Z Z (C6 c34)) (AO ah Z) Z (TL.q Z (.g Z Z (C6 c34)) (Br Z Dm) Z (TL.q Z (.g Z Z (C6 c34)) (AO ah Z) Z (TL.q Z .u (AP Z (C6 c34) Z) Z ?_))))
   rcases jF h with⟨c35,h⟩ | ⟨c35,h⟩
   ·refine TL.run ah [7] Z Z (TL.q Z (.g Z Z (C6 c35)) (AY (us := [.bool true,.string ⟨#[]⟩,jI 0,jI 0,.slice (some ⟨b7,0,none⟩) 1 1]) 4 Z DX DI Z Z Z) Z ?_)
    obtain⟨x36,hx37,h⟩:=C5 h
    refine Bc Z (.g Z Z (C6 c35)) (.fn Tryz.call30 Z) (bO (⟨(⟨true,[]⟩:Bl),0,0,[(⟨[97],[(⟨0,[x16,x20]⟩:ay)]⟩:au)]⟩:aq) _ _ 3 _ hx37) (fun _ hs=>(SrcE.many [5,5,0,1,0] hs Z (fun w G hS=>by obtain⟨⟨G0,⟨h0,i0⟩,j0⟩,⟨⟨G1,⟨h1,i1⟩,j1⟩,⟨⟨G2,⟨h2,i2⟩,j2⟩,⟨⟨G3,⟨h3,i3⟩,j3⟩,⟨⟨G4,⟨h4,i4⟩,j4⟩,_⟩⟩⟩⟩⟩:=hS; exact (fD (us := [.string ⟨#[97]⟩,.slice (some ⟨b6,0,none⟩) 1 1]) h0 (j0 _ ((i0 _).2 rfl)) rfl (Nat.le_of_ble_eq_true rfl) ⟨rfl,⟨_,_,rfl,(fD (us := [jI 0,.slice (some ⟨b24,0,none⟩) 2 2]) h1 (j1 _ ((i1 _).2 rfl)) rfl (Nat.le_of_ble_eq_true rfl) ⟨rfl,⟨_,_,rfl,(fD (us := [jI x16.CP,jI x16.CI,.bool x16.CV,.bool x16.C0,.bool x16.CL,jI x16.CN,jI x16.CH,jI x16.CW,jI x16.CE,jI x16.CK,jI x16.CD,.slice A17 x16.Cy.length c18,jI x20.CP,jI x20.CI,.bool x20.CV,.bool x20.C0,.bool x20.CL,jI x20.CN,jI x20.CH,jI x20.CW,jI x20.CE,jI x20.CK,jI x20.CD,.slice A21 x20.Cy.length c22]) h2 (j2 _ ((i2 _).2 rfl)) rfl (Nat.le_of_ble_eq_true rfl) ⟨rfl,⟨_,_,rfl,((ar 7 aU).mono h3 j3)⟩,⟨rfl,⟨_,_,rfl,((ar 7 aU).mono h4 j4)⟩,rfl⟩⟩)⟩,rfl⟩)⟩,rfl⟩)))) Z (TL.q Z (.g Z Z (C6 c35)) (AO ah Z) Z (TL.q Z .u (AP Z (C6 c35) Z) Z ?_))
    rcases jF h with⟨c38,h⟩ | ⟨c38,h⟩
    ·refine TL.run ah [12] Z Z (TL.q Z (.g Z Z (C6 c38)) (AY (us := [.bool true,.string ⟨#[]⟩,jI 0,jI 0,.slice (some ⟨b7,0,none⟩) 1 1]) 4 Z DX DI Z Z Z) Z ?_)
     obtain⟨x39,hx40,h⟩:=C5 h
     refine Bc Z (.g Z Z (C6 c38)) (.fn Tryz.call30 Z) (bO (⟨(⟨true,[]⟩:Bl),0,0,[(⟨[97],[(⟨0,[x16,x20]⟩:ay)]⟩:au)]⟩:aq) _ _ 4 _ hx40) (fun _ hs=>(SrcE.many [5,5,0,1,0] hs Z (fun w G hS=>by obtain⟨⟨G0,⟨h0,i0⟩,j0⟩,⟨⟨G1,⟨h1,i1⟩,j1⟩,⟨⟨G2,⟨h2,i2⟩,j2⟩,⟨⟨G3,⟨h3,i3⟩,j3⟩,⟨⟨G4,⟨h4,i4⟩,j4⟩,_⟩⟩⟩⟩⟩:=hS; exact (fD (us := [.string ⟨#[97]⟩,.slice (some ⟨b6,0,none⟩) 1 1]) h0 (j0 _ ((i0 _).2 rfl)) rfl (Nat.le_of_ble_eq_true rfl) ⟨rfl,⟨_,_,rfl,(fD (us := [jI 0,.slice (some ⟨b24,0,none⟩) 2 2]) h1 (j1 _ ((i1 _).2 rfl)) rfl (Nat.le_of_ble_eq_true rfl) ⟨rfl,⟨_,_,rfl,(fD (us := [jI x16.CP,jI x16.CI,.bool x16.CV,.bool x16.C0,.bool x16.CL,jI x16.CN,jI x16.CH,jI x16.CW,jI x16.CE,jI x16.CK,jI x16.CD,.slice A17 x16.Cy.length c18,jI x20.CP,jI x20.CI,.bool x20.CV,.bool x20.C0,.bool x20.CL,jI x20.CN,jI x20.CH,jI x20.CW,jI x20.CE,jI x20.CK,jI x20.CD,.slice A21 x20.Cy.length c22]) h2 (j2 _ ((i2 _).2 rfl)) rfl (Nat.le_of_ble_eq_true rfl) ⟨rfl,⟨_,_,rfl,((ar 7 aU).mono h3 j3)⟩,⟨rfl,⟨_,_,rfl,((ar 7 aU).mono h4 j4)⟩,rfl⟩⟩)⟩,rfl⟩)⟩,rfl⟩)))) Z (TL.q Z (.g Z Z (C6 c38)) (AO ah Z) Z (TL.q Z .u (AP Z (C6 c38) Z) Z (TL.run ah [17] Z Z ?_)))
     rcases jF h with⟨c41,h⟩ | ⟨c41,h⟩
     ·cases h
      exact TL.nil (Bw (d:=0) (v':= .bool true) Z (congrArg Value.bool (C6 c41)) (A5 [0,0,0,0,0,0,0,0,0,0] ⟨Z,Z⟩ (by rfl) (by rfl)))
     ·cases h
      exact TL.nil (Bw (d:=0) (v':= .bool false) Z (congrArg Value.bool (C7 c41)) (A5 [0,0,0,0,0,0,0,0,0,0] ⟨Z,Z⟩ (by rfl) (by rfl)))
    ·refine TL.run ah [12] Z Z ?_
     iterate 3 refine AM Z (.gn Z Z (C7 c38)) Z ?_
     refine TL.q Z .u (AR Z (C7 c38) Z) Z (TL.run ah [17] Z Z ?_)
     cases h
     exact TL.nil (A5 [0,0,0,0,0,0,0,0,0,0] ⟨Z,Z⟩ (by rfl) (by rfl))
   ·refine TL.run ah [7] Z Z ?_
    iterate 3 refine AM Z (.gn Z Z (C7 c35)) Z ?_
    refine TL.q Z .u (AR Z (C7 c35) Z) Z (TL.run ah [12] Z Z ?_)
    iterate 3 refine AM Z (.gn Z Z Z) Z ?_
    refine TL.q Z .u (AR Z Z Z) Z (TL.run ah [17] Z Z ?_)
    cases h
    exact TL.nil (A5 [0,0,0,0,0,0,0,0,0,0] ⟨Z,Z⟩ (by rfl) (by rfl))
  ·refine TL.run ah [0,1,2] Z Z ?_
   iterate 3 refine AM Z (.gn Z Z (C7 c34)) Z ?_
   refine TL.q Z .u (AR Z (C7 c34) Z) Z (TL.run ah [7] Z Z ?_)
   iterate 3 refine AM Z (.gn Z Z Z) Z ?_
   refine TL.q Z .u (AR Z Z Z) Z (TL.run ah [12] Z Z ?_)
   iterate 3 refine AM Z (.gn Z Z Z) Z ?_
   refine TL.q Z .u (AR Z Z Z) Z (TL.run ah [17] Z Z ?_)
   cases h
   exact TL.nil (A5 [0,0,0,0,0,0,0,0,0,0] ⟨Z,Z⟩ (by rfl) (by rfl))
 ·rintro _ _ ⟨rfl,rfl⟩
  clear h
  have h:=hk33
  clear hk33
  try dsimp only at h
  obtain rfl:=C8 h
  exact X.seq (T.ret (AJ [9] Tryz.results17 (AK Z) ⟨Z,Z,Z⟩ (by rfl) (.inl Z)))
def fx:List ay→List fS→Option (List fS)
 | [],y24=>some y24
 | x31::xs,y24=>if (y24.length+1)*32≤140737488355328 then (fx xs (y24 ++ [(⟨x31.CX,x31.CG⟩:fS)])) else none
def fy:List au→List ca→Option (List ca)
 | [],y7=>some y7
 | x14::xs,y7=>(fx x14.CA []).bind fun y44=>if (y7.length+1)*40≤140737488355328 then (fy xs (y7 ++ [(⟨x14.CM,y44⟩:ca)])) else none
def iw (a0:aq):Option (bg):=(fy a0.CC []).bind fun y56=>some (⟨a0.CS,a0.CZ,a0.CO,y56⟩:bg)
theorem g6 (a0:aq) (A1:Option Addr) (c2:Nat) (r:bg) (h:iw a0=some r):o4 Tryz.prog 23 #[.agg #[.bool a0.CS.null,jS a0.CS.data,jI a0.CZ,jI a0.CO,.slice A1 a0.CC.length c2]] (RX.of (ar 2 aG) [.slice A1 a0.CC.length c2] a0.CC) aD (fun v A' L=> ∃ (A59:Option Addr) (c60:Nat),v= .agg #[.bool r.CS.null,jS r.CS.data,jI r.CZ,jI r.CO,.slice A59 r.CC.length c60]∧A'=aD∧L = [(⟨_,ar 2 cW,[.slice A59 r.CC.length c60],r.CC⟩:RO)]):=by
 refine enterS Tryz.func23 Z Tryz.ntmps23 Z ?_
 intro F w S hS hSF
 have hX:(RX.of (ar 2 aG) [.slice A1 a0.CC.length c2] a0.CC).reads w F:=⟨S,hS,hSF⟩
 unfold iw at h
 refine T.seq (T.region Z (TL.box Z .u Z Z (fun b3=>(TL.alloc Z .u Tryz.zeroValue54 Z (fun b4=>(TL.nil (X.seq (T.seq (T.region Z (TL.run ah [0] Z Z (TL.q Z .u (AY (us := [.bool a0.CS.null,jS a0.CS.data]) 1 Z DB Dk Z Z Z) Z (TL.run ah [2] Z Z (TL.q Z .u (AH 1 Z Dc Z Z) Z ?_)))))))))))))
 refine TL.run ah [4] Z Z (TL.q Z .u (AH 1 Z Dc Z Z) Z ?_)
 refine TL.q Z .u (Bg (cells:= #[.bool a0.CS.null,jS a0.CS.data,jI a0.CZ,jI a0.CO,.slice none 0 0]) lH Z (by kernel_rfl)) Z ?_
 refine TL.alloc Z .u Tryz.zeroValue54 Z (fun b5=>(A9 (cs':= #[.bool a0.CS.null,jS a0.CS.data,jI a0.CZ,jI a0.CO,.slice none 0 0]) Z .u Z Z Tryz.sizeOf54 Z Z Z Z (TL.nil (X.seq (T.seq (T.seq (T.region Z (TL.run ah [0] Z Z (TL.q Z .u (AH 2 Z Ep Z Z) Z (TL.q Z .u (AW Z DC) Z (TL.run ah [3] Z Z (TL.nil (X.seq (T.block ?_))))))))))))))
 refine BX 126 2 (e9 w S cW) ?_
 obtain⟨E10,hE11,hO12⟩:=C5 h
 have hk16len:=Bm hX
 refine Bj (fun m e Rs=> ∃ (k6:Nat) (y7:List ca) (A8:Option Addr) (c9:Nat),k6+m=a0.CC.length∧e = [(2,jP b4),(3,jP b5),(17,.slice A1 a0.CC.length c2),(18,jI (a0.CC.length:Int)),(19,jI (k6:Int))]∧Rs = [bp 126 2 (e9 w S cW) (.slice A8 y7.length c9) y7,aC b5 54 #[.bool a0.CS.null,jS a0.CS.data,jI a0.CZ,jI a0.CO,.slice A8 y7.length c9],aC b4 54 #[.bool false,.string ⟨#[]⟩,jI 0,jI 0,.slice none 0 0],aC b3 50 #[.bool a0.CS.null,jS a0.CS.data,jI a0.CZ,jI a0.CO,.slice A1 a0.CC.length c2],aD]∧fy (a0.CC.drop k6) y7=some E10) (a0.CC.length) [0,0,0,0,0] ⟨0,[],none,0,by simp,Z,Z,by rw[List.drop_zero]; exact hE11⟩ (by rfl) (by rfl) ?_
 rintro m13 _ _ ⟨k6,y7,A8,c9,hk16,rfl,rfl,hl15⟩
 clear hE11 h
 cases m13 with
 | zero =>
  have h:=hl15
  clear hl15
  rw[List.drop_of_length_le (by omega),fy] at h
  have hk16ge: ¬ ((k6:Int)<(a0.CC.length:Int)):=by omega
  refine T.seq (T.region Z (TL.run ah [0] Z Z (TL.nil (X.seq (T.seq (AS Z (C7 hk16ge) ?_))))))
  obtain rfl:=C8 h
  replace h:=hO12
  clear hO12
  try dsimp only at h
  refine T.exit (AV (AV (Bh (X.seq (T.seq (T.region Z (TL.q Z .u (AY (us := [.bool a0.CS.null,jS a0.CS.data,jI a0.CZ,jI a0.CO,.slice A8 y7.length c9]) 1 Z Tryz.isAgg54 Tryz.sizeOf54 Z Z Z) Z (Cu (cs':= #[.bool a0.CS.null,jS a0.CS.data,jI a0.CZ,jI a0.CO,.slice A8 y7.length c9]) Z .u Z Z Tryz.sizeOf54 Z Z Z Z ?_))))))))
  obtain rfl:=C8 h
  exact TL.nil (X.seq (T.ret (X.shutO (by decide) 0 Z (Bv [0,0,0,0,0] Z (AJ [4,0] Tryz.results23 (BG (us:= #[.bool a0.CS.null,jS a0.CS.data,jI a0.CZ,jI a0.CO,.slice A8 y7.length c9]) 2 Z Tryz.isAgg54 Tryz.sizeOf54 Z Z) ⟨_,⟨_,_,Z,Z,Z⟩,Z⟩ (by rfl) (.inl Z))))))
 | succ m13 =>
  have h:=hl15
  clear hl15
  obtain⟨x14,hxx14⟩: ∃ x,a0.CC[k6]? = some x:=⟨_,List.getElem?_eq_getElem (by omega)⟩
  rw[aX hxx14,fy] at h
  have hk16lt:(k6:Int)<(a0.CC.length:Int):=by omega
  refine T.seq (T.region Z (TL.run ah [0] Z Z (TL.nil (X.seq (T.seq (AN Z (C6 hk16lt) ?_))))))
  obtain⟨gz17,oz17,rfl,z17cs,z17cl,z17cc,z17nf,z17r⟩:=RX.elemS (by decide) hS hSF hxx14
  obtain⟨A18,c19,rfl,z17s0⟩:=z17r
  have hX20:(RX.of (ar 2 aS) [.slice A18 x14.CA.length c19] x14.CA).reads w F:=⟨S,z17s0,hSF⟩
  refine T.skip (X.seq (T.seq (T.block (T.seq (T.region Z ?_)))))
  refine TL.q Z .u (AX (k:=k6) Z Z Z DC DL (Da hxx14).1) Z ?_
  refine TL.q Z .u (Bn (us := [jS x14.CM,.slice A18 x14.CA.length c19]) 0 Z EK DL z17nf z17cc Z Z Z) Z (TL.alloc Z .u Tryz.zeroValue81 Z (fun b21=>(A9 (cs':= #[jS x14.CM,.slice A18 x14.CA.length c19]) Z .u Z Z DL Z Z Z Z (TL.nil (X.seq (T.seq (T.region Z (TL.run ah [0] Z Z (TL.q Z .u (AH 0 Z Dz Z Z) Z ?_)))))))))
  refine TL.q Z .u (Bg (cells:= #[jS x14.CM,.slice none 0 0]) kS Z (by kernel_rfl)) Z ?_
  refine TL.alloc Z .u Tryz.zeroValue126 Z (fun b22=>(A9 (cs':= #[jS x14.CM,.slice none 0 0]) Z .u Z Z D0 Z Z Z Z (TL.nil (X.seq (T.seq (T.seq (T.region Z (TL.run ah [0] Z Z (TL.q Z .u (AH 1 Z D9 Z Z) Z (TL.q Z .u (AW Z DD) Z (TL.run ah [3] Z Z (TL.nil (X.seq (T.block ?_))))))))))))))
  refine BX 127 2 (e9 w S dt) ?_
  obtain⟨E27,hE28,hO29⟩:=C5 h
  have hk33len:=Bm hX20
  refine Bj (fun m e Rs=> ∃ (k23:Nat) (y24:List fS) (A25:Option Addr) (c26:Nat),k23+m=x14.CA.length∧e = [(2,jP b4),(3,jP b5),(6,jP b22),(17,.slice (some ⟨gz17,oz17,none⟩) a0.CC.length c2),(18,jI (a0.CC.length:Int)),(19,jI (k6:Int)),(27,.slice A18 x14.CA.length c19),(28,jI (x14.CA.length:Int)),(29,jI (k23:Int))]∧Rs = [bp 127 2 (e9 w S dt) (.slice A25 y24.length c26) y24,aC b22 126 #[jS x14.CM,.slice A25 y24.length c26],aC b21 81 #[jS x14.CM,.slice A18 x14.CA.length c19],bp 126 2 (e9 w S cW) (.slice A8 y7.length c9) y7,aC b5 54 #[.bool a0.CS.null,jS a0.CS.data,jI a0.CZ,jI a0.CO,.slice A8 y7.length c9],aC b4 54 #[.bool false,.string ⟨#[]⟩,jI 0,jI 0,.slice none 0 0],aC b3 50 #[.bool a0.CS.null,jS a0.CS.data,jI a0.CZ,jI a0.CO,.slice (some ⟨gz17,oz17,none⟩) a0.CC.length c2],aD]∧fx (x14.CA.drop k23) y24=some E27) (x14.CA.length) [0,0,0,0,0,0,0,0] ⟨0,[],none,0,by simp,Z,Z,by rw[List.drop_zero]; exact hE28⟩ (by rfl) (by rfl) ?_
  rintro m30 _ _ ⟨k23,y24,A25,c26,hk33,rfl,rfl,hl32⟩
  clear hE28 h
  cases m30 with
  | zero =>
   have h:=hl32
   clear hl32
   rw[List.drop_of_length_le (by omega),fx] at h
   have hk33ge: ¬ ((k23:Int)<(x14.CA.length:Int)):=by omega
   refine T.seq (T.region Z (TL.run ah [0] Z Z (TL.nil (X.seq (T.seq (AS Z (C7 hk33ge) ?_))))))
   obtain rfl:=C8 h
   replace h:=hO29
   clear hO29
   try dsimp only at h
   refine T.exit (AV (AV (Bh (X.seq (T.region Z (TL.run ah [0] Z Z (TL.q Z .u (AH 4 Z El Z Z) Z (TL.q Z .u (AY (us := [jS x14.CM,.slice A25 y24.length c26]) 1 Z Fi D0 Z Z Z) Z (BT (cells:= #[jS x14.CM,.slice A25 y24.length c26]) Z .u kD Z (by rfl) Z (fun b51=> ?_))))))))))
   replace h:=an h
   obtain⟨c52,h⟩:=h
   refine TL.app2 3 0 Z .u (us := [jS x14.CM,.slice A25 y24.length c26]) (u:=(⟨x14.CM,y24⟩:ca)) (l:=y7) (E:=(e9 w S cW)) Tryz.underlying52 kT Z (by decide) Z Z Z Z Z Z Z (fun w1 G1 hG W h1 h2=>⟨_,_,Z,(fun w G h=>yM (by decide) w G h) w1 G1 hG W h1 h2⟩) (by have hq:=c52; omega) (by have hq:=c52; omega) Z (fun A53 c54=> ?_)
   exact Bp [0,0,0,0,0,0,0] Z (TL.run ah [5] Z Z (BV (cs':= #[.bool a0.CS.null,jS a0.CS.data,jI a0.CZ,jI a0.CO,.slice A53 (y7 ++ [(⟨x14.CM,y24⟩:ca)]).length c54]) Z .u Z Z Tryz.sizeOf52 Z Z Z Z (TL.nil (AZ (X.seq (T.region Z (TL.q Z .u (Ex.add Z Z (by omega)) Z (TL.run ah [1] Z Z (TL.nil (X.back (m':=m13) [0,2,2,2,2] (by omega) ⟨k6+1,(y7 ++ [(⟨x14.CM,y24⟩:ca)]),A53,c54,by omega,Z,Z,h⟩ (by rfl) (by rfl)))))))))))
  | succ m30 =>
   have h:=hl32
   clear hl32
   obtain⟨x31,hxx31⟩: ∃ x,x14.CA[k23]? = some x:=⟨_,List.getElem?_eq_getElem (by omega)⟩
   rw[aX hxx31,fx] at h
   have hk33lt:(k23:Int)<(x14.CA.length:Int):=by omega
   refine T.seq (T.region Z (TL.run ah [0] Z Z (TL.nil (X.seq (T.seq (AN Z (C6 hk33lt) ?_))))))
   obtain⟨gz34,oz34,rfl,z34cs,z34cl,z34cc,z34nf,z34r⟩:=RX.elemS (by decide) z17s0 hSF hxx31
   obtain⟨A35,c36,rfl,z34s0⟩:=z34r
   have hX37:(RX.of (ar 12 bT) [.slice A35 x31.CG.length c36] x31.CG).reads w F:=⟨S,z34s0,hSF⟩
   refine T.skip (X.seq (T.seq (T.block (T.seq (T.region Z ?_)))))
   refine TL.q Z .u (AX (k:=k23) Z Z Z DD DF (Da hxx31).1) Z ?_
   refine TL.q Z .u (Bn (us := [jI x31.CX,.slice A35 x31.CG.length c36]) 0 Z EB DF z34nf z34cc Z Z Z) Z (TL.alloc Z .u Tryz.zeroValue84 Z (fun b38=>(A9 (cs':= #[jI x31.CX,.slice A35 x31.CG.length c36]) Z .u Z Z DF Z Z Z Z (TL.nil (X.seq (T.region Z (TL.run ah [0] Z Z (TL.q Z .u (AH 2 Z D1 Z Z) Z (TL.q Z .u (AY (us := [jI x31.CX,.slice A35 x31.CG.length c36]) 0 Z EB DF Z Z Z) Z (BT (cells:= #[jI x31.CX,.slice A35 x31.CG.length c36]) Z .u kj Z (by rfl) Z (fun b39=> ?_)))))))))))
   replace h:=an h
   obtain⟨c40,h⟩:=h
   refine TL.app1 1 Z .u (us := [jI x31.CX,.slice A35 x31.CG.length c36]) (u:=(⟨x31.CX,x31.CG⟩:fS)) (l:=y24) (E:=(e9 w S dt)) Tryz.underlying124 kU Z (by decide) Z Z Z Z Z Z (fun _ _=>old_in ⟨_,_,Z,z34s0⟩) (by have hq:=c40; omega) (by have hq:=c40; omega) Z (fun A41 c42=> ?_)
   exact Bp [0,0,0,0,0,0,0,0,0] Z (TL.run ah [5] Z Z (Cu (cs':= #[jS x14.CM,.slice A41 (y24 ++ [(⟨x31.CX,x31.CG⟩:fS)]).length c42]) Z .u Z Z Tryz.sizeOf124 Z Z Z Z (TL.nil (AZ (X.seq (T.region Z (TL.q Z .u (Ex.add Z Z (by omega)) Z (TL.run ah [1] Z Z (TL.nil (X.back (m':=m30) [1,1,1,1,1,1,1,1] (by omega) ⟨k23+1,(y24 ++ [(⟨x31.CX,x31.CG⟩:fS)]),A41,c42,by omega,Z,Z,h⟩ (by rfl) (by rfl)))))))))))
def eb:List Bat→Int→Option (Lp Int Int)
 | [],y35=>some (Lp.go y35)
 | x41::xs,y35=>(ge x41).bind fun x49=>if x49=0 then some (Lp.ret 0) else (eb xs y35)
def dg:List ay→Int→Int→Option (Lp Int (Int×Int))
 | [],y19,y20=>some (Lp.go (y19,y20))
 | x26::xs,y19,y20=>if (IntKind.i64.wrap (y20+(IntKind.i64.wrap (10+(IntKind.i64.wrap (100*(x26.CG.length:Int)))))))>2000 then some (Lp.ret 0) else ((eb x26.CG y19).bind fun e=>match e with | .ret r=>some (Lp.ret r) | .go y52=>(dg xs y52 (IntKind.i64.wrap (y20+(IntKind.i64.wrap (10+(IntKind.i64.wrap (100*(x26.CG.length:Int)))))))))
def ec:List au→Int→Int→Option (Lp Int (Int×Int))
 | [],y4,y5=>some (Lp.go (y4,y5))
 | x11::xs,y4,y5=>(dg x11.CA y4 (IntKind.i64.wrap (y5+(IntKind.i64.wrap ((x11.CM.length:Int)+10))))).bind fun e=>match e with | .ret r=>some (Lp.ret r) | .go (y54,y55)=>(ec xs y54 y55)
def iT (a0:aq):Option (Int):=(ec a0.CC 0 (a0.CS.data.length:Int)).bind fun e=>match e with | .ret r=>some r | .go (y57,y58)=>(if y58>2000 then some 0 else some 1)
theorem qQ (a0:aq) (A1:Option Addr) (c2:Nat) (r:Int) (h:iT a0=some r):aA Tryz.prog 26 #[.agg #[.bool a0.CS.null,jS a0.CS.data,jI a0.CZ,jI a0.CO,.slice A1 a0.CC.length c2]] (RX.of (ar 2 aG) [.slice A1 a0.CC.length c2] a0.CC) (aD) (fun v A' N=>v=jI r∧A'=aD∧N = []):=by
 refine aM Tryz.func26 Z Tryz.ntmps26 Z ?_
 intro F w hX
 unfold iT at h
 refine T.seq (T.region Z (TL.box Z .u Z Z (fun b3=>(TL.run ah [1] Z Z (TL.nil (X.seq (T.seq (T.region Z (TL.run ah [0,1] Z Z (TL.q Z .u (AH 0 Z Dz Z Z) Z (TL.q Z .u (Br Z Dm) Z (TL.run ah [4] Z Z ?_))))))))))))
 refine TL.nil (X.seq (T.seq (T.seq (T.region Z (TL.run ah [0] Z Z (TL.q Z .u (AH 0 Z Ep Z Z) Z (TL.q Z .u (AW Z DC) Z (TL.run ah [3] Z Z (TL.nil (X.seq (T.block ?_)))))))))))
 obtain⟨E7,hE8,hO9⟩:=C5 h
 have hk13len:=Bm hX
 refine Bj (fun m e Rs=> ∃ (y4:Int) (y5:Int) (k6:Nat),k6+m=a0.CC.length∧e = [(2,jI y4),(3,jI y5),(15,.slice A1 a0.CC.length c2),(16,jI (a0.CC.length:Int)),(17,jI (k6:Int))]∧Rs = [aC b3 50 #[.bool a0.CS.null,jS a0.CS.data,jI a0.CZ,jI a0.CO,.slice A1 a0.CC.length c2],aD]∧ec (a0.CC.drop k6) y4 y5=some E7) (a0.CC.length) [0,0] ⟨0,(a0.CS.data.length:Int),0,by simp,Z,Z,by rw[List.drop_zero]; exact hE8⟩ (by rfl) (by rfl) ?_
 rintro m10 _ _ ⟨y4,y5,k6,hk13,rfl,rfl,hl12⟩
 clear hE8 h
 cases m10 with
 | zero =>
  have h:=hl12
  clear hl12
  rw[List.drop_of_length_le (by omega),ec] at h
  have hk13ge: ¬ ((k6:Int)<(a0.CC.length:Int)):=by omega
  refine T.seq (T.region Z (TL.run ah [0] Z Z (TL.nil (X.seq (T.seq (AS Z (C7 hk13ge) ?_))))))
  obtain rfl:=C8 h
  replace h:=hO9
  clear hO9
  try dsimp only at h
  refine T.exit (AV (AV (Bh (X.seq (T.seq (T.seq (T.region Z (TL.run ah [0,1] Z Z ?_))))))))
  rcases jF h with⟨c61,h⟩ | ⟨c61,h⟩
  ·refine TL.nil (X.seq (AN Z (C6 c61) (T.seq (T.region Z (TL.run ah [0] Z Z ?_)))))
   obtain rfl:=C8 h
   exact TL.nil (X.seq (T.ret (AL (AJ [1] Fy (AK Z) ⟨Z,Z,Z⟩ (by rfl) (.inl Z)))))
  ·refine TL.nil (X.seq (AS Z (C7 c61) (T.skip (X.seq (T.seq (T.region Z (TL.run ah [0] Z Z ?_)))))))
   obtain rfl:=C8 h
   exact TL.nil (X.seq (T.ret (AJ [1] Fy (AK Z) ⟨Z,Z,Z⟩ (by rfl) (.inl Z))))
 | succ m10 =>
  have h:=hl12
  clear hl12
  obtain⟨x11,hxx11⟩: ∃ x,a0.CC[k6]? = some x:=⟨_,List.getElem?_eq_getElem (by omega)⟩
  rw[aX hxx11,ec] at h
  have hk13lt:(k6:Int)<(a0.CC.length:Int):=by omega
  refine T.seq (T.region Z (TL.run ah [0] Z Z (TL.nil (X.seq (T.seq (AN Z (C6 hk13lt) ?_))))))
  obtain⟨gz14,oz14,rfl,z14cs,z14cl,z14cc,z14nf,z14r⟩:=Bb (by decide) hX hxx11
  obtain⟨z14S,z14r,z14rr⟩:=z14r
  obtain⟨A15,c16,rfl,z14s0⟩:=z14r
  have hX17:(RX.of (ar 2 aS) [.slice A15 x11.CA.length c16] x11.CA).reads w F:=⟨z14S,z14s0,z14rr⟩
  refine T.skip (X.seq (T.seq (T.block (T.seq (T.region Z ?_)))))
  refine TL.q Z .u (AX (k:=k6) Z Z Z DC DL (Da hxx11).1) Z ?_
  refine TL.q Z .u (Bn (us := [jS x11.CM,.slice A15 x11.CA.length c16]) 0 Z EK DL z14nf z14cc Z Z Z) Z (TL.alloc Z .u Tryz.zeroValue81 Z (fun b18=>(A9 (cs':= #[jS x11.CM,.slice A15 x11.CA.length c16]) Z .u Z Z DL Z Z Z Z (TL.nil (X.seq (T.seq (T.region Z (TL.run ah [0,1] Z Z (TL.q Z .u (AH 0 Z Dz Z Z) Z (TL.q Z .u (Br Z Dm) Z ?_))))))))))
  iterate 2 refine TL.q Z .u (Ex.addw Z Z) Z ?_
  refine TL.run ah [6] Z Z (TL.nil (X.seq (T.seq (T.region Z (TL.run ah [0] Z Z (TL.q Z .u (AH 0 Z D9 Z Z) Z (TL.q Z .u (AW Z DD) Z (TL.run ah [3] Z Z (TL.nil (X.seq (T.block ?_)))))))))))
  obtain⟨E22,hE23,hO24⟩:=C5 h
  have hk28len:=Bm hX17
  refine Bj (fun m e Rs=> ∃ (y19:Int) (y20:Int) (k21:Nat),k21+m=x11.CA.length∧e = [(2,jI y19),(3,jI y20),(15,.slice (some ⟨gz14,oz14,none⟩) a0.CC.length c2),(16,jI (a0.CC.length:Int)),(17,jI (k6:Int)),(28,.slice A15 x11.CA.length c16),(29,jI (x11.CA.length:Int)),(30,jI (k21:Int))]∧Rs = [aC b18 81 #[jS x11.CM,.slice A15 x11.CA.length c16],aC b3 50 #[.bool a0.CS.null,jS a0.CS.data,jI a0.CZ,jI a0.CO,.slice (some ⟨gz14,oz14,none⟩) a0.CC.length c2],aD]∧dg (x11.CA.drop k21) y19 y20=some E22) (x11.CA.length) [0,0,0] ⟨y4,(IntKind.i64.wrap (y5+(IntKind.i64.wrap ((x11.CM.length:Int)+10)))),0,by simp,Z,Z,by rw[List.drop_zero]; exact hE23⟩ (by rfl) (by rfl) ?_
  rintro m25 _ _ ⟨y19,y20,k21,hk28,rfl,rfl,hl27⟩
  clear hE23 h
  cases m25 with
  | zero =>
   have h:=hl27
   clear hl27
   rw[List.drop_of_length_le (by omega),dg] at h
   have hk28ge: ¬ ((k21:Int)<(x11.CA.length:Int)):=by omega
   refine T.seq (T.region Z (TL.run ah [0] Z Z (TL.nil (X.seq (T.seq (AS Z (C7 hk28ge) ?_))))))
   obtain rfl:=C8 h
   replace h:=hO24
   clear hO24
   try dsimp only at h
   exact T.exit (AV (AV (Bh (AZ (X.seq (T.region Z (TL.q Z .u (Ex.add Z Z (by omega)) Z (TL.run ah [1] Z Z (TL.nil (X.back (m':=m10) [1,1] (by omega) ⟨y19,y20,k6+1,by omega,Z,Z,h⟩ (by rfl) (by rfl)))))))))))
  | succ m25 =>
   have h:=hl27
   clear hl27
   obtain⟨x26,hxx26⟩: ∃ x,x11.CA[k21]? = some x:=⟨_,List.getElem?_eq_getElem (by omega)⟩
   rw[aX hxx26,dg] at h
   have hk28lt:(k21:Int)<(x11.CA.length:Int):=by omega
   refine T.seq (T.region Z (TL.run ah [0] Z Z (TL.nil (X.seq (T.seq (AN Z (C6 hk28lt) ?_))))))
   obtain⟨gz29,oz29,rfl,z29cs,z29cl,z29cc,z29nf,z29r⟩:=Bb (by decide) hX17 hxx26
   obtain⟨z29S,z29r,z29rr⟩:=z29r
   obtain⟨A30,c31,rfl,z29s0⟩:=z29r
   have hX32:(RX.of (ar 12 bT) [.slice A30 x26.CG.length c31] x26.CG).reads w F:=⟨z29S,z29s0,z29rr⟩
   refine T.skip (X.seq (T.seq (T.block (T.seq (T.region Z ?_)))))
   refine TL.q Z .u (AX (k:=k21) Z Z Z DD DF (Da hxx26).1) Z ?_
   refine TL.q Z .u (Bn (us := [jI x26.CX,.slice A30 x26.CG.length c31]) 0 Z EB DF z29nf z29cc Z Z Z) Z (TL.alloc Z .u Tryz.zeroValue84 Z (fun b33=>(A9 (cs':= #[jI x26.CX,.slice A30 x26.CG.length c31]) Z .u Z Z DF Z Z Z Z (TL.nil (X.seq (T.seq (T.seq (T.region Z (TL.run ah [0,1] Z Z (TL.q Z .u (AH 0 Z Ea Z Z) Z (TL.q Z .u (AW Z Dr) Z (TL.q Z .u (Ex.mulw Z Z) Z ?_))))))))))))
   iterate 2 refine TL.q Z .u (Ex.addw Z Z) Z ?_
   refine TL.run ah [7] Z Z (TL.nil (X.seq (T.seq (T.region Z (TL.run ah [0,1] Z Z ?_)))))
   rcases jF h with⟨c34,h⟩ | ⟨c34,h⟩
   ·refine TL.nil (X.seq (AN Z (C6 c34) (T.seq (T.region Z (TL.run ah [0] Z Z ?_)))))
    obtain rfl:=C8 h
    replace h:=hO24
    clear hO24
    try dsimp only at h
    obtain rfl:=C8 h
    replace h:=hO9
    clear hO9
    try dsimp only at h
    obtain rfl:=C8 h
    exact TL.nil (X.seq (T.ret (AL (AU (AL (AL (AU (AU (AL (AL (AU (AL (AJ [3] Fy (AK Z) ⟨Z,Z,Z⟩ (by rfl) (.inl Z))))))))))))))
   ·refine TL.nil (X.seq (AS Z (C7 c34) (T.skip (X.seq (T.seq (T.region Z (TL.run ah [0] Z Z (TL.q Z .u (AH 0 Z Ea Z Z) Z (TL.q Z .u (AW Z Dr) Z (TL.run ah [3] Z Z (TL.nil (X.seq (T.block ?_)))))))))))))
    obtain⟨E37,hE38,hO39⟩:=C5 h
    have hk43len:=Bm hX32
    refine Bj (fun m e Rs=> ∃ (y35:Int) (k36:Nat),k36+m=x26.CG.length∧e = [(2,jI y35),(3,jI (IntKind.i64.wrap (y20+(IntKind.i64.wrap (10+(IntKind.i64.wrap (100*(x26.CG.length:Int)))))))),(15,.slice (some ⟨gz14,oz14,none⟩) a0.CC.length c2),(16,jI (a0.CC.length:Int)),(17,jI (k6:Int)),(28,.slice (some ⟨gz29,oz29,none⟩) x11.CA.length c16),(29,jI (x11.CA.length:Int)),(30,jI (k21:Int)),(44,.slice A30 x26.CG.length c31),(45,jI (x26.CG.length:Int)),(46,jI (k36:Int))]∧Rs = [aC b33 84 #[jI x26.CX,.slice A30 x26.CG.length c31],aC b18 81 #[jS x11.CM,.slice (some ⟨gz29,oz29,none⟩) x11.CA.length c16],aC b3 50 #[.bool a0.CS.null,jS a0.CS.data,jI a0.CZ,jI a0.CO,.slice (some ⟨gz14,oz14,none⟩) a0.CC.length c2],aD]∧eb (x26.CG.drop k36) y35=some E37) (x26.CG.length) [0,0,0,0] ⟨y19,0,by simp,Z,Z,by rw[List.drop_zero]; exact hE38⟩ (by rfl) (by rfl) ?_
    rintro m40 _ _ ⟨y35,k36,hk43,rfl,rfl,hl42⟩
    clear hE38 h
    cases m40 with
    | zero =>
     have h:=hl42
     clear hl42
     rw[List.drop_of_length_le (by omega),eb] at h
     have hk43ge: ¬ ((k36:Int)<(x26.CG.length:Int)):=by omega
     refine T.seq (T.region Z (TL.run ah [0] Z Z (TL.nil (X.seq (T.seq (AS Z (C7 hk43ge) ?_))))))
     obtain rfl:=C8 h
     replace h:=hO39
     clear hO39
     try dsimp only at h
     exact T.exit (AV (AV (Bh (AZ (X.seq (T.region Z (TL.q Z .u (Ex.add Z Z (by omega)) Z (TL.run ah [1] Z Z (TL.nil (X.back (m':=m25) [1,1,1] (by omega) ⟨y35,(IntKind.i64.wrap (y20+(IntKind.i64.wrap (10+(IntKind.i64.wrap (100*(x26.CG.length:Int))))))),k21+1,by omega,Z,Z,h⟩ (by rfl) (by rfl)))))))))))
    | succ m40 =>
     have h:=hl42
     clear hl42
     obtain⟨x41,hxx41⟩: ∃ x,x26.CG[k36]? = some x:=⟨_,List.getElem?_eq_getElem (by omega)⟩
     rw[aX hxx41,eb] at h
     have hk43lt:(k36:Int)<(x26.CG.length:Int):=by omega
     refine T.seq (T.region Z (TL.run ah [0] Z Z (TL.nil (X.seq (T.seq (AN Z (C6 hk43lt) ?_))))))
     obtain⟨gz44,oz44,rfl,z44cs,z44cl,z44cc,z44nf,z44r⟩:=Bb (by decide) hX32 hxx41
     obtain⟨z44S,z44r,z44rr⟩:=z44r
     obtain⟨A45,c46,rfl,z44s0⟩:=z44r
     have hX47:(RX.of (ar 7 aU) [.slice A45 x41.Cy.length c46] x41.Cy).reads w F:=⟨z44S,z44s0,z44rr⟩
     refine T.skip (X.seq (T.seq (T.block (T.seq (T.region Z ?_)))))
     refine TL.q Z .u (AX (k:=k36) Z Z Z Dr Di (Da hxx41).1) Z ?_
     refine TL.q Z .u (Bn (us := [jI x41.CP,jI x41.CI,.bool x41.CV,.bool x41.C0,.bool x41.CL,jI x41.CN,jI x41.CH,jI x41.CW,jI x41.CE,jI x41.CK,jI x41.CD,.slice A45 x41.Cy.length c46]) 0 Z Dx Di z44nf z44cc Z Z Z) Z (TL.alloc Z .u Tryz.zeroValue27 Z (fun b48=>(A9 (cs':= #[jI x41.CP,jI x41.CI,.bool x41.CV,.bool x41.C0,.bool x41.CL,jI x41.CN,jI x41.CH,jI x41.CW,jI x41.CE,jI x41.CK,jI x41.CD,.slice A45 x41.Cy.length c46]) Z .u Z Z Di Z Z Z Z (TL.nil (X.seq (T.seq (T.region Z (TL.q Z .u (AY (us := [jI x41.CP,jI x41.CI,.bool x41.CV,.bool x41.C0,.bool x41.CL,jI x41.CN,jI x41.CH,jI x41.CW,jI x41.CE,jI x41.CK,jI x41.CD,.slice A45 x41.Cy.length c46]) 0 Z Dx Di Z Z Z) Z ?_))))))))
     obtain⟨x49,hx50,h⟩:=C5 h
     refine Bc Z .u (.fn Tryz.call68 Z) (oz x41 _ _ _ hx50) (fun _ hs=>(Ba hs hX47)) Z (TL.run ah [2] Z Z ?_)
     rcases jF h with⟨c51,h⟩ | ⟨c51,h⟩
     ·refine TL.nil (X.seq (AN Z (C6 c51) (T.seq (T.region Z (TL.run ah [0] Z Z ?_)))))
      obtain rfl:=C8 h
      replace h:=hO39
      clear hO39
      try dsimp only at h
      obtain rfl:=C8 h
      replace h:=hO24
      clear hO24
      try dsimp only at h
      obtain rfl:=C8 h
      replace h:=hO9
      clear hO9
      try dsimp only at h
      obtain rfl:=C8 h
      exact TL.nil (X.seq (T.ret (AU (AL (AL (AU (AU (AL (AL (AU (AU (AL (AL (AU (AL (AJ [4] Fy (AK Z) ⟨Z,Z,Z⟩ (by rfl) (.inl Z)))))))))))))))))
     ·exact TL.nil (X.seq (AS Z (C7 c51) (T.skip (AZ (X.seq (T.region Z (TL.q Z .u (Ex.add Z Z (by omega)) Z (TL.run ah [1] Z Z (TL.nil (X.back (m':=m40) [1,1,1,1] (by omega) ⟨y35,k36+1,by omega,Z,Z,h⟩ (by rfl) (by rfl)))))))))))
def en (a0:aq) (a1:Int):Option (Bool):=(iM).bind fun x4=>if x4=true then ((iT a0).bind fun x7=>if x7=0 then some true else (if 0≤a1 then (if -9223372036854775808≤(a1 % 2)∧(a1 % 2)≤9223372036854775807 then (if -9223372036854775808≤(3+(a1 % 2))∧(3+(a1 % 2))≤9223372036854775807 then ((bu ([],0) a0 (3+(a1 % 2))).bind fun st14=>(jJ st14).bind fun (x16,x17,st18)=>(iw a0).bind fun x20=>(iu x20 (3+(a1 % 2))).bind fun x24=>(if x17=x24 then ((aR a0 (3+(a1 % 2))).bind fun x35=>if x35=x24 then ((eB a0 a0).bind fun x38=>if x38=true then some false else some true) else some true) else some true).bind fun y32=>if y32=true then none else (if x24=0 then ((rp x16).bind fun st43=>(cP st43 (3+(a1 % 2))).bind fun (x46,st49)=>((iw a0).bind fun x80=>(gh x80).bind fun x84=>if x16=x84 then ((iw x46).bind fun x87=>(iw a0).bind fun x92=>(gV x87 x92).bind fun x96=>if x96=true then ((eB x46 a0).bind fun x99=>if x99=true then ((du st49).bind fun (x102,st103)=>if x102=0 then some (true,st103) else some (false,st103)) else some (false,st49)) else some (false,st49)) else some (false,st49)).bind fun (y77,st78)=>some y77) else (if x16 = [] then some true else none))) else none) else none) else none)) else none
theorem f_l20_ProduceWrites_spec (a0:aq) (A1:Option Addr) (c2:Nat) (a1:Int) (r:Bool) (h:en a0 a1=some r):aA Tryz.prog 5 #[.agg #[.bool a0.CS.null,jS a0.CS.data,jI a0.CZ,jI a0.CO,.slice A1 a0.CC.length c2],.int .u8 a1] (RX.of (ar 2 aG) [.slice A1 a0.CC.length c2] a0.CC) (aD) (fun v A' N=>v= .bool r∧A'=aD∧N = []):=by
 refine aM Tryz.func5 Z Tryz.ntmps5 Z ?_
 intro F w hX
 obtain⟨S,hS,hSF⟩:=hX
 have hX:(RX.of (ar 2 aG) [.slice A1 a0.CC.length c2] a0.CC).reads w F:=⟨S,hS,hSF⟩
 unfold en at h
 refine T.seq (T.region Z (TL.box Z .u Z Z (fun b3=>(TL.run ah [1] Z Z ?_))))
 obtain⟨x4,hx5,h⟩:=C5 h
 refine TL.nil (X.seq (T.seq (T.seq (T.region Z (Bc Z .u (.fn Tryz.call17 Z) (nD _ hx5) (fun _ hs=>(AQ _ _)) Z (TL.run ah [1] Z Z ?_))))))
 rcases jF h with⟨c6,h⟩ | ⟨c6,h⟩
 ·refine TL.nil (X.seq (AS Z (ax c6) (T.skip (X.seq (T.seq (T.seq (T.region Z (TL.q Z .u (AY (us := [.bool a0.CS.null,jS a0.CS.data,jI a0.CZ,jI a0.CO,.slice A1 a0.CC.length c2]) 0 Z DX DI Z Z Z) Z ?_))))))))
  obtain⟨x7,hx8,h⟩:=C5 h
  refine Bc Z .u (.fn Tryz.call26 Z) (qQ a0 _ _ _ hx8) (fun _ hs=>(Ba hs hX)) Z (TL.run ah [2] Z Z ?_)
  rcases jF h with⟨c9,h⟩ | ⟨c9,h⟩
  ·refine TL.nil (X.seq (AN Z (C6 c9) (T.seq (T.region Z (TL.run ah [0] Z Z ?_)))))
   obtain rfl:=C8 h
   exact TL.nil (X.seq (T.ret (AL (AJ [1] Tryz.results5 (AK Z) ⟨Z,Z,Z⟩ (by rfl) (.inl Z)))))
  ·refine TL.nil (X.seq (AS Z (C7 c9) (T.skip (X.seq (T.seq (T.region Z ?_))))))
   replace h:=an h
   obtain⟨c10,h⟩:=h
   refine TL.run ah [0] Z Z (TL.q Z .u (Ex.remK Z Z (by omega) c10) Z ?_)
   replace h:=an h
   obtain⟨c11,h⟩:=h
   refine TL.q Z .u (BW Z Ed D7 c11) Z ?_
   replace h:=an h
   obtain⟨c12,h⟩:=h
   refine TL.q Z .u (Ex.add Z Z c12) Z (TL.run ah [4] Z Z (TL.nil (X.seq (T.seq (T.region Z (Ce Z .u Tryz.zeroValue66 Z (fun b13=>(TL.nil (X.seq (T.seq (T.region Z (TL.q Z .u (AY (us := [.bool a0.CS.null,jS a0.CS.data,jI a0.CZ,jI a0.CO,.slice A1 a0.CC.length c2]) 1 Z DX DI Z Z Z) Z ?_))))))))))))
   obtain⟨st14,hx15,h⟩:=C5 h
   refine TL.run ah [1] Z Z (Bu Z .u (.fn Tryz.call27 Z) (fa b13 ([],0) a0 _ _ (3+(a1 % 2)) _ hx15) (fun _ hs=>(Src.old hs hX)) Z ?_)
   obtain⟨⟨x16,x17,st18⟩,hx19,h⟩:=C5 h
   try dsimp only at h
   refine TL.nil (X.seq (T.seq (T.region Z (Bu Z .u (.fn Tryz.call28 Z) (fe b13 st14 _ hx19) (fun _ hs=>(Src.triv _)) Z (TL.run ah [1,2,3,4,5] Z Z (TL.nil (X.seq (T.seq (T.region Z (TL.q Z .u (AY (us := [.bool a0.CS.null,jS a0.CS.data,jI a0.CZ,jI a0.CO,.slice A1 a0.CC.length c2]) 1 Z DX DI Z Z Z) Z ?_))))))))))
   obtain⟨x20,hx23,h⟩:=C5 h
   refine TL.cso  Z .u (.fn Tryz.call23 Z) (g6 a0 _ _ _ hx23) hS hSF Z ?_
   rintro _ _ _ ⟨A21,c22,rfl,rfl,rfl⟩
   refine Bp [0,0,0,0] Z ?_
   obtain⟨x24,hx25,h⟩:=C5 h
   refine TL.run ah [2] Z Z (Bc Z .u (.fn Tryz.call29 Z) (oG x20 _ _ (3+(a1 % 2)) _ hx25) (fun _ hs=>(Ca 0 hs Z sU hSF)) Z (TL.run ah [4] Z Z (TL.nil (X.seq (T.seq (T.seq ?_))))))
   obtain⟨y32,h,hk33⟩:=C5 h
   refine BE (fun e Rs=>e = [(2,jP b3),(4,.bool false),(5,jI (3+(a1 % 2))),(7,jS x16),(9,jI x24),(47,.bool y32)]∧Rs = [RdR (e9 w S (ar 2 cW)) [.slice A21 x20.CC.length c22] x20.CC,ba b13 st18,aC b3 50 #[.bool a0.CS.null,jS a0.CS.data,jI a0.CZ,jI a0.CO,.slice A1 a0.CC.length c2],aD]) ?_ ?_
   ·clear hk33
    refine T.region Z ?_
    rcases jF h with⟨c34,h⟩ | ⟨c34,h⟩
    ·refine TL.run ah [0,1,2,3] Z Z (TL.q Z (.g Z Z (ax (C6 c34))) (AY (us := [.bool a0.CS.null,jS a0.CS.data,jI a0.CZ,jI a0.CO,.slice A1 a0.CC.length c2]) 2 Z DX DI Z Z Z) Z (TL.q Z (.g Z Z (ax (C6 c34))) (AO ah Z) Z ?_))
     obtain⟨x35,hx36,h⟩:=C5 h
     refine Bc Z (.g Z Z (ax (C6 c34))) (.fn Tryz.call30 Z) (bO a0 _ _ (3+(a1 % 2)) _ hx36) (fun _ hs=>(Ba hs hX)) Z ?_
     iterate 2 refine TL.q Z (.g Z Z (ax (C6 c34))) (AO ah Z) Z ?_
     refine TL.q Z .u (AR Z (ax (C6 c34)) Z) Z ?_
     rcases jF h with⟨c37,h⟩ | ⟨c37,h⟩
     ·refine TL.run ah [10] Z Z ?_
      iterate 2 refine TL.q Z (.g Z Z (ax (C6 c37))) (AY (us := [.bool a0.CS.null,jS a0.CS.data,jI a0.CZ,jI a0.CO,.slice A1 a0.CC.length c2]) 2 Z DX DI Z Z Z) Z ?_
      obtain⟨x38,hx39,h⟩:=C5 h
      refine Bc Z (.g Z Z (ax (C6 c37))) (.fn Tryz.call31 Z) (iG a0 _ _ a0 _ _ _ hx39) (fun _ hs=>(BJ (Ba hs hX) (Ba hs hX))) Z (TL.q Z (.g Z Z (ax (C6 c37))) (AO ah Z) Z (TL.q Z .u (AR Z (ax (C6 c37)) Z) Z ?_))
      rcases jF h with⟨c40,h⟩ | ⟨c40,h⟩
      ·cases h
       exact TL.nil (Bw (d:=47) (v':= .bool false) Z (congrArg Value.bool (ax c40)) (A5 [0,0,0,0] ⟨Z,Z⟩ (by rfl) (by rfl)))
      ·replace c40:=Dd c40
       cases h
       exact TL.nil (Bw (d:=47) (v':= .bool true) Z (congrArg Value.bool (aF c40)) (A5 [0,0,0,0] ⟨Z,Z⟩ (by rfl) (by rfl)))
     ·refine TL.run ah [10] Z Z ?_
      iterate 4 refine AM Z (.gn Z Z (aF (C7 c37))) Z ?_
      refine TL.q Z .u (AP Z (aF (C7 c37)) Z) Z ?_
      cases h
      exact TL.nil (A5 [0,0,0,0] ⟨Z,Z⟩ (by rfl) (by rfl))
    ·refine TL.run ah [0,1,2,3] Z Z ?_
     iterate 5 refine AM Z (.gn Z Z (aF (C7 c34))) Z ?_
     refine TL.q Z .u (AP Z (aF (C7 c34)) Z) Z (TL.run ah [10] Z Z ?_)
     iterate 4 refine AM Z (.gn Z Z Z) Z ?_
     refine TL.q Z .u (AP Z Z Z) Z ?_
     cases h
     exact TL.nil (A5 [0,0,0,0] ⟨Z,Z⟩ (by rfl) (by rfl))
   ·rintro _ _ ⟨rfl,rfl⟩
    clear h
    have h:=hk33
    clear hk33
    try dsimp only at h
    rcases jF h with⟨c41,h⟩ | ⟨c41,h⟩
    ·exact X.seq (AN rfl c41 (nomatch h))
    ·replace c41:=Dd c41
     refine X.seq (AS Z c41 (T.skip (X.seq (T.seq (T.seq (T.region Z (TL.run ah [0,1] Z Z ?_)))))))
     rcases jF h with⟨c42,h⟩ | ⟨c42,h⟩
     ·refine TL.nil (X.seq (AS Z (ax (C6 c42)) (T.skip (X.seq (T.seq (T.region Z ?_))))))
      obtain⟨st43,hx44,h⟩:=C5 h
      refine TL.run ah [0] Z Z (B0 Z .u (.fn Tryz.call18 Z) (iN x16 _ hx44) (fun _ hs=>(AQ _ _)) Z ?_)
      rintro _ _ _ ⟨b45,rfl,rfl,rfl⟩
      refine Bp [0,0,0,0,0] Z (TL.run ah [2] Z Z (TL.nil (X.seq (T.seq (T.region Z ?_)))))
      obtain⟨⟨x46,st49⟩,hx50,h⟩:=C5 h
      try dsimp only at h
      refine TL.run ah [0,1] Z Z (TL.cg0 Z .u (.fn Tryz.call19 Z) (mf b45 st43 (3+(a1 % 2)) _ hx50) (fun _ hs=>(Src.triv _)) Z ?_)
      rintro _ _ _ ⟨A47,c48,rfl,rfl,rfl⟩
      refine Bp [0,0,0,0,0,0] Z (TL.alloc Z .u Tryz.zeroValue50 Z (fun b51=>(A9 (cs':= #[.bool x46.CS.null,jS x46.CS.data,jI x46.CZ,jI x46.CO,.slice A47 x46.CC.length c48]) Z .u Z Z DI Z Z Z Z (TL.nil (X.seq (T.seq ?_))))))
      obtain⟨⟨y77,st78⟩,h,hk79⟩:=C5 h
      refine BE (fun e Rs=>e = [(4,.bool y77)]∧Rs = [aC b51 50 #[.bool x46.CS.null,jS x46.CS.data,jI x46.CZ,jI x46.CO,.slice A47 x46.CC.length c48],RdR (ar 2 aG) [.slice A47 x46.CC.length c48] x46.CC,InR b45 st78,RdR (e9 w S (ar 2 cW)) [.slice A21 x20.CC.length c22] x20.CC,ba b13 st18,aC b3 50 #[.bool a0.CS.null,jS a0.CS.data,jI a0.CZ,jI a0.CO,.slice A1 a0.CC.length c2],aD]) ?_ ?_
      ·clear hk79
       refine Bd (.q 0 (.q 1 (.e 2 (.e 3 (.q 4 (.q 5 (.q 6 (.q 8 (.e 7 (.e 9 (.e 10 (.q 11 (.q 12 (.q 13 (.q 14 (.e 15 (.q 16 (.q 17 (.q 18 (.e 19 (.q 20 (.q 21 (.q 22 .nil))))))))))))))))))))))) [0,2,2,2,2] Z jE (NoP.seq (NoP.seq aP)) (by kernel_rfl) ?_
       refine TD.run ah [0] Z Z (TD.q Z .u (AY (us := [.bool a0.CS.null,jS a0.CS.data,jI a0.CZ,jI a0.CO,.slice A1 a0.CC.length c2]) 3 Z DX DI Z Z Z) Z ?_)
       obtain⟨x80,hx83,h⟩:=C5 h
       refine TD.cso  Z .u (.fn Tryz.call23 Z) (g6 a0 _ _ _ hx83) hS hSF Z [1,3,3,3,3] ?_ ?_
       ·rintro _ _ _ ⟨A81,c82,rfl,rfl,rfl⟩
        rfl
       rintro _ _ _ ⟨A81,c82,rfl,rfl,rfl⟩
       refine BF [0,0,0,0,0,0,0,0] Z ?_
       obtain⟨x84,hx85,h⟩:=C5 h
       refine Bk Z .u (.fn Tryz.call25 Z) (oH x80 _ _ _ hx85) (fun _ hs=>(Ca 0 hs Z sU hSF)) Z [1,3,3,3,3] (Z) (TD.q Z .u (Ex.sEq Z Z) Z ?_)
       rcases jF h with⟨c86,h⟩ | ⟨c86,h⟩
       ·refine TD.run ah [5] Z Z (TD.q Z (.g Z Z (C6 c86)) (AY (us := [.bool x46.CS.null,jS x46.CS.data,jI x46.CZ,jI x46.CO,.slice A47 x46.CC.length c48]) 0 Z DX DI Z Z Z) Z (TD.q Z (.g Z Z (C6 c86)) (AY (us := [.bool a0.CS.null,jS a0.CS.data,jI a0.CZ,jI a0.CO,.slice A1 a0.CC.length c2]) 3 Z DX DI Z Z Z) Z ?_))
        obtain⟨x87,hx90,h⟩:=C5 h
        refine BF [2,0,0,0,0,0,0,0] Z ?_
        refine TD.csn 1 Z (.g Z Z (C6 c86)) (.fn Tryz.call23 Z) (g6 x46 _ _ _ hx90) (fun w1 G1 hG=>(Sep.has 0 Z hG (t8 (fun w G h=>tC w G h)))) hSF Z [2,3,3,3,3] ?_ ?_
        ·rintro _ _ _ ⟨A88,c89,rfl,rfl,rfl⟩
         rfl
        rintro _ _ _ ⟨A88,c89,rfl,rfl,rfl⟩
        refine BF [0,0,0,0,0,0,0,0] Z ?_
        obtain⟨x92,hx95,h⟩:=C5 h
        refine TD.cso  Z (.g Z Z (C6 c86)) (.fn Tryz.call23 Z) (g6 a0 _ _ _ hx95) hS hSF Z [3,4,4,4,4] ?_ ?_
        ·rintro _ _ _ ⟨A93,c94,rfl,rfl,rfl⟩
         rfl
        rintro _ _ _ ⟨A93,c94,rfl,rfl,rfl⟩
        refine BF [0,0,0,0,0,0,0,0,0] Z ?_
        obtain⟨x96,hx97,h⟩:=C5 h
        refine Bk Z (.g Z Z (C6 c86)) (.fn Tryz.call22 Z) (pw x87 _ _ x92 _ _ _ hx97) (fun _ hs=>(BJ (Ca 1 hs Z (yO 0 Z) hSF) (Ca 0 hs Z sU hSF))) Z [3,4,4,4,4] (Z) (TD.q Z .u (AP Z (C6 c86) Z) Z ?_)
        rcases jF h with⟨c98,h⟩ | ⟨c98,h⟩
        ·refine TD.run ah [12] Z Z (TD.q Z (.g Z Z c98) (AY (us := [.bool x46.CS.null,jS x46.CS.data,jI x46.CZ,jI x46.CO,.slice A47 x46.CC.length c48]) 0 Z DX DI Z Z Z) Z (TD.q Z (.g Z Z c98) (AY (us := [.bool a0.CS.null,jS a0.CS.data,jI a0.CZ,jI a0.CO,.slice A1 a0.CC.length c2]) 3 Z DX DI Z Z Z) Z ?_))
         obtain⟨x99,hx100,h⟩:=C5 h
         refine Bk Z (.g Z Z c98) (.fn Tryz.call31 Z) (iG x46 _ _ a0 _ _ _ hx100) (fun _ hs=>(BJ (Ca 1 hs Z (yN 0 Z (t8 (fun w G h=>tC w G h))) hSF) (Ba hs hX))) Z [3,4,4,4,4] (Z) (TD.q Z .u (AP Z c98 Z) Z ?_)
         rcases jF h with⟨c101,h⟩ | ⟨c101,h⟩
         ·refine TD.run ah [17] Z Z (TD.q Z (.g Z Z c101) (AO ah Z) Z ?_)
          obtain⟨⟨x102,st103⟩,hx104,h⟩:=C5 h
          try dsimp only at h
          refine TD.c4 Z (.g Z Z c101) (.fn Tryz.call32 Z) (dB b45 st49 _ hx104) (fun _ hs=>(Src.triv _)) Z [3,4,4,4,4] (Z) (TD.q Z (.g Z Z c101) (AO ah Z) Z (TD.q Z .u (AP Z c101 Z) Z (TD.run ah [22] Z Z ?_)))
          rcases jF h with⟨c105,h⟩ | ⟨c105,h⟩
          ·refine TD.nil (X.ungrp 1 Z (Bv [0,0,0,0,0,0,0,0,0] Z ?_))
           cases h
           exact Bw (d:=4) (v':= .bool true) Z (congrArg Value.bool (C6 c105)) (A5 [3,0,2,2,2,2,2] ⟨Z,Z⟩ (by rfl) (by rfl))
          ·refine TD.nil (X.ungrp 1 Z (Bv [0,0,0,0,0,0,0,0,0] Z ?_))
           cases h
           exact Bw (d:=4) (v':= .bool false) Z (congrArg Value.bool (C7 c105)) (A5 [3,0,2,2,2,2,2] ⟨Z,Z⟩ (by rfl) (by rfl))
         ·replace c101:=Dd c101
          refine TD.run ah [17] Z Z (BB Z (.gn Z Z c101) Z (B9 Z (.gn Z Z c101) Z [3,4,4,4,4] Z (BB Z (.gn Z Z c101) Z (TD.q Z .u (AR Z c101 Z) Z (TD.run ah [22] Z Z (TD.nil (X.ungrp 1 Z ?_)))))))
          refine Bv [0,0,0,0,0,0,0,0,0] Z ?_
          cases h
          exact A5 [3,0,2,2,2,2,2] ⟨Z,Z⟩ (by rfl) (by rfl)
        ·replace c98:=Dd c98
         refine TD.run ah [12] Z Z ?_
         iterate 2 refine BB Z (.gn Z Z c98) Z ?_
         refine B9 Z (.gn Z Z c98) Z [3,4,4,4,4] Z (TD.q Z .u (AR Z c98 Z) Z (TD.run ah [17] Z Z (BB Z (.gn Z Z Z) Z (B9 Z (.gn Z Z Z) Z [3,4,4,4,4] Z (BB Z (.gn Z Z Z) Z (TD.q Z .u (AR Z Z Z) Z (TD.run ah [22] Z Z ?_)))))))
         refine TD.nil (X.ungrp 1 Z (Bv [0,0,0,0,0,0,0,0,0] Z ?_))
         cases h
         exact A5 [3,0,2,2,2,2,2] ⟨Z,Z⟩ (by rfl) (by rfl)
       ·refine TD.run ah [5] Z Z ?_
        iterate 2 refine BB Z (.gn Z Z (C7 c86)) Z ?_
        iterate 3 refine B9 Z (.gn Z Z (C7 c86)) Z [1,3,3,3,3] Z ?_
        refine TD.q Z .u (AR Z (C7 c86) Z) Z (TD.run ah [12] Z Z ?_)
        iterate 2 refine BB Z (.gn Z Z Z) Z ?_
        refine B9 Z (.gn Z Z Z) Z [1,3,3,3,3] Z (TD.q Z .u (AR Z Z Z) Z (TD.run ah [17] Z Z (BB Z (.gn Z Z Z) Z (B9 Z (.gn Z Z Z) Z [1,3,3,3,3] Z (BB Z (.gn Z Z Z) Z (TD.q Z .u (AR Z Z Z) Z (TD.run ah [22] Z Z ?_)))))))
        cases h
        exact TD.nil (A5 [1,1,1,1,1,1,1] ⟨Z,Z⟩ (by rfl) (by rfl))
      ·rintro _ _ ⟨rfl,rfl⟩
       clear h
       have h:=hk79
       clear hk79
       try dsimp only at h
       obtain rfl:=C8 h
       exact X.seq (T.ret (AJ [6] Tryz.results5 (AK Z) ⟨Z,Z,Z⟩ (by rfl) (.inl Z)))
     ·refine TL.nil (X.seq (AN Z (aF (C7 c42)) (T.seq (T.region Z (TL.run ah [0] Z Z (TL.q Z .u (Ex.sEq Z (m := []) Z) Z (TL.run ah [2] Z Z ?_)))))))
      rcases jF h with⟨c106,h⟩ | ⟨c106,h⟩
      ·obtain rfl:=C8 h
       exact TL.nil (X.seq (T.ret (AL (AJ [3] Tryz.results5 (AK (v:= .bool true) (congrArg (fun b=>some (Value.bool b)) (C6 c106))) ⟨Z,Z,Z⟩ (by rfl) (.inl Z)))))
      ·exact nomatch h
 ·replace c6:=Dd c6
  exact TL.nil (X.seq (AN rfl (aF c6) (nomatch h)))
theorem zT:iM=some true:=by kernel_rfl
def gW:List Bat→List Bat→Bool
 | x::l,y::m=>mn x y && gW l m
 | _,_=>true
def qsP (p q:ay):Bool:=decide (p.CX=q.CX∧p.CG.length=q.CG.length) && gW p.CG q.CG
def rz:List ay→List ay→Bool
 | x::l,y::m=>qsP x y && rz l m
 | _,_=>true
def qsT (t u:au):Bool:=decide (t.CM=u.CM∧t.CA.length=u.CA.length) && rz t.CA u.CA
def rA:List au→List au→Bool
 | x::l,y::m=>qsT x y && rA l m
 | _,_=>true
def qR (a b:aq):Bool:=decide (a.CS.null=b.CS.null∧a.CS.data=b.CS.data∧a.CZ=b.CZ∧a.CO=b.CO∧a.CC.length=b.CC.length) && rA a.CC b.CC
theorem pc: ∀ l:List Bat,gW l l=true
 | []=>rfl
 | x::l=>by rw[gW,v6,pc l]; rfl
theorem su: ∀ l:List ay,rz l l=true
 | []=>rfl
 | x::l=>by rw[rz,qsP,pc,su l,C6 ⟨rfl,rfl⟩]; rfl
theorem sv: ∀ l:List au,rA l l=true
 | []=>rfl
 | x::l=>by rw[rA,qsT,su,sv l,C6 ⟨rfl,rfl⟩]; rfl
theorem kH (a:aq):qR a a=true:=by
 unfold qR
 rw[sv,C6 ⟨rfl,rfl,rfl,rfl,rfl⟩]; rfl
theorem uE (p:ay) (y:Bool): ∀ (l m:List Bat) (k:Nat),p.CG.drop k=m→l.length=m.length→cQ p l y k=some (if gW l m=true then .go y else .ret false)
 | [],m,k,h,hl=>rfl
 | x::l,v::m,k,h,hl=>by
  obtain⟨k1,k2,k3⟩:=aW h
  rw[Dh,Dh] at hl
  rw[cQ,k1,C9,ry,C9,gW,uE p y l m (k+1) k2 (by omega)]
  cases mn x v <;> rfl
theorem uF (t:au) (y:Bool): ∀ (l m:List ay) (k:Nat),t.CA.drop k=m→l.length=m.length→cR t l y k=some (if rz l m=true then .go y else .ret false)
 | [],m,k,h,hl=>rfl
 | x::l,v::m,k,h,hl=>by
  obtain⟨k1,k2,k3⟩:=aW h
  rw[Dh,Dh] at hl
  rw[cR,k1,C9,rz,qsP]
  by_cases c1:x.CX=v.CX
  ·rw[if_pos c1]
   by_cases c2:x.CG.length=v.CG.length
   ·rw[if_pos (by omega),C9,if_neg (by decide),uE v y x.CG v.CG 0 rfl c2,C6 (⟨c1,c2⟩:x.CX=v.CX∧x.CG.length=v.CG.length)]
    cases gW x.CG v.CG
    ·rfl
    ·rw[if_pos rfl,C9]
     dsimp only
     rw[uF t y l m (k+1) k2 (by omega)]
     rfl
   ·rw[if_neg (by omega),C9,if_pos rfl,C7 (fun h=>c2 h.2)]
    rfl
  ·rw[if_neg c1,C9,if_pos rfl,C7 (fun h=>c1 h.1)]
   rfl
theorem uG (b:aq) (y:Bool): ∀ (l m:List au) (k:Nat),b.CC.drop k=m→l.length=m.length→cT b l y k=some (if rA l m=true then .go y else .ret false)
 | [],m,k,h,hl=>rfl
 | x::l,v::m,k,h,hl=>by
  obtain⟨k1,k2,k3⟩:=aW h
  rw[Dh,Dh] at hl
  rw[cT,k1,C9,rA,qsT]
  by_cases c1:x.CM=v.CM
  ·rw[if_pos c1]
   by_cases c2:x.CA.length=v.CA.length
   ·rw[if_pos (by omega),C9,if_neg (by decide),uF v y x.CA v.CA 0 rfl c2,C6 (⟨c1,c2⟩:x.CM=v.CM∧x.CA.length=v.CA.length)]
    cases rz x.CA v.CA
    ·rfl
    ·rw[if_pos rfl,C9]
     dsimp only
     rw[uG b y l m (k+1) k2 (by omega)]
     rfl
   ·rw[if_neg (by omega),C9,if_pos rfl,C7 (fun h=>c2 h.2)]
    rfl
  ·rw[if_neg c1,C9,if_pos rfl,C7 (fun h=>c1 h.1)]
   rfl
theorem kI (a b:aq):eB a b=some (qR a b):=by
 unfold eB qR
 by_cases c1:a.CS.null=b.CS.null
 rotate_left
 ·rw[if_neg c1,C9,if_pos rfl,C7 (fun h=>c1 h.1)]; rfl
 by_cases c2:a.CS.data=b.CS.data
 rotate_left
 ·rw[if_pos c1,if_neg c2,C9,if_pos rfl,C7 (fun h=>c2 h.2.1)]; rfl
 by_cases c3:a.CZ=b.CZ
 rotate_left
 ·rw[if_pos c1,if_pos c2,if_neg c3,C9,if_pos rfl,C7 (fun h=>c3 h.2.2.1)]; rfl
 by_cases c4:a.CO=b.CO
 rotate_left
 ·rw[if_pos c1,if_pos c2,if_pos c3,if_neg c4,C9,if_pos rfl,C7 (fun h=>c4 h.2.2.2.1)]; rfl
 by_cases c5:a.CC.length=b.CC.length
 rotate_left
 ·rw[if_pos c1,if_pos c2,if_pos c3,if_pos c4,if_neg (by omega),C9,if_pos rfl,C7 (fun h=>c5 h.2.2.2.2)]; rfl
 rw[if_pos c1,if_pos c2,if_pos c3,if_pos c4,if_pos (by omega),C9,if_neg (by decide),uG b false a.CC b.CC 0 rfl c5,C6 ⟨c1,c2,c3,c4,c5⟩,Bool.true_and]
 cases rA a.CC b.CC <;> rfl
def ofP (p:ay):fS:=⟨p.CX,p.CG⟩
def ofT (t:au):ca:=⟨t.CM,t.CA.map ofP⟩
def ofQ (a:aq):bg:=⟨a.CS,a.CZ,a.CO,a.CC.map ofT⟩
theorem xe: ∀ (l:List ay) (acc:List fS),(acc.length+l.length)*32≤140737488355328→fx l acc=some (acc++l.map ofP)
 | [],acc,_=>by rw[List.map_nil,DS]; rfl
 | x::l,acc,h=>by
  rw[Dh] at h
  rw[fx,if_pos (by omega),xe l _ (by rw[Db,Ee]; omega),Df]
  rfl
theorem xf: ∀ (l:List au) (acc:List ca),(acc.length+l.length)*40≤140737488355328→(∀ t,t∈l→t.CA.length*32≤140737488351232)→fy l acc=some (acc++l.map ofT)
 | [],acc,_,_=>by rw[List.map_nil,DS]; rfl
 | x::l,acc,h,hp=>by
  have hx:=hp x (.head _)
  rw[Dh] at h
  rw[fy,xe x.CA [] (by rw[Eo]; omega),C9,if_pos (by omega),xf l _ (by rw[Db,Ee]; omega) (fun t ht=>hp t (.tail _ ht)),Df]
  rfl
def smBs (l:List Bat):Prop:= ∀ b,b∈l→smB b∧(body b).length≤12000
theorem sw (a b:List Bat) (hn:a.length≤140737488351232) (y:Bool): ∀ (l m:List Bat) (k fuel:Nat),a.drop k=l→b.drop k=m→l.length=m.length→l.length<fuel→(∀ x,x∈l→bnB x)→ ∃ z,dE a b fuel y k=some (if gW l m=true then .go (y,z) else .ret false)
 | [],m,k,fuel+1,h1,h2,hl,hf,_=>by
  have:=bM h1
  exact⟨k,by rw[dE,if_neg (by omega)]; rfl⟩
 | x::l,v::m,k,fuel+1,h1,h2,hl,hf,hw=>by
  obtain⟨g1,g2,g3⟩:=aW h1
  obtain⟨k1,k2,k3⟩:=aW h2
  have hx:=hw x (.head _)
  rw[Dh] at hf
  rw[Dh,Dh] at hl
  obtain⟨z,hz⟩:=sw a b hn y l m (k+1) fuel g2 k2 (by omega) (by omega) (fun u hu=>hw u (.tail _ hu))
  refine⟨z,?_⟩
  rw[dE,if_pos (by omega),g1,C9,k1,C9,zR hx.2.1 (fun z hz=>(hx.2.2 z hz).1),C9,gW,if_pos (show -9223372036854775808≤(k:Int)+1∧(k:Int)+1≤9223372036854775807 by omega),hz]
  cases mn x v <;> rfl
theorem zU {a b:List Bat} (hn:a.length≤140737488351232) (hw: ∀ x,x∈a→bnB x):gM a b=some (decide (a.length=b.length) && gW a b):=by
 unfold gM
 by_cases c:a.length=b.length
 ·obtain⟨z,hz⟩:=sw a b hn false a b 0 (((a.length:Int)).toNat+1) rfl rfl c (by omega) hw
  rw[if_pos (by omega),hz,C6 c,Bool.true_and]
  cases gW a b <;> rfl
 ·rw[if_neg (by omega),C7 c]
  rfl
def bnT (t:au):Prop:=t.CA.length≤140737488351232∧ ∀ p,p∈t.CA→p.CG.length≤140737488351232∧ ∀ b,b∈p.CG→bnB b
theorem xg (t u:au) (hn:t.CA.length≤140737488351232) (y:Bool): ∀ (l m:List ay) (k fuel:Nat),t.CA.drop k=l→u.CA.drop k=m→l.length=m.length→l.length<fuel→(∀ p,p∈l→p.CG.length≤140737488351232∧ ∀ b,b∈p.CG→bnB b)→ ∃ z,dc (ofT t) (ofT u) fuel y k=some (if rz l m=true then .go (y,z) else .ret false)
 | [],m,k,fuel+1,h1,h2,hl,hf,_=>by
  have:=bM h1
  exact⟨k,by rw[dc,if_neg (by show ¬ (k:Int)<((t.CA.map ofP).length:Int); rw[Dy]; omega)]; rfl⟩
 | x::l,v::m,k,fuel+1,h1,h2,hl,hf,hw=>by
  obtain⟨g1,g2,g3⟩:=aW h1
  obtain⟨k1,k2,k3⟩:=aW h2
  have hx:=hw x (.head _)
  rw[Dh] at hf
  rw[Dh,Dh] at hl
  obtain⟨z,hz⟩:=xg t u hn y l m (k+1) fuel g2 k2 (by omega) (by omega) (fun q hq=>hw q (.tail _ hq))
  refine⟨z,?_⟩
  have e1:(ofT t).CA[k]? = some (ofP x):=by show (t.CA.map ofP)[k]? = _; rw[List.getElem?_map,g1]; rfl
  have e2:(ofT u).CA[k]? = some (ofP v):=by show (u.CA.map ofP)[k]? = _; rw[List.getElem?_map,k1]; rfl
  have e3:gM (ofP x).CG (ofP v).CG=some (decide (x.CG.length=v.CG.length) && gW x.CG v.CG):=zU hx.1 hx.2
  rw[dc,if_pos (by show (k:Int)<((t.CA.map ofP).length:Int); rw[Dy]; omega),e1,C9,e2,C9,e3,if_pos (show -9223372036854775808≤(k:Int)+1∧(k:Int)+1≤9223372036854775807 by omega),hz,rz,qsP]
  show ((if x.CX=v.CX then _ else some true).bind _)= _
  by_cases c1:x.CX=v.CX
  ·rw[if_pos c1,C9]
   by_cases c2:x.CG.length=v.CG.length
   ·rw[C6 c2,C6 (⟨c1,c2⟩:x.CX=v.CX∧x.CG.length=v.CG.length)]
    cases gW x.CG v.CG <;> rfl
   ·rw[C7 c2,C7 (fun h:x.CX=v.CX∧x.CG.length=v.CG.length=>c2 h.2)]
    rfl
  ·rw[if_neg c1,C7 (fun h:x.CX=v.CX∧x.CG.length=v.CG.length=>c1 h.1)]
   rfl
theorem xh (a b:aq) (hn:a.CC.length≤140737488351232) (y:Bool): ∀ (l m:List au) (k fuel:Nat),a.CC.drop k=l→b.CC.drop k=m→l.length=m.length→l.length<fuel→(∀ t,t∈l→bnT t)→ ∃ z,de (ofQ a) (ofQ b) fuel y k=some (if rA l m=true then .go (y,z) else .ret false)
 | [],m,k,fuel+1,h1,h2,hl,hf,_=>by
  have:=bM h1
  exact⟨k,by rw[de,if_neg (by show ¬ (k:Int)<((a.CC.map ofT).length:Int); rw[Dy]; omega)]; rfl⟩
 | x::l,v::m,k,fuel+1,h1,h2,hl,hf,hw=>by
  obtain⟨g1,g2,g3⟩:=aW h1
  obtain⟨k1,k2,k3⟩:=aW h2
  have hx:=hw x (.head _)
  rw[Dh] at hf
  rw[Dh,Dh] at hl
  obtain⟨z,hz⟩:=xh a b hn y l m (k+1) fuel g2 k2 (by omega) (by omega) (fun q hq=>hw q (.tail _ hq))
  refine⟨z,?_⟩
  have e1:(ofQ a).CC[k]? = some (ofT x):=by show (a.CC.map ofT)[k]? = _; rw[List.getElem?_map,g1]; rfl
  have e2:(ofQ b).CC[k]? = some (ofT v):=by show (b.CC.map ofT)[k]? = _; rw[List.getElem?_map,k1]; rfl
  have e4:(ofT x).CA.length=x.CA.length:=Dy _
  have e5:(ofT v).CA.length=v.CA.length:=Dy _
  rw[de,if_pos (by show (k:Int)<((a.CC.map ofT).length:Int); rw[Dy]; omega),e1,C9,e2,C9,e4,e5,rA,qsT]
  show ((if x.CM=v.CM then _ else some true).bind _)= _
  by_cases c1:x.CM=v.CM
  ·rw[if_pos c1]
   by_cases c2:x.CA.length=v.CA.length
   ·obtain⟨z2,hz2⟩:=xg x v hx.1 y x.CA v.CA 0 (((x.CA.length:Int)).toNat+1) rfl rfl c2 (by omega) hx.2
    rw[if_pos (by omega),C9,if_neg (by decide),hz2,C6 (⟨c1,c2⟩:x.CM=v.CM∧x.CA.length=v.CA.length),Bool.true_and]
    cases rz x.CA v.CA
    ·rfl
    ·rw[if_pos rfl,C9]
     dsimp only
     rw[if_pos (show -9223372036854775808≤(k:Int)+1∧(k:Int)+1≤9223372036854775807 by omega),hz]
     rfl
   ·rw[if_neg (by omega),C9,if_pos rfl,C7 (fun h:x.CM=v.CM∧x.CA.length=v.CA.length=>c2 h.2)]
    rfl
  ·rw[if_neg c1,C9,if_pos rfl,C7 (fun h:x.CM=v.CM∧x.CA.length=v.CA.length=>c1 h.1)]
   rfl
theorem zV {a b:aq} (hn:a.CC.length≤140737488351232) (hw: ∀ t,t∈a.CC→bnT t):gV (ofQ a) (ofQ b)=some (qR a b):=by
 have e4:(ofQ a).CC.length=a.CC.length:=Dy _
 have e5:(ofQ b).CC.length=b.CC.length:=Dy _
 unfold gV qR
 rw[e4,e5]
 show ((if a.CS.null=b.CS.null then (if a.CS.data=b.CS.data then (if a.CZ=b.CZ then (if a.CO=b.CO then _ else some true) else some true) else some true) else some true).bind _)= _
 by_cases c1:a.CS.null=b.CS.null
 rotate_left
 ·rw[if_neg c1,C9,if_pos rfl,C7 (fun h=>c1 h.1)]; rfl
 by_cases c2:a.CS.data=b.CS.data
 rotate_left
 ·rw[if_pos c1,if_neg c2,C9,if_pos rfl,C7 (fun h=>c2 h.2.1)]; rfl
 by_cases c3:a.CZ=b.CZ
 rotate_left
 ·rw[if_pos c1,if_pos c2,if_neg c3,C9,if_pos rfl,C7 (fun h=>c3 h.2.2.1)]; rfl
 by_cases c4:a.CO=b.CO
 rotate_left
 ·rw[if_pos c1,if_pos c2,if_pos c3,if_neg c4,C9,if_pos rfl,C7 (fun h=>c4 h.2.2.2.1)]; rfl
 by_cases c5:a.CC.length=b.CC.length
 rotate_left
 ·rw[if_pos c1,if_pos c2,if_pos c3,if_pos c4,if_neg (by omega),C9,if_pos rfl,C7 (fun h=>c5 h.2.2.2.2)]; rfl
 obtain⟨z,hz⟩:=xh a b hn false a.CC b.CC 0 (((a.CC.length:Int)).toNat+1) rfl rfl c5 (by omega) hw
 rw[if_pos c1,if_pos c2,if_pos c3,if_pos c4,if_pos (by omega),C9,if_neg (by decide),hz,C6 ⟨c1,c2,c3,c4,c5⟩,Bool.true_and]
 cases rA a.CC b.CC <;> rfl
theorem uH (y:Int): ∀ l:List Bat,(∀ b,b∈l→jG b)→eb l y=some (.ret 0)∨(eb l y=some (.go y)∧smBs l)
 | [],_=> .inr ⟨rfl,fun x h=>nomatch h⟩
 | x::l,h=>by
  rw[eb]
  rcases AC x (h x (.head _)) with g | ⟨g,g1,g2⟩
  ·rw[g]
   exact .inl rfl
  ·rw[g,C9,if_neg (by decide)]
   rcases uH y l (fun z hz=>h z (.tail _ hz)) with k | ⟨k,k2⟩
   ·exact .inl k
   ·refine .inr ⟨k,fun z hz=> ?_⟩
    rcases List.mem_cons.1 hz with rfl | hz
    ·exact yn (h _ (.head _)) g1 g2
    ·exact k2 z hz
def nP (n:Int) (p:ay):Int:=IntKind.i64.wrap (n+IntKind.i64.wrap (10+IntKind.i64.wrap (100*(p.CG.length:Int))))
def nPs:Int→List ay→Int
 | n,[]=>n
 | n,p::l=>nPs (nP n p) l
def okFp:Int→List ay→Prop
 | _,[]=>True
 | n,p::l=>nP n p≤2000∧smBs p.CG∧okFp (nP n p) l
theorem uI (y:Int): ∀ (l:List ay) (n:Int),(∀ p,p∈l→iW p)→dg l y n=some (.ret 0)∨(dg l y n=some (.go (y,nPs n l))∧okFp n l)
 | [],n,_=> .inr ⟨rfl,trivial⟩
 | p::l,n,h=>by
  rw[dg]
  show (if nP n p>2000 then _ else _)= _∨(if nP n p>2000 then _ else _)= _∧ _
  by_cases hc:nP n p>2000
  ·rw[if_pos hc]
   exact .inl rfl
  rw[if_neg hc]
  rcases uH y p.CG (h p (.head _)).2.2 with g | ⟨g,g2⟩
  ·rw[g]
   exact .inl rfl
  ·rw[g,C9]
   rcases uI y l (nP n p) (fun q hq=>h q (.tail _ hq)) with k | ⟨k,k2⟩
   ·exact .inl k
   ·exact .inr ⟨k,by omega,g2,k2⟩
def nT (n:Int) (t:au):Int:=IntKind.i64.wrap (n+IntKind.i64.wrap ((t.CM.length:Int)+10))
def nTs:Int→List au→Int
 | n,[]=>n
 | n,t::l=>nTs (nPs (nT n t) t.CA) l
def v9:Int→List au→Prop
 | _,[]=>True
 | n,t::l=>okFp (nT n t) t.CA∧v9 (nPs (nT n t) t.CA) l
theorem uJ (y:Int): ∀ (l:List au) (n:Int),(∀ t,t∈l→iz t)→ec l y n=some (.ret 0)∨(ec l y n=some (.go (y,nTs n l))∧v9 n l)
 | [],n,_=> .inr ⟨rfl,trivial⟩
 | t::l,n,h=>by
  rw[ec]
  show ((dg t.CA y (nT n t)).bind _)= _∨((dg t.CA y (nT n t)).bind _)= _∧ _
  rcases uI y t.CA (nT n t) (h t (.head _)).2.2 with g | ⟨g,g2⟩
  ·rw[g]
   exact .inl rfl
  ·rw[g,C9]
   rcases uJ y l (nPs (nT n t) t.CA) (fun q hq=>h q (.tail _ hq)) with k | ⟨k,k2⟩
   ·exact .inl k
   ·exact .inr ⟨k,g2,k2⟩
theorem q_few {a:aq} (hw:dU a):iT a=some 0∨(iT a=some 1∧v9 (a.CS.data.length:Int) a.CC∧nTs (a.CS.data.length:Int) a.CC≤2000):=by
 unfold iT
 rcases uJ 0 a.CC (a.CS.data.length:Int) hw.2.2.2.2 with g | ⟨g,g2⟩
 ·rw[g]
  exact .inl rfl
 ·rw[g,C9]
  dsimp only
  by_cases hc:nTs (a.CS.data.length:Int) a.CC>2000
  ·rw[if_pos hc]
   exact .inl rfl
  ·rw[if_neg hc]
   exact .inr ⟨rfl,g2,by omega⟩
theorem uK: ∀ {l:List ay} {n:Int},okFp n l→ ∀ p,p∈l→smBs p.CG
 | q::l,n,h,p,hp=>by
  rcases List.mem_cons.1 hp with rfl | hp
  ·exact h.2.1
  ·exact uK h.2.2 p hp
theorem nE: ∀ {l:List au} {n:Int},v9 n l→ ∀ t,t∈l→ ∀ p,p∈t.CA→smBs p.CG
 | u::l,n,h,t,ht=>by
  rcases List.mem_cons.1 ht with rfl | ht
  ·exact uK h.1
  ·exact nE h.2 t ht
theorem lW {α:Type} {l:List α} {k:Nat} {x:α} {t:List α} (h:l.drop k=x::t):l[k]? = some x∧l.drop (k+1)=t∧l.length=k+1+t.length:=by
 have hl:=congrArg List.length h
 rw[Dn,Dh] at hl
 refine⟨?_,?_,by omega⟩
 ·have:=congrArg (fun z=>z[0]?) h
  simpa using this
 ·rw[← DW,h]
  rfl
theorem lK {α:Type} {l:List α} {k:Nat} (h:l.drop k = []):l.length≤k:=List.drop_eq_nil_iff.1 h
def up {α:Type} (lt:α→α→Bool):Option α→List α→Bool
 | _,[]=>true
 | none,x::t=>up lt (some x) t
 | some p,x::t=>lt p x && up lt (some x) t
def ltI (a b:Int):Bool:=decide (a<b)
def okn (n:Int):Bool:=decide (0≤n) && decide (n≤2147483647)
def okps (l:List Int):Bool:=l.all okn && up ltI none l && !l.isEmpty
def rB (t:Top):Bool:= !t.CM.isEmpty && decide (t.CM.length≤32767) && okps t.CA
def wa (l:List Top):Bool:=l.all rB && up Op.bytesLess none (l.map (·.CM))
theorem xi (x:Top): ∀ (fuel:Nat) (y:Bool) (k:Nat),db x fuel y k=bW x fuel y k
 | 0,y,k=>rfl
 | fuel+1,y,k=>by
  rw[db,bW]
  simp only[xi x fuel]
theorem qS (a b:List UInt8) (ha:a.length≤140737488355328) (y:Bool): ∀ (u v:List UInt8) (k fuel:Nat),a.drop k=u→b.drop k=v→v.length<fuel→k≤a.length→k≤b.length→(∃ r,cH a b fuel y k=some (.ret r)∧r=Op.bytesLess u v)∨(∃ z,cH a b fuel y k=some (.go z)∧Op.bytesLess u v=decide (a.length<b.length))
 | [],v,k,fuel+1,hu,hv,hf,h1,h2=>by
  have:=lK hu
  right
  refine⟨(y,k),by rw[cH,if_neg (by omega)],?_⟩
  cases v with
  | nil =>
   have:=lK hv
   simp[Op.bytesLess]
   omega
  | cons c v =>
   have:=(lW hv).2.2
   simp[Op.bytesLess]
   omega
 | c::u,[],k,fuel+1,hu,hv,hf,h1,h2=>by
  have g1:=lK hv
  have g2:=(lW hu).2.2
  right
  refine⟨(y,k),by rw[cH,if_pos (by omega),if_neg (by omega)],?_⟩
  simp[Op.bytesLess]
  omega
 | c::u,d::v,k,fuel+1,hu,hv,hf,h1,h2=>by
  obtain⟨u1,u2,u3⟩:=lW hu
  obtain⟨v1,v2,v3⟩:=lW hv
  rw[Dh] at hf
  rw[cH,if_pos (by omega),if_pos (by omega),u1,v1]
  simp only[C9]
  by_cases hc:(c.toNat:Int)=(d.toNat:Int)
  ·have hcd:c=d:=UInt8.toNat_inj.1 (by omega)
   rw[if_pos hc,if_pos (by omega)]
   have:=qS a b ha y u v (k+1) fuel u2 v2 (by omega) (by omega) (by omega)
   have hb:Op.bytesLess (c::u) (d::v)=Op.bytesLess u v:=by
    rw[hcd]
    simp[Op.bytesLess]
   rw[hb]
   exact this
  ·rw[if_neg hc]
   left
   have hcd:c≠d:=fun h=>hc (by rw[h])
   by_cases hl:(c.toNat:Int)<(d.toNat:Int)
   ·refine⟨true,by rw[if_pos hl],?_⟩
    have:c<d:=UInt8.lt_iff_toNat_lt.2 (by omega)
    simp[Op.bytesLess,this]
   ·refine⟨false,by rw[if_neg hl],?_⟩
    have: ¬ c<d:=fun h=>hl (by have:=UInt8.lt_iff_toNat_lt.1 h; omega)
    simp[Op.bytesLess,this,hcd]
theorem zW (a b:List UInt8) (ha:a.length≤140737488355328):gT a b=some (Op.bytesLess a b):=by
 unfold gT
 rcases qS a b ha false a b 0 (((b.length:Int)).toNat+1) rfl rfl (by omega) (DV _) (DV _) with⟨r,h1,h2⟩ | ⟨z,h1,h2⟩
 ·rw[show ((0:Nat))=0 from rfl] at h1
  rw[h1,h2]
  rfl
 ·rw[h1,h2]
  simp only[C9]
  by_cases h:a.length<b.length
  ·rw[if_pos (by omega)]
   simp[h]
  ·rw[if_neg (by omega)]
   simp[h]
theorem uL (x:Top) (hb:x.CA.length≤140737488355328) (y:Bool): ∀ (t:List Int) (p:Option Int) (k fuel:Nat),x.CA.drop k=t→t.length<fuel→(k=0→p=none)→(0<k→x.CA[k - 1]? = p∧p≠none)→ ∃ z,bW x fuel y k=some (if (t.all okn && up ltI p t)=true then .go (y,z) else .ret false)
 | [],p,k,fuel+1,h,hf,h0,h1=>by
  have:=lK h
  refine⟨k,?_⟩
  rw[bW,if_neg (by omega)]
  cases p <;> rfl
 | n::t,p,k,fuel+1,h,hf,h0,h1=>by
  obtain⟨g1,g2,g3⟩:=lW h
  rw[Dh] at hf
  obtain⟨z,hz⟩:=uL x hb y t (some n) (k+1) fuel g2 (by omega) (fun h=>absurd h (by omega)) (fun _=>⟨g1,by simp⟩)
  rw[bW,if_pos (by omega),g1]
  simp only[C9]
  rw[List.all_cons]
  by_cases c1:n<0
  ·refine⟨0,?_⟩
   rw[if_pos c1,if_neg]
   simp only[okn,Bool.and_eq_true,decide_eq_true_eq]
   omega
  by_cases c2:n>2147483647
  ·refine⟨0,?_⟩
   rw[if_neg c1,if_pos c2,if_neg]
   simp only[okn,Bool.and_eq_true,decide_eq_true_eq]
   omega
  rw[if_neg c1,if_neg c2]
  have ho:okn n=true:=by simp only[okn,Bool.and_eq_true,decide_eq_true_eq]; omega
  rcases Nat.eq_zero_or_pos k with hk | hk
  ·obtain rfl:=h0 hk
   refine⟨z,?_⟩
   rw[if_neg (by omega),if_pos (by omega),hz,ho,Bool.true_and,show up ltI none (n::t)=up ltI (some n) t from rfl]
  ·obtain⟨e1,e2⟩:=h1 hk
   rw[if_pos (by omega),if_pos (by omega),if_pos (by omega),show ((k:Int) - 1).toNat=k - 1 by omega,e1]
   cases p with
   | none=>exact absurd rfl e2
   | some q =>
    simp only[C9]
    by_cases hc:q<n
    ·refine⟨z,?_⟩
     rw[if_neg (by omega),if_pos (by omega),hz,ho,Bool.true_and]
     simp only[up,ltI,hc,decide_true,Bool.true_and]
    ·refine⟨0,?_⟩
     rw[if_pos (by omega),if_neg]
     simp only[up,ltI,hc,decide_false,Bool.false_and,Bool.and_false,Bool.false_eq_true,not_false_eq_true]
theorem uM (a0:List Top) (hb:a0.length≤140737488355328) (hw: ∀ t,t∈a0→t.CA.length≤140737488355328∧t.CM.length≤140737488355328) (y:Bool): ∀ (t:List Top) (p:Option Top) (k fuel:Nat),a0.drop k=t→t.length<fuel→(k=0→p=none)→(0<k→a0[k - 1]? = p∧p≠none)→ ∃ z,cw a0 fuel y k=some (if (t.all rB && up Op.bytesLess (p.map (·.CM)) (t.map (·.CM)))=true then .go (y,z) else .ret false)
 | [],p,k,fuel+1,h,hf,h0,h1=>by
  have:=lK h
  refine⟨k,?_⟩
  rw[cw,if_neg (by omega)]
  cases p <;> rfl
 | x::t,p,k,fuel+1,h,hf,h0,h1=>by
  obtain⟨g1,g2,g3⟩:=lW h
  have hx:=hw x (List.mem_of_getElem? g1)
  rw[Dh] at hf
  obtain⟨z,hz⟩:=uM a0 hb hw y t (some x) (k+1) fuel g2 (by omega) (fun h=>absurd h (by omega)) (fun _=>⟨g1,by simp⟩)
  rw[cw,if_pos (by omega),g1,C9]
  rw[List.all_cons,List.map_cons]
  by_cases c1:(x.CM.length:Int)<1
  ·refine⟨0,?_⟩
   have:x.CM = []:=List.length_eq_zero_iff.1 (by omega)
   rw[if_pos c1,if_neg]
   simp[rB,this]
  by_cases c2:(x.CM.length:Int)>32767
  ·refine⟨0,?_⟩
   rw[if_neg c1,if_pos c2,if_neg]
   simp[rB,show ¬ x.CM.length≤32767 by omega]
  by_cases c3:(x.CA.length:Int)<1
  ·refine⟨0,?_⟩
   have:x.CA = []:=List.length_eq_zero_iff.1 (by omega)
   rw[if_neg c1,if_neg c2,if_pos c3,if_neg]
   simp[rB,okps,this]
  rw[if_neg c1,if_neg c2,if_neg c3]
  have hne:x.CM.isEmpty=false:=by cases hh:x.CM with | nil=>rw[hh] at c1; simp at c1 | cons c u=>rfl
  have hnp:x.CA.isEmpty=false:=by cases hh:x.CA with | nil=>rw[hh] at c3; simp at c3 | cons c u=>rfl
  have ho:rB x=(x.CA.all okn && up ltI none x.CA):=by
   simp[rB,okps,hne,hnp,show x.CM.length≤32767 by omega]
  obtain⟨z2,hz2⟩:=uL x hx.1 y x.CA none 0 (((x.CA.length:Int)).toNat+1) rfl (by omega) (fun _=>rfl) (fun h=>absurd h (by omega))
  rw[ho]
  rcases Nat.eq_zero_or_pos k with hk | hk
  ·obtain rfl:=h0 hk
   rw[if_neg (by omega),xi,hz2]
   cases hq:(x.CA.all okn && up ltI none x.CA) with
   | false=>exact⟨0,by simp⟩
   | true =>
    refine⟨z,?_⟩
    rw[if_pos rfl,C9,Bool.true_and]
    simp only
    rw[if_pos (by omega),hz,show (none:Option Top).map (·.CM)=none from rfl,show up Op.bytesLess none (x.CM::t.map (·.CM))=up Op.bytesLess (some x.CM) (t.map (·.CM)) from rfl]
    rfl
  ·obtain⟨e1,e2⟩:=h1 hk
   rw[if_pos (by omega),if_pos (by omega),if_pos (by omega),show ((k:Int) - 1).toNat=k - 1 by omega,e1]
   cases p with
   | none=>exact absurd rfl e2
   | some q =>
    rw[C9]
    rw[zW _ _ (hw q (List.mem_of_getElem? e1)).2]
    rw[C9,show (some q).map (·.CM)=some q.CM from rfl,show up Op.bytesLess (some q.CM) (x.CM::t.map (·.CM))=(Op.bytesLess q.CM x.CM && up Op.bytesLess (some x.CM) (t.map (·.CM))) from rfl]
    cases hc:Op.bytesLess q.CM x.CM with
    | false=>exact⟨0,by simp⟩
    | true =>
     rw[if_pos rfl,hz2]
     cases hq:(x.CA.all okn && up ltI none x.CA) with
     | false=>exact⟨0,by simp⟩
     | true =>
      refine⟨z,?_⟩
      rw[if_pos rfl,C9,Bool.true_and]
      simp only
      rw[if_pos (by omega),hz]
      rfl
theorem zX (a0:List Top) (hb:a0.length≤140737488355328) (hw: ∀ t,t∈a0→t.CA.length≤140737488355328∧t.CM.length≤140737488355328):jo a0=some (wa a0):=by
 unfold jo wa
 obtain⟨z,hz⟩:=uM a0 hb hw false a0 none 0 (((a0.length:Int)).toNat+1) rfl (by omega) (fun _=>rfl) (fun h=>absurd h (by omega))
 rw[show (none:Option Top).map (·.CM)=none from rfl] at hz
 rw[hz]
 cases (a0.all rB && up Op.bytesLess none (a0.map (·.CM))) <;> rfl
end Go.Proofs.YtcoppaggpbfcmaaGreat.Sl
