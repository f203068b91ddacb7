/- ScanRows: for every input the law returns true, and its arguments read behind the call as they did before. -/
import Derived.Test.YtahjmpipllajcaaGreatRows
import Derived.WalkKit
import Derived.ProofKit
import Derived.OpenShut
import Derived.ShutString
import Derived.ChangeOld
import Derived.Below
import Derived.SizedLaws
import Derived.Test.YtahjmpipllajcaaGreatK6
set_option maxRecDepth 100000
set_option maxHeartbeats 4000000
set_option linter.defProp false
namespace Go.Proofs.YtahjmpipllajcaaGreat.Sl
open Go.RowKit
set_option linter.unusedVariables false
set_option linter.unusedSimpArgs false
def yT := @Tryz.eqGuardType36
def zt := @Tryz.runUnderlying30
def le:dY := [(30,0,0),(30,1,1),(30,2,2),(30,3,3)]
theorem ag:(le).OK Tryz.prog:=⟨FOK.mk zt rfl Tryz.sizeOf28 rfl,FOK.mk zt rfl xU rfl,FOK.mk zt rfl xU rfl,FOK.mk zt rfl xU rfl,trivial⟩
theorem aT:fc Tryz.prog 2 36 [.int .i64,.int .i64,.int .i64] true:=(fc.struct zp yP rfl Tryz.underlying36 Tryz.stoodInHeld36 ⟨by decide,rfl,[.int .i64],[.int .i64,.int .i64],false,rfl,(wz xQ xU Tryz.underlying3),⟨by decide,rfl,[.int .i64],[.int .i64],false,rfl,(wz xQ xU Tryz.underlying3),⟨by decide,rfl,[.int .i64],[],false,rfl,(wz Tryz.isAgg34 Tryz.sizeOf34 Tryz.underlying34),rfl⟩⟩⟩)
theorem fp:BOK Tryz.prog 36 #[.int .i64 0,.int .i64 0,.int .i64 0] [(0,1),(1,1),(2,1)]:=BOK.mk Tryz.zeroValue36 Tryz.runUnderlying36 (by intro w; simp)
theorem iL:BOK Tryz.prog 43 #[.int .i64 0,.int .i64 0,.bool false,.bool false,.bool false,.int .i64 0,.int .i64 0,.int .i64 0,.int .i64 0,.int .i64 0,.int .i64 0,.slice none 0 0] [(0,1),(1,1),(2,1),(3,1),(4,1),(5,1),(6,1),(7,1),(8,1),(9,1),(10,1),(11,1)]:=BOK.mk Tryz.zeroValue43 yg (by intro w; simp)
theorem hC:SOK Tryz.prog 26 9 2 1 #[.string ⟨#[]⟩,.string ⟨#[]⟩]:=SOK.mk yU yL Tryz.zeroValue9 (by decide) (by kernel_rfl)
theorem hM:SOK Tryz.prog 40 3 0 1 #[]:=SOK.mk0 ym xU
theorem hU:SOK Tryz.prog 40 3 1 1 #[.int .i64 0]:=SOK.mk ym xU Tryz.zeroValue3 (by decide) (by kernel_rfl)
theorem jb:(Tryz.prog.info? 3).map (fun i=>(i.zero,i.size,i.bytes))=some (some (.int .i64 0),1,8):=by kernel_rfl
def fC  : Option (Bool):=(fR (⟨0,0,false,false,false,0,0,0,-1,-1,-1,[]⟩:Bat)).bind fun (x1,x2)=>(if x2=0 then (if (x1.length:Int)=61 then some false else some true) else some true).bind fun y5=>if y5=true then some false else (if 30≤x1.length then ((eC [x1,(x1.take 30)]).bind fun (x12,x15)=>(if (x12.length:Int)=1 then (if x15.xI=61 then (if x15.xJ=1 then (if x15.xK=0 then some true else some false) else some false) else some false) else some false).bind fun y22=>some y22) else none)
theorem kw  (r:Bool) (h:fC  = some r):ar Tryz.prog 5 #[] .triv (av) (fun v A' N=>v= .bool r∧A'=av∧N = []):=by
 refine aJ Tryz.func5 Z Tryz.ntmps5 Z ?_
 intro F w hX
 unfold fC at h
 refine T.seq (T.region Z (TL.run ag [0] Z Z (TL.nil (X.seq (T.seq (T.region Z ?_))))))
 refine TL.q Z .u (vT (cells:= #[jI 0,jI 0,.bool false,.bool false,.bool false,jI 0,jI 0,jI 0,jI (-1),jI (-1),jI (-1),.slice none 0 0]) iL Z (by kernel_rfl)) Z ?_
 obtain⟨⟨x1,x2⟩,hx3,h⟩:=xL h
 try dsimp only at h
 refine vL Z .u (.fn Tryz.call16 Z) (i3 (⟨0,0,false,false,false,0,0,0,-1,-1,-1,[]⟩:Bat) _ _ _ hx3) (fun _ hs=>lE) Z (TL.run ag [2,3,4,5,6] Z Z (TL.nil (X.seq (T.seq (T.seq ?_)))))
 obtain⟨y5,h,hk6⟩:=xL h
 refine wn (fun e Rs=>e = [(0,.bool false),(1,jS x1),(16,.bool y5)]∧Rs = [av]) ?_ ?_
 ·clear hk6
  refine T.region Z ?_
  rcases jF h with⟨c7,h⟩ | ⟨c7,h⟩
  ·refine TL.run ag [0,1,2] Z Z (TL.q Z (.g Z Z (aw (xM c7))) (vA ag Z) Z (TL.q Z (.g Z Z (aw (xM c7))) (v5 Z xY) Z (TL.q Z (.g Z Z (aw (xM c7))) (vA ag Z) Z (TL.q Z .u (vB Z (aw (xM c7)) Z) Z ?_))))
   rcases jF h with⟨c8,h⟩ | ⟨c8,h⟩
   ·cases h
    exact TL.nil (wE (d:=16) (v':= .bool false) Z (congrArg Value.bool (aw (xM c8))) (vN [0] ⟨Z,Z⟩ (by rfl) (by rfl)))
   ·cases h
    exact TL.nil (wE (d:=16) (v':= .bool true) Z (congrArg Value.bool (aH (xN c8))) (vN [0] ⟨Z,Z⟩ (by rfl) (by rfl)))
  ·refine TL.run ag [0,1,2] Z Z ?_
   iterate 3 refine vv Z (.gn Z Z (aH (xN c7))) Z ?_
   refine TL.q Z .u (vz Z (aH (xN c7)) Z) Z ?_
   cases h
   exact TL.nil (vN [0] ⟨Z,Z⟩ (by rfl) (by rfl))
 ·rintro _ _ ⟨rfl,rfl⟩
  clear h
  have h:=hk6
  clear hk6
  try dsimp only at h
  rcases jF h with⟨c9,h⟩ | ⟨c9,h⟩
  ·refine X.seq (vw Z c9 (T.seq (T.region Z (TL.run ag [0] Z Z ?_))))
   obtain rfl:=xO h
   exact TL.nil (X.seq (T.ret (vx (vu [0] Tryz.results5 (vt Z) ⟨Z,Z,Z⟩ (by rfl) (.inl Z)))))
  ·replace c9:=xW c9
   refine X.seq (vC Z c9 (T.skip (X.seq (T.seq (T.region Z ?_)))))
   replace h:=ak h
   obtain⟨c10,h⟩:=h
   refine TL.run ag [0,1] Z Z ?_
   replace c10:30≤x1.length:=c10
   refine TL.q Z .u (wC (p:=0) (q:=30) (m:=(x1.take 30)) Z xY .none (.some Z Z) (by first | omega | (dsimp only; omega)) (by simp)) Z ?_
   refine wG (cells:= #[jS x1,.string (aC (x1.take 30))]) Z .u hC Z (by rfl) Z (fun b11=>(wW (us := [jS x1,.string (aC (x1.take 30))]) (xs := [x1,(x1.take 30)]) (E:=gY) (z:=1) Z (Nat.le_of_ble_eq_true Z) (fun _=>⟨Z,Z,⟨Z,Z,Z⟩⟩) ?_))
   obtain⟨⟨x12,x15⟩,hx16,h⟩:=xL h
   try dsimp only at h
   refine wy Z .u (.fn Tryz.call15 Z) (gT [x1,(x1.take 30)] _ _ _ hx16) (fun _ hs=>(wF 0 hs Z (fun w G h=>ba (by decide) w G h))) Z ?_
   rintro _ _ _ ⟨A13,c14,rfl,rfl,rfl⟩
   refine vR [0,0,0] Z (TL.run ag [5,6,7] Z Z (TL.alloc Z .u Tryz.zeroValue36 Z (fun b17=>(TL.run ag [9] Z Z (vG (cs':= #[jI x15.xI,jI x15.xJ,jI x15.xK]) Z .u Z Z yP Z Z Z Z (TL.nil (X.seq (T.seq ?_))))))))
   obtain⟨y22,h,hk23⟩:=xL h
   refine wn (fun e Rs=>e = [(0,.bool y22)]∧Rs = [aA b17 36 #[jI x15.xI,jI x15.xJ,jI x15.xK],RdR (aq 12 dl) [.slice A13 x12.length c14] x12,aF 9 1 gY (.slice (some ⟨b11,0,none⟩) 2 2) [x1,(x1.take 30)],av]) ?_ ?_
   ·clear hk23
    refine T.region Z (TL.run ag [0] Z Z (TL.q Z .u (vH Z yG) Z ?_))
    rcases jF h with⟨c24,h⟩ | ⟨c24,h⟩
    ·refine TL.run ag [2,3] Z Z (TL.q Z (.g Z Z (xM c24)) (vE (us := [jI x15.xI,jI x15.xJ,jI x15.xK]) 0 Z zp yP Z Z Z) Z ?_)
     refine TL.q Z (.g Z Z (xM c24)) (vT (cells:= #[jI 61,jI 1,jI 0]) fp Z (by kernel_rfl)) Z ?_
     rcases jF h with⟨c25,h⟩ | ⟨c25,h⟩
     ·rcases jF h with⟨c26,h⟩ | ⟨c26,h⟩
      ·rcases jF h with⟨c27,h⟩ | ⟨c27,h⟩
       ·refine TL.q Z (.g Z Z (xM c24)) (ws (us := [jI x15.xI,jI x15.xJ,jI x15.xK]) (vs := [jI 61,jI 1,jI 0]) aT Z yT Z Z Z Z (dL (ic c25) (dL (ic c26) (dL (ic c27) Z)))) Z (TL.q Z .u (vz Z (xM c24) Z) Z (TL.run ag [8] Z Z (TL.q Z .u (vz Z Z Z) Z (TL.run ag [10] Z Z ?_))))
        cases h
        exact TL.nil (vN [0,0,0,0] ⟨Z,Z⟩ (by rfl) (by rfl))
       ·refine TL.q Z (.g Z Z (xM c24)) (ws (us := [jI x15.xI,jI x15.xJ,jI x15.xK]) (vs := [jI 61,jI 1,jI 0]) aT Z yT Z Z Z Z (dL (ic c25) (dL (ic c26) (gC (kH c27))))) Z (TL.q Z .u (vz Z (xM c24) Z) Z (TL.run ag [8] Z Z (TL.q Z .u (vB Z Z Z) Z (TL.run ag [10] Z Z ?_))))
        cases h
        exact TL.nil (vN [0,0,0,0] ⟨Z,Z⟩ (by rfl) (by rfl))
      ·refine TL.q Z (.g Z Z (xM c24)) (ws (us := [jI x15.xI,jI x15.xJ,jI x15.xK]) (vs := [jI 61,jI 1,jI 0]) aT Z yT Z Z Z Z (dL (ic c25) (gC (kH c26)))) Z (TL.q Z .u (vz Z (xM c24) Z) Z (TL.run ag [8] Z Z (TL.q Z .u (vB Z Z Z) Z (TL.run ag [10] Z Z ?_))))
       cases h
       exact TL.nil (vN [0,0,0,0] ⟨Z,Z⟩ (by rfl) (by rfl))
     ·refine TL.q Z (.g Z Z (xM c24)) (ws (us := [jI x15.xI,jI x15.xJ,jI x15.xK]) (vs := [jI 61,jI 1,jI 0]) aT Z yT Z Z Z Z (gC (kH c25))) Z (TL.q Z .u (vz Z (xM c24) Z) Z (TL.run ag [8] Z Z (TL.q Z .u (vB Z Z Z) Z (TL.run ag [10] Z Z ?_))))
      cases h
      exact TL.nil (vN [0,0,0,0] ⟨Z,Z⟩ (by rfl) (by rfl))
    ·refine TL.run ag [2,3] Z Z ?_
     iterate 3 refine vv Z (.gn Z Z (xN c24)) Z ?_
     refine TL.q Z .u (vB Z (xN c24) Z) Z (TL.run ag [8] Z Z (TL.q Z .u (vB Z Z Z) Z (TL.run ag [10] Z Z ?_)))
     cases h
     exact TL.nil (vN [0,0,0,0] ⟨Z,Z⟩ (by rfl) (by rfl))
   ·rintro _ _ ⟨rfl,rfl⟩
    clear h
    have h:=hk23
    clear hk23
    try dsimp only at h
    obtain rfl:=xO h
    exact X.seq (T.ret (vu [3] Tryz.results5 (vt Z) ⟨Z,Z,Z⟩ (by rfl) (.inl Z)))
def bx:List Bat→Bool→List UInt8→List Int→Option (Lp Bool (Bool×List UInt8×List Int))
 | [],y15,y16,y17=>some (Lp.go (y15,y16,y17))
 | x25::xs,y15,y16,y17=>((eD x25).bind fun x40=>if x40=0 then some true else ((dU x25).bind fun x43=>if x43=0 then some false else some true)).bind fun y38=>if y38=true then some (Lp.ret true) else ((eL x25).bind fun x47=>if y16.length+x47.length≤9223372036854775807 then (if (y17.length+1)*8≤140737488355328 then (bx xs y15 (y16++x47) (y17 ++ [((y16++x47).length:Int)])) else none) else none)
def bz (a2:Int) (y16:List UInt8) (y17:List Int):Nat→Nat→Int→Option (Nat×Int)
 | 0,_,_=>none
 | m164+1,k159,y160=>(if (k159:Int)<(y17.length:Int) then ((y17[k159]?).bind fun x175=>if x175≤(a2 % ((y16.length:Int)+1)) then some true else some false) else some false).bind fun y172=>if y172=true then ((y17[k159]?).bind fun x180=>if -9223372036854775808≤((k159:Int)+1)∧((k159:Int)+1)≤9223372036854775807 then (bz a2 y16 y17 m164 (k159+1) x180) else none) else some (k159,y160)
def eP (a0:List Bat) (a1:List Int) (a2:Int):Option (Bool):=(fC).bind fun x5=>if x5=true then ((if (a0.length:Int)>6 then some true else (if (a1.length:Int)>200 then some true else some false)).bind fun y9=>if y9=true then some true else ((bx a0 false [] ([]:List Int)).bind fun e=>match e with | .ret r=>some r | .go (y54,y55,y56)=>(if -9223372036854775808≤a2∧a2≤9223372036854775807 then (if -9223372036854775808≤((y55.length:Int)+1)∧((y55.length:Int)+1)≤9223372036854775807 then (if 1≤((y55.length:Int)+1)∧0≤a2 then ((bz a2 y55 y56 (((y56.length:Int)).toNat+1) 0 0).bind fun (k121,y122)=>(if y122<(a2 % ((y55.length:Int)+1)) then ((some 1:Option (Int))) else ((some 0:Option (Int)))).bind fun y124=>if 0≤(a2 % ((y55.length:Int)+1))∧(a2 % ((y55.length:Int)+1)).toNat≤y55.length then ((gU (y55.take ((a2 % ((y55.length:Int)+1)).toNat)) a1).bind fun x128=>(eC x128).bind fun (x132,x135)=>(if k121≤a0.length then ((et x132 (a0.take k121)).bind fun x150=>if x150=true then (if x135.xI=y122 then (if x135.xJ=y124 then (if x135.xK=0 then some true else some false) else some false) else some false) else some false) else none).bind fun y146=>some y146) else none) else none) else none) else none))) else none
theorem f_l23_ScanRows_spec (a0:List Bat) (A1:Option Addr) (c2:Nat) (a1:List Int) (A3:Option Addr) (c4:Nat) (a2:Int) (r:Bool) (h:eP a0 a1 a2=some r):ar Tryz.prog 4 #[.slice A1 a0.length c2,.slice A3 a1.length c4,.int .u16 a2] (RX.and (RX.of (aq 12 dl) [.slice A1 a0.length c2] a0) (RX.of (aq 1 u8E) [.slice A3 a1.length c4] a1)) (av) (fun v A' N=>v= .bool r∧A'=av∧N = []):=by
 refine aJ Tryz.func4 Z Tryz.ntmps4 Z ?_
 intro F w hX
 unfold eP at h
 refine T.seq (T.region Z (TL.run ag [0] Z Z ?_))
 obtain⟨x5,hx6,h⟩:=xL h
 refine TL.nil (X.seq (T.seq (T.seq (T.region Z (vL Z .u (.fn Tryz.call5 Z) (kw _ hx6) (fun _ hs=>(vy _ _)) Z (TL.run ag [1] Z Z ?_))))))
 rcases jF h with⟨c7,h⟩ | ⟨c7,h⟩
 ·refine TL.nil (X.seq (vC Z (aw c7) (T.skip (X.seq (T.seq (T.seq ?_))))))
  obtain⟨y9,h,hk10⟩:=xL h
  refine wn (fun e Rs=>e = [(0,.slice A1 a0.length c2),(1,.slice A3 a1.length c4),(2,.int .u16 a2),(6,.bool false),(26,.bool y9)]∧Rs = [av]) ?_ ?_
  ·clear hk10
   refine T.region Z (TL.run ag [0] Z Z (TL.q Z .u (vH Z yG) Z ?_))
   rcases jF h with⟨c11,h⟩ | ⟨c11,h⟩
   ·refine TL.run ag [2,3] Z Z ?_
    iterate 3 refine vv Z (.gn Z Z (xM c11)) Z ?_
    refine TL.q Z .u (vz Z (xM c11) Z) Z ?_
    cases h
    exact TL.nil (vN [0] ⟨Z,Z⟩ (by rfl) (by rfl))
   ·refine TL.run ag [2,3] Z Z (TL.q Z (.g Z Z (xN c11)) (vA ag Z) Z (TL.q Z (.g Z Z (xN c11)) (vH Z yc) Z (TL.q Z (.g Z Z (xN c11)) (vA ag Z) Z (TL.q Z .u (vB Z (xN c11) Z) Z ?_))))
    rcases jF h with⟨c12,h⟩ | ⟨c12,h⟩
    ·cases h
     exact TL.nil (wE (d:=26) (v':= .bool true) Z (congrArg Value.bool (xM c12)) (vN [0] ⟨Z,Z⟩ (by rfl) (by rfl)))
    ·cases h
     exact TL.nil (wE (d:=26) (v':= .bool false) Z (congrArg Value.bool (xN c12)) (vN [0] ⟨Z,Z⟩ (by rfl) (by rfl)))
  ·rintro _ _ ⟨rfl,rfl⟩
   clear h
   have h:=hk10
   clear hk10
   try dsimp only at h
   rcases jF h with⟨c13,h⟩ | ⟨c13,h⟩
   ·refine X.seq (vw Z c13 (T.seq (T.region Z (TL.run ag [0] Z Z ?_))))
    obtain rfl:=xO h
    exact TL.nil (X.seq (T.ret (vx (vu [0] Tryz.results4 (vt Z) ⟨Z,Z,Z⟩ (by rfl) (.inl Z)))))
   ·replace c13:=xW c13
    refine X.seq (vC Z c13 (T.skip (X.seq (T.seq (T.region Z (wG (cells:= #[]) Z .u hM Z (by rfl) Z (fun b14=>(wW (us := []) (xs:=([]:List Int)) (E:=dN) (z:=1) Z (Nat.le_of_ble_eq_true Z) (fun _=>Z) (TL.run ag [1,2] Z Z (TL.nil (X.seq (T.seq (T.seq (T.region Z (TL.run ag [0] Z Z ?_)))))))))))))))
    refine TL.q Z .u (vH Z yG) Z (TL.run ag [2] Z Z (TL.nil (X.seq (T.block ?_))))
    obtain⟨E21,hE22,hO23⟩:=xL h
    have hk27len:=wd (wi hX)
    refine v9 (fun m e Rs=> ∃ (y15:Bool) (y16:List UInt8) (y17:List Int) (A18:Option Addr) (c19:Nat) (k20:Nat),k20+m=a0.length∧e = [(0,.slice A1 a0.length c2),(1,.slice A3 a1.length c4),(2,.int .u16 a2),(6,.bool y15),(7,jS y16),(8,.slice A18 y17.length c19),(28,.slice A1 a0.length c2),(29,jI (a0.length:Int)),(30,jI (k20:Int))]∧Rs = [aF 3 1 dN (.slice A18 y17.length c19) y17,av]∧bx (a0.drop k20) y15 y16 y17=some E21) (a0.length) [0,0] ⟨false,[],([]:List Int),(some ⟨b14,0,none⟩),0,0,by simp,Z,Z,by rw[List.drop_zero]; exact hE22⟩ (by rfl) (by rfl) ?_
    rintro m24 _ _ ⟨y15,y16,y17,A18,c19,k20,hk27,rfl,rfl,hl26⟩
    clear hE22 h
    cases m24 with
    | zero =>
     have h:=hl26
     clear hl26
     rw[List.drop_of_length_le (by omega),bx] at h
     have hk27ge: ¬ ((k20:Int)<(a0.length:Int)):=by omega
     refine T.seq (T.region Z (TL.run ag [0] Z Z (TL.nil (X.seq (T.seq (vC Z (xN hk27ge) ?_))))))
     obtain rfl:=xO h
     replace h:=hO23
     clear hO23
     try dsimp only at h
     refine T.exit (vD (vD (v6 (X.seq (T.seq (T.region Z ?_))))))
     replace h:=ak h
     obtain⟨c156,h⟩:=h
     refine TL.run ag [0] Z Z (TL.q Z .u (wq Z Tryz.runUnderlying39 yF c156) Z (TL.run ag [2] Z Z (TL.q Z .u (v5 Z xY) Z ?_)))
     replace h:=ak h
     obtain⟨c157,h⟩:=h
     refine TL.q Z .u (Ex.add Z Z c157) Z ?_
     replace h:=ak h
     obtain⟨c158,h⟩:=h
     refine TL.q Z .u (Ex.remK Z Z c158.1 c158.2) Z (TL.run ag [6] Z Z (TL.nil (X.seq (T.seq (T.region Z (TL.run ag [0,1,2] Z Z (TL.nil (X.seq (T.seq (T.block ?_))))))))))
     obtain⟨E161,hE162,hO163⟩:=xL h
     refine v9 (fun m e Rs=> ∃ (k159:Nat) (y160:Int),e = [(0,.slice A1 a0.length c2),(1,.slice A3 a1.length c4),(6,.bool y15),(7,jS y16),(8,.slice A18 y17.length c19),(11,jI (a2 % ((y16.length:Int)+1))),(12,jI (k159:Int)),(13,jI y160),(14,jI 0)]∧Rs = [aF 3 1 dN (.slice A18 y17.length c19) y17,av]∧bz a2 y16 y17 m k159 y160=some E161) (((y17.length:Int)).toNat+1) [0,0] ⟨0,0,Z,Z,by exact hE162⟩ (by rfl) (by rfl) ?_
     rintro m164 _ _ ⟨k159,y160,rfl,rfl,hl166⟩
     clear hE162 h
     cases m164 with
     | zero =>
      rw[bz] at hl166
      cases hl166
     | succ m164 =>
      have h:=hl166
      clear hl166
      rw[bz] at h
      refine T.seq (T.seq ?_)
      obtain⟨y172,h,hk173⟩:=xL h
      refine wn (fun e Rs=>e = [(0,.slice A1 a0.length c2),(1,.slice A3 a1.length c4),(6,.bool y15),(7,jS y16),(8,.slice A18 y17.length c19),(11,jI (a2 % ((y16.length:Int)+1))),(12,jI (k159:Int)),(13,jI y160),(14,jI 0),(69,.bool y172)]∧Rs = [aF 3 1 dN (.slice A18 y17.length c19) y17,av]) ?_ ?_
      ·clear hk173
       refine T.region Z (TL.run ag [0,1] Z Z (TL.q Z .u (vH Z ym) Z ?_))
       rcases jF h with⟨c174,h⟩ | ⟨c174,h⟩
       ·refine TL.run ag [3,4] Z Z ?_
        iterate 2 refine TL.q Z (.g Z Z (xM c174)) (vA ag Z) Z ?_
        obtain⟨x175,hx176,h⟩:=xL h
        refine wT (E:=dN) (k:=k159) 0 Z (fun w G h=>ba (by decide) w G h) (by decide) hx176 ?_
        rintro gz177 oz177 z177cs hA z177cl ⟨_,_,z177r⟩
        cases hA
        obtain rfl:z177cs = [jI x175]:=z177r
        clear z177cl
        refine vR [0,0] Z ?_
        refine TL.q Z (.g Z Z (xM c174)) (vM (k:=k159) Z Z Z ym xU (xS hx176).1) Z ?_
        refine TL.q Z (.g Z Z (xM c174)) (wQ (cs := [jI x175]) 0 0 Z xQ Z (fun _ _ h=>h.2.2.1) Z) Z ?_
        iterate 2 refine TL.q Z (.g Z Z (xM c174)) (vA ag Z) Z ?_
        refine TL.q Z .u (vz Z (xM c174) Z) Z ?_
        rcases jF h with⟨c178,h⟩ | ⟨c178,h⟩
        ·refine TL.nil (wE (d:=69) (v':= .bool true) Z (congrArg Value.bool (xM c178)) (X.unf 0 Z (vU [0,0] Z ?_)))
         cases h
         exact vN [0,0] ⟨Z,Z⟩ (by rfl) (by rfl)
        ·refine TL.nil (wE (d:=69) (v':= .bool false) Z (congrArg Value.bool (xN c178)) (X.unf 0 Z (vU [0,0] Z ?_)))
         cases h
         exact vN [0,0] ⟨Z,Z⟩ (by rfl) (by rfl)
       ·refine TL.run ag [3,4] Z Z ?_
        iterate 6 refine vv Z (.gn Z Z (xN c174)) Z ?_
        refine TL.q Z .u (vB Z (xN c174) Z) Z ?_
        cases h
        exact TL.nil (vN [0,0] ⟨Z,Z⟩ (by rfl) (by rfl))
      ·rintro _ _ ⟨rfl,rfl⟩
       clear h
       have h:=hk173
       clear hk173
       try dsimp only at h
       rcases jF h with⟨c179,h⟩ | ⟨c179,h⟩
       ·refine X.seq (vw Z c179 (T.skip (X.seq (T.block (T.seq (T.region Z ?_))))))
        obtain⟨x180,hx181,h⟩:=xL h
        refine TL.run ag [0,1] Z Z (wT (E:=dN) (k:=k159) 0 Z (fun w G h=>ba (by decide) w G h) (by decide) hx181 ?_)
        rintro gz182 oz182 z182cs hA z182cl ⟨_,_,z182r⟩
        cases hA
        obtain rfl:z182cs = [jI x180]:=z182r
        clear z182cl
        refine vR [0,0] Z ?_
        refine TL.q Z .u (vM (k:=k159) Z Z Z ym xU (xS hx181).1) Z ?_
        refine TL.q Z .u (wQ (cs := [jI x180]) 0 0 Z xQ Z (fun _ _ h=>h.2.2.1) Z) Z (TL.run ag [4] Z Z (TL.nil (X.seq (T.region Z ?_))))
        replace h:=ak h
        obtain⟨c183,h⟩:=h
        exact TL.run ag [0] Z Z (TL.q Z .u (Ex.add Z Z c183) Z (TL.run ag [2] Z Z (TL.nil (vF (X.unf 0 Z (vU [0,0] Z (X.back (m':=m164) [0,0] (by omega) ⟨k159+1,x180,Z,Z,h⟩ (by rfl) (by rfl))))))))
       ·replace c179:=xW c179
        refine X.seq (vC Z c179 ?_)
        obtain rfl:=xO h
        replace h:=hO163
        clear hO163
        try dsimp only at h
        refine T.exit (vD (vD (v6 (X.seq (T.seq (T.seq (T.region Z (TL.run ag [0,1,2] Z Z (TL.nil (X.seq ?_))))))))))
        obtain⟨y185,h,hk186⟩:=xL h
        refine wn (fun e Rs=>e = [(0,.slice A1 a0.length c2),(1,.slice A3 a1.length c4),(6,.bool y15),(7,jS y16),(11,jI (a2 % ((y16.length:Int)+1))),(12,jI (k159:Int)),(13,jI y160),(14,jI y185)]∧Rs = [aF 3 1 dN (.slice A18 y17.length c19) y17,av]) ?_ ?_
        ·clear hk186
         rcases jF h with⟨c187,h⟩ | ⟨c187,h⟩
         ·refine vw Z (xM c187) (T.region Z (TL.run ag [0] Z Z ?_))
          cases h
          exact TL.nil (vN [0,0] ⟨Z,Z⟩ (by rfl) (by rfl))
         ·refine vC Z (xN c187) ?_
          cases h
          exact T.skip (vN [0,0] ⟨Z,Z⟩ (by rfl) (by rfl))
        ·rintro _ _ ⟨rfl,rfl⟩
         clear h
         have h:=hk186
         clear hk186
         try dsimp only at h
         refine X.seq (T.seq (T.region Z ?_))
         replace h:=ak h
         obtain⟨c188,h⟩:=h
         refine TL.run ag [0,1] Z Z ?_
         replace c188:0≤(a2 % ((y16.length:Int)+1))∧(a2 % ((y16.length:Int)+1)).toNat≤y16.length:=c188
         refine TL.q Z .u (wC (p:=0) (q:=(a2 % ((y16.length:Int)+1)).toNat) (m:=(y16.take ((a2 % ((y16.length:Int)+1)).toNat))) Z xY .none (.some Z ((Int.toNat_of_nonneg c188.1).symm)) (by first | omega | (dsimp only; omega)) (by simp)) Z ?_
         obtain⟨x189,hx192,h⟩:=xL h
         refine TL.run ag [3] Z Z (wy Z .u (.fn Tryz.call7 Z) (mR (y16.take ((a2 % ((y16.length:Int)+1)).toNat)) a1 _ _ _ hx192) (fun _ hs=>(vK hs (wv hX))) Z ?_)
         rintro _ _ _ ⟨A190,c191,rfl,rfl,rfl⟩
         refine vR [0,0,0] Z ?_
         obtain⟨⟨x193,x196⟩,hx197,h⟩:=xL h
         try dsimp only at h
         refine wy Z .u (.fn Tryz.call15 Z) (gT x189 _ _ _ hx197) (fun _ hs=>(wF 0 hs Z (fun w G h=>oZ w G h))) Z ?_
         rintro _ _ _ ⟨A194,c195,rfl,rfl,rfl⟩
         refine vR [0,0,0,0] Z (TL.run ag [6,7,8] Z Z (TL.alloc Z .u Tryz.zeroValue36 Z (fun b198=>(TL.run ag [10] Z Z (vG (cs':= #[jI x196.xI,jI x196.xJ,jI x196.xK]) Z .u Z Z yP Z Z Z Z (TL.nil (X.seq (T.seq ?_))))))))
         obtain⟨y207,h,hk208⟩:=xL h
         refine wn (fun e Rs=>e = [(6,.bool y207)]∧Rs = [aA b198 36 #[jI x196.xI,jI x196.xJ,jI x196.xK],RdR (aq 12 dl) [.slice A194 x193.length c195] x193,RdR (aq 1 gY) [.slice A190 x189.length c191] x189,aF 3 1 dN (.slice A18 y17.length c19) y17,av]) ?_ ?_
         ·clear hk208
          refine T.region Z ?_
          replace h:=ak h
          obtain⟨c209,h⟩:=h
          refine TL.run ag [0,1,2] Z Z ?_
          have hX210:=RX.subR (wi hX) (yw _) c209 (by rw[List.drop_zero,Nat.sub_zero])
          refine TL.q Z .u (Ex.subS (p:=0) (q:=k159) (mm:=(a0.take k159).length) (uR (wi hX)) Z yG yb .none (.some Z Z) (yw _) c209 (by rw[yj,Nat.min_eq_left c209]; exact (Nat.sub_zero _).symm)) Z ?_
          obtain⟨x211,hx212,h⟩:=xL h
          refine vL Z .u (.fn Tryz.call9 Z) (lK x193 _ _ (a0.take k159) _ _ _ hx212) (fun _ hs=>(RX.reads_and (wF 1 hs Z (fun w G h=>oZ w G h)) (vK hs hX210))) Z ?_
          rcases jF h with⟨c213,h⟩ | ⟨c213,h⟩
          ·refine TL.run ag [5] Z Z (TL.q Z (.g Z Z c213) (vE (us := [jI x196.xI,jI x196.xJ,jI x196.xK]) 0 Z zp yP Z Z Z) Z ?_)
           iterate 2 refine TL.q Z (.g Z Z c213) (vA ag Z) Z ?_
           refine TL.q Z (.g Z Z c213) (vT (cells:= #[jI y160,jI y185,jI 0]) fp Z (by kernel_rfl)) Z ?_
           rcases jF h with⟨c214,h⟩ | ⟨c214,h⟩
           ·rcases jF h with⟨c215,h⟩ | ⟨c215,h⟩
            ·rcases jF h with⟨c216,h⟩ | ⟨c216,h⟩
             ·refine TL.q Z (.g Z Z c213) (ws (us := [jI x196.xI,jI x196.xJ,jI x196.xK]) (vs := [jI y160,jI y185,jI 0]) aT Z yT Z Z Z Z (dL (ic c214) (dL (ic c215) (dL (ic c216) Z)))) Z (TL.q Z .u (vz Z c213 Z) Z (TL.run ag [12] Z Z ?_))
              cases h
              exact TL.nil (vN [0,0,0,0,0] ⟨Z,Z⟩ (by rfl) (by rfl))
             ·refine TL.q Z (.g Z Z c213) (ws (us := [jI x196.xI,jI x196.xJ,jI x196.xK]) (vs := [jI y160,jI y185,jI 0]) aT Z yT Z Z Z Z (dL (ic c214) (dL (ic c215) (gC (kH c216))))) Z (TL.q Z .u (vz Z c213 Z) Z (TL.run ag [12] Z Z ?_))
              cases h
              exact TL.nil (vN [0,0,0,0,0] ⟨Z,Z⟩ (by rfl) (by rfl))
            ·refine TL.q Z (.g Z Z c213) (ws (us := [jI x196.xI,jI x196.xJ,jI x196.xK]) (vs := [jI y160,jI y185,jI 0]) aT Z yT Z Z Z Z (dL (ic c214) (gC (kH c215)))) Z (TL.q Z .u (vz Z c213 Z) Z (TL.run ag [12] Z Z ?_))
             cases h
             exact TL.nil (vN [0,0,0,0,0] ⟨Z,Z⟩ (by rfl) (by rfl))
           ·refine TL.q Z (.g Z Z c213) (ws (us := [jI x196.xI,jI x196.xJ,jI x196.xK]) (vs := [jI y160,jI y185,jI 0]) aT Z yT Z Z Z Z (gC (kH c214))) Z (TL.q Z .u (vz Z c213 Z) Z (TL.run ag [12] Z Z ?_))
            cases h
            exact TL.nil (vN [0,0,0,0,0] ⟨Z,Z⟩ (by rfl) (by rfl))
          ·replace c213:=xW c213
           refine TL.run ag [5] Z Z ?_
           iterate 5 refine vv Z (.gn Z Z c213) Z ?_
           refine TL.q Z .u (vB Z c213 Z) Z (TL.run ag [12] Z Z ?_)
           cases h
           exact TL.nil (vN [0,0,0,0,0] ⟨Z,Z⟩ (by rfl) (by rfl))
         ·rintro _ _ ⟨rfl,rfl⟩
          clear h
          have h:=hk208
          clear hk208
          try dsimp only at h
          obtain rfl:=xO h
          exact X.seq (T.ret (vu [4] Tryz.results4 (vt Z) ⟨Z,Z,Z⟩ (by rfl) (.inl Z)))
    | succ m24 =>
     have h:=hl26
     clear hl26
     obtain⟨x25,hxx25⟩: ∃ x,a0[k20]? = some x:=⟨_,List.getElem?_eq_getElem (by omega)⟩
     rw[cm hxx25,bx] at h
     have hk27lt:(k20:Int)<(a0.length:Int):=by omega
     refine T.seq (T.region Z (TL.run ag [0] Z Z (TL.nil (X.seq (T.seq (vw Z (xM hk27lt) ?_))))))
     obtain⟨gz28,oz28,rfl,z28cs,z28cl,z28cc,z28nf,z28r⟩:=vV (by decide) (wi hX) hxx25
     obtain⟨z28S,z28r,z28rr⟩:=z28r
     obtain⟨A29,c30,rfl,z28s0⟩:=z28r
     have hX31:(RX.of (aq 7 bj) [.slice A29 x25.xm.length c30] x25.xm).reads w F:=⟨z28S,z28s0,z28rr⟩
     refine T.skip (X.seq (T.seq (T.block (T.seq (T.region Z ?_)))))
     refine TL.q Z .u (vM (k:=k20) Z Z Z yG yb (xS hxx25).1) Z ?_
     refine TL.q Z .u (wj (us := [jI x25.xy,jI x25.xt,.bool x25.xA,.bool x25.xE,.bool x25.xz,jI x25.xw,jI x25.xr,jI x25.xB,jI x25.xq,jI x25.xv,jI x25.xo,.slice A29 x25.xm.length c30]) 0 Z yr yb z28nf z28cc Z Z Z) Z (TL.alloc Z .u Tryz.zeroValue43 Z (fun b32=>(vG (cs':= #[jI x25.xy,jI x25.xt,.bool x25.xA,.bool x25.xE,.bool x25.xz,jI x25.xw,jI x25.xr,jI x25.xB,jI x25.xq,jI x25.xv,jI x25.xo,.slice A29 x25.xm.length c30]) Z .u Z Z yb Z Z Z Z (TL.nil (X.seq (T.seq (T.seq ?_)))))))
     obtain⟨y38,h,hk39⟩:=xL h
     refine wn (fun e Rs=>e = [(0,.slice (some ⟨gz28,oz28,none⟩) a0.length c2),(1,.slice A3 a1.length c4),(2,.int .u16 a2),(6,.bool y15),(7,jS y16),(8,.slice A18 y17.length c19),(10,jP b32),(28,.slice (some ⟨gz28,oz28,none⟩) a0.length c2),(29,jI (a0.length:Int)),(30,jI (k20:Int)),(41,.bool y38)]∧Rs = [aA b32 43 #[jI x25.xy,jI x25.xt,.bool x25.xA,.bool x25.xE,.bool x25.xz,jI x25.xw,jI x25.xr,jI x25.xB,jI x25.xq,jI x25.xv,jI x25.xo,.slice A29 x25.xm.length c30],aF 3 1 dN (.slice A18 y17.length c19) y17,av]) ?_ ?_
     ·clear hk39
      refine T.region Z (TL.q Z .u (vE (us := [jI x25.xy,jI x25.xt,.bool x25.xA,.bool x25.xE,.bool x25.xz,jI x25.xw,jI x25.xr,jI x25.xB,jI x25.xq,jI x25.xv,jI x25.xo,.slice A29 x25.xm.length c30]) 0 Z yr yb Z Z Z) Z ?_)
      obtain⟨x40,hx41,h⟩:=xL h
      refine vL Z .u (.fn Tryz.call12 Z) (ld x25 _ _ _ hx41) (fun _ hs=>(vK hs hX31)) Z ?_
      rcases jF h with⟨c42,h⟩ | ⟨c42,h⟩
      ·refine TL.run ag [2,3] Z Z ?_
       iterate 3 refine vv Z (.gn Z Z (xM c42)) Z ?_
       refine TL.q Z .u (vz Z (xM c42) Z) Z ?_
       cases h
       exact TL.nil (vN [0,0,0] ⟨Z,Z⟩ (by rfl) (by rfl))
      ·refine TL.run ag [2,3] Z Z (TL.q Z (.g Z Z (xN c42)) (vE (us := [jI x25.xy,jI x25.xt,.bool x25.xA,.bool x25.xE,.bool x25.xz,jI x25.xw,jI x25.xr,jI x25.xB,jI x25.xq,jI x25.xv,jI x25.xo,.slice A29 x25.xm.length c30]) 0 Z yr yb Z Z Z) Z ?_)
       obtain⟨x43,hx44,h⟩:=xL h
       refine vL Z (.g Z Z (xN c42)) (.fn Tryz.call13 Z) (kU x25 _ _ _ hx44) (fun _ hs=>(vK hs hX31)) Z (TL.q Z (.g Z Z (xN c42)) (vA ag Z) Z (TL.q Z .u (vB Z (xN c42) Z) Z ?_))
       rcases jF h with⟨c45,h⟩ | ⟨c45,h⟩
       ·cases h
        exact TL.nil (wE (d:=41) (v':= .bool false) Z (congrArg Value.bool (aw (xM c45))) (vN [0,0,0] ⟨Z,Z⟩ (by rfl) (by rfl)))
       ·cases h
        exact TL.nil (wE (d:=41) (v':= .bool true) Z (congrArg Value.bool (aH (xN c45))) (vN [0,0,0] ⟨Z,Z⟩ (by rfl) (by rfl)))
     ·rintro _ _ ⟨rfl,rfl⟩
      clear h
      have h:=hk39
      clear hk39
      try dsimp only at h
      rcases jF h with⟨c46,h⟩ | ⟨c46,h⟩
      ·refine X.seq (vw Z c46 (T.seq (T.region Z (TL.run ag [0] Z Z ?_))))
       obtain rfl:=xO h
       replace h:=hO23
       clear hO23
       try dsimp only at h
       obtain rfl:=xO h
       exact TL.nil (X.seq (T.ret (vx (vJ (vx (vx (vJ (vx (vu [2] Tryz.results4 (vt Z) ⟨Z,Z,Z⟩ (by rfl) (.inl Z))))))))))
      ·replace c46:=xW c46
       refine X.seq (vC Z c46 (T.skip (X.seq (T.seq (T.region Z (TL.run ag [0] Z Z (TL.q Z .u (vE (us := [jI x25.xy,jI x25.xt,.bool x25.xA,.bool x25.xE,.bool x25.xz,jI x25.xw,jI x25.xr,jI x25.xB,jI x25.xq,jI x25.xv,jI x25.xo,.slice A29 x25.xm.length c30]) 0 Z yr yb Z Z Z) Z ?_)))))))
       obtain⟨x47,hx48,h⟩:=xL h
       refine vL Z .u (.fn Tryz.call14 Z) (ki x25 _ _ _ hx48) (fun _ hs=>(vK hs hX31)) Z ?_
       replace h:=ak h
       obtain⟨c49,h⟩:=h
       refine TL.q Z .u (vP Z Z c49) Z (TL.run ag [4] Z Z (TL.nil (X.seq (T.region Z (TL.run ag [0,1] Z Z (TL.q Z .u (v5 Z xY) Z (wG (cells:= #[jI ((y16++x47).length:Int)]) Z .u hU Z (by rfl) Z (fun b50=> ?_))))))))
       replace h:=ak h
       obtain⟨c51,h⟩:=h
       refine TL.app1 1 Z .u (us := [jI ((y16++x47).length:Int)]) (u:=((y16++x47).length:Int)) (l:=y17) (E:=dN) Tryz.underlying40 jb Z (by decide) Z Z Z Z Z Z (fun _ _=>Z) (by have hq:=c51; omega) (by have hq:=c51; omega) Z (fun A52 c53=> ?_)
       exact vR [0,0,0] Z (TL.run ag [5] Z Z (TL.nil (vF (X.seq (T.region Z (TL.q Z .u (Ex.add Z Z (by omega)) Z (TL.run ag [1] Z Z (TL.nil (X.back (m':=m24) [1,1] (by omega) ⟨y15,(y16++x47),(y17 ++ [((y16++x47).length:Int)]),A52,c53,k20+1,by omega,Z,Z,h⟩ (by rfl) (by rfl))))))))))
 ·replace c7:=xW c7
  exact TL.nil (X.seq (vw rfl (aH c7) (nomatch h)))
theorem uB:fC=some true:=by kernel_rfl
def fX:Nat→List Bat→List Int
 | _,[] => []
 | o,b::l=>((o+(aK b).length:Nat):Int)::fX (o+(aK b).length) l
theorem kx: ∀ (l:List Bat) (o:Nat),(fX o l).length=l.length
 | [],_=>rfl
 | b::l,o=>by rw[fX,yd,yd,kx l]
theorem qh: ∀ (l:List Bat) (o i:Nat),i<l.length→(fX o l)[i]? = some ((o+(aN aK (l.take (i+1))).length:Nat):Int)
 | b::l,o,0,h=>by rw[fX,List.getElem?_cons_zero,List.take_succ_cons,List.take_zero,aN,aN,yp]
 | b::l,o,i+1,h=>by
  rw[yd] at h
  rw[fX,List.getElem?_cons_succ,qh l _ i (by omega),List.take_succ_cons,aN,xR,Nat.add_assoc]
theorem qi (y:Bool): ∀ (l:List Bat) (t:List UInt8) (es:List Int),(∀ x,x∈l→gr x)→t.length+13000*l.length≤1000000→es.length+l.length≤1000 →
 bx l y t es=some (.ret true)∨(bx l y t es=some (.go (y,t++aN aK l,es++fX t.length l))∧ ∀ x,x∈l→okB x∧bnB x∧(aK x).length≤13000)
 | [],t,es,_,_,_=> .inr ⟨by rw[aN,fX,yp,yp]; rfl,fun x h=>nomatch h⟩
 | x::l,t,es,h,hl,he=>by
  rw[yd] at hl he
  rw[bx]
  rcases vq x (h x (.head _)) with g | ⟨g,g1,g2⟩
  ·rw[g]
   exact .inl rfl
  obtain⟨hb,hb2⟩:=tg (h x (.head _)) g1 g2
  rw[g,xP,if_neg (by decide),(uq hb.1).2,xP]
  by_cases hc:chk x=0
  rotate_left
  ·rw[if_neg hc]
   exact .inl rfl
  have ho:=okB_of hb hc
  have hlen:=iU ho
  rw[if_pos hc,xP,if_neg (by decide),r11enc hb hc,xP,if_pos (by omega),if_pos (by omega)]
  rcases qi y l (t++aK x) (es ++ [(((t++aK x).length:Nat):Int)]) (fun z hz=>h z (.tail _ hz)) (by rw[xR]; omega) (by rw[xR,yY]; omega) with k | ⟨k,k2⟩
  ·exact .inl k
  ·refine .inr ⟨?_,fun z hz=> ?_⟩
   ·rw[k,aN,fX,ya,ya,xR]
    rfl
   ·rcases List.mem_cons.1 hz with rfl | hz
    ·exact⟨ho,hb.1,by omega⟩
    ·exact k2 z hz
theorem qj (a0:List Bat) (k:Nat) (E:Int) (s:List UInt8) (hE:E % ((s.length:Int)+1)=(k:Int)) (hn:a0.length≤1000): ∀ (m i:Nat) (v:Int),i+m=a0.length→v=((aN aK (a0.take i)).length:Int)→v≤(k:Int) →
 ∃ j:Nat,i≤j∧j≤a0.length∧(aN aK (a0.take j)).length≤k∧(j<a0.length→k<(aN aK (a0.take (j+1))).length)∧bz E s (fX 0 a0) (m+1) i v=some (j,((aN aK (a0.take j)).length:Int))
 | 0,i,v,h1,h2,h3=>by
  refine⟨i,yn _,by omega,by omega,fun h=>by omega,?_⟩
  rw[bz,if_neg (by rw[kx]; omega),xP,if_neg (by decide),h2]
 | m+1,i,v,h1,h2,h3=>by
  have hg:=qh a0 0 i (by omega)
  rw[Nat.zero_add] at hg
  rw[bz,if_pos (by rw[kx]; omega),hg,xP,hE]
  by_cases c:(((aN aK (a0.take (i+1))).length:Nat):Int)≤(k:Int)
  ·obtain⟨j,j1,j2,j3,j4,j5⟩:=qj a0 k E s hE hn m (i+1) _ (by omega) rfl c
   refine⟨j,by omega,j2,j3,j4,?_⟩
   rw[if_pos c,xP,if_pos rfl,xP,if_pos (by omega),j5]
  ·refine⟨i,yn _,by omega,by omega,fun _=>by omega,?_⟩
   rw[if_neg c,xP,if_neg (by decide),h2]
theorem uC {l:List Bat} {j:Nat} (h:j<l.length): ∃ b,b∈l∧l.take (j+1)=l.take j ++ [b]∧ ∃ r,l=l.take j++b::r:=by
 refine⟨l[j],List.getElem_mem h,by rw[List.take_add_one,List.getElem?_eq_getElem h]; rfl,l.drop (j+1),?_⟩
 rw[← List.drop_eq_getElem_cons h,List.take_append_drop]
theorem scn_at {l:List Bat} (h: ∀ b,b∈l→okB b) {j k:Nat} (h1:j≤l.length) (h2:(aN aK (l.take j)).length≤k) (h3:j<l.length→k<(aN aK (l.take (j+1))).length) (hk:k≤(aN aK l).length) :
 ∃ r,Scn ((aN aK l).take k)=(l.take j,r,0)∧(r = []↔(aN aK (l.take j)).length=k):=by
 have ht: ∀ b,b∈l.take j→okB b:=fun b hb=>h b (List.mem_of_mem_take hb)
 by_cases c:j<l.length
 ·obtain⟨b,m1,m2,r,m3⟩:=uC c
  have h4:=h3 c
  rw[m2,mT,aN,aN,yp,xR] at h4
  have e:(aN aK l).take k=aN aK (l.take j)++(aK b).take (k - (aN aK (l.take j)).length):=by
   conv=>lhs; rw[m3]
   rw[mT,aN,List.take_append,List.take_of_length_le h2,List.take_append_of_le_length (by omega)]
  refine⟨(aK b).take (k - (aN aK (l.take j)).length),?_,?_⟩
  ·rw[e,mP _ _ ht,vl (h b m1) (by omega),yp]
  ·have hl:((aK b).take (k - (aN aK (l.take j)).length)).length=k - (aN aK (l.take j)).length:=by rw[yj]; omega
   constructor
   ·intro hr
    rw[hr,yQ] at hl
    omega
   ·intro hr
    exact List.length_eq_zero_iff.1 (by omega)
 ·have e:l.take j=l:=List.take_of_length_le (by omega)
  rw[e] at h2 ht ⊢
  have ek:k=(aN aK l).length:=by omega
  refine⟨[],?_,by simp[ek]⟩
  rw[ek,List.take_length,uA ht]
theorem pure_ScanRows (a0:List Bat) (a1:List Int) (a2:Int) (w0:wL gr a0) (w1:wL wU8 a1) (w2:0≤a2∧a2≤65535):eP a0 a1 a2=some true:=by
 unfold eP
 rw[uB,xP,if_pos rfl]
 by_cases l1:(a0.length:Int)>6
 ·rw[if_pos l1,xP,if_pos rfl]
 by_cases l2:(a1.length:Int)>200
 ·rw[if_neg l1,if_pos l2,xP,if_pos rfl]
 rw[if_neg l1,if_neg l2,xP,if_neg (by decide)]
 rcases qi false a0 [] [] w0.2 (by rw[yQ]; omega) (by rw[yQ]; omega) with g | ⟨g,g2⟩
 ·rw[g]
  rfl
 rw[yk,yk,yQ] at g
 have hlen:(aN aK a0).length≤13000*a0.length:=oY aK 13000 a0 (fun x hx=>(g2 x hx).2.2)
 rw[g,xP]
 dsimp only
 rw[if_pos (by omega),if_pos (by omega),if_pos (by omega)]
 obtain⟨k,hk⟩: ∃ k:Nat,a2 % (((aN aK a0).length:Int)+1)=(k:Int):=⟨(a2 % (((aN aK a0).length:Int)+1)).toNat,(Int.toNat_of_nonneg (Int.emod_nonneg _ (by omega))).symm⟩
 have hk2:(k:Int)<((aN aK a0).length:Int)+1:=by rw[← hk]; exact Int.emod_lt_of_pos _ (by omega)
 obtain⟨j,j1,j2,j3,j4,j5⟩:=qj a0 k a2 (aN aK a0) hk (by omega) a0.length 0 0 (by omega) (by rw[List.take_zero]; rfl) (by omega)
 rw[show (((fX 0 a0).length:Int)).toNat+1=a0.length+1 by rw[kx]; omega,j5,xP]
 dsimp only
 obtain⟨r,s1,s2⟩:=scn_at (fun b hb=>(g2 b hb).1) j2 j3 j4 (by omega)
 have ht: ∀ b,b∈a0.take j→okB b∧bnB b:=fun b hb=>⟨(g2 b (List.mem_of_mem_take hb)).1,(g2 b (List.mem_of_mem_take hb)).2.1⟩
 have hlt:((aN aK a0).take k).length=k:=by rw[yj]; omega
 obtain⟨cs,q1,q2,q3⟩:=cut_eq (s:=(aN aK a0).take k) (ns:=a1) (fun n hn=>w1.2 n hn) (by omega) (by omega)
 have hself:et (a0.take j) (a0.take j)=some true:=qg (by rw[yj]; omega) (fun b hb=>(ht b hb).2)
 rw[hk,yA]
 have hst:(if ((aN aK (a0.take j)).length:Int)<(k:Int) then ((some 1:Option (Int))) else ((some 0:Option (Int))))=some (jk ((aN aK a0).take k)).xJ:=by
  have e2:(jk ((aN aK a0).take k)).xJ=if r = [] then 0 else 1:=by
   unfold jk
   rw[s1]
   show (if (0:Int)≠0 then (2:Int) else if r = [] then 0 else 1)= _
   rw[if_neg (show ¬ ((0:Int)≠0) from fun h=>h rfl)]
  rw[e2]
  by_cases c:(aN aK (a0.take j)).length=k
  ·rw[if_neg (by omega),if_pos (s2.2 c)]
  ·rw[if_pos (by omega),if_neg (fun h=>c (s2.1 h))]
 have hv:(jk ((aN aK a0).take k)).xI=((aN aK (a0.take j)).length:Int):=by
  unfold jk
  rw[s1]
 have he:(jk ((aN aK a0).take k)).xK=0:=by
  unfold jk
  rw[s1]
 rw[hst,xP,if_pos (by omega),q1,xP,vp (by rw[q2]; omega),q2,s1,xP]
 dsimp only
 rw[if_pos j2,hself,xP,if_pos rfl,if_pos hv,if_pos rfl,if_pos he,xP]
open Go.RowKit Go.Deep Go.ChangeShapes
theorem uD {H:Type} {enc:TypeId×Value→H}:d8 enc Tryz.prog 66 (gA pk rD) :=
 gc (fun x=>⟨x.1,x.2.1⟩) (e7 Tryz.underlying66 (by kernel_rfl) (aI 1 (by kernel_rfl) (by kernel_rfl) (lN Tryz.underlying4) (aI 1 (by kernel_rfl) (by kernel_rfl) (tq Tryz.underlying9) (fz _)))) (by
  rintro w S cs ⟨x0,x1,_⟩ ⟨_,_,rfl,⟨p0,q0⟩,_,_,rfl,⟨p1,q1⟩,rfl⟩
  obtain rfl:=p0
  obtain rfl:=p1
  exact⟨rfl,q0,q1⟩)
theorem op_Hd {H:Type} {enc:TypeId×Value→H}:d8 enc Tryz.prog 71 (gA bg tr) :=
 gc (fun x=>⟨x.1,x.2.1⟩) (e7 Tryz.underlying71 (by kernel_rfl) (aI 1 (by kernel_rfl) (by kernel_rfl) (tq Tryz.underlying9) (aI 2 (by kernel_rfl) (by kernel_rfl) uD (fz _)))) (by
  rintro w S cs ⟨x0,x1,_⟩ ⟨_,_,rfl,⟨p0,q0⟩,_,_,rfl,⟨p1,q1⟩,rfl⟩
  obtain rfl:=p0
  obtain rfl:=p1
  exact⟨rfl,q0,q1⟩)
theorem op_Rec {H:Type} {enc:TypeId×Value→H}:d8 enc Tryz.prog 69 (gA bj mb) :=
 gc (fun x=>⟨x.1,x.2.1,x.2.2.1,x.2.2.2.1,x.2.2.2.2.1⟩) (e7 Tryz.underlying69 (by kernel_rfl) (aI 1 (by kernel_rfl) (by kernel_rfl) (gq Tryz.underlying3) (aI 1 (by kernel_rfl) (by kernel_rfl) (gq Tryz.underlying3) (aI 2 (by kernel_rfl) (by kernel_rfl) uD (aI 2 (by kernel_rfl) (by kernel_rfl) uD (aI 1 (by kernel_rfl) (by kernel_rfl) (op_slice 3 40 Tryz.underlying67 (by kernel_rfl) (by kernel_rfl) (by decide) (by decide) op_Hd) (fz _))))))) (by
  rintro w S cs ⟨x0,x1,x2,x3,x4,_⟩ ⟨_,_,rfl,⟨p0,q0⟩,_,_,rfl,⟨p1,q1⟩,_,_,rfl,⟨p2,q2⟩,_,_,rfl,⟨p3,q3⟩,_,_,rfl,⟨p4,q4⟩,rfl⟩
  obtain rfl:=p0
  obtain rfl:=p1
  obtain rfl:=p2
  obtain rfl:=p3
  obtain⟨A4,c4,rfl⟩:=slice_cells p4
  exact⟨⟨A4,c4,rfl,p4⟩,q0,q1,q2,q3,q4⟩)
theorem op_Bat {H:Type} {enc:TypeId×Value→H}:d8 enc Tryz.prog 43 (gA dl gr) :=
 gc (fun x=>⟨x.1,x.2.1,x.2.2.1,x.2.2.2.1,x.2.2.2.2.1,x.2.2.2.2.2.1,x.2.2.2.2.2.2.1,x.2.2.2.2.2.2.2.1,x.2.2.2.2.2.2.2.2.1,x.2.2.2.2.2.2.2.2.2.1,x.2.2.2.2.2.2.2.2.2.2.1,x.2.2.2.2.2.2.2.2.2.2.2.1⟩) (e7 Tryz.underlying43 (by kernel_rfl) (aI 1 (by kernel_rfl) (by kernel_rfl) (gq Tryz.underlying3) (aI 1 (by kernel_rfl) (by kernel_rfl) (gq Tryz.underlying3) (aI 1 (by kernel_rfl) (by kernel_rfl) (lN Tryz.underlying4) (aI 1 (by kernel_rfl) (by kernel_rfl) (lN Tryz.underlying4) (aI 1 (by kernel_rfl) (by kernel_rfl) (lN Tryz.underlying4) (aI 1 (by kernel_rfl) (by kernel_rfl) (gq Tryz.underlying3) (aI 1 (by kernel_rfl) (by kernel_rfl) (gq Tryz.underlying3) (aI 1 (by kernel_rfl) (by kernel_rfl) (gq Tryz.underlying3) (aI 1 (by kernel_rfl) (by kernel_rfl) (gq Tryz.underlying3) (aI 1 (by kernel_rfl) (by kernel_rfl) (gq Tryz.underlying3) (aI 1 (by kernel_rfl) (by kernel_rfl) (gq Tryz.underlying3) (aI 1 (by kernel_rfl) (by kernel_rfl) (op_slice 7 88 Tryz.underlying41 (by kernel_rfl) (by kernel_rfl) (by decide) (by decide) op_Rec) (fz _)))))))))))))) (by
  rintro w S cs ⟨x0,x1,x2,x3,x4,x5,x6,x7,x8,x9,x10,x11,_⟩ ⟨_,_,rfl,⟨p0,q0⟩,_,_,rfl,⟨p1,q1⟩,_,_,rfl,⟨p2,q2⟩,_,_,rfl,⟨p3,q3⟩,_,_,rfl,⟨p4,q4⟩,_,_,rfl,⟨p5,q5⟩,_,_,rfl,⟨p6,q6⟩,_,_,rfl,⟨p7,q7⟩,_,_,rfl,⟨p8,q8⟩,_,_,rfl,⟨p9,q9⟩,_,_,rfl,⟨p10,q10⟩,_,_,rfl,⟨p11,q11⟩,rfl⟩
  obtain rfl:=p0
  obtain rfl:=p1
  obtain rfl:=p2
  obtain rfl:=p3
  obtain rfl:=p4
  obtain rfl:=p5
  obtain rfl:=p6
  obtain rfl:=p7
  obtain rfl:=p8
  obtain rfl:=p9
  obtain rfl:=p10
  obtain⟨A11,c11,rfl⟩:=slice_cells p11
  exact⟨⟨A11,c11,rfl,p11⟩,q0,q1,q2,q3,q4,q5,q6,q7,q8,q9,q10,q11⟩)
end Go.Proofs.YtahjmpipllajcaaGreat.Sl
namespace Go.Proofs.YtahjmpipllajcaaGreat.scanRows
open Go.ChangeShapes Go.WideShapes Go.ChangeAt Go.RowKit
open Go.ChangeMaps (open_string shut_string)
set_option linter.unusedVariables false
theorem own:ownKnob Tryz.prog.godebug=none:=by kernel_rfl
theorem laidOut:laidOutB Tryz.prog=true:=by kernel_rfl
theorem lifted (os:Os) (started:os.Started) (H:Type) (enc:TypeId×Value→H) :
 ReturnsInHanded {} Tryz.checked os 4 .any (Rows.scanRowsSpec.pre6 enc Tryz.prog Tryz.f4 Rows.scanRowsRow.domain false) (Rows.scanRowsSpec.post enc Tryz.prog Tryz.f4 false true false false):=by
 refine returnsInHanded_of_change_sized (C:=Tryz.checked) own started (by kernel_rfl) Tryz.func4
  (ChangeSpec.witness6 (enc:=enc) (C:=Tryz.checked) false ⟨#[],#[.slice none 0 0,.slice none 0 0,.int .u16 0],[]⟩ 8 (by kernel_rfl) (by kernel_rfl) (by kernel_rfl) (by kernel_rfl)) ?_
 intro W base args ds gs before hval0 hW hcnd hsz0 _
 have hsz:(DataW.weightsEach Tryz.prog (Tryz.f4.params.toList++Rows.scanRowsSpec.plain.varTypes Tryz.prog) (ds++gs)).all (· ≤ reachBytes)=true:=hsz0
 have hval: ∀ (j:Nat) t v,Tryz.f4.params[j]? = some t→args[j]? = some v→Value.okWide Tryz.prog W .any base t v:=hval0
 have hW':=hW
 obtain⟨p,q,hA0,hV,rfl,hfz,hnd⟩:=hW
 have hA:DataW.TrodAll enc Tryz.prog W 0 (fun _=>true) true Tryz.f4.params.toList args.toList ds p:=hA0
 rw[Tryz.params4] at hA hval hsz
 obtain⟨v0,vs0,d0,ds0,p0,q0,hargs,rfl,rfl,h0,r0⟩:=trodAll_cons hA
 obtain⟨v1,vs1,d1,ds1,p1,q1,rfl,rfl,rfl,h1,r1⟩:=trodAll_cons r0
 obtain⟨v2,vs2,d2,ds2,p2,q2,rfl,rfl,rfl,h2,r2⟩:=trodAll_cons r1
 obtain⟨rfl,rfl,rfl⟩:=trodAll_nil r2
 obtain rfl:args= #[v0,v1,v2]:=by cases args; simp_all
 obtain⟨rfl,rfl⟩:=trodVars_none hV
 have k0:=h0
 have lt0: ∀ x∈p0,x.block<W.heap.size:=by obtain⟨m,hm⟩:=k0; exact DataW.trod_lt m _ _ _ hm
 obtain⟨a0,r_0,w0⟩:=Sl.opens_arg1 Tryz.underlying28 (hval 0 28 v0 rfl rfl) (Sl.op_slice 12 96 Tryz.underlying28 (by kernel_rfl) (by kernel_rfl) (by decide) (by decide) Sl.op_Bat) h0 (fun x hx=>of_decide_eq_true (List.all_eq_true.1 hsz x (Sl.weights_in 0 rfl rfl hx)))
 obtain⟨A0,c0,e0⟩:=Sl.slice_cells r_0
 injection e0 with e0
 subst e0
 have k1:=h1
 have lt1: ∀ x∈p1,x.block<W.heap.size:=by obtain⟨m,hm⟩:=k1; exact DataW.trod_lt m _ _ _ hm
 obtain⟨a1,r_1,w1⟩:=Sl.opens_arg1 Tryz.underlying22 (hval 1 22 v1 rfl rfl) (Sl.op_slice 1 1 Tryz.underlying22 (by kernel_rfl) (by kernel_rfl) (by decide) (by decide) (Sl.op_u8 Tryz.underlying5)) h1 (fun x hx=>of_decide_eq_true (List.all_eq_true.1 hsz x (Sl.weights_in 1 rfl rfl hx)))
 obtain⟨A1,c1,e1⟩:=Sl.slice_cells r_1
 injection e1 with e1
 subst e1
 obtain⟨a2,rfl,rfl,rfl,u2⟩:=open_int Tryz.underlying39 (hval 2 39 v2 rfl rfl) h2
 have w2:=Go.bounds_u16 u2
 clear hA0 hval0 hsz0 hsz
 refine (Sl.f_l23_ScanRows_spec a0 A0 c0 a1 A1 c1 a2 true (Sl.pure_ScanRows a0 a1 a2 w0 w1 w2) (fun _=>False) W (fun _ h=>h) (Sl.RX.reads_and (Sl.RX.reads_all r_0) (Sl.RX.reads_all r_1))).mono fun e W' hP=> ?_
 obtain⟨v,A',Ns,rfl,⟨rfl,rfl,rfl⟩,hst⟩:=hP
 have bel:=Sl.St.below hst
 exact⟨_,rfl,_,_,_,[],_,[],hW',trodAll_mk1 (shut_bool Tryz.underlying4 _),(trodAll_cons_mk (Below.trod laidOut (by kernel_rfl) (of_decide_eq_true (by kernel_rfl)) k0 bel lt0) (trodAll_cons_mk (Below.trod laidOut (by kernel_rfl) (of_decide_eq_true (by kernel_rfl)) k1 bel lt1) (trodAll_cons_mk (shut_int Tryz.underlying39 u2) trodAll_mk0))),rfl,bel.frame _,fun h=>by cases h⟩
theorem over:Rows.scanRowsRow.holds Tryz.pinned (OpenSpec.ofChange Rows.scanRowsSpec) :=
 OpenClaim.holds_of_wide 4 Tryz.f4 rfl rfl rfl rfl rfl rfl rfl ⟨rfl,rfl,rfl,rfl,rfl⟩ rfl rfl rfl rfl rfl (by kernel_rfl) Tryz.func4 (by kernel_rfl)
  (of_decide_eq_true (by kernel_rfl)) (by unfold Func.isWrapper; first | (rw[if_pos (by decide +kernel)]; kernel_rfl) | (rw[if_neg (by decide +kernel)]; exact⟨rfl,rfl⟩))
  (fun os started H enc _=>lifted os started H enc)
theorem proved:Rows.ScanRowsSaid:=over
end Go.Proofs.YtahjmpipllajcaaGreat.scanRows
namespace Go.Proofs.YtahjmpipllajcaaGreat
theorem scanRows_holds:Rows.ScanRowsSaid:=scanRows.proved
end Go.Proofs.YtahjmpipllajcaaGreat
