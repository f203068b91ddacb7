/- ScanFeeds: for every input the law returns true, and its arguments read behind the call as they did before. -/
import Derived.Test.YtahjmpipllajcaaGreatRows
import Derived.WalkKit
import Derived.ProofKit
import Derived.OpenShut
import Derived.ShutString
import Derived.ChangeOld
import Derived.Below
import Derived.SizedLaws
import Derived.Test.YtahjmpipllajcaaGreatK6
set_option maxRecDepth 100000
set_option maxHeartbeats 4000000
set_option linter.defProp false
namespace Go.Proofs.YtahjmpipllajcaaGreat.Sl
open Go.RowKit
set_option linter.unusedVariables false
set_option linter.unusedSimpArgs false
def xv := @Tryz.runUnderlying22
def xP := @Tryz.isAgg22
def xY := @Tryz.sizeOf5
def ya := @Tryz.sizeOf30
def yf := @Tryz.runUnderlying30
def yl := @Tryz.eqGuardType36
def ym := @Tryz.sizeOf36
def yr := @Tryz.sizeOf22
def yG := @Tryz.isAgg30
def yO := @Tryz.runUnderlying52
def yS := @Tryz.isAgg36
def bB (g:Nat) (st:aC):Res:=rN (fun x:Option Addr×Nat => [aD g 52 #[.slice x.1 st.fheld.length x.2,.int .i64 st.fvalid,.int .i64 st.ferr],aE 5 1 u8E (.slice x.1 st.fheld.length x.2) st.fheld])
theorem bg {n:Nat} {F0:Nat→Prop} {w0:World} {e:Env} {Rs Rs':List Res} {Q:Exit→Act→World→Prop} {z:Exit} (g:Nat) (st:aC) (A0:Option Addr) (c0:Nat) (hR:Rs = [aD g 52 #[.slice A0 st.fheld.length c0,.int .i64 st.fvalid,.int .i64 st.ferr],aE 5 1 u8E (.slice A0 st.fheld.length c0) st.fheld]++Rs') (h:X n F0 w0 e (bB g st::Rs') z Q):X n F0 w0 e Rs z Q:=X.pakShut (A0,c0) hR h
theorem oh:Ones cE:=by rintro _ _ _ _ ⟨_,_,rfl,_⟩; rfl
def uu:dU := [(52,0,0),(52,1,1),(52,2,2)]
theorem ao:(uu).OK Tryz.prog:=⟨FOK.mk yO rfl yr rfl,FOK.mk yO rfl xg rfl,FOK.mk yO rfl Tryz.sizeOf34 rfl,trivial⟩
theorem mu:Tryz.prog.follows .mixedOrders=true:=by kernel_rfl
theorem iE:BOK Tryz.prog 36 #[.int .i64 0,.int .i64 0,.int .i64 0] [(0,1),(1,1),(2,1)]:=BOK.mk Tryz.zeroValue36 Tryz.runUnderlying36 (by intro w; simp)
theorem pE:BOK Tryz.prog 52 #[.slice none 0 0,.int .i64 0,.int .i64 0] [(0,1),(1,1),(2,1)]:=BOK.mk Tryz.zeroValue52 yO (by intro w; simp)
theorem mK:SOK Tryz.prog 28 43 1 12 #[.int .i64 0,.int .i64 0,.bool false,.bool false,.bool false,.int .i64 0,.int .i64 0,.int .i64 0,.int .i64 0,.int .i64 0,.int .i64 0,.slice none 0 0]:=SOK.mk xU xl Tryz.zeroValue43 (by decide) (by kernel_rfl)
theorem qD:(Tryz.prog.info? 5).map (fun i=>(i.zero,i.size,i.bytes))=some (some (.int .u8 0),1,1):=by kernel_rfl
theorem lc:(Tryz.prog.info? 43).map (fun i=>(i.zero,i.size,i.bytes))=some (some (.agg #[.int .i64 0,.int .i64 0,.bool false,.bool false,.bool false,.int .i64 0,.int .i64 0,.int .i64 0,.int .i64 0,.int .i64 0,.int .i64 0,.slice none 0 0]),12,96):=by kernel_rfl
def fT  : Option (aC):=some (⟨[],0,0⟩:aC)
theorem g9  (r:aC) (h:fT  = some r):au Tryz.prog 6 #[] .triv (aw) (fun v A' N=> ∃ q:Nat,v=jP q∧A'=aw∧N = [bB q r]):=by
 refine aF Tryz.func6 Z Tryz.ntmps6 Z ?_
 intro F w hX
 unfold fT at h
 refine T.seq (T.region Z (TL.run ao [0] Z Z (TL.nil (X.seq (T.seq (T.region Z ?_))))))
 refine TL.q Z .u (uU (cells:= #[.slice none 0 0,jI 0,jI 0]) pE Z (by kernel_rfl)) Z ?_
 refine TL.box Z .u Z Z (fun b3=>(TL.run ao [2] Z Z ?_))
 obtain rfl:=xa h
 exact TL.nil (X.seq (T.ret (X.nilrow 5 1 u8E (uW [1,0,0] Z (bg b3 (⟨[],0,0⟩:aC) none 0 Z (uC [1,0] Tryz.results6 (uD Z) ⟨_,Z,Z,Z⟩ (by rfl) (.inl Z)))))))
def bv (y65:List Bat) (y68:Int) (y70:List Int) (y73:Int) (y74:Int):Option (List Bat×aC):=some (y65,(⟨y70,y73,y68⟩:aC))
def bc:Nat→List Bat→List Int→Int→Int→Option (List Bat×aC)
 | 0,_,_,_,_=>none
 | m76+1,y9,y13,y16,y17=>(if 61<(y13.length:Int) then (if 61≤y13.length then ((aZ (iO (y13.take 61))).bind fun (x91,x92)=>some (x91,x92)) else none) else (if y13.length≤y13.length then ((aZ (iO (y13.take y13.length))).bind fun (x95,x96)=>some (x95,x96)) else none)).bind fun (y86,y87)=>if y87=0 then ((if y86=0 then some true else (if y86>(y13.length:Int) then some true else some false)).bind fun y100=>if y100=true then (some (y9,(⟨y13,y16,y17⟩:aC))) else (if 0≤y86∧y86.toNat≤y13.length then ((nE (iO (y13.take y86.toNat))).bind fun st106=>(dW st106).bind fun (x109,st112)=>(jH st112).bind fun (x114,st115)=>if x114=0 then (if (y9.length+1)*96≤140737488355328 then (if -9223372036854775808≤(y16+y86)∧(y16+y86)≤9223372036854775807 then (if 0≤y86∧y86.toNat≤y13.length then (bc m76 (y9 ++ [x109]) (y13.drop y86.toNat) (y16+y86) y17) else none) else none) else none) else (bv y9 x114 y13 y16 y17)) else none)) else (bv y9 y87 y13 y16 y17)
def bE (st:aC) (a1:List UInt8):Option (List Bat×aC):=if st.ferr=0 then (if st.fheld.length+a1.length≤140737488355328 then (bc ((st.fheld++bsI a1).length+1) [] (st.fheld++bsI a1) st.fvalid st.ferr) else none) else some ([],st)
theorem ey (g:Nat) (st:aC) (a1:List UInt8) (r:List Bat×aC) (h:bE st a1=some r):au Tryz.prog 10 #[jP g,jS a1] .triv (bB g st) (fun v A' N=> ∃ (A129:Option Addr) (c130:Nat),v= .slice A129 r.1.length c130∧A'=bB g r.2∧N = [RdR (aq 12 cE) [.slice A129 r.1.length c130] r.1]):=by
 refine aF Tryz.func10 Z Tryz.ntmps10 Z ?_
 intro F w hX
 refine T.pakOpen 0 Z ?_
 rintro⟨A1,c2⟩
 refine vN [0,0] Z ?_
 unfold bE at h
 refine T.seq (T.region Z (TL.run ao [0] Z Z (TL.nil (X.seq ?_))))
 refine T.scope (fun l m e Rs=>(l=0∧ ∃ (b12:Nat) (y9:List Bat) (A10:Option Addr) (c11:Nat) (y13:List Int) (A14:Option Addr) (c15:Nat) (y16:Int) (y17:Int),e = [(0,jP g),(5,.slice A10 y9.length c11),(9,jP b12)]∧Rs = [nK b12 43 12,aD g 52 #[.slice A14 y13.length c15,jI y16,jI y17],aE 43 12 cE (.slice A10 y9.length c11) y9,aE 5 1 u8E (.slice A14 y13.length c15) y13]∧bc m y9 y13 y16 y17=some r)∨(l=1∧m=0∧ ∃ (b69:Nat) (y65:List Bat) (A66:Option Addr) (c67:Nat) (y68:Int) (y70:List Int) (A71:Option Addr) (c72:Nat) (y73:Int) (y74:Int),e = [(0,jP g),(5,.slice A66 y65.length c67),(7,jI y68)]∧Rs = [nK b69 43 12,aD g 52 #[.slice A71 y70.length c72,jI y73,jI y74],aE 43 12 cE (.slice A66 y65.length c67) y65,aE 5 1 u8E (.slice A71 y70.length c72) y70]∧bv y65 y68 y70 y73 y74=some r)) ?_ ?_
 ·rintro _ m _ _ (⟨rfl,b12,y9,A10,c11,y13,A14,c15,y16,y17,rfl,rfl,h⟩ | ⟨rfl,rfl,b69,y65,A66,c67,y68,y70,A71,c72,y73,y74,rfl,rfl,h⟩)
  ·refine⟨_,Z,?_⟩
   cases m with
   | zero=>rw[bc] at h; cases h
   | succ m76 =>
    rw[bc] at h
    refine T.seq ?_
    obtain⟨⟨y86,y87⟩,h,hk88⟩:=wX h
    refine vF (fun e Rs=>e = [(0,jP g),(5,.slice A10 y9.length c11),(6,jI y86),(7,jI y87),(9,jP b12)]∧Rs = [nK b12 43 12,aD g 52 #[.slice A14 y13.length c15,jI y16,jI y17],aE 43 12 cE (.slice A10 y9.length c11) y9,aE 5 1 u8E (.slice A14 y13.length c15) y13]) ?_ ?_
    ·clear hk88
     refine uZ (.q 0 (.q 1 (.q 2 (.q 3 (.q 4 (.q 5 (.q 6 (.q 7 (.q 8 (.q 9 (.q 10 (.q 11 (.e 12 (.q 13 (.q 14 (.q 15 (.q 16 (.q 17 .nil)))))))))))))))))) [0,0,0,0] Z mu (NoP.seq (NoP.seq (NoP.jm aI))) (by kernel_rfl) ?_
     refine TD.run ao [0,1,2] Z Z (TD.q Z .u (uB 1 Z xP Z Z) Z (TD.run ao [4,5,6] Z Z (TD.q Z .u (uB 1 Z xP Z Z) Z (TD.q Z .u (uY Z xv) Z ?_))))
     rcases jF h with⟨c89,h⟩ | ⟨c89,h⟩
     ·refine TD.q Z .u (Ex.miny Z Z c89) Z ?_
      replace h:=ak h
      obtain⟨c90,h⟩:=h
      refine TD.q Z .u (vv (k:=61) 3 Z Z xv xY (.some Z Z) c90) Z (TD.q Z .u (wo (k:=61) 3 Z Z c90 xv xj yx) Z ?_)
      obtain⟨⟨x91,x92⟩,hx93,h⟩:=wX h
      try dsimp only at h
      refine v6 Z .u (.fn Tryz.call20 Z) (fM (iO (y13.take 61)) _ hx93) (fun _ hs=>(uE _ _)) Z [0,0,0,0] (Z) (TD.run ao [13,14,15,16,17] Z Z ?_)
      cases h
      exact TD.nil (u4 [0,0,0,0] ⟨Z,Z⟩ (by rfl) (by rfl))
     ·refine TD.q Z .u (Ex.minx Z Z c89) Z ?_
      replace h:=ak h
      obtain⟨c94,h⟩:=h
      refine TD.q Z .u (vv (k:=y13.length) 3 Z Z xv xY (.some Z Z) c94) Z (TD.q Z .u (wo (k:=y13.length) 3 Z Z c94 xv xj yx) Z ?_)
      obtain⟨⟨x95,x96⟩,hx97,h⟩:=wX h
      try dsimp only at h
      refine v6 Z .u (.fn Tryz.call20 Z) (fM (iO (y13.take y13.length)) _ hx97) (fun _ hs=>(uE _ _)) Z [0,0,0,0] (Z) (TD.run ao [13,14,15,16,17] Z Z ?_)
      cases h
      exact TD.nil (u4 [0,0,0,0] ⟨Z,Z⟩ (by rfl) (by rfl))
    ·rintro _ _ ⟨rfl,rfl⟩
     clear h
     have h:=hk88
     clear hk88
     try dsimp only at h
     refine X.seq (T.seq (T.seq (T.region Z (TL.run ao [0,1] Z Z ?_))))
     rcases jF h with⟨c98,h⟩ | ⟨c98,h⟩
     ·refine TL.nil (X.seq (uK Z (av (wY c98)) (T.skip (X.seq (T.seq (T.seq ?_))))))
      obtain⟨y100,h,hk101⟩:=wX h
      refine vF (fun e Rs=>e = [(0,jP g),(5,.slice A10 y9.length c11),(6,jI y86),(7,jI y87),(9,jP b12),(52,.bool y100)]∧Rs = [nK b12 43 12,aD g 52 #[.slice A14 y13.length c15,jI y16,jI y17],aE 43 12 cE (.slice A10 y9.length c11) y9,aE 5 1 u8E (.slice A14 y13.length c15) y13]) ?_ ?_
      ·clear hk101
       refine T.region Z ?_
       rcases jF h with⟨c102,h⟩ | ⟨c102,h⟩
       ·refine TL.run ao [0,1,2] Z Z ?_
        iterate 7 refine uG Z (.gn Z Z (wY c102)) Z ?_
        refine TL.q Z .u (uJ Z (wY c102) Z) Z ?_
        cases h
        exact TL.nil (u4 [0,0,0,0] ⟨Z,Z⟩ (by rfl) (by rfl))
       ·refine TL.run ao [0,1,2] Z Z ?_
        iterate 4 refine TL.q Z (.g Z Z (wZ c102)) (uI ao Z) Z ?_
        refine TL.q Z (.g Z Z (wZ c102)) (uB 1 Z xP Z Z) Z (TL.q Z (.g Z Z (wZ c102)) (uY Z xv) Z (TL.q Z (.g Z Z (wZ c102)) (uI ao Z) Z (TL.q Z .u (uL Z (wZ c102) Z) Z ?_)))
        rcases jF h with⟨c103,h⟩ | ⟨c103,h⟩
        ·cases h
         exact TL.nil (vV (d:=52) (v':= .bool true) Z (congrArg Value.bool (wY c103)) (u4 [0,0,0,0] ⟨Z,Z⟩ (by rfl) (by rfl)))
        ·cases h
         exact TL.nil (vV (d:=52) (v':= .bool false) Z (congrArg Value.bool (wZ c103)) (u4 [0,0,0,0] ⟨Z,Z⟩ (by rfl) (by rfl)))
      ·rintro _ _ ⟨rfl,rfl⟩
       clear h
       have h:=hk101
       clear hk101
       try dsimp only at h
       rcases jF h with⟨c104,h⟩ | ⟨c104,h⟩
       ·refine X.seq (uF Z c104 (T.seq (T.region Z (TL.run ao [0,1] Z Z ?_))))
        obtain rfl:=xa h
        exact TL.nil (X.seq (T.ret (uH (X.rj (vt (by decide) 2 Z (uW [0,0,0,0] Z (uW [1,2,0,0] Z (bg g (⟨y13,y16,y17⟩:aC) A14 c15 Z (uC [0,1] Tryz.results10 (uD Z) ⟨_,_,Z,Z,Z⟩ (by rfl) (.inl Z))))))))))
       ·replace c104:=xi c104
        refine X.seq (uK Z c104 (T.skip (X.seq (T.seq (T.region Z (TL.run ao [0,1,2] Z Z (TL.q Z .u (uB 1 Z xP Z Z) Z ?_)))))))
        replace h:=ak h
        obtain⟨c105,h⟩:=h
        refine TL.run ao [4] Z Z (TL.q Z .u (vv (k:=y86.toNat) 3 Z Z xv xY (.some Z (Int.toNat_of_nonneg c105.1).symm) c105.2) Z (TL.q Z .u (wo (k:=y86.toNat) 3 Z Z c105.2 xv xj yx) Z ?_))
        obtain⟨st106,hx107,h⟩:=wX h
        refine u0 Z .u (.fn Tryz.call21 Z) (fv (iO (y13.take y86.toNat)) _ hx107) (fun _ hs=>(uE _ _)) Z ?_
        rintro _ _ _ ⟨b108,rfl,rfl,rfl⟩
        refine uM [0,0,0,0,0] Z (TL.run ao [8] Z Z (TL.nil (X.seq (T.seq (T.region Z ?_)))))
        obtain⟨⟨x109,st112⟩,hx113,h⟩:=wX h
        try dsimp only at h
        refine TL.run ao [0] Z Z (TL.cg0 Z .u (.fn Tryz.call22 Z) (jT b108 st106 _ hx113) (fun _ hs=>(Src.triv _)) Z ?_)
        rintro _ _ _ ⟨A110,c111,rfl,rfl,rfl⟩
        refine uM [0,0,0,0,0,0] Z (TL.stAll 2 Z .u Z Z xl Z Z Z (uM [0,0,0,0,0,0] Z (TL.nil (X.seq (T.seq (T.seq (T.region Z ?_)))))))
        obtain⟨⟨x114,st115⟩,hx116,h⟩:=wX h
        try dsimp only at h
        refine TL.run ao [0] Z Z (vr Z .u (.fn Tryz.call23 Z) (dT b108 st112 _ hx116) (fun _ hs=>(Src.triv _)) Z (TL.run ao [2] Z Z (TL.nil (X.seq (T.seq (T.region Z (TL.run ao [0,1] Z Z ?_)))))))
        rcases jF h with⟨c117,h⟩ | ⟨c117,h⟩
        ·refine TL.nil (X.seq (uK Z (av (wY c117)) (T.skip (X.seq (T.seq (T.region Z (TL.run ao [0] Z Z (TL.q Z .u (uN (us := [jI x109.wG,jI x109.wz,.bool x109.wH,.bool x109.wN,.bool x109.wF,jI x109.wE,jI x109.wx,jI x109.wJ,jI x109.ww,jI x109.wA,jI x109.wv,.slice A110 x109.ws.length c111]) 2 Z xA xl Z Z Z) Z ?_))))))))
         refine vD (cells:= #[jI x109.wG,jI x109.wz,.bool x109.wH,.bool x109.wN,.bool x109.wF,jI x109.wE,jI x109.wx,jI x109.wJ,jI x109.ww,jI x109.wA,jI x109.wv,.slice A110 x109.ws.length c111]) Z .u mK Z (by kernel_rfl) Z (fun b118=> ?_)
         replace h:=ak h
         obtain⟨c119,h⟩:=h
         refine TL.app2 4 0 Z .u (us := [jI x109.wG,jI x109.wz,.bool x109.wH,.bool x109.wN,.bool x109.wF,jI x109.wE,jI x109.wx,jI x109.wJ,jI x109.ww,jI x109.wA,jI x109.wv,.slice A110 x109.ws.length c111]) (u:=x109) (l:=y9) (E:=cE) Tryz.underlying28 lc Z (by decide) Z Z Z Z Z Z Z (fun w G hG=>⟨_,_,Z,hG.1⟩) (by have hq:=c119; omega) (by have hq:=c119; omega) Z (fun A120 c121=> ?_)
         refine uM [0,0,0,0,0] Z (TL.run ao [4] Z Z (TL.nil (X.seq (T.seq (T.region Z (TL.run ao [0,1,2] Z Z (TL.q Z .u (uB 3 Z xc Z Z) Z ?_)))))))
         replace h:=ak h
         obtain⟨c122,h⟩:=h
         refine TL.run ao [4] Z Z (TL.q Z .u (Ex.add Z Z c122) Z (TL.run ao [6,7] Z Z (vg (cs':= #[.slice A14 y13.length c15,jI (y16+y86),jI y17]) Z .u Z Z xg Z Z Z Z ?_)))
         replace h:=ak h
         obtain⟨c123,h⟩:=h
         refine TL.nil (X.seq (T.seq ?_))
         refine T.join (fun e Rs=>e = [(0,jP g),(5,.slice A120 (y9 ++ [x109]).length c121),(6,jI y86),(7,jI x114),(8,jP b108),(9,jP b12),(52,.bool y100),(54,jP g),(55,jP g),(56,jP g),(57,.slice A14 y13.length c15),(58,jI y86),(59,.slice A14 y86.toNat c15),(60,.string (aB (iO (y13.take y86.toNat)))),(61,jP b108),(62,jP b108),(63,.agg #[jI x109.wG,jI x109.wz,.bool x109.wH,.bool x109.wN,.bool x109.wF,jI x109.wE,jI x109.wx,jI x109.wJ,jI x109.ww,jI x109.wA,jI x109.wv,.slice A110 x109.ws.length c111]),(64,jP b108),(65,jI x114),(66,jI x114),(67,.bool (!(decide (x114=0)))),(68,.slice A10 y9.length c11),(69,.agg #[jI x109.wG,jI x109.wz,.bool x109.wH,.bool x109.wN,.bool x109.wF,jI x109.wE,jI x109.wx,jI x109.wJ,jI x109.ww,jI x109.wA,jI x109.wv,.slice A110 x109.ws.length c111]),(70,.slice (some ⟨b118,0,none⟩) 1 1),(71,.slice A120 (y9 ++ [x109]).length c121),(72,jP g),(73,jP g),(74,.pointer (some ⟨g,1,none⟩)),(75,jI y16),(76,jI y86),(77,jI (y16+y86)),(78,jP g),(79,.pointer (some ⟨g,1,none⟩))]∧Rs = [aE 43 12 cE (.slice A120 (y9 ++ [x109]).length c121) (y9 ++ [x109]),InR b108 st115,aD b12 43 #[jI x109.wG,jI x109.wz,.bool x109.wH,.bool x109.wN,.bool x109.wF,jI x109.wE,jI x109.wx,jI x109.wJ,jI x109.ww,jI x109.wA,jI x109.wv,.slice A110 x109.ws.length c111],aD g 52 #[.slice A14 (y13.drop y86.toNat).length c15,jI (y16+y86),jI y17],aE 5 1 u8E (.slice A14 (y13.drop y86.toNat).length c15) (y13.drop y86.toNat)]) ?_ ?_
         ·refine uZ (.q 0 (.q 1 (.q 2 (.q 3 (.q 5 (.q 6 (.q 7 (.q 9 (.q 10 (.q 11 (.q 13 (.br 4 (.br 8 (.e 12 (.q 14 (.e 15 (.e 16 (.q 17 (.q 18 (.e 19 .nil))))))) (.e 12 (.q 14 (.e 8 (.e 15 (.e 16 (.q 17 (.q 18 (.e 19 .nil))))))))) (.br 8 (.br 4 (.e 12 (.q 14 (.e 15 (.e 16 (.q 17 (.q 18 (.e 19 .nil))))))) (.e 12 (.q 14 (.br 4 (.e 15 (.e 16 (.q 17 (.q 18 (.e 19 .nil))))) (.e 15 (.e 4 (.e 16 (.q 17 (.q 18 (.e 19 .nil)))))))))) (.e 12 (.q 14 (.br 4 (.e 8 (.e 15 (.e 16 (.q 17 (.q 18 (.e 19 .nil)))))) (.e 8 (.br 4 (.e 15 (.e 16 (.q 17 (.q 18 (.e 19 .nil))))) (.e 15 (.e 4 (.e 16 (.q 17 (.q 18 (.e 19 .nil)))))))))))))))))))))))) [0,0,0] Z mu oX (by kernel_rfl) ?_
          refine TD.run ao [0,1,2,3,5,6,7,9,10,11,13] Z Z ?_
          refine TD.br ?_ ?_
          ·refine vp Z .u (uB 3 Z xP Z Z) Z [0,0,0] Z ?_
           refine TD.br ?_ ?_
           ·refine vp Z .u (uB 3 Z xP Z Z) Z [0,0,0] Z (vp Z .u (uB 3 Z xP Z Z) Z [0,0,0] Z (TD.q Z .u (wi (k:=y86.toNat) Z xv xY Z (Int.toNat_of_nonneg c123.1).symm c123.2) Z ?_))
            refine vQ (k:=y86.toNat) 4 Z .u Tryz.underlying22 (by kernel_rfl) Z Z Z c123.2 Z [0,0,0] (Z) ?_
            refine vi [0,0,0,0,0] Z ?_
            refine vp Z .u (vv (k:=(y13.drop y86.toNat).length) 4 Z Z xv xY (.some Z (by rw[xe])) (by rw[xe]; exact Nat.sub_le _ _)) Z [0,0,0] Z ?_
            refine TD.run ao [17,18] Z Z ?_
            refine vJ (k:=(y13.drop y86.toNat).length) (ys:=(y13.drop y86.toNat)) 4 Z (by rw[xe]; exact eu _ _ c123.2) (by rw[xe]; exact Nat.sub_le _ _) ?_
            exact vi [0,0,0,0,0] Z (vE (cs':= #[.slice A14 (y13.drop y86.toNat).length c15,jI (y16+y86),jI y17]) Z .u Z Z yr Z Z Z Z [0,0,0] (Z) (TD.nil (vU [0,0,0,0,0] ⟨Z,Z⟩ (by rfl) (by rfl))))
           ·refine vp Z .u (uB 3 Z xP Z Z) Z [0,0,0] Z (TD.q Z .u (wi (k:=y86.toNat) Z xv xY Z (Int.toNat_of_nonneg c123.1).symm c123.2) Z (vp Z .u (uB 3 Z xP Z Z) Z [0,0,0] Z ?_))
            refine vQ (k:=y86.toNat) 4 Z .u Tryz.underlying22 (by kernel_rfl) Z Z Z c123.2 Z [0,0,0] (Z) ?_
            refine vi [0,0,0,0,0] Z ?_
            refine vp Z .u (vv (k:=(y13.drop y86.toNat).length) 4 Z Z xv xY (.some Z (by rw[xe])) (by rw[xe]; exact Nat.sub_le _ _)) Z [0,0,0] Z ?_
            refine TD.run ao [17,18] Z Z ?_
            refine vJ (k:=(y13.drop y86.toNat).length) (ys:=(y13.drop y86.toNat)) 4 Z (by rw[xe]; exact eu _ _ c123.2) (by rw[xe]; exact Nat.sub_le _ _) ?_
            exact vi [0,0,0,0,0] Z (vE (cs':= #[.slice A14 (y13.drop y86.toNat).length c15,jI (y16+y86),jI y17]) Z .u Z Z yr Z Z Z Z [0,0,0] (Z) (TD.nil (vU [0,0,0,0,0] ⟨Z,Z⟩ (by rfl) (by rfl))))
          ·refine TD.br ?_ ?_
           ·refine vp Z .u (uB 3 Z xP Z Z) Z [0,0,0] Z ?_
            refine TD.br ?_ ?_
            ·refine vp Z .u (uB 3 Z xP Z Z) Z [0,0,0] Z (vp Z .u (uB 3 Z xP Z Z) Z [0,0,0] Z (TD.q Z .u (wi (k:=y86.toNat) Z xv xY Z (Int.toNat_of_nonneg c123.1).symm c123.2) Z ?_))
             refine vQ (k:=y86.toNat) 4 Z .u Tryz.underlying22 (by kernel_rfl) Z Z Z c123.2 Z [0,0,0] (Z) ?_
             refine vi [0,0,0,0,0] Z ?_
             refine vp Z .u (vv (k:=(y13.drop y86.toNat).length) 4 Z Z xv xY (.some Z (by rw[xe])) (by rw[xe]; exact Nat.sub_le _ _)) Z [0,0,0] Z ?_
             refine TD.run ao [17,18] Z Z ?_
             refine vJ (k:=(y13.drop y86.toNat).length) (ys:=(y13.drop y86.toNat)) 4 Z (by rw[xe]; exact eu _ _ c123.2) (by rw[xe]; exact Nat.sub_le _ _) ?_
             exact vi [0,0,0,0,0] Z (vE (cs':= #[.slice A14 (y13.drop y86.toNat).length c15,jI (y16+y86),jI y17]) Z .u Z Z yr Z Z Z Z [0,0,0] (Z) (TD.nil (vU [0,0,0,0,0] ⟨Z,Z⟩ (by rfl) (by rfl))))
            ·refine vp Z .u (uB 3 Z xP Z Z) Z [0,0,0] Z (TD.q Z .u (wi (k:=y86.toNat) Z xv xY Z (Int.toNat_of_nonneg c123.1).symm c123.2) Z ?_)
             refine TD.br ?_ ?_
             ·refine vp Z .u (uB 3 Z xP Z Z) Z [0,0,0] Z ?_
              refine vQ (k:=y86.toNat) 4 Z .u Tryz.underlying22 (by kernel_rfl) Z Z Z c123.2 Z [0,0,0] (Z) ?_
              refine vi [0,0,0,0,0] Z ?_
              refine vp Z .u (vv (k:=(y13.drop y86.toNat).length) 4 Z Z xv xY (.some Z (by rw[xe])) (by rw[xe]; exact Nat.sub_le _ _)) Z [0,0,0] Z ?_
              refine TD.run ao [17,18] Z Z ?_
              refine vJ (k:=(y13.drop y86.toNat).length) (ys:=(y13.drop y86.toNat)) 4 Z (by rw[xe]; exact eu _ _ c123.2) (by rw[xe]; exact Nat.sub_le _ _) ?_
              exact vi [0,0,0,0,0] Z (vE (cs':= #[.slice A14 (y13.drop y86.toNat).length c15,jI (y16+y86),jI y17]) Z .u Z Z yr Z Z Z Z [0,0,0] (Z) (TD.nil (vU [0,0,0,0,0] ⟨Z,Z⟩ (by rfl) (by rfl))))
             ·refine vQ (k:=y86.toNat) 4 Z .u Tryz.underlying22 (by kernel_rfl) Z Z Z c123.2 Z [0,0,0] (Z) ?_
              refine vi [0,0,0,0,0] Z (vp Z .u (uB 3 Z xP Z Z) Z [0,0,0] Z ?_)
              refine vp Z .u (vv (k:=(y13.drop y86.toNat).length) 4 Z Z xv xY (.some Z (by rw[xe])) (by rw[xe]; exact Nat.sub_le _ _)) Z [0,0,0] Z ?_
              refine TD.run ao [17,18] Z Z ?_
              refine vJ (k:=(y13.drop y86.toNat).length) (ys:=(y13.drop y86.toNat)) 4 Z (by rw[xe]; exact eu _ _ c123.2) (by rw[xe]; exact Nat.sub_le _ _) ?_
              exact vi [0,0,0,0,0] Z (vE (cs':= #[.slice A14 (y13.drop y86.toNat).length c15,jI (y16+y86),jI y17]) Z .u Z Z yr Z Z Z Z [0,0,0] (Z) (TD.nil (vU [0,0,0,0,0] ⟨Z,Z⟩ (by rfl) (by rfl))))
           ·refine vp Z .u (uB 3 Z xP Z Z) Z [0,0,0] Z (TD.q Z .u (wi (k:=y86.toNat) Z xv xY Z (Int.toNat_of_nonneg c123.1).symm c123.2) Z ?_)
            refine TD.br ?_ ?_
            ·refine vp Z .u (uB 3 Z xP Z Z) Z [0,0,0] Z (vp Z .u (uB 3 Z xP Z Z) Z [0,0,0] Z ?_)
             refine vQ (k:=y86.toNat) 4 Z .u Tryz.underlying22 (by kernel_rfl) Z Z Z c123.2 Z [0,0,0] (Z) ?_
             refine vi [0,0,0,0,0] Z ?_
             refine vp Z .u (vv (k:=(y13.drop y86.toNat).length) 4 Z Z xv xY (.some Z (by rw[xe])) (by rw[xe]; exact Nat.sub_le _ _)) Z [0,0,0] Z ?_
             refine TD.run ao [17,18] Z Z ?_
             refine vJ (k:=(y13.drop y86.toNat).length) (ys:=(y13.drop y86.toNat)) 4 Z (by rw[xe]; exact eu _ _ c123.2) (by rw[xe]; exact Nat.sub_le _ _) ?_
             exact vi [0,0,0,0,0] Z (vE (cs':= #[.slice A14 (y13.drop y86.toNat).length c15,jI (y16+y86),jI y17]) Z .u Z Z yr Z Z Z Z [0,0,0] (Z) (TD.nil (vU [0,0,0,0,0] ⟨Z,Z⟩ (by rfl) (by rfl))))
            ·refine vp Z .u (uB 3 Z xP Z Z) Z [0,0,0] Z ?_
             refine TD.br ?_ ?_
             ·refine vp Z .u (uB 3 Z xP Z Z) Z [0,0,0] Z ?_
              refine vQ (k:=y86.toNat) 4 Z .u Tryz.underlying22 (by kernel_rfl) Z Z Z c123.2 Z [0,0,0] (Z) ?_
              refine vi [0,0,0,0,0] Z ?_
              refine vp Z .u (vv (k:=(y13.drop y86.toNat).length) 4 Z Z xv xY (.some Z (by rw[xe])) (by rw[xe]; exact Nat.sub_le _ _)) Z [0,0,0] Z ?_
              refine TD.run ao [17,18] Z Z ?_
              refine vJ (k:=(y13.drop y86.toNat).length) (ys:=(y13.drop y86.toNat)) 4 Z (by rw[xe]; exact eu _ _ c123.2) (by rw[xe]; exact Nat.sub_le _ _) ?_
              exact vi [0,0,0,0,0] Z (vE (cs':= #[.slice A14 (y13.drop y86.toNat).length c15,jI (y16+y86),jI y17]) Z .u Z Z yr Z Z Z Z [0,0,0] (Z) (TD.nil (vU [0,0,0,0,0] ⟨Z,Z⟩ (by rfl) (by rfl))))
             ·refine vQ (k:=y86.toNat) 4 Z .u Tryz.underlying22 (by kernel_rfl) Z Z Z c123.2 Z [0,0,0] (Z) ?_
              refine vi [0,0,0,0,0] Z (vp Z .u (uB 3 Z xP Z Z) Z [0,0,0] Z ?_)
              refine vp Z .u (vv (k:=(y13.drop y86.toNat).length) 4 Z Z xv xY (.some Z (by rw[xe])) (by rw[xe]; exact Nat.sub_le _ _)) Z [0,0,0] Z ?_
              refine TD.run ao [17,18] Z Z ?_
              refine vJ (k:=(y13.drop y86.toNat).length) (ys:=(y13.drop y86.toNat)) 4 Z (by rw[xe]; exact eu _ _ c123.2) (by rw[xe]; exact Nat.sub_le _ _) ?_
              exact vi [0,0,0,0,0] Z (vE (cs':= #[.slice A14 (y13.drop y86.toNat).length c15,jI (y16+y86),jI y17]) Z .u Z Z yr Z Z Z Z [0,0,0] (Z) (TD.nil (vU [0,0,0,0,0] ⟨Z,Z⟩ (by rfl) (by rfl))))
         ·rintro _ _ ⟨rfl,rfl⟩
          exact X.seq (T.seq (T.goto (X.gs (X.any (z:=12) 2 Z Z (uW [0,0,0,0,0] Z (X.gj (m:=m76) [2,2,0,1] ⟨by omega,(.inl ⟨Z,b12,(y9 ++ [x109]),A120,c121,(y13.drop y86.toNat),A14,c15,(y16+y86),y17,Z,Z,h⟩)⟩ (by rfl) (by rfl)))))))
        ·exact TL.nil (X.seq (uF Z (aA (wZ c117)) (T.goto (X.gs (X.any (z:=12) 2 Z Z (uW [0,0,0,0,0,0] Z (X.gj (m:=0) [2,2,2,2] ⟨by omega,(.inr ⟨Z,Z,b12,y9,A10,c11,x114,y13,A14,c15,y16,y17,Z,Z,h⟩)⟩ (by rfl) (by rfl))))))))
     ·exact TL.nil (X.seq (uF Z (aA (wZ c98)) (T.goto (X.gs (X.gj (m:=0) [0,0,0,0] ⟨by omega,(.inr ⟨Z,Z,b12,y9,A10,c11,y87,y13,A14,c15,y16,y17,Z,Z,h⟩)⟩ (by rfl) (by rfl))))))
  ·refine⟨_,Z,?_⟩
   rw[bv] at h
   refine T.seq (T.region Z (TL.run ao [0,1,2,3] Z Z (vL (cs':= #[.slice A71 y70.length c72,jI y73,jI y68]) Z .u Z Z Tryz.sizeOf34 Z Z Z Z (TL.nil (X.seq (T.seq (T.region Z (TL.run ao [0,1] Z Z ?_))))))))
   obtain rfl:=xa h
   exact TL.nil (X.seq (T.ret (X.rj (vt (by decide) 2 Z (uW [0,0,0,0] Z (uW [1,2,0,0] Z (bg g (⟨y70,y73,y68⟩:aC) A71 c72 Z (uC [0,1] Tryz.results10 (uD Z) ⟨_,_,Z,Z,Z⟩ (by rfl) (.inl Z)))))))))
 ·intro hl
  refine T.seq (T.region Z (TL.run ao [0] Z Z (TL.nil (X.seq (T.seq (T.region Z (TL.run ao [0] Z Z (TL.nil (X.seq (T.seq (T.region Z (TL.run ao [0] Z Z (TL.nil (X.seq (T.seq (T.region Z (TL.run ao [0] Z Z ?_)))))))))))))))))
  refine TL.nil (X.seq (T.seq (T.region Z (TL.alloc Z .u Tryz.zeroValue43 Z (fun b124=>(TL.nil (X.seq (T.seq (T.seq (T.region Z (TL.run ao [0,1,2] Z Z (TL.q Z .u (uB 1 Z Tryz.isAgg34 Z Z) Z (TL.run ao [4] Z Z ?_)))))))))))))
  rcases jF h with⟨c125,h⟩ | ⟨c125,h⟩
  ·refine TL.nil (X.seq (uK Z (av (wY c125)) (T.skip (X.seq (T.seq (T.region Z (TL.run ao [0,1,2,3] Z Z (TL.q Z .u (uB 1 Z xP Z Z) Z ?_))))))))
   replace h:=ak h
   obtain⟨c126,h⟩:=h
   refine TL.run ao [5] Z Z (TL.appStr 2 Z .u Tryz.underlying22 Tryz.underlying9 qD Z Z Z c126 Z (fun A127 c128=>(uM [0,0,0] Z (TL.run ao [7,8] Z Z (vL (cs':= #[.slice A127 (st.fheld++bsI a1).length c128,jI st.fvalid,jI st.ferr]) Z .u Z Z yr Z Z Z Z (TL.nil (X.seq (T.seq (T.label (X.seq (T.any (z:=12) 0 Z Z (vN [0,0,0] Z ?_))))))))))))
   refine vO 43 12 cE ?_
   refine T.re [1,1,0,0] ?_ ?_ (hl 0 _ ((st.fheld++bsI a1).length+1) _ _ Z (.inl ⟨Z,b124,[],none,0,(st.fheld++bsI a1),A127,c128,st.fvalid,st.ferr,Z,Z,h⟩)) <;> rfl
  ·refine TL.nil (X.seq (uF Z (aA (wZ c125)) (T.seq (T.region Z (TL.run ao [0] Z Z ?_)))))
   obtain rfl:=xa h
   exact TL.nil (X.seq (T.ret (uH (X.rj (vd 12 cE (uW [2,2,0,0] Z (bg g st A1 c2 Z (uC [0,0] Tryz.results10 (uD Z) ⟨_,_,Z,Z,Z⟩ (by rfl) (.inl Z)))))))))
def bR (st:aC)  : Option (dK×aC):=if st.ferr=0 then (if (st.fheld.length:Int)>0 then (some ((⟨st.fvalid,1,0⟩:dK),st)) else (some ((⟨st.fvalid,0,0⟩:dK),st))) else (some ((⟨st.fvalid,2,st.ferr⟩:dK),st))
theorem ea (g:Nat) (st:aC)  (r:dK×aC) (h:bR st  = some r):au Tryz.prog 11 #[jP g] .triv (bB g st) (fun v A' N=>v= .agg #[jI r.1.wU,jI r.1.wV,jI r.1.wO]∧A'=bB g r.2∧N = []):=by
 refine aF Tryz.func11 Z Tryz.ntmps11 Z ?_
 intro F w hX
 refine T.pakOpen 0 Z ?_
 rintro⟨A1,c2⟩
 refine vN [0,0] Z ?_
 unfold bR at h
 refine T.seq (T.region Z (TL.alloc Z .u Tryz.zeroValue36 Z (fun b3=>(TL.nil (X.seq (T.seq (T.block (T.seq (T.region Z (TL.run ao [0,1,2] Z Z (TL.q Z .u (uB 1 Z Tryz.isAgg34 Z Z) Z (TL.run ao [4,5] Z Z ?_))))))))))))
 rcases jF h with⟨c4,h⟩ | ⟨c4,h⟩
 ·refine TL.nil (X.seq (uK Z (av (wY c4)) (T.seq (T.region Z (TL.run ao [0,1,2] Z Z (TL.q Z .u (uB 1 Z xP Z Z) Z (TL.q Z .u (uY Z xv) Z (TL.run ao [5,6] Z Z ?_))))))))
  rcases jF h with⟨c5,h⟩ | ⟨c5,h⟩
  ·refine TL.nil (X.seq (uF Z (wY c5) (T.seq (T.region Z (TL.run ao [0,1,2] Z Z (TL.q Z .u (uB 1 Z xc Z Z) Z ?_))))))
   refine TL.q Z .u (uU (cells:= #[jI st.fvalid,jI 1,jI 0]) iE Z (by kernel_rfl)) Z ?_
   refine uO (cs':= #[jI st.fvalid,jI 1,jI 0]) Z .u Z Z ym Z Z Z Z ?_
   obtain rfl:=xa h
   exact TL.nil (X.seq (T.ret (uS (uH (uW [1,1,0] Z (bg g st A1 c2 Z (uC [0] Tryz.results11 (uT (us:= #[jI st.fvalid,jI 1,jI 0]) 1 Z yS ym Z Z) ⟨Z,Z,Z⟩ (by rfl) (.inl Z))))))))
  ·refine TL.nil (X.seq (uK Z (wZ c5) (T.skip (uQ (X.seq (T.seq (T.region Z (TL.run ao [0,1,2] Z Z (TL.q Z .u (uB 1 Z xc Z Z) Z ?_)))))))))
   refine TL.q Z .u (uU (cells:= #[jI st.fvalid,jI 0,jI 0]) iE Z (by kernel_rfl)) Z ?_
   refine uO (cs':= #[jI st.fvalid,jI 0,jI 0]) Z .u Z Z ym Z Z Z Z ?_
   obtain rfl:=xa h
   exact TL.nil (X.seq (T.ret (uW [1,1,0] Z (bg g st A1 c2 Z (uC [0] Tryz.results11 (uT (us:= #[jI st.fvalid,jI 0,jI 0]) 1 Z yS ym Z Z) ⟨Z,Z,Z⟩ (by rfl) (.inl Z))))))
 ·refine TL.nil (X.seq (uF Z (aA (wZ c4)) ?_))
  refine T.seq (uZ (.q 0 (.q 1 (.q 2 (.q 3 (.q 4 (.q 5 (.q 6 (.q 7 (.q 8 (.e 9 .nil)))))))))) [1,1] Z mu (NoP.seq (NoP.blk (NoP.seq aI))) (by kernel_rfl) ?_)
  refine TD.run ao [0,1,2] Z Z (TD.q Z .u (uB 0 Z xc Z Z) Z (TD.run ao [4,5,6] Z Z (TD.q Z .u (uB 0 Z Tryz.isAgg34 Z Z) Z ?_)))
  refine TD.q Z .u (uU (cells:= #[jI st.fvalid,jI 2,jI st.ferr]) iE Z (by kernel_rfl)) Z ?_
  refine TD.st0 (cs':= #[jI st.fvalid,jI 2,jI st.ferr]) Z .u Z Z ym Z Z Z Z [1,1] (Z) ?_
  obtain rfl:=xa h
  exact TD.nil (X.seq (T.ret (uS (uH (uW [1,1,0] Z (bg g st A1 c2 Z (uC [0] Tryz.results11 (uT (us:= #[jI st.fvalid,jI 2,jI st.ferr]) 1 Z yS ym Z Z) ⟨Z,Z,Z⟩ (by rfl) (.inl Z))))))))
def dR:List (List UInt8)→List Bat→aC→Option (List Bat×aC)
 | [],y7,st11=>some (y7,st11)
 | x16::xs,y7,st11=>(bE st11 x16).bind fun (x20,st23)=>if (y7.length+x20.length)*96≤140737488355328 then (dR xs (y7++x20) st23) else none
def iF (a0:List (List UInt8)):Option (List Bat×dK):=(fT).bind fun st4=>(dR a0 [] st4).bind fun (y28,st32)=>(bR st32).bind fun (x33,st34)=>some (y28,x33)
theorem kF (a0:List (List UInt8)) (A1:Option Addr) (c2:Nat) (r:List Bat×dK) (h:iF a0=some r):au Tryz.prog 15 #[.slice A1 a0.length c2] (RX.of (aq 1 gq) [.slice A1 a0.length c2] a0) (aw) (fun v A' N=> ∃ (A39:Option Addr) (c40:Nat),v= .tuple #[.slice A39 r.1.length c40,.agg #[jI r.2.wU,jI r.2.wV,jI r.2.wO]]∧A'=aw∧N = [RdR (aq 12 cE) [.slice A39 r.1.length c40] r.1]):=by
 refine aF Tryz.func15 Z Tryz.ntmps15 Z ?_
 intro F w hX
 unfold iF at h
 refine T.seq (T.region Z (TL.run ao [0] Z Z (TL.alloc Z .u Tryz.zeroValue36 Z (fun b3=> ?_))))
 obtain⟨st4,hx5,h⟩:=wX h
 refine TL.nil (X.seq (T.seq (T.region Z (u0 Z .u (.fn Tryz.call6 Z) (g9 _ hx5) (fun _ hs=>(uE _ _)) Z ?_))))
 rintro _ _ _ ⟨b6,rfl,rfl,rfl⟩
 refine uM [0,0,0] Z (TL.run ao [1] Z Z (TL.nil (X.seq (T.seq (T.region Z (TL.run ao [0] Z Z (TL.nil (X.seq (T.seq (T.seq (T.region Z (TL.run ao [0] Z Z (TL.q Z .u (uY Z ye) Z (TL.run ao [2] Z Z ?_))))))))))))))
 refine TL.nil (X.seq (T.block (vO 43 12 cE ?_)))
 obtain⟨E12,hE13,hO14⟩:=wX h
 have hk18len:=vz hX
 refine vo (fun m e Rs=> ∃ (y7:List Bat) (A8:Option Addr) (c9:Nat) (k10:Nat) (st11:aC),k10+m=a0.length∧e = [(2,.slice none 0 0),(3,jP b3),(4,jP b6),(5,.slice A8 y7.length c9),(9,.slice A1 a0.length c2),(10,jI (a0.length:Int)),(11,jI (k10:Int))]∧Rs = [aE 43 12 cE (.slice A8 y7.length c9) y7,bB b6 st11,aD b3 36 #[jI 0,jI 0,jI 0],aw]∧dR (a0.drop k10) y7 st11=some E12) (a0.length) [0,0,0,0] ⟨[],none,0,0,st4,by simp,Z,Z,by rw[List.drop_zero]; exact hE13⟩ (by rfl) (by rfl) ?_
 rintro m15 _ _ ⟨y7,A8,c9,k10,st11,hk18,rfl,rfl,hl17⟩
 clear hE13 h
 cases m15 with
 | zero =>
  have h:=hl17
  clear hl17
  rw[List.drop_of_length_le (by omega),dR] at h
  have hk18ge: ¬ ((k10:Int)<(a0.length:Int)):=by omega
  refine T.seq (T.region Z (TL.run ao [0] Z Z (TL.nil (X.seq (T.seq (uK Z (wZ hk18ge) ?_))))))
  obtain rfl:=xa h
  replace h:=hO14
  clear hO14
  try dsimp only at h
  refine T.exit (uR (uR (vn (X.seq (T.seq (T.region Z ?_))))))
  obtain⟨⟨x36,st37⟩,hx38,h⟩:=wX h
  try dsimp only at h
  refine TL.run ao [0,1] Z Z (vr Z .u (.fn Tryz.call11 Z) (ea b6 st11 _ hx38) (fun _ hs=>(Src.triv _)) Z (TL.run ao [3] Z Z (vB (cs':= #[jI x36.wU,jI x36.wV,jI x36.wO]) Z .u Z Z ym Z Z Z Z ?_)))
  obtain rfl:=xa h
  exact TL.nil (X.seq (T.ret (vt (by decide) 0 Z (uW [0,0,0,0] Z (uX [3,0] Tryz.results15 (uD Z) (uT (us:= #[jI x36.wU,jI x36.wV,jI x36.wO]) 2 Z yS ym Z Z) ⟨_,_,Z,Z,Z⟩ (by rfl) (.inl Z))))))
 | succ m15 =>
  have h:=hl17
  clear hl17
  obtain⟨x16,hxx16⟩: ∃ x,a0[k10]? = some x:=⟨_,List.getElem?_eq_getElem (by omega)⟩
  rw[cK hxx16,dR] at h
  have hk18lt:(k10:Int)<(a0.length:Int):=by omega
  refine T.seq (T.region Z (TL.run ao [0] Z Z (TL.nil (X.seq (T.seq (uF Z (wY hk18lt) ?_))))))
  obtain⟨gz19,oz19,rfl,z19cs,z19cl,z19cc,z19nf,z19r⟩:=vh (by decide) hX hxx16
  obtain⟨z19S,z19r,z19rr⟩:=z19r
  obtain rfl:z19cs = [jS x16]:=z19r
  refine T.skip (X.seq (T.seq (T.block (T.seq (T.region Z ?_)))))
  refine TL.q Z .u (uV (k:=k10) Z Z Z ye yb (xd hxx16).1) Z ?_
  refine TL.q Z .u (wb 0 Z yh z19nf z19cc Z Z) Z (TL.run ao [2] Z Z (TL.nil (X.seq (T.region Z ?_))))
  obtain⟨⟨x20,st23⟩,hx24,h⟩:=wX h
  try dsimp only at h
  refine TL.run ao [0,1,2] Z Z (TL.cg1 Z .u (.fn Tryz.call10 Z) (ey b6 st11 x16 _ hx24) (fun _ hs=>(Src.triv _)) Z ?_)
  rintro _ _ _ ⟨A21,c22,rfl,rfl,rfl⟩
  refine uM [0,0,0,0,0] Z ?_
  replace h:=ak h
  obtain⟨c25,h⟩:=h
  refine TL.appB (xs:=y7) (ys:=x20) (E:=cE) 1 0 Z .u oh Tryz.underlying28 lc Z (by decide) Z Z Z Z c25 (by have hq:=c25; omega) Z (fun A26 c27=> ?_)
  exact uM [0,0,0,0] Z (TL.run ao [5] Z Z (TL.nil (uQ (X.seq (T.region Z (TL.q Z .u (Ex.add Z Z (by omega)) Z (TL.run ao [1] Z Z (TL.nil (X.back (m':=m15) [0,0,0,0] (by omega) ⟨(y7++x20),A26,c27,k10+1,st23,by omega,Z,Z,h⟩ (by rfl) (by rfl))))))))))
def kG:dU := []
theorem az:(kG).OK Tryz.prog:=trivial
theorem j1:Tryz.prog.follows .mixedOrders=true:=by kernel_rfl
theorem eI:SOK Tryz.prog 26 9 1 1 #[.string ⟨#[]⟩]:=SOK.mk ye yb Tryz.zeroValue9 (by decide) (by kernel_rfl)
theorem fk:(Tryz.prog.info? 9).map (fun i=>(i.zero,i.size,i.bytes))=some (some (.string ⟨#[]⟩),1,16):=by kernel_rfl
def dx:List Int→List UInt8→List (List UInt8)→Option (List UInt8×List (List UInt8))
 | [],y3,y4=>some (y3,y4)
 | x12::xs,y3,y4=>(if -9223372036854775808≤x12∧x12≤9223372036854775807 then (if (y3.length:Int)<x12 then some (y3.length:Int) else some x12) else none).bind fun y18=>if 0≤y18∧y18.toNat≤y3.length then (if 0≤y18∧y18.toNat≤y3.length then (if (y4.length+1)*16≤140737488355328 then (dx xs (y3.drop y18.toNat) (y4 ++ [(y3.take y18.toNat)])) else none) else none) else none
def gJ (a0:List UInt8) (a1:List Int):Option (List (List UInt8)):=(dx a1 a0 []).bind fun (y28,y29)=>if (y29.length+1)*16≤140737488355328 then some (y29 ++ [y28]) else none
theorem mv (a0:List UInt8) (a1:List Int) (A1:Option Addr) (c2:Nat) (r:List (List UInt8)) (h:gJ a0 a1=some r):au Tryz.prog 7 #[jS a0,.slice A1 a1.length c2] (RX.of (aq 1 u8E) [.slice A1 a1.length c2] a1) (aw) (fun v A' N=> ∃ (A41:Option Addr) (c42:Nat),v= .slice A41 r.length c42∧A'=aw∧N = [RdR (aq 1 gq) [.slice A41 r.length c42] r]):=by
 refine aF Tryz.func7 Z Tryz.ntmps7 Z ?_
 intro F w hX
 unfold gJ at h
 refine T.seq (T.region Z (TL.run az [0] Z Z (TL.nil (X.seq (T.seq (T.region Z (TL.run az [0] Z Z (TL.nil (X.seq (T.seq (T.seq (T.region Z (TL.run az [0] Z Z (TL.q Z .u (uY Z xv) Z (TL.run az [2] Z Z ?_)))))))))))))))
 refine TL.nil (X.seq (T.block (vO 9 1 gq ?_)))
 obtain⟨E8,hE9,hO10⟩:=wX h
 have hk14len:=vz hX
 refine vo (fun m e Rs=> ∃ (y3:List UInt8) (y4:List (List UInt8)) (A5:Option Addr) (c6:Nat) (k7:Nat),k7+m=a1.length∧e = [(0,jS y3),(4,.slice none 0 0),(5,.slice A5 y4.length c6),(9,.slice A1 a1.length c2),(10,jI (a1.length:Int)),(11,jI (k7:Int))]∧Rs = [aE 9 1 gq (.slice A5 y4.length c6) y4,aw]∧dx (a1.drop k7) y3 y4=some E8) (a1.length) [0,0] ⟨a0,[],none,0,0,by simp,Z,Z,by rw[List.drop_zero]; exact hE9⟩ (by rfl) (by rfl) ?_
 rintro m11 _ _ ⟨y3,y4,A5,c6,k7,hk14,rfl,rfl,hl13⟩
 clear hE9 h
 cases m11 with
 | zero =>
  have h:=hl13
  clear hl13
  rw[List.drop_of_length_le (by omega),dx] at h
  have hk14ge: ¬ ((k7:Int)<(a1.length:Int)):=by omega
  refine T.seq (T.region Z (TL.run az [0] Z Z (TL.nil (X.seq (T.seq (uK Z (wZ hk14ge) ?_))))))
  obtain rfl:=xa h
  replace h:=hO10
  clear hO10
  try dsimp only at h
  refine T.exit (uR (uR (vn (X.seq (T.seq (T.region Z (TL.run az [0,1] Z Z (vD (cells:= #[jS y3]) Z .u eI Z (by rfl) Z (fun b37=> ?_)))))))))
  replace h:=ak h
  obtain⟨c38,h⟩:=h
  refine TL.app1 0 Z .u (us := [jS y3]) (u:=y3) (l:=y4) (E:=gq) Tryz.underlying26 fk Z (by decide) Z Z Z Z Z Z (fun _ _=>Z) (by have hq:=c38; omega) (by have hq:=c38; omega) Z (fun A39 c40=> ?_)
  refine uM [0,0] Z (TL.run az [4] Z Z ?_)
  obtain rfl:=xa h
  exact TL.nil (X.seq (T.ret (vt (by decide) 0 Z (uW [0,0] Z (uC [1,0] Tryz.results7 (uD Z) ⟨_,_,Z,Z,Z⟩ (by rfl) (.inl Z))))))
 | succ m11 =>
  have h:=hl13
  clear hl13
  obtain⟨x12,hxx12⟩: ∃ x,a1[k7]? = some x:=⟨_,List.getElem?_eq_getElem (by omega)⟩
  rw[cK hxx12,dx] at h
  have hk14lt:(k7:Int)<(a1.length:Int):=by omega
  refine T.seq (T.region Z (TL.run az [0] Z Z (TL.nil (X.seq (T.seq (uF Z (wY hk14lt) ?_))))))
  obtain⟨gz15,oz15,rfl,z15cs,z15cl,z15cc,z15nf,z15r⟩:=vh (by decide) hX hxx12
  obtain⟨z15S,z15r,z15rr⟩:=z15r
  obtain rfl:z15cs = [.int .u8 x12]:=z15r
  refine T.skip (X.seq (T.seq (T.block (T.seq (T.region Z ?_)))))
  refine TL.q Z .u (uV (k:=k7) Z Z Z xv xY (xd hxx12).1) Z ?_
  refine TL.q Z .u (wb 0 Z Tryz.isAgg5 z15nf z15cc Z Z) Z (TL.run az [2] Z Z (TL.nil (X.seq (T.seq ?_))))
  obtain⟨y18,h,hk19⟩:=wX h
  refine vF (fun e Rs=>e = [(0,jS y3),(4,.slice none 0 0),(5,.slice A5 y4.length c6),(8,jI y18),(9,.slice (some ⟨gz15,oz15,none⟩) a1.length c2),(10,jI (a1.length:Int)),(11,jI (k7:Int))]∧Rs = [aE 9 1 gq (.slice A5 y4.length c6) y4,aw]) ?_ ?_
  ·clear hk19
   refine T.region Z ?_
   replace h:=ak h
   obtain⟨c20,h⟩:=h
   refine TL.run az [0] Z Z (TL.q Z .u (vG Z yx xW c20) Z (TL.run az [2] Z Z (TL.q Z .u (vk Z xj) Z ?_)))
   rcases jF h with⟨c21,h⟩ | ⟨c21,h⟩
   ·refine TL.q Z .u (Ex.miny Z Z c21) Z (TL.run az [5] Z Z ?_)
    cases h
    exact TL.nil (u4 [0,0] ⟨Z,Z⟩ (by rfl) (by rfl))
   ·refine TL.q Z .u (Ex.minx Z Z c21) Z (TL.run az [5] Z Z ?_)
    cases h
    exact TL.nil (u4 [0,0] ⟨Z,Z⟩ (by rfl) (by rfl))
  ·rintro _ _ ⟨rfl,rfl⟩
   clear h
   have h:=hk19
   clear hk19
   try dsimp only at h
   refine X.seq (uZ (.q 0 (.q 1 (.q 2 (.q 3 (.q 6 (.q 7 (.q 8 (.e 4 (.e 5 (.q 9 (.q 10 .nil))))))))))) [1] Z j1 (NoP.blk (NoP.seq (NoP.seq (NoP.blk (NoP.seq aI))))) (by kernel_rfl) ?_)
   replace h:=ak h
   obtain⟨c22,h⟩:=h
   refine TD.run az [0,1,2] Z Z ?_
   replace c22:0≤y18∧y18.toNat≤y3.length:=c22
   refine TD.q Z .u (vq (p:=0) (q:=y18.toNat) (m:=(y3.take y18.toNat)) Z xj .none (.some Z ((Int.toNat_of_nonneg c22.1).symm)) (by first | omega | (dsimp only; omega)) (by simp)) Z ?_
   replace h:=ak h
   obtain⟨c23,h⟩:=h
   refine TD.run az [6,7] Z Z ?_
   replace c23:0≤y18∧y18.toNat≤y3.length:=c23
   refine TD.q Z .u (vq (p:=y18.toNat) (q:=y3.length) (m:=(y3.drop y18.toNat)) Z xj (.some Z ((Int.toNat_of_nonneg c23.1).symm)) .none (by first | omega | (dsimp only; omega)) (eb _ _)) Z ?_
   refine TD.lit (cells:= #[.string (aB (y3.take y18.toNat))]) Z .u eI Z (by rfl) Z [2] (fun _=>Z) (fun b24=> ?_)
   replace h:=ak h
   obtain⟨c25,h⟩:=h
   refine TD.app1 0 Z .u (us := [.string (aB (y3.take y18.toNat))]) (u:=(y3.take y18.toNat)) (l:=y4) (E:=gq) Tryz.underlying26 fk Z (by decide) Z Z Z Z Z Z (fun _ _=>Z) (by have hq:=c25; omega) (by have hq:=c25; omega) Z [1] (fun _ _=>Z) (fun A26 c27=> ?_)
   exact vi [0,0] Z (TD.run az [9,10] Z Z (TD.nil (uQ (X.seq (T.region Z (TL.q Z .u (Ex.add Z Z (by omega)) Z (TL.run az [1] Z Z (TL.nil (X.back (m':=m11) [0,0] (by omega) ⟨(y3.drop y18.toNat),(y4 ++ [(y3.take y18.toNat)]),A26,c27,k7+1,by omega,Z,Z,h⟩ (by rfl) (by rfl))))))))))
theorem ol {α β:Type} {o:Option α} {v:α} {f:α→Option β} {r:Option β} (h:o=some v) (k:f v=r):o.bind f=r:=by rw[h]; exact k
theorem rn (l:List UInt8) (n:Nat):(bsI l).take n=bsI (l.take n):=by unfold bsI; rw[List.map_take]
theorem uw (l:List UInt8) (n:Nat):(bsI l).drop n=bsI (l.drop n):=by unfold bsI; rw[List.map_drop]
theorem bI_app (l m:List UInt8):bsI l++bsI m=bsI (l++m):=by unfold bsI; rw[List.map_append]
theorem tF (l:List UInt8):iO (bsI l)=l:=by
 unfold iO bsI
 rw[List.map_map]
 conv=>rhs; rw[← List.map_id l]
 apply List.map_congr_left
 intro c _
 simp
theorem qE {s:List UInt8} (h:s.length<61):aZ s=some (0,0):=by unfold aZ; rw[if_pos (by omega)]
theorem sg {s:List UInt8} (h:61≤s.length) (hs:s.length≤1000000):aZ (s.take 61)=aZ s:=by
 rw[lH s h hs,lH (s.take 61) (by rw[xx]; omega) (by rw[xx]; omega),iD s 61 (by omega),cY s 61 8 4 (by omega)]
theorem mw (s:List UInt8) (hs:s.length≤1000000):(if 61<((bsI s).length:Int) then (if 61≤(bsI s).length then ((aZ (iO ((bsI s).take 61))).bind fun (x91,x92)=>some (x91,x92)) else none) else (if (bsI s).length≤(bsI s).length then ((aZ (iO ((bsI s).take (bsI s).length))).bind fun (x95,x96)=>some (x95,x96)) else none))=aZ s:=by
 have hl:=ek s
 have e0: ∀ o:Option (Int×Int),(o.bind fun (x91,x92)=>some (x91,x92))=o:=by intro o; cases o <;> rfl
 by_cases c:61<((bsI s).length:Int)
 ·rw[if_pos c,if_pos (by omega),e0,rn,tF,sg (by omega) hs]
 ·rw[if_neg c,if_pos (xB _),e0,List.take_length,tF]
theorem pF {s:List UInt8} (h:eOf s=0):vI s 8 4+12=(cg s:Int):=by
 have h1:=(ed h).1
 unfold cg at h1 ⊢
 omega
theorem ro: ∀ (fuel:Nat) (s:List UInt8) (acc:List Bat) (v:Int),s.length<fuel→s.length≤1000000→acc.length+s.length≤2000000→0≤v→v+(s.length:Int)≤1000000000 →
 bc fuel acc (bsI s) v 0=some (acc++(Scn s).1,⟨bsI (Scn s).2.1,v+((s.length:Int) - ((Scn s).2.1.length:Int)),(Scn s).2.2⟩)
 | 0,s,acc,v,h1,h2,h3,h4,h5=>by omega
 | fuel+1,s,acc,v,h1,h2,h3,h4,h5=>by
  have hl:=ek s
  rw[bc]
  by_cases c1:s.length<61
  ·refine ol ((mw s h2).trans (qE c1)) ?_
   rw[cu c1]
   dsimp only
   rw[if_pos rfl,if_pos rfl,xb,if_pos rfl,xN,Int.sub_self,Int.add_zero]
  have h61:61≤s.length:=by omega
  by_cases c2:eOf s=0
  rotate_left
  ·refine ol ((mw s h2).trans ((lH s h61 h2).trans (by rw[if_neg c2]))) ?_
   rw[gU h61 c2]
   dsimp only
   rw[if_neg c2,bv,xN,Int.sub_self,Int.add_zero]
  have hz:=(ed c2).1
  refine ol ((mw s h2).trans ((lH s h61 h2).trans (by rw[if_pos c2,pF c2]))) ?_
  dsimp only
  rw[if_pos rfl,if_neg (show ¬ ((cg s:Int)=0) by omega)]
  by_cases c3:s.length<cg s
  ·rw[if_pos (show (cg s:Int)>((bsI s).length:Int) by omega),xb,if_pos rfl,gI h61 c2 c3]
   dsimp only
   rw[xN,Int.sub_self,Int.add_zero]
  have hsz:cg s≤s.length:=by omega
  rw[if_neg (show ¬ ((cg s:Int)>((bsI s).length:Int)) by omega),xb,if_neg (by decide),if_pos (show 0≤(cg s:Int)∧(cg s:Int).toNat≤(bsI s).length by omega),xC,rn,tF,fZ _ (by rw[xx]; omega),xb]
  have hp:=sf h61 c2 hsz
  have hlt:(s.take (cg s)).length=cg s:=by rw[xx]; omega
  rcases B_bat.run (s.take (cg s)) 0 (by omega) (xH _) with⟨e,st,p1,g1,x1,y1⟩ | ⟨b,r,p1,g1,n1,l1⟩
  ·rw[List.drop_zero] at g1
   rw[hp] at p1
   rw[g1,xb]
   dsimp only
   rw[bU,xb]
   dsimp only
   rw[if_neg y1,bv,gV h61 c2 hsz p1,x1]
   dsimp only
   rw[xN,Int.sub_self,Int.add_zero]
  ·rw[List.drop_zero] at g1
   rw[hp] at p1
   have hr:=fc h61 c2 hsz p1
   subst hr
   have ih:=ro fuel (s.drop (cg s)) (acc ++ [b]) (v+(cg s:Int)) (by rw[xe]; omega) (by rw[xe]; omega) (by rw[xf,yk,xe]; omega) (by omega) (by rw[xe]; omega)
   rw[g1,xb]
   dsimp only
   rw[bU,xb]
   dsimp only
   rw[if_pos rfl,if_pos (by omega),if_pos (by omega),if_pos (by omega),uw,ih,fd h61 c2 hsz p1]
   dsimp only
   rw[xq,xe,show v+(cg s:Int)+(((s.length - cg s:Nat):Int) - ((Scn (s.drop (cg s))).2.1.length:Int))=v+((s.length:Int) - ((Scn (s.drop (cg s))).2.1.length:Int)) by omega]
   rfl
theorem tG (s:List UInt8):(Scn s).2.1.length≤s.length:=by
 have h:=congrArg List.length (fy s.length s (xB _)).1
 rw[xf] at h
 omega
structure ScAt (x:aC) (s:List UInt8):Prop where
 ok:(Scn s).2.2=0→x=⟨bsI (Scn s).2.1,(s.length:Int) - ((Scn s).2.1.length:Int),0⟩
 bad:(Scn s).2.2≠0→ ∃ h:List Int,x=⟨h,(cJ dX (Scn s).1).length,(Scn s).2.2⟩
theorem rp (s:List UInt8):((cJ dX (Scn s).1).length:Int)=(s.length:Int) - ((Scn s).2.1.length:Int):=by
 have h:=congrArg List.length (fy s.length s (xB _)).1
 rw[xf] at h
 omega
theorem ux {x:aC} {s c:List UInt8} (h:ScAt x s) (hl:s.length+c.length≤1000000): ∃ y,bE x c=some ((Scn (s++c)).1.drop (Scn s).1.length,y)∧ScAt y (s++c)∧(Scn (s++c)).1.take (Scn s).1.length=(Scn s).1:=by
 have hle:=tG s
 by_cases h0:(Scn s).2.2=0
 ·have hx:=h.ok h0
  subst hx
  have hm:=pD s.length s c (xB _) (by omega) h0
  have e1:(Scn (s++c)).1=(Scn s).1++(Scn ((Scn s).2.1++c)).1:=by rw[hm]
  have e2:(Scn (s++c)).2=(Scn ((Scn s).2.1++c)).2:=by rw[hm]
  have hle2:=tG ((Scn s).2.1++c)
  rw[xf] at hle2
  have hg:=ro ((bsI ((Scn s).2.1++c)).length+1) ((Scn s).2.1++c) [] ((s.length:Int) - ((Scn s).2.1.length:Int)) (by rw[ek]; omega) (by rw[xf]; omega) (by rw[xR,xf]; omega) (by omega) (by rw[xf]; omega)
  refine⟨⟨bsI (Scn ((Scn s).2.1++c)).2.1,(s.length:Int) - ((Scn s).2.1.length:Int)+((((Scn s).2.1++c).length:Int) - ((Scn ((Scn s).2.1++c)).2.1.length:Int)),(Scn ((Scn s).2.1++c)).2.2⟩,?_,⟨fun g=> ?_,fun g=>⟨bsI (Scn ((Scn s).2.1++c)).2.1,?_⟩⟩,by rw[e1,List.take_left]⟩
  ·unfold bE
   dsimp only
   rw[if_pos rfl,if_pos (by rw[ek]; omega),bI_app,hg,e1,List.drop_left,xy]
  ·rw[e2] at g ⊢
   rw[g,xf,xf]
   congr 1
   omega
  ·rw[rp,e2,xf,xf]
   congr 1
   omega
 ·obtain⟨q,rfl⟩:=h.bad h0
  have hw:=nr s.length s c (xB _) h0
  have e1:(Scn (s++c)).1=(Scn s).1:=by rw[hw]
  have e3:(Scn (s++c)).2.2=(Scn s).2.2:=by rw[hw]
  refine⟨⟨q,((cJ dX (Scn s).1).length:Int),(Scn s).2.2⟩,?_,⟨fun g=>absurd (e3 ▸ g) h0,fun g=>⟨q,by rw[e1,e3]⟩⟩,by rw[e1,List.take_length]⟩
  unfold bE
  dsimp only
  rw[if_neg h0,e1,List.drop_length]
def nt (s:List UInt8):dK:=⟨(cJ dX (Scn s).1).length,if (Scn s).2.2≠0 then 2 else if (Scn s).2.1 = [] then 0 else 1,(Scn s).2.2⟩
theorem tH {x:aC} {s:List UInt8} (h:ScAt x s):bR x=some (nt s,x):=by
 unfold bR nt
 by_cases h0:(Scn s).2.2=0
 ·have hx:=h.ok h0
  subst hx
  rw[rp]
  dsimp only
  rw[if_pos rfl,h0,if_neg (show ¬ ((0:Int)≠0) from fun g=>g rfl),ek]
  by_cases hr:(Scn s).2.1 = []
  ·rw[if_neg (by rw[hr]; decide),if_pos hr]
  ·have:=List.length_pos_iff.2 hr
   rw[if_pos (by omega),if_neg hr]
 ·obtain⟨q,rfl⟩:=h.bad h0
  dsimp only
  rw[if_neg h0,if_pos h0]
theorem new_at:ScAt ⟨[],0,0⟩ []:=⟨fun _=>by rw[cu (s := []) (by decide)]; rfl,fun g=>absurd (by rw[cu (s := []) (by decide)]) g⟩
theorem uy: ∀ (n:Nat) (s:List UInt8),s.length≤n→(Scn s).1.length≤s.length:=by
 intro n s _
 have h:=congrArg List.length (fy s.length s (xB _)).1
 rw[xf] at h
 have hk:=(fy s.length s (xB _)).2
 have:=jZ dX (Scn s).1 (fun b hb=>by have:=kD (hk b hb); omega)
 omega
theorem tI: ∀ (ns:List Int) (s:List UInt8) (acc:List (List UInt8)),(∀ n,n∈ns→0≤n∧n≤255)→acc.length+ns.length≤1000→s.length≤1000000 →
 ∃ t l,dx ns s acc=some (t,acc++l)∧l.flatten++t=s∧l.length=ns.length
 | [],s,acc,_,_,_=>⟨s,[],by rw[xN]; rfl,rfl,rfl⟩
 | n::ns,s,acc,hn,hl,hs=>by
  obtain⟨h0,h1⟩:=hn n (.head _)
  rw[xw] at hl
  have e: ∃ k:Nat,((if -9223372036854775808≤n∧n≤9223372036854775807 then (if (s.length:Int)<n then some (s.length:Int) else some n) else none):Option Int)=some (k:Int)∧k≤s.length:=by
   rw[if_pos (by omega)]
   by_cases c:(s.length:Int)<n
   ·exact⟨s.length,by rw[if_pos c],xB _⟩
   ·exact⟨n.toNat,by rw[if_neg c,Int.toNat_of_nonneg h0],by omega⟩
  obtain⟨k,e1,e2⟩:=e
  obtain⟨t,l,q1,q2,q3⟩:=tI ns (s.drop k) (acc ++ [s.take k]) (fun m hm=>hn m (.tail _ hm)) (by rw[xf,yk]; omega) (by rw[xe]; omega)
  refine⟨t,s.take k::l,?_,?_,by rw[xw,q3,xw]⟩
  ·rw[dx,e1,xb,if_pos (by omega),if_pos (by omega),if_pos (by omega),xC,q1,xq]
   rfl
  ·rw[List.flatten_cons,xq,q2,List.take_append_drop]
theorem cut_eq {s:List UInt8} {ns:List Int} (hn: ∀ n,n∈ns→0≤n∧n≤255) (hl:ns.length≤200) (hs:s.length≤1000000): ∃ cs,gJ s ns=some cs∧cs.flatten=s∧cs.length=ns.length+1:=by
 obtain⟨t,l,q1,q2,q3⟩:=tI ns s [] hn (by rw[xR]; omega) hs
 refine⟨l ++ [t],?_,by rw[List.flatten_append,List.flatten_cons,List.flatten_nil,xN]; exact q2,by rw[xf,yk,q3]⟩
 unfold gJ
 rw[q1,xb]
 dsimp only
 rw[xy,if_pos (by omega)]
theorem tJ (a:Bat) (s:Int):mkB (pB a s) a.ws=a:=by
 obtain⟨b1,b2,b3⟩:=rk a.wH a.wN a.wF
 unfold mkB pB
 dsimp only
 rw[b1,b2,b3]
theorem my {b:Bat} (h:okB b) (hl:(dX b).length≤1000000):bnB b:=by
 have h1:=jy h.1 h.2.2.1 (by have:=kD h; unfold body at this; omega)
 rwa [tJ] at h1
def jA:List Bat→List Bat→Bool
 | x::l,y::m=>mr x y && jA l m
 | _,_=>true
theorem ld: ∀ l:List Bat,jA l l=true
 | []=>rfl
 | x::l=>by rw[jA,qC,ld l]; rfl
theorem le (a b:List Bat) (hn:a.length≤140737488351232) (y:Bool): ∀ (l m:List Bat) (k fuel:Nat),a.drop k=l→b.drop k=m→l.length=m.length→l.length<fuel→(∀ x,x∈l→bnB x)→ ∃ z,cB a b fuel y k=some (if jA l m=true then .go (y,z) else .ret false)
 | [],m,k,fuel+1,h1,h2,hl,hf,_=>by
  have:=en h1
  exact⟨k,by rw[cB,if_neg (by omega)]; rfl⟩
 | x::l,v::m,k,fuel+1,h1,h2,hl,hf,hw=>by
  obtain⟨g1,g2,g3⟩:=dE h1
  obtain⟨k1,k2,k3⟩:=dE h2
  have hx:=hw x (.head _)
  rw[xw] at hf
  rw[xw,xw] at hl
  obtain⟨z,hz⟩:=le a b hn y l m (k+1) fuel g2 k2 (by omega) (by omega) (fun u hu=>hw u (.tail _ hu))
  refine⟨z,?_⟩
  rw[cB,if_pos (by omega),g1,xb,k1,xb,tC hx.2.1 (fun z hz=>(hx.2.2 z hz).1),xb,jA,if_pos (show -9223372036854775808≤(k:Int)+1∧(k:Int)+1≤9223372036854775807 by omega),hz]
  cases mr x v <;> rfl
theorem z_rows {a b:List Bat} (hn:a.length≤140737488351232) (hw: ∀ x,x∈a→bnB x):es a b=some (decide (a.length=b.length) && jA a b):=by
 unfold es
 by_cases c:a.length=b.length
 ·obtain⟨z,hz⟩:=le a b hn false a b 0 (((a.length:Int)).toNat+1) rfl rfl c (by omega) hw
  rw[if_pos (by omega),hz,wY c,Bool.true_and]
  cases jA a b <;> rfl
 ·rw[if_neg (by omega),wZ c]
  rfl
theorem om {b:Bat} (h:okB b) (hl:(dX b).length≤80000):smB b:=by
 have h1:=kD h
 refine⟨my h (by omega),fun r hr=> ?_,by omega⟩
 have h2:=iC dk b.ws r hr
 have h3:=qx r
 have h4:(bP r).length≤(dk r).length:=by
  unfold dk
  rw[xf]
  omega
 unfold body at h1
 omega
theorem pG {l:List Bat} (hn:l.length≤1000000) (hw: ∀ x,x∈l→bnB x):es l l=some true:=by
 rw[z_rows (by omega) hw,wY rfl,ld]
 rfl
theorem z_bn {s:List UInt8} (hs:s.length≤80000): ∀ x,x∈(Scn s).1→okB x∧bnB x∧smB x:=by
 intro x hx
 obtain⟨h1,h2⟩:=fy s.length s (xB _)
 have h3:=iC dX _ x hx
 have h4:=congrArg List.length h1
 rw[xf] at h4
 have ho:=h2 x hx
 exact⟨ho,my ho (by omega),om ho (by omega)⟩
theorem tK: ∀ (n:Nat) (s:List UInt8),s.length≤n→(Scn s).2.2≠0→(Scn s).2.1 ≠ []
 | 0,s,hn,h=>by
  rw[cu (s:=s) (by omega)] at h
  exact absurd rfl h
 | n+1,s,hn,h=>by
  by_cases c1:s.length<61
  ·rw[cu c1] at h; exact absurd rfl h
  have h61:61≤s.length:=by omega
  have hne:s ≠ []:=by intro e; rw[e] at h61; simp at h61
  by_cases c2:eOf s=0
  rotate_left
  ·rw[gU h61 c2]; exact hne
  by_cases c3:s.length<cg s
  ·rw[gI h61 c2 c3]; exact hne
  have hl:cg s≤s.length:=by omega
  have hz:=(ed c2).1
  cases hp:eK s 0 with
  | error e=>rw[gV h61 c2 hl hp]; exact hne
  | ok x =>
   obtain⟨b,r⟩:=x
   have hr:=fc h61 c2 hl hp
   rw[fd h61 c2 hl hp] at h ⊢
   exact tK n (s.drop r) (by rw[xe]; omega) h
def kH:dU := [(30,0,0),(30,1,1),(30,2,2),(30,3,3),(56,0,0),(56,1,12),(56,2,13)]
theorem ar:(kH).OK Tryz.prog:=⟨FOK.mk yf rfl Tryz.sizeOf28 rfl,FOK.mk yf rfl xg rfl,FOK.mk yf rfl xg rfl,FOK.mk yf rfl xg rfl,FOK.mk yN rfl xl rfl,FOK.mk yN rfl xg rfl,FOK.mk yN rfl xg rfl,trivial⟩
theorem iG:BOK Tryz.prog 30 #[.slice none 0 0,.int .i64 0,.int .i64 0,.int .i64 0] [(0,1),(1,1),(2,1),(3,1)]:=BOK.mk Tryz.zeroValue30 yf (by intro w; simp)
theorem gW:SOK Tryz.prog 28 43 1 12 #[.int .i64 0,.int .i64 0,.bool false,.bool false,.bool false,.int .i64 0,.int .i64 0,.int .i64 0,.int .i64 0,.int .i64 0,.int .i64 0,.slice none 0 0]:=SOK.mk xU xl Tryz.zeroValue43 (by decide) (by kernel_rfl)
theorem iH:(Tryz.prog.info? 43).map (fun i=>(i.zero,i.size,i.bytes))=some (some (.agg #[.int .i64 0,.int .i64 0,.bool false,.bool false,.bool false,.int .i64 0,.int .i64 0,.int .i64 0,.int .i64 0,.int .i64 0,.int .i64 0,.slice none 0 0]),12,96):=by kernel_rfl
def dy (a0:List UInt8):Nat→List Bat→Int→Option (Lp je (List Bat×Int))
 | 0,_,_=>none
 | m10+1,y3,y6=>if y6<(a0.length:Int) then (if 0≤y6∧y6.toNat≤a0.length then (if ((a0.drop y6.toNat).length:Int)<61 then (some (Lp.ret (⟨y3,y6,1,0⟩:je))) else ((cV (a0.drop y6.toNat)).bind fun (x17,x20)=>(if x20=0 then ((x17[1]?).bind fun x30=>if -9223372036854775808≤(x30+12)∧(x30+12)≤9223372036854775807 then (if (x30+12)>((a0.drop y6.toNat).length:Int) then some true else some false) else none) else some false).bind fun y27=>if y27=true then (some (Lp.ret (⟨y3,y6,1,0⟩:je))) else ((eo (a0.drop y6.toNat)).bind fun x36=>if x36.wO=0 then (if (y3.length+1)*96≤140737488355328 then (if -9223372036854775808≤(y6+x36.wP)∧(y6+x36.wP)≤9223372036854775807 then (dy a0 m10 (y3 ++ [x36.wq]) (y6+x36.wP)) else none) else none) else (some (Lp.ret (⟨y3,y6,2,x36.wO⟩:je)))))) else none) else (some (Lp.go (y3,y6)))
def gK (a0:List UInt8):Option (je):=(dy a0 (((a0.length:Int)).toNat+1) [] 0).bind fun e=>match e with | .ret r=>some r | .go (y47,y50)=>some (⟨y47,y50,0,0⟩:je)
theorem mz (a0:List UInt8) (r:je) (h:gK a0=some r):au Tryz.prog 8 #[jS a0] .triv (aw) (fun v A' N=> ∃ (A51:Option Addr) (c52:Nat),v= .agg #[.slice A51 r.wW.length c52,jI r.wU,jI r.wV,jI r.wO]∧A'=aw∧N = [RdR (aq 12 cE) [.slice A51 r.wW.length c52] r.wW]):=by
 refine aF Tryz.func8 Z Tryz.ntmps8 Z ?_
 intro F w hX
 unfold gK at h
 refine T.seq (T.region Z (TL.alloc Z .u Tryz.zeroValue30 Z (fun b1=>(TL.nil (X.seq (T.seq (T.region Z ?_)))))))
 refine TL.q Z .u (uU (cells:= #[.slice none 0 0,jI 0,jI 0,jI 0]) iG Z (by kernel_rfl)) Z ?_
 refine TL.alloc Z .u Tryz.zeroValue30 Z (fun b2=>(uO (cs':= #[.slice none 0 0,jI 0,jI 0,jI 0]) Z .u Z Z ya Z Z Z Z (TL.nil (X.seq (T.seq (T.block (vO 43 12 cE ?_)))))))
 obtain⟨E7,hE8,hO9⟩:=wX h
 refine vo (fun m e Rs=> ∃ (y3:List Bat) (A4:Option Addr) (c5:Nat) (y6:Int),e = [(0,jS a0),(2,jP b1),(3,jP b2)]∧Rs = [aE 43 12 cE (.slice A4 y3.length c5) y3,aD b2 30 #[.slice A4 y3.length c5,jI y6,jI 0,jI 0],aD b1 30 #[.slice none 0 0,jI 0,jI 0,jI 0],aw]∧dy a0 m y3 y6=some E7) (((a0.length:Int)).toNat+1) [0,0,0,0] ⟨[],none,0,0,Z,Z,by exact hE8⟩ (by rfl) (by rfl) ?_
 rintro m10 _ _ ⟨y3,A4,c5,y6,rfl,rfl,hl12⟩
 clear hE8 h
 cases m10 with
 | zero =>
  rw[dy] at hl12
  cases hl12
 | succ m10 =>
  have h:=hl12
  clear hl12
  rw[dy] at h
  refine T.seq (T.seq (T.region Z (TL.run ar [0] Z Z (TL.q Z .u (uB 1 Z xc Z Z) Z (TL.run ar [2] Z Z (TL.q Z .u (vk Z xj) Z (TL.run ar [4] Z Z ?_)))))))
  rcases jF h with⟨c14,h⟩ | ⟨c14,h⟩
  ·refine TL.nil (X.seq (uF Z (wY c14) (T.skip (X.seq (T.block (T.seq (T.region Z (TL.run ar [0,1] Z Z (TL.q Z .u (uB 1 Z xc Z Z) Z ?_)))))))))
   replace h:=ak h
   obtain⟨c15,h⟩:=h
   replace c15:0≤y6∧y6.toNat≤a0.length:=c15
   refine TL.q Z .u (vq (p:=y6.toNat) (q:=a0.length) (m:=(a0.drop y6.toNat)) Z xj (.some Z ((Int.toNat_of_nonneg c15.1).symm)) .none (by first | omega | (dsimp only; omega)) (eb _ _)) Z ?_
   refine TL.run ar [4] Z Z (TL.nil (X.seq (T.seq (T.seq (T.region Z (TL.run ar [0] Z Z (TL.q Z .u (vk Z xj) Z (TL.run ar [2] Z Z ?_))))))))
   rcases jF h with⟨c16,h⟩ | ⟨c16,h⟩
   ·refine TL.nil (X.seq (uF Z (wY c16) (T.seq (T.region Z (TL.run ar [0] Z Z (vL (cs':= #[.slice A4 y3.length c5,jI y6,jI 1,jI 0]) Z .u Z Z xg Z Z Z Z (TL.nil (X.seq (T.seq (T.region Z (TL.q Z .u (uN (us := [.slice A4 y3.length c5,jI y6,jI 1,jI 0]) 1 Z yG ya Z Z Z) Z (vB (cs':= #[.slice A4 y3.length c5,jI y6,jI 1,jI 0]) Z .u Z Z ya Z Z Z Z ?_))))))))))))
    obtain rfl:=xa h
    replace h:=hO9
    clear hO9
    try dsimp only at h
    obtain rfl:=xa h
    exact TL.nil (X.seq (T.ret (uH (uS (uH (uS (uH (vt (by decide) 0 Z (uW [0,0,0,0] Z (uC [3,0] Tryz.results8 (uT (us:= #[.slice A4 y3.length c5,jI y6,jI 1,jI 0]) 2 Z yG ya Z Z) ⟨_,_,Z,Z,Z⟩ (by rfl) (.inl Z)))))))))))
   ·refine TL.nil (X.seq (uK Z (wZ c16) (T.skip (X.seq (T.seq (T.region Z ?_))))))
    obtain⟨⟨x17,x20⟩,hx21,h⟩:=wX h
    try dsimp only at h
    refine TL.run ar [0] Z Z (u0 Z .u (.fn Tryz.call17 Z) (f7 (a0.drop y6.toNat) _ hx21) (fun _ hs=>(uE _ _)) Z ?_)
    rintro _ _ _ ⟨A18,c19,rfl,rfl,rfl⟩
    refine uM [0,0,0,0,0] Z (TL.run ar [2,3,4,5,6] Z Z (TL.nil (X.seq (T.seq (T.seq ?_)))))
    obtain⟨y27,h,hk28⟩:=wX h
    refine vF (fun e Rs=>e = [(0,jS a0),(2,jP b1),(3,jP b2),(4,.string (aB (a0.drop y6.toNat))),(38,.bool y27)]∧Rs = [RdR (aq 1 ck) [.slice A18 x17.length c19] x17,aE 43 12 cE (.slice A4 y3.length c5) y3,aD b2 30 #[.slice A4 y3.length c5,jI y6,jI 0,jI 0],aD b1 30 #[.slice none 0 0,jI 0,jI 0,jI 0],aw]) ?_ ?_
    ·clear hk28
     refine T.region Z ?_
     rcases jF h with⟨c29,h⟩ | ⟨c29,h⟩
     ·refine TL.run ar [0,1,2] Z Z (TL.q Z (.g Z Z (wY c29)) (uI ar Z) Z ?_)
      obtain⟨x30,hx31,h⟩:=wX h
      refine vM (E:=ck) (k:=1) 0 Z (fun w G h=>bV w G h) (by decide) hx31 ?_
      rintro gz32 oz32 z32cs hA z32cl ⟨_,_,z32r⟩
      cases hA
      obtain rfl:z32cs = [jI x30]:=z32r
      clear z32cl
      refine uM [0,0,0,0,0] Z ?_
      refine TL.q Z (.g Z Z (wY c29)) (uV (k:=1) Z Z Z xt xg (xd hx31).1) Z ?_
      refine TL.q Z (.g Z Z (wY c29)) (vw (cs := [jI x30]) 0 0 Z xc Z (fun _ _ h=>h.2.2.1) Z) Z ?_
      replace h:=ak h
      obtain⟨c33,h⟩:=h
      refine TL.q Z (.g Z Z (wY c29)) (Ex.add Z Z c33) Z (TL.q Z (.g Z Z (wY c29)) (uI ar Z) Z (TL.q Z (.g Z Z (wY c29)) (vk Z xj) Z (TL.q Z (.g Z Z (wY c29)) (uI ar Z) Z (TL.q Z .u (uJ Z (wY c29) Z) Z ?_))))
      rcases jF h with⟨c34,h⟩ | ⟨c34,h⟩
      ·refine TL.nil (vV (d:=38) (v':= .bool true) Z (congrArg Value.bool (wY c34)) (X.unf 0 Z (uW [0,0,0,0,0] Z ?_)))
       cases h
       exact u4 [0,0,0,0,0] ⟨Z,Z⟩ (by rfl) (by rfl)
      ·refine TL.nil (vV (d:=38) (v':= .bool false) Z (congrArg Value.bool (wZ c34)) (X.unf 0 Z (uW [0,0,0,0,0] Z ?_)))
       cases h
       exact u4 [0,0,0,0,0] ⟨Z,Z⟩ (by rfl) (by rfl)
     ·refine TL.run ar [0,1,2] Z Z ?_
      iterate 7 refine uG Z (.gn Z Z (wZ c29)) Z ?_
      refine TL.q Z .u (uL Z (wZ c29) Z) Z ?_
      cases h
      exact TL.nil (u4 [0,0,0,0,0] ⟨Z,Z⟩ (by rfl) (by rfl))
    ·rintro _ _ ⟨rfl,rfl⟩
     clear h
     have h:=hk28
     clear hk28
     try dsimp only at h
     rcases jF h with⟨c35,h⟩ | ⟨c35,h⟩
     ·refine X.seq (uF Z c35 (T.seq (T.region Z (TL.run ar [0] Z Z (vB (cs':= #[.slice A4 y3.length c5,jI y6,jI 1,jI 0]) Z .u Z Z xg Z Z Z Z (TL.nil (X.seq (T.seq (T.region Z (TL.q Z .u (uN (us := [.slice A4 y3.length c5,jI y6,jI 1,jI 0]) 2 Z yG ya Z Z Z) Z (vg (cs':= #[.slice A4 y3.length c5,jI y6,jI 1,jI 0]) Z .u Z Z ya Z Z Z Z ?_)))))))))))
      obtain rfl:=xa h
      replace h:=hO9
      clear hO9
      try dsimp only at h
      obtain rfl:=xa h
      exact TL.nil (X.seq (T.ret (uH (uS (uH (uS (uH (vt (by decide) 1 Z (uW [0,0,0,0,0] Z (uC [4,1] Tryz.results8 (uT (us:= #[.slice A4 y3.length c5,jI y6,jI 1,jI 0]) 3 Z yG ya Z Z) ⟨_,_,Z,Z,Z⟩ (by rfl) (.inl Z)))))))))))
     ·replace c35:=xi c35
      refine X.seq (uK Z c35 (T.skip (X.seq (T.seq (T.region Z ?_)))))
      obtain⟨x36,hx39,h⟩:=wX h
      refine TL.run ar [0] Z Z (u0 Z .u (.fn Tryz.call18 Z) (ln (a0.drop y6.toNat) _ hx39) (fun _ hs=>(uE _ _)) Z ?_)
      rintro _ _ _ ⟨A37,c38,rfl,rfl,rfl⟩
      refine uM [0,0,0,0,0,0] Z (TL.alloc Z .u Tryz.zeroValue56 Z (fun b40=>(uO (cs':= #[jI x36.wq.wG,jI x36.wq.wz,.bool x36.wq.wH,.bool x36.wq.wN,.bool x36.wq.wF,jI x36.wq.wE,jI x36.wq.wx,jI x36.wq.wJ,jI x36.wq.ww,jI x36.wq.wA,jI x36.wq.wv,.slice A37 x36.wq.ws.length c38,jI x36.wP,jI x36.wO]) Z .u Z Z xm Z Z Z Z (TL.nil (X.seq (T.seq (T.seq (T.region Z (TL.run ar [0] Z Z (TL.q Z .u (uB 0 Z xc Z Z) Z (TL.run ar [2] Z Z ?_)))))))))))
      rcases jF h with⟨c41,h⟩ | ⟨c41,h⟩
      ·refine TL.nil (X.seq (uK Z (av (wY c41)) (T.skip (X.seq (T.seq (T.region Z (TL.run ar [0] Z Z (TL.q Z .u (uB 4 Z Tryz.isAgg28 Z Z) Z (TL.run ar [2] Z Z (TL.q Z .u (uN (us := [jI x36.wq.wG,jI x36.wq.wz,.bool x36.wq.wH,.bool x36.wq.wN,.bool x36.wq.wF,jI x36.wq.wE,jI x36.wq.wx,jI x36.wq.wJ,jI x36.wq.ww,jI x36.wq.wA,jI x36.wq.wv,.slice A37 x36.wq.ws.length c38]) 0 Z xA xl Z Z Z) Z ?_))))))))))
       refine vD (cells:= #[jI x36.wq.wG,jI x36.wq.wz,.bool x36.wq.wH,.bool x36.wq.wN,.bool x36.wq.wF,jI x36.wq.wE,jI x36.wq.wx,jI x36.wq.wJ,jI x36.wq.ww,jI x36.wq.wA,jI x36.wq.wv,.slice A37 x36.wq.ws.length c38]) Z .u gW Z (by kernel_rfl) Z (fun b42=> ?_)
       replace h:=ak h
       obtain⟨c43,h⟩:=h
       refine TL.app2 3 1 Z .u (us := [jI x36.wq.wG,jI x36.wq.wz,.bool x36.wq.wH,.bool x36.wq.wN,.bool x36.wq.wF,jI x36.wq.wE,jI x36.wq.wx,jI x36.wq.wJ,jI x36.wq.ww,jI x36.wq.wA,jI x36.wq.wv,.slice A37 x36.wq.ws.length c38]) (u:=x36.wq) (l:=y3) (E:=cE) Tryz.underlying28 iH Z (by decide) Z Z Z Z Z Z Z (fun w G hG=>⟨_,_,Z,hG.1⟩) (by have hq:=c43; omega) (by have hq:=c43; omega) Z (fun A44 c45=> ?_)
       refine uM [0,0,0,0,0,0] Z (TL.run ar [6] Z Z (vg (cs':= #[.slice A44 (y3 ++ [x36.wq]).length c45,jI y6,jI 0,jI 0]) Z .u Z Z Tryz.sizeOf28 Z Z Z Z (TL.nil (X.seq (T.region Z (TL.run ar [0] Z Z (TL.q Z .u (uB 3 Z xc Z Z) Z (TL.run ar [2] Z Z (TL.q Z .u (uB 1 Z xc Z Z) Z ?_)))))))))
       replace h:=ak h
       obtain⟨c46,h⟩:=h
       exact TL.q Z .u (Ex.add Z Z c46) Z (TL.run ar [5] Z Z (vg (cs':= #[.slice A44 (y3 ++ [x36.wq]).length c45,jI (y6+x36.wP),jI 0,jI 0]) Z .u Z Z xg Z Z Z Z (TL.nil (uQ (X.back (m':=m10) [0,2,2,2] (by omega) ⟨(y3 ++ [x36.wq]),A44,c45,(y6+x36.wP),Z,Z,h⟩ (by rfl) (by rfl))))))
      ·refine TL.nil (X.seq (uF Z (aA (wZ c41)) (T.seq (T.region Z (TL.run ar [0] Z Z (vx (cs':= #[.slice A4 y3.length c5,jI y6,jI 2,jI 0]) Z .u Z Z xg Z Z Z Z (TL.nil (X.seq (T.seq (T.region Z (TL.run ar [0] Z Z (TL.q Z .u (uB 0 Z xc Z Z) Z ?_))))))))))))
       refine TL.run ar [2] Z Z (vx (cs':= #[.slice A4 y3.length c5,jI y6,jI 2,jI x36.wO]) Z .u Z Z xg Z Z Z Z (TL.nil (X.seq (T.seq (T.region Z (TL.q Z .u (uN (us := [.slice A4 y3.length c5,jI y6,jI 2,jI x36.wO]) 4 Z yG ya Z Z Z) Z (TL.st5 (cs':= #[.slice A4 y3.length c5,jI y6,jI 2,jI x36.wO]) Z .u Z Z ya Z Z Z Z ?_)))))))
       obtain rfl:=xa h
       replace h:=hO9
       clear hO9
       try dsimp only at h
       obtain rfl:=xa h
       exact TL.nil (X.seq (T.ret (uH (uS (uH (uS (uH (vt (by decide) 3 Z (uW [0,0,0,0,0,0,0] Z (uC [6,3] Tryz.results8 (uT (us:= #[.slice A4 y3.length c5,jI y6,jI 2,jI x36.wO]) 5 Z yG ya Z Z) ⟨_,_,Z,Z,Z⟩ (by rfl) (.inl Z)))))))))))
  ·refine TL.nil (X.seq (uK Z (wZ c14) ?_))
   obtain rfl:=xa h
   replace h:=hO9
   clear hO9
   try dsimp only at h
   refine T.exit (uR (uR (vn (X.seq (T.seq (T.region Z (TL.q Z .u (uN (us := [.slice A4 y3.length c5,jI y6,jI 0,jI 0]) 1 Z yG ya Z Z Z) Z (vB (cs':= #[.slice A4 y3.length c5,jI y6,jI 0,jI 0]) Z .u Z Z ya Z Z Z Z ?_))))))))
   obtain rfl:=xa h
   exact TL.nil (X.seq (T.ret (vt (by decide) 0 Z (uW [0,0,0,0] Z (uC [3,0] Tryz.results8 (uT (us:= #[.slice A4 y3.length c5,jI y6,jI 0,jI 0]) 2 Z yG ya Z Z) ⟨_,_,Z,Z,Z⟩ (by rfl) (.inl Z))))))
def kI:dU := [(30,0,0),(30,1,1),(30,2,2),(30,3,3)]
theorem al:(kI).OK Tryz.prog:=⟨FOK.mk yf rfl Tryz.sizeOf28 rfl,FOK.mk yf rfl xg rfl,FOK.mk yf rfl xg rfl,FOK.mk yf rfl xg rfl,trivial⟩
theorem j2:Tryz.prog.follows .mixedOrders=true:=by kernel_rfl
theorem aS:eW Tryz.prog 2 36 [.int .i64,.int .i64,.int .i64] true:=(eW.struct yS ym rfl Tryz.underlying36 Tryz.stoodInHeld36 ⟨by decide,rfl,[.int .i64],[.int .i64,.int .i64],false,rfl,(vH xc xg Tryz.underlying3),⟨by decide,rfl,[.int .i64],[.int .i64],false,rfl,(vH xc xg Tryz.underlying3),⟨by decide,rfl,[.int .i64],[],false,rfl,(vH Tryz.isAgg34 Tryz.sizeOf34 Tryz.underlying34),rfl⟩⟩⟩)
theorem fe:BOK Tryz.prog 36 #[.int .i64 0,.int .i64 0,.int .i64 0] [(0,1),(1,1),(2,1)]:=BOK.mk Tryz.zeroValue36 Tryz.runUnderlying36 (by intro w; simp)
theorem iI:BOK Tryz.prog 43 #[.int .i64 0,.int .i64 0,.bool false,.bool false,.bool false,.int .i64 0,.int .i64 0,.int .i64 0,.int .i64 0,.int .i64 0,.int .i64 0,.slice none 0 0] [(0,1),(1,1),(2,1),(3,1),(4,1),(5,1),(6,1),(7,1),(8,1),(9,1),(10,1),(11,1)]:=BOK.mk Tryz.zeroValue43 xr (by intro w; simp)
theorem gX:SOK Tryz.prog 26 9 2 1 #[.string ⟨#[]⟩,.string ⟨#[]⟩]:=SOK.mk ye yb Tryz.zeroValue9 (by decide) (by kernel_rfl)
def fq  : Option (Bool):=(fO (⟨0,0,false,false,false,0,0,0,-1,-1,-1,[]⟩:Bat)).bind fun (x1,x2)=>(if x2=0 then (if (x1.length:Int)=61 then some false else some true) else some true).bind fun y5=>if y5=true then some false else (if 30≤x1.length then ((iF [x1,(x1.take 30)]).bind fun (x12,x15)=>(if (x12.length:Int)=1 then (if x15.wU=61 then (if x15.wV=1 then (if x15.wO=0 then some true else some false) else some false) else some false) else some false).bind fun y22=>some y22) else none)
theorem j3  (r:Bool) (h:fq  = some r):au Tryz.prog 5 #[] .triv (aw) (fun v A' N=>v= .bool r∧A'=aw∧N = []):=by
 refine aF Tryz.func5 Z Tryz.ntmps5 Z ?_
 intro F w hX
 unfold fq at h
 refine T.seq (T.region Z (TL.run al [0] Z Z (TL.nil (X.seq (T.seq (T.region Z ?_))))))
 refine TL.q Z .u (uU (cells:= #[jI 0,jI 0,.bool false,.bool false,.bool false,jI 0,jI 0,jI 0,jI (-1),jI (-1),jI (-1),.slice none 0 0]) iI Z (by kernel_rfl)) Z ?_
 obtain⟨⟨x1,x2⟩,hx3,h⟩:=wX h
 try dsimp only at h
 refine uP Z .u (.fn Tryz.call16 Z) (iS (⟨0,0,false,false,false,0,0,0,-1,-1,-1,[]⟩:Bat) _ _ _ hx3) (fun _ hs=>lg) Z (TL.run al [2,3,4,5,6] Z Z (TL.nil (X.seq (T.seq (T.seq ?_)))))
 obtain⟨y5,h,hk6⟩:=wX h
 refine vF (fun e Rs=>e = [(0,.bool false),(1,jS x1),(16,.bool y5)]∧Rs = [aw]) ?_ ?_
 ·clear hk6
  refine T.region Z ?_
  rcases jF h with⟨c7,h⟩ | ⟨c7,h⟩
  ·refine TL.run al [0,1,2] Z Z (TL.q Z (.g Z Z (av (wY c7))) (uI al Z) Z (TL.q Z (.g Z Z (av (wY c7))) (vk Z xj) Z (TL.q Z (.g Z Z (av (wY c7))) (uI al Z) Z (TL.q Z .u (uL Z (av (wY c7)) Z) Z ?_))))
   rcases jF h with⟨c8,h⟩ | ⟨c8,h⟩
   ·cases h
    exact TL.nil (vV (d:=16) (v':= .bool false) Z (congrArg Value.bool (av (wY c8))) (u4 [0] ⟨Z,Z⟩ (by rfl) (by rfl)))
   ·cases h
    exact TL.nil (vV (d:=16) (v':= .bool true) Z (congrArg Value.bool (aA (wZ c8))) (u4 [0] ⟨Z,Z⟩ (by rfl) (by rfl)))
  ·refine TL.run al [0,1,2] Z Z ?_
   iterate 3 refine uG Z (.gn Z Z (aA (wZ c7))) Z ?_
   refine TL.q Z .u (uJ Z (aA (wZ c7)) Z) Z ?_
   cases h
   exact TL.nil (u4 [0] ⟨Z,Z⟩ (by rfl) (by rfl))
 ·rintro _ _ ⟨rfl,rfl⟩
  clear h
  have h:=hk6
  clear hk6
  try dsimp only at h
  rcases jF h with⟨c9,h⟩ | ⟨c9,h⟩
  ·refine X.seq (uF Z c9 (T.seq (T.region Z (TL.run al [0] Z Z ?_))))
   obtain rfl:=xa h
   exact TL.nil (X.seq (T.ret (uH (uC [0] Tryz.results5 (uD Z) ⟨Z,Z,Z⟩ (by rfl) (.inl Z)))))
  ·replace c9:=xi c9
   refine X.seq (uK Z c9 (T.skip (X.seq (T.seq (T.region Z ?_)))))
   replace h:=ak h
   obtain⟨c10,h⟩:=h
   refine TL.run al [0,1] Z Z ?_
   replace c10:30≤x1.length:=c10
   refine TL.q Z .u (vq (p:=0) (q:=30) (m:=(x1.take 30)) Z xj .none (.some Z Z) (by first | omega | (dsimp only; omega)) (by simp)) Z ?_
   refine vD (cells:= #[jS x1,.string (aB (x1.take 30))]) Z .u gX Z (by rfl) Z (fun b11=>(wa (us := [jS x1,.string (aB (x1.take 30))]) (xs := [x1,(x1.take 30)]) (E:=gq) (z:=1) Z (Nat.le_of_ble_eq_true Z) (fun _=>⟨Z,Z,⟨Z,Z,Z⟩⟩) ?_))
   obtain⟨⟨x12,x15⟩,hx16,h⟩:=wX h
   try dsimp only at h
   refine u0 Z .u (.fn Tryz.call15 Z) (kF [x1,(x1.take 30)] _ _ _ hx16) (fun _ hs=>(vu 0 hs Z (fun w G h=>aN (by decide) w G h))) Z ?_
   rintro _ _ _ ⟨A13,c14,rfl,rfl,rfl⟩
   refine uM [0,0,0] Z (TL.run al [5,6,7] Z Z (TL.alloc Z .u Tryz.zeroValue36 Z (fun b17=>(TL.run al [9] Z Z (uO (cs':= #[jI x15.wU,jI x15.wV,jI x15.wO]) Z .u Z Z ym Z Z Z Z (TL.nil (X.seq (T.seq ?_))))))))
   obtain⟨y22,h,hk23⟩:=wX h
   refine vF (fun e Rs=>e = [(0,.bool y22)]∧Rs = [aD b17 36 #[jI x15.wU,jI x15.wV,jI x15.wO],RdR (aq 12 cE) [.slice A13 x12.length c14] x12,aE 9 1 gq (.slice (some ⟨b11,0,none⟩) 2 2) [x1,(x1.take 30)],aw]) ?_ ?_
   ·clear hk23
    refine T.region Z (TL.run al [0] Z Z (TL.q Z .u (uY Z xU) Z ?_))
    rcases jF h with⟨c24,h⟩ | ⟨c24,h⟩
    ·refine TL.run al [2,3] Z Z (TL.q Z (.g Z Z (wY c24)) (uN (us := [jI x15.wU,jI x15.wV,jI x15.wO]) 0 Z yS ym Z Z Z) Z ?_)
     refine TL.q Z (.g Z Z (wY c24)) (uU (cells:= #[jI 61,jI 1,jI 0]) fe Z (by kernel_rfl)) Z ?_
     rcases jF h with⟨c25,h⟩ | ⟨c25,h⟩
     ·rcases jF h with⟨c26,h⟩ | ⟨c26,h⟩
      ·rcases jF h with⟨c27,h⟩ | ⟨c27,h⟩
       ·refine TL.q Z (.g Z Z (wY c24)) (vX (us := [jI x15.wU,jI x15.wV,jI x15.wO]) (vs := [jI 61,jI 1,jI 0]) aS Z yl Z Z Z Z (dI (g7 c25) (dI (g7 c26) (dI (g7 c27) Z)))) Z (TL.q Z .u (uJ Z (wY c24) Z) Z (TL.run al [8] Z Z (TL.q Z .u (uJ Z Z Z) Z (TL.run al [10] Z Z ?_))))
        cases h
        exact TL.nil (u4 [0,0,0,0] ⟨Z,Z⟩ (by rfl) (by rfl))
       ·refine TL.q Z (.g Z Z (wY c24)) (vX (us := [jI x15.wU,jI x15.wV,jI x15.wO]) (vs := [jI 61,jI 1,jI 0]) aS Z yl Z Z Z Z (dI (g7 c25) (dI (g7 c26) (gt (kh c27))))) Z (TL.q Z .u (uJ Z (wY c24) Z) Z (TL.run al [8] Z Z (TL.q Z .u (uL Z Z Z) Z (TL.run al [10] Z Z ?_))))
        cases h
        exact TL.nil (u4 [0,0,0,0] ⟨Z,Z⟩ (by rfl) (by rfl))
      ·refine TL.q Z (.g Z Z (wY c24)) (vX (us := [jI x15.wU,jI x15.wV,jI x15.wO]) (vs := [jI 61,jI 1,jI 0]) aS Z yl Z Z Z Z (dI (g7 c25) (gt (kh c26)))) Z (TL.q Z .u (uJ Z (wY c24) Z) Z (TL.run al [8] Z Z (TL.q Z .u (uL Z Z Z) Z (TL.run al [10] Z Z ?_))))
       cases h
       exact TL.nil (u4 [0,0,0,0] ⟨Z,Z⟩ (by rfl) (by rfl))
     ·refine TL.q Z (.g Z Z (wY c24)) (vX (us := [jI x15.wU,jI x15.wV,jI x15.wO]) (vs := [jI 61,jI 1,jI 0]) aS Z yl Z Z Z Z (gt (kh c25))) Z (TL.q Z .u (uJ Z (wY c24) Z) Z (TL.run al [8] Z Z (TL.q Z .u (uL Z Z Z) Z (TL.run al [10] Z Z ?_))))
      cases h
      exact TL.nil (u4 [0,0,0,0] ⟨Z,Z⟩ (by rfl) (by rfl))
    ·refine TL.run al [2,3] Z Z ?_
     iterate 3 refine uG Z (.gn Z Z (wZ c24)) Z ?_
     refine TL.q Z .u (uL Z (wZ c24) Z) Z (TL.run al [8] Z Z (TL.q Z .u (uL Z Z Z) Z (TL.run al [10] Z Z ?_)))
     cases h
     exact TL.nil (u4 [0,0,0,0] ⟨Z,Z⟩ (by rfl) (by rfl))
   ·rintro _ _ ⟨rfl,rfl⟩
    clear h
    have h:=hk23
    clear hk23
    try dsimp only at h
    obtain rfl:=xa h
    exact X.seq (T.ret (uC [3] Tryz.results5 (uD Z) ⟨Z,Z,Z⟩ (by rfl) (.inl Z)))
def bh:List (List UInt8)→Bool→List UInt8→Int→aC→Option (Lp Bool (Bool×List UInt8×Int×aC))
 | [],y19,y20,y21,st23=>some (Lp.go (y19,y20,y21,st23))
 | x28::xs,y19,y20,y21,st23=>if y20.length+x28.length≤9223372036854775807 then ((gK (y20++x28)).bind fun x33=>(if (x33.wW.length:Int)<y21 then some (true,st23) else (if 0≤y21∧y21.toNat≤x33.wW.length then ((bE st23 x28).bind fun (x59,st62)=>(es x59 (x33.wW.drop y21.toNat)).bind fun x64=>if x64=true then ((bR st62).bind fun (x67,st68)=>if x67.wU=x33.wU then (if x67.wV=x33.wV then (if x67.wO=x33.wO then some (false,st68) else some (true,st68)) else some (true,st68)) else some (true,st68)) else some (true,st62)) else none)).bind fun (y54,st55)=>if y54=true then none else (bh xs y19 (y20++x28) (x33.wW.length:Int) st55)) else none
def ee (a0:List UInt8) (a1:List Int):Option (Bool):=(fq).bind fun x3=>if x3=true then ((if (a0.length:Int)>1500 then some true else (if (a1.length:Int)>200 then some true else some false)).bind fun y7=>if y7=true then some true else ((fT).bind fun st12=>(gJ a0 a1).bind fun x15=>(bh x15 false [] 0 st12).bind fun e=>match e with | .ret r=>some r | .go (y74,y75,y76,st78)=>some true)) else none
theorem f_l23_ScanFeeds_spec (a0:List UInt8) (a1:List Int) (A1:Option Addr) (c2:Nat) (r:Bool) (h:ee a0 a1=some r):au Tryz.prog 3 #[jS a0,.slice A1 a1.length c2] (RX.of (aq 1 u8E) [.slice A1 a1.length c2] a1) (aw) (fun v A' N=>v= .bool r∧A'=aw∧N = []):=by
 refine aF Tryz.func3 Z Tryz.ntmps3 Z ?_
 intro F w hX
 unfold ee at h
 refine T.seq (T.region Z (TL.run al [0] Z Z ?_))
 obtain⟨x3,hx4,h⟩:=wX h
 refine TL.nil (X.seq (T.seq (T.seq (T.region Z (uP Z .u (.fn Tryz.call5 Z) (j3 _ hx4) (fun _ hs=>(uE _ _)) Z (TL.run al [1] Z Z ?_))))))
 rcases jF h with⟨c5,h⟩ | ⟨c5,h⟩
 ·refine TL.nil (X.seq (uK Z (av c5) (T.skip (X.seq (T.seq (T.seq ?_))))))
  obtain⟨y7,h,hk8⟩:=wX h
  refine vF (fun e Rs=>e = [(0,jS a0),(1,.slice A1 a1.length c2),(4,.bool false),(20,.bool y7)]∧Rs = [aw]) ?_ ?_
  ·clear hk8
   refine T.region Z (TL.run al [0] Z Z (TL.q Z .u (vk Z xj) Z ?_))
   rcases jF h with⟨c9,h⟩ | ⟨c9,h⟩
   ·refine TL.run al [2,3] Z Z ?_
    iterate 3 refine uG Z (.gn Z Z (wY c9)) Z ?_
    refine TL.q Z .u (uJ Z (wY c9) Z) Z ?_
    cases h
    exact TL.nil (u4 [0] ⟨Z,Z⟩ (by rfl) (by rfl))
   ·refine TL.run al [2,3] Z Z (TL.q Z (.g Z Z (wZ c9)) (uI al Z) Z (TL.q Z (.g Z Z (wZ c9)) (uY Z xv) Z (TL.q Z (.g Z Z (wZ c9)) (uI al Z) Z (TL.q Z .u (uL Z (wZ c9) Z) Z ?_))))
    rcases jF h with⟨c10,h⟩ | ⟨c10,h⟩
    ·cases h
     exact TL.nil (vV (d:=20) (v':= .bool true) Z (congrArg Value.bool (wY c10)) (u4 [0] ⟨Z,Z⟩ (by rfl) (by rfl)))
    ·cases h
     exact TL.nil (vV (d:=20) (v':= .bool false) Z (congrArg Value.bool (wZ c10)) (u4 [0] ⟨Z,Z⟩ (by rfl) (by rfl)))
  ·rintro _ _ ⟨rfl,rfl⟩
   clear h
   have h:=hk8
   clear hk8
   try dsimp only at h
   rcases jF h with⟨c11,h⟩ | ⟨c11,h⟩
   ·refine X.seq (uF Z c11 (T.seq (T.region Z (TL.run al [0] Z Z ?_))))
    obtain rfl:=xa h
    exact TL.nil (X.seq (T.ret (uH (uC [0] Tryz.results3 (uD Z) ⟨Z,Z,Z⟩ (by rfl) (.inl Z)))))
   ·replace c11:=xi c11
    refine X.seq (uK Z c11 ?_)
    obtain⟨st12,hx13,h⟩:=wX h
    refine T.skip (X.seq (T.seq (T.region Z (u0 Z .u (.fn Tryz.call6 Z) (g9 _ hx13) (fun _ hs=>(uE _ _)) Z ?_))))
    rintro _ _ _ ⟨b14,rfl,rfl,rfl⟩
    refine uM [0,0] Z (TL.run al [1,2,3] Z Z (TL.nil (X.seq (T.seq (T.seq (T.region Z ?_))))))
    obtain⟨x15,hx18,h⟩:=wX h
    refine TL.run al [0,1] Z Z (u0 Z .u (.fn Tryz.call7 Z) (mv a0 a1 _ _ _ hx18) (fun _ hs=>(vb hs hX)) Z ?_)
    rintro _ _ _ ⟨A16,c17,rfl,rfl,rfl⟩
    refine uM [0,0,0] Z (TL.q Z .u (uY Z ye) Z (TL.run al [4] Z Z (TL.nil (X.seq (T.block ?_)))))
    obtain⟨E24,hE25,hO26⟩:=wX h
    refine T.blen 0 Z (fun w G h=>bV w G h) (fun hk30len=> ?_)
    try dsimp only at hk30len
    refine vo (fun m e Rs=> ∃ (y19:Bool) (y20:List UInt8) (y21:Int) (k22:Nat) (st23:aC),k22+m=x15.length∧e = [(4,.bool y19),(5,jP b14),(6,jS y20),(7,jI y21),(24,.slice A16 x15.length c17),(25,jI (x15.length:Int)),(26,jI (k22:Int))]∧Rs = [RdR (aq 1 gq) [.slice A16 x15.length c17] x15,bB b14 st23,aw]∧bh (x15.drop k22) y19 y20 y21 st23=some E24) (x15.length) [0,0,0] ⟨false,[],0,0,st12,by simp,Z,Z,by rw[List.drop_zero]; exact hE25⟩ (by rfl) (by rfl) ?_
    rintro m27 _ _ ⟨y19,y20,y21,k22,st23,hk30,rfl,rfl,hl29⟩
    clear hE25 h
    cases m27 with
    | zero =>
     have h:=hl29
     clear hl29
     rw[List.drop_of_length_le (by omega),bh] at h
     have hk30ge: ¬ ((k22:Int)<(x15.length:Int)):=by omega
     refine T.seq (T.region Z (TL.run al [0] Z Z (TL.nil (X.seq (T.seq (uK Z (wZ hk30ge) ?_))))))
     obtain rfl:=xa h
     replace h:=hO26
     clear hO26
     try dsimp only at h
     refine T.exit (uR (uR (vn (X.seq (T.seq (T.region Z (TL.run al [0] Z Z ?_)))))))
     obtain rfl:=xa h
     exact TL.nil (X.seq (T.ret (uC [2] Tryz.results3 (uD Z) ⟨Z,Z,Z⟩ (by rfl) (.inl Z))))
    | succ m27 =>
     have h:=hl29
     clear hl29
     obtain⟨x28,hxx28⟩: ∃ x,x15[k22]? = some x:=⟨_,List.getElem?_eq_getElem (by omega)⟩
     rw[cK hxx28,bh] at h
     have hk30lt:(k22:Int)<(x15.length:Int):=by omega
     refine T.seq (T.region Z (TL.run al [0] Z Z (TL.nil (X.seq (T.seq (uF Z (wY hk30lt) (T.skip (X.seq (T.seq (T.block (T.seq (T.region Z (vM (E:=gq) (k:=k22) 0 Z (fun w G h=>bV w G h) (by decide) hxx28 ?_)))))))))))))
     rintro gz31 oz31 z31cs hA z31cl ⟨_,_,z31r⟩
     cases hA
     obtain rfl:z31cs = [jS x28]:=z31r
     clear z31cl
     refine uM [0,0,0] Z ?_
     refine TL.q Z .u (uV (k:=k22) Z Z Z ye yb (xd hxx28).1) Z ?_
     refine TL.q Z .u (vw (cs := [jS x28]) 0 0 Z yh Z (fun _ _ h=>h.2.2.1) Z) Z (TL.run al [2] Z Z (TL.nil (X.seq (T.seq (T.region Z ?_)))))
     replace h:=ak h
     obtain⟨c32,h⟩:=h
     refine TL.run al [0,1] Z Z (TL.q Z .u (Ex.sAdd Z Z c32) Z (TL.run al [3] Z Z (TL.nil (X.seq (T.seq (T.region Z ?_))))))
     obtain⟨x33,hx36,h⟩:=wX h
     refine TL.run al [0] Z Z (u0 Z .u (.fn Tryz.call8 Z) (mz (y20++x28) _ hx36) (fun _ hs=>(uE _ _)) Z ?_)
     rintro _ _ _ ⟨A34,c35,rfl,rfl,rfl⟩
     refine uM [0,0,0,0] Z (TL.alloc Z .u Tryz.zeroValue30 Z (fun b37=>(uO (cs':= #[.slice A34 x33.wW.length c35,jI x33.wU,jI x33.wV,jI x33.wO]) Z .u Z Z ya Z Z Z Z (TL.nil (X.seq (T.seq (T.seq ?_)))))))
     obtain⟨⟨y54,st55⟩,h,hk56⟩:=wX h
     refine vF (fun e Rs=>e = [(4,.bool y19),(5,jP b14),(6,.string (aB (y20++x28))),(7,jI y21),(10,jP b37),(24,.slice (some ⟨gz31,oz31,none⟩) x15.length c17),(25,jI (x15.length:Int)),(26,jI (k22:Int)),(62,.bool y54)]∧Rs = [aD b37 30 #[.slice A34 x33.wW.length c35,jI x33.wU,jI x33.wV,jI x33.wO],RdR (aq 12 cE) [.slice A34 x33.wW.length c35] x33.wW,fp (RdR (aq 1 gq) [.slice (some ⟨gz31,oz31,none⟩) x15.length c17] x15) gq gz31 (oz31+k22*1) [jS x28] x28,bB b14 st55,aw]) ?_ ?_
     ·clear hk56
      refine uZ (.q 0 (.q 1 (.q 2 (.q 3 (.q 4 (.q 5 (.q 6 (.q 7 (.q 9 (.q 10 (.q 11 (.q 12 (.e 8 (.e 13 (.q 14 (.q 15 (.q 16 (.q 17 (.q 19 (.q 20 (.q 21 (.q 22 (.q 23 (.q 24 (.q 25 (.e 18 (.q 26 (.q 27 .nil)))))))))))))))))))))))))))) [0,0,0,1] Z j2 (NoP.seq (NoP.seq (NoP.seq (NoP.blk (NoP.seq (NoP.seq (NoP.blk (NoP.seq aI)))))))) (by kernel_rfl) ?_
      refine TD.run al [0] Z Z (TD.q Z .u (uB 0 Z Tryz.isAgg28 Z Z) Z (TD.q Z .u (uY Z xU) Z ?_))
      rcases jF h with⟨c57,h⟩ | ⟨c57,h⟩
      ·refine TD.run al [3,4,5] Z Z ?_
       iterate 6 refine TD.no Z (.gn Z Z (wY c57)) Z ?_
       iterate 2 refine TD.noe Z (.gn Z Z (wY c57)) Z [0,0,0,1] Z ?_
       refine TD.no Z (.gn Z Z (wY c57)) Z (TD.q Z .u (uJ Z (wY c57) Z) Z (TD.run al [16] Z Z ?_))
       iterate 8 refine TD.no Z (.gn Z Z Z) Z ?_
       refine TD.noe Z (.gn Z Z Z) Z [0,0,0,1] Z (TD.no Z (.gn Z Z Z) Z (TD.q Z .u (uJ Z Z Z) Z ?_))
       cases h
       exact TD.nil (u4 [0,0,0,0,0] ⟨Z,Z⟩ (by rfl) (by rfl))
      ·refine TD.run al [3,4,5] Z Z ?_
       iterate 3 refine TD.q Z (.g Z Z (wZ c57)) (uI al Z) Z ?_
       refine TD.q Z (.g Z Z (wZ c57)) (uB 0 Z Tryz.isAgg28 Z Z) Z (TD.q Z (.g Z Z (wZ c57)) (uI al Z) Z ?_)
       replace h:=ak h
       obtain⟨c58,h⟩:=h
       refine TD.q Z (.g Z Z (wZ c57)) (Ex.subS (p:=y21.toNat) (q:=x33.wW.length) (mm:=(x33.wW.drop y21.toNat).length) (cap_of 1 Z (fun w G h=>bV w G h)) Z xU xl (.some Z (Int.toNat_of_nonneg c58.1).symm) .none c58.2 (xB _) (xe)) Z ?_
       obtain⟨⟨x59,st62⟩,hx63,h⟩:=wX h
       try dsimp only at h
       refine TD.cg3 Z (.g Z Z (wZ c57)) (.fn Tryz.call10 Z) (ey b14 st23 x28 _ hx63) (fun _ hs=>(Src.triv _)) Z [1,1,1,2] ?_ ?_
       ·rintro _ _ _ ⟨A60,c61,rfl,rfl,rfl⟩
        rfl
       rintro _ _ _ ⟨A60,c61,rfl,rfl,rfl⟩
       refine vi [0,0,0,0,0,0] Z ?_
       obtain⟨x64,hx65,h⟩:=wX h
       refine v6 Z (.g Z Z (wZ c57)) (.fn Tryz.call9 Z) (ls x59 _ _ (x33.wW.drop y21.toNat) _ _ _ hx65) (fun _ hs=>(v8 (vu 0 hs Z (fun w G h=>bV w G h)) (vu 2 hs Z (fun w G h=>RX.sub ((fun w G h=>bV w G h) w G h) c58.2 (xB _) (List.take_of_length_le (by rw[xe]; exact xB _)))))) Z [1,1,1,2] (Z) ?_
       refine TD.q Z (.g Z Z (wZ c57)) (uI al Z) Z (TD.q Z .u (uL Z (wZ c57) Z) Z ?_)
       rcases jF h with⟨c66,h⟩ | ⟨c66,h⟩
       ·refine TD.run al [16] Z Z ?_
        iterate 2 refine TD.q Z (.g Z Z (av c66)) (uI al Z) Z ?_
        refine TD.q Z (.g Z Z (av c66)) (uB 0 Z xc Z Z) Z (TD.q Z (.g Z Z (av c66)) (uI al Z) Z (TD.q Z (.g Z Z (av c66)) (uB 0 Z xc Z Z) Z (TD.q Z (.g Z Z (av c66)) (uI al Z) Z (TD.q Z (.g Z Z (av c66)) (uB 0 Z xc Z Z) Z ?_))))
        refine TD.q Z (.g Z Z (av c66)) (uU (cells:= #[jI x33.wU,jI x33.wV,jI x33.wO]) fe Z (by kernel_rfl)) Z ?_
        obtain⟨⟨x67,st68⟩,hx69,h⟩:=wX h
        try dsimp only at h
        refine TD.c4 Z (.g Z Z (av c66)) (.fn Tryz.call11 Z) (ea b14 st62 _ hx69) (fun _ hs=>(Src.triv _)) Z [1,1,1,2] (Z) ?_
        rcases jF h with⟨c70,h⟩ | ⟨c70,h⟩
        ·rcases jF h with⟨c71,h⟩ | ⟨c71,h⟩
         ·rcases jF h with⟨c72,h⟩ | ⟨c72,h⟩
          ·refine TD.q Z (.g Z Z (av c66)) (wg (us := [jI x67.wU,jI x67.wV,jI x67.wO]) (vs := [jI x33.wU,jI x33.wV,jI x33.wO]) aS Z yl Z Z Z Z (dI (g7 c70) (dI (g7 c71) (dI (g7 c72) Z)))) Z (TD.q Z .u (uL Z (av c66) Z) Z ?_)
           cases h
           exact TD.nil (u4 [1,1,1,1,1] ⟨Z,Z⟩ (by rfl) (by rfl))
          ·refine TD.q Z (.g Z Z (av c66)) (wg (us := [jI x67.wU,jI x67.wV,jI x67.wO]) (vs := [jI x33.wU,jI x33.wV,jI x33.wO]) aS Z yl Z Z Z Z (dI (g7 c70) (dI (g7 c71) (gt (kh c72))))) Z (TD.q Z .u (uL Z (av c66) Z) Z ?_)
           cases h
           exact TD.nil (u4 [1,1,1,1,1] ⟨Z,Z⟩ (by rfl) (by rfl))
         ·refine TD.q Z (.g Z Z (av c66)) (wg (us := [jI x67.wU,jI x67.wV,jI x67.wO]) (vs := [jI x33.wU,jI x33.wV,jI x33.wO]) aS Z yl Z Z Z Z (dI (g7 c70) (gt (kh c71)))) Z (TD.q Z .u (uL Z (av c66) Z) Z ?_)
          cases h
          exact TD.nil (u4 [1,1,1,1,1] ⟨Z,Z⟩ (by rfl) (by rfl))
        ·refine TD.q Z (.g Z Z (av c66)) (wg (us := [jI x67.wU,jI x67.wV,jI x67.wO]) (vs := [jI x33.wU,jI x33.wV,jI x33.wO]) aS Z yl Z Z Z Z (gt (kh c70))) Z (TD.q Z .u (uL Z (av c66) Z) Z ?_)
         cases h
         exact TD.nil (u4 [1,1,1,1,1] ⟨Z,Z⟩ (by rfl) (by rfl))
       ·replace c66:=xi c66
        refine TD.run al [16] Z Z ?_
        iterate 8 refine TD.no Z (.gn Z Z (aA c66)) Z ?_
        refine TD.noe Z (.gn Z Z (aA c66)) Z [1,1,1,2] Z (TD.no Z (.gn Z Z (aA c66)) Z (TD.q Z .u (uJ Z (aA c66) Z) Z ?_))
        cases h
        exact TD.nil (u4 [1,1,1,1,1] ⟨Z,Z⟩ (by rfl) (by rfl))
     ·rintro _ _ ⟨rfl,rfl⟩
      clear h
      have h:=hk56
      clear hk56
      try dsimp only at h
      rcases jF h with⟨c73,h⟩ | ⟨c73,h⟩
      ·exact X.seq (uF rfl c73 (nomatch h))
      ·replace c73:=xi c73
       refine X.seq (uK Z c73 (T.skip (X.seq (T.region Z (TL.run al [0] Z Z (TL.q Z .u (uB 0 Z Tryz.isAgg28 Z Z) Z (TL.q Z .u (uY Z xU) Z (TL.run al [3] Z Z (TL.nil (uQ (X.seq (T.region Z ?_))))))))))))
       exact TL.q Z .u (Ex.add Z Z (by omega)) Z (TL.run al [1] Z Z (TL.nil (X.unf 2 Z (uW [0,0,0,0,0] Z (X.back (m':=m27) [2,2,2] (by omega) ⟨y19,(y20++x28),(x33.wW.length:Int),k22+1,st55,by omega,Z,Z,h⟩ (by rfl) (by rfl))))))
 ·replace c5:=xi c5
  exact TL.nil (X.seq (uF rfl (aA c5) (nomatch h)))
theorem tL:fq=some true:=by kernel_rfl
theorem uz (p:Pfx):(fS p)[1]? = some p.wM:=rfl
theorem tM (s:List UInt8) (hs:s.length≤1000000): ∀ (fuel:Nat) (acc:List Bat) (q:Nat),q≤s.length→s.length - q<fuel→acc.length+(s.length - q)≤3000000 →
 dy s fuel acc (q:Int)=some (if (Scn (s.drop q)).2.1 = [] then .go (acc++(Scn (s.drop q)).1,((q+(cJ dX (Scn (s.drop q)).1).length:Nat):Int)) else .ret ⟨acc++(Scn (s.drop q)).1,((q+(cJ dX (Scn (s.drop q)).1).length:Nat):Int),if (Scn (s.drop q)).2.2≠0 then 2 else 1,(Scn (s.drop q)).2.2⟩)
 | 0,acc,q,h1,h2,h3=>by omega
 | fuel+1,acc,q,h1,h2,h3=>by
  have hd:(s.drop q).length=s.length - q:=xe
  rw[dy]
  by_cases c0:q=s.length
  ·have e:s.drop q = []:=List.drop_eq_nil_of_le (by omega)
   rw[if_neg (by omega),e,cu (s := []) (by decide)]
   dsimp only
   rw[if_pos rfl,xN,cJ,xR,Nat.add_zero]
  rw[if_pos (by omega),if_pos (by omega),xC]
  have hne:s.drop q ≠ []:=fun h=>by rw[h,xR] at hd; omega
  by_cases c1:(s.drop q).length<61
  ·rw[if_pos (by omega),cu c1]
   dsimp only
   rw[if_neg hne,xN,cJ,xR,Nat.add_zero]
   rfl
  have h61:61≤(s.drop q).length:=by omega
  rw[if_neg (by omega),mt _ h61 (by omega),xb]
  by_cases c2:eOf (s.drop q)=0
  rotate_left
  ·have hp:eK (s.drop q) 0= .error (eOf (s.drop q)):=by unfold eK; rw[lG _ h61,if_neg c2]
   rw[if_neg c2]
   dsimp only
   rw[if_neg c2,xb,if_neg (by decide),gU h61 c2]
   rcases pA (s.drop q) (by omega) with⟨e,p1,e0,g⟩ | ⟨b,r,p1,_⟩
   ·rw[hp] at p1
    obtain rfl:=Except.error.inj p1
    rw[g,xb]
    dsimp only
    rw[if_neg e0,if_neg hne,if_pos e0,xN,cJ,xR,Nat.add_zero]
   ·rw[hp] at p1
    exact nomatch p1
  have hz:=(ed c2).1
  have hi:=pF c2
  rw[if_pos c2]
  dsimp only
  rw[if_pos rfl,uz,xb]
  have hv:(pOf (s.drop q)).wM=vI (s.drop q) 8 4:=rfl
  have hb:de (vI (s.drop q) 8 4) 4=true:=(kE (s.drop q) h61).2.1
  rw[fA] at hb
  have hb:=of_decide_eq_true hb
  rw[hv,if_pos (by omega)]
  by_cases c3:(s.drop q).length<cg (s.drop q)
  ·rw[if_pos (by omega),xb,if_pos rfl,gI h61 c2 c3]
   dsimp only
   rw[if_neg hne,xN,cJ,xR,Nat.add_zero]
   rfl
  have hl:cg (s.drop q)≤(s.drop q).length:=by omega
  rw[if_neg (by omega),xb,if_neg (by decide)]
  rcases pA (s.drop q) (by omega) with⟨e,p1,e0,g⟩ | ⟨b,r,p1,hr1,g⟩
  ·rw[g,xb,gV h61 c2 hl p1]
   dsimp only
   rw[if_neg e0,if_neg hne,if_pos e0,xN,cJ,xR,Nat.add_zero]
  ·have hr:=fc h61 c2 hl p1
   have a4:=(tz.spell (s.drop q) 0 b r (xH _) p1).2.2.2.1
   rw[List.take_zero,xy] at a4
   have a5:=congrArg List.length a4
   rw[xx] at a5
   have ih:=tM s hs fuel (acc ++ [b]) (q+r) (by omega) (by omega) (by rw[xf,yk]; omega)
   rw[g,xb,fd h61 c2 hl p1,xM]
   dsimp only
   have e5:q+r+(cJ dX (Scn (s.drop (q+r))).1).length=q+(cJ dX (b::(Scn (s.drop (q+r))).1)).length:=by
    rw[cJ,xf]
    omega
   rw[if_pos rfl,if_pos (by omega),if_pos (by omega),show ((q:Int)+(r:Int))=((q+r:Nat):Int) by omega,ih,e5,xq]
   rfl
theorem uA {s:List UInt8} (hs:s.length≤1000000):gK s=some ⟨(Scn s).1,(nt s).wU,(nt s).wV,(nt s).wO⟩:=by
 have h:=tM s hs ((((s.length:Int)).toNat)+1) [] 0 (xH _) (by omega) (by rw[xR]; omega)
 have hw:=tK s.length s (xB _)
 rw[List.drop_zero,xy,Nat.zero_add] at h
 unfold gK
 rw[show (0:Int)=((0:Nat):Int) from rfl,h,xb]
 unfold nt
 by_cases r:(Scn s).2.1 = []
 ·have g:(Scn s).2.2=0:=Decidable.byContradiction (fun g=>hw g r)
  rw[if_pos r,if_neg (fun h=>h g),if_pos r,g]
  rfl
 ·rw[if_neg r]
  by_cases g:(Scn s).2.2=0
  ·rw[if_neg (fun h=>h g),if_neg (fun h=>h g),if_neg r]
  ·rw[if_pos g,if_pos g]
theorem pH (y:Bool): ∀ (cs:List (List UInt8)) (s:List UInt8) (x:aC),ScAt x s→s.length+cs.flatten.length≤60000→ ∃ z,bh cs y s ((Scn s).1.length:Int) x=some (.go z)
 | [],s,x,h,hl=>⟨_,rfl⟩
 | c::cs,s,x,h,hl=>by
  rw[List.flatten_cons,xf] at hl
  obtain⟨v,k1,k2,k3⟩:=ux h (c:=c) (by omega)
  obtain⟨z,q1⟩:=pH y cs (s++c) v k2 (by rw[xf]; omega)
  have hf:=congrArg List.length k3
  rw[xx] at hf
  have hbn:=z_bn (s:=s++c) (by rw[xf]; omega)
  have hfew:=uy _ (s++c) (xB _)
  rw[xf] at hfew
  have hself:es ((Scn (s++c)).1.drop (Scn s).1.length) ((Scn (s++c)).1.drop (Scn s).1.length)=some true:=pG (by rw[xe]; omega) (fun b hb=>(hbn b (List.mem_of_mem_drop hb)).2.1)
  refine⟨z,?_⟩
  rw[bh,if_pos (by omega),uA (by rw[xf]; omega),xb]
  dsimp only
  rw[if_neg (by omega),if_pos (by omega),k1,xb]
  dsimp only
  rw[xC,hself,xb,if_pos rfl,tH k2,xb]
  dsimp only
  rw[if_pos rfl,if_pos rfl,if_pos rfl,xb]
  dsimp only
  rw[if_neg (by decide),q1]
theorem pure_ScanFeeds (a0:List UInt8) (a1:List Int) (w0:a0.length≤140737488351232) (w1:wL wU8 a1):ee a0 a1=some true:=by
 unfold ee
 rw[tL,xb,if_pos rfl]
 by_cases l1:(a0.length:Int)>1500
 ·rw[if_pos l1,xb,if_pos rfl]
 by_cases l2:(a1.length:Int)>200
 ·rw[if_neg l1,if_pos l2,xb,if_pos rfl]
 rw[if_neg l1,if_neg l2,xb,if_neg (by decide)]
 obtain⟨cs,q1,q2,q3⟩:=cut_eq (s:=a0) (ns:=a1) (fun n hn=>w1.2 n hn) (by omega) (by omega)
 obtain⟨z,h⟩:=pH false cs [] ⟨[],0,0⟩ new_at (by rw[q2,xR]; omega)
 rw[cu (s := []) (by decide)] at h
 have h2:bh cs false [] 0 ⟨[],0,0⟩=some (.go z):=h
 rw[show fT=some ⟨[],0,0⟩ from rfl,xb,q1,xb,h2]
 rfl
end Go.Proofs.YtahjmpipllajcaaGreat.Sl
namespace Go.Proofs.YtahjmpipllajcaaGreat.scanFeeds
open Go.ChangeShapes Go.WideShapes Go.ChangeAt Go.RowKit
open Go.ChangeMaps (open_string shut_string)
set_option linter.unusedVariables false
theorem own:ownKnob Tryz.prog.godebug=none:=by kernel_rfl
theorem laidOut:laidOutB Tryz.prog=true:=by kernel_rfl
theorem lifted (os:Os) (started:os.Started) (H:Type) (enc:TypeId×Value→H) :
 ReturnsInHanded {} Tryz.checked os 3 .any (Rows.scanFeedsSpec.pre6 enc Tryz.prog Tryz.f3 Rows.scanFeedsRow.domain false) (Rows.scanFeedsSpec.post enc Tryz.prog Tryz.f3 false true false false):=by
 refine returnsInHanded_of_change_sized (C:=Tryz.checked) own started (by kernel_rfl) Tryz.func3
  (ChangeSpec.witness6 (enc:=enc) (C:=Tryz.checked) false ⟨#[],#[.string ByteArray.empty,.slice none 0 0],[]⟩ 8 (by kernel_rfl) (by kernel_rfl) (by kernel_rfl) (by kernel_rfl)) ?_
 intro W base args ds gs before hval0 hW hcnd hsz0 _
 have hsz:(DataW.weightsEach Tryz.prog (Tryz.f3.params.toList++Rows.scanFeedsSpec.plain.varTypes Tryz.prog) (ds++gs)).all (· ≤ reachBytes)=true:=hsz0
 have hval: ∀ (j:Nat) t v,Tryz.f3.params[j]? = some t→args[j]? = some v→Value.okWide Tryz.prog W .any base t v:=hval0
 have hW':=hW
 obtain⟨p,q,hA0,hV,rfl,hfz,hnd⟩:=hW
 have hA:DataW.TrodAll enc Tryz.prog W 0 (fun _=>true) true Tryz.f3.params.toList args.toList ds p:=hA0
 rw[Tryz.params3] at hA hval hsz
 obtain⟨v0,vs0,d0,ds0,p0,q0,hargs,rfl,rfl,h0,r0⟩:=trodAll_cons hA
 obtain⟨v1,vs1,d1,ds1,p1,q1,rfl,rfl,rfl,h1,r1⟩:=trodAll_cons r0
 obtain⟨rfl,rfl,rfl⟩:=trodAll_nil r1
 obtain rfl:args= #[v0,v1]:=by cases args; simp_all
 obtain⟨rfl,rfl⟩:=trodVars_none hV
 obtain⟨s0,rfl,rfl,rfl,y0⟩:=open_string Tryz.underlying9 (hval 0 9 v0 rfl rfl) h0
 have z0:s0.size≤140737488351232:=by
  have z:=sized_string hsz (j:=0) (t:=9) rfl rfl
  rw[Array.length_toList] at z
  exact z
 obtain⟨a0,rfl⟩:=Sl.bsOf_of s0
 have w0:a0.length≤140737488351232:=by rwa [Sl.bsOf_size] at z0
 have k1:=h1
 have lt1: ∀ x∈p1,x.block<W.heap.size:=by obtain⟨m,hm⟩:=k1; exact DataW.trod_lt m _ _ _ hm
 obtain⟨a1,r_1,w1⟩:=Sl.opens_arg1 Tryz.underlying22 (hval 1 22 v1 rfl rfl) (Sl.op_slice 1 1 Tryz.underlying22 (by kernel_rfl) (by kernel_rfl) (by decide) (by decide) (Sl.op_u8 Tryz.underlying5)) h1 (fun x hx=>of_decide_eq_true (List.all_eq_true.1 hsz x (Sl.weights_in 1 rfl rfl hx)))
 obtain⟨A1,c1,e1⟩:=Sl.slice_cells r_1
 injection e1 with e1
 subst e1
 clear hA0 hval0 hsz0 hsz
 refine (Sl.f_l23_ScanFeeds_spec a0 a1 A1 c1 true (Sl.pure_ScanFeeds a0 a1 w0 w1) (fun _=>False) W (fun _ h=>h) (Sl.RX.reads_all r_1)).mono fun e W' hP=> ?_
 obtain⟨v,A',Ns,rfl,⟨rfl,rfl,rfl⟩,hst⟩:=hP
 have bel:=Sl.St.below hst
 exact⟨_,rfl,_,_,_,[],_,[],hW',trodAll_mk1 (shut_bool Tryz.underlying4 _),(trodAll_cons_mk (shut_string Tryz.underlying9 y0) (trodAll_cons_mk (Below.trod laidOut (by kernel_rfl) (of_decide_eq_true (by kernel_rfl)) k1 bel lt1) trodAll_mk0)),rfl,bel.frame _,fun h=>by cases h⟩
theorem over:Rows.scanFeedsRow.holds Tryz.pinned (OpenSpec.ofChange Rows.scanFeedsSpec) :=
 OpenClaim.holds_of_wide 3 Tryz.f3 rfl rfl rfl rfl rfl rfl rfl ⟨rfl,rfl,rfl,rfl,rfl⟩ rfl rfl rfl rfl rfl (by kernel_rfl) Tryz.func3 (by kernel_rfl)
  (of_decide_eq_true (by kernel_rfl)) (by unfold Func.isWrapper; first | (rw[if_pos (by decide +kernel)]; kernel_rfl) | (rw[if_neg (by decide +kernel)]; exact⟨rfl,rfl⟩))
  (fun os started H enc _=>lifted os started H enc)
theorem proved:Rows.ScanFeedsSaid:=over
end Go.Proofs.YtahjmpipllajcaaGreat.scanFeeds
namespace Go.Proofs.YtahjmpipllajcaaGreat
theorem scanFeeds_holds:Rows.ScanFeedsSaid:=scanFeeds.proved
end Go.Proofs.YtahjmpipllajcaaGreat
