/- produceWrites_holds: part 2. -/
import Derived.Test.YtcoppaggpbfcmaaGreatK1
set_option maxRecDepth 100000
set_option maxHeartbeats 4000000
set_option linter.defProp false
namespace Go.Proofs.YtcoppaggpbfcmaaGreat.Sl
open Go.RowKit
set_option linter.unusedVariables false
set_option linter.unusedSimpArgs false
theorem C5 {α β : Type} {o : Option α} {f : α → Option β} {b : β} (h : o.bind f = some b) : ∃ a, o = some a ∧ f a = some b := Option.bind_eq_some_iff.1 h
def C6 := @decide_eq_true
def C7 := @decide_eq_false
def Dc := @Tryz.isAgg3
def Dd := @eq_false_of_ne_true
def De := @Tryz.sizeOf3
def Dj := @Tryz.sizeOf38
def Dk := @Tryz.sizeOf35
def Dm := @Tryz.runUnderlying9
def Do := @Tryz.isAgg4
def Dt := @Tryz.runUnderlying36
def Dw := @Tryz.runUnderlying38
def Dz := @Tryz.isAgg9
def DB := @Tryz.isAgg35
def DE := @Tryz.isAgg38
def DH := @Tryz.sizeOf185
def DM := @Tryz.runUnderlying35
def DP := @Tryz.sizeOf4
def DQ := @Tryz.eqGuardType35
def DT := @Tryz.sizeOf9
def D5 := @Tryz.runUnderlying107
def D7 := @Tryz.runUnderlying3
def Eb := @Tryz.runUnderlying119
def Ed := @Tryz.runUnderlying5
def Eg := @Tryz.runUnderlying185
def Eh := @Tryz.isAgg36
def Ej := @Tryz.results130
def En := @Tryz.eqGuardType185
def Er := @Tryz.runUnderlying64
def Ev := @Tryz.results145
def Ew := @Tryz.isAgg185
def ED := @Tryz.sizeOf36
def EG := @Tryz.results48
def EH := @Tryz.results50
def EO := @Tryz.results111
def ER := @Tryz.runUnderlying233
def ES := @Tryz.runUnderlying220
def ET := @Tryz.results45
def EX := @Tryz.results167
def EY := @Tryz.results107
def E0 := @Tryz.results94
def Fg := @Tryz.ntmps143
def Fj := @Tryz.runUnderlying205
def Fk := @Tryz.runUnderlying206
def Fo := @Tryz.func143
def Fp := @Tryz.results112
def Fq := @Tryz.sizeOf107
def xK:fh := [(185,0,0),(185,1,1)]
theorem aH:(xK).OK Tryz.prog:=⟨FOK.mk Eg rfl DT rfl,FOK.mk Eg rfl Dk rfl,trivial⟩
theorem qi:BOK Tryz.prog 185 #[.string ⟨#[]⟩,.bool false,.string ⟨#[]⟩] [(0,1),(1,2)]:=BOK.mk Tryz.zeroValue185 Eg (by intro w; simp)
theorem pe:SOK Tryz.prog 36 185 1 3 #[.string ⟨#[]⟩,.bool false,.string ⟨#[]⟩]:=SOK.mk Dt DH Tryz.zeroValue185 (by decide) (by kernel_rfl)
theorem qj:(Tryz.prog.info? 185).map (fun i=>(i.zero,i.size,i.bytes))=some (some (.agg #[.string ⟨#[]⟩,.bool false,.string ⟨#[]⟩]),3,40):=by kernel_rfl
def cf:List Hd→(List UInt8×Int)→Option (List UInt8×Int)
 | [],st6=>some st6
 | x11::xs,st6=>(j7 st6 x11.CJ).bind fun st16=>(fX st16 x11.Cz).bind fun st18=>cf xs st18
def fj (st:List UInt8×Int) (a1:List Hd):Option (List UInt8×Int):=(nb st (a1.length:Int)).bind fun st3=>(cf a1 st3).bind fun st21=>some st21
theorem lZ (g:Nat) (st:List UInt8×Int) (a1:List Hd) (A1:Option Addr) (c2:Nat) (r:List UInt8×Int) (h:fj st a1=some r):aA Tryz.prog 162 #[jP g,.slice A1 a1.length c2] (RX.of (ar 3 bG) [.slice A1 a1.length c2] a1) (ba g st) (fun v A' N=>v= .tuple #[]∧A'=ba g r∧N = []):=by
 refine aM Tryz.func162 Z Tryz.ntmps162 Z ?_
 intro F w hX
 unfold fj at h
 refine T.seq (T.region Z (TL.run aH [0,1] Z Z (TL.q Z .u (AW Z Dt) Z ?_)))
 obtain⟨st3,hx4,h⟩:=C5 h
 refine Bu Z .u (.fn Tryz.call160 Z) (nc g st (a1.length:Int) _ hx4) (fun _ hs=>(Src.triv _)) Z (TL.nil (X.seq (T.seq (T.region Z (TL.run aH [0] Z Z (TL.q Z .u (AW Z Dt) Z (TL.run aH [2] Z Z (TL.nil (X.seq (T.block ?_))))))))))
 obtain⟨E7,hE8,hO9⟩:=C5 h
 have hk13len:=Bm hX
 refine Bj (fun m e Rs=> ∃ (k5:Nat) (st6:List UInt8×Int),k5+m=a1.length∧e = [(0,jP g),(10,.slice A1 a1.length c2),(11,jI (a1.length:Int)),(12,jI (k5:Int))]∧Rs = [ba g st6]∧cf (a1.drop k5) st6=some E7) (a1.length) [0] ⟨0,st3,by simp,Z,Z,by rw[List.drop_zero]; exact hE8⟩ (by rfl) (by rfl) ?_
 rintro m10 _ _ ⟨k5,st6,hk13,rfl,rfl,hl12⟩
 clear hE8 h
 cases m10 with
 | zero =>
  have h:=hl12
  clear hl12
  rw[List.drop_of_length_le (by omega),cf] at h
  have hk13ge: ¬ ((k5:Int)<(a1.length:Int)):=by omega
  refine T.seq (T.region Z (TL.run aH [0] Z Z (TL.nil (X.seq (T.seq (AS Z (C7 hk13ge) ?_))))))
  obtain rfl:=C8 h
  replace h:=hO9
  clear hO9
  try dsimp only at h
  obtain rfl:=C8 h
  exact T.exit (AV (AV (Bh (B5 [0] Tryz.results162 ⟨Z,Z,Z⟩ (by rfl) (.inr Z)))))
 | succ m10 =>
  have h:=hl12
  clear hl12
  obtain⟨x11,hxx11⟩: ∃ x,a1[k5]? = some x:=⟨_,List.getElem?_eq_getElem (by omega)⟩
  rw[aX hxx11,cf] at h
  have hk13lt:(k5:Int)<(a1.length:Int):=by omega
  refine T.seq (T.region Z (TL.run aH [0] Z Z (TL.nil (X.seq (T.seq (AN Z (C6 hk13lt) ?_))))))
  obtain⟨gz14,oz14,rfl,z14cs,z14cl,z14cc,z14nf,z14r⟩:=Bb (by decide) hX hxx11
  obtain⟨z14S,z14r,z14rr⟩:=z14r
  obtain rfl:z14cs = [jS x11.CJ,.bool x11.Cz.null,jS x11.Cz.data]:=z14r
  refine T.skip (X.seq (T.seq (T.block (T.seq (T.region Z ?_)))))
  refine TL.q Z .u (AX (k:=k5) Z Z Z Dt DH (Da hxx11).1) Z ?_
  refine TL.q Z .u (Bn (us := [jS x11.CJ,.bool x11.Cz.null,jS x11.Cz.data]) 0 Z Ew DH z14nf z14cc Z Z Z) Z (TL.alloc Z .u Tryz.zeroValue185 Z (fun b15=>(A9 (cs':= #[jS x11.CJ,.bool x11.Cz.null,jS x11.Cz.data]) Z .u Z Z DH Z Z Z Z (TL.nil (X.seq (T.seq (T.region Z (TL.run aH [0,1] Z Z (TL.q Z .u (AH 0 Z Dz Z Z) Z ?_)))))))))
  obtain⟨st16,hx17,h⟩:=C5 h
  refine BC Z .u (.fn Tryz.call140 Z) (ml g st6 x11.CJ _ hx17) (fun _ hs=>(Src.triv _)) Z (TL.nil (X.seq (T.region Z (TL.run aH [0,1] Z Z (TL.q Z .u (AY (us := [.bool x11.Cz.null,jS x11.Cz.data]) 0 Z DB Dk Z Z Z) Z ?_)))))
  obtain⟨st18,hx19,h⟩:=C5 h
  exact BC Z .u (.fn Tryz.call161 Z) (iB g st16 x11.Cz _ hx19) (fun _ hs=>(Src.triv _)) Z (TL.nil (AZ (X.seq (T.region Z (TL.q Z .u (Ex.add Z Z (by omega)) Z (TL.run aH [1] Z Z (TL.nil (X.back (m':=m10) [1] (by omega) ⟨k5+1,st18,by omega,Z,Z,h⟩ (by rfl) (by rfl)))))))))
def bX (x1:Int):Nat→List Hd→List Hd→Nat→I→Option (Lp (List Hd×I) (List Hd×List Hd×Nat×I))
 | 0,_,_,_,_=>none
 | m29+1,y18,y21,k24,st25=>if (k24:Int)<x1 then ((qb st25).bind fun (x34,st35)=>(bF st35).bind fun (x37,st38)=>if (y21.length+1)*40≤140737488355328 then ((iY st38).bind fun (x44,st45)=>if x44=0 then (if -9223372036854775808≤((k24:Int)+1)∧((k24:Int)+1)≤9223372036854775807 then (bX x1 m29 y18 (y21 ++ [(⟨x34,x37⟩:Hd)]) (k24+1) st45) else none) else (some (Lp.ret ([],st45)))) else none) else (some (Lp.go (y18,y21,k24,st25)))
def bd (st:I)  : Option (List Hd×I):=(kL st).bind fun (x1,st2)=>(iY st2).bind fun (x4,st5)=>if x4=0 then (if x1<0 then ((bD st5 4).bind fun st9=>some ([],st9)) else ((pW st5).bind fun (x11,st12)=>if 0≤x11∧x11≤9223372036854775807 then (if x1>(x11 / 2) then ((bD st12 1).bind fun st16=>some ([],st16)) else ((bX x1 ((x1).toNat+1) [] [] 0 st12).bind fun e=>match e with | .ret r=>some r | .go (y49,y52,k55,st56)=>some (y52,st56))) else none)) else some ([],st5)
theorem eI (g:Nat) (st:I)  (r:List Hd×I) (h:bd st  = some r):aA Tryz.prog 167 #[jP g] .triv (InR g st) (fun v A' N=> ∃ (A57:Option Addr) (c58:Nat),v= .slice A57 r.1.length c58∧A'=InR g r.2∧N = [RdR (ar 3 bG) [.slice A57 r.1.length c58] r.1]):=by
 refine aM Tryz.func167 Z Tryz.ntmps167 Z ?_
 intro F w hX
 unfold bd at h
 refine T.seq (T.region Z (TL.run aH [0] Z Z (TL.nil (X.seq (T.seq (T.region Z ?_))))))
 obtain⟨⟨x1,st2⟩,hx3,h⟩:=C5 h
 try dsimp only at h
 refine TL.run aH [0] Z Z (Bu Z .u (.fn Tryz.call165 Z) (mw g st _ hx3) (fun _ hs=>(Src.triv _)) Z (TL.run aH [2] Z Z (TL.nil (X.seq (T.seq (T.block (T.seq (T.region Z ?_))))))))
 obtain⟨⟨x4,st5⟩,hx6,h⟩:=C5 h
 try dsimp only at h
 refine TL.run aH [0] Z Z (Bu Z .u (.fn Tryz.call21 Z) (dH g st2 _ hx6) (fun _ hs=>(Src.triv _)) Z (TL.run aH [2,3] Z Z ?_))
 rcases jF h with⟨c7,h⟩ | ⟨c7,h⟩
 ·refine TL.nil (X.seq (AS Z (ax (C6 c7)) (T.seq (T.region Z (TL.run aH [0,1,2] Z Z ?_)))))
  rcases jF h with⟨c8,h⟩ | ⟨c8,h⟩
  ·refine TL.nil (X.seq (AN Z (C6 c8) (T.seq (T.region Z ?_))))
   obtain⟨st9,hx10,h⟩:=C5 h
   refine TL.run aH [0] Z Z (Bu Z .u (.fn Tryz.call61 Z) (bi g st5 4 _ hx10) (fun _ hs=>(Src.triv _)) Z (TL.nil (X.seq (T.seq (T.region Z (TL.run aH [0] Z Z ?_))))))
   obtain rfl:=C8 h
   exact TL.nil (X.seq (T.ret (AU (AL (BH 3 bG (AJ [1,0] EX (AK Z) ⟨_,_,Z,Z,Z⟩ (by rfl) (.inl Z)))))))
  ·refine TL.nil (X.seq (AS Z (C7 c8) (T.seq (T.region Z ?_))))
   obtain⟨⟨x11,st12⟩,hx13,h⟩:=C5 h
   try dsimp only at h
   refine TL.run aH [0,1] Z Z (Bu Z .u (.fn Tryz.call82 Z) (ku g st5 _ hx13) (fun _ hs=>(Src.triv _)) Z ?_)
   replace h:=an h
   obtain⟨c14,h⟩:=h
   refine TL.q Z .u (Ex.quo Z Z (by omega) c14) Z (TL.run aH [4,5] Z Z ?_)
   rcases jF h with⟨c15,h⟩ | ⟨c15,h⟩
   ·refine TL.nil (X.seq (AN Z (C6 c15) (T.seq (T.region Z ?_))))
    obtain⟨st16,hx17,h⟩:=C5 h
    refine TL.run aH [0] Z Z (Bu Z .u (.fn Tryz.call61 Z) (bi g st12 1 _ hx17) (fun _ hs=>(Src.triv _)) Z (TL.nil (X.seq (T.seq (T.region Z (TL.run aH [0] Z Z ?_))))))
    obtain rfl:=C8 h
    exact TL.nil (X.seq (T.ret (AU (AL (BH 3 bG (AJ [1,0] EX (AK Z) ⟨_,_,Z,Z,Z⟩ (by rfl) (.inl Z)))))))
   ·refine TL.nil (X.seq (AS Z (C7 c15) (T.skip (AZ (X.seq (T.seq (T.region Z (TL.run aH [0] Z Z (TL.nil (X.seq (T.seq (T.seq (T.region Z (TL.run aH [0,1] Z Z (TL.nil (X.seq (T.block ?_)))))))))))))))))
    iterate 2 refine BX 185 3 bG ?_
    obtain⟨E26,hE27,hO28⟩:=C5 h
    refine Bj (fun m e Rs=> ∃ (y18:List Hd) (A19:Option Addr) (c20:Nat) (y21:List Hd) (A22:Option Addr) (c23:Nat) (k24:Nat) (st25:I),e = [(0,jP g),(2,.slice A19 y18.length c20),(4,.slice A22 y21.length c23),(25,jI x1),(26,jI (k24:Int))]∧Rs = [bp 185 3 bG (.slice A19 y18.length c20) y18,bp 185 3 bG (.slice A22 y21.length c23) y21,InR g st25]∧bX x1 m y18 y21 k24 st25=some E26) ((x1).toNat+1) [0,0,0] ⟨[],none,0,[],none,0,0,st12,Z,Z,by exact hE27⟩ (by rfl) (by rfl) ?_
    rintro m29 _ _ ⟨y18,A19,c20,y21,A22,c23,k24,st25,rfl,rfl,hl31⟩
    clear hE27 h
    cases m29 with
    | zero =>
     rw[bX] at hl31
     cases hl31
    | succ m29 =>
     have h:=hl31
     clear hl31
     rw[bX] at h
     refine T.seq (T.region Z (TL.run aH [0] Z Z ?_))
     rcases jF h with⟨c33,h⟩ | ⟨c33,h⟩
     ·refine TL.nil (X.seq (T.seq (AN Z (C6 c33) (T.skip (X.seq (T.seq (T.block (T.seq (T.region Z ?_)))))))))
      obtain⟨⟨x34,st35⟩,hx36,h⟩:=C5 h
      try dsimp only at h
      refine TL.run aH [0] Z Z (BU Z .u (.fn Tryz.call163 Z) (qc g st25 _ hx36) (fun _ hs=>(Src.triv _)) Z (TL.run aH [2] Z Z (TL.nil (X.seq (T.seq (T.region Z ?_))))))
      obtain⟨⟨x37,st38⟩,hx39,h⟩:=C5 h
      try dsimp only at h
      refine TL.run aH [0,1,2] Z Z (BU Z .u (.fn Tryz.call166 Z) (dx g st35 _ hx39) (fun _ hs=>(Src.triv _)) Z ?_)
      refine TL.q Z .u (Bg (cells:= #[jS x34,.bool x37.null,jS x37.data]) qi Z (by kernel_rfl)) Z ?_
      refine BT (cells:= #[jS x34,.bool x37.null,jS x37.data]) Z .u pe Z (by kernel_rfl) Z (fun b40=> ?_)
      replace h:=an h
      obtain⟨c41,h⟩:=h
      refine TL.app1 1 Z .u (us := [jS x34,.bool x37.null,jS x37.data]) (u:=(⟨x34,x37⟩:Hd)) (l:=y21) (E:=bG) Tryz.underlying36 qj Z (by decide) Z Z Z Z Z Z (fun _ _=>Z) (by have hq:=c41; omega) (by have hq:=c41; omega) Z (fun A42 c43=> ?_)
      refine Bp [0,0,0] Z (TL.run aH [7] Z Z (TL.nil (X.seq (T.seq (T.region Z ?_)))))
      obtain⟨⟨x44,st45⟩,hx46,h⟩:=C5 h
      try dsimp only at h
      refine TL.run aH [0] Z Z (BU Z .u (.fn Tryz.call21 Z) (dH g st38 _ hx46) (fun _ hs=>(Src.triv _)) Z (TL.run aH [2] Z Z ?_))
      rcases jF h with⟨c47,h⟩ | ⟨c47,h⟩
      ·refine TL.nil (X.seq (AS Z (ax (C6 c47)) ?_))
       replace h:=an h
       obtain⟨c48,h⟩:=h
       exact T.skip (AZ (X.seq (T.region Z (TL.q Z .u (Ex.add Z Z c48) Z (TL.run aH [1] Z Z (TL.nil (X.back (m':=m29) [0,0,0] (by omega) ⟨y18,A19,c20,(y21 ++ [(⟨x34,x37⟩:Hd)]),A42,c43,k24+1,st45,Z,Z,h⟩ (by rfl) (by rfl))))))))
      ·refine TL.nil (X.seq (AN Z (aF (C7 c47)) (T.seq (T.region Z (TL.run aH [0] Z Z ?_)))))
       obtain rfl:=C8 h
       replace h:=hO28
       clear hO28
       try dsimp only at h
       obtain rfl:=C8 h
       exact TL.nil (X.seq (T.ret (AU (AL (AL (AU (AL (BH 3 bG (AJ [3,0] EX (AK Z) ⟨_,_,Z,Z,Z⟩ (by rfl) (.inl Z))))))))))
     ·refine TL.nil (X.seq (T.seq (AS Z (C7 c33) ?_)))
      obtain rfl:=C8 h
      replace h:=hO28
      clear hO28
      try dsimp only at h
      refine T.exit (AV (AV (Bh (X.seq (T.seq (T.region Z (TL.run aH [0,1] Z Z ?_)))))))
      obtain rfl:=C8 h
      exact TL.nil (X.seq (T.ret (X.shut (by decide) 1 Z (Bv [0,0,0] Z (AJ [2,1] EX (AK Z) ⟨_,_,Z,Z,Z⟩ (by rfl) (.inl Z))))))
 ·refine TL.nil (X.seq (AN Z (aF (C7 c7)) (T.seq (T.region Z (TL.run aH [0] Z Z ?_)))))
  obtain rfl:=C8 h
  exact TL.nil (X.seq (T.ret (AU (AL (BH 3 bG (AJ [1,0] EX (AK Z) ⟨_,_,Z,Z,Z⟩ (by rfl) (.inl Z)))))))
def xL:fh := [(38,0,0),(38,1,1),(38,2,2),(38,3,4),(38,4,6),(185,1,1)]
theorem ak:(xL).OK Tryz.prog:=⟨FOK.mk Dw rfl De rfl,FOK.mk Dw rfl De rfl,FOK.mk Dw rfl Dk rfl,FOK.mk Dw rfl Dk rfl,FOK.mk Dw rfl ED rfl,FOK.mk Eg rfl Dk rfl,trivial⟩
theorem vE:Tryz.prog.follows .mixedOrders=true:=by kernel_rfl
theorem eu:dm Tryz.prog 2 35 [.bool,.string] true:=(dm.struct DB Dk rfl Tryz.underlying35 Tryz.stoodInHeld35 ⟨by decide,rfl,[.bool],[.string],false,rfl,(Bq Do DP Tryz.underlying4),⟨by decide,rfl,[.string],[],false,rfl,(Bq Dz DT Tryz.underlying9),rfl⟩⟩)
theorem fT:dm Tryz.prog 3 185 [.string,.bool,.string] true:=(dm.struct Ew DH rfl Tryz.underlying185 Tryz.stoodInHeld185 ⟨by decide,rfl,[.string],[.bool,.string],false,rfl,((Bq Dz DT Tryz.underlying9).mono (by decide)),⟨by decide,rfl,[.bool,.string],[],true,rfl,(dm.struct DB Dk rfl Tryz.underlying35 Tryz.stoodInHeld35 ⟨by decide,rfl,[.bool],[.string],false,rfl,(Bq Do DP Tryz.underlying4),⟨by decide,rfl,[.string],[],false,rfl,(Bq Dz DT Tryz.underlying9),rfl⟩⟩),rfl⟩⟩)
theorem ei:BOK Tryz.prog 38 #[.int .i64 0,.int .i64 0,.bool false,.string ⟨#[]⟩,.bool false,.string ⟨#[]⟩,.slice none 0 0] [(0,1),(1,1),(2,2),(4,2),(6,1)]:=BOK.mk Tryz.zeroValue38 Dw (by intro w; simp)
theorem nU:SOK Tryz.prog 233 35 1 2 #[.bool false,.string ⟨#[]⟩]:=SOK.mk ER Dk Tryz.zeroValue35 (by decide) (by kernel_rfl)
theorem nV:SOK Tryz.prog 233 35 2 2 #[.bool false,.string ⟨#[]⟩,.bool false,.string ⟨#[]⟩]:=SOK.mk ER Dk Tryz.zeroValue35 (by decide) (by kernel_rfl)
def cC:List Bl→Bool→Option (Lp Bool Bool)
 | [],y3=>some (Lp.go y3)
 | x9::xs,y3=>(nQ x9).bind fun x14=>if x14=true then (cC xs y3) else some (Lp.ret false)
def dS (a0:List Bl):Option (Bool):=(cC a0 false).bind fun e=>match e with | .ret r=>some r | .go y17=>some true
theorem hO (a0:List Bl) (A1:Option Addr) (c2:Nat) (r:Bool) (h:dS a0=some r):aA Tryz.prog 138 #[.slice A1 a0.length c2] (RX.of (ar 2 tP) [.slice A1 a0.length c2] a0) (aD) (fun v A' N=>v= .bool r∧A'=aD∧N = []):=by
 refine aM Tryz.func138 Z Tryz.ntmps138 Z ?_
 intro F w hX
 unfold dS at h
 refine T.seq (T.region Z (TL.run ak [0] Z Z (TL.nil (X.seq (T.seq (T.seq (T.region Z (TL.run ak [0] Z Z (TL.q Z .u (AW Z ER) Z (TL.run ak [2] Z Z (TL.nil (X.seq (T.block ?_)))))))))))))
 obtain⟨E5,hE6,hO7⟩:=C5 h
 have hk11len:=Bm hX
 refine Bj (fun m e Rs=> ∃ (y3:Bool) (k4:Nat),k4+m=a0.length∧e = [(2,.bool y3),(5,.slice A1 a0.length c2),(6,jI (a0.length:Int)),(7,jI (k4:Int))]∧Rs = [aD]∧cC (a0.drop k4) y3=some E5) (a0.length) [0] ⟨false,0,by simp,Z,Z,by rw[List.drop_zero]; exact hE6⟩ (by rfl) (by rfl) ?_
 rintro m8 _ _ ⟨y3,k4,hk11,rfl,rfl,hl10⟩
 clear hE6 h
 cases m8 with
 | zero =>
  have h:=hl10
  clear hl10
  rw[List.drop_of_length_le (by omega),cC] at h
  have hk11ge: ¬ ((k4:Int)<(a0.length:Int)):=by omega
  refine T.seq (T.region Z (TL.run ak [0] Z Z (TL.nil (X.seq (T.seq (AS Z (C7 hk11ge) ?_))))))
  obtain rfl:=C8 h
  replace h:=hO7
  clear hO7
  try dsimp only at h
  refine T.exit (AV (AV (Bh (X.seq (T.seq (T.region Z (TL.run ak [0] Z Z ?_)))))))
  obtain rfl:=C8 h
  exact TL.nil (X.seq (T.ret (AJ [0] Tryz.results138 (AK Z) ⟨Z,Z,Z⟩ (by rfl) (.inl Z))))
 | succ m8 =>
  have h:=hl10
  clear hl10
  obtain⟨x9,hxx9⟩: ∃ x,a0[k4]? = some x:=⟨_,List.getElem?_eq_getElem (by omega)⟩
  rw[aX hxx9,cC] at h
  have hk11lt:(k4:Int)<(a0.length:Int):=by omega
  refine T.seq (T.region Z (TL.run ak [0] Z Z (TL.nil (X.seq (T.seq (AN Z (C6 hk11lt) ?_))))))
  obtain⟨gz12,oz12,rfl,z12cs,z12cl,z12cc,z12nf,z12r⟩:=Bb (by decide) hX hxx9
  obtain⟨z12S,z12r,z12rr⟩:=z12r
  obtain rfl:z12cs = [.bool x9.null,jS x9.data]:=z12r
  refine T.skip (X.seq (T.seq (T.block (T.seq (T.region Z ?_)))))
  refine TL.q Z .u (AX (k:=k4) Z Z Z ER Dk (Da hxx9).1) Z ?_
  refine TL.q Z .u (Bn (us := [.bool x9.null,jS x9.data]) 0 Z DB Dk z12nf z12cc Z Z Z) Z (TL.alloc Z .u Tryz.zeroValue35 Z (fun b13=>(A9 (cs':= #[.bool x9.null,jS x9.data]) Z .u Z Z Dk Z Z Z Z (TL.nil (X.seq (T.seq (T.region Z (TL.q Z .u (AY (us := [.bool x9.null,jS x9.data]) 0 Z DB Dk Z Z Z) Z ?_))))))))
  obtain⟨x14,hx15,h⟩:=C5 h
  refine Bc Z .u (.fn Tryz.call76 Z) (oX x9 _ hx15) (fun _ hs=>(AQ _ _)) Z (TL.run ak [2] Z Z ?_)
  rcases jF h with⟨c16,h⟩ | ⟨c16,h⟩
  ·exact TL.nil (X.seq (AS Z (ax c16) (T.skip (AZ (X.seq (T.region Z (TL.q Z .u (Ex.add Z Z (by omega)) Z (TL.run ak [1] Z Z (TL.nil (X.back (m':=m8) [1] (by omega) ⟨y3,k4+1,by omega,Z,Z,h⟩ (by rfl) (by rfl)))))))))))
  ·replace c16:=Dd c16
   refine TL.nil (X.seq (AN Z (aF c16) (T.seq (T.region Z (TL.run ak [0] Z Z ?_)))))
   obtain rfl:=C8 h
   replace h:=hO7
   clear hO7
   try dsimp only at h
   obtain rfl:=C8 h
   exact TL.nil (X.seq (T.ret (AU (AL (AL (AU (AL (AJ [1] Tryz.results138 (AK Z) ⟨Z,Z,Z⟩ (by rfl) (.inl Z)))))))))
def cI:List Hd→Int→Option (Lp Int Int)
 | [],y12=>some (Lp.go y12)
 | x18::xs,y12=>(dS [x18.Cz]).bind fun x24=>if x24=true then (cI xs y12) else some (Lp.ret 4)
def dL (a0:Rec):Option (Int):=if a0.CU<0 then some 11 else ((j6 a0.CU 4).bind fun x5=>if x5=true then ((dS [a0.CJ,a0.Cz]).bind fun x9=>if x9=true then ((cI a0.CF 0).bind fun e=>match e with | .ret r=>some r | .go y27=>some 0) else some 4) else some 11)
theorem fI (a0:Rec) (A1:Option Addr) (c2:Nat) (r:Int) (h:dL a0=some r):aA Tryz.prog 94 #[.agg #[jI a0.CY,jI a0.CU,.bool a0.CJ.null,jS a0.CJ.data,.bool a0.Cz.null,jS a0.Cz.data,.slice A1 a0.CF.length c2]] (RX.of (ar 3 bG) [.slice A1 a0.CF.length c2] a0.CF) (aD) (fun v A' N=>v=jI r∧A'=aD∧N = []):=by
 refine aM Tryz.func94 Z Tryz.ntmps94 Z ?_
 intro F w hX
 unfold dL at h
 refine T.seq (T.region Z (TL.box Z .u Z Z (fun b3=>(TL.run ak [1] Z Z (TL.nil (X.seq (T.seq (T.seq (T.region Z (TL.run ak [0] Z Z (TL.q Z .u (AH 0 Z Dc Z Z) Z ?_)))))))))))
 rcases jF h with⟨c4,h⟩ | ⟨c4,h⟩
 ·refine TL.run ak [2,3] Z Z ?_
  iterate 4 refine AM Z (.gn Z Z (C6 c4)) Z ?_
  refine TL.q Z .u (AP Z (C6 c4) Z) Z (TL.nil (X.seq (AN Z Z (T.seq (T.region Z (TL.run ak [0] Z Z ?_))))))
  obtain rfl:=C8 h
  exact TL.nil (X.seq (T.ret (AL (AJ [1] E0 (AK Z) ⟨Z,Z,Z⟩ (by rfl) (.inl Z)))))
 ·refine TL.run ak [2,3] Z Z (TL.q Z (.g Z Z (C7 c4)) (AO ak Z) Z (TL.q Z (.g Z Z (C7 c4)) (AH 0 Z Dc Z Z) Z ?_))
  obtain⟨x5,hx6,h⟩:=C5 h
  refine Bc Z (.g Z Z (C7 c4)) (.fn Tryz.call78 Z) (BA (fun w=>eH a0.CU 4 _ hx6 w)) (fun _ _=>AQ _ _) Z (TL.q Z (.g Z Z (C7 c4)) (AO ak Z) Z (TL.q Z .u (AR Z (C7 c4) Z) Z ?_))
  rcases jF h with⟨c7,h⟩ | ⟨c7,h⟩
  ·refine TL.nil (X.seq (AS Z (ax c7) (T.skip (X.seq (T.seq (T.seq (T.region Z (TL.run ak [0] Z Z (TL.q Z .u (AY (us := [.bool a0.CJ.null,jS a0.CJ.data]) 0 Z DB Dk Z Z Z) Z (TL.run ak [2] Z Z (TL.q Z .u (AY (us := [.bool a0.Cz.null,jS a0.Cz.data]) 0 Z DB Dk Z Z Z) Z ?_)))))))))))
   refine BT (cells:= #[.bool a0.CJ.null,jS a0.CJ.data,.bool a0.Cz.null,jS a0.Cz.data]) Z .u nV Z (by kernel_rfl) Z (fun b8=> ?_)
   refine Ct (us := [.bool a0.CJ.null,jS a0.CJ.data,.bool a0.Cz.null,jS a0.Cz.data]) (xs := [a0.CJ,a0.Cz]) (E:=tP) (z:=2) Z (Nat.le_of_ble_eq_true Z) (fun _=>⟨Z,Z,⟨Z,Z,Z⟩⟩) ?_
   obtain⟨x9,hx10,h⟩:=C5 h
   refine Bc Z .u (.fn Tryz.call138 Z) (hO [a0.CJ,a0.Cz] _ _ _ hx10) (fun _ hs=>(SrcE.res 0 hs Z (fun w G h=>bA (by decide) w G h))) Z (TL.run ak [6] Z Z ?_)
   rcases jF h with⟨c11,h⟩ | ⟨c11,h⟩
   ·refine TL.nil (X.seq (AS Z (ax c11) (T.skip (X.seq (T.seq (T.seq (T.region Z (TL.run ak [0] Z Z (TL.q Z .u (AH 1 Z Eh Z Z) Z (TL.q Z .u (AW Z Dt) Z (TL.run ak [3] Z Z (TL.nil (X.seq (T.block ?_))))))))))))))
    obtain⟨E14,hE15,hO16⟩:=C5 h
    have hk20len:=Bm hX
    refine Bj (fun m e Rs=> ∃ (y12:Int) (k13:Nat),k13+m=a0.CF.length∧e = [(2,jI y12),(22,.slice A1 a0.CF.length c2),(23,jI (a0.CF.length:Int)),(24,jI (k13:Int))]∧Rs = [bp 35 2 tP (.slice (some ⟨b8,0,none⟩) 2 2) [a0.CJ,a0.Cz],aC b3 38 #[jI a0.CY,jI a0.CU,.bool a0.CJ.null,jS a0.CJ.data,.bool a0.Cz.null,jS a0.Cz.data,.slice A1 a0.CF.length c2],aD]∧cI (a0.CF.drop k13) y12=some E14) (a0.CF.length) [0,0,0] ⟨0,0,by simp,Z,Z,by rw[List.drop_zero]; exact hE15⟩ (by rfl) (by rfl) ?_
    rintro m17 _ _ ⟨y12,k13,hk20,rfl,rfl,hl19⟩
    clear hE15 h
    cases m17 with
    | zero =>
     have h:=hl19
     clear hl19
     rw[List.drop_of_length_le (by omega),cI] at h
     have hk20ge: ¬ ((k13:Int)<(a0.CF.length:Int)):=by omega
     refine T.seq (T.region Z (TL.run ak [0] Z Z (TL.nil (X.seq (T.seq (AS Z (C7 hk20ge) ?_))))))
     obtain rfl:=C8 h
     replace h:=hO16
     clear hO16
     try dsimp only at h
     refine T.exit (AV (AV (Bh (X.seq (T.seq (T.region Z (TL.run ak [0] Z Z ?_)))))))
     obtain rfl:=C8 h
     exact TL.nil (X.seq (T.ret (AJ [2] E0 (AK Z) ⟨Z,Z,Z⟩ (by rfl) (.inl Z))))
    | succ m17 =>
     have h:=hl19
     clear hl19
     obtain⟨x18,hxx18⟩: ∃ x,a0.CF[k13]? = some x:=⟨_,List.getElem?_eq_getElem (by omega)⟩
     rw[aX hxx18,cI] at h
     have hk20lt:(k13:Int)<(a0.CF.length:Int):=by omega
     refine T.seq (T.region Z (TL.run ak [0] Z Z (TL.nil (X.seq (T.seq (AN Z (C6 hk20lt) ?_))))))
     obtain⟨gz21,oz21,rfl,z21cs,z21cl,z21cc,z21nf,z21r⟩:=Bb (by decide) hX hxx18
     obtain⟨z21S,z21r,z21rr⟩:=z21r
     obtain rfl:z21cs = [jS x18.CJ,.bool x18.Cz.null,jS x18.Cz.data]:=z21r
     refine T.skip (X.seq (T.seq (T.block (T.seq (T.region Z ?_)))))
     refine TL.q Z .u (AX (k:=k13) Z Z Z Dt DH (Da hxx18).1) Z ?_
     refine TL.q Z .u (Bn (us := [jS x18.CJ,.bool x18.Cz.null,jS x18.Cz.data]) 0 Z Ew DH z21nf z21cc Z Z Z) Z (TL.alloc Z .u Tryz.zeroValue185 Z (fun b22=>(A9 (cs':= #[jS x18.CJ,.bool x18.Cz.null,jS x18.Cz.data]) Z .u Z Z DH Z Z Z Z (TL.nil (X.seq (T.seq (T.region Z (TL.run ak [0] Z Z (TL.q Z .u (AY (us := [.bool x18.Cz.null,jS x18.Cz.data]) 0 Z DB Dk Z Z Z) Z (BT (cells:= #[.bool x18.Cz.null,jS x18.Cz.data]) Z .u nU Z (by rfl) Z (fun b23=>(Ct (us := [.bool x18.Cz.null,jS x18.Cz.data]) (xs := [x18.Cz]) (E:=tP) (z:=2) Z (Nat.le_of_ble_eq_true Z) (fun _=>⟨Z,Z,Z⟩) ?_))))))))))))
     obtain⟨x24,hx25,h⟩:=C5 h
     refine Bc Z .u (.fn Tryz.call138 Z) (hO [x18.Cz] _ _ _ hx25) (fun _ hs=>(SrcE.res 0 hs Z (fun w G h=>bA (by decide) w G h))) Z (TL.run ak [4] Z Z ?_)
     rcases jF h with⟨c26,h⟩ | ⟨c26,h⟩
     ·exact TL.nil (X.seq (AS Z (ax c26) (T.skip (AZ (X.seq (T.region Z (TL.q Z .u (Ex.add Z Z (by omega)) Z (TL.run ak [1] Z Z (TL.nil (X.back (m':=m17) [2,2,2] (by omega) ⟨y12,k13+1,by omega,Z,Z,h⟩ (by rfl) (by rfl)))))))))))
     ·replace c26:=Dd c26
      refine TL.nil (X.seq (AN Z (aF c26) (T.seq (T.region Z (TL.run ak [0] Z Z ?_)))))
      obtain rfl:=C8 h
      replace h:=hO16
      clear hO16
      try dsimp only at h
      obtain rfl:=C8 h
      exact TL.nil (X.seq (T.ret (AU (AL (AL (AU (AL (AJ [4] E0 (AK Z) ⟨Z,Z,Z⟩ (by rfl) (.inl Z)))))))))
   ·replace c11:=Dd c11
    refine TL.nil (X.seq (AN Z (aF c11) (T.seq (T.region Z (TL.run ak [0] Z Z ?_)))))
    obtain rfl:=C8 h
    exact TL.nil (X.seq (T.ret (AL (AJ [2] E0 (AK Z) ⟨Z,Z,Z⟩ (by rfl) (.inl Z)))))
  ·replace c7:=Dd c7
   refine TL.nil (X.seq (AN Z (aF c7) (T.seq (T.region Z (TL.run ak [0] Z Z ?_)))))
   obtain rfl:=C8 h
   exact TL.nil (X.seq (T.ret (AL (AJ [1] E0 (AK Z) ⟨Z,Z,Z⟩ (by rfl) (.inl Z)))))
def fN (a0:Rec):Option (List UInt8×Int):=(sN ([],0) 0).bind fun st5=>(na st5 a0.CY).bind fun st7=>(nb st7 a0.CU).bind fun st9=>(fX st9 a0.CJ).bind fun st11=>(fX st11 a0.Cz).bind fun st13=>(fj st13 a0.CF).bind fun st15=>(jJ st15).bind fun (x17,x18,st19)=>some (x17,x18)
theorem my (a0:Rec) (A1:Option Addr) (c2:Nat) (r:List UInt8×Int) (h:fN a0=some r):aA Tryz.prog 139 #[.agg #[jI a0.CY,jI a0.CU,.bool a0.CJ.null,jS a0.CJ.data,.bool a0.Cz.null,jS a0.Cz.data,.slice A1 a0.CF.length c2]] (RX.of (ar 3 bG) [.slice A1 a0.CF.length c2] a0.CF) (aD) (fun v A' N=>v= .tuple #[jS r.1,jI r.2]∧A'=aD∧N = []):=by
 refine aM Tryz.func139 Z Tryz.ntmps139 Z ?_
 intro F w hX
 unfold fN at h
 refine T.seq (T.region Z (TL.box Z .u Z Z (fun b3=>(TL.run ak [1,2] Z Z (TL.nil (X.seq (T.seq (T.region Z (Ce Z .u Tryz.zeroValue66 Z (fun b4=> ?_))))))))))
 obtain⟨st5,hx6,h⟩:=C5 h
 refine TL.nil (X.seq (T.seq (T.region Z (Bu Z .u (.fn Tryz.call126 Z) (tU b4 ([],0) 0 _ hx6) (fun _ hs=>(Src.triv _)) Z (TL.nil (X.seq (T.seq (T.region Z (TL.run ak [0] Z Z (TL.q Z .u (AH 1 Z Dc Z Z) Z ?_))))))))))
 obtain⟨st7,hx8,h⟩:=C5 h
 refine Bu Z .u (.fn Tryz.call159 Z) (rq b4 st5 a0.CY _ hx8) (fun _ hs=>(Src.triv _)) Z (TL.nil (X.seq (T.seq (T.region Z (TL.run ak [0] Z Z (TL.q Z .u (AH 1 Z Dc Z Z) Z ?_))))))
 obtain⟨st9,hx10,h⟩:=C5 h
 refine Bu Z .u (.fn Tryz.call160 Z) (nc b4 st7 a0.CU _ hx10) (fun _ hs=>(Src.triv _)) Z (TL.nil (X.seq (T.seq (T.region Z (TL.run ak [0] Z Z (TL.q Z .u (AY (us := [.bool a0.CJ.null,jS a0.CJ.data]) 1 Z DB Dk Z Z Z) Z ?_))))))
 obtain⟨st11,hx12,h⟩:=C5 h
 refine Bu Z .u (.fn Tryz.call161 Z) (iB b4 st9 a0.CJ _ hx12) (fun _ hs=>(Src.triv _)) Z (TL.nil (X.seq (T.seq (T.region Z (TL.run ak [0] Z Z (TL.q Z .u (AY (us := [.bool a0.Cz.null,jS a0.Cz.data]) 1 Z DB Dk Z Z Z) Z ?_))))))
 obtain⟨st13,hx14,h⟩:=C5 h
 refine Bu Z .u (.fn Tryz.call161 Z) (iB b4 st11 a0.Cz _ hx14) (fun _ hs=>(Src.triv _)) Z (TL.nil (X.seq (T.seq (T.region Z (TL.run ak [0] Z Z (TL.q Z .u (AH 1 Z Eh Z Z) Z ?_))))))
 obtain⟨st15,hx16,h⟩:=C5 h
 refine Bu Z .u (.fn Tryz.call162 Z) (lZ b4 st13 a0.CF _ _ _ hx16) (fun _ hs=>(Src.old hs hX)) Z ?_
 obtain⟨⟨x17,x18,st19⟩,hx20,h⟩:=C5 h
 try dsimp only at h
 refine TL.nil (X.seq (T.seq (T.region Z (Bu Z .u (.fn Tryz.call28 Z) (fe b4 st15 _ hx20) (fun _ hs=>(Src.triv _)) Z (TL.run ak [1,2,3,4] Z Z ?_)))))
 obtain rfl:=C8 h
 exact TL.nil (X.seq (T.ret (Bi [2] Tryz.results139 (AK Z) (AK Z) ⟨Z,Z,Z⟩ (by rfl) (.inl Z))))
def fk (st:List UInt8×Int) (a1:Rec):Option (List UInt8×Int):=(dL a1).bind fun x4=>if x4=0 then ((fN a1).bind fun (x7,x8)=>if x8=0 then ((j7 st x7).bind fun st11=>some st11) else ((jH st x8).bind fun st13=>some st13)) else ((jH st x4).bind fun st15=>some st15)
theorem l6 (g:Nat) (st:List UInt8×Int) (a1:Rec) (A1:Option Addr) (c2:Nat) (r:List UInt8×Int) (h:fk st a1=some r):aA Tryz.prog 96 #[jP g,.agg #[jI a1.CY,jI a1.CU,.bool a1.CJ.null,jS a1.CJ.data,.bool a1.Cz.null,jS a1.Cz.data,.slice A1 a1.CF.length c2]] (RX.of (ar 3 bG) [.slice A1 a1.CF.length c2] a1.CF) (ba g st) (fun v A' N=>v= .tuple #[]∧A'=ba g r∧N = []):=by
 refine aM Tryz.func96 Z Tryz.ntmps96 Z ?_
 intro F w hX
 unfold fk at h
 refine T.seq (T.region Z (TL.box Z .u Z Z (fun b3=>(TL.nil (X.seq (T.seq (T.seq (T.region Z (TL.q Z .u (AY (us := [jI a1.CY,jI a1.CU,.bool a1.CJ.null,jS a1.CJ.data,.bool a1.Cz.null,jS a1.Cz.data,.slice A1 a1.CF.length c2]) 0 Z DE Dj Z Z Z) Z ?_)))))))))
 obtain⟨x4,hx5,h⟩:=C5 h
 refine Bc Z .u (.fn Tryz.call94 Z) (fI a1 _ _ _ hx5) (fun _ hs=>(Ba hs hX)) Z (TL.run ak [2] Z Z (TL.nil (X.seq (T.seq (T.region Z (TL.run ak [0,1] Z Z ?_))))))
 rcases jF h with⟨c6,h⟩ | ⟨c6,h⟩
 ·refine TL.nil (X.seq (AS Z (ax (C6 c6)) (T.skip (X.seq (T.seq (T.region Z (TL.q Z .u (AY (us := [jI a1.CY,jI a1.CU,.bool a1.CJ.null,jS a1.CJ.data,.bool a1.Cz.null,jS a1.Cz.data,.slice A1 a1.CF.length c2]) 0 Z DE Dj Z Z Z) Z ?_)))))))
  obtain⟨⟨x7,x8⟩,hx9,h⟩:=C5 h
  try dsimp only at h
  refine Bc Z .u (.fn Tryz.call139 Z) (my a1 _ _ _ hx9) (fun _ hs=>(Ba hs hX)) Z (TL.run ak [2,3,4,5,6] Z Z (TL.nil (X.seq (T.seq (T.seq (T.region Z (TL.run ak [0,1] Z Z ?_)))))))
  rcases jF h with⟨c10,h⟩ | ⟨c10,h⟩
  ·refine TL.nil (X.seq (AS Z (ax (C6 c10)) (T.skip (X.seq (T.region Z ?_)))))
   obtain⟨st11,hx12,h⟩:=C5 h
   refine TL.run ak [0,1] Z Z (BC Z .u (.fn Tryz.call140 Z) (ml g st x7 _ hx12) (fun _ hs=>(Src.triv _)) Z ?_)
   obtain rfl:=C8 h
   exact TL.nil (B5 [1] Tryz.results96 ⟨Z,Z,Z⟩ (by rfl) (.inr Z))
  ·refine TL.nil (X.seq (AN Z (aF (C7 c10)) (T.seq (T.region Z ?_))))
   obtain⟨st13,hx14,h⟩:=C5 h
   refine TL.run ak [0,1] Z Z (BC Z .u (.fn Tryz.call69 Z) (g9 g st x8 _ hx14) (fun _ hs=>(Src.triv _)) Z ?_)
   obtain rfl:=C8 h
   exact TL.nil (X.seq (T.ret (AL (B5 [1] Tryz.results96 ⟨Z,Z,Z⟩ (by rfl) (.inl Z)))))
 ·refine TL.nil (X.seq (AN Z (aF (C7 c6)) (T.seq (T.region Z ?_))))
  obtain⟨st15,hx16,h⟩:=C5 h
  refine TL.run ak [0,1] Z Z (BC Z .u (.fn Tryz.call69 Z) (g9 g st x4 _ hx16) (fun _ hs=>(Src.triv _)) Z ?_)
  obtain rfl:=C8 h
  exact TL.nil (X.seq (T.ret (AL (B5 [1] Tryz.results96 ⟨Z,Z,Z⟩ (by rfl) (.inl Z)))))
def eW (st:I)  : Option (Rec×I):=(qb st).bind fun (x2,st3)=>(iY st3).bind fun (x5,st6)=>if x5=0 then ((rp x2).bind fun st9=>(fM st9 1).bind fun (x12,st13)=>if x12=0 then ((iZ st13).bind fun (x16,st17)=>(kL st17).bind fun (x19,st20)=>if x19<0 then ((bD st20 11).bind fun st24=>(bF st24).bind fun (x26,st27)=>(bF st27).bind fun (x29,st30)=>(bd st30).bind fun (x32,st35)=>(du st35).bind fun (x37,st38)=>if x37=0 then (some ((⟨x16,x19,x26,x29,x32⟩:Rec),st6)) else ((bD st6 x37).bind fun st41=>some ((⟨0,0,(⟨false,[]⟩:Bl),(⟨false,[]⟩:Bl),[]⟩:Rec),st41))) else ((bF st20).bind fun (x43,st44)=>(bF st44).bind fun (x46,st47)=>(bd st47).bind fun (x49,st52)=>(du st52).bind fun (x54,st55)=>if x54=0 then (some ((⟨x16,x19,x43,x46,x49⟩:Rec),st6)) else ((bD st6 x54).bind fun st58=>some ((⟨0,0,(⟨false,[]⟩:Bl),(⟨false,[]⟩:Bl),[]⟩:Rec),st58)))) else ((bD st13 8).bind fun st60=>(iZ st60).bind fun (x62,st63)=>(kL st63).bind fun (x65,st66)=>if x65<0 then ((bD st66 11).bind fun st70=>(bF st70).bind fun (x72,st73)=>(bF st73).bind fun (x75,st76)=>(bd st76).bind fun (x78,st81)=>(du st81).bind fun (x83,st84)=>if x83=0 then (some ((⟨x62,x65,x72,x75,x78⟩:Rec),st6)) else ((bD st6 x83).bind fun st87=>some ((⟨0,0,(⟨false,[]⟩:Bl),(⟨false,[]⟩:Bl),[]⟩:Rec),st87))) else ((bF st66).bind fun (x89,st90)=>(bF st90).bind fun (x92,st93)=>(bd st93).bind fun (x95,st98)=>(du st98).bind fun (x100,st101)=>if x100=0 then (some ((⟨x62,x65,x89,x92,x95⟩:Rec),st6)) else ((bD st6 x100).bind fun st104=>some ((⟨0,0,(⟨false,[]⟩:Bl),(⟨false,[]⟩:Bl),[]⟩:Rec),st104))))) else (some ((⟨0,0,(⟨false,[]⟩:Bl),(⟨false,[]⟩:Bl),[]⟩:Rec),st6))
theorem mz (g:Nat) (st:I)  (r:Rec×I) (h:eW st  = some r):aA Tryz.prog 145 #[jP g] .triv (InR g st) (fun v A' N=> ∃ (A106:Option Addr) (c107:Nat),v= .agg #[jI r.1.CY,jI r.1.CU,.bool r.1.CJ.null,jS r.1.CJ.data,.bool r.1.Cz.null,jS r.1.Cz.data,.slice A106 r.1.CF.length c107]∧A'=InR g r.2∧N = [RdR (ar 3 bG) [.slice A106 r.1.CF.length c107] r.1.CF]):=by
 refine aM Tryz.func145 Z Tryz.ntmps145 Z ?_
 intro F w hX
 unfold eW at h
 refine T.seq (T.region Z (TL.alloc Z .u Tryz.zeroValue38 Z (fun b1=>(TL.nil (X.seq (T.seq (T.region Z ?_)))))))
 obtain⟨⟨x2,st3⟩,hx4,h⟩:=C5 h
 try dsimp only at h
 refine TL.run ak [0] Z Z (BC Z .u (.fn Tryz.call163 Z) (qc g st _ hx4) (fun _ hs=>(Src.triv _)) Z (TL.run ak [2] Z Z (TL.nil (X.seq (T.seq (T.seq (T.region Z ?_)))))))
 obtain⟨⟨x5,st6⟩,hx7,h⟩:=C5 h
 try dsimp only at h
 refine TL.run ak [0] Z Z (BC Z .u (.fn Tryz.call21 Z) (dH g st3 _ hx7) (fun _ hs=>(Src.triv _)) Z (TL.run ak [2] Z Z ?_))
 rcases jF h with⟨c8,h⟩ | ⟨c8,h⟩
 ·refine TL.nil (X.seq (AS Z (ax (C6 c8)) (T.skip (X.seq (T.seq (T.region Z ?_))))))
  obtain⟨st9,hx10,h⟩:=C5 h
  refine TL.run ak [0] Z Z (B0 Z .u (.fn Tryz.call18 Z) (iN x2 _ hx10) (fun _ hs=>(AQ _ _)) Z ?_)
  rintro _ _ _ ⟨b11,rfl,rfl,rfl⟩
  refine Bp [0,0,0] Z (TL.run ak [2] Z Z (TL.nil (X.seq (T.seq (T.seq (T.region Z ?_))))))
  obtain⟨⟨x12,st13⟩,hx14,h⟩:=C5 h
  try dsimp only at h
  refine TL.run ak [0] Z Z (Bu Z .u (.fn Tryz.call57 Z) (bR b11 st9 1 _ hx14) (fun _ hs=>(Src.triv _)) Z (TL.run ak [2] Z Z ?_))
  rcases jF h with⟨c15,h⟩ | ⟨c15,h⟩
  ·refine TL.nil (X.seq (AS Z (ax (C6 c15)) (T.skip (X.seq (T.seq (T.region Z ?_))))))
   obtain⟨⟨x16,st17⟩,hx18,h⟩:=C5 h
   try dsimp only at h
   refine TL.run ak [0] Z Z (Bu Z .u (.fn Tryz.call164 Z) (oV b11 st13 _ hx18) (fun _ hs=>(Src.triv _)) Z ?_)
   obtain⟨⟨x19,st20⟩,hx21,h⟩:=C5 h
   try dsimp only at h
   refine TL.run ak [2] Z Z (Bu Z .u (.fn Tryz.call165 Z) (mw b11 st17 _ hx21) (fun _ hs=>(Src.triv _)) Z ?_)
   refine TL.q Z .u (Bg (cells:= #[jI x16,jI x19,.bool false,.string ⟨#[]⟩,.bool false,.string ⟨#[]⟩,.slice none 0 0]) ei Z (by kernel_rfl)) Z ?_
   refine TL.alloc Z .u Tryz.zeroValue38 Z (fun b22=>(A9 (cs':= #[jI x16,jI x19,.bool false,.string ⟨#[]⟩,.bool false,.string ⟨#[]⟩,.slice none 0 0]) Z .u Z Z Dj Z Z Z Z (TL.nil (X.seq (T.seq (T.seq (T.region Z (TL.run ak [0] Z Z (TL.q Z .u (AH 0 Z Dc Z Z) Z (TL.run ak [2] Z Z ?_))))))))))
   rcases jF h with⟨c23,h⟩ | ⟨c23,h⟩
   ·refine TL.nil (X.seq (AN Z (C6 c23) (T.region Z ?_)))
    obtain⟨st24,hx25,h⟩:=C5 h
    refine TL.run ak [0] Z Z (BC Z .u (.fn Tryz.call61 Z) (bi b11 st20 11 _ hx25) (fun _ hs=>(Src.triv _)) Z (TL.nil (X.seq (T.seq (T.region Z ?_)))))
    obtain⟨⟨x26,st27⟩,hx28,h⟩:=C5 h
    try dsimp only at h
    refine TL.run ak [0] Z Z (BC Z .u (.fn Tryz.call166 Z) (dx b11 st24 _ hx28) (fun _ hs=>(Src.triv _)) Z (TL.run ak [2] Z Z (A9 (cs':= #[jI x16,jI x19,.bool x26.null,jS x26.data,.bool false,.string ⟨#[]⟩,.slice none 0 0]) Z .u Z Z Dk Z Z Z Z (TL.nil (X.seq (T.seq (T.region Z ?_)))))))
    obtain⟨⟨x29,st30⟩,hx31,h⟩:=C5 h
    try dsimp only at h
    refine TL.run ak [0] Z Z (BC Z .u (.fn Tryz.call166 Z) (dx b11 st27 _ hx31) (fun _ hs=>(Src.triv _)) Z (TL.run ak [2] Z Z (A9 (cs':= #[jI x16,jI x19,.bool x26.null,jS x26.data,.bool x29.null,jS x29.data,.slice none 0 0]) Z .u Z Z Dk Z Z Z Z (TL.nil (X.seq (T.seq (T.region Z ?_)))))))
    obtain⟨⟨x32,st35⟩,hx36,h⟩:=C5 h
    try dsimp only at h
    refine TL.run ak [0] Z Z (TL.cg1 Z .u (.fn Tryz.call167 Z) (eI b11 st30 _ hx36) (fun _ hs=>(Src.triv _)) Z ?_)
    rintro _ _ _ ⟨A33,c34,rfl,rfl,rfl⟩
    refine Bp [0,0,0,0,0] Z (TL.run ak [2] Z Z (TL.st1 (cs':= #[jI x16,jI x19,.bool x26.null,jS x26.data,.bool x29.null,jS x29.data,.slice A33 x32.length c34]) Z .u Z Z ED Z Z Z Z (TL.nil (X.seq (T.seq (T.seq (T.region Z ?_)))))))
    obtain⟨⟨x37,st38⟩,hx39,h⟩:=C5 h
    try dsimp only at h
    refine TL.run ak [0] Z Z (BU Z .u (.fn Tryz.call32 Z) (dB b11 st35 _ hx39) (fun _ hs=>(Src.triv _)) Z (TL.run ak [2] Z Z (TL.nil (X.seq (T.seq (T.region Z (TL.run ak [0,1] Z Z ?_)))))))
    rcases jF h with⟨c40,h⟩ | ⟨c40,h⟩
    ·refine TL.nil (X.seq (AS Z (ax (C6 c40)) (T.skip (X.seq (T.seq (T.region Z (TL.q Z .u (AY (us := [jI x16,jI x19,.bool x26.null,jS x26.data,.bool x29.null,jS x29.data,.slice A33 x32.length c34]) 1 Z DE Dj Z Z Z) Z (BV (cs':= #[jI x16,jI x19,.bool x26.null,jS x26.data,.bool x29.null,jS x29.data,.slice A33 x32.length c34]) Z .u Z Z Dj Z Z Z Z ?_))))))))
     obtain rfl:=C8 h
     exact TL.nil (X.seq (T.ret (AJ [4,0] Ev (BG (us:= #[jI x16,jI x19,.bool x26.null,jS x26.data,.bool x29.null,jS x29.data,.slice A33 x32.length c34]) 3 Z DE Dj Z Z) ⟨_,_,Z,Z,Z⟩ (by rfl) (.inl Z))))
    ·refine TL.nil (X.seq (AN Z (aF (C7 c40)) (T.seq (T.region Z ?_))))
     obtain⟨st41,hx42,h⟩:=C5 h
     refine TL.run ak [0,1] Z Z (TL.c4 Z .u (.fn Tryz.call61 Z) (bi g st6 x37 _ hx42) (fun _ hs=>(Src.triv _)) Z (TL.nil (X.seq (T.seq (T.region Z ?_)))))
     refine TL.q Z .u (Bg (cells:= #[jI 0,jI 0,.bool false,.string ⟨#[]⟩,.bool false,.string ⟨#[]⟩,.slice none 0 0]) ei Z (by kernel_rfl)) Z ?_
     refine BV (cs':= #[jI 0,jI 0,.bool false,.string ⟨#[]⟩,.bool false,.string ⟨#[]⟩,.slice none 0 0]) Z .u Z Z Dj Z Z Z Z ?_
     obtain rfl:=C8 h
     exact TL.nil (X.seq (T.ret (AL (BH 3 bG (AJ [5,0] Ev (BG (us:= #[jI 0,jI 0,.bool false,.string ⟨#[]⟩,.bool false,.string ⟨#[]⟩,.slice none 0 0]) 4 Z DE Dj Z Z) ⟨_,_,Z,Z,Z⟩ (by rfl) (.inl Z))))))
   ·refine TL.nil (X.seq (AS Z (C7 c23) (T.skip (X.seq (T.seq (T.region Z ?_))))))
    obtain⟨⟨x43,st44⟩,hx45,h⟩:=C5 h
    try dsimp only at h
    refine TL.run ak [0] Z Z (BC Z .u (.fn Tryz.call166 Z) (dx b11 st20 _ hx45) (fun _ hs=>(Src.triv _)) Z (TL.run ak [2] Z Z (A9 (cs':= #[jI x16,jI x19,.bool x43.null,jS x43.data,.bool false,.string ⟨#[]⟩,.slice none 0 0]) Z .u Z Z Dk Z Z Z Z (TL.nil (X.seq (T.seq (T.region Z ?_)))))))
    obtain⟨⟨x46,st47⟩,hx48,h⟩:=C5 h
    try dsimp only at h
    refine TL.run ak [0] Z Z (BC Z .u (.fn Tryz.call166 Z) (dx b11 st44 _ hx48) (fun _ hs=>(Src.triv _)) Z (TL.run ak [2] Z Z (A9 (cs':= #[jI x16,jI x19,.bool x43.null,jS x43.data,.bool x46.null,jS x46.data,.slice none 0 0]) Z .u Z Z Dk Z Z Z Z (TL.nil (X.seq (T.seq (T.region Z ?_)))))))
    obtain⟨⟨x49,st52⟩,hx53,h⟩:=C5 h
    try dsimp only at h
    refine TL.run ak [0] Z Z (TL.cg1 Z .u (.fn Tryz.call167 Z) (eI b11 st47 _ hx53) (fun _ hs=>(Src.triv _)) Z ?_)
    rintro _ _ _ ⟨A50,c51,rfl,rfl,rfl⟩
    refine Bp [0,0,0,0,0] Z (TL.run ak [2] Z Z (TL.st1 (cs':= #[jI x16,jI x19,.bool x43.null,jS x43.data,.bool x46.null,jS x46.data,.slice A50 x49.length c51]) Z .u Z Z ED Z Z Z Z (TL.nil (X.seq (T.seq (T.seq (T.region Z ?_)))))))
    obtain⟨⟨x54,st55⟩,hx56,h⟩:=C5 h
    try dsimp only at h
    refine TL.run ak [0] Z Z (BU Z .u (.fn Tryz.call32 Z) (dB b11 st52 _ hx56) (fun _ hs=>(Src.triv _)) Z (TL.run ak [2] Z Z (TL.nil (X.seq (T.seq (T.region Z (TL.run ak [0,1] Z Z ?_)))))))
    rcases jF h with⟨c57,h⟩ | ⟨c57,h⟩
    ·refine TL.nil (X.seq (AS Z (ax (C6 c57)) (T.skip (X.seq (T.seq (T.region Z (TL.q Z .u (AY (us := [jI x16,jI x19,.bool x43.null,jS x43.data,.bool x46.null,jS x46.data,.slice A50 x49.length c51]) 1 Z DE Dj Z Z Z) Z (BV (cs':= #[jI x16,jI x19,.bool x43.null,jS x43.data,.bool x46.null,jS x46.data,.slice A50 x49.length c51]) Z .u Z Z Dj Z Z Z Z ?_))))))))
     obtain rfl:=C8 h
     exact TL.nil (X.seq (T.ret (AJ [4,0] Ev (BG (us:= #[jI x16,jI x19,.bool x43.null,jS x43.data,.bool x46.null,jS x46.data,.slice A50 x49.length c51]) 3 Z DE Dj Z Z) ⟨_,_,Z,Z,Z⟩ (by rfl) (.inl Z))))
    ·refine TL.nil (X.seq (AN Z (aF (C7 c57)) (T.seq (T.region Z ?_))))
     obtain⟨st58,hx59,h⟩:=C5 h
     refine TL.run ak [0,1] Z Z (TL.c4 Z .u (.fn Tryz.call61 Z) (bi g st6 x54 _ hx59) (fun _ hs=>(Src.triv _)) Z (TL.nil (X.seq (T.seq (T.region Z ?_)))))
     refine TL.q Z .u (Bg (cells:= #[jI 0,jI 0,.bool false,.string ⟨#[]⟩,.bool false,.string ⟨#[]⟩,.slice none 0 0]) ei Z (by kernel_rfl)) Z ?_
     refine BV (cs':= #[jI 0,jI 0,.bool false,.string ⟨#[]⟩,.bool false,.string ⟨#[]⟩,.slice none 0 0]) Z .u Z Z Dj Z Z Z Z ?_
     obtain rfl:=C8 h
     exact TL.nil (X.seq (T.ret (AL (BH 3 bG (AJ [5,0] Ev (BG (us:= #[jI 0,jI 0,.bool false,.string ⟨#[]⟩,.bool false,.string ⟨#[]⟩,.slice none 0 0]) 4 Z DE Dj Z Z) ⟨_,_,Z,Z,Z⟩ (by rfl) (.inl Z))))))
  ·refine TL.nil (X.seq (AN Z (aF (C7 c15)) (T.region Z ?_)))
   obtain⟨st60,hx61,h⟩:=C5 h
   refine TL.run ak [0] Z Z (Bu Z .u (.fn Tryz.call61 Z) (bi b11 st13 8 _ hx61) (fun _ hs=>(Src.triv _)) Z (TL.nil (X.seq (T.seq (T.region Z ?_)))))
   obtain⟨⟨x62,st63⟩,hx64,h⟩:=C5 h
   try dsimp only at h
   refine TL.run ak [0] Z Z (Bu Z .u (.fn Tryz.call164 Z) (oV b11 st60 _ hx64) (fun _ hs=>(Src.triv _)) Z ?_)
   obtain⟨⟨x65,st66⟩,hx67,h⟩:=C5 h
   try dsimp only at h
   refine TL.run ak [2] Z Z (Bu Z .u (.fn Tryz.call165 Z) (mw b11 st63 _ hx67) (fun _ hs=>(Src.triv _)) Z ?_)
   refine TL.q Z .u (Bg (cells:= #[jI x62,jI x65,.bool false,.string ⟨#[]⟩,.bool false,.string ⟨#[]⟩,.slice none 0 0]) ei Z (by kernel_rfl)) Z ?_
   refine TL.alloc Z .u Tryz.zeroValue38 Z (fun b68=>(A9 (cs':= #[jI x62,jI x65,.bool false,.string ⟨#[]⟩,.bool false,.string ⟨#[]⟩,.slice none 0 0]) Z .u Z Z Dj Z Z Z Z (TL.nil (X.seq (T.seq (T.seq (T.region Z (TL.run ak [0] Z Z (TL.q Z .u (AH 0 Z Dc Z Z) Z (TL.run ak [2] Z Z ?_))))))))))
   rcases jF h with⟨c69,h⟩ | ⟨c69,h⟩
   ·refine TL.nil (X.seq (AN Z (C6 c69) (T.region Z ?_)))
    obtain⟨st70,hx71,h⟩:=C5 h
    refine TL.run ak [0] Z Z (BC Z .u (.fn Tryz.call61 Z) (bi b11 st66 11 _ hx71) (fun _ hs=>(Src.triv _)) Z (TL.nil (X.seq (T.seq (T.region Z ?_)))))
    obtain⟨⟨x72,st73⟩,hx74,h⟩:=C5 h
    try dsimp only at h
    refine TL.run ak [0] Z Z (BC Z .u (.fn Tryz.call166 Z) (dx b11 st70 _ hx74) (fun _ hs=>(Src.triv _)) Z (TL.run ak [2] Z Z (A9 (cs':= #[jI x62,jI x65,.bool x72.null,jS x72.data,.bool false,.string ⟨#[]⟩,.slice none 0 0]) Z .u Z Z Dk Z Z Z Z (TL.nil (X.seq (T.seq (T.region Z ?_)))))))
    obtain⟨⟨x75,st76⟩,hx77,h⟩:=C5 h
    try dsimp only at h
    refine TL.run ak [0] Z Z (BC Z .u (.fn Tryz.call166 Z) (dx b11 st73 _ hx77) (fun _ hs=>(Src.triv _)) Z (TL.run ak [2] Z Z (A9 (cs':= #[jI x62,jI x65,.bool x72.null,jS x72.data,.bool x75.null,jS x75.data,.slice none 0 0]) Z .u Z Z Dk Z Z Z Z (TL.nil (X.seq (T.seq (T.region Z ?_)))))))
    obtain⟨⟨x78,st81⟩,hx82,h⟩:=C5 h
    try dsimp only at h
    refine TL.run ak [0] Z Z (TL.cg1 Z .u (.fn Tryz.call167 Z) (eI b11 st76 _ hx82) (fun _ hs=>(Src.triv _)) Z ?_)
    rintro _ _ _ ⟨A79,c80,rfl,rfl,rfl⟩
    refine Bp [0,0,0,0,0] Z (TL.run ak [2] Z Z (TL.st1 (cs':= #[jI x62,jI x65,.bool x72.null,jS x72.data,.bool x75.null,jS x75.data,.slice A79 x78.length c80]) Z .u Z Z ED Z Z Z Z (TL.nil (X.seq (T.seq (T.seq (T.region Z ?_)))))))
    obtain⟨⟨x83,st84⟩,hx85,h⟩:=C5 h
    try dsimp only at h
    refine TL.run ak [0] Z Z (BU Z .u (.fn Tryz.call32 Z) (dB b11 st81 _ hx85) (fun _ hs=>(Src.triv _)) Z (TL.run ak [2] Z Z (TL.nil (X.seq (T.seq (T.region Z (TL.run ak [0,1] Z Z ?_)))))))
    rcases jF h with⟨c86,h⟩ | ⟨c86,h⟩
    ·refine TL.nil (X.seq (AS Z (ax (C6 c86)) (T.skip (X.seq (T.seq (T.region Z (TL.q Z .u (AY (us := [jI x62,jI x65,.bool x72.null,jS x72.data,.bool x75.null,jS x75.data,.slice A79 x78.length c80]) 1 Z DE Dj Z Z Z) Z (BV (cs':= #[jI x62,jI x65,.bool x72.null,jS x72.data,.bool x75.null,jS x75.data,.slice A79 x78.length c80]) Z .u Z Z Dj Z Z Z Z ?_))))))))
     obtain rfl:=C8 h
     exact TL.nil (X.seq (T.ret (AJ [4,0] Ev (BG (us:= #[jI x62,jI x65,.bool x72.null,jS x72.data,.bool x75.null,jS x75.data,.slice A79 x78.length c80]) 3 Z DE Dj Z Z) ⟨_,_,Z,Z,Z⟩ (by rfl) (.inl Z))))
    ·refine TL.nil (X.seq (AN Z (aF (C7 c86)) (T.seq (T.region Z ?_))))
     obtain⟨st87,hx88,h⟩:=C5 h
     refine TL.run ak [0,1] Z Z (TL.c4 Z .u (.fn Tryz.call61 Z) (bi g st6 x83 _ hx88) (fun _ hs=>(Src.triv _)) Z (TL.nil (X.seq (T.seq (T.region Z ?_)))))
     refine TL.q Z .u (Bg (cells:= #[jI 0,jI 0,.bool false,.string ⟨#[]⟩,.bool false,.string ⟨#[]⟩,.slice none 0 0]) ei Z (by kernel_rfl)) Z ?_
     refine BV (cs':= #[jI 0,jI 0,.bool false,.string ⟨#[]⟩,.bool false,.string ⟨#[]⟩,.slice none 0 0]) Z .u Z Z Dj Z Z Z Z ?_
     obtain rfl:=C8 h
     exact TL.nil (X.seq (T.ret (AL (BH 3 bG (AJ [5,0] Ev (BG (us:= #[jI 0,jI 0,.bool false,.string ⟨#[]⟩,.bool false,.string ⟨#[]⟩,.slice none 0 0]) 4 Z DE Dj Z Z) ⟨_,_,Z,Z,Z⟩ (by rfl) (.inl Z))))))
   ·refine TL.nil (X.seq (AS Z (C7 c69) (T.skip (X.seq (T.seq (T.region Z ?_))))))
    obtain⟨⟨x89,st90⟩,hx91,h⟩:=C5 h
    try dsimp only at h
    refine TL.run ak [0] Z Z (BC Z .u (.fn Tryz.call166 Z) (dx b11 st66 _ hx91) (fun _ hs=>(Src.triv _)) Z (TL.run ak [2] Z Z (A9 (cs':= #[jI x62,jI x65,.bool x89.null,jS x89.data,.bool false,.string ⟨#[]⟩,.slice none 0 0]) Z .u Z Z Dk Z Z Z Z (TL.nil (X.seq (T.seq (T.region Z ?_)))))))
    obtain⟨⟨x92,st93⟩,hx94,h⟩:=C5 h
    try dsimp only at h
    refine TL.run ak [0] Z Z (BC Z .u (.fn Tryz.call166 Z) (dx b11 st90 _ hx94) (fun _ hs=>(Src.triv _)) Z (TL.run ak [2] Z Z (A9 (cs':= #[jI x62,jI x65,.bool x89.null,jS x89.data,.bool x92.null,jS x92.data,.slice none 0 0]) Z .u Z Z Dk Z Z Z Z (TL.nil (X.seq (T.seq (T.region Z ?_)))))))
    obtain⟨⟨x95,st98⟩,hx99,h⟩:=C5 h
    try dsimp only at h
    refine TL.run ak [0] Z Z (TL.cg1 Z .u (.fn Tryz.call167 Z) (eI b11 st93 _ hx99) (fun _ hs=>(Src.triv _)) Z ?_)
    rintro _ _ _ ⟨A96,c97,rfl,rfl,rfl⟩
    refine Bp [0,0,0,0,0] Z (TL.run ak [2] Z Z (TL.st1 (cs':= #[jI x62,jI x65,.bool x89.null,jS x89.data,.bool x92.null,jS x92.data,.slice A96 x95.length c97]) Z .u Z Z ED Z Z Z Z (TL.nil (X.seq (T.seq (T.seq (T.region Z ?_)))))))
    obtain⟨⟨x100,st101⟩,hx102,h⟩:=C5 h
    try dsimp only at h
    refine TL.run ak [0] Z Z (BU Z .u (.fn Tryz.call32 Z) (dB b11 st98 _ hx102) (fun _ hs=>(Src.triv _)) Z (TL.run ak [2] Z Z (TL.nil (X.seq (T.seq (T.region Z (TL.run ak [0,1] Z Z ?_)))))))
    rcases jF h with⟨c103,h⟩ | ⟨c103,h⟩
    ·refine TL.nil (X.seq (AS Z (ax (C6 c103)) (T.skip (X.seq (T.seq (T.region Z (TL.q Z .u (AY (us := [jI x62,jI x65,.bool x89.null,jS x89.data,.bool x92.null,jS x92.data,.slice A96 x95.length c97]) 1 Z DE Dj Z Z Z) Z (BV (cs':= #[jI x62,jI x65,.bool x89.null,jS x89.data,.bool x92.null,jS x92.data,.slice A96 x95.length c97]) Z .u Z Z Dj Z Z Z Z ?_))))))))
     obtain rfl:=C8 h
     exact TL.nil (X.seq (T.ret (AJ [4,0] Ev (BG (us:= #[jI x62,jI x65,.bool x89.null,jS x89.data,.bool x92.null,jS x92.data,.slice A96 x95.length c97]) 3 Z DE Dj Z Z) ⟨_,_,Z,Z,Z⟩ (by rfl) (.inl Z))))
    ·refine TL.nil (X.seq (AN Z (aF (C7 c103)) (T.seq (T.region Z ?_))))
     obtain⟨st104,hx105,h⟩:=C5 h
     refine TL.run ak [0,1] Z Z (TL.c4 Z .u (.fn Tryz.call61 Z) (bi g st6 x100 _ hx105) (fun _ hs=>(Src.triv _)) Z (TL.nil (X.seq (T.seq (T.region Z ?_)))))
     refine TL.q Z .u (Bg (cells:= #[jI 0,jI 0,.bool false,.string ⟨#[]⟩,.bool false,.string ⟨#[]⟩,.slice none 0 0]) ei Z (by kernel_rfl)) Z ?_
     refine BV (cs':= #[jI 0,jI 0,.bool false,.string ⟨#[]⟩,.bool false,.string ⟨#[]⟩,.slice none 0 0]) Z .u Z Z Dj Z Z Z Z ?_
     obtain rfl:=C8 h
     exact TL.nil (X.seq (T.ret (AL (BH 3 bG (AJ [5,0] Ev (BG (us:= #[jI 0,jI 0,.bool false,.string ⟨#[]⟩,.bool false,.string ⟨#[]⟩,.slice none 0 0]) 4 Z DE Dj Z Z) ⟨_,_,Z,Z,Z⟩ (by rfl) (.inl Z))))))
 ·refine TL.nil (X.seq (AN Z (aF (C7 c8)) (T.seq (T.region Z ?_))))
  refine TL.q Z .u (Bg (cells:= #[jI 0,jI 0,.bool false,.string ⟨#[]⟩,.bool false,.string ⟨#[]⟩,.slice none 0 0]) ei Z (by kernel_rfl)) Z ?_
  refine A9 (cs':= #[jI 0,jI 0,.bool false,.string ⟨#[]⟩,.bool false,.string ⟨#[]⟩,.slice none 0 0]) Z .u Z Z Dj Z Z Z Z ?_
  obtain rfl:=C8 h
  exact TL.nil (X.seq (T.ret (AL (BH 3 bG (AJ [2,0] Ev (BG (us:= #[jI 0,jI 0,.bool false,.string ⟨#[]⟩,.bool false,.string ⟨#[]⟩,.slice none 0 0]) 1 Z DE Dj Z Z) ⟨_,_,Z,Z,Z⟩ (by rfl) (.inl Z))))))
def cE (a1:Rec):List Hd→Bool→Nat→Option (Lp Bool Bool)
 | [],y14,k15=>some (Lp.go y14)
 | x20::xs,y14,k15=>(a1.CF[k15]?).bind fun x33=>if x33.CJ=x20.CJ then (if x33.Cz.null=x20.Cz.null then (if x33.Cz.data=x20.Cz.data then (cE a1 xs y14 (k15+1)) else some (Lp.ret false)) else some (Lp.ret false)) else some (Lp.ret false)
def fO (a0:Rec) (a1:Rec):Option (Bool):=if a0.CY=a1.CY then (if a0.CU=a1.CU then (if a0.CJ.null=a1.CJ.null then (if a0.CJ.data=a1.CJ.data then (if a0.Cz.null=a1.Cz.null then (if a0.Cz.data=a1.Cz.data then (if (a0.CF.length:Int)=(a1.CF.length:Int) then ((cE a1 a0.CF false 0).bind fun e=>match e with | .ret r=>some r | .go y39=>some true) else some false) else some false) else some false) else some false) else some false) else some false) else some false
theorem mA (a0:Rec) (A1:Option Addr) (c2:Nat) (a1:Rec) (A3:Option Addr) (c4:Nat) (r:Bool) (h:fO a0 a1=some r):aA Tryz.prog 130 #[.agg #[jI a0.CY,jI a0.CU,.bool a0.CJ.null,jS a0.CJ.data,.bool a0.Cz.null,jS a0.Cz.data,.slice A1 a0.CF.length c2],.agg #[jI a1.CY,jI a1.CU,.bool a1.CJ.null,jS a1.CJ.data,.bool a1.Cz.null,jS a1.Cz.data,.slice A3 a1.CF.length c4]] (RX.and (RX.of (ar 3 bG) [.slice A1 a0.CF.length c2] a0.CF) (RX.of (ar 3 bG) [.slice A3 a1.CF.length c4] a1.CF)) (aD) (fun v A' N=>v= .bool r∧A'=aD∧N = []):=by
 refine aM Tryz.func130 Z Tryz.ntmps130 Z ?_
 intro F w hX
 unfold fO at h
 refine T.seq (T.region Z (TL.box Z .u Z Z (fun b5=>(TL.box Z .u Z Z (fun b6=>(TL.run ak [2] Z Z (TL.nil (X.seq (T.seq (T.seq (T.region Z (TL.run ak [0] Z Z (TL.q Z .u (AH 1 Z Dc Z Z) Z (TL.run ak [2] Z Z ?_))))))))))))))
 refine TL.q Z .u (AH 0 Z Dc Z Z) Z ?_
 rcases jF h with⟨c7,h⟩ | ⟨c7,h⟩
 ·refine TL.run ak [4,5] Z Z (TL.q Z (.g Z Z (ax (C6 c7))) (AO ak Z) Z (TL.q Z (.g Z Z (ax (C6 c7))) (AH 1 Z Dc Z Z) Z (TL.q Z (.g Z Z (ax (C6 c7))) (AO ak Z) Z (TL.q Z (.g Z Z (ax (C6 c7))) (AH 0 Z Dc Z Z) Z (TL.q Z (.g Z Z (ax (C6 c7))) (AO ak Z) Z (TL.q Z .u (AR Z (ax (C6 c7)) Z) Z ?_))))))
  rcases jF h with⟨c8,h⟩ | ⟨c8,h⟩
  ·refine TL.run ak [12] Z Z (TL.q Z (.g Z Z (ax (C6 c8))) (AO ak Z) Z (TL.q Z (.g Z Z (ax (C6 c8))) (AY (us := [.bool a0.CJ.null,jS a0.CJ.data]) 1 Z DB Dk Z Z Z) Z (TL.q Z (.g Z Z (ax (C6 c8))) (AO ak Z) Z (TL.q Z (.g Z Z (ax (C6 c8))) (AY (us := [.bool a1.CJ.null,jS a1.CJ.data]) 0 Z DB Dk Z Z Z) Z ?_))))
   rcases jF h with⟨c9,h⟩ | ⟨c9,h⟩
   ·rcases jF h with⟨c10,h⟩ | ⟨c10,h⟩
    ·refine TL.q Z (.g Z Z (ax (C6 c8))) (BL (us := [.bool a0.CJ.null,jS a0.CJ.data]) (vs := [.bool a1.CJ.null,jS a1.CJ.data]) eu Z DQ Z Z Z Z (aO (fG c9) (aO (jw (l:=a0.CJ.data) (m:=a1.CJ.data) c10) Z))) Z (TL.q Z .u (AR Z (ax (C6 c8)) Z) Z (TL.run ak [19] Z Z (TL.q Z (.g Z Z Z) (AO ak Z) Z (TL.q Z (.g Z Z Z) (AY (us := [.bool a0.Cz.null,jS a0.Cz.data]) 1 Z DB Dk Z Z Z) Z (TL.q Z (.g Z Z Z) (AO ak Z) Z (TL.q Z (.g Z Z Z) (AY (us := [.bool a1.Cz.null,jS a1.Cz.data]) 0 Z DB Dk Z Z Z) Z ?_))))))
     rcases jF h with⟨c11,h⟩ | ⟨c11,h⟩
     ·rcases jF h with⟨c12,h⟩ | ⟨c12,h⟩
      ·refine TL.q Z (.g Z Z Z) (BL (us := [.bool a0.Cz.null,jS a0.Cz.data]) (vs := [.bool a1.Cz.null,jS a1.Cz.data]) eu Z DQ Z Z Z Z (aO (fG c11) (aO (jw (l:=a0.Cz.data) (m:=a1.Cz.data) c12) Z))) Z (TL.q Z .u (AR Z Z Z) Z (TL.run ak [26] Z Z (TL.q Z (.g Z Z Z) (AO ak Z) Z (TL.q Z (.g Z Z Z) (AH 1 Z Eh Z Z) Z (TL.q Z (.g Z Z Z) (AW Z Dt) Z (TL.q Z (.g Z Z Z) (AO ak Z) Z (TL.q Z (.g Z Z Z) (AH 0 Z Eh Z Z) Z ?_)))))))
       refine TL.q Z (.g Z Z Z) (AW Z Dt) Z (TL.q Z (.g Z Z Z) (AO ak Z) Z (TL.q Z .u (AR Z Z Z) Z ?_))
       rcases jF h with⟨c13,h⟩ | ⟨c13,h⟩
       ·refine TL.nil (X.seq (AS Z (ax (C6 c13)) (T.skip (X.seq (T.seq (T.seq (T.region Z (TL.run ak [0] Z Z (TL.q Z .u (AH 1 Z Eh Z Z) Z (TL.q Z .u (AW Z Dt) Z (TL.run ak [3] Z Z (TL.nil (X.seq (T.block ?_))))))))))))))
        obtain⟨E16,hE17,hO18⟩:=C5 h
        have hk22len:=Bm (Bx hX)
        refine Bj (fun m e Rs=> ∃ (y14:Bool) (k15:Nat),k15+m=a0.CF.length∧e = [(3,jP b6),(4,.bool y14),(43,.slice A1 a0.CF.length c2),(44,jI (a0.CF.length:Int)),(45,jI (k15:Int))]∧Rs = [aC b6 38 #[jI a1.CY,jI a1.CU,.bool a1.CJ.null,jS a1.CJ.data,.bool a1.Cz.null,jS a1.Cz.data,.slice A3 a1.CF.length c4],aC b5 38 #[jI a0.CY,jI a0.CU,.bool a0.CJ.null,jS a0.CJ.data,.bool a0.Cz.null,jS a0.Cz.data,.slice A1 a0.CF.length c2],aD]∧cE a1 (a0.CF.drop k15) y14 k15=some E16) (a0.CF.length) [0,0,0] ⟨false,0,by simp,Z,Z,by rw[List.drop_zero]; exact hE17⟩ (by rfl) (by rfl) ?_
        rintro m19 _ _ ⟨y14,k15,hk22,rfl,rfl,hl21⟩
        clear hE17 h
        cases m19 with
        | zero =>
         have h:=hl21
         clear hl21
         rw[List.drop_of_length_le (by omega),cE] at h
         have hk22ge: ¬ ((k15:Int)<(a0.CF.length:Int)):=by omega
         refine T.seq (T.region Z (TL.run ak [0] Z Z (TL.nil (X.seq (T.seq (AS Z (C7 hk22ge) ?_))))))
         obtain rfl:=C8 h
         replace h:=hO18
         clear hO18
         try dsimp only at h
         refine T.exit (AV (AV (Bh (X.seq (T.seq (T.region Z (TL.run ak [0] Z Z ?_)))))))
         obtain rfl:=C8 h
         exact TL.nil (X.seq (T.ret (AJ [2] Ej (AK Z) ⟨Z,Z,Z⟩ (by rfl) (.inl Z))))
        | succ m19 =>
         have h:=hl21
         clear hl21
         obtain⟨x20,hxx20⟩: ∃ x,a0.CF[k15]? = some x:=⟨_,List.getElem?_eq_getElem (by omega)⟩
         rw[aX hxx20,cE] at h
         have hk22lt:(k15:Int)<(a0.CF.length:Int):=by omega
         refine T.seq (T.region Z (TL.run ak [0] Z Z (TL.nil (X.seq (T.seq (AN Z (C6 hk22lt) (T.skip (X.seq (T.seq (T.block (T.seq (T.region Z ?_))))))))))))
         obtain⟨gz31,oz31,rfl,z31cs,z31cl,z31cc,z31nf,z31r⟩:=Bb (by decide) (Bx hX) hxx20
         obtain⟨z31S,z31r,z31rr⟩:=z31r
         obtain rfl:z31cs = [jS x20.CJ,.bool x20.Cz.null,jS x20.Cz.data]:=z31r
         refine TL.run ak [0] Z Z ?_
         refine TL.q Z .u (AX (k:=k15) Z Z Z Dt DH (Da hxx20).1) Z ?_
         refine TL.q Z .u (Bn (us := [jS x20.CJ,.bool x20.Cz.null,jS x20.Cz.data]) 0 Z Ew DH z31nf z31cc Z Z Z) Z (TL.alloc Z .u Tryz.zeroValue185 Z (fun b32=>(TL.run ak [4] Z Z (A9 (cs':= #[jS x20.CJ,.bool x20.Cz.null,jS x20.Cz.data]) Z .u Z Z DH Z Z Z Z ?_))))
         refine TL.nil (X.seq (T.seq (Bd (.q 0 (.q 1 (.q 2 (.q 3 (.q 4 (.q 5 (.q 6 .nil))))))) [0,0,0,0] Z vE (NoP.seq (NoP.blk (NoP.seq (NoP.seq (NoP.blk (NoP.seq aP)))))) (by kernel_rfl) ?_)))
         refine TD.run ak [0] Z Z (TD.q Z .u (AH 1 Z Eh Z Z) Z ?_)
         obtain⟨x33,hx34,h⟩:=C5 h
         obtain⟨gz35,oz35,rfl,z35cs,z35cl,z35cc,z35nf,z35r⟩:=Bb (by decide) (Bz hX) hx34
         obtain⟨z35S,z35r,z35rr⟩:=z35r
         obtain rfl:z35cs = [jS x33.CJ,.bool x33.Cz.null,jS x33.Cz.data]:=z35r
         refine TD.run ak [2] Z Z ?_
         refine TD.q Z .u (AX (k:=k15) Z Z Z Dt DH (Da hx34).1) Z ?_
         refine TD.q Z .u (Bn (us := [jS x33.CJ,.bool x33.Cz.null,jS x33.Cz.data]) 0 Z Ew DH z35nf z35cc Z Z Z) Z (TD.q Z .u (AY (us := [jS x20.CJ,.bool x20.Cz.null,jS x20.Cz.data]) 0 Z Ew DH Z Z Z) Z ?_)
         rcases jF h with⟨c36,h⟩ | ⟨c36,h⟩
         ·rcases jF h with⟨c37,h⟩ | ⟨c37,h⟩
          ·rcases jF h with⟨c38,h⟩ | ⟨c38,h⟩
           ·exact TD.q Z .u (BL (us := [jS x33.CJ,.bool x33.Cz.null,jS x33.Cz.data]) (vs := [jS x20.CJ,.bool x20.Cz.null,jS x20.Cz.data]) fT Z En Z Z Z Z (aO (jw (l:=x33.CJ) (m:=x20.CJ) c36) (aO (fG c37) (aO (jw (l:=x33.Cz.data) (m:=x20.Cz.data) c38) Z)))) Z (TD.nil (X.seq (AS Z Z (T.skip (AZ (X.seq (T.region Z (TL.q Z .u (Ex.add Z Z (by omega)) Z (TL.run ak [1] Z Z (TL.nil (X.back (m':=m19) [1,1,1] (by omega) ⟨y14,k15+1,by omega,Z,Z,h⟩ (by rfl) (by rfl))))))))))))
           ·refine TD.q Z .u (BL (us := [jS x33.CJ,.bool x33.Cz.null,jS x33.Cz.data]) (vs := [jS x20.CJ,.bool x20.Cz.null,jS x20.Cz.data]) fT Z En Z Z Z Z (aO (jw (l:=x33.CJ) (m:=x20.CJ) c36) (aO (fG c37) (dW (jL (l:=x33.Cz.data) (m:=x20.Cz.data) c38))))) Z (TD.nil (X.seq (AN Z Z (T.seq (T.region Z (TL.run ak [0] Z Z ?_))))))
            obtain rfl:=C8 h
            replace h:=hO18
            clear hO18
            try dsimp only at h
            obtain rfl:=C8 h
            exact TL.nil (X.seq (T.ret (AU (AL (AL (AU (AL (AJ [3] Ej (AK Z) ⟨Z,Z,Z⟩ (by rfl) (.inl Z)))))))))
          ·refine TD.q Z .u (BL (us := [jS x33.CJ,.bool x33.Cz.null,jS x33.Cz.data]) (vs := [jS x20.CJ,.bool x20.Cz.null,jS x20.Cz.data]) fT Z En Z Z Z Z (aO (jw (l:=x33.CJ) (m:=x20.CJ) c36) (dW (jc c37)))) Z (TD.nil (X.seq (AN Z Z (T.seq (T.region Z (TL.run ak [0] Z Z ?_))))))
           obtain rfl:=C8 h
           replace h:=hO18
           clear hO18
           try dsimp only at h
           obtain rfl:=C8 h
           exact TL.nil (X.seq (T.ret (AU (AL (AL (AU (AL (AJ [3] Ej (AK Z) ⟨Z,Z,Z⟩ (by rfl) (.inl Z)))))))))
         ·refine TD.q Z .u (BL (us := [jS x33.CJ,.bool x33.Cz.null,jS x33.Cz.data]) (vs := [jS x20.CJ,.bool x20.Cz.null,jS x20.Cz.data]) fT Z En Z Z Z Z (dW (jL (l:=x33.CJ) (m:=x20.CJ) c36))) Z (TD.nil (X.seq (AN Z Z (T.seq (T.region Z (TL.run ak [0] Z Z ?_))))))
          obtain rfl:=C8 h
          replace h:=hO18
          clear hO18
          try dsimp only at h
          obtain rfl:=C8 h
          exact TL.nil (X.seq (T.ret (AU (AL (AL (AU (AL (AJ [3] Ej (AK Z) ⟨Z,Z,Z⟩ (by rfl) (.inl Z)))))))))
       ·refine TL.nil (X.seq (AN Z (aF (C7 c13)) (T.seq (T.region Z (TL.run ak [0] Z Z ?_)))))
        obtain rfl:=C8 h
        exact TL.nil (X.seq (T.ret (AL (AJ [2] Ej (AK Z) ⟨Z,Z,Z⟩ (by rfl) (.inl Z)))))
      ·refine TL.q Z (.g Z Z Z) (BL (us := [.bool a0.Cz.null,jS a0.Cz.data]) (vs := [.bool a1.Cz.null,jS a1.Cz.data]) eu Z DQ Z Z Z Z (aO (fG c11) (dW (jL (l:=a0.Cz.data) (m:=a1.Cz.data) c12)))) Z (TL.q Z .u (AR Z Z Z) Z (TL.run ak [26] Z Z ?_))
       iterate 7 refine AM Z (.gn Z Z Z) Z ?_
       refine TL.q Z .u (AP Z Z Z) Z (TL.nil (X.seq (AN Z Z (T.seq (T.region Z (TL.run ak [0] Z Z ?_))))))
       obtain rfl:=C8 h
       exact TL.nil (X.seq (T.ret (AL (AJ [2] Ej (AK Z) ⟨Z,Z,Z⟩ (by rfl) (.inl Z)))))
     ·refine TL.q Z (.g Z Z Z) (BL (us := [.bool a0.Cz.null,jS a0.Cz.data]) (vs := [.bool a1.Cz.null,jS a1.Cz.data]) eu Z DQ Z Z Z Z (dW (jc c11))) Z (TL.q Z .u (AR Z Z Z) Z (TL.run ak [26] Z Z ?_))
      iterate 7 refine AM Z (.gn Z Z Z) Z ?_
      refine TL.q Z .u (AP Z Z Z) Z (TL.nil (X.seq (AN Z Z (T.seq (T.region Z (TL.run ak [0] Z Z ?_))))))
      obtain rfl:=C8 h
      exact TL.nil (X.seq (T.ret (AL (AJ [2] Ej (AK Z) ⟨Z,Z,Z⟩ (by rfl) (.inl Z)))))
    ·refine TL.q Z (.g Z Z (ax (C6 c8))) (BL (us := [.bool a0.CJ.null,jS a0.CJ.data]) (vs := [.bool a1.CJ.null,jS a1.CJ.data]) eu Z DQ Z Z Z Z (aO (fG c9) (dW (jL (l:=a0.CJ.data) (m:=a1.CJ.data) c10)))) Z (TL.q Z .u (AR Z (ax (C6 c8)) Z) Z (TL.run ak [19] Z Z ?_))
     iterate 5 refine AM Z (.gn Z Z Z) Z ?_
     refine TL.q Z .u (AP Z Z Z) Z (TL.run ak [26] Z Z ?_)
     iterate 7 refine AM Z (.gn Z Z Z) Z ?_
     refine TL.q Z .u (AP Z Z Z) Z (TL.nil (X.seq (AN Z Z (T.seq (T.region Z (TL.run ak [0] Z Z ?_))))))
     obtain rfl:=C8 h
     exact TL.nil (X.seq (T.ret (AL (AJ [2] Ej (AK Z) ⟨Z,Z,Z⟩ (by rfl) (.inl Z)))))
   ·refine TL.q Z (.g Z Z (ax (C6 c8))) (BL (us := [.bool a0.CJ.null,jS a0.CJ.data]) (vs := [.bool a1.CJ.null,jS a1.CJ.data]) eu Z DQ Z Z Z Z (dW (jc c9))) Z (TL.q Z .u (AR Z (ax (C6 c8)) Z) Z (TL.run ak [19] Z Z ?_))
    iterate 5 refine AM Z (.gn Z Z Z) Z ?_
    refine TL.q Z .u (AP Z Z Z) Z (TL.run ak [26] Z Z ?_)
    iterate 7 refine AM Z (.gn Z Z Z) Z ?_
    refine TL.q Z .u (AP Z Z Z) Z (TL.nil (X.seq (AN Z Z (T.seq (T.region Z (TL.run ak [0] Z Z ?_))))))
    obtain rfl:=C8 h
    exact TL.nil (X.seq (T.ret (AL (AJ [2] Ej (AK Z) ⟨Z,Z,Z⟩ (by rfl) (.inl Z)))))
  ·refine TL.run ak [12] Z Z ?_
   iterate 5 refine AM Z (.gn Z Z (aF (C7 c8))) Z ?_
   refine TL.q Z .u (AP Z (aF (C7 c8)) Z) Z (TL.run ak [19] Z Z ?_)
   iterate 5 refine AM Z (.gn Z Z Z) Z ?_
   refine TL.q Z .u (AP Z Z Z) Z (TL.run ak [26] Z Z ?_)
   iterate 7 refine AM Z (.gn Z Z Z) Z ?_
   refine TL.q Z .u (AP Z Z Z) Z (TL.nil (X.seq (AN Z Z (T.seq (T.region Z (TL.run ak [0] Z Z ?_))))))
   obtain rfl:=C8 h
   exact TL.nil (X.seq (T.ret (AL (AJ [2] Ej (AK Z) ⟨Z,Z,Z⟩ (by rfl) (.inl Z)))))
 ·refine TL.run ak [4,5] Z Z ?_
  iterate 5 refine AM Z (.gn Z Z (aF (C7 c7))) Z ?_
  refine TL.q Z .u (AP Z (aF (C7 c7)) Z) Z (TL.run ak [12] Z Z ?_)
  iterate 5 refine AM Z (.gn Z Z Z) Z ?_
  refine TL.q Z .u (AP Z Z Z) Z (TL.run ak [19] Z Z ?_)
  iterate 5 refine AM Z (.gn Z Z Z) Z ?_
  refine TL.q Z .u (AP Z Z Z) Z (TL.run ak [26] Z Z ?_)
  iterate 7 refine AM Z (.gn Z Z Z) Z ?_
  refine TL.q Z .u (AP Z Z Z) Z (TL.nil (X.seq (AN Z Z (T.seq (T.region Z (TL.run ak [0] Z Z ?_))))))
  obtain rfl:=C8 h
  exact TL.nil (X.seq (T.ret (AL (AJ [2] Ej (AK Z) ⟨Z,Z,Z⟩ (by rfl) (.inl Z)))))
def nW:fh := [(35,0,0),(35,1,1),(119,0,0),(119,1,2),(119,2,3),(185,0,0),(185,1,1)]
theorem av:(nW).OK Tryz.prog:=⟨FOK.mk DM rfl DP rfl,FOK.mk DM rfl DT rfl,FOK.mk Eb rfl Dk rfl,FOK.mk Eb rfl De rfl,FOK.mk Eb rfl De rfl,FOK.mk Eg rfl DT rfl,FOK.mk Eg rfl Dk rfl,trivial⟩
theorem jx:Tryz.prog.follows .mixedOrders=true:=by kernel_rfl
theorem dy:dm Tryz.prog 3 185 [.string,.bool,.string] true:=(dm.struct Ew DH rfl Tryz.underlying185 Tryz.stoodInHeld185 ⟨by decide,rfl,[.string],[.bool,.string],false,rfl,((Bq Dz DT Tryz.underlying9).mono (by decide)),⟨by decide,rfl,[.bool,.string],[],true,rfl,(dm.struct DB Dk rfl Tryz.underlying35 Tryz.stoodInHeld35 ⟨by decide,rfl,[.bool],[.string],false,rfl,(Bq Do DP Tryz.underlying4),⟨by decide,rfl,[.string],[],false,rfl,(Bq Dz DT Tryz.underlying9),rfl⟩⟩),rfl⟩⟩)
theorem ln:BOK Tryz.prog 35 #[.bool false,.string ⟨#[]⟩] [(0,1),(1,1)]:=BOK.mk Tryz.zeroValue35 DM (by intro w; simp)
def cJ (a0:List Hd):Nat→Bool→Nat→Option (Lp Bool (Bool×Nat))
 | 0,_,_=>none
 | m8+1,y3,k4=>if (k4:Int)<(a0.length:Int) then ((a0[k4]?).bind fun x13=>if x13.Cz.null=true then (if x13.Cz.data = [] then (if -9223372036854775808≤((k4:Int)+1)∧((k4:Int)+1)≤9223372036854775807 then (cJ a0 m8 y3 (k4+1)) else none) else some (Lp.ret false)) else (if -9223372036854775808≤((k4:Int)+1)∧((k4:Int)+1)≤9223372036854775807 then (cJ a0 m8 y3 (k4+1)) else none)) else (some (Lp.go (y3,k4)))
def hU (a0:List Hd):Option (Bool):=(cJ a0 (((a0.length:Int)).toNat+1) false 0).bind fun e=>match e with | .ret r=>some r | .go (y20,k21)=>some true
theorem nX (a0:List Hd) (A1:Option Addr) (c2:Nat) (r:Bool) (h:hU a0=some r):aA Tryz.prog 103 #[.slice A1 a0.length c2] (RX.of (ar 3 bG) [.slice A1 a0.length c2] a0) (aD) (fun v A' N=>v= .bool r∧A'=aD∧N = []):=by
 refine aM Tryz.func103 Z Tryz.ntmps103 Z ?_
 intro F w hX
 unfold hU at h
 refine T.seq (T.region Z (TL.run av [0] Z Z (TL.nil (X.seq (T.seq (T.seq (T.region Z (TL.run av [0] Z Z (TL.nil (X.seq (T.block ?_)))))))))))
 obtain⟨E5,hE6,hO7⟩:=C5 h
 refine Bj (fun m e Rs=> ∃ (y3:Bool) (k4:Nat),e = [(0,.slice A1 a0.length c2),(2,.bool y3),(3,jI (k4:Int))]∧Rs = [aD]∧cJ a0 m y3 k4=some E5) (((a0.length:Int)).toNat+1) [0] ⟨false,0,Z,Z,by exact hE6⟩ (by rfl) (by rfl) ?_
 rintro m8 _ _ ⟨y3,k4,rfl,rfl,hl10⟩
 clear hE6 h
 cases m8 with
 | zero =>
  rw[cJ] at hl10
  cases hl10
 | succ m8 =>
  have h:=hl10
  clear hl10
  rw[cJ] at h
  refine T.seq (T.seq (T.region Z (TL.run av [0,1] Z Z (TL.q Z .u (AW Z Dt) Z (TL.run av [3] Z Z ?_)))))
  rcases jF h with⟨c12,h⟩ | ⟨c12,h⟩
  ·refine TL.nil (X.seq (AN Z (C6 c12) (T.skip (X.seq (T.seq (T.block (T.seq (T.region Z ?_))))))))
   obtain⟨x13,hx14,h⟩:=C5 h
   obtain⟨gz15,oz15,rfl,z15cs,z15cl,z15cc,z15nf,z15r⟩:=Bb (by decide) hX hx14
   obtain⟨z15S,z15r,z15rr⟩:=z15r
   obtain rfl:z15cs = [jS x13.CJ,.bool x13.Cz.null,jS x13.Cz.data]:=z15r
   refine TL.run av [0,1] Z Z ?_
   refine TL.q Z .u (AX (k:=k4) Z Z Z Dt DH (Da hx14).1) Z ?_
   refine TL.run av [3,4] Z Z (TL.q Z .u (Bt 1 Z Do z15nf z15cc Z Z) Z ?_)
   rcases jF h with⟨c16,h⟩ | ⟨c16,h⟩
   ·refine TL.run av [6] Z Z ?_
    iterate 2 refine TL.q Z (.g Z Z c16) (AO av Z) Z ?_
    refine TL.q Z (.g Z Z c16) (AX (k:=k4) Z Z Z Dt DH (Da hx14).1) Z ?_
    iterate 2 refine TL.q Z (.g Z Z c16) (AO av Z) Z ?_
    refine TL.q Z (.g Z Z c16) (Bt 2 Z Dz z15nf z15cc Z Z) Z (TL.q Z (.g Z Z c16) (Ex.sNe Z (m := []) Z) Z (TL.q Z .u (AP Z c16 Z) Z ?_))
    rcases jF h with⟨c17,h⟩ | ⟨c17,h⟩
    ·refine TL.nil (X.seq (AS Z (ax (C6 c17)) (T.skip (AZ (X.seq (T.region Z ?_))))))
     replace h:=an h
     obtain⟨c18,h⟩:=h
     exact TL.run av [0] Z Z (TL.q Z .u (Ex.add Z Z c18) Z (TL.run av [2] Z Z (TL.nil (X.back (m':=m8) [0] (by omega) ⟨y3,k4+1,Z,Z,h⟩ (by rfl) (by rfl)))))
    ·refine TL.nil (X.seq (AN Z (aF (C7 c17)) (T.seq (T.region Z (TL.run av [0] Z Z ?_)))))
     obtain rfl:=C8 h
     replace h:=hO7
     clear hO7
     try dsimp only at h
     obtain rfl:=C8 h
     exact TL.nil (X.seq (T.ret (AU (AL (AL (AU (AL (AJ [0] Tryz.results103 (AK Z) ⟨Z,Z,Z⟩ (by rfl) (.inl Z)))))))))
   ·replace c16:=Dd c16
    refine TL.run av [6] Z Z ?_
    iterate 7 refine AM Z (.gn Z Z c16) Z ?_
    refine TL.q Z .u (AR Z c16 Z) Z (TL.nil (X.seq (AS Z Z (T.skip (AZ (X.seq (T.region Z ?_)))))))
    replace h:=an h
    obtain⟨c19,h⟩:=h
    exact TL.run av [0] Z Z (TL.q Z .u (Ex.add Z Z c19) Z (TL.run av [2] Z Z (TL.nil (X.back (m':=m8) [0] (by omega) ⟨y3,k4+1,Z,Z,h⟩ (by rfl) (by rfl)))))
  ·refine TL.nil (X.seq (AS Z (C7 c12) ?_))
   obtain rfl:=C8 h
   replace h:=hO7
   clear hO7
   try dsimp only at h
   refine T.exit (AV (AV (Bh (X.seq (T.seq (T.region Z (TL.run av [0] Z Z ?_)))))))
   obtain rfl:=C8 h
   exact TL.nil (X.seq (T.ret (AJ [0] Tryz.results103 (AK Z) ⟨Z,Z,Z⟩ (by rfl) (.inl Z))))
def dC (a0:List Hd) (a1:List Hd):Nat→Bool→Nat→Option (Lp Bool (Bool×Nat))
 | 0,_,_=>none
 | m11+1,y6,k7=>if (k7:Int)<(a0.length:Int) then ((a0[k7]?).bind fun x16=>(a1[k7]?).bind fun x19=>if x16.CJ=x19.CJ then (if x16.Cz.null=x19.Cz.null then (if x16.Cz.data=x19.Cz.data then (if -9223372036854775808≤((k7:Int)+1)∧((k7:Int)+1)≤9223372036854775807 then (dC a0 a1 m11 y6 (k7+1)) else none) else some (Lp.ret false)) else some (Lp.ret false)) else some (Lp.ret false)) else (some (Lp.go (y6,k7)))
def jd (a0:List Hd) (a1:List Hd):Option (Bool):=if (a0.length:Int)=(a1.length:Int) then ((dC a0 a1 (((a0.length:Int)).toNat+1) false 0).bind fun e=>match e with | .ret r=>some r | .go (y26,k27)=>some true) else some false
theorem pf (a0:List Hd) (A1:Option Addr) (c2:Nat) (a1:List Hd) (A3:Option Addr) (c4:Nat) (r:Bool) (h:jd a0 a1=some r):aA Tryz.prog 107 #[.slice A1 a0.length c2,.slice A3 a1.length c4] (RX.and (RX.of (ar 3 bG) [.slice A1 a0.length c2] a0) (RX.of (ar 3 bG) [.slice A3 a1.length c4] a1)) (aD) (fun v A' N=>v= .bool r∧A'=aD∧N = []):=by
 refine aM Tryz.func107 Z Tryz.ntmps107 Z ?_
 intro F w hX
 unfold jd at h
 refine T.seq (T.region Z (TL.run av [0] Z Z (TL.nil (X.seq (T.seq (T.seq (T.region Z (TL.run av [0] Z Z (TL.q Z .u (AW Z Dt) Z (TL.run av [2] Z Z (TL.q Z .u (AW Z Dt) Z (TL.run av [4] Z Z ?_))))))))))))
 rcases jF h with⟨c5,h⟩ | ⟨c5,h⟩
 ·refine TL.nil (X.seq (AS Z (ax (C6 c5)) (T.skip (X.seq (T.seq (T.seq (T.region Z (TL.run av [0] Z Z (TL.nil (X.seq (T.block ?_)))))))))))
  obtain⟨E8,hE9,hO10⟩:=C5 h
  refine Bj (fun m e Rs=> ∃ (y6:Bool) (k7:Nat),e = [(0,.slice A1 a0.length c2),(1,.slice A3 a1.length c4),(4,.bool y6),(5,jI (k7:Int))]∧Rs = [aD]∧dC a0 a1 m y6 k7=some E8) (((a0.length:Int)).toNat+1) [0] ⟨false,0,Z,Z,by exact hE9⟩ (by rfl) (by rfl) ?_
  rintro m11 _ _ ⟨y6,k7,rfl,rfl,hl13⟩
  clear hE9 h
  cases m11 with
  | zero =>
   rw[dC] at hl13
   cases hl13
  | succ m11 =>
   have h:=hl13
   clear hl13
   rw[dC] at h
   refine T.seq (T.seq (T.region Z (TL.run av [0,1] Z Z (TL.q Z .u (AW Z Dt) Z (TL.run av [3] Z Z ?_)))))
   rcases jF h with⟨c15,h⟩ | ⟨c15,h⟩
   ·refine TL.nil (X.seq (AN Z (C6 c15) ?_))
    refine T.skip (X.seq (T.seq (T.block (T.seq (Bd (.q 0 (.q 1 (.q 2 (.q 3 (.q 4 (.q 5 (.q 6 (.q 7 (.q 8 .nil))))))))) [0] Z jx (NoP.seq (NoP.blk (NoP.seq (NoP.seq (NoP.blk (NoP.seq aP)))))) (by kernel_rfl) ?_)))))
    obtain⟨x16,hx17,h⟩:=C5 h
    obtain⟨gz18,oz18,rfl,z18cs,z18cl,z18cc,z18nf,z18r⟩:=Bb (by decide) (Bx hX) hx17
    obtain⟨z18S,z18r,z18rr⟩:=z18r
    obtain rfl:z18cs = [jS x16.CJ,.bool x16.Cz.null,jS x16.Cz.data]:=z18r
    refine TD.run av [0,1] Z Z ?_
    refine TD.q Z .u (AX (k:=k7) Z Z Z Dt DH (Da hx17).1) Z ?_
    refine TD.q Z .u (Bn (us := [jS x16.CJ,.bool x16.Cz.null,jS x16.Cz.data]) 0 Z Ew DH z18nf z18cc Z Z Z) Z ?_
    obtain⟨x19,hx20,h⟩:=C5 h
    obtain⟨gz21,oz21,rfl,z21cs,z21cl,z21cc,z21nf,z21r⟩:=Bb (by decide) (Bz hX) hx20
    obtain⟨z21S,z21r,z21rr⟩:=z21r
    obtain rfl:z21cs = [jS x19.CJ,.bool x19.Cz.null,jS x19.Cz.data]:=z21r
    refine TD.run av [4,5] Z Z ?_
    refine TD.q Z .u (AX (k:=k7) Z Z Z Dt DH (Da hx20).1) Z ?_
    refine TD.q Z .u (Bn (us := [jS x19.CJ,.bool x19.Cz.null,jS x19.Cz.data]) 0 Z Ew DH z21nf z21cc Z Z Z) Z ?_
    rcases jF h with⟨c22,h⟩ | ⟨c22,h⟩
    ·rcases jF h with⟨c23,h⟩ | ⟨c23,h⟩
     ·rcases jF h with⟨c24,h⟩ | ⟨c24,h⟩
      ·refine TD.q Z .u (BL (us := [jS x16.CJ,.bool x16.Cz.null,jS x16.Cz.data]) (vs := [jS x19.CJ,.bool x19.Cz.null,jS x19.Cz.data]) dy Z En Z Z Z Z (aO (jw (l:=x16.CJ) (m:=x19.CJ) c22) (aO (fG c23) (aO (jw (l:=x16.Cz.data) (m:=x19.Cz.data) c24) Z)))) Z (TD.nil (X.seq (AS Z Z (T.skip (AZ (X.seq (T.region Z ?_)))))))
       replace h:=an h
       obtain⟨c25,h⟩:=h
       exact TL.run av [0] Z Z (TL.q Z .u (Ex.add Z Z c25) Z (TL.run av [2] Z Z (TL.nil (X.back (m':=m11) [0] (by omega) ⟨y6,k7+1,Z,Z,h⟩ (by rfl) (by rfl)))))
      ·refine TD.q Z .u (BL (us := [jS x16.CJ,.bool x16.Cz.null,jS x16.Cz.data]) (vs := [jS x19.CJ,.bool x19.Cz.null,jS x19.Cz.data]) dy Z En Z Z Z Z (aO (jw (l:=x16.CJ) (m:=x19.CJ) c22) (aO (fG c23) (dW (jL (l:=x16.Cz.data) (m:=x19.Cz.data) c24))))) Z (TD.nil (X.seq (AN Z Z (T.seq (T.region Z (TL.run av [0] Z Z ?_))))))
       obtain rfl:=C8 h
       replace h:=hO10
       clear hO10
       try dsimp only at h
       obtain rfl:=C8 h
       exact TL.nil (X.seq (T.ret (AU (AL (AL (AU (AL (AJ [0] EY (AK Z) ⟨Z,Z,Z⟩ (by rfl) (.inl Z)))))))))
     ·refine TD.q Z .u (BL (us := [jS x16.CJ,.bool x16.Cz.null,jS x16.Cz.data]) (vs := [jS x19.CJ,.bool x19.Cz.null,jS x19.Cz.data]) dy Z En Z Z Z Z (aO (jw (l:=x16.CJ) (m:=x19.CJ) c22) (dW (jc c23)))) Z (TD.nil (X.seq (AN Z Z (T.seq (T.region Z (TL.run av [0] Z Z ?_))))))
      obtain rfl:=C8 h
      replace h:=hO10
      clear hO10
      try dsimp only at h
      obtain rfl:=C8 h
      exact TL.nil (X.seq (T.ret (AU (AL (AL (AU (AL (AJ [0] EY (AK Z) ⟨Z,Z,Z⟩ (by rfl) (.inl Z)))))))))
    ·refine TD.q Z .u (BL (us := [jS x16.CJ,.bool x16.Cz.null,jS x16.Cz.data]) (vs := [jS x19.CJ,.bool x19.Cz.null,jS x19.Cz.data]) dy Z En Z Z Z Z (dW (jL (l:=x16.CJ) (m:=x19.CJ) c22))) Z (TD.nil (X.seq (AN Z Z (T.seq (T.region Z (TL.run av [0] Z Z ?_))))))
     obtain rfl:=C8 h
     replace h:=hO10
     clear hO10
     try dsimp only at h
     obtain rfl:=C8 h
     exact TL.nil (X.seq (T.ret (AU (AL (AL (AU (AL (AJ [0] EY (AK Z) ⟨Z,Z,Z⟩ (by rfl) (.inl Z)))))))))
   ·refine TL.nil (X.seq (AS Z (C7 c15) ?_))
    obtain rfl:=C8 h
    replace h:=hO10
    clear hO10
    try dsimp only at h
    refine T.exit (AV (AV (Bh (X.seq (T.seq (T.region Z (TL.run av [0] Z Z ?_)))))))
    obtain rfl:=C8 h
    exact TL.nil (X.seq (T.ret (AJ [0] EY (AK Z) ⟨Z,Z,Z⟩ (by rfl) (.inl Z))))
 ·refine TL.nil (X.seq (AN Z (aF (C7 c5)) (T.seq (T.region Z (TL.run av [0] Z Z ?_)))))
  obtain rfl:=C8 h
  exact TL.nil (X.seq (T.ret (AL (AJ [0] EY (AK Z) ⟨Z,Z,Z⟩ (by rfl) (.inl Z)))))
def ga (a0:Int):Option (List UInt8):=(sO a0).bind fun x1=>(wq x1).bind fun x3=>some x3
theorem dM (a0:Int) (r:List UInt8) (h:ga a0=some r):aA Tryz.prog 113 #[jI a0] .triv (aD) (fun v A' N=>v=jS r∧A'=aD∧N = []):=by
 refine aM Tryz.func113 Z Tryz.ntmps113 Z ?_
 intro F w hX
 unfold ga at h
 refine T.seq (T.region Z (TL.run av [0] Z Z (TL.nil (X.seq (T.seq (T.region Z ?_))))))
 obtain⟨x1,hx2,h⟩:=C5 h
 refine TL.run av [0] Z Z (Bc Z .u (.fn Tryz.call148 Z) (BA (fun w=>tW a0 _ hx2 w)) (fun _ _=>AQ _ _) Z ?_)
 obtain⟨x3,hx4,h⟩:=C5 h
 refine Bc Z .u (.fn Tryz.call147 Z) (vv x1 _ hx4) (fun _ hs=>(AQ _ _)) Z (TL.run av [3] Z Z ?_)
 obtain rfl:=C8 h
 exact TL.nil (X.seq (T.ret (AJ [0] Tryz.results113 (AK Z) ⟨Z,Z,Z⟩ (by rfl) (.inl Z))))
def di (a0:List Hd):Nat→List UInt8→Nat→Option (List UInt8×Nat)
 | 0,_,_=>none
 | m10+1,y5,k6=>if (k6:Int)<(a0.length:Int) then ((a0[k6]?).bind fun x15=>(gK (⟨false,x15.CJ⟩:Bl)).bind fun x18=>if y5.length+x18.length≤9223372036854775807 then ((gK x15.Cz).bind fun x21=>if (y5++x18).length+x21.length≤9223372036854775807 then (if -9223372036854775808≤((k6:Int)+1)∧((k6:Int)+1)≤9223372036854775807 then (di a0 m10 ((y5++x18)++x21) (k6+1)) else none) else none) else none) else some (y5,k6)
def hZ (a0:List Hd):Option (List UInt8):=(ga (a0.length:Int)).bind fun x3=>(di a0 (((a0.length:Int)).toNat+1) x3 0).bind fun (y25,k26)=>some y25
theorem dI (a0:List Hd) (A1:Option Addr) (c2:Nat) (r:List UInt8) (h:hZ a0=some r):aA Tryz.prog 115 #[.slice A1 a0.length c2] (RX.of (ar 3 bG) [.slice A1 a0.length c2] a0) (aD) (fun v A' N=>v=jS r∧A'=aD∧N = []):=by
 refine aM Tryz.func115 Z Tryz.ntmps115 Z ?_
 intro F w hX
 unfold hZ at h
 refine T.seq (T.region Z (TL.run av [0] Z Z (TL.nil (X.seq (T.seq (T.region Z (TL.run av [0] Z Z (TL.q Z .u (AW Z Dt) Z ?_))))))))
 obtain⟨x3,hx4,h⟩:=C5 h
 refine Bc Z .u (.fn Tryz.call113 Z) (dM (a0.length:Int) _ hx4) (fun _ hs=>(AQ _ _)) Z (TL.run av [3] Z Z (TL.nil (X.seq (T.seq (T.seq (T.region Z (TL.run av [0] Z Z (TL.nil (X.seq (T.block ?_))))))))))
 obtain⟨E7,hE8,hO9⟩:=C5 h
 refine Bj (fun m e Rs=> ∃ (y5:List UInt8) (k6:Nat),e = [(0,.slice A1 a0.length c2),(2,.string ⟨#[]⟩),(3,jS y5),(4,jI (k6:Int))]∧Rs = [aD]∧di a0 m y5 k6=some E7) (((a0.length:Int)).toNat+1) [0] ⟨x3,0,Z,Z,by exact hE8⟩ (by rfl) (by rfl) ?_
 rintro m10 _ _ ⟨y5,k6,rfl,rfl,hl12⟩
 clear hE8 h
 cases m10 with
 | zero =>
  rw[di] at hl12
  cases hl12
 | succ m10 =>
  have h:=hl12
  clear hl12
  rw[di] at h
  refine T.seq (T.seq (T.region Z (TL.run av [0,1] Z Z (TL.q Z .u (AW Z Dt) Z (TL.run av [3] Z Z ?_)))))
  rcases jF h with⟨c14,h⟩ | ⟨c14,h⟩
  ·refine TL.nil (X.seq (AN Z (C6 c14) ?_))
   refine T.skip (X.seq (T.seq (T.block (Bd (.q 0 (.q 1 (.q 2 (.q 3 (.q 4 (.q 5 (.q 6 (.q 9 (.q 10 (.q 11 (.q 12 (.q 13 (.e 7 (.q 8 (.e 14 (.q 15 (.q 16 .nil))))))))))))))))) [0] Z jx (NoP.blk (NoP.seq (NoP.seq (NoP.blk (NoP.seq aP))))) (by kernel_rfl) ?_))))
   obtain⟨x15,hx16,h⟩:=C5 h
   obtain⟨gz17,oz17,rfl,z17cs,z17cl,z17cc,z17nf,z17r⟩:=Bb (by decide) hX hx16
   obtain⟨z17S,z17r,z17rr⟩:=z17r
   obtain rfl:z17cs = [jS x15.CJ,.bool x15.Cz.null,jS x15.Cz.data]:=z17r
   refine TD.run av [0,1,2] Z Z ?_
   refine TD.q Z .u (AX (k:=k6) Z Z Z Dt DH (Da hx16).1) Z ?_
   refine TD.run av [4] Z Z (TD.q Z .u (Bt 0 Z Dz z17nf z17cc Z Z) Z ?_)
   refine TD.q Z .u (Bg (cells:= #[.bool false,jS x15.CJ]) ln Z (by kernel_rfl)) Z ?_
   refine TD.run av [9,10] Z Z ?_
   refine TD.q Z .u (AX (k:=k6) Z Z Z Dt DH (Da hx16).1) Z ?_
   refine TD.run av [12] Z Z (TD.q Z .u (Bn (us := [.bool x15.Cz.null,jS x15.Cz.data]) 1 Z DB Dk z17nf z17cc Z Z Z) Z ?_)
   obtain⟨x18,hx19,h⟩:=C5 h
   refine Bk Z .u (.fn Tryz.call114 Z) (bU (⟨false,x15.CJ⟩:Bl) _ hx19) (fun _ hs=>(AQ _ _)) Z [0] (Z) ?_
   replace h:=an h
   obtain⟨c20,h⟩:=h
   refine TD.q Z .u (Bf Z Z c20) Z ?_
   obtain⟨x21,hx22,h⟩:=C5 h
   refine Bk Z .u (.fn Tryz.call114 Z) (bU x15.Cz _ hx22) (fun _ hs=>(AQ _ _)) Z [0] (Z) ?_
   replace h:=an h
   obtain⟨c23,h⟩:=h
   refine TD.q Z .u (Bf Z Z c23) Z (TD.run av [16] Z Z (TD.nil (AZ (X.seq (T.region Z ?_)))))
   replace h:=an h
   obtain⟨c24,h⟩:=h
   exact TL.run av [0] Z Z (TL.q Z .u (Ex.add Z Z c24) Z (TL.run av [2] Z Z (TL.nil (X.back (m':=m10) [0] (by omega) ⟨((y5++x18)++x21),k6+1,Z,Z,h⟩ (by rfl) (by rfl)))))
  ·refine TL.nil (X.seq (AS Z (C7 c14) ?_))
   obtain rfl:=C8 h
   replace h:=hO9
   clear hO9
   try dsimp only at h
   refine T.exit (AV (AV (Bh (X.seq (T.seq (T.region Z (TL.run av [0,1] Z Z ?_)))))))
   obtain rfl:=C8 h
   exact TL.nil (X.seq (T.ret (AJ [0] Tryz.results115 (AK Z) ⟨Z,Z,Z⟩ (by rfl) (.inl Z))))
def nY:fh := [(35,0,0),(35,1,1),(38,0,0),(38,1,1),(38,2,2),(38,3,4),(38,4,6),(119,0,0),(119,1,2),(119,2,3),(220,1,7)]
theorem al:(nY).OK Tryz.prog:=⟨FOK.mk DM rfl DP rfl,FOK.mk DM rfl DT rfl,FOK.mk Dw rfl De rfl,FOK.mk Dw rfl De rfl,FOK.mk Dw rfl Dk rfl,FOK.mk Dw rfl Dk rfl,FOK.mk Dw rfl ED rfl,FOK.mk Eb rfl Dk rfl,FOK.mk Eb rfl De rfl,FOK.mk Eb rfl De rfl,FOK.mk ES rfl De rfl,trivial⟩
theorem nk:Tryz.prog.follows .mixedOrders=true:=by kernel_rfl
theorem cm:dm Tryz.prog 2 35 [.bool,.string] true:=(dm.struct DB Dk rfl Tryz.underlying35 Tryz.stoodInHeld35 ⟨by decide,rfl,[.bool],[.string],false,rfl,(Bq Do DP Tryz.underlying4),⟨by decide,rfl,[.string],[],false,rfl,(Bq Dz DT Tryz.underlying9),rfl⟩⟩)
theorem bY:SOK Tryz.prog 64 5 1 1 #[.int .u8 0]:=SOK.mk Er Tryz.sizeOf5 Tryz.zeroValue5 (by decide) (by kernel_rfl)
def iP (a0:Bl):Option (Bool):=if a0.null=true then (if a0.data = [] then some false else some true) else some false
theorem lq (a0:Bl) (r:Bool) (h:iP a0=some r):aA Tryz.prog 102 #[.agg #[.bool a0.null,jS a0.data]] .triv (aD) (fun v A' N=>v= .bool r∧A'=aD∧N = []):=by
 refine aM Tryz.func102 Z Tryz.ntmps102 Z ?_
 intro F w hX
 unfold iP at h
 refine T.seq (T.region Z (TL.box Z .u Z Z (fun b1=>(TL.run al [1] Z Z (TL.nil (X.seq (T.seq (T.region Z (TL.run al [0] Z Z (TL.q Z .u (AH 0 Z Do Z Z) Z ?_))))))))))
 rcases jF h with⟨c2,h⟩ | ⟨c2,h⟩
 ·refine TL.run al [2] Z Z (TL.q Z (.g Z Z c2) (AO al Z) Z (TL.q Z (.g Z Z c2) (AH 0 Z Dz Z Z) Z (TL.q Z (.g Z Z c2) (Ex.sNe Z (m := []) Z) Z (TL.q Z .u (AP Z c2 Z) Z (TL.run al [7] Z Z ?_)))))
  rcases jF h with⟨c3,h⟩ | ⟨c3,h⟩
  ·obtain rfl:=C8 h
   exact TL.nil (X.seq (T.ret (AJ [1] Tryz.results102 (AK (v:= .bool false) (congrArg (fun b=>some (Value.bool b)) (ax (C6 c3)))) ⟨Z,Z,Z⟩ (by rfl) (.inl Z))))
  ·obtain rfl:=C8 h
   exact TL.nil (X.seq (T.ret (AJ [1] Tryz.results102 (AK (v:= .bool true) (congrArg (fun b=>some (Value.bool b)) (aF (C7 c3)))) ⟨Z,Z,Z⟩ (by rfl) (.inl Z))))
 ·replace c2:=Dd c2
  refine TL.run al [2] Z Z ?_
  iterate 3 refine AM Z (.gn Z Z c2) Z ?_
  refine TL.q Z .u (AR Z c2 Z) Z (TL.run al [7] Z Z ?_)
  obtain rfl:=C8 h
  exact TL.nil (X.seq (T.ret (AJ [1] Tryz.results102 (AK Z) ⟨Z,Z,Z⟩ (by rfl) (.inl Z))))
def gb (a0:Rec):Option (Int):=if a0.CU<0 then some 11 else (if a0.CU>2147483647 then some 11 else ((iP a0.CJ).bind fun x6=>if x6=true then some 4 else ((iP a0.Cz).bind fun x9=>if x9=true then some 4 else ((hU a0.CF).bind fun x12=>if x12=true then some 0 else some 4))))
theorem ka (a0:Rec) (A1:Option Addr) (c2:Nat) (r:Int) (h:gb a0=some r):aA Tryz.prog 45 #[.agg #[jI a0.CY,jI a0.CU,.bool a0.CJ.null,jS a0.CJ.data,.bool a0.Cz.null,jS a0.Cz.data,.slice A1 a0.CF.length c2]] (RX.of (ar 3 bG) [.slice A1 a0.CF.length c2] a0.CF) (aD) (fun v A' N=>v=jI r∧A'=aD∧N = []):=by
 refine aM Tryz.func45 Z Tryz.ntmps45 Z ?_
 intro F w hX
 unfold gb at h
 refine T.seq (T.region Z (TL.box Z .u Z Z (fun b3=>(TL.run al [1] Z Z (TL.nil (X.seq (T.seq (T.seq (T.region Z (TL.run al [0] Z Z (TL.q Z .u (AH 0 Z Dc Z Z) Z ?_)))))))))))
 rcases jF h with⟨c4,h⟩ | ⟨c4,h⟩
 ·refine TL.run al [2,3] Z Z ?_
  iterate 3 refine AM Z (.gn Z Z (C6 c4)) Z ?_
  refine TL.q Z .u (AP Z (C6 c4) Z) Z (TL.nil (X.seq (AN Z Z (T.seq (T.region Z (TL.run al [0] Z Z ?_))))))
  obtain rfl:=C8 h
  exact TL.nil (X.seq (T.ret (AL (AJ [1] ET (AK Z) ⟨Z,Z,Z⟩ (by rfl) (.inl Z)))))
 ·refine TL.run al [2,3] Z Z (TL.q Z (.g Z Z (C7 c4)) (AO al Z) Z (TL.q Z (.g Z Z (C7 c4)) (AH 0 Z Dc Z Z) Z (TL.q Z (.g Z Z (C7 c4)) (AO al Z) Z (TL.q Z .u (AR Z (C7 c4) Z) Z ?_))))
  rcases jF h with⟨c5,h⟩ | ⟨c5,h⟩
  ·refine TL.nil (X.seq (AN Z (C6 c5) (T.seq (T.region Z (TL.run al [0] Z Z ?_)))))
   obtain rfl:=C8 h
   exact TL.nil (X.seq (T.ret (AL (AJ [1] ET (AK Z) ⟨Z,Z,Z⟩ (by rfl) (.inl Z)))))
  ·refine TL.nil (X.seq (AS Z (C7 c5) (T.skip (X.seq (T.seq (T.seq (T.region Z (TL.run al [0] Z Z (TL.q Z .u (AY (us := [.bool a0.CJ.null,jS a0.CJ.data]) 0 Z DB Dk Z Z Z) Z ?_)))))))))
   obtain⟨x6,hx7,h⟩:=C5 h
   refine Bc Z .u (.fn Tryz.call102 Z) (lq a0.CJ _ hx7) (fun _ hs=>(AQ _ _)) Z ?_
   rcases jF h with⟨c8,h⟩ | ⟨c8,h⟩
   ·refine TL.run al [3] Z Z ?_
    iterate 3 refine AM Z (.gn Z Z c8) Z ?_
    refine TL.q Z .u (AP Z c8 Z) Z (TL.run al [8] Z Z ?_)
    iterate 4 refine AM Z (.gn Z Z Z) Z ?_
    refine TL.q Z .u (AP Z Z Z) Z (TL.nil (X.seq (AN Z Z (T.seq (T.region Z (TL.run al [0] Z Z ?_))))))
    obtain rfl:=C8 h
    exact TL.nil (X.seq (T.ret (AL (AJ [1] ET (AK Z) ⟨Z,Z,Z⟩ (by rfl) (.inl Z)))))
   ·replace c8:=Dd c8
    refine TL.run al [3] Z Z (TL.q Z (.g Z Z c8) (AO al Z) Z (TL.q Z (.g Z Z c8) (AY (us := [.bool a0.Cz.null,jS a0.Cz.data]) 0 Z DB Dk Z Z Z) Z ?_))
    obtain⟨x9,hx10,h⟩:=C5 h
    refine Bc Z (.g Z Z c8) (.fn Tryz.call102 Z) (lq a0.Cz _ hx10) (fun _ hs=>(AQ _ _)) Z (TL.q Z .u (AR Z c8 Z) Z ?_)
    rcases jF h with⟨c11,h⟩ | ⟨c11,h⟩
    ·refine TL.run al [8] Z Z ?_
     iterate 4 refine AM Z (.gn Z Z c11) Z ?_
     refine TL.q Z .u (AP Z c11 Z) Z (TL.nil (X.seq (AN Z Z (T.seq (T.region Z (TL.run al [0] Z Z ?_))))))
     obtain rfl:=C8 h
     exact TL.nil (X.seq (T.ret (AL (AJ [1] ET (AK Z) ⟨Z,Z,Z⟩ (by rfl) (.inl Z)))))
    ·replace c11:=Dd c11
     refine TL.run al [8] Z Z (TL.q Z (.g Z Z c11) (AO al Z) Z (TL.q Z (.g Z Z c11) (AH 0 Z Eh Z Z) Z ?_))
     obtain⟨x12,hx13,h⟩:=C5 h
     refine Bc Z (.g Z Z c11) (.fn Tryz.call103 Z) (nX a0.CF _ _ _ hx13) (fun _ hs=>(Ba hs hX)) Z (TL.q Z (.g Z Z c11) (AO al Z) Z (TL.q Z .u (AR Z c11 Z) Z ?_))
     rcases jF h with⟨c14,h⟩ | ⟨c14,h⟩
     ·refine TL.nil (X.seq (AS Z (ax c14) (T.skip (X.seq (T.seq (T.region Z (TL.run al [0] Z Z ?_)))))))
      obtain rfl:=C8 h
      exact TL.nil (X.seq (T.ret (AJ [1] ET (AK Z) ⟨Z,Z,Z⟩ (by rfl) (.inl Z))))
     ·replace c14:=Dd c14
      refine TL.nil (X.seq (AN Z (aF c14) (T.seq (T.region Z (TL.run al [0] Z Z ?_)))))
      obtain rfl:=C8 h
      exact TL.nil (X.seq (T.ret (AL (AJ [1] ET (AK Z) ⟨Z,Z,Z⟩ (by rfl) (.inl Z)))))
def je (a0:Rec) (a1:Rec):Option (Bool):=if a0.CY=a1.CY then (if a0.CU=a1.CU then (if a0.CJ.null=a1.CJ.null then (if a0.CJ.data=a1.CJ.data then (if a0.Cz.null=a1.Cz.null then (if a0.Cz.data=a1.Cz.data then ((jd a0.CF a1.CF).bind fun x13=>some x13) else some false) else some false) else some false) else some false) else some false) else some false
theorem pg (a0:Rec) (A1:Option Addr) (c2:Nat) (a1:Rec) (A3:Option Addr) (c4:Nat) (r:Bool) (h:je a0 a1=some r):aA Tryz.prog 48 #[.agg #[jI a0.CY,jI a0.CU,.bool a0.CJ.null,jS a0.CJ.data,.bool a0.Cz.null,jS a0.Cz.data,.slice A1 a0.CF.length c2],.agg #[jI a1.CY,jI a1.CU,.bool a1.CJ.null,jS a1.CJ.data,.bool a1.Cz.null,jS a1.Cz.data,.slice A3 a1.CF.length c4]] (RX.and (RX.of (ar 3 bG) [.slice A1 a0.CF.length c2] a0.CF) (RX.of (ar 3 bG) [.slice A3 a1.CF.length c4] a1.CF)) (aD) (fun v A' N=>v= .bool r∧A'=aD∧N = []):=by
 refine aM Tryz.func48 Z Tryz.ntmps48 Z ?_
 intro F w hX
 unfold je at h
 refine T.seq (T.region Z (TL.box Z .u Z Z (fun b5=>(TL.box Z .u Z Z (fun b6=>(TL.run al [2] Z Z (TL.nil (X.seq (T.seq (T.region Z (TL.run al [0] Z Z (TL.q Z .u (AH 1 Z Dc Z Z) Z (TL.run al [2] Z Z ?_)))))))))))))
 refine TL.q Z .u (AH 0 Z Dc Z Z) Z ?_
 rcases jF h with⟨c7,h⟩ | ⟨c7,h⟩
 ·refine TL.run al [4,5] Z Z (TL.q Z (.g Z Z (C6 c7)) (AO al Z) Z (TL.q Z (.g Z Z (C6 c7)) (AH 1 Z Dc Z Z) Z (TL.q Z (.g Z Z (C6 c7)) (AO al Z) Z (TL.q Z (.g Z Z (C6 c7)) (AH 0 Z Dc Z Z) Z (TL.q Z (.g Z Z (C6 c7)) (AO al Z) Z (TL.q Z .u (AP Z (C6 c7) Z) Z ?_))))))
  rcases jF h with⟨c8,h⟩ | ⟨c8,h⟩
  ·refine TL.run al [12] Z Z (TL.q Z (.g Z Z (C6 c8)) (AO al Z) Z (TL.q Z (.g Z Z (C6 c8)) (AY (us := [.bool a0.CJ.null,jS a0.CJ.data]) 1 Z DB Dk Z Z Z) Z (TL.q Z (.g Z Z (C6 c8)) (AO al Z) Z (TL.q Z (.g Z Z (C6 c8)) (AY (us := [.bool a1.CJ.null,jS a1.CJ.data]) 0 Z DB Dk Z Z Z) Z ?_))))
   rcases jF h with⟨c9,h⟩ | ⟨c9,h⟩
   ·rcases jF h with⟨c10,h⟩ | ⟨c10,h⟩
    ·refine TL.q Z (.g Z Z (C6 c8)) (BN (us := [.bool a0.CJ.null,jS a0.CJ.data]) (vs := [.bool a1.CJ.null,jS a1.CJ.data]) cm Z DQ Z Z Z Z (aO (fG c9) (aO (jw (l:=a0.CJ.data) (m:=a1.CJ.data) c10) Z))) Z (TL.q Z .u (AP Z (C6 c8) Z) Z (TL.run al [19] Z Z (TL.q Z (.g Z Z Z) (AO al Z) Z (TL.q Z (.g Z Z Z) (AY (us := [.bool a0.Cz.null,jS a0.Cz.data]) 1 Z DB Dk Z Z Z) Z (TL.q Z (.g Z Z Z) (AO al Z) Z (TL.q Z (.g Z Z Z) (AY (us := [.bool a1.Cz.null,jS a1.Cz.data]) 0 Z DB Dk Z Z Z) Z ?_))))))
     rcases jF h with⟨c11,h⟩ | ⟨c11,h⟩
     ·rcases jF h with⟨c12,h⟩ | ⟨c12,h⟩
      ·refine TL.q Z (.g Z Z Z) (BN (us := [.bool a0.Cz.null,jS a0.Cz.data]) (vs := [.bool a1.Cz.null,jS a1.Cz.data]) cm Z DQ Z Z Z Z (aO (fG c11) (aO (jw (l:=a0.Cz.data) (m:=a1.Cz.data) c12) Z))) Z (TL.q Z .u (AP Z Z Z) Z (TL.run al [26] Z Z (TL.q Z (.g Z Z Z) (AO al Z) Z (TL.q Z (.g Z Z Z) (AH 1 Z Eh Z Z) Z (TL.q Z (.g Z Z Z) (AO al Z) Z (TL.q Z (.g Z Z Z) (AH 0 Z Eh Z Z) Z ?_))))))
       obtain⟨x13,hx14,h⟩:=C5 h
       refine Bc Z (.g Z Z Z) (.fn Tryz.call107 Z) (pf a0.CF _ _ a1.CF _ _ _ hx14) (fun _ hs=>(BJ (Ba hs (Bx hX)) (Ba hs (Bz hX)))) Z (TL.q Z .u (AP Z Z Z) Z (TL.run al [33] Z Z ?_))
       obtain rfl:=C8 h
       exact TL.nil (X.seq (T.ret (AJ [2] EG (AK Z) ⟨Z,Z,Z⟩ (by rfl) (.inl Z))))
      ·refine TL.q Z (.g Z Z Z) (BN (us := [.bool a0.Cz.null,jS a0.Cz.data]) (vs := [.bool a1.Cz.null,jS a1.Cz.data]) cm Z DQ Z Z Z Z (aO (fG c11) (dW (jL (l:=a0.Cz.data) (m:=a1.Cz.data) c12)))) Z (TL.q Z .u (AP Z Z Z) Z (TL.run al [26] Z Z ?_))
       iterate 5 refine AM Z (.gn Z Z Z) Z ?_
       refine TL.q Z .u (AR Z Z Z) Z (TL.run al [33] Z Z ?_)
       obtain rfl:=C8 h
       exact TL.nil (X.seq (T.ret (AJ [2] EG (AK Z) ⟨Z,Z,Z⟩ (by rfl) (.inl Z))))
     ·refine TL.q Z (.g Z Z Z) (BN (us := [.bool a0.Cz.null,jS a0.Cz.data]) (vs := [.bool a1.Cz.null,jS a1.Cz.data]) cm Z DQ Z Z Z Z (dW (jc c11))) Z (TL.q Z .u (AP Z Z Z) Z (TL.run al [26] Z Z ?_))
      iterate 5 refine AM Z (.gn Z Z Z) Z ?_
      refine TL.q Z .u (AR Z Z Z) Z (TL.run al [33] Z Z ?_)
      obtain rfl:=C8 h
      exact TL.nil (X.seq (T.ret (AJ [2] EG (AK Z) ⟨Z,Z,Z⟩ (by rfl) (.inl Z))))
    ·refine TL.q Z (.g Z Z (C6 c8)) (BN (us := [.bool a0.CJ.null,jS a0.CJ.data]) (vs := [.bool a1.CJ.null,jS a1.CJ.data]) cm Z DQ Z Z Z Z (aO (fG c9) (dW (jL (l:=a0.CJ.data) (m:=a1.CJ.data) c10)))) Z (TL.q Z .u (AP Z (C6 c8) Z) Z (TL.run al [19] Z Z ?_))
     iterate 5 refine AM Z (.gn Z Z Z) Z ?_
     refine TL.q Z .u (AR Z Z Z) Z (TL.run al [26] Z Z ?_)
     iterate 5 refine AM Z (.gn Z Z Z) Z ?_
     refine TL.q Z .u (AR Z Z Z) Z (TL.run al [33] Z Z ?_)
     obtain rfl:=C8 h
     exact TL.nil (X.seq (T.ret (AJ [2] EG (AK Z) ⟨Z,Z,Z⟩ (by rfl) (.inl Z))))
   ·refine TL.q Z (.g Z Z (C6 c8)) (BN (us := [.bool a0.CJ.null,jS a0.CJ.data]) (vs := [.bool a1.CJ.null,jS a1.CJ.data]) cm Z DQ Z Z Z Z (dW (jc c9))) Z (TL.q Z .u (AP Z (C6 c8) Z) Z (TL.run al [19] Z Z ?_))
    iterate 5 refine AM Z (.gn Z Z Z) Z ?_
    refine TL.q Z .u (AR Z Z Z) Z (TL.run al [26] Z Z ?_)
    iterate 5 refine AM Z (.gn Z Z Z) Z ?_
    refine TL.q Z .u (AR Z Z Z) Z (TL.run al [33] Z Z ?_)
    obtain rfl:=C8 h
    exact TL.nil (X.seq (T.ret (AJ [2] EG (AK Z) ⟨Z,Z,Z⟩ (by rfl) (.inl Z))))
  ·refine TL.run al [12] Z Z ?_
   iterate 5 refine AM Z (.gn Z Z (C7 c8)) Z ?_
   refine TL.q Z .u (AR Z (C7 c8) Z) Z (TL.run al [19] Z Z ?_)
   iterate 5 refine AM Z (.gn Z Z Z) Z ?_
   refine TL.q Z .u (AR Z Z Z) Z (TL.run al [26] Z Z ?_)
   iterate 5 refine AM Z (.gn Z Z Z) Z ?_
   refine TL.q Z .u (AR Z Z Z) Z (TL.run al [33] Z Z ?_)
   obtain rfl:=C8 h
   exact TL.nil (X.seq (T.ret (AJ [2] EG (AK Z) ⟨Z,Z,Z⟩ (by rfl) (.inl Z))))
 ·refine TL.run al [4,5] Z Z ?_
  iterate 5 refine AM Z (.gn Z Z (C7 c7)) Z ?_
  refine TL.q Z .u (AR Z (C7 c7) Z) Z (TL.run al [12] Z Z ?_)
  iterate 5 refine AM Z (.gn Z Z Z) Z ?_
  refine TL.q Z .u (AR Z Z Z) Z (TL.run al [19] Z Z ?_)
  iterate 5 refine AM Z (.gn Z Z Z) Z ?_
  refine TL.q Z .u (AR Z Z Z) Z (TL.run al [26] Z Z ?_)
  iterate 5 refine AM Z (.gn Z Z Z) Z ?_
  refine TL.q Z .u (AR Z Z Z) Z (TL.run al [33] Z Z ?_)
  obtain rfl:=C8 h
  exact TL.nil (X.seq (T.ret (AJ [2] EG (AK Z) ⟨Z,Z,Z⟩ (by rfl) (.inl Z))))
def ib (a0:Rec):Option (List UInt8):=(ga a0.CY).bind fun x5=>if (lY [0]).length+x5.length≤9223372036854775807 then ((ga a0.CU).bind fun x8=>if ((lY [0])++x5).length+x8.length≤9223372036854775807 then ((gK a0.CJ).bind fun x11=>if (((lY [0])++x5)++x8).length+x11.length≤9223372036854775807 then ((gK a0.Cz).bind fun x14=>if ((((lY [0])++x5)++x8)++x11).length+x14.length≤9223372036854775807 then ((hZ a0.CF).bind fun x17=>if (((((lY [0])++x5)++x8)++x11)++x14).length+x17.length≤9223372036854775807 then ((ga (((((((lY [0])++x5)++x8)++x11)++x14)++x17).length:Int)).bind fun x20=>if x20.length+((((((lY [0])++x5)++x8)++x11)++x14)++x17).length≤9223372036854775807 then (some (x20++((((((lY [0])++x5)++x8)++x11)++x14)++x17))) else none) else none) else none) else none) else none) else none
theorem nZ (a0:Rec) (A1:Option Addr) (c2:Nat) (r:List UInt8) (h:ib a0=some r):aA Tryz.prog 51 #[.agg #[jI a0.CY,jI a0.CU,.bool a0.CJ.null,jS a0.CJ.data,.bool a0.Cz.null,jS a0.Cz.data,.slice A1 a0.CF.length c2]] (RX.of (ar 3 bG) [.slice A1 a0.CF.length c2] a0.CF) (aD) (fun v A' N=>v=jS r∧A'=aD∧N = []):=by
 refine aM Tryz.func51 Z Tryz.ntmps51 Z ?_
 intro F w hX
 unfold ib at h
 refine T.seq (T.region Z (TL.box Z .u Z Z (fun b3=>(TL.run al [1] Z Z ?_))))
 obtain⟨x5,hx6,h⟩:=C5 h
 replace h:=an h
 obtain⟨c7,h⟩:=h
 obtain⟨x8,hx9,h⟩:=C5 h
 replace h:=an h
 obtain⟨c10,h⟩:=h
 obtain⟨x11,hx12,h⟩:=C5 h
 replace h:=an h
 obtain⟨c13,h⟩:=h
 obtain⟨x14,hx15,h⟩:=C5 h
 replace h:=an h
 obtain⟨c16,h⟩:=h
 obtain⟨x17,hx18,h⟩:=C5 h
 replace h:=an h
 obtain⟨c19,h⟩:=h
 refine TL.nil (X.seq (T.seq ?_))
 refine Cn (fun e Rs=> ∃ (b4:Nat),e = [(0,.agg #[jI a0.CY,jI a0.CU,.bool a0.CJ.null,jS a0.CJ.data,.bool a0.Cz.null,jS a0.Cz.data,.slice A1 a0.CF.length c2]),(2,.string ⟨#[]⟩),(3,.string (bsOf ((((((lY [0])++x5)++x8)++x11)++x14)++x17)))]∧Rs = [aC b4 5 #[.int .u8 0],aC b3 38 #[jI a0.CY,jI a0.CU,.bool a0.CJ.null,jS a0.CJ.data,.bool a0.Cz.null,jS a0.Cz.data,.slice A1 a0.CF.length c2],aD]) ?_ ?_
 ·refine Bd (.q 2 (.q 3 (.q 6 (.q 7 (.q 10 (.q 11 (.q 14 (.q 15 (.q 18 (.q 19 (.br 0 (.q 1 (.e 4 (.q 5 (.e 8 (.q 9 (.e 12 (.q 13 (.e 16 (.q 17 (.e 20 (.q 21 (.q 22 .nil)))))))))))) (.e 4 (.br 0 (.q 1 (.q 5 (.e 8 (.q 9 (.e 12 (.q 13 (.e 16 (.q 17 (.e 20 (.q 21 (.q 22 .nil))))))))))) (.e 8 (.br 0 (.q 1 (.q 5 (.q 9 (.e 12 (.q 13 (.e 16 (.q 17 (.e 20 (.q 21 (.q 22 .nil)))))))))) (.e 12 (.br 0 (.q 1 (.q 5 (.q 9 (.q 13 (.e 16 (.q 17 (.e 20 (.q 21 (.q 22 .nil))))))))) (.e 16 (.br 0 (.q 1 (.q 5 (.q 9 (.q 13 (.q 17 (.e 20 (.q 21 (.q 22 .nil)))))))) (.e 20 (.e 0 (.q 1 (.q 5 (.q 9 (.q 13 (.q 17 (.q 21 (.q 22 .nil)))))))))))))))))))))))))))) [0,0] Z nk oZ (by kernel_rfl) ?_
  refine TD.run al [2] Z Z (TD.q Z .u (AH 0 Z Dc Z Z) Z (TD.run al [6] Z Z (TD.q Z .u (AH 0 Z Dc Z Z) Z (TD.run al [10] Z Z (TD.q Z .u (AY (us := [.bool a0.CJ.null,jS a0.CJ.data]) 0 Z DB Dk Z Z Z) Z (TD.run al [14] Z Z (TD.q Z .u (AY (us := [.bool a0.Cz.null,jS a0.Cz.data]) 0 Z DB Dk Z Z Z) Z ?_)))))))
  refine TD.run al [18] Z Z (TD.q Z .u (AH 0 Z Eh Z Z) Z ?_)
  refine TD.br ?_ ?_
  ·refine Cr (cells:= #[.int .u8 0]) Z .u bY Z (by rfl) Z [0,0,0] (fun _=>Z) (fun b4=>(TD.q Z .u (Cf (xs := [0]) 0 Z Z Z Z Er Dm Ed) Z (Bk Z .u (.fn Tryz.call113 Z) (dM a0.CY _ hx6) (fun _ hs=>(AQ _ _)) Z [0,0,0] (Z) (TD.q Z .u (Bf Z Z c7) Z (Bk Z .u (.fn Tryz.call113 Z) (dM a0.CU _ hx9) (fun _ hs=>(AQ _ _)) Z [0,0,0] (Z) (TD.q Z .u (Bf Z Z c10) Z (Bk Z .u (.fn Tryz.call114 Z) (bU a0.CJ _ hx12) (fun _ hs=>(AQ _ _)) Z [0,0,0] (Z) (TD.q Z .u (Bf Z Z c13) Z ?_))))))))
   exact Bk Z .u (.fn Tryz.call114 Z) (bU a0.Cz _ hx15) (fun _ hs=>(AQ _ _)) Z [0,0,0] (Z) (TD.q Z .u (Bf Z Z c16) Z (Bk Z .u (.fn Tryz.call115 Z) (dI a0.CF _ _ _ hx18) (fun _ hs=>(Ba hs hX)) Z [0,0,0] (Z) (TD.q Z .u (Bf Z Z c19) Z (TD.run al [22] Z Z (TD.nil (BR [0,0,0] ⟨b4,Z,Z⟩ (by rfl) (by rfl)))))))
  ·refine Bk Z .u (.fn Tryz.call113 Z) (dM a0.CY _ hx6) (fun _ hs=>(AQ _ _)) Z [0,0] (Z) ?_
   refine TD.br ?_ ?_
   ·refine Cr (cells:= #[.int .u8 0]) Z .u bY Z (by rfl) Z [0,0,0] (fun _=>Z) (fun b4=>(TD.q Z .u (Cf (xs := [0]) 0 Z Z Z Z Er Dm Ed) Z (TD.q Z .u (Bf Z Z c7) Z (Bk Z .u (.fn Tryz.call113 Z) (dM a0.CU _ hx9) (fun _ hs=>(AQ _ _)) Z [0,0,0] (Z) (TD.q Z .u (Bf Z Z c10) Z (Bk Z .u (.fn Tryz.call114 Z) (bU a0.CJ _ hx12) (fun _ hs=>(AQ _ _)) Z [0,0,0] (Z) (TD.q Z .u (Bf Z Z c13) Z (Bk Z .u (.fn Tryz.call114 Z) (bU a0.Cz _ hx15) (fun _ hs=>(AQ _ _)) Z [0,0,0] (Z) ?_))))))))
    exact TD.q Z .u (Bf Z Z c16) Z (Bk Z .u (.fn Tryz.call115 Z) (dI a0.CF _ _ _ hx18) (fun _ hs=>(Ba hs hX)) Z [0,0,0] (Z) (TD.q Z .u (Bf Z Z c19) Z (TD.run al [22] Z Z (TD.nil (BR [0,0,0] ⟨b4,Z,Z⟩ (by rfl) (by rfl))))))
   ·refine Bk Z .u (.fn Tryz.call113 Z) (dM a0.CU _ hx9) (fun _ hs=>(AQ _ _)) Z [0,0] (Z) ?_
    refine TD.br ?_ ?_
    ·refine Cr (cells:= #[.int .u8 0]) Z .u bY Z (by rfl) Z [0,0,0] (fun _=>Z) (fun b4=>(TD.q Z .u (Cf (xs := [0]) 0 Z Z Z Z Er Dm Ed) Z (TD.q Z .u (Bf Z Z c7) Z (TD.q Z .u (Bf Z Z c10) Z (Bk Z .u (.fn Tryz.call114 Z) (bU a0.CJ _ hx12) (fun _ hs=>(AQ _ _)) Z [0,0,0] (Z) (TD.q Z .u (Bf Z Z c13) Z (Bk Z .u (.fn Tryz.call114 Z) (bU a0.Cz _ hx15) (fun _ hs=>(AQ _ _)) Z [0,0,0] (Z) (TD.q Z .u (Bf Z Z c16) Z ?_))))))))
     exact Bk Z .u (.fn Tryz.call115 Z) (dI a0.CF _ _ _ hx18) (fun _ hs=>(Ba hs hX)) Z [0,0,0] (Z) (TD.q Z .u (Bf Z Z c19) Z (TD.run al [22] Z Z (TD.nil (BR [0,0,0] ⟨b4,Z,Z⟩ (by rfl) (by rfl)))))
    ·refine Bk Z .u (.fn Tryz.call114 Z) (bU a0.CJ _ hx12) (fun _ hs=>(AQ _ _)) Z [0,0] (Z) ?_
     refine TD.br ?_ ?_
     ·refine Cr (cells:= #[.int .u8 0]) Z .u bY Z (by rfl) Z [0,0,0] (fun _=>Z) (fun b4=>(TD.q Z .u (Cf (xs := [0]) 0 Z Z Z Z Er Dm Ed) Z (TD.q Z .u (Bf Z Z c7) Z (TD.q Z .u (Bf Z Z c10) Z (TD.q Z .u (Bf Z Z c13) Z (Bk Z .u (.fn Tryz.call114 Z) (bU a0.Cz _ hx15) (fun _ hs=>(AQ _ _)) Z [0,0,0] (Z) (TD.q Z .u (Bf Z Z c16) Z (Bk Z .u (.fn Tryz.call115 Z) (dI a0.CF _ _ _ hx18) (fun _ hs=>(Ba hs hX)) Z [0,0,0] (Z) ?_))))))))
      exact TD.q Z .u (Bf Z Z c19) Z (TD.run al [22] Z Z (TD.nil (BR [0,0,0] ⟨b4,Z,Z⟩ (by rfl) (by rfl))))
     ·refine Bk Z .u (.fn Tryz.call114 Z) (bU a0.Cz _ hx15) (fun _ hs=>(AQ _ _)) Z [0,0] (Z) ?_
      refine TD.br ?_ ?_
      ·refine Cr (cells:= #[.int .u8 0]) Z .u bY Z (by rfl) Z [0,0,0] (fun _=>Z) (fun b4=>(TD.q Z .u (Cf (xs := [0]) 0 Z Z Z Z Er Dm Ed) Z (TD.q Z .u (Bf Z Z c7) Z (TD.q Z .u (Bf Z Z c10) Z (TD.q Z .u (Bf Z Z c13) Z (TD.q Z .u (Bf Z Z c16) Z (Bk Z .u (.fn Tryz.call115 Z) (dI a0.CF _ _ _ hx18) (fun _ hs=>(Ba hs hX)) Z [0,0,0] (Z) (TD.q Z .u (Bf Z Z c19) Z ?_))))))))
       exact TD.run al [22] Z Z (TD.nil (BR [0,0,0] ⟨b4,Z,Z⟩ (by rfl) (by rfl)))
      ·refine Bk Z .u (.fn Tryz.call115 Z) (dI a0.CF _ _ _ hx18) (fun _ hs=>(Ba hs hX)) Z [0,0] (Z) (Cr (cells:= #[.int .u8 0]) Z .u bY Z (by rfl) Z [0,0,0] (fun _=>Z) (fun b4=>(TD.q Z .u (Cf (xs := [0]) 0 Z Z Z Z Er Dm Ed) Z (TD.q Z .u (Bf Z Z c7) Z (TD.q Z .u (Bf Z Z c10) Z (TD.q Z .u (Bf Z Z c13) Z (TD.q Z .u (Bf Z Z c16) Z (TD.q Z .u (Bf Z Z c19) Z ?_))))))))
       exact TD.run al [22] Z Z (TD.nil (BR [0,0,0] ⟨b4,Z,Z⟩ (by rfl) (by rfl)))
 ·rintro _ _ ⟨b4,rfl,rfl⟩
  refine X.seq (T.seq (T.region Z (TL.run al [0] Z Z (TL.q Z .u (Br Z Dm) Z ?_))))
  obtain⟨x20,hx21,h⟩:=C5 h
  refine Bc Z .u (.fn Tryz.call113 Z) (dM (((((((lY [0])++x5)++x8)++x11)++x14)++x17).length:Int) _ hx21) (fun _ hs=>(AQ _ _)) Z ?_
  replace h:=an h
  obtain⟨c22,h⟩:=h
  refine TL.run al [3] Z Z (TL.q Z .u (Bf Z Z c22) Z (TL.run al [5] Z Z ?_))
  obtain rfl:=C8 h
  exact TL.nil (X.seq (T.ret (AJ [2] Tryz.results51 (AK Z) ⟨Z,Z,Z⟩ (by rfl) (.inl Z))))
theorem aW {α:Type} {l:List α} {k:Nat} {x:α} {t:List α} (h:l.drop k=x::t):l[k]? = some x∧l.drop (k+1)=t∧l.length=k+1+t.length:=by
 have hl:=congrArg List.length h
 rw[Dn,Dh] at hl
 refine⟨?_,?_,by omega⟩
 ·have:=congrArg (fun z=>z[0]?) h
  simpa using this
 ·rw[← DW,h]
  rfl
theorem bM {α:Type} {l:List α} {k:Nat} (h:l.drop k = []):l.length≤k:=List.drop_eq_nil_iff.1 h
def ls (l:List Hd):Bool:=l.all fun h=>aT h.Cz
def dP (r:Rec):Int:=if r.CU<0∨r.CU>2147483647 then 11 else if (aT r.CJ && aT r.Cz && ls r.CF)=true then 0 else 4
theorem o5 (y:Bool): ∀ l:List Bl,cC l y=some (if l.all aT=true then .go y else .ret false)
 | []=>rfl
 | b::l=>by
  rw[cC,rT,C9,List.all_cons,o5 y l]
  cases aT b <;> rfl
theorem rY (l:List Bl):dS l=some (l.all aT):=by
 unfold dS
 rw[o5]
 cases l.all aT <;> rfl
theorem o6 (y:Int): ∀ l:List Hd,cI l y=some (if ls l=true then .go y else .ret 4)
 | []=>rfl
 | h::l=>by
  rw[cI,rY,C9,o6 y l]
  unfold ls
  rw[List.all_cons,List.all_cons,List.all_nil,Bool.and_true]
  cases aT h.Cz <;> rfl
theorem kx (r:Rec) (hw:wI r.CU):dL r=some (dP r):=by
 unfold dL dP
 by_cases h:r.CU<0
 ·rw[if_pos h,if_pos (.inl h)]
 rw[if_neg h,iX _ _ hw,gl,C9]
 by_cases h2:r.CU>2147483647
 ·rw[if_neg (by simp; omega),if_pos (.inr h2)]
 rw[if_pos (by simp; omega),if_neg (by omega),rY,C9,o6]
 simp only[List.all_cons,List.all_nil,Bool.and_true]
 cases aT r.CJ <;> cases aT r.Cz <;> cases ls r.CF <;> rfl
theorem yT (b:Bl):iP b=some (!aT b):=by
 unfold iP aT
 obtain⟨n,d⟩:=b
 cases n
 ·rfl
 ·cases d <;> simp
theorem ua (a0:List Hd) (hb:a0.length≤1000000) (y:Bool): ∀ (l:List Hd) (k fuel:Nat),a0.drop k=l→l.length<fuel→ ∃ z,cJ a0 fuel y k=some (if ls l=true then .go (y,z) else .ret false)
 | [],k,fuel+1,h,hf=>by
  have:=bM h
  exact⟨k,by rw[cJ,if_neg (by omega)]; rfl⟩
 | x::l,k,fuel+1,h,hf=>by
  obtain⟨h1,h2,h3⟩:=aW h
  rw[Dh] at hf
  obtain⟨z,hz⟩:=ua a0 hb y l (k+1) fuel h2 (by omega)
  rw[cJ,if_pos (by omega),h1,C9]
  have e:ls (x::l)=(aT x.Cz && ls l):=rfl
  rw[e]
  by_cases hn:x.Cz.null=true
  ·rw[if_pos hn]
   by_cases hd:x.Cz.data = []
   ·rw[if_pos hd,if_pos (by omega),hz]
    have:aT x.Cz=true:=by unfold aT; rw[hd]; simp
    rw[this,Bool.true_and]
    exact⟨z,rfl⟩
   ·rw[if_neg hd]
    have:aT x.Cz=false:=by unfold aT; rw[hn]; simp[hd]
    rw[this]
    exact⟨0,rfl⟩
  ·rw[if_neg hn,if_pos (by omega),hz]
   have:aT x.Cz=true:=by unfold aT; simp[hn]
   rw[this,Bool.true_and]
   exact⟨z,rfl⟩
theorem xM (a0:List Hd) (hb:a0.length≤1000000):hU a0=some (ls a0):=by
 unfold hU
 obtain⟨z,hz⟩:=ua a0 hb false a0 0 (((a0.length:Int)).toNat+1) rfl (by omega)
 rw[hz]
 cases ls a0 <;> rfl
theorem xN (r:Rec) (hb:r.CF.length≤1000000):gb r=some (dP r):=by
 unfold gb dP
 by_cases h:r.CU<0
 ·rw[if_pos h,if_pos (.inl h)]
 rw[if_neg h]
 by_cases h2:r.CU>2147483647
 ·rw[if_pos h2,if_pos (.inr h2)]
 rw[if_neg h2,if_neg (by omega),yT,yT,xM _ hb]
 cases aT r.CJ <;> cases aT r.Cz <;> cases ls r.CF <;> rfl
def dp (n:Int) (i:Nat):Bool:=decide (n / 2 ^ i % 2=1)
theorem sX (n:Int) (m:Nat) (hm:m<9223372036854775808):bits .and .i64 n m=(((n % 18446744073709551616).toNat &&& m:Nat):Int):=by
 have e1:(BitVec.ofInt 64 n).toNat=(n % 18446744073709551616).toNat:=by simp[BitVec.toNat_ofInt]
 have e2:(BitVec.ofInt 64 (m:Int)).toNat=m:=by
  rw[BitVec.ofInt_natCast,BitVec.toNat_ofNat,Nat.mod_eq_of_lt (by omega)]
 show IntKind.i64.wrap (((BitVec.ofInt 64 n) &&& (BitVec.ofInt 64 (m:Int))).toNat:Int)= _
 rw[BitVec.toNat_and,e1,e2]
 have h:(n % 18446744073709551616).toNat &&& m≤m:=Nat.and_le_right
 rw[IntKind.wrap_i64]
 omega
theorem Am (n:Int) (i:Nat) (hi:i<64):(n % 18446744073709551616).toNat.testBit i=dp n i:=by
 have hs:(18446744073709551616:Int)=2 ^ i*2 ^ (64 - i):=by
  rw[← Int.pow_add,show i+(64 - i)=64 by omega]
  rfl
 have h2:(2:Int) ^ (64 - i)=2*2 ^ (63 - i):=by
  rw[show 64 - i=1+(63 - i) by omega,Int.pow_add]
  rfl
 rw[Nat.testBit_eq_decide_div_mod_eq,dp]
 have hp:(0:Int)<2 ^ i:=Int.pow_pos (by decide)
 have h4:n % 18446744073709551616 / 2 ^ i=n / 2 ^ i % 2 ^ (64 - i):=by
  have e:n % 18446744073709551616=n - 2 ^ i*(2 ^ (64 - i)*(n / 18446744073709551616)):=by
   have:=Int.emod_def n 18446744073709551616
   rw[this,hs,Int.mul_assoc]
  rw[e,Int.sub_mul_ediv_left _ _ (by omega),Int.emod_def,Int.ediv_ediv_of_nonneg (Int.le_of_lt hp),← hs]
 have h5:n / 2 ^ i % 2 ^ (64 - i) % 2=n / 2 ^ i % 2:=by
  rw[h2]
  exact Int.emod_emod_of_dvd _ ⟨_,rfl⟩
 have h6:(((n % 18446744073709551616).toNat / 2 ^ i % 2:Nat):Int)=n / 2 ^ i % 2:=by
  have e:((n % 18446744073709551616).toNat:Int)=n % 18446744073709551616:=by omega
  rw[Int.natCast_emod,Int.natCast_ediv,e,Int.natCast_pow]
  show n % 18446744073709551616 / 2 ^ i % 2= _
  rw[h4,h5]
 congr 1
 apply propext
 omega
theorem sY (n:Int) (i:Nat) (hi:i<63):(bits .and .i64 n ((2 ^ i:Nat):Int) != 0)=dp n i:=by
 have hm:2 ^ i<9223372036854775808:=Nat.lt_of_lt_of_eq (Nat.pow_lt_pow_right (by decide) hi) (show 2 ^ 63=9223372036854775808 by decide)
 rw[sX n _ hm,← Am n i (by omega)]
 generalize (n % 18446744073709551616).toNat=a
 cases h:a.testBit i with
 | true =>
  have:(a &&& 2 ^ i)≠0:=by
   intro h0
   have:=congrArg (fun x=>Nat.testBit x i) h0
   simp[h,Nat.testBit_two_pow_self] at this
  simp; omega
 | false =>
  have:(a &&& 2 ^ i)=0:=by
   apply Nat.eq_of_testBit_eq
   intro j
   rw[Nat.testBit_and,Nat.testBit_two_pow]
   by_cases hj:i=j
   ·subst hj; simp[h]
   ·simp[hj]
  simp[this]
theorem xO (n:Int):(bits .and .i64 n 7 != 0)=decide (n % 8≠0):=by
 have h:=sX n 7 (by decide)
 rw[show ((7:Nat):Int)=7 from rfl] at h
 rw[h,Nat.and_two_pow_sub_one_eq_mod _ 3]
 rw[Bool.eq_iff_iff]
 simp
 omega
theorem xP (n:Int) (h8:n % 8=0) (h0: -9223372036854775808≤n) (h1:n≤9223372036854775807):(bits .andNot .i64 n 56 != 0)=decide (n<0∨63<n):=by
 have e1:(BitVec.ofInt 64 n).toNat=(n % 18446744073709551616).toNat:=by simp[BitVec.toNat_ofInt]
 have e2:(~~~ BitVec.ofInt 64 (56:Int)).toNat=18446744073709551559:=by decide
 have e3:bits .andNot .i64 n 56=IntKind.i64.wrap (((BitVec.ofInt 64 n) &&& ~~~ (BitVec.ofInt 64 (56:Int))).toNat:Int):=rfl
 rw[e3,BitVec.toNat_and,e1,e2]
 have ha:(n % 18446744073709551616).toNat % 8=0:=by omega
 have hb:(n % 18446744073709551616).toNat<64 ↔ ¬ (n<0∨63<n):=by omega
 have hc:(n % 18446744073709551616).toNat<18446744073709551616:=by omega
 generalize (n % 18446744073709551616).toNat=a at *
 have hw: ∀ x:Nat,x<18446744073709551616→((IntKind.i64.wrap (x:Int) != 0)=decide (x≠0)):=by
  intro x hx
  rw[IntKind.wrap_i64,Bool.eq_iff_iff]
  simp
  omega
 rw[hw _ (Nat.lt_of_le_of_lt Nat.and_le_left hc)]
 by_cases h:a<64
 ·have:a=0∨a=8∨a=16∨a=24∨a=32∨a=40∨a=48∨a=56:=by omega
  have hz:a &&& 18446744073709551559=0:=by rcases this with rfl | rfl | rfl | rfl | rfl | rfl | rfl | rfl <;> decide
  simp[hz,hb.1 h]
 ·have hz:a &&& 18446744073709551559≠0:=by
   intro h0
   have h2:=congrArg (fun x=>x >>> 6) h0
   simp only[Nat.shiftRight_and_distrib] at h2
   rw[show 18446744073709551559 >>> 6=2 ^ 58 - 1 from rfl,Nat.and_two_pow_sub_one_eq_mod,Nat.shiftRight_eq_div_pow] at h2
   simp at h2
   omega
  have:n<0∨63<n:=by
   rcases Classical.em (n<0∨63<n) with h2 | h2
   ·exact h2
   ·exact absurd (hb.2 h2) h
  simp[hz,this]
theorem and_8 (n:Int):(bits .and .i64 n 8 != 0)=dp n 3:=sY n 3 (by decide)
theorem yU (n:Int):(bits .and .i64 n 16 != 0)=dp n 4:=sY n 4 (by decide)
theorem yV (n:Int):(bits .and .i64 n 32 != 0)=dp n 5:=sY n 5 (by decide)
theorem yW {a b:Int} {c:Bool} (h:(a != b)=c):(a == b)= !c:=by rw[← h,bne,Bool.not_not]
theorem xQ (n:Int) (w:World) :
 Calls Tryz.prog 144 #[.int .i64 n] w fun e w'=>e= .returned (.tuple #[.bool (dp n 3),.bool (dp n 4),.bool (dp n 5)])∧w=w':=by
 have H1:=Lib.hid (and_8 n)
 have H2:=Lib.hid (yU n)
 have H3:=Lib.hid (yV n)
 go_enter Tryz.func144,Tryz.ntmps144
 go_wp2
 go_ret3
 exact⟨congrArg Ending.returned (show (Value.tuple #[.bool (bits .and .i64 n 8 != 0),.bool (bits .and .i64 n 16 != 0),.bool (bits .and .i64 n 32 != 0)])= _ by rw[H1.out,H2.out,H3.out]),rfl⟩
def dv (n:Int):Int:=if n % 8≠0 then 9 else if n<0∨63<n∨(dp n 5=true∧dp n 4=false) then 8 else 0
theorem vF (n:Int) (h0: -9223372036854775808≤n) (h1:n≤9223372036854775807) (w:World) :
 Calls Tryz.prog 143 #[.int .i64 n] w fun e w'=>e= .returned (.int .i64 (dv n))∧w=w':=by
 have h7:=xO n
 by_cases h8:n % 8=0
 ·have ha:=xP n h8 h0 h1
  have h32:=yV n
  have h16:=yW (yU n)
  have H8:=Lib.hid h8
  simp only[h8] at h7
  by_cases hr:n<0∨63<n
  ·have HA:=Lib.hid (show dv n=8 by simp only[dv,h8]; rcases hr with h | h <;> simp[h])
   simp only[hr] at ha
   clear hr h8 h32 h16
   go_enter Fo,Fg
   go_wp2
   go_ret
   exact⟨gk (by rw[HA.out]),rfl⟩
  ·simp only[hr] at ha
   have HR:=Lib.hid hr
   clear hr h8
   cases b5:dp n 5 with
   | true =>
    cases b4:dp n 4 with
    | true =>
     have HA:=Lib.hid (show dv n=0 by have:=HR.out; simp[dv,H8.out,b5,b4]; omega)
     rw[b5] at h32
     rw[b4] at h16
     clear b5 b4
     go_enter Fo,Fg
     go_wp2
     go_ret
     exact⟨gk (by rw[HA.out]),rfl⟩
    | false =>
     have HA:=Lib.hid (show dv n=8 by simp[dv,H8.out,b5,b4])
     rw[b5] at h32
     rw[b4] at h16
     clear b5 b4
     go_enter Fo,Fg
     go_wp2
     go_ret
     exact⟨gk (by rw[HA.out]),rfl⟩
   | false =>
    have HA:=Lib.hid (show dv n=0 by have:=HR.out; simp[dv,H8.out,b5]; omega)
    rw[b5] at h32
    clear b5 h16
    go_enter Fo,Fg
    go_wp2
    go_ret
    exact⟨gk (by rw[HA.out]),rfl⟩
 ·have HA:=Lib.hid (show dv n=9 by simp[dv,h8])
  simp only[ne_eq,h8] at h7
  clear h8
  go_enter Fo,Fg
  go_wp2
  go_ret
  exact⟨gk (by rw[HA.out]),rfl⟩
def eJ (a t c:Bool):Int:=(if a then 8 else 0)+(if t then 16 else 0)+(if c then 32 else 0)
theorem ub {w W:World} (h:Below w.heap.size w W) (o:Obj):Below w.heap.size w (W.alloc o):=h.alloc h.size o
theorem Of_any (i0 i1 i5 i6 i7 i8 i9 i10:Int) (a t c:Bool) (A:Option Addr) (n k:Nat) (w:World) :
 Calls Tryz.prog 97 #[.agg #[.int .i64 i0,.int .i64 i1,.bool a,.bool t,.bool c,.int .i64 i5,.int .i64 i6,.int .i64 i7,.int .i64 i8,.int .i64 i9,.int .i64 i10,.slice A n k]] w fun e w' =>
  e= .returned (.int .i64 (eJ a t c))∧Below w.heap.size w w':=by
 have ix: ∀ (x0 x1 x2 x3 x4 x5: Value),(∀ w:World,(Instr.index 198 (.agg #[x0,x1,x2,x3,x4,x5]) (.int .i64 0)).run Tryz.prog w= .ok (.agg #[x0,x1]) w)∧(∀ w:World,(Instr.index 198 (.agg #[x0,x1,x2,x3,x4,x5]) (.int .i64 1)).run Tryz.prog w= .ok (.agg #[x2,x3]) w)∧(∀ w:World,(Instr.index 198 (.agg #[x0,x1,x2,x3,x4,x5]) (.int .i64 2)).run Tryz.prog w= .ok (.agg #[x4,x5]) w):=fun _ _ _ _ _ _=>⟨fun _=>by kernel_rfl,fun _=>by kernel_rfl,fun _=>by kernel_rfl⟩
 cases a <;> cases t <;> cases c <;>
 ·go_enter Tryz.func97,Tryz.ntmps97
  go_wp2_with fail
  refine wp_loop_rounds 4 ?_
  rw[rounds_succ]
  go_wp2_with fail
  rw[rounds_succ]
  go_wp2_with fail
  rw[rounds_succ]
  go_wp2_with fail
  rw[rounds_succ]
  go_wp2_with fail
  go_ret
  exact⟨rfl,by repeat (first | exact Below.refl _ _ | refine ub ?_ _)⟩
theorem An (i0 i1 i5 i6 i7 i8 i9 i10:Int) (a t c:Bool) (A:Option Addr) (n k:Nat) :
 gi Tryz.prog 97 #[.agg #[.int .i64 i0,.int .i64 i1,.bool a,.bool t,.bool c,.int .i64 i5,.int .i64 i6,.int .i64 i7,.int .i64 i8,.int .i64 i9,.int .i64 i10,.slice A n k]] (fun v N=>v= .int .i64 (eJ a t c)∧N = []):=by
 intro w
 refine (Of_any i0 i1 i5 i6 i7 i8 i9 i10 a t c A n k w).mono ?_
 rintro e w' ⟨rfl,hb⟩
 exact⟨_,_,rfl,⟨rfl,rfl⟩,B7 hb,trivial⟩
def vG (n:Int):Option (Bool×Bool×Bool):=some (dp n 3,dp n 4,dp n 5)
theorem xR (n:Int):vG n=some (dp n 3,dp n 4,dp n 5):=rfl
theorem uc (n:Int) (r:Bool×Bool×Bool) (h:vG n=some r) (w:World):Calls Tryz.prog 144 #[.int .i64 n] w fun e w'=>e= .returned (.tuple #[.bool r.1,.bool r.2.1,.bool r.2.2])∧w=w':=by
 obtain rfl:=C8 h
 exact xQ n w
def sZ (n:Int):Option Int:=if -9223372036854775808≤n∧n≤9223372036854775807 then some (dv n) else none
theorem vH (n:Int) (h: -9223372036854775808≤n∧n≤9223372036854775807):sZ n=some (dv n):=if_pos h
theorem s5 (n:Int) (r:Int) (h:sZ n=some r) (w:World):Calls Tryz.prog 143 #[.int .i64 n] w fun e w'=>e= .returned (.int .i64 r)∧w=w':=by
 obtain⟨h1,h⟩:=an h
 obtain rfl:=C8 h
 exact vF n h1.1 h1.2 w
def gAOf (b:Bat):Option Int:=some (eJ b.CV b.C0 b.CL)
theorem Ao (b:Bat):gAOf b=some (eJ b.CV b.C0 b.CL):=rfl
theorem rZ (b:Bat) (A:Option Addr) (c:Nat) (r:Int) (h:gAOf b=some r):aA Tryz.prog 97 #[.agg #[.int .i64 b.CP,.int .i64 b.CI,.bool b.CV,.bool b.C0,.bool b.CL,.int .i64 b.CN,.int .i64 b.CH,.int .i64 b.CW,.int .i64 b.CE,.int .i64 b.CK,.int .i64 b.CD,.slice A b.Cy.length c]]
 (RX.of (ar 7 aU) [.slice A b.Cy.length c] b.Cy) aD (fun u A' N=>u= .int .i64 r∧A'=aD∧N = []):=by
 obtain rfl:=C8 h
 exact BK (An _ _ _ _ _ _ _ _ _ _ _ _ _ _)
def vI:fh := [(35,0,0),(35,1,1),(38,1,1),(38,2,2),(38,3,4),(38,4,6)]
theorem aw:(vI).OK Tryz.prog:=⟨FOK.mk DM rfl DP rfl,FOK.mk DM rfl DT rfl,FOK.mk Dw rfl De rfl,FOK.mk Dw rfl Dk rfl,FOK.mk Dw rfl Dk rfl,FOK.mk Dw rfl ED rfl,trivial⟩
def cg (st:I)  : Option (I):=(fM st 2).bind fun (x1,st2)=>if x1=0 then some st2 else ((bD st2 7).bind fun st5=>some st5)
theorem gq (g:Nat) (st:I)  (r:I) (h:cg st  = some r):aA Tryz.prog 146 #[jP g] .triv (InR g st) (fun v A' N=>v= .tuple #[]∧A'=InR g r∧N = []):=by
 refine aM Tryz.func146 Z Tryz.ntmps146 Z ?_
 intro F w hX
 unfold cg at h
 refine T.seq (T.region Z ?_)
 obtain⟨⟨x1,st2⟩,hx3,h⟩:=C5 h
 try dsimp only at h
 refine TL.run aw [0] Z Z (Bu Z .u (.fn Tryz.call57 Z) (bR g st 2 _ hx3) (fun _ hs=>(Src.triv _)) Z (TL.run aw [2] Z Z ?_))
 rcases jF h with⟨c4,h⟩ | ⟨c4,h⟩
 ·refine TL.nil (X.seq (AS Z (ax (C6 c4)) ?_))
  obtain rfl:=C8 h
  exact T.skip (B5 [0] Tryz.results146 ⟨Z,Z,Z⟩ (by rfl) (.inr Z))
 ·refine TL.nil (X.seq (AN Z (aF (C7 c4)) (T.region Z ?_)))
  obtain⟨st5,hx6,h⟩:=C5 h
  refine TL.run aw [0] Z Z (Bu Z .u (.fn Tryz.call61 Z) (bi g st2 7 _ hx6) (fun _ hs=>(Src.triv _)) Z ?_)
  obtain rfl:=C8 h
  exact TL.nil (B5 [0] Tryz.results146 ⟨Z,Z,Z⟩ (by rfl) (.inr Z))
def cK (a0:List UInt8):Option (Int×Int):=(rp a0).bind fun st1=>(cg st1).bind fun st4=>(fM st4 2).bind fun (x6,st7)=>if x6=0 then ((du st7).bind fun (x10,st11)=>if x10=0 then some (x6,0) else some (0,x10)) else (if x6=1 then ((du st7).bind fun (x15,st16)=>if x15=0 then some (x6,0) else some (0,x15)) else ((bD st7 12).bind fun st19=>(du st19).bind fun (x21,st22)=>if x21=0 then some (x6,0) else some (0,x21)))
theorem ky (a0:List UInt8) (r:Int×Int) (h:cK a0=some r):aA Tryz.prog 111 #[jS a0] .triv (aD) (fun v A' N=>v= .tuple #[jI r.1,jI r.2]∧A'=aD∧N = []):=by
 refine aM Tryz.func111 Z Tryz.ntmps111 Z ?_
 intro F w hX
 unfold cK at h
 refine T.seq (T.region Z (TL.run aw [0,1] Z Z (TL.nil (X.seq (T.seq (T.region Z ?_))))))
 obtain⟨st1,hx2,h⟩:=C5 h
 refine TL.run aw [0] Z Z (B0 Z .u (.fn Tryz.call18 Z) (iN a0 _ hx2) (fun _ hs=>(AQ _ _)) Z ?_)
 rintro _ _ _ ⟨b3,rfl,rfl,rfl⟩
 refine Bp [0,0] Z (TL.run aw [2] Z Z (TL.nil (X.seq (T.seq (T.region Z ?_)))))
 obtain⟨st4,hx5,h⟩:=C5 h
 refine TL.run aw [0] Z Z (Bu Z .u (.fn Tryz.call146 Z) (gq b3 st1 _ hx5) (fun _ hs=>(Src.triv _)) Z (TL.nil (X.seq (T.seq (T.region Z ?_)))))
 obtain⟨⟨x6,st7⟩,hx8,h⟩:=C5 h
 try dsimp only at h
 refine TL.run aw [0] Z Z (Bu Z .u (.fn Tryz.call57 Z) (bR b3 st4 2 _ hx8) (fun _ hs=>(Src.triv _)) Z (TL.run aw [2] Z Z (TL.nil (X.seq (T.seq (T.seq (T.region Z ?_)))))))
 rcases jF h with⟨c9,h⟩ | ⟨c9,h⟩
 ·refine TL.run aw [0,1,2] Z Z ?_
  iterate 2 refine AM Z (.gn Z Z (ax (C6 c9))) Z ?_
  refine TL.q Z .u (AR Z (ax (C6 c9)) Z) Z (TL.nil (X.seq (AS Z Z (T.skip (X.seq (T.seq (T.seq (T.region Z ?_))))))))
  obtain⟨⟨x10,st11⟩,hx12,h⟩:=C5 h
  try dsimp only at h
  refine TL.run aw [0] Z Z (Bu Z .u (.fn Tryz.call32 Z) (dB b3 st7 _ hx12) (fun _ hs=>(Src.triv _)) Z (TL.run aw [2] Z Z (TL.nil (X.seq (T.seq (T.region Z (TL.run aw [0,1] Z Z ?_)))))))
  rcases jF h with⟨c13,h⟩ | ⟨c13,h⟩
  ·refine TL.nil (X.seq (AS Z (ax (C6 c13)) (T.skip (X.seq (T.seq (T.region Z (TL.run aw [0,1,2] Z Z ?_)))))))
   obtain rfl:=C8 h
   exact TL.nil (X.seq (T.ret (Bi [1] EO (AK Z) (AK Z) ⟨Z,Z,Z⟩ (by rfl) (.inl Z))))
  ·refine TL.nil (X.seq (AN Z (aF (C7 c13)) (T.seq (T.region Z (TL.run aw [0,1,2] Z Z ?_)))))
   obtain rfl:=C8 h
   exact TL.nil (X.seq (T.ret (AL (Bi [1] EO (AK Z) (AK Z) ⟨Z,Z,Z⟩ (by rfl) (.inl Z)))))
 ·refine TL.run aw [0,1,2] Z Z ?_
  iterate 2 refine TL.q Z (.g Z Z (aF (C7 c9))) (AO aw Z) Z ?_
  refine TL.q Z .u (AP Z (aF (C7 c9)) Z) Z ?_
  rcases jF h with⟨c14,h⟩ | ⟨c14,h⟩
  ·refine TL.nil (X.seq (AS Z (ax (C6 c14)) (T.skip (X.seq (T.seq (T.seq (T.region Z ?_)))))))
   obtain⟨⟨x15,st16⟩,hx17,h⟩:=C5 h
   try dsimp only at h
   refine TL.run aw [0] Z Z (Bu Z .u (.fn Tryz.call32 Z) (dB b3 st7 _ hx17) (fun _ hs=>(Src.triv _)) Z (TL.run aw [2] Z Z (TL.nil (X.seq (T.seq (T.region Z (TL.run aw [0,1] Z Z ?_)))))))
   rcases jF h with⟨c18,h⟩ | ⟨c18,h⟩
   ·refine TL.nil (X.seq (AS Z (ax (C6 c18)) (T.skip (X.seq (T.seq (T.region Z (TL.run aw [0,1,2] Z Z ?_)))))))
    obtain rfl:=C8 h
    exact TL.nil (X.seq (T.ret (Bi [1] EO (AK Z) (AK Z) ⟨Z,Z,Z⟩ (by rfl) (.inl Z))))
   ·refine TL.nil (X.seq (AN Z (aF (C7 c18)) (T.seq (T.region Z (TL.run aw [0,1,2] Z Z ?_)))))
    obtain rfl:=C8 h
    exact TL.nil (X.seq (T.ret (AL (Bi [1] EO (AK Z) (AK Z) ⟨Z,Z,Z⟩ (by rfl) (.inl Z)))))
  ·refine TL.nil (X.seq (AN Z (aF (C7 c14)) (T.region Z ?_)))
   obtain⟨st19,hx20,h⟩:=C5 h
   refine TL.run aw [0] Z Z (Bu Z .u (.fn Tryz.call61 Z) (bi b3 st7 12 _ hx20) (fun _ hs=>(Src.triv _)) Z (TL.nil (X.seq (T.seq (T.seq (T.region Z ?_))))))
   obtain⟨⟨x21,st22⟩,hx23,h⟩:=C5 h
   try dsimp only at h
   refine TL.run aw [0] Z Z (Bu Z .u (.fn Tryz.call32 Z) (dB b3 st19 _ hx23) (fun _ hs=>(Src.triv _)) Z (TL.run aw [2] Z Z (TL.nil (X.seq (T.seq (T.region Z (TL.run aw [0,1] Z Z ?_)))))))
   rcases jF h with⟨c24,h⟩ | ⟨c24,h⟩
   ·refine TL.nil (X.seq (AS Z (ax (C6 c24)) (T.skip (X.seq (T.seq (T.region Z (TL.run aw [0,1,2] Z Z ?_)))))))
    obtain rfl:=C8 h
    exact TL.nil (X.seq (T.ret (Bi [1] EO (AK Z) (AK Z) ⟨Z,Z,Z⟩ (by rfl) (.inl Z))))
   ·refine TL.nil (X.seq (AN Z (aF (C7 c24)) (T.seq (T.region Z (TL.run aw [0,1,2] Z Z ?_)))))
    obtain rfl:=C8 h
    exact TL.nil (X.seq (T.ret (AL (Bi [1] EO (AK Z) (AK Z) ⟨Z,Z,Z⟩ (by rfl) (.inl Z)))))
def cc (a0:List UInt8):Option (Int×Int):=(rp a0).bind fun st1=>(cg st1).bind fun st4=>(fM st4 4).bind fun (x6,st7)=>if x6<0 then ((bD st7 11).bind fun st10=>(du st10).bind fun (x12,st13)=>if x12=0 then some (x6,0) else some (0,x12)) else ((du st7).bind fun (x16,st17)=>if x16=0 then some (x6,0) else some (0,x16))
theorem jM (a0:List UInt8) (r:Int×Int) (h:cc a0=some r):aA Tryz.prog 112 #[jS a0] .triv (aD) (fun v A' N=>v= .tuple #[jI r.1,jI r.2]∧A'=aD∧N = []):=by
 refine aM Tryz.func112 Z Tryz.ntmps112 Z ?_
 intro F w hX
 unfold cc at h
 refine T.seq (T.region Z (TL.run aw [0,1] Z Z (TL.nil (X.seq (T.seq (T.region Z ?_))))))
 obtain⟨st1,hx2,h⟩:=C5 h
 refine TL.run aw [0] Z Z (B0 Z .u (.fn Tryz.call18 Z) (iN a0 _ hx2) (fun _ hs=>(AQ _ _)) Z ?_)
 rintro _ _ _ ⟨b3,rfl,rfl,rfl⟩
 refine Bp [0,0] Z (TL.run aw [2] Z Z (TL.nil (X.seq (T.seq (T.region Z ?_)))))
 obtain⟨st4,hx5,h⟩:=C5 h
 refine TL.run aw [0] Z Z (Bu Z .u (.fn Tryz.call146 Z) (gq b3 st1 _ hx5) (fun _ hs=>(Src.triv _)) Z (TL.nil (X.seq (T.seq (T.region Z ?_)))))
 obtain⟨⟨x6,st7⟩,hx8,h⟩:=C5 h
 try dsimp only at h
 refine TL.run aw [0] Z Z (Bu Z .u (.fn Tryz.call57 Z) (bR b3 st4 4 _ hx8) (fun _ hs=>(Src.triv _)) Z (TL.run aw [2] Z Z (TL.nil (X.seq (T.seq (T.seq (T.region Z (TL.run aw [0,1] Z Z ?_))))))))
 rcases jF h with⟨c9,h⟩ | ⟨c9,h⟩
 ·refine TL.nil (X.seq (AN Z (C6 c9) (T.region Z ?_)))
  obtain⟨st10,hx11,h⟩:=C5 h
  refine TL.run aw [0] Z Z (Bu Z .u (.fn Tryz.call61 Z) (bi b3 st7 11 _ hx11) (fun _ hs=>(Src.triv _)) Z (TL.nil (X.seq (T.seq (T.seq (T.region Z ?_))))))
  obtain⟨⟨x12,st13⟩,hx14,h⟩:=C5 h
  try dsimp only at h
  refine TL.run aw [0] Z Z (Bu Z .u (.fn Tryz.call32 Z) (dB b3 st10 _ hx14) (fun _ hs=>(Src.triv _)) Z (TL.run aw [2] Z Z (TL.nil (X.seq (T.seq (T.region Z (TL.run aw [0,1] Z Z ?_)))))))
  rcases jF h with⟨c15,h⟩ | ⟨c15,h⟩
  ·refine TL.nil (X.seq (AS Z (ax (C6 c15)) (T.skip (X.seq (T.seq (T.region Z (TL.run aw [0,1,2] Z Z ?_)))))))
   obtain rfl:=C8 h
   exact TL.nil (X.seq (T.ret (Bi [1] Fp (AK Z) (AK Z) ⟨Z,Z,Z⟩ (by rfl) (.inl Z))))
  ·refine TL.nil (X.seq (AN Z (aF (C7 c15)) (T.seq (T.region Z (TL.run aw [0,1,2] Z Z ?_)))))
   obtain rfl:=C8 h
   exact TL.nil (X.seq (T.ret (AL (Bi [1] Fp (AK Z) (AK Z) ⟨Z,Z,Z⟩ (by rfl) (.inl Z)))))
 ·refine TL.nil (X.seq (AS Z (C7 c9) (T.skip (X.seq (T.seq (T.seq (T.region Z ?_)))))))
  obtain⟨⟨x16,st17⟩,hx18,h⟩:=C5 h
  try dsimp only at h
  refine TL.run aw [0] Z Z (Bu Z .u (.fn Tryz.call32 Z) (dB b3 st7 _ hx18) (fun _ hs=>(Src.triv _)) Z (TL.run aw [2] Z Z (TL.nil (X.seq (T.seq (T.region Z (TL.run aw [0,1] Z Z ?_)))))))
  rcases jF h with⟨c19,h⟩ | ⟨c19,h⟩
  ·refine TL.nil (X.seq (AS Z (ax (C6 c19)) (T.skip (X.seq (T.seq (T.region Z (TL.run aw [0,1,2] Z Z ?_)))))))
   obtain rfl:=C8 h
   exact TL.nil (X.seq (T.ret (Bi [1] Fp (AK Z) (AK Z) ⟨Z,Z,Z⟩ (by rfl) (.inl Z))))
  ·refine TL.nil (X.seq (AN Z (aF (C7 c19)) (T.seq (T.region Z (TL.run aw [0,1,2] Z Z ?_)))))
   obtain rfl:=C8 h
   exact TL.nil (X.seq (T.ret (AL (Bi [1] Fp (AK Z) (AK Z) ⟨Z,Z,Z⟩ (by rfl) (.inl Z)))))
def cn (a0:Rec):Option (Int×Int×Int):=if a0.CJ.null=true then some (0,0,12) else (if a0.Cz.null=true then some (0,0,12) else (if (a0.CF.length:Int)>0 then some (0,0,12) else (if a0.CU=0 then ((cK a0.CJ.data).bind fun (x8,x9)=>if x9=0 then ((cc a0.Cz.data).bind fun (x12,x13)=>if x13=0 then some (x8,x12,0) else some (0,0,x13)) else some (0,0,x9)) else some (0,0,12))))
theorem l7 (a0:Rec) (A1:Option Addr) (c2:Nat) (r:Int×Int×Int) (h:cn a0=some r):aA Tryz.prog 50 #[.agg #[jI a0.CY,jI a0.CU,.bool a0.CJ.null,jS a0.CJ.data,.bool a0.Cz.null,jS a0.Cz.data,.slice A1 a0.CF.length c2]] (RX.of (ar 3 bG) [.slice A1 a0.CF.length c2] a0.CF) (aD) (fun v A' N=>v= .tuple #[jI r.1,jI r.2.1,jI r.2.2]∧A'=aD∧N = []):=by
 refine aM Tryz.func50 Z Tryz.ntmps50 Z ?_
 intro F w hX
 unfold cn at h
 refine T.seq (T.region Z (TL.box Z .u Z Z (fun b3=>(TL.run aw [1,2,3] Z Z (TL.nil (X.seq (T.seq (T.seq (T.region Z (TL.run aw [0,1] Z Z (TL.q Z .u (AH 0 Z Do Z Z) Z ?_)))))))))))
 rcases jF h with⟨c4,h⟩ | ⟨c4,h⟩
 ·refine TL.run aw [3] Z Z ?_
  iterate 3 refine AM Z (.gn Z Z c4) Z ?_
  refine TL.q Z .u (AP Z c4 Z) Z (TL.run aw [8] Z Z ?_)
  iterate 4 refine AM Z (.gn Z Z Z) Z ?_
  refine TL.q Z .u (AP Z Z Z) Z (TL.run aw [14] Z Z ?_)
  iterate 3 refine AM Z (.gn Z Z Z) Z ?_
  refine TL.q Z .u (AP Z Z Z) Z (TL.nil (X.seq (AN Z Z (T.seq (T.region Z (TL.run aw [0,1,2] Z Z ?_))))))
  obtain rfl:=C8 h
  exact TL.nil (X.seq (T.ret (AL (BP [1] EH (AK Z) (AK Z) (AK Z) ⟨Z,Z,Z⟩ (by rfl) (.inl Z)))))
 ·replace c4:=Dd c4
  refine TL.run aw [3] Z Z ?_
  iterate 2 refine TL.q Z (.g Z Z c4) (AO aw Z) Z ?_
  refine TL.q Z (.g Z Z c4) (AH 0 Z Do Z Z) Z (TL.q Z .u (AR Z c4 Z) Z ?_)
  rcases jF h with⟨c5,h⟩ | ⟨c5,h⟩
  ·refine TL.run aw [8] Z Z ?_
   iterate 4 refine AM Z (.gn Z Z c5) Z ?_
   refine TL.q Z .u (AP Z c5 Z) Z (TL.run aw [14] Z Z ?_)
   iterate 3 refine AM Z (.gn Z Z Z) Z ?_
   refine TL.q Z .u (AP Z Z Z) Z (TL.nil (X.seq (AN Z Z (T.seq (T.region Z (TL.run aw [0,1,2] Z Z ?_))))))
   obtain rfl:=C8 h
   exact TL.nil (X.seq (T.ret (AL (BP [1] EH (AK Z) (AK Z) (AK Z) ⟨Z,Z,Z⟩ (by rfl) (.inl Z)))))
  ·replace c5:=Dd c5
   refine TL.run aw [8] Z Z (TL.q Z (.g Z Z c5) (AO aw Z) Z (TL.q Z (.g Z Z c5) (AH 0 Z Eh Z Z) Z (TL.q Z (.g Z Z c5) (AW Z Dt) Z (TL.q Z (.g Z Z c5) (AO aw Z) Z (TL.q Z .u (AR Z c5 Z) Z ?_)))))
   rcases jF h with⟨c6,h⟩ | ⟨c6,h⟩
   ·refine TL.run aw [14] Z Z ?_
    iterate 3 refine AM Z (.gn Z Z (C6 c6)) Z ?_
    refine TL.q Z .u (AP Z (C6 c6) Z) Z (TL.nil (X.seq (AN Z Z (T.seq (T.region Z (TL.run aw [0,1,2] Z Z ?_))))))
    obtain rfl:=C8 h
    exact TL.nil (X.seq (T.ret (AL (BP [1] EH (AK Z) (AK Z) (AK Z) ⟨Z,Z,Z⟩ (by rfl) (.inl Z)))))
   ·refine TL.run aw [14] Z Z (TL.q Z (.g Z Z (C7 c6)) (AO aw Z) Z (TL.q Z (.g Z Z (C7 c6)) (AH 0 Z Dc Z Z) Z (TL.q Z (.g Z Z (C7 c6)) (AO aw Z) Z (TL.q Z .u (AR Z (C7 c6) Z) Z ?_))))
    rcases jF h with⟨c7,h⟩ | ⟨c7,h⟩
    ·refine TL.nil (X.seq (AS Z (ax (C6 c7)) (T.skip (X.seq (T.seq (T.seq (T.region Z (TL.run aw [0,1] Z Z (TL.q Z .u (AH 0 Z Dz Z Z) Z ?_)))))))))
     obtain⟨⟨x8,x9⟩,hx10,h⟩:=C5 h
     try dsimp only at h
     refine Bc Z .u (.fn Tryz.call111 Z) (ky a0.CJ.data _ hx10) (fun _ hs=>(AQ _ _)) Z (TL.run aw [4,5,6,7,8] Z Z (TL.nil (X.seq (T.seq (T.region Z (TL.run aw [0,1] Z Z ?_))))))
     rcases jF h with⟨c11,h⟩ | ⟨c11,h⟩
     ·refine TL.nil (X.seq (AS Z (ax (C6 c11)) (T.skip (X.seq (T.seq (T.seq (T.region Z (TL.run aw [0,1] Z Z (TL.q Z .u (AH 0 Z Dz Z Z) Z ?_)))))))))
      obtain⟨⟨x12,x13⟩,hx14,h⟩:=C5 h
      try dsimp only at h
      refine Bc Z .u (.fn Tryz.call112 Z) (jM a0.Cz.data _ hx14) (fun _ hs=>(AQ _ _)) Z (TL.run aw [4,5,6,7,8] Z Z (TL.nil (X.seq (T.seq (T.region Z (TL.run aw [0,1] Z Z ?_))))))
      rcases jF h with⟨c15,h⟩ | ⟨c15,h⟩
      ·refine TL.nil (X.seq (AS Z (ax (C6 c15)) (T.skip (X.seq (T.seq (T.region Z (TL.run aw [0,1,2,3,4] Z Z ?_)))))))
       obtain rfl:=C8 h
       exact TL.nil (X.seq (T.ret (BP [1] EH (AK Z) (AK Z) (AK Z) ⟨Z,Z,Z⟩ (by rfl) (.inl Z))))
      ·refine TL.nil (X.seq (AN Z (aF (C7 c15)) (T.seq (T.region Z (TL.run aw [0,1,2,3] Z Z ?_)))))
       obtain rfl:=C8 h
       exact TL.nil (X.seq (T.ret (AL (BP [1] EH (AK Z) (AK Z) (AK Z) ⟨Z,Z,Z⟩ (by rfl) (.inl Z)))))
     ·refine TL.nil (X.seq (AN Z (aF (C7 c11)) (T.seq (T.region Z (TL.run aw [0,1,2,3] Z Z ?_)))))
      obtain rfl:=C8 h
      exact TL.nil (X.seq (T.ret (AL (BP [1] EH (AK Z) (AK Z) (AK Z) ⟨Z,Z,Z⟩ (by rfl) (.inl Z)))))
    ·refine TL.nil (X.seq (AN Z (aF (C7 c7)) (T.seq (T.region Z (TL.run aw [0,1,2] Z Z ?_)))))
     obtain rfl:=C8 h
     exact TL.nil (X.seq (T.ret (AL (BP [1] EH (AK Z) (AK Z) (AK Z) ⟨Z,Z,Z⟩ (by rfl) (.inl Z)))))
def ft_crc:fh := []
theorem aK:(ft_crc).OK Tryz.prog:=trivial
theorem Ap:Tryz.prog.follows .mixedOrders=true:=by kernel_rfl
def dX:Nat→Int→Nat→Option (Int×Nat)
 | 0,_,_=>none
 | m40+1,y35,k36=>if (k36:Int)<8 then ((if (Go.bits .and .u32 y35 1)=1 then (some (Go.bits .xor .u32 (rv .u32 y35 1) 2197175160)) else some (rv .u32 y35 1)).bind fun y46=>if -9223372036854775808≤((k36:Int)+1)∧((k36:Int)+1)≤9223372036854775807 then (dX m40 y46 (k36+1)) else none) else some (y35,k36)
def eK:Nat→Nat→List Int→Option (Nat×List Int)
 | 0,_,_=>none
 | m7+1,k2,st3=>if (k2:Int)<256 then (((dX ((8:Int).toNat+1) (IntKind.u32.wrap (k2:Int)) 0).bind fun (y52,k53)=>(st3[k2]?).bind fun x54=>some (st3.set k2 y52)).bind fun st33=>if -9223372036854775808≤((k2:Int)+1)∧((k2:Int)+1)≤9223372036854775807 then (eK m7 (k2+1) st33) else none) else some (k2,st3)
def iQ  : Option (List Int):=(eK ((256:Int).toNat+1) 0 (List.replicate 256 (0:Int))).bind fun (k57,st58)=>some st58
theorem gr  (r:List Int) (h:iQ  = some r):aA Tryz.prog 99 #[] .triv (aD) (fun v A' N=> ∃ q:Nat,v=jP q∧A'=aD∧N = [ju 205 q r]):=by
 refine aM Tryz.func99 Z Tryz.ntmps99 Z ?_
 intro F w hX
 unfold iQ at h
 refine T.seq (T.region Z (TL.run aK [0] Z Z (TL.nil (X.seq (T.seq (T.region Z (TL.q Z .u (Ex.bldZ Tryz.zeroValue205 Fj Fq) Z ?_)))))))
 refine TL.tNew Z .u Z (by kernel_rfl) Z (fun b1=> ?_)
 refine TL.run aK [2] Z Z (TL.nil (X.seq (T.seq (T.seq (T.region Z (TL.run aK [0] Z Z (TL.nil (X.seq (T.block ?_)))))))))
 obtain⟨E4,hE5,hO6⟩:=C5 h
 refine Bj (fun m e Rs=> ∃ (k2:Nat) (st3:List Int),e = [(0,.pointer none),(1,jP b1),(6,jI (k2:Int))]∧Rs = [ju 205 b1 st3,aD]∧eK m k2 st3=some E4) ((256:Int).toNat+1) [0,0] ⟨0,(List.replicate 256 (0:Int)),Z,Z,by exact hE5⟩ (by rfl) (by rfl) ?_
 rintro m7 _ _ ⟨k2,st3,rfl,rfl,hl9⟩
 clear hE5 h
 cases m7 with
 | zero =>
  rw[eK] at hl9
  cases hl9
 | succ m7 =>
  have h:=hl9
  clear hl9
  rw[eK] at h
  refine T.seq (T.region Z (TL.run aK [0] Z Z ?_))
  rcases jF h with⟨c11,h⟩ | ⟨c11,h⟩
  ·refine TL.nil (X.seq (T.seq (AN Z (C6 c11) (T.skip (X.seq (T.seq ?_))))))
   obtain⟨st33,h,hk34⟩:=C5 h
   refine BE (fun e Rs=>e = [(0,.pointer none),(1,jP b1),(6,jI (k2:Int))]∧Rs = [ju 205 b1 st33,aD]) ?_ ?_
   ·clear hk34
    refine T.block (T.seq (T.region Z (TL.run aK [0,1] Z Z (TL.nil (X.seq (T.seq (T.region Z (TL.run aK [0] Z Z (TL.q Z .u (Cp Z D7 D5) Z (TL.run aK [2] Z Z (TL.nil (X.seq (T.seq (T.seq (T.region Z (TL.run aK [0] Z Z ?_))))))))))))))))
    refine TL.nil (X.seq (T.block ?_))
    obtain⟨E37,hE38,hO39⟩:=C5 h
    refine Bj (fun m e Rs=> ∃ (y35:Int) (k36:Nat),e = [(0,.pointer none),(1,jP b1),(2,jI (k2:Int)),(3,.int .u32 y35),(6,jI (k2:Int)),(11,jI (k36:Int))]∧Rs = [ju 205 b1 st3,aD]∧dX m y35 k36=some E37) ((8:Int).toNat+1) [0,0] ⟨(IntKind.u32.wrap (k2:Int)),0,Z,Z,by exact hE38⟩ (by rfl) (by rfl) ?_
    rintro m40 _ _ ⟨y35,k36,rfl,rfl,hl42⟩
    clear hE38 h
    cases m40 with
    | zero =>
     rw[dX] at hl42
     cases hl42
    | succ m40 =>
     have h:=hl42
     clear hl42
     rw[dX] at h
     refine T.seq (T.region Z (TL.run aK [0] Z Z ?_))
     rcases jF h with⟨c44,h⟩ | ⟨c44,h⟩
     ·refine TL.nil (X.seq (T.seq (AN Z (C6 c44) (T.skip (X.seq (T.seq (T.block (T.seq (T.region Z (TL.run aK [0] Z Z (TL.q Z .u (Ex.bitw Z Z Z) Z (TL.run aK [2] Z Z (TL.nil (X.seq ?_))))))))))))))
      obtain⟨y46,h,hk47⟩:=C5 h
      refine BE (fun e Rs=>e = [(0,.pointer none),(1,jP b1),(2,jI (k2:Int)),(3,.int .u32 y46),(6,jI (k2:Int)),(11,jI (k36:Int))]∧Rs = [ju 205 b1 st3,aD]) ?_ ?_
      ·clear hk47
       rcases jF h with⟨c48,h⟩ | ⟨c48,h⟩
       ·refine AN Z (C6 c48) (T.region Z (TL.run aK [0] Z Z (TL.q Z .u (Ex.shr Z Z (by decide)) Z (TL.q Z .u (Ex.bitw Z Z Z) Z (TL.run aK [3] Z Z ?_)))))
        cases h
        exact TL.nil (A5 [0,0] ⟨Z,Z⟩ (by rfl) (by rfl))
       ·refine AS Z (C7 c48) (T.region Z (TL.run aK [0] Z Z (TL.q Z .u (Ex.shr Z Z (by decide)) Z (TL.run aK [2] Z Z ?_))))
        cases h
        exact TL.nil (A5 [0,0] ⟨Z,Z⟩ (by rfl) (by rfl))
      ·rintro _ _ ⟨rfl,rfl⟩
       clear h
       have h:=hk47
       clear hk47
       try dsimp only at h
       replace h:=an h
       obtain⟨c49,h⟩:=h
       exact AZ (X.seq (T.region Z (TL.q Z .u (Ex.add Z Z c49) Z (TL.run aK [1] Z Z (TL.nil (X.back (m':=m40) [0,0] (by omega) ⟨y46,k36+1,Z,Z,h⟩ (by rfl) (by rfl)))))))
     ·refine TL.nil (X.seq (T.seq (AS Z (C7 c44) ?_)))
      obtain rfl:=C8 h
      replace h:=hO39
      clear hO39
      try dsimp only at h
      refine T.exit (AV (AV (Bh (X.seq (T.region Z ?_)))))
      obtain⟨x50,hx51,h⟩:=C5 h
      refine TL.run aK [0,1,2,3] Z Z (TL.q Z .u (Ex.tIx (k:=k2) 0 Z Z Z Fj Fq Z hx51) Z (TL.tSt (k:=k2) 0 Z .u Z Z Fq Z hx51 (Bp [0,0] Z ?_)))
      cases h
      exact TL.nil (AZ (A5 [0,0] ⟨Z,Z⟩ (by rfl) (by rfl)))
   ·rintro _ _ ⟨rfl,rfl⟩
    clear h
    have h:=hk34
    clear hk34
    try dsimp only at h
    replace h:=an h
    obtain⟨c56,h⟩:=h
    exact X.seq (T.region Z (TL.q Z .u (Ex.add Z Z c56) Z (TL.run aK [1] Z Z (TL.nil (X.back (m':=m7) [0,0] (by omega) ⟨k2+1,st33,Z,Z,h⟩ (by rfl) (by rfl))))))
  ·refine TL.nil (X.seq (T.seq (AS Z (C7 c11) ?_)))
   obtain rfl:=C8 h
   replace h:=hO6
   clear hO6
   try dsimp only at h
   refine T.exit (AV (AV (Bh (X.seq (T.seq (T.region Z (TL.run aK [0,1] Z Z ?_)))))))
   obtain rfl:=C8 h
   exact TL.nil (X.seq (T.ret (AJ [1,0] Tryz.results99 (AK Z) ⟨_,Z,Z,Z⟩ (by rfl) (.inl Z))))
def cD (a2:List UInt8):Nat→Int→Nat→List Int→Option (Int×Nat×List Int)
 | 0,_,_,_=>none
 | m7+1,y1,k2,st3=>if (k2:Int)<(a2.length:Int) then ((a2[k2]?).bind fun ch12=>if 0≤(Go.bits .xor .u8 (IntKind.u8.wrap y1) (ch12.toNat:Int)) then ((st3[(Go.bits .xor .u8 (IntKind.u8.wrap y1) (ch12.toNat:Int)).toNat]?).bind fun x15=>if -9223372036854775808≤((k2:Int)+1)∧((k2:Int)+1)≤9223372036854775807 then (cD a2 m7 (Go.bits .xor .u32 x15 (rv .u32 y1 8)) (k2+1) st3) else none) else none) else some (y1,k2,st3)
def eS (st:List Int) (a1:Int) (a2:List UInt8):Option (Int×List Int):=(cD a2 (((a2.length:Int)).toNat+1) (Go.bits .xor .u32 4294967295 a1) 0 st).bind fun (y18,k19,st20)=>some ((Go.bits .xor .u32 4294967295 y18),st20)
theorem lu (g:Nat) (st:List Int) (a1:Int) (a2:List UInt8) (r:Int×List Int) (h:eS st a1 a2=some r):aA Tryz.prog 142 #[jP g,.int .u32 a1,jS a2] .triv (ju 205 g st) (fun v A' N=>v= .int .u32 r.1∧A'=ju 205 g r.2∧N = []):=by
 refine aM Tryz.func142 Z Tryz.ntmps142 Z ?_
 intro F w hX
 unfold eS at h
 refine T.seq (T.region Z (TL.run aK [0] Z Z (TL.nil (X.seq (T.seq (T.region Z (TL.run aK [0] Z Z (TL.q Z .u (Ex.notK Z) Z (TL.run aK [2] Z Z (TL.nil (X.seq (T.seq (T.seq (T.region Z (TL.run aK [0] Z Z ?_)))))))))))))))
 refine TL.q Z .u (Br Z Dm) Z (TL.run aK [2] Z Z (TL.nil (X.seq (T.block ?_))))
 obtain⟨E4,hE5,hO6⟩:=C5 h
 refine Bj (fun m e Rs=> ∃ (y1:Int) (k2:Nat) (st3:List Int),e = [(0,jP g),(2,jS a2),(6,.int .u32 0),(7,.int .u32 y1),(12,jI (a2.length:Int)),(13,jI (k2:Int))]∧Rs = [ju 205 g st3]∧cD a2 m y1 k2 st3=some E4) (((a2.length:Int)).toNat+1) [0] ⟨(Go.bits .xor .u32 4294967295 a1),0,st,Z,Z,by exact hE5⟩ (by rfl) (by rfl) ?_
 rintro m7 _ _ ⟨y1,k2,st3,rfl,rfl,hl9⟩
 clear hE5 h
 cases m7 with
 | zero =>
  rw[cD] at hl9
  cases hl9
 | succ m7 =>
  have h:=hl9
  clear hl9
  rw[cD] at h
  refine T.seq (T.region Z (TL.run aK [0] Z Z ?_))
  rcases jF h with⟨c11,h⟩ | ⟨c11,h⟩
  ·refine TL.nil (X.seq (T.seq (AN Z (C6 c11) (T.skip (X.seq (T.seq (T.block (T.seq (T.region Z (TL.run aK [0,1] Z Z ?_))))))))))
   refine TL.nil (X.seq (Bd (.q 0 (.q 1 (.q 2 (.q 3 (.q 4 (.q 5 (.q 6 (.q 7 (.q 8 (.q 9 (.q 10 (.q 11 (.q 12 (.q 13 .nil)))))))))))))) [0] Z Ap (NoP.blk (NoP.seq (NoP.seq (NoP.blk (NoP.seq aP))))) (by kernel_rfl) ?_))
   refine TD.run aK [0,1] Z Z (TD.q Z .u (Cp Z D5 Ed) Z ?_)
   obtain⟨ch12,hc13,h⟩:=C5 h
   refine TD.run aK [3,4] Z Z (TD.q Z .u (Ex.sIx Z Z Z Tryz.underlying9 hc13) Z (TD.q Z .u (Ex.bitw Z Z Z) Z ?_))
   replace h:=an h
   obtain⟨c14,h⟩:=h
   obtain⟨x15,hx16,h⟩:=C5 h
   refine TD.run aK [7] Z Z (TD.q Z .u (Ex.tIx (k:=(Go.bits .xor .u8 (IntKind.u8.wrap y1) (ch12.toNat:Int)).toNat) 0 Z Z ((Int.toNat_of_nonneg c14).symm) Fj Fq Z hx16) Z (TD.q Z .u (Ex.tLd (k:=(Go.bits .xor .u8 (IntKind.u8.wrap y1) (ch12.toNat:Int)).toNat) 0 Z Tryz.isAgg107 Z hx16) Z (TD.run aK [10] Z Z (TD.q Z .u (Ex.shr Z Z (by decide)) Z (TD.q Z .u (Ex.bitw Z Z Z) Z (TD.run aK [13] Z Z ?_))))))
   replace h:=an h
   obtain⟨c17,h⟩:=h
   exact TD.nil (AZ (X.seq (T.region Z (TL.q Z .u (Ex.add Z Z c17) Z (TL.run aK [1] Z Z (TL.nil (X.back (m':=m7) [0] (by omega) ⟨(Go.bits .xor .u32 x15 (rv .u32 y1 8)),k2+1,st3,Z,Z,h⟩ (by rfl) (by rfl))))))))
  ·refine TL.nil (X.seq (T.seq (AS Z (C7 c11) ?_)))
   obtain rfl:=C8 h
   replace h:=hO6
   clear hO6
   try dsimp only at h
   refine T.exit (AV (AV (Bh (X.seq (T.seq (T.region Z (TL.run aK [0] Z Z (TL.q Z .u (Ex.notK Z) Z (TL.run aK [2] Z Z ?_)))))))))
   obtain rfl:=C8 h
   exact TL.nil (X.seq (T.ret (AJ [0] Tryz.results142 (AK Z) ⟨Z,Z,Z⟩ (by rfl) (.inl Z))))
def ci:List (List UInt8)→Int→List Int→Option (Int×List Int)
 | [],y3,st5=>some (y3,st5)
 | x10::xs,y3,st5=>(eS st5 y3 x10).bind fun (x14,st15)=>ci xs x14 st15
def ew (st:List Int) (a1:List (List UInt8)):Option (Int×List Int):=(ci a1 0 st).bind fun (y17,st19)=>some (y17,st19)
theorem ej (g:Nat) (st:List Int) (a1:List (List UInt8)) (A1:Option Addr) (c2:Nat) (r:Int×List Int) (h:ew st a1=some r):aA Tryz.prog 100 #[jP g,.slice A1 a1.length c2] (RX.of (ar 1 sH) [.slice A1 a1.length c2] a1) (ju 205 g st) (fun v A' N=>v= .int .u32 r.1∧A'=ju 205 g r.2∧N = []):=by
 refine aM Tryz.func100 Z Tryz.ntmps100 Z ?_
 intro F w hX
 unfold ew at h
 refine T.seq (T.region Z (TL.run aK [0] Z Z (TL.nil (X.seq (T.seq (T.region Z (TL.run aK [0] Z Z (TL.nil (X.seq (T.seq (T.seq (T.region Z (TL.run aK [0] Z Z (TL.q Z .u (AW Z Fk) Z (TL.run aK [2] Z Z ?_)))))))))))))))
 refine TL.nil (X.seq (T.block ?_))
 obtain⟨E6,hE7,hO8⟩:=C5 h
 have hk12len:=Bm hX
 refine Bj (fun m e Rs=> ∃ (y3:Int) (k4:Nat) (st5:List Int),k4+m=a1.length∧e = [(0,jP g),(4,.int .u32 0),(5,.int .u32 y3),(8,.slice A1 a1.length c2),(9,jI (a1.length:Int)),(10,jI (k4:Int))]∧Rs = [ju 205 g st5]∧ci (a1.drop k4) y3 st5=some E6) (a1.length) [0] ⟨0,0,st,by simp,Z,Z,by rw[List.drop_zero]; exact hE7⟩ (by rfl) (by rfl) ?_
 rintro m9 _ _ ⟨y3,k4,st5,hk12,rfl,rfl,hl11⟩
 clear hE7 h
 cases m9 with
 | zero =>
  have h:=hl11
  clear hl11
  rw[List.drop_of_length_le (by omega),ci] at h
  have hk12ge: ¬ ((k4:Int)<(a1.length:Int)):=by omega
  refine T.seq (T.region Z (TL.run aK [0] Z Z (TL.nil (X.seq (T.seq (AS Z (C7 hk12ge) ?_))))))
  obtain rfl:=C8 h
  replace h:=hO8
  clear hO8
  try dsimp only at h
  refine T.exit (AV (AV (Bh (X.seq (T.seq (T.region Z (TL.run aK [0,1] Z Z ?_)))))))
  obtain rfl:=C8 h
  exact TL.nil (X.seq (T.ret (AJ [0] Tryz.results100 (AK Z) ⟨Z,Z,Z⟩ (by rfl) (.inl Z))))
 | succ m9 =>
  have h:=hl11
  clear hl11
  obtain⟨x10,hxx10⟩: ∃ x,a1[k4]? = some x:=⟨_,List.getElem?_eq_getElem (by omega)⟩
  rw[aX hxx10,ci] at h
  have hk12lt:(k4:Int)<(a1.length:Int):=by omega
  refine T.seq (T.region Z (TL.run aK [0] Z Z (TL.nil (X.seq (T.seq (AN Z (C6 hk12lt) ?_))))))
  obtain⟨gz13,oz13,rfl,z13cs,z13cl,z13cc,z13nf,z13r⟩:=Bb (by decide) hX hxx10
  obtain⟨z13S,z13r,z13rr⟩:=z13r
  obtain rfl:z13cs = [jS x10]:=z13r
  refine T.skip (X.seq (T.seq (T.block (T.seq (T.region Z ?_)))))
  refine TL.q Z .u (AX (k:=k4) Z Z Z Fk DT (Da hxx10).1) Z ?_
  refine TL.q Z .u (Bt 0 Z Dz z13nf z13cc Z Z) Z (TL.run aK [2] Z Z (TL.nil (X.seq (T.region Z ?_))))
  obtain⟨⟨x14,st15⟩,hx16,h⟩:=C5 h
  try dsimp only at h
  exact TL.run aK [0,1,2] Z Z (Bu Z .u (.fn Tryz.call142 Z) (lu g st5 y3 x10 _ hx16) (fun _ hs=>(Src.triv _)) Z (TL.run aK [4] Z Z (TL.nil (AZ (X.seq (T.region Z (TL.q Z .u (Ex.add Z Z (by omega)) Z (TL.run aK [1] Z Z (TL.nil (X.back (m':=m9) [0] (by omega) ⟨x14,k4+1,st15,by omega,Z,Z,h⟩ (by rfl) (by rfl)))))))))))
end Go.Proofs.YtcoppaggpbfcmaaGreat.Sl
