/- scanFeeds_holds: part 2. -/
import Derived.Test.YtahjmpipllajcaaGreatK1
set_option maxRecDepth 100000
set_option maxHeartbeats 4000000
set_option linter.defProp false
namespace Go.Proofs.YtahjmpipllajcaaGreat.Sl
open Go.RowKit
set_option linter.unusedVariables false
set_option linter.unusedSimpArgs false
theorem wX {α β : Type} {o : Option α} {f : α → Option β} {b : β} (h : o.bind f = some b) : ∃ a, o = some a ∧ f a = some b := Option.bind_eq_some_iff.1 h
def wY := @decide_eq_true
def wZ := @decide_eq_false
def xc := @Tryz.isAgg3
def xg := @Tryz.sizeOf3
def xi := @eq_false_of_ne_true
def xj := @Tryz.runUnderlying9
def xk := @Tryz.sizeOf69
def xp := @Tryz.sizeOf66
def xz := @Tryz.runUnderlying69
def xD := @Tryz.sizeOf99
def xE := @Tryz.isAgg4
def xF := @Tryz.isAgg69
def xG := @Tryz.runUnderlying67
def xT := @Tryz.isAgg66
def xW := @Tryz.runUnderlying3
def xX := @Tryz.sizeOf71
def xZ := @Tryz.runUnderlying80
def yb := @Tryz.sizeOf9
def yc := @Tryz.sizeOf4
def yd := @Tryz.isAgg99
def ye := @Tryz.runUnderlying26
def yh := @Tryz.isAgg9
def yi := @Tryz.runUnderlying66
def yn := @Tryz.runUnderlying71
def yo := @Tryz.results75
def yt := @Tryz.results81
def yu := @Tryz.runUnderlying136
def yw := @Tryz.sizeOf67
def yx := @Tryz.runUnderlying5
def yz := @Tryz.eqGuardType66
def yA := @Tryz.runUnderlying99
def yB := @Tryz.results98
def yC := @Tryz.results45
def yD := @Tryz.results64
def yH := @Tryz.runUnderlying168
def yI := @Tryz.isAgg67
def yJ := @Tryz.results26
def yK := @Tryz.results87
def yQ := @Tryz.results103
def yR := @Tryz.eqGuardType71
def yT := @Tryz.results63
def yU := @Tryz.sizeOf136
def yV := @Tryz.results76
def yY := @Tryz.runUnderlying131
def y8 := @Tryz.isAgg71
def za := @Tryz.ntmps78
def zc := @Tryz.results88
def rO:dU := [(71,0,0),(71,1,1)]
theorem ax:(rO).OK Tryz.prog:=⟨FOK.mk yn rfl yb rfl,FOK.mk yn rfl xp rfl,trivial⟩
theorem mH:BOK Tryz.prog 71 #[.string ⟨#[]⟩,.bool false,.string ⟨#[]⟩] [(0,1),(1,2)]:=BOK.mk Tryz.zeroValue71 yn (by intro w; simp)
theorem lh:SOK Tryz.prog 67 71 1 3 #[.string ⟨#[]⟩,.bool false,.string ⟨#[]⟩]:=SOK.mk xG xX Tryz.zeroValue71 (by decide) (by kernel_rfl)
theorem mI:(Tryz.prog.info? 71).map (fun i=>(i.zero,i.size,i.bytes))=some (some (.agg #[.string ⟨#[]⟩,.bool false,.string ⟨#[]⟩]),3,40):=by kernel_rfl
def bj (x1:Int):Nat→List Hd→List Hd→Nat→I→Option (Lp (List Hd×I) (List Hd×List Hd×Nat×I))
 | 0,_,_,_,_=>none
 | m29+1,y18,y21,k24,st25=>if (k24:Int)<x1 then ((lU st25).bind fun (x34,st35)=>(aY st35).bind fun (x37,st38)=>if (y21.length+1)*40≤140737488355328 then ((jH st38).bind fun (x44,st45)=>if x44=0 then (if -9223372036854775808≤((k24:Int)+1)∧((k24:Int)+1)≤9223372036854775807 then (bj x1 m29 y18 (y21 ++ [(⟨x34,x37⟩:Hd)]) (k24+1) st45) else none) else (some (Lp.ret ([],st45)))) else none) else (some (Lp.go (y18,y21,k24,st25)))
def aL (st:I)  : Option (List Hd×I):=(g6 st).bind fun (x1,st2)=>(jH st2).bind fun (x4,st5)=>if x4=0 then (if x1<0 then ((bi st5 4).bind fun st9=>some ([],st9)) else ((mW st5).bind fun (x11,st12)=>if 0≤x11∧x11≤9223372036854775807 then (if x1>(x11 / 2) then ((bi st12 1).bind fun st16=>some ([],st16)) else ((bj x1 ((x1).toNat+1) [] [] 0 st12).bind fun e=>match e with | .ret r=>some r | .go (y49,y52,k55,st56)=>some (y52,st56))) else none)) else some ([],st5)
theorem dn (g:Nat) (st:I)  (r:List Hd×I) (h:aL st  = some r):au Tryz.prog 103 #[jP g] .triv (InR g st) (fun v A' N=> ∃ (A57:Option Addr) (c58:Nat),v= .slice A57 r.1.length c58∧A'=InR g r.2∧N = [RdR (aq 3 aP) [.slice A57 r.1.length c58] r.1]):=by
 refine aF Tryz.func103 Z Tryz.ntmps103 Z ?_
 intro F w hX
 unfold aL at h
 refine T.seq (T.region Z (TL.run ax [0] Z Z (TL.nil (X.seq (T.seq (T.region Z ?_))))))
 obtain⟨⟨x1,st2⟩,hx3,h⟩:=wX h
 try dsimp only at h
 refine TL.run ax [0] Z Z (vf Z .u (.fn Tryz.call101 Z) (jk g st _ hx3) (fun _ hs=>(Src.triv _)) Z (TL.run ax [2] Z Z (TL.nil (X.seq (T.seq (T.block (T.seq (T.region Z ?_))))))))
 obtain⟨⟨x4,st5⟩,hx6,h⟩:=wX h
 try dsimp only at h
 refine TL.run ax [0] Z Z (vf Z .u (.fn Tryz.call23 Z) (dT g st2 _ hx6) (fun _ hs=>(Src.triv _)) Z (TL.run ax [2,3] Z Z ?_))
 rcases jF h with⟨c7,h⟩ | ⟨c7,h⟩
 ·refine TL.nil (X.seq (uK Z (av (wY c7)) (T.seq (T.region Z (TL.run ax [0,1,2] Z Z ?_)))))
  rcases jF h with⟨c8,h⟩ | ⟨c8,h⟩
  ·refine TL.nil (X.seq (uF Z (wY c8) (T.seq (T.region Z ?_))))
   obtain⟨st9,hx10,h⟩:=wX h
   refine TL.run ax [0] Z Z (vf Z .u (.fn Tryz.call48 Z) (aX g st5 4 _ hx10) (fun _ hs=>(Src.triv _)) Z (TL.nil (X.seq (T.seq (T.region Z (TL.run ax [0] Z Z ?_))))))
   obtain rfl:=xa h
   exact TL.nil (X.seq (T.ret (uS (uH (vd 3 aP (uC [1,0] yQ (uD Z) ⟨_,_,Z,Z,Z⟩ (by rfl) (.inl Z)))))))
  ·refine TL.nil (X.seq (uK Z (wZ c8) (T.seq (T.region Z ?_))))
   obtain⟨⟨x11,st12⟩,hx13,h⟩:=wX h
   try dsimp only at h
   refine TL.run ax [0,1] Z Z (vf Z .u (.fn Tryz.call80 Z) (ji g st5 _ hx13) (fun _ hs=>(Src.triv _)) Z ?_)
   replace h:=ak h
   obtain⟨c14,h⟩:=h
   refine TL.q Z .u (Ex.quo Z Z (by omega) c14) Z (TL.run ax [4,5] Z Z ?_)
   rcases jF h with⟨c15,h⟩ | ⟨c15,h⟩
   ·refine TL.nil (X.seq (uF Z (wY c15) (T.seq (T.region Z ?_))))
    obtain⟨st16,hx17,h⟩:=wX h
    refine TL.run ax [0] Z Z (vf Z .u (.fn Tryz.call48 Z) (aX g st12 1 _ hx17) (fun _ hs=>(Src.triv _)) Z (TL.nil (X.seq (T.seq (T.region Z (TL.run ax [0] Z Z ?_))))))
    obtain rfl:=xa h
    exact TL.nil (X.seq (T.ret (uS (uH (vd 3 aP (uC [1,0] yQ (uD Z) ⟨_,_,Z,Z,Z⟩ (by rfl) (.inl Z)))))))
   ·refine TL.nil (X.seq (uK Z (wZ c15) (T.skip (uQ (X.seq (T.seq (T.region Z (TL.run ax [0] Z Z (TL.nil (X.seq (T.seq (T.seq (T.region Z (TL.run ax [0,1] Z Z (TL.nil (X.seq (T.block ?_)))))))))))))))))
    iterate 2 refine vO 71 3 aP ?_
    obtain⟨E26,hE27,hO28⟩:=wX h
    refine vo (fun m e Rs=> ∃ (y18:List Hd) (A19:Option Addr) (c20:Nat) (y21:List Hd) (A22:Option Addr) (c23:Nat) (k24:Nat) (st25:I),e = [(0,jP g),(2,.slice A19 y18.length c20),(4,.slice A22 y21.length c23),(25,jI x1),(26,jI (k24:Int))]∧Rs = [aE 71 3 aP (.slice A19 y18.length c20) y18,aE 71 3 aP (.slice A22 y21.length c23) y21,InR g st25]∧bj x1 m y18 y21 k24 st25=some E26) ((x1).toNat+1) [0,0,0] ⟨[],none,0,[],none,0,0,st12,Z,Z,by exact hE27⟩ (by rfl) (by rfl) ?_
    rintro m29 _ _ ⟨y18,A19,c20,y21,A22,c23,k24,st25,rfl,rfl,hl31⟩
    clear hE27 h
    cases m29 with
    | zero =>
     rw[bj] at hl31
     cases hl31
    | succ m29 =>
     have h:=hl31
     clear hl31
     rw[bj] at h
     refine T.seq (T.region Z (TL.run ax [0] Z Z ?_))
     rcases jF h with⟨c33,h⟩ | ⟨c33,h⟩
     ·refine TL.nil (X.seq (T.seq (uF Z (wY c33) (T.skip (X.seq (T.seq (T.block (T.seq (T.region Z ?_)))))))))
      obtain⟨⟨x34,st35⟩,hx36,h⟩:=wX h
      try dsimp only at h
      refine TL.run ax [0] Z Z (vZ Z .u (.fn Tryz.call99 Z) (lV g st25 _ hx36) (fun _ hs=>(Src.triv _)) Z (TL.run ax [2] Z Z (TL.nil (X.seq (T.seq (T.region Z ?_))))))
      obtain⟨⟨x37,st38⟩,hx39,h⟩:=wX h
      try dsimp only at h
      refine TL.run ax [0,1,2] Z Z (vZ Z .u (.fn Tryz.call102 Z) (cv g st35 _ hx39) (fun _ hs=>(Src.triv _)) Z ?_)
      refine TL.q Z .u (uU (cells:= #[jS x34,.bool x37.null,jS x37.data]) mH Z (by kernel_rfl)) Z ?_
      refine vD (cells:= #[jS x34,.bool x37.null,jS x37.data]) Z .u lh Z (by kernel_rfl) Z (fun b40=> ?_)
      replace h:=ak h
      obtain⟨c41,h⟩:=h
      refine TL.app1 1 Z .u (us := [jS x34,.bool x37.null,jS x37.data]) (u:=(⟨x34,x37⟩:Hd)) (l:=y21) (E:=aP) Tryz.underlying67 mI Z (by decide) Z Z Z Z Z Z (fun _ _=>Z) (by have hq:=c41; omega) (by have hq:=c41; omega) Z (fun A42 c43=> ?_)
      refine uM [0,0,0] Z (TL.run ax [7] Z Z (TL.nil (X.seq (T.seq (T.region Z ?_)))))
      obtain⟨⟨x44,st45⟩,hx46,h⟩:=wX h
      try dsimp only at h
      refine TL.run ax [0] Z Z (vZ Z .u (.fn Tryz.call23 Z) (dT g st38 _ hx46) (fun _ hs=>(Src.triv _)) Z (TL.run ax [2] Z Z ?_))
      rcases jF h with⟨c47,h⟩ | ⟨c47,h⟩
      ·refine TL.nil (X.seq (uK Z (av (wY c47)) ?_))
       replace h:=ak h
       obtain⟨c48,h⟩:=h
       exact T.skip (uQ (X.seq (T.region Z (TL.q Z .u (Ex.add Z Z c48) Z (TL.run ax [1] Z Z (TL.nil (X.back (m':=m29) [0,0,0] (by omega) ⟨y18,A19,c20,(y21 ++ [(⟨x34,x37⟩:Hd)]),A42,c43,k24+1,st45,Z,Z,h⟩ (by rfl) (by rfl))))))))
      ·refine TL.nil (X.seq (uF Z (aA (wZ c47)) (T.seq (T.region Z (TL.run ax [0] Z Z ?_)))))
       obtain rfl:=xa h
       replace h:=hO28
       clear hO28
       try dsimp only at h
       obtain rfl:=xa h
       exact TL.nil (X.seq (T.ret (uS (uH (uH (uS (uH (vd 3 aP (uC [3,0] yQ (uD Z) ⟨_,_,Z,Z,Z⟩ (by rfl) (.inl Z))))))))))
     ·refine TL.nil (X.seq (T.seq (uK Z (wZ c33) ?_)))
      obtain rfl:=xa h
      replace h:=hO28
      clear hO28
      try dsimp only at h
      refine T.exit (uR (uR (vn (X.seq (T.seq (T.region Z (TL.run ax [0,1] Z Z ?_)))))))
      obtain rfl:=xa h
      exact TL.nil (X.seq (T.ret (vt (by decide) 1 Z (uW [0,0,0] Z (uC [2,1] yQ (uD Z) ⟨_,_,Z,Z,Z⟩ (by rfl) (.inl Z))))))
 ·refine TL.nil (X.seq (uF Z (aA (wZ c7)) (T.seq (T.region Z (TL.run ax [0] Z Z ?_)))))
  obtain rfl:=xa h
  exact TL.nil (X.seq (T.ret (uS (uH (vd 3 aP (uC [1,0] yQ (uD Z) ⟨_,_,Z,Z,Z⟩ (by rfl) (.inl Z)))))))
def cP:List Hd→(List UInt8×Int)→Option (List UInt8×Int)
 | [],st6=>some st6
 | x11::xs,st6=>(jK st6 x11.wC).bind fun st16=>(fE st16 x11.wt).bind fun st18=>cP xs st18
def fF (st:List UInt8×Int) (a1:List Hd):Option (List UInt8×Int):=(lx st (a1.length:Int)).bind fun st3=>(cP a1 st3).bind fun st21=>some st21
theorem iP (g:Nat) (st:List UInt8×Int) (a1:List Hd) (A1:Option Addr) (c2:Nat) (r:List UInt8×Int) (h:fF st a1=some r):au Tryz.prog 93 #[jP g,.slice A1 a1.length c2] (RX.of (aq 3 aP) [.slice A1 a1.length c2] a1) (aT g st) (fun v A' N=>v= .tuple #[]∧A'=aT g r∧N = []):=by
 refine aF Tryz.func93 Z Tryz.ntmps93 Z ?_
 intro F w hX
 unfold fF at h
 refine T.seq (T.region Z (TL.run ax [0,1] Z Z (TL.q Z .u (uY Z xG) Z ?_)))
 obtain⟨st3,hx4,h⟩:=wX h
 refine vf Z .u (.fn Tryz.call91 Z) (jJ g st (a1.length:Int) _ hx4) (fun _ hs=>(Src.triv _)) Z (TL.nil (X.seq (T.seq (T.region Z (TL.run ax [0] Z Z (TL.q Z .u (uY Z xG) Z (TL.run ax [2] Z Z (TL.nil (X.seq (T.block ?_))))))))))
 obtain⟨E7,hE8,hO9⟩:=wX h
 have hk13len:=vz hX
 refine vo (fun m e Rs=> ∃ (k5:Nat) (st6:List UInt8×Int),k5+m=a1.length∧e = [(0,jP g),(10,.slice A1 a1.length c2),(11,jI (a1.length:Int)),(12,jI (k5:Int))]∧Rs = [aT g st6]∧cP (a1.drop k5) st6=some E7) (a1.length) [0] ⟨0,st3,by simp,Z,Z,by rw[List.drop_zero]; exact hE8⟩ (by rfl) (by rfl) ?_
 rintro m10 _ _ ⟨k5,st6,hk13,rfl,rfl,hl12⟩
 clear hE8 h
 cases m10 with
 | zero =>
  have h:=hl12
  clear hl12
  rw[List.drop_of_length_le (by omega),cP] at h
  have hk13ge: ¬ ((k5:Int)<(a1.length:Int)):=by omega
  refine T.seq (T.region Z (TL.run ax [0] Z Z (TL.nil (X.seq (T.seq (uK Z (wZ hk13ge) ?_))))))
  obtain rfl:=xa h
  replace h:=hO9
  clear hO9
  try dsimp only at h
  obtain rfl:=xa h
  exact T.exit (uR (uR (vn (v9 [0] Tryz.results93 ⟨Z,Z,Z⟩ (by rfl) (.inr Z)))))
 | succ m10 =>
  have h:=hl12
  clear hl12
  obtain⟨x11,hxx11⟩: ∃ x,a1[k5]? = some x:=⟨_,List.getElem?_eq_getElem (by omega)⟩
  rw[cK hxx11,cP] at h
  have hk13lt:(k5:Int)<(a1.length:Int):=by omega
  refine T.seq (T.region Z (TL.run ax [0] Z Z (TL.nil (X.seq (T.seq (uF Z (wY hk13lt) ?_))))))
  obtain⟨gz14,oz14,rfl,z14cs,z14cl,z14cc,z14nf,z14r⟩:=vh (by decide) hX hxx11
  obtain⟨z14S,z14r,z14rr⟩:=z14r
  obtain rfl:z14cs = [jS x11.wC,.bool x11.wt.null,jS x11.wt.data]:=z14r
  refine T.skip (X.seq (T.seq (T.block (T.seq (T.region Z ?_)))))
  refine TL.q Z .u (uV (k:=k5) Z Z Z xG xX (xd hxx11).1) Z ?_
  refine TL.q Z .u (vA (us := [jS x11.wC,.bool x11.wt.null,jS x11.wt.data]) 0 Z y8 xX z14nf z14cc Z Z Z) Z (TL.alloc Z .u Tryz.zeroValue71 Z (fun b15=>(uO (cs':= #[jS x11.wC,.bool x11.wt.null,jS x11.wt.data]) Z .u Z Z xX Z Z Z Z (TL.nil (X.seq (T.seq (T.region Z (TL.run ax [0,1] Z Z (TL.q Z .u (uB 0 Z yh Z Z) Z ?_)))))))))
  obtain⟨st16,hx17,h⟩:=wX h
  refine vr Z .u (.fn Tryz.call68 Z) (iZ g st6 x11.wC _ hx17) (fun _ hs=>(Src.triv _)) Z (TL.nil (X.seq (T.region Z (TL.run ax [0,1] Z Z (TL.q Z .u (uN (us := [.bool x11.wt.null,jS x11.wt.data]) 0 Z xT xp Z Z Z) Z ?_)))))
  obtain⟨st18,hx19,h⟩:=wX h
  exact vr Z .u (.fn Tryz.call92 Z) (ff g st16 x11.wt _ hx19) (fun _ hs=>(Src.triv _)) Z (TL.nil (uQ (X.seq (T.region Z (TL.q Z .u (Ex.add Z Z (by omega)) Z (TL.run ax [1] Z Z (TL.nil (X.back (m':=m10) [1] (by omega) ⟨k5+1,st18,by omega,Z,Z,h⟩ (by rfl) (by rfl)))))))))
def rP:dU := [(69,0,0),(69,1,1),(69,2,2),(69,3,4),(69,4,6),(71,1,1)]
theorem aj:(rP).OK Tryz.prog:=⟨FOK.mk xz rfl xg rfl,FOK.mk xz rfl xg rfl,FOK.mk xz rfl xp rfl,FOK.mk xz rfl xp rfl,FOK.mk xz rfl yw rfl,FOK.mk yn rfl xp rfl,trivial⟩
theorem da:BOK Tryz.prog 69 #[.int .i64 0,.int .i64 0,.bool false,.string ⟨#[]⟩,.bool false,.string ⟨#[]⟩,.slice none 0 0] [(0,1),(1,1),(2,2),(4,2),(6,1)]:=BOK.mk Tryz.zeroValue69 xz (by intro w; simp)
theorem kj:SOK Tryz.prog 168 66 1 2 #[.bool false,.string ⟨#[]⟩]:=SOK.mk yH xp Tryz.zeroValue66 (by decide) (by kernel_rfl)
theorem km:SOK Tryz.prog 168 66 2 2 #[.bool false,.string ⟨#[]⟩,.bool false,.string ⟨#[]⟩]:=SOK.mk yH xp Tryz.zeroValue66 (by decide) (by kernel_rfl)
def bC:List Bl→Bool→Option (Lp Bool Bool)
 | [],y3=>some (Lp.go y3)
 | x9::xs,y3=>(nG x9).bind fun x14=>if x14=true then (bC xs y3) else some (Lp.ret false)
def cL (a0:List Bl):Option (Bool):=(bC a0 false).bind fun e=>match e with | .ret r=>some r | .go y17=>some true
theorem eX (a0:List Bl) (A1:Option Addr) (c2:Nat) (r:Bool) (h:cL a0=some r):au Tryz.prog 86 #[.slice A1 a0.length c2] (RX.of (aq 2 qK) [.slice A1 a0.length c2] a0) (aw) (fun v A' N=>v= .bool r∧A'=aw∧N = []):=by
 refine aF Tryz.func86 Z Tryz.ntmps86 Z ?_
 intro F w hX
 unfold cL at h
 refine T.seq (T.region Z (TL.run aj [0] Z Z (TL.nil (X.seq (T.seq (T.seq (T.region Z (TL.run aj [0] Z Z (TL.q Z .u (uY Z yH) Z (TL.run aj [2] Z Z (TL.nil (X.seq (T.block ?_)))))))))))))
 obtain⟨E5,hE6,hO7⟩:=wX h
 have hk11len:=vz hX
 refine vo (fun m e Rs=> ∃ (y3:Bool) (k4:Nat),k4+m=a0.length∧e = [(2,.bool y3),(5,.slice A1 a0.length c2),(6,jI (a0.length:Int)),(7,jI (k4:Int))]∧Rs = [aw]∧bC (a0.drop k4) y3=some E5) (a0.length) [0] ⟨false,0,by simp,Z,Z,by rw[List.drop_zero]; exact hE6⟩ (by rfl) (by rfl) ?_
 rintro m8 _ _ ⟨y3,k4,hk11,rfl,rfl,hl10⟩
 clear hE6 h
 cases m8 with
 | zero =>
  have h:=hl10
  clear hl10
  rw[List.drop_of_length_le (by omega),bC] at h
  have hk11ge: ¬ ((k4:Int)<(a0.length:Int)):=by omega
  refine T.seq (T.region Z (TL.run aj [0] Z Z (TL.nil (X.seq (T.seq (uK Z (wZ hk11ge) ?_))))))
  obtain rfl:=xa h
  replace h:=hO7
  clear hO7
  try dsimp only at h
  refine T.exit (uR (uR (vn (X.seq (T.seq (T.region Z (TL.run aj [0] Z Z ?_)))))))
  obtain rfl:=xa h
  exact TL.nil (X.seq (T.ret (uC [0] Tryz.results86 (uD Z) ⟨Z,Z,Z⟩ (by rfl) (.inl Z))))
 | succ m8 =>
  have h:=hl10
  clear hl10
  obtain⟨x9,hxx9⟩: ∃ x,a0[k4]? = some x:=⟨_,List.getElem?_eq_getElem (by omega)⟩
  rw[cK hxx9,bC] at h
  have hk11lt:(k4:Int)<(a0.length:Int):=by omega
  refine T.seq (T.region Z (TL.run aj [0] Z Z (TL.nil (X.seq (T.seq (uF Z (wY hk11lt) ?_))))))
  obtain⟨gz12,oz12,rfl,z12cs,z12cl,z12cc,z12nf,z12r⟩:=vh (by decide) hX hxx9
  obtain⟨z12S,z12r,z12rr⟩:=z12r
  obtain rfl:z12cs = [.bool x9.null,jS x9.data]:=z12r
  refine T.skip (X.seq (T.seq (T.block (T.seq (T.region Z ?_)))))
  refine TL.q Z .u (uV (k:=k4) Z Z Z yH xp (xd hxx9).1) Z ?_
  refine TL.q Z .u (vA (us := [.bool x9.null,jS x9.data]) 0 Z xT xp z12nf z12cc Z Z Z) Z (TL.alloc Z .u Tryz.zeroValue66 Z (fun b13=>(uO (cs':= #[.bool x9.null,jS x9.data]) Z .u Z Z xp Z Z Z Z (TL.nil (X.seq (T.seq (T.region Z (TL.q Z .u (uN (us := [.bool x9.null,jS x9.data]) 0 Z xT xp Z Z Z) Z ?_))))))))
  obtain⟨x14,hx15,h⟩:=wX h
  refine uP Z .u (.fn Tryz.call106 Z) (oV x9 _ hx15) (fun _ hs=>(uE _ _)) Z (TL.run aj [2] Z Z ?_)
  rcases jF h with⟨c16,h⟩ | ⟨c16,h⟩
  ·exact TL.nil (X.seq (uK Z (av c16) (T.skip (uQ (X.seq (T.region Z (TL.q Z .u (Ex.add Z Z (by omega)) Z (TL.run aj [1] Z Z (TL.nil (X.back (m':=m8) [1] (by omega) ⟨y3,k4+1,by omega,Z,Z,h⟩ (by rfl) (by rfl)))))))))))
  ·replace c16:=xi c16
   refine TL.nil (X.seq (uF Z (aA c16) (T.seq (T.region Z (TL.run aj [0] Z Z ?_)))))
   obtain rfl:=xa h
   replace h:=hO7
   clear hO7
   try dsimp only at h
   obtain rfl:=xa h
   exact TL.nil (X.seq (T.ret (uS (uH (uH (uS (uH (uC [1] Tryz.results86 (uD Z) ⟨Z,Z,Z⟩ (by rfl) (.inl Z)))))))))
def bL:List Hd→Int→Option (Lp Int Int)
 | [],y12=>some (Lp.go y12)
 | x18::xs,y12=>(cL [x18.wt]).bind fun x24=>if x24=true then (bL xs y12) else some (Lp.ret 4)
def cG (a0:Rec):Option (Int):=if a0.wD<0 then some 11 else ((iY a0.wD 4).bind fun x5=>if x5=true then ((cL [a0.wC,a0.wt]).bind fun x9=>if x9=true then ((bL a0.wy 0).bind fun e=>match e with | .ret r=>some r | .go y27=>some 0) else some 4) else some 11)
theorem dY (a0:Rec) (A1:Option Addr) (c2:Nat) (r:Int) (h:cG a0=some r):au Tryz.prog 63 #[.agg #[jI a0.wK,jI a0.wD,.bool a0.wC.null,jS a0.wC.data,.bool a0.wt.null,jS a0.wt.data,.slice A1 a0.wy.length c2]] (RX.of (aq 3 aP) [.slice A1 a0.wy.length c2] a0.wy) (aw) (fun v A' N=>v=jI r∧A'=aw∧N = []):=by
 refine aF Tryz.func63 Z Tryz.ntmps63 Z ?_
 intro F w hX
 unfold cG at h
 refine T.seq (T.region Z (TL.box Z .u Z Z (fun b3=>(TL.run aj [1] Z Z (TL.nil (X.seq (T.seq (T.seq (T.region Z (TL.run aj [0] Z Z (TL.q Z .u (uB 0 Z xc Z Z) Z ?_)))))))))))
 rcases jF h with⟨c4,h⟩ | ⟨c4,h⟩
 ·refine TL.run aj [2,3] Z Z ?_
  iterate 4 refine uG Z (.gn Z Z (wY c4)) Z ?_
  refine TL.q Z .u (uJ Z (wY c4) Z) Z (TL.nil (X.seq (uF Z Z (T.seq (T.region Z (TL.run aj [0] Z Z ?_))))))
  obtain rfl:=xa h
  exact TL.nil (X.seq (T.ret (uH (uC [1] yT (uD Z) ⟨Z,Z,Z⟩ (by rfl) (.inl Z)))))
 ·refine TL.run aj [2,3] Z Z (TL.q Z (.g Z Z (wZ c4)) (uI aj Z) Z (TL.q Z (.g Z Z (wZ c4)) (uB 0 Z xc Z Z) Z ?_))
  obtain⟨x5,hx6,h⟩:=wX h
  refine uP Z (.g Z Z (wZ c4)) (.fn Tryz.call85 Z) (vc (fun w=>ej a0.wD 4 _ hx6 w)) (fun _ _=>uE _ _) Z (TL.q Z (.g Z Z (wZ c4)) (uI aj Z) Z (TL.q Z .u (uL Z (wZ c4) Z) Z ?_))
  rcases jF h with⟨c7,h⟩ | ⟨c7,h⟩
  ·refine TL.nil (X.seq (uK Z (av c7) (T.skip (X.seq (T.seq (T.seq (T.region Z (TL.run aj [0] Z Z (TL.q Z .u (uN (us := [.bool a0.wC.null,jS a0.wC.data]) 0 Z xT xp Z Z Z) Z (TL.run aj [2] Z Z (TL.q Z .u (uN (us := [.bool a0.wt.null,jS a0.wt.data]) 0 Z xT xp Z Z Z) Z ?_)))))))))))
   refine vD (cells:= #[.bool a0.wC.null,jS a0.wC.data,.bool a0.wt.null,jS a0.wt.data]) Z .u km Z (by kernel_rfl) Z (fun b8=> ?_)
   refine wa (us := [.bool a0.wC.null,jS a0.wC.data,.bool a0.wt.null,jS a0.wt.data]) (xs := [a0.wC,a0.wt]) (E:=qK) (z:=2) Z (Nat.le_of_ble_eq_true Z) (fun _=>⟨Z,Z,⟨Z,Z,Z⟩⟩) ?_
   obtain⟨x9,hx10,h⟩:=wX h
   refine uP Z .u (.fn Tryz.call86 Z) (eX [a0.wC,a0.wt] _ _ _ hx10) (fun _ hs=>(vu 0 hs Z (fun w G h=>aN (by decide) w G h))) Z (TL.run aj [6] Z Z ?_)
   rcases jF h with⟨c11,h⟩ | ⟨c11,h⟩
   ·refine TL.nil (X.seq (uK Z (av c11) (T.skip (X.seq (T.seq (T.seq (T.region Z (TL.run aj [0] Z Z (TL.q Z .u (uB 1 Z yI Z Z) Z (TL.q Z .u (uY Z xG) Z (TL.run aj [3] Z Z (TL.nil (X.seq (T.block ?_))))))))))))))
    obtain⟨E14,hE15,hO16⟩:=wX h
    have hk20len:=vz hX
    refine vo (fun m e Rs=> ∃ (y12:Int) (k13:Nat),k13+m=a0.wy.length∧e = [(2,jI y12),(22,.slice A1 a0.wy.length c2),(23,jI (a0.wy.length:Int)),(24,jI (k13:Int))]∧Rs = [aE 66 2 qK (.slice (some ⟨b8,0,none⟩) 2 2) [a0.wC,a0.wt],aD b3 69 #[jI a0.wK,jI a0.wD,.bool a0.wC.null,jS a0.wC.data,.bool a0.wt.null,jS a0.wt.data,.slice A1 a0.wy.length c2],aw]∧bL (a0.wy.drop k13) y12=some E14) (a0.wy.length) [0,0,0] ⟨0,0,by simp,Z,Z,by rw[List.drop_zero]; exact hE15⟩ (by rfl) (by rfl) ?_
    rintro m17 _ _ ⟨y12,k13,hk20,rfl,rfl,hl19⟩
    clear hE15 h
    cases m17 with
    | zero =>
     have h:=hl19
     clear hl19
     rw[List.drop_of_length_le (by omega),bL] at h
     have hk20ge: ¬ ((k13:Int)<(a0.wy.length:Int)):=by omega
     refine T.seq (T.region Z (TL.run aj [0] Z Z (TL.nil (X.seq (T.seq (uK Z (wZ hk20ge) ?_))))))
     obtain rfl:=xa h
     replace h:=hO16
     clear hO16
     try dsimp only at h
     refine T.exit (uR (uR (vn (X.seq (T.seq (T.region Z (TL.run aj [0] Z Z ?_)))))))
     obtain rfl:=xa h
     exact TL.nil (X.seq (T.ret (uC [2] yT (uD Z) ⟨Z,Z,Z⟩ (by rfl) (.inl Z))))
    | succ m17 =>
     have h:=hl19
     clear hl19
     obtain⟨x18,hxx18⟩: ∃ x,a0.wy[k13]? = some x:=⟨_,List.getElem?_eq_getElem (by omega)⟩
     rw[cK hxx18,bL] at h
     have hk20lt:(k13:Int)<(a0.wy.length:Int):=by omega
     refine T.seq (T.region Z (TL.run aj [0] Z Z (TL.nil (X.seq (T.seq (uF Z (wY hk20lt) ?_))))))
     obtain⟨gz21,oz21,rfl,z21cs,z21cl,z21cc,z21nf,z21r⟩:=vh (by decide) hX hxx18
     obtain⟨z21S,z21r,z21rr⟩:=z21r
     obtain rfl:z21cs = [jS x18.wC,.bool x18.wt.null,jS x18.wt.data]:=z21r
     refine T.skip (X.seq (T.seq (T.block (T.seq (T.region Z ?_)))))
     refine TL.q Z .u (uV (k:=k13) Z Z Z xG xX (xd hxx18).1) Z ?_
     refine TL.q Z .u (vA (us := [jS x18.wC,.bool x18.wt.null,jS x18.wt.data]) 0 Z y8 xX z21nf z21cc Z Z Z) Z (TL.alloc Z .u Tryz.zeroValue71 Z (fun b22=>(uO (cs':= #[jS x18.wC,.bool x18.wt.null,jS x18.wt.data]) Z .u Z Z xX Z Z Z Z (TL.nil (X.seq (T.seq (T.region Z (TL.run aj [0] Z Z (TL.q Z .u (uN (us := [.bool x18.wt.null,jS x18.wt.data]) 0 Z xT xp Z Z Z) Z (vD (cells:= #[.bool x18.wt.null,jS x18.wt.data]) Z .u kj Z (by rfl) Z (fun b23=>(wa (us := [.bool x18.wt.null,jS x18.wt.data]) (xs := [x18.wt]) (E:=qK) (z:=2) Z (Nat.le_of_ble_eq_true Z) (fun _=>⟨Z,Z,Z⟩) ?_))))))))))))
     obtain⟨x24,hx25,h⟩:=wX h
     refine uP Z .u (.fn Tryz.call86 Z) (eX [x18.wt] _ _ _ hx25) (fun _ hs=>(vu 0 hs Z (fun w G h=>aN (by decide) w G h))) Z (TL.run aj [4] Z Z ?_)
     rcases jF h with⟨c26,h⟩ | ⟨c26,h⟩
     ·exact TL.nil (X.seq (uK Z (av c26) (T.skip (uQ (X.seq (T.region Z (TL.q Z .u (Ex.add Z Z (by omega)) Z (TL.run aj [1] Z Z (TL.nil (X.back (m':=m17) [2,2,2] (by omega) ⟨y12,k13+1,by omega,Z,Z,h⟩ (by rfl) (by rfl)))))))))))
     ·replace c26:=xi c26
      refine TL.nil (X.seq (uF Z (aA c26) (T.seq (T.region Z (TL.run aj [0] Z Z ?_)))))
      obtain rfl:=xa h
      replace h:=hO16
      clear hO16
      try dsimp only at h
      obtain rfl:=xa h
      exact TL.nil (X.seq (T.ret (uS (uH (uH (uS (uH (uC [4] yT (uD Z) ⟨Z,Z,Z⟩ (by rfl) (.inl Z)))))))))
   ·replace c11:=xi c11
    refine TL.nil (X.seq (uF Z (aA c11) (T.seq (T.region Z (TL.run aj [0] Z Z ?_)))))
    obtain rfl:=xa h
    exact TL.nil (X.seq (T.ret (uH (uC [2] yT (uD Z) ⟨Z,Z,Z⟩ (by rfl) (.inl Z)))))
  ·replace c7:=xi c7
   refine TL.nil (X.seq (uF Z (aA c7) (T.seq (T.region Z (TL.run aj [0] Z Z ?_)))))
   obtain rfl:=xa h
   exact TL.nil (X.seq (T.ret (uH (uC [1] yT (uD Z) ⟨Z,Z,Z⟩ (by rfl) (.inl Z)))))
def dD (st:I)  : Option (Rec×I):=(lU st).bind fun (x2,st3)=>(jH st3).bind fun (x5,st6)=>if x5=0 then ((nE x2).bind fun st9=>(eJ st9 1).bind fun (x12,st13)=>if x12=0 then ((fC st13).bind fun (x16,st17)=>(g6 st17).bind fun (x19,st20)=>if x19<0 then ((bi st20 11).bind fun st24=>(aY st24).bind fun (x26,st27)=>(aY st27).bind fun (x29,st30)=>(aL st30).bind fun (x32,st35)=>(cF st35).bind fun (x37,st38)=>if x37=0 then (some ((⟨x16,x19,x26,x29,x32⟩:Rec),st6)) else ((bi st6 x37).bind fun st41=>some ((⟨0,0,(⟨false,[]⟩:Bl),(⟨false,[]⟩:Bl),[]⟩:Rec),st41))) else ((aY st20).bind fun (x43,st44)=>(aY st44).bind fun (x46,st47)=>(aL st47).bind fun (x49,st52)=>(cF st52).bind fun (x54,st55)=>if x54=0 then (some ((⟨x16,x19,x43,x46,x49⟩:Rec),st6)) else ((bi st6 x54).bind fun st58=>some ((⟨0,0,(⟨false,[]⟩:Bl),(⟨false,[]⟩:Bl),[]⟩:Rec),st58)))) else ((bi st13 8).bind fun st60=>(fC st60).bind fun (x62,st63)=>(g6 st63).bind fun (x65,st66)=>if x65<0 then ((bi st66 11).bind fun st70=>(aY st70).bind fun (x72,st73)=>(aY st73).bind fun (x75,st76)=>(aL st76).bind fun (x78,st81)=>(cF st81).bind fun (x83,st84)=>if x83=0 then (some ((⟨x62,x65,x72,x75,x78⟩:Rec),st6)) else ((bi st6 x83).bind fun st87=>some ((⟨0,0,(⟨false,[]⟩:Bl),(⟨false,[]⟩:Bl),[]⟩:Rec),st87))) else ((aY st66).bind fun (x89,st90)=>(aY st90).bind fun (x92,st93)=>(aL st93).bind fun (x95,st98)=>(cF st98).bind fun (x100,st101)=>if x100=0 then (some ((⟨x62,x65,x89,x92,x95⟩:Rec),st6)) else ((bi st6 x100).bind fun st104=>some ((⟨0,0,(⟨false,[]⟩:Bl),(⟨false,[]⟩:Bl),[]⟩:Rec),st104))))) else (some ((⟨0,0,(⟨false,[]⟩:Bl),(⟨false,[]⟩:Bl),[]⟩:Rec),st6))
theorem jp (g:Nat) (st:I)  (r:Rec×I) (h:dD st  = some r):au Tryz.prog 81 #[jP g] .triv (InR g st) (fun v A' N=> ∃ (A106:Option Addr) (c107:Nat),v= .agg #[jI r.1.wK,jI r.1.wD,.bool r.1.wC.null,jS r.1.wC.data,.bool r.1.wt.null,jS r.1.wt.data,.slice A106 r.1.wy.length c107]∧A'=InR g r.2∧N = [RdR (aq 3 aP) [.slice A106 r.1.wy.length c107] r.1.wy]):=by
 refine aF Tryz.func81 Z Tryz.ntmps81 Z ?_
 intro F w hX
 unfold dD at h
 refine T.seq (T.region Z (TL.alloc Z .u Tryz.zeroValue69 Z (fun b1=>(TL.nil (X.seq (T.seq (T.region Z ?_)))))))
 obtain⟨⟨x2,st3⟩,hx4,h⟩:=wX h
 try dsimp only at h
 refine TL.run aj [0] Z Z (vr Z .u (.fn Tryz.call99 Z) (lV g st _ hx4) (fun _ hs=>(Src.triv _)) Z (TL.run aj [2] Z Z (TL.nil (X.seq (T.seq (T.seq (T.region Z ?_)))))))
 obtain⟨⟨x5,st6⟩,hx7,h⟩:=wX h
 try dsimp only at h
 refine TL.run aj [0] Z Z (vr Z .u (.fn Tryz.call23 Z) (dT g st3 _ hx7) (fun _ hs=>(Src.triv _)) Z (TL.run aj [2] Z Z ?_))
 rcases jF h with⟨c8,h⟩ | ⟨c8,h⟩
 ·refine TL.nil (X.seq (uK Z (av (wY c8)) (T.skip (X.seq (T.seq (T.region Z ?_))))))
  obtain⟨st9,hx10,h⟩:=wX h
  refine TL.run aj [0] Z Z (u0 Z .u (.fn Tryz.call21 Z) (fv x2 _ hx10) (fun _ hs=>(uE _ _)) Z ?_)
  rintro _ _ _ ⟨b11,rfl,rfl,rfl⟩
  refine uM [0,0,0] Z (TL.run aj [2] Z Z (TL.nil (X.seq (T.seq (T.seq (T.region Z ?_))))))
  obtain⟨⟨x12,st13⟩,hx14,h⟩:=wX h
  try dsimp only at h
  refine TL.run aj [0] Z Z (vf Z .u (.fn Tryz.call77 Z) (bF b11 st9 1 _ hx14) (fun _ hs=>(Src.triv _)) Z (TL.run aj [2] Z Z ?_))
  rcases jF h with⟨c15,h⟩ | ⟨c15,h⟩
  ·refine TL.nil (X.seq (uK Z (av (wY c15)) (T.skip (X.seq (T.seq (T.region Z ?_))))))
   obtain⟨⟨x16,st17⟩,hx18,h⟩:=wX h
   try dsimp only at h
   refine TL.run aj [0] Z Z (vf Z .u (.fn Tryz.call100 Z) (kO b11 st13 _ hx18) (fun _ hs=>(Src.triv _)) Z ?_)
   obtain⟨⟨x19,st20⟩,hx21,h⟩:=wX h
   try dsimp only at h
   refine TL.run aj [2] Z Z (vf Z .u (.fn Tryz.call101 Z) (jk b11 st17 _ hx21) (fun _ hs=>(Src.triv _)) Z ?_)
   refine TL.q Z .u (uU (cells:= #[jI x16,jI x19,.bool false,.string ⟨#[]⟩,.bool false,.string ⟨#[]⟩,.slice none 0 0]) da Z (by kernel_rfl)) Z ?_
   refine TL.alloc Z .u Tryz.zeroValue69 Z (fun b22=>(uO (cs':= #[jI x16,jI x19,.bool false,.string ⟨#[]⟩,.bool false,.string ⟨#[]⟩,.slice none 0 0]) Z .u Z Z xk Z Z Z Z (TL.nil (X.seq (T.seq (T.seq (T.region Z (TL.run aj [0] Z Z (TL.q Z .u (uB 0 Z xc Z Z) Z (TL.run aj [2] Z Z ?_))))))))))
   rcases jF h with⟨c23,h⟩ | ⟨c23,h⟩
   ·refine TL.nil (X.seq (uF Z (wY c23) (T.region Z ?_)))
    obtain⟨st24,hx25,h⟩:=wX h
    refine TL.run aj [0] Z Z (vr Z .u (.fn Tryz.call48 Z) (aX b11 st20 11 _ hx25) (fun _ hs=>(Src.triv _)) Z (TL.nil (X.seq (T.seq (T.region Z ?_)))))
    obtain⟨⟨x26,st27⟩,hx28,h⟩:=wX h
    try dsimp only at h
    refine TL.run aj [0] Z Z (vr Z .u (.fn Tryz.call102 Z) (cv b11 st24 _ hx28) (fun _ hs=>(Src.triv _)) Z (TL.run aj [2] Z Z (uO (cs':= #[jI x16,jI x19,.bool x26.null,jS x26.data,.bool false,.string ⟨#[]⟩,.slice none 0 0]) Z .u Z Z xp Z Z Z Z (TL.nil (X.seq (T.seq (T.region Z ?_)))))))
    obtain⟨⟨x29,st30⟩,hx31,h⟩:=wX h
    try dsimp only at h
    refine TL.run aj [0] Z Z (vr Z .u (.fn Tryz.call102 Z) (cv b11 st27 _ hx31) (fun _ hs=>(Src.triv _)) Z (TL.run aj [2] Z Z (uO (cs':= #[jI x16,jI x19,.bool x26.null,jS x26.data,.bool x29.null,jS x29.data,.slice none 0 0]) Z .u Z Z xp Z Z Z Z (TL.nil (X.seq (T.seq (T.region Z ?_)))))))
    obtain⟨⟨x32,st35⟩,hx36,h⟩:=wX h
    try dsimp only at h
    refine TL.run aj [0] Z Z (TL.cg1 Z .u (.fn Tryz.call103 Z) (dn b11 st30 _ hx36) (fun _ hs=>(Src.triv _)) Z ?_)
    rintro _ _ _ ⟨A33,c34,rfl,rfl,rfl⟩
    refine uM [0,0,0,0,0] Z (TL.run aj [2] Z Z (vL (cs':= #[jI x16,jI x19,.bool x26.null,jS x26.data,.bool x29.null,jS x29.data,.slice A33 x32.length c34]) Z .u Z Z yw Z Z Z Z (TL.nil (X.seq (T.seq (T.seq (T.region Z ?_)))))))
    obtain⟨⟨x37,st38⟩,hx39,h⟩:=wX h
    try dsimp only at h
    refine TL.run aj [0] Z Z (vZ Z .u (.fn Tryz.call104 Z) (cO b11 st35 _ hx39) (fun _ hs=>(Src.triv _)) Z (TL.run aj [2] Z Z (TL.nil (X.seq (T.seq (T.region Z (TL.run aj [0,1] Z Z ?_)))))))
    rcases jF h with⟨c40,h⟩ | ⟨c40,h⟩
    ·refine TL.nil (X.seq (uK Z (av (wY c40)) (T.skip (X.seq (T.seq (T.region Z (TL.q Z .u (uN (us := [jI x16,jI x19,.bool x26.null,jS x26.data,.bool x29.null,jS x29.data,.slice A33 x32.length c34]) 1 Z xF xk Z Z Z) Z (vg (cs':= #[jI x16,jI x19,.bool x26.null,jS x26.data,.bool x29.null,jS x29.data,.slice A33 x32.length c34]) Z .u Z Z xk Z Z Z Z ?_))))))))
     obtain rfl:=xa h
     exact TL.nil (X.seq (T.ret (uC [4,0] yt (uT (us:= #[jI x16,jI x19,.bool x26.null,jS x26.data,.bool x29.null,jS x29.data,.slice A33 x32.length c34]) 3 Z xF xk Z Z) ⟨_,_,Z,Z,Z⟩ (by rfl) (.inl Z))))
    ·refine TL.nil (X.seq (uF Z (aA (wZ c40)) (T.seq (T.region Z ?_))))
     obtain⟨st41,hx42,h⟩:=wX h
     refine TL.run aj [0,1] Z Z (TL.c4 Z .u (.fn Tryz.call48 Z) (aX g st6 x37 _ hx42) (fun _ hs=>(Src.triv _)) Z (TL.nil (X.seq (T.seq (T.region Z ?_)))))
     refine TL.q Z .u (uU (cells:= #[jI 0,jI 0,.bool false,.string ⟨#[]⟩,.bool false,.string ⟨#[]⟩,.slice none 0 0]) da Z (by kernel_rfl)) Z ?_
     refine vg (cs':= #[jI 0,jI 0,.bool false,.string ⟨#[]⟩,.bool false,.string ⟨#[]⟩,.slice none 0 0]) Z .u Z Z xk Z Z Z Z ?_
     obtain rfl:=xa h
     exact TL.nil (X.seq (T.ret (uH (vd 3 aP (uC [5,0] yt (uT (us:= #[jI 0,jI 0,.bool false,.string ⟨#[]⟩,.bool false,.string ⟨#[]⟩,.slice none 0 0]) 4 Z xF xk Z Z) ⟨_,_,Z,Z,Z⟩ (by rfl) (.inl Z))))))
   ·refine TL.nil (X.seq (uK Z (wZ c23) (T.skip (X.seq (T.seq (T.region Z ?_))))))
    obtain⟨⟨x43,st44⟩,hx45,h⟩:=wX h
    try dsimp only at h
    refine TL.run aj [0] Z Z (vr Z .u (.fn Tryz.call102 Z) (cv b11 st20 _ hx45) (fun _ hs=>(Src.triv _)) Z (TL.run aj [2] Z Z (uO (cs':= #[jI x16,jI x19,.bool x43.null,jS x43.data,.bool false,.string ⟨#[]⟩,.slice none 0 0]) Z .u Z Z xp Z Z Z Z (TL.nil (X.seq (T.seq (T.region Z ?_)))))))
    obtain⟨⟨x46,st47⟩,hx48,h⟩:=wX h
    try dsimp only at h
    refine TL.run aj [0] Z Z (vr Z .u (.fn Tryz.call102 Z) (cv b11 st44 _ hx48) (fun _ hs=>(Src.triv _)) Z (TL.run aj [2] Z Z (uO (cs':= #[jI x16,jI x19,.bool x43.null,jS x43.data,.bool x46.null,jS x46.data,.slice none 0 0]) Z .u Z Z xp Z Z Z Z (TL.nil (X.seq (T.seq (T.region Z ?_)))))))
    obtain⟨⟨x49,st52⟩,hx53,h⟩:=wX h
    try dsimp only at h
    refine TL.run aj [0] Z Z (TL.cg1 Z .u (.fn Tryz.call103 Z) (dn b11 st47 _ hx53) (fun _ hs=>(Src.triv _)) Z ?_)
    rintro _ _ _ ⟨A50,c51,rfl,rfl,rfl⟩
    refine uM [0,0,0,0,0] Z (TL.run aj [2] Z Z (vL (cs':= #[jI x16,jI x19,.bool x43.null,jS x43.data,.bool x46.null,jS x46.data,.slice A50 x49.length c51]) Z .u Z Z yw Z Z Z Z (TL.nil (X.seq (T.seq (T.seq (T.region Z ?_)))))))
    obtain⟨⟨x54,st55⟩,hx56,h⟩:=wX h
    try dsimp only at h
    refine TL.run aj [0] Z Z (vZ Z .u (.fn Tryz.call104 Z) (cO b11 st52 _ hx56) (fun _ hs=>(Src.triv _)) Z (TL.run aj [2] Z Z (TL.nil (X.seq (T.seq (T.region Z (TL.run aj [0,1] Z Z ?_)))))))
    rcases jF h with⟨c57,h⟩ | ⟨c57,h⟩
    ·refine TL.nil (X.seq (uK Z (av (wY c57)) (T.skip (X.seq (T.seq (T.region Z (TL.q Z .u (uN (us := [jI x16,jI x19,.bool x43.null,jS x43.data,.bool x46.null,jS x46.data,.slice A50 x49.length c51]) 1 Z xF xk Z Z Z) Z (vg (cs':= #[jI x16,jI x19,.bool x43.null,jS x43.data,.bool x46.null,jS x46.data,.slice A50 x49.length c51]) Z .u Z Z xk Z Z Z Z ?_))))))))
     obtain rfl:=xa h
     exact TL.nil (X.seq (T.ret (uC [4,0] yt (uT (us:= #[jI x16,jI x19,.bool x43.null,jS x43.data,.bool x46.null,jS x46.data,.slice A50 x49.length c51]) 3 Z xF xk Z Z) ⟨_,_,Z,Z,Z⟩ (by rfl) (.inl Z))))
    ·refine TL.nil (X.seq (uF Z (aA (wZ c57)) (T.seq (T.region Z ?_))))
     obtain⟨st58,hx59,h⟩:=wX h
     refine TL.run aj [0,1] Z Z (TL.c4 Z .u (.fn Tryz.call48 Z) (aX g st6 x54 _ hx59) (fun _ hs=>(Src.triv _)) Z (TL.nil (X.seq (T.seq (T.region Z ?_)))))
     refine TL.q Z .u (uU (cells:= #[jI 0,jI 0,.bool false,.string ⟨#[]⟩,.bool false,.string ⟨#[]⟩,.slice none 0 0]) da Z (by kernel_rfl)) Z ?_
     refine vg (cs':= #[jI 0,jI 0,.bool false,.string ⟨#[]⟩,.bool false,.string ⟨#[]⟩,.slice none 0 0]) Z .u Z Z xk Z Z Z Z ?_
     obtain rfl:=xa h
     exact TL.nil (X.seq (T.ret (uH (vd 3 aP (uC [5,0] yt (uT (us:= #[jI 0,jI 0,.bool false,.string ⟨#[]⟩,.bool false,.string ⟨#[]⟩,.slice none 0 0]) 4 Z xF xk Z Z) ⟨_,_,Z,Z,Z⟩ (by rfl) (.inl Z))))))
  ·refine TL.nil (X.seq (uF Z (aA (wZ c15)) (T.region Z ?_)))
   obtain⟨st60,hx61,h⟩:=wX h
   refine TL.run aj [0] Z Z (vf Z .u (.fn Tryz.call48 Z) (aX b11 st13 8 _ hx61) (fun _ hs=>(Src.triv _)) Z (TL.nil (X.seq (T.seq (T.region Z ?_)))))
   obtain⟨⟨x62,st63⟩,hx64,h⟩:=wX h
   try dsimp only at h
   refine TL.run aj [0] Z Z (vf Z .u (.fn Tryz.call100 Z) (kO b11 st60 _ hx64) (fun _ hs=>(Src.triv _)) Z ?_)
   obtain⟨⟨x65,st66⟩,hx67,h⟩:=wX h
   try dsimp only at h
   refine TL.run aj [2] Z Z (vf Z .u (.fn Tryz.call101 Z) (jk b11 st63 _ hx67) (fun _ hs=>(Src.triv _)) Z ?_)
   refine TL.q Z .u (uU (cells:= #[jI x62,jI x65,.bool false,.string ⟨#[]⟩,.bool false,.string ⟨#[]⟩,.slice none 0 0]) da Z (by kernel_rfl)) Z ?_
   refine TL.alloc Z .u Tryz.zeroValue69 Z (fun b68=>(uO (cs':= #[jI x62,jI x65,.bool false,.string ⟨#[]⟩,.bool false,.string ⟨#[]⟩,.slice none 0 0]) Z .u Z Z xk Z Z Z Z (TL.nil (X.seq (T.seq (T.seq (T.region Z (TL.run aj [0] Z Z (TL.q Z .u (uB 0 Z xc Z Z) Z (TL.run aj [2] Z Z ?_))))))))))
   rcases jF h with⟨c69,h⟩ | ⟨c69,h⟩
   ·refine TL.nil (X.seq (uF Z (wY c69) (T.region Z ?_)))
    obtain⟨st70,hx71,h⟩:=wX h
    refine TL.run aj [0] Z Z (vr Z .u (.fn Tryz.call48 Z) (aX b11 st66 11 _ hx71) (fun _ hs=>(Src.triv _)) Z (TL.nil (X.seq (T.seq (T.region Z ?_)))))
    obtain⟨⟨x72,st73⟩,hx74,h⟩:=wX h
    try dsimp only at h
    refine TL.run aj [0] Z Z (vr Z .u (.fn Tryz.call102 Z) (cv b11 st70 _ hx74) (fun _ hs=>(Src.triv _)) Z (TL.run aj [2] Z Z (uO (cs':= #[jI x62,jI x65,.bool x72.null,jS x72.data,.bool false,.string ⟨#[]⟩,.slice none 0 0]) Z .u Z Z xp Z Z Z Z (TL.nil (X.seq (T.seq (T.region Z ?_)))))))
    obtain⟨⟨x75,st76⟩,hx77,h⟩:=wX h
    try dsimp only at h
    refine TL.run aj [0] Z Z (vr Z .u (.fn Tryz.call102 Z) (cv b11 st73 _ hx77) (fun _ hs=>(Src.triv _)) Z (TL.run aj [2] Z Z (uO (cs':= #[jI x62,jI x65,.bool x72.null,jS x72.data,.bool x75.null,jS x75.data,.slice none 0 0]) Z .u Z Z xp Z Z Z Z (TL.nil (X.seq (T.seq (T.region Z ?_)))))))
    obtain⟨⟨x78,st81⟩,hx82,h⟩:=wX h
    try dsimp only at h
    refine TL.run aj [0] Z Z (TL.cg1 Z .u (.fn Tryz.call103 Z) (dn b11 st76 _ hx82) (fun _ hs=>(Src.triv _)) Z ?_)
    rintro _ _ _ ⟨A79,c80,rfl,rfl,rfl⟩
    refine uM [0,0,0,0,0] Z (TL.run aj [2] Z Z (vL (cs':= #[jI x62,jI x65,.bool x72.null,jS x72.data,.bool x75.null,jS x75.data,.slice A79 x78.length c80]) Z .u Z Z yw Z Z Z Z (TL.nil (X.seq (T.seq (T.seq (T.region Z ?_)))))))
    obtain⟨⟨x83,st84⟩,hx85,h⟩:=wX h
    try dsimp only at h
    refine TL.run aj [0] Z Z (vZ Z .u (.fn Tryz.call104 Z) (cO b11 st81 _ hx85) (fun _ hs=>(Src.triv _)) Z (TL.run aj [2] Z Z (TL.nil (X.seq (T.seq (T.region Z (TL.run aj [0,1] Z Z ?_)))))))
    rcases jF h with⟨c86,h⟩ | ⟨c86,h⟩
    ·refine TL.nil (X.seq (uK Z (av (wY c86)) (T.skip (X.seq (T.seq (T.region Z (TL.q Z .u (uN (us := [jI x62,jI x65,.bool x72.null,jS x72.data,.bool x75.null,jS x75.data,.slice A79 x78.length c80]) 1 Z xF xk Z Z Z) Z (vg (cs':= #[jI x62,jI x65,.bool x72.null,jS x72.data,.bool x75.null,jS x75.data,.slice A79 x78.length c80]) Z .u Z Z xk Z Z Z Z ?_))))))))
     obtain rfl:=xa h
     exact TL.nil (X.seq (T.ret (uC [4,0] yt (uT (us:= #[jI x62,jI x65,.bool x72.null,jS x72.data,.bool x75.null,jS x75.data,.slice A79 x78.length c80]) 3 Z xF xk Z Z) ⟨_,_,Z,Z,Z⟩ (by rfl) (.inl Z))))
    ·refine TL.nil (X.seq (uF Z (aA (wZ c86)) (T.seq (T.region Z ?_))))
     obtain⟨st87,hx88,h⟩:=wX h
     refine TL.run aj [0,1] Z Z (TL.c4 Z .u (.fn Tryz.call48 Z) (aX g st6 x83 _ hx88) (fun _ hs=>(Src.triv _)) Z (TL.nil (X.seq (T.seq (T.region Z ?_)))))
     refine TL.q Z .u (uU (cells:= #[jI 0,jI 0,.bool false,.string ⟨#[]⟩,.bool false,.string ⟨#[]⟩,.slice none 0 0]) da Z (by kernel_rfl)) Z ?_
     refine vg (cs':= #[jI 0,jI 0,.bool false,.string ⟨#[]⟩,.bool false,.string ⟨#[]⟩,.slice none 0 0]) Z .u Z Z xk Z Z Z Z ?_
     obtain rfl:=xa h
     exact TL.nil (X.seq (T.ret (uH (vd 3 aP (uC [5,0] yt (uT (us:= #[jI 0,jI 0,.bool false,.string ⟨#[]⟩,.bool false,.string ⟨#[]⟩,.slice none 0 0]) 4 Z xF xk Z Z) ⟨_,_,Z,Z,Z⟩ (by rfl) (.inl Z))))))
   ·refine TL.nil (X.seq (uK Z (wZ c69) (T.skip (X.seq (T.seq (T.region Z ?_))))))
    obtain⟨⟨x89,st90⟩,hx91,h⟩:=wX h
    try dsimp only at h
    refine TL.run aj [0] Z Z (vr Z .u (.fn Tryz.call102 Z) (cv b11 st66 _ hx91) (fun _ hs=>(Src.triv _)) Z (TL.run aj [2] Z Z (uO (cs':= #[jI x62,jI x65,.bool x89.null,jS x89.data,.bool false,.string ⟨#[]⟩,.slice none 0 0]) Z .u Z Z xp Z Z Z Z (TL.nil (X.seq (T.seq (T.region Z ?_)))))))
    obtain⟨⟨x92,st93⟩,hx94,h⟩:=wX h
    try dsimp only at h
    refine TL.run aj [0] Z Z (vr Z .u (.fn Tryz.call102 Z) (cv b11 st90 _ hx94) (fun _ hs=>(Src.triv _)) Z (TL.run aj [2] Z Z (uO (cs':= #[jI x62,jI x65,.bool x89.null,jS x89.data,.bool x92.null,jS x92.data,.slice none 0 0]) Z .u Z Z xp Z Z Z Z (TL.nil (X.seq (T.seq (T.region Z ?_)))))))
    obtain⟨⟨x95,st98⟩,hx99,h⟩:=wX h
    try dsimp only at h
    refine TL.run aj [0] Z Z (TL.cg1 Z .u (.fn Tryz.call103 Z) (dn b11 st93 _ hx99) (fun _ hs=>(Src.triv _)) Z ?_)
    rintro _ _ _ ⟨A96,c97,rfl,rfl,rfl⟩
    refine uM [0,0,0,0,0] Z (TL.run aj [2] Z Z (vL (cs':= #[jI x62,jI x65,.bool x89.null,jS x89.data,.bool x92.null,jS x92.data,.slice A96 x95.length c97]) Z .u Z Z yw Z Z Z Z (TL.nil (X.seq (T.seq (T.seq (T.region Z ?_)))))))
    obtain⟨⟨x100,st101⟩,hx102,h⟩:=wX h
    try dsimp only at h
    refine TL.run aj [0] Z Z (vZ Z .u (.fn Tryz.call104 Z) (cO b11 st98 _ hx102) (fun _ hs=>(Src.triv _)) Z (TL.run aj [2] Z Z (TL.nil (X.seq (T.seq (T.region Z (TL.run aj [0,1] Z Z ?_)))))))
    rcases jF h with⟨c103,h⟩ | ⟨c103,h⟩
    ·refine TL.nil (X.seq (uK Z (av (wY c103)) (T.skip (X.seq (T.seq (T.region Z (TL.q Z .u (uN (us := [jI x62,jI x65,.bool x89.null,jS x89.data,.bool x92.null,jS x92.data,.slice A96 x95.length c97]) 1 Z xF xk Z Z Z) Z (vg (cs':= #[jI x62,jI x65,.bool x89.null,jS x89.data,.bool x92.null,jS x92.data,.slice A96 x95.length c97]) Z .u Z Z xk Z Z Z Z ?_))))))))
     obtain rfl:=xa h
     exact TL.nil (X.seq (T.ret (uC [4,0] yt (uT (us:= #[jI x62,jI x65,.bool x89.null,jS x89.data,.bool x92.null,jS x92.data,.slice A96 x95.length c97]) 3 Z xF xk Z Z) ⟨_,_,Z,Z,Z⟩ (by rfl) (.inl Z))))
    ·refine TL.nil (X.seq (uF Z (aA (wZ c103)) (T.seq (T.region Z ?_))))
     obtain⟨st104,hx105,h⟩:=wX h
     refine TL.run aj [0,1] Z Z (TL.c4 Z .u (.fn Tryz.call48 Z) (aX g st6 x100 _ hx105) (fun _ hs=>(Src.triv _)) Z (TL.nil (X.seq (T.seq (T.region Z ?_)))))
     refine TL.q Z .u (uU (cells:= #[jI 0,jI 0,.bool false,.string ⟨#[]⟩,.bool false,.string ⟨#[]⟩,.slice none 0 0]) da Z (by kernel_rfl)) Z ?_
     refine vg (cs':= #[jI 0,jI 0,.bool false,.string ⟨#[]⟩,.bool false,.string ⟨#[]⟩,.slice none 0 0]) Z .u Z Z xk Z Z Z Z ?_
     obtain rfl:=xa h
     exact TL.nil (X.seq (T.ret (uH (vd 3 aP (uC [5,0] yt (uT (us:= #[jI 0,jI 0,.bool false,.string ⟨#[]⟩,.bool false,.string ⟨#[]⟩,.slice none 0 0]) 4 Z xF xk Z Z) ⟨_,_,Z,Z,Z⟩ (by rfl) (.inl Z))))))
 ·refine TL.nil (X.seq (uF Z (aA (wZ c8)) (T.seq (T.region Z ?_))))
  refine TL.q Z .u (uU (cells:= #[jI 0,jI 0,.bool false,.string ⟨#[]⟩,.bool false,.string ⟨#[]⟩,.slice none 0 0]) da Z (by kernel_rfl)) Z ?_
  refine uO (cs':= #[jI 0,jI 0,.bool false,.string ⟨#[]⟩,.bool false,.string ⟨#[]⟩,.slice none 0 0]) Z .u Z Z xk Z Z Z Z ?_
  obtain rfl:=xa h
  exact TL.nil (X.seq (T.ret (uH (vd 3 aP (uC [2,0] yt (uT (us:= #[jI 0,jI 0,.bool false,.string ⟨#[]⟩,.bool false,.string ⟨#[]⟩,.slice none 0 0]) 1 Z xF xk Z Z) ⟨_,_,Z,Z,Z⟩ (by rfl) (.inl Z))))))
def gh (a0:Rec):Option (List UInt8×Int):=(p8 ([],0) 0).bind fun st5=>(lT st5 a0.wK).bind fun st7=>(lx st7 a0.wD).bind fun st9=>(fE st9 a0.wC).bind fun st11=>(fE st11 a0.wt).bind fun st13=>(fF st13 a0.wy).bind fun st15=>(ib st15).bind fun (x17,x18,st19)=>some (x17,x18)
theorem jr (a0:Rec) (A1:Option Addr) (c2:Nat) (r:List UInt8×Int) (h:gh a0=some r):au Tryz.prog 67 #[.agg #[jI a0.wK,jI a0.wD,.bool a0.wC.null,jS a0.wC.data,.bool a0.wt.null,jS a0.wt.data,.slice A1 a0.wy.length c2]] (RX.of (aq 3 aP) [.slice A1 a0.wy.length c2] a0.wy) (aw) (fun v A' N=>v= .tuple #[jS r.1,jI r.2]∧A'=aw∧N = []):=by
 refine aF Tryz.func67 Z Tryz.ntmps67 Z ?_
 intro F w hX
 unfold gh at h
 refine T.seq (T.region Z (TL.box Z .u Z Z (fun b3=>(TL.run aj [1,2] Z Z (TL.nil (X.seq (T.seq (T.region Z (wj Z .u Tryz.zeroValue84 Z (fun b4=> ?_))))))))))
 obtain⟨st5,hx6,h⟩:=wX h
 refine TL.nil (X.seq (T.seq (T.region Z (vf Z .u (.fn Tryz.call89 Z) (oU b4 ([],0) 0 _ hx6) (fun _ hs=>(Src.triv _)) Z (TL.nil (X.seq (T.seq (T.region Z (TL.run aj [0] Z Z (TL.q Z .u (uB 1 Z xc Z Z) Z ?_))))))))))
 obtain⟨st7,hx8,h⟩:=wX h
 refine vf Z .u (.fn Tryz.call90 Z) (mD b4 st5 a0.wK _ hx8) (fun _ hs=>(Src.triv _)) Z (TL.nil (X.seq (T.seq (T.region Z (TL.run aj [0] Z Z (TL.q Z .u (uB 1 Z xc Z Z) Z ?_))))))
 obtain⟨st9,hx10,h⟩:=wX h
 refine vf Z .u (.fn Tryz.call91 Z) (jJ b4 st7 a0.wD _ hx10) (fun _ hs=>(Src.triv _)) Z (TL.nil (X.seq (T.seq (T.region Z (TL.run aj [0] Z Z (TL.q Z .u (uN (us := [.bool a0.wC.null,jS a0.wC.data]) 1 Z xT xp Z Z Z) Z ?_))))))
 obtain⟨st11,hx12,h⟩:=wX h
 refine vf Z .u (.fn Tryz.call92 Z) (ff b4 st9 a0.wC _ hx12) (fun _ hs=>(Src.triv _)) Z (TL.nil (X.seq (T.seq (T.region Z (TL.run aj [0] Z Z (TL.q Z .u (uN (us := [.bool a0.wt.null,jS a0.wt.data]) 1 Z xT xp Z Z Z) Z ?_))))))
 obtain⟨st13,hx14,h⟩:=wX h
 refine vf Z .u (.fn Tryz.call92 Z) (ff b4 st11 a0.wt _ hx14) (fun _ hs=>(Src.triv _)) Z (TL.nil (X.seq (T.seq (T.region Z (TL.run aj [0] Z Z (TL.q Z .u (uB 1 Z yI Z Z) Z ?_))))))
 obtain⟨st15,hx16,h⟩:=wX h
 refine vf Z .u (.fn Tryz.call93 Z) (iP b4 st13 a0.wy _ _ _ hx16) (fun _ hs=>(Src.old hs hX)) Z ?_
 obtain⟨⟨x17,x18,st19⟩,hx20,h⟩:=wX h
 try dsimp only at h
 refine TL.nil (X.seq (T.seq (T.region Z (vf Z .u (.fn Tryz.call35 Z) (eU b4 st15 _ hx20) (fun _ hs=>(Src.triv _)) Z (TL.run aj [1,2,3,4] Z Z ?_)))))
 obtain rfl:=xa h
 exact TL.nil (X.seq (T.ret (uX [2] Tryz.results67 (uD Z) (uD Z) ⟨Z,Z,Z⟩ (by rfl) (.inl Z))))
def fG (st:List UInt8×Int) (a1:Rec):Option (List UInt8×Int):=(cG a1).bind fun x4=>if x4=0 then ((gh a1).bind fun (x7,x8)=>if x8=0 then ((jK st x7).bind fun st11=>some st11) else ((jh st x8).bind fun st13=>some st13)) else ((jh st x4).bind fun st15=>some st15)
theorem iQ (g:Nat) (st:List UInt8×Int) (a1:Rec) (A1:Option Addr) (c2:Nat) (r:List UInt8×Int) (h:fG st a1=some r):au Tryz.prog 34 #[jP g,.agg #[jI a1.wK,jI a1.wD,.bool a1.wC.null,jS a1.wC.data,.bool a1.wt.null,jS a1.wt.data,.slice A1 a1.wy.length c2]] (RX.of (aq 3 aP) [.slice A1 a1.wy.length c2] a1.wy) (aT g st) (fun v A' N=>v= .tuple #[]∧A'=aT g r∧N = []):=by
 refine aF Tryz.func34 Z Tryz.ntmps34 Z ?_
 intro F w hX
 unfold fG at h
 refine T.seq (T.region Z (TL.box Z .u Z Z (fun b3=>(TL.nil (X.seq (T.seq (T.seq (T.region Z (TL.q Z .u (uN (us := [jI a1.wK,jI a1.wD,.bool a1.wC.null,jS a1.wC.data,.bool a1.wt.null,jS a1.wt.data,.slice A1 a1.wy.length c2]) 0 Z xF xk Z Z Z) Z ?_)))))))))
 obtain⟨x4,hx5,h⟩:=wX h
 refine uP Z .u (.fn Tryz.call63 Z) (dY a1 _ _ _ hx5) (fun _ hs=>(vb hs hX)) Z (TL.run aj [2] Z Z (TL.nil (X.seq (T.seq (T.region Z (TL.run aj [0,1] Z Z ?_))))))
 rcases jF h with⟨c6,h⟩ | ⟨c6,h⟩
 ·refine TL.nil (X.seq (uK Z (av (wY c6)) (T.skip (X.seq (T.seq (T.region Z (TL.q Z .u (uN (us := [jI a1.wK,jI a1.wD,.bool a1.wC.null,jS a1.wC.data,.bool a1.wt.null,jS a1.wt.data,.slice A1 a1.wy.length c2]) 0 Z xF xk Z Z Z) Z ?_)))))))
  obtain⟨⟨x7,x8⟩,hx9,h⟩:=wX h
  try dsimp only at h
  refine uP Z .u (.fn Tryz.call67 Z) (jr a1 _ _ _ hx9) (fun _ hs=>(vb hs hX)) Z (TL.run aj [2,3,4,5,6] Z Z (TL.nil (X.seq (T.seq (T.seq (T.region Z (TL.run aj [0,1] Z Z ?_)))))))
  rcases jF h with⟨c10,h⟩ | ⟨c10,h⟩
  ·refine TL.nil (X.seq (uK Z (av (wY c10)) (T.skip (X.seq (T.region Z ?_)))))
   obtain⟨st11,hx12,h⟩:=wX h
   refine TL.run aj [0,1] Z Z (vr Z .u (.fn Tryz.call68 Z) (iZ g st x7 _ hx12) (fun _ hs=>(Src.triv _)) Z ?_)
   obtain rfl:=xa h
   exact TL.nil (v9 [1] Tryz.results34 ⟨Z,Z,Z⟩ (by rfl) (.inr Z))
  ·refine TL.nil (X.seq (uF Z (aA (wZ c10)) (T.seq (T.region Z ?_))))
   obtain⟨st13,hx14,h⟩:=wX h
   refine TL.run aj [0,1] Z Z (vr Z .u (.fn Tryz.call66 Z) (h9 g st x8 _ hx14) (fun _ hs=>(Src.triv _)) Z ?_)
   obtain rfl:=xa h
   exact TL.nil (X.seq (T.ret (uH (v9 [1] Tryz.results34 ⟨Z,Z,Z⟩ (by rfl) (.inl Z)))))
 ·refine TL.nil (X.seq (uF Z (aA (wZ c6)) (T.seq (T.region Z ?_))))
  obtain⟨st15,hx16,h⟩:=wX h
  refine TL.run aj [0,1] Z Z (vr Z .u (.fn Tryz.call66 Z) (h9 g st x4 _ hx16) (fun _ hs=>(Src.triv _)) Z ?_)
  obtain rfl:=xa h
  exact TL.nil (X.seq (T.ret (uH (v9 [1] Tryz.results34 ⟨Z,Z,Z⟩ (by rfl) (.inl Z)))))
def kn:dU := [(66,0,0),(66,1,1),(71,0,0),(71,1,1),(136,0,0),(136,1,2),(136,2,3)]
theorem ah:(kn).OK Tryz.prog:=⟨FOK.mk yi rfl yc rfl,FOK.mk yi rfl yb rfl,FOK.mk yn rfl yb rfl,FOK.mk yn rfl xp rfl,FOK.mk yu rfl xp rfl,FOK.mk yu rfl xg rfl,FOK.mk yu rfl xg rfl,trivial⟩
theorem eD:Tryz.prog.follows .mixedOrders=true:=by kernel_rfl
theorem cI:eW Tryz.prog 3 71 [.string,.bool,.string] true:=(eW.struct y8 xX rfl Tryz.underlying71 Tryz.stoodInHeld71 ⟨by decide,rfl,[.string],[.bool,.string],false,rfl,((vH yh yb Tryz.underlying9).mono (by decide)),⟨by decide,rfl,[.bool,.string],[],true,rfl,(eW.struct xT xp rfl Tryz.underlying66 Tryz.stoodInHeld66 ⟨by decide,rfl,[.bool],[.string],false,rfl,(vH xE yc Tryz.underlying4),⟨by decide,rfl,[.string],[],false,rfl,(vH yh yb Tryz.underlying9),rfl⟩⟩),rfl⟩⟩)
theorem ik:BOK Tryz.prog 71 #[.string ⟨#[]⟩,.bool false,.string ⟨#[]⟩] [(0,1),(1,2)]:=BOK.mk Tryz.zeroValue71 yn (by intro w; simp)
theorem gO:SOK Tryz.prog 67 71 0 3 #[]:=SOK.mk0 xG xX
theorem gP:SOK Tryz.prog 67 71 1 3 #[.string ⟨#[]⟩,.bool false,.string ⟨#[]⟩]:=SOK.mk xG xX Tryz.zeroValue71 (by decide) (by kernel_rfl)
theorem il:(Tryz.prog.info? 71).map (fun i=>(i.zero,i.size,i.bytes))=some (some (.agg #[.string ⟨#[]⟩,.bool false,.string ⟨#[]⟩]),3,40):=by kernel_rfl
def bM (a0:List Hd):Nat→Bool→Nat→Option (Lp Bool (Bool×Nat))
 | 0,_,_=>none
 | m8+1,y3,k4=>if (k4:Int)<(a0.length:Int) then ((a0[k4]?).bind fun x13=>if x13.wt.null=true then (if x13.wt.data = [] then (if -9223372036854775808≤((k4:Int)+1)∧((k4:Int)+1)≤9223372036854775807 then (bM a0 m8 y3 (k4+1)) else none) else some (Lp.ret false)) else (if -9223372036854775808≤((k4:Int)+1)∧((k4:Int)+1)≤9223372036854775807 then (bM a0 m8 y3 (k4+1)) else none)) else (some (Lp.go (y3,k4)))
def eY (a0:List Hd):Option (Bool):=(bM a0 (((a0.length:Int)).toNat+1) false 0).bind fun e=>match e with | .ret r=>some r | .go (y20,k21)=>some true
theorem ko (a0:List Hd) (A1:Option Addr) (c2:Nat) (r:Bool) (h:eY a0=some r):au Tryz.prog 51 #[.slice A1 a0.length c2] (RX.of (aq 3 aP) [.slice A1 a0.length c2] a0) (aw) (fun v A' N=>v= .bool r∧A'=aw∧N = []):=by
 refine aF Tryz.func51 Z Tryz.ntmps51 Z ?_
 intro F w hX
 unfold eY at h
 refine T.seq (T.region Z (TL.run ah [0] Z Z (TL.nil (X.seq (T.seq (T.seq (T.region Z (TL.run ah [0] Z Z (TL.nil (X.seq (T.block ?_)))))))))))
 obtain⟨E5,hE6,hO7⟩:=wX h
 refine vo (fun m e Rs=> ∃ (y3:Bool) (k4:Nat),e = [(0,.slice A1 a0.length c2),(2,.bool y3),(3,jI (k4:Int))]∧Rs = [aw]∧bM a0 m y3 k4=some E5) (((a0.length:Int)).toNat+1) [0] ⟨false,0,Z,Z,by exact hE6⟩ (by rfl) (by rfl) ?_
 rintro m8 _ _ ⟨y3,k4,rfl,rfl,hl10⟩
 clear hE6 h
 cases m8 with
 | zero =>
  rw[bM] at hl10
  cases hl10
 | succ m8 =>
  have h:=hl10
  clear hl10
  rw[bM] at h
  refine T.seq (T.seq (T.region Z (TL.run ah [0,1] Z Z (TL.q Z .u (uY Z xG) Z (TL.run ah [3] Z Z ?_)))))
  rcases jF h with⟨c12,h⟩ | ⟨c12,h⟩
  ·refine TL.nil (X.seq (uF Z (wY c12) (T.skip (X.seq (T.seq (T.block (T.seq (T.region Z ?_))))))))
   obtain⟨x13,hx14,h⟩:=wX h
   obtain⟨gz15,oz15,rfl,z15cs,z15cl,z15cc,z15nf,z15r⟩:=vh (by decide) hX hx14
   obtain⟨z15S,z15r,z15rr⟩:=z15r
   obtain rfl:z15cs = [jS x13.wC,.bool x13.wt.null,jS x13.wt.data]:=z15r
   refine TL.run ah [0,1] Z Z ?_
   refine TL.q Z .u (uV (k:=k4) Z Z Z xG xX (xd hx14).1) Z ?_
   refine TL.run ah [3,4] Z Z (TL.q Z .u (wb 1 Z xE z15nf z15cc Z Z) Z ?_)
   rcases jF h with⟨c16,h⟩ | ⟨c16,h⟩
   ·refine TL.run ah [6] Z Z ?_
    iterate 2 refine TL.q Z (.g Z Z c16) (uI ah Z) Z ?_
    refine TL.q Z (.g Z Z c16) (uV (k:=k4) Z Z Z xG xX (xd hx14).1) Z ?_
    iterate 2 refine TL.q Z (.g Z Z c16) (uI ah Z) Z ?_
    refine TL.q Z (.g Z Z c16) (wb 2 Z yh z15nf z15cc Z Z) Z (TL.q Z (.g Z Z c16) (Ex.sNe Z (m := []) Z) Z (TL.q Z .u (uJ Z c16 Z) Z ?_))
    rcases jF h with⟨c17,h⟩ | ⟨c17,h⟩
    ·refine TL.nil (X.seq (uK Z (av (wY c17)) (T.skip (uQ (X.seq (T.region Z ?_))))))
     replace h:=ak h
     obtain⟨c18,h⟩:=h
     exact TL.run ah [0] Z Z (TL.q Z .u (Ex.add Z Z c18) Z (TL.run ah [2] Z Z (TL.nil (X.back (m':=m8) [0] (by omega) ⟨y3,k4+1,Z,Z,h⟩ (by rfl) (by rfl)))))
    ·refine TL.nil (X.seq (uF Z (aA (wZ c17)) (T.seq (T.region Z (TL.run ah [0] Z Z ?_)))))
     obtain rfl:=xa h
     replace h:=hO7
     clear hO7
     try dsimp only at h
     obtain rfl:=xa h
     exact TL.nil (X.seq (T.ret (uS (uH (uH (uS (uH (uC [0] Tryz.results51 (uD Z) ⟨Z,Z,Z⟩ (by rfl) (.inl Z)))))))))
   ·replace c16:=xi c16
    refine TL.run ah [6] Z Z ?_
    iterate 7 refine uG Z (.gn Z Z c16) Z ?_
    refine TL.q Z .u (uL Z c16 Z) Z (TL.nil (X.seq (uK Z Z (T.skip (uQ (X.seq (T.region Z ?_)))))))
    replace h:=ak h
    obtain⟨c19,h⟩:=h
    exact TL.run ah [0] Z Z (TL.q Z .u (Ex.add Z Z c19) Z (TL.run ah [2] Z Z (TL.nil (X.back (m':=m8) [0] (by omega) ⟨y3,k4+1,Z,Z,h⟩ (by rfl) (by rfl)))))
  ·refine TL.nil (X.seq (uK Z (wZ c12) ?_))
   obtain rfl:=xa h
   replace h:=hO7
   clear hO7
   try dsimp only at h
   refine T.exit (uR (uR (vn (X.seq (T.seq (T.region Z (TL.run ah [0] Z Z ?_)))))))
   obtain rfl:=xa h
   exact TL.nil (X.seq (T.ret (uC [0] Tryz.results51 (uD Z) ⟨Z,Z,Z⟩ (by rfl) (.inl Z))))
def cy (a0:List UInt8) (x6:Int):Nat→List Hd→Int→Int→Int→List Hd→Nat→Option (Lp (List Hd×Int×Int) (List Hd×Int×Int×Int×List Hd×Nat))
 | 0,_,_,_,_,_,_=>none
 | m26+1,y13,y16,y17,y18,y19,k22=>if (k22:Int)<x6 then (if 0≤y18∧y18.toNat≤a0.length then ((et (a0.drop y18.toNat)).bind fun x32=>if x32.err=0 then (if x32.blob.null=true then (some (Lp.ret ([],0,4))) else (if -9223372036854775808≤(y18+x32.many)∧(y18+x32.many)≤9223372036854775807 then (if 0≤(y18+x32.many)∧(y18+x32.many).toNat≤a0.length then ((et (a0.drop ((y18+x32.many).toNat))).bind fun x39=>if x39.err=0 then (if (y19.length+1)*40≤140737488355328 then (if -9223372036854775808≤(y18+x32.many)∧(y18+x32.many)≤9223372036854775807 then (if -9223372036854775808≤((y18+x32.many)+x39.many)∧((y18+x32.many)+x39.many)≤9223372036854775807 then (if -9223372036854775808≤((k22:Int)+1)∧((k22:Int)+1)≤9223372036854775807 then (cy a0 x6 m26 y13 y16 y17 ((y18+x32.many)+x39.many) (y19 ++ [(⟨x32.blob.data,x39.blob⟩:Hd)]) (k22+1)) else none) else none) else none) else none) else (some (Lp.ret ([],0,x39.err)))) else none) else none)) else (some (Lp.ret ([],0,x32.err)))) else none) else (some (Lp.go (y13,y16,y17,y18,y19,k22)))
def fH (a0:List UInt8):Option (List Hd×Int×Int):=(kQ a0 32).bind fun (x1,x2,x3)=>if x3=0 then ((ke x1).bind fun x6=>if x6<0 then some ([],0,4) else (if -9223372036854775808≤((a0.length:Int) - x2)∧((a0.length:Int) - x2)≤9223372036854775807 then (if 0≤((a0.length:Int) - x2)∧((a0.length:Int) - x2)≤9223372036854775807 then (if x6>(((a0.length:Int) - x2) / 2) then some ([],0,1) else ((cy a0 x6 ((x6).toNat+1) [] 0 0 x2 ([]:List Hd) 0).bind fun e=>match e with | .ret r=>some r | .go (y50,y53,y54,y55,y56,k59)=>some (y56,y55,0))) else none) else none)) else some ([],0,x3)
theorem li (a0:List UInt8) (r:List Hd×Int×Int) (h:fH a0=some r):au Tryz.prog 98 #[jS a0] .triv (aw) (fun v A' N=> ∃ (A60:Option Addr) (c61:Nat),v= .tuple #[.slice A60 r.1.length c61,jI r.2.1,jI r.2.2]∧A'=aw∧N = [RdR (aq 3 aP) [.slice A60 r.1.length c61] r.1]):=by
 refine aF Tryz.func98 Z Tryz.ntmps98 Z ?_
 intro F w hX
 unfold fH at h
 refine T.seq (T.region Z (TL.run ah [0,1,2] Z Z (TL.nil (X.seq (T.seq (T.region Z ?_))))))
 obtain⟨⟨x1,x2,x3⟩,hx4,h⟩:=wX h
 try dsimp only at h
 refine TL.run ah [0] Z Z (uP Z .u (.fn Tryz.call95 Z) (vc (fun w=>jl a0 32 _ hx4 w)) (fun _ _=>uE _ _) Z (TL.run ah [2,3,4,5,6,7,8] Z Z (TL.nil (X.seq (T.seq (T.seq (T.region Z (TL.run ah [0,1] Z Z ?_))))))))
 rcases jF h with⟨c5,h⟩ | ⟨c5,h⟩
 ·refine TL.nil (X.seq (uK Z (av (wY c5)) (T.skip (X.seq (T.seq (T.region Z ?_))))))
  obtain⟨x6,hx7,h⟩:=wX h
  refine TL.run ah [0] Z Z (uP Z .u (.fn Tryz.call97 Z) (vc (fun w=>ig x1 _ hx7 w)) (fun _ _=>uE _ _) Z (TL.run ah [2] Z Z (TL.nil (X.seq (T.seq (T.seq (T.region Z (TL.run ah [0,1] Z Z ?_))))))))
  rcases jF h with⟨c8,h⟩ | ⟨c8,h⟩
  ·refine TL.nil (X.seq (uF Z (wY c8) (T.seq (T.region Z (TL.run ah [0,1,2] Z Z ?_)))))
   obtain rfl:=xa h
   exact TL.nil (X.seq (T.ret (uH (vd 3 aP (vm [1,0] yB (uD Z) (uD Z) (uD Z) ⟨_,_,Z,Z,Z⟩ (by rfl) (.inl Z))))))
  ·refine TL.nil (X.seq (uK Z (wZ c8) (T.skip (X.seq (T.seq (T.seq (T.region Z (TL.run ah [0,1] Z Z (TL.q Z .u (vk Z xj) Z ?_)))))))))
   replace h:=ak h
   obtain⟨c9,h⟩:=h
   refine TL.run ah [3] Z Z (TL.q Z .u (Ex.sub Z Z c9) Z ?_)
   replace h:=ak h
   obtain⟨c10,h⟩:=h
   refine TL.q Z .u (Ex.quo Z Z (by omega) c10) Z (TL.run ah [6] Z Z ?_)
   rcases jF h with⟨c11,h⟩ | ⟨c11,h⟩
   ·refine TL.nil (X.seq (uF Z (wY c11) (T.seq (T.region Z (TL.run ah [0,1,2] Z Z ?_)))))
    obtain rfl:=xa h
    exact TL.nil (X.seq (T.ret (uH (vd 3 aP (vm [1,0] yB (uD Z) (uD Z) (uD Z) ⟨_,_,Z,Z,Z⟩ (by rfl) (.inl Z))))))
   ·refine TL.nil (X.seq (uK Z (wZ c11) (T.skip (X.seq (T.seq (T.region Z (vD (cells:= #[]) Z .u gO Z (by rfl) Z (fun b12=>(wa (us := []) (xs:=([]:List Hd)) (E:=aP) (z:=3) Z (Nat.le_of_ble_eq_true Z) (fun _=>Z) (TL.run ah [1] Z Z (TL.nil (X.seq (T.seq (T.seq (T.region Z (TL.run ah [0] Z Z ?_))))))))))))))))
    refine TL.nil (X.seq (T.block (vO 71 3 aP ?_)))
    obtain⟨E23,hE24,hO25⟩:=wX h
    refine vo (fun m e Rs=> ∃ (y13:List Hd) (A14:Option Addr) (c15:Nat) (y16:Int) (y17:Int) (y18:Int) (y19:List Hd) (A20:Option Addr) (c21:Nat) (k22:Nat),e = [(0,jS a0),(2,.slice A14 y13.length c15),(3,jI y16),(4,jI y17),(6,jI y18),(8,jI x6),(9,.slice A20 y19.length c21),(10,jI (k22:Int))]∧Rs = [aE 71 3 aP (.slice A14 y13.length c15) y13,aE 71 3 aP (.slice A20 y19.length c21) y19,aw]∧cy a0 x6 m y13 y16 y17 y18 y19 k22=some E23) ((x6).toNat+1) [0,0,0] ⟨[],none,0,0,0,x2,([]:List Hd),(some ⟨b12,0,none⟩),0,0,Z,Z,by exact hE24⟩ (by rfl) (by rfl) ?_
    rintro m26 _ _ ⟨y13,A14,c15,y16,y17,y18,y19,A20,c21,k22,rfl,rfl,hl28⟩
    clear hE24 h
    cases m26 with
    | zero =>
     rw[cy] at hl28
     cases hl28
    | succ m26 =>
     have h:=hl28
     clear hl28
     rw[cy] at h
     refine T.seq (T.seq (T.region Z (TL.run ah [0,1,2] Z Z ?_)))
     rcases jF h with⟨c30,h⟩ | ⟨c30,h⟩
     ·refine TL.nil (X.seq (uF Z (wY c30) (T.skip (X.seq (T.seq (T.block (T.seq (T.region Z ?_))))))))
      replace h:=ak h
      obtain⟨c31,h⟩:=h
      refine TL.run ah [0,1] Z Z ?_
      replace c31:0≤y18∧y18.toNat≤a0.length:=c31
      refine TL.q Z .u (vq (p:=y18.toNat) (q:=a0.length) (m:=(a0.drop y18.toNat)) Z xj (.some Z ((Int.toNat_of_nonneg c31.1).symm)) .none (by first | omega | (dsimp only; omega)) (eb _ _)) Z ?_
      obtain⟨x32,hx33,h⟩:=wX h
      refine uP Z .u (.fn Tryz.call73 Z) (dL (a0.drop y18.toNat) _ hx33) (fun _ hs=>(uE _ _)) Z (TL.alloc Z .u Tryz.zeroValue136 Z (fun b34=>(uO (cs':= #[.bool x32.blob.null,jS x32.blob.data,jI x32.many,jI x32.err]) Z .u Z Z yU Z Z Z Z (TL.nil (X.seq (T.seq (T.seq (T.region Z (TL.run ah [0] Z Z (TL.q Z .u (uB 0 Z xc Z Z) Z (TL.run ah [2] Z Z ?_)))))))))))
      rcases jF h with⟨c35,h⟩ | ⟨c35,h⟩
      ·refine TL.nil (X.seq (uK Z (av (wY c35)) (T.skip (X.seq (T.seq (T.seq (T.region Z (TL.run ah [0,1] Z Z (TL.q Z .u (uB 0 Z xE Z Z) Z ?_)))))))))
       rcases jF h with⟨c36,h⟩ | ⟨c36,h⟩
       ·refine TL.nil (X.seq (uF Z c36 (T.seq (T.region Z (TL.run ah [0,1,2] Z Z ?_)))))
        obtain rfl:=xa h
        replace h:=hO25
        clear hO25
        try dsimp only at h
        obtain rfl:=xa h
        exact TL.nil (X.seq (T.ret (uH (uS (uH (uH (uS (uH (vd 3 aP (vm [4,0] yB (uD Z) (uD Z) (uD Z) ⟨_,_,Z,Z,Z⟩ (by rfl) (.inl Z)))))))))))
       ·replace c36:=xi c36
        refine TL.nil (X.seq (uK Z c36 (T.skip (X.seq (T.seq (T.region Z (TL.run ah [0,1,2] Z Z (TL.q Z .u (uB 0 Z xc Z Z) Z ?_))))))))
        replace h:=ak h
        obtain⟨c37,h⟩:=h
        refine TL.q Z .u (Ex.add Z Z c37) Z ?_
        replace h:=ak h
        obtain⟨c38,h⟩:=h
        replace c38:0≤(y18+x32.many)∧(y18+x32.many).toNat≤a0.length:=c38
        refine TL.q Z .u (vq (p:=(y18+x32.many).toNat) (q:=a0.length) (m:=(a0.drop ((y18+x32.many).toNat))) Z xj (.some Z ((Int.toNat_of_nonneg c38.1).symm)) .none (by first | omega | (dsimp only; omega)) (eb _ _)) Z ?_
        obtain⟨x39,hx40,h⟩:=wX h
        refine uP Z .u (.fn Tryz.call73 Z) (dL (a0.drop ((y18+x32.many).toNat)) _ hx40) (fun _ hs=>(uE _ _)) Z (TL.alloc Z .u Tryz.zeroValue136 Z (fun b41=>(uO (cs':= #[.bool x39.blob.null,jS x39.blob.data,jI x39.many,jI x39.err]) Z .u Z Z yU Z Z Z Z (TL.nil (X.seq (T.seq (T.seq (T.region Z (TL.run ah [0] Z Z (TL.q Z .u (uB 0 Z xc Z Z) Z (TL.run ah [2] Z Z ?_)))))))))))
        rcases jF h with⟨c42,h⟩ | ⟨c42,h⟩
        ·refine TL.nil (X.seq (uK Z (av (wY c42)) (T.skip (X.seq (T.seq (T.region Z (TL.run ah [0,1,2] Z Z (TL.q Z .u (uB 1 Z yh Z Z) Z (TL.run ah [4] Z Z (TL.q Z .u (uN (us := [.bool x39.blob.null,jS x39.blob.data]) 0 Z xT xp Z Z Z) Z ?_))))))))))
         refine TL.q Z .u (uU (cells:= #[jS x32.blob.data,.bool x39.blob.null,jS x39.blob.data]) ik Z (by kernel_rfl)) Z ?_
         refine vD (cells:= #[jS x32.blob.data,.bool x39.blob.null,jS x39.blob.data]) Z .u gP Z (by kernel_rfl) Z (fun b43=> ?_)
         replace h:=ak h
         obtain⟨c44,h⟩:=h
         refine TL.app1 3 Z .u (us := [jS x32.blob.data,.bool x39.blob.null,jS x39.blob.data]) (u:=(⟨x32.blob.data,x39.blob⟩:Hd)) (l:=y19) (E:=aP) Tryz.underlying67 il Z (by decide) Z Z Z Z Z Z (fun _ _=>Z) (by have hq:=c44; omega) (by have hq:=c44; omega) Z (fun A45 c46=> ?_)
         refine uM [0,0,0,0,0] Z (TL.run ah [9] Z Z (TL.nil (X.seq (T.region Z (TL.run ah [0,1] Z Z (TL.q Z .u (uB 1 Z xc Z Z) Z ?_))))))
         replace h:=ak h
         obtain⟨c47,h⟩:=h
         refine TL.q Z .u (Ex.add Z Z c47) Z (TL.run ah [4] Z Z (TL.q Z .u (uB 0 Z xc Z Z) Z ?_))
         replace h:=ak h
         obtain⟨c48,h⟩:=h
         refine TL.q Z .u (Ex.add Z Z c48) Z (TL.run ah [7] Z Z (TL.nil (uQ (X.seq (T.region Z ?_)))))
         replace h:=ak h
         obtain⟨c49,h⟩:=h
         exact TL.run ah [0] Z Z (TL.q Z .u (Ex.add Z Z c49) Z (TL.run ah [2] Z Z (TL.nil (X.back (m':=m26) [2,2,2] (by omega) ⟨y13,A14,c15,y16,y17,((y18+x32.many)+x39.many),(y19 ++ [(⟨x32.blob.data,x39.blob⟩:Hd)]),A45,c46,k22+1,Z,Z,h⟩ (by rfl) (by rfl)))))
        ·refine TL.nil (X.seq (uF Z (aA (wZ c42)) ?_))
         refine T.seq (uZ (.q 0 (.q 1 (.q 2 (.q 3 (.q 4 .nil))))) [0,0,0,0,0] Z eD (NoP.seq (NoP.seq (NoP.blk (NoP.seq (NoP.seq (NoP.blk (NoP.seq aI))))))) (by kernel_rfl) ?_)
         refine TD.run ah [0] Z Z (TD.q Z .u (uB 0 Z xc Z Z) Z (TD.run ah [2,3,4] Z Z ?_))
         obtain rfl:=xa h
         replace h:=hO25
         clear hO25
         try dsimp only at h
         obtain rfl:=xa h
         exact TD.nil (X.seq (T.ret (uH (uS (uH (uH (uS (uH (vd 3 aP (vm [5,0] yB (uD Z) (uD Z) (uD Z) ⟨_,_,Z,Z,Z⟩ (by rfl) (.inl Z)))))))))))
      ·refine TL.nil (X.seq (uF Z (aA (wZ c35)) ?_))
       refine T.seq (uZ (.q 0 (.q 1 (.q 2 (.q 3 (.q 4 .nil))))) [0,0,0,0] Z eD (NoP.seq (NoP.seq (NoP.blk (NoP.seq (NoP.seq (NoP.blk (NoP.seq aI))))))) (by kernel_rfl) ?_)
       refine TD.run ah [0] Z Z (TD.q Z .u (uB 0 Z xc Z Z) Z (TD.run ah [2,3,4] Z Z ?_))
       obtain rfl:=xa h
       replace h:=hO25
       clear hO25
       try dsimp only at h
       obtain rfl:=xa h
       exact TD.nil (X.seq (T.ret (uH (uS (uH (uH (uS (uH (vd 3 aP (vm [4,0] yB (uD Z) (uD Z) (uD Z) ⟨_,_,Z,Z,Z⟩ (by rfl) (.inl Z)))))))))))
     ·refine TL.nil (X.seq (uK Z (wZ c30) ?_))
      obtain rfl:=xa h
      replace h:=hO25
      clear hO25
      try dsimp only at h
      refine T.exit (uR (uR (vn (X.seq (T.seq (T.region Z (TL.run ah [0,1,2,3,4] Z Z ?_)))))))
      obtain rfl:=xa h
      exact TL.nil (X.seq (T.ret (vt (by decide) 1 Z (uW [0,0,0] Z (vm [2,1] yB (uD Z) (uD Z) (uD Z) ⟨_,_,Z,Z,Z⟩ (by rfl) (.inl Z))))))
 ·refine TL.nil (X.seq (uF Z (aA (wZ c5)) (T.seq (T.region Z (TL.run ah [0,1,2,3] Z Z ?_)))))
  obtain rfl:=xa h
  exact TL.nil (X.seq (T.ret (uH (vd 3 aP (vm [1,0] yB (uD Z) (uD Z) (uD Z) ⟨_,_,Z,Z,Z⟩ (by rfl) (.inl Z))))))
def cz (a0:List Hd) (a1:List Hd):Nat→Bool→Nat→Option (Lp Bool (Bool×Nat))
 | 0,_,_=>none
 | m11+1,y6,k7=>if (k7:Int)<(a0.length:Int) then ((a0[k7]?).bind fun x16=>(a1[k7]?).bind fun x19=>if x16.wC=x19.wC then (if x16.wt.null=x19.wt.null then (if x16.wt.data=x19.wt.data then (if -9223372036854775808≤((k7:Int)+1)∧((k7:Int)+1)≤9223372036854775807 then (cz a0 a1 m11 y6 (k7+1)) else none) else some (Lp.ret false)) else some (Lp.ret false)) else some (Lp.ret false)) else (some (Lp.go (y6,k7)))
def fI (a0:List Hd) (a1:List Hd):Option (Bool):=if (a0.length:Int)=(a1.length:Int) then ((cz a0 a1 (((a0.length:Int)).toNat+1) false 0).bind fun e=>match e with | .ret r=>some r | .go (y26,k27)=>some true) else some false
theorem lj (a0:List Hd) (A1:Option Addr) (c2:Nat) (a1:List Hd) (A3:Option Addr) (c4:Nat) (r:Bool) (h:fI a0 a1=some r):au Tryz.prog 76 #[.slice A1 a0.length c2,.slice A3 a1.length c4] (RX.and (RX.of (aq 3 aP) [.slice A1 a0.length c2] a0) (RX.of (aq 3 aP) [.slice A3 a1.length c4] a1)) (aw) (fun v A' N=>v= .bool r∧A'=aw∧N = []):=by
 refine aF Tryz.func76 Z Tryz.ntmps76 Z ?_
 intro F w hX
 unfold fI at h
 refine T.seq (T.region Z (TL.run ah [0] Z Z (TL.nil (X.seq (T.seq (T.seq (T.region Z (TL.run ah [0] Z Z (TL.q Z .u (uY Z xG) Z (TL.run ah [2] Z Z (TL.q Z .u (uY Z xG) Z (TL.run ah [4] Z Z ?_))))))))))))
 rcases jF h with⟨c5,h⟩ | ⟨c5,h⟩
 ·refine TL.nil (X.seq (uK Z (av (wY c5)) (T.skip (X.seq (T.seq (T.seq (T.region Z (TL.run ah [0] Z Z (TL.nil (X.seq (T.block ?_)))))))))))
  obtain⟨E8,hE9,hO10⟩:=wX h
  refine vo (fun m e Rs=> ∃ (y6:Bool) (k7:Nat),e = [(0,.slice A1 a0.length c2),(1,.slice A3 a1.length c4),(4,.bool y6),(5,jI (k7:Int))]∧Rs = [aw]∧cz a0 a1 m y6 k7=some E8) (((a0.length:Int)).toNat+1) [0] ⟨false,0,Z,Z,by exact hE9⟩ (by rfl) (by rfl) ?_
  rintro m11 _ _ ⟨y6,k7,rfl,rfl,hl13⟩
  clear hE9 h
  cases m11 with
  | zero =>
   rw[cz] at hl13
   cases hl13
  | succ m11 =>
   have h:=hl13
   clear hl13
   rw[cz] at h
   refine T.seq (T.seq (T.region Z (TL.run ah [0,1] Z Z (TL.q Z .u (uY Z xG) Z (TL.run ah [3] Z Z ?_)))))
   rcases jF h with⟨c15,h⟩ | ⟨c15,h⟩
   ·refine TL.nil (X.seq (uF Z (wY c15) ?_))
    refine T.skip (X.seq (T.seq (T.block (T.seq (uZ (.q 0 (.q 1 (.q 2 (.q 3 (.q 4 (.q 5 (.q 6 (.q 7 (.q 8 .nil))))))))) [0] Z eD (NoP.seq (NoP.blk (NoP.seq (NoP.seq (NoP.blk (NoP.seq aI)))))) (by kernel_rfl) ?_)))))
    obtain⟨x16,hx17,h⟩:=wX h
    obtain⟨gz18,oz18,rfl,z18cs,z18cl,z18cc,z18nf,z18r⟩:=vh (by decide) (vY hX) hx17
    obtain⟨z18S,z18r,z18rr⟩:=z18r
    obtain rfl:z18cs = [jS x16.wC,.bool x16.wt.null,jS x16.wt.data]:=z18r
    refine TD.run ah [0,1] Z Z ?_
    refine TD.q Z .u (uV (k:=k7) Z Z Z xG xX (xd hx17).1) Z ?_
    refine TD.q Z .u (vA (us := [jS x16.wC,.bool x16.wt.null,jS x16.wt.data]) 0 Z y8 xX z18nf z18cc Z Z Z) Z ?_
    obtain⟨x19,hx20,h⟩:=wX h
    obtain⟨gz21,oz21,rfl,z21cs,z21cl,z21cc,z21nf,z21r⟩:=vh (by decide) (vS hX) hx20
    obtain⟨z21S,z21r,z21rr⟩:=z21r
    obtain rfl:z21cs = [jS x19.wC,.bool x19.wt.null,jS x19.wt.data]:=z21r
    refine TD.run ah [4,5] Z Z ?_
    refine TD.q Z .u (uV (k:=k7) Z Z Z xG xX (xd hx20).1) Z ?_
    refine TD.q Z .u (vA (us := [jS x19.wC,.bool x19.wt.null,jS x19.wt.data]) 0 Z y8 xX z21nf z21cc Z Z Z) Z ?_
    rcases jF h with⟨c22,h⟩ | ⟨c22,h⟩
    ·rcases jF h with⟨c23,h⟩ | ⟨c23,h⟩
     ·rcases jF h with⟨c24,h⟩ | ⟨c24,h⟩
      ·refine TD.q Z .u (wg (us := [jS x16.wC,.bool x16.wt.null,jS x16.wt.data]) (vs := [jS x19.wC,.bool x19.wt.null,jS x19.wt.data]) cI Z yR Z Z Z Z (dI (mZ (l:=x16.wC) (m:=x19.wC) c22) (dI (mY c23) (dI (mZ (l:=x16.wt.data) (m:=x19.wt.data) c24) Z)))) Z (TD.nil (X.seq (uK Z Z (T.skip (uQ (X.seq (T.region Z ?_)))))))
       replace h:=ak h
       obtain⟨c25,h⟩:=h
       exact TL.run ah [0] Z Z (TL.q Z .u (Ex.add Z Z c25) Z (TL.run ah [2] Z Z (TL.nil (X.back (m':=m11) [0] (by omega) ⟨y6,k7+1,Z,Z,h⟩ (by rfl) (by rfl)))))
      ·refine TD.q Z .u (wg (us := [jS x16.wC,.bool x16.wt.null,jS x16.wt.data]) (vs := [jS x19.wC,.bool x19.wt.null,jS x19.wt.data]) cI Z yR Z Z Z Z (dI (mZ (l:=x16.wC) (m:=x19.wC) c22) (dI (mY c23) (gt (nJ (l:=x16.wt.data) (m:=x19.wt.data) c24))))) Z (TD.nil (X.seq (uF Z Z (T.seq (T.region Z (TL.run ah [0] Z Z ?_))))))
       obtain rfl:=xa h
       replace h:=hO10
       clear hO10
       try dsimp only at h
       obtain rfl:=xa h
       exact TL.nil (X.seq (T.ret (uS (uH (uH (uS (uH (uC [0] yV (uD Z) ⟨Z,Z,Z⟩ (by rfl) (.inl Z)))))))))
     ·refine TD.q Z .u (wg (us := [jS x16.wC,.bool x16.wt.null,jS x16.wt.data]) (vs := [jS x19.wC,.bool x19.wt.null,jS x19.wt.data]) cI Z yR Z Z Z Z (dI (mZ (l:=x16.wC) (m:=x19.wC) c22) (gt (qd c23)))) Z (TD.nil (X.seq (uF Z Z (T.seq (T.region Z (TL.run ah [0] Z Z ?_))))))
      obtain rfl:=xa h
      replace h:=hO10
      clear hO10
      try dsimp only at h
      obtain rfl:=xa h
      exact TL.nil (X.seq (T.ret (uS (uH (uH (uS (uH (uC [0] yV (uD Z) ⟨Z,Z,Z⟩ (by rfl) (.inl Z)))))))))
    ·refine TD.q Z .u (wg (us := [jS x16.wC,.bool x16.wt.null,jS x16.wt.data]) (vs := [jS x19.wC,.bool x19.wt.null,jS x19.wt.data]) cI Z yR Z Z Z Z (gt (nJ (l:=x16.wC) (m:=x19.wC) c22))) Z (TD.nil (X.seq (uF Z Z (T.seq (T.region Z (TL.run ah [0] Z Z ?_))))))
     obtain rfl:=xa h
     replace h:=hO10
     clear hO10
     try dsimp only at h
     obtain rfl:=xa h
     exact TL.nil (X.seq (T.ret (uS (uH (uH (uS (uH (uC [0] yV (uD Z) ⟨Z,Z,Z⟩ (by rfl) (.inl Z)))))))))
   ·refine TL.nil (X.seq (uK Z (wZ c15) ?_))
    obtain rfl:=xa h
    replace h:=hO10
    clear hO10
    try dsimp only at h
    refine T.exit (uR (uR (vn (X.seq (T.seq (T.region Z (TL.run ah [0] Z Z ?_)))))))
    obtain rfl:=xa h
    exact TL.nil (X.seq (T.ret (uC [0] yV (uD Z) ⟨Z,Z,Z⟩ (by rfl) (.inl Z))))
 ·refine TL.nil (X.seq (uF Z (aA (wZ c5)) (T.seq (T.region Z (TL.run ah [0] Z Z ?_)))))
  obtain rfl:=xa h
  exact TL.nil (X.seq (T.ret (uH (uC [0] yV (uD Z) ⟨Z,Z,Z⟩ (by rfl) (.inl Z)))))
def kp:dU := [(66,0,0),(66,1,1),(69,0,0),(69,1,1),(69,2,2),(69,3,4),(69,4,6),(99,1,7),(136,0,0),(136,1,2),(136,2,3)]
theorem ac:(kp).OK Tryz.prog:=⟨FOK.mk yi rfl yc rfl,FOK.mk yi rfl yb rfl,FOK.mk xz rfl xg rfl,FOK.mk xz rfl xg rfl,FOK.mk xz rfl xp rfl,FOK.mk xz rfl xp rfl,FOK.mk xz rfl yw rfl,FOK.mk yA rfl xg rfl,FOK.mk yu rfl xp rfl,FOK.mk yu rfl xg rfl,FOK.mk yu rfl xg rfl,trivial⟩
theorem bu:eW Tryz.prog 2 66 [.bool,.string] true:=(eW.struct xT xp rfl Tryz.underlying66 Tryz.stoodInHeld66 ⟨by decide,rfl,[.bool],[.string],false,rfl,(vH xE yc Tryz.underlying4),⟨by decide,rfl,[.string],[],false,rfl,(vH yh yb Tryz.underlying9),rfl⟩⟩)
theorem im:BOK Tryz.prog 69 #[.int .i64 0,.int .i64 0,.bool false,.string ⟨#[]⟩,.bool false,.string ⟨#[]⟩,.slice none 0 0] [(0,1),(1,1),(2,2),(4,2),(6,1)]:=BOK.mk Tryz.zeroValue69 xz (by intro w; simp)
theorem eZ:BOK Tryz.prog 99 #[.int .i64 0,.int .i64 0,.bool false,.string ⟨#[]⟩,.bool false,.string ⟨#[]⟩,.slice none 0 0,.int .i64 0,.int .i64 0] [(0,7),(7,1),(8,1)]:=BOK.mk Tryz.zeroValue99 yA (by intro w; simp)
def fw (a0:Bl):Option (Bool):=if a0.null=true then (if a0.data = [] then some false else some true) else some false
theorem io (a0:Bl) (r:Bool) (h:fw a0=some r):au Tryz.prog 50 #[.agg #[.bool a0.null,jS a0.data]] .triv (aw) (fun v A' N=>v= .bool r∧A'=aw∧N = []):=by
 refine aF Tryz.func50 Z Tryz.ntmps50 Z ?_
 intro F w hX
 unfold fw at h
 refine T.seq (T.region Z (TL.box Z .u Z Z (fun b1=>(TL.run ac [1] Z Z (TL.nil (X.seq (T.seq (T.region Z (TL.run ac [0] Z Z (TL.q Z .u (uB 0 Z xE Z Z) Z ?_))))))))))
 rcases jF h with⟨c2,h⟩ | ⟨c2,h⟩
 ·refine TL.run ac [2] Z Z (TL.q Z (.g Z Z c2) (uI ac Z) Z (TL.q Z (.g Z Z c2) (uB 0 Z yh Z Z) Z (TL.q Z (.g Z Z c2) (Ex.sNe Z (m := []) Z) Z (TL.q Z .u (uJ Z c2 Z) Z (TL.run ac [7] Z Z ?_)))))
  rcases jF h with⟨c3,h⟩ | ⟨c3,h⟩
  ·obtain rfl:=xa h
   exact TL.nil (X.seq (T.ret (uC [1] Tryz.results50 (uD (v:= .bool false) (congrArg (fun b=>some (Value.bool b)) (av (wY c3)))) ⟨Z,Z,Z⟩ (by rfl) (.inl Z))))
  ·obtain rfl:=xa h
   exact TL.nil (X.seq (T.ret (uC [1] Tryz.results50 (uD (v:= .bool true) (congrArg (fun b=>some (Value.bool b)) (aA (wZ c3)))) ⟨Z,Z,Z⟩ (by rfl) (.inl Z))))
 ·replace c2:=xi c2
  refine TL.run ac [2] Z Z ?_
  iterate 3 refine uG Z (.gn Z Z c2) Z ?_
  refine TL.q Z .u (uL Z c2 Z) Z (TL.run ac [7] Z Z ?_)
  obtain rfl:=xa h
  exact TL.nil (X.seq (T.ret (uC [1] Tryz.results50 (uD Z) ⟨Z,Z,Z⟩ (by rfl) (.inl Z))))
def ew (a0:Rec):Option (Int):=if a0.wD<0 then some 11 else (if a0.wD>2147483647 then some 11 else ((fw a0.wC).bind fun x6=>if x6=true then some 4 else ((fw a0.wt).bind fun x9=>if x9=true then some 4 else ((eY a0.wy).bind fun x12=>if x12=true then some 0 else some 4))))
theorem gw (a0:Rec) (A1:Option Addr) (c2:Nat) (r:Int) (h:ew a0=some r):au Tryz.prog 26 #[.agg #[jI a0.wK,jI a0.wD,.bool a0.wC.null,jS a0.wC.data,.bool a0.wt.null,jS a0.wt.data,.slice A1 a0.wy.length c2]] (RX.of (aq 3 aP) [.slice A1 a0.wy.length c2] a0.wy) (aw) (fun v A' N=>v=jI r∧A'=aw∧N = []):=by
 refine aF Tryz.func26 Z Tryz.ntmps26 Z ?_
 intro F w hX
 unfold ew at h
 refine T.seq (T.region Z (TL.box Z .u Z Z (fun b3=>(TL.run ac [1] Z Z (TL.nil (X.seq (T.seq (T.seq (T.region Z (TL.run ac [0] Z Z (TL.q Z .u (uB 0 Z xc Z Z) Z ?_)))))))))))
 rcases jF h with⟨c4,h⟩ | ⟨c4,h⟩
 ·refine TL.run ac [2,3] Z Z ?_
  iterate 3 refine uG Z (.gn Z Z (wY c4)) Z ?_
  refine TL.q Z .u (uJ Z (wY c4) Z) Z (TL.nil (X.seq (uF Z Z (T.seq (T.region Z (TL.run ac [0] Z Z ?_))))))
  obtain rfl:=xa h
  exact TL.nil (X.seq (T.ret (uH (uC [1] yJ (uD Z) ⟨Z,Z,Z⟩ (by rfl) (.inl Z)))))
 ·refine TL.run ac [2,3] Z Z (TL.q Z (.g Z Z (wZ c4)) (uI ac Z) Z (TL.q Z (.g Z Z (wZ c4)) (uB 0 Z xc Z Z) Z (TL.q Z (.g Z Z (wZ c4)) (uI ac Z) Z (TL.q Z .u (uL Z (wZ c4) Z) Z ?_))))
  rcases jF h with⟨c5,h⟩ | ⟨c5,h⟩
  ·refine TL.nil (X.seq (uF Z (wY c5) (T.seq (T.region Z (TL.run ac [0] Z Z ?_)))))
   obtain rfl:=xa h
   exact TL.nil (X.seq (T.ret (uH (uC [1] yJ (uD Z) ⟨Z,Z,Z⟩ (by rfl) (.inl Z)))))
  ·refine TL.nil (X.seq (uK Z (wZ c5) (T.skip (X.seq (T.seq (T.seq (T.region Z (TL.run ac [0] Z Z (TL.q Z .u (uN (us := [.bool a0.wC.null,jS a0.wC.data]) 0 Z xT xp Z Z Z) Z ?_)))))))))
   obtain⟨x6,hx7,h⟩:=wX h
   refine uP Z .u (.fn Tryz.call50 Z) (io a0.wC _ hx7) (fun _ hs=>(uE _ _)) Z ?_
   rcases jF h with⟨c8,h⟩ | ⟨c8,h⟩
   ·refine TL.run ac [3] Z Z ?_
    iterate 3 refine uG Z (.gn Z Z c8) Z ?_
    refine TL.q Z .u (uJ Z c8 Z) Z (TL.run ac [8] Z Z ?_)
    iterate 4 refine uG Z (.gn Z Z Z) Z ?_
    refine TL.q Z .u (uJ Z Z Z) Z (TL.nil (X.seq (uF Z Z (T.seq (T.region Z (TL.run ac [0] Z Z ?_))))))
    obtain rfl:=xa h
    exact TL.nil (X.seq (T.ret (uH (uC [1] yJ (uD Z) ⟨Z,Z,Z⟩ (by rfl) (.inl Z)))))
   ·replace c8:=xi c8
    refine TL.run ac [3] Z Z (TL.q Z (.g Z Z c8) (uI ac Z) Z (TL.q Z (.g Z Z c8) (uN (us := [.bool a0.wt.null,jS a0.wt.data]) 0 Z xT xp Z Z Z) Z ?_))
    obtain⟨x9,hx10,h⟩:=wX h
    refine uP Z (.g Z Z c8) (.fn Tryz.call50 Z) (io a0.wt _ hx10) (fun _ hs=>(uE _ _)) Z (TL.q Z .u (uL Z c8 Z) Z ?_)
    rcases jF h with⟨c11,h⟩ | ⟨c11,h⟩
    ·refine TL.run ac [8] Z Z ?_
     iterate 4 refine uG Z (.gn Z Z c11) Z ?_
     refine TL.q Z .u (uJ Z c11 Z) Z (TL.nil (X.seq (uF Z Z (T.seq (T.region Z (TL.run ac [0] Z Z ?_))))))
     obtain rfl:=xa h
     exact TL.nil (X.seq (T.ret (uH (uC [1] yJ (uD Z) ⟨Z,Z,Z⟩ (by rfl) (.inl Z)))))
    ·replace c11:=xi c11
     refine TL.run ac [8] Z Z (TL.q Z (.g Z Z c11) (uI ac Z) Z (TL.q Z (.g Z Z c11) (uB 0 Z yI Z Z) Z ?_))
     obtain⟨x12,hx13,h⟩:=wX h
     refine uP Z (.g Z Z c11) (.fn Tryz.call51 Z) (ko a0.wy _ _ _ hx13) (fun _ hs=>(vb hs hX)) Z (TL.q Z (.g Z Z c11) (uI ac Z) Z (TL.q Z .u (uL Z c11 Z) Z ?_))
     rcases jF h with⟨c14,h⟩ | ⟨c14,h⟩
     ·refine TL.nil (X.seq (uK Z (av c14) (T.skip (X.seq (T.seq (T.region Z (TL.run ac [0] Z Z ?_)))))))
      obtain rfl:=xa h
      exact TL.nil (X.seq (T.ret (uC [1] yJ (uD Z) ⟨Z,Z,Z⟩ (by rfl) (.inl Z))))
     ·replace c14:=xi c14
      refine TL.nil (X.seq (uF Z (aA c14) (T.seq (T.region Z (TL.run ac [0] Z Z ?_)))))
      obtain rfl:=xa h
      exact TL.nil (X.seq (T.ret (uH (uC [1] yJ (uD Z) ⟨Z,Z,Z⟩ (by rfl) (.inl Z)))))
def bm (a0:Int):Option (gf):=some (⟨(⟨0,0,(⟨false,[]⟩:Bl),(⟨false,[]⟩:Bl),[]⟩:Rec),0,a0⟩:gf)
theorem aV (a0:Int) (r:gf) (h:bm a0=some r):au Tryz.prog 74 #[jI a0] .triv (aw) (fun v A' N=> ∃ (A2:Option Addr) (c3:Nat),v= .agg #[jI r.wu.wK,jI r.wu.wD,.bool r.wu.wC.null,jS r.wu.wC.data,.bool r.wu.wt.null,jS r.wu.wt.data,.slice A2 r.wu.wy.length c3,jI r.wP,jI r.wO]∧A'=aw∧N = [RdR (aq 3 aP) [.slice A2 r.wu.wy.length c3] r.wu.wy]):=by
 refine aF Tryz.func74 Z Tryz.ntmps74 Z ?_
 intro F w hX
 unfold bm at h
 refine T.seq (T.region Z (TL.alloc Z .u Tryz.zeroValue99 Z (fun b1=>(TL.nil (X.seq (T.seq (T.region Z (TL.run ac [0] Z Z ?_))))))))
 refine TL.q Z .u (uU (cells:= #[jI 0,jI 0,.bool false,.string ⟨#[]⟩,.bool false,.string ⟨#[]⟩,.slice none 0 0,jI 0,jI a0]) eZ Z (by kernel_rfl)) Z ?_
 refine uO (cs':= #[jI 0,jI 0,.bool false,.string ⟨#[]⟩,.bool false,.string ⟨#[]⟩,.slice none 0 0,jI 0,jI a0]) Z .u Z Z xD Z Z Z Z ?_
 obtain rfl:=xa h
 exact TL.nil (X.seq (T.ret (vd 3 aP (uC [2,0] Tryz.results74 (uT (us:= #[jI 0,jI 0,.bool false,.string ⟨#[]⟩,.bool false,.string ⟨#[]⟩,.slice none 0 0,jI 0,jI a0]) 1 Z yd xD Z Z) ⟨_,_,Z,Z,Z⟩ (by rfl) (.inl Z)))))
def e7 (a0:List UInt8):Option (gf):=if (a0.length:Int)<1 then ((bm 1).bind fun x3=>some x3) else ((a0[0]?).bind fun ch7=>if (ch7.toNat:Int)=0 then (if 1≤a0.length then ((kQ (a0.drop 1) 64).bind fun (x11,x12,x13)=>if x13=0 then (if -9223372036854775808≤(1+x12)∧(1+x12)≤9223372036854775807 then (if 0≤(1+x12)∧(1+x12).toNat≤a0.length then ((kQ (a0.drop ((1+x12).toNat)) 32).bind fun (x18,x19,x20)=>if x20=0 then ((ke x11).bind fun x23=>(ke x18).bind fun x25=>if x25<0 then ((bm 11).bind fun x29=>some x29) else (if 0≤x19∧x19.toNat≤(a0.drop ((1+x12).toNat)).length then ((et ((a0.drop ((1+x12).toNat)).drop x19.toNat)).bind fun x34=>if x34.err=0 then (if 0≤x34.many∧x34.many.toNat≤((a0.drop ((1+x12).toNat)).drop x19.toNat).length then ((et (((a0.drop ((1+x12).toNat)).drop x19.toNat).drop x34.many.toNat)).bind fun x39=>if x39.err=0 then (if 0≤x39.many∧x39.many.toNat≤(((a0.drop ((1+x12).toNat)).drop x19.toNat).drop x34.many.toNat).length then ((fH ((((a0.drop ((1+x12).toNat)).drop x19.toNat).drop x34.many.toNat).drop x39.many.toNat)).bind fun (x44,x47,x48)=>if x48=0 then (if x47=(((((a0.drop ((1+x12).toNat)).drop x19.toNat).drop x34.many.toNat).drop x39.many.toNat).length:Int) then (some (⟨(⟨x23,x25,x34.blob,x39.blob,x44⟩:Rec),0,0⟩:gf)) else ((bm 2).bind fun x52=>some x52)) else ((bm x48).bind fun x56=>some x56)) else none) else ((bm x39.err).bind fun x60=>some x60)) else none) else ((bm x34.err).bind fun x64=>some x64)) else none)) else ((bm x20).bind fun x68=>some x68)) else none) else none) else ((bm x13).bind fun x72=>some x72)) else none) else ((bm 8).bind fun x76=>some x76))
theorem kq (a0:List UInt8) (r:gf) (h:e7 a0=some r):au Tryz.prog 75 #[jS a0] .triv (aw) (fun v A' N=> ∃ (A80:Option Addr) (c81:Nat),v= .agg #[jI r.wu.wK,jI r.wu.wD,.bool r.wu.wC.null,jS r.wu.wC.data,.bool r.wu.wt.null,jS r.wu.wt.data,.slice A80 r.wu.wy.length c81,jI r.wP,jI r.wO]∧A'=aw∧N = [RdR (aq 3 aP) [.slice A80 r.wu.wy.length c81] r.wu.wy]):=by
 refine aF Tryz.func75 Z Tryz.ntmps75 Z ?_
 intro F w hX
 unfold e7 at h
 refine T.seq (T.region Z (TL.alloc Z .u Tryz.zeroValue99 Z (fun b1=>(TL.nil (X.seq (T.seq (T.seq (T.region Z (TL.run ac [0] Z Z (TL.q Z .u (vk Z xj) Z (TL.run ac [2] Z Z ?_)))))))))))
 rcases jF h with⟨c2,h⟩ | ⟨c2,h⟩
 ·refine TL.nil (X.seq (uF Z (wY c2) ?_))
  obtain⟨x3,hx6,h⟩:=wX h
  refine T.seq (T.region Z (u0 Z .u (.fn Tryz.call74 Z) (aV 1 _ hx6) (fun _ hs=>(uE _ _)) Z ?_))
  rintro _ _ _ ⟨A4,c5,rfl,rfl,rfl⟩
  refine uM [0,0,0] Z (vL (cs':= #[jI x3.wu.wK,jI x3.wu.wD,.bool x3.wu.wC.null,jS x3.wu.wC.data,.bool x3.wu.wt.null,jS x3.wu.wt.data,.slice A4 x3.wu.wy.length c5,jI x3.wP,jI x3.wO]) Z .u Z Z xD Z Z Z Z ?_)
  obtain rfl:=xa h
  exact TL.nil (X.seq (T.ret (uH (uC [2,0] yo (uT (us:= #[jI x3.wu.wK,jI x3.wu.wD,.bool x3.wu.wC.null,jS x3.wu.wC.data,.bool x3.wu.wt.null,jS x3.wu.wt.data,.slice A4 x3.wu.wy.length c5,jI x3.wP,jI x3.wO]) 1 Z yd xD Z Z) ⟨_,_,Z,Z,Z⟩ (by rfl) (.inl Z)))))
 ·refine TL.nil (X.seq (uK Z (wZ c2) (T.skip (X.seq (T.seq (T.seq (T.region Z ?_)))))))
  obtain⟨ch7,hc8,h⟩:=wX h
  refine TL.run ac [0] Z Z (TL.q Z .u (Ex.sIx Z Z Z Tryz.underlying9 hc8) Z (TL.run ac [2] Z Z ?_))
  rcases jF h with⟨c9,h⟩ | ⟨c9,h⟩
  ·refine TL.nil (X.seq (uK Z (av (wY c9)) (T.skip (X.seq (T.seq (T.region Z ?_))))))
   replace h:=ak h
   obtain⟨c10,h⟩:=h
   refine TL.run ac [0] Z Z ?_
   replace c10:1≤a0.length:=c10
   refine TL.q Z .u (vq (p:=1) (q:=a0.length) (m:=(a0.drop 1)) Z xj (.some Z Z) .none (by first | omega | (dsimp only; omega)) (eb _ _)) Z ?_
   obtain⟨⟨x11,x12,x13⟩,hx14,h⟩:=wX h
   try dsimp only at h
   refine uP Z .u (.fn Tryz.call95 Z) (vc (fun w=>jl (a0.drop 1) 64 _ hx14 w)) (fun _ _=>uE _ _) Z (TL.run ac [3,4,5,6,7,8,9] Z Z (TL.nil (X.seq (T.seq (T.seq (T.region Z (TL.run ac [0,1] Z Z ?_)))))))
   rcases jF h with⟨c15,h⟩ | ⟨c15,h⟩
   ·refine TL.nil (X.seq (uK Z (av (wY c15)) (T.skip (X.seq (T.seq (T.region Z ?_))))))
    replace h:=ak h
    obtain⟨c16,h⟩:=h
    refine TL.run ac [0,1] Z Z (TL.q Z .u (Ex.add Z Z c16) Z ?_)
    replace h:=ak h
    obtain⟨c17,h⟩:=h
    replace c17:0≤(1+x12)∧(1+x12).toNat≤a0.length:=c17
    refine TL.q Z .u (vq (p:=(1+x12).toNat) (q:=a0.length) (m:=(a0.drop ((1+x12).toNat))) Z xj (.some Z ((Int.toNat_of_nonneg c17.1).symm)) .none (by first | omega | (dsimp only; omega)) (eb _ _)) Z ?_
    refine TL.run ac [4] Z Z (TL.nil (X.seq (T.seq (T.region Z ?_))))
    obtain⟨⟨x18,x19,x20⟩,hx21,h⟩:=wX h
    try dsimp only at h
    refine TL.run ac [0] Z Z (uP Z .u (.fn Tryz.call95 Z) (vc (fun w=>jl (a0.drop ((1+x12).toNat)) 32 _ hx21 w)) (fun _ _=>uE _ _) Z (TL.run ac [2,3,4,5,6,7,8] Z Z (TL.nil (X.seq (T.seq (T.seq (T.region Z (TL.run ac [0,1] Z Z ?_))))))))
    rcases jF h with⟨c22,h⟩ | ⟨c22,h⟩
    ·refine TL.nil (X.seq (uK Z (av (wY c22)) (T.skip (X.seq (T.seq (T.region Z ?_))))))
     obtain⟨x23,hx24,h⟩:=wX h
     refine TL.run ac [0] Z Z (uP Z .u (.fn Tryz.call97 Z) (vc (fun w=>ig x11 _ hx24 w)) (fun _ _=>uE _ _) Z ?_)
     obtain⟨x25,hx26,h⟩:=wX h
     refine TL.run ac [2] Z Z (uP Z .u (.fn Tryz.call97 Z) (vc (fun w=>ig x18 _ hx26 w)) (fun _ _=>uE _ _) Z ?_)
     refine TL.q Z .u (uU (cells:= #[jI x23,jI x25,.bool false,.string ⟨#[]⟩,.bool false,.string ⟨#[]⟩,.slice none 0 0]) im Z (by kernel_rfl)) Z ?_
     refine TL.alloc Z .u Tryz.zeroValue69 Z (fun b27=>(uO (cs':= #[jI x23,jI x25,.bool false,.string ⟨#[]⟩,.bool false,.string ⟨#[]⟩,.slice none 0 0]) Z .u Z Z xk Z Z Z Z (TL.nil (X.seq (T.seq (T.seq (T.region Z (TL.run ac [0] Z Z (TL.q Z .u (uB 0 Z xc Z Z) Z (TL.run ac [2] Z Z ?_))))))))))
     rcases jF h with⟨c28,h⟩ | ⟨c28,h⟩
     ·refine TL.nil (X.seq (uF Z (wY c28) ?_))
      obtain⟨x29,hx32,h⟩:=wX h
      refine T.seq (T.region Z (u0 Z .u (.fn Tryz.call74 Z) (aV 11 _ hx32) (fun _ hs=>(uE _ _)) Z ?_))
      rintro _ _ _ ⟨A30,c31,rfl,rfl,rfl⟩
      refine uM [0,0,0,0] Z (vB (cs':= #[jI x29.wu.wK,jI x29.wu.wD,.bool x29.wu.wC.null,jS x29.wu.wC.data,.bool x29.wu.wt.null,jS x29.wu.wt.data,.slice A30 x29.wu.wy.length c31,jI x29.wP,jI x29.wO]) Z .u Z Z xD Z Z Z Z ?_)
      obtain rfl:=xa h
      exact TL.nil (X.seq (T.ret (uH (uC [3,0] yo (uT (us:= #[jI x29.wu.wK,jI x29.wu.wD,.bool x29.wu.wC.null,jS x29.wu.wC.data,.bool x29.wu.wt.null,jS x29.wu.wt.data,.slice A30 x29.wu.wy.length c31,jI x29.wP,jI x29.wO]) 2 Z yd xD Z Z) ⟨_,_,Z,Z,Z⟩ (by rfl) (.inl Z)))))
     ·refine TL.nil (X.seq (uK Z (wZ c28) (T.skip (X.seq (T.seq (T.region Z ?_))))))
      replace h:=ak h
      obtain⟨c33,h⟩:=h
      refine TL.run ac [0,1] Z Z ?_
      replace c33:0≤x19∧x19.toNat≤(a0.drop ((1+x12).toNat)).length:=c33
      refine TL.q Z .u (vq (p:=x19.toNat) (q:=(a0.drop ((1+x12).toNat)).length) (m:=((a0.drop ((1+x12).toNat)).drop x19.toNat)) Z xj (.some Z ((Int.toNat_of_nonneg c33.1).symm)) .none (by first | omega | (dsimp only; omega)) (eb _ _)) Z ?_
      refine TL.run ac [3] Z Z (TL.nil (X.seq (T.seq (T.region Z ?_))))
      obtain⟨x34,hx35,h⟩:=wX h
      refine TL.run ac [0] Z Z (uP Z .u (.fn Tryz.call73 Z) (dL ((a0.drop ((1+x12).toNat)).drop x19.toNat) _ hx35) (fun _ hs=>(uE _ _)) Z (TL.alloc Z .u Tryz.zeroValue136 Z (fun b36=>(uO (cs':= #[.bool x34.blob.null,jS x34.blob.data,jI x34.many,jI x34.err]) Z .u Z Z yU Z Z Z Z (TL.nil (X.seq (T.seq (T.seq (T.region Z (TL.run ac [0] Z Z (TL.q Z .u (uB 0 Z xc Z Z) Z (TL.run ac [2] Z Z ?_))))))))))))
      rcases jF h with⟨c37,h⟩ | ⟨c37,h⟩
      ·refine TL.nil (X.seq (uK Z (av (wY c37)) (T.skip (X.seq (T.seq (T.region Z (TL.run ac [0,1] Z Z (TL.q Z .u (uB 0 Z xc Z Z) Z ?_))))))))
       replace h:=ak h
       obtain⟨c38,h⟩:=h
       replace c38:0≤x34.many∧x34.many.toNat≤((a0.drop ((1+x12).toNat)).drop x19.toNat).length:=c38
       refine TL.q Z .u (vq (p:=x34.many.toNat) (q:=((a0.drop ((1+x12).toNat)).drop x19.toNat).length) (m:=(((a0.drop ((1+x12).toNat)).drop x19.toNat).drop x34.many.toNat)) Z xj (.some Z ((Int.toNat_of_nonneg c38.1).symm)) .none (by first | omega | (dsimp only; omega)) (eb _ _)) Z ?_
       refine TL.run ac [4] Z Z (TL.nil (X.seq (T.seq (T.region Z ?_))))
       obtain⟨x39,hx40,h⟩:=wX h
       refine TL.run ac [0] Z Z (uP Z .u (.fn Tryz.call73 Z) (dL (((a0.drop ((1+x12).toNat)).drop x19.toNat).drop x34.many.toNat) _ hx40) (fun _ hs=>(uE _ _)) Z (TL.alloc Z .u Tryz.zeroValue136 Z (fun b41=>(uO (cs':= #[.bool x39.blob.null,jS x39.blob.data,jI x39.many,jI x39.err]) Z .u Z Z yU Z Z Z Z (TL.nil (X.seq (T.seq (T.seq (T.region Z (TL.run ac [0] Z Z (TL.q Z .u (uB 0 Z xc Z Z) Z (TL.run ac [2] Z Z ?_))))))))))))
       rcases jF h with⟨c42,h⟩ | ⟨c42,h⟩
       ·refine TL.nil (X.seq (uK Z (av (wY c42)) (T.skip (X.seq (T.seq (T.region Z (TL.run ac [0,1] Z Z (TL.q Z .u (uB 0 Z xc Z Z) Z ?_))))))))
        replace h:=ak h
        obtain⟨c43,h⟩:=h
        replace c43:0≤x39.many∧x39.many.toNat≤(((a0.drop ((1+x12).toNat)).drop x19.toNat).drop x34.many.toNat).length:=c43
        refine TL.q Z .u (vq (p:=x39.many.toNat) (q:=(((a0.drop ((1+x12).toNat)).drop x19.toNat).drop x34.many.toNat).length) (m:=((((a0.drop ((1+x12).toNat)).drop x19.toNat).drop x34.many.toNat).drop x39.many.toNat)) Z xj (.some Z ((Int.toNat_of_nonneg c43.1).symm)) .none (by first | omega | (dsimp only; omega)) (eb _ _)) Z ?_
        refine TL.run ac [4] Z Z (TL.nil (X.seq (T.seq (T.region Z ?_))))
        obtain⟨⟨x44,x47,x48⟩,hx49,h⟩:=wX h
        try dsimp only at h
        refine TL.run ac [0] Z Z (u0 Z .u (.fn Tryz.call98 Z) (li ((((a0.drop ((1+x12).toNat)).drop x19.toNat).drop x34.many.toNat).drop x39.many.toNat) _ hx49) (fun _ hs=>(uE _ _)) Z ?_)
        rintro _ _ _ ⟨A45,c46,rfl,rfl,rfl⟩
        refine uM [0,0,0,0,0,0] Z (TL.run ac [2,3,4,5,6,7,8] Z Z (TL.nil (X.seq (T.seq (T.seq (T.region Z (TL.run ac [0,1] Z Z ?_)))))))
        rcases jF h with⟨c50,h⟩ | ⟨c50,h⟩
        ·refine TL.nil (X.seq (uK Z (av (wY c50)) (T.skip (X.seq (T.seq (T.seq (T.region Z (TL.run ac [0,1] Z Z (TL.q Z .u (vk Z xj) Z (TL.run ac [3] Z Z ?_))))))))))
         rcases jF h with⟨c51,h⟩ | ⟨c51,h⟩
         ·refine TL.nil (X.seq (uK Z (av (wY c51)) (T.skip (X.seq (T.seq (T.region Z (TL.run ac [0] Z Z (TL.q Z .u (uN (us := [.bool x34.blob.null,jS x34.blob.data]) 2 Z xT xp Z Z Z) Z (TL.run ac [2] Z Z (vg (cs':= #[jI x23,jI x25,.bool x34.blob.null,jS x34.blob.data,.bool false,.string ⟨#[]⟩,.slice none 0 0]) Z .u Z Z xp Z Z Z Z (TL.nil (X.seq (T.seq (T.region Z ?_))))))))))))))
          refine TL.run ac [0] Z Z (TL.q Z .u (uN (us := [.bool x39.blob.null,jS x39.blob.data]) 1 Z xT xp Z Z Z) Z (TL.run ac [2] Z Z (vg (cs':= #[jI x23,jI x25,.bool x34.blob.null,jS x34.blob.data,.bool x39.blob.null,jS x39.blob.data,.slice none 0 0]) Z .u Z Z xp Z Z Z Z (TL.nil (X.seq (T.seq (T.region Z (TL.run ac [0,1] Z Z (vg (cs':= #[jI x23,jI x25,.bool x34.blob.null,jS x34.blob.data,.bool x39.blob.null,jS x39.blob.data,.slice A45 x44.length c46]) Z .u Z Z yw Z Z Z Z (TL.nil (X.seq (T.seq (T.region Z ?_)))))))))))))
          refine TL.q Z .u (uN (us := [jI x23,jI x25,.bool x34.blob.null,jS x34.blob.data,.bool x39.blob.null,jS x39.blob.data,.slice A45 x44.length c46]) 3 Z xF xk Z Z Z) Z ?_
          refine TL.q Z .u (uU (cells:= #[jI x23,jI x25,.bool x34.blob.null,jS x34.blob.data,.bool x39.blob.null,jS x39.blob.data,.slice A45 x44.length c46,jI 0,jI 0]) eZ Z (by kernel_rfl)) Z ?_
          refine vx (cs':= #[jI x23,jI x25,.bool x34.blob.null,jS x34.blob.data,.bool x39.blob.null,jS x39.blob.data,.slice A45 x44.length c46,jI 0,jI 0]) Z .u Z Z xD Z Z Z Z ?_
          obtain rfl:=xa h
          exact TL.nil (X.seq (T.ret (uC [5,0] yo (uT (us:= #[jI x23,jI x25,.bool x34.blob.null,jS x34.blob.data,.bool x39.blob.null,jS x39.blob.data,.slice A45 x44.length c46,jI 0,jI 0]) 4 Z yd xD Z Z) ⟨_,_,Z,Z,Z⟩ (by rfl) (.inl Z))))
         ·refine TL.nil (X.seq (uF Z (aA (wZ c51)) ?_))
          obtain⟨x52,hx55,h⟩:=wX h
          refine T.seq (T.region Z (u0 Z .u (.fn Tryz.call74 Z) (aV 2 _ hx55) (fun _ hs=>(uE _ _)) Z ?_))
          rintro _ _ _ ⟨A53,c54,rfl,rfl,rfl⟩
          refine uM [0,0,0,0,0,0,0] Z (TL.st5 (cs':= #[jI x52.wu.wK,jI x52.wu.wD,.bool x52.wu.wC.null,jS x52.wu.wC.data,.bool x52.wu.wt.null,jS x52.wu.wt.data,.slice A53 x52.wu.wy.length c54,jI x52.wP,jI x52.wO]) Z .u Z Z xD Z Z Z Z ?_)
          obtain rfl:=xa h
          exact TL.nil (X.seq (T.ret (uH (uC [6,0] yo (uT (us:= #[jI x52.wu.wK,jI x52.wu.wD,.bool x52.wu.wC.null,jS x52.wu.wC.data,.bool x52.wu.wt.null,jS x52.wu.wt.data,.slice A53 x52.wu.wy.length c54,jI x52.wP,jI x52.wO]) 5 Z yd xD Z Z) ⟨_,_,Z,Z,Z⟩ (by rfl) (.inl Z)))))
        ·refine TL.nil (X.seq (uF Z (aA (wZ c50)) (T.seq (T.region Z ?_))))
         obtain⟨x56,hx59,h⟩:=wX h
         refine TL.run ac [0] Z Z (u0 Z .u (.fn Tryz.call74 Z) (aV x48 _ hx59) (fun _ hs=>(uE _ _)) Z ?_)
         rintro _ _ _ ⟨A57,c58,rfl,rfl,rfl⟩
         refine uM [0,0,0,0,0,0,0] Z (TL.st5 (cs':= #[jI x56.wu.wK,jI x56.wu.wD,.bool x56.wu.wC.null,jS x56.wu.wC.data,.bool x56.wu.wt.null,jS x56.wu.wt.data,.slice A57 x56.wu.wy.length c58,jI x56.wP,jI x56.wO]) Z .u Z Z xD Z Z Z Z ?_)
         obtain rfl:=xa h
         exact TL.nil (X.seq (T.ret (uH (uC [6,0] yo (uT (us:= #[jI x56.wu.wK,jI x56.wu.wD,.bool x56.wu.wC.null,jS x56.wu.wC.data,.bool x56.wu.wt.null,jS x56.wu.wt.data,.slice A57 x56.wu.wy.length c58,jI x56.wP,jI x56.wO]) 5 Z yd xD Z Z) ⟨_,_,Z,Z,Z⟩ (by rfl) (.inl Z)))))
       ·refine TL.nil (X.seq (uF Z (aA (wZ c42)) (T.seq (T.region Z (TL.run ac [0] Z Z (TL.q Z .u (uB 0 Z xc Z Z) Z ?_))))))
        obtain⟨x60,hx63,h⟩:=wX h
        refine u0 Z .u (.fn Tryz.call74 Z) (aV x39.err _ hx63) (fun _ hs=>(uE _ _)) Z ?_
        rintro _ _ _ ⟨A61,c62,rfl,rfl,rfl⟩
        refine uM [0,0,0,0,0,0] Z (vx (cs':= #[jI x60.wu.wK,jI x60.wu.wD,.bool x60.wu.wC.null,jS x60.wu.wC.data,.bool x60.wu.wt.null,jS x60.wu.wt.data,.slice A61 x60.wu.wy.length c62,jI x60.wP,jI x60.wO]) Z .u Z Z xD Z Z Z Z ?_)
        obtain rfl:=xa h
        exact TL.nil (X.seq (T.ret (uH (uC [5,0] yo (uT (us:= #[jI x60.wu.wK,jI x60.wu.wD,.bool x60.wu.wC.null,jS x60.wu.wC.data,.bool x60.wu.wt.null,jS x60.wu.wt.data,.slice A61 x60.wu.wy.length c62,jI x60.wP,jI x60.wO]) 4 Z yd xD Z Z) ⟨_,_,Z,Z,Z⟩ (by rfl) (.inl Z)))))
      ·refine TL.nil (X.seq (uF Z (aA (wZ c37)) (T.seq (T.region Z (TL.run ac [0] Z Z (TL.q Z .u (uB 0 Z xc Z Z) Z ?_))))))
       obtain⟨x64,hx67,h⟩:=wX h
       refine u0 Z .u (.fn Tryz.call74 Z) (aV x34.err _ hx67) (fun _ hs=>(uE _ _)) Z ?_
       rintro _ _ _ ⟨A65,c66,rfl,rfl,rfl⟩
       refine uM [0,0,0,0,0] Z (vg (cs':= #[jI x64.wu.wK,jI x64.wu.wD,.bool x64.wu.wC.null,jS x64.wu.wC.data,.bool x64.wu.wt.null,jS x64.wu.wt.data,.slice A65 x64.wu.wy.length c66,jI x64.wP,jI x64.wO]) Z .u Z Z xD Z Z Z Z ?_)
       obtain rfl:=xa h
       exact TL.nil (X.seq (T.ret (uH (uC [4,0] yo (uT (us:= #[jI x64.wu.wK,jI x64.wu.wD,.bool x64.wu.wC.null,jS x64.wu.wC.data,.bool x64.wu.wt.null,jS x64.wu.wt.data,.slice A65 x64.wu.wy.length c66,jI x64.wP,jI x64.wO]) 3 Z yd xD Z Z) ⟨_,_,Z,Z,Z⟩ (by rfl) (.inl Z)))))
    ·refine TL.nil (X.seq (uF Z (aA (wZ c22)) (T.seq (T.region Z ?_))))
     obtain⟨x68,hx71,h⟩:=wX h
     refine TL.run ac [0] Z Z (u0 Z .u (.fn Tryz.call74 Z) (aV x20 _ hx71) (fun _ hs=>(uE _ _)) Z ?_)
     rintro _ _ _ ⟨A69,c70,rfl,rfl,rfl⟩
     refine uM [0,0,0] Z (vL (cs':= #[jI x68.wu.wK,jI x68.wu.wD,.bool x68.wu.wC.null,jS x68.wu.wC.data,.bool x68.wu.wt.null,jS x68.wu.wt.data,.slice A69 x68.wu.wy.length c70,jI x68.wP,jI x68.wO]) Z .u Z Z xD Z Z Z Z ?_)
     obtain rfl:=xa h
     exact TL.nil (X.seq (T.ret (uH (uC [2,0] yo (uT (us:= #[jI x68.wu.wK,jI x68.wu.wD,.bool x68.wu.wC.null,jS x68.wu.wC.data,.bool x68.wu.wt.null,jS x68.wu.wt.data,.slice A69 x68.wu.wy.length c70,jI x68.wP,jI x68.wO]) 1 Z yd xD Z Z) ⟨_,_,Z,Z,Z⟩ (by rfl) (.inl Z)))))
   ·refine TL.nil (X.seq (uF Z (aA (wZ c15)) (T.seq (T.region Z ?_))))
    obtain⟨x72,hx75,h⟩:=wX h
    refine TL.run ac [0] Z Z (u0 Z .u (.fn Tryz.call74 Z) (aV x13 _ hx75) (fun _ hs=>(uE _ _)) Z ?_)
    rintro _ _ _ ⟨A73,c74,rfl,rfl,rfl⟩
    refine uM [0,0,0] Z (vL (cs':= #[jI x72.wu.wK,jI x72.wu.wD,.bool x72.wu.wC.null,jS x72.wu.wC.data,.bool x72.wu.wt.null,jS x72.wu.wt.data,.slice A73 x72.wu.wy.length c74,jI x72.wP,jI x72.wO]) Z .u Z Z xD Z Z Z Z ?_)
    obtain rfl:=xa h
    exact TL.nil (X.seq (T.ret (uH (uC [2,0] yo (uT (us:= #[jI x72.wu.wK,jI x72.wu.wD,.bool x72.wu.wC.null,jS x72.wu.wC.data,.bool x72.wu.wt.null,jS x72.wu.wt.data,.slice A73 x72.wu.wy.length c74,jI x72.wP,jI x72.wO]) 1 Z yd xD Z Z) ⟨_,_,Z,Z,Z⟩ (by rfl) (.inl Z)))))
  ·refine TL.nil (X.seq (uF Z (aA (wZ c9)) ?_))
   obtain⟨x76,hx79,h⟩:=wX h
   refine T.seq (T.region Z (u0 Z .u (.fn Tryz.call74 Z) (aV 8 _ hx79) (fun _ hs=>(uE _ _)) Z ?_))
   rintro _ _ _ ⟨A77,c78,rfl,rfl,rfl⟩
   refine uM [0,0,0] Z (vL (cs':= #[jI x76.wu.wK,jI x76.wu.wD,.bool x76.wu.wC.null,jS x76.wu.wC.data,.bool x76.wu.wt.null,jS x76.wu.wt.data,.slice A77 x76.wu.wy.length c78,jI x76.wP,jI x76.wO]) Z .u Z Z xD Z Z Z Z ?_)
   obtain rfl:=xa h
   exact TL.nil (X.seq (T.ret (uH (uC [2,0] yo (uT (us:= #[jI x76.wu.wK,jI x76.wu.wD,.bool x76.wu.wC.null,jS x76.wu.wC.data,.bool x76.wu.wt.null,jS x76.wu.wt.data,.slice A77 x76.wu.wy.length c78,jI x76.wP,jI x76.wO]) 1 Z yd xD Z Z) ⟨_,_,Z,Z,Z⟩ (by rfl) (.inl Z)))))
def eR (a0:List UInt8):Option (gf):=(et a0).bind fun x2=>if x2.err=0 then (if x2.blob.null=true then ((bm 4).bind fun x7=>some x7) else ((e7 x2.blob.data).bind fun x11=>some (⟨x11.wu,x2.many,x11.wO⟩:gf))) else ((bm x2.err).bind fun x16=>some x16)
theorem lk (a0:List UInt8) (r:gf) (h:eR a0=some r):au Tryz.prog 44 #[jS a0] .triv (aw) (fun v A' N=> ∃ (A20:Option Addr) (c21:Nat),v= .agg #[jI r.wu.wK,jI r.wu.wD,.bool r.wu.wC.null,jS r.wu.wC.data,.bool r.wu.wt.null,jS r.wu.wt.data,.slice A20 r.wu.wy.length c21,jI r.wP,jI r.wO]∧A'=aw∧N = [RdR (aq 3 aP) [.slice A20 r.wu.wy.length c21] r.wu.wy]):=by
 refine aF Tryz.func44 Z Tryz.ntmps44 Z ?_
 intro F w hX
 unfold eR at h
 refine T.seq (T.region Z (TL.alloc Z .u Tryz.zeroValue99 Z (fun b1=>(TL.nil (X.seq (T.seq (T.region Z ?_)))))))
 obtain⟨x2,hx3,h⟩:=wX h
 refine TL.run ac [0] Z Z (uP Z .u (.fn Tryz.call73 Z) (dL a0 _ hx3) (fun _ hs=>(uE _ _)) Z (TL.alloc Z .u Tryz.zeroValue136 Z (fun b4=>(uO (cs':= #[.bool x2.blob.null,jS x2.blob.data,jI x2.many,jI x2.err]) Z .u Z Z yU Z Z Z Z (TL.nil (X.seq (T.seq (T.seq (T.region Z (TL.run ac [0] Z Z (TL.q Z .u (uB 0 Z xc Z Z) Z (TL.run ac [2] Z Z ?_))))))))))))
 rcases jF h with⟨c5,h⟩ | ⟨c5,h⟩
 ·refine TL.nil (X.seq (uK Z (av (wY c5)) (T.skip (X.seq (T.seq (T.seq (T.region Z (TL.run ac [0,1] Z Z (TL.q Z .u (uB 0 Z xE Z Z) Z ?_)))))))))
  rcases jF h with⟨c6,h⟩ | ⟨c6,h⟩
  ·refine TL.nil (X.seq (uF Z c6 ?_))
   obtain⟨x7,hx10,h⟩:=wX h
   refine T.seq (T.region Z (u0 Z .u (.fn Tryz.call74 Z) (aV 4 _ hx10) (fun _ hs=>(uE _ _)) Z ?_))
   rintro _ _ _ ⟨A8,c9,rfl,rfl,rfl⟩
   refine uM [0,0,0,0] Z (vB (cs':= #[jI x7.wu.wK,jI x7.wu.wD,.bool x7.wu.wC.null,jS x7.wu.wC.data,.bool x7.wu.wt.null,jS x7.wu.wt.data,.slice A8 x7.wu.wy.length c9,jI x7.wP,jI x7.wO]) Z .u Z Z xD Z Z Z Z ?_)
   obtain rfl:=xa h
   exact TL.nil (X.seq (T.ret (uH (uC [3,0] Tryz.results44 (uT (us:= #[jI x7.wu.wK,jI x7.wu.wD,.bool x7.wu.wC.null,jS x7.wu.wC.data,.bool x7.wu.wt.null,jS x7.wu.wt.data,.slice A8 x7.wu.wy.length c9,jI x7.wP,jI x7.wO]) 2 Z yd xD Z Z) ⟨_,_,Z,Z,Z⟩ (by rfl) (.inl Z)))))
  ·replace c6:=xi c6
   refine TL.nil (X.seq (uK Z c6 (T.skip (X.seq (T.seq (T.region Z (TL.run ac [0,1] Z Z (TL.q Z .u (uB 0 Z yh Z Z) Z ?_))))))))
   obtain⟨x11,hx14,h⟩:=wX h
   refine u0 Z .u (.fn Tryz.call75 Z) (kq x2.blob.data _ hx14) (fun _ hs=>(uE _ _)) Z ?_
   rintro _ _ _ ⟨A12,c13,rfl,rfl,rfl⟩
   refine uM [0,0,0,0] Z (TL.alloc Z .u Tryz.zeroValue99 Z (fun b15=>(uO (cs':= #[jI x11.wu.wK,jI x11.wu.wD,.bool x11.wu.wC.null,jS x11.wu.wC.data,.bool x11.wu.wt.null,jS x11.wu.wt.data,.slice A12 x11.wu.wy.length c13,jI x11.wP,jI x11.wO]) Z .u Z Z xD Z Z Z Z (TL.nil (X.seq (T.seq (T.region Z (TL.run ac [0] Z Z (TL.q Z .u (uB 2 Z xc Z Z) Z (TL.run ac [2] Z Z (uO (cs':= #[jI x11.wu.wK,jI x11.wu.wD,.bool x11.wu.wC.null,jS x11.wu.wC.data,.bool x11.wu.wt.null,jS x11.wu.wt.data,.slice A12 x11.wu.wy.length c13,jI x2.many,jI x11.wO]) Z .u Z Z xg Z Z Z Z ?_)))))))))))
   refine TL.nil (X.seq (T.seq (T.region Z (TL.q Z .u (uN (us := [jI x11.wu.wK,jI x11.wu.wD,.bool x11.wu.wC.null,jS x11.wu.wC.data,.bool x11.wu.wt.null,jS x11.wu.wt.data,.slice A12 x11.wu.wy.length c13,jI x2.many,jI x11.wO]) 0 Z yd xD Z Z Z) Z (vg (cs':= #[jI x11.wu.wK,jI x11.wu.wD,.bool x11.wu.wC.null,jS x11.wu.wC.data,.bool x11.wu.wt.null,jS x11.wu.wt.data,.slice A12 x11.wu.wy.length c13,jI x2.many,jI x11.wO]) Z .u Z Z xD Z Z Z Z ?_)))))
   obtain rfl:=xa h
   exact TL.nil (X.seq (T.ret (uC [4,1] Tryz.results44 (uT (us:= #[jI x11.wu.wK,jI x11.wu.wD,.bool x11.wu.wC.null,jS x11.wu.wC.data,.bool x11.wu.wt.null,jS x11.wu.wt.data,.slice A12 x11.wu.wy.length c13,jI x2.many,jI x11.wO]) 3 Z yd xD Z Z) ⟨_,_,Z,Z,Z⟩ (by rfl) (.inl Z))))
 ·refine TL.nil (X.seq (uF Z (aA (wZ c5)) (T.seq (T.region Z (TL.run ac [0] Z Z (TL.q Z .u (uB 0 Z xc Z Z) Z ?_))))))
  obtain⟨x16,hx19,h⟩:=wX h
  refine u0 Z .u (.fn Tryz.call74 Z) (aV x2.err _ hx19) (fun _ hs=>(uE _ _)) Z ?_
  rintro _ _ _ ⟨A17,c18,rfl,rfl,rfl⟩
  refine uM [0,0,0,0] Z (vB (cs':= #[jI x16.wu.wK,jI x16.wu.wD,.bool x16.wu.wC.null,jS x16.wu.wC.data,.bool x16.wu.wt.null,jS x16.wu.wt.data,.slice A17 x16.wu.wy.length c18,jI x16.wP,jI x16.wO]) Z .u Z Z xD Z Z Z Z ?_)
  obtain rfl:=xa h
  exact TL.nil (X.seq (T.ret (uH (uC [3,0] Tryz.results44 (uT (us:= #[jI x16.wu.wK,jI x16.wu.wD,.bool x16.wu.wC.null,jS x16.wu.wC.data,.bool x16.wu.wt.null,jS x16.wu.wt.data,.slice A17 x16.wu.wy.length c18,jI x16.wP,jI x16.wO]) 2 Z yd xD Z Z) ⟨_,_,Z,Z,Z⟩ (by rfl) (.inl Z)))))
def fJ (a0:Rec) (a1:Rec):Option (Bool):=if a0.wK=a1.wK then (if a0.wD=a1.wD then (if a0.wC.null=a1.wC.null then (if a0.wC.data=a1.wC.data then (if a0.wt.null=a1.wt.null then (if a0.wt.data=a1.wt.data then ((fI a0.wy a1.wy).bind fun x13=>some x13) else some false) else some false) else some false) else some false) else some false) else some false
theorem ll (a0:Rec) (A1:Option Addr) (c2:Nat) (a1:Rec) (A3:Option Addr) (c4:Nat) (r:Bool) (h:fJ a0 a1=some r):au Tryz.prog 45 #[.agg #[jI a0.wK,jI a0.wD,.bool a0.wC.null,jS a0.wC.data,.bool a0.wt.null,jS a0.wt.data,.slice A1 a0.wy.length c2],.agg #[jI a1.wK,jI a1.wD,.bool a1.wC.null,jS a1.wC.data,.bool a1.wt.null,jS a1.wt.data,.slice A3 a1.wy.length c4]] (RX.and (RX.of (aq 3 aP) [.slice A1 a0.wy.length c2] a0.wy) (RX.of (aq 3 aP) [.slice A3 a1.wy.length c4] a1.wy)) (aw) (fun v A' N=>v= .bool r∧A'=aw∧N = []):=by
 refine aF Tryz.func45 Z Tryz.ntmps45 Z ?_
 intro F w hX
 unfold fJ at h
 refine T.seq (T.region Z (TL.box Z .u Z Z (fun b5=>(TL.box Z .u Z Z (fun b6=>(TL.run ac [2] Z Z (TL.nil (X.seq (T.seq (T.region Z (TL.run ac [0] Z Z (TL.q Z .u (uB 1 Z xc Z Z) Z (TL.run ac [2] Z Z ?_)))))))))))))
 refine TL.q Z .u (uB 0 Z xc Z Z) Z ?_
 rcases jF h with⟨c7,h⟩ | ⟨c7,h⟩
 ·refine TL.run ac [4,5] Z Z (TL.q Z (.g Z Z (wY c7)) (uI ac Z) Z (TL.q Z (.g Z Z (wY c7)) (uB 1 Z xc Z Z) Z (TL.q Z (.g Z Z (wY c7)) (uI ac Z) Z (TL.q Z (.g Z Z (wY c7)) (uB 0 Z xc Z Z) Z (TL.q Z (.g Z Z (wY c7)) (uI ac Z) Z (TL.q Z .u (uJ Z (wY c7) Z) Z ?_))))))
  rcases jF h with⟨c8,h⟩ | ⟨c8,h⟩
  ·refine TL.run ac [12] Z Z (TL.q Z (.g Z Z (wY c8)) (uI ac Z) Z (TL.q Z (.g Z Z (wY c8)) (uN (us := [.bool a0.wC.null,jS a0.wC.data]) 1 Z xT xp Z Z Z) Z (TL.q Z (.g Z Z (wY c8)) (uI ac Z) Z (TL.q Z (.g Z Z (wY c8)) (uN (us := [.bool a1.wC.null,jS a1.wC.data]) 0 Z xT xp Z Z Z) Z ?_))))
   rcases jF h with⟨c9,h⟩ | ⟨c9,h⟩
   ·rcases jF h with⟨c10,h⟩ | ⟨c10,h⟩
    ·refine TL.q Z (.g Z Z (wY c8)) (vX (us := [.bool a0.wC.null,jS a0.wC.data]) (vs := [.bool a1.wC.null,jS a1.wC.data]) bu Z yz Z Z Z Z (dI (mY c9) (dI (mZ (l:=a0.wC.data) (m:=a1.wC.data) c10) Z))) Z (TL.q Z .u (uJ Z (wY c8) Z) Z (TL.run ac [19] Z Z (TL.q Z (.g Z Z Z) (uI ac Z) Z (TL.q Z (.g Z Z Z) (uN (us := [.bool a0.wt.null,jS a0.wt.data]) 1 Z xT xp Z Z Z) Z (TL.q Z (.g Z Z Z) (uI ac Z) Z (TL.q Z (.g Z Z Z) (uN (us := [.bool a1.wt.null,jS a1.wt.data]) 0 Z xT xp Z Z Z) Z ?_))))))
     rcases jF h with⟨c11,h⟩ | ⟨c11,h⟩
     ·rcases jF h with⟨c12,h⟩ | ⟨c12,h⟩
      ·refine TL.q Z (.g Z Z Z) (vX (us := [.bool a0.wt.null,jS a0.wt.data]) (vs := [.bool a1.wt.null,jS a1.wt.data]) bu Z yz Z Z Z Z (dI (mY c11) (dI (mZ (l:=a0.wt.data) (m:=a1.wt.data) c12) Z))) Z (TL.q Z .u (uJ Z Z Z) Z (TL.run ac [26] Z Z (TL.q Z (.g Z Z Z) (uI ac Z) Z (TL.q Z (.g Z Z Z) (uB 1 Z yI Z Z) Z (TL.q Z (.g Z Z Z) (uI ac Z) Z (TL.q Z (.g Z Z Z) (uB 0 Z yI Z Z) Z ?_))))))
       obtain⟨x13,hx14,h⟩:=wX h
       refine uP Z (.g Z Z Z) (.fn Tryz.call76 Z) (lj a0.wy _ _ a1.wy _ _ _ hx14) (fun _ hs=>(v8 (vb hs (vY hX)) (vb hs (vS hX)))) Z (TL.q Z .u (uJ Z Z Z) Z (TL.run ac [33] Z Z ?_))
       obtain rfl:=xa h
       exact TL.nil (X.seq (T.ret (uC [2] yC (uD Z) ⟨Z,Z,Z⟩ (by rfl) (.inl Z))))
      ·refine TL.q Z (.g Z Z Z) (vX (us := [.bool a0.wt.null,jS a0.wt.data]) (vs := [.bool a1.wt.null,jS a1.wt.data]) bu Z yz Z Z Z Z (dI (mY c11) (gt (nJ (l:=a0.wt.data) (m:=a1.wt.data) c12)))) Z (TL.q Z .u (uJ Z Z Z) Z (TL.run ac [26] Z Z ?_))
       iterate 5 refine uG Z (.gn Z Z Z) Z ?_
       refine TL.q Z .u (uL Z Z Z) Z (TL.run ac [33] Z Z ?_)
       obtain rfl:=xa h
       exact TL.nil (X.seq (T.ret (uC [2] yC (uD Z) ⟨Z,Z,Z⟩ (by rfl) (.inl Z))))
     ·refine TL.q Z (.g Z Z Z) (vX (us := [.bool a0.wt.null,jS a0.wt.data]) (vs := [.bool a1.wt.null,jS a1.wt.data]) bu Z yz Z Z Z Z (gt (qd c11))) Z (TL.q Z .u (uJ Z Z Z) Z (TL.run ac [26] Z Z ?_))
      iterate 5 refine uG Z (.gn Z Z Z) Z ?_
      refine TL.q Z .u (uL Z Z Z) Z (TL.run ac [33] Z Z ?_)
      obtain rfl:=xa h
      exact TL.nil (X.seq (T.ret (uC [2] yC (uD Z) ⟨Z,Z,Z⟩ (by rfl) (.inl Z))))
    ·refine TL.q Z (.g Z Z (wY c8)) (vX (us := [.bool a0.wC.null,jS a0.wC.data]) (vs := [.bool a1.wC.null,jS a1.wC.data]) bu Z yz Z Z Z Z (dI (mY c9) (gt (nJ (l:=a0.wC.data) (m:=a1.wC.data) c10)))) Z (TL.q Z .u (uJ Z (wY c8) Z) Z (TL.run ac [19] Z Z ?_))
     iterate 5 refine uG Z (.gn Z Z Z) Z ?_
     refine TL.q Z .u (uL Z Z Z) Z (TL.run ac [26] Z Z ?_)
     iterate 5 refine uG Z (.gn Z Z Z) Z ?_
     refine TL.q Z .u (uL Z Z Z) Z (TL.run ac [33] Z Z ?_)
     obtain rfl:=xa h
     exact TL.nil (X.seq (T.ret (uC [2] yC (uD Z) ⟨Z,Z,Z⟩ (by rfl) (.inl Z))))
   ·refine TL.q Z (.g Z Z (wY c8)) (vX (us := [.bool a0.wC.null,jS a0.wC.data]) (vs := [.bool a1.wC.null,jS a1.wC.data]) bu Z yz Z Z Z Z (gt (qd c9))) Z (TL.q Z .u (uJ Z (wY c8) Z) Z (TL.run ac [19] Z Z ?_))
    iterate 5 refine uG Z (.gn Z Z Z) Z ?_
    refine TL.q Z .u (uL Z Z Z) Z (TL.run ac [26] Z Z ?_)
    iterate 5 refine uG Z (.gn Z Z Z) Z ?_
    refine TL.q Z .u (uL Z Z Z) Z (TL.run ac [33] Z Z ?_)
    obtain rfl:=xa h
    exact TL.nil (X.seq (T.ret (uC [2] yC (uD Z) ⟨Z,Z,Z⟩ (by rfl) (.inl Z))))
  ·refine TL.run ac [12] Z Z ?_
   iterate 5 refine uG Z (.gn Z Z (wZ c8)) Z ?_
   refine TL.q Z .u (uL Z (wZ c8) Z) Z (TL.run ac [19] Z Z ?_)
   iterate 5 refine uG Z (.gn Z Z Z) Z ?_
   refine TL.q Z .u (uL Z Z Z) Z (TL.run ac [26] Z Z ?_)
   iterate 5 refine uG Z (.gn Z Z Z) Z ?_
   refine TL.q Z .u (uL Z Z Z) Z (TL.run ac [33] Z Z ?_)
   obtain rfl:=xa h
   exact TL.nil (X.seq (T.ret (uC [2] yC (uD Z) ⟨Z,Z,Z⟩ (by rfl) (.inl Z))))
 ·refine TL.run ac [4,5] Z Z ?_
  iterate 5 refine uG Z (.gn Z Z (wZ c7)) Z ?_
  refine TL.q Z .u (uL Z (wZ c7) Z) Z (TL.run ac [12] Z Z ?_)
  iterate 5 refine uG Z (.gn Z Z Z) Z ?_
  refine TL.q Z .u (uL Z Z Z) Z (TL.run ac [19] Z Z ?_)
  iterate 5 refine uG Z (.gn Z Z Z) Z ?_
  refine TL.q Z .u (uL Z Z Z) Z (TL.run ac [26] Z Z ?_)
  iterate 5 refine uG Z (.gn Z Z Z) Z ?_
  refine TL.q Z .u (uL Z Z Z) Z (TL.run ac [33] Z Z ?_)
  obtain rfl:=xa h
  exact TL.nil (X.seq (T.ret (uC [2] yC (uD Z) ⟨Z,Z,Z⟩ (by rfl) (.inl Z))))
theorem dE {α:Type} {l:List α} {k:Nat} {x:α} {t:List α} (h:l.drop k=x::t):l[k]? = some x∧l.drop (k+1)=t∧l.length=k+1+t.length:=by
 have hl:=congrArg List.length h
 rw[xe,xw] at hl
 refine⟨?_,?_,by omega⟩
 ·have:=congrArg (fun z=>z[0]?) h
  simpa using this
 ·rw[← xM,h]
  rfl
theorem en {α:Type} {l:List α} {k:Nat} (h:l.drop k = []):l.length≤k:=List.drop_eq_nil_iff.1 h
def ip (l:List Hd):Bool:=l.all fun h=>bb h.wt
def fK (r:Rec):Int:=if r.wD<0∨r.wD>2147483647 then 11 else if (bb r.wC && bb r.wt && ip r.wy)=true then 0 else 4
theorem kS (y:Bool): ∀ l:List Bl,bC l y=some (if l.all bb=true then .go y else .ret false)
 | []=>rfl
 | b::l=>by
  rw[bC,rL,xb,List.all_cons,kS y l]
  cases bb b <;> rfl
theorem m1 (l:List Bl):cL l=some (l.all bb):=by
 unfold cL
 rw[kS]
 cases l.all bb <;> rfl
theorem kT (y:Int): ∀ l:List Hd,bL l y=some (if ip l=true then .go y else .ret 4)
 | []=>rfl
 | h::l=>by
  rw[bL,m1,xb,kT y l]
  unfold ip
  rw[List.all_cons,List.all_cons,List.all_nil,Bool.and_true]
  cases bb h.wt <;> rfl
theorem jN (r:Rec) (hw:wI r.wD):cG r=some (fK r):=by
 unfold cG fK
 by_cases h:r.wD<0
 ·rw[if_pos h,if_pos (.inl h)]
 rw[if_neg h,ic _ _ hw,fA,xb]
 by_cases h2:r.wD>2147483647
 ·rw[if_neg (by simp; omega),if_pos (.inr h2)]
 rw[if_pos (by simp; omega),if_neg (by omega),m1,xb,kT]
 simp only[List.all_cons,List.all_nil,Bool.and_true]
 cases bb r.wC <;> cases bb r.wt <;> cases ip r.wy <;> rfl
theorem sG (b:Bl):fw b=some (!bb b):=by
 unfold fw bb
 obtain⟨n,d⟩:=b
 cases n
 ·rfl
 ·cases d <;> simp
theorem o7 (a0:List Hd) (hb:a0.length≤1000000) (y:Bool): ∀ (l:List Hd) (k fuel:Nat),a0.drop k=l→l.length<fuel→ ∃ z,bM a0 fuel y k=some (if ip l=true then .go (y,z) else .ret false)
 | [],k,fuel+1,h,hf=>by
  have:=en h
  exact⟨k,by rw[bM,if_neg (by omega)]; rfl⟩
 | x::l,k,fuel+1,h,hf=>by
  obtain⟨h1,h2,h3⟩:=dE h
  rw[xw] at hf
  obtain⟨z,hz⟩:=o7 a0 hb y l (k+1) fuel h2 (by omega)
  rw[bM,if_pos (by omega),h1,xb]
  have e:ip (x::l)=(bb x.wt && ip l):=rfl
  rw[e]
  by_cases hn:x.wt.null=true
  ·rw[if_pos hn]
   by_cases hd:x.wt.data = []
   ·rw[if_pos hd,if_pos (by omega),hz]
    have:bb x.wt=true:=by unfold bb; rw[hd]; simp
    rw[this,Bool.true_and]
    exact⟨z,rfl⟩
   ·rw[if_neg hd]
    have:bb x.wt=false:=by unfold bb; rw[hn]; simp[hd]
    rw[this]
    exact⟨0,rfl⟩
  ·rw[if_neg hn,if_pos (by omega),hz]
   have:bb x.wt=true:=by unfold bb; simp[hn]
   rw[this,Bool.true_and]
   exact⟨z,rfl⟩
theorem rQ (a0:List Hd) (hb:a0.length≤1000000):eY a0=some (ip a0):=by
 unfold eY
 obtain⟨z,hz⟩:=o7 a0 hb false a0 0 (((a0.length:Int)).toNat+1) rfl (by omega)
 rw[hz]
 cases ip a0 <;> rfl
theorem rR (r:Rec) (hb:r.wy.length≤1000000):ew r=some (fK r):=by
 unfold ew fK
 by_cases h:r.wD<0
 ·rw[if_pos h,if_pos (.inl h)]
 rw[if_neg h]
 by_cases h2:r.wD>2147483647
 ·rw[if_pos h2,if_pos (.inr h2)]
 rw[if_neg h2,if_neg (by omega),sG,sG,rQ _ hb]
 cases bb r.wC <;> cases bb r.wt <;> cases ip r.wy <;> rfl
def bH (n:Int) (i:Nat):Bool:=decide (n / 2 ^ i % 2=1)
theorem nL (n:Int) (m:Nat) (hm:m<9223372036854775808):bits .and .i64 n m=(((n % 18446744073709551616).toNat &&& m:Nat):Int):=by
 have e1:(BitVec.ofInt 64 n).toNat=(n % 18446744073709551616).toNat:=by simp[BitVec.toNat_ofInt]
 have e2:(BitVec.ofInt 64 (m:Int)).toNat=m:=by
  rw[BitVec.ofInt_natCast,BitVec.toNat_ofNat,Nat.mod_eq_of_lt (by omega)]
 show IntKind.i64.wrap (((BitVec.ofInt 64 n) &&& (BitVec.ofInt 64 (m:Int))).toNat:Int)= _
 rw[BitVec.toNat_and,e1,e2]
 have h:(n % 18446744073709551616).toNat &&& m≤m:=Nat.and_le_right
 rw[IntKind.wrap_i64]
 omega
theorem t6 (n:Int) (i:Nat) (hi:i<64):(n % 18446744073709551616).toNat.testBit i=bH n i:=by
 have hs:(18446744073709551616:Int)=2 ^ i*2 ^ (64 - i):=by
  rw[← Int.pow_add,show i+(64 - i)=64 by omega]
  rfl
 have h2:(2:Int) ^ (64 - i)=2*2 ^ (63 - i):=by
  rw[show 64 - i=1+(63 - i) by omega,Int.pow_add]
  rfl
 rw[Nat.testBit_eq_decide_div_mod_eq,bH]
 have hp:(0:Int)<2 ^ i:=Int.pow_pos (by decide)
 have h4:n % 18446744073709551616 / 2 ^ i=n / 2 ^ i % 2 ^ (64 - i):=by
  have e:n % 18446744073709551616=n - 2 ^ i*(2 ^ (64 - i)*(n / 18446744073709551616)):=by
   have:=Int.emod_def n 18446744073709551616
   rw[this,hs,Int.mul_assoc]
  rw[e,Int.sub_mul_ediv_left _ _ (by omega),Int.emod_def,Int.ediv_ediv_of_nonneg (Int.le_of_lt hp),← hs]
 have h5:n / 2 ^ i % 2 ^ (64 - i) % 2=n / 2 ^ i % 2:=by
  rw[h2]
  exact Int.emod_emod_of_dvd _ ⟨_,rfl⟩
 have h6:(((n % 18446744073709551616).toNat / 2 ^ i % 2:Nat):Int)=n / 2 ^ i % 2:=by
  have e:((n % 18446744073709551616).toNat:Int)=n % 18446744073709551616:=by omega
  rw[Int.natCast_emod,Int.natCast_ediv,e,Int.natCast_pow]
  show n % 18446744073709551616 / 2 ^ i % 2= _
  rw[h4,h5]
 congr 1
 apply propext
 omega
theorem nM (n:Int) (i:Nat) (hi:i<63):(bits .and .i64 n ((2 ^ i:Nat):Int) != 0)=bH n i:=by
 have hm:2 ^ i<9223372036854775808:=Nat.lt_of_lt_of_eq (Nat.pow_lt_pow_right (by decide) hi) (show 2 ^ 63=9223372036854775808 by decide)
 rw[nL n _ hm,← t6 n i (by omega)]
 generalize (n % 18446744073709551616).toNat=a
 cases h:a.testBit i with
 | true =>
  have:(a &&& 2 ^ i)≠0:=by
   intro h0
   have:=congrArg (fun x=>Nat.testBit x i) h0
   simp[h,Nat.testBit_two_pow_self] at this
  simp; omega
 | false =>
  have:(a &&& 2 ^ i)=0:=by
   apply Nat.eq_of_testBit_eq
   intro j
   rw[Nat.testBit_and,Nat.testBit_two_pow]
   by_cases hj:i=j
   ·subst hj; simp[h]
   ·simp[hj]
  simp[this]
theorem rS (n:Int):(bits .and .i64 n 7 != 0)=decide (n % 8≠0):=by
 have h:=nL n 7 (by decide)
 rw[show ((7:Nat):Int)=7 from rfl] at h
 rw[h,Nat.and_two_pow_sub_one_eq_mod _ 3]
 rw[Bool.eq_iff_iff]
 simp
 omega
theorem rT (n:Int) (h8:n % 8=0) (h0: -9223372036854775808≤n) (h1:n≤9223372036854775807):(bits .andNot .i64 n 56 != 0)=decide (n<0∨63<n):=by
 have e1:(BitVec.ofInt 64 n).toNat=(n % 18446744073709551616).toNat:=by simp[BitVec.toNat_ofInt]
 have e2:(~~~ BitVec.ofInt 64 (56:Int)).toNat=18446744073709551559:=by decide
 have e3:bits .andNot .i64 n 56=IntKind.i64.wrap (((BitVec.ofInt 64 n) &&& ~~~ (BitVec.ofInt 64 (56:Int))).toNat:Int):=rfl
 rw[e3,BitVec.toNat_and,e1,e2]
 have ha:(n % 18446744073709551616).toNat % 8=0:=by omega
 have hb:(n % 18446744073709551616).toNat<64 ↔ ¬ (n<0∨63<n):=by omega
 have hc:(n % 18446744073709551616).toNat<18446744073709551616:=by omega
 generalize (n % 18446744073709551616).toNat=a at *
 have hw: ∀ x:Nat,x<18446744073709551616→((IntKind.i64.wrap (x:Int) != 0)=decide (x≠0)):=by
  intro x hx
  rw[IntKind.wrap_i64,Bool.eq_iff_iff]
  simp
  omega
 rw[hw _ (Nat.lt_of_le_of_lt Nat.and_le_left hc)]
 by_cases h:a<64
 ·have:a=0∨a=8∨a=16∨a=24∨a=32∨a=40∨a=48∨a=56:=by omega
  have hz:a &&& 18446744073709551559=0:=by rcases this with rfl | rfl | rfl | rfl | rfl | rfl | rfl | rfl <;> decide
  simp[hz,hb.1 h]
 ·have hz:a &&& 18446744073709551559≠0:=by
   intro h0
   have h2:=congrArg (fun x=>x >>> 6) h0
   simp only[Nat.shiftRight_and_distrib] at h2
   rw[show 18446744073709551559 >>> 6=2 ^ 58 - 1 from rfl,Nat.and_two_pow_sub_one_eq_mod,Nat.shiftRight_eq_div_pow] at h2
   simp at h2
   omega
  have:n<0∨63<n:=by
   rcases Classical.em (n<0∨63<n) with h2 | h2
   ·exact h2
   ·exact absurd (hb.2 h2) h
  simp[hz,this]
theorem and_8 (n:Int):(bits .and .i64 n 8 != 0)=bH n 3:=nM n 3 (by decide)
theorem sH (n:Int):(bits .and .i64 n 16 != 0)=bH n 4:=nM n 4 (by decide)
theorem sI (n:Int):(bits .and .i64 n 32 != 0)=bH n 5:=nM n 5 (by decide)
theorem sJ {a b:Int} {c:Bool} (h:(a != b)=c):(a == b)= !c:=by rw[← h,bne,Bool.not_not]
theorem rU (n:Int) (w:World) :
 Calls Tryz.prog 79 #[.int .i64 n] w fun e w'=>e= .returned (.tuple #[.bool (bH n 3),.bool (bH n 4),.bool (bH n 5)])∧w=w':=by
 have H1:=Lib.hid (and_8 n)
 have H2:=Lib.hid (sH n)
 have H3:=Lib.hid (sI n)
 go_enter Tryz.func79,Tryz.ntmps79
 go_wp2
 go_ret3
 exact⟨congrArg Ending.returned (show (Value.tuple #[.bool (bits .and .i64 n 8 != 0),.bool (bits .and .i64 n 16 != 0),.bool (bits .and .i64 n 32 != 0)])= _ by rw[H1.out,H2.out,H3.out]),rfl⟩
def bk (n:Int):Int:=if n % 8≠0 then 9 else if n<0∨63<n∨(bH n 5=true∧bH n 4=false) then 8 else 0
theorem qf (n:Int) (h0: -9223372036854775808≤n) (h1:n≤9223372036854775807) (w:World) :
 Calls Tryz.prog 78 #[.int .i64 n] w fun e w'=>e= .returned (.int .i64 (bk n))∧w=w':=by
 have h7:=rS n
 by_cases h8:n % 8=0
 ·have ha:=rT n h8 h0 h1
  have h32:=sI n
  have h16:=sJ (sH n)
  have H8:=Lib.hid h8
  simp only[h8] at h7
  by_cases hr:n<0∨63<n
  ·have HA:=Lib.hid (show bk n=8 by simp only[bk,h8]; rcases hr with h | h <;> simp[h])
   simp only[hr] at ha
   clear hr h8 h32 h16
   go_enter Tryz.func78,za
   go_wp2
   go_ret
   exact⟨eA (by rw[HA.out]),rfl⟩
  ·simp only[hr] at ha
   have HR:=Lib.hid hr
   clear hr h8
   cases b5:bH n 5 with
   | true =>
    cases b4:bH n 4 with
    | true =>
     have HA:=Lib.hid (show bk n=0 by have:=HR.out; simp[bk,H8.out,b5,b4]; omega)
     rw[b5] at h32
     rw[b4] at h16
     clear b5 b4
     go_enter Tryz.func78,za
     go_wp2
     go_ret
     exact⟨eA (by rw[HA.out]),rfl⟩
    | false =>
     have HA:=Lib.hid (show bk n=8 by simp[bk,H8.out,b5,b4])
     rw[b5] at h32
     rw[b4] at h16
     clear b5 b4
     go_enter Tryz.func78,za
     go_wp2
     go_ret
     exact⟨eA (by rw[HA.out]),rfl⟩
   | false =>
    have HA:=Lib.hid (show bk n=0 by have:=HR.out; simp[bk,H8.out,b5]; omega)
    rw[b5] at h32
    clear b5 h16
    go_enter Tryz.func78,za
    go_wp2
    go_ret
    exact⟨eA (by rw[HA.out]),rfl⟩
 ·have HA:=Lib.hid (show bk n=9 by simp[bk,h8])
  simp only[ne_eq,h8] at h7
  clear h8
  go_enter Tryz.func78,za
  go_wp2
  go_ret
  exact⟨eA (by rw[HA.out]),rfl⟩
def gi (a t c:Bool):Int:=(if a then 8 else 0)+(if t then 16 else 0)+(if c then 32 else 0)
theorem o8 {w W:World} (h:Below w.heap.size w W) (o:Obj):Below w.heap.size w (W.alloc o):=h.alloc h.size o
theorem Of_any (i0 i1 i5 i6 i7 i8 i9 i10:Int) (a t c:Bool) (A:Option Addr) (n k:Nat) (w:World) :
 Calls Tryz.prog 36 #[.agg #[.int .i64 i0,.int .i64 i1,.bool a,.bool t,.bool c,.int .i64 i5,.int .i64 i6,.int .i64 i7,.int .i64 i8,.int .i64 i9,.int .i64 i10,.slice A n k]] w fun e w' =>
  e= .returned (.int .i64 (gi a t c))∧Below w.heap.size w w':=by
 have ix: ∀ (x0 x1 x2 x3 x4 x5: Value),(∀ w:World,(Instr.index 123 (.agg #[x0,x1,x2,x3,x4,x5]) (.int .i64 0)).run Tryz.prog w= .ok (.agg #[x0,x1]) w)∧(∀ w:World,(Instr.index 123 (.agg #[x0,x1,x2,x3,x4,x5]) (.int .i64 1)).run Tryz.prog w= .ok (.agg #[x2,x3]) w)∧(∀ w:World,(Instr.index 123 (.agg #[x0,x1,x2,x3,x4,x5]) (.int .i64 2)).run Tryz.prog w= .ok (.agg #[x4,x5]) w):=fun _ _ _ _ _ _=>⟨fun _=>by kernel_rfl,fun _=>by kernel_rfl,fun _=>by kernel_rfl⟩
 cases a <;> cases t <;> cases c <;>
 ·go_enter Tryz.func36,Tryz.ntmps36
  go_wp2_with fail
  refine wp_loop_rounds 4 ?_
  rw[rounds_succ]
  go_wp2_with fail
  rw[rounds_succ]
  go_wp2_with fail
  rw[rounds_succ]
  go_wp2_with fail
  rw[rounds_succ]
  go_wp2_with fail
  go_ret
  exact⟨rfl,by repeat (first | exact Below.refl _ _ | refine o8 ?_ _)⟩
theorem t7 (i0 i1 i5 i6 i7 i8 i9 i10:Int) (a t c:Bool) (A:Option Addr) (n k:Nat) :
 gm Tryz.prog 36 #[.agg #[.int .i64 i0,.int .i64 i1,.bool a,.bool t,.bool c,.int .i64 i5,.int .i64 i6,.int .i64 i7,.int .i64 i8,.int .i64 i9,.int .i64 i10,.slice A n k]] (fun v N=>v= .int .i64 (gi a t c)∧N = []):=by
 intro w
 refine (Of_any i0 i1 i5 i6 i7 i8 i9 i10 a t c A n k w).mono ?_
 rintro e w' ⟨rfl,hb⟩
 exact⟨_,_,rfl,⟨rfl,rfl⟩,wl hb,trivial⟩
def qg (n:Int):Option (Bool×Bool×Bool):=some (bH n 3,bH n 4,bH n 5)
theorem rV (n:Int):qg n=some (bH n 3,bH n 4,bH n 5):=rfl
theorem o9 (n:Int) (r:Bool×Bool×Bool) (h:qg n=some r) (w:World):Calls Tryz.prog 79 #[.int .i64 n] w fun e w'=>e= .returned (.tuple #[.bool r.1,.bool r.2.1,.bool r.2.2])∧w=w':=by
 obtain rfl:=xa h
 exact rU n w
def nN (n:Int):Option Int:=if -9223372036854775808≤n∧n≤9223372036854775807 then some (bk n) else none
theorem qh (n:Int) (h: -9223372036854775808≤n∧n≤9223372036854775807):nN n=some (bk n):=if_pos h
theorem nO (n:Int) (r:Int) (h:nN n=some r) (w:World):Calls Tryz.prog 78 #[.int .i64 n] w fun e w'=>e= .returned (.int .i64 r)∧w=w':=by
 obtain⟨h1,h⟩:=ak h
 obtain rfl:=xa h
 exact qf n h1.1 h1.2 w
def gAOf (b:Bat):Option Int:=some (gi b.wH b.wN b.wF)
theorem m4 (b:Bat) (A:Option Addr) (c:Nat) (r:Int) (h:gAOf b=some r):au Tryz.prog 36 #[.agg #[.int .i64 b.wG,.int .i64 b.wz,.bool b.wH,.bool b.wN,.bool b.wF,.int .i64 b.wE,.int .i64 b.wx,.int .i64 b.wJ,.int .i64 b.ww,.int .i64 b.wA,.int .i64 b.wv,.slice A b.ws.length c]]
 (RX.of (aq 7 bf) [.slice A b.ws.length c] b.ws) aw (fun u A' N=>u= .int .i64 r∧A'=aw∧N = []):=by
 obtain rfl:=xa h
 exact vK (t7 _ _ _ _ _ _ _ _ _ _ _ _ _ _)
def qi:dU := [(66,0,0),(66,1,1),(69,1,1),(69,2,2),(69,3,4),(69,4,6)]
theorem am:(qi).OK Tryz.prog:=⟨FOK.mk yi rfl yc rfl,FOK.mk yi rfl yb rfl,FOK.mk xz rfl xg rfl,FOK.mk xz rfl xp rfl,FOK.mk xz rfl xp rfl,FOK.mk xz rfl yw rfl,trivial⟩
def bn (st:I)  : Option (I):=(eJ st 2).bind fun (x1,st2)=>if x1=0 then some st2 else ((bi st2 7).bind fun st5=>some st5)
theorem eE (g:Nat) (st:I)  (r:I) (h:bn st  = some r):au Tryz.prog 107 #[jP g] .triv (InR g st) (fun v A' N=>v= .tuple #[]∧A'=InR g r∧N = []):=by
 refine aF Tryz.func107 Z Tryz.ntmps107 Z ?_
 intro F w hX
 unfold bn at h
 refine T.seq (T.region Z ?_)
 obtain⟨⟨x1,st2⟩,hx3,h⟩:=wX h
 try dsimp only at h
 refine TL.run am [0] Z Z (vf Z .u (.fn Tryz.call77 Z) (bF g st 2 _ hx3) (fun _ hs=>(Src.triv _)) Z (TL.run am [2] Z Z ?_))
 rcases jF h with⟨c4,h⟩ | ⟨c4,h⟩
 ·refine TL.nil (X.seq (uK Z (av (wY c4)) ?_))
  obtain rfl:=xa h
  exact T.skip (v9 [0] Tryz.results107 ⟨Z,Z,Z⟩ (by rfl) (.inr Z))
 ·refine TL.nil (X.seq (uF Z (aA (wZ c4)) (T.region Z ?_)))
  obtain⟨st5,hx6,h⟩:=wX h
  refine TL.run am [0] Z Z (vf Z .u (.fn Tryz.call48 Z) (aX g st2 7 _ hx6) (fun _ hs=>(Src.triv _)) Z ?_)
  obtain rfl:=xa h
  exact TL.nil (v9 [0] Tryz.results107 ⟨Z,Z,Z⟩ (by rfl) (.inr Z))
def bN (a0:List UInt8):Option (Int×Int):=(nE a0).bind fun st1=>(bn st1).bind fun st4=>(eJ st4 2).bind fun (x6,st7)=>if x6=0 then ((cF st7).bind fun (x10,st11)=>if x10=0 then some (x6,0) else some (0,x10)) else (if x6=1 then ((cF st7).bind fun (x15,st16)=>if x15=0 then some (x6,0) else some (0,x15)) else ((bi st7 12).bind fun st19=>(cF st19).bind fun (x21,st22)=>if x21=0 then some (x6,0) else some (0,x21)))
theorem gQ (a0:List UInt8) (r:Int×Int) (h:bN a0=some r):au Tryz.prog 87 #[jS a0] .triv (aw) (fun v A' N=>v= .tuple #[jI r.1,jI r.2]∧A'=aw∧N = []):=by
 refine aF Tryz.func87 Z Tryz.ntmps87 Z ?_
 intro F w hX
 unfold bN at h
 refine T.seq (T.region Z (TL.run am [0,1] Z Z (TL.nil (X.seq (T.seq (T.region Z ?_))))))
 obtain⟨st1,hx2,h⟩:=wX h
 refine TL.run am [0] Z Z (u0 Z .u (.fn Tryz.call21 Z) (fv a0 _ hx2) (fun _ hs=>(uE _ _)) Z ?_)
 rintro _ _ _ ⟨b3,rfl,rfl,rfl⟩
 refine uM [0,0] Z (TL.run am [2] Z Z (TL.nil (X.seq (T.seq (T.region Z ?_)))))
 obtain⟨st4,hx5,h⟩:=wX h
 refine TL.run am [0] Z Z (vf Z .u (.fn Tryz.call107 Z) (eE b3 st1 _ hx5) (fun _ hs=>(Src.triv _)) Z (TL.nil (X.seq (T.seq (T.region Z ?_)))))
 obtain⟨⟨x6,st7⟩,hx8,h⟩:=wX h
 try dsimp only at h
 refine TL.run am [0] Z Z (vf Z .u (.fn Tryz.call77 Z) (bF b3 st4 2 _ hx8) (fun _ hs=>(Src.triv _)) Z (TL.run am [2] Z Z (TL.nil (X.seq (T.seq (T.seq (T.region Z ?_)))))))
 rcases jF h with⟨c9,h⟩ | ⟨c9,h⟩
 ·refine TL.run am [0,1,2] Z Z ?_
  iterate 2 refine uG Z (.gn Z Z (av (wY c9))) Z ?_
  refine TL.q Z .u (uL Z (av (wY c9)) Z) Z (TL.nil (X.seq (uK Z Z (T.skip (X.seq (T.seq (T.seq (T.region Z ?_))))))))
  obtain⟨⟨x10,st11⟩,hx12,h⟩:=wX h
  try dsimp only at h
  refine TL.run am [0] Z Z (vf Z .u (.fn Tryz.call104 Z) (cO b3 st7 _ hx12) (fun _ hs=>(Src.triv _)) Z (TL.run am [2] Z Z (TL.nil (X.seq (T.seq (T.region Z (TL.run am [0,1] Z Z ?_)))))))
  rcases jF h with⟨c13,h⟩ | ⟨c13,h⟩
  ·refine TL.nil (X.seq (uK Z (av (wY c13)) (T.skip (X.seq (T.seq (T.region Z (TL.run am [0,1,2] Z Z ?_)))))))
   obtain rfl:=xa h
   exact TL.nil (X.seq (T.ret (uX [1] yK (uD Z) (uD Z) ⟨Z,Z,Z⟩ (by rfl) (.inl Z))))
  ·refine TL.nil (X.seq (uF Z (aA (wZ c13)) (T.seq (T.region Z (TL.run am [0,1,2] Z Z ?_)))))
   obtain rfl:=xa h
   exact TL.nil (X.seq (T.ret (uH (uX [1] yK (uD Z) (uD Z) ⟨Z,Z,Z⟩ (by rfl) (.inl Z)))))
 ·refine TL.run am [0,1,2] Z Z ?_
  iterate 2 refine TL.q Z (.g Z Z (aA (wZ c9))) (uI am Z) Z ?_
  refine TL.q Z .u (uJ Z (aA (wZ c9)) Z) Z ?_
  rcases jF h with⟨c14,h⟩ | ⟨c14,h⟩
  ·refine TL.nil (X.seq (uK Z (av (wY c14)) (T.skip (X.seq (T.seq (T.seq (T.region Z ?_)))))))
   obtain⟨⟨x15,st16⟩,hx17,h⟩:=wX h
   try dsimp only at h
   refine TL.run am [0] Z Z (vf Z .u (.fn Tryz.call104 Z) (cO b3 st7 _ hx17) (fun _ hs=>(Src.triv _)) Z (TL.run am [2] Z Z (TL.nil (X.seq (T.seq (T.region Z (TL.run am [0,1] Z Z ?_)))))))
   rcases jF h with⟨c18,h⟩ | ⟨c18,h⟩
   ·refine TL.nil (X.seq (uK Z (av (wY c18)) (T.skip (X.seq (T.seq (T.region Z (TL.run am [0,1,2] Z Z ?_)))))))
    obtain rfl:=xa h
    exact TL.nil (X.seq (T.ret (uX [1] yK (uD Z) (uD Z) ⟨Z,Z,Z⟩ (by rfl) (.inl Z))))
   ·refine TL.nil (X.seq (uF Z (aA (wZ c18)) (T.seq (T.region Z (TL.run am [0,1,2] Z Z ?_)))))
    obtain rfl:=xa h
    exact TL.nil (X.seq (T.ret (uH (uX [1] yK (uD Z) (uD Z) ⟨Z,Z,Z⟩ (by rfl) (.inl Z)))))
  ·refine TL.nil (X.seq (uF Z (aA (wZ c14)) (T.region Z ?_)))
   obtain⟨st19,hx20,h⟩:=wX h
   refine TL.run am [0] Z Z (vf Z .u (.fn Tryz.call48 Z) (aX b3 st7 12 _ hx20) (fun _ hs=>(Src.triv _)) Z (TL.nil (X.seq (T.seq (T.seq (T.region Z ?_))))))
   obtain⟨⟨x21,st22⟩,hx23,h⟩:=wX h
   try dsimp only at h
   refine TL.run am [0] Z Z (vf Z .u (.fn Tryz.call104 Z) (cO b3 st19 _ hx23) (fun _ hs=>(Src.triv _)) Z (TL.run am [2] Z Z (TL.nil (X.seq (T.seq (T.region Z (TL.run am [0,1] Z Z ?_)))))))
   rcases jF h with⟨c24,h⟩ | ⟨c24,h⟩
   ·refine TL.nil (X.seq (uK Z (av (wY c24)) (T.skip (X.seq (T.seq (T.region Z (TL.run am [0,1,2] Z Z ?_)))))))
    obtain rfl:=xa h
    exact TL.nil (X.seq (T.ret (uX [1] yK (uD Z) (uD Z) ⟨Z,Z,Z⟩ (by rfl) (.inl Z))))
   ·refine TL.nil (X.seq (uF Z (aA (wZ c24)) (T.seq (T.region Z (TL.run am [0,1,2] Z Z ?_)))))
    obtain rfl:=xa h
    exact TL.nil (X.seq (T.ret (uH (uX [1] yK (uD Z) (uD Z) ⟨Z,Z,Z⟩ (by rfl) (.inl Z)))))
def bl (a0:List UInt8):Option (Int×Int):=(nE a0).bind fun st1=>(bn st1).bind fun st4=>(eJ st4 4).bind fun (x6,st7)=>if x6<0 then ((bi st7 11).bind fun st10=>(cF st10).bind fun (x12,st13)=>if x12=0 then some (x6,0) else some (0,x12)) else ((cF st7).bind fun (x16,st17)=>if x16=0 then some (x6,0) else some (0,x16))
theorem gk (a0:List UInt8) (r:Int×Int) (h:bl a0=some r):au Tryz.prog 88 #[jS a0] .triv (aw) (fun v A' N=>v= .tuple #[jI r.1,jI r.2]∧A'=aw∧N = []):=by
 refine aF Tryz.func88 Z Tryz.ntmps88 Z ?_
 intro F w hX
 unfold bl at h
 refine T.seq (T.region Z (TL.run am [0,1] Z Z (TL.nil (X.seq (T.seq (T.region Z ?_))))))
 obtain⟨st1,hx2,h⟩:=wX h
 refine TL.run am [0] Z Z (u0 Z .u (.fn Tryz.call21 Z) (fv a0 _ hx2) (fun _ hs=>(uE _ _)) Z ?_)
 rintro _ _ _ ⟨b3,rfl,rfl,rfl⟩
 refine uM [0,0] Z (TL.run am [2] Z Z (TL.nil (X.seq (T.seq (T.region Z ?_)))))
 obtain⟨st4,hx5,h⟩:=wX h
 refine TL.run am [0] Z Z (vf Z .u (.fn Tryz.call107 Z) (eE b3 st1 _ hx5) (fun _ hs=>(Src.triv _)) Z (TL.nil (X.seq (T.seq (T.region Z ?_)))))
 obtain⟨⟨x6,st7⟩,hx8,h⟩:=wX h
 try dsimp only at h
 refine TL.run am [0] Z Z (vf Z .u (.fn Tryz.call77 Z) (bF b3 st4 4 _ hx8) (fun _ hs=>(Src.triv _)) Z (TL.run am [2] Z Z (TL.nil (X.seq (T.seq (T.seq (T.region Z (TL.run am [0,1] Z Z ?_))))))))
 rcases jF h with⟨c9,h⟩ | ⟨c9,h⟩
 ·refine TL.nil (X.seq (uF Z (wY c9) (T.region Z ?_)))
  obtain⟨st10,hx11,h⟩:=wX h
  refine TL.run am [0] Z Z (vf Z .u (.fn Tryz.call48 Z) (aX b3 st7 11 _ hx11) (fun _ hs=>(Src.triv _)) Z (TL.nil (X.seq (T.seq (T.seq (T.region Z ?_))))))
  obtain⟨⟨x12,st13⟩,hx14,h⟩:=wX h
  try dsimp only at h
  refine TL.run am [0] Z Z (vf Z .u (.fn Tryz.call104 Z) (cO b3 st10 _ hx14) (fun _ hs=>(Src.triv _)) Z (TL.run am [2] Z Z (TL.nil (X.seq (T.seq (T.region Z (TL.run am [0,1] Z Z ?_)))))))
  rcases jF h with⟨c15,h⟩ | ⟨c15,h⟩
  ·refine TL.nil (X.seq (uK Z (av (wY c15)) (T.skip (X.seq (T.seq (T.region Z (TL.run am [0,1,2] Z Z ?_)))))))
   obtain rfl:=xa h
   exact TL.nil (X.seq (T.ret (uX [1] zc (uD Z) (uD Z) ⟨Z,Z,Z⟩ (by rfl) (.inl Z))))
  ·refine TL.nil (X.seq (uF Z (aA (wZ c15)) (T.seq (T.region Z (TL.run am [0,1,2] Z Z ?_)))))
   obtain rfl:=xa h
   exact TL.nil (X.seq (T.ret (uH (uX [1] zc (uD Z) (uD Z) ⟨Z,Z,Z⟩ (by rfl) (.inl Z)))))
 ·refine TL.nil (X.seq (uK Z (wZ c9) (T.skip (X.seq (T.seq (T.seq (T.region Z ?_)))))))
  obtain⟨⟨x16,st17⟩,hx18,h⟩:=wX h
  try dsimp only at h
  refine TL.run am [0] Z Z (vf Z .u (.fn Tryz.call104 Z) (cO b3 st7 _ hx18) (fun _ hs=>(Src.triv _)) Z (TL.run am [2] Z Z (TL.nil (X.seq (T.seq (T.region Z (TL.run am [0,1] Z Z ?_)))))))
  rcases jF h with⟨c19,h⟩ | ⟨c19,h⟩
  ·refine TL.nil (X.seq (uK Z (av (wY c19)) (T.skip (X.seq (T.seq (T.region Z (TL.run am [0,1,2] Z Z ?_)))))))
   obtain rfl:=xa h
   exact TL.nil (X.seq (T.ret (uX [1] zc (uD Z) (uD Z) ⟨Z,Z,Z⟩ (by rfl) (.inl Z))))
  ·refine TL.nil (X.seq (uF Z (aA (wZ c19)) (T.seq (T.region Z (TL.run am [0,1,2] Z Z ?_)))))
   obtain rfl:=xa h
   exact TL.nil (X.seq (T.ret (uH (uX [1] zc (uD Z) (uD Z) ⟨Z,Z,Z⟩ (by rfl) (.inl Z)))))
def bw (a0:Rec):Option (Int×Int×Int):=if a0.wC.null=true then some (0,0,12) else (if a0.wt.null=true then some (0,0,12) else (if (a0.wy.length:Int)>0 then some (0,0,12) else (if a0.wD=0 then ((bN a0.wC.data).bind fun (x8,x9)=>if x9=0 then ((bl a0.wt.data).bind fun (x12,x13)=>if x13=0 then some (x8,x12,0) else some (0,0,x13)) else some (0,0,x9)) else some (0,0,12))))
theorem iR (a0:Rec) (A1:Option Addr) (c2:Nat) (r:Int×Int×Int) (h:bw a0=some r):au Tryz.prog 64 #[.agg #[jI a0.wK,jI a0.wD,.bool a0.wC.null,jS a0.wC.data,.bool a0.wt.null,jS a0.wt.data,.slice A1 a0.wy.length c2]] (RX.of (aq 3 aP) [.slice A1 a0.wy.length c2] a0.wy) (aw) (fun v A' N=>v= .tuple #[jI r.1,jI r.2.1,jI r.2.2]∧A'=aw∧N = []):=by
 refine aF Tryz.func64 Z Tryz.ntmps64 Z ?_
 intro F w hX
 unfold bw at h
 refine T.seq (T.region Z (TL.box Z .u Z Z (fun b3=>(TL.run am [1,2,3] Z Z (TL.nil (X.seq (T.seq (T.seq (T.region Z (TL.run am [0,1] Z Z (TL.q Z .u (uB 0 Z xE Z Z) Z ?_)))))))))))
 rcases jF h with⟨c4,h⟩ | ⟨c4,h⟩
 ·refine TL.run am [3] Z Z ?_
  iterate 3 refine uG Z (.gn Z Z c4) Z ?_
  refine TL.q Z .u (uJ Z c4 Z) Z (TL.run am [8] Z Z ?_)
  iterate 4 refine uG Z (.gn Z Z Z) Z ?_
  refine TL.q Z .u (uJ Z Z Z) Z (TL.run am [14] Z Z ?_)
  iterate 3 refine uG Z (.gn Z Z Z) Z ?_
  refine TL.q Z .u (uJ Z Z Z) Z (TL.nil (X.seq (uF Z Z (T.seq (T.region Z (TL.run am [0,1,2] Z Z ?_))))))
  obtain rfl:=xa h
  exact TL.nil (X.seq (T.ret (uH (vm [1] yD (uD Z) (uD Z) (uD Z) ⟨Z,Z,Z⟩ (by rfl) (.inl Z)))))
 ·replace c4:=xi c4
  refine TL.run am [3] Z Z ?_
  iterate 2 refine TL.q Z (.g Z Z c4) (uI am Z) Z ?_
  refine TL.q Z (.g Z Z c4) (uB 0 Z xE Z Z) Z (TL.q Z .u (uL Z c4 Z) Z ?_)
  rcases jF h with⟨c5,h⟩ | ⟨c5,h⟩
  ·refine TL.run am [8] Z Z ?_
   iterate 4 refine uG Z (.gn Z Z c5) Z ?_
   refine TL.q Z .u (uJ Z c5 Z) Z (TL.run am [14] Z Z ?_)
   iterate 3 refine uG Z (.gn Z Z Z) Z ?_
   refine TL.q Z .u (uJ Z Z Z) Z (TL.nil (X.seq (uF Z Z (T.seq (T.region Z (TL.run am [0,1,2] Z Z ?_))))))
   obtain rfl:=xa h
   exact TL.nil (X.seq (T.ret (uH (vm [1] yD (uD Z) (uD Z) (uD Z) ⟨Z,Z,Z⟩ (by rfl) (.inl Z)))))
  ·replace c5:=xi c5
   refine TL.run am [8] Z Z (TL.q Z (.g Z Z c5) (uI am Z) Z (TL.q Z (.g Z Z c5) (uB 0 Z yI Z Z) Z (TL.q Z (.g Z Z c5) (uY Z xG) Z (TL.q Z (.g Z Z c5) (uI am Z) Z (TL.q Z .u (uL Z c5 Z) Z ?_)))))
   rcases jF h with⟨c6,h⟩ | ⟨c6,h⟩
   ·refine TL.run am [14] Z Z ?_
    iterate 3 refine uG Z (.gn Z Z (wY c6)) Z ?_
    refine TL.q Z .u (uJ Z (wY c6) Z) Z (TL.nil (X.seq (uF Z Z (T.seq (T.region Z (TL.run am [0,1,2] Z Z ?_))))))
    obtain rfl:=xa h
    exact TL.nil (X.seq (T.ret (uH (vm [1] yD (uD Z) (uD Z) (uD Z) ⟨Z,Z,Z⟩ (by rfl) (.inl Z)))))
   ·refine TL.run am [14] Z Z (TL.q Z (.g Z Z (wZ c6)) (uI am Z) Z (TL.q Z (.g Z Z (wZ c6)) (uB 0 Z xc Z Z) Z (TL.q Z (.g Z Z (wZ c6)) (uI am Z) Z (TL.q Z .u (uL Z (wZ c6) Z) Z ?_))))
    rcases jF h with⟨c7,h⟩ | ⟨c7,h⟩
    ·refine TL.nil (X.seq (uK Z (av (wY c7)) (T.skip (X.seq (T.seq (T.seq (T.region Z (TL.run am [0,1] Z Z (TL.q Z .u (uB 0 Z yh Z Z) Z ?_)))))))))
     obtain⟨⟨x8,x9⟩,hx10,h⟩:=wX h
     try dsimp only at h
     refine uP Z .u (.fn Tryz.call87 Z) (gQ a0.wC.data _ hx10) (fun _ hs=>(uE _ _)) Z (TL.run am [4,5,6,7,8] Z Z (TL.nil (X.seq (T.seq (T.region Z (TL.run am [0,1] Z Z ?_))))))
     rcases jF h with⟨c11,h⟩ | ⟨c11,h⟩
     ·refine TL.nil (X.seq (uK Z (av (wY c11)) (T.skip (X.seq (T.seq (T.seq (T.region Z (TL.run am [0,1] Z Z (TL.q Z .u (uB 0 Z yh Z Z) Z ?_)))))))))
      obtain⟨⟨x12,x13⟩,hx14,h⟩:=wX h
      try dsimp only at h
      refine uP Z .u (.fn Tryz.call88 Z) (gk a0.wt.data _ hx14) (fun _ hs=>(uE _ _)) Z (TL.run am [4,5,6,7,8] Z Z (TL.nil (X.seq (T.seq (T.region Z (TL.run am [0,1] Z Z ?_))))))
      rcases jF h with⟨c15,h⟩ | ⟨c15,h⟩
      ·refine TL.nil (X.seq (uK Z (av (wY c15)) (T.skip (X.seq (T.seq (T.region Z (TL.run am [0,1,2,3,4] Z Z ?_)))))))
       obtain rfl:=xa h
       exact TL.nil (X.seq (T.ret (vm [1] yD (uD Z) (uD Z) (uD Z) ⟨Z,Z,Z⟩ (by rfl) (.inl Z))))
      ·refine TL.nil (X.seq (uF Z (aA (wZ c15)) (T.seq (T.region Z (TL.run am [0,1,2,3] Z Z ?_)))))
       obtain rfl:=xa h
       exact TL.nil (X.seq (T.ret (uH (vm [1] yD (uD Z) (uD Z) (uD Z) ⟨Z,Z,Z⟩ (by rfl) (.inl Z)))))
     ·refine TL.nil (X.seq (uF Z (aA (wZ c11)) (T.seq (T.region Z (TL.run am [0,1,2,3] Z Z ?_)))))
      obtain rfl:=xa h
      exact TL.nil (X.seq (T.ret (uH (vm [1] yD (uD Z) (uD Z) (uD Z) ⟨Z,Z,Z⟩ (by rfl) (.inl Z)))))
    ·refine TL.nil (X.seq (uF Z (aA (wZ c7)) (T.seq (T.region Z (TL.run am [0,1,2] Z Z ?_)))))
     obtain rfl:=xa h
     exact TL.nil (X.seq (T.ret (uH (vm [1] yD (uD Z) (uD Z) (uD Z) ⟨Z,Z,Z⟩ (by rfl) (.inl Z)))))
def ft_crc:dU := []
theorem ay:(ft_crc).OK Tryz.prog:=trivial
theorem t8:Tryz.prog.follows .mixedOrders=true:=by kernel_rfl
def cQ:Nat→Int→Nat→Option (Int×Nat)
 | 0,_,_=>none
 | m40+1,y35,k36=>if (k36:Int)<8 then ((if (Go.bits .and .u32 y35 1)=1 then (some (Go.bits .xor .u32 (mG .u32 y35 1) 2197175160)) else some (mG .u32 y35 1)).bind fun y46=>if -9223372036854775808≤((k36:Int)+1)∧((k36:Int)+1)≤9223372036854775807 then (cQ m40 y46 (k36+1)) else none) else some (y35,k36)
def dp:Nat→Nat→List Int→Option (Nat×List Int)
 | 0,_,_=>none
 | m7+1,k2,st3=>if (k2:Int)<256 then (((cQ ((8:Int).toNat+1) (IntKind.u32.wrap (k2:Int)) 0).bind fun (y52,k53)=>(st3[k2]?).bind fun x54=>some (st3.set k2 y52)).bind fun st33=>if -9223372036854775808≤((k2:Int)+1)∧((k2:Int)+1)≤9223372036854775807 then (dp m7 (k2+1) st33) else none) else some (k2,st3)
def fx  : Option (List Int):=(dp ((256:Int).toNat+1) 0 (List.replicate 256 (0:Int))).bind fun (k57,st58)=>some st58
theorem eF  (r:List Int) (h:fx  = some r):au Tryz.prog 38 #[] .triv (aw) (fun v A' N=> ∃ q:Nat,v=jP q∧A'=aw∧N = [fU 131 q r]):=by
 refine aF Tryz.func38 Z Tryz.ntmps38 Z ?_
 intro F w hX
 unfold fx at h
 refine T.seq (T.region Z (TL.run ay [0] Z Z (TL.nil (X.seq (T.seq (T.region Z (TL.q Z .u (Ex.bldZ Tryz.zeroValue131 yY Tryz.sizeOf80) Z ?_)))))))
 refine TL.tNew Z .u Z (by kernel_rfl) Z (fun b1=> ?_)
 refine TL.run ay [2] Z Z (TL.nil (X.seq (T.seq (T.seq (T.region Z (TL.run ay [0] Z Z (TL.nil (X.seq (T.block ?_)))))))))
 obtain⟨E4,hE5,hO6⟩:=wX h
 refine vo (fun m e Rs=> ∃ (k2:Nat) (st3:List Int),e = [(0,.pointer none),(1,jP b1),(6,jI (k2:Int))]∧Rs = [fU 131 b1 st3,aw]∧dp m k2 st3=some E4) ((256:Int).toNat+1) [0,0] ⟨0,(List.replicate 256 (0:Int)),Z,Z,by exact hE5⟩ (by rfl) (by rfl) ?_
 rintro m7 _ _ ⟨k2,st3,rfl,rfl,hl9⟩
 clear hE5 h
 cases m7 with
 | zero =>
  rw[dp] at hl9
  cases hl9
 | succ m7 =>
  have h:=hl9
  clear hl9
  rw[dp] at h
  refine T.seq (T.region Z (TL.run ay [0] Z Z ?_))
  rcases jF h with⟨c11,h⟩ | ⟨c11,h⟩
  ·refine TL.nil (X.seq (T.seq (uF Z (wY c11) (T.skip (X.seq (T.seq ?_))))))
   obtain⟨st33,h,hk34⟩:=wX h
   refine vF (fun e Rs=>e = [(0,.pointer none),(1,jP b1),(6,jI (k2:Int))]∧Rs = [fU 131 b1 st33,aw]) ?_ ?_
   ·clear hk34
    refine T.block (T.seq (T.region Z (TL.run ay [0,1] Z Z (TL.nil (X.seq (T.seq (T.region Z (TL.run ay [0] Z Z (TL.q Z .u (wh Z xW xZ) Z (TL.run ay [2] Z Z (TL.nil (X.seq (T.seq (T.seq (T.region Z (TL.run ay [0] Z Z ?_))))))))))))))))
    refine TL.nil (X.seq (T.block ?_))
    obtain⟨E37,hE38,hO39⟩:=wX h
    refine vo (fun m e Rs=> ∃ (y35:Int) (k36:Nat),e = [(0,.pointer none),(1,jP b1),(2,jI (k2:Int)),(3,.int .u32 y35),(6,jI (k2:Int)),(11,jI (k36:Int))]∧Rs = [fU 131 b1 st3,aw]∧cQ m y35 k36=some E37) ((8:Int).toNat+1) [0,0] ⟨(IntKind.u32.wrap (k2:Int)),0,Z,Z,by exact hE38⟩ (by rfl) (by rfl) ?_
    rintro m40 _ _ ⟨y35,k36,rfl,rfl,hl42⟩
    clear hE38 h
    cases m40 with
    | zero =>
     rw[cQ] at hl42
     cases hl42
    | succ m40 =>
     have h:=hl42
     clear hl42
     rw[cQ] at h
     refine T.seq (T.region Z (TL.run ay [0] Z Z ?_))
     rcases jF h with⟨c44,h⟩ | ⟨c44,h⟩
     ·refine TL.nil (X.seq (T.seq (uF Z (wY c44) (T.skip (X.seq (T.seq (T.block (T.seq (T.region Z (TL.run ay [0] Z Z (TL.q Z .u (Ex.bitw Z Z Z) Z (TL.run ay [2] Z Z (TL.nil (X.seq ?_))))))))))))))
      obtain⟨y46,h,hk47⟩:=wX h
      refine vF (fun e Rs=>e = [(0,.pointer none),(1,jP b1),(2,jI (k2:Int)),(3,.int .u32 y46),(6,jI (k2:Int)),(11,jI (k36:Int))]∧Rs = [fU 131 b1 st3,aw]) ?_ ?_
      ·clear hk47
       rcases jF h with⟨c48,h⟩ | ⟨c48,h⟩
       ·refine uF Z (wY c48) (T.region Z (TL.run ay [0] Z Z (TL.q Z .u (Ex.shr Z Z (by decide)) Z (TL.q Z .u (Ex.bitw Z Z Z) Z (TL.run ay [3] Z Z ?_)))))
        cases h
        exact TL.nil (u4 [0,0] ⟨Z,Z⟩ (by rfl) (by rfl))
       ·refine uK Z (wZ c48) (T.region Z (TL.run ay [0] Z Z (TL.q Z .u (Ex.shr Z Z (by decide)) Z (TL.run ay [2] Z Z ?_))))
        cases h
        exact TL.nil (u4 [0,0] ⟨Z,Z⟩ (by rfl) (by rfl))
      ·rintro _ _ ⟨rfl,rfl⟩
       clear h
       have h:=hk47
       clear hk47
       try dsimp only at h
       replace h:=ak h
       obtain⟨c49,h⟩:=h
       exact uQ (X.seq (T.region Z (TL.q Z .u (Ex.add Z Z c49) Z (TL.run ay [1] Z Z (TL.nil (X.back (m':=m40) [0,0] (by omega) ⟨y46,k36+1,Z,Z,h⟩ (by rfl) (by rfl)))))))
     ·refine TL.nil (X.seq (T.seq (uK Z (wZ c44) ?_)))
      obtain rfl:=xa h
      replace h:=hO39
      clear hO39
      try dsimp only at h
      refine T.exit (uR (uR (vn (X.seq (T.region Z ?_)))))
      obtain⟨x50,hx51,h⟩:=wX h
      refine TL.run ay [0,1,2,3] Z Z (TL.q Z .u (Ex.tIx (k:=k2) 0 Z Z Z yY Tryz.sizeOf80 Z hx51) Z (TL.tSt (k:=k2) 0 Z .u Z Z Tryz.sizeOf80 Z hx51 (uM [0,0] Z ?_)))
      cases h
      exact TL.nil (uQ (u4 [0,0] ⟨Z,Z⟩ (by rfl) (by rfl)))
   ·rintro _ _ ⟨rfl,rfl⟩
    clear h
    have h:=hk34
    clear hk34
    try dsimp only at h
    replace h:=ak h
    obtain⟨c56,h⟩:=h
    exact X.seq (T.region Z (TL.q Z .u (Ex.add Z Z c56) Z (TL.run ay [1] Z Z (TL.nil (X.back (m':=m7) [0,0] (by omega) ⟨k2+1,st33,Z,Z,h⟩ (by rfl) (by rfl))))))
  ·refine TL.nil (X.seq (T.seq (uK Z (wZ c11) ?_)))
   obtain rfl:=xa h
   replace h:=hO6
   clear hO6
   try dsimp only at h
   refine T.exit (uR (uR (vn (X.seq (T.seq (T.region Z (TL.run ay [0,1] Z Z ?_)))))))
   obtain rfl:=xa h
   exact TL.nil (X.seq (T.ret (uC [1,0] Tryz.results38 (uD Z) ⟨_,Z,Z,Z⟩ (by rfl) (.inl Z))))
def bD (a2:List UInt8):Nat→Int→Nat→List Int→Option (Int×Nat×List Int)
 | 0,_,_,_=>none
 | m7+1,y1,k2,st3=>if (k2:Int)<(a2.length:Int) then ((a2[k2]?).bind fun ch12=>if 0≤(Go.bits .xor .u8 (IntKind.u8.wrap y1) (ch12.toNat:Int)) then ((st3[(Go.bits .xor .u8 (IntKind.u8.wrap y1) (ch12.toNat:Int)).toNat]?).bind fun x15=>if -9223372036854775808≤((k2:Int)+1)∧((k2:Int)+1)≤9223372036854775807 then (bD a2 m7 (Go.bits .xor .u32 x15 (mG .u32 y1 8)) (k2+1) st3) else none) else none) else some (y1,k2,st3)
def dz (st:List Int) (a1:Int) (a2:List UInt8):Option (Int×List Int):=(bD a2 (((a2.length:Int)).toNat+1) (Go.bits .xor .u32 4294967295 a1) 0 st).bind fun (y18,k19,st20)=>some ((Go.bits .xor .u32 4294967295 y18),st20)
theorem iq (g:Nat) (st:List Int) (a1:Int) (a2:List UInt8) (r:Int×List Int) (h:dz st a1 a2=some r):au Tryz.prog 71 #[jP g,.int .u32 a1,jS a2] .triv (fU 131 g st) (fun v A' N=>v= .int .u32 r.1∧A'=fU 131 g r.2∧N = []):=by
 refine aF Tryz.func71 Z Tryz.ntmps71 Z ?_
 intro F w hX
 unfold dz at h
 refine T.seq (T.region Z (TL.run ay [0] Z Z (TL.nil (X.seq (T.seq (T.region Z (TL.run ay [0] Z Z (TL.q Z .u (Ex.notK Z) Z (TL.run ay [2] Z Z (TL.nil (X.seq (T.seq (T.seq (T.region Z (TL.run ay [0] Z Z ?_)))))))))))))))
 refine TL.q Z .u (vk Z xj) Z (TL.run ay [2] Z Z (TL.nil (X.seq (T.block ?_))))
 obtain⟨E4,hE5,hO6⟩:=wX h
 refine vo (fun m e Rs=> ∃ (y1:Int) (k2:Nat) (st3:List Int),e = [(0,jP g),(2,jS a2),(6,.int .u32 0),(7,.int .u32 y1),(12,jI (a2.length:Int)),(13,jI (k2:Int))]∧Rs = [fU 131 g st3]∧bD a2 m y1 k2 st3=some E4) (((a2.length:Int)).toNat+1) [0] ⟨(Go.bits .xor .u32 4294967295 a1),0,st,Z,Z,by exact hE5⟩ (by rfl) (by rfl) ?_
 rintro m7 _ _ ⟨y1,k2,st3,rfl,rfl,hl9⟩
 clear hE5 h
 cases m7 with
 | zero =>
  rw[bD] at hl9
  cases hl9
 | succ m7 =>
  have h:=hl9
  clear hl9
  rw[bD] at h
  refine T.seq (T.region Z (TL.run ay [0] Z Z ?_))
  rcases jF h with⟨c11,h⟩ | ⟨c11,h⟩
  ·refine TL.nil (X.seq (T.seq (uF Z (wY c11) (T.skip (X.seq (T.seq (T.block (T.seq (T.region Z (TL.run ay [0,1] Z Z ?_))))))))))
   refine TL.nil (X.seq (uZ (.q 0 (.q 1 (.q 2 (.q 3 (.q 4 (.q 5 (.q 6 (.q 7 (.q 8 (.q 9 (.q 10 (.q 11 (.q 12 (.q 13 .nil)))))))))))))) [0] Z t8 (NoP.blk (NoP.seq (NoP.seq (NoP.blk (NoP.seq aI))))) (by kernel_rfl) ?_))
   refine TD.run ay [0,1] Z Z (TD.q Z .u (wh Z xZ yx) Z ?_)
   obtain⟨ch12,hc13,h⟩:=wX h
   refine TD.run ay [3,4] Z Z (TD.q Z .u (Ex.sIx Z Z Z Tryz.underlying9 hc13) Z (TD.q Z .u (Ex.bitw Z Z Z) Z ?_))
   replace h:=ak h
   obtain⟨c14,h⟩:=h
   obtain⟨x15,hx16,h⟩:=wX h
   refine TD.run ay [7] Z Z (TD.q Z .u (Ex.tIx (k:=(Go.bits .xor .u8 (IntKind.u8.wrap y1) (ch12.toNat:Int)).toNat) 0 Z Z ((Int.toNat_of_nonneg c14).symm) yY Tryz.sizeOf80 Z hx16) Z (TD.q Z .u (Ex.tLd (k:=(Go.bits .xor .u8 (IntKind.u8.wrap y1) (ch12.toNat:Int)).toNat) 0 Z Tryz.isAgg80 Z hx16) Z (TD.run ay [10] Z Z (TD.q Z .u (Ex.shr Z Z (by decide)) Z (TD.q Z .u (Ex.bitw Z Z Z) Z (TD.run ay [13] Z Z ?_))))))
   replace h:=ak h
   obtain⟨c17,h⟩:=h
   exact TD.nil (uQ (X.seq (T.region Z (TL.q Z .u (Ex.add Z Z c17) Z (TL.run ay [1] Z Z (TL.nil (X.back (m':=m7) [0] (by omega) ⟨(Go.bits .xor .u32 x15 (mG .u32 y1 8)),k2+1,st3,Z,Z,h⟩ (by rfl) (by rfl))))))))
  ·refine TL.nil (X.seq (T.seq (uK Z (wZ c11) ?_)))
   obtain rfl:=xa h
   replace h:=hO6
   clear hO6
   try dsimp only at h
   refine T.exit (uR (uR (vn (X.seq (T.seq (T.region Z (TL.run ay [0] Z Z (TL.q Z .u (Ex.notK Z) Z (TL.run ay [2] Z Z ?_)))))))))
   obtain rfl:=xa h
   exact TL.nil (X.seq (T.ret (uC [0] Tryz.results71 (uD Z) ⟨Z,Z,Z⟩ (by rfl) (.inl Z))))
def bp:List (List UInt8)→Int→List Int→Option (Int×List Int)
 | [],y3,st5=>some (y3,st5)
 | x10::xs,y3,st5=>(dz st5 y3 x10).bind fun (x14,st15)=>bp xs x14 st15
def dh (st:List Int) (a1:List (List UInt8)):Option (Int×List Int):=(bp a1 0 st).bind fun (y17,st19)=>some (y17,st19)
theorem dc (g:Nat) (st:List Int) (a1:List (List UInt8)) (A1:Option Addr) (c2:Nat) (r:Int×List Int) (h:dh st a1=some r):au Tryz.prog 39 #[jP g,.slice A1 a1.length c2] (RX.of (aq 1 gq) [.slice A1 a1.length c2] a1) (fU 131 g st) (fun v A' N=>v= .int .u32 r.1∧A'=fU 131 g r.2∧N = []):=by
 refine aF Tryz.func39 Z Tryz.ntmps39 Z ?_
 intro F w hX
 unfold dh at h
 refine T.seq (T.region Z (TL.run ay [0] Z Z (TL.nil (X.seq (T.seq (T.region Z (TL.run ay [0] Z Z (TL.nil (X.seq (T.seq (T.seq (T.region Z (TL.run ay [0] Z Z (TL.q Z .u (uY Z ye) Z (TL.run ay [2] Z Z ?_)))))))))))))))
 refine TL.nil (X.seq (T.block ?_))
 obtain⟨E6,hE7,hO8⟩:=wX h
 have hk12len:=vz hX
 refine vo (fun m e Rs=> ∃ (y3:Int) (k4:Nat) (st5:List Int),k4+m=a1.length∧e = [(0,jP g),(4,.int .u32 0),(5,.int .u32 y3),(8,.slice A1 a1.length c2),(9,jI (a1.length:Int)),(10,jI (k4:Int))]∧Rs = [fU 131 g st5]∧bp (a1.drop k4) y3 st5=some E6) (a1.length) [0] ⟨0,0,st,by simp,Z,Z,by rw[List.drop_zero]; exact hE7⟩ (by rfl) (by rfl) ?_
 rintro m9 _ _ ⟨y3,k4,st5,hk12,rfl,rfl,hl11⟩
 clear hE7 h
 cases m9 with
 | zero =>
  have h:=hl11
  clear hl11
  rw[List.drop_of_length_le (by omega),bp] at h
  have hk12ge: ¬ ((k4:Int)<(a1.length:Int)):=by omega
  refine T.seq (T.region Z (TL.run ay [0] Z Z (TL.nil (X.seq (T.seq (uK Z (wZ hk12ge) ?_))))))
  obtain rfl:=xa h
  replace h:=hO8
  clear hO8
  try dsimp only at h
  refine T.exit (uR (uR (vn (X.seq (T.seq (T.region Z (TL.run ay [0,1] Z Z ?_)))))))
  obtain rfl:=xa h
  exact TL.nil (X.seq (T.ret (uC [0] Tryz.results39 (uD Z) ⟨Z,Z,Z⟩ (by rfl) (.inl Z))))
 | succ m9 =>
  have h:=hl11
  clear hl11
  obtain⟨x10,hxx10⟩: ∃ x,a1[k4]? = some x:=⟨_,List.getElem?_eq_getElem (by omega)⟩
  rw[cK hxx10,bp] at h
  have hk12lt:(k4:Int)<(a1.length:Int):=by omega
  refine T.seq (T.region Z (TL.run ay [0] Z Z (TL.nil (X.seq (T.seq (uF Z (wY hk12lt) ?_))))))
  obtain⟨gz13,oz13,rfl,z13cs,z13cl,z13cc,z13nf,z13r⟩:=vh (by decide) hX hxx10
  obtain⟨z13S,z13r,z13rr⟩:=z13r
  obtain rfl:z13cs = [jS x10]:=z13r
  refine T.skip (X.seq (T.seq (T.block (T.seq (T.region Z ?_)))))
  refine TL.q Z .u (uV (k:=k4) Z Z Z ye yb (xd hxx10).1) Z ?_
  refine TL.q Z .u (wb 0 Z yh z13nf z13cc Z Z) Z (TL.run ay [2] Z Z (TL.nil (X.seq (T.region Z ?_))))
  obtain⟨⟨x14,st15⟩,hx16,h⟩:=wX h
  try dsimp only at h
  exact TL.run ay [0,1,2] Z Z (vf Z .u (.fn Tryz.call71 Z) (iq g st5 y3 x10 _ hx16) (fun _ hs=>(Src.triv _)) Z (TL.run ay [4] Z Z (TL.nil (uQ (X.seq (T.region Z (TL.q Z .u (Ex.add Z Z (by omega)) Z (TL.run ay [1] Z Z (TL.nil (X.back (m':=m9) [0] (by omega) ⟨x14,k4+1,st15,by omega,Z,Z,h⟩ (by rfl) (by rfl)))))))))))
end Go.Proofs.YtahjmpipllajcaaGreat.Sl
