/- scanRows_holds: part 2. -/
import Derived.Test.YtahjmpipllajcaaGreatK1
set_option maxRecDepth 100000
set_option maxHeartbeats 4000000
set_option linter.defProp false
namespace Go.Proofs.YtahjmpipllajcaaGreat.Sl
open Go.RowKit
set_option linter.unusedVariables false
set_option linter.unusedSimpArgs false
theorem xL {α β : Type} {o : Option α} {f : α → Option β} {b : β} (h : o.bind f = some b) : ∃ a, o = some a ∧ f a = some b := Option.bind_eq_some_iff.1 h
def xM := @decide_eq_true
def xN := @decide_eq_false
def xQ := @Tryz.isAgg3
def xU := @Tryz.sizeOf3
def xW := @eq_false_of_ne_true
def xX := @Tryz.sizeOf69
def xY := @Tryz.runUnderlying9
def yc := @Tryz.runUnderlying22
def ye := @Tryz.sizeOf66
def yh := @Tryz.runUnderlying69
def yl := @Tryz.runUnderlying67
def yo := @Tryz.isAgg4
def yt := @Tryz.isAgg69
def yB := @Tryz.sizeOf71
def yD := @Tryz.isAgg66
def yE := @Tryz.runUnderlying5
def yF := @Tryz.runUnderlying3
def yH := @Tryz.sizeOf5
def yJ := @Tryz.runUnderlying66
def yK := @Tryz.runUnderlying80
def yL := @Tryz.sizeOf9
def yM := @Tryz.isAgg9
def yN := @Tryz.sizeOf4
def yR := @Tryz.runUnderlying71
def yU := @Tryz.runUnderlying26
def yZ := @Tryz.results81
def y8 := @Tryz.runUnderlying136
def zb := @Tryz.isAgg67
def zc := @Tryz.sizeOf67
def ze := @Tryz.eqGuardType66
def zg := @Tryz.results45
def zh := @Tryz.results64
def zk := @Tryz.runUnderlying168
def zl := @Tryz.results26
def zm := @Tryz.results87
def zq := @Tryz.runUnderlying99
def zu := @Tryz.results103
def zw := @Tryz.isAgg71
def zx := @Tryz.eqGuardType71
def zy := @Tryz.results63
def zz := @Tryz.results76
def zC := @Tryz.runUnderlying131
def zE := @Tryz.ntmps78
def zG := @Tryz.results88
def sJ:dY := [(71,0,0),(71,1,1)]
theorem ax:(sJ).OK Tryz.prog:=⟨FOK.mk yR rfl yL rfl,FOK.mk yR rfl ye rfl,trivial⟩
theorem na:BOK Tryz.prog 71 #[.string ⟨#[]⟩,.bool false,.string ⟨#[]⟩] [(0,1),(1,2)]:=BOK.mk Tryz.zeroValue71 yR (by intro w; simp)
theorem lF:SOK Tryz.prog 67 71 1 3 #[.string ⟨#[]⟩,.bool false,.string ⟨#[]⟩]:=SOK.mk yl yB Tryz.zeroValue71 (by decide) (by kernel_rfl)
theorem nb:(Tryz.prog.info? 71).map (fun i=>(i.zero,i.size,i.bytes))=some (some (.agg #[.string ⟨#[]⟩,.bool false,.string ⟨#[]⟩]),3,40):=by kernel_rfl
def bm (x1:Int):Nat→List Hd→List Hd→Nat→I→Option (Lp (List Hd×I) (List Hd×List Hd×Nat×I))
 | 0,_,_,_,_=>none
 | m29+1,y18,y21,k24,st25=>if (k24:Int)<x1 then ((ml st25).bind fun (x34,st35)=>(bb st35).bind fun (x37,st38)=>if (y21.length+1)*40≤140737488355328 then ((jZ st38).bind fun (x44,st45)=>if x44=0 then (if -9223372036854775808≤((k24:Int)+1)∧((k24:Int)+1)≤9223372036854775807 then (bm x1 m29 y18 (y21 ++ [(⟨x34,x37⟩:Hd)]) (k24+1) st45) else none) else (some (Lp.ret ([],st45)))) else none) else (some (Lp.go (y18,y21,k24,st25)))
def aP (st:I)  : Option (List Hd×I):=(ib st).bind fun (x1,st2)=>(jZ st2).bind fun (x4,st5)=>if x4=0 then (if x1<0 then ((bl st5 4).bind fun st9=>some ([],st9)) else ((nx st5).bind fun (x11,st12)=>if 0≤x11∧x11≤9223372036854775807 then (if x1>(x11 / 2) then ((bl st12 1).bind fun st16=>some ([],st16)) else ((bm x1 ((x1).toNat+1) [] [] 0 st12).bind fun e=>match e with | .ret r=>some r | .go (y49,y52,k55,st56)=>some (y52,st56))) else none)) else some ([],st5)
theorem dv (g:Nat) (st:I)  (r:List Hd×I) (h:aP st  = some r):ar Tryz.prog 103 #[jP g] .triv (InR g st) (fun v A' N=> ∃ (A57:Option Addr) (c58:Nat),v= .slice A57 r.1.length c58∧A'=InR g r.2∧N = [RdR (aq 3 bg) [.slice A57 r.1.length c58] r.1]):=by
 refine aJ Tryz.func103 Z Tryz.ntmps103 Z ?_
 intro F w hX
 unfold aP at h
 refine T.seq (T.region Z (TL.run ax [0] Z Z (TL.nil (X.seq (T.seq (T.region Z ?_))))))
 obtain⟨⟨x1,st2⟩,hx3,h⟩:=xL h
 try dsimp only at h
 refine TL.run ax [0] Z Z (vX Z .u (.fn Tryz.call101 Z) (jx g st _ hx3) (fun _ hs=>(Src.triv _)) Z (TL.run ax [2] Z Z (TL.nil (X.seq (T.seq (T.block (T.seq (T.region Z ?_))))))))
 obtain⟨⟨x4,st5⟩,hx6,h⟩:=xL h
 try dsimp only at h
 refine TL.run ax [0] Z Z (vX Z .u (.fn Tryz.call23 Z) (dX g st2 _ hx6) (fun _ hs=>(Src.triv _)) Z (TL.run ax [2,3] Z Z ?_))
 rcases jF h with⟨c7,h⟩ | ⟨c7,h⟩
 ·refine TL.nil (X.seq (vC Z (aw (xM c7)) (T.seq (T.region Z (TL.run ax [0,1,2] Z Z ?_)))))
  rcases jF h with⟨c8,h⟩ | ⟨c8,h⟩
  ·refine TL.nil (X.seq (vw Z (xM c8) (T.seq (T.region Z ?_))))
   obtain⟨st9,hx10,h⟩:=xL h
   refine TL.run ax [0] Z Z (vX Z .u (.fn Tryz.call48 Z) (aZ g st5 4 _ hx10) (fun _ hs=>(Src.triv _)) Z (TL.nil (X.seq (T.seq (T.region Z (TL.run ax [0] Z Z ?_))))))
   obtain rfl:=xO h
   exact TL.nil (X.seq (T.ret (vJ (vx (we 3 bg (vu [1,0] zu (vt Z) ⟨_,_,Z,Z,Z⟩ (by rfl) (.inl Z)))))))
  ·refine TL.nil (X.seq (vC Z (xN c8) (T.seq (T.region Z ?_))))
   obtain⟨⟨x11,st12⟩,hx13,h⟩:=xL h
   try dsimp only at h
   refine TL.run ax [0,1] Z Z (vX Z .u (.fn Tryz.call80 Z) (jw g st5 _ hx13) (fun _ hs=>(Src.triv _)) Z ?_)
   replace h:=ak h
   obtain⟨c14,h⟩:=h
   refine TL.q Z .u (Ex.quo Z Z (by omega) c14) Z (TL.run ax [4,5] Z Z ?_)
   rcases jF h with⟨c15,h⟩ | ⟨c15,h⟩
   ·refine TL.nil (X.seq (vw Z (xM c15) (T.seq (T.region Z ?_))))
    obtain⟨st16,hx17,h⟩:=xL h
    refine TL.run ax [0] Z Z (vX Z .u (.fn Tryz.call48 Z) (aZ g st12 1 _ hx17) (fun _ hs=>(Src.triv _)) Z (TL.nil (X.seq (T.seq (T.region Z (TL.run ax [0] Z Z ?_))))))
    obtain rfl:=xO h
    exact TL.nil (X.seq (T.ret (vJ (vx (we 3 bg (vu [1,0] zu (vt Z) ⟨_,_,Z,Z,Z⟩ (by rfl) (.inl Z)))))))
   ·refine TL.nil (X.seq (vC Z (xN c15) (T.skip (vF (X.seq (T.seq (T.region Z (TL.run ax [0] Z Z (TL.nil (X.seq (T.seq (T.seq (T.region Z (TL.run ax [0,1] Z Z (TL.nil (X.seq (T.block ?_)))))))))))))))))
    iterate 2 refine xe 71 3 bg ?_
    obtain⟨E26,hE27,hO28⟩:=xL h
    refine v9 (fun m e Rs=> ∃ (y18:List Hd) (A19:Option Addr) (c20:Nat) (y21:List Hd) (A22:Option Addr) (c23:Nat) (k24:Nat) (st25:I),e = [(0,jP g),(2,.slice A19 y18.length c20),(4,.slice A22 y21.length c23),(25,jI x1),(26,jI (k24:Int))]∧Rs = [aF 71 3 bg (.slice A19 y18.length c20) y18,aF 71 3 bg (.slice A22 y21.length c23) y21,InR g st25]∧bm x1 m y18 y21 k24 st25=some E26) ((x1).toNat+1) [0,0,0] ⟨[],none,0,[],none,0,0,st12,Z,Z,by exact hE27⟩ (by rfl) (by rfl) ?_
    rintro m29 _ _ ⟨y18,A19,c20,y21,A22,c23,k24,st25,rfl,rfl,hl31⟩
    clear hE27 h
    cases m29 with
    | zero =>
     rw[bm] at hl31
     cases hl31
    | succ m29 =>
     have h:=hl31
     clear hl31
     rw[bm] at h
     refine T.seq (T.region Z (TL.run ax [0] Z Z ?_))
     rcases jF h with⟨c33,h⟩ | ⟨c33,h⟩
     ·refine TL.nil (X.seq (T.seq (vw Z (xM c33) (T.skip (X.seq (T.seq (T.block (T.seq (T.region Z ?_)))))))))
      obtain⟨⟨x34,st35⟩,hx36,h⟩:=xL h
      try dsimp only at h
      refine TL.run ax [0] Z Z (wN Z .u (.fn Tryz.call99 Z) (mn g st25 _ hx36) (fun _ hs=>(Src.triv _)) Z (TL.run ax [2] Z Z (TL.nil (X.seq (T.seq (T.region Z ?_))))))
      obtain⟨⟨x37,st38⟩,hx39,h⟩:=xL h
      try dsimp only at h
      refine TL.run ax [0,1,2] Z Z (wN Z .u (.fn Tryz.call102 Z) (cy g st35 _ hx39) (fun _ hs=>(Src.triv _)) Z ?_)
      refine TL.q Z .u (vT (cells:= #[jS x34,.bool x37.null,jS x37.data]) na Z (by kernel_rfl)) Z ?_
      refine wG (cells:= #[jS x34,.bool x37.null,jS x37.data]) Z .u lF Z (by kernel_rfl) Z (fun b40=> ?_)
      replace h:=ak h
      obtain⟨c41,h⟩:=h
      refine TL.app1 1 Z .u (us := [jS x34,.bool x37.null,jS x37.data]) (u:=(⟨x34,x37⟩:Hd)) (l:=y21) (E:=bg) Tryz.underlying67 nb Z (by decide) Z Z Z Z Z Z (fun _ _=>Z) (by have hq:=c41; omega) (by have hq:=c41; omega) Z (fun A42 c43=> ?_)
      refine vR [0,0,0] Z (TL.run ax [7] Z Z (TL.nil (X.seq (T.seq (T.region Z ?_)))))
      obtain⟨⟨x44,st45⟩,hx46,h⟩:=xL h
      try dsimp only at h
      refine TL.run ax [0] Z Z (wN Z .u (.fn Tryz.call23 Z) (dX g st38 _ hx46) (fun _ hs=>(Src.triv _)) Z (TL.run ax [2] Z Z ?_))
      rcases jF h with⟨c47,h⟩ | ⟨c47,h⟩
      ·refine TL.nil (X.seq (vC Z (aw (xM c47)) ?_))
       replace h:=ak h
       obtain⟨c48,h⟩:=h
       exact T.skip (vF (X.seq (T.region Z (TL.q Z .u (Ex.add Z Z c48) Z (TL.run ax [1] Z Z (TL.nil (X.back (m':=m29) [0,0,0] (by omega) ⟨y18,A19,c20,(y21 ++ [(⟨x34,x37⟩:Hd)]),A42,c43,k24+1,st45,Z,Z,h⟩ (by rfl) (by rfl))))))))
      ·refine TL.nil (X.seq (vw Z (aH (xN c47)) (T.seq (T.region Z (TL.run ax [0] Z Z ?_)))))
       obtain rfl:=xO h
       replace h:=hO28
       clear hO28
       try dsimp only at h
       obtain rfl:=xO h
       exact TL.nil (X.seq (T.ret (vJ (vx (vx (vJ (vx (we 3 bg (vu [3,0] zu (vt Z) ⟨_,_,Z,Z,Z⟩ (by rfl) (.inl Z))))))))))
     ·refine TL.nil (X.seq (T.seq (vC Z (xN c33) ?_)))
      obtain rfl:=xO h
      replace h:=hO28
      clear hO28
      try dsimp only at h
      refine T.exit (vD (vD (v6 (X.seq (T.seq (T.region Z (TL.run ax [0,1] Z Z ?_)))))))
      obtain rfl:=xO h
      exact TL.nil (X.seq (T.ret (X.shut (by decide) 1 Z (vU [0,0,0] Z (vu [2,1] zu (vt Z) ⟨_,_,Z,Z,Z⟩ (by rfl) (.inl Z))))))
 ·refine TL.nil (X.seq (vw Z (aH (xN c7)) (T.seq (T.region Z (TL.run ax [0] Z Z ?_)))))
  obtain rfl:=xO h
  exact TL.nil (X.seq (T.ret (vJ (vx (we 3 bg (vu [1,0] zu (vt Z) ⟨_,_,Z,Z,Z⟩ (by rfl) (.inl Z)))))))
def cV:List Hd→(List UInt8×Int)→Option (List UInt8×Int)
 | [],st6=>some st6
 | x11::xs,st6=>(j7 st6 x11.xu).bind fun st16=>(fJ st16 x11.xn).bind fun st18=>cV xs st18
def fK (st:List UInt8×Int) (a1:List Hd):Option (List UInt8×Int):=(lO st (a1.length:Int)).bind fun st3=>(cV a1 st3).bind fun st21=>some st21
theorem iX (g:Nat) (st:List UInt8×Int) (a1:List Hd) (A1:Option Addr) (c2:Nat) (r:List UInt8×Int) (h:fK st a1=some r):ar Tryz.prog 93 #[jP g,.slice A1 a1.length c2] (RX.of (aq 3 bg) [.slice A1 a1.length c2] a1) (aU g st) (fun v A' N=>v= .tuple #[]∧A'=aU g r∧N = []):=by
 refine aJ Tryz.func93 Z Tryz.ntmps93 Z ?_
 intro F w hX
 unfold fK at h
 refine T.seq (T.region Z (TL.run ax [0,1] Z Z (TL.q Z .u (vH Z yl) Z ?_)))
 obtain⟨st3,hx4,h⟩:=xL h
 refine vX Z .u (.fn Tryz.call91 Z) (j0 g st (a1.length:Int) _ hx4) (fun _ hs=>(Src.triv _)) Z (TL.nil (X.seq (T.seq (T.region Z (TL.run ax [0] Z Z (TL.q Z .u (vH Z yl) Z (TL.run ax [2] Z Z (TL.nil (X.seq (T.block ?_))))))))))
 obtain⟨E7,hE8,hO9⟩:=xL h
 have hk13len:=wd hX
 refine v9 (fun m e Rs=> ∃ (k5:Nat) (st6:List UInt8×Int),k5+m=a1.length∧e = [(0,jP g),(10,.slice A1 a1.length c2),(11,jI (a1.length:Int)),(12,jI (k5:Int))]∧Rs = [aU g st6]∧cV (a1.drop k5) st6=some E7) (a1.length) [0] ⟨0,st3,by simp,Z,Z,by rw[List.drop_zero]; exact hE8⟩ (by rfl) (by rfl) ?_
 rintro m10 _ _ ⟨k5,st6,hk13,rfl,rfl,hl12⟩
 clear hE8 h
 cases m10 with
 | zero =>
  have h:=hl12
  clear hl12
  rw[List.drop_of_length_le (by omega),cV] at h
  have hk13ge: ¬ ((k5:Int)<(a1.length:Int)):=by omega
  refine T.seq (T.region Z (TL.run ax [0] Z Z (TL.nil (X.seq (T.seq (vC Z (xN hk13ge) ?_))))))
  obtain rfl:=xO h
  replace h:=hO9
  clear hO9
  try dsimp only at h
  obtain rfl:=xO h
  exact T.exit (vD (vD (v6 (wV [0] Tryz.results93 ⟨Z,Z,Z⟩ (by rfl) (.inr Z)))))
 | succ m10 =>
  have h:=hl12
  clear hl12
  obtain⟨x11,hxx11⟩: ∃ x,a1[k5]? = some x:=⟨_,List.getElem?_eq_getElem (by omega)⟩
  rw[cm hxx11,cV] at h
  have hk13lt:(k5:Int)<(a1.length:Int):=by omega
  refine T.seq (T.region Z (TL.run ax [0] Z Z (TL.nil (X.seq (T.seq (vw Z (xM hk13lt) ?_))))))
  obtain⟨gz14,oz14,rfl,z14cs,z14cl,z14cc,z14nf,z14r⟩:=vV (by decide) hX hxx11
  obtain⟨z14S,z14r,z14rr⟩:=z14r
  obtain rfl:z14cs = [jS x11.xu,.bool x11.xn.null,jS x11.xn.data]:=z14r
  refine T.skip (X.seq (T.seq (T.block (T.seq (T.region Z ?_)))))
  refine TL.q Z .u (vM (k:=k5) Z Z Z yl yB (xS hxx11).1) Z ?_
  refine TL.q Z .u (wj (us := [jS x11.xu,.bool x11.xn.null,jS x11.xn.data]) 0 Z zw yB z14nf z14cc Z Z Z) Z (TL.alloc Z .u Tryz.zeroValue71 Z (fun b15=>(vG (cs':= #[jS x11.xu,.bool x11.xn.null,jS x11.xn.data]) Z .u Z Z yB Z Z Z Z (TL.nil (X.seq (T.seq (T.region Z (TL.run ax [0,1] Z Z (TL.q Z .u (vr 0 Z yM Z Z) Z ?_)))))))))
  obtain⟨st16,hx17,h⟩:=xL h
  refine wc Z .u (.fn Tryz.call68 Z) (jg g st6 x11.xu _ hx17) (fun _ hs=>(Src.triv _)) Z (TL.nil (X.seq (T.region Z (TL.run ax [0,1] Z Z (TL.q Z .u (vE (us := [.bool x11.xn.null,jS x11.xn.data]) 0 Z yD ye Z Z Z) Z ?_)))))
  obtain⟨st18,hx19,h⟩:=xL h
  exact wc Z .u (.fn Tryz.call92 Z) (fq g st16 x11.xn _ hx19) (fun _ hs=>(Src.triv _)) Z (TL.nil (vF (X.seq (T.region Z (TL.q Z .u (Ex.add Z Z (by omega)) Z (TL.run ax [1] Z Z (TL.nil (X.back (m':=m10) [1] (by omega) ⟨k5+1,st18,by omega,Z,Z,h⟩ (by rfl) (by rfl)))))))))
def sK:dY := [(69,0,0),(69,1,1),(69,2,2),(69,3,4),(69,4,6),(71,1,1)]
theorem aj:(sK).OK Tryz.prog:=⟨FOK.mk yh rfl xU rfl,FOK.mk yh rfl xU rfl,FOK.mk yh rfl ye rfl,FOK.mk yh rfl ye rfl,FOK.mk yh rfl zc rfl,FOK.mk yR rfl ye rfl,trivial⟩
theorem dh:BOK Tryz.prog 69 #[.int .i64 0,.int .i64 0,.bool false,.string ⟨#[]⟩,.bool false,.string ⟨#[]⟩,.slice none 0 0] [(0,1),(1,1),(2,2),(4,2),(6,1)]:=BOK.mk Tryz.zeroValue69 yh (by intro w; simp)
theorem kJ:SOK Tryz.prog 168 66 1 2 #[.bool false,.string ⟨#[]⟩]:=SOK.mk zk ye Tryz.zeroValue66 (by decide) (by kernel_rfl)
theorem kK:SOK Tryz.prog 168 66 2 2 #[.bool false,.string ⟨#[]⟩,.bool false,.string ⟨#[]⟩]:=SOK.mk zk ye Tryz.zeroValue66 (by decide) (by kernel_rfl)
def bG:List Bl→Bool→Option (Lp Bool Bool)
 | [],y3=>some (Lp.go y3)
 | x9::xs,y3=>(om x9).bind fun x14=>if x14=true then (bG xs y3) else some (Lp.ret false)
def cP (a0:List Bl):Option (Bool):=(bG a0 false).bind fun e=>match e with | .ret r=>some r | .go y17=>some true
theorem fd (a0:List Bl) (A1:Option Addr) (c2:Nat) (r:Bool) (h:cP a0=some r):ar Tryz.prog 86 #[.slice A1 a0.length c2] (RX.of (aq 2 pk) [.slice A1 a0.length c2] a0) (av) (fun v A' N=>v= .bool r∧A'=av∧N = []):=by
 refine aJ Tryz.func86 Z Tryz.ntmps86 Z ?_
 intro F w hX
 unfold cP at h
 refine T.seq (T.region Z (TL.run aj [0] Z Z (TL.nil (X.seq (T.seq (T.seq (T.region Z (TL.run aj [0] Z Z (TL.q Z .u (vH Z zk) Z (TL.run aj [2] Z Z (TL.nil (X.seq (T.block ?_)))))))))))))
 obtain⟨E5,hE6,hO7⟩:=xL h
 have hk11len:=wd hX
 refine v9 (fun m e Rs=> ∃ (y3:Bool) (k4:Nat),k4+m=a0.length∧e = [(2,.bool y3),(5,.slice A1 a0.length c2),(6,jI (a0.length:Int)),(7,jI (k4:Int))]∧Rs = [av]∧bG (a0.drop k4) y3=some E5) (a0.length) [0] ⟨false,0,by simp,Z,Z,by rw[List.drop_zero]; exact hE6⟩ (by rfl) (by rfl) ?_
 rintro m8 _ _ ⟨y3,k4,hk11,rfl,rfl,hl10⟩
 clear hE6 h
 cases m8 with
 | zero =>
  have h:=hl10
  clear hl10
  rw[List.drop_of_length_le (by omega),bG] at h
  have hk11ge: ¬ ((k4:Int)<(a0.length:Int)):=by omega
  refine T.seq (T.region Z (TL.run aj [0] Z Z (TL.nil (X.seq (T.seq (vC Z (xN hk11ge) ?_))))))
  obtain rfl:=xO h
  replace h:=hO7
  clear hO7
  try dsimp only at h
  refine T.exit (vD (vD (v6 (X.seq (T.seq (T.region Z (TL.run aj [0] Z Z ?_)))))))
  obtain rfl:=xO h
  exact TL.nil (X.seq (T.ret (vu [0] Tryz.results86 (vt Z) ⟨Z,Z,Z⟩ (by rfl) (.inl Z))))
 | succ m8 =>
  have h:=hl10
  clear hl10
  obtain⟨x9,hxx9⟩: ∃ x,a0[k4]? = some x:=⟨_,List.getElem?_eq_getElem (by omega)⟩
  rw[cm hxx9,bG] at h
  have hk11lt:(k4:Int)<(a0.length:Int):=by omega
  refine T.seq (T.region Z (TL.run aj [0] Z Z (TL.nil (X.seq (T.seq (vw Z (xM hk11lt) ?_))))))
  obtain⟨gz12,oz12,rfl,z12cs,z12cl,z12cc,z12nf,z12r⟩:=vV (by decide) hX hxx9
  obtain⟨z12S,z12r,z12rr⟩:=z12r
  obtain rfl:z12cs = [.bool x9.null,jS x9.data]:=z12r
  refine T.skip (X.seq (T.seq (T.block (T.seq (T.region Z ?_)))))
  refine TL.q Z .u (vM (k:=k4) Z Z Z zk ye (xS hxx9).1) Z ?_
  refine TL.q Z .u (wj (us := [.bool x9.null,jS x9.data]) 0 Z yD ye z12nf z12cc Z Z Z) Z (TL.alloc Z .u Tryz.zeroValue66 Z (fun b13=>(vG (cs':= #[.bool x9.null,jS x9.data]) Z .u Z Z ye Z Z Z Z (TL.nil (X.seq (T.seq (T.region Z (TL.q Z .u (vE (us := [.bool x9.null,jS x9.data]) 0 Z yD ye Z Z Z) Z ?_))))))))
  obtain⟨x14,hx15,h⟩:=xL h
  refine vL Z .u (.fn Tryz.call106 Z) (pv x9 _ hx15) (fun _ hs=>(vy _ _)) Z (TL.run aj [2] Z Z ?_)
  rcases jF h with⟨c16,h⟩ | ⟨c16,h⟩
  ·exact TL.nil (X.seq (vC Z (aw c16) (T.skip (vF (X.seq (T.region Z (TL.q Z .u (Ex.add Z Z (by omega)) Z (TL.run aj [1] Z Z (TL.nil (X.back (m':=m8) [1] (by omega) ⟨y3,k4+1,by omega,Z,Z,h⟩ (by rfl) (by rfl)))))))))))
  ·replace c16:=xW c16
   refine TL.nil (X.seq (vw Z (aH c16) (T.seq (T.region Z (TL.run aj [0] Z Z ?_)))))
   obtain rfl:=xO h
   replace h:=hO7
   clear hO7
   try dsimp only at h
   obtain rfl:=xO h
   exact TL.nil (X.seq (T.ret (vJ (vx (vx (vJ (vx (vu [1] Tryz.results86 (vt Z) ⟨Z,Z,Z⟩ (by rfl) (.inl Z)))))))))
def bN:List Hd→Int→Option (Lp Int Int)
 | [],y12=>some (Lp.go y12)
 | x18::xs,y12=>(cP [x18.xn]).bind fun x24=>if x24=true then (bN xs y12) else some (Lp.ret 4)
def cJ (a0:Rec):Option (Int):=if a0.xx<0 then some 11 else ((jf a0.xx 4).bind fun x5=>if x5=true then ((cP [a0.xu,a0.xn]).bind fun x9=>if x9=true then ((bN a0.xp 0).bind fun e=>match e with | .ret r=>some r | .go y27=>some 0) else some 4) else some 11)
theorem d9 (a0:Rec) (A1:Option Addr) (c2:Nat) (r:Int) (h:cJ a0=some r):ar Tryz.prog 63 #[.agg #[jI a0.xC,jI a0.xx,.bool a0.xu.null,jS a0.xu.data,.bool a0.xn.null,jS a0.xn.data,.slice A1 a0.xp.length c2]] (RX.of (aq 3 bg) [.slice A1 a0.xp.length c2] a0.xp) (av) (fun v A' N=>v=jI r∧A'=av∧N = []):=by
 refine aJ Tryz.func63 Z Tryz.ntmps63 Z ?_
 intro F w hX
 unfold cJ at h
 refine T.seq (T.region Z (TL.box Z .u Z Z (fun b3=>(TL.run aj [1] Z Z (TL.nil (X.seq (T.seq (T.seq (T.region Z (TL.run aj [0] Z Z (TL.q Z .u (vr 0 Z xQ Z Z) Z ?_)))))))))))
 rcases jF h with⟨c4,h⟩ | ⟨c4,h⟩
 ·refine TL.run aj [2,3] Z Z ?_
  iterate 4 refine vv Z (.gn Z Z (xM c4)) Z ?_
  refine TL.q Z .u (vz Z (xM c4) Z) Z (TL.nil (X.seq (vw Z Z (T.seq (T.region Z (TL.run aj [0] Z Z ?_))))))
  obtain rfl:=xO h
  exact TL.nil (X.seq (T.ret (vx (vu [1] zy (vt Z) ⟨Z,Z,Z⟩ (by rfl) (.inl Z)))))
 ·refine TL.run aj [2,3] Z Z (TL.q Z (.g Z Z (xN c4)) (vA aj Z) Z (TL.q Z (.g Z Z (xN c4)) (vr 0 Z xQ Z Z) Z ?_))
  obtain⟨x5,hx6,h⟩:=xL h
  refine vL Z (.g Z Z (xN c4)) (.fn Tryz.call85 Z) (wa (fun w=>en a0.xx 4 _ hx6 w)) (fun _ _=>vy _ _) Z (TL.q Z (.g Z Z (xN c4)) (vA aj Z) Z (TL.q Z .u (vB Z (xN c4) Z) Z ?_))
  rcases jF h with⟨c7,h⟩ | ⟨c7,h⟩
  ·refine TL.nil (X.seq (vC Z (aw c7) (T.skip (X.seq (T.seq (T.seq (T.region Z (TL.run aj [0] Z Z (TL.q Z .u (vE (us := [.bool a0.xu.null,jS a0.xu.data]) 0 Z yD ye Z Z Z) Z (TL.run aj [2] Z Z (TL.q Z .u (vE (us := [.bool a0.xn.null,jS a0.xn.data]) 0 Z yD ye Z Z Z) Z ?_)))))))))))
   refine wG (cells:= #[.bool a0.xu.null,jS a0.xu.data,.bool a0.xn.null,jS a0.xn.data]) Z .u kK Z (by kernel_rfl) Z (fun b8=> ?_)
   refine wW (us := [.bool a0.xu.null,jS a0.xu.data,.bool a0.xn.null,jS a0.xn.data]) (xs := [a0.xu,a0.xn]) (E:=pk) (z:=2) Z (Nat.le_of_ble_eq_true Z) (fun _=>⟨Z,Z,⟨Z,Z,Z⟩⟩) ?_
   obtain⟨x9,hx10,h⟩:=xL h
   refine vL Z .u (.fn Tryz.call86 Z) (fd [a0.xu,a0.xn] _ _ _ hx10) (fun _ hs=>(wF 0 hs Z (fun w G h=>ba (by decide) w G h))) Z (TL.run aj [6] Z Z ?_)
   rcases jF h with⟨c11,h⟩ | ⟨c11,h⟩
   ·refine TL.nil (X.seq (vC Z (aw c11) (T.skip (X.seq (T.seq (T.seq (T.region Z (TL.run aj [0] Z Z (TL.q Z .u (vr 1 Z zb Z Z) Z (TL.q Z .u (vH Z yl) Z (TL.run aj [3] Z Z (TL.nil (X.seq (T.block ?_))))))))))))))
    obtain⟨E14,hE15,hO16⟩:=xL h
    have hk20len:=wd hX
    refine v9 (fun m e Rs=> ∃ (y12:Int) (k13:Nat),k13+m=a0.xp.length∧e = [(2,jI y12),(22,.slice A1 a0.xp.length c2),(23,jI (a0.xp.length:Int)),(24,jI (k13:Int))]∧Rs = [aF 66 2 pk (.slice (some ⟨b8,0,none⟩) 2 2) [a0.xu,a0.xn],aA b3 69 #[jI a0.xC,jI a0.xx,.bool a0.xu.null,jS a0.xu.data,.bool a0.xn.null,jS a0.xn.data,.slice A1 a0.xp.length c2],av]∧bN (a0.xp.drop k13) y12=some E14) (a0.xp.length) [0,0,0] ⟨0,0,by simp,Z,Z,by rw[List.drop_zero]; exact hE15⟩ (by rfl) (by rfl) ?_
    rintro m17 _ _ ⟨y12,k13,hk20,rfl,rfl,hl19⟩
    clear hE15 h
    cases m17 with
    | zero =>
     have h:=hl19
     clear hl19
     rw[List.drop_of_length_le (by omega),bN] at h
     have hk20ge: ¬ ((k13:Int)<(a0.xp.length:Int)):=by omega
     refine T.seq (T.region Z (TL.run aj [0] Z Z (TL.nil (X.seq (T.seq (vC Z (xN hk20ge) ?_))))))
     obtain rfl:=xO h
     replace h:=hO16
     clear hO16
     try dsimp only at h
     refine T.exit (vD (vD (v6 (X.seq (T.seq (T.region Z (TL.run aj [0] Z Z ?_)))))))
     obtain rfl:=xO h
     exact TL.nil (X.seq (T.ret (vu [2] zy (vt Z) ⟨Z,Z,Z⟩ (by rfl) (.inl Z))))
    | succ m17 =>
     have h:=hl19
     clear hl19
     obtain⟨x18,hxx18⟩: ∃ x,a0.xp[k13]? = some x:=⟨_,List.getElem?_eq_getElem (by omega)⟩
     rw[cm hxx18,bN] at h
     have hk20lt:(k13:Int)<(a0.xp.length:Int):=by omega
     refine T.seq (T.region Z (TL.run aj [0] Z Z (TL.nil (X.seq (T.seq (vw Z (xM hk20lt) ?_))))))
     obtain⟨gz21,oz21,rfl,z21cs,z21cl,z21cc,z21nf,z21r⟩:=vV (by decide) hX hxx18
     obtain⟨z21S,z21r,z21rr⟩:=z21r
     obtain rfl:z21cs = [jS x18.xu,.bool x18.xn.null,jS x18.xn.data]:=z21r
     refine T.skip (X.seq (T.seq (T.block (T.seq (T.region Z ?_)))))
     refine TL.q Z .u (vM (k:=k13) Z Z Z yl yB (xS hxx18).1) Z ?_
     refine TL.q Z .u (wj (us := [jS x18.xu,.bool x18.xn.null,jS x18.xn.data]) 0 Z zw yB z21nf z21cc Z Z Z) Z (TL.alloc Z .u Tryz.zeroValue71 Z (fun b22=>(vG (cs':= #[jS x18.xu,.bool x18.xn.null,jS x18.xn.data]) Z .u Z Z yB Z Z Z Z (TL.nil (X.seq (T.seq (T.region Z (TL.run aj [0] Z Z (TL.q Z .u (vE (us := [.bool x18.xn.null,jS x18.xn.data]) 0 Z yD ye Z Z Z) Z (wG (cells:= #[.bool x18.xn.null,jS x18.xn.data]) Z .u kJ Z (by rfl) Z (fun b23=>(wW (us := [.bool x18.xn.null,jS x18.xn.data]) (xs := [x18.xn]) (E:=pk) (z:=2) Z (Nat.le_of_ble_eq_true Z) (fun _=>⟨Z,Z,Z⟩) ?_))))))))))))
     obtain⟨x24,hx25,h⟩:=xL h
     refine vL Z .u (.fn Tryz.call86 Z) (fd [x18.xn] _ _ _ hx25) (fun _ hs=>(wF 0 hs Z (fun w G h=>ba (by decide) w G h))) Z (TL.run aj [4] Z Z ?_)
     rcases jF h with⟨c26,h⟩ | ⟨c26,h⟩
     ·exact TL.nil (X.seq (vC Z (aw c26) (T.skip (vF (X.seq (T.region Z (TL.q Z .u (Ex.add Z Z (by omega)) Z (TL.run aj [1] Z Z (TL.nil (X.back (m':=m17) [2,2,2] (by omega) ⟨y12,k13+1,by omega,Z,Z,h⟩ (by rfl) (by rfl)))))))))))
     ·replace c26:=xW c26
      refine TL.nil (X.seq (vw Z (aH c26) (T.seq (T.region Z (TL.run aj [0] Z Z ?_)))))
      obtain rfl:=xO h
      replace h:=hO16
      clear hO16
      try dsimp only at h
      obtain rfl:=xO h
      exact TL.nil (X.seq (T.ret (vJ (vx (vx (vJ (vx (vu [4] zy (vt Z) ⟨Z,Z,Z⟩ (by rfl) (.inl Z)))))))))
   ·replace c11:=xW c11
    refine TL.nil (X.seq (vw Z (aH c11) (T.seq (T.region Z (TL.run aj [0] Z Z ?_)))))
    obtain rfl:=xO h
    exact TL.nil (X.seq (T.ret (vx (vu [2] zy (vt Z) ⟨Z,Z,Z⟩ (by rfl) (.inl Z)))))
  ·replace c7:=xW c7
   refine TL.nil (X.seq (vw Z (aH c7) (T.seq (T.region Z (TL.run aj [0] Z Z ?_)))))
   obtain rfl:=xO h
   exact TL.nil (X.seq (T.ret (vx (vu [1] zy (vt Z) ⟨Z,Z,Z⟩ (by rfl) (.inl Z)))))
def dI (st:I)  : Option (Rec×I):=(ml st).bind fun (x2,st3)=>(jZ st3).bind fun (x5,st6)=>if x5=0 then ((oh x2).bind fun st9=>(eQ st9 1).bind fun (x12,st13)=>if x12=0 then ((fI st13).bind fun (x16,st17)=>(ib st17).bind fun (x19,st20)=>if x19<0 then ((bl st20 11).bind fun st24=>(bb st24).bind fun (x26,st27)=>(bb st27).bind fun (x29,st30)=>(aP st30).bind fun (x32,st35)=>(cI st35).bind fun (x37,st38)=>if x37=0 then (some ((⟨x16,x19,x26,x29,x32⟩:Rec),st6)) else ((bl st6 x37).bind fun st41=>some ((⟨0,0,(⟨false,[]⟩:Bl),(⟨false,[]⟩:Bl),[]⟩:Rec),st41))) else ((bb st20).bind fun (x43,st44)=>(bb st44).bind fun (x46,st47)=>(aP st47).bind fun (x49,st52)=>(cI st52).bind fun (x54,st55)=>if x54=0 then (some ((⟨x16,x19,x43,x46,x49⟩:Rec),st6)) else ((bl st6 x54).bind fun st58=>some ((⟨0,0,(⟨false,[]⟩:Bl),(⟨false,[]⟩:Bl),[]⟩:Rec),st58)))) else ((bl st13 8).bind fun st60=>(fI st60).bind fun (x62,st63)=>(ib st63).bind fun (x65,st66)=>if x65<0 then ((bl st66 11).bind fun st70=>(bb st70).bind fun (x72,st73)=>(bb st73).bind fun (x75,st76)=>(aP st76).bind fun (x78,st81)=>(cI st81).bind fun (x83,st84)=>if x83=0 then (some ((⟨x62,x65,x72,x75,x78⟩:Rec),st6)) else ((bl st6 x83).bind fun st87=>some ((⟨0,0,(⟨false,[]⟩:Bl),(⟨false,[]⟩:Bl),[]⟩:Rec),st87))) else ((bb st66).bind fun (x89,st90)=>(bb st90).bind fun (x92,st93)=>(aP st93).bind fun (x95,st98)=>(cI st98).bind fun (x100,st101)=>if x100=0 then (some ((⟨x62,x65,x89,x92,x95⟩:Rec),st6)) else ((bl st6 x100).bind fun st104=>some ((⟨0,0,(⟨false,[]⟩:Bl),(⟨false,[]⟩:Bl),[]⟩:Rec),st104))))) else (some ((⟨0,0,(⟨false,[]⟩:Bl),(⟨false,[]⟩:Bl),[]⟩:Rec),st6))
theorem jA (g:Nat) (st:I)  (r:Rec×I) (h:dI st  = some r):ar Tryz.prog 81 #[jP g] .triv (InR g st) (fun v A' N=> ∃ (A106:Option Addr) (c107:Nat),v= .agg #[jI r.1.xC,jI r.1.xx,.bool r.1.xu.null,jS r.1.xu.data,.bool r.1.xn.null,jS r.1.xn.data,.slice A106 r.1.xp.length c107]∧A'=InR g r.2∧N = [RdR (aq 3 bg) [.slice A106 r.1.xp.length c107] r.1.xp]):=by
 refine aJ Tryz.func81 Z Tryz.ntmps81 Z ?_
 intro F w hX
 unfold dI at h
 refine T.seq (T.region Z (TL.alloc Z .u Tryz.zeroValue69 Z (fun b1=>(TL.nil (X.seq (T.seq (T.region Z ?_)))))))
 obtain⟨⟨x2,st3⟩,hx4,h⟩:=xL h
 try dsimp only at h
 refine TL.run aj [0] Z Z (wc Z .u (.fn Tryz.call99 Z) (mn g st _ hx4) (fun _ hs=>(Src.triv _)) Z (TL.run aj [2] Z Z (TL.nil (X.seq (T.seq (T.seq (T.region Z ?_)))))))
 obtain⟨⟨x5,st6⟩,hx7,h⟩:=xL h
 try dsimp only at h
 refine TL.run aj [0] Z Z (wc Z .u (.fn Tryz.call23 Z) (dX g st3 _ hx7) (fun _ hs=>(Src.triv _)) Z (TL.run aj [2] Z Z ?_))
 rcases jF h with⟨c8,h⟩ | ⟨c8,h⟩
 ·refine TL.nil (X.seq (vC Z (aw (xM c8)) (T.skip (X.seq (T.seq (T.region Z ?_))))))
  obtain⟨st9,hx10,h⟩:=xL h
  refine TL.run aj [0] Z Z (wy Z .u (.fn Tryz.call21 Z) (fE x2 _ hx10) (fun _ hs=>(vy _ _)) Z ?_)
  rintro _ _ _ ⟨b11,rfl,rfl,rfl⟩
  refine vR [0,0,0] Z (TL.run aj [2] Z Z (TL.nil (X.seq (T.seq (T.seq (T.region Z ?_))))))
  obtain⟨⟨x12,st13⟩,hx14,h⟩:=xL h
  try dsimp only at h
  refine TL.run aj [0] Z Z (vX Z .u (.fn Tryz.call77 Z) (bJ b11 st9 1 _ hx14) (fun _ hs=>(Src.triv _)) Z (TL.run aj [2] Z Z ?_))
  rcases jF h with⟨c15,h⟩ | ⟨c15,h⟩
  ·refine TL.nil (X.seq (vC Z (aw (xM c15)) (T.skip (X.seq (T.seq (T.region Z ?_))))))
   obtain⟨⟨x16,st17⟩,hx18,h⟩:=xL h
   try dsimp only at h
   refine TL.run aj [0] Z Z (vX Z .u (.fn Tryz.call100 Z) (ll b11 st13 _ hx18) (fun _ hs=>(Src.triv _)) Z ?_)
   obtain⟨⟨x19,st20⟩,hx21,h⟩:=xL h
   try dsimp only at h
   refine TL.run aj [2] Z Z (vX Z .u (.fn Tryz.call101 Z) (jx b11 st17 _ hx21) (fun _ hs=>(Src.triv _)) Z ?_)
   refine TL.q Z .u (vT (cells:= #[jI x16,jI x19,.bool false,.string ⟨#[]⟩,.bool false,.string ⟨#[]⟩,.slice none 0 0]) dh Z (by kernel_rfl)) Z ?_
   refine TL.alloc Z .u Tryz.zeroValue69 Z (fun b22=>(vG (cs':= #[jI x16,jI x19,.bool false,.string ⟨#[]⟩,.bool false,.string ⟨#[]⟩,.slice none 0 0]) Z .u Z Z xX Z Z Z Z (TL.nil (X.seq (T.seq (T.seq (T.region Z (TL.run aj [0] Z Z (TL.q Z .u (vr 0 Z xQ Z Z) Z (TL.run aj [2] Z Z ?_))))))))))
   rcases jF h with⟨c23,h⟩ | ⟨c23,h⟩
   ·refine TL.nil (X.seq (vw Z (xM c23) (T.region Z ?_)))
    obtain⟨st24,hx25,h⟩:=xL h
    refine TL.run aj [0] Z Z (wc Z .u (.fn Tryz.call48 Z) (aZ b11 st20 11 _ hx25) (fun _ hs=>(Src.triv _)) Z (TL.nil (X.seq (T.seq (T.region Z ?_)))))
    obtain⟨⟨x26,st27⟩,hx28,h⟩:=xL h
    try dsimp only at h
    refine TL.run aj [0] Z Z (wc Z .u (.fn Tryz.call102 Z) (cy b11 st24 _ hx28) (fun _ hs=>(Src.triv _)) Z (TL.run aj [2] Z Z (vG (cs':= #[jI x16,jI x19,.bool x26.null,jS x26.data,.bool false,.string ⟨#[]⟩,.slice none 0 0]) Z .u Z Z ye Z Z Z Z (TL.nil (X.seq (T.seq (T.region Z ?_)))))))
    obtain⟨⟨x29,st30⟩,hx31,h⟩:=xL h
    try dsimp only at h
    refine TL.run aj [0] Z Z (wc Z .u (.fn Tryz.call102 Z) (cy b11 st27 _ hx31) (fun _ hs=>(Src.triv _)) Z (TL.run aj [2] Z Z (vG (cs':= #[jI x16,jI x19,.bool x26.null,jS x26.data,.bool x29.null,jS x29.data,.slice none 0 0]) Z .u Z Z ye Z Z Z Z (TL.nil (X.seq (T.seq (T.region Z ?_)))))))
    obtain⟨⟨x32,st35⟩,hx36,h⟩:=xL h
    try dsimp only at h
    refine TL.run aj [0] Z Z (TL.cg1 Z .u (.fn Tryz.call103 Z) (dv b11 st30 _ hx36) (fun _ hs=>(Src.triv _)) Z ?_)
    rintro _ _ _ ⟨A33,c34,rfl,rfl,rfl⟩
    refine vR [0,0,0,0,0] Z (TL.run aj [2] Z Z (xf (cs':= #[jI x16,jI x19,.bool x26.null,jS x26.data,.bool x29.null,jS x29.data,.slice A33 x32.length c34]) Z .u Z Z zc Z Z Z Z (TL.nil (X.seq (T.seq (T.seq (T.region Z ?_)))))))
    obtain⟨⟨x37,st38⟩,hx39,h⟩:=xL h
    try dsimp only at h
    refine TL.run aj [0] Z Z (wN Z .u (.fn Tryz.call104 Z) (cU b11 st35 _ hx39) (fun _ hs=>(Src.triv _)) Z (TL.run aj [2] Z Z (TL.nil (X.seq (T.seq (T.region Z (TL.run aj [0,1] Z Z ?_)))))))
    rcases jF h with⟨c40,h⟩ | ⟨c40,h⟩
    ·refine TL.nil (X.seq (vC Z (aw (xM c40)) (T.skip (X.seq (T.seq (T.region Z (TL.q Z .u (vE (us := [jI x16,jI x19,.bool x26.null,jS x26.data,.bool x29.null,jS x29.data,.slice A33 x32.length c34]) 1 Z yt xX Z Z Z) Z (ww (cs':= #[jI x16,jI x19,.bool x26.null,jS x26.data,.bool x29.null,jS x29.data,.slice A33 x32.length c34]) Z .u Z Z xX Z Z Z Z ?_))))))))
     obtain rfl:=xO h
     exact TL.nil (X.seq (T.ret (vu [4,0] yZ (wg (us:= #[jI x16,jI x19,.bool x26.null,jS x26.data,.bool x29.null,jS x29.data,.slice A33 x32.length c34]) 3 Z yt xX Z Z) ⟨_,_,Z,Z,Z⟩ (by rfl) (.inl Z))))
    ·refine TL.nil (X.seq (vw Z (aH (xN c40)) (T.seq (T.region Z ?_))))
     obtain⟨st41,hx42,h⟩:=xL h
     refine TL.run aj [0,1] Z Z (TL.c4 Z .u (.fn Tryz.call48 Z) (aZ g st6 x37 _ hx42) (fun _ hs=>(Src.triv _)) Z (TL.nil (X.seq (T.seq (T.region Z ?_)))))
     refine TL.q Z .u (vT (cells:= #[jI 0,jI 0,.bool false,.string ⟨#[]⟩,.bool false,.string ⟨#[]⟩,.slice none 0 0]) dh Z (by kernel_rfl)) Z ?_
     refine ww (cs':= #[jI 0,jI 0,.bool false,.string ⟨#[]⟩,.bool false,.string ⟨#[]⟩,.slice none 0 0]) Z .u Z Z xX Z Z Z Z ?_
     obtain rfl:=xO h
     exact TL.nil (X.seq (T.ret (vx (we 3 bg (vu [5,0] yZ (wg (us:= #[jI 0,jI 0,.bool false,.string ⟨#[]⟩,.bool false,.string ⟨#[]⟩,.slice none 0 0]) 4 Z yt xX Z Z) ⟨_,_,Z,Z,Z⟩ (by rfl) (.inl Z))))))
   ·refine TL.nil (X.seq (vC Z (xN c23) (T.skip (X.seq (T.seq (T.region Z ?_))))))
    obtain⟨⟨x43,st44⟩,hx45,h⟩:=xL h
    try dsimp only at h
    refine TL.run aj [0] Z Z (wc Z .u (.fn Tryz.call102 Z) (cy b11 st20 _ hx45) (fun _ hs=>(Src.triv _)) Z (TL.run aj [2] Z Z (vG (cs':= #[jI x16,jI x19,.bool x43.null,jS x43.data,.bool false,.string ⟨#[]⟩,.slice none 0 0]) Z .u Z Z ye Z Z Z Z (TL.nil (X.seq (T.seq (T.region Z ?_)))))))
    obtain⟨⟨x46,st47⟩,hx48,h⟩:=xL h
    try dsimp only at h
    refine TL.run aj [0] Z Z (wc Z .u (.fn Tryz.call102 Z) (cy b11 st44 _ hx48) (fun _ hs=>(Src.triv _)) Z (TL.run aj [2] Z Z (vG (cs':= #[jI x16,jI x19,.bool x43.null,jS x43.data,.bool x46.null,jS x46.data,.slice none 0 0]) Z .u Z Z ye Z Z Z Z (TL.nil (X.seq (T.seq (T.region Z ?_)))))))
    obtain⟨⟨x49,st52⟩,hx53,h⟩:=xL h
    try dsimp only at h
    refine TL.run aj [0] Z Z (TL.cg1 Z .u (.fn Tryz.call103 Z) (dv b11 st47 _ hx53) (fun _ hs=>(Src.triv _)) Z ?_)
    rintro _ _ _ ⟨A50,c51,rfl,rfl,rfl⟩
    refine vR [0,0,0,0,0] Z (TL.run aj [2] Z Z (xf (cs':= #[jI x16,jI x19,.bool x43.null,jS x43.data,.bool x46.null,jS x46.data,.slice A50 x49.length c51]) Z .u Z Z zc Z Z Z Z (TL.nil (X.seq (T.seq (T.seq (T.region Z ?_)))))))
    obtain⟨⟨x54,st55⟩,hx56,h⟩:=xL h
    try dsimp only at h
    refine TL.run aj [0] Z Z (wN Z .u (.fn Tryz.call104 Z) (cU b11 st52 _ hx56) (fun _ hs=>(Src.triv _)) Z (TL.run aj [2] Z Z (TL.nil (X.seq (T.seq (T.region Z (TL.run aj [0,1] Z Z ?_)))))))
    rcases jF h with⟨c57,h⟩ | ⟨c57,h⟩
    ·refine TL.nil (X.seq (vC Z (aw (xM c57)) (T.skip (X.seq (T.seq (T.region Z (TL.q Z .u (vE (us := [jI x16,jI x19,.bool x43.null,jS x43.data,.bool x46.null,jS x46.data,.slice A50 x49.length c51]) 1 Z yt xX Z Z Z) Z (ww (cs':= #[jI x16,jI x19,.bool x43.null,jS x43.data,.bool x46.null,jS x46.data,.slice A50 x49.length c51]) Z .u Z Z xX Z Z Z Z ?_))))))))
     obtain rfl:=xO h
     exact TL.nil (X.seq (T.ret (vu [4,0] yZ (wg (us:= #[jI x16,jI x19,.bool x43.null,jS x43.data,.bool x46.null,jS x46.data,.slice A50 x49.length c51]) 3 Z yt xX Z Z) ⟨_,_,Z,Z,Z⟩ (by rfl) (.inl Z))))
    ·refine TL.nil (X.seq (vw Z (aH (xN c57)) (T.seq (T.region Z ?_))))
     obtain⟨st58,hx59,h⟩:=xL h
     refine TL.run aj [0,1] Z Z (TL.c4 Z .u (.fn Tryz.call48 Z) (aZ g st6 x54 _ hx59) (fun _ hs=>(Src.triv _)) Z (TL.nil (X.seq (T.seq (T.region Z ?_)))))
     refine TL.q Z .u (vT (cells:= #[jI 0,jI 0,.bool false,.string ⟨#[]⟩,.bool false,.string ⟨#[]⟩,.slice none 0 0]) dh Z (by kernel_rfl)) Z ?_
     refine ww (cs':= #[jI 0,jI 0,.bool false,.string ⟨#[]⟩,.bool false,.string ⟨#[]⟩,.slice none 0 0]) Z .u Z Z xX Z Z Z Z ?_
     obtain rfl:=xO h
     exact TL.nil (X.seq (T.ret (vx (we 3 bg (vu [5,0] yZ (wg (us:= #[jI 0,jI 0,.bool false,.string ⟨#[]⟩,.bool false,.string ⟨#[]⟩,.slice none 0 0]) 4 Z yt xX Z Z) ⟨_,_,Z,Z,Z⟩ (by rfl) (.inl Z))))))
  ·refine TL.nil (X.seq (vw Z (aH (xN c15)) (T.region Z ?_)))
   obtain⟨st60,hx61,h⟩:=xL h
   refine TL.run aj [0] Z Z (vX Z .u (.fn Tryz.call48 Z) (aZ b11 st13 8 _ hx61) (fun _ hs=>(Src.triv _)) Z (TL.nil (X.seq (T.seq (T.region Z ?_)))))
   obtain⟨⟨x62,st63⟩,hx64,h⟩:=xL h
   try dsimp only at h
   refine TL.run aj [0] Z Z (vX Z .u (.fn Tryz.call100 Z) (ll b11 st60 _ hx64) (fun _ hs=>(Src.triv _)) Z ?_)
   obtain⟨⟨x65,st66⟩,hx67,h⟩:=xL h
   try dsimp only at h
   refine TL.run aj [2] Z Z (vX Z .u (.fn Tryz.call101 Z) (jx b11 st63 _ hx67) (fun _ hs=>(Src.triv _)) Z ?_)
   refine TL.q Z .u (vT (cells:= #[jI x62,jI x65,.bool false,.string ⟨#[]⟩,.bool false,.string ⟨#[]⟩,.slice none 0 0]) dh Z (by kernel_rfl)) Z ?_
   refine TL.alloc Z .u Tryz.zeroValue69 Z (fun b68=>(vG (cs':= #[jI x62,jI x65,.bool false,.string ⟨#[]⟩,.bool false,.string ⟨#[]⟩,.slice none 0 0]) Z .u Z Z xX Z Z Z Z (TL.nil (X.seq (T.seq (T.seq (T.region Z (TL.run aj [0] Z Z (TL.q Z .u (vr 0 Z xQ Z Z) Z (TL.run aj [2] Z Z ?_))))))))))
   rcases jF h with⟨c69,h⟩ | ⟨c69,h⟩
   ·refine TL.nil (X.seq (vw Z (xM c69) (T.region Z ?_)))
    obtain⟨st70,hx71,h⟩:=xL h
    refine TL.run aj [0] Z Z (wc Z .u (.fn Tryz.call48 Z) (aZ b11 st66 11 _ hx71) (fun _ hs=>(Src.triv _)) Z (TL.nil (X.seq (T.seq (T.region Z ?_)))))
    obtain⟨⟨x72,st73⟩,hx74,h⟩:=xL h
    try dsimp only at h
    refine TL.run aj [0] Z Z (wc Z .u (.fn Tryz.call102 Z) (cy b11 st70 _ hx74) (fun _ hs=>(Src.triv _)) Z (TL.run aj [2] Z Z (vG (cs':= #[jI x62,jI x65,.bool x72.null,jS x72.data,.bool false,.string ⟨#[]⟩,.slice none 0 0]) Z .u Z Z ye Z Z Z Z (TL.nil (X.seq (T.seq (T.region Z ?_)))))))
    obtain⟨⟨x75,st76⟩,hx77,h⟩:=xL h
    try dsimp only at h
    refine TL.run aj [0] Z Z (wc Z .u (.fn Tryz.call102 Z) (cy b11 st73 _ hx77) (fun _ hs=>(Src.triv _)) Z (TL.run aj [2] Z Z (vG (cs':= #[jI x62,jI x65,.bool x72.null,jS x72.data,.bool x75.null,jS x75.data,.slice none 0 0]) Z .u Z Z ye Z Z Z Z (TL.nil (X.seq (T.seq (T.region Z ?_)))))))
    obtain⟨⟨x78,st81⟩,hx82,h⟩:=xL h
    try dsimp only at h
    refine TL.run aj [0] Z Z (TL.cg1 Z .u (.fn Tryz.call103 Z) (dv b11 st76 _ hx82) (fun _ hs=>(Src.triv _)) Z ?_)
    rintro _ _ _ ⟨A79,c80,rfl,rfl,rfl⟩
    refine vR [0,0,0,0,0] Z (TL.run aj [2] Z Z (xf (cs':= #[jI x62,jI x65,.bool x72.null,jS x72.data,.bool x75.null,jS x75.data,.slice A79 x78.length c80]) Z .u Z Z zc Z Z Z Z (TL.nil (X.seq (T.seq (T.seq (T.region Z ?_)))))))
    obtain⟨⟨x83,st84⟩,hx85,h⟩:=xL h
    try dsimp only at h
    refine TL.run aj [0] Z Z (wN Z .u (.fn Tryz.call104 Z) (cU b11 st81 _ hx85) (fun _ hs=>(Src.triv _)) Z (TL.run aj [2] Z Z (TL.nil (X.seq (T.seq (T.region Z (TL.run aj [0,1] Z Z ?_)))))))
    rcases jF h with⟨c86,h⟩ | ⟨c86,h⟩
    ·refine TL.nil (X.seq (vC Z (aw (xM c86)) (T.skip (X.seq (T.seq (T.region Z (TL.q Z .u (vE (us := [jI x62,jI x65,.bool x72.null,jS x72.data,.bool x75.null,jS x75.data,.slice A79 x78.length c80]) 1 Z yt xX Z Z Z) Z (ww (cs':= #[jI x62,jI x65,.bool x72.null,jS x72.data,.bool x75.null,jS x75.data,.slice A79 x78.length c80]) Z .u Z Z xX Z Z Z Z ?_))))))))
     obtain rfl:=xO h
     exact TL.nil (X.seq (T.ret (vu [4,0] yZ (wg (us:= #[jI x62,jI x65,.bool x72.null,jS x72.data,.bool x75.null,jS x75.data,.slice A79 x78.length c80]) 3 Z yt xX Z Z) ⟨_,_,Z,Z,Z⟩ (by rfl) (.inl Z))))
    ·refine TL.nil (X.seq (vw Z (aH (xN c86)) (T.seq (T.region Z ?_))))
     obtain⟨st87,hx88,h⟩:=xL h
     refine TL.run aj [0,1] Z Z (TL.c4 Z .u (.fn Tryz.call48 Z) (aZ g st6 x83 _ hx88) (fun _ hs=>(Src.triv _)) Z (TL.nil (X.seq (T.seq (T.region Z ?_)))))
     refine TL.q Z .u (vT (cells:= #[jI 0,jI 0,.bool false,.string ⟨#[]⟩,.bool false,.string ⟨#[]⟩,.slice none 0 0]) dh Z (by kernel_rfl)) Z ?_
     refine ww (cs':= #[jI 0,jI 0,.bool false,.string ⟨#[]⟩,.bool false,.string ⟨#[]⟩,.slice none 0 0]) Z .u Z Z xX Z Z Z Z ?_
     obtain rfl:=xO h
     exact TL.nil (X.seq (T.ret (vx (we 3 bg (vu [5,0] yZ (wg (us:= #[jI 0,jI 0,.bool false,.string ⟨#[]⟩,.bool false,.string ⟨#[]⟩,.slice none 0 0]) 4 Z yt xX Z Z) ⟨_,_,Z,Z,Z⟩ (by rfl) (.inl Z))))))
   ·refine TL.nil (X.seq (vC Z (xN c69) (T.skip (X.seq (T.seq (T.region Z ?_))))))
    obtain⟨⟨x89,st90⟩,hx91,h⟩:=xL h
    try dsimp only at h
    refine TL.run aj [0] Z Z (wc Z .u (.fn Tryz.call102 Z) (cy b11 st66 _ hx91) (fun _ hs=>(Src.triv _)) Z (TL.run aj [2] Z Z (vG (cs':= #[jI x62,jI x65,.bool x89.null,jS x89.data,.bool false,.string ⟨#[]⟩,.slice none 0 0]) Z .u Z Z ye Z Z Z Z (TL.nil (X.seq (T.seq (T.region Z ?_)))))))
    obtain⟨⟨x92,st93⟩,hx94,h⟩:=xL h
    try dsimp only at h
    refine TL.run aj [0] Z Z (wc Z .u (.fn Tryz.call102 Z) (cy b11 st90 _ hx94) (fun _ hs=>(Src.triv _)) Z (TL.run aj [2] Z Z (vG (cs':= #[jI x62,jI x65,.bool x89.null,jS x89.data,.bool x92.null,jS x92.data,.slice none 0 0]) Z .u Z Z ye Z Z Z Z (TL.nil (X.seq (T.seq (T.region Z ?_)))))))
    obtain⟨⟨x95,st98⟩,hx99,h⟩:=xL h
    try dsimp only at h
    refine TL.run aj [0] Z Z (TL.cg1 Z .u (.fn Tryz.call103 Z) (dv b11 st93 _ hx99) (fun _ hs=>(Src.triv _)) Z ?_)
    rintro _ _ _ ⟨A96,c97,rfl,rfl,rfl⟩
    refine vR [0,0,0,0,0] Z (TL.run aj [2] Z Z (xf (cs':= #[jI x62,jI x65,.bool x89.null,jS x89.data,.bool x92.null,jS x92.data,.slice A96 x95.length c97]) Z .u Z Z zc Z Z Z Z (TL.nil (X.seq (T.seq (T.seq (T.region Z ?_)))))))
    obtain⟨⟨x100,st101⟩,hx102,h⟩:=xL h
    try dsimp only at h
    refine TL.run aj [0] Z Z (wN Z .u (.fn Tryz.call104 Z) (cU b11 st98 _ hx102) (fun _ hs=>(Src.triv _)) Z (TL.run aj [2] Z Z (TL.nil (X.seq (T.seq (T.region Z (TL.run aj [0,1] Z Z ?_)))))))
    rcases jF h with⟨c103,h⟩ | ⟨c103,h⟩
    ·refine TL.nil (X.seq (vC Z (aw (xM c103)) (T.skip (X.seq (T.seq (T.region Z (TL.q Z .u (vE (us := [jI x62,jI x65,.bool x89.null,jS x89.data,.bool x92.null,jS x92.data,.slice A96 x95.length c97]) 1 Z yt xX Z Z Z) Z (ww (cs':= #[jI x62,jI x65,.bool x89.null,jS x89.data,.bool x92.null,jS x92.data,.slice A96 x95.length c97]) Z .u Z Z xX Z Z Z Z ?_))))))))
     obtain rfl:=xO h
     exact TL.nil (X.seq (T.ret (vu [4,0] yZ (wg (us:= #[jI x62,jI x65,.bool x89.null,jS x89.data,.bool x92.null,jS x92.data,.slice A96 x95.length c97]) 3 Z yt xX Z Z) ⟨_,_,Z,Z,Z⟩ (by rfl) (.inl Z))))
    ·refine TL.nil (X.seq (vw Z (aH (xN c103)) (T.seq (T.region Z ?_))))
     obtain⟨st104,hx105,h⟩:=xL h
     refine TL.run aj [0,1] Z Z (TL.c4 Z .u (.fn Tryz.call48 Z) (aZ g st6 x100 _ hx105) (fun _ hs=>(Src.triv _)) Z (TL.nil (X.seq (T.seq (T.region Z ?_)))))
     refine TL.q Z .u (vT (cells:= #[jI 0,jI 0,.bool false,.string ⟨#[]⟩,.bool false,.string ⟨#[]⟩,.slice none 0 0]) dh Z (by kernel_rfl)) Z ?_
     refine ww (cs':= #[jI 0,jI 0,.bool false,.string ⟨#[]⟩,.bool false,.string ⟨#[]⟩,.slice none 0 0]) Z .u Z Z xX Z Z Z Z ?_
     obtain rfl:=xO h
     exact TL.nil (X.seq (T.ret (vx (we 3 bg (vu [5,0] yZ (wg (us:= #[jI 0,jI 0,.bool false,.string ⟨#[]⟩,.bool false,.string ⟨#[]⟩,.slice none 0 0]) 4 Z yt xX Z Z) ⟨_,_,Z,Z,Z⟩ (by rfl) (.inl Z))))))
 ·refine TL.nil (X.seq (vw Z (aH (xN c8)) (T.seq (T.region Z ?_))))
  refine TL.q Z .u (vT (cells:= #[jI 0,jI 0,.bool false,.string ⟨#[]⟩,.bool false,.string ⟨#[]⟩,.slice none 0 0]) dh Z (by kernel_rfl)) Z ?_
  refine vG (cs':= #[jI 0,jI 0,.bool false,.string ⟨#[]⟩,.bool false,.string ⟨#[]⟩,.slice none 0 0]) Z .u Z Z xX Z Z Z Z ?_
  obtain rfl:=xO h
  exact TL.nil (X.seq (T.ret (vx (we 3 bg (vu [2,0] yZ (wg (us:= #[jI 0,jI 0,.bool false,.string ⟨#[]⟩,.bool false,.string ⟨#[]⟩,.slice none 0 0]) 1 Z yt xX Z Z) ⟨_,_,Z,Z,Z⟩ (by rfl) (.inl Z))))))
def gt (a0:Rec):Option (List UInt8×Int):=(qI ([],0) 0).bind fun st5=>(mh st5 a0.xC).bind fun st7=>(lO st7 a0.xx).bind fun st9=>(fJ st9 a0.xu).bind fun st11=>(fJ st11 a0.xn).bind fun st13=>(fK st13 a0.xp).bind fun st15=>(iq st15).bind fun (x17,x18,st19)=>some (x17,x18)
theorem jB (a0:Rec) (A1:Option Addr) (c2:Nat) (r:List UInt8×Int) (h:gt a0=some r):ar Tryz.prog 67 #[.agg #[jI a0.xC,jI a0.xx,.bool a0.xu.null,jS a0.xu.data,.bool a0.xn.null,jS a0.xn.data,.slice A1 a0.xp.length c2]] (RX.of (aq 3 bg) [.slice A1 a0.xp.length c2] a0.xp) (av) (fun v A' N=>v= .tuple #[jS r.1,jI r.2]∧A'=av∧N = []):=by
 refine aJ Tryz.func67 Z Tryz.ntmps67 Z ?_
 intro F w hX
 unfold gt at h
 refine T.seq (T.region Z (TL.box Z .u Z Z (fun b3=>(TL.run aj [1,2] Z Z (TL.nil (X.seq (T.seq (T.region Z (xh Z .u Tryz.zeroValue84 Z (fun b4=> ?_))))))))))
 obtain⟨st5,hx6,h⟩:=xL h
 refine TL.nil (X.seq (T.seq (T.region Z (vX Z .u (.fn Tryz.call89 Z) (pt b4 ([],0) 0 _ hx6) (fun _ hs=>(Src.triv _)) Z (TL.nil (X.seq (T.seq (T.region Z (TL.run aj [0] Z Z (TL.q Z .u (vr 1 Z xQ Z Z) Z ?_))))))))))
 obtain⟨st7,hx8,h⟩:=xL h
 refine vX Z .u (.fn Tryz.call90 Z) (m0 b4 st5 a0.xC _ hx8) (fun _ hs=>(Src.triv _)) Z (TL.nil (X.seq (T.seq (T.region Z (TL.run aj [0] Z Z (TL.q Z .u (vr 1 Z xQ Z Z) Z ?_))))))
 obtain⟨st9,hx10,h⟩:=xL h
 refine vX Z .u (.fn Tryz.call91 Z) (j0 b4 st7 a0.xx _ hx10) (fun _ hs=>(Src.triv _)) Z (TL.nil (X.seq (T.seq (T.region Z (TL.run aj [0] Z Z (TL.q Z .u (vE (us := [.bool a0.xu.null,jS a0.xu.data]) 1 Z yD ye Z Z Z) Z ?_))))))
 obtain⟨st11,hx12,h⟩:=xL h
 refine vX Z .u (.fn Tryz.call92 Z) (fq b4 st9 a0.xu _ hx12) (fun _ hs=>(Src.triv _)) Z (TL.nil (X.seq (T.seq (T.region Z (TL.run aj [0] Z Z (TL.q Z .u (vE (us := [.bool a0.xn.null,jS a0.xn.data]) 1 Z yD ye Z Z Z) Z ?_))))))
 obtain⟨st13,hx14,h⟩:=xL h
 refine vX Z .u (.fn Tryz.call92 Z) (fq b4 st11 a0.xn _ hx14) (fun _ hs=>(Src.triv _)) Z (TL.nil (X.seq (T.seq (T.region Z (TL.run aj [0] Z Z (TL.q Z .u (vr 1 Z zb Z Z) Z ?_))))))
 obtain⟨st15,hx16,h⟩:=xL h
 refine vX Z .u (.fn Tryz.call93 Z) (iX b4 st13 a0.xp _ _ _ hx16) (fun _ hs=>(Src.old hs hX)) Z ?_
 obtain⟨⟨x17,x18,st19⟩,hx20,h⟩:=xL h
 try dsimp only at h
 refine TL.nil (X.seq (T.seq (T.region Z (vX Z .u (.fn Tryz.call35 Z) (fa b4 st15 _ hx20) (fun _ hs=>(Src.triv _)) Z (TL.run aj [1,2,3,4] Z Z ?_)))))
 obtain rfl:=xO h
 exact TL.nil (X.seq (T.ret (vO [2] Tryz.results67 (vt Z) (vt Z) ⟨Z,Z,Z⟩ (by rfl) (.inl Z))))
def fL (st:List UInt8×Int) (a1:Rec):Option (List UInt8×Int):=(cJ a1).bind fun x4=>if x4=0 then ((gt a1).bind fun (x7,x8)=>if x8=0 then ((j7 st x7).bind fun st11=>some st11) else ((jv st x8).bind fun st13=>some st13)) else ((jv st x4).bind fun st15=>some st15)
theorem iY (g:Nat) (st:List UInt8×Int) (a1:Rec) (A1:Option Addr) (c2:Nat) (r:List UInt8×Int) (h:fL st a1=some r):ar Tryz.prog 34 #[jP g,.agg #[jI a1.xC,jI a1.xx,.bool a1.xu.null,jS a1.xu.data,.bool a1.xn.null,jS a1.xn.data,.slice A1 a1.xp.length c2]] (RX.of (aq 3 bg) [.slice A1 a1.xp.length c2] a1.xp) (aU g st) (fun v A' N=>v= .tuple #[]∧A'=aU g r∧N = []):=by
 refine aJ Tryz.func34 Z Tryz.ntmps34 Z ?_
 intro F w hX
 unfold fL at h
 refine T.seq (T.region Z (TL.box Z .u Z Z (fun b3=>(TL.nil (X.seq (T.seq (T.seq (T.region Z (TL.q Z .u (vE (us := [jI a1.xC,jI a1.xx,.bool a1.xu.null,jS a1.xu.data,.bool a1.xn.null,jS a1.xn.data,.slice A1 a1.xp.length c2]) 0 Z yt xX Z Z Z) Z ?_)))))))))
 obtain⟨x4,hx5,h⟩:=xL h
 refine vL Z .u (.fn Tryz.call63 Z) (d9 a1 _ _ _ hx5) (fun _ hs=>(vK hs hX)) Z (TL.run aj [2] Z Z (TL.nil (X.seq (T.seq (T.region Z (TL.run aj [0,1] Z Z ?_))))))
 rcases jF h with⟨c6,h⟩ | ⟨c6,h⟩
 ·refine TL.nil (X.seq (vC Z (aw (xM c6)) (T.skip (X.seq (T.seq (T.region Z (TL.q Z .u (vE (us := [jI a1.xC,jI a1.xx,.bool a1.xu.null,jS a1.xu.data,.bool a1.xn.null,jS a1.xn.data,.slice A1 a1.xp.length c2]) 0 Z yt xX Z Z Z) Z ?_)))))))
  obtain⟨⟨x7,x8⟩,hx9,h⟩:=xL h
  try dsimp only at h
  refine vL Z .u (.fn Tryz.call67 Z) (jB a1 _ _ _ hx9) (fun _ hs=>(vK hs hX)) Z (TL.run aj [2,3,4,5,6] Z Z (TL.nil (X.seq (T.seq (T.seq (T.region Z (TL.run aj [0,1] Z Z ?_)))))))
  rcases jF h with⟨c10,h⟩ | ⟨c10,h⟩
  ·refine TL.nil (X.seq (vC Z (aw (xM c10)) (T.skip (X.seq (T.region Z ?_)))))
   obtain⟨st11,hx12,h⟩:=xL h
   refine TL.run aj [0,1] Z Z (wc Z .u (.fn Tryz.call68 Z) (jg g st x7 _ hx12) (fun _ hs=>(Src.triv _)) Z ?_)
   obtain rfl:=xO h
   exact TL.nil (wV [1] Tryz.results34 ⟨Z,Z,Z⟩ (by rfl) (.inr Z))
  ·refine TL.nil (X.seq (vw Z (aH (xN c10)) (T.seq (T.region Z ?_))))
   obtain⟨st13,hx14,h⟩:=xL h
   refine TL.run aj [0,1] Z Z (wc Z .u (.fn Tryz.call66 Z) (ip g st x8 _ hx14) (fun _ hs=>(Src.triv _)) Z ?_)
   obtain rfl:=xO h
   exact TL.nil (X.seq (T.ret (vx (wV [1] Tryz.results34 ⟨Z,Z,Z⟩ (by rfl) (.inl Z)))))
 ·refine TL.nil (X.seq (vw Z (aH (xN c6)) (T.seq (T.region Z ?_))))
  obtain⟨st15,hx16,h⟩:=xL h
  refine TL.run aj [0,1] Z Z (wc Z .u (.fn Tryz.call66 Z) (ip g st x4 _ hx16) (fun _ hs=>(Src.triv _)) Z ?_)
  obtain rfl:=xO h
  exact TL.nil (X.seq (T.ret (vx (wV [1] Tryz.results34 ⟨Z,Z,Z⟩ (by rfl) (.inl Z)))))
def kL:dY := [(66,0,0),(66,1,1),(71,0,0),(71,1,1),(136,0,0),(136,1,2),(136,2,3)]
theorem al:(kL).OK Tryz.prog:=⟨FOK.mk yJ rfl yN rfl,FOK.mk yJ rfl yL rfl,FOK.mk yR rfl yL rfl,FOK.mk yR rfl ye rfl,FOK.mk y8 rfl ye rfl,FOK.mk y8 rfl xU rfl,FOK.mk y8 rfl xU rfl,trivial⟩
theorem gh:Tryz.prog.follows .mixedOrders=true:=by kernel_rfl
theorem cN:fc Tryz.prog 3 71 [.string,.bool,.string] true:=(fc.struct zw yB rfl Tryz.underlying71 Tryz.stoodInHeld71 ⟨by decide,rfl,[.string],[.bool,.string],false,rfl,((wz yM yL Tryz.underlying9).mono (by decide)),⟨by decide,rfl,[.bool,.string],[],true,rfl,(fc.struct yD ye rfl Tryz.underlying66 Tryz.stoodInHeld66 ⟨by decide,rfl,[.bool],[.string],false,rfl,(wz yo yN Tryz.underlying4),⟨by decide,rfl,[.string],[],false,rfl,(wz yM yL Tryz.underlying9),rfl⟩⟩),rfl⟩⟩)
theorem iw:BOK Tryz.prog 66 #[.bool false,.string ⟨#[]⟩] [(0,1),(1,1)]:=BOK.mk Tryz.zeroValue66 yJ (by intro w; simp)
def bO (a0:List Hd):Nat→Bool→Nat→Option (Lp Bool (Bool×Nat))
 | 0,_,_=>none
 | m8+1,y3,k4=>if (k4:Int)<(a0.length:Int) then ((a0[k4]?).bind fun x13=>if x13.xn.null=true then (if x13.xn.data = [] then (if -9223372036854775808≤((k4:Int)+1)∧((k4:Int)+1)≤9223372036854775807 then (bO a0 m8 y3 (k4+1)) else none) else some (Lp.ret false)) else (if -9223372036854775808≤((k4:Int)+1)∧((k4:Int)+1)≤9223372036854775807 then (bO a0 m8 y3 (k4+1)) else none)) else (some (Lp.go (y3,k4)))
def fe (a0:List Hd):Option (Bool):=(bO a0 (((a0.length:Int)).toNat+1) false 0).bind fun e=>match e with | .ret r=>some r | .go (y20,k21)=>some true
theorem kM (a0:List Hd) (A1:Option Addr) (c2:Nat) (r:Bool) (h:fe a0=some r):ar Tryz.prog 51 #[.slice A1 a0.length c2] (RX.of (aq 3 bg) [.slice A1 a0.length c2] a0) (av) (fun v A' N=>v= .bool r∧A'=av∧N = []):=by
 refine aJ Tryz.func51 Z Tryz.ntmps51 Z ?_
 intro F w hX
 unfold fe at h
 refine T.seq (T.region Z (TL.run al [0] Z Z (TL.nil (X.seq (T.seq (T.seq (T.region Z (TL.run al [0] Z Z (TL.nil (X.seq (T.block ?_)))))))))))
 obtain⟨E5,hE6,hO7⟩:=xL h
 refine v9 (fun m e Rs=> ∃ (y3:Bool) (k4:Nat),e = [(0,.slice A1 a0.length c2),(2,.bool y3),(3,jI (k4:Int))]∧Rs = [av]∧bO a0 m y3 k4=some E5) (((a0.length:Int)).toNat+1) [0] ⟨false,0,Z,Z,by exact hE6⟩ (by rfl) (by rfl) ?_
 rintro m8 _ _ ⟨y3,k4,rfl,rfl,hl10⟩
 clear hE6 h
 cases m8 with
 | zero =>
  rw[bO] at hl10
  cases hl10
 | succ m8 =>
  have h:=hl10
  clear hl10
  rw[bO] at h
  refine T.seq (T.seq (T.region Z (TL.run al [0,1] Z Z (TL.q Z .u (vH Z yl) Z (TL.run al [3] Z Z ?_)))))
  rcases jF h with⟨c12,h⟩ | ⟨c12,h⟩
  ·refine TL.nil (X.seq (vw Z (xM c12) (T.skip (X.seq (T.seq (T.block (T.seq (T.region Z ?_))))))))
   obtain⟨x13,hx14,h⟩:=xL h
   obtain⟨gz15,oz15,rfl,z15cs,z15cl,z15cc,z15nf,z15r⟩:=vV (by decide) hX hx14
   obtain⟨z15S,z15r,z15rr⟩:=z15r
   obtain rfl:z15cs = [jS x13.xu,.bool x13.xn.null,jS x13.xn.data]:=z15r
   refine TL.run al [0,1] Z Z ?_
   refine TL.q Z .u (vM (k:=k4) Z Z Z yl yB (xS hx14).1) Z ?_
   refine TL.run al [3,4] Z Z (TL.q Z .u (wM 1 Z yo z15nf z15cc Z Z) Z ?_)
   rcases jF h with⟨c16,h⟩ | ⟨c16,h⟩
   ·refine TL.run al [6] Z Z ?_
    iterate 2 refine TL.q Z (.g Z Z c16) (vA al Z) Z ?_
    refine TL.q Z (.g Z Z c16) (vM (k:=k4) Z Z Z yl yB (xS hx14).1) Z ?_
    iterate 2 refine TL.q Z (.g Z Z c16) (vA al Z) Z ?_
    refine TL.q Z (.g Z Z c16) (wM 2 Z yM z15nf z15cc Z Z) Z (TL.q Z (.g Z Z c16) (Ex.sNe Z (m := []) Z) Z (TL.q Z .u (vz Z c16 Z) Z ?_))
    rcases jF h with⟨c17,h⟩ | ⟨c17,h⟩
    ·refine TL.nil (X.seq (vC Z (aw (xM c17)) (T.skip (vF (X.seq (T.region Z ?_))))))
     replace h:=ak h
     obtain⟨c18,h⟩:=h
     exact TL.run al [0] Z Z (TL.q Z .u (Ex.add Z Z c18) Z (TL.run al [2] Z Z (TL.nil (X.back (m':=m8) [0] (by omega) ⟨y3,k4+1,Z,Z,h⟩ (by rfl) (by rfl)))))
    ·refine TL.nil (X.seq (vw Z (aH (xN c17)) (T.seq (T.region Z (TL.run al [0] Z Z ?_)))))
     obtain rfl:=xO h
     replace h:=hO7
     clear hO7
     try dsimp only at h
     obtain rfl:=xO h
     exact TL.nil (X.seq (T.ret (vJ (vx (vx (vJ (vx (vu [0] Tryz.results51 (vt Z) ⟨Z,Z,Z⟩ (by rfl) (.inl Z)))))))))
   ·replace c16:=xW c16
    refine TL.run al [6] Z Z ?_
    iterate 7 refine vv Z (.gn Z Z c16) Z ?_
    refine TL.q Z .u (vB Z c16 Z) Z (TL.nil (X.seq (vC Z Z (T.skip (vF (X.seq (T.region Z ?_)))))))
    replace h:=ak h
    obtain⟨c19,h⟩:=h
    exact TL.run al [0] Z Z (TL.q Z .u (Ex.add Z Z c19) Z (TL.run al [2] Z Z (TL.nil (X.back (m':=m8) [0] (by omega) ⟨y3,k4+1,Z,Z,h⟩ (by rfl) (by rfl)))))
  ·refine TL.nil (X.seq (vC Z (xN c12) ?_))
   obtain rfl:=xO h
   replace h:=hO7
   clear hO7
   try dsimp only at h
   refine T.exit (vD (vD (v6 (X.seq (T.seq (T.region Z (TL.run al [0] Z Z ?_)))))))
   obtain rfl:=xO h
   exact TL.nil (X.seq (T.ret (vu [0] Tryz.results51 (vt Z) ⟨Z,Z,Z⟩ (by rfl) (.inl Z))))
def cB (a0:List Hd) (a1:List Hd):Nat→Bool→Nat→Option (Lp Bool (Bool×Nat))
 | 0,_,_=>none
 | m11+1,y6,k7=>if (k7:Int)<(a0.length:Int) then ((a0[k7]?).bind fun x16=>(a1[k7]?).bind fun x19=>if x16.xu=x19.xu then (if x16.xn.null=x19.xn.null then (if x16.xn.data=x19.xn.data then (if -9223372036854775808≤((k7:Int)+1)∧((k7:Int)+1)≤9223372036854775807 then (cB a0 a1 m11 y6 (k7+1)) else none) else some (Lp.ret false)) else some (Lp.ret false)) else some (Lp.ret false)) else (some (Lp.go (y6,k7)))
def fM (a0:List Hd) (a1:List Hd):Option (Bool):=if (a0.length:Int)=(a1.length:Int) then ((cB a0 a1 (((a0.length:Int)).toNat+1) false 0).bind fun e=>match e with | .ret r=>some r | .go (y26,k27)=>some true) else some false
theorem lG (a0:List Hd) (A1:Option Addr) (c2:Nat) (a1:List Hd) (A3:Option Addr) (c4:Nat) (r:Bool) (h:fM a0 a1=some r):ar Tryz.prog 76 #[.slice A1 a0.length c2,.slice A3 a1.length c4] (RX.and (RX.of (aq 3 bg) [.slice A1 a0.length c2] a0) (RX.of (aq 3 bg) [.slice A3 a1.length c4] a1)) (av) (fun v A' N=>v= .bool r∧A'=av∧N = []):=by
 refine aJ Tryz.func76 Z Tryz.ntmps76 Z ?_
 intro F w hX
 unfold fM at h
 refine T.seq (T.region Z (TL.run al [0] Z Z (TL.nil (X.seq (T.seq (T.seq (T.region Z (TL.run al [0] Z Z (TL.q Z .u (vH Z yl) Z (TL.run al [2] Z Z (TL.q Z .u (vH Z yl) Z (TL.run al [4] Z Z ?_))))))))))))
 rcases jF h with⟨c5,h⟩ | ⟨c5,h⟩
 ·refine TL.nil (X.seq (vC Z (aw (xM c5)) (T.skip (X.seq (T.seq (T.seq (T.region Z (TL.run al [0] Z Z (TL.nil (X.seq (T.block ?_)))))))))))
  obtain⟨E8,hE9,hO10⟩:=xL h
  refine v9 (fun m e Rs=> ∃ (y6:Bool) (k7:Nat),e = [(0,.slice A1 a0.length c2),(1,.slice A3 a1.length c4),(4,.bool y6),(5,jI (k7:Int))]∧Rs = [av]∧cB a0 a1 m y6 k7=some E8) (((a0.length:Int)).toNat+1) [0] ⟨false,0,Z,Z,by exact hE9⟩ (by rfl) (by rfl) ?_
  rintro m11 _ _ ⟨y6,k7,rfl,rfl,hl13⟩
  clear hE9 h
  cases m11 with
  | zero =>
   rw[cB] at hl13
   cases hl13
  | succ m11 =>
   have h:=hl13
   clear hl13
   rw[cB] at h
   refine T.seq (T.seq (T.region Z (TL.run al [0,1] Z Z (TL.q Z .u (vH Z yl) Z (TL.run al [3] Z Z ?_)))))
   rcases jF h with⟨c15,h⟩ | ⟨c15,h⟩
   ·refine TL.nil (X.seq (vw Z (xM c15) ?_))
    refine T.skip (X.seq (T.seq (T.block (T.seq (vQ (.q 0 (.q 1 (.q 2 (.q 3 (.q 4 (.q 5 (.q 6 (.q 7 (.q 8 .nil))))))))) [0] Z gh (NoP.seq (NoP.blk (NoP.seq (NoP.seq (NoP.blk (NoP.seq aO)))))) (by kernel_rfl) ?_)))))
    obtain⟨x16,hx17,h⟩:=xL h
    obtain⟨gz18,oz18,rfl,z18cs,z18cl,z18cc,z18nf,z18r⟩:=vV (by decide) (wi hX) hx17
    obtain⟨z18S,z18r,z18rr⟩:=z18r
    obtain rfl:z18cs = [jS x16.xu,.bool x16.xn.null,jS x16.xn.data]:=z18r
    refine TD.run al [0,1] Z Z ?_
    refine TD.q Z .u (vM (k:=k7) Z Z Z yl yB (xS hx17).1) Z ?_
    refine TD.q Z .u (wj (us := [jS x16.xu,.bool x16.xn.null,jS x16.xn.data]) 0 Z zw yB z18nf z18cc Z Z Z) Z ?_
    obtain⟨x19,hx20,h⟩:=xL h
    obtain⟨gz21,oz21,rfl,z21cs,z21cl,z21cc,z21nf,z21r⟩:=vV (by decide) (wv hX) hx20
    obtain⟨z21S,z21r,z21rr⟩:=z21r
    obtain rfl:z21cs = [jS x19.xu,.bool x19.xn.null,jS x19.xn.data]:=z21r
    refine TD.run al [4,5] Z Z ?_
    refine TD.q Z .u (vM (k:=k7) Z Z Z yl yB (xS hx20).1) Z ?_
    refine TD.q Z .u (wj (us := [jS x19.xu,.bool x19.xn.null,jS x19.xn.data]) 0 Z zw yB z21nf z21cc Z Z Z) Z ?_
    rcases jF h with⟨c22,h⟩ | ⟨c22,h⟩
    ·rcases jF h with⟨c23,h⟩ | ⟨c23,h⟩
     ·rcases jF h with⟨c24,h⟩ | ⟨c24,h⟩
      ·refine TD.q Z .u (Ex.aNe (us := [jS x16.xu,.bool x16.xn.null,jS x16.xn.data]) (vs := [jS x19.xu,.bool x19.xn.null,jS x19.xn.data]) cN Z zx Z Z Z Z (dL (nE (l:=x16.xu) (m:=x19.xu) c22) (dL (nD c23) (dL (nE (l:=x16.xn.data) (m:=x19.xn.data) c24) Z)))) Z (TD.nil (X.seq (vC Z Z (T.skip (vF (X.seq (T.region Z ?_)))))))
       replace h:=ak h
       obtain⟨c25,h⟩:=h
       exact TL.run al [0] Z Z (TL.q Z .u (Ex.add Z Z c25) Z (TL.run al [2] Z Z (TL.nil (X.back (m':=m11) [0] (by omega) ⟨y6,k7+1,Z,Z,h⟩ (by rfl) (by rfl)))))
      ·refine TD.q Z .u (Ex.aNe (us := [jS x16.xu,.bool x16.xn.null,jS x16.xn.data]) (vs := [jS x19.xu,.bool x19.xn.null,jS x19.xn.data]) cN Z zx Z Z Z Z (dL (nE (l:=x16.xu) (m:=x19.xu) c22) (dL (nD c23) (gC (ow (l:=x16.xn.data) (m:=x19.xn.data) c24))))) Z (TD.nil (X.seq (vw Z Z (T.seq (T.region Z (TL.run al [0] Z Z ?_))))))
       obtain rfl:=xO h
       replace h:=hO10
       clear hO10
       try dsimp only at h
       obtain rfl:=xO h
       exact TL.nil (X.seq (T.ret (vJ (vx (vx (vJ (vx (vu [0] zz (vt Z) ⟨Z,Z,Z⟩ (by rfl) (.inl Z)))))))))
     ·refine TD.q Z .u (Ex.aNe (us := [jS x16.xu,.bool x16.xn.null,jS x16.xn.data]) (vs := [jS x19.xu,.bool x19.xn.null,jS x19.xn.data]) cN Z zx Z Z Z Z (dL (nE (l:=x16.xu) (m:=x19.xu) c22) (gC (qN c23)))) Z (TD.nil (X.seq (vw Z Z (T.seq (T.region Z (TL.run al [0] Z Z ?_))))))
      obtain rfl:=xO h
      replace h:=hO10
      clear hO10
      try dsimp only at h
      obtain rfl:=xO h
      exact TL.nil (X.seq (T.ret (vJ (vx (vx (vJ (vx (vu [0] zz (vt Z) ⟨Z,Z,Z⟩ (by rfl) (.inl Z)))))))))
    ·refine TD.q Z .u (Ex.aNe (us := [jS x16.xu,.bool x16.xn.null,jS x16.xn.data]) (vs := [jS x19.xu,.bool x19.xn.null,jS x19.xn.data]) cN Z zx Z Z Z Z (gC (ow (l:=x16.xu) (m:=x19.xu) c22))) Z (TD.nil (X.seq (vw Z Z (T.seq (T.region Z (TL.run al [0] Z Z ?_))))))
     obtain rfl:=xO h
     replace h:=hO10
     clear hO10
     try dsimp only at h
     obtain rfl:=xO h
     exact TL.nil (X.seq (T.ret (vJ (vx (vx (vJ (vx (vu [0] zz (vt Z) ⟨Z,Z,Z⟩ (by rfl) (.inl Z)))))))))
   ·refine TL.nil (X.seq (vC Z (xN c15) ?_))
    obtain rfl:=xO h
    replace h:=hO10
    clear hO10
    try dsimp only at h
    refine T.exit (vD (vD (v6 (X.seq (T.seq (T.region Z (TL.run al [0] Z Z ?_)))))))
    obtain rfl:=xO h
    exact TL.nil (X.seq (T.ret (vu [0] zz (vt Z) ⟨Z,Z,Z⟩ (by rfl) (.inl Z))))
 ·refine TL.nil (X.seq (vw Z (aH (xN c5)) (T.seq (T.region Z (TL.run al [0] Z Z ?_)))))
  obtain rfl:=xO h
  exact TL.nil (X.seq (T.ret (vx (vu [0] zz (vt Z) ⟨Z,Z,Z⟩ (by rfl) (.inl Z)))))
def ey (a0:Int):Option (List UInt8):=(ol a0).bind fun x1=>(rF x1).bind fun x3=>some x3
theorem cK (a0:Int) (r:List UInt8) (h:ey a0=some r):ar Tryz.prog 55 #[jI a0] .triv (av) (fun v A' N=>v=jS r∧A'=av∧N = []):=by
 refine aJ Tryz.func55 Z Tryz.ntmps55 Z ?_
 intro F w hX
 unfold ey at h
 refine T.seq (T.region Z (TL.run al [0] Z Z (TL.nil (X.seq (T.seq (T.region Z ?_))))))
 obtain⟨x1,hx2,h⟩:=xL h
 refine TL.run al [0] Z Z (vL Z .u (.fn Tryz.call83 Z) (wa (fun w=>pu a0 _ hx2 w)) (fun _ _=>vy _ _) Z ?_)
 obtain⟨x3,hx4,h⟩:=xL h
 refine vL Z .u (.fn Tryz.call82 Z) (qK x1 _ hx4) (fun _ hs=>(vy _ _)) Z (TL.run al [3] Z Z ?_)
 obtain rfl:=xO h
 exact TL.nil (X.seq (T.ret (vu [0] Tryz.results55 (vt Z) ⟨Z,Z,Z⟩ (by rfl) (.inl Z))))
def cg (a0:List Hd):Nat→List UInt8→Nat→Option (List UInt8×Nat)
 | 0,_,_=>none
 | m10+1,y5,k6=>if (k6:Int)<(a0.length:Int) then ((a0[k6]?).bind fun x15=>(eX (⟨false,x15.xu⟩:Bl)).bind fun x18=>if y5.length+x18.length≤9223372036854775807 then ((eX x15.xn).bind fun x21=>if (y5++x18).length+x21.length≤9223372036854775807 then (if -9223372036854775808≤((k6:Int)+1)∧((k6:Int)+1)≤9223372036854775807 then (cg a0 m10 ((y5++x18)++x21) (k6+1)) else none) else none) else none) else some (y5,k6)
def ff (a0:List Hd):Option (List UInt8):=(ey (a0.length:Int)).bind fun x3=>(cg a0 (((a0.length:Int)).toNat+1) x3 0).bind fun (y25,k26)=>some y25
theorem cE (a0:List Hd) (A1:Option Addr) (c2:Nat) (r:List UInt8) (h:ff a0=some r):ar Tryz.prog 57 #[.slice A1 a0.length c2] (RX.of (aq 3 bg) [.slice A1 a0.length c2] a0) (av) (fun v A' N=>v=jS r∧A'=av∧N = []):=by
 refine aJ Tryz.func57 Z Tryz.ntmps57 Z ?_
 intro F w hX
 unfold ff at h
 refine T.seq (T.region Z (TL.run al [0] Z Z (TL.nil (X.seq (T.seq (T.region Z (TL.run al [0] Z Z (TL.q Z .u (vH Z yl) Z ?_))))))))
 obtain⟨x3,hx4,h⟩:=xL h
 refine vL Z .u (.fn Tryz.call55 Z) (cK (a0.length:Int) _ hx4) (fun _ hs=>(vy _ _)) Z (TL.run al [3] Z Z (TL.nil (X.seq (T.seq (T.seq (T.region Z (TL.run al [0] Z Z (TL.nil (X.seq (T.block ?_))))))))))
 obtain⟨E7,hE8,hO9⟩:=xL h
 refine v9 (fun m e Rs=> ∃ (y5:List UInt8) (k6:Nat),e = [(0,.slice A1 a0.length c2),(2,.string ⟨#[]⟩),(3,jS y5),(4,jI (k6:Int))]∧Rs = [av]∧cg a0 m y5 k6=some E7) (((a0.length:Int)).toNat+1) [0] ⟨x3,0,Z,Z,by exact hE8⟩ (by rfl) (by rfl) ?_
 rintro m10 _ _ ⟨y5,k6,rfl,rfl,hl12⟩
 clear hE8 h
 cases m10 with
 | zero =>
  rw[cg] at hl12
  cases hl12
 | succ m10 =>
  have h:=hl12
  clear hl12
  rw[cg] at h
  refine T.seq (T.seq (T.region Z (TL.run al [0,1] Z Z (TL.q Z .u (vH Z yl) Z (TL.run al [3] Z Z ?_)))))
  rcases jF h with⟨c14,h⟩ | ⟨c14,h⟩
  ·refine TL.nil (X.seq (vw Z (xM c14) ?_))
   refine T.skip (X.seq (T.seq (T.block (vQ (.q 0 (.q 1 (.q 2 (.q 3 (.q 4 (.q 5 (.q 6 (.q 9 (.q 10 (.q 11 (.q 12 (.q 13 (.e 7 (.q 8 (.e 14 (.q 15 (.q 16 .nil))))))))))))))))) [0] Z gh (NoP.blk (NoP.seq (NoP.seq (NoP.blk (NoP.seq aO))))) (by kernel_rfl) ?_))))
   obtain⟨x15,hx16,h⟩:=xL h
   obtain⟨gz17,oz17,rfl,z17cs,z17cl,z17cc,z17nf,z17r⟩:=vV (by decide) hX hx16
   obtain⟨z17S,z17r,z17rr⟩:=z17r
   obtain rfl:z17cs = [jS x15.xu,.bool x15.xn.null,jS x15.xn.data]:=z17r
   refine TD.run al [0,1,2] Z Z ?_
   refine TD.q Z .u (vM (k:=k6) Z Z Z yl yB (xS hx16).1) Z ?_
   refine TD.run al [4] Z Z (TD.q Z .u (wM 0 Z yM z17nf z17cc Z Z) Z ?_)
   refine TD.q Z .u (vT (cells:= #[.bool false,jS x15.xu]) iw Z (by kernel_rfl)) Z ?_
   refine TD.run al [9,10] Z Z ?_
   refine TD.q Z .u (vM (k:=k6) Z Z Z yl yB (xS hx16).1) Z ?_
   refine TD.run al [12] Z Z (TD.q Z .u (wj (us := [.bool x15.xn.null,jS x15.xn.data]) 1 Z yD ye z17nf z17cc Z Z Z) Z ?_)
   obtain⟨x18,hx19,h⟩:=xL h
   refine vY Z .u (.fn Tryz.call56 Z) (bh (⟨false,x15.xu⟩:Bl) _ hx19) (fun _ hs=>(vy _ _)) Z [0] (Z) ?_
   replace h:=ak h
   obtain⟨c20,h⟩:=h
   refine TD.q Z .u (vP Z Z c20) Z ?_
   obtain⟨x21,hx22,h⟩:=xL h
   refine vY Z .u (.fn Tryz.call56 Z) (bh x15.xn _ hx22) (fun _ hs=>(vy _ _)) Z [0] (Z) ?_
   replace h:=ak h
   obtain⟨c23,h⟩:=h
   refine TD.q Z .u (vP Z Z c23) Z (TD.run al [16] Z Z (TD.nil (vF (X.seq (T.region Z ?_)))))
   replace h:=ak h
   obtain⟨c24,h⟩:=h
   exact TL.run al [0] Z Z (TL.q Z .u (Ex.add Z Z c24) Z (TL.run al [2] Z Z (TL.nil (X.back (m':=m10) [0] (by omega) ⟨((y5++x18)++x21),k6+1,Z,Z,h⟩ (by rfl) (by rfl)))))
  ·refine TL.nil (X.seq (vC Z (xN c14) ?_))
   obtain rfl:=xO h
   replace h:=hO9
   clear hO9
   try dsimp only at h
   refine T.exit (vD (vD (v6 (X.seq (T.seq (T.region Z (TL.run al [0,1] Z Z ?_)))))))
   obtain rfl:=xO h
   exact TL.nil (X.seq (T.ret (vu [0] Tryz.results57 (vt Z) ⟨Z,Z,Z⟩ (by rfl) (.inl Z))))
def kN:dY := [(66,0,0),(66,1,1),(69,0,0),(69,1,1),(69,2,2),(69,3,4),(69,4,6),(99,1,7),(136,0,0),(136,1,2),(136,2,3)]
theorem ae:(kN).OK Tryz.prog:=⟨FOK.mk yJ rfl yN rfl,FOK.mk yJ rfl yL rfl,FOK.mk yh rfl xU rfl,FOK.mk yh rfl xU rfl,FOK.mk yh rfl ye rfl,FOK.mk yh rfl ye rfl,FOK.mk yh rfl zc rfl,FOK.mk zq rfl xU rfl,FOK.mk y8 rfl ye rfl,FOK.mk y8 rfl xU rfl,FOK.mk y8 rfl xU rfl,trivial⟩
theorem ka:Tryz.prog.follows .mixedOrders=true:=by kernel_rfl
theorem bA:fc Tryz.prog 2 66 [.bool,.string] true:=(fc.struct yD ye rfl Tryz.underlying66 Tryz.stoodInHeld66 ⟨by decide,rfl,[.bool],[.string],false,rfl,(wz yo yN Tryz.underlying4),⟨by decide,rfl,[.string],[],false,rfl,(wz yM yL Tryz.underlying9),rfl⟩⟩)
theorem bn:SOK Tryz.prog 22 5 1 1 #[.int .u8 0]:=SOK.mk yc yH Tryz.zeroValue5 (by decide) (by kernel_rfl)
def fF (a0:Bl):Option (Bool):=if a0.null=true then (if a0.data = [] then some false else some true) else some false
theorem iy (a0:Bl) (r:Bool) (h:fF a0=some r):ar Tryz.prog 50 #[.agg #[.bool a0.null,jS a0.data]] .triv (av) (fun v A' N=>v= .bool r∧A'=av∧N = []):=by
 refine aJ Tryz.func50 Z Tryz.ntmps50 Z ?_
 intro F w hX
 unfold fF at h
 refine T.seq (T.region Z (TL.box Z .u Z Z (fun b1=>(TL.run ae [1] Z Z (TL.nil (X.seq (T.seq (T.region Z (TL.run ae [0] Z Z (TL.q Z .u (vr 0 Z yo Z Z) Z ?_))))))))))
 rcases jF h with⟨c2,h⟩ | ⟨c2,h⟩
 ·refine TL.run ae [2] Z Z (TL.q Z (.g Z Z c2) (vA ae Z) Z (TL.q Z (.g Z Z c2) (vr 0 Z yM Z Z) Z (TL.q Z (.g Z Z c2) (Ex.sNe Z (m := []) Z) Z (TL.q Z .u (vz Z c2 Z) Z (TL.run ae [7] Z Z ?_)))))
  rcases jF h with⟨c3,h⟩ | ⟨c3,h⟩
  ·obtain rfl:=xO h
   exact TL.nil (X.seq (T.ret (vu [1] Tryz.results50 (vt (v:= .bool false) (congrArg (fun b=>some (Value.bool b)) (aw (xM c3)))) ⟨Z,Z,Z⟩ (by rfl) (.inl Z))))
  ·obtain rfl:=xO h
   exact TL.nil (X.seq (T.ret (vu [1] Tryz.results50 (vt (v:= .bool true) (congrArg (fun b=>some (Value.bool b)) (aH (xN c3)))) ⟨Z,Z,Z⟩ (by rfl) (.inl Z))))
 ·replace c2:=xW c2
  refine TL.run ae [2] Z Z ?_
  iterate 3 refine vv Z (.gn Z Z c2) Z ?_
  refine TL.q Z .u (vB Z c2 Z) Z (TL.run ae [7] Z Z ?_)
  obtain rfl:=xO h
  exact TL.nil (X.seq (T.ret (vu [1] Tryz.results50 (vt Z) ⟨Z,Z,Z⟩ (by rfl) (.inl Z))))
def ez (a0:Rec):Option (Int):=if a0.xx<0 then some 11 else (if a0.xx>2147483647 then some 11 else ((fF a0.xu).bind fun x6=>if x6=true then some 4 else ((fF a0.xn).bind fun x9=>if x9=true then some 4 else ((fe a0.xp).bind fun x12=>if x12=true then some 0 else some 4))))
theorem gE (a0:Rec) (A1:Option Addr) (c2:Nat) (r:Int) (h:ez a0=some r):ar Tryz.prog 26 #[.agg #[jI a0.xC,jI a0.xx,.bool a0.xu.null,jS a0.xu.data,.bool a0.xn.null,jS a0.xn.data,.slice A1 a0.xp.length c2]] (RX.of (aq 3 bg) [.slice A1 a0.xp.length c2] a0.xp) (av) (fun v A' N=>v=jI r∧A'=av∧N = []):=by
 refine aJ Tryz.func26 Z Tryz.ntmps26 Z ?_
 intro F w hX
 unfold ez at h
 refine T.seq (T.region Z (TL.box Z .u Z Z (fun b3=>(TL.run ae [1] Z Z (TL.nil (X.seq (T.seq (T.seq (T.region Z (TL.run ae [0] Z Z (TL.q Z .u (vr 0 Z xQ Z Z) Z ?_)))))))))))
 rcases jF h with⟨c4,h⟩ | ⟨c4,h⟩
 ·refine TL.run ae [2,3] Z Z ?_
  iterate 3 refine vv Z (.gn Z Z (xM c4)) Z ?_
  refine TL.q Z .u (vz Z (xM c4) Z) Z (TL.nil (X.seq (vw Z Z (T.seq (T.region Z (TL.run ae [0] Z Z ?_))))))
  obtain rfl:=xO h
  exact TL.nil (X.seq (T.ret (vx (vu [1] zl (vt Z) ⟨Z,Z,Z⟩ (by rfl) (.inl Z)))))
 ·refine TL.run ae [2,3] Z Z (TL.q Z (.g Z Z (xN c4)) (vA ae Z) Z (TL.q Z (.g Z Z (xN c4)) (vr 0 Z xQ Z Z) Z (TL.q Z (.g Z Z (xN c4)) (vA ae Z) Z (TL.q Z .u (vB Z (xN c4) Z) Z ?_))))
  rcases jF h with⟨c5,h⟩ | ⟨c5,h⟩
  ·refine TL.nil (X.seq (vw Z (xM c5) (T.seq (T.region Z (TL.run ae [0] Z Z ?_)))))
   obtain rfl:=xO h
   exact TL.nil (X.seq (T.ret (vx (vu [1] zl (vt Z) ⟨Z,Z,Z⟩ (by rfl) (.inl Z)))))
  ·refine TL.nil (X.seq (vC Z (xN c5) (T.skip (X.seq (T.seq (T.seq (T.region Z (TL.run ae [0] Z Z (TL.q Z .u (vE (us := [.bool a0.xu.null,jS a0.xu.data]) 0 Z yD ye Z Z Z) Z ?_)))))))))
   obtain⟨x6,hx7,h⟩:=xL h
   refine vL Z .u (.fn Tryz.call50 Z) (iy a0.xu _ hx7) (fun _ hs=>(vy _ _)) Z ?_
   rcases jF h with⟨c8,h⟩ | ⟨c8,h⟩
   ·refine TL.run ae [3] Z Z ?_
    iterate 3 refine vv Z (.gn Z Z c8) Z ?_
    refine TL.q Z .u (vz Z c8 Z) Z (TL.run ae [8] Z Z ?_)
    iterate 4 refine vv Z (.gn Z Z Z) Z ?_
    refine TL.q Z .u (vz Z Z Z) Z (TL.nil (X.seq (vw Z Z (T.seq (T.region Z (TL.run ae [0] Z Z ?_))))))
    obtain rfl:=xO h
    exact TL.nil (X.seq (T.ret (vx (vu [1] zl (vt Z) ⟨Z,Z,Z⟩ (by rfl) (.inl Z)))))
   ·replace c8:=xW c8
    refine TL.run ae [3] Z Z (TL.q Z (.g Z Z c8) (vA ae Z) Z (TL.q Z (.g Z Z c8) (vE (us := [.bool a0.xn.null,jS a0.xn.data]) 0 Z yD ye Z Z Z) Z ?_))
    obtain⟨x9,hx10,h⟩:=xL h
    refine vL Z (.g Z Z c8) (.fn Tryz.call50 Z) (iy a0.xn _ hx10) (fun _ hs=>(vy _ _)) Z (TL.q Z .u (vB Z c8 Z) Z ?_)
    rcases jF h with⟨c11,h⟩ | ⟨c11,h⟩
    ·refine TL.run ae [8] Z Z ?_
     iterate 4 refine vv Z (.gn Z Z c11) Z ?_
     refine TL.q Z .u (vz Z c11 Z) Z (TL.nil (X.seq (vw Z Z (T.seq (T.region Z (TL.run ae [0] Z Z ?_))))))
     obtain rfl:=xO h
     exact TL.nil (X.seq (T.ret (vx (vu [1] zl (vt Z) ⟨Z,Z,Z⟩ (by rfl) (.inl Z)))))
    ·replace c11:=xW c11
     refine TL.run ae [8] Z Z (TL.q Z (.g Z Z c11) (vA ae Z) Z (TL.q Z (.g Z Z c11) (vr 0 Z zb Z Z) Z ?_))
     obtain⟨x12,hx13,h⟩:=xL h
     refine vL Z (.g Z Z c11) (.fn Tryz.call51 Z) (kM a0.xp _ _ _ hx13) (fun _ hs=>(vK hs hX)) Z (TL.q Z (.g Z Z c11) (vA ae Z) Z (TL.q Z .u (vB Z c11 Z) Z ?_))
     rcases jF h with⟨c14,h⟩ | ⟨c14,h⟩
     ·refine TL.nil (X.seq (vC Z (aw c14) (T.skip (X.seq (T.seq (T.region Z (TL.run ae [0] Z Z ?_)))))))
      obtain rfl:=xO h
      exact TL.nil (X.seq (T.ret (vu [1] zl (vt Z) ⟨Z,Z,Z⟩ (by rfl) (.inl Z))))
     ·replace c14:=xW c14
      refine TL.nil (X.seq (vw Z (aH c14) (T.seq (T.region Z (TL.run ae [0] Z Z ?_)))))
      obtain rfl:=xO h
      exact TL.nil (X.seq (T.ret (vx (vu [1] zl (vt Z) ⟨Z,Z,Z⟩ (by rfl) (.inl Z)))))
def fN (a0:Rec) (a1:Rec):Option (Bool):=if a0.xC=a1.xC then (if a0.xx=a1.xx then (if a0.xu.null=a1.xu.null then (if a0.xu.data=a1.xu.data then (if a0.xn.null=a1.xn.null then (if a0.xn.data=a1.xn.data then ((fM a0.xp a1.xp).bind fun x13=>some x13) else some false) else some false) else some false) else some false) else some false) else some false
theorem lH (a0:Rec) (A1:Option Addr) (c2:Nat) (a1:Rec) (A3:Option Addr) (c4:Nat) (r:Bool) (h:fN a0 a1=some r):ar Tryz.prog 45 #[.agg #[jI a0.xC,jI a0.xx,.bool a0.xu.null,jS a0.xu.data,.bool a0.xn.null,jS a0.xn.data,.slice A1 a0.xp.length c2],.agg #[jI a1.xC,jI a1.xx,.bool a1.xu.null,jS a1.xu.data,.bool a1.xn.null,jS a1.xn.data,.slice A3 a1.xp.length c4]] (RX.and (RX.of (aq 3 bg) [.slice A1 a0.xp.length c2] a0.xp) (RX.of (aq 3 bg) [.slice A3 a1.xp.length c4] a1.xp)) (av) (fun v A' N=>v= .bool r∧A'=av∧N = []):=by
 refine aJ Tryz.func45 Z Tryz.ntmps45 Z ?_
 intro F w hX
 unfold fN at h
 refine T.seq (T.region Z (TL.box Z .u Z Z (fun b5=>(TL.box Z .u Z Z (fun b6=>(TL.run ae [2] Z Z (TL.nil (X.seq (T.seq (T.region Z (TL.run ae [0] Z Z (TL.q Z .u (vr 1 Z xQ Z Z) Z (TL.run ae [2] Z Z ?_)))))))))))))
 refine TL.q Z .u (vr 0 Z xQ Z Z) Z ?_
 rcases jF h with⟨c7,h⟩ | ⟨c7,h⟩
 ·refine TL.run ae [4,5] Z Z (TL.q Z (.g Z Z (xM c7)) (vA ae Z) Z (TL.q Z (.g Z Z (xM c7)) (vr 1 Z xQ Z Z) Z (TL.q Z (.g Z Z (xM c7)) (vA ae Z) Z (TL.q Z (.g Z Z (xM c7)) (vr 0 Z xQ Z Z) Z (TL.q Z (.g Z Z (xM c7)) (vA ae Z) Z (TL.q Z .u (vz Z (xM c7) Z) Z ?_))))))
  rcases jF h with⟨c8,h⟩ | ⟨c8,h⟩
  ·refine TL.run ae [12] Z Z (TL.q Z (.g Z Z (xM c8)) (vA ae Z) Z (TL.q Z (.g Z Z (xM c8)) (vE (us := [.bool a0.xu.null,jS a0.xu.data]) 1 Z yD ye Z Z Z) Z (TL.q Z (.g Z Z (xM c8)) (vA ae Z) Z (TL.q Z (.g Z Z (xM c8)) (vE (us := [.bool a1.xu.null,jS a1.xu.data]) 0 Z yD ye Z Z Z) Z ?_))))
   rcases jF h with⟨c9,h⟩ | ⟨c9,h⟩
   ·rcases jF h with⟨c10,h⟩ | ⟨c10,h⟩
    ·refine TL.q Z (.g Z Z (xM c8)) (ws (us := [.bool a0.xu.null,jS a0.xu.data]) (vs := [.bool a1.xu.null,jS a1.xu.data]) bA Z ze Z Z Z Z (dL (nD c9) (dL (nE (l:=a0.xu.data) (m:=a1.xu.data) c10) Z))) Z (TL.q Z .u (vz Z (xM c8) Z) Z (TL.run ae [19] Z Z (TL.q Z (.g Z Z Z) (vA ae Z) Z (TL.q Z (.g Z Z Z) (vE (us := [.bool a0.xn.null,jS a0.xn.data]) 1 Z yD ye Z Z Z) Z (TL.q Z (.g Z Z Z) (vA ae Z) Z (TL.q Z (.g Z Z Z) (vE (us := [.bool a1.xn.null,jS a1.xn.data]) 0 Z yD ye Z Z Z) Z ?_))))))
     rcases jF h with⟨c11,h⟩ | ⟨c11,h⟩
     ·rcases jF h with⟨c12,h⟩ | ⟨c12,h⟩
      ·refine TL.q Z (.g Z Z Z) (ws (us := [.bool a0.xn.null,jS a0.xn.data]) (vs := [.bool a1.xn.null,jS a1.xn.data]) bA Z ze Z Z Z Z (dL (nD c11) (dL (nE (l:=a0.xn.data) (m:=a1.xn.data) c12) Z))) Z (TL.q Z .u (vz Z Z Z) Z (TL.run ae [26] Z Z (TL.q Z (.g Z Z Z) (vA ae Z) Z (TL.q Z (.g Z Z Z) (vr 1 Z zb Z Z) Z (TL.q Z (.g Z Z Z) (vA ae Z) Z (TL.q Z (.g Z Z Z) (vr 0 Z zb Z Z) Z ?_))))))
       obtain⟨x13,hx14,h⟩:=xL h
       refine vL Z (.g Z Z Z) (.fn Tryz.call76 Z) (lG a0.xp _ _ a1.xp _ _ _ hx14) (fun _ hs=>(RX.reads_and (vK hs (wi hX)) (vK hs (wv hX)))) Z (TL.q Z .u (vz Z Z Z) Z (TL.run ae [33] Z Z ?_))
       obtain rfl:=xO h
       exact TL.nil (X.seq (T.ret (vu [2] zg (vt Z) ⟨Z,Z,Z⟩ (by rfl) (.inl Z))))
      ·refine TL.q Z (.g Z Z Z) (ws (us := [.bool a0.xn.null,jS a0.xn.data]) (vs := [.bool a1.xn.null,jS a1.xn.data]) bA Z ze Z Z Z Z (dL (nD c11) (gC (ow (l:=a0.xn.data) (m:=a1.xn.data) c12)))) Z (TL.q Z .u (vz Z Z Z) Z (TL.run ae [26] Z Z ?_))
       iterate 5 refine vv Z (.gn Z Z Z) Z ?_
       refine TL.q Z .u (vB Z Z Z) Z (TL.run ae [33] Z Z ?_)
       obtain rfl:=xO h
       exact TL.nil (X.seq (T.ret (vu [2] zg (vt Z) ⟨Z,Z,Z⟩ (by rfl) (.inl Z))))
     ·refine TL.q Z (.g Z Z Z) (ws (us := [.bool a0.xn.null,jS a0.xn.data]) (vs := [.bool a1.xn.null,jS a1.xn.data]) bA Z ze Z Z Z Z (gC (qN c11))) Z (TL.q Z .u (vz Z Z Z) Z (TL.run ae [26] Z Z ?_))
      iterate 5 refine vv Z (.gn Z Z Z) Z ?_
      refine TL.q Z .u (vB Z Z Z) Z (TL.run ae [33] Z Z ?_)
      obtain rfl:=xO h
      exact TL.nil (X.seq (T.ret (vu [2] zg (vt Z) ⟨Z,Z,Z⟩ (by rfl) (.inl Z))))
    ·refine TL.q Z (.g Z Z (xM c8)) (ws (us := [.bool a0.xu.null,jS a0.xu.data]) (vs := [.bool a1.xu.null,jS a1.xu.data]) bA Z ze Z Z Z Z (dL (nD c9) (gC (ow (l:=a0.xu.data) (m:=a1.xu.data) c10)))) Z (TL.q Z .u (vz Z (xM c8) Z) Z (TL.run ae [19] Z Z ?_))
     iterate 5 refine vv Z (.gn Z Z Z) Z ?_
     refine TL.q Z .u (vB Z Z Z) Z (TL.run ae [26] Z Z ?_)
     iterate 5 refine vv Z (.gn Z Z Z) Z ?_
     refine TL.q Z .u (vB Z Z Z) Z (TL.run ae [33] Z Z ?_)
     obtain rfl:=xO h
     exact TL.nil (X.seq (T.ret (vu [2] zg (vt Z) ⟨Z,Z,Z⟩ (by rfl) (.inl Z))))
   ·refine TL.q Z (.g Z Z (xM c8)) (ws (us := [.bool a0.xu.null,jS a0.xu.data]) (vs := [.bool a1.xu.null,jS a1.xu.data]) bA Z ze Z Z Z Z (gC (qN c9))) Z (TL.q Z .u (vz Z (xM c8) Z) Z (TL.run ae [19] Z Z ?_))
    iterate 5 refine vv Z (.gn Z Z Z) Z ?_
    refine TL.q Z .u (vB Z Z Z) Z (TL.run ae [26] Z Z ?_)
    iterate 5 refine vv Z (.gn Z Z Z) Z ?_
    refine TL.q Z .u (vB Z Z Z) Z (TL.run ae [33] Z Z ?_)
    obtain rfl:=xO h
    exact TL.nil (X.seq (T.ret (vu [2] zg (vt Z) ⟨Z,Z,Z⟩ (by rfl) (.inl Z))))
  ·refine TL.run ae [12] Z Z ?_
   iterate 5 refine vv Z (.gn Z Z (xN c8)) Z ?_
   refine TL.q Z .u (vB Z (xN c8) Z) Z (TL.run ae [19] Z Z ?_)
   iterate 5 refine vv Z (.gn Z Z Z) Z ?_
   refine TL.q Z .u (vB Z Z Z) Z (TL.run ae [26] Z Z ?_)
   iterate 5 refine vv Z (.gn Z Z Z) Z ?_
   refine TL.q Z .u (vB Z Z Z) Z (TL.run ae [33] Z Z ?_)
   obtain rfl:=xO h
   exact TL.nil (X.seq (T.ret (vu [2] zg (vt Z) ⟨Z,Z,Z⟩ (by rfl) (.inl Z))))
 ·refine TL.run ae [4,5] Z Z ?_
  iterate 5 refine vv Z (.gn Z Z (xN c7)) Z ?_
  refine TL.q Z .u (vB Z (xN c7) Z) Z (TL.run ae [12] Z Z ?_)
  iterate 5 refine vv Z (.gn Z Z Z) Z ?_
  refine TL.q Z .u (vB Z Z Z) Z (TL.run ae [19] Z Z ?_)
  iterate 5 refine vv Z (.gn Z Z Z) Z ?_
  refine TL.q Z .u (vB Z Z Z) Z (TL.run ae [26] Z Z ?_)
  iterate 5 refine vv Z (.gn Z Z Z) Z ?_
  refine TL.q Z .u (vB Z Z Z) Z (TL.run ae [33] Z Z ?_)
  obtain rfl:=xO h
  exact TL.nil (X.seq (T.ret (vu [2] zg (vt Z) ⟨Z,Z,Z⟩ (by rfl) (.inl Z))))
def fg (a0:Rec):Option (List UInt8):=(ey a0.xC).bind fun x5=>if (eG [0]).length+x5.length≤9223372036854775807 then ((ey a0.xx).bind fun x8=>if ((eG [0])++x5).length+x8.length≤9223372036854775807 then ((eX a0.xu).bind fun x11=>if (((eG [0])++x5)++x8).length+x11.length≤9223372036854775807 then ((eX a0.xn).bind fun x14=>if ((((eG [0])++x5)++x8)++x11).length+x14.length≤9223372036854775807 then ((ff a0.xp).bind fun x17=>if (((((eG [0])++x5)++x8)++x11)++x14).length+x17.length≤9223372036854775807 then ((ey (((((((eG [0])++x5)++x8)++x11)++x14)++x17).length:Int)).bind fun x20=>if x20.length+((((((eG [0])++x5)++x8)++x11)++x14)++x17).length≤9223372036854775807 then (some (x20++((((((eG [0])++x5)++x8)++x11)++x14)++x17))) else none) else none) else none) else none) else none) else none
theorem kO (a0:Rec) (A1:Option Addr) (c2:Nat) (r:List UInt8) (h:fg a0=some r):ar Tryz.prog 29 #[.agg #[jI a0.xC,jI a0.xx,.bool a0.xu.null,jS a0.xu.data,.bool a0.xn.null,jS a0.xn.data,.slice A1 a0.xp.length c2]] (RX.of (aq 3 bg) [.slice A1 a0.xp.length c2] a0.xp) (av) (fun v A' N=>v=jS r∧A'=av∧N = []):=by
 refine aJ Tryz.func29 Z Tryz.ntmps29 Z ?_
 intro F w hX
 unfold fg at h
 refine T.seq (T.region Z (TL.box Z .u Z Z (fun b3=>(TL.run ae [1] Z Z ?_))))
 obtain⟨x5,hx6,h⟩:=xL h
 replace h:=ak h
 obtain⟨c7,h⟩:=h
 obtain⟨x8,hx9,h⟩:=xL h
 replace h:=ak h
 obtain⟨c10,h⟩:=h
 obtain⟨x11,hx12,h⟩:=xL h
 replace h:=ak h
 obtain⟨c13,h⟩:=h
 obtain⟨x14,hx15,h⟩:=xL h
 replace h:=ak h
 obtain⟨c16,h⟩:=h
 obtain⟨x17,hx18,h⟩:=xL h
 replace h:=ak h
 obtain⟨c19,h⟩:=h
 refine TL.nil (X.seq (T.seq ?_))
 refine T.join (fun e Rs=> ∃ (b4:Nat),e = [(0,.agg #[jI a0.xC,jI a0.xx,.bool a0.xu.null,jS a0.xu.data,.bool a0.xn.null,jS a0.xn.data,.slice A1 a0.xp.length c2]),(2,.string ⟨#[]⟩),(3,.string (aC ((((((eG [0])++x5)++x8)++x11)++x14)++x17)))]∧Rs = [aA b4 5 #[.int .u8 0],aA b3 69 #[jI a0.xC,jI a0.xx,.bool a0.xu.null,jS a0.xu.data,.bool a0.xn.null,jS a0.xn.data,.slice A1 a0.xp.length c2],av]) ?_ ?_
 ·refine vQ (.q 2 (.q 3 (.q 6 (.q 7 (.q 10 (.q 11 (.q 14 (.q 15 (.q 18 (.q 19 (.br 0 (.q 1 (.e 4 (.q 5 (.e 8 (.q 9 (.e 12 (.q 13 (.e 16 (.q 17 (.e 20 (.q 21 (.q 22 .nil)))))))))))) (.e 4 (.br 0 (.q 1 (.q 5 (.e 8 (.q 9 (.e 12 (.q 13 (.e 16 (.q 17 (.e 20 (.q 21 (.q 22 .nil))))))))))) (.e 8 (.br 0 (.q 1 (.q 5 (.q 9 (.e 12 (.q 13 (.e 16 (.q 17 (.e 20 (.q 21 (.q 22 .nil)))))))))) (.e 12 (.br 0 (.q 1 (.q 5 (.q 9 (.q 13 (.e 16 (.q 17 (.e 20 (.q 21 (.q 22 .nil))))))))) (.e 16 (.br 0 (.q 1 (.q 5 (.q 9 (.q 13 (.q 17 (.e 20 (.q 21 (.q 22 .nil)))))))) (.e 20 (.e 0 (.q 1 (.q 5 (.q 9 (.q 13 (.q 17 (.q 21 (.q 22 .nil)))))))))))))))))))))))))))) [0,0] Z ka nB (by kernel_rfl) ?_
  refine TD.run ae [2] Z Z (TD.q Z .u (vr 0 Z xQ Z Z) Z (TD.run ae [6] Z Z (TD.q Z .u (vr 0 Z xQ Z Z) Z (TD.run ae [10] Z Z (TD.q Z .u (vE (us := [.bool a0.xu.null,jS a0.xu.data]) 0 Z yD ye Z Z Z) Z (TD.run ae [14] Z Z (TD.q Z .u (vE (us := [.bool a0.xn.null,jS a0.xn.data]) 0 Z yD ye Z Z Z) Z ?_)))))))
  refine TD.run ae [18] Z Z (TD.q Z .u (vr 0 Z zb Z Z) Z ?_)
  refine TD.br ?_ ?_
  ·refine xd (cells:= #[.int .u8 0]) Z .u bn Z (by rfl) Z [0,0,0] (fun _=>Z) (fun b4=>(TD.q Z .u (wR (xs := [0]) 0 Z Z Z Z yc xY yE) Z (vY Z .u (.fn Tryz.call55 Z) (cK a0.xC _ hx6) (fun _ hs=>(vy _ _)) Z [0,0,0] (Z) (TD.q Z .u (vP Z Z c7) Z (vY Z .u (.fn Tryz.call55 Z) (cK a0.xx _ hx9) (fun _ hs=>(vy _ _)) Z [0,0,0] (Z) (TD.q Z .u (vP Z Z c10) Z (vY Z .u (.fn Tryz.call56 Z) (bh a0.xu _ hx12) (fun _ hs=>(vy _ _)) Z [0,0,0] (Z) (TD.q Z .u (vP Z Z c13) Z ?_))))))))
   exact vY Z .u (.fn Tryz.call56 Z) (bh a0.xn _ hx15) (fun _ hs=>(vy _ _)) Z [0,0,0] (Z) (TD.q Z .u (vP Z Z c16) Z (vY Z .u (.fn Tryz.call57 Z) (cE a0.xp _ _ _ hx18) (fun _ hs=>(vK hs hX)) Z [0,0,0] (Z) (TD.q Z .u (vP Z Z c19) Z (TD.run ae [22] Z Z (TD.nil (wo [0,0,0] ⟨b4,Z,Z⟩ (by rfl) (by rfl)))))))
  ·refine vY Z .u (.fn Tryz.call55 Z) (cK a0.xC _ hx6) (fun _ hs=>(vy _ _)) Z [0,0] (Z) ?_
   refine TD.br ?_ ?_
   ·refine xd (cells:= #[.int .u8 0]) Z .u bn Z (by rfl) Z [0,0,0] (fun _=>Z) (fun b4=>(TD.q Z .u (wR (xs := [0]) 0 Z Z Z Z yc xY yE) Z (TD.q Z .u (vP Z Z c7) Z (vY Z .u (.fn Tryz.call55 Z) (cK a0.xx _ hx9) (fun _ hs=>(vy _ _)) Z [0,0,0] (Z) (TD.q Z .u (vP Z Z c10) Z (vY Z .u (.fn Tryz.call56 Z) (bh a0.xu _ hx12) (fun _ hs=>(vy _ _)) Z [0,0,0] (Z) (TD.q Z .u (vP Z Z c13) Z (vY Z .u (.fn Tryz.call56 Z) (bh a0.xn _ hx15) (fun _ hs=>(vy _ _)) Z [0,0,0] (Z) ?_))))))))
    exact TD.q Z .u (vP Z Z c16) Z (vY Z .u (.fn Tryz.call57 Z) (cE a0.xp _ _ _ hx18) (fun _ hs=>(vK hs hX)) Z [0,0,0] (Z) (TD.q Z .u (vP Z Z c19) Z (TD.run ae [22] Z Z (TD.nil (wo [0,0,0] ⟨b4,Z,Z⟩ (by rfl) (by rfl))))))
   ·refine vY Z .u (.fn Tryz.call55 Z) (cK a0.xx _ hx9) (fun _ hs=>(vy _ _)) Z [0,0] (Z) ?_
    refine TD.br ?_ ?_
    ·refine xd (cells:= #[.int .u8 0]) Z .u bn Z (by rfl) Z [0,0,0] (fun _=>Z) (fun b4=>(TD.q Z .u (wR (xs := [0]) 0 Z Z Z Z yc xY yE) Z (TD.q Z .u (vP Z Z c7) Z (TD.q Z .u (vP Z Z c10) Z (vY Z .u (.fn Tryz.call56 Z) (bh a0.xu _ hx12) (fun _ hs=>(vy _ _)) Z [0,0,0] (Z) (TD.q Z .u (vP Z Z c13) Z (vY Z .u (.fn Tryz.call56 Z) (bh a0.xn _ hx15) (fun _ hs=>(vy _ _)) Z [0,0,0] (Z) (TD.q Z .u (vP Z Z c16) Z ?_))))))))
     exact vY Z .u (.fn Tryz.call57 Z) (cE a0.xp _ _ _ hx18) (fun _ hs=>(vK hs hX)) Z [0,0,0] (Z) (TD.q Z .u (vP Z Z c19) Z (TD.run ae [22] Z Z (TD.nil (wo [0,0,0] ⟨b4,Z,Z⟩ (by rfl) (by rfl)))))
    ·refine vY Z .u (.fn Tryz.call56 Z) (bh a0.xu _ hx12) (fun _ hs=>(vy _ _)) Z [0,0] (Z) ?_
     refine TD.br ?_ ?_
     ·refine xd (cells:= #[.int .u8 0]) Z .u bn Z (by rfl) Z [0,0,0] (fun _=>Z) (fun b4=>(TD.q Z .u (wR (xs := [0]) 0 Z Z Z Z yc xY yE) Z (TD.q Z .u (vP Z Z c7) Z (TD.q Z .u (vP Z Z c10) Z (TD.q Z .u (vP Z Z c13) Z (vY Z .u (.fn Tryz.call56 Z) (bh a0.xn _ hx15) (fun _ hs=>(vy _ _)) Z [0,0,0] (Z) (TD.q Z .u (vP Z Z c16) Z (vY Z .u (.fn Tryz.call57 Z) (cE a0.xp _ _ _ hx18) (fun _ hs=>(vK hs hX)) Z [0,0,0] (Z) ?_))))))))
      exact TD.q Z .u (vP Z Z c19) Z (TD.run ae [22] Z Z (TD.nil (wo [0,0,0] ⟨b4,Z,Z⟩ (by rfl) (by rfl))))
     ·refine vY Z .u (.fn Tryz.call56 Z) (bh a0.xn _ hx15) (fun _ hs=>(vy _ _)) Z [0,0] (Z) ?_
      refine TD.br ?_ ?_
      ·refine xd (cells:= #[.int .u8 0]) Z .u bn Z (by rfl) Z [0,0,0] (fun _=>Z) (fun b4=>(TD.q Z .u (wR (xs := [0]) 0 Z Z Z Z yc xY yE) Z (TD.q Z .u (vP Z Z c7) Z (TD.q Z .u (vP Z Z c10) Z (TD.q Z .u (vP Z Z c13) Z (TD.q Z .u (vP Z Z c16) Z (vY Z .u (.fn Tryz.call57 Z) (cE a0.xp _ _ _ hx18) (fun _ hs=>(vK hs hX)) Z [0,0,0] (Z) (TD.q Z .u (vP Z Z c19) Z ?_))))))))
       exact TD.run ae [22] Z Z (TD.nil (wo [0,0,0] ⟨b4,Z,Z⟩ (by rfl) (by rfl)))
      ·refine vY Z .u (.fn Tryz.call57 Z) (cE a0.xp _ _ _ hx18) (fun _ hs=>(vK hs hX)) Z [0,0] (Z) (xd (cells:= #[.int .u8 0]) Z .u bn Z (by rfl) Z [0,0,0] (fun _=>Z) (fun b4=>(TD.q Z .u (wR (xs := [0]) 0 Z Z Z Z yc xY yE) Z (TD.q Z .u (vP Z Z c7) Z (TD.q Z .u (vP Z Z c10) Z (TD.q Z .u (vP Z Z c13) Z (TD.q Z .u (vP Z Z c16) Z (TD.q Z .u (vP Z Z c19) Z ?_))))))))
       exact TD.run ae [22] Z Z (TD.nil (wo [0,0,0] ⟨b4,Z,Z⟩ (by rfl) (by rfl)))
 ·rintro _ _ ⟨b4,rfl,rfl⟩
  refine X.seq (T.seq (T.region Z (TL.run ae [0] Z Z (TL.q Z .u (v5 Z xY) Z ?_))))
  obtain⟨x20,hx21,h⟩:=xL h
  refine vL Z .u (.fn Tryz.call55 Z) (cK (((((((eG [0])++x5)++x8)++x11)++x14)++x17).length:Int) _ hx21) (fun _ hs=>(vy _ _)) Z ?_
  replace h:=ak h
  obtain⟨c22,h⟩:=h
  refine TL.run ae [3] Z Z (TL.q Z .u (vP Z Z c22) Z (TL.run ae [5] Z Z ?_))
  obtain rfl:=xO h
  exact TL.nil (X.seq (T.ret (vu [2] Tryz.results29 (vt Z) ⟨Z,Z,Z⟩ (by rfl) (.inl Z))))
theorem dn {α:Type} {l:List α} {k:Nat} {x:α} {t:List α} (h:l.drop k=x::t):l[k]? = some x∧l.drop (k+1)=t∧l.length=k+1+t.length:=by
 have hl:=congrArg List.length h
 rw[xT,yd] at hl
 refine⟨?_,?_,by omega⟩
 ·have:=congrArg (fun z=>z[0]?) h
  simpa using this
 ·rw[← yz,h]
  rfl
theorem dP {α:Type} {l:List α} {k:Nat} (h:l.drop k = []):l.length≤k:=List.drop_eq_nil_iff.1 h
def iz (l:List Hd):Bool:=l.all fun h=>aY h.xn
def dQ (r:Rec):Int:=if r.xx<0∨r.xx>2147483647 then 11 else if (aY r.xu && aY r.xn && iz r.xp)=true then 0 else 4
theorem lq (y:Bool): ∀ l:List Bl,bG l y=some (if l.all aY=true then .go y else .ret false)
 | []=>rfl
 | b::l=>by
  rw[bG,sG,xP,List.all_cons,lq y l]
  cases aY b <;> rfl
theorem nG (l:List Bl):cP l=some (l.all aY):=by
 unfold cP
 rw[lq]
 cases l.all aY <;> rfl
theorem ls (y:Int): ∀ l:List Hd,bN l y=some (if iz l=true then .go y else .ret 4)
 | []=>rfl
 | h::l=>by
  rw[bN,nG,xP,ls y l]
  unfold iz
  rw[List.all_cons,List.all_cons,List.all_nil,Bool.and_true]
  cases aY h.xn <;> rfl
theorem kb (r:Rec) (hw:wI r.xx):cJ r=some (dQ r):=by
 unfold cJ dQ
 by_cases h:r.xx<0
 ·rw[if_pos h,if_pos (.inl h)]
 rw[if_neg h,ir _ _ hw,gp,xP]
 by_cases h2:r.xx>2147483647
 ·rw[if_neg (by simp; omega),if_pos (.inr h2)]
 rw[if_pos (by simp; omega),if_neg (by omega),nG,xP,ls]
 simp only[List.all_cons,List.all_nil,Bool.and_true]
 cases aY r.xu <;> cases aY r.xn <;> cases iz r.xp <;> rfl
theorem tE (b:Bl):fF b=some (!aY b):=by
 unfold fF aY
 obtain⟨n,d⟩:=b
 cases n
 ·rfl
 ·cases d <;> simp
theorem pE (a0:List Hd) (hb:a0.length≤1000000) (y:Bool): ∀ (l:List Hd) (k fuel:Nat),a0.drop k=l→l.length<fuel→ ∃ z,bO a0 fuel y k=some (if iz l=true then .go (y,z) else .ret false)
 | [],k,fuel+1,h,hf=>by
  have:=dP h
  exact⟨k,by rw[bO,if_neg (by omega)]; rfl⟩
 | x::l,k,fuel+1,h,hf=>by
  obtain⟨h1,h2,h3⟩:=dn h
  rw[yd] at hf
  obtain⟨z,hz⟩:=pE a0 hb y l (k+1) fuel h2 (by omega)
  rw[bO,if_pos (by omega),h1,xP]
  have e:iz (x::l)=(aY x.xn && iz l):=rfl
  rw[e]
  by_cases hn:x.xn.null=true
  ·rw[if_pos hn]
   by_cases hd:x.xn.data = []
   ·rw[if_pos hd,if_pos (by omega),hz]
    have:aY x.xn=true:=by unfold aY; rw[hd]; simp
    rw[this,Bool.true_and]
    exact⟨z,rfl⟩
   ·rw[if_neg hd]
    have:aY x.xn=false:=by unfold aY; rw[hn]; simp[hd]
    rw[this]
    exact⟨0,rfl⟩
  ·rw[if_neg hn,if_pos (by omega),hz]
   have:aY x.xn=true:=by unfold aY; simp[hn]
   rw[this,Bool.true_and]
   exact⟨z,rfl⟩
theorem sL (a0:List Hd) (hb:a0.length≤1000000):fe a0=some (iz a0):=by
 unfold fe
 obtain⟨z,hz⟩:=pE a0 hb false a0 0 (((a0.length:Int)).toNat+1) rfl (by omega)
 rw[hz]
 cases iz a0 <;> rfl
theorem sM (r:Rec) (hb:r.xp.length≤1000000):ez r=some (dQ r):=by
 unfold ez dQ
 by_cases h:r.xx<0
 ·rw[if_pos h,if_pos (.inl h)]
 rw[if_neg h]
 by_cases h2:r.xx>2147483647
 ·rw[if_pos h2,if_pos (.inr h2)]
 rw[if_neg h2,if_neg (by omega),tE,tE,sL _ hb]
 cases aY r.xu <;> cases aY r.xn <;> cases iz r.xp <;> rfl
def cu (n:Int) (i:Nat):Bool:=decide (n / 2 ^ i % 2=1)
theorem oB (n:Int) (m:Nat) (hm:m<9223372036854775808):bits .and .i64 n m=(((n % 18446744073709551616).toNat &&& m:Nat):Int):=by
 have e1:(BitVec.ofInt 64 n).toNat=(n % 18446744073709551616).toNat:=by simp[BitVec.toNat_ofInt]
 have e2:(BitVec.ofInt 64 (m:Int)).toNat=m:=by
  rw[BitVec.ofInt_natCast,BitVec.toNat_ofNat,Nat.mod_eq_of_lt (by omega)]
 show IntKind.i64.wrap (((BitVec.ofInt 64 n) &&& (BitVec.ofInt 64 (m:Int))).toNat:Int)= _
 rw[BitVec.toNat_and,e1,e2]
 have h:(n % 18446744073709551616).toNat &&& m≤m:=Nat.and_le_right
 rw[IntKind.wrap_i64]
 omega
theorem uS (n:Int) (i:Nat) (hi:i<64):(n % 18446744073709551616).toNat.testBit i=cu n i:=by
 have hs:(18446744073709551616:Int)=2 ^ i*2 ^ (64 - i):=by
  rw[← Int.pow_add,show i+(64 - i)=64 by omega]
  rfl
 have h2:(2:Int) ^ (64 - i)=2*2 ^ (63 - i):=by
  rw[show 64 - i=1+(63 - i) by omega,Int.pow_add]
  rfl
 rw[Nat.testBit_eq_decide_div_mod_eq,cu]
 have hp:(0:Int)<2 ^ i:=Int.pow_pos (by decide)
 have h4:n % 18446744073709551616 / 2 ^ i=n / 2 ^ i % 2 ^ (64 - i):=by
  have e:n % 18446744073709551616=n - 2 ^ i*(2 ^ (64 - i)*(n / 18446744073709551616)):=by
   have:=Int.emod_def n 18446744073709551616
   rw[this,hs,Int.mul_assoc]
  rw[e,Int.sub_mul_ediv_left _ _ (by omega),Int.emod_def,Int.ediv_ediv_of_nonneg (Int.le_of_lt hp),← hs]
 have h5:n / 2 ^ i % 2 ^ (64 - i) % 2=n / 2 ^ i % 2:=by
  rw[h2]
  exact Int.emod_emod_of_dvd _ ⟨_,rfl⟩
 have h6:(((n % 18446744073709551616).toNat / 2 ^ i % 2:Nat):Int)=n / 2 ^ i % 2:=by
  have e:((n % 18446744073709551616).toNat:Int)=n % 18446744073709551616:=by omega
  rw[Int.natCast_emod,Int.natCast_ediv,e,Int.natCast_pow]
  show n % 18446744073709551616 / 2 ^ i % 2= _
  rw[h4,h5]
 congr 1
 apply propext
 omega
theorem oC (n:Int) (i:Nat) (hi:i<63):(bits .and .i64 n ((2 ^ i:Nat):Int) != 0)=cu n i:=by
 have hm:2 ^ i<9223372036854775808:=Nat.lt_of_lt_of_eq (Nat.pow_lt_pow_right (by decide) hi) (show 2 ^ 63=9223372036854775808 by decide)
 rw[oB n _ hm,← uS n i (by omega)]
 generalize (n % 18446744073709551616).toNat=a
 cases h:a.testBit i with
 | true =>
  have:(a &&& 2 ^ i)≠0:=by
   intro h0
   have:=congrArg (fun x=>Nat.testBit x i) h0
   simp[h,Nat.testBit_two_pow_self] at this
  simp; omega
 | false =>
  have:(a &&& 2 ^ i)=0:=by
   apply Nat.eq_of_testBit_eq
   intro j
   rw[Nat.testBit_and,Nat.testBit_two_pow]
   by_cases hj:i=j
   ·subst hj; simp[h]
   ·simp[hj]
  simp[this]
theorem sN (n:Int):(bits .and .i64 n 7 != 0)=decide (n % 8≠0):=by
 have h:=oB n 7 (by decide)
 rw[show ((7:Nat):Int)=7 from rfl] at h
 rw[h,Nat.and_two_pow_sub_one_eq_mod _ 3]
 rw[Bool.eq_iff_iff]
 simp
 omega
theorem sO (n:Int) (h8:n % 8=0) (h0: -9223372036854775808≤n) (h1:n≤9223372036854775807):(bits .andNot .i64 n 56 != 0)=decide (n<0∨63<n):=by
 have e1:(BitVec.ofInt 64 n).toNat=(n % 18446744073709551616).toNat:=by simp[BitVec.toNat_ofInt]
 have e2:(~~~ BitVec.ofInt 64 (56:Int)).toNat=18446744073709551559:=by decide
 have e3:bits .andNot .i64 n 56=IntKind.i64.wrap (((BitVec.ofInt 64 n) &&& ~~~ (BitVec.ofInt 64 (56:Int))).toNat:Int):=rfl
 rw[e3,BitVec.toNat_and,e1,e2]
 have ha:(n % 18446744073709551616).toNat % 8=0:=by omega
 have hb:(n % 18446744073709551616).toNat<64 ↔ ¬ (n<0∨63<n):=by omega
 have hc:(n % 18446744073709551616).toNat<18446744073709551616:=by omega
 generalize (n % 18446744073709551616).toNat=a at *
 have hw: ∀ x:Nat,x<18446744073709551616→((IntKind.i64.wrap (x:Int) != 0)=decide (x≠0)):=by
  intro x hx
  rw[IntKind.wrap_i64,Bool.eq_iff_iff]
  simp
  omega
 rw[hw _ (Nat.lt_of_le_of_lt Nat.and_le_left hc)]
 by_cases h:a<64
 ·have:a=0∨a=8∨a=16∨a=24∨a=32∨a=40∨a=48∨a=56:=by omega
  have hz:a &&& 18446744073709551559=0:=by rcases this with rfl | rfl | rfl | rfl | rfl | rfl | rfl | rfl <;> decide
  simp[hz,hb.1 h]
 ·have hz:a &&& 18446744073709551559≠0:=by
   intro h0
   have h2:=congrArg (fun x=>x >>> 6) h0
   simp only[Nat.shiftRight_and_distrib] at h2
   rw[show 18446744073709551559 >>> 6=2 ^ 58 - 1 from rfl,Nat.and_two_pow_sub_one_eq_mod,Nat.shiftRight_eq_div_pow] at h2
   simp at h2
   omega
  have:n<0∨63<n:=by
   rcases Classical.em (n<0∨63<n) with h2 | h2
   ·exact h2
   ·exact absurd (hb.2 h2) h
  simp[hz,this]
theorem and_8 (n:Int):(bits .and .i64 n 8 != 0)=cu n 3:=oC n 3 (by decide)
theorem tF (n:Int):(bits .and .i64 n 16 != 0)=cu n 4:=oC n 4 (by decide)
theorem tG (n:Int):(bits .and .i64 n 32 != 0)=cu n 5:=oC n 5 (by decide)
theorem tH {a b:Int} {c:Bool} (h:(a != b)=c):(a == b)= !c:=by rw[← h,bne,Bool.not_not]
theorem sP (n:Int) (w:World) :
 Calls Tryz.prog 79 #[.int .i64 n] w fun e w'=>e= .returned (.tuple #[.bool (cu n 3),.bool (cu n 4),.bool (cu n 5)])∧w=w':=by
 have H1:=Lib.hid (and_8 n)
 have H2:=Lib.hid (tF n)
 have H3:=Lib.hid (tG n)
 go_enter Tryz.func79,Tryz.ntmps79
 go_wp2
 go_ret3
 exact⟨congrArg Ending.returned (show (Value.tuple #[.bool (bits .and .i64 n 8 != 0),.bool (bits .and .i64 n 16 != 0),.bool (bits .and .i64 n 32 != 0)])= _ by rw[H1.out,H2.out,H3.out]),rfl⟩
def cv (n:Int):Int:=if n % 8≠0 then 9 else if n<0∨63<n∨(cu n 5=true∧cu n 4=false) then 8 else 0
theorem qP (n:Int) (h0: -9223372036854775808≤n) (h1:n≤9223372036854775807) (w:World) :
 Calls Tryz.prog 78 #[.int .i64 n] w fun e w'=>e= .returned (.int .i64 (cv n))∧w=w':=by
 have h7:=sN n
 by_cases h8:n % 8=0
 ·have ha:=sO n h8 h0 h1
  have h32:=tG n
  have h16:=tH (tF n)
  have H8:=Lib.hid h8
  simp only[h8] at h7
  by_cases hr:n<0∨63<n
  ·have HA:=Lib.hid (show cv n=8 by simp only[cv,h8]; rcases hr with h | h <;> simp[h])
   simp only[hr] at ha
   clear hr h8 h32 h16
   go_enter Tryz.func78,zE
   go_wp2
   go_ret
   exact⟨eF (by rw[HA.out]),rfl⟩
  ·simp only[hr] at ha
   have HR:=Lib.hid hr
   clear hr h8
   cases b5:cu n 5 with
   | true =>
    cases b4:cu n 4 with
    | true =>
     have HA:=Lib.hid (show cv n=0 by have:=HR.out; simp[cv,H8.out,b5,b4]; omega)
     rw[b5] at h32
     rw[b4] at h16
     clear b5 b4
     go_enter Tryz.func78,zE
     go_wp2
     go_ret
     exact⟨eF (by rw[HA.out]),rfl⟩
    | false =>
     have HA:=Lib.hid (show cv n=8 by simp[cv,H8.out,b5,b4])
     rw[b5] at h32
     rw[b4] at h16
     clear b5 b4
     go_enter Tryz.func78,zE
     go_wp2
     go_ret
     exact⟨eF (by rw[HA.out]),rfl⟩
   | false =>
    have HA:=Lib.hid (show cv n=0 by have:=HR.out; simp[cv,H8.out,b5]; omega)
    rw[b5] at h32
    clear b5 h16
    go_enter Tryz.func78,zE
    go_wp2
    go_ret
    exact⟨eF (by rw[HA.out]),rfl⟩
 ·have HA:=Lib.hid (show cv n=9 by simp[cv,h8])
  simp only[ne_eq,h8] at h7
  clear h8
  go_enter Tryz.func78,zE
  go_wp2
  go_ret
  exact⟨eF (by rw[HA.out]),rfl⟩
def ea (a t c:Bool):Int:=(if a then 8 else 0)+(if t then 16 else 0)+(if c then 32 else 0)
theorem pF {w W:World} (h:Below w.heap.size w W) (o:Obj):Below w.heap.size w (W.alloc o):=h.alloc h.size o
theorem Of_any (i0 i1 i5 i6 i7 i8 i9 i10:Int) (a t c:Bool) (A:Option Addr) (n k:Nat) (w:World) :
 Calls Tryz.prog 36 #[.agg #[.int .i64 i0,.int .i64 i1,.bool a,.bool t,.bool c,.int .i64 i5,.int .i64 i6,.int .i64 i7,.int .i64 i8,.int .i64 i9,.int .i64 i10,.slice A n k]] w fun e w' =>
  e= .returned (.int .i64 (ea a t c))∧Below w.heap.size w w':=by
 have ix: ∀ (x0 x1 x2 x3 x4 x5: Value),(∀ w:World,(Instr.index 123 (.agg #[x0,x1,x2,x3,x4,x5]) (.int .i64 0)).run Tryz.prog w= .ok (.agg #[x0,x1]) w)∧(∀ w:World,(Instr.index 123 (.agg #[x0,x1,x2,x3,x4,x5]) (.int .i64 1)).run Tryz.prog w= .ok (.agg #[x2,x3]) w)∧(∀ w:World,(Instr.index 123 (.agg #[x0,x1,x2,x3,x4,x5]) (.int .i64 2)).run Tryz.prog w= .ok (.agg #[x4,x5]) w):=fun _ _ _ _ _ _=>⟨fun _=>by kernel_rfl,fun _=>by kernel_rfl,fun _=>by kernel_rfl⟩
 cases a <;> cases t <;> cases c <;>
 ·go_enter Tryz.func36,Tryz.ntmps36
  go_wp2_with fail
  refine wp_loop_rounds 4 ?_
  rw[rounds_succ]
  go_wp2_with fail
  rw[rounds_succ]
  go_wp2_with fail
  rw[rounds_succ]
  go_wp2_with fail
  rw[rounds_succ]
  go_wp2_with fail
  go_ret
  exact⟨rfl,by repeat (first | exact Below.refl _ _ | refine pF ?_ _)⟩
theorem uT (i0 i1 i5 i6 i7 i8 i9 i10:Int) (a t c:Bool) (A:Option Addr) (n k:Nat) :
 e9 Tryz.prog 36 #[.agg #[.int .i64 i0,.int .i64 i1,.bool a,.bool t,.bool c,.int .i64 i5,.int .i64 i6,.int .i64 i7,.int .i64 i8,.int .i64 i9,.int .i64 i10,.slice A n k]] (fun v N=>v= .int .i64 (ea a t c)∧N = []):=by
 intro w
 refine (Of_any i0 i1 i5 i6 i7 i8 i9 i10 a t c A n k w).mono ?_
 rintro e w' ⟨rfl,hb⟩
 exact⟨_,_,rfl,⟨rfl,rfl⟩,wY hb,trivial⟩
def qQ (n:Int):Option (Bool×Bool×Bool):=some (cu n 3,cu n 4,cu n 5)
theorem sQ (n:Int):qQ n=some (cu n 3,cu n 4,cu n 5):=rfl
theorem pG (n:Int) (r:Bool×Bool×Bool) (h:qQ n=some r) (w:World):Calls Tryz.prog 79 #[.int .i64 n] w fun e w'=>e= .returned (.tuple #[.bool r.1,.bool r.2.1,.bool r.2.2])∧w=w':=by
 obtain rfl:=xO h
 exact sP n w
def oD (n:Int):Option Int:=if -9223372036854775808≤n∧n≤9223372036854775807 then some (cv n) else none
theorem qR (n:Int) (h: -9223372036854775808≤n∧n≤9223372036854775807):oD n=some (cv n):=if_pos h
theorem oE (n:Int) (r:Int) (h:oD n=some r) (w:World):Calls Tryz.prog 78 #[.int .i64 n] w fun e w'=>e= .returned (.int .i64 r)∧w=w':=by
 obtain⟨h1,h⟩:=ak h
 obtain rfl:=xO h
 exact qP n h1.1 h1.2 w
def gAOf (b:Bat):Option Int:=some (ea b.xA b.xE b.xz)
theorem nH (b:Bat) (A:Option Addr) (c:Nat) (r:Int) (h:gAOf b=some r):ar Tryz.prog 36 #[.agg #[.int .i64 b.xy,.int .i64 b.xt,.bool b.xA,.bool b.xE,.bool b.xz,.int .i64 b.xw,.int .i64 b.xr,.int .i64 b.xB,.int .i64 b.xq,.int .i64 b.xv,.int .i64 b.xo,.slice A b.xm.length c]]
 (RX.of (aq 7 bj) [.slice A b.xm.length c] b.xm) av (fun u A' N=>u= .int .i64 r∧A'=av∧N = []):=by
 obtain rfl:=xO h
 exact wk (uT _ _ _ _ _ _ _ _ _ _ _ _ _ _)
def qS:dY := [(66,0,0),(66,1,1),(69,1,1),(69,2,2),(69,3,4),(69,4,6)]
theorem am:(qS).OK Tryz.prog:=⟨FOK.mk yJ rfl yN rfl,FOK.mk yJ rfl yL rfl,FOK.mk yh rfl xU rfl,FOK.mk yh rfl ye rfl,FOK.mk yh rfl ye rfl,FOK.mk yh rfl zc rfl,trivial⟩
def bu (st:I)  : Option (I):=(eQ st 2).bind fun (x1,st2)=>if x1=0 then some st2 else ((bl st2 7).bind fun st5=>some st5)
theorem eH (g:Nat) (st:I)  (r:I) (h:bu st  = some r):ar Tryz.prog 107 #[jP g] .triv (InR g st) (fun v A' N=>v= .tuple #[]∧A'=InR g r∧N = []):=by
 refine aJ Tryz.func107 Z Tryz.ntmps107 Z ?_
 intro F w hX
 unfold bu at h
 refine T.seq (T.region Z ?_)
 obtain⟨⟨x1,st2⟩,hx3,h⟩:=xL h
 try dsimp only at h
 refine TL.run am [0] Z Z (vX Z .u (.fn Tryz.call77 Z) (bJ g st 2 _ hx3) (fun _ hs=>(Src.triv _)) Z (TL.run am [2] Z Z ?_))
 rcases jF h with⟨c4,h⟩ | ⟨c4,h⟩
 ·refine TL.nil (X.seq (vC Z (aw (xM c4)) ?_))
  obtain rfl:=xO h
  exact T.skip (wV [0] Tryz.results107 ⟨Z,Z,Z⟩ (by rfl) (.inr Z))
 ·refine TL.nil (X.seq (vw Z (aH (xN c4)) (T.region Z ?_)))
  obtain⟨st5,hx6,h⟩:=xL h
  refine TL.run am [0] Z Z (vX Z .u (.fn Tryz.call48 Z) (aZ g st2 7 _ hx6) (fun _ hs=>(Src.triv _)) Z ?_)
  obtain rfl:=xO h
  exact TL.nil (wV [0] Tryz.results107 ⟨Z,Z,Z⟩ (by rfl) (.inr Z))
def bP (a0:List UInt8):Option (Int×Int):=(oh a0).bind fun st1=>(bu st1).bind fun st4=>(eQ st4 2).bind fun (x6,st7)=>if x6=0 then ((cI st7).bind fun (x10,st11)=>if x10=0 then some (x6,0) else some (0,x10)) else (if x6=1 then ((cI st7).bind fun (x15,st16)=>if x15=0 then some (x6,0) else some (0,x15)) else ((bl st7 12).bind fun st19=>(cI st19).bind fun (x21,st22)=>if x21=0 then some (x6,0) else some (0,x21)))
theorem g7 (a0:List UInt8) (r:Int×Int) (h:bP a0=some r):ar Tryz.prog 87 #[jS a0] .triv (av) (fun v A' N=>v= .tuple #[jI r.1,jI r.2]∧A'=av∧N = []):=by
 refine aJ Tryz.func87 Z Tryz.ntmps87 Z ?_
 intro F w hX
 unfold bP at h
 refine T.seq (T.region Z (TL.run am [0,1] Z Z (TL.nil (X.seq (T.seq (T.region Z ?_))))))
 obtain⟨st1,hx2,h⟩:=xL h
 refine TL.run am [0] Z Z (wy Z .u (.fn Tryz.call21 Z) (fE a0 _ hx2) (fun _ hs=>(vy _ _)) Z ?_)
 rintro _ _ _ ⟨b3,rfl,rfl,rfl⟩
 refine vR [0,0] Z (TL.run am [2] Z Z (TL.nil (X.seq (T.seq (T.region Z ?_)))))
 obtain⟨st4,hx5,h⟩:=xL h
 refine TL.run am [0] Z Z (vX Z .u (.fn Tryz.call107 Z) (eH b3 st1 _ hx5) (fun _ hs=>(Src.triv _)) Z (TL.nil (X.seq (T.seq (T.region Z ?_)))))
 obtain⟨⟨x6,st7⟩,hx8,h⟩:=xL h
 try dsimp only at h
 refine TL.run am [0] Z Z (vX Z .u (.fn Tryz.call77 Z) (bJ b3 st4 2 _ hx8) (fun _ hs=>(Src.triv _)) Z (TL.run am [2] Z Z (TL.nil (X.seq (T.seq (T.seq (T.region Z ?_)))))))
 rcases jF h with⟨c9,h⟩ | ⟨c9,h⟩
 ·refine TL.run am [0,1,2] Z Z ?_
  iterate 2 refine vv Z (.gn Z Z (aw (xM c9))) Z ?_
  refine TL.q Z .u (vB Z (aw (xM c9)) Z) Z (TL.nil (X.seq (vC Z Z (T.skip (X.seq (T.seq (T.seq (T.region Z ?_))))))))
  obtain⟨⟨x10,st11⟩,hx12,h⟩:=xL h
  try dsimp only at h
  refine TL.run am [0] Z Z (vX Z .u (.fn Tryz.call104 Z) (cU b3 st7 _ hx12) (fun _ hs=>(Src.triv _)) Z (TL.run am [2] Z Z (TL.nil (X.seq (T.seq (T.region Z (TL.run am [0,1] Z Z ?_)))))))
  rcases jF h with⟨c13,h⟩ | ⟨c13,h⟩
  ·refine TL.nil (X.seq (vC Z (aw (xM c13)) (T.skip (X.seq (T.seq (T.region Z (TL.run am [0,1,2] Z Z ?_)))))))
   obtain rfl:=xO h
   exact TL.nil (X.seq (T.ret (vO [1] zm (vt Z) (vt Z) ⟨Z,Z,Z⟩ (by rfl) (.inl Z))))
  ·refine TL.nil (X.seq (vw Z (aH (xN c13)) (T.seq (T.region Z (TL.run am [0,1,2] Z Z ?_)))))
   obtain rfl:=xO h
   exact TL.nil (X.seq (T.ret (vx (vO [1] zm (vt Z) (vt Z) ⟨Z,Z,Z⟩ (by rfl) (.inl Z)))))
 ·refine TL.run am [0,1,2] Z Z ?_
  iterate 2 refine TL.q Z (.g Z Z (aH (xN c9))) (vA am Z) Z ?_
  refine TL.q Z .u (vz Z (aH (xN c9)) Z) Z ?_
  rcases jF h with⟨c14,h⟩ | ⟨c14,h⟩
  ·refine TL.nil (X.seq (vC Z (aw (xM c14)) (T.skip (X.seq (T.seq (T.seq (T.region Z ?_)))))))
   obtain⟨⟨x15,st16⟩,hx17,h⟩:=xL h
   try dsimp only at h
   refine TL.run am [0] Z Z (vX Z .u (.fn Tryz.call104 Z) (cU b3 st7 _ hx17) (fun _ hs=>(Src.triv _)) Z (TL.run am [2] Z Z (TL.nil (X.seq (T.seq (T.region Z (TL.run am [0,1] Z Z ?_)))))))
   rcases jF h with⟨c18,h⟩ | ⟨c18,h⟩
   ·refine TL.nil (X.seq (vC Z (aw (xM c18)) (T.skip (X.seq (T.seq (T.region Z (TL.run am [0,1,2] Z Z ?_)))))))
    obtain rfl:=xO h
    exact TL.nil (X.seq (T.ret (vO [1] zm (vt Z) (vt Z) ⟨Z,Z,Z⟩ (by rfl) (.inl Z))))
   ·refine TL.nil (X.seq (vw Z (aH (xN c18)) (T.seq (T.region Z (TL.run am [0,1,2] Z Z ?_)))))
    obtain rfl:=xO h
    exact TL.nil (X.seq (T.ret (vx (vO [1] zm (vt Z) (vt Z) ⟨Z,Z,Z⟩ (by rfl) (.inl Z)))))
  ·refine TL.nil (X.seq (vw Z (aH (xN c14)) (T.region Z ?_)))
   obtain⟨st19,hx20,h⟩:=xL h
   refine TL.run am [0] Z Z (vX Z .u (.fn Tryz.call48 Z) (aZ b3 st7 12 _ hx20) (fun _ hs=>(Src.triv _)) Z (TL.nil (X.seq (T.seq (T.seq (T.region Z ?_))))))
   obtain⟨⟨x21,st22⟩,hx23,h⟩:=xL h
   try dsimp only at h
   refine TL.run am [0] Z Z (vX Z .u (.fn Tryz.call104 Z) (cU b3 st19 _ hx23) (fun _ hs=>(Src.triv _)) Z (TL.run am [2] Z Z (TL.nil (X.seq (T.seq (T.region Z (TL.run am [0,1] Z Z ?_)))))))
   rcases jF h with⟨c24,h⟩ | ⟨c24,h⟩
   ·refine TL.nil (X.seq (vC Z (aw (xM c24)) (T.skip (X.seq (T.seq (T.region Z (TL.run am [0,1,2] Z Z ?_)))))))
    obtain rfl:=xO h
    exact TL.nil (X.seq (T.ret (vO [1] zm (vt Z) (vt Z) ⟨Z,Z,Z⟩ (by rfl) (.inl Z))))
   ·refine TL.nil (X.seq (vw Z (aH (xN c24)) (T.seq (T.region Z (TL.run am [0,1,2] Z Z ?_)))))
    obtain rfl:=xO h
    exact TL.nil (X.seq (T.ret (vx (vO [1] zm (vt Z) (vt Z) ⟨Z,Z,Z⟩ (by rfl) (.inl Z)))))
def bt (a0:List UInt8):Option (Int×Int):=(oh a0).bind fun st1=>(bu st1).bind fun st4=>(eQ st4 4).bind fun (x6,st7)=>if x6<0 then ((bl st7 11).bind fun st10=>(cI st10).bind fun (x12,st13)=>if x12=0 then some (x6,0) else some (0,x12)) else ((cI st7).bind fun (x16,st17)=>if x16=0 then some (x6,0) else some (0,x16))
theorem gv (a0:List UInt8) (r:Int×Int) (h:bt a0=some r):ar Tryz.prog 88 #[jS a0] .triv (av) (fun v A' N=>v= .tuple #[jI r.1,jI r.2]∧A'=av∧N = []):=by
 refine aJ Tryz.func88 Z Tryz.ntmps88 Z ?_
 intro F w hX
 unfold bt at h
 refine T.seq (T.region Z (TL.run am [0,1] Z Z (TL.nil (X.seq (T.seq (T.region Z ?_))))))
 obtain⟨st1,hx2,h⟩:=xL h
 refine TL.run am [0] Z Z (wy Z .u (.fn Tryz.call21 Z) (fE a0 _ hx2) (fun _ hs=>(vy _ _)) Z ?_)
 rintro _ _ _ ⟨b3,rfl,rfl,rfl⟩
 refine vR [0,0] Z (TL.run am [2] Z Z (TL.nil (X.seq (T.seq (T.region Z ?_)))))
 obtain⟨st4,hx5,h⟩:=xL h
 refine TL.run am [0] Z Z (vX Z .u (.fn Tryz.call107 Z) (eH b3 st1 _ hx5) (fun _ hs=>(Src.triv _)) Z (TL.nil (X.seq (T.seq (T.region Z ?_)))))
 obtain⟨⟨x6,st7⟩,hx8,h⟩:=xL h
 try dsimp only at h
 refine TL.run am [0] Z Z (vX Z .u (.fn Tryz.call77 Z) (bJ b3 st4 4 _ hx8) (fun _ hs=>(Src.triv _)) Z (TL.run am [2] Z Z (TL.nil (X.seq (T.seq (T.seq (T.region Z (TL.run am [0,1] Z Z ?_))))))))
 rcases jF h with⟨c9,h⟩ | ⟨c9,h⟩
 ·refine TL.nil (X.seq (vw Z (xM c9) (T.region Z ?_)))
  obtain⟨st10,hx11,h⟩:=xL h
  refine TL.run am [0] Z Z (vX Z .u (.fn Tryz.call48 Z) (aZ b3 st7 11 _ hx11) (fun _ hs=>(Src.triv _)) Z (TL.nil (X.seq (T.seq (T.seq (T.region Z ?_))))))
  obtain⟨⟨x12,st13⟩,hx14,h⟩:=xL h
  try dsimp only at h
  refine TL.run am [0] Z Z (vX Z .u (.fn Tryz.call104 Z) (cU b3 st10 _ hx14) (fun _ hs=>(Src.triv _)) Z (TL.run am [2] Z Z (TL.nil (X.seq (T.seq (T.region Z (TL.run am [0,1] Z Z ?_)))))))
  rcases jF h with⟨c15,h⟩ | ⟨c15,h⟩
  ·refine TL.nil (X.seq (vC Z (aw (xM c15)) (T.skip (X.seq (T.seq (T.region Z (TL.run am [0,1,2] Z Z ?_)))))))
   obtain rfl:=xO h
   exact TL.nil (X.seq (T.ret (vO [1] zG (vt Z) (vt Z) ⟨Z,Z,Z⟩ (by rfl) (.inl Z))))
  ·refine TL.nil (X.seq (vw Z (aH (xN c15)) (T.seq (T.region Z (TL.run am [0,1,2] Z Z ?_)))))
   obtain rfl:=xO h
   exact TL.nil (X.seq (T.ret (vx (vO [1] zG (vt Z) (vt Z) ⟨Z,Z,Z⟩ (by rfl) (.inl Z)))))
 ·refine TL.nil (X.seq (vC Z (xN c9) (T.skip (X.seq (T.seq (T.seq (T.region Z ?_)))))))
  obtain⟨⟨x16,st17⟩,hx18,h⟩:=xL h
  try dsimp only at h
  refine TL.run am [0] Z Z (vX Z .u (.fn Tryz.call104 Z) (cU b3 st7 _ hx18) (fun _ hs=>(Src.triv _)) Z (TL.run am [2] Z Z (TL.nil (X.seq (T.seq (T.region Z (TL.run am [0,1] Z Z ?_)))))))
  rcases jF h with⟨c19,h⟩ | ⟨c19,h⟩
  ·refine TL.nil (X.seq (vC Z (aw (xM c19)) (T.skip (X.seq (T.seq (T.region Z (TL.run am [0,1,2] Z Z ?_)))))))
   obtain rfl:=xO h
   exact TL.nil (X.seq (T.ret (vO [1] zG (vt Z) (vt Z) ⟨Z,Z,Z⟩ (by rfl) (.inl Z))))
  ·refine TL.nil (X.seq (vw Z (aH (xN c19)) (T.seq (T.region Z (TL.run am [0,1,2] Z Z ?_)))))
   obtain rfl:=xO h
   exact TL.nil (X.seq (T.ret (vx (vO [1] zG (vt Z) (vt Z) ⟨Z,Z,Z⟩ (by rfl) (.inl Z)))))
def bC (a0:Rec):Option (Int×Int×Int):=if a0.xu.null=true then some (0,0,12) else (if a0.xn.null=true then some (0,0,12) else (if (a0.xp.length:Int)>0 then some (0,0,12) else (if a0.xx=0 then ((bP a0.xu.data).bind fun (x8,x9)=>if x9=0 then ((bt a0.xn.data).bind fun (x12,x13)=>if x13=0 then some (x8,x12,0) else some (0,0,x13)) else some (0,0,x9)) else some (0,0,12))))
theorem iZ (a0:Rec) (A1:Option Addr) (c2:Nat) (r:Int×Int×Int) (h:bC a0=some r):ar Tryz.prog 64 #[.agg #[jI a0.xC,jI a0.xx,.bool a0.xu.null,jS a0.xu.data,.bool a0.xn.null,jS a0.xn.data,.slice A1 a0.xp.length c2]] (RX.of (aq 3 bg) [.slice A1 a0.xp.length c2] a0.xp) (av) (fun v A' N=>v= .tuple #[jI r.1,jI r.2.1,jI r.2.2]∧A'=av∧N = []):=by
 refine aJ Tryz.func64 Z Tryz.ntmps64 Z ?_
 intro F w hX
 unfold bC at h
 refine T.seq (T.region Z (TL.box Z .u Z Z (fun b3=>(TL.run am [1,2,3] Z Z (TL.nil (X.seq (T.seq (T.seq (T.region Z (TL.run am [0,1] Z Z (TL.q Z .u (vr 0 Z yo Z Z) Z ?_)))))))))))
 rcases jF h with⟨c4,h⟩ | ⟨c4,h⟩
 ·refine TL.run am [3] Z Z ?_
  iterate 3 refine vv Z (.gn Z Z c4) Z ?_
  refine TL.q Z .u (vz Z c4 Z) Z (TL.run am [8] Z Z ?_)
  iterate 4 refine vv Z (.gn Z Z Z) Z ?_
  refine TL.q Z .u (vz Z Z Z) Z (TL.run am [14] Z Z ?_)
  iterate 3 refine vv Z (.gn Z Z Z) Z ?_
  refine TL.q Z .u (vz Z Z Z) Z (TL.nil (X.seq (vw Z Z (T.seq (T.region Z (TL.run am [0,1,2] Z Z ?_))))))
  obtain rfl:=xO h
  exact TL.nil (X.seq (T.ret (vx (wm [1] zh (vt Z) (vt Z) (vt Z) ⟨Z,Z,Z⟩ (by rfl) (.inl Z)))))
 ·replace c4:=xW c4
  refine TL.run am [3] Z Z ?_
  iterate 2 refine TL.q Z (.g Z Z c4) (vA am Z) Z ?_
  refine TL.q Z (.g Z Z c4) (vr 0 Z yo Z Z) Z (TL.q Z .u (vB Z c4 Z) Z ?_)
  rcases jF h with⟨c5,h⟩ | ⟨c5,h⟩
  ·refine TL.run am [8] Z Z ?_
   iterate 4 refine vv Z (.gn Z Z c5) Z ?_
   refine TL.q Z .u (vz Z c5 Z) Z (TL.run am [14] Z Z ?_)
   iterate 3 refine vv Z (.gn Z Z Z) Z ?_
   refine TL.q Z .u (vz Z Z Z) Z (TL.nil (X.seq (vw Z Z (T.seq (T.region Z (TL.run am [0,1,2] Z Z ?_))))))
   obtain rfl:=xO h
   exact TL.nil (X.seq (T.ret (vx (wm [1] zh (vt Z) (vt Z) (vt Z) ⟨Z,Z,Z⟩ (by rfl) (.inl Z)))))
  ·replace c5:=xW c5
   refine TL.run am [8] Z Z (TL.q Z (.g Z Z c5) (vA am Z) Z (TL.q Z (.g Z Z c5) (vr 0 Z zb Z Z) Z (TL.q Z (.g Z Z c5) (vH Z yl) Z (TL.q Z (.g Z Z c5) (vA am Z) Z (TL.q Z .u (vB Z c5 Z) Z ?_)))))
   rcases jF h with⟨c6,h⟩ | ⟨c6,h⟩
   ·refine TL.run am [14] Z Z ?_
    iterate 3 refine vv Z (.gn Z Z (xM c6)) Z ?_
    refine TL.q Z .u (vz Z (xM c6) Z) Z (TL.nil (X.seq (vw Z Z (T.seq (T.region Z (TL.run am [0,1,2] Z Z ?_))))))
    obtain rfl:=xO h
    exact TL.nil (X.seq (T.ret (vx (wm [1] zh (vt Z) (vt Z) (vt Z) ⟨Z,Z,Z⟩ (by rfl) (.inl Z)))))
   ·refine TL.run am [14] Z Z (TL.q Z (.g Z Z (xN c6)) (vA am Z) Z (TL.q Z (.g Z Z (xN c6)) (vr 0 Z xQ Z Z) Z (TL.q Z (.g Z Z (xN c6)) (vA am Z) Z (TL.q Z .u (vB Z (xN c6) Z) Z ?_))))
    rcases jF h with⟨c7,h⟩ | ⟨c7,h⟩
    ·refine TL.nil (X.seq (vC Z (aw (xM c7)) (T.skip (X.seq (T.seq (T.seq (T.region Z (TL.run am [0,1] Z Z (TL.q Z .u (vr 0 Z yM Z Z) Z ?_)))))))))
     obtain⟨⟨x8,x9⟩,hx10,h⟩:=xL h
     try dsimp only at h
     refine vL Z .u (.fn Tryz.call87 Z) (g7 a0.xu.data _ hx10) (fun _ hs=>(vy _ _)) Z (TL.run am [4,5,6,7,8] Z Z (TL.nil (X.seq (T.seq (T.region Z (TL.run am [0,1] Z Z ?_))))))
     rcases jF h with⟨c11,h⟩ | ⟨c11,h⟩
     ·refine TL.nil (X.seq (vC Z (aw (xM c11)) (T.skip (X.seq (T.seq (T.seq (T.region Z (TL.run am [0,1] Z Z (TL.q Z .u (vr 0 Z yM Z Z) Z ?_)))))))))
      obtain⟨⟨x12,x13⟩,hx14,h⟩:=xL h
      try dsimp only at h
      refine vL Z .u (.fn Tryz.call88 Z) (gv a0.xn.data _ hx14) (fun _ hs=>(vy _ _)) Z (TL.run am [4,5,6,7,8] Z Z (TL.nil (X.seq (T.seq (T.region Z (TL.run am [0,1] Z Z ?_))))))
      rcases jF h with⟨c15,h⟩ | ⟨c15,h⟩
      ·refine TL.nil (X.seq (vC Z (aw (xM c15)) (T.skip (X.seq (T.seq (T.region Z (TL.run am [0,1,2,3,4] Z Z ?_)))))))
       obtain rfl:=xO h
       exact TL.nil (X.seq (T.ret (wm [1] zh (vt Z) (vt Z) (vt Z) ⟨Z,Z,Z⟩ (by rfl) (.inl Z))))
      ·refine TL.nil (X.seq (vw Z (aH (xN c15)) (T.seq (T.region Z (TL.run am [0,1,2,3] Z Z ?_)))))
       obtain rfl:=xO h
       exact TL.nil (X.seq (T.ret (vx (wm [1] zh (vt Z) (vt Z) (vt Z) ⟨Z,Z,Z⟩ (by rfl) (.inl Z)))))
     ·refine TL.nil (X.seq (vw Z (aH (xN c11)) (T.seq (T.region Z (TL.run am [0,1,2,3] Z Z ?_)))))
      obtain rfl:=xO h
      exact TL.nil (X.seq (T.ret (vx (wm [1] zh (vt Z) (vt Z) (vt Z) ⟨Z,Z,Z⟩ (by rfl) (.inl Z)))))
    ·refine TL.nil (X.seq (vw Z (aH (xN c7)) (T.seq (T.region Z (TL.run am [0,1,2] Z Z ?_)))))
     obtain rfl:=xO h
     exact TL.nil (X.seq (T.ret (vx (wm [1] zh (vt Z) (vt Z) (vt Z) ⟨Z,Z,Z⟩ (by rfl) (.inl Z)))))
def ft_crc:dY := []
theorem ay:(ft_crc).OK Tryz.prog:=trivial
theorem uU:Tryz.prog.follows .mixedOrders=true:=by kernel_rfl
def cW:Nat→Int→Nat→Option (Int×Nat)
 | 0,_,_=>none
 | m40+1,y35,k36=>if (k36:Int)<8 then ((if (Go.bits .and .u32 y35 1)=1 then (some (Go.bits .xor .u32 (m6 .u32 y35 1) 2197175160)) else some (m6 .u32 y35 1)).bind fun y46=>if -9223372036854775808≤((k36:Int)+1)∧((k36:Int)+1)≤9223372036854775807 then (cW m40 y46 (k36+1)) else none) else some (y35,k36)
def dw:Nat→Nat→List Int→Option (Nat×List Int)
 | 0,_,_=>none
 | m7+1,k2,st3=>if (k2:Int)<256 then (((cW ((8:Int).toNat+1) (IntKind.u32.wrap (k2:Int)) 0).bind fun (y52,k53)=>(st3[k2]?).bind fun x54=>some (st3.set k2 y52)).bind fun st33=>if -9223372036854775808≤((k2:Int)+1)∧((k2:Int)+1)≤9223372036854775807 then (dw m7 (k2+1) st33) else none) else some (k2,st3)
def fG  : Option (List Int):=(dw ((256:Int).toNat+1) 0 (List.replicate 256 (0:Int))).bind fun (k57,st58)=>some st58
theorem eI  (r:List Int) (h:fG  = some r):ar Tryz.prog 38 #[] .triv (av) (fun v A' N=> ∃ q:Nat,v=jP q∧A'=av∧N = [fZ 131 q r]):=by
 refine aJ Tryz.func38 Z Tryz.ntmps38 Z ?_
 intro F w hX
 unfold fG at h
 refine T.seq (T.region Z (TL.run ay [0] Z Z (TL.nil (X.seq (T.seq (T.region Z (TL.q Z .u (Ex.bldZ Tryz.zeroValue131 zC Tryz.sizeOf80) Z ?_)))))))
 refine TL.tNew Z .u Z (by kernel_rfl) Z (fun b1=> ?_)
 refine TL.run ay [2] Z Z (TL.nil (X.seq (T.seq (T.seq (T.region Z (TL.run ay [0] Z Z (TL.nil (X.seq (T.block ?_)))))))))
 obtain⟨E4,hE5,hO6⟩:=xL h
 refine v9 (fun m e Rs=> ∃ (k2:Nat) (st3:List Int),e = [(0,.pointer none),(1,jP b1),(6,jI (k2:Int))]∧Rs = [fZ 131 b1 st3,av]∧dw m k2 st3=some E4) ((256:Int).toNat+1) [0,0] ⟨0,(List.replicate 256 (0:Int)),Z,Z,by exact hE5⟩ (by rfl) (by rfl) ?_
 rintro m7 _ _ ⟨k2,st3,rfl,rfl,hl9⟩
 clear hE5 h
 cases m7 with
 | zero =>
  rw[dw] at hl9
  cases hl9
 | succ m7 =>
  have h:=hl9
  clear hl9
  rw[dw] at h
  refine T.seq (T.region Z (TL.run ay [0] Z Z ?_))
  rcases jF h with⟨c11,h⟩ | ⟨c11,h⟩
  ·refine TL.nil (X.seq (T.seq (vw Z (xM c11) (T.skip (X.seq (T.seq ?_))))))
   obtain⟨st33,h,hk34⟩:=xL h
   refine wn (fun e Rs=>e = [(0,.pointer none),(1,jP b1),(6,jI (k2:Int))]∧Rs = [fZ 131 b1 st33,av]) ?_ ?_
   ·clear hk34
    refine T.block (T.seq (T.region Z (TL.run ay [0,1] Z Z (TL.nil (X.seq (T.seq (T.region Z (TL.run ay [0] Z Z (TL.q Z .u (xc Z yF yK) Z (TL.run ay [2] Z Z (TL.nil (X.seq (T.seq (T.seq (T.region Z (TL.run ay [0] Z Z ?_))))))))))))))))
    refine TL.nil (X.seq (T.block ?_))
    obtain⟨E37,hE38,hO39⟩:=xL h
    refine v9 (fun m e Rs=> ∃ (y35:Int) (k36:Nat),e = [(0,.pointer none),(1,jP b1),(2,jI (k2:Int)),(3,.int .u32 y35),(6,jI (k2:Int)),(11,jI (k36:Int))]∧Rs = [fZ 131 b1 st3,av]∧cW m y35 k36=some E37) ((8:Int).toNat+1) [0,0] ⟨(IntKind.u32.wrap (k2:Int)),0,Z,Z,by exact hE38⟩ (by rfl) (by rfl) ?_
    rintro m40 _ _ ⟨y35,k36,rfl,rfl,hl42⟩
    clear hE38 h
    cases m40 with
    | zero =>
     rw[cW] at hl42
     cases hl42
    | succ m40 =>
     have h:=hl42
     clear hl42
     rw[cW] at h
     refine T.seq (T.region Z (TL.run ay [0] Z Z ?_))
     rcases jF h with⟨c44,h⟩ | ⟨c44,h⟩
     ·refine TL.nil (X.seq (T.seq (vw Z (xM c44) (T.skip (X.seq (T.seq (T.block (T.seq (T.region Z (TL.run ay [0] Z Z (TL.q Z .u (Ex.bitw Z Z Z) Z (TL.run ay [2] Z Z (TL.nil (X.seq ?_))))))))))))))
      obtain⟨y46,h,hk47⟩:=xL h
      refine wn (fun e Rs=>e = [(0,.pointer none),(1,jP b1),(2,jI (k2:Int)),(3,.int .u32 y46),(6,jI (k2:Int)),(11,jI (k36:Int))]∧Rs = [fZ 131 b1 st3,av]) ?_ ?_
      ·clear hk47
       rcases jF h with⟨c48,h⟩ | ⟨c48,h⟩
       ·refine vw Z (xM c48) (T.region Z (TL.run ay [0] Z Z (TL.q Z .u (Ex.shr Z Z (by decide)) Z (TL.q Z .u (Ex.bitw Z Z Z) Z (TL.run ay [3] Z Z ?_)))))
        cases h
        exact TL.nil (vN [0,0] ⟨Z,Z⟩ (by rfl) (by rfl))
       ·refine vC Z (xN c48) (T.region Z (TL.run ay [0] Z Z (TL.q Z .u (Ex.shr Z Z (by decide)) Z (TL.run ay [2] Z Z ?_))))
        cases h
        exact TL.nil (vN [0,0] ⟨Z,Z⟩ (by rfl) (by rfl))
      ·rintro _ _ ⟨rfl,rfl⟩
       clear h
       have h:=hk47
       clear hk47
       try dsimp only at h
       replace h:=ak h
       obtain⟨c49,h⟩:=h
       exact vF (X.seq (T.region Z (TL.q Z .u (Ex.add Z Z c49) Z (TL.run ay [1] Z Z (TL.nil (X.back (m':=m40) [0,0] (by omega) ⟨y46,k36+1,Z,Z,h⟩ (by rfl) (by rfl)))))))
     ·refine TL.nil (X.seq (T.seq (vC Z (xN c44) ?_)))
      obtain rfl:=xO h
      replace h:=hO39
      clear hO39
      try dsimp only at h
      refine T.exit (vD (vD (v6 (X.seq (T.region Z ?_)))))
      obtain⟨x50,hx51,h⟩:=xL h
      refine TL.run ay [0,1,2,3] Z Z (TL.q Z .u (Ex.tIx (k:=k2) 0 Z Z Z zC Tryz.sizeOf80 Z hx51) Z (TL.tSt (k:=k2) 0 Z .u Z Z Tryz.sizeOf80 Z hx51 (vR [0,0] Z ?_)))
      cases h
      exact TL.nil (vF (vN [0,0] ⟨Z,Z⟩ (by rfl) (by rfl)))
   ·rintro _ _ ⟨rfl,rfl⟩
    clear h
    have h:=hk34
    clear hk34
    try dsimp only at h
    replace h:=ak h
    obtain⟨c56,h⟩:=h
    exact X.seq (T.region Z (TL.q Z .u (Ex.add Z Z c56) Z (TL.run ay [1] Z Z (TL.nil (X.back (m':=m7) [0,0] (by omega) ⟨k2+1,st33,Z,Z,h⟩ (by rfl) (by rfl))))))
  ·refine TL.nil (X.seq (T.seq (vC Z (xN c11) ?_)))
   obtain rfl:=xO h
   replace h:=hO6
   clear hO6
   try dsimp only at h
   refine T.exit (vD (vD (v6 (X.seq (T.seq (T.region Z (TL.run ay [0,1] Z Z ?_)))))))
   obtain rfl:=xO h
   exact TL.nil (X.seq (T.ret (vu [1,0] Tryz.results38 (vt Z) ⟨_,Z,Z,Z⟩ (by rfl) (.inl Z))))
def bH (a2:List UInt8):Nat→Int→Nat→List Int→Option (Int×Nat×List Int)
 | 0,_,_,_=>none
 | m7+1,y1,k2,st3=>if (k2:Int)<(a2.length:Int) then ((a2[k2]?).bind fun ch12=>if 0≤(Go.bits .xor .u8 (IntKind.u8.wrap y1) (ch12.toNat:Int)) then ((st3[(Go.bits .xor .u8 (IntKind.u8.wrap y1) (ch12.toNat:Int)).toNat]?).bind fun x15=>if -9223372036854775808≤((k2:Int)+1)∧((k2:Int)+1)≤9223372036854775807 then (bH a2 m7 (Go.bits .xor .u32 x15 (m6 .u32 y1 8)) (k2+1) st3) else none) else none) else some (y1,k2,st3)
def dE (st:List Int) (a1:Int) (a2:List UInt8):Option (Int×List Int):=(bH a2 (((a2.length:Int)).toNat+1) (Go.bits .xor .u32 4294967295 a1) 0 st).bind fun (y18,k19,st20)=>some ((Go.bits .xor .u32 4294967295 y18),st20)
theorem iA (g:Nat) (st:List Int) (a1:Int) (a2:List UInt8) (r:Int×List Int) (h:dE st a1 a2=some r):ar Tryz.prog 71 #[jP g,.int .u32 a1,jS a2] .triv (fZ 131 g st) (fun v A' N=>v= .int .u32 r.1∧A'=fZ 131 g r.2∧N = []):=by
 refine aJ Tryz.func71 Z Tryz.ntmps71 Z ?_
 intro F w hX
 unfold dE at h
 refine T.seq (T.region Z (TL.run ay [0] Z Z (TL.nil (X.seq (T.seq (T.region Z (TL.run ay [0] Z Z (TL.q Z .u (Ex.notK Z) Z (TL.run ay [2] Z Z (TL.nil (X.seq (T.seq (T.seq (T.region Z (TL.run ay [0] Z Z ?_)))))))))))))))
 refine TL.q Z .u (v5 Z xY) Z (TL.run ay [2] Z Z (TL.nil (X.seq (T.block ?_))))
 obtain⟨E4,hE5,hO6⟩:=xL h
 refine v9 (fun m e Rs=> ∃ (y1:Int) (k2:Nat) (st3:List Int),e = [(0,jP g),(2,jS a2),(6,.int .u32 0),(7,.int .u32 y1),(12,jI (a2.length:Int)),(13,jI (k2:Int))]∧Rs = [fZ 131 g st3]∧bH a2 m y1 k2 st3=some E4) (((a2.length:Int)).toNat+1) [0] ⟨(Go.bits .xor .u32 4294967295 a1),0,st,Z,Z,by exact hE5⟩ (by rfl) (by rfl) ?_
 rintro m7 _ _ ⟨y1,k2,st3,rfl,rfl,hl9⟩
 clear hE5 h
 cases m7 with
 | zero =>
  rw[bH] at hl9
  cases hl9
 | succ m7 =>
  have h:=hl9
  clear hl9
  rw[bH] at h
  refine T.seq (T.region Z (TL.run ay [0] Z Z ?_))
  rcases jF h with⟨c11,h⟩ | ⟨c11,h⟩
  ·refine TL.nil (X.seq (T.seq (vw Z (xM c11) (T.skip (X.seq (T.seq (T.block (T.seq (T.region Z (TL.run ay [0,1] Z Z ?_))))))))))
   refine TL.nil (X.seq (vQ (.q 0 (.q 1 (.q 2 (.q 3 (.q 4 (.q 5 (.q 6 (.q 7 (.q 8 (.q 9 (.q 10 (.q 11 (.q 12 (.q 13 .nil)))))))))))))) [0] Z uU (NoP.blk (NoP.seq (NoP.seq (NoP.blk (NoP.seq aO))))) (by kernel_rfl) ?_))
   refine TD.run ay [0,1] Z Z (TD.q Z .u (xc Z yK yE) Z ?_)
   obtain⟨ch12,hc13,h⟩:=xL h
   refine TD.run ay [3,4] Z Z (TD.q Z .u (Ex.sIx Z Z Z Tryz.underlying9 hc13) Z (TD.q Z .u (Ex.bitw Z Z Z) Z ?_))
   replace h:=ak h
   obtain⟨c14,h⟩:=h
   obtain⟨x15,hx16,h⟩:=xL h
   refine TD.run ay [7] Z Z (TD.q Z .u (Ex.tIx (k:=(Go.bits .xor .u8 (IntKind.u8.wrap y1) (ch12.toNat:Int)).toNat) 0 Z Z ((Int.toNat_of_nonneg c14).symm) zC Tryz.sizeOf80 Z hx16) Z (TD.q Z .u (Ex.tLd (k:=(Go.bits .xor .u8 (IntKind.u8.wrap y1) (ch12.toNat:Int)).toNat) 0 Z Tryz.isAgg80 Z hx16) Z (TD.run ay [10] Z Z (TD.q Z .u (Ex.shr Z Z (by decide)) Z (TD.q Z .u (Ex.bitw Z Z Z) Z (TD.run ay [13] Z Z ?_))))))
   replace h:=ak h
   obtain⟨c17,h⟩:=h
   exact TD.nil (vF (X.seq (T.region Z (TL.q Z .u (Ex.add Z Z c17) Z (TL.run ay [1] Z Z (TL.nil (X.back (m':=m7) [0] (by omega) ⟨(Go.bits .xor .u32 x15 (m6 .u32 y1 8)),k2+1,st3,Z,Z,h⟩ (by rfl) (by rfl))))))))
  ·refine TL.nil (X.seq (T.seq (vC Z (xN c11) ?_)))
   obtain rfl:=xO h
   replace h:=hO6
   clear hO6
   try dsimp only at h
   refine T.exit (vD (vD (v6 (X.seq (T.seq (T.region Z (TL.run ay [0] Z Z (TL.q Z .u (Ex.notK Z) Z (TL.run ay [2] Z Z ?_)))))))))
   obtain rfl:=xO h
   exact TL.nil (X.seq (T.ret (vu [0] Tryz.results71 (vt Z) ⟨Z,Z,Z⟩ (by rfl) (.inl Z))))
def bw:List (List UInt8)→Int→List Int→Option (Int×List Int)
 | [],y3,st5=>some (y3,st5)
 | x10::xs,y3,st5=>(dE st5 y3 x10).bind fun (x14,st15)=>bw xs x14 st15
def dp (st:List Int) (a1:List (List UInt8)):Option (Int×List Int):=(bw a1 0 st).bind fun (y17,st19)=>some (y17,st19)
theorem dk (g:Nat) (st:List Int) (a1:List (List UInt8)) (A1:Option Addr) (c2:Nat) (r:Int×List Int) (h:dp st a1=some r):ar Tryz.prog 39 #[jP g,.slice A1 a1.length c2] (RX.of (aq 1 gY) [.slice A1 a1.length c2] a1) (fZ 131 g st) (fun v A' N=>v= .int .u32 r.1∧A'=fZ 131 g r.2∧N = []):=by
 refine aJ Tryz.func39 Z Tryz.ntmps39 Z ?_
 intro F w hX
 unfold dp at h
 refine T.seq (T.region Z (TL.run ay [0] Z Z (TL.nil (X.seq (T.seq (T.region Z (TL.run ay [0] Z Z (TL.nil (X.seq (T.seq (T.seq (T.region Z (TL.run ay [0] Z Z (TL.q Z .u (vH Z yU) Z (TL.run ay [2] Z Z ?_)))))))))))))))
 refine TL.nil (X.seq (T.block ?_))
 obtain⟨E6,hE7,hO8⟩:=xL h
 have hk12len:=wd hX
 refine v9 (fun m e Rs=> ∃ (y3:Int) (k4:Nat) (st5:List Int),k4+m=a1.length∧e = [(0,jP g),(4,.int .u32 0),(5,.int .u32 y3),(8,.slice A1 a1.length c2),(9,jI (a1.length:Int)),(10,jI (k4:Int))]∧Rs = [fZ 131 g st5]∧bw (a1.drop k4) y3 st5=some E6) (a1.length) [0] ⟨0,0,st,by simp,Z,Z,by rw[List.drop_zero]; exact hE7⟩ (by rfl) (by rfl) ?_
 rintro m9 _ _ ⟨y3,k4,st5,hk12,rfl,rfl,hl11⟩
 clear hE7 h
 cases m9 with
 | zero =>
  have h:=hl11
  clear hl11
  rw[List.drop_of_length_le (by omega),bw] at h
  have hk12ge: ¬ ((k4:Int)<(a1.length:Int)):=by omega
  refine T.seq (T.region Z (TL.run ay [0] Z Z (TL.nil (X.seq (T.seq (vC Z (xN hk12ge) ?_))))))
  obtain rfl:=xO h
  replace h:=hO8
  clear hO8
  try dsimp only at h
  refine T.exit (vD (vD (v6 (X.seq (T.seq (T.region Z (TL.run ay [0,1] Z Z ?_)))))))
  obtain rfl:=xO h
  exact TL.nil (X.seq (T.ret (vu [0] Tryz.results39 (vt Z) ⟨Z,Z,Z⟩ (by rfl) (.inl Z))))
 | succ m9 =>
  have h:=hl11
  clear hl11
  obtain⟨x10,hxx10⟩: ∃ x,a1[k4]? = some x:=⟨_,List.getElem?_eq_getElem (by omega)⟩
  rw[cm hxx10,bw] at h
  have hk12lt:(k4:Int)<(a1.length:Int):=by omega
  refine T.seq (T.region Z (TL.run ay [0] Z Z (TL.nil (X.seq (T.seq (vw Z (xM hk12lt) ?_))))))
  obtain⟨gz13,oz13,rfl,z13cs,z13cl,z13cc,z13nf,z13r⟩:=vV (by decide) hX hxx10
  obtain⟨z13S,z13r,z13rr⟩:=z13r
  obtain rfl:z13cs = [jS x10]:=z13r
  refine T.skip (X.seq (T.seq (T.block (T.seq (T.region Z ?_)))))
  refine TL.q Z .u (vM (k:=k4) Z Z Z yU yL (xS hxx10).1) Z ?_
  refine TL.q Z .u (wM 0 Z yM z13nf z13cc Z Z) Z (TL.run ay [2] Z Z (TL.nil (X.seq (T.region Z ?_))))
  obtain⟨⟨x14,st15⟩,hx16,h⟩:=xL h
  try dsimp only at h
  exact TL.run ay [0,1,2] Z Z (vX Z .u (.fn Tryz.call71 Z) (iA g st5 y3 x10 _ hx16) (fun _ hs=>(Src.triv _)) Z (TL.run ay [4] Z Z (TL.nil (vF (X.seq (T.region Z (TL.q Z .u (Ex.add Z Z (by omega)) Z (TL.run ay [1] Z Z (TL.nil (X.back (m':=m9) [0] (by omega) ⟨x14,k4+1,st15,by omega,Z,Z,h⟩ (by rfl) (by rfl)))))))))))
end Go.Proofs.YtahjmpipllajcaaGreat.Sl
