/- scanRows_holds: part 4. -/
import Derived.Test.YtahjmpipllajcaaGreatK3
set_option maxRecDepth 100000
set_option maxHeartbeats 4000000
set_option linter.defProp false
namespace Go.Proofs.YtahjmpipllajcaaGreat.Sl
open Go.RowKit
set_option linter.unusedVariables false
set_option linter.unusedSimpArgs false
def ym := @Tryz.runUnderlying40
def zd := @Tryz.results52
def zj := @Tryz.results27
def zo := @Tryz.results53
def zI := @Tryz.results30
def kP:dY := []
theorem ai:(kP).OK Tryz.prog:=trivial
theorem kh:Tryz.prog.follows .mixedOrders=true:=by kernel_rfl
theorem gG:SOK Tryz.prog 40 3 17 1 #[.int .i64 0,.int .i64 0,.int .i64 0,.int .i64 0,.int .i64 0,.int .i64 0,.int .i64 0,.int .i64 0,.int .i64 0,.int .i64 0,.int .i64 0,.int .i64 0,.int .i64 0,.int .i64 0,.int .i64 0,.int .i64 0,.int .i64 0]:=SOK.mk ym xU Tryz.zeroValue3 (by decide) (by kernel_rfl)
theorem i4:(Tryz.prog.info? 3).map (fun i=>(i.zero,i.size,i.bytes))=some (some (.int .i64 0),1,8):=by kernel_rfl
def dx (a1:Int):Nat→Int→Nat→Option (Int×Nat)
 | 0,_,_=>none
 | m11+1,y6,k7=>if 0≤a1∧a1≤9223372036854775807 then (if (k7:Int)<(a1 % 8) then (if 0≤y6∧y6≤9223372036854775807 then (if -9223372036854775808≤((k7:Int)+1)∧((k7:Int)+1)≤9223372036854775807 then (dx a1 m11 (y6 / 2) (k7+1)) else none) else none) else some (y6,k7)) else none
def gH (a0:List UInt8) (a1:Int):Option (Int):=if 0≤a1∧a1≤9223372036854775807 then (if 0≤(a1 / 8) then ((a0[(a1 / 8).toNat]?).bind fun ch3=>if -9223372036854775808≤(ch3.toNat:Int)∧(ch3.toNat:Int)≤9223372036854775807 then ((dx a1 (((a1 % 8)).toNat+1) (ch3.toNat:Int) 0).bind fun (y20,k21)=>if 0≤y20∧y20≤9223372036854775807 then some (y20 % 2) else none) else none) else none) else none
theorem mv (a0:List UInt8) (a1:Int) (r:Int) (h:gH a0 a1=some r):ar Tryz.prog 59 #[jS a0,jI a1] .triv (av) (fun v A' N=>v=jI r∧A'=av∧N = []):=by
 refine aJ Tryz.func59 Z Tryz.ntmps59 Z ?_
 intro F w hX
 unfold gH at h
 refine T.seq (T.region Z (TL.run ai [0] Z Z (TL.nil (X.seq (T.seq (T.region Z ?_))))))
 replace h:=ak h
 obtain⟨c1,h⟩:=h
 refine TL.run ai [0,1] Z Z (TL.q Z .u (Ex.quo Z Z (by omega) c1) Z ?_)
 replace h:=ak h
 obtain⟨c2,h⟩:=h
 obtain⟨ch3,hc4,h⟩:=xL h
 refine TL.q Z .u (Ex.sIx Z Z ((Int.toNat_of_nonneg c2).symm) Tryz.underlying9 hc4) Z ?_
 replace h:=ak h
 obtain⟨c5,h⟩:=h
 refine TL.q Z .u (wq Z yE yF c5) Z (TL.run ai [5] Z Z (TL.nil (X.seq (T.seq (T.seq (T.region Z (TL.run ai [0] Z Z (TL.nil (X.seq (T.block ?_))))))))))
 obtain⟨E8,hE9,hO10⟩:=xL h
 refine v9 (fun m e Rs=> ∃ (y6:Int) (k7:Nat),e = [(1,jI a1),(4,jI 0),(5,jI y6),(6,jI (k7:Int))]∧Rs = [av]∧dx a1 m y6 k7=some E8) (((a1 % 8)).toNat+1) [0] ⟨(ch3.toNat:Int),0,Z,Z,by exact hE9⟩ (by rfl) (by rfl) ?_
 rintro m11 _ _ ⟨y6,k7,rfl,rfl,hl13⟩
 clear hE9 h
 cases m11 with
 | zero =>
  rw[dx] at hl13
  cases hl13
 | succ m11 =>
  have h:=hl13
  clear hl13
  rw[dx] at h
  refine T.seq (T.seq (T.region Z ?_))
  replace h:=ak h
  obtain⟨c15,h⟩:=h
  refine TL.run ai [0,1] Z Z (TL.q Z .u (Ex.rem Z Z (by omega) c15) Z (TL.run ai [3] Z Z ?_))
  rcases jF h with⟨c16,h⟩ | ⟨c16,h⟩
  ·refine TL.nil (X.seq (vw Z (xM c16) (T.skip (X.seq (T.seq (T.block (T.region Z ?_)))))))
   replace h:=ak h
   obtain⟨c17,h⟩:=h
   refine TL.run ai [0] Z Z (TL.q Z .u (Ex.quo Z Z (by omega) c17) Z (TL.run ai [2] Z Z (TL.nil (vF (X.seq (T.region Z ?_))))))
   replace h:=ak h
   obtain⟨c18,h⟩:=h
   exact TL.run ai [0] Z Z (TL.q Z .u (Ex.add Z Z c18) Z (TL.run ai [2] Z Z (TL.nil (X.back (m':=m11) [0] (by omega) ⟨(y6 / 2),k7+1,Z,Z,h⟩ (by rfl) (by rfl)))))
  ·refine TL.nil (X.seq (vC Z (xN c16) ?_))
   obtain rfl:=xO h
   replace h:=hO10
   clear hO10
   try dsimp only at h
   refine T.exit (vD (vD (v6 (X.seq (T.seq (T.region Z ?_))))))
   replace h:=ak h
   obtain⟨c19,h⟩:=h
   refine TL.run ai [0] Z Z (TL.q Z .u (Ex.rem Z Z (by omega) c19) Z (TL.run ai [2] Z Z ?_))
   obtain rfl:=xO h
   exact TL.nil (X.seq (T.ret (vu [0] Tryz.results59 (vt Z) ⟨Z,Z,Z⟩ (by rfl) (.inl Z))))
def dS (a0:Int):Nat→Int→Nat→Option (Lp Int (Int×Nat))
 | 0,_,_=>none
 | m7+1,y2,k3=>if (k3:Int)<([28,27,26,25,23,22,20,19,18,14,13,11,10,9,8,6,0].length:Int) then (([28,27,26,25,23,22,20,19,18,14,13,11,10,9,8,6,0][k3]?).bind fun x12=>if x12=a0 then some (Lp.ret 1) else (if -9223372036854775808≤((k3:Int)+1)∧((k3:Int)+1)≤9223372036854775807 then (dS a0 m7 y2 (k3+1)) else none)) else (some (Lp.go (y2,k3)))
def fj (a0:Int):Option (Int):=(dS a0 ((([28,27,26,25,23,22,20,19,18,14,13,11,10,9,8,6,0].length:Int)).toNat+1) 0 0).bind fun e=>match e with | .ret r=>some r | .go (y17,k18)=>some 0
theorem gI (a0:Int) (r:Int) (h:fj a0=some r):ar Tryz.prog 60 #[jI a0] .triv (av) (fun v A' N=>v=jI r∧A'=av∧N = []):=by
 refine aJ Tryz.func60 Z Tryz.ntmps60 Z ?_
 intro F w hX
 unfold fj at h
 refine T.seq (T.region Z (TL.run ai [0] Z Z (TL.nil (X.seq (T.seq (T.region Z ?_))))))
 refine wG (cells:= #[jI 28,jI 27,jI 26,jI 25,jI 23,jI 22,jI 20,jI 19,jI 18,jI 14,jI 13,jI 11,jI 10,jI 9,jI 8,jI 6,jI 0]) Z .u gG Z (by kernel_rfl) Z (fun b1=> ?_)
 refine wW (us := [jI 28,jI 27,jI 26,jI 25,jI 23,jI 22,jI 20,jI 19,jI 18,jI 14,jI 13,jI 11,jI 10,jI 9,jI 8,jI 6,jI 0]) (xs := [28,27,26,25,23,22,20,19,18,14,13,11,10,9,8,6,0]) (E:=dN) (z:=1) Z (Nat.le_of_ble_eq_true Z) (fun _=>⟨Z,Z,⟨Z,Z,⟨Z,Z,⟨Z,Z,⟨Z,Z,⟨Z,Z,⟨Z,Z,⟨Z,Z,⟨Z,Z,⟨Z,Z,⟨Z,Z,⟨Z,Z,⟨Z,Z,⟨Z,Z,⟨Z,Z,⟨Z,Z,⟨Z,Z,Z⟩⟩⟩⟩⟩⟩⟩⟩⟩⟩⟩⟩⟩⟩⟩⟩⟩) (TL.run ai [1] Z Z (TL.nil (X.seq (T.seq (T.seq (T.region Z (TL.run ai [0] Z Z (TL.nil (X.seq (T.block ?_))))))))))
 obtain⟨E4,hE5,hO6⟩:=xL h
 refine v9 (fun m e Rs=> ∃ (y2:Int) (k3:Nat),e = [(0,jI a0),(2,jI y2),(3,.slice (some ⟨b1,0,none⟩) 17 17),(4,jI (k3:Int))]∧Rs = [aF 3 1 dN (.slice (some ⟨b1,0,none⟩) 17 17) [28,27,26,25,23,22,20,19,18,14,13,11,10,9,8,6,0],av]∧dS a0 m y2 k3=some E4) ((([28,27,26,25,23,22,20,19,18,14,13,11,10,9,8,6,0].length:Int)).toNat+1) [0,0] ⟨0,0,Z,Z,by exact hE5⟩ (by rfl) (by rfl) ?_
 rintro m7 _ _ ⟨y2,k3,rfl,rfl,hl9⟩
 clear hE5 h
 cases m7 with
 | zero =>
  rw[dS] at hl9
  cases hl9
 | succ m7 =>
  have h:=hl9
  clear hl9
  rw[dS] at h
  refine T.seq (T.seq (T.region Z (TL.run ai [0,1] Z Z (TL.q Z .u (vH Z ym) Z (TL.run ai [3] Z Z ?_)))))
  rcases jF h with⟨c11,h⟩ | ⟨c11,h⟩
  ·refine TL.nil (X.seq (vw Z (xM c11) (T.skip (X.seq (T.seq (T.block (T.seq (T.region Z ?_))))))))
   obtain⟨x12,hx13,h⟩:=xL h
   refine TL.run ai [0,1] Z Z (wT (E:=dN) (k:=k3) 0 Z (fun w G h=>ba (by decide) w G h) (by decide) hx13 ?_)
   rintro gg oo z14cs hA z14cl ⟨_,_,z14r⟩
   cases hA
   obtain rfl:z14cs = [jI x12]:=z14r
   clear z14cl
   refine vR [0,0] Z ?_
   refine TL.q Z .u (vM (k:=k3) Z Z Z ym xU (xS hx13).1) Z ?_
   refine TL.q Z .u (wQ (cs := [jI x12]) 0 0 Z xQ Z (fun _ _ h=>h.2.2.1) Z) Z (TL.run ai [4,5] Z Z ?_)
   rcases jF h with⟨c15,h⟩ | ⟨c15,h⟩
   ·refine TL.nil (X.seq (vw Z (xM c15) (T.seq (T.region Z (TL.run ai [0] Z Z ?_)))))
    obtain rfl:=xO h
    replace h:=hO6
    clear hO6
    try dsimp only at h
    obtain rfl:=xO h
    exact TL.nil (X.seq (T.ret (vJ (vx (vx (vJ (vx (vu [1] Tryz.results60 (vt Z) ⟨Z,Z,Z⟩ (by rfl) (.inl Z)))))))))
   ·refine TL.nil (X.seq (vC Z (xN c15) (T.skip (vF (X.seq (T.region Z ?_))))))
    replace h:=ak h
    obtain⟨c16,h⟩:=h
    exact TL.run ai [0] Z Z (TL.q Z .u (Ex.add Z Z c16) Z (TL.run ai [2] Z Z (TL.nil (X.unf 0 Z (vU [0,0] Z (X.back (m':=m7) [0,0] (by omega) ⟨y2,k3+1,Z,Z,h⟩ (by rfl) (by rfl)))))))
  ·refine TL.nil (X.seq (vC Z (xN c11) ?_))
   obtain rfl:=xO h
   replace h:=hO6
   clear hO6
   try dsimp only at h
   refine T.exit (vD (vD (v6 (X.seq (T.seq (T.region Z (TL.run ai [0] Z Z ?_)))))))
   obtain rfl:=xO h
   exact TL.nil (X.seq (T.ret (vu [1] Tryz.results60 (vt Z) ⟨Z,Z,Z⟩ (by rfl) (.inl Z))))
def dy (k43:Nat):Nat→List Int→Int→Option (List Int×Int)
 | 0,_,_=>none
 | m63+1,y56,y59=>if y59≤32 then (if 0≤((k43:Int)+y59) then ((y56[((k43:Int)+y59).toNat]?).bind fun x69=>if -9223372036854775808≤((k43:Int)+y59)∧((k43:Int)+y59)≤9223372036854775807 then (if -9223372036854775808≤((k43:Int)+y59)∧((k43:Int)+y59)≤9223372036854775807 then (if -9223372036854775808≤(32 - y59)∧(32 - y59)≤9223372036854775807 then ((fj (32 - y59)).bind fun x75=>if -9223372036854775808≤(x69+x75)∧(x69+x75)≤9223372036854775807 then (if 0≤(x69+x75)∧(x69+x75)≤9223372036854775807 then (if -9223372036854775808≤(y59+1)∧(y59+1)≤9223372036854775807 then (dy k43 m63 (y56.set (((k43:Int)+y59).toNat) ((x69+x75) % 2)) (y59+1)) else none) else none) else none) else none) else none) else none) else none) else some (y56,y59)
def cz (a0:List UInt8) (y40:List Int):Nat→Int→Int→Option (Int×Int)
 | 0,_,_=>none
 | m92+1,y87,y88=>if y88≥0 then (if -9223372036854775808≤((8*(a0.length:Int))+y88)∧((8*(a0.length:Int))+y88)≤9223372036854775807 then (if 0≤((8*(a0.length:Int))+y88) then ((y40[((8*(a0.length:Int))+y88).toNat]?).bind fun x99=>if -9223372036854775808≤(1 - x99)∧(1 - x99)≤9223372036854775807 then (if -9223372036854775808≤(y88 - 1)∧(y88 - 1)≤9223372036854775807 then (cz a0 y40 m92 (IntKind.u32.wrap ((IntKind.u32.wrap (y87*2))+(IntKind.u32.wrap (1 - x99)))) (y88 - 1)) else none) else none) else none) else none) else some (y87,y88)
def cZ (a0:List UInt8):Nat→List Int→Nat→Option (List Int×Nat)
 | 0,_,_=>none
 | m47+1,y40,k43=>if (k43:Int)<(8*(a0.length:Int)) then ((y40[k43]?).bind fun x52=>if x52=1 then ((dy k43 (((33:Int) - (1)).toNat+1) y40 1).bind fun (y81,y84)=>if -9223372036854775808≤((k43:Int)+1)∧((k43:Int)+1)≤9223372036854775807 then (cZ a0 m47 y81 (k43+1)) else none) else (if -9223372036854775808≤((k43:Int)+1)∧((k43:Int)+1)≤9223372036854775807 then (cZ a0 m47 y40 (k43+1)) else none)) else some (y40,k43)
def dz:Nat→List Int→Nat→Option (List Int×Nat)
 | 0,_,_=>none
 | m30+1,y23,k26=>if (k26:Int)<32 then ((y23[k26]?).bind fun x35=>if -9223372036854775808≤(1 - x35)∧(1 - x35)≤9223372036854775807 then (if -9223372036854775808≤((k26:Int)+1)∧((k26:Int)+1)≤9223372036854775807 then (dz m30 (y23.set k26 (1 - x35)) (k26+1)) else none) else none) else some (y23,k26)
def dA (a0:List UInt8):Nat→List Int→Nat→Option (List Int×Nat)
 | 0,_,_=>none
 | m12+1,y5,k8=>if (k8:Int)<(8*(a0.length:Int)) then ((gH a0 (k8:Int)).bind fun x17=>(y5[k8]?).bind fun x19=>if -9223372036854775808≤((k8:Int)+1)∧((k8:Int)+1)≤9223372036854775807 then (dA a0 m12 (y5.set k8 x17) (k8+1)) else none) else some (y5,k8)
def gJ (a0:List UInt8):Option (Int):=if -9223372036854775808≤(8*(a0.length:Int))∧(8*(a0.length:Int))≤9223372036854775807 then (if -9223372036854775808≤((8*(a0.length:Int))+32)∧((8*(a0.length:Int))+32)≤9223372036854775807 then (if 0≤((8*(a0.length:Int))+32)∧8*(((8*(a0.length:Int))+32).toNat)≤281474976710656 then ((dA a0 (((8*(a0.length:Int))).toNat+1) (List.replicate (((8*(a0.length:Int))+32).toNat) (0:Int)) 0).bind fun (y222,k225)=>(dz ((32:Int).toNat+1) y222 0).bind fun (y332,k335)=>(cZ a0 (((8*(a0.length:Int))).toNat+1) y332 0).bind fun (y402,k405)=>(cz a0 y402 (((31:Int) - (-1)).toNat+1) 0 31).bind fun (y423,y424)=>some y423) else none) else none) else none
theorem mw (a0:List UInt8) (r:Int) (h:gJ a0=some r):ar Tryz.prog 32 #[jS a0] .triv (av) (fun v A' N=>v= .int .u32 r∧A'=av∧N = []):=by
 refine aJ Tryz.func32 Z Tryz.ntmps32 Z ?_
 intro F w hX
 unfold gJ at h
 refine T.seq (T.region Z (TL.run ai [0] Z Z (TL.nil (X.seq (T.seq (T.region Z (TL.run ai [0] Z Z (TL.q Z .u (v5 Z xY) Z ?_))))))))
 replace h:=ak h
 obtain⟨c1,h⟩:=h
 refine TL.q Z .u (Ex.mul Z Z c1) Z (TL.run ai [3] Z Z (TL.nil (X.seq (T.seq (T.region Z ?_)))))
 replace h:=ak h
 obtain⟨c2,h⟩:=h
 refine TL.run ai [0] Z Z (TL.q Z .u (Ex.add Z Z c2) Z ?_)
 replace h:=ak h
 obtain⟨c3,h⟩:=h
 refine TL.mk1 (k:=((8*(a0.length:Int))+32).toNat) (v:=jI 0) dN (0:Int) Z .u Tryz.underlying40 i4 Z Z (Int.toNat_of_nonneg c3.1).symm c3.2 (by have hq:=c3.2; omega) (fun _ _=>Z) Z (fun b4=> ?_)
 refine TL.run ai [3] Z Z (TL.nil (X.seq (T.seq (T.seq (T.region Z (TL.run ai [0] Z Z (TL.nil (X.seq (T.block ?_)))))))))
 obtain⟨E9,hE10,hO11⟩:=xL h
 refine v9 (fun m e Rs=> ∃ (y5:List Int) (A6:Option Addr) (c7:Nat) (k8:Nat),e = [(0,jS a0),(2,.int .u32 0),(3,jI (8*(a0.length:Int))),(4,.slice A6 y5.length c7),(5,jI (k8:Int))]∧Rs = [aF 3 1 dN (.slice A6 y5.length c7) y5,av]∧dA a0 m y5 k8=some E9) (((8*(a0.length:Int))).toNat+1) [0,0] ⟨(List.replicate (((8*(a0.length:Int))+32).toNat) (0:Int)),(some ⟨b4,0,none⟩),(List.replicate (((8*(a0.length:Int))+32).toNat) (0:Int)).length,0,Z,Z,by exact hE10⟩ (by rfl) (by rfl) ?_
 rintro m12 _ _ ⟨y5,A6,c7,k8,rfl,rfl,hl14⟩
 clear hE10 h
 cases m12 with
 | zero =>
  rw[dA] at hl14
  cases hl14
 | succ m12 =>
  have h:=hl14
  clear hl14
  rw[dA] at h
  refine T.seq (T.seq (T.region Z (TL.run ai [0,1,2] Z Z ?_)))
  rcases jF h with⟨c16,h⟩ | ⟨c16,h⟩
  ·refine TL.nil (X.seq (vw Z (xM c16) (T.skip (X.seq (T.seq (T.block (T.region Z ?_)))))))
   obtain⟨x17,hx18,h⟩:=xL h
   refine TL.run ai [0,1,2,3] Z Z (vL Z .u (.fn Tryz.call59 Z) (mv a0 (k8:Int) _ hx18) (fun _ hs=>(vy _ _)) Z ?_)
   obtain⟨x19,hx20,h⟩:=xL h
   refine wT (E:=dN) (k:=k8) 0 Z (fun w G h=>ba (by decide) w G h) (by decide) hx20 ?_
   rintro gz21 oz21 z21cs hA z21cl ⟨_,_,z21r⟩
   cases hA
   obtain rfl:z21cs = [jI x19]:=z21r
   clear z21cl
   refine vR [0,0] Z ?_
   refine TL.q Z .u (vM (k:=k8) Z Z Z ym xU (xS hx20).1) Z ?_
   refine TL.unf 0 Z (vR [0,0] Z (TL.stE (k:=k8) (u:=x19) (u':=x17) 0 0 Z .u Z Z xU Z hx20 Z Z Z Z (fun _ _ _ _ h=>by subst h; rfl) (vR [0,0] Z ?_)))
   rw[show y5.length=(y5.set k8 x17).length from (List.length_set ..).symm]
   refine TL.nil (vF (X.seq (T.region Z ?_)))
   replace h:=ak h
   obtain⟨c22,h⟩:=h
   exact TL.run ai [0] Z Z (TL.q Z .u (Ex.add Z Z c22) Z (TL.run ai [2] Z Z (TL.nil (X.back (m':=m12) [0,0] (by omega) ⟨(y5.set k8 x17),(some ⟨gz21,oz21,none⟩),c7,k8+1,Z,Z,h⟩ (by rfl) (by rfl)))))
  ·refine TL.nil (X.seq (vC Z (xN c16) ?_))
   obtain rfl:=xO h
   replace h:=hO11
   clear hO11
   try dsimp only at h
   refine T.exit (vD (vD (v6 (X.seq (T.seq (T.seq (T.region Z (TL.run ai [0] Z Z (TL.nil (X.seq (T.block ?_)))))))))))
   obtain⟨E27,hE28,hO29⟩:=xL h
   refine v9 (fun m e Rs=> ∃ (y23:List Int) (A24:Option Addr) (c25:Nat) (k26:Nat),e = [(2,.int .u32 0),(3,jI (8*(a0.length:Int))),(4,.slice A24 y23.length c25),(6,jI (k26:Int))]∧Rs = [aF 3 1 dN (.slice A24 y23.length c25) y23,av]∧dz m y23 k26=some E27) ((32:Int).toNat+1) [0,0] ⟨y5,A6,c7,0,Z,Z,by exact hE28⟩ (by rfl) (by rfl) ?_
   rintro m30 _ _ ⟨y23,A24,c25,k26,rfl,rfl,hl32⟩
   clear hE28 h
   cases m30 with
   | zero =>
    rw[dz] at hl32
    cases hl32
   | succ m30 =>
    have h:=hl32
    clear hl32
    rw[dz] at h
    refine T.seq (T.seq (T.region Z (TL.run ai [0,1] Z Z ?_)))
    rcases jF h with⟨c34,h⟩ | ⟨c34,h⟩
    ·refine TL.nil (X.seq (vw Z (xM c34) (T.skip (X.seq (T.seq (T.block (T.region Z ?_)))))))
     obtain⟨x35,hx36,h⟩:=xL h
     refine TL.run ai [0,1,2,3] Z Z (wT (E:=dN) (k:=k26) 0 Z (fun w G h=>ba (by decide) w G h) (by decide) hx36 ?_)
     rintro gz37 oz37 z37cs hA z37cl ⟨_,_,z37r⟩
     cases hA
     obtain rfl:z37cs = [jI x35]:=z37r
     clear z37cl
     refine vR [0,0] Z ?_
     refine TL.q Z .u (vM (k:=k26) Z Z Z ym xU (xS hx36).1) Z ?_
     refine TL.q Z .u (wQ (cs := [jI x35]) 0 0 Z xQ Z (fun _ _ h=>h.2.2.1) Z) Z ?_
     replace h:=ak h
     obtain⟨c38,h⟩:=h
     refine TL.q Z .u (Ex.sub Z Z c38) Z ?_
     refine TL.q Z .u (vM (k:=k26) Z Z Z ym xU (xS hx36).1) Z ?_
     refine TL.unf 0 Z (vR [0,0] Z (TL.stE (k:=k26) (u:=x35) (u':=(1 - x35)) 0 0 Z .u Z Z xU Z hx36 Z Z Z Z (fun _ _ _ _ h=>by subst h; rfl) (vR [0,0] Z ?_)))
     rw[show y23.length=(y23.set k26 (1 - x35)).length from (List.length_set ..).symm]
     refine TL.nil (vF (X.seq (T.region Z ?_)))
     replace h:=ak h
     obtain⟨c39,h⟩:=h
     exact TL.run ai [0] Z Z (TL.q Z .u (Ex.add Z Z c39) Z (TL.run ai [2] Z Z (TL.nil (X.back (m':=m30) [0,0] (by omega) ⟨(y23.set k26 (1 - x35)),(some ⟨gz37,oz37,none⟩),c25,k26+1,Z,Z,h⟩ (by rfl) (by rfl)))))
    ·refine TL.nil (X.seq (vC Z (xN c34) ?_))
     obtain rfl:=xO h
     replace h:=hO29
     clear hO29
     try dsimp only at h
     refine T.exit (vD (vD (v6 (X.seq (T.seq (T.seq (T.region Z (TL.run ai [0] Z Z (TL.nil (X.seq (T.block ?_)))))))))))
     obtain⟨E44,hE45,hO46⟩:=xL h
     refine v9 (fun m e Rs=> ∃ (y40:List Int) (A41:Option Addr) (c42:Nat) (k43:Nat),e = [(2,.int .u32 0),(3,jI (8*(a0.length:Int))),(4,.slice A41 y40.length c42),(7,jI (k43:Int))]∧Rs = [aF 3 1 dN (.slice A41 y40.length c42) y40,av]∧cZ a0 m y40 k43=some E44) (((8*(a0.length:Int))).toNat+1) [0,0] ⟨y23,A24,c25,0,Z,Z,by exact hE45⟩ (by rfl) (by rfl) ?_
     rintro m47 _ _ ⟨y40,A41,c42,k43,rfl,rfl,hl49⟩
     clear hE45 h
     cases m47 with
     | zero =>
      rw[cZ] at hl49
      cases hl49
     | succ m47 =>
      have h:=hl49
      clear hl49
      rw[cZ] at h
      refine T.seq (T.seq (T.region Z (TL.run ai [0,1,2] Z Z ?_)))
      rcases jF h with⟨c51,h⟩ | ⟨c51,h⟩
      ·refine TL.nil (X.seq (vw Z (xM c51) (T.skip (X.seq (T.seq (T.block (T.seq (T.region Z ?_))))))))
       obtain⟨x52,hx53,h⟩:=xL h
       refine TL.run ai [0,1] Z Z (wT (E:=dN) (k:=k43) 0 Z (fun w G h=>ba (by decide) w G h) (by decide) hx53 ?_)
       rintro gz54 oz54 z54cs hA z54cl ⟨_,_,z54r⟩
       cases hA
       obtain rfl:z54cs = [jI x52]:=z54r
       clear z54cl
       refine vR [0,0] Z ?_
       refine TL.q Z .u (vM (k:=k43) Z Z Z ym xU (xS hx53).1) Z ?_
       refine TL.q Z .u (wQ (cs := [jI x52]) 0 0 Z xQ Z (fun _ _ h=>h.2.2.1) Z) Z (TL.run ai [4] Z Z ?_)
       rcases jF h with⟨c55,h⟩ | ⟨c55,h⟩
       ·refine TL.nil (X.seq (vw Z (xM c55) (T.seq (T.region Z (TL.run ai [0] Z Z (TL.nil (X.seq (T.block (T.unf 0 Z (T.sel [0,0] Z ?_))))))))))
        obtain⟨E60,hE61,hO62⟩:=xL h
        refine v9 (fun m e Rs=> ∃ (y56:List Int) (A57:Option Addr) (c58:Nat) (y59:Int),e = [(2,.int .u32 0),(3,jI (8*(a0.length:Int))),(4,.slice A57 y56.length c58),(7,jI (k43:Int)),(8,jI y59)]∧Rs = [aF 3 1 dN (.slice A57 y56.length c58) y56,av]∧dy k43 m y56 y59=some E60) (((33:Int) - (1)).toNat+1) [0,0] ⟨y40,(some ⟨gz54,oz54,none⟩),c42,1,Z,Z,by exact hE61⟩ (by rfl) (by rfl) ?_
        rintro m63 _ _ ⟨y56,A57,c58,y59,rfl,rfl,hl65⟩
        clear hE61 h
        cases m63 with
        | zero =>
         rw[dy] at hl65
         cases hl65
        | succ m63 =>
         have h:=hl65
         clear hl65
         rw[dy] at h
         refine T.seq (T.seq (T.region Z (TL.run ai [0,1] Z Z ?_)))
         rcases jF h with⟨c67,h⟩ | ⟨c67,h⟩
         ·refine TL.nil (X.seq (vw Z (xM c67) ?_))
          replace h:=ak h
          obtain⟨c68,h⟩:=h
          obtain⟨x69,hx70,h⟩:=xL h
          refine T.skip (X.seq (T.seq (T.block (T.foc (E:=dN) (k:=((k43:Int)+y59).toNat) 0 Z (fun w G h=>ba (by decide) w G h) (by decide) hx70 ?_))))
          rintro gz71 oz71 z71cs hA z71cl ⟨_,_,z71r⟩
          cases hA
          obtain rfl:z71cs = [jI x69]:=z71r
          clear z71cl
          refine T.sel [0,0] Z ?_
          replace h:=ak h
          obtain⟨c72,h⟩:=h
          replace h:=ak h
          obtain⟨c73,h⟩:=h
          replace h:=ak h
          obtain⟨c74,h⟩:=h
          obtain⟨x75,hx76,h⟩:=xL h
          replace h:=ak h
          obtain⟨c77,h⟩:=h
          replace h:=ak h
          obtain⟨c78,h⟩:=h
          refine T.join (fun e Rs=>e = [(2,.int .u32 0),(3,jI (8*(a0.length:Int))),(4,.slice (some ⟨gz71,oz71,none⟩) (y56.set (((k43:Int)+y59).toNat) ((x69+x75) % 2)).length c58),(7,jI (k43:Int)),(8,jI y59),(50,jI y59)]∧Rs = [aF 3 1 dN (.slice (some ⟨gz71,oz71,none⟩) (y56.set (((k43:Int)+y59).toNat) ((x69+x75) % 2)).length c58) (y56.set (((k43:Int)+y59).toNat) ((x69+x75) % 2)),av]) ?_ ?_
          ·refine vQ (.q 0 (.q 1 (.q 2 (.q 3 (.q 4 (.q 5 (.q 6 (.q 7 (.q 8 (.q 10 (.q 11 (.br 9 (.e 12 (.q 13 (.q 14 (.q 15 (.e 16 .nil))))) (.e 12 (.e 9 (.q 13 (.q 14 (.q 15 (.e 16 .nil)))))))))))))))))) [1] Z kh nB (by kernel_rfl) ?_
           refine TD.run ai [0,1,2] Z Z (TD.q Z .u (Ex.add Z Z c72) Z (TD.run ai [4,5,6] Z Z (TD.q Z .u (Ex.add Z Z c73) Z ?_)))
           refine TD.q Z .u (vM (k:=((k43:Int)+y59).toNat) Z Z ((Int.toNat_of_nonneg c68).symm) ym xU (xS hx70).1) Z ?_
           refine TD.run ai [10] Z Z (TD.q Z .u (Ex.sub Z Z c74) Z ?_)
           refine TD.br ?_ ?_
           ·refine wb Z .u (wQ (cs := [jI x69]) 0 0 Z xQ Z (fun _ _ h=>h.2.2.1) Z) Z [1] Z (vY Z .u (.fn Tryz.call60 Z) (gI (32 - y59) _ hx76) (fun _ hs=>(vy _ _)) Z [1] (Z) (TD.q Z .u (Ex.add Z Z c77) Z (TD.q Z .u (Ex.rem Z Z (by omega) c78) Z ?_)))
            refine TD.q Z .u (vM (k:=((k43:Int)+y59).toNat) Z Z ((Int.toNat_of_nonneg c68).symm) ym xU (xS hx70).1) Z ?_
            refine TD.unf 0 Z (v7 [0,0] Z (TD.stE (k:=((k43:Int)+y59).toNat) (u:=x69) (u':=((x69+x75) % 2)) 0 0 Z .u Z Z xU Z hx70 Z Z Z Z (fun _ _ _ _ h=>by subst h; rfl) [1] (Z) (v7 [0,0] Z ?_)))
            rw[show y56.length=(y56.set (((k43:Int)+y59).toNat) ((x69+x75) % 2)).length from (List.length_set ..).symm]
            exact TD.nil (wo [0,0] ⟨Z,Z⟩ (by rfl) (by rfl))
           ·refine vY Z .u (.fn Tryz.call60 Z) (gI (32 - y59) _ hx76) (fun _ hs=>(vy _ _)) Z [1] (Z) (wb Z .u (wQ (cs := [jI x69]) 0 0 Z xQ Z (fun _ _ h=>h.2.2.1) Z) Z [1] Z (TD.q Z .u (Ex.add Z Z c77) Z (TD.q Z .u (Ex.rem Z Z (by omega) c78) Z ?_)))
            refine TD.q Z .u (vM (k:=((k43:Int)+y59).toNat) Z Z ((Int.toNat_of_nonneg c68).symm) ym xU (xS hx70).1) Z ?_
            refine TD.unf 0 Z (v7 [0,0] Z (TD.stE (k:=((k43:Int)+y59).toNat) (u:=x69) (u':=((x69+x75) % 2)) 0 0 Z .u Z Z xU Z hx70 Z Z Z Z (fun _ _ _ _ h=>by subst h; rfl) [1] (Z) (v7 [0,0] Z ?_)))
            rw[show y56.length=(y56.set (((k43:Int)+y59).toNat) ((x69+x75) % 2)).length from (List.length_set ..).symm]
            exact TD.nil (wo [0,0] ⟨Z,Z⟩ (by rfl) (by rfl))
          ·rintro _ _ ⟨rfl,rfl⟩
           refine vF (X.seq (T.region Z ?_))
           replace h:=ak h
           obtain⟨c79,h⟩:=h
           exact TL.run ai [0] Z Z (TL.q Z .u (Ex.add Z Z c79) Z (TL.run ai [2] Z Z (TL.nil (X.back (m':=m63) [0,0] (by omega) ⟨(y56.set (((k43:Int)+y59).toNat) ((x69+x75) % 2)),(some ⟨gz71,oz71,none⟩),c58,(y59+1),Z,Z,h⟩ (by rfl) (by rfl)))))
         ·refine TL.nil (X.seq (vC Z (xN c67) ?_))
          obtain rfl:=xO h
          replace h:=hO62
          clear hO62
          try dsimp only at h
          refine T.exit (vD (vD (v6 (vF (X.seq (T.region Z ?_))))))
          replace h:=ak h
          obtain⟨c80,h⟩:=h
          exact TL.run ai [0] Z Z (TL.q Z .u (Ex.add Z Z c80) Z (TL.run ai [2] Z Z (TL.nil (X.back (m':=m47) [0,0] (by omega) ⟨y56,A57,c58,k43+1,Z,Z,h⟩ (by rfl) (by rfl)))))
       ·refine TL.nil (X.seq (vC Z (xN c55) (T.skip (vF (X.seq (T.region Z ?_))))))
        replace h:=ak h
        obtain⟨c86,h⟩:=h
        exact TL.run ai [0] Z Z (TL.q Z .u (Ex.add Z Z c86) Z (TL.run ai [2] Z Z (TL.nil (X.unf 0 Z (vU [0,0] Z (X.back (m':=m47) [0,0] (by omega) ⟨y40,(some ⟨gz54,oz54,none⟩),c42,k43+1,Z,Z,h⟩ (by rfl) (by rfl)))))))
      ·refine TL.nil (X.seq (vC Z (xN c51) ?_))
       obtain rfl:=xO h
       replace h:=hO46
       clear hO46
       try dsimp only at h
       refine T.exit (vD (vD (v6 (X.seq (T.seq (T.region Z (TL.run ai [0] Z Z (TL.nil (X.seq (T.seq (T.seq (T.region Z (TL.run ai [0] Z Z (TL.nil (X.seq (T.block ?_))))))))))))))))
       obtain⟨E89,hE90,hO91⟩:=xL h
       refine v9 (fun m e Rs=> ∃ (y87:Int) (y88:Int),e = [(2,.int .u32 0),(3,jI (8*(a0.length:Int))),(4,.slice A41 y40.length c42),(9,.int .u32 y87),(10,jI y88)]∧Rs = [aF 3 1 dN (.slice A41 y40.length c42) y40,av]∧cz a0 y40 m y87 y88=some E89) (((31:Int) - (-1)).toNat+1) [0,0] ⟨0,31,Z,Z,by exact hE90⟩ (by rfl) (by rfl) ?_
       rintro m92 _ _ ⟨y87,y88,rfl,rfl,hl94⟩
       clear hE90 h
       cases m92 with
       | zero =>
        rw[cz] at hl94
        cases hl94
       | succ m92 =>
        have h:=hl94
        clear hl94
        rw[cz] at h
        refine T.seq (T.seq (T.region Z (TL.run ai [0,1] Z Z ?_)))
        rcases jF h with⟨c96,h⟩ | ⟨c96,h⟩
        ·refine TL.nil (X.seq (vw Z (xM c96) (T.skip (X.seq (T.seq (T.block (T.region Z (TL.run ai [0] Z Z (TL.q Z .u (Ex.mulw Z Z) Z ?_)))))))))
         replace h:=ak h
         obtain⟨c97,h⟩:=h
         refine TL.run ai [2,3,4] Z Z (TL.q Z .u (Ex.add Z Z c97) Z ?_)
         replace h:=ak h
         obtain⟨c98,h⟩:=h
         obtain⟨x99,hx100,h⟩:=xL h
         refine wT (E:=dN) (k:=((8*(a0.length:Int))+y88).toNat) 0 Z (fun w G h=>ba (by decide) w G h) (by decide) hx100 ?_
         rintro gz101 oz101 z101cs hA z101cl ⟨_,_,z101r⟩
         cases hA
         obtain rfl:z101cs = [jI x99]:=z101r
         clear z101cl
         refine vR [0,0] Z ?_
         refine TL.q Z .u (vM (k:=((8*(a0.length:Int))+y88).toNat) Z Z ((Int.toNat_of_nonneg c98).symm) ym xU (xS hx100).1) Z ?_
         refine TL.q Z .u (wQ (cs := [jI x99]) 0 0 Z xQ Z (fun _ _ h=>h.2.2.1) Z) Z ?_
         replace h:=ak h
         obtain⟨c102,h⟩:=h
         refine TL.q Z .u (Ex.sub Z Z c102) Z (TL.q Z .u (xc Z yF yK) Z (TL.q Z .u (Ex.addw Z Z) Z (TL.run ai [11] Z Z (TL.nil (vF (X.seq (T.region Z ?_)))))))
         replace h:=ak h
         obtain⟨c103,h⟩:=h
         exact TL.run ai [0] Z Z (TL.q Z .u (Ex.sub Z Z c103) Z (TL.run ai [2] Z Z (TL.nil (X.unf 0 Z (vU [0,0] Z (X.back (m':=m92) [0,0] (by omega) ⟨(IntKind.u32.wrap ((IntKind.u32.wrap (y87*2))+(IntKind.u32.wrap (1 - x99)))),(y88 - 1),Z,Z,h⟩ (by rfl) (by rfl)))))))
        ·refine TL.nil (X.seq (vC Z (xN c96) ?_))
         obtain rfl:=xO h
         replace h:=hO91
         clear hO91
         try dsimp only at h
         refine T.exit (vD (vD (v6 (X.seq (T.seq (T.region Z (TL.run ai [0,1] Z Z ?_)))))))
         obtain rfl:=xO h
         exact TL.nil (X.seq (T.ret (vu [1] Tryz.results32 (vt Z) ⟨Z,Z,Z⟩ (by rfl) (.inl Z))))
def kQ:dY := [(66,0,0),(66,1,1),(69,1,1),(69,2,2),(69,3,4),(69,4,6)]
theorem ah:(kQ).OK Tryz.prog:=⟨FOK.mk yJ rfl yN rfl,FOK.mk yJ rfl yL rfl,FOK.mk yh rfl xU rfl,FOK.mk yh rfl ye rfl,FOK.mk yh rfl ye rfl,FOK.mk yh rfl zc rfl,trivial⟩
def ee (a0:List UInt8):Option (Int×Int):=if (a0.length:Int)<2 then some (0,1) else (if 2≤a0.length then ((mi (a0.take 2)).bind fun x3=>if x3=0 then (if (a0.length:Int)<4 then some (0,1) else (if 4≤a0.length then ((mi ((a0.drop 2).take 2)).bind fun x8=>if x8=0 then (if (a0.length:Int)>4 then some (0,2) else some (x8,0)) else (if x8=1 then (if (a0.length:Int)>4 then some (0,2) else some (x8,0)) else some (0,12))) else none)) else some (0,7)) else none)
theorem jC (a0:List UInt8) (r:Int×Int) (h:ee a0=some r):ar Tryz.prog 52 #[jS a0] .triv (av) (fun v A' N=>v= .tuple #[jI r.1,jI r.2]∧A'=av∧N = []):=by
 refine aJ Tryz.func52 Z Tryz.ntmps52 Z ?_
 intro F w hX
 unfold ee at h
 refine T.seq (T.region Z (TL.run ah [0,1] Z Z (TL.nil (X.seq (T.seq (T.seq (T.region Z (TL.run ah [0] Z Z (TL.q Z .u (v5 Z xY) Z (TL.run ah [2] Z Z ?_))))))))))
 rcases jF h with⟨c1,h⟩ | ⟨c1,h⟩
 ·refine TL.nil (X.seq (vw Z (xM c1) (T.seq (T.region Z (TL.run ah [0,1] Z Z ?_)))))
  obtain rfl:=xO h
  exact TL.nil (X.seq (T.ret (vx (vO [0] zd (vt Z) (vt Z) ⟨Z,Z,Z⟩ (by rfl) (.inl Z)))))
 ·refine TL.nil (X.seq (vC Z (xN c1) (T.skip (X.seq (T.seq (T.seq (T.region Z ?_)))))))
  replace h:=ak h
  obtain⟨c2,h⟩:=h
  refine TL.run ah [0] Z Z ?_
  replace c2:2≤a0.length:=c2
  refine TL.q Z .u (wC (p:=0) (q:=2) (m:=(a0.take 2)) Z xY .none (.some Z Z) (by first | omega | (dsimp only; omega)) (by simp)) Z ?_
  obtain⟨x3,hx4,h⟩:=xL h
  refine vL Z .u (.fn Tryz.call72 Z) (wa (fun w=>gZ (a0.take 2) _ hx4 w)) (fun _ _=>vy _ _) Z (TL.run ah [3] Z Z ?_)
  rcases jF h with⟨c5,h⟩ | ⟨c5,h⟩
  ·refine TL.nil (X.seq (vC Z (aw (xM c5)) (T.skip (X.seq (T.seq (T.seq (T.region Z (TL.run ah [0] Z Z (TL.q Z .u (v5 Z xY) Z (TL.run ah [2] Z Z ?_))))))))))
   rcases jF h with⟨c6,h⟩ | ⟨c6,h⟩
   ·refine TL.nil (X.seq (vw Z (xM c6) (T.seq (T.region Z (TL.run ah [0,1] Z Z ?_)))))
    obtain rfl:=xO h
    exact TL.nil (X.seq (T.ret (vx (vO [0] zd (vt Z) (vt Z) ⟨Z,Z,Z⟩ (by rfl) (.inl Z)))))
   ·refine TL.nil (X.seq (vC Z (xN c6) (T.skip (X.seq (T.seq (T.region Z ?_))))))
    replace h:=ak h
    obtain⟨c7,h⟩:=h
    refine TL.run ah [0] Z Z ?_
    replace c7:4≤a0.length:=c7
    refine TL.q Z .u (wC (p:=2) (q:=4) (m:=((a0.drop 2).take 2)) Z xY (.some Z Z) (.some Z Z) (by first | omega | (dsimp only; omega)) Z) Z ?_
    obtain⟨x8,hx9,h⟩:=xL h
    refine vL Z .u (.fn Tryz.call72 Z) (wa (fun w=>gZ ((a0.drop 2).take 2) _ hx9 w)) (fun _ _=>vy _ _) Z (TL.run ah [3] Z Z (TL.nil (X.seq (T.seq (T.seq (T.region Z ?_))))))
    rcases jF h with⟨c10,h⟩ | ⟨c10,h⟩
    ·refine TL.run ah [0,1,2] Z Z ?_
     iterate 2 refine vv Z (.gn Z Z (aw (xM c10))) Z ?_
     refine TL.q Z .u (vB Z (aw (xM c10)) Z) Z (TL.nil (X.seq (vC Z Z (T.skip (X.seq (T.seq (T.seq (T.region Z (TL.run ah [0] Z Z (TL.q Z .u (v5 Z xY) Z (TL.run ah [2] Z Z ?_)))))))))))
     rcases jF h with⟨c11,h⟩ | ⟨c11,h⟩
     ·refine TL.nil (X.seq (vw Z (xM c11) (T.seq (T.region Z (TL.run ah [0,1] Z Z ?_)))))
      obtain rfl:=xO h
      exact TL.nil (X.seq (T.ret (vx (vO [0] zd (vt Z) (vt Z) ⟨Z,Z,Z⟩ (by rfl) (.inl Z)))))
     ·refine TL.nil (X.seq (vC Z (xN c11) (T.skip (X.seq (T.seq (T.region Z (TL.run ah [0,1,2] Z Z ?_)))))))
      obtain rfl:=xO h
      exact TL.nil (X.seq (T.ret (vO [0] zd (vt Z) (vt Z) ⟨Z,Z,Z⟩ (by rfl) (.inl Z))))
    ·refine TL.run ah [0,1,2] Z Z ?_
     iterate 2 refine TL.q Z (.g Z Z (aH (xN c10))) (vA ah Z) Z ?_
     refine TL.q Z .u (vz Z (aH (xN c10)) Z) Z ?_
     rcases jF h with⟨c12,h⟩ | ⟨c12,h⟩
     ·refine TL.nil (X.seq (vC Z (aw (xM c12)) (T.skip (X.seq (T.seq (T.seq (T.region Z (TL.run ah [0] Z Z (TL.q Z .u (v5 Z xY) Z (TL.run ah [2] Z Z ?_))))))))))
      rcases jF h with⟨c13,h⟩ | ⟨c13,h⟩
      ·refine TL.nil (X.seq (vw Z (xM c13) (T.seq (T.region Z (TL.run ah [0,1] Z Z ?_)))))
       obtain rfl:=xO h
       exact TL.nil (X.seq (T.ret (vx (vO [0] zd (vt Z) (vt Z) ⟨Z,Z,Z⟩ (by rfl) (.inl Z)))))
      ·refine TL.nil (X.seq (vC Z (xN c13) (T.skip (X.seq (T.seq (T.region Z (TL.run ah [0,1,2] Z Z ?_)))))))
       obtain rfl:=xO h
       exact TL.nil (X.seq (T.ret (vO [0] zd (vt Z) (vt Z) ⟨Z,Z,Z⟩ (by rfl) (.inl Z))))
     ·refine TL.nil (X.seq (vw Z (aH (xN c12)) (T.seq (T.region Z (TL.run ah [0,1] Z Z ?_)))))
      obtain rfl:=xO h
      exact TL.nil (X.seq (T.ret (vx (vO [0] zd (vt Z) (vt Z) ⟨Z,Z,Z⟩ (by rfl) (.inl Z)))))
  ·refine TL.nil (X.seq (vw Z (aH (xN c5)) (T.seq (T.region Z (TL.run ah [0,1] Z Z ?_)))))
   obtain rfl:=xO h
   exact TL.nil (X.seq (T.ret (vx (vO [0] zd (vt Z) (vt Z) ⟨Z,Z,Z⟩ (by rfl) (.inl Z)))))
def dG (a0:List UInt8):Option (Int×Int):=if (a0.length:Int)<2 then some (0,1) else (if 2≤a0.length then ((mi (a0.take 2)).bind fun x3=>if x3=0 then (if (a0.length:Int)<6 then some (0,1) else (if 6≤a0.length then ((mi ((a0.drop 2).take 4)).bind fun x8=>if x8<0 then some (0,11) else (if (a0.length:Int)>6 then some (0,2) else some (x8,0))) else none)) else some (0,7)) else none)
theorem iC (a0:List UInt8) (r:Int×Int) (h:dG a0=some r):ar Tryz.prog 53 #[jS a0] .triv (av) (fun v A' N=>v= .tuple #[jI r.1,jI r.2]∧A'=av∧N = []):=by
 refine aJ Tryz.func53 Z Tryz.ntmps53 Z ?_
 intro F w hX
 unfold dG at h
 refine T.seq (T.region Z (TL.run ah [0,1] Z Z (TL.nil (X.seq (T.seq (T.seq (T.region Z (TL.run ah [0] Z Z (TL.q Z .u (v5 Z xY) Z (TL.run ah [2] Z Z ?_))))))))))
 rcases jF h with⟨c1,h⟩ | ⟨c1,h⟩
 ·refine TL.nil (X.seq (vw Z (xM c1) (T.seq (T.region Z (TL.run ah [0,1] Z Z ?_)))))
  obtain rfl:=xO h
  exact TL.nil (X.seq (T.ret (vx (vO [0] zo (vt Z) (vt Z) ⟨Z,Z,Z⟩ (by rfl) (.inl Z)))))
 ·refine TL.nil (X.seq (vC Z (xN c1) (T.skip (X.seq (T.seq (T.seq (T.region Z ?_)))))))
  replace h:=ak h
  obtain⟨c2,h⟩:=h
  refine TL.run ah [0] Z Z ?_
  replace c2:2≤a0.length:=c2
  refine TL.q Z .u (wC (p:=0) (q:=2) (m:=(a0.take 2)) Z xY .none (.some Z Z) (by first | omega | (dsimp only; omega)) (by simp)) Z ?_
  obtain⟨x3,hx4,h⟩:=xL h
  refine vL Z .u (.fn Tryz.call72 Z) (wa (fun w=>gZ (a0.take 2) _ hx4 w)) (fun _ _=>vy _ _) Z (TL.run ah [3] Z Z ?_)
  rcases jF h with⟨c5,h⟩ | ⟨c5,h⟩
  ·refine TL.nil (X.seq (vC Z (aw (xM c5)) (T.skip (X.seq (T.seq (T.seq (T.region Z (TL.run ah [0] Z Z (TL.q Z .u (v5 Z xY) Z (TL.run ah [2] Z Z ?_))))))))))
   rcases jF h with⟨c6,h⟩ | ⟨c6,h⟩
   ·refine TL.nil (X.seq (vw Z (xM c6) (T.seq (T.region Z (TL.run ah [0,1] Z Z ?_)))))
    obtain rfl:=xO h
    exact TL.nil (X.seq (T.ret (vx (vO [0] zo (vt Z) (vt Z) ⟨Z,Z,Z⟩ (by rfl) (.inl Z)))))
   ·refine TL.nil (X.seq (vC Z (xN c6) (T.skip (X.seq (T.seq (T.region Z ?_))))))
    replace h:=ak h
    obtain⟨c7,h⟩:=h
    refine TL.run ah [0] Z Z ?_
    replace c7:6≤a0.length:=c7
    refine TL.q Z .u (wC (p:=2) (q:=6) (m:=((a0.drop 2).take 4)) Z xY (.some Z Z) (.some Z Z) (by first | omega | (dsimp only; omega)) Z) Z ?_
    obtain⟨x8,hx9,h⟩:=xL h
    refine vL Z .u (.fn Tryz.call72 Z) (wa (fun w=>gZ ((a0.drop 2).take 4) _ hx9 w)) (fun _ _=>vy _ _) Z (TL.run ah [3] Z Z (TL.nil (X.seq (T.seq (T.seq (T.region Z (TL.run ah [0,1] Z Z ?_)))))))
    rcases jF h with⟨c10,h⟩ | ⟨c10,h⟩
    ·refine TL.nil (X.seq (vw Z (xM c10) (T.seq (T.region Z (TL.run ah [0,1] Z Z ?_)))))
     obtain rfl:=xO h
     exact TL.nil (X.seq (T.ret (vx (vO [0] zo (vt Z) (vt Z) ⟨Z,Z,Z⟩ (by rfl) (.inl Z)))))
    ·refine TL.nil (X.seq (vC Z (xN c10) (T.skip (X.seq (T.seq (T.seq (T.region Z (TL.run ah [0] Z Z (TL.q Z .u (v5 Z xY) Z (TL.run ah [2] Z Z ?_))))))))))
     rcases jF h with⟨c11,h⟩ | ⟨c11,h⟩
     ·refine TL.nil (X.seq (vw Z (xM c11) (T.seq (T.region Z (TL.run ah [0,1] Z Z ?_)))))
      obtain rfl:=xO h
      exact TL.nil (X.seq (T.ret (vx (vO [0] zo (vt Z) (vt Z) ⟨Z,Z,Z⟩ (by rfl) (.inl Z)))))
     ·refine TL.nil (X.seq (vC Z (xN c11) (T.skip (X.seq (T.seq (T.region Z (TL.run ah [0,1,2] Z Z ?_)))))))
      obtain rfl:=xO h
      exact TL.nil (X.seq (T.ret (vO [0] zo (vt Z) (vt Z) ⟨Z,Z,Z⟩ (by rfl) (.inl Z))))
  ·refine TL.nil (X.seq (vw Z (aH (xN c5)) (T.seq (T.region Z (TL.run ah [0,1] Z Z ?_)))))
   obtain rfl:=xO h
   exact TL.nil (X.seq (T.ret (vx (vO [0] zo (vt Z) (vt Z) ⟨Z,Z,Z⟩ (by rfl) (.inl Z)))))
def dT (a0:Rec):Option (Int×Int×Int):=if a0.xu.null=true then some (0,0,12) else (if a0.xn.null=true then some (0,0,12) else (if (a0.xp.length:Int)>0 then some (0,0,12) else (if a0.xx=0 then ((ee a0.xu.data).bind fun (x8,x9)=>if x9=0 then ((dG a0.xn.data).bind fun (x12,x13)=>if x13=0 then some (x8,x12,0) else some (0,0,x13)) else some (0,0,x9)) else some (0,0,12))))
theorem lI (a0:Rec) (A1:Option Addr) (c2:Nat) (r:Int×Int×Int) (h:dT a0=some r):ar Tryz.prog 27 #[.agg #[jI a0.xC,jI a0.xx,.bool a0.xu.null,jS a0.xu.data,.bool a0.xn.null,jS a0.xn.data,.slice A1 a0.xp.length c2]] (RX.of (aq 3 bg) [.slice A1 a0.xp.length c2] a0.xp) (av) (fun v A' N=>v= .tuple #[jI r.1,jI r.2.1,jI r.2.2]∧A'=av∧N = []):=by
 refine aJ Tryz.func27 Z Tryz.ntmps27 Z ?_
 intro F w hX
 unfold dT at h
 refine T.seq (T.region Z (TL.box Z .u Z Z (fun b3=>(TL.run ah [1,2,3] Z Z (TL.nil (X.seq (T.seq (T.seq (T.region Z (TL.run ah [0,1] Z Z (TL.q Z .u (vr 0 Z yo Z Z) Z ?_)))))))))))
 rcases jF h with⟨c4,h⟩ | ⟨c4,h⟩
 ·refine TL.run ah [3] Z Z ?_
  iterate 3 refine vv Z (.gn Z Z c4) Z ?_
  refine TL.q Z .u (vz Z c4 Z) Z (TL.run ah [8] Z Z ?_)
  iterate 4 refine vv Z (.gn Z Z Z) Z ?_
  refine TL.q Z .u (vz Z Z Z) Z (TL.run ah [14] Z Z ?_)
  iterate 3 refine vv Z (.gn Z Z Z) Z ?_
  refine TL.q Z .u (vz Z Z Z) Z (TL.nil (X.seq (vw Z Z (T.seq (T.region Z (TL.run ah [0,1,2] Z Z ?_))))))
  obtain rfl:=xO h
  exact TL.nil (X.seq (T.ret (vx (wm [1] zj (vt Z) (vt Z) (vt Z) ⟨Z,Z,Z⟩ (by rfl) (.inl Z)))))
 ·replace c4:=xW c4
  refine TL.run ah [3] Z Z ?_
  iterate 2 refine TL.q Z (.g Z Z c4) (vA ah Z) Z ?_
  refine TL.q Z (.g Z Z c4) (vr 0 Z yo Z Z) Z (TL.q Z .u (vB Z c4 Z) Z ?_)
  rcases jF h with⟨c5,h⟩ | ⟨c5,h⟩
  ·refine TL.run ah [8] Z Z ?_
   iterate 4 refine vv Z (.gn Z Z c5) Z ?_
   refine TL.q Z .u (vz Z c5 Z) Z (TL.run ah [14] Z Z ?_)
   iterate 3 refine vv Z (.gn Z Z Z) Z ?_
   refine TL.q Z .u (vz Z Z Z) Z (TL.nil (X.seq (vw Z Z (T.seq (T.region Z (TL.run ah [0,1,2] Z Z ?_))))))
   obtain rfl:=xO h
   exact TL.nil (X.seq (T.ret (vx (wm [1] zj (vt Z) (vt Z) (vt Z) ⟨Z,Z,Z⟩ (by rfl) (.inl Z)))))
  ·replace c5:=xW c5
   refine TL.run ah [8] Z Z (TL.q Z (.g Z Z c5) (vA ah Z) Z (TL.q Z (.g Z Z c5) (vr 0 Z zb Z Z) Z (TL.q Z (.g Z Z c5) (vH Z yl) Z (TL.q Z (.g Z Z c5) (vA ah Z) Z (TL.q Z .u (vB Z c5 Z) Z ?_)))))
   rcases jF h with⟨c6,h⟩ | ⟨c6,h⟩
   ·refine TL.run ah [14] Z Z ?_
    iterate 3 refine vv Z (.gn Z Z (xM c6)) Z ?_
    refine TL.q Z .u (vz Z (xM c6) Z) Z (TL.nil (X.seq (vw Z Z (T.seq (T.region Z (TL.run ah [0,1,2] Z Z ?_))))))
    obtain rfl:=xO h
    exact TL.nil (X.seq (T.ret (vx (wm [1] zj (vt Z) (vt Z) (vt Z) ⟨Z,Z,Z⟩ (by rfl) (.inl Z)))))
   ·refine TL.run ah [14] Z Z (TL.q Z (.g Z Z (xN c6)) (vA ah Z) Z (TL.q Z (.g Z Z (xN c6)) (vr 0 Z xQ Z Z) Z (TL.q Z (.g Z Z (xN c6)) (vA ah Z) Z (TL.q Z .u (vB Z (xN c6) Z) Z ?_))))
    rcases jF h with⟨c7,h⟩ | ⟨c7,h⟩
    ·refine TL.nil (X.seq (vC Z (aw (xM c7)) (T.skip (X.seq (T.seq (T.region Z (TL.run ah [0,1] Z Z (TL.q Z .u (vr 0 Z yM Z Z) Z ?_))))))))
     obtain⟨⟨x8,x9⟩,hx10,h⟩:=xL h
     try dsimp only at h
     refine vL Z .u (.fn Tryz.call52 Z) (jC a0.xu.data _ hx10) (fun _ hs=>(vy _ _)) Z (TL.run ah [4,5,6,7,8] Z Z (TL.nil (X.seq (T.seq (T.seq (T.region Z (TL.run ah [0,1] Z Z ?_)))))))
     rcases jF h with⟨c11,h⟩ | ⟨c11,h⟩
     ·refine TL.nil (X.seq (vC Z (aw (xM c11)) (T.skip (X.seq (T.seq (T.region Z (TL.run ah [0,1] Z Z (TL.q Z .u (vr 0 Z yM Z Z) Z ?_))))))))
      obtain⟨⟨x12,x13⟩,hx14,h⟩:=xL h
      try dsimp only at h
      refine vL Z .u (.fn Tryz.call53 Z) (iC a0.xn.data _ hx14) (fun _ hs=>(vy _ _)) Z (TL.run ah [4,5,6,7,8] Z Z (TL.nil (X.seq (T.seq (T.seq (T.region Z (TL.run ah [0,1] Z Z ?_)))))))
      rcases jF h with⟨c15,h⟩ | ⟨c15,h⟩
      ·refine TL.nil (X.seq (vC Z (aw (xM c15)) (T.skip (X.seq (T.seq (T.region Z (TL.run ah [0,1,2,3,4] Z Z ?_)))))))
       obtain rfl:=xO h
       exact TL.nil (X.seq (T.ret (wm [1] zj (vt Z) (vt Z) (vt Z) ⟨Z,Z,Z⟩ (by rfl) (.inl Z))))
      ·refine TL.nil (X.seq (vw Z (aH (xN c15)) (T.seq (T.region Z (TL.run ah [0,1,2,3] Z Z ?_)))))
       obtain rfl:=xO h
       exact TL.nil (X.seq (T.ret (vx (wm [1] zj (vt Z) (vt Z) (vt Z) ⟨Z,Z,Z⟩ (by rfl) (.inl Z)))))
     ·refine TL.nil (X.seq (vw Z (aH (xN c11)) (T.seq (T.region Z (TL.run ah [0,1,2,3] Z Z ?_)))))
      obtain rfl:=xO h
      exact TL.nil (X.seq (T.ret (vx (wm [1] zj (vt Z) (vt Z) (vt Z) ⟨Z,Z,Z⟩ (by rfl) (.inl Z)))))
    ·refine TL.nil (X.seq (vw Z (aH (xN c7)) (T.seq (T.region Z (TL.run ah [0,1,2] Z Z ?_)))))
     obtain rfl:=xO h
     exact TL.nil (X.seq (T.ret (vx (wm [1] zj (vt Z) (vt Z) (vt Z) ⟨Z,Z,Z⟩ (by rfl) (.inl Z)))))
def kR:dY := []
theorem an:(kR).OK Tryz.prog:=trivial
theorem gK:SOK Tryz.prog 40 3 12 1 #[.int .i64 0,.int .i64 0,.int .i64 0,.int .i64 0,.int .i64 0,.int .i64 0,.int .i64 0,.int .i64 0,.int .i64 0,.int .i64 0,.int .i64 0,.int .i64 0]:=SOK.mk ym xU Tryz.zeroValue3 (by decide) (by kernel_rfl)
def aS (a0:List Int):Nat→List UInt8→Bool→List UInt8→Nat→Option (Lp (List UInt8×Bool) (List UInt8×Bool×List UInt8×Nat))
 | 0,_,_,_,_=>none
 | m11+1,y4,y5,y6,k7=>if (k7:Int)<12 then ((a0[k7]?).bind fun x16=>if (k7:Int)=3 then ((if x16<0 then some true else (if x16>4294967295 then some true else some false)).bind fun y21=>if y21=true then (some (Lp.ret ([],false))) else ((if x16>2147483647 then (if -9223372036854775808≤(x16 - 4294967296)∧(x16 - 4294967296)≤9223372036854775807 then some (x16 - 4294967296) else none) else some x16).bind fun y28=>(iO 2 1).bind fun x32=>if y6.length+x32.length≤9223372036854775807 then (([8,4,4,4,2,4,8,8,8,2,4,4][k7]?).bind fun x35=>(mj y28 x35).bind fun x38=>if x38=true then ((iO y28 x35).bind fun x41=>if (y6++x32).length+x41.length≤9223372036854775807 then (if -9223372036854775808≤((k7:Int)+1)∧((k7:Int)+1)≤9223372036854775807 then (aS a0 m11 y4 y5 ((y6++x32)++x41) (k7+1)) else none) else none) else (some (Lp.ret ([],false)))) else none)) else (([8,4,4,4,2,4,8,8,8,2,4,4][k7]?).bind fun x45=>(mj x16 x45).bind fun x48=>if x48=true then ((iO x16 x45).bind fun x51=>if y6.length+x51.length≤9223372036854775807 then (if -9223372036854775808≤((k7:Int)+1)∧((k7:Int)+1)≤9223372036854775807 then (aS a0 m11 y4 y5 (y6++x51) (k7+1)) else none) else none) else (some (Lp.ret ([],false))))) else (some (Lp.go (y4,y5,y6,k7)))
def dt (a0:List Int):Option (List UInt8×Bool):=(aS a0 ((12:Int).toNat+1) [] false [] 0).bind fun e=>match e with | .ret r=>some r | .go (y55,y56,y57,k58)=>some (y57,true)
theorem gL (a0:List Int) (A1:Option Addr) (c2:Nat) (r:List UInt8×Bool) (h:dt a0=some r):ar Tryz.prog 30 #[.slice A1 a0.length c2] (RX.of (aq 1 dN) [.slice A1 a0.length c2] a0) (av) (fun v A' N=>v= .tuple #[jS r.1,.bool r.2]∧A'=av∧N = []):=by
 refine aJ Tryz.func30 Z Tryz.ntmps30 Z ?_
 intro F w hX
 unfold dt at h
 refine T.seq (T.region Z (TL.run an [0,1] Z Z (TL.nil (X.seq (T.seq (T.region Z ?_))))))
 refine wG (cells:= #[jI 8,jI 4,jI 4,jI 4,jI 2,jI 4,jI 8,jI 8,jI 8,jI 2,jI 4,jI 4]) Z .u gK Z (by kernel_rfl) Z (fun b3=> ?_)
 refine wW (us := [jI 8,jI 4,jI 4,jI 4,jI 2,jI 4,jI 8,jI 8,jI 8,jI 2,jI 4,jI 4]) (xs := [8,4,4,4,2,4,8,8,8,2,4,4]) (E:=dN) (z:=1) Z (Nat.le_of_ble_eq_true Z) (fun _=>⟨Z,Z,⟨Z,Z,⟨Z,Z,⟨Z,Z,⟨Z,Z,⟨Z,Z,⟨Z,Z,⟨Z,Z,⟨Z,Z,⟨Z,Z,⟨Z,Z,⟨Z,Z,Z⟩⟩⟩⟩⟩⟩⟩⟩⟩⟩⟩⟩) (TL.run an [1] Z Z (TL.nil (X.seq (T.seq (T.region Z (TL.run an [0] Z Z (TL.nil (X.seq (T.seq (T.seq (T.region Z (TL.run an [0] Z Z (TL.nil (X.seq (T.block ?_)))))))))))))))
 obtain⟨E8,hE9,hO10⟩:=xL h
 refine v9 (fun m e Rs=> ∃ (y4:List UInt8) (y5:Bool) (y6:List UInt8) (k7:Nat),e = [(0,.slice A1 a0.length c2),(2,jS y4),(3,.bool y5),(4,.slice (some ⟨b3,0,none⟩) 12 12),(5,jS y6),(6,jI (k7:Int))]∧Rs = [aF 3 1 dN (.slice (some ⟨b3,0,none⟩) 12 12) [8,4,4,4,2,4,8,8,8,2,4,4],av]∧aS a0 m y4 y5 y6 k7=some E8) ((12:Int).toNat+1) [0,0] ⟨[],false,[],0,Z,Z,by exact hE9⟩ (by rfl) (by rfl) ?_
 rintro m11 _ _ ⟨y4,y5,y6,k7,rfl,rfl,hl13⟩
 clear hE9 h
 cases m11 with
 | zero =>
  rw[aS] at hl13
  cases hl13
 | succ m11 =>
  have h:=hl13
  clear hl13
  rw[aS] at h
  refine T.seq (T.seq (T.region Z (TL.run an [0,1] Z Z ?_)))
  rcases jF h with⟨c15,h⟩ | ⟨c15,h⟩
  ·refine TL.nil (X.seq (vw Z (xM c15) (T.skip (X.seq (T.seq (T.block (T.seq (T.region Z ?_))))))))
   obtain⟨x16,hx17,h⟩:=xL h
   obtain⟨gz18,oz18,rfl,z18cs,z18cl,z18cc,z18nf,z18r⟩:=vV (by decide) hX hx17
   obtain⟨z18S,z18r,z18rr⟩:=z18r
   obtain rfl:z18cs = [jI x16]:=z18r
   refine TL.run an [0,1] Z Z ?_
   refine TL.q Z .u (vM (k:=k7) Z Z Z ym xU (xS hx17).1) Z ?_
   refine TL.q Z .u (wM 0 Z xQ z18nf z18cc Z Z) Z (TL.run an [4] Z Z (TL.nil (X.seq (T.seq (T.seq (T.region Z (TL.run an [0,1] Z Z ?_)))))))
   rcases jF h with⟨c19,h⟩ | ⟨c19,h⟩
   ·refine TL.nil (X.seq (vw Z (xM c19) (T.seq (T.seq ?_))))
    obtain⟨y21,h,hk22⟩:=xL h
    refine wn (fun e Rs=>e = [(0,.slice (some ⟨gz18,oz18,none⟩) a0.length c2),(2,jS y4),(3,.bool y5),(4,.slice (some ⟨b3,0,none⟩) 12 12),(5,jS y6),(6,jI (k7:Int)),(7,jI x16),(24,.bool y21)]∧Rs = [aF 3 1 dN (.slice (some ⟨b3,0,none⟩) 12 12) [8,4,4,4,2,4,8,8,8,2,4,4],av]) ?_ ?_
    ·clear hk22
     refine T.region Z ?_
     rcases jF h with⟨c23,h⟩ | ⟨c23,h⟩
     ·refine TL.run an [0,1,2] Z Z ?_
      iterate 2 refine vv Z (.gn Z Z (xM c23)) Z ?_
      refine TL.q Z .u (vz Z (xM c23) Z) Z ?_
      cases h
      exact TL.nil (vN [0,0] ⟨Z,Z⟩ (by rfl) (by rfl))
     ·refine TL.run an [0,1,2] Z Z ?_
      iterate 2 refine TL.q Z (.g Z Z (xN c23)) (vA an Z) Z ?_
      refine TL.q Z .u (vB Z (xN c23) Z) Z ?_
      rcases jF h with⟨c24,h⟩ | ⟨c24,h⟩
      ·cases h
       exact TL.nil (wE (d:=24) (v':= .bool true) Z (congrArg Value.bool (xM c24)) (vN [0,0] ⟨Z,Z⟩ (by rfl) (by rfl)))
      ·cases h
       exact TL.nil (wE (d:=24) (v':= .bool false) Z (congrArg Value.bool (xN c24)) (vN [0,0] ⟨Z,Z⟩ (by rfl) (by rfl)))
    ·rintro _ _ ⟨rfl,rfl⟩
     clear h
     have h:=hk22
     clear hk22
     try dsimp only at h
     rcases jF h with⟨c25,h⟩ | ⟨c25,h⟩
     ·refine X.seq (vw Z c25 (T.seq (T.region Z (TL.run an [0,1] Z Z ?_))))
      obtain rfl:=xO h
      replace h:=hO10
      clear hO10
      try dsimp only at h
      obtain rfl:=xO h
      exact TL.nil (X.seq (T.ret (vx (vx (vJ (vx (vx (vJ (vx (vO [1] zI (vt Z) (vt Z) ⟨Z,Z,Z⟩ (by rfl) (.inl Z)))))))))))
     ·replace c25:=xW c25
      refine X.seq (vC Z c25 (T.skip (X.seq (T.seq (T.seq (T.region Z (TL.run an [0,1] Z Z (TL.nil (X.seq ?_)))))))))
      obtain⟨y28,h,hk29⟩:=xL h
      refine wn (fun e Rs=>e = [(0,.slice (some ⟨gz18,oz18,none⟩) a0.length c2),(2,jS y4),(3,.bool y5),(4,.slice (some ⟨b3,0,none⟩) 12 12),(5,jS y6),(6,jI (k7:Int)),(7,jI y28)]∧Rs = [aF 3 1 dN (.slice (some ⟨b3,0,none⟩) 12 12) [8,4,4,4,2,4,8,8,8,2,4,4],av]) ?_ ?_
      ·clear hk29
       rcases jF h with⟨c30,h⟩ | ⟨c30,h⟩
       ·refine vw Z (xM c30) (T.region Z ?_)
        replace h:=ak h
        obtain⟨c31,h⟩:=h
        refine TL.run an [0] Z Z (TL.q Z .u (Ex.sub Z Z c31) Z (TL.run an [2] Z Z ?_))
        cases h
        exact TL.nil (vN [0,0] ⟨Z,Z⟩ (by rfl) (by rfl))
       ·refine vC Z (xN c30) ?_
        cases h
        exact T.skip (vN [0,0] ⟨Z,Z⟩ (by rfl) (by rfl))
      ·rintro _ _ ⟨rfl,rfl⟩
       clear h
       have h:=hk29
       clear hk29
       try dsimp only at h
       refine X.seq (T.region Z ?_)
       obtain⟨x32,hx33,h⟩:=xL h
       refine TL.run an [0] Z Z (vL Z .u (.fn Tryz.call43 Z) (g6 2 1 _ hx33) (fun _ hs=>(vy _ _)) Z ?_)
       replace h:=ak h
       obtain⟨c34,h⟩:=h
       refine TL.q Z .u (vP Z Z c34) Z (TL.run an [3] Z Z (TL.nil (X.seq (T.seq (T.seq (T.region Z ?_))))))
       obtain⟨x35,hx36,h⟩:=xL h
       refine TL.run an [0,1,2] Z Z (wT (E:=dN) (k:=k7) 0 Z (fun w G h=>ba (by decide) w G h) (by decide) hx36 ?_)
       rintro gg oo z37cs hA z37cl ⟨_,_,z37r⟩
       cases hA
       obtain rfl:z37cs = [jI x35]:=z37r
       clear z37cl
       refine vR [0,0] Z ?_
       refine TL.q Z .u (vM (k:=k7) Z Z Z ym xU (xS hx36).1) Z ?_
       refine TL.q Z .u (wQ (cs := [jI x35]) 0 0 Z xQ Z (fun _ _ h=>h.2.2.1) Z) Z ?_
       obtain⟨x38,hx39,h⟩:=xL h
       refine vL Z .u (.fn Tryz.call58 Z) (lm y28 x35 _ hx39) (fun _ hs=>(vy _ _)) Z (TL.run an [6] Z Z ?_)
       rcases jF h with⟨c40,h⟩ | ⟨c40,h⟩
       ·refine TL.nil (X.seq (vC Z (aw c40) (T.skip (X.seq (T.region Z (TL.run an [0,1,2,3] Z Z ?_))))))
        refine TL.q Z .u (vM (k:=k7) Z Z Z ym xU (xS hx36).1) Z ?_
        refine TL.q Z .u (wQ (cs := [jI x35]) 0 0 Z xQ Z (fun _ _ h=>h.2.2.1) Z) Z ?_
        obtain⟨x41,hx42,h⟩:=xL h
        refine vL Z .u (.fn Tryz.call43 Z) (g6 y28 x35 _ hx42) (fun _ hs=>(vy _ _)) Z ?_
        replace h:=ak h
        obtain⟨c43,h⟩:=h
        refine TL.q Z .u (vP Z Z c43) Z (TL.run an [8] Z Z (TL.nil (vF (X.seq (T.region Z ?_)))))
        replace h:=ak h
        obtain⟨c44,h⟩:=h
        exact TL.run an [0] Z Z (TL.q Z .u (Ex.add Z Z c44) Z (TL.run an [2] Z Z (TL.nil (X.unf 0 Z (vU [0,0] Z (X.back (m':=m11) [0,0] (by omega) ⟨y4,y5,((y6++x32)++x41),k7+1,Z,Z,h⟩ (by rfl) (by rfl)))))))
       ·replace c40:=xW c40
        refine TL.nil (X.seq (vw Z (aH c40) (T.seq (T.region Z (TL.run an [0,1] Z Z ?_)))))
        obtain rfl:=xO h
        replace h:=hO10
        clear hO10
        try dsimp only at h
        obtain rfl:=xO h
        exact TL.nil (X.seq (T.ret (vx (vJ (vx (vx (vJ (vx (vO [1] zI (vt Z) (vt Z) ⟨Z,Z,Z⟩ (by rfl) (.inl Z))))))))))
   ·refine TL.nil (X.seq (vC Z (xN c19) (T.skip (X.seq (T.seq (T.seq (T.region Z ?_)))))))
    obtain⟨x45,hx46,h⟩:=xL h
    refine TL.run an [0,1,2] Z Z (wT (E:=dN) (k:=k7) 0 Z (fun w G h=>ba (by decide) w G h) (by decide) hx46 ?_)
    rintro gg oo z47cs hA z47cl ⟨_,_,z47r⟩
    cases hA
    obtain rfl:z47cs = [jI x45]:=z47r
    clear z47cl
    refine vR [0,0] Z ?_
    refine TL.q Z .u (vM (k:=k7) Z Z Z ym xU (xS hx46).1) Z ?_
    refine TL.q Z .u (wQ (cs := [jI x45]) 0 0 Z xQ Z (fun _ _ h=>h.2.2.1) Z) Z ?_
    obtain⟨x48,hx49,h⟩:=xL h
    refine vL Z .u (.fn Tryz.call58 Z) (lm x16 x45 _ hx49) (fun _ hs=>(vy _ _)) Z (TL.run an [6] Z Z ?_)
    rcases jF h with⟨c50,h⟩ | ⟨c50,h⟩
    ·refine TL.nil (X.seq (vC Z (aw c50) (T.skip (X.seq (T.region Z (TL.run an [0,1,2,3] Z Z ?_))))))
     refine TL.q Z .u (vM (k:=k7) Z Z Z ym xU (xS hx46).1) Z ?_
     refine TL.q Z .u (wQ (cs := [jI x45]) 0 0 Z xQ Z (fun _ _ h=>h.2.2.1) Z) Z ?_
     obtain⟨x51,hx52,h⟩:=xL h
     refine vL Z .u (.fn Tryz.call43 Z) (g6 x16 x45 _ hx52) (fun _ hs=>(vy _ _)) Z ?_
     replace h:=ak h
     obtain⟨c53,h⟩:=h
     refine TL.q Z .u (vP Z Z c53) Z (TL.run an [8] Z Z (TL.nil (vF (X.seq (T.region Z ?_)))))
     replace h:=ak h
     obtain⟨c54,h⟩:=h
     exact TL.run an [0] Z Z (TL.q Z .u (Ex.add Z Z c54) Z (TL.run an [2] Z Z (TL.nil (X.unf 0 Z (vU [0,0] Z (X.back (m':=m11) [0,0] (by omega) ⟨y4,y5,(y6++x51),k7+1,Z,Z,h⟩ (by rfl) (by rfl)))))))
    ·replace c50:=xW c50
     refine TL.nil (X.seq (vw Z (aH c50) (T.seq (T.region Z (TL.run an [0,1] Z Z ?_)))))
     obtain rfl:=xO h
     replace h:=hO10
     clear hO10
     try dsimp only at h
     obtain rfl:=xO h
     exact TL.nil (X.seq (T.ret (vx (vJ (vx (vx (vJ (vx (vO [1] zI (vt Z) (vt Z) ⟨Z,Z,Z⟩ (by rfl) (.inl Z))))))))))
  ·refine TL.nil (X.seq (vC Z (xN c15) ?_))
   obtain rfl:=xO h
   replace h:=hO10
   clear hO10
   try dsimp only at h
   refine T.exit (vD (vD (v6 (X.seq (T.seq (T.region Z (TL.run an [0,1,2] Z Z ?_)))))))
   obtain rfl:=xO h
   exact TL.nil (X.seq (T.ret (vO [1] zI (vt Z) (vt Z) ⟨Z,Z,Z⟩ (by rfl) (.inl Z))))
end Go.Proofs.YtahjmpipllajcaaGreat.Sl
