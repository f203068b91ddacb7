/- scanFeeds_holds: part 4. -/
import Derived.Test.YtahjmpipllajcaaGreatK3
set_option maxRecDepth 100000
set_option maxHeartbeats 4000000
set_option linter.defProp false
namespace Go.Proofs.YtahjmpipllajcaaGreat.Sl
open Go.RowKit
set_option linter.unusedVariables false
set_option linter.unusedSimpArgs false
def xt := @Tryz.runUnderlying40
def yy := @Tryz.results52
def yF := @Tryz.results27
def yM := @Tryz.results53
def yX := @Tryz.results17
def kr:dU := []
theorem ai:(kr).OK Tryz.prog:=trivial
theorem jU:Tryz.prog.follows .mixedOrders=true:=by kernel_rfl
theorem gy:SOK Tryz.prog 40 3 17 1 #[.int .i64 0,.int .i64 0,.int .i64 0,.int .i64 0,.int .i64 0,.int .i64 0,.int .i64 0,.int .i64 0,.int .i64 0,.int .i64 0,.int .i64 0,.int .i64 0,.int .i64 0,.int .i64 0,.int .i64 0,.int .i64 0,.int .i64 0]:=SOK.mk xt xg Tryz.zeroValue3 (by decide) (by kernel_rfl)
theorem iT:(Tryz.prog.info? 3).map (fun i=>(i.zero,i.size,i.bytes))=some (some (.int .i64 0),1,8):=by kernel_rfl
def dq (a1:Int):Nat→Int→Nat→Option (Int×Nat)
 | 0,_,_=>none
 | m11+1,y6,k7=>if 0≤a1∧a1≤9223372036854775807 then (if (k7:Int)<(a1 % 8) then (if 0≤y6∧y6≤9223372036854775807 then (if -9223372036854775808≤((k7:Int)+1)∧((k7:Int)+1)≤9223372036854775807 then (dq a1 m11 (y6 / 2) (k7+1)) else none) else none) else some (y6,k7)) else none
def gz (a0:List UInt8) (a1:Int):Option (Int):=if 0≤a1∧a1≤9223372036854775807 then (if 0≤(a1 / 8) then ((a0[(a1 / 8).toNat]?).bind fun ch3=>if -9223372036854775808≤(ch3.toNat:Int)∧(ch3.toNat:Int)≤9223372036854775807 then ((dq a1 (((a1 % 8)).toNat+1) (ch3.toNat:Int) 0).bind fun (y20,k21)=>if 0≤y20∧y20≤9223372036854775807 then some (y20 % 2) else none) else none) else none) else none
theorem ma (a0:List UInt8) (a1:Int) (r:Int) (h:gz a0 a1=some r):au Tryz.prog 59 #[jS a0,jI a1] .triv (aw) (fun v A' N=>v=jI r∧A'=aw∧N = []):=by
 refine aF Tryz.func59 Z Tryz.ntmps59 Z ?_
 intro F w hX
 unfold gz at h
 refine T.seq (T.region Z (TL.run ai [0] Z Z (TL.nil (X.seq (T.seq (T.region Z ?_))))))
 replace h:=ak h
 obtain⟨c1,h⟩:=h
 refine TL.run ai [0,1] Z Z (TL.q Z .u (Ex.quo Z Z (by omega) c1) Z ?_)
 replace h:=ak h
 obtain⟨c2,h⟩:=h
 obtain⟨ch3,hc4,h⟩:=wX h
 refine TL.q Z .u (Ex.sIx Z Z ((Int.toNat_of_nonneg c2).symm) Tryz.underlying9 hc4) Z ?_
 replace h:=ak h
 obtain⟨c5,h⟩:=h
 refine TL.q Z .u (vG Z yx xW c5) Z (TL.run ai [5] Z Z (TL.nil (X.seq (T.seq (T.seq (T.region Z (TL.run ai [0] Z Z (TL.nil (X.seq (T.block ?_))))))))))
 obtain⟨E8,hE9,hO10⟩:=wX h
 refine vo (fun m e Rs=> ∃ (y6:Int) (k7:Nat),e = [(1,jI a1),(4,jI 0),(5,jI y6),(6,jI (k7:Int))]∧Rs = [aw]∧dq a1 m y6 k7=some E8) (((a1 % 8)).toNat+1) [0] ⟨(ch3.toNat:Int),0,Z,Z,by exact hE9⟩ (by rfl) (by rfl) ?_
 rintro m11 _ _ ⟨y6,k7,rfl,rfl,hl13⟩
 clear hE9 h
 cases m11 with
 | zero =>
  rw[dq] at hl13
  cases hl13
 | succ m11 =>
  have h:=hl13
  clear hl13
  rw[dq] at h
  refine T.seq (T.seq (T.region Z ?_))
  replace h:=ak h
  obtain⟨c15,h⟩:=h
  refine TL.run ai [0,1] Z Z (TL.q Z .u (Ex.rem Z Z (by omega) c15) Z (TL.run ai [3] Z Z ?_))
  rcases jF h with⟨c16,h⟩ | ⟨c16,h⟩
  ·refine TL.nil (X.seq (uF Z (wY c16) (T.skip (X.seq (T.seq (T.block (T.region Z ?_)))))))
   replace h:=ak h
   obtain⟨c17,h⟩:=h
   refine TL.run ai [0] Z Z (TL.q Z .u (Ex.quo Z Z (by omega) c17) Z (TL.run ai [2] Z Z (TL.nil (uQ (X.seq (T.region Z ?_))))))
   replace h:=ak h
   obtain⟨c18,h⟩:=h
   exact TL.run ai [0] Z Z (TL.q Z .u (Ex.add Z Z c18) Z (TL.run ai [2] Z Z (TL.nil (X.back (m':=m11) [0] (by omega) ⟨(y6 / 2),k7+1,Z,Z,h⟩ (by rfl) (by rfl)))))
  ·refine TL.nil (X.seq (uK Z (wZ c16) ?_))
   obtain rfl:=xa h
   replace h:=hO10
   clear hO10
   try dsimp only at h
   refine T.exit (uR (uR (vn (X.seq (T.seq (T.region Z ?_))))))
   replace h:=ak h
   obtain⟨c19,h⟩:=h
   refine TL.run ai [0] Z Z (TL.q Z .u (Ex.rem Z Z (by omega) c19) Z (TL.run ai [2] Z Z ?_))
   obtain rfl:=xa h
   exact TL.nil (X.seq (T.ret (uC [0] Tryz.results59 (uD Z) ⟨Z,Z,Z⟩ (by rfl) (.inl Z))))
def dN (a0:Int):Nat→Int→Nat→Option (Lp Int (Int×Nat))
 | 0,_,_=>none
 | m7+1,y2,k3=>if (k3:Int)<([28,27,26,25,23,22,20,19,18,14,13,11,10,9,8,6,0].length:Int) then (([28,27,26,25,23,22,20,19,18,14,13,11,10,9,8,6,0][k3]?).bind fun x12=>if x12=a0 then some (Lp.ret 1) else (if -9223372036854775808≤((k3:Int)+1)∧((k3:Int)+1)≤9223372036854775807 then (dN a0 m7 y2 (k3+1)) else none)) else (some (Lp.go (y2,k3)))
def e9 (a0:Int):Option (Int):=(dN a0 ((([28,27,26,25,23,22,20,19,18,14,13,11,10,9,8,6,0].length:Int)).toNat+1) 0 0).bind fun e=>match e with | .ret r=>some r | .go (y17,k18)=>some 0
theorem gA (a0:Int) (r:Int) (h:e9 a0=some r):au Tryz.prog 60 #[jI a0] .triv (aw) (fun v A' N=>v=jI r∧A'=aw∧N = []):=by
 refine aF Tryz.func60 Z Tryz.ntmps60 Z ?_
 intro F w hX
 unfold e9 at h
 refine T.seq (T.region Z (TL.run ai [0] Z Z (TL.nil (X.seq (T.seq (T.region Z ?_))))))
 refine vD (cells:= #[jI 28,jI 27,jI 26,jI 25,jI 23,jI 22,jI 20,jI 19,jI 18,jI 14,jI 13,jI 11,jI 10,jI 9,jI 8,jI 6,jI 0]) Z .u gy Z (by kernel_rfl) Z (fun b1=> ?_)
 refine wa (us := [jI 28,jI 27,jI 26,jI 25,jI 23,jI 22,jI 20,jI 19,jI 18,jI 14,jI 13,jI 11,jI 10,jI 9,jI 8,jI 6,jI 0]) (xs := [28,27,26,25,23,22,20,19,18,14,13,11,10,9,8,6,0]) (E:=ck) (z:=1) Z (Nat.le_of_ble_eq_true Z) (fun _=>⟨Z,Z,⟨Z,Z,⟨Z,Z,⟨Z,Z,⟨Z,Z,⟨Z,Z,⟨Z,Z,⟨Z,Z,⟨Z,Z,⟨Z,Z,⟨Z,Z,⟨Z,Z,⟨Z,Z,⟨Z,Z,⟨Z,Z,⟨Z,Z,⟨Z,Z,Z⟩⟩⟩⟩⟩⟩⟩⟩⟩⟩⟩⟩⟩⟩⟩⟩⟩) (TL.run ai [1] Z Z (TL.nil (X.seq (T.seq (T.seq (T.region Z (TL.run ai [0] Z Z (TL.nil (X.seq (T.block ?_))))))))))
 obtain⟨E4,hE5,hO6⟩:=wX h
 refine vo (fun m e Rs=> ∃ (y2:Int) (k3:Nat),e = [(0,jI a0),(2,jI y2),(3,.slice (some ⟨b1,0,none⟩) 17 17),(4,jI (k3:Int))]∧Rs = [aE 3 1 ck (.slice (some ⟨b1,0,none⟩) 17 17) [28,27,26,25,23,22,20,19,18,14,13,11,10,9,8,6,0],aw]∧dN a0 m y2 k3=some E4) ((([28,27,26,25,23,22,20,19,18,14,13,11,10,9,8,6,0].length:Int)).toNat+1) [0,0] ⟨0,0,Z,Z,by exact hE5⟩ (by rfl) (by rfl) ?_
 rintro m7 _ _ ⟨y2,k3,rfl,rfl,hl9⟩
 clear hE5 h
 cases m7 with
 | zero =>
  rw[dN] at hl9
  cases hl9
 | succ m7 =>
  have h:=hl9
  clear hl9
  rw[dN] at h
  refine T.seq (T.seq (T.region Z (TL.run ai [0,1] Z Z (TL.q Z .u (uY Z xt) Z (TL.run ai [3] Z Z ?_)))))
  rcases jF h with⟨c11,h⟩ | ⟨c11,h⟩
  ·refine TL.nil (X.seq (uF Z (wY c11) (T.skip (X.seq (T.seq (T.block (T.seq (T.region Z ?_))))))))
   obtain⟨x12,hx13,h⟩:=wX h
   refine TL.run ai [0,1] Z Z (vM (E:=ck) (k:=k3) 0 Z (fun w G h=>aN (by decide) w G h) (by decide) hx13 ?_)
   rintro gg oo z14cs hA z14cl ⟨_,_,z14r⟩
   cases hA
   obtain rfl:z14cs = [jI x12]:=z14r
   clear z14cl
   refine uM [0,0] Z ?_
   refine TL.q Z .u (uV (k:=k3) Z Z Z xt xg (xd hx13).1) Z ?_
   refine TL.q Z .u (vw (cs := [jI x12]) 0 0 Z xc Z (fun _ _ h=>h.2.2.1) Z) Z (TL.run ai [4,5] Z Z ?_)
   rcases jF h with⟨c15,h⟩ | ⟨c15,h⟩
   ·refine TL.nil (X.seq (uF Z (wY c15) (T.seq (T.region Z (TL.run ai [0] Z Z ?_)))))
    obtain rfl:=xa h
    replace h:=hO6
    clear hO6
    try dsimp only at h
    obtain rfl:=xa h
    exact TL.nil (X.seq (T.ret (uS (uH (uH (uS (uH (uC [1] Tryz.results60 (uD Z) ⟨Z,Z,Z⟩ (by rfl) (.inl Z)))))))))
   ·refine TL.nil (X.seq (uK Z (wZ c15) (T.skip (uQ (X.seq (T.region Z ?_))))))
    replace h:=ak h
    obtain⟨c16,h⟩:=h
    exact TL.run ai [0] Z Z (TL.q Z .u (Ex.add Z Z c16) Z (TL.run ai [2] Z Z (TL.nil (X.unf 0 Z (uW [0,0] Z (X.back (m':=m7) [0,0] (by omega) ⟨y2,k3+1,Z,Z,h⟩ (by rfl) (by rfl)))))))
  ·refine TL.nil (X.seq (uK Z (wZ c11) ?_))
   obtain rfl:=xa h
   replace h:=hO6
   clear hO6
   try dsimp only at h
   refine T.exit (uR (uR (vn (X.seq (T.seq (T.region Z (TL.run ai [0] Z Z ?_)))))))
   obtain rfl:=xa h
   exact TL.nil (X.seq (T.ret (uC [1] Tryz.results60 (uD Z) ⟨Z,Z,Z⟩ (by rfl) (.inl Z))))
def dr (k43:Nat):Nat→List Int→Int→Option (List Int×Int)
 | 0,_,_=>none
 | m63+1,y56,y59=>if y59≤32 then (if 0≤((k43:Int)+y59) then ((y56[((k43:Int)+y59).toNat]?).bind fun x69=>if -9223372036854775808≤((k43:Int)+y59)∧((k43:Int)+y59)≤9223372036854775807 then (if -9223372036854775808≤((k43:Int)+y59)∧((k43:Int)+y59)≤9223372036854775807 then (if -9223372036854775808≤(32 - y59)∧(32 - y59)≤9223372036854775807 then ((e9 (32 - y59)).bind fun x75=>if -9223372036854775808≤(x69+x75)∧(x69+x75)≤9223372036854775807 then (if 0≤(x69+x75)∧(x69+x75)≤9223372036854775807 then (if -9223372036854775808≤(y59+1)∧(y59+1)≤9223372036854775807 then (dr k43 m63 (y56.set (((k43:Int)+y59).toNat) ((x69+x75) % 2)) (y59+1)) else none) else none) else none) else none) else none) else none) else none) else some (y56,y59)
def cw (a0:List UInt8) (y40:List Int):Nat→Int→Int→Option (Int×Int)
 | 0,_,_=>none
 | m92+1,y87,y88=>if y88≥0 then (if -9223372036854775808≤((8*(a0.length:Int))+y88)∧((8*(a0.length:Int))+y88)≤9223372036854775807 then (if 0≤((8*(a0.length:Int))+y88) then ((y40[((8*(a0.length:Int))+y88).toNat]?).bind fun x99=>if -9223372036854775808≤(1 - x99)∧(1 - x99)≤9223372036854775807 then (if -9223372036854775808≤(y88 - 1)∧(y88 - 1)≤9223372036854775807 then (cw a0 y40 m92 (IntKind.u32.wrap ((IntKind.u32.wrap (y87*2))+(IntKind.u32.wrap (1 - x99)))) (y88 - 1)) else none) else none) else none) else none) else some (y87,y88)
def cU (a0:List UInt8):Nat→List Int→Nat→Option (List Int×Nat)
 | 0,_,_=>none
 | m47+1,y40,k43=>if (k43:Int)<(8*(a0.length:Int)) then ((y40[k43]?).bind fun x52=>if x52=1 then ((dr k43 (((33:Int) - (1)).toNat+1) y40 1).bind fun (y81,y84)=>if -9223372036854775808≤((k43:Int)+1)∧((k43:Int)+1)≤9223372036854775807 then (cU a0 m47 y81 (k43+1)) else none) else (if -9223372036854775808≤((k43:Int)+1)∧((k43:Int)+1)≤9223372036854775807 then (cU a0 m47 y40 (k43+1)) else none)) else some (y40,k43)
def dt:Nat→List Int→Nat→Option (List Int×Nat)
 | 0,_,_=>none
 | m30+1,y23,k26=>if (k26:Int)<32 then ((y23[k26]?).bind fun x35=>if -9223372036854775808≤(1 - x35)∧(1 - x35)≤9223372036854775807 then (if -9223372036854775808≤((k26:Int)+1)∧((k26:Int)+1)≤9223372036854775807 then (dt m30 (y23.set k26 (1 - x35)) (k26+1)) else none) else none) else some (y23,k26)
def du (a0:List UInt8):Nat→List Int→Nat→Option (List Int×Nat)
 | 0,_,_=>none
 | m12+1,y5,k8=>if (k8:Int)<(8*(a0.length:Int)) then ((gz a0 (k8:Int)).bind fun x17=>(y5[k8]?).bind fun x19=>if -9223372036854775808≤((k8:Int)+1)∧((k8:Int)+1)≤9223372036854775807 then (du a0 m12 (y5.set k8 x17) (k8+1)) else none) else some (y5,k8)
def gB (a0:List UInt8):Option (Int):=if -9223372036854775808≤(8*(a0.length:Int))∧(8*(a0.length:Int))≤9223372036854775807 then (if -9223372036854775808≤((8*(a0.length:Int))+32)∧((8*(a0.length:Int))+32)≤9223372036854775807 then (if 0≤((8*(a0.length:Int))+32)∧8*(((8*(a0.length:Int))+32).toNat)≤281474976710656 then ((du a0 (((8*(a0.length:Int))).toNat+1) (List.replicate (((8*(a0.length:Int))+32).toNat) (0:Int)) 0).bind fun (y222,k225)=>(dt ((32:Int).toNat+1) y222 0).bind fun (y332,k335)=>(cU a0 (((8*(a0.length:Int))).toNat+1) y332 0).bind fun (y402,k405)=>(cw a0 y402 (((31:Int) - (-1)).toNat+1) 0 31).bind fun (y423,y424)=>some y423) else none) else none) else none
theorem mb (a0:List UInt8) (r:Int) (h:gB a0=some r):au Tryz.prog 32 #[jS a0] .triv (aw) (fun v A' N=>v= .int .u32 r∧A'=aw∧N = []):=by
 refine aF Tryz.func32 Z Tryz.ntmps32 Z ?_
 intro F w hX
 unfold gB at h
 refine T.seq (T.region Z (TL.run ai [0] Z Z (TL.nil (X.seq (T.seq (T.region Z (TL.run ai [0] Z Z (TL.q Z .u (vk Z xj) Z ?_))))))))
 replace h:=ak h
 obtain⟨c1,h⟩:=h
 refine TL.q Z .u (Ex.mul Z Z c1) Z (TL.run ai [3] Z Z (TL.nil (X.seq (T.seq (T.region Z ?_)))))
 replace h:=ak h
 obtain⟨c2,h⟩:=h
 refine TL.run ai [0] Z Z (TL.q Z .u (Ex.add Z Z c2) Z ?_)
 replace h:=ak h
 obtain⟨c3,h⟩:=h
 refine TL.mk1 (k:=((8*(a0.length:Int))+32).toNat) (v:=jI 0) ck (0:Int) Z .u Tryz.underlying40 iT Z Z (Int.toNat_of_nonneg c3.1).symm c3.2 (by have hq:=c3.2; omega) (fun _ _=>Z) Z (fun b4=> ?_)
 refine TL.run ai [3] Z Z (TL.nil (X.seq (T.seq (T.seq (T.region Z (TL.run ai [0] Z Z (TL.nil (X.seq (T.block ?_)))))))))
 obtain⟨E9,hE10,hO11⟩:=wX h
 refine vo (fun m e Rs=> ∃ (y5:List Int) (A6:Option Addr) (c7:Nat) (k8:Nat),e = [(0,jS a0),(2,.int .u32 0),(3,jI (8*(a0.length:Int))),(4,.slice A6 y5.length c7),(5,jI (k8:Int))]∧Rs = [aE 3 1 ck (.slice A6 y5.length c7) y5,aw]∧du a0 m y5 k8=some E9) (((8*(a0.length:Int))).toNat+1) [0,0] ⟨(List.replicate (((8*(a0.length:Int))+32).toNat) (0:Int)),(some ⟨b4,0,none⟩),(List.replicate (((8*(a0.length:Int))+32).toNat) (0:Int)).length,0,Z,Z,by exact hE10⟩ (by rfl) (by rfl) ?_
 rintro m12 _ _ ⟨y5,A6,c7,k8,rfl,rfl,hl14⟩
 clear hE10 h
 cases m12 with
 | zero =>
  rw[du] at hl14
  cases hl14
 | succ m12 =>
  have h:=hl14
  clear hl14
  rw[du] at h
  refine T.seq (T.seq (T.region Z (TL.run ai [0,1,2] Z Z ?_)))
  rcases jF h with⟨c16,h⟩ | ⟨c16,h⟩
  ·refine TL.nil (X.seq (uF Z (wY c16) (T.skip (X.seq (T.seq (T.block (T.region Z ?_)))))))
   obtain⟨x17,hx18,h⟩:=wX h
   refine TL.run ai [0,1,2,3] Z Z (uP Z .u (.fn Tryz.call59 Z) (ma a0 (k8:Int) _ hx18) (fun _ hs=>(uE _ _)) Z ?_)
   obtain⟨x19,hx20,h⟩:=wX h
   refine vM (E:=ck) (k:=k8) 0 Z (fun w G h=>aN (by decide) w G h) (by decide) hx20 ?_
   rintro gz21 oz21 z21cs hA z21cl ⟨_,_,z21r⟩
   cases hA
   obtain rfl:z21cs = [jI x19]:=z21r
   clear z21cl
   refine uM [0,0] Z ?_
   refine TL.q Z .u (uV (k:=k8) Z Z Z xt xg (xd hx20).1) Z ?_
   refine TL.unf 0 Z (uM [0,0] Z (TL.stE (k:=k8) (u:=x19) (u':=x17) 0 0 Z .u Z Z xg Z hx20 Z Z Z Z (fun _ _ _ _ h=>by subst h; rfl) (uM [0,0] Z ?_)))
   rw[show y5.length=(y5.set k8 x17).length from (List.length_set ..).symm]
   refine TL.nil (uQ (X.seq (T.region Z ?_)))
   replace h:=ak h
   obtain⟨c22,h⟩:=h
   exact TL.run ai [0] Z Z (TL.q Z .u (Ex.add Z Z c22) Z (TL.run ai [2] Z Z (TL.nil (X.back (m':=m12) [0,0] (by omega) ⟨(y5.set k8 x17),(some ⟨gz21,oz21,none⟩),c7,k8+1,Z,Z,h⟩ (by rfl) (by rfl)))))
  ·refine TL.nil (X.seq (uK Z (wZ c16) ?_))
   obtain rfl:=xa h
   replace h:=hO11
   clear hO11
   try dsimp only at h
   refine T.exit (uR (uR (vn (X.seq (T.seq (T.seq (T.region Z (TL.run ai [0] Z Z (TL.nil (X.seq (T.block ?_)))))))))))
   obtain⟨E27,hE28,hO29⟩:=wX h
   refine vo (fun m e Rs=> ∃ (y23:List Int) (A24:Option Addr) (c25:Nat) (k26:Nat),e = [(2,.int .u32 0),(3,jI (8*(a0.length:Int))),(4,.slice A24 y23.length c25),(6,jI (k26:Int))]∧Rs = [aE 3 1 ck (.slice A24 y23.length c25) y23,aw]∧dt m y23 k26=some E27) ((32:Int).toNat+1) [0,0] ⟨y5,A6,c7,0,Z,Z,by exact hE28⟩ (by rfl) (by rfl) ?_
   rintro m30 _ _ ⟨y23,A24,c25,k26,rfl,rfl,hl32⟩
   clear hE28 h
   cases m30 with
   | zero =>
    rw[dt] at hl32
    cases hl32
   | succ m30 =>
    have h:=hl32
    clear hl32
    rw[dt] at h
    refine T.seq (T.seq (T.region Z (TL.run ai [0,1] Z Z ?_)))
    rcases jF h with⟨c34,h⟩ | ⟨c34,h⟩
    ·refine TL.nil (X.seq (uF Z (wY c34) (T.skip (X.seq (T.seq (T.block (T.region Z ?_)))))))
     obtain⟨x35,hx36,h⟩:=wX h
     refine TL.run ai [0,1,2,3] Z Z (vM (E:=ck) (k:=k26) 0 Z (fun w G h=>aN (by decide) w G h) (by decide) hx36 ?_)
     rintro gz37 oz37 z37cs hA z37cl ⟨_,_,z37r⟩
     cases hA
     obtain rfl:z37cs = [jI x35]:=z37r
     clear z37cl
     refine uM [0,0] Z ?_
     refine TL.q Z .u (uV (k:=k26) Z Z Z xt xg (xd hx36).1) Z ?_
     refine TL.q Z .u (vw (cs := [jI x35]) 0 0 Z xc Z (fun _ _ h=>h.2.2.1) Z) Z ?_
     replace h:=ak h
     obtain⟨c38,h⟩:=h
     refine TL.q Z .u (Ex.sub Z Z c38) Z ?_
     refine TL.q Z .u (uV (k:=k26) Z Z Z xt xg (xd hx36).1) Z ?_
     refine TL.unf 0 Z (uM [0,0] Z (TL.stE (k:=k26) (u:=x35) (u':=(1 - x35)) 0 0 Z .u Z Z xg Z hx36 Z Z Z Z (fun _ _ _ _ h=>by subst h; rfl) (uM [0,0] Z ?_)))
     rw[show y23.length=(y23.set k26 (1 - x35)).length from (List.length_set ..).symm]
     refine TL.nil (uQ (X.seq (T.region Z ?_)))
     replace h:=ak h
     obtain⟨c39,h⟩:=h
     exact TL.run ai [0] Z Z (TL.q Z .u (Ex.add Z Z c39) Z (TL.run ai [2] Z Z (TL.nil (X.back (m':=m30) [0,0] (by omega) ⟨(y23.set k26 (1 - x35)),(some ⟨gz37,oz37,none⟩),c25,k26+1,Z,Z,h⟩ (by rfl) (by rfl)))))
    ·refine TL.nil (X.seq (uK Z (wZ c34) ?_))
     obtain rfl:=xa h
     replace h:=hO29
     clear hO29
     try dsimp only at h
     refine T.exit (uR (uR (vn (X.seq (T.seq (T.seq (T.region Z (TL.run ai [0] Z Z (TL.nil (X.seq (T.block ?_)))))))))))
     obtain⟨E44,hE45,hO46⟩:=wX h
     refine vo (fun m e Rs=> ∃ (y40:List Int) (A41:Option Addr) (c42:Nat) (k43:Nat),e = [(2,.int .u32 0),(3,jI (8*(a0.length:Int))),(4,.slice A41 y40.length c42),(7,jI (k43:Int))]∧Rs = [aE 3 1 ck (.slice A41 y40.length c42) y40,aw]∧cU a0 m y40 k43=some E44) (((8*(a0.length:Int))).toNat+1) [0,0] ⟨y23,A24,c25,0,Z,Z,by exact hE45⟩ (by rfl) (by rfl) ?_
     rintro m47 _ _ ⟨y40,A41,c42,k43,rfl,rfl,hl49⟩
     clear hE45 h
     cases m47 with
     | zero =>
      rw[cU] at hl49
      cases hl49
     | succ m47 =>
      have h:=hl49
      clear hl49
      rw[cU] at h
      refine T.seq (T.seq (T.region Z (TL.run ai [0,1,2] Z Z ?_)))
      rcases jF h with⟨c51,h⟩ | ⟨c51,h⟩
      ·refine TL.nil (X.seq (uF Z (wY c51) (T.skip (X.seq (T.seq (T.block (T.seq (T.region Z ?_))))))))
       obtain⟨x52,hx53,h⟩:=wX h
       refine TL.run ai [0,1] Z Z (vM (E:=ck) (k:=k43) 0 Z (fun w G h=>aN (by decide) w G h) (by decide) hx53 ?_)
       rintro gz54 oz54 z54cs hA z54cl ⟨_,_,z54r⟩
       cases hA
       obtain rfl:z54cs = [jI x52]:=z54r
       clear z54cl
       refine uM [0,0] Z ?_
       refine TL.q Z .u (uV (k:=k43) Z Z Z xt xg (xd hx53).1) Z ?_
       refine TL.q Z .u (vw (cs := [jI x52]) 0 0 Z xc Z (fun _ _ h=>h.2.2.1) Z) Z (TL.run ai [4] Z Z ?_)
       rcases jF h with⟨c55,h⟩ | ⟨c55,h⟩
       ·refine TL.nil (X.seq (uF Z (wY c55) (T.seq (T.region Z (TL.run ai [0] Z Z (TL.nil (X.seq (T.block (T.unf 0 Z (vN [0,0] Z ?_))))))))))
        obtain⟨E60,hE61,hO62⟩:=wX h
        refine vo (fun m e Rs=> ∃ (y56:List Int) (A57:Option Addr) (c58:Nat) (y59:Int),e = [(2,.int .u32 0),(3,jI (8*(a0.length:Int))),(4,.slice A57 y56.length c58),(7,jI (k43:Int)),(8,jI y59)]∧Rs = [aE 3 1 ck (.slice A57 y56.length c58) y56,aw]∧dr k43 m y56 y59=some E60) (((33:Int) - (1)).toNat+1) [0,0] ⟨y40,(some ⟨gz54,oz54,none⟩),c42,1,Z,Z,by exact hE61⟩ (by rfl) (by rfl) ?_
        rintro m63 _ _ ⟨y56,A57,c58,y59,rfl,rfl,hl65⟩
        clear hE61 h
        cases m63 with
        | zero =>
         rw[dr] at hl65
         cases hl65
        | succ m63 =>
         have h:=hl65
         clear hl65
         rw[dr] at h
         refine T.seq (T.seq (T.region Z (TL.run ai [0,1] Z Z ?_)))
         rcases jF h with⟨c67,h⟩ | ⟨c67,h⟩
         ·refine TL.nil (X.seq (uF Z (wY c67) ?_))
          replace h:=ak h
          obtain⟨c68,h⟩:=h
          obtain⟨x69,hx70,h⟩:=wX h
          refine T.skip (X.seq (T.seq (T.block (wd (E:=ck) (k:=((k43:Int)+y59).toNat) 0 Z (fun w G h=>aN (by decide) w G h) (by decide) hx70 ?_))))
          rintro gz71 oz71 z71cs hA z71cl ⟨_,_,z71r⟩
          cases hA
          obtain rfl:z71cs = [jI x69]:=z71r
          clear z71cl
          refine vN [0,0] Z ?_
          replace h:=ak h
          obtain⟨c72,h⟩:=h
          replace h:=ak h
          obtain⟨c73,h⟩:=h
          replace h:=ak h
          obtain⟨c74,h⟩:=h
          obtain⟨x75,hx76,h⟩:=wX h
          replace h:=ak h
          obtain⟨c77,h⟩:=h
          replace h:=ak h
          obtain⟨c78,h⟩:=h
          refine T.join (fun e Rs=>e = [(2,.int .u32 0),(3,jI (8*(a0.length:Int))),(4,.slice (some ⟨gz71,oz71,none⟩) (y56.set (((k43:Int)+y59).toNat) ((x69+x75) % 2)).length c58),(7,jI (k43:Int)),(8,jI y59),(50,jI y59)]∧Rs = [aE 3 1 ck (.slice (some ⟨gz71,oz71,none⟩) (y56.set (((k43:Int)+y59).toNat) ((x69+x75) % 2)).length c58) (y56.set (((k43:Int)+y59).toNat) ((x69+x75) % 2)),aw]) ?_ ?_
          ·refine uZ (.q 0 (.q 1 (.q 2 (.q 3 (.q 4 (.q 5 (.q 6 (.q 7 (.q 8 (.q 10 (.q 11 (.br 9 (.e 12 (.q 13 (.q 14 (.q 15 (.e 16 .nil))))) (.e 12 (.e 9 (.q 13 (.q 14 (.q 15 (.e 16 .nil)))))))))))))))))) [1] Z jU oX (by kernel_rfl) ?_
           refine TD.run ai [0,1,2] Z Z (TD.q Z .u (Ex.add Z Z c72) Z (TD.run ai [4,5,6] Z Z (TD.q Z .u (Ex.add Z Z c73) Z ?_)))
           refine TD.q Z .u (uV (k:=((k43:Int)+y59).toNat) Z Z ((Int.toNat_of_nonneg c68).symm) xt xg (xd hx70).1) Z ?_
           refine TD.run ai [10] Z Z (TD.q Z .u (Ex.sub Z Z c74) Z ?_)
           refine TD.br ?_ ?_
           ·refine vp Z .u (vw (cs := [jI x69]) 0 0 Z xc Z (fun _ _ h=>h.2.2.1) Z) Z [1] Z (v6 Z .u (.fn Tryz.call60 Z) (gA (32 - y59) _ hx76) (fun _ hs=>(uE _ _)) Z [1] (Z) (TD.q Z .u (Ex.add Z Z c77) Z (TD.q Z .u (Ex.rem Z Z (by omega) c78) Z ?_)))
            refine TD.q Z .u (uV (k:=((k43:Int)+y59).toNat) Z Z ((Int.toNat_of_nonneg c68).symm) xt xg (xd hx70).1) Z ?_
            refine TD.unf 0 Z (vi [0,0] Z (TD.stE (k:=((k43:Int)+y59).toNat) (u:=x69) (u':=((x69+x75) % 2)) 0 0 Z .u Z Z xg Z hx70 Z Z Z Z (fun _ _ _ _ h=>by subst h; rfl) [1] (Z) (vi [0,0] Z ?_)))
            rw[show y56.length=(y56.set (((k43:Int)+y59).toNat) ((x69+x75) % 2)).length from (List.length_set ..).symm]
            exact TD.nil (vU [0,0] ⟨Z,Z⟩ (by rfl) (by rfl))
           ·refine v6 Z .u (.fn Tryz.call60 Z) (gA (32 - y59) _ hx76) (fun _ hs=>(uE _ _)) Z [1] (Z) (vp Z .u (vw (cs := [jI x69]) 0 0 Z xc Z (fun _ _ h=>h.2.2.1) Z) Z [1] Z (TD.q Z .u (Ex.add Z Z c77) Z (TD.q Z .u (Ex.rem Z Z (by omega) c78) Z ?_)))
            refine TD.q Z .u (uV (k:=((k43:Int)+y59).toNat) Z Z ((Int.toNat_of_nonneg c68).symm) xt xg (xd hx70).1) Z ?_
            refine TD.unf 0 Z (vi [0,0] Z (TD.stE (k:=((k43:Int)+y59).toNat) (u:=x69) (u':=((x69+x75) % 2)) 0 0 Z .u Z Z xg Z hx70 Z Z Z Z (fun _ _ _ _ h=>by subst h; rfl) [1] (Z) (vi [0,0] Z ?_)))
            rw[show y56.length=(y56.set (((k43:Int)+y59).toNat) ((x69+x75) % 2)).length from (List.length_set ..).symm]
            exact TD.nil (vU [0,0] ⟨Z,Z⟩ (by rfl) (by rfl))
          ·rintro _ _ ⟨rfl,rfl⟩
           refine uQ (X.seq (T.region Z ?_))
           replace h:=ak h
           obtain⟨c79,h⟩:=h
           exact TL.run ai [0] Z Z (TL.q Z .u (Ex.add Z Z c79) Z (TL.run ai [2] Z Z (TL.nil (X.back (m':=m63) [0,0] (by omega) ⟨(y56.set (((k43:Int)+y59).toNat) ((x69+x75) % 2)),(some ⟨gz71,oz71,none⟩),c58,(y59+1),Z,Z,h⟩ (by rfl) (by rfl)))))
         ·refine TL.nil (X.seq (uK Z (wZ c67) ?_))
          obtain rfl:=xa h
          replace h:=hO62
          clear hO62
          try dsimp only at h
          refine T.exit (uR (uR (vn (uQ (X.seq (T.region Z ?_))))))
          replace h:=ak h
          obtain⟨c80,h⟩:=h
          exact TL.run ai [0] Z Z (TL.q Z .u (Ex.add Z Z c80) Z (TL.run ai [2] Z Z (TL.nil (X.back (m':=m47) [0,0] (by omega) ⟨y56,A57,c58,k43+1,Z,Z,h⟩ (by rfl) (by rfl)))))
       ·refine TL.nil (X.seq (uK Z (wZ c55) (T.skip (uQ (X.seq (T.region Z ?_))))))
        replace h:=ak h
        obtain⟨c86,h⟩:=h
        exact TL.run ai [0] Z Z (TL.q Z .u (Ex.add Z Z c86) Z (TL.run ai [2] Z Z (TL.nil (X.unf 0 Z (uW [0,0] Z (X.back (m':=m47) [0,0] (by omega) ⟨y40,(some ⟨gz54,oz54,none⟩),c42,k43+1,Z,Z,h⟩ (by rfl) (by rfl)))))))
      ·refine TL.nil (X.seq (uK Z (wZ c51) ?_))
       obtain rfl:=xa h
       replace h:=hO46
       clear hO46
       try dsimp only at h
       refine T.exit (uR (uR (vn (X.seq (T.seq (T.region Z (TL.run ai [0] Z Z (TL.nil (X.seq (T.seq (T.seq (T.region Z (TL.run ai [0] Z Z (TL.nil (X.seq (T.block ?_))))))))))))))))
       obtain⟨E89,hE90,hO91⟩:=wX h
       refine vo (fun m e Rs=> ∃ (y87:Int) (y88:Int),e = [(2,.int .u32 0),(3,jI (8*(a0.length:Int))),(4,.slice A41 y40.length c42),(9,.int .u32 y87),(10,jI y88)]∧Rs = [aE 3 1 ck (.slice A41 y40.length c42) y40,aw]∧cw a0 y40 m y87 y88=some E89) (((31:Int) - (-1)).toNat+1) [0,0] ⟨0,31,Z,Z,by exact hE90⟩ (by rfl) (by rfl) ?_
       rintro m92 _ _ ⟨y87,y88,rfl,rfl,hl94⟩
       clear hE90 h
       cases m92 with
       | zero =>
        rw[cw] at hl94
        cases hl94
       | succ m92 =>
        have h:=hl94
        clear hl94
        rw[cw] at h
        refine T.seq (T.seq (T.region Z (TL.run ai [0,1] Z Z ?_)))
        rcases jF h with⟨c96,h⟩ | ⟨c96,h⟩
        ·refine TL.nil (X.seq (uF Z (wY c96) (T.skip (X.seq (T.seq (T.block (T.region Z (TL.run ai [0] Z Z (TL.q Z .u (Ex.mulw Z Z) Z ?_)))))))))
         replace h:=ak h
         obtain⟨c97,h⟩:=h
         refine TL.run ai [2,3,4] Z Z (TL.q Z .u (Ex.add Z Z c97) Z ?_)
         replace h:=ak h
         obtain⟨c98,h⟩:=h
         obtain⟨x99,hx100,h⟩:=wX h
         refine vM (E:=ck) (k:=((8*(a0.length:Int))+y88).toNat) 0 Z (fun w G h=>aN (by decide) w G h) (by decide) hx100 ?_
         rintro gz101 oz101 z101cs hA z101cl ⟨_,_,z101r⟩
         cases hA
         obtain rfl:z101cs = [jI x99]:=z101r
         clear z101cl
         refine uM [0,0] Z ?_
         refine TL.q Z .u (uV (k:=((8*(a0.length:Int))+y88).toNat) Z Z ((Int.toNat_of_nonneg c98).symm) xt xg (xd hx100).1) Z ?_
         refine TL.q Z .u (vw (cs := [jI x99]) 0 0 Z xc Z (fun _ _ h=>h.2.2.1) Z) Z ?_
         replace h:=ak h
         obtain⟨c102,h⟩:=h
         refine TL.q Z .u (Ex.sub Z Z c102) Z (TL.q Z .u (wh Z xW xZ) Z (TL.q Z .u (Ex.addw Z Z) Z (TL.run ai [11] Z Z (TL.nil (uQ (X.seq (T.region Z ?_)))))))
         replace h:=ak h
         obtain⟨c103,h⟩:=h
         exact TL.run ai [0] Z Z (TL.q Z .u (Ex.sub Z Z c103) Z (TL.run ai [2] Z Z (TL.nil (X.unf 0 Z (uW [0,0] Z (X.back (m':=m92) [0,0] (by omega) ⟨(IntKind.u32.wrap ((IntKind.u32.wrap (y87*2))+(IntKind.u32.wrap (1 - x99)))),(y88 - 1),Z,Z,h⟩ (by rfl) (by rfl)))))))
        ·refine TL.nil (X.seq (uK Z (wZ c96) ?_))
         obtain rfl:=xa h
         replace h:=hO91
         clear hO91
         try dsimp only at h
         refine T.exit (uR (uR (vn (X.seq (T.seq (T.region Z (TL.run ai [0,1] Z Z ?_)))))))
         obtain rfl:=xa h
         exact TL.nil (X.seq (T.ret (uC [1] Tryz.results32 (uD Z) ⟨Z,Z,Z⟩ (by rfl) (.inl Z))))
def kt:dU := [(66,0,0),(66,1,1),(69,1,1),(69,2,2),(69,3,4),(69,4,6)]
theorem ag:(kt).OK Tryz.prog:=⟨FOK.mk yi rfl yc rfl,FOK.mk yi rfl yb rfl,FOK.mk xz rfl xg rfl,FOK.mk xz rfl xp rfl,FOK.mk xz rfl xp rfl,FOK.mk xz rfl yw rfl,trivial⟩
def d8 (a0:List UInt8):Option (Int×Int):=if (a0.length:Int)<2 then some (0,1) else (if 2≤a0.length then ((kP (a0.take 2)).bind fun x3=>if x3=0 then (if (a0.length:Int)<4 then some (0,1) else (if 4≤a0.length then ((kP ((a0.drop 2).take 2)).bind fun x8=>if x8=0 then (if (a0.length:Int)>4 then some (0,2) else some (x8,0)) else (if x8=1 then (if (a0.length:Int)>4 then some (0,2) else some (x8,0)) else some (0,12))) else none)) else some (0,7)) else none)
theorem jt (a0:List UInt8) (r:Int×Int) (h:d8 a0=some r):au Tryz.prog 52 #[jS a0] .triv (aw) (fun v A' N=>v= .tuple #[jI r.1,jI r.2]∧A'=aw∧N = []):=by
 refine aF Tryz.func52 Z Tryz.ntmps52 Z ?_
 intro F w hX
 unfold d8 at h
 refine T.seq (T.region Z (TL.run ag [0,1] Z Z (TL.nil (X.seq (T.seq (T.seq (T.region Z (TL.run ag [0] Z Z (TL.q Z .u (vk Z xj) Z (TL.run ag [2] Z Z ?_))))))))))
 rcases jF h with⟨c1,h⟩ | ⟨c1,h⟩
 ·refine TL.nil (X.seq (uF Z (wY c1) (T.seq (T.region Z (TL.run ag [0,1] Z Z ?_)))))
  obtain rfl:=xa h
  exact TL.nil (X.seq (T.ret (uH (uX [0] yy (uD Z) (uD Z) ⟨Z,Z,Z⟩ (by rfl) (.inl Z)))))
 ·refine TL.nil (X.seq (uK Z (wZ c1) (T.skip (X.seq (T.seq (T.seq (T.region Z ?_)))))))
  replace h:=ak h
  obtain⟨c2,h⟩:=h
  refine TL.run ag [0] Z Z ?_
  replace c2:2≤a0.length:=c2
  refine TL.q Z .u (vq (p:=0) (q:=2) (m:=(a0.take 2)) Z xj .none (.some Z Z) (by first | omega | (dsimp only; omega)) (by simp)) Z ?_
  obtain⟨x3,hx4,h⟩:=wX h
  refine uP Z .u (.fn Tryz.call72 Z) (vc (fun w=>fD (a0.take 2) _ hx4 w)) (fun _ _=>uE _ _) Z (TL.run ag [3] Z Z ?_)
  rcases jF h with⟨c5,h⟩ | ⟨c5,h⟩
  ·refine TL.nil (X.seq (uK Z (av (wY c5)) (T.skip (X.seq (T.seq (T.seq (T.region Z (TL.run ag [0] Z Z (TL.q Z .u (vk Z xj) Z (TL.run ag [2] Z Z ?_))))))))))
   rcases jF h with⟨c6,h⟩ | ⟨c6,h⟩
   ·refine TL.nil (X.seq (uF Z (wY c6) (T.seq (T.region Z (TL.run ag [0,1] Z Z ?_)))))
    obtain rfl:=xa h
    exact TL.nil (X.seq (T.ret (uH (uX [0] yy (uD Z) (uD Z) ⟨Z,Z,Z⟩ (by rfl) (.inl Z)))))
   ·refine TL.nil (X.seq (uK Z (wZ c6) (T.skip (X.seq (T.seq (T.region Z ?_))))))
    replace h:=ak h
    obtain⟨c7,h⟩:=h
    refine TL.run ag [0] Z Z ?_
    replace c7:4≤a0.length:=c7
    refine TL.q Z .u (vq (p:=2) (q:=4) (m:=((a0.drop 2).take 2)) Z xj (.some Z Z) (.some Z Z) (by first | omega | (dsimp only; omega)) Z) Z ?_
    obtain⟨x8,hx9,h⟩:=wX h
    refine uP Z .u (.fn Tryz.call72 Z) (vc (fun w=>fD ((a0.drop 2).take 2) _ hx9 w)) (fun _ _=>uE _ _) Z (TL.run ag [3] Z Z (TL.nil (X.seq (T.seq (T.seq (T.region Z ?_))))))
    rcases jF h with⟨c10,h⟩ | ⟨c10,h⟩
    ·refine TL.run ag [0,1,2] Z Z ?_
     iterate 2 refine uG Z (.gn Z Z (av (wY c10))) Z ?_
     refine TL.q Z .u (uL Z (av (wY c10)) Z) Z (TL.nil (X.seq (uK Z Z (T.skip (X.seq (T.seq (T.seq (T.region Z (TL.run ag [0] Z Z (TL.q Z .u (vk Z xj) Z (TL.run ag [2] Z Z ?_)))))))))))
     rcases jF h with⟨c11,h⟩ | ⟨c11,h⟩
     ·refine TL.nil (X.seq (uF Z (wY c11) (T.seq (T.region Z (TL.run ag [0,1] Z Z ?_)))))
      obtain rfl:=xa h
      exact TL.nil (X.seq (T.ret (uH (uX [0] yy (uD Z) (uD Z) ⟨Z,Z,Z⟩ (by rfl) (.inl Z)))))
     ·refine TL.nil (X.seq (uK Z (wZ c11) (T.skip (X.seq (T.seq (T.region Z (TL.run ag [0,1,2] Z Z ?_)))))))
      obtain rfl:=xa h
      exact TL.nil (X.seq (T.ret (uX [0] yy (uD Z) (uD Z) ⟨Z,Z,Z⟩ (by rfl) (.inl Z))))
    ·refine TL.run ag [0,1,2] Z Z ?_
     iterate 2 refine TL.q Z (.g Z Z (aA (wZ c10))) (uI ag Z) Z ?_
     refine TL.q Z .u (uJ Z (aA (wZ c10)) Z) Z ?_
     rcases jF h with⟨c12,h⟩ | ⟨c12,h⟩
     ·refine TL.nil (X.seq (uK Z (av (wY c12)) (T.skip (X.seq (T.seq (T.seq (T.region Z (TL.run ag [0] Z Z (TL.q Z .u (vk Z xj) Z (TL.run ag [2] Z Z ?_))))))))))
      rcases jF h with⟨c13,h⟩ | ⟨c13,h⟩
      ·refine TL.nil (X.seq (uF Z (wY c13) (T.seq (T.region Z (TL.run ag [0,1] Z Z ?_)))))
       obtain rfl:=xa h
       exact TL.nil (X.seq (T.ret (uH (uX [0] yy (uD Z) (uD Z) ⟨Z,Z,Z⟩ (by rfl) (.inl Z)))))
      ·refine TL.nil (X.seq (uK Z (wZ c13) (T.skip (X.seq (T.seq (T.region Z (TL.run ag [0,1,2] Z Z ?_)))))))
       obtain rfl:=xa h
       exact TL.nil (X.seq (T.ret (uX [0] yy (uD Z) (uD Z) ⟨Z,Z,Z⟩ (by rfl) (.inl Z))))
     ·refine TL.nil (X.seq (uF Z (aA (wZ c12)) (T.seq (T.region Z (TL.run ag [0,1] Z Z ?_)))))
      obtain rfl:=xa h
      exact TL.nil (X.seq (T.ret (uH (uX [0] yy (uD Z) (uD Z) ⟨Z,Z,Z⟩ (by rfl) (.inl Z)))))
  ·refine TL.nil (X.seq (uF Z (aA (wZ c5)) (T.seq (T.region Z (TL.run ag [0,1] Z Z ?_)))))
   obtain rfl:=xa h
   exact TL.nil (X.seq (T.ret (uH (uX [0] yy (uD Z) (uD Z) ⟨Z,Z,Z⟩ (by rfl) (.inl Z)))))
def dB (a0:List UInt8):Option (Int×Int):=if (a0.length:Int)<2 then some (0,1) else (if 2≤a0.length then ((kP (a0.take 2)).bind fun x3=>if x3=0 then (if (a0.length:Int)<6 then some (0,1) else (if 6≤a0.length then ((kP ((a0.drop 2).take 4)).bind fun x8=>if x8<0 then some (0,11) else (if (a0.length:Int)>6 then some (0,2) else some (x8,0))) else none)) else some (0,7)) else none)
theorem iu (a0:List UInt8) (r:Int×Int) (h:dB a0=some r):au Tryz.prog 53 #[jS a0] .triv (aw) (fun v A' N=>v= .tuple #[jI r.1,jI r.2]∧A'=aw∧N = []):=by
 refine aF Tryz.func53 Z Tryz.ntmps53 Z ?_
 intro F w hX
 unfold dB at h
 refine T.seq (T.region Z (TL.run ag [0,1] Z Z (TL.nil (X.seq (T.seq (T.seq (T.region Z (TL.run ag [0] Z Z (TL.q Z .u (vk Z xj) Z (TL.run ag [2] Z Z ?_))))))))))
 rcases jF h with⟨c1,h⟩ | ⟨c1,h⟩
 ·refine TL.nil (X.seq (uF Z (wY c1) (T.seq (T.region Z (TL.run ag [0,1] Z Z ?_)))))
  obtain rfl:=xa h
  exact TL.nil (X.seq (T.ret (uH (uX [0] yM (uD Z) (uD Z) ⟨Z,Z,Z⟩ (by rfl) (.inl Z)))))
 ·refine TL.nil (X.seq (uK Z (wZ c1) (T.skip (X.seq (T.seq (T.seq (T.region Z ?_)))))))
  replace h:=ak h
  obtain⟨c2,h⟩:=h
  refine TL.run ag [0] Z Z ?_
  replace c2:2≤a0.length:=c2
  refine TL.q Z .u (vq (p:=0) (q:=2) (m:=(a0.take 2)) Z xj .none (.some Z Z) (by first | omega | (dsimp only; omega)) (by simp)) Z ?_
  obtain⟨x3,hx4,h⟩:=wX h
  refine uP Z .u (.fn Tryz.call72 Z) (vc (fun w=>fD (a0.take 2) _ hx4 w)) (fun _ _=>uE _ _) Z (TL.run ag [3] Z Z ?_)
  rcases jF h with⟨c5,h⟩ | ⟨c5,h⟩
  ·refine TL.nil (X.seq (uK Z (av (wY c5)) (T.skip (X.seq (T.seq (T.seq (T.region Z (TL.run ag [0] Z Z (TL.q Z .u (vk Z xj) Z (TL.run ag [2] Z Z ?_))))))))))
   rcases jF h with⟨c6,h⟩ | ⟨c6,h⟩
   ·refine TL.nil (X.seq (uF Z (wY c6) (T.seq (T.region Z (TL.run ag [0,1] Z Z ?_)))))
    obtain rfl:=xa h
    exact TL.nil (X.seq (T.ret (uH (uX [0] yM (uD Z) (uD Z) ⟨Z,Z,Z⟩ (by rfl) (.inl Z)))))
   ·refine TL.nil (X.seq (uK Z (wZ c6) (T.skip (X.seq (T.seq (T.region Z ?_))))))
    replace h:=ak h
    obtain⟨c7,h⟩:=h
    refine TL.run ag [0] Z Z ?_
    replace c7:6≤a0.length:=c7
    refine TL.q Z .u (vq (p:=2) (q:=6) (m:=((a0.drop 2).take 4)) Z xj (.some Z Z) (.some Z Z) (by first | omega | (dsimp only; omega)) Z) Z ?_
    obtain⟨x8,hx9,h⟩:=wX h
    refine uP Z .u (.fn Tryz.call72 Z) (vc (fun w=>fD ((a0.drop 2).take 4) _ hx9 w)) (fun _ _=>uE _ _) Z (TL.run ag [3] Z Z (TL.nil (X.seq (T.seq (T.seq (T.region Z (TL.run ag [0,1] Z Z ?_)))))))
    rcases jF h with⟨c10,h⟩ | ⟨c10,h⟩
    ·refine TL.nil (X.seq (uF Z (wY c10) (T.seq (T.region Z (TL.run ag [0,1] Z Z ?_)))))
     obtain rfl:=xa h
     exact TL.nil (X.seq (T.ret (uH (uX [0] yM (uD Z) (uD Z) ⟨Z,Z,Z⟩ (by rfl) (.inl Z)))))
    ·refine TL.nil (X.seq (uK Z (wZ c10) (T.skip (X.seq (T.seq (T.seq (T.region Z (TL.run ag [0] Z Z (TL.q Z .u (vk Z xj) Z (TL.run ag [2] Z Z ?_))))))))))
     rcases jF h with⟨c11,h⟩ | ⟨c11,h⟩
     ·refine TL.nil (X.seq (uF Z (wY c11) (T.seq (T.region Z (TL.run ag [0,1] Z Z ?_)))))
      obtain rfl:=xa h
      exact TL.nil (X.seq (T.ret (uH (uX [0] yM (uD Z) (uD Z) ⟨Z,Z,Z⟩ (by rfl) (.inl Z)))))
     ·refine TL.nil (X.seq (uK Z (wZ c11) (T.skip (X.seq (T.seq (T.region Z (TL.run ag [0,1,2] Z Z ?_)))))))
      obtain rfl:=xa h
      exact TL.nil (X.seq (T.ret (uX [0] yM (uD Z) (uD Z) ⟨Z,Z,Z⟩ (by rfl) (.inl Z))))
  ·refine TL.nil (X.seq (uF Z (aA (wZ c5)) (T.seq (T.region Z (TL.run ag [0,1] Z Z ?_)))))
   obtain rfl:=xa h
   exact TL.nil (X.seq (T.ret (uH (uX [0] yM (uD Z) (uD Z) ⟨Z,Z,Z⟩ (by rfl) (.inl Z)))))
def dO (a0:Rec):Option (Int×Int×Int):=if a0.wC.null=true then some (0,0,12) else (if a0.wt.null=true then some (0,0,12) else (if (a0.wy.length:Int)>0 then some (0,0,12) else (if a0.wD=0 then ((d8 a0.wC.data).bind fun (x8,x9)=>if x9=0 then ((dB a0.wt.data).bind fun (x12,x13)=>if x13=0 then some (x8,x12,0) else some (0,0,x13)) else some (0,0,x9)) else some (0,0,12))))
theorem lm (a0:Rec) (A1:Option Addr) (c2:Nat) (r:Int×Int×Int) (h:dO a0=some r):au Tryz.prog 27 #[.agg #[jI a0.wK,jI a0.wD,.bool a0.wC.null,jS a0.wC.data,.bool a0.wt.null,jS a0.wt.data,.slice A1 a0.wy.length c2]] (RX.of (aq 3 aP) [.slice A1 a0.wy.length c2] a0.wy) (aw) (fun v A' N=>v= .tuple #[jI r.1,jI r.2.1,jI r.2.2]∧A'=aw∧N = []):=by
 refine aF Tryz.func27 Z Tryz.ntmps27 Z ?_
 intro F w hX
 unfold dO at h
 refine T.seq (T.region Z (TL.box Z .u Z Z (fun b3=>(TL.run ag [1,2,3] Z Z (TL.nil (X.seq (T.seq (T.seq (T.region Z (TL.run ag [0,1] Z Z (TL.q Z .u (uB 0 Z xE Z Z) Z ?_)))))))))))
 rcases jF h with⟨c4,h⟩ | ⟨c4,h⟩
 ·refine TL.run ag [3] Z Z ?_
  iterate 3 refine uG Z (.gn Z Z c4) Z ?_
  refine TL.q Z .u (uJ Z c4 Z) Z (TL.run ag [8] Z Z ?_)
  iterate 4 refine uG Z (.gn Z Z Z) Z ?_
  refine TL.q Z .u (uJ Z Z Z) Z (TL.run ag [14] Z Z ?_)
  iterate 3 refine uG Z (.gn Z Z Z) Z ?_
  refine TL.q Z .u (uJ Z Z Z) Z (TL.nil (X.seq (uF Z Z (T.seq (T.region Z (TL.run ag [0,1,2] Z Z ?_))))))
  obtain rfl:=xa h
  exact TL.nil (X.seq (T.ret (uH (vm [1] yF (uD Z) (uD Z) (uD Z) ⟨Z,Z,Z⟩ (by rfl) (.inl Z)))))
 ·replace c4:=xi c4
  refine TL.run ag [3] Z Z ?_
  iterate 2 refine TL.q Z (.g Z Z c4) (uI ag Z) Z ?_
  refine TL.q Z (.g Z Z c4) (uB 0 Z xE Z Z) Z (TL.q Z .u (uL Z c4 Z) Z ?_)
  rcases jF h with⟨c5,h⟩ | ⟨c5,h⟩
  ·refine TL.run ag [8] Z Z ?_
   iterate 4 refine uG Z (.gn Z Z c5) Z ?_
   refine TL.q Z .u (uJ Z c5 Z) Z (TL.run ag [14] Z Z ?_)
   iterate 3 refine uG Z (.gn Z Z Z) Z ?_
   refine TL.q Z .u (uJ Z Z Z) Z (TL.nil (X.seq (uF Z Z (T.seq (T.region Z (TL.run ag [0,1,2] Z Z ?_))))))
   obtain rfl:=xa h
   exact TL.nil (X.seq (T.ret (uH (vm [1] yF (uD Z) (uD Z) (uD Z) ⟨Z,Z,Z⟩ (by rfl) (.inl Z)))))
  ·replace c5:=xi c5
   refine TL.run ag [8] Z Z (TL.q Z (.g Z Z c5) (uI ag Z) Z (TL.q Z (.g Z Z c5) (uB 0 Z yI Z Z) Z (TL.q Z (.g Z Z c5) (uY Z xG) Z (TL.q Z (.g Z Z c5) (uI ag Z) Z (TL.q Z .u (uL Z c5 Z) Z ?_)))))
   rcases jF h with⟨c6,h⟩ | ⟨c6,h⟩
   ·refine TL.run ag [14] Z Z ?_
    iterate 3 refine uG Z (.gn Z Z (wY c6)) Z ?_
    refine TL.q Z .u (uJ Z (wY c6) Z) Z (TL.nil (X.seq (uF Z Z (T.seq (T.region Z (TL.run ag [0,1,2] Z Z ?_))))))
    obtain rfl:=xa h
    exact TL.nil (X.seq (T.ret (uH (vm [1] yF (uD Z) (uD Z) (uD Z) ⟨Z,Z,Z⟩ (by rfl) (.inl Z)))))
   ·refine TL.run ag [14] Z Z (TL.q Z (.g Z Z (wZ c6)) (uI ag Z) Z (TL.q Z (.g Z Z (wZ c6)) (uB 0 Z xc Z Z) Z (TL.q Z (.g Z Z (wZ c6)) (uI ag Z) Z (TL.q Z .u (uL Z (wZ c6) Z) Z ?_))))
    rcases jF h with⟨c7,h⟩ | ⟨c7,h⟩
    ·refine TL.nil (X.seq (uK Z (av (wY c7)) (T.skip (X.seq (T.seq (T.region Z (TL.run ag [0,1] Z Z (TL.q Z .u (uB 0 Z yh Z Z) Z ?_))))))))
     obtain⟨⟨x8,x9⟩,hx10,h⟩:=wX h
     try dsimp only at h
     refine uP Z .u (.fn Tryz.call52 Z) (jt a0.wC.data _ hx10) (fun _ hs=>(uE _ _)) Z (TL.run ag [4,5,6,7,8] Z Z (TL.nil (X.seq (T.seq (T.seq (T.region Z (TL.run ag [0,1] Z Z ?_)))))))
     rcases jF h with⟨c11,h⟩ | ⟨c11,h⟩
     ·refine TL.nil (X.seq (uK Z (av (wY c11)) (T.skip (X.seq (T.seq (T.region Z (TL.run ag [0,1] Z Z (TL.q Z .u (uB 0 Z yh Z Z) Z ?_))))))))
      obtain⟨⟨x12,x13⟩,hx14,h⟩:=wX h
      try dsimp only at h
      refine uP Z .u (.fn Tryz.call53 Z) (iu a0.wt.data _ hx14) (fun _ hs=>(uE _ _)) Z (TL.run ag [4,5,6,7,8] Z Z (TL.nil (X.seq (T.seq (T.seq (T.region Z (TL.run ag [0,1] Z Z ?_)))))))
      rcases jF h with⟨c15,h⟩ | ⟨c15,h⟩
      ·refine TL.nil (X.seq (uK Z (av (wY c15)) (T.skip (X.seq (T.seq (T.region Z (TL.run ag [0,1,2,3,4] Z Z ?_)))))))
       obtain rfl:=xa h
       exact TL.nil (X.seq (T.ret (vm [1] yF (uD Z) (uD Z) (uD Z) ⟨Z,Z,Z⟩ (by rfl) (.inl Z))))
      ·refine TL.nil (X.seq (uF Z (aA (wZ c15)) (T.seq (T.region Z (TL.run ag [0,1,2,3] Z Z ?_)))))
       obtain rfl:=xa h
       exact TL.nil (X.seq (T.ret (uH (vm [1] yF (uD Z) (uD Z) (uD Z) ⟨Z,Z,Z⟩ (by rfl) (.inl Z)))))
     ·refine TL.nil (X.seq (uF Z (aA (wZ c11)) (T.seq (T.region Z (TL.run ag [0,1,2,3] Z Z ?_)))))
      obtain rfl:=xa h
      exact TL.nil (X.seq (T.ret (uH (vm [1] yF (uD Z) (uD Z) (uD Z) ⟨Z,Z,Z⟩ (by rfl) (.inl Z)))))
    ·refine TL.nil (X.seq (uF Z (aA (wZ c7)) (T.seq (T.region Z (TL.run ag [0,1,2] Z Z ?_)))))
     obtain rfl:=xa h
     exact TL.nil (X.seq (T.ret (uH (vm [1] yF (uD Z) (uD Z) (uD Z) ⟨Z,Z,Z⟩ (by rfl) (.inl Z)))))
def ku:dU := []
theorem an:(ku).OK Tryz.prog:=trivial
theorem gC:SOK Tryz.prog 40 3 12 1 #[.int .i64 0,.int .i64 0,.int .i64 0,.int .i64 0,.int .i64 0,.int .i64 0,.int .i64 0,.int .i64 0,.int .i64 0,.int .i64 0,.int .i64 0,.int .i64 0]:=SOK.mk xt xg Tryz.zeroValue3 (by decide) (by kernel_rfl)
def cn (a0:List UInt8) (a1:Int) (a2:Int):Option (Int):=if -9223372036854775808≤(a1+a2)∧(a1+a2)≤9223372036854775807 then (if 0≤a1∧0≤(a1+a2)∧a1.toNat≤(a1+a2).toNat∧(a1+a2).toNat≤a0.length then ((kP ((a0.drop a1.toNat).take (((a1+a2).toNat) - a1.toNat))).bind fun x3=>some x3) else none) else none
theorem ba (a0:List UInt8) (a1:Int) (a2:Int) (r:Int) (h:cn a0 a1 a2=some r):au Tryz.prog 41 #[jS a0,jI a1,jI a2] .triv (aw) (fun v A' N=>v=jI r∧A'=aw∧N = []):=by
 refine aF Tryz.func41 Z Tryz.ntmps41 Z ?_
 intro F w hX
 unfold cn at h
 refine T.seq (T.region Z (TL.run an [0] Z Z (TL.nil (X.seq (T.seq (T.region Z ?_))))))
 replace h:=ak h
 obtain⟨c1,h⟩:=h
 refine TL.run an [0,1,2,3] Z Z (TL.q Z .u (Ex.add Z Z c1) Z ?_)
 replace h:=ak h
 obtain⟨c2,h⟩:=h
 replace c2:0≤a1∧0≤(a1+a2)∧a1.toNat≤(a1+a2).toNat∧(a1+a2).toNat≤a0.length:=c2
 refine TL.q Z .u (vq (p:=a1.toNat) (q:=(a1+a2).toNat) (m:=((a0.drop a1.toNat).take (((a1+a2).toNat) - a1.toNat))) Z xj (.some Z ((Int.toNat_of_nonneg c2.1).symm)) (.some Z ((Int.toNat_of_nonneg c2.2.1).symm)) (by first | omega | (dsimp only; omega)) Z) Z ?_
 obtain⟨x3,hx4,h⟩:=wX h
 refine uP Z .u (.fn Tryz.call72 Z) (vc (fun w=>fD ((a0.drop a1.toNat).take (((a1+a2).toNat) - a1.toNat)) _ hx4 w)) (fun _ _=>uE _ _) Z (TL.run an [7] Z Z ?_)
 obtain rfl:=xa h
 exact TL.nil (X.seq (T.ret (uC [0] Tryz.results41 (uD Z) ⟨Z,Z,Z⟩ (by rfl) (.inl Z))))
def cV (a0:List UInt8):Option (List Int×Int):=if (a0.length:Int)<61 then some ([],1) else ((cn a0 17 4).bind fun x2=>(if x2<0 then (if -9223372036854775808≤(x2+4294967296)∧(x2+4294967296)≤9223372036854775807 then some (x2+4294967296) else none) else some x2).bind fun y6=>(cn a0 0 8).bind fun x10=>(cn a0 8 4).bind fun x12=>(cn a0 12 4).bind fun x14=>(cn a0 21 2).bind fun x16=>(cn a0 23 4).bind fun x18=>(cn a0 27 8).bind fun x20=>(cn a0 35 8).bind fun x22=>(cn a0 43 8).bind fun x24=>(cn a0 51 2).bind fun x26=>(cn a0 53 4).bind fun x28=>(cn a0 57 4).bind fun x30=>(cn a0 16 1).bind fun x33=>if x33=2 then (([x10,x12,x14,y6,x16,x18,x20,x22,x24,x26,x28,x30][1]?).bind fun x36=>if x36<49 then some ([],4) else (([x10,x12,x14,y6,x16,x18,x20,x22,x24,x26,x28,x30][11]?).bind fun x40=>if x40<0 then some ([],10) else some ([x10,x12,x14,y6,x16,x18,x20,x22,x24,x26,x28,x30],0))) else some ([],6))
theorem f7 (a0:List UInt8) (r:List Int×Int) (h:cV a0=some r):au Tryz.prog 17 #[jS a0] .triv (aw) (fun v A' N=> ∃ (A44:Option Addr) (c45:Nat),v= .tuple #[.slice A44 r.1.length c45,jI r.2]∧A'=aw∧N = [RdR (aq 1 ck) [.slice A44 r.1.length c45] r.1]):=by
 refine aF Tryz.func17 Z Tryz.ntmps17 Z ?_
 intro F w hX
 unfold cV at h
 refine T.seq (T.region Z (TL.run an [0,1] Z Z (TL.nil (X.seq (T.seq (T.seq (T.region Z (TL.run an [0] Z Z (TL.q Z .u (vk Z xj) Z (TL.run an [2] Z Z ?_))))))))))
 rcases jF h with⟨c1,h⟩ | ⟨c1,h⟩
 ·refine TL.nil (X.seq (uF Z (wY c1) (T.seq (T.region Z (TL.run an [0,1] Z Z ?_)))))
  obtain rfl:=xa h
  exact TL.nil (X.seq (T.ret (uH (vd 1 ck (uX [1,0] yX (uD Z) (uD Z) ⟨_,_,Z,Z,Z⟩ (by rfl) (.inl Z))))))
 ·refine TL.nil (X.seq (uK Z (wZ c1) (T.skip (X.seq (T.seq (T.region Z ?_))))))
  obtain⟨x2,hx3,h⟩:=wX h
  refine TL.run an [0] Z Z (uP Z .u (.fn Tryz.call41 Z) (ba a0 17 4 _ hx3) (fun _ hs=>(uE _ _)) Z (TL.run an [2] Z Z (TL.nil (X.seq (T.seq (T.seq (T.region Z (TL.run an [0,1] Z Z (TL.nil (X.seq ?_))))))))))
  obtain⟨y6,h,hk7⟩:=wX h
  refine vF (fun e Rs=>e = [(0,jS a0),(2,.slice none 0 0),(3,jI 0),(4,jI y6)]∧Rs = [aw]) ?_ ?_
  ·clear hk7
   rcases jF h with⟨c8,h⟩ | ⟨c8,h⟩
   ·refine uF Z (wY c8) (T.region Z ?_)
    replace h:=ak h
    obtain⟨c9,h⟩:=h
    refine TL.run an [0] Z Z (TL.q Z .u (Ex.add Z Z c9) Z (TL.run an [2] Z Z ?_))
    cases h
    exact TL.nil (u4 [0] ⟨Z,Z⟩ (by rfl) (by rfl))
   ·refine uK Z (wZ c8) ?_
    cases h
    exact T.skip (u4 [0] ⟨Z,Z⟩ (by rfl) (by rfl))
  ·rintro _ _ ⟨rfl,rfl⟩
   clear h
   have h:=hk7
   clear hk7
   try dsimp only at h
   refine X.seq (T.seq (T.region Z ?_))
   obtain⟨x10,hx11,h⟩:=wX h
   refine TL.run an [0] Z Z (uP Z .u (.fn Tryz.call41 Z) (ba a0 0 8 _ hx11) (fun _ hs=>(uE _ _)) Z ?_)
   obtain⟨x12,hx13,h⟩:=wX h
   refine TL.run an [2] Z Z (uP Z .u (.fn Tryz.call41 Z) (ba a0 8 4 _ hx13) (fun _ hs=>(uE _ _)) Z ?_)
   obtain⟨x14,hx15,h⟩:=wX h
   refine TL.run an [4] Z Z (uP Z .u (.fn Tryz.call41 Z) (ba a0 12 4 _ hx15) (fun _ hs=>(uE _ _)) Z ?_)
   obtain⟨x16,hx17,h⟩:=wX h
   refine TL.run an [6,7] Z Z (uP Z .u (.fn Tryz.call41 Z) (ba a0 21 2 _ hx17) (fun _ hs=>(uE _ _)) Z ?_)
   obtain⟨x18,hx19,h⟩:=wX h
   refine TL.run an [9] Z Z (uP Z .u (.fn Tryz.call41 Z) (ba a0 23 4 _ hx19) (fun _ hs=>(uE _ _)) Z ?_)
   obtain⟨x20,hx21,h⟩:=wX h
   refine TL.run an [11] Z Z (uP Z .u (.fn Tryz.call41 Z) (ba a0 27 8 _ hx21) (fun _ hs=>(uE _ _)) Z ?_)
   obtain⟨x22,hx23,h⟩:=wX h
   refine TL.run an [13] Z Z (uP Z .u (.fn Tryz.call41 Z) (ba a0 35 8 _ hx23) (fun _ hs=>(uE _ _)) Z ?_)
   obtain⟨x24,hx25,h⟩:=wX h
   refine TL.run an [15] Z Z (uP Z .u (.fn Tryz.call41 Z) (ba a0 43 8 _ hx25) (fun _ hs=>(uE _ _)) Z ?_)
   obtain⟨x26,hx27,h⟩:=wX h
   refine TL.run an [17] Z Z (uP Z .u (.fn Tryz.call41 Z) (ba a0 51 2 _ hx27) (fun _ hs=>(uE _ _)) Z ?_)
   obtain⟨x28,hx29,h⟩:=wX h
   refine TL.run an [19] Z Z (uP Z .u (.fn Tryz.call41 Z) (ba a0 53 4 _ hx29) (fun _ hs=>(uE _ _)) Z ?_)
   obtain⟨x30,hx31,h⟩:=wX h
   refine TL.run an [21] Z Z (uP Z .u (.fn Tryz.call41 Z) (ba a0 57 4 _ hx31) (fun _ hs=>(uE _ _)) Z ?_)
   refine vD (cells:= #[jI x10,jI x12,jI x14,jI y6,jI x16,jI x18,jI x20,jI x22,jI x24,jI x26,jI x28,jI x30]) Z .u gC Z (by kernel_rfl) Z (fun b32=> ?_)
   refine wa (us := [jI x10,jI x12,jI x14,jI y6,jI x16,jI x18,jI x20,jI x22,jI x24,jI x26,jI x28,jI x30]) (xs := [x10,x12,x14,y6,x16,x18,x20,x22,x24,x26,x28,x30]) (E:=ck) (z:=1) Z (Nat.le_of_ble_eq_true Z) (fun _=>⟨Z,Z,⟨Z,Z,⟨Z,Z,⟨Z,Z,⟨Z,Z,⟨Z,Z,⟨Z,Z,⟨Z,Z,⟨Z,Z,⟨Z,Z,⟨Z,Z,⟨Z,Z,Z⟩⟩⟩⟩⟩⟩⟩⟩⟩⟩⟩⟩) (TL.run an [24] Z Z (TL.nil (X.seq (T.seq (T.seq (T.region Z ?_))))))
   obtain⟨x33,hx34,h⟩:=wX h
   refine TL.run an [0] Z Z (uP Z .u (.fn Tryz.call41 Z) (ba a0 16 1 _ hx34) (fun _ hs=>(uE _ _)) Z (TL.run an [2] Z Z ?_))
   rcases jF h with⟨c35,h⟩ | ⟨c35,h⟩
   ·refine TL.nil (X.seq (uK Z (av (wY c35)) (T.skip (X.seq (T.seq (T.seq (T.region Z ?_)))))))
    obtain⟨x36,hx37,h⟩:=wX h
    refine TL.run an [0] Z Z (vM (E:=ck) (k:=1) 0 Z (fun w G h=>aN (by decide) w G h) (by decide) hx37 ?_)
    rintro gg oo z38cs hA z38cl ⟨_,_,z38r⟩
    cases hA
    obtain rfl:z38cs = [jI x36]:=z38r
    clear z38cl
    refine uM [0,0] Z ?_
    refine TL.q Z .u (uV (k:=1) Z Z Z xt xg (xd hx37).1) Z ?_
    refine TL.q Z .u (vw (cs := [jI x36]) 0 0 Z xc Z (fun _ _ h=>h.2.2.1) Z) Z (TL.run an [3] Z Z ?_)
    rcases jF h with⟨c39,h⟩ | ⟨c39,h⟩
    ·refine TL.nil (X.seq (uF Z (wY c39) (T.seq (T.region Z (TL.run an [0,1] Z Z ?_)))))
     obtain rfl:=xa h
     exact TL.nil (X.seq (T.ret (uH (vd 1 ck (uX [2,0] yX (uD Z) (uD Z) ⟨_,_,Z,Z,Z⟩ (by rfl) (.inl Z))))))
    ·refine TL.nil (X.seq (uK Z (wZ c39) (T.skip (X.seq (T.seq (T.seq (T.region Z ?_)))))))
     obtain⟨x40,hx41,h⟩:=wX h
     refine TL.run an [0] Z Z (vM (E:=ck) (k:=11) 0 Z (fun w G h=>aN (by decide) w G h.1) (by decide) hx41 ?_)
     rintro gg oo z42cs hA z42cl ⟨_,_,z42r⟩
     cases hA
     obtain rfl:z42cs = [jI x40]:=z42r
     clear z42cl
     refine uM [0,0] Z ?_
     refine TL.q Z .u (uV (k:=11) Z Z Z xt xg (xd hx41).1) Z ?_
     refine TL.q Z .u (vw (cs := [jI x40]) 0 0 Z xc Z (fun _ _ h=>h.2.2.1) Z) Z (TL.run an [3] Z Z ?_)
     rcases jF h with⟨c43,h⟩ | ⟨c43,h⟩
     ·refine TL.nil (X.seq (uF Z (wY c43) (T.seq (T.region Z (TL.run an [0,1] Z Z ?_)))))
      obtain rfl:=xa h
      exact TL.nil (X.seq (T.ret (uH (vd 1 ck (uX [2,0] yX (uD Z) (uD Z) ⟨_,_,Z,Z,Z⟩ (by rfl) (.inl Z))))))
     ·refine TL.nil (X.seq (uK Z (wZ c43) (T.skip (X.seq (T.seq (T.region Z (TL.run an [0,1,2] Z Z ?_)))))))
      obtain rfl:=xa h
      exact TL.nil (X.seq (T.ret (X.unf 0 Z (uW [0,0] Z (X.unf 0 Z (uW [0,0] Z (vt (by decide) 0 Z (uW [0,0] Z (uX [1,0] yX (uD Z) (uD Z) ⟨_,_,Z,Z,Z⟩ (by rfl) (.inl Z))))))))))
   ·refine TL.nil (X.seq (uF Z (aA (wZ c35)) (T.seq (T.region Z (TL.run an [0,1] Z Z ?_)))))
    obtain rfl:=xa h
    exact TL.nil (X.seq (T.ret (uH (vd 1 ck (uX [2,0] yX (uD Z) (uD Z) ⟨_,_,Z,Z,Z⟩ (by rfl) (.inl Z))))))
end Go.Proofs.YtahjmpipllajcaaGreat.Sl
