/- scanFeeds_holds: part 6. -/
import Derived.Test.YtahjmpipllajcaaGreatK5
set_option maxRecDepth 100000
set_option maxHeartbeats 4000000
set_option linter.defProp false
namespace Go.Proofs.YtahjmpipllajcaaGreat.Sl
open Go.RowKit
set_option linter.unusedVariables false
set_option linter.unusedSimpArgs false
def xQ := @Prod.mk.inj
theorem mc (l:List UInt8) (p:Nat) (h:2≤l.length):eP ⟨l,p,0⟩ 2=(bK (l.take 2),⟨l.drop 2,p+2,0⟩):=nC l p 2 (by decide) (by decide) h
theorem sL (l:List UInt8) (p:Nat) (h:4≤l.length):eP ⟨l,p,0⟩ 4=(bK (l.take 4),⟨l.drop 4,p+4,0⟩):=nC l p 4 (by decide) (by decide) h
theorem iz (l:List UInt8) (p:Nat) (h:l.length<2):eP ⟨l,p,0⟩ 2=(0,⟨l,p,1⟩):=jf l p 2 (by decide) (by decide) (by omega)
theorem pa (l:List UInt8) (p:Nat) (h:l.length<4):eP ⟨l,p,0⟩ 4=(0,⟨l,p,1⟩):=jf l p 4 (by decide) (by decide) (by omega)
theorem nR (l:List UInt8) (p:Nat) (e n:Int) (h:e≠0):eP ⟨l,p,e⟩ n=(0,⟨l,p,e⟩):=oN (st:=⟨l,p,e⟩) h n
theorem dC (l:List UInt8) (p:Nat) (e:Int) (h:e≠0):dm ⟨l,p,e⟩=⟨l,p,e⟩:=lQ (st:=⟨l,p,e⟩) h
theorem qR (l:List UInt8) (p:Nat) (e f:Int) (h:e≠0):cx ⟨l,p,e⟩ f=⟨l,p,e⟩:=kb (st:=⟨l,p,e⟩) h f
theorem lz (l:List UInt8) (p:Nat) (f:Int):cx ⟨l,p,0⟩ f=⟨l,p,f⟩:=by simp[cx]
theorem pb (l:List UInt8) (p:Nat):dm ⟨l,p,0⟩=⟨l,p,if l = [] then 0 else 2⟩:=by unfold dm; split <;> simp_all [cx]
theorem jV {l:List UInt8} {n:Nat} (h:n≤l.length):l.drop n = [] ↔ ¬ (l.length:Int)>n:=by rw[List.drop_eq_nil_iff]; omega
theorem sM (l:List UInt8) (hl:l.length≤9223372036854775807):bN l=d8 l:=by
 unfold bN d8 bn
 simp only[fZ l (by omega),f6,eQ,dS,xb]
 by_cases h2:l.length<2
 ·have h2i:(l.length:Int)<2:=by omega
  simp[iz l 0 h2,nR,dC,qR,h2i]
 have h2i: ¬ (l.length:Int)<2:=by omega
 have h2j:2≤(l.length:Int):=by omega
 rw[mc l 0 (by omega),if_neg h2i,if_pos (show 2≤l.length by omega),ie _ (by simp; omega)]
 simp only[xb]
 by_cases h0:bK (l.take 2)=0
 ·rw[if_pos h0,if_pos h0]
  simp only[xb]
  by_cases h4:l.length<4
  ·have h4i:(l.length:Int)<4:=by omega
   simp[iz (l.drop 2) (0+2) (by simp; omega),dC,h4i]
  have h4i: ¬ (l.length:Int)<4:=by omega
  rw[mc _ _ (by simp; omega),if_neg h4i,if_pos (show 4≤l.length by omega),ie _ (by simp; omega)]
  simp only[xb,xM,pb,lz]
  have hd:=jV (l:=l) (n:=4) (by omega)
  generalize bK ((l.drop 2).take 2)=k
  by_cases h5:(l.length:Int)>4
  ·have hd2: ¬ l.drop (2+2) = []:=fun h=>(hd.1 h) h5
   by_cases k0:k=0
   ·simp[hd2,h5,dC,k0]
   ·by_cases k1:k=1 <;> simp[hd2,h5,dC,k0,k1]
  ·have hd2:l.drop (2+2) = []:=hd.2 h5
   by_cases k0:k=0
   ·simp[hd2,h5,dC,k0]
   ·by_cases k1:k=1 <;> simp[hd2,h5,dC,k0,k1]
 ·rw[if_neg h0,if_neg h0]
  simp[lz,nR,dC]
theorem qj (l:List UInt8) (hl:l.length≤9223372036854775807):bl l=dB l:=by
 unfold bl dB bn
 simp only[fZ l (by omega),f6,eQ,dS,xb]
 by_cases h2:l.length<2
 ·have h2i:(l.length:Int)<2:=by omega
  simp[iz l 0 h2,nR,dC,qR,h2i]
 have h2i: ¬ (l.length:Int)<2:=by omega
 have h2j:2≤(l.length:Int):=by omega
 rw[mc l 0 (by omega),if_neg h2i,if_pos (show 2≤l.length by omega),ie _ (by simp; omega)]
 simp only[xb]
 by_cases h0:bK (l.take 2)=0
 ·rw[if_pos h0,if_pos h0]
  simp only[xb]
  by_cases h4:l.length<6
  ·have h4i:(l.length:Int)<6:=by omega
   simp[pa (l.drop 2) (0+2) (by simp; omega),dC,h4i]
  have h4i: ¬ (l.length:Int)<6:=by omega
  rw[sL _ _ (by simp; omega),if_neg h4i,if_pos (show 6≤l.length by omega),ie _ (by simp; omega)]
  simp only[xb,xM,pb,lz]
  have hd:=jV (l:=l) (n:=6) (by omega)
  generalize bK ((l.drop 2).take 4)=k
  by_cases h5:(l.length:Int)>6
  ·have hd2: ¬ l.drop (2+4) = []:=fun h=>(hd.1 h) h5
   by_cases k0:k<0 <;> simp[hd2,h5,dC,k0]
  ·have hd2:l.drop (2+4) = []:=hd.2 h5
   by_cases k0:k<0 <;> simp[hd2,h5,dC,k0]
 ·rw[if_neg h0,if_neg h0]
  simp[lz,nR,dC]
theorem nS (r:Rec) (h1:r.wC.data.length≤9223372036854775807) (h2:r.wt.data.length≤9223372036854775807):bw r=dO r:=by
 unfold bw dO
 rw[sM _ h1,qj _ h2]
def dF:List Rec→Int
 | []=>0
 | r::l=>if fK r=0 then dF l else fK r
theorem m5 (y:Int): ∀ l:List Rec,(∀ r,r∈l→wI r.wD)→bZ l y=some (if dF l=0 then .go y else .ret (dF l))
 | [],h=>rfl
 | r::l,h=>by
  rw[bZ,jN _ (h r (.head _)),xb,m5 y l (fun x hx=>h x (.tail _ hx)),dF]
  by_cases hr:fK r=0
  ·rw[if_pos hr,if_pos hr]
  ·rw[if_neg hr,if_neg hr,if_neg hr]
theorem m6 (y:Int): ∀ l:List Rec,(∀ r,r∈l→wI r.wD)→cc l y=some (if dF l=0 then .go y else .ret (dF l))
 | [],h=>rfl
 | r::l,h=>by
  rw[cc,jN _ (h r (.head _)),xb,m6 y l (fun x hx=>h x (.tail _ hx)),dF]
  by_cases hr:fK r=0
  ·rw[if_pos hr,if_pos hr]
  ·rw[if_neg hr,if_neg hr,if_neg hr]
theorem na (a:Bat) (hb:a.ws.length≤1000000) (hh: ∀ r,r∈a.ws→r.wy.length≤1000000) (y:Int): ∀ (l:List Rec) (k fuel:Nat),a.ws.drop k=l→l.length<fuel→ ∃ z,bx a fuel y k=some (if dF l=0 then .go (y,z) else .ret (dF l))
 | [],k,fuel+1,h,hf=>by
  have:=en h
  exact⟨k,by rw[bx,if_neg (by omega)]; rfl⟩
 | r::l,k,fuel+1,h,hf=>by
  obtain⟨h1,h2,h3⟩:=dE h
  rw[xw] at hf
  obtain⟨z,hz⟩:=na a hb hh y l (k+1) fuel h2 (by omega)
  rw[bx,if_pos (by omega),h1,xb,rR _ (hh r (List.mem_of_getElem? h1)),xb,dF]
  by_cases hr:fK r=0
  ·rw[if_pos hr,if_pos hr,if_pos (by omega)]
   exact⟨z,hz⟩
  ·rw[if_neg hr,if_neg hr]
   exact⟨0,by rw[if_neg hr]⟩
theorem nb (a:Bat): ∀ (fuel:Nat) (y:Int) (k:Nat),cH a fuel y k=bx a fuel y k
 | 0,y,k=>rfl
 | fuel+1,y,k=>by
  rw[cH,bx]
  simp only[nb a fuel]
def ju (F t:Int):Prop:=t>9223372036854775807 - F∨t < -F
instance (F t:Int):Decidable (ju F t):=by unfold ju; infer_instance
def nT (F L:Int):Int→Int→List Rec→Except Int Int
 | p,m,[]=> .ok m
 | p,m,r::l=>if r.wD≤p∨r.wD>L then .error 13 else if ju F r.wK then .error 11 else nT F L r.wD (if m<F+r.wK then F+r.wK else m) l
theorem rX {F t:Int} (h0:0≤F) (h1:F≤9223372036854775807) (ht:wI t):(ju F t→(IntKind.i64.wrap (F+t)<0))∧(¬ ju F t→IntKind.i64.wrap (F+t)=F+t∧0≤F+t):=by
 obtain⟨t0,t1⟩:=ht
 unfold ju
 rw[IntKind.wrap_i64]
 constructor
 ·intro h
  omega
 ·intro h
  omega
theorem qS (a:Bat) (h0:0≤a.wx) (h1:a.wx≤9223372036854775807) (y:Int): ∀ (l:List Rec) (p m:Int),(∀ r,r∈l→wI r.wK)→(∃ e,nT a.wx a.wE p m l= .error e∧aM a l y p m=some (.ret e))∨(∃ p' m',nT a.wx a.wE p m l= .ok m'∧aM a l y p m=some (.go (y,p',m')))
 | [],p,m,h=> .inr ⟨p,m,rfl,rfl⟩
 | r::l,p,m,h=>by
  have ih:=fun p m=>qS a h0 h1 y l p m (fun x hx=>h x (.tail _ hx))
  obtain⟨w1,w2⟩:=rX h0 h1 (h r (.head _))
  rw[aM,nT]
  by_cases c1:r.wD≤p
  ·rw[if_pos c1,if_pos (.inl c1)]
   exact .inl ⟨_,rfl,rfl⟩
  rw[if_neg c1]
  by_cases c2:r.wD>a.wE
  ·rw[if_pos c2,if_pos (.inr c2)]
   exact .inl ⟨_,rfl,rfl⟩
  rw[if_neg c2,if_neg (by omega)]
  by_cases c3:ju a.wx r.wK
  ·rw[if_pos c3,if_pos (w1 c3)]
   exact .inl ⟨_,rfl,rfl⟩
  obtain⟨w3,w4⟩:=w2 c3
  rw[if_neg c3,w3,if_neg (show ¬ a.wx+r.wK<0 by omega),if_neg (show ¬ a.wx+r.wK<r.wK by omega),ite_self]
  by_cases c4:m<a.wx+r.wK
  ·rw[if_pos c4,if_pos c4]
   exact ih _ _
  ·rw[if_neg c4,if_neg c4]
   exact ih _ _
theorem nU (a:Bat) (h0:0≤a.wx) (h1:a.wx≤9223372036854775807) (hb:a.ws.length≤1000000) (y:Int): ∀ (l:List Rec) (p m:Int) (k fuel:Nat),a.ws.drop k=l→l.length<fuel→(k=0→p= -1)→(0<k→ ∃ r,a.ws[k - 1]? = some r∧r.wD=p∧0≤p) →
 (∃ e,nT a.wx a.wE p m l= .error e∧aU a fuel y k=some (.ret e))∨(∃ m' z,nT a.wx a.wE p m l= .ok m'∧aU a fuel y k=some (.go (y,z)))
 | [],p,m,k,fuel+1,h,hf,hk0,hk1=>by
  have:=en h
  exact .inr ⟨m,k,rfl,by rw[aU,if_neg (by omega)]⟩
 | r::l,p,m,k,fuel+1,h,hf,hk0,hk1=>by
  obtain⟨g1,g2,g3⟩:=dE h
  rw[xw] at hf
  rw[aU,if_pos (by omega),g1,xb,nT]
  have hp: -1≤p:=by
   rcases Nat.eq_zero_or_pos k with hk | hk
   ·have:=hk0 hk; omega
   ·obtain⟨_,_,_,h5⟩:=hk1 hk; omega
  have ih:=fun (hge:0≤r.wD) m=>nU a h0 h1 hb y l r.wD m (k+1) fuel g2 (by omega) (fun h=>absurd h (by omega)) (fun _=>⟨r,g1,rfl,hge⟩)
  have tail:0≤r.wD→((if -9223372036854775808≤(9223372036854775807 - a.wx)∧(9223372036854775807 - a.wx)≤9223372036854775807 then (if r.wK>(9223372036854775807 - a.wx) then some (Lp.ret (11:Int)) else (if -9223372036854775808≤(-a.wx)∧(-a.wx)≤9223372036854775807 then (if r.wK<(-a.wx) then some (Lp.ret 11) else (if -9223372036854775808≤((k:Int)+1)∧((k:Int)+1)≤9223372036854775807 then (aU a fuel y (k+1)) else none)) else none)) else none))=if ju a.wx r.wK then some (.ret 11) else aU a fuel y (k+1):=by
   intro hge
   rw[if_pos (by omega)]
   by_cases c1:r.wK>9223372036854775807 - a.wx
   ·rw[if_pos c1,if_pos (show ju a.wx r.wK from .inl c1)]
   rw[if_neg c1,if_pos (by omega)]
   by_cases c2:r.wK < -a.wx
   ·rw[if_pos c2,if_pos (show ju a.wx r.wK from .inr c2)]
   rw[if_neg c2,if_neg (show ¬ ju a.wx r.wK by unfold ju; omega),if_pos (by omega)]
  by_cases c2:r.wD>a.wE
  ·rw[if_pos c2,if_pos (.inr c2)]
   exact .inl ⟨_,rfl,rfl⟩
  rw[if_neg c2]
  rcases Nat.eq_zero_or_pos k with hk | hk
  ·have hp1:=hk0 hk
   rw[if_neg (show ¬ (k:Int)>0 by omega)]
   by_cases c3:r.wD<0
   ·rw[if_pos c3,if_pos (show r.wD≤p∨r.wD>a.wE by omega)]
    exact .inl ⟨_,rfl,rfl⟩
   rw[if_neg c3,if_neg (show ¬ (r.wD≤p∨r.wD>a.wE) by omega),tail (by omega)]
   by_cases c4:ju a.wx r.wK
   ·rw[if_pos c4,if_pos c4]
    exact .inl ⟨_,rfl,rfl⟩
   ·rw[if_neg c4,if_neg c4]
    exact ih (by omega) _
  ·obtain⟨q,q1,q2,q3⟩:=hk1 hk
   rw[if_pos (show (k:Int)>0 by omega),if_pos (show -9223372036854775808≤(k:Int) - 1∧(k:Int) - 1≤9223372036854775807 by omega),if_pos (show 0≤(k:Int) - 1 by omega),show ((k:Int) - 1).toNat=k - 1 by omega,q1,xb,q2]
   by_cases c1:r.wD≤p
   ·rw[if_pos c1,if_pos (.inl c1)]
    exact .inl ⟨_,rfl,rfl⟩
   rw[if_neg c1,if_neg (show ¬ r.wD<0 by omega),if_neg (show ¬ (r.wD≤p∨r.wD>a.wE) by omega),tail (by omega)]
   by_cases c4:ju a.wx r.wK
   ·rw[if_pos c4,if_pos c4]
    exact .inl ⟨_,rfl,rfl⟩
   ·rw[if_neg c4,if_neg c4]
    exact ih (by omega) _
theorem qT (a:Bat) (h0:0≤a.wx) (h1:a.wx≤9223372036854775807) (hb:a.ws.length≤1000000) (y:Int): ∀ (l:List Rec) (p m m':Int) (k fuel:Nat),a.ws.drop k=l→l.length<fuel→nT a.wx a.wE p m l= .ok m'→(∀ r,r∈l→wI r.wK)→ ∃ z,bO a fuel y m k=some (.go (y,m',z))
 | [],p,m,m',k,fuel+1,h,hf,ho,hw=>by
  have:=en h
  injection ho with ho
  subst ho
  exact⟨k,by rw[bO,if_neg (by omega)]⟩
 | r::l,p,m,m',k,fuel+1,h,hf,ho,hw=>by
  obtain⟨g1,g2,g3⟩:=dE h
  rw[xw] at hf
  rw[nT] at ho
  split at ho
  ·exact nomatch ho
  split at ho
  ·exact nomatch ho
  rename_i hb2
  have ht:=hw r (.head _)
  have ht0:=ht.1
  have ht1:=ht.2
  unfold ju at hb2
  rw[bO,if_pos (by omega),g1,xb,if_pos (by omega),if_neg (by omega),if_pos (by omega),if_neg (by omega),if_pos (by omega)]
  obtain⟨z,hz⟩:=qT a h0 h1 hb y l r.wD _ m' (k+1) fuel g2 (by omega) ho (fun x hx=>hw x (.tail _ hx))
  by_cases c:m<a.wx+r.wK
  ·rw[if_pos c] at hz
   rw[if_pos c,if_pos (by omega),if_pos (by omega)]
   exact⟨z,hz⟩
  ·rw[if_neg c] at hz
   rw[if_neg c,if_pos (by omega)]
   exact⟨z,hz⟩
theorem md (a:Bat) (h0:0≤a.wx) (h1:a.wx≤9223372036854775807) (hb:a.ws.length≤1000000) (hw: ∀ r,r∈a.ws→wI r.wK): ∃ e,bz a=some e∧cX a=some e:=by
 unfold bz cX f8
 rcases qS a h0 h1 0 a.ws (-1) a.wx hw with⟨e,g1,g2⟩ | ⟨p',m',g1,g2⟩
 ·rcases nU a h0 h1 hb 0 a.ws (-1) a.wx 0 (((a.ws.length:Int)).toNat+1) rfl (by omega) (fun _=>rfl) (fun h=>absurd h (by omega)) with⟨e2,k1,k2⟩ | ⟨m2,z,k1,k2⟩
  ·rw[g1] at k1
   injection k1 with k1
   subst k1
   exact⟨e,by rw[g2]; rfl,by rw[k2]; rfl⟩
  ·rw[g1] at k1
   exact nomatch k1
 ·rcases nU a h0 h1 hb 0 a.ws (-1) a.wx 0 (((a.ws.length:Int)).toNat+1) rfl (by omega) (fun _=>rfl) (fun h=>absurd h (by omega)) with⟨e2,k1,k2⟩ | ⟨m2,z,k1,k2⟩
  ·rw[g1] at k1
   exact nomatch k1
  ·obtain⟨z2,hz2⟩:=qT a h0 h1 hb 0 a.ws (-1) a.wx m' 0 (((a.ws.length:Int)).toNat+1) rfl (by omega) g1 hw
   rw[g2,k2,hz2]
   simp only[xb]
   by_cases ha:a.wH=true
   ·exact⟨0,by rw[if_pos ha],by rw[if_pos ha]⟩
   ·rw[if_neg ha]
    by_cases hm:m'=a.wJ
    ·exact⟨0,by rw[if_pos hm],by rw[if_pos hm]⟩
    ·exact⟨11,by rw[if_neg hm],by rw[if_neg hm]⟩
def fQ (a:Bat):Prop:=0≤a.wG∧(-1≤a.wz∧a.wz≤2147483647)∧(0≤a.wE∧a.wE≤2147483647)∧a.wG+a.wE≤9223372036854775807∧0≤a.wx∧0≤a.wJ
instance (a:Bat):Decidable (fQ a):=by unfold fQ; infer_instance
theorem qk (a:Bat) (h1:wI a.wG) (h2:wI a.wz) (h3:wI a.wE):dA a=some (decide (fQ a)):=by
 obtain⟨u1,u2⟩:=h1
 unfold dA
 rw[ic _ _ h2,ic _ _ h3,fA,fA,IntKind.wrap_i64]
 have no: ∀ {b:Bool},¬ fQ a→b=false→some b=some (decide (fQ a)):=fun h hb=>by rw[wZ h,hb]
 by_cases c1:a.wG≥0
 ·rw[if_pos c1]
  by_cases c2:a.wz≥ -1
  ·rw[if_pos c2,xb]
   by_cases c3: -2147483648≤a.wz∧a.wz≤2147483647
   ·rw[if_pos (wY c3)]
    by_cases c4:a.wE≥0
    ·rw[if_pos c4,xb]
     by_cases c5: -2147483648≤a.wE∧a.wE≤2147483647
     ·rw[if_pos (wY c5)]
      by_cases c6:a.wG+a.wE≤9223372036854775807
      ·rw[if_pos (by omega)]
       by_cases c7:a.wx≥0
       ·rw[if_pos c7]
        by_cases c8:a.wJ≥0
        ·rw[if_pos c8,wY (show fQ a from ⟨c1,⟨c2,by omega⟩,⟨c4,by omega⟩,c6,c7,c8⟩)]
        ·rw[if_neg c8]; exact no (fun h=>c8 h.2.2.2.2.2) rfl
       ·rw[if_neg c7]; exact no (fun h=>c7 h.2.2.2.2.1) rfl
      ·rw[if_neg (by omega)]; exact no (fun h=>c6 h.2.2.2.1) rfl
     ·rw[if_neg (by rw[decide_eq_true_eq]; exact c5)]; exact no (fun h=>by have:=h.2.2.1; omega) rfl
    ·rw[if_neg c4]; exact no (fun h=>c4 h.2.2.1.1) rfl
   ·rw[if_neg (by rw[decide_eq_true_eq]; exact c3)]; exact no (fun h=>by have:=h.2.1; omega) rfl
  ·rw[if_neg c2]; exact no (fun h=>c2 h.2.1.1) rfl
 ·rw[if_neg c1]; exact no (fun h=>c1 h.1) rfl
theorem kx (n k:Int):dv n k=some (decide (k≤n∧n≤2147483647)):=by
 unfold dv
 by_cases h1:n≥k
 ·rw[if_pos h1]
  by_cases h2:n≤2147483647
  ·rw[if_pos h2,wY ⟨h1,h2⟩]
  ·rw[if_neg h2,wZ (fun h=>h2 h.2)]
 ·rw[if_neg h1,wZ (fun h=>h1 h.1)]
def fR (a:Bat):Prop:=if a.ww= -1 then a.wA= -1∧a.wv= -1∧a.wN=false else 0≤a.ww∧(0≤a.wA∧a.wA≤32767)∧(if a.wF=true then a.wv= -1 else 0≤a.wv∧a.wv≤2147483647)
instance (a:Bat):Decidable (fR a):=by unfold fR; infer_instance
theorem pc (n:Int):de n 2=decide (-32768≤n∧n≤32767):=by
 rw[Bool.eq_iff_iff]
 unfold de
 simp only[Bool.and_eq_true,decide_eq_true_eq]
 have:(2:Int) ^ (8*(2:Int).toNat - 1)=32768:=by decide
 omega
theorem kU (a:Bat) (h1:wI a.wA) (h2:wI a.wv):cD a=some (decide (fR a))∧di a=some (decide (fR a)):=by
 unfold cD di
 rw[ic _ _ h1,ic _ _ h2,fA,pc,kx]
 unfold fR
 obtain⟨b0,b1,b2,tx,ct,b5,b6,b7,P,E,S,rs⟩:=a
 simp only
 clear h1 h2
 by_cases c1:P= -1
 ·simp only[if_pos c1]
  by_cases c2:E= -1
  ·simp only[if_pos c2]
   by_cases c3:S= -1
   ·simp only[if_pos c3]
    cases tx <;> simp[c2,c3]
   ·simp[c3]
  ·simp[c2]
 ·simp only[if_neg c1,xb]
  cases ct
  ·simp only[Bool.false_eq_true,if_false]
   constructor
   ·by_cases d1:P≥0
    ·by_cases d2:E≥0
     ·by_cases d3: -32768≤E∧E≤32767
      ·by_cases d4:S≥0
       ·by_cases d5: -2147483648≤S∧S≤2147483647
        ·rw[if_pos d1,if_pos d2,if_pos (wY d3),if_pos d4,if_pos (wY d5),wY (by omega)]
        ·rw[if_pos d1,if_pos d2,if_pos (wY d3),if_pos d4,if_neg (by rw[decide_eq_true_eq]; exact d5),wZ (by omega)]
       ·rw[if_pos d1,if_pos d2,if_pos (wY d3),if_neg d4,wZ (by omega)]
      ·rw[if_pos d1,if_pos d2,if_neg (by rw[decide_eq_true_eq]; exact d3),wZ (by omega)]
     ·rw[if_pos d1,if_neg d2,wZ (by omega)]
    ·rw[if_neg d1,wZ (by omega)]
   ·by_cases d1:P<0
    ·rw[if_pos d1,wZ (by omega)]
    rw[if_neg d1]
    by_cases d2:E<0
    ·rw[if_pos d2,wZ (by omega)]
    rw[if_neg d2]
    by_cases d3:E>32767
    ·rw[if_pos d3,wZ (by omega)]
    rw[if_neg d3]
    by_cases d4:0≤S∧S≤2147483647
    ·rw[wY d4,wY (by omega)]
    ·rw[wZ d4,wZ (by omega)]
  ·simp only[if_true]
   constructor
   ·by_cases d1:P≥0
    ·by_cases d2:E≥0
     ·by_cases d3: -32768≤E∧E≤32767
      ·by_cases d4:S≥ -1
       ·by_cases d5: -2147483648≤S∧S≤2147483647
        ·by_cases d6:S= -1
         ·rw[if_pos d1,if_pos d2,if_pos (wY d3),if_pos d4,if_pos (wY d5),if_pos d6,wY (by omega)]
         ·rw[if_pos d1,if_pos d2,if_pos (wY d3),if_pos d4,if_pos (wY d5),if_neg d6,wZ (by omega)]
        ·rw[if_pos d1,if_pos d2,if_pos (wY d3),if_pos d4,if_neg (by rw[decide_eq_true_eq]; exact d5),wZ (by omega)]
       ·rw[if_pos d1,if_pos d2,if_pos (wY d3),if_neg d4,wZ (by omega)]
      ·rw[if_pos d1,if_pos d2,if_neg (by rw[decide_eq_true_eq]; exact d3),wZ (by omega)]
     ·rw[if_pos d1,if_neg d2,wZ (by omega)]
    ·rw[if_neg d1,wZ (by omega)]
   ·by_cases d1:P<0
    ·rw[if_pos d1,wZ (by omega)]
    rw[if_neg d1]
    by_cases d2:E<0
    ·rw[if_pos d2,wZ (by omega)]
    rw[if_neg d2]
    by_cases d3:E>32767
    ·rw[if_pos d3,wZ (by omega)]
    rw[if_neg d3]
    by_cases d4:S= -1
    ·rw[if_pos d4,wY (by omega)]
    ·rw[if_neg d4,wZ (by omega)]
theorem sN (l:List UInt8) (hl:l.length≤1000000): ∃ x,bN l=some x:=by
 unfold bN bn
 simp only[fZ l (by omega),f6,eQ,dS,xb]
 generalize eP ⟨l,0,0⟩ 2=x
 by_cases h:x.1=0
 ·simp only[if_pos h,xb]
  generalize eP x.2 2=y
  split
  ·split <;> exact⟨_,rfl⟩
  ·split
   ·split <;> exact⟨_,rfl⟩
   ·split <;> exact⟨_,rfl⟩
 ·simp only[if_neg h,xb]
  generalize eP (cx x.2 7) 2=y
  split
  ·split <;> exact⟨_,rfl⟩
  ·split
   ·split <;> exact⟨_,rfl⟩
   ·split <;> exact⟨_,rfl⟩
theorem ql (l:List UInt8) (hl:l.length≤1000000): ∃ x,bl l=some x:=by
 unfold bl bn
 simp only[fZ l (by omega),f6,eQ,dS,xb]
 generalize eP ⟨l,0,0⟩ 2=x
 by_cases h:x.1=0
 ·simp only[if_pos h,xb]
  generalize eP x.2 4=y
  split
  ·split <;> exact⟨_,rfl⟩
  ·split <;> exact⟨_,rfl⟩
 ·simp only[if_neg h,xb]
  generalize eP (cx x.2 7) 4=y
  split
  ·split <;> exact⟨_,rfl⟩
  ·split <;> exact⟨_,rfl⟩
theorem nV (r:Rec) (h1:r.wC.data.length≤1000000) (h2:r.wt.data.length≤1000000): ∃ x1 x2 x3,bw r=some (x1,x2,x3):=by
 obtain⟨⟨k1,k2⟩,hk⟩:=sN _ h1
 obtain⟨⟨v1,v2⟩,hv⟩:=ql _ h2
 unfold bw
 rw[hk,hv]
 simp only[xb]
 split
 ·exact⟨_,_,_,rfl⟩
 split
 ·exact⟨_,_,_,rfl⟩
 split
 ·exact⟨_,_,_,rfl⟩
 split
 ·split
  ·split
   ·exact⟨_,_,_,rfl⟩
   ·exact⟨_,_,_,rfl⟩
  ·exact⟨_,_,_,rfl⟩
 ·exact⟨_,_,_,rfl⟩
def qm (a:Bat) (cr e0:Int):Int:=if fQ a then (if a.wF=true then (if a.wN=true then (if fR a then (if (a.ws.length:Int)=1 then (if dF a.ws=0 then (if cr=0 then e0 else cr) else dF a.ws) else 10) else 11) else 8) else (if fR a then (if dF a.ws=0 then e0 else dF a.ws) else 11)) else 11
theorem bchk (a:Bat) (hw:nA a) (cr e0:Int) (hc:fQ a→bz a=some e0) (hr:(a.ws.length:Int)=1→ ∃ r x1 x2,a.ws[0]? = some r∧bw r=some (x1,x2,cr)):bJ a=some (qm a cr e0):=by
 obtain⟨w1,w2,w3,w4,w5,w6,w7,w8,w9,w10,w11,w12⟩:=hw
 have hoff: ∀ r,r∈a.ws→wI r.wD:=fun r h=>(w12.2 r h).2.1
 unfold bJ qm
 rw[qk a w1 w2 w6,(kU a w10 w11).1,m5 _ _ hoff,m6 _ _ hoff]
 by_cases hn:fQ a
 ·rw[wY hn,xb,if_pos rfl,if_pos hn,hc hn]
  by_cases hct:a.wF=true
  ·rw[if_pos hct,if_pos hct]
   by_cases ht:a.wN=true
   ·rw[if_pos ht,if_pos ht,xb]
    by_cases hp:fR a
    ·rw[wY hp,if_pos rfl,if_pos hp]
     by_cases hl:(a.ws.length:Int)=1
     ·obtain⟨r,x1,x2,r1,r2⟩:=hr hl
      rw[if_pos hl,if_pos hl,r1]
      by_cases hf:dF a.ws=0
      ·simp only[if_pos hf,xb,r2]
       split <;> rfl
      ·simp only[if_neg hf,xb]
     ·rw[if_neg hl,if_neg hl]
    ·rw[wZ hp,if_neg (by decide),if_neg hp]
   ·rw[if_neg ht,if_neg ht]
  ·rw[if_neg hct,if_neg hct,xb]
   by_cases hp:fR a
   ·rw[wY hp,if_pos rfl,if_pos hp]
    by_cases hf:dF a.ws=0
    ·simp only[if_pos hf,xb]
    ·simp only[if_neg hf,xb]
   ·rw[wZ hp,if_neg (by decide),if_neg hp]
 ·rw[wZ hn,xb,if_neg (by decide),if_neg hn]
theorem rchk (a:Bat) (hw:nA a) (hb:a.ws.length≤1000000) (hh: ∀ r,r∈a.ws→r.wy.length≤1000000) (cr e0:Int) (hc:fQ a→cX a=some e0) (hr:(a.ws.length:Int)=1→ ∃ r x1 x2,a.ws[0]? = some r∧dO r=some (x1,x2,cr)):bq a=some (qm a cr e0):=by
 obtain⟨w1,w2,w3,w4,w5,w6,w7,w8,w9,w10,w11,w12⟩:=hw
 obtain⟨z,hz⟩:=na a hb hh 0 a.ws 0 (((a.ws.length:Int)).toNat+1) rfl (by omega)
 have b1:=w1.1
 have b2:=w1.2
 unfold bq qm
 rw[kx,kx,(kU a w10 w11).2]
 simp only[nb]
 rw[hz]
 by_cases hn:fQ a
 ·obtain⟨n1,n2,n3,n4,n5,n6⟩:=id hn
  rw[if_neg (show ¬ a.wG<0 by omega),wY n2,xb,if_pos rfl,wY n3,xb,if_pos rfl,if_pos (show -9223372036854775808≤9223372036854775807 - a.wG∧9223372036854775807 - a.wG≤9223372036854775807 by omega),if_neg (show ¬ a.wE>9223372036854775807 - a.wG by omega),if_neg (show ¬ a.wx<0 by omega),if_neg (show ¬ a.wJ<0 by omega),if_pos hn,hc hn]
  by_cases hct:a.wF=true
  ·rw[if_pos hct,if_pos hct]
   by_cases ht:a.wN=true
   ·rw[if_pos ht,if_pos ht,xb]
    by_cases hp:fR a
    ·rw[wY hp,if_pos rfl,if_pos hp]
     by_cases hl:(a.ws.length:Int)=1
     ·obtain⟨r,x1,x2,r1,r2⟩:=hr hl
      rw[if_pos hl,if_pos hl,r1]
      by_cases hf:dF a.ws=0
      ·simp only[if_pos hf,xb,r2]
       split <;> rfl
      ·simp only[if_neg hf,xb]
     ·rw[if_neg hl,if_neg hl]
    ·rw[wZ hp,if_neg (by decide),if_neg hp]
   ·rw[if_neg ht,if_neg ht]
  ·rw[if_neg hct,if_neg hct,xb]
   by_cases hp:fR a
   ·rw[wY hp,if_pos rfl,if_pos hp]
    by_cases hf:dF a.ws=0
    ·simp only[if_pos hf,xb]
    ·simp only[if_neg hf,xb]
   ·rw[wZ hp,if_neg (by decide),if_neg hp]
 ·rw[if_neg hn]
  unfold fQ at hn
  by_cases c1:a.wG<0
  ·rw[if_pos c1]
  rw[if_neg c1,xb]
  by_cases c2: -1≤a.wz∧a.wz≤2147483647
  ·rw[wY c2,if_pos rfl,xb]
   by_cases c3:0≤a.wE∧a.wE≤2147483647
   ·rw[wY c3,if_pos rfl,if_pos (show -9223372036854775808≤9223372036854775807 - a.wG∧9223372036854775807 - a.wG≤9223372036854775807 by omega)]
    by_cases c4:a.wE>9223372036854775807 - a.wG
    ·rw[if_pos c4]
    rw[if_neg c4]
    by_cases c5:a.wx<0
    ·rw[if_pos c5]
    rw[if_neg c5,if_pos (show a.wJ<0 by omega)]
   ·rw[wZ c3,if_neg (by decide)]
  ·rw[wZ c2,if_neg (by decide)]
theorem qn (a:Bat) (hw:nA a) (hb:a.ws.length≤1000000) (hr: ∀ r,r∈a.ws→r.wy.length≤1000000∧r.wC.data.length≤1000000∧r.wt.data.length≤1000000): ∃ cr e0,bJ a=some (qm a cr e0)∧bq a=some (qm a cr e0)∧(fQ a→bz a=some e0)∧((a.ws.length:Int)=1→ ∃ r x1 x2,a.ws[0]? = some r∧bw r=some (x1,x2,cr)∧dO r=some (x1,x2,cr)):=by
 have htim: ∀ r,r∈a.ws→wI r.wK:=fun r h=>(hw.2.2.2.2.2.2.2.2.2.2.2.2 r h).1
 have hF:=hw.2.2.2.2.2.2.1
 obtain⟨e0,he⟩: ∃ e0,fQ a→bz a=some e0∧cX a=some e0:=by
  by_cases hn:fQ a
  ·obtain⟨e0,h1,h2⟩:=md a hn.2.2.2.2.1 hF.2 hb htim
   exact⟨e0,fun _=>⟨h1,h2⟩⟩
  ·exact⟨0,fun h=>absurd h hn⟩
 obtain⟨cr,hcr⟩: ∃ cr,(a.ws.length:Int)=1→ ∃ r x1 x2,a.ws[0]? = some r∧bw r=some (x1,x2,cr)∧dO r=some (x1,x2,cr):=by
  by_cases hl:(a.ws.length:Int)=1
  ·obtain⟨r,hrec⟩: ∃ r,a.ws = [r]:=List.length_eq_one_iff.1 (by omega)
   have h3:=hr r (by rw[hrec]; exact .head _)
   obtain⟨x1,x2,x3,h4⟩:=nV r h3.2.1 h3.2.2
   have h5:=nS r (by omega) (by omega)
   exact⟨x3,fun _=>⟨r,x1,x2,by rw[hrec]; rfl,h4,by rw[← h5]; exact h4⟩⟩
  ·exact⟨0,fun h=>absurd h hl⟩
 refine⟨cr,e0,bchk a hw cr e0 (fun h=>(he h).1) (fun h=> ?_),rchk a hw hb (fun r h=>(hr r h).1) cr e0 (fun h=>(he h).2) (fun h=> ?_),fun h=>(he h).1,hcr⟩
 ·obtain⟨r,x1,x2,h1,h2,h3⟩:=hcr h
  exact⟨r,x1,x2,h1,h2⟩
 ·obtain⟨r,x1,x2,h1,h2,h3⟩:=hcr h
  exact⟨r,x1,x2,h1,h3⟩
abbrev Pr (α:Type):=List UInt8→Nat→Except Int (α×Nat)
namespace Pr
variable {α β:Type}
def ret (a:α):Pr α:=fun _ q=> .ok (a,q)
def err (e:Int):Pr α:=fun _ _=> .error e
def bind (p:Pr α) (f:α→Pr β):Pr β:=fun s q=>match p s q with | .error e=> .error e | .ok (a,r)=>f a s r
theorem bind_ok {p:Pr α} {f:α→Pr β} {s:List UInt8} {q:Nat} {x:β×Nat} (h:p.bind f s q= .ok x): ∃ a r,p s q= .ok (a,r)∧f a s r= .ok x:=by
 unfold bind at h
 cases hp:p s q with
 | error e=>rw[hp] at h; exact nomatch h
 | ok y=>rw[hp] at h; exact⟨_,_,rfl,h⟩
theorem bind_of {p:Pr α} {f:α→Pr β} {s:List UInt8} {q r:Nat} {a:α} (h:p s q= .ok (a,r)):p.bind f s q=f a s r:=by unfold bind; rw[h]
theorem bind_err {p:Pr α} {f:α→Pr β} {s:List UInt8} {q:Nat} {e:Int} (h:p s q= .error e):p.bind f s q= .error e:=by unfold bind; rw[h]
end Pr
structure CR {α:Type} (op:I→Option (α×I)) (p:Pr α) (z:α):Prop where
 dead: ∀ st:I,st.err≠0→op st=some (z,st)
 bad: ∀ (s:List UInt8) (q:Nat) (e:Int),q≤s.length→p s q= .error e→ ∃ st:I,op ⟨s.drop q,q,0⟩=some (z,st)∧st.err=e∧e≠0
 good: ∀ (s:List UInt8) (q:Nat) (a:α) (r:Nat),q≤s.length→p s q= .ok (a,r)→op ⟨s.drop q,q,0⟩=some (a,⟨s.drop r,r,0⟩)
structure Sp {α:Type} (p:Pr α) (enc:α→List UInt8) (ok:α→Prop):Prop where
 spell: ∀ (s:List UInt8) (q:Nat) (a:α) (r:Nat),q≤s.length→p s q= .ok (a,r)→q≤r∧r≤s.length∧r=q+(enc a).length∧s.take r=s.take q++enc a∧ok a
 back: ∀ (s t:List UInt8) (q:Nat) (a:α),q≤s.length→ok a→s.drop q=enc a++t→p s q= .ok (a,q+(enc a).length)
theorem cM {s x t:List UInt8} {q:Nat} (h:s.drop q=x++t):s.drop (q+x.length)=t:=by rw[← xM,h,List.drop_left]
theorem iL (s:List UInt8) (q k:Nat):s.take (q+k)=s.take q++(s.drop q).take k:=List.take_add
theorem rY (q:Int) (c:UInt8) (k:Nat):be (q*256+c.toNat) (k+1)=be q k ++ [c]:=by
 have hc:=c.toNat_lt
 unfold be
 rw[List.range_succ,List.map_append]
 congr 1
 ·apply List.map_congr_left
  intro i hi
  have hi:=List.mem_range.1 hi
  have e:k+1 - 1 - i=(k - 1 - i)+1:=by omega
  have e2:(q*256+(c.toNat:Int)) / 256=q:=by omega
  rw[e,show 8*(k - 1 - i+1)=8+8*(k - 1 - i) by omega,Int.pow_add,← Int.ediv_ediv_of_nonneg (by decide),show (2 ^ 8:Int)=256 from rfl,e2]
 ·simp only[List.map_cons,List.map_nil,Nat.add_sub_cancel,Nat.sub_self,Nat.mul_zero,Int.pow_zero,Int.ediv_one]
  congr 1
  apply UInt8.toNat_inj.1
  simp[UInt8.toNat_ofNat']
  omega
theorem rZ (cs:List UInt8): ∀ (q:Int) (k:Nat),be (cs.foldl (fun n d=>n*256+(d.toNat:Int)) q) (k+cs.length)=be q k++cs:=by
 induction cs with
 | nil=>intro q k; simp
 | cons c cs ih =>
  intro q k
  have h:=ih (q*256+c.toNat) (k+1)
  rw[rY] at h
  rw[List.foldl_cons,xw,show k+(cs.length+1)=k+1+cs.length by omega,h]
  simp
theorem sO (c:UInt8):be (sgn c) 1 = [c]:=by
 have hc:=c.toNat_lt
 unfold be
 simp only[List.range_one,List.map_cons,List.map_nil,Nat.sub_self,Nat.mul_zero,Int.pow_zero,Int.ediv_one]
 congr 1
 apply UInt8.toNat_inj.1
 unfold sgn
 simp[UInt8.toNat_ofNat']
 split <;> omega
theorem qo (l:List UInt8) (h:l ≠ []):be (bK l) l.length=l:=by
 cases l with
 | nil=>exact absurd rfl h
 | cons c cs =>
  have h:=rZ cs (sgn c) 1
  rw[sO] at h
  rw[xw,Nat.add_comm]
  exact h
def gl (k:Nat):Pr Int:=fun s q=>if s.length<q+k then .error 1 else .ok (bK ((s.drop q).take k),q+k)
theorem CR_int (k:Nat) (h1:1≤k) (h8:k≤8) (kk:Int) (hk:kk=(k:Int)):CR (fun st=>eJ st kk) (gl k) 0:=by
 subst hk
 refine⟨fun st h=> ?_,fun s q e hq h=> ?_,fun s q a r hq h=> ?_⟩
 ·rw[f6,oN h]
 ·unfold gl at h
  split at h
  ·rename_i hl
   injection h with h
   subst h
   refine⟨⟨s.drop q,q,1⟩,?_,rfl,by decide⟩
   simp only[f6]
   rw[jf _ _ _ (by omega) (by omega) (by rw[xe]; omega)]
  ·exact nomatch h
 ·unfold gl at h
  split at h
  ·exact nomatch h
  ·rename_i hl
   injection h with h
   obtain⟨rfl,rfl⟩:=xQ h
   simp only[f6]
   rw[nC _ _ _ h1 h8 (by rw[xe]; omega),xM]
theorem nW (k:Nat) (h1:1≤k) (h8:k≤8):Sp (gl k) (fun n=>be n k) (fun n=>de n k=true):=by
 refine⟨fun s q a r hq h=> ?_,fun s t q a hq ha h=> ?_⟩
 ·unfold gl at h
  split at h
  ·exact nomatch h
  ·rename_i hl
   injection h with h
   obtain⟨rfl,rfl⟩:=xQ h
   have hn:((s.drop q).take k).length=k:=by rw[xx,xe]; omega
   have hne:(s.drop q).take k ≠ []:=fun h0=>by rw[h0] at hn; simp at hn; omega
   have hb:be (bK ((s.drop q).take k)) k=(s.drop q).take k:=by
    have:=qo _ hne
    rwa [hn] at this
   refine⟨by omega,by omega,by rw[cC],by rw[hb,iL],?_⟩
   rw[← tS _ _ h1 h8,hb]
 ·have hl:=congrArg List.length h
  rw[xe,xf,cC] at hl
  unfold gl
  rw[if_neg (by omega),h,List.take_append_of_le_length (by rw[cC]; omega),List.take_of_length_le (by rw[cC]; omega),cC,oF _ _ h1 h8 ha]
def lu (n:Int):Pr Bl:=fun s q=>if n= -1 then .ok (⟨true,[]⟩,q) else if n<0 then .error 4 else if (s.length:Int)<q+n then .error 1 else .ok (⟨false,(s.drop q).take n.toNat⟩,q+n.toNat)
theorem jv (n:Int) (s:List UInt8) (q:Nat) (hq:q≤s.length) :
 (∃ e st,lu n s q= .error e∧fB ⟨s.drop q,q,0⟩ n=(⟨false,[]⟩,st)∧st.err=e∧e≠0)∨(∃ b r,lu n s q= .ok (b,r)∧fB ⟨s.drop q,q,0⟩ n=(b,⟨s.drop r,r,0⟩)∧q≤r∧r≤s.length∧blen b=n∧bb b=true∧s.take r=s.take q++b.data∧r=q+b.data.length):=by
 have hd:(s.drop q).length=s.length - q:=xe
 unfold lu fB
 rw[if_neg (show ¬ ((⟨s.drop q,q,0⟩:I).err≠0) by simp)]
 by_cases h1:n= -1
 ·rw[if_pos h1,if_pos h1]
  exact .inr ⟨_,_,rfl,rfl,xB _,hq,h1.symm,rfl,by simp,rfl⟩
 rw[if_neg h1,if_neg h1]
 by_cases h2:n<0
 ·rw[if_pos h2,rG _ _ _ h2]
  exact .inl ⟨_,_,rfl,rfl,rfl,by decide⟩
 rw[if_neg h2]
 by_cases h3:(s.length:Int)<q+n
 ·rw[if_pos h3,kM _ _ _ (by omega)]
  exact .inl ⟨_,_,rfl,rfl,rfl,by decide⟩
 rw[if_neg h3]
 obtain⟨m,rfl⟩: ∃ m:Nat,n=(m:Int):=⟨n.toNat,by omega⟩
 rw[xC,oO _ _ _ (by omega),xM]
 have hl:((s.drop q).take m).length=m:=by rw[xx]; omega
 exact .inr ⟨_,_,rfl,rfl,by omega,by omega,by unfold blen; simp only[Bool.false_eq_true,if_false]; rw[hl],rfl,iL s q m,by rw[hl]⟩
theorem CR_got {lenop:I→Int×I} {p:Pr Int} (hl:CR (fun st=>some (lenop st)) p 0) (hs: ∀ s q a r,q≤s.length→p s q= .ok (a,r)→r≤s.length):CR (fun st=>some (fB (lenop st).2 (lenop st).1)) (p.bind lu) (⟨false,[]⟩:Bl):=by
 refine⟨fun st h=> ?_,fun s q e hq h=> ?_,fun s q a r hq h=> ?_⟩
 ·have h0:=xa (hl.dead st h)
  rw[h0,mU h]
 ·cases hp:p s q with
  | error e' =>
   rw[Pr.bind_err hp] at h
   injection h with h
   subst h
   obtain⟨st,h1,h2,h3⟩:=hl.bad s q e' hq hp
   have h0:=xa h1
   rw[h0,mU (by simp only[h2]; exact h3)]
   exact⟨st,rfl,h2,h3⟩
  | ok x =>
   obtain⟨n,m⟩:=x
   rw[Pr.bind_of hp] at h
   have h0:=xa (hl.good s q n m hq hp)
   rw[h0]
   rcases jv n s m (hs _ _ _ _ hq hp) with⟨e',st,g1,g2,g3,g4⟩ | ⟨b,r,g1,g2,_⟩
   ·rw[g1] at h
    injection h with h
    subst h
    exact⟨st,by rw[g2],g3,g4⟩
   ·rw[g1] at h
    exact nomatch h
 ·obtain⟨n,m,hp,h⟩:=Pr.bind_ok h
  have h0:=xa (hl.good s q n m hq hp)
  rw[h0]
  rcases jv n s m (hs _ _ _ _ hq hp) with⟨e',st,g1,g2,g3,g4⟩ | ⟨b,r',g1,g2,_⟩
  ·rw[g1] at h
   exact nomatch h
  ·rw[g1] at h
   injection h with h
   obtain⟨rfl,rfl⟩:=xQ h
   rw[g2]
theorem Sp_got {p:Pr Int} {enc:Int→List UInt8} {ok:Int→Prop} (hp:Sp p enc ok):Sp (p.bind lu) (fun b=>enc (blen b)++b.data) (fun b=>ok (blen b)∧bb b=true):=by
 refine⟨fun s q a r hq h=> ?_,fun s t q a hq ha h=> ?_⟩
 ·obtain⟨n,m,h1,h⟩:=Pr.bind_ok h
  obtain⟨a1,a2,a3,a4,a5⟩:=hp.spell _ _ _ _ hq h1
  rcases jv n s m a2 with⟨e',st,g1,g2,g3,g4⟩ | ⟨b,r',g1,g2,b1,b2,b3,b4,b5,b6⟩
  ·rw[g1] at h
   exact nomatch h
  ·rw[g1] at h
   injection h with h
   obtain⟨rfl,rfl⟩:=xQ h
   refine⟨by omega,b2,by rw[xf,b3]; omega,by rw[b5,a4,b3,xq],by rw[b3]; exact a5,b4⟩
 ·rw[xq] at h
  have h1:=hp.back s _ q _ hq ha.1 h
  rw[Pr.bind_of h1,xf,← Nat.add_assoc]
  have h2:=cM h
  have hl:=congrArg List.length h
  rw[xe,xf,xf] at hl
  generalize (enc (blen a)).length=m at h2 hl ⊢
  obtain⟨nu,d⟩:=a
  unfold lu blen
  cases nu with
  | true =>
   have:d = []:=by have:=ha.2; unfold bb at this; simpa using this
   subst this
   rw[if_pos rfl,if_pos rfl]
   rfl
  | false =>
   simp only[Bool.false_eq_true,if_false]
   simp only at h2 hl
   rw[if_neg (by omega),if_neg (by omega),h2,if_neg (by omega),xC,List.take_left]
theorem ga (bs:Int) (a:Nat): ∀ (l:List UInt8) (b acc i:Nat),vgo bs l (a+b) acc i=((vgo bs l b acc i).1,⟨(vgo bs l b acc i).2.rest,a+(vgo bs l b acc i).2.pos,(vgo bs l b acc i).2.err⟩)
 | [],b,acc,i=>rfl
 | c::l,b,acc,i=>by
  have ih:=ga bs a l (b+1) (acc+c.toNat % 128*2 ^ (7*i)) (i+1)
  unfold vgo
  split
  ·rfl
  ·split
   ·rw[Nat.add_assoc,ih]
   ·split
    ·rfl
    ·rfl
theorem me (bs:Int): ∀ (l:List UInt8) (b acc i:Nat),(vgo bs l b acc i).2.err≠0→(vgo bs l b acc i).1=0
 | [],b,acc,i,h=>rfl
 | c::l,b,acc,i,h=>by
  have ih:=me bs l (b+1) (acc+c.toNat % 128*2 ^ (7*i)) (i+1)
  revert h
  unfold vgo
  split
  ·exact fun _=>rfl
  ·split
   ·exact ih
   ·split
    ·exact fun _=>rfl
    ·exact fun h=>absurd rfl h
def d9 (bs:Int):Pr Nat:=fun s q=>if (vgo bs (s.drop q) 0 0 0).2.err=0 then .ok ((vgo bs (s.drop q) 0 0 0).1,q+(vgo bs (s.drop q) 0 0 0).2.pos) else .error (vgo bs (s.drop q) 0 0 0).2.err
theorem ky {bs:Int} {s:List UInt8} {q n r:Nat} (hq:q≤s.length) (h:d9 bs s q= .ok (n,r)):co bs ⟨s.drop q,q,0⟩=(n,⟨s.drop r,r,0⟩)∧q≤r∧r≤s.length∧r=q+(ci n).length∧s.take r=s.take q++ci n:=by
 have hd:(s.drop q).length=s.length - q:=xe
 unfold d9 at h
 split at h
 ·rename_i he
  injection h with h
  obtain⟨h1,h2⟩:=xQ h
  obtain⟨k,v,g1,g2,g3,g4,_⟩:=vgo_ok bs (s.drop q) 0 0 0 _ _ (rfl: _=((vgo bs (s.drop q) 0 0 0).1,(vgo bs (s.drop q) 0 0 0).2)) he
  have g3':(vgo bs (s.drop q) 0 0 0).1=v:=by rw[g3]; simp
  rw[g3'] at h1
  subst h1
  rw[g1] at h2
  simp only[Nat.zero_add] at h2
  have hlk:(ci v).length=k:=by rw[g4,xx]; omega
  refine⟨?_,by omega,by omega,by omega,?_⟩
  ·unfold co
   rw[if_neg (by simp)]
   have:=ga bs q (s.drop q) 0 0 0
   rw[Nat.add_zero] at this
   simp only
   rw[this,g3',g1,← h2,xM]
   simp
  ·rw[← h2,iL,g4]
 ·exact nomatch h
theorem sP {bs:Int} {s:List UInt8} {q:Nat} {e:Int} (h:d9 bs s q= .error e): ∃ st,co bs ⟨s.drop q,q,0⟩=(0,st)∧st.err=e∧e≠0:=by
 unfold d9 at h
 split at h
 ·exact nomatch h
 ·rename_i he
  injection h with h
  subst h
  have h0:=me bs (s.drop q) 0 0 0 he
  refine⟨(co bs ⟨s.drop q,q,0⟩).2,?_,?_,he⟩
  ·unfold co
   rw[if_neg (by simp)]
   have:=ga bs q (s.drop q) 0 0 0
   rw[Nat.add_zero] at this
   simp only
   rw[this,h0]
  ·unfold co
   rw[if_neg (by simp)]
   have:=ga bs q (s.drop q) 0 0 0
   rw[Nat.add_zero] at this
   simp only
   rw[this]
theorem qp {bs:Int} {st:I} (h:st.err≠0):co bs st=(0,st):=if_pos h
theorem pd (bs:Int) (hb:bs=32∨bs=64): ∀ (l:List UInt8) (b acc i:Nat),acc<2 ^ (7*i)→(vgo bs l b acc i).2.err=0→(vgo bs l b acc i).1<2 ^ bs.toNat
 | [],b,acc,i,ha,h=>by simp[vgo] at h
 | c::l,b,acc,i,ha,h=>by
  have ih:=pd bs hb l (b+1) (acc+c.toNat % 128*2 ^ (7*i)) (i+1)
  revert h
  unfold vgo
  split
  ·exact fun h=>absurd h (by simp)
  ·rename_i hc
   obtain⟨h1,h2⟩:=fY bs hb acc (c.toNat % 128) i ha (by omega) (Nat.mod_lt _ (by decide)) (fun h=>hc (.inr h))
   split
   ·exact ih h1
   ·split
    ·exact fun h=>absurd h (by simp)
    ·exact fun _=>h2
theorem lA (bs:Int) (hb:bs=32∨bs=64):Sp (d9 bs) ci (fun n=>n<2 ^ bs.toNat):=by
 refine⟨fun s q a r hq h=> ?_,fun s t q a hq ha h=> ?_⟩
 ·obtain⟨h1,h2,h3,h4,h5⟩:=ky hq h
  refine⟨h2,h3,h4,h5,?_⟩
  unfold d9 at h
  split at h
  ·rename_i he
   injection h with h
   rw[← (xQ h).1]
   exact pd bs hb _ _ _ _ (by simp) he
  ·exact nomatch h
 ·unfold d9
  rw[h,tW bs (by omega) a 0 0 0 t (by simpa using ha) (by omega)]
  simp
def dP (bs:Int):Pr Int:=(d9 bs).bind fun n=> .ret (bW n)
theorem nX (bs:Int) (hb:bs=32∨bs=64):CR (fun st=>some (cZ (co bs st))) (dP bs) 0:=by
 refine⟨fun st h=> ?_,fun s q e hq h=> ?_,fun s q a r hq h=> ?_⟩
 ·rw[qp h]
  simp[cZ,bW]
 ·cases hp:d9 bs s q with
  | error e' =>
   rw[dP,Pr.bind_err hp] at h
   injection h with h
   subst h
   obtain⟨st,h1,h2,h3⟩:=sP hp
   exact⟨st,by rw[h1]; simp[cZ,bW],h2,h3⟩
  | ok x =>
   rw[dP,Pr.bind_of (a:=x.1) (r:=x.2) hp] at h
   exact nomatch h
 ·obtain⟨n,m,hp,h⟩:=Pr.bind_ok h
  injection h with h
  obtain⟨rfl,rfl⟩:=xQ h
  rw[(ky hq hp).1]
  rfl
theorem ec (bs:Int) (hb:bs=32∨bs=64):Sp (dP bs) (fun n=>ci (aK n)) (fun n=>aK n<2 ^ bs.toNat):=by
 refine⟨fun s q a r hq h=> ?_,fun s t q a hq ha h=> ?_⟩
 ·obtain⟨n,m,hp,h⟩:=Pr.bind_ok h
  injection h with h
  obtain⟨rfl,rfl⟩:=xQ h
  have:=(lA bs hb).spell _ _ _ _ hq hp
  rwa [pP]
 ·rw[dP,Pr.bind_of ((lA bs hb).back s t q _ hq ha h)]
  simp only[Pr.ret,pO]
def dw:Pr Bl:=(dP 32).bind lu
theorem nc:CR aY dw (⟨false,[]⟩:Bl) :=
 CR_got (lenop:=fun st=>cZ (co 32 st)) (nX 32 (.inl rfl)) (fun s q a r hq h=>((ec 32 (.inl rfl)).spell s q a r hq h).2.1)
theorem dj:Sp dw (fun b=>ci (aK (blen b))++b.data) (fun b=>aK (blen b)<2 ^ (32:Int).toNat∧bb b=true):=Sp_got (ec 32 (.inl rfl))
def gD (p:Pr Bl):Pr (List UInt8):=p.bind fun b=>if b.null then .err 4 else .ret b.data
theorem t9 {op:I→Bl×I} {p:Pr Bl} (h:CR (fun st=>some (op st)) p (⟨false,[]⟩:Bl)) (hb: ∀ s q a r,q≤s.length→p s q= .ok (a,r)→bb a=true):CR (fun st=>some (mS (op st))) (gD p) []:=by
 refine⟨fun st hs=> ?_,fun s q e hq he=> ?_,fun s q a r hq hg=> ?_⟩
 ·have h0:=xa (h.dead st hs)
  rw[h0]
  rfl
 ·cases hp:p s q with
  | error e' =>
   rw[gD,Pr.bind_err hp] at he
   injection he with he
   subst he
   obtain⟨st,h1,h2,h3⟩:=h.bad s q _ hq hp
   have h0:=xa h1
   rw[h0]
   exact⟨st,rfl,h2,h3⟩
  | ok x =>
   obtain⟨b,r⟩:=x
   rw[gD,Pr.bind_of hp] at he
   have h0:=xa (h.good s q b r hq hp)
   rw[h0]
   have hbr:=hb _ _ _ _ hq hp
   split at he
   ·rename_i hn
    injection he with he
    subst he
    have:b.data = []:=by unfold bb at hbr; rw[hn] at hbr; simpa using hbr
    refine⟨⟨s.drop r,r,4⟩,?_,rfl,by decide⟩
    unfold mS
    simp only[hn,if_true,this]
    rfl
   ·exact nomatch he
 ·obtain⟨b,m,hp,hg⟩:=Pr.bind_ok hg
  have h0:=xa (h.good s q b m hq hp)
  rw[h0]
  split at hg
  ·exact nomatch hg
  ·rename_i hn
   injection hg with hg
   obtain⟨rfl,rfl⟩:=xQ hg
   unfold mS
   simp only[hn,Bool.false_eq_true,if_false]
theorem ua {p:Pr Bl} {enc:Bl→List UInt8} {ok:Bl→Prop} (hp:Sp p enc ok):Sp (gD p) (fun d=>enc ⟨false,d⟩) (fun d=>ok ⟨false,d⟩):=by
 refine⟨fun s q a r hq h=> ?_,fun s t q a hq ha h=> ?_⟩
 ·obtain⟨b,m,h1,h⟩:=Pr.bind_ok h
  have h2:=hp.spell _ _ _ _ hq h1
  split at h
  ·exact nomatch h
  ·rename_i hn
   injection h with h
   obtain⟨rfl,rfl⟩:=xQ h
   obtain⟨nu,d⟩:=b
   simp only[Bool.not_eq_true] at hn
   subst hn
   exact h2
 ·rw[gD,Pr.bind_of (hp.back s t q _ hq ha h)]
  rfl
def fa:Pr (List UInt8):=gD dw
theorem ub:CR lU fa []:=t9 (op:=dH) nc (fun s q a r hq h=>(dj.spell s q a r hq h).2.2.2.2.2)
theorem gb:Sp fa (fun d=>ci (aK (d.length:Int))++d) (fun d=>aK (d.length:Int)<2 ^ (32:Int).toNat∧bb ⟨false,d⟩=true):=ua dj
theorem rgot_p (s:List UInt8) (q k m:Nat) (n:Int) (hk:k≤(s.drop q).length) (hm:m=q+k) (hq:q≤s.length) :
 (∃ e,lu n s m= .error e∧e≠0∧jg (s.drop q) k n=⟨⟨false,[]⟩,0,e⟩)∨(∃ b r,lu n s m= .ok (b,r)∧jg (s.drop q) k n=⟨b,((r - q:Nat):Int),0⟩):=by
 have hd:(s.drop q).length=s.length - q:=xe
 subst hm
 unfold lu jg
 by_cases h1:n= -1
 ·rw[if_pos h1,if_pos h1]
  exact .inr ⟨_,_,rfl,by congr 1; omega⟩
 rw[if_neg h1,if_neg h1]
 by_cases h2:n<0
 ·rw[if_pos h2,if_pos h2]
  exact .inl ⟨_,rfl,by decide,rfl⟩
 rw[if_neg h2,if_neg h2]
 by_cases h3:(s.length:Int)<((q+k:Nat):Int)+n
 ·rw[if_pos h3,if_pos (by omega)]
  exact .inl ⟨_,rfl,by decide,rfl⟩
 rw[if_neg h3,if_neg (by omega)]
 exact .inr ⟨_,_,rfl,by rw[xM]; congr 1; omega⟩
theorem gE (s:List UInt8) (q:Nat) (hq:q≤s.length) :
 (∃ e,dw s q= .error e∧e≠0∧fo (s.drop q)=⟨⟨false,[]⟩,0,e⟩)∨(∃ b r,dw s q= .ok (b,r)∧q≤r∧r≤s.length∧fo (s.drop q)=⟨b,((r - q:Nat):Int),0⟩):=by
 have hd:(s.drop q).length=s.length - q:=xe
 unfold fo hZ ei
 by_cases he:(vgo 32 (s.drop q) 0 0 0).2.err=0
 ·rw[if_pos he]
  simp only
  rw[if_neg (by simp)]
  have hp:d9 32 s q= .ok ((vgo 32 (s.drop q) 0 0 0).1,q+(vgo 32 (s.drop q) 0 0 0).2.pos):=by unfold d9; rw[if_pos he]
  have hg:=ky hq hp
  have hp2:dP 32 s q= .ok (bW (vgo 32 (s.drop q) 0 0 0).1,q+(vgo 32 (s.drop q) 0 0 0).2.pos):=by rw[dP,Pr.bind_of hp]; rfl
  rcases rgot_p s q (vgo 32 (s.drop q) 0 0 0).2.pos _ (bW (vgo 32 (s.drop q) 0 0 0).1) (by omega) rfl hq with⟨e,g1,g2,g3⟩ | ⟨b,r,g1,g2⟩
  ·exact .inl ⟨e,by rw[dw,Pr.bind_of hp2,g1],g2,g3⟩
  ·have hb:dw s q= .ok (b,r):=by rw[dw,Pr.bind_of hp2,g1]
   have:=dj.spell _ _ _ _ hq hb
   exact .inr ⟨b,r,hb,this.1,this.2.1,g2⟩
 ·rw[if_neg he]
  simp only
  rw[if_pos he]
  have hp:d9 32 s q= .error (vgo 32 (s.drop q) 0 0 0).2.err:=by unfold d9; rw[if_neg he]
  exact .inl ⟨_,by rw[dw,dP,Pr.bind_err (Pr.bind_err hp)],he,rfl⟩
theorem oput_z (t l:List UInt8):d7 (t,0) l=(t++l,0):=rfl
theorem sQ {n k:Int} (h:de n k=true): -9223372036854775808≤n∧n≤9223372036854775807:=by
 unfold de at h
 simp only[Bool.and_eq_true,decide_eq_true_eq] at h
 obtain⟨⟨⟨h1,h2⟩,h3⟩,h4⟩:=h
 have:(2:Nat) ^ (8*k.toNat - 1)≤2 ^ 63:=Nat.pow_le_pow_right (by decide) (by omega)
 have h5:((2:Int) ^ (8*k.toNat - 1))=((2 ^ (8*k.toNat - 1):Nat):Int):=by simp
 have h6:(2:Nat) ^ 63=9223372036854775808:=by decide
 omega
theorem uc {t:List UInt8} {n k:Int} (hf:de n k=true) (ht:t.length≤140737488355320):eL (t,0) n k=some (t++be n k.toNat,0):=by
 rw[sx _ _ _ ⟨sQ hf,by simp only; omega⟩]
 unfold ru
 rw[if_pos hf,oput_z]
structure CQ {α:Type} (op:I→Option (α×I)) (p:Pr α) (z:α):Prop where
 dead: ∀ st:I,st.err≠0→op st=some (z,st)
 run: ∀ (s:List UInt8) (q:Nat),q≤s.length→(∃ (e:Int) (st:I),p s q= .error e∧op ⟨s.drop q,q,0⟩=some (z,st)∧st.err=e∧st.err≠0)∨(∃ (a:α) (r:Nat),p s q= .ok (a,r)∧op ⟨s.drop q,q,0⟩=some (a,⟨s.drop r,r,0⟩)∧q≤r∧r≤s.length)
theorem CR.cq {α:Type} {op:I→Option (α×I)} {p:Pr α} {z:α} {enc:α→List UInt8} {ok:α→Prop} (h:CR op p z) (hs:Sp p enc ok):CQ op p z:=by
 refine⟨h.dead,fun s q hq=> ?_⟩
 cases hp:p s q with
 | error e =>
  obtain⟨st,h1,h2,h3⟩:=h.bad s q e hq hp
  exact .inl ⟨e,st,rfl,h1,h2,by rw[h2]; exact h3⟩
 | ok x =>
  have:=hs.spell s q x.1 x.2 hq hp
  exact .inr ⟨x.1,x.2,rfl,h.good s q x.1 x.2 hq hp,this.1,this.2.1⟩
theorem qU (k:Nat) (h1:1≤k) (h8:k≤8) (kk:Int) (hk:kk=(k:Int)):CQ (fun st=>eJ st kk) (gl k) 0:=(CR_int k h1 h8 kk hk).cq (nW k h1 h8)
theorem Q1:CQ (fun st=>eJ st 1) (gl 1) 0:=qU 1 (by decide) (by decide) 1 rfl
theorem Q2:CQ (fun st=>eJ st 2) (gl 2) 0:=qU 2 (by decide) (by decide) 2 rfl
theorem Q4:CQ (fun st=>eJ st 4) (gl 4) 0:=qU 4 (by decide) (by decide) 4 rfl
theorem Q8:CQ (fun st=>eJ st 8) (gl 8) 0:=qU 8 (by decide) (by decide) 8 rfl
theorem qV (l:List UInt8) (q:Nat) (e:Int):cx ⟨l,q,0⟩ e=⟨l,q,e⟩:=rfl
theorem QV:CQ aY dw (⟨false,[]⟩:Bl):=nc.cq dj
theorem QN:CQ lU fa []:=ub.cq gb
theorem otx_z (t:List UInt8):otx (t,0)=(t,0):=by simp[otx]
open Go.RowKit
set_option linter.unusedVariables false
set_option linter.unusedSimpArgs false
def shift {α:Type} (q:Nat):Except Int (α×Nat)→Except Int (α×Nat)
 | .error e=> .error e
 | .ok (a,r)=> .ok (a,q+r)
def Sh {α:Type} (p:Pr α):Prop:= ∀ (s:List UInt8) (q k:Nat),q+k≤s.length→p s (q+k)=shift q (p (s.drop q) k)
theorem Sh.ret {α:Type} (a:α):Sh (Pr.ret a):=fun s q k h=>rfl
theorem Sh.err {α:Type} (e:Int):Sh (Pr.err e:Pr α):=fun s q k h=>rfl
theorem Sh.bind {α β:Type} {p:Pr α} {f:α→Pr β} {enc:α→List UInt8} {ok:α→Prop} (hp:Sh p) (hs:Sp p enc ok) (hf: ∀ a,Sh (f a)):Sh (p.bind f):=by
 intro s q k h
 unfold Pr.bind
 rw[hp s q k h]
 cases hx:p (s.drop q) k with
 | error e=>rfl
 | ok x =>
  have:=(hs.spell (s.drop q) k x.1 x.2 (by rw[xe]; omega) hx).2.1
  rw[xe] at this
  exact hf x.1 s q x.2 (by omega)
theorem Sh_got (n:Int):Sh (lu n):=by
 intro s q j h
 unfold lu
 rw[xe,xM]
 by_cases h1:n= -1
 ·rw[if_pos h1,if_pos h1]
  rfl
 rw[if_neg h1,if_neg h1]
 by_cases h2:n<0
 ·rw[if_pos h2,if_pos h2]
  rfl
 rw[if_neg h2,if_neg h2]
 by_cases hc:(s.length:Int)<((q+j:Nat):Int)+n
 ·rw[if_pos hc,if_pos (by omega)]
  rfl
 ·rw[if_neg hc,if_neg (by omega)]
  simp only[shift,Nat.add_assoc]
theorem ud (bs:Int):Sh (d9 bs):=by
 intro s q j h
 unfold d9
 rw[xM]
 split
 ·simp only[shift,Nat.add_assoc]
 ·rfl
theorem qW (bs:Int) (hb:bs=32∨bs=64):Sh (dP bs):=(ud bs).bind (lA bs hb) fun _=> .ret _
theorem nd:Sh dw:=(qW 32 (.inl rfl)).bind (ec 32 (.inl rfl)) Sh_got
theorem ue {p:Pr Bl} {enc:Bl→List UInt8} {ok:Bl→Prop} (hp:Sh p) (hs:Sp p enc ok):Sh (gD p):=hp.bind hs fun b=>by
 split
 ·exact .err 4
 ·exact .ret _
theorem uf:Sh fa:=ue nd dj
theorem Sh.zero {α:Type} {p:Pr α} (h:Sh p) {s:List UInt8} {q:Nat} (hq:q≤s.length):p s q=shift q (p (s.drop q) 0):=h s q 0 hq
def jW (each:Nat) (n:Int):Pr Int:=fun s q=>if n<0 then .error 4 else if 0<each∧((s.length - q:Nat):Int) / each<n then .error 1 else .ok (n,q)
theorem ug (each:Nat) (n:Int):Sh (jW each n):=by
 intro s q j h
 unfold jW
 rw[xe,show s.length - q - j=s.length - (q+j) by omega]
 split
 ·rfl
 ·split
  ·rfl
  ·rfl
def gF {α:Type} (p:Pr α):Nat→Pr (List α)
 | 0=> .ret []
 | n+1=>p.bind fun a=>(gF p n).bind fun l=> .ret (a::l)
def cJ {α:Type} (enc:α→List UInt8):List α→List UInt8
 | [] => []
 | a::l=>enc a++cJ enc l
theorem nY {α:Type} {p:Pr α} {enc:α→List UInt8} {ok:α→Prop} (hp:Sp p enc ok): ∀ n:Nat,Sp (gF p n) (cJ enc) (fun l=>l.length=n∧ ∀ x,x∈l→ok x)
 | 0=>by
  refine⟨fun s q a r hq h=> ?_,fun s t q a hq ha h=> ?_⟩
  ·injection h with h
   obtain⟨rfl,rfl⟩:=xQ h
   exact⟨xB _,hq,rfl,by simp[cJ],rfl,fun x h=>nomatch h⟩
  ·obtain rfl:=List.length_eq_zero_iff.1 ha.1
   rfl
 | n+1=>by
  have ih:=nY hp n
  refine⟨fun s q a r hq h=> ?_,fun s t q a hq ha h=> ?_⟩
  ·obtain⟨x,q1,h1,h⟩:=Pr.bind_ok h
   obtain⟨l,q2,h2,h⟩:=Pr.bind_ok h
   injection h with h
   obtain⟨rfl,rfl⟩:=xQ h
   obtain⟨a1,a2,a3,a4,a5⟩:=hp.spell _ _ _ _ hq h1
   obtain⟨b1,b2,b3,b4,b5,b6⟩:=ih.spell _ _ _ _ a2 h2
   refine⟨by omega,b2,by rw[cJ,xf]; omega,by rw[b4,a4,cJ,xq],by rw[xw,b5],fun y hy=> ?_⟩
   rcases List.mem_cons.1 hy with rfl | hy
   ·exact a5
   ·exact b6 y hy
  ·obtain⟨ha1,ha2⟩:=ha
   cases a with
   | nil=>exact absurd ha1 (by simp)
   | cons x l =>
    rw[cJ,xq] at h
    have hl:=congrArg List.length h
    rw[xe,xf] at hl
    have g1:=hp.back _ _ _ _ hq (ha2 x (.head _)) h
    have g2:=ih.back _ _ _ _ (by omega) ⟨by simpa using ha1,fun y hy=>ha2 y (.tail _ hy)⟩ (cM h)
    rw[gF,Pr.bind_of g1,Pr.bind_of g2]
    simp only[Pr.ret,cJ,xf,Nat.add_assoc]
theorem sR {α:Type} {p:Pr α} {enc:α→List UInt8} {ok:α→Prop} (hs:Sh p) (hp:Sp p enc ok): ∀ n:Nat,Sh (gF p n)
 | 0=> .ret _
 | n+1=>hs.bind hp fun a=>(sR hs hp n).bind (nY hp n) fun l=> .ret _
theorem qX {α:Type} {enc:α→List UInt8} {ok:α→Prop} {each:Nat} (he: ∀ x,ok x→each≤(enc x).length): ∀ l:List α,(∀ x,x∈l→ok x)→l.length*each≤(cJ enc l).length
 | [],h=>by simp
 | x::l,h=>by
  have:=qX he l (fun y hy=>h y (.tail _ hy))
  have:=he x (h x (.head _))
  rw[cJ,xf,xw,Nat.add_mul]
  omega
structure CB {α:Type} (op:I→Option (α×I)) (p:Pr α) (z:α):Prop where
 dead: ∀ st:I,st.err≠0→op st=some (z,st)
 run: ∀ (s:List UInt8) (q:Nat),s.length≤1000000→q≤s.length→(∃ (e:Int) (st:I),p s q= .error e∧op ⟨s.drop q,q,0⟩=some (z,st)∧st.err=e∧st.err≠0)∨(∃ (a:α) (r:Nat),p s q= .ok (a,r)∧op ⟨s.drop q,q,0⟩=some (a,⟨s.drop r,r,0⟩)∧q≤r∧r≤s.length)
theorem CQ.cb {α:Type} {op:I→Option (α×I)} {p:Pr α} {z:α} (h:CQ op p z):CB op p z:=⟨h.dead,fun s q _ hq=>h.run s q hq⟩
def NZ {α:Type} (p:Pr α):Prop:= ∀ (s:List UInt8) (q:Nat) (e:Int),s.length≤1000000→q≤s.length→p s q= .error e→e≠0
theorem CB.nz {α:Type} {op:I→Option (α×I)} {p:Pr α} {z:α} (h:CB op p z):NZ p:=by
 intro s q e hs hq hp
 rcases h.run s q hs hq with⟨e',st,p1,g,x,y⟩ | ⟨a,r,p1,g,n,l⟩
 ·rw[hp] at p1
  injection p1 with p1
  rw[p1,← x]
  exact y
 ·rw[hp] at p1
  exact nomatch p1
theorem CB.bind {α β:Type} {op1:I→Option (α×I)} {p:Pr α} {z1:α} {op2:α→I→Option (β×I)} {f:α→Pr β} {z:β} (W:α→Prop) (h:CB op1 p z1)
 (hs: ∀ s q a r,s.length≤1000000→q≤s.length→p s q= .ok (a,r)→W a) (hz:W z1) (hf: ∀ a,W a→CB (op2 a) (f a) z):CB (fun st=>(op1 st).bind fun (a,st1)=>op2 a st1) (p.bind f) z:=by
 refine⟨fun st hd=> ?_,fun s q hl hq=> ?_⟩
 ·show (op1 st).bind _= _
  rw[h.dead st hd,xb]
  exact (hf z1 hz).dead st hd
 ·rcases h.run s q hl hq with⟨e,st,p1,g1,x1,y1⟩ | ⟨a,r,p1,g1,n1,l1⟩
  ·refine .inl ⟨e,st,Pr.bind_err p1,?_,x1,y1⟩
   show (op1 _).bind _= _
   rw[g1,xb]
   exact (hf z1 hz).dead st y1
  ·have g2:((op1 ⟨s.drop q,q,0⟩).bind fun (a,st1)=>op2 a st1)=op2 a ⟨s.drop r,r,0⟩:=by rw[g1,xb]
   show (∃ e st,p.bind f s q= _∧((op1 ⟨s.drop q,q,0⟩).bind fun (a,st1)=>op2 a st1)= _∧ _∧ _)∨(∃ x m,p.bind f s q= _∧((op1 ⟨s.drop q,q,0⟩).bind fun (a,st1)=>op2 a st1)= _∧ _∧ _)
   rw[g2,Pr.bind_of p1]
   rcases (hf a (hs s q a r hl hq p1)).run s r hl l1 with⟨e,st,p2,k2,x2,y2⟩ | ⟨b,m,p2,k2,n2,l2⟩
   ·exact .inl ⟨e,st,p2,k2,x2,y2⟩
   ·exact .inr ⟨b,m,p2,k2,by omega,l2⟩
theorem CB.congr {α:Type} {op op':I→Option (α×I)} {p:Pr α} {z:α} (h:CB op p z) (he: ∀ st,op' st=op st):CB op' p z:=⟨fun st hd=>(he st).trans (h.dead st hd),fun s q hl hq=>by rw[he]; exact h.run s q hl hq⟩
theorem CB.pr {α:Type} {op:I→Option (α×I)} {p p':Pr α} {z:α} (h:CB op p z) (he:p=p'):CB op p' z:=he ▸ h
theorem CB_chk {α:Type} {op:I→Option (α×I)} {x0 z:α} {e:Int} (h: ∀ st:I,st.err≠0→op st=some (z,st)) (h0: ∀ st:I,st.err=0→op st=some (if e=0 then (x0,st) else (z,cx st e))):CB op (if e=0 then .ret x0 else .err e) z:=by
 refine⟨h,fun s q hl hq=> ?_⟩
 by_cases he:e=0
 ·rw[if_pos he,h0 _ rfl,if_pos he]
  exact .inr ⟨x0,q,rfl,rfl,xB _,hq⟩
 ·rw[if_neg he,h0 _ rfl,if_neg he]
  exact .inl ⟨e,_,rfl,rfl,rfl,he⟩
theorem Pr.bind_assoc {α β γ:Type} (p:Pr α) (f:α→Pr β) (g:β→Pr γ):(p.bind f).bind g=p.bind fun a=>(f a).bind g:=by
 funext s q
 unfold Pr.bind
 cases p s q with
 | error e=>rfl
 | ok x=>rfl
theorem Pr.ret_bind {α β:Type} (a:α) (f:α→Pr β):(Pr.ret a).bind f=f a:=by
 funext s q
 rfl
def jX:List Nat→Pr (List Int)
 | []=> .ret []
 | k::ks=>(gl k).bind fun a=>(jX ks).bind fun l=> .ret (a::l)
def jw:List Nat→List Int→List UInt8
 | k::ks,x::xs=>be x k++jw ks xs
 | _,_ => []
def okI:List Nat→List Int→Prop
 | [],[]=>True
 | k::ks,x::xs=>de x k=true∧okI ks xs
 | _,_=>False
theorem lB: ∀ ks:List Nat,(∀ k,k∈ks→1≤k∧k≤8)→Sp (jX ks) (jw ks) (okI ks)
 | [],_=>by
  refine⟨fun s q l r hq h=> ?_,fun s t q l hq hl hd=> ?_⟩
  ·injection h with h
   obtain⟨rfl,rfl⟩:=xQ h
   exact⟨xB _,hq,rfl,by simp[jw],trivial⟩
  ·cases l with
   | nil=>rfl
   | cons x xs=>exact nomatch hl
 | k::ks,hk=>by
  have hp:=nW k (hk k (List.mem_cons_self ..)).1 (hk k (List.mem_cons_self ..)).2
  have ih:=lB ks (fun j hj=>hk j (List.mem_cons_of_mem _ hj))
  refine⟨fun s q l r hq h=> ?_,fun s t q l hq hl hd=> ?_⟩
  ·obtain⟨a,m,h1,h2⟩:=Pr.bind_ok h
   obtain⟨xs,m2,h3,h4⟩:=Pr.bind_ok h2
   injection h4 with h4
   obtain⟨rfl,rfl⟩:=xQ h4
   obtain⟨a1,a2,a3,a4,a5⟩:=hp.spell s q a m hq h1
   obtain⟨b1,b2,b3,b4,b5⟩:=ih.spell s m xs m2 a2 h3
   exact⟨by omega,b2,by simp only[jw,xf]; omega,by rw[b4,a4,jw,xq],a5,b5⟩
  ·cases l with
   | nil=>exact nomatch hl
   | cons x xs =>
    rw[jw,xq] at hd
    have h1:=hp.back s _ q x hq hl.1 hd
    have hl2:=congrArg List.length hd
    rw[xe,xf] at hl2
    have h2:=ih.back s t _ xs (by omega) hl.2 (cM hd)
    rw[jX,Pr.bind_of h1,Pr.bind_of h2,jw,xf,← Nat.add_assoc]
    rfl
def KS:List Nat := [8,4,4,1,4,2,4,8,8,8,2,4,4]
theorem sS: ∀ k,k∈KS→1≤k∧k≤8:=by decide
def s32 (n:Int):Int:=if n>2147483647 then n - 4294967296 else n
def toL (p:Pfx):List Int := [p.wG,p.wM,p.wz,2,s32 p.wT,p.wQ,p.wE,p.wx,p.wJ,p.ww,p.wA,p.wv,p.wR]
def ckE (b m ct:Int):Int:=if m=2 then (if b<49 then 4 else if ct<0 then 10 else 0) else 6
def chkP:List Int→Pr Pfx
 | [a,b,c,m,s,at',la,fi,mx,pr,ep,sq,ct]=>if ckE b m ct=0 then .ret ⟨a,b,c,s % 4294967296,at',la,fi,mx,pr,ep,sq,ct⟩ else .err (ckE b m ct)
 | _=> .err 1
def nZ:Pr Pfx:=(jX KS).bind chkP
def iU (p:Pfx):List UInt8:=jw KS (toL p)
def okP (p:Pfx):Prop:=okI KS (toL p)∧(0≤p.wT∧p.wT≤4294967295)∧49≤p.wM∧0≤p.wR
theorem qY: ∀ {ks:List Nat} {l:List Int},okI ks l→l.length=ks.length
 | [],[],_=>rfl
 | k::ks,x::xs,h=>by rw[xw,xw,qY h.2]
 | [],_ :: _,h=>nomatch h
 | _ :: _,[],h=>nomatch h
theorem pe: ∀ {ks:List Nat} {l:List Int},okI ks l→(jw ks l).length=ks.sum
 | [],[],_=>rfl
 | k::ks,x::xs,h=>by rw[jw,xf,cC,pe h.2,List.sum_cons]
 | [],_ :: _,h=>nomatch h
 | _ :: _,[],h=>nomatch h
theorem len13 {l:List Int} (h:l.length=13): ∃ a b c m s t la fi mx pr ep sq ct,l = [a,b,c,m,s,t,la,fi,mx,pr,ep,sq,ct]:=by
 match l,h with
 | [a,b,c,m,s,t,la,fi,mx,pr,ep,sq,ct],_=>exact⟨a,b,c,m,s,t,la,fi,mx,pr,ep,sq,ct,rfl⟩
theorem sT {s:Int} (h:de s 4=true):s32 (s % 4294967296)=s:=by
 rw[fA] at h
 have:=of_decide_eq_true h
 unfold s32
 split <;> omega
theorem uh {s:Int} (h:0≤s∧s≤4294967295):s32 s % 4294967296=s:=by
 unfold s32
 split <;> omega
theorem pf {b m ct:Int} (h:ckE b m ct=0):m=2∧49≤b∧0≤ct:=by
 unfold ckE at h
 by_cases h1:m=2
 ·rw[if_pos h1] at h
  by_cases h2:b<49
  ·rw[if_pos h2] at h; cases h
  ·rw[if_neg h2] at h
   by_cases h3:ct<0
   ·rw[if_pos h3] at h; cases h
   ·exact⟨h1,by omega,by omega⟩
 ·rw[if_neg h1] at h; cases h
theorem ckE_of {b ct:Int} (h1:49≤b) (h2:0≤ct):ckE b 2 ct=0:=by
 unfold ckE
 rw[if_pos rfl,if_neg (by omega),if_neg (by omega)]
theorem n7:Sp nZ iU okP:=by
 refine⟨fun s q p r hq h=> ?_,fun s t q p hq hp hd=> ?_⟩
 ·obtain⟨l,m,h1,h2⟩:=Pr.bind_ok h
  obtain⟨a1,a2,a3,a4,a5⟩:=(lB KS sS).spell s q l m hq h1
  obtain⟨a,b,c,mg,sm,t,la,fi,mx,pr,ep,sq,ct,rfl⟩:=len13 (qY a5)
  have hs:de sm 4=true:=a5.2.2.2.2.1
  unfold chkP at h2
  dsimp only at h2
  by_cases hc:ckE b mg ct=0
  ·rw[if_pos hc] at h2
   injection h2 with h2
   obtain⟨rfl,rfl⟩:=xQ h2
   obtain⟨rfl,c2,c3⟩:=pf hc
   have e:toL ⟨a,b,c,sm % 4294967296,t,la,fi,mx,pr,ep,sq,ct⟩ = [a,b,c,2,sm,t,la,fi,mx,pr,ep,sq,ct]:=by
    unfold toL
    rw[sT hs]
   unfold iU okP
   rw[e]
   exact⟨a1,a2,a3,a4,a5,by show 0≤sm % 4294967296∧sm % 4294967296≤4294967295; omega,c2,c3⟩
  ·rw[if_neg hc] at h2
   exact nomatch h2
 ·have h1:=(lB KS sS).back s t q (toL p) hq hp.1 hd
  rw[nZ,Pr.bind_of h1]
  unfold toL chkP
  dsimp only
  rw[if_pos (ckE_of hp.2.2.1 hp.2.2.2),uh hp.2.1]
  rfl
theorem and32 (n:Int):Go.bits .and .i64 n 4294967295=n % 4294967296:=by
 rw[show (4294967295:Int)=((4294967295:Nat):Int) from rfl,nL n _ (by decide),show (4294967295:Nat)=2 ^ 32 - 1 from rfl,Nat.and_two_pow_sub_one_eq_mod]
 omega
def zP:Pfx:=⟨0,0,0,0,0,0,0,0,0,0,0,0⟩
def sU (a b c m s t la fi mx pr ep sq ct:Int) (st:I):Option (Pfx×I):=(jH st).bind fun (x57,st58)=>(if x57=0 then ((if m=2 then ((if b<49 then ((bi st58 4).bind fun st164=>some st164) else ((if ct<0 then ((bi st58 10).bind fun st172=>some st172) else some st58).bind fun st169=>some st169)).bind fun st161=>some st161) else ((bi st58 6).bind fun st174=>some st174)).bind fun st147=>some st147) else some st58).bind fun st117=>(jH st117).bind fun (x176,st177)=>if x176=0 then (some ((⟨a,b,c,(Go.bits .and .i64 s 4294967295),t,la,fi,mx,pr,ep,sq,ct⟩:Pfx),st177)) else (some ((⟨0,0,0,0,0,0,0,0,0,0,0,0⟩:Pfx),st177))
theorem B_tail (a b c m s t la fi mx pr ep sq ct:Int):CB (sU a b c m s t la fi mx pr ep sq ct) (chkP [a,b,c,m,s,t,la,fi,mx,pr,ep,sq,ct]) zP:=by
 refine CB_chk (fun st h=> ?_) (fun st h=> ?_)
 ·unfold sU
  rw[bU,xb]
  dsimp only
  rw[if_neg h,xb,bU,xb]
  dsimp only
  rw[if_neg h]
  rfl
 ·obtain⟨l,q,e⟩:=st
  obtain rfl:e=0:=h
  unfold sU ckE
  rw[bU,xb]
  dsimp only
  rw[if_pos rfl,and32]
  by_cases h1:m=2
  ·rw[if_pos h1,if_pos h1]
   by_cases h2:b<49
   ·rw[if_pos h2,if_pos h2,if_neg (by decide)]; rfl
   ·rw[if_neg h2,if_neg h2]
    by_cases h3:ct<0
    ·rw[if_pos h3,if_pos h3,if_neg (by decide)]; rfl
    ·rw[if_neg h3,if_neg h3,if_pos rfl]; rfl
  ·rw[if_neg h1,if_neg h1,if_neg (by decide)]; rfl
theorem sV:CB (fun st=>db st) nZ zP:=by
 have w: ∀ {p:Pr Int} (s:List UInt8) (q:Nat) (a:Int) (r:Nat),s.length≤1000000→q≤s.length→p s q= .ok (a,r)→(fun _:Int=>True) a:=fun _ _ _ _ _ _ _=>trivial
 have h:=CB.bind (fun _=>True) Q8.cb w trivial fun a _=>CB.bind (fun _=>True) Q4.cb w trivial fun b _=>CB.bind (fun _=>True) Q4.cb w trivial fun c _=>CB.bind (fun _=>True) Q1.cb w trivial fun m _=>CB.bind (fun _=>True) Q4.cb w trivial fun s _ =>
  CB.bind (fun _=>True) Q2.cb w trivial fun t _=>CB.bind (fun _=>True) Q4.cb w trivial fun la _=>CB.bind (fun _=>True) Q8.cb w trivial fun fi _=>CB.bind (fun _=>True) Q8.cb w trivial fun mx _=>CB.bind (fun _=>True) Q8.cb w trivial fun pr _ =>
  CB.bind (fun _=>True) Q2.cb w trivial fun ep _=>CB.bind (fun _=>True) Q4.cb w trivial fun sq _=>CB.bind (fun _=>True) Q4.cb w trivial fun ct _=>B_tail a b c m s t la fi mx pr ep sq ct
 refine (h.congr (fun st=>rfl)).pr ?_
 unfold nZ KS
 simp only[jX,Pr.bind_assoc,Pr.ret_bind]
def wrI:List Nat→List Int→List UInt8×Int→Option (List UInt8×Int)
 | k::ks,x::xs,st=>(eL st x (k:Int)).bind fun st=>wrI ks xs st
 | _,_,st=>some st
theorem sW: ∀ (ks:List Nat) (l:List Int) (t:List UInt8),okI ks l→t.length+ks.sum≤1000000→wrI ks l (t,0)=some (t++jw ks l,0)
 | [],[],t,_,_=>by unfold wrI jw; rw[xN]
 | [],_ :: _,_,h,_=>nomatch h
 | _ :: _,[],_,h,_=>nomatch h
 | k::ks,x::xs,t,h,hl=>by
  rw[List.sum_cons] at hl
  rw[wrI,uc h.1 (by omega),xb,xC,sW ks xs _ h.2 (by rw[xf,cC]; omega),jw,xq]
def w32 (n:Int):Int:=IntKind.i32.wrap (IntKind.u32.wrap n)
theorem ui (n:Int): -2147483648≤w32 n∧w32 n≤2147483647:=by
 unfold w32
 rw[IntKind.wrap_i32]
 omega
theorem w32_s {n:Int} (h:0≤n∧n≤4294967295):w32 n=s32 n:=by
 unfold w32 s32
 rw[IntKind.wrap_i32,IntKind.wrap_u32]
 split <;> omega
def toW (p:Pfx):List Int := [p.wG,p.wM,p.wz,2,w32 p.wT,p.wQ,p.wE,p.wx,p.wJ,p.ww,p.wA,p.wv,p.wR]
theorem sX (st:List UInt8×Int) (p:Pfx):cm st p=wrI KS (toW p) (if p.wT<0∨p.wT>4294967295 then fV st 11 else st):=by
 have hw:=ui p.wT
 unfold cm
 have e:((if p.wT<0 then some true else (if p.wT>4294967295 then some true else some false)).bind fun y4=>(if y4=true then ((jh st 11).bind fun st14=>some st14) else some st))=some (if p.wT<0∨p.wT>4294967295 then fV st 11 else st):=by
  by_cases h1:p.wT<0
  ·rw[if_pos h1,xb,if_pos rfl,if_pos (.inl h1)]; rfl
  ·rw[if_neg h1]
   by_cases h2:p.wT>4294967295
   ·rw[if_pos h2,xb,if_pos rfl,if_pos (.inr h2)]; rfl
   ·rw[if_neg h2,xb,if_neg (by decide),if_neg (by omega)]
 have e2: ∀ (K:List UInt8×Int→Option (List UInt8×Int)),((if p.wT<0 then some true else (if p.wT>4294967295 then some true else some false)).bind fun y4=>(if y4=true then ((jh st 11).bind fun st14=>some st14) else some st).bind K)=K (if p.wT<0∨p.wT>4294967295 then fV st 11 else st):=by
  intro K
  rw[← Option.bind_assoc,e,xb]
 rw[e2]
 show (if -9223372036854775808≤w32 p.wT∧w32 p.wT≤9223372036854775807 then _ else _)= _
 rw[if_pos (by omega)]
 rfl
def okWp (p:Pfx):Prop:=okI KS (toL p)∧0≤p.wT∧p.wT≤4294967295
theorem mf {p:Pfx} (h:okI KS (toL p)):(iU p).length=61:=by
 unfold iU
 rw[pe h]
 rfl
theorem sY {p:Pfx} (t:List UInt8) (h:okWp p) (ht:t.length≤900000):cm (t,0) p=some (t++iU p,0):=by
 have e:toW p=toL p:=by
  unfold toW toL
  rw[w32_s h.2]
 have h2:=h.2
 rw[sX,if_neg (by omega),e]
 exact sW KS (toL p) t h.1 (by show t.length+61≤ _; omega)
def fS (p:Pfx):List Int := [p.wG,p.wM,p.wz,p.wT,p.wQ,p.wE,p.wx,p.wJ,p.ww,p.wA,p.wv,p.wR]
theorem eS {st:I} (h:st.err≠0):aY st=some (⟨false,[]⟩,st):=QV.dead st h
theorem uj {st:I} (h:st.err≠0):lU st=some ([],st):=QN.dead st h
theorem qq:CQ g6 (dP 32) 0:=(nX 32 (.inl rfl)).cq (ec 32 (.inl rfl))
theorem lC {st:I} (h:st.err≠0):g6 st=some (0,st):=qq.dead st h
def gc (each:Nat):Pr Int:=(dP 32).bind (jW each)
theorem mh {each:Nat} {s:List UInt8} {q r:Nat} {n:Int} (hq:q≤s.length) (h:gc each s q= .ok (n,r)):0≤n∧(0<each→n*each≤((s.length - r:Nat):Int))∧q≤r∧r=q+(ci (aK n)).length∧r≤s.length∧s.take r=s.take q++ci (aK n)∧aK n<2 ^ (32:Int).toNat:=by
 obtain⟨m,r',h2,h⟩:=Pr.bind_ok h
 obtain⟨a1,a2,a3,a4,a5⟩:=(ec 32 (.inl rfl)).spell _ _ _ _ hq h2
 unfold jW at h
 split at h
 ·exact nomatch h
 ·rename_i hn
  split at h
  ·exact nomatch h
  ·rename_i he
   injection h with h
   obtain⟨rfl,rfl⟩:=xQ h
   refine⟨by omega,fun hz=> ?_,a1,a3,a2,a4,a5⟩
   have:m≤((s.length - r':Nat):Int) / each:=by
    rcases Int.lt_or_le (((s.length - r':Nat):Int) / each) m with g | g
    ·exact absurd ⟨hz,g⟩ he
    ·exact g
   exact (Int.le_ediv_iff_mul_le (by omega)).1 this
theorem qr {each:Nat} {s t:List UInt8} {q:Nat} {n:Int} (hq:q≤s.length) (hf:aK n<2 ^ (32:Int).toNat) (hn:0≤n) (h:s.drop q=ci (aK n)++t) (hl:0<each→n*each≤t.length):gc each s q= .ok (n,q+(ci (aK n)).length):=by
 have g:=(ec 32 (.inl rfl)).back s t q n hq hf h
 rw[gc,Pr.bind_of g]
 unfold jW
 have hlen:=congrArg List.length h
 rw[xe,xf] at hlen
 rw[if_neg (by omega),if_neg]
 rintro⟨hz,hc⟩
 have:=(Int.le_ediv_iff_mul_le (show (0:Int)<each by omega)).2 (hl hz)
 rw[show s.length - (q+(ci (aK n)).length)=t.length by omega] at hc
 omega
def mi {α:Type} (each:Nat) (p:Pr α):Pr (List α):=(gc each).bind fun n=>gF p n.toNat
theorem uk {α:Type} {p:Pr α} {enc:α→List UInt8} {ok:α→Prop} (each:Nat) (hp:Sp p enc ok) (he: ∀ x,ok x→each≤(enc x).length):Sp (mi each p) (fun l=>ci (aK (l.length:Int))++cJ enc l) (fun l=>aK (l.length:Int)<2 ^ (32:Int).toNat∧ ∀ x,x∈l→ok x):=by
 refine⟨fun s q a r hq h=> ?_,fun s t q a hq ha h=> ?_⟩
 ·obtain⟨n,q1,g1,h⟩:=Pr.bind_ok h
  obtain⟨a1,a2,a3,a4,a5,a6,a7⟩:=mh hq g1
  obtain⟨b1,b2,b3,b4,b5,b6⟩:=(nY hp n.toNat).spell _ _ _ _ a5 h
  have hn:(a.length:Int)=n:=by omega
  refine⟨by omega,b2,by rw[xf,hn]; omega,by rw[b4,a6,hn,xq],by rw[hn]; exact a7,b6⟩
 ·rw[xq] at h
  have hl:=congrArg List.length h
  rw[xe,xf,xf] at hl
  have g1:=qr (each:=each) hq ha.1 (by omega) h (fun _=>by
   have:=qX he a ha.2
   rw[xf,Int.natCast_add,← Int.natCast_mul]
   omega)
  have h2:=cM h
  have g2:=(nY hp a.length).back _ _ _ _ (by omega) ⟨rfl,ha.2⟩ h2
  rw[mi,Pr.bind_of g1,xC,g2,xf]
  simp only[Nat.add_assoc]
theorem r7 (each:Nat):Sh (gc each):=(qW 32 (.inl rfl)).bind (ec 32 (.inl rfl)) (ug each)
theorem ul {α:Type} {p:Pr α} {enc:α→List UInt8} {ok:α→Prop} (each:Nat) (hs:Sh p) (hp:Sp p enc ok):Sh (mi each p):=by
 intro s q j h
 unfold mi Pr.bind
 rw[r7 each s q j h]
 cases hx:gc each (s.drop q) j with
 | error e=>rfl
 | ok x =>
  have:=(mh (by rw[xe]; omega) hx).2.2.2.2.1
  rw[xe] at this
  exact sR hs hp x.1.toNat s q x.2 (by omega)
def pHd:Pr Hd:=fa.bind fun k=>dw.bind fun v=> .ret ⟨k,v⟩
def eO (h:Hd):List UInt8:=(ci (aK (h.wC.length:Int))++h.wC)++(ci (aK (blen h.wt))++h.wt.data)
def okHd (h:Hd):Prop:=aK (h.wC.length:Int)<2 ^ (32:Int).toNat∧aK (blen h.wt)<2 ^ (32:Int).toNat∧bb h.wt=true
theorem Sp_hd:Sp pHd eO okHd:=by
 refine⟨fun s q a r hq h=> ?_,fun s t q a hq ha h=> ?_⟩
 ·obtain⟨k,q1,h1,h⟩:=Pr.bind_ok h
  obtain⟨v,q2,h2,h⟩:=Pr.bind_ok h
  injection h with h
  obtain⟨rfl,rfl⟩:=xQ h
  obtain⟨a1,a2,a3,a4,a5⟩:=gb.spell _ _ _ _ hq h1
  obtain⟨b1,b2,b3,b4,b5⟩:=dj.spell _ _ _ _ a2 h2
  exact⟨by omega,b2,by simp only[eO,xf] at *; omega,by rw[b4,a4]; simp only[eO,xq],a5.1,b5⟩
 ·obtain⟨a1,a2,a3⟩:=ha
  have hl:=congrArg List.length h
  rw[eO,xq] at h
  have g1:=gb.back _ _ _ _ hq ⟨a1,rfl⟩ h
  have h:=cM h
  have g2:=dj.back _ _ _ _ (by simp only[eO,xe,xf] at *; omega) ⟨a2,a3⟩ h
  rw[pHd,Pr.bind_of g1,Pr.bind_of g2]
  simp only[Pr.ret,eO,xf,Nat.add_assoc]
theorem sZ (h:Hd) (ho:okHd h):2≤(eO h).length:=by
 have h1:=fz (aK (h.wC.length:Int))
 have h2:=fz (aK (blen h.wt))
 simp only[eO,xf]
 omega
def jY:Pr (List Hd):=mi 2 pHd
theorem qt:Sp jY (fun l=>ci (aK (l.length:Int))++cJ eO l) (fun l=>aK (l.length:Int)<2 ^ (32:Int).toNat∧ ∀ h,h∈l→okHd h):=uk 2 Sp_hd sZ
theorem Sh_hd:Sh pHd:=uf.bind gb fun k=>nd.bind dj fun v=> .ret _
theorem Sh_hds:Sh jY:=ul 2 Sh_hd Sp_hd
theorem qZ (n:Int) (s:List UInt8) (hs:s.length≤1000000) (hn:n≤1000000): ∀ (m fuel k:Nat) (acc:List Hd) (q:Nat),((k+m:Nat):Int)=n→m<fuel→q≤s.length→acc.length=k →
 (∃ (e:Int) (st:I),gF pHd m s q= .error e∧bj n fuel [] acc k ⟨s.drop q,q,0⟩=some (.ret ([],st))∧st.err=e∧st.err≠0) ∨
 (∃ l r,gF pHd m s q= .ok (l,r)∧bj n fuel [] acc k ⟨s.drop q,q,0⟩=some (.go ([],acc++l,k+m,⟨s.drop r,r,0⟩))∧q≤r∧r≤s.length)
 | 0,fuel+1,k,acc,q,h1,h2,h3,h4=> .inr ⟨[],q,rfl,by rw[bj,if_neg (by omega),xN]; rfl,xB _,h3⟩
 | m+1,fuel+1,k,acc,q,h1,h2,h3,h4=>by
  rw[bj,if_pos (by omega)]
  rcases QN.run s q h3 with⟨e,st,p1,g1,x1,y1⟩ | ⟨nm,q1,p1,g1,n1,l1⟩
  ·left
   refine⟨e,st,by rw[gF,Pr.bind_err (show pHd s q= .error e from Pr.bind_err p1)],?_,x1,y1⟩
   rw[g1,xb]
   simp only
   rw[eS y1,xb]
   simp only
   rw[if_pos (by omega),bU,xb]
   simp only
   rw[if_neg y1]
  rw[g1,xb]
  simp only
  rcases QV.run s q1 l1 with⟨e,st,p2,g2,x2,y2⟩ | ⟨v,q2,p2,g2,n2,l2⟩
  ·left
   have ht:pHd s q= .error e:=by rw[pHd,Pr.bind_of p1,Pr.bind_err p2]
   refine⟨e,st,by rw[gF,Pr.bind_err ht],?_,x2,y2⟩
   rw[g2,xb]
   simp only
   rw[if_pos (by omega),bU,xb]
   simp only
   rw[if_neg y2]
  rw[g2,xb]
  simp only
  rw[if_pos (by omega),bU,xb]
  simp only[if_true]
  rw[if_pos (by omega)]
  have ht:pHd s q= .ok (⟨nm,v⟩,q2):=by rw[pHd,Pr.bind_of p1,Pr.bind_of p2]; rfl
  rw[gF,Pr.bind_of ht]
  rcases qZ n s hs hn m fuel (k+1) (acc ++ [(⟨nm,v⟩:Hd)]) q2 (by omega) (by omega) l2 (by rw[xf,h4]; rfl) with⟨e,st,r1,r2,r3,r4⟩ | ⟨l,r,r1,r2,r3,r4⟩
  ·exact .inl ⟨e,st,by rw[Pr.bind_err r1],r2,r3,r4⟩
  ·refine .inr ⟨⟨nm,v⟩::l,r,by rw[Pr.bind_of r1]; rfl,?_,by omega,r4⟩
   rw[r2,xq,show k+1+m=k+(m+1) by omega]
   rfl
theorem B_hds:CB aL jY []:=by
 refine⟨fun st h=> ?_,fun s q hs hq=> ?_⟩
 ·unfold aL
  rw[lC h,xb]
  simp only
  rw[bU,xb]
  simp only
  rw[if_neg h]
 ·unfold aL
  rcases qq.run s q hq with⟨e,st,p1,g1,x1,y1⟩ | ⟨c,q1,p1,g1,n1,l1⟩
  ·refine .inl ⟨e,st,Pr.bind_err (Pr.bind_err p1),?_,x1,y1⟩
   rw[g1,xb]
   simp only
   rw[bU,xb]
   simp only
   rw[if_neg y1]
  ·rw[g1,xb]
   simp only
   rw[bU,xb]
   simp only[if_true]
   have hd:(s.drop q1).length=s.length - q1:=xe
   have hE:jY s q=((jW 2 c).bind fun n=>gF pHd n.toNat) s q1:=by
    unfold jY mi gc Pr.bind
    rw[p1]
   rw[hE]
   unfold Pr.bind jW
   by_cases hn:c<0
   ·rw[if_pos hn,if_pos hn]
    exact .inl ⟨4,_,rfl,rfl,rfl,by simp[cx]⟩
   rw[if_neg hn,if_neg hn,lR,xb]
   simp only
   rw[hd,if_pos (show 0≤((s.length - q1:Nat):Int)∧((s.length - q1:Nat):Int)≤9223372036854775807 by omega)]
   by_cases hc:0<2∧((s.length - q1:Nat):Int) / ((2:Nat):Int)<c
   ·have hc2:c>((s.length - q1:Nat):Int) / 2:=hc.2
    rw[if_pos hc,if_pos hc2]
    exact .inl ⟨1,_,rfl,rfl,rfl,by simp[cx]⟩
   ·have hc2: ¬ c>((s.length - q1:Nat):Int) / 2:=fun h=>hc ⟨by decide,h⟩
    rw[if_neg hc,if_neg hc2]
    simp only
    rcases qZ c s hs (by omega) c.toNat (c.toNat+1) 0 [] q1 (by omega) (by omega) l1 rfl with⟨e,st,r1,r2,r3,r4⟩ | ⟨l,r,r1,r2,r3,r4⟩
    ·exact .inl ⟨e,st,r1,by rw[r2]; rfl,r3,r4⟩
    ·refine .inr ⟨l,r,r1,?_,by omega,r4⟩
     rw[r2,xy]
     rfl
theorem qu (s:List UInt8) (q:Nat) (bs:Int) (hb:bs=32∨bs=64) (hq:q≤s.length) (hs:s.length≤1000000) :
 (∃ e,d9 bs s q= .error e∧e≠0∧kQ (s.drop q) bs=some (0,0,e))∨(∃ (n r:Nat),d9 bs s q= .ok (n,r)∧q≤r∧r≤s.length∧n<2 ^ bs.toNat∧kQ (s.drop q) bs=some ((n:Int),((r - q:Nat):Int),0)):=by
 rw[sA _ _ ⟨hb,by rw[xe]; omega⟩]
 unfold ei
 by_cases he:(vgo bs (s.drop q) 0 0 0).2.err=0
 ·have hp:d9 bs s q= .ok ((vgo bs (s.drop q) 0 0 0).1,q+(vgo bs (s.drop q) 0 0 0).2.pos):=by unfold d9; rw[if_pos he]
  have hs:=(lA bs hb).spell _ _ _ _ hq hp
  rw[if_pos he]
  exact .inr ⟨_,_,hp,hs.1,hs.2.1,hs.2.2.2.2,by simp only; rw[show q+(vgo bs (s.drop q) 0 0 0).2.pos - q=(vgo bs (s.drop q) 0 0 0).2.pos by omega]⟩
 ·have hp:d9 bs s q= .error (vgo bs (s.drop q) 0 0 0).2.err:=by unfold d9; rw[if_neg he]
  rw[if_neg he]
  exact .inl ⟨_,hp,he,rfl⟩
theorem ne (n:Int) (s:List UInt8) (hs:s.length≤1000000): ∀ (m fuel k:Nat) (acc:List Hd) (q:Nat),((k+m:Nat):Int)=n→m<fuel→n≤1000000→q≤s.length→acc.length=k →
 cy s n fuel [] 0 0 (q:Int) acc k=some (match gF pHd m s q with | .error e=> .ret ([],0,e) | .ok (l,r)=> .go ([],0,0,(r:Int),acc++l,k+m))
 | 0,fuel+1,k,acc,q,h1,h2,hn,h3,h4=>by
  rw[cy,if_neg (by omega)]
  simp[gF,Pr.ret]
 | m+1,fuel+1,k,acc,q,h1,h2,hn,h3,h4=>by
  rw[cy,if_pos (by omega),if_pos (by omega),xC,eC _ (by rw[xe]; omega),xb]
  rcases gE s q h3 with⟨e,g1,g2,g3⟩ | ⟨b,q1,g1,g2,g3,g4⟩
  ·have ht:pHd s q= .error e:=by rw[pHd,Pr.bind_err]; rw[fa,gD,Pr.bind_err g1]
   rw[g3,gF,Pr.bind_err ht]
   simp only
   rw[if_neg g2]
  rw[g4]
  simp only[if_true]
  by_cases hb:b.null=true
  ·have ht:pHd s q= .error 4:=by
    rw[pHd,Pr.bind_err]
    rw[fa,gD,Pr.bind_of g1,if_pos hb]
    rfl
   rw[if_pos hb,gF,Pr.bind_err ht]
  have hx:fa s q= .ok (b.data,q1):=by
   rw[fa,gD,Pr.bind_of g1,if_neg hb]
   rfl
  rw[if_neg hb,if_pos (by omega),if_pos (by omega),show ((q:Int)+((q1 - q:Nat):Int))=(q1:Int) by omega,xC,eC _ (by rw[xe]; omega),xb]
  rcases gE s q1 g3 with⟨e,k1,k2,k3⟩ | ⟨v,q2,k1,k2,k3,k4⟩
  ·have ht:pHd s q= .error e:=by rw[pHd,Pr.bind_of hx,Pr.bind_err k1]
   rw[k3,gF,Pr.bind_err ht]
   simp only
   rw[if_neg k2]
  rw[k4]
  simp only[if_true]
  have ht:pHd s q= .ok (⟨b.data,v⟩,q2):=by rw[pHd,Pr.bind_of hx,Pr.bind_of k1]; rfl
  rw[if_pos (by omega),if_pos (by omega),if_pos (by omega),if_pos (by omega),show ((q1:Int)+((q2 - q1:Nat):Int))=(q2:Int) by omega,gF,Pr.bind_of ht,ne n s hs m fuel (k+1) (acc ++ [(⟨b.data,v⟩:Hd)]) q2 (by omega) (by omega) hn k3 (by rw[xf,h4]; rfl)]
  cases hr:gF pHd m s q2 with
  | error e=>rw[Pr.bind_err hr]
  | ok x =>
   rw[Pr.bind_of (a:=x.1) (r:=x.2) hr]
   simp only[Pr.ret,xq,List.cons_append,xy,show k+1+m=k+(m+1) by omega]
theorem s6 (s:List UInt8) (hs:s.length≤1000000):fH s=some (match jY s 0 with | .error e=>([],0,e) | .ok (l,r)=>(l,(r:Int),0)):=by
 unfold fH
 have hg:=qu s 0 32 (.inl rfl) (xH _) hs
 rw[List.drop_zero] at hg
 rcases hg with⟨e,p1,e1,g1⟩ | ⟨n,r,p1,r0,r1,r2,g1⟩
 ·rw[g1,show jY s 0= .error e from Pr.bind_err (Pr.bind_err (Pr.bind_err p1)),xb]
  simp only
  rw[if_neg e1]
 ·have hv:dP 32 s 0= .ok (bW n,r):=by rw[dP,Pr.bind_of p1]; rfl
  have hE:jY s 0=((jW 2 (bW n)).bind fun n=>gF pHd n.toNat) s r:=by
   unfold jY mi gc Pr.bind
   rw[hv]
  rw[show 2 ^ (32:Int).toNat=4294967296 by decide] at r2
  rw[g1,xb]
  simp only[if_true]
  rw[kf _ (by omega),xb,xC,hE]
  generalize bW n=c
  unfold Pr.bind jW
  by_cases hn:c<0
  ·rw[if_pos hn,if_pos hn]
  rw[if_neg hn,if_neg hn,if_pos (show -9223372036854775808≤(s.length:Int) - ((r - 0:Nat):Int)∧(s.length:Int) - ((r - 0:Nat):Int)≤9223372036854775807 by omega),if_pos (show 0≤(s.length:Int) - ((r - 0:Nat):Int)∧(s.length:Int) - ((r - 0:Nat):Int)≤9223372036854775807 by omega),show (s.length:Int) - ((r - 0:Nat):Int)=((s.length - r:Nat):Int) by omega]
  by_cases hc:0<2∧((s.length - r:Nat):Int) / ((2:Nat):Int)<c
  ·have hc2:c>((s.length - r:Nat):Int) / 2:=hc.2
   rw[if_pos hc,if_pos hc2]
  ·have hc2: ¬ c>((s.length - r:Nat):Int) / 2:=fun h=>hc ⟨by decide,h⟩
   rw[if_neg hc,if_neg hc2]
   simp only
   have hl:=ne c s hs c.toNat (c.toNat+1) 0 [] r (by omega) (by omega) (by omega) r1 rfl
   rw[show ((r - 0:Nat):Int)=(r:Int) by omega,hl]
   cases hr:gF pHd c.toNat s r with
   | error e=>rfl
   | ok x=>rfl
def hwt (h:Hd):Nat:=20+h.wC.length+h.wt.data.length
def hwts:List Hd→Nat
 | []=>0
 | h::l=>hwt h+hwts l
theorem ra:CQ fC (dP 64) 0:=(nX 64 (.inr rfl)).cq (ec 64 (.inr rfl))
theorem pg {st:I} (h:st.err≠0):fC st=some (0,st):=ra.dead st h
theorem dQ {st:I} (h:st.err≠0):cF st=some (st.err,st):=by rw[eQ,lQ h]
def iA:Pr Unit:=fun s q=>if q=s.length then .ok ((),q) else .error 2
def mj:Rec:=⟨0,0,⟨false,[]⟩,⟨false,[]⟩,[]⟩
def i4:Pr Rec:=(gl 1).bind fun z=>if z=0 then (dP 64).bind fun t=>(dP 32).bind fun o=>if o<0 then .err 11 else dw.bind fun k=>dw.bind fun v=>jY.bind fun h=>iA.bind fun _=> .ret ⟨t,o,k,v,h⟩ else .err 8
def ml (st9:I):Option (Rec×Int):=(eJ st9 1).bind fun (x12,st13)=>if x12=0 then ((fC st13).bind fun (x16,st17)=>(g6 st17).bind fun (x19,st20)=>if x19<0 then ((bi st20 11).bind fun st24=>(aY st24).bind fun (x26,st27)=>(aY st27).bind fun (x29,st30)=>(aL st30).bind fun (x32,st35)=>(cF st35).bind fun (x37,st38)=>some ((⟨x16,x19,x26,x29,x32⟩:Rec),x37)) else ((aY st20).bind fun (x43,st44)=>(aY st44).bind fun (x46,st47)=>(aL st47).bind fun (x49,st52)=>(cF st52).bind fun (x54,st55)=>some ((⟨x16,x19,x43,x46,x49⟩:Rec),x54))) else ((bi st13 8).bind fun st60=>(fC st60).bind fun (x62,st63)=>(g6 st63).bind fun (x65,st66)=>if x65<0 then ((bi st66 11).bind fun st70=>(aY st70).bind fun (x72,st73)=>(aY st73).bind fun (x75,st76)=>(aL st76).bind fun (x78,st81)=>(cF st81).bind fun (x83,st84)=>some ((⟨x62,x65,x72,x75,x78⟩:Rec),x83)) else ((aY st66).bind fun (x89,st90)=>(aY st90).bind fun (x92,st93)=>(aL st93).bind fun (x95,st98)=>(cF st98).bind fun (x100,st101)=>some ((⟨x62,x65,x89,x92,x95⟩:Rec),x100)))
theorem ph (s:List UInt8) (hs:s.length≤1000000):(∃ e x,i4 s 0= .error e∧ml ⟨s,0,0⟩=some (x,e)∧e≠0)∨(∃ x,i4 s 0= .ok (x,s.length)∧ml ⟨s,0,0⟩=some (x,0)):=by
 unfold ml i4
 have r0:=Q1.run s 0 (xH _)
 rw[List.drop_zero] at r0
 have hB:=B_hds
 rcases r0 with⟨e,st,p0,g0,x0,y0⟩ | ⟨z,q0,p0,g0,n0,l0⟩
 ·refine .inl ⟨e,⟨0,0,⟨false,[]⟩,⟨false,[]⟩,[]⟩,Pr.bind_err p0,?_,by rw[← x0]; exact y0⟩
  rw[g0]
  simp only[xb,if_true,pg y0,lC y0,eS y0,hB.dead _ y0,dQ y0,x0,show ¬ (0:Int)<0 by decide,if_false]
 rw[g0,xb]
 simp only
 by_cases hz:z=0
 ·rw[if_pos hz,Pr.bind_of p0,if_pos hz]
  rcases ra.run s q0 l0 with⟨e,st,p1,g1,x1,y1⟩ | ⟨a,q1,p1,g1,n1,l1⟩
  ·refine .inl ⟨e,⟨0,0,⟨false,[]⟩,⟨false,[]⟩,[]⟩,Pr.bind_err p1,?_,by rw[← x1]; exact y1⟩
   rw[g1]
   simp only[xb,if_true,lC y1,eS y1,hB.dead _ y1,dQ y1,x1,show ¬ (0:Int)<0 by decide,if_false]
  rw[g1,xb,Pr.bind_of p1]
  simp only
  rcases qq.run s q1 l1 with⟨e,st,p2,g2,x2,y2⟩ | ⟨o,q2,p2,g2,n2,l2⟩
  ·refine .inl ⟨e,⟨a,0,⟨false,[]⟩,⟨false,[]⟩,[]⟩,Pr.bind_err p2,?_,by rw[← x2]; exact y2⟩
   rw[g2]
   simp only[xb,if_true,eS y2,hB.dead _ y2,dQ y2,x2,show ¬ (0:Int)<0 by decide,if_false]
  rw[g2,xb,Pr.bind_of p2]
  simp only
  by_cases ho:o<0
  ·rw[if_pos ho,if_pos ho,dS,xb,qV]
   have y:(⟨s.drop q2,q2,11⟩:I).err≠0:=by simp
   refine .inl ⟨11,⟨a,o,⟨false,[]⟩,⟨false,[]⟩,[]⟩,rfl,?_,by decide⟩
   simp only[xb,eS y,hB.dead _ y,dQ y]
  rw[if_neg ho,if_neg ho]
  rcases QV.run s q2 l2 with⟨e,st,p3,g3,x3,y3⟩ | ⟨k,q3,p3,g3,n3,l3⟩
  ·refine .inl ⟨e,⟨a,o,⟨false,[]⟩,⟨false,[]⟩,[]⟩,Pr.bind_err p3,?_,by rw[← x3]; exact y3⟩
   rw[g3]
   simp only[xb,eS y3,hB.dead _ y3,dQ y3,x3]
  rw[g3,xb,Pr.bind_of p3]
  simp only
  rcases QV.run s q3 l3 with⟨e,st,p4,g4,x4,y4⟩ | ⟨v,q4,p4,g4,n4,l4⟩
  ·refine .inl ⟨e,⟨a,o,k,⟨false,[]⟩,[]⟩,Pr.bind_err p4,?_,by rw[← x4]; exact y4⟩
   rw[g4]
   simp only[xb,hB.dead _ y4,dQ y4,x4]
  rw[g4,xb,Pr.bind_of p4]
  simp only
  rcases hB.run s q4 hs l4 with⟨e,st,p5,g5,x5,y5⟩ | ⟨h,q5,p5,g5,n5,l5⟩
  ·refine .inl ⟨e,⟨a,o,k,v,[]⟩,Pr.bind_err p5,?_,by rw[← x5]; exact y5⟩
   rw[g5]
   simp only[xb,dQ y5,x5]
  rw[g5,xb,Pr.bind_of p5]
  simp only
  rw[eQ,xb]
  simp only
  by_cases hq:q5=s.length
  ·have he:iA s q5= .ok ((),q5):=by unfold iA; rw[if_pos hq]
   have hi:(dm ⟨s.drop q5,q5,0⟩).err=0:=by rw[hq,List.drop_length]; rfl
   rw[Pr.bind_of he,hi]
   exact .inr ⟨⟨a,o,k,v,h⟩,by rw[hq]; rfl,rfl⟩
  ·have he:iA s q5= .error 2:=by unfold iA; rw[if_neg hq]
   have hi:(dm ⟨s.drop q5,q5,0⟩).err=2:=by
    unfold dm
    rw[if_neg]
    ·rfl
    ·intro h0
     have:=List.drop_eq_nil_iff.1 h0
     omega
   rw[Pr.bind_err he,hi]
   exact .inl ⟨2,_,rfl,rfl,by decide⟩
 ·rw[if_neg hz,Pr.bind_of p0,if_neg hz,dS,xb,qV]
  have y:(⟨s.drop q0,q0,8⟩:I).err≠0:=by simp
  refine .inl ⟨8,⟨0,0,⟨false,[]⟩,⟨false,[]⟩,[]⟩,rfl,?_,by decide⟩
  simp only[xb,if_true,pg y,lC y,eS y,hB.dead _ y,dQ y,show ¬ (0:Int)<0 by decide,if_false]
def n8:Pr Rec:=fun s q=>match fa s q with
 | .error e=> .error e
 | .ok (d,r)=>match i4 d 0 with
  | .error e=> .error e
  | .ok (x,_)=> .ok (x,r)
theorem ng (st9 st6:I) (x:Rec) (e:Int) (h:ml st9=some (x,e)):((eJ st9 1).bind fun (x12,st13)=>if x12=0 then ((fC st13).bind fun (x16,st17)=>(g6 st17).bind fun (x19,st20)=>if x19<0 then ((bi st20 11).bind fun st24=>(aY st24).bind fun (x26,st27)=>(aY st27).bind fun (x29,st30)=>(aL st30).bind fun (x32,st35)=>(cF st35).bind fun (x37,st38)=>if x37=0 then (some ((⟨x16,x19,x26,x29,x32⟩:Rec),st6)) else ((bi st6 x37).bind fun st41=>some (mj,st41))) else ((aY st20).bind fun (x43,st44)=>(aY st44).bind fun (x46,st47)=>(aL st47).bind fun (x49,st52)=>(cF st52).bind fun (x54,st55)=>if x54=0 then (some ((⟨x16,x19,x43,x46,x49⟩:Rec),st6)) else ((bi st6 x54).bind fun st58=>some (mj,st58)))) else ((bi st13 8).bind fun st60=>(fC st60).bind fun (x62,st63)=>(g6 st63).bind fun (x65,st66)=>if x65<0 then ((bi st66 11).bind fun st70=>(aY st70).bind fun (x72,st73)=>(aY st73).bind fun (x75,st76)=>(aL st76).bind fun (x78,st81)=>(cF st81).bind fun (x83,st84)=>if x83=0 then (some ((⟨x62,x65,x72,x75,x78⟩:Rec),st6)) else ((bi st6 x83).bind fun st87=>some (mj,st87))) else ((aY st66).bind fun (x89,st90)=>(aY st90).bind fun (x92,st93)=>(aL st93).bind fun (x95,st98)=>(cF st98).bind fun (x100,st101)=>if x100=0 then (some ((⟨x62,x65,x89,x92,x95⟩:Rec),st6)) else ((bi st6 x100).bind fun st104=>some (mj,st104)))))=if e=0 then some (x,st6) else some (mj,cx st6 e):=by
 unfold ml at h
 revert h
 have hop: ∀ (o:Option (List Hd×I)) (f:List Hd→Rec),((o.bind fun (a,s1)=>(cF s1).bind fun (b,s2)=>some (f a,b))=some (x,e))→(o.bind fun (a,s1)=>(cF s1).bind fun (b,s2)=>if b=0 then some (f a,st6) else (bi st6 b).bind fun s3=>some (mj,s3))=if e=0 then some (x,st6) else some (mj,cx st6 e):=by
  intro o f h
  cases o with
  | none=>exact nomatch h
  | some y =>
   rw[xb] at h ⊢
   simp only[eQ,xb] at h ⊢
   injection h with h
   obtain⟨rfl,rfl⟩:=xQ h
   by_cases hz:(dm y.2).err=0
   ·rw[if_pos hz,if_pos hz]
   ·rw[if_neg hz,if_neg hz]
    rfl
 simp only[f6,rK,sy,qb,dS,xb]
 intro h
 split at h
 ·rename_i h1
  rw[if_pos h1]
  split at h
  ·rename_i h2
   rw[if_pos h2]
   exact hop _ (fun a=>⟨_,_,_,_,a⟩) h
  ·rename_i h2
   rw[if_neg h2]
   exact hop _ (fun a=>⟨_,_,_,_,a⟩) h
 ·rename_i h1
  rw[if_neg h1]
  split at h
  ·rename_i h2
   rw[if_pos h2]
   exact hop _ (fun a=>⟨_,_,_,_,a⟩) h
  ·rename_i h2
   rw[if_neg h2]
   exact hop _ (fun a=>⟨_,_,_,_,a⟩) h
theorem B_rec:CB dD n8 mj:=by
 refine⟨fun st h=> ?_,fun s q hs hq=> ?_⟩
 ·unfold dD
  rw[uj h,xb]
  simp only
  rw[bU,xb]
  simp only
  rw[if_neg h]
  rfl
 ·unfold dD n8
  rcases QN.run s q hq with⟨e,st,p1,g1,x1,y1⟩ | ⟨d,r,p1,g1,n1,l1⟩
  ·refine .inl ⟨e,st,by rw[p1],?_,x1,y1⟩
   rw[g1,xb]
   simp only
   rw[bU,xb]
   simp only
   rw[if_neg y1]
   rfl
  ·have hsp:=gb.spell _ _ _ _ hq p1
   have hdl:d.length≤1000000:=by
    have:=hsp.2.2.1
    rw[xf] at this
    omega
   rw[g1,p1,xb]
   simp only
   rw[bU,xb]
   simp only[if_true]
   rw[fZ _ (by omega),xb]
   rcases ph d hdl with⟨e,x,b1,b2,b3⟩ | ⟨x,b1,b2⟩
   ·have hb:=ng ⟨d,0,0⟩ ⟨s.drop r,r,0⟩ x e b2
    rw[if_neg b3] at hb
    rw[b1]
    exact .inl ⟨e,_,rfl,hb,rfl,b3⟩
   ·have hb:=ng ⟨d,0,0⟩ ⟨s.drop r,r,0⟩ x 0 b2
    rw[if_pos rfl] at hb
    rw[b1]
    exact .inr ⟨x,r,rfl,hb,n1,l1⟩
def g8 (b:Bl):List UInt8:=ci (aK (blen b))++b.data
def kV (l:List Hd):List UInt8:=ci (aK (l.length:Int))++cJ eO l
def bP (x:Rec):List UInt8:=be 0 1++(ci (aK x.wK)++(ci (aK x.wD)++(g8 x.wC++(g8 x.wt++kV x.wy))))
def okBl (b:Bl):Prop:=aK (blen b)<2 ^ (32:Int).toNat∧bb b=true
def okHs (l:List Hd):Prop:=aK (l.length:Int)<2 ^ (32:Int).toNat∧ ∀ h,h∈l→okHd h
def nh (x:Rec):Prop:=aK x.wK<2 ^ (64:Int).toNat∧(aK x.wD<2 ^ (32:Int).toNat∧0≤x.wD)∧okBl x.wC∧okBl x.wt∧okHs x.wy
theorem qv {s:List UInt8} {x:Rec} {r:Nat} (h:i4 s 0= .ok (x,r)):s=bP x∧nh x:=by
 obtain⟨z,q0,h0,h⟩:=Pr.bind_ok h
 split at h
 ·rename_i hz
  subst hz
  obtain⟨t,q1,h1,h⟩:=Pr.bind_ok h
  obtain⟨o,q2,h2,h⟩:=Pr.bind_ok h
  split at h
  ·exact nomatch h
  ·rename_i ho
   obtain⟨k,q3,h3,h⟩:=Pr.bind_ok h
   obtain⟨v,q4,h4,h⟩:=Pr.bind_ok h
   obtain⟨hs,q5,h5,h⟩:=Pr.bind_ok h
   obtain⟨u,q6,h6,h⟩:=Pr.bind_ok h
   injection h with h
   obtain⟨rfl,rfl⟩:=xQ h
   obtain⟨-,a2,-,a4,a5⟩:=(nW 1 (by decide) (by decide)).spell _ _ _ _ (xH _) h0
   obtain⟨-,b2,-,b4,b5⟩:=(ec 64 (.inr rfl)).spell _ _ _ _ a2 h1
   obtain⟨-,c2,-,c4,c5⟩:=(ec 32 (.inl rfl)).spell _ _ _ _ b2 h2
   obtain⟨-,d2,-,d4,d5⟩:=dj.spell _ _ _ _ c2 h3
   obtain⟨-,e2,-,e4,e5⟩:=dj.spell _ _ _ _ d2 h4
   obtain⟨-,f2,-,f4,f5⟩:=qt.spell _ _ _ _ e2 h5
   have hq:q5=s.length:=by
    unfold iA at h6
    split at h6
    ·rename_i hh; exact hh
    ·exact nomatch h6
   refine⟨?_,b5,⟨c5,by simp only; omega⟩,d5,e5,f5⟩
   have hs2:s=s.take q5:=by rw[hq,List.take_length]
   rw[hs2,f4,e4,d4,c4,b4,a4]
   simp only[bP,g8,kV,xq,List.take_zero,xy]
 ·exact nomatch h
theorem SpV:Sp dw g8 okBl:=dj
theorem SpH:Sp jY kV okHs:=qt
theorem r8 {x:Rec} (h:nh x):i4 (bP x) 0= .ok (x,(bP x).length):=by
 obtain⟨h1,⟨h2,h3⟩,h4,h5,h6⟩:=h
 have hd:(bP x).drop 0=bP x:=rfl
 have hlen:(bP x).length=1+((ci (aK x.wK)).length+((ci (aK x.wD)).length+((g8 x.wC).length+((g8 x.wt).length+(kV x.wy).length)))):=by
  simp only[bP,xf,cC]
 generalize hE:bP x=E at hd hlen ⊢
 have hh:E.drop 0=be 0 1++(ci (aK x.wK)++(ci (aK x.wD)++(g8 x.wC++(g8 x.wt++(kV x.wy ++ []))))):=by
  rw[hd,← hE]
  simp only[bP,xN]
 have g0:=(nW 1 (by decide) (by decide)).back _ _ _ 0 (xH _) (by decide) hh
 have hh:=cM hh
 rw[cC] at hh g0
 have g1:=(ec 64 (.inr rfl)).back _ _ _ _ (by omega) h1 hh
 have hh:=cM hh
 have g2:=(ec 32 (.inl rfl)).back _ _ _ _ (by omega) h2 hh
 have hh:=cM hh
 have g3:=SpV.back _ _ _ _ (by omega) h4 hh
 have hh:=cM hh
 have g4:=SpV.back _ _ _ _ (by omega) h5 hh
 have hh:=cM hh
 have g5:=SpH.back _ _ _ _ (by omega) h6 hh
 rw[i4,Pr.bind_of g0,if_pos rfl,Pr.bind_of g1,Pr.bind_of g2,if_neg (by omega),Pr.bind_of g3,Pr.bind_of g4,Pr.bind_of g5]
 have he:0+1+(ci (aK x.wK)).length+(ci (aK x.wD)).length+(g8 x.wC).length+(g8 x.wt).length+(kV x.wy).length=E.length:=by omega
 rw[he,Pr.bind_of (a:=()) (r:=E.length) (by unfold iA; rw[if_pos rfl])]
 rfl
def dk (x:Rec):List UInt8:=ci (aK ((bP x).length:Int))++bP x
theorem n9:Sp n8 dk (fun x=>nh x∧aK ((bP x).length:Int)<2 ^ (32:Int).toNat):=by
 refine⟨fun s q a r hq h=> ?_,fun s t q a hq ha h=> ?_⟩
 ·unfold n8 at h
  cases hp:fa s q with
  | error e=>rw[hp] at h; exact nomatch h
  | ok y =>
   obtain⟨d,r'⟩:=y
   rw[hp] at h
   simp only at h
   obtain⟨a1,a2,a3,a4,a5⟩:=gb.spell _ _ _ _ hq hp
   cases hb:i4 d 0 with
   | error e=>rw[hb] at h; exact nomatch h
   | ok z =>
    rw[hb] at h
    injection h with h
    obtain⟨rfl,rfl⟩:=xQ h
    obtain⟨b1,b2⟩:=qv (x:=z.1) (r:=z.2) hb
    unfold dk
    rw[← b1]
    exact⟨a1,a2,a3,a4,b2,a5.1⟩
 ·have g1:=gb.back s t q (bP a) hq ⟨ha.2,rfl⟩ h
  unfold n8
  rw[g1]
  simp only
  rw[r8 ha.1]
  rfl
def gotOf (p:Except Int (Rec×Nat)) (m:Int):gf:=match p with | .error e=>⟨mj,m,e⟩ | .ok (x,_)=>⟨x,m,0⟩
theorem pi (e:Int):bm e=some ⟨mj,0,e⟩:=rfl
theorem kz (s:List UInt8) (q r:Nat) (h:q≤r):(s.drop q).drop ((r - q:Nat):Int).toNat=s.drop r:=by
 rw[xC,xM]
 congr 1
 omega
theorem um {s:List UInt8} {q:Nat} {e:Int} (hs:s.length≤1000000) (hq:q≤s.length) (h:jY s q= .error e):e≠0:=B_hds.nz s q e hs hq h
theorem s7 (s:List UInt8) (hs:s.length≤1000000):e7 s=some (gotOf (i4 s 0) 0):=by
 unfold e7 i4
 simp only[pi]
 by_cases h1:(s.length:Int)<1
 ·rw[if_pos h1,Pr.bind_err (e:=1) (by unfold gl; rw[if_pos (by omega)])]
  rfl
 rw[if_neg h1]
 obtain⟨c,t,rfl⟩: ∃ c t,s=c::t:=by cases s with | nil=>exact absurd (by simp) h1 | cons c t=>exact⟨c,t,rfl⟩
 have hc:=c.toNat_lt
 have p0:gl 1 (c::t) 0= .ok (sgn c,1):=by
  unfold gl
  rw[if_neg (by simp only[xw]; omega)]
  rfl
 rw[show (c::t)[0]? = some c from rfl,xb,Pr.bind_of p0]
 by_cases hz:(c.toNat:Int)=0
 ·have hz2:sgn c=0:=by unfold sgn; split <;> omega
  rw[if_pos hz,if_pos hz2,if_pos (by simp only[xw]; omega)]
  generalize hS:c::t=S at hs h1 ⊢
  have hl:1≤S.length:=by omega
  rcases qu S 1 64 (.inr rfl) hl hs with⟨e,p1,e1,g1⟩ | ⟨a,q1,p1,a0,a1,a2,g1⟩
  ·rw[g1,Pr.bind_err (show dP 64 S 1= .error e from Pr.bind_err p1),xb]
   simp only
   rw[if_neg e1]
   rfl
  have v1:dP 64 S 1= .ok (bW a,q1):=by rw[dP,Pr.bind_of p1]; rfl
  rw[g1,Pr.bind_of v1,xb]
  simp only[if_true]
  rw[if_pos (show -9223372036854775808≤1+((q1 - 1:Nat):Int)∧1+((q1 - 1:Nat):Int)≤9223372036854775807 by omega),show (1+((q1 - 1:Nat):Int))=(q1:Int) by omega,if_pos (show 0≤(q1:Int)∧((q1:Int)).toNat≤S.length by omega),xC]
  rcases qu S q1 32 (.inl rfl) a1 hs with⟨e,p2,e2,g2⟩ | ⟨b,q2,p2,b0,b1,b2,g2⟩
  ·rw[g2,Pr.bind_err (show dP 32 S q1= .error e from Pr.bind_err p2),xb]
   simp only
   rw[if_neg e2]
   rfl
  have v2:dP 32 S q1= .ok (bW b,q2):=by rw[dP,Pr.bind_of p2]; rfl
  have la:a<18446744073709551616:=by rw[show 2 ^ (64:Int).toNat=18446744073709551616 by decide] at a2; exact a2
  have lb:b<18446744073709551616:=by rw[show 2 ^ (32:Int).toNat=4294967296 by decide] at b2; omega
  rw[g2,Pr.bind_of v2,xb]
  simp only[if_true]
  rw[kf _ (by omega),xb,kf _ (by omega),xb,show ((a:Int)).toNat=a from xC a,show ((b:Int)).toNat=b from xC b]
  generalize bW a=T
  generalize bW b=O
  by_cases ho:O<0
  ·rw[if_pos ho,if_pos ho]
   rfl
  have d1:(S.drop q1).length=S.length - q1:=xe
  rw[if_neg ho,if_neg ho,if_pos (show 0≤((q2 - q1:Nat):Int)∧(((q2 - q1:Nat):Int)).toNat≤(S.drop q1).length by omega),kz S q1 q2 b0,eC _ (by rw[xe]; omega),xb]
  rcases gE S q2 b1 with⟨e,p3,e3,g3⟩ | ⟨k,q3,p3,k0,k1,g3⟩
  ·rw[g3,Pr.bind_err p3]
   simp only
   rw[if_neg e3]
   rfl
  rw[g3,Pr.bind_of p3]
  simp only[if_true]
  have d2:(S.drop q2).length=S.length - q2:=xe
  rw[if_pos (show 0≤((q3 - q2:Nat):Int)∧(((q3 - q2:Nat):Int)).toNat≤(S.drop q2).length by omega),kz S q2 q3 k0,eC _ (by rw[xe]; omega),xb]
  rcases gE S q3 k1 with⟨e,p4,e4,g4⟩ | ⟨v,q4,p4,v0,v1',g4⟩
  ·rw[g4,Pr.bind_err p4]
   simp only
   rw[if_neg e4]
   rfl
  rw[g4,Pr.bind_of p4]
  simp only[if_true]
  have d3:(S.drop q3).length=S.length - q3:=xe
  have d4:(S.drop q4).length=S.length - q4:=xe
  rw[if_pos (show 0≤((q4 - q3:Nat):Int)∧(((q4 - q3:Nat):Int)).toNat≤(S.drop q3).length by omega),kz S q3 q4 v0,s6 _ (by omega),xb]
  have hsh:=Sh_hds.zero (s:=S) (q:=q4) v1'
  cases hp:jY (S.drop q4) 0 with
  | error e =>
   rw[hp] at hsh
   have he:=um hs v1' hsh
   rw[Pr.bind_err hsh]
   simp only
   rw[if_neg he]
   rfl
  | ok x =>
   obtain⟨l,m⟩:=x
   rw[hp] at hsh
   have hsh:jY S q4= .ok (l,q4+m):=hsh
   have hm:=(qt.spell _ _ _ _ (xH _) hp).2.1
   rw[Pr.bind_of hsh]
   simp only[if_true]
   by_cases hq:(m:Int)=((S.drop q4).length:Int)
   ·have he:iA S (q4+m)= .ok ((),q4+m):=by unfold iA; rw[if_pos (by omega)]
    rw[if_pos hq,Pr.bind_of he]
    rfl
   ·have he:iA S (q4+m)= .error 2:=by unfold iA; rw[if_neg (by omega)]
    rw[if_neg hq,Pr.bind_err he]
    rfl
 ·have hz2: ¬ sgn c=0:=by unfold sgn; split <;> omega
  rw[if_neg hz,if_neg hz2]
  rfl
theorem s8 (s:List UInt8) (q:Nat) (hq:q≤s.length) (hs:s.length≤1000000):(∃ e m,n8 s q= .error e∧e≠0∧eR (s.drop q)=some ⟨mj,m,e⟩)∨(∃ x r,n8 s q= .ok (x,r)∧q≤r∧r≤s.length∧eR (s.drop q)=some ⟨x,((r - q:Nat):Int),0⟩):=by
 unfold eR n8
 simp only[pi]
 rw[eC _ (by rw[xe]; omega),xb]
 rcases gE s q hq with⟨e,p3,e3,g3⟩ | ⟨b,r,p3,k0,k1,g3⟩
 ·have hn:fa s q= .error e:=by rw[fa,gD,Pr.bind_err p3]
  rw[g3,hn]
  simp only
  rw[if_neg e3]
  exact .inl ⟨e,0,rfl,e3,rfl⟩
 rw[g3]
 simp only[if_true]
 by_cases hb:b.null=true
 ·have hn:fa s q= .error 4:=by rw[fa,gD,Pr.bind_of p3,if_pos hb]; rfl
  rw[if_pos hb,hn]
  exact .inl ⟨4,0,rfl,by decide,rfl⟩
 have hn:fa s q= .ok (b.data,r):=by rw[fa,gD,Pr.bind_of p3,if_neg hb]; rfl
 have hsp:=gb.spell _ _ _ _ hq hn
 have hdl:b.data.length≤1000000:=by
  have:=hsp.2.2.1
  rw[xf] at this
  omega
 rw[if_neg hb,hn,s7 _ hdl,xb]
 simp only
 rcases ph b.data hdl with⟨e,x,b1,b2,b3⟩ | ⟨x,b1,b2⟩
 ·rw[b1]
  exact .inl ⟨e,_,rfl,b3,rfl⟩
 ·rw[b1]
  exact .inr ⟨x,r,rfl,k0,k1,rfl⟩
def rwt (x:Rec):Nat:=x.wC.data.length+x.wt.data.length+hwts x.wy
def s9 (a b:Hd):Bool:=decide (a.wC=b.wC) && decide (a.wt.null=b.wt.null) && decide (a.wt.data=b.wt.data)
def fh:List Hd→List Hd→Bool
 | [],[]=>true
 | a::l,b::m=>s9 a b && fh l m
 | _,_=>false
theorem kW: ∀ l:List Hd,fh l l=true
 | []=>rfl
 | a::l=>by rw[fh,kW l]; simp[s9]
theorem mn: ∀ (l m:List Hd),fh l m=true→l.length=m.length
 | [],[],h=>rfl
 | [],b::m,h=>nomatch h
 | a::l,[],h=>nomatch h
 | a::l,b::m,h=>by
  rw[fh,Bool.and_eq_true] at h
  rw[xw,xw,mn l m h.2]
theorem ni (a b:List Hd) (ha:a.length≤1000000) (y:Bool): ∀ (t u:List Hd) (k fuel:Nat),a.drop k=t→b.drop k=u→t.length=u.length→t.length<fuel→ ∃ z,cz a b fuel y k=some (if fh t u=true then .go (y,z) else .ret false)
 | [],[],k,fuel+1,ht,hu,hl,hf=>by
  have:=en ht
  exact⟨k,by rw[cz,if_neg (by omega)]; rfl⟩
 | [],d::u,k,fuel,ht,hu,hl,hf=>by simp at hl
 | c::t,[],k,fuel,ht,hu,hl,hf=>by simp at hl
 | c::t,d::u,k,fuel+1,ht,hu,hl,hf=>by
  obtain⟨t1,t2,t3⟩:=dE ht
  obtain⟨u1,u2,u3⟩:=dE hu
  simp only[xw] at hl hf
  obtain⟨z,hz⟩:=ni a b ha y t u (k+1) fuel t2 u2 (by omega) (by omega)
  rw[cz,if_pos (by omega),t1,xb,u1,xb,fh,s9]
  by_cases h1:c.wC=d.wC
  ·rw[if_pos h1,wY h1]
   by_cases h2:c.wt.null=d.wt.null
   ·rw[if_pos h2,wY h2]
    by_cases h3:c.wt.data=d.wt.data
    ·rw[if_pos h3,wY h3,if_pos (by omega)]
     exact⟨z,hz⟩
    ·rw[if_neg h3,wZ h3]
     exact⟨0,rfl⟩
   ·rw[if_neg h2,wZ h2]
    exact⟨0,rfl⟩
  ·rw[if_neg h1,wZ h1]
   exact⟨0,rfl⟩
theorem ta (a b:List Hd) (ha:a.length≤1000000):fI a b=some (fh a b):=by
 unfold fI
 by_cases hl:(a.length:Int)=(b.length:Int)
 ·obtain⟨z,hz⟩:=ni a b ha false a b 0 (((a.length:Int)).toNat+1) rfl rfl (by omega) (by omega)
  rw[if_pos hl,hz]
  cases fh a b <;> rfl
 ·rw[if_neg hl]
  have:fh a b=false:=by
   cases h:fh a b with
   | false=>rfl
   | true=>exact absurd (congrArg Int.ofNat (mn a b h)) hl
  rw[this]
def nj (a b:Rec):Bool:=decide (a.wK=b.wK) && decide (a.wD=b.wD) && decide (a.wC.null=b.wC.null) && decide (a.wC.data=b.wC.data) && decide (a.wt.null=b.wt.null) && decide (a.wt.data=b.wt.data) && fh a.wy b.wy
theorem qw (a:Rec):nj a a=true:=by simp[nj,kW]
theorem tb (a b:Rec) (ha:a.wy.length≤1000000):fJ a b=some (nj a b):=by
 unfold fJ nj
 rw[ta _ _ ha]
 by_cases h1:a.wK=b.wK <;> by_cases h2:a.wD=b.wD <;> by_cases h3:a.wC.null=b.wC.null <;> by_cases h4:a.wC.data=b.wC.data <;> by_cases h5:a.wt.null=b.wt.null <;> by_cases h6:a.wt.data=b.wt.data <;> simp[h1,h2,h3,h4,h5,h6]
theorem pj {x:Rec} (h:nh x):fK x=0∧wI x.wK∧wI x.wD:=by
 obtain⟨h1,⟨h2,h3⟩,h4,h5,h6⟩:=h
 rw[show 2 ^ (64:Int).toNat=18446744073709551616 by decide] at h1
 rw[show 2 ^ (32:Int).toNat=4294967296 by decide] at h2
 have ho:x.wD≤2147483647:=by unfold aK at h2; split at h2 <;> omega
 refine⟨?_,?_,⟨by omega,by omega⟩⟩
 ·unfold fK
  have hb:ip x.wy=true:=List.all_eq_true.2 fun y hy=>(h6.2 y hy).2.2
  rw[if_neg (by omega),h4.2,h5.2,hb]
  rfl
 ·unfold aK at h1
  constructor <;> (split at h1 <;> omega)
theorem pk: ∀ l:List Hd,hwts l≤10*(cJ eO l).length
 | []=>xH _
 | x::l=>by
  have h:=pk l
  have h1:=fz (aK (x.wC.length:Int))
  have h2:=fz (aK (blen x.wt))
  rw[cJ,xf,hwts,hwt]
  simp only[eO,xf]
  omega
theorem qx (x:Rec):rwt x≤10*(bP x).length:=by
 have h:=pk x.wy
 simp only[bP,g8,kV,xf,cC,rwt]
 omega
def lv:Nat:=2197175160
def hM (x:Nat):Nat:=x / 2 ^^^ (if x % 2=1 then lv else 0)
def fb:Nat→Nat→Nat
 | 0,x=>x
 | k+1,x=>fb k (hM x)
theorem oa (x y:Nat):(x ^^^ y) % 2=(x % 2+y % 2) % 2:=by
 have h:=Nat.xor_mod_two_pow (a:=x) (b:=y) (n:=1)
 rw[Nat.pow_one] at h
 rw[h]
 rcases Nat.mod_two_eq_zero_or_one x with hx | hx <;> rcases Nat.mod_two_eq_zero_or_one y with hy | hy <;> rw[hx,hy] <;> rfl
theorem ob (x y:Nat):(x ^^^ y) / 2=(x / 2) ^^^ (y / 2):=Nat.xor_div_two
theorem tc (x y:Nat):hM (x ^^^ y)=hM x ^^^ hM y:=by
 unfold hM
 rw[ob,oa]
 rcases Nat.mod_two_eq_zero_or_one x with hx | hx <;> rcases Nat.mod_two_eq_zero_or_one y with hy | hy <;> simp[hx,hy]
 ·rw[Nat.xor_assoc]
 ·ac_rfl
 ·rw[show x / 2 ^^^ lv ^^^ (y / 2 ^^^ lv)=x / 2 ^^^ y / 2 ^^^ (lv ^^^ lv) by ac_rfl,Nat.xor_self,Nat.xor_zero]
theorem mo: ∀ (k x y:Nat),fb k (x ^^^ y)=fb k x ^^^ fb k y
 | 0,_,_=>rfl
 | k+1,x,y=>by show fb k _= _; rw[tc,mo k]; rfl
theorem pm: ∀ (j k x:Nat),fb (j+k) x=fb k (fb j x)
 | 0,k,x=>by rw[Nat.zero_add]; rfl
 | j+1,k,x=>by rw[show j+1+k=(j+k)+1 by omega]; exact pm j k (hM x)
theorem r9 (x:Nat):hM (2*x)=x:=by
 unfold hM; rw[if_neg (by omega),Nat.xor_zero]; omega
theorem jx: ∀ (k x:Nat),fb k (2 ^ k*x)=x
 | 0,x=>by rw[Nat.pow_zero,Nat.one_mul]; rfl
 | k+1,x=>by
  show fb k (hM _)=x
  rw[show 2 ^ (k+1)*x=2*(2 ^ k*x) by rw[Nat.pow_succ,Nat.mul_comm (2 ^ k) 2,Nat.mul_assoc],r9]
  exact jx k x
theorem rc {x:Nat} (h:x<2 ^ 32):hM x<2 ^ 32:=by
 unfold hM
 exact Nat.xor_lt_two_pow (by omega) (by split <;> decide)
theorem lD: ∀ (k:Nat) {x:Nat},x<2 ^ 32→fb k x<2 ^ 32
 | 0,_,h=>h
 | k+1,_,h=>lD k (rc h)
theorem sa (x b:Nat) (hb:b<256):fb 8 (x ^^^ b)=fb 8 ((x % 256) ^^^ b) ^^^ (x / 256):=by
 have h:x=(x % 256) ^^^ (2 ^ 8*(x / 256)):=by
  apply Nat.eq_of_testBit_eq
  intro i
  rw[Nat.testBit_xor,show (256:Nat)=2 ^ 8 from rfl,Nat.testBit_mod_two_pow,Nat.testBit_two_pow_mul,Nat.testBit_div_two_pow]
  by_cases hi:i<8
  ·simp[hi,show ¬ 8≤i by omega]
  ·simp[hi,show 8≤i by omega]
 conv=>lhs; rw[h]
 rw[show x % 256 ^^^ 2 ^ 8*(x / 256) ^^^ b=(x % 256 ^^^ b) ^^^ (2 ^ 8*(x / 256)) by ac_rfl,mo,jx]
def leN:List UInt8→Nat
 | []=>0
 | c::l=>c.toNat+256*leN l
def kA:Nat→List UInt8→Nat
 | x,[]=>x
 | x,c::l=>kA (fb 8 (x ^^^ c.toNat)) l
theorem td: ∀ l,leN l<2 ^ (8*l.length)
 | []=>by decide
 | c::l=>by
  have:=td l
  have hc:=c.toNat_lt
  show c.toNat+256*leN l<2 ^ (8*(l.length+1))
  rw[show 8*(l.length+1)=8+8*l.length by omega,Nat.pow_add]
  omega
theorem po {b:Nat} (hb:b<256) (y:Nat):b+256*y=b ^^^ (2 ^ 8*y):=by
 apply Nat.eq_of_testBit_eq
 intro i
 rw[show b+256*y=2 ^ 8*y+b by omega,Nat.testBit_two_pow_mul_add _ (show b<2 ^ 8 by omega),Nat.testBit_xor,Nat.testBit_two_pow_mul]
 by_cases hi:i<8
 ·simp[hi,show ¬ 8≤i by omega]
 ·have:b.testBit i=false:=Nat.testBit_lt_two_pow (Nat.lt_of_lt_of_le hb (show 2 ^ 8≤2 ^ i from Nat.pow_le_pow_right (by decide) (by omega)))
  simp[hi,show 8≤i by omega,this]
theorem rd: ∀ (l:List UInt8) (x:Nat),kA x l=fb (8*l.length) (x ^^^ leN l)
 | [],x=>by show x=fb 0 (x ^^^ 0); rw[Nat.xor_zero]; rfl
 | c::l,x=>by
  show kA _ l= _
  rw[rd l,show 8*(c::l).length=8+8*l.length by simp[Nat.mul_add]; omega,pm]
  show _=fb _ (fb 8 (x ^^^ (c.toNat+256*leN l)))
  rw[po c.toNat_lt,show x ^^^ (c.toNat ^^^ 2 ^ 8*leN l)=(x ^^^ c.toNat) ^^^ (2 ^ 8*leN l) by ac_rfl,mo 8 (x ^^^ c.toNat),jx]
theorem kX: ∀ (l m:List UInt8) (x:Nat),kA x (l++m)=kA (kA x l) m
 | [],_,_=>rfl
 | c::l,m,x=>kX l m _
theorem lE: ∀ (l:List UInt8) {x:Nat},x<2 ^ 32→kA x l<2 ^ 32
 | [],_,h=>h
 | c::l,_,h=>lE l (lD 8 (Nat.xor_lt_two_pow h (Nat.lt_trans c.toNat_lt (by decide))))
theorem iM (a:Nat) (h:a<4294967296):(BitVec.ofInt IntKind.u32.bits (a:Int)).toNat=a:=by
 show (BitVec.ofInt 32 (a:Int)).toNat=a
 rw[BitVec.ofInt_natCast,BitVec.toNat_ofNat,Nat.mod_eq_of_lt (by omega)]
theorem pp (a:Nat) (h:a<256):(BitVec.ofInt IntKind.u8.bits (a:Int)).toNat=a:=by
 show (BitVec.ofInt 8 (a:Int)).toNat=a
 rw[BitVec.ofInt_natCast,BitVec.toNat_ofNat,Nat.mod_eq_of_lt (by omega)]
theorem wrap_u32 (a:Nat):IntKind.u32.wrap (a:Int)=((a % 4294967296:Nat):Int):=by
 rw[IntKind.wrap_u32]; omega
theorem wrap_u8 (a:Nat):IntKind.u8.wrap (a:Int)=((a % 256:Nat):Int):=by
 rw[IntKind.wrap_u8]; omega
theorem lF (a b:Nat) (ha:a<4294967296) (hb:b<4294967296):Go.bits .xor .u32 (a:Int) (b:Int)=((a ^^^ b:Nat):Int):=by
 show IntKind.u32.wrap (((BitVec.ofInt IntKind.u32.bits (a:Int)) ^^^ (BitVec.ofInt IntKind.u32.bits (b:Int))).toNat:Int)= _
 rw[BitVec.toNat_xor,iM a ha,iM b hb,wrap_u32,Nat.mod_eq_of_lt (Nat.xor_lt_two_pow (n:=32) ha hb)]
theorem xor_u8 (a b:Nat) (ha:a<256) (hb:b<256):Go.bits .xor .u8 (a:Int) (b:Int)=((a ^^^ b:Nat):Int):=by
 show IntKind.u8.wrap (((BitVec.ofInt IntKind.u8.bits (a:Int)) ^^^ (BitVec.ofInt IntKind.u8.bits (b:Int))).toNat:Int)= _
 rw[BitVec.toNat_xor,pp a ha,pp b hb,wrap_u8,Nat.mod_eq_of_lt (Nat.xor_lt_two_pow (n:=8) ha hb)]
theorem te (a:Nat) (ha:a<4294967296):Go.bits .and .u32 (a:Int) 1=((a % 2:Nat):Int):=by
 show IntKind.u32.wrap (((BitVec.ofInt IntKind.u32.bits (a:Int)) &&& (BitVec.ofInt IntKind.u32.bits ((1:Nat):Int))).toNat:Int)= _
 rw[BitVec.toNat_and,iM a ha,iM 1 (by decide),wrap_u32,Nat.and_one_is_mod,Nat.mod_eq_of_lt (by omega)]
theorem tf (a:Nat):mG .u32 (a:Int) 1=((a / 2:Nat):Int):=by
 show Int.fdiv (a:Int) 2= _
 rw[Int.fdiv_eq_ediv_of_nonneg _ (by decide)]
 omega
theorem tg (a:Nat):mG .u32 (a:Int) 8=((a / 256:Nat):Int):=by
 show Int.fdiv (a:Int) 256= _
 rw[Int.fdiv_eq_ediv_of_nonneg _ (by decide)]
 omega
theorem th (y:Nat) (hy:y<4294967296):(if Go.bits .and .u32 (y:Int) 1=1 then some (Go.bits .xor .u32 (mG .u32 (y:Int) 1) 2197175160) else some (mG .u32 (y:Int) 1))=some ((hM y:Nat):Int):=by
 rw[te y hy,tf,show (2197175160:Int)=((2197175160:Nat):Int) from rfl,lF _ _ (by omega) (by decide)]
 unfold hM
 by_cases h:y % 2=1
 ·rw[if_pos (by omega),if_pos h]; rfl
 ·rw[if_neg (by omega),if_neg h,Nat.xor_zero]
theorem tj: ∀ (m y k:Nat),y<4294967296→k≤8→8 - k<m→cQ m (y:Int) k=some (((fb (8 - k) y:Nat):Int),8)
 | 0,_,_,_,_,h=>by omega
 | m+1,y,k,hy,hk,hm=>by
  rw[cQ]
  by_cases h:k<8
  ·rw[if_pos (by omega),th y hy,xb,if_pos (by omega),tj m (hM y) (k+1) (rc hy) (by omega) (by omega),show 8 - k=(8 - (k+1))+1 by omega]
   rfl
  ·rw[if_neg (by omega),show 8 - k=0 by omega,show k=8 by omega]
   rfl
def eT:List Int:=(List.range 256).map (fun j=>((fb 8 j:Nat):Int))
theorem mp (j:Nat) (hj:j<256):eT[j]? = some ((fb 8 j:Nat):Int):=by
 unfold eT
 rw[List.getElem?_map,List.getElem?_range hj]
 rfl
theorem tk: ∀ (m k:Nat) (l:List Int),l.length=256→k≤256→256 - k<m→(∀ j,j<k→l[j]? = some ((fb 8 j:Nat):Int))→dp m k l=some (256,eT)
 | 0,_,_,_,_,h,_=>by omega
 | m+1,k,l,hl,hk,hm,hj=>by
  rw[dp]
  by_cases h:k<256
  ·have e1:IntKind.u32.wrap (k:Int)=((k:Nat):Int):=by rw[wrap_u32,Nat.mod_eq_of_lt (by omega)]
   have e2:cQ ((8:Int).toNat+1) (IntKind.u32.wrap (k:Int)) 0=some (((fb 8 k:Nat):Int),8):=by
    rw[e1]
    exact tj 9 k 0 (by omega) (by omega) (by omega)
   have e3:l[k]? = some (l[k]'(by omega)):=List.getElem?_eq_getElem (by omega)
   rw[if_pos (by omega),e2,xb]
   dsimp only
   rw[e3,xb,xb,if_pos (by omega)]
   refine tk m (k+1) _ (by rw[List.length_set]; exact hl) (by omega) (by omega) (fun j hjk=> ?_)
   rw[List.getElem?_set]
   by_cases e:k=j
   ·rw[if_pos e,if_pos (by omega),e]
   ·rw[if_neg e]
    exact hj j (by omega)
  ·rw[if_neg (by omega),show k=256 by omega]
   congr 2
   apply List.ext_getElem?
   intro j
   by_cases hj2:j<256
   ·rw[mp j hj2]
    exact hj j (by omega)
   ·rw[List.getElem?_eq_none (by omega),List.getElem?_eq_none (by unfold eT; simp; omega)]
theorem uo:fx=some eT:=by
 unfold fx
 rw[show (256:Int).toNat+1=257 from rfl,tk 257 0 _ (List.length_replicate ..) (by omega) (by omega) (fun j hj=>absurd hj (by omega)),xb]
theorem rf (s:List UInt8) (hs:s.length≤9223372036854775806): ∀ (m y k:Nat),y<4294967296→k≤s.length→s.length - k<m→bD s m (y:Int) k eT=some (((kA y (s.drop k):Nat):Int),s.length,eT)
 | 0,_,_,_,_,h=>by omega
 | m+1,y,k,hy,hk,hm=>by
  rw[bD]
  by_cases h:k<s.length
  ·have e1:s[k]? = some s[k]:=List.getElem?_eq_getElem h
   have hc:=s[k].toNat_lt
   have hx:y % 256 ^^^ s[k].toNat<256:=Nat.xor_lt_two_pow (n:=8) (by omega) hc
   have e2:Go.bits .xor .u8 (IntKind.u8.wrap (y:Int)) (s[k].toNat:Int)=((y % 256 ^^^ s[k].toNat:Nat):Int):=by
    rw[wrap_u8,xor_u8 _ _ (by omega) (by omega)]
   have e3:fb 8 (y % 256 ^^^ s[k].toNat)<2 ^ 32:=lD 8 (by omega)
   rw[if_pos (by omega),e1,xb,e2,if_pos (by omega),xC,mp _ hx,xb,if_pos (by omega),tg,lF _ _ (by omega) (by omega),← sa y _ (by omega),
    rf s hs m _ (k+1) (lD 8 (Nat.xor_lt_two_pow (n:=32) hy (by omega))) (by omega) (by omega)]
   rw[cK e1]
   rfl
  ·rw[if_neg (by omega),show k=s.length by omega,List.drop_length]
   rfl
def gG (x:Nat) (s:List UInt8):Nat:=4294967295 ^^^ kA (4294967295 ^^^ x) s
theorem oc {x:Nat} (hx:x<4294967296) (s:List UInt8):gG x s<4294967296:=Nat.xor_lt_two_pow (n:=32) (by decide) (lE s (Nat.xor_lt_two_pow (n:=32) (by decide) hx))
theorem ones2 (x:Nat):4294967295 ^^^ (4294967295 ^^^ x)=x:=by rw[← Nat.xor_assoc,Nat.xor_self,Nat.zero_xor]
theorem pq (x:Nat) (s t:List UInt8):gG x (s++t)=gG (gG x s) t:=by
 unfold gG
 rw[kX,ones2]
theorem tl (x:Nat):gG x []=x:=ones2 x
theorem tn (x:Nat) (hx:x<4294967296) (s:List UInt8) (hs:s.length≤9223372036854775806):dz eT (x:Int) s=some (((gG x s:Nat):Int),eT):=by
 unfold dz
 have h1:(4294967295 ^^^ x:Nat)<4294967296:=Nat.xor_lt_two_pow (n:=32) (by decide) hx
 rw[show (4294967295:Int)=((4294967295:Nat):Int) from rfl,lF _ _ (by decide) hx,xC,rf s hs _ _ 0 h1 (by omega) (by omega),xb,List.drop_zero]
 dsimp only
 rw[lF _ _ (by decide) (lE s h1)]
 rfl
theorem tp: ∀ (l:List (List UInt8)) (x:Nat),x<4294967296→(∀ s,s∈l→s.length≤9223372036854775806)→bp l (x:Int) eT=some (((gG x l.flatten:Nat):Int),eT)
 | [],x,_,_=>by rw[bp,List.flatten_nil,tl]
 | s::l,x,hx,hs=>by
  rw[bp,tn x hx s (hs s (List.mem_cons_self ..)),xb]
  dsimp only
  rw[tp l _ (oc hx s) (fun t ht=>hs t (List.mem_cons_of_mem _ ht)),List.flatten_cons,pq]
theorem up (l:List (List UInt8)) (hs: ∀ s,s∈l→s.length≤9223372036854775806):dh eT l=some (((gG 0 l.flatten:Nat):Int),eT):=by
 unfold dh
 have h:=tp l 0 (by decide) hs
 rw[show ((0:Nat):Int)=0 from rfl] at h
 rw[h,xb]
def bI (x j:Nat):Int:=if x.testBit j then 1 else 0
theorem qy (x j:Nat):bI x j=((x / 2 ^ j % 2:Nat):Int):=by
 unfold bI
 rw[Nat.testBit_eq_decide_div_mod_eq]
 rcases Nat.mod_two_eq_zero_or_one (x / 2 ^ j) with h | h <;> rw[h] <;> rfl
theorem nk (x j:Nat):bI x j=0∨bI x j=1:=by
 unfold bI
 by_cases h:x.testBit j=true
 ·rw[if_pos h]; exact .inr rfl
 ·rw[if_neg h]; exact .inl rfl
theorem mq (x y j:Nat):bI (x ^^^ y) j=(bI x j+bI y j) % 2:=by
 unfold bI
 rw[Nat.testBit_xor]
 cases x.testBit j <;> cases y.testBit j <;> rfl
theorem od (x j:Nat):bI (x / 2) j=bI x (j+1):=by
 unfold bI
 rw[Nat.testBit_succ]
theorem pt: ∀ (s:List UInt8) (k:Nat) (c:UInt8),s[k]? = some c→ ∀ j,j<8→(leN s).testBit (8*k+j)=c.toNat.testBit j
 | [],k,c,h,j,hj=>by simp at h
 | a::s,0,c,h,j,hj=>by
  obtain rfl:a=c:=by simpa using h
  show (a.toNat+256*leN s).testBit (8*0+j)= _
  rw[show a.toNat+256*leN s=2 ^ 8*leN s+a.toNat by omega,Nat.testBit_two_pow_mul_add _ (show a.toNat<2 ^ 8 from a.toNat_lt),if_pos (by omega),Nat.mul_zero,Nat.zero_add]
 | a::s,k+1,c,h,j,hj=>by
  show (a.toNat+256*leN s).testBit _= _
  rw[show a.toNat+256*leN s=2 ^ 8*leN s+a.toNat by omega,Nat.testBit_two_pow_mul_add _ (show a.toNat<2 ^ 8 from a.toNat_lt),if_neg (by omega),show 8*(k+1)+j - 8=8*k+j by omega]
  exact pt s k c (by simpa using h) j hj
theorem tq (a:Int) (ha:0≤a) (hb:a≤9223372036854775807): ∀ (m y k:Nat),y<256→k≤(a % 8).toNat→(a % 8).toNat - k<m→dq a m (y:Int) k=some (((y / 2 ^ ((a % 8).toNat - k):Nat):Int),(a % 8).toNat)
 | 0,_,_,_,_,h=>by omega
 | m+1,y,k,hy,hk,hm=>by
  rw[dq,if_pos ⟨ha,hb⟩]
  by_cases h:k<(a % 8).toNat
  ·rw[if_pos (by omega),if_pos (by omega),if_pos (by omega),show ((y:Int) / 2)=((y / 2:Nat):Int) by omega,tq a ha hb m (y / 2) (k+1) (by omega) (by omega) (by omega),Nat.div_div_eq_div_mul,
    show (a % 8).toNat - k=((a % 8).toNat - (k+1))+1 by omega,Nat.pow_succ,Nat.mul_comm 2]
  ·rw[if_neg (by omega),show (a % 8).toNat - k=0 by omega,Nat.pow_zero,Nat.div_one,show k=(a % 8).toNat by omega]
theorem uq (s:List UInt8) (i:Nat) (hi:i<8*s.length) (hb:i≤9223372036854775807):gz s (i:Int)=some (bI (leN s) i):=by
 unfold gz
 have hk:i / 8<s.length:=by omega
 have e1:s[i / 8]? = some s[i / 8]:=List.getElem?_eq_getElem hk
 have hc:=s[i / 8].toNat_lt
 have e2:=tq (i:Int) (by omega) (by omega) (((i:Int) % 8).toNat+1) s[i / 8].toNat 0 (by omega) (by omega) (by omega)
 have e3:((i:Int) % 8).toNat=i % 8:=by omega
 rw[if_pos (by omega),if_pos (by omega),show ((i:Int) / 8).toNat=i / 8 by omega,e1,xb,if_pos (by omega),e2,xb,e3,Nat.sub_zero]
 dsimp only
 have h4:s[i / 8].toNat / 2 ^ (i % 8)≤s[i / 8].toNat:=Nat.div_le_self _ _
 suffices h6:bI (leN s) i=((s[i / 8].toNat / 2 ^ (i % 8) % 2:Nat):Int) by
  rw[h6]
  generalize s[i / 8].toNat / 2 ^ (i % 8)=q at h4 ⊢
  rw[if_pos (by omega)]
  congr 1
 have h5:=pt s (i / 8) _ e1 (i % 8) (by omega)
 rw[show 8*(i / 8)+i % 8=i by omega] at h5
 unfold bI
 rw[h5]
 exact qy _ _
theorem sb: ∀ i:Nat,i<32→e9 (31 - (i:Int))=some (bI lv i):=by decide +kernel
def Bts (L k:Nat) (l:List Int) (x:Nat):Prop:=l.length=L∧ ∀ j,k+j<L→l[k+j]? = some (bI x j)
theorem tr (s:List UInt8) (hs:s.length≤1000000): ∀ (m k:Nat) (l:List Int),l.length=8*s.length+32→k≤8*s.length→8*s.length - k<m→(∀ j,j<k→l[j]? = some (bI (leN s) j))→(∀ j,k≤j→j<8*s.length+32→l[j]? = some 0) →
 ∃ l',du s m l k=some (l',8*s.length)∧Bts (8*s.length+32) 0 l' (leN s)
 | 0,_,_,_,_,h,_,_=>by omega
 | m+1,k,l,hl,hk,hm,h1,h2=>by
  rw[du]
  by_cases h:k<8*s.length
  ·rw[if_pos (by omega),uq s k h (by omega),xb,h2 k (xB _) (by omega),xb,if_pos (by omega)]
   refine tr s hs m (k+1) _ (by rw[List.length_set]; exact hl) (by omega) (by omega) (fun j hj=> ?_) (fun j hj hj2=> ?_)
   ·rw[List.getElem?_set]
    by_cases e:k=j
    ·rw[if_pos e,if_pos (by omega),e]
    ·rw[if_neg e]; exact h1 j (by omega)
   ·rw[List.getElem?_set,if_neg (by omega)]
    exact h2 j (by omega) hj2
  ·have hk2:k=8*s.length:=by omega
   rw[if_neg (by omega),hk2]
   refine⟨l,rfl,hl,fun j hj=> ?_⟩
   rw[Nat.zero_add] at hj ⊢
   by_cases e:j<k
   ·exact h1 j e
   ·rw[h2 j (by omega) hj]
    unfold bI
    rw[Nat.testBit_lt_two_pow (Nat.lt_of_lt_of_le (td s) (Nat.pow_le_pow_right (by decide) (by omega)))]
    rfl
theorem oe (k j:Nat):bI (2 ^ k - 1) j=if j<k then 1 else 0:=by
 unfold bI
 rw[Nat.testBit_two_pow_sub_one]
 by_cases h:j<k <;> simp[h]
theorem tt (x L:Nat) (hL:32≤L): ∀ (m k:Nat) (l:List Int),k≤32→32 - k<m→Bts L 0 l (x ^^^ (2 ^ k - 1))→ ∃ l',dt m l k=some (l',32)∧Bts L 0 l' (x ^^^ 4294967295)
 | 0,_,_,_,h,_=>by omega
 | m+1,k,l,hk,hm,hB=>by
  rw[dt]
  by_cases h:k<32
  ·have e:=hB.2 k (by omega)
   rw[Nat.zero_add] at e
   rw[if_pos (by omega),e,xb]
   have h01:=nk (x ^^^ (2 ^ k - 1)) k
   rw[if_pos (by omega),if_pos (by omega)]
   refine tt x L hL m (k+1) _ (by omega) (by omega) ⟨by rw[List.length_set]; exact hB.1,fun j hj=> ?_⟩
   rw[Nat.zero_add] at hj ⊢
   have e2:=hB.2 j (by omega)
   rw[Nat.zero_add] at e2
   have R:bI (x ^^^ (2 ^ (k+1) - 1)) j=(bI x j+if j<k+1 then 1 else 0) % 2:=by rw[mq,oe]
   have R0:bI (x ^^^ (2 ^ k - 1)) j=(bI x j+if j<k then 1 else 0) % 2:=by rw[mq,oe]
   rw[List.getElem?_set,R]
   by_cases e3:k=j
   ·subst e3
    rw[if_pos rfl,if_pos (by rw[hB.1]; exact hj),if_pos (by omega),R0,if_neg (by omega)]
    rcases nk x k with q | q <;> rw[q] <;> rfl
   ·rw[if_neg e3,e2,R0]
    by_cases e4:j<k
    ·rw[if_pos e4,if_pos (by omega)]
    ·rw[if_neg e4,if_neg (by omega)]
  ·have:k=32:=by omega
   subst this
   rw[if_neg (by omega)]
   exact⟨l,rfl,hB⟩
theorem tu (L k:Nat) (l0:List Int) (y:Nat) (hL:k+33≤L) (hb:L≤9000000) (h0:Bts L k l0 y): ∀ (m i:Nat) (l:List Int),1≤i→i≤33→33 - i<m→l.length=L→(∀ j,k+i≤j→j<L→l[j]? = l0[j]?)→(∀ j,j+1<i→l[k+1+j]? = some (bI (y / 2 ^^^ lv) j)) →
 ∃ l',dr k m l (i:Int)=some (l',33)∧l'.length=L∧(∀ j,k+33≤j→j<L→l'[j]? = l0[j]?)∧ ∀ j,j<32→l'[k+1+j]? = some (bI (y / 2 ^^^ lv) j)
 | 0,_,_,_,_,h,_,_,_=>by omega
 | m+1,i,l,h1,hi,hm,hl,hr,hd=>by
  rw[dr]
  by_cases h:i≤32
  ·have e1:l[k+i]? = some (bI y i):=by rw[hr (k+i) (xB _) (by omega)]; exact h0.2 i (by omega)
   have e2:e9 (32 - (i:Int))=some (bI lv (i - 1)):=by
    rw[show (32:Int) - (i:Int)=31 - ((i - 1:Nat):Int) by omega]
    exact sb (i - 1) (by omega)
   have q1:=nk y i
   have q2:=nk lv (i - 1)
   rw[if_pos (by omega),if_pos (by omega),show ((k:Int)+(i:Int)).toNat=k+i by omega,e1,xb,if_pos (by omega),if_pos (by omega),if_pos (by omega),e2,xb,if_pos (by omega),if_pos (by omega),if_pos (by omega),
    show (i:Int)+1=((i+1:Nat):Int) by omega]
   refine tu L k l0 y hL hb h0 m (i+1) _ (by omega) (by omega) (by omega) (by rw[List.length_set]; exact hl) (fun j hj hj2=> ?_) (fun j hj=> ?_)
   ·rw[List.getElem?_set,if_neg (by omega)]
    exact hr j (by omega) hj2
   ·rw[List.getElem?_set]
    by_cases e3:k+i=k+1+j
    ·rw[if_pos e3,if_pos (by omega),mq,od,show j+1=i by omega,show i - 1=j by omega]
    ·rw[if_neg e3]; exact hd j (by omega)
  ·have:i=33:=by omega
   subst this
   rw[if_neg (by omega)]
   exact⟨l,rfl,hl,fun j hj hj2=>hr j hj hj2,fun j hj=>hd j (by omega)⟩
theorem sc (j:Nat) (hj:32≤j):bI lv j=0:=by
 unfold bI
 rw[Nat.testBit_lt_two_pow (Nat.lt_of_lt_of_le (show lv<2 ^ 32 by decide) (Nat.pow_le_pow_right (by decide) hj))]
 rfl
theorem rg (x:Nat):bI x 0=1↔x % 2=1:=by
 rw[qy,Nat.pow_zero,Nat.div_one]; omega
theorem qz (s:List UInt8) (hs:s.length≤1000000): ∀ (m k:Nat) (l:List Int) (y:Nat),k≤8*s.length→8*s.length - k<m→Bts (8*s.length+32) k l y→ ∃ l',cU s m l k=some (l',8*s.length)∧Bts (8*s.length+32) (8*s.length) l' (fb (8*s.length - k) y)
 | 0,_,_,_,_,h,_=>by omega
 | m+1,k,l,y,hk,hm,hB=>by
  rw[cU]
  by_cases h:k<8*s.length
  ·have e1:=hB.2 0 (by omega)
   rw[Nat.add_zero] at e1
   rw[if_pos (by omega),e1,xb,show 8*s.length - k=(8*s.length - (k+1))+1 by omega]
   by_cases ho:bI y 0=1
   ·have hy:=(rg y).1 ho
    obtain⟨l',r1,r2,r3,r4⟩:=tu (8*s.length+32) k l y (by omega) (by omega) hB 33 1 l (by omega) (by omega) (by omega) hB.1 (fun j _ _=>rfl) (fun j hj=>absurd hj (by omega))
    rw[if_pos ho,show ((33:Int) - 1).toNat+1=33 from rfl,show (1:Int)=((1:Nat):Int) from rfl,r1,xb]
    dsimp only
    rw[if_pos (by omega)]
    refine qz s hs m (k+1) l' (hM y) (by omega) (by omega) ⟨r2,fun j hj=> ?_⟩
    unfold hM
    rw[if_pos hy]
    by_cases e:j<32
    ·exact r4 j e
    ·rw[r3 _ (by omega) (by omega),show k+1+j=k+(j+1) by omega,hB.2 (j+1) (by omega),mq,od,sc j (by omega)]
     rcases nk y (j+1) with q | q <;> rw[q] <;> rfl
   ·have hy: ¬ y % 2=1:=fun e=>ho ((rg y).2 e)
    rw[if_neg ho,if_pos (by omega)]
    refine qz s hs m (k+1) l (hM y) (by omega) (by omega) ⟨hB.1,fun j hj=> ?_⟩
    unfold hM
    rw[if_neg hy,Nat.xor_zero,od,show k+1+j=k+(j+1) by omega]
    exact hB.2 (j+1) (by omega)
  ·have:k=8*s.length:=by omega
   subst this
   rw[if_neg (by omega),Nat.sub_self]
   exact⟨l,rfl,hB⟩
theorem pu {z:Nat} (hz:z<4294967296):4294967295 ^^^ z=4294967295 - z:=by
 apply Nat.eq_of_testBit_eq
 intro i
 rw[show 4294967295 - z=2 ^ 32 - (z+1) by omega,Nat.testBit_two_pow_sub_succ (show z<2 ^ 32 from hz),Nat.testBit_xor,show (4294967295:Nat)=2 ^ 32 - 1 from rfl,Nat.testBit_two_pow_sub_one]
 by_cases h:i<32
 ·simp[h]
 ·have:z.testBit i=false:=Nat.testBit_lt_two_pow (Nat.lt_of_lt_of_le hz (show 2 ^ 32≤2 ^ i from Nat.pow_le_pow_right (by decide) (by omega)))
  simp[h,this]
theorem tv (s:List UInt8) (hs:s.length≤1000000) (l:List Int) (z:Nat) (hz:z<4294967296) (hB:Bts (8*s.length+32) (8*s.length) l z): ∀ (i m:Nat),i≤32→i<m→cw s l m (((4294967295 - z) / 2 ^ i:Nat):Int) ((i:Int) - 1)=some (((4294967295 - z:Nat):Int),-1)
 | i,0,_,h=>by omega
 | 0,m+1,_,_=>by
  rw[cw,if_neg (by omega),Nat.pow_zero,Nat.div_one]
  rfl
 | i+1,m+1,hi,hm=>by
  have e1:=hB.2 i (by omega)
  have q:=nk z i
  rw[cw,if_pos (by omega),if_pos (by omega),if_pos (by omega),show (8*(s.length:Int)+(((i+1:Nat):Int) - 1)).toNat=8*s.length+i by omega,e1,xb,if_pos (by omega),if_pos (by omega),
   show ((i+1:Nat):Int) - 1 - 1=(i:Int) - 1 by omega]
  have h1:(4294967295 - z) / 2 ^ i / 2=(4294967295 - z) / 2 ^ (i+1):=by rw[Nat.div_div_eq_div_mul,← Nat.pow_succ]
  have h2:(((4294967295 - z) / 2 ^ i % 2:Nat):Int)=1 - bI z i:=by
   rw[← qy,← pu hz,mq,show (4294967295:Nat)=2 ^ 32 - 1 from rfl,oe,if_pos (by omega)]
   rcases q with q | q <;> rw[q] <;> rfl
  have h3:(4294967295 - z) / 2 ^ i≤4294967295:=Nat.le_trans (Nat.div_le_self _ _) (by omega)
  have h4:IntKind.u32.wrap ((IntKind.u32.wrap ((((4294967295 - z) / 2 ^ (i+1):Nat):Int)*2))+(IntKind.u32.wrap (1 - bI z i)))=(((4294967295 - z) / 2 ^ i:Nat):Int):=by
   rw[IntKind.wrap_u32,IntKind.wrap_u32,IntKind.wrap_u32,← h1,← h2]
   generalize (4294967295 - z) / 2 ^ i=q at h3
   omega
  rw[h4]
  exact tv s hs l z hz hB i m (by omega) (by omega)
theorem ur (s:List UInt8) (hs:s.length≤1000000):gB s=some ((gG 0 s:Nat):Int):=by
 unfold gB
 obtain⟨l1,r1,B1⟩:=tr s hs (8*s.length+1) 0 (List.replicate (8*s.length+32) 0) (List.length_replicate ..) (by omega) (by omega) (fun j hj=>absurd hj (by omega)) (fun j _ hj=>by rw[List.getElem?_replicate,if_pos hj])
 obtain⟨l2,r2,B2⟩:=tt (leN s) (8*s.length+32) (by omega) 33 0 l1 (by omega) (by omega) (by rw[Nat.pow_zero,Nat.sub_self,Nat.xor_zero]; exact B1)
 obtain⟨l3,r3,B3⟩:=qz s hs (8*s.length+1) 0 l2 _ (by omega) (by omega) B2
 have hz:fb (8*s.length - 0) (leN s ^^^ 4294967295)=kA 4294967295 s:=by rw[Nat.sub_zero,rd,Nat.xor_comm]
 rw[hz] at B3
 have hlt:kA 4294967295 s<4294967296:=lE s (by decide)
 have r4:=tv s hs l3 _ hlt B3 32 33 (by omega) (by omega)
 rw[show (4294967295 - kA 4294967295 s) / 2 ^ 32=0 from Nat.div_eq_of_lt (by omega)] at r4
 rw[if_pos (by omega),if_pos (by omega),if_pos (by omega),show (8*(s.length:Int)).toNat=8*s.length by omega,show (8*(s.length:Int)+32).toNat=8*s.length+32 by omega,r1,xb]
 dsimp only
 rw[show (32:Int).toNat+1=33 from rfl,r2,xb]
 dsimp only
 rw[r3,xb]
 dsimp only
 rw[show ((31:Int) - -1).toNat+1=33 from rfl]
 have r5:cw s l3 33 0 31=some (((4294967295 - kA 4294967295 s:Nat):Int),-1):=r4
 rw[r5,xb]
 dsimp only
 rw[← pu hlt]
 unfold gG
 rw[Nat.xor_zero]
def rh (p:Pfx):List UInt8:=be p.wG 8++(be p.wM 4++(be p.wz 4++(be 2 1++be (s32 p.wT) 4)))
def dl (p:Pfx):List UInt8:=be p.wQ 2++jw [4,8,8,8,2,4,4] [p.wE,p.wx,p.wJ,p.ww,p.wA,p.wv,p.wR]
theorem ri (p:Pfx):iU p=rh p++dl p:=by
 unfold iU KS toL rh dl
 simp only[jw,xq]
theorem nl (p:Pfx):(rh p).length=21:=by
 unfold rh
 simp only[xf,cC]
theorem kB (p:Pfx):(iU p).drop 21=dl p:=by
 rw[ri,← nl p,List.drop_left]
def okRc (x:Rec):Prop:=nh x∧aK ((bP x).length:Int)<2 ^ (32:Int).toNat
def pv:Pr Unit:=fun s q=>if q=s.length then .error 10 else .ok ((),q)
def ge:Nat→Pr (List Rec)
 | 0=> .ret []
 | n+1=>pv.bind fun _=>n8.bind fun x=>(ge n).bind fun l=> .ret (x::l)
theorem gS (x:Rec):0<(dk x).length:=by
 unfold dk
 rw[xf]
 have:=fz (aK ((bP x).length:Int))
 omega
theorem gT: ∀ (n:Nat) (s:List UInt8) (q:Nat) (l:List Rec) (r:Nat),q≤s.length→ge n s q= .ok (l,r)→q≤r∧r≤s.length∧s.take r=s.take q++cJ dk l∧l.length=n∧ ∀ x,x∈l→okRc x
 | 0,s,q,l,r,hq,h=>by
  injection h with h
  obtain⟨rfl,rfl⟩:=xQ h
  exact⟨xB _,hq,by simp[cJ],rfl,fun x h=>nomatch h⟩
 | n+1,s,q,l,r,hq,h=>by
  obtain⟨u,m,h1,h2⟩:=Pr.bind_ok h
  unfold pv at h1
  split at h1
  ·exact nomatch h1
  injection h1 with h1
  obtain⟨_,rfl⟩:=xQ h1
  obtain⟨x,m2,h3,h4⟩:=Pr.bind_ok h2
  obtain⟨xs,m3,h5,h6⟩:=Pr.bind_ok h4
  injection h6 with h6
  obtain⟨rfl,rfl⟩:=xQ h6
  obtain⟨a1,a2,a3,a4,a5⟩:=n9.spell s q x m2 hq h3
  obtain⟨b1,b2,b3,b4,b5⟩:=gT n s m2 xs m3 a2 h5
  refine⟨by omega,b2,by rw[b3,a4,cJ,xq],by rw[xw,b4],fun y hy=> ?_⟩
  rcases List.mem_cons.1 hy with rfl | hy
  ·exact a5
  ·exact b5 y hy
theorem nn: ∀ (l:List Rec) (s t:List UInt8) (q:Nat),q≤s.length→(∀ x,x∈l→okRc x)→s.drop q=cJ dk l++t→ge l.length s q= .ok (l,q+(cJ dk l).length)
 | [],s,t,q,hq,_,_=>rfl
 | x::l,s,t,q,hq,ho,hd=>by
  rw[cJ,xq] at hd
  have hl:=congrArg List.length hd
  rw[xe,xf] at hl
  have hp:=gS x
  have h0:pv s q= .ok ((),q):=if_neg (by omega)
  have h1:=n9.back s _ q x hq (ho x (.head _)) hd
  have h2:=nn l s t _ (by omega) (fun y hy=>ho y (.tail _ hy)) (cM hd)
  rw[xw,ge,Pr.bind_of h0,Pr.bind_of h1,Pr.bind_of h2,cJ,xf,← Nat.add_assoc]
  rfl
def chk (a:Bat):Int:=(bJ a).getD 0
def body (a:Bat):List UInt8:=cJ dk a.ws
def mkB (p:Pfx) (l:List Rec):Bat:=⟨p.wG,p.wz,bH p.wQ 3,bH p.wQ 4,bH p.wQ 5,p.wE,p.wx,p.wJ,p.ww,p.wA,p.wv,l⟩
def pB (a:Bat) (s:Int):Pfx:=⟨a.wG,49+((body a).length:Int),a.wz,s,gi a.wH a.wN a.wF,a.wE,a.wx,a.wJ,a.ww,a.wA,a.wv,(a.ws.length:Int)⟩
def qA (p:Pfx) (s:List UInt8):Nat:=gG 0 (dl p++s)
def kC (a:Bat):Nat:=qA (pB a 0) (body a)
def dX (a:Bat):List UInt8:=iU (pB a (kC a))++body a
def okB (a:Bat):Prop:=okP (pB a (kC a))∧bk (gi a.wH a.wN a.wF)=0∧(∀ x,x∈a.ws→okRc x)∧chk a=0
def iB (p:Pfx) (s:List UInt8):Except Int Bat :=
 if bk p.wQ=0 then
  match ge p.wR.toNat s 0 with
  | .error e=> .error e
  | .ok (l,r)=>if r<s.length then .error 10 else if chk (mkB p l)=0 then .ok (mkB p l) else .error (chk (mkB p l))
 else .error (bk p.wQ)
def eK:Pr Bat:=fun s q =>
 match nZ s q with
 | .error e=> .error e
 | .ok (p,r)=>if s.length<r+(p.wM - 49).toNat then .error 1 else
  if ((qA p ((s.drop r).take (p.wM - 49).toNat):Nat):Int)=p.wT then
   match iB p ((s.drop r).take (p.wM - 49).toNat) with
   | .error e=> .error e
   | .ok b=> .ok (b,r+(p.wM - 49).toNat)
  else .error 5
theorem np {n:Int} (h:bk n=0):gi (bH n 3) (bH n 4) (bH n 5)=n:=by
 have h1:n % 8=0∧0≤n∧n≤63:=by
  unfold bk at h
  split at h
  ·cases h
  ·split at h
   ·cases h
   ·omega
 have h2:n=0∨n=8∨n=16∨n=24∨n=32∨n=40∨n=48∨n=56:=by omega
 rcases h2 with rfl | rfl | rfl | rfl | rfl | rfl | rfl | rfl <;> decide
theorem rk: ∀ a b c:Bool,bH (gi a b c) 3=a∧bH (gi a b c) 4=b∧bH (gi a b c) 5=c:=by decide
theorem tw {p:Pfx} {s:List UInt8} {b:Bat} (h:iB p s= .ok b) (h0:0≤p.wR):bk p.wQ=0∧ ∃ l,b=mkB p l∧s=cJ dk l∧(l.length:Int)=p.wR∧(∀ x,x∈l→okRc x)∧chk b=0:=by
 unfold iB at h
 by_cases ha:bk p.wQ=0
 ·rw[if_pos ha] at h
  refine⟨ha,?_⟩
  cases hr:ge p.wR.toNat s 0 with
  | error e=>rw[hr] at h; exact nomatch h
  | ok x =>
   obtain⟨l,r⟩:=x
   rw[hr] at h
   dsimp only at h
   by_cases hl:r<s.length
   ·rw[if_pos hl] at h; exact nomatch h
   rw[if_neg hl] at h
   by_cases hc:chk (mkB p l)=0
   ·rw[if_pos hc] at h
    injection h with h
    subst h
    obtain⟨b1,b2,b3,b4,b5⟩:=gT _ s 0 l r (xH _) hr
    rw[List.take_of_length_le (by omega),List.take_zero,xy] at b3
    exact⟨l,rfl,b3,by omega,b5,hc⟩
   ·rw[if_neg hc] at h; exact nomatch h
 ·rw[if_neg ha] at h; exact nomatch h
theorem pB_mk {p:Pfx} {l:List Rec} (h1:(49:Int)+((cJ dk l).length:Int)=p.wM) (h2:bk p.wQ=0) (h3:(l.length:Int)=p.wR) (s:Int):pB (mkB p l) s=⟨p.wG,p.wM,p.wz,s,p.wQ,p.wE,p.wx,p.wJ,p.ww,p.wA,p.wv,p.wR⟩:=by
 unfold pB mkB body
 dsimp only
 rw[h1,h3,np h2]
theorem tz:Sp eK dX okB:=by
 refine⟨fun s q b r hq h=> ?_,fun s t q a hq ha hd=> ?_⟩
 ·unfold eK at h
  cases hp:nZ s q with
  | error e=>rw[hp] at h; exact nomatch h
  | ok x =>
   obtain⟨p,m⟩:=x
   rw[hp] at h
   dsimp only at h
   obtain⟨a1,a2,a3,a4,a5,a6,a7,a8⟩:=n7.spell s q p m hq hp
   by_cases hl:s.length<m+(p.wM - 49).toNat
   ·rw[if_pos hl] at h; exact nomatch h
   rw[if_neg hl] at h
   by_cases hs:((qA p ((s.drop m).take (p.wM - 49).toNat):Nat):Int)=p.wT
   ·rw[if_pos hs] at h
    cases ho:iB p ((s.drop m).take (p.wM - 49).toNat) with
    | error e=>rw[ho] at h; exact nomatch h
    | ok b' =>
     rw[ho] at h
     injection h with h
     obtain⟨rfl,rfl⟩:=xQ h
     obtain⟨k1,l,rfl,k3,k4,k5,k6⟩:=tw ho a8
     have hn:((s.drop m).take (p.wM - 49).toNat).length=(p.wM - 49).toNat:=by rw[xx,xe]; omega
     have e1:(49:Int)+((cJ dk l).length:Int)=p.wM:=by rw[← k3,hn]; omega
     have e2:((kC (mkB p l):Nat):Int)=p.wT:=by
      rw[← hs,k3]
      unfold kC
      rw[pB_mk e1 k1 k4]
      rfl
     have e3:pB (mkB p l) (kC (mkB p l))=p:=by rw[pB_mk e1 k1 k4,e2]
     have e4:dX (mkB p l)=iU p++(s.drop m).take (p.wM - 49).toNat:=by
      unfold dX
      rw[e3,k3]
      rfl
     have a9:=congrArg List.length a4
     refine⟨by omega,by omega,?_,?_,?_⟩
     ·rw[e4,xf,hn]; omega
     ·rw[e4,iL,a4,xq]
     ·refine⟨by rw[e3]; exact⟨a5,a6,a7,a8⟩,?_,k5,k6⟩
      show bk (gi (bH p.wQ 3) (bH p.wQ 4) (bH p.wQ 5))=0
      rw[np k1]
      exact k1
   ·rw[if_neg hs] at h; exact nomatch h
 ·obtain⟨h1,h2,h3,h4⟩:=ha
  unfold dX at hd
  rw[xq] at hd
  have hp:=n7.back s _ q _ hq h1 hd
  have hd2:=cM hd
  have hl:=congrArg List.length hd
  rw[xe,xf,xf] at hl
  have hn:((pB a (kC a)).wM - 49).toNat=(body a).length:=by
   show ((49:Int)+((body a).length:Int) - 49).toNat= _
   omega
  have ht:(s.drop (q+(iU (pB a (kC a))).length)).take (body a).length=body a:=by rw[hd2,List.take_left]
  unfold eK
  rw[hp]
  dsimp only
  rw[hn,ht,if_neg (by omega),if_pos (show ((qA (pB a (kC a)) (body a):Nat):Int)=(pB a (kC a)).wT from rfl)]
  have hr:=nn a.ws (body a) [] 0 (xH _) h3 (by rw[List.drop_zero,xN]; rfl)
  have ho:iB (pB a (kC a)) (body a)= .ok a:=by
   unfold iB
   rw[if_pos (show bk (pB a (kC a)).wQ=0 from h2),show (pB a (kC a)).wR.toNat=a.ws.length from rfl,hr]
   dsimp only
   obtain⟨b1,b2,b3⟩:=rk a.wH a.wN a.wF
   have e:mkB (pB a (kC a)) a.ws=a:=by
    unfold mkB pB
    dsimp only
    rw[b1,b2,b3]
   rw[e,if_neg (by show ¬ 0+(body a).length < _; omega),if_pos h4]
  rw[ho]
  dsimp only
  unfold dX
  rw[xf,Nat.add_assoc]
def zBat:Bat:=⟨0,0,false,false,false,0,0,0,0,0,0,[]⟩
def bnR (r:Rec):Prop:=r.wy.length≤1000000∧r.wC.data.length≤1000000∧r.wt.data.length≤1000000
def bnB (a:Bat):Prop:=nA a∧a.ws.length≤1000000∧ ∀ r,r∈a.ws→bnR r
theorem iC {α:Type} (enc:α→List UInt8): ∀ (l:List α) (x:α),x∈l→(enc x).length≤(cJ enc l).length
 | y::l,x,h=>by
  rw[cJ,xf]
  rcases List.mem_cons.1 h with rfl | h
  ·omega
  ·have:=iC enc l x h
   omega
theorem jZ {α:Type} (enc:α→List UInt8): ∀ (l:List α),(∀ x,x∈l→0<(enc x).length)→l.length≤(cJ enc l).length
 | [],_=>xH _
 | y::l,h=>by
  rw[cJ,xf,xw]
  have h1:=h y (.head _)
  have:=jZ enc l (fun x hx=>h x (.tail _ hx))
  omega
theorem sd (h:Hd):0<(eO h).length:=by
 unfold eO
 simp only[xf]
 have:=fz (aK (h.wC.length:Int))
 omega
theorem qB {x:Rec} (h:nh x) (hl:(dk x).length≤1000000):pX x∧bnR x:=by
 obtain⟨_,h2,h3⟩:=pj h
 have e:(dk x).length=(ci (aK ((bP x).length:Int))).length+(bP x).length:=by unfold dk; rw[xf]
 have e2:(bP x).length≤1000000:=by omega
 simp only[bP,g8,kV,xf,cC] at e2
 have h4:=jZ eO x.wy (fun y _=>sd y)
 have hS: ∀ d:List UInt8,d.length≤1000000→wS d:=fun d hd=>by unfold wS; omega
 refine⟨⟨h2,h3,⟨trivial,hS _ (by omega)⟩,⟨trivial,hS _ (by omega)⟩,by omega,fun y hy=> ?_⟩,by omega,by omega,by omega⟩
 have h5:=iC eO x.wy y hy
 have h6:(eO y).length≤1000000:=by omega
 simp only[eO,xf] at h6
 exact⟨hS _ (by omega),trivial,hS _ (by omega)⟩
theorem tA {a:Bat} (h:bnB a):bJ a=some (chk a)∧bq a=some (chk a):=by
 obtain⟨cr,e0,h1,h2,_⟩:=qn a h.1 h.2.1 h.2.2
 have e:chk a=qm a cr e0:=by unfold chk; rw[h1]; rfl
 rw[e]
 exact⟨h1,h2⟩
theorem tB (n:Int):de n 8=decide (-9223372036854775808≤n∧n≤9223372036854775807):=by
 rw[Bool.eq_iff_iff]
 unfold de
 simp only[Bool.and_eq_true,decide_eq_true_eq]
 have:(2:Int) ^ (8*(8:Int).toNat - 1)=9223372036854775808:=by decide
 omega
theorem wI8 {n:Int} (h:de n (8:Nat)=true):wI n:=by
 have h':de n 8=true:=h
 rw[tB] at h'
 have h2:=of_decide_eq_true h'
 exact h2
theorem wI4 {n:Int} (h:de n (4:Nat)=true): -2147483648≤n∧n≤2147483647:=by
 have h':de n 4=true:=h
 rw[fA] at h'
 exact of_decide_eq_true h'
theorem wI2 {n:Int} (h:de n (2:Nat)=true): -32768≤n∧n≤32767:=by
 have h':de n 2=true:=h
 rw[pc] at h'
 exact of_decide_eq_true h'
theorem jy {p:Pfx} (hp:okP p) {l:List Rec} (hl: ∀ x,x∈l→okRc x) (hb:(cJ dk l).length≤1000000):bnB (mkB p l):=by
 obtain⟨⟨k1,k2,k3,_,k5,k6,k7,k8,k9,k10,k11,k12,k13,_⟩,_,_,_⟩:=hp
 have w4: ∀ {n:Int},de n (4:Nat)=true→wI n:=fun h=>by have:=wI4 h; unfold wI; omega
 have w2: ∀ {n:Int},de n (2:Nat)=true→wI n:=fun h=>by have:=wI2 h; unfold wI; omega
 have hr: ∀ x,x∈l→pX x∧bnR x:=fun x hx=>qB (hl x hx).1 (by have:=iC dk l x hx; omega)
 have h4:=jZ dk l (fun y _=>gS y)
 exact⟨⟨wI8 k1,w4 k3,trivial,trivial,trivial,w4 k7,wI8 k8,wI8 k9,wI8 k10,w2 k11,w4 k12,by show l.length≤ _; omega,fun x hx=>(hr x hx).1⟩,by show l.length≤ _; omega,fun x hx=>(hr x hx).2⟩
theorem pw (p:Pfx) (hc:p.wR≤2147483647) (s:List UInt8) (hs:s.length≤1000000) (y:Int): ∀ (n k fuel:Nat) (acc:List Rec) (q:Nat),((k+n:Nat):Int)=p.wR→n<fuel→q≤s.length→acc.length≤q →
 (∃ e,ge n s q= .error e∧e≠0∧bA p fuel y k acc ⟨s.drop q,q,0⟩=some (.ret (zBat,e)))∨(∃ l r,ge n s q= .ok (l,r)∧q≤r∧r≤s.length∧bA p fuel y k acc ⟨s.drop q,q,0⟩=some (.go (y,k+n,acc++l,⟨s.drop r,r,0⟩)))
 | 0,k,fuel+1,acc,q,hk,hf,hq,ha=> .inr ⟨[],q,rfl,xB _,hq,by rw[bA,if_neg (by omega),xN,Nat.add_zero]⟩
 | n+1,k,fuel+1,acc,q,hk,hf,hq,ha=>by
  rw[bA,if_pos (by omega),lR,xb]
  dsimp only
  rw[xe,ge]
  by_cases hz:q=s.length
  ·rw[if_pos (by omega)]
   exact .inl ⟨10,Pr.bind_err (if_pos hz),by decide,rfl⟩
  rw[if_neg (by omega),Pr.bind_of (show pv s q= .ok ((),q) from if_neg hz)]
  rcases B_rec.run s q hs hq with⟨e,st,p1,g1,x1,y1⟩ | ⟨b,r,p1,g1,n1,l1⟩
  ·rw[g1,xb]
   dsimp only
   rw[bU,xb]
   dsimp only
   rw[if_neg y1]
   exact .inl ⟨e,Pr.bind_err p1,by rw[← x1]; exact y1,by rw[x1]; rfl⟩
  ·have h3:=(n9.spell s q b r hq p1).2.2.1
   have h4:=gS b
   rw[g1,xb]
   dsimp only
   rw[bU,xb]
   dsimp only
   rw[if_pos rfl,if_pos (by omega),if_pos (by omega),Pr.bind_of p1]
   rcases pw p hc s hs y n (k+1) fuel (acc ++ [b]) r (by omega) (by omega) l1 (by rw[xf,yk]; omega) with⟨e,q1,q2,q3⟩ | ⟨l,m,q1,q2,q3,q4⟩
   ·exact .inl ⟨e,Pr.bind_err q1,q2,q3⟩
   ·exact .inr ⟨b::l,m,by rw[Pr.bind_of q1]; rfl,by omega,q3,by rw[q4,xq,show k+1+n=k+(n+1) by omega]; rfl⟩
theorem bopen {p:Pfx} (hp:okP p) (s:List UInt8) (hs:s.length≤1000000):(∃ e x,iB p s= .error e∧e≠0∧dV p s=some (x,e))∨(∃ b,iB p s= .ok b∧dV p s=some (b,0)):=by
 obtain⟨k1,k2,k3,k4⟩:=id hp
 have ha:=wI2 k1.2.2.2.2.2.1
 have hc:=wI4 k1.2.2.2.2.2.2.2.2.2.2.2.2.1
 try dsimp only at ha
 unfold dV iB
 rw[qh _ (by omega),xb]
 by_cases h0:bk p.wQ=0
 rotate_left
 ·rw[if_neg h0,if_neg h0]
  exact .inl ⟨_,_,rfl,h0,rfl⟩
 rw[if_pos h0,if_pos h0,rV,xb]
 dsimp only
 rw[fZ _ (by omega),xb]
 rcases pw p hc.2 s hs 0 p.wR.toNat 0 (p.wR.toNat+1) [] 0 (by omega) (by omega) (xH _) (xH _) with⟨e,q1,q2,q3⟩ | ⟨l,m,q1,q2,q3,q4⟩
 ·rw[List.drop_zero] at q3
  rw[q3,q1]
  exact .inl ⟨e,_,rfl,q2,rfl⟩
 ·rw[List.drop_zero] at q4
  obtain⟨b1,b2,b3,b4,b5⟩:=gT _ s 0 l m (xH _) q1
  rw[q4,q1,xb]
  dsimp only
  rw[lR,xb]
  dsimp only
  rw[xe]
  by_cases hl:m<s.length
  ·rw[if_pos hl,if_pos (show ((s.length - m:Nat):Int)>0 by omega)]
   exact .inl ⟨_,_,rfl,by decide,rfl⟩
  ·rw[if_neg hl,if_neg (show ¬ ((s.length - m:Nat):Int)>0 by omega)]
   rw[List.take_of_length_le (by omega),List.take_zero,xy] at b3
   have hB:=jy hp b5 (by rw[← b3]; exact hs)
   have e:bJ (⟨p.wG,p.wz,bH p.wQ 3,bH p.wQ 4,bH p.wQ 5,p.wE,p.wx,p.wJ,p.ww,p.wA,p.wv,[]++l⟩:Bat)=some (chk (mkB p l)):=(tA hB).1
   rw[e,xb]
   by_cases hk:chk (mkB p l)=0
   ·rw[if_pos hk,hk]
    exact .inr ⟨_,rfl,rfl⟩
   ·rw[if_neg hk]
    exact .inl ⟨_,_,rfl,hk,rfl⟩
theorem B_bat:CB dW eK zBat:=by
 refine⟨fun st h=> ?_,fun s q hs hq=> ?_⟩
 ·unfold dW
  rw[sV.dead st h,xb]
  dsimp only
  rw[if_pos (by decide),lS _ _ (by decide),xb]
  dsimp only
  have e:bd st ((0:Int) - 49)=([],st):=if_pos h
  rw[show zP.wM=(0:Int) from rfl,e,bU,xb]
  dsimp only
  rw[if_neg h]
  rfl
 ·unfold dW eK
  rcases sV.run s q hs hq with⟨e,st,p1,g1,x1,y1⟩ | ⟨p,r,p1,g1,n1,l1⟩
  ·refine .inl ⟨e,st,by rw[p1],?_,x1,y1⟩
   rw[g1,xb]
   dsimp only
   rw[if_pos (by decide),lS _ _ (by decide),xb]
   dsimp only
   have e:bd st ((0:Int) - 49)=([],st):=if_pos y1
   rw[show zP.wM=(0:Int) from rfl,e,bU,xb]
   dsimp only
   rw[if_neg y1]
   rfl
  ·obtain⟨a1,a2,a3,a4,ap⟩:=n7.spell s q p r hq p1
   obtain⟨k1,k2,k3,k4⟩:=id ap
   have hL:=wI4 k1.2.1
   try dsimp only at hL
   have hT: -9223372036854775808≤p.wM - 49∧p.wM - 49≤9223372036854775807:=by omega
   rw[g1,xb,p1]
   dsimp only
   rw[if_pos hT,lS _ _ hT,xb]
   dsimp only
   by_cases hl:s.length<r+(p.wM - 49).toNat
   ·have e:bd ⟨s.drop r,r,0⟩ (p.wM - 49)=([],⟨s.drop r,r,1⟩):=by
     unfold bd
     rw[if_neg (by simp),if_neg (by omega),if_pos (by rw[xe]; omega)]
    rw[if_pos hl,e,bU,xb]
    exact .inl ⟨1,⟨s.drop r,r,1⟩,rfl,rfl,rfl,by show (1:Int)≠0; decide⟩
   have e:bd ⟨s.drop r,r,0⟩ (p.wM - 49)=((s.drop r).take (p.wM - 49).toNat,⟨s.drop (r+(p.wM - 49).toNat),r+(p.wM - 49).toNat,0⟩):=by
    unfold bd
    rw[if_neg (by simp),if_neg (by omega),if_neg (by rw[xe]; omega),xM]
   rw[if_neg hl,e,bU,xb]
   dsimp only
   have hn:((s.drop r).take (p.wM - 49).toNat).length=(p.wM - 49).toNat:=by rw[xx,xe]; omega
   generalize (s.drop r).take (p.wM - 49).toNat=b at hn
   have hlen:(iU p).length=61:=mf k1
   rw[if_pos rfl,sY [] ⟨k1,k2⟩ (by decide),xb,xy,rJ,xb]
   dsimp only
   rw[otx_z,uo,xb]
   dsimp only
   rw[if_pos (show 21≤(iU p).length by omega)]
   have hp21:(dl p).length≤61:=by rw[← kB p,xe]; omega
   have hs2 : [dl p,b].flatten=dl p++b:=by simp
   rw[kB,up [dl p,b] (by intro t ht; rcases List.mem_cons.1 ht with rfl | ht; omega; rw[List.mem_singleton.1 ht]; omega),xb,hs2]
   dsimp only
   have hlt:gG 0 (dl p++b)<4294967296:=oc (by decide) _
   rw[if_pos (show -9223372036854775808≤((gG 0 (dl p++b):Nat):Int)∧((gG 0 (dl p++b):Nat):Int)≤9223372036854775807 by omega)]
   by_cases hsum:((qA p b:Nat):Int)=p.wT
   rotate_left
   ·rw[if_neg hsum,if_neg (show ¬ ((gG 0 (dl p++b):Nat):Int)=p.wT from hsum),dS,xb]
    exact .inl ⟨5,_,rfl,rfl,rfl,by show (5:Int)≠0; decide⟩
   rw[if_pos hsum,if_pos (show ((gG 0 (dl p++b):Nat):Int)=p.wT from hsum)]
   rcases bopen ap b (by omega) with⟨e,x,o1,o2,o3⟩ | ⟨x,o1,o3⟩
   ·rw[o1,o3,xb]
    dsimp only
    rw[if_neg o2,dS,xb]
    exact .inl ⟨e,_,rfl,rfl,rfl,o2⟩
   ·rw[o1,o3,xb]
    dsimp only
    rw[if_pos rfl]
    exact .inr ⟨x,_,rfl,rfl,by omega,by omega⟩
def smB (a:Bat):Prop:=bnB a∧(∀ r,r∈a.ws→rwt r≤900000)∧(body a).length≤900000
theorem kD {a:Bat} (h:okB a):(dX a).length=61+(body a).length:=by
 unfold dX
 rw[xf,mf h.1.1]
def jz:List Rec→List Rec→Bool
 | x::l,y::m=>nj x y && jz l m
 | _,_=>true
def mr (a b:Bat):Bool:=decide (a.wG=b.wG∧a.wz=b.wz∧a.wH=b.wH∧a.wN=b.wN∧a.wF=b.wF∧a.wE=b.wE∧a.wx=b.wx∧a.wJ=b.wJ∧a.ww=b.ww∧a.wA=b.wA∧a.wv=b.wv∧a.ws.length=b.ws.length) && jz a.ws b.ws
theorem kY: ∀ l:List Rec,jz l l=true
 | []=>rfl
 | x::l=>by rw[jz,qw,kY l]; rfl
theorem qC (a:Bat):mr a a=true:=by
 unfold mr
 rw[kY]
 simp
theorem rl (a b:Bat) (hn:a.ws.length≤1000000) (y:Bool): ∀ (l m:List Rec) (k fuel:Nat),a.ws.drop k=l→b.ws.drop k=m→l.length=m.length→l.length<fuel→(∀ x,x∈l→x.wy.length≤1000000)→ ∃ z,cA a b fuel y k=some (if jz l m=true then .go (y,z) else .ret false)
 | [],m,k,fuel+1,h1,h2,hl,hf,_=>by
  have:=en h1
  exact⟨k,by rw[cA,if_neg (by omega)]; rfl⟩
 | x::l,v::m,k,fuel+1,h1,h2,hl,hf,hw=>by
  obtain⟨g1,g2,g3⟩:=dE h1
  obtain⟨k1,k2,k3⟩:=dE h2
  rw[xw] at hf
  rw[xw,xw] at hl
  obtain⟨z,hz⟩:=rl a b hn y l m (k+1) fuel g2 k2 (by omega) (by omega) (fun u hu=>hw u (.tail _ hu))
  refine⟨z,?_⟩
  rw[cA,if_pos (by omega),g1,xb,k1,xb,tb x v (hw x (.head _)),xb,jz,if_pos (show -9223372036854775808≤(k:Int)+1∧(k:Int)+1≤9223372036854775807 by omega),hz]
  cases nj x v <;> rfl
theorem tC {a b:Bat} (hn:a.ws.length≤1000000) (hw: ∀ x,x∈a.ws→x.wy.length≤1000000):fP a b=some (mr a b):=by
 have hL: ∀ o:Option Bool,o=some (mr a b)∨True:=fun _=> .inr trivial
 unfold fP mr
 by_cases c1:a.wG=b.wG
 rotate_left
 ·rw[if_neg c1,xb,if_pos rfl,wZ (fun h=>c1 h.1)]; rfl
 by_cases c2:a.wz=b.wz
 rotate_left
 ·rw[if_pos c1,if_neg c2,xb,if_pos rfl,wZ (fun h=>c2 h.2.1)]; rfl
 by_cases c3:a.wH=b.wH
 rotate_left
 ·rw[if_pos c1,if_pos c2,if_neg (by simpa using c3),xb,if_pos rfl,wZ (fun h=>c3 h.2.2.1)]; rfl
 by_cases c4:a.wN=b.wN
 rotate_left
 ·rw[if_pos c1,if_pos c2,if_pos (by simpa using c3),if_neg (by simpa using c4),xb,if_pos rfl,wZ (fun h=>c4 h.2.2.2.1)]; rfl
 by_cases c5:a.wF=b.wF
 rotate_left
 ·rw[if_pos c1,if_pos c2,if_pos (by simpa using c3),if_pos (by simpa using c4),if_neg (by simpa using c5),xb,if_pos rfl,wZ (fun h=>c5 h.2.2.2.2.1)]; rfl
 rw[if_pos c1,if_pos c2,if_pos (by simpa using c3),if_pos (by simpa using c4),if_pos (by simpa using c5)]
 by_cases c6:a.wE=b.wE
 rotate_left
 ·rw[if_neg c6,xb,if_pos rfl,wZ (fun h=>c6 h.2.2.2.2.2.1)]; rfl
 by_cases c7:a.wx=b.wx
 rotate_left
 ·rw[if_pos c6,if_neg c7,xb,if_pos rfl,wZ (fun h=>c7 h.2.2.2.2.2.2.1)]; rfl
 by_cases c8:a.wJ=b.wJ
 rotate_left
 ·rw[if_pos c6,if_pos c7,if_neg c8,xb,if_pos rfl,wZ (fun h=>c8 h.2.2.2.2.2.2.2.1)]; rfl
 by_cases c9:a.ww=b.ww
 rotate_left
 ·rw[if_pos c6,if_pos c7,if_pos c8,if_neg c9,xb,if_pos rfl,wZ (fun h=>c9 h.2.2.2.2.2.2.2.2.1)]; rfl
 by_cases c10:a.wA=b.wA
 rotate_left
 ·rw[if_pos c6,if_pos c7,if_pos c8,if_pos c9,if_neg c10,xb,if_pos rfl,wZ (fun h=>c10 h.2.2.2.2.2.2.2.2.2.1)]; rfl
 by_cases c11:a.wv=b.wv
 rotate_left
 ·rw[if_pos c6,if_pos c7,if_pos c8,if_pos c9,if_pos c10,if_neg c11,xb,if_pos rfl,wZ (fun h=>c11 h.2.2.2.2.2.2.2.2.2.2.1)]; rfl
 by_cases c12:a.ws.length=b.ws.length
 rotate_left
 ·rw[if_pos c6,if_pos c7,if_pos c8,if_pos c9,if_pos c10,if_pos c11,if_neg (by omega),xb,if_pos rfl,wZ (fun h=>c12 h.2.2.2.2.2.2.2.2.2.2.2)]; rfl
 obtain⟨z,hz⟩:=rl a b hn false a.ws b.ws 0 (((a.ws.length:Int)).toNat+1) rfl rfl c12 (by omega) hw
 rw[if_pos c6,if_pos c7,if_pos c8,if_pos c9,if_pos c10,if_pos c11,if_pos (by omega),xb,if_neg (by decide),hz,wY ⟨c1,c2,c3,c4,c5,c6,c7,c8,c9,c10,c11,c12⟩,Bool.true_and]
 cases jz a.ws b.ws <;> rfl
def vI (s:List UInt8) (q k:Nat):Int:=bK ((s.drop q).take k)
def px (s:List UInt8):List Nat→Nat→List Int
 | [],_ => []
 | k::ks,q=>vI s q k::px s ks (q+k)
theorem ms (s:List UInt8): ∀ (ks:List Nat) (q:Nat),q+ks.sum≤s.length→jX ks s q= .ok (px s ks q,q+ks.sum)
 | [],q,_=>rfl
 | k::ks,q,h=>by
  rw[List.sum_cons] at h
  have h1:gl k s q= .ok (vI s q k,q+k):=by unfold gl; rw[if_neg (by omega)]; rfl
  rw[jX,Pr.bind_of h1,Pr.bind_of (ms s ks (q+k) (by omega)),List.sum_cons,← Nat.add_assoc]
  rfl
theorem kZ (s:List UInt8): ∀ (ks:List Nat) (q:Nat),q≤s.length→s.length<q+ks.sum→jX ks s q= .error 1
 | [],q,h1,h2=>by rw[List.sum_nil] at h2; omega
 | k::ks,q,h1,h2=>by
  rw[List.sum_cons] at h2
  rw[jX]
  by_cases h:s.length<q+k
  ·exact Pr.bind_err (by unfold gl; rw[if_pos h])
  ·have h3:gl k s q= .ok (vI s q k,q+k):=by unfold gl; rw[if_neg h]; rfl
   rw[Pr.bind_of h3,Pr.bind_err (kZ s ks (q+k) (by omega) (by omega))]
theorem nq (s:List UInt8) (n:Nat): ∀ (ks:List Nat) (q:Nat),q+ks.sum≤n→px (s.take n) ks q=px s ks q
 | [],_,_=>rfl
 | k::ks,q,h=>by
  rw[List.sum_cons] at h
  unfold px
  rw[nq s n ks (q+k) (by omega)]
  congr 1
  unfold vI
  rw[List.drop_take,List.take_take,Nat.min_eq_left (by omega)]
def pOf (s:List UInt8):Pfx:=⟨vI s 0 8,vI s 8 4,vI s 12 4,vI s 17 4 % 4294967296,vI s 21 2,vI s 23 4,vI s 27 8,vI s 35 8,vI s 43 8,vI s 51 2,vI s 53 4,vI s 57 4⟩
def eOf (s:List UInt8):Int:=ckE (vI s 8 4) (vI s 16 1) (vI s 57 4)
theorem lG (s:List UInt8) (h:61≤s.length):nZ s 0=if eOf s=0 then .ok (pOf s,61) else .error (eOf s):=by
 rw[nZ,Pr.bind_of (ms s KS 0 (by show 0+61≤ _; omega))]
 show (if eOf s=0 then Pr.ret (pOf s) else Pr.err (eOf s)) s 61= _
 by_cases he:eOf s=0
 ·rw[if_pos he,if_pos he]; rfl
 ·rw[if_neg he,if_neg he]; rfl
theorem ut (s:List UInt8) (h:61≤s.length) (hl:s.length≤1000000):(eOf s=0∧db ⟨s,0,0⟩=some (pOf s,⟨s.drop 61,61,0⟩))∨(eOf s≠0∧ ∃ st:I,db ⟨s,0,0⟩=some (zP,st)∧st.err=eOf s):=by
 have h1:=lG s h
 rcases sV.run s 0 hl (xH _) with⟨e,st,p1,g1,x1,y1⟩ | ⟨b,r,p1,g1,n1,l1⟩
 ·rw[p1] at h1
  by_cases he:eOf s=0
  ·rw[if_pos he] at h1; exact nomatch h1
  ·rw[if_neg he] at h1
   injection h1 with h1
   exact .inr ⟨he,st,g1,by rw[x1,h1]⟩
 ·rw[p1] at h1
  by_cases he:eOf s=0
  ·rw[if_pos he] at h1
   injection h1 with h1
   obtain⟨rfl,rfl⟩:=xQ h1
   exact .inl ⟨he,g1⟩
  ·rw[if_neg he] at h1; exact nomatch h1
theorem kE (s:List UInt8) (h:61≤s.length):okI KS (px s KS 0):=((lB KS sS).spell s 0 _ _ (xH _) (ms s KS 0 (by show 0+61≤ _; omega))).2.2.2.2
theorem r10_at (s:List UInt8) (a k:Nat) (h:a+k≤s.length) (hk:k≤8) (hl:s.length≤1000000):cn s (a:Int) (k:Int)=some (vI s a k):=by
 unfold cn
 rw[if_pos (by omega),if_pos (by omega),show ((a:Int)+(k:Int)).toNat - (a:Int).toNat=k by omega,xC,ie _ (by rw[xx]; omega)]
 rfl
theorem mt (s:List UInt8) (h:61≤s.length) (hl:s.length≤1000000):cV s=some (if eOf s=0 then (fS (pOf s),0) else ([],eOf s)):=by
 have hf:=(kE s h).2.2.2.2.1
 have hs:de (vI s 17 4) 4=true:=hf
 rw[fA] at hs
 have hs:=of_decide_eq_true hs
 have hy:(if vI s 17 4<0 then (if -9223372036854775808≤(vI s 17 4+4294967296)∧(vI s 17 4+4294967296)≤9223372036854775807 then some (vI s 17 4+4294967296) else none) else some (vI s 17 4))=some (vI s 17 4 % 4294967296):=by
  by_cases q:vI s 17 4<0
  ·rw[if_pos q,if_pos (by omega)]; congr 1; omega
  ·rw[if_neg q]; congr 1; omega
 unfold cV
 rw[if_neg (by omega)]
 have A:=fun (a k:Nat) (h1:a+k≤61) (h2:k≤8)=>r10_at s a k (by omega) h2 hl
 have a1:=A 17 4 (by decide) (by decide)
 have a2:=A 0 8 (by decide) (by decide)
 have a3:=A 8 4 (by decide) (by decide)
 have a4:=A 12 4 (by decide) (by decide)
 have a5:=A 21 2 (by decide) (by decide)
 have a6:=A 23 4 (by decide) (by decide)
 have a7:=A 27 8 (by decide) (by decide)
 have a8:=A 35 8 (by decide) (by decide)
 have a9:=A 43 8 (by decide) (by decide)
 have a10:=A 51 2 (by decide) (by decide)
 have a11:=A 53 4 (by decide) (by decide)
 have a12:=A 57 4 (by decide) (by decide)
 have a13:=A 16 1 (by decide) (by decide)
 simp only[Int.cast_ofNat_Int] at a1 a2 a3 a4 a5 a6 a7 a8 a9 a10 a11 a12 a13
 rw[a1,xb,hy,xb,a2,xb,a3,xb,a4,xb,a5,xb,a6,xb,a7,xb,a8,xb,a9,xb,a10,xb,a11,xb,a12,xb,a13,xb]
 unfold eOf ckE
 by_cases h1:vI s 16 1=2
 ·rw[if_pos h1,if_pos h1]
  show ((some (vI s 8 4)).bind _)= _
  rw[xb]
  by_cases h2:vI s 8 4<49
  ·rw[if_pos h2,if_pos h2,if_neg (by decide)]
  ·rw[if_neg h2,if_neg h2]
   show ((some (vI s 57 4)).bind _)= _
   rw[xb]
   by_cases h3:vI s 57 4<0
   ·rw[if_pos h3,if_pos h3,if_neg (by decide)]
   ·rw[if_neg h3,if_neg h3,if_pos rfl]
    rfl
 ·rw[if_neg h1,if_neg h1,if_neg (by decide)]
theorem lH (s:List UInt8) (h:61≤s.length) (hl:s.length≤1000000):aZ s=some (if eOf s=0 then (vI s 8 4+12,0) else (0,eOf s)):=by
 have hv:=(kE s h).2.1
 have hb:de (vI s 8 4) 4=true:=hv
 rw[fA] at hb
 have hb:=of_decide_eq_true hb
 have ht:(s.take 61).length=61:=by rw[xx]; omega
 have e0:=nq s 61 KS 0 (by decide)
 have e1:pOf (s.take 61)=pOf s:=by
  have:=congrArg (fun l:List Int=>(l[0]?,l[1]?,l[2]?,l[4]?,l[5]?,l[6]?,l[7]?,l[8]?,l[9]?,l[10]?,l[11]?,l[12]?)) e0
  simp only[px,KS,List.getElem?_cons_zero,List.getElem?_cons_succ,Prod.mk.injEq,Option.some.injEq,Nat.zero_add,Nat.reduceAdd] at this
  obtain⟨q1,q2,q3,q4,q5,q6,q7,q8,q9,q10,q11,q12⟩:=this
  unfold pOf
  rw[q1,q2,q3,q4,q5,q6,q7,q8,q9,q10,q11,q12]
 have e2:eOf (s.take 61)=eOf s:=by
  have:=congrArg (fun l:List Int=>(l[1]?,l[3]?,l[12]?)) e0
  simp only[px,KS,List.getElem?_cons_zero,List.getElem?_cons_succ,Prod.mk.injEq,Option.some.injEq,Nat.zero_add,Nat.reduceAdd] at this
  obtain⟨q1,q2,q3⟩:=this
  unfold eOf
  rw[q1,q2,q3]
 unfold aZ
 rw[if_neg (by omega),if_pos h,fZ _ (by rw[ht]; decide),xb]
 rcases ut (s.take 61) (by omega) (by omega) with⟨r1,r2⟩ | ⟨r1,st,r2,r3⟩
 ·rw[r2,xb]
  rw[e2] at r1
  dsimp only
  rw[bU,xb]
  dsimp only
  rw[if_pos rfl,e1,if_pos r1]
  show (if -9223372036854775808≤vI s 8 4+12∧vI s 8 4+12≤9223372036854775807 then _ else _)= _
  rw[if_pos (by omega)]
  rfl
 ·rw[r2,xb]
  rw[e2] at r1 r3
  dsimp only
  rw[bU,xb]
  dsimp only
  rw[r3,if_neg r1,if_neg r1]
def fzB:Bat:=⟨0,0,false,false,false,0,0,0,0,0,0,[]⟩
theorem rm (x2:List Int) (n:Int) (h11:x2[11]? = some n) (hn:n≤4294967296) (s:List UInt8) (hs:s.length≤1000000): ∀ (m k fuel:Nat) (acc:List Rec) (q:Nat),((k+m:Nat):Int)=n→m<fuel→q≤s.length→acc.length+(s.length - q)≤1000000 →
 (∃ e,ge m s q= .error e∧e≠0∧cj x2 fuel (s.drop q) k acc=some (.ret ⟨fzB,0,e⟩))∨(∃ l r,ge m s q= .ok (l,r)∧cj x2 fuel (s.drop q) k acc=some (.go (s.drop r,k+m,acc++l)))
 | 0,k,fuel+1,acc,q,h1,h2,h3,h4=> .inr ⟨[],q,rfl,by rw[cj,h11,xb,if_neg (by omega),xN]; rfl⟩
 | m+1,k,fuel+1,acc,q,h1,h2,h3,h4=>by
  have hd:(s.drop q).length=s.length - q:=xe
  rw[cj,h11,xb,if_pos (by omega)]
  by_cases hq:q=s.length
  ·refine .inl ⟨10,Pr.bind_err (if_pos hq),by decide,?_⟩
   rw[if_pos (by rw[hq,List.drop_length])]
   rfl
  have h0:pv s q= .ok ((),q):=if_neg hq
  rw[if_neg (by intro h; rw[h,xR] at hd; omega)]
  rcases s8 s q h3 hs with⟨e,m',p1,e0,g⟩ | ⟨x,r,p1,n1,l1,g⟩
  ·refine .inl ⟨e,by rw[ge,Pr.bind_of h0,Pr.bind_err p1],e0,?_⟩
   rw[g,xb,if_neg e0]
   rfl
  ·have a3:=(n9.spell s q x r h3 p1).2.2.1
   have a4:=gS x
   rw[g,xb,if_pos rfl,if_pos (by omega),if_pos (by dsimp only; rw[xC]; omega),if_pos (by omega)]
   dsimp only
   rw[xC,xM,show q+(r - q)=r by omega]
   rcases rm x2 n h11 hn s hs m (k+1) fuel (acc ++ [x]) r (by omega) (by omega) l1 (by rw[xf,yk]; omega) with⟨e,q1,q2,q3⟩ | ⟨l,r',q1,q2⟩
   ·exact .inl ⟨e,by rw[ge,Pr.bind_of h0,Pr.bind_of p1,Pr.bind_err q1],q2,q3⟩
   ·refine .inr ⟨x::l,r',by rw[ge,Pr.bind_of h0,Pr.bind_of p1,Pr.bind_of q1]; rfl,?_⟩
    rw[q2,xq,show k+1+m=k+(m+1) by omega]
    rfl
theorem be_low (n:Int): ∃ a b,be n 2 = [a,b]∧(b.toNat:Int) % 8=n % 8:=by
 refine⟨_,_,rfl,?_⟩
 rw[UInt8.toNat_ofNat']
 rw[Int.pow_zero,Int.ediv_one]
 omega
theorem se {s:List UInt8} {p:Pfx} (hl:(iU p).length=61) (hd:s.take 61=iU p) (h61:61≤s.length) (L:Nat) (hL:49≤L):(s.drop 21).take (L+12 - 21)=dl p++(s.drop 61).take (L - 49):=by
 have e1:s=iU p++s.drop 61:=by rw[← hd,List.take_append_drop]
 have h40:(dl p).length=40:=by rw[← kB p,xe,hl]
 have e2:s.drop 21=dl p++s.drop 61:=by
  conv=>lhs; rw[e1]
  rw[ri,xq,← nl p,List.drop_left]
 rw[e2,show L+12 - 21=(dl p).length+(L - 49) by omega,List.take_length_add_append]
theorem attr_y {n:Int} (h8:n % 8=0):((if n<0 then some true else (if n>63 then some true else (if n≥32 then (if 0≤n∧n≤9223372036854775807 then (if (n % 32)<16 then some true else some false) else none) else some false))):Option Bool)=some (decide (bk n≠0)):=by
 unfold bk
 rw[if_neg (show ¬ (n % 8≠0) by omega)]
 by_cases c1:n<0
 ·rw[if_pos c1,if_pos (.inl c1)]; rfl
 by_cases c2:n>63
 ·rw[if_neg c1,if_pos c2,if_pos (.inr (.inl (by omega)))]; rfl
 rw[if_neg c1,if_neg c2]
 have h2:n=0∨n=8∨n=16∨n=24∨n=32∨n=40∨n=48∨n=56:=by omega
 rcases h2 with rfl | rfl | rfl | rfl | rfl | rfl | rfl | rfl <;> decide
theorem pz {n:Int} (h:bk n=0):n % 8=0∧0≤n∧n≤63:=by
 unfold bk at h
 split at h
 ·cases h
 ·split at h
  ·cases h
  ·omega
theorem tD {n:Int} (h8:n % 8=0) (h:bk n≠0):bk n=8:=by
 unfold bk at h ⊢
 rw[if_neg (by omega)] at h ⊢
 split at h
 ·rename_i g; rw[if_pos g]
 ·exact absurd rfl h
theorem bits_d {n:Int} (h:bk n=0):decide (n / 8 % 2=1)=bH n 3∧decide (n / 16 % 2=1)=bH n 4∧decide (n / 32=1)=bH n 5:=by
 obtain⟨h1,h2,h3⟩:=pz h
 have h2:n=0∨n=8∨n=16∨n=24∨n=32∨n=40∨n=48∨n=56:=by omega
 rcases h2 with rfl | rfl | rfl | rfl | rfl | rfl | rfl | rfl <;> decide
theorem pA (s:List UInt8) (hs:s.length≤1000000):(∃ e,eK s 0= .error e∧e≠0∧eo s=some ⟨fzB,0,e⟩)∨(∃ b r,eK s 0= .ok (b,r)∧r≤s.length∧eo s=some ⟨b,(r:Int),0⟩):=by
 by_cases h61:61≤s.length
 rotate_left
 ·have hF:cV s=some ([],1):=by unfold cV; rw[if_pos (by omega)]
  have hp:nZ s 0= .error 1:=Pr.bind_err (kZ s KS 0 (xH _) (by show _<0+61; omega))
  refine .inl ⟨1,by unfold eK; rw[hp],by decide,?_⟩
  unfold eo
  rw[hF]
  rfl
 have hp:=lG s h61
 have hB:eK s 0=eK s 0:=rfl
 conv at hB=>rhs; unfold eK; rw[hp]
 unfold eo
 rw[mt s h61 hs,xb]
 by_cases h0:eOf s=0
 rotate_left
 ·rw[if_neg h0] at hB
  rw[if_neg h0]
  dsimp only
  rw[if_neg h0]
  exact .inl ⟨_,hB,h0,rfl⟩
 rw[if_pos h0] at hp hB
 rw[if_pos h0]
 obtain⟨a1,a2,a3,a4,ap⟩:=n7.spell s 0 _ _ (xH _) hp
 rw[List.take_zero,xy] at a4
 obtain⟨k1,k2,k3,k4⟩:=id ap
 have hL:=wI4 k1.2.1
 have hA:=wI2 k1.2.2.2.2.2.1
 have hC:=wI4 k1.2.2.2.2.2.2.2.2.2.2.2.2.1
 have hl61:=mf k1
 generalize pOf s=p at *
 try dsimp only at hL hA hC
 dsimp only at hB ⊢
 rw[if_pos rfl,show (fS p)[1]? = some p.wM from rfl,xb,if_pos (by omega)]
 by_cases hl:s.length<61+(p.wM - 49).toNat
 ·rw[if_pos hl] at hB
  rw[if_pos (by omega)]
  exact .inl ⟨1,hB,by decide,rfl⟩
 rw[if_neg hl] at hB
 rw[if_neg (by omega),show (fS p)[3]? = some p.wT from rfl,xb,if_pos (by omega),ur _ (by rw[xx,xe]; omega),xb]
 have hsp:=se hl61 a4 h61 p.wM.toNat (by omega)
 rw[show p.wM.toNat+12 - 21=(p.wM+12).toNat - 21 by omega,show p.wM.toNat - 49=(p.wM - 49).toNat by omega] at hsp
 rw[hsp]
 have hlt:gG 0 (dl p++(s.drop 61).take (p.wM - 49).toNat)<4294967296:=oc (by decide) _
 rw[if_pos (by omega)]
 by_cases hsum:((qA p ((s.drop 61).take (p.wM - 49).toNat):Nat):Int)=p.wT
 rotate_left
 ·rw[if_neg hsum] at hB
  rw[if_neg (show ¬ (((gG 0 (dl p++(s.drop 61).take (p.wM - 49).toNat):Nat):Int)=p.wT) from hsum)]
  exact .inl ⟨5,hB,by decide,rfl⟩
 rw[if_pos hsum] at hB
 rw[if_pos (show ((gG 0 (dl p++(s.drop 61).take (p.wM - 49).toNat):Nat):Int)=p.wT from hsum),show (fS p)[4]? = some p.wQ from rfl,xb,qa _ _ (by omega),xb]
 obtain⟨ca,cb,hc1,hc2⟩:=be_low p.wQ
 rw[show (2:Int).toNat=2 from rfl,hc1,show ([ca,cb]:List UInt8)[1]? = some cb from rfl,xb,if_pos (by omega),hc2]
 unfold iB at hB
 by_cases h8:p.wQ % 8=0
 rotate_left
 ·have hk:bk p.wQ=9:=if_pos h8
  rw[if_neg (by rw[hk]; decide),hk] at hB
  rw[if_neg h8]
  exact .inl ⟨9,hB,by decide,rfl⟩
 rw[if_pos h8,attr_y h8,xb]
 by_cases hk:bk p.wQ=0
 rotate_left
 ·rw[if_neg hk,tD h8 hk] at hB
  rw[if_pos (wY hk)]
  exact .inl ⟨8,hB,by decide,rfl⟩
 obtain⟨b1,b2,b3⟩:=bits_d hk
 have hr:=pz hk
 rw[if_pos hk] at hB
 rw[if_neg (by rw[decide_eq_true_eq]; exact fun h=>h hk)]
 rw[show (fS p)[0]? = some p.wG from rfl,xb,show (fS p)[2]? = some p.wz from rfl,xb,show (fS p)[5]? = some p.wE from rfl,xb,show (fS p)[6]? = some p.wx from rfl,xb,show (fS p)[7]? = some p.wJ from rfl,xb,show (fS p)[8]? = some p.ww from rfl,xb,show (fS p)[9]? = some p.wA from rfl,xb,show (fS p)[10]? = some p.wv from rfl,xb]
 rw[if_pos (by omega),if_pos (by omega),if_pos (by omega),if_pos (by omega),if_pos (by omega),if_pos (by omega)]
 rw[show (((fS p)[11]?).map (fun x81=>(x81).toNat+1)).getD 0=p.wR.toNat+1 from rfl,show (p.wM+12).toNat - 61=(p.wM - 49).toNat by omega]
 simp only[ite_self,b1,b2,b3]
 have hn:((s.drop 61).take (p.wM - 49).toNat).length=(p.wM - 49).toNat:=by rw[xx,xe]; omega
 generalize (s.drop 61).take (p.wM - 49).toNat=b at hn hB
 rcases rm (fS p) p.wR rfl (by omega) b (by omega) p.wR.toNat 0 (p.wR.toNat+1) [] 0 (by omega) (by omega) (xH _) (by rw[xR]; omega) with⟨e,q1,q2,q3⟩ | ⟨l,r,q1,q2⟩
 ·rw[List.drop_zero] at q3
  rw[q1] at hB
  rw[q3]
  exact .inl ⟨e,hB,q2,rfl⟩
 ·obtain⟨s1,s2,s3,s4,s5⟩:=gT _ b 0 l r (xH _) q1
  rw[List.drop_zero] at q2
  rw[q1] at hB
  rw[q2,xb]
  dsimp only at hB ⊢
  by_cases hl2:r<b.length
  ·rw[if_pos hl2] at hB
   rw[if_neg (by intro h; have:=congrArg List.length h; rw[xe,xR] at this; omega)]
   exact .inl ⟨10,hB,by decide,rfl⟩
  rw[List.take_of_length_le (by omega),List.take_zero,xy] at s3
  rw[if_neg hl2] at hB
  rw[if_pos (List.drop_eq_nil_of_le (by omega)),xy]
  have hbb:=jy ap s5 (by rw[← s3]; omega)
  rw[show (⟨p.wG,p.wz,bH p.wQ 3,bH p.wQ 4,bH p.wQ 5,p.wE,p.wx,p.wJ,p.ww,p.wA,p.wv,l⟩:Bat)=mkB p l from rfl,(tA hbb).2,xb]
  by_cases hk2:chk (mkB p l)=0
  ·rw[if_pos hk2] at hB
   rw[if_pos hk2]
   refine .inr ⟨_,_,hB,by omega,?_⟩
   rw[show ((61+(p.wM - 49).toNat:Nat):Int)=p.wM+12 by omega]
  ·rw[if_neg hk2] at hB
   rw[if_neg hk2]
   exact .inl ⟨_,hB,hk2,rfl⟩
theorem cY (s:List UInt8) (n a k:Nat) (h:a+k≤n):vI (s.take n) a k=vI s a k:=by
 unfold vI
 rw[List.drop_take,List.take_take,Nat.min_eq_left (by omega)]
theorem iD (s:List UInt8) (n:Nat) (h:61≤n):eOf (s.take n)=eOf s:=by
 unfold eOf
 rw[cY s n 8 4 (by omega),cY s n 16 1 (by omega),cY s n 57 4 (by omega)]
theorem tE (s:List UInt8) (n:Nat) (h:61≤n):pOf (s.take n)=pOf s:=by
 unfold pOf
 rw[cY s n 0 8 (by omega),cY s n 8 4 (by omega),cY s n 12 4 (by omega),cY s n 17 4 (by omega),cY s n 21 2 (by omega),cY s n 23 4 (by omega),cY s n 27 8 (by omega),cY s n 35 8 (by omega),cY s n 43 8 (by omega),cY s n 51 2 (by omega),cY s n 53 4 (by omega),cY s n 57 4 (by omega)]
def cg (s:List UInt8):Nat:=(vI s 8 4+12).toNat
theorem iN (s:List UInt8) (n:Nat) (h:61≤n):cg (s.take n)=cg s:=by
 unfold cg
 rw[cY s n 8 4 (by omega)]
theorem ed {s:List UInt8} (h:eOf s=0):61≤cg s∧cg s=61+((pOf s).wM - 49).toNat:=by
 have h1:=(pf h).2.1
 have e:(pOf s).wM=vI s 8 4:=rfl
 rw[e]
 unfold cg
 omega
theorem og {s:List UInt8} (h61:61≤s.length) (h0:eOf s=0) (hl:cg s≤s.length):eK s 0=(if ((qA (pOf s) ((s.drop 61).take ((pOf s).wM - 49).toNat):Nat):Int)=(pOf s).wT then (match iB (pOf s) ((s.drop 61).take ((pOf s).wM - 49).toNat) with | .error e=> .error e | .ok b=> .ok (b,cg s)) else .error 5):=by
 obtain⟨h1,h2⟩:=ed h0
 unfold eK
 rw[lG s h61,if_pos h0]
 dsimp only
 rw[if_neg (by omega),h2]
 all_goals rfl
theorem j0 {s:List UInt8} (t:List UInt8) (h61:61≤s.length) (h0:eOf s=0) (hl:cg s≤s.length):eK (s++t) 0=eK s 0:=by
 obtain⟨h1,h2⟩:=ed h0
 have e1:eOf (s++t)=eOf s:=by have:=iD (s++t) s.length h61; rw[List.take_left] at this; exact this.symm
 have e2:pOf (s++t)=pOf s:=by have:=tE (s++t) s.length h61; rw[List.take_left] at this; exact this.symm
 have e3:cg (s++t)=cg s:=by have:=iN (s++t) s.length h61; rw[List.take_left] at this; exact this.symm
 have e4:((s++t).drop 61).take ((pOf s).wM - 49).toNat=(s.drop 61).take ((pOf s).wM - 49).toNat:=by
  rw[List.drop_append_of_le_length h61,List.take_append_of_le_length (by rw[xe]; omega)]
 rw[og (s:=s++t) (by rw[xf]; omega) (e1.trans h0) (by rw[e3,xf]; omega),og h61 h0 hl,e2,e3,e4]
theorem sf {s:List UInt8} (h61:61≤s.length) (h0:eOf s=0) (hl:cg s≤s.length):eK (s.take (cg s)) 0=eK s 0:=by
 obtain⟨h1,h2⟩:=ed h0
 have h:=j0 (s:=s.take (cg s)) (s.drop (cg s)) (by rw[xx]; omega) ((iD s _ h1).trans h0) (by rw[iN s _ h1,xx]; omega)
 rw[List.take_append_drop] at h
 exact h.symm
theorem fc {s:List UInt8} {b:Bat} {r:Nat} (h61:61≤s.length) (h0:eOf s=0) (hl:cg s≤s.length) (h:eK s 0= .ok (b,r)):r=cg s:=by
 rw[og h61 h0 hl] at h
 split at h
 ·split at h
  ·exact nomatch h
  ·exact (congrArg Prod.snd (Except.ok.inj h)).symm
 ·exact nomatch h
def scn:Nat→List UInt8→List Bat×List UInt8×Int
 | 0,s=>([],s,0)
 | n+1,s=>if s.length<61 then ([],s,0) else if eOf s≠0 then ([],s,eOf s) else if s.length<cg s then ([],s,0) else
  match eK s 0 with
  | .error e=>([],s,e)
  | .ok (b,r)=>(b::(scn n (s.drop r)).1,(scn n (s.drop r)).2)
theorem gH {n:Nat} {s:List UInt8} (h:s.length<61):scn n s=([],s,0):=by
 cases n with
 | zero=>rfl
 | succ n=>unfold scn; rw[if_pos h]
theorem pC: ∀ (n m:Nat) (s:List UInt8),s.length≤n→s.length≤m→scn n s=scn m s
 | 0,m,s,h1,h2=>by rw[gH (by omega),gH (by omega)]
 | n+1,0,s,h1,h2=>by rw[gH (by omega),gH (by omega)]
 | n+1,m+1,s,h1,h2=>by
  unfold scn
  by_cases c1:s.length<61
  ·rw[if_pos c1,if_pos c1]
  rw[if_neg c1,if_neg c1]
  by_cases c2:eOf s≠0
  ·rw[if_pos c2,if_pos c2]
  rw[if_neg c2,if_neg c2]
  by_cases c3:s.length<cg s
  ·rw[if_pos c3,if_pos c3]
  rw[if_neg c3,if_neg c3]
  have h0:eOf s=0:=Decidable.not_not.1 c2
  have hz:=(ed h0).1
  cases hp:eK s 0 with
  | error e=>rfl
  | ok x =>
   obtain⟨b,r⟩:=x
   have hr:=fc (by omega) h0 (by omega) hp
   dsimp only
   rw[pC n m (s.drop r) (by rw[xe]; omega) (by rw[xe]; omega)]
def Scn (s:List UInt8):List Bat×List UInt8×Int:=scn s.length s
theorem cu {s:List UInt8} (h:s.length<61):Scn s=([],s,0):=gH h
theorem gU {s:List UInt8} (h61:61≤s.length) (h:eOf s≠0):Scn s=([],s,eOf s):=by
 unfold Scn
 rw[show s.length=(s.length - 1)+1 by omega,scn,if_neg (by omega),if_pos h]
theorem gI {s:List UInt8} (h61:61≤s.length) (h:eOf s=0) (hl:s.length<cg s):Scn s=([],s,0):=by
 unfold Scn
 rw[show s.length=(s.length - 1)+1 by omega,scn,if_neg (by omega),if_neg (fun hh=>hh h),if_pos hl]
theorem gV {s:List UInt8} {e:Int} (h61:61≤s.length) (h:eOf s=0) (hl:cg s≤s.length) (hp:eK s 0= .error e):Scn s=([],s,e):=by
 unfold Scn
 rw[show s.length=(s.length - 1)+1 by omega,scn,if_neg (by omega),if_neg (fun hh=>hh h),if_neg (by omega),hp]
theorem fd {s:List UInt8} {b:Bat} {r:Nat} (h61:61≤s.length) (h:eOf s=0) (hl:cg s≤s.length) (hp:eK s 0= .ok (b,r)):Scn s=(b::(Scn (s.drop r)).1,(Scn (s.drop r)).2):=by
 have hr:=fc h61 h hl hp
 have hz:=(ed h).1
 unfold Scn
 conv=>lhs; rw[show s.length=(s.length - 1)+1 by omega]
 rw[scn,if_neg (by omega),if_neg (fun hh=>hh h),if_neg (by omega),hp]
 dsimp only
 rw[pC (s.length - 1) (s.drop r).length (s.drop r) (by rw[xe]; omega) (xB _)]
theorem pD: ∀ (n:Nat) (s t:List UInt8),s.length≤n→s.length≤1000000→(Scn s).2.2=0→Scn (s++t)=((Scn s).1++(Scn ((Scn s).2.1++t)).1,(Scn ((Scn s).2.1++t)).2)
 | 0,s,t,hn,hs,h=>by
  have:s = []:=List.length_eq_zero_iff.1 (by omega)
  subst this
  rw[cu (s := []) (by decide)]
  rfl
 | n+1,s,t,hn,hs,h=>by
  by_cases c1:s.length<61
  ·rw[cu c1]; rfl
  have h61:61≤s.length:=by omega
  by_cases c2:eOf s=0
  rotate_left
  ·rw[gU h61 c2] at h; exact absurd h c2
  by_cases c3:s.length<cg s
  ·rw[gI h61 c2 c3]; rfl
  have hl:cg s≤s.length:=by omega
  have hz:=(ed c2).1
  cases hp:eK s 0 with
  | error e =>
   rw[gV h61 c2 hl hp] at h
   exact absurd h (B_bat.nz s 0 e hs (xH _) hp)
  | ok x =>
   obtain⟨b,r⟩:=x
   have hr:=fc h61 c2 hl hp
   have e1:eOf (s++t)=0:=by have:=iD (s++t) s.length h61; rw[List.take_left] at this; rw[← this]; exact c2
   have e3:cg (s++t)=cg s:=by have:=iN (s++t) s.length h61; rw[List.take_left] at this; exact this.symm
   rw[fd h61 c2 hl hp] at h ⊢
   rw[fd (s:=s++t) (by rw[xf]; omega) e1 (by rw[e3,xf]; omega) ((j0 t h61 c2 hl).trans hp),List.drop_append_of_le_length (by omega)]
   have ih:=pD n (s.drop r) t (by rw[xe]; omega) (by rw[xe]; omega) h
   rw[ih]
   rfl
theorem nr: ∀ (n:Nat) (s t:List UInt8),s.length≤n→(Scn s).2.2≠0→Scn (s++t)=((Scn s).1,(Scn s).2.1++t,(Scn s).2.2)
 | 0,s,t,hn,h=>by
  rw[cu (s:=s) (by omega)] at h
  exact absurd rfl h
 | n+1,s,t,hn,h=>by
  by_cases c1:s.length<61
  ·rw[cu c1] at h; exact absurd rfl h
  have h61:61≤s.length:=by omega
  have e1:eOf (s++t)=eOf s:=by have:=iD (s++t) s.length h61; rw[List.take_left] at this; exact this.symm
  have e3:cg (s++t)=cg s:=by have:=iN (s++t) s.length h61; rw[List.take_left] at this; exact this.symm
  have hlt:61≤(s++t).length:=by rw[xf]; omega
  by_cases c2:eOf s=0
  rotate_left
  ·rw[gU h61 c2,gU hlt (by rw[e1]; exact c2),e1]
  by_cases c3:s.length<cg s
  ·rw[gI h61 c2 c3] at h; exact absurd rfl h
  have hl:cg s≤s.length:=by omega
  have hz:=(ed c2).1
  have hl2:cg (s++t)≤(s++t).length:=by rw[e3,xf]; omega
  cases hp:eK s 0 with
  | error e=>rw[gV h61 c2 hl hp,gV hlt (e1.trans c2) hl2 ((j0 t h61 c2 hl).trans hp)]
  | ok x =>
   obtain⟨b,r⟩:=x
   have hr:=fc h61 c2 hl hp
   rw[fd h61 c2 hl hp] at h ⊢
   rw[fd hlt (e1.trans c2) hl2 ((j0 t h61 c2 hl).trans hp),List.drop_append_of_le_length (by omega)]
   have ih:=nr n (s.drop r) t (by rw[xe]; omega) h
   rw[ih]
theorem fy: ∀ (n:Nat) (s:List UInt8),s.length≤n→s=cJ dX (Scn s).1++(Scn s).2.1∧ ∀ b,b∈(Scn s).1→okB b
 | 0,s,hn=>by
  rw[cu (s:=s) (by omega)]
  exact⟨rfl,fun b h=>nomatch h⟩
 | n+1,s,hn=>by
  by_cases c1:s.length<61
  ·rw[cu c1]; exact⟨rfl,fun b h=>nomatch h⟩
  have h61:61≤s.length:=by omega
  by_cases c2:eOf s=0
  rotate_left
  ·rw[gU h61 c2]; exact⟨rfl,fun b h=>nomatch h⟩
  by_cases c3:s.length<cg s
  ·rw[gI h61 c2 c3]; exact⟨rfl,fun b h=>nomatch h⟩
  have hl:cg s≤s.length:=by omega
  have hz:=(ed c2).1
  cases hp:eK s 0 with
  | error e=>rw[gV h61 c2 hl hp]; exact⟨rfl,fun b h=>nomatch h⟩
  | ok x =>
   obtain⟨b,r⟩:=x
   have hr:=fc h61 c2 hl hp
   obtain⟨a1,a2,a3,a4,a5⟩:=tz.spell s 0 b r (xH _) hp
   rw[List.take_zero,xy] at a4
   obtain⟨i1,i2⟩:=fy n (s.drop r) (by rw[xe]; omega)
   rw[fd h61 c2 hl hp]
   refine⟨?_,fun x hx=> ?_⟩
   ·show s=(dX b++cJ dX (Scn (s.drop r)).1)++(Scn (s.drop r)).2.1
    rw[xq,← i1,← a4,List.take_append_drop]
   ·rcases List.mem_cons.1 hx with rfl | hx
    ·exact a5
    ·exact i2 x hx
end Go.Proofs.YtahjmpipllajcaaGreat.Sl
