/- produceReads_holds: part 7. -/
import Derived.Test.YtcoppaggpbfcmaaGreatK6
set_option maxRecDepth 100000
set_option maxHeartbeats 4000000
set_option linter.defProp false
namespace Go.Proofs.YtcoppaggpbfcmaaGreat.Sl
open Go.RowKit
set_option linter.unusedVariables false
set_option linter.unusedSimpArgs false
def Dv := @Prod.mk.inj
theorem qm (l:List UInt8) (p:Nat) (h:2≤l.length):di ⟨l,p,0⟩ 2=(bk (l.take 2),⟨l.drop 2,p+2,0⟩):=su l p 2 (by decide) (by decide) h
theorem yo (l:List UInt8) (p:Nat) (h:4≤l.length):di ⟨l,p,0⟩ 4=(bk (l.take 4),⟨l.drop 4,p+4,0⟩):=su l p 4 (by decide) (by decide) h
theorem lK (l:List UInt8) (p:Nat) (h:l.length<2):di ⟨l,p,0⟩ 2=(0,⟨l,p,1⟩):=mJ l p 2 (by decide) (by decide) (by omega)
theorem tO (l:List UInt8) (p:Nat) (h:l.length<4):di ⟨l,p,0⟩ 4=(0,⟨l,p,1⟩):=mJ l p 4 (by decide) (by decide) (by omega)
theorem sN (l:List UInt8) (p:Nat) (e n:Int) (h:e≠0):di ⟨l,p,e⟩ n=(0,⟨l,p,e⟩):=jV (st:=⟨l,p,e⟩) h n
theorem eS (l:List UInt8) (p:Nat) (e:Int) (h:e≠0):eB ⟨l,p,e⟩=⟨l,p,e⟩:=pU (st:=⟨l,p,e⟩) h
theorem v6 (l:List UInt8) (p:Nat) (e f:Int) (h:e≠0):cE ⟨l,p,e⟩ f=⟨l,p,e⟩:=nI (st:=⟨l,p,e⟩) h f
theorem pF (l:List UInt8) (p:Nat) (f:Int):cE ⟨l,p,0⟩ f=⟨l,p,f⟩:=by simp[cE]
theorem tP (l:List UInt8) (p:Nat):eB ⟨l,p,0⟩=⟨l,p,if l = [] then 0 else 2⟩:=by unfold eB; split <;> simp_all [cE]
theorem ns {l:List UInt8} {n:Nat} (h:n≤l.length):l.drop n = [] ↔ ¬ (l.length:Int)>n:=by rw[List.drop_eq_nil_iff]; omega
theorem yp (l:List UInt8) (hl:l.length≤9223372036854775807):cQ l=fH l:=by
 unfold cQ fH ck
 simp only[iC l (by omega),gf,gI,dV,CS]
 by_cases h2:l.length<2
 ·have h2i:(l.length:Int)<2:=by omega
  simp[lK l 0 h2,sN,eS,v6,h2i]
 have h2i: ¬ (l.length:Int)<2:=by omega
 have h2j:2≤(l.length:Int):=by omega
 rw[qm l 0 (by omega),if_neg h2i,if_pos (show 2≤l.length by omega),gh _ (by simp; omega)]
 simp only[CS]
 by_cases h0:bk (l.take 2)=0
 ·rw[if_pos h0,if_pos h0]
  simp only[CS]
  by_cases h4:l.length<4
  ·have h4i:(l.length:Int)<4:=by omega
   simp[lK (l.drop 2) (0+2) (by simp; omega),eS,h4i]
  have h4i: ¬ (l.length:Int)<4:=by omega
  rw[qm _ _ (by simp; omega),if_neg h4i,if_pos (show 4≤l.length by omega),gh _ (by simp; omega)]
  simp only[CS,Dq,tP,pF]
  have hd:=ns (l:=l) (n:=4) (by omega)
  generalize bk ((l.drop 2).take 2)=k
  by_cases h5:(l.length:Int)>4
  ·have hd2: ¬ l.drop (2+2) = []:=fun h=>(hd.1 h) h5
   by_cases k0:k=0
   ·simp[hd2,h5,eS,k0]
   ·by_cases k1:k=1 <;> simp[hd2,h5,eS,k0,k1]
  ·have hd2:l.drop (2+2) = []:=hd.2 h5
   by_cases k0:k=0
   ·simp[hd2,h5,eS,k0]
   ·by_cases k1:k=1 <;> simp[hd2,h5,eS,k0,k1]
 ·rw[if_neg h0,if_neg h0]
  simp[pF,sN,eS]
theorem vg (l:List UInt8) (hl:l.length≤9223372036854775807):ci l=eR l:=by
 unfold ci eR ck
 simp only[iC l (by omega),gf,gI,dV,CS]
 by_cases h2:l.length<2
 ·have h2i:(l.length:Int)<2:=by omega
  simp[lK l 0 h2,sN,eS,v6,h2i]
 have h2i: ¬ (l.length:Int)<2:=by omega
 have h2j:2≤(l.length:Int):=by omega
 rw[qm l 0 (by omega),if_neg h2i,if_pos (show 2≤l.length by omega),gh _ (by simp; omega)]
 simp only[CS]
 by_cases h0:bk (l.take 2)=0
 ·rw[if_pos h0,if_pos h0]
  simp only[CS]
  by_cases h4:l.length<6
  ·have h4i:(l.length:Int)<6:=by omega
   simp[tO (l.drop 2) (0+2) (by simp; omega),eS,h4i]
  have h4i: ¬ (l.length:Int)<6:=by omega
  rw[yo _ _ (by simp; omega),if_neg h4i,if_pos (show 6≤l.length by omega),gh _ (by simp; omega)]
  simp only[CS,Dq,tP,pF]
  have hd:=ns (l:=l) (n:=6) (by omega)
  generalize bk ((l.drop 2).take 4)=k
  by_cases h5:(l.length:Int)>6
  ·have hd2: ¬ l.drop (2+4) = []:=fun h=>(hd.1 h) h5
   by_cases k0:k<0 <;> simp[hd2,h5,eS,k0]
  ·have hd2:l.drop (2+4) = []:=hd.2 h5
   by_cases k0:k<0 <;> simp[hd2,h5,eS,k0]
 ·rw[if_neg h0,if_neg h0]
  simp[pF,sN,eS]
theorem sO (r:Rec) (h1:r.Cs.data.length≤9223372036854775807) (h2:r.Cg.data.length≤9223372036854775807):cu r=ff r:=by
 unfold cu ff
 rw[yp _ h1,vg _ h2]
def dT:List Rec→Int
 | []=>0
 | r::l=>if gj r=0 then dT l else gj r
theorem rI (y:Int): ∀ l:List Rec,(∀ r,r∈l→wI r.Cv)→cZ l y=some (if dT l=0 then .go y else .ret (dT l))
 | [],h=>rfl
 | r::l,h=>by
  rw[cZ,nk _ (h r (.head _)),CS,rI y l (fun x hx=>h x (.tail _ hx)),dT]
  by_cases hr:gj r=0
  ·rw[if_pos hr,if_pos hr]
  ·rw[if_neg hr,if_neg hr,if_neg hr]
theorem rJ (y:Int): ∀ l:List Rec,(∀ r,r∈l→wI r.Cv)→da l y=some (if dT l=0 then .go y else .ret (dT l))
 | [],h=>rfl
 | r::l,h=>by
  rw[da,nk _ (h r (.head _)),CS,rJ y l (fun x hx=>h x (.tail _ hx)),dT]
  by_cases hr:gj r=0
  ·rw[if_pos hr,if_pos hr]
  ·rw[if_neg hr,if_neg hr,if_neg hr]
theorem rK (a:Bat) (hb:a.Ce.length≤1000000) (hh: ∀ r,r∈a.Ce→r.Cn.length≤1000000) (y:Int): ∀ (l:List Rec) (k fuel:Nat),a.Ce.drop k=l→l.length<fuel→ ∃ z,cw a fuel y k=some (if dT l=0 then .go (y,z) else .ret (dT l))
 | [],k,fuel+1,h,hf=>by
  have:=bL h
  exact⟨k,by rw[cw,if_neg (by omega)]; rfl⟩
 | r::l,k,fuel+1,h,hf=>by
  obtain⟨h1,h2,h3⟩:=bl h
  rw[C5] at hf
  obtain⟨z,hz⟩:=rK a hb hh y l (k+1) fuel h2 (by omega)
  rw[cw,if_pos (by omega),h1,CS,xk _ (hh r (List.mem_of_getElem? h1)),CS,dT]
  by_cases hr:gj r=0
  ·rw[if_pos hr,if_pos hr,if_pos (by omega)]
   exact⟨z,hz⟩
  ·rw[if_neg hr,if_neg hr]
   exact⟨0,by rw[if_neg hr]⟩
theorem rL (a:Bat): ∀ (fuel:Nat) (y:Int) (k:Nat),dP a fuel y k=cw a fuel y k
 | 0,y,k=>rfl
 | fuel+1,y,k=>by
  rw[dP,cw]
  simp only[rL a fuel]
def mQ (F t:Int):Prop:=t>9223372036854775807 - F∨t < -F
instance (F t:Int):Decidable (mQ F t):=by unfold mQ; infer_instance
def sP (F L:Int):Int→Int→List Rec→Except Int Int
 | p,m,[]=> .ok m
 | p,m,r::l=>if r.Cv≤p∨r.Cv>L then .error 13 else if mQ F r.CC then .error 11 else sP F L r.Cv (if m<F+r.CC then F+r.CC else m) l
theorem xq {F t:Int} (h0:0≤F) (h1:F≤9223372036854775807) (ht:wI t):(mQ F t→(IntKind.i64.wrap (F+t)<0))∧(¬ mQ F t→IntKind.i64.wrap (F+t)=F+t∧0≤F+t):=by
 obtain⟨t0,t1⟩:=ht
 unfold mQ
 rw[IntKind.wrap_i64]
 constructor
 ·intro h
  omega
 ·intro h
  omega
theorem v7 (a:Bat) (h0:0≤a.Cl) (h1:a.Cl≤9223372036854775807) (y:Int): ∀ (l:List Rec) (p m:Int),(∀ r,r∈l→wI r.CC)→(∃ e,sP a.Cl a.Cr p m l= .error e∧bb a l y p m=some (.ret e))∨(∃ p' m',sP a.Cl a.Cr p m l= .ok m'∧bb a l y p m=some (.go (y,p',m')))
 | [],p,m,h=> .inr ⟨p,m,rfl,rfl⟩
 | r::l,p,m,h=>by
  have ih:=fun p m=>v7 a h0 h1 y l p m (fun x hx=>h x (.tail _ hx))
  obtain⟨w1,w2⟩:=xq h0 h1 (h r (.head _))
  rw[bb,sP]
  by_cases c1:r.Cv≤p
  ·rw[if_pos c1,if_pos (.inl c1)]
   exact .inl ⟨_,rfl,rfl⟩
  rw[if_neg c1]
  by_cases c2:r.Cv>a.Cr
  ·rw[if_pos c2,if_pos (.inr c2)]
   exact .inl ⟨_,rfl,rfl⟩
  rw[if_neg c2,if_neg (by omega)]
  by_cases c3:mQ a.Cl r.CC
  ·rw[if_pos c3,if_pos (w1 c3)]
   exact .inl ⟨_,rfl,rfl⟩
  obtain⟨w3,w4⟩:=w2 c3
  rw[if_neg c3,w3,if_neg (show ¬ a.Cl+r.CC<0 by omega),if_neg (show ¬ a.Cl+r.CC<r.CC by omega),ite_self]
  by_cases c4:m<a.Cl+r.CC
  ·rw[if_pos c4,if_pos c4]
   exact ih _ _
  ·rw[if_neg c4,if_neg c4]
   exact ih _ _
theorem sQ (a:Bat) (h0:0≤a.Cl) (h1:a.Cl≤9223372036854775807) (hb:a.Ce.length≤1000000) (y:Int): ∀ (l:List Rec) (p m:Int) (k fuel:Nat),a.Ce.drop k=l→l.length<fuel→(k=0→p= -1)→(0<k→ ∃ r,a.Ce[k - 1]? = some r∧r.Cv=p∧0≤p) →
 (∃ e,sP a.Cl a.Cr p m l= .error e∧bx a fuel y k=some (.ret e))∨(∃ m' z,sP a.Cl a.Cr p m l= .ok m'∧bx a fuel y k=some (.go (y,z)))
 | [],p,m,k,fuel+1,h,hf,hk0,hk1=>by
  have:=bL h
  exact .inr ⟨m,k,rfl,by rw[bx,if_neg (by omega)]⟩
 | r::l,p,m,k,fuel+1,h,hf,hk0,hk1=>by
  obtain⟨g1,g2,g3⟩:=bl h
  rw[C5] at hf
  rw[bx,if_pos (by omega),g1,CS,sP]
  have hp: -1≤p:=by
   rcases Nat.eq_zero_or_pos k with hk | hk
   ·have:=hk0 hk; omega
   ·obtain⟨_,_,_,h5⟩:=hk1 hk; omega
  have ih:=fun (hge:0≤r.Cv) m=>sQ a h0 h1 hb y l r.Cv m (k+1) fuel g2 (by omega) (fun h=>absurd h (by omega)) (fun _=>⟨r,g1,rfl,hge⟩)
  have tail:0≤r.Cv→((if -9223372036854775808≤(9223372036854775807 - a.Cl)∧(9223372036854775807 - a.Cl)≤9223372036854775807 then (if r.CC>(9223372036854775807 - a.Cl) then some (Lp.ret (11:Int)) else (if -9223372036854775808≤(-a.Cl)∧(-a.Cl)≤9223372036854775807 then (if r.CC<(-a.Cl) then some (Lp.ret 11) else (if -9223372036854775808≤((k:Int)+1)∧((k:Int)+1)≤9223372036854775807 then (bx a fuel y (k+1)) else none)) else none)) else none))=if mQ a.Cl r.CC then some (.ret 11) else bx a fuel y (k+1):=by
   intro hge
   rw[if_pos (by omega)]
   by_cases c1:r.CC>9223372036854775807 - a.Cl
   ·rw[if_pos c1,if_pos (show mQ a.Cl r.CC from .inl c1)]
   rw[if_neg c1,if_pos (by omega)]
   by_cases c2:r.CC < -a.Cl
   ·rw[if_pos c2,if_pos (show mQ a.Cl r.CC from .inr c2)]
   rw[if_neg c2,if_neg (show ¬ mQ a.Cl r.CC by unfold mQ; omega),if_pos (by omega)]
  by_cases c2:r.Cv>a.Cr
  ·rw[if_pos c2,if_pos (.inr c2)]
   exact .inl ⟨_,rfl,rfl⟩
  rw[if_neg c2]
  rcases Nat.eq_zero_or_pos k with hk | hk
  ·have hp1:=hk0 hk
   rw[if_neg (show ¬ (k:Int)>0 by omega)]
   by_cases c3:r.Cv<0
   ·rw[if_pos c3,if_pos (show r.Cv≤p∨r.Cv>a.Cr by omega)]
    exact .inl ⟨_,rfl,rfl⟩
   rw[if_neg c3,if_neg (show ¬ (r.Cv≤p∨r.Cv>a.Cr) by omega),tail (by omega)]
   by_cases c4:mQ a.Cl r.CC
   ·rw[if_pos c4,if_pos c4]
    exact .inl ⟨_,rfl,rfl⟩
   ·rw[if_neg c4,if_neg c4]
    exact ih (by omega) _
  ·obtain⟨q,q1,q2,q3⟩:=hk1 hk
   rw[if_pos (show (k:Int)>0 by omega),if_pos (show -9223372036854775808≤(k:Int) - 1∧(k:Int) - 1≤9223372036854775807 by omega),if_pos (show 0≤(k:Int) - 1 by omega),show ((k:Int) - 1).toNat=k - 1 by omega,q1,CS,q2]
   by_cases c1:r.Cv≤p
   ·rw[if_pos c1,if_pos (.inl c1)]
    exact .inl ⟨_,rfl,rfl⟩
   rw[if_neg c1,if_neg (show ¬ r.Cv<0 by omega),if_neg (show ¬ (r.Cv≤p∨r.Cv>a.Cr) by omega),tail (by omega)]
   by_cases c4:mQ a.Cl r.CC
   ·rw[if_pos c4,if_pos c4]
    exact .inl ⟨_,rfl,rfl⟩
   ·rw[if_neg c4,if_neg c4]
    exact ih (by omega) _
theorem v8 (a:Bat) (h0:0≤a.Cl) (h1:a.Cl≤9223372036854775807) (hb:a.Ce.length≤1000000) (y:Int): ∀ (l:List Rec) (p m m':Int) (k fuel:Nat),a.Ce.drop k=l→l.length<fuel→sP a.Cl a.Cr p m l= .ok m'→(∀ r,r∈l→wI r.CC)→ ∃ z,cT a fuel y m k=some (.go (y,m',z))
 | [],p,m,m',k,fuel+1,h,hf,ho,hw=>by
  have:=bL h
  injection ho with ho
  subst ho
  exact⟨k,by rw[cT,if_neg (by omega)]⟩
 | r::l,p,m,m',k,fuel+1,h,hf,ho,hw=>by
  obtain⟨g1,g2,g3⟩:=bl h
  rw[C5] at hf
  rw[sP] at ho
  split at ho
  ·exact nomatch ho
  split at ho
  ·exact nomatch ho
  rename_i hb2
  have ht:=hw r (.head _)
  have ht0:=ht.1
  have ht1:=ht.2
  unfold mQ at hb2
  rw[cT,if_pos (by omega),g1,CS,if_pos (by omega),if_neg (by omega),if_pos (by omega),if_neg (by omega),if_pos (by omega)]
  obtain⟨z,hz⟩:=v8 a h0 h1 hb y l r.Cv _ m' (k+1) fuel g2 (by omega) ho (fun x hx=>hw x (.tail _ hx))
  by_cases c:m<a.Cl+r.CC
  ·rw[if_pos c] at hz
   rw[if_pos c,if_pos (by omega),if_pos (by omega)]
   exact⟨z,hz⟩
  ·rw[if_neg c] at hz
   rw[if_neg c,if_pos (by omega)]
   exact⟨z,hz⟩
theorem qn (a:Bat) (h0:0≤a.Cl) (h1:a.Cl≤9223372036854775807) (hb:a.Ce.length≤1000000) (hw: ∀ r,r∈a.Ce→wI r.CC): ∃ e,cC a=some e∧eb a=some e:=by
 unfold cC eb jt
 rcases v7 a h0 h1 0 a.Ce (-1) a.Cl hw with⟨e,g1,g2⟩ | ⟨p',m',g1,g2⟩
 ·rcases sQ a h0 h1 hb 0 a.Ce (-1) a.Cl 0 (((a.Ce.length:Int)).toNat+1) rfl (by omega) (fun _=>rfl) (fun h=>absurd h (by omega)) with⟨e2,k1,k2⟩ | ⟨m2,z,k1,k2⟩
  ·rw[g1] at k1
   injection k1 with k1
   subst k1
   exact⟨e,by rw[g2]; rfl,by rw[k2]; rfl⟩
  ·rw[g1] at k1
   exact nomatch k1
 ·rcases sQ a h0 h1 hb 0 a.Ce (-1) a.Cl 0 (((a.Ce.length:Int)).toNat+1) rfl (by omega) (fun _=>rfl) (fun h=>absurd h (by omega)) with⟨e2,k1,k2⟩ | ⟨m2,z,k1,k2⟩
  ·rw[g1] at k1
   exact nomatch k1
  ·obtain⟨z2,hz2⟩:=v8 a h0 h1 hb 0 a.Ce (-1) a.Cl m' 0 (((a.Ce.length:Int)).toNat+1) rfl (by omega) g1 hw
   rw[g2,k2,hz2]
   simp only[CS]
   by_cases ha:a.Cw=true
   ·exact⟨0,by rw[if_pos ha],by rw[if_pos ha]⟩
   ·rw[if_neg ha]
    by_cases hm:m'=a.Cy
    ·exact⟨0,by rw[if_pos hm],by rw[if_pos hm]⟩
    ·exact⟨11,by rw[if_neg hm],by rw[if_neg hm]⟩
def hU (a:Bat):Prop:=0≤a.Cu∧(-1≤a.Co∧a.Co≤2147483647)∧(0≤a.Cr∧a.Cr≤2147483647)∧a.Cu+a.Cr≤9223372036854775807∧0≤a.Cl∧0≤a.Cy
instance (a:Bat):Decidable (hU a):=by unfold hU; infer_instance
theorem vh (a:Bat) (h1:wI a.Cu) (h2:wI a.Co) (h3:wI a.Cr):eQ a=some (decide (hU a)):=by
 obtain⟨u1,u2⟩:=h1
 unfold eQ
 rw[iP _ _ h2,iP _ _ h3,ik,ik,IntKind.wrap_i64]
 have no: ∀ {b:Bool},¬ hU a→b=false→some b=some (decide (hU a)):=fun h hb=>by rw[CO h,hb]
 by_cases c1:a.Cu≥0
 ·rw[if_pos c1]
  by_cases c2:a.Co≥ -1
  ·rw[if_pos c2,CS]
   by_cases c3: -2147483648≤a.Co∧a.Co≤2147483647
   ·rw[if_pos (CN c3)]
    by_cases c4:a.Cr≥0
    ·rw[if_pos c4,CS]
     by_cases c5: -2147483648≤a.Cr∧a.Cr≤2147483647
     ·rw[if_pos (CN c5)]
      by_cases c6:a.Cu+a.Cr≤9223372036854775807
      ·rw[if_pos (by omega)]
       by_cases c7:a.Cl≥0
       ·rw[if_pos c7]
        by_cases c8:a.Cy≥0
        ·rw[if_pos c8,CN (show hU a from ⟨c1,⟨c2,by omega⟩,⟨c4,by omega⟩,c6,c7,c8⟩)]
        ·rw[if_neg c8]; exact no (fun h=>c8 h.2.2.2.2.2) rfl
       ·rw[if_neg c7]; exact no (fun h=>c7 h.2.2.2.2.1) rfl
      ·rw[if_neg (by omega)]; exact no (fun h=>c6 h.2.2.2.1) rfl
     ·rw[if_neg (by rw[decide_eq_true_eq]; exact c5)]; exact no (fun h=>by have:=h.2.2.1; omega) rfl
    ·rw[if_neg c4]; exact no (fun h=>c4 h.2.2.1.1) rfl
   ·rw[if_neg (by rw[decide_eq_true_eq]; exact c3)]; exact no (fun h=>by have:=h.2.1; omega) rfl
  ·rw[if_neg c2]; exact no (fun h=>c2 h.2.1.1) rfl
 ·rw[if_neg c1]; exact no (fun h=>c1 h.1) rfl
theorem oa (n k:Int):eL n k=some (decide (k≤n∧n≤2147483647)):=by
 unfold eL
 by_cases h1:n≥k
 ·rw[if_pos h1]
  by_cases h2:n≤2147483647
  ·rw[if_pos h2,CN ⟨h1,h2⟩]
  ·rw[if_neg h2,CO (fun h=>h2 h.2)]
 ·rw[if_neg h1,CO (fun h=>h1 h.1)]
def fD (a:Bat):Prop:=if a.Ci= -1 then a.Cp= -1∧a.Ch= -1∧a.CE=false else 0≤a.Ci∧(0≤a.Cp∧a.Cp≤32767)∧(if a.Cq=true then a.Ch= -1 else 0≤a.Ch∧a.Ch≤2147483647)
instance (a:Bat):Decidable (fD a):=by unfold fD; infer_instance
theorem qo (n:Int):bu n 2=decide (-32768≤n∧n≤32767):=by
 rw[Bool.eq_iff_iff]
 unfold bu
 simp only[Bool.and_eq_true,decide_eq_true_eq]
 have:(2:Int) ^ (8*(2:Int).toNat - 1)=32768:=by decide
 omega
theorem oX (a:Bat) (h1:wI a.Cp) (h2:wI a.Ch):dJ a=some (decide (fD a))∧et a=some (decide (fD a)):=by
 unfold dJ et
 rw[iP _ _ h1,iP _ _ h2,ik,qo,oa]
 unfold fD
 obtain⟨b0,b1,b2,tx,ct,b5,b6,b7,P,E,S,rs⟩:=a
 simp only
 clear h1 h2
 by_cases c1:P= -1
 ·simp only[if_pos c1]
  by_cases c2:E= -1
  ·simp only[if_pos c2]
   by_cases c3:S= -1
   ·simp only[if_pos c3]
    cases tx <;> simp[c2,c3]
   ·simp[c3]
  ·simp[c2]
 ·simp only[if_neg c1,CS]
  cases ct
  ·simp only[Bool.false_eq_true,if_false]
   constructor
   ·by_cases d1:P≥0
    ·by_cases d2:E≥0
     ·by_cases d3: -32768≤E∧E≤32767
      ·by_cases d4:S≥0
       ·by_cases d5: -2147483648≤S∧S≤2147483647
        ·rw[if_pos d1,if_pos d2,if_pos (CN d3),if_pos d4,if_pos (CN d5),CN (by omega)]
        ·rw[if_pos d1,if_pos d2,if_pos (CN d3),if_pos d4,if_neg (by rw[decide_eq_true_eq]; exact d5),CO (by omega)]
       ·rw[if_pos d1,if_pos d2,if_pos (CN d3),if_neg d4,CO (by omega)]
      ·rw[if_pos d1,if_pos d2,if_neg (by rw[decide_eq_true_eq]; exact d3),CO (by omega)]
     ·rw[if_pos d1,if_neg d2,CO (by omega)]
    ·rw[if_neg d1,CO (by omega)]
   ·by_cases d1:P<0
    ·rw[if_pos d1,CO (by omega)]
    rw[if_neg d1]
    by_cases d2:E<0
    ·rw[if_pos d2,CO (by omega)]
    rw[if_neg d2]
    by_cases d3:E>32767
    ·rw[if_pos d3,CO (by omega)]
    rw[if_neg d3]
    by_cases d4:0≤S∧S≤2147483647
    ·rw[CN d4,CN (by omega)]
    ·rw[CO d4,CO (by omega)]
  ·simp only[if_true]
   constructor
   ·by_cases d1:P≥0
    ·by_cases d2:E≥0
     ·by_cases d3: -32768≤E∧E≤32767
      ·by_cases d4:S≥ -1
       ·by_cases d5: -2147483648≤S∧S≤2147483647
        ·by_cases d6:S= -1
         ·rw[if_pos d1,if_pos d2,if_pos (CN d3),if_pos d4,if_pos (CN d5),if_pos d6,CN (by omega)]
         ·rw[if_pos d1,if_pos d2,if_pos (CN d3),if_pos d4,if_pos (CN d5),if_neg d6,CO (by omega)]
        ·rw[if_pos d1,if_pos d2,if_pos (CN d3),if_pos d4,if_neg (by rw[decide_eq_true_eq]; exact d5),CO (by omega)]
       ·rw[if_pos d1,if_pos d2,if_pos (CN d3),if_neg d4,CO (by omega)]
      ·rw[if_pos d1,if_pos d2,if_neg (by rw[decide_eq_true_eq]; exact d3),CO (by omega)]
     ·rw[if_pos d1,if_neg d2,CO (by omega)]
    ·rw[if_neg d1,CO (by omega)]
   ·by_cases d1:P<0
    ·rw[if_pos d1,CO (by omega)]
    rw[if_neg d1]
    by_cases d2:E<0
    ·rw[if_pos d2,CO (by omega)]
    rw[if_neg d2]
    by_cases d3:E>32767
    ·rw[if_pos d3,CO (by omega)]
    rw[if_neg d3]
    by_cases d4:S= -1
    ·rw[if_pos d4,CN (by omega)]
    ·rw[if_neg d4,CO (by omega)]
theorem yq (l:List UInt8) (hl:l.length≤1000000): ∃ x,cQ l=some x:=by
 unfold cQ ck
 simp only[iC l (by omega),gf,gI,dV,CS]
 generalize di ⟨l,0,0⟩ 2=x
 by_cases h:x.1=0
 ·simp only[if_pos h,CS]
  generalize di x.2 2=y
  split
  ·split <;> exact⟨_,rfl⟩
  ·split
   ·split <;> exact⟨_,rfl⟩
   ·split <;> exact⟨_,rfl⟩
 ·simp only[if_neg h,CS]
  generalize di (cE x.2 7) 2=y
  split
  ·split <;> exact⟨_,rfl⟩
  ·split
   ·split <;> exact⟨_,rfl⟩
   ·split <;> exact⟨_,rfl⟩
theorem vi (l:List UInt8) (hl:l.length≤1000000): ∃ x,ci l=some x:=by
 unfold ci ck
 simp only[iC l (by omega),gf,gI,dV,CS]
 generalize di ⟨l,0,0⟩ 2=x
 by_cases h:x.1=0
 ·simp only[if_pos h,CS]
  generalize di x.2 4=y
  split
  ·split <;> exact⟨_,rfl⟩
  ·split <;> exact⟨_,rfl⟩
 ·simp only[if_neg h,CS]
  generalize di (cE x.2 7) 4=y
  split
  ·split <;> exact⟨_,rfl⟩
  ·split <;> exact⟨_,rfl⟩
theorem sR (r:Rec) (h1:r.Cs.data.length≤1000000) (h2:r.Cg.data.length≤1000000): ∃ x1 x2 x3,cu r=some (x1,x2,x3):=by
 obtain⟨⟨k1,k2⟩,hk⟩:=yq _ h1
 obtain⟨⟨v1,v2⟩,hv⟩:=vi _ h2
 unfold cu
 rw[hk,hv]
 simp only[CS]
 split
 ·exact⟨_,_,_,rfl⟩
 split
 ·exact⟨_,_,_,rfl⟩
 split
 ·exact⟨_,_,_,rfl⟩
 split
 ·split
  ·split
   ·exact⟨_,_,_,rfl⟩
   ·exact⟨_,_,_,rfl⟩
  ·exact⟨_,_,_,rfl⟩
 ·exact⟨_,_,_,rfl⟩
def sS (a:Bat) (cr e0:Int):Int:=if hU a then (if a.Cq=true then (if a.CE=true then (if fD a then (if (a.Ce.length:Int)=1 then (if dT a.Ce=0 then (if cr=0 then e0 else cr) else dT a.Ce) else 10) else 11) else 8) else (if fD a then (if dT a.Ce=0 then e0 else dT a.Ce) else 11)) else 11
theorem bchk (a:Bat) (hw:sr a) (cr e0:Int) (hc:hU a→cC a=some e0) (hr:(a.Ce.length:Int)=1→ ∃ r x1 x2,a.Ce[0]? = some r∧cu r=some (x1,x2,cr)):cv a=some (sS a cr e0):=by
 obtain⟨w1,w2,w3,w4,w5,w6,w7,w8,w9,w10,w11,w12⟩:=hw
 have hoff: ∀ r,r∈a.Ce→wI r.Cv:=fun r h=>(w12.2 r h).2.1
 unfold cv sS
 rw[vh a w1 w2 w6,(oX a w10 w11).1,rI _ _ hoff,rJ _ _ hoff]
 by_cases hn:hU a
 ·rw[CN hn,CS,if_pos rfl,if_pos hn,hc hn]
  by_cases hct:a.Cq=true
  ·rw[if_pos hct,if_pos hct]
   by_cases ht:a.CE=true
   ·rw[if_pos ht,if_pos ht,CS]
    by_cases hp:fD a
    ·rw[CN hp,if_pos rfl,if_pos hp]
     by_cases hl:(a.Ce.length:Int)=1
     ·obtain⟨r,x1,x2,r1,r2⟩:=hr hl
      rw[if_pos hl,if_pos hl,r1]
      by_cases hf:dT a.Ce=0
      ·simp only[if_pos hf,CS,r2]
       split <;> rfl
      ·simp only[if_neg hf,CS]
     ·rw[if_neg hl,if_neg hl]
    ·rw[CO hp,if_neg (by decide),if_neg hp]
   ·rw[if_neg ht,if_neg ht]
  ·rw[if_neg hct,if_neg hct,CS]
   by_cases hp:fD a
   ·rw[CN hp,if_pos rfl,if_pos hp]
    by_cases hf:dT a.Ce=0
    ·simp only[if_pos hf,CS]
    ·simp only[if_neg hf,CS]
   ·rw[CO hp,if_neg (by decide),if_neg hp]
 ·rw[CO hn,CS,if_neg (by decide),if_neg hn]
theorem rchk (a:Bat) (hw:sr a) (hb:a.Ce.length≤1000000) (hh: ∀ r,r∈a.Ce→r.Cn.length≤1000000) (cr e0:Int) (hc:hU a→eb a=some e0) (hr:(a.Ce.length:Int)=1→ ∃ r x1 x2,a.Ce[0]? = some r∧ff r=some (x1,x2,cr)):bR a=some (sS a cr e0):=by
 obtain⟨w1,w2,w3,w4,w5,w6,w7,w8,w9,w10,w11,w12⟩:=hw
 obtain⟨z,hz⟩:=rK a hb hh 0 a.Ce 0 (((a.Ce.length:Int)).toNat+1) rfl (by omega)
 have b1:=w1.1
 have b2:=w1.2
 unfold bR sS
 rw[oa,oa,(oX a w10 w11).2]
 simp only[rL]
 rw[hz]
 by_cases hn:hU a
 ·obtain⟨n1,n2,n3,n4,n5,n6⟩:=id hn
  rw[if_neg (show ¬ a.Cu<0 by omega),CN n2,CS,if_pos rfl,CN n3,CS,if_pos rfl,if_pos (show -9223372036854775808≤9223372036854775807 - a.Cu∧9223372036854775807 - a.Cu≤9223372036854775807 by omega),if_neg (show ¬ a.Cr>9223372036854775807 - a.Cu by omega),if_neg (show ¬ a.Cl<0 by omega),if_neg (show ¬ a.Cy<0 by omega),if_pos hn,hc hn]
  by_cases hct:a.Cq=true
  ·rw[if_pos hct,if_pos hct]
   by_cases ht:a.CE=true
   ·rw[if_pos ht,if_pos ht,CS]
    by_cases hp:fD a
    ·rw[CN hp,if_pos rfl,if_pos hp]
     by_cases hl:(a.Ce.length:Int)=1
     ·obtain⟨r,x1,x2,r1,r2⟩:=hr hl
      rw[if_pos hl,if_pos hl,r1]
      by_cases hf:dT a.Ce=0
      ·simp only[if_pos hf,CS,r2]
       split <;> rfl
      ·simp only[if_neg hf,CS]
     ·rw[if_neg hl,if_neg hl]
    ·rw[CO hp,if_neg (by decide),if_neg hp]
   ·rw[if_neg ht,if_neg ht]
  ·rw[if_neg hct,if_neg hct,CS]
   by_cases hp:fD a
   ·rw[CN hp,if_pos rfl,if_pos hp]
    by_cases hf:dT a.Ce=0
    ·simp only[if_pos hf,CS]
    ·simp only[if_neg hf,CS]
   ·rw[CO hp,if_neg (by decide),if_neg hp]
 ·rw[if_neg hn]
  unfold hU at hn
  by_cases c1:a.Cu<0
  ·rw[if_pos c1]
  rw[if_neg c1,CS]
  by_cases c2: -1≤a.Co∧a.Co≤2147483647
  ·rw[CN c2,if_pos rfl,CS]
   by_cases c3:0≤a.Cr∧a.Cr≤2147483647
   ·rw[CN c3,if_pos rfl,if_pos (show -9223372036854775808≤9223372036854775807 - a.Cu∧9223372036854775807 - a.Cu≤9223372036854775807 by omega)]
    by_cases c4:a.Cr>9223372036854775807 - a.Cu
    ·rw[if_pos c4]
    rw[if_neg c4]
    by_cases c5:a.Cl<0
    ·rw[if_pos c5]
    rw[if_neg c5,if_pos (show a.Cy<0 by omega)]
   ·rw[CO c3,if_neg (by decide)]
  ·rw[CO c2,if_neg (by decide)]
theorem qp (a:Bat) (hw:sr a) (hb:a.Ce.length≤1000000) (hr: ∀ r,r∈a.Ce→r.Cn.length≤1000000∧r.Cs.data.length≤1000000∧r.Cg.data.length≤1000000): ∃ cr e0,cv a=some (sS a cr e0)∧bR a=some (sS a cr e0)∧(hU a→cC a=some e0)∧((a.Ce.length:Int)=1→ ∃ r x1 x2,a.Ce[0]? = some r∧cu r=some (x1,x2,cr)∧ff r=some (x1,x2,cr)):=by
 have htim: ∀ r,r∈a.Ce→wI r.CC:=fun r h=>(hw.2.2.2.2.2.2.2.2.2.2.2.2 r h).1
 have hF:=hw.2.2.2.2.2.2.1
 obtain⟨e0,he⟩: ∃ e0,hU a→cC a=some e0∧eb a=some e0:=by
  by_cases hn:hU a
  ·obtain⟨e0,h1,h2⟩:=qn a hn.2.2.2.2.1 hF.2 hb htim
   exact⟨e0,fun _=>⟨h1,h2⟩⟩
  ·exact⟨0,fun h=>absurd h hn⟩
 obtain⟨cr,hcr⟩: ∃ cr,(a.Ce.length:Int)=1→ ∃ r x1 x2,a.Ce[0]? = some r∧cu r=some (x1,x2,cr)∧ff r=some (x1,x2,cr):=by
  by_cases hl:(a.Ce.length:Int)=1
  ·obtain⟨r,hrec⟩: ∃ r,a.Ce = [r]:=List.length_eq_one_iff.1 (by omega)
   have h3:=hr r (by rw[hrec]; exact .head _)
   obtain⟨x1,x2,x3,h4⟩:=sR r h3.2.1 h3.2.2
   have h5:=sO r (by omega) (by omega)
   exact⟨x3,fun _=>⟨r,x1,x2,by rw[hrec]; rfl,h4,by rw[← h5]; exact h4⟩⟩
  ·exact⟨0,fun h=>absurd h hl⟩
 refine⟨cr,e0,bchk a hw cr e0 (fun h=>(he h).1) (fun h=> ?_),rchk a hw hb (fun r h=>(hr r h).1) cr e0 (fun h=>(he h).2) (fun h=> ?_),fun h=>(he h).1,hcr⟩
 ·obtain⟨r,x1,x2,h1,h2,h3⟩:=hcr h
  exact⟨r,x1,x2,h1,h2⟩
 ·obtain⟨r,x1,x2,h1,h2,h3⟩:=hcr h
  exact⟨r,x1,x2,h1,h3⟩
abbrev Pr (α:Type):=List UInt8→Nat→Except Int (α×Nat)
namespace Pr
variable {α β:Type}
def ret (a:α):Pr α:=fun _ q=> .ok (a,q)
def err (e:Int):Pr α:=fun _ _=> .error e
def bind (p:Pr α) (f:α→Pr β):Pr β:=fun s q=>match p s q with | .error e=> .error e | .ok (a,r)=>f a s r
theorem bind_ok {p:Pr α} {f:α→Pr β} {s:List UInt8} {q:Nat} {x:β×Nat} (h:p.bind f s q= .ok x): ∃ a r,p s q= .ok (a,r)∧f a s r= .ok x:=by
 unfold bind at h
 cases hp:p s q with
 | error e=>rw[hp] at h; exact nomatch h
 | ok y=>rw[hp] at h; exact⟨_,_,rfl,h⟩
theorem bind_of {p:Pr α} {f:α→Pr β} {s:List UInt8} {q r:Nat} {a:α} (h:p s q= .ok (a,r)):p.bind f s q=f a s r:=by unfold bind; rw[h]
theorem bind_err {p:Pr α} {f:α→Pr β} {s:List UInt8} {q:Nat} {e:Int} (h:p s q= .error e):p.bind f s q= .error e:=by unfold bind; rw[h]
end Pr
structure CR {α:Type} (op:I→Option (α×I)) (p:Pr α) (z:α):Prop where
 dead: ∀ st:I,st.err≠0→op st=some (z,st)
 bad: ∀ (s:List UInt8) (q:Nat) (e:Int),q≤s.length→p s q= .error e→ ∃ st:I,op ⟨s.drop q,q,0⟩=some (z,st)∧st.err=e∧e≠0
 good: ∀ (s:List UInt8) (q:Nat) (a:α) (r:Nat),q≤s.length→p s q= .ok (a,r)→op ⟨s.drop q,q,0⟩=some (a,⟨s.drop r,r,0⟩)
structure Sp {α:Type} (p:Pr α) (enc:α→List UInt8) (ok:α→Prop):Prop where
 spell: ∀ (s:List UInt8) (q:Nat) (a:α) (r:Nat),q≤s.length→p s q= .ok (a,r)→q≤r∧r≤s.length∧r=q+(enc a).length∧s.take r=s.take q++enc a∧ok a
 back: ∀ (s t:List UInt8) (q:Nat) (a:α),q≤s.length→ok a→s.drop q=enc a++t→p s q= .ok (a,q+(enc a).length)
theorem bZ {s x t:List UInt8} {q:Nat} (h:s.drop q=x++t):s.drop (q+x.length)=t:=by rw[← Dq,h,List.drop_left]
theorem l7 (s:List UInt8) (q k:Nat):s.take (q+k)=s.take q++(s.drop q).take k:=List.take_add
theorem xr (q:Int) (c:UInt8) (k:Nat):be (q*256+c.toNat) (k+1)=be q k ++ [c]:=by
 have hc:=c.toNat_lt
 unfold be
 rw[List.range_succ,List.map_append]
 congr 1
 ·apply List.map_congr_left
  intro i hi
  have hi:=List.mem_range.1 hi
  have e:k+1 - 1 - i=(k - 1 - i)+1:=by omega
  have e2:(q*256+(c.toNat:Int)) / 256=q:=by omega
  rw[e,show 8*(k - 1 - i+1)=8+8*(k - 1 - i) by omega,Int.pow_add,← Int.ediv_ediv_of_nonneg (by decide),show (2 ^ 8:Int)=256 from rfl,e2]
 ·simp only[List.map_cons,List.map_nil,Nat.add_sub_cancel,Nat.sub_self,Nat.mul_zero,Int.pow_zero,Int.ediv_one]
  congr 1
  apply UInt8.toNat_inj.1
  simp[UInt8.toNat_ofNat']
  omega
theorem xt (cs:List UInt8): ∀ (q:Int) (k:Nat),be (cs.foldl (fun n d=>n*256+(d.toNat:Int)) q) (k+cs.length)=be q k++cs:=by
 induction cs with
 | nil=>intro q k; simp
 | cons c cs ih =>
  intro q k
  have h:=ih (q*256+c.toNat) (k+1)
  rw[xr] at h
  rw[List.foldl_cons,C5,show k+(cs.length+1)=k+1+cs.length by omega,h]
  simp
theorem yr (c:UInt8):be (sgn c) 1 = [c]:=by
 have hc:=c.toNat_lt
 unfold be
 simp only[List.range_one,List.map_cons,List.map_nil,Nat.sub_self,Nat.mul_zero,Int.pow_zero,Int.ediv_one]
 congr 1
 apply UInt8.toNat_inj.1
 unfold sgn
 simp[UInt8.toNat_ofNat']
 split <;> omega
theorem vj (l:List UInt8) (h:l ≠ []):be (bk l) l.length=l:=by
 cases l with
 | nil=>exact absurd rfl h
 | cons c cs =>
  have h:=xt cs (sgn c) 1
  rw[yr] at h
  rw[C5,Nat.add_comm]
  exact h
def dQ (k:Nat):Pr Int:=fun s q=>if s.length<q+k then .error 1 else .ok (bk ((s.drop q).take k),q+k)
theorem yt (k:Nat) (h1:1≤k) (h8:k≤8) (kk:Int) (hk:kk=(k:Int)):CR (fun st=>fG st kk) (dQ k) 0:=by
 subst hk
 refine⟨fun st h=> ?_,fun s q e hq h=> ?_,fun s q a r hq h=> ?_⟩
 ·rw[gf,jV h]
 ·unfold dQ at h
  split at h
  ·rename_i hl
   injection h with h
   subst h
   refine⟨⟨s.drop q,q,1⟩,?_,rfl,by decide⟩
   simp only[gf]
   rw[mJ _ _ _ (by omega) (by omega) (by rw[C0]; omega)]
  ·exact nomatch h
 ·unfold dQ at h
  split at h
  ·exact nomatch h
  ·rename_i hl
   injection h with h
   obtain⟨rfl,rfl⟩:=Dv h
   simp only[gf]
   rw[su _ _ _ h1 h8 (by rw[C0]; omega),Dq]
theorem fg (k:Nat) (h1:1≤k) (h8:k≤8):Sp (dQ k) (fun n=>be n k) (fun n=>bu n k=true):=by
 refine⟨fun s q a r hq h=> ?_,fun s t q a hq ha h=> ?_⟩
 ·unfold dQ at h
  split at h
  ·exact nomatch h
  ·rename_i hl
   injection h with h
   obtain⟨rfl,rfl⟩:=Dv h
   have hn:((s.drop q).take k).length=k:=by rw[Dt,C0]; omega
   have hne:(s.drop q).take k ≠ []:=fun h0=>by rw[h0] at hn; simp at hn; omega
   have hb:be (bk ((s.drop q).take k)) k=(s.drop q).take k:=by
    have:=vj _ hne
    rwa [hn] at this
   refine⟨by omega,by omega,by rw[aA],by rw[hb,l7],?_⟩
   rw[← vN _ _ h1 h8,hb]
 ·have hl:=congrArg List.length h
  rw[C0,CW,aA] at hl
  unfold dQ
  rw[if_neg (by omega),h,List.take_append_of_le_length (by rw[aA]; omega),List.take_of_length_le (by rw[aA]; omega),aA,tk _ _ h1 h8 ha]
def ob (n:Int):Pr Bl:=fun s q=>if n= -1 then .ok (⟨true,[]⟩,q) else if n<0 then .error 4 else if (s.length:Int)<q+n then .error 1 else .ok (⟨false,(s.drop q).take n.toNat⟩,q+n.toNat)
theorem mR (n:Int) (s:List UInt8) (q:Nat) (hq:q≤s.length) :
 (∃ e st,ob n s q= .error e∧iu ⟨s.drop q,q,0⟩ n=(⟨false,[]⟩,st)∧st.err=e∧e≠0)∨(∃ b r,ob n s q= .ok (b,r)∧iu ⟨s.drop q,q,0⟩ n=(b,⟨s.drop r,r,0⟩)∧q≤r∧r≤s.length∧cg b=n∧bh b=true∧s.take r=s.take q++b.data∧r=q+b.data.length):=by
 have hd:(s.drop q).length=s.length - q:=C0
 unfold ob iu
 rw[if_neg (show ¬ ((⟨s.drop q,q,0⟩:I).err≠0) by simp)]
 by_cases h1:n= -1
 ·rw[if_pos h1,if_pos h1]
  exact .inr ⟨_,_,rfl,rfl,Dy _,hq,h1.symm,rfl,by simp,rfl⟩
 rw[if_neg h1,if_neg h1]
 by_cases h2:n<0
 ·rw[if_pos h2,wV _ _ _ h2]
  exact .inl ⟨_,_,rfl,rfl,rfl,by decide⟩
 rw[if_neg h2]
 by_cases h3:(s.length:Int)<q+n
 ·rw[if_pos h3,oK _ _ _ (by omega)]
  exact .inl ⟨_,_,rfl,rfl,rfl,by decide⟩
 rw[if_neg h3]
 obtain⟨m,rfl⟩: ∃ m:Nat,n=(m:Int):=⟨n.toNat,by omega⟩
 rw[Dg,tt _ _ _ (by omega),Dq]
 have hl:((s.drop q).take m).length=m:=by rw[Dt]; omega
 exact .inr ⟨_,_,rfl,rfl,by omega,by omega,by unfold cg; simp only[Bool.false_eq_true,if_false]; rw[hl],rfl,l7 s q m,by rw[hl]⟩
def ip (k:Nat):Pr Bl:=(dQ k).bind ob
theorem yu {lenop:I→Int×I} {p:Pr Int} (hl:CR (fun st=>some (lenop st)) p 0) (hs: ∀ s q a r,q≤s.length→p s q= .ok (a,r)→r≤s.length):CR (fun st=>some (iu (lenop st).2 (lenop st).1)) (p.bind ob) (⟨false,[]⟩:Bl):=by
 refine⟨fun st h=> ?_,fun s q e hq h=> ?_,fun s q a r hq h=> ?_⟩
 ·have h0:=CP (hl.dead st h)
  rw[h0,nJ h]
 ·cases hp:p s q with
  | error e' =>
   rw[Pr.bind_err hp] at h
   injection h with h
   subst h
   obtain⟨st,h1,h2,h3⟩:=hl.bad s q e' hq hp
   have h0:=CP h1
   rw[h0,nJ (by simp only[h2]; exact h3)]
   exact⟨st,rfl,h2,h3⟩
  | ok x =>
   obtain⟨n,m⟩:=x
   rw[Pr.bind_of hp] at h
   have h0:=CP (hl.good s q n m hq hp)
   rw[h0]
   rcases mR n s m (hs _ _ _ _ hq hp) with⟨e',st,g1,g2,g3,g4⟩ | ⟨b,r,g1,g2,_⟩
   ·rw[g1] at h
    injection h with h
    subst h
    exact⟨st,by rw[g2],g3,g4⟩
   ·rw[g1] at h
    exact nomatch h
 ·obtain⟨n,m,hp,h⟩:=Pr.bind_ok h
  have h0:=CP (hl.good s q n m hq hp)
  rw[h0]
  rcases mR n s m (hs _ _ _ _ hq hp) with⟨e',st,g1,g2,g3,g4⟩ | ⟨b,r',g1,g2,_⟩
  ·rw[g1] at h
   exact nomatch h
  ·rw[g1] at h
   injection h with h
   obtain⟨rfl,rfl⟩:=Dv h
   rw[g2]
theorem yv {p:Pr Int} {enc:Int→List UInt8} {ok:Int→Prop} (hp:Sp p enc ok):Sp (p.bind ob) (fun b=>enc (cg b)++b.data) (fun b=>ok (cg b)∧bh b=true):=by
 refine⟨fun s q a r hq h=> ?_,fun s t q a hq ha h=> ?_⟩
 ·obtain⟨n,m,h1,h⟩:=Pr.bind_ok h
  obtain⟨a1,a2,a3,a4,a5⟩:=hp.spell _ _ _ _ hq h1
  rcases mR n s m a2 with⟨e',st,g1,g2,g3,g4⟩ | ⟨b,r',g1,g2,b1,b2,b3,b4,b5,b6⟩
  ·rw[g1] at h
   exact nomatch h
  ·rw[g1] at h
   injection h with h
   obtain⟨rfl,rfl⟩:=Dv h
   refine⟨by omega,b2,by rw[CW,b3]; omega,by rw[b5,a4,b3,C2],by rw[b3]; exact a5,b4⟩
 ·rw[C2] at h
  have h1:=hp.back s _ q _ hq ha.1 h
  rw[Pr.bind_of h1,CW,← Nat.add_assoc]
  have h2:=bZ h
  have hl:=congrArg List.length h
  rw[C0,CW,CW] at hl
  generalize (enc (cg a)).length=m at h2 hl ⊢
  obtain⟨nu,d⟩:=a
  unfold ob cg
  cases nu with
  | true =>
   have:d = []:=by have:=ha.2; unfold bh at this; simpa using this
   subst this
   rw[if_pos rfl,if_pos rfl]
   rfl
  | false =>
   simp only[Bool.false_eq_true,if_false]
   simp only at h2 hl
   rw[if_neg (by omega),if_neg (by omega),h2,if_neg (by omega),Dg,List.take_left]
theorem qq (k:Nat) (h1:1≤k) (h8:k≤8) (kk:Int) (hk:kk=(k:Int)):CR (fun st=>kx st kk) (ip k) (⟨false,[]⟩:Bl) :=
 yu (lenop:=fun st=>di st kk) (yt k h1 h8 kk hk) (fun s q a r hq h=>((fg k h1 h8).spell s q a r hq h).2.1)
theorem fK (k:Nat) (h1:1≤k) (h8:k≤8):Sp (ip k) (fun b=>be (cg b) k++b.data) (fun b=>bu (cg b) k=true∧bh b=true):=yv (fg k h1 h8)
theorem jv (bs:Int) (a:Nat): ∀ (l:List UInt8) (b acc i:Nat),vgo bs l (a+b) acc i=((vgo bs l b acc i).1,⟨(vgo bs l b acc i).2.rest,a+(vgo bs l b acc i).2.pos,(vgo bs l b acc i).2.err⟩)
 | [],b,acc,i=>rfl
 | c::l,b,acc,i=>by
  have ih:=jv bs a l (b+1) (acc+c.toNat % 128*2 ^ (7*i)) (i+1)
  unfold vgo
  split
  ·rfl
  ·split
   ·rw[Nat.add_assoc,ih]
   ·split
    ·rfl
    ·rfl
theorem qr (bs:Int): ∀ (l:List UInt8) (b acc i:Nat),(vgo bs l b acc i).2.err≠0→(vgo bs l b acc i).1=0
 | [],b,acc,i,h=>rfl
 | c::l,b,acc,i,h=>by
  have ih:=qr bs l (b+1) (acc+c.toNat % 128*2 ^ (7*i)) (i+1)
  revert h
  unfold vgo
  split
  ·exact fun _=>rfl
  ·split
   ·exact ih
   ·split
    ·exact fun _=>rfl
    ·exact fun h=>absurd rfl h
def fL (bs:Int):Pr Nat:=fun s q=>if (vgo bs (s.drop q) 0 0 0).2.err=0 then .ok ((vgo bs (s.drop q) 0 0 0).1,q+(vgo bs (s.drop q) 0 0 0).2.pos) else .error (vgo bs (s.drop q) 0 0 0).2.err
theorem oc {bs:Int} {s:List UInt8} {q n r:Nat} (hq:q≤s.length) (h:fL bs s q= .ok (n,r)):dq bs ⟨s.drop q,q,0⟩=(n,⟨s.drop r,r,0⟩)∧q≤r∧r≤s.length∧r=q+(bB n).length∧s.take r=s.take q++bB n:=by
 have hd:(s.drop q).length=s.length - q:=C0
 unfold fL at h
 split at h
 ·rename_i he
  injection h with h
  obtain⟨h1,h2⟩:=Dv h
  obtain⟨k,v,g1,g2,g3,g4,_⟩:=vgo_ok bs (s.drop q) 0 0 0 _ _ (rfl: _=((vgo bs (s.drop q) 0 0 0).1,(vgo bs (s.drop q) 0 0 0).2)) he
  have g3':(vgo bs (s.drop q) 0 0 0).1=v:=by rw[g3]; simp
  rw[g3'] at h1
  subst h1
  rw[g1] at h2
  simp only[Nat.zero_add] at h2
  have hlk:(bB v).length=k:=by rw[g4,Dt]; omega
  refine⟨?_,by omega,by omega,by omega,?_⟩
  ·unfold dq
   rw[if_neg (by simp)]
   have:=jv bs q (s.drop q) 0 0 0
   rw[Nat.add_zero] at this
   simp only
   rw[this,g3',g1,← h2,Dq]
   simp
  ·rw[← h2,l7,g4]
 ·exact nomatch h
theorem yw {bs:Int} {s:List UInt8} {q:Nat} {e:Int} (h:fL bs s q= .error e): ∃ st,dq bs ⟨s.drop q,q,0⟩=(0,st)∧st.err=e∧e≠0:=by
 unfold fL at h
 split at h
 ·exact nomatch h
 ·rename_i he
  injection h with h
  subst h
  have h0:=qr bs (s.drop q) 0 0 0 he
  refine⟨(dq bs ⟨s.drop q,q,0⟩).2,?_,?_,he⟩
  ·unfold dq
   rw[if_neg (by simp)]
   have:=jv bs q (s.drop q) 0 0 0
   rw[Nat.add_zero] at this
   simp only
   rw[this,h0]
  ·unfold dq
   rw[if_neg (by simp)]
   have:=jv bs q (s.drop q) 0 0 0
   rw[Nat.add_zero] at this
   simp only
   rw[this]
theorem vk {bs:Int} {st:I} (h:st.err≠0):dq bs st=(0,st):=if_pos h
theorem tQ (bs:Int) (hb:bs=32∨bs=64): ∀ (l:List UInt8) (b acc i:Nat),acc<2 ^ (7*i)→(vgo bs l b acc i).2.err=0→(vgo bs l b acc i).1<2 ^ bs.toNat
 | [],b,acc,i,ha,h=>by simp[vgo] at h
 | c::l,b,acc,i,ha,h=>by
  have ih:=tQ bs hb l (b+1) (acc+c.toNat % 128*2 ^ (7*i)) (i+1)
  revert h
  unfold vgo
  split
  ·exact fun h=>absurd h (by simp)
  ·rename_i hc
   obtain⟨h1,h2⟩:=jp bs hb acc (c.toNat % 128) i ha (by omega) (Nat.mod_lt _ (by decide)) (fun h=>hc (.inr h))
   split
   ·exact ih h1
   ·split
    ·exact fun h=>absurd h (by simp)
    ·exact fun _=>h2
theorem pG (bs:Int) (hb:bs=32∨bs=64):Sp (fL bs) bB (fun n=>n<2 ^ bs.toNat):=by
 refine⟨fun s q a r hq h=> ?_,fun s t q a hq ha h=> ?_⟩
 ·obtain⟨h1,h2,h3,h4,h5⟩:=oc hq h
  refine⟨h2,h3,h4,h5,?_⟩
  unfold fL at h
  split at h
  ·rename_i he
   injection h with h
   rw[← (Dv h).1]
   exact tQ bs hb _ _ _ _ (by simp) he
  ·exact nomatch h
 ·unfold fL
  rw[h,zJ bs (by omega) a 0 0 0 t (by simpa using ha) (by omega)]
  simp
def fh (bs:Int):Pr Int:=(fL bs).bind fun n=> .ret (cY n)
theorem sT (bs:Int) (hb:bs=32∨bs=64):CR (fun st=>some (eg (dq bs st))) (fh bs) 0:=by
 refine⟨fun st h=> ?_,fun s q e hq h=> ?_,fun s q a r hq h=> ?_⟩
 ·rw[vk h]
  simp[eg,cY]
 ·cases hp:fL bs s q with
  | error e' =>
   rw[fh,Pr.bind_err hp] at h
   injection h with h
   subst h
   obtain⟨st,h1,h2,h3⟩:=yw hp
   exact⟨st,by rw[h1]; simp[eg,cY],h2,h3⟩
  | ok x =>
   rw[fh,Pr.bind_of (a:=x.1) (r:=x.2) hp] at h
   exact nomatch h
 ·obtain⟨n,m,hp,h⟩:=Pr.bind_ok h
  injection h with h
  obtain⟨rfl,rfl⟩:=Dv h
  rw[(oc hq hp).1]
  rfl
theorem fO (bs:Int) (hb:bs=32∨bs=64):Sp (fh bs) (fun n=>bB (aN n)) (fun n=>aN n<2 ^ bs.toNat):=by
 refine⟨fun s q a r hq h=> ?_,fun s t q a hq ha h=> ?_⟩
 ·obtain⟨n,m,hp,h⟩:=Pr.bind_ok h
  injection h with h
  obtain⟨rfl,rfl⟩:=Dv h
  have:=(pG bs hb).spell _ _ _ _ hq hp
  rwa [uC]
 ·rw[fh,Pr.bind_of ((pG bs hb).back s t q _ hq ha h)]
  simp only[Pr.ret,uB]
def eM:Pr Bl:=(fh 32).bind ob
theorem rM:CR bF eM (⟨false,[]⟩:Bl) :=
 yu (lenop:=fun st=>eg (dq 32 st)) (sT 32 (.inl rfl)) (fun s q a r hq h=>((fO 32 (.inl rfl)).spell s q a r hq h).2.1)
theorem eu:Sp eM (fun b=>bB (aN (cg b))++b.data) (fun b=>aN (cg b)<2 ^ (32:Int).toNat∧bh b=true):=yv (fO 32 (.inl rfl))
def eZ (p:Pr Bl):Pr (List UInt8):=p.bind fun b=>if b.null then .err 4 else .ret b.data
theorem v9 {op:I→Bl×I} {p:Pr Bl} (h:CR (fun st=>some (op st)) p (⟨false,[]⟩:Bl)) (hb: ∀ s q a r,q≤s.length→p s q= .ok (a,r)→bh a=true):CR (fun st=>some (pS (op st))) (eZ p) []:=by
 refine⟨fun st hs=> ?_,fun s q e hq he=> ?_,fun s q a r hq hg=> ?_⟩
 ·have h0:=CP (h.dead st hs)
  rw[h0]
  rfl
 ·cases hp:p s q with
  | error e' =>
   rw[eZ,Pr.bind_err hp] at he
   injection he with he
   subst he
   obtain⟨st,h1,h2,h3⟩:=h.bad s q _ hq hp
   have h0:=CP h1
   rw[h0]
   exact⟨st,rfl,h2,h3⟩
  | ok x =>
   obtain⟨b,r⟩:=x
   rw[eZ,Pr.bind_of hp] at he
   have h0:=CP (h.good s q b r hq hp)
   rw[h0]
   have hbr:=hb _ _ _ _ hq hp
   split at he
   ·rename_i hn
    injection he with he
    subst he
    have:b.data = []:=by unfold bh at hbr; rw[hn] at hbr; simpa using hbr
    refine⟨⟨s.drop r,r,4⟩,?_,rfl,by decide⟩
    unfold pS
    simp only[hn,if_true,this]
    rfl
   ·exact nomatch he
 ·obtain⟨b,m,hp,hg⟩:=Pr.bind_ok hg
  have h0:=CP (h.good s q b m hq hp)
  rw[h0]
  split at hg
  ·exact nomatch hg
  ·rename_i hn
   injection hg with hg
   obtain⟨rfl,rfl⟩:=Dv hg
   unfold pS
   simp only[hn,Bool.false_eq_true,if_false]
theorem sU {p:Pr Bl} {enc:Bl→List UInt8} {ok:Bl→Prop} (hp:Sp p enc ok):Sp (eZ p) (fun d=>enc ⟨false,d⟩) (fun d=>ok ⟨false,d⟩):=by
 refine⟨fun s q a r hq h=> ?_,fun s t q a hq ha h=> ?_⟩
 ·obtain⟨b,m,h1,h⟩:=Pr.bind_ok h
  have h2:=hp.spell _ _ _ _ hq h1
  split at h
  ·exact nomatch h
  ·rename_i hn
   injection h with h
   obtain⟨rfl,rfl⟩:=Dv h
   obtain⟨nu,d⟩:=b
   simp only[Bool.not_eq_true] at hn
   subst hn
   exact h2
 ·rw[eZ,Pr.bind_of (hp.back s t q _ hq ha h)]
  rfl
def oY:Pr (List UInt8):=eZ (ip 2)
def hY:Pr (List UInt8):=eZ eM
theorem zS:CR rC oY []:=v9 (op:=fun st=>fA st 2) (qq 2 (by decide) (by decide) 2 rfl) (fun s q a r hq h=>((fK 2 (by decide) (by decide)).spell s q a r hq h).2.2.2.2.2)
theorem sV:Sp oY (fun d=>be (d.length:Int) 2++d) (fun d=>bu (d.length:Int) 2=true∧bh ⟨false,d⟩=true):=sU (fK 2 (by decide) (by decide))
theorem zT:CR p8 hY []:=v9 (op:=eW) rM (fun s q a r hq h=>(eu.spell s q a r hq h).2.2.2.2.2)
theorem jw:Sp hY (fun d=>bB (aN (d.length:Int))++d) (fun d=>aN (d.length:Int)<2 ^ (32:Int).toNat∧bh ⟨false,d⟩=true):=sU eu
theorem yx (s:List UInt8) (q k m:Nat) (n:Int) (hk:k≤(s.drop q).length) (hm:m=q+k) (hq:q≤s.length) :
 (∃ e,ob n s m= .error e∧e≠0∧kR (s.drop q) k n=⟨⟨false,[]⟩,0,e⟩)∨(∃ b r,ob n s m= .ok (b,r)∧kR (s.drop q) k n=⟨b,((r - q:Nat):Int),0⟩):=by
 have hd:(s.drop q).length=s.length - q:=C0
 subst hm
 unfold ob kR
 by_cases h1:n= -1
 ·rw[if_pos h1,if_pos h1]
  exact .inr ⟨_,_,rfl,by congr 1; omega⟩
 rw[if_neg h1,if_neg h1]
 by_cases h2:n<0
 ·rw[if_pos h2,if_pos h2]
  exact .inl ⟨_,rfl,by decide,rfl⟩
 rw[if_neg h2,if_neg h2]
 by_cases h3:(s.length:Int)<((q+k:Nat):Int)+n
 ·rw[if_pos h3,if_pos (by omega)]
  exact .inl ⟨_,rfl,by decide,rfl⟩
 rw[if_neg h3,if_neg (by omega)]
 exact .inr ⟨_,_,rfl,by rw[Dq]; congr 1; omega⟩
theorem qt (s:List UInt8) (q k:Nat) (h1:1≤k) (h8:k≤8) (hq:q≤s.length) :
 (∃ e,ip k s q= .error e∧e≠0∧iO (s.drop q) k=⟨⟨false,[]⟩,0,e⟩)∨(∃ b r,ip k s q= .ok (b,r)∧q≤r∧r≤s.length∧iO (s.drop q) k=⟨b,((r - q:Nat):Int),0⟩):=by
 have hd:(s.drop q).length=s.length - q:=C0
 unfold iO
 by_cases hl:(s.drop q).length<k
 ·rw[if_pos hl]
  exact .inl ⟨1,Pr.bind_err (by unfold dQ; rw[if_pos (by omega)]),by decide,rfl⟩
 ·rw[if_neg hl]
  have hp:dQ k s q= .ok (bk ((s.drop q).take k),q+k):=by unfold dQ; rw[if_neg (by omega)]
  rcases yx s q k _ (bk ((s.drop q).take k)) (by omega) rfl hq with⟨e,g1,g2,g3⟩ | ⟨b,r,g1,g2⟩
  ·exact .inl ⟨e,by rw[ip,Pr.bind_of hp,g1],g2,g3⟩
  ·have hb:ip k s q= .ok (b,r):=by rw[ip,Pr.bind_of hp,g1]
   have:=(fK k h1 h8).spell _ _ _ _ hq hb
   exact .inr ⟨b,r,hb,this.1,this.2.1,g2⟩
theorem j9 (s:List UInt8) (q:Nat) (hq:q≤s.length) :
 (∃ e,eM s q= .error e∧e≠0∧iB (s.drop q)=⟨⟨false,[]⟩,0,e⟩)∨(∃ b r,eM s q= .ok (b,r)∧q≤r∧r≤s.length∧iB (s.drop q)=⟨b,((r - q:Nat):Int),0⟩):=by
 have hd:(s.drop q).length=s.length - q:=C0
 unfold iB ls fQ
 by_cases he:(vgo 32 (s.drop q) 0 0 0).2.err=0
 ·rw[if_pos he]
  simp only
  rw[if_neg (by simp)]
  have hp:fL 32 s q= .ok ((vgo 32 (s.drop q) 0 0 0).1,q+(vgo 32 (s.drop q) 0 0 0).2.pos):=by unfold fL; rw[if_pos he]
  have hg:=oc hq hp
  have hp2:fh 32 s q= .ok (cY (vgo 32 (s.drop q) 0 0 0).1,q+(vgo 32 (s.drop q) 0 0 0).2.pos):=by rw[fh,Pr.bind_of hp]; rfl
  rcases yx s q (vgo 32 (s.drop q) 0 0 0).2.pos _ (cY (vgo 32 (s.drop q) 0 0 0).1) (by omega) rfl hq with⟨e,g1,g2,g3⟩ | ⟨b,r,g1,g2⟩
  ·exact .inl ⟨e,by rw[eM,Pr.bind_of hp2,g1],g2,g3⟩
  ·have hb:eM s q= .ok (b,r):=by rw[eM,Pr.bind_of hp2,g1]
   have:=eu.spell _ _ _ _ hq hb
   exact .inr ⟨b,r,hb,this.1,this.2.1,g2⟩
 ·rw[if_neg he]
  simp only
  rw[if_pos he]
  have hp:fL 32 s q= .error (vgo 32 (s.drop q) 0 0 0).2.err:=by unfold fL; rw[if_neg he]
  exact .inl ⟨_,by rw[eM,fh,Pr.bind_err (Pr.bind_err hp)],he,rfl⟩
theorem oput_z (t l:List UInt8):fF (t,0) l=(t++l,0):=rfl
theorem ka {n k:Int} (h:bu n k=true): -9223372036854775808≤n∧n≤9223372036854775807:=by
 unfold bu at h
 simp only[Bool.and_eq_true,decide_eq_true_eq] at h
 obtain⟨⟨⟨h1,h2⟩,h3⟩,h4⟩:=h
 have:(2:Nat) ^ (8*k.toNat - 1)≤2 ^ 63:=Nat.pow_le_pow_right (by decide) (by omega)
 have h5:((2:Int) ^ (8*k.toNat - 1))=((2 ^ (8*k.toNat - 1):Nat):Int):=by simp
 have h6:(2:Nat) ^ 63=9223372036854775808:=by decide
 omega
theorem zU {t:List UInt8} {n k:Int} (hf:bu n k=true) (ht:t.length≤140737488355320):fa (t,0) n k=some (t++be n k.toNat,0):=by
 rw[xV _ _ _ ⟨ka hf,by simp only; omega⟩]
 unfold sn
 rw[if_pos hf,oput_z]
structure CQ {α:Type} (op:I→Option (α×I)) (p:Pr α) (z:α):Prop where
 dead: ∀ st:I,st.err≠0→op st=some (z,st)
 run: ∀ (s:List UInt8) (q:Nat),q≤s.length→(∃ (e:Int) (st:I),p s q= .error e∧op ⟨s.drop q,q,0⟩=some (z,st)∧st.err=e∧st.err≠0)∨(∃ (a:α) (r:Nat),p s q= .ok (a,r)∧op ⟨s.drop q,q,0⟩=some (a,⟨s.drop r,r,0⟩)∧q≤r∧r≤s.length)
theorem CR.cq {α:Type} {op:I→Option (α×I)} {p:Pr α} {z:α} {enc:α→List UInt8} {ok:α→Prop} (h:CR op p z) (hs:Sp p enc ok):CQ op p z:=by
 refine⟨h.dead,fun s q hq=> ?_⟩
 cases hp:p s q with
 | error e =>
  obtain⟨st,h1,h2,h3⟩:=h.bad s q e hq hp
  exact .inl ⟨e,st,rfl,h1,h2,by rw[h2]; exact h3⟩
 | ok x =>
  have:=hs.spell s q x.1 x.2 hq hp
  exact .inr ⟨x.1,x.2,rfl,h.good s q x.1 x.2 hq hp,this.1,this.2.1⟩
theorem tR (k:Nat) (h1:1≤k) (h8:k≤8) (kk:Int) (hk:kk=(k:Int)):CQ (fun st=>fG st kk) (dQ k) 0:=(yt k h1 h8 kk hk).cq (fg k h1 h8)
theorem Q1:CQ (fun st=>fG st 1) (dQ 1) 0:=tR 1 (by decide) (by decide) 1 rfl
theorem Q2:CQ (fun st=>fG st 2) (dQ 2) 0:=tR 2 (by decide) (by decide) 2 rfl
theorem Q4:CQ (fun st=>fG st 4) (dQ 4) 0:=tR 4 (by decide) (by decide) 4 rfl
theorem Q8:CQ (fun st=>fG st 8) (dQ 8) 0:=tR 8 (by decide) (by decide) 8 rfl
theorem qu {st:I} {k:Int} (h:st.err≠0):fG st k=some (0,st):=by rw[gf,jV h]
theorem pH (l:List UInt8) (q:Nat) (e:Int):cE ⟨l,q,0⟩ e=⟨l,q,e⟩:=rfl
theorem QF2:CQ (fun st=>kx st 2) (ip 2) (⟨false,[]⟩:Bl):=(qq 2 (by decide) (by decide) 2 rfl).cq (fK 2 (by decide) (by decide))
theorem QF4:CQ (fun st=>kx st 4) (ip 4) (⟨false,[]⟩:Bl):=(qq 4 (by decide) (by decide) 4 rfl).cq (fK 4 (by decide) (by decide))
theorem tS {st:I} {k:Int} (h:st.err≠0):kx st k=some (⟨false,[]⟩,st):=by rw[xc,uK h]
theorem QV:CQ bF eM (⟨false,[]⟩:Bl):=rM.cq eu
theorem QT:CQ rC oY []:=zS.cq sV
theorem QN:CQ p8 hY []:=zT.cq jw
theorem otx_z (t:List UInt8):otx (t,0)=(t,0):=by simp[otx]
open Go.RowKit
set_option linter.unusedVariables false
set_option linter.unusedSimpArgs false
def shift {α:Type} (q:Nat):Except Int (α×Nat)→Except Int (α×Nat)
 | .error e=> .error e
 | .ok (a,r)=> .ok (a,q+r)
def Sh {α:Type} (p:Pr α):Prop:= ∀ (s:List UInt8) (q k:Nat),q+k≤s.length→p s (q+k)=shift q (p (s.drop q) k)
theorem Sh.ret {α:Type} (a:α):Sh (Pr.ret a):=fun s q k h=>rfl
theorem Sh.err {α:Type} (e:Int):Sh (Pr.err e:Pr α):=fun s q k h=>rfl
theorem Sh.bind {α β:Type} {p:Pr α} {f:α→Pr β} {enc:α→List UInt8} {ok:α→Prop} (hp:Sh p) (hs:Sp p enc ok) (hf: ∀ a,Sh (f a)):Sh (p.bind f):=by
 intro s q k h
 unfold Pr.bind
 rw[hp s q k h]
 cases hx:p (s.drop q) k with
 | error e=>rfl
 | ok x =>
  have:=(hs.spell (s.drop q) k x.1 x.2 (by rw[C0]; omega) hx).2.1
  rw[C0] at this
  exact hf x.1 s q x.2 (by omega)
theorem Sh_int (k:Nat):Sh (dQ k):=by
 intro s q j h
 unfold dQ
 rw[C0,Dq]
 by_cases hc:s.length<q+j+k
 ·rw[if_pos hc,if_pos (by omega)]
  rfl
 ·rw[if_neg hc,if_neg (by omega)]
  simp only[shift,Nat.add_assoc]
theorem Sh_got (n:Int):Sh (ob n):=by
 intro s q j h
 unfold ob
 rw[C0,Dq]
 by_cases h1:n= -1
 ·rw[if_pos h1,if_pos h1]
  rfl
 rw[if_neg h1,if_neg h1]
 by_cases h2:n<0
 ·rw[if_pos h2,if_pos h2]
  rfl
 rw[if_neg h2,if_neg h2]
 by_cases hc:(s.length:Int)<((q+j:Nat):Int)+n
 ·rw[if_pos hc,if_pos (by omega)]
  rfl
 ·rw[if_neg hc,if_neg (by omega)]
  simp only[shift,Nat.add_assoc]
theorem zV (bs:Int):Sh (fL bs):=by
 intro s q j h
 unfold fL
 rw[Dq]
 split
 ·simp only[shift,Nat.add_assoc]
 ·rfl
theorem wa (bs:Int) (hb:bs=32∨bs=64):Sh (fh bs):=(zV bs).bind (pG bs hb) fun _=> .ret _
theorem rN:Sh eM:=(wa 32 (.inl rfl)).bind (fO 32 (.inl rfl)) Sh_got
theorem zW {p:Pr Bl} {enc:Bl→List UInt8} {ok:Bl→Prop} (hp:Sh p) (hs:Sp p enc ok):Sh (eZ p):=hp.bind hs fun b=>by
 split
 ·exact .err 4
 ·exact .ret _
theorem zX:Sh hY:=zW rN eu
theorem Sh.zero {α:Type} {p:Pr α} (h:Sh p) {s:List UInt8} {q:Nat} (hq:q≤s.length):p s q=shift q (p (s.drop q) 0):=h s q 0 hq
def jd (each:Nat) (n:Int):Pr Int:=fun s q=>if n<0 then .error 4 else if 0<each∧((s.length - q:Nat):Int) / each<n then .error 1 else .ok (n,q)
def gq (k each:Nat):Pr Int:=(dQ k).bind (jd each)
theorem zY (each:Nat) (n:Int):Sh (jd each n):=by
 intro s q j h
 unfold jd
 rw[C0,show s.length - q - j=s.length - (q+j) by omega]
 split
 ·rfl
 ·split
  ·rfl
  ·rfl
theorem kb {k each:Nat} (h1:1≤k) (h8:k≤8) {s:List UInt8} {q r:Nat} {n:Int} (hq:q≤s.length) (h:gq k each s q= .ok (n,r)):0≤n∧(0<each→n*each≤((s.length - r:Nat):Int))∧r=q+k∧r≤s.length∧s.take r=s.take q++be n k∧bu n k=true:=by
 obtain⟨m,r',h2,h⟩:=Pr.bind_ok h
 obtain⟨a1,a2,a3,a4,a5⟩:=(fg k h1 h8).spell _ _ _ _ hq h2
 unfold jd at h
 split at h
 ·exact nomatch h
 ·rename_i hn
  split at h
  ·exact nomatch h
  ·rename_i he
   injection h with h
   obtain⟨rfl,rfl⟩:=Dv h
   rw[aA] at a3
   refine⟨by omega,fun hz=> ?_,a3,a2,a4,a5⟩
   have:m≤((s.length - r':Nat):Int) / each:=by
    rcases Int.lt_or_le (((s.length - r':Nat):Int) / each) m with g | g
    ·exact absurd ⟨hz,g⟩ he
    ·exact g
   exact (Int.le_ediv_iff_mul_le (by omega)).1 this
theorem xu {k each:Nat} (h1:1≤k) (h8:k≤8) {s t:List UInt8} {q:Nat} {n:Int} (hq:q≤s.length) (hf:bu n k=true) (hn:0≤n) (h:s.drop q=be n k++t) (hl:0<each→n*each≤t.length):gq k each s q= .ok (n,q+k):=by
 have g:=(fg k h1 h8).back s t q n hq hf h
 rw[aA] at g
 rw[gq,Pr.bind_of g]
 unfold jd
 have hlen:=congrArg List.length h
 rw[C0,CW,aA] at hlen
 rw[if_neg (by omega),if_neg]
 rintro⟨hz,hc⟩
 have:=(Int.le_ediv_iff_mul_le (show (0:Int)<each by omega)).2 (hl hz)
 rw[show s.length - (q+k)=t.length by omega] at hc
 omega
theorem wb (k each:Nat) (h1:1≤k) (h8:k≤8) (kk ee:Int) (hk:kk=(k:Int)) (he:ee=(each:Int)) (h9:ee≤1000):CQ (fun st=>il st kk ee) (gq k each) 0:=by
 subst hk
 refine⟨fun st h=> ?_,fun s q hq=> ?_⟩
 ·show il st k ee= _
  rw[nK _ _ _ ⟨by omega,by omega⟩]
  unfold ij
  rw[jV h]
  simp only
  rw[if_pos h]
 ·show (∃ e st,gq k each s q= .error e∧il ⟨s.drop q,q,0⟩ k ee=some (0,st)∧ _∧ _)∨(∃ a r,gq k each s q= .ok (a,r)∧il ⟨s.drop q,q,0⟩ k ee=some (a,⟨s.drop r,r,0⟩)∧q≤r∧r≤s.length)
  rw[nK _ _ _ ⟨by omega,by omega⟩]
  unfold ij
  rcases (tR k h1 h8 k rfl).run s q hq with⟨e,st,p1,g1,x1,y1⟩ | ⟨n,r,p1,g1,n1,l1⟩
  ·rw[gf] at g1
   have g1:=CP g1
   obtain⟨u1,u2⟩:=Dv g1
   rw[u2]
   exact .inl ⟨e,st,Pr.bind_err p1,by rw[if_pos y1],x1,y1⟩
  ·rw[gf] at g1
   have g1:=CP g1
   have u3:di ⟨s.drop q,q,0⟩ k=(n,⟨s.drop r,r,0⟩):=g1
   rw[u3,gq,Pr.bind_of p1]
   simp only
   rw[if_neg (by simp)]
   unfold jd
   by_cases hn:n<0
   ·rw[if_pos hn,if_pos hn]
    exact .inl ⟨4,_,rfl,rfl,rfl,by simp[cE]⟩
   ·rw[if_neg hn,if_neg hn,C0,he]
    by_cases hc:0<each∧((s.length - r:Nat):Int) / each<n
    ·rw[if_pos hc,if_pos ⟨by omega,hc.2⟩]
     exact .inl ⟨1,_,rfl,rfl,rfl,by simp[cE]⟩
    ·rw[if_neg hc,if_neg (fun h=>hc ⟨by omega,h.2⟩)]
     exact .inr ⟨n,r,rfl,rfl,n1,l1⟩
theorem qv {st:I} {k e:Int} (h:st.err≠0) (hk:0≤k∧k≤1000) (he:0≤e∧e≤1000):il st k e=some (0,st):=by
 rw[nK _ _ _ ⟨by omega,by omega⟩]
 unfold ij
 rw[jV h]
 simp only
 rw[if_pos h]
def ei {α:Type} (p:Pr α):Nat→Pr (List α)
 | 0=> .ret []
 | n+1=>p.bind fun a=>(ei p n).bind fun l=> .ret (a::l)
def bt {α:Type} (enc:α→List UInt8):List α→List UInt8
 | [] => []
 | a::l=>enc a++bt enc l
theorem od {α:Type} {p:Pr α} {enc:α→List UInt8} {ok:α→Prop} (hp:Sp p enc ok): ∀ n:Nat,Sp (ei p n) (bt enc) (fun l=>l.length=n∧ ∀ x,x∈l→ok x)
 | 0=>by
  refine⟨fun s q a r hq h=> ?_,fun s t q a hq ha h=> ?_⟩
  ·injection h with h
   obtain⟨rfl,rfl⟩:=Dv h
   exact⟨Dy _,hq,rfl,by simp[bt],rfl,fun x h=>nomatch h⟩
  ·obtain rfl:=List.length_eq_zero_iff.1 ha.1
   rfl
 | n+1=>by
  have ih:=od hp n
  refine⟨fun s q a r hq h=> ?_,fun s t q a hq ha h=> ?_⟩
  ·obtain⟨x,q1,h1,h⟩:=Pr.bind_ok h
   obtain⟨l,q2,h2,h⟩:=Pr.bind_ok h
   injection h with h
   obtain⟨rfl,rfl⟩:=Dv h
   obtain⟨a1,a2,a3,a4,a5⟩:=hp.spell _ _ _ _ hq h1
   obtain⟨b1,b2,b3,b4,b5,b6⟩:=ih.spell _ _ _ _ a2 h2
   refine⟨by omega,b2,by rw[bt,CW]; omega,by rw[b4,a4,bt,C2],by rw[C5,b5],fun y hy=> ?_⟩
   rcases List.mem_cons.1 hy with rfl | hy
   ·exact a5
   ·exact b6 y hy
  ·obtain⟨ha1,ha2⟩:=ha
   cases a with
   | nil=>exact absurd ha1 (by simp)
   | cons x l =>
    rw[bt,C2] at h
    have hl:=congrArg List.length h
    rw[C0,CW] at hl
    have g1:=hp.back _ _ _ _ hq (ha2 x (.head _)) h
    have g2:=ih.back _ _ _ _ (by omega) ⟨by simpa using ha1,fun y hy=>ha2 y (.tail _ hy)⟩ (bZ h)
    rw[ei,Pr.bind_of g1,Pr.bind_of g2]
    simp only[Pr.ret,bt,CW,Nat.add_assoc]
theorem yy {α:Type} {p:Pr α} {enc:α→List UInt8} {ok:α→Prop} (hs:Sh p) (hp:Sp p enc ok): ∀ n:Nat,Sh (ei p n)
 | 0=> .ret _
 | n+1=>hs.bind hp fun a=>(yy hs hp n).bind (od hp n) fun l=> .ret _
theorem jx {α:Type} {enc:α→List UInt8} {ok:α→Prop} {each:Nat} (he: ∀ x,ok x→each≤(enc x).length): ∀ l:List α,(∀ x,x∈l→ok x)→l.length*each≤(bt enc l).length
 | [],h=>by simp
 | x::l,h=>by
  have:=jx he l (fun y hy=>h y (.tail _ hy))
  have:=he x (h x (.head _))
  rw[bt,CW,C5,Nat.add_mul]
  omega
def kc {α:Type} (k each:Nat) (p:Pr α):Pr (List α):=(gq k each).bind fun n=>ei p n.toNat
theorem yz {α:Type} {p:Pr α} {enc:α→List UInt8} {ok:α→Prop} (k each:Nat) (h1:1≤k) (h8:k≤8) (hp:Sp p enc ok) (he: ∀ x,ok x→each≤(enc x).length):Sp (kc k each p) (fun l=>be (l.length:Int) k++bt enc l) (fun l=>bu (l.length:Int) k=true∧ ∀ x,x∈l→ok x):=by
 refine⟨fun s q a r hq h=> ?_,fun s t q a hq ha h=> ?_⟩
 ·obtain⟨n,q1,g1,h⟩:=Pr.bind_ok h
  obtain⟨a1,a2,a3,a4,a5,a6⟩:=kb h1 h8 hq g1
  obtain⟨b1,b2,b3,b4,b5,b6⟩:=(od hp n.toNat).spell _ _ _ _ a4 h
  have hn:(a.length:Int)=n:=by omega
  refine⟨by omega,b2,by rw[CW,aA]; omega,by rw[b4,a5,hn,C2],by rw[hn]; exact a6,b6⟩
 ·rw[C2] at h
  have hl:=congrArg List.length h
  rw[C0,CW,CW,aA] at hl
  have g1:=xu (each:=each) h1 h8 hq ha.1 (by omega) h (fun _=>by
   have:=jx he a ha.2
   rw[CW,Int.natCast_add,← Int.natCast_mul]
   omega)
  have h2:=bZ h
  rw[aA] at h2
  have g2:=(od hp a.length).back _ _ _ _ (by omega) ⟨rfl,ha.2⟩ h2
  rw[kc,Pr.bind_of g1,Dg,g2,CW,aA]
  simp only[Nat.add_assoc]
structure CB {α:Type} (op:I→Option (α×I)) (p:Pr α) (z:α):Prop where
 dead: ∀ st:I,st.err≠0→op st=some (z,st)
 run: ∀ (s:List UInt8) (q:Nat),s.length≤1000000→q≤s.length→(∃ (e:Int) (st:I),p s q= .error e∧op ⟨s.drop q,q,0⟩=some (z,st)∧st.err=e∧st.err≠0)∨(∃ (a:α) (r:Nat),p s q= .ok (a,r)∧op ⟨s.drop q,q,0⟩=some (a,⟨s.drop r,r,0⟩)∧q≤r∧r≤s.length)
theorem CQ.cb {α:Type} {op:I→Option (α×I)} {p:Pr α} {z:α} (h:CQ op p z):CB op p z:=⟨h.dead,fun s q _ hq=>h.run s q hq⟩
def NZ {α:Type} (p:Pr α):Prop:= ∀ (s:List UInt8) (q:Nat) (e:Int),s.length≤1000000→q≤s.length→p s q= .error e→e≠0
theorem CB.nz {α:Type} {op:I→Option (α×I)} {p:Pr α} {z:α} (h:CB op p z):NZ p:=by
 intro s q e hs hq hp
 rcases h.run s q hs hq with⟨e',st,p1,g,x,y⟩ | ⟨a,r,p1,g,n,l⟩
 ·rw[hp] at p1
  injection p1 with p1
  rw[p1,← x]
  exact y
 ·rw[hp] at p1
  exact nomatch p1
theorem CB.bind {α β:Type} {op1:I→Option (α×I)} {p:Pr α} {z1:α} {op2:α→I→Option (β×I)} {f:α→Pr β} {z:β} (W:α→Prop) (h:CB op1 p z1)
 (hs: ∀ s q a r,s.length≤1000000→q≤s.length→p s q= .ok (a,r)→W a) (hz:W z1) (hf: ∀ a,W a→CB (op2 a) (f a) z):CB (fun st=>(op1 st).bind fun (a,st1)=>op2 a st1) (p.bind f) z:=by
 refine⟨fun st hd=> ?_,fun s q hl hq=> ?_⟩
 ·show (op1 st).bind _= _
  rw[h.dead st hd,CS]
  exact (hf z1 hz).dead st hd
 ·rcases h.run s q hl hq with⟨e,st,p1,g1,x1,y1⟩ | ⟨a,r,p1,g1,n1,l1⟩
  ·refine .inl ⟨e,st,Pr.bind_err p1,?_,x1,y1⟩
   show (op1 _).bind _= _
   rw[g1,CS]
   exact (hf z1 hz).dead st y1
  ·have g2:((op1 ⟨s.drop q,q,0⟩).bind fun (a,st1)=>op2 a st1)=op2 a ⟨s.drop r,r,0⟩:=by rw[g1,CS]
   show (∃ e st,p.bind f s q= _∧((op1 ⟨s.drop q,q,0⟩).bind fun (a,st1)=>op2 a st1)= _∧ _∧ _)∨(∃ x m,p.bind f s q= _∧((op1 ⟨s.drop q,q,0⟩).bind fun (a,st1)=>op2 a st1)= _∧ _∧ _)
   rw[g2,Pr.bind_of p1]
   rcases (hf a (hs s q a r hl hq p1)).run s r hl l1 with⟨e,st,p2,k2,x2,y2⟩ | ⟨b,m,p2,k2,n2,l2⟩
   ·exact .inl ⟨e,st,p2,k2,x2,y2⟩
   ·exact .inr ⟨b,m,p2,k2,by omega,l2⟩
theorem CB.congr {α:Type} {op op':I→Option (α×I)} {p:Pr α} {z:α} (h:CB op p z) (he: ∀ st,op' st=op st):CB op' p z:=⟨fun st hd=>(he st).trans (h.dead st hd),fun s q hl hq=>by rw[he]; exact h.run s q hl hq⟩
theorem CB.pr {α:Type} {op:I→Option (α×I)} {p p':Pr α} {z:α} (h:CB op p z) (he:p=p'):CB op p' z:=he ▸ h
theorem CB_chk {α:Type} {op:I→Option (α×I)} {x0 z:α} {e:Int} (h: ∀ st:I,st.err≠0→op st=some (z,st)) (h0: ∀ st:I,st.err=0→op st=some (if e=0 then (x0,st) else (z,cE st e))):CB op (if e=0 then .ret x0 else .err e) z:=by
 refine⟨h,fun s q hl hq=> ?_⟩
 by_cases he:e=0
 ·rw[if_pos he,h0 _ rfl,if_pos he]
  exact .inr ⟨x0,q,rfl,rfl,Dy _,hq⟩
 ·rw[if_neg he,h0 _ rfl,if_neg he]
  exact .inl ⟨e,_,rfl,rfl,rfl,he⟩
theorem Pr.bind_assoc {α β γ:Type} (p:Pr α) (f:α→Pr β) (g:β→Pr γ):(p.bind f).bind g=p.bind fun a=>(f a).bind g:=by
 funext s q
 unfold Pr.bind
 cases p s q with
 | error e=>rfl
 | ok x=>rfl
theorem Pr.ret_bind {α β:Type} (a:α) (f:α→Pr β):(Pr.ret a).bind f=f a:=by
 funext s q
 rfl
def mv:List Nat→Pr (List Int)
 | []=> .ret []
 | k::ks=>(dQ k).bind fun a=>(mv ks).bind fun l=> .ret (a::l)
def mj:List Nat→List Int→List UInt8
 | k::ks,x::xs=>be x k++mj ks xs
 | _,_ => []
def okI:List Nat→List Int→Prop
 | [],[]=>True
 | k::ks,x::xs=>bu x k=true∧okI ks xs
 | _,_=>False
theorem l8: ∀ ks:List Nat,(∀ k,k∈ks→1≤k∧k≤8)→Sp (mv ks) (mj ks) (okI ks)
 | [],_=>by
  refine⟨fun s q l r hq h=> ?_,fun s t q l hq hl hd=> ?_⟩
  ·injection h with h
   obtain⟨rfl,rfl⟩:=Dv h
   exact⟨Dy _,hq,rfl,by simp[mj],trivial⟩
  ·cases l with
   | nil=>rfl
   | cons x xs=>exact nomatch hl
 | k::ks,hk=>by
  have hp:=fg k (hk k (List.mem_cons_self ..)).1 (hk k (List.mem_cons_self ..)).2
  have ih:=l8 ks (fun j hj=>hk j (List.mem_cons_of_mem _ hj))
  refine⟨fun s q l r hq h=> ?_,fun s t q l hq hl hd=> ?_⟩
  ·obtain⟨a,m,h1,h2⟩:=Pr.bind_ok h
   obtain⟨xs,m2,h3,h4⟩:=Pr.bind_ok h2
   injection h4 with h4
   obtain⟨rfl,rfl⟩:=Dv h4
   obtain⟨a1,a2,a3,a4,a5⟩:=hp.spell s q a m hq h1
   obtain⟨b1,b2,b3,b4,b5⟩:=ih.spell s m xs m2 a2 h3
   exact⟨by omega,b2,by simp only[mj,CW]; omega,by rw[b4,a4,mj,C2],a5,b5⟩
  ·cases l with
   | nil=>exact nomatch hl
   | cons x xs =>
    rw[mj,C2] at hd
    have h1:=hp.back s _ q x hq hl.1 hd
    have hl2:=congrArg List.length hd
    rw[C0,CW] at hl2
    have h2:=ih.back s t _ xs (by omega) hl.2 (bZ hd)
    rw[mv,Pr.bind_of h1,Pr.bind_of h2,mj,CW,← Nat.add_assoc]
    rfl
def KS:List Nat := [8,4,4,1,4,2,4,8,8,8,2,4,4]
theorem tT: ∀ k,k∈KS→1≤k∧k≤8:=by decide
def s32 (n:Int):Int:=if n>2147483647 then n - 4294967296 else n
def toL (p:Pfx):List Int := [p.Cu,p.CF,p.Co,2,s32 p.CL,p.CJ,p.Cr,p.Cl,p.Cy,p.Ci,p.Cp,p.Ch,p.CK]
def ckE (b m ct:Int):Int:=if m=2 then (if b<49 then 4 else if ct<0 then 10 else 0) else 6
def chkP:List Int→Pr Pfx
 | [a,b,c,m,s,at',la,fi,mx,pr,ep,sq,ct]=>if ckE b m ct=0 then .ret ⟨a,b,c,s % 4294967296,at',la,fi,mx,pr,ep,sq,ct⟩ else .err (ckE b m ct)
 | _=> .err 1
def qw:Pr Pfx:=(mv KS).bind chkP
def jl (p:Pfx):List UInt8:=mj KS (toL p)
def okP (p:Pfx):Prop:=okI KS (toL p)∧(0≤p.CL∧p.CL≤4294967295)∧49≤p.CF∧0≤p.CK
theorem wc: ∀ {ks:List Nat} {l:List Int},okI ks l→l.length=ks.length
 | [],[],_=>rfl
 | k::ks,x::xs,h=>by rw[C5,C5,wc h.2]
 | [],_ :: _,h=>nomatch h
 | _ :: _,[],h=>nomatch h
theorem tU: ∀ {ks:List Nat} {l:List Int},okI ks l→(mj ks l).length=ks.sum
 | [],[],_=>rfl
 | k::ks,x::xs,h=>by rw[mj,CW,aA,tU h.2,List.sum_cons]
 | [],_ :: _,h=>nomatch h
 | _ :: _,[],h=>nomatch h
theorem len13 {l:List Int} (h:l.length=13): ∃ a b c m s t la fi mx pr ep sq ct,l = [a,b,c,m,s,t,la,fi,mx,pr,ep,sq,ct]:=by
 match l,h with
 | [a,b,c,m,s,t,la,fi,mx,pr,ep,sq,ct],_=>exact⟨a,b,c,m,s,t,la,fi,mx,pr,ep,sq,ct,rfl⟩
theorem yA {s:Int} (h:bu s 4=true):s32 (s % 4294967296)=s:=by
 rw[ik] at h
 have:=of_decide_eq_true h
 unfold s32
 split <;> omega
theorem zZ {s:Int} (h:0≤s∧s≤4294967295):s32 s % 4294967296=s:=by
 unfold s32
 split <;> omega
theorem yB {b m ct:Int} (h:ckE b m ct=0):m=2∧49≤b∧0≤ct:=by
 unfold ckE at h
 by_cases h1:m=2
 ·rw[if_pos h1] at h
  by_cases h2:b<49
  ·rw[if_pos h2] at h; cases h
  ·rw[if_neg h2] at h
   by_cases h3:ct<0
   ·rw[if_pos h3] at h; cases h
   ·exact⟨h1,by omega,by omega⟩
 ·rw[if_neg h1] at h; cases h
theorem ckE_of {b ct:Int} (h1:49≤b) (h2:0≤ct):ckE b 2 ct=0:=by
 unfold ckE
 rw[if_pos rfl,if_neg (by omega),if_neg (by omega)]
theorem qx:Sp qw jl okP:=by
 refine⟨fun s q p r hq h=> ?_,fun s t q p hq hp hd=> ?_⟩
 ·obtain⟨l,m,h1,h2⟩:=Pr.bind_ok h
  obtain⟨a1,a2,a3,a4,a5⟩:=(l8 KS tT).spell s q l m hq h1
  obtain⟨a,b,c,mg,sm,t,la,fi,mx,pr,ep,sq,ct,rfl⟩:=len13 (wc a5)
  have hs:bu sm 4=true:=a5.2.2.2.2.1
  unfold chkP at h2
  dsimp only at h2
  by_cases hc:ckE b mg ct=0
  ·rw[if_pos hc] at h2
   injection h2 with h2
   obtain⟨rfl,rfl⟩:=Dv h2
   obtain⟨rfl,c2,c3⟩:=yB hc
   have e:toL ⟨a,b,c,sm % 4294967296,t,la,fi,mx,pr,ep,sq,ct⟩ = [a,b,c,2,sm,t,la,fi,mx,pr,ep,sq,ct]:=by
    unfold toL
    rw[yA hs]
   unfold jl okP
   rw[e]
   exact⟨a1,a2,a3,a4,a5,by show 0≤sm % 4294967296∧sm % 4294967296≤4294967295; omega,c2,c3⟩
  ·rw[if_neg hc] at h2
   exact nomatch h2
 ·have h1:=(l8 KS tT).back s t q (toL p) hq hp.1 hd
  rw[qw,Pr.bind_of h1]
  unfold toL chkP
  dsimp only
  rw[if_pos (ckE_of hp.2.2.1 hp.2.2.2),zZ hp.2.1]
  rfl
theorem and32 (n:Int):Go.bits .and .i64 n 4294967295=n % 4294967296:=by
 rw[show (4294967295:Int)=((4294967295:Nat):Int) from rfl,sH n _ (by decide),show (4294967295:Nat)=2 ^ 32 - 1 from rfl,Nat.and_two_pow_sub_one_eq_mod]
 omega
def zP:Pfx:=⟨0,0,0,0,0,0,0,0,0,0,0,0⟩
def yC (a b c m s t la fi mx pr ep sq ct:Int) (st:I):Option (Pfx×I):=(iD st).bind fun (x57,st58)=>(if x57=0 then ((if m=2 then ((if b<49 then ((bE st58 4).bind fun st164=>some st164) else ((if ct<0 then ((bE st58 10).bind fun st172=>some st172) else some st58).bind fun st169=>some st169)).bind fun st161=>some st161) else ((bE st58 6).bind fun st174=>some st174)).bind fun st147=>some st147) else some st58).bind fun st117=>(iD st117).bind fun (x176,st177)=>if x176=0 then (some ((⟨a,b,c,(Go.bits .and .i64 s 4294967295),t,la,fi,mx,pr,ep,sq,ct⟩:Pfx),st177)) else (some ((⟨0,0,0,0,0,0,0,0,0,0,0,0⟩:Pfx),st177))
theorem B_tail (a b c m s t la fi mx pr ep sq ct:Int):CB (yC a b c m s t la fi mx pr ep sq ct) (chkP [a,b,c,m,s,t,la,fi,mx,pr,ep,sq,ct]) zP:=by
 refine CB_chk (fun st h=> ?_) (fun st h=> ?_)
 ·unfold yC
  rw[bw,CS]
  dsimp only
  rw[if_neg h,CS,bw,CS]
  dsimp only
  rw[if_neg h]
  rfl
 ·obtain⟨l,q,e⟩:=st
  obtain rfl:e=0:=h
  unfold yC ckE
  rw[bw,CS]
  dsimp only
  rw[if_pos rfl,and32]
  by_cases h1:m=2
  ·rw[if_pos h1,if_pos h1]
   by_cases h2:b<49
   ·rw[if_pos h2,if_pos h2,if_neg (by decide)]; rfl
   ·rw[if_neg h2,if_neg h2]
    by_cases h3:ct<0
    ·rw[if_pos h3,if_pos h3,if_neg (by decide)]; rfl
    ·rw[if_neg h3,if_neg h3,if_pos rfl]; rfl
  ·rw[if_neg h1,if_neg h1,if_neg (by decide)]; rfl
theorem B_pfx:CB (fun st=>gV st) qw zP:=by
 have w: ∀ {p:Pr Int} (s:List UInt8) (q:Nat) (a:Int) (r:Nat),s.length≤1000000→q≤s.length→p s q= .ok (a,r)→(fun _:Int=>True) a:=fun _ _ _ _ _ _ _=>trivial
 have h:=CB.bind (fun _=>True) Q8.cb w trivial fun a _=>CB.bind (fun _=>True) Q4.cb w trivial fun b _=>CB.bind (fun _=>True) Q4.cb w trivial fun c _=>CB.bind (fun _=>True) Q1.cb w trivial fun m _=>CB.bind (fun _=>True) Q4.cb w trivial fun s _ =>
  CB.bind (fun _=>True) Q2.cb w trivial fun t _=>CB.bind (fun _=>True) Q4.cb w trivial fun la _=>CB.bind (fun _=>True) Q8.cb w trivial fun fi _=>CB.bind (fun _=>True) Q8.cb w trivial fun mx _=>CB.bind (fun _=>True) Q8.cb w trivial fun pr _ =>
  CB.bind (fun _=>True) Q2.cb w trivial fun ep _=>CB.bind (fun _=>True) Q4.cb w trivial fun sq _=>CB.bind (fun _=>True) Q4.cb w trivial fun ct _=>B_tail a b c m s t la fi mx pr ep sq ct
 refine (h.congr (fun st=>rfl)).pr ?_
 unfold qw KS
 simp only[mv,Pr.bind_assoc,Pr.ret_bind]
def r64 (n:Int):Prop:= -9223372036854775808≤n∧n≤9223372036854775807
def wrI:List Nat→List Int→List UInt8×Int→Option (List UInt8×Int)
 | k::ks,x::xs,st=>(fa st x (k:Int)).bind fun st=>wrI ks xs st
 | _,_,st=>some st
theorem yD: ∀ (ks:List Nat) (l:List Int) (t:List UInt8),okI ks l→t.length+ks.sum≤1000000→wrI ks l (t,0)=some (t++mj ks l,0)
 | [],[],t,_,_=>by unfold wrI mj; rw[DE]
 | [],_ :: _,_,h,_=>nomatch h
 | _ :: _,[],_,h,_=>nomatch h
 | k::ks,x::xs,t,h,hl=>by
  rw[List.sum_cons] at hl
  rw[wrI,zU h.1 (by omega),CS,Dg,yD ks xs _ h.2 (by rw[CW,aA]; omega),mj,C2]
def w32 (n:Int):Int:=IntKind.i32.wrap (IntKind.u32.wrap n)
theorem z4 (n:Int): -2147483648≤w32 n∧w32 n≤2147483647:=by
 unfold w32
 rw[IntKind.wrap_i32]
 omega
theorem w32_s {n:Int} (h:0≤n∧n≤4294967295):w32 n=s32 n:=by
 unfold w32 s32
 rw[IntKind.wrap_i32,IntKind.wrap_u32]
 split <;> omega
def toW (p:Pfx):List Int := [p.Cu,p.CF,p.Co,2,w32 p.CL,p.CJ,p.Cr,p.Cl,p.Cy,p.Ci,p.Cp,p.Ch,p.CK]
def wP (p:Pfx):Prop:=r64 p.Cu∧r64 p.CF∧r64 p.Co∧r64 p.CL∧r64 p.CJ∧r64 p.Cr∧r64 p.Cl∧r64 p.Cy∧r64 p.Ci∧r64 p.Cp∧r64 p.Ch∧r64 p.CK
theorem yE (st:List UInt8×Int) (p:Pfx):dk st p=wrI KS (toW p) (if p.CL<0∨p.CL>4294967295 then iM st 11 else st):=by
 have hw:=z4 p.CL
 unfold dk
 have e:((if p.CL<0 then some true else (if p.CL>4294967295 then some true else some false)).bind fun y4=>(if y4=true then ((ku st 11).bind fun st14=>some st14) else some st))=some (if p.CL<0∨p.CL>4294967295 then iM st 11 else st):=by
  by_cases h1:p.CL<0
  ·rw[if_pos h1,CS,if_pos rfl,if_pos (.inl h1)]; rfl
  ·rw[if_neg h1]
   by_cases h2:p.CL>4294967295
   ·rw[if_pos h2,CS,if_pos rfl,if_pos (.inr h2)]; rfl
   ·rw[if_neg h2,CS,if_neg (by decide),if_neg (by omega)]
 have e2: ∀ (K:List UInt8×Int→Option (List UInt8×Int)),((if p.CL<0 then some true else (if p.CL>4294967295 then some true else some false)).bind fun y4=>(if y4=true then ((ku st 11).bind fun st14=>some st14) else some st).bind K)=K (if p.CL<0∨p.CL>4294967295 then iM st 11 else st):=by
  intro K
  rw[← Option.bind_assoc,e,CS]
 rw[e2]
 show (if -9223372036854775808≤w32 p.CL∧w32 p.CL≤9223372036854775807 then _ else _)= _
 rw[if_pos (by omega)]
 rfl
def okWp (p:Pfx):Prop:=okI KS (toL p)∧0≤p.CL∧p.CL≤4294967295
theorem lL {p:Pfx} (h:okI KS (toL p)):(jl p).length=61:=by
 unfold jl
 rw[tU h]
 rfl
theorem yF {p:Pfx} (t:List UInt8) (h:okWp p) (ht:t.length≤900000):dk (t,0) p=some (t++jl p,0):=by
 have e:toW p=toL p:=by
  unfold toW toL
  rw[w32_s h.2]
 have h2:=h.2
 rw[yE,if_neg (by omega),e]
 exact yD KS (toL p) t h.1 (by show t.length+61≤ _; omega)
def du (p:Pfx):List Int := [p.Cu,p.CF,p.Co,p.CL,p.CJ,p.Cr,p.Cl,p.Cy,p.Ci,p.Cp,p.Ch,p.CK]
theorem ec (l:List Int) (m:Nat) (y4 acc:List UInt8) (y5:Bool) (k:Nat) (x:Int) (z:Nat) (hk:k<12) (h3:k≠3) (hx:l[k]? = some x) (hz : [(8:Int),4,4,4,2,4,8,8,8,2,4,4][k]? = some (z:Int)) (h8:z≤8) (hr:r64 x) (ha:acc.length≤1000) :
 bn l (m+1) y4 y5 acc k=if bu x z=true then bn l m y4 y5 (acc++be x z) (k+1) else some (.ret ([],false)):=by
 rw[bn,if_pos (by omega),hx,CS,if_neg (by omega),hz,CS,rA _ _ hr,CS]
 by_cases h:bu x z=true
 ·rw[if_pos h,if_pos h,eD _ _ ⟨hr,by omega,by omega⟩,CS,Dg,if_pos (by rw[aA]; omega),if_pos (by omega)]
 ·rw[if_neg h,if_neg h]
theorem yG (l:List Int) (m:Nat) (y4 acc:List UInt8) (y5:Bool) (x:Int) (hx:l[3]? = some x) (hr:r64 x) (ha:acc.length≤1000) :
 bn l (m+1) y4 y5 acc 3=if (0≤x∧x≤4294967295) then (if bu (s32 x) 4=true then bn l m y4 y5 (acc++be 2 1++be (s32 x) 4) 4 else some (.ret ([],false))) else some (.ret ([],false)):=by
 obtain⟨r1,r2⟩:=hr
 rw[bn,if_pos (by decide),hx,CS,if_pos (by decide)]
 by_cases h:0≤x∧x≤4294967295
 ·have e1:(if x<0 then some true else (if x>4294967295 then some true else some false))=some false:=by rw[if_neg (by omega),if_neg (by omega)]
  have e2:(if x>2147483647 then (if -9223372036854775808≤(x - 4294967296)∧(x - 4294967296)≤9223372036854775807 then some (x - 4294967296) else none) else some x)=some (s32 x):=by
   unfold s32
   by_cases q:x>2147483647
   ·rw[if_pos q,if_pos q,if_pos (by omega)]
   ·rw[if_neg q,if_neg q]
  have e3:r64 (s32 x):=by unfold s32 r64; split <;> omega
  rw[e1,CS,if_neg (by decide),e2,CS,eD _ _ ⟨by decide,by decide,by decide⟩,CS,if_pos (by rw[aA]; show _+1≤ _; omega),if_pos h]
  show ((some (4:Int)).bind _)= _
  rw[CS,rA _ _ e3,CS]
  by_cases hf:bu (s32 x) 4=true
  ·rw[if_pos hf,if_pos hf,eD _ _ ⟨e3,by decide,by decide⟩,CS,if_pos (by rw[CW,aA,aA]; show _+1+4≤ _; omega),if_pos (by decide)]
   rfl
  ·rw[if_neg hf,if_neg hf]
 ·have e1:(if x<0 then some true else (if x>4294967295 then some true else some false))=some true:=by
   by_cases q:x<0
   ·rw[if_pos q]
   ·rw[if_neg q,if_pos (by omega)]
  rw[e1,CS,if_pos rfl,if_neg h]
theorem rb_end (l:List Int) (m:Nat) (y4 acc:List UInt8) (y5:Bool):bn l (m+1) y4 y5 acc 12=some (.go (y4,y5,acc,12)):=by
 rw[bn,if_neg (by decide)]
open Classical in
theorem rO (p:Pfx) (hw:wP p):ey (du p)=some (if okWp p then (jl p,true) else ([],false)):=by
 obtain⟨h1,h2,h3,h4,h5,h6,h7,h8,h9,h10,h11,h12⟩:=hw
 unfold ey
 rw[show (12:Int).toNat+1=12+1 from rfl]
 have no: ¬ okWp p→ ∀ (o:Option (Lp (List UInt8×Bool) (List UInt8×Bool×List UInt8×Nat))),o=some (.ret ([],false))→(o.bind fun e=>match e with | .ret r=>some r | .go (y55,y56,y57,k58)=>some (y57,true))=some (if okWp p then (jl p,true) else ([],false)):=by
  intro h o ho
  rw[ho,if_neg h]
  rfl
 by_cases f1:bu p.Cu (8:Nat)=true
 rotate_left
 ·exact no (fun h=>f1 h.1.1) _ (by rw[ec (du p) 12 [] [] false 0 p.Cu 8 (by decide) (by decide) rfl rfl (by decide) h1 (by decide),if_neg f1])
 by_cases f2:bu p.CF (4:Nat)=true
 rotate_left
 ·exact no (fun h=>f2 h.1.2.1) _ (by rw[ec (du p) 12 [] [] false 0 p.Cu 8 (by decide) (by decide) rfl rfl (by decide) h1 (by decide),if_pos f1,ec (du p) 11 [] _ false 1 p.CF 4 (by decide) (by decide) rfl rfl (by decide) h2 (by simp[aA]),if_neg f2])
 by_cases f3:bu p.Co (4:Nat)=true
 rotate_left
 ·exact no (fun h=>f3 h.1.2.2.1) _ (by rw[ec (du p) 12 [] [] false 0 p.Cu 8 (by decide) (by decide) rfl rfl (by decide) h1 (by decide),if_pos f1,ec (du p) 11 [] _ false 1 p.CF 4 (by decide) (by decide) rfl rfl (by decide) h2 (by simp[aA]),if_pos f2,
   ec (du p) 10 [] _ false 2 p.Co 4 (by decide) (by decide) rfl rfl (by decide) h3 (by simp[aA]),if_neg f3])
 rw[ec (du p) 12 [] [] false 0 p.Cu 8 (by decide) (by decide) rfl rfl (by decide) h1 (by decide),if_pos f1,ec (du p) 11 [] _ false 1 p.CF 4 (by decide) (by decide) rfl rfl (by decide) h2 (by simp[aA]),if_pos f2,
  ec (du p) 10 [] _ false 2 p.Co 4 (by decide) (by decide) rfl rfl (by decide) h3 (by simp[aA]),if_pos f3,yG (du p) 9 [] _ false p.CL rfl h4 (by simp[aA])]
 by_cases g4:0≤p.CL∧p.CL≤4294967295
 rotate_left
 ·exact no (fun h=>g4 h.2) _ (by rw[if_neg g4])
 rw[if_pos g4]
 by_cases f4:bu (s32 p.CL) 4=true
 rotate_left
 ·exact no (fun h=>f4 h.1.2.2.2.2.1) _ (by rw[if_neg f4])
 rw[if_pos f4,ec (du p) 8 [] _ false 4 p.CJ 2 (by decide) (by decide) rfl rfl (by decide) h5 (by simp[aA])]
 by_cases f5:bu p.CJ (2:Nat)=true
 rotate_left
 ·exact no (fun h=>f5 h.1.2.2.2.2.2.1) _ (by rw[if_neg f5])
 rw[if_pos f5,ec (du p) 7 [] _ false 5 p.Cr 4 (by decide) (by decide) rfl rfl (by decide) h6 (by simp[aA])]
 by_cases f6:bu p.Cr (4:Nat)=true
 rotate_left
 ·exact no (fun h=>f6 h.1.2.2.2.2.2.2.1) _ (by rw[if_neg f6])
 rw[if_pos f6,ec (du p) 6 [] _ false 6 p.Cl 8 (by decide) (by decide) rfl rfl (by decide) h7 (by simp[aA])]
 by_cases f7:bu p.Cl (8:Nat)=true
 rotate_left
 ·exact no (fun h=>f7 h.1.2.2.2.2.2.2.2.1) _ (by rw[if_neg f7])
 rw[if_pos f7,ec (du p) 5 [] _ false 7 p.Cy 8 (by decide) (by decide) rfl rfl (by decide) h8 (by simp[aA])]
 by_cases f8:bu p.Cy (8:Nat)=true
 rotate_left
 ·exact no (fun h=>f8 h.1.2.2.2.2.2.2.2.2.1) _ (by rw[if_neg f8])
 rw[if_pos f8,ec (du p) 4 [] _ false 8 p.Ci 8 (by decide) (by decide) rfl rfl (by decide) h9 (by simp[aA])]
 by_cases f9:bu p.Ci (8:Nat)=true
 rotate_left
 ·exact no (fun h=>f9 h.1.2.2.2.2.2.2.2.2.2.1) _ (by rw[if_neg f9])
 rw[if_pos f9,ec (du p) 3 [] _ false 9 p.Cp 2 (by decide) (by decide) rfl rfl (by decide) h10 (by simp[aA])]
 by_cases f10:bu p.Cp (2:Nat)=true
 rotate_left
 ·exact no (fun h=>f10 h.1.2.2.2.2.2.2.2.2.2.2.1) _ (by rw[if_neg f10])
 rw[if_pos f10,ec (du p) 2 [] _ false 10 p.Ch 4 (by decide) (by decide) rfl rfl (by decide) h11 (by simp[aA])]
 by_cases f11:bu p.Ch (4:Nat)=true
 rotate_left
 ·exact no (fun h=>f11 h.1.2.2.2.2.2.2.2.2.2.2.2.1) _ (by rw[if_neg f11])
 rw[if_pos f11,ec (du p) 1 [] _ false 11 p.CK 4 (by decide) (by decide) rfl rfl (by decide) h12 (by simp[aA])]
 by_cases f12:bu p.CK (4:Nat)=true
 rotate_left
 ·exact no (fun h=>f12 h.1.2.2.2.2.2.2.2.2.2.2.2.2.1) _ (by rw[if_neg f12])
 have hok:okWp p:=⟨⟨f1,f2,f3,rfl,f4,f5,f6,f7,f8,f9,f10,f11,f12,trivial⟩,g4⟩
 rw[if_pos f12,rb_end,CS,if_pos hok]
 dsimp only
 unfold jl KS toL
 simp only[mj,C2,Db,DE]
theorem gM {st:I} (h:st.err≠0):bF st=some (⟨false,[]⟩,st):=QV.dead st h
theorem z5 {st:I} (h:st.err≠0):p8 st=some ([],st):=QN.dead st h
theorem vl:CQ kN (fh 32) 0:=(sT 32 (.inl rfl)).cq (fO 32 (.inl rfl))
theorem pI {st:I} (h:st.err≠0):kN st=some (0,st):=vl.dead st h
def jy (each:Nat):Pr Int:=(fh 32).bind (jd each)
theorem qy {each:Nat} {s:List UInt8} {q r:Nat} {n:Int} (hq:q≤s.length) (h:jy each s q= .ok (n,r)):0≤n∧(0<each→n*each≤((s.length - r:Nat):Int))∧q≤r∧r=q+(bB (aN n)).length∧r≤s.length∧s.take r=s.take q++bB (aN n)∧aN n<2 ^ (32:Int).toNat:=by
 obtain⟨m,r',h2,h⟩:=Pr.bind_ok h
 obtain⟨a1,a2,a3,a4,a5⟩:=(fO 32 (.inl rfl)).spell _ _ _ _ hq h2
 unfold jd at h
 split at h
 ·exact nomatch h
 ·rename_i hn
  split at h
  ·exact nomatch h
  ·rename_i he
   injection h with h
   obtain⟨rfl,rfl⟩:=Dv h
   refine⟨by omega,fun hz=> ?_,a1,a3,a2,a4,a5⟩
   have:m≤((s.length - r':Nat):Int) / each:=by
    rcases Int.lt_or_le (((s.length - r':Nat):Int) / each) m with g | g
    ·exact absurd ⟨hz,g⟩ he
    ·exact g
   exact (Int.le_ediv_iff_mul_le (by omega)).1 this
theorem vm {each:Nat} {s t:List UInt8} {q:Nat} {n:Int} (hq:q≤s.length) (hf:aN n<2 ^ (32:Int).toNat) (hn:0≤n) (h:s.drop q=bB (aN n)++t) (hl:0<each→n*each≤t.length):jy each s q= .ok (n,q+(bB (aN n)).length):=by
 have g:=(fO 32 (.inl rfl)).back s t q n hq hf h
 rw[jy,Pr.bind_of g]
 unfold jd
 have hlen:=congrArg List.length h
 rw[C0,CW] at hlen
 rw[if_neg (by omega),if_neg]
 rintro⟨hz,hc⟩
 have:=(Int.le_ediv_iff_mul_le (show (0:Int)<each by omega)).2 (hl hz)
 rw[show s.length - (q+(bB (aN n)).length)=t.length by omega] at hc
 omega
def qz {α:Type} (each:Nat) (p:Pr α):Pr (List α):=(jy each).bind fun n=>ei p n.toNat
theorem z6 {α:Type} {p:Pr α} {enc:α→List UInt8} {ok:α→Prop} (each:Nat) (hp:Sp p enc ok) (he: ∀ x,ok x→each≤(enc x).length):Sp (qz each p) (fun l=>bB (aN (l.length:Int))++bt enc l) (fun l=>aN (l.length:Int)<2 ^ (32:Int).toNat∧ ∀ x,x∈l→ok x):=by
 refine⟨fun s q a r hq h=> ?_,fun s t q a hq ha h=> ?_⟩
 ·obtain⟨n,q1,g1,h⟩:=Pr.bind_ok h
  obtain⟨a1,a2,a3,a4,a5,a6,a7⟩:=qy hq g1
  obtain⟨b1,b2,b3,b4,b5,b6⟩:=(od hp n.toNat).spell _ _ _ _ a5 h
  have hn:(a.length:Int)=n:=by omega
  refine⟨by omega,b2,by rw[CW,hn]; omega,by rw[b4,a6,hn,C2],by rw[hn]; exact a7,b6⟩
 ·rw[C2] at h
  have hl:=congrArg List.length h
  rw[C0,CW,CW] at hl
  have g1:=vm (each:=each) hq ha.1 (by omega) h (fun _=>by
   have:=jx he a ha.2
   rw[CW,Int.natCast_add,← Int.natCast_mul]
   omega)
  have h2:=bZ h
  have g2:=(od hp a.length).back _ _ _ _ (by omega) ⟨rfl,ha.2⟩ h2
  rw[qz,Pr.bind_of g1,Dg,g2,CW]
  simp only[Nat.add_assoc]
theorem xv (each:Nat):Sh (jy each):=(wa 32 (.inl rfl)).bind (fO 32 (.inl rfl)) (zY each)
theorem z7 {α:Type} {p:Pr α} {enc:α→List UInt8} {ok:α→Prop} (each:Nat) (hs:Sh p) (hp:Sp p enc ok):Sh (qz each p):=by
 intro s q j h
 unfold qz Pr.bind
 rw[xv each s q j h]
 cases hx:jy each (s.drop q) j with
 | error e=>rfl
 | ok x =>
  have:=(qy (by rw[C0]; omega) hx).2.2.2.2.1
  rw[C0] at this
  exact yy hs hp x.1.toNat s q x.2 (by omega)
def pHd:Pr Hd:=hY.bind fun k=>eM.bind fun v=> .ret ⟨k,v⟩
def dR (h:Hd):List UInt8:=(bB (aN (h.Cs.length:Int))++h.Cs)++(bB (aN (cg h.Cg))++h.Cg.data)
def okHd (h:Hd):Prop:=aN (h.Cs.length:Int)<2 ^ (32:Int).toNat∧aN (cg h.Cg)<2 ^ (32:Int).toNat∧bh h.Cg=true
theorem Sp_hd:Sp pHd dR okHd:=by
 refine⟨fun s q a r hq h=> ?_,fun s t q a hq ha h=> ?_⟩
 ·obtain⟨k,q1,h1,h⟩:=Pr.bind_ok h
  obtain⟨v,q2,h2,h⟩:=Pr.bind_ok h
  injection h with h
  obtain⟨rfl,rfl⟩:=Dv h
  obtain⟨a1,a2,a3,a4,a5⟩:=jw.spell _ _ _ _ hq h1
  obtain⟨b1,b2,b3,b4,b5⟩:=eu.spell _ _ _ _ a2 h2
  exact⟨by omega,b2,by simp only[dR,CW] at *; omega,by rw[b4,a4]; simp only[dR,C2],a5.1,b5⟩
 ·obtain⟨a1,a2,a3⟩:=ha
  have hl:=congrArg List.length h
  rw[dR,C2] at h
  have g1:=jw.back _ _ _ _ hq ⟨a1,rfl⟩ h
  have h:=bZ h
  have g2:=eu.back _ _ _ _ (by simp only[dR,C0,CW] at *; omega) ⟨a2,a3⟩ h
  rw[pHd,Pr.bind_of g1,Pr.bind_of g2]
  simp only[Pr.ret,dR,CW,Nat.add_assoc]
theorem yH (h:Hd) (ho:okHd h):2≤(dR h).length:=by
 have h1:=iN (aN (h.Cs.length:Int))
 have h2:=iN (aN (cg h.Cg))
 simp only[dR,CW]
 omega
def nt:Pr (List Hd):=qz 2 pHd
theorem vn:Sp nt (fun l=>bB (aN (l.length:Int))++bt dR l) (fun l=>aN (l.length:Int)<2 ^ (32:Int).toNat∧ ∀ h,h∈l→okHd h):=z6 2 Sp_hd yH
theorem Sh_hd:Sh pHd:=zX.bind jw fun k=>rN.bind eu fun v=> .ret _
theorem Sh_hds:Sh nt:=z7 2 Sh_hd Sp_hd
theorem wd (n:Int) (s:List UInt8) (hs:s.length≤1000000) (hn:n≤1000000): ∀ (m fuel k:Nat) (acc:List Hd) (q:Nat),((k+m:Nat):Int)=n→m<fuel→q≤s.length→acc.length=k →
 (∃ (e:Int) (st:I),ei pHd m s q= .error e∧bV n fuel [] acc k ⟨s.drop q,q,0⟩=some (.ret ([],st))∧st.err=e∧st.err≠0) ∨
 (∃ l r,ei pHd m s q= .ok (l,r)∧bV n fuel [] acc k ⟨s.drop q,q,0⟩=some (.go ([],acc++l,k+m,⟨s.drop r,r,0⟩))∧q≤r∧r≤s.length)
 | 0,fuel+1,k,acc,q,h1,h2,h3,h4=> .inr ⟨[],q,rfl,by rw[bV,if_neg (by omega),DE]; rfl,Dy _,h3⟩
 | m+1,fuel+1,k,acc,q,h1,h2,h3,h4=>by
  rw[bV,if_pos (by omega)]
  rcases QN.run s q h3 with⟨e,st,p1,g1,x1,y1⟩ | ⟨nm,q1,p1,g1,n1,l1⟩
  ·left
   refine⟨e,st,by rw[ei,Pr.bind_err (show pHd s q= .error e from Pr.bind_err p1)],?_,x1,y1⟩
   rw[g1,CS]
   simp only
   rw[gM y1,CS]
   simp only
   rw[if_pos (by omega),bw,CS]
   simp only
   rw[if_neg y1]
  rw[g1,CS]
  simp only
  rcases QV.run s q1 l1 with⟨e,st,p2,g2,x2,y2⟩ | ⟨v,q2,p2,g2,n2,l2⟩
  ·left
   have ht:pHd s q= .error e:=by rw[pHd,Pr.bind_of p1,Pr.bind_err p2]
   refine⟨e,st,by rw[ei,Pr.bind_err ht],?_,x2,y2⟩
   rw[g2,CS]
   simp only
   rw[if_pos (by omega),bw,CS]
   simp only
   rw[if_neg y2]
  rw[g2,CS]
  simp only
  rw[if_pos (by omega),bw,CS]
  simp only[if_true]
  rw[if_pos (by omega)]
  have ht:pHd s q= .ok (⟨nm,v⟩,q2):=by rw[pHd,Pr.bind_of p1,Pr.bind_of p2]; rfl
  rw[ei,Pr.bind_of ht]
  rcases wd n s hs hn m fuel (k+1) (acc ++ [(⟨nm,v⟩:Hd)]) q2 (by omega) (by omega) l2 (by rw[CW,h4]; rfl) with⟨e,st,r1,r2,r3,r4⟩ | ⟨l,r,r1,r2,r3,r4⟩
  ·exact .inl ⟨e,st,by rw[Pr.bind_err r1],r2,r3,r4⟩
  ·refine .inr ⟨⟨nm,v⟩::l,r,by rw[Pr.bind_of r1]; rfl,?_,by omega,r4⟩
   rw[r2,C2,show k+1+m=k+(m+1) by omega]
   rfl
theorem B_hds:CB aY nt []:=by
 refine⟨fun st h=> ?_,fun s q hs hq=> ?_⟩
 ·unfold aY
  rw[pI h,CS]
  simp only
  rw[bw,CS]
  simp only
  rw[if_neg h]
 ·unfold aY
  rcases vl.run s q hq with⟨e,st,p1,g1,x1,y1⟩ | ⟨c,q1,p1,g1,n1,l1⟩
  ·refine .inl ⟨e,st,Pr.bind_err (Pr.bind_err p1),?_,x1,y1⟩
   rw[g1,CS]
   simp only
   rw[bw,CS]
   simp only
   rw[if_neg y1]
  ·rw[g1,CS]
   simp only
   rw[bw,CS]
   simp only[if_true]
   have hd:(s.drop q1).length=s.length - q1:=C0
   have hE:nt s q=((jd 2 c).bind fun n=>ei pHd n.toNat) s q1:=by
    unfold nt qz jy Pr.bind
    rw[p1]
   rw[hE]
   unfold Pr.bind jd
   by_cases hn:c<0
   ·rw[if_pos hn,if_pos hn]
    exact .inl ⟨4,_,rfl,rfl,rfl,by simp[cE]⟩
   rw[if_neg hn,if_neg hn,m5,CS]
   simp only
   rw[hd,if_pos (show 0≤((s.length - q1:Nat):Int)∧((s.length - q1:Nat):Int)≤9223372036854775807 by omega)]
   by_cases hc:0<2∧((s.length - q1:Nat):Int) / ((2:Nat):Int)<c
   ·have hc2:c>((s.length - q1:Nat):Int) / 2:=hc.2
    rw[if_pos hc,if_pos hc2]
    exact .inl ⟨1,_,rfl,rfl,rfl,by simp[cE]⟩
   ·have hc2: ¬ c>((s.length - q1:Nat):Int) / 2:=fun h=>hc ⟨by decide,h⟩
    rw[if_neg hc,if_neg hc2]
    simp only
    rcases wd c s hs (by omega) c.toNat (c.toNat+1) 0 [] q1 (by omega) (by omega) l1 rfl with⟨e,st,r1,r2,r3,r4⟩ | ⟨l,r,r1,r2,r3,r4⟩
    ·exact .inl ⟨e,st,r1,by rw[r2]; rfl,r3,r4⟩
    ·refine .inr ⟨l,r,r1,?_,by omega,r4⟩
     rw[r2,Db]
     rfl
theorem vo (s:List UInt8) (q:Nat) (bs:Int) (hb:bs=32∨bs=64) (hq:q≤s.length) (hs:s.length≤1000000) :
 (∃ e,fL bs s q= .error e∧e≠0∧oQ (s.drop q) bs=some (0,0,e))∨(∃ (n r:Nat),fL bs s q= .ok (n,r)∧q≤r∧r≤s.length∧n<2 ^ bs.toNat∧oQ (s.drop q) bs=some ((n:Int),((r - q:Nat):Int),0)):=by
 rw[xZ _ _ ⟨hb,by rw[C0]; omega⟩]
 unfold fQ
 by_cases he:(vgo bs (s.drop q) 0 0 0).2.err=0
 ·have hp:fL bs s q= .ok ((vgo bs (s.drop q) 0 0 0).1,q+(vgo bs (s.drop q) 0 0 0).2.pos):=by unfold fL; rw[if_pos he]
  have hs:=(pG bs hb).spell _ _ _ _ hq hp
  rw[if_pos he]
  exact .inr ⟨_,_,hp,hs.1,hs.2.1,hs.2.2.2.2,by simp only; rw[show q+(vgo bs (s.drop q) 0 0 0).2.pos - q=(vgo bs (s.drop q) 0 0 0).2.pos by omega]⟩
 ·have hp:fL bs s q= .error (vgo bs (s.drop q) 0 0 0).2.err:=by unfold fL; rw[if_neg he]
  rw[if_neg he]
  exact .inl ⟨_,hp,he,rfl⟩
theorem rP (n:Int) (s:List UInt8) (hs:s.length≤1000000): ∀ (m fuel k:Nat) (acc:List Hd) (q:Nat),((k+m:Nat):Int)=n→m<fuel→n≤1000000→q≤s.length→acc.length=k →
 dB s n fuel [] 0 0 (q:Int) acc k=some (match ei pHd m s q with | .error e=> .ret ([],0,e) | .ok (l,r)=> .go ([],0,0,(r:Int),acc++l,k+m))
 | 0,fuel+1,k,acc,q,h1,h2,hn,h3,h4=>by
  rw[dB,if_neg (by omega)]
  simp[ei,Pr.ret]
 | m+1,fuel+1,k,acc,q,h1,h2,hn,h3,h4=>by
  rw[dB,if_pos (by omega),if_pos (by omega),Dg,gi _ (by rw[C0]; omega),CS]
  rcases j9 s q h3 with⟨e,g1,g2,g3⟩ | ⟨b,q1,g1,g2,g3,g4⟩
  ·have ht:pHd s q= .error e:=by rw[pHd,Pr.bind_err]; rw[hY,eZ,Pr.bind_err g1]
   rw[g3,ei,Pr.bind_err ht]
   simp only
   rw[if_neg g2]
  rw[g4]
  simp only[if_true]
  by_cases hb:b.null=true
  ·have ht:pHd s q= .error 4:=by
    rw[pHd,Pr.bind_err]
    rw[hY,eZ,Pr.bind_of g1,if_pos hb]
    rfl
   rw[if_pos hb,ei,Pr.bind_err ht]
  have hx:hY s q= .ok (b.data,q1):=by
   rw[hY,eZ,Pr.bind_of g1,if_neg hb]
   rfl
  rw[if_neg hb,if_pos (by omega),if_pos (by omega),show ((q:Int)+((q1 - q:Nat):Int))=(q1:Int) by omega,Dg,gi _ (by rw[C0]; omega),CS]
  rcases j9 s q1 g3 with⟨e,k1,k2,k3⟩ | ⟨v,q2,k1,k2,k3,k4⟩
  ·have ht:pHd s q= .error e:=by rw[pHd,Pr.bind_of hx,Pr.bind_err k1]
   rw[k3,ei,Pr.bind_err ht]
   simp only
   rw[if_neg k2]
  rw[k4]
  simp only[if_true]
  have ht:pHd s q= .ok (⟨b.data,v⟩,q2):=by rw[pHd,Pr.bind_of hx,Pr.bind_of k1]; rfl
  rw[if_pos (by omega),if_pos (by omega),if_pos (by omega),if_pos (by omega),show ((q1:Int)+((q2 - q1:Nat):Int))=(q2:Int) by omega,ei,Pr.bind_of ht,rP n s hs m fuel (k+1) (acc ++ [(⟨b.data,v⟩:Hd)]) q2 (by omega) (by omega) hn k3 (by rw[CW,h4]; rfl)]
  cases hr:ei pHd m s q2 with
  | error e=>rw[Pr.bind_err hr]
  | ok x =>
   rw[Pr.bind_of (a:=x.1) (r:=x.2) hr]
   simp only[Pr.ret,C2,List.cons_append,Db,show k+1+m=k+(m+1) by omega]
theorem yI (s:List UInt8) (hs:s.length≤1000000):iZ s=some (match nt s 0 with | .error e=>([],0,e) | .ok (l,r)=>(l,(r:Int),0)):=by
 unfold iZ
 have hg:=vo s 0 32 (.inl rfl) (Du _) hs
 rw[List.drop_zero] at hg
 rcases hg with⟨e,p1,e1,g1⟩ | ⟨n,r,p1,r0,r1,r2,g1⟩
 ·rw[g1,show nt s 0= .error e from Pr.bind_err (Pr.bind_err (Pr.bind_err p1)),CS]
  simp only
  rw[if_neg e1]
 ·have hv:fh 32 s 0= .ok (cY n,r):=by rw[fh,Pr.bind_of p1]; rfl
  have hE:nt s 0=((jd 2 (cY n)).bind fun n=>ei pHd n.toNat) s r:=by
   unfold nt qz jy Pr.bind
   rw[hv]
  rw[show 2 ^ (32:Int).toNat=4294967296 by decide] at r2
  rw[g1,CS]
  simp only[if_true]
  rw[nM _ (by omega),CS,Dg,hE]
  generalize cY n=c
  unfold Pr.bind jd
  by_cases hn:c<0
  ·rw[if_pos hn,if_pos hn]
  rw[if_neg hn,if_neg hn,if_pos (show -9223372036854775808≤(s.length:Int) - ((r - 0:Nat):Int)∧(s.length:Int) - ((r - 0:Nat):Int)≤9223372036854775807 by omega),if_pos (show 0≤(s.length:Int) - ((r - 0:Nat):Int)∧(s.length:Int) - ((r - 0:Nat):Int)≤9223372036854775807 by omega),show (s.length:Int) - ((r - 0:Nat):Int)=((s.length - r:Nat):Int) by omega]
  by_cases hc:0<2∧((s.length - r:Nat):Int) / ((2:Nat):Int)<c
  ·have hc2:c>((s.length - r:Nat):Int) / 2:=hc.2
   rw[if_pos hc,if_pos hc2]
  ·have hc2: ¬ c>((s.length - r:Nat):Int) / 2:=fun h=>hc ⟨by decide,h⟩
   rw[if_neg hc,if_neg hc2]
   simp only
   have hl:=rP c s hs c.toNat (c.toNat+1) 0 [] r (by omega) (by omega) (by omega) r1 rfl
   rw[show ((r - 0:Nat):Int)=(r:Int) by omega,hl]
   cases hr:ei pHd c.toNat s r with
   | error e=>rfl
   | ok x=>rfl
def hwt (h:Hd):Nat:=20+h.Cs.length+h.Cg.data.length
def jK:List Hd→Nat
 | []=>0
 | h::l=>hwt h+jK l
theorem gr (n:Int) (h: -1≤n) (h2:n≤2147483647):(bB (aN n)).length≤10:=e9 _ (en n (by omega) (by omega))
theorem qA (b:Bl) (h:b.data.length≤2147483647): -1≤cg b∧cg b≤2147483647:=by unfold cg; split <;> omega
theorem rQ (h:Hd) (hk:h.Cs.length≤1000000) (hv:h.Cg.data.length≤1000000):(dR h).length≤hwt h:=by
 have h1:=gr (h.Cs.length:Int) (by omega) (by omega)
 have hb:=qA h.Cg (by omega)
 have h2:=gr (cg h.Cg) hb.1 hb.2
 simp only[dR,CW,hwt]
 omega
theorem qB: ∀ l:List Hd,jK l≤1000000→(bt dR l).length≤jK l
 | [],h=>Dy _
 | x::l,h=>by
  have h1:hwt x≤jK (x::l):=by rw[jK]; omega
  have h2:=qB l (by rw[jK] at h; omega)
  have h3:=rQ x (by unfold hwt at h1; omega) (by unfold hwt at h1; omega)
  rw[bt,CW,jK]
  omega
theorem nw: ∀ l:List Hd,l.length*20≤jK l
 | []=>by simp[jK]
 | h::l=>by have:=nw l; simp only[jK,hwt,C5]; omega
theorem pJ (n:Int) (h: -9223372036854775808≤n∧n≤9223372036854775807):fX n=some (bB (aN n)):=by
 have:=en n h.1 h.2
 unfold fX
 rw[xb _ h,CS,xY _ (by omega),CS,Dg]
theorem rR (a0:List Hd) (hb:jK a0≤1000000): ∀ (l:List Hd) (t:List UInt8) (k fuel:Nat),a0.drop k=l→l.length<fuel→t.length+jK l≤2000000→jK l≤1000000→ ∃ z,dj a0 fuel t k=some (t++bt dR l,z)
 | [],t,k,fuel+1,h,hf,hl,hl2=>by
  have:a0.length≤k:=List.drop_eq_nil_iff.1 h
  exact⟨k,by rw[dj,if_neg (by omega),bt,DE]⟩
 | x::l,t,k,fuel+1,h,hf,hl,hl2=>by
  have hlen:=congrArg List.length h
  rw[C0,C5] at hlen
  have g1:a0[k]? = some x:=by have:=congrArg (fun z=>z[0]?) h; simpa using this
  have g2:a0.drop (k+1)=l:=by rw[← Dq,h]; rfl
  have hn:=nw a0
  rw[C5] at hf
  have hx:t.length+(hwt x+jK l)≤2000000:=hl
  have hx2:hwt x+jK l≤1000000:=hl2
  have h1:=rQ x (by unfold hwt at hx2; omega) (by unfold hwt at hx2; omega)
  have e:t++(bB (aN (cg ⟨false,x.Cs⟩))++x.Cs)++(bB (aN (cg x.Cg))++x.Cg.data)=t++dR x:=by
   simp only[dR,C2]
   rfl
  have e1:(bB (aN (cg ⟨false,x.Cs⟩))++x.Cs).length≤(dR x).length∧(bB (aN (cg x.Cg))++x.Cg.data).length≤(dR x).length:=by
   simp only[dR,CW]
   have:cg ⟨false,x.Cs⟩=(x.Cs.length:Int):=rfl
   rw[this]
   omega
  obtain⟨z,hz⟩:=rR a0 hb l (t++dR x) (k+1) fuel g2 (by omega) (by rw[CW]; omega) (by omega)
  rw[dj,if_pos (by omega),g1,CS,iE _ (by unfold hwt at hx2; simp only; omega),CS,if_pos (by simp only; omega),iE _ (by unfold hwt at hx2; omega),CS,if_pos (by rw[CW]; simp only; omega),if_pos (by omega)]
  refine⟨z,?_⟩
  simp only
  rw[e,hz,bt,C2]
theorem xw (l:List Hd) (hb:jK l≤1000000):g7 l=some (bB (aN (l.length:Int))++bt dR l):=by
 have hn:=nw l
 have h1:=gr (l.length:Int) (by omega) (by omega)
 unfold g7
 rw[pJ _ (by omega),CS]
 obtain⟨z,hz⟩:=rR l hb l (bB (aN (l.length:Int))) 0 (((l.length:Int)).toNat+1) rfl (by omega) (by omega) hb
 rw[hz]
 rfl
theorem we:CQ iQ (fh 64) 0:=(sT 64 (.inr rfl)).cq (fO 64 (.inr rfl))
theorem tV {st:I} (h:st.err≠0):iQ st=some (0,st):=we.dead st h
theorem fj {st:I} (h:st.err≠0):dM st=some (st.err,st):=by rw[gI,pU h]
def lM:Pr Unit:=fun s q=>if q=s.length then .ok ((),q) else .error 2
def qC:Rec:=⟨0,0,⟨false,[]⟩,⟨false,[]⟩,[]⟩
def mw:Pr Rec:=(dQ 1).bind fun z=>if z=0 then (fh 64).bind fun t=>(fh 32).bind fun o=>if o<0 then .err 11 else eM.bind fun k=>eM.bind fun v=>nt.bind fun h=>lM.bind fun _=> .ret ⟨t,o,k,v,h⟩ else .err 8
def qD (st9:I):Option (Rec×Int):=(fG st9 1).bind fun (x12,st13)=>if x12=0 then ((iQ st13).bind fun (x16,st17)=>(kN st17).bind fun (x19,st20)=>if x19<0 then ((bE st20 11).bind fun st24=>(bF st24).bind fun (x26,st27)=>(bF st27).bind fun (x29,st30)=>(aY st30).bind fun (x32,st35)=>(dM st35).bind fun (x37,st38)=>some ((⟨x16,x19,x26,x29,x32⟩:Rec),x37)) else ((bF st20).bind fun (x43,st44)=>(bF st44).bind fun (x46,st47)=>(aY st47).bind fun (x49,st52)=>(dM st52).bind fun (x54,st55)=>some ((⟨x16,x19,x43,x46,x49⟩:Rec),x54))) else ((bE st13 8).bind fun st60=>(iQ st60).bind fun (x62,st63)=>(kN st63).bind fun (x65,st66)=>if x65<0 then ((bE st66 11).bind fun st70=>(bF st70).bind fun (x72,st73)=>(bF st73).bind fun (x75,st76)=>(aY st76).bind fun (x78,st81)=>(dM st81).bind fun (x83,st84)=>some ((⟨x62,x65,x72,x75,x78⟩:Rec),x83)) else ((bF st66).bind fun (x89,st90)=>(bF st90).bind fun (x92,st93)=>(aY st93).bind fun (x95,st98)=>(dM st98).bind fun (x100,st101)=>some ((⟨x62,x65,x89,x92,x95⟩:Rec),x100)))
theorem tW (s:List UInt8) (hs:s.length≤1000000):(∃ e x,mw s 0= .error e∧qD ⟨s,0,0⟩=some (x,e)∧e≠0)∨(∃ x,mw s 0= .ok (x,s.length)∧qD ⟨s,0,0⟩=some (x,0)):=by
 unfold qD mw
 have r0:=Q1.run s 0 (Du _)
 rw[List.drop_zero] at r0
 have hB:=B_hds
 rcases r0 with⟨e,st,p0,g0,x0,y0⟩ | ⟨z,q0,p0,g0,n0,l0⟩
 ·refine .inl ⟨e,⟨0,0,⟨false,[]⟩,⟨false,[]⟩,[]⟩,Pr.bind_err p0,?_,by rw[← x0]; exact y0⟩
  rw[g0]
  simp only[CS,if_true,tV y0,pI y0,gM y0,hB.dead _ y0,fj y0,x0,show ¬ (0:Int)<0 by decide,if_false]
 rw[g0,CS]
 simp only
 by_cases hz:z=0
 ·rw[if_pos hz,Pr.bind_of p0,if_pos hz]
  rcases we.run s q0 l0 with⟨e,st,p1,g1,x1,y1⟩ | ⟨a,q1,p1,g1,n1,l1⟩
  ·refine .inl ⟨e,⟨0,0,⟨false,[]⟩,⟨false,[]⟩,[]⟩,Pr.bind_err p1,?_,by rw[← x1]; exact y1⟩
   rw[g1]
   simp only[CS,if_true,pI y1,gM y1,hB.dead _ y1,fj y1,x1,show ¬ (0:Int)<0 by decide,if_false]
  rw[g1,CS,Pr.bind_of p1]
  simp only
  rcases vl.run s q1 l1 with⟨e,st,p2,g2,x2,y2⟩ | ⟨o,q2,p2,g2,n2,l2⟩
  ·refine .inl ⟨e,⟨a,0,⟨false,[]⟩,⟨false,[]⟩,[]⟩,Pr.bind_err p2,?_,by rw[← x2]; exact y2⟩
   rw[g2]
   simp only[CS,if_true,gM y2,hB.dead _ y2,fj y2,x2,show ¬ (0:Int)<0 by decide,if_false]
  rw[g2,CS,Pr.bind_of p2]
  simp only
  by_cases ho:o<0
  ·rw[if_pos ho,if_pos ho,dV,CS,pH]
   have y:(⟨s.drop q2,q2,11⟩:I).err≠0:=by simp
   refine .inl ⟨11,⟨a,o,⟨false,[]⟩,⟨false,[]⟩,[]⟩,rfl,?_,by decide⟩
   simp only[CS,gM y,hB.dead _ y,fj y]
  rw[if_neg ho,if_neg ho]
  rcases QV.run s q2 l2 with⟨e,st,p3,g3,x3,y3⟩ | ⟨k,q3,p3,g3,n3,l3⟩
  ·refine .inl ⟨e,⟨a,o,⟨false,[]⟩,⟨false,[]⟩,[]⟩,Pr.bind_err p3,?_,by rw[← x3]; exact y3⟩
   rw[g3]
   simp only[CS,gM y3,hB.dead _ y3,fj y3,x3]
  rw[g3,CS,Pr.bind_of p3]
  simp only
  rcases QV.run s q3 l3 with⟨e,st,p4,g4,x4,y4⟩ | ⟨v,q4,p4,g4,n4,l4⟩
  ·refine .inl ⟨e,⟨a,o,k,⟨false,[]⟩,[]⟩,Pr.bind_err p4,?_,by rw[← x4]; exact y4⟩
   rw[g4]
   simp only[CS,hB.dead _ y4,fj y4,x4]
  rw[g4,CS,Pr.bind_of p4]
  simp only
  rcases hB.run s q4 hs l4 with⟨e,st,p5,g5,x5,y5⟩ | ⟨h,q5,p5,g5,n5,l5⟩
  ·refine .inl ⟨e,⟨a,o,k,v,[]⟩,Pr.bind_err p5,?_,by rw[← x5]; exact y5⟩
   rw[g5]
   simp only[CS,fj y5,x5]
  rw[g5,CS,Pr.bind_of p5]
  simp only
  rw[gI,CS]
  simp only
  by_cases hq:q5=s.length
  ·have he:lM s q5= .ok ((),q5):=by unfold lM; rw[if_pos hq]
   have hi:(eB ⟨s.drop q5,q5,0⟩).err=0:=by rw[hq,List.drop_length]; rfl
   rw[Pr.bind_of he,hi]
   exact .inr ⟨⟨a,o,k,v,h⟩,by rw[hq]; rfl,rfl⟩
  ·have he:lM s q5= .error 2:=by unfold lM; rw[if_neg hq]
   have hi:(eB ⟨s.drop q5,q5,0⟩).err=2:=by
    unfold eB
    rw[if_neg]
    ·rfl
    ·intro h0
     have:=List.drop_eq_nil_iff.1 h0
     omega
   rw[Pr.bind_err he,hi]
   exact .inl ⟨2,_,rfl,rfl,by decide⟩
 ·rw[if_neg hz,Pr.bind_of p0,if_neg hz,dV,CS,pH]
  have y:(⟨s.drop q0,q0,8⟩:I).err≠0:=by simp
  refine .inl ⟨8,⟨0,0,⟨false,[]⟩,⟨false,[]⟩,[]⟩,rfl,?_,by decide⟩
  simp only[CS,if_true,tV y,pI y,gM y,hB.dead _ y,fj y,show ¬ (0:Int)<0 by decide,if_false]
def sW:Pr Rec:=fun s q=>match hY s q with
 | .error e=> .error e
 | .ok (d,r)=>match mw d 0 with
  | .error e=> .error e
  | .ok (x,_)=> .ok (x,r)
theorem rS (st9 st6:I) (x:Rec) (e:Int) (h:qD st9=some (x,e)):((fG st9 1).bind fun (x12,st13)=>if x12=0 then ((iQ st13).bind fun (x16,st17)=>(kN st17).bind fun (x19,st20)=>if x19<0 then ((bE st20 11).bind fun st24=>(bF st24).bind fun (x26,st27)=>(bF st27).bind fun (x29,st30)=>(aY st30).bind fun (x32,st35)=>(dM st35).bind fun (x37,st38)=>if x37=0 then (some ((⟨x16,x19,x26,x29,x32⟩:Rec),st6)) else ((bE st6 x37).bind fun st41=>some (qC,st41))) else ((bF st20).bind fun (x43,st44)=>(bF st44).bind fun (x46,st47)=>(aY st47).bind fun (x49,st52)=>(dM st52).bind fun (x54,st55)=>if x54=0 then (some ((⟨x16,x19,x43,x46,x49⟩:Rec),st6)) else ((bE st6 x54).bind fun st58=>some (qC,st58)))) else ((bE st13 8).bind fun st60=>(iQ st60).bind fun (x62,st63)=>(kN st63).bind fun (x65,st66)=>if x65<0 then ((bE st66 11).bind fun st70=>(bF st70).bind fun (x72,st73)=>(bF st73).bind fun (x75,st76)=>(aY st76).bind fun (x78,st81)=>(dM st81).bind fun (x83,st84)=>if x83=0 then (some ((⟨x62,x65,x72,x75,x78⟩:Rec),st6)) else ((bE st6 x83).bind fun st87=>some (qC,st87))) else ((bF st66).bind fun (x89,st90)=>(bF st90).bind fun (x92,st93)=>(aY st93).bind fun (x95,st98)=>(dM st98).bind fun (x100,st101)=>if x100=0 then (some ((⟨x62,x65,x89,x92,x95⟩:Rec),st6)) else ((bE st6 x100).bind fun st104=>some (qC,st104)))))=if e=0 then some (x,st6) else some (qC,cE st6 e):=by
 unfold qD at h
 revert h
 have hop: ∀ (o:Option (List Hd×I)) (f:List Hd→Rec),((o.bind fun (a,s1)=>(dM s1).bind fun (b,s2)=>some (f a,b))=some (x,e))→(o.bind fun (a,s1)=>(dM s1).bind fun (b,s2)=>if b=0 then some (f a,st6) else (bE st6 b).bind fun s3=>some (qC,s3))=if e=0 then some (x,st6) else some (qC,cE st6 e):=by
  intro o f h
  cases o with
  | none=>exact nomatch h
  | some y =>
   rw[CS] at h ⊢
   simp only[gI,CS] at h ⊢
   injection h with h
   obtain⟨rfl,rfl⟩:=Dv h
   by_cases hz:(eB y.2).err=0
   ·rw[if_pos hz,if_pos hz]
   ·rw[if_neg hz,if_neg hz]
    rfl
 simp only[gf,xa,xX,uW,dV,CS]
 intro h
 split at h
 ·rename_i h1
  rw[if_pos h1]
  split at h
  ·rename_i h2
   rw[if_pos h2]
   exact hop _ (fun a=>⟨_,_,_,_,a⟩) h
  ·rename_i h2
   rw[if_neg h2]
   exact hop _ (fun a=>⟨_,_,_,_,a⟩) h
 ·rename_i h1
  rw[if_neg h1]
  split at h
  ·rename_i h2
   rw[if_pos h2]
   exact hop _ (fun a=>⟨_,_,_,_,a⟩) h
  ·rename_i h2
   rw[if_neg h2]
   exact hop _ (fun a=>⟨_,_,_,_,a⟩) h
theorem B_rec:CB eT sW qC:=by
 refine⟨fun st h=> ?_,fun s q hs hq=> ?_⟩
 ·unfold eT
  rw[z5 h,CS]
  simp only
  rw[bw,CS]
  simp only
  rw[if_neg h]
  rfl
 ·unfold eT sW
  rcases QN.run s q hq with⟨e,st,p1,g1,x1,y1⟩ | ⟨d,r,p1,g1,n1,l1⟩
  ·refine .inl ⟨e,st,by rw[p1],?_,x1,y1⟩
   rw[g1,CS]
   simp only
   rw[bw,CS]
   simp only
   rw[if_neg y1]
   rfl
  ·have hsp:=jw.spell _ _ _ _ hq p1
   have hdl:d.length≤1000000:=by
    have:=hsp.2.2.1
    rw[CW] at this
    omega
   rw[g1,p1,CS]
   simp only
   rw[bw,CS]
   simp only[if_true]
   rw[iC _ (by omega),CS]
   rcases tW d hdl with⟨e,x,b1,b2,b3⟩ | ⟨x,b1,b2⟩
   ·have hb:=rS ⟨d,0,0⟩ ⟨s.drop r,r,0⟩ x e b2
    rw[if_neg b3] at hb
    rw[b1]
    exact .inl ⟨e,_,rfl,hb,rfl,b3⟩
   ·have hb:=rS ⟨d,0,0⟩ ⟨s.drop r,r,0⟩ x 0 b2
    rw[if_pos rfl] at hb
    rw[b1]
    exact .inr ⟨x,r,rfl,hb,n1,l1⟩
def gF (b:Bl):List UInt8:=bB (aN (cg b))++b.data
def kP (l:List Hd):List UInt8:=bB (aN (l.length:Int))++bt dR l
def bO (x:Rec):List UInt8:=be 0 1++(bB (aN x.CC)++(bB (aN x.Cv)++(gF x.Cs++(gF x.Cg++kP x.Cn))))
def okBl (b:Bl):Prop:=aN (cg b)<2 ^ (32:Int).toNat∧bh b=true
def okHs (l:List Hd):Prop:=aN (l.length:Int)<2 ^ (32:Int).toNat∧ ∀ h,h∈l→okHd h
def rT (x:Rec):Prop:=aN x.CC<2 ^ (64:Int).toNat∧(aN x.Cv<2 ^ (32:Int).toNat∧0≤x.Cv)∧okBl x.Cs∧okBl x.Cg∧okHs x.Cn
theorem vp {s:List UInt8} {x:Rec} {r:Nat} (h:mw s 0= .ok (x,r)):s=bO x∧rT x:=by
 obtain⟨z,q0,h0,h⟩:=Pr.bind_ok h
 split at h
 ·rename_i hz
  subst hz
  obtain⟨t,q1,h1,h⟩:=Pr.bind_ok h
  obtain⟨o,q2,h2,h⟩:=Pr.bind_ok h
  split at h
  ·exact nomatch h
  ·rename_i ho
   obtain⟨k,q3,h3,h⟩:=Pr.bind_ok h
   obtain⟨v,q4,h4,h⟩:=Pr.bind_ok h
   obtain⟨hs,q5,h5,h⟩:=Pr.bind_ok h
   obtain⟨u,q6,h6,h⟩:=Pr.bind_ok h
   injection h with h
   obtain⟨rfl,rfl⟩:=Dv h
   obtain⟨-,a2,-,a4,a5⟩:=(fg 1 (by decide) (by decide)).spell _ _ _ _ (Du _) h0
   obtain⟨-,b2,-,b4,b5⟩:=(fO 64 (.inr rfl)).spell _ _ _ _ a2 h1
   obtain⟨-,c2,-,c4,c5⟩:=(fO 32 (.inl rfl)).spell _ _ _ _ b2 h2
   obtain⟨-,d2,-,d4,d5⟩:=eu.spell _ _ _ _ c2 h3
   obtain⟨-,e2,-,e4,e5⟩:=eu.spell _ _ _ _ d2 h4
   obtain⟨-,f2,-,f4,f5⟩:=vn.spell _ _ _ _ e2 h5
   have hq:q5=s.length:=by
    unfold lM at h6
    split at h6
    ·rename_i hh; exact hh
    ·exact nomatch h6
   refine⟨?_,b5,⟨c5,by simp only; omega⟩,d5,e5,f5⟩
   have hs2:s=s.take q5:=by rw[hq,List.take_length]
   rw[hs2,f4,e4,d4,c4,b4,a4]
   simp only[bO,gF,kP,C2,List.take_zero,Db]
 ·exact nomatch h
theorem SpV:Sp eM gF okBl:=eu
theorem SpH:Sp nt kP okHs:=vn
theorem xx {x:Rec} (h:rT x):mw (bO x) 0= .ok (x,(bO x).length):=by
 obtain⟨h1,⟨h2,h3⟩,h4,h5,h6⟩:=h
 have hd:(bO x).drop 0=bO x:=rfl
 have hlen:(bO x).length=1+((bB (aN x.CC)).length+((bB (aN x.Cv)).length+((gF x.Cs).length+((gF x.Cg).length+(kP x.Cn).length)))):=by
  simp only[bO,CW,aA]
 generalize hE:bO x=E at hd hlen ⊢
 have hh:E.drop 0=be 0 1++(bB (aN x.CC)++(bB (aN x.Cv)++(gF x.Cs++(gF x.Cg++(kP x.Cn ++ []))))):=by
  rw[hd,← hE]
  simp only[bO,DE]
 have g0:=(fg 1 (by decide) (by decide)).back _ _ _ 0 (Du _) (by decide) hh
 have hh:=bZ hh
 rw[aA] at hh g0
 have g1:=(fO 64 (.inr rfl)).back _ _ _ _ (by omega) h1 hh
 have hh:=bZ hh
 have g2:=(fO 32 (.inl rfl)).back _ _ _ _ (by omega) h2 hh
 have hh:=bZ hh
 have g3:=SpV.back _ _ _ _ (by omega) h4 hh
 have hh:=bZ hh
 have g4:=SpV.back _ _ _ _ (by omega) h5 hh
 have hh:=bZ hh
 have g5:=SpH.back _ _ _ _ (by omega) h6 hh
 rw[mw,Pr.bind_of g0,if_pos rfl,Pr.bind_of g1,Pr.bind_of g2,if_neg (by omega),Pr.bind_of g3,Pr.bind_of g4,Pr.bind_of g5]
 have he:0+1+(bB (aN x.CC)).length+(bB (aN x.Cv)).length+(gF x.Cs).length+(gF x.Cg).length+(kP x.Cn).length=E.length:=by omega
 rw[he,Pr.bind_of (a:=()) (r:=E.length) (by unfold lM; rw[if_pos rfl])]
 rfl
def cK (x:Rec):List UInt8:=bB (aN ((bO x).length:Int))++bO x
theorem sX:Sp sW cK (fun x=>rT x∧aN ((bO x).length:Int)<2 ^ (32:Int).toNat):=by
 refine⟨fun s q a r hq h=> ?_,fun s t q a hq ha h=> ?_⟩
 ·unfold sW at h
  cases hp:hY s q with
  | error e=>rw[hp] at h; exact nomatch h
  | ok y =>
   obtain⟨d,r'⟩:=y
   rw[hp] at h
   simp only at h
   obtain⟨a1,a2,a3,a4,a5⟩:=jw.spell _ _ _ _ hq hp
   cases hb:mw d 0 with
   | error e=>rw[hb] at h; exact nomatch h
   | ok z =>
    rw[hb] at h
    injection h with h
    obtain⟨rfl,rfl⟩:=Dv h
    obtain⟨b1,b2⟩:=vp (x:=z.1) (r:=z.2) hb
    unfold cK
    rw[← b1]
    exact⟨a1,a2,a3,a4,b2,a5.1⟩
 ·have g1:=jw.back s t q (bO a) hq ⟨ha.2,rfl⟩ h
  unfold sW
  rw[g1]
  simp only
  rw[xx ha.1]
  rfl
def gotOf (p:Except Int (Rec×Nat)) (m:Int):jB:=match p with | .error e=>⟨qC,m,e⟩ | .ok (x,_)=>⟨x,m,0⟩
theorem tX (e:Int):cj e=some ⟨qC,0,e⟩:=rfl
theorem oe (s:List UInt8) (q r:Nat) (h:q≤r):(s.drop q).drop ((r - q:Nat):Int).toNat=s.drop r:=by
 rw[Dg,Dq]
 congr 1
 omega
theorem z8 {s:List UInt8} {q:Nat} {e:Int} (hs:s.length≤1000000) (hq:q≤s.length) (h:nt s q= .error e):e≠0:=B_hds.nz s q e hs hq h
theorem yJ (s:List UInt8) (hs:s.length≤1000000):g9 s=some (gotOf (mw s 0) 0):=by
 unfold g9 mw
 simp only[tX]
 by_cases h1:(s.length:Int)<1
 ·rw[if_pos h1,Pr.bind_err (e:=1) (by unfold dQ; rw[if_pos (by omega)])]
  rfl
 rw[if_neg h1]
 obtain⟨c,t,rfl⟩: ∃ c t,s=c::t:=by cases s with | nil=>exact absurd (by simp) h1 | cons c t=>exact⟨c,t,rfl⟩
 have hc:=c.toNat_lt
 have p0:dQ 1 (c::t) 0= .ok (sgn c,1):=by
  unfold dQ
  rw[if_neg (by simp only[C5]; omega)]
  rfl
 rw[show (c::t)[0]? = some c from rfl,CS,Pr.bind_of p0]
 by_cases hz:(c.toNat:Int)=0
 ·have hz2:sgn c=0:=by unfold sgn; split <;> omega
  rw[if_pos hz,if_pos hz2,if_pos (by simp only[C5]; omega)]
  generalize hS:c::t=S at hs h1 ⊢
  have hl:1≤S.length:=by omega
  rcases vo S 1 64 (.inr rfl) hl hs with⟨e,p1,e1,g1⟩ | ⟨a,q1,p1,a0,a1,a2,g1⟩
  ·rw[g1,Pr.bind_err (show fh 64 S 1= .error e from Pr.bind_err p1),CS]
   simp only
   rw[if_neg e1]
   rfl
  have v1:fh 64 S 1= .ok (cY a,q1):=by rw[fh,Pr.bind_of p1]; rfl
  rw[g1,Pr.bind_of v1,CS]
  simp only[if_true]
  rw[if_pos (show -9223372036854775808≤1+((q1 - 1:Nat):Int)∧1+((q1 - 1:Nat):Int)≤9223372036854775807 by omega),show (1+((q1 - 1:Nat):Int))=(q1:Int) by omega,if_pos (show 0≤(q1:Int)∧((q1:Int)).toNat≤S.length by omega),Dg]
  rcases vo S q1 32 (.inl rfl) a1 hs with⟨e,p2,e2,g2⟩ | ⟨b,q2,p2,b0,b1,b2,g2⟩
  ·rw[g2,Pr.bind_err (show fh 32 S q1= .error e from Pr.bind_err p2),CS]
   simp only
   rw[if_neg e2]
   rfl
  have v2:fh 32 S q1= .ok (cY b,q2):=by rw[fh,Pr.bind_of p2]; rfl
  have la:a<18446744073709551616:=by rw[show 2 ^ (64:Int).toNat=18446744073709551616 by decide] at a2; exact a2
  have lb:b<18446744073709551616:=by rw[show 2 ^ (32:Int).toNat=4294967296 by decide] at b2; omega
  rw[g2,Pr.bind_of v2,CS]
  simp only[if_true]
  rw[nM _ (by omega),CS,nM _ (by omega),CS,show ((a:Int)).toNat=a from Dg a,show ((b:Int)).toNat=b from Dg b]
  generalize cY a=T
  generalize cY b=O
  by_cases ho:O<0
  ·rw[if_pos ho,if_pos ho]
   rfl
  have d1:(S.drop q1).length=S.length - q1:=C0
  rw[if_neg ho,if_neg ho,if_pos (show 0≤((q2 - q1:Nat):Int)∧(((q2 - q1:Nat):Int)).toNat≤(S.drop q1).length by omega),oe S q1 q2 b0,gi _ (by rw[C0]; omega),CS]
  rcases j9 S q2 b1 with⟨e,p3,e3,g3⟩ | ⟨k,q3,p3,k0,k1,g3⟩
  ·rw[g3,Pr.bind_err p3]
   simp only
   rw[if_neg e3]
   rfl
  rw[g3,Pr.bind_of p3]
  simp only[if_true]
  have d2:(S.drop q2).length=S.length - q2:=C0
  rw[if_pos (show 0≤((q3 - q2:Nat):Int)∧(((q3 - q2:Nat):Int)).toNat≤(S.drop q2).length by omega),oe S q2 q3 k0,gi _ (by rw[C0]; omega),CS]
  rcases j9 S q3 k1 with⟨e,p4,e4,g4⟩ | ⟨v,q4,p4,v0,v1',g4⟩
  ·rw[g4,Pr.bind_err p4]
   simp only
   rw[if_neg e4]
   rfl
  rw[g4,Pr.bind_of p4]
  simp only[if_true]
  have d3:(S.drop q3).length=S.length - q3:=C0
  have d4:(S.drop q4).length=S.length - q4:=C0
  rw[if_pos (show 0≤((q4 - q3:Nat):Int)∧(((q4 - q3:Nat):Int)).toNat≤(S.drop q3).length by omega),oe S q3 q4 v0,yI _ (by omega),CS]
  have hsh:=Sh_hds.zero (s:=S) (q:=q4) v1'
  cases hp:nt (S.drop q4) 0 with
  | error e =>
   rw[hp] at hsh
   have he:=z8 hs v1' hsh
   rw[Pr.bind_err hsh]
   simp only
   rw[if_neg he]
   rfl
  | ok x =>
   obtain⟨l,m⟩:=x
   rw[hp] at hsh
   have hsh:nt S q4= .ok (l,q4+m):=hsh
   have hm:=(vn.spell _ _ _ _ (Du _) hp).2.1
   rw[Pr.bind_of hsh]
   simp only[if_true]
   by_cases hq:(m:Int)=((S.drop q4).length:Int)
   ·have he:lM S (q4+m)= .ok ((),q4+m):=by unfold lM; rw[if_pos (by omega)]
    rw[if_pos hq,Pr.bind_of he]
    rfl
   ·have he:lM S (q4+m)= .error 2:=by unfold lM; rw[if_neg (by omega)]
    rw[if_neg hq,Pr.bind_err he]
    rfl
 ·have hz2: ¬ sgn c=0:=by unfold sgn; split <;> omega
  rw[if_neg hz,if_neg hz2]
  rfl
theorem yK (s:List UInt8) (q:Nat) (hq:q≤s.length) (hs:s.length≤1000000):(∃ e m,sW s q= .error e∧e≠0∧gK (s.drop q)=some ⟨qC,m,e⟩)∨(∃ x r,sW s q= .ok (x,r)∧q≤r∧r≤s.length∧gK (s.drop q)=some ⟨x,((r - q:Nat):Int),0⟩):=by
 unfold gK sW
 simp only[tX]
 rw[gi _ (by rw[C0]; omega),CS]
 rcases j9 s q hq with⟨e,p3,e3,g3⟩ | ⟨b,r,p3,k0,k1,g3⟩
 ·have hn:hY s q= .error e:=by rw[hY,eZ,Pr.bind_err p3]
  rw[g3,hn]
  simp only
  rw[if_neg e3]
  exact .inl ⟨e,0,rfl,e3,rfl⟩
 rw[g3]
 simp only[if_true]
 by_cases hb:b.null=true
 ·have hn:hY s q= .error 4:=by rw[hY,eZ,Pr.bind_of p3,if_pos hb]; rfl
  rw[if_pos hb,hn]
  exact .inl ⟨4,0,rfl,by decide,rfl⟩
 have hn:hY s q= .ok (b.data,r):=by rw[hY,eZ,Pr.bind_of p3,if_neg hb]; rfl
 have hsp:=jw.spell _ _ _ _ hq hn
 have hdl:b.data.length≤1000000:=by
  have:=hsp.2.2.1
  rw[CW] at this
  omega
 rw[if_neg hb,hn,yJ _ hdl,CS]
 simp only
 rcases tW b.data hdl with⟨e,x,b1,b2,b3⟩ | ⟨x,b1,b2⟩
 ·rw[b1]
  exact .inl ⟨e,_,rfl,b3,rfl⟩
 ·rw[b1]
  exact .inr ⟨x,r,rfl,k0,k1,rfl⟩
def rwt (x:Rec):Nat:=x.Cs.data.length+x.Cg.data.length+jK x.Cn
theorem l9 (b:Bl) (h:b.data.length≤1000000):(gF b).length≤10+b.data.length:=by
 have hb:=qA b (by omega)
 have:=gr (cg b) hb.1 hb.2
 rw[gF,CW]
 omega
theorem rU (l:List Hd) (h:jK l≤1000000):(kP l).length≤10+jK l:=by
 have hn:=nw l
 have h1:=gr (l.length:Int) (by omega) (by omega)
 have h2:=qB l h
 rw[kP,CW]
 omega
theorem tY (x:Rec) (ht:wI x.CC) (ho:wI x.Cv) (hw:rwt x≤900000):(bO x).length≤51+rwt x:=by
 unfold rwt at hw ⊢
 have h1:=e9 _ (en x.CC ht.1 ht.2)
 have h2:=e9 _ (en x.Cv ho.1 ho.2)
 have h3:=l9 x.Cs (by omega)
 have h4:=l9 x.Cg (by omega)
 have h5:=rU x.Cn (by omega)
 simp only[bO,CW,aA]
 omega
theorem xy (x:Rec) (ht:wI x.CC) (ho:wI x.Cv) (hw:rwt x≤900000):g8 x=some (cK x):=by
 have hb:=tY x ht ho hw
 unfold rwt at hw hb
 have h1:=e9 _ (en x.CC ht.1 ht.2)
 have h2:=e9 _ (en x.Cv ho.1 ho.2)
 have h3:=l9 x.Cs (by omega)
 have h4:=l9 x.Cg (by omega)
 have h5:=rU x.Cn (by omega)
 have hz:mc [0]=be 0 1:=by decide
 have e:(((((be 0 1++bB (aN x.CC))++bB (aN x.Cv))++gF x.Cs)++gF x.Cg)++kP x.Cn)=bO x:=by simp only[bO,C2]
 unfold g8
 rw[hz,pJ _ ht,CS,if_pos (by simp only[aA]; omega),pJ _ ho,CS,if_pos (by simp only[CW,aA]; omega),iE _ (by omega),CS]
 rw[show bB (aN (cg x.Cs))++x.Cs.data=gF x.Cs from rfl,if_pos (by simp only[CW,aA]; omega),iE _ (by omega),CS,show bB (aN (cg x.Cg))++x.Cg.data=gF x.Cg from rfl,if_pos (by simp only[CW,aA]; omega),xw _ (by omega),CS]
 rw[show bB (aN (x.Cn.length:Int))++bt dR x.Cn=kP x.Cn from rfl,e,if_pos (by simp only[CW,aA]; omega),pJ _ (by omega),CS]
 have h6:=e9 _ (en ((bO x).length:Int) (by omega) (by omega))
 rw[if_pos (by omega)]
 rfl
def yL (a b:Hd):Bool:=decide (a.Cs=b.Cs) && decide (a.Cg.null=b.Cg.null) && decide (a.Cg.data=b.Cg.data)
def iq:List Hd→List Hd→Bool
 | [],[]=>true
 | a::l,b::m=>yL a b && iq l m
 | _,_=>false
theorem oZ: ∀ l:List Hd,iq l l=true
 | []=>rfl
 | a::l=>by rw[iq,oZ l]; simp[yL]
theorem qE: ∀ (l m:List Hd),iq l m=true→l.length=m.length
 | [],[],h=>rfl
 | [],b::m,h=>nomatch h
 | a::l,[],h=>nomatch h
 | a::l,b::m,h=>by
  rw[iq,Bool.and_eq_true] at h
  rw[C5,C5,qE l m h.2]
theorem rV (a b:List Hd) (ha:a.length≤1000000) (y:Bool): ∀ (t u:List Hd) (k fuel:Nat),a.drop k=t→b.drop k=u→t.length=u.length→t.length<fuel→ ∃ z,dA a b fuel y k=some (if iq t u=true then .go (y,z) else .ret false)
 | [],[],k,fuel+1,ht,hu,hl,hf=>by
  have:=bL ht
  exact⟨k,by rw[dA,if_neg (by omega)]; rfl⟩
 | [],d::u,k,fuel,ht,hu,hl,hf=>by simp at hl
 | c::t,[],k,fuel,ht,hu,hl,hf=>by simp at hl
 | c::t,d::u,k,fuel+1,ht,hu,hl,hf=>by
  obtain⟨t1,t2,t3⟩:=bl ht
  obtain⟨u1,u2,u3⟩:=bl hu
  simp only[C5] at hl hf
  obtain⟨z,hz⟩:=rV a b ha y t u (k+1) fuel t2 u2 (by omega) (by omega)
  rw[dA,if_pos (by omega),t1,CS,u1,CS,iq,yL]
  by_cases h1:c.Cs=d.Cs
  ·rw[if_pos h1,CN h1]
   by_cases h2:c.Cg.null=d.Cg.null
   ·rw[if_pos h2,CN h2]
    by_cases h3:c.Cg.data=d.Cg.data
    ·rw[if_pos h3,CN h3,if_pos (by omega)]
     exact⟨z,hz⟩
    ·rw[if_neg h3,CO h3]
     exact⟨0,rfl⟩
   ·rw[if_neg h2,CO h2]
    exact⟨0,rfl⟩
  ·rw[if_neg h1,CO h1]
   exact⟨0,rfl⟩
theorem yM (a b:List Hd) (ha:a.length≤1000000):iY a b=some (iq a b):=by
 unfold iY
 by_cases hl:(a.length:Int)=(b.length:Int)
 ·obtain⟨z,hz⟩:=rV a b ha false a b 0 (((a.length:Int)).toNat+1) rfl rfl (by omega) (by omega)
  rw[if_pos hl,hz]
  cases iq a b <;> rfl
 ·rw[if_neg hl]
  have:iq a b=false:=by
   cases h:iq a b with
   | false=>rfl
   | true=>exact absurd (congrArg Int.ofNat (qE a b h)) hl
  rw[this]
def rW (a b:Rec):Bool:=decide (a.CC=b.CC) && decide (a.Cv=b.Cv) && decide (a.Cs.null=b.Cs.null) && decide (a.Cs.data=b.Cs.data) && decide (a.Cg.null=b.Cg.null) && decide (a.Cg.data=b.Cg.data) && iq a.Cn b.Cn
theorem vq (a:Rec):rW a a=true:=by simp[rW,oZ]
theorem yN (a b:Rec) (ha:a.Cn.length≤1000000):ja a b=some (rW a b):=by
 unfold ja rW
 rw[yM _ _ ha]
 by_cases h1:a.CC=b.CC <;> by_cases h2:a.Cv=b.Cv <;> by_cases h3:a.Cs.null=b.Cs.null <;> by_cases h4:a.Cs.data=b.Cs.data <;> by_cases h5:a.Cg.null=b.Cg.null <;> by_cases h6:a.Cg.data=b.Cg.data <;> simp[h1,h2,h3,h4,h5,h6]
theorem tZ {x:Rec} (h:rT x):gj x=0∧wI x.CC∧wI x.Cv:=by
 obtain⟨h1,⟨h2,h3⟩,h4,h5,h6⟩:=h
 rw[show 2 ^ (64:Int).toNat=18446744073709551616 by decide] at h1
 rw[show 2 ^ (32:Int).toNat=4294967296 by decide] at h2
 have ho:x.Cv≤2147483647:=by unfold aN at h2; split at h2 <;> omega
 refine⟨?_,?_,⟨by omega,by omega⟩⟩
 ·unfold gj
  have hb:lC x.Cn=true:=List.all_eq_true.2 fun y hy=>(h6.2 y hy).2.2
  rw[if_neg (by omega),h4.2,h5.2,hb]
  rfl
 ·unfold aN at h1
  constructor <;> (split at h1 <;> omega)
theorem t6: ∀ l:List Hd,jK l≤10*(bt dR l).length
 | []=>Du _
 | x::l=>by
  have h:=t6 l
  have h1:=iN (aN (x.Cs.length:Int))
  have h2:=iN (aN (cg x.Cg))
  rw[bt,CW,jK,hwt]
  simp only[dR,CW]
  omega
theorem vr (x:Rec):rwt x≤10*(bO x).length:=by
 have h:=t6 x.Cn
 simp only[bO,gF,kP,CW,aA,rwt]
 omega
def pm:Nat:=2197175160
def kU (x:Nat):Nat:=x / 2 ^^^ (if x % 2=1 then pm else 0)
def hZ:Nat→Nat→Nat
 | 0,x=>x
 | k+1,x=>hZ k (kU x)
theorem sY (x y:Nat):(x ^^^ y) % 2=(x % 2+y % 2) % 2:=by
 have h:=Nat.xor_mod_two_pow (a:=x) (b:=y) (n:=1)
 rw[Nat.pow_one] at h
 rw[h]
 rcases Nat.mod_two_eq_zero_or_one x with hx | hx <;> rcases Nat.mod_two_eq_zero_or_one y with hy | hy <;> rw[hx,hy] <;> rfl
theorem sZ (x y:Nat):(x ^^^ y) / 2=(x / 2) ^^^ (y / 2):=Nat.xor_div_two
theorem yO (x y:Nat):kU (x ^^^ y)=kU x ^^^ kU y:=by
 unfold kU
 rw[sZ,sY]
 rcases Nat.mod_two_eq_zero_or_one x with hx | hx <;> rcases Nat.mod_two_eq_zero_or_one y with hy | hy <;> simp[hx,hy]
 ·rw[Nat.xor_assoc]
 ·ac_rfl
 ·rw[show x / 2 ^^^ pm ^^^ (y / 2 ^^^ pm)=x / 2 ^^^ y / 2 ^^^ (pm ^^^ pm) by ac_rfl,Nat.xor_self,Nat.xor_zero]
theorem qF: ∀ (k x y:Nat),hZ k (x ^^^ y)=hZ k x ^^^ hZ k y
 | 0,_,_=>rfl
 | k+1,x,y=>by show hZ k _= _; rw[yO,qF k]; rfl
theorem t7: ∀ (j k x:Nat),hZ (j+k) x=hZ k (hZ j x)
 | 0,k,x=>by rw[Nat.zero_add]; rfl
 | j+1,k,x=>by rw[show j+1+k=(j+k)+1 by omega]; exact t7 j k (kU x)
theorem xz (x:Nat):kU (2*x)=x:=by
 unfold kU; rw[if_neg (by omega),Nat.xor_zero]; omega
theorem mS: ∀ (k x:Nat),hZ k (2 ^ k*x)=x
 | 0,x=>by rw[Nat.pow_zero,Nat.one_mul]; rfl
 | k+1,x=>by
  show hZ k (kU _)=x
  rw[show 2 ^ (k+1)*x=2*(2 ^ k*x) by rw[Nat.pow_succ,Nat.mul_comm (2 ^ k) 2,Nat.mul_assoc],xz]
  exact mS k x
theorem wf {x:Nat} (h:x<2 ^ 32):kU x<2 ^ 32:=by
 unfold kU
 exact Nat.xor_lt_two_pow (by omega) (by split <;> decide)
theorem pK: ∀ (k:Nat) {x:Nat},x<2 ^ 32→hZ k x<2 ^ 32
 | 0,_,h=>h
 | k+1,_,h=>pK k (wf h)
theorem xA (x b:Nat) (hb:b<256):hZ 8 (x ^^^ b)=hZ 8 ((x % 256) ^^^ b) ^^^ (x / 256):=by
 have h:x=(x % 256) ^^^ (2 ^ 8*(x / 256)):=by
  apply Nat.eq_of_testBit_eq
  intro i
  rw[Nat.testBit_xor,show (256:Nat)=2 ^ 8 from rfl,Nat.testBit_mod_two_pow,Nat.testBit_two_pow_mul,Nat.testBit_div_two_pow]
  by_cases hi:i<8
  ·simp[hi,show ¬ 8≤i by omega]
  ·simp[hi,show 8≤i by omega]
 conv=>lhs; rw[h]
 rw[show x % 256 ^^^ 2 ^ 8*(x / 256) ^^^ b=(x % 256 ^^^ b) ^^^ (2 ^ 8*(x / 256)) by ac_rfl,qF,mS]
def leN:List UInt8→Nat
 | []=>0
 | c::l=>c.toNat+256*leN l
def og:Nat→List UInt8→Nat
 | x,[]=>x
 | x,c::l=>og (hZ 8 (x ^^^ c.toNat)) l
theorem yP: ∀ l,leN l<2 ^ (8*l.length)
 | []=>by decide
 | c::l=>by
  have:=yP l
  have hc:=c.toNat_lt
  show c.toNat+256*leN l<2 ^ (8*(l.length+1))
  rw[show 8*(l.length+1)=8+8*l.length by omega,Nat.pow_add]
  omega
theorem t8 {b:Nat} (hb:b<256) (y:Nat):b+256*y=b ^^^ (2 ^ 8*y):=by
 apply Nat.eq_of_testBit_eq
 intro i
 rw[show b+256*y=2 ^ 8*y+b by omega,Nat.testBit_two_pow_mul_add _ (show b<2 ^ 8 by omega),Nat.testBit_xor,Nat.testBit_two_pow_mul]
 by_cases hi:i<8
 ·simp[hi,show ¬ 8≤i by omega]
 ·have:b.testBit i=false:=Nat.testBit_lt_two_pow (Nat.lt_of_lt_of_le hb (show 2 ^ 8≤2 ^ i from Nat.pow_le_pow_right (by decide) (by omega)))
  simp[hi,show 8≤i by omega,this]
theorem wg: ∀ (l:List UInt8) (x:Nat),og x l=hZ (8*l.length) (x ^^^ leN l)
 | [],x=>by show x=hZ 0 (x ^^^ 0); rw[Nat.xor_zero]; rfl
 | c::l,x=>by
  show og _ l= _
  rw[wg l,show 8*(c::l).length=8+8*l.length by simp[Nat.mul_add]; omega,t7]
  show _=hZ _ (hZ 8 (x ^^^ (c.toNat+256*leN l)))
  rw[t8 c.toNat_lt,show x ^^^ (c.toNat ^^^ 2 ^ 8*leN l)=(x ^^^ c.toNat) ^^^ (2 ^ 8*leN l) by ac_rfl,qF 8 (x ^^^ c.toNat),mS]
theorem o4: ∀ (l m:List UInt8) (x:Nat),og x (l++m)=og (og x l) m
 | [],_,_=>rfl
 | c::l,m,x=>o4 l m _
theorem pL: ∀ (l:List UInt8) {x:Nat},x<2 ^ 32→og x l<2 ^ 32
 | [],_,h=>h
 | c::l,_,h=>pL l (pK 8 (Nat.xor_lt_two_pow h (Nat.lt_trans c.toNat_lt (by decide))))
theorem ma (a:Nat) (h:a<4294967296):(BitVec.ofInt IntKind.u32.bits (a:Int)).toNat=a:=by
 show (BitVec.ofInt 32 (a:Int)).toNat=a
 rw[BitVec.ofInt_natCast,BitVec.toNat_ofNat,Nat.mod_eq_of_lt (by omega)]
theorem t9 (a:Nat) (h:a<256):(BitVec.ofInt IntKind.u8.bits (a:Int)).toNat=a:=by
 show (BitVec.ofInt 8 (a:Int)).toNat=a
 rw[BitVec.ofInt_natCast,BitVec.toNat_ofNat,Nat.mod_eq_of_lt (by omega)]
theorem wrap_u32 (a:Nat):IntKind.u32.wrap (a:Int)=((a % 4294967296:Nat):Int):=by
 rw[IntKind.wrap_u32]; omega
theorem wrap_u8 (a:Nat):IntKind.u8.wrap (a:Int)=((a % 256:Nat):Int):=by
 rw[IntKind.wrap_u8]; omega
theorem pM (a b:Nat) (ha:a<4294967296) (hb:b<4294967296):Go.bits .xor .u32 (a:Int) (b:Int)=((a ^^^ b:Nat):Int):=by
 show IntKind.u32.wrap (((BitVec.ofInt IntKind.u32.bits (a:Int)) ^^^ (BitVec.ofInt IntKind.u32.bits (b:Int))).toNat:Int)= _
 rw[BitVec.toNat_xor,ma a ha,ma b hb,wrap_u32,Nat.mod_eq_of_lt (Nat.xor_lt_two_pow (n:=32) ha hb)]
theorem xor_u8 (a b:Nat) (ha:a<256) (hb:b<256):Go.bits .xor .u8 (a:Int) (b:Int)=((a ^^^ b:Nat):Int):=by
 show IntKind.u8.wrap (((BitVec.ofInt IntKind.u8.bits (a:Int)) ^^^ (BitVec.ofInt IntKind.u8.bits (b:Int))).toNat:Int)= _
 rw[BitVec.toNat_xor,t9 a ha,t9 b hb,wrap_u8,Nat.mod_eq_of_lt (Nat.xor_lt_two_pow (n:=8) ha hb)]
theorem yQ (a:Nat) (ha:a<4294967296):Go.bits .and .u32 (a:Int) 1=((a % 2:Nat):Int):=by
 show IntKind.u32.wrap (((BitVec.ofInt IntKind.u32.bits (a:Int)) &&& (BitVec.ofInt IntKind.u32.bits ((1:Nat):Int))).toNat:Int)= _
 rw[BitVec.toNat_and,ma a ha,ma 1 (by decide),wrap_u32,Nat.and_one_is_mod,Nat.mod_eq_of_lt (by omega)]
theorem yR (a:Nat):rk .u32 (a:Int) 1=((a / 2:Nat):Int):=by
 show Int.fdiv (a:Int) 2= _
 rw[Int.fdiv_eq_ediv_of_nonneg _ (by decide)]
 omega
theorem yS (a:Nat):rk .u32 (a:Int) 8=((a / 256:Nat):Int):=by
 show Int.fdiv (a:Int) 256= _
 rw[Int.fdiv_eq_ediv_of_nonneg _ (by decide)]
 omega
theorem yT (y:Nat) (hy:y<4294967296):(if Go.bits .and .u32 (y:Int) 1=1 then some (Go.bits .xor .u32 (rk .u32 (y:Int) 1) 2197175160) else some (rk .u32 (y:Int) 1))=some ((kU y:Nat):Int):=by
 rw[yQ y hy,yR,show (2197175160:Int)=((2197175160:Nat):Int) from rfl,pM _ _ (by omega) (by decide)]
 unfold kU
 by_cases h:y % 2=1
 ·rw[if_pos (by omega),if_pos h]; rfl
 ·rw[if_neg (by omega),if_neg h,Nat.xor_zero]
theorem yU: ∀ (m y k:Nat),y<4294967296→k≤8→8 - k<m→d7 m (y:Int) k=some (((hZ (8 - k) y:Nat):Int),8)
 | 0,_,_,_,_,h=>by omega
 | m+1,y,k,hy,hk,hm=>by
  rw[d7]
  by_cases h:k<8
  ·rw[if_pos (by omega),yT y hy,CS,if_pos (by omega),yU m (kU y) (k+1) (wf hy) (by omega) (by omega),show 8 - k=(8 - (k+1))+1 by omega]
   rfl
  ·rw[if_neg (by omega),show 8 - k=0 by omega,show k=8 by omega]
   rfl
def gN:List Int:=(List.range 256).map (fun j=>((hZ 8 j:Nat):Int))
theorem qG (j:Nat) (hj:j<256):gN[j]? = some ((hZ 8 j:Nat):Int):=by
 unfold gN
 rw[List.getElem?_map,List.getElem?_range hj]
 rfl
theorem yV: ∀ (m k:Nat) (l:List Int),l.length=256→k≤256→256 - k<m→(∀ j,j<k→l[j]? = some ((hZ 8 j:Nat):Int))→eF m k l=some (256,gN)
 | 0,_,_,_,_,h,_=>by omega
 | m+1,k,l,hl,hk,hm,hj=>by
  rw[eF]
  by_cases h:k<256
  ·have e1:IntKind.u32.wrap (k:Int)=((k:Nat):Int):=by rw[wrap_u32,Nat.mod_eq_of_lt (by omega)]
   have e2:d7 ((8:Int).toNat+1) (IntKind.u32.wrap (k:Int)) 0=some (((hZ 8 k:Nat):Int),8):=by
    rw[e1]
    exact yU 9 k 0 (by omega) (by omega) (by omega)
   have e3:l[k]? = some (l[k]'(by omega)):=List.getElem?_eq_getElem (by omega)
   rw[if_pos (by omega),e2,CS]
   dsimp only
   rw[e3,CS,CS,if_pos (by omega)]
   refine yV m (k+1) _ (by rw[List.length_set]; exact hl) (by omega) (by omega) (fun j hjk=> ?_)
   rw[List.getElem?_set]
   by_cases e:k=j
   ·rw[if_pos e,if_pos (by omega),e]
   ·rw[if_neg e]
    exact hj j (by omega)
  ·rw[if_neg (by omega),show k=256 by omega]
   congr 2
   apply List.ext_getElem?
   intro j
   by_cases hj2:j<256
   ·rw[qG j hj2]
    exact hj j (by omega)
   ·rw[List.getElem?_eq_none (by omega),List.getElem?_eq_none (by unfold gN; simp; omega)]
theorem z9:iJ=some gN:=by
 unfold iJ
 rw[show (256:Int).toNat+1=257 from rfl,yV 257 0 _ (List.length_replicate ..) (by omega) (by omega) (fun j hj=>absurd hj (by omega)),CS]
theorem wh (s:List UInt8) (hs:s.length≤9223372036854775806): ∀ (m y k:Nat),y<4294967296→k≤s.length→s.length - k<m→cH s m (y:Int) k gN=some (((og y (s.drop k):Nat):Int),s.length,gN)
 | 0,_,_,_,_,h=>by omega
 | m+1,y,k,hy,hk,hm=>by
  rw[cH]
  by_cases h:k<s.length
  ·have e1:s[k]? = some s[k]:=List.getElem?_eq_getElem h
   have hc:=s[k].toNat_lt
   have hx:y % 256 ^^^ s[k].toNat<256:=Nat.xor_lt_two_pow (n:=8) (by omega) hc
   have e2:Go.bits .xor .u8 (IntKind.u8.wrap (y:Int)) (s[k].toNat:Int)=((y % 256 ^^^ s[k].toNat:Nat):Int):=by
    rw[wrap_u8,xor_u8 _ _ (by omega) (by omega)]
   have e3:hZ 8 (y % 256 ^^^ s[k].toNat)<2 ^ 32:=pK 8 (by omega)
   rw[if_pos (by omega),e1,CS,e2,if_pos (by omega),Dg,qG _ hx,CS,if_pos (by omega),yS,pM _ _ (by omega) (by omega),← xA y _ (by omega),
    wh s hs m _ (k+1) (pK 8 (Nat.xor_lt_two_pow (n:=32) hy (by omega))) (by omega) (by omega)]
   rw[bU e1]
   rfl
  ·rw[if_neg (by omega),show k=s.length by omega,List.drop_length]
   rfl
def jL (x:Nat) (s:List UInt8):Nat:=4294967295 ^^^ og (4294967295 ^^^ x) s
theorem pN {x:Nat} (hx:x<4294967296) (s:List UInt8):jL x s<4294967296:=Nat.xor_lt_two_pow (n:=32) (by decide) (pL s (Nat.xor_lt_two_pow (n:=32) (by decide) hx))
theorem ones2 (x:Nat):4294967295 ^^^ (4294967295 ^^^ x)=x:=by rw[← Nat.xor_assoc,Nat.xor_self,Nat.zero_xor]
theorem ua (x:Nat) (s t:List UInt8):jL x (s++t)=jL (jL x s) t:=by
 unfold jL
 rw[o4,ones2]
theorem yW (x:Nat):jL x []=x:=ones2 x
theorem yX (x:Nat) (hx:x<4294967296) (s:List UInt8) (hs:s.length≤9223372036854775806):eP gN (x:Int) s=some (((jL x s:Nat):Int),gN):=by
 unfold eP
 have h1:(4294967295 ^^^ x:Nat)<4294967296:=Nat.xor_lt_two_pow (n:=32) (by decide) hx
 rw[show (4294967295:Int)=((4294967295:Nat):Int) from rfl,pM _ _ (by decide) hx,Dg,wh s hs _ _ 0 h1 (by omega) (by omega),CS,List.drop_zero]
 dsimp only
 rw[pM _ _ (by decide) (pL s h1)]
 rfl
theorem yY: ∀ (l:List (List UInt8)) (x:Nat),x<4294967296→(∀ s,s∈l→s.length≤9223372036854775806)→cm l (x:Int) gN=some (((jL x l.flatten:Nat):Int),gN)
 | [],x,_,_=>by rw[cm,List.flatten_nil,yW]
 | s::l,x,hx,hs=>by
  rw[cm,yX x hx s (hs s (List.mem_cons_self ..)),CS]
  dsimp only
  rw[yY l _ (pN hx s) (fun t ht=>hs t (List.mem_cons_of_mem _ ht)),List.flatten_cons,ua]
theorem Aa (l:List (List UInt8)) (hs: ∀ s,s∈l→s.length≤9223372036854775806):es gN l=some (((jL 0 l.flatten:Nat):Int),gN):=by
 unfold es
 have h:=yY l 0 (by decide) hs
 rw[show ((0:Nat):Int)=0 from rfl] at h
 rw[h,CS]
def bI (x j:Nat):Int:=if x.testBit j then 1 else 0
theorem vt (x j:Nat):bI x j=((x / 2 ^ j % 2:Nat):Int):=by
 unfold bI
 rw[Nat.testBit_eq_decide_div_mod_eq]
 rcases Nat.mod_two_eq_zero_or_one (x / 2 ^ j) with h | h <;> rw[h] <;> rfl
theorem rX (x j:Nat):bI x j=0∨bI x j=1:=by
 unfold bI
 by_cases h:x.testBit j=true
 ·rw[if_pos h]; exact .inr rfl
 ·rw[if_neg h]; exact .inl rfl
theorem qH (x y j:Nat):bI (x ^^^ y) j=(bI x j+bI y j) % 2:=by
 unfold bI
 rw[Nat.testBit_xor]
 cases x.testBit j <;> cases y.testBit j <;> rfl
theorem s6 (x j:Nat):bI (x / 2) j=bI x (j+1):=by
 unfold bI
 rw[Nat.testBit_succ]
theorem ub: ∀ (s:List UInt8) (k:Nat) (c:UInt8),s[k]? = some c→ ∀ j,j<8→(leN s).testBit (8*k+j)=c.toNat.testBit j
 | [],k,c,h,j,hj=>by simp at h
 | a::s,0,c,h,j,hj=>by
  obtain rfl:a=c:=by simpa using h
  show (a.toNat+256*leN s).testBit (8*0+j)= _
  rw[show a.toNat+256*leN s=2 ^ 8*leN s+a.toNat by omega,Nat.testBit_two_pow_mul_add _ (show a.toNat<2 ^ 8 from a.toNat_lt),if_pos (by omega),Nat.mul_zero,Nat.zero_add]
 | a::s,k+1,c,h,j,hj=>by
  show (a.toNat+256*leN s).testBit _= _
  rw[show a.toNat+256*leN s=2 ^ 8*leN s+a.toNat by omega,Nat.testBit_two_pow_mul_add _ (show a.toNat<2 ^ 8 from a.toNat_lt),if_neg (by omega),show 8*(k+1)+j - 8=8*k+j by omega]
  exact ub s k c (by simpa using h) j hj
theorem yZ (a:Int) (ha:0≤a) (hb:a≤9223372036854775807): ∀ (m y k:Nat),y<256→k≤(a % 8).toNat→(a % 8).toNat - k<m→eG a m (y:Int) k=some (((y / 2 ^ ((a % 8).toNat - k):Nat):Int),(a % 8).toNat)
 | 0,_,_,_,_,h=>by omega
 | m+1,y,k,hy,hk,hm=>by
  rw[eG,if_pos ⟨ha,hb⟩]
  by_cases h:k<(a % 8).toNat
  ·rw[if_pos (by omega),if_pos (by omega),if_pos (by omega),show ((y:Int) / 2)=((y / 2:Nat):Int) by omega,yZ a ha hb m (y / 2) (k+1) (by omega) (by omega) (by omega),Nat.div_div_eq_div_mul,
    show (a % 8).toNat - k=((a % 8).toNat - (k+1))+1 by omega,Nat.pow_succ,Nat.mul_comm 2]
  ·rw[if_neg (by omega),show (a % 8).toNat - k=0 by omega,Nat.pow_zero,Nat.div_one,show k=(a % 8).toNat by omega]
theorem Ab (s:List UInt8) (i:Nat) (hi:i<8*s.length) (hb:i≤9223372036854775807):j6 s (i:Int)=some (bI (leN s) i):=by
 unfold j6
 have hk:i / 8<s.length:=by omega
 have e1:s[i / 8]? = some s[i / 8]:=List.getElem?_eq_getElem hk
 have hc:=s[i / 8].toNat_lt
 have e2:=yZ (i:Int) (by omega) (by omega) (((i:Int) % 8).toNat+1) s[i / 8].toNat 0 (by omega) (by omega) (by omega)
 have e3:((i:Int) % 8).toNat=i % 8:=by omega
 rw[if_pos (by omega),if_pos (by omega),show ((i:Int) / 8).toNat=i / 8 by omega,e1,CS,if_pos (by omega),e2,CS,e3,Nat.sub_zero]
 dsimp only
 have h4:s[i / 8].toNat / 2 ^ (i % 8)≤s[i / 8].toNat:=Nat.div_le_self _ _
 suffices h6:bI (leN s) i=((s[i / 8].toNat / 2 ^ (i % 8) % 2:Nat):Int) by
  rw[h6]
  generalize s[i / 8].toNat / 2 ^ (i % 8)=q at h4 ⊢
  rw[if_pos (by omega)]
  congr 1
 have h5:=ub s (i / 8) _ e1 (i % 8) (by omega)
 rw[show 8*(i / 8)+i % 8=i by omega] at h5
 unfold bI
 rw[h5]
 exact vt _ _
theorem xB: ∀ i:Nat,i<32→hO (31 - (i:Int))=some (bI pm i):=by decide +kernel
def Bts (L k:Nat) (l:List Int) (x:Nat):Prop:=l.length=L∧ ∀ j,k+j<L→l[k+j]? = some (bI x j)
theorem y9 (s:List UInt8) (hs:s.length≤1000000): ∀ (m k:Nat) (l:List Int),l.length=8*s.length+32→k≤8*s.length→8*s.length - k<m→(∀ j,j<k→l[j]? = some (bI (leN s) j))→(∀ j,k≤j→j<8*s.length+32→l[j]? = some 0) →
 ∃ l',eJ s m l k=some (l',8*s.length)∧Bts (8*s.length+32) 0 l' (leN s)
 | 0,_,_,_,_,h,_,_=>by omega
 | m+1,k,l,hl,hk,hm,h1,h2=>by
  rw[eJ]
  by_cases h:k<8*s.length
  ·rw[if_pos (by omega),Ab s k h (by omega),CS,h2 k (Dy _) (by omega),CS,if_pos (by omega)]
   refine y9 s hs m (k+1) _ (by rw[List.length_set]; exact hl) (by omega) (by omega) (fun j hj=> ?_) (fun j hj hj2=> ?_)
   ·rw[List.getElem?_set]
    by_cases e:k=j
    ·rw[if_pos e,if_pos (by omega),e]
    ·rw[if_neg e]; exact h1 j (by omega)
   ·rw[List.getElem?_set,if_neg (by omega)]
    exact h2 j (by omega) hj2
  ·have hk2:k=8*s.length:=by omega
   rw[if_neg (by omega),hk2]
   refine⟨l,rfl,hl,fun j hj=> ?_⟩
   rw[Nat.zero_add] at hj ⊢
   by_cases e:j<k
   ·exact h1 j e
   ·rw[h2 j (by omega) hj]
    unfold bI
    rw[Nat.testBit_lt_two_pow (Nat.lt_of_lt_of_le (yP s) (Nat.pow_le_pow_right (by decide) (by omega)))]
    rfl
theorem s7 (k j:Nat):bI (2 ^ k - 1) j=if j<k then 1 else 0:=by
 unfold bI
 rw[Nat.testBit_two_pow_sub_one]
 by_cases h:j<k <;> simp[h]
theorem za (x L:Nat) (hL:32≤L): ∀ (m k:Nat) (l:List Int),k≤32→32 - k<m→Bts L 0 l (x ^^^ (2 ^ k - 1))→ ∃ l',eI m l k=some (l',32)∧Bts L 0 l' (x ^^^ 4294967295)
 | 0,_,_,_,h,_=>by omega
 | m+1,k,l,hk,hm,hB=>by
  rw[eI]
  by_cases h:k<32
  ·have e:=hB.2 k (by omega)
   rw[Nat.zero_add] at e
   rw[if_pos (by omega),e,CS]
   have h01:=rX (x ^^^ (2 ^ k - 1)) k
   rw[if_pos (by omega),if_pos (by omega)]
   refine za x L hL m (k+1) _ (by omega) (by omega) ⟨by rw[List.length_set]; exact hB.1,fun j hj=> ?_⟩
   rw[Nat.zero_add] at hj ⊢
   have e2:=hB.2 j (by omega)
   rw[Nat.zero_add] at e2
   have R:bI (x ^^^ (2 ^ (k+1) - 1)) j=(bI x j+if j<k+1 then 1 else 0) % 2:=by rw[qH,s7]
   have R0:bI (x ^^^ (2 ^ k - 1)) j=(bI x j+if j<k then 1 else 0) % 2:=by rw[qH,s7]
   rw[List.getElem?_set,R]
   by_cases e3:k=j
   ·subst e3
    rw[if_pos rfl,if_pos (by rw[hB.1]; exact hj),if_pos (by omega),R0,if_neg (by omega)]
    rcases rX x k with q | q <;> rw[q] <;> rfl
   ·rw[if_neg e3,e2,R0]
    by_cases e4:j<k
    ·rw[if_pos e4,if_pos (by omega)]
    ·rw[if_neg e4,if_neg (by omega)]
  ·have:k=32:=by omega
   subst this
   rw[if_neg (by omega)]
   exact⟨l,rfl,hB⟩
theorem zb (L k:Nat) (l0:List Int) (y:Nat) (hL:k+33≤L) (hb:L≤9000000) (h0:Bts L k l0 y): ∀ (m i:Nat) (l:List Int),1≤i→i≤33→33 - i<m→l.length=L→(∀ j,k+i≤j→j<L→l[j]? = l0[j]?)→(∀ j,j+1<i→l[k+1+j]? = some (bI (y / 2 ^^^ pm) j)) →
 ∃ l',eH k m l (i:Int)=some (l',33)∧l'.length=L∧(∀ j,k+33≤j→j<L→l'[j]? = l0[j]?)∧ ∀ j,j<32→l'[k+1+j]? = some (bI (y / 2 ^^^ pm) j)
 | 0,_,_,_,_,h,_,_,_=>by omega
 | m+1,i,l,h1,hi,hm,hl,hr,hd=>by
  rw[eH]
  by_cases h:i≤32
  ·have e1:l[k+i]? = some (bI y i):=by rw[hr (k+i) (Dy _) (by omega)]; exact h0.2 i (by omega)
   have e2:hO (32 - (i:Int))=some (bI pm (i - 1)):=by
    rw[show (32:Int) - (i:Int)=31 - ((i - 1:Nat):Int) by omega]
    exact xB (i - 1) (by omega)
   have q1:=rX y i
   have q2:=rX pm (i - 1)
   rw[if_pos (by omega),if_pos (by omega),show ((k:Int)+(i:Int)).toNat=k+i by omega,e1,CS,if_pos (by omega),if_pos (by omega),if_pos (by omega),e2,CS,if_pos (by omega),if_pos (by omega),if_pos (by omega),
    show (i:Int)+1=((i+1:Nat):Int) by omega]
   refine zb L k l0 y hL hb h0 m (i+1) _ (by omega) (by omega) (by omega) (by rw[List.length_set]; exact hl) (fun j hj hj2=> ?_) (fun j hj=> ?_)
   ·rw[List.getElem?_set,if_neg (by omega)]
    exact hr j (by omega) hj2
   ·rw[List.getElem?_set]
    by_cases e3:k+i=k+1+j
    ·rw[if_pos e3,if_pos (by omega),qH,s6,show j+1=i by omega,show i - 1=j by omega]
    ·rw[if_neg e3]; exact hd j (by omega)
  ·have:i=33:=by omega
   subst this
   rw[if_neg (by omega)]
   exact⟨l,rfl,hl,fun j hj hj2=>hr j hj hj2,fun j hj=>hd j (by omega)⟩
theorem xC (j:Nat) (hj:32≤j):bI pm j=0:=by
 unfold bI
 rw[Nat.testBit_lt_two_pow (Nat.lt_of_lt_of_le (show pm<2 ^ 32 by decide) (Nat.pow_le_pow_right (by decide) hj))]
 rfl
theorem wi (x:Nat):bI x 0=1↔x % 2=1:=by
 rw[vt,Nat.pow_zero,Nat.div_one]; omega
theorem vu (s:List UInt8) (hs:s.length≤1000000): ∀ (m k:Nat) (l:List Int) (y:Nat),k≤8*s.length→8*s.length - k<m→Bts (8*s.length+32) k l y→ ∃ l',ea s m l k=some (l',8*s.length)∧Bts (8*s.length+32) (8*s.length) l' (hZ (8*s.length - k) y)
 | 0,_,_,_,_,h,_=>by omega
 | m+1,k,l,y,hk,hm,hB=>by
  rw[ea]
  by_cases h:k<8*s.length
  ·have e1:=hB.2 0 (by omega)
   rw[Nat.add_zero] at e1
   rw[if_pos (by omega),e1,CS,show 8*s.length - k=(8*s.length - (k+1))+1 by omega]
   by_cases ho:bI y 0=1
   ·have hy:=(wi y).1 ho
    obtain⟨l',r1,r2,r3,r4⟩:=zb (8*s.length+32) k l y (by omega) (by omega) hB 33 1 l (by omega) (by omega) (by omega) hB.1 (fun j _ _=>rfl) (fun j hj=>absurd hj (by omega))
    rw[if_pos ho,show ((33:Int) - 1).toNat+1=33 from rfl,show (1:Int)=((1:Nat):Int) from rfl,r1,CS]
    dsimp only
    rw[if_pos (by omega)]
    refine vu s hs m (k+1) l' (kU y) (by omega) (by omega) ⟨r2,fun j hj=> ?_⟩
    unfold kU
    rw[if_pos hy]
    by_cases e:j<32
    ·exact r4 j e
    ·rw[r3 _ (by omega) (by omega),show k+1+j=k+(j+1) by omega,hB.2 (j+1) (by omega),qH,s6,xC j (by omega)]
     rcases rX y (j+1) with q | q <;> rw[q] <;> rfl
   ·have hy: ¬ y % 2=1:=fun e=>ho ((wi y).2 e)
    rw[if_neg ho,if_pos (by omega)]
    refine vu s hs m (k+1) l (kU y) (by omega) (by omega) ⟨hB.1,fun j hj=> ?_⟩
    unfold kU
    rw[if_neg hy,Nat.xor_zero,s6,show k+1+j=k+(j+1) by omega]
    exact hB.2 (j+1) (by omega)
  ·have:k=8*s.length:=by omega
   subst this
   rw[if_neg (by omega),Nat.sub_self]
   exact⟨l,rfl,hB⟩
theorem uc {z:Nat} (hz:z<4294967296):4294967295 ^^^ z=4294967295 - z:=by
 apply Nat.eq_of_testBit_eq
 intro i
 rw[show 4294967295 - z=2 ^ 32 - (z+1) by omega,Nat.testBit_two_pow_sub_succ (show z<2 ^ 32 from hz),Nat.testBit_xor,show (4294967295:Nat)=2 ^ 32 - 1 from rfl,Nat.testBit_two_pow_sub_one]
 by_cases h:i<32
 ·simp[h]
 ·have:z.testBit i=false:=Nat.testBit_lt_two_pow (Nat.lt_of_lt_of_le hz (show 2 ^ 32≤2 ^ i from Nat.pow_le_pow_right (by decide) (by omega)))
  simp[h,this]
theorem zc (s:List UInt8) (hs:s.length≤1000000) (l:List Int) (z:Nat) (hz:z<4294967296) (hB:Bts (8*s.length+32) (8*s.length) l z): ∀ (i m:Nat),i≤32→i<m→dy s l m (((4294967295 - z) / 2 ^ i:Nat):Int) ((i:Int) - 1)=some (((4294967295 - z:Nat):Int),-1)
 | i,0,_,h=>by omega
 | 0,m+1,_,_=>by
  rw[dy,if_neg (by omega),Nat.pow_zero,Nat.div_one]
  rfl
 | i+1,m+1,hi,hm=>by
  have e1:=hB.2 i (by omega)
  have q:=rX z i
  rw[dy,if_pos (by omega),if_pos (by omega),if_pos (by omega),show (8*(s.length:Int)+(((i+1:Nat):Int) - 1)).toNat=8*s.length+i by omega,e1,CS,if_pos (by omega),if_pos (by omega),
   show ((i+1:Nat):Int) - 1 - 1=(i:Int) - 1 by omega]
  have h1:(4294967295 - z) / 2 ^ i / 2=(4294967295 - z) / 2 ^ (i+1):=by rw[Nat.div_div_eq_div_mul,← Nat.pow_succ]
  have h2:(((4294967295 - z) / 2 ^ i % 2:Nat):Int)=1 - bI z i:=by
   rw[← vt,← uc hz,qH,show (4294967295:Nat)=2 ^ 32 - 1 from rfl,s7,if_pos (by omega)]
   rcases q with q | q <;> rw[q] <;> rfl
  have h3:(4294967295 - z) / 2 ^ i≤4294967295:=Nat.le_trans (Nat.div_le_self _ _) (by omega)
  have h4:IntKind.u32.wrap ((IntKind.u32.wrap ((((4294967295 - z) / 2 ^ (i+1):Nat):Int)*2))+(IntKind.u32.wrap (1 - bI z i)))=(((4294967295 - z) / 2 ^ i:Nat):Int):=by
   rw[IntKind.wrap_u32,IntKind.wrap_u32,IntKind.wrap_u32,← h1,← h2]
   generalize (4294967295 - z) / 2 ^ i=q at h3
   omega
  rw[h4]
  exact zc s hs l z hz hB i m (by omega) (by omega)
theorem wj (s:List UInt8) (hs:s.length≤1000000):iK s=some ((jL 0 s:Nat):Int):=by
 unfold iK
 obtain⟨l1,r1,B1⟩:=y9 s hs (8*s.length+1) 0 (List.replicate (8*s.length+32) 0) (List.length_replicate ..) (by omega) (by omega) (fun j hj=>absurd hj (by omega)) (fun j _ hj=>by rw[List.getElem?_replicate,if_pos hj])
 obtain⟨l2,r2,B2⟩:=za (leN s) (8*s.length+32) (by omega) 33 0 l1 (by omega) (by omega) (by rw[Nat.pow_zero,Nat.sub_self,Nat.xor_zero]; exact B1)
 obtain⟨l3,r3,B3⟩:=vu s hs (8*s.length+1) 0 l2 _ (by omega) (by omega) B2
 have hz:hZ (8*s.length - 0) (leN s ^^^ 4294967295)=og 4294967295 s:=by rw[Nat.sub_zero,wg,Nat.xor_comm]
 rw[hz] at B3
 have hlt:og 4294967295 s<4294967296:=pL s (by decide)
 have r4:=zc s hs l3 _ hlt B3 32 33 (by omega) (by omega)
 rw[show (4294967295 - og 4294967295 s) / 2 ^ 32=0 from Nat.div_eq_of_lt (by omega)] at r4
 rw[if_pos (by omega),if_pos (by omega),if_pos (by omega),show (8*(s.length:Int)).toNat=8*s.length by omega,show (8*(s.length:Int)+32).toNat=8*s.length+32 by omega,r1,CS]
 dsimp only
 rw[show (32:Int).toNat+1=33 from rfl,r2,CS]
 dsimp only
 rw[r3,CS]
 dsimp only
 rw[show ((31:Int) - -1).toNat+1=33 from rfl]
 have r5:dy s l3 33 0 31=some (((4294967295 - og 4294967295 s:Nat):Int),-1):=r4
 rw[r5,CS]
 dsimp only
 rw[← uc hlt]
 unfold jL
 rw[Nat.xor_zero]
def wk (p:Pfx):List UInt8:=be p.Cu 8++(be p.CF 4++(be p.Co 4++(be 2 1++be (s32 p.CL) 4)))
def dU (p:Pfx):List UInt8:=be p.CJ 2++mj [4,8,8,8,2,4,4] [p.Cr,p.Cl,p.Cy,p.Ci,p.Cp,p.Ch,p.CK]
theorem wl (p:Pfx):jl p=wk p++dU p:=by
 unfold jl KS toL wk dU
 simp only[mj,C2]
theorem rY (p:Pfx):(wk p).length=21:=by
 unfold wk
 simp only[CW,aA]
theorem kd (p:Pfx):(jl p).drop 21=dU p:=by
 rw[wl,← rY p,List.drop_left]
def okRc (x:Rec):Prop:=rT x∧aN ((bO x).length:Int)<2 ^ (32:Int).toNat
def ud:Pr Unit:=fun s q=>if q=s.length then .error 10 else .ok ((),q)
def jz:Nat→Pr (List Rec)
 | 0=> .ret []
 | n+1=>ud.bind fun _=>sW.bind fun x=>(jz n).bind fun l=> .ret (x::l)
theorem kC (x:Rec):0<(cK x).length:=by
 unfold cK
 rw[CW]
 have:=iN (aN ((bO x).length:Int))
 omega
theorem kD: ∀ (n:Nat) (s:List UInt8) (q:Nat) (l:List Rec) (r:Nat),q≤s.length→jz n s q= .ok (l,r)→q≤r∧r≤s.length∧s.take r=s.take q++bt cK l∧l.length=n∧ ∀ x,x∈l→okRc x
 | 0,s,q,l,r,hq,h=>by
  injection h with h
  obtain⟨rfl,rfl⟩:=Dv h
  exact⟨Dy _,hq,by simp[bt],rfl,fun x h=>nomatch h⟩
 | n+1,s,q,l,r,hq,h=>by
  obtain⟨u,m,h1,h2⟩:=Pr.bind_ok h
  unfold ud at h1
  split at h1
  ·exact nomatch h1
  injection h1 with h1
  obtain⟨_,rfl⟩:=Dv h1
  obtain⟨x,m2,h3,h4⟩:=Pr.bind_ok h2
  obtain⟨xs,m3,h5,h6⟩:=Pr.bind_ok h4
  injection h6 with h6
  obtain⟨rfl,rfl⟩:=Dv h6
  obtain⟨a1,a2,a3,a4,a5⟩:=sX.spell s q x m2 hq h3
  obtain⟨b1,b2,b3,b4,b5⟩:=kD n s m2 xs m3 a2 h5
  refine⟨by omega,b2,by rw[b3,a4,bt,C2],by rw[C5,b4],fun y hy=> ?_⟩
  rcases List.mem_cons.1 hy with rfl | hy
  ·exact a5
  ·exact b5 y hy
theorem rZ: ∀ (l:List Rec) (s t:List UInt8) (q:Nat),q≤s.length→(∀ x,x∈l→okRc x)→s.drop q=bt cK l++t→jz l.length s q= .ok (l,q+(bt cK l).length)
 | [],s,t,q,hq,_,_=>rfl
 | x::l,s,t,q,hq,ho,hd=>by
  rw[bt,C2] at hd
  have hl:=congrArg List.length hd
  rw[C0,CW] at hl
  have hp:=kC x
  have h0:ud s q= .ok ((),q):=if_neg (by omega)
  have h1:=sX.back s _ q x hq (ho x (.head _)) hd
  have h2:=rZ l s t _ (by omega) (fun y hy=>ho y (.tail _ hy)) (bZ hd)
  rw[C5,jz,Pr.bind_of h0,Pr.bind_of h1,Pr.bind_of h2,bt,CW,← Nat.add_assoc]
  rfl
def chk (a:Bat):Int:=(cv a).getD 0
def body (a:Bat):List UInt8:=bt cK a.Ce
def mkB (p:Pfx) (l:List Rec):Bat:=⟨p.Cu,p.Co,cL p.CJ 3,cL p.CJ 4,cL p.CJ 5,p.Cr,p.Cl,p.Cy,p.Ci,p.Cp,p.Ch,l⟩
def pB (a:Bat) (s:Int):Pfx:=⟨a.Cu,49+((body a).length:Int),a.Co,s,fR a.Cw a.CE a.Cq,a.Cr,a.Cl,a.Cy,a.Ci,a.Cp,a.Ch,(a.Ce.length:Int)⟩
def vv (p:Pfx) (s:List UInt8):Nat:=jL 0 (dU p++s)
def ke (a:Bat):Nat:=vv (pB a 0) (body a)
def dS (a:Bat):List UInt8:=jl (pB a (ke a))++body a
def okB (a:Bat):Prop:=okP (pB a (ke a))∧bX (fR a.Cw a.CE a.Cq)=0∧(∀ x,x∈a.Ce→okRc x)∧chk a=0
def lN (p:Pfx) (s:List UInt8):Except Int Bat :=
 if bX p.CJ=0 then
  match jz p.CK.toNat s 0 with
  | .error e=> .error e
  | .ok (l,r)=>if r<s.length then .error 10 else if chk (mkB p l)=0 then .ok (mkB p l) else .error (chk (mkB p l))
 else .error (bX p.CJ)
def nx:Pr Bat:=fun s q =>
 match qw s q with
 | .error e=> .error e
 | .ok (p,r)=>if s.length<r+(p.CF - 49).toNat then .error 1 else
  if ((vv p ((s.drop r).take (p.CF - 49).toNat):Nat):Int)=p.CL then
   match lN p ((s.drop r).take (p.CF - 49).toNat) with
   | .error e=> .error e
   | .ok b=> .ok (b,r+(p.CF - 49).toNat)
  else .error 5
theorem r6 {n:Int} (h:bX n=0):fR (cL n 3) (cL n 4) (cL n 5)=n:=by
 have h1:n % 8=0∧0≤n∧n≤63:=by
  unfold bX at h
  split at h
  ·cases h
  ·split at h
   ·cases h
   ·omega
 have h2:n=0∨n=8∨n=16∨n=24∨n=32∨n=40∨n=48∨n=56:=by omega
 rcases h2 with rfl | rfl | rfl | rfl | rfl | rfl | rfl | rfl <;> decide
theorem wm: ∀ a b c:Bool,cL (fR a b c) 3=a∧cL (fR a b c) 4=b∧cL (fR a b c) 5=c:=by decide
theorem zd {p:Pfx} {s:List UInt8} {b:Bat} (h:lN p s= .ok b) (h0:0≤p.CK):bX p.CJ=0∧ ∃ l,b=mkB p l∧s=bt cK l∧(l.length:Int)=p.CK∧(∀ x,x∈l→okRc x)∧chk b=0:=by
 unfold lN at h
 by_cases ha:bX p.CJ=0
 ·rw[if_pos ha] at h
  refine⟨ha,?_⟩
  cases hr:jz p.CK.toNat s 0 with
  | error e=>rw[hr] at h; exact nomatch h
  | ok x =>
   obtain⟨l,r⟩:=x
   rw[hr] at h
   dsimp only at h
   by_cases hl:r<s.length
   ·rw[if_pos hl] at h; exact nomatch h
   rw[if_neg hl] at h
   by_cases hc:chk (mkB p l)=0
   ·rw[if_pos hc] at h
    injection h with h
    subst h
    obtain⟨b1,b2,b3,b4,b5⟩:=kD _ s 0 l r (Du _) hr
    rw[List.take_of_length_le (by omega),List.take_zero,Db] at b3
    exact⟨l,rfl,b3,by omega,b5,hc⟩
   ·rw[if_neg hc] at h; exact nomatch h
 ·rw[if_neg ha] at h; exact nomatch h
theorem pB_mk {p:Pfx} {l:List Rec} (h1:(49:Int)+((bt cK l).length:Int)=p.CF) (h2:bX p.CJ=0) (h3:(l.length:Int)=p.CK) (s:Int):pB (mkB p l) s=⟨p.Cu,p.CF,p.Co,s,p.CJ,p.Cr,p.Cl,p.Cy,p.Ci,p.Cp,p.Ch,p.CK⟩:=by
 unfold pB mkB body
 dsimp only
 rw[h1,h3,r6 h2]
theorem s8:Sp nx dS okB:=by
 refine⟨fun s q b r hq h=> ?_,fun s t q a hq ha hd=> ?_⟩
 ·unfold nx at h
  cases hp:qw s q with
  | error e=>rw[hp] at h; exact nomatch h
  | ok x =>
   obtain⟨p,m⟩:=x
   rw[hp] at h
   dsimp only at h
   obtain⟨a1,a2,a3,a4,a5,a6,a7,a8⟩:=qx.spell s q p m hq hp
   by_cases hl:s.length<m+(p.CF - 49).toNat
   ·rw[if_pos hl] at h; exact nomatch h
   rw[if_neg hl] at h
   by_cases hs:((vv p ((s.drop m).take (p.CF - 49).toNat):Nat):Int)=p.CL
   ·rw[if_pos hs] at h
    cases ho:lN p ((s.drop m).take (p.CF - 49).toNat) with
    | error e=>rw[ho] at h; exact nomatch h
    | ok b' =>
     rw[ho] at h
     injection h with h
     obtain⟨rfl,rfl⟩:=Dv h
     obtain⟨k1,l,rfl,k3,k4,k5,k6⟩:=zd ho a8
     have hn:((s.drop m).take (p.CF - 49).toNat).length=(p.CF - 49).toNat:=by rw[Dt,C0]; omega
     have e1:(49:Int)+((bt cK l).length:Int)=p.CF:=by rw[← k3,hn]; omega
     have e2:((ke (mkB p l):Nat):Int)=p.CL:=by
      rw[← hs,k3]
      unfold ke
      rw[pB_mk e1 k1 k4]
      rfl
     have e3:pB (mkB p l) (ke (mkB p l))=p:=by rw[pB_mk e1 k1 k4,e2]
     have e4:dS (mkB p l)=jl p++(s.drop m).take (p.CF - 49).toNat:=by
      unfold dS
      rw[e3,k3]
      rfl
     have a9:=congrArg List.length a4
     refine⟨by omega,by omega,?_,?_,?_⟩
     ·rw[e4,CW,hn]; omega
     ·rw[e4,l7,a4,C2]
     ·refine⟨by rw[e3]; exact⟨a5,a6,a7,a8⟩,?_,k5,k6⟩
      show bX (fR (cL p.CJ 3) (cL p.CJ 4) (cL p.CJ 5))=0
      rw[r6 k1]
      exact k1
   ·rw[if_neg hs] at h; exact nomatch h
 ·obtain⟨h1,h2,h3,h4⟩:=ha
  unfold dS at hd
  rw[C2] at hd
  have hp:=qx.back s _ q _ hq h1 hd
  have hd2:=bZ hd
  have hl:=congrArg List.length hd
  rw[C0,CW,CW] at hl
  have hn:((pB a (ke a)).CF - 49).toNat=(body a).length:=by
   show ((49:Int)+((body a).length:Int) - 49).toNat= _
   omega
  have ht:(s.drop (q+(jl (pB a (ke a))).length)).take (body a).length=body a:=by rw[hd2,List.take_left]
  unfold nx
  rw[hp]
  dsimp only
  rw[hn,ht,if_neg (by omega),if_pos (show ((vv (pB a (ke a)) (body a):Nat):Int)=(pB a (ke a)).CL from rfl)]
  have hr:=rZ a.Ce (body a) [] 0 (Du _) h3 (by rw[List.drop_zero,DE]; rfl)
  have ho:lN (pB a (ke a)) (body a)= .ok a:=by
   unfold lN
   rw[if_pos (show bX (pB a (ke a)).CJ=0 from h2),show (pB a (ke a)).CK.toNat=a.Ce.length from rfl,hr]
   dsimp only
   obtain⟨b1,b2,b3⟩:=wm a.Cw a.CE a.Cq
   have e:mkB (pB a (ke a)) a.Ce=a:=by
    unfold mkB pB
    dsimp only
    rw[b1,b2,b3]
   rw[e,if_neg (by show ¬ 0+(body a).length < _; omega),if_pos h4]
  rw[ho]
  dsimp only
  unfold dS
  rw[CW,Nat.add_assoc]
def zBat:Bat:=⟨0,0,false,false,false,0,0,0,0,0,0,[]⟩
def bnR (r:Rec):Prop:=r.Cn.length≤1000000∧r.Cs.data.length≤1000000∧r.Cg.data.length≤1000000
def bnB (a:Bat):Prop:=sr a∧a.Ce.length≤1000000∧ ∀ r,r∈a.Ce→bnR r
theorem qI {α:Type} (enc:α→List UInt8): ∀ (l:List α) (x:α),x∈l→(enc x).length≤(bt enc l).length
 | y::l,x,h=>by
  rw[bt,CW]
  rcases List.mem_cons.1 h with rfl | h
  ·omega
  ·have:=qI enc l x h
   omega
theorem qJ {α:Type} (enc:α→List UInt8): ∀ (l:List α),(∀ x,x∈l→0<(enc x).length)→l.length≤(bt enc l).length
 | [],_=>Du _
 | y::l,h=>by
  rw[bt,CW,C5]
  have h1:=h y (.head _)
  have:=qJ enc l (fun x hx=>h x (.tail _ hx))
  omega
theorem xD (h:Hd):0<(dR h).length:=by
 unfold dR
 simp only[CW]
 have:=iN (aN (h.Cs.length:Int))
 omega
theorem vw {x:Rec} (h:rT x) (hl:(cK x).length≤1000000):uJ x∧bnR x:=by
 obtain⟨_,h2,h3⟩:=tZ h
 have e:(cK x).length=(bB (aN ((bO x).length:Int))).length+(bO x).length:=by unfold cK; rw[CW]
 have e2:(bO x).length≤1000000:=by omega
 simp only[bO,gF,kP,CW,aA] at e2
 have h4:=qJ dR x.Cn (fun y _=>xD y)
 have hS: ∀ d:List UInt8,d.length≤1000000→wS d:=fun d hd=>by unfold wS; omega
 refine⟨⟨h2,h3,⟨trivial,hS _ (by omega)⟩,⟨trivial,hS _ (by omega)⟩,by omega,fun y hy=> ?_⟩,by omega,by omega,by omega⟩
 have h5:=qI dR x.Cn y hy
 have h6:(dR y).length≤1000000:=by omega
 simp only[dR,CW] at h6
 exact⟨hS _ (by omega),trivial,hS _ (by omega)⟩
theorem s9 {a:Bat} (h:bnB a):cv a=some (chk a)∧bR a=some (chk a):=by
 obtain⟨cr,e0,h1,h2,_⟩:=qp a h.1 h.2.1 h.2.2
 have e:chk a=sS a cr e0:=by unfold chk; rw[h1]; rfl
 rw[e]
 exact⟨h1,h2⟩
theorem ue (n:Int):bu n 8=decide (-9223372036854775808≤n∧n≤9223372036854775807):=by
 rw[Bool.eq_iff_iff]
 unfold bu
 simp only[Bool.and_eq_true,decide_eq_true_eq]
 have:(2:Int) ^ (8*(8:Int).toNat - 1)=9223372036854775808:=by decide
 omega
theorem wI8 {n:Int} (h:bu n (8:Nat)=true):wI n:=by
 have h':bu n 8=true:=h
 rw[ue] at h'
 have h2:=of_decide_eq_true h'
 exact h2
theorem wI4 {n:Int} (h:bu n (4:Nat)=true): -2147483648≤n∧n≤2147483647:=by
 have h':bu n 4=true:=h
 rw[ik] at h'
 exact of_decide_eq_true h'
theorem wI2 {n:Int} (h:bu n (2:Nat)=true): -32768≤n∧n≤32767:=by
 have h':bu n 2=true:=h
 rw[qo] at h'
 exact of_decide_eq_true h'
theorem mT {p:Pfx} (hp:okP p) {l:List Rec} (hl: ∀ x,x∈l→okRc x) (hb:(bt cK l).length≤1000000):bnB (mkB p l):=by
 obtain⟨⟨k1,k2,k3,_,k5,k6,k7,k8,k9,k10,k11,k12,k13,_⟩,_,_,_⟩:=hp
 have w4: ∀ {n:Int},bu n (4:Nat)=true→wI n:=fun h=>by have:=wI4 h; unfold wI; omega
 have w2: ∀ {n:Int},bu n (2:Nat)=true→wI n:=fun h=>by have:=wI2 h; unfold wI; omega
 have hr: ∀ x,x∈l→uJ x∧bnR x:=fun x hx=>vw (hl x hx).1 (by have:=qI cK l x hx; omega)
 have h4:=qJ cK l (fun y _=>kC y)
 exact⟨⟨wI8 k1,w4 k3,trivial,trivial,trivial,w4 k7,wI8 k8,wI8 k9,wI8 k10,w2 k11,w4 k12,by show l.length≤ _; omega,fun x hx=>(hr x hx).1⟩,by show l.length≤ _; omega,fun x hx=>(hr x hx).2⟩
theorem uf (p:Pfx) (hc:p.CK≤2147483647) (s:List UInt8) (hs:s.length≤1000000) (y:Int): ∀ (n k fuel:Nat) (acc:List Rec) (q:Nat),((k+n:Nat):Int)=p.CK→n<fuel→q≤s.length→acc.length≤q →
 (∃ e,jz n s q= .error e∧e≠0∧cD p fuel y k acc ⟨s.drop q,q,0⟩=some (.ret (zBat,e)))∨(∃ l r,jz n s q= .ok (l,r)∧q≤r∧r≤s.length∧cD p fuel y k acc ⟨s.drop q,q,0⟩=some (.go (y,k+n,acc++l,⟨s.drop r,r,0⟩)))
 | 0,k,fuel+1,acc,q,hk,hf,hq,ha=> .inr ⟨[],q,rfl,Dy _,hq,by rw[cD,if_neg (by omega),DE,Nat.add_zero]⟩
 | n+1,k,fuel+1,acc,q,hk,hf,hq,ha=>by
  rw[cD,if_pos (by omega),m5,CS]
  dsimp only
  rw[C0,jz]
  by_cases hz:q=s.length
  ·rw[if_pos (by omega)]
   exact .inl ⟨10,Pr.bind_err (if_pos hz),by decide,rfl⟩
  rw[if_neg (by omega),Pr.bind_of (show ud s q= .ok ((),q) from if_neg hz)]
  rcases B_rec.run s q hs hq with⟨e,st,p1,g1,x1,y1⟩ | ⟨b,r,p1,g1,n1,l1⟩
  ·rw[g1,CS]
   dsimp only
   rw[bw,CS]
   dsimp only
   rw[if_neg y1]
   exact .inl ⟨e,Pr.bind_err p1,by rw[← x1]; exact y1,by rw[x1]; rfl⟩
  ·have h3:=(sX.spell s q b r hq p1).2.2.1
   have h4:=kC b
   rw[g1,CS]
   dsimp only
   rw[bw,CS]
   dsimp only
   rw[if_pos rfl,if_pos (by omega),if_pos (by omega),Pr.bind_of p1]
   rcases uf p hc s hs y n (k+1) fuel (acc ++ [b]) r (by omega) (by omega) l1 (by rw[CW,DV]; omega) with⟨e,q1,q2,q3⟩ | ⟨l,m,q1,q2,q3,q4⟩
   ·exact .inl ⟨e,Pr.bind_err q1,q2,q3⟩
   ·exact .inr ⟨b::l,m,by rw[Pr.bind_of q1]; rfl,by omega,q3,by rw[q4,C2,show k+1+n=k+(n+1) by omega]; rfl⟩
theorem bopen {p:Pfx} (hp:okP p) (s:List UInt8) (hs:s.length≤1000000):(∃ e x,lN p s= .error e∧e≠0∧fw p s=some (x,e))∨(∃ b,lN p s= .ok b∧fw p s=some (b,0)):=by
 obtain⟨k1,k2,k3,k4⟩:=id hp
 have ha:=wI2 k1.2.2.2.2.2.1
 have hc:=wI4 k1.2.2.2.2.2.2.2.2.2.2.2.2.1
 try dsimp only at ha
 unfold fw lN
 rw[ve _ (by omega),CS]
 by_cases h0:bX p.CJ=0
 rotate_left
 ·rw[if_neg h0,if_neg h0]
  exact .inl ⟨_,_,rfl,h0,rfl⟩
 rw[if_pos h0,if_pos h0,xo,CS]
 dsimp only
 rw[iC _ (by omega),CS]
 rcases uf p hc.2 s hs 0 p.CK.toNat 0 (p.CK.toNat+1) [] 0 (by omega) (by omega) (Du _) (Du _) with⟨e,q1,q2,q3⟩ | ⟨l,m,q1,q2,q3,q4⟩
 ·rw[List.drop_zero] at q3
  rw[q3,q1]
  exact .inl ⟨e,_,rfl,q2,rfl⟩
 ·rw[List.drop_zero] at q4
  obtain⟨b1,b2,b3,b4,b5⟩:=kD _ s 0 l m (Du _) q1
  rw[q4,q1,CS]
  dsimp only
  rw[m5,CS]
  dsimp only
  rw[C0]
  by_cases hl:m<s.length
  ·rw[if_pos hl,if_pos (show ((s.length - m:Nat):Int)>0 by omega)]
   exact .inl ⟨_,_,rfl,by decide,rfl⟩
  ·rw[if_neg hl,if_neg (show ¬ ((s.length - m:Nat):Int)>0 by omega)]
   rw[List.take_of_length_le (by omega),List.take_zero,Db] at b3
   have hB:=mT hp b5 (by rw[← b3]; exact hs)
   have e:cv (⟨p.Cu,p.Co,cL p.CJ 3,cL p.CJ 4,cL p.CJ 5,p.Cr,p.Cl,p.Cy,p.Ci,p.Cp,p.Ch,[]++l⟩:Bat)=some (chk (mkB p l)):=(s9 hB).1
   rw[e,CS]
   by_cases hk:chk (mkB p l)=0
   ·rw[if_pos hk,hk]
    exact .inr ⟨_,rfl,rfl⟩
   ·rw[if_neg hk]
    exact .inl ⟨_,_,rfl,hk,rfl⟩
theorem B_bat:CB fx nx zBat:=by
 refine⟨fun st h=> ?_,fun s q hs hq=> ?_⟩
 ·unfold fx
  rw[B_pfx.dead st h,CS]
  dsimp only
  rw[if_pos (by decide),pY _ _ (by decide),CS]
  dsimp only
  have e:bG st ((0:Int) - 49)=([],st):=if_pos h
  rw[show zP.CF=(0:Int) from rfl,e,bw,CS]
  dsimp only
  rw[if_neg h]
  rfl
 ·unfold fx nx
  rcases B_pfx.run s q hs hq with⟨e,st,p1,g1,x1,y1⟩ | ⟨p,r,p1,g1,n1,l1⟩
  ·refine .inl ⟨e,st,by rw[p1],?_,x1,y1⟩
   rw[g1,CS]
   dsimp only
   rw[if_pos (by decide),pY _ _ (by decide),CS]
   dsimp only
   have e:bG st ((0:Int) - 49)=([],st):=if_pos y1
   rw[show zP.CF=(0:Int) from rfl,e,bw,CS]
   dsimp only
   rw[if_neg y1]
   rfl
  ·obtain⟨a1,a2,a3,a4,ap⟩:=qx.spell s q p r hq p1
   obtain⟨k1,k2,k3,k4⟩:=id ap
   have hL:=wI4 k1.2.1
   try dsimp only at hL
   have hT: -9223372036854775808≤p.CF - 49∧p.CF - 49≤9223372036854775807:=by omega
   rw[g1,CS,p1]
   dsimp only
   rw[if_pos hT,pY _ _ hT,CS]
   dsimp only
   by_cases hl:s.length<r+(p.CF - 49).toNat
   ·have e:bG ⟨s.drop r,r,0⟩ (p.CF - 49)=([],⟨s.drop r,r,1⟩):=by
     unfold bG
     rw[if_neg (by simp),if_neg (by omega),if_pos (by rw[C0]; omega)]
    rw[if_pos hl,e,bw,CS]
    exact .inl ⟨1,⟨s.drop r,r,1⟩,rfl,rfl,rfl,by show (1:Int)≠0; decide⟩
   have e:bG ⟨s.drop r,r,0⟩ (p.CF - 49)=((s.drop r).take (p.CF - 49).toNat,⟨s.drop (r+(p.CF - 49).toNat),r+(p.CF - 49).toNat,0⟩):=by
    unfold bG
    rw[if_neg (by simp),if_neg (by omega),if_neg (by rw[C0]; omega),Dq]
   rw[if_neg hl,e,bw,CS]
   dsimp only
   have hn:((s.drop r).take (p.CF - 49).toNat).length=(p.CF - 49).toNat:=by rw[Dt,C0]; omega
   generalize (s.drop r).take (p.CF - 49).toNat=b at hn
   have hlen:(jl p).length=61:=lL k1
   rw[if_pos rfl,yF [] ⟨k1,k2⟩ (by decide),CS,Db,wZ,CS]
   dsimp only
   rw[otx_z,z9,CS]
   dsimp only
   rw[if_pos (show 21≤(jl p).length by omega)]
   have hp21:(dU p).length≤61:=by rw[← kd p,C0]; omega
   have hs2 : [dU p,b].flatten=dU p++b:=by simp
   rw[kd,Aa [dU p,b] (by intro t ht; rcases List.mem_cons.1 ht with rfl | ht; omega; rw[List.mem_singleton.1 ht]; omega),CS,hs2]
   dsimp only
   have hlt:jL 0 (dU p++b)<4294967296:=pN (by decide) _
   rw[if_pos (show -9223372036854775808≤((jL 0 (dU p++b):Nat):Int)∧((jL 0 (dU p++b):Nat):Int)≤9223372036854775807 by omega)]
   by_cases hsum:((vv p b:Nat):Int)=p.CL
   rotate_left
   ·rw[if_neg hsum,if_neg (show ¬ ((jL 0 (dU p++b):Nat):Int)=p.CL from hsum),dV,CS]
    exact .inl ⟨5,_,rfl,rfl,rfl,by show (5:Int)≠0; decide⟩
   rw[if_pos hsum,if_pos (show ((jL 0 (dU p++b):Nat):Int)=p.CL from hsum)]
   rcases bopen ap b (by omega) with⟨e,x,o1,o2,o3⟩ | ⟨x,o1,o3⟩
   ·rw[o1,o3,CS]
    dsimp only
    rw[if_neg o2,dV,CS]
    exact .inl ⟨e,_,rfl,rfl,rfl,o2⟩
   ·rw[o1,o3,CS]
    dsimp only
    rw[if_pos rfl]
    exact .inr ⟨x,_,rfl,rfl,by omega,by omega⟩
theorem lO: ∀ {l:List Rec},dT l=0→ ∀ r,r∈l→gj r=0
 | x::l,h,r,hr=>by
  rw[dT] at h
  by_cases hx:gj x=0
  ·rw[if_pos hx] at h
   rcases List.mem_cons.1 hr with rfl | hr
   ·exact hx
   ·exact lO h r hr
  ·rw[if_neg hx] at h
   exact absurd h hx
theorem r7 {a:Bat} (h:bnB a) (h0:chk a=0):hU a∧fD a∧(a.Cq=true→a.CE=true∧(a.Ce.length:Int)=1)∧ ∀ r,r∈a.Ce→gj r=0:=by
 obtain⟨cr,e0,h1,h2,h3,h4⟩:=qp a h.1 h.2.1 h.2.2
 have e:chk a=sS a cr e0:=by unfold chk; rw[h1]; rfl
 rw[e] at h0
 unfold sS at h0
 by_cases hn:hU a
 rotate_left
 ·rw[if_neg hn] at h0; exact absurd h0 (by decide)
 rw[if_pos hn] at h0
 by_cases hc:a.Cq=true
 ·rw[if_pos hc] at h0
  by_cases ht:a.CE=true
  rotate_left
  ·rw[if_neg ht] at h0; exact absurd h0 (by decide)
  rw[if_pos ht] at h0
  by_cases hp:fD a
  rotate_left
  ·rw[if_neg hp] at h0; exact absurd h0 (by decide)
  rw[if_pos hp] at h0
  by_cases hl:(a.Ce.length:Int)=1
  rotate_left
  ·rw[if_neg hl] at h0; exact absurd h0 (by decide)
  rw[if_pos hl] at h0
  by_cases hf:dT a.Ce=0
  rotate_left
  ·rw[if_neg hf] at h0; exact absurd h0 hf
  exact⟨hn,hp,fun _=>⟨ht,hl⟩,lO hf⟩
 ·rw[if_neg hc] at h0
  by_cases hp:fD a
  rotate_left
  ·rw[if_neg hp] at h0; exact absurd h0 (by decide)
  rw[if_pos hp] at h0
  by_cases hf:dT a.Ce=0
  rotate_left
  ·rw[if_neg hf] at h0; exact absurd h0 hf
  exact⟨hn,hp,fun h=>absurd h hc,lO hf⟩
theorem r8: ∀ a t c:Bool,0≤fR a t c∧fR a t c≤56:=by decide
theorem wn {n:Int} (h:wI n):bu n (8:Nat)=true:=by
 show bu n 8=true
 rw[ue]
 exact CN h
theorem r9 {n:Int} (h: -2147483648≤n∧n≤2147483647):bu n (4:Nat)=true:=by
 show bu n 4=true
 rw[ik]
 exact CN h
theorem fits2 {n:Int} (h: -32768≤n∧n≤32767):bu n (2:Nat)=true:=by
 show bu n 2=true
 rw[qo]
 exact CN h
def smB (a:Bat):Prop:=bnB a∧(∀ r,r∈a.Ce→rwt r≤900000)∧(body a).length≤900000
theorem ze {a:Bat} (h:fD a):(-32768≤a.Cp∧a.Cp≤32767)∧(-2147483648≤a.Ch∧a.Ch≤2147483647):=by
 unfold fD at h
 split at h
 ·omega
 ·split at h <;> omega
theorem zf {a:Bat} (hb:smB a) (h0:chk a=0) (s:Nat) (hs:s<4294967296):okP (pB a s):=by
 obtain⟨hn,hp,hc,hr⟩:=r7 hb.1 h0
 obtain⟨n1,n2,n3,n4,n5,n6⟩:=hn
 obtain⟨w1,w2,_,_,_,w6,w7,w8,w9,w10,w11,w12⟩:=hb.1.1
 obtain⟨p1,p2⟩:=ze hp
 have hl:=hb.2.2
 have hcount:=hb.1.2.1
 have ha:=r8 a.Cw a.CE a.Cq
 have hs2: -2147483648≤s32 (s:Int)∧s32 (s:Int)≤2147483647:=by unfold s32; split <;> omega
 refine⟨⟨wn w1,r9 ⟨?_,?_⟩,r9 ⟨?_,?_⟩,rfl,r9 hs2,fits2 ⟨?_,?_⟩,r9 ⟨?_,?_⟩,wn w7,wn w8,wn w9,fits2 p1,r9 p2,r9 ⟨?_,?_⟩,trivial⟩,⟨?_,?_⟩,?_,?_⟩
 all_goals (try unfold pB) <;> (try dsimp only) <;> omega
theorem Ac (a:Bat):ke a<4294967296:=pN (by decide) _
theorem oh {a:Bat} (h:okB a):(dS a).length=61+(body a).length:=by
 unfold dS
 rw[CW,lL h.1.1]
theorem Ad (a:Bat):dK a=some (fR a.Cw a.CE a.Cq):=by
 unfold dK
 generalize a.Cw=x
 generalize a.CE=y
 generalize a.Cq=z
 cases x <;> cases y <;> cases z <;> decide
theorem wo (a:Bat) (hb:a.Ce.length≤1000000): ∀ (l:List Rec) (t:List UInt8) (k fuel:Nat),a.Ce.drop k=l→l.length<fuel→(∀ x,x∈l→wI x.CC∧wI x.Cv∧rwt x≤900000)→t.length+(bt cK l).length≤1000000→ ∃ z,cX a fuel t k=some (t++bt cK l,z)
 | [],t,k,fuel+1,h,hf,_,_=>by
  have:=bL h
  exact⟨k,by rw[cX,if_neg (by omega),bt,DE]⟩
 | x::l,t,k,fuel+1,h,hf,hw,hl=>by
  obtain⟨g1,g2,g3⟩:=bl h
  obtain⟨h1,h2,h3⟩:=hw x (.head _)
  rw[bt,CW] at hl
  rw[C5] at hf
  obtain⟨z,hz⟩:=wo a hb l (t++cK x) (k+1) fuel g2 (by omega) (fun y hy=>hw y (.tail _ hy)) (by rw[CW]; omega)
  exact⟨z,by rw[cX,if_pos (by omega),g1,CS,xy x h1 h2 h3,CS,if_pos (by omega),if_pos (by omega),hz,bt,C2]⟩
theorem r11enc {a:Bat} (hb:smB a) (h0:chk a=0):gp a=some (dS a):=by
 obtain⟨hn,hp,hc,hr⟩:=r7 hb.1 h0
 have hl:=hb.2.2
 have hlb:(bt cK a.Ce).length≤900000:=hl
 have hw: ∀ x,x∈a.Ce→wI x.CC∧wI x.Cv∧rwt x≤900000:=fun x hx=>⟨(hb.1.1.2.2.2.2.2.2.2.2.2.2.2.2 x hx).1,(hb.1.1.2.2.2.2.2.2.2.2.2.2.2.2 x hx).2.1,hb.2.1 x hx⟩
 obtain⟨z,hz⟩:=wo a hb.1.2.1 a.Ce [] 0 (((a.Ce.length:Int)).toNat+1) rfl (by omega) hw (by rw[D3]; omega)
 rw[Db] at hz
 have hN: -9223372036854775808≤(49+((bt cK a.Ce).length:Int))∧(49+((bt cK a.Ce).length:Int))≤9223372036854775807:=by omega
 have wP_of: ∀ s:Nat,s<4294967296→wP (pB a s):=fun s hs=>by
  obtain⟨w1,w2,_,_,_,w6,w7,w8,w9,w10,w11,w12⟩:=hb.1.1
  have ha:=r8 a.Cw a.CE a.Cq
  have hcount:=hb.1.2.1
  refine⟨w1,⟨?_,?_⟩,w2,⟨?_,?_⟩,⟨?_,?_⟩,w6,w7,w8,w9,w10,w11,⟨?_,?_⟩⟩
  all_goals (try unfold pB) <;> (try dsimp only) <;> (try unfold body) <;> omega
 have hP0:okP (pB a 0):=zf hb h0 0 (by decide)
 have hlt:=Ac a
 have hP:=zf hb h0 _ hlt
 have b0:=rO (pB a 0) (wP_of 0 (by decide))
 rw[if_pos ⟨hP0.1,hP0.2.1⟩] at b0
 have b1:=rO (pB a (ke a)) (wP_of _ hlt)
 rw[if_pos ⟨hP.1,hP.2.1⟩] at b1
 have b0':ey [a.Cu,(49+((bt cK a.Ce).length:Int)),a.Co,0,fR a.Cw a.CE a.Cq,a.Cr,a.Cl,a.Cy,a.Ci,a.Cp,a.Ch,(a.Ce.length:Int)]=some (jl (pB a 0),true):=b0
 have b1':ey [a.Cu,(49+((bt cK a.Ce).length:Int)),a.Co,((ke a:Nat):Int),fR a.Cw a.CE a.Cq,a.Cr,a.Cl,a.Cy,a.Ci,a.Cp,a.Ch,(a.Ce.length:Int)]=some (jl (pB a (ke a)),true):=b1
 have hp61:=lL hP0.1
 have hp61':=lL hP.1
 have hp21:(dU (pB a 0)).length≤61:=by rw[← kd,C0]; omega
 have hsum:jL 0 (dU (pB a 0)++bt cK a.Ce)=ke a:=rfl
 unfold gp
 rw[hz,CS]
 dsimp only
 rw[if_pos hN,Ad,CS,b0',CS]
 dsimp only
 rw[if_pos (show 21≤(jl (pB a 0)).length by omega),kd,if_pos (by omega),wj _ (by rw[CW]; omega),CS,hsum,if_pos (show -9223372036854775808≤((ke a:Nat):Int)∧((ke a:Nat):Int)≤9223372036854775807 by omega),if_pos hN,CS,b1',CS]
 dsimp only
 rw[if_pos (by omega)]
 rfl
def mU:List Rec→List Rec→Bool
 | x::l,y::m=>rW x y && mU l m
 | _,_=>true
def qK (a b:Bat):Bool:=decide (a.Cu=b.Cu∧a.Co=b.Co∧a.Cw=b.Cw∧a.CE=b.CE∧a.Cq=b.Cq∧a.Cr=b.Cr∧a.Cl=b.Cl∧a.Cy=b.Cy∧a.Ci=b.Ci∧a.Cp=b.Cp∧a.Ch=b.Ch∧a.Ce.length=b.Ce.length) && mU a.Ce b.Ce
theorem o5: ∀ l:List Rec,mU l l=true
 | []=>rfl
 | x::l=>by rw[mU,vq,o5 l]; rfl
theorem vx (a:Bat):qK a a=true:=by
 unfold qK
 rw[o5]
 simp
theorem wq (a b:Bat) (hn:a.Ce.length≤1000000) (y:Bool): ∀ (l m:List Rec) (k fuel:Nat),a.Ce.drop k=l→b.Ce.drop k=m→l.length=m.length→l.length<fuel→(∀ x,x∈l→x.Cn.length≤1000000)→ ∃ z,dC a b fuel y k=some (if mU l m=true then .go (y,z) else .ret false)
 | [],m,k,fuel+1,h1,h2,hl,hf,_=>by
  have:=bL h1
  exact⟨k,by rw[dC,if_neg (by omega)]; rfl⟩
 | x::l,v::m,k,fuel+1,h1,h2,hl,hf,hw=>by
  obtain⟨g1,g2,g3⟩:=bl h1
  obtain⟨k1,k2,k3⟩:=bl h2
  rw[C5] at hf
  rw[C5,C5] at hl
  obtain⟨z,hz⟩:=wq a b hn y l m (k+1) fuel g2 k2 (by omega) (by omega) (fun u hu=>hw u (.tail _ hu))
  refine⟨z,?_⟩
  rw[dC,if_pos (by omega),g1,CS,k1,CS,yN x v (hw x (.head _)),CS,mU,if_pos (show -9223372036854775808≤(k:Int)+1∧(k:Int)+1≤9223372036854775807 by omega),hz]
  cases rW x v <;> rfl
theorem zg {a b:Bat} (hn:a.Ce.length≤1000000) (hw: ∀ x,x∈a.Ce→x.Cn.length≤1000000):jc a b=some (qK a b):=by
 have hL: ∀ o:Option Bool,o=some (qK a b)∨True:=fun _=> .inr trivial
 unfold jc qK
 by_cases c1:a.Cu=b.Cu
 rotate_left
 ·rw[if_neg c1,CS,if_pos rfl,CO (fun h=>c1 h.1)]; rfl
 by_cases c2:a.Co=b.Co
 rotate_left
 ·rw[if_pos c1,if_neg c2,CS,if_pos rfl,CO (fun h=>c2 h.2.1)]; rfl
 by_cases c3:a.Cw=b.Cw
 rotate_left
 ·rw[if_pos c1,if_pos c2,if_neg (by simpa using c3),CS,if_pos rfl,CO (fun h=>c3 h.2.2.1)]; rfl
 by_cases c4:a.CE=b.CE
 rotate_left
 ·rw[if_pos c1,if_pos c2,if_pos (by simpa using c3),if_neg (by simpa using c4),CS,if_pos rfl,CO (fun h=>c4 h.2.2.2.1)]; rfl
 by_cases c5:a.Cq=b.Cq
 rotate_left
 ·rw[if_pos c1,if_pos c2,if_pos (by simpa using c3),if_pos (by simpa using c4),if_neg (by simpa using c5),CS,if_pos rfl,CO (fun h=>c5 h.2.2.2.2.1)]; rfl
 rw[if_pos c1,if_pos c2,if_pos (by simpa using c3),if_pos (by simpa using c4),if_pos (by simpa using c5)]
 by_cases c6:a.Cr=b.Cr
 rotate_left
 ·rw[if_neg c6,CS,if_pos rfl,CO (fun h=>c6 h.2.2.2.2.2.1)]; rfl
 by_cases c7:a.Cl=b.Cl
 rotate_left
 ·rw[if_pos c6,if_neg c7,CS,if_pos rfl,CO (fun h=>c7 h.2.2.2.2.2.2.1)]; rfl
 by_cases c8:a.Cy=b.Cy
 rotate_left
 ·rw[if_pos c6,if_pos c7,if_neg c8,CS,if_pos rfl,CO (fun h=>c8 h.2.2.2.2.2.2.2.1)]; rfl
 by_cases c9:a.Ci=b.Ci
 rotate_left
 ·rw[if_pos c6,if_pos c7,if_pos c8,if_neg c9,CS,if_pos rfl,CO (fun h=>c9 h.2.2.2.2.2.2.2.2.1)]; rfl
 by_cases c10:a.Cp=b.Cp
 rotate_left
 ·rw[if_pos c6,if_pos c7,if_pos c8,if_pos c9,if_neg c10,CS,if_pos rfl,CO (fun h=>c10 h.2.2.2.2.2.2.2.2.2.1)]; rfl
 by_cases c11:a.Ch=b.Ch
 rotate_left
 ·rw[if_pos c6,if_pos c7,if_pos c8,if_pos c9,if_pos c10,if_neg c11,CS,if_pos rfl,CO (fun h=>c11 h.2.2.2.2.2.2.2.2.2.2.1)]; rfl
 by_cases c12:a.Ce.length=b.Ce.length
 rotate_left
 ·rw[if_pos c6,if_pos c7,if_pos c8,if_pos c9,if_pos c10,if_pos c11,if_neg (by omega),CS,if_pos rfl,CO (fun h=>c12 h.2.2.2.2.2.2.2.2.2.2.2)]; rfl
 obtain⟨z,hz⟩:=wq a b hn false a.Ce b.Ce 0 (((a.Ce.length:Int)).toNat+1) rfl rfl c12 (by omega) hw
 rw[if_pos c6,if_pos c7,if_pos c8,if_pos c9,if_pos c10,if_pos c11,if_pos (by omega),CS,if_neg (by decide),hz,CN ⟨c1,c2,c3,c4,c5,c6,c7,c8,c9,c10,c11,c12⟩,Bool.true_and]
 cases mU a.Ce b.Ce <;> rfl
theorem zh (a:Bat) (s:Int):mkB (pB a s) a.Ce=a:=by
 obtain⟨b1,b2,b3⟩:=wm a.Cw a.CE a.Cq
 unfold mkB pB
 dsimp only
 rw[b1,b2,b3]
theorem qL {b:Bat} (h:okB b) (hl:(dS b).length≤1000000):bnB b:=by
 have h1:=mT h.1 h.2.2.1 (by have:=oh h; unfold body at this; omega)
 rwa [zh] at h1
end Go.Proofs.YtcoppaggpbfcmaaGreat.Sl
