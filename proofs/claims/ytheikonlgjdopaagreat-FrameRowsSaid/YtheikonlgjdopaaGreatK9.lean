/- frameRows_holds: part 9. -/
import Derived.Test.YtheikonlgjdopaaGreatK8
set_option maxRecDepth 100000
set_option maxHeartbeats 4000000
set_option linter.defProp false
namespace Go.Proofs.YtheikonlgjdopaaGreat.Sl
open Go.RowKit
set_option linter.unusedVariables false
set_option linter.unusedSimpArgs false
theorem dJ {α:Type} {l:List α} {k:Nat} {x:α} {t:List α} (h:l.drop k=x::t):l[k]? = some x∧l.drop (k+1)=t∧l.length=k+1+t.length:=by
 have hl:=congrArg List.length h
 rw[J7,J0] at hl
 refine⟨?_,?_,by omega⟩
 ·have:=congrArg (fun z=>z[0]?) h
  simpa using this
 ·rw[← KQ,h]
  rfl
theorem fK {α:Type} {l:List α} {k:Nat} (h:l.drop k = []):l.length≤k:=List.drop_eq_nil_iff.1 h
def up {α:Type} (lt:α→α→Bool):Option α→List α→Bool
 | _,[]=>true
 | none,x::t=>up lt (some x) t
 | some p,x::t=>lt p x && up lt (some x) t
def ltI (a b:Int):Bool:=decide (a<b)
theorem wC (a0:List Int) (hb:a0.length≤140737488355328): ∀ (t:List Int) (p:Int) (k fuel:Nat) (y:Bool),a0.drop k=p::t→t.length<fuel→ ∃ z,cC a0 fuel y ((k:Int)+1)=some (if up ltI (some p) t=true then .go (y,z) else .ret false)
 | [],p,k,fuel+1,y,h,hf=>by
  obtain⟨h1,h2,h3⟩:=dJ h
  refine⟨(k:Int)+1,?_⟩
  rw[cC,if_neg (by simp only[K6] at h3; omega)]
  rfl
 | x::t,p,k,fuel+1,y,h,hf=>by
  obtain⟨h1,h2,h3⟩:=dJ h
  obtain⟨g1,g2,g3⟩:=dJ h2
  rw[J0] at hf h3
  obtain⟨z,hz⟩:=wC a0 hb t x (k+1) fuel y h2 (by omega)
  rw[cC,if_pos (by omega),if_pos (by omega),if_pos (by omega),show ((k:Int)+1 - 1).toNat=k by omega,h1]
  rw[JR]
  rw[if_pos (by omega),show ((k:Int)+1).toNat=k+1 by omega,g1]
  rw[JR]
  by_cases hc:p<x
  ·rw[if_neg (by omega),if_pos (by omega)]
   refine⟨z,?_⟩
   rw[show ((k:Int)+1+1)=((k+1:Nat):Int)+1 by omega,hz]
   simp only[up,ltI,hc,decide_true,Bool.true_and]
  ·rw[if_pos (by omega)]
   refine⟨0,?_⟩
   simp only[up,ltI,hc,decide_false,Bool.false_and,Bool.false_eq_true,if_false]
theorem F5 (a0:List Int) (hb:a0.length≤140737488355328):fE a0=some (up ltI none a0):=by
 unfold fE
 cases a0 with
 | nil=>rfl
 | cons x t =>
  obtain⟨z,hz⟩:=wC (x::t) hb t x 0 ((((x::t).length:Int) - 1).toNat+1) false rfl (by simp only[J0]; omega)
  rw[show (((0:Nat):Int)+1)=1 from rfl] at hz
  rw[hz]
  simp only[up]
  cases up ltI (some x) t <;> rfl
theorem wD (a0:List (List UInt8)) (hb:a0.length≤140737488355328): ∀ (t:List (List UInt8)) (p:List UInt8) (k fuel:Nat) (y:Bool),a0.drop k=p::t→t.length<fuel→ ∃ z,bW a0 fuel y ((k:Int)+1)=some (if up Op.bytesLess (some p) t=true then .go (y,z) else .ret false)
 | [],p,k,fuel+1,y,h,hf=>by
  obtain⟨h1,h2,h3⟩:=dJ h
  refine⟨(k:Int)+1,?_⟩
  rw[bW,if_neg (by simp only[K6] at h3; omega)]
  rfl
 | x::t,p,k,fuel+1,y,h,hf=>by
  obtain⟨h1,h2,h3⟩:=dJ h
  obtain⟨g1,g2,g3⟩:=dJ h2
  rw[J0] at hf h3
  obtain⟨z,hz⟩:=wD a0 hb t x (k+1) fuel y h2 (by omega)
  rw[bW,if_pos (by omega),if_pos (by omega),if_pos (by omega),show ((k:Int)+1 - 1).toNat=k by omega,h1]
  simp only[JR]
  rw[if_pos (by omega),show ((k:Int)+1).toNat=k+1 by omega,g1]
  simp only[JR]
  by_cases hc:Op.bytesLess p x=true
  ·rw[if_pos hc,if_pos (by omega)]
   refine⟨z,?_⟩
   rw[show ((k:Int)+1+1)=((k+1:Nat):Int)+1 by omega,hz]
   simp only[up,hc,Bool.true_and]
  ·rw[if_neg hc]
   refine⟨0,?_⟩
   simp only[up,hc,Bool.false_and,Bool.false_eq_true,if_false]
theorem F6 (a0:List (List UInt8)) (hb:a0.length≤140737488355328):eG a0=some (up Op.bytesLess none a0):=by
 unfold eG
 cases a0 with
 | nil=>rfl
 | cons x t =>
  obtain⟨z,hz⟩:=wD (x::t) hb t x 0 ((((x::t).length:Int) - 1).toNat+1) false rfl (by simp only[J0]; omega)
  rw[show (((0:Nat):Int)+1)=1 from rfl] at hz
  rw[hz]
  simp only[up]
  cases up Op.bytesLess (some x) t <;> rfl
def okn (n:Int):Bool:=decide (0≤n) && decide (n≤2147483647)
def uT (l:List Int):Bool:=l.all okn && up ltI none l && !l.isEmpty
def ko (t:Top):Bool:= !t.Jd.isEmpty && decide (t.Jd.length≤32767) && uT t.I7
def nb (l:List Top):Bool:=l.all ko && up Op.bytesLess none (l.map (·.Jd))
theorem uU (y:Bool): ∀ l:List Int,(∀ n,n∈l→wI n)→es l y=some (if l.all okn=true then .go y else .ret false)
 | [],h=>rfl
 | n::l,h=>by
  have hn:=h n (.head _)
  rw[es,fx _ _ hn,eo,List.all_cons]
  by_cases h1:n<0
  ·have:okn n=false:=by unfold okn; simp; omega
   rw[if_pos h1,this]
   rfl
  ·rw[if_neg h1,JR]
   by_cases h2:n≤2147483647
   ·have:okn n=true:=by unfold okn; simp; omega
    rw[if_pos (by simp; omega),uU y l (fun m hm=>h m (.tail _ hm)),this,Bool.true_and]
   ·have:okn n=false:=by unfold okn; simp; omega
    rw[if_neg (by simp; omega),this]
    rfl
theorem Eo (l:List Int) (hw:wL wI l):iA l=some (uT l):=by
 unfold iA uT
 rw[uU false l hw.2]
 cases hall:l.all okn with
 | false=>rfl
 | true =>
  simp only[if_true,JR,Bool.true_and]
  cases l with
  | nil=>rfl
  | cons x t =>
   rw[if_pos (by simp only[J0]; omega),F5 _ (by have:=hw.1; omega)]
   simp
theorem qU (y:Bool): ∀ (l:List Top) (acc:List (List UInt8)),(∀ t,t∈l→mY t)→acc.length+l.length≤1000000→di l y acc=some (if l.all ko=true then .go (y,acc++l.map (·.Jd)) else .ret false)
 | [],acc,h,hl=>by simp[di]
 | t::l,acc,h,hl=>by
  have ht:=h t (.head _)
  rw[J0] at hl
  rw[di,Eo _ ht.2,List.all_cons]
  by_cases h1:t.Jd = []
  ·have:ko t=false:=by simp[ko,h1]
   rw[if_pos h1,this]
   rfl
  ·rw[if_neg h1]
   by_cases h2:(t.Jd.length:Int)>32767
   ·have:ko t=false:=by simp[ko,show ¬ t.Jd.length≤32767 by omega]
    rw[if_pos h2,this]
    rfl
   ·rw[if_neg h2,JR]
    have hne:t.Jd.isEmpty=false:=by cases hh:t.Jd with | nil=>exact absurd hh h1 | cons c u=>rfl
    have ho:ko t=uT t.I7:=by simp[ko,hne,show t.Jd.length≤32767 by omega]
    rw[ho]
    cases hp:uT t.I7 with
    | false=>rfl
    | true =>
     rw[if_pos rfl,if_pos (by omega),qU y l _ (fun u hu=>h u (.tail _ hu)) (by rw[JU]; simp only[J0,K6]; omega),Bool.true_and,List.map_cons,JY]
     rfl
theorem AQ (l:List Top) (hw: ∀ t,t∈l→mY t) (hl:l.length≤1000000):eH l=some (nb l):=by
 unfold eH nb
 rw[qU false l [] hw (by simpa using hl)]
 cases hall:l.all ko with
 | false=>rfl
 | true =>
  simp only[if_true,JR,Bool.true_and,Kc]
  rw[F6 _ (by rw[Kl]; omega)]
  rfl
theorem wE (a b:List UInt8) (ha:a.length≤1000000) (y:Bool): ∀ (u v:List UInt8) (k fuel:Nat),a.drop k=u→b.drop k=v→v.length<fuel→k≤a.length→k≤b.length→(∃ r,ci a b fuel y k=some (.ret r)∧r=Op.bytesLess u v)∨(∃ z,ci a b fuel y k=some (.go z)∧Op.bytesLess u v=decide (a.length<b.length))
 | [],v,k,fuel+1,hu,hv,hf,h1,h2=>by
  have:=fK hu
  right
  refine⟨(y,k),by rw[ci,if_neg (by omega)],?_⟩
  cases v with
  | nil =>
   have:=fK hv
   simp[Op.bytesLess]
   omega
  | cons c v =>
   have:=(dJ hv).2.2
   simp[Op.bytesLess]
   omega
 | c::u,[],k,fuel+1,hu,hv,hf,h1,h2=>by
  have g1:=fK hv
  have g2:=(dJ hu).2.2
  right
  refine⟨(y,k),by rw[ci,if_pos (by omega),if_neg (by omega)],?_⟩
  simp[Op.bytesLess]
  omega
 | c::u,d::v,k,fuel+1,hu,hv,hf,h1,h2=>by
  obtain⟨u1,u2,u3⟩:=dJ hu
  obtain⟨v1,v2,v3⟩:=dJ hv
  rw[J0] at hf
  rw[ci,if_pos (by omega),if_pos (by omega),u1,v1]
  simp only[JR]
  by_cases hc:(c.toNat:Int)=(d.toNat:Int)
  ·have hcd:c=d:=UInt8.toNat_inj.1 (by omega)
   rw[if_pos hc,if_pos (by omega)]
   have:=wE a b ha y u v (k+1) fuel u2 v2 (by omega) (by omega) (by omega)
   have hb:Op.bytesLess (c::u) (d::v)=Op.bytesLess u v:=by
    rw[hcd]
    simp[Op.bytesLess]
   rw[hb]
   exact this
  ·rw[if_neg hc]
   left
   have hcd:c≠d:=fun h=>hc (by rw[h])
   by_cases hl:(c.toNat:Int)<(d.toNat:Int)
   ·refine⟨true,by rw[if_pos hl],?_⟩
    have:c<d:=UInt8.lt_iff_toNat_lt.2 (by omega)
    simp[Op.bytesLess,this]
   ·refine⟨false,by rw[if_neg hl],?_⟩
    have: ¬ c<d:=fun h=>hl (by have:=UInt8.lt_iff_toNat_lt.1 h; omega)
    simp[Op.bytesLess,this,hcd]
theorem F7 (a b:List UInt8) (ha:a.length≤1000000):gW a b=some (Op.bytesLess a b):=by
 unfold gW
 rcases wE a b ha false a b 0 (((b.length:Int)).toNat+1) rfl rfl (by omega) (Ko _) (Ko _) with⟨r,h1,h2⟩ | ⟨z,h1,h2⟩
 ·rw[show ((0:Nat))=0 from rfl] at h1
  rw[h1,h2]
  rfl
 ·rw[h1,h2]
  simp only[JR]
  by_cases h:a.length<b.length
  ·rw[if_pos (by omega)]
   simp[h]
  ·rw[if_neg (by omega)]
   simp[h]
theorem xL (x:Top): ∀ (fuel:Nat) (y:Bool) (k:Nat),eA x fuel y k=cj x fuel y k
 | 0,y,k=>rfl
 | fuel+1,y,k=>by
  rw[eA,cj]
  simp only[xL x fuel]
theorem BT (x:Top) (hb:x.I7.length≤1000000) (y:Bool): ∀ (t:List Int) (p:Option Int) (k fuel:Nat),x.I7.drop k=t→t.length<fuel→(k=0→p=none)→(0<k→x.I7[k - 1]? = p∧p≠none)→ ∃ z,cj x fuel y k=some (if (t.all okn && up ltI p t)=true then .go (y,z) else .ret false)
 | [],p,k,fuel+1,h,hf,h0,h1=>by
  have:=fK h
  refine⟨k,?_⟩
  rw[cj,if_neg (by omega)]
  cases p <;> rfl
 | n::t,p,k,fuel+1,h,hf,h0,h1=>by
  obtain⟨g1,g2,g3⟩:=dJ h
  rw[J0] at hf
  obtain⟨z,hz⟩:=BT x hb y t (some n) (k+1) fuel g2 (by omega) (fun h=>absurd h (by omega)) (fun _=>⟨g1,by simp⟩)
  rw[cj,if_pos (by omega),g1]
  simp only[JR]
  rw[List.all_cons]
  by_cases c1:n<0
  ·refine⟨0,?_⟩
   rw[if_pos c1,if_neg]
   simp only[okn,Bool.and_eq_true,decide_eq_true_eq]
   omega
  by_cases c2:n>2147483647
  ·refine⟨0,?_⟩
   rw[if_neg c1,if_pos c2,if_neg]
   simp only[okn,Bool.and_eq_true,decide_eq_true_eq]
   omega
  rw[if_neg c1,if_neg c2]
  have ho:okn n=true:=by simp only[okn,Bool.and_eq_true,decide_eq_true_eq]; omega
  rcases Nat.eq_zero_or_pos k with hk | hk
  ·obtain rfl:=h0 hk
   refine⟨z,?_⟩
   rw[if_neg (by omega),if_pos (by omega),hz,ho,Bool.true_and,show up ltI none (n::t)=up ltI (some n) t from rfl]
  ·obtain⟨e1,e2⟩:=h1 hk
   rw[if_pos (by omega),if_pos (by omega),if_pos (by omega),show ((k:Int) - 1).toNat=k - 1 by omega,e1]
   cases p with
   | none=>exact absurd rfl e2
   | some q =>
    simp only[JR]
    by_cases hc:q<n
    ·refine⟨z,?_⟩
     rw[if_neg (by omega),if_pos (by omega),hz,ho,Bool.true_and]
     simp only[up,ltI,hc,decide_true,Bool.true_and]
    ·refine⟨0,?_⟩
     rw[if_pos (by omega),if_neg]
     simp only[up,ltI,hc,decide_false,Bool.false_and,Bool.and_false,Bool.false_eq_true,not_false_eq_true]
theorem BU (a0:List Top) (hb:a0.length≤1000000) (hw: ∀ t,t∈a0→t.I7.length≤1000000∧t.Jd.length≤1000000) (y:Bool): ∀ (t:List Top) (p:Option Top) (k fuel:Nat),a0.drop k=t→t.length<fuel→(k=0→p=none)→(0<k→a0[k - 1]? = p∧p≠none)→ ∃ z,cv a0 fuel y k=some (if (t.all ko && up Op.bytesLess (p.map (·.Jd)) (t.map (·.Jd)))=true then .go (y,z) else .ret false)
 | [],p,k,fuel+1,h,hf,h0,h1=>by
  have:=fK h
  refine⟨k,?_⟩
  rw[cv,if_neg (by omega)]
  cases p <;> rfl
 | x::t,p,k,fuel+1,h,hf,h0,h1=>by
  obtain⟨g1,g2,g3⟩:=dJ h
  have hx:=hw x (List.mem_of_getElem? g1)
  rw[J0] at hf
  obtain⟨z,hz⟩:=BU a0 hb hw y t (some x) (k+1) fuel g2 (by omega) (fun h=>absurd h (by omega)) (fun _=>⟨g1,by simp⟩)
  rw[cv,if_pos (by omega),g1,JR]
  rw[List.all_cons,List.map_cons]
  by_cases c1:(x.Jd.length:Int)<1
  ·refine⟨0,?_⟩
   have:x.Jd = []:=List.length_eq_zero_iff.1 (by omega)
   rw[if_pos c1,if_neg]
   simp[ko,this]
  by_cases c2:(x.Jd.length:Int)>32767
  ·refine⟨0,?_⟩
   rw[if_neg c1,if_pos c2,if_neg]
   simp[ko,show ¬ x.Jd.length≤32767 by omega]
  by_cases c3:(x.I7.length:Int)<1
  ·refine⟨0,?_⟩
   have:x.I7 = []:=List.length_eq_zero_iff.1 (by omega)
   rw[if_neg c1,if_neg c2,if_pos c3,if_neg]
   simp[ko,uT,this]
  rw[if_neg c1,if_neg c2,if_neg c3]
  have hne:x.Jd.isEmpty=false:=by cases hh:x.Jd with | nil=>rw[hh] at c1; simp at c1 | cons c u=>rfl
  have hnp:x.I7.isEmpty=false:=by cases hh:x.I7 with | nil=>rw[hh] at c3; simp at c3 | cons c u=>rfl
  have ho:ko x=(x.I7.all okn && up ltI none x.I7):=by
   simp[ko,uT,hne,hnp,show x.Jd.length≤32767 by omega]
  obtain⟨z2,hz2⟩:=BT x hx.1 y x.I7 none 0 (((x.I7.length:Int)).toNat+1) rfl (by omega) (fun _=>rfl) (fun h=>absurd h (by omega))
  rw[ho]
  rcases Nat.eq_zero_or_pos k with hk | hk
  ·obtain rfl:=h0 hk
   rw[if_neg (by omega),xL,hz2]
   cases hq:(x.I7.all okn && up ltI none x.I7) with
   | false=>exact⟨0,by simp⟩
   | true =>
    refine⟨z,?_⟩
    rw[if_pos rfl,JR,Bool.true_and]
    simp only
    rw[if_pos (by omega),hz,show (none:Option Top).map (·.Jd)=none from rfl,show up Op.bytesLess none (x.Jd::t.map (·.Jd))=up Op.bytesLess (some x.Jd) (t.map (·.Jd)) from rfl]
    rfl
  ·obtain⟨e1,e2⟩:=h1 hk
   rw[if_pos (by omega),if_pos (by omega),if_pos (by omega),show ((k:Int) - 1).toNat=k - 1 by omega,e1]
   cases p with
   | none=>exact absurd rfl e2
   | some q =>
    rw[JR]
    rw[F7 _ _ (hw q (List.mem_of_getElem? e1)).2]
    rw[JR,show (some q).map (·.Jd)=some q.Jd from rfl,show up Op.bytesLess (some q.Jd) (x.Jd::t.map (·.Jd))=(Op.bytesLess q.Jd x.Jd && up Op.bytesLess (some x.Jd) (t.map (·.Jd))) from rfl]
    cases hc:Op.bytesLess q.Jd x.Jd with
    | false=>exact⟨0,by simp⟩
    | true =>
     rw[if_pos rfl,hz2]
     cases hq:(x.I7.all okn && up ltI none x.I7) with
     | false=>exact⟨0,by simp⟩
     | true =>
      refine⟨z,?_⟩
      rw[if_pos rfl,JR,Bool.true_and]
      simp only
      rw[if_pos (by omega),hz]
      rfl
theorem BV (a0:List Top) (hb:a0.length≤1000000) (hw: ∀ t,t∈a0→t.I7.length≤1000000∧t.Jd.length≤1000000):gi a0=some (nb a0):=by
 unfold gi nb
 obtain⟨z,hz⟩:=BU a0 hb hw false a0 none 0 (((a0.length:Int)).toNat+1) rfl (by omega) (fun _=>rfl) (fun h=>absurd h (by omega))
 rw[show (none:Option Top).map (·.Jd)=none from rfl] at hz
 rw[hz]
 cases (a0.all ko && up Op.bytesLess none (a0.map (·.Jd))) <;> rfl
theorem wF (a b:List Int) (ha:a.length≤140737488355328) (y:Bool): ∀ (t u:List Int) (k fuel:Nat),a.drop k=t→b.drop k=u→t.length=u.length→t.length<fuel→ ∃ z,eZ a b fuel y k=some (if t=u then .go (y,z) else .ret false)
 | [],[],k,fuel+1,ht,hu,hl,hf=>by
  have:=fK ht
  exact⟨k,by rw[eZ,if_neg (by omega),if_pos rfl]⟩
 | [],d::u,k,fuel,ht,hu,hl,hf=>by simp at hl
 | c::t,[],k,fuel,ht,hu,hl,hf=>by simp at hl
 | c::t,d::u,k,fuel+1,ht,hu,hl,hf=>by
  obtain⟨t1,t2,t3⟩:=dJ ht
  obtain⟨u1,u2,u3⟩:=dJ hu
  simp only[J0] at hl hf
  obtain⟨z,hz⟩:=wF a b ha y t u (k+1) fuel t2 u2 (by omega) (by omega)
  rw[eZ,if_pos (by omega),t1,JR,u1,JR]
  by_cases hc:c=d
  ·rw[if_pos hc,if_pos (by omega),hz]
   subst hc
   refine⟨z,?_⟩
   by_cases h:t=u
   ·rw[if_pos h,if_pos (by rw[h])]
   ·rw[if_neg h,if_neg (by simpa using h)]
  ·rw[if_neg hc]
   exact⟨0,by rw[if_neg (fun h=>hc (List.cons.inj h).1)]⟩
theorem F8 (a b:List Int) (ha:a.length≤140737488355328):ll a b=some (decide (a=b)):=by
 unfold ll
 by_cases hl:(a.length:Int)=(b.length:Int)
 ·rw[if_pos hl]
  obtain⟨z,hz⟩:=wF a b ha false a b 0 (((a.length:Int)).toNat+1) rfl rfl (by omega) (by omega)
  rw[hz]
  by_cases h:a=b
  ·rw[if_pos h,JS h]
   rfl
  ·rw[if_neg h,JT h]
   rfl
 ·rw[if_neg hl,JT (fun h=>hl (by rw[h]))]
def yR (a b:Top):Bool:=decide (a.Jd=b.Jd) && decide (a.I7=b.I7)
def iK:List Top→List Top→Bool
 | [],[]=>true
 | a::l,b::m=>yR a b && iK l m
 | _,_=>false
theorem AR (a:Top):yR a a=true:=by simp[yR]
theorem sZ: ∀ l:List Top,iK l l=true
 | []=>rfl
 | a::l=>by rw[iK,AR,sZ l]; rfl
theorem uV: ∀ (l m:List Top),iK l m=true→l.length=m.length
 | [],[],h=>rfl
 | [],b::m,h=>nomatch h
 | a::l,[],h=>nomatch h
 | a::l,b::m,h=>by
  rw[iK,Bool.and_eq_true] at h
  rw[J0,J0,uV l m h.2]
theorem uW (a0 a1:List Top) (h0:a0.length≤1000000) (y:Bool): ∀ (l u:List Top) (k fuel:Nat),(∀ t,t∈l→t.I7.length≤140737488355328)→a0.drop k=l→a1.drop k=u→l.length=u.length→l.length<fuel→ ∃ z,cO a0 a1 fuel y k=some (if iK l u=true then .go (y,z) else .ret false)
 | [],[],k,fuel+1,hw,ht,hu,hl,hf=>by
  have:=fK ht
  exact⟨k,by rw[cO,if_neg (by omega)]; rfl⟩
 | [],d::u,k,fuel,hw,ht,hu,hl,hf=>by simp at hl
 | c::l,[],k,fuel,hw,ht,hu,hl,hf=>by simp at hl
 | c::l,d::u,k,fuel+1,hw,ht,hu,hl,hf=>by
  obtain⟨t1,t2,t3⟩:=dJ ht
  obtain⟨u1,u2,u3⟩:=dJ hu
  simp only[J0] at hl hf
  obtain⟨z,hz⟩:=uW a0 a1 h0 y l u (k+1) fuel (fun t ht=>hw t (.tail _ ht)) t2 u2 (by omega) (by omega)
  rw[cO,if_pos (by omega),t1,JR,u1,JR,iK,yR,F8 _ _ (hw c (.head _))]
  by_cases hc:c.Jd=d.Jd
  ·rw[if_pos hc,JS hc,JR,Bool.true_and]
   cases decide (c.I7=d.I7) with
   | false=>exact⟨0,rfl⟩
   | true =>
    rw[if_pos rfl,if_pos (by omega),Bool.true_and]
    exact⟨z,hz⟩
  ·rw[if_neg hc,JT hc]
   exact⟨0,rfl⟩
theorem yS (a b:List Top) (h0:a.length≤1000000) (ha: ∀ t,t∈a→t.I7.length≤140737488355328):cJ a b=some (iK a b):=by
 unfold cJ
 by_cases hl:(a.length:Int)=(b.length:Int)
 ·obtain⟨z,hz⟩:=uW a b h0 false a b 0 (((a.length:Int)).toNat+1) ha rfl rfl (by omega) (by omega)
  rw[if_pos hl,hz]
  cases iK a b <;> rfl
 ·rw[if_neg hl]
  have:iK a b=false:=by
   cases h:iK a b with
   | false=>rfl
   | true=>exact absurd (congrArg Int.ofNat (uV a b h)) hl
  rw[this]
def wT (t:Top):Nat:=t.Jd.length+4*t.I7.length+6
def wTs:List Top→Nat
 | []=>0
 | t::l=>wT t+wTs l
theorem yT (y:Int): ∀ (l:List Top) (acc:Int),(∀ t,t∈l→mY t)→0≤acc→acc≤1000→(fz l y acc=some (.ret 0))∨(∃ z,fz l y acc=some (.go z)∧acc+wTs l≤1000)
 | [],acc,hw,h0,h1=> .inr ⟨_,rfl,by simp[wTs]; omega⟩
 | t::l,acc,hw,h0,h1=>by
  have ht:=hw t (.head _)
  have ht1:t.Jd.length≤140737488351232:=ht.1
  have ht2:t.I7.length≤140737488351232:=ht.2.1
  rw[fz,if_pos (by omega),if_pos (by omega),if_pos (by omega),if_pos (by omega)]
  by_cases hc:(acc+(((t.Jd.length:Int)+(4*(t.I7.length:Int)))+6))>1000
  ·rw[if_pos hc]
   exact .inl rfl
  ·rw[if_neg hc]
   rcases yT y l _ (fun u hu=>hw u (.tail _ hu)) (by omega) (show acc+(((t.Jd.length:Int)+(4*(t.I7.length:Int)))+6)≤1000 by omega) with h | ⟨z,h,h2⟩
   ·exact .inl h
   ·exact .inr ⟨z,h,by simp only[wTs,wT]; omega⟩
theorem Ep (l:List Top) (hw: ∀ t,t∈l→mY t):(jM l=some 0)∨(jM l=some 1∧wTs l≤1000):=by
 unfold jM
 rcases yT 0 l 0 hw (by decide) (by decide) with h | ⟨z,h,h2⟩
 ·exact .inl (by rw[h]; rfl)
 ·exact .inr ⟨by rw[h]; rfl,by omega⟩
theorem kT: ∀ l:List Top,l.length*6≤wTs l
 | []=>by simp[wTs]
 | t::l=>by have:=kT l; simp only[wTs,wT,J0]; omega
theorem qV: ∀ (l:List Top) (t:Top),t∈l→wT t≤wTs l
 | u::l,t,h=>by
  rcases List.mem_cons.1 h with rfl | h
  ·simp only[wTs]; omega
  ·have:=qV l t h; simp only[wTs]; omega
theorem sD: ∀ l:List Int,(bl (fun n=>be n 4) l).length=4*l.length
 | []=>rfl
 | n::l=>by rw[bl,JU,aF,sD l,J0]; omega
theorem yU (t:Top):(nE t).length=wT t:=by
 simp only[nE,JU,aF,sD,wT]
 omega
theorem jW: ∀ l:List Top,(bl nE l).length=wTs l
 | []=>rfl
 | t::l=>by rw[bl,JU,yU,jW l,wTs]
theorem Er: ∀ (l:List Int) (t:List UInt8),(∀ n,n∈l→bh n 4=true)→t.length+4*l.length≤1000000000→cA l (t,0)=some (t++bl (fun n=>be n 4) l,0)
 | [],t,h,hl=>by rw[cA,bl,Kg]
 | n::l,t,h,hl=>by
  rw[J0] at hl
  rw[cA,dR (h n (.head _)) (by omega),JR,Er l _ (fun m hm=>h m (.tail _ hm)) (by rw[JU,aF]; show t.length+4+4*l.length≤ _; omega),bl,JY]
  rfl
theorem pU {t d:List UInt8} (hf:d.length≤32767) (ht:t.length≤1000000000):jc (t,0) d=some (t++(be (d.length:Int) 2++d),0):=by
 rw[sY _ _ (by simp only; omega)]
 have:=iX (t:=t) (b:=⟨false,d⟩) (k:=2) (fm (.inl rfl) (show -32768≤(d.length:Int) by omega) (show (d.length:Int)≤32767 by omega)) rfl (by simp only; omega)
 rw[mM _ _ _ ⟨by decide,by simp only; omega⟩] at this
 exact this
theorem Es: ∀ (l:List Top) (t:List UInt8),(∀ x,x∈l→okT x)→t.length+wTs l≤1000000→wTs l≤2000→cB l (t,0)=some (t++bl nE l,0)
 | [],t,h,hl,hw=>by rw[cB,bl,Kg]
 | x::l,t,h,hl,hw=>by
  obtain⟨h1,h2,h3⟩:=h x (.head _)
  simp only[wTs,wT] at hl hw
  rw[cB,pU (by omega) (by omega),JR,dR h2 (by simp only[JU,aF]; omega),JR,Er _ _ h3 (by simp only[JU,aF]; show _+(4:Int).toNat + _≤ _; omega),JR,Es l _ (fun y hy=>h y (.tail _ hy)) (by simp only[JU,aF,sD]; show _+(4:Int).toNat + _ + _≤ _; omega) (by omega)]
  simp only[bl,nE,JY]
  rfl
theorem uX (l:List Top) (t:List UInt8) (h: ∀ x,x∈l→okT x) (ht:t.length≤900000) (hw:wTs l≤2000):eK (t,0) l=some (t++(be (l.length:Int) 4++bl nE l),0):=by
 have:=kT l
 unfold eK
 rw[dR (fm (.inr (.inl rfl)) (by omega) (by omega)) (by omega),JR,Es l _ h (by simp only[JU,aF]; show _+(4:Int).toNat + _≤ _; omega) hw,JY]
 rfl
theorem sE (n:Int):bh n 2=decide (-32768≤n∧n≤32767):=by
 rw[Bool.eq_iff_iff]
 unfold bh
 simp only[Bool.and_eq_true,decide_eq_true_eq]
 have:(2:Int) ^ (8*(2:Int).toNat - 1)=32768:=by decide
 omega
theorem Et (n:Int):bh n 8=decide (-9223372036854775808≤n∧n≤9223372036854775807):=by
 rw[Bool.eq_iff_iff]
 unfold bh
 simp only[Bool.and_eq_true,decide_eq_true_eq]
 have:(2:Int) ^ (8*(8:Int).toNat - 1)=9223372036854775808:=by decide
 omega
def badR (v:Val):Prop:=v.I6<0∨v.I8<0∨v.I8>32767∨v.Jb<0∨v.Jb>2147483647∨v.JN<0∨v.JM < -1
def badC (v:Val):Prop:= ¬ ((1≤v.JL∧v.JL≤3)↔0<(v.I5.length:Int))∨ ¬ (v.JL=0↔v.JM= -1)
open Classical in
noncomputable def chkV (v:Val):Int:=if badR v then 11 else if v.JL<0∨v.JL>6 then 12 else if badC v then 10 else if nb v.I5=true then 0 else 13
theorem Db (v:Val) (hw:wf_Val v) (hl:v.I5.length≤1000000):iB v=some (chkV v):=by
 unfold iB chkV
 rw[AQ _ hw.2.2.2.2.1.2 hl,fx _ _ hw.2.1,fx _ _ hw.2.2.1,sE,eo]
 generalize nb v.I5=b
 by_cases hr:badR v
 ·rw[if_pos hr]
  unfold badR at hr
  by_cases c1:v.I6<0
  ·rw[if_pos c1]
  rw[if_neg c1]
  by_cases c2:v.I8<0
  ·rw[if_pos c2]
  rw[if_neg c2,JR]
  by_cases c3: -32768≤v.I8∧v.I8≤32767
  ·rw[if_pos (JS c3)]
   by_cases c4:v.Jb<0
   ·rw[if_pos c4]
   rw[if_neg c4,JR]
   by_cases c5: -2147483648≤v.Jb∧v.Jb≤2147483647
   ·rw[if_pos (JS c5)]
    by_cases c6:v.JN<0
    ·rw[if_pos c6]
    rw[if_neg c6,if_pos (by omega)]
   ·rw[if_neg (by simp only[decide_eq_true_eq]; exact c5)]
  ·rw[if_neg (by simp only[decide_eq_true_eq]; exact c3)]
 rw[if_neg hr]
 unfold badR at hr
 rw[if_neg (by omega),if_neg (by omega),JR,if_pos (JS (by omega)),if_neg (by omega),JR,if_pos (JS (by omega)),if_neg (by omega),if_neg (by omega)]
 unfold kP
 by_cases hs:v.JL<0∨v.JL>6
 ·rw[if_pos hs]
  by_cases c1:v.JL<0
  ·rw[if_pos c1]
  ·rw[if_neg c1,if_pos (by omega)]
 rw[if_neg hs,if_neg (by omega),if_neg (by omega)]
 by_cases hc:badC v
 ·rw[if_pos hc]
  unfold badC at hc
  by_cases c0:v.JL=0
  ·rw[if_pos c0,JR,if_pos rfl]
   by_cases c1:(v.I5.length:Int)=0
   ·rw[if_pos c1,if_pos c0,if_neg (by omega)]
   ·rw[if_neg c1]
  ·rw[if_neg c0]
   by_cases c4:v.JL≥4
   ·rw[if_pos c4,JR,if_pos rfl]
    by_cases c1:(v.I5.length:Int)=0
    ·rw[if_pos c1,if_neg c0,if_pos (by omega)]
    ·rw[if_neg c1]
   ·rw[if_neg c4,JR,if_neg (by decide)]
    by_cases c1:(v.I5.length:Int)=0
    ·rw[if_pos c1]
    ·rw[if_neg c1,if_neg c0,if_pos (by omega)]
 rw[if_neg hc]
 unfold badC at hc
 by_cases c0:v.JL=0
 ·rw[if_pos c0,JR,if_pos rfl,if_pos (by omega),if_pos c0,if_pos (by omega)]
  cases b <;> rfl
 ·rw[if_neg c0]
  by_cases c4:v.JL≥4
  ·rw[if_pos c4,JR,if_pos rfl,if_pos (by omega),if_neg c0,if_neg (by omega)]
   cases b <;> rfl
  ·rw[if_neg c4,JR,if_neg (by decide),if_neg (by omega),if_neg c0,if_neg (by omega)]
   cases b <;> rfl
theorem xM {l:List Top} (h:nb l=true) (hw:wTs l≤2000): ∀ t,t∈l→okT t:=by
 intro t ht
 unfold nb at h
 rw[Bool.and_eq_true] at h
 have h1:=List.all_eq_true.1 h.1 t ht
 unfold ko uT at h1
 simp only[Bool.and_eq_true,decide_eq_true_eq,List.all_eq_true] at h1
 have h2:=qV l t ht
 unfold wT at h2
 refine⟨fm (.inl rfl) (by omega) (by omega),fm (.inr (.inl rfl)) (by omega) (by omega),fun n hn=> ?_⟩
 have h3:=h1.2.1.1 n hn
 unfold okn at h3
 simp only[Bool.and_eq_true,decide_eq_true_eq] at h3
 rw[eo]
 exact JS (by omega)
theorem wi0:wI 0:=⟨by decide,by decide⟩
theorem wi1:wI 1:=⟨by decide,by decide⟩
theorem wim:wI (-1):=⟨by decide,by decide⟩
def who (p e:Int):Bool:=decide (0≤p∧0≤e∧e≤32767)
theorem xN (p e:Int) (he:wI e):iV p e=some (who p e):=by
 unfold iV who
 by_cases h1:p≥0
 ·rw[if_pos h1]
  by_cases h2:e≥0
  ·rw[if_pos h2,fx _ _ he,sE]
   simp only[JR]
   congr 1
   by_cases h3:e≤32767
   ·rw[JS (by omega),JS (by omega)]
   ·rw[JT (by omega),JT (by omega)]
  ·rw[if_neg h2,JT (by omega)]
   rfl
 ·rw[if_neg h1,JT (by omega)]
  rfl
def pw (l:List Top):Int:=if l.length=0 then 10 else if nb l=true then 0 else 13
def wTl (l:List Top):Prop:=(∀ t,t∈l→mY t)∧l.length≤1000000
theorem yV (l:List Top) (hw:wTl l):jT l=some (pw l):=by
 unfold jT pw
 by_cases h:l.length=0
 ·rw[if_pos (by omega),if_pos h]
 ·rw[if_neg (by omega),if_neg h,Db _ ⟨wi0,wi0,wi0,wi1,⟨by have:=hw.2; simp only; omega,hw.1⟩,wi0,wi0⟩ hw.2,JR]
  unfold chkV
  rw[if_neg (by unfold badR; simp),if_neg (by simp),if_neg (by
   unfold badC
   simp only
   rintro (h1 | h1)
   ·exact h1 ⟨fun _=>by omega,fun _=>by omega⟩
   ·exact h1 ⟨fun h=>absurd h (by decide),fun h=>absurd h (by decide)⟩)]
def lI (d:List UInt8) (p e:Int):Int:=if dc d=true then (if who p e=true then 0 else 11) else 4
def mD (d:List UInt8) (p e:Int) (l:List Top):Int:=if dc d=true then (if who p e=true then pw l else 11) else 4
def tmB (t:Int):Bool:=decide (0≤t∧t≤2147483647)
def yW (p e:Int):Bool:=decide (p= -1∧e= -1)
def fp (b:Bl) (t p e v:Int):Int:=if (bi b && (b.null || dc b.data))=true then (if (tmB t && (yW p e || (decide (v>0) && who p e)))=true then 0 else 11) else 4
theorem yX (x:bI) (he:wI x.I8):fZ x=some (lI x.Jc x.I6 x.I8):=by
 unfold fZ lI
 rw[mO,JR,xN _ _ he,JR]
 cases dc x.Jc <;> cases who x.I6 x.I8 <;> rfl
theorem yY (x:bJ) (he:wI x.I8) (hl:wTl x.I5):fY x=some (mD x.Jc x.I6 x.I8 x.I5):=by
 unfold fY mD
 rw[mO,JR,xN _ _ he,JR,yV _ hl,JR]
 cases dc x.Jc <;> cases who x.I6 x.I8 <;> rfl
theorem uY (x:aX) (v:Int) (he:wI x.I8) (ht:wI x.Jb):fb x v=some (fp x.Jc x.Jb x.I6 x.I8 v):=by
 unfold fb fp
 have h1:(if x.I6=(-1) then (if x.I8=(-1) then some true else some false) else some false)=some (yW x.I6 x.I8):=by
  unfold yW
  by_cases a:x.I6= -1 <;> by_cases b:x.I8= -1 <;> simp[a,b]
 have h3:(if x.Jb<0 then some true else ((il x.Jb 4).bind fun x29=>if x29=true then some false else some true))=some (!tmB x.Jb):=by
  unfold tmB
  by_cases a:x.Jb<0
  ·rw[if_pos a,JT (by omega)]
   rfl
  ·rw[if_neg a,fx _ _ ht,eo,JR]
   by_cases b:x.Jb≤2147483647
   ·rw[if_pos (JS (by omega)),JS (by omega)]
    rfl
   ·rw[if_neg (by simp; omega),JT (by omega)]
    rfl
 have h4:(if v>0 then ((some (who x.I6 x.I8)).bind fun x55=>if x55=true then some false else some true) else some true)=some (!(decide (v>0) && who x.I6 x.I8)):=by
  by_cases d:v>0
  ·rw[if_pos d,JS d]
   cases who x.I6 x.I8 <;> rfl
  ·rw[if_neg d,JT d]
   rfl
 rw[h1,JR,h3,xN _ _ he,h4,oN,mO]
 cases bi x.Jc <;> cases x.Jc.null <;> cases dc x.Jc.data <;> cases tmB x.Jb <;> cases yW x.I6 x.I8 <;> cases (decide (v>0) && who x.I6 x.I8) <;> rfl
theorem Eu:CB fN qT false:=by
 refine⟨fun st h=> ?_,fun s q hl hq=> ?_⟩
 ·unfold fN
  rw[ky h,JR]
  rfl
 ·unfold fN qT
  rcases Q1.run s q hq with⟨e,st,p1,g1,x1,y1⟩ | ⟨n,r,p1,g1,n1,l1⟩
  ·refine .inl ⟨e,st,Pr.bind_err p1,?_,x1,y1⟩
   rw[g1,JR]
   rfl
  ·rw[g1,JR,Pr.bind_of p1]
   simp only
   by_cases h0:n=0
   ·rw[if_pos h0,if_pos h0,JR,if_neg (by decide),JR,if_neg (by omega)]
    exact .inr ⟨false,r,rfl,rfl,n1,l1⟩
   ·by_cases h1:n=1
    ·rw[if_neg h0,if_pos h1,if_neg h0,if_pos h1,JR,if_neg (by decide),JR,if_pos h1]
     exact .inr ⟨true,r,rfl,rfl,n1,l1⟩
    ·rw[if_neg h0,if_neg h1,if_neg h0,if_neg h1,JR,if_pos rfl,dt,JR,JR,if_neg h1]
     exact .inl ⟨11,_,rfl,rfl,rfl,by simp[da]⟩
abbrev yZ:Pr (List Top):=kA 4 6 lz
theorem nc {α:Type} {enc:α→List UInt8}: ∀ (l:List α) (x:α),x∈l→(enc x).length≤(bl enc l).length
 | y::l,x,h=>by
  rw[bl,JU]
  rcases List.mem_cons.1 h with rfl | h
  ·omega
  ·have:=nc (enc:=enc) l x h
   omega
theorem Ev (s:List UInt8) (q:Nat) (l:List Top) (r:Nat) (hl:s.length≤1000000) (hq:q≤s.length) (h:yZ s q= .ok (l,r)):wTl l:=by
 obtain⟨a1,a2,a3,a4,a5,a6⟩:=sC.spell s q l r hq h
 rw[JU,aF] at a3
 have hlen:=na BS l a6
 refine⟨fun t ht=> ?_,by omega⟩
 have h1:=nc (enc:=nE) l t ht
 obtain⟨b1,b2,b3⟩:=a6 t ht
 have h2:(nE t).length=wT t:=yU t
 unfold wT at h2
 exact⟨by show t.Jd.length≤ _; omega,by show t.I7.length≤ _; omega,fun n hn=>eI (b3 n hn)⟩
def zE:bI:=⟨[],0,0,false⟩
def zA:bJ:=⟨[],0,0,[]⟩
def zB:aX:=⟨⟨false,[]⟩,0,0,0⟩
def Ew:Pr bI:=uM.bind fun d=>(fd 8).bind fun p=>(fd 2).bind fun e=>qT.bind fun c=>if lI d p e=0 then .ret ⟨d,p,e,c⟩ else .err (lI d p e)
def Ey:Pr bJ:=uM.bind fun d=>(fd 8).bind fun p=>(fd 2).bind fun e=>yZ.bind fun l=>if mD d p e l=0 then .ret ⟨d,p,e,l⟩ else .err (mD d p e l)
def Ez (v:Int):Pr aX:=(l7 2).bind fun b=>(fd 4).bind fun t=>if fp b t (-1) (-1) v=0 then .ret ⟨b,t,-1,-1⟩ else .err (fp b t (-1) (-1) v)
def EA (v:Int):Pr aX:=(l7 2).bind fun b=>(fd 4).bind fun t=>(fd 8).bind fun p=>(fd 2).bind fun e=>if fp b t p e v=0 then .ret ⟨b,t,p,e⟩ else .err (fp b t p e v)
theorem B_end:CB j4 Ew zE:=by
 refine CB.congr (CB.bind (fun _=>True) QT.cb (fun _ _ _ _ _ _ _=>trivial) trivial fun d _=>CB.bind wI Q8.cb (ow (by decide) (by decide)) wi0 fun p hp=>CB.bind wI Q2.cb (ow (by decide) (by decide)) wi0 fun e he=>CB.bind (fun _=>True) Eu (fun _ _ _ _ _ _ _=>trivial) trivial fun c _ =>
  xK (op:=fun st=>(cF st ⟨d,p,e,c⟩).bind fun (x15,st16)=>if x15=true then some (⟨d,p,e,c⟩,st16) else some (zE,st16)) (fun st h=> ?_) (fun st h=> ?_)) (fun st=>rfl)
 ·unfold cF
  rw[bt,JR]
  simp only
  rw[if_neg h]
  rfl
 ·unfold cF
  rw[bt,JR]
  simp only
  rw[if_pos h,yX _ he,JR]
  by_cases hc:lI d p e=0
  ·rw[if_pos hc,if_pos hc]
   rfl
  ·rw[if_neg hc,if_neg hc,dt]
   rfl
theorem B_add:CB j3 Ey zA:=by
 refine CB.congr (CB.bind (fun _=>True) QT.cb (fun _ _ _ _ _ _ _=>trivial) trivial fun d _=>CB.bind wI Q8.cb (ow (by decide) (by decide)) wi0 fun p hp=>CB.bind wI Q2.cb (ow (by decide) (by decide)) wi0 fun e he=>CB.bind wTl yQ Ev ⟨(fun t h=>nomatch h),by decide⟩ fun l hl =>
  xK (op:=fun st=>(cE st ⟨d,p,e,l⟩).bind fun (x15,st16)=>if x15=true then some (⟨d,p,e,l⟩,st16) else some (zA,st16)) (fun st h=> ?_) (fun st h=> ?_)) (fun st=>rfl)
 ·unfold cE
  rw[bt,JR]
  simp only
  rw[if_neg h]
  rfl
 ·unfold cE
  rw[bt,JR]
  simp only
  rw[if_pos h,yY _ he hl,JR]
  by_cases hc:mD d p e l=0
  ·rw[if_pos hc,if_pos hc]
   rfl
  ·rw[if_neg hc,if_neg hc,dt]
   rfl
theorem BW (b:Bl) (t p e v:Int) (ht:wI t) (he:wI e):CB (fun st=>(ck st ⟨b,t,p,e⟩ v).bind fun (x15,st16)=>if x15=true then some ((⟨b,t,p,e⟩:aX),st16) else some (zB,st16)) (if fp b t p e v=0 then .ret ⟨b,t,p,e⟩ else .err (fp b t p e v)) zB:=by
 refine xK (fun st h=> ?_) (fun st h=> ?_)
 ·unfold ck
  rw[bt,JR]
  simp only
  rw[if_neg h]
  rfl
 ·unfold ck gl
  rw[bt,JR]
  simp only
  rw[if_pos h,uY _ _ he ht,JR,JR]
  by_cases hc:fp b t p e v=0
  ·rw[if_pos hc,if_pos hc]
   rfl
  ·rw[if_neg hc,if_neg hc,dt]
   rfl
theorem B_beg0 (v:Int) (hv: ¬ v>0):CB (fun st=>eh st v) (Ez v) zB:=by
 refine CB.congr (CB.bind (fun _=>True) QF2.cb (fun _ _ _ _ _ _ _=>trivial) trivial fun b _=>CB.bind wI Q4.cb (ow (by decide) (by decide)) wi0 fun t ht=>BW b t (-1) (-1) v ht wim) (fun st=> ?_)
 unfold eh
 simp only[if_neg hv,JR]
 rfl
theorem B_beg1 (v:Int) (hv:v>0):CB (fun st=>eh st v) (EA v) zB:=by
 refine CB.congr (CB.bind (fun _=>True) QF2.cb (fun _ _ _ _ _ _ _=>trivial) trivial fun b _=>CB.bind wI Q4.cb (ow (by decide) (by decide)) wi0 fun t ht=>CB.bind wI Q8.cb (ow (by decide) (by decide)) wi0 fun p hp=>CB.bind wI Q2.cb (ow (by decide) (by decide)) wi0 fun e he=>BW b t p e v ht he) (fun st=> ?_)
 unfold eh
 simp only[if_pos hv,Option.bind_assoc,JR]
 rfl
def s6 (d:List UInt8):List UInt8:=be (d.length:Int) 2++d
def lV (l:List Top):List UInt8:=be (l.length:Int) 4++bl nE l
def AS (x:bI):List UInt8:=s6 x.Jc++(be x.I6 8++(be x.I8 2++j7 x.Js))
def AU (x:bJ):List UInt8:=s6 x.Jc++(be x.I6 8++(be x.I8 2++lV x.I5))
def uZ (b:Bl):List UInt8:=be (eE b) 2++b.data
def za (x:aX):List UInt8:=uZ x.Jc++be x.Jb 4
def zb (x:aX):List UInt8:=uZ x.Jc++(be x.Jb 4++(be x.I6 8++be x.I8 2))
def okTx (d:List UInt8):Prop:=bh (d.length:Int) 2=true∧bi ⟨false,d⟩=true
def okFx (b:Bl):Prop:=bh (eE b) 2=true∧bi b=true
def v6 (l:List Top):Prop:=bh (l.length:Int) 4=true∧ ∀ t,t∈l→okT t
abbrev spI (k:Nat) (h1:1≤k:=by decide) (h8:k≤8:=by decide):=ej k h1 h8
theorem Sp_end:Sp Ew AS (fun x=>okTx x.Jc∧bh x.I6 8=true∧bh x.I8 2=true∧lI x.Jc x.I6 x.I8=0):=by
 refine Sp.congr (Sp.seq (β:=bI) (π:=(·.Jc)) (ok2:=fun x:bI=>bh x.I6 8=true∧bh x.I8 2=true∧lI x.Jc x.I6 x.I8=0) mX fun d =>
  Sp.congr (Sp.seq (β:=bI) (π:=(·.I6)) (ok2:=fun x:bI=>bh x.I8 2=true∧lI d x.I6 x.I8=0∧x.Jc=d) (spI 8) fun p =>
  Sp.congr (Sp.seq (β:=bI) (π:=(·.I8)) (ok2:=fun x:bI=>lI d p x.I8=0∧x.Jc=d∧x.I6=p) (spI 2) fun e =>
  Sp.congr (Sp.seq (β:=bI) (π:=(·.Js)) (ok2:=fun x:bI=>lI d p e=0∧x.Jc=d∧x.I6=p∧x.I8=e) BR fun c =>
  (uS (β:=bI) _ _ _).congr (ok':=fun x:bI=>(lI d p e=0∧x.Jc=d∧x.I6=p∧x.I8=e)∧x.Js=c) (fun x=> ?_) (fun _ _=>rfl)) (fun x=> ?_) (fun _ _=>rfl)) (fun x=> ?_) (fun _ _=>rfl)) (fun x=> ?_) (fun _ _=>rfl)) (fun x=> ?_) (fun x _=>by simp only[AS,s6,Kg])
 ·obtain⟨a1,a2,a3,a4⟩:=x
  simp only[bI.mk.injEq]
  exact⟨fun ⟨h,h1,h2,h3,h4⟩=>⟨⟨h,h1,h2,h3⟩,h4⟩,fun ⟨⟨h,h1,h2,h3⟩,h4⟩=>⟨h,h1,h2,h3,h4⟩⟩
 ·exact⟨fun ⟨_,h,h1,h2,h3⟩=>⟨⟨by rw[h3]; exact h,h1,h2⟩,h3⟩,fun ⟨⟨h,h1,h2⟩,h3⟩=>⟨trivial,by rw[← h3]; exact h,h1,h2,h3⟩⟩
 ·exact⟨fun ⟨h0,h,h1,h2⟩=>⟨⟨h0,by rw[h2]; exact h,h1⟩,h2⟩,fun ⟨⟨h0,h,h1⟩,h2⟩=>⟨h0,by rw[← h2]; exact h,h1,h2⟩⟩
 ·exact⟨fun ⟨h0,h,h1,h2⟩=>⟨⟨h0,h,by rw[h2]; exact h1⟩,h2⟩,fun ⟨⟨h0,h,h1⟩,h2⟩=>⟨h0,h,by rw[← h2]; exact h1,h2⟩⟩
 ·exact Iff.rfl
theorem Sp_add:Sp Ey AU (fun x=>okTx x.Jc∧bh x.I6 8=true∧bh x.I8 2=true∧v6 x.I5∧mD x.Jc x.I6 x.I8 x.I5=0):=by
 refine Sp.congr (Sp.seq (β:=bJ) (π:=(·.Jc)) (ok2:=fun x:bJ=>bh x.I6 8=true∧bh x.I8 2=true∧v6 x.I5∧mD x.Jc x.I6 x.I8 x.I5=0) mX fun d =>
  Sp.congr (Sp.seq (β:=bJ) (π:=(·.I6)) (ok2:=fun x:bJ=>bh x.I8 2=true∧v6 x.I5∧mD d x.I6 x.I8 x.I5=0∧x.Jc=d) (spI 8) fun p =>
  Sp.congr (Sp.seq (β:=bJ) (π:=(·.I8)) (ok2:=fun x:bJ=>v6 x.I5∧mD d p x.I8 x.I5=0∧x.Jc=d∧x.I6=p) (spI 2) fun e =>
  Sp.congr (Sp.seq (β:=bJ) (π:=(·.I5)) (ok2:=fun x:bJ=>mD d p e x.I5=0∧x.Jc=d∧x.I6=p∧x.I8=e) sC fun l =>
  (uS (β:=bJ) _ _ _).congr (ok':=fun x:bJ=>(mD d p e x.I5=0∧x.Jc=d∧x.I6=p∧x.I8=e)∧x.I5=l) (fun x=> ?_) (fun _ _=>rfl)) (fun x=> ?_) (fun _ _=>rfl)) (fun x=> ?_) (fun _ _=>rfl)) (fun x=> ?_) (fun _ _=>rfl)) (fun x=> ?_) (fun x _=>by simp only[AU,s6,lV,Kg])
 ·obtain⟨a1,a2,a3,a4⟩:=x
  simp only[bJ.mk.injEq]
  exact⟨fun ⟨h,h1,h2,h3,h4⟩=>⟨⟨by rw[h4]; exact h,h1,h2,h3⟩,h4⟩,fun ⟨⟨h,h1,h2,h3⟩,h4⟩=>⟨by rw[← h4]; exact h,h1,h2,h3,h4⟩⟩
 ·exact⟨fun ⟨h0,h,h1,h2,h3⟩=>⟨⟨h0,by rw[h3]; exact h,h1,h2⟩,h3⟩,fun ⟨⟨h0,h,h1,h2⟩,h3⟩=>⟨h0,by rw[← h3]; exact h,h1,h2,h3⟩⟩
 ·exact⟨fun ⟨h0,hk,h,h1,h2⟩=>⟨⟨h0,hk,by rw[h2]; exact h,h1⟩,h2⟩,fun ⟨⟨h0,hk,h,h1⟩,h2⟩=>⟨h0,hk,by rw[← h2]; exact h,h1,h2⟩⟩
 ·exact⟨fun ⟨h0,h,hk,h1,h2⟩=>⟨⟨h0,h,hk,by rw[h2]; exact h1⟩,h2⟩,fun ⟨⟨h0,h,hk,h1⟩,h2⟩=>⟨h0,h,hk,by rw[← h2]; exact h1,h2⟩⟩
 ·exact Iff.rfl
theorem F9 (v:Int):Sp (EA v) zb (fun x=>okFx x.Jc∧bh x.Jb 4=true∧bh x.I6 8=true∧bh x.I8 2=true∧fp x.Jc x.Jb x.I6 x.I8 v=0):=by
 refine Sp.congr (Sp.seq (β:=aX) (π:=(·.Jc)) (ok2:=fun x:aX=>bh x.Jb 4=true∧bh x.I6 8=true∧bh x.I8 2=true∧fp x.Jc x.Jb x.I6 x.I8 v=0) (gC 2 (by decide) (by decide)) fun b =>
  Sp.congr (Sp.seq (β:=aX) (π:=(·.Jb)) (ok2:=fun x:aX=>bh x.I6 8=true∧bh x.I8 2=true∧fp b x.Jb x.I6 x.I8 v=0∧x.Jc=b) (spI 4) fun t =>
  Sp.congr (Sp.seq (β:=aX) (π:=(·.I6)) (ok2:=fun x:aX=>bh x.I8 2=true∧fp b t x.I6 x.I8 v=0∧x.Jc=b∧x.Jb=t) (spI 8) fun p =>
  Sp.congr (Sp.seq (β:=aX) (π:=(·.I8)) (ok2:=fun x:aX=>fp b t p x.I8 v=0∧x.Jc=b∧x.Jb=t∧x.I6=p) (spI 2) fun e =>
  (uS (β:=aX) _ _ _).congr (ok':=fun x:aX=>(fp b t p x.I8 v=0∧x.Jc=b∧x.Jb=t∧x.I6=p)∧x.I8=e) (fun x=> ?_) (fun _ _=>rfl)) (fun x=> ?_) (fun _ _=>rfl)) (fun x=> ?_) (fun _ _=>rfl)) (fun x=> ?_) (fun _ _=>rfl)) (fun x=> ?_) (fun x _=>by simp only[zb,uZ,Kg])
 ·obtain⟨a1,a2,a3,a4⟩:=x
  simp only[aX.mk.injEq]
  exact⟨fun ⟨h,h1,h2,h3,h4⟩=>⟨⟨by rw[h4]; exact h,h1,h2,h3⟩,h4⟩,fun ⟨⟨h,h1,h2,h3⟩,h4⟩=>⟨by rw[← h4]; exact h,h1,h2,h3,h4⟩⟩
 ·exact⟨fun ⟨h0,h,h1,h2,h3⟩=>⟨⟨h0,by rw[h3]; exact h,h1,h2⟩,h3⟩,fun ⟨⟨h0,h,h1,h2⟩,h3⟩=>⟨h0,by rw[← h3]; exact h,h1,h2,h3⟩⟩
 ·exact⟨fun ⟨h0,hk,h,h1,h2⟩=>⟨⟨h0,hk,by rw[h2]; exact h,h1⟩,h2⟩,fun ⟨⟨h0,hk,h,h1⟩,h2⟩=>⟨h0,hk,by rw[← h2]; exact h,h1,h2⟩⟩
 ·exact⟨fun ⟨h0,h,hk,h1,h2⟩=>⟨⟨h0,h,hk,by rw[h2]; exact h1⟩,h2⟩,fun ⟨⟨h0,h,hk,h1⟩,h2⟩=>⟨h0,h,hk,by rw[← h2]; exact h1,h2⟩⟩
 ·exact Iff.rfl
theorem Ga (v:Int):Sp (Ez v) za (fun x=>okFx x.Jc∧bh x.Jb 4=true∧fp x.Jc x.Jb x.I6 x.I8 v=0∧x.I6= -1∧x.I8= -1):=by
 refine Sp.congr (Sp.seq (β:=aX) (π:=(·.Jc)) (ok2:=fun x:aX=>bh x.Jb 4=true∧fp x.Jc x.Jb (-1) (-1) v=0∧x.I6= -1∧x.I8= -1) (gC 2 (by decide) (by decide)) fun b =>
  Sp.congr (Sp.seq (β:=aX) (π:=(·.Jb)) (ok2:=fun x:aX=>fp b x.Jb (-1) (-1) v=0∧x.Jc=b∧x.I6= -1∧x.I8= -1) (spI 4) fun t =>
  (uS (β:=aX) _ _ _).congr (ok':=fun x:aX=>(fp b x.Jb (-1) (-1) v=0∧x.Jc=b∧x.I6= -1∧x.I8= -1)∧x.Jb=t) (fun x=> ?_) (fun _ _=>rfl)) (fun x=> ?_) (fun _ _=>rfl)) (fun x=> ?_) (fun x _=>by simp only[za,uZ,Kg])
 ·obtain⟨a1,a2,a3,a4⟩:=x
  simp only[aX.mk.injEq]
  exact⟨fun ⟨h,h1,h2,h3,h4⟩=>⟨⟨by rw[h2]; exact h,h1,h3,h4⟩,h2⟩,fun ⟨⟨h,h1,h3,h4⟩,h2⟩=>⟨by rw[← h2]; exact h,h1,h2,h3,h4⟩⟩
 ·exact⟨fun ⟨h0,h,h1,h2,h3⟩=>⟨⟨h0,by rw[h1]; exact h,h2,h3⟩,h1⟩,fun ⟨⟨h0,h,h2,h3⟩,h1⟩=>⟨h0,by rw[← h1]; exact h,h1,h2,h3⟩⟩
 ·exact⟨fun ⟨h0,h,h1,h2,h3⟩=>⟨h0,h,by rw[h2,h3]; exact h1,h2,h3⟩,fun ⟨h0,h,h1,h2,h3⟩=>⟨h0,h,by rw[h2,h3] at h1; exact h1,h2,h3⟩⟩
theorem ne {d:List UInt8} (h:dc d=true):d.length≤32767∧d ≠ []:=by
 unfold dc at h
 simp only[Bool.and_eq_true,decide_eq_true_eq,Bool.not_eq_true'] at h
 refine⟨by omega,fun h0=> ?_⟩
 rw[h0] at h
 exact absurd h.1 (by decide)
theorem lA {p e:Int} (h:who p e=true) (hp:wI p):bh p 8=true∧bh e 2=true:=by
 unfold who at h
 have h:=of_decide_eq_true h
 exact⟨by rw[Et]; exact JS hp,by rw[sE]; exact JS (by omega)⟩
theorem BX (t:List UInt8) (b:Bool) (ht:t.length≤1000000):gG (t,0) b=some (t++j7 b,0):=by
 unfold gG
 cases b with
 | true =>
  rw[if_pos rfl,ru _ _ ⟨by decide,by decide,by simp only; omega⟩]
  rfl
 | false =>
  rw[if_neg (by decide),ru _ _ ⟨by decide,by decide,by simp only; omega⟩]
  rfl
theorem xO (t:List UInt8) (e:Int):iI (t,0) e=some (if e=0 then (false,(t,0)) else (true,(t,e))):=by
 unfold iI
 by_cases h:e=0
 ·rw[if_pos h,if_pos h,JR,if_pos h]
 ·rw[if_neg h,if_neg h,rr,JR,JR,if_neg h]
  rfl
theorem EB (x:bI) (t:List UInt8) (hp:wI x.I6) (he:wI x.I8) (ht:t.length≤900000):g6 (t,0) x=some (if lI x.Jc x.I6 x.I8=0 then (t++AS x,0) else (t,lI x.Jc x.I6 x.I8)):=by
 unfold g6 gk
 rw[yX x he,JR,xO,JR]
 by_cases hc:lI x.Jc x.I6 x.I8=0
 ·rw[if_pos hc,if_pos hc,JR]
  simp only
  have hk:dc x.Jc=true:=by
   unfold lI at hc
   split at hc
   ·rename_i h; exact h
   ·exact absurd hc (by decide)
  have hw:who x.I6 x.I8=true:=by
   unfold lI at hc
   rw[if_pos hk] at hc
   split at hc
   ·rename_i h; exact h
   ·exact absurd hc (by decide)
  obtain⟨k1,_⟩:=ne hk
  obtain⟨f1,f2⟩:=lA hw hp
  rw[if_neg (by decide),pU k1 (by omega),JR,dR f1 (by simp only[JU,aF]; omega),JR,dR f2 (by simp only[JU,aF]; omega),JR,BX _ _ (by simp only[JU,aF]; omega),JR]
  simp only[AS,s6,JY]
  rfl
 ·rw[if_neg hc,if_neg hc,JR]
  rfl
theorem sF {l:List Top} (h:pw l=0):l ≠ []∧nb l=true:=by
 unfold pw at h
 split at h
 ·exact absurd h (by decide)
 ·rename_i h1
  split at h
  ·rename_i h2
   exact⟨fun h0=>h1 (by rw[h0]; rfl),h2⟩
  ·exact absurd h (by decide)
theorem wG {d:List UInt8} {p e:Int} {l:List Top} (hc:mD d p e l=0):dc d=true∧who p e=true∧pw l=0:=by
 unfold mD at hc
 split at hc
 ·rename_i h1
  split at hc
  ·rename_i h2; exact⟨h1,h2,hc⟩
  ·exact absurd hc (by decide)
 ·exact absurd hc (by decide)
theorem EC (x:bJ) (t:List UInt8) (hp:wI x.I6) (he:wI x.I8) (hl:wTl x.I5) (hw2:wTs x.I5≤2000) (ht:t.length≤700000):gZ (t,0) x=some (if mD x.Jc x.I6 x.I8 x.I5=0 then (t++AU x,0) else (t,mD x.Jc x.I6 x.I8 x.I5)):=by
 unfold gZ gj
 rw[yY x he hl,JR,xO,JR]
 by_cases hc:mD x.Jc x.I6 x.I8 x.I5=0
 ·rw[if_pos hc,if_pos hc,JR]
  simp only
  obtain⟨hk,hw,hr⟩:=wG hc
  obtain⟨k1,_⟩:=ne hk
  obtain⟨f1,f2⟩:=lA hw hp
  rw[if_neg (by decide),pU k1 (by omega),JR,dR f1 (by simp only[JU,aF]; omega),JR,dR f2 (by simp only[JU,aF]; omega),JR,
   uX x.I5 _ (xM (sF hr).2 hw2) (by simp only[JU,aF]; omega) hw2,JR]
  simp only[AU,s6,lV,JY]
  rfl
 ·rw[if_neg hc,if_neg hc,JR]
  rfl
theorem u0 {b:Bl} {t p e v:Int} (hc:fp b t p e v=0):bi b=true∧(b.null=true∨dc b.data=true)∧(0≤t∧t≤2147483647)∧(p= -1∧e= -1∨v>0∧who p e=true):=by
 unfold fp at hc
 split at hc
 ·rename_i h1
  split at hc
  ·rename_i h2
   simp only[Bool.and_eq_true,Bool.or_eq_true,tmB,yW,decide_eq_true_eq] at h1 h2
   exact⟨h1.1,h1.2,h2.1,h2.2⟩
  ·exact absurd hc (by decide)
 ·exact absurd hc (by decide)
theorem BZ {b:Bl} (hb:bi b=true) (h:b.null=true∨dc b.data=true):bh (eE b) 2=true∧b.data.length≤32767:=by
 unfold eE
 rcases h with h | h
 ·have:b.data = []:=by unfold bi at hb; rw[h] at hb; simpa using hb
  rw[if_pos h,this]
  exact⟨by decide,by decide⟩
 ·obtain⟨k1,_⟩:=ne h
  refine⟨?_,k1⟩
  split
  ·decide
  ·rw[sE]; exact JS (by omega)
def zc (v:Int) (x:aX):List UInt8:=if v>0 then zb x else za x
theorem u4 (x:aX) (v:Int) (t:List UInt8) (hp:wI x.I6) (he:wI x.I8) (hm:wI x.Jb) (ht:t.length≤900000):fX (t,0) x v=some (if fp x.Jc x.Jb x.I6 x.I8 v=0 then (t++zc v x,0) else (t,fp x.Jc x.Jb x.I6 x.I8 v)):=by
 unfold fX
 rw[uY x v he hm,JR,xO,JR]
 by_cases hc:fp x.Jc x.Jb x.I6 x.I8 v=0
 ·rw[if_pos hc,if_pos hc]
  simp only
  obtain⟨h1,h2,h3,h4⟩:=u0 hc
  obtain⟨f0,k1⟩:=BZ h1 h2
  have f4:bh x.Jb 4=true:=by rw[eo]; exact JS (by omega)
  have f1:bh x.I6 8=true:=by rw[Et]; exact JS hp
  have f2:bh x.I8 2=true:=by
   rcases h4 with h4 | h4
   ·rw[h4.2]; decide
   ·exact (lA h4.2 hp).2
  rw[if_neg (by decide),iX f0 h1 (by omega),JR,dR f4 (by simp only[JU,aF]; omega),JR]
  unfold zc
  by_cases hv:v>0
  ·rw[if_pos hv,if_pos hv,dR f1 (by simp only[JU,aF]; omega),JR,dR f2 (by simp only[JU,aF]; omega),JR,JR]
   simp only[zb,uZ,JY]
   rfl
  ·rw[if_neg hv,if_neg hv,JR]
   simp only[za,uZ,JY]
   rfl
 ·rw[if_neg hc,if_neg hc]
  rfl
theorem wH (b:Bl):iS b=some (!b.null && dc b.data):=by
 unfold iS
 cases hb:b.null with
 | true=>rfl
 | false =>
  rw[if_neg (by decide)]
  unfold dc
  by_cases h1:(b.data.length:Int)≥1
  ·rw[if_pos h1]
   have:b.data.isEmpty=false:=by cases hd:b.data with | nil=>rw[hd] at h1; exact absurd h1 (by decide) | cons c l=>rfl
   by_cases h2:(b.data.length:Int)≤32767
   ·rw[if_pos h2,this,JS h2]
    rfl
   ·rw[if_neg h2,this,JT h2]
    rfl
  ·rw[if_neg h1]
   have:b.data = []:=List.eq_nil_of_length_eq_zero (by omega)
   rw[this]
   rfl
theorem B0 (r:bK):jQ r=some (who r.I6 r.I8):=by
 unfold jQ who
 by_cases h1:r.I6≥0
 ·rw[if_pos h1]
  by_cases h2:r.I8≥0
  ·rw[if_pos h2]
   by_cases h3:r.I8≤32767
   ·rw[if_pos h3,JS (by omega)]
    rfl
   ·rw[if_neg h3,JT (by omega)]
    rfl
  ·rw[if_neg h2,JT (by omega)]
   rfl
 ·rw[if_neg h1,JT (by omega)]
  rfl
def chkR (k v:Int) (r:bK):Int:=if k=22 then fp r.Jc r.Jb r.I6 r.I8 v else if k=24 then mD r.Jc.data r.I6 r.I8 r.I5 else lI r.Jc.data r.I6 r.I8
theorem sG (k v:Int) (hv:v=0∨v=1) (r:bK) (hn:k≠22→r.Jc.null=false) (hl:r.I5.length≤1000000) (hx: ∀ t,t∈r.I5→t.I7.length≤1000000∧t.Jd.length≤1000000):iT k v r=some (chkR k v r):=by
 unfold iT chkR
 by_cases hk:k=22
 ·rw[if_pos hk,if_pos hk,wH,B0]
  unfold fp
  have h1:(if r.Jc.null=true then (if r.Jc.data = [] then some false else some true) else ((some (!r.Jc.null && dc r.Jc.data)).bind fun x13=>if x13=true then some false else some true))=some (!(bi r.Jc && (r.Jc.null || dc r.Jc.data))):=by
   unfold bi
   cases r.Jc.null with
   | true =>
    rw[if_pos rfl]
    by_cases hd:r.Jc.data = []
    ·rw[if_pos hd,hd]; rfl
    ·rw[if_neg hd]
     simp[hd]
   | false=>cases dc r.Jc.data <;> rfl
  have h2:(if r.Jb<0 then some true else (if r.Jb>2147483647 then some true else some false))=some (!tmB r.Jb):=by
   unfold tmB
   by_cases a:r.Jb<0
   ·rw[if_pos a,JT (by omega)]; rfl
   ·rw[if_neg a]
    by_cases b:r.Jb>2147483647
    ·rw[if_pos b,JT (by omega)]; rfl
    ·rw[if_neg b,JS (by omega)]; rfl
  have h3:(if r.I6=(-1) then (if r.I8=(-1) then some true else (if v=1 then ((some (who r.I6 r.I8)).bind fun x36=>some x36) else some false)) else (if v=1 then ((some (who r.I6 r.I8)).bind fun x39=>some x39) else some false))=some (yW r.I6 r.I8 || (decide (v>0) && who r.I6 r.I8)):=by
   unfold yW
   rcases hv with rfl | rfl
   ·by_cases a:r.I6= -1 <;> by_cases b:r.I8= -1 <;> simp[a,b]
   ·by_cases a:r.I6= -1 <;> by_cases b:r.I8= -1 <;> simp[a,b]
  rw[h1,h2,h3]
  cases (bi r.Jc && (r.Jc.null || dc r.Jc.data)) <;> cases tmB r.Jb <;> cases (yW r.I6 r.I8 || (decide (v>0) && who r.I6 r.I8)) <;> rfl
 ·rw[if_neg hk,if_neg hk,wH,B0,hn hk]
  simp only[Bool.not_false,Bool.true_and]
  by_cases h4:k=24
  ·rw[if_pos h4,if_pos h4,if_pos h4,BV _ hl hx]
   unfold mD pw
   by_cases h0:r.I5.length=0
   ·rw[if_pos (by omega),if_pos h0]
    cases dc r.Jc.data <;> cases who r.I6 r.I8 <;> rfl
   ·rw[if_neg (by omega),if_neg h0]
    cases dc r.Jc.data <;> cases who r.I6 r.I8 <;> cases nb r.I5 <;> rfl
  ·rw[if_neg h4,if_neg h4,if_neg h4]
   unfold lI
   cases dc r.Jc.data <;> cases who r.I6 r.I8 <;> rfl
def gE (x:bI):bK:=⟨⟨false,x.Jc⟩,0,x.I6,x.I8,[],x.Js⟩
def gA (x:bJ):bK:=⟨⟨false,x.Jc⟩,0,x.I6,x.I8,x.I5,false⟩
def gB (x:aX):bK:=⟨x.Jc,x.Jb,x.I6,x.I8,[],false⟩
def Pr.map {α β:Type} (g:α→β) (p:Pr α):Pr β:=p.bind fun x=> .ret (g x)
theorem Sp.map {α β:Type} {p:Pr α} {enc:α→List UInt8} {ok:α→Prop} (g:α→β) (g':β→α) (hg: ∀ x,g' (g x)=x) (h:Sp p enc ok):Sp (p.map g) (fun y=>enc (g' y)) (fun y=>ok (g' y)∧g (g' y)=y):=by
 refine⟨fun s q y r hq hp=> ?_,fun s t q y hq hy hd=> ?_⟩
 ·obtain⟨x,m,h1,h2⟩:=Pr.bind_ok hp
  injection h2 with h2
  obtain⟨rfl,rfl⟩:=Kj h2
  obtain⟨a1,a2,a3,a4,a5⟩:=h.spell s q x m hq h1
  rw[hg x]
  exact⟨a1,a2,a3,a4,a5,rfl⟩
 ·have:=h.back s t q (g' y) hq hy.1 hd
  rw[Pr.map,Pr.bind_of this,hy.2]
  rfl
def zR:bK:=⟨⟨false,[]⟩,0,0,0,[],false⟩
noncomputable instance decTop:DecidableEq Top:=fun a b=>Classical.propDecidable (a=b)
theorem va: ∀ (l m:List Top),iK l m=decide (l=m)
 | [],[]=>rfl
 | [],b::m=>by simp[iK]
 | a::l,[]=>by simp[iK]
 | a::l,b::m=>by
  rw[iK,va l m]
  obtain⟨a1,a2⟩:=a
  obtain⟨b1,b2⟩:=b
  unfold yR
  simp only
  by_cases h1:a1=b1 <;> by_cases h2:a2=b2 <;> by_cases h3:l=m <;> simp[h1,h2,h3]
noncomputable instance decMark:DecidableEq aP:=fun a b=>Classical.propDecidable (a=b)
def toR (m:aP):dG:=⟨m.I6,m.I8,m.Js,m.I5,m.Ji⟩
theorem B5: ∀ (l:List aP) (acc:List dG),acc.length+l.length≤1000000→gb l acc=some (acc++l.map toR)
 | [],acc,_=>by rw[gb]; simp
 | m::l,acc,h=>by
  rw[J0] at h
  rw[gb,if_pos (by omega),B5 l _ (by rw[JU,KY]; omega),List.map_cons,JY]
  rfl
theorem of_eq (l:List aP) (h:l.length≤1000000):nV l=some (l.map toR):=by
 unfold nV
 rw[B5 l [] (by simpa using h)]
 rfl
def sH (v:Int) (m:aP):Int:=if (who m.I6 m.I8 && (tmB m.Ji && !(decide (v=0) && decide (m.Ji≠0))))=true then pw m.I5 else 11
def jX (v:Int):List aP→Int
 | []=>0
 | m::l=>if sH v m=0 then jX v l else sH v m
def lW (v:Int) (l:List aP):Int:=if l.length=0 then 10 else jX v l
def okW (m:aP):Prop:=wI m.I8∧wI m.Ji∧wTl m.I5
theorem Dc (v:Int) (m:aP) (h:okW m):f3 m v=some (sH v m):=by
 obtain⟨h1,h2,h3⟩:=h
 unfold f3 sH
 rw[xN _ _ h1,yV _ h3,JR]
 have hc:(if m.Ji<0 then some true else ((il m.Ji 4).bind fun x18=>if x18=true then (if v=0 then (if m.Ji>0 then some true else some false) else some false) else some true))=some (!(tmB m.Ji && !(decide (v=0) && decide (m.Ji≠0)))):=by
  unfold tmB
  by_cases a:m.Ji<0
  ·rw[if_pos a,JT (by omega)]; rfl
  ·rw[if_neg a,fx _ _ h2,eo,JR]
   by_cases b:m.Ji≤2147483647
   ·rw[if_pos (JS (by omega)),JS (by omega)]
    by_cases c:v=0
    ·rw[if_pos c,JS c]
     by_cases d:m.Ji>0
     ·rw[if_pos d,JS (by omega)]; rfl
     ·rw[if_neg d,JT (by omega)]; rfl
    ·rw[if_neg c,JT c]; rfl
   ·rw[if_neg (by simp; omega),JT (by omega)]; rfl
 rw[hc]
 cases who m.I6 m.I8 <;> cases (tmB m.Ji && !(decide (v=0) && decide (m.Ji≠0))) <;> rfl
theorem s7 (v:Int) (y:Int): ∀ l:List aP,(∀ m,m∈l→okW m)→eN v l y=some (if jX v l=0 then .go y else .ret (jX v l))
 | [],_=>rfl
 | m::l,h=>by
  rw[eN,Dc v m (h m (.head _)),JR,jX]
  by_cases hc:sH v m=0
  ·rw[if_pos hc,if_pos hc,s7 v y l (fun z hz=>h z (.tail _ hz))]
  ·rw[if_neg hc,if_neg hc,if_neg hc]
theorem ED (v:Int) (l:List aP) (h: ∀ m,m∈l→okW m):ie l v=some (lW v l):=by
 unfold ie lW
 by_cases h0:l.length=0
 ·rw[if_pos (by omega),if_pos h0]
 ·rw[if_neg (by omega),if_neg h0,s7 v 0 l h]
  by_cases hc:jX v l=0
  ·rw[if_pos hc,hc]; rfl
  ·rw[if_neg hc]; rfl
theorem Gb (v:Int) (m:aP) (hl:m.I5.length≤1000000) (hx: ∀ t,t∈m.I5→t.I7.length≤1000000∧t.Jd.length≤1000000):my (toR m) v=some (sH v m):=by
 unfold my sH
 rw[BV (toR m).I5 hl hx]
 have hc0:(if m.I6<0 then some true else (if m.I8<0 then some true else (if m.I8>32767 then some true else (if m.Ji<0 then some true else (if m.Ji>2147483647 then some true else (if v=0 then (if m.Ji=0 then some false else some true) else some false))))))=some (!(who m.I6 m.I8 && (tmB m.Ji && !(decide (v=0) && decide (m.Ji≠0))))):=by
  unfold who tmB
  by_cases a:m.I6<0
  ·rw[if_pos a,JT (p:=0≤m.I6∧ _) (by omega)]; rfl
  rw[if_neg a]
  by_cases b:m.I8<0
  ·rw[if_pos b,JT (p:=0≤m.I6∧ _) (by omega)]; rfl
  rw[if_neg b]
  by_cases c:m.I8>32767
  ·rw[if_pos c,JT (p:=0≤m.I6∧ _) (by omega)]; rfl
  rw[if_neg c,JS (p:=0≤m.I6∧ _) (by omega)]
  by_cases d:m.Ji<0
  ·rw[if_pos d,JT (p:=0≤m.Ji∧ _) (by omega)]; rfl
  rw[if_neg d]
  by_cases e:m.Ji>2147483647
  ·rw[if_pos e,JT (p:=0≤m.Ji∧ _) (by omega)]; rfl
  rw[if_neg e,JS (p:=0≤m.Ji∧ _) (by omega)]
  by_cases f:v=0
  ·by_cases g:m.Ji=0
   ·simp[f,g]
   ·simp[f,g]
  ·simp[f]
 have hc:(if (toR m).I6<0 then some true else (if (toR m).I8<0 then some true else (if (toR m).I8>32767 then some true else (if (toR m).Ji<0 then some true else (if (toR m).Ji>2147483647 then some true else (if v=0 then (if (toR m).Ji=0 then some false else some true) else some false))))))=some (!(who m.I6 m.I8 && (tmB m.Ji && !(decide (v=0) && decide (m.Ji≠0))))):=hc0
 rw[hc]
 have ht:(toR m).I5=m.I5:=rfl
 rw[ht]
 unfold pw
 by_cases h0:m.I5.length=0
 ·rw[if_pos h0,if_pos (show (m.I5.length:Int)=0 by omega)]
  cases (who m.I6 m.I8 && (tmB m.Ji && !(decide (v=0) && decide (m.Ji≠0)))) <;> rfl
 ·rw[if_neg h0,if_neg (show ¬ (m.I5.length:Int)=0 by omega)]
  cases (who m.I6 m.I8 && (tmB m.Ji && !(decide (v=0) && decide (m.Ji≠0)))) <;> cases nb m.I5 <;> rfl
def okL (m:aP):Prop:=m.I5.length≤1000000∧ ∀ t,t∈m.I5→t.I7.length≤1000000∧t.Jd.length≤1000000
theorem px (a:List dG) (v:Int) (hb:a.length≤1000000) (y:Int): ∀ (l:List aP) (k fuel:Nat),a.drop k=l.map toR→l.length<fuel→(∀ m,m∈l→okL m)→ ∃ z,eF a v fuel y k=some (if jX v l=0 then .go (y,z) else .ret (jX v l))
 | [],k,fuel+1,h,_,_=>by
  have:=fK h
  exact⟨k,by rw[eF,if_neg (by omega)]; rfl⟩
 | m::l,k,fuel+1,h,hf,ho=>by
  obtain⟨h1,h2,h3⟩:=dJ h
  rw[J0] at hf
  have hm:=ho m (.head _)
  obtain⟨z,hz⟩:=px a v hb y l (k+1) fuel h2 (by omega) (fun z hz=>ho z (.tail _ hz))
  rw[eF,if_pos (by omega),h1,JR,Gb v m hm.1 hm.2,JR,jX]
  by_cases hc:sH v m=0
  ·rw[if_pos hc,if_pos (by omega),if_pos hc]
   exact⟨z,hz⟩
  ·rw[if_neg hc,if_neg hc]
   exact⟨0,by rw[if_neg hc]⟩
theorem Dd (v:Int) (l:List aP) (hb:l.length≤1000000) (ho: ∀ m,m∈l→okL m):iU (l.map toR) v=some (lW v l):=by
 unfold iU lW
 rw[Kl]
 by_cases h0:l.length=0
 ·rw[if_pos (by omega),if_pos h0]
 ·obtain⟨z,hz⟩:=px (l.map toR) v (by rw[Kl]; omega) 0 l 0 ((l.length:Int).toNat+1) (List.drop_zero) (by omega) ho
  rw[if_neg (by omega),if_neg h0,hz]
  by_cases hc:jX v l=0
  ·rw[if_pos hc,hc]; rfl
  ·rw[if_neg hc]; rfl
def wJ (v:Int):Pr aP:=(fd 8).bind fun p=>(fd 2).bind fun e=>qT.bind fun c=>yZ.bind fun l=>(if v>0 then fd 4 else .ret 0).bind fun k=> .ret ⟨p,e,c,l,k⟩
def lB (v:Int) (m:aP):List UInt8:=be m.I6 8++(be m.I8 2++(j7 m.Js++(lV m.I5++(if v>0 then be m.Ji 4 else []))))
def okM (v:Int) (m:aP):Prop:=bh m.I6 8=true∧bh m.I8 2=true∧v6 m.I5∧(if v>0 then bh m.Ji 4=true else m.Ji=0)
theorem Sp_co (v:Int):Sp (if v>0 then fd 4 else Pr.ret 0) (fun k=>if v>0 then be k 4 else []) (fun k=>if v>0 then bh k 4=true else k=0):=by
 by_cases hv:v>0
 ·simp only[if_pos hv]
  exact spI 4
 ·simp only[if_neg hv]
  exact Em 0
theorem Gc (v:Int):Sp (wJ v) (lB v) (okM v):=by
 refine Sp.congr (Sp.seq (β:=aP) (π:=(·.I6)) (ok2:=fun x:aP=>bh x.I8 2=true∧v6 x.I5∧(if v>0 then bh x.Ji 4=true else x.Ji=0)) (spI 8) fun p =>
  Sp.congr (Sp.seq (β:=aP) (π:=(·.I8)) (ok2:=fun x:aP=>v6 x.I5∧(if v>0 then bh x.Ji 4=true else x.Ji=0)∧x.I6=p) (spI 2) fun e =>
  Sp.congr (Sp.seq (β:=aP) (π:=(·.Js)) (ok2:=fun x:aP=>v6 x.I5∧(if v>0 then bh x.Ji 4=true else x.Ji=0)∧x.I6=p∧x.I8=e) BR fun c =>
  Sp.congr (Sp.seq (β:=aP) (π:=(·.I5)) (ok2:=fun x:aP=>(if v>0 then bh x.Ji 4=true else x.Ji=0)∧x.I6=p∧x.I8=e∧x.Js=c) sC fun l =>
  Sp.congr (Sp.seq (β:=aP) (π:=(·.Ji)) (ok2:=fun x:aP=>x.I6=p∧x.I8=e∧x.Js=c∧x.I5=l) (Sp_co v) fun k =>
  (Em (β:=aP) _).congr (ok':=fun x:aP=>(x.I6=p∧x.I8=e∧x.Js=c∧x.I5=l)∧x.Ji=k) (fun x=> ?_) (fun _ _=>rfl)) (fun x=> ?_) (fun _ _=>rfl)) (fun x=> ?_) (fun _ _=>rfl)) (fun x=> ?_) (fun _ _=>rfl)) (fun x=> ?_) (fun _ _=>rfl)) (fun x=> ?_) (fun x _=>by simp only[lB,lV,Kg])
 ·obtain⟨a1,a2,a3,a4,a5⟩:=x
  simp only[aP.mk.injEq]
  exact⟨fun ⟨h,h1,h2,h3,h4⟩=>⟨⟨h,h1,h2,h3⟩,h4⟩,fun ⟨⟨h,h1,h2,h3⟩,h4⟩=>⟨h,h1,h2,h3,h4⟩⟩
 ·exact⟨fun ⟨h,h1,h2,h3,h4⟩=>⟨⟨h,h1,h2,h3⟩,h4⟩,fun ⟨⟨h,h1,h2,h3⟩,h4⟩=>⟨h,h1,h2,h3,h4⟩⟩
 ·exact⟨fun ⟨h,h1,h2,h3,h4⟩=>⟨⟨h,h1,h2,h3⟩,h4⟩,fun ⟨⟨h,h1,h2,h3⟩,h4⟩=>⟨h,h1,h2,h3,h4⟩⟩
 ·exact⟨fun ⟨_,h,h1,h2,h3⟩=>⟨⟨h,h1,h2⟩,h3⟩,fun ⟨⟨h,h1,h2⟩,h3⟩=>⟨trivial,h,h1,h2,h3⟩⟩
 ·exact⟨fun ⟨h,h1,h2,h3⟩=>⟨⟨h,h1,h2⟩,h3⟩,fun ⟨⟨h,h1,h2⟩,h3⟩=>⟨h,h1,h2,h3⟩⟩
 ·exact Iff.rfl
theorem Gd (v:Int) (m:aP) (h:okM v m):15≤(lB v m).length:=by
 have:(j7 m.Js).length=1:=aF _ _
 simp only[lB,lV,JU,aF]
 omega
theorem vb (v:Int) (m:aP):15+wTs m.I5≤(lB v m).length∧(lB v m).length≤19+wTs m.I5:=by
 have:(j7 m.Js).length=1:=aF _ _
 have h2:=jW m.I5
 simp only[lB,lV,JU,aF,h2]
 split <;> simp only[aF,K6] <;> omega
def wK (v:Int) (st11:I):Option (Option aP×I):=(dL st11 8).bind fun (x20,st21)=>(dL st21 2).bind fun (x23,st24)=>(fN st24).bind fun (x26,st27)=>(dA st27).bind fun (x30,st33)=>(if v>0 then ((dL st33 4).bind fun (x43,st44)=>some (x43,st44)) else some (0,st33)).bind fun (y39,st40)=>if st40.err=0 then some (some ⟨x20,x23,x26,x30,y39⟩,st40) else some (none,st40)
theorem B_co (v:Int):CB (fun st33=>if v>0 then ((dL st33 4).bind fun (x43,st44)=>some (x43,st44)) else some (0,st33)) (if v>0 then fd 4 else Pr.ret 0) 0:=by
 by_cases hv:v>0
 ·simp only[if_pos hv]
  refine CB.congr Q4.cb (fun st=> ?_)
  cases dL st 4 <;> rfl
 ·simp only[if_neg hv]
  exact⟨fun _ _=>rfl,fun s q _ hq=> .inr ⟨0,q,rfl,rfl,Kn _,hq⟩⟩
theorem w_co (v:Int): ∀ (s:List UInt8) (q:Nat) (a:Int) (r:Nat),s.length≤1000000→q≤s.length→(if v>0 then fd 4 else Pr.ret 0) s q= .ok (a,r)→wI a:=by
 intro s q a r hl hq h
 by_cases hv:v>0
 ·rw[if_pos hv] at h
  exact ow (by decide) (by decide) s q a r hl hq h
 ·rw[if_neg hv] at h
  injection h with h
  rw[← (Kj h).1]
  exact wi0
theorem Ge (v:Int):CB (wK v) ((wJ v).map some) none:=by
 have h:CB (wK v) ((fd 8).bind fun p=>(fd 2).bind fun e=>qT.bind fun c=>yZ.bind fun l=>(if v>0 then fd 4 else .ret 0).bind fun k=> .ret (some ⟨p,e,c,l,k⟩)) none:=by
  refine CB.congr (CB.bind wI Q8.cb (ow (by decide) (by decide)) wi0 fun p hp=>CB.bind wI Q2.cb (ow (by decide) (by decide)) wi0 fun e he=>CB.bind (fun _=>True) Eu (fun _ _ _ _ _ _ _=>trivial) trivial fun c _=>CB.bind wTl yQ Ev ⟨(fun t h=>nomatch h),by decide⟩ fun l hl=>CB.bind wI (B_co v) (w_co v) wi0 fun k hk =>
   (?_:CB (fun st40:I=>if st40.err=0 then some (some (⟨p,e,c,l,k⟩:aP),st40) else some ((none:Option aP),st40)) (Pr.ret (some (⟨p,e,c,l,k⟩:aP))) none)) (fun st=>rfl)
  exact⟨fun st h=>if_neg h,fun s q _ hq=> .inr ⟨_,q,rfl,rfl,Kn _,hq⟩⟩
 refine h.pr ?_
 funext s q
 unfold wJ Pr.map Pr.bind
 cases fd 8 s q with
 | error e=>rfl
 | ok x =>
  simp only
  cases fd 2 s x.2 with
  | error e=>rfl
  | ok x =>
   simp only
   cases qT s x.2 with
   | error e=>rfl
   | ok x =>
    simp only
    cases yZ s x.2 with
    | error e=>rfl
    | ok x =>
     simp only
     cases (if v>0 then fd 4 else Pr.ret 0) s x.2 <;> rfl
theorem Pr.map_err {α β:Type} {p:Pr α} {g:α→β} {s:List UInt8} {q:Nat} {e:Int} (h:p.map g s q= .error e):p s q= .error e:=by
 unfold Pr.map Pr.bind at h
 cases hp:p s q with
 | error e' =>
  rw[hp] at h
  injection h with h
  rw[h]
 | ok x=>rw[hp] at h; exact nomatch h
theorem Pr.map_ok {α β:Type} {p:Pr α} {g:α→β} {s:List UInt8} {q r:Nat} {y:β} (h:p.map g s q= .ok (y,r)): ∃ a,p s q= .ok (a,r)∧y=g a:=by
 unfold Pr.map Pr.bind at h
 cases hp:p s q with
 | error e'=>rw[hp] at h; exact nomatch h
 | ok x =>
  rw[hp] at h
  injection h with h
  obtain⟨rfl,rfl⟩:=Kj h
  exact⟨x.1,rfl,rfl⟩
theorem AV {γ:Type} (K:aP→I→Option γ) (D:I→Option γ) (v:Int) (st:I) :
 ((dL st 8).bind fun (x20,st21)=>(dL st21 2).bind fun (x23,st24)=>(fN st24).bind fun (x26,st27)=>(dA st27).bind fun (x30,st33)=>(if v>0 then ((dL st33 4).bind fun (x43,st44)=>some (x43,st44)) else some (0,st33)).bind fun (y39,st40)=>(gJ st40).bind fun (x46,st47)=>if x46=0 then K ⟨x20,x23,x26,x30,y39⟩ st47 else D st47) =
 (wK v st).bind fun (o,st47)=>match o with
  | some m=>K m st47
  | none=>D st47:=by
 unfold wK
 cases dL st 8 with
 | none=>rfl
 | some x =>
  obtain⟨a1,s1⟩:=x
  simp only[JR]
  cases dL s1 2 with
  | none=>rfl
  | some x =>
   obtain⟨a2,s2⟩:=x
   simp only[JR]
   cases fN s2 with
   | none=>rfl
   | some x =>
    obtain⟨a3,s3⟩:=x
    simp only[JR]
    cases dA s3 with
    | none=>rfl
    | some x =>
     obtain⟨a4,s4⟩:=x
     simp only[JR]
     cases (if v>0 then ((dL s4 4).bind fun (x43,st44)=>some (x43,st44)) else some (0,s4)) with
     | none=>rfl
     | some x =>
      obtain⟨a5,s5⟩:=x
      simp only[JR,bt]
      by_cases he:s5.err=0
      ·rw[if_pos he,if_pos he,JR]
      ·rw[if_neg he,if_neg he,JR]
theorem ng (v n:Int) (fuel:Nat) (y4 acc:List aP) (k:Nat) (st:I) (hk:k≤1000000) (ha:acc.length≤1000000) :
 cW v n (fuel+1) y4 acc k st=if (k:Int)<n then (wK v st).bind fun (o,st47)=>match o with
  | some m=>cW v n fuel y4 (acc ++ [m]) (k+1) st47
  | none=>some (.ret ([],st47)) else some (.go (y4,acc,k,st)):=by
 rw[cW]
 by_cases h:(k:Int)<n
 case neg=>rw[if_neg h,if_neg h]
 rw[if_pos h,if_pos h]
 refine (AV (fun m st47=>if (acc.length+1)*56≤140737488355328 then (if -9223372036854775808≤((k:Int)+1)∧((k:Int)+1)≤9223372036854775807 then cW v n fuel y4 (acc ++ [m]) (k+1) st47 else none) else none) (fun st47=>some (.ret ([],st47))) v st).trans ?_
 cases wK v st with
 | none=>rfl
 | some x =>
  obtain⟨o,s⟩:=x
  rw[JR,JR]
  cases o with
  | none=>rfl
  | some m =>
   show (if (acc.length+1)*56≤140737488355328 then _ else _)= _
   rw[if_pos (by omega),if_pos (by omega)]
theorem vc (v n:Int) (s:List UInt8) (hs:s.length≤1000000) (y:List aP): ∀ (m fuel k:Nat) (acc:List aP) (q:Nat),((k+m:Nat):Int)=n→m<fuel→q≤s.length→acc.length=k→k+m≤1000000 →
 (∃ e st,iv (wJ v) m s q= .error e∧e≠0∧st.err=e∧cW v n fuel y acc k ⟨s.drop q,q,0⟩=some (.ret ([],st)))∨(∃ l r,iv (wJ v) m s q= .ok (l,r)∧cW v n fuel y acc k ⟨s.drop q,q,0⟩=some (.go (y,acc++l,k+m,⟨s.drop r,r,0⟩))∧q≤r∧r≤s.length)
 | 0,fuel+1,k,acc,q,hn,hf,hq,ha,hk=>by
  refine .inr ⟨[],q,rfl,?_,Kn _,hq⟩
  rw[ng _ _ _ _ _ _ _ (by omega) (by omega),if_neg (by omega),Kg,Nat.add_zero]
 | m+1,fuel+1,k,acc,q,hn,hf,hq,ha,hk=>by
  rw[ng _ _ _ _ _ _ _ (by omega) (by omega),if_pos (by omega)]
  rcases (Ge v).run s q hs hq with⟨e,st,p1,g1,x1,y1⟩ | ⟨o,r,p1,g1,n1,l1⟩
  ·refine .inl ⟨e,st,?_,by rw[← x1]; exact y1,x1,?_⟩
   ·rw[iv,Pr.bind_err (Pr.map_err p1)]
   ·rw[g1]
    rfl
  ·obtain⟨a,p2,rfl⟩:=Pr.map_ok p1
   have ih:=vc v n s hs y m fuel (k+1) (acc ++ [a]) r (by omega) (by omega) l1 (by rw[JU,KY,ha]) (by omega)
   rw[g1,JR]
   simp only
   rcases ih with⟨e,st,h1,h2,h3,h4⟩ | ⟨l,r',h1,h2,h3,h4⟩
   ·exact .inl ⟨e,st,by rw[iv,Pr.bind_of p2,Pr.bind_err h1],h2,h3,h4⟩
   ·refine .inr ⟨a::l,r',by rw[iv,Pr.bind_of p2,Pr.bind_of h1]; rfl,?_,by omega,h4⟩
    rw[h2,JY,show k+1+m=k+(m+1) by omega]
    rfl
def pMs (v:Int):Pr (List aP):=kA 4 15 (wJ v)
def s8 (v:Int) (l:List aP):List UInt8:=be (l.length:Int) 4++bl (lB v) l
theorem Sp_ms (v:Int):Sp (pMs v) (s8 v) (fun l=>bh (l.length:Int) 4=true∧ ∀ m,m∈l→okM v m):=uR 4 15 (by decide) (by decide) (Gc v) (Gd v)
def oz (v:Int):Pr (List aP):=(pMs v).bind fun l=>if lW v l=0 then .ret l else .err (lW v l)
theorem EE (v:Int):Sp (oz v) (s8 v) (fun l=>(bh (l.length:Int) 4=true∧ ∀ m,m∈l→okM v m)∧lW v l=0):=by
 refine Sp.congr (Sp.seq (β:=List aP) (π:=id) (ok2:=fun l:List aP=>lW v l=0) (Sp_ms v) fun l=>(uS (β:=List aP) _ _ _).congr (ok':=fun x:List aP=>lW v x=0∧id x=l) (fun x=> ?_) (fun _ _=>rfl)) (fun x=>Iff.rfl) (fun x _=>by rw[Kg]; rfl)
 exact⟨fun ⟨h1,h2⟩=>⟨by rw[h2]; exact h1,h2⟩,fun ⟨h1,h2⟩=>⟨by have h2:x=l:=h2; rw[← h2]; exact h1,h2⟩⟩
theorem zd {l:List Top} (h:v6 l) (hw:wTs l≤1000000):wTl l:=by
 have hn:=kT l
 refine⟨fun t ht=> ?_,by omega⟩
 have hm:=qV _ _ ht
 unfold wT at hm
 obtain⟨b1,b2,b3⟩:=h.2 t ht
 exact⟨by show t.Jd.length≤ _; omega,by show t.I7.length≤ _; omega,fun n hn=>eI (b3 n hn)⟩
theorem okM_co {v:Int} {m:aP} (h:okM v m):wI m.Ji:=by
 have:=h.2.2.2
 split at this
 ·exact eI this
 ·rw[this]; exact wi0
theorem okM_W {v:Int} {m:aP} (h:okM v m) (hw:wTs m.I5≤1000000):okW m:=⟨eI h.2.1,okM_co h,zd h.2.2.1 hw⟩
theorem De (v:Int) (l:List aP) (m:aP) (hm:m∈l):wTs m.I5≤(s8 v l).length:=by
 have h1:=nc (enc:=lB v) l m hm
 have h2:=(vb v m).1
 rw[s8,JU]
 omega
theorem EF (l:List UInt8) (q:Nat) (e:Int):bU ⟨l,q,0⟩ e=some (⟨l,q,e⟩:I):=by rw[dt]; rfl
theorem Gf (v:Int):CB (fun st=>fF st v) (oz v) []:=by
 refine⟨fun st h=> ?_,fun s q hs hq=> ?_⟩
 ·show fF st v= _
  unfold fF
  rw[ly h ⟨by decide,by decide⟩ ⟨by decide,by decide⟩,JR]
  simp only
  rw[show ((0:Int).toNat+1)=0+1 from rfl,ng _ _ _ _ _ _ _ (by decide) (by decide),if_neg (by decide),JR]
  simp only
  rw[bt,JR]
  simp only
  rw[if_neg h]
 ·show (∃ e st,oz v s q= _∧fF _ v= _∧ _∧ _)∨(∃ a r,oz v s q= _∧fF _ v= _∧ _∧ _)
  unfold fF
  rcases (qS 4 15 (by decide) (by decide) 4 15 rfl rfl (by decide)).run s q hq with⟨e,st,p1,g1,x1,y1⟩ | ⟨n,r,p1,g1,n1,l1⟩
  ·refine .inl ⟨e,st,?_,?_,x1,y1⟩
   ·rw[oz,Pr.bind_err (by rw[pMs,kA,Pr.bind_err p1])]
   ·rw[g1,JR]
    simp only
    rw[show ((0:Int).toNat+1)=0+1 from rfl,ng _ _ _ _ _ _ _ (by decide) (by decide),if_neg (by decide),JR]
    simp only
    rw[bt,JR]
    simp only
    rw[if_neg y1]
  ·obtain⟨c1,c2,c3,c4,c5,c6⟩:=lb (by decide) (by decide) hq p1
   have c2:=c2 (by decide)
   rw[g1,JR]
   simp only
   rcases vc v n s hs [] n.toNat (n.toNat+1) 0 [] r (by omega) (by omega) l1 rfl (by omega) with⟨e,st,h1,h2,h3,h4⟩ | ⟨l,r',h1,h2,h3,h4⟩
   ·refine .inl ⟨e,st,?_,?_,h3,by rw[h3]; exact h2⟩
    ·rw[oz,Pr.bind_err (by rw[pMs,kA,Pr.bind_of p1,h1])]
    ·rw[h4]
     rfl
   ·have hms:pMs v s q= .ok (l,r'):=by rw[pMs,kA,Pr.bind_of p1,h1]
    obtain⟨b1,b2,b3,b4,b5,b6⟩:=(Sp_ms v).spell s q l r' hq hms
    have hW: ∀ m,m∈l→okW m:=fun m hm=>okM_W (b6 m hm) (by have:=De v l m hm; omega)
    rw[h2,JR]
    simp only[Kc]
    rw[bt,JR]
    simp only[if_true]
    rw[ED v l hW,JR,oz,Pr.bind_of hms]
    by_cases hc:lW v l=0
    ·rw[if_pos hc,if_pos hc]
     exact .inr ⟨l,r',rfl,rfl,by omega,h4⟩
    ·rw[if_neg hc,if_neg hc,EF]
     exact .inl ⟨lW v l,_,rfl,rfl,rfl,hc⟩
theorem s9 (v:Int): ∀ (l:List aP) (t:List UInt8),(∀ m,m∈l→okM v m∧wTs m.I5≤2000)→t.length+(bl (lB v) l).length≤800000→ei v l (t,0)=some (t++bl (lB v) l,0)
 | [],t,_,_=>by rw[ei,bl,Kg]
 | m::l,t,h,ht=>by
  obtain⟨⟨o1,o2,o3,o4⟩,hw⟩:=h m (.head _)
  rw[bl,JU] at ht
  have hl:=(vb v m).1
  have hb:(j7 m.Js).length=1:=aF _ _
  rw[ei,dR o1 (by omega),JR,dR o2 (by rw[JU,aF]; omega),JR,BX _ _ (by rw[JU,JU,aF,aF]; omega),JR,
   uX m.I5 _ o3.2 (by rw[JU,JU,JU,aF,aF,hb]; omega) hw,JR]
  have ih:=fun t' (h':t'.length+(bl (lB v) l).length≤800000)=>s9 v l t' (fun z hz=>h z (.tail _ hz)) h'
  have htl:(lV m.I5).length=4+wTs m.I5:=by rw[lV,JU,aF,jW]
  by_cases hv:v>0
  ·rw[if_pos hv] at o4
   have e:lB v m=be m.I6 8++(be m.I8 2++(j7 m.Js++(lV m.I5++be m.Ji 4))):=by rw[lB,if_pos hv]
   have el:(lB v m).length=8+(2+(1+(4+wTs m.I5+4))):=by rw[e]; simp only[JU,aF,hb,htl]
   rw[if_pos hv,dR o4 (by simp only[JU,aF,hb,jW]; omega),JR,JR,ih _ (by simp only[JU,aF,hb,jW,show (8:Int).toNat=8 from rfl,show (2:Int).toNat=2 from rfl,show (4:Int).toNat=4 from rfl]; omega),bl,e]
   simp only[lV,JY]
   rfl
  ·have e:lB v m=be m.I6 8++(be m.I8 2++(j7 m.Js++lV m.I5)):=by rw[lB,if_neg hv,Kg]
   have el:(lB v m).length=8+(2+(1+(4+wTs m.I5))):=by rw[e]; simp only[JU,aF,hb,htl]
   rw[if_neg hv,JR,ih _ (by simp only[JU,aF,hb,jW,show (8:Int).toNat=8 from rfl,show (2:Int).toNat=2 from rfl]; omega),bl,e]
   simp only[lV,JY]
   rfl
theorem Df {v:Int} {m:aP} (h:sH v m=0):who m.I6 m.I8=true∧(0≤m.Ji∧m.Ji≤2147483647)∧(v=0→m.Ji=0)∧pw m.I5=0:=by
 unfold sH at h
 split at h
 ·rename_i h1
  simp only[Bool.and_eq_true,tmB,decide_eq_true_eq,Bool.not_eq_true',Bool.and_eq_false_iff,decide_eq_false_iff_not] at h1
  refine⟨h1.1,h1.2.1,fun hv=> ?_,h⟩
  rcases h1.2.2 with h2 | h2
  ·exact absurd hv h2
  ·exact Classical.byContradiction h2
 ·exact absurd h (by decide)
theorem ta {v:Int}: ∀ {l:List aP},jX v l=0→ ∀ m,m∈l→sH v m=0
 | a::l,h,m,hm=>by
  rw[jX] at h
  by_cases hc:sH v a=0
  ·rw[if_pos hc] at h
   rcases List.mem_cons.1 hm with rfl | hm
   ·exact hc
   ·exact ta h m hm
  ·rw[if_neg hc] at h
   exact absurd h hc
theorem Gg {v:Int} (hv:v=0∨v=1) {m:aP} (h:sH v m=0) (hp:wI m.I6) (hw:wTs m.I5≤2000):okM v m:=by
 obtain⟨h1,h2,h3,h4⟩:=Df h
 obtain⟨f1,f2⟩:=lA h1 hp
 refine⟨f1,f2,⟨by rw[eo]; exact JS (by have:=kT m.I5; omega),xM (sF h4).2 hw⟩,?_⟩
 rcases hv with rfl | rfl
 ·rw[if_neg (by decide)]; exact h3 rfl
 ·rw[if_pos (by decide),eo]; exact JS (by omega)
theorem wM (v:Int): ∀ (l:List aP) (b:Nat),(∀ m,m∈l→wTs m.I5≤b)→(bl (lB v) l).length≤l.length*(19+b)
 | [],_,_=>by simp[bl]
 | m::l,b,h=>by
  have h1:=(vb v m).2
  have h2:=h m (.head _)
  have h3:=wM v l b (fun z hz=>h z (.tail _ hz))
  rw[bl,JU,J0,Nat.add_mul]
  omega
theorem qW (a b:List dG) (h0:a.length≤1000000) (y:Bool): ∀ (l u:List aP) (k fuel:Nat),(∀ m,m∈l→m.I5.length≤1000000∧ ∀ t,t∈m.I5→t.I7.length≤140737488355328)→a.drop k=l.map toR→b.drop k=u.map toR→l.length=u.length→l.length<fuel→ ∃ z,e9 a b fuel y k=some (if l=u then .go (y,z) else .ret false)
 | [],[],k,fuel+1,_,ha,_,_,_=>by
  have:=fK ha
  exact⟨k,by rw[e9,if_neg (by omega),if_pos rfl]⟩
 | [],d::u,k,fuel,_,_,_,hl,_=>by simp at hl
 | c::l,[],k,fuel,_,_,_,hl,_=>by simp at hl
 | c::l,d::u,k,fuel+1,hx,ha,hb,hl,hf=>by
  obtain⟨t1,t2,t3⟩:=dJ ha
  obtain⟨u1,u2,u3⟩:=dJ hb
  simp only[J0] at hl hf
  obtain⟨z,hz⟩:=qW a b h0 y l u (k+1) fuel (fun m hm=>hx m (.tail _ hm)) t2 u2 (by omega) (by omega)
  have hc:=hx c (.head _)
  rw[e9,if_pos (by omega),t1,JR,u1,JR]
  have hq:(if (toR c).I6=(toR d).I6 then (if (toR c).I8=(toR d).I8 then (if (toR c).Js=true then (if (toR d).Js=true then (if (toR c).Ji=(toR d).Ji then ((cJ (toR c).I5 (toR d).I5).bind fun x58=>if x58=true then some false else some true) else some true) else some true) else (if (toR d).Js=true then some true else (if (toR c).Ji=(toR d).Ji then ((cJ (toR c).I5 (toR d).I5).bind fun x63=>if x63=true then some false else some true) else some true))) else some true) else some true)=some (!decide (c=d)):=by
   rw[yS (toR c).I5 _ hc.1 hc.2,va]
   obtain⟨a1,a2,a3,a4,a5⟩:=c
   obtain⟨b1,b2,b3,b4,b5⟩:=d
   simp only[aP.mk.injEq,JR,toR]
   by_cases h1:a1=b1 <;> by_cases h2:a2=b2 <;> by_cases h4:a4=b4 <;> by_cases h5:a5=b5 <;> cases a3 <;> cases b3 <;> simp[h1,h2,h4,h5]
  rw[hq,JR]
  by_cases hcd:c=d
  ·rw[JS hcd,if_neg (by decide),if_pos (by omega)]
   refine⟨z,hz.trans ?_⟩
   by_cases hlu:l=u
   ·rw[if_pos hlu,if_pos (by rw[hcd,hlu])]
   ·rw[if_neg hlu,if_neg (fun h=>hlu (List.cons.inj h).2)]
  ·rw[JT hcd,if_pos (by decide)]
   exact⟨0,by rw[if_neg (fun h=>hcd (List.cons.inj h).1)]⟩
theorem ze (l u:List aP) (h0:l.length≤1000000) (hx: ∀ m,m∈l→m.I5.length≤1000000∧ ∀ t,t∈m.I5→t.I7.length≤140737488355328):iH (l.map toR) (u.map toR)=some (decide (l=u)):=by
 unfold iH
 rw[Kl,Kl]
 by_cases hl:(l.length:Int)=(u.length:Int)
 ·obtain⟨z,hz⟩:=qW (l.map toR) (u.map toR) (by rw[Kl]; omega) false l u 0 ((l.length:Int).toNat+1) hx List.drop_zero List.drop_zero (by omega) (by omega)
  rw[if_pos hl,hz]
  by_cases h:l=u
  ·rw[if_pos h,JS h]; rfl
  ·rw[if_neg h,JT h]; rfl
 ·rw[if_neg hl,JT (fun h=>hl (by rw[h]))]
theorem vd (y:Int): ∀ l:List aP,(∀ m,m∈l→lU m)→fA l y=some (.ret 0)∨(fA l y=some (.go y)∧ ∀ m,m∈l→wTs m.I5≤1000)
 | [],_=> .inr ⟨rfl,fun m h=>nomatch h⟩
 | a::l,h=>by
  rw[fA]
  rcases Ep a.I5 (h a (.head _)).2.2.2.1.2 with g | ⟨g,hw⟩
  ·rw[g]; exact .inl rfl
  ·rw[g,JR,if_neg (by decide)]
   rcases vd y l (fun m hm=>h m (.tail _ hm)) with k | ⟨k,hk⟩
   ·exact .inl k
   ·refine .inr ⟨k,fun m hm=> ?_⟩
    rcases List.mem_cons.1 hm with rfl | hm
    ·exact hw
    ·exact hk m hm
theorem few19 (l:List aP) (h: ∀ m,m∈l→lU m):kU l=some 0∨(kU l=some 1∧l.length≤20∧ ∀ m,m∈l→wTs m.I5≤1000):=by
 unfold kU
 by_cases hl:(l.length:Int)>20
 ·rw[if_pos hl]; exact .inl rfl
 rw[if_neg hl]
 rcases vd 0 l h with k | ⟨k,hk⟩
 ·rw[k]; exact .inl rfl
 ·rw[k]; exact .inr ⟨rfl,by omega,hk⟩
theorem cK {α:Type} {l:List α} {k:Nat} {x:α} {t:List α} (h:l.drop k=x::t):l[k]? = some x∧l.drop (k+1)=t∧l.length=k+1+t.length:=by
 have hl:=congrArg List.length h
 rw[J7,J0] at hl
 refine⟨?_,?_,by omega⟩
 ·have:=congrArg (fun z=>z[0]?) h
  simpa using this
 ·rw[← KQ,h]
  rfl
theorem eb {α:Type} {l:List α} {k:Nat} (h:l.drop k = []):l.length≤k:=List.drop_eq_nil_iff.1 h
def oA (l:List Hd):Bool:=l.all fun h=>bi h.Jj
def fu (r:Rec):Int:=if r.Jq<0∨r.Jq>2147483647 then 11 else if (bi r.Jr && bi r.Jj && oA r.Jl)=true then 0 else 4
theorem tb (y:Bool): ∀ l:List Bl,dP l y=some (if l.all bi=true then .go y else .ret false)
 | []=>rfl
 | b::l=>by
  rw[dP,oN,JR,List.all_cons,tb y l]
  cases bi b <;> rfl
theorem wN (l:List Bl):fw l=some (l.all bi):=by
 unfold fw
 rw[tb]
 cases l.all bi <;> rfl
theorem tc (y:Int): ∀ l:List Hd,d7 l y=some (if oA l=true then .go y else .ret 4)
 | []=>rfl
 | h::l=>by
  rw[d7,wN,JR,tc y l]
  unfold oA
  rw[List.all_cons,List.all_cons,List.all_nil,Bool.and_true]
  cases bi h.Jj <;> rfl
theorem nh (r:Rec) (hw:wI r.Jq):fj r=some (fu r):=by
 unfold fj fu
 by_cases h:r.Jq<0
 ·rw[if_pos h,if_pos (.inl h)]
 rw[if_neg h,fx _ _ hw,eo,JR]
 by_cases h2:r.Jq>2147483647
 ·rw[if_neg (by simp; omega),if_pos (.inr h2)]
 rw[if_pos (by simp; omega),if_neg (by omega),wN,JR,tc]
 simp only[List.all_cons,List.all_nil,Bool.and_true]
 cases bi r.Jr <;> cases bi r.Jj <;> cases oA r.Jl <;> rfl
theorem EG (b:Bl):kW b=some (!bi b):=by
 unfold kW bi
 obtain⟨n,d⟩:=b
 cases n
 ·rfl
 ·cases d <;> simp
theorem zf (a0:List Hd) (hb:a0.length≤1000000) (y:Bool): ∀ (l:List Hd) (k fuel:Nat),a0.drop k=l→l.length<fuel→ ∃ z,dW a0 fuel y k=some (if oA l=true then .go (y,z) else .ret false)
 | [],k,fuel+1,h,hf=>by
  have:=eb h
  exact⟨k,by rw[dW,if_neg (by omega)]; rfl⟩
 | x::l,k,fuel+1,h,hf=>by
  obtain⟨h1,h2,h3⟩:=cK h
  rw[J0] at hf
  obtain⟨z,hz⟩:=zf a0 hb y l (k+1) fuel h2 (by omega)
  rw[dW,if_pos (by omega),h1,JR]
  have e:oA (x::l)=(bi x.Jj && oA l):=rfl
  rw[e]
  by_cases hn:x.Jj.null=true
  ·rw[if_pos hn]
   by_cases hd:x.Jj.data = []
   ·rw[if_pos hd,if_pos (by omega),hz]
    have:bi x.Jj=true:=by unfold bi; rw[hd]; simp
    rw[this,Bool.true_and]
    exact⟨z,rfl⟩
   ·rw[if_neg hd]
    have:bi x.Jj=false:=by unfold bi; rw[hn]; simp[hd]
    rw[this]
    exact⟨0,rfl⟩
  ·rw[if_neg hn,if_pos (by omega),hz]
   have:bi x.Jj=true:=by unfold bi; simp[hn]
   rw[this,Bool.true_and]
   exact⟨z,rfl⟩
theorem Dg (a0:List Hd) (hb:a0.length≤1000000):kd a0=some (oA a0):=by
 unfold kd
 obtain⟨z,hz⟩:=zf a0 hb false a0 0 (((a0.length:Int)).toNat+1) rfl (by omega)
 rw[hz]
 cases oA a0 <;> rfl
theorem Dh (r:Rec) (hb:r.Jl.length≤1000000):iQ r=some (fu r):=by
 unfold iQ fu
 by_cases h:r.Jq<0
 ·rw[if_pos h,if_pos (.inl h)]
 rw[if_neg h]
 by_cases h2:r.Jq>2147483647
 ·rw[if_pos h2,if_pos (.inr h2)]
 rw[if_neg h2,if_neg (by omega),EG,EG,Dg _ hb]
 cases bi r.Jr <;> cases bi r.Jj <;> cases oA r.Jl <;> rfl
theorem ve (l:List UInt8) (p:Nat) (h:2≤l.length):eM ⟨l,p,0⟩ 2=(dS (l.take 2),⟨l.drop 2,p+2,0⟩):=xu l p 2 (by decide) (by decide) h
theorem EH (l:List UInt8) (p:Nat) (h:4≤l.length):eM ⟨l,p,0⟩ 4=(dS (l.take 4),⟨l.drop 4,p+4,0⟩):=xu l p 4 (by decide) (by decide) h
theorem oB (l:List UInt8) (p:Nat) (h:l.length<2):eM ⟨l,p,0⟩ 2=(0,⟨l,p,1⟩):=pG l p 2 (by decide) (by decide) (by omega)
theorem zg (l:List UInt8) (p:Nat) (h:l.length<4):eM ⟨l,p,0⟩ 4=(0,⟨l,p,1⟩):=pG l p 4 (by decide) (by decide) (by omega)
theorem xP (l:List UInt8) (p:Nat) (e n:Int) (h:e≠0):eM ⟨l,p,e⟩ n=(0,⟨l,p,e⟩):=mj (st:=⟨l,p,e⟩) h n
theorem gD (l:List UInt8) (p:Nat) (e:Int) (h:e≠0):fe ⟨l,p,e⟩=⟨l,p,e⟩:=ub (st:=⟨l,p,e⟩) h
theorem B6 (l:List UInt8) (p:Nat) (e f:Int) (h:e≠0):da ⟨l,p,e⟩ f=⟨l,p,e⟩:=rp (st:=⟨l,p,e⟩) h f
theorem tS (l:List UInt8) (p:Nat) (f:Int):da ⟨l,p,0⟩ f=⟨l,p,f⟩:=by simp[da]
theorem zh (l:List UInt8) (p:Nat):fe ⟨l,p,0⟩=⟨l,p,if l = [] then 0 else 2⟩:=by unfold fe; split <;> simp_all [da]
theorem qX {l:List UInt8} {n:Nat} (h:n≤l.length):l.drop n = [] ↔ ¬ (l.length:Int)>n:=by rw[List.drop_eq_nil_iff]; omega
theorem EI (l:List UInt8) (hl:l.length≤9223372036854775807):dZ l=iz l:=by
 unfold dZ iz dj
 simp only[j1 l (by omega),iZ,ic,dt,JR]
 by_cases h2:l.length<2
 ·have h2i:(l.length:Int)<2:=by omega
  simp[oB l 0 h2,xP,gD,B6,h2i]
 have h2i: ¬ (l.length:Int)<2:=by omega
 have h2j:2≤(l.length:Int):=by omega
 rw[ve l 0 (by omega),if_neg h2i,if_pos (show 2≤l.length by omega),qq _ (by simp; omega)]
 simp only[JR]
 by_cases h0:dS (l.take 2)=0
 ·rw[if_pos h0,if_pos h0]
  simp only[JR]
  by_cases h4:l.length<4
  ·have h4i:(l.length:Int)<4:=by omega
   simp[oB (l.drop 2) (0+2) (by simp; omega),gD,h4i]
  have h4i: ¬ (l.length:Int)<4:=by omega
  rw[ve _ _ (by simp; omega),if_neg h4i,if_pos (show 4≤l.length by omega),qq _ (by simp; omega)]
  simp only[JR,KQ,zh,tS]
  have hd:=qX (l:=l) (n:=4) (by omega)
  generalize dS ((l.drop 2).take 2)=k
  by_cases h5:(l.length:Int)>4
  ·have hd2: ¬ l.drop (2+2) = []:=fun h=>(hd.1 h) h5
   by_cases k0:k=0
   ·simp[hd2,h5,gD,k0]
   ·by_cases k1:k=1 <;> simp[hd2,h5,gD,k0,k1]
  ·have hd2:l.drop (2+2) = []:=hd.2 h5
   by_cases k0:k=0
   ·simp[hd2,h5,gD,k0]
   ·by_cases k1:k=1 <;> simp[hd2,h5,gD,k0,k1]
 ·rw[if_neg h0,if_neg h0]
  simp[tS,xP,gD]
theorem AW (l:List UInt8) (hl:l.length≤9223372036854775807):dh l=gv l:=by
 unfold dh gv dj
 simp only[j1 l (by omega),iZ,ic,dt,JR]
 by_cases h2:l.length<2
 ·have h2i:(l.length:Int)<2:=by omega
  simp[oB l 0 h2,xP,gD,B6,h2i]
 have h2i: ¬ (l.length:Int)<2:=by omega
 have h2j:2≤(l.length:Int):=by omega
 rw[ve l 0 (by omega),if_neg h2i,if_pos (show 2≤l.length by omega),qq _ (by simp; omega)]
 simp only[JR]
 by_cases h0:dS (l.take 2)=0
 ·rw[if_pos h0,if_pos h0]
  simp only[JR]
  by_cases h4:l.length<6
  ·have h4i:(l.length:Int)<6:=by omega
   simp[zg (l.drop 2) (0+2) (by simp; omega),gD,h4i]
  have h4i: ¬ (l.length:Int)<6:=by omega
  rw[EH _ _ (by simp; omega),if_neg h4i,if_pos (show 6≤l.length by omega),qq _ (by simp; omega)]
  simp only[JR,KQ,zh,tS]
  have hd:=qX (l:=l) (n:=6) (by omega)
  generalize dS ((l.drop 2).take 4)=k
  by_cases h5:(l.length:Int)>6
  ·have hd2: ¬ l.drop (2+4) = []:=fun h=>(hd.1 h) h5
   by_cases k0:k<0 <;> simp[hd2,h5,gD,k0]
  ·have hd2:l.drop (2+4) = []:=hd.2 h5
   by_cases k0:k<0 <;> simp[hd2,h5,gD,k0]
 ·rw[if_neg h0,if_neg h0]
  simp[tS,xP,gD]
theorem xQ (r:Rec) (h1:r.Jr.data.length≤9223372036854775807) (h2:r.Jj.data.length≤9223372036854775807):dB r=gU r:=by
 unfold dB gU
 rw[EI _ h1,AW _ h2]
def fv:List Rec→Int
 | []=>0
 | r::l=>if fu r=0 then fv l else fu r
theorem wO (y:Int): ∀ l:List Rec,(∀ r,r∈l→wI r.Jq)→et l y=some (if fv l=0 then .go y else .ret (fv l))
 | [],h=>rfl
 | r::l,h=>by
  rw[et,nh _ (h r (.head _)),JR,wO y l (fun x hx=>h x (.tail _ hx)),fv]
  by_cases hr:fu r=0
  ·rw[if_pos hr,if_pos hr]
  ·rw[if_neg hr,if_neg hr,if_neg hr]
theorem wP (y:Int): ∀ l:List Rec,(∀ r,r∈l→wI r.Jq)→eu l y=some (if fv l=0 then .go y else .ret (fv l))
 | [],h=>rfl
 | r::l,h=>by
  rw[eu,nh _ (h r (.head _)),JR,wP y l (fun x hx=>h x (.tail _ hx)),fv]
  by_cases hr:fu r=0
  ·rw[if_pos hr,if_pos hr]
  ·rw[if_neg hr,if_neg hr,if_neg hr]
theorem wQ (a:Bat) (hb:a.Ja.length≤1000000) (hh: ∀ r,r∈a.Ja→r.Jl.length≤1000000) (y:Int): ∀ (l:List Rec) (k fuel:Nat),a.Ja.drop k=l→l.length<fuel→ ∃ z,dx a fuel y k=some (if fv l=0 then .go (y,z) else .ret (fv l))
 | [],k,fuel+1,h,hf=>by
  have:=eb h
  exact⟨k,by rw[dx,if_neg (by omega)]; rfl⟩
 | r::l,k,fuel+1,h,hf=>by
  obtain⟨h1,h2,h3⟩:=cK h
  rw[J0] at hf
  obtain⟨z,hz⟩:=wQ a hb hh y l (k+1) fuel h2 (by omega)
  rw[dx,if_pos (by omega),h1,JR,Dh _ (hh r (List.mem_of_getElem? h1)),JR,fv]
  by_cases hr:fu r=0
  ·rw[if_pos hr,if_pos hr,if_pos (by omega)]
   exact⟨z,hz⟩
  ·rw[if_neg hr,if_neg hr]
   exact⟨0,by rw[if_neg hr]⟩
theorem wR (a:Bat): ∀ (fuel:Nat) (y:Int) (k:Nat),fg a fuel y k=dx a fuel y k
 | 0,y,k=>rfl
 | fuel+1,y,k=>by
  rw[fg,dx]
  simp only[wR a fuel]
def pV (F t:Int):Prop:=t>9223372036854775807 - F∨t < -F
instance (F t:Int):Decidable (pV F t):=by unfold pV; infer_instance
def xR (F L:Int):Int→Int→List Rec→Except Int Int
 | p,m,[]=> .ok m
 | p,m,r::l=>if r.Jq≤p∨r.Jq>L then .error 13 else if pV F r.JA then .error 11 else xR F L r.Jq (if m<F+r.JA then F+r.JA else m) l
theorem Di {F t:Int} (h0:0≤F) (h1:F≤9223372036854775807) (ht:wI t):(pV F t→(IntKind.i64.wrap (F+t)<0))∧(¬ pV F t→IntKind.i64.wrap (F+t)=F+t∧0≤F+t):=by
 obtain⟨t0,t1⟩:=ht
 unfold pV
 rw[IntKind.wrap_i64]
 constructor
 ·intro h
  omega
 ·intro h
  omega
theorem B7 (a:Bat) (h0:0≤a.Jm) (h1:a.Jm≤9223372036854775807) (y:Int): ∀ (l:List Rec) (p m:Int),(∀ r,r∈l→wI r.JA)→(∃ e,xR a.Jm a.Jx p m l= .error e∧bV a l y p m=some (.ret e))∨(∃ p' m',xR a.Jm a.Jx p m l= .ok m'∧bV a l y p m=some (.go (y,p',m')))
 | [],p,m,h=> .inr ⟨p,m,rfl,rfl⟩
 | r::l,p,m,h=>by
  have ih:=fun p m=>B7 a h0 h1 y l p m (fun x hx=>h x (.tail _ hx))
  obtain⟨w1,w2⟩:=Di h0 h1 (h r (.head _))
  rw[bV,xR]
  by_cases c1:r.Jq≤p
  ·rw[if_pos c1,if_pos (.inl c1)]
   exact .inl ⟨_,rfl,rfl⟩
  rw[if_neg c1]
  by_cases c2:r.Jq>a.Jx
  ·rw[if_pos c2,if_pos (.inr c2)]
   exact .inl ⟨_,rfl,rfl⟩
  rw[if_neg c2,if_neg (by omega)]
  by_cases c3:pV a.Jm r.JA
  ·rw[if_pos c3,if_pos (w1 c3)]
   exact .inl ⟨_,rfl,rfl⟩
  obtain⟨w3,w4⟩:=w2 c3
  rw[if_neg c3,w3,if_neg (show ¬ a.Jm+r.JA<0 by omega),if_neg (show ¬ a.Jm+r.JA<r.JA by omega),ite_self]
  by_cases c4:m<a.Jm+r.JA
  ·rw[if_pos c4,if_pos c4]
   exact ih _ _
  ·rw[if_neg c4,if_neg c4]
   exact ih _ _
theorem xS (a:Bat) (h0:0≤a.Jm) (h1:a.Jm≤9223372036854775807) (hb:a.Ja.length≤1000000) (y:Int): ∀ (l:List Rec) (p m:Int) (k fuel:Nat),a.Ja.drop k=l→l.length<fuel→(k=0→p= -1)→(0<k→ ∃ r,a.Ja[k - 1]? = some r∧r.Jq=p∧0≤p) →
 (∃ e,xR a.Jm a.Jx p m l= .error e∧co a fuel y k=some (.ret e))∨(∃ m' z,xR a.Jm a.Jx p m l= .ok m'∧co a fuel y k=some (.go (y,z)))
 | [],p,m,k,fuel+1,h,hf,hk0,hk1=>by
  have:=eb h
  exact .inr ⟨m,k,rfl,by rw[co,if_neg (by omega)]⟩
 | r::l,p,m,k,fuel+1,h,hf,hk0,hk1=>by
  obtain⟨g1,g2,g3⟩:=cK h
  rw[J0] at hf
  rw[co,if_pos (by omega),g1,JR,xR]
  have hp: -1≤p:=by
   rcases Nat.eq_zero_or_pos k with hk | hk
   ·have:=hk0 hk; omega
   ·obtain⟨_,_,_,h5⟩:=hk1 hk; omega
  have ih:=fun (hge:0≤r.Jq) m=>xS a h0 h1 hb y l r.Jq m (k+1) fuel g2 (by omega) (fun h=>absurd h (by omega)) (fun _=>⟨r,g1,rfl,hge⟩)
  have tail:0≤r.Jq→((if -9223372036854775808≤(9223372036854775807 - a.Jm)∧(9223372036854775807 - a.Jm)≤9223372036854775807 then (if r.JA>(9223372036854775807 - a.Jm) then some (Lp.ret (11:Int)) else (if -9223372036854775808≤(-a.Jm)∧(-a.Jm)≤9223372036854775807 then (if r.JA<(-a.Jm) then some (Lp.ret 11) else (if -9223372036854775808≤((k:Int)+1)∧((k:Int)+1)≤9223372036854775807 then (co a fuel y (k+1)) else none)) else none)) else none))=if pV a.Jm r.JA then some (.ret 11) else co a fuel y (k+1):=by
   intro hge
   rw[if_pos (by omega)]
   by_cases c1:r.JA>9223372036854775807 - a.Jm
   ·rw[if_pos c1,if_pos (show pV a.Jm r.JA from .inl c1)]
   rw[if_neg c1,if_pos (by omega)]
   by_cases c2:r.JA < -a.Jm
   ·rw[if_pos c2,if_pos (show pV a.Jm r.JA from .inr c2)]
   rw[if_neg c2,if_neg (show ¬ pV a.Jm r.JA by unfold pV; omega),if_pos (by omega)]
  by_cases c2:r.Jq>a.Jx
  ·rw[if_pos c2,if_pos (.inr c2)]
   exact .inl ⟨_,rfl,rfl⟩
  rw[if_neg c2]
  rcases Nat.eq_zero_or_pos k with hk | hk
  ·have hp1:=hk0 hk
   rw[if_neg (show ¬ (k:Int)>0 by omega)]
   by_cases c3:r.Jq<0
   ·rw[if_pos c3,if_pos (show r.Jq≤p∨r.Jq>a.Jx by omega)]
    exact .inl ⟨_,rfl,rfl⟩
   rw[if_neg c3,if_neg (show ¬ (r.Jq≤p∨r.Jq>a.Jx) by omega),tail (by omega)]
   by_cases c4:pV a.Jm r.JA
   ·rw[if_pos c4,if_pos c4]
    exact .inl ⟨_,rfl,rfl⟩
   ·rw[if_neg c4,if_neg c4]
    exact ih (by omega) _
  ·obtain⟨q,q1,q2,q3⟩:=hk1 hk
   rw[if_pos (show (k:Int)>0 by omega),if_pos (show -9223372036854775808≤(k:Int) - 1∧(k:Int) - 1≤9223372036854775807 by omega),if_pos (show 0≤(k:Int) - 1 by omega),show ((k:Int) - 1).toNat=k - 1 by omega,q1,JR,q2]
   by_cases c1:r.Jq≤p
   ·rw[if_pos c1,if_pos (.inl c1)]
    exact .inl ⟨_,rfl,rfl⟩
   rw[if_neg c1,if_neg (show ¬ r.Jq<0 by omega),if_neg (show ¬ (r.Jq≤p∨r.Jq>a.Jx) by omega),tail (by omega)]
   by_cases c4:pV a.Jm r.JA
   ·rw[if_pos c4,if_pos c4]
    exact .inl ⟨_,rfl,rfl⟩
   ·rw[if_neg c4,if_neg c4]
    exact ih (by omega) _
theorem B8 (a:Bat) (h0:0≤a.Jm) (h1:a.Jm≤9223372036854775807) (hb:a.Ja.length≤1000000) (y:Int): ∀ (l:List Rec) (p m m':Int) (k fuel:Nat),a.Ja.drop k=l→l.length<fuel→xR a.Jm a.Jx p m l= .ok m'→(∀ r,r∈l→wI r.JA)→ ∃ z,dX a fuel y m k=some (.go (y,m',z))
 | [],p,m,m',k,fuel+1,h,hf,ho,hw=>by
  have:=eb h
  injection ho with ho
  subst ho
  exact⟨k,by rw[dX,if_neg (by omega)]⟩
 | r::l,p,m,m',k,fuel+1,h,hf,ho,hw=>by
  obtain⟨g1,g2,g3⟩:=cK h
  rw[J0] at hf
  rw[xR] at ho
  split at ho
  ·exact nomatch ho
  split at ho
  ·exact nomatch ho
  rename_i hb2
  have ht:=hw r (.head _)
  have ht0:=ht.1
  have ht1:=ht.2
  unfold pV at hb2
  rw[dX,if_pos (by omega),g1,JR,if_pos (by omega),if_neg (by omega),if_pos (by omega),if_neg (by omega),if_pos (by omega)]
  obtain⟨z,hz⟩:=B8 a h0 h1 hb y l r.Jq _ m' (k+1) fuel g2 (by omega) ho (fun x hx=>hw x (.tail _ hx))
  by_cases c:m<a.Jm+r.JA
  ·rw[if_pos c] at hz
   rw[if_pos c,if_pos (by omega),if_pos (by omega)]
   exact⟨z,hz⟩
  ·rw[if_neg c] at hz
   rw[if_neg c,if_pos (by omega)]
   exact⟨z,hz⟩
theorem vf (a:Bat) (h0:0≤a.Jm) (h1:a.Jm≤9223372036854775807) (hb:a.Ja.length≤1000000) (hw: ∀ r,r∈a.Ja→wI r.JA): ∃ e,dH a=some e∧fD a=some e:=by
 unfold dH fD lM
 rcases B7 a h0 h1 0 a.Ja (-1) a.Jm hw with⟨e,g1,g2⟩ | ⟨p',m',g1,g2⟩
 ·rcases xS a h0 h1 hb 0 a.Ja (-1) a.Jm 0 (((a.Ja.length:Int)).toNat+1) rfl (by omega) (fun _=>rfl) (fun h=>absurd h (by omega)) with⟨e2,k1,k2⟩ | ⟨m2,z,k1,k2⟩
  ·rw[g1] at k1
   injection k1 with k1
   subst k1
   exact⟨e,by rw[g2]; rfl,by rw[k2]; rfl⟩
  ·rw[g1] at k1
   exact nomatch k1
 ·rcases xS a h0 h1 hb 0 a.Ja (-1) a.Jm 0 (((a.Ja.length:Int)).toNat+1) rfl (by omega) (fun _=>rfl) (fun h=>absurd h (by omega)) with⟨e2,k1,k2⟩ | ⟨m2,z,k1,k2⟩
  ·rw[g1] at k1
   exact nomatch k1
  ·obtain⟨z2,hz2⟩:=B8 a h0 h1 hb 0 a.Ja (-1) a.Jm m' 0 (((a.Ja.length:Int)).toNat+1) rfl (by omega) g1 hw
   rw[g2,k2,hz2]
   simp only[JR]
   by_cases ha:a.JG=true
   ·exact⟨0,by rw[if_pos ha],by rw[if_pos ha]⟩
   ·rw[if_neg ha]
    by_cases hm:m'=a.JF
    ·exact⟨0,by rw[if_pos hm],by rw[if_pos hm]⟩
    ·exact⟨11,by rw[if_neg hm],by rw[if_neg hm]⟩
def kp (a:Bat):Prop:=0≤a.Jz∧(-1≤a.Jv∧a.Jv≤2147483647)∧(0≤a.Jx∧a.Jx≤2147483647)∧a.Jz+a.Jx≤9223372036854775807∧0≤a.Jm∧0≤a.JF
instance (a:Bat):Decidable (kp a):=by unfold kp; infer_instance
theorem AX (a:Bat) (h1:wI a.Jz) (h2:wI a.Jv) (h3:wI a.Jx):gx a=some (decide (kp a)):=by
 obtain⟨u1,u2⟩:=h1
 unfold gx
 rw[fx _ _ h2,fx _ _ h3,eo,eo,IntKind.wrap_i64]
 have no: ∀ {b:Bool},¬ kp a→b=false→some b=some (decide (kp a)):=fun h hb=>by rw[JT h,hb]
 by_cases c1:a.Jz≥0
 ·rw[if_pos c1]
  by_cases c2:a.Jv≥ -1
  ·rw[if_pos c2,JR]
   by_cases c3: -2147483648≤a.Jv∧a.Jv≤2147483647
   ·rw[if_pos (JS c3)]
    by_cases c4:a.Jx≥0
    ·rw[if_pos c4,JR]
     by_cases c5: -2147483648≤a.Jx∧a.Jx≤2147483647
     ·rw[if_pos (JS c5)]
      by_cases c6:a.Jz+a.Jx≤9223372036854775807
      ·rw[if_pos (by omega)]
       by_cases c7:a.Jm≥0
       ·rw[if_pos c7]
        by_cases c8:a.JF≥0
        ·rw[if_pos c8,JS (show kp a from ⟨c1,⟨c2,by omega⟩,⟨c4,by omega⟩,c6,c7,c8⟩)]
        ·rw[if_neg c8]; exact no (fun h=>c8 h.2.2.2.2.2) rfl
       ·rw[if_neg c7]; exact no (fun h=>c7 h.2.2.2.2.1) rfl
      ·rw[if_neg (by omega)]; exact no (fun h=>c6 h.2.2.2.1) rfl
     ·rw[if_neg (by rw[decide_eq_true_eq]; exact c5)]; exact no (fun h=>by have:=h.2.2.1; omega) rfl
    ·rw[if_neg c4]; exact no (fun h=>c4 h.2.2.1.1) rfl
   ·rw[if_neg (by rw[decide_eq_true_eq]; exact c3)]; exact no (fun h=>by have:=h.2.1; omega) rfl
  ·rw[if_neg c2]; exact no (fun h=>c2 h.2.1.1) rfl
 ·rw[if_neg c1]; exact no (fun h=>c1 h.1) rfl
theorem sI (n k:Int):gh n k=some (decide (k≤n∧n≤2147483647)):=by
 unfold gh
 by_cases h1:n≥k
 ·rw[if_pos h1]
  by_cases h2:n≤2147483647
  ·rw[if_pos h2,JS ⟨h1,h2⟩]
  ·rw[if_neg h2,JT (fun h=>h2 h.2)]
 ·rw[if_neg h1,JT (fun h=>h1 h.1)]
def iw (a:Bat):Prop:=if a.I6= -1 then a.I8= -1∧a.Jn= -1∧a.JE=false else 0≤a.I6∧(0≤a.I8∧a.I8≤32767)∧(if a.JB=true then a.Jn= -1 else 0≤a.Jn∧a.Jn≤2147483647)
instance (a:Bat):Decidable (iw a):=by unfold iw; infer_instance
theorem vg (n:Int):bh n 2=decide (-32768≤n∧n≤32767):=by
 rw[Bool.eq_iff_iff]
 unfold bh
 simp only[Bool.and_eq_true,decide_eq_true_eq]
 have:(2:Int) ^ (8*(2:Int).toNat - 1)=32768:=by decide
 omega
theorem td (a:Bat) (h1:wI a.I8) (h2:wI a.Jn):fc a=some (decide (iw a))∧fW a=some (decide (iw a)):=by
 unfold fc fW
 rw[fx _ _ h1,fx _ _ h2,eo,vg,sI]
 unfold iw
 obtain⟨b0,b1,b2,tx,ct,b5,b6,b7,P,E,S,rs⟩:=a
 simp only
 clear h1 h2
 by_cases c1:P= -1
 ·simp only[if_pos c1]
  by_cases c2:E= -1
  ·simp only[if_pos c2]
   by_cases c3:S= -1
   ·simp only[if_pos c3]
    cases tx <;> simp[c2,c3]
   ·simp[c3]
  ·simp[c2]
 ·simp only[if_neg c1,JR]
  cases ct
  ·simp only[Bool.false_eq_true,if_false]
   constructor
   ·by_cases d1:P≥0
    ·by_cases d2:E≥0
     ·by_cases d3: -32768≤E∧E≤32767
      ·by_cases d4:S≥0
       ·by_cases d5: -2147483648≤S∧S≤2147483647
        ·rw[if_pos d1,if_pos d2,if_pos (JS d3),if_pos d4,if_pos (JS d5),JS (by omega)]
        ·rw[if_pos d1,if_pos d2,if_pos (JS d3),if_pos d4,if_neg (by rw[decide_eq_true_eq]; exact d5),JT (by omega)]
       ·rw[if_pos d1,if_pos d2,if_pos (JS d3),if_neg d4,JT (by omega)]
      ·rw[if_pos d1,if_pos d2,if_neg (by rw[decide_eq_true_eq]; exact d3),JT (by omega)]
     ·rw[if_pos d1,if_neg d2,JT (by omega)]
    ·rw[if_neg d1,JT (by omega)]
   ·by_cases d1:P<0
    ·rw[if_pos d1,JT (by omega)]
    rw[if_neg d1]
    by_cases d2:E<0
    ·rw[if_pos d2,JT (by omega)]
    rw[if_neg d2]
    by_cases d3:E>32767
    ·rw[if_pos d3,JT (by omega)]
    rw[if_neg d3]
    by_cases d4:0≤S∧S≤2147483647
    ·rw[JS d4,JS (by omega)]
    ·rw[JT d4,JT (by omega)]
  ·simp only[if_true]
   constructor
   ·by_cases d1:P≥0
    ·by_cases d2:E≥0
     ·by_cases d3: -32768≤E∧E≤32767
      ·by_cases d4:S≥ -1
       ·by_cases d5: -2147483648≤S∧S≤2147483647
        ·by_cases d6:S= -1
         ·rw[if_pos d1,if_pos d2,if_pos (JS d3),if_pos d4,if_pos (JS d5),if_pos d6,JS (by omega)]
         ·rw[if_pos d1,if_pos d2,if_pos (JS d3),if_pos d4,if_pos (JS d5),if_neg d6,JT (by omega)]
        ·rw[if_pos d1,if_pos d2,if_pos (JS d3),if_pos d4,if_neg (by rw[decide_eq_true_eq]; exact d5),JT (by omega)]
       ·rw[if_pos d1,if_pos d2,if_pos (JS d3),if_neg d4,JT (by omega)]
      ·rw[if_pos d1,if_pos d2,if_neg (by rw[decide_eq_true_eq]; exact d3),JT (by omega)]
     ·rw[if_pos d1,if_neg d2,JT (by omega)]
    ·rw[if_neg d1,JT (by omega)]
   ·by_cases d1:P<0
    ·rw[if_pos d1,JT (by omega)]
    rw[if_neg d1]
    by_cases d2:E<0
    ·rw[if_pos d2,JT (by omega)]
    rw[if_neg d2]
    by_cases d3:E>32767
    ·rw[if_pos d3,JT (by omega)]
    rw[if_neg d3]
    by_cases d4:S= -1
    ·rw[if_pos d4,JS (by omega)]
    ·rw[if_neg d4,JT (by omega)]
theorem EJ (l:List UInt8) (hl:l.length≤1000000): ∃ x,dZ l=some x:=by
 unfold dZ dj
 simp only[j1 l (by omega),iZ,ic,dt,JR]
 generalize eM ⟨l,0,0⟩ 2=x
 by_cases h:x.1=0
 ·simp only[if_pos h,JR]
  generalize eM x.2 2=y
  split
  ·split <;> exact⟨_,rfl⟩
  ·split
   ·split <;> exact⟨_,rfl⟩
   ·split <;> exact⟨_,rfl⟩
 ·simp only[if_neg h,JR]
  generalize eM (da x.2 7) 2=y
  split
  ·split <;> exact⟨_,rfl⟩
  ·split
   ·split <;> exact⟨_,rfl⟩
   ·split <;> exact⟨_,rfl⟩
theorem AY (l:List UInt8) (hl:l.length≤1000000): ∃ x,dh l=some x:=by
 unfold dh dj
 simp only[j1 l (by omega),iZ,ic,dt,JR]
 generalize eM ⟨l,0,0⟩ 2=x
 by_cases h:x.1=0
 ·simp only[if_pos h,JR]
  generalize eM x.2 4=y
  split
  ·split <;> exact⟨_,rfl⟩
  ·split <;> exact⟨_,rfl⟩
 ·simp only[if_neg h,JR]
  generalize eM (da x.2 7) 4=y
  split
  ·split <;> exact⟨_,rfl⟩
  ·split <;> exact⟨_,rfl⟩
theorem xT (r:Rec) (h1:r.Jr.data.length≤1000000) (h2:r.Jj.data.length≤1000000): ∃ x1 x2 x3,dB r=some (x1,x2,x3):=by
 obtain⟨⟨k1,k2⟩,hk⟩:=EJ _ h1
 obtain⟨⟨v1,v2⟩,hv⟩:=AY _ h2
 unfold dB
 rw[hk,hv]
 simp only[JR]
 split
 ·exact⟨_,_,_,rfl⟩
 split
 ·exact⟨_,_,_,rfl⟩
 split
 ·exact⟨_,_,_,rfl⟩
 split
 ·split
  ·split
   ·exact⟨_,_,_,rfl⟩
   ·exact⟨_,_,_,rfl⟩
  ·exact⟨_,_,_,rfl⟩
 ·exact⟨_,_,_,rfl⟩
def xU (a:Bat) (cr e0:Int):Int:=if kp a then (if a.JB=true then (if a.JE=true then (if iw a then (if (a.Ja.length:Int)=1 then (if fv a.Ja=0 then (if cr=0 then e0 else cr) else fv a.Ja) else 10) else 11) else 8) else (if iw a then (if fv a.Ja=0 then e0 else fv a.Ja) else 11)) else 11
theorem bchk (a:Bat) (hw:l9 a) (cr e0:Int) (hc:kp a→dH a=some e0) (hr:(a.Ja.length:Int)=1→ ∃ r x1 x2,a.Ja[0]? = some r∧dB r=some (x1,x2,cr)):dC a=some (xU a cr e0):=by
 obtain⟨w1,w2,w3,w4,w5,w6,w7,w8,w9,w10,w11,w12⟩:=hw
 have hoff: ∀ r,r∈a.Ja→wI r.Jq:=fun r h=>(w12.2 r h).2.1
 unfold dC xU
 rw[AX a w1 w2 w6,(td a w10 w11).1,wO _ _ hoff,wP _ _ hoff]
 by_cases hn:kp a
 ·rw[JS hn,JR,if_pos rfl,if_pos hn,hc hn]
  by_cases hct:a.JB=true
  ·rw[if_pos hct,if_pos hct]
   by_cases ht:a.JE=true
   ·rw[if_pos ht,if_pos ht,JR]
    by_cases hp:iw a
    ·rw[JS hp,if_pos rfl,if_pos hp]
     by_cases hl:(a.Ja.length:Int)=1
     ·obtain⟨r,x1,x2,r1,r2⟩:=hr hl
      rw[if_pos hl,if_pos hl,r1]
      by_cases hf:fv a.Ja=0
      ·simp only[if_pos hf,JR,r2]
       split <;> rfl
      ·simp only[if_neg hf,JR]
     ·rw[if_neg hl,if_neg hl]
    ·rw[JT hp,if_neg (by decide),if_neg hp]
   ·rw[if_neg ht,if_neg ht]
  ·rw[if_neg hct,if_neg hct,JR]
   by_cases hp:iw a
   ·rw[JS hp,if_pos rfl,if_pos hp]
    by_cases hf:fv a.Ja=0
    ·simp only[if_pos hf,JR]
    ·simp only[if_neg hf,JR]
   ·rw[JT hp,if_neg (by decide),if_neg hp]
 ·rw[JT hn,JR,if_neg (by decide),if_neg hn]
theorem rchk (a:Bat) (hw:l9 a) (hb:a.Ja.length≤1000000) (hh: ∀ r,r∈a.Ja→r.Jl.length≤1000000) (cr e0:Int) (hc:kp a→fD a=some e0) (hr:(a.Ja.length:Int)=1→ ∃ r x1 x2,a.Ja[0]? = some r∧gU r=some (x1,x2,cr)):gV a=some (xU a cr e0):=by
 obtain⟨w1,w2,w3,w4,w5,w6,w7,w8,w9,w10,w11,w12⟩:=hw
 obtain⟨z,hz⟩:=wQ a hb hh 0 a.Ja 0 (((a.Ja.length:Int)).toNat+1) rfl (by omega)
 have b1:=w1.1
 have b2:=w1.2
 unfold gV xU
 rw[sI,sI,(td a w10 w11).2]
 simp only[wR]
 rw[hz]
 by_cases hn:kp a
 ·obtain⟨n1,n2,n3,n4,n5,n6⟩:=id hn
  rw[if_neg (show ¬ a.Jz<0 by omega),JS n2,JR,if_pos rfl,JS n3,JR,if_pos rfl,if_pos (show -9223372036854775808≤9223372036854775807 - a.Jz∧9223372036854775807 - a.Jz≤9223372036854775807 by omega),if_neg (show ¬ a.Jx>9223372036854775807 - a.Jz by omega),if_neg (show ¬ a.Jm<0 by omega),if_neg (show ¬ a.JF<0 by omega),if_pos hn,hc hn]
  by_cases hct:a.JB=true
  ·rw[if_pos hct,if_pos hct]
   by_cases ht:a.JE=true
   ·rw[if_pos ht,if_pos ht,JR]
    by_cases hp:iw a
    ·rw[JS hp,if_pos rfl,if_pos hp]
     by_cases hl:(a.Ja.length:Int)=1
     ·obtain⟨r,x1,x2,r1,r2⟩:=hr hl
      rw[if_pos hl,if_pos hl,r1]
      by_cases hf:fv a.Ja=0
      ·simp only[if_pos hf,JR,r2]
       split <;> rfl
      ·simp only[if_neg hf,JR]
     ·rw[if_neg hl,if_neg hl]
    ·rw[JT hp,if_neg (by decide),if_neg hp]
   ·rw[if_neg ht,if_neg ht]
  ·rw[if_neg hct,if_neg hct,JR]
   by_cases hp:iw a
   ·rw[JS hp,if_pos rfl,if_pos hp]
    by_cases hf:fv a.Ja=0
    ·simp only[if_pos hf,JR]
    ·simp only[if_neg hf,JR]
   ·rw[JT hp,if_neg (by decide),if_neg hp]
 ·rw[if_neg hn]
  unfold kp at hn
  by_cases c1:a.Jz<0
  ·rw[if_pos c1]
  rw[if_neg c1,JR]
  by_cases c2: -1≤a.Jv∧a.Jv≤2147483647
  ·rw[JS c2,if_pos rfl,JR]
   by_cases c3:0≤a.Jx∧a.Jx≤2147483647
   ·rw[JS c3,if_pos rfl,if_pos (show -9223372036854775808≤9223372036854775807 - a.Jz∧9223372036854775807 - a.Jz≤9223372036854775807 by omega)]
    by_cases c4:a.Jx>9223372036854775807 - a.Jz
    ·rw[if_pos c4]
    rw[if_neg c4]
    by_cases c5:a.Jm<0
    ·rw[if_pos c5]
    rw[if_neg c5,if_pos (show a.JF<0 by omega)]
   ·rw[JT c3,if_neg (by decide)]
  ·rw[JT c2,if_neg (by decide)]
theorem vh (a:Bat) (hw:l9 a) (hb:a.Ja.length≤1000000) (hr: ∀ r,r∈a.Ja→r.Jl.length≤1000000∧r.Jr.data.length≤1000000∧r.Jj.data.length≤1000000): ∃ cr e0,dC a=some (xU a cr e0)∧gV a=some (xU a cr e0)∧(kp a→dH a=some e0)∧((a.Ja.length:Int)=1→ ∃ r x1 x2,a.Ja[0]? = some r∧dB r=some (x1,x2,cr)∧gU r=some (x1,x2,cr)):=by
 have htim: ∀ r,r∈a.Ja→wI r.JA:=fun r h=>(hw.2.2.2.2.2.2.2.2.2.2.2.2 r h).1
 have hF:=hw.2.2.2.2.2.2.1
 obtain⟨e0,he⟩: ∃ e0,kp a→dH a=some e0∧fD a=some e0:=by
  by_cases hn:kp a
  ·obtain⟨e0,h1,h2⟩:=vf a hn.2.2.2.2.1 hF.2 hb htim
   exact⟨e0,fun _=>⟨h1,h2⟩⟩
  ·exact⟨0,fun h=>absurd h hn⟩
 obtain⟨cr,hcr⟩: ∃ cr,(a.Ja.length:Int)=1→ ∃ r x1 x2,a.Ja[0]? = some r∧dB r=some (x1,x2,cr)∧gU r=some (x1,x2,cr):=by
  by_cases hl:(a.Ja.length:Int)=1
  ·obtain⟨r,hrec⟩: ∃ r,a.Ja = [r]:=List.length_eq_one_iff.1 (by omega)
   have h3:=hr r (by rw[hrec]; exact .head _)
   obtain⟨x1,x2,x3,h4⟩:=xT r h3.2.1 h3.2.2
   have h5:=xQ r (by omega) (by omega)
   exact⟨x3,fun _=>⟨r,x1,x2,by rw[hrec]; rfl,h4,by rw[← h5]; exact h4⟩⟩
  ·exact⟨0,fun h=>absurd h hl⟩
 refine⟨cr,e0,bchk a hw cr e0 (fun h=>(he h).1) (fun h=> ?_),rchk a hw hb (fun r h=>(hr r h).1) cr e0 (fun h=>(he h).2) (fun h=> ?_),fun h=>(he h).1,hcr⟩
 ·obtain⟨r,x1,x2,h1,h2,h3⟩:=hcr h
  exact⟨r,x1,x2,h1,h2⟩
 ·obtain⟨r,x1,x2,h1,h2,h3⟩:=hcr h
  exact⟨r,x1,x2,h1,h3⟩
theorem Pr.bind_assoc {α β γ:Type} (p:Pr α) (f:α→Pr β) (g:β→Pr γ):(p.bind f).bind g=p.bind fun a=>(f a).bind g:=by
 funext s q
 unfold Pr.bind
 cases p s q with
 | error e=>rfl
 | ok x=>rfl
theorem Pr.ret_bind {α β:Type} (a:α) (f:α→Pr β):(Pr.ret a).bind f=f a:=by
 funext s q
 rfl
def zi:List Nat→Pr (List Int)
 | []=> .ret []
 | k::ks=>(fd k).bind fun a=>(zi ks).bind fun l=> .ret (a::l)
def pW:List Nat→List Int→List UInt8
 | k::ks,x::xs=>be x k++pW ks xs
 | _,_ => []
def okI:List Nat→List Int→Prop
 | [],[]=>True
 | k::ks,x::xs=>bh x k=true∧okI ks xs
 | _,_=>False
theorem xV: ∀ ks:List Nat,(∀ k,k∈ks→1≤k∧k≤8)→Sp (zi ks) (pW ks) (okI ks)
 | [],_=>by
  refine⟨fun s q l r hq h=> ?_,fun s t q l hq hl hd=> ?_⟩
  ·injection h with h
   obtain⟨rfl,rfl⟩:=Kj h
   exact⟨Kn _,hq,rfl,by simp[pW],trivial⟩
  ·cases l with
   | nil=>rfl
   | cons x xs=>exact nomatch hl
 | k::ks,hk=>by
  have hp:=ej k (hk k (List.mem_cons_self ..)).1 (hk k (List.mem_cons_self ..)).2
  have ih:=xV ks (fun j hj=>hk j (List.mem_cons_of_mem _ hj))
  refine⟨fun s q l r hq h=> ?_,fun s t q l hq hl hd=> ?_⟩
  ·obtain⟨a,m,h1,h2⟩:=Pr.bind_ok h
   obtain⟨xs,m2,h3,h4⟩:=Pr.bind_ok h2
   injection h4 with h4
   obtain⟨rfl,rfl⟩:=Kj h4
   obtain⟨a1,a2,a3,a4,a5⟩:=hp.spell s q a m hq h1
   obtain⟨b1,b2,b3,b4,b5⟩:=ih.spell s m xs m2 a2 h3
   exact⟨by omega,b2,by simp only[pW,JU]; omega,by rw[b4,a4,pW,JY],a5,b5⟩
  ·cases l with
   | nil=>exact nomatch hl
   | cons x xs =>
    rw[pW,JY] at hd
    have h1:=hp.back s _ q x hq hl.1 hd
    have hl2:=congrArg List.length hd
    rw[J7,JU] at hl2
    have h2:=ih.back s t _ xs (by omega) hl.2 (bX hd)
    rw[zi,Pr.bind_of h1,Pr.bind_of h2,pW,JU,← Nat.add_assoc]
    rfl
def KS:List Nat := [8,4,4,1,4,2,4,8,8,8,2,4,4]
theorem KS_ok: ∀ k,k∈KS→1≤k∧k≤8:=by decide
def s32 (n:Int):Int:=if n>2147483647 then n - 4294967296 else n
def toL (p:Pfx):List Int := [p.Jz,p.JD,p.Jv,2,s32 p.JH,p.JJ,p.Jx,p.Jm,p.JF,p.I6,p.I8,p.Jn,p.JI]
def ckE (b m ct:Int):Int:=if m=2 then (if b<49 then 4 else if ct<0 then 10 else 0) else 6
def chkP:List Int→Pr Pfx
 | [a,b,c,m,s,at',la,fi,mx,pr,ep,sq,ct]=>if ckE b m ct=0 then .ret ⟨a,b,c,s % 4294967296,at',la,fi,mx,pr,ep,sq,ct⟩ else .err (ckE b m ct)
 | _=> .err 1
def Dj:Pr Pfx:=(zi KS).bind chkP
def oC (p:Pfx):List UInt8:=pW KS (toL p)
def okP (p:Pfx):Prop:=okI KS (toL p)∧(0≤p.JH∧p.JH≤4294967295)∧49≤p.JD∧0≤p.JI
theorem B9: ∀ {ks:List Nat} {l:List Int},okI ks l→l.length=ks.length
 | [],[],_=>rfl
 | k::ks,x::xs,h=>by rw[J0,J0,B9 h.2]
 | [],_ :: _,h=>nomatch h
 | _ :: _,[],h=>nomatch h
theorem zj: ∀ {ks:List Nat} {l:List Int},okI ks l→(pW ks l).length=ks.sum
 | [],[],_=>rfl
 | k::ks,x::xs,h=>by rw[pW,JU,aF,zj h.2,List.sum_cons]
 | [],_ :: _,h=>nomatch h
 | _ :: _,[],h=>nomatch h
theorem len13 {l:List Int} (h:l.length=13): ∃ a b c m s t la fi mx pr ep sq ct,l = [a,b,c,m,s,t,la,fi,mx,pr,ep,sq,ct]:=by
 match l,h with
 | [a,b,c,m,s,t,la,fi,mx,pr,ep,sq,ct],_=>exact⟨a,b,c,m,s,t,la,fi,mx,pr,ep,sq,ct,rfl⟩
theorem EK {s:Int} (h:bh s 4=true):s32 (s % 4294967296)=s:=by
 rw[eo] at h
 have:=of_decide_eq_true h
 unfold s32
 split <;> omega
theorem Gh {s:Int} (h:0≤s∧s≤4294967295):s32 s % 4294967296=s:=by
 unfold s32
 split <;> omega
theorem EL {b m ct:Int} (h:ckE b m ct=0):m=2∧49≤b∧0≤ct:=by
 unfold ckE at h
 by_cases h1:m=2
 ·rw[if_pos h1] at h
  by_cases h2:b<49
  ·rw[if_pos h2] at h; cases h
  ·rw[if_neg h2] at h
   by_cases h3:ct<0
   ·rw[if_pos h3] at h; cases h
   ·exact⟨h1,by omega,by omega⟩
 ·rw[if_neg h1] at h; cases h
theorem ckE_of {b ct:Int} (h1:49≤b) (h2:0≤ct):ckE b 2 ct=0:=by
 unfold ckE
 rw[if_pos rfl,if_neg (by omega),if_neg (by omega)]
theorem AZ:Sp Dj oC okP:=by
 refine⟨fun s q p r hq h=> ?_,fun s t q p hq hp hd=> ?_⟩
 ·obtain⟨l,m,h1,h2⟩:=Pr.bind_ok h
  obtain⟨a1,a2,a3,a4,a5⟩:=(xV KS KS_ok).spell s q l m hq h1
  obtain⟨a,b,c,mg,sm,t,la,fi,mx,pr,ep,sq,ct,rfl⟩:=len13 (B9 a5)
  have hs:bh sm 4=true:=a5.2.2.2.2.1
  unfold chkP at h2
  dsimp only at h2
  by_cases hc:ckE b mg ct=0
  ·rw[if_pos hc] at h2
   injection h2 with h2
   obtain⟨rfl,rfl⟩:=Kj h2
   obtain⟨rfl,c2,c3⟩:=EL hc
   have e:toL ⟨a,b,c,sm % 4294967296,t,la,fi,mx,pr,ep,sq,ct⟩ = [a,b,c,2,sm,t,la,fi,mx,pr,ep,sq,ct]:=by
    unfold toL
    rw[EK hs]
   unfold oC okP
   rw[e]
   exact⟨a1,a2,a3,a4,a5,by show 0≤sm % 4294967296∧sm % 4294967296≤4294967295; omega,c2,c3⟩
  ·rw[if_neg hc] at h2
   exact nomatch h2
 ·have h1:=(xV KS KS_ok).back s t q (toL p) hq hp.1 hd
  rw[Dj,Pr.bind_of h1]
  unfold toL chkP
  dsimp only
  rw[if_pos (ckE_of hp.2.2.1 hp.2.2.2),Gh hp.2.1]
  rfl
theorem and32 (n:Int):Go.bits .and .i64 n 4294967295=n % 4294967296:=by
 rw[show (4294967295:Int)=((4294967295:Nat):Int) from rfl,xC n _ (by decide),show (4294967295:Nat)=2 ^ 32 - 1 from rfl,Nat.and_two_pow_sub_one_eq_mod]
 omega
def zP:Pfx:=⟨0,0,0,0,0,0,0,0,0,0,0,0⟩
def EM (a b c m s t la fi mx pr ep sq ct:Int) (st:I):Option (Pfx×I):=(gJ st).bind fun (x57,st58)=>(if x57=0 then ((if m=2 then ((if b<49 then ((bU st58 4).bind fun st164=>some st164) else ((if ct<0 then ((bU st58 10).bind fun st172=>some st172) else some st58).bind fun st169=>some st169)).bind fun st161=>some st161) else ((bU st58 6).bind fun st174=>some st174)).bind fun st147=>some st147) else some st58).bind fun st117=>(gJ st117).bind fun (x176,st177)=>if x176=0 then (some ((⟨a,b,c,(Go.bits .and .i64 s 4294967295),t,la,fi,mx,pr,ep,sq,ct⟩:Pfx),st177)) else (some ((⟨0,0,0,0,0,0,0,0,0,0,0,0⟩:Pfx),st177))
theorem B_tail (a b c m s t la fi mx pr ep sq ct:Int):CB (EM a b c m s t la fi mx pr ep sq ct) (chkP [a,b,c,m,s,t,la,fi,mx,pr,ep,sq,ct]) zP:=by
 refine xK (fun st h=> ?_) (fun st h=> ?_)
 ·unfold EM
  rw[bt,JR]
  dsimp only
  rw[if_neg h,JR,bt,JR]
  dsimp only
  rw[if_neg h]
  rfl
 ·obtain⟨l,q,e⟩:=st
  obtain rfl:e=0:=h
  unfold EM ckE
  rw[bt,JR]
  dsimp only
  rw[if_pos rfl,and32]
  by_cases h1:m=2
  ·rw[if_pos h1,if_pos h1]
   by_cases h2:b<49
   ·rw[if_pos h2,if_pos h2,if_neg (by decide)]; rfl
   ·rw[if_neg h2,if_neg h2]
    by_cases h3:ct<0
    ·rw[if_pos h3,if_pos h3,if_neg (by decide)]; rfl
    ·rw[if_neg h3,if_neg h3,if_pos rfl]; rfl
  ·rw[if_neg h1,if_neg h1,if_neg (by decide)]; rfl
theorem B_pfx:CB (fun st=>j5 st) Dj zP:=by
 have w: ∀ {p:Pr Int} (s:List UInt8) (q:Nat) (a:Int) (r:Nat),s.length≤1000000→q≤s.length→p s q= .ok (a,r)→(fun _:Int=>True) a:=fun _ _ _ _ _ _ _=>trivial
 have h:=CB.bind (fun _=>True) Q8.cb w trivial fun a _=>CB.bind (fun _=>True) Q4.cb w trivial fun b _=>CB.bind (fun _=>True) Q4.cb w trivial fun c _=>CB.bind (fun _=>True) Q1.cb w trivial fun m _=>CB.bind (fun _=>True) Q4.cb w trivial fun s _ =>
  CB.bind (fun _=>True) Q2.cb w trivial fun t _=>CB.bind (fun _=>True) Q4.cb w trivial fun la _=>CB.bind (fun _=>True) Q8.cb w trivial fun fi _=>CB.bind (fun _=>True) Q8.cb w trivial fun mx _=>CB.bind (fun _=>True) Q8.cb w trivial fun pr _ =>
  CB.bind (fun _=>True) Q2.cb w trivial fun ep _=>CB.bind (fun _=>True) Q4.cb w trivial fun sq _=>CB.bind (fun _=>True) Q4.cb w trivial fun ct _=>B_tail a b c m s t la fi mx pr ep sq ct
 refine (h.congr (fun st=>rfl)).pr ?_
 unfold Dj KS
 simp only[zi,Pr.bind_assoc,Pr.ret_bind]
def wrI:List Nat→List Int→List UInt8×Int→Option (List UInt8×Int)
 | k::ks,x::xs,st=>(dK st x (k:Int)).bind fun st=>wrI ks xs st
 | _,_,st=>some st
theorem EN: ∀ (ks:List Nat) (l:List Int) (t:List UInt8),okI ks l→t.length+ks.sum≤1000000→wrI ks l (t,0)=some (t++pW ks l,0)
 | [],[],t,_,_=>by unfold wrI pW; rw[Kg]
 | [],_ :: _,_,h,_=>nomatch h
 | _ :: _,[],_,h,_=>nomatch h
 | k::ks,x::xs,t,h,hl=>by
  rw[List.sum_cons] at hl
  rw[wrI,dR h.1 (by omega),JR,K5,EN ks xs _ h.2 (by rw[JU,aF]; omega),pW,JY]
def w32 (n:Int):Int:=IntKind.i32.wrap (IntKind.u32.wrap n)
theorem Gi (n:Int): -2147483648≤w32 n∧w32 n≤2147483647:=by
 unfold w32
 rw[IntKind.wrap_i32]
 omega
theorem w32_s {n:Int} (h:0≤n∧n≤4294967295):w32 n=s32 n:=by
 unfold w32 s32
 rw[IntKind.wrap_i32,IntKind.wrap_u32]
 split <;> omega
def toW (p:Pfx):List Int := [p.Jz,p.JD,p.Jv,2,w32 p.JH,p.JJ,p.Jx,p.Jm,p.JF,p.I6,p.I8,p.Jn,p.JI]
theorem EO (st:List UInt8×Int) (p:Pfx):cX st p=wrI KS (toW p) (if p.JH<0∨p.JH>4294967295 then j8 st 11 else st):=by
 have hw:=Gi p.JH
 unfold cX
 have e:((if p.JH<0 then some true else (if p.JH>4294967295 then some true else some false)).bind fun y4=>(if y4=true then ((jH st 11).bind fun st14=>some st14) else some st))=some (if p.JH<0∨p.JH>4294967295 then j8 st 11 else st):=by
  by_cases h1:p.JH<0
  ·rw[if_pos h1,JR,if_pos rfl,if_pos (.inl h1)]; rfl
  ·rw[if_neg h1]
   by_cases h2:p.JH>4294967295
   ·rw[if_pos h2,JR,if_pos rfl,if_pos (.inr h2)]; rfl
   ·rw[if_neg h2,JR,if_neg (by decide),if_neg (by omega)]
 have e2: ∀ (K:List UInt8×Int→Option (List UInt8×Int)),((if p.JH<0 then some true else (if p.JH>4294967295 then some true else some false)).bind fun y4=>(if y4=true then ((jH st 11).bind fun st14=>some st14) else some st).bind K)=K (if p.JH<0∨p.JH>4294967295 then j8 st 11 else st):=by
  intro K
  rw[← Option.bind_assoc,e,JR]
 rw[e2]
 show (if -9223372036854775808≤w32 p.JH∧w32 p.JH≤9223372036854775807 then _ else _)= _
 rw[if_pos (by omega)]
 rfl
def okWp (p:Pfx):Prop:=okI KS (toL p)∧0≤p.JH∧p.JH≤4294967295
theorem qY {p:Pfx} (h:okI KS (toL p)):(oC p).length=61:=by
 unfold oC
 rw[zj h]
 rfl
theorem vi {p:Pfx} (t:List UInt8) (h:okWp p) (ht:t.length≤900000):cX (t,0) p=some (t++oC p,0):=by
 have e:toW p=toL p:=by
  unfold toW toL
  rw[w32_s h.2]
 have h2:=h.2
 rw[EO,if_neg (by omega),e]
 exact EN KS (toL p) t h.1 (by show t.length+61≤ _; omega)
theorem jY {st:I} (h:st.err≠0):cG st=some (⟨false,[]⟩,st):=QV.dead st h
theorem Gj {st:I} (h:st.err≠0):ui st=some ([],st):=QN.dead st h
theorem Ba:CQ nl (oh 32) 0:=(xI 32 (.inl rfl)).cq (j6 32 (.inl rfl))
theorem tT {st:I} (h:st.err≠0):nl st=some (0,st):=Ba.dead st h
def qZ (each:Nat):Pr Int:=(oh 32).bind (qR each)
theorem Bb {each:Nat} {s:List UInt8} {q r:Nat} {n:Int} (hq:q≤s.length) (h:qZ each s q= .ok (n,r)):0≤n∧(0<each→n*each≤((s.length - r:Nat):Int))∧q≤r∧r=q+(cU (bu n)).length∧r≤s.length∧s.take r=s.take q++cU (bu n)∧bu n<2 ^ (32:Int).toNat:=by
 obtain⟨m,r',h2,h⟩:=Pr.bind_ok h
 obtain⟨a1,a2,a3,a4,a5⟩:=(j6 32 (.inl rfl)).spell _ _ _ _ hq h2
 unfold qR at h
 split at h
 ·exact nomatch h
 ·rename_i hn
  split at h
  ·exact nomatch h
  ·rename_i he
   injection h with h
   obtain⟨rfl,rfl⟩:=Kj h
   refine⟨by omega,fun hz=> ?_,a1,a3,a2,a4,a5⟩
   have:m≤((s.length - r':Nat):Int) / each:=by
    rcases Int.lt_or_le (((s.length - r':Nat):Int) / each) m with g | g
    ·exact absurd ⟨hz,g⟩ he
    ·exact g
   exact (Int.le_ediv_iff_mul_le (by omega)).1 this
theorem Bc {each:Nat} {s t:List UInt8} {q:Nat} {n:Int} (hq:q≤s.length) (hf:bu n<2 ^ (32:Int).toNat) (hn:0≤n) (h:s.drop q=cU (bu n)++t) (hl:0<each→n*each≤t.length):qZ each s q= .ok (n,q+(cU (bu n)).length):=by
 have g:=(j6 32 (.inl rfl)).back s t q n hq hf h
 rw[qZ,Pr.bind_of g]
 unfold qR
 have hlen:=congrArg List.length h
 rw[J7,JU] at hlen
 rw[if_neg (by omega),if_neg]
 rintro⟨hz,hc⟩
 have:=(Int.le_ediv_iff_mul_le (show (0:Int)<each by omega)).2 (hl hz)
 rw[show s.length - (q+(cU (bu n)).length)=t.length by omega] at hc
 omega
def Ca {α:Type} (each:Nat) (p:Pr α):Pr (List α):=(qZ each).bind fun n=>iv p n.toNat
theorem Gk {α:Type} {p:Pr α} {enc:α→List UInt8} {ok:α→Prop} (each:Nat) (hp:Sp p enc ok) (he: ∀ x,ok x→each≤(enc x).length):Sp (Ca each p) (fun l=>cU (bu (l.length:Int))++bl enc l) (fun l=>bu (l.length:Int)<2 ^ (32:Int).toNat∧ ∀ x,x∈l→ok x):=by
 refine⟨fun s q a r hq h=> ?_,fun s t q a hq ha h=> ?_⟩
 ·obtain⟨n,q1,g1,h⟩:=Pr.bind_ok h
  obtain⟨a1,a2,a3,a4,a5,a6,a7⟩:=Bb hq g1
  obtain⟨b1,b2,b3,b4,b5,b6⟩:=(uQ hp n.toNat).spell _ _ _ _ a5 h
  have hn:(a.length:Int)=n:=by omega
  refine⟨by omega,b2,by rw[JU,hn]; omega,by rw[b4,a6,hn,JY],by rw[hn]; exact a7,b6⟩
 ·rw[JY] at h
  have hl:=congrArg List.length h
  rw[J7,JU,JU] at hl
  have g1:=Bc (each:=each) hq ha.1 (by omega) h (fun _=>by
   have:=na he a ha.2
   rw[JU,Int.natCast_add,← Int.natCast_mul]
   omega)
  have h2:=bX h
  have g2:=(uQ hp a.length).back _ _ _ _ (by omega) ⟨rfl,ha.2⟩ h2
  rw[Ca,Pr.bind_of g1,K5,g2,JU]
  simp only[Nat.add_assoc]
def pHd:Pr Hd:=wt.bind fun k=>lT.bind fun v=> .ret ⟨k,v⟩
def gF (h:Hd):List UInt8:=(cU (bu (h.Jr.length:Int))++h.Jr)++(cU (bu (eE h.Jj))++h.Jj.data)
def okHd (h:Hd):Prop:=bu (h.Jr.length:Int)<2 ^ (32:Int).toNat∧bu (eE h.Jj)<2 ^ (32:Int).toNat∧bi h.Jj=true
theorem Sp_hd:Sp pHd gF okHd:=by
 refine⟨fun s q a r hq h=> ?_,fun s t q a hq ha h=> ?_⟩
 ·obtain⟨k,q1,h1,h⟩:=Pr.bind_ok h
  obtain⟨v,q2,h2,h⟩:=Pr.bind_ok h
  injection h with h
  obtain⟨rfl,rfl⟩:=Kj h
  obtain⟨a1,a2,a3,a4,a5⟩:=oT.spell _ _ _ _ hq h1
  obtain⟨b1,b2,b3,b4,b5⟩:=iW.spell _ _ _ _ a2 h2
  exact⟨by omega,b2,by simp only[gF,JU] at *; omega,by rw[b4,a4]; simp only[gF,JY],a5.1,b5⟩
 ·obtain⟨a1,a2,a3⟩:=ha
  have hl:=congrArg List.length h
  rw[gF,JY] at h
  have g1:=oT.back _ _ _ _ hq ⟨a1,rfl⟩ h
  have h:=bX h
  have g2:=iW.back _ _ _ _ (by simp only[gF,J7,JU] at *; omega) ⟨a2,a3⟩ h
  rw[pHd,Pr.bind_of g1,Pr.bind_of g2]
  simp only[Pr.ret,gF,JU,Nat.add_assoc]
theorem EP (h:Hd) (ho:okHd h):2≤(gF h).length:=by
 have h1:=nL (bu (h.Jr.length:Int))
 have h2:=nL (bu (eE h.Jj))
 simp only[gF,JU]
 omega
def Dk:Pr (List Hd):=Ca 2 pHd
theorem EQ:Sp Dk (fun l=>cU (bu (l.length:Int))++bl gF l) (fun l=>bu (l.length:Int)<2 ^ (32:Int).toNat∧ ∀ h,h∈l→okHd h):=Gk 2 Sp_hd EP
theorem Cb (n:Int) (s:List UInt8) (hs:s.length≤1000000) (hn:n≤1000000): ∀ (m fuel k:Nat) (acc:List Hd) (q:Nat),((k+m:Nat):Int)=n→m<fuel→q≤s.length→acc.length=k →
 (∃ (e:Int) (st:I),iv pHd m s q= .error e∧cZ n fuel [] acc k ⟨s.drop q,q,0⟩=some (.ret ([],st))∧st.err=e∧st.err≠0) ∨
 (∃ l r,iv pHd m s q= .ok (l,r)∧cZ n fuel [] acc k ⟨s.drop q,q,0⟩=some (.go ([],acc++l,k+m,⟨s.drop r,r,0⟩))∧q≤r∧r≤s.length)
 | 0,fuel+1,k,acc,q,h1,h2,h3,h4=> .inr ⟨[],q,rfl,by rw[cZ,if_neg (by omega),Kg]; rfl,Kn _,h3⟩
 | m+1,fuel+1,k,acc,q,h1,h2,h3,h4=>by
  rw[cZ,if_pos (by omega)]
  rcases QN.run s q h3 with⟨e,st,p1,g1,x1,y1⟩ | ⟨nm,q1,p1,g1,n1,l1⟩
  ·left
   refine⟨e,st,by rw[iv,Pr.bind_err (show pHd s q= .error e from Pr.bind_err p1)],?_,x1,y1⟩
   rw[g1,JR]
   simp only
   rw[jY y1,JR]
   simp only
   rw[if_pos (by omega),bt,JR]
   simp only
   rw[if_neg y1]
  rw[g1,JR]
  simp only
  rcases QV.run s q1 l1 with⟨e,st,p2,g2,x2,y2⟩ | ⟨v,q2,p2,g2,n2,l2⟩
  ·left
   have ht:pHd s q= .error e:=by rw[pHd,Pr.bind_of p1,Pr.bind_err p2]
   refine⟨e,st,by rw[iv,Pr.bind_err ht],?_,x2,y2⟩
   rw[g2,JR]
   simp only
   rw[if_pos (by omega),bt,JR]
   simp only
   rw[if_neg y2]
  rw[g2,JR]
  simp only
  rw[if_pos (by omega),bt,JR]
  simp only[if_true]
  rw[if_pos (by omega)]
  have ht:pHd s q= .ok (⟨nm,v⟩,q2):=by rw[pHd,Pr.bind_of p1,Pr.bind_of p2]; rfl
  rw[iv,Pr.bind_of ht]
  rcases Cb n s hs hn m fuel (k+1) (acc ++ [(⟨nm,v⟩:Hd)]) q2 (by omega) (by omega) l2 (by rw[JU,h4]; rfl) with⟨e,st,r1,r2,r3,r4⟩ | ⟨l,r,r1,r2,r3,r4⟩
  ·exact .inl ⟨e,st,by rw[Pr.bind_err r1],r2,r3,r4⟩
  ·refine .inr ⟨⟨nm,v⟩::l,r,by rw[Pr.bind_of r1]; rfl,?_,by omega,r4⟩
   rw[r2,JY,show k+1+m=k+(m+1) by omega]
   rfl
theorem B_hds:CB bP Dk []:=by
 refine⟨fun st h=> ?_,fun s q hs hq=> ?_⟩
 ·unfold bP
  rw[tT h,JR]
  simp only
  rw[bt,JR]
  simp only
  rw[if_neg h]
 ·unfold bP
  rcases Ba.run s q hq with⟨e,st,p1,g1,x1,y1⟩ | ⟨c,q1,p1,g1,n1,l1⟩
  ·refine .inl ⟨e,st,Pr.bind_err (Pr.bind_err p1),?_,x1,y1⟩
   rw[g1,JR]
   simp only
   rw[bt,JR]
   simp only
   rw[if_neg y1]
  ·rw[g1,JR]
   simp only
   rw[bt,JR]
   simp only[if_true]
   have hd:(s.drop q1).length=s.length - q1:=J7
   have hE:Dk s q=((qR 2 c).bind fun n=>iv pHd n.toNat) s q1:=by
    unfold Dk Ca qZ Pr.bind
    rw[p1]
   rw[hE]
   unfold Pr.bind qR
   by_cases hn:c<0
   ·rw[if_pos hn,if_pos hn]
    exact .inl ⟨4,_,rfl,rfl,rfl,by simp[da]⟩
   rw[if_neg hn,if_neg hn,ql,JR]
   simp only
   rw[hd,if_pos (show 0≤((s.length - q1:Nat):Int)∧((s.length - q1:Nat):Int)≤9223372036854775807 by omega)]
   by_cases hc:0<2∧((s.length - q1:Nat):Int) / ((2:Nat):Int)<c
   ·have hc2:c>((s.length - q1:Nat):Int) / 2:=hc.2
    rw[if_pos hc,if_pos hc2]
    exact .inl ⟨1,_,rfl,rfl,rfl,by simp[da]⟩
   ·have hc2: ¬ c>((s.length - q1:Nat):Int) / 2:=fun h=>hc ⟨by decide,h⟩
    rw[if_neg hc,if_neg hc2]
    simp only
    rcases Cb c s hs (by omega) c.toNat (c.toNat+1) 0 [] q1 (by omega) (by omega) l1 rfl with⟨e,st,r1,r2,r3,r4⟩ | ⟨l,r,r1,r2,r3,r4⟩
    ·exact .inl ⟨e,st,r1,by rw[r2]; rfl,r3,r4⟩
    ·refine .inr ⟨l,r,r1,?_,by omega,r4⟩
     rw[r2,Kc]
     rfl
def hwt (h:Hd):Nat:=20+h.Jr.length+h.Jj.data.length
def ma:List Hd→Nat
 | []=>0
 | h::l=>hwt h+ma l
theorem jB (n:Int) (h: -1≤n) (h2:n≤2147483647):(cU (bu n)).length≤10:=j9 _ (iy n (by omega) (by omega))
theorem lC (n:Int) (h: -1≤n) (h2:n≤2147483647):bu n<2 ^ (32:Int).toNat:=by
 rw[show 2 ^ (32:Int).toNat=4294967296 by decide]
 exact Ai n ⟨by omega,h2⟩
theorem lD (b:Bl) (h:b.data.length≤2147483647): -1≤eE b∧eE b≤2147483647:=by unfold eE; split <;> omega
theorem wU (h:Hd) (hk:h.Jr.length≤1000000) (hv:h.Jj.data.length≤1000000):(gF h).length≤hwt h:=by
 have h1:=jB (h.Jr.length:Int) (by omega) (by omega)
 have hb:=lD h.Jj (by omega)
 have h2:=jB (eE h.Jj) hb.1 hb.2
 simp only[gF,JU,hwt]
 omega
theorem vj: ∀ l:List Hd,ma l≤1000000→(bl gF l).length≤ma l
 | [],h=>Kn _
 | x::l,h=>by
  have h1:hwt x≤ma (x::l):=by rw[ma]; omega
  have h2:=vj l (by rw[ma] at h; omega)
  have h3:=wU x (by unfold hwt at h1; omega) (by unfold hwt at h1; omega)
  rw[bl,JU,ma]
  omega
theorem vk {t d:List UInt8} (hf:d.length≤1000000) (ht:t.length≤1000000000):mm (t,0) d=some (t++(cU (bu (d.length:Int))++d),0):=by
 have:=kS (t:=t) (b:=⟨false,d⟩) rfl (by simp only; omega) (by simp only; omega)
 rw[yv _ _ (by simp only; omega)]
 rw[pp _ _ (by simp only; omega)] at this
 exact this
theorem hw_l1: ∀ (l:List Hd) (t:List UInt8),(∀ h,h∈l→bi h.Jj=true)→t.length+ma l≤1000000→dl l (t,0)=some (t++bl gF l,0)
 | [],t,h,hl=>by rw[dl,bl,Kg]
 | x::l,t,h,hl=>by
  have hx:t.length+(hwt x+ma l)≤1000000:=hl
  have h1:=wU x (by unfold hwt at hx; omega) (by unfold hwt at hx; omega)
  have h2:(cU (bu (x.Jr.length:Int))++x.Jr).length≤(gF x).length:=by simp only[gF,JU]; omega
  have e:t++(cU (bu (x.Jr.length:Int))++x.Jr)++(cU (bu (eE x.Jj))++x.Jj.data)=t++gF x:=by simp only[gF,JY]
  have h3:(t++(cU (bu (x.Jr.length:Int))++x.Jr)).length=t.length+(cU (bu (x.Jr.length:Int))++x.Jr).length:=JU
  rw[dl,vk (by unfold hwt at hx; omega) (by omega),JR,kS (h x (.head _)) (by unfold hwt at hx; omega) (by rw[h3]; unfold hwt at hx h1; omega),JR,e,hw_l1 l _ (fun y hy=>h y (.tail _ hy)) (by rw[JU]; omega),bl,JY]
theorem ra: ∀ l:List Hd,l.length*20≤ma l
 | []=>by simp[ma]
 | h::l=>by have:=ra l; simp only[ma,hwt,J0]; omega
theorem zk: ∀ (l:List Hd) (h:Hd),h∈l→hwt h≤ma l
 | x::l,h,hm=>by
  rcases List.mem_cons.1 hm with rfl | hm
  ·simp only[ma]; omega
  ·have:=zk l h hm; simp only[ma]; omega
theorem ER (l:List Hd) (t:List UInt8) (h: ∀ x,x∈l→bi x.Jj=true) (ht:t.length+10+ma l≤1000000):g8 (t,0) l=some (t++(cU (bu (l.length:Int))++bl gF l),0):=by
 have hn:=ra l
 have h1:=jB (l.length:Int) (by omega) (by omega)
 unfold g8
 rw[ug _ _ ⟨by omega,by simp only; omega⟩]
 unfold ib
 rw[if_pos (by omega),l8,JR,hw_l1 l _ h (by rw[JU]; omega),JY]
 rfl
theorem Cc:CQ le (oh 64) 0:=(xI 64 (.inr rfl)).cq (j6 64 (.inr rfl))
theorem zl {st:I} (h:st.err≠0):le st=some (0,st):=Cc.dead st h
theorem hU {st:I} (h:st.err≠0):dM st=some (st.err,st):=by rw[ic,ub h]
def vl:Pr Unit:=fun s q=>if q=s.length then .ok ((),q) else .error 2
def zm:Rec:=⟨0,0,⟨false,[]⟩,⟨false,[]⟩,[]⟩
def te:Pr Rec:=(fd 1).bind fun z=>if z=0 then (oh 64).bind fun t=>(oh 32).bind fun o=>if o<0 then .err 11 else lT.bind fun k=>lT.bind fun v=>Dk.bind fun h=>vl.bind fun _=> .ret ⟨t,o,k,v,h⟩ else .err 8
def vm (st9:I):Option (Rec×Int):=(dL st9 1).bind fun (x12,st13)=>if x12=0 then ((le st13).bind fun (x16,st17)=>(nl st17).bind fun (x19,st20)=>if x19<0 then ((bU st20 11).bind fun st24=>(cG st24).bind fun (x26,st27)=>(cG st27).bind fun (x29,st30)=>(bP st30).bind fun (x32,st35)=>(dM st35).bind fun (x37,st38)=>some ((⟨x16,x19,x26,x29,x32⟩:Rec),x37)) else ((cG st20).bind fun (x43,st44)=>(cG st44).bind fun (x46,st47)=>(bP st47).bind fun (x49,st52)=>(dM st52).bind fun (x54,st55)=>some ((⟨x16,x19,x43,x46,x49⟩:Rec),x54))) else ((bU st13 8).bind fun st60=>(le st60).bind fun (x62,st63)=>(nl st63).bind fun (x65,st66)=>if x65<0 then ((bU st66 11).bind fun st70=>(cG st70).bind fun (x72,st73)=>(cG st73).bind fun (x75,st76)=>(bP st76).bind fun (x78,st81)=>(dM st81).bind fun (x83,st84)=>some ((⟨x62,x65,x72,x75,x78⟩:Rec),x83)) else ((cG st66).bind fun (x89,st90)=>(cG st90).bind fun (x92,st93)=>(bP st93).bind fun (x95,st98)=>(dM st98).bind fun (x100,st101)=>some ((⟨x62,x65,x89,x92,x95⟩:Rec),x100)))
theorem ES (s:List UInt8) (hs:s.length≤1000000):(∃ e x,te s 0= .error e∧vm ⟨s,0,0⟩=some (x,e)∧e≠0)∨(∃ x,te s 0= .ok (x,s.length)∧vm ⟨s,0,0⟩=some (x,0)):=by
 unfold vm te
 have r0:=Q1.run s 0 (Ko _)
 rw[List.drop_zero] at r0
 have hB:=B_hds
 rcases r0 with⟨e,st,p0,g0,x0,y0⟩ | ⟨z,q0,p0,g0,n0,l0⟩
 ·refine .inl ⟨e,⟨0,0,⟨false,[]⟩,⟨false,[]⟩,[]⟩,Pr.bind_err p0,?_,by rw[← x0]; exact y0⟩
  rw[g0]
  simp only[JR,if_true,zl y0,tT y0,jY y0,hB.dead _ y0,hU y0,x0,show ¬ (0:Int)<0 by decide,if_false]
 rw[g0,JR]
 simp only
 by_cases hz:z=0
 ·rw[if_pos hz,Pr.bind_of p0,if_pos hz]
  rcases Cc.run s q0 l0 with⟨e,st,p1,g1,x1,y1⟩ | ⟨a,q1,p1,g1,n1,l1⟩
  ·refine .inl ⟨e,⟨0,0,⟨false,[]⟩,⟨false,[]⟩,[]⟩,Pr.bind_err p1,?_,by rw[← x1]; exact y1⟩
   rw[g1]
   simp only[JR,if_true,tT y1,jY y1,hB.dead _ y1,hU y1,x1,show ¬ (0:Int)<0 by decide,if_false]
  rw[g1,JR,Pr.bind_of p1]
  simp only
  rcases Ba.run s q1 l1 with⟨e,st,p2,g2,x2,y2⟩ | ⟨o,q2,p2,g2,n2,l2⟩
  ·refine .inl ⟨e,⟨a,0,⟨false,[]⟩,⟨false,[]⟩,[]⟩,Pr.bind_err p2,?_,by rw[← x2]; exact y2⟩
   rw[g2]
   simp only[JR,if_true,jY y2,hB.dead _ y2,hU y2,x2,show ¬ (0:Int)<0 by decide,if_false]
  rw[g2,JR,Pr.bind_of p2]
  simp only
  by_cases ho:o<0
  ·rw[if_pos ho,if_pos ho,dt,JR,qP]
   have y:(⟨s.drop q2,q2,11⟩:I).err≠0:=by simp
   refine .inl ⟨11,⟨a,o,⟨false,[]⟩,⟨false,[]⟩,[]⟩,rfl,?_,by decide⟩
   simp only[JR,jY y,hB.dead _ y,hU y]
  rw[if_neg ho,if_neg ho]
  rcases QV.run s q2 l2 with⟨e,st,p3,g3,x3,y3⟩ | ⟨k,q3,p3,g3,n3,l3⟩
  ·refine .inl ⟨e,⟨a,o,⟨false,[]⟩,⟨false,[]⟩,[]⟩,Pr.bind_err p3,?_,by rw[← x3]; exact y3⟩
   rw[g3]
   simp only[JR,jY y3,hB.dead _ y3,hU y3,x3]
  rw[g3,JR,Pr.bind_of p3]
  simp only
  rcases QV.run s q3 l3 with⟨e,st,p4,g4,x4,y4⟩ | ⟨v,q4,p4,g4,n4,l4⟩
  ·refine .inl ⟨e,⟨a,o,k,⟨false,[]⟩,[]⟩,Pr.bind_err p4,?_,by rw[← x4]; exact y4⟩
   rw[g4]
   simp only[JR,hB.dead _ y4,hU y4,x4]
  rw[g4,JR,Pr.bind_of p4]
  simp only
  rcases hB.run s q4 hs l4 with⟨e,st,p5,g5,x5,y5⟩ | ⟨h,q5,p5,g5,n5,l5⟩
  ·refine .inl ⟨e,⟨a,o,k,v,[]⟩,Pr.bind_err p5,?_,by rw[← x5]; exact y5⟩
   rw[g5]
   simp only[JR,hU y5,x5]
  rw[g5,JR,Pr.bind_of p5]
  simp only
  rw[ic,JR]
  simp only
  by_cases hq:q5=s.length
  ·have he:vl s q5= .ok ((),q5):=by unfold vl; rw[if_pos hq]
   have hi:(fe ⟨s.drop q5,q5,0⟩).err=0:=by rw[hq,List.drop_length]; rfl
   rw[Pr.bind_of he,hi]
   exact .inr ⟨⟨a,o,k,v,h⟩,by rw[hq]; rfl,rfl⟩
  ·have he:vl s q5= .error 2:=by unfold vl; rw[if_neg hq]
   have hi:(fe ⟨s.drop q5,q5,0⟩).err=2:=by
    unfold fe
    rw[if_neg]
    ·rfl
    ·intro h0
     have:=List.drop_eq_nil_iff.1 h0
     omega
   rw[Pr.bind_err he,hi]
   exact .inl ⟨2,_,rfl,rfl,by decide⟩
 ·rw[if_neg hz,Pr.bind_of p0,if_neg hz,dt,JR,qP]
  have y:(⟨s.drop q0,q0,8⟩:I).err≠0:=by simp
  refine .inl ⟨8,⟨0,0,⟨false,[]⟩,⟨false,[]⟩,[]⟩,rfl,?_,by decide⟩
  simp only[JR,if_true,zl y,tT y,jY y,hB.dead _ y,hU y,show ¬ (0:Int)<0 by decide,if_false]
def Dl:Pr Rec:=fun s q=>match wt s q with
 | .error e=> .error e
 | .ok (d,r)=>match te d 0 with
  | .error e=> .error e
  | .ok (x,_)=> .ok (x,r)
theorem wV (st9 st6:I) (x:Rec) (e:Int) (h:vm st9=some (x,e)):((dL st9 1).bind fun (x12,st13)=>if x12=0 then ((le st13).bind fun (x16,st17)=>(nl st17).bind fun (x19,st20)=>if x19<0 then ((bU st20 11).bind fun st24=>(cG st24).bind fun (x26,st27)=>(cG st27).bind fun (x29,st30)=>(bP st30).bind fun (x32,st35)=>(dM st35).bind fun (x37,st38)=>if x37=0 then (some ((⟨x16,x19,x26,x29,x32⟩:Rec),st6)) else ((bU st6 x37).bind fun st41=>some (zm,st41))) else ((cG st20).bind fun (x43,st44)=>(cG st44).bind fun (x46,st47)=>(bP st47).bind fun (x49,st52)=>(dM st52).bind fun (x54,st55)=>if x54=0 then (some ((⟨x16,x19,x43,x46,x49⟩:Rec),st6)) else ((bU st6 x54).bind fun st58=>some (zm,st58)))) else ((bU st13 8).bind fun st60=>(le st60).bind fun (x62,st63)=>(nl st63).bind fun (x65,st66)=>if x65<0 then ((bU st66 11).bind fun st70=>(cG st70).bind fun (x72,st73)=>(cG st73).bind fun (x75,st76)=>(bP st76).bind fun (x78,st81)=>(dM st81).bind fun (x83,st84)=>if x83=0 then (some ((⟨x62,x65,x72,x75,x78⟩:Rec),st6)) else ((bU st6 x83).bind fun st87=>some (zm,st87))) else ((cG st66).bind fun (x89,st90)=>(cG st90).bind fun (x92,st93)=>(bP st93).bind fun (x95,st98)=>(dM st98).bind fun (x100,st101)=>if x100=0 then (some ((⟨x62,x65,x89,x92,x95⟩:Rec),st6)) else ((bU st6 x100).bind fun st104=>some (zm,st104)))))=if e=0 then some (x,st6) else some (zm,da st6 e):=by
 unfold vm at h
 revert h
 have hop: ∀ (o:Option (List Hd×I)) (f:List Hd→Rec),((o.bind fun (a,s1)=>(dM s1).bind fun (b,s2)=>some (f a,b))=some (x,e))→(o.bind fun (a,s1)=>(dM s1).bind fun (b,s2)=>if b=0 then some (f a,st6) else (bU st6 b).bind fun s3=>some (zm,s3))=if e=0 then some (x,st6) else some (zm,da st6 e):=by
  intro o f h
  cases o with
  | none=>exact nomatch h
  | some y =>
   rw[JR] at h ⊢
   simp only[ic,JR] at h ⊢
   injection h with h
   obtain⟨rfl,rfl⟩:=Kj h
   by_cases hz:(fe y.2).err=0
   ·rw[if_pos hz,if_pos hz]
   ·rw[if_neg hz,if_neg hz]
    rfl
 simp only[iZ,CI,DS,Ar,dt,JR]
 intro h
 split at h
 ·rename_i h1
  rw[if_pos h1]
  split at h
  ·rename_i h2
   rw[if_pos h2]
   exact hop _ (fun a=>⟨_,_,_,_,a⟩) h
  ·rename_i h2
   rw[if_neg h2]
   exact hop _ (fun a=>⟨_,_,_,_,a⟩) h
 ·rename_i h1
  rw[if_neg h1]
  split at h
  ·rename_i h2
   rw[if_pos h2]
   exact hop _ (fun a=>⟨_,_,_,_,a⟩) h
  ·rename_i h2
   rw[if_neg h2]
   exact hop _ (fun a=>⟨_,_,_,_,a⟩) h
theorem B_rec:CB gH Dl zm:=by
 refine⟨fun st h=> ?_,fun s q hs hq=> ?_⟩
 ·unfold gH
  rw[Gj h,JR]
  simp only
  rw[bt,JR]
  simp only
  rw[if_neg h]
  rfl
 ·unfold gH Dl
  rcases QN.run s q hq with⟨e,st,p1,g1,x1,y1⟩ | ⟨d,r,p1,g1,n1,l1⟩
  ·refine .inl ⟨e,st,by rw[p1],?_,x1,y1⟩
   rw[g1,JR]
   simp only
   rw[bt,JR]
   simp only
   rw[if_neg y1]
   rfl
  ·have hsp:=oT.spell _ _ _ _ hq p1
   have hdl:d.length≤1000000:=by
    have:=hsp.2.2.1
    rw[JU] at this
    omega
   rw[g1,p1,JR]
   simp only
   rw[bt,JR]
   simp only[if_true]
   rw[j1 _ (by omega),JR]
   rcases ES d hdl with⟨e,x,b1,b2,b3⟩ | ⟨x,b1,b2⟩
   ·have hb:=wV ⟨d,0,0⟩ ⟨s.drop r,r,0⟩ x e b2
    rw[if_neg b3] at hb
    rw[b1]
    exact .inl ⟨e,_,rfl,hb,rfl,b3⟩
   ·have hb:=wV ⟨d,0,0⟩ ⟨s.drop r,r,0⟩ x 0 b2
    rw[if_pos rfl] at hb
    rw[b1]
    exact .inr ⟨x,r,rfl,hb,n1,l1⟩
def lE (b:Bl):List UInt8:=cU (bu (eE b))++b.data
def pz (l:List Hd):List UInt8:=cU (bu (l.length:Int))++bl gF l
def dq (x:Rec):List UInt8:=be 0 1++(cU (bu x.JA)++(cU (bu x.Jq)++(lE x.Jr++(lE x.Jj++pz x.Jl))))
def okBl (b:Bl):Prop:=bu (eE b)<2 ^ (32:Int).toNat∧bi b=true
def okHs (l:List Hd):Prop:=bu (l.length:Int)<2 ^ (32:Int).toNat∧ ∀ h,h∈l→okHd h
def vn (x:Rec):Prop:=bu x.JA<2 ^ (64:Int).toNat∧(bu x.Jq<2 ^ (32:Int).toNat∧0≤x.Jq)∧okBl x.Jr∧okBl x.Jj∧okHs x.Jl
theorem Bd {s:List UInt8} {x:Rec} {r:Nat} (h:te s 0= .ok (x,r)):s=dq x∧vn x:=by
 obtain⟨z,q0,h0,h⟩:=Pr.bind_ok h
 split at h
 ·rename_i hz
  subst hz
  obtain⟨t,q1,h1,h⟩:=Pr.bind_ok h
  obtain⟨o,q2,h2,h⟩:=Pr.bind_ok h
  split at h
  ·exact nomatch h
  ·rename_i ho
   obtain⟨k,q3,h3,h⟩:=Pr.bind_ok h
   obtain⟨v,q4,h4,h⟩:=Pr.bind_ok h
   obtain⟨hs,q5,h5,h⟩:=Pr.bind_ok h
   obtain⟨u,q6,h6,h⟩:=Pr.bind_ok h
   injection h with h
   obtain⟨rfl,rfl⟩:=Kj h
   obtain⟨-,a2,-,a4,a5⟩:=(ej 1 (by decide) (by decide)).spell _ _ _ _ (Ko _) h0
   obtain⟨-,b2,-,b4,b5⟩:=(j6 64 (.inr rfl)).spell _ _ _ _ a2 h1
   obtain⟨-,c2,-,c4,c5⟩:=(j6 32 (.inl rfl)).spell _ _ _ _ b2 h2
   obtain⟨-,d2,-,d4,d5⟩:=iW.spell _ _ _ _ c2 h3
   obtain⟨-,e2,-,e4,e5⟩:=iW.spell _ _ _ _ d2 h4
   obtain⟨-,f2,-,f4,f5⟩:=EQ.spell _ _ _ _ e2 h5
   have hq:q5=s.length:=by
    unfold vl at h6
    split at h6
    ·rename_i hh; exact hh
    ·exact nomatch h6
   refine⟨?_,b5,⟨c5,by simp only; omega⟩,d5,e5,f5⟩
   have hs2:s=s.take q5:=by rw[hq,List.take_length]
   rw[hs2,f4,e4,d4,c4,b4,a4]
   simp only[dq,lE,pz,JY,List.take_zero,Kc]
 ·exact nomatch h
theorem SpV:Sp lT lE okBl:=iW
theorem SpH:Sp Dk pz okHs:=EQ
theorem Dm {x:Rec} (h:vn x):te (dq x) 0= .ok (x,(dq x).length):=by
 obtain⟨h1,⟨h2,h3⟩,h4,h5,h6⟩:=h
 have hd:(dq x).drop 0=dq x:=rfl
 have hlen:(dq x).length=1+((cU (bu x.JA)).length+((cU (bu x.Jq)).length+((lE x.Jr).length+((lE x.Jj).length+(pz x.Jl).length)))):=by
  simp only[dq,JU,aF]
 generalize hE:dq x=E at hd hlen ⊢
 have hh:E.drop 0=be 0 1++(cU (bu x.JA)++(cU (bu x.Jq)++(lE x.Jr++(lE x.Jj++(pz x.Jl ++ []))))):=by
  rw[hd,← hE]
  simp only[dq,Kg]
 have g0:=(ej 1 (by decide) (by decide)).back _ _ _ 0 (Ko _) (by decide) hh
 have hh:=bX hh
 rw[aF] at hh g0
 have g1:=(j6 64 (.inr rfl)).back _ _ _ _ (by omega) h1 hh
 have hh:=bX hh
 have g2:=(j6 32 (.inl rfl)).back _ _ _ _ (by omega) h2 hh
 have hh:=bX hh
 have g3:=SpV.back _ _ _ _ (by omega) h4 hh
 have hh:=bX hh
 have g4:=SpV.back _ _ _ _ (by omega) h5 hh
 have hh:=bX hh
 have g5:=SpH.back _ _ _ _ (by omega) h6 hh
 rw[te,Pr.bind_of g0,if_pos rfl,Pr.bind_of g1,Pr.bind_of g2,if_neg (by omega),Pr.bind_of g3,Pr.bind_of g4,Pr.bind_of g5]
 have he:0+1+(cU (bu x.JA)).length+(cU (bu x.Jq)).length+(lE x.Jr).length+(lE x.Jj).length+(pz x.Jl).length=E.length:=by omega
 rw[he,Pr.bind_of (a:=()) (r:=E.length) (by unfold vl; rw[if_pos rfl])]
 rfl
def dF (x:Rec):List UInt8:=cU (bu ((dq x).length:Int))++dq x
theorem Be:Sp Dl dF (fun x=>vn x∧bu ((dq x).length:Int)<2 ^ (32:Int).toNat):=by
 refine⟨fun s q a r hq h=> ?_,fun s t q a hq ha h=> ?_⟩
 ·unfold Dl at h
  cases hp:wt s q with
  | error e=>rw[hp] at h; exact nomatch h
  | ok y =>
   obtain⟨d,r'⟩:=y
   rw[hp] at h
   simp only at h
   obtain⟨a1,a2,a3,a4,a5⟩:=oT.spell _ _ _ _ hq hp
   cases hb:te d 0 with
   | error e=>rw[hb] at h; exact nomatch h
   | ok z =>
    rw[hb] at h
    injection h with h
    obtain⟨rfl,rfl⟩:=Kj h
    obtain⟨b1,b2⟩:=Bd (x:=z.1) (r:=z.2) hb
    unfold dF
    rw[← b1]
    exact⟨a1,a2,a3,a4,b2,a5.1⟩
 ·have g1:=oT.back s t q (dq a) hq ⟨ha.2,rfl⟩ h
  unfold Dl
  rw[g1]
  simp only
  rw[Dm ha.1]
  rfl
def rwt (x:Rec):Nat:=x.Jr.data.length+x.Jj.data.length+ma x.Jl
theorem oV (b:Bl) (h:b.data.length≤1000000):(lE b).length≤10+b.data.length:=by
 have hb:=lD b (by omega)
 have:=jB (eE b) hb.1 hb.2
 rw[lE,JU]
 omega
theorem Dn (l:List Hd) (h:ma l≤1000000):(pz l).length≤10+ma l:=by
 have hn:=ra l
 have h1:=jB (l.length:Int) (by omega) (by omega)
 have h2:=vj l h
 rw[pz,JU]
 omega
theorem oD (x:Rec) (ht:wI x.JA) (ho:wI x.Jq) (hw:rwt x≤900000):(dq x).length≤51+rwt x:=by
 unfold rwt at hw ⊢
 have h1:=j9 _ (iy x.JA ht.1 ht.2)
 have h2:=j9 _ (iy x.Jq ho.1 ho.2)
 have h3:=oV x.Jr (by omega)
 have h4:=oV x.Jj (by omega)
 have h5:=Dn x.Jl (by omega)
 simp only[dq,JU,aF]
 omega
theorem Bf (x:Rec) (ht:wI x.JA) (ho:0≤x.Jq∧x.Jq≤2147483647) (hk:bi x.Jr=true) (hv:bi x.Jj=true) (hh: ∀ h,h∈x.Jl→bi h.Jj=true) (hw:rwt x≤900000):iC x=some (dq x,0):=by
 unfold rwt at hw
 have h1:=j9 _ (iy x.JA ht.1 ht.2)
 have h2:=j9 _ (iy x.Jq (by omega) (by omega))
 have h3:=oV x.Jr (by omega)
 have h4:=oV x.Jj (by omega)
 unfold lE at h3 h4
 unfold iC
 rw[ru _ _ (by simp),JR,show gQ ([],0) [UInt8.ofNat (0:Int).toNat]=(be 0 1,0) from by decide]
 have l1:(be 0 1).length=1:=aF 0 1
 generalize hb0:be 0 1=b0 at l1
 rw[yu _ _ ⟨ht,by simp only; omega⟩,JR,l8]
 have l2:(b0++cU (bu x.JA)).length≤11:=by rw[JU]; omega
 generalize hB1:b0++cU (bu x.JA)=B1 at l2
 rw[ug _ _ ⟨by omega,by simp only; omega⟩,JR]
 unfold ib
 rw[if_pos (by omega),l8]
 have l3:(B1++cU (bu x.Jq)).length≤21:=by rw[JU]; omega
 generalize hB2:B1++cU (bu x.Jq)=B2 at l3
 rw[kS hk (by omega) (by omega),JR]
 have l4:(B2++(cU (bu (eE x.Jr))++x.Jr.data)).length≤31+x.Jr.data.length:=by rw[JU]; omega
 generalize hB3:B2++(cU (bu (eE x.Jr))++x.Jr.data)=B3 at l4
 rw[kS hv (by omega) (by omega),JR]
 have l5:(B3++(cU (bu (eE x.Jj))++x.Jj.data)).length≤41+x.Jr.data.length+x.Jj.data.length:=by rw[JU]; omega
 generalize hB4:B3++(cU (bu (eE x.Jj))++x.Jj.data)=B4 at l5
 rw[ER _ _ hh (by omega),JR,jJ,JR,uN]
 rw[← hB4,← hB3,← hB2,← hB1,← hb0]
 simp only[dq,lE,pz,JY]
theorem vo {x:Rec} (h:fu x=0):(0≤x.Jq∧x.Jq≤2147483647)∧bi x.Jr=true∧bi x.Jj=true∧ ∀ h,h∈x.Jl→bi h.Jj=true:=by
 unfold fu at h
 split at h
 ·exact absurd h (by decide)
 ·rename_i h1
  split at h
  ·rename_i h2
   simp only[Bool.and_eq_true] at h2
   exact⟨by omega,h2.1.1,h2.1.2,fun y hy=>List.all_eq_true.1 h2.2 y hy⟩
  ·exact absurd h (by decide)
theorem Do (x:Rec) (t:List UInt8) (ht:wI x.JA) (ho:wI x.Jq) (hw:rwt x≤900000) (hl:t.length≤100000000):g9 (t,0) x=some (if fu x=0 then (t++dF x,0) else (t,fu x)):=by
 unfold g9
 rw[nh x ho,JR]
 by_cases hr:fu x=0
 ·obtain⟨h1,h2,h3,h4⟩:=vo hr
  have hb:=oD x ht ho hw
  rw[if_pos hr,if_pos hr,Bf x ht h1 h2 h3 h4 hw,JR]
  simp only[if_true]
  rw[vk (by omega) (by omega),JR]
  rfl
 ·rw[if_neg hr,if_neg hr,rr,JR,BP]
def ET (a b:Hd):Bool:=decide (a.Jr=b.Jr) && decide (a.Jj.null=b.Jj.null) && decide (a.Jj.data=b.Jj.data)
def kB:List Hd→List Hd→Bool
 | [],[]=>true
 | a::l,b::m=>ET a b && kB l m
 | _,_=>false
theorem tf: ∀ l:List Hd,kB l l=true
 | []=>rfl
 | a::l=>by rw[kB,tf l]; simp[ET]
theorem vp: ∀ (l m:List Hd),kB l m=true→l.length=m.length
 | [],[],h=>rfl
 | [],b::m,h=>nomatch h
 | a::l,[],h=>nomatch h
 | a::l,b::m,h=>by
  rw[kB,Bool.and_eq_true] at h
  rw[J0,J0,vp l m h.2]
theorem wW (a b:List Hd) (ha:a.length≤1000000) (y:Bool): ∀ (t u:List Hd) (k fuel:Nat),a.drop k=t→b.drop k=u→t.length=u.length→t.length<fuel→ ∃ z,eW a b fuel y k=some (if kB t u=true then .go (y,z) else .ret false)
 | [],[],k,fuel+1,ht,hu,hl,hf=>by
  have:=eb ht
  exact⟨k,by rw[eW,if_neg (by omega)]; rfl⟩
 | [],d::u,k,fuel,ht,hu,hl,hf=>by simp at hl
 | c::t,[],k,fuel,ht,hu,hl,hf=>by simp at hl
 | c::t,d::u,k,fuel+1,ht,hu,hl,hf=>by
  obtain⟨t1,t2,t3⟩:=cK ht
  obtain⟨u1,u2,u3⟩:=cK hu
  simp only[J0] at hl hf
  obtain⟨z,hz⟩:=wW a b ha y t u (k+1) fuel t2 u2 (by omega) (by omega)
  rw[eW,if_pos (by omega),t1,JR,u1,JR,kB,ET]
  by_cases h1:c.Jr=d.Jr
  ·rw[if_pos h1,JS h1]
   by_cases h2:c.Jj.null=d.Jj.null
   ·rw[if_pos h2,JS h2]
    by_cases h3:c.Jj.data=d.Jj.data
    ·rw[if_pos h3,JS h3,if_pos (by omega)]
     exact⟨z,hz⟩
    ·rw[if_neg h3,JT h3]
     exact⟨0,rfl⟩
   ·rw[if_neg h2,JT h2]
    exact⟨0,rfl⟩
  ·rw[if_neg h1,JT h1]
   exact⟨0,rfl⟩
theorem EU (a b:List Hd) (ha:a.length≤1000000):li a b=some (kB a b):=by
 unfold li
 by_cases hl:(a.length:Int)=(b.length:Int)
 ·obtain⟨z,hz⟩:=wW a b ha false a b 0 (((a.length:Int)).toNat+1) rfl rfl (by omega) (by omega)
  rw[if_pos hl,hz]
  cases kB a b <;> rfl
 ·rw[if_neg hl]
  have:kB a b=false:=by
   cases h:kB a b with
   | false=>rfl
   | true=>exact absurd (congrArg Int.ofNat (vp a b h)) hl
  rw[this]
def wX (a b:Rec):Bool:=decide (a.JA=b.JA) && decide (a.Jq=b.Jq) && decide (a.Jr.null=b.Jr.null) && decide (a.Jr.data=b.Jr.data) && decide (a.Jj.null=b.Jj.null) && decide (a.Jj.data=b.Jj.data) && kB a.Jl b.Jl
theorem Bg (a:Rec):wX a a=true:=by simp[wX,tf]
theorem EV (a b:Rec) (ha:a.Jl.length≤1000000):lj a b=some (wX a b):=by
 unfold lj wX
 rw[EU _ _ ha]
 by_cases h1:a.JA=b.JA <;> by_cases h2:a.Jq=b.Jq <;> by_cases h3:a.Jr.null=b.Jr.null <;> by_cases h4:a.Jr.data=b.Jr.data <;> by_cases h5:a.Jj.null=b.Jj.null <;> by_cases h6:a.Jj.data=b.Jj.data <;> simp[h1,h2,h3,h4,h5,h6]
theorem EW {x:Rec} (ht:wI x.JA) (hr:fu x=0) (hw:rwt x≤900000):vn x∧bu ((dq x).length:Int)<2 ^ (32:Int).toNat:=by
 obtain⟨h1,h2,h3,h4⟩:=vo hr
 have hb:=oD x ht ⟨by omega,by omega⟩ hw
 unfold rwt at hw hb
 have hn:=ra x.Jl
 have bk:=lD x.Jr (by omega)
 have bv:=lD x.Jj (by omega)
 refine⟨⟨?_,⟨lC _ (by omega) h1.2,h1.1⟩,⟨lC _ bk.1 bk.2,h2⟩,⟨lC _ bv.1 bv.2,h3⟩,lC _ (by omega) (by omega),fun h hh=> ?_⟩,lC _ (by omega) (by omega)⟩
 ·rw[show 2 ^ (64:Int).toNat=18446744073709551616 by decide]
  exact iy _ ht.1 ht.2
 ·have hm:=zk _ _ hh
  unfold hwt at hm
  have b:=lD h.Jj (by omega)
  exact⟨lC _ (by omega) (by omega),lC _ b.1 b.2,h4 h hh⟩
theorem Bh (x:Rec) (ht:wI x.JA) (ho:wI x.Jq) (hw:rwt x≤900000):(dF x).length≤61+rwt x:=by
 have hb:=oD x ht ho hw
 have h6:=j9 _ (iy ((dq x).length:Int) (by omega) (by omega))
 rw[dF,JU]
 omega
theorem zn {x:Rec} (h:vn x):fu x=0∧wI x.JA∧wI x.Jq:=by
 obtain⟨h1,⟨h2,h3⟩,h4,h5,h6⟩:=h
 rw[show 2 ^ (64:Int).toNat=18446744073709551616 by decide] at h1
 rw[show 2 ^ (32:Int).toNat=4294967296 by decide] at h2
 have ho:x.Jq≤2147483647:=by unfold bu at h2; split at h2 <;> omega
 refine⟨?_,?_,⟨by omega,by omega⟩⟩
 ·unfold fu
  have hb:oA x.Jl=true:=List.all_eq_true.2 fun y hy=>(h6.2 y hy).2.2
  rw[if_neg (by omega),h4.2,h5.2,hb]
  rfl
 ·unfold bu at h1
  constructor <;> (split at h1 <;> omega)
def crcP:Nat:=2197175160
def sJ (x:Nat):Nat:=x / 2 ^^^ (if x % 2=1 then crcP else 0)
def oE:Nat→Nat→Nat
 | 0,x=>x
 | k+1,x=>oE k (sJ x)
theorem xW (x y:Nat):(x ^^^ y) % 2=(x % 2+y % 2) % 2:=by
 have h:=Nat.xor_mod_two_pow (a:=x) (b:=y) (n:=1)
 rw[Nat.pow_one] at h
 rw[h]
 rcases Nat.mod_two_eq_zero_or_one x with hx | hx <;> rcases Nat.mod_two_eq_zero_or_one y with hy | hy <;> rw[hx,hy] <;> rfl
theorem xX (x y:Nat):(x ^^^ y) / 2=(x / 2) ^^^ (y / 2):=Nat.xor_div_two
theorem EX (x y:Nat):sJ (x ^^^ y)=sJ x ^^^ sJ y:=by
 unfold sJ
 rw[xX,xW]
 rcases Nat.mod_two_eq_zero_or_one x with hx | hx <;> rcases Nat.mod_two_eq_zero_or_one y with hy | hy <;> simp[hx,hy]
 ·rw[Nat.xor_assoc]
 ·ac_rfl
 ·rw[show x / 2 ^^^ crcP ^^^ (y / 2 ^^^ crcP)=x / 2 ^^^ y / 2 ^^^ (crcP ^^^ crcP) by ac_rfl,Nat.xor_self,Nat.xor_zero]
theorem zo: ∀ (k x y:Nat),oE k (x ^^^ y)=oE k x ^^^ oE k y
 | 0,_,_=>rfl
 | k+1,x,y=>by show oE k _= _; rw[EX,zo k]; rfl
theorem Dp (x:Nat):sJ (2*x)=x:=by
 unfold sJ; rw[if_neg (by omega),Nat.xor_zero]; omega
theorem vq: ∀ (k x:Nat),oE k (2 ^ k*x)=x
 | 0,x=>by rw[Nat.pow_zero,Nat.one_mul]; rfl
 | k+1,x=>by
  show oE k (sJ _)=x
  rw[show 2 ^ (k+1)*x=2*(2 ^ k*x) by rw[Nat.pow_succ,Nat.mul_comm (2 ^ k) 2,Nat.mul_assoc],Dp]
  exact vq k x
theorem Cd {x:Nat} (h:x<2 ^ 32):sJ x<2 ^ 32:=by
 unfold sJ
 exact Nat.xor_lt_two_pow (by omega) (by split <;> decide)
theorem tU: ∀ (k:Nat) {x:Nat},x<2 ^ 32→oE k x<2 ^ 32
 | 0,_,h=>h
 | k+1,_,h=>tU k (Cd h)
theorem Dq (x b:Nat) (hb:b<256):oE 8 (x ^^^ b)=oE 8 ((x % 256) ^^^ b) ^^^ (x / 256):=by
 have h:x=(x % 256) ^^^ (2 ^ 8*(x / 256)):=by
  apply Nat.eq_of_testBit_eq
  intro i
  rw[Nat.testBit_xor,show (256:Nat)=2 ^ 8 from rfl,Nat.testBit_mod_two_pow,Nat.testBit_two_pow_mul,Nat.testBit_div_two_pow]
  by_cases hi:i<8
  ·simp[hi,show ¬ 8≤i by omega]
  ·simp[hi,show 8≤i by omega]
 conv=>lhs; rw[h]
 rw[show x % 256 ^^^ 2 ^ 8*(x / 256) ^^^ b=(x % 256 ^^^ b) ^^^ (2 ^ 8*(x / 256)) by ac_rfl,zo,vq]
def Bi:Nat→List UInt8→Nat
 | x,[]=>x
 | x,c::l=>Bi (oE 8 (x ^^^ c.toNat)) l
theorem tg: ∀ (l m:List UInt8) (x:Nat),Bi x (l++m)=Bi (Bi x l) m
 | [],_,_=>rfl
 | c::l,m,x=>tg l m _
theorem xY: ∀ (l:List UInt8) {x:Nat},x<2 ^ 32→Bi x l<2 ^ 32
 | [],_,h=>h
 | c::l,_,h=>xY l (tU 8 (Nat.xor_lt_two_pow h (Nat.lt_trans c.toNat_lt (by decide))))
theorem oW (a:Nat) (h:a<4294967296):(BitVec.ofInt IntKind.u32.bits (a:Int)).toNat=a:=by
 show (BitVec.ofInt 32 (a:Int)).toNat=a
 rw[BitVec.ofInt_natCast,BitVec.toNat_ofNat,Nat.mod_eq_of_lt (by omega)]
theorem zp (a:Nat) (h:a<256):(BitVec.ofInt IntKind.u8.bits (a:Int)).toNat=a:=by
 show (BitVec.ofInt 8 (a:Int)).toNat=a
 rw[BitVec.ofInt_natCast,BitVec.toNat_ofNat,Nat.mod_eq_of_lt (by omega)]
theorem wrap_u32 (a:Nat):IntKind.u32.wrap (a:Int)=((a % 4294967296:Nat):Int):=by
 rw[IntKind.wrap_u32]; omega
theorem wrap_u8 (a:Nat):IntKind.u8.wrap (a:Int)=((a % 256:Nat):Int):=by
 rw[IntKind.wrap_u8]; omega
theorem tV (a b:Nat) (ha:a<4294967296) (hb:b<4294967296):Go.bits .xor .u32 (a:Int) (b:Int)=((a ^^^ b:Nat):Int):=by
 show IntKind.u32.wrap (((BitVec.ofInt IntKind.u32.bits (a:Int)) ^^^ (BitVec.ofInt IntKind.u32.bits (b:Int))).toNat:Int)= _
 rw[BitVec.toNat_xor,oW a ha,oW b hb,wrap_u32,Nat.mod_eq_of_lt (Nat.xor_lt_two_pow (n:=32) ha hb)]
theorem xor_u8 (a b:Nat) (ha:a<256) (hb:b<256):Go.bits .xor .u8 (a:Int) (b:Int)=((a ^^^ b:Nat):Int):=by
 show IntKind.u8.wrap (((BitVec.ofInt IntKind.u8.bits (a:Int)) ^^^ (BitVec.ofInt IntKind.u8.bits (b:Int))).toNat:Int)= _
 rw[BitVec.toNat_xor,zp a ha,zp b hb,wrap_u8,Nat.mod_eq_of_lt (Nat.xor_lt_two_pow (n:=8) ha hb)]
theorem EY (a:Nat) (ha:a<4294967296):Go.bits .and .u32 (a:Int) 1=((a % 2:Nat):Int):=by
 show IntKind.u32.wrap (((BitVec.ofInt IntKind.u32.bits (a:Int)) &&& (BitVec.ofInt IntKind.u32.bits ((1:Nat):Int))).toNat:Int)= _
 rw[BitVec.toNat_and,oW a ha,oW 1 (by decide),wrap_u32,Nat.and_one_is_mod,Nat.mod_eq_of_lt (by omega)]
theorem EZ (a:Nat):vU .u32 (a:Int) 1=((a / 2:Nat):Int):=by
 show Int.fdiv (a:Int) 2= _
 rw[Int.fdiv_eq_ediv_of_nonneg _ (by decide)]
 omega
theorem E0 (a:Nat):vU .u32 (a:Int) 8=((a / 256:Nat):Int):=by
 show Int.fdiv (a:Int) 256= _
 rw[Int.fdiv_eq_ediv_of_nonneg _ (by decide)]
 omega
theorem E9 (y:Nat) (hy:y<4294967296):(if Go.bits .and .u32 (y:Int) 1=1 then some (Go.bits .xor .u32 (vU .u32 (y:Int) 1) 2197175160) else some (vU .u32 (y:Int) 1))=some ((sJ y:Nat):Int):=by
 rw[EY y hy,EZ,show (2197175160:Int)=((2197175160:Nat):Int) from rfl,tV _ _ (by omega) (by decide)]
 unfold sJ
 by_cases h:y % 2=1
 ·rw[if_pos (by omega),if_pos h]; rfl
 ·rw[if_neg (by omega),if_neg h,Nat.xor_zero]
theorem Fa: ∀ (m y k:Nat),y<4294967296→k≤8→8 - k<m→fG m (y:Int) k=some (((oE (8 - k) y:Nat):Int),8)
 | 0,_,_,_,_,h=>by omega
 | m+1,y,k,hy,hk,hm=>by
  rw[fG]
  by_cases h:k<8
  ·rw[if_pos (by omega),E9 y hy,JR,if_pos (by omega),Fa m (sJ y) (k+1) (Cd hy) (by omega) (by omega),show 8 - k=(8 - (k+1))+1 by omega]
   rfl
  ·rw[if_neg (by omega),show 8 - k=0 by omega,show k=8 by omega]
   rfl
def jZ:List Int:=(List.range 256).map (fun j=>((oE 8 j:Nat):Int))
theorem vr (j:Nat) (hj:j<256):jZ[j]? = some ((oE 8 j:Nat):Int):=by
 unfold jZ
 rw[List.getElem?_map,List.getElem?_range hj]
 rfl
theorem Fb: ∀ (m k:Nat) (l:List Int),l.length=256→k≤256→256 - k<m→(∀ j,j<k→l[j]? = some ((oE 8 j:Nat):Int))→gm m k l=some (256,jZ)
 | 0,_,_,_,_,h,_=>by omega
 | m+1,k,l,hl,hk,hm,hj=>by
  rw[gm]
  by_cases h:k<256
  ·have e1:IntKind.u32.wrap (k:Int)=((k:Nat):Int):=by rw[wrap_u32,Nat.mod_eq_of_lt (by omega)]
   have e2:fG ((8:Int).toNat+1) (IntKind.u32.wrap (k:Int)) 0=some (((oE 8 k:Nat):Int),8):=by
    rw[e1]
    exact Fa 9 k 0 (by omega) (by omega) (by omega)
   have e3:l[k]? = some (l[k]'(by omega)):=List.getElem?_eq_getElem (by omega)
   rw[if_pos (by omega),e2,JR]
   dsimp only
   rw[e3,JR,JR,if_pos (by omega)]
   refine Fb m (k+1) _ (by rw[List.length_set]; exact hl) (by omega) (by omega) (fun j hjk=> ?_)
   rw[List.getElem?_set]
   by_cases e:k=j
   ·rw[if_pos e,if_pos (by omega),e]
   ·rw[if_neg e]
    exact hj j (by omega)
  ·rw[if_neg (by omega),show k=256 by omega]
   congr 2
   apply List.ext_getElem?
   intro j
   by_cases hj2:j<256
   ·rw[vr j hj2]
    exact hj j (by omega)
   ·rw[List.getElem?_eq_none (by omega),List.getElem?_eq_none (by unfold jZ; simp; omega)]
theorem Ce:kX=some jZ:=by
 unfold kX
 rw[show (256:Int).toNat+1=257 from rfl,Fb 257 0 _ (List.length_replicate ..) (by omega) (by omega) (fun j hj=>absurd hj (by omega)),JR]
theorem Cf (s:List UInt8) (hs:s.length≤9223372036854775806): ∀ (m y k:Nat),y<4294967296→k≤s.length→s.length - k<m→dO s m (y:Int) k jZ=some (((Bi y (s.drop k):Nat):Int),s.length,jZ)
 | 0,_,_,_,_,h=>by omega
 | m+1,y,k,hy,hk,hm=>by
  rw[dO]
  by_cases h:k<s.length
  ·have e1:s[k]? = some s[k]:=List.getElem?_eq_getElem h
   have hc:=s[k].toNat_lt
   have hx:y % 256 ^^^ s[k].toNat<256:=Nat.xor_lt_two_pow (n:=8) (by omega) hc
   have e2:Go.bits .xor .u8 (IntKind.u8.wrap (y:Int)) (s[k].toNat:Int)=((y % 256 ^^^ s[k].toNat:Nat):Int):=by
    rw[wrap_u8,xor_u8 _ _ (by omega) (by omega)]
   have e3:oE 8 (y % 256 ^^^ s[k].toNat)<2 ^ 32:=tU 8 (by omega)
   rw[if_pos (by omega),e1,JR,e2,if_pos (by omega),K5,vr _ hx,JR,if_pos (by omega),E0,tV _ _ (by omega) (by omega),← Dq y _ (by omega),
    Cf s hs m _ (k+1) (tU 8 (Nat.xor_lt_two_pow (n:=32) hy (by omega))) (by omega) (by omega)]
   rw[bz e1]
   rfl
  ·rw[if_neg (by omega),show k=s.length by omega,List.drop_length]
   rfl
def pj (x:Nat) (s:List UInt8):Nat:=4294967295 ^^^ Bi (4294967295 ^^^ x) s
theorem xZ {x:Nat} (hx:x<4294967296) (s:List UInt8):pj x s<4294967296:=Nat.xor_lt_two_pow (n:=32) (by decide) (xY s (Nat.xor_lt_two_pow (n:=32) (by decide) hx))
theorem ones2 (x:Nat):4294967295 ^^^ (4294967295 ^^^ x)=x:=by rw[← Nat.xor_assoc,Nat.xor_self,Nat.zero_xor]
theorem zq (x:Nat) (s t:List UInt8):pj x (s++t)=pj (pj x s) t:=by
 unfold pj
 rw[tg,ones2]
theorem Fc (x:Nat):pj x []=x:=ones2 x
theorem Fd (x:Nat) (hx:x<4294967296) (s:List UInt8) (hs:s.length≤9223372036854775806):gw jZ (x:Int) s=some (((pj x s:Nat):Int),jZ):=by
 unfold gw
 have h1:(4294967295 ^^^ x:Nat)<4294967296:=Nat.xor_lt_two_pow (n:=32) (by decide) hx
 rw[show (4294967295:Int)=((4294967295:Nat):Int) from rfl,tV _ _ (by decide) hx,K5,Cf s hs _ _ 0 h1 (by omega) (by omega),JR,List.drop_zero]
 dsimp only
 rw[tV _ _ (by decide) (xY s h1)]
 rfl
theorem Fe: ∀ (l:List (List UInt8)) (x:Nat),x<4294967296→(∀ s,s∈l→s.length≤9223372036854775806)→dk l (x:Int) jZ=some (((pj x l.flatten:Nat):Int),jZ)
 | [],x,_,_=>by rw[dk,List.flatten_nil,Fc]
 | s::l,x,hx,hs=>by
  rw[dk,Fd x hx s (hs s (List.mem_cons_self ..)),JR]
  dsimp only
  rw[Fe l _ (xZ hx s) (fun t ht=>hs t (List.mem_cons_of_mem _ ht)),List.flatten_cons,zq]
theorem Cg (l:List (List UInt8)) (hs: ∀ s,s∈l→s.length≤9223372036854775806):f6 jZ l=some (((pj 0 l.flatten:Nat):Int),jZ):=by
 unfold f6
 have h:=Fe l 0 (by decide) hs
 rw[show ((0:Nat):Int)=0 from rfl] at h
 rw[h,JR]
def Ch (p:Pfx):List UInt8:=be p.Jz 8++(be p.JD 4++(be p.Jv 4++(be 2 1++be (s32 p.JH) 4)))
def gM (p:Pfx):List UInt8:=be p.JJ 2++pW [4,8,8,8,2,4,4] [p.Jx,p.Jm,p.JF,p.I6,p.I8,p.Jn,p.JI]
theorem Gl (p:Pfx):oC p=Ch p++gM p:=by
 unfold oC KS toL Ch gM
 simp only[pW,JY]
theorem Dr (p:Pfx):(Ch p).length=21:=by
 unfold Ch
 simp only[JU,aF]
theorem oX (p:Pfx):(oC p).drop 21=gM p:=by
 rw[Gl,← Dr p,List.drop_left]
def okRc (x:Rec):Prop:=vn x∧bu ((dq x).length:Int)<2 ^ (32:Int).toNat
def Ci:Pr Unit:=fun s q=>if q=s.length then .error 10 else .ok ((),q)
def rc:Nat→Pr (List Rec)
 | 0=> .ret []
 | n+1=>Ci.bind fun _=>Dl.bind fun x=>(rc n).bind fun l=> .ret (x::l)
theorem pX (x:Rec):0<(dF x).length:=by
 unfold dF
 rw[JU]
 have:=nL (bu ((dq x).length:Int))
 omega
theorem pY: ∀ (n:Nat) (s:List UInt8) (q:Nat) (l:List Rec) (r:Nat),q≤s.length→rc n s q= .ok (l,r)→q≤r∧r≤s.length∧s.take r=s.take q++bl dF l∧l.length=n∧ ∀ x,x∈l→okRc x
 | 0,s,q,l,r,hq,h=>by
  injection h with h
  obtain⟨rfl,rfl⟩:=Kj h
  exact⟨Kn _,hq,by simp[bl],rfl,fun x h=>nomatch h⟩
 | n+1,s,q,l,r,hq,h=>by
  obtain⟨u,m,h1,h2⟩:=Pr.bind_ok h
  unfold Ci at h1
  split at h1
  ·exact nomatch h1
  injection h1 with h1
  obtain⟨_,rfl⟩:=Kj h1
  obtain⟨x,m2,h3,h4⟩:=Pr.bind_ok h2
  obtain⟨xs,m3,h5,h6⟩:=Pr.bind_ok h4
  injection h6 with h6
  obtain⟨rfl,rfl⟩:=Kj h6
  obtain⟨a1,a2,a3,a4,a5⟩:=Be.spell s q x m2 hq h3
  obtain⟨b1,b2,b3,b4,b5⟩:=pY n s m2 xs m3 a2 h5
  refine⟨by omega,b2,by rw[b3,a4,bl,JY],by rw[J0,b4],fun y hy=> ?_⟩
  rcases List.mem_cons.1 hy with rfl | hy
  ·exact a5
  ·exact b5 y hy
theorem wY: ∀ (l:List Rec) (s t:List UInt8) (q:Nat),q≤s.length→(∀ x,x∈l→okRc x)→s.drop q=bl dF l++t→rc l.length s q= .ok (l,q+(bl dF l).length)
 | [],s,t,q,hq,_,_=>rfl
 | x::l,s,t,q,hq,ho,hd=>by
  rw[bl,JY] at hd
  have hl:=congrArg List.length hd
  rw[J7,JU] at hl
  have hp:=pX x
  have h0:Ci s q= .ok ((),q):=if_neg (by omega)
  have h1:=Be.back s _ q x hq (ho x (.head _)) hd
  have h2:=wY l s t _ (by omega) (fun y hy=>ho y (.tail _ hy)) (bX hd)
  rw[J0,rc,Pr.bind_of h0,Pr.bind_of h1,Pr.bind_of h2,bl,JU,← Nat.add_assoc]
  rfl
def chk (a:Bat):Int:=(dC a).getD 0
def body (a:Bat):List UInt8:=bl dF a.Ja
def mkB (p:Pfx) (l:List Rec):Bat:=⟨p.Jz,p.Jv,eL p.JJ 3,eL p.JJ 4,eL p.JJ 5,p.Jx,p.Jm,p.JF,p.I6,p.I8,p.Jn,l⟩
def pB (a:Bat) (s:Int):Pfx:=⟨a.Jz,49+((body a).length:Int),a.Jv,s,iq a.JG a.JE a.JB,a.Jx,a.Jm,a.JF,a.I6,a.I8,a.Jn,(a.Ja.length:Int)⟩
def sumP (p:Pfx) (s:List UInt8):Nat:=pj 0 (gM p++s)
def mE (a:Bat):Nat:=sumP (pB a 0) (body a)
def fq (a:Bat):List UInt8:=oC (pB a (mE a))++body a
def okB (a:Bat):Prop:=okP (pB a (mE a))∧eO (iq a.JG a.JE a.JB)=0∧(∀ x,x∈a.Ja→okRc x)∧chk a=0
def rd (p:Pfx) (s:List UInt8):Except Int Bat :=
 if eO p.JJ=0 then
  match rc p.JI.toNat s 0 with
  | .error e=> .error e
  | .ok (l,r)=>if r<s.length then .error 10 else if chk (mkB p l)=0 then .ok (mkB p l) else .error (chk (mkB p l))
 else .error (eO p.JJ)
def Ds:Pr Bat:=fun s q =>
 match Dj s q with
 | .error e=> .error e
 | .ok (p,r)=>if s.length<r+(p.JD - 49).toNat then .error 1 else
  if ((sumP p ((s.drop r).take (p.JD - 49).toNat):Nat):Int)=p.JH then
   match rd p ((s.drop r).take (p.JD - 49).toNat) with
   | .error e=> .error e
   | .ok b=> .ok (b,r+(p.JD - 49).toNat)
  else .error 5
theorem wZ {n:Int} (h:eO n=0):iq (eL n 3) (eL n 4) (eL n 5)=n:=by
 have h1:n % 8=0∧0≤n∧n≤63:=by
  unfold eO at h
  split at h
  ·cases h
  ·split at h
   ·cases h
   ·omega
 have h2:n=0∨n=8∨n=16∨n=24∨n=32∨n=40∨n=48∨n=56:=by omega
 rcases h2 with rfl | rfl | rfl | rfl | rfl | rfl | rfl | rfl <;> decide
theorem Cj: ∀ a b c:Bool,eL (iq a b c) 3=a∧eL (iq a b c) 4=b∧eL (iq a b c) 5=c:=by decide
theorem Ff {p:Pfx} {s:List UInt8} {b:Bat} (h:rd p s= .ok b) (h0:0≤p.JI):eO p.JJ=0∧ ∃ l,b=mkB p l∧s=bl dF l∧(l.length:Int)=p.JI∧(∀ x,x∈l→okRc x)∧chk b=0:=by
 unfold rd at h
 by_cases ha:eO p.JJ=0
 ·rw[if_pos ha] at h
  refine⟨ha,?_⟩
  cases hr:rc p.JI.toNat s 0 with
  | error e=>rw[hr] at h; exact nomatch h
  | ok x =>
   obtain⟨l,r⟩:=x
   rw[hr] at h
   dsimp only at h
   by_cases hl:r<s.length
   ·rw[if_pos hl] at h; exact nomatch h
   rw[if_neg hl] at h
   by_cases hc:chk (mkB p l)=0
   ·rw[if_pos hc] at h
    injection h with h
    subst h
    obtain⟨b1,b2,b3,b4,b5⟩:=pY _ s 0 l r (Ko _) hr
    rw[List.take_of_length_le (by omega),List.take_zero,Kc] at b3
    exact⟨l,rfl,b3,by omega,b5,hc⟩
   ·rw[if_neg hc] at h; exact nomatch h
 ·rw[if_neg ha] at h; exact nomatch h
theorem pB_mk {p:Pfx} {l:List Rec} (h1:(49:Int)+((bl dF l).length:Int)=p.JD) (h2:eO p.JJ=0) (h3:(l.length:Int)=p.JI) (s:Int):pB (mkB p l) s=⟨p.Jz,p.JD,p.Jv,s,p.JJ,p.Jx,p.Jm,p.JF,p.I6,p.I8,p.Jn,p.JI⟩:=by
 unfold pB mkB body
 dsimp only
 rw[h1,h3,wZ h2]
theorem Bj:Sp Ds fq okB:=by
 refine⟨fun s q b r hq h=> ?_,fun s t q a hq ha hd=> ?_⟩
 ·unfold Ds at h
  cases hp:Dj s q with
  | error e=>rw[hp] at h; exact nomatch h
  | ok x =>
   obtain⟨p,m⟩:=x
   rw[hp] at h
   dsimp only at h
   obtain⟨a1,a2,a3,a4,a5,a6,a7,a8⟩:=AZ.spell s q p m hq hp
   by_cases hl:s.length<m+(p.JD - 49).toNat
   ·rw[if_pos hl] at h; exact nomatch h
   rw[if_neg hl] at h
   by_cases hs:((sumP p ((s.drop m).take (p.JD - 49).toNat):Nat):Int)=p.JH
   ·rw[if_pos hs] at h
    cases ho:rd p ((s.drop m).take (p.JD - 49).toNat) with
    | error e=>rw[ho] at h; exact nomatch h
    | ok b' =>
     rw[ho] at h
     injection h with h
     obtain⟨rfl,rfl⟩:=Kj h
     obtain⟨k1,l,rfl,k3,k4,k5,k6⟩:=Ff ho a8
     have hn:((s.drop m).take (p.JD - 49).toNat).length=(p.JD - 49).toNat:=by rw[Ll,J7]; omega
     have e1:(49:Int)+((bl dF l).length:Int)=p.JD:=by rw[← k3,hn]; omega
     have e2:((mE (mkB p l):Nat):Int)=p.JH:=by
      rw[← hs,k3]
      unfold mE
      rw[pB_mk e1 k1 k4]
      rfl
     have e3:pB (mkB p l) (mE (mkB p l))=p:=by rw[pB_mk e1 k1 k4,e2]
     have e4:fq (mkB p l)=oC p++(s.drop m).take (p.JD - 49).toNat:=by
      unfold fq
      rw[e3,k3]
      rfl
     have a9:=congrArg List.length a4
     refine⟨by omega,by omega,?_,?_,?_⟩
     ·rw[e4,JU,hn]; omega
     ·rw[e4,oR,a4,JY]
     ·refine⟨by rw[e3]; exact⟨a5,a6,a7,a8⟩,?_,k5,k6⟩
      show eO (iq (eL p.JJ 3) (eL p.JJ 4) (eL p.JJ 5))=0
      rw[wZ k1]
      exact k1
   ·rw[if_neg hs] at h; exact nomatch h
 ·obtain⟨h1,h2,h3,h4⟩:=ha
  unfold fq at hd
  rw[JY] at hd
  have hp:=AZ.back s _ q _ hq h1 hd
  have hd2:=bX hd
  have hl:=congrArg List.length hd
  rw[J7,JU,JU] at hl
  have hn:((pB a (mE a)).JD - 49).toNat=(body a).length:=by
   show ((49:Int)+((body a).length:Int) - 49).toNat= _
   omega
  have ht:(s.drop (q+(oC (pB a (mE a))).length)).take (body a).length=body a:=by rw[hd2,List.take_left]
  unfold Ds
  rw[hp]
  dsimp only
  rw[hn,ht,if_neg (by omega),if_pos (show ((sumP (pB a (mE a)) (body a):Nat):Int)=(pB a (mE a)).JH from rfl)]
  have hr:=wY a.Ja (body a) [] 0 (Ko _) h3 (by rw[List.drop_zero,Kg]; rfl)
  have ho:rd (pB a (mE a)) (body a)= .ok a:=by
   unfold rd
   rw[if_pos (show eO (pB a (mE a)).JJ=0 from h2),show (pB a (mE a)).JI.toNat=a.Ja.length from rfl,hr]
   dsimp only
   obtain⟨b1,b2,b3⟩:=Cj a.JG a.JE a.JB
   have e:mkB (pB a (mE a)) a.Ja=a:=by
    unfold mkB pB
    dsimp only
    rw[b1,b2,b3]
   rw[e,if_neg (by show ¬ 0+(body a).length < _; omega),if_pos h4]
  rw[ho]
  dsimp only
  unfold fq
  rw[JU,Nat.add_assoc]
def zBat:Bat:=⟨0,0,false,false,false,0,0,0,0,0,0,[]⟩
def bnR (r:Rec):Prop:=r.Jl.length≤1000000∧r.Jr.data.length≤1000000∧r.Jj.data.length≤1000000
def bnB (a:Bat):Prop:=l9 a∧a.Ja.length≤1000000∧ ∀ r,r∈a.Ja→bnR r
theorem vt {α:Type} (enc:α→List UInt8): ∀ (l:List α) (x:α),x∈l→(enc x).length≤(bl enc l).length
 | y::l,x,h=>by
  rw[bl,JU]
  rcases List.mem_cons.1 h with rfl | h
  ·omega
  ·have:=vt enc l x h
   omega
theorem vu {α:Type} (enc:α→List UInt8): ∀ (l:List α),(∀ x,x∈l→0<(enc x).length)→l.length≤(bl enc l).length
 | [],_=>Ko _
 | y::l,h=>by
  rw[bl,JU,J0]
  have h1:=h y (.head _)
  have:=vu enc l (fun x hx=>h x (.tail _ hx))
  omega
theorem Dt (h:Hd):0<(gF h).length:=by
 unfold gF
 simp only[JU]
 have:=nL (bu (h.Jr.length:Int))
 omega
theorem Bk {x:Rec} (h:vn x) (hl:(dF x).length≤1000000):uP x∧bnR x:=by
 obtain⟨_,h2,h3⟩:=zn h
 have e:(dF x).length=(cU (bu ((dq x).length:Int))).length+(dq x).length:=by unfold dF; rw[JU]
 have e2:(dq x).length≤1000000:=by omega
 simp only[dq,lE,pz,JU,aF] at e2
 have h4:=vu gF x.Jl (fun y _=>Dt y)
 have hS: ∀ d:List UInt8,d.length≤1000000→wS d:=fun d hd=>by unfold wS; omega
 refine⟨⟨h2,h3,⟨trivial,hS _ (by omega)⟩,⟨trivial,hS _ (by omega)⟩,by omega,fun y hy=> ?_⟩,by omega,by omega,by omega⟩
 have h5:=vt gF x.Jl y hy
 have h6:(gF y).length≤1000000:=by omega
 simp only[gF,JU] at h6
 exact⟨hS _ (by omega),trivial,hS _ (by omega)⟩
theorem ya {a:Bat} (h:bnB a):dC a=some (chk a)∧gV a=some (chk a):=by
 obtain⟨cr,e0,h1,h2,_⟩:=vh a h.1 h.2.1 h.2.2
 have e:chk a=xU a cr e0:=by unfold chk; rw[h1]; rfl
 rw[e]
 exact⟨h1,h2⟩
theorem zr (n:Int):bh n 8=decide (-9223372036854775808≤n∧n≤9223372036854775807):=by
 rw[Bool.eq_iff_iff]
 unfold bh
 simp only[Bool.and_eq_true,decide_eq_true_eq]
 have:(2:Int) ^ (8*(8:Int).toNat - 1)=9223372036854775808:=by decide
 omega
theorem wI8 {n:Int} (h:bh n (8:Nat)=true):wI n:=by
 have h':bh n 8=true:=h
 rw[zr] at h'
 have h2:=of_decide_eq_true h'
 exact h2
theorem wI4 {n:Int} (h:bh n (4:Nat)=true): -2147483648≤n∧n≤2147483647:=by
 have h':bh n 4=true:=h
 rw[eo] at h'
 exact of_decide_eq_true h'
theorem wI2 {n:Int} (h:bh n (2:Nat)=true): -32768≤n∧n≤32767:=by
 have h':bh n 2=true:=h
 rw[vg] at h'
 exact of_decide_eq_true h'
theorem vv {p:Pfx} (hp:okP p) {l:List Rec} (hl: ∀ x,x∈l→okRc x) (hb:(bl dF l).length≤1000000):bnB (mkB p l):=by
 obtain⟨⟨k1,k2,k3,_,k5,k6,k7,k8,k9,k10,k11,k12,k13,_⟩,_,_,_⟩:=hp
 have w4: ∀ {n:Int},bh n (4:Nat)=true→wI n:=fun h=>by have:=wI4 h; unfold wI; omega
 have w2: ∀ {n:Int},bh n (2:Nat)=true→wI n:=fun h=>by have:=wI2 h; unfold wI; omega
 have hr: ∀ x,x∈l→uP x∧bnR x:=fun x hx=>Bk (hl x hx).1 (by have:=vt dF l x hx; omega)
 have h4:=vu dF l (fun y _=>pX y)
 exact⟨⟨wI8 k1,w4 k3,trivial,trivial,trivial,w4 k7,wI8 k8,wI8 k9,wI8 k10,w2 k11,w4 k12,by show l.length≤ _; omega,fun x hx=>(hr x hx).1⟩,by show l.length≤ _; omega,fun x hx=>(hr x hx).2⟩
theorem zt (p:Pfx) (hc:p.JI≤2147483647) (s:List UInt8) (hs:s.length≤1000000) (y:Int): ∀ (n k fuel:Nat) (acc:List Rec) (q:Nat),((k+n:Nat):Int)=p.JI→n<fuel→q≤s.length→acc.length≤q →
 (∃ e,rc n s q= .error e∧e≠0∧dI p fuel y k acc ⟨s.drop q,q,0⟩=some (.ret (zBat,e)))∨(∃ l r,rc n s q= .ok (l,r)∧q≤r∧r≤s.length∧dI p fuel y k acc ⟨s.drop q,q,0⟩=some (.go (y,k+n,acc++l,⟨s.drop r,r,0⟩)))
 | 0,k,fuel+1,acc,q,hk,hf,hq,ha=> .inr ⟨[],q,rfl,Kn _,hq,by rw[dI,if_neg (by omega),Kg,Nat.add_zero]⟩
 | n+1,k,fuel+1,acc,q,hk,hf,hq,ha=>by
  rw[dI,if_pos (by omega),ql,JR]
  dsimp only
  rw[J7,rc]
  by_cases hz:q=s.length
  ·rw[if_pos (by omega)]
   exact .inl ⟨10,Pr.bind_err (if_pos hz),by decide,rfl⟩
  rw[if_neg (by omega),Pr.bind_of (show Ci s q= .ok ((),q) from if_neg hz)]
  rcases B_rec.run s q hs hq with⟨e,st,p1,g1,x1,y1⟩ | ⟨b,r,p1,g1,n1,l1⟩
  ·rw[g1,JR]
   dsimp only
   rw[bt,JR]
   dsimp only
   rw[if_neg y1]
   exact .inl ⟨e,Pr.bind_err p1,by rw[← x1]; exact y1,by rw[x1]; rfl⟩
  ·have h3:=(Be.spell s q b r hq p1).2.2.1
   have h4:=pX b
   rw[g1,JR]
   dsimp only
   rw[bt,JR]
   dsimp only
   rw[if_pos rfl,if_pos (by omega),if_pos (by omega),Pr.bind_of p1]
   rcases zt p hc s hs y n (k+1) fuel (acc ++ [b]) r (by omega) (by omega) l1 (by rw[JU,KY]; omega) with⟨e,q1,q2,q3⟩ | ⟨l,m,q1,q2,q3,q4⟩
   ·exact .inl ⟨e,Pr.bind_err q1,q2,q3⟩
   ·exact .inr ⟨b::l,m,by rw[Pr.bind_of q1]; rfl,by omega,q3,by rw[q4,JY,show k+1+n=k+(n+1) by omega]; rfl⟩
theorem bopen {p:Pfx} (hp:okP p) (s:List UInt8) (hs:s.length≤1000000):(∃ e x,rd p s= .error e∧e≠0∧ig p s=some (x,e))∨(∃ b,rd p s= .ok b∧ig p s=some (b,0)):=by
 obtain⟨k1,k2,k3,k4⟩:=id hp
 have ha:=wI2 k1.2.2.2.2.2.1
 have hc:=wI4 k1.2.2.2.2.2.2.2.2.2.2.2.2.1
 try dsimp only at ha
 unfold ig rd
 rw[AA _ (by omega),JR]
 by_cases h0:eO p.JJ=0
 rotate_left
 ·rw[if_neg h0,if_neg h0]
  exact .inl ⟨_,_,rfl,h0,rfl⟩
 rw[if_pos h0,if_pos h0,CZ,JR]
 dsimp only
 rw[j1 _ (by omega),JR]
 rcases zt p hc.2 s hs 0 p.JI.toNat 0 (p.JI.toNat+1) [] 0 (by omega) (by omega) (Ko _) (Ko _) with⟨e,q1,q2,q3⟩ | ⟨l,m,q1,q2,q3,q4⟩
 ·rw[List.drop_zero] at q3
  rw[q3,q1]
  exact .inl ⟨e,_,rfl,q2,rfl⟩
 ·rw[List.drop_zero] at q4
  obtain⟨b1,b2,b3,b4,b5⟩:=pY _ s 0 l m (Ko _) q1
  rw[q4,q1,JR]
  dsimp only
  rw[ql,JR]
  dsimp only
  rw[J7]
  by_cases hl:m<s.length
  ·rw[if_pos hl,if_pos (show ((s.length - m:Nat):Int)>0 by omega)]
   exact .inl ⟨_,_,rfl,by decide,rfl⟩
  ·rw[if_neg hl,if_neg (show ¬ ((s.length - m:Nat):Int)>0 by omega)]
   rw[List.take_of_length_le (by omega),List.take_zero,Kc] at b3
   have hB:=vv hp b5 (by rw[← b3]; exact hs)
   have e:dC (⟨p.Jz,p.Jv,eL p.JJ 3,eL p.JJ 4,eL p.JJ 5,p.Jx,p.Jm,p.JF,p.I6,p.I8,p.Jn,[]++l⟩:Bat)=some (chk (mkB p l)):=(ya hB).1
   rw[e,JR]
   by_cases hk:chk (mkB p l)=0
   ·rw[if_pos hk,hk]
    exact .inr ⟨_,rfl,rfl⟩
   ·rw[if_neg hk]
    exact .inl ⟨_,_,rfl,hk,rfl⟩
theorem B_bat:CB ij Ds zBat:=by
 refine⟨fun st h=> ?_,fun s q hs hq=> ?_⟩
 ·unfold ij
  rw[B_pfx.dead st h,JR]
  dsimp only
  rw[if_pos (by decide),qm _ _ (by decide),JR]
  dsimp only
  have e:cz st ((0:Int) - 49)=([],st):=if_pos h
  rw[show zP.JD=(0:Int) from rfl,e,bt,JR]
  dsimp only
  rw[if_neg h]
  rfl
 ·unfold ij Ds
  rcases B_pfx.run s q hs hq with⟨e,st,p1,g1,x1,y1⟩ | ⟨p,r,p1,g1,n1,l1⟩
  ·refine .inl ⟨e,st,by rw[p1],?_,x1,y1⟩
   rw[g1,JR]
   dsimp only
   rw[if_pos (by decide),qm _ _ (by decide),JR]
   dsimp only
   have e:cz st ((0:Int) - 49)=([],st):=if_pos y1
   rw[show zP.JD=(0:Int) from rfl,e,bt,JR]
   dsimp only
   rw[if_neg y1]
   rfl
  ·obtain⟨a1,a2,a3,a4,ap⟩:=AZ.spell s q p r hq p1
   obtain⟨k1,k2,k3,k4⟩:=id ap
   have hL:=wI4 k1.2.1
   try dsimp only at hL
   have hT: -9223372036854775808≤p.JD - 49∧p.JD - 49≤9223372036854775807:=by omega
   rw[g1,JR,p1]
   dsimp only
   rw[if_pos hT,qm _ _ hT,JR]
   dsimp only
   by_cases hl:s.length<r+(p.JD - 49).toNat
   ·have e:cz ⟨s.drop r,r,0⟩ (p.JD - 49)=([],⟨s.drop r,r,1⟩):=by
     unfold cz
     rw[if_neg (by simp),if_neg (by omega),if_pos (by rw[J7]; omega)]
    rw[if_pos hl,e,bt,JR]
    exact .inl ⟨1,⟨s.drop r,r,1⟩,rfl,rfl,rfl,by show (1:Int)≠0; decide⟩
   have e:cz ⟨s.drop r,r,0⟩ (p.JD - 49)=((s.drop r).take (p.JD - 49).toNat,⟨s.drop (r+(p.JD - 49).toNat),r+(p.JD - 49).toNat,0⟩):=by
    unfold cz
    rw[if_neg (by simp),if_neg (by omega),if_neg (by rw[J7]; omega),KQ]
   rw[if_neg hl,e,bt,JR]
   dsimp only
   have hn:((s.drop r).take (p.JD - 49).toNat).length=(p.JD - 49).toNat:=by rw[Ll,J7]; omega
   generalize (s.drop r).take (p.JD - 49).toNat=b at hn
   have hlen:(oC p).length=61:=qY k1
   rw[if_pos rfl,vi [] ⟨k1,k2⟩ (by decide),JR,Kc,jJ,JR]
   dsimp only
   rw[uN,Ce,JR]
   dsimp only
   rw[if_pos (show 21≤(oC p).length by omega)]
   have hp21:(gM p).length≤61:=by rw[← oX p,J7]; omega
   have hs2 : [gM p,b].flatten=gM p++b:=by simp
   rw[oX,Cg [gM p,b] (by intro t ht; rcases List.mem_cons.1 ht with rfl | ht; omega; rw[List.mem_singleton.1 ht]; omega),JR,hs2]
   dsimp only
   have hlt:pj 0 (gM p++b)<4294967296:=xZ (by decide) _
   rw[if_pos (show -9223372036854775808≤((pj 0 (gM p++b):Nat):Int)∧((pj 0 (gM p++b):Nat):Int)≤9223372036854775807 by omega)]
   by_cases hsum:((sumP p b:Nat):Int)=p.JH
   rotate_left
   ·rw[if_neg hsum,if_neg (show ¬ ((pj 0 (gM p++b):Nat):Int)=p.JH from hsum),dt,JR]
    exact .inl ⟨5,_,rfl,rfl,rfl,by show (5:Int)≠0; decide⟩
   rw[if_pos hsum,if_pos (show ((pj 0 (gM p++b):Nat):Int)=p.JH from hsum)]
   rcases bopen ap b (by omega) with⟨e,x,o1,o2,o3⟩ | ⟨x,o1,o3⟩
   ·rw[o1,o3,JR]
    dsimp only
    rw[if_neg o2,dt,JR]
    exact .inl ⟨e,_,rfl,rfl,rfl,o2⟩
   ·rw[o1,o3,JR]
    dsimp only
    rw[if_pos rfl]
    exact .inr ⟨x,_,rfl,rfl,by omega,by omega⟩
theorem oF: ∀ {l:List Rec},fv l=0→ ∀ r,r∈l→fu r=0
 | x::l,h,r,hr=>by
  rw[fv] at h
  by_cases hx:fu x=0
  ·rw[if_pos hx] at h
   rcases List.mem_cons.1 hr with rfl | hr
   ·exact hx
   ·exact oF h r hr
  ·rw[if_neg hx] at h
   exact absurd h hx
theorem sK {a:Bat} (h:bnB a) (h0:chk a=0):kp a∧iw a∧(a.JB=true→a.JE=true∧(a.Ja.length:Int)=1)∧ ∀ r,r∈a.Ja→fu r=0:=by
 obtain⟨cr,e0,h1,h2,h3,h4⟩:=vh a h.1 h.2.1 h.2.2
 have e:chk a=xU a cr e0:=by unfold chk; rw[h1]; rfl
 rw[e] at h0
 unfold xU at h0
 by_cases hn:kp a
 rotate_left
 ·rw[if_neg hn] at h0; exact absurd h0 (by decide)
 rw[if_pos hn] at h0
 by_cases hc:a.JB=true
 ·rw[if_pos hc] at h0
  by_cases ht:a.JE=true
  rotate_left
  ·rw[if_neg ht] at h0; exact absurd h0 (by decide)
  rw[if_pos ht] at h0
  by_cases hp:iw a
  rotate_left
  ·rw[if_neg hp] at h0; exact absurd h0 (by decide)
  rw[if_pos hp] at h0
  by_cases hl:(a.Ja.length:Int)=1
  rotate_left
  ·rw[if_neg hl] at h0; exact absurd h0 (by decide)
  rw[if_pos hl] at h0
  by_cases hf:fv a.Ja=0
  rotate_left
  ·rw[if_neg hf] at h0; exact absurd h0 hf
  exact⟨hn,hp,fun _=>⟨ht,hl⟩,oF hf⟩
 ·rw[if_neg hc] at h0
  by_cases hp:iw a
  rotate_left
  ·rw[if_neg hp] at h0; exact absurd h0 (by decide)
  rw[if_pos hp] at h0
  by_cases hf:fv a.Ja=0
  rotate_left
  ·rw[if_neg hf] at h0; exact absurd h0 hf
  exact⟨hn,hp,fun h=>absurd h hc,oF hf⟩
theorem Gm: ∀ a t c:Bool,(c=true→t=true)→eO (iq a t c)=0:=by decide
theorem Du: ∀ a t c:Bool,0≤iq a t c∧iq a t c≤56:=by decide
theorem Ck {n:Int} (h:wI n):bh n (8:Nat)=true:=by
 show bh n 8=true
 rw[zr]
 exact JS h
theorem xa {n:Int} (h: -2147483648≤n∧n≤2147483647):bh n (4:Nat)=true:=by
 show bh n 4=true
 rw[eo]
 exact JS h
theorem fits2 {n:Int} (h: -32768≤n∧n≤32767):bh n (2:Nat)=true:=by
 show bh n 2=true
 rw[vg]
 exact JS h
def smB (a:Bat):Prop:=bnB a∧(∀ r,r∈a.Ja→rwt r≤900000)∧(body a).length≤900000
theorem Fg {a:Bat} (h:iw a):(-32768≤a.I8∧a.I8≤32767)∧(-2147483648≤a.Jn∧a.Jn≤2147483647):=by
 unfold iw at h
 split at h
 ·omega
 ·split at h <;> omega
theorem Bm {a:Bat} (hb:smB a) (h0:chk a=0) (s:Nat) (hs:s<4294967296):okP (pB a s):=by
 obtain⟨hn,hp,hc,hr⟩:=sK hb.1 h0
 obtain⟨n1,n2,n3,n4,n5,n6⟩:=hn
 obtain⟨w1,w2,_,_,_,w6,w7,w8,w9,w10,w11,w12⟩:=hb.1.1
 obtain⟨p1,p2⟩:=Fg hp
 have hl:=hb.2.2
 have hcount:=hb.1.2.1
 have ha:=Du a.JG a.JE a.JB
 have hs2: -2147483648≤s32 (s:Int)∧s32 (s:Int)≤2147483647:=by unfold s32; split <;> omega
 refine⟨⟨Ck w1,xa ⟨?_,?_⟩,xa ⟨?_,?_⟩,rfl,xa hs2,fits2 ⟨?_,?_⟩,xa ⟨?_,?_⟩,Ck w7,Ck w8,Ck w9,fits2 p1,xa p2,xa ⟨?_,?_⟩,trivial⟩,⟨?_,?_⟩,?_,?_⟩
 all_goals (try unfold pB) <;> (try dsimp only) <;> omega
theorem Cl (a:Bat):mE a<4294967296:=xZ (by decide) _
theorem Fh {a:Bat} (hb:smB a) (h0:chk a=0):okB a:=by
 obtain⟨hn,hp,hc,hr⟩:=sK hb.1 h0
 refine⟨Bm hb h0 _ (Cl a),Gm _ _ _ (fun h=>(hc h).1),fun x hx=> ?_,h0⟩
 exact EW (hb.1.1.2.2.2.2.2.2.2.2.2.2.2.2 x hx).1 (hr x hx) (hb.2.1 x hx)
theorem oY {a:Bat} (h:okB a):(fq a).length=61+(body a).length:=by
 unfold fq
 rw[JU,qY h.1.1]
theorem Cm: ∀ (l:List Rec) (t:List UInt8),(∀ x,x∈l→wI x.JA∧wI x.Jq∧rwt x≤900000∧fu x=0)→t.length+(bl dF l).length≤1000000→d8 l (t,0)=some (t++bl dF l,0)
 | [],t,_,_=>by rw[bl,Kg]; rfl
 | x::l,t,h,hl=>by
  obtain⟨h1,h2,h3,h4⟩:=h x (.head _)
  rw[bl,JU] at hl
  rw[d8,Do x t h1 h2 h3 (by omega),if_pos h4,JR,Cm l _ (fun y hy=>h y (.tail _ hy)) (by rw[JU]; omega),bl,JY]
theorem benc {a:Bat} (hb:smB a):hC a=some (if chk a=0 then (fq a,0) else ([],chk a)):=by
 unfold hC
 rw[(ya hb.1).1,JR]
 by_cases h0:chk a=0
 rotate_left
 ·rw[if_neg h0,if_neg h0]
 obtain⟨hn,hp,hc,hr⟩:=sK hb.1 h0
 have hl:=hb.2.2
 have hw: ∀ x,x∈a.Ja→wI x.JA∧wI x.Jq∧rwt x≤900000∧fu x=0:=fun x hx=>⟨(hb.1.1.2.2.2.2.2.2.2.2.2.2.2.2 x hx).1,(hb.1.1.2.2.2.2.2.2.2.2.2.2.2.2 x hx).2.1,hb.2.1 x hx,hr x hx⟩
 have hlb:(bl dF a.Ja).length≤900000:=hl
 rw[if_pos h0,if_pos h0,Cm a.Ja [] hw (by rw[K6]; omega),JR,Kc,jJ,JR]
 dsimp only
 rw[uN]
 dsimp only
 rw[if_pos (show -9223372036854775808≤(49+((bl dF a.Ja).length:Int))∧(49+((bl dF a.Ja).length:Int))≤9223372036854775807 by omega),FX,JR]
 have hP0:okP (pB a 0):=Bm hb h0 0 (by decide)
 have e0:cX ([],0) (pB a 0)=some (oC (pB a 0),0):=by
  have:=vi [] (p:=pB a 0) ⟨hP0.1,hP0.2.1⟩ (by decide)
  rwa [Kc] at this
 have e0':cX ([],0) (⟨a.Jz,(49+((bl dF a.Ja).length:Int)),a.Jv,0,iq a.JG a.JE a.JB,a.Jx,a.Jm,a.JF,a.I6,a.I8,a.Jn,(a.Ja.length:Int)⟩:Pfx)=some (oC (pB a 0),0):=e0
 rw[e0',JR,jJ,JR]
 dsimp only
 rw[uN]
 dsimp only
 rw[if_pos rfl,if_pos rfl,JR,if_neg (by decide),Ce,JR]
 have hp61:=qY hP0.1
 have hp21:(gM (pB a 0)).length≤61:=by rw[← oX,J7]; omega
 have hs2 : [gM (pB a 0),bl dF a.Ja].flatten=gM (pB a 0)++bl dF a.Ja:=by simp
 rw[if_pos (show 21≤(oC (pB a 0)).length by omega),oX,Cg [gM (pB a 0),bl dF a.Ja] (by intro t ht; rcases List.mem_cons.1 ht with rfl | ht; omega; rw[List.mem_singleton.1 ht]; omega),JR,hs2]
 dsimp only
 have hlt:=Cl a
 have hsum:pj 0 (gM (pB a 0)++bl dF a.Ja)=mE a:=rfl
 rw[hsum,if_pos (show -9223372036854775808≤((mE a:Nat):Int)∧((mE a:Nat):Int)≤9223372036854775807 by omega)]
 have hP:=Bm hb h0 _ hlt
 have e1:cX ([],0) (⟨a.Jz,(49+((bl dF a.Ja).length:Int)),a.Jv,((mE a:Nat):Int),iq a.JG a.JE a.JB,a.Jx,a.Jm,a.JF,a.I6,a.I8,a.Jn,(a.Ja.length:Int)⟩:Pfx)=some (oC (pB a (mE a)),0):=by
  have:=vi [] (p:=pB a (mE a)) ⟨hP.1,hP.2.1⟩ (by decide)
  rwa [Kc] at this
 have hp61':=qY hP.1
 rw[e1,JR,yt _ _ (by dsimp only; omega),l8,JR,jJ,JR]
 dsimp only
 rw[uN]
 rfl
def pZ:List Rec→List Rec→Bool
 | x::l,y::m=>wX x y && pZ l m
 | _,_=>true
def vw (a b:Bat):Bool:=decide (a.Jz=b.Jz∧a.Jv=b.Jv∧a.JG=b.JG∧a.JE=b.JE∧a.JB=b.JB∧a.Jx=b.Jx∧a.Jm=b.Jm∧a.JF=b.JF∧a.I6=b.I6∧a.I8=b.I8∧a.Jn=b.Jn∧a.Ja.length=b.Ja.length) && pZ a.Ja b.Ja
theorem th: ∀ l:List Rec,pZ l l=true
 | []=>rfl
 | x::l=>by rw[pZ,Bg,th l]; rfl
theorem Bn (a:Bat):vw a a=true:=by
 unfold vw
 rw[th]
 simp
theorem Cn (a b:Bat) (hn:a.Ja.length≤1000000) (y:Bool): ∀ (l m:List Rec) (k fuel:Nat),a.Ja.drop k=l→b.Ja.drop k=m→l.length=m.length→l.length<fuel→(∀ x,x∈l→x.Jl.length≤1000000)→ ∃ z,eX a b fuel y k=some (if pZ l m=true then .go (y,z) else .ret false)
 | [],m,k,fuel+1,h1,h2,hl,hf,_=>by
  have:=eb h1
  exact⟨k,by rw[eX,if_neg (by omega)]; rfl⟩
 | x::l,v::m,k,fuel+1,h1,h2,hl,hf,hw=>by
  obtain⟨g1,g2,g3⟩:=cK h1
  obtain⟨k1,k2,k3⟩:=cK h2
  rw[J0] at hf
  rw[J0,J0] at hl
  obtain⟨z,hz⟩:=Cn a b hn y l m (k+1) fuel g2 k2 (by omega) (by omega) (fun u hu=>hw u (.tail _ hu))
  refine⟨z,?_⟩
  rw[eX,if_pos (by omega),g1,JR,k1,JR,EV x v (hw x (.head _)),JR,pZ,if_pos (show -9223372036854775808≤(k:Int)+1∧(k:Int)+1≤9223372036854775807 by omega),hz]
  cases wX x v <;> rfl
theorem Fi {a b:Bat} (hn:a.Ja.length≤1000000) (hw: ∀ x,x∈a.Ja→x.Jl.length≤1000000):lk a b=some (vw a b):=by
 have hL: ∀ o:Option Bool,o=some (vw a b)∨True:=fun _=> .inr trivial
 unfold lk vw
 by_cases c1:a.Jz=b.Jz
 rotate_left
 ·rw[if_neg c1,JR,if_pos rfl,JT (fun h=>c1 h.1)]; rfl
 by_cases c2:a.Jv=b.Jv
 rotate_left
 ·rw[if_pos c1,if_neg c2,JR,if_pos rfl,JT (fun h=>c2 h.2.1)]; rfl
 by_cases c3:a.JG=b.JG
 rotate_left
 ·rw[if_pos c1,if_pos c2,if_neg (by simpa using c3),JR,if_pos rfl,JT (fun h=>c3 h.2.2.1)]; rfl
 by_cases c4:a.JE=b.JE
 rotate_left
 ·rw[if_pos c1,if_pos c2,if_pos (by simpa using c3),if_neg (by simpa using c4),JR,if_pos rfl,JT (fun h=>c4 h.2.2.2.1)]; rfl
 by_cases c5:a.JB=b.JB
 rotate_left
 ·rw[if_pos c1,if_pos c2,if_pos (by simpa using c3),if_pos (by simpa using c4),if_neg (by simpa using c5),JR,if_pos rfl,JT (fun h=>c5 h.2.2.2.2.1)]; rfl
 rw[if_pos c1,if_pos c2,if_pos (by simpa using c3),if_pos (by simpa using c4),if_pos (by simpa using c5)]
 by_cases c6:a.Jx=b.Jx
 rotate_left
 ·rw[if_neg c6,JR,if_pos rfl,JT (fun h=>c6 h.2.2.2.2.2.1)]; rfl
 by_cases c7:a.Jm=b.Jm
 rotate_left
 ·rw[if_pos c6,if_neg c7,JR,if_pos rfl,JT (fun h=>c7 h.2.2.2.2.2.2.1)]; rfl
 by_cases c8:a.JF=b.JF
 rotate_left
 ·rw[if_pos c6,if_pos c7,if_neg c8,JR,if_pos rfl,JT (fun h=>c8 h.2.2.2.2.2.2.2.1)]; rfl
 by_cases c9:a.I6=b.I6
 rotate_left
 ·rw[if_pos c6,if_pos c7,if_pos c8,if_neg c9,JR,if_pos rfl,JT (fun h=>c9 h.2.2.2.2.2.2.2.2.1)]; rfl
 by_cases c10:a.I8=b.I8
 rotate_left
 ·rw[if_pos c6,if_pos c7,if_pos c8,if_pos c9,if_neg c10,JR,if_pos rfl,JT (fun h=>c10 h.2.2.2.2.2.2.2.2.2.1)]; rfl
 by_cases c11:a.Jn=b.Jn
 rotate_left
 ·rw[if_pos c6,if_pos c7,if_pos c8,if_pos c9,if_pos c10,if_neg c11,JR,if_pos rfl,JT (fun h=>c11 h.2.2.2.2.2.2.2.2.2.2.1)]; rfl
 by_cases c12:a.Ja.length=b.Ja.length
 rotate_left
 ·rw[if_pos c6,if_pos c7,if_pos c8,if_pos c9,if_pos c10,if_pos c11,if_neg (by omega),JR,if_pos rfl,JT (fun h=>c12 h.2.2.2.2.2.2.2.2.2.2.2)]; rfl
 obtain⟨z,hz⟩:=Cn a b hn false a.Ja b.Ja 0 (((a.Ja.length:Int)).toNat+1) rfl rfl c12 (by omega) hw
 rw[if_pos c6,if_pos c7,if_pos c8,if_pos c9,if_pos c10,if_pos c11,if_pos (by omega),JR,if_neg (by decide),hz,JS ⟨c1,c2,c3,c4,c5,c6,c7,c8,c9,c10,c11,c12⟩,Bool.true_and]
 cases pZ a.Ja b.Ja <;> rfl
theorem zu (y:Int): ∀ l:List Hd,(∀ h,h∈l→Ek h)→(dU l y=some (.ret 0))∨(dU l y=some (.go y)∧ ∀ h,h∈l→h.Jr.length+h.Jj.data.length≤100)
 | [],h=> .inr ⟨rfl,fun x h=>nomatch h⟩
 | x::l,h=>by
  have hx:=h x (.head _)
  have h1:x.Jr.length≤140737488351232:=hx.1
  have h2:x.Jj.data.length≤140737488351232:=hx.2.2
  rw[dU,if_pos (by omega)]
  by_cases hc:(x.Jr.length:Int)+(x.Jj.data.length:Int)>100
  ·rw[if_pos hc]
   exact .inl rfl
  ·rw[if_neg hc]
   rcases zu y l (fun z hz=>h z (.tail _ hz)) with g | ⟨g,g2⟩
   ·exact .inl g
   ·refine .inr ⟨g,fun z hz=> ?_⟩
    rcases List.mem_cons.1 hz with rfl | hz
    ·omega
    ·exact g2 z hz
theorem zw (y:Int): ∀ l:List Rec,(∀ r,r∈l→uP r)→(dV l y=some (.ret 0))∨(dV l y=some (.go y)∧ ∀ r,r∈l→r.Jr.data.length+r.Jj.data.length≤100∧r.Jl.length≤6∧ ∀ h,h∈r.Jl→h.Jr.length+h.Jj.data.length≤100)
 | [],h=> .inr ⟨rfl,fun x h=>nomatch h⟩
 | x::l,h=>by
  obtain⟨h1,h2,h3,h4,h5⟩:=h x (.head _)
  have h6:x.Jr.data.length≤140737488351232:=h3.2
  have h7:x.Jj.data.length≤140737488351232:=h4.2
  rw[dV,if_pos (by omega)]
  by_cases hc:(x.Jr.data.length:Int)+(x.Jj.data.length:Int)>100
  ·rw[if_pos hc]
   exact .inl rfl
  rw[if_neg hc]
  by_cases hd:(x.Jl.length:Int)>6
  ·rw[if_pos hd]
   exact .inl rfl
  rw[if_neg hd]
  rcases zu y x.Jl h5.2 with g | ⟨g,g2⟩
  ·rw[g]
   exact .inl rfl
  ·rw[g,JR]
   simp only
   rcases zw y l (fun z hz=>h z (.tail _ hz)) with k | ⟨k,k2⟩
   ·exact .inl k
   ·refine .inr ⟨k,fun z hz=> ?_⟩
    rcases List.mem_cons.1 hz with rfl | hz
    ·exact⟨by omega,by omega,g2⟩
    ·exact k2 z hz
theorem Gn (a:Bat) (hw:l9 a):iP a=some 0∨(iP a=some 1∧a.Ja.length≤12∧ ∀ r,r∈a.Ja→r.Jr.data.length+r.Jj.data.length≤100∧r.Jl.length≤6∧ ∀ h,h∈r.Jl→h.Jr.length+h.Jj.data.length≤100):=by
 unfold iP
 by_cases hc:(a.Ja.length:Int)>12
 ·rw[if_pos hc]
  exact .inl rfl
 rw[if_neg hc]
 rcases zw 0 a.Ja hw.2.2.2.2.2.2.2.2.2.2.2.2 with g | ⟨g,g2⟩
 ·rw[g]
  exact .inl rfl
 ·rw[g]
  exact .inr ⟨rfl,by omega,g2⟩
end Go.Proofs.YtheikonlgjdopaaGreat.Sl
