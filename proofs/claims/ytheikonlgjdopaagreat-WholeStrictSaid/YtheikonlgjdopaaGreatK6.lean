/- wholeStrict_holds: part 6. -/
import Derived.Test.YtheikonlgjdopaaGreatK5
set_option maxRecDepth 100000
set_option maxHeartbeats 4000000
set_option linter.defProp false
namespace Go.Proofs.YtheikonlgjdopaaGreat.Sl
open Go.RowKit
set_option linter.unusedVariables false
set_option linter.unusedSimpArgs false
def wT (t:Top):Nat:=t.Ck.length+4*t.B7.length+6
def wTs:List Top→Nat
 | []=>0
 | t::l=>wT t+wTs l
theorem lh: ∀ l:List Top,l.length*6≤wTs l
 | []=>by simp[wTs]
 | t::l=>by have:=lh l; simp only[wTs,wT,C9]; omega
theorem ou: ∀ (l:List Top) (t:Top),t∈l→wT t≤wTs l
 | u::l,t,h=>by
  rcases List.mem_cons.1 h with rfl | h
  ·simp only[wTs]; omega
  ·have:=ou l t h; simp only[wTs]; omega
theorem nG: ∀ l:List Int,(aV (fun n=>be n 4) l).length=4*l.length
 | []=>rfl
 | n::l=>by rw[aV,CO,al,nG l,C9]; omega
theorem s6 (t:Top):(jm t).length=wT t:=by
 simp only[jm,CO,al,nG,wT]
 omega
theorem e7: ∀ l:List Top,(aV jm l).length=wTs l
 | []=>rfl
 | t::l=>by rw[aV,CO,s6,e7 l,wTs]
theorem xG: ∀ (l:List Int) (t:List UInt8),(∀ n,n∈l→aN n 4=true)→t.length+4*l.length≤1000000000→bK l (t,0)=some (t++aV (fun n=>be n 4) l,0)
 | [],t,h,hl=>by rw[bK,aV,Db]
 | n::l,t,h,hl=>by
  rw[C9] at hl
  rw[bK,bR (h n (.head _)) (by omega),CM,xG l _ (fun m hm=>h m (.tail _ hm)) (by rw[CO,al]; show t.length+4+4*l.length≤ _; omega),aV,CV]
  rfl
theorem mc {t d:List UInt8} (hf:d.length≤32767) (ht:t.length≤1000000000):f7 (t,0) d=some (t++(be (d.length:Int) 2++d),0):=by
 rw[nV _ _ (by simp only; omega)]
 have:=fY (t:=t) (b:=⟨false,d⟩) (k:=2) (eQ (.inl rfl) (show -32768≤(d.length:Int) by omega) (show (d.length:Int)≤32767 by omega)) rfl (by simp only; omega)
 rw[jW _ _ _ ⟨by decide,by simp only; omega⟩] at this
 exact this
theorem xH: ∀ (l:List Top) (t:List UInt8),(∀ x,x∈l→okT x)→t.length+wTs l≤1000000→wTs l≤2000→bL l (t,0)=some (t++aV jm l,0)
 | [],t,h,hl,hw=>by rw[bL,aV,Db]
 | x::l,t,h,hl,hw=>by
  obtain⟨h1,h2,h3⟩:=h x (.head _)
  simp only[wTs,wT] at hl hw
  rw[bL,mc (by omega) (by omega),CM,bR h2 (by simp only[CO,al]; omega),CM,xG _ _ h3 (by simp only[CO,al]; show _+(4:Int).toNat + _≤ _; omega),CM,xH l _ (fun y hy=>h y (.tail _ hy)) (by simp only[CO,al,nG]; show _+(4:Int).toNat + _ + _≤ _; omega) (by omega)]
  simp only[aV,jm,CV]
  rfl
theorem md (l:List Top) (t:List UInt8) (h: ∀ x,x∈l→okT x) (ht:t.length≤900000) (hw:wTs l≤2000):cV (t,0) l=some (t++(be (l.length:Int) 4++aV jm l),0):=by
 have:=lh l
 unfold cV
 rw[bR (eQ (.inr (.inl rfl)) (by omega) (by omega)) (by omega),CM,xH l _ h (by simp only[CO,al]; show _+(4:Int).toNat + _≤ _; omega) hw,CV]
 rfl
theorem me (n:Int):aN n 2=decide (-32768≤n∧n≤32767):=by
 rw[Bool.eq_iff_iff]
 unfold aN
 simp only[Bool.and_eq_true,decide_eq_true_eq]
 have:(2:Int) ^ (8*(2:Int).toNat - 1)=32768:=by decide
 omega
theorem ut (n:Int):aN n 8=decide (-9223372036854775808≤n∧n≤9223372036854775807):=by
 rw[Bool.eq_iff_iff]
 unfold aN
 simp only[Bool.and_eq_true,decide_eq_true_eq]
 have:(2:Int) ^ (8*(8:Int).toNat - 1)=9223372036854775808:=by decide
 omega
theorem fits_1 (n:Int):aN n 1=decide (-128≤n∧n≤127):=by
 rw[Bool.eq_iff_iff]
 unfold aN
 simp only[Bool.and_eq_true,decide_eq_true_eq]
 have:(2:Int) ^ (8*(1:Int).toNat - 1)=128:=by decide
 omega
def uu (v:Val):Prop:=v.BX<0∨v.B5<0∨v.B5>32767∨v.B8<0∨v.B8>2147483647∨v.CK<0∨v.CH < -1
def wk (v:Val):Prop:= ¬ ((1≤v.CA∧v.CA≤3)↔0<(v.BZ.length:Int))∨ ¬ (v.CA=0↔v.CH= -1)
open Classical in
noncomputable def chkV (v:Val):Int:=if uu v then 11 else if v.CA<0∨v.CA>6 then 12 else if wk v then 10 else if rR v.BZ=true then 0 else 13
theorem nH (v:Val) (hw:uo v) (hl:v.BZ.length≤1000000):dA v=some (chkV v):=by
 unfold dA chkV
 rw[ur _ hw.2.2.2.2.1.2 hl,dS _ _ hw.2.1,dS _ _ hw.2.2.1,me,e9]
 generalize rR v.BZ=b
 by_cases hr:uu v
 ·rw[if_pos hr]
  unfold uu at hr
  by_cases c1:v.BX<0
  ·rw[if_pos c1]
  rw[if_neg c1]
  by_cases c2:v.B5<0
  ·rw[if_pos c2]
  rw[if_neg c2,CM]
  by_cases c3: -32768≤v.B5∧v.B5≤32767
  ·rw[if_pos (CP c3)]
   by_cases c4:v.B8<0
   ·rw[if_pos c4]
   rw[if_neg c4,CM]
   by_cases c5: -2147483648≤v.B8∧v.B8≤2147483647
   ·rw[if_pos (CP c5)]
    by_cases c6:v.CK<0
    ·rw[if_pos c6]
    rw[if_neg c6,if_pos (by omega)]
   ·rw[if_neg (by simp only[decide_eq_true_eq]; exact c5)]
  ·rw[if_neg (by simp only[decide_eq_true_eq]; exact c3)]
 rw[if_neg hr]
 unfold uu at hr
 rw[if_neg (by omega),if_neg (by omega),CM,if_pos (CP (by omega)),if_neg (by omega),CM,if_pos (CP (by omega)),if_neg (by omega),if_neg (by omega)]
 unfold iv
 by_cases hs:v.CA<0∨v.CA>6
 ·rw[if_pos hs]
  by_cases c1:v.CA<0
  ·rw[if_pos c1]
  ·rw[if_neg c1,if_pos (by omega)]
 rw[if_neg hs,if_neg (by omega),if_neg (by omega)]
 by_cases hc:wk v
 ·rw[if_pos hc]
  unfold wk at hc
  by_cases c0:v.CA=0
  ·rw[if_pos c0,CM,if_pos rfl]
   by_cases c1:(v.BZ.length:Int)=0
   ·rw[if_pos c1,if_pos c0,if_neg (by omega)]
   ·rw[if_neg c1]
  ·rw[if_neg c0]
   by_cases c4:v.CA≥4
   ·rw[if_pos c4,CM,if_pos rfl]
    by_cases c1:(v.BZ.length:Int)=0
    ·rw[if_pos c1,if_neg c0,if_pos (by omega)]
    ·rw[if_neg c1]
   ·rw[if_neg c4,CM,if_neg (by decide)]
    by_cases c1:(v.BZ.length:Int)=0
    ·rw[if_pos c1]
    ·rw[if_neg c1,if_neg c0,if_pos (by omega)]
 rw[if_neg hc]
 unfold wk at hc
 by_cases c0:v.CA=0
 ·rw[if_pos c0,CM,if_pos rfl,if_pos (by omega),if_pos c0,if_pos (by omega)]
  cases b <;> rfl
 ·rw[if_neg c0]
  by_cases c4:v.CA≥4
  ·rw[if_pos c4,CM,if_pos rfl,if_pos (by omega),if_neg c0,if_neg (by omega)]
   cases b <;> rfl
  ·rw[if_neg c4,CM,if_neg (by decide),if_neg (by omega),if_neg c0,if_neg (by omega)]
   cases b <;> rfl
theorem xI {v:Val} (h:chkV v=0): ¬ uu v∧ ¬ (v.CA<0∨v.CA>6)∧ ¬ wk v∧rR v.BZ=true:=by
 unfold chkV at h
 split at h
 ·exact absurd h (by decide)
 ·rename_i h1
  split at h
  ·exact absurd h (by decide)
  ·rename_i h2
   split at h
   ·exact absurd h (by decide)
   ·rename_i h3
    split at h
    ·rename_i h4
     exact⟨h1,h2,h3,h4⟩
    ·exact absurd h (by decide)
theorem vh {l:List Top} (h:rR l=true) (hw:wTs l≤2000): ∀ t,t∈l→okT t:=by
 intro t ht
 unfold rR at h
 rw[Bool.and_eq_true] at h
 have h1:=List.all_eq_true.1 h.1 t ht
 unfold qj wj at h1
 simp only[Bool.and_eq_true,decide_eq_true_eq,List.all_eq_true] at h1
 have h2:=ou l t ht
 unfold wT at h2
 refine⟨eQ (.inl rfl) (by omega) (by omega),eQ (.inr (.inl rfl)) (by omega) (by omega),fun n hn=> ?_⟩
 have h3:=h1.2.1.1 n hn
 unfold okn at h3
 simp only[Bool.and_eq_true,decide_eq_true_eq] at h3
 rw[e9]
 exact CP (by omega)
def mX (v:Val):List UInt8:=be 0 2++(be v.BX 8++(be v.B5 2++(be v.B8 4++(be v.CA 1++((be (v.BZ.length:Int) 4++aV jm v.BZ)++(be v.CK 8++be v.CH 8))))))
def qk:Pr Unit:=fun s q=>if q=s.length then .ok ((),q) else .error 2
def kf:Pr Val:=(cM 2).bind fun z=>if z=0 then (cM 8).bind fun a=>(cM 2).bind fun b=>(cM 4).bind fun c=>(cM 1).bind fun d=>(gM 4 6 gN).bind fun l=>(cM 8).bind fun e=>(cM 8).bind fun f=>qk.bind fun _=> .ret ⟨a,b,c,d,l,e,f⟩ else .err 7
def okV (v:Val):Prop:=aN v.BX 8=true∧aN v.B5 2=true∧aN v.B8 4=true∧aN v.CA 1=true∧(aN (v.BZ.length:Int) 4=true∧ ∀ t,t∈v.BZ→okT t)∧aN v.CK 8=true∧aN v.CH 8=true
theorem qQ {s:List UInt8} {v:Val} {r:Nat} (h:kf s 0= .ok (v,r)):s=mX v∧okV v:=by
 obtain⟨z,q0,h0,h⟩:=Pr.bind_ok h
 split at h
 ·rename_i hz
  subst hz
  obtain⟨a,q1,h1,h⟩:=Pr.bind_ok h
  obtain⟨b,q2,h2,h⟩:=Pr.bind_ok h
  obtain⟨c,q3,h3,h⟩:=Pr.bind_ok h
  obtain⟨d,q4,h4,h⟩:=Pr.bind_ok h
  obtain⟨l,q5,h5,h⟩:=Pr.bind_ok h
  obtain⟨e,q6,h6,h⟩:=Pr.bind_ok h
  obtain⟨f,q7,h7,h⟩:=Pr.bind_ok h
  obtain⟨u,q8,h8,h⟩:=Pr.bind_ok h
  injection h with h
  obtain⟨rfl,rfl⟩:=C6 h
  have I2:=bB 2 (by decide) (by decide)
  have I8:=bB 8 (by decide) (by decide)
  obtain⟨-,a2,-,a4,a5⟩:=I2.spell _ _ _ _ (Da _) h0
  obtain⟨-,b2,-,b4,b5⟩:=I8.spell _ _ _ _ a2 h1
  obtain⟨-,c2,-,c4,c5⟩:=I2.spell _ _ _ _ b2 h2
  obtain⟨-,d2,-,d4,d5⟩:=(bB 4 (by decide) (by decide)).spell _ _ _ _ c2 h3
  obtain⟨-,e2,-,e4,e5⟩:=(bB 1 (by decide) (by decide)).spell _ _ _ _ d2 h4
  obtain⟨-,f2,-,f4,f5⟩:=iE.spell _ _ _ _ e2 h5
  obtain⟨-,g2,-,g4,g5⟩:=I8.spell _ _ _ _ f2 h6
  obtain⟨-,i2,-,i4,i5⟩:=I8.spell _ _ _ _ g2 h7
  have hq:q7=s.length:=by
   unfold qk at h8
   split at h8
   ·rename_i hh; exact hh
   ·exact nomatch h8
  refine⟨?_,b5,c5,d5,e5,f5,g5,i5⟩
  have hs:s=s.take q7:=by rw[hq,List.take_length]
  rw[hs,i4,g4,f4,e4,d4,c4,b4,a4]
  simp only[mX,CV,List.take_zero,CW]
 ·exact nomatch h
def zVal:Val:=⟨0,0,0,0,[],0,0⟩
theorem gt {st:I} (h:st.err≠0):cc st=some (st.err,st):=by rw[cZ,lS h]
theorem xJ {v:Val} (h:okV v) (hl:wTs v.BZ≤1000000):uo v:=by
 obtain⟨h1,h2,h3,h4,h5,h6,h7⟩:=h
 have hn:=lh v.BZ
 refine⟨bE h1,bE h2,bE h3,bE h4,⟨by omega,fun t ht=> ?_⟩,bE h6,bE h7⟩
 have hw:=ou _ _ ht
 unfold wT at hw
 exact⟨show t.Ck.length≤ _ by omega,by omega,fun n hn=>bE ((h5.2 t ht).2.2 n hn)⟩
noncomputable def decV (s:List UInt8):Val×Int:=match kf s 0 with
 | .error e=>(zVal,e)
 | .ok (v,_)=>if chkV v=0 then (v,0) else (zVal,chkV v)
theorem s7 (v:Val):(mX v).length=37+wTs v.BZ:=by
 simp only[mX,CO,al,e7]
 omega
theorem ph (s:List UInt8) (hs:s.length≤2000):dm s=some (decV s):=by
 unfold dm decV
 rw[fz _ (by omega),CM]
 have Q1':=Q1
 have hB:=mV
 have r0:=Q2.run s 0 (Da _)
 rw[List.drop_zero] at r0
 rcases r0 with⟨e,st,p0,g0,x0,y0⟩ | ⟨z,q0,p0,g0,n0,l0⟩
 ·rw[show kf s 0= .error e from Pr.bind_err p0,g0]
  simp only[CM,if_true,dL y0,hB.dead _ y0,gt y0,if_neg y0,x0]
  rw[if_neg (by rw[← x0]; exact y0)]
  rfl
 rw[g0,CM]
 simp only
 by_cases hz:z=0
 ·have hp:kf s 0=((cM 8).bind fun a=>(cM 2).bind fun b=>(cM 4).bind fun c=>(cM 1).bind fun d=>(gM 4 6 gN).bind fun l=>(cM 8).bind fun e=>(cM 8).bind fun f=>qk.bind fun _=> .ret (⟨a,b,c,d,l,e,f⟩:Val)) s q0:=by rw[kf,Pr.bind_of p0,if_pos hz]
  rw[if_pos hz]
  have hval:=fun v r (h:kf s 0= .ok (v,r))=>qQ h
  rw[hp] at hval ⊢
  clear hp
  rcases Q8.run s q0 l0 with⟨e,st,p1,g1,x1,y1⟩ | ⟨a,q1,p1,g1,n1,l1⟩
  ·rw[Pr.bind_err p1,g1]
   simp only[CM,dL y1,hB.dead _ y1,gt y1,x1]
   rw[if_neg (by rw[← x1]; exact y1)]
   rfl
  rw[g1,CM]
  simp only
  rw[Pr.bind_of p1] at hval ⊢
  rcases Q2.run s q1 l1 with⟨e,st,p2,g2,x2,y2⟩ | ⟨b,q2,p2,g2,n2,l2⟩
  ·rw[Pr.bind_err p2,g2]
   simp only[CM,dL y2,hB.dead _ y2,gt y2,x2]
   rw[if_neg (by rw[← x2]; exact y2)]
   rfl
  rw[g2,CM]
  simp only
  rw[Pr.bind_of p2] at hval ⊢
  rcases Q4.run s q2 l2 with⟨e,st,p3,g3,x3,y3⟩ | ⟨c,q3,p3,g3,n3,l3⟩
  ·rw[Pr.bind_err p3,g3]
   simp only[CM,dL y3,hB.dead _ y3,gt y3,x3]
   rw[if_neg (by rw[← x3]; exact y3)]
   rfl
  rw[g3,CM]
  simp only
  rw[Pr.bind_of p3] at hval ⊢
  rcases Q1.run s q3 l3 with⟨e,st,p4,g4,x4,y4⟩ | ⟨d,q4,p4,g4,n4,l4⟩
  ·rw[Pr.bind_err p4,g4]
   simp only[CM,dL y4,hB.dead _ y4,gt y4,x4]
   rw[if_neg (by rw[← x4]; exact y4)]
   rfl
  rw[g4,CM]
  simp only
  rw[Pr.bind_of p4] at hval ⊢
  rcases hB.run s q4 (by omega) l4 with⟨e,st,p5,g5,x5,y5⟩ | ⟨l,q5,p5,g5,n5,l5⟩
  ·rw[Pr.bind_err p5,g5]
   simp only[CM,dL y5,hB.dead _ y5,gt y5,x5]
   rw[if_neg (by rw[← x5]; exact y5)]
   rfl
  rw[g5,CM]
  simp only
  rw[Pr.bind_of p5] at hval ⊢
  rcases Q8.run s q5 l5 with⟨e,st,p6,g6,x6,y6⟩ | ⟨e',q6,p6,g6,n6,l6⟩
  ·rw[Pr.bind_err p6,g6]
   simp only[CM,dL y6,hB.dead _ y6,gt y6,x6]
   rw[if_neg (by rw[← x6]; exact y6)]
   rfl
  rw[g6,CM]
  simp only
  rw[Pr.bind_of p6] at hval ⊢
  rcases Q8.run s q6 l6 with⟨e,st,p7,g7,x7,y7⟩ | ⟨f,q7,p7,g7,n7,l7⟩
  ·rw[Pr.bind_err p7,g7]
   simp only[CM,dL y7,hB.dead _ y7,gt y7,x7]
   rw[if_neg (by rw[← x7]; exact y7)]
   rfl
  rw[g7,CM]
  simp only
  rw[Pr.bind_of p7] at hval ⊢
  rw[cZ,CM]
  simp only
  by_cases hq:q7=s.length
  ·have he:qk s q7= .ok ((),q7):=by unfold qk; rw[if_pos hq]
   rw[Pr.bind_of he] at hval ⊢
   have hv:=hval _ _ rfl
   have hlen:=congrArg List.length hv.1
   rw[s7] at hlen
   have hi:(bU ⟨s.drop q7,q7,0⟩).err=0:=by rw[hq,List.drop_length]; rfl
   rw[hi,if_pos rfl,nH _ (xJ hv.2 (by omega)) (show l.length≤1000000 by have:=lh l; simp only at hlen; omega),CM]
   show (if _ then _ else _)=some (if _ then _ else _)
   split <;> rfl
  ·have he:qk s q7= .error 2:=by unfold qk; rw[if_neg hq]
   have hi:(bU ⟨s.drop q7,q7,0⟩).err=2:=by
    unfold bU
    rw[if_neg]
    ·rfl
    ·intro h0
     have:=List.drop_eq_nil_iff.1 h0
     omega
   rw[Pr.bind_err he,hi,if_neg (by decide)]
   rfl
 ·have hp:kf s 0= .error 7:=by rw[kf,Pr.bind_of p0,if_neg hz]; rfl
  rw[if_neg hz,hp,cf,CM,lf]
  have y:(⟨s.drop q0,q0,7⟩:I).err≠0:=by simp
  simp only[CM,dL y,hB.dead _ y,gt y]
  rfl
theorem wl (v:Val) (hw:uo v) (hl:wTs v.BZ≤2000):ek v=some (if chkV v=0 then (mX v,0) else ([],chkV v)):=by
 have hn:=lh v.BZ
 unfold ek
 rw[nH v hw (by omega),CM]
 by_cases hc:chkV v=0
 ·obtain⟨h1,h2,h3,h4⟩:=xI hc
  have hok:=vh h4 hl
  unfold uu at h1
  obtain⟨w1,w2,w3,w4,w5,w6,w7⟩:=hw
  have f8: ∀ n:Int,wI n→aN n 8=true:=fun n h=>by rw[ut]; exact CP h
  rw[if_pos hc,if_pos hc,bR (eQ (.inl rfl) (by decide) (by decide)) (by simp),CM,bR (f8 _ w1) (by simp only[CO,al]; decide),CM]
  rw[bR (by rw[me]; exact CP (by omega)) (by simp only[CO,al]; decide),CM]
  rw[bR (by rw[e9]; exact CP (by omega)) (by simp only[CO,al]; decide),CM]
  rw[bR (by rw[fits_1]; exact CP (by omega)) (by simp only[CO,al]; decide),CM]
  rw[md _ _ hok (by simp only[CO,al]; decide) hl,CM]
  have hx:(2:Int).toNat=2∧(8:Int).toNat=8∧(4:Int).toNat=4∧(1:Int).toNat=1:=⟨rfl,rfl,rfl,rfl⟩
  rw[bR (f8 _ w6) (by simp only[CO,al,e7,hx,DJ]; omega),CM,bR (f8 _ w7) (by simp only[CO,al,e7,hx,DJ]; omega),CM,fy,lN,CM]
  simp only[mX,CV,CW,hx]
 ·rw[if_neg hc,if_neg hc]
theorem zm:NZ kf:=by
 have I2:=bB 2 (by decide) (by decide)
 have I8:=bB 8 (by decide) (by decide)
 refine NZ.bind Q2.cb.nz I2 fun z=> ?_
 by_cases hz:z=0
 ·rw[if_pos hz]
  refine NZ.bind Q8.cb.nz I8 fun _=>NZ.bind Q2.cb.nz I2 fun _=>NZ.bind Q4.cb.nz (bB 4 (by decide) (by decide)) fun _=>NZ.bind Q1.cb.nz (bB 1 (by decide) (by decide)) fun _=>NZ.bind mV.nz iE fun _=>NZ.bind Q8.cb.nz I8 fun _=>NZ.bind Q8.cb.nz I8 fun _=> ?_
  intro s q e hs hq h
  by_cases hq2:q=s.length
  ·rw[Pr.bind_of (a:=()) (r:=q) (by unfold qk; rw[if_pos hq2])] at h
   exact nomatch h
  ·rw[Pr.bind_err (e:=2) (by unfold qk; rw[if_neg hq2])] at h
   injection h with h
   omega
 ·rw[if_neg hz]
  exact NZ.err (by decide)
theorem wm {s:List UInt8} (h:(decV s).2=0) (hs:s.length≤2000):s=mX (decV s).1∧okV (decV s).1∧chkV (decV s).1=0∧wTs (decV s).1.BZ≤2000:=by
 unfold decV at h ⊢
 cases hp:kf s 0 with
 | error e =>
  rw[hp] at h
  exact absurd h (zm s 0 e (by omega) (Da _) hp)
 | ok x =>
  rw[hp] at h
  simp only at h ⊢
  by_cases hc:chkV x.1=0
  ·rw[if_pos hc] at h ⊢
   have hv:=qQ (v:=x.1) (r:=x.2) hp
   have hlen:=congrArg List.length hv.1
   rw[s7] at hlen
   exact⟨hv.1,hv.2,hc,by simp only; omega⟩
  ·rw[if_neg hc] at h
   exact absurd h hc
theorem wi0:wI 0:=⟨by decide,by decide⟩
theorem wi1:wI 1:=⟨by decide,by decide⟩
theorem wim:wI (-1):=⟨by decide,by decide⟩
def who (p e:Int):Bool:=decide (0≤p∧0≤e∧e≤32767)
theorem rS (p e:Int) (he:wI e):fW p e=some (who p e):=by
 unfold fW who
 by_cases h1:p≥0
 ·rw[if_pos h1]
  by_cases h2:e≥0
  ·rw[if_pos h2,dS _ _ he,me]
   simp only[CM]
   congr 1
   by_cases h3:e≤32767
   ·rw[CP (by omega),CP (by omega)]
   ·rw[CS (by omega),CS (by omega)]
  ·rw[if_neg h2,CS (by omega)]
   rfl
 ·rw[if_neg h1,CS (by omega)]
  rfl
def pi (l:List Top):Int:=if l.length=0 then 10 else if rR l=true then 0 else 13
def wTl (l:List Top):Prop:=(∀ t,t∈l→rN t)∧l.length≤1000000
theorem s8 (l:List Top) (hw:wTl l):gI l=some (pi l):=by
 unfold gI pi
 by_cases h:l.length=0
 ·rw[if_pos (by omega),if_pos h]
 ·rw[if_neg (by omega),if_neg h,nH _ ⟨wi0,wi0,wi0,wi1,⟨by have:=hw.2; simp only; omega,hw.1⟩,wi0,wi0⟩ hw.2,CM]
  unfold chkV
  rw[if_neg (by unfold uu; simp),if_neg (by simp),if_neg (by
   unfold wk
   simp only
   rintro (h1 | h1)
   ·exact h1 ⟨fun _=>by omega,fun _=>by omega⟩
   ·exact h1 ⟨fun h=>absurd h (by decide),fun h=>absurd h (by decide)⟩)]
def kN (d:List UInt8) (p e:Int):Int:=if dc d=true then (if who p e=true then 0 else 11) else 4
def kO (d:List UInt8) (p e:Int) (l:List Top):Int:=if dc d=true then (if who p e=true then pi l else 11) else 4
def tmB (t:Int):Bool:=decide (0≤t∧t≤2147483647)
def nobB (p e:Int):Bool:=decide (p= -1∧e= -1)
def eE (b:Bl) (t p e v:Int):Int:=if (aT b && (b.null || dc b.data))=true then (if (tmB t && (nobB p e || (decide (v>0) && who p e)))=true then 0 else 11) else 4
theorem s9 (x:bc) (he:wI x.B5):es x=some (kN x.Cc x.BX x.B5):=by
 unfold es kN
 rw[jY,CM,rS _ _ he,CM]
 cases dc x.Cc <;> cases who x.BX x.B5 <;> rfl
theorem ta (x:bh) (he:wI x.B5) (hl:wTl x.BZ):eo x=some (kO x.Cc x.BX x.B5 x.BZ):=by
 unfold eo kO
 rw[jY,CM,rS _ _ he,CM,s8 _ hl,CM]
 cases dc x.Cc <;> cases who x.BX x.B5 <;> rfl
theorem pj (x:aD) (v:Int) (he:wI x.B5) (ht:wI x.B8):dD x v=some (eE x.Cc x.B8 x.BX x.B5 v):=by
 unfold dD eE
 have h1:(if x.BX=(-1) then (if x.B5=(-1) then some true else some false) else some false)=some (nobB x.BX x.B5):=by
  unfold nobB
  by_cases a:x.BX= -1 <;> by_cases b:x.B5= -1 <;> simp[a,b]
 have h3:(if x.B8<0 then some true else ((fF x.B8 4).bind fun x29=>if x29=true then some false else some true))=some (!tmB x.B8):=by
  unfold tmB
  by_cases a:x.B8<0
  ·rw[if_pos a,CS (by omega)]
   rfl
  ·rw[if_neg a,dS _ _ ht,e9,CM]
   by_cases b:x.B8≤2147483647
   ·rw[if_pos (CP (by omega)),CP (by omega)]
    rfl
   ·rw[if_neg (by simp; omega),CS (by omega)]
    rfl
 have h4:(if v>0 then ((some (who x.BX x.B5)).bind fun x55=>if x55=true then some false else some true) else some true)=some (!(decide (v>0) && who x.BX x.B5)):=by
  by_cases d:v>0
  ·rw[if_pos d,CP d]
   cases who x.BX x.B5 <;> rfl
  ·rw[if_neg d,CS d]
   rfl
 rw[h1,CM,h3,rS _ _ he,h4,lb,jY]
 cases aT x.Cc <;> cases x.Cc.null <;> cases dc x.Cc.data <;> cases tmB x.B8 <;> cases nobB x.BX x.B5 <;> cases (decide (v>0) && who x.BX x.B5) <;> rfl
theorem xK:CB d7 mU false:=by
 refine⟨fun st h=> ?_,fun s q hl hq=> ?_⟩
 ·unfold d7
  rw[dL h,CM]
  rfl
 ·unfold d7 mU
  rcases Q1.run s q hq with⟨e,st,p1,g1,x1,y1⟩ | ⟨n,r,p1,g1,n1,l1⟩
  ·refine .inl ⟨e,st,Pr.bind_err p1,?_,x1,y1⟩
   rw[g1,CM]
   rfl
  ·rw[g1,CM,Pr.bind_of p1]
   simp only
   by_cases h0:n=0
   ·rw[if_pos h0,if_pos h0,CM,if_neg (by decide),CM,if_neg (by omega)]
    exact .inr ⟨false,r,rfl,rfl,n1,l1⟩
   ·by_cases h1:n=1
    ·rw[if_neg h0,if_pos h1,if_neg h0,if_pos h1,CM,if_neg (by decide),CM,if_pos h1]
     exact .inr ⟨true,r,rfl,rfl,n1,l1⟩
    ·rw[if_neg h0,if_neg h1,if_neg h0,if_neg h1,CM,if_pos rfl,cf,CM,CM,if_neg h1]
     exact .inl ⟨11,_,rfl,rfl,rfl,by simp[bt]⟩
abbrev tb:Pr (List Top):=gM 4 6 gN
theorem j3 {α:Type} {enc:α→List UInt8}: ∀ (l:List α) (x:α),x∈l→(enc x).length≤(aV enc l).length
 | y::l,x,h=>by
  rw[aV,CO]
  rcases List.mem_cons.1 h with rfl | h
  ·omega
  ·have:=j3 (enc:=enc) l x h
   omega
theorem xL (s:List UInt8) (q:Nat) (l:List Top) (r:Nat) (hl:s.length≤1000000) (hq:q≤s.length) (h:tb s q= .ok (l,r)):wTl l:=by
 obtain⟨a1,a2,a3,a4,a5,a6⟩:=iE.spell s q l r hq h
 rw[CO,al] at a3
 have hlen:=gr vg l a6
 refine⟨fun t ht=> ?_,by omega⟩
 have h1:=j3 (enc:=jm) l t ht
 obtain⟨b1,b2,b3⟩:=a6 t ht
 have h2:(jm t).length=wT t:=s6 t
 unfold wT at h2
 exact⟨by show t.Ck.length≤ _; omega,by show t.B7.length≤ _; omega,fun n hn=>bE (b3 n hn)⟩
def zE:bc:=⟨[],0,0,false⟩
def zA:bh:=⟨[],0,0,[]⟩
def zB:aD:=⟨⟨false,[]⟩,0,0,0⟩
def xM:Pr bc:=nW.bind fun d=>(cM 8).bind fun p=>(cM 2).bind fun e=>mU.bind fun c=>if kN d p e=0 then .ret ⟨d,p,e,c⟩ else .err (kN d p e)
def xN:Pr bh:=nW.bind fun d=>(cM 8).bind fun p=>(cM 2).bind fun e=>tb.bind fun l=>if kO d p e l=0 then .ret ⟨d,p,e,l⟩ else .err (kO d p e l)
def xO (v:Int):Pr aD:=(jl 2).bind fun b=>(cM 4).bind fun t=>if eE b t (-1) (-1) v=0 then .ret ⟨b,t,-1,-1⟩ else .err (eE b t (-1) (-1) v)
def xP (v:Int):Pr aD:=(jl 2).bind fun b=>(cM 4).bind fun t=>(cM 8).bind fun p=>(cM 2).bind fun e=>if eE b t p e v=0 then .ret ⟨b,t,p,e⟩ else .err (eE b t p e v)
theorem B_end:CB gV xM zE:=by
 refine CB.congr (CB.bind (fun _=>True) QT.cb (fun _ _ _ _ _ _ _=>trivial) trivial fun d _=>CB.bind wI Q8.cb (kM (by decide) (by decide)) wi0 fun p hp=>CB.bind wI Q2.cb (kM (by decide) (by decide)) wi0 fun e he=>CB.bind (fun _=>True) xK (fun _ _ _ _ _ _ _=>trivial) trivial fun c _ =>
  rQ (op:=fun st=>(bP st ⟨d,p,e,c⟩).bind fun (x15,st16)=>if x15=true then some (⟨d,p,e,c⟩,st16) else some (zE,st16)) (fun st h=> ?_) (fun st h=> ?_)) (fun st=>rfl)
 ·unfold bP
  rw[aQ,CM]
  simp only
  rw[if_neg h]
  rfl
 ·unfold bP
  rw[aQ,CM]
  simp only
  rw[if_pos h,s9 _ he,CM]
  by_cases hc:kN d p e=0
  ·rw[if_pos hc,if_pos hc]
   rfl
  ·rw[if_neg hc,if_neg hc,cf]
   rfl
theorem B_add:CB gU xN zA:=by
 refine CB.congr (CB.bind (fun _=>True) QT.cb (fun _ _ _ _ _ _ _=>trivial) trivial fun d _=>CB.bind wI Q8.cb (kM (by decide) (by decide)) wi0 fun p hp=>CB.bind wI Q2.cb (kM (by decide) (by decide)) wi0 fun e he=>CB.bind wTl mV xL ⟨(fun t h=>nomatch h),by decide⟩ fun l hl =>
  rQ (op:=fun st=>(bO st ⟨d,p,e,l⟩).bind fun (x15,st16)=>if x15=true then some (⟨d,p,e,l⟩,st16) else some (zA,st16)) (fun st h=> ?_) (fun st h=> ?_)) (fun st=>rfl)
 ·unfold bO
  rw[aQ,CM]
  simp only
  rw[if_neg h]
  rfl
 ·unfold bO
  rw[aQ,CM]
  simp only
  rw[if_pos h,ta _ he hl,CM]
  by_cases hc:kO d p e l=0
  ·rw[if_pos hc,if_pos hc]
   rfl
  ·rw[if_neg hc,if_neg hc,cf]
   rfl
theorem vi (b:Bl) (t p e v:Int) (ht:wI t) (he:wI e):CB (fun st=>(bD st ⟨b,t,p,e⟩ v).bind fun (x15,st16)=>if x15=true then some ((⟨b,t,p,e⟩:aD),st16) else some (zB,st16)) (if eE b t p e v=0 then .ret ⟨b,t,p,e⟩ else .err (eE b t p e v)) zB:=by
 refine rQ (fun st h=> ?_) (fun st h=> ?_)
 ·unfold bD
  rw[aQ,CM]
  simp only
  rw[if_neg h]
  rfl
 ·unfold bD eP
  rw[aQ,CM]
  simp only
  rw[if_pos h,pj _ _ he ht,CM,CM]
  by_cases hc:eE b t p e v=0
  ·rw[if_pos hc,if_pos hc]
   rfl
  ·rw[if_neg hc,if_neg hc,cf]
   rfl
theorem B_beg0 (v:Int) (hv: ¬ v>0):CB (fun st=>da st v) (xO v) zB:=by
 refine CB.congr (CB.bind (fun _=>True) QF2.cb (fun _ _ _ _ _ _ _=>trivial) trivial fun b _=>CB.bind wI Q4.cb (kM (by decide) (by decide)) wi0 fun t ht=>vi b t (-1) (-1) v ht wim) (fun st=> ?_)
 unfold da
 simp only[if_neg hv,CM]
 rfl
theorem B_beg1 (v:Int) (hv:v>0):CB (fun st=>da st v) (xP v) zB:=by
 refine CB.congr (CB.bind (fun _=>True) QF2.cb (fun _ _ _ _ _ _ _=>trivial) trivial fun b _=>CB.bind wI Q4.cb (kM (by decide) (by decide)) wi0 fun t ht=>CB.bind wI Q8.cb (kM (by decide) (by decide)) wi0 fun p hp=>CB.bind wI Q2.cb (kM (by decide) (by decide)) wi0 fun e he=>vi b t p e v ht he) (fun st=> ?_)
 unfold da
 simp only[if_pos hv,Option.bind_assoc,CM]
 rfl
def qR (d:List UInt8):List UInt8:=be (d.length:Int) 2++d
def jf (l:List Top):List UInt8:=be (l.length:Int) 4++aV jm l
def encE (x:bc):List UInt8:=qR x.Cc++(be x.BX 8++(be x.B5 2++iz x.Cw))
def wn (x:bh):List UInt8:=qR x.Cc++(be x.BX 8++(be x.B5 2++jf x.BZ))
def qS (b:Bl):List UInt8:=be (de b) 2++b.data
def vj (x:aD):List UInt8:=qS x.Cc++be x.B8 4
def vk (x:aD):List UInt8:=qS x.Cc++(be x.B8 4++(be x.BX 8++be x.B5 2))
def okTx (d:List UInt8):Prop:=aN (d.length:Int) 2=true∧aT ⟨false,d⟩=true
def okFx (b:Bl):Prop:=aN (de b) 2=true∧aT b=true
def ql (l:List Top):Prop:=aN (l.length:Int) 4=true∧ ∀ t,t∈l→okT t
abbrev spI (k:Nat) (h1:1≤k:=by decide) (h8:k≤8:=by decide):=bB k h1 h8
theorem xQ:Sp xM encE (fun x=>okTx x.Cc∧aN x.BX 8=true∧aN x.B5 2=true∧kN x.Cc x.BX x.B5=0):=by
 refine Sp.congr (Sp.seq (β:=bc) (π:=(·.Cc)) (ok2:=fun x:bc=>aN x.BX 8=true∧aN x.B5 2=true∧kN x.Cc x.BX x.B5=0) gX fun d =>
  Sp.congr (Sp.seq (β:=bc) (π:=(·.BX)) (ok2:=fun x:bc=>aN x.B5 2=true∧kN d x.BX x.B5=0∧x.Cc=d) (spI 8) fun p =>
  Sp.congr (Sp.seq (β:=bc) (π:=(·.B5)) (ok2:=fun x:bc=>kN d p x.B5=0∧x.Cc=d∧x.BX=p) (spI 2) fun e =>
  Sp.congr (Sp.seq (β:=bc) (π:=(·.Cw)) (ok2:=fun x:bc=>kN d p e=0∧x.Cc=d∧x.BX=p∧x.B5=e) vf fun c =>
  (pf (β:=bc) _ _ _).congr (ok':=fun x:bc=>(kN d p e=0∧x.Cc=d∧x.BX=p∧x.B5=e)∧x.Cw=c) (fun x=> ?_) (fun _ _=>rfl)) (fun x=> ?_) (fun _ _=>rfl)) (fun x=> ?_) (fun _ _=>rfl)) (fun x=> ?_) (fun _ _=>rfl)) (fun x=> ?_) (fun x _=>by simp only[encE,qR,Db])
 ·obtain⟨a1,a2,a3,a4⟩:=x
  simp only[bc.mk.injEq]
  exact⟨fun ⟨h,h1,h2,h3,h4⟩=>⟨⟨h,h1,h2,h3⟩,h4⟩,fun ⟨⟨h,h1,h2,h3⟩,h4⟩=>⟨h,h1,h2,h3,h4⟩⟩
 ·exact⟨fun ⟨_,h,h1,h2,h3⟩=>⟨⟨by rw[h3]; exact h,h1,h2⟩,h3⟩,fun ⟨⟨h,h1,h2⟩,h3⟩=>⟨trivial,by rw[← h3]; exact h,h1,h2,h3⟩⟩
 ·exact⟨fun ⟨h0,h,h1,h2⟩=>⟨⟨h0,by rw[h2]; exact h,h1⟩,h2⟩,fun ⟨⟨h0,h,h1⟩,h2⟩=>⟨h0,by rw[← h2]; exact h,h1,h2⟩⟩
 ·exact⟨fun ⟨h0,h,h1,h2⟩=>⟨⟨h0,h,by rw[h2]; exact h1⟩,h2⟩,fun ⟨⟨h0,h,h1⟩,h2⟩=>⟨h0,h,by rw[← h2]; exact h1,h2⟩⟩
 ·exact Iff.rfl
theorem xR:Sp xN wn (fun x=>okTx x.Cc∧aN x.BX 8=true∧aN x.B5 2=true∧ql x.BZ∧kO x.Cc x.BX x.B5 x.BZ=0):=by
 refine Sp.congr (Sp.seq (β:=bh) (π:=(·.Cc)) (ok2:=fun x:bh=>aN x.BX 8=true∧aN x.B5 2=true∧ql x.BZ∧kO x.Cc x.BX x.B5 x.BZ=0) gX fun d =>
  Sp.congr (Sp.seq (β:=bh) (π:=(·.BX)) (ok2:=fun x:bh=>aN x.B5 2=true∧ql x.BZ∧kO d x.BX x.B5 x.BZ=0∧x.Cc=d) (spI 8) fun p =>
  Sp.congr (Sp.seq (β:=bh) (π:=(·.B5)) (ok2:=fun x:bh=>ql x.BZ∧kO d p x.B5 x.BZ=0∧x.Cc=d∧x.BX=p) (spI 2) fun e =>
  Sp.congr (Sp.seq (β:=bh) (π:=(·.BZ)) (ok2:=fun x:bh=>kO d p e x.BZ=0∧x.Cc=d∧x.BX=p∧x.B5=e) iE fun l =>
  (pf (β:=bh) _ _ _).congr (ok':=fun x:bh=>(kO d p e x.BZ=0∧x.Cc=d∧x.BX=p∧x.B5=e)∧x.BZ=l) (fun x=> ?_) (fun _ _=>rfl)) (fun x=> ?_) (fun _ _=>rfl)) (fun x=> ?_) (fun _ _=>rfl)) (fun x=> ?_) (fun _ _=>rfl)) (fun x=> ?_) (fun x _=>by simp only[wn,qR,jf,Db])
 ·obtain⟨a1,a2,a3,a4⟩:=x
  simp only[bh.mk.injEq]
  exact⟨fun ⟨h,h1,h2,h3,h4⟩=>⟨⟨by rw[h4]; exact h,h1,h2,h3⟩,h4⟩,fun ⟨⟨h,h1,h2,h3⟩,h4⟩=>⟨by rw[← h4]; exact h,h1,h2,h3,h4⟩⟩
 ·exact⟨fun ⟨h0,h,h1,h2,h3⟩=>⟨⟨h0,by rw[h3]; exact h,h1,h2⟩,h3⟩,fun ⟨⟨h0,h,h1,h2⟩,h3⟩=>⟨h0,by rw[← h3]; exact h,h1,h2,h3⟩⟩
 ·exact⟨fun ⟨h0,hk,h,h1,h2⟩=>⟨⟨h0,hk,by rw[h2]; exact h,h1⟩,h2⟩,fun ⟨⟨h0,hk,h,h1⟩,h2⟩=>⟨h0,hk,by rw[← h2]; exact h,h1,h2⟩⟩
 ·exact⟨fun ⟨h0,h,hk,h1,h2⟩=>⟨⟨h0,h,hk,by rw[h2]; exact h1⟩,h2⟩,fun ⟨⟨h0,h,hk,h1⟩,h2⟩=>⟨h0,h,hk,by rw[← h2]; exact h1,h2⟩⟩
 ·exact Iff.rfl
theorem zn (v:Int):Sp (xP v) vk (fun x=>okFx x.Cc∧aN x.B8 4=true∧aN x.BX 8=true∧aN x.B5 2=true∧eE x.Cc x.B8 x.BX x.B5 v=0):=by
 refine Sp.congr (Sp.seq (β:=aD) (π:=(·.Cc)) (ok2:=fun x:aD=>aN x.B8 4=true∧aN x.BX 8=true∧aN x.B5 2=true∧eE x.Cc x.B8 x.BX x.B5 v=0) (eW 2 (by decide) (by decide)) fun b =>
  Sp.congr (Sp.seq (β:=aD) (π:=(·.B8)) (ok2:=fun x:aD=>aN x.BX 8=true∧aN x.B5 2=true∧eE b x.B8 x.BX x.B5 v=0∧x.Cc=b) (spI 4) fun t =>
  Sp.congr (Sp.seq (β:=aD) (π:=(·.BX)) (ok2:=fun x:aD=>aN x.B5 2=true∧eE b t x.BX x.B5 v=0∧x.Cc=b∧x.B8=t) (spI 8) fun p =>
  Sp.congr (Sp.seq (β:=aD) (π:=(·.B5)) (ok2:=fun x:aD=>eE b t p x.B5 v=0∧x.Cc=b∧x.B8=t∧x.BX=p) (spI 2) fun e =>
  (pf (β:=aD) _ _ _).congr (ok':=fun x:aD=>(eE b t p x.B5 v=0∧x.Cc=b∧x.B8=t∧x.BX=p)∧x.B5=e) (fun x=> ?_) (fun _ _=>rfl)) (fun x=> ?_) (fun _ _=>rfl)) (fun x=> ?_) (fun _ _=>rfl)) (fun x=> ?_) (fun _ _=>rfl)) (fun x=> ?_) (fun x _=>by simp only[vk,qS,Db])
 ·obtain⟨a1,a2,a3,a4⟩:=x
  simp only[aD.mk.injEq]
  exact⟨fun ⟨h,h1,h2,h3,h4⟩=>⟨⟨by rw[h4]; exact h,h1,h2,h3⟩,h4⟩,fun ⟨⟨h,h1,h2,h3⟩,h4⟩=>⟨by rw[← h4]; exact h,h1,h2,h3,h4⟩⟩
 ·exact⟨fun ⟨h0,h,h1,h2,h3⟩=>⟨⟨h0,by rw[h3]; exact h,h1,h2⟩,h3⟩,fun ⟨⟨h0,h,h1,h2⟩,h3⟩=>⟨h0,by rw[← h3]; exact h,h1,h2,h3⟩⟩
 ·exact⟨fun ⟨h0,hk,h,h1,h2⟩=>⟨⟨h0,hk,by rw[h2]; exact h,h1⟩,h2⟩,fun ⟨⟨h0,hk,h,h1⟩,h2⟩=>⟨h0,hk,by rw[← h2]; exact h,h1,h2⟩⟩
 ·exact⟨fun ⟨h0,h,hk,h1,h2⟩=>⟨⟨h0,h,hk,by rw[h2]; exact h1⟩,h2⟩,fun ⟨⟨h0,h,hk,h1⟩,h2⟩=>⟨h0,h,hk,by rw[← h2]; exact h1,h2⟩⟩
 ·exact Iff.rfl
theorem zo (v:Int):Sp (xO v) vj (fun x=>okFx x.Cc∧aN x.B8 4=true∧eE x.Cc x.B8 x.BX x.B5 v=0∧x.BX= -1∧x.B5= -1):=by
 refine Sp.congr (Sp.seq (β:=aD) (π:=(·.Cc)) (ok2:=fun x:aD=>aN x.B8 4=true∧eE x.Cc x.B8 (-1) (-1) v=0∧x.BX= -1∧x.B5= -1) (eW 2 (by decide) (by decide)) fun b =>
  Sp.congr (Sp.seq (β:=aD) (π:=(·.B8)) (ok2:=fun x:aD=>eE b x.B8 (-1) (-1) v=0∧x.Cc=b∧x.BX= -1∧x.B5= -1) (spI 4) fun t =>
  (pf (β:=aD) _ _ _).congr (ok':=fun x:aD=>(eE b x.B8 (-1) (-1) v=0∧x.Cc=b∧x.BX= -1∧x.B5= -1)∧x.B8=t) (fun x=> ?_) (fun _ _=>rfl)) (fun x=> ?_) (fun _ _=>rfl)) (fun x=> ?_) (fun x _=>by simp only[vj,qS,Db])
 ·obtain⟨a1,a2,a3,a4⟩:=x
  simp only[aD.mk.injEq]
  exact⟨fun ⟨h,h1,h2,h3,h4⟩=>⟨⟨by rw[h2]; exact h,h1,h3,h4⟩,h2⟩,fun ⟨⟨h,h1,h3,h4⟩,h2⟩=>⟨by rw[← h2]; exact h,h1,h2,h3,h4⟩⟩
 ·exact⟨fun ⟨h0,h,h1,h2,h3⟩=>⟨⟨h0,by rw[h1]; exact h,h2,h3⟩,h1⟩,fun ⟨⟨h0,h,h2,h3⟩,h1⟩=>⟨h0,by rw[← h1]; exact h,h1,h2,h3⟩⟩
 ·exact⟨fun ⟨h0,h,h1,h2,h3⟩=>⟨h0,h,by rw[h2,h3]; exact h1,h2,h3⟩,fun ⟨h0,h,h1,h2,h3⟩=>⟨h0,h,by rw[h2,h3] at h1; exact h1,h2,h3⟩⟩
theorem mf {d:List UInt8} (h:dc d=true):d.length≤32767∧d ≠ []:=by
 unfold dc at h
 simp only[Bool.and_eq_true,decide_eq_true_eq,Bool.not_eq_true'] at h
 refine⟨by omega,fun h0=> ?_⟩
 rw[h0] at h
 exact absurd h.1 (by decide)
theorem pk {p e:Int} (h:who p e=true) (hp:wI p):aN p 8=true∧aN e 2=true:=by
 unfold who at h
 have h:=of_decide_eq_true h
 exact⟨by rw[ut]; exact CP hp,by rw[me]; exact CP (by omega)⟩
theorem vl (t:List UInt8) (b:Bool) (ht:t.length≤1000000):e6 (t,0) b=some (t++iz b,0):=by
 unfold e6
 cases b with
 | true =>
  rw[if_pos rfl,nr _ _ ⟨by decide,by decide,by simp only; omega⟩]
  rfl
 | false =>
  rw[if_neg (by decide),nr _ _ ⟨by decide,by decide,by simp only; omega⟩]
  rfl
theorem rU (t:List UInt8) (e:Int):fT (t,0) e=some (if e=0 then (false,(t,0)) else (true,(t,e))):=by
 unfold fT
 by_cases h:e=0
 ·rw[if_pos h,if_pos h,CM,if_pos h]
 ·rw[if_neg h,if_neg h,np,CM,CM,if_neg h]
  rfl
theorem xS (x:bc) (t:List UInt8) (hp:wI x.BX) (he:wI x.B5) (ht:t.length≤900000):fq (t,0) x=some (if kN x.Cc x.BX x.B5=0 then (t++encE x,0) else (t,kN x.Cc x.BX x.B5)):=by
 unfold fq eO
 rw[s9 x he,CM,rU,CM]
 by_cases hc:kN x.Cc x.BX x.B5=0
 ·rw[if_pos hc,if_pos hc,CM]
  simp only
  have hk:dc x.Cc=true:=by
   unfold kN at hc
   split at hc
   ·rename_i h; exact h
   ·exact absurd hc (by decide)
  have hw:who x.BX x.B5=true:=by
   unfold kN at hc
   rw[if_pos hk] at hc
   split at hc
   ·rename_i h; exact h
   ·exact absurd hc (by decide)
  obtain⟨k1,_⟩:=mf hk
  obtain⟨f1,f2⟩:=pk hw hp
  rw[if_neg (by decide),mc k1 (by omega),CM,bR f1 (by simp only[CO,al]; omega),CM,bR f2 (by simp only[CO,al]; omega),CM,vl _ _ (by simp only[CO,al]; omega),CM]
  simp only[encE,qR,CV]
  rfl
 ·rw[if_neg hc,if_neg hc,CM]
  rfl
theorem wo {l:List Top} (h:pi l=0):l ≠ []∧rR l=true:=by
 unfold pi at h
 split at h
 ·exact absurd h (by decide)
 ·rename_i h1
  split at h
  ·rename_i h2
   exact⟨fun h0=>h1 (by rw[h0]; rfl),h2⟩
  ·exact absurd h (by decide)
theorem wq {d:List UInt8} {p e:Int} {l:List Top} (hc:kO d p e l=0):dc d=true∧who p e=true∧pi l=0:=by
 unfold kO at hc
 split at hc
 ·rename_i h1
  split at hc
  ·rename_i h2; exact⟨h1,h2,hc⟩
  ·exact absurd hc (by decide)
 ·exact absurd hc (by decide)
theorem xT (x:bh) (t:List UInt8) (hp:wI x.BX) (he:wI x.B5) (hl:wTl x.BZ) (hw2:wTs x.BZ≤2000) (ht:t.length≤700000):fp (t,0) x=some (if kO x.Cc x.BX x.B5 x.BZ=0 then (t++wn x,0) else (t,kO x.Cc x.BX x.B5 x.BZ)):=by
 unfold fp eN
 rw[ta x he hl,CM,rU,CM]
 by_cases hc:kO x.Cc x.BX x.B5 x.BZ=0
 ·rw[if_pos hc,if_pos hc,CM]
  simp only
  obtain⟨hk,hw,hr⟩:=wq hc
  obtain⟨k1,_⟩:=mf hk
  obtain⟨f1,f2⟩:=pk hw hp
  rw[if_neg (by decide),mc k1 (by omega),CM,bR f1 (by simp only[CO,al]; omega),CM,bR f2 (by simp only[CO,al]; omega),CM,
   md x.BZ _ (vh (wo hr).2 hw2) (by simp only[CO,al]; omega) hw2,CM]
  simp only[wn,qR,jf,CV]
  rfl
 ·rw[if_neg hc,if_neg hc,CM]
  rfl
theorem uv {b:Bl} {t p e v:Int} (hc:eE b t p e v=0):aT b=true∧(b.null=true∨dc b.data=true)∧(0≤t∧t≤2147483647)∧(p= -1∧e= -1∨v>0∧who p e=true):=by
 unfold eE at hc
 split at hc
 ·rename_i h1
  split at hc
  ·rename_i h2
   simp only[Bool.and_eq_true,Bool.or_eq_true,tmB,nobB,decide_eq_true_eq] at h1 h2
   exact⟨h1.1,h1.2,h2.1,h2.2⟩
  ·exact absurd hc (by decide)
 ·exact absurd hc (by decide)
theorem zp {b:Bl} (hb:aT b=true) (h:b.null=true∨dc b.data=true):aN (de b) 2=true∧b.data.length≤32767:=by
 unfold de
 rcases h with h | h
 ·have:b.data = []:=by unfold aT at hb; rw[h] at hb; simpa using hb
  rw[if_pos h,this]
  exact⟨by decide,by decide⟩
 ·obtain⟨k1,_⟩:=mf h
  refine⟨?_,k1⟩
  split
  ·decide
  ·rw[me]; exact CP (by omega)
def ws (v:Int) (x:aD):List UInt8:=if v>0 then vk x else vj x
theorem pm (x:aD) (v:Int) (t:List UInt8) (hp:wI x.BX) (he:wI x.B5) (hm:wI x.B8) (ht:t.length≤900000):en (t,0) x v=some (if eE x.Cc x.B8 x.BX x.B5 v=0 then (t++ws v x,0) else (t,eE x.Cc x.B8 x.BX x.B5 v)):=by
 unfold en
 rw[pj x v he hm,CM,rU,CM]
 by_cases hc:eE x.Cc x.B8 x.BX x.B5 v=0
 ·rw[if_pos hc,if_pos hc]
  simp only
  obtain⟨h1,h2,h3,h4⟩:=uv hc
  obtain⟨f0,k1⟩:=zp h1 h2
  have f4:aN x.B8 4=true:=by rw[e9]; exact CP (by omega)
  have f1:aN x.BX 8=true:=by rw[ut]; exact CP hp
  have f2:aN x.B5 2=true:=by
   rcases h4 with h4 | h4
   ·rw[h4.2]; decide
   ·exact (pk h4.2 hp).2
  rw[if_neg (by decide),fY f0 h1 (by omega),CM,bR f4 (by simp only[CO,al]; omega),CM]
  unfold ws
  by_cases hv:v>0
  ·rw[if_pos hv,if_pos hv,bR f1 (by simp only[CO,al]; omega),CM,bR f2 (by simp only[CO,al]; omega),CM,CM]
   simp only[vk,qS,CV]
   rfl
  ·rw[if_neg hv,if_neg hv,CM]
   simp only[vj,qS,CV]
   rfl
 ·rw[if_neg hc,if_neg hc]
  rfl
def Pr.map {α β:Type} (g:α→β) (p:Pr α):Pr β:=p.bind fun x=> .ret (g x)
theorem Sp.map {α β:Type} {p:Pr α} {enc:α→List UInt8} {ok:α→Prop} (g:α→β) (g':β→α) (hg: ∀ x,g' (g x)=x) (h:Sp p enc ok):Sp (p.map g) (fun y=>enc (g' y)) (fun y=>ok (g' y)∧g (g' y)=y):=by
 refine⟨fun s q y r hq hp=> ?_,fun s t q y hq hy hd=> ?_⟩
 ·obtain⟨x,m,h1,h2⟩:=Pr.bind_ok hp
  injection h2 with h2
  obtain⟨rfl,rfl⟩:=C6 h2
  obtain⟨a1,a2,a3,a4,a5⟩:=h.spell s q x m hq h1
  rw[hg x]
  exact⟨a1,a2,a3,a4,a5,rfl⟩
 ·have:=h.back s t q (g' y) hq hy.1 hd
  rw[Pr.map,Pr.bind_of this,hy.2]
  rfl
def chkM (v:Int) (m:aA):Int:=if (who m.BX m.B5 && (tmB m.Ci && !(decide (v=0) && decide (m.Ci≠0))))=true then pi m.BZ else 11
def nI (v:Int):List aA→Int
 | []=>0
 | m::l=>if chkM v m=0 then nI v l else chkM v m
def lO (v:Int) (l:List aA):Int:=if l.length=0 then 10 else nI v l
def okW (m:aA):Prop:=wI m.B5∧wI m.Ci∧wTl m.BZ
theorem wt (v:Int) (m:aA) (h:okW m):et m v=some (chkM v m):=by
 obtain⟨h1,h2,h3⟩:=h
 unfold et chkM
 rw[rS _ _ h1,s8 _ h3,CM]
 have hc:(if m.Ci<0 then some true else ((fF m.Ci 4).bind fun x18=>if x18=true then (if v=0 then (if m.Ci>0 then some true else some false) else some false) else some true))=some (!(tmB m.Ci && !(decide (v=0) && decide (m.Ci≠0)))):=by
  unfold tmB
  by_cases a:m.Ci<0
  ·rw[if_pos a,CS (by omega)]; rfl
  ·rw[if_neg a,dS _ _ h2,e9,CM]
   by_cases b:m.Ci≤2147483647
   ·rw[if_pos (CP (by omega)),CP (by omega)]
    by_cases c:v=0
    ·rw[if_pos c,CP c]
     by_cases d:m.Ci>0
     ·rw[if_pos d,CP (by omega)]; rfl
     ·rw[if_neg d,CS (by omega)]; rfl
    ·rw[if_neg c,CS c]; rfl
   ·rw[if_neg (by simp; omega),CS (by omega)]; rfl
 rw[hc]
 cases who m.BX m.B5 <;> cases (tmB m.Ci && !(decide (v=0) && decide (m.Ci≠0))) <;> rfl
theorem nX (v:Int) (y:Int): ∀ l:List aA,(∀ m,m∈l→okW m)→dr v l y=some (if nI v l=0 then .go y else .ret (nI v l))
 | [],_=>rfl
 | m::l,h=>by
  rw[dr,wt v m (h m (.head _)),CM,nI]
  by_cases hc:chkM v m=0
  ·rw[if_pos hc,if_pos hc,nX v y l (fun z hz=>h z (.tail _ hz))]
  ·rw[if_neg hc,if_neg hc,if_neg hc]
theorem xU (v:Int) (l:List aA) (h: ∀ m,m∈l→okW m):fC l v=some (lO v l):=by
 unfold fC lO
 by_cases h0:l.length=0
 ·rw[if_pos (by omega),if_pos h0]
 ·rw[if_neg (by omega),if_neg h0,nX v 0 l h]
  by_cases hc:nI v l=0
  ·rw[if_pos hc,hc]; rfl
  ·rw[if_neg hc]; rfl
def qT (v:Int):Pr aA:=(cM 8).bind fun p=>(cM 2).bind fun e=>mU.bind fun c=>tb.bind fun l=>(if v>0 then cM 4 else .ret 0).bind fun k=> .ret ⟨p,e,c,l,k⟩
def jM (v:Int) (m:aA):List UInt8:=be m.BX 8++(be m.B5 2++(iz m.Cw++(jf m.BZ++(if v>0 then be m.Ci 4 else []))))
def okM (v:Int) (m:aA):Prop:=aN m.BX 8=true∧aN m.B5 2=true∧ql m.BZ∧(if v>0 then aN m.Ci 4=true else m.Ci=0)
theorem Sp_co (v:Int):Sp (if v>0 then cM 4 else Pr.ret 0) (fun k=>if v>0 then be k 4 else []) (fun k=>if v>0 then aN k 4=true else k=0):=by
 by_cases hv:v>0
 ·simp only[if_pos hv]
  exact spI 4
 ·simp only[if_neg hv]
  exact xD 0
theorem zq (v:Int):Sp (qT v) (jM v) (okM v):=by
 refine Sp.congr (Sp.seq (β:=aA) (π:=(·.BX)) (ok2:=fun x:aA=>aN x.B5 2=true∧ql x.BZ∧(if v>0 then aN x.Ci 4=true else x.Ci=0)) (spI 8) fun p =>
  Sp.congr (Sp.seq (β:=aA) (π:=(·.B5)) (ok2:=fun x:aA=>ql x.BZ∧(if v>0 then aN x.Ci 4=true else x.Ci=0)∧x.BX=p) (spI 2) fun e =>
  Sp.congr (Sp.seq (β:=aA) (π:=(·.Cw)) (ok2:=fun x:aA=>ql x.BZ∧(if v>0 then aN x.Ci 4=true else x.Ci=0)∧x.BX=p∧x.B5=e) vf fun c =>
  Sp.congr (Sp.seq (β:=aA) (π:=(·.BZ)) (ok2:=fun x:aA=>(if v>0 then aN x.Ci 4=true else x.Ci=0)∧x.BX=p∧x.B5=e∧x.Cw=c) iE fun l =>
  Sp.congr (Sp.seq (β:=aA) (π:=(·.Ci)) (ok2:=fun x:aA=>x.BX=p∧x.B5=e∧x.Cw=c∧x.BZ=l) (Sp_co v) fun k =>
  (xD (β:=aA) _).congr (ok':=fun x:aA=>(x.BX=p∧x.B5=e∧x.Cw=c∧x.BZ=l)∧x.Ci=k) (fun x=> ?_) (fun _ _=>rfl)) (fun x=> ?_) (fun _ _=>rfl)) (fun x=> ?_) (fun _ _=>rfl)) (fun x=> ?_) (fun _ _=>rfl)) (fun x=> ?_) (fun _ _=>rfl)) (fun x=> ?_) (fun x _=>by simp only[jM,jf,Db])
 ·obtain⟨a1,a2,a3,a4,a5⟩:=x
  simp only[aA.mk.injEq]
  exact⟨fun ⟨h,h1,h2,h3,h4⟩=>⟨⟨h,h1,h2,h3⟩,h4⟩,fun ⟨⟨h,h1,h2,h3⟩,h4⟩=>⟨h,h1,h2,h3,h4⟩⟩
 ·exact⟨fun ⟨h,h1,h2,h3,h4⟩=>⟨⟨h,h1,h2,h3⟩,h4⟩,fun ⟨⟨h,h1,h2,h3⟩,h4⟩=>⟨h,h1,h2,h3,h4⟩⟩
 ·exact⟨fun ⟨h,h1,h2,h3,h4⟩=>⟨⟨h,h1,h2,h3⟩,h4⟩,fun ⟨⟨h,h1,h2,h3⟩,h4⟩=>⟨h,h1,h2,h3,h4⟩⟩
 ·exact⟨fun ⟨_,h,h1,h2,h3⟩=>⟨⟨h,h1,h2⟩,h3⟩,fun ⟨⟨h,h1,h2⟩,h3⟩=>⟨trivial,h,h1,h2,h3⟩⟩
 ·exact⟨fun ⟨h,h1,h2,h3⟩=>⟨⟨h,h1,h2⟩,h3⟩,fun ⟨⟨h,h1,h2⟩,h3⟩=>⟨h,h1,h2,h3⟩⟩
 ·exact Iff.rfl
theorem zr (v:Int) (m:aA) (h:okM v m):15≤(jM v m).length:=by
 have:(iz m.Cw).length=1:=al _ _
 simp only[jM,jf,CO,al]
 omega
theorem tc (v:Int) (m:aA):15+wTs m.BZ≤(jM v m).length∧(jM v m).length≤19+wTs m.BZ:=by
 have:(iz m.Cw).length=1:=al _ _
 have h2:=e7 m.BZ
 simp only[jM,jf,CO,al,h2]
 split <;> simp only[al,DJ] <;> omega
def qU (v:Int) (st11:I):Option (Option aA×I):=(bW st11 8).bind fun (x20,st21)=>(bW st21 2).bind fun (x23,st24)=>(d7 st24).bind fun (x26,st27)=>(bV st27).bind fun (x30,st33)=>(if v>0 then ((bW st33 4).bind fun (x43,st44)=>some (x43,st44)) else some (0,st33)).bind fun (y39,st40)=>if st40.err=0 then some (some ⟨x20,x23,x26,x30,y39⟩,st40) else some (none,st40)
theorem B_co (v:Int):CB (fun st33=>if v>0 then ((bW st33 4).bind fun (x43,st44)=>some (x43,st44)) else some (0,st33)) (if v>0 then cM 4 else Pr.ret 0) 0:=by
 by_cases hv:v>0
 ·simp only[if_pos hv]
  refine CB.congr Q4.cb (fun st=> ?_)
  cases bW st 4 <;> rfl
 ·simp only[if_neg hv]
  exact⟨fun _ _=>rfl,fun s q _ hq=> .inr ⟨0,q,rfl,rfl,Dc _,hq⟩⟩
theorem w_co (v:Int): ∀ (s:List UInt8) (q:Nat) (a:Int) (r:Nat),s.length≤1000000→q≤s.length→(if v>0 then cM 4 else Pr.ret 0) s q= .ok (a,r)→wI a:=by
 intro s q a r hl hq h
 by_cases hv:v>0
 ·rw[if_pos hv] at h
  exact kM (by decide) (by decide) s q a r hl hq h
 ·rw[if_neg hv] at h
  injection h with h
  rw[← (C6 h).1]
  exact wi0
theorem zt (v:Int):CB (qU v) ((qT v).map some) none:=by
 have h:CB (qU v) ((cM 8).bind fun p=>(cM 2).bind fun e=>mU.bind fun c=>tb.bind fun l=>(if v>0 then cM 4 else .ret 0).bind fun k=> .ret (some ⟨p,e,c,l,k⟩)) none:=by
  refine CB.congr (CB.bind wI Q8.cb (kM (by decide) (by decide)) wi0 fun p hp=>CB.bind wI Q2.cb (kM (by decide) (by decide)) wi0 fun e he=>CB.bind (fun _=>True) xK (fun _ _ _ _ _ _ _=>trivial) trivial fun c _=>CB.bind wTl mV xL ⟨(fun t h=>nomatch h),by decide⟩ fun l hl=>CB.bind wI (B_co v) (w_co v) wi0 fun k hk =>
   (?_:CB (fun st40:I=>if st40.err=0 then some (some (⟨p,e,c,l,k⟩:aA),st40) else some ((none:Option aA),st40)) (Pr.ret (some (⟨p,e,c,l,k⟩:aA))) none)) (fun st=>rfl)
  exact⟨fun st h=>if_neg h,fun s q _ hq=> .inr ⟨_,q,rfl,rfl,Dc _,hq⟩⟩
 refine h.pr ?_
 funext s q
 unfold qT Pr.map Pr.bind
 cases cM 8 s q with
 | error e=>rfl
 | ok x =>
  simp only
  cases cM 2 s x.2 with
  | error e=>rfl
  | ok x =>
   simp only
   cases mU s x.2 with
   | error e=>rfl
   | ok x =>
    simp only
    cases tb s x.2 with
    | error e=>rfl
    | ok x =>
     simp only
     cases (if v>0 then cM 4 else Pr.ret 0) s x.2 <;> rfl
theorem Pr.map_err {α β:Type} {p:Pr α} {g:α→β} {s:List UInt8} {q:Nat} {e:Int} (h:p.map g s q= .error e):p s q= .error e:=by
 unfold Pr.map Pr.bind at h
 cases hp:p s q with
 | error e' =>
  rw[hp] at h
  injection h with h
  rw[h]
 | ok x=>rw[hp] at h; exact nomatch h
theorem Pr.map_ok {α β:Type} {p:Pr α} {g:α→β} {s:List UInt8} {q r:Nat} {y:β} (h:p.map g s q= .ok (y,r)): ∃ a,p s q= .ok (a,r)∧y=g a:=by
 unfold Pr.map Pr.bind at h
 cases hp:p s q with
 | error e'=>rw[hp] at h; exact nomatch h
 | ok x =>
  rw[hp] at h
  injection h with h
  obtain⟨rfl,rfl⟩:=C6 h
  exact⟨x.1,rfl,rfl⟩
theorem uw {γ:Type} (K:aA→I→Option γ) (D:I→Option γ) (v:Int) (st:I) :
 ((bW st 8).bind fun (x20,st21)=>(bW st21 2).bind fun (x23,st24)=>(d7 st24).bind fun (x26,st27)=>(bV st27).bind fun (x30,st33)=>(if v>0 then ((bW st33 4).bind fun (x43,st44)=>some (x43,st44)) else some (0,st33)).bind fun (y39,st40)=>(fa st40).bind fun (x46,st47)=>if x46=0 then K ⟨x20,x23,x26,x30,y39⟩ st47 else D st47) =
 (qU v st).bind fun (o,st47)=>match o with
  | some m=>K m st47
  | none=>D st47:=by
 unfold qU
 cases bW st 8 with
 | none=>rfl
 | some x =>
  obtain⟨a1,s1⟩:=x
  simp only[CM]
  cases bW s1 2 with
  | none=>rfl
  | some x =>
   obtain⟨a2,s2⟩:=x
   simp only[CM]
   cases d7 s2 with
   | none=>rfl
   | some x =>
    obtain⟨a3,s3⟩:=x
    simp only[CM]
    cases bV s3 with
    | none=>rfl
    | some x =>
     obtain⟨a4,s4⟩:=x
     simp only[CM]
     cases (if v>0 then ((bW s4 4).bind fun (x43,st44)=>some (x43,st44)) else some (0,s4)) with
     | none=>rfl
     | some x =>
      obtain⟨a5,s5⟩:=x
      simp only[CM,aQ]
      by_cases he:s5.err=0
      ·rw[if_pos he,if_pos he,CM]
      ·rw[if_neg he,if_neg he,CM]
theorem j4 (v n:Int) (fuel:Nat) (y4 acc:List aA) (k:Nat) (st:I) (hk:k≤1000000) (ha:acc.length≤1000000) :
 cm v n (fuel+1) y4 acc k st=if (k:Int)<n then (qU v st).bind fun (o,st47)=>match o with
  | some m=>cm v n fuel y4 (acc ++ [m]) (k+1) st47
  | none=>some (.ret ([],st47)) else some (.go (y4,acc,k,st)):=by
 rw[cm]
 by_cases h:(k:Int)<n
 case neg=>rw[if_neg h,if_neg h]
 rw[if_pos h,if_pos h]
 refine (uw (fun m st47=>if (acc.length+1)*56≤140737488355328 then (if -9223372036854775808≤((k:Int)+1)∧((k:Int)+1)≤9223372036854775807 then cm v n fuel y4 (acc ++ [m]) (k+1) st47 else none) else none) (fun st47=>some (.ret ([],st47))) v st).trans ?_
 cases qU v st with
 | none=>rfl
 | some x =>
  obtain⟨o,s⟩:=x
  rw[CM,CM]
  cases o with
  | none=>rfl
  | some m =>
   show (if (acc.length+1)*56≤140737488355328 then _ else _)= _
   rw[if_pos (by omega),if_pos (by omega)]
theorem po (v n:Int) (s:List UInt8) (hs:s.length≤1000000) (y:List aA): ∀ (m fuel k:Nat) (acc:List aA) (q:Nat),((k+m:Nat):Int)=n→m<fuel→q≤s.length→acc.length=k→k+m≤1000000 →
 (∃ e st,fM (qT v) m s q= .error e∧e≠0∧st.err=e∧cm v n fuel y acc k ⟨s.drop q,q,0⟩=some (.ret ([],st)))∨(∃ l r,fM (qT v) m s q= .ok (l,r)∧cm v n fuel y acc k ⟨s.drop q,q,0⟩=some (.go (y,acc++l,k+m,⟨s.drop r,r,0⟩))∧q≤r∧r≤s.length)
 | 0,fuel+1,k,acc,q,hn,hf,hq,ha,hk=>by
  refine .inr ⟨[],q,rfl,?_,Dc _,hq⟩
  rw[j4 _ _ _ _ _ _ _ (by omega) (by omega),if_neg (by omega),Db,Nat.add_zero]
 | m+1,fuel+1,k,acc,q,hn,hf,hq,ha,hk=>by
  rw[j4 _ _ _ _ _ _ _ (by omega) (by omega),if_pos (by omega)]
  rcases (zt v).run s q hs hq with⟨e,st,p1,g1,x1,y1⟩ | ⟨o,r,p1,g1,n1,l1⟩
  ·refine .inl ⟨e,st,?_,by rw[← x1]; exact y1,x1,?_⟩
   ·rw[fM,Pr.bind_err (Pr.map_err p1)]
   ·rw[g1]
    rfl
  ·obtain⟨a,p2,rfl⟩:=Pr.map_ok p1
   have ih:=po v n s hs y m fuel (k+1) (acc ++ [a]) r (by omega) (by omega) l1 (by rw[CO,Ek,ha]) (by omega)
   rw[g1,CM]
   simp only
   rcases ih with⟨e,st,h1,h2,h3,h4⟩ | ⟨l,r',h1,h2,h3,h4⟩
   ·exact .inl ⟨e,st,by rw[fM,Pr.bind_of p2,Pr.bind_err h1],h2,h3,h4⟩
   ·refine .inr ⟨a::l,r',by rw[fM,Pr.bind_of p2,Pr.bind_of h1]; rfl,?_,by omega,h4⟩
    rw[h2,CV,show k+1+m=k+(m+1) by omega]
    rfl
def pMs (v:Int):Pr (List aA):=gM 4 15 (qT v)
def pp (v:Int) (l:List aA):List UInt8:=be (l.length:Int) 4++aV (jM v) l
theorem Sp_ms (v:Int):Sp (pMs v) (pp v) (fun l=>aN (l.length:Int) 4=true∧ ∀ m,m∈l→okM v m):=pe 4 15 (by decide) (by decide) (zq v) (zr v)
def kP (v:Int):Pr (List aA):=(pMs v).bind fun l=>if lO v l=0 then .ret l else .err (lO v l)
theorem td (v:Int):Sp (kP v) (pp v) (fun l=>(aN (l.length:Int) 4=true∧ ∀ m,m∈l→okM v m)∧lO v l=0):=by
 refine Sp.congr (Sp.seq (β:=List aA) (π:=id) (ok2:=fun l:List aA=>lO v l=0) (Sp_ms v) fun l=>(pf (β:=List aA) _ _ _).congr (ok':=fun x:List aA=>lO v x=0∧id x=l) (fun x=> ?_) (fun _ _=>rfl)) (fun x=>Iff.rfl) (fun x _=>by rw[Db]; rfl)
 exact⟨fun ⟨h1,h2⟩=>⟨by rw[h2]; exact h1,h2⟩,fun ⟨h1,h2⟩=>⟨by have h2:x=l:=h2; rw[← h2]; exact h1,h2⟩⟩
theorem te {l:List Top} (h:ql l) (hw:wTs l≤1000000):wTl l:=by
 have hn:=lh l
 refine⟨fun t ht=> ?_,by omega⟩
 have hm:=ou _ _ ht
 unfold wT at hm
 obtain⟨b1,b2,b3⟩:=h.2 t ht
 exact⟨by show t.Ck.length≤ _; omega,by show t.B7.length≤ _; omega,fun n hn=>bE (b3 n hn)⟩
theorem okM_co {v:Int} {m:aA} (h:okM v m):wI m.Ci:=by
 have:=h.2.2.2
 split at this
 ·exact bE this
 ·rw[this]; exact wi0
theorem okM_W {v:Int} {m:aA} (h:okM v m) (hw:wTs m.BZ≤1000000):okW m:=⟨bE h.2.1,okM_co h,te h.2.2.1 hw⟩
theorem qV (v:Int) (l:List aA) (m:aA) (hm:m∈l):wTs m.BZ≤(pp v l).length:=by
 have h1:=j3 (enc:=jM v) l m hm
 have h2:=(tc v m).1
 rw[pp,CO]
 omega
theorem xV (l:List UInt8) (q:Nat) (e:Int):bg ⟨l,q,0⟩ e=some (⟨l,q,e⟩:I):=by rw[cf]; rfl
theorem vm (v:Int):CB (fun st=>dW st v) (kP v) []:=by
 refine⟨fun st h=> ?_,fun s q hs hq=> ?_⟩
 ·show dW st v= _
  unfold dW
  rw[iQ h ⟨by decide,by decide⟩ ⟨by decide,by decide⟩,CM]
  simp only
  rw[show ((0:Int).toNat+1)=0+1 from rfl,j4 _ _ _ _ _ _ _ (by decide) (by decide),if_neg (by decide),CM]
  simp only
  rw[aQ,CM]
  simp only
  rw[if_neg h]
 ·show (∃ e st,kP v s q= _∧dW _ v= _∧ _∧ _)∨(∃ a r,kP v s q= _∧dW _ v= _∧ _∧ _)
  unfold dW
  rcases (mT 4 15 (by decide) (by decide) 4 15 rfl rfl (by decide)).run s q hq with⟨e,st,p1,g1,x1,y1⟩ | ⟨n,r,p1,g1,n1,l1⟩
  ·refine .inl ⟨e,st,?_,?_,x1,y1⟩
   ·rw[kP,Pr.bind_err (by rw[pMs,gM,Pr.bind_err p1])]
   ·rw[g1,CM]
    simp only
    rw[show ((0:Int).toNat+1)=0+1 from rfl,j4 _ _ _ _ _ _ _ (by decide) (by decide),if_neg (by decide),CM]
    simp only
    rw[aQ,CM]
    simp only
    rw[if_neg y1]
  ·obtain⟨c1,c2,c3,c4,c5,c6⟩:=iD (by decide) (by decide) hq p1
   have c2:=c2 (by decide)
   rw[g1,CM]
   simp only
   rcases po v n s hs [] n.toNat (n.toNat+1) 0 [] r (by omega) (by omega) l1 rfl (by omega) with⟨e,st,h1,h2,h3,h4⟩ | ⟨l,r',h1,h2,h3,h4⟩
   ·refine .inl ⟨e,st,?_,?_,h3,by rw[h3]; exact h2⟩
    ·rw[kP,Pr.bind_err (by rw[pMs,gM,Pr.bind_of p1,h1])]
    ·rw[h4]
     rfl
   ·have hms:pMs v s q= .ok (l,r'):=by rw[pMs,gM,Pr.bind_of p1,h1]
    obtain⟨b1,b2,b3,b4,b5,b6⟩:=(Sp_ms v).spell s q l r' hq hms
    have hW: ∀ m,m∈l→okW m:=fun m hm=>okM_W (b6 m hm) (by have:=qV v l m hm; omega)
    rw[h2,CM]
    simp only[CW]
    rw[aQ,CM]
    simp only[if_true]
    rw[xU v l hW,CM,kP,Pr.bind_of hms]
    by_cases hc:lO v l=0
    ·rw[if_pos hc,if_pos hc]
     exact .inr ⟨l,r',rfl,rfl,by omega,h4⟩
    ·rw[if_neg hc,if_neg hc,xV]
     exact .inl ⟨lO v l,_,rfl,rfl,rfl,hc⟩
theorem nY (v:Int): ∀ (l:List aA) (t:List UInt8),(∀ m,m∈l→okM v m∧wTs m.BZ≤2000)→t.length+(aV (jM v) l).length≤800000→db v l (t,0)=some (t++aV (jM v) l,0)
 | [],t,_,_=>by rw[db,aV,Db]
 | m::l,t,h,ht=>by
  obtain⟨⟨o1,o2,o3,o4⟩,hw⟩:=h m (.head _)
  rw[aV,CO] at ht
  have hl:=(tc v m).1
  have hb:(iz m.Cw).length=1:=al _ _
  rw[db,bR o1 (by omega),CM,bR o2 (by rw[CO,al]; omega),CM,vl _ _ (by rw[CO,CO,al,al]; omega),CM,
   md m.BZ _ o3.2 (by rw[CO,CO,CO,al,al,hb]; omega) hw,CM]
  have ih:=fun t' (h':t'.length+(aV (jM v) l).length≤800000)=>nY v l t' (fun z hz=>h z (.tail _ hz)) h'
  have htl:(jf m.BZ).length=4+wTs m.BZ:=by rw[jf,CO,al,e7]
  by_cases hv:v>0
  ·rw[if_pos hv] at o4
   have e:jM v m=be m.BX 8++(be m.B5 2++(iz m.Cw++(jf m.BZ++be m.Ci 4))):=by rw[jM,if_pos hv]
   have el:(jM v m).length=8+(2+(1+(4+wTs m.BZ+4))):=by rw[e]; simp only[CO,al,hb,htl]
   rw[if_pos hv,bR o4 (by simp only[CO,al,hb,e7]; omega),CM,CM,ih _ (by simp only[CO,al,hb,e7,show (8:Int).toNat=8 from rfl,show (2:Int).toNat=2 from rfl,show (4:Int).toNat=4 from rfl]; omega),aV,e]
   simp only[jf,CV]
   rfl
  ·have e:jM v m=be m.BX 8++(be m.B5 2++(iz m.Cw++jf m.BZ)):=by rw[jM,if_neg hv,Db]
   have el:(jM v m).length=8+(2+(1+(4+wTs m.BZ))):=by rw[e]; simp only[CO,al,hb,htl]
   rw[if_neg hv,CM,ih _ (by simp only[CO,al,hb,e7,show (8:Int).toNat=8 from rfl,show (2:Int).toNat=2 from rfl]; omega),aV,e]
   simp only[jf,CV]
   rfl
def ez (a0:List Hd):Nat→Bool→Nat→Option (Lp Bool (Bool×Nat))
 | 0,_,_=>none
 | m8+1,y3,k4=>if (k4:Int)<(a0.length:Int) then ((a0[k4]?).bind fun x13=>if x13.Cb.null=true then (if x13.Cb.data = [] then (if -9223372036854775808≤((k4:Int)+1)∧((k4:Int)+1)≤9223372036854775807 then (ez a0 m8 y3 (k4+1)) else none) else some (Lp.ret false)) else (if -9223372036854775808≤((k4:Int)+1)∧((k4:Int)+1)≤9223372036854775807 then (ez a0 m8 y3 (k4+1)) else none)) else (some (Lp.go (y3,k4)))
def kQ (a0:List Hd):Option (Bool):=(ez a0 (((a0.length:Int)).toNat+1) false 0).bind fun e=>match e with | .ret r=>some r | .go (y20,k21)=>some true
def li (a0:Bl):Option (Bool):=if a0.null=true then (if a0.data = [] then some false else some true) else some false
def jg (a0:Rec):Option (Int):=if a0.Cd<0 then some 11 else (if a0.Cd>2147483647 then some 11 else ((li a0.Cq).bind fun x6=>if x6=true then some 4 else ((li a0.Cb).bind fun x9=>if x9=true then some 4 else ((kQ a0.B6).bind fun x12=>if x12=true then some 0 else some 4))))
theorem iF {α:Type} {l:List α} {k:Nat} {x:α} {t:List α} (h:l.drop k=x::t):l[k]? = some x∧l.drop (k+1)=t∧l.length=k+1+t.length:=by
 have hl:=congrArg List.length h
 rw[C1,C9] at hl
 refine⟨?_,?_,by omega⟩
 ·have:=congrArg (fun z=>z[0]?) h
  simpa using this
 ·rw[← DB,h]
  rfl
theorem j5 {α:Type} {l:List α} {k:Nat} (h:l.drop k = []):l.length≤k:=List.drop_eq_nil_iff.1 h
def kR (l:List Hd):Bool:=l.all fun h=>aT h.Cb
def dt (r:Rec):Int:=if r.Cd<0∨r.Cd>2147483647 then 11 else if (aT r.Cq && aT r.Cb && kR r.B6)=true then 0 else 4
theorem nZ (y:Bool): ∀ l:List Bl,cP l y=some (if l.all aT=true then .go y else .ret false)
 | []=>rfl
 | b::l=>by
  rw[cP,lb,CM,List.all_cons,nZ y l]
  cases aT b <;> rfl
theorem qW (l:List Bl):dN l=some (l.all aT):=by
 unfold dN
 rw[nZ]
 cases l.all aT <;> rfl
theorem n8 (y:Int): ∀ l:List Hd,cR l y=some (if kR l=true then .go y else .ret 4)
 | []=>rfl
 | h::l=>by
  rw[cR,qW,CM,n8 y l]
  unfold kR
  rw[List.all_cons,List.all_cons,List.all_nil,Bool.and_true]
  cases aT h.Cb <;> rfl
theorem j6 (r:Rec) (hw:wI r.Cd):dE r=some (dt r):=by
 unfold dE dt
 by_cases h:r.Cd<0
 ·rw[if_pos h,if_pos (.inl h)]
 rw[if_neg h,dS _ _ hw,e9,CM]
 by_cases h2:r.Cd>2147483647
 ·rw[if_neg (by simp; omega),if_pos (.inr h2)]
 rw[if_pos (by simp; omega),if_neg (by omega),qW,CM,n8]
 simp only[List.all_cons,List.all_nil,Bool.and_true]
 cases aT r.Cq <;> cases aT r.Cb <;> cases kR r.B6 <;> rfl
theorem xW (b:Bl):li b=some (!aT b):=by
 unfold li aT
 obtain⟨n,d⟩:=b
 cases n
 ·rfl
 ·cases d <;> simp
theorem tf (a0:List Hd) (hb:a0.length≤1000000) (y:Bool): ∀ (l:List Hd) (k fuel:Nat),a0.drop k=l→l.length<fuel→ ∃ z,ez a0 fuel y k=some (if kR l=true then .go (y,z) else .ret false)
 | [],k,fuel+1,h,hf=>by
  have:=j5 h
  exact⟨k,by rw[ez,if_neg (by omega)]; rfl⟩
 | x::l,k,fuel+1,h,hf=>by
  obtain⟨h1,h2,h3⟩:=iF h
  rw[C9] at hf
  obtain⟨z,hz⟩:=tf a0 hb y l (k+1) fuel h2 (by omega)
  rw[ez,if_pos (by omega),h1,CM]
  have e:kR (x::l)=(aT x.Cb && kR l):=rfl
  rw[e]
  by_cases hn:x.Cb.null=true
  ·rw[if_pos hn]
   by_cases hd:x.Cb.data = []
   ·rw[if_pos hd,if_pos (by omega),hz]
    have:aT x.Cb=true:=by unfold aT; rw[hd]; simp
    rw[this,Bool.true_and]
    exact⟨z,rfl⟩
   ·rw[if_neg hd]
    have:aT x.Cb=false:=by unfold aT; rw[hn]; simp[hd]
    rw[this]
    exact⟨0,rfl⟩
  ·rw[if_neg hn,if_pos (by omega),hz]
   have:aT x.Cb=true:=by unfold aT; simp[hn]
   rw[this,Bool.true_and]
   exact⟨z,rfl⟩
theorem wu (a0:List Hd) (hb:a0.length≤1000000):kQ a0=some (kR a0):=by
 unfold kQ
 obtain⟨z,hz⟩:=tf a0 hb false a0 0 (((a0.length:Int)).toNat+1) rfl (by omega)
 rw[hz]
 cases kR a0 <;> rfl
theorem wv (r:Rec) (hb:r.B6.length≤1000000):jg r=some (dt r):=by
 unfold jg dt
 by_cases h:r.Cd<0
 ·rw[if_pos h,if_pos (.inl h)]
 rw[if_neg h]
 by_cases h2:r.Cd>2147483647
 ·rw[if_pos h2,if_pos (.inr h2)]
 rw[if_neg h2,if_neg (by omega),xW,xW,wu _ hb]
 cases aT r.Cq <;> cases aT r.Cb <;> cases kR r.B6 <;> rfl
def jo (a0:List UInt8):Option (Int×Int):=if (a0.length:Int)<2 then some (0,1) else (if 2≤a0.length then ((sG (a0.take 2)).bind fun x3=>if x3=0 then (if (a0.length:Int)<4 then some (0,1) else (if 4≤a0.length then ((sG ((a0.drop 2).take 2)).bind fun x8=>if x8=0 then (if (a0.length:Int)>4 then some (0,2) else some (x8,0)) else (if x8=1 then (if (a0.length:Int)>4 then some (0,2) else some (x8,0)) else some (0,12))) else none)) else some (0,7)) else none)
def ib (a0:List UInt8):Option (Int×Int):=if (a0.length:Int)<2 then some (0,1) else (if 2≤a0.length then ((sG (a0.take 2)).bind fun x3=>if x3=0 then (if (a0.length:Int)<6 then some (0,1) else (if 6≤a0.length then ((sG ((a0.drop 2).take 4)).bind fun x8=>if x8<0 then some (0,11) else (if (a0.length:Int)>6 then some (0,2) else some (x8,0))) else none)) else some (0,7)) else none)
def gO (a0:Rec):Option (Int×Int×Int):=if a0.Cq.null=true then some (0,0,12) else (if a0.Cb.null=true then some (0,0,12) else (if (a0.B6.length:Int)>0 then some (0,0,12) else (if a0.Cd=0 then ((jo a0.Cq.data).bind fun (x8,x9)=>if x9=0 then ((ib a0.Cb.data).bind fun (x12,x13)=>if x13=0 then some (x8,x12,0) else some (0,0,x13)) else some (0,0,x9)) else some (0,0,12))))
def gv (a0:Int) (a1:Int):Option (Bool):=if a0≥a1 then (if a0≤2147483647 then some true else some false) else some false
def gw (a0:Bat):Option (Bool):=if a0.BX=(-1) then (if a0.B5=(-1) then (if a0.Ca=(-1) then (if a0.CI=true then some false else some true) else some false) else some false) else (if a0.BX<0 then some false else (if a0.B5<0 then some false else (if a0.B5>32767 then some false else (if a0.Ct=true then (if a0.Ca=(-1) then some true else some false) else ((gv a0.Ca 0).bind fun x13=>some x13)))))
def eA (a0:Bat):Nat→Int→Int→Nat→Option (Lp Int (Int×Int×Nat))
 | 0,_,_,_=>none
 | m10+1,y4,y5,k6=>if (k6:Int)<(a0.B0.length:Int) then ((a0.B0[k6]?).bind fun x15=>if -9223372036854775808≤(9223372036854775807 - a0.B9)∧(9223372036854775807 - a0.B9)≤9223372036854775807 then (if x15.Co>(9223372036854775807 - a0.B9) then (some (Lp.ret (-1))) else (if -9223372036854775808≤(-a0.B9)∧(-a0.B9)≤9223372036854775807 then (if x15.Co<(-a0.B9) then (some (Lp.ret (-1))) else (if -9223372036854775808≤(a0.B9+x15.Co)∧(a0.B9+x15.Co)≤9223372036854775807 then (if (a0.B9+x15.Co)>y5 then (if -9223372036854775808≤(a0.B9+x15.Co)∧(a0.B9+x15.Co)≤9223372036854775807 then (if -9223372036854775808≤((k6:Int)+1)∧((k6:Int)+1)≤9223372036854775807 then (eA a0 m10 y4 (a0.B9+x15.Co) (k6+1)) else none) else none) else (if -9223372036854775808≤((k6:Int)+1)∧((k6:Int)+1)≤9223372036854775807 then (eA a0 m10 y4 y5 (k6+1)) else none)) else none)) else none)) else none) else (some (Lp.go (y4,y5,k6)))
def n9 (a0:Bat):Option (Int):=(eA a0 (((a0.B0.length:Int)).toNat+1) 0 a0.B9 0).bind fun e=>match e with | .ret r=>some r | .go (y30,y31,k32)=>some y31
def cN (a0:Bat):Nat→Int→Nat→Option (Lp Int (Int×Nat))
 | 0,_,_=>none
 | m9+1,y4,k5=>if (k5:Int)<(a0.B0.length:Int) then ((a0.B0[k5]?).bind fun x14=>if x14.Cd>a0.Cl then some (Lp.ret 13) else (if (k5:Int)>0 then (if -9223372036854775808≤((k5:Int) - 1)∧((k5:Int) - 1)≤9223372036854775807 then (if 0≤((k5:Int) - 1) then ((a0.B0[((k5:Int) - 1).toNat]?).bind fun x24=>if x14.Cd≤x24.Cd then some (Lp.ret 13) else (if x14.Cd<0 then some (Lp.ret 13) else (if -9223372036854775808≤(9223372036854775807 - a0.B9)∧(9223372036854775807 - a0.B9)≤9223372036854775807 then (if x14.Co>(9223372036854775807 - a0.B9) then some (Lp.ret 11) else (if -9223372036854775808≤(-a0.B9)∧(-a0.B9)≤9223372036854775807 then (if x14.Co<(-a0.B9) then some (Lp.ret 11) else (if -9223372036854775808≤((k5:Int)+1)∧((k5:Int)+1)≤9223372036854775807 then (cN a0 m9 y4 (k5+1)) else none)) else none)) else none))) else none) else none) else (if x14.Cd<0 then some (Lp.ret 13) else (if -9223372036854775808≤(9223372036854775807 - a0.B9)∧(9223372036854775807 - a0.B9)≤9223372036854775807 then (if x14.Co>(9223372036854775807 - a0.B9) then some (Lp.ret 11) else (if -9223372036854775808≤(-a0.B9)∧(-a0.B9)≤9223372036854775807 then (if x14.Co<(-a0.B9) then some (Lp.ret 11) else (if -9223372036854775808≤((k5:Int)+1)∧((k5:Int)+1)≤9223372036854775807 then (cN a0 m9 y4 (k5+1)) else none)) else none)) else none)))) else (some (Lp.go (y4,k5)))
def fE (a0:Bat):Option (Int):=(cN a0 (((a0.B0.length:Int)).toNat+1) 0 0).bind fun e=>match e with | .ret r=>some r | .go (y47,k48)=>(if a0.CF=true then some 0 else ((n9 a0).bind fun x50=>if x50=a0.Cu then some 0 else some 11))
def dJ (a0:Bat):Nat→Int→Nat→Option (Lp Int (Int×Nat))
 | 0,_,_=>none
 | m26+1,y21,k22=>if (k22:Int)<(a0.B0.length:Int) then ((a0.B0[k22]?).bind fun x31=>(jg x31).bind fun x37=>if x37=0 then (if -9223372036854775808≤((k22:Int)+1)∧((k22:Int)+1)≤9223372036854775807 then (dJ a0 m26 y21 (k22+1)) else none) else some (Lp.ret x37)) else (some (Lp.go (y21,k22)))
def gx (a0:Bat):Nat→Int→Nat→Option (Lp Int (Int×Nat))
 | 0,_,_=>none
 | m77+1,y72,k73=>if (k73:Int)<(a0.B0.length:Int) then ((a0.B0[k73]?).bind fun x82=>(jg x82).bind fun x88=>if x88=0 then (if -9223372036854775808≤((k73:Int)+1)∧((k73:Int)+1)≤9223372036854775807 then (gx a0 m77 y72 (k73+1)) else none) else some (Lp.ret x88)) else (some (Lp.go (y72,k73)))
def jh (a0:Bat):Option (Int):=if a0.Cn<0 then some 11 else ((gv a0.Ch (-1)).bind fun x5=>if x5=true then ((gv a0.Cl 0).bind fun x8=>if x8=true then (if -9223372036854775808≤(9223372036854775807 - a0.Cn)∧(9223372036854775807 - a0.Cn)≤9223372036854775807 then (if a0.Cl>(9223372036854775807 - a0.Cn) then some 11 else (if a0.B9<0 then some 11 else (if a0.Cu<0 then some 11 else (if a0.Ct=true then (if a0.CI=true then ((gw a0).bind fun x17=>if x17=true then (if (a0.B0.length:Int)=1 then ((dJ a0 (((a0.B0.length:Int)).toNat+1) 0 0).bind fun e=>match e with | .ret r=>some r | .go (y54,k55)=>((a0.B0[0]?).bind fun x56=>(gO x56).bind fun (x62,x63,x64)=>if x64=0 then ((fE a0).bind fun x67=>some x67) else some x64)) else some 10) else some 11) else some 8) else ((gw a0).bind fun x69=>if x69=true then ((gx a0 (((a0.B0.length:Int)).toNat+1) 0 0).bind fun e=>match e with | .ret r=>some r | .go (y94,k95)=>((fE a0).bind fun x96=>some x96)) else some 11))))) else none) else some 11) else some 11)
theorem pq (l:List UInt8) (p:Nat) (h:2≤l.length):bX ⟨l,p,0⟩ 2=(dQ (l.take 2),⟨l.drop 2,p+2,0⟩):=ru l p 2 (by decide) (by decide) h
theorem xX (l:List UInt8) (p:Nat) (h:4≤l.length):bX ⟨l,p,0⟩ 4=(dQ (l.take 4),⟨l.drop 4,p+4,0⟩):=ru l p 4 (by decide) (by decide) h
theorem kS (l:List UInt8) (p:Nat) (h:l.length<2):bX ⟨l,p,0⟩ 2=(0,⟨l,p,1⟩):=lT l p 2 (by decide) (by decide) (by omega)
theorem tg (l:List UInt8) (p:Nat) (h:l.length<4):bX ⟨l,p,0⟩ 4=(0,⟨l,p,1⟩):=lT l p 4 (by decide) (by decide) (by omega)
theorem rV (l:List UInt8) (p:Nat) (e n:Int) (h:e≠0):bX ⟨l,p,e⟩ n=(0,⟨l,p,e⟩):=jy (st:=⟨l,p,e⟩) h n
theorem eX (l:List UInt8) (p:Nat) (e:Int) (h:e≠0):bU ⟨l,p,e⟩=⟨l,p,e⟩:=lS (st:=⟨l,p,e⟩) h
theorem vn (l:List UInt8) (p:Nat) (e f:Int) (h:e≠0):bt ⟨l,p,e⟩ f=⟨l,p,e⟩:=nk (st:=⟨l,p,e⟩) h f
theorem ov (l:List UInt8) (p:Nat) (f:Int):bt ⟨l,p,0⟩ f=⟨l,p,f⟩:=by simp[bt]
theorem th (l:List UInt8) (p:Nat):bU ⟨l,p,0⟩=⟨l,p,if l = [] then 0 else 2⟩:=by unfold bU; split <;> simp_all [bt]
theorem mY {l:List UInt8} {n:Nat} (h:n≤l.length):l.drop n = [] ↔ ¬ (l.length:Int)>n:=by rw[List.drop_eq_nil_iff]; omega
theorem xY (l:List UInt8) (hl:l.length≤9223372036854775807):cQ l=jo l:=by
 unfold cQ jo cy
 simp only[fz l (by omega),fA,cZ,cf,CM]
 by_cases h2:l.length<2
 ·have h2i:(l.length:Int)<2:=by omega
  simp[kS l 0 h2,rV,eX,vn,h2i]
 have h2i: ¬ (l.length:Int)<2:=by omega
 have h2j:2≤(l.length:Int):=by omega
 rw[pq l 0 (by omega),if_neg h2i,if_pos (show 2≤l.length by omega),mC _ (by simp; omega)]
 simp only[CM]
 by_cases h0:dQ (l.take 2)=0
 ·rw[if_pos h0,if_pos h0]
  simp only[CM]
  by_cases h4:l.length<4
  ·have h4i:(l.length:Int)<4:=by omega
   simp[kS (l.drop 2) (0+2) (by simp; omega),eX,h4i]
  have h4i: ¬ (l.length:Int)<4:=by omega
  rw[pq _ _ (by simp; omega),if_neg h4i,if_pos (show 4≤l.length by omega),mC _ (by simp; omega)]
  simp only[CM,DB,th,ov]
  have hd:=mY (l:=l) (n:=4) (by omega)
  generalize dQ ((l.drop 2).take 2)=k
  by_cases h5:(l.length:Int)>4
  ·have hd2: ¬ l.drop (2+2) = []:=fun h=>(hd.1 h) h5
   by_cases k0:k=0
   ·simp[hd2,h5,eX,k0]
   ·by_cases k1:k=1 <;> simp[hd2,h5,eX,k0,k1]
  ·have hd2:l.drop (2+2) = []:=hd.2 h5
   by_cases k0:k=0
   ·simp[hd2,h5,eX,k0]
   ·by_cases k1:k=1 <;> simp[hd2,h5,eX,k0,k1]
 ·rw[if_neg h0,if_neg h0]
  simp[ov,rV,eX]
theorem ux (l:List UInt8) (hl:l.length≤9223372036854775807):cx l=ib l:=by
 unfold cx ib cy
 simp only[fz l (by omega),fA,cZ,cf,CM]
 by_cases h2:l.length<2
 ·have h2i:(l.length:Int)<2:=by omega
  simp[kS l 0 h2,rV,eX,vn,h2i]
 have h2i: ¬ (l.length:Int)<2:=by omega
 have h2j:2≤(l.length:Int):=by omega
 rw[pq l 0 (by omega),if_neg h2i,if_pos (show 2≤l.length by omega),mC _ (by simp; omega)]
 simp only[CM]
 by_cases h0:dQ (l.take 2)=0
 ·rw[if_pos h0,if_pos h0]
  simp only[CM]
  by_cases h4:l.length<6
  ·have h4i:(l.length:Int)<6:=by omega
   simp[tg (l.drop 2) (0+2) (by simp; omega),eX,h4i]
  have h4i: ¬ (l.length:Int)<6:=by omega
  rw[xX _ _ (by simp; omega),if_neg h4i,if_pos (show 6≤l.length by omega),mC _ (by simp; omega)]
  simp only[CM,DB,th,ov]
  have hd:=mY (l:=l) (n:=6) (by omega)
  generalize dQ ((l.drop 2).take 4)=k
  by_cases h5:(l.length:Int)>6
  ·have hd2: ¬ l.drop (2+4) = []:=fun h=>(hd.1 h) h5
   by_cases k0:k<0 <;> simp[hd2,h5,eX,k0]
  ·have hd2:l.drop (2+4) = []:=hd.2 h5
   by_cases k0:k<0 <;> simp[hd2,h5,eX,k0]
 ·rw[if_neg h0,if_neg h0]
  simp[ov,rV,eX]
theorem rW (r:Rec) (h1:r.Cq.data.length≤9223372036854775807) (h2:r.Cb.data.length≤9223372036854775807):cG r=gO r:=by
 unfold cG gO
 rw[xY _ h1,ux _ h2]
def dM:List Rec→Int
 | []=>0
 | r::l=>if dt r=0 then dM l else dt r
theorem qX (y:Int): ∀ l:List Rec,(∀ r,r∈l→wI r.Cd)→dg l y=some (if dM l=0 then .go y else .ret (dM l))
 | [],h=>rfl
 | r::l,h=>by
  rw[dg,j6 _ (h r (.head _)),CM,qX y l (fun x hx=>h x (.tail _ hx)),dM]
  by_cases hr:dt r=0
  ·rw[if_pos hr,if_pos hr]
  ·rw[if_neg hr,if_neg hr,if_neg hr]
theorem qY (y:Int): ∀ l:List Rec,(∀ r,r∈l→wI r.Cd)→dh l y=some (if dM l=0 then .go y else .ret (dM l))
 | [],h=>rfl
 | r::l,h=>by
  rw[dh,j6 _ (h r (.head _)),CM,qY y l (fun x hx=>h x (.tail _ hx)),dM]
  by_cases hr:dt r=0
  ·rw[if_pos hr,if_pos hr]
  ·rw[if_neg hr,if_neg hr,if_neg hr]
theorem qZ (a:Bat) (hb:a.B0.length≤1000000) (hh: ∀ r,r∈a.B0→r.B6.length≤1000000) (y:Int): ∀ (l:List Rec) (k fuel:Nat),a.B0.drop k=l→l.length<fuel→ ∃ z,dJ a fuel y k=some (if dM l=0 then .go (y,z) else .ret (dM l))
 | [],k,fuel+1,h,hf=>by
  have:=j5 h
  exact⟨k,by rw[dJ,if_neg (by omega)]; rfl⟩
 | r::l,k,fuel+1,h,hf=>by
  obtain⟨h1,h2,h3⟩:=iF h
  rw[C9] at hf
  obtain⟨z,hz⟩:=qZ a hb hh y l (k+1) fuel h2 (by omega)
  rw[dJ,if_pos (by omega),h1,CM,wv _ (hh r (List.mem_of_getElem? h1)),CM,dM]
  by_cases hr:dt r=0
  ·rw[if_pos hr,if_pos hr,if_pos (by omega)]
   exact⟨z,hz⟩
  ·rw[if_neg hr,if_neg hr]
   exact⟨0,by rw[if_neg hr]⟩
theorem q9 (a:Bat): ∀ (fuel:Nat) (y:Int) (k:Nat),gx a fuel y k=dJ a fuel y k
 | 0,y,k=>rfl
 | fuel+1,y,k=>by
  rw[gx,dJ]
  simp only[q9 a fuel]
def mh (F t:Int):Prop:=t>9223372036854775807 - F∨t < -F
instance (F t:Int):Decidable (mh F t):=by unfold mh; infer_instance
def rX (F L:Int):Int→Int→List Rec→Except Int Int
 | p,m,[]=> .ok m
 | p,m,r::l=>if r.Cd≤p∨r.Cd>L then .error 13 else if mh F r.Co then .error 11 else rX F L r.Cd (if m<F+r.Co then F+r.Co else m) l
theorem ww {F t:Int} (h0:0≤F) (h1:F≤9223372036854775807) (ht:wI t):(mh F t→(IntKind.i64.wrap (F+t)<0))∧(¬ mh F t→IntKind.i64.wrap (F+t)=F+t∧0≤F+t):=by
 obtain⟨t0,t1⟩:=ht
 unfold mh
 rw[IntKind.wrap_i64]
 constructor
 ·intro h
  omega
 ·intro h
  omega
theorem vo (a:Bat) (h0:0≤a.B9) (h1:a.B9≤9223372036854775807) (y:Int): ∀ (l:List Rec) (p m:Int),(∀ r,r∈l→wI r.Co)→(∃ e,rX a.B9 a.Cl p m l= .error e∧bm a l y p m=some (.ret e))∨(∃ p' m',rX a.B9 a.Cl p m l= .ok m'∧bm a l y p m=some (.go (y,p',m')))
 | [],p,m,h=> .inr ⟨p,m,rfl,rfl⟩
 | r::l,p,m,h=>by
  have ih:=fun p m=>vo a h0 h1 y l p m (fun x hx=>h x (.tail _ hx))
  obtain⟨w1,w2⟩:=ww h0 h1 (h r (.head _))
  rw[bm,rX]
  by_cases c1:r.Cd≤p
  ·rw[if_pos c1,if_pos (.inl c1)]
   exact .inl ⟨_,rfl,rfl⟩
  rw[if_neg c1]
  by_cases c2:r.Cd>a.Cl
  ·rw[if_pos c2,if_pos (.inr c2)]
   exact .inl ⟨_,rfl,rfl⟩
  rw[if_neg c2,if_neg (by omega)]
  by_cases c3:mh a.B9 r.Co
  ·rw[if_pos c3,if_pos (w1 c3)]
   exact .inl ⟨_,rfl,rfl⟩
  obtain⟨w3,w4⟩:=w2 c3
  rw[if_neg c3,w3,if_neg (show ¬ a.B9+r.Co<0 by omega),if_neg (show ¬ a.B9+r.Co<r.Co by omega),ite_self]
  by_cases c4:m<a.B9+r.Co
  ·rw[if_pos c4,if_pos c4]
   exact ih _ _
  ·rw[if_neg c4,if_neg c4]
   exact ih _ _
theorem rY (a:Bat) (h0:0≤a.B9) (h1:a.B9≤9223372036854775807) (hb:a.B0.length≤1000000) (y:Int): ∀ (l:List Rec) (p m:Int) (k fuel:Nat),a.B0.drop k=l→l.length<fuel→(k=0→p= -1)→(0<k→ ∃ r,a.B0[k - 1]? = some r∧r.Cd=p∧0≤p) →
 (∃ e,rX a.B9 a.Cl p m l= .error e∧cN a fuel y k=some (.ret e))∨(∃ m' z,rX a.B9 a.Cl p m l= .ok m'∧cN a fuel y k=some (.go (y,z)))
 | [],p,m,k,fuel+1,h,hf,hk0,hk1=>by
  have:=j5 h
  exact .inr ⟨m,k,rfl,by rw[cN,if_neg (by omega)]⟩
 | r::l,p,m,k,fuel+1,h,hf,hk0,hk1=>by
  obtain⟨g1,g2,g3⟩:=iF h
  rw[C9] at hf
  rw[cN,if_pos (by omega),g1,CM,rX]
  have hp: -1≤p:=by
   rcases Nat.eq_zero_or_pos k with hk | hk
   ·have:=hk0 hk; omega
   ·obtain⟨_,_,_,h5⟩:=hk1 hk; omega
  have ih:=fun (hge:0≤r.Cd) m=>rY a h0 h1 hb y l r.Cd m (k+1) fuel g2 (by omega) (fun h=>absurd h (by omega)) (fun _=>⟨r,g1,rfl,hge⟩)
  have tail:0≤r.Cd→((if -9223372036854775808≤(9223372036854775807 - a.B9)∧(9223372036854775807 - a.B9)≤9223372036854775807 then (if r.Co>(9223372036854775807 - a.B9) then some (Lp.ret (11:Int)) else (if -9223372036854775808≤(-a.B9)∧(-a.B9)≤9223372036854775807 then (if r.Co<(-a.B9) then some (Lp.ret 11) else (if -9223372036854775808≤((k:Int)+1)∧((k:Int)+1)≤9223372036854775807 then (cN a fuel y (k+1)) else none)) else none)) else none))=if mh a.B9 r.Co then some (.ret 11) else cN a fuel y (k+1):=by
   intro hge
   rw[if_pos (by omega)]
   by_cases c1:r.Co>9223372036854775807 - a.B9
   ·rw[if_pos c1,if_pos (show mh a.B9 r.Co from .inl c1)]
   rw[if_neg c1,if_pos (by omega)]
   by_cases c2:r.Co < -a.B9
   ·rw[if_pos c2,if_pos (show mh a.B9 r.Co from .inr c2)]
   rw[if_neg c2,if_neg (show ¬ mh a.B9 r.Co by unfold mh; omega),if_pos (by omega)]
  by_cases c2:r.Cd>a.Cl
  ·rw[if_pos c2,if_pos (.inr c2)]
   exact .inl ⟨_,rfl,rfl⟩
  rw[if_neg c2]
  rcases Nat.eq_zero_or_pos k with hk | hk
  ·have hp1:=hk0 hk
   rw[if_neg (show ¬ (k:Int)>0 by omega)]
   by_cases c3:r.Cd<0
   ·rw[if_pos c3,if_pos (show r.Cd≤p∨r.Cd>a.Cl by omega)]
    exact .inl ⟨_,rfl,rfl⟩
   rw[if_neg c3,if_neg (show ¬ (r.Cd≤p∨r.Cd>a.Cl) by omega),tail (by omega)]
   by_cases c4:mh a.B9 r.Co
   ·rw[if_pos c4,if_pos c4]
    exact .inl ⟨_,rfl,rfl⟩
   ·rw[if_neg c4,if_neg c4]
    exact ih (by omega) _
  ·obtain⟨q,q1,q2,q3⟩:=hk1 hk
   rw[if_pos (show (k:Int)>0 by omega),if_pos (show -9223372036854775808≤(k:Int) - 1∧(k:Int) - 1≤9223372036854775807 by omega),if_pos (show 0≤(k:Int) - 1 by omega),show ((k:Int) - 1).toNat=k - 1 by omega,q1,CM,q2]
   by_cases c1:r.Cd≤p
   ·rw[if_pos c1,if_pos (.inl c1)]
    exact .inl ⟨_,rfl,rfl⟩
   rw[if_neg c1,if_neg (show ¬ r.Cd<0 by omega),if_neg (show ¬ (r.Cd≤p∨r.Cd>a.Cl) by omega),tail (by omega)]
   by_cases c4:mh a.B9 r.Co
   ·rw[if_pos c4,if_pos c4]
    exact .inl ⟨_,rfl,rfl⟩
   ·rw[if_neg c4,if_neg c4]
    exact ih (by omega) _
theorem vp (a:Bat) (h0:0≤a.B9) (h1:a.B9≤9223372036854775807) (hb:a.B0.length≤1000000) (y:Int): ∀ (l:List Rec) (p m m':Int) (k fuel:Nat),a.B0.drop k=l→l.length<fuel→rX a.B9 a.Cl p m l= .ok m'→(∀ r,r∈l→wI r.Co)→ ∃ z,eA a fuel y m k=some (.go (y,m',z))
 | [],p,m,m',k,fuel+1,h,hf,ho,hw=>by
  have:=j5 h
  injection ho with ho
  subst ho
  exact⟨k,by rw[eA,if_neg (by omega)]⟩
 | r::l,p,m,m',k,fuel+1,h,hf,ho,hw=>by
  obtain⟨g1,g2,g3⟩:=iF h
  rw[C9] at hf
  rw[rX] at ho
  split at ho
  ·exact nomatch ho
  split at ho
  ·exact nomatch ho
  rename_i hb2
  have ht:=hw r (.head _)
  have ht0:=ht.1
  have ht1:=ht.2
  unfold mh at hb2
  rw[eA,if_pos (by omega),g1,CM,if_pos (by omega),if_neg (by omega),if_pos (by omega),if_neg (by omega),if_pos (by omega)]
  obtain⟨z,hz⟩:=vp a h0 h1 hb y l r.Cd _ m' (k+1) fuel g2 (by omega) ho (fun x hx=>hw x (.tail _ hx))
  by_cases c:m<a.B9+r.Co
  ·rw[if_pos c] at hz
   rw[if_pos c,if_pos (by omega),if_pos (by omega)]
   exact⟨z,hz⟩
  ·rw[if_neg c] at hz
   rw[if_neg c,if_pos (by omega)]
   exact⟨z,hz⟩
theorem pt (a:Bat) (h0:0≤a.B9) (h1:a.B9≤9223372036854775807) (hb:a.B0.length≤1000000) (hw: ∀ r,r∈a.B0→wI r.Co): ∃ e,cK a=some e∧fE a=some e:=by
 unfold cK fE n9
 rcases vo a h0 h1 0 a.B0 (-1) a.B9 hw with⟨e,g1,g2⟩ | ⟨p',m',g1,g2⟩
 ·rcases rY a h0 h1 hb 0 a.B0 (-1) a.B9 0 (((a.B0.length:Int)).toNat+1) rfl (by omega) (fun _=>rfl) (fun h=>absurd h (by omega)) with⟨e2,k1,k2⟩ | ⟨m2,z,k1,k2⟩
  ·rw[g1] at k1
   injection k1 with k1
   subst k1
   exact⟨e,by rw[g2]; rfl,by rw[k2]; rfl⟩
  ·rw[g1] at k1
   exact nomatch k1
 ·rcases rY a h0 h1 hb 0 a.B0 (-1) a.B9 0 (((a.B0.length:Int)).toNat+1) rfl (by omega) (fun _=>rfl) (fun h=>absurd h (by omega)) with⟨e2,k1,k2⟩ | ⟨m2,z,k1,k2⟩
  ·rw[g1] at k1
   exact nomatch k1
  ·obtain⟨z2,hz2⟩:=vp a h0 h1 hb 0 a.B0 (-1) a.B9 m' 0 (((a.B0.length:Int)).toNat+1) rfl (by omega) g1 hw
   rw[g2,k2,hz2]
   simp only[CM]
   by_cases ha:a.CF=true
   ·exact⟨0,by rw[if_pos ha],by rw[if_pos ha]⟩
   ·rw[if_neg ha]
    by_cases hm:m'=a.Cu
    ·exact⟨0,by rw[if_pos hm],by rw[if_pos hm]⟩
    ·exact⟨11,by rw[if_neg hm],by rw[if_neg hm]⟩
def hO (a:Bat):Prop:=0≤a.Cn∧(-1≤a.Ch∧a.Ch≤2147483647)∧(0≤a.Cl∧a.Cl≤2147483647)∧a.Cn+a.Cl≤9223372036854775807∧0≤a.B9∧0≤a.Cu
instance (a:Bat):Decidable (hO a):=by unfold hO; infer_instance
theorem uy (a:Bat) (h1:wI a.Cn) (h2:wI a.Ch) (h3:wI a.Cl):eT a=some (decide (hO a)):=by
 obtain⟨u1,u2⟩:=h1
 unfold eT
 rw[dS _ _ h2,dS _ _ h3,e9,e9,IntKind.wrap_i64]
 have no: ∀ {b:Bool},¬ hO a→b=false→some b=some (decide (hO a)):=fun h hb=>by rw[CS h,hb]
 by_cases c1:a.Cn≥0
 ·rw[if_pos c1]
  by_cases c2:a.Ch≥ -1
  ·rw[if_pos c2,CM]
   by_cases c3: -2147483648≤a.Ch∧a.Ch≤2147483647
   ·rw[if_pos (CP c3)]
    by_cases c4:a.Cl≥0
    ·rw[if_pos c4,CM]
     by_cases c5: -2147483648≤a.Cl∧a.Cl≤2147483647
     ·rw[if_pos (CP c5)]
      by_cases c6:a.Cn+a.Cl≤9223372036854775807
      ·rw[if_pos (by omega)]
       by_cases c7:a.B9≥0
       ·rw[if_pos c7]
        by_cases c8:a.Cu≥0
        ·rw[if_pos c8,CP (show hO a from ⟨c1,⟨c2,by omega⟩,⟨c4,by omega⟩,c6,c7,c8⟩)]
        ·rw[if_neg c8]; exact no (fun h=>c8 h.2.2.2.2.2) rfl
       ·rw[if_neg c7]; exact no (fun h=>c7 h.2.2.2.2.1) rfl
      ·rw[if_neg (by omega)]; exact no (fun h=>c6 h.2.2.2.1) rfl
     ·rw[if_neg (by rw[decide_eq_true_eq]; exact c5)]; exact no (fun h=>by have:=h.2.2.1; omega) rfl
    ·rw[if_neg c4]; exact no (fun h=>c4 h.2.2.1.1) rfl
   ·rw[if_neg (by rw[decide_eq_true_eq]; exact c3)]; exact no (fun h=>by have:=h.2.1; omega) rfl
  ·rw[if_neg c2]; exact no (fun h=>c2 h.2.1.1) rfl
 ·rw[if_neg c1]; exact no (fun h=>c1 h.1) rfl
theorem nJ (n k:Int):gv n k=some (decide (k≤n∧n≤2147483647)):=by
 unfold gv
 by_cases h1:n≥k
 ·rw[if_pos h1]
  by_cases h2:n≤2147483647
  ·rw[if_pos h2,CP ⟨h1,h2⟩]
  ·rw[if_neg h2,CS (fun h=>h2 h.2)]
 ·rw[if_neg h1,CS (fun h=>h1 h.1)]
def fN (a:Bat):Prop:=if a.BX= -1 then a.B5= -1∧a.Ca= -1∧a.CI=false else 0≤a.BX∧(0≤a.B5∧a.B5≤32767)∧(if a.Ct=true then a.Ca= -1 else 0≤a.Ca∧a.Ca≤2147483647)
instance (a:Bat):Decidable (fN a):=by unfold fN; infer_instance
theorem pu (n:Int):aN n 2=decide (-32768≤n∧n≤32767):=by
 rw[Bool.eq_iff_iff]
 unfold aN
 simp only[Bool.and_eq_true,decide_eq_true_eq]
 have:(2:Int) ^ (8*(2:Int).toNat - 1)=32768:=by decide
 omega
theorem oa (a:Bat) (h1:wI a.B5) (h2:wI a.Ca):dC a=some (decide (fN a))∧gw a=some (decide (fN a)):=by
 unfold dC gw
 rw[dS _ _ h1,dS _ _ h2,e9,pu,nJ]
 unfold fN
 obtain⟨b0,b1,b2,tx,ct,b5,b6,b7,P,E,S,rs⟩:=a
 simp only
 clear h1 h2
 by_cases c1:P= -1
 ·simp only[if_pos c1]
  by_cases c2:E= -1
  ·simp only[if_pos c2]
   by_cases c3:S= -1
   ·simp only[if_pos c3]
    cases tx <;> simp[c2,c3]
   ·simp[c3]
  ·simp[c2]
 ·simp only[if_neg c1,CM]
  cases ct
  ·simp only[Bool.false_eq_true,if_false]
   constructor
   ·by_cases d1:P≥0
    ·by_cases d2:E≥0
     ·by_cases d3: -32768≤E∧E≤32767
      ·by_cases d4:S≥0
       ·by_cases d5: -2147483648≤S∧S≤2147483647
        ·rw[if_pos d1,if_pos d2,if_pos (CP d3),if_pos d4,if_pos (CP d5),CP (by omega)]
        ·rw[if_pos d1,if_pos d2,if_pos (CP d3),if_pos d4,if_neg (by rw[decide_eq_true_eq]; exact d5),CS (by omega)]
       ·rw[if_pos d1,if_pos d2,if_pos (CP d3),if_neg d4,CS (by omega)]
      ·rw[if_pos d1,if_pos d2,if_neg (by rw[decide_eq_true_eq]; exact d3),CS (by omega)]
     ·rw[if_pos d1,if_neg d2,CS (by omega)]
    ·rw[if_neg d1,CS (by omega)]
   ·by_cases d1:P<0
    ·rw[if_pos d1,CS (by omega)]
    rw[if_neg d1]
    by_cases d2:E<0
    ·rw[if_pos d2,CS (by omega)]
    rw[if_neg d2]
    by_cases d3:E>32767
    ·rw[if_pos d3,CS (by omega)]
    rw[if_neg d3]
    by_cases d4:0≤S∧S≤2147483647
    ·rw[CP d4,CP (by omega)]
    ·rw[CS d4,CS (by omega)]
  ·simp only[if_true]
   constructor
   ·by_cases d1:P≥0
    ·by_cases d2:E≥0
     ·by_cases d3: -32768≤E∧E≤32767
      ·by_cases d4:S≥ -1
       ·by_cases d5: -2147483648≤S∧S≤2147483647
        ·by_cases d6:S= -1
         ·rw[if_pos d1,if_pos d2,if_pos (CP d3),if_pos d4,if_pos (CP d5),if_pos d6,CP (by omega)]
         ·rw[if_pos d1,if_pos d2,if_pos (CP d3),if_pos d4,if_pos (CP d5),if_neg d6,CS (by omega)]
        ·rw[if_pos d1,if_pos d2,if_pos (CP d3),if_pos d4,if_neg (by rw[decide_eq_true_eq]; exact d5),CS (by omega)]
       ·rw[if_pos d1,if_pos d2,if_pos (CP d3),if_neg d4,CS (by omega)]
      ·rw[if_pos d1,if_pos d2,if_neg (by rw[decide_eq_true_eq]; exact d3),CS (by omega)]
     ·rw[if_pos d1,if_neg d2,CS (by omega)]
    ·rw[if_neg d1,CS (by omega)]
   ·by_cases d1:P<0
    ·rw[if_pos d1,CS (by omega)]
    rw[if_neg d1]
    by_cases d2:E<0
    ·rw[if_pos d2,CS (by omega)]
    rw[if_neg d2]
    by_cases d3:E>32767
    ·rw[if_pos d3,CS (by omega)]
    rw[if_neg d3]
    by_cases d4:S= -1
    ·rw[if_pos d4,CP (by omega)]
    ·rw[if_neg d4,CS (by omega)]
theorem xZ (l:List UInt8) (hl:l.length≤1000000): ∃ x,cQ l=some x:=by
 unfold cQ cy
 simp only[fz l (by omega),fA,cZ,cf,CM]
 generalize bX ⟨l,0,0⟩ 2=x
 by_cases h:x.1=0
 ·simp only[if_pos h,CM]
  generalize bX x.2 2=y
  split
  ·split <;> exact⟨_,rfl⟩
  ·split
   ·split <;> exact⟨_,rfl⟩
   ·split <;> exact⟨_,rfl⟩
 ·simp only[if_neg h,CM]
  generalize bX (bt x.2 7) 2=y
  split
  ·split <;> exact⟨_,rfl⟩
  ·split
   ·split <;> exact⟨_,rfl⟩
   ·split <;> exact⟨_,rfl⟩
theorem uz (l:List UInt8) (hl:l.length≤1000000): ∃ x,cx l=some x:=by
 unfold cx cy
 simp only[fz l (by omega),fA,cZ,cf,CM]
 generalize bX ⟨l,0,0⟩ 2=x
 by_cases h:x.1=0
 ·simp only[if_pos h,CM]
  generalize bX x.2 4=y
  split
  ·split <;> exact⟨_,rfl⟩
  ·split <;> exact⟨_,rfl⟩
 ·simp only[if_neg h,CM]
  generalize bX (bt x.2 7) 4=y
  split
  ·split <;> exact⟨_,rfl⟩
  ·split <;> exact⟨_,rfl⟩
theorem rZ (r:Rec) (h1:r.Cq.data.length≤1000000) (h2:r.Cb.data.length≤1000000): ∃ x1 x2 x3,cG r=some (x1,x2,x3):=by
 obtain⟨⟨k1,k2⟩,hk⟩:=xZ _ h1
 obtain⟨⟨v1,v2⟩,hv⟩:=uz _ h2
 unfold cG
 rw[hk,hv]
 simp only[CM]
 split
 ·exact⟨_,_,_,rfl⟩
 split
 ·exact⟨_,_,_,rfl⟩
 split
 ·exact⟨_,_,_,rfl⟩
 split
 ·split
  ·split
   ·exact⟨_,_,_,rfl⟩
   ·exact⟨_,_,_,rfl⟩
  ·exact⟨_,_,_,rfl⟩
 ·exact⟨_,_,_,rfl⟩
def r6 (a:Bat) (cr e0:Int):Int:=if hO a then (if a.Ct=true then (if a.CI=true then (if fN a then (if (a.B0.length:Int)=1 then (if dM a.B0=0 then (if cr=0 then e0 else cr) else dM a.B0) else 10) else 11) else 8) else (if fN a then (if dM a.B0=0 then e0 else dM a.B0) else 11)) else 11
theorem bchk (a:Bat) (hw:rO a) (cr e0:Int) (hc:hO a→cK a=some e0) (hr:(a.B0.length:Int)=1→ ∃ r x1 x2,a.B0[0]? = some r∧cG r=some (x1,x2,cr)):cH a=some (r6 a cr e0):=by
 obtain⟨w1,w2,w3,w4,w5,w6,w7,w8,w9,w10,w11,w12⟩:=hw
 have hoff: ∀ r,r∈a.B0→wI r.Cd:=fun r h=>(w12.2 r h).2.1
 unfold cH r6
 rw[uy a w1 w2 w6,(oa a w10 w11).1,qX _ _ hoff,qY _ _ hoff]
 by_cases hn:hO a
 ·rw[CP hn,CM,if_pos rfl,if_pos hn,hc hn]
  by_cases hct:a.Ct=true
  ·rw[if_pos hct,if_pos hct]
   by_cases ht:a.CI=true
   ·rw[if_pos ht,if_pos ht,CM]
    by_cases hp:fN a
    ·rw[CP hp,if_pos rfl,if_pos hp]
     by_cases hl:(a.B0.length:Int)=1
     ·obtain⟨r,x1,x2,r1,r2⟩:=hr hl
      rw[if_pos hl,if_pos hl,r1]
      by_cases hf:dM a.B0=0
      ·simp only[if_pos hf,CM,r2]
       split <;> rfl
      ·simp only[if_neg hf,CM]
     ·rw[if_neg hl,if_neg hl]
    ·rw[CS hp,if_neg (by decide),if_neg hp]
   ·rw[if_neg ht,if_neg ht]
  ·rw[if_neg hct,if_neg hct,CM]
   by_cases hp:fN a
   ·rw[CP hp,if_pos rfl,if_pos hp]
    by_cases hf:dM a.B0=0
    ·simp only[if_pos hf,CM]
    ·simp only[if_neg hf,CM]
   ·rw[CS hp,if_neg (by decide),if_neg hp]
 ·rw[CS hn,CM,if_neg (by decide),if_neg hn]
theorem rchk (a:Bat) (hw:rO a) (hb:a.B0.length≤1000000) (hh: ∀ r,r∈a.B0→r.B6.length≤1000000) (cr e0:Int) (hc:hO a→fE a=some e0) (hr:(a.B0.length:Int)=1→ ∃ r x1 x2,a.B0[0]? = some r∧gO r=some (x1,x2,cr)):jh a=some (r6 a cr e0):=by
 obtain⟨w1,w2,w3,w4,w5,w6,w7,w8,w9,w10,w11,w12⟩:=hw
 obtain⟨z,hz⟩:=qZ a hb hh 0 a.B0 0 (((a.B0.length:Int)).toNat+1) rfl (by omega)
 have b1:=w1.1
 have b2:=w1.2
 unfold jh r6
 rw[nJ,nJ,(oa a w10 w11).2]
 simp only[q9]
 rw[hz]
 by_cases hn:hO a
 ·obtain⟨n1,n2,n3,n4,n5,n6⟩:=id hn
  rw[if_neg (show ¬ a.Cn<0 by omega),CP n2,CM,if_pos rfl,CP n3,CM,if_pos rfl,if_pos (show -9223372036854775808≤9223372036854775807 - a.Cn∧9223372036854775807 - a.Cn≤9223372036854775807 by omega),if_neg (show ¬ a.Cl>9223372036854775807 - a.Cn by omega),if_neg (show ¬ a.B9<0 by omega),if_neg (show ¬ a.Cu<0 by omega),if_pos hn,hc hn]
  by_cases hct:a.Ct=true
  ·rw[if_pos hct,if_pos hct]
   by_cases ht:a.CI=true
   ·rw[if_pos ht,if_pos ht,CM]
    by_cases hp:fN a
    ·rw[CP hp,if_pos rfl,if_pos hp]
     by_cases hl:(a.B0.length:Int)=1
     ·obtain⟨r,x1,x2,r1,r2⟩:=hr hl
      rw[if_pos hl,if_pos hl,r1]
      by_cases hf:dM a.B0=0
      ·simp only[if_pos hf,CM,r2]
       split <;> rfl
      ·simp only[if_neg hf,CM]
     ·rw[if_neg hl,if_neg hl]
    ·rw[CS hp,if_neg (by decide),if_neg hp]
   ·rw[if_neg ht,if_neg ht]
  ·rw[if_neg hct,if_neg hct,CM]
   by_cases hp:fN a
   ·rw[CP hp,if_pos rfl,if_pos hp]
    by_cases hf:dM a.B0=0
    ·simp only[if_pos hf,CM]
    ·simp only[if_neg hf,CM]
   ·rw[CS hp,if_neg (by decide),if_neg hp]
 ·rw[if_neg hn]
  unfold hO at hn
  by_cases c1:a.Cn<0
  ·rw[if_pos c1]
  rw[if_neg c1,CM]
  by_cases c2: -1≤a.Ch∧a.Ch≤2147483647
  ·rw[CP c2,if_pos rfl,CM]
   by_cases c3:0≤a.Cl∧a.Cl≤2147483647
   ·rw[CP c3,if_pos rfl,if_pos (show -9223372036854775808≤9223372036854775807 - a.Cn∧9223372036854775807 - a.Cn≤9223372036854775807 by omega)]
    by_cases c4:a.Cl>9223372036854775807 - a.Cn
    ·rw[if_pos c4]
    rw[if_neg c4]
    by_cases c5:a.B9<0
    ·rw[if_pos c5]
    rw[if_neg c5,if_pos (show a.Cu<0 by omega)]
   ·rw[CS c3,if_neg (by decide)]
  ·rw[CS c2,if_neg (by decide)]
theorem pv (a:Bat) (hw:rO a) (hb:a.B0.length≤1000000) (hr: ∀ r,r∈a.B0→r.B6.length≤1000000∧r.Cq.data.length≤1000000∧r.Cb.data.length≤1000000): ∃ cr e0,cH a=some (r6 a cr e0)∧jh a=some (r6 a cr e0)∧(hO a→cK a=some e0)∧((a.B0.length:Int)=1→ ∃ r x1 x2,a.B0[0]? = some r∧cG r=some (x1,x2,cr)∧gO r=some (x1,x2,cr)):=by
 have htim: ∀ r,r∈a.B0→wI r.Co:=fun r h=>(hw.2.2.2.2.2.2.2.2.2.2.2.2 r h).1
 have hF:=hw.2.2.2.2.2.2.1
 obtain⟨e0,he⟩: ∃ e0,hO a→cK a=some e0∧fE a=some e0:=by
  by_cases hn:hO a
  ·obtain⟨e0,h1,h2⟩:=pt a hn.2.2.2.2.1 hF.2 hb htim
   exact⟨e0,fun _=>⟨h1,h2⟩⟩
  ·exact⟨0,fun h=>absurd h hn⟩
 obtain⟨cr,hcr⟩: ∃ cr,(a.B0.length:Int)=1→ ∃ r x1 x2,a.B0[0]? = some r∧cG r=some (x1,x2,cr)∧gO r=some (x1,x2,cr):=by
  by_cases hl:(a.B0.length:Int)=1
  ·obtain⟨r,hrec⟩: ∃ r,a.B0 = [r]:=List.length_eq_one_iff.1 (by omega)
   have h3:=hr r (by rw[hrec]; exact .head _)
   obtain⟨x1,x2,x3,h4⟩:=rZ r h3.2.1 h3.2.2
   have h5:=rW r (by omega) (by omega)
   exact⟨x3,fun _=>⟨r,x1,x2,by rw[hrec]; rfl,h4,by rw[← h5]; exact h4⟩⟩
  ·exact⟨0,fun h=>absurd h hl⟩
 refine⟨cr,e0,bchk a hw cr e0 (fun h=>(he h).1) (fun h=> ?_),rchk a hw hb (fun r h=>(hr r h).1) cr e0 (fun h=>(he h).2) (fun h=> ?_),fun h=>(he h).1,hcr⟩
 ·obtain⟨r,x1,x2,h1,h2,h3⟩:=hcr h
  exact⟨r,x1,x2,h1,h2⟩
 ·obtain⟨r,x1,x2,h1,h2,h3⟩:=hcr h
  exact⟨r,x1,x2,h1,h3⟩
theorem Pr.bind_assoc {α β γ:Type} (p:Pr α) (f:α→Pr β) (g:β→Pr γ):(p.bind f).bind g=p.bind fun a=>(f a).bind g:=by
 funext s q
 unfold Pr.bind
 cases p s q with
 | error e=>rfl
 | ok x=>rfl
theorem Pr.ret_bind {α β:Type} (a:α) (f:α→Pr β):(Pr.ret a).bind f=f a:=by
 funext s q
 rfl
def tj:List Nat→Pr (List Int)
 | []=> .ret []
 | k::ks=>(cM k).bind fun a=>(tj ks).bind fun l=> .ret (a::l)
def mi:List Nat→List Int→List UInt8
 | k::ks,x::xs=>be x k++mi ks xs
 | _,_ => []
def okI:List Nat→List Int→Prop
 | [],[]=>True
 | k::ks,x::xs=>aN x k=true∧okI ks xs
 | _,_=>False
theorem r7: ∀ ks:List Nat,(∀ k,k∈ks→1≤k∧k≤8)→Sp (tj ks) (mi ks) (okI ks)
 | [],_=>by
  refine⟨fun s q l r hq h=> ?_,fun s t q l hq hl hd=> ?_⟩
  ·injection h with h
   obtain⟨rfl,rfl⟩:=C6 h
   exact⟨Dc _,hq,rfl,by simp[mi],trivial⟩
  ·cases l with
   | nil=>rfl
   | cons x xs=>exact nomatch hl
 | k::ks,hk=>by
  have hp:=bB k (hk k (List.mem_cons_self ..)).1 (hk k (List.mem_cons_self ..)).2
  have ih:=r7 ks (fun j hj=>hk j (List.mem_cons_of_mem _ hj))
  refine⟨fun s q l r hq h=> ?_,fun s t q l hq hl hd=> ?_⟩
  ·obtain⟨a,m,h1,h2⟩:=Pr.bind_ok h
   obtain⟨xs,m2,h3,h4⟩:=Pr.bind_ok h2
   injection h4 with h4
   obtain⟨rfl,rfl⟩:=C6 h4
   obtain⟨a1,a2,a3,a4,a5⟩:=hp.spell s q a m hq h1
   obtain⟨b1,b2,b3,b4,b5⟩:=ih.spell s m xs m2 a2 h3
   exact⟨by omega,b2,by simp only[mi,CO]; omega,by rw[b4,a4,mi,CV],a5,b5⟩
  ·cases l with
   | nil=>exact nomatch hl
   | cons x xs =>
    rw[mi,CV] at hd
    have h1:=hp.back s _ q x hq hl.1 hd
    have hl2:=congrArg List.length hd
    rw[C1,CO] at hl2
    have h2:=ih.back s t _ xs (by omega) hl.2 (aY hd)
    rw[tj,Pr.bind_of h1,Pr.bind_of h2,mi,CO,← Nat.add_assoc]
    rfl
def KS:List Nat := [8,4,4,1,4,2,4,8,8,8,2,4,4]
theorem KS_ok: ∀ k,k∈KS→1≤k∧k≤8:=by decide
def s32 (n:Int):Int:=if n>2147483647 then n - 4294967296 else n
def toL (p:Pfx):List Int := [p.Cn,p.Cr,p.Ch,2,s32 p.CC,p.CE,p.Cl,p.B9,p.Cu,p.BX,p.B5,p.Ca,p.CD]
def ckE (b m ct:Int):Int:=if m=2 then (if b<49 then 4 else if ct<0 then 10 else 0) else 6
def chkP:List Int→Pr Pfx
 | [a,b,c,m,s,at',la,fi,mx,pr,ep,sq,ct]=>if ckE b m ct=0 then .ret ⟨a,b,c,s % 4294967296,at',la,fi,mx,pr,ep,sq,ct⟩ else .err (ckE b m ct)
 | _=> .err 1
def wx:Pr Pfx:=(tj KS).bind chkP
def kT (p:Pfx):List UInt8:=mi KS (toL p)
def okP (p:Pfx):Prop:=okI KS (toL p)∧(0≤p.CC∧p.CC≤4294967295)∧49≤p.Cr∧0≤p.CD
theorem vq: ∀ {ks:List Nat} {l:List Int},okI ks l→l.length=ks.length
 | [],[],_=>rfl
 | k::ks,x::xs,h=>by rw[C9,C9,vq h.2]
 | [],_ :: _,h=>nomatch h
 | _ :: _,[],h=>nomatch h
theorem tk: ∀ {ks:List Nat} {l:List Int},okI ks l→(mi ks l).length=ks.sum
 | [],[],_=>rfl
 | k::ks,x::xs,h=>by rw[mi,CO,al,tk h.2,List.sum_cons]
 | [],_ :: _,h=>nomatch h
 | _ :: _,[],h=>nomatch h
theorem len13 {l:List Int} (h:l.length=13): ∃ a b c m s t la fi mx pr ep sq ct,l = [a,b,c,m,s,t,la,fi,mx,pr,ep,sq,ct]:=by
 match l,h with
 | [a,b,c,m,s,t,la,fi,mx,pr,ep,sq,ct],_=>exact⟨a,b,c,m,s,t,la,fi,mx,pr,ep,sq,ct,rfl⟩
theorem ya {s:Int} (h:aN s 4=true):s32 (s % 4294967296)=s:=by
 rw[e9] at h
 have:=of_decide_eq_true h
 unfold s32
 split <;> omega
theorem zu {s:Int} (h:0≤s∧s≤4294967295):s32 s % 4294967296=s:=by
 unfold s32
 split <;> omega
theorem yb {b m ct:Int} (h:ckE b m ct=0):m=2∧49≤b∧0≤ct:=by
 unfold ckE at h
 by_cases h1:m=2
 ·rw[if_pos h1] at h
  by_cases h2:b<49
  ·rw[if_pos h2] at h; cases h
  ·rw[if_neg h2] at h
   by_cases h3:ct<0
   ·rw[if_pos h3] at h; cases h
   ·exact⟨h1,by omega,by omega⟩
 ·rw[if_neg h1] at h; cases h
theorem ckE_of {b ct:Int} (h1:49≤b) (h2:0≤ct):ckE b 2 ct=0:=by
 unfold ckE
 rw[if_pos rfl,if_neg (by omega),if_neg (by omega)]
theorem uA:Sp wx kT okP:=by
 refine⟨fun s q p r hq h=> ?_,fun s t q p hq hp hd=> ?_⟩
 ·obtain⟨l,m,h1,h2⟩:=Pr.bind_ok h
  obtain⟨a1,a2,a3,a4,a5⟩:=(r7 KS KS_ok).spell s q l m hq h1
  obtain⟨a,b,c,mg,sm,t,la,fi,mx,pr,ep,sq,ct,rfl⟩:=len13 (vq a5)
  have hs:aN sm 4=true:=a5.2.2.2.2.1
  unfold chkP at h2
  dsimp only at h2
  by_cases hc:ckE b mg ct=0
  ·rw[if_pos hc] at h2
   injection h2 with h2
   obtain⟨rfl,rfl⟩:=C6 h2
   obtain⟨rfl,c2,c3⟩:=yb hc
   have e:toL ⟨a,b,c,sm % 4294967296,t,la,fi,mx,pr,ep,sq,ct⟩ = [a,b,c,2,sm,t,la,fi,mx,pr,ep,sq,ct]:=by
    unfold toL
    rw[ya hs]
   unfold kT okP
   rw[e]
   exact⟨a1,a2,a3,a4,a5,by show 0≤sm % 4294967296∧sm % 4294967296≤4294967295; omega,c2,c3⟩
  ·rw[if_neg hc] at h2
   exact nomatch h2
 ·have h1:=(r7 KS KS_ok).back s t q (toL p) hq hp.1 hd
  rw[wx,Pr.bind_of h1]
  unfold toL chkP
  dsimp only
  rw[if_pos (ckE_of hp.2.2.1 hp.2.2.2),zu hp.2.1]
  rfl
theorem and32 (n:Int):Go.bits .and .i64 n 4294967295=n % 4294967296:=by
 rw[show (4294967295:Int)=((4294967295:Nat):Int) from rfl,rC n _ (by decide),show (4294967295:Nat)=2 ^ 32 - 1 from rfl,Nat.and_two_pow_sub_one_eq_mod]
 omega
def zP:Pfx:=⟨0,0,0,0,0,0,0,0,0,0,0,0⟩
def yc (a b c m s t la fi mx pr ep sq ct:Int) (st:I):Option (Pfx×I):=(fa st).bind fun (x57,st58)=>(if x57=0 then ((if m=2 then ((if b<49 then ((bg st58 4).bind fun st164=>some st164) else ((if ct<0 then ((bg st58 10).bind fun st172=>some st172) else some st58).bind fun st169=>some st169)).bind fun st161=>some st161) else ((bg st58 6).bind fun st174=>some st174)).bind fun st147=>some st147) else some st58).bind fun st117=>(fa st117).bind fun (x176,st177)=>if x176=0 then (some ((⟨a,b,c,(Go.bits .and .i64 s 4294967295),t,la,fi,mx,pr,ep,sq,ct⟩:Pfx),st177)) else (some ((⟨0,0,0,0,0,0,0,0,0,0,0,0⟩:Pfx),st177))
theorem B_tail (a b c m s t la fi mx pr ep sq ct:Int):CB (yc a b c m s t la fi mx pr ep sq ct) (chkP [a,b,c,m,s,t,la,fi,mx,pr,ep,sq,ct]) zP:=by
 refine rQ (fun st h=> ?_) (fun st h=> ?_)
 ·unfold yc
  rw[aQ,CM]
  dsimp only
  rw[if_neg h,CM,aQ,CM]
  dsimp only
  rw[if_neg h]
  rfl
 ·obtain⟨l,q,e⟩:=st
  obtain rfl:e=0:=h
  unfold yc ckE
  rw[aQ,CM]
  dsimp only
  rw[if_pos rfl,and32]
  by_cases h1:m=2
  ·rw[if_pos h1,if_pos h1]
   by_cases h2:b<49
   ·rw[if_pos h2,if_pos h2,if_neg (by decide)]; rfl
   ·rw[if_neg h2,if_neg h2]
    by_cases h3:ct<0
    ·rw[if_pos h3,if_pos h3,if_neg (by decide)]; rfl
    ·rw[if_neg h3,if_neg h3,if_pos rfl]; rfl
  ·rw[if_neg h1,if_neg h1,if_neg (by decide)]; rfl
theorem B_pfx:CB (fun st=>gT st) wx zP:=by
 have w: ∀ {p:Pr Int} (s:List UInt8) (q:Nat) (a:Int) (r:Nat),s.length≤1000000→q≤s.length→p s q= .ok (a,r)→(fun _:Int=>True) a:=fun _ _ _ _ _ _ _=>trivial
 have h:=CB.bind (fun _=>True) Q8.cb w trivial fun a _=>CB.bind (fun _=>True) Q4.cb w trivial fun b _=>CB.bind (fun _=>True) Q4.cb w trivial fun c _=>CB.bind (fun _=>True) Q1.cb w trivial fun m _=>CB.bind (fun _=>True) Q4.cb w trivial fun s _ =>
  CB.bind (fun _=>True) Q2.cb w trivial fun t _=>CB.bind (fun _=>True) Q4.cb w trivial fun la _=>CB.bind (fun _=>True) Q8.cb w trivial fun fi _=>CB.bind (fun _=>True) Q8.cb w trivial fun mx _=>CB.bind (fun _=>True) Q8.cb w trivial fun pr _ =>
  CB.bind (fun _=>True) Q2.cb w trivial fun ep _=>CB.bind (fun _=>True) Q4.cb w trivial fun sq _=>CB.bind (fun _=>True) Q4.cb w trivial fun ct _=>B_tail a b c m s t la fi mx pr ep sq ct
 refine (h.congr (fun st=>rfl)).pr ?_
 unfold wx KS
 simp only[tj,Pr.bind_assoc,Pr.ret_bind]
def wrI:List Nat→List Int→List UInt8×Int→Option (List UInt8×Int)
 | k::ks,x::xs,st=>(bY st x (k:Int)).bind fun st=>wrI ks xs st
 | _,_,st=>some st
theorem ye: ∀ (ks:List Nat) (l:List Int) (t:List UInt8),okI ks l→t.length+ks.sum≤1000000→wrI ks l (t,0)=some (t++mi ks l,0)
 | [],[],t,_,_=>by unfold wrI mi; rw[Db]
 | [],_ :: _,_,h,_=>nomatch h
 | _ :: _,[],_,h,_=>nomatch h
 | k::ks,x::xs,t,h,hl=>by
  rw[List.sum_cons] at hl
  rw[wrI,bR h.1 (by omega),CM,Dx,ye ks xs _ h.2 (by rw[CO,al]; omega),mi,CV]
def w32 (n:Int):Int:=IntKind.i32.wrap (IntKind.u32.wrap n)
theorem zw (n:Int): -2147483648≤w32 n∧w32 n≤2147483647:=by
 unfold w32
 rw[IntKind.wrap_i32]
 omega
theorem w32_s {n:Int} (h:0≤n∧n≤4294967295):w32 n=s32 n:=by
 unfold w32 s32
 rw[IntKind.wrap_i32,IntKind.wrap_u32]
 split <;> omega
def toW (p:Pfx):List Int := [p.Cn,p.Cr,p.Ch,2,w32 p.CC,p.CE,p.Cl,p.B9,p.Cu,p.BX,p.B5,p.Ca,p.CD]
theorem yf (st:List UInt8×Int) (p:Pfx):ck st p=wrI KS (toW p) (if p.CC<0∨p.CC>4294967295 then gY st 11 else st):=by
 have hw:=zw p.CC
 unfold ck
 have e:((if p.CC<0 then some true else (if p.CC>4294967295 then some true else some false)).bind fun y4=>(if y4=true then ((gE st 11).bind fun st14=>some st14) else some st))=some (if p.CC<0∨p.CC>4294967295 then gY st 11 else st):=by
  by_cases h1:p.CC<0
  ·rw[if_pos h1,CM,if_pos rfl,if_pos (.inl h1)]; rfl
  ·rw[if_neg h1]
   by_cases h2:p.CC>4294967295
   ·rw[if_pos h2,CM,if_pos rfl,if_pos (.inr h2)]; rfl
   ·rw[if_neg h2,CM,if_neg (by decide),if_neg (by omega)]
 have e2: ∀ (K:List UInt8×Int→Option (List UInt8×Int)),((if p.CC<0 then some true else (if p.CC>4294967295 then some true else some false)).bind fun y4=>(if y4=true then ((gE st 11).bind fun st14=>some st14) else some st).bind K)=K (if p.CC<0∨p.CC>4294967295 then gY st 11 else st):=by
  intro K
  rw[← Option.bind_assoc,e,CM]
 rw[e2]
 show (if -9223372036854775808≤w32 p.CC∧w32 p.CC≤9223372036854775807 then _ else _)= _
 rw[if_pos (by omega)]
 rfl
def okWp (p:Pfx):Prop:=okI KS (toL p)∧0≤p.CC∧p.CC≤4294967295
theorem mZ {p:Pfx} (h:okI KS (toL p)):(kT p).length=61:=by
 unfold kT
 rw[tk h]
 rfl
theorem pw {p:Pfx} (t:List UInt8) (h:okWp p) (ht:t.length≤900000):ck (t,0) p=some (t++kT p,0):=by
 have e:toW p=toL p:=by
  unfold toW toL
  rw[w32_s h.2]
 have h2:=h.2
 rw[yf,if_neg (by omega),e]
 exact ye KS (toL p) t h.1 (by show t.length+61≤ _; omega)
theorem gP {st:I} (h:st.err≠0):bQ st=some (⟨false,[]⟩,st):=QV.dead st h
theorem zx {st:I} (h:st.err≠0):oO st=some ([],st):=QN.dead st h
theorem uB:CQ kc (kI 32) 0:=(rL 32 (.inl rfl)).cq (gW 32 (.inl rfl))
theorem ow {st:I} (h:st.err≠0):kc st=some (0,st):=uB.dead st h
def m0 (each:Nat):Pr Int:=(kI 32).bind (mS each)
theorem uC {each:Nat} {s:List UInt8} {q r:Nat} {n:Int} (hq:q≤s.length) (h:m0 each s q= .ok (n,r)):0≤n∧(0<each→n*each≤((s.length - r:Nat):Int))∧q≤r∧r=q+(cg (aS n)).length∧r≤s.length∧s.take r=s.take q++cg (aS n)∧aS n<2 ^ (32:Int).toNat:=by
 obtain⟨m,r',h2,h⟩:=Pr.bind_ok h
 obtain⟨a1,a2,a3,a4,a5⟩:=(gW 32 (.inl rfl)).spell _ _ _ _ hq h2
 unfold mS at h
 split at h
 ·exact nomatch h
 ·rename_i hn
  split at h
  ·exact nomatch h
  ·rename_i he
   injection h with h
   obtain⟨rfl,rfl⟩:=C6 h
   refine⟨by omega,fun hz=> ?_,a1,a3,a2,a4,a5⟩
   have:m≤((s.length - r':Nat):Int) / each:=by
    rcases Int.lt_or_le (((s.length - r':Nat):Int) / each) m with g | g
    ·exact absurd ⟨hz,g⟩ he
    ·exact g
   exact (Int.le_ediv_iff_mul_le (by omega)).1 this
theorem uD {each:Nat} {s t:List UInt8} {q:Nat} {n:Int} (hq:q≤s.length) (hf:aS n<2 ^ (32:Int).toNat) (hn:0≤n) (h:s.drop q=cg (aS n)++t) (hl:0<each→n*each≤t.length):m0 each s q= .ok (n,q+(cg (aS n)).length):=by
 have g:=(gW 32 (.inl rfl)).back s t q n hq hf h
 rw[m0,Pr.bind_of g]
 unfold mS
 have hlen:=congrArg List.length h
 rw[C1,CO] at hlen
 rw[if_neg (by omega),if_neg]
 rintro⟨hz,hc⟩
 have:=(Int.le_ediv_iff_mul_le (show (0:Int)<each by omega)).2 (hl hz)
 rw[show s.length - (q+(cg (aS n)).length)=t.length by omega] at hc
 omega
def vr {α:Type} (each:Nat) (p:Pr α):Pr (List α):=(m0 each).bind fun n=>fM p n.toNat
theorem zy {α:Type} {p:Pr α} {enc:α→List UInt8} {ok:α→Prop} (each:Nat) (hp:Sp p enc ok) (he: ∀ x,ok x→each≤(enc x).length):Sp (vr each p) (fun l=>cg (aS (l.length:Int))++aV enc l) (fun l=>aS (l.length:Int)<2 ^ (32:Int).toNat∧ ∀ x,x∈l→ok x):=by
 refine⟨fun s q a r hq h=> ?_,fun s t q a hq ha h=> ?_⟩
 ·obtain⟨n,q1,g1,h⟩:=Pr.bind_ok h
  obtain⟨a1,a2,a3,a4,a5,a6,a7⟩:=uC hq g1
  obtain⟨b1,b2,b3,b4,b5,b6⟩:=(pd hp n.toNat).spell _ _ _ _ a5 h
  have hn:(a.length:Int)=n:=by omega
  refine⟨by omega,b2,by rw[CO,hn]; omega,by rw[b4,a6,hn,CV],by rw[hn]; exact a7,b6⟩
 ·rw[CV] at h
  have hl:=congrArg List.length h
  rw[C1,CO,CO] at hl
  have g1:=uD (each:=each) hq ha.1 (by omega) h (fun _=>by
   have:=gr he a ha.2
   rw[CO,Int.natCast_add,← Int.natCast_mul]
   omega)
  have h2:=aY h
  have g2:=(pd hp a.length).back _ _ _ _ (by omega) ⟨rfl,ha.2⟩ h2
  rw[vr,Pr.bind_of g1,Dx,g2,CO]
  simp only[Nat.add_assoc]
def pHd:Pr Hd:=qL.bind fun k=>je.bind fun v=> .ret ⟨k,v⟩
def eB (h:Hd):List UInt8:=(cg (aS (h.Cq.length:Int))++h.Cq)++(cg (aS (de h.Cb))++h.Cb.data)
def okHd (h:Hd):Prop:=aS (h.Cq.length:Int)<2 ^ (32:Int).toNat∧aS (de h.Cb)<2 ^ (32:Int).toNat∧aT h.Cb=true
theorem Sp_hd:Sp pHd eB okHd:=by
 refine⟨fun s q a r hq h=> ?_,fun s t q a hq ha h=> ?_⟩
 ·obtain⟨k,q1,h1,h⟩:=Pr.bind_ok h
  obtain⟨v,q2,h2,h⟩:=Pr.bind_ok h
  injection h with h
  obtain⟨rfl,rfl⟩:=C6 h
  obtain⟨a1,a2,a3,a4,a5⟩:=le.spell _ _ _ _ hq h1
  obtain⟨b1,b2,b3,b4,b5⟩:=fX.spell _ _ _ _ a2 h2
  exact⟨by omega,b2,by simp only[eB,CO] at *; omega,by rw[b4,a4]; simp only[eB,CV],a5.1,b5⟩
 ·obtain⟨a1,a2,a3⟩:=ha
  have hl:=congrArg List.length h
  rw[eB,CV] at h
  have g1:=le.back _ _ _ _ hq ⟨a1,rfl⟩ h
  have h:=aY h
  have g2:=fX.back _ _ _ _ (by simp only[eB,C1,CO] at *; omega) ⟨a2,a3⟩ h
  rw[pHd,Pr.bind_of g1,Pr.bind_of g2]
  simp only[Pr.ret,eB,CO,Nat.add_assoc]
theorem yg (h:Hd) (ho:okHd h):2≤(eB h).length:=by
 have h1:=iG (aS (h.Cq.length:Int))
 have h2:=iG (aS (de h.Cb))
 simp only[eB,CO]
 omega
def wy:Pr (List Hd):=vr 2 pHd
theorem yh:Sp wy (fun l=>cg (aS (l.length:Int))++aV eB l) (fun l=>aS (l.length:Int)<2 ^ (32:Int).toNat∧ ∀ h,h∈l→okHd h):=zy 2 Sp_hd yg
theorem vt (n:Int) (s:List UInt8) (hs:s.length≤1000000) (hn:n≤1000000): ∀ (m fuel k:Nat) (acc:List Hd) (q:Nat),((k+m:Nat):Int)=n→m<fuel→q≤s.length→acc.length=k →
 (∃ (e:Int) (st:I),fM pHd m s q= .error e∧co n fuel [] acc k ⟨s.drop q,q,0⟩=some (.ret ([],st))∧st.err=e∧st.err≠0) ∨
 (∃ l r,fM pHd m s q= .ok (l,r)∧co n fuel [] acc k ⟨s.drop q,q,0⟩=some (.go ([],acc++l,k+m,⟨s.drop r,r,0⟩))∧q≤r∧r≤s.length)
 | 0,fuel+1,k,acc,q,h1,h2,h3,h4=> .inr ⟨[],q,rfl,by rw[co,if_neg (by omega),Db]; rfl,Dc _,h3⟩
 | m+1,fuel+1,k,acc,q,h1,h2,h3,h4=>by
  rw[co,if_pos (by omega)]
  rcases QN.run s q h3 with⟨e,st,p1,g1,x1,y1⟩ | ⟨nm,q1,p1,g1,n1,l1⟩
  ·left
   refine⟨e,st,by rw[fM,Pr.bind_err (show pHd s q= .error e from Pr.bind_err p1)],?_,x1,y1⟩
   rw[g1,CM]
   simp only
   rw[gP y1,CM]
   simp only
   rw[if_pos (by omega),aQ,CM]
   simp only
   rw[if_neg y1]
  rw[g1,CM]
  simp only
  rcases QV.run s q1 l1 with⟨e,st,p2,g2,x2,y2⟩ | ⟨v,q2,p2,g2,n2,l2⟩
  ·left
   have ht:pHd s q= .error e:=by rw[pHd,Pr.bind_of p1,Pr.bind_err p2]
   refine⟨e,st,by rw[fM,Pr.bind_err ht],?_,x2,y2⟩
   rw[g2,CM]
   simp only
   rw[if_pos (by omega),aQ,CM]
   simp only
   rw[if_neg y2]
  rw[g2,CM]
  simp only
  rw[if_pos (by omega),aQ,CM]
  simp only[if_true]
  rw[if_pos (by omega)]
  have ht:pHd s q= .ok (⟨nm,v⟩,q2):=by rw[pHd,Pr.bind_of p1,Pr.bind_of p2]; rfl
  rw[fM,Pr.bind_of ht]
  rcases vt n s hs hn m fuel (k+1) (acc ++ [(⟨nm,v⟩:Hd)]) q2 (by omega) (by omega) l2 (by rw[CO,h4]; rfl) with⟨e,st,r1,r2,r3,r4⟩ | ⟨l,r,r1,r2,r3,r4⟩
  ·exact .inl ⟨e,st,by rw[Pr.bind_err r1],r2,r3,r4⟩
  ·refine .inr ⟨⟨nm,v⟩::l,r,by rw[Pr.bind_of r1]; rfl,?_,by omega,r4⟩
   rw[r2,CV,show k+1+m=k+(m+1) by omega]
   rfl
theorem B_hds:CB bf wy []:=by
 refine⟨fun st h=> ?_,fun s q hs hq=> ?_⟩
 ·unfold bf
  rw[ow h,CM]
  simp only
  rw[aQ,CM]
  simp only
  rw[if_neg h]
 ·unfold bf
  rcases uB.run s q hq with⟨e,st,p1,g1,x1,y1⟩ | ⟨c,q1,p1,g1,n1,l1⟩
  ·refine .inl ⟨e,st,Pr.bind_err (Pr.bind_err p1),?_,x1,y1⟩
   rw[g1,CM]
   simp only
   rw[aQ,CM]
   simp only
   rw[if_neg y1]
  ·rw[g1,CM]
   simp only
   rw[aQ,CM]
   simp only[if_true]
   have hd:(s.drop q1).length=s.length - q1:=C1
   have hE:wy s q=((mS 2 c).bind fun n=>fM pHd n.toNat) s q1:=by
    unfold wy vr m0 Pr.bind
    rw[p1]
   rw[hE]
   unfold Pr.bind mS
   by_cases hn:c<0
   ·rw[if_pos hn,if_pos hn]
    exact .inl ⟨4,_,rfl,rfl,rfl,by simp[bt]⟩
   rw[if_neg hn,if_neg hn,my,CM]
   simp only
   rw[hd,if_pos (show 0≤((s.length - q1:Nat):Int)∧((s.length - q1:Nat):Int)≤9223372036854775807 by omega)]
   by_cases hc:0<2∧((s.length - q1:Nat):Int) / ((2:Nat):Int)<c
   ·have hc2:c>((s.length - q1:Nat):Int) / 2:=hc.2
    rw[if_pos hc,if_pos hc2]
    exact .inl ⟨1,_,rfl,rfl,rfl,by simp[bt]⟩
   ·have hc2: ¬ c>((s.length - q1:Nat):Int) / 2:=fun h=>hc ⟨by decide,h⟩
    rw[if_neg hc,if_neg hc2]
    simp only
    rcases vt c s hs (by omega) c.toNat (c.toNat+1) 0 [] q1 (by omega) (by omega) l1 rfl with⟨e,st,r1,r2,r3,r4⟩ | ⟨l,r,r1,r2,r3,r4⟩
    ·exact .inl ⟨e,st,r1,by rw[r2]; rfl,r3,r4⟩
    ·refine .inr ⟨l,r,r1,?_,by omega,r4⟩
     rw[r2,CW]
     rfl
def hwt (h:Hd):Nat:=20+h.Cq.length+h.Cb.data.length
def jp:List Hd→Nat
 | []=>0
 | h::l=>hwt h+jp l
theorem gy (n:Int) (h: -1≤n) (h2:n≤2147483647):(cg (aS n)).length≤10:=iH _ (f3 n (by omega) (by omega))
theorem iR (n:Int) (h: -1≤n) (h2:n≤2147483647):aS n<2 ^ (32:Int).toNat:=by
 rw[show 2 ^ (32:Int).toNat=4294967296 by decide]
 exact tR n ⟨by omega,h2⟩
theorem iS (b:Bl) (h:b.data.length≤2147483647): -1≤de b∧de b≤2147483647:=by unfold de; split <;> omega
theorem ra (h:Hd) (hk:h.Cq.length≤1000000) (hv:h.Cb.data.length≤1000000):(eB h).length≤hwt h:=by
 have h1:=gy (h.Cq.length:Int) (by omega) (by omega)
 have hb:=iS h.Cb (by omega)
 have h2:=gy (de h.Cb) hb.1 hb.2
 simp only[eB,CO,hwt]
 omega
theorem px: ∀ l:List Hd,jp l≤1000000→(aV eB l).length≤jp l
 | [],h=>Dc _
 | x::l,h=>by
  have h1:hwt x≤jp (x::l):=by rw[jp]; omega
  have h2:=px l (by rw[jp] at h; omega)
  have h3:=ra x (by unfold hwt at h1; omega) (by unfold hwt at h1; omega)
  rw[aV,CO,jp]
  omega
theorem pz {t d:List UInt8} (hf:d.length≤1000000) (ht:t.length≤1000000000):jA (t,0) d=some (t++(cg (aS (d.length:Int))++d),0):=by
 have:=iy (t:=t) (b:=⟨false,d⟩) rfl (by simp only; omega) (by simp only; omega)
 rw[sH _ _ (by simp only; omega)]
 rw[lI _ _ (by simp only; omega)] at this
 exact this
theorem hw_l1: ∀ (l:List Hd) (t:List UInt8),(∀ h,h∈l→aT h.Cb=true)→t.length+jp l≤1000000→cA l (t,0)=some (t++aV eB l,0)
 | [],t,h,hl=>by rw[cA,aV,Db]
 | x::l,t,h,hl=>by
  have hx:t.length+(hwt x+jp l)≤1000000:=hl
  have h1:=ra x (by unfold hwt at hx; omega) (by unfold hwt at hx; omega)
  have h2:(cg (aS (x.Cq.length:Int))++x.Cq).length≤(eB x).length:=by simp only[eB,CO]; omega
  have e:t++(cg (aS (x.Cq.length:Int))++x.Cq)++(cg (aS (de x.Cb))++x.Cb.data)=t++eB x:=by simp only[eB,CV]
  have h3:(t++(cg (aS (x.Cq.length:Int))++x.Cq)).length=t.length+(cg (aS (x.Cq.length:Int))++x.Cq).length:=CO
  rw[cA,pz (by unfold hwt at hx; omega) (by omega),CM,iy (h x (.head _)) (by unfold hwt at hx; omega) (by rw[h3]; unfold hwt at hx h1; omega),CM,e,hw_l1 l _ (fun y hy=>h y (.tail _ hy)) (by rw[CO]; omega),aV,CV]
theorem m1: ∀ l:List Hd,l.length*20≤jp l
 | []=>by simp[jp]
 | h::l=>by have:=m1 l; simp only[jp,hwt,C9]; omega
theorem tl: ∀ (l:List Hd) (h:Hd),h∈l→hwt h≤jp l
 | x::l,h,hm=>by
  rcases List.mem_cons.1 hm with rfl | hm
  ·simp only[jp]; omega
  ·have:=tl l h hm; simp only[jp]; omega
theorem yi (l:List Hd) (t:List UInt8) (h: ∀ x,x∈l→aT x.Cb=true) (ht:t.length+10+jp l≤1000000):fm (t,0) l=some (t++(cg (aS (l.length:Int))++aV eB l),0):=by
 have hn:=m1 l
 have h1:=gy (l.length:Int) (by omega) (by omega)
 unfold fm
 rw[oM _ _ ⟨by omega,by simp only; omega⟩]
 unfold fx
 rw[if_pos (by omega),gL,CM,hw_l1 l _ h (by rw[CO]; omega),CV]
 rfl
theorem vu:CQ iJ (kI 64) 0:=(rL 64 (.inr rfl)).cq (gW 64 (.inr rfl))
theorem tn {st:I} (h:st.err≠0):iJ st=some (0,st):=vu.dead st h
theorem eR {st:I} (h:st.err≠0):cc st=some (st.err,st):=by rw[cZ,lS h]
def pA:Pr Unit:=fun s q=>if q=s.length then .ok ((),q) else .error 2
def qm:Rec:=⟨0,0,⟨false,[]⟩,⟨false,[]⟩,[]⟩
def ob:Pr Rec:=(cM 1).bind fun z=>if z=0 then (kI 64).bind fun t=>(kI 32).bind fun o=>if o<0 then .err 11 else je.bind fun k=>je.bind fun v=>wy.bind fun h=>pA.bind fun _=> .ret ⟨t,o,k,v,h⟩ else .err 8
def pC (st9:I):Option (Rec×Int):=(bW st9 1).bind fun (x12,st13)=>if x12=0 then ((iJ st13).bind fun (x16,st17)=>(kc st17).bind fun (x19,st20)=>if x19<0 then ((bg st20 11).bind fun st24=>(bQ st24).bind fun (x26,st27)=>(bQ st27).bind fun (x29,st30)=>(bf st30).bind fun (x32,st35)=>(cc st35).bind fun (x37,st38)=>some ((⟨x16,x19,x26,x29,x32⟩:Rec),x37)) else ((bQ st20).bind fun (x43,st44)=>(bQ st44).bind fun (x46,st47)=>(bf st47).bind fun (x49,st52)=>(cc st52).bind fun (x54,st55)=>some ((⟨x16,x19,x43,x46,x49⟩:Rec),x54))) else ((bg st13 8).bind fun st60=>(iJ st60).bind fun (x62,st63)=>(kc st63).bind fun (x65,st66)=>if x65<0 then ((bg st66 11).bind fun st70=>(bQ st70).bind fun (x72,st73)=>(bQ st73).bind fun (x75,st76)=>(bf st76).bind fun (x78,st81)=>(cc st81).bind fun (x83,st84)=>some ((⟨x62,x65,x72,x75,x78⟩:Rec),x83)) else ((bQ st66).bind fun (x89,st90)=>(bQ st90).bind fun (x92,st93)=>(bf st93).bind fun (x95,st98)=>(cc st98).bind fun (x100,st101)=>some ((⟨x62,x65,x89,x92,x95⟩:Rec),x100)))
theorem yj (s:List UInt8) (hs:s.length≤1000000):(∃ e x,ob s 0= .error e∧pC ⟨s,0,0⟩=some (x,e)∧e≠0)∨(∃ x,ob s 0= .ok (x,s.length)∧pC ⟨s,0,0⟩=some (x,0)):=by
 unfold pC ob
 have r0:=Q1.run s 0 (Da _)
 rw[List.drop_zero] at r0
 have hB:=B_hds
 rcases r0 with⟨e,st,p0,g0,x0,y0⟩ | ⟨z,q0,p0,g0,n0,l0⟩
 ·refine .inl ⟨e,⟨0,0,⟨false,[]⟩,⟨false,[]⟩,[]⟩,Pr.bind_err p0,?_,by rw[← x0]; exact y0⟩
  rw[g0]
  simp only[CM,if_true,tn y0,ow y0,gP y0,hB.dead _ y0,eR y0,x0,show ¬ (0:Int)<0 by decide,if_false]
 rw[g0,CM]
 simp only
 by_cases hz:z=0
 ·rw[if_pos hz,Pr.bind_of p0,if_pos hz]
  rcases vu.run s q0 l0 with⟨e,st,p1,g1,x1,y1⟩ | ⟨a,q1,p1,g1,n1,l1⟩
  ·refine .inl ⟨e,⟨0,0,⟨false,[]⟩,⟨false,[]⟩,[]⟩,Pr.bind_err p1,?_,by rw[← x1]; exact y1⟩
   rw[g1]
   simp only[CM,if_true,ow y1,gP y1,hB.dead _ y1,eR y1,x1,show ¬ (0:Int)<0 by decide,if_false]
  rw[g1,CM,Pr.bind_of p1]
  simp only
  rcases uB.run s q1 l1 with⟨e,st,p2,g2,x2,y2⟩ | ⟨o,q2,p2,g2,n2,l2⟩
  ·refine .inl ⟨e,⟨a,0,⟨false,[]⟩,⟨false,[]⟩,[]⟩,Pr.bind_err p2,?_,by rw[← x2]; exact y2⟩
   rw[g2]
   simp only[CM,if_true,gP y2,hB.dead _ y2,eR y2,x2,show ¬ (0:Int)<0 by decide,if_false]
  rw[g2,CM,Pr.bind_of p2]
  simp only
  by_cases ho:o<0
  ·rw[if_pos ho,if_pos ho,cf,CM,lf]
   have y:(⟨s.drop q2,q2,11⟩:I).err≠0:=by simp
   refine .inl ⟨11,⟨a,o,⟨false,[]⟩,⟨false,[]⟩,[]⟩,rfl,?_,by decide⟩
   simp only[CM,gP y,hB.dead _ y,eR y]
  rw[if_neg ho,if_neg ho]
  rcases QV.run s q2 l2 with⟨e,st,p3,g3,x3,y3⟩ | ⟨k,q3,p3,g3,n3,l3⟩
  ·refine .inl ⟨e,⟨a,o,⟨false,[]⟩,⟨false,[]⟩,[]⟩,Pr.bind_err p3,?_,by rw[← x3]; exact y3⟩
   rw[g3]
   simp only[CM,gP y3,hB.dead _ y3,eR y3,x3]
  rw[g3,CM,Pr.bind_of p3]
  simp only
  rcases QV.run s q3 l3 with⟨e,st,p4,g4,x4,y4⟩ | ⟨v,q4,p4,g4,n4,l4⟩
  ·refine .inl ⟨e,⟨a,o,k,⟨false,[]⟩,[]⟩,Pr.bind_err p4,?_,by rw[← x4]; exact y4⟩
   rw[g4]
   simp only[CM,hB.dead _ y4,eR y4,x4]
  rw[g4,CM,Pr.bind_of p4]
  simp only
  rcases hB.run s q4 hs l4 with⟨e,st,p5,g5,x5,y5⟩ | ⟨h,q5,p5,g5,n5,l5⟩
  ·refine .inl ⟨e,⟨a,o,k,v,[]⟩,Pr.bind_err p5,?_,by rw[← x5]; exact y5⟩
   rw[g5]
   simp only[CM,eR y5,x5]
  rw[g5,CM,Pr.bind_of p5]
  simp only
  rw[cZ,CM]
  simp only
  by_cases hq:q5=s.length
  ·have he:pA s q5= .ok ((),q5):=by unfold pA; rw[if_pos hq]
   have hi:(bU ⟨s.drop q5,q5,0⟩).err=0:=by rw[hq,List.drop_length]; rfl
   rw[Pr.bind_of he,hi]
   exact .inr ⟨⟨a,o,k,v,h⟩,by rw[hq]; rfl,rfl⟩
  ·have he:pA s q5= .error 2:=by unfold pA; rw[if_neg hq]
   have hi:(bU ⟨s.drop q5,q5,0⟩).err=2:=by
    unfold bU
    rw[if_neg]
    ·rfl
    ·intro h0
     have:=List.drop_eq_nil_iff.1 h0
     omega
   rw[Pr.bind_err he,hi]
   exact .inl ⟨2,_,rfl,rfl,by decide⟩
 ·rw[if_neg hz,Pr.bind_of p0,if_neg hz,cf,CM,lf]
  have y:(⟨s.drop q0,q0,8⟩:I).err≠0:=by simp
  refine .inl ⟨8,⟨0,0,⟨false,[]⟩,⟨false,[]⟩,[]⟩,rfl,?_,by decide⟩
  simp only[CM,if_true,tn y,ow y,gP y,hB.dead _ y,eR y,show ¬ (0:Int)<0 by decide,if_false]
def tp:Pr Rec:=fun s q=>match qL s q with
 | .error e=> .error e
 | .ok (d,r)=>match ob d 0 with
  | .error e=> .error e
  | .ok (x,_)=> .ok (x,r)
theorem rc (st9 st6:I) (x:Rec) (e:Int) (h:pC st9=some (x,e)):((bW st9 1).bind fun (x12,st13)=>if x12=0 then ((iJ st13).bind fun (x16,st17)=>(kc st17).bind fun (x19,st20)=>if x19<0 then ((bg st20 11).bind fun st24=>(bQ st24).bind fun (x26,st27)=>(bQ st27).bind fun (x29,st30)=>(bf st30).bind fun (x32,st35)=>(cc st35).bind fun (x37,st38)=>if x37=0 then (some ((⟨x16,x19,x26,x29,x32⟩:Rec),st6)) else ((bg st6 x37).bind fun st41=>some (qm,st41))) else ((bQ st20).bind fun (x43,st44)=>(bQ st44).bind fun (x46,st47)=>(bf st47).bind fun (x49,st52)=>(cc st52).bind fun (x54,st55)=>if x54=0 then (some ((⟨x16,x19,x43,x46,x49⟩:Rec),st6)) else ((bg st6 x54).bind fun st58=>some (qm,st58)))) else ((bg st13 8).bind fun st60=>(iJ st60).bind fun (x62,st63)=>(kc st63).bind fun (x65,st66)=>if x65<0 then ((bg st66 11).bind fun st70=>(bQ st70).bind fun (x72,st73)=>(bQ st73).bind fun (x75,st76)=>(bf st76).bind fun (x78,st81)=>(cc st81).bind fun (x83,st84)=>if x83=0 then (some ((⟨x62,x65,x72,x75,x78⟩:Rec),st6)) else ((bg st6 x83).bind fun st87=>some (qm,st87))) else ((bQ st66).bind fun (x89,st90)=>(bQ st90).bind fun (x92,st93)=>(bf st93).bind fun (x95,st98)=>(cc st98).bind fun (x100,st101)=>if x100=0 then (some ((⟨x62,x65,x89,x92,x95⟩:Rec),st6)) else ((bg st6 x100).bind fun st104=>some (qm,st104)))))=if e=0 then some (x,st6) else some (qm,bt st6 e):=by
 unfold pC at h
 revert h
 have hop: ∀ (o:Option (List Hd×I)) (f:List Hd→Rec),((o.bind fun (a,s1)=>(cc s1).bind fun (b,s2)=>some (f a,b))=some (x,e))→(o.bind fun (a,s1)=>(cc s1).bind fun (b,s2)=>if b=0 then some (f a,st6) else (bg st6 b).bind fun s3=>some (qm,s3))=if e=0 then some (x,st6) else some (qm,bt st6 e):=by
  intro o f h
  cases o with
  | none=>exact nomatch h
  | some y =>
   rw[CM] at h ⊢
   simp only[cZ,CM] at h ⊢
   injection h with h
   obtain⟨rfl,rfl⟩:=C6 h
   by_cases hz:(bU y.2).err=0
   ·rw[if_pos hz,if_pos hz]
   ·rw[if_neg hz,if_neg hz]
    rfl
 simp only[fA,vS,wZ,tY,cf,CM]
 intro h
 split at h
 ·rename_i h1
  rw[if_pos h1]
  split at h
  ·rename_i h2
   rw[if_pos h2]
   exact hop _ (fun a=>⟨_,_,_,_,a⟩) h
  ·rename_i h2
   rw[if_neg h2]
   exact hop _ (fun a=>⟨_,_,_,_,a⟩) h
 ·rename_i h1
  rw[if_neg h1]
  split at h
  ·rename_i h2
   rw[if_pos h2]
   exact hop _ (fun a=>⟨_,_,_,_,a⟩) h
  ·rename_i h2
   rw[if_neg h2]
   exact hop _ (fun a=>⟨_,_,_,_,a⟩) h
theorem yk:CB dZ tp qm:=by
 refine⟨fun st h=> ?_,fun s q hs hq=> ?_⟩
 ·unfold dZ
  rw[zx h,CM]
  simp only
  rw[aQ,CM]
  simp only
  rw[if_neg h]
  rfl
 ·unfold dZ tp
  rcases QN.run s q hq with⟨e,st,p1,g1,x1,y1⟩ | ⟨d,r,p1,g1,n1,l1⟩
  ·refine .inl ⟨e,st,by rw[p1],?_,x1,y1⟩
   rw[g1,CM]
   simp only
   rw[aQ,CM]
   simp only
   rw[if_neg y1]
   rfl
  ·have hsp:=le.spell _ _ _ _ hq p1
   have hdl:d.length≤1000000:=by
    have:=hsp.2.2.1
    rw[CO] at this
    omega
   rw[g1,p1,CM]
   simp only
   rw[aQ,CM]
   simp only[if_true]
   rw[fz _ (by omega),CM]
   rcases yj d hdl with⟨e,x,b1,b2,b3⟩ | ⟨x,b1,b2⟩
   ·have hb:=rc ⟨d,0,0⟩ ⟨s.drop r,r,0⟩ x e b2
    rw[if_neg b3] at hb
    rw[b1]
    exact .inl ⟨e,_,rfl,hb,rfl,b3⟩
   ·have hb:=rc ⟨d,0,0⟩ ⟨s.drop r,r,0⟩ x 0 b2
    rw[if_pos rfl] at hb
    rw[b1]
    exact .inr ⟨x,r,rfl,hb,n1,l1⟩
def ir (b:Bl):List UInt8:=cg (aS (de b))++b.data
def kU (l:List Hd):List UInt8:=cg (aS (l.length:Int))++aV eB l
def ci (x:Rec):List UInt8:=be 0 1++(cg (aS x.Co)++(cg (aS x.Cd)++(ir x.Cq++(ir x.Cb++kU x.B6))))
def okBl (b:Bl):Prop:=aS (de b)<2 ^ (32:Int).toNat∧aT b=true
def okHs (l:List Hd):Prop:=aS (l.length:Int)<2 ^ (32:Int).toNat∧ ∀ h,h∈l→okHd h
def pD (x:Rec):Prop:=aS x.Co<2 ^ (64:Int).toNat∧(aS x.Cd<2 ^ (32:Int).toNat∧0≤x.Cd)∧okBl x.Cq∧okBl x.Cb∧okHs x.B6
theorem uE {s:List UInt8} {x:Rec} {r:Nat} (h:ob s 0= .ok (x,r)):s=ci x∧pD x:=by
 obtain⟨z,q0,h0,h⟩:=Pr.bind_ok h
 split at h
 ·rename_i hz
  subst hz
  obtain⟨t,q1,h1,h⟩:=Pr.bind_ok h
  obtain⟨o,q2,h2,h⟩:=Pr.bind_ok h
  split at h
  ·exact nomatch h
  ·rename_i ho
   obtain⟨k,q3,h3,h⟩:=Pr.bind_ok h
   obtain⟨v,q4,h4,h⟩:=Pr.bind_ok h
   obtain⟨hs,q5,h5,h⟩:=Pr.bind_ok h
   obtain⟨u,q6,h6,h⟩:=Pr.bind_ok h
   injection h with h
   obtain⟨rfl,rfl⟩:=C6 h
   obtain⟨-,a2,-,a4,a5⟩:=(bB 1 (by decide) (by decide)).spell _ _ _ _ (Da _) h0
   obtain⟨-,b2,-,b4,b5⟩:=(gW 64 (.inr rfl)).spell _ _ _ _ a2 h1
   obtain⟨-,c2,-,c4,c5⟩:=(gW 32 (.inl rfl)).spell _ _ _ _ b2 h2
   obtain⟨-,d2,-,d4,d5⟩:=fX.spell _ _ _ _ c2 h3
   obtain⟨-,e2,-,e4,e5⟩:=fX.spell _ _ _ _ d2 h4
   obtain⟨-,f2,-,f4,f5⟩:=yh.spell _ _ _ _ e2 h5
   have hq:q5=s.length:=by
    unfold pA at h6
    split at h6
    ·rename_i hh; exact hh
    ·exact nomatch h6
   refine⟨?_,b5,⟨c5,by simp only; omega⟩,d5,e5,f5⟩
   have hs2:s=s.take q5:=by rw[hq,List.take_length]
   rw[hs2,f4,e4,d4,c4,b4,a4]
   simp only[ci,ir,kU,CV,List.take_zero,CW]
 ·exact nomatch h
theorem SpV:Sp je ir okBl:=fX
theorem SpH:Sp wy kU okHs:=yh
theorem wz {x:Rec} (h:pD x):ob (ci x) 0= .ok (x,(ci x).length):=by
 obtain⟨h1,⟨h2,h3⟩,h4,h5,h6⟩:=h
 have hd:(ci x).drop 0=ci x:=rfl
 have hlen:(ci x).length=1+((cg (aS x.Co)).length+((cg (aS x.Cd)).length+((ir x.Cq).length+((ir x.Cb).length+(kU x.B6).length)))):=by
  simp only[ci,CO,al]
 generalize hE:ci x=E at hd hlen ⊢
 have hh:E.drop 0=be 0 1++(cg (aS x.Co)++(cg (aS x.Cd)++(ir x.Cq++(ir x.Cb++(kU x.B6 ++ []))))):=by
  rw[hd,← hE]
  simp only[ci,Db]
 have g0:=(bB 1 (by decide) (by decide)).back _ _ _ 0 (Da _) (by decide) hh
 have hh:=aY hh
 rw[al] at hh g0
 have g1:=(gW 64 (.inr rfl)).back _ _ _ _ (by omega) h1 hh
 have hh:=aY hh
 have g2:=(gW 32 (.inl rfl)).back _ _ _ _ (by omega) h2 hh
 have hh:=aY hh
 have g3:=SpV.back _ _ _ _ (by omega) h4 hh
 have hh:=aY hh
 have g4:=SpV.back _ _ _ _ (by omega) h5 hh
 have hh:=aY hh
 have g5:=SpH.back _ _ _ _ (by omega) h6 hh
 rw[ob,Pr.bind_of g0,if_pos rfl,Pr.bind_of g1,Pr.bind_of g2,if_neg (by omega),Pr.bind_of g3,Pr.bind_of g4,Pr.bind_of g5]
 have he:0+1+(cg (aS x.Co)).length+(cg (aS x.Cd)).length+(ir x.Cq).length+(ir x.Cb).length+(kU x.B6).length=E.length:=by omega
 rw[he,Pr.bind_of (a:=()) (r:=E.length) (by unfold pA; rw[if_pos rfl])]
 rfl
def cu (x:Rec):List UInt8:=cg (aS ((ci x).length:Int))++ci x
theorem r8:Sp tp cu (fun x=>pD x∧aS ((ci x).length:Int)<2 ^ (32:Int).toNat):=by
 refine⟨fun s q a r hq h=> ?_,fun s t q a hq ha h=> ?_⟩
 ·unfold tp at h
  cases hp:qL s q with
  | error e=>rw[hp] at h; exact nomatch h
  | ok y =>
   obtain⟨d,r'⟩:=y
   rw[hp] at h
   simp only at h
   obtain⟨a1,a2,a3,a4,a5⟩:=le.spell _ _ _ _ hq hp
   cases hb:ob d 0 with
   | error e=>rw[hb] at h; exact nomatch h
   | ok z =>
    rw[hb] at h
    injection h with h
    obtain⟨rfl,rfl⟩:=C6 h
    obtain⟨b1,b2⟩:=uE (x:=z.1) (r:=z.2) hb
    unfold cu
    rw[← b1]
    exact⟨a1,a2,a3,a4,b2,a5.1⟩
 ·have g1:=le.back s t q (ci a) hq ⟨ha.2,rfl⟩ h
  unfold tp
  rw[g1]
  simp only
  rw[wz ha.1]
  rfl
def rwt (x:Rec):Nat:=x.Cq.data.length+x.Cb.data.length+jp x.B6
theorem lj (b:Bl) (h:b.data.length≤1000000):(ir b).length≤10+b.data.length:=by
 have hb:=iS b (by omega)
 have:=gy (de b) hb.1 hb.2
 rw[ir,CO]
 omega
theorem wA (l:List Hd) (h:jp l≤1000000):(kU l).length≤10+jp l:=by
 have hn:=m1 l
 have h1:=gy (l.length:Int) (by omega) (by omega)
 have h2:=px l h
 rw[kU,CO]
 omega
theorem oc (x:Rec) (ht:wI x.Co) (ho:wI x.Cd) (hw:rwt x≤900000):(ci x).length≤51+rwt x:=by
 unfold rwt at hw ⊢
 have h1:=iH _ (f3 x.Co ht.1 ht.2)
 have h2:=iH _ (f3 x.Cd ho.1 ho.2)
 have h3:=lj x.Cq (by omega)
 have h4:=lj x.Cb (by omega)
 have h5:=wA x.B6 (by omega)
 simp only[ci,CO,al]
 omega
theorem uF (x:Rec) (ht:wI x.Co) (ho:0≤x.Cd∧x.Cd≤2147483647) (hk:aT x.Cq=true) (hv:aT x.Cb=true) (hh: ∀ h,h∈x.B6→aT h.Cb=true) (hw:rwt x≤900000):fO x=some (ci x,0):=by
 unfold rwt at hw
 have h1:=iH _ (f3 x.Co ht.1 ht.2)
 have h2:=iH _ (f3 x.Cd (by omega) (by omega))
 have h3:=lj x.Cq (by omega)
 have h4:=lj x.Cb (by omega)
 unfold ir at h3 h4
 unfold fO
 rw[nr _ _ (by simp),CM,show fh ([],0) [UInt8.ofNat (0:Int).toNat]=(be 0 1,0) from by decide]
 have l1:(be 0 1).length=1:=al 0 1
 generalize hb0:be 0 1=b0 at l1
 rw[sF _ _ ⟨ht,by simp only; omega⟩,CM,gL]
 have l2:(b0++cg (aS x.Co)).length≤11:=by rw[CO]; omega
 generalize hB1:b0++cg (aS x.Co)=B1 at l2
 rw[oM _ _ ⟨by omega,by simp only; omega⟩,CM]
 unfold fx
 rw[if_pos (by omega),gL]
 have l3:(B1++cg (aS x.Cd)).length≤21:=by rw[CO]; omega
 generalize hB2:B1++cg (aS x.Cd)=B2 at l3
 rw[iy hk (by omega) (by omega),CM]
 have l4:(B2++(cg (aS (de x.Cq))++x.Cq.data)).length≤31+x.Cq.data.length:=by rw[CO]; omega
 generalize hB3:B2++(cg (aS (de x.Cq))++x.Cq.data)=B3 at l4
 rw[iy hv (by omega) (by omega),CM]
 have l5:(B3++(cg (aS (de x.Cb))++x.Cb.data)).length≤41+x.Cq.data.length+x.Cb.data.length:=by rw[CO]; omega
 generalize hB4:B3++(cg (aS (de x.Cb))++x.Cb.data)=B4 at l5
 rw[yi _ _ hh (by omega),CM,fy,CM,lN]
 rw[← hB4,← hB3,← hB2,← hB1,← hb0]
 simp only[ci,ir,kU,CV]
theorem pE {x:Rec} (h:dt x=0):(0≤x.Cd∧x.Cd≤2147483647)∧aT x.Cq=true∧aT x.Cb=true∧ ∀ h,h∈x.B6→aT h.Cb=true:=by
 unfold dt at h
 split at h
 ·exact absurd h (by decide)
 ·rename_i h1
  split at h
  ·rename_i h2
   simp only[Bool.and_eq_true] at h2
   exact⟨by omega,h2.1.1,h2.1.2,fun y hy=>List.all_eq_true.1 h2.2 y hy⟩
  ·exact absurd h (by decide)
theorem rd (x:Rec) (t:List UInt8) (ht:wI x.Co) (ho:wI x.Cd) (hw:rwt x≤900000) (hl:t.length≤100000000):ej (t,0) x=some (if dt x=0 then (t++cu x,0) else (t,dt x)):=by
 unfold ej
 rw[j6 x ho,CM]
 by_cases hr:dt x=0
 ·obtain⟨h1,h2,h3,h4⟩:=pE hr
  have hb:=oc x ht ho hw
  rw[if_pos hr,if_pos hr,uF x ht h1 h2 h3 h4 hw,CM]
  simp only[if_true]
  rw[pz (by omega) (by omega),CM]
  rfl
 ·rw[if_neg hr,if_neg hr,np,CM,vd]
theorem uG (x:Rec) (ht:wI x.Co) (ho:wI x.Cd) (hw:rwt x≤900000):dO x=some (if dt x=0 then (cu x,0) else ([],dt x)):=by
 unfold dO
 rw[rd x [] ht ho hw (by simp),CM,fy,CM]
 by_cases hr:dt x=0
 ·rw[if_pos hr,if_pos hr,lN,CW]
 ·rw[if_neg hr,if_neg hr,otx_e _ _ hr]
theorem yl {x:Rec} (ht:wI x.Co) (hr:dt x=0) (hw:rwt x≤900000):pD x∧aS ((ci x).length:Int)<2 ^ (32:Int).toNat:=by
 obtain⟨h1,h2,h3,h4⟩:=pE hr
 have hb:=oc x ht ⟨by omega,by omega⟩ hw
 unfold rwt at hw hb
 have hn:=m1 x.B6
 have bk:=iS x.Cq (by omega)
 have bv:=iS x.Cb (by omega)
 refine⟨⟨?_,⟨iR _ (by omega) h1.2,h1.1⟩,⟨iR _ bk.1 bk.2,h2⟩,⟨iR _ bv.1 bv.2,h3⟩,iR _ (by omega) (by omega),fun h hh=> ?_⟩,iR _ (by omega) (by omega)⟩
 ·rw[show 2 ^ (64:Int).toNat=18446744073709551616 by decide]
  exact f3 _ ht.1 ht.2
 ·have hm:=tl _ _ hh
  unfold hwt at hm
  have b:=iS h.Cb (by omega)
  exact⟨iR _ (by omega) (by omega),iR _ b.1 b.2,h4 h hh⟩
theorem od {x:Rec} (h:pD x):dt x=0∧wI x.Co∧wI x.Cd:=by
 obtain⟨h1,⟨h2,h3⟩,h4,h5,h6⟩:=h
 rw[show 2 ^ (64:Int).toNat=18446744073709551616 by decide] at h1
 rw[show 2 ^ (32:Int).toNat=4294967296 by decide] at h2
 have ho:x.Cd≤2147483647:=by unfold aS at h2; split at h2 <;> omega
 refine⟨?_,?_,⟨by omega,by omega⟩⟩
 ·unfold dt
  have hb:kR x.B6=true:=List.all_eq_true.2 fun y hy=>(h6.2 y hy).2.2
  rw[if_neg (by omega),h4.2,h5.2,hb]
  rfl
 ·unfold aS at h1
  constructor <;> (split at h1 <;> omega)
theorem tq: ∀ l:List Hd,jp l≤10*(aV eB l).length
 | []=>Da _
 | x::l=>by
  have h:=tq l
  have h1:=iG (aS (x.Cq.length:Int))
  have h2:=iG (aS (de x.Cb))
  rw[aV,CO,jp,hwt]
  simp only[eB,CO]
  omega
theorem pF (x:Rec):rwt x≤10*(ci x).length:=by
 have h:=tq x.B6
 simp only[ci,ir,kU,CO,al,rwt]
 omega
def crcP:Nat:=2197175160
def nK (x:Nat):Nat:=x / 2 ^^^ (if x % 2=1 then crcP else 0)
def kV:Nat→Nat→Nat
 | 0,x=>x
 | k+1,x=>kV k (nK x)
theorem r9 (x y:Nat):(x ^^^ y) % 2=(x % 2+y % 2) % 2:=by
 have h:=Nat.xor_mod_two_pow (a:=x) (b:=y) (n:=1)
 rw[Nat.pow_one] at h
 rw[h]
 rcases Nat.mod_two_eq_zero_or_one x with hx | hx <;> rcases Nat.mod_two_eq_zero_or_one y with hy | hy <;> rw[hx,hy] <;> rfl
theorem sd (x y:Nat):(x ^^^ y) / 2=(x / 2) ^^^ (y / 2):=Nat.xor_div_two
theorem ym (x y:Nat):nK (x ^^^ y)=nK x ^^^ nK y:=by
 unfold nK
 rw[sd,r9]
 rcases Nat.mod_two_eq_zero_or_one x with hx | hx <;> rcases Nat.mod_two_eq_zero_or_one y with hy | hy <;> simp[hx,hy]
 ·rw[Nat.xor_assoc]
 ·ac_rfl
 ·rw[show x / 2 ^^^ crcP ^^^ (y / 2 ^^^ crcP)=x / 2 ^^^ y / 2 ^^^ (crcP ^^^ crcP) by ac_rfl,Nat.xor_self,Nat.xor_zero]
theorem tr: ∀ (k x y:Nat),kV k (x ^^^ y)=kV k x ^^^ kV k y
 | 0,_,_=>rfl
 | k+1,x,y=>by show kV k _= _; rw[ym,tr k]; rfl
theorem wC (x:Nat):nK (2*x)=x:=by
 unfold nK; rw[if_neg (by omega),Nat.xor_zero]; omega
theorem pG: ∀ (k x:Nat),kV k (2 ^ k*x)=x
 | 0,x=>by rw[Nat.pow_zero,Nat.one_mul]; rfl
 | k+1,x=>by
  show kV k (nK _)=x
  rw[show 2 ^ (k+1)*x=2*(2 ^ k*x) by rw[Nat.pow_succ,Nat.mul_comm (2 ^ k) 2,Nat.mul_assoc],wC]
  exact pG k x
theorem vv {x:Nat} (h:x<2 ^ 32):nK x<2 ^ 32:=by
 unfold nK
 exact Nat.xor_lt_two_pow (by omega) (by split <;> decide)
theorem ox: ∀ (k:Nat) {x:Nat},x<2 ^ 32→kV k x<2 ^ 32
 | 0,_,h=>h
 | k+1,_,h=>ox k (vv h)
theorem wD (x b:Nat) (hb:b<256):kV 8 (x ^^^ b)=kV 8 ((x % 256) ^^^ b) ^^^ (x / 256):=by
 have h:x=(x % 256) ^^^ (2 ^ 8*(x / 256)):=by
  apply Nat.eq_of_testBit_eq
  intro i
  rw[Nat.testBit_xor,show (256:Nat)=2 ^ 8 from rfl,Nat.testBit_mod_two_pow,Nat.testBit_two_pow_mul,Nat.testBit_div_two_pow]
  by_cases hi:i<8
  ·simp[hi,show ¬ 8≤i by omega]
  ·simp[hi,show 8≤i by omega]
 conv=>lhs; rw[h]
 rw[show x % 256 ^^^ 2 ^ 8*(x / 256) ^^^ b=(x % 256 ^^^ b) ^^^ (2 ^ 8*(x / 256)) by ac_rfl,tr,pG]
def uH:Nat→List UInt8→Nat
 | x,[]=>x
 | x,c::l=>uH (kV 8 (x ^^^ c.toNat)) l
theorem oe: ∀ (l m:List UInt8) (x:Nat),uH x (l++m)=uH (uH x l) m
 | [],_,_=>rfl
 | c::l,m,x=>oe l m _
theorem se: ∀ (l:List UInt8) {x:Nat},x<2 ^ 32→uH x l<2 ^ 32
 | [],_,h=>h
 | c::l,_,h=>se l (ox 8 (Nat.xor_lt_two_pow h (Nat.lt_trans c.toNat_lt (by decide))))
theorem lk (a:Nat) (h:a<4294967296):(BitVec.ofInt IntKind.u32.bits (a:Int)).toNat=a:=by
 show (BitVec.ofInt 32 (a:Int)).toNat=a
 rw[BitVec.ofInt_natCast,BitVec.toNat_ofNat,Nat.mod_eq_of_lt (by omega)]
theorem tt (a:Nat) (h:a<256):(BitVec.ofInt IntKind.u8.bits (a:Int)).toNat=a:=by
 show (BitVec.ofInt 8 (a:Int)).toNat=a
 rw[BitVec.ofInt_natCast,BitVec.toNat_ofNat,Nat.mod_eq_of_lt (by omega)]
theorem wrap_u32 (a:Nat):IntKind.u32.wrap (a:Int)=((a % 4294967296:Nat):Int):=by
 rw[IntKind.wrap_u32]; omega
theorem wrap_u8 (a:Nat):IntKind.u8.wrap (a:Int)=((a % 256:Nat):Int):=by
 rw[IntKind.wrap_u8]; omega
theorem oy (a b:Nat) (ha:a<4294967296) (hb:b<4294967296):Go.bits .xor .u32 (a:Int) (b:Int)=((a ^^^ b:Nat):Int):=by
 show IntKind.u32.wrap (((BitVec.ofInt IntKind.u32.bits (a:Int)) ^^^ (BitVec.ofInt IntKind.u32.bits (b:Int))).toNat:Int)= _
 rw[BitVec.toNat_xor,lk a ha,lk b hb,wrap_u32,Nat.mod_eq_of_lt (Nat.xor_lt_two_pow (n:=32) ha hb)]
theorem xor_u8 (a b:Nat) (ha:a<256) (hb:b<256):Go.bits .xor .u8 (a:Int) (b:Int)=((a ^^^ b:Nat):Int):=by
 show IntKind.u8.wrap (((BitVec.ofInt IntKind.u8.bits (a:Int)) ^^^ (BitVec.ofInt IntKind.u8.bits (b:Int))).toNat:Int)= _
 rw[BitVec.toNat_xor,tt a ha,tt b hb,wrap_u8,Nat.mod_eq_of_lt (Nat.xor_lt_two_pow (n:=8) ha hb)]
theorem yo (a:Nat) (ha:a<4294967296):Go.bits .and .u32 (a:Int) 1=((a % 2:Nat):Int):=by
 show IntKind.u32.wrap (((BitVec.ofInt IntKind.u32.bits (a:Int)) &&& (BitVec.ofInt IntKind.u32.bits ((1:Nat):Int))).toNat:Int)= _
 rw[BitVec.toNat_and,lk a ha,lk 1 (by decide),wrap_u32,Nat.and_one_is_mod,Nat.mod_eq_of_lt (by omega)]
theorem yp (a:Nat):qc .u32 (a:Int) 1=((a / 2:Nat):Int):=by
 show Int.fdiv (a:Int) 2= _
 rw[Int.fdiv_eq_ediv_of_nonneg _ (by decide)]
 omega
theorem yq (a:Nat):qc .u32 (a:Int) 8=((a / 256:Nat):Int):=by
 show Int.fdiv (a:Int) 256= _
 rw[Int.fdiv_eq_ediv_of_nonneg _ (by decide)]
 omega
theorem yr (y:Nat) (hy:y<4294967296):(if Go.bits .and .u32 (y:Int) 1=1 then some (Go.bits .xor .u32 (qc .u32 (y:Int) 1) 2197175160) else some (qc .u32 (y:Int) 1))=some ((nK y:Nat):Int):=by
 rw[yo y hy,yp,show (2197175160:Int)=((2197175160:Nat):Int) from rfl,oy _ _ (by omega) (by decide)]
 unfold nK
 by_cases h:y % 2=1
 ·rw[if_pos (by omega),if_pos h]; rfl
 ·rw[if_neg (by omega),if_neg h,Nat.xor_zero]
theorem yt: ∀ (m y k:Nat),y<4294967296→k≤8→8 - k<m→dT m (y:Int) k=some (((kV (8 - k) y:Nat):Int),8)
 | 0,_,_,_,_,h=>by omega
 | m+1,y,k,hy,hk,hm=>by
  rw[dT]
  by_cases h:k<8
  ·rw[if_pos (by omega),yr y hy,CM,if_pos (by omega),yt m (nK y) (k+1) (vv hy) (by omega) (by omega),show 8 - k=(8 - (k+1))+1 by omega]
   rfl
  ·rw[if_neg (by omega),show 8 - k=0 by omega,show k=8 by omega]
   rfl
def gQ:List Int:=(List.range 256).map (fun j=>((kV 8 j:Nat):Int))
theorem pH (j:Nat) (hj:j<256):gQ[j]? = some ((kV 8 j:Nat):Int):=by
 unfold gQ
 rw[List.getElem?_map,List.getElem?_range hj]
 rfl
theorem yu: ∀ (m k:Nat) (l:List Int),l.length=256→k≤256→256 - k<m→(∀ j,j<k→l[j]? = some ((kV 8 j:Nat):Int))→eI m k l=some (256,gQ)
 | 0,_,_,_,_,h,_=>by omega
 | m+1,k,l,hl,hk,hm,hj=>by
  rw[eI]
  by_cases h:k<256
  ·have e1:IntKind.u32.wrap (k:Int)=((k:Nat):Int):=by rw[wrap_u32,Nat.mod_eq_of_lt (by omega)]
   have e2:dT ((8:Int).toNat+1) (IntKind.u32.wrap (k:Int)) 0=some (((kV 8 k:Nat):Int),8):=by
    rw[e1]
    exact yt 9 k 0 (by omega) (by omega) (by omega)
   have e3:l[k]? = some (l[k]'(by omega)):=List.getElem?_eq_getElem (by omega)
   rw[if_pos (by omega),e2,CM]
   dsimp only
   rw[e3,CM,CM,if_pos (by omega)]
   refine yu m (k+1) _ (by rw[List.length_set]; exact hl) (by omega) (by omega) (fun j hjk=> ?_)
   rw[List.getElem?_set]
   by_cases e:k=j
   ·rw[if_pos e,if_pos (by omega),e]
   ·rw[if_neg e]
    exact hj j (by omega)
  ·rw[if_neg (by omega),show k=256 by omega]
   congr 2
   apply List.ext_getElem?
   intro j
   by_cases hj2:j<256
   ·rw[pH j hj2]
    exact hj j (by omega)
   ·rw[List.getElem?_eq_none (by omega),List.getElem?_eq_none (by unfold gQ; simp; omega)]
theorem vw:iB=some gQ:=by
 unfold iB
 rw[show (256:Int).toNat+1=257 from rfl,yu 257 0 _ (List.length_replicate ..) (by omega) (by omega) (fun j hj=>absurd hj (by omega)),CM]
theorem vx (s:List UInt8) (hs:s.length≤9223372036854775806): ∀ (m y k:Nat),y<4294967296→k≤s.length→s.length - k<m→cO s m (y:Int) k gQ=some (((uH y (s.drop k):Nat):Int),s.length,gQ)
 | 0,_,_,_,_,h=>by omega
 | m+1,y,k,hy,hk,hm=>by
  rw[cO]
  by_cases h:k<s.length
  ·have e1:s[k]? = some s[k]:=List.getElem?_eq_getElem h
   have hc:=s[k].toNat_lt
   have hx:y % 256 ^^^ s[k].toNat<256:=Nat.xor_lt_two_pow (n:=8) (by omega) hc
   have e2:Go.bits .xor .u8 (IntKind.u8.wrap (y:Int)) (s[k].toNat:Int)=((y % 256 ^^^ s[k].toNat:Nat):Int):=by
    rw[wrap_u8,xor_u8 _ _ (by omega) (by omega)]
   have e3:kV 8 (y % 256 ^^^ s[k].toNat)<2 ^ 32:=ox 8 (by omega)
   rw[if_pos (by omega),e1,CM,e2,if_pos (by omega),Dx,pH _ hx,CM,if_pos (by omega),yq,oy _ _ (by omega) (by omega),← wD y _ (by omega),
    vx s hs m _ (k+1) (ox 8 (Nat.xor_lt_two_pow (n:=32) hy (by omega))) (by omega) (by omega)]
   rw[bF e1]
   rfl
  ·rw[if_neg (by omega),show k=s.length by omega,List.drop_length]
   rfl
def lF (x:Nat) (s:List UInt8):Nat:=4294967295 ^^^ uH (4294967295 ^^^ x) s
theorem sf {x:Nat} (hx:x<4294967296) (s:List UInt8):lF x s<4294967296:=Nat.xor_lt_two_pow (n:=32) (by decide) (se s (Nat.xor_lt_two_pow (n:=32) (by decide) hx))
theorem ones2 (x:Nat):4294967295 ^^^ (4294967295 ^^^ x)=x:=by rw[← Nat.xor_assoc,Nat.xor_self,Nat.zero_xor]
theorem tu (x:Nat) (s t:List UInt8):lF x (s++t)=lF (lF x s) t:=by
 unfold lF
 rw[oe,ones2]
theorem yv (x:Nat):lF x []=x:=ones2 x
theorem yw (x:Nat) (hx:x<4294967296) (s:List UInt8) (hs:s.length≤9223372036854775806):eS gQ (x:Int) s=some (((lF x s:Nat):Int),gQ):=by
 unfold eS
 have h1:(4294967295 ^^^ x:Nat)<4294967296:=Nat.xor_lt_two_pow (n:=32) (by decide) hx
 rw[show (4294967295:Int)=((4294967295:Nat):Int) from rfl,oy _ _ (by decide) hx,Dx,vx s hs _ _ 0 h1 (by omega) (by omega),CM,List.drop_zero]
 dsimp only
 rw[oy _ _ (by decide) (se s h1)]
 rfl
theorem yx: ∀ (l:List (List UInt8)) (x:Nat),x<4294967296→(∀ s,s∈l→s.length≤9223372036854775806)→cz l (x:Int) gQ=some (((lF x l.flatten:Nat):Int),gQ)
 | [],x,_,_=>by rw[cz,List.flatten_nil,yv]
 | s::l,x,hx,hs=>by
  rw[cz,yw x hx s (hs s (List.mem_cons_self ..)),CM]
  dsimp only
  rw[yx l _ (sf hx s) (fun t ht=>hs t (List.mem_cons_of_mem _ ht)),List.flatten_cons,tu]
theorem vy (l:List (List UInt8)) (hs: ∀ s,s∈l→s.length≤9223372036854775806):ei gQ l=some (((lF 0 l.flatten:Nat):Int),gQ):=by
 unfold ei
 have h:=yx l 0 (by decide) hs
 rw[show ((0:Nat):Int)=0 from rfl] at h
 rw[h,CM]
def vz (p:Pfx):List UInt8:=be p.Cn 8++(be p.Cr 4++(be p.Ch 4++(be 2 1++be (s32 p.CC) 4)))
def fd (p:Pfx):List UInt8:=be p.CE 2++mi [4,8,8,8,2,4,4] [p.Cl,p.B9,p.Cu,p.BX,p.B5,p.Ca,p.CD]
theorem zz (p:Pfx):kT p=vz p++fd p:=by
 unfold kT KS toL vz fd
 simp only[mi,CV]
theorem wE (p:Pfx):(vz p).length=21:=by
 unfold vz
 simp only[CO,al]
theorem ll (p:Pfx):(kT p).drop 21=fd p:=by
 rw[zz,← wE p,List.drop_left]
def okRc (x:Rec):Prop:=pD x∧aS ((ci x).length:Int)<2 ^ (32:Int).toNat
def vA:Pr Unit:=fun s q=>if q=s.length then .error 10 else .ok ((),q)
def m4:Nat→Pr (List Rec)
 | 0=> .ret []
 | n+1=>vA.bind fun _=>tp.bind fun x=>(m4 n).bind fun l=> .ret (x::l)
theorem mj (x:Rec):0<(cu x).length:=by
 unfold cu
 rw[CO]
 have:=iG (aS ((ci x).length:Int))
 omega
theorem ml: ∀ (n:Nat) (s:List UInt8) (q:Nat) (l:List Rec) (r:Nat),q≤s.length→m4 n s q= .ok (l,r)→q≤r∧r≤s.length∧s.take r=s.take q++aV cu l∧l.length=n∧ ∀ x,x∈l→okRc x
 | 0,s,q,l,r,hq,h=>by
  injection h with h
  obtain⟨rfl,rfl⟩:=C6 h
  exact⟨Dc _,hq,by simp[aV],rfl,fun x h=>nomatch h⟩
 | n+1,s,q,l,r,hq,h=>by
  obtain⟨u,m,h1,h2⟩:=Pr.bind_ok h
  unfold vA at h1
  split at h1
  ·exact nomatch h1
  injection h1 with h1
  obtain⟨_,rfl⟩:=C6 h1
  obtain⟨x,m2,h3,h4⟩:=Pr.bind_ok h2
  obtain⟨xs,m3,h5,h6⟩:=Pr.bind_ok h4
  injection h6 with h6
  obtain⟨rfl,rfl⟩:=C6 h6
  obtain⟨a1,a2,a3,a4,a5⟩:=r8.spell s q x m2 hq h3
  obtain⟨b1,b2,b3,b4,b5⟩:=ml n s m2 xs m3 a2 h5
  refine⟨by omega,b2,by rw[b3,a4,aV,CV],by rw[C9,b4],fun y hy=> ?_⟩
  rcases List.mem_cons.1 hy with rfl | hy
  ·exact a5
  ·exact b5 y hy
theorem re: ∀ (l:List Rec) (s t:List UInt8) (q:Nat),q≤s.length→(∀ x,x∈l→okRc x)→s.drop q=aV cu l++t→m4 l.length s q= .ok (l,q+(aV cu l).length)
 | [],s,t,q,hq,_,_=>rfl
 | x::l,s,t,q,hq,ho,hd=>by
  rw[aV,CV] at hd
  have hl:=congrArg List.length hd
  rw[C1,CO] at hl
  have hp:=mj x
  have h0:vA s q= .ok ((),q):=if_neg (by omega)
  have h1:=r8.back s _ q x hq (ho x (.head _)) hd
  have h2:=re l s t _ (by omega) (fun y hy=>ho y (.tail _ hy)) (aY hd)
  rw[C9,m4,Pr.bind_of h0,Pr.bind_of h1,Pr.bind_of h2,aV,CO,← Nat.add_assoc]
  rfl
def chk (a:Bat):Int:=(cH a).getD 0
def body (a:Bat):List UInt8:=aV cu a.B0
def mkB (p:Pfx) (l:List Rec):Bat:=⟨p.Cn,p.Ch,dp p.CE 3,dp p.CE 4,dp p.CE 5,p.Cl,p.B9,p.Cu,p.BX,p.B5,p.Ca,l⟩
def pB (a:Bat) (s:Int):Pfx:=⟨a.Cn,49+((body a).length:Int),a.Ch,s,fJ a.CF a.CI a.Ct,a.Cl,a.B9,a.Cu,a.BX,a.B5,a.Ca,(a.B0.length:Int)⟩
def sumP (p:Pfx) (s:List UInt8):Nat:=lF 0 (fd p++s)
def jN (a:Bat):Nat:=sumP (pB a 0) (body a)
def dK (a:Bat):List UInt8:=kT (pB a (jN a))++body a
def okB (a:Bat):Prop:=okP (pB a (jN a))∧dq (fJ a.CF a.CI a.Ct)=0∧(∀ x,x∈a.B0→okRc x)∧chk a=0
def m5 (p:Pfx) (s:List UInt8):Except Int Bat :=
 if dq p.CE=0 then
  match m4 p.CD.toNat s 0 with
  | .error e=> .error e
  | .ok (l,r)=>if r<s.length then .error 10 else if chk (mkB p l)=0 then .ok (mkB p l) else .error (chk (mkB p l))
 else .error (dq p.CE)
def qn:Pr Bat:=fun s q =>
 match wx s q with
 | .error e=> .error e
 | .ok (p,r)=>if s.length<r+(p.Cr - 49).toNat then .error 1 else
  if ((sumP p ((s.drop r).take (p.Cr - 49).toNat):Nat):Int)=p.CC then
   match m5 p ((s.drop r).take (p.Cr - 49).toNat) with
   | .error e=> .error e
   | .ok b=> .ok (b,r+(p.Cr - 49).toNat)
  else .error 5
theorem rf {n:Int} (h:dq n=0):fJ (dp n 3) (dp n 4) (dp n 5)=n:=by
 have h1:n % 8=0∧0≤n∧n≤63:=by
  unfold dq at h
  split at h
  ·cases h
  ·split at h
   ·cases h
   ·omega
 have h2:n=0∨n=8∨n=16∨n=24∨n=32∨n=40∨n=48∨n=56:=by omega
 rcases h2 with rfl | rfl | rfl | rfl | rfl | rfl | rfl | rfl <;> decide
theorem vB: ∀ a b c:Bool,dp (fJ a b c) 3=a∧dp (fJ a b c) 4=b∧dp (fJ a b c) 5=c:=by decide
theorem yy {p:Pfx} {s:List UInt8} {b:Bat} (h:m5 p s= .ok b) (h0:0≤p.CD):dq p.CE=0∧ ∃ l,b=mkB p l∧s=aV cu l∧(l.length:Int)=p.CD∧(∀ x,x∈l→okRc x)∧chk b=0:=by
 unfold m5 at h
 by_cases ha:dq p.CE=0
 ·rw[if_pos ha] at h
  refine⟨ha,?_⟩
  cases hr:m4 p.CD.toNat s 0 with
  | error e=>rw[hr] at h; exact nomatch h
  | ok x =>
   obtain⟨l,r⟩:=x
   rw[hr] at h
   dsimp only at h
   by_cases hl:r<s.length
   ·rw[if_pos hl] at h; exact nomatch h
   rw[if_neg hl] at h
   by_cases hc:chk (mkB p l)=0
   ·rw[if_pos hc] at h
    injection h with h
    subst h
    obtain⟨b1,b2,b3,b4,b5⟩:=ml _ s 0 l r (Da _) hr
    rw[List.take_of_length_le (by omega),List.take_zero,CW] at b3
    exact⟨l,rfl,b3,by omega,b5,hc⟩
   ·rw[if_neg hc] at h; exact nomatch h
 ·rw[if_neg ha] at h; exact nomatch h
theorem pB_mk {p:Pfx} {l:List Rec} (h1:(49:Int)+((aV cu l).length:Int)=p.Cr) (h2:dq p.CE=0) (h3:(l.length:Int)=p.CD) (s:Int):pB (mkB p l) s=⟨p.Cn,p.Cr,p.Ch,s,p.CE,p.Cl,p.B9,p.Cu,p.BX,p.B5,p.Ca,p.CD⟩:=by
 unfold pB mkB body
 dsimp only
 rw[h1,h3,rf h2]
theorem sg:Sp qn dK okB:=by
 refine⟨fun s q b r hq h=> ?_,fun s t q a hq ha hd=> ?_⟩
 ·unfold qn at h
  cases hp:wx s q with
  | error e=>rw[hp] at h; exact nomatch h
  | ok x =>
   obtain⟨p,m⟩:=x
   rw[hp] at h
   dsimp only at h
   obtain⟨a1,a2,a3,a4,a5,a6,a7,a8⟩:=uA.spell s q p m hq hp
   by_cases hl:s.length<m+(p.Cr - 49).toNat
   ·rw[if_pos hl] at h; exact nomatch h
   rw[if_neg hl] at h
   by_cases hs:((sumP p ((s.drop m).take (p.Cr - 49).toNat):Nat):Int)=p.CC
   ·rw[if_pos hs] at h
    cases ho:m5 p ((s.drop m).take (p.Cr - 49).toNat) with
    | error e=>rw[ho] at h; exact nomatch h
    | ok b' =>
     rw[ho] at h
     injection h with h
     obtain⟨rfl,rfl⟩:=C6 h
     obtain⟨k1,l,rfl,k3,k4,k5,k6⟩:=yy ho a8
     have hn:((s.drop m).take (p.Cr - 49).toNat).length=(p.Cr - 49).toNat:=by rw[Dz,C1]; omega
     have e1:(49:Int)+((aV cu l).length:Int)=p.Cr:=by rw[← k3,hn]; omega
     have e2:((jN (mkB p l):Nat):Int)=p.CC:=by
      rw[← hs,k3]
      unfold jN
      rw[pB_mk e1 k1 k4]
      rfl
     have e3:pB (mkB p l) (jN (mkB p l))=p:=by rw[pB_mk e1 k1 k4,e2]
     have e4:dK (mkB p l)=kT p++(s.drop m).take (p.Cr - 49).toNat:=by
      unfold dK
      rw[e3,k3]
      rfl
     have a9:=congrArg List.length a4
     refine⟨by omega,by omega,?_,?_,?_⟩
     ·rw[e4,CO,hn]; omega
     ·rw[e4,jL,a4,CV]
     ·refine⟨by rw[e3]; exact⟨a5,a6,a7,a8⟩,?_,k5,k6⟩
      show dq (fJ (dp p.CE 3) (dp p.CE 4) (dp p.CE 5))=0
      rw[rf k1]
      exact k1
   ·rw[if_neg hs] at h; exact nomatch h
 ·obtain⟨h1,h2,h3,h4⟩:=ha
  unfold dK at hd
  rw[CV] at hd
  have hp:=uA.back s _ q _ hq h1 hd
  have hd2:=aY hd
  have hl:=congrArg List.length hd
  rw[C1,CO,CO] at hl
  have hn:((pB a (jN a)).Cr - 49).toNat=(body a).length:=by
   show ((49:Int)+((body a).length:Int) - 49).toNat= _
   omega
  have ht:(s.drop (q+(kT (pB a (jN a))).length)).take (body a).length=body a:=by rw[hd2,List.take_left]
  unfold qn
  rw[hp]
  dsimp only
  rw[hn,ht,if_neg (by omega),if_pos (show ((sumP (pB a (jN a)) (body a):Nat):Int)=(pB a (jN a)).CC from rfl)]
  have hr:=re a.B0 (body a) [] 0 (Da _) h3 (by rw[List.drop_zero,Db]; rfl)
  have ho:m5 (pB a (jN a)) (body a)= .ok a:=by
   unfold m5
   rw[if_pos (show dq (pB a (jN a)).CE=0 from h2),show (pB a (jN a)).CD.toNat=a.B0.length from rfl,hr]
   dsimp only
   obtain⟨b1,b2,b3⟩:=vB a.CF a.CI a.Ct
   have e:mkB (pB a (jN a)) a.B0=a:=by
    unfold mkB pB
    dsimp only
    rw[b1,b2,b3]
   rw[e,if_neg (by show ¬ 0+(body a).length < _; omega),if_pos h4]
  rw[ho]
  dsimp only
  unfold dK
  rw[CO,Nat.add_assoc]
def zBat:Bat:=⟨0,0,false,false,false,0,0,0,0,0,0,[]⟩
def bnR (r:Rec):Prop:=r.B6.length≤1000000∧r.Cq.data.length≤1000000∧r.Cb.data.length≤1000000
def bnB (a:Bat):Prop:=rO a∧a.B0.length≤1000000∧ ∀ r,r∈a.B0→bnR r
theorem pI {α:Type} (enc:α→List UInt8): ∀ (l:List α) (x:α),x∈l→(enc x).length≤(aV enc l).length
 | y::l,x,h=>by
  rw[aV,CO]
  rcases List.mem_cons.1 h with rfl | h
  ·omega
  ·have:=pI enc l x h
   omega
theorem pJ {α:Type} (enc:α→List UInt8): ∀ (l:List α),(∀ x,x∈l→0<(enc x).length)→l.length≤(aV enc l).length
 | [],_=>Da _
 | y::l,h=>by
  rw[aV,CO,C9]
  have h1:=h y (.head _)
  have:=pJ enc l (fun x hx=>h x (.tail _ hx))
  omega
theorem wF (h:Hd):0<(eB h).length:=by
 unfold eB
 simp only[CO]
 have:=iG (aS (h.Cq.length:Int))
 omega
theorem uI {x:Rec} (h:pD x) (hl:(cu x).length≤1000000):um x∧bnR x:=by
 obtain⟨_,h2,h3⟩:=od h
 have e:(cu x).length=(cg (aS ((ci x).length:Int))).length+(ci x).length:=by unfold cu; rw[CO]
 have e2:(ci x).length≤1000000:=by omega
 simp only[ci,ir,kU,CO,al] at e2
 have h4:=pJ eB x.B6 (fun y _=>wF y)
 have hS: ∀ d:List UInt8,d.length≤1000000→wS d:=fun d hd=>by unfold wS; omega
 refine⟨⟨h2,h3,⟨trivial,hS _ (by omega)⟩,⟨trivial,hS _ (by omega)⟩,by omega,fun y hy=> ?_⟩,by omega,by omega,by omega⟩
 have h5:=pI eB x.B6 y hy
 have h6:(eB y).length≤1000000:=by omega
 simp only[eB,CO] at h6
 exact⟨hS _ (by omega),trivial,hS _ (by omega)⟩
theorem uJ {a:Bat} (h:bnB a):cH a=some (chk a)∧jh a=some (chk a):=by
 obtain⟨cr,e0,h1,h2,_⟩:=pv a h.1 h.2.1 h.2.2
 have e:chk a=r6 a cr e0:=by unfold chk; rw[h1]; rfl
 rw[e]
 exact⟨h1,h2⟩
theorem tv (n:Int):aN n 8=decide (-9223372036854775808≤n∧n≤9223372036854775807):=by
 rw[Bool.eq_iff_iff]
 unfold aN
 simp only[Bool.and_eq_true,decide_eq_true_eq]
 have:(2:Int) ^ (8*(8:Int).toNat - 1)=9223372036854775808:=by decide
 omega
theorem wI8 {n:Int} (h:aN n (8:Nat)=true):wI n:=by
 have h':aN n 8=true:=h
 rw[tv] at h'
 have h2:=of_decide_eq_true h'
 exact h2
theorem wI4 {n:Int} (h:aN n (4:Nat)=true): -2147483648≤n∧n≤2147483647:=by
 have h':aN n 4=true:=h
 rw[e9] at h'
 exact of_decide_eq_true h'
theorem wI2 {n:Int} (h:aN n (2:Nat)=true): -32768≤n∧n≤32767:=by
 have h':aN n 2=true:=h
 rw[pu] at h'
 exact of_decide_eq_true h'
theorem pL {p:Pfx} (hp:okP p) {l:List Rec} (hl: ∀ x,x∈l→okRc x) (hb:(aV cu l).length≤1000000):bnB (mkB p l):=by
 obtain⟨⟨k1,k2,k3,_,k5,k6,k7,k8,k9,k10,k11,k12,k13,_⟩,_,_,_⟩:=hp
 have w4: ∀ {n:Int},aN n (4:Nat)=true→wI n:=fun h=>by have:=wI4 h; unfold wI; omega
 have w2: ∀ {n:Int},aN n (2:Nat)=true→wI n:=fun h=>by have:=wI2 h; unfold wI; omega
 have hr: ∀ x,x∈l→um x∧bnR x:=fun x hx=>uI (hl x hx).1 (by have:=pI cu l x hx; omega)
 have h4:=pJ cu l (fun y _=>mj y)
 exact⟨⟨wI8 k1,w4 k3,trivial,trivial,trivial,w4 k7,wI8 k8,wI8 k9,wI8 k10,w2 k11,w4 k12,by show l.length≤ _; omega,fun x hx=>(hr x hx).1⟩,by show l.length≤ _; omega,fun x hx=>(hr x hx).2⟩
theorem tw (p:Pfx) (hc:p.CD≤2147483647) (s:List UInt8) (hs:s.length≤1000000) (y:Int): ∀ (n k fuel:Nat) (acc:List Rec) (q:Nat),((k+n:Nat):Int)=p.CD→n<fuel→q≤s.length→acc.length≤q →
 (∃ e,m4 n s q= .error e∧e≠0∧cL p fuel y k acc ⟨s.drop q,q,0⟩=some (.ret (zBat,e)))∨(∃ l r,m4 n s q= .ok (l,r)∧q≤r∧r≤s.length∧cL p fuel y k acc ⟨s.drop q,q,0⟩=some (.go (y,k+n,acc++l,⟨s.drop r,r,0⟩)))
 | 0,k,fuel+1,acc,q,hk,hf,hq,ha=> .inr ⟨[],q,rfl,Dc _,hq,by rw[cL,if_neg (by omega),Db,Nat.add_zero]⟩
 | n+1,k,fuel+1,acc,q,hk,hf,hq,ha=>by
  rw[cL,if_pos (by omega),my,CM]
  dsimp only
  rw[C1,m4]
  by_cases hz:q=s.length
  ·rw[if_pos (by omega)]
   exact .inl ⟨10,Pr.bind_err (if_pos hz),by decide,rfl⟩
  rw[if_neg (by omega),Pr.bind_of (show vA s q= .ok ((),q) from if_neg hz)]
  rcases yk.run s q hs hq with⟨e,st,p1,g1,x1,y1⟩ | ⟨b,r,p1,g1,n1,l1⟩
  ·rw[g1,CM]
   dsimp only
   rw[aQ,CM]
   dsimp only
   rw[if_neg y1]
   exact .inl ⟨e,Pr.bind_err p1,by rw[← x1]; exact y1,by rw[x1]; rfl⟩
  ·have h3:=(r8.spell s q b r hq p1).2.2.1
   have h4:=mj b
   rw[g1,CM]
   dsimp only
   rw[aQ,CM]
   dsimp only
   rw[if_pos rfl,if_pos (by omega),if_pos (by omega),Pr.bind_of p1]
   rcases tw p hc s hs y n (k+1) fuel (acc ++ [b]) r (by omega) (by omega) l1 (by rw[CO,Ek]; omega) with⟨e,q1,q2,q3⟩ | ⟨l,m,q1,q2,q3,q4⟩
   ·exact .inl ⟨e,Pr.bind_err q1,q2,q3⟩
   ·exact .inr ⟨b::l,m,by rw[Pr.bind_of q1]; rfl,by omega,q3,by rw[q4,CV,show k+1+n=k+(n+1) by omega]; rfl⟩
theorem bopen {p:Pfx} (hp:okP p) (s:List UInt8) (hs:s.length≤1000000):(∃ e x,m5 p s= .error e∧e≠0∧fB p s=some (x,e))∨(∃ b,m5 p s= .ok b∧fB p s=some (b,0)):=by
 obtain⟨k1,k2,k3,k4⟩:=id hp
 have ha:=wI2 k1.2.2.2.2.2.1
 have hc:=wI4 k1.2.2.2.2.2.2.2.2.2.2.2.2.1
 try dsimp only at ha
 unfold fB m5
 rw[ua _ (by omega),CM]
 by_cases h0:dq p.CE=0
 rotate_left
 ·rw[if_neg h0,if_neg h0]
  exact .inl ⟨_,_,rfl,h0,rfl⟩
 rw[if_pos h0,if_pos h0,v8,CM]
 dsimp only
 rw[fz _ (by omega),CM]
 rcases tw p hc.2 s hs 0 p.CD.toNat 0 (p.CD.toNat+1) [] 0 (by omega) (by omega) (Da _) (Da _) with⟨e,q1,q2,q3⟩ | ⟨l,m,q1,q2,q3,q4⟩
 ·rw[List.drop_zero] at q3
  rw[q3,q1]
  exact .inl ⟨e,_,rfl,q2,rfl⟩
 ·rw[List.drop_zero] at q4
  obtain⟨b1,b2,b3,b4,b5⟩:=ml _ s 0 l m (Da _) q1
  rw[q4,q1,CM]
  dsimp only
  rw[my,CM]
  dsimp only
  rw[C1]
  by_cases hl:m<s.length
  ·rw[if_pos hl,if_pos (show ((s.length - m:Nat):Int)>0 by omega)]
   exact .inl ⟨_,_,rfl,by decide,rfl⟩
  ·rw[if_neg hl,if_neg (show ¬ ((s.length - m:Nat):Int)>0 by omega)]
   rw[List.take_of_length_le (by omega),List.take_zero,CW] at b3
   have hB:=pL hp b5 (by rw[← b3]; exact hs)
   have e:cH (⟨p.Cn,p.Ch,dp p.CE 3,dp p.CE 4,dp p.CE 5,p.Cl,p.B9,p.Cu,p.BX,p.B5,p.Ca,[]++l⟩:Bat)=some (chk (mkB p l)):=(uJ hB).1
   rw[e,CM]
   by_cases hk:chk (mkB p l)=0
   ·rw[if_pos hk,hk]
    exact .inr ⟨_,rfl,rfl⟩
   ·rw[if_neg hk]
    exact .inl ⟨_,_,rfl,hk,rfl⟩
theorem yz:CB eK qn zBat:=by
 refine⟨fun st h=> ?_,fun s q hs hq=> ?_⟩
 ·unfold eK
  rw[B_pfx.dead st h,CM]
  dsimp only
  rw[if_pos (by decide),jz _ _ (by decide),CM]
  dsimp only
  have e:bC st ((0:Int) - 49)=([],st):=if_pos h
  rw[show zP.Cr=(0:Int) from rfl,e,aQ,CM]
  dsimp only
  rw[if_neg h]
  rfl
 ·unfold eK qn
  rcases B_pfx.run s q hs hq with⟨e,st,p1,g1,x1,y1⟩ | ⟨p,r,p1,g1,n1,l1⟩
  ·refine .inl ⟨e,st,by rw[p1],?_,x1,y1⟩
   rw[g1,CM]
   dsimp only
   rw[if_pos (by decide),jz _ _ (by decide),CM]
   dsimp only
   have e:bC st ((0:Int) - 49)=([],st):=if_pos y1
   rw[show zP.Cr=(0:Int) from rfl,e,aQ,CM]
   dsimp only
   rw[if_neg y1]
   rfl
  ·obtain⟨a1,a2,a3,a4,ap⟩:=uA.spell s q p r hq p1
   obtain⟨k1,k2,k3,k4⟩:=id ap
   have hL:=wI4 k1.2.1
   try dsimp only at hL
   have hT: -9223372036854775808≤p.Cr - 49∧p.Cr - 49≤9223372036854775807:=by omega
   rw[g1,CM,p1]
   dsimp only
   rw[if_pos hT,jz _ _ hT,CM]
   dsimp only
   by_cases hl:s.length<r+(p.Cr - 49).toNat
   ·have e:bC ⟨s.drop r,r,0⟩ (p.Cr - 49)=([],⟨s.drop r,r,1⟩):=by
     unfold bC
     rw[if_neg (by simp),if_neg (by omega),if_pos (by rw[C1]; omega)]
    rw[if_pos hl,e,aQ,CM]
    exact .inl ⟨1,⟨s.drop r,r,1⟩,rfl,rfl,rfl,by show (1:Int)≠0; decide⟩
   have e:bC ⟨s.drop r,r,0⟩ (p.Cr - 49)=((s.drop r).take (p.Cr - 49).toNat,⟨s.drop (r+(p.Cr - 49).toNat),r+(p.Cr - 49).toNat,0⟩):=by
    unfold bC
    rw[if_neg (by simp),if_neg (by omega),if_neg (by rw[C1]; omega),DB]
   rw[if_neg hl,e,aQ,CM]
   dsimp only
   have hn:((s.drop r).take (p.Cr - 49).toNat).length=(p.Cr - 49).toNat:=by rw[Dz,C1]; omega
   generalize (s.drop r).take (p.Cr - 49).toNat=b at hn
   have hlen:(kT p).length=61:=mZ k1
   rw[if_pos rfl,pw [] ⟨k1,k2⟩ (by decide),CM,CW,fy,CM]
   dsimp only
   rw[lN,vw,CM]
   dsimp only
   rw[if_pos (show 21≤(kT p).length by omega)]
   have hp21:(fd p).length≤61:=by rw[← ll p,C1]; omega
   have hs2 : [fd p,b].flatten=fd p++b:=by simp
   rw[ll,vy [fd p,b] (by intro t ht; rcases List.mem_cons.1 ht with rfl | ht; omega; rw[List.mem_singleton.1 ht]; omega),CM,hs2]
   dsimp only
   have hlt:lF 0 (fd p++b)<4294967296:=sf (by decide) _
   rw[if_pos (show -9223372036854775808≤((lF 0 (fd p++b):Nat):Int)∧((lF 0 (fd p++b):Nat):Int)≤9223372036854775807 by omega)]
   by_cases hsum:((sumP p b:Nat):Int)=p.CC
   rotate_left
   ·rw[if_neg hsum,if_neg (show ¬ ((lF 0 (fd p++b):Nat):Int)=p.CC from hsum),cf,CM]
    exact .inl ⟨5,_,rfl,rfl,rfl,by show (5:Int)≠0; decide⟩
   rw[if_pos hsum,if_pos (show ((lF 0 (fd p++b):Nat):Int)=p.CC from hsum)]
   rcases bopen ap b (by omega) with⟨e,x,o1,o2,o3⟩ | ⟨x,o1,o3⟩
   ·rw[o1,o3,CM]
    dsimp only
    rw[if_neg o2,cf,CM]
    exact .inl ⟨e,_,rfl,rfl,rfl,o2⟩
   ·rw[o1,o3,CM]
    dsimp only
    rw[if_pos rfl]
    exact .inr ⟨x,_,rfl,rfl,by omega,by omega⟩
theorem kW: ∀ {l:List Rec},dM l=0→ ∀ r,r∈l→dt r=0
 | x::l,h,r,hr=>by
  rw[dM] at h
  by_cases hx:dt x=0
  ·rw[if_pos hx] at h
   rcases List.mem_cons.1 hr with rfl | hr
   ·exact hx
   ·exact kW h r hr
  ·rw[if_neg hx] at h
   exact absurd h hx
theorem nL {a:Bat} (h:bnB a) (h0:chk a=0):hO a∧fN a∧(a.Ct=true→a.CI=true∧(a.B0.length:Int)=1)∧ ∀ r,r∈a.B0→dt r=0:=by
 obtain⟨cr,e0,h1,h2,h3,h4⟩:=pv a h.1 h.2.1 h.2.2
 have e:chk a=r6 a cr e0:=by unfold chk; rw[h1]; rfl
 rw[e] at h0
 unfold r6 at h0
 by_cases hn:hO a
 rotate_left
 ·rw[if_neg hn] at h0; exact absurd h0 (by decide)
 rw[if_pos hn] at h0
 by_cases hc:a.Ct=true
 ·rw[if_pos hc] at h0
  by_cases ht:a.CI=true
  rotate_left
  ·rw[if_neg ht] at h0; exact absurd h0 (by decide)
  rw[if_pos ht] at h0
  by_cases hp:fN a
  rotate_left
  ·rw[if_neg hp] at h0; exact absurd h0 (by decide)
  rw[if_pos hp] at h0
  by_cases hl:(a.B0.length:Int)=1
  rotate_left
  ·rw[if_neg hl] at h0; exact absurd h0 (by decide)
  rw[if_pos hl] at h0
  by_cases hf:dM a.B0=0
  rotate_left
  ·rw[if_neg hf] at h0; exact absurd h0 hf
  exact⟨hn,hp,fun _=>⟨ht,hl⟩,kW hf⟩
 ·rw[if_neg hc] at h0
  by_cases hp:fN a
  rotate_left
  ·rw[if_neg hp] at h0; exact absurd h0 (by decide)
  rw[if_pos hp] at h0
  by_cases hf:dM a.B0=0
  rotate_left
  ·rw[if_neg hf] at h0; exact absurd h0 hf
  exact⟨hn,hp,fun h=>absurd h hc,kW hf⟩
theorem zC: ∀ a t c:Bool,(c=true→t=true)→dq (fJ a t c)=0:=by decide
theorem wG: ∀ a t c:Bool,0≤fJ a t c∧fJ a t c≤56:=by decide
theorem vC {n:Int} (h:wI n):aN n (8:Nat)=true:=by
 show aN n 8=true
 rw[tv]
 exact CP h
theorem rg {n:Int} (h: -2147483648≤n∧n≤2147483647):aN n (4:Nat)=true:=by
 show aN n 4=true
 rw[e9]
 exact CP h
theorem fits2 {n:Int} (h: -32768≤n∧n≤32767):aN n (2:Nat)=true:=by
 show aN n 2=true
 rw[pu]
 exact CP h
def smB (a:Bat):Prop:=bnB a∧(∀ r,r∈a.B0→rwt r≤900000)∧(body a).length≤900000
theorem yA {a:Bat} (h:fN a):(-32768≤a.B5∧a.B5≤32767)∧(-2147483648≤a.Ca∧a.Ca≤2147483647):=by
 unfold fN at h
 split at h
 ·omega
 ·split at h <;> omega
theorem uK {a:Bat} (hb:smB a) (h0:chk a=0) (s:Nat) (hs:s<4294967296):okP (pB a s):=by
 obtain⟨hn,hp,hc,hr⟩:=nL hb.1 h0
 obtain⟨n1,n2,n3,n4,n5,n6⟩:=hn
 obtain⟨w1,w2,_,_,_,w6,w7,w8,w9,w10,w11,w12⟩:=hb.1.1
 obtain⟨p1,p2⟩:=yA hp
 have hl:=hb.2.2
 have hcount:=hb.1.2.1
 have ha:=wG a.CF a.CI a.Ct
 have hs2: -2147483648≤s32 (s:Int)∧s32 (s:Int)≤2147483647:=by unfold s32; split <;> omega
 refine⟨⟨vC w1,rg ⟨?_,?_⟩,rg ⟨?_,?_⟩,rfl,rg hs2,fits2 ⟨?_,?_⟩,rg ⟨?_,?_⟩,vC w7,vC w8,vC w9,fits2 p1,rg p2,rg ⟨?_,?_⟩,trivial⟩,⟨?_,?_⟩,?_,?_⟩
 all_goals (try unfold pB) <;> (try dsimp only) <;> omega
theorem vD (a:Bat):jN a<4294967296:=sf (by decide) _
theorem okB_of {a:Bat} (hb:smB a) (h0:chk a=0):okB a:=by
 obtain⟨hn,hp,hc,hr⟩:=nL hb.1 h0
 refine⟨uK hb h0 _ (vD a),zC _ _ _ (fun h=>(hc h).1),fun x hx=> ?_,h0⟩
 exact yl (hb.1.1.2.2.2.2.2.2.2.2.2.2.2.2 x hx).1 (hr x hx) (hb.2.1 x hx)
theorem lm {a:Bat} (h:okB a):(dK a).length=61+(body a).length:=by
 unfold dK
 rw[CO,mZ h.1.1]
theorem vE: ∀ (l:List Rec) (t:List UInt8),(∀ x,x∈l→wI x.Co∧wI x.Cd∧rwt x≤900000∧dt x=0)→t.length+(aV cu l).length≤1000000→cT l (t,0)=some (t++aV cu l,0)
 | [],t,_,_=>by rw[aV,Db]; rfl
 | x::l,t,h,hl=>by
  obtain⟨h1,h2,h3,h4⟩:=h x (.head _)
  rw[aV,CO] at hl
  rw[cT,rd x t h1 h2 h3 (by omega),if_pos h4,CM,vE l _ (fun y hy=>h y (.tail _ hy)) (by rw[CO]; omega),aV,CV]
theorem benc {a:Bat} (hb:smB a):dF a=some (if chk a=0 then (dK a,0) else ([],chk a)):=by
 unfold dF
 rw[(uJ hb.1).1,CM]
 by_cases h0:chk a=0
 rotate_left
 ·rw[if_neg h0,if_neg h0]
 obtain⟨hn,hp,hc,hr⟩:=nL hb.1 h0
 have hl:=hb.2.2
 have hw: ∀ x,x∈a.B0→wI x.Co∧wI x.Cd∧rwt x≤900000∧dt x=0:=fun x hx=>⟨(hb.1.1.2.2.2.2.2.2.2.2.2.2.2.2 x hx).1,(hb.1.1.2.2.2.2.2.2.2.2.2.2.2.2 x hx).2.1,hb.2.1 x hx,hr x hx⟩
 have hlb:(aV cu a.B0).length≤900000:=hl
 rw[if_pos h0,if_pos h0,vE a.B0 [] hw (by rw[DJ]; omega),CM,CW,fy,CM]
 dsimp only
 rw[lN]
 dsimp only
 rw[if_pos (show -9223372036854775808≤(49+((aV cu a.B0).length:Int))∧(49+((aV cu a.B0).length:Int))≤9223372036854775807 by omega),zd,CM]
 have hP0:okP (pB a 0):=uK hb h0 0 (by decide)
 have e0:ck ([],0) (pB a 0)=some (kT (pB a 0),0):=by
  have:=pw [] (p:=pB a 0) ⟨hP0.1,hP0.2.1⟩ (by decide)
  rwa [CW] at this
 have e0':ck ([],0) (⟨a.Cn,(49+((aV cu a.B0).length:Int)),a.Ch,0,fJ a.CF a.CI a.Ct,a.Cl,a.B9,a.Cu,a.BX,a.B5,a.Ca,(a.B0.length:Int)⟩:Pfx)=some (kT (pB a 0),0):=e0
 rw[e0',CM,fy,CM]
 dsimp only
 rw[lN]
 dsimp only
 rw[if_pos rfl,if_pos rfl,CM,if_neg (by decide),vw,CM]
 have hp61:=mZ hP0.1
 have hp21:(fd (pB a 0)).length≤61:=by rw[← ll,C1]; omega
 have hs2 : [fd (pB a 0),aV cu a.B0].flatten=fd (pB a 0)++aV cu a.B0:=by simp
 rw[if_pos (show 21≤(kT (pB a 0)).length by omega),ll,vy [fd (pB a 0),aV cu a.B0] (by intro t ht; rcases List.mem_cons.1 ht with rfl | ht; omega; rw[List.mem_singleton.1 ht]; omega),CM,hs2]
 dsimp only
 have hlt:=vD a
 have hsum:lF 0 (fd (pB a 0)++aV cu a.B0)=jN a:=rfl
 rw[hsum,if_pos (show -9223372036854775808≤((jN a:Nat):Int)∧((jN a:Nat):Int)≤9223372036854775807 by omega)]
 have hP:=uK hb h0 _ hlt
 have e1:ck ([],0) (⟨a.Cn,(49+((aV cu a.B0).length:Int)),a.Ch,((jN a:Nat):Int),fJ a.CF a.CI a.Ct,a.Cl,a.B9,a.Cu,a.BX,a.B5,a.Ca,(a.B0.length:Int)⟩:Pfx)=some (kT (pB a (jN a)),0):=by
  have:=pw [] (p:=pB a (jN a)) ⟨hP.1,hP.2.1⟩ (by decide)
  rwa [CW] at this
 have hp61':=mZ hP.1
 rw[e1,CM,sD _ _ (by dsimp only; omega),gL,CM,fy,CM]
 dsimp only
 rw[lN]
 rfl
theorem uL (s:List UInt8) (hs:s.length≤1000000):(∃ e,e≠0∧cU s=some (zBat,e)∧(qn s 0= .error e∨ ∃ b r,qn s 0= .ok (b,r)∧r<s.length∧e=2))∨(∃ b,qn s 0= .ok (b,s.length)∧cU s=some (b,0)):=by
 unfold cU
 rw[fz _ (by omega),CM]
 rcases yz.run s 0 hs (Da _) with⟨e,st,p1,g1,x1,y1⟩ | ⟨b,r,p1,g1,n1,l1⟩
 ·rw[List.drop_zero] at g1
  rw[g1,CM]
  dsimp only
  rw[eR y1,CM]
  dsimp only
  rw[if_neg y1,x1]
  exact .inl ⟨e,by rw[← x1]; exact y1,rfl,.inl p1⟩
 ·rw[List.drop_zero] at g1
  rw[g1,CM]
  dsimp only
  by_cases hr:r=s.length
  ·subst hr
   rw[List.drop_length,xz,CM]
   exact .inr ⟨b,p1,rfl⟩
  ·have hne:s.drop r ≠ []:=fun h=>by have:=List.drop_eq_nil_iff.1 h; omega
   have e2:bU ⟨s.drop r,r,0⟩=⟨s.drop r,r,2⟩:=by unfold bU; rw[if_neg hne]; rfl
   rw[cZ,e2,CM]
   exact .inl ⟨2,by decide,rfl,.inr ⟨b,r,p1,by omega,rfl⟩⟩
theorem yB (a:Bat) (s:Int):mkB (pB a s) a.B0=a:=by
 obtain⟨b1,b2,b3⟩:=vB a.CF a.CI a.Ct
 unfold mkB pB
 dsimp only
 rw[b1,b2,b3]
theorem pM {b:Bat} (h:okB b) (hl:(dK b).length≤1000000):bnB b:=by
 have h1:=pL h.1 h.2.2.1 (by have:=lm h; unfold body at this; omega)
 rwa [yB] at h1
def gdP (p:aW):Prop:=wI p.Cs∧p.Cf.length≤140737488351232∧ ∀ b,b∈p.Cf→bnB b
def gdT (t:aB):Prop:=t.Ck.length≤140737488351232∧t.B7.length*32≤140737488351232∧ ∀ p,p∈t.B7→gdP p
def gdQ (r:ao):Prop:=wI r.B8∧r.BZ.length*40≤140737488351232∧ ∀ t,t∈r.BZ→gdT t
def j7 (nul:Bool):List Bat→Int
 | []=>0
 | b::l=>if chk b=0 then (if b.Ct=true then 12 else if b.CI=nul then 8 else j7 nul l) else chk b
def tz (v:Int) (nul:Bool) (l:List Bat):Int:=if l.length=0∨(v<4∧1<l.length) then 10 else j7 nul l
theorem yC (r:ao) (y:Int): ∀ l:List Bat,(∀ b,b∈l→bnB b)→bd r l y=some (if j7 r.Cc.null l=0 then .go y else .ret (j7 r.Cc.null l))
 | [],_=>rfl
 | b::l,h=>by
  rw[bd,(uJ (h b (.head _))).1,CM,j7,yC r y l (fun x hx=>h x (.tail _ hx))]
  by_cases c1:chk b=0
  ·rw[if_pos c1,if_pos c1]
   by_cases c2:b.Ct=true
   ·rw[if_pos c2,if_pos c2]; rfl
   ·rw[if_neg c2,if_neg c2]
    by_cases c3:b.CI=r.Cc.null
    ·rw[if_pos (by rw[c3]; exact beq_self_eq_true _),if_pos c3]; rfl
    ·rw[if_neg (by simpa using c3),if_neg c3]
  ·rw[if_neg c1,if_neg c1,if_neg c1]
theorem yD (r:ao) (l:List Bat) (v:Int) (h: ∀ b,b∈l→bnB b):cI r l v=some (tz v r.Cc.null l):=by
 unfold cI tz
 by_cases c0:l.length=0
 ·rw[if_pos (by omega),CM,if_pos rfl,if_pos (.inl c0)]
 rw[if_neg (by omega)]
 by_cases c1:v<4
 ·rw[if_pos c1]
  by_cases c2:1<l.length
  ·rw[if_pos (by omega),CM,if_pos rfl,if_pos (.inr ⟨c1,c2⟩)]
  ·rw[if_neg (by omega),CM,if_neg (by decide),yC r 0 l h,if_neg (show ¬ (l.length=0∨(v<4∧1<l.length)) from fun hh=>by rcases hh with hh | hh; exact c0 hh; exact c2 hh.2)]
   by_cases c3:j7 r.Cc.null l=0
   ·rw[if_pos c3,c3]; rfl
   ·rw[if_neg c3]; rfl
 ·rw[if_neg c1,CM,if_neg (by decide),yC r 0 l h,if_neg (show ¬ (l.length=0∨(v<4∧1<l.length)) from fun hh=>by rcases hh with hh | hh; exact c0 hh; exact c1 hh.1)]
  by_cases c3:j7 r.Cc.null l=0
  ·rw[if_pos c3,c3]; rfl
  ·rw[if_neg c3]; rfl
def uM:Option Int→Int→Bool
 | none,_=>true
 | some q,n=>decide (q<n)
def rqP:Option Int→List aW→Bool
 | _,[]=>true
 | p,x::l=>okn x.Cs && uM p x.Cs && rqP (some x.Cs) l
def uN:Option (List UInt8)→List UInt8→Bool
 | none,_=>true
 | some q,d=>Op.bytesLess q d
def qo (p:Option (List UInt8)) (t:aB):Bool:= !t.Ck.isEmpty && decide (t.Ck.length≤32767) && uN p t.Ck && rqP none t.B7
def rqT:Option (List UInt8)→List aB→Int
 | _,[]=>0
 | p,t::l=>if t.B7.length=0 then 10 else if qo p t=true then rqT (some t.Ck) l else 13
def tA (l:List aB):Int:=if l.length=0 then 10 else rqT none l
theorem tB (t:aB) (hn:t.B7.length≤140737488351232) (y:Int): ∀ (l:List aW) (p:Option Int) (k:Nat),t.B7.drop k=l→(∀ q,q∈l→wI q.Cs)→(k=0→p=none)→(0<k→ ∃ u,t.B7[k - 1]? = some u∧p=some u.Cs)→cC t l y k=some (if rqP p l=true then .go y else .ret 13)
 | [],p,k,_,_,_,_=>rfl
 | x::l,p,k,h,hw,h0,h1=>by
  obtain⟨g1,g2,g3⟩:=iF h
  have hx:=hw x (.head _)
  have ih:=tB t hn y l (some x.Cs) (k+1) g2 (fun q hq=>hw q (.tail _ hq)) (fun h=>absurd h (by omega)) (fun _=>⟨x,g1,rfl⟩)
  rw[cC,dS _ _ hx,CM,e9,rqP]
  by_cases c1:x.Cs<0
  ·have:okn x.Cs=false:=by unfold okn; simp; omega
   rw[if_pos c1,CM,if_pos rfl,this]; rfl
  rw[if_neg c1]
  by_cases c2:x.Cs≤2147483647
  rotate_left
  ·have:okn x.Cs=false:=by unfold okn; simp; omega
   rw[if_neg (by simp; omega),CM,if_pos rfl,this]; rfl
  have hok:okn x.Cs=true:=by unfold okn; simp; omega
  rw[if_pos (by simp; omega),hok]
  rcases Nat.eq_zero_or_pos k with hk | hk
  ·rw[h0 hk,if_neg (by omega),CM,if_neg (by decide),ih]; rfl
  ·obtain⟨u,u1,rfl⟩:=h1 hk
   rw[if_pos (by omega),if_pos (by omega),if_pos (by omega),show ((k:Int) - 1).toNat=k - 1 by omega,u1,CM]
   by_cases c3:u.Cs<x.Cs
   ·rw[if_neg (by omega),CM,if_neg (by decide),ih]
    rw[uM,CP c3]; rfl
   ·rw[if_pos (by omega),CM,if_pos rfl]
    rw[uM,CS c3]; rfl
theorem tC (a:List aB) (y:Int): ∀ (l:List aB) (p:Option (List UInt8)) (k:Nat),a.drop k=l→a.length≤140737488351232→(∀ t,t∈l→gdT t)→(k=0→p=none)→(0<k→ ∃ u,a[k - 1]? = some u∧p=some u.Ck)→bJ a l y k=some (if rqT p l=0 then .go y else .ret (rqT p l))
 | [],p,k,_,_,_,_,_=>rfl
 | t::l,p,k,h,hn,hw,h0,h1=>by
  obtain⟨g1,g2,g3⟩:=iF h
  have ht:=hw t (.head _)
  have ih:=tC a y l (some t.Ck) (k+1) g2 hn (fun q hq=>hw q (.tail _ hq)) (fun h=>absurd h (by omega)) (fun _=>⟨t,g1,rfl⟩)
  rw[bJ,rqT]
  by_cases c0:t.B7.length=0
  ·rw[if_pos (by omega),if_pos c0]; rfl
  rw[if_neg (by omega),if_neg c0]
  have hl3:=tB t (by have:=ht.2.1; omega) y t.B7 none 0 rfl (fun q hq=>(ht.2.2 q hq).1) (fun _=>rfl) (fun h=>absurd h (by omega))
  rw[hl3]
  have bad: ∀ {b:Bool},qo p t=false→b=true→((some b).bind fun y143=>if y143=true then some (Lp.ret 13:Lp Int Int) else ((some (if rqP none t.B7=true then (.go y:Lp Int Int) else .ret 13)).bind fun e=>match e with | .ret r=>some (Lp.ret r) | .go y237=>(bJ a l y237 (k+1))))=some (if (if qo p t=true then rqT (some t.Ck) l else 13)=0 then .go y else .ret (if qo p t=true then rqT (some t.Ck) l else 13)):=by
   intro b hb hb2
   rw[hb2,CM,if_pos rfl,hb]; rfl
  have good: ∀ {b:Bool},(!t.Ck.isEmpty && decide (t.Ck.length≤32767) && uN p t.Ck)=true→b=false→((some b).bind fun y143=>if y143=true then some (Lp.ret 13:Lp Int Int) else ((some (if rqP none t.B7=true then (.go y:Lp Int Int) else .ret 13)).bind fun e=>match e with | .ret r=>some (Lp.ret r) | .go y237=>(bJ a l y237 (k+1))))=some (if (if qo p t=true then rqT (some t.Ck) l else 13)=0 then .go y else .ret (if qo p t=true then rqT (some t.Ck) l else 13)):=by
   intro b hb hb2
   rw[hb2,CM,if_neg (by decide),CM]
   unfold qo
   rw[hb,Bool.true_and]
   cases rqP none t.B7
   ·rfl
   ·exact ih
  by_cases c1:t.Ck = []
  ·rw[if_pos c1]
   exact bad (by unfold qo; rw[c1]; rfl) rfl
  rw[if_neg c1]
  have hne:t.Ck.isEmpty=false:=by cases hh:t.Ck with | nil=>exact absurd hh c1 | cons c u=>rfl
  by_cases c2:(t.Ck.length:Int)>32767
  ·rw[if_pos c2]
   exact bad (by unfold qo; rw[CS (by omega)]; simp) rfl
  rw[if_neg c2]
  rcases Nat.eq_zero_or_pos k with hk | hk
  ·rw[if_neg (by omega)]
   exact good (by rw[h0 hk,hne,CP (by omega)]; rfl) rfl
  ·obtain⟨u,u1,rfl⟩:=h1 hk
   rw[if_pos (by omega),if_pos (by omega),if_pos (by omega),show ((k:Int) - 1).toNat=k - 1 by omega,u1,CM]
   by_cases c3:Op.bytesLess u.Ck t.Ck=true
   ·rw[if_pos c3]
    exact good (by rw[hne,CP (by omega)]; exact c3) rfl
   ·rw[if_neg c3]
    exact bad (by unfold qo uN; simp only[c3]; simp) rfl
theorem yE (l:List aB) (hn:l.length≤140737488351232) (hw: ∀ t,t∈l→gdT t):fu l=some (tA l):=by
 unfold fu tA
 by_cases c0:l.length=0
 ·rw[if_pos (by omega),if_pos c0]
 ·rw[if_neg (by omega),if_neg c0,tC l 0 l none 0 rfl hn hw (fun _=>rfl) (fun h=>absurd h (by omega))]
  by_cases c:rqT none l=0
  ·rw[if_pos c,c]; rfl
  ·rw[if_neg c]; rfl
def j8 (v:Int) (nul:Bool):List aW→Int
 | []=>0
 | p::l=>if tz v nul p.Cf=0 then j8 v nul l else tz v nul p.Cf
def ln (v:Int) (nul:Bool):List aB→Int
 | []=>0
 | t::l=>if j8 v nul t.B7=0 then ln v nul l else j8 v nul t.B7
def idOk (r:ao):Prop:=aT r.Cc=true∧(r.Cc.null=true∨dc r.Cc.data=true)
def wH (r:ao):Prop:= -1≤r.CG∧r.CG≤1∧0≤r.B8∧r.B8≤2147483647
instance (r:ao):Decidable (idOk r):=by unfold idOk; infer_instance
instance (r:ao):Decidable (wH r):=by unfold wH; infer_instance
def tD (v:Int) (r:ao):Int:=if idOk r then (if wH r then (if tA r.BZ=0 then ln v r.Cc.null r.BZ else tA r.BZ) else 11) else 4
theorem pc_l2 (r:ao) (v y:Int): ∀ l:List aW,(∀ p,p∈l→gdP p)→bp r v l y=some (if j8 v r.Cc.null l=0 then .go y else .ret (j8 v r.Cc.null l))
 | [],_=>rfl
 | p::l,h=>by
  rw[bp,yD r p.Cf v (h p (.head _)).2.2,CM,j8,pc_l2 r v y l (fun q hq=>h q (.tail _ hq))]
  by_cases c:tz v r.Cc.null p.Cf=0
  ·rw[if_pos c,if_pos c]
  ·rw[if_neg c,if_neg c,if_neg c]
theorem pc_l1 (r:ao) (v y:Int): ∀ l:List aB,(∀ t,t∈l→gdT t)→bq r v l y=some (if ln v r.Cc.null l=0 then .go y else .ret (ln v r.Cc.null l))
 | [],_=>rfl
 | t::l,h=>by
  rw[bq,pc_l2 r v y t.B7 (h t (.head _)).2.2,CM,ln]
  by_cases c:j8 v r.Cc.null t.B7=0
  ·rw[if_pos c,if_pos c]
   dsimp only
   rw[pc_l1 r v y l (fun q hq=>h q (.tail _ hq))]
  ·rw[if_neg c,if_neg c,if_neg c]
theorem yF (r:ao) (v:Int) (h:gdQ r):bz r v=some (tD v r):=by
 unfold bz tD
 have h1:(((kv r.Cc).bind fun x12=>if x12=true then (if r.Cc.null=true then some false else ((iZ r.Cc.data).bind fun x16=>if x16=true then some false else some true)) else some true):Option Bool)=some (decide (¬ idOk r)):=by
  rw[lb,CM,jY]
  by_cases c1:aT r.Cc=true
  ·rw[if_pos c1]
   by_cases c2:r.Cc.null=true
   ·rw[if_pos c2]; exact congrArg some (Eq.symm (CS (fun hh=>hh ⟨c1,.inl c2⟩)))
   ·rw[if_neg c2,CM]
    by_cases c3:dc r.Cc.data=true
    ·rw[if_pos c3]; exact congrArg some (Eq.symm (CS (fun hh=>hh ⟨c1,.inr c3⟩)))
    ·rw[if_neg c3]; exact congrArg some (Eq.symm (CP (fun hh=>hh.2.elim c2 c3)))
  ·rw[if_neg c1]; exact congrArg some (Eq.symm (CP (fun hh=>c1 hh.1)))
 have h2:((if r.CG<(-1) then some true else (if r.CG>1 then some true else (if r.B8<0 then some true else ((fF r.B8 4).bind fun x30=>if x30=true then some false else some true)))):Option Bool)=some (decide (¬ wH r)):=by
  rw[dS _ _ h.1,CM,e9]
  unfold wH
  by_cases c1:r.CG < -1
  ·rw[if_pos c1,CP (by omega)]
  rw[if_neg c1]
  by_cases c2:r.CG>1
  ·rw[if_pos c2,CP (by omega)]
  rw[if_neg c2]
  by_cases c3:r.B8<0
  ·rw[if_pos c3,CP (by omega)]
  rw[if_neg c3]
  by_cases c4:r.B8≤2147483647
  ·rw[if_pos (CP (by omega)),CS (by omega)]
  ·rw[if_neg (by rw[decide_eq_true_eq]; omega),CP (by omega)]
 rw[h1,CM]
 by_cases c1:idOk r
 rotate_left
 ·rw[CP c1,if_pos rfl,if_neg c1]
 rw[CS (fun hh=>hh c1),if_neg (by decide),if_pos c1,h2,CM]
 by_cases c2:wH r
 rotate_left
 ·rw[CP c2,if_pos rfl,if_neg c2]
 rw[CS (fun hh=>hh c2),if_neg (by decide),if_pos c2,yE _ (by have:=h.2.1; omega) h.2.2,CM]
 by_cases c3:tA r.BZ=0
 ·rw[if_pos c3,if_pos c3,pc_l1 r v 0 _ h.2.2]
  by_cases c4:ln v r.Cc.null r.BZ=0
  ·rw[if_pos c4,c4]; rfl
  ·rw[if_neg c4]; rfl
 ·rw[if_neg c3,if_neg c3]
end Go.Proofs.YtheikonlgjdopaaGreat.Sl
