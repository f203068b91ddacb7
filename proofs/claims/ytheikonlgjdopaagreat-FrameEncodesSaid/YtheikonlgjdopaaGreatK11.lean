/- frameEncodes_holds: part 11. -/
import Derived.KernelRfl
import Derived.Test.YtheikonlgjdopaaGreatK10
set_option maxRecDepth 100000
set_option maxHeartbeats 4000000
set_option linter.defProp false
namespace Go.Proofs.YtheikonlgjdopaaGreat.Sl
open Go.RowKit
set_option linter.unusedVariables false
set_option linter.unusedSimpArgs false
theorem Fh:CQ mX (qG 64) 0:=(AQ 64 (.inr rfl)).cq (lL 64 (.inr rfl))
theorem Cz {st:I} (h:st.err≠0):mX st=some (0,st):=Fh.dead st h
theorem jy {st:I} (h:st.err≠0):eg st=some (st.err,st):=by rw[gU,wz h]
def xU:Pr Unit:=fun s q=>if q=s.length then .ok ((),q) else .error 2
def CA:Rec:=⟨0,0,⟨false,[]⟩,⟨false,[]⟩,[]⟩
def vI:Pr Rec:=(fC 1).bind fun z=>if z=0 then (qG 64).bind fun t=>(qG 32).bind fun o=>if o<0 then .err 11 else oa.bind fun k=>oa.bind fun v=>GG.bind fun h=>xU.bind fun _=> .ret ⟨t,o,k,v,h⟩ else .err 8
def xV (st9:I):Option (Rec×Int):=(ed st9 1).bind fun (x12,st13)=>if x12=0 then ((mX st13).bind fun (x16,st17)=>(pL st17).bind fun (x19,st20)=>if x19<0 then ((cj st20 11).bind fun st24=>(cY st24).bind fun (x26,st27)=>(cY st27).bind fun (x29,st30)=>(cc st30).bind fun (x32,st35)=>(eg st35).bind fun (x37,st38)=>some ((⟨x16,x19,x26,x29,x32⟩:Rec),x37)) else ((cY st20).bind fun (x43,st44)=>(cY st44).bind fun (x46,st47)=>(cc st47).bind fun (x49,st52)=>(eg st52).bind fun (x54,st55)=>some ((⟨x16,x19,x43,x46,x49⟩:Rec),x54))) else ((cj st13 8).bind fun st60=>(mX st60).bind fun (x62,st63)=>(pL st63).bind fun (x65,st66)=>if x65<0 then ((cj st66 11).bind fun st70=>(cY st70).bind fun (x72,st73)=>(cY st73).bind fun (x75,st76)=>(cc st76).bind fun (x78,st81)=>(eg st81).bind fun (x83,st84)=>some ((⟨x62,x65,x72,x75,x78⟩:Rec),x83)) else ((cY st66).bind fun (x89,st90)=>(cY st90).bind fun (x92,st93)=>(cc st93).bind fun (x95,st98)=>(eg st98).bind fun (x100,st101)=>some ((⟨x62,x65,x89,x92,x95⟩:Rec),x100)))
theorem IM (s:List UInt8) (hs:s.length≤1000000):(∃ e x,vI s 0= .error e∧xV ⟨s,0,0⟩=some (x,e)∧e≠0)∨(∃ x,vI s 0= .ok (x,s.length)∧xV ⟨s,0,0⟩=some (x,0)):=by
 unfold xV vI
 have r0:=Q1.run s 0 (NX _)
 rw[List.drop_zero] at r0
 have hB:=B_hds
 rcases r0 with⟨e,st,p0,g0,x0,y0⟩ | ⟨z,q0,p0,g0,n0,l0⟩
 ·refine .inl ⟨e,⟨0,0,⟨false,[]⟩,⟨false,[]⟩,[]⟩,Pr.bind_err p0,?_,by rw[← x0]; exact y0⟩
  rw[g0]
  simp only[Nr,if_true,Cz y0,wk y0,lB y0,hB.dead _ y0,jy y0,x0,show ¬ (0:Int)<0 by decide,if_false]
 rw[g0,Nr]
 simp only
 by_cases hz:z=0
 ·rw[QK hz,Pr.bind_of p0,QK hz]
  rcases Fh.run s q0 l0 with⟨e,st,p1,g1,x1,y1⟩ | ⟨a,q1,p1,g1,n1,l1⟩
  ·refine .inl ⟨e,⟨0,0,⟨false,[]⟩,⟨false,[]⟩,[]⟩,Pr.bind_err p1,?_,by rw[← x1]; exact y1⟩
   rw[g1]
   simp only[Nr,if_true,wk y1,lB y1,hB.dead _ y1,jy y1,x1,show ¬ (0:Int)<0 by decide,if_false]
  rw[g1,Nr,Pr.bind_of p1]
  simp only
  rcases D5.run s q1 l1 with⟨e,st,p2,g2,x2,y2⟩ | ⟨o,q2,p2,g2,n2,l2⟩
  ·refine .inl ⟨e,⟨a,0,⟨false,[]⟩,⟨false,[]⟩,[]⟩,Pr.bind_err p2,?_,by rw[← x2]; exact y2⟩
   rw[g2]
   simp only[Nr,if_true,lB y2,hB.dead _ y2,jy y2,x2,show ¬ (0:Int)<0 by decide,if_false]
  rw[g2,Nr,Pr.bind_of p2]
  simp only
  by_cases ho:o<0
  ·rw[QK ho,QK ho,dz,Nr,tp]
   have y:(⟨s.drop q2,q2,11⟩:I).err≠0:=by simp
   refine .inl ⟨11,⟨a,o,⟨false,[]⟩,⟨false,[]⟩,[]⟩,rfl,?_,by decide⟩
   simp only[Nr,lB y,hB.dead _ y,jy y]
  rw[QL ho,QL ho]
  rcases QV.run s q2 l2 with⟨e,st,p3,g3,x3,y3⟩ | ⟨k,q3,p3,g3,n3,l3⟩
  ·refine .inl ⟨e,⟨a,o,⟨false,[]⟩,⟨false,[]⟩,[]⟩,Pr.bind_err p3,?_,by rw[← x3]; exact y3⟩
   rw[g3]
   simp only[Nr,lB y3,hB.dead _ y3,jy y3,x3]
  rw[g3,Nr,Pr.bind_of p3]
  simp only
  rcases QV.run s q3 l3 with⟨e,st,p4,g4,x4,y4⟩ | ⟨v,q4,p4,g4,n4,l4⟩
  ·refine .inl ⟨e,⟨a,o,k,⟨false,[]⟩,[]⟩,Pr.bind_err p4,?_,by rw[← x4]; exact y4⟩
   rw[g4]
   simp only[Nr,hB.dead _ y4,jy y4,x4]
  rw[g4,Nr,Pr.bind_of p4]
  simp only
  rcases hB.run s q4 hs l4 with⟨e,st,p5,g5,x5,y5⟩ | ⟨h,q5,p5,g5,n5,l5⟩
  ·refine .inl ⟨e,⟨a,o,k,v,[]⟩,Pr.bind_err p5,?_,by rw[← x5]; exact y5⟩
   rw[g5]
   simp only[Nr,jy y5,x5]
  rw[g5,Nr,Pr.bind_of p5]
  simp only
  rw[gU,Nr]
  simp only
  by_cases hq:q5=s.length
  ·have he:xU s q5= .ok ((),q5):=by unfold xU; rw[QK hq]
   have hi:(fR ⟨s.drop q5,q5,0⟩).err=0:=by rw[hq,List.drop_length]; rfl
   rw[Pr.bind_of he,hi]
   exact .inr ⟨⟨a,o,k,v,h⟩,by rw[hq]; rfl,rfl⟩
  ·have he:xU s q5= .error 2:=by unfold xU; rw[QL hq]
   have hi:(fR ⟨s.drop q5,q5,0⟩).err=2:=by
    unfold fR
    rw[QL]
    ·rfl
    ·intro h0
     have:=List.drop_eq_nil_iff.1 h0
     omega
   rw[Pr.bind_err he,hi]
   exact .inl ⟨2,_,rfl,rfl,by decide⟩
 ·rw[QL hz,Pr.bind_of p0,QL hz,dz,Nr,tp]
  have y:(⟨s.drop q0,q0,8⟩:I).err≠0:=by simp
  refine .inl ⟨8,⟨0,0,⟨false,[]⟩,⟨false,[]⟩,[]⟩,rfl,?_,by decide⟩
  simp only[Nr,if_true,Cz y,wk y,lB y,hB.dead _ y,jy y,show ¬ (0:Int)<0 by decide,if_false]
def GI:Pr Rec:=fun s q=>match zu s q with
 | .error e=> .error e
 | .ok (d,r)=>match vI d 0 with
  | .error e=> .error e
  | .ok (x,_)=> .ok (x,r)
theorem z3 (st9 st6:I) (x:Rec) (e:Int) (h:xV st9=some (x,e)):((ed st9 1).bind fun (x12,st13)=>if x12=0 then ((mX st13).bind fun (x16,st17)=>(pL st17).bind fun (x19,st20)=>if x19<0 then ((cj st20 11).bind fun st24=>(cY st24).bind fun (x26,st27)=>(cY st27).bind fun (x29,st30)=>(cc st30).bind fun (x32,st35)=>(eg st35).bind fun (x37,st38)=>if x37=0 then (some ((⟨x16,x19,x26,x29,x32⟩:Rec),st6)) else ((cj st6 x37).bind fun st41=>some (CA,st41))) else ((cY st20).bind fun (x43,st44)=>(cY st44).bind fun (x46,st47)=>(cc st47).bind fun (x49,st52)=>(eg st52).bind fun (x54,st55)=>if x54=0 then (some ((⟨x16,x19,x43,x46,x49⟩:Rec),st6)) else ((cj st6 x54).bind fun st58=>some (CA,st58)))) else ((cj st13 8).bind fun st60=>(mX st60).bind fun (x62,st63)=>(pL st63).bind fun (x65,st66)=>if x65<0 then ((cj st66 11).bind fun st70=>(cY st70).bind fun (x72,st73)=>(cY st73).bind fun (x75,st76)=>(cc st76).bind fun (x78,st81)=>(eg st81).bind fun (x83,st84)=>if x83=0 then (some ((⟨x62,x65,x72,x75,x78⟩:Rec),st6)) else ((cj st6 x83).bind fun st87=>some (CA,st87))) else ((cY st66).bind fun (x89,st90)=>(cY st90).bind fun (x92,st93)=>(cc st93).bind fun (x95,st98)=>(eg st98).bind fun (x100,st101)=>if x100=0 then (some ((⟨x62,x65,x89,x92,x95⟩:Rec),st6)) else ((cj st6 x100).bind fun st104=>some (CA,st104)))))=if e=0 then some (x,st6) else some (CA,dx st6 e):=by
 unfold xV at h
 revert h
 have hop: ∀ (o:Option (List Hd×I)) (f:List Hd→Rec),((o.bind fun (a,s1)=>(eg s1).bind fun (b,s2)=>some (f a,b))=some (x,e))→(o.bind fun (a,s1)=>(eg s1).bind fun (b,s2)=>if b=0 then some (f a,st6) else (cj st6 b).bind fun s3=>some (CA,s3))=if e=0 then some (x,st6) else some (CA,dx st6 e):=by
  intro o f h
  cases o with
  | none=>exact nomatch h
  | some y =>
   rw[Nr] at h ⊢
   simp only[gU,Nr] at h ⊢
   injection h with h
   obtain⟨rfl,rfl⟩:=N2 h
   by_cases hz:(fR y.2).err=0
   ·rw[QK hz,QK hz]
   ·rw[QL hz,QL hz]
    rfl
 simp only[kA,F2,Hp,Dz,dz,Nr]
 intro h
 split at h
 ·rename_i h1
  rw[QK h1]
  split at h
  ·rename_i h2
   rw[QK h2]
   exact hop _ (fun a=>⟨_,_,_,_,a⟩) h
  ·rename_i h2
   rw[QL h2]
   exact hop _ (fun a=>⟨_,_,_,_,a⟩) h
 ·rename_i h1
  rw[QL h1]
  split at h
  ·rename_i h2
   rw[QK h2]
   exact hop _ (fun a=>⟨_,_,_,_,a⟩) h
  ·rename_i h2
   rw[QL h2]
   exact hop _ (fun a=>⟨_,_,_,_,a⟩) h
theorem B_rec:CB iP GI CA:=by
 refine⟨fun st h=> ?_,fun s q hs hq=> ?_⟩
 ·unfold iP
  rw[Km h,Nr]
  simp only
  rw[bz,Nr]
  simp only
  rw[QL h]
  rfl
 ·unfold iP GI
  rcases QN.run s q hq with⟨e,st,p1,g1,x1,y1⟩ | ⟨d,r,p1,g1,n1,l1⟩
  ·refine .inl ⟨e,st,by rw[p1],?_,x1,y1⟩
   rw[g1,Nr]
   simp only
   rw[bz,Nr]
   simp only
   rw[QL y1]
   rfl
  ·have hsp:=re.spell _ _ _ _ hq p1
   have hdl:d.length≤1000000:=by
    have:=hsp.2.2.1
    rw[Nv] at this
    omega
   rw[g1,p1,Nr]
   simp only
   rw[bz,Nr]
   simp only[if_true]
   rw[lF _ QG,Nr]
   rcases IM d hdl with⟨e,x,b1,b2,b3⟩ | ⟨x,b1,b2⟩
   ·have hb:=z3 ⟨d,0,0⟩ ⟨s.drop r,r,0⟩ x e b2
    rw[QL b3] at hb
    rw[b1]
    exact .inl ⟨e,_,rfl,hb,rfl,b3⟩
   ·have hb:=z3 ⟨d,0,0⟩ ⟨s.drop r,r,0⟩ x 0 b2
    rw[QK rfl] at hb
    rw[b1]
    exact .inr ⟨x,r,rfl,hb,n1,l1⟩
def kZ (b:Bl):List UInt8:=bY (bj (co b))++b.data
def pO (l:List Hd):List UInt8:=bY (bj (l.length:Int))++bd fo l
def dn (x:Rec):List UInt8:=be 0 1++(bY (bj x.Nb)++(bY (bj x.M1)++(kZ x.M4++(kZ x.MV++pO x.MU))))
def okBl (b:Bl):Prop:=bj (co b)<2 ^ (32:Int).toNat∧bw b=true
def okHs (l:List Hd):Prop:=bj (l.length:Int)<2 ^ (32:Int).toNat∧ ∀ h,h∈l→okHd h
def xW (x:Rec):Prop:=bj x.Nb<2 ^ (64:Int).toNat∧(bj x.M1<2 ^ (32:Int).toNat∧0≤x.M1)∧okBl x.M4∧okBl x.MV∧okHs x.MU
theorem D8 {s:List UInt8} {x:Rec} {r:Nat} (h:vI s 0= .ok (x,r)):s=dn x∧xW x:=by
 obtain⟨z,q0,h0,h⟩:=Pr.bind_ok h
 split at h
 ·rename_i hz
  subst hz
  obtain⟨t,q1,h1,h⟩:=Pr.bind_ok h
  obtain⟨o,q2,h2,h⟩:=Pr.bind_ok h
  split at h
  ·exact nomatch h
  ·rename_i ho
   obtain⟨k,q3,h3,h⟩:=Pr.bind_ok h
   obtain⟨v,q4,h4,h⟩:=Pr.bind_ok h
   obtain⟨hs,q5,h5,h⟩:=Pr.bind_ok h
   obtain⟨u,q6,h6,h⟩:=Pr.bind_ok h
   injection h with h
   obtain⟨rfl,rfl⟩:=N2 h
   obtain⟨-,a2,-,a4,a5⟩:=(eA 1 QH QH).spell _ _ _ _ (NX _) h0
   obtain⟨-,b2,-,b4,b5⟩:=(lL 64 (.inr rfl)).spell _ _ _ _ a2 h1
   obtain⟨-,c2,-,c4,c5⟩:=(lL 32 (.inl rfl)).spell _ _ _ _ b2 h2
   obtain⟨-,d2,-,d4,d5⟩:=kv.spell _ _ _ _ c2 h3
   obtain⟨-,e2,-,e4,e5⟩:=kv.spell _ _ _ _ d2 h4
   obtain⟨-,f2,-,f4,f5⟩:=IK.spell _ _ _ _ e2 h5
   have hq:q5=s.length:=by
    unfold xU at h6
    split at h6
    ·rename_i hh; exact hh
    ·exact nomatch h6
   refine⟨?_,b5,⟨c5,by simp only; omega⟩,d5,e5,f5⟩
   have hs2:s=s.take q5:=by rw[hq,List.take_length]
   rw[hs2,f4,e4,d4,c4,b4,a4]
   simp only[dn,kZ,pO,NA,List.take_zero,NM]
 ·exact nomatch h
theorem SpV:Sp oa kZ okBl:=kv
theorem SpH:Sp GG pO okHs:=IK
theorem GJ {x:Rec} (h:xW x):vI (dn x) 0= .ok (x,(dn x).length):=by
 obtain⟨h1,⟨h2,h3⟩,h4,h5,h6⟩:=h
 have hd:(dn x).drop 0=dn x:=rfl
 have hlen:(dn x).length=1+((bY (bj x.Nb)).length+((bY (bj x.M1)).length+((kZ x.M4).length+((kZ x.MV).length+(pO x.MU).length)))):=by
  simp only[dn,Nv,av]
 generalize hE:dn x=E at hd hlen ⊢
 have hh:E.drop 0=be 0 1++(bY (bj x.Nb)++(bY (bj x.M1)++(kZ x.M4++(kZ x.MV++(pO x.MU ++ []))))):=by
  rw[hd,← hE]
  simp only[dn,NP]
 have g0:=(eA 1 QH QH).back _ _ _ 0 (NX _) QH hh
 have hh:=cz hh
 rw[av] at hh g0
 have g1:=(lL 64 (.inr rfl)).back _ _ _ _ QG h1 hh
 have hh:=cz hh
 have g2:=(lL 32 (.inl rfl)).back _ _ _ _ QG h2 hh
 have hh:=cz hh
 have g3:=SpV.back _ _ _ _ QG h4 hh
 have hh:=cz hh
 have g4:=SpV.back _ _ _ _ QG h5 hh
 have hh:=cz hh
 have g5:=SpH.back _ _ _ _ QG h6 hh
 rw[vI,Pr.bind_of g0,QK rfl,Pr.bind_of g1,Pr.bind_of g2,QL QG,Pr.bind_of g3,Pr.bind_of g4,Pr.bind_of g5]
 have he:0+1+(bY (bj x.Nb)).length+(bY (bj x.M1)).length+(kZ x.M4).length+(kZ x.MV).length+(pO x.MU).length=E.length:=by omega
 rw[he,Pr.bind_of (a:=()) (r:=E.length) (by unfold xU; rw[QK rfl])]
 rfl
def cI (x:Rec):List UInt8:=bY (bj ((dn x).length:Int))++dn x
theorem D9:Sp GI cI (fun x=>xW x∧bj ((dn x).length:Int)<2 ^ (32:Int).toNat):=by
 refine⟨fun s q a r hq h=> ?_,fun s t q a hq ha h=> ?_⟩
 ·unfold GI at h
  cases hp:zu s q with
  | error e=>rw[hp] at h; exact nomatch h
  | ok y =>
   obtain⟨d,r'⟩:=y
   rw[hp] at h
   simp only at h
   obtain⟨a1,a2,a3,a4,a5⟩:=re.spell _ _ _ _ hq hp
   cases hb:vI d 0 with
   | error e=>rw[hb] at h; exact nomatch h
   | ok z =>
    rw[hb] at h
    injection h with h
    obtain⟨rfl,rfl⟩:=N2 h
    obtain⟨b1,b2⟩:=D8 (x:=z.1) (r:=z.2) hb
    unfold cI
    rw[← b1]
    exact⟨a1,a2,a3,a4,b2,a5.1⟩
 ·have g1:=re.back s t q (dn a) hq ⟨ha.2,rfl⟩ h
  unfold GI
  rw[g1]
  simp only
  rw[GJ ha.1]
  rfl
def rwt (x:Rec):Nat:=x.M4.data.length+x.MV.data.length+lC x.MU
theorem mT (b:Bl) (h:b.data.length≤1000000):(kZ b).length≤10+b.data.length:=by
 have hb:=nJ b QG
 have:=jK (co b) hb.1 hb.2
 rw[kZ,Nv]
 omega
theorem z4 (l:List Hd) (h:lC l≤1000000):(pO l).length≤10+lC l:=by
 have hn:=o8 l
 have h1:=jK (l.length:Int) QG QG
 have h2:=xS l h
 rw[pO,Nv]
 omega
theorem od (x:Rec) (ht:wI x.Nb) (ho:wI x.M1) (hw:rwt x≤900000):(dn x).length≤51+rwt x:=by
 unfold rwt at hw ⊢
 have h1:=gh _ (eX x.Nb ht.1 ht.2)
 have h2:=gh _ (eX x.M1 ho.1 ho.2)
 have h3:=mT x.M4 QG
 have h4:=mT x.MV QG
 have h5:=z4 x.MU QG
 simp only[dn,Nv,av]
 omega
theorem Ea (x:Rec) (ht:wI x.Nb) (ho:0≤x.M1∧x.M1≤2147483647) (hk:bw x.M4=true) (hv:bw x.MV=true) (hh: ∀ h,h∈x.MU→bw h.MV=true) (hw:rwt x≤900000):j1 x=some (dn x,0):=by
 unfold rwt at hw
 have h1:=gh _ (eX x.Nb ht.1 ht.2)
 have h2:=gh _ (eX x.M1 QG QG)
 have h3:=mT x.M4 QG
 have h4:=mT x.MV QG
 unfold kZ at h3 h4
 unfold j1
 rw[tT _ _ (by simp),Nr,show iY ([],0) [UInt8.ofNat (0:Int).toNat]=(be 0 1,0) from by decide]
 have l1:(be 0 1).length=1:=av 0 1
 generalize hb0:be 0 1=b0 at l1
 rw[BO _ _ ⟨ht,by simp only; omega⟩,Nr,oh]
 have l2:(b0++bY (bj x.Nb)).length≤11:=by rw[Nv]; omega
 generalize hB1:b0++bY (bj x.Nb)=B1 at l2
 rw[wJ _ _ ⟨by omega,by simp only; omega⟩,Nr]
 unfold jz
 rw[QK QG,oh]
 have l3:(B1++bY (bj x.M1)).length≤21:=by rw[Nv]; omega
 generalize hB2:B1++bY (bj x.M1)=B2 at l3
 rw[mJ hk QG QG,Nr]
 have l4:(B2++(bY (bj (co x.M4))++x.M4.data)).length≤31+x.M4.data.length:=by rw[Nv]; omega
 generalize hB3:B2++(bY (bj (co x.M4))++x.M4.data)=B3 at l4
 rw[mJ hv QG QG,Nr]
 have l5:(B3++(bY (bj (co x.MV))++x.MV.data)).length≤41+x.M4.data.length+x.MV.data.length:=by rw[Nv]; omega
 generalize hB4:B3++(bY (bj (co x.MV))++x.MV.data)=B4 at l5
 rw[IL _ _ hh QG,Nr,jA,Nr,xv]
 rw[← hB4,← hB3,← hB2,← hB1,← hb0]
 simp only[dn,kZ,pO,NA]
theorem xX {x:Rec} (h:gb x=0):(0≤x.M1∧x.M1≤2147483647)∧bw x.M4=true∧bw x.MV=true∧ ∀ h,h∈x.MU→bw h.MV=true:=by
 unfold gb at h
 split at h
 ·exact absurd h QH
 ·rename_i h1
  split at h
  ·rename_i h2
   simp only[Bool.and_eq_true] at h2
   exact⟨by omega,h2.1.1,h2.1.2,fun y hy=>List.all_eq_true.1 h2.2 y hy⟩
  ·exact absurd h QH
theorem GK (x:Rec) (t:List UInt8) (ht:wI x.Nb) (ho:wI x.M1) (hw:rwt x≤900000) (hl:t.length≤100000000):jt (t,0) x=some (if gb x=0 then (t++cI x,0) else (t,gb x)):=by
 unfold jt
 rw[pG x ho,Nr]
 by_cases hr:gb x=0
 ·obtain⟨h1,h2,h3,h4⟩:=xX hr
  have hb:=od x ht ho hw
  rw[QK hr,QK hr,Ea x ht h1 h2 h3 h4 hw,Nr]
  simp only[if_true]
  rw[xT QG QG,Nr]
  rfl
 ·rw[QL hr,QL hr,oF,Nr,EN]
theorem GL (x:Rec) (ht:wI x.Nb) (ho:wI x.M1) (hw:rwt x≤900000):lU x=some (cI x):=by
 have hb:=od x ht ho hw
 unfold rwt at hw hb
 have h1:=gh _ (eX x.Nb ht.1 ht.2)
 have h2:=gh _ (eX x.M1 ho.1 ho.2)
 have h3:=mT x.M4 QG
 have h4:=mT x.MV QG
 have h5:=z4 x.MU QG
 have hz:rl [0]=be 0 1:=by decide
 have e:(((((be 0 1++bY (bj x.Nb))++bY (bj x.M1))++kZ x.M4)++kZ x.MV)++pO x.MU)=dn x:=by simp only[dn,NA]
 unfold lU
 rw[hz,wl _ ht,Nr,QK (by simp only[av]; omega),wl _ ho,Nr,QK (by simp only[Nv,av]; omega),mE _ QG,Nr]
 rw[show bY (bj (co x.M4))++x.M4.data=kZ x.M4 from rfl,QK (by simp only[Nv,av]; omega),mE _ QG,Nr,show bY (bj (co x.MV))++x.MV.data=kZ x.MV from rfl,QK (by simp only[Nv,av]; omega),GH _ QG,Nr]
 rw[show bY (bj (x.MU.length:Int))++bd fo x.MU=pO x.MU from rfl,e,QK (by simp only[Nv,av]; omega),wl _ QG,Nr]
 have h6:=gh _ (eX ((dn x).length:Int) QG QG)
 rw[QK QG]
 rfl
def IO (a b:Hd):Bool:=decide (a.M4=b.M4) && decide (a.MV.null=b.MV.null) && decide (a.MV.data=b.MV.data)
def mr:List Hd→List Hd→Bool
 | [],[]=>true
 | a::l,b::m=>IO a b && mr l m
 | _,_=>false
theorem vJ: ∀ l:List Hd,mr l l=true
 | []=>rfl
 | a::l=>by rw[mr,vJ l]; simp[IO]
theorem xY: ∀ (l m:List Hd),mr l m=true→l.length=m.length
 | [],[],h=>rfl
 | [],b::m,h=>nomatch h
 | a::l,[],h=>nomatch h
 | a::l,b::m,h=>by
  rw[mr,Bool.and_eq_true] at h
  rw[NB,NB,xY l m h.2]
theorem z5 (a b:List Hd) (ha:a.length≤1000000) (y:Bool): ∀ (t u:List Hd) (k fuel:Nat),a.drop k=t→b.drop k=u→t.length=u.length→t.length<fuel→ ∃ z,fF a b fuel y k=some (if mr t u=true then .go (y,z) else .ret false)
 | [],[],k,fuel+1,ht,hu,hl,hf=>by
  have:=di ht
  exact⟨k,by rw[fF,QL QG]; rfl⟩
 | [],d::u,k,fuel,ht,hu,hl,hf=>by simp at hl
 | c::t,[],k,fuel,ht,hu,hl,hf=>by simp at hl
 | c::t,d::u,k,fuel+1,ht,hu,hl,hf=>by
  obtain⟨t1,t2,t3⟩:=cA ht
  obtain⟨u1,u2,u3⟩:=cA hu
  simp only[NB] at hl hf
  obtain⟨z,hz⟩:=z5 a b ha y t u (k+1) fuel t2 u2 QG QG
  rw[fF,QK QG,t1,Nr,u1,Nr,mr,IO]
  by_cases h1:c.M4=d.M4
  ·rw[QK h1,Nt h1]
   by_cases h2:c.MV.null=d.MV.null
   ·rw[QK h2,Nt h2]
    by_cases h3:c.MV.data=d.MV.data
    ·rw[QK h3,Nt h3,QK QG]
     exact⟨z,hz⟩
    ·rw[QL h3,Nu h3]
     exact⟨0,rfl⟩
   ·rw[QL h2,Nu h2]
    exact⟨0,rfl⟩
  ·rw[QL h1,Nu h1]
   exact⟨0,rfl⟩
theorem IP (a b:List Hd) (ha:a.length≤1000000):ne a b=some (mr a b):=by
 unfold ne
 by_cases hl:(a.length:Int)=(b.length:Int)
 ·obtain⟨z,hz⟩:=z5 a b ha false a b 0 (((a.length:Int)).toNat+1) rfl rfl QG QG
  rw[QK hl,hz]
  cases mr a b <;> rfl
 ·rw[QL hl]
  have:mr a b=false:=by
   cases h:mr a b with
   | false=>rfl
   | true=>exact absurd (congrArg Int.ofNat (xY a b h)) hl
  rw[this]
def z6 (a b:Rec):Bool:=decide (a.Nb=b.Nb) && decide (a.M1=b.M1) && decide (a.M4.null=b.M4.null) && decide (a.M4.data=b.M4.data) && decide (a.MV.null=b.MV.null) && decide (a.MV.data=b.MV.data) && mr a.MU b.MU
theorem Eb (a:Rec):z6 a a=true:=by simp[z6,vJ]
theorem IQ (a b:Rec) (ha:a.MU.length≤1000000):ng a b=some (z6 a b):=by
 unfold ng z6
 rw[IP _ _ ha]
 by_cases h1:a.Nb=b.Nb <;> by_cases h2:a.M1=b.M1 <;> by_cases h3:a.M4.null=b.M4.null <;> by_cases h4:a.M4.data=b.M4.data <;> by_cases h5:a.MV.null=b.MV.null <;> by_cases h6:a.MV.data=b.MV.data <;> simp[h1,h2,h3,h4,h5,h6]
theorem IR {x:Rec} (ht:wI x.Nb) (hr:gb x=0) (hw:rwt x≤900000):xW x∧bj ((dn x).length:Int)<2 ^ (32:Int).toNat:=by
 obtain⟨h1,h2,h3,h4⟩:=xX hr
 have hb:=od x ht ⟨by omega,by omega⟩ hw
 unfold rwt at hw hb
 have hn:=o8 x.MU
 have bk:=nJ x.M4 QG
 have bv:=nJ x.MV QG
 refine⟨⟨?_,⟨nI _ QG h1.2,h1.1⟩,⟨nI _ bk.1 bk.2,h2⟩,⟨nI _ bv.1 bv.2,h3⟩,nI _ QG QG,fun h hh=> ?_⟩,nI _ QG QG⟩
 ·rw[show 2 ^ (64:Int).toNat=18446744073709551616 by decide]
  exact eX _ ht.1 ht.2
 ·have hm:=Cy _ _ hh
  unfold hwt at hm
  have b:=nJ h.MV QG
  exact⟨nI _ QG QG,nI _ b.1 b.2,h4 h hh⟩
theorem Ec (x:Rec) (ht:wI x.Nb) (ho:wI x.M1) (hw:rwt x≤900000):(cI x).length≤61+rwt x:=by
 have hb:=od x ht ho hw
 have h6:=gh _ (eX ((dn x).length:Int) QG QG)
 rw[cI,Nv]
 omega
theorem CC {x:Rec} (h:xW x):gb x=0∧wI x.Nb∧wI x.M1:=by
 obtain⟨h1,⟨h2,h3⟩,h4,h5,h6⟩:=h
 rw[show 2 ^ (64:Int).toNat=18446744073709551616 by decide] at h1
 rw[show 2 ^ (32:Int).toNat=4294967296 by decide] at h2
 have ho:x.M1≤2147483647:=by unfold bj at h2; split at h2 <;> omega
 refine⟨?_,?_,⟨by omega,by omega⟩⟩
 ·unfold gb
  have hb:qP x.MU=true:=List.all_eq_true.2 fun y hy=>(h6.2 y hy).2.2
  rw[QL QG,h4.2,h5.2,hb]
  rfl
 ·unfold bj at h1
  constructor <;> (split at h1 <;> omega)
def we:Nat:=2197175160
def pY (x:Nat):Nat:=x / 2 ^^^ (if x % 2=1 then we else 0)
def me:Nat→Nat→Nat
 | 0,x=>x
 | k+1,x=>me k (pY x)
theorem Bh (x y:Nat):(x ^^^ y) % 2=(x % 2+y % 2) % 2:=by
 have h:=Nat.xor_mod_two_pow (a:=x) (b:=y) (n:=1)
 rw[Nat.pow_one] at h
 rw[h]
 rcases Nat.mod_two_eq_zero_or_one x with hx | hx <;> rcases Nat.mod_two_eq_zero_or_one y with hy | hy <;> rw[hx,hy] <;> rfl
theorem Bi (x y:Nat):(x ^^^ y) / 2=(x / 2) ^^^ (y / 2):=Nat.xor_div_two
theorem IU (x y:Nat):pY (x ^^^ y)=pY x ^^^ pY y:=by
 unfold pY
 rw[Bi,Bh]
 rcases Nat.mod_two_eq_zero_or_one x with hx | hx <;> rcases Nat.mod_two_eq_zero_or_one y with hy | hy <;> simp[hx,hy]
 ·rw[Nat.xor_assoc]
 ·ac_rfl
 ·rw[show x / 2 ^^^ we ^^^ (y / 2 ^^^ we)=x / 2 ^^^ y / 2 ^^^ (we ^^^ we) by ac_rfl,Nat.xor_self,Nat.xor_zero]
theorem xZ: ∀ (k x y:Nat),me k (x ^^^ y)=me k x ^^^ me k y
 | 0,_,_=>rfl
 | k+1,x,y=>by show me k _= _; rw[IU,xZ k]; rfl
theorem CD: ∀ (j k x:Nat),me (j+k) x=me k (me j x)
 | 0,k,x=>by rw[Nat.zero_add]; rfl
 | j+1,k,x=>by rw[show j+1+k=(j+k)+1 by omega]; exact CD j k (pY x)
theorem GM (x:Nat):pY (2*x)=x:=by
 unfold pY; rw[QL QG,Nat.xor_zero]; omega
theorem sn: ∀ (k x:Nat),me k (2 ^ k*x)=x
 | 0,x=>by rw[Nat.pow_zero,Nat.one_mul]; rfl
 | k+1,x=>by
  show me k (pY _)=x
  rw[show 2 ^ (k+1)*x=2*(2 ^ k*x) by rw[Nat.pow_succ,Nat.mul_comm (2 ^ k) 2,Nat.mul_assoc],GM]
  exact sn k x
theorem Fi {x:Nat} (h:x<2 ^ 32):pY x<2 ^ 32:=by
 unfold pY
 exact Nat.xor_lt_two_pow QG (by split <;> decide)
theorem wm: ∀ (k:Nat) {x:Nat},x<2 ^ 32→me k x<2 ^ 32
 | 0,_,h=>h
 | k+1,_,h=>wm k (Fi h)
theorem GN (x b:Nat) (hb:b<256):me 8 (x ^^^ b)=me 8 ((x % 256) ^^^ b) ^^^ (x / 256):=by
 have h:x=(x % 256) ^^^ (2 ^ 8*(x / 256)):=by
  apply Nat.eq_of_testBit_eq
  intro i
  rw[Nat.testBit_xor,show (256:Nat)=2 ^ 8 from rfl,Nat.testBit_mod_two_pow,Nat.testBit_two_pow_mul,Nat.testBit_div_two_pow]
  by_cases hi:i<8
  ·simp[hi,show ¬ 8≤i by omega]
  ·simp[hi,show 8≤i by omega]
 conv=>lhs; rw[h]
 rw[show x % 256 ^^^ 2 ^ 8*(x / 256) ^^^ b=(x % 256 ^^^ b) ^^^ (2 ^ 8*(x / 256)) by ac_rfl,xZ,sn]
def leN:List UInt8→Nat
 | []=>0
 | c::l=>c.toNat+256*leN l
def vj:Nat→List UInt8→Nat
 | x,[]=>x
 | x,c::l=>vj (me 8 (x ^^^ c.toNat)) l
theorem IV: ∀ l,leN l<2 ^ (8*l.length)
 | []=>by decide
 | c::l=>by
  have:=IV l
  have hc:=c.toNat_lt
  show c.toNat+256*leN l<2 ^ (8*(l.length+1))
  rw[show 8*(l.length+1)=8+8*l.length by omega,Nat.pow_add]
  omega
theorem CE {b:Nat} (hb:b<256) (y:Nat):b+256*y=b ^^^ (2 ^ 8*y):=by
 apply Nat.eq_of_testBit_eq
 intro i
 rw[show b+256*y=2 ^ 8*y+b by omega,Nat.testBit_two_pow_mul_add _ (show b<2 ^ 8 by omega),Nat.testBit_xor,Nat.testBit_two_pow_mul]
 by_cases hi:i<8
 ·simp[hi,show ¬ 8≤i by omega]
 ·have:b.testBit i=false:=Nat.testBit_lt_two_pow (Nat.lt_of_lt_of_le hb (show 2 ^ 8≤2 ^ i from Nat.pow_le_pow_right QH QG))
  simp[hi,show 8≤i by omega,this]
theorem Fj: ∀ (l:List UInt8) (x:Nat),vj x l=me (8*l.length) (x ^^^ leN l)
 | [],x=>by show x=me 0 (x ^^^ 0); rw[Nat.xor_zero]; rfl
 | c::l,x=>by
  show vj _ l= _
  rw[Fj l,show 8*(c::l).length=8+8*l.length by simp[Nat.mul_add]; omega,CD]
  show _=me _ (me 8 (x ^^^ (c.toNat+256*leN l)))
  rw[CE c.toNat_lt,show x ^^^ (c.toNat ^^^ 2 ^ 8*leN l)=(x ^^^ c.toNat) ^^^ (2 ^ 8*leN l) by ac_rfl,xZ 8 (x ^^^ c.toNat),sn]
theorem vK: ∀ (l m:List UInt8) (x:Nat),vj x (l++m)=vj (vj x l) m
 | [],_,_=>rfl
 | c::l,m,x=>vK l m _
theorem wn: ∀ (l:List UInt8) {x:Nat},x<2 ^ 32→vj x l<2 ^ 32
 | [],_,h=>h
 | c::l,_,h=>wn l (wm 8 (Nat.xor_lt_two_pow h (Nat.lt_trans c.toNat_lt QH)))
theorem rg (a:Nat) (h:a<4294967296):(BitVec.ofInt IntKind.u32.bits (a:Int)).toNat=a:=by
 show (BitVec.ofInt 32 (a:Int)).toNat=a
 rw[BitVec.ofInt_natCast,BitVec.toNat_ofNat,Nat.mod_eq_of_lt QG]
theorem CF (a:Nat) (h:a<256):(BitVec.ofInt IntKind.u8.bits (a:Int)).toNat=a:=by
 show (BitVec.ofInt 8 (a:Int)).toNat=a
 rw[BitVec.ofInt_natCast,BitVec.toNat_ofNat,Nat.mod_eq_of_lt QG]
theorem wrap_u32 (a:Nat):IntKind.u32.wrap (a:Int)=((a % 4294967296:Nat):Int):=by
 rw[IntKind.wrap_u32]; omega
theorem wrap_u8 (a:Nat):IntKind.u8.wrap (a:Int)=((a % 256:Nat):Int):=by
 rw[IntKind.wrap_u8]; omega
theorem wo (a b:Nat) (ha:a<4294967296) (hb:b<4294967296):Go.bits .xor .u32 (a:Int) (b:Int)=((a ^^^ b:Nat):Int):=by
 show IntKind.u32.wrap (((BitVec.ofInt IntKind.u32.bits (a:Int)) ^^^ (BitVec.ofInt IntKind.u32.bits (b:Int))).toNat:Int)= _
 rw[BitVec.toNat_xor,rg a ha,rg b hb,wrap_u32,Nat.mod_eq_of_lt (Nat.xor_lt_two_pow (n:=32) ha hb)]
theorem xor_u8 (a b:Nat) (ha:a<256) (hb:b<256):Go.bits .xor .u8 (a:Int) (b:Int)=((a ^^^ b:Nat):Int):=by
 show IntKind.u8.wrap (((BitVec.ofInt IntKind.u8.bits (a:Int)) ^^^ (BitVec.ofInt IntKind.u8.bits (b:Int))).toNat:Int)= _
 rw[BitVec.toNat_xor,CF a ha,CF b hb,wrap_u8,Nat.mod_eq_of_lt (Nat.xor_lt_two_pow (n:=8) ha hb)]
theorem IW (a:Nat) (ha:a<4294967296):Go.bits .and .u32 (a:Int) 1=((a % 2:Nat):Int):=by
 show IntKind.u32.wrap (((BitVec.ofInt IntKind.u32.bits (a:Int)) &&& (BitVec.ofInt IntKind.u32.bits ((1:Nat):Int))).toNat:Int)= _
 rw[BitVec.toNat_and,rg a ha,rg 1 QH,wrap_u32,Nat.and_one_is_mod,Nat.mod_eq_of_lt QG]
theorem IX (a:Nat):yO .u32 (a:Int) 1=((a / 2:Nat):Int):=by
 show Int.fdiv (a:Int) 2= _
 rw[Int.fdiv_eq_ediv_of_nonneg _ QH]
 omega
theorem IY (a:Nat):yO .u32 (a:Int) 8=((a / 256:Nat):Int):=by
 show Int.fdiv (a:Int) 256= _
 rw[Int.fdiv_eq_ediv_of_nonneg _ QH]
 omega
theorem IZ (y:Nat) (hy:y<4294967296):(if Go.bits .and .u32 (y:Int) 1=1 then some (Go.bits .xor .u32 (yO .u32 (y:Int) 1) 2197175160) else some (yO .u32 (y:Int) 1))=some ((pY y:Nat):Int):=by
 rw[IW y hy,IX,show (2197175160:Int)=((2197175160:Nat):Int) from rfl,wo _ _ QG QH]
 unfold pY
 by_cases h:y % 2=1
 ·rw[QK QG,QK h]; rfl
 ·rw[QL QG,QL h,Nat.xor_zero]
theorem I0: ∀ (m y k:Nat),y<4294967296→k≤8→8 - k<m→gz m (y:Int) k=some (((me (8 - k) y:Nat):Int),8)
 | 0,_,_,_,_,h=>by omega
 | m+1,y,k,hy,hk,hm=>by
  rw[gz]
  by_cases h:k<8
  ·rw[QK QG,IZ y hy,Nr,QK QG,I0 m (pY y) (k+1) (Fi hy) QG QG,show 8 - k=(8 - (k+1))+1 by omega]
   rfl
  ·rw[QL QG,show 8 - k=0 by omega,show k=8 by omega]
   rfl
def lD:List Int:=(List.range 256).map (fun j=>((me 8 j:Nat):Int))
theorem ya (j:Nat) (hj:j<256):lD[j]? = some ((me 8 j:Nat):Int):=by
 unfold lD
 rw[List.getElem?_map,List.getElem?_range hj]
 rfl
theorem I1: ∀ (m k:Nat) (l:List Int),l.length=256→k≤256→256 - k<m→(∀ j,j<k→l[j]? = some ((me 8 j:Nat):Int))→iB m k l=some (256,lD)
 | 0,_,_,_,_,h,_=>by omega
 | m+1,k,l,hl,hk,hm,hj=>by
  rw[iB]
  by_cases h:k<256
  ·have e1:IntKind.u32.wrap (k:Int)=((k:Nat):Int):=by rw[wrap_u32,Nat.mod_eq_of_lt QG]
   have e2:gz ((8:Int).toNat+1) (IntKind.u32.wrap (k:Int)) 0=some (((me 8 k:Nat):Int),8):=by
    rw[e1]
    exact I0 9 k 0 QG QG QG
   have e3:l[k]? = some (l[k]'(by omega)):=List.getElem?_eq_getElem QG
   rw[QK QG,e2,Nr]
   dsimp only
   rw[e3,Nr,Nr,QK QG]
   refine I1 m (k+1) _ (by rw[List.length_set]; exact hl) QG QG (fun j hjk=> ?_)
   rw[List.getElem?_set]
   by_cases e:k=j
   ·rw[QK e,QK QG,e]
   ·rw[QL e]
    exact hj j QG
  ·rw[QL QG,show k=256 by omega]
   congr 2
   apply List.ext_getElem?
   intro j
   by_cases hj2:j<256
   ·rw[ya j hj2]
    exact hj j QG
   ·rw[List.getElem?_eq_none QG,List.getElem?_eq_none (by unfold lD; simp; omega)]
theorem Fk:mP=some lD:=by
 unfold mP
 rw[show (256:Int).toNat+1=257 from rfl,I1 257 0 _ (List.length_replicate ..) QG QG (fun j hj=>absurd hj QG),Nr]
theorem Fl (s:List UInt8) (hs:s.length≤9223372036854775806): ∀ (m y k:Nat),y<4294967296→k≤s.length→s.length - k<m→d9 s m (y:Int) k lD=some (((vj y (s.drop k):Nat):Int),s.length,lD)
 | 0,_,_,_,_,h=>by omega
 | m+1,y,k,hy,hk,hm=>by
  rw[d9]
  by_cases h:k<s.length
  ·have e1:s[k]? = some s[k]:=List.getElem?_eq_getElem h
   have hc:=s[k].toNat_lt
   have hx:y % 256 ^^^ s[k].toNat<256:=Nat.xor_lt_two_pow (n:=8) QG hc
   have e2:Go.bits .xor .u8 (IntKind.u8.wrap (y:Int)) (s[k].toNat:Int)=((y % 256 ^^^ s[k].toNat:Nat):Int):=by
    rw[wrap_u8,xor_u8 _ _ QG QG]
   have e3:me 8 (y % 256 ^^^ s[k].toNat)<2 ^ 32:=wm 8 QG
   rw[QK QG,e1,Nr,e2,QK QG,Oz,ya _ hx,Nr,QK QG,IY,wo _ _ QG QG,← GN y _ QG,
    Fl s hs m _ (k+1) (wm 8 (Nat.xor_lt_two_pow (n:=32) hy QG)) QG QG]
   rw[bJ e1]
   rfl
  ·rw[QL QG,show k=s.length by omega,List.drop_length]
   rfl
def pH (x:Nat) (s:List UInt8):Nat:=4294967295 ^^^ vj (4294967295 ^^^ x) s
theorem Bj {x:Nat} (hx:x<4294967296) (s:List UInt8):pH x s<4294967296:=Nat.xor_lt_two_pow (n:=32) QH (wn s (Nat.xor_lt_two_pow (n:=32) QH hx))
theorem ones2 (x:Nat):4294967295 ^^^ (4294967295 ^^^ x)=x:=by rw[← Nat.xor_assoc,Nat.xor_self,Nat.zero_xor]
theorem CG (x:Nat) (s t:List UInt8):pH x (s++t)=pH (pH x s) t:=by
 unfold pH
 rw[vK,ones2]
theorem I2 (x:Nat):pH x []=x:=ones2 x
theorem I3 (x:Nat) (hx:x<4294967296) (s:List UInt8) (hs:s.length≤9223372036854775806):iG lD (x:Int) s=some (((pH x s:Nat):Int),lD):=by
 unfold iG
 have h1:(4294967295 ^^^ x:Nat)<4294967296:=Nat.xor_lt_two_pow (n:=32) QH hx
 rw[show (4294967295:Int)=((4294967295:Nat):Int) from rfl,wo _ _ QH hx,Oz,Fl s hs _ _ 0 h1 QG QG,Nr,List.drop_zero]
 dsimp only
 rw[wo _ _ QH (wn s h1)]
 rfl
theorem I4: ∀ (l:List (List UInt8)) (x:Nat),x<4294967296→(∀ s,s∈l→s.length≤9223372036854775806)→dK l (x:Int) lD=some (((pH x l.flatten:Nat):Int),lD)
 | [],x,_,_=>by rw[dK,List.flatten_nil,I2]
 | s::l,x,hx,hs=>by
  rw[dK,I3 x hx s (hs s (List.mem_cons_self ..)),Nr]
  dsimp only
  rw[I4 l _ (Bj hx s) (fun t ht=>hs t (List.mem_cons_of_mem _ ht)),List.flatten_cons,CG]
theorem Fm (l:List (List UInt8)) (hs: ∀ s,s∈l→s.length≤9223372036854775806):g8 lD l=some (((pH 0 l.flatten:Nat):Int),lD):=by
 unfold g8
 have h:=I4 l 0 QH hs
 rw[show ((0:Nat):Int)=0 from rfl] at h
 rw[h,Nr]
def bI (x j:Nat):Int:=if x.testBit j then 1 else 0
theorem Ed (x j:Nat):bI x j=((x / 2 ^ j % 2:Nat):Int):=by
 unfold bI
 rw[Nat.testBit_eq_decide_div_mod_eq]
 rcases Nat.mod_two_eq_zero_or_one (x / 2 ^ j) with h | h <;> rw[h] <;> rfl
theorem z7 (x j:Nat):bI x j=0∨bI x j=1:=by
 unfold bI
 by_cases h:x.testBit j=true
 ·rw[QK h]; exact .inr rfl
 ·rw[QL h]; exact .inl rfl
theorem yb (x y j:Nat):bI (x ^^^ y) j=(bI x j+bI y j) % 2:=by
 unfold bI
 rw[Nat.testBit_xor]
 cases x.testBit j <;> cases y.testBit j <;> rfl
theorem Bk (x j:Nat):bI (x / 2) j=bI x (j+1):=by
 unfold bI
 rw[Nat.testBit_succ]
theorem CH: ∀ (s:List UInt8) (k:Nat) (c:UInt8),s[k]? = some c→ ∀ j,j<8→(leN s).testBit (8*k+j)=c.toNat.testBit j
 | [],k,c,h,j,hj=>by simp at h
 | a::s,0,c,h,j,hj=>by
  obtain rfl:a=c:=by simpa using h
  show (a.toNat+256*leN s).testBit (8*0+j)= _
  rw[show a.toNat+256*leN s=2 ^ 8*leN s+a.toNat by omega,Nat.testBit_two_pow_mul_add _ (show a.toNat<2 ^ 8 from a.toNat_lt),QK QG,Nat.mul_zero,Nat.zero_add]
 | a::s,k+1,c,h,j,hj=>by
  show (a.toNat+256*leN s).testBit _= _
  rw[show a.toNat+256*leN s=2 ^ 8*leN s+a.toNat by omega,Nat.testBit_two_pow_mul_add _ (show a.toNat<2 ^ 8 from a.toNat_lt),QL QG,show 8*(k+1)+j - 8=8*k+j by omega]
  exact CH s k c (by simpa using h) j hj
theorem I5 (a:Int) (ha:0≤a) (hb:a≤9223372036854775807): ∀ (m y k:Nat),y<256→k≤(a % 8).toNat→(a % 8).toNat - k<m→im a m (y:Int) k=some (((y / 2 ^ ((a % 8).toNat - k):Nat):Int),(a % 8).toNat)
 | 0,_,_,_,_,h=>by omega
 | m+1,y,k,hy,hk,hm=>by
  rw[im,QK ⟨ha,hb⟩]
  by_cases h:k<(a % 8).toNat
  ·rw[QK QG,QK QG,QK QG,show ((y:Int) / 2)=((y / 2:Nat):Int) by omega,I5 a ha hb m (y / 2) (k+1) QG QG QG,Nat.div_div_eq_div_mul,
    show (a % 8).toNat - k=((a % 8).toNat - (k+1))+1 by omega,Nat.pow_succ,Nat.mul_comm 2]
  ·rw[QL QG,show (a % 8).toNat - k=0 by omega,Nat.pow_zero,Nat.div_one,show k=(a % 8).toNat by omega]
theorem Ko (s:List UInt8) (i:Nat) (hi:i<8*s.length) (hb:i≤9223372036854775807):oP s (i:Int)=some (bI (leN s) i):=by
 unfold oP
 have hk:i / 8<s.length:=by omega
 have e1:s[i / 8]? = some s[i / 8]:=List.getElem?_eq_getElem hk
 have hc:=s[i / 8].toNat_lt
 have e2:=I5 (i:Int) QG QG (((i:Int) % 8).toNat+1) s[i / 8].toNat 0 QG QG QG
 have e3:((i:Int) % 8).toNat=i % 8:=by omega
 rw[QK QG,QK QG,show ((i:Int) / 8).toNat=i / 8 by omega,e1,Nr,QK QG,e2,Nr,e3,Nat.sub_zero]
 dsimp only
 have h4:s[i / 8].toNat / 2 ^ (i % 8)≤s[i / 8].toNat:=Nat.div_le_self _ _
 suffices h6:bI (leN s) i=((s[i / 8].toNat / 2 ^ (i % 8) % 2:Nat):Int) by
  rw[h6]
  generalize s[i / 8].toNat / 2 ^ (i % 8)=q at h4 ⊢
  rw[QK QG]
  congr 1
 have h5:=CH s (i / 8) _ e1 (i % 8) QG
 rw[show 8*(i / 8)+i % 8=i by omega] at h5
 unfold bI
 rw[h5]
 exact Ed _ _
theorem GO: ∀ i:Nat,i<32→lR (31 - (i:Int))=some (bI we i):=by decide +kernel
def Bts (L k:Nat) (l:List Int) (x:Nat):Prop:=l.length=L∧ ∀ j,k+j<L→l[k+j]? = some (bI x j)
theorem I6 (s:List UInt8) (hs:s.length≤1000000): ∀ (m k:Nat) (l:List Int),l.length=8*s.length+32→k≤8*s.length→8*s.length - k<m→(∀ j,j<k→l[j]? = some (bI (leN s) j))→(∀ j,k≤j→j<8*s.length+32→l[j]? = some 0) →
 ∃ l',iq s m l k=some (l',8*s.length)∧Bts (8*s.length+32) 0 l' (leN s)
 | 0,_,_,_,_,h,_,_=>by omega
 | m+1,k,l,hl,hk,hm,h1,h2=>by
  rw[iq]
  by_cases h:k<8*s.length
  ·rw[QK QG,Ko s k h QG,Nr,h2 k (NW _) QG,Nr,QK QG]
   refine I6 s hs m (k+1) _ (by rw[List.length_set]; exact hl) QG QG (fun j hj=> ?_) (fun j hj hj2=> ?_)
   ·rw[List.getElem?_set]
    by_cases e:k=j
    ·rw[QK e,QK QG,e]
    ·rw[QL e]; exact h1 j QG
   ·rw[List.getElem?_set,QL QG]
    exact h2 j QG hj2
  ·have hk2:k=8*s.length:=by omega
   rw[QL QG,hk2]
   refine⟨l,rfl,hl,fun j hj=> ?_⟩
   rw[Nat.zero_add] at hj ⊢
   by_cases e:j<k
   ·exact h1 j e
   ·rw[h2 j QG hj]
    unfold bI
    rw[Nat.testBit_lt_two_pow (Nat.lt_of_lt_of_le (IV s) (Nat.pow_le_pow_right QH QG))]
    rfl
theorem Bm (k j:Nat):bI (2 ^ k - 1) j=if j<k then 1 else 0:=by
 unfold bI
 rw[Nat.testBit_two_pow_sub_one]
 by_cases h:j<k <;> simp[h]
theorem I7 (x L:Nat) (hL:32≤L): ∀ (m k:Nat) (l:List Int),k≤32→32 - k<m→Bts L 0 l (x ^^^ (2 ^ k - 1))→ ∃ l',ip m l k=some (l',32)∧Bts L 0 l' (x ^^^ 4294967295)
 | 0,_,_,_,h,_=>by omega
 | m+1,k,l,hk,hm,hB=>by
  rw[ip]
  by_cases h:k<32
  ·have e:=hB.2 k QG
   rw[Nat.zero_add] at e
   rw[QK QG,e,Nr]
   have h01:=z7 (x ^^^ (2 ^ k - 1)) k
   rw[QK QG,QK QG]
   refine I7 x L hL m (k+1) _ QG QG ⟨by rw[List.length_set]; exact hB.1,fun j hj=> ?_⟩
   rw[Nat.zero_add] at hj ⊢
   have e2:=hB.2 j QG
   rw[Nat.zero_add] at e2
   have R:bI (x ^^^ (2 ^ (k+1) - 1)) j=(bI x j+if j<k+1 then 1 else 0) % 2:=by rw[yb,Bm]
   have R0:bI (x ^^^ (2 ^ k - 1)) j=(bI x j+if j<k then 1 else 0) % 2:=by rw[yb,Bm]
   rw[List.getElem?_set,R]
   by_cases e3:k=j
   ·subst e3
    rw[QK rfl,QK (by rw[hB.1]; exact hj),QK QG,R0,QL QG]
    rcases z7 x k with q | q <;> rw[q] <;> rfl
   ·rw[QL e3,e2,R0]
    by_cases e4:j<k
    ·rw[QK e4,QK QG]
    ·rw[QL e4,QL QG]
  ·have:k=32:=by omega
   subst this
   rw[QL QG]
   exact⟨l,rfl,hB⟩
theorem I8 (L k:Nat) (l0:List Int) (y:Nat) (hL:k+33≤L) (hb:L≤9000000) (h0:Bts L k l0 y): ∀ (m i:Nat) (l:List Int),1≤i→i≤33→33 - i<m→l.length=L→(∀ j,k+i≤j→j<L→l[j]? = l0[j]?)→(∀ j,j+1<i→l[k+1+j]? = some (bI (y / 2 ^^^ we) j)) →
 ∃ l',io k m l (i:Int)=some (l',33)∧l'.length=L∧(∀ j,k+33≤j→j<L→l'[j]? = l0[j]?)∧ ∀ j,j<32→l'[k+1+j]? = some (bI (y / 2 ^^^ we) j)
 | 0,_,_,_,_,h,_,_,_=>by omega
 | m+1,i,l,h1,hi,hm,hl,hr,hd=>by
  rw[io]
  by_cases h:i≤32
  ·have e1:l[k+i]? = some (bI y i):=by rw[hr (k+i) (NW _) QG]; exact h0.2 i QG
   have e2:lR (32 - (i:Int))=some (bI we (i - 1)):=by
    rw[show (32:Int) - (i:Int)=31 - ((i - 1:Nat):Int) by omega]
    exact GO (i - 1) QG
   have q1:=z7 y i
   have q2:=z7 we (i - 1)
   rw[QK QG,QK QG,show ((k:Int)+(i:Int)).toNat=k+i by omega,e1,Nr,QK QG,QK QG,QK QG,e2,Nr,QK QG,QK QG,QK QG,
    show (i:Int)+1=((i+1:Nat):Int) by omega]
   refine I8 L k l0 y hL hb h0 m (i+1) _ QG QG QG (by rw[List.length_set]; exact hl) (fun j hj hj2=> ?_) (fun j hj=> ?_)
   ·rw[List.getElem?_set,QL QG]
    exact hr j QG hj2
   ·rw[List.getElem?_set]
    by_cases e3:k+i=k+1+j
    ·rw[QK e3,QK QG,yb,Bk,show j+1=i by omega,show i - 1=j by omega]
    ·rw[QL e3]; exact hd j QG
  ·have:i=33:=by omega
   subst this
   rw[QL QG]
   exact⟨l,rfl,hl,fun j hj hj2=>hr j hj hj2,fun j hj=>hd j QG⟩
theorem GP (j:Nat) (hj:32≤j):bI we j=0:=by
 unfold bI
 rw[Nat.testBit_lt_two_pow (Nat.lt_of_lt_of_le (show we<2 ^ 32 by decide) (Nat.pow_le_pow_right QH hj))]
 rfl
theorem Fo (x:Nat):bI x 0=1↔x % 2=1:=by
 rw[Ed,Nat.pow_zero,Nat.div_one]; omega
theorem Ee (s:List UInt8) (hs:s.length≤1000000): ∀ (m k:Nat) (l:List Int) (y:Nat),k≤8*s.length→8*s.length - k<m→Bts (8*s.length+32) k l y→ ∃ l',gq s m l k=some (l',8*s.length)∧Bts (8*s.length+32) (8*s.length) l' (me (8*s.length - k) y)
 | 0,_,_,_,_,h,_=>by omega
 | m+1,k,l,y,hk,hm,hB=>by
  rw[gq]
  by_cases h:k<8*s.length
  ·have e1:=hB.2 0 QG
   rw[Nat.add_zero] at e1
   rw[QK QG,e1,Nr,show 8*s.length - k=(8*s.length - (k+1))+1 by omega]
   by_cases ho:bI y 0=1
   ·have hy:=(Fo y).1 ho
    obtain⟨l',r1,r2,r3,r4⟩:=I8 (8*s.length+32) k l y QG QG hB 33 1 l QG QG QG hB.1 (fun j _ _=>rfl) (fun j hj=>absurd hj QG)
    rw[QK ho,show ((33:Int) - 1).toNat+1=33 from rfl,show (1:Int)=((1:Nat):Int) from rfl,r1,Nr]
    dsimp only
    rw[QK QG]
    refine Ee s hs m (k+1) l' (pY y) QG QG ⟨r2,fun j hj=> ?_⟩
    unfold pY
    rw[QK hy]
    by_cases e:j<32
    ·exact r4 j e
    ·rw[r3 _ QG QG,show k+1+j=k+(j+1) by omega,hB.2 (j+1) QG,yb,Bk,GP j QG]
     rcases z7 y (j+1) with q | q <;> rw[q] <;> rfl
   ·have hy: ¬ y % 2=1:=fun e=>ho ((Fo y).2 e)
    rw[QL ho,QK QG]
    refine Ee s hs m (k+1) l (pY y) QG QG ⟨hB.1,fun j hj=> ?_⟩
    unfold pY
    rw[QL hy,Nat.xor_zero,Bk,show k+1+j=k+(j+1) by omega]
    exact hB.2 (j+1) QG
  ·have:k=8*s.length:=by omega
   subst this
   rw[QL QG,Nat.sub_self]
   exact⟨l,rfl,hB⟩
theorem CI {z:Nat} (hz:z<4294967296):4294967295 ^^^ z=4294967295 - z:=by
 apply Nat.eq_of_testBit_eq
 intro i
 rw[show 4294967295 - z=2 ^ 32 - (z+1) by omega,Nat.testBit_two_pow_sub_succ (show z<2 ^ 32 from hz),Nat.testBit_xor,show (4294967295:Nat)=2 ^ 32 - 1 from rfl,Nat.testBit_two_pow_sub_one]
 by_cases h:i<32
 ·simp[h]
 ·have:z.testBit i=false:=Nat.testBit_lt_two_pow (Nat.lt_of_lt_of_le hz (show 2 ^ 32≤2 ^ i from Nat.pow_le_pow_right QH QG))
  simp[h,this]
theorem I9 (s:List UInt8) (hs:s.length≤1000000) (l:List Int) (z:Nat) (hz:z<4294967296) (hB:Bts (8*s.length+32) (8*s.length) l z): ∀ (i m:Nat),i≤32→i<m→fz s l m (((4294967295 - z) / 2 ^ i:Nat):Int) ((i:Int) - 1)=some (((4294967295 - z:Nat):Int),-1)
 | i,0,_,h=>by omega
 | 0,m+1,_,_=>by
  rw[fz,QL QG,Nat.pow_zero,Nat.div_one]
  rfl
 | i+1,m+1,hi,hm=>by
  have e1:=hB.2 i QG
  have q:=z7 z i
  rw[fz,QK QG,QK QG,QK QG,show (8*(s.length:Int)+(((i+1:Nat):Int) - 1)).toNat=8*s.length+i by omega,e1,Nr,QK QG,QK QG,
   show ((i+1:Nat):Int) - 1 - 1=(i:Int) - 1 by omega]
  have h1:(4294967295 - z) / 2 ^ i / 2=(4294967295 - z) / 2 ^ (i+1):=by rw[Nat.div_div_eq_div_mul,← Nat.pow_succ]
  have h2:(((4294967295 - z) / 2 ^ i % 2:Nat):Int)=1 - bI z i:=by
   rw[← Ed,← CI hz,yb,show (4294967295:Nat)=2 ^ 32 - 1 from rfl,Bm,QK QG]
   rcases q with q | q <;> rw[q] <;> rfl
  have h3:(4294967295 - z) / 2 ^ i≤4294967295:=Nat.le_trans (Nat.div_le_self _ _) QG
  have h4:IntKind.u32.wrap ((IntKind.u32.wrap ((((4294967295 - z) / 2 ^ (i+1):Nat):Int)*2))+(IntKind.u32.wrap (1 - bI z i)))=(((4294967295 - z) / 2 ^ i:Nat):Int):=by
   rw[IntKind.wrap_u32,IntKind.wrap_u32,IntKind.wrap_u32,← h1,← h2]
   generalize (4294967295 - z) / 2 ^ i=q at h3
   omega
  rw[h4]
  exact I9 s hs l z hz hB i m QG QG
theorem Kp (s:List UInt8) (hs:s.length≤1000000):oR s=some ((pH 0 s:Nat):Int):=by
 unfold oR
 obtain⟨l1,r1,B1⟩:=I6 s hs (8*s.length+1) 0 (List.replicate (8*s.length+32) 0) (List.length_replicate ..) QG QG (fun j hj=>absurd hj QG) (fun j _ hj=>by rw[List.getElem?_replicate,QK hj])
 obtain⟨l2,r2,B2⟩:=I7 (leN s) (8*s.length+32) QG 33 0 l1 QG QG (by rw[Nat.pow_zero,Nat.sub_self,Nat.xor_zero]; exact B1)
 obtain⟨l3,r3,B3⟩:=Ee s hs (8*s.length+1) 0 l2 _ QG QG B2
 have hz:me (8*s.length - 0) (leN s ^^^ 4294967295)=vj 4294967295 s:=by rw[Nat.sub_zero,Fj,Nat.xor_comm]
 rw[hz] at B3
 have hlt:vj 4294967295 s<4294967296:=wn s QH
 have r4:=I9 s hs l3 _ hlt B3 32 33 QG QG
 rw[show (4294967295 - vj 4294967295 s) / 2 ^ 32=0 from Nat.div_eq_of_lt QG] at r4
 rw[QK QG,QK QG,QK QG,show (8*(s.length:Int)).toNat=8*s.length by omega,show (8*(s.length:Int)+32).toNat=8*s.length+32 by omega,r1,Nr]
 dsimp only
 rw[show (32:Int).toNat+1=33 from rfl,r2,Nr]
 dsimp only
 rw[r3,Nr]
 dsimp only
 rw[show ((31:Int) - -1).toNat+1=33 from rfl]
 have r5:fz s l3 33 0 31=some (((4294967295 - vj 4294967295 s:Nat):Int),-1):=r4
 rw[r5,Nr]
 dsimp only
 rw[← CI hlt]
 unfold pH
 rw[Nat.xor_zero]
def Fp (p:Pfx):List UInt8:=be p.Na 8++(be p.Nf 4++(be p.M3 4++(be 2 1++be (s32 p.Ni) 4)))
def hU (p:Pfx):List UInt8:=be p.Nk 2++rF [4,8,8,8,2,4,4] [p.M7,p.MW,p.Ng,p.MG,p.MJ,p.MX,p.Nj]
theorem Kq (p:Pfx):nH p=Fp p++hU p:=by
 unfold nH KS toL Fp hU
 simp only[rF,NA]
theorem GQ (p:Pfx):(Fp p).length=21:=by
 unfold Fp
 simp only[Nv,av]
theorem mU (p:Pfx):(nH p).drop 21=hU p:=by
 rw[Kq,← GQ p,List.drop_left]
def okRc (x:Rec):Prop:=xW x∧bj ((dn x).length:Int)<2 ^ (32:Int).toNat
def Fq:Pr Unit:=fun s q=>if q=s.length then .error 10 else .ok ((),q)
def tE:Nat→Pr (List Rec)
 | 0=> .ret []
 | n+1=>Fq.bind fun _=>GI.bind fun x=>(tE n).bind fun l=> .ret (x::l)
theorem so (x:Rec):0<(cI x).length:=by
 unfold cI
 rw[Nv]
 have:=qg (bj ((dn x).length:Int))
 omega
theorem sp: ∀ (n:Nat) (s:List UInt8) (q:Nat) (l:List Rec) (r:Nat),q≤s.length→tE n s q= .ok (l,r)→q≤r∧r≤s.length∧s.take r=s.take q++bd cI l∧l.length=n∧ ∀ x,x∈l→okRc x
 | 0,s,q,l,r,hq,h=>by
  injection h with h
  obtain⟨rfl,rfl⟩:=N2 h
  exact⟨NW _,hq,by simp[bd],rfl,fun x h=>nomatch h⟩
 | n+1,s,q,l,r,hq,h=>by
  obtain⟨u,m,h1,h2⟩:=Pr.bind_ok h
  unfold Fq at h1
  split at h1
  ·exact nomatch h1
  injection h1 with h1
  obtain⟨_,rfl⟩:=N2 h1
  obtain⟨x,m2,h3,h4⟩:=Pr.bind_ok h2
  obtain⟨xs,m3,h5,h6⟩:=Pr.bind_ok h4
  injection h6 with h6
  obtain⟨rfl,rfl⟩:=N2 h6
  obtain⟨a1,a2,a3,a4,a5⟩:=D9.spell s q x m2 hq h3
  obtain⟨b1,b2,b3,b4,b5⟩:=sp n s m2 xs m3 a2 h5
  refine⟨by omega,b2,by rw[b3,a4,bd,NA],by rw[NB,b4],fun y hy=> ?_⟩
  rcases List.mem_cons.1 hy with rfl | hy
  ·exact a5
  ·exact b5 y hy
theorem z8: ∀ (l:List Rec) (s t:List UInt8) (q:Nat),q≤s.length→(∀ x,x∈l→okRc x)→s.drop q=bd cI l++t→tE l.length s q= .ok (l,q+(bd cI l).length)
 | [],s,t,q,hq,_,_=>rfl
 | x::l,s,t,q,hq,ho,hd=>by
  rw[bd,NA] at hd
  have hl:=congrArg List.length hd
  rw[NI,Nv] at hl
  have hp:=so x
  have h0:Fq s q= .ok ((),q):=QL QG
  have h1:=D9.back s _ q x hq (ho x (.head _)) hd
  have h2:=z8 l s t _ QG (fun y hy=>ho y (.tail _ hy)) (cz hd)
  rw[NB,tE,Pr.bind_of h0,Pr.bind_of h1,Pr.bind_of h2,bd,Nv,← Nat.add_assoc]
  rfl
def chk (a:Bat):Int:=(dW a).getD 0
def body (a:Bat):List UInt8:=bd cI a.MK
def mkB (p:Pfx) (l:List Rec):Bat:=⟨p.Na,p.M3,fm p.Nk 3,fm p.Nk 4,fm p.Nk 5,p.M7,p.MW,p.Ng,p.MG,p.MJ,p.MX,l⟩
def pB (a:Bat) (s:Int):Pfx:=⟨a.Na,49+((body a).length:Int),a.M3,s,iA a.Nh a.Nd a.Nc,a.M7,a.MW,a.Ng,a.MG,a.MJ,a.MX,(a.MK.length:Int)⟩
def sumP (p:Pfx) (s:List UInt8):Nat:=pH 0 (hU p++s)
def mf (a:Bat):Nat:=sumP (pB a 0) (body a)
def eR (a:Bat):List UInt8:=nH (pB a (mf a))++body a
def okB (a:Bat):Prop:=okP (pB a (mf a))∧fw (iA a.Nh a.Nd a.Nc)=0∧(∀ x,x∈a.MK→okRc x)∧chk a=0
def tF (p:Pfx) (s:List UInt8):Except Int Bat :=
 if fw p.Nk=0 then
  match tE p.Nj.toNat s 0 with
  | .error e=> .error e
  | .ok (l,r)=>if r<s.length then .error 10 else if chk (mkB p l)=0 then .ok (mkB p l) else .error (chk (mkB p l))
 else .error (fw p.Nk)
def GR:Pr Bat:=fun s q =>
 match GF s q with
 | .error e=> .error e
 | .ok (p,r)=>if s.length<r+(p.Nf - 49).toNat then .error 1 else
  if ((sumP p ((s.drop r).take (p.Nf - 49).toNat):Nat):Int)=p.Ni then
   match tF p ((s.drop r).take (p.Nf - 49).toNat) with
   | .error e=> .error e
   | .ok b=> .ok (b,r+(p.Nf - 49).toNat)
  else .error 5
theorem z9 {n:Int} (h:fw n=0):iA (fm n 3) (fm n 4) (fm n 5)=n:=by
 have h1:n % 8=0∧0≤n∧n≤63:=by
  unfold fw at h
  split at h
  ·cases h
  ·split at h
   ·cases h
   ·omega
 have h2:n=0∨n=8∨n=16∨n=24∨n=32∨n=40∨n=48∨n=56:=by omega
 rcases h2 with rfl | rfl | rfl | rfl | rfl | rfl | rfl | rfl <;> decide
theorem Fs: ∀ a b c:Bool,fm (iA a b c) 3=a∧fm (iA a b c) 4=b∧fm (iA a b c) 5=c:=by decide
theorem Ja {p:Pfx} {s:List UInt8} {b:Bat} (h:tF p s= .ok b) (h0:0≤p.Nj):fw p.Nk=0∧ ∃ l,b=mkB p l∧s=bd cI l∧(l.length:Int)=p.Nj∧(∀ x,x∈l→okRc x)∧chk b=0:=by
 unfold tF at h
 by_cases ha:fw p.Nk=0
 ·rw[QK ha] at h
  refine⟨ha,?_⟩
  cases hr:tE p.Nj.toNat s 0 with
  | error e=>rw[hr] at h; exact nomatch h
  | ok x =>
   obtain⟨l,r⟩:=x
   rw[hr] at h
   dsimp only at h
   by_cases hl:r<s.length
   ·rw[QK hl] at h; exact nomatch h
   rw[QL hl] at h
   by_cases hc:chk (mkB p l)=0
   ·rw[QK hc] at h
    injection h with h
    subst h
    obtain⟨b1,b2,b3,b4,b5⟩:=sp _ s 0 l r (NX _) hr
    rw[List.take_of_length_le QG,List.take_zero,NM] at b3
    exact⟨l,rfl,b3,by omega,b5,hc⟩
   ·rw[QL hc] at h; exact nomatch h
 ·rw[QL ha] at h; exact nomatch h
theorem pB_mk {p:Pfx} {l:List Rec} (h1:(49:Int)+((bd cI l).length:Int)=p.Nf) (h2:fw p.Nk=0) (h3:(l.length:Int)=p.Nj) (s:Int):pB (mkB p l) s=⟨p.Na,p.Nf,p.M3,s,p.Nk,p.M7,p.MW,p.Ng,p.MG,p.MJ,p.MX,p.Nj⟩:=by
 unfold pB mkB body
 dsimp only
 rw[h1,h3,z9 h2]
theorem Eg:Sp GR eR okB:=by
 refine⟨fun s q b r hq h=> ?_,fun s t q a hq ha hd=> ?_⟩
 ·unfold GR at h
  cases hp:GF s q with
  | error e=>rw[hp] at h; exact nomatch h
  | ok x =>
   obtain⟨p,m⟩:=x
   rw[hp] at h
   dsimp only at h
   obtain⟨a1,a2,a3,a4,a5,a6,a7,a8⟩:=D4.spell s q p m hq hp
   by_cases hl:s.length<m+(p.Nf - 49).toNat
   ·rw[QK hl] at h; exact nomatch h
   rw[QL hl] at h
   by_cases hs:((sumP p ((s.drop m).take (p.Nf - 49).toNat):Nat):Int)=p.Ni
   ·rw[QK hs] at h
    cases ho:tF p ((s.drop m).take (p.Nf - 49).toNat) with
    | error e=>rw[ho] at h; exact nomatch h
    | ok b' =>
     rw[ho] at h
     injection h with h
     obtain⟨rfl,rfl⟩:=N2 h
     obtain⟨k1,l,rfl,k3,k4,k5,k6⟩:=Ja ho a8
     have hn:((s.drop m).take (p.Nf - 49).toNat).length=(p.Nf - 49).toNat:=by rw[Ox,NI]; omega
     have e1:(49:Int)+((bd cI l).length:Int)=p.Nf:=by rw[← k3,hn]; omega
     have e2:((mf (mkB p l):Nat):Int)=p.Ni:=by
      rw[← hs,k3]
      unfold mf
      rw[pB_mk e1 k1 k4]
      rfl
     have e3:pB (mkB p l) (mf (mkB p l))=p:=by rw[pB_mk e1 k1 k4,e2]
     have e4:eR (mkB p l)=nH p++(s.drop m).take (p.Nf - 49).toNat:=by
      unfold eR
      rw[e3,k3]
      rfl
     have a9:=congrArg List.length a4
     refine⟨by omega,by omega,?_,?_,?_⟩
     ·rw[e4,Nv,hn]; omega
     ·rw[e4,rd,a4,NA]
     ·refine⟨by rw[e3]; exact⟨a5,a6,a7,a8⟩,?_,k5,k6⟩
      show fw (iA (fm p.Nk 3) (fm p.Nk 4) (fm p.Nk 5))=0
      rw[z9 k1]
      exact k1
   ·rw[QL hs] at h; exact nomatch h
 ·obtain⟨h1,h2,h3,h4⟩:=ha
  unfold eR at hd
  rw[NA] at hd
  have hp:=D4.back s _ q _ hq h1 hd
  have hd2:=cz hd
  have hl:=congrArg List.length hd
  rw[NI,Nv,Nv] at hl
  have hn:((pB a (mf a)).Nf - 49).toNat=(body a).length:=by
   show ((49:Int)+((body a).length:Int) - 49).toNat= _
   omega
  have ht:(s.drop (q+(nH (pB a (mf a))).length)).take (body a).length=body a:=by rw[hd2,List.take_left]
  unfold GR
  rw[hp]
  dsimp only
  rw[hn,ht,QL QG,QK (show ((sumP (pB a (mf a)) (body a):Nat):Int)=(pB a (mf a)).Ni from rfl)]
  have hr:=z8 a.MK (body a) [] 0 (NX _) h3 (by rw[List.drop_zero,NP]; rfl)
  have ho:tF (pB a (mf a)) (body a)= .ok a:=by
   unfold tF
   rw[QK (show fw (pB a (mf a)).Nk=0 from h2),show (pB a (mf a)).Nj.toNat=a.MK.length from rfl,hr]
   dsimp only
   obtain⟨b1,b2,b3⟩:=Fs a.Nh a.Nd a.Nc
   have e:mkB (pB a (mf a)) a.MK=a:=by
    unfold mkB pB
    dsimp only
    rw[b1,b2,b3]
   rw[e,QL (by show ¬ 0+(body a).length < _; omega),QK h4]
  rw[ho]
  dsimp only
  unfold eR
  rw[Nv,Nat.add_assoc]
def zBat:Bat:=⟨0,0,false,false,false,0,0,0,0,0,0,[]⟩
def bnR (r:Rec):Prop:=r.MU.length≤1000000∧r.M4.data.length≤1000000∧r.MV.data.length≤1000000
def bnB (a:Bat):Prop:=ol a∧a.MK.length≤1000000∧ ∀ r,r∈a.MK→bnR r
theorem yc {α:Type} (enc:α→List UInt8): ∀ (l:List α) (x:α),x∈l→(enc x).length≤(bd enc l).length
 | y::l,x,h=>by
  rw[bd,Nv]
  rcases List.mem_cons.1 h with rfl | h
  ·omega
  ·have:=yc enc l x h
   omega
theorem ye {α:Type} (enc:α→List UInt8): ∀ (l:List α),(∀ x,x∈l→0<(enc x).length)→l.length≤(bd enc l).length
 | [],_=>NX _
 | y::l,h=>by
  rw[bd,Nv,NB]
  have h1:=h y (.head _)
  have:=ye enc l (fun x hx=>h x (.tail _ hx))
  omega
theorem GS (h:Hd):0<(fo h).length:=by
 unfold fo
 simp only[Nv]
 have:=qg (bj (h.M4.length:Int))
 omega
theorem Eh {x:Rec} (h:xW x) (hl:(cI x).length≤1000000):xx x∧bnR x:=by
 obtain⟨_,h2,h3⟩:=CC h
 have e:(cI x).length=(bY (bj ((dn x).length:Int))).length+(dn x).length:=by unfold cI; rw[Nv]
 have e2:(dn x).length≤1000000:=by omega
 simp only[dn,kZ,pO,Nv,av] at e2
 have h4:=ye fo x.MU (fun y _=>GS y)
 have hS: ∀ d:List UInt8,d.length≤1000000→wS d:=fun d hd=>by unfold wS; omega
 refine⟨⟨h2,h3,⟨trivial,hS _ QG⟩,⟨trivial,hS _ QG⟩,by omega,fun y hy=> ?_⟩,by omega,by omega,by omega⟩
 have h5:=yc fo x.MU y hy
 have h6:(fo y).length≤1000000:=by omega
 simp only[fo,Nv] at h6
 exact⟨hS _ QG,trivial,hS _ QG⟩
theorem Bn {a:Bat} (h:bnB a):dW a=some (chk a)∧jf a=some (chk a):=by
 obtain⟨cr,e0,h1,h2,_⟩:=xQ a h.1 h.2.1 h.2.2
 have e:chk a=Bf a cr e0:=by unfold chk; rw[h1]; rfl
 rw[e]
 exact⟨h1,h2⟩
theorem CJ (n:Int):bm n 8=decide (-9223372036854775808≤n∧n≤9223372036854775807):=by
 rw[Bool.eq_iff_iff]
 unfold bm
 simp only[Bool.and_eq_true,decide_eq_true_eq]
 have:(2:Int) ^ (8*(8:Int).toNat - 1)=9223372036854775808:=by decide
 omega
theorem wI8 {n:Int} (h:bm n (8:Nat)=true):wI n:=by
 have h':bm n 8=true:=h
 rw[CJ] at h'
 have h2:=of_decide_eq_true h'
 exact h2
theorem wI4 {n:Int} (h:bm n (4:Nat)=true): -2147483648≤n∧n≤2147483647:=by
 have h':bm n 4=true:=h
 rw[eL] at h'
 exact of_decide_eq_true h'
theorem wI2 {n:Int} (h:bm n (2:Nat)=true): -32768≤n∧n≤32767:=by
 have h':bm n 2=true:=h
 rw[xP] at h'
 exact of_decide_eq_true h'
theorem yf {p:Pfx} (hp:okP p) {l:List Rec} (hl: ∀ x,x∈l→okRc x) (hb:(bd cI l).length≤1000000):bnB (mkB p l):=by
 obtain⟨⟨k1,k2,k3,_,k5,k6,k7,k8,k9,k10,k11,k12,k13,_⟩,_,_,_⟩:=hp
 have w4: ∀ {n:Int},bm n (4:Nat)=true→wI n:=fun h=>by have:=wI4 h; unfold wI; omega
 have w2: ∀ {n:Int},bm n (2:Nat)=true→wI n:=fun h=>by have:=wI2 h; unfold wI; omega
 have hr: ∀ x,x∈l→xx x∧bnR x:=fun x hx=>Eh (hl x hx).1 (by have:=yc cI l x hx; omega)
 have h4:=ye cI l (fun y _=>so y)
 exact⟨⟨wI8 k1,w4 k3,trivial,trivial,trivial,w4 k7,wI8 k8,wI8 k9,wI8 k10,w2 k11,w4 k12,by show l.length≤ _; omega,fun x hx=>(hr x hx).1⟩,by show l.length≤ _; omega,fun x hx=>(hr x hx).2⟩
theorem CK (p:Pfx) (hc:p.Nj≤2147483647) (s:List UInt8) (hs:s.length≤1000000) (y:Int): ∀ (n k fuel:Nat) (acc:List Rec) (q:Nat),((k+n:Nat):Int)=p.Nj→n<fuel→q≤s.length→acc.length≤q →
 (∃ e,tE n s q= .error e∧e≠0∧d7 p fuel y k acc ⟨s.drop q,q,0⟩=some (.ret (zBat,e)))∨(∃ l r,tE n s q= .ok (l,r)∧q≤r∧r≤s.length∧d7 p fuel y k acc ⟨s.drop q,q,0⟩=some (.go (y,k+n,acc++l,⟨s.drop r,r,0⟩)))
 | 0,k,fuel+1,acc,q,hk,hf,hq,ha=> .inr ⟨[],q,rfl,NW _,hq,by rw[d7,QL QG,NP,Nat.add_zero]⟩
 | n+1,k,fuel+1,acc,q,hk,hf,hq,ha=>by
  rw[d7,QK QG,sJ,Nr]
  dsimp only
  rw[NI,tE]
  by_cases hz:q=s.length
  ·rw[QK QG]
   exact .inl ⟨10,Pr.bind_err (QK hz),by decide,rfl⟩
  rw[QL QG,Pr.bind_of (show Fq s q= .ok ((),q) from QL hz)]
  rcases B_rec.run s q hs hq with⟨e,st,p1,g1,x1,y1⟩ | ⟨b,r,p1,g1,n1,l1⟩
  ·rw[g1,Nr]
   dsimp only
   rw[bz,Nr]
   dsimp only
   rw[QL y1]
   exact .inl ⟨e,Pr.bind_err p1,by rw[← x1]; exact y1,by rw[x1]; rfl⟩
  ·have h3:=(D9.spell s q b r hq p1).2.2.1
   have h4:=so b
   rw[g1,Nr]
   dsimp only
   rw[bz,Nr]
   dsimp only
   rw[QK rfl,QK QG,QK QG,Pr.bind_of p1]
   rcases CK p hc s hs y n (k+1) fuel (acc ++ [b]) r QG QG l1 (by rw[Nv,OI]; omega) with⟨e,q1,q2,q3⟩ | ⟨l,m,q1,q2,q3,q4⟩
   ·exact .inl ⟨e,Pr.bind_err q1,q2,q3⟩
   ·exact .inr ⟨b::l,m,by rw[Pr.bind_of q1]; rfl,by omega,q3,by rw[q4,NA,show k+1+n=k+(n+1) by omega]; rfl⟩
theorem bopen {p:Pfx} (hp:okP p) (s:List UInt8) (hs:s.length≤1000000):(∃ e x,tF p s= .error e∧e≠0∧jE p s=some (x,e))∨(∃ b,tF p s= .ok b∧jE p s=some (b,0)):=by
 obtain⟨k1,k2,k3,k4⟩:=id hp
 have ha:=wI2 k1.2.2.2.2.2.1
 have hc:=wI4 k1.2.2.2.2.2.2.2.2.2.2.2.2.1
 try dsimp only at ha
 unfold jE tF
 rw[DK _ QG,Nr]
 by_cases h0:fw p.Nk=0
 rotate_left
 ·rw[QL h0,QL h0]
  exact .inl ⟨_,_,rfl,h0,rfl⟩
 rw[QK h0,QK h0,Gi,Nr]
 dsimp only
 rw[lF _ QG,Nr]
 rcases CK p hc.2 s hs 0 p.Nj.toNat 0 (p.Nj.toNat+1) [] 0 QG QG (NX _) (NX _) with⟨e,q1,q2,q3⟩ | ⟨l,m,q1,q2,q3,q4⟩
 ·rw[List.drop_zero] at q3
  rw[q3,q1]
  exact .inl ⟨e,_,rfl,q2,rfl⟩
 ·rw[List.drop_zero] at q4
  obtain⟨b1,b2,b3,b4,b5⟩:=sp _ s 0 l m (NX _) q1
  rw[q4,q1,Nr]
  dsimp only
  rw[sJ,Nr]
  dsimp only
  rw[NI]
  by_cases hl:m<s.length
  ·rw[QK hl,QK (show ((s.length - m:Nat):Int)>0 by omega)]
   exact .inl ⟨_,_,rfl,by decide,rfl⟩
  ·rw[QL hl,QL (show ¬ ((s.length - m:Nat):Int)>0 by omega)]
   rw[List.take_of_length_le QG,List.take_zero,NM] at b3
   have hB:=yf hp b5 (by rw[← b3]; exact hs)
   have e:dW (⟨p.Na,p.M3,fm p.Nk 3,fm p.Nk 4,fm p.Nk 5,p.M7,p.MW,p.Ng,p.MG,p.MJ,p.MX,[]++l⟩:Bat)=some (chk (mkB p l)):=(Bn hB).1
   rw[e,Nr]
   by_cases hk:chk (mkB p l)=0
   ·rw[QK hk,hk]
    exact .inr ⟨_,rfl,rfl⟩
   ·rw[QL hk]
    exact .inl ⟨_,_,rfl,hk,rfl⟩
theorem B_bat:CB jG GR zBat:=by
 refine⟨fun st h=> ?_,fun s q hs hq=> ?_⟩
 ·unfold jG
  rw[B_pfx.dead st h,Nr]
  dsimp only
  rw[QK QH,oG _ _ QH,Nr]
  dsimp only
  have e:cE st ((0:Int) - 49)=([],st):=QK h
  rw[show zP.Nf=(0:Int) from rfl,e,bz,Nr]
  dsimp only
  rw[QL h]
  rfl
 ·unfold jG GR
  rcases B_pfx.run s q hs hq with⟨e,st,p1,g1,x1,y1⟩ | ⟨p,r,p1,g1,n1,l1⟩
  ·refine .inl ⟨e,st,by rw[p1],?_,x1,y1⟩
   rw[g1,Nr]
   dsimp only
   rw[QK QH,oG _ _ QH,Nr]
   dsimp only
   have e:cE st ((0:Int) - 49)=([],st):=QK y1
   rw[show zP.Nf=(0:Int) from rfl,e,bz,Nr]
   dsimp only
   rw[QL y1]
   rfl
  ·obtain⟨a1,a2,a3,a4,ap⟩:=D4.spell s q p r hq p1
   obtain⟨k1,k2,k3,k4⟩:=id ap
   have hL:=wI4 k1.2.1
   try dsimp only at hL
   have hT: -9223372036854775808≤p.Nf - 49∧p.Nf - 49≤9223372036854775807:=by omega
   rw[g1,Nr,p1]
   dsimp only
   rw[QK hT,oG _ _ hT,Nr]
   dsimp only
   by_cases hl:s.length<r+(p.Nf - 49).toNat
   ·have e:cE ⟨s.drop r,r,0⟩ (p.Nf - 49)=([],⟨s.drop r,r,1⟩):=by
     unfold cE
     rw[QL (by simp),QL QG,QK (by rw[NI]; omega)]
    rw[QK hl,e,bz,Nr]
    exact .inl ⟨1,⟨s.drop r,r,1⟩,rfl,rfl,rfl,by show (1:Int)≠0; decide⟩
   have e:cE ⟨s.drop r,r,0⟩ (p.Nf - 49)=((s.drop r).take (p.Nf - 49).toNat,⟨s.drop (r+(p.Nf - 49).toNat),r+(p.Nf - 49).toNat,0⟩):=by
    unfold cE
    rw[QL (by simp),QL QG,QL (by rw[NI]; omega),Ol]
   rw[QL hl,e,bz,Nr]
   dsimp only
   have hn:((s.drop r).take (p.Nf - 49).toNat).length=(p.Nf - 49).toNat:=by rw[Ox,NI]; omega
   generalize (s.drop r).take (p.Nf - 49).toNat=b at hn
   have hlen:(nH p).length=61:=o7 k1
   rw[QK rfl,xR [] ⟨k1,k2⟩ QH,Nr,NM,jA,Nr]
   dsimp only
   rw[xv,Fk,Nr]
   dsimp only
   rw[QK (show 21≤(nH p).length by omega)]
   have hp21:(hU p).length≤61:=by rw[← mU p,NI]; omega
   have hs2 : [hU p,b].flatten=hU p++b:=by simp
   rw[mU,Fm [hU p,b] (by intro t ht; rcases List.mem_cons.1 ht with rfl | ht; omega; rw[List.mem_singleton.1 ht]; omega),Nr,hs2]
   dsimp only
   have hlt:pH 0 (hU p++b)<4294967296:=Bj QH _
   rw[QK (show -9223372036854775808≤((pH 0 (hU p++b):Nat):Int)∧((pH 0 (hU p++b):Nat):Int)≤9223372036854775807 by omega)]
   by_cases hsum:((sumP p b:Nat):Int)=p.Ni
   rotate_left
   ·rw[QL hsum,QL (show ¬ ((pH 0 (hU p++b):Nat):Int)=p.Ni from hsum),dz,Nr]
    exact .inl ⟨5,_,rfl,rfl,rfl,by show (5:Int)≠0; decide⟩
   rw[QK hsum,QK (show ((pH 0 (hU p++b):Nat):Int)=p.Ni from hsum)]
   rcases bopen ap b QG with⟨e,x,o1,o2,o3⟩ | ⟨x,o1,o3⟩
   ·rw[o1,o3,Nr]
    dsimp only
    rw[QL o2,dz,Nr]
    exact .inl ⟨e,_,rfl,rfl,rfl,o2⟩
   ·rw[o1,o3,Nr]
    dsimp only
    rw[QK rfl]
    exact .inr ⟨x,_,rfl,rfl,by omega,by omega⟩
theorem qR: ∀ {l:List Rec},gc l=0→ ∀ r,r∈l→gb r=0
 | x::l,h,r,hr=>by
  rw[gc] at h
  by_cases hx:gb x=0
  ·rw[QK hx] at h
   rcases List.mem_cons.1 hr with rfl | hr
   ·exact hx
   ·exact qR h r hr
  ·rw[QL hx] at h
   exact absurd h hx
theorem rh {a:Bat} (h:bnB a) (h0:chk a=0):md a∧jV a∧(a.Nc=true→a.Nd=true∧(a.MK.length:Int)=1)∧ ∀ r,r∈a.MK→gb r=0:=by
 obtain⟨cr,e0,h1,h2,h3,h4⟩:=xQ a h.1 h.2.1 h.2.2
 have e:chk a=Bf a cr e0:=by unfold chk; rw[h1]; rfl
 rw[e] at h0
 unfold Bf at h0
 by_cases hn:md a
 rotate_left
 ·rw[QL hn] at h0; exact absurd h0 QH
 rw[QK hn] at h0
 by_cases hc:a.Nc=true
 ·rw[QK hc] at h0
  by_cases ht:a.Nd=true
  rotate_left
  ·rw[QL ht] at h0; exact absurd h0 QH
  rw[QK ht] at h0
  by_cases hp:jV a
  rotate_left
  ·rw[QL hp] at h0; exact absurd h0 QH
  rw[QK hp] at h0
  by_cases hl:(a.MK.length:Int)=1
  rotate_left
  ·rw[QL hl] at h0; exact absurd h0 QH
  rw[QK hl] at h0
  by_cases hf:gc a.MK=0
  rotate_left
  ·rw[QL hf] at h0; exact absurd h0 hf
  exact⟨hn,hp,fun _=>⟨ht,hl⟩,qR hf⟩
 ·rw[QL hc] at h0
  by_cases hp:jV a
  rotate_left
  ·rw[QL hp] at h0; exact absurd h0 QH
  rw[QK hp] at h0
  by_cases hf:gc a.MK=0
  rotate_left
  ·rw[QL hf] at h0; exact absurd h0 hf
  exact⟨hn,hp,fun h=>absurd h hc,qR hf⟩
theorem Kr: ∀ a t c:Bool,(c=true→t=true)→fw (iA a t c)=0:=by decide
theorem Aa: ∀ a t c:Bool,0≤iA a t c∧iA a t c≤56:=by decide
theorem Ft {n:Int} (h:wI n):bm n (8:Nat)=true:=by
 show bm n 8=true
 rw[CJ]
 exact Nt h
theorem Ab {n:Int} (h: -2147483648≤n∧n≤2147483647):bm n (4:Nat)=true:=by
 show bm n 4=true
 rw[eL]
 exact Nt h
theorem fits2 {n:Int} (h: -32768≤n∧n≤32767):bm n (2:Nat)=true:=by
 show bm n 2=true
 rw[xP]
 exact Nt h
def smB (a:Bat):Prop:=bnB a∧(∀ r,r∈a.MK→rwt r≤900000)∧(body a).length≤900000
theorem Jb {a:Bat} (h:jV a):(-32768≤a.MJ∧a.MJ≤32767)∧(-2147483648≤a.MX∧a.MX≤2147483647):=by
 unfold jV at h
 split at h
 ·omega
 ·split at h <;> omega
theorem yg {a:Bat} (hb:smB a) (h0:chk a=0) (s:Nat) (hs:s<4294967296):okP (pB a s):=by
 obtain⟨hn,hp,hc,hr⟩:=rh hb.1 h0
 obtain⟨n1,n2,n3,n4,n5,n6⟩:=hn
 obtain⟨w1,w2,_,_,_,w6,w7,w8,w9,w10,w11,w12⟩:=hb.1.1
 obtain⟨p1,p2⟩:=Jb hp
 have hl:=hb.2.2
 have hcount:=hb.1.2.1
 have ha:=Aa a.Nh a.Nd a.Nc
 have hs2: -2147483648≤s32 (s:Int)∧s32 (s:Int)≤2147483647:=by unfold s32; split <;> omega
 refine⟨⟨Ft w1,Ab ⟨?_,?_⟩,Ab ⟨?_,?_⟩,rfl,Ab hs2,fits2 ⟨?_,?_⟩,Ab ⟨?_,?_⟩,Ft w7,Ft w8,Ft w9,fits2 p1,Ab p2,Ab ⟨?_,?_⟩,trivial⟩,⟨?_,?_⟩,?_,?_⟩
 all_goals (try unfold pB) <;> (try dsimp only) <;> omega
theorem Bo (a:Bat):mf a<4294967296:=Bj QH _
theorem Jc {a:Bat} (hb:smB a) (h0:chk a=0):okB a:=by
 obtain⟨hn,hp,hc,hr⟩:=rh hb.1 h0
 refine⟨yg hb h0 _ (Bo a),Kr _ _ _ (fun h=>(hc h).1),fun x hx=> ?_,h0⟩
 exact IR (hb.1.1.2.2.2.2.2.2.2.2.2.2.2.2 x hx).1 (hr x hx) (hb.2.1 x hx)
theorem ri {a:Bat} (h:okB a):(eR a).length=61+(body a).length:=by
 unfold eR
 rw[Nv,o7 h.1.1]
theorem Fu: ∀ (l:List Rec) (t:List UInt8),(∀ x,x∈l→wI x.Nb∧wI x.M1∧rwt x≤900000∧gb x=0)→t.length+(bd cI l).length≤1000000→ey l (t,0)=some (t++bd cI l,0)
 | [],t,_,_=>by rw[bd,NP]; rfl
 | x::l,t,h,hl=>by
  obtain⟨h1,h2,h3,h4⟩:=h x (.head _)
  rw[bd,Nv] at hl
  rw[ey,GK x t h1 h2 h3 QG,QK h4,Nr,Fu l _ (fun y hy=>h y (.tail _ hy)) (by rw[Nv]; omega),bd,NA]
theorem benc {a:Bat} (hb:smB a):ju a=some (if chk a=0 then (eR a,0) else ([],chk a)):=by
 unfold ju
 rw[(Bn hb.1).1,Nr]
 by_cases h0:chk a=0
 rotate_left
 ·rw[QL h0,QL h0]
 obtain⟨hn,hp,hc,hr⟩:=rh hb.1 h0
 have hl:=hb.2.2
 have hw: ∀ x,x∈a.MK→wI x.Nb∧wI x.M1∧rwt x≤900000∧gb x=0:=fun x hx=>⟨(hb.1.1.2.2.2.2.2.2.2.2.2.2.2.2 x hx).1,(hb.1.1.2.2.2.2.2.2.2.2.2.2.2.2 x hx).2.1,hb.2.1 x hx,hr x hx⟩
 have hlb:(bd cI a.MK).length≤900000:=hl
 rw[QK h0,QK h0,Fu a.MK [] hw (by rw[Ov]; omega),Nr,NM,jA,Nr]
 dsimp only
 rw[xv]
 dsimp only
 rw[QK (show -9223372036854775808≤(49+((bd cI a.MK).length:Int))∧(49+((bd cI a.MK).length:Int))≤9223372036854775807 by omega),J1,Nr]
 have hP0:okP (pB a 0):=yg hb h0 0 QH
 have e0:dw ([],0) (pB a 0)=some (nH (pB a 0),0):=by
  have:=xR [] (p:=pB a 0) ⟨hP0.1,hP0.2.1⟩ QH
  rwa [NM] at this
 have e0':dw ([],0) (⟨a.Na,(49+((bd cI a.MK).length:Int)),a.M3,0,iA a.Nh a.Nd a.Nc,a.M7,a.MW,a.Ng,a.MG,a.MJ,a.MX,(a.MK.length:Int)⟩:Pfx)=some (nH (pB a 0),0):=e0
 rw[e0',Nr,jA,Nr]
 dsimp only
 rw[xv]
 dsimp only
 rw[QK rfl,QK rfl,Nr,QL QH,Fk,Nr]
 have hp61:=o7 hP0.1
 have hp21:(hU (pB a 0)).length≤61:=by rw[← mU,NI]; omega
 have hs2 : [hU (pB a 0),bd cI a.MK].flatten=hU (pB a 0)++bd cI a.MK:=by simp
 rw[QK (show 21≤(nH (pB a 0)).length by omega),mU,Fm [hU (pB a 0),bd cI a.MK] (by intro t ht; rcases List.mem_cons.1 ht with rfl | ht; omega; rw[List.mem_singleton.1 ht]; omega),Nr,hs2]
 dsimp only
 have hlt:=Bo a
 have hsum:pH 0 (hU (pB a 0)++bd cI a.MK)=mf a:=rfl
 rw[hsum,QK (show -9223372036854775808≤((mf a:Nat):Int)∧((mf a:Nat):Int)≤9223372036854775807 by omega)]
 have hP:=yg hb h0 _ hlt
 have e1:dw ([],0) (⟨a.Na,(49+((bd cI a.MK).length:Int)),a.M3,((mf a:Nat):Int),iA a.Nh a.Nd a.Nc,a.M7,a.MW,a.Ng,a.MG,a.MJ,a.MX,(a.MK.length:Int)⟩:Pfx)=some (nH (pB a (mf a)),0):=by
  have:=xR [] (p:=pB a (mf a)) ⟨hP.1,hP.2.1⟩ QH
  rwa [NM] at this
 have hp61':=o7 hP.1
 rw[e1,Nr,BM _ _ (by dsimp only; omega),oh,Nr,jA,Nr]
 dsimp only
 rw[xv]
 rfl
theorem Ks (a:Bat):fO a=some (iA a.Nh a.Nd a.Nc):=by
 unfold fO
 generalize a.Nh=x
 generalize a.Nd=y
 generalize a.Nc=z
 cases x <;> cases y <;> cases z <;> decide
theorem Fv (a:Bat) (hb:a.MK.length≤1000000): ∀ (l:List Rec) (t:List UInt8) (k fuel:Nat),a.MK.drop k=l→l.length<fuel→(∀ x,x∈l→wI x.Nb∧wI x.M1∧rwt x≤900000)→t.length+(bd cI l).length≤1000000→ ∃ z,eE a fuel t k=some (t++bd cI l,z)
 | [],t,k,fuel+1,h,hf,_,_=>by
  have:=di h
  exact⟨k,by rw[eE,QL QG,bd,NP]⟩
 | x::l,t,k,fuel+1,h,hf,hw,hl=>by
  obtain⟨g1,g2,g3⟩:=cA h
  obtain⟨h1,h2,h3⟩:=hw x (.head _)
  rw[bd,Nv] at hl
  rw[NB] at hf
  obtain⟨z,hz⟩:=Fv a hb l (t++cI x) (k+1) fuel g2 QG (fun y hy=>hw y (.tail _ hy)) (by rw[Nv]; omega)
  exact⟨z,by rw[eE,QK QG,g1,Nr,GL x h1 h2 h3,Nr,QK QG,QK QG,hz,bd,NA]⟩
theorem r11enc {a:Bat} (hb:smB a) (h0:chk a=0):kF a=some (eR a):=by
 obtain⟨hn,hp,hc,hr⟩:=rh hb.1 h0
 have hl:=hb.2.2
 have hlb:(bd cI a.MK).length≤900000:=hl
 have hw: ∀ x,x∈a.MK→wI x.Nb∧wI x.M1∧rwt x≤900000:=fun x hx=>⟨(hb.1.1.2.2.2.2.2.2.2.2.2.2.2.2 x hx).1,(hb.1.1.2.2.2.2.2.2.2.2.2.2.2.2 x hx).2.1,hb.2.1 x hx⟩
 obtain⟨z,hz⟩:=Fv a hb.1.2.1 a.MK [] 0 (((a.MK.length:Int)).toNat+1) rfl QG hw (by rw[Ov]; omega)
 rw[NM] at hz
 have hN: -9223372036854775808≤(49+((bd cI a.MK).length:Int))∧(49+((bd cI a.MK).length:Int))≤9223372036854775807:=by omega
 have wP_of: ∀ s:Nat,s<4294967296→wP (pB a s):=fun s hs=>by
  obtain⟨w1,w2,_,_,_,w6,w7,w8,w9,w10,w11,w12⟩:=hb.1.1
  have ha:=Aa a.Nh a.Nd a.Nc
  have hcount:=hb.1.2.1
  refine⟨w1,⟨?_,?_⟩,w2,⟨?_,?_⟩,⟨?_,?_⟩,w6,w7,w8,w9,w10,w11,⟨?_,?_⟩⟩
  all_goals (try unfold pB) <;> (try dsimp only) <;> (try unfold body) <;> omega
 have hP0:okP (pB a 0):=yg hb h0 0 QH
 have hlt:=Bo a
 have hP:=yg hb h0 _ hlt
 have b0:=zZ (pB a 0) (wP_of 0 QH)
 rw[QK ⟨hP0.1,hP0.2.1⟩] at b0
 have b1:=zZ (pB a (mf a)) (wP_of _ hlt)
 rw[QK ⟨hP.1,hP.2.1⟩] at b1
 have b0':ie [a.Na,(49+((bd cI a.MK).length:Int)),a.M3,0,iA a.Nh a.Nd a.Nc,a.M7,a.MW,a.Ng,a.MG,a.MJ,a.MX,(a.MK.length:Int)]=some (nH (pB a 0),true):=b0
 have b1':ie [a.Na,(49+((bd cI a.MK).length:Int)),a.M3,((mf a:Nat):Int),iA a.Nh a.Nd a.Nc,a.M7,a.MW,a.Ng,a.MG,a.MJ,a.MX,(a.MK.length:Int)]=some (nH (pB a (mf a)),true):=b1
 have hp61:=o7 hP0.1
 have hp61':=o7 hP.1
 have hp21:(hU (pB a 0)).length≤61:=by rw[← mU,NI]; omega
 have hsum:pH 0 (hU (pB a 0)++bd cI a.MK)=mf a:=rfl
 unfold kF
 rw[hz,Nr]
 dsimp only
 rw[QK hN,Ks,Nr,b0',Nr]
 dsimp only
 rw[QK (show 21≤(nH (pB a 0)).length by omega),mU,QK QG,Kp _ (by rw[Nv]; omega),Nr,hsum,QK (show -9223372036854775808≤((mf a:Nat):Int)∧((mf a:Nat):Int)≤9223372036854775807 by omega),QK hN,Nr,b1',Nr]
 dsimp only
 rw[QK QG]
 rfl
def su:List Rec→List Rec→Bool
 | x::l,y::m=>z6 x y && su l m
 | _,_=>true
def yh (a b:Bat):Bool:=decide (a.Na=b.Na∧a.M3=b.M3∧a.Nh=b.Nh∧a.Nd=b.Nd∧a.Nc=b.Nc∧a.M7=b.M7∧a.MW=b.MW∧a.Ng=b.Ng∧a.MG=b.MG∧a.MJ=b.MJ∧a.MX=b.MX∧a.MK.length=b.MK.length) && su a.MK b.MK
theorem vL: ∀ l:List Rec,su l l=true
 | []=>rfl
 | x::l=>by rw[su,Eb,vL l]; rfl
theorem Ei (a:Bat):yh a a=true:=by
 unfold yh
 rw[vL]
 simp
theorem Fw (a b:Bat) (hn:a.MK.length≤1000000) (y:Bool): ∀ (l m:List Rec) (k fuel:Nat),a.MK.drop k=l→b.MK.drop k=m→l.length=m.length→l.length<fuel→(∀ x,x∈l→x.MU.length≤1000000)→ ∃ z,fG a b fuel y k=some (if su l m=true then .go (y,z) else .ret false)
 | [],m,k,fuel+1,h1,h2,hl,hf,_=>by
  have:=di h1
  exact⟨k,by rw[fG,QL QG]; rfl⟩
 | x::l,v::m,k,fuel+1,h1,h2,hl,hf,hw=>by
  obtain⟨g1,g2,g3⟩:=cA h1
  obtain⟨k1,k2,k3⟩:=cA h2
  rw[NB] at hf
  rw[NB,NB] at hl
  obtain⟨z,hz⟩:=Fw a b hn y l m (k+1) fuel g2 k2 QG QG (fun u hu=>hw u (.tail _ hu))
  refine⟨z,?_⟩
  rw[fG,QK QG,g1,Nr,k1,Nr,IQ x v (hw x (.head _)),Nr,su,QK (show -9223372036854775808≤(k:Int)+1∧(k:Int)+1≤9223372036854775807 by omega),hz]
  cases z6 x v <;> rfl
theorem Jd {a b:Bat} (hn:a.MK.length≤1000000) (hw: ∀ x,x∈a.MK→x.MU.length≤1000000):nh a b=some (yh a b):=by
 have hL: ∀ o:Option Bool,o=some (yh a b)∨True:=fun _=> .inr trivial
 unfold nh yh
 by_cases c1:a.Na=b.Na
 rotate_left
 ·rw[QL c1,Nr,QK rfl,Nu (fun h=>c1 h.1)]; rfl
 by_cases c2:a.M3=b.M3
 rotate_left
 ·rw[QK c1,QL c2,Nr,QK rfl,Nu (fun h=>c2 h.2.1)]; rfl
 by_cases c3:a.Nh=b.Nh
 rotate_left
 ·rw[QK c1,QK c2,QL (by simpa using c3),Nr,QK rfl,Nu (fun h=>c3 h.2.2.1)]; rfl
 by_cases c4:a.Nd=b.Nd
 rotate_left
 ·rw[QK c1,QK c2,QK (by simpa using c3),QL (by simpa using c4),Nr,QK rfl,Nu (fun h=>c4 h.2.2.2.1)]; rfl
 by_cases c5:a.Nc=b.Nc
 rotate_left
 ·rw[QK c1,QK c2,QK (by simpa using c3),QK (by simpa using c4),QL (by simpa using c5),Nr,QK rfl,Nu (fun h=>c5 h.2.2.2.2.1)]; rfl
 rw[QK c1,QK c2,QK (by simpa using c3),QK (by simpa using c4),QK (by simpa using c5)]
 by_cases c6:a.M7=b.M7
 rotate_left
 ·rw[QL c6,Nr,QK rfl,Nu (fun h=>c6 h.2.2.2.2.2.1)]; rfl
 by_cases c7:a.MW=b.MW
 rotate_left
 ·rw[QK c6,QL c7,Nr,QK rfl,Nu (fun h=>c7 h.2.2.2.2.2.2.1)]; rfl
 by_cases c8:a.Ng=b.Ng
 rotate_left
 ·rw[QK c6,QK c7,QL c8,Nr,QK rfl,Nu (fun h=>c8 h.2.2.2.2.2.2.2.1)]; rfl
 by_cases c9:a.MG=b.MG
 rotate_left
 ·rw[QK c6,QK c7,QK c8,QL c9,Nr,QK rfl,Nu (fun h=>c9 h.2.2.2.2.2.2.2.2.1)]; rfl
 by_cases c10:a.MJ=b.MJ
 rotate_left
 ·rw[QK c6,QK c7,QK c8,QK c9,QL c10,Nr,QK rfl,Nu (fun h=>c10 h.2.2.2.2.2.2.2.2.2.1)]; rfl
 by_cases c11:a.MX=b.MX
 rotate_left
 ·rw[QK c6,QK c7,QK c8,QK c9,QK c10,QL c11,Nr,QK rfl,Nu (fun h=>c11 h.2.2.2.2.2.2.2.2.2.2.1)]; rfl
 by_cases c12:a.MK.length=b.MK.length
 rotate_left
 ·rw[QK c6,QK c7,QK c8,QK c9,QK c10,QK c11,QL QG,Nr,QK rfl,Nu (fun h=>c12 h.2.2.2.2.2.2.2.2.2.2.2)]; rfl
 obtain⟨z,hz⟩:=Fw a b hn false a.MK b.MK 0 (((a.MK.length:Int)).toNat+1) rfl rfl c12 QG hw
 rw[QK c6,QK c7,QK c8,QK c9,QK c10,QK c11,QK QG,Nr,QL QH,hz,Nt ⟨c1,c2,c3,c4,c5,c6,c7,c8,c9,c10,c11,c12⟩,Bool.true_and]
 cases su a.MK b.MK <;> rfl
theorem CL (y:Int): ∀ l:List Hd,(∀ h,h∈l→Ii h)→(ei l y=some (.ret 0))∨(ei l y=some (.go y)∧ ∀ h,h∈l→h.M4.length+h.MV.data.length≤100)
 | [],h=> .inr ⟨rfl,fun x h=>nomatch h⟩
 | x::l,h=>by
  have hx:=h x (.head _)
  have h1:x.M4.length≤140737488351232:=hx.1
  have h2:x.MV.data.length≤140737488351232:=hx.2.2
  rw[ei,QK QG]
  by_cases hc:(x.M4.length:Int)+(x.MV.data.length:Int)>100
  ·rw[QK hc]
   exact .inl rfl
  ·rw[QL hc]
   rcases CL y l (fun z hz=>h z (.tail _ hz)) with g | ⟨g,g2⟩
   ·exact .inl g
   ·refine .inr ⟨g,fun z hz=> ?_⟩
    rcases List.mem_cons.1 hz with rfl | hz
    ·omega
    ·exact g2 z hz
theorem CM (y:Int): ∀ l:List Rec,(∀ r,r∈l→xx r)→(ej l y=some (.ret 0))∨(ej l y=some (.go y)∧ ∀ r,r∈l→r.M4.data.length+r.MV.data.length≤100∧r.MU.length≤6∧ ∀ h,h∈r.MU→h.M4.length+h.MV.data.length≤100)
 | [],h=> .inr ⟨rfl,fun x h=>nomatch h⟩
 | x::l,h=>by
  obtain⟨h1,h2,h3,h4,h5⟩:=h x (.head _)
  have h6:x.M4.data.length≤140737488351232:=h3.2
  have h7:x.MV.data.length≤140737488351232:=h4.2
  rw[ej,QK QG]
  by_cases hc:(x.M4.data.length:Int)+(x.MV.data.length:Int)>100
  ·rw[QK hc]
   exact .inl rfl
  rw[QL hc]
  by_cases hd:(x.MU.length:Int)>6
  ·rw[QK hd]
   exact .inl rfl
  rw[QL hd]
  rcases CL y x.MU h5.2 with g | ⟨g,g2⟩
  ·rw[g]
   exact .inl rfl
  ·rw[g,Nr]
   simp only
   rcases CM y l (fun z hz=>h z (.tail _ hz)) with k | ⟨k,k2⟩
   ·exact .inl k
   ·refine .inr ⟨k,fun z hz=> ?_⟩
    rcases List.mem_cons.1 hz with rfl | hz
    ·exact⟨by omega,by omega,g2⟩
    ·exact k2 z hz
theorem Kt (a:Bat) (hw:ol a):kj a=some 0∨(kj a=some 1∧a.MK.length≤12∧ ∀ r,r∈a.MK→r.M4.data.length+r.MV.data.length≤100∧r.MU.length≤6∧ ∀ h,h∈r.MU→h.M4.length+h.MV.data.length≤100):=by
 unfold kj
 by_cases hc:(a.MK.length:Int)>12
 ·rw[QK hc]
  exact .inl rfl
 rw[QL hc]
 rcases CM 0 a.MK hw.2.2.2.2.2.2.2.2.2.2.2.2 with g | ⟨g,g2⟩
 ·rw[g]
  exact .inl rfl
 ·rw[g]
  exact .inr ⟨rfl,by omega,g2⟩
theorem GT {a:Bat} (hw:ol a) (h1:a.MK.length≤12) (h2: ∀ r,r∈a.MK→r.M4.data.length+r.MV.data.length≤100∧r.MU.length≤6∧ ∀ h,h∈r.MU→h.M4.length+h.MV.data.length≤100):bnB a :=
 ⟨hw,by omega,fun r hr=>by have:=h2 r hr; exact⟨by omega,by omega,by omega⟩⟩
theorem Fx: ∀ (l:List Hd),(∀ h,h∈l→h.M4.length+h.MV.data.length≤100)→lC l≤120*l.length
 | [],_=>NX _
 | x::l,h=>by
  have h1:=h x (.head _)
  have h2:=Fx l (fun y hy=>h y (.tail _ hy))
  rw[lC,hwt,NB]
  omega
theorem Bp {α:Type} (enc:α→List UInt8) (n:Nat): ∀ (l:List α),(∀ x,x∈l→(enc x).length≤n)→(bd enc l).length≤n*l.length
 | [],_=>NX _
 | x::l,h=>by
  have h1:=h x (.head _)
  have h2:=Bp enc n l (fun y hy=>h y (.tail _ hy))
  rw[bd,Nv,NB,Nat.mul_succ]
  omega
theorem GU {a:Bat} (hw:ol a) (h1:a.MK.length≤12) (h2: ∀ r,r∈a.MK→r.M4.data.length+r.MV.data.length≤100∧r.MU.length≤6∧ ∀ h,h∈r.MU→h.M4.length+h.MV.data.length≤100):smB a∧(body a).length≤12000:=by
 have hr: ∀ r,r∈a.MK→rwt r≤900:=fun r hr=>by
  obtain⟨k1,k2,k3⟩:=h2 r hr
  have:=Fx r.MU k3
  unfold rwt
  omega
 have hl:(body a).length≤12000:=by
  have h3:=Bp cI 1000 a.MK (fun x hx=>by
   have h4:=hw.2.2.2.2.2.2.2.2.2.2.2.2 x hx
   have h5:=hr x hx
   have:=Ec x h4.1 h4.2.1 QG
   omega)
  unfold body
  omega
 exact⟨⟨GT hw h1 h2,fun r hr2=>by have:=hr r hr2; omega,by omega⟩,hl⟩
theorem Je (a:Bat) (s:Int):mkB (pB a s) a.MK=a:=by
 obtain⟨b1,b2,b3⟩:=Fs a.Nh a.Nd a.Nc
 unfold mkB pB
 dsimp only
 rw[b1,b2,b3]
theorem Ej {b:Bat} (h:okB b) (hl:(eR b).length≤1000000):bnB b:=by
 have h1:=yf h.1 h.2.2.1 (by have:=ri h; unfold body at this; omega)
 rwa [Je] at h1
def oq:List Bat→List Bat→Bool
 | x::l,y::m=>yh x y && oq l m
 | _,_=>true
def qsP (p q:aV):Bool:=decide (p.M2=q.M2∧p.MP.length=q.MP.length) && oq p.MP q.MP
def Ek:List aV→List aV→Bool
 | x::l,y::m=>qsP x y && Ek l m
 | _,_=>true
def qsT (t u:aI):Bool:=decide (t.MO=u.MO∧t.MH.length=u.MH.length) && Ek t.MH u.MH
def El:List aI→List aI→Bool
 | x::l,y::m=>qsT x y && El l m
 | _,_=>true
def CN (a b:aA):Bool:=decide (a.MM.null=b.MM.null∧a.MM.data=b.MM.data∧a.M5=b.M5∧a.ML=b.ML∧a.MF.length=b.MF.length) && El a.MF b.MF
theorem vM: ∀ l:List Bat,oq l l=true
 | []=>rfl
 | x::l=>by rw[oq,Ei,vM l]; rfl
theorem Ac: ∀ l:List aV,Ek l l=true
 | []=>rfl
 | x::l=>by rw[Ek,qsP,vM,Ac l,Nt ⟨rfl,rfl⟩]; rfl
theorem Ad: ∀ l:List aI,El l l=true
 | []=>rfl
 | x::l=>by rw[El,qsT,Ac,Ad l,Nt ⟨rfl,rfl⟩]; rfl
theorem yi (a:aA):CN a a=true:=by
 unfold CN
 rw[Ad,Nt ⟨rfl,rfl,rfl,rfl,rfl⟩]; rfl
def ofP (p:aV):j5:=⟨p.M2,p.MP⟩
def ofT (t:aI):dD:=⟨t.MO,t.MH.map ofP⟩
def ofQ (a:aA):bl:=⟨a.MM,a.M5,a.ML,a.MF.map ofT⟩
theorem Fy: ∀ (l:List aV) (acc:List j5),(acc.length+l.length)*32≤140737488355328→jb l acc=some (acc++l.map ofP)
 | [],acc,_=>by rw[List.map_nil,NP]; rfl
 | x::l,acc,h=>by
  rw[NB] at h
  rw[jb,QK QG,Fy l _ (by rw[Nv,OI]; omega),NA]
  rfl
theorem Fz: ∀ (l:List aI) (acc:List dD),(acc.length+l.length)*40≤140737488355328→(∀ t,t∈l→t.MH.length*32≤140737488351232)→jc l acc=some (acc++l.map ofT)
 | [],acc,_,_=>by rw[List.map_nil,NP]; rfl
 | x::l,acc,h,hp=>by
  have hx:=hp x (.head _)
  rw[NB] at h
  rw[jc,Fy x.MH [] (by rw[Ov]; omega),Nr,QK QG,Fz l _ (by rw[Nv,OI]; omega) (fun t ht=>hp t (.tail _ ht)),NA]
  rfl
def smBs (l:List Bat):Prop:= ∀ b,b∈l→smB b∧(body b).length≤12000
theorem Ae (a b:List Bat) (hn:a.length≤140737488351232) (y:Bool): ∀ (l m:List Bat) (k fuel:Nat),a.drop k=l→b.drop k=m→l.length=m.length→l.length<fuel→(∀ x,x∈l→bnB x)→ ∃ z,fH a b fuel y k=some (if oq l m=true then .go (y,z) else .ret false)
 | [],m,k,fuel+1,h1,h2,hl,hf,_=>by
  have:=di h1
  exact⟨k,by rw[fH,QL QG]; rfl⟩
 | x::l,v::m,k,fuel+1,h1,h2,hl,hf,hw=>by
  obtain⟨g1,g2,g3⟩:=cA h1
  obtain⟨k1,k2,k3⟩:=cA h2
  have hx:=hw x (.head _)
  rw[NB] at hf
  rw[NB,NB] at hl
  obtain⟨z,hz⟩:=Ae a b hn y l m (k+1) fuel g2 k2 QG QG (fun u hu=>hw u (.tail _ hu))
  refine⟨z,?_⟩
  rw[fH,QK QG,g1,Nr,k1,Nr,Jd hx.2.1 (fun z hz=>(hx.2.2 z hz).1),Nr,oq,QK (show -9223372036854775808≤(k:Int)+1∧(k:Int)+1≤9223372036854775807 by omega),hz]
  cases yh x v <;> rfl
theorem Jf {a b:List Bat} (hn:a.length≤140737488351232) (hw: ∀ x,x∈a→bnB x):lq a b=some (decide (a.length=b.length) && oq a b):=by
 unfold lq
 by_cases c:a.length=b.length
 ·obtain⟨z,hz⟩:=Ae a b hn false a b 0 (((a.length:Int)).toNat+1) rfl rfl c QG hw
  rw[QK QG,hz,Nt c,Bool.true_and]
  cases oq a b <;> rfl
 ·rw[QL QG,Nu c]
  rfl
def bnT (t:aI):Prop:=t.MH.length≤140737488351232∧ ∀ p,p∈t.MH→p.MP.length≤140737488351232∧ ∀ b,b∈p.MP→bnB b
theorem FA (t u:aI) (hn:t.MH.length≤140737488351232) (y:Bool): ∀ (l m:List aV) (k fuel:Nat),t.MH.drop k=l→u.MH.drop k=m→l.length=m.length→l.length<fuel→(∀ p,p∈l→p.MP.length≤140737488351232∧ ∀ b,b∈p.MP→bnB b)→ ∃ z,eU (ofT t) (ofT u) fuel y k=some (if Ek l m=true then .go (y,z) else .ret false)
 | [],m,k,fuel+1,h1,h2,hl,hf,_=>by
  have:=di h1
  exact⟨k,by rw[eU,QL (by show ¬ (k:Int)<((t.MH.map ofP).length:Int); rw[NN]; omega)]; rfl⟩
 | x::l,v::m,k,fuel+1,h1,h2,hl,hf,hw=>by
  obtain⟨g1,g2,g3⟩:=cA h1
  obtain⟨k1,k2,k3⟩:=cA h2
  have hx:=hw x (.head _)
  rw[NB] at hf
  rw[NB,NB] at hl
  obtain⟨z,hz⟩:=FA t u hn y l m (k+1) fuel g2 k2 QG QG (fun q hq=>hw q (.tail _ hq))
  refine⟨z,?_⟩
  have e1:(ofT t).MH[k]? = some (ofP x):=by show (t.MH.map ofP)[k]? = _; rw[List.getElem?_map,g1]; rfl
  have e2:(ofT u).MH[k]? = some (ofP v):=by show (u.MH.map ofP)[k]? = _; rw[List.getElem?_map,k1]; rfl
  have e3:lq (ofP x).MP (ofP v).MP=some (decide (x.MP.length=v.MP.length) && oq x.MP v.MP):=Jf hx.1 hx.2
  rw[eU,QK (by show (k:Int)<((t.MH.map ofP).length:Int); rw[NN]; omega),e1,Nr,e2,Nr,e3,QK (show -9223372036854775808≤(k:Int)+1∧(k:Int)+1≤9223372036854775807 by omega),hz,Ek,qsP]
  show ((if x.M2=v.M2 then _ else some true).bind _)= _
  by_cases c1:x.M2=v.M2
  ·rw[QK c1,Nr]
   by_cases c2:x.MP.length=v.MP.length
   ·rw[Nt c2,Nt (⟨c1,c2⟩:x.M2=v.M2∧x.MP.length=v.MP.length)]
    cases oq x.MP v.MP <;> rfl
   ·rw[Nu c2,Nu (fun h:x.M2=v.M2∧x.MP.length=v.MP.length=>c2 h.2)]
    rfl
  ·rw[QL c1,Nu (fun h:x.M2=v.M2∧x.MP.length=v.MP.length=>c1 h.1)]
   rfl
theorem FB (a b:aA) (hn:a.MF.length≤140737488351232) (y:Bool): ∀ (l m:List aI) (k fuel:Nat),a.MF.drop k=l→b.MF.drop k=m→l.length=m.length→l.length<fuel→(∀ t,t∈l→bnT t)→ ∃ z,eV (ofQ a) (ofQ b) fuel y k=some (if El l m=true then .go (y,z) else .ret false)
 | [],m,k,fuel+1,h1,h2,hl,hf,_=>by
  have:=di h1
  exact⟨k,by rw[eV,QL (by show ¬ (k:Int)<((a.MF.map ofT).length:Int); rw[NN]; omega)]; rfl⟩
 | x::l,v::m,k,fuel+1,h1,h2,hl,hf,hw=>by
  obtain⟨g1,g2,g3⟩:=cA h1
  obtain⟨k1,k2,k3⟩:=cA h2
  have hx:=hw x (.head _)
  rw[NB] at hf
  rw[NB,NB] at hl
  obtain⟨z,hz⟩:=FB a b hn y l m (k+1) fuel g2 k2 QG QG (fun q hq=>hw q (.tail _ hq))
  refine⟨z,?_⟩
  have e1:(ofQ a).MF[k]? = some (ofT x):=by show (a.MF.map ofT)[k]? = _; rw[List.getElem?_map,g1]; rfl
  have e2:(ofQ b).MF[k]? = some (ofT v):=by show (b.MF.map ofT)[k]? = _; rw[List.getElem?_map,k1]; rfl
  have e4:(ofT x).MH.length=x.MH.length:=NN _
  have e5:(ofT v).MH.length=v.MH.length:=NN _
  rw[eV,QK (by show (k:Int)<((a.MF.map ofT).length:Int); rw[NN]; omega),e1,Nr,e2,Nr,e4,e5,El,qsT]
  show ((if x.MO=v.MO then _ else some true).bind _)= _
  by_cases c1:x.MO=v.MO
  ·rw[QK c1]
   by_cases c2:x.MH.length=v.MH.length
   ·obtain⟨z2,hz2⟩:=FA x v hx.1 y x.MH v.MH 0 (((x.MH.length:Int)).toNat+1) rfl rfl c2 QG hx.2
    rw[QK QG,Nr,QL QH,hz2,Nt (⟨c1,c2⟩:x.MO=v.MO∧x.MH.length=v.MH.length),Bool.true_and]
    cases Ek x.MH v.MH
    ·rfl
    ·rw[QK rfl,Nr]
     dsimp only
     rw[QK (show -9223372036854775808≤(k:Int)+1∧(k:Int)+1≤9223372036854775807 by omega),hz]
     rfl
   ·rw[QL QG,Nr,QK rfl,Nu (fun h:x.MO=v.MO∧x.MH.length=v.MH.length=>c2 h.2)]
    rfl
  ·rw[QL c1,Nr,QK rfl,Nu (fun h:x.MO=v.MO∧x.MH.length=v.MH.length=>c1 h.1)]
   rfl
theorem Jg {a b:aA} (hn:a.MF.length≤140737488351232) (hw: ∀ t,t∈a.MF→bnT t):et (ofQ a) (ofQ b)=some (CN a b):=by
 have e4:(ofQ a).MF.length=a.MF.length:=NN _
 have e5:(ofQ b).MF.length=b.MF.length:=NN _
 unfold et CN
 rw[e4,e5]
 show ((if a.MM.null=b.MM.null then (if a.MM.data=b.MM.data then (if a.M5=b.M5 then (if a.ML=b.ML then _ else some true) else some true) else some true) else some true).bind _)= _
 by_cases c1:a.MM.null=b.MM.null
 rotate_left
 ·rw[QL c1,Nr,QK rfl,Nu (fun h=>c1 h.1)]; rfl
 by_cases c2:a.MM.data=b.MM.data
 rotate_left
 ·rw[QK c1,QL c2,Nr,QK rfl,Nu (fun h=>c2 h.2.1)]; rfl
 by_cases c3:a.M5=b.M5
 rotate_left
 ·rw[QK c1,QK c2,QL c3,Nr,QK rfl,Nu (fun h=>c3 h.2.2.1)]; rfl
 by_cases c4:a.ML=b.ML
 rotate_left
 ·rw[QK c1,QK c2,QK c3,QL c4,Nr,QK rfl,Nu (fun h=>c4 h.2.2.2.1)]; rfl
 by_cases c5:a.MF.length=b.MF.length
 rotate_left
 ·rw[QK c1,QK c2,QK c3,QK c4,QL QG,Nr,QK rfl,Nu (fun h=>c5 h.2.2.2.2)]; rfl
 obtain⟨z,hz⟩:=FB a b hn false a.MF b.MF 0 (((a.MF.length:Int)).toNat+1) rfl rfl c5 QG hw
 rw[QK c1,QK c2,QK c3,QK c4,QK QG,Nr,QL QH,hz,Nt ⟨c1,c2,c3,c4,c5⟩,Bool.true_and]
 cases El a.MF b.MF <;> rfl
theorem CO (y:Int): ∀ l:List Bat,(∀ b,b∈l→ol b)→gm l y=some (.ret 0)∨(gm l y=some (.go y)∧smBs l)
 | [],_=> .inr ⟨rfl,fun x h=>nomatch h⟩
 | x::l,h=>by
  rw[gm]
  rcases Kt x (h x (.head _)) with g | ⟨g,g1,g2⟩
  ·rw[g]
   exact .inl rfl
  ·rw[g,Nr,QL QH]
   rcases CO y l (fun z hz=>h z (.tail _ hz)) with k | ⟨k,k2⟩
   ·exact .inl k
   ·refine .inr ⟨k,fun z hz=> ?_⟩
    rcases List.mem_cons.1 hz with rfl | hz
    ·exact GU (h _ (.head _)) g1 g2
    ·exact k2 z hz
def nP (n:Int) (p:aV):Int:=IntKind.i64.wrap (n+IntKind.i64.wrap (10+IntKind.i64.wrap (100*(p.MP.length:Int))))
def nPs:Int→List aV→Int
 | n,[]=>n
 | n,p::l=>nPs (nP n p) l
def okFp:Int→List aV→Prop
 | _,[]=>True
 | n,p::l=>nP n p≤2000∧smBs p.MP∧okFp (nP n p) l
theorem CP (y:Int): ∀ (l:List aV) (n:Int),(∀ p,p∈l→nz p)→eS l y n=some (.ret 0)∨(eS l y n=some (.go (y,nPs n l))∧okFp n l)
 | [],n,_=> .inr ⟨rfl,trivial⟩
 | p::l,n,h=>by
  rw[eS]
  show (if nP n p>2000 then _ else _)= _∨(if nP n p>2000 then _ else _)= _∧ _
  by_cases hc:nP n p>2000
  ·rw[QK hc]
   exact .inl rfl
  rw[QL hc]
  rcases CO y p.MP (h p (.head _)).2.2 with g | ⟨g,g2⟩
  ·rw[g]
   exact .inl rfl
  ·rw[g,Nr]
   rcases CP y l (nP n p) (fun q hq=>h q (.tail _ hq)) with k | ⟨k,k2⟩
   ·exact .inl k
   ·exact .inr ⟨k,by omega,g2,k2⟩
def nT (n:Int) (t:aI):Int:=IntKind.i64.wrap (n+IntKind.i64.wrap ((t.MO.length:Int)+10))
def nTs:Int→List aI→Int
 | n,[]=>n
 | n,t::l=>nTs (nPs (nT n t) t.MH) l
def CS:Int→List aI→Prop
 | _,[]=>True
 | n,t::l=>okFp (nT n t) t.MH∧CS (nPs (nT n t) t.MH) l
theorem CU (y:Int): ∀ (l:List aI) (n:Int),(∀ t,t∈l→mp t)→gp l y n=some (.ret 0)∨(gp l y n=some (.go (y,nTs n l))∧CS n l)
 | [],n,_=> .inr ⟨rfl,trivial⟩
 | t::l,n,h=>by
  rw[gp]
  show ((eS t.MH y (nT n t)).bind _)= _∨((eS t.MH y (nT n t)).bind _)= _∧ _
  rcases CP y t.MH (nT n t) (h t (.head _)).2.2 with g | ⟨g,g2⟩
  ·rw[g]
   exact .inl rfl
  ·rw[g,Nr]
   rcases CU y l (nPs (nT n t) t.MH) (fun q hq=>h q (.tail _ hq)) with k | ⟨k,k2⟩
   ·exact .inl k
   ·exact .inr ⟨k,g2,k2⟩
theorem q_few {a:aA} (hw:gH a):mN a=some 0∨(mN a=some 1∧CS (a.MM.data.length:Int) a.MF∧nTs (a.MM.data.length:Int) a.MF≤2000):=by
 unfold mN
 rcases CU 0 a.MF (a.MM.data.length:Int) hw.2.2.2.2 with g | ⟨g,g2⟩
 ·rw[g]
  exact .inl rfl
 ·rw[g,Nr]
  dsimp only
  by_cases hc:nTs (a.MM.data.length:Int) a.MF>2000
  ·rw[QK hc]
   exact .inl rfl
  ·rw[QL hc]
   exact .inr ⟨rfl,g2,by omega⟩
theorem CV: ∀ {l:List aV} {n:Int},okFp n l→ ∀ p,p∈l→smBs p.MP
 | q::l,n,h,p,hp=>by
  rcases List.mem_cons.1 hp with rfl | hp
  ·exact h.2.1
  ·exact CV h.2.2 p hp
theorem tG: ∀ {l:List aI} {n:Int},CS n l→ ∀ t,t∈l→ ∀ p,p∈t.MH→smBs p.MP
 | u::l,n,h,t,ht=>by
  rcases List.mem_cons.1 ht with rfl | ht
  ·exact CV h.1
  ·exact tG h.2 t ht
theorem yj (a b:List UInt8) (ha:a.length≤140737488355328) (y:Bool): ∀ (u v:List UInt8) (k fuel:Nat),a.drop k=u→b.drop k=v→v.length<fuel→k≤a.length→k≤b.length→(∃ r,cF a b fuel y k=some (.ret r)∧r=Op.bytesLess u v)∨(∃ z,cF a b fuel y k=some (.go z)∧Op.bytesLess u v=decide (a.length<b.length))
 | [],v,k,fuel+1,hu,hv,hf,h1,h2=>by
  have:=ff hu
  right
  refine⟨(y,k),by rw[cF,QL QG],?_⟩
  cases v with
  | nil =>
   have:=ff hv
   simp[Op.bytesLess]
   omega
  | cons c v =>
   have:=(dr hv).2.2
   simp[Op.bytesLess]
   omega
 | c::u,[],k,fuel+1,hu,hv,hf,h1,h2=>by
  have g1:=ff hv
  have g2:=(dr hu).2.2
  right
  refine⟨(y,k),by rw[cF,QK QG,QL QG],?_⟩
  simp[Op.bytesLess]
  omega
 | c::u,d::v,k,fuel+1,hu,hv,hf,h1,h2=>by
  obtain⟨u1,u2,u3⟩:=dr hu
  obtain⟨v1,v2,v3⟩:=dr hv
  rw[NB] at hf
  rw[cF,QK QG,QK QG,u1,v1]
  simp only[Nr]
  by_cases hc:(c.toNat:Int)=(d.toNat:Int)
  ·have hcd:c=d:=UInt8.toNat_inj.1 QG
   rw[QK hc,QK QG]
   have:=yj a b ha y u v (k+1) fuel u2 v2 QG QG QG
   have hb:Op.bytesLess (c::u) (d::v)=Op.bytesLess u v:=by
    rw[hcd]
    simp[Op.bytesLess]
   rw[hb]
   exact this
  ·rw[QL hc]
   left
   have hcd:c≠d:=fun h=>hc (by rw[h])
   by_cases hl:(c.toNat:Int)<(d.toNat:Int)
   ·refine⟨true,by rw[QK hl],?_⟩
    have:c<d:=UInt8.lt_iff_toNat_lt.2 QG
    simp[Op.bytesLess,this]
   ·refine⟨false,by rw[QL hl],?_⟩
    have: ¬ c<d:=fun h=>hl (by have:=UInt8.lt_iff_toNat_lt.1 h; omega)
    simp[Op.bytesLess,this,hcd]
theorem Jh (a b:List UInt8) (ha:a.length≤140737488355328):jg a b=some (Op.bytesLess a b):=by
 unfold jg
 rcases yj a b ha false a b 0 (((b.length:Int)).toNat+1) rfl rfl QG (NX _) (NX _) with⟨r,h1,h2⟩ | ⟨z,h1,h2⟩
 ·rw[show ((0:Nat))=0 from rfl] at h1
  rw[h1,h2]
  rfl
 ·rw[h1,h2]
  simp only[Nr]
  by_cases h:a.length<b.length
  ·rw[QK QG]
   simp[h]
  ·rw[QL QG]
   simp[h]
theorem CW (x:Top) (hb:x.MH.length≤140737488355328) (y:Bool): ∀ (t:List Int) (p:Option Int) (k fuel:Nat),x.MH.drop k=t→t.length<fuel→(k=0→p=none)→(0<k→x.MH[k - 1]? = p∧p≠none)→ ∃ z,cG x fuel y k=some (if (t.all okn && up ltI p t)=true then .go (y,z) else .ret false)
 | [],p,k,fuel+1,h,hf,h0,h1=>by
  have:=ff h
  refine⟨k,?_⟩
  rw[cG,QL QG]
  cases p <;> rfl
 | n::t,p,k,fuel+1,h,hf,h0,h1=>by
  obtain⟨g1,g2,g3⟩:=dr h
  rw[NB] at hf
  obtain⟨z,hz⟩:=CW x hb y t (some n) (k+1) fuel g2 QG (fun h=>absurd h QG) (fun _=>⟨g1,by simp⟩)
  rw[cG,QK QG,g1]
  simp only[Nr]
  rw[List.all_cons]
  by_cases c1:n<0
  ·refine⟨0,?_⟩
   rw[QK c1,QL]
   simp only[okn,Bool.and_eq_true,decide_eq_true_eq]
   omega
  by_cases c2:n>2147483647
  ·refine⟨0,?_⟩
   rw[QL c1,QK c2,QL]
   simp only[okn,Bool.and_eq_true,decide_eq_true_eq]
   omega
  rw[QL c1,QL c2]
  have ho:okn n=true:=by simp only[okn,Bool.and_eq_true,decide_eq_true_eq]; omega
  rcases Nat.eq_zero_or_pos k with hk | hk
  ·obtain rfl:=h0 hk
   refine⟨z,?_⟩
   rw[QL QG,QK QG,hz,ho,Bool.true_and,show up ltI none (n::t)=up ltI (some n) t from rfl]
  ·obtain⟨e1,e2⟩:=h1 hk
   rw[QK QG,QK QG,QK QG,show ((k:Int) - 1).toNat=k - 1 by omega,e1]
   cases p with
   | none=>exact absurd rfl e2
   | some q =>
    simp only[Nr]
    by_cases hc:q<n
    ·refine⟨z,?_⟩
     rw[QL QG,QK QG,hz,ho,Bool.true_and]
     simp only[up,ltI,hc,decide_true,Bool.true_and]
    ·refine⟨0,?_⟩
     rw[QK QG,QL]
     simp only[up,ltI,hc,decide_false,Bool.false_and,Bool.and_false,Bool.false_eq_true,not_false_eq_true]
theorem CX (a0:List Top) (hb:a0.length≤140737488355328) (hw: ∀ t,t∈a0→t.MH.length≤140737488355328∧t.MO.length≤140737488355328) (y:Bool): ∀ (t:List Top) (p:Option Top) (k fuel:Nat),a0.drop k=t→t.length<fuel→(k=0→p=none)→(0<k→a0[k - 1]? = p∧p≠none)→ ∃ z,cO a0 fuel y k=some (if (t.all mc && up Op.bytesLess (p.map (·.MO)) (t.map (·.MO)))=true then .go (y,z) else .ret false)
 | [],p,k,fuel+1,h,hf,h0,h1=>by
  have:=ff h
  refine⟨k,?_⟩
  rw[cO,QL QG]
  cases p <;> rfl
 | x::t,p,k,fuel+1,h,hf,h0,h1=>by
  obtain⟨g1,g2,g3⟩:=dr h
  have hx:=hw x (List.mem_of_getElem? g1)
  rw[NB] at hf
  obtain⟨z,hz⟩:=CX a0 hb hw y t (some x) (k+1) fuel g2 QG (fun h=>absurd h QG) (fun _=>⟨g1,by simp⟩)
  rw[cO,QK QG,g1,Nr]
  rw[List.all_cons,List.map_cons]
  by_cases c1:(x.MO.length:Int)<1
  ·refine⟨0,?_⟩
   have:x.MO = []:=List.length_eq_zero_iff.1 QG
   rw[QK c1,QL]
   simp[mc,this]
  by_cases c2:(x.MO.length:Int)>32767
  ·refine⟨0,?_⟩
   rw[QL c1,QK c2,QL]
   simp[mc,show ¬ x.MO.length≤32767 by omega]
  by_cases c3:(x.MH.length:Int)<1
  ·refine⟨0,?_⟩
   have:x.MH = []:=List.length_eq_zero_iff.1 QG
   rw[QL c1,QL c2,QK c3,QL]
   simp[mc,xC,this]
  rw[QL c1,QL c2,QL c3]
  have hne:x.MO.isEmpty=false:=by cases hh:x.MO with | nil=>rw[hh] at c1; simp at c1 | cons c u=>rfl
  have hnp:x.MH.isEmpty=false:=by cases hh:x.MH with | nil=>rw[hh] at c3; simp at c3 | cons c u=>rfl
  have ho:mc x=(x.MH.all okn && up ltI none x.MH):=by
   simp[mc,xC,hne,hnp,show x.MO.length≤32767 by omega]
  obtain⟨z2,hz2⟩:=CW x hx.1 y x.MH none 0 (((x.MH.length:Int)).toNat+1) rfl QG (fun _=>rfl) (fun h=>absurd h QG)
  rw[ho]
  rcases Nat.eq_zero_or_pos k with hk | hk
  ·obtain rfl:=h0 hk
   rw[QL QG,AU,hz2]
   cases hq:(x.MH.all okn && up ltI none x.MH) with
   | false=>exact⟨0,by simp⟩
   | true =>
    refine⟨z,?_⟩
    rw[QK rfl,Nr,Bool.true_and]
    simp only
    rw[QK QG,hz,show (none:Option Top).map (·.MO)=none from rfl,show up Op.bytesLess none (x.MO::t.map (·.MO))=up Op.bytesLess (some x.MO) (t.map (·.MO)) from rfl]
    rfl
  ·obtain⟨e1,e2⟩:=h1 hk
   rw[QK QG,QK QG,QK QG,show ((k:Int) - 1).toNat=k - 1 by omega,e1]
   cases p with
   | none=>exact absurd rfl e2
   | some q =>
    rw[Nr]
    rw[Jh _ _ (hw q (List.mem_of_getElem? e1)).2]
    rw[Nr,show (some q).map (·.MO)=some q.MO from rfl,show up Op.bytesLess (some q.MO) (x.MO::t.map (·.MO))=(Op.bytesLess q.MO x.MO && up Op.bytesLess (some x.MO) (t.map (·.MO))) from rfl]
    cases hc:Op.bytesLess q.MO x.MO with
    | false=>exact⟨0,by simp⟩
    | true =>
     rw[QK rfl,hz2]
     cases hq:(x.MH.all okn && up ltI none x.MH) with
     | false=>exact⟨0,by simp⟩
     | true =>
      refine⟨z,?_⟩
      rw[QK rfl,Nr,Bool.true_and]
      simp only
      rw[QK QG,hz]
      rfl
theorem Ji (a0:List Top) (hb:a0.length≤140737488355328) (hw: ∀ t,t∈a0→t.MH.length≤140737488355328∧t.MO.length≤140737488355328):iu a0=some (pC a0):=by
 unfold iu pC
 obtain⟨z,hz⟩:=CX a0 hb hw false a0 none 0 (((a0.length:Int)).toNat+1) rfl QG (fun _=>rfl) (fun h=>absurd h QG)
 rw[show (none:Option Top).map (·.MO)=none from rfl] at hz
 rw[hz]
 cases (a0.all mc && up Op.bytesLess none (a0.map (·.MO))) <;> rfl
def gdP (p:aV):Prop:=wI p.M2∧p.MP.length≤140737488351232∧ ∀ b,b∈p.MP→bnB b
def gdT (t:aI):Prop:=t.MO.length≤140737488351232∧t.MH.length*32≤140737488351232∧ ∀ p,p∈t.MH→gdP p
def gdQ (r:aA):Prop:=wI r.ML∧r.MF.length*40≤140737488351232∧ ∀ t,t∈r.MF→gdT t
def gT (nul:Bool):List Bat→Int
 | []=>0
 | b::l=>if chk b=0 then (if b.Nc=true then 12 else if b.Nd=nul then 8 else gT nul l) else chk b
def o9 (v:Int) (nul:Bool) (l:List Bat):Int:=if l.length=0∨(v<4∧1<l.length) then 10 else gT nul l
theorem Jj (r:aA) (y:Int): ∀ l:List Bat,(∀ b,b∈l→bnB b)→bZ r l y=some (if gT r.MM.null l=0 then .go y else .ret (gT r.MM.null l))
 | [],_=>rfl
 | b::l,h=>by
  rw[bZ,(Bn (h b (.head _))).1,Nr,gT,Jj r y l (fun x hx=>h x (.tail _ hx))]
  by_cases c1:chk b=0
  ·rw[QK c1,QK c1]
   by_cases c2:b.Nc=true
   ·rw[QK c2,QK c2]; rfl
   ·rw[QL c2,QL c2]
    by_cases c3:b.Nd=r.MM.null
    ·rw[QK (by rw[c3]; exact beq_self_eq_true _),QK c3]; rfl
    ·rw[QL (by simpa using c3),QL c3]
  ·rw[QL c1,QL c1,QL c1]
theorem Jk (r:aA) (l:List Bat) (v:Int) (h: ∀ b,b∈l→bnB b):dX r l v=some (o9 v r.MM.null l):=by
 unfold dX o9
 by_cases c0:l.length=0
 ·rw[QK QG,Nr,QK rfl,QK (.inl c0)]
 rw[QL QG]
 by_cases c1:v<4
 ·rw[QK c1]
  by_cases c2:1<l.length
  ·rw[QK QG,Nr,QK rfl,QK (.inr ⟨c1,c2⟩)]
  ·rw[QL QG,Nr,QL QH,Jj r 0 l h,QL (show ¬ (l.length=0∨(v<4∧1<l.length)) from fun hh=>by rcases hh with hh | hh; exact c0 hh; exact c2 hh.2)]
   by_cases c3:gT r.MM.null l=0
   ·rw[QK c3,c3]; rfl
   ·rw[QL c3]; rfl
 ·rw[QL c1,Nr,QL QH,Jj r 0 l h,QL (show ¬ (l.length=0∨(v<4∧1<l.length)) from fun hh=>by rcases hh with hh | hh; exact c0 hh; exact c1 hh.1)]
  by_cases c3:gT r.MM.null l=0
  ·rw[QK c3,c3]; rfl
  ·rw[QL c3]; rfl
theorem FC (a:List Bat) (nul:Bool) (hn:a.length≤140737488351232) (y:Int): ∀ (l:List Bat) (k fuel:Nat),a.drop k=l→l.length<fuel→(∀ b,b∈l→bnB b)→ ∃ z,eb a (!nul) fuel y k=some (if gT nul l=0 then .go (y,z) else .ret (gT nul l))
 | [],k,fuel+1,h,hf,_=>by
  have:=di h
  exact⟨k,by rw[eb,QL QG]; rfl⟩
 | b::l,k,fuel+1,h,hf,hw=>by
  obtain⟨g1,g2,g3⟩:=cA h
  rw[NB] at hf
  obtain⟨z,hz⟩:=FC a nul hn y l (k+1) fuel g2 QG (fun x hx=>hw x (.tail _ hx))
  refine⟨z,?_⟩
  rw[eb,QK QG,g1,Nr,(Bn (hw b (.head _))).2,Nr,gT,QK (show -9223372036854775808≤(k:Int)+1∧(k:Int)+1≤9223372036854775807 by omega),hz]
  by_cases c1:chk b=0
  ·rw[QK c1,QK c1]
   by_cases c2:b.Nc=true
   ·rw[QK c2,QK c2]; rfl
   ·rw[QL c2,QL c2]
    by_cases c3:b.Nd=nul
    ·rw[QL (by rw[c3]; cases nul <;> decide),QK c3]; rfl
    ·rw[QK (by cases hb:b.Nd <;> cases nul <;> simp_all),QL c3]
  ·rw[QL c1,QL c1,QL c1]
theorem CY (l:List Bat) (nul:Bool) (v:Int) (hv:v=3∨v=4) (hn:l.length≤140737488351232) (h: ∀ b,b∈l→bnB b):fK l (!nul) v=some (o9 v nul l):=by
 obtain⟨z,hz⟩:=FC l nul hn 0 l 0 (((l.length:Int)).toNat+1) rfl QG h
 have hend:((some (if gT nul l=0 then (.go (0,z):Lp Int (Int×Nat)) else .ret (gT nul l))).bind fun e=>match e with | .ret r=>some r | .go (y33,k34)=>(some 0:Option Int))=some (gT nul l):=by
  by_cases c3:gT nul l=0
  ·rw[QK c3,c3]; rfl
  ·rw[QL c3]; rfl
 unfold fK o9
 by_cases c0:l.length=0
 ·rw[QK QG,Nr,QK rfl,QK (.inl c0)]
 rw[QL QG]
 rcases hv with rfl | rfl
 ·rw[QK rfl]
  by_cases c2:1<l.length
  ·rw[QK QG,Nr,QK rfl,QK (.inr ⟨by decide,c2⟩)]
  ·rw[QL QG,Nr,QL QH,hz,QL (show ¬ (l.length=0∨((3:Int)<4∧1<l.length)) from fun hh=>by rcases hh with hh | hh; exact c0 hh; exact c2 hh.2)]
   exact hend
 ·rw[QL QH,Nr,QL QH,hz,QL (show ¬ (l.length=0∨((4:Int)<4∧1<l.length)) from fun hh=>by rcases hh with hh | hh; exact c0 hh; exact absurd hh.1 QH)]
  exact hend
def yk:Option Int→Int→Bool
 | none,_=>true
 | some q,n=>decide (q<n)
def rqP:Option Int→List aV→Bool
 | _,[]=>true
 | p,x::l=>okn x.M2 && yk p x.M2 && rqP (some x.M2) l
def vk:Option (List UInt8)→List UInt8→Bool
 | none,_=>true
 | some q,d=>Op.bytesLess q d
def sv (p:Option (List UInt8)) (t:aI):Bool:= !t.MO.isEmpty && decide (t.MO.length≤32767) && vk p t.MO && rqP none t.MH
def rqT:Option (List UInt8)→List aI→Int
 | _,[]=>0
 | p,t::l=>if t.MH.length=0 then 10 else if sv p t=true then rqT (some t.MO) l else 13
def qS (l:List aI):Int:=if l.length=0 then 10 else rqT none l
theorem CZ (t:aI) (hn:t.MH.length≤140737488351232) (y:Int): ∀ (l:List aV) (p:Option Int) (k:Nat),t.MH.drop k=l→(∀ q,q∈l→wI q.M2)→(k=0→p=none)→(0<k→ ∃ u,t.MH[k - 1]? = some u∧p=some u.M2)→dM t l y k=some (if rqP p l=true then .go y else .ret 13)
 | [],p,k,_,_,_,_=>rfl
 | x::l,p,k,h,hw,h0,h1=>by
  obtain⟨g1,g2,g3⟩:=cA h
  have hx:=hw x (.head _)
  have ih:=CZ t hn y l (some x.M2) (k+1) g2 (fun q hq=>hw q (.tail _ hq)) (fun h=>absurd h QG) (fun _=>⟨x,g1,rfl⟩)
  rw[dM,gi _ _ hx,Nr,eL,rqP]
  by_cases c1:x.M2<0
  ·have:okn x.M2=false:=by unfold okn; simp; omega
   rw[QK c1,Nr,QK rfl,this]; rfl
  rw[QL c1]
  by_cases c2:x.M2≤2147483647
  rotate_left
  ·have:okn x.M2=false:=by unfold okn; simp; omega
   rw[QL (by simp; omega),Nr,QK rfl,this]; rfl
  have hok:okn x.M2=true:=by unfold okn; simp; omega
  rw[QK (by simp; omega),hok]
  rcases Nat.eq_zero_or_pos k with hk | hk
  ·rw[h0 hk,QL QG,Nr,QL QH,ih]; rfl
  ·obtain⟨u,u1,rfl⟩:=h1 hk
   rw[QK QG,QK QG,QK QG,show ((k:Int) - 1).toNat=k - 1 by omega,u1,Nr]
   by_cases c3:u.M2<x.M2
   ·rw[QL QG,Nr,QL QH,ih]
    rw[yk,Nt c3]; rfl
   ·rw[QK QG,Nr,QK rfl]
    rw[yk,Nu c3]; rfl
theorem C0 (a:List aI) (y:Int): ∀ (l:List aI) (p:Option (List UInt8)) (k:Nat),a.drop k=l→a.length≤140737488351232→(∀ t,t∈l→gdT t)→(k=0→p=none)→(0<k→ ∃ u,a[k - 1]? = some u∧p=some u.MO)→cQ a l y k=some (if rqT p l=0 then .go y else .ret (rqT p l))
 | [],p,k,_,_,_,_,_=>rfl
 | t::l,p,k,h,hn,hw,h0,h1=>by
  obtain⟨g1,g2,g3⟩:=cA h
  have ht:=hw t (.head _)
  have ih:=C0 a y l (some t.MO) (k+1) g2 hn (fun q hq=>hw q (.tail _ hq)) (fun h=>absurd h QG) (fun _=>⟨t,g1,rfl⟩)
  rw[cQ,rqT]
  by_cases c0:t.MH.length=0
  ·rw[QK QG,QK c0]; rfl
  rw[QL QG,QL c0]
  have hl3:=CZ t (by have:=ht.2.1; omega) y t.MH none 0 rfl (fun q hq=>(ht.2.2 q hq).1) (fun _=>rfl) (fun h=>absurd h QG)
  rw[hl3]
  have bad: ∀ {b:Bool},sv p t=false→b=true→((some b).bind fun y143=>if y143=true then some (Lp.ret 13:Lp Int Int) else ((some (if rqP none t.MH=true then (.go y:Lp Int Int) else .ret 13)).bind fun e=>match e with | .ret r=>some (Lp.ret r) | .go y237=>(cQ a l y237 (k+1))))=some (if (if sv p t=true then rqT (some t.MO) l else 13)=0 then .go y else .ret (if sv p t=true then rqT (some t.MO) l else 13)):=by
   intro b hb hb2
   rw[hb2,Nr,QK rfl,hb]; rfl
  have good: ∀ {b:Bool},(!t.MO.isEmpty && decide (t.MO.length≤32767) && vk p t.MO)=true→b=false→((some b).bind fun y143=>if y143=true then some (Lp.ret 13:Lp Int Int) else ((some (if rqP none t.MH=true then (.go y:Lp Int Int) else .ret 13)).bind fun e=>match e with | .ret r=>some (Lp.ret r) | .go y237=>(cQ a l y237 (k+1))))=some (if (if sv p t=true then rqT (some t.MO) l else 13)=0 then .go y else .ret (if sv p t=true then rqT (some t.MO) l else 13)):=by
   intro b hb hb2
   rw[hb2,Nr,QL QH,Nr]
   unfold sv
   rw[hb,Bool.true_and]
   cases rqP none t.MH
   ·rfl
   ·exact ih
  by_cases c1:t.MO = []
  ·rw[QK c1]
   exact bad (by unfold sv; rw[c1]; rfl) rfl
  rw[QL c1]
  have hne:t.MO.isEmpty=false:=by cases hh:t.MO with | nil=>exact absurd hh c1 | cons c u=>rfl
  by_cases c2:(t.MO.length:Int)>32767
  ·rw[QK c2]
   exact bad (by unfold sv; rw[Nu QG]; simp) rfl
  rw[QL c2]
  rcases Nat.eq_zero_or_pos k with hk | hk
  ·rw[QL QG]
   exact good (by rw[h0 hk,hne,Nt QG]; rfl) rfl
  ·obtain⟨u,u1,rfl⟩:=h1 hk
   rw[QK QG,QK QG,QK QG,show ((k:Int) - 1).toNat=k - 1 by omega,u1,Nr]
   by_cases c3:Op.bytesLess u.MO t.MO=true
   ·rw[QK c3]
    exact good (by rw[hne,Nt QG]; exact c3) rfl
   ·rw[QL c3]
    exact bad (by unfold sv vk; simp only[c3]; simp) rfl
theorem Jl (l:List aI) (hn:l.length≤140737488351232) (hw: ∀ t,t∈l→gdT t):jv l=some (qS l):=by
 unfold jv qS
 by_cases c0:l.length=0
 ·rw[QK QG,QK c0]
 ·rw[QL QG,QL c0,C0 l 0 l none 0 rfl hn hw (fun _=>rfl) (fun h=>absurd h QG)]
  by_cases c:rqT none l=0
  ·rw[QK c,c]; rfl
  ·rw[QL c]; rfl
def yl (t:aI):Top:=⟨t.MO,t.MH.map (·.M2)⟩
theorem C1 (t:aI) (hn:t.MH.length*8≤140737488351232): ∀ (l:List aV) (acc:List Int) (k fuel:Nat),t.MH.drop k=l→l.length<fuel→acc.length=k→ ∃ z,es (ofT t) fuel k acc=some (z,acc++l.map (·.M2))
 | [],acc,k,fuel+1,h,hf,_=>by
  have:=di h
  exact⟨k,by rw[es,QL (by show ¬ (k:Int)<((t.MH.map ofP).length:Int); rw[NN]; omega),List.map_nil,NP]⟩
 | x::l,acc,k,fuel+1,h,hf,hk=>by
  obtain⟨g1,g2,g3⟩:=cA h
  rw[NB] at hf
  obtain⟨z,hz⟩:=C1 t hn l (acc ++ [x.M2]) (k+1) fuel g2 QG (by rw[Nv,OI,hk])
  have e1:(ofT t).MH[k]? = some (ofP x):=by show (t.MH.map ofP)[k]? = _; rw[List.getElem?_map,g1]; rfl
  refine⟨z,?_⟩
  rw[es,QK (by show (k:Int)<((t.MH.map ofP).length:Int); rw[NN]; omega),e1,Nr,QK QG,QK QG]
  show es (ofT t) fuel (k+1) (acc ++ [x.M2])= _
  rw[hz,NA]
  rfl
theorem Jm (t:aI) (hn:t.MH.length*8≤140737488351232):lW (ofT t)=some (yl t):=by
 have e4:(ofT t).MH.length=t.MH.length:=NN _
 obtain⟨z,hz⟩:=C1 t hn t.MH [] 0 (((t.MH.length:Int)).toNat+1) rfl QG rfl
 unfold lW
 rw[e4,hz,Nr,NM]
 rfl
theorem Em: ∀ (l:List aV) (p:Option Int),rqP p l=((l.map (·.M2)).all okn && up ltI p (l.map (·.M2)))
 | [],p=>by cases p <;> rfl
 | x::l,none=>by
  rw[rqP,Em l,List.map_cons,List.all_cons,up,yk]
  cases okn x.M2 <;> cases (l.map (·.M2)).all okn <;> rfl
 | x::l,some q=>by
  rw[rqP,Em l,List.map_cons,List.all_cons,up,yk,ltI]
  cases okn x.M2 <;> cases (l.map (·.M2)).all okn <;> cases decide (q<x.M2) <;> rfl
def rO:Option (List UInt8)→List (List UInt8)→Option (List UInt8)
 | p,[]=>p
 | _,x::l=>rO (some x) l
theorem Bq: ∀ (l:List (List UInt8)) (p:Option (List UInt8)) (x:List UInt8),up Op.bytesLess p (l ++ [x])=(up Op.bytesLess p l && vk (rO p l) x)
 | [],none,x=>rfl
 | [],some q,x=>by show (Op.bytesLess q x && true)=(true && Op.bytesLess q x); rw[Bool.and_true,Bool.true_and]
 | y::l,none,x=>by
  show up Op.bytesLess (some y) (l ++ [x])= _
  rw[Bq l (some y) x]; rfl
 | y::l,some q,x=>by
  show (Op.bytesLess q y && up Op.bytesLess (some y) (l ++ [x]))= _
  rw[Bq l (some y) x,← Bool.and_assoc]; rfl
theorem ym: ∀ (l:List (List UInt8)) (p:Option (List UInt8)) (x:List UInt8),rO p (l ++ [x])=some x
 | [],p,x=>rfl
 | y::l,p,x=>ym l (some y) x
theorem Af (l:List Top) (t:aI) (h:pC l=true) (hp:t.MH.length≠0):pC (l ++ [yl t])=sv (rO none (l.map (·.MO))) t:=by
 have h2:l.all mc=true∧up Op.bytesLess none (l.map (·.MO))=true:=by simpa [pC] using h
 have h3:(t.MH.map (·.M2)).isEmpty=false:=by cases hh:t.MH with | nil=>exact absurd (by rw[hh]; rfl) hp | cons c u=>rfl
 unfold pC sv
 rw[List.all_append,h2.1,List.map_append,List.map_singleton,Bq,h2.2,Em]
 simp only[List.all_cons,List.all_nil,Bool.and_true,Bool.true_and,mc,xC]
 show (!t.MO.isEmpty && decide (t.MO.length≤32767) && ((t.MH.map (·.M2)).all okn && up ltI none (t.MH.map (·.M2)) && !(t.MH.map (·.M2)).isEmpty) && vk (rO none (l.map (·.MO))) t.MO)= _
 rw[h3]
 cases t.MO.isEmpty <;> cases decide (t.MO.length≤32767) <;> cases vk (rO none (l.map (·.MO))) t.MO <;> cases (t.MH.map (·.M2)).all okn <;> cases up ltI none (t.MH.map (·.M2)) <;> rfl
theorem yo (a:List aI) (hn:a.length*40≤140737488351232) (y:Int): ∀ (l:List aI) (acc:List Top) (k fuel:Nat),a.drop k=l→l.length<fuel→acc.length=k→(∀ t,t∈l→gdT t)→(∀ t,t∈acc→t.MH.length≤140737488355328∧t.MO.length≤140737488355328)→pC acc=true→ ∃ z,fJ (a.map ofT) fuel y acc k=some (if rqT (rO none (acc.map (·.MO))) l=0 then .go (y,z) else .ret (rqT (rO none (acc.map (·.MO))) l))
 | [],acc,k,fuel+1,h,hf,_,_,_,_=>by
  have:=di h
  exact⟨(acc,k),by rw[fJ,QL (by rw[NN]; omega)]; rfl⟩
 | t::l,acc,k,fuel+1,h,hf,hk,hw,ha,ho=>by
  obtain⟨g1,g2,g3⟩:=cA h
  obtain⟨t1,t2,t3⟩:=hw t (.head _)
  rw[NB] at hf
  have e1:(a.map ofT)[k]? = some (ofT t):=by rw[List.getElem?_map,g1]; rfl
  have e4:(ofT t).MH.length=t.MH.length:=NN _
  rw[fJ,QK (by rw[NN]; omega),e1,Nr,e4,rqT]
  by_cases c0:t.MH.length=0
  ·rw[QK QG,QK c0]
   exact⟨(acc,k),rfl⟩
  have ha2: ∀ u,u∈acc ++ [yl t]→u.MH.length≤140737488355328∧u.MO.length≤140737488355328:=fun u hu=>by
   rcases List.mem_append.1 hu with hu | hu
   ·exact ha u hu
   ·rw[List.mem_singleton.1 hu]
    refine⟨?_,by show t.MO.length≤ _; omega⟩
    show (t.MH.map _).length≤ _
    rw[NN]; omega
  rw[QL QG,QL c0,Jm t QG,Nr,QK QG,Ji _ (by rw[Nv,OI]; omega) ha2,Nr,Af acc t ho c0]
  by_cases c1:sv (rO none (acc.map (·.MO))) t=true
  ·obtain⟨z,hz⟩:=yo a hn y l (acc ++ [yl t]) (k+1) fuel g2 QG (by rw[Nv,OI,hk]) (fun u hu=>hw u (.tail _ hu)) ha2 (by rw[Af acc t ho c0]; exact c1)
   have e5:rO none ((acc ++ [yl t]).map (·.MO))=some t.MO:=by rw[List.map_append,List.map_singleton,ym]; rfl
   rw[e5] at hz
   exact⟨z,by rw[QK c1,QK c1,QK QG,hz]⟩
  ·exact⟨(acc,k),by rw[QL c1,QL c1]; rfl⟩
theorem En (l:List aI) (hn:l.length*40≤140737488351232) (hw: ∀ t,t∈l→gdT t):ls (l.map ofT)=some (qS l):=by
 unfold ls qS
 rw[NN]
 by_cases c0:l.length=0
 ·rw[QK QG,QK c0]
 ·obtain⟨z,hz⟩:=yo l hn 0 l [] 0 (((l.length:Int)).toNat+1) rfl QG rfl hw (fun t h=>nomatch h) rfl
  rw[QL QG,QL c0,hz]
  show ((some (if rqT none l=0 then _ else _)).bind _)= _
  by_cases c:rqT none l=0
  ·rw[QK c,c]; rfl
  ·rw[QL c]; rfl
def iE (v:Int) (nul:Bool):List aV→Int
 | []=>0
 | p::l=>if o9 v nul p.MP=0 then iE v nul l else o9 v nul p.MP
def jL (v:Int) (nul:Bool):List aI→Int
 | []=>0
 | t::l=>if iE v nul t.MH=0 then jL v nul l else iE v nul t.MH
def yX (r:aA):Prop:=bw r.MM=true∧(r.MM.null=true∨dE r.MM.data=true)
def yp (r:aA):Prop:= -1≤r.M5∧r.M5≤1∧0≤r.ML∧r.ML≤2147483647
instance (r:aA):Decidable (yX r):=by unfold yX; infer_instance
instance (r:aA):Decidable (yp r):=by unfold yp; infer_instance
def sw (v:Int) (r:aA):Int:=if yX r then (if yp r then (if qS r.MF=0 then jL v r.MM.null r.MF else qS r.MF) else 11) else 4
theorem pc_l2 (r:aA) (v y:Int): ∀ l:List aV,(∀ p,p∈l→gdP p)→cu r v l y=some (if iE v r.MM.null l=0 then .go y else .ret (iE v r.MM.null l))
 | [],_=>rfl
 | p::l,h=>by
  rw[cu,Jk r p.MP v (h p (.head _)).2.2,Nr,iE,pc_l2 r v y l (fun q hq=>h q (.tail _ hq))]
  by_cases c:o9 v r.MM.null p.MP=0
  ·rw[QK c,QK c]
  ·rw[QL c,QL c,QL c]
theorem pc_l1 (r:aA) (v y:Int): ∀ l:List aI,(∀ t,t∈l→gdT t)→cv r v l y=some (if jL v r.MM.null l=0 then .go y else .ret (jL v r.MM.null l))
 | [],_=>rfl
 | t::l,h=>by
  rw[cv,pc_l2 r v y t.MH (h t (.head _)).2.2,Nr,jL]
  by_cases c:iE v r.MM.null t.MH=0
  ·rw[QK c,QK c]
   dsimp only
   rw[pc_l1 r v y l (fun q hq=>h q (.tail _ hq))]
  ·rw[QL c,QL c,QL c]
theorem Eo (r:aA) (v:Int) (h:gdQ r):cC r v=some (sw v r):=by
 unfold cC sw
 have h1:(((ql r.MM).bind fun x12=>if x12=true then (if r.MM.null=true then some false else ((nR r.MM.data).bind fun x16=>if x16=true then some false else some true)) else some true):Option Bool)=some (decide (¬ yX r)):=by
  rw[qZ,Nr,po]
  by_cases c1:bw r.MM=true
  ·rw[QK c1]
   by_cases c2:r.MM.null=true
   ·rw[QK c2]; exact congrArg some (Eq.symm (Nu (fun hh=>hh ⟨c1,.inl c2⟩)))
   ·rw[QL c2,Nr]
    by_cases c3:dE r.MM.data=true
    ·rw[QK c3]; exact congrArg some (Eq.symm (Nu (fun hh=>hh ⟨c1,.inr c3⟩)))
    ·rw[QL c3]; exact congrArg some (Eq.symm (Nt (fun hh=>hh.2.elim c2 c3)))
  ·rw[QL c1]; exact congrArg some (Eq.symm (Nt (fun hh=>c1 hh.1)))
 have h2:((if r.M5<(-1) then some true else (if r.M5>1 then some true else (if r.ML<0 then some true else ((jM r.ML 4).bind fun x30=>if x30=true then some false else some true)))):Option Bool)=some (decide (¬ yp r)):=by
  rw[gi _ _ h.1,Nr,eL]
  unfold yp
  by_cases c1:r.M5 < -1
  ·rw[QK c1,Nt QG]
  rw[QL c1]
  by_cases c2:r.M5>1
  ·rw[QK c2,Nt QG]
  rw[QL c2]
  by_cases c3:r.ML<0
  ·rw[QK c3,Nt QG]
  rw[QL c3]
  by_cases c4:r.ML≤2147483647
  ·rw[QK (Nt QG),Nu QG]
  ·rw[QL (by rw[decide_eq_true_eq]; omega),Nt QG]
 rw[h1,Nr]
 by_cases c1:yX r
 rotate_left
 ·rw[Nt c1,QK rfl,QL c1]
 rw[Nu (fun hh=>hh c1),QL QH,QK c1,h2,Nr]
 by_cases c2:yp r
 rotate_left
 ·rw[Nt c2,QK rfl,QL c2]
 rw[Nu (fun hh=>hh c2),QL QH,QK c2,Jl _ (by have:=h.2.1; omega) h.2.2,Nr]
 by_cases c3:qS r.MF=0
 ·rw[QK c3,QK c3,pc_l1 r v 0 _ h.2.2]
  by_cases c4:jL v r.MM.null r.MF=0
  ·rw[QK c4,c4]; rfl
  ·rw[QL c4]; rfl
 ·rw[QL c3,QL c3]
theorem rc_l2 (r:aA) (v:Int) (hv:v=3∨v=4) (t:aI) (j:Nat) (hj:r.MF[j]? = some t) (hn:t.MH.length≤140737488351232) (y:Int): ∀ (l:List aV) (k fuel:Nat),t.MH.drop k=l→l.length<fuel→(∀ p,p∈l→gdP p)→ ∃ z,dS (ofQ r) v j fuel y k=some (if iE v r.MM.null l=0 then .go (y,z) else .ret (iE v r.MM.null l))
 | [],k,fuel+1,h,hf,_=>by
  have:=di h
  have e1:(ofQ r).MF[j]? = some (ofT t):=by show (r.MF.map ofT)[j]? = _; rw[List.getElem?_map,hj]; rfl
  exact⟨k,by rw[dS,e1,Nr,QL (by show ¬ (k:Int)<((t.MH.map ofP).length:Int); rw[NN]; omega)]; rfl⟩
 | p::l,k,fuel+1,h,hf,hw=>by
  obtain⟨g1,g2,g3⟩:=cA h
  obtain⟨p1,p2,p3⟩:=hw p (.head _)
  rw[NB] at hf
  obtain⟨z,hz⟩:=rc_l2 r v hv t j hj hn y l (k+1) fuel g2 QG (fun x hx=>hw x (.tail _ hx))
  have e1:(ofQ r).MF[j]? = some (ofT t):=by show (r.MF.map ofT)[j]? = _; rw[List.getElem?_map,hj]; rfl
  have e2:(ofT t).MH[k]? = some (ofP p):=by show (t.MH.map ofP)[k]? = _; rw[List.getElem?_map,g1]; rfl
  have R5: -9223372036854775808≤(k:Int)+1∧(k:Int)+1≤9223372036854775807:=by omega
  have hb:=fun nul=>CY p.MP nul v hv p2 p3
  refine⟨z,?_⟩
  rw[dS,e1,Nr,QK (by show (k:Int)<((t.MH.map ofP).length:Int); rw[NN]; omega),e2,Nr,iE]
  show (if r.MM.null=true then ((fK p.MP false v).bind _) else ((fK p.MP true v).bind _))= _
  by_cases c:r.MM.null=true
  ·have h1:=hb true
   rw[Bool.not_true] at h1
   rw[QK c,h1,Nr,QK R5,hz,c]
   by_cases c2:o9 v true p.MP=0
   ·rw[QK c2,QK c2]
   ·rw[QL c2,QL c2,QL c2]
  ·have h1:=hb false
   rw[Bool.not_false] at h1
   have c':r.MM.null=false:=by simpa using c
   rw[QL c,h1,Nr,QK R5,hz,c']
   by_cases c2:o9 v false p.MP=0
   ·rw[QK c2,QK c2]
   ·rw[QL c2,QL c2,QL c2]
theorem rc_l1 (r:aA) (v:Int) (hv:v=3∨v=4) (hn:r.MF.length≤140737488351232) (y:Int): ∀ (l:List aI) (k fuel:Nat),r.MF.drop k=l→l.length<fuel→(∀ t,t∈l→gdT t)→ ∃ z,dT (ofQ r) v fuel y k=some (if jL v r.MM.null l=0 then .go (y,z) else .ret (jL v r.MM.null l))
 | [],k,fuel+1,h,hf,_=>by
  have:=di h
  exact⟨k,by rw[dT,QL (by show ¬ (k:Int)<((r.MF.map ofT).length:Int); rw[NN]; omega)]; rfl⟩
 | t::l,k,fuel+1,h,hf,hw=>by
  obtain⟨g1,g2,g3⟩:=cA h
  obtain⟨t1,t2,t3⟩:=hw t (.head _)
  rw[NB] at hf
  obtain⟨z,hz⟩:=rc_l1 r v hv hn y l (k+1) fuel g2 QG (fun x hx=>hw x (.tail _ hx))
  obtain⟨z2,hz2⟩:=rc_l2 r v hv t k g1 QG y t.MH 0 (t.MH.length+1) rfl QG t3
  have e1:(ofQ r).MF[k]? = some (ofT t):=by show (r.MF.map ofT)[k]? = _; rw[List.getElem?_map,g1]; rfl
  have e3:(((ofQ r).MF[k]?).map (fun x37=>((x37.MH.length:Int)).toNat+1)).getD 0=t.MH.length+1:=by
   rw[e1]
   show (((t.MH.map ofP).length:Int)).toNat+1= _
   rw[NN]; omega
  refine⟨z,?_⟩
  rw[dT,QK (by show (k:Int)<((r.MF.map ofT).length:Int); rw[NN]; omega),e3,hz2,Nr,jL]
  by_cases c:iE v r.MM.null t.MH=0
  ·rw[QK c,QK c]
   dsimp only
   rw[QK (show -9223372036854775808≤(k:Int)+1∧(k:Int)+1≤9223372036854775807 by omega),hz]
  ·rw[QL c,QL c,QL c]
theorem yq (d:List UInt8):dE d=true↔d ≠ []∧d.length≤32767:=by
 unfold dE
 cases d with
 | nil=>simp
 | cons c d=>simp; omega
theorem yr (n:Bool) (d:List UInt8) (b:Bl) (h1:b.null=n) (h2:b.data=d):bw b=true↔(n=true→d = []):=by
 unfold bw
 rw[h1,h2]
 cases n <;> cases d <;> simp
theorem Jn (r:aA) (v:Int) (hv:v=3∨v=4) (h:gdQ r):kp (ofQ r) v=some (sw v r):=by
 have e4:(ofQ r).MF.length=r.MF.length:=NN _
 unfold kp sw
 rw[e4]
 have h1:((if r.MM.null=true then (if r.MM.data = [] then some false else some true) else (if (r.MM.data.length:Int)<1 then some true else (if (r.MM.data.length:Int)>32767 then some true else some false))):Option Bool)=some (decide (¬ yX r)):=by
  have hk:=yq r.MM.data
  have hb:=yr r.MM.null r.MM.data r.MM rfl rfl
  by_cases c2:r.MM.null=true
  ·rw[QK c2]
   by_cases c3:r.MM.data = []
   ·rw[QK c3]
    exact congrArg some (Eq.symm (Nu (fun hh=>hh ⟨hb.2 (fun _=>c3),.inl c2⟩)))
   ·rw[QL c3]
    exact congrArg some (Eq.symm (Nt (fun hh=>c3 (hb.1 hh.1 c2))))
  ·rw[QL c2]
   by_cases c3:r.MM.data = []
   ·rw[QK (by rw[c3]; decide)]
    exact congrArg some (Eq.symm (Nt (fun hh=>hh.2.elim c2 (fun h=>(hk.1 h).1 c3))))
   ·have hl:0<r.MM.data.length:=List.length_pos_iff.2 c3
    rw[QL QG]
    by_cases c4:(r.MM.data.length:Int)>32767
    ·rw[QK c4]
     exact congrArg some (Eq.symm (Nt (fun hh=>hh.2.elim c2 (fun h=>by have:=(hk.1 h).2; omega))))
    ·rw[QL c4]
     exact congrArg some (Eq.symm (Nu (fun hh=>hh ⟨hb.2 (fun h=>absurd h c2),.inr (hk.2 ⟨c3,by omega⟩)⟩)))
 have h2:((if r.M5<(-1) then some true else (if r.M5>1 then some true else (if r.ML<0 then some true else (if r.ML>2147483647 then some true else some false)))):Option Bool)=some (decide (¬ yp r)):=by
  unfold yp
  by_cases c1:r.M5 < -1
  ·rw[QK c1,Nt QG]
  rw[QL c1]
  by_cases c2:r.M5>1
  ·rw[QK c2,Nt QG]
  rw[QL c2]
  by_cases c3:r.ML<0
  ·rw[QK c3,Nt QG]
  rw[QL c3]
  by_cases c4:r.ML>2147483647
  ·rw[QK c4,Nt QG]
  ·rw[QL c4,Nu QG]
 show ((if r.MM.null=true then (if r.MM.data = [] then some false else some true) else (if (r.MM.data.length:Int)<1 then some true else (if (r.MM.data.length:Int)>32767 then some true else some false))).bind fun y7=>if y7=true then some 4 else ((if r.M5<(-1) then some true else (if r.M5>1 then some true else (if r.ML<0 then some true else (if r.ML>2147483647 then some true else some false)))).bind fun y17=>if y17=true then some 11 else ((ls (r.MF.map ofT)).bind fun x24=>if x24=0 then ((dT (ofQ r) v (((r.MF.length:Int)).toNat+1) 0 0).bind fun e=>match e with | .ret r=>some r | .go (y72,k73)=>some 0) else some x24)))= _
 rw[h1,Nr]
 by_cases c1:yX r
 rotate_left
 ·rw[Nt c1,QK rfl,QL c1]
 rw[Nu (fun hh=>hh c1),QL QH,QK c1,h2,Nr]
 by_cases c2:yp r
 rotate_left
 ·rw[Nt c2,QK rfl,QL c2]
 rw[Nu (fun hh=>hh c2),QL QH,QK c2,En _ h.2.1 h.2.2,Nr]
 by_cases c3:qS r.MF=0
 ·obtain⟨z,hz⟩:=rc_l1 r v hv (by have:=h.2.1; omega) 0 r.MF 0 (((r.MF.length:Int)).toNat+1) rfl QG h.2.2
  rw[QK c3,QK c3,hz]
  by_cases c4:jL v r.MM.null r.MF=0
  ·rw[QK c4,c4]; rfl
  ·rw[QL c4]; rfl
 ·rw[QL c3,QL c3]
def tH:Nat→Pr (List Bat)
 | 0=> .ret []
 | n+1=>fun s q=>if q=s.length then .ok ([],q) else (GR.bind fun b=>(tH n).bind fun l=> .ret (b::l)) s q
theorem rj {b:Bat} (h:okB b):61≤(eR b).length:=by rw[ri h]; omega
theorem Ag: ∀ (n:Nat) (s:List UInt8) (q:Nat) (l:List Bat) (r:Nat),q≤s.length→s.length - q≤n→tH n s q= .ok (l,r)→r=s.length∧s.drop q=bd eR l∧ ∀ b,b∈l→okB b
 | 0,s,q,l,r,hq,hn,h=>by
  injection h with h
  obtain⟨rfl,rfl⟩:=N2 h
  exact⟨by omega,by rw[List.drop_eq_nil_of_le QG]; rfl,fun b h=>nomatch h⟩
 | n+1,s,q,l,r,hq,hn,h=>by
  unfold tH at h
  by_cases he:q=s.length
  ·rw[QK he] at h
   injection h with h
   obtain⟨rfl,rfl⟩:=N2 h
   exact⟨he,by rw[List.drop_eq_nil_of_le QG]; rfl,fun b h=>nomatch h⟩
  rw[QL he] at h
  obtain⟨b,m,h1,h2⟩:=Pr.bind_ok h
  obtain⟨bs,m2,h3,h4⟩:=Pr.bind_ok h2
  injection h4 with h4
  obtain⟨rfl,rfl⟩:=N2 h4
  obtain⟨a1,a2,a3,a4,a5⟩:=Eg.spell s q b m hq h1
  have hp:=rj a5
  obtain⟨b1,b2,b3⟩:=Ag n s m bs m2 a2 QG h3
  refine⟨b1,?_,fun y hy=> ?_⟩
  ·have e:s.drop q=eR b++s.drop m:=by
    have e1:s=s.take q++eR b++s.drop m:=by rw[← a4,List.take_append_drop]
    conv=>lhs; rw[e1,NA,List.drop_left' (by rw[Ox]; omega)]
   rw[e,b2,bd]
  ·rcases List.mem_cons.1 hy with rfl | hy
   ·exact a5
   ·exact b3 y hy
theorem C2: ∀ (l:List Bat) (n:Nat) (s:List UInt8) (q:Nat),q≤s.length→s.length - q≤n→(∀ b,b∈l→okB b)→s.drop q=bd eR l→tH n s q= .ok (l,s.length)
 | [],n,s,q,hq,hn,_,hd=>by
  have hl:=congrArg List.length hd
  rw[NI] at hl
  have hl:s.length - q=0:=hl
  have:q=s.length:=by omega
  subst this
  cases n with
  | zero=>rfl
  | succ n=>exact QK rfl
 | b::l,n,s,q,hq,hn,ho,hd=>by
  have hl:=congrArg List.length hd
  rw[bd] at hd
  rw[NI,bd,Nv] at hl
  have hp:=rj (ho b (.head _))
  cases n with
  | zero=>omega
  | succ n =>
   have h1:=Eg.back s _ q b hq (ho b (.head _)) hd
   have h2:=C2 l n s (q+(eR b).length) QG QG (fun y hy=>ho y (.tail _ hy)) (cz hd)
   show (if q=s.length then _ else _)= _
   rw[QL QG,Pr.bind_of h1,Pr.bind_of h2]
   rfl
theorem pI {α:Type} {enc:α→List UInt8}: ∀ (l:List α) (x:α),x∈l→(enc x).length≤(bd enc l).length
 | c::l,x,h=>by
  rw[bd,Nv]
  rcases List.mem_cons.1 h with rfl | h
  ·omega
  ·have:=pI (enc:=enc) l x h; omega
theorem GV {l:List Bat} (h: ∀ b,b∈l→okB b):l.length*61≤(bd eR l).length:=oc (ok:=okB) (fun x hx=>rj hx) l h
def vl:Pr (List UInt8):=qH (og 4)
theorem C3:Sp vl (fun d=>be (d.length:Int) 4++d) (fun d=>bm (d.length:Int) 4=true∧bw ⟨false,d⟩=true):=AR (iK 4 QH QH)
def yt (i:Int) (d:List UInt8):Pr aV:=match tH d.length d 0 with | .error e=> .err e | .ok (l,_)=> .ret ⟨i,l⟩
def pP:Pr aV:=(fC 4).bind fun i=>vl.bind fun d=>yt i d
def gK (p:aV):List UInt8:=be p.M2 4++(be ((bd eR p.MP).length:Int) 4++bd eR p.MP)
def Ep (p:aV):Prop:=bm p.M2 4=true∧bm ((bd eR p.MP).length:Int) 4=true∧ ∀ b,b∈p.MP→okB b
theorem Jo {i:Int} {d s:List UInt8} {q r:Nat} {p:aV} (h:yt i d s q= .ok (p,r)):r=q∧p.M2=i∧d=bd eR p.MP∧ ∀ b,b∈p.MP→okB b:=by
 unfold yt at h
 cases ha:tH d.length d 0 with
 | error e=>rw[ha] at h; exact nomatch h
 | ok x =>
  rw[ha] at h
  injection h with h
  obtain⟨rfl,rfl⟩:=N2 h
  obtain⟨a1,a2,a3⟩:=Ag _ d 0 x.1 x.2 (NX _) QG ha
  rw[List.drop_zero] at a2
  exact⟨rfl,rfl,a2,a3⟩
theorem Jp (i:Int) {l:List Bat} (h: ∀ b,b∈l→okB b) (s:List UInt8) (q:Nat):yt i (bd eR l) s q= .ok (⟨i,l⟩,q):=by
 unfold yt
 rw[C2 l _ (bd eR l) 0 (NX _) QG h List.drop_zero]
 rfl
theorem Jq:Sp pP gK Ep:=by
 refine⟨fun s q a r hq h=> ?_,fun s t q a hq ha h=> ?_⟩
 ·obtain⟨i,q1,h1,h⟩:=Pr.bind_ok h
  obtain⟨d,q2,h2,h⟩:=Pr.bind_ok h
  obtain⟨rfl,c2,rfl,c4⟩:=Jo h
  obtain⟨a1,a2,a3,a4,a5⟩:=(eA 4 QH QH).spell _ _ _ _ hq h1
  obtain⟨b1,b2,b3,b4,b5⟩:=C3.spell _ _ _ _ a2 h2
  refine⟨by omega,b2,by simp only[gK,Nv,av] at *; omega,by rw[b4,a4]; simp only[gK,c2,NA],by rw[c2]; exact a5,b5.1,c4⟩
 ·obtain⟨a1,a2,a3⟩:=ha
  have hl:=congrArg List.length h
  rw[gK,NA] at h
  have g1:=(eA 4 QH QH).back _ _ _ _ hq a1 h
  have h:=cz h
  have g2:=C3.back _ _ _ _ (by simp only[gK,NI,Nv,av] at *; omega) ⟨a2,rfl⟩ h
  rw[pP,Pr.bind_of g1,Pr.bind_of g2,Jp _ a3]
  simp only[gK,Nv,Nat.add_assoc]
theorem C4 (p:aV) (h:Ep p):8≤(gK p).length:=by simp only[gK,Nv,av]; omega
def j6:Pr aI:=xu.bind fun nm=>(mq 4 8 pP).bind fun ps=> .ret ⟨nm,ps⟩
def hZ (t:aI):List UInt8:=(be (t.MO.length:Int) 2++t.MO)++(be (t.MH.length:Int) 4++bd gK t.MH)
def Br (t:aI):Prop:=bm (t.MO.length:Int) 2=true∧bm (t.MH.length:Int) 4=true∧ ∀ p,p∈t.MH→Ep p
theorem Ah:Sp (mq 4 8 pP) (fun l=>be (l.length:Int) 4++bd gK l) (fun l=>bm (l.length:Int) 4=true∧ ∀ p,p∈l→Ep p):=xA 4 8 QH QH Jq C4
theorem GW:Sp j6 hZ Br:=by
 refine⟨fun s q a r hq h=> ?_,fun s t q a hq ha h=> ?_⟩
 ·obtain⟨k,q1,h1,h⟩:=Pr.bind_ok h
  obtain⟨v,q2,h2,h⟩:=Pr.bind_ok h
  injection h with h
  obtain⟨rfl,rfl⟩:=N2 h
  obtain⟨a1,a2,a3,a4,a5⟩:=pA.spell _ _ _ _ hq h1
  obtain⟨b1,b2,b3,b4,b5⟩:=Ah.spell _ _ _ _ a2 h2
  exact⟨by omega,b2,by simp only[hZ,Nv] at *; omega,by rw[b4,a4]; simp only[hZ,NA],a5.1,b5⟩
 ·obtain⟨a1,a2,a3⟩:=ha
  have hl:=congrArg List.length h
  rw[hZ,NA] at h
  have g1:=pA.back _ _ _ _ hq ⟨a1,rfl⟩ h
  have h:=cz h
  have g2:=Ah.back _ _ _ _ (by simp only[hZ,NI,Nv,av] at *; omega) ⟨a2,a3⟩ h
  rw[j6,Pr.bind_of g1,Pr.bind_of g2]
  simp only[Pr.ret,hZ,Nv,Nat.add_assoc]
theorem yu (t:aI) (h:Br t):6≤(hZ t).length:=by simp only[hZ,Nv,av]; omega
theorem sy:Sp (mq 4 6 j6) (fun l=>be (l.length:Int) 4++bd hZ l) (fun l=>bm (l.length:Int) 4=true∧ ∀ t,t∈l→Br t):=xA 4 6 QH QH GW yu
def yv (v:Int):Pr aA:=(og 2).bind fun id=>(fC 2).bind fun a=>(fC 4).bind fun t=>(mq 4 6 j6).bind fun l=>if sw v ⟨id,a,t,l⟩=0 then .ret ⟨id,a,t,l⟩ else .err (sw v ⟨id,a,t,l⟩)
def pa (r:aA):List UInt8:=(be (co r.MM) 2++r.MM.data)++(be r.M5 2++(be r.ML 4++(be (r.MF.length:Int) 4++bd hZ r.MF)))
def okQ (v:Int) (r:aA):Prop:=(bm (co r.MM) 2=true∧bw r.MM=true)∧bm r.M5 2=true∧bm r.ML 4=true∧(bm (r.MF.length:Int) 4=true∧ ∀ t,t∈r.MF→Br t)∧sw v r=0
theorem Sp_prq (v:Int):Sp (yv v) pa (okQ v):=by
 refine⟨fun s q a r hq h=> ?_,fun s t q a hq ha h=> ?_⟩
 ·obtain⟨id,q1,h1,h⟩:=Pr.bind_ok h
  obtain⟨ac,q2,h2,h⟩:=Pr.bind_ok h
  obtain⟨tm,q3,h3,h⟩:=Pr.bind_ok h
  obtain⟨l,q4,h4,h⟩:=Pr.bind_ok h
  by_cases hc:sw v ⟨id,ac,tm,l⟩=0
  rotate_left
  ·rw[QL hc] at h
   exact nomatch h
  rw[QK hc] at h
  injection h with h
  obtain⟨rfl,rfl⟩:=N2 h
  obtain⟨a1,a2,a3,a4,a5⟩:=(iK 2 QH QH).spell _ _ _ _ hq h1
  obtain⟨b1,b2,b3,b4,b5⟩:=(eA 2 QH QH).spell _ _ _ _ a2 h2
  obtain⟨c1,c2,c3,c4,c5⟩:=(eA 4 QH QH).spell _ _ _ _ b2 h3
  obtain⟨d1,d2,d3,d4,d5⟩:=sy.spell _ _ _ _ c2 h4
  exact⟨by omega,d2,by simp only[pa,Nv] at *; omega,by rw[d4,c4,b4,a4]; simp only[pa,NA],a5,b5,c5,d5,hc⟩
 ·obtain⟨a1,a2,a3,a4,a5⟩:=ha
  have hl:=congrArg List.length h
  simp only[pa,NA] at h
  rw[← NA] at h
  simp only[pa,NI,Nv,av] at hl
  have g1:=(iK 2 QH QH).back _ _ _ _ hq a1 h
  have h:=cz h
  have g2:=(eA 2 QH QH).back _ _ _ _ (by simp only[Nv,av] at *; omega) a2 h
  have h:=cz h
  have g3:=(eA 4 QH QH).back _ _ _ _ (by simp only[Nv,av] at *; omega) a3 h
  have h:=cz h
  rw[← NA] at h
  have g4:=sy.back _ _ _ _ (by simp only[Nv,av] at *; omega) a4 h
  rw[yv,Pr.bind_of g1,Pr.bind_of g2,Pr.bind_of g3,Pr.bind_of g4,QK a5]
  simp only[Pr.ret,pa,Nv,Nat.add_assoc]
theorem FD (n:Nat) (acc:List Bat) (x st:I) (h:st.err≠0):cD (n+1) acc x st=some (acc,x,st):=by
 rw[cD,bz,Nr]
 dsimp only
 rw[QL h]
 rfl
theorem pp_l1 (s:List UInt8) (hs:s.length≤1000000) (st:I) (h0:st.err=0): ∀ (n fuel:Nat) (acc:List Bat) (q:Nat),q≤s.length→s.length - q≤n→s.length - q+1<fuel→acc.length+(s.length - q)≤1000000 →
 (∃ e acc' x,tH n s q= .error e∧e≠0∧cD fuel acc ⟨s.drop q,q,0⟩ st=some (acc',x,dx st e))∨(∃ l x,tH n s q= .ok (l,s.length)∧cD fuel acc ⟨s.drop q,q,0⟩ st=some (acc++l,x,st))
 | n,0,acc,q,hq,hn,hf,_=>absurd hf QG
 | n,fuel+1,acc,q,hq,hn,hf,ha=>by
  have hd:(s.drop q).length=s.length - q:=NI
  rw[cD,bz,Nr]
  dsimp only
  rw[QK h0,sJ,Nr]
  dsimp only
  by_cases he:q=s.length
  ·rw[QL QG,Nr]
   dsimp only
   rw[QL QH]
   refine .inr ⟨[],_,?_,by rw[NP]⟩
   cases n with
   | zero=>rw[he]; rfl
   | succ n=>rw[he]; exact QK rfl
  rw[QK QG,Nr]
  dsimp only
  rw[QK rfl]
  cases n with
  | zero=>omega
  | succ n =>
  unfold tH
  rw[QL he]
  rcases B_bat.run s q hs hq with⟨e,st2,p1,g1,x1,y1⟩ | ⟨b,r,p1,g1,n1,l1⟩
  ·refine .inl ⟨e,acc ++ [zBat],st2,by rw[Pr.bind_err p1],by rw[← x1]; exact y1,?_⟩
   rw[g1,Nr]
   dsimp only
   rw[QK QG,bz,Nr]
   dsimp only
   rw[QL y1,dz,Nr,Nr,x1]
   have hfl:fuel=(fuel - 1)+1:=by omega
   rw[hfl]
   refine FD _ _ _ _ ?_
   rw[dx,QK h0]
   show e≠0
   rw[← x1]; exact y1
  ·have a3:=(Eg.spell s q b r hq p1)
   have hp:=rj a3.2.2.2.2
   have a4:=a3.2.2.1
   rw[g1,Nr]
   dsimp only
   rw[QK QG,bz,Nr]
   dsimp only
   rw[QK rfl,Nr]
   rcases pp_l1 s hs st h0 n fuel (acc ++ [b]) r l1 QG QG (by rw[Nv,OI]; omega) with⟨e,acc',x,q1,q2,q3⟩ | ⟨l,x,q1,q2⟩
   ·exact .inl ⟨e,acc',x,by rw[Pr.bind_of p1,Pr.bind_err q1],q2,q3⟩
   ·exact .inr ⟨b::l,x,by rw[Pr.bind_of p1,Pr.bind_of q1]; rfl,by rw[q2,NA]; rfl⟩
theorem GX (s:List UInt8) (hs:s.length≤1000000) (q:Nat) (hq:q≤s.length) :
 (∃ e p st,pP s q= .error e∧g9 ⟨s.drop q,q,0⟩=some (p,st)∧st.err=e∧e≠0)∨(∃ p r,pP s q= .ok (p,r)∧g9 ⟨s.drop q,q,0⟩=some (p,⟨s.drop r,r,0⟩)∧q≤r∧r≤s.length):=by
 have dead: ∀ (i:Int) (d:List UInt8) (st:I),d.length≤1000000→st.err≠0→((wF d).bind fun st18=>(cD (((st18.rest.length:Int)+(st.rest.length:Int)+1).toNat+1) [] st18 st).bind fun (y73,st76,st77)=>some ((⟨i,y73⟩:aV),st77))=some (⟨i,[]⟩,st):=by
  intro i d st hd h
  rw[lF _ QG,Nr,FD _ _ _ _ h]
  rfl
 unfold g9
 rcases Q4.run s q hq with⟨e,st,p1,g1,x1,y1⟩ | ⟨i,q1,p1,g1,n1,l1⟩
 ·refine .inl ⟨e,⟨0,[]⟩,st,Pr.bind_err p1,?_,x1,by rw[← x1]; exact y1⟩
  rw[g1,Nr]
  dsimp only
  rw[mb y1,Nr]
  dsimp only
  rw[QL QH,Nr]
  exact dead 0 [] st QH y1
 rw[g1,Nr]
 dsimp only
 rcases QF4.run s q1 l1 with⟨e,st,p2,g2,x2,y2⟩ | ⟨b,q2,p2,g2,n2,l2⟩
 ·refine .inl ⟨e,⟨i,[]⟩,st,by rw[pP,Pr.bind_of p1,Pr.bind_err]; rw[vl,qH,Pr.bind_err p2],?_,x2,by rw[← x2]; exact y2⟩
  rw[g2,Nr]
  dsimp only
  rw[QL QH,Nr]
  exact dead i [] st QH y2
 have h2:=(iK 4 QH QH).spell _ _ _ _ l1 p2
 have hbl:b.data.length≤1000000:=by
  have:=h2.2.2.1
  rw[Nv] at this
  omega
 rw[g2,Nr]
 dsimp only
 by_cases hb:b.null=true
 ·refine .inl ⟨4,⟨i,[]⟩,⟨s.drop q2,q2,4⟩,by rw[pP,Pr.bind_of p1,Pr.bind_err]; rw[vl,qH,Pr.bind_of p2,QK hb]; rfl,?_,rfl,by decide⟩
  rw[QK hb,dz,Nr,Nr,tp]
  exact dead i b.data _ hbl (show (4:Int)≠0 by decide)
 have hx:vl s q1= .ok (b.data,q2):=by
  rw[vl,qH,Pr.bind_of p2,QL hb]
  rfl
 rw[QL hb,Nr,lF _ QG,Nr]
 rcases pp_l1 b.data hbl ⟨s.drop q2,q2,0⟩ rfl b.data.length ((((b.data.length:Int))+((s.drop q2).length:Int)+1).toNat+1) [] 0 (NX _) QG QG (by rw[Ov]; omega) with⟨e,acc',x,r1,r2,r3⟩ | ⟨l,x,r1,r2⟩
 ·rw[List.drop_zero] at r3
  refine .inl ⟨e,⟨i,acc'⟩,⟨s.drop q2,q2,e⟩,?_,?_,rfl,r2⟩
  ·rw[pP,Pr.bind_of p1,Pr.bind_of hx,yt,r1]
   rfl
  ·rw[r3]
   rfl
 ·rw[List.drop_zero] at r2
  refine .inr ⟨⟨i,l⟩,q2,?_,?_,by omega,l2⟩
  ·rw[pP,Pr.bind_of p1,Pr.bind_of hx,yt,r1]
   rfl
  ·rw[r2]
   rfl
def zQ:aA:=⟨⟨false,[]⟩,0,0,[]⟩
theorem Ku {p:aV} (h:Ep p) (hl:(gK p).length≤1000000):gdP p:=by
 have h1:=GV h.2.2
 simp only[gK,Nv,av] at hl
 refine⟨dY h.1,by omega,fun b hb=>Ej (h.2.2 b hb) ?_⟩
 have:=pI (enc:=eR) _ b hb
 omega
theorem Kv {t:aI} (h:Br t) (hl:(hZ t).length≤1000000):gdT t:=by
 have h1:=oc (ok:=Ep) C4 t.MH h.2.2
 simp only[hZ,Nv,av] at hl
 refine⟨by omega,by omega,fun p hp=>Ku (h.2.2 p hp) ?_⟩
 have:=pI (enc:=gK) t.MH p hp
 omega
theorem okQ_gd {a:Bl} {k t:Int} {l:List aI} (ht:bm t 4=true) (h: ∀ x,x∈l→Br x) (hl:(bd hZ l).length≤1000000):gdQ ⟨a,k,t,l⟩:=by
 have h1:=oc (ok:=Br) yu l h
 refine⟨dY ht,by show l.length*40≤ _; omega,fun x hx=>Kv (h x hx) ?_⟩
 have:=pI (enc:=hZ) l x hx
 omega
theorem qr_l2 (n:Int) (s:List UInt8) (hs:s.length≤1000000) (hn:n≤1000000): ∀ (m fuel k:Nat) (acc:List aV) (q:Nat),((k+m:Nat):Int)=n→m<fuel→q≤s.length→acc.length=k →
 (∃ (e:Int) (st:I),jU pP m s q= .error e∧ci n fuel k acc ⟨s.drop q,q,0⟩=some (.ret (zQ,st))∧st.err=e∧e≠0) ∨
 (∃ l r,jU pP m s q= .ok (l,r)∧ci n fuel k acc ⟨s.drop q,q,0⟩=some (.go (k+m,acc++l,⟨s.drop r,r,0⟩))∧q≤r∧r≤s.length)
 | 0,fuel+1,k,acc,q,h1,h2,h3,h4=> .inr ⟨[],q,rfl,by rw[ci,QL QG,NP]; rfl,NW _,h3⟩
 | m+1,fuel+1,k,acc,q,h1,h2,h3,h4=>by
  rw[ci,QK QG]
  rcases GX s hs q h3 with⟨e,p,st,p1,g1,x1,y1⟩ | ⟨p,r,p1,g1,n1,l1⟩
  ·refine .inl ⟨e,st,by rw[jU,Pr.bind_err p1],?_,x1,y1⟩
   rw[g1,Nr]
   dsimp only
   rw[QK QG,bz,Nr]
   dsimp only
   rw[QL (by rw[x1]; exact y1)]
   rfl
  ·rw[g1,Nr]
   dsimp only
   rw[QK QG,bz,Nr]
   dsimp only
   rw[QK rfl,QK QG,jU,Pr.bind_of p1]
   rcases qr_l2 n s hs hn m fuel (k+1) (acc ++ [p]) r QG QG l1 (by rw[Nv,h4]; rfl) with⟨e,st,r1,r2,r3,r4⟩ | ⟨l,r',r1,r2,r3,r4⟩
   ·exact .inl ⟨e,st,by rw[Pr.bind_err r1],r2,r3,r4⟩
   ·refine .inr ⟨p::l,r',by rw[Pr.bind_of r1]; rfl,?_,by omega,r4⟩
    rw[r2,NA,show k+1+m=k+(m+1) by omega]
    rfl
theorem qr_l1 (n:Int) (s:List UInt8) (hs:s.length≤1000000) (hn:n≤1000000): ∀ (m fuel k:Nat) (acc:List aI) (q:Nat),((k+m:Nat):Int)=n→m<fuel→q≤s.length→acc.length=k →
 (∃ (e:Int) (st:I),jU j6 m s q= .error e∧dk n fuel k acc ⟨s.drop q,q,0⟩=some (.ret (zQ,st))∧st.err=e∧e≠0) ∨
 (∃ l r,jU j6 m s q= .ok (l,r)∧dk n fuel k acc ⟨s.drop q,q,0⟩=some (.go (k+m,acc++l,⟨s.drop r,r,0⟩))∧q≤r∧r≤s.length)
 | 0,fuel+1,k,acc,q,h1,h2,h3,h4=> .inr ⟨[],q,rfl,by rw[gS,QL QG,NP]; rfl,NW _,h3⟩
 | m+1,fuel+1,k,acc,q,h1,h2,h3,h4=>by
  rw[gS,QK QG]
  rcases QT.run s q h3 with⟨e,st,p1,g1,x1,y1⟩ | ⟨nm,q1,p1,g1,n1,l1⟩
  ·refine .inl ⟨e,st,by rw[jU,Pr.bind_err (show j6 s q= .error e from Pr.bind_err p1)],?_,x1,by rw[← x1]; exact y1⟩
   rw[g1,Nr]
   dsimp only
   rw[nB y1 QH QH,Nr]
   dsimp only
   rw[show (0:Int).toNat+1=0+1 from rfl,ci,QL QH,Nr]
   dsimp only
   rw[bz,Nr]
   dsimp only
   rw[QL y1]
   rfl
  rw[g1,Nr]
  dsimp only
  rcases (tt 4 8 QH QH 4 8 rfl rfl QH).run s q1 l1 with⟨e,st,p2,g2,x2,y2⟩ | ⟨c,q2,p2,g2,n2,l2⟩
  ·refine .inl ⟨e,st,by rw[jU,Pr.bind_err]; rw[j6,Pr.bind_of p1,Pr.bind_err]; rw[mq,Pr.bind_err p2],?_,x2,by rw[← x2]; exact y2⟩
   rw[g2,Nr]
   dsimp only
   rw[show (0:Int).toNat+1=0+1 from rfl,ci,QL QH,Nr]
   dsimp only
   rw[bz,Nr]
   dsimp only
   rw[QL y2]
   rfl
  obtain⟨c1,c2,c3,c4,c5,c6⟩:=mS QH QH l1 p2
  have c2:=c2 QH
  rw[g2,Nr]
  dsimp only
  rcases qr_l2 c s hs QG c.toNat (c.toNat+1) 0 [] q2 QG QG l2 rfl with⟨e,st,r1,r2,r3,r4⟩ | ⟨ps,q3,r1,r2,r3,r4⟩
  ·refine .inl ⟨e,st,by rw[jU,Pr.bind_err]; rw[j6,Pr.bind_of p1,Pr.bind_err]; rw[mq,Pr.bind_of p2,r1],?_,r3,r4⟩
   rw[r2]
   rfl
  have ht:j6 s q= .ok (⟨nm,ps⟩,q3):=by
   rw[j6,Pr.bind_of p1,Pr.bind_of (a:=ps) (r:=q3) (by rw[mq,Pr.bind_of p2,r1])]
   rfl
  rw[r2,Nr]
  dsimp only
  rw[bz,Nr]
  dsimp only
  rw[QK rfl,QK QG,QK QG,NM,jU,Pr.bind_of ht]
  rcases qr_l1 n s hs hn m fuel (k+1) (acc ++ [⟨nm,ps⟩]) q3 QG QG r4 (by rw[Nv,h4]; rfl) with⟨e,st,s1,s2,s3,s4⟩ | ⟨l,r',s1,s2,s3,s4⟩
  ·exact .inl ⟨e,st,by rw[Pr.bind_err s1],s2,s3,s4⟩
  ·refine .inr ⟨⟨nm,ps⟩::l,r',by rw[Pr.bind_of s1]; rfl,?_,by omega,s4⟩
   rw[s2,NA,show k+1+m=k+(m+1) by omega]
   rfl
theorem B_prq (v:Int):CB (fun st=>ez st v) (yv v) zQ:=by
 have tail: ∀ (b:Bl) (a t:Int) (st:I),st.err≠0→((iQ st).bind fun (x121,st122)=>(if x121=0 then ((cC (⟨b,a,t,[]⟩:aA) v).bind fun x138=>(if x138=0 then some st122 else ((cj st122 x138).bind fun st146=>some st146)).bind fun st143=>some st143) else some st122).bind fun st135=>(iQ st135).bind fun (x148,st149)=>if x148=0 then (some ((⟨b,a,t,[]⟩:aA),st149)) else (some ((⟨(⟨false,[]⟩:Bl),0,0,[]⟩:aA),st149)))=some (zQ,st):=by
  intro b a t st h
  rw[bz,Nr]
  dsimp only
  rw[QL h,Nr,bz,Nr]
  dsimp only
  rw[QL h]
  rfl
 have dead: ∀ (b:Bl) (a t:Int) (st:I),st.err≠0→((jO st 4 6).bind fun (x12,st13)=>(dk x12 ((x12).toNat+1) 0 [] st13).bind fun e=>match e with | .ret r=>some r | .go (k116,y117,st120)=>((iQ st120).bind fun (x121,st122)=>(if x121=0 then ((cC (⟨b,a,t,y117⟩:aA) v).bind fun x138=>(if x138=0 then some st122 else ((cj st122 x138).bind fun st146=>some st146)).bind fun st143=>some st143) else some st122).bind fun st135=>(iQ st135).bind fun (x148,st149)=>if x148=0 then (some ((⟨b,a,t,y117⟩:aA),st149)) else (some ((⟨(⟨false,[]⟩:Bl),0,0,[]⟩:aA),st149))))=some (zQ,st):=by
  intro b a t st h
  rw[nB h QH QH,Nr]
  dsimp only
  rw[show (0:Int).toNat+1=0+1 from rfl,gS,QL QH,Nr]
  exact tail b a t st h
 refine⟨fun st h=> ?_,fun s q hs hq=> ?_⟩
 ·show ez st v= _
  unfold ez
  rw[mb h,Nr]
  dsimp only
  rw[lz h,Nr]
  dsimp only
  rw[lz h,Nr]
  exact dead _ _ _ st h
 ·show (∃ e st,yv v s q= _∧ez _ v= _∧ _∧ _)∨(∃ a r,yv v s q= _∧ez _ v= _∧ _∧ _)
  unfold ez
  rcases QF2.run s q hq with⟨e,st,p1,g1,x1,y1⟩ | ⟨b,q1,p1,g1,n1,l1⟩
  ·refine .inl ⟨e,st,Pr.bind_err p1,?_,x1,y1⟩
   rw[g1,Nr]
   dsimp only
   rw[lz y1,Nr]
   dsimp only
   rw[lz y1,Nr]
   exact dead _ _ _ st y1
  rw[g1,Nr]
  dsimp only
  rcases Q2.run s q1 l1 with⟨e,st,p2,g2,x2,y2⟩ | ⟨a,q2,p2,g2,n2,l2⟩
  ·refine .inl ⟨e,st,by rw[yv,Pr.bind_of p1,Pr.bind_err p2],?_,x2,y2⟩
   rw[g2,Nr]
   dsimp only
   rw[lz y2,Nr]
   exact dead _ _ _ st y2
  rw[g2,Nr]
  dsimp only
  rcases Q4.run s q2 l2 with⟨e,st,p3,g3,x3,y3⟩ | ⟨t,q3,p3,g3,n3,l3⟩
  ·refine .inl ⟨e,st,by rw[yv,Pr.bind_of p1,Pr.bind_of p2,Pr.bind_err p3],?_,x3,y3⟩
   rw[g3,Nr]
   exact dead _ _ _ st y3
  rw[g3,Nr]
  dsimp only
  rcases (tt 4 6 QH QH 4 6 rfl rfl QH).run s q3 l3 with⟨e,st,p4,g4,x4,y4⟩ | ⟨c,q4,p4,g4,n4,l4⟩
  ·refine .inl ⟨e,st,by rw[yv,Pr.bind_of p1,Pr.bind_of p2,Pr.bind_of p3,Pr.bind_err]; rw[mq,Pr.bind_err p4],?_,x4,y4⟩
   have:=dead b a t st y4
   rw[nB y4 QH QH] at this
   rw[g4]
   exact this
  obtain⟨c1,c2,c3,c4,c5,c6⟩:=mS QH QH l3 p4
  have c2:=c2 QH
  rw[g4,Nr]
  dsimp only
  rcases qr_l1 c s hs QG c.toNat (c.toNat+1) 0 [] q4 QG QG l4 rfl with⟨e,st,r1,r2,r3,r4⟩ | ⟨l,q5,r1,r2,r3,r4⟩
  ·refine .inl ⟨e,st,by rw[yv,Pr.bind_of p1,Pr.bind_of p2,Pr.bind_of p3,Pr.bind_err]; rw[mq,Pr.bind_of p4,r1],?_,r3,by rw[r3]; exact r4⟩
   rw[r2]
   rfl
  have hl:mq 4 6 j6 s q3= .ok (l,q5):=by rw[mq,Pr.bind_of p4,r1]
  obtain⟨d1,d2,d3,d4,d5⟩:=sy.spell _ _ _ _ l3 hl
  obtain⟨t1,t2,t3,t4,t5⟩:=(eA 4 QH QH).spell _ _ _ _ l2 p3
  rw[Nv,av] at d3
  have hg:gdQ ⟨b,a,t,l⟩:=okQ_gd t5 d5.2 QG
  rw[r2,Nr]
  dsimp only
  rw[bz,Nr]
  dsimp only
  rw[QK rfl,NM,Eo _ v hg,Nr,yv,Pr.bind_of p1,Pr.bind_of p2,Pr.bind_of p3,Pr.bind_of hl]
  by_cases hc:sw v ⟨b,a,t,l⟩=0
  ·rw[QK hc,QK hc]
   exact .inr ⟨_,q5,rfl,rfl,by omega,r4⟩
  ·rw[QL hc,QL hc,dz,tp]
   refine .inl ⟨_,⟨s.drop q5,q5,sw v ⟨b,a,t,l⟩⟩,rfl,?_,rfl,hc⟩
   rw[Nr,Nr,Nr,bz,Nr]
   dsimp only
   rw[QL hc]
   rfl
def zF:aE:=⟨zHead,zB,zA,zE,[],zQ⟩
def frB (h:fx) (x:bb):aE:=⟨h,x,zA,zE,[],zQ⟩
def frA (h:fx) (x:bT):aE:=⟨h,zB,x,zE,[],zQ⟩
def frE (h:fx) (x:bR):aE:=⟨h,zB,zA,x,[],zQ⟩
def frM (h:fx) (x:List aQ):aE:=⟨h,zB,zA,zE,x,zQ⟩
def frP (h:fx) (x:aA):aE:=⟨h,zB,zA,zE,[],x⟩
def C5 (v:Int):Pr bb:=if v>0 then Iw v else Iv v
theorem B_begV (v:Int):CB (fun st=>eH st v) (C5 v) zB:=by
 unfold C5
 by_cases hv:v>0
 ·rw[QK hv]; exact B_beg1 v hv
 ·rw[QL hv]; exact B_beg0 v hv
def wq (h:fx):Pr aE :=
 if h.MS=22 then (C5 h.MR).map (frB h) else if h.MS=24 then Iu.map (frA h) else if h.MS=26 then It.map (frE h)
 else if h.MS=27 then (qO h.MR).map (frM h) else (yv h.MR).map (frP h)
def pIn:Pr aE:=Cd.bind wq
def C6 (s:List UInt8):Except Int (aE×Nat)→aE×Int
 | .error e=>(zF,e)
 | .ok (f,r)=>if r<s.length then (zF,2) else (f,0)
def opn (s:List UInt8):aE×Int:=C6 s (pIn s 0)
theorem Jr {st:I} (h:st.err≠0):fR st=st:=by
 unfold fR dx
 rw[QL h]
 split <;> rfl
theorem Js (s:List UInt8) (r:Nat) (hr:r≤s.length):fR ⟨s.drop r,r,0⟩=if r<s.length then ⟨s.drop r,r,2⟩ else ⟨s.drop r,r,0⟩:=by
 unfold fR dx
 by_cases h:r<s.length
 ·rw[QK h,QL (by intro h2; have:=congrArg List.length h2; rw[NI] at this; simp at this; omega)]
  rfl
 ·rw[QL h,QK (by rw[List.drop_eq_nil_iff]; omega)]
theorem qT {α:Type} {op:I→Option (α×I)} {p:Pr α} {z:α} (h:CB op p z) (g:α→aE) (s:List UInt8) (q:Nat) (hs:s.length≤1000000) (hq:q≤s.length) :
 ((op ⟨s.drop q,q,0⟩).bind fun (x14,st15)=>(eg st15).bind fun (x17,st18)=>if x17=0 then some (g x14,0) else some (zF,x17))=some (C6 s ((p.map g) s q)):=by
 rcases h.run s q hs hq with⟨e,st,p1,g1,x1,y1⟩ | ⟨a,r,p1,g1,n1,l1⟩
 ·rw[g1,Pr.map,Pr.bind_err p1]
  simp only[Nr,gU,Jr y1]
  rw[QL y1,x1]
  rfl
 ·rw[g1,Pr.map,Pr.bind_of p1]
  simp only[Nr,gU,Js s r l1,Pr.ret,C6]
  by_cases hr:r<s.length
  ·rw[QK hr,QK hr]
   rfl
  ·rw[QL hr,QL hr]
   rfl
theorem Kw (s:List UInt8) (hs:s.length≤1000000):kT s=some (opn s):=by
 unfold kT opn pIn
 rw[lF s QG]
 simp only[Nr]
 have h0:=Q_head.run s 0 (NX _)
 rw[List.drop_zero] at h0
 rcases h0 with⟨e,st,p1,g1,x1,y1⟩ | ⟨h,r,p1,g1,n1,l1⟩
 ·rw[g1,Pr.bind_err p1]
  simp only[Nr,bz]
  rw[QL y1,x1]
  rfl
 ·rw[g1,Pr.bind_of p1]
  simp only[Nr,bz]
  rw[QK trivial]
  unfold wq
  by_cases h22:h.MS=22
  ·rw[QK h22,QK h22]; exact qT (B_begV h.MR) (frB h) s r hs l1
  rw[QL h22,QL h22]
  by_cases h24:h.MS=24
  ·rw[QK h24,QK h24]; exact qT B_add (frA h) s r hs l1
  rw[QL h24,QL h24]
  by_cases h26:h.MS=26
  ·rw[QK h26,QK h26]; exact qT B_end (frE h) s r hs l1
  rw[QL h26,QL h26]
  by_cases h27:h.MS=27
  ·rw[QK h27,QK h27]; exact qT (Ki h.MR) (frM h) s r hs l1
  rw[QL h27,QL h27]
  exact qT (B_prq h.MR) (frP h) s r hs l1
def pFrm:Pr aE:=fun s q=>match fC 4 s q with
 | .error e=> .error e
 | .ok (n,r)=>if n<0 then .error 4 else if (s.length:Int) - r<n then .error 1 else if (opn ((s.drop r).take n.toNat)).2=0 then .ok ((opn ((s.drop r).take n.toNat)).1,r+n.toNat) else .error (opn ((s.drop r).take n.toNat)).2
theorem Kx (l:List UInt8) (q:Nat) {n:Int} (h:n<0):cE ⟨l,q,0⟩ n=([],⟨l,q,4⟩):=by
 unfold cE
 rw[QL (by simp),QK h]
theorem GY (l:List UInt8) (q:Nat) {n:Int} (h: ¬ n<0) (h2:(l.length:Int)<n):cE ⟨l,q,0⟩ n=([],⟨l,q,1⟩):=by
 unfold cE
 rw[QL (by simp),QL h,QK h2]
theorem itk_ok (l:List UInt8) (q:Nat) {n:Int} (h: ¬ n<0) (h2: ¬ (l.length:Int)<n):cE ⟨l,q,0⟩ n=(l.take n.toNat,⟨l.drop n.toNat,q+n.toNat,0⟩):=by
 unfold cE
 rw[QL (by simp),QL h,QL h2]
theorem B_frm:CB jH pFrm zF:=by
 refine⟨fun st h=> ?_,fun s q hs hq=> ?_⟩
 ·unfold jH
  rw[lz h]
  simp only[Nr,oG _ _ (by decide:(-9223372036854775808:Int)≤0∧(0:Int)≤9223372036854775807),cE,QK h,bz,QL h]
  rfl
 ·unfold jH pFrm
  rcases Q4.run s q hq with⟨e,st,p1,g1,x1,y1⟩ | ⟨n,r,p1,g1,n1,l1⟩
  ·refine .inl ⟨e,st,by rw[p1],?_,x1,y1⟩
   rw[g1]
   simp only[Nr,oG _ _ (by decide:(-9223372036854775808:Int)≤0∧(0:Int)≤9223372036854775807),cE,QK y1,bz,QL y1]
   rfl
  ·have hn:=dY ((eA 4 QH QH).spell s q n r hq p1).2.2.2.2
   rw[p1,g1]
   simp only[Nr,oG _ _ hn,bz]
   by_cases h1:n<0
   ·rw[QK h1,Kx _ _ h1]
    exact .inl ⟨4,⟨s.drop r,r,4⟩,rfl,rfl,rfl,by simp⟩
   rw[QL h1]
   by_cases h2:(s.length:Int) - r<n
   ·rw[QK h2,GY _ _ h1 (by rw[NI]; omega)]
    exact .inl ⟨1,⟨s.drop r,r,1⟩,rfl,rfl,rfl,by simp⟩
   rw[QL h2,itk_ok _ _ h1 (by rw[NI]; omega)]
   rw[QK rfl,Kw _ (by rw[Ox,NI]; omega)]
   simp only[Nr,Ol]
   by_cases h3:(opn ((s.drop r).take n.toNat)).2=0
   ·rw[QK h3,QK h3]
    exact .inr ⟨_,r+n.toNat,rfl,rfl,by omega,by omega⟩
   ·rw[QL h3,QL h3,dz]
    exact .inl ⟨_,dx ⟨s.drop (r+n.toNat),r+n.toNat,0⟩ (opn ((s.drop r).take n.toNat)).2,rfl,rfl,rfl,h3⟩
def yY (l:List Bat):Prop:= ∀ b,b∈l→smB b∧chk b=0
theorem FE (t:dD) (i:Nat) (p:j5) (hi:t.MH[i]? = some p) (hp:p.MP.length≤1000000): ∀ (l:List Bat) (acc:List UInt8) (k fuel:Nat),p.MP.drop k=l→l.length<fuel→yY l→acc.length+(bd eR l).length≤1000000→ ∃ z,eZ t i fuel acc k=some (acc++bd eR l,z)
 | [],acc,k,fuel+1,h,hf,_,_=>by
  have:=di h
  exact⟨k,by rw[eZ,hi,Nr,QL QG]; simp[bd]⟩
 | b::l,acc,k,fuel+1,h,hf,hw,hl=>by
  obtain⟨g1,g2,g3⟩:=cA h
  rw[NB] at hf
  rw[bd,Nv] at hl
  obtain⟨hb1,hb2⟩:=hw b (.head _)
  obtain⟨z,hz⟩:=FE t i p hi hp l (acc++eR b) (k+1) fuel g2 QG (fun x hx=>hw x (.tail _ hx)) (by rw[Nv]; omega)
  exact⟨z,by rw[eZ,hi,Nr,QK QG,g1,Nr,r11enc hb1 hb2,Nr,QK QG,QK QG,hz,bd,NA]⟩
theorem FF (t:aI) (hn:t.MH.length≤1000000): ∀ (l:List aV) (acc:List UInt8) (k fuel:Nat),t.MH.drop k=l→l.length<fuel→(∀ p,p∈l→wI p.M2∧p.MP.length≤1000000∧yY p.MP)→acc.length+(bd gK l).length≤1000000→ ∃ z,e7 (ofT t) fuel acc k=some (acc++bd gK l,z)
 | [],acc,k,fuel+1,h,hf,_,_=>by
  have:=di h
  exact⟨k,by rw[e7,QL (by show ¬ (k:Int)<((t.MH.map ofP).length:Int); rw[NN]; omega)]; simp[bd]⟩
 | p::l,acc,k,fuel+1,h,hf,hw,hl=>by
  obtain⟨g1,g2,g3⟩:=cA h
  rw[NB] at hf
  rw[bd,Nv] at hl
  have hpl:=hl
  simp only[gK,Nv,av] at hpl
  obtain⟨hp1,hp2,hp3⟩:=hw p (.head _)
  have e1:(ofT t).MH[k]? = some (ofP p):=by show (t.MH.map ofP)[k]? = _; rw[List.getElem?_map,g1]; rfl
  have e3:(((ofT t).MH[k]?).map (fun x236=>((x236.MP.length:Int)).toNat+1)).getD 0=p.MP.length+1:=by
   rw[e1]
   show ((p.MP.length:Int)).toNat+1= _
   omega
  obtain⟨z2,hz2⟩:=FE (ofT t) k (ofP p) e1 hp2 p.MP [] 0 (p.MP.length+1) rfl QG hp3 (by rw[Ov]; omega)
  obtain⟨z,hz⟩:=FF t hn l (acc++gK p) (k+1) fuel g2 QG (fun x hx=>hw x (.tail _ hx)) (by rw[Nv]; omega)
  refine⟨z,?_⟩
  rw[e7,QK (by show (k:Int)<((t.MH.map ofP).length:Int); rw[NN]; omega),e3,hz2,Nr,e1,NM]
  dsimp only
  rw[Nr,bO (ofP p).M2 _ ⟨hp1,by decide,by decide⟩,Nr,QK (by rw[av]; show _+4≤ _; omega),kh _ _ ⟨by decide,by decide,by dsimp only; omega⟩,Nr,QK (by simp only[Nv,av]; show _+4+(4 + _)≤ _; omega),Nr,QK QG]
  have e4:(acc++be (ofP p).M2 (4:Int).toNat)++(be (co (⟨false,bd eR p.MP⟩:Bl)) (4:Int).toNat++(bd eR p.MP))=acc++gK p:=by rw[NA]; rfl
  rw[e4,hz,bd,NA]
theorem FG (r:aA) (hn:r.MF.length≤1000000): ∀ (l:List aI) (acc:List UInt8) (k fuel:Nat),r.MF.drop k=l→l.length<fuel→(∀ t,t∈l→t.MH.length≤1000000∧ ∀ p,p∈t.MH→wI p.M2∧p.MP.length≤1000000∧yY p.MP)→acc.length+(bd hZ l).length≤1000000→ ∃ z,e9 (ofQ r) fuel acc k=some (acc++bd hZ l,z)
 | [],acc,k,fuel+1,h,hf,_,_=>by
  have:=di h
  exact⟨k,by rw[e9,QL (by show ¬ (k:Int)<((r.MF.map ofT).length:Int); rw[NN]; omega)]; simp[bd]⟩
 | t::l,acc,k,fuel+1,h,hf,hw,hl=>by
  obtain⟨g1,g2,g3⟩:=cA h
  rw[NB] at hf
  rw[bd,Nv] at hl
  have hpl:=hl
  simp only[hZ,Nv,av] at hpl
  obtain⟨ht1,ht2⟩:=hw t (.head _)
  have e1:(ofQ r).MF[k]? = some (ofT t):=by show (r.MF.map ofT)[k]? = _; rw[List.getElem?_map,g1]; rfl
  have e4:(ofT t).MH.length=t.MH.length:=NN _
  obtain⟨z2,hz2⟩:=FF t ht1 t.MH ((acc++(be (t.MO.length:Int) 2++t.MO))++be (t.MH.length:Int) 4) 0 (((t.MH.length:Int)).toNat+1) rfl QG ht2 (by simp only[Nv,av]; omega)
  obtain⟨z,hz⟩:=FG r hn l (acc++hZ t) (k+1) fuel g2 QG (fun x hx=>hw x (.tail _ hx)) (by rw[Nv]; omega)
  refine⟨z,?_⟩
  rw[e9,QK (by show (k:Int)<((r.MF.map ofT).length:Int); rw[NN]; omega),e1,Nr,kh _ _ ⟨by decide,by decide,by show t.MO.length≤ _; omega⟩,Nr,e4]
  rw[QK (by rw[Nv,av]; show _+(2+t.MO.length)≤ _; omega),bO _ _ ⟨by omega,by decide,by decide⟩,Nr,QK (by simp only[Nv,av]; show _+(2+t.MO.length)+4≤ _; omega)]
  have e5:acc++(be (co (⟨false,(ofT t).MO⟩:Bl)) (2:Int).toNat++(⟨false,(ofT t).MO⟩:Bl).data)++be (t.MH.length:Int) (4:Int).toNat=(acc++(be (t.MO.length:Int) 2++t.MO))++be (t.MH.length:Int) 4:=rfl
  rw[e5,hz2,Nr]
  dsimp only
  rw[Nr,QK QG]
  have e6:(acc++(be (t.MO.length:Int) 2++t.MO))++be (t.MH.length:Int) 4++bd gK t.MH=acc++hZ t:=by simp only[hZ,NA]
  rw[e6,hz,bd,NA]
theorem GZ {r:aA} (ha:wI r.M5∧wI r.ML) (hn:r.MF.length≤1000000) (hw: ∀ t,t∈r.MF→t.MH.length≤1000000∧ ∀ p,p∈t.MH→wI p.M2∧p.MP.length≤1000000∧yY p.MP) (hl:(pa r).length≤1000000):jh (ofQ r)=some (pa r):=by
 have e4:(ofQ r).MF.length=r.MF.length:=NN _
 simp only[pa,Nv,av] at hl
 obtain⟨z,hz⟩:=FG r hn r.MF ((((be (co r.MM) 2++r.MM.data)++be r.M5 2)++be r.ML 4)++be (r.MF.length:Int) 4) 0 (((r.MF.length:Int)).toNat+1) rfl QG hw (by simp only[Nv,av]; omega)
 have l1:(be (co r.MM) (2:Int).toNat++r.MM.data).length=2+r.MM.data.length:=by rw[Nv,av]; rfl
 have l2: ∀ n:Int,(be n (2:Int).toNat).length=2:=fun n=>av _ _
 have l4: ∀ n:Int,(be n (4:Int).toNat).length=4:=fun n=>av _ _
 unfold jh
 rw[e4]
 show ((jW r.MM 2).bind fun x4=>(cN r.M5 2).bind fun x6=>if x4.length+x6.length≤9223372036854775807 then ((cN r.ML 4).bind fun x9=> _) else none)= _
 rw[kh _ _ ⟨by decide,by decide,by omega⟩,Nr,bO _ _ ⟨ha.1,by decide,by decide⟩,Nr,QK (by rw[l1,l2]; omega),bO _ _ ⟨ha.2,by decide,by decide⟩,Nr,QK (by rw[Nv,l1,l2,l4]; omega),bO _ _ ⟨by omega,by decide,by decide⟩,Nr,QK (by rw[Nv,Nv,l1,l2,l4,l4]; omega)]
 have e5:((((be (co r.MM) (2:Int).toNat++r.MM.data)++be r.M5 (2:Int).toNat)++be r.ML (4:Int).toNat)++be (r.MF.length:Int) (4:Int).toNat)=((((be (co r.MM) 2++r.MM.data)++be r.M5 2)++be r.ML 4)++be (r.MF.length:Int) 4):=rfl
 rw[e5,hz,Nr]
 simp only[pa,NA]
theorem Bt {r:aA} (h:gdQ r):gW r=some (ofQ r):=by
 have h1:=h.2.1
 unfold gW
 rw[Fz r.MF [] (by rw[Ov]; omega) (fun t ht=>(h.2.2 t ht).2.1),Nr,NM]
 rfl
theorem vN {a b:aA} (h:gdQ a):et (ofQ a) (ofQ b)=some (CN a b):=by
 have h1:=h.2.1
 refine Jg QG (fun t ht=> ?_)
 have h2:=h.2.2 t ht
 exact⟨by have:=h2.2.1; omega,fun p hp=>(h2.2.2 p hp).2⟩
theorem zQ_gd:gdQ zQ:=⟨by unfold wI zQ; decide,by decide,fun t h=>nomatch h⟩
theorem Er {v:Int} {nul:Bool} {l:List Bat} (h:o9 v nul l=0): ∀ b,b∈l→chk b=0∧b.Nc=false∧b.Nd≠nul:=by
 have h2:gT nul l=0:=by
  unfold o9 at h
  split at h
  ·exact absurd h QH
  ·exact h
 clear h
 induction l with
 | nil=>exact fun b h=>nomatch h
 | cons c l ih =>
  rw[gT] at h2
  by_cases c1:chk c=0
  rotate_left
  ·rw[QL c1] at h2; exact absurd h2 c1
  rw[QK c1] at h2
  by_cases c2:c.Nc=true
  ·rw[QK c2] at h2; exact absurd h2 QH
  rw[QL c2] at h2
  by_cases c3:c.Nd=nul
  ·rw[QK c3] at h2; exact absurd h2 QH
  rw[QL c3] at h2
  intro b hb
  rcases List.mem_cons.1 hb with rfl | hb
  ·exact⟨c1,by simpa using c2,c3⟩
  ·exact ih h2 b hb
theorem tI {v:Int} {nul:Bool}: ∀ {l:List aV},iE v nul l=0→ ∀ p,p∈l→o9 v nul p.MP=0
 | c::l,h,p,hp=>by
  rw[iE] at h
  by_cases c1:o9 v nul c.MP=0
  rotate_left
  ·rw[QL c1] at h; exact absurd h c1
  rw[QK c1] at h
  rcases List.mem_cons.1 hp with rfl | hp
  ·exact c1
  ·exact tI h p hp
theorem tJ {v:Int} {nul:Bool}: ∀ {l:List aI},jL v nul l=0→ ∀ t,t∈l→iE v nul t.MH=0
 | c::l,h,t,ht=>by
  rw[jL] at h
  by_cases c1:iE v nul c.MH=0
  rotate_left
  ·rw[QL c1] at h; exact absurd h c1
  rw[QK c1] at h
  rcases List.mem_cons.1 ht with rfl | ht
  ·exact c1
  ·exact tJ h t ht
theorem G3 {v:Int} {r:aA} (h:sw v r=0):yX r∧yp r∧qS r.MF=0∧jL v r.MM.null r.MF=0:=by
 unfold sw at h
 by_cases c1:yX r
 rotate_left
 ·rw[QL c1] at h; exact absurd h QH
 rw[QK c1] at h
 by_cases c2:yp r
 rotate_left
 ·rw[QL c2] at h; exact absurd h QH
 rw[QK c2] at h
 by_cases c3:qS r.MF=0
 rotate_left
 ·rw[QL c3] at h; exact absurd h c3
 rw[QK c3] at h
 exact⟨c1,c2,c3,h⟩
def nK:Int→List Bat→Int
 | w,[]=>w
 | w,x::l=>nK (if w=0 then chk x else w) l
theorem Ai {w:Int} (h:w≠0): ∀ l:List Bat,nK w l=w
 | []=>rfl
 | x::l=>by rw[nK,QL h,Ai h l]
theorem Aj: ∀ {l:List Bat},(∀ x,x∈l→chk x=0)→nK 0 l=0
 | [],_=>rfl
 | y::l,h=>by rw[nK,QK rfl,h y (.head _),Aj (fun x hx=>h x (.tail _ hx))]
theorem Jt (y4:List UInt8) (y5:Int): ∀ (l:List Bat) (t:List UInt8),(∀ x,x∈l→smB x)→t.length+1000000*l.length≤1000000000 →
 fW l y4 y5 t=some (if nK 0 l=0 then .go (y4,y5,t++bd eR l) else .ret ([],nK 0 l))
 | [],t,_,_=>by rw[bd,NP]; rfl
 | x::l,t,h,hl=>by
  have hx:=h x (.head _)
  rw[NB] at hl
  rw[fW,benc hx,Nr,nK,QK rfl]
  by_cases hc:chk x=0
  ·have he:=ri (Jc hx hc)
   have hx2:=hx.2.2
   rw[QK hc]
   dsimp only
   rw[QK rfl,DE _ _ QG,Nr,Jt y4 y5 l _ (fun y hy=>h y (.tail _ hy)) (by rw[Nv]; omega),hc,bd,NA]
  ·rw[QL hc,Ai hc]
   dsimp only
   rw[QL hc,QL hc]
theorem all_eq {l:List Bat} (h: ∀ x,x∈l→smB x) (hl:l.length≤1000):l9 l=some (if nK 0 l=0 then (bd eR l,0) else ([],nK 0 l)):=by
 unfold l9
 rw[Jt [] 0 l [] h (by rw[Ov]; omega),Nr]
 by_cases hc:nK 0 l=0
 ·rw[QK hc,QK hc]
  dsimp only
  rw[HJ,Nr,NM]
 ·rw[QL hc,QL hc]
theorem G4 {t d:List UInt8} (hf:d.length≤32767) (ht:t.length≤1000000000):kC (t,0) d=some (t++(be (d.length:Int) 2++d),0):=by
 rw[vz _ _ (by simp only; omega)]
 have:=kw (t:=t) (b:=⟨false,d⟩) (k:=2) (fY (.inl rfl) (show -32768≤(d.length:Int) by omega) (show (d.length:Int)≤32767 by omega)) rfl (by simp only; omega)
 rw[pk _ _ _ ⟨by decide,by simp only; omega⟩] at this
 exact this
theorem qw_l2: ∀ (l:List aV) (t:List UInt8),(∀ p,p∈l→Ep p∧p.MP.length≤1000∧yY p.MP)→t.length+(bd gK l).length≤1000000→bV l (t,0)=some (t++bd gK l,0)
 | [],t,h,hl=>by rw[bV,bd,NP]
 | p::l,t,h,hl=>by
  obtain⟨h1,h2,h3⟩:=h p (.head _)
  rw[bd,Nv] at hl
  have hpl:=hl
  simp only[gK,Nv,av] at hpl
  rw[bV,all_eq (fun x hx=>(h3 x hx).1) h2,QK (Aj (fun x hx=>(h3 x hx).2)),Nr]
  dsimp only
  rw[QK rfl,Nr,ec h1.1 QG,Nr,gOf_eq,Nr,kw (b:=⟨false,bd eR p.MP⟩) h1.2.1 rfl (by simp only[Nv,av]; show _+(4:Int).toNat + _≤ _; omega),Nr]
  have e4:(t++be p.M2 (4:Int).toNat)++(be (co (⟨false,bd eR p.MP⟩:Bl)) (4:Int).toNat++(⟨false,bd eR p.MP⟩:Bl).data)=t++gK p:=by rw[NA]; rfl
  rw[e4,qw_l2 l _ (fun x hx=>h x (.tail _ hx)) (by rw[Nv]; omega),bd,NA]
theorem qw_l1: ∀ (l:List aI) (t:List UInt8),(∀ x,x∈l→x.MO.length≤32767∧Br x∧ ∀ p,p∈x.MH→p.MP.length≤1000∧yY p.MP)→t.length+(bd hZ l).length≤1000000→bW l (t,0)=some (t++bd hZ l,0)
 | [],t,h,hl=>by rw[bW,bd,NP]
 | x::l,t,h,hl=>by
  obtain⟨h0,h1,h2⟩:=h x (.head _)
  rw[bd,Nv] at hl
  have hpl:=hl
  simp only[hZ,Nv,av] at hpl
  rw[bW,G4 h0 QG,Nr,ec h1.2.1 (by simp only[Nv,av]; omega),Nr]
  rw[qw_l2 x.MH _ (fun p hp=>⟨h1.2.2 p hp,h2 p hp⟩) (by simp only[Nv,av]; show _+(2 + _)+(4:Int).toNat + _≤ _; omega),Nr,Nr]
  have e4:(t++(be (x.MO.length:Int) 2++x.MO))++be (x.MH.length:Int) (4:Int).toNat++bd gK x.MH=t++hZ x:=by simp only[hZ,NA]; rfl
  rw[e4,qw_l1 l _ (fun y hy=>h y (.tail _ hy)) (by rw[Nv]; omega),bd,NA]
def wPs:List aV→Nat
 | []=>0
 | p::l=>(10+100*p.MP.length)+wPs l
def wTq:List aI→Nat
 | []=>0
 | t::l=>(t.MO.length+10+wPs t.MH)+wTq l
theorem yw {n:Int} (h: -9223372036854775808≤n∧n≤9223372036854775807):IntKind.i64.wrap n=n:=by
 rw[IntKind.wrap_i64]
 omega
theorem nP_eq {n:Int} {p:aV} (hn:0≤n∧n≤100000) (hp:p.MP.length≤140737488351232):nP n p=n+((10+100*p.MP.length:Nat):Int):=by
 unfold nP
 rw[yw (n:=100*(p.MP.length:Int)) QG,yw (n:=10+100*(p.MP.length:Int)) QG,yw QG]
 omega
theorem Ju: ∀ (l:List aV) (n:Int),0≤n∧n≤100000→(∀ p,p∈l→p.MP.length≤140737488351232)→okFp n l→nPs n l=n+(wPs l:Int)∧(l ≠ []→nPs n l≤2000)
 | [],n,_,_,_=>⟨by simp[nPs,wPs],fun h=>absurd rfl h⟩
 | p::l,n,hn,hp,ho=>by
  obtain⟨o1,o2,o3⟩:=ho
  have e:=nP_eq hn (hp p (.head _))
  obtain⟨h1,h2⟩:=Ju l (nP n p) ⟨by omega,by omega⟩ (fun q hq=>hp q (.tail _ hq)) o3
  refine⟨by rw[nPs,h1,e,wPs]; omega,fun _=> ?_⟩
  rw[nPs]
  cases l with
  | nil=>exact o1
  | cons q l=>exact h2 (by simp)
theorem Jv: ∀ (l:List aI) (n:Int),0≤n∧n≤40000→(∀ t,t∈l→t.MH ≠ []∧t.MO.length≤32767∧ ∀ p,p∈t.MH→p.MP.length≤140737488351232)→CS n l→nTs n l=n+(wTq l:Int)
 | [],n,_,_,_=>by simp[nTs,wTq]
 | t::l,n,hn,ht,ho=>by
  obtain⟨o1,o2⟩:=ho
  obtain⟨t1,t2,t3⟩:=ht t (.head _)
  have e:nT n t=n+((t.MO.length+10:Nat):Int):=by
   unfold nT
   rw[yw (n:=(t.MO.length:Int)+10) QG,yw QG]
   omega
  obtain⟨h1,h2⟩:=Ju t.MH (nT n t) ⟨by omega,by omega⟩ t3 o1
  have h2:=h2 t1
  have h3:=Jv l (nPs (nT n t) t.MH) ⟨by omega,by omega⟩ (fun u hu=>ht u (.tail _ hu)) o2
  rw[nTs,h3,h1,e,wTq]
  omega
theorem qU: ∀ {l:List aI} {p:Option (List UInt8)},rqT p l=0→ ∀ t,t∈l→t.MH ≠ []∧t.MO.length≤32767∧rqP none t.MH=true
 | c::l,p,h,t,ht=>by
  rw[rqT] at h
  by_cases c0:c.MH.length=0
  ·rw[QK c0] at h; exact absurd h QH
  rw[QL c0] at h
  by_cases c1:sv p c=true
  rotate_left
  ·rw[QL c1] at h; exact absurd h QH
  rw[QK c1] at h
  rcases List.mem_cons.1 ht with rfl | ht
  ·unfold sv at c1
   simp only[Bool.and_eq_true,decide_eq_true_eq] at c1
   exact⟨fun e=>c0 (by rw[e]; rfl),c1.1.1.2,c1.2⟩
  ·exact qU h t ht
theorem C7: ∀ {l:List aV} {q:Option Int},rqP q l=true→ ∀ p,p∈l→0≤p.M2∧p.M2≤2147483647
 | c::l,q,h,p,hp=>by
  rw[rqP] at h
  simp only[Bool.and_eq_true,okn,decide_eq_true_eq] at h
  rcases List.mem_cons.1 hp with rfl | hp
  ·exact h.1.1
  ·exact C7 h.2 p hp
theorem Bu: ∀ {l:List aV} {p:aV},p∈l→10+100*p.MP.length≤wPs l
 | c::l,p,h=>by
  rw[wPs]
  rcases List.mem_cons.1 h with rfl | h
  ·omega
  ·have:=Bu h; omega
theorem Bv: ∀ {l:List aI} {t:aI},t∈l→t.MO.length+10+wPs t.MH≤wTq l
 | c::l,t,h=>by
  rw[wTq]
  rcases List.mem_cons.1 h with rfl | h
  ·omega
  ·have:=Bv h; omega
theorem FH: ∀ l:List aV,10*l.length≤wPs l
 | []=>NW _
 | c::l=>by have:=FH l; rw[wPs,NB]; omega
theorem FI: ∀ l:List aI,10*l.length≤wTq l
 | []=>NW _
 | c::l=>by have:=FI l; rw[wTq,NB]; omega
def smQb (p:aV):Prop:= ∀ b,b∈p.MP→okB b∧(body b).length≤12000
theorem C8 {p:aV} (h:smQb p):(gK p).length≤121*(10+100*p.MP.length):=by
 have h1:=Bp eR 12061 p.MP (fun x hx=>by have:=h x hx; rw[ri this.1]; omega)
 simp only[gK,Nv,av]
 omega
theorem Ak: ∀ l:List aV,(∀ p,p∈l→smQb p)→(bd gK l).length≤121*wPs l
 | [],_=>NW _
 | p::l,h=>by
  have h1:=C8 (h p (.head _))
  have h2:=Ak l (fun q hq=>h q (.tail _ hq))
  rw[bd,Nv,wPs]
  omega
theorem Al: ∀ l:List aI,(∀ t,t∈l→ ∀ p,p∈t.MH→smQb p)→(bd hZ l).length≤121*wTq l
 | [],_=>NW _
 | t::l,h=>by
  have h1:=Ak t.MH (h t (.head _))
  have h2:=Al l (fun q hq=>h q (.tail _ hq))
  rw[bd,Nv,wTq]
  simp only[hZ,Nv,av]
  omega
theorem id_len {r:aA} (h:yX r):r.MM.data.length≤32767∧(r.MM.null=true→r.MM.data = []):=by
 have h1:=(yr r.MM.null r.MM.data r.MM rfl rfl).1 h.1
 refine⟨?_,h1⟩
 rcases h.2 with h2 | h2
 ·rw[h1 h2]; decide
 ·exact ((yq r.MM.data).1 h2).2
theorem gdQ_of {a:aA} (hw:gH a) (ho:CS (a.MM.data.length:Int) a.MF):gdQ a :=
 ⟨hw.2.2.1,hw.2.2.2.1,fun t ht=>⟨(hw.2.2.2.2 t ht).1,(hw.2.2.2.2 t ht).2.1,fun p hp=>⟨((hw.2.2.2.2 t ht).2.2 p hp).1,((hw.2.2.2.2 t ht).2.2 p hp).2.1,fun b hb=>(tG ho t ht p hp b hb).1.1⟩⟩⟩
theorem Jw {v:Int} {a:aA} (hw:gH a) (ho:CS (a.MM.data.length:Int) a.MF) (hn:nTs (a.MM.data.length:Int) a.MF≤2000) (hc:sw v a=0) :
 okQ v a∧(pa a).length≤300000∧ ∀ t,t∈a.MF→t.MO.length≤32767∧t.MH.length≤1000∧ ∀ p,p∈t.MH→p.MP.length≤1000∧yY p.MP:=by
 obtain⟨k1,k2,k3,k4⟩:=G3 hc
 obtain⟨i1,i2⟩:=id_len k1
 have hr:rqT none a.MF=0:=by
  unfold qS at k3
  split at k3
  ·exact absurd k3 QH
  ·exact k3
 have hp: ∀ t,t∈a.MF→ ∀ p,p∈t.MH→p.MP.length≤140737488351232:=fun t ht p hp=>((hw.2.2.2.2 t ht).2.2 p hp).2.1
 have e:=Jv a.MF (a.MM.data.length:Int) ⟨by omega,by omega⟩ (fun t ht=>⟨(qU hr t ht).1,(qU hr t ht).2.1,hp t ht⟩) ho
 have hb: ∀ t,t∈a.MF→ ∀ p,p∈t.MH→ ∀ b,b∈p.MP→smB b∧(body b).length≤12000∧chk b=0:=fun t ht p hp b hb =>
  ⟨(tG ho t ht p hp b hb).1,(tG ho t ht p hp b hb).2,(Er (tI (tJ k4 t ht) p hp) b hb).1⟩
 have hsm: ∀ t,t∈a.MF→ ∀ p,p∈t.MH→smQb p:=fun t ht p hp b hb'=>⟨Jc (hb t ht p hp b hb').1 (hb t ht p hp b hb').2.2,(hb t ht p hp b hb').2.1⟩
 have hl:=Al a.MF hsm
 have hl2:=FI a.MF
 have big: ∀ t,t∈a.MF→t.MO.length≤32767∧t.MH.length≤1000∧ ∀ p,p∈t.MH→p.MP.length≤1000∧yY p.MP:=fun t ht=>by
  have m1:=Bv ht
  have m2:=FH t.MH
  refine⟨(qU hr t ht).2.1,by omega,fun p hp=> ?_⟩
  have m3:=Bu hp
  exact⟨by omega,fun b hb'=>⟨(hb t ht p hp b hb').1,(hb t ht p hp b hb').2.2⟩⟩
 refine⟨⟨⟨?_,k1.1⟩,fY (.inl rfl) (by have:=k2.1; omega) (by have:=k2.2.1; omega),?_,⟨fY (.inr (.inl rfl)) QG QG,fun t ht=> ?_⟩,hc⟩,?_,big⟩
 ·unfold co
  split
  ·decide
  ·exact fY (.inl rfl) QG QG
 ·have:=k2.2.2
  show bm a.ML 4=true
  rw[eL]
  exact Nt QG
 ·have m0:=Bv ht
  have m1:=big t ht
  refine⟨fY (.inl rfl) QG QG,fY (.inr (.inl rfl)) QG QG,fun p hp=> ?_⟩
  have m2:=C7 (qU hr t ht).2.2 p hp
  have m3:=C8 (hsm t ht p hp)
  have m4:=Bu hp
  have m5:(bd eR p.MP).length≤(gK p).length:=by simp only[gK,Nv]; omega
  refine⟨?_,?_,fun b hb'=>(hsm t ht p hp b hb').1⟩
  ·show bm p.M2 4=true
   rw[eL]
   exact Nt QG
  ·show bm _ 4=true
   rw[eL]
   exact Nt QG
 ·simp only[pa,Nv,av]
  omega
def Es (v:Int) (x:bb):Prop:=if v>0 then okFx x.MM∧bm x.ML 4=true∧bm x.MG 8=true∧bm x.MJ 2=true∧fZ x.MM x.ML x.MG x.MJ v=0 else okFx x.MM∧bm x.ML 4=true∧fZ x.MM x.ML x.MG x.MJ v=0∧x.MG= -1∧x.MJ= -1
theorem Ky (v:Int):Sp (C5 v) (yW v) (Es v):=by
 unfold C5
 by_cases hv:v>0
 ·rw[QK hv]
  refine (Kc v).congr (fun x=>by unfold Es; rw[QK hv]) (fun x _=>by unfold yW; rw[QK hv])
 ·rw[QL hv]
  refine (Kd v).congr (fun x=>by unfold Es; rw[QL hv]) (fun x _=>by unfold yW; rw[QL hv])
def okEn (x:bR):Prop:=okTx x.MM∧bm x.MG 8=true∧bm x.MJ 2=true∧nD x.MM x.MG x.MJ=0
def okAd (x:bT):Prop:=okTx x.MM∧bm x.MG 8=true∧bm x.MJ 2=true∧yV x.MF∧om x.MM x.MG x.MJ x.MF=0
def okMs (v:Int) (l:List aQ):Prop:=(bm (l.length:Int) 4=true∧ ∀ m,m∈l→okM v m)∧nG v l=0
def ky (h:fx) (f:aE):List UInt8 :=
 if h.MS=22 then yW h.MR f.M6 else if h.MS=24 then AY f.M9 else if h.MS=26 then AX f.M8 else if h.MS=27 then tA h.MR f.M0 else pa f.MN
def pZ (h:fx) (f:aE):Prop :=
 if h.MS=22 then Es h.MR f.M6∧frB h f.M6=f else if h.MS=24 then okAd f.M9∧frA h f.M9=f else if h.MS=26 then okEn f.M8∧frE h f.M8=f
 else if h.MS=27 then okMs h.MR f.M0∧frM h f.M0=f else okQ h.MR f.MN∧frP h f.MN=f
theorem Kz (h:fx):Sp (wq h) (ky h) (pZ h):=by
 unfold wq
 by_cases h22:h.MS=22
 ·rw[QK h22]
  exact ((Ky h.MR).map (frB h) (fun f=>f.M6) (fun _=>rfl)).congr (fun f=>by unfold pZ; rw[QK h22]) (fun f _=>by unfold ky; rw[QK h22])
 rw[QL h22]
 by_cases h24:h.MS=24
 ·rw[QK h24]
  exact (Sp_add.map (frA h) (fun f=>f.M9) (fun _=>rfl)).congr (fun f=>by unfold pZ okAd; rw[QL h22,QK h24]) (fun f _=>by unfold ky; rw[QL h22,QK h24])
 rw[QL h24]
 by_cases h26:h.MS=26
 ·rw[QK h26]
  exact (Sp_end.map (frE h) (fun f=>f.M8) (fun _=>rfl)).congr (fun f=>by unfold pZ okEn; rw[QL h22,QL h24,QK h26]) (fun f _=>by unfold ky; rw[QL h22,QL h24,QK h26])
 rw[QL h26]
 by_cases h27:h.MS=27
 ·rw[QK h27]
  exact ((Ix h.MR).map (frM h) (fun f=>f.M0) (fun _=>rfl)).congr (fun f=>by unfold pZ okMs; rw[QL h22,QL h24,QL h26,QK h27]) (fun f _=>by unfold ky; rw[QL h22,QL h24,QL h26,QK h27])
 rw[QL h27]
 exact ((Sp_prq h.MR).map (frP h) (fun f=>f.MN) (fun _=>rfl)).congr (fun f=>by unfold pZ; rw[QL h22,QL h24,QL h26,QL h27]) (fun f _=>by unfold ky; rw[QL h22,QL h24,QL h26,QL h27])
theorem Am {h:fx} {f:aE} (k:pZ h f):f.MI=h:=by
 unfold pZ at k
 repeat' split at k
 all_goals rw[← k.2]; rfl
def lc (f:aE):List UInt8:=nA f.MI++ky f.MI f
def okIn (f:aE):Prop:=okH f.MI∧pZ f.MI f
theorem Sp_in:Sp pIn lc okIn:=by
 refine J7.seq (π:=fun f:aE=>f.MI) (enc2:=fun f=>ky f.MI f) (ok2:=fun f=>pZ f.MI f) (fun a=>(Kz a).congr (fun f=>⟨fun k=> ?_,fun k=> ?_⟩) (fun f k=> ?_))
 ·rw[Am k]; exact⟨k,rfl⟩
 ·have:=k.1; rw[k.2] at this; exact this
 ·rw[Am k]
def qV (f:aE):List UInt8:=be ((lc f).length:Int) 4++lc f
def okFr (f:aE):Prop:=okIn f∧bm ((lc f).length:Int) 4=true
theorem opn_of {f:aE} (h:okIn f):opn (lc f)=(f,0):=by
 have hb:=Sp_in.back (lc f) [] 0 f (NX _) h (by simp)
 unfold opn
 rw[hb]
 simp only[C6,Nat.zero_add]
 rw[QL QG]
theorem Jx {s t:List UInt8} {q:Nat} {f:aE} (hq:q≤s.length) (h:okFr f) (hd:s.drop q=qV f++t):pFrm s q= .ok (f,q+(qV f).length):=by
 have hd':s.drop q=be ((lc f).length:Int) 4++(lc f++t):=by rw[hd,qV,NA]
 have hp:=(eA 4 QH QH).back s _ q _ hq h.2 hd'
 have hb4:(be ((lc f).length:Int) 4).length=4:=av _ _
 have hr:s.drop (q+(be ((lc f).length:Int) 4).length)=lc f++t:=cz hd'
 have hl:=congrArg List.length hr
 rw[NI,Nv] at hl
 have hl0:=congrArg List.length hd'
 rw[NI,Nv,Nv,hb4] at hl0
 unfold pFrm
 rw[hp]
 simp only
 rw[QL QG,QL QG,hr,Oz,List.take_append_of_le_length (NW _),List.take_length,opn_of h.1]
 rw[QK rfl,qV,Nv,Nat.add_assoc]
def smF (f:aE):Prop:=wTs f.M9.MF≤2000∧(∀ m,m∈f.M0→wTs m.MF≤2000)∧(bd (jJ f.MI.MR) f.M0).length≤300000∧(f.MI.MS≠22→f.MI.MS≠24→f.MI.MS≠26→f.MI.MS≠27→gdQ f.MN∧(pa f.MN).length≤300000∧ ∀ t,t∈f.MN.MF→t.MO.length≤32767∧t.MH.length≤1000∧ ∀ p,p∈t.MH→p.MP.length≤1000∧yY p.MP)
theorem Jy {v:Int} {l:List aQ} {t:List UInt8} (h:okMs v l) (hw: ∀ m,m∈l→wTs m.MF≤2000) (hl:(bd (jJ v) l).length≤300000) (ht:t.length≤100000):jD (t,0) l v=some (t++tA v l,0):=by
 unfold jD
 rw[DZ v l (fun m hm=>okM_W (h.1.2 m hm) (by have:=hw m hm; omega)),Nr,QK h.2,ec h.1.1 QG,Nr,vD v l _ (fun m hm=>⟨h.1.2 m hm,hw m hm⟩) (by rw[Nv,av,show (4:Int).toNat=4 from rfl]; omega),Nr,NA]
 rfl
theorem q_put {v:Int} {a:aA} {t:List UInt8} (hg:gdQ a) (h:okQ v a) (hl:(pa a).length≤300000) (ht:t.length≤100000) (hb: ∀ t,t∈a.MF→t.MO.length≤32767∧t.MH.length≤1000∧ ∀ p,p∈t.MH→p.MP.length≤1000∧yY p.MP):dC (t,0) a v=some (t++pa a,0):=by
 obtain⟨h1,h2,h3,h4,h5⟩:=h
 have hl':=hl
 simp only[pa,Nv,av] at hl'
 unfold dC
 rw[Eo a v hg,Nr,QK h5,kw h1.1 h1.2 QG,Nr,ec h2 (by simp only[Nv,av]; show _+(2 + _)≤ _; omega),Nr,ec h3 (by simp only[Nv,av]; show _+(2 + _)+2≤ _; omega),Nr,ec h4.1 (by simp only[Nv,av]; show _+(2 + _)+2+4≤ _; omega),Nr]
 rw[qw_l1 a.MF _ (fun t ht=>⟨(hb t ht).1,h4.2 t ht,(hb t ht).2.2⟩) (by simp only[Nv,av]; show _+(2 + _)+2+4+4 + _≤ _; omega),Nr]
 simp only[pa,NA]
 rfl
theorem Jz {f:aE} {t:List UInt8} (h:pZ f.MI f) (hs:smF f) (ht:t.length≤100000):bN (t,0) f=some (t++ky f.MI f,0):=by
 unfold bN
 unfold pZ at h
 unfold ky
 by_cases h22:f.MI.MS=22
 ·rw[QK h22] at h ⊢
  rw[QK h22]
  have hb:=h.1
  unfold Es at hb
  by_cases hv:f.MI.MR>0
  ·rw[QK hv] at hb
   rw[sj f.M6 _ t (dY hb.2.2.1) (dY hb.2.2.2.1) (dY hb.2.1) QG,QK hb.2.2.2.2]
   rfl
  ·rw[QL hv] at hb
   rw[sj f.M6 _ t (by rw[hb.2.2.2.1]; exact wim) (by rw[hb.2.2.2.2]; exact wim) (dY hb.2.1) QG,QK hb.2.2.1]
   rfl
 rw[QL h22] at h ⊢
 rw[QL h22]
 by_cases h24:f.MI.MS=24
 ·rw[QK h24] at h ⊢
  rw[QK h24]
  obtain⟨k1,k2,k3,k4,k5⟩:=h.1
  rw[Cq f.M9 t (dY k2) (dY k3) (Cr k4 (by have:=hs.1; omega)) hs.1 QG,QK k5]
  rfl
 rw[QL h24] at h ⊢
 rw[QL h24]
 by_cases h26:f.MI.MS=26
 ·rw[QK h26] at h ⊢
  rw[QK h26]
  obtain⟨k1,k2,k3,k4⟩:=h.1
  rw[Cp f.M8 t (dY k2) (dY k3) QG,QK k4]
  rfl
 rw[QL h26] at h ⊢
 rw[QL h26]
 by_cases h27:f.MI.MS=27
 ·rw[QK h27] at h ⊢
  rw[QK h27,Jy h.1 hs.2.1 hs.2.2.1 ht]
  rfl
 rw[QL h27] at h ⊢
 obtain⟨g1,g2,g3⟩:=hs.2.2.2 h22 h24 h26 h27
 rw[QL h27,q_put g1 h.1 g2 ht g3]
 rfl
theorem KA {h:fx} (k:okH h):mK h=0∧h.MQ.data.length≤32767:=by
 obtain⟨k1,k2,k3,k4⟩:=k
 have hl:h.MQ.data.length≤32767:=by
  by_cases hn:h.MQ.null=true
  ·have:h.MQ.data = []:=by
    unfold bw at k4
    rw[hn] at k4
    simpa using k4
   rw[this]; simp
  ·have hb:co h.MQ=(h.MQ.data.length:Int):=by
    unfold co
    simp[hn]
   rw[hb,vc] at k3
   have:=of_decide_eq_true k3
   omega
 unfold mK
 rw[QK k1,QK k2,QK k4,QL QG]
 exact⟨rfl,hl⟩
theorem yx (h:fx):(nA h).length=10+h.MQ.data.length:=by
 simp only[nA,Nv,av]; omega
theorem put_4 {m:List UInt8} (hl:m.length≤700000) (h3:bm (m.length:Int) 4=true):(d8 ([],0) (m.length:Int) 4).bind (fun st28=>(zj st28 m).bind fun st30=>(mW st30).bind fun (x32,x33,st34)=>some (x32,x33))=some (be (m.length:Int) 4++m,0):=by
 have hb:(be (m.length:Int) 4).length=4:=av _ _
 rw[ec h3 (NX _),Nr,NM,show (4:Int).toNat=4 from rfl,BM _ _ (by show (be (m.length:Int) 4).length + _≤ _; omega),Nr,oh,jA,xv,Nr]
theorem Et {f:aE} (h:okFr f) (hs:smF f) (hl:(lc f).length≤700000):db f=some (qV f,0):=by
 obtain⟨⟨h1,h2⟩,h3⟩:=h
 obtain⟨c1,c2⟩:=KA h1
 have hb:=Jz (t:=nA f.MI) h2 hs (by rw[yx]; omega)
 have hp:=put_4 hl h3
 unfold db
 rw[xy f.MI [] (NX _) (dY h1.2.1) QG,QK c1,Nr,NM,wE,Nr]
 dsimp only
 rw[QK rfl,hb,Nr,Nr,jA,xv,Nr]
 dsimp only
 rw[QK rfl]
 exact hp
def FJ (s:List UInt8):aE×Int:=C6 s (pFrm s 0)
theorem Eu (s:List UInt8) (hs:s.length≤1000000):fX s=some (FJ s):=by
 unfold fX FJ
 rw[lF s QG]
 simp only[Nr]
 have h0:=B_frm.run s 0 hs (NX _)
 rw[List.drop_zero] at h0
 rcases h0 with⟨e,st,p1,g1,x1,y1⟩ | ⟨f,r,p1,g1,n1,l1⟩
 ·rw[g1,p1]
  simp only[Nr,gU,Jr y1,C6]
  rw[QL y1,x1]
  rfl
 ·rw[g1,p1]
  simp only[Nr,gU,Js s r l1,C6]
  by_cases hr:r<s.length
  ·rw[QK hr,QK hr]
   rfl
  ·rw[QL hr,QL hr]
   rfl
def pJ (h:fx):iV:=⟨h.MS,h.MR,h.MY,h.MQ⟩
def z20:bl:=⟨⟨false,[]⟩,0,0,[]⟩
def nF (f:aE):aE :=
 if f.MI.MS=22 then frB f.MI f.M6 else if f.MI.MS=24 then frA f.MI f.M9 else if f.MI.MS=26 then frE f.MI f.M8 else if f.MI.MS=27 then frM f.MI f.M0 else frP f.MI f.MN
def ofF (f:aE):eJ :=
 if f.MI.MS=0 then ⟨pJ f.MI,zR,[],ofQ f.MN⟩ else if f.MI.MS=22 then ⟨pJ f.MI,gB f.M6,[],z20⟩ else if f.MI.MS=24 then ⟨pJ f.MI,gA f.M9,[],z20⟩
 else if f.MI.MS=26 then ⟨pJ f.MI,gE f.M8,[],z20⟩ else if f.MI.MS=27 then ⟨pJ f.MI,zR,f.M0.map toR,z20⟩ else ⟨pJ f.MI,zR,[],z20⟩
theorem mL (f:aE):(nF f).MI=f.MI:=by
 unfold nF
 repeat' split
 all_goals rfl
theorem of21 (f:aE) (hm:f.M0.length≤1000000) (hq:f.MI.MS=0→gW f.MN=some (ofQ f.MN)):j2 f=some (ofF f):=by
 unfold j2 ofF
 by_cases h0:f.MI.MS=0
 ·rw[QK h0,QK h0,hq h0]; rfl
 rw[QL h0,QL h0]
 by_cases h22:f.MI.MS=22
 ·rw[QK h22,QK h22]; rfl
 rw[QL h22,QL h22]
 by_cases h24:f.MI.MS=24
 ·rw[QK h24,QK h24]; rfl
 rw[QL h24,QL h24]
 by_cases h26:f.MI.MS=26
 ·rw[QK h26,QK h26]; rfl
 rw[QL h26,QL h26]
 by_cases h27:f.MI.MS=27
 ·rw[QK h27,QK h27,of_eq f.M0 hm]; rfl
 rw[QL h27,QL h27]
 rfl
theorem of_nF (f:aE) (hk:f.MI.MS=0∨f.MI.MS=22∨f.MI.MS=24∨f.MI.MS=26∨f.MI.MS=27):ofF (nF f)=ofF f:=by
 unfold ofF
 rw[mL]
 unfold nF
 rcases hk with h | h | h | h | h <;> simp[h,frB,frA,frE,frM,frP]
def kd (f:aE):Int :=
 if mK f.MI=0 then (if f.MI.MS=0 then sw f.MI.MR f.MN else if f.MI.MS=27 then nG f.MI.MR f.M0 else if f.MI.MS=22 then fZ f.M6.MM f.M6.ML f.M6.MG f.M6.MJ f.MI.MR
  else if f.MI.MS=24 then om f.M9.MM f.M9.MG f.M9.MJ f.M9.MF else nD f.M8.MM f.M8.MG f.M8.MJ) else mK f.MI
theorem pb {h:fx} (k:mK h=0):(h.MS=0∧(h.MR=3∨h.MR=4))∨((h.MS=22∨h.MS=24∨h.MS=26∨h.MS=27)∧(h.MR=0∨h.MR=1)):=by
 have hv:=(DW k).1
 unfold gO hC at hv
 by_cases h0:h.MS=0
 ·simp[h0] at hv
  exact .inl ⟨h0,by omega⟩
 by_cases h1:h.MS=22
 ·simp[h1] at hv
  exact .inr ⟨.inl h1,by omega⟩
 by_cases h2:h.MS=24
 ·simp[h2] at hv
  exact .inr ⟨.inr (.inl h2),by omega⟩
 by_cases h3:h.MS=26
 ·simp[h3] at hv
  exact .inr ⟨.inr (.inr (.inl h3)),by omega⟩
 by_cases h4:h.MS=27
 ·simp[h4] at hv
  exact .inr ⟨.inr (.inr (.inr h4)),by omega⟩
 simp[h0,h1,h2,h3,h4] at hv
structure tK (f:aE):Prop where
 wf:j3 f
 cl:f.MI.MQ.data.length≤1000
 bg:f.M6.MM.data.length≤1000
 ad:f.M9.MM.length≤1000
 en:f.M8.MM.length≤1000
 ts:wTs f.M9.MF≤1000
 ml:f.M0.length≤20
 mt: ∀ m,m∈f.M0→wTs m.MF≤1000
 pq:CS (f.MN.MM.data.length:Int) f.MN.MF
 pn:nTs (f.MN.MM.data.length:Int) f.MN.MF≤2000
theorem few21 (f:aE) (hw:j3 f):mR f=some 0∨(mR f=some 1∧tK f):=by
 obtain⟨w1,w2,w3,w4,w5,w6⟩:=hw
 have hw:j3 f:=⟨w1,w2,w3,w4,w5,w6⟩
 unfold mR
 by_cases h1:(f.MI.MQ.data.length:Int)>1000
 ·rw[QK h1]; exact .inl rfl
 rw[QL h1]
 by_cases h2:(f.M6.MM.data.length:Int)>1000
 ·rw[QK h2]; exact .inl rfl
 rw[QL h2]
 by_cases h3:(f.M9.MM.length:Int)>1000
 ·rw[QK h3]; exact .inl rfl
 rw[QL h3]
 by_cases h4:(f.M8.MM.length:Int)>1000
 ·rw[QK h4]; exact .inl rfl
 rw[QL h4]
 rcases In f.M9.MF w3.2.2.2.2 with h5 | ⟨h5,k5⟩
 ·rw[h5]; exact .inl rfl
 rw[h5]
 rcases few19 f.M0 w5.2 with h6 | ⟨h6,k6,m6⟩
 ·rw[Nr,QL QH,h6]; exact .inl rfl
 rw[Nr,QL QH,h6]
 rcases q_few w6 with h7 | ⟨h7,k7,m7⟩
 ·rw[Nr,QL QH,h7]; exact .inl rfl
 rw[Nr,QL QH,h7]
 exact .inr ⟨rfl,hw,by omega,by omega,by omega,by omega,k5,k6,m6,k7,m7⟩
theorem An {f:aE} (h:tK f):gdQ f.MN:=gdQ_of h.wf.2.2.2.2.2 h.pq
theorem FK {f:aE} (h:tK f):wTl f.M9.MF:=by
 have hn:=kX f.M9.MF
 exact⟨h.wf.2.2.1.2.2.2.2,by have:=h.ts; omega⟩
theorem JA {f:aE} (h:tK f):j2 f=some (ofF f):=of21 f (by have:=h.ml; omega) (fun _=>Bt (An h))
theorem FL {f:aE} (h:tK f):lZ (ofF f)=some (kd f):=by
 unfold lZ kd
 have hh:(ofF f).MI=pJ f.MI:=by
  unfold ofF
  repeat' split
  all_goals rfl
 rw[hh,Gu]
 have e:(⟨(pJ f.MI).MS,(pJ f.MI).MR,(pJ f.MI).MY,(pJ f.MI).MQ⟩:fx)=f.MI:=rfl
 rw[e,Nr]
 by_cases hc:mK f.MI=0
 ·rw[QK hc,QK hc]
  have hb: ∀ {t:Top} {l:List Top},wTs l≤1000→t∈l→t.MH.length≤1000000∧t.MO.length≤1000000:=fun {t l} hw ht=>by
   have:=tw _ _ ht
   unfold wT at this
   exact⟨by omega,by omega⟩
  show (if f.MI.MS=0 then _ else _)= _
  rcases pb hc with⟨h0,hv⟩ | ⟨hk,hv⟩
  ·rw[QK h0,QK h0]
   have:(ofF f).MN=ofQ f.MN:=by unfold ofF; rw[QK h0]
   rw[this]
   show (kp (ofQ f.MN) f.MI.MR).bind _= _
   rw[Jn f.MN _ hv (An h)]
   rfl
  ·have h0:f.MI.MS≠0:=by omega
   rw[QL h0,QL h0]
   show (if f.MI.MS=27 then _ else _)= _
   by_cases h27:f.MI.MS=27
   ·rw[QK h27,QK h27]
    have:(ofF f).M0=f.M0.map toR:=by unfold ofF; rw[QL h0,QL QG,QL QG,QL QG,QK h27]
    rw[this]
    show (kt (f.M0.map toR) f.MI.MR).bind _= _
    rw[Gy f.MI.MR f.M0 (by have:=h.ml; omega) (fun m hm=>⟨by have:=kX m.MF; have:=h.mt m hm; omega,fun t ht=>hb (h.mt m hm) ht⟩)]
    rfl
   ·rw[QL h27,QL h27]
    show (kr f.MI.MS f.MI.MR (ofF f).Nd).bind _= _
    by_cases h22:f.MI.MS=22
    ·have:(ofF f).Nd=gB f.M6:=by unfold ofF; rw[QL h0,QK h22]
     rw[this,ve _ _ hv _ (fun h=>absurd h22 h) (NX _) (fun t ht=>absurd ht List.not_mem_nil),QK h22]
     unfold chkR
     rw[QK h22]
     rfl
    ·rw[QL h22]
     by_cases h24:f.MI.MS=24
     ·have:(ofF f).Nd=gA f.M9:=by unfold ofF; rw[QL h0,QL h22,QK h24]
      rw[this,ve _ _ hv _ (fun _=>rfl) (FK h).2 (fun t ht=>hb h.ts ht),QK h24]
      unfold chkR
      rw[QL h22,QK h24]
      rfl
     ·have h26:f.MI.MS=26:=by omega
      have:(ofF f).Nd=gE f.M8:=by unfold ofF; rw[QL h0,QL h22,QL h24,QK h26]
      rw[this,ve _ _ hv _ (fun _=>rfl) (NX _) (fun t ht=>absurd ht List.not_mem_nil),QL h24]
      unfold chkR
      rw[QL h22,QL h24]
      rfl
 ·rw[QL hc,QL hc]
end Go.Proofs.YtheikonlgjdopaaGreat.Sl
