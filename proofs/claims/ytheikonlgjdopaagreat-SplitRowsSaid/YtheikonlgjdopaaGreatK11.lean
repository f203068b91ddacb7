/- splitRows_holds: part 11. -/
import Derived.Test.YtheikonlgjdopaaGreatK10
set_option maxRecDepth 100000
set_option maxHeartbeats 4000000
set_option linter.defProp false
namespace Go.Proofs.YtheikonlgjdopaaGreat.Sl
open Go.RowKit
set_option linter.unusedVariables false
set_option linter.unusedSimpArgs false
def OZ := @Tryz.runUnderlying60
def P1 := @Tryz.runUnderlying149
def QQ := @Tryz.results76
def ow:List Bat->List Bat->Bool
 | x::l,y::m=>yw x y && ow l m
 | _,_=>true
def qsP (p q:aY):Bool:=decide (p.M8=q.M8/\p.MW.length=q.MW.length) && ow p.MW q.MW
def Ez:List aY->List aY->Bool
 | x::l,y::m=>qsP x y && Ez l m
 | _,_=>true
def qsT (t u:aJ):Bool:=decide (t.MV=u.MV/\t.MP.length=u.MP.length) && Ez t.MP u.MP
def EA:List aJ->List aJ->Bool
 | x::l,y::m=>qsT x y && EA l m
 | _,_=>true
def CU (a b:aA):Bool:=decide (a.MU.null=b.MU.null/\a.MU.data=b.MU.data/\a.Nc=b.Nc/\a.MT=b.MT/\a.MN.length=b.MN.length) && EA a.MN b.MN
theorem v9: ∀ l:List Bat,ow l l=true
 | []=>rfl
 | x::l=>by rw[ow,Ew,v9 l]; rfl
theorem Aq: ∀ l:List aY,Ez l l=true
 | []=>rfl
 | x::l=>by rw[Ez,qsP,v9,Aq l,NB ⟨rfl,rfl⟩]; rfl
theorem Ar: ∀ l:List aJ,EA l l=true
 | []=>rfl
 | x::l=>by rw[EA,qsT,Aq,Ar l,NB ⟨rfl,rfl⟩]; rfl
theorem yx (a:aA):CU a a=true:=by
 unfold CU;rw[Ar,NB ⟨rfl,rfl,rfl,rfl,rfl⟩]; rfl
def ofP (p:aY):jQ:=⟨p.M8,p.MW⟩
def ofT (t:aJ):dF:=⟨t.MV,t.MP.map ofP⟩
def ofQ (a:aA):bM:=⟨a.MU,a.Nc,a.MT,a.MN.map ofT⟩
theorem FE: ∀ (l:List aY) (acc:List jQ),(acc.length+l.length)*32<=140737488355328->iQ l acc=some (acc++l.map ofP)
 | [],acc,_=>by rw[List.map_nil,NW]; rfl
 | x::l,acc,h=>by
  rw[NJ] at h;rw[iQ,QX QR,FE l _ (by rw[NE,Or]; omega),NI];rfl
theorem FF: ∀ (l:List aJ) (acc:List dF),(acc.length+l.length)*40<=140737488355328->(∀ t,t∈l->t.MP.length*32<=140737488351232)->iR l acc=some (acc++l.map ofT)
 | [],acc,_,_=>by rw[List.map_nil,NW]; rfl
 | x::l,acc,h,hp=>by
  have hx:=hp x (.head _);rw[NJ] at h;rw[iR,FE x.MP [] (by rw[Of]; omega),NA,QX QR,FF l _ (by rw[NE,Or]; omega) (fun t ht=>hp t (.tail _ ht)),NI];rfl
def smBs (l:List Bat):Prop:= ∀ b,b∈l->smB b/\(body b).length<=12000
theorem At (a b:List Bat) (hn:a.length<=140737488351232) (y:Bool): ∀ (l m:List Bat) (k fuel:Nat),a.drop k=l->b.drop k=m->l.length=m.length->l.length<fuel->(∀ x,x∈l->bnB x)-> ∃ z,fC a b fuel y k=some (if ow l m=true then .go (y,z) else .ret false)
 | [],m,k,fuel+1,h1,h2,hl,hf,_=>by
  have:=dg h1;exact⟨k,by rw[fC,QY QR]; rfl⟩
 | x::l,v::m,k,fuel+1,h1,h2,hl,hf,hw=>by
  obtain⟨g1,g2,g3⟩:=cA h1;obtain⟨k1,k2,k3⟩:=cA h2;have hx:=hw x (.head _);rw[NJ] at hf;rw[NJ,NJ] at hl;obtain⟨z,hz⟩:=At a b hn y l m (k+1) fuel g2 k2 QR QR (fun u hu=>hw u (.tail _ hu));refine⟨z,?_⟩;rw[fC,QX QR,g1,NA,k1,NA,Jb hx.2.1 (fun z hz=>(hx.2.2 z hz).1),NA,ow,QX (show -9223372036854775808<=(k:Int)+1/\(k:Int)+1<=9223372036854775807 by omega),hz];cases yw x v <;> rfl
theorem Jd {a b:List Bat} (hn:a.length<=140737488351232) (hw: ∀ x,x∈a->bnB x):lc a b=some (decide (a.length=b.length) && ow a b):=by
 unfold lc;by_cases c:a.length=b.length
 ·obtain⟨z,hz⟩:=At a b hn false a b 0 (((a.length:Int)).toNat+1) rfl rfl c QR hw;rw[QX QR,hz,NB c,Bool.true_and];cases ow a b <;> rfl
 ·rw[QY QR,NC c];rfl
def bnT (t:aJ):Prop:=t.MP.length<=140737488351232/\ ∀ p,p∈t.MP->p.MW.length<=140737488351232/\ ∀ b,b∈p.MW->bnB b
theorem FG (t u:aJ) (hn:t.MP.length<=140737488351232) (y:Bool): ∀ (l m:List aY) (k fuel:Nat),t.MP.drop k=l->u.MP.drop k=m->l.length=m.length->l.length<fuel->(∀ p,p∈l->p.MW.length<=140737488351232/\ ∀ b,b∈p.MW->bnB b)-> ∃ z,eR (ofT t) (ofT u) fuel y k=some (if Ez l m=true then .go (y,z) else .ret false)
 | [],m,k,fuel+1,h1,h2,hl,hf,_=>by
  have:=dg h1;exact⟨k,by rw[eR,QY (by show ¬ (k:Int)<((t.MP.map ofP).length:Int); rw[NU]; omega)]; rfl⟩
 | x::l,v::m,k,fuel+1,h1,h2,hl,hf,hw=>by
  obtain⟨g1,g2,g3⟩:=cA h1;obtain⟨k1,k2,k3⟩:=cA h2;have hx:=hw x (.head _);rw[NJ] at hf;rw[NJ,NJ] at hl;obtain⟨z,hz⟩:=FG t u hn y l m (k+1) fuel g2 k2 QR QR (fun q hq=>hw q (.tail _ hq));refine⟨z,?_⟩;have e1:(ofT t).MP[k]? = some (ofP x):=by show (t.MP.map ofP)[k]? = _; rw[List.getElem?_map,g1]; rfl
  have e2:(ofT u).MP[k]? = some (ofP v):=by show (u.MP.map ofP)[k]? = _; rw[List.getElem?_map,k1]; rfl
  have e3:lc (ofP x).MW (ofP v).MW=some (decide (x.MW.length=v.MW.length) && ow x.MW v.MW):=Jd hx.1 hx.2;rw[eR,QX (by show (k:Int)<((t.MP.map ofP).length:Int); rw[NU]; omega),e1,NA,e2,NA,e3,QX (show -9223372036854775808<=(k:Int)+1/\(k:Int)+1<=9223372036854775807 by omega),hz,Ez,qsP];show ((if x.M8=v.M8 then _ else some true).bind _)= _;by_cases c1:x.M8=v.M8
  ·rw[QX c1,NA];by_cases c2:x.MW.length=v.MW.length
   ·rw[NB c2,NB (⟨c1,c2⟩:x.M8=v.M8/\x.MW.length=v.MW.length)];cases ow x.MW v.MW <;> rfl
   ·rw[NC c2,NC (fun h:x.M8=v.M8/\x.MW.length=v.MW.length=>c2 h.2)];rfl
  ·rw[QY c1,NC (fun h:x.M8=v.M8/\x.MW.length=v.MW.length=>c1 h.1)];rfl
theorem FH (a b:aA) (hn:a.MN.length<=140737488351232) (y:Bool): ∀ (l m:List aJ) (k fuel:Nat),a.MN.drop k=l->b.MN.drop k=m->l.length=m.length->l.length<fuel->(∀ t,t∈l->bnT t)-> ∃ z,eS (ofQ a) (ofQ b) fuel y k=some (if EA l m=true then .go (y,z) else .ret false)
 | [],m,k,fuel+1,h1,h2,hl,hf,_=>by
  have:=dg h1;exact⟨k,by rw[eS,QY (by show ¬ (k:Int)<((a.MN.map ofT).length:Int); rw[NU]; omega)]; rfl⟩
 | x::l,v::m,k,fuel+1,h1,h2,hl,hf,hw=>by
  obtain⟨g1,g2,g3⟩:=cA h1;obtain⟨k1,k2,k3⟩:=cA h2;have hx:=hw x (.head _);rw[NJ] at hf;rw[NJ,NJ] at hl;obtain⟨z,hz⟩:=FH a b hn y l m (k+1) fuel g2 k2 QR QR (fun q hq=>hw q (.tail _ hq));refine⟨z,?_⟩;have e1:(ofQ a).MN[k]? = some (ofT x):=by show (a.MN.map ofT)[k]? = _; rw[List.getElem?_map,g1]; rfl
  have e2:(ofQ b).MN[k]? = some (ofT v):=by show (b.MN.map ofT)[k]? = _; rw[List.getElem?_map,k1]; rfl
  have e4:(ofT x).MP.length=x.MP.length:=NU _;have e5:(ofT v).MP.length=v.MP.length:=NU _;rw[eS,QX (by show (k:Int)<((a.MN.map ofT).length:Int); rw[NU]; omega),e1,NA,e2,NA,e4,e5,EA,qsT];show ((if x.MV=v.MV then _ else some true).bind _)= _;by_cases c1:x.MV=v.MV
  ·rw[QX c1];by_cases c2:x.MP.length=v.MP.length
   ·obtain⟨z2,hz2⟩:=FG x v hx.1 y x.MP v.MP 0 (((x.MP.length:Int)).toNat+1) rfl rfl c2 QR hx.2;rw[QX QR,NA,QY QS,hz2,NB (⟨c1,c2⟩:x.MV=v.MV/\x.MP.length=v.MP.length),Bool.true_and];cases Ez x.MP v.MP
    ·rfl
    ·rw[QX rfl,NA];dsimp only;rw[QX (show -9223372036854775808<=(k:Int)+1/\(k:Int)+1<=9223372036854775807 by omega),hz];rfl
   ·rw[QY QR,NA,QX rfl,NC (fun h:x.MV=v.MV/\x.MP.length=v.MP.length=>c2 h.2)];rfl
  ·rw[QY c1,NA,QX rfl,NC (fun h:x.MV=v.MV/\x.MP.length=v.MP.length=>c1 h.1)];rfl
theorem Je {a b:aA} (hn:a.MN.length<=140737488351232) (hw: ∀ t,t∈a.MN->bnT t):iX (ofQ a) (ofQ b)=some (CU a b):=by
 have e4:(ofQ a).MN.length=a.MN.length:=NU _;have e5:(ofQ b).MN.length=b.MN.length:=NU _;unfold iX CU;rw[e4,e5];show ((if a.MU.null=b.MU.null then (if a.MU.data=b.MU.data then (if a.Nc=b.Nc then (if a.MT=b.MT then _ else some true) else some true) else some true) else some true).bind _)= _;by_cases c1:a.MU.null=b.MU.null;rotate_left
 ·rw[QY c1,NA,QX rfl,NC (fun h=>c1 h.1)]; rfl
 by_cases c2:a.MU.data=b.MU.data;rotate_left
 ·rw[QX c1,QY c2,NA,QX rfl,NC (fun h=>c2 h.2.1)]; rfl
 by_cases c3:a.Nc=b.Nc;rotate_left
 ·rw[QX c1,QX c2,QY c3,NA,QX rfl,NC (fun h=>c3 h.2.2.1)]; rfl
 by_cases c4:a.MT=b.MT;rotate_left
 ·rw[QX c1,QX c2,QX c3,QY c4,NA,QX rfl,NC (fun h=>c4 h.2.2.2.1)]; rfl
 by_cases c5:a.MN.length=b.MN.length;rotate_left
 ·rw[QX c1,QX c2,QX c3,QX c4,QY QR,NA,QX rfl,NC (fun h=>c5 h.2.2.2.2)]; rfl
 obtain⟨z,hz⟩:=FH a b hn false a.MN b.MN 0 (((a.MN.length:Int)).toNat+1) rfl rfl c5 QR hw;rw[QX c1,QX c2,QX c3,QX c4,QX QR,NA,QY QS,hz,NB ⟨c1,c2,c3,c4,c5⟩,Bool.true_and];cases EA a.MN b.MN <;> rfl
theorem CV (y:Int): ∀ l:List Bat,(∀ b,b∈l->ot b)->ga l y=some (.ret 0)\/(ga l y=some (.go y)/\smBs l)
 | [],_=> .inr ⟨rfl,fun x h=>nomatch h⟩
 | x::l,h=>by
  rw[ga];rcases Kx x (h x (.head _)) with g | ⟨g,g1,g2⟩
  ·rw[g];exact .inl rfl
  ·rw[g,NA,QY QS];rcases CV y l (fun z hz=>h z (.tail _ hz)) with k | ⟨k,k2⟩
   ·exact .inl k
   ·refine .inr ⟨k,fun z hz=> ?_⟩;rcases List.mem_cons.1 hz with rfl | hz
    ·exact GW (h _ (.head _)) g1 g2
    ·exact k2 z hz
def nP (n:Int) (p:aY):Int:=IntKind.i64.wrap (n+IntKind.i64.wrap (10+IntKind.i64.wrap (100*(p.MW.length:Int))))
def nPs:Int->List aY->Int
 | n,[]=>n
 | n,p::l=>nPs (nP n p) l
def okFp:Int->List aY->Prop
 | _,[]=>True
 | n,p::l=>nP n p<=2000/\smBs p.MW/\okFp (nP n p) l
theorem CW (y:Int): ∀ (l:List aY) (n:Int),(∀ p,p∈l->nC p)->eP l y n=some (.ret 0)\/(eP l y n=some (.go (y,nPs n l))/\okFp n l)
 | [],n,_=> .inr ⟨rfl,trivial⟩
 | p::l,n,h=>by
  rw[eP];show (if nP n p>2000 then _ else _)= _\/(if nP n p>2000 then _ else _)= _/\ _;by_cases hc:nP n p>2000
  ·rw[QX hc];exact .inl rfl
  rw[QY hc];rcases CV y p.MW (h p (.head _)).2.2 with g | ⟨g,g2⟩
  ·rw[g];exact .inl rfl
  ·rw[g,NA];rcases CW y l (nP n p) (fun q hq=>h q (.tail _ hq)) with k | ⟨k,k2⟩
   ·exact .inl k
   ·exact .inr ⟨k,by omega,g2,k2⟩
def nT (n:Int) (t:aJ):Int:=IntKind.i64.wrap (n+IntKind.i64.wrap ((t.MV.length:Int)+10))
def nTs:Int->List aJ->Int
 | n,[]=>n
 | n,t::l=>nTs (nPs (nT n t) t.MP) l
def CX:Int->List aJ->Prop
 | _,[]=>True
 | n,t::l=>okFp (nT n t) t.MP/\CX (nPs (nT n t) t.MP) l
theorem CY (y:Int): ∀ (l:List aJ) (n:Int),(∀ t,t∈l->mh t)->gb l y n=some (.ret 0)\/(gb l y n=some (.go (y,nTs n l))/\CX n l)
 | [],n,_=> .inr ⟨rfl,trivial⟩
 | t::l,n,h=>by
  rw[gb];show ((eP t.MP y (nT n t)).bind _)= _\/((eP t.MP y (nT n t)).bind _)= _/\ _;rcases CW y t.MP (nT n t) (h t (.head _)).2.2 with g | ⟨g,g2⟩
  ·rw[g];exact .inl rfl
  ·rw[g,NA];rcases CY y l (nPs (nT n t) t.MP) (fun q hq=>h q (.tail _ hq)) with k | ⟨k,k2⟩
   ·exact .inl k
   ·exact .inr ⟨k,g2,k2⟩
theorem q_few {a:aA} (hw:gt a):mM a=some 0\/(mM a=some 1/\CX (a.MU.data.length:Int) a.MN/\nTs (a.MU.data.length:Int) a.MN<=2000):=by
 unfold mM;rcases CY 0 a.MN (a.MU.data.length:Int) hw.2.2.2.2 with g | ⟨g,g2⟩
 ·rw[g];exact .inl rfl
 ·rw[g,NA];dsimp only;by_cases hc:nTs (a.MU.data.length:Int) a.MN>2000
  ·rw[QX hc];exact .inl rfl
  ·rw[QY hc];exact .inr ⟨rfl,g2,by omega⟩
theorem CZ: ∀ {l:List aY} {n:Int},okFp n l-> ∀ p,p∈l->smBs p.MW
 | q::l,n,h,p,hp=>by
  rcases List.mem_cons.1 hp with rfl | hp
  ·exact h.2.1
  ·exact CZ h.2.2 p hp
theorem tX: ∀ {l:List aJ} {n:Int},CX n l-> ∀ t,t∈l-> ∀ p,p∈t.MP->smBs p.MW
 | u::l,n,h,t,ht=>by
  rcases List.mem_cons.1 ht with rfl | ht
  ·exact CZ h.1
  ·exact tX h.2 t ht
theorem yy (a b:List UInt8) (ha:a.length<=140737488355328) (y:Bool): ∀ (u v:List UInt8) (k fuel:Nat),a.drop k=u->b.drop k=v->v.length<fuel->k<=a.length->k<=b.length->(∃ r,cF a b fuel y k=some (.ret r)/\r=Op.bytesLess u v)\/(∃ z,cF a b fuel y k=some (.go z)/\Op.bytesLess u v=decide (a.length<b.length))
 | [],v,k,fuel+1,hu,hv,hf,h1,h2=>by
  have:=fg hu;right;refine⟨(y,k),by rw[cF,QY QR],?_⟩
  cases v with
  | nil =>
   have:=fg hv;simp[Op.bytesLess];omega
  | cons c v =>
   have:=(dp hv).2.2;simp[Op.bytesLess];omega
 | c::u,[],k,fuel+1,hu,hv,hf,h1,h2=>by
  have g1:=fg hv;have g2:=(dp hu).2.2;right;refine⟨(y,k),by rw[cF,QX QR,QY QR],?_⟩;simp[Op.bytesLess];omega
 | c::u,d::v,k,fuel+1,hu,hv,hf,h1,h2=>by
  obtain⟨u1,u2,u3⟩:=dp hu;obtain⟨v1,v2,v3⟩:=dp hv;rw[NJ] at hf;rw[cF,QX QR,QX QR,u1,v1];simp only[NA];by_cases hc:(c.toNat:Int)=(d.toNat:Int)
  ·have hcd:c=d:=UInt8.toNat_inj.1 QR;rw[QX hc,QX QR];have:=yy a b ha y u v (k+1) fuel u2 v2 QR QR QR;have hb:Op.bytesLess (c::u) (d::v)=Op.bytesLess u v:=by
    rw[hcd];simp[Op.bytesLess]
   rw[hb];exact this
  ·rw[QY hc];left;have hcd:c≠d:=fun h=>hc (by rw[h]);by_cases hl:(c.toNat:Int)<(d.toNat:Int)
   ·refine⟨true,by rw[QX hl],?_⟩;have:c<d:=UInt8.lt_iff_toNat_lt.2 QR;simp[Op.bytesLess,this]
   ·refine⟨false,by rw[QY hl],?_⟩;have: ¬ c<d:=fun h=>hl (by have:=UInt8.lt_iff_toNat_lt.1 h; omega);simp[Op.bytesLess,this,hcd]
theorem Jf (a b:List UInt8) (ha:a.length<=140737488355328):iV a b=some (Op.bytesLess a b):=by
 unfold iV;rcases yy a b ha false a b 0 (((b.length:Int)).toNat+1) rfl rfl QR (NY _) (NY _) with⟨r,h1,h2⟩ | ⟨z,h1,h2⟩
 ·rw[show ((0:Nat))=0 from rfl] at h1;rw[h1,h2];rfl
 ·rw[h1,h2];simp only[NA];by_cases h:a.length<b.length
  ·rw[QX QR];simp[h]
  ·rw[QY QR];simp[h]
theorem C0 (x:Top) (hb:x.MP.length<=140737488355328) (y:Bool): ∀ (t:List Int) (p:Option Int) (k fuel:Nat),x.MP.drop k=t->t.length<fuel->(k=0->p=none)->(0<k->x.MP[k - 1]? = p/\p≠none)-> ∃ z,cG x fuel y k=some (if (t.all okn && up ltI p t)=true then .go (y,z) else .ret false)
 | [],p,k,fuel+1,h,hf,h0,h1=>by
  have:=fg h;refine⟨k,?_⟩;rw[cG,QY QR];cases p <;> rfl
 | n::t,p,k,fuel+1,h,hf,h0,h1=>by
  obtain⟨g1,g2,g3⟩:=dp h;rw[NJ] at hf;obtain⟨z,hz⟩:=C0 x hb y t (some n) (k+1) fuel g2 QR (fun h=>absurd h QR) (fun _=>⟨g1,by simp⟩);rw[cG,QX QR,g1];simp only[NA];rw[List.all_cons];by_cases c1:n<0
  ·refine⟨0,?_⟩;rw[QX c1,QY];simp only[okn,Bool.and_eq_true,decide_eq_true_eq];omega
  by_cases c2:n>2147483647
  ·refine⟨0,?_⟩;rw[QY c1,QX c2,QY];simp only[okn,Bool.and_eq_true,decide_eq_true_eq];omega
  rw[QY c1,QY c2];have ho:okn n=true:=by simp only[okn,Bool.and_eq_true,decide_eq_true_eq]; omega
  rcases Nat.eq_zero_or_pos k with hk | hk
  ·obtain rfl:=h0 hk;refine⟨z,?_⟩;rw[QY QR,QX QR,hz,ho,Bool.true_and,show up ltI none (n::t)=up ltI (some n) t from rfl]
  ·obtain⟨e1,e2⟩:=h1 hk;rw[QX QR,QX QR,QX QR,show ((k:Int) - 1).toNat=k - 1 by omega,e1]
   cases p with
   | none=>exact absurd rfl e2
   | some q =>
    simp only[NA];by_cases hc:q<n
    ·refine⟨z,?_⟩;rw[QY QR,QX QR,hz,ho,Bool.true_and];simp only[up,ltI,hc,decide_true,Bool.true_and]
    ·refine⟨0,?_⟩;rw[QX QR,QY];simp only[up,ltI,hc,decide_false,Bool.false_and,Bool.and_false,Bool.false_eq_true,not_false_eq_true]
theorem C1 (a0:List Top) (hb:a0.length<=140737488355328) (hw: ∀ t,t∈a0->t.MP.length<=140737488355328/\t.MV.length<=140737488355328) (y:Bool): ∀ (t:List Top) (p:Option Top) (k fuel:Nat),a0.drop k=t->t.length<fuel->(k=0->p=none)->(0<k->a0[k - 1]? = p/\p≠none)-> ∃ z,cQ a0 fuel y k=some (if (t.all lV && up Op.bytesLess (p.map (·.MV)) (t.map (·.MV)))=true then .go (y,z) else .ret false)
 | [],p,k,fuel+1,h,hf,h0,h1=>by
  have:=fg h;refine⟨k,?_⟩;rw[cQ,QY QR];cases p <;> rfl
 | x::t,p,k,fuel+1,h,hf,h0,h1=>by
  obtain⟨g1,g2,g3⟩:=dp h;have hx:=hw x (List.mem_of_getElem? g1);rw[NJ] at hf;obtain⟨z,hz⟩:=C1 a0 hb hw y t (some x) (k+1) fuel g2 QR (fun h=>absurd h QR) (fun _=>⟨g1,by simp⟩);rw[cQ,QX QR,g1,NA];rw[List.all_cons,List.map_cons];by_cases c1:(x.MV.length:Int)<1
  ·refine⟨0,?_⟩;have:x.MV = []:=List.length_eq_zero_iff.1 QR;rw[QX c1,QY];simp[lV,this]
  by_cases c2:(x.MV.length:Int)>32767
  ·refine⟨0,?_⟩;rw[QY c1,QX c2,QY];simp[lV,show ¬ x.MV.length<=32767 by omega]
  by_cases c3:(x.MP.length:Int)<1
  ·refine⟨0,?_⟩;have:x.MP = []:=List.length_eq_zero_iff.1 QR;rw[QY c1,QY c2,QX c3,QY];simp[lV,xT,this]
  rw[QY c1,QY c2,QY c3];have hne:x.MV.isEmpty=false:=by cases hh:x.MV with | nil=>rw[hh] at c1; simp at c1 | cons c u=>rfl
  have hnp:x.MP.isEmpty=false:=by cases hh:x.MP with | nil=>rw[hh] at c3; simp at c3 | cons c u=>rfl
  have ho:lV x=(x.MP.all okn && up ltI none x.MP):=by
   simp[lV,xT,hne,hnp,show x.MV.length<=32767 by omega]
  obtain⟨z2,hz2⟩:=C0 x hx.1 y x.MP none 0 (((x.MP.length:Int)).toNat+1) rfl QR (fun _=>rfl) (fun h=>absurd h QR);rw[ho];rcases Nat.eq_zero_or_pos k with hk | hk
  ·obtain rfl:=h0 hk;rw[QY QR,Bk,hz2]
   cases hq:(x.MP.all okn && up ltI none x.MP) with
   | false=>exact⟨0,by simp⟩
   | true =>
    refine⟨z,?_⟩;rw[QX rfl,NA,Bool.true_and];simp only;rw[QX QR,hz,show (none:Option Top).map (·.MV)=none from rfl,show up Op.bytesLess none (x.MV::t.map (·.MV))=up Op.bytesLess (some x.MV) (t.map (·.MV)) from rfl];rfl
  ·obtain⟨e1,e2⟩:=h1 hk;rw[QX QR,QX QR,QX QR,show ((k:Int) - 1).toNat=k - 1 by omega,e1]
   cases p with
   | none=>exact absurd rfl e2
   | some q =>
    rw[NA];rw[Jf _ _ (hw q (List.mem_of_getElem? e1)).2];rw[NA,show (some q).map (·.MV)=some q.MV from rfl,show up Op.bytesLess (some q.MV) (x.MV::t.map (·.MV))=(Op.bytesLess q.MV x.MV && up Op.bytesLess (some x.MV) (t.map (·.MV))) from rfl]
    cases hc:Op.bytesLess q.MV x.MV with
    | false=>exact⟨0,by simp⟩
    | true =>
     rw[QX rfl,hz2]
     cases hq:(x.MP.all okn && up ltI none x.MP) with
     | false=>exact⟨0,by simp⟩
     | true =>
      refine⟨z,?_⟩;rw[QX rfl,NA,Bool.true_and];simp only;rw[QX QR,hz];rfl
theorem Jg (a0:List Top) (hb:a0.length<=140737488355328) (hw: ∀ t,t∈a0->t.MP.length<=140737488355328/\t.MV.length<=140737488355328):ig a0=some (pz a0):=by
 unfold ig pz;obtain⟨z,hz⟩:=C1 a0 hb hw false a0 none 0 (((a0.length:Int)).toNat+1) rfl QR (fun _=>rfl) (fun h=>absurd h QR);rw[show (none:Option Top).map (·.MV)=none from rfl] at hz;rw[hz];cases (a0.all lV && up Op.bytesLess none (a0.map (·.MV))) <;> rfl
def gdP (p:aY):Prop:=wI p.M8/\p.MW.length<=140737488351232/\ ∀ b,b∈p.MW->bnB b
def gdT (t:aJ):Prop:=t.MV.length<=140737488351232/\t.MP.length*32<=140737488351232/\ ∀ p,p∈t.MP->gdP p
def gdQ (r:aA):Prop:=wI r.MT/\r.MN.length*40<=140737488351232/\ ∀ t,t∈r.MN->gdT t
def gK (nul:Bool):List Bat->Int
 | []=>0
 | b::l=>if chk b=0 then (if b.Nl=true then 12 else if b.Ni=nul then 8 else gK nul l) else chk b
def o5 (v:Int) (nul:Bool) (l:List Bat):Int:=if l.length=0\/(v<4/\1<l.length) then 10 else gK nul l
theorem Jh (r:aA) (y:Int): ∀ l:List Bat,(∀ b,b∈l->bnB b)->cc r l y=some (if gK r.MU.null l=0 then .go y else .ret (gK r.MU.null l))
 | [],_=>rfl
 | b::l,h=>by
  rw[cc,(Eu (h b (.head _))).1,NA,gK,Jh r y l (fun x hx=>h x (.tail _ hx))];by_cases c1:chk b=0
  ·rw[QX c1,QX c1];by_cases c2:b.Nl=true
   ·rw[QX c2,QX c2]; rfl
   ·rw[QY c2,QY c2];by_cases c3:b.Ni=r.MU.null
    ·rw[QX (by rw[c3]; exact beq_self_eq_true _),QX c3]; rfl
    ·rw[QY (by simpa using c3),QY c3]
  ·rw[QY c1,QY c1,QY c1]
theorem Ji (r:aA) (l:List Bat) (v:Int) (h: ∀ b,b∈l->bnB b):dZ r l v=some (o5 v r.MU.null l):=by
 unfold dZ o5;by_cases c0:l.length=0
 ·rw[QX QR,NA,QX rfl,QX (.inl c0)]
 rw[QY QR];by_cases c1:v<4
 ·rw[QX c1];by_cases c2:1<l.length
  ·rw[QX QR,NA,QX rfl,QX (.inr ⟨c1,c2⟩)]
  ·rw[QY QR,NA,QY QS,Jh r 0 l h,QY (show ¬ (l.length=0\/(v<4/\1<l.length)) from fun hh=>by rcases hh with hh | hh; exact c0 hh; exact c2 hh.2)];by_cases c3:gK r.MU.null l=0
   ·rw[QX c3,c3]; rfl
   ·rw[QY c3]; rfl
 ·rw[QY c1,NA,QY QS,Jh r 0 l h,QY (show ¬ (l.length=0\/(v<4/\1<l.length)) from fun hh=>by rcases hh with hh | hh; exact c0 hh; exact c1 hh.1)];by_cases c3:gK r.MU.null l=0
  ·rw[QX c3,c3]; rfl
  ·rw[QY c3]; rfl
theorem FI (a:List Bat) (nul:Bool) (hn:a.length<=140737488351232) (y:Int): ∀ (l:List Bat) (k fuel:Nat),a.drop k=l->l.length<fuel->(∀ b,b∈l->bnB b)-> ∃ z,eg a (!nul) fuel y k=some (if gK nul l=0 then .go (y,z) else .ret (gK nul l))
 | [],k,fuel+1,h,hf,_=>by
  have:=dg h;exact⟨k,by rw[eg,QY QR]; rfl⟩
 | b::l,k,fuel+1,h,hf,hw=>by
  obtain⟨g1,g2,g3⟩:=cA h;rw[NJ] at hf;obtain⟨z,hz⟩:=FI a nul hn y l (k+1) fuel g2 QR (fun x hx=>hw x (.tail _ hx));refine⟨z,?_⟩;rw[eg,QX QR,g1,NA,(Eu (hw b (.head _))).2,NA,gK,QX (show -9223372036854775808<=(k:Int)+1/\(k:Int)+1<=9223372036854775807 by omega),hz];by_cases c1:chk b=0
  ·rw[QX c1,QX c1];by_cases c2:b.Nl=true
   ·rw[QX c2,QX c2]; rfl
   ·rw[QY c2,QY c2];by_cases c3:b.Ni=nul
    ·rw[QY (by rw[c3]; cases nul <;> decide),QX c3]; rfl
    ·rw[QX (by cases hb:b.Ni <;> cases nul <;> simp_all),QY c3]
  ·rw[QY c1,QY c1,QY c1]
theorem C2 (l:List Bat) (nul:Bool) (v:Int) (hv:v=3\/v=4) (hn:l.length<=140737488351232) (h: ∀ b,b∈l->bnB b):fF l (!nul) v=some (o5 v nul l):=by
 obtain⟨z,hz⟩:=FI l nul hn 0 l 0 (((l.length:Int)).toNat+1) rfl QR h;have hend:((some (if gK nul l=0 then (.go (0,z):Lp Int (Int×Nat)) else .ret (gK nul l))).bind fun e=>match e with | .ret r=>some r | .go (y33,k34)=>(some 0:Option Int))=some (gK nul l):=by
  by_cases c3:gK nul l=0
  ·rw[QX c3,c3]; rfl
  ·rw[QY c3]; rfl
 unfold fF o5;by_cases c0:l.length=0
 ·rw[QX QR,NA,QX rfl,QX (.inl c0)]
 rw[QY QR];rcases hv with rfl | rfl
 ·rw[QX rfl];by_cases c2:1<l.length
  ·rw[QX QR,NA,QX rfl,QX (.inr ⟨by decide,c2⟩)]
  ·rw[QY QR,NA,QY QS,hz,QY (show ¬ (l.length=0\/((3:Int)<4/\1<l.length)) from fun hh=>by rcases hh with hh | hh; exact c0 hh; exact c2 hh.2)];exact hend
 ·rw[QY QS,NA,QY QS,hz,QY (show ¬ (l.length=0\/((4:Int)<4/\1<l.length)) from fun hh=>by rcases hh with hh | hh; exact c0 hh; exact absurd hh.1 QS)];exact hend
def yz:Option Int->Int->Bool
 | none,_=>true
 | some q,n=>decide (q<n)
def rqP:Option Int->List aY->Bool
 | _,[]=>true
 | p,x::l=>okn x.M8 && yz p x.M8 && rqP (some x.M8) l
def vC:Option (List UInt8)->List UInt8->Bool
 | none,_=>true
 | some q,d=>Op.bytesLess q d
def sO (p:Option (List UInt8)) (t:aJ):Bool:= !t.MV.isEmpty && decide (t.MV.length<=32767) && vC p t.MV && rqP none t.MP
def rqT:Option (List UInt8)->List aJ->Int
 | _,[]=>0
 | p,t::l=>if t.MP.length=0 then 10 else if sO p t=true then rqT (some t.MV) l else 13
def qW (l:List aJ):Int:=if l.length=0 then 10 else rqT none l
theorem C3 (t:aJ) (hn:t.MP.length<=140737488351232) (y:Int): ∀ (l:List aY) (p:Option Int) (k:Nat),t.MP.drop k=l->(∀ q,q∈l->wI q.M8)->(k=0->p=none)->(0<k-> ∃ u,t.MP[k - 1]? = some u/\p=some u.M8)->dO t l y k=some (if rqP p l=true then .go y else .ret 13)
 | [],p,k,_,_,_,_=>rfl
 | x::l,p,k,h,hw,h0,h1=>by
  obtain⟨g1,g2,g3⟩:=cA h;have hx:=hw x (.head _);have ih:=C3 t hn y l (some x.M8) (k+1) g2 (fun q hq=>hw q (.tail _ hq)) (fun h=>absurd h QR) (fun _=>⟨x,g1,rfl⟩);rw[dO,gL _ _ hx,NA,eU,rqP];by_cases c1:x.M8<0
  ·have:okn x.M8=false:=by unfold okn; simp; omega
   rw[QX c1,NA,QX rfl,this]; rfl
  rw[QY c1];by_cases c2:x.M8<=2147483647;rotate_left
  ·have:okn x.M8=false:=by unfold okn; simp; omega
   rw[QY (by simp; omega),NA,QX rfl,this]; rfl
  have hok:okn x.M8=true:=by unfold okn; simp; omega
  rw[QX (by simp; omega),hok];rcases Nat.eq_zero_or_pos k with hk | hk
  ·rw[h0 hk,QY QR,NA,QY QS,ih]; rfl
  ·obtain⟨u,u1,rfl⟩:=h1 hk;rw[QX QR,QX QR,QX QR,show ((k:Int) - 1).toNat=k - 1 by omega,u1,NA];by_cases c3:u.M8<x.M8
   ·rw[QY QR,NA,QY QS,ih];rw[yz,NB c3]; rfl
   ·rw[QX QR,NA,QX rfl];rw[yz,NC c3]; rfl
theorem C4 (a:List aJ) (y:Int): ∀ (l:List aJ) (p:Option (List UInt8)) (k:Nat),a.drop k=l->a.length<=140737488351232->(∀ t,t∈l->gdT t)->(k=0->p=none)->(0<k-> ∃ u,a[k - 1]? = some u/\p=some u.MV)->cT a l y k=some (if rqT p l=0 then .go y else .ret (rqT p l))
 | [],p,k,_,_,_,_,_=>rfl
 | t::l,p,k,h,hn,hw,h0,h1=>by
  obtain⟨g1,g2,g3⟩:=cA h;have ht:=hw t (.head _);have ih:=C4 a y l (some t.MV) (k+1) g2 hn (fun q hq=>hw q (.tail _ hq)) (fun h=>absurd h QR) (fun _=>⟨t,g1,rfl⟩);rw[cT,rqT];by_cases c0:t.MP.length=0
  ·rw[QX QR,QX c0]; rfl
  rw[QY QR,QY c0];have hl3:=C3 t (by have:=ht.2.1; omega) y t.MP none 0 rfl (fun q hq=>(ht.2.2 q hq).1) (fun _=>rfl) (fun h=>absurd h QR);rw[hl3];have bad: ∀ {b:Bool},sO p t=false->b=true->((some b).bind fun y143=>if y143=true then some (Lp.ret 13:Lp Int Int) else ((some (if rqP none t.MP=true then (.go y:Lp Int Int) else .ret 13)).bind fun e=>match e with | .ret r=>some (Lp.ret r) | .go y237=>(cT a l y237 (k+1))))=some (if (if sO p t=true then rqT (some t.MV) l else 13)=0 then .go y else .ret (if sO p t=true then rqT (some t.MV) l else 13)):=by
   intro b hb hb2;rw[hb2,NA,QX rfl,hb]; rfl
  have good: ∀ {b:Bool},(!t.MV.isEmpty && decide (t.MV.length<=32767) && vC p t.MV)=true->b=false->((some b).bind fun y143=>if y143=true then some (Lp.ret 13:Lp Int Int) else ((some (if rqP none t.MP=true then (.go y:Lp Int Int) else .ret 13)).bind fun e=>match e with | .ret r=>some (Lp.ret r) | .go y237=>(cT a l y237 (k+1))))=some (if (if sO p t=true then rqT (some t.MV) l else 13)=0 then .go y else .ret (if sO p t=true then rqT (some t.MV) l else 13)):=by
   intro b hb hb2;rw[hb2,NA,QY QS,NA];unfold sO;rw[hb,Bool.true_and];cases rqP none t.MP
   ·rfl
   ·exact ih
  by_cases c1:t.MV = []
  ·rw[QX c1];exact bad (by unfold sO; rw[c1]; rfl) rfl
  rw[QY c1];have hne:t.MV.isEmpty=false:=by cases hh:t.MV with | nil=>exact absurd hh c1 | cons c u=>rfl
  by_cases c2:(t.MV.length:Int)>32767
  ·rw[QX c2];exact bad (by unfold sO; rw[NC QR]; simp) rfl
  rw[QY c2];rcases Nat.eq_zero_or_pos k with hk | hk
  ·rw[QY QR];exact good (by rw[h0 hk,hne,NB QR]; rfl) rfl
  ·obtain⟨u,u1,rfl⟩:=h1 hk;rw[QX QR,QX QR,QX QR,show ((k:Int) - 1).toNat=k - 1 by omega,u1,NA];by_cases c3:Op.bytesLess u.MV t.MV=true
   ·rw[QX c3];exact good (by rw[hne,NB QR]; exact c3) rfl
   ·rw[QY c3];exact bad (by unfold sO vC; simp only[c3]; simp) rfl
theorem Jj (l:List aJ) (hn:l.length<=140737488351232) (hw: ∀ t,t∈l->gdT t):je l=some (qW l):=by
 unfold je qW;by_cases c0:l.length=0
 ·rw[QX QR,QX c0]
 ·rw[QY QR,QY c0,C4 l 0 l none 0 rfl hn hw (fun _=>rfl) (fun h=>absurd h QR)];by_cases c:rqT none l=0
  ·rw[QX c,c]; rfl
  ·rw[QY c]; rfl
def yA (t:aJ):Top:=⟨t.MV,t.MP.map (·.M8)⟩
theorem C5 (t:aJ) (hn:t.MP.length*8<=140737488351232): ∀ (l:List aY) (acc:List Int) (k fuel:Nat),t.MP.drop k=l->l.length<fuel->acc.length=k-> ∃ z,ey (ofT t) fuel k acc=some (z,acc++l.map (·.M8))
 | [],acc,k,fuel+1,h,hf,_=>by
  have:=dg h;exact⟨k,by rw[ey,QY (by show ¬ (k:Int)<((t.MP.map ofP).length:Int); rw[NU]; omega),List.map_nil,NW]⟩
 | x::l,acc,k,fuel+1,h,hf,hk=>by
  obtain⟨g1,g2,g3⟩:=cA h;rw[NJ] at hf;obtain⟨z,hz⟩:=C5 t hn l (acc ++ [x.M8]) (k+1) fuel g2 QR (by rw[NE,Or,hk]);have e1:(ofT t).MP[k]? = some (ofP x):=by show (t.MP.map ofP)[k]? = _; rw[List.getElem?_map,g1]; rfl
  refine⟨z,?_⟩;rw[ey,QX (by show (k:Int)<((t.MP.map ofP).length:Int); rw[NU]; omega),e1,NA,QX QR,QX QR];show ey (ofT t) fuel (k+1) (acc ++ [x.M8])= _;rw[hz,NI];rfl
theorem Jk (t:aJ) (hn:t.MP.length*8<=140737488351232):lL (ofT t)=some (yA t):=by
 have e4:(ofT t).MP.length=t.MP.length:=NU _;obtain⟨z,hz⟩:=C5 t hn t.MP [] 0 (((t.MP.length:Int)).toNat+1) rfl QR rfl;unfold lL;rw[e4,hz,NA,NV];rfl
theorem EB: ∀ (l:List aY) (p:Option Int),rqP p l=((l.map (·.M8)).all okn && up ltI p (l.map (·.M8)))
 | [],p=>by cases p <;> rfl
 | x::l,none=>by
  rw[rqP,EB l,List.map_cons,List.all_cons,up,yz];cases okn x.M8 <;> cases (l.map (·.M8)).all okn <;> rfl
 | x::l,some q=>by
  rw[rqP,EB l,List.map_cons,List.all_cons,up,yz,ltI];cases okn x.M8 <;> cases (l.map (·.M8)).all okn <;> cases decide (q<x.M8) <;> rfl
def sc:Option (List UInt8)->List (List UInt8)->Option (List UInt8)
 | p,[]=>p
 | _,x::l=>sc (some x) l
theorem BC: ∀ (l:List (List UInt8)) (p:Option (List UInt8)) (x:List UInt8),up Op.bytesLess p (l ++ [x])=(up Op.bytesLess p l && vC (sc p l) x)
 | [],none,x=>rfl
 | [],some q,x=>by show (Op.bytesLess q x && true)=(true && Op.bytesLess q x); rw[Bool.and_true,Bool.true_and]
 | y::l,none,x=>by
  show up Op.bytesLess (some y) (l ++ [x])= _;rw[BC l (some y) x]; rfl
 | y::l,some q,x=>by
  show (Op.bytesLess q y && up Op.bytesLess (some y) (l ++ [x]))= _;rw[BC l (some y) x,<- Bool.and_assoc]; rfl
theorem yB: ∀ (l:List (List UInt8)) (p:Option (List UInt8)) (x:List UInt8),sc p (l ++ [x])=some x
 | [],p,x=>rfl
 | y::l,p,x=>yB l (some y) x
theorem Au (l:List Top) (t:aJ) (h:pz l=true) (hp:t.MP.length≠0):pz (l ++ [yA t])=sO (sc none (l.map (·.MV))) t:=by
 have h2:l.all lV=true/\up Op.bytesLess none (l.map (·.MV))=true:=by simpa [pz] using h
 have h3:(t.MP.map (·.M8)).isEmpty=false:=by cases hh:t.MP with | nil=>exact absurd (by rw[hh]; rfl) hp | cons c u=>rfl
 unfold pz sO;rw[List.all_append,h2.1,List.map_append,List.map_singleton,BC,h2.2,EB];simp only[List.all_cons,List.all_nil,Bool.and_true,Bool.true_and,lV,xT];show (!t.MV.isEmpty && decide (t.MV.length<=32767) && ((t.MP.map (·.M8)).all okn && up ltI none (t.MP.map (·.M8)) && !(t.MP.map (·.M8)).isEmpty) && vC (sc none (l.map (·.MV))) t.MV)= _;rw[h3];cases t.MV.isEmpty <;> cases decide (t.MV.length<=32767) <;> cases vC (sc none (l.map (·.MV))) t.MV <;> cases (t.MP.map (·.M8)).all okn <;> cases up ltI none (t.MP.map (·.M8)) <;> rfl
theorem yC (a:List aJ) (hn:a.length*40<=140737488351232) (y:Int): ∀ (l:List aJ) (acc:List Top) (k fuel:Nat),a.drop k=l->l.length<fuel->acc.length=k->(∀ t,t∈l->gdT t)->(∀ t,t∈acc->t.MP.length<=140737488355328/\t.MV.length<=140737488355328)->pz acc=true-> ∃ z,fE (a.map ofT) fuel y acc k=some (if rqT (sc none (acc.map (·.MV))) l=0 then .go (y,z) else .ret (rqT (sc none (acc.map (·.MV))) l))
 | [],acc,k,fuel+1,h,hf,_,_,_,_=>by
  have:=dg h;exact⟨(acc,k),by rw[fE,QY (by rw[NU]; omega)]; rfl⟩
 | t::l,acc,k,fuel+1,h,hf,hk,hw,ha,ho=>by
  obtain⟨g1,g2,g3⟩:=cA h;obtain⟨t1,t2,t3⟩:=hw t (.head _);rw[NJ] at hf;have e1:(a.map ofT)[k]? = some (ofT t):=by rw[List.getElem?_map,g1]; rfl
  have e4:(ofT t).MP.length=t.MP.length:=NU _;rw[fE,QX (by rw[NU]; omega),e1,NA,e4,rqT];by_cases c0:t.MP.length=0
  ·rw[QX QR,QX c0];exact⟨(acc,k),rfl⟩
  have ha2: ∀ u,u∈acc ++ [yA t]->u.MP.length<=140737488355328/\u.MV.length<=140737488355328:=fun u hu=>by
   rcases List.mem_append.1 hu with hu | hu
   ·exact ha u hu
   ·rw[List.mem_singleton.1 hu];refine⟨?_,by show t.MV.length<= _; omega⟩;show (t.MP.map _).length<= _;rw[NU]; omega
  rw[QY QR,QY c0,Jk t QR,NA,QX QR,Jg _ (by rw[NE,Or]; omega) ha2,NA,Au acc t ho c0];by_cases c1:sO (sc none (acc.map (·.MV))) t=true
  ·obtain⟨z,hz⟩:=yC a hn y l (acc ++ [yA t]) (k+1) fuel g2 QR (by rw[NE,Or,hk]) (fun u hu=>hw u (.tail _ hu)) ha2 (by rw[Au acc t ho c0]; exact c1);have e5:sc none ((acc ++ [yA t]).map (·.MV))=some t.MV:=by rw[List.map_append,List.map_singleton,yB]; rfl
   rw[e5] at hz;exact⟨z,by rw[QX c1,QX c1,QX QR,hz]⟩
  ·exact⟨(acc,k),by rw[QY c1,QY c1]; rfl⟩
theorem EC (l:List aJ) (hn:l.length*40<=140737488351232) (hw: ∀ t,t∈l->gdT t):ld (l.map ofT)=some (qW l):=by
 unfold ld qW;rw[NU];by_cases c0:l.length=0
 ·rw[QX QR,QX c0]
 ·obtain⟨z,hz⟩:=yC l hn 0 l [] 0 (((l.length:Int)).toNat+1) rfl QR rfl hw (fun t h=>nomatch h) rfl;rw[QY QR,QY c0,hz];show ((some (if rqT none l=0 then _ else _)).bind _)= _;by_cases c:rqT none l=0
  ·rw[QX c,c]; rfl
  ·rw[QY c]; rfl
def io (v:Int) (nul:Bool):List aY->Int
 | []=>0
 | p::l=>if o5 v nul p.MW=0 then io v nul l else o5 v nul p.MW
def jw (v:Int) (nul:Bool):List aJ->Int
 | []=>0
 | t::l=>if io v nul t.MP=0 then jw v nul l else io v nul t.MP
def zj (r:aA):Prop:=bL r.MU=true/\(r.MU.null=true\/dS r.MU.data=true)
def yD (r:aA):Prop:= -1<=r.Nc/\r.Nc<=1/\0<=r.MT/\r.MT<=2147483647
instance (r:aA):Decidable (zj r):=by unfold zj; infer_instance
instance (r:aA):Decidable (yD r):=by unfold yD; infer_instance
def tY (v:Int) (r:aA):Int:=if zj r then (if yD r then (if qW r.MN=0 then jw v r.MU.null r.MN else qW r.MN) else 11) else 4
theorem pc_l2 (r:aA) (v y:Int): ∀ l:List aY,(∀ p,p∈l->gdP p)->cu r v l y=some (if io v r.MU.null l=0 then .go y else .ret (io v r.MU.null l))
 | [],_=>rfl
 | p::l,h=>by
  rw[cu,Ji r p.MW v (h p (.head _)).2.2,NA,io,pc_l2 r v y l (fun q hq=>h q (.tail _ hq))];by_cases c:o5 v r.MU.null p.MW=0
  ·rw[QX c,QX c]
  ·rw[QY c,QY c,QY c]
theorem pc_l1 (r:aA) (v y:Int): ∀ l:List aJ,(∀ t,t∈l->gdT t)->cv r v l y=some (if jw v r.MU.null l=0 then .go y else .ret (jw v r.MU.null l))
 | [],_=>rfl
 | t::l,h=>by
  rw[cv,pc_l2 r v y t.MP (h t (.head _)).2.2,NA,jw];by_cases c:io v r.MU.null t.MP=0
  ·rw[QX c,QX c];dsimp only;rw[pc_l1 r v y l (fun q hq=>h q (.tail _ hq))]
  ·rw[QY c,QY c,QY c]
theorem pcheck (r:aA) (v:Int) (h:gdQ r):cC r v=some (tY v r):=by
 unfold cC tY;have h1:(((qo r.MU).bind fun x12=>if x12=true then (if r.MU.null=true then some false else ((nQ r.MU.data).bind fun x16=>if x16=true then some false else some true)) else some true):Option Bool)=some (decide (¬ zj r)):=by
  rw[ui,NA,ph];by_cases c1:bL r.MU=true
  ·rw[QX c1];by_cases c2:r.MU.null=true
   ·rw[QX c2]; exact congrArg some (Eq.symm (NC (fun hh=>hh ⟨c1,.inl c2⟩)))
   ·rw[QY c2,NA];by_cases c3:dS r.MU.data=true
    ·rw[QX c3]; exact congrArg some (Eq.symm (NC (fun hh=>hh ⟨c1,.inr c3⟩)))
    ·rw[QY c3]; exact congrArg some (Eq.symm (NB (fun hh=>hh.2.elim c2 c3)))
  ·rw[QY c1]; exact congrArg some (Eq.symm (NB (fun hh=>c1 hh.1)))
 have h2:((if r.Nc<(-1) then some true else (if r.Nc>1 then some true else (if r.MT<0 then some true else ((jy r.MT 4).bind fun x30=>if x30=true then some false else some true)))):Option Bool)=some (decide (¬ yD r)):=by
  rw[gL _ _ h.1,NA,eU];unfold yD;by_cases c1:r.Nc < -1
  ·rw[QX c1,NB QR]
  rw[QY c1];by_cases c2:r.Nc>1
  ·rw[QX c2,NB QR]
  rw[QY c2];by_cases c3:r.MT<0
  ·rw[QX c3,NB QR]
  rw[QY c3];by_cases c4:r.MT<=2147483647
  ·rw[QX (NB QR),NC QR]
  ·rw[QY (by rw[decide_eq_true_eq]; omega),NB QR]
 rw[h1,NA];by_cases c1:zj r;rotate_left
 ·rw[NB c1,QX rfl,QY c1]
 rw[NC (fun hh=>hh c1),QY QS,QX c1,h2,NA];by_cases c2:yD r;rotate_left
 ·rw[NB c2,QX rfl,QY c2]
 rw[NC (fun hh=>hh c2),QY QS,QX c2,Jj _ (by have:=h.2.1; omega) h.2.2,NA];by_cases c3:qW r.MN=0
 ·rw[QX c3,QX c3,pc_l1 r v 0 _ h.2.2];by_cases c4:jw v r.MU.null r.MN=0
  ·rw[QX c4,c4]; rfl
  ·rw[QY c4]; rfl
 ·rw[QY c3,QY c3]
theorem rc_l2 (r:aA) (v:Int) (hv:v=3\/v=4) (t:aJ) (j:Nat) (hj:r.MN[j]? = some t) (hn:t.MP.length<=140737488351232) (y:Int): ∀ (l:List aY) (k fuel:Nat),t.MP.drop k=l->l.length<fuel->(∀ p,p∈l->gdP p)-> ∃ z,dU (ofQ r) v j fuel y k=some (if io v r.MU.null l=0 then .go (y,z) else .ret (io v r.MU.null l))
 | [],k,fuel+1,h,hf,_=>by
  have:=dg h;have e1:(ofQ r).MN[j]? = some (ofT t):=by show (r.MN.map ofT)[j]? = _; rw[List.getElem?_map,hj]; rfl
  exact⟨k,by rw[dU,e1,NA,QY (by show ¬ (k:Int)<((t.MP.map ofP).length:Int); rw[NU]; omega)]; rfl⟩
 | p::l,k,fuel+1,h,hf,hw=>by
  obtain⟨g1,g2,g3⟩:=cA h;obtain⟨p1,p2,p3⟩:=hw p (.head _);rw[NJ] at hf;obtain⟨z,hz⟩:=rc_l2 r v hv t j hj hn y l (k+1) fuel g2 QR (fun x hx=>hw x (.tail _ hx));have e1:(ofQ r).MN[j]? = some (ofT t):=by show (r.MN.map ofT)[j]? = _; rw[List.getElem?_map,hj]; rfl
  have e2:(ofT t).MP[k]? = some (ofP p):=by show (t.MP.map ofP)[k]? = _; rw[List.getElem?_map,g1]; rfl
  have R5: -9223372036854775808<=(k:Int)+1/\(k:Int)+1<=9223372036854775807:=by omega
  have hb:=fun nul=>C2 p.MW nul v hv p2 p3;refine⟨z,?_⟩;rw[dU,e1,NA,QX (by show (k:Int)<((t.MP.map ofP).length:Int); rw[NU]; omega),e2,NA,io];show (if r.MU.null=true then ((fF p.MW false v).bind _) else ((fF p.MW true v).bind _))= _;by_cases c:r.MU.null=true
  ·have h1:=hb true;rw[Bool.not_true] at h1;rw[QX c,h1,NA,QX R5,hz,c];by_cases c2:o5 v true p.MW=0
   ·rw[QX c2,QX c2]
   ·rw[QY c2,QY c2,QY c2]
  ·have h1:=hb false;rw[Bool.not_false] at h1;have c':r.MU.null=false:=by simpa using c
   rw[QY c,h1,NA,QX R5,hz,c'];by_cases c2:o5 v false p.MW=0
   ·rw[QX c2,QX c2]
   ·rw[QY c2,QY c2,QY c2]
theorem rc_l1 (r:aA) (v:Int) (hv:v=3\/v=4) (hn:r.MN.length<=140737488351232) (y:Int): ∀ (l:List aJ) (k fuel:Nat),r.MN.drop k=l->l.length<fuel->(∀ t,t∈l->gdT t)-> ∃ z,dV (ofQ r) v fuel y k=some (if jw v r.MU.null l=0 then .go (y,z) else .ret (jw v r.MU.null l))
 | [],k,fuel+1,h,hf,_=>by
  have:=dg h;exact⟨k,by rw[dV,QY (by show ¬ (k:Int)<((r.MN.map ofT).length:Int); rw[NU]; omega)]; rfl⟩
 | t::l,k,fuel+1,h,hf,hw=>by
  obtain⟨g1,g2,g3⟩:=cA h;obtain⟨t1,t2,t3⟩:=hw t (.head _);rw[NJ] at hf;obtain⟨z,hz⟩:=rc_l1 r v hv hn y l (k+1) fuel g2 QR (fun x hx=>hw x (.tail _ hx));obtain⟨z2,hz2⟩:=rc_l2 r v hv t k g1 QR y t.MP 0 (t.MP.length+1) rfl QR t3;have e1:(ofQ r).MN[k]? = some (ofT t):=by show (r.MN.map ofT)[k]? = _; rw[List.getElem?_map,g1]; rfl
  have e3:(((ofQ r).MN[k]?).map (fun x37=>((x37.MP.length:Int)).toNat+1)).getD 0=t.MP.length+1:=by
   rw[e1];show (((t.MP.map ofP).length:Int)).toNat+1= _;rw[NU]; omega
  refine⟨z,?_⟩;rw[dV,QX (by show (k:Int)<((r.MN.map ofT).length:Int); rw[NU]; omega),e3,hz2,NA,jw];by_cases c:io v r.MU.null t.MP=0
  ·rw[QX c,QX c];dsimp only;rw[QX (show -9223372036854775808<=(k:Int)+1/\(k:Int)+1<=9223372036854775807 by omega),hz]
  ·rw[QY c,QY c,QY c]
theorem yE (d:List UInt8):dS d=true↔d ≠ []/\d.length<=32767:=by
 unfold dS
 cases d with
 | nil=>simp
 | cons c d=>simp; omega
theorem yF (n:Bool) (d:List UInt8) (b:Bl) (h1:b.null=n) (h2:b.data=d):bL b=true↔(n=true->d = []):=by
 unfold bL;rw[h1,h2];cases n <;> cases d <;> simp
theorem Jl (r:aA) (v:Int) (hv:v=3\/v=4) (h:gdQ r):kg (ofQ r) v=some (tY v r):=by
 have e4:(ofQ r).MN.length=r.MN.length:=NU _;unfold kg tY;rw[e4];have h1:((if r.MU.null=true then (if r.MU.data = [] then some false else some true) else (if (r.MU.data.length:Int)<1 then some true else (if (r.MU.data.length:Int)>32767 then some true else some false))):Option Bool)=some (decide (¬ zj r)):=by
  have hk:=yE r.MU.data;have hb:=yF r.MU.null r.MU.data r.MU rfl rfl;by_cases c2:r.MU.null=true
  ·rw[QX c2];by_cases c3:r.MU.data = []
   ·rw[QX c3];exact congrArg some (Eq.symm (NC (fun hh=>hh ⟨hb.2 (fun _=>c3),.inl c2⟩)))
   ·rw[QY c3];exact congrArg some (Eq.symm (NB (fun hh=>c3 (hb.1 hh.1 c2))))
  ·rw[QY c2];by_cases c3:r.MU.data = []
   ·rw[QX (by rw[c3]; decide)];exact congrArg some (Eq.symm (NB (fun hh=>hh.2.elim c2 (fun h=>(hk.1 h).1 c3))))
   ·have hl:0<r.MU.data.length:=List.length_pos_iff.2 c3;rw[QY QR];by_cases c4:(r.MU.data.length:Int)>32767
    ·rw[QX c4];exact congrArg some (Eq.symm (NB (fun hh=>hh.2.elim c2 (fun h=>by have:=(hk.1 h).2; omega))))
    ·rw[QY c4];exact congrArg some (Eq.symm (NC (fun hh=>hh ⟨hb.2 (fun h=>absurd h c2),.inr (hk.2 ⟨c3,by omega⟩)⟩)))
 have h2:((if r.Nc<(-1) then some true else (if r.Nc>1 then some true else (if r.MT<0 then some true else (if r.MT>2147483647 then some true else some false)))):Option Bool)=some (decide (¬ yD r)):=by
  unfold yD;by_cases c1:r.Nc < -1
  ·rw[QX c1,NB QR]
  rw[QY c1];by_cases c2:r.Nc>1
  ·rw[QX c2,NB QR]
  rw[QY c2];by_cases c3:r.MT<0
  ·rw[QX c3,NB QR]
  rw[QY c3];by_cases c4:r.MT>2147483647
  ·rw[QX c4,NB QR]
  ·rw[QY c4,NC QR]
 show ((if r.MU.null=true then (if r.MU.data = [] then some false else some true) else (if (r.MU.data.length:Int)<1 then some true else (if (r.MU.data.length:Int)>32767 then some true else some false))).bind fun y7=>if y7=true then some 4 else ((if r.Nc<(-1) then some true else (if r.Nc>1 then some true else (if r.MT<0 then some true else (if r.MT>2147483647 then some true else some false)))).bind fun y17=>if y17=true then some 11 else ((ld (r.MN.map ofT)).bind fun x24=>if x24=0 then ((dV (ofQ r) v (((r.MN.length:Int)).toNat+1) 0 0).bind fun e=>match e with | .ret r=>some r | .go (y72,k73)=>some 0) else some x24)))= _;rw[h1,NA];by_cases c1:zj r;rotate_left
 ·rw[NB c1,QX rfl,QY c1]
 rw[NC (fun hh=>hh c1),QY QS,QX c1,h2,NA];by_cases c2:yD r;rotate_left
 ·rw[NB c2,QX rfl,QY c2]
 rw[NC (fun hh=>hh c2),QY QS,QX c2,EC _ h.2.1 h.2.2,NA];by_cases c3:qW r.MN=0
 ·obtain⟨z,hz⟩:=rc_l1 r v hv (by have:=h.2.1; omega) 0 r.MN 0 (((r.MN.length:Int)).toNat+1) rfl QR h.2.2;rw[QX c3,QX c3,hz];by_cases c4:jw v r.MU.null r.MN=0
  ·rw[QX c4,c4]; rfl
  ·rw[QY c4]; rfl
 ·rw[QY c3,QY c3]
def tZ:Nat->Pr (List Bat)
 | 0=> .ret []
 | n+1=>fun s q=>if q=s.length then .ok ([],q) else (GT.bind fun b=>(tZ n).bind fun l=> .ret (b::l)) s q
theorem rv {b:Bat} (h:okB b):61<=(fU b).length:=by rw[vB h]; omega
theorem Av: ∀ (n:Nat) (s:List UInt8) (q:Nat) (l:List Bat) (r:Nat),q<=s.length->s.length - q<=n->tZ n s q= .ok (l,r)->r=s.length/\s.drop q=bb fU l/\ ∀ b,b∈l->okB b
 | 0,s,q,l,r,hq,hn,h=>by
  injection h with h;obtain⟨rfl,rfl⟩:=N9 h;exact⟨by omega,by rw[List.drop_eq_nil_of_le QR]; rfl,fun b h=>nomatch h⟩
 | n+1,s,q,l,r,hq,hn,h=>by
  unfold tZ at h;by_cases he:q=s.length
  ·rw[QX he] at h;injection h with h;obtain⟨rfl,rfl⟩:=N9 h;exact⟨he,by rw[List.drop_eq_nil_of_le QR]; rfl,fun b h=>nomatch h⟩
  rw[QY he] at h;obtain⟨b,m,h1,h2⟩:=Pr.bind_ok h;obtain⟨bs,m2,h3,h4⟩:=Pr.bind_ok h2;injection h4 with h4;obtain⟨rfl,rfl⟩:=N9 h4;obtain⟨a1,a2,a3,a4,a5⟩:=Es.spell s q b m hq h1;have hp:=rv a5;obtain⟨b1,b2,b3⟩:=Av n s m bs m2 a2 QR h3;refine⟨b1,?_,fun y hy=> ?_⟩
  ·have e:s.drop q=fU b++s.drop m:=by
    have e1:s=s.take q++fU b++s.drop m:=by rw[<- a4,List.take_append_drop]
    conv=>lhs; rw[e1,NI,List.drop_left' (by rw[On]; omega)]
   rw[e,b2,bb]
  ·rcases List.mem_cons.1 hy with rfl | hy
   ·exact a5
   ·exact b3 y hy
theorem C6: ∀ (l:List Bat) (n:Nat) (s:List UInt8) (q:Nat),q<=s.length->s.length - q<=n->(∀ b,b∈l->okB b)->s.drop q=bb fU l->tZ n s q= .ok (l,s.length)
 | [],n,s,q,hq,hn,_,hd=>by
  have hl:=congrArg List.length hd;rw[NO] at hl;have hl:s.length - q=0:=hl;have:q=s.length:=by omega
  subst this
  cases n with
  | zero=>rfl
  | succ n=>exact QX rfl
 | b::l,n,s,q,hq,hn,ho,hd=>by
  have hl:=congrArg List.length hd;rw[bb] at hd;rw[NO,bb,NE] at hl;have hp:=rv (ho b (.head _))
  cases n with
  | zero=>omega
  | succ n =>
   have h1:=Es.back s _ q b hq (ho b (.head _)) hd;have h2:=C6 l n s (q+(fU b).length) QR QR (fun y hy=>ho y (.tail _ hy)) (cz hd);show (if q=s.length then _ else _)= _;rw[QY QR,Pr.bind_of h1,Pr.bind_of h2];rfl
theorem pE {α:Type} {enc:α->List UInt8}: ∀ (l:List α) (x:α),x∈l->(enc x).length<=(bb enc l).length
 | c::l,x,h=>by
  rw[bb,NE];rcases List.mem_cons.1 h with rfl | h
  ·omega
  ·have:=pE (enc:=enc) l x h; omega
theorem GX {l:List Bat} (h: ∀ b,b∈l->okB b):l.length*61<=(bb fU l).length:=ob (ok:=okB) (fun x hx=>rv hx) l h
def vD:Pr (List UInt8):=qI (oq 4)
theorem C7:Sp vD (fun d=>be (d.length:Int) 4++d) (fun d=>bn (d.length:Int) 4=true/\bL ⟨false,d⟩=true):=Bi (iz 4 QS QS)
def yG (i:Int) (d:List UInt8):Pr aY:=match tZ d.length d 0 with | .error e=> .err e | .ok (l,_)=> .ret ⟨i,l⟩
def pP:Pr aY:=(fy 4).bind fun i=>vD.bind fun d=>yG i d
def iO (p:aY):List UInt8:=be p.M8 4++(be ((bb fU p.MW).length:Int) 4++bb fU p.MW)
def GY (p:aY):Prop:=bn p.M8 4=true/\bn ((bb fU p.MW).length:Int) 4=true/\ ∀ b,b∈p.MW->okB b
theorem Jm {i:Int} {d s:List UInt8} {q r:Nat} {p:aY} (h:yG i d s q= .ok (p,r)):r=q/\p.M8=i/\d=bb fU p.MW/\ ∀ b,b∈p.MW->okB b:=by
 unfold yG at h
 cases ha:tZ d.length d 0 with
 | error e=>rw[ha] at h; exact nomatch h
 | ok x =>
  rw[ha] at h;injection h with h;obtain⟨rfl,rfl⟩:=N9 h;obtain⟨a1,a2,a3⟩:=Av _ d 0 x.1 x.2 (NY _) QR ha;rw[List.drop_zero] at a2;exact⟨rfl,rfl,a2,a3⟩
theorem Jn (i:Int) {l:List Bat} (h: ∀ b,b∈l->okB b) (s:List UInt8) (q:Nat):yG i (bb fU l) s q= .ok (⟨i,l⟩,q):=by
 unfold yG;rw[C6 l _ (bb fU l) 0 (NY _) QR h List.drop_zero];rfl
theorem Jo:Sp pP iO GY:=by
 refine⟨fun s q a r hq h=> ?_,fun s t q a hq ha h=> ?_⟩
 ·obtain⟨i,q1,h1,h⟩:=Pr.bind_ok h;obtain⟨d,q2,h2,h⟩:=Pr.bind_ok h;obtain⟨rfl,c2,rfl,c4⟩:=Jm h;obtain⟨a1,a2,a3,a4,a5⟩:=(ei 4 QS QS).spell _ _ _ _ hq h1;obtain⟨b1,b2,b3,b4,b5⟩:=C7.spell _ _ _ _ a2 h2;refine⟨by omega,b2,by simp only[iO,NE,aE] at *; omega,by rw[b4,a4]; simp only[iO,c2,NI],by rw[c2]; exact a5,b5.1,c4⟩
 ·obtain⟨a1,a2,a3⟩:=ha;have hl:=congrArg List.length h;rw[iO,NI] at h;have g1:=(ei 4 QS QS).back _ _ _ _ hq a1 h;have h:=cz h;have g2:=C7.back _ _ _ _ (by simp only[iO,NO,NE,aE] at *; omega) ⟨a2,rfl⟩ h;rw[pP,Pr.bind_of g1,Pr.bind_of g2,Jn _ a3];simp only[iO,NE,Nat.add_assoc]
theorem C8 (p:aY) (h:GY p):8<=(iO p).length:=by simp only[iO,NE,aE]; omega
def jR:Pr aJ:=xN.bind fun nm=>(mi 4 8 pP).bind fun ps=> .ret ⟨nm,ps⟩
def jz (t:aJ):List UInt8:=(be (t.MV.length:Int) 2++t.MV)++(be (t.MP.length:Int) 4++bb iO t.MP)
def C9 (t:aJ):Prop:=bn (t.MV.length:Int) 2=true/\bn (t.MP.length:Int) 4=true/\ ∀ p,p∈t.MP->GY p
theorem Aw:Sp (mi 4 8 pP) (fun l=>be (l.length:Int) 4++bb iO l) (fun l=>bn (l.length:Int) 4=true/\ ∀ p,p∈l->GY p):=xR 4 8 QS QS Jo C8
theorem GZ:Sp jR jz C9:=by
 refine⟨fun s q a r hq h=> ?_,fun s t q a hq ha h=> ?_⟩
 ·obtain⟨k,q1,h1,h⟩:=Pr.bind_ok h;obtain⟨v,q2,h2,h⟩:=Pr.bind_ok h;injection h with h;obtain⟨rfl,rfl⟩:=N9 h;obtain⟨a1,a2,a3,a4,a5⟩:=pw.spell _ _ _ _ hq h1;obtain⟨b1,b2,b3,b4,b5⟩:=Aw.spell _ _ _ _ a2 h2;exact⟨by omega,b2,by simp only[jz,NE] at *; omega,by rw[b4,a4]; simp only[jz,NI],a5.1,b5⟩
 ·obtain⟨a1,a2,a3⟩:=ha;have hl:=congrArg List.length h;rw[jz,NI] at h;have g1:=pw.back _ _ _ _ hq ⟨a1,rfl⟩ h;have h:=cz h;have g2:=Aw.back _ _ _ _ (by simp only[jz,NO,NE,aE] at *; omega) ⟨a2,a3⟩ h;rw[jR,Pr.bind_of g1,Pr.bind_of g2];simp only[Pr.ret,jz,NE,Nat.add_assoc]
theorem yH (t:aJ) (h:C9 t):6<=(jz t).length:=by simp only[jz,NE,aE]; omega
theorem sP:Sp (mi 4 6 jR) (fun l=>be (l.length:Int) 4++bb jz l) (fun l=>bn (l.length:Int) 4=true/\ ∀ t,t∈l->C9 t):=xR 4 6 QS QS GZ yH
def yI (v:Int):Pr aA:=(oq 2).bind fun id=>(fy 2).bind fun a=>(fy 4).bind fun t=>(mi 4 6 jR).bind fun l=>if tY v ⟨id,a,t,l⟩=0 then .ret ⟨id,a,t,l⟩ else .err (tY v ⟨id,a,t,l⟩)
def rW (r:aA):List UInt8:=(be (blen r.MU) 2++r.MU.data)++(be r.Nc 2++(be r.MT 4++(be (r.MN.length:Int) 4++bb jz r.MN)))
def okQ (v:Int) (r:aA):Prop:=(bn (blen r.MU) 2=true/\bL r.MU=true)/\bn r.Nc 2=true/\bn r.MT 4=true/\(bn (r.MN.length:Int) 4=true/\ ∀ t,t∈r.MN->C9 t)/\tY v r=0
theorem Sp_prq (v:Int):Sp (yI v) rW (okQ v):=by
 refine⟨fun s q a r hq h=> ?_,fun s t q a hq ha h=> ?_⟩
 ·obtain⟨id,q1,h1,h⟩:=Pr.bind_ok h;obtain⟨ac,q2,h2,h⟩:=Pr.bind_ok h;obtain⟨tm,q3,h3,h⟩:=Pr.bind_ok h;obtain⟨l,q4,h4,h⟩:=Pr.bind_ok h;by_cases hc:tY v ⟨id,ac,tm,l⟩=0;rotate_left
  ·rw[QY hc] at h;exact nomatch h
  rw[QX hc] at h;injection h with h;obtain⟨rfl,rfl⟩:=N9 h;obtain⟨a1,a2,a3,a4,a5⟩:=(iz 2 QS QS).spell _ _ _ _ hq h1;obtain⟨b1,b2,b3,b4,b5⟩:=(ei 2 QS QS).spell _ _ _ _ a2 h2;obtain⟨c1,c2,c3,c4,c5⟩:=(ei 4 QS QS).spell _ _ _ _ b2 h3;obtain⟨d1,d2,d3,d4,d5⟩:=sP.spell _ _ _ _ c2 h4;exact⟨by omega,d2,by simp only[rW,NE] at *; omega,by rw[d4,c4,b4,a4]; simp only[rW,NI],a5,b5,c5,d5,hc⟩
 ·obtain⟨a1,a2,a3,a4,a5⟩:=ha;have hl:=congrArg List.length h;simp only[rW,NI] at h;rw[<- NI] at h;simp only[rW,NO,NE,aE] at hl;have g1:=(iz 2 QS QS).back _ _ _ _ hq a1 h;have h:=cz h;have g2:=(ei 2 QS QS).back _ _ _ _ (by simp only[NE,aE] at *; omega) a2 h;have h:=cz h;have g3:=(ei 4 QS QS).back _ _ _ _ (by simp only[NE,aE] at *; omega) a3 h;have h:=cz h;rw[<- NI] at h;have g4:=sP.back _ _ _ _ (by simp only[NE,aE] at *; omega) a4 h;rw[yI,Pr.bind_of g1,Pr.bind_of g2,Pr.bind_of g3,Pr.bind_of g4,QX a5];simp only[Pr.ret,rW,NE,Nat.add_assoc]
theorem FJ (n:Nat) (acc:List Bat) (x st:I) (h:st.err≠0):cD (n+1) acc x st=some (acc,x,st):=by
 rw[cD,bA,NA];dsimp only;rw[QY h];rfl
theorem pp_l1 (s:List UInt8) (hs:s.length<=1000000) (st:I) (h0:st.err=0): ∀ (n fuel:Nat) (acc:List Bat) (q:Nat),q<=s.length->s.length - q<=n->s.length - q+1<fuel->acc.length+(s.length - q)<=1000000 ->
 (∃ e acc' x,tZ n s q= .error e/\e≠0/\cD fuel acc ⟨s.drop q,q,0⟩ st=some (acc',x,dz st e))\/(∃ l x,tZ n s q= .ok (l,s.length)/\cD fuel acc ⟨s.drop q,q,0⟩ st=some (acc++l,x,st))
 | n,0,acc,q,hq,hn,hf,_=>absurd hf QR
 | n,fuel+1,acc,q,hq,hn,hf,ha=>by
  have hd:(s.drop q).length=s.length - q:=NO;rw[cD,bA,NA];dsimp only;rw[QX h0,s8,NA];dsimp only;by_cases he:q=s.length
  ·rw[QY QR,NA];dsimp only;rw[QY QS];refine .inr ⟨[],_,?_,by rw[NW]⟩
   cases n with
   | zero=>rw[he]; rfl
   | succ n=>rw[he]; exact QX rfl
  rw[QX QR,NA];dsimp only;rw[QX rfl]
  cases n with
  | zero=>omega
  | succ n =>
  unfold tZ;rw[QY he];rcases B_bat.run s q hs hq with⟨e,st2,p1,g1,x1,y1⟩ | ⟨b,r,p1,g1,n1,l1⟩
  ·refine .inl ⟨e,acc ++ [zBat],st2,by rw[Pr.bind_err p1],by rw[<- x1]; exact y1,?_⟩;rw[g1,NA];dsimp only;rw[QX QR,bA,NA];dsimp only;rw[QY y1,dB,NA,NA,x1];have hfl:fuel=(fuel - 1)+1:=by omega
   rw[hfl];refine FJ _ _ _ _ ?_;rw[dz,QX h0];show e≠0;rw[<- x1]; exact y1
  ·have a3:=(Es.spell s q b r hq p1);have hp:=rv a3.2.2.2.2;have a4:=a3.2.2.1;rw[g1,NA];dsimp only;rw[QX QR,bA,NA];dsimp only;rw[QX rfl,NA];rcases pp_l1 s hs st h0 n fuel (acc ++ [b]) r l1 QR QR (by rw[NE,Or]; omega) with⟨e,acc',x,q1,q2,q3⟩ | ⟨l,x,q1,q2⟩
   ·exact .inl ⟨e,acc',x,by rw[Pr.bind_of p1,Pr.bind_err q1],q2,q3⟩
   ·exact .inr ⟨b::l,x,by rw[Pr.bind_of p1,Pr.bind_of q1]; rfl,by rw[q2,NI]; rfl⟩
theorem G3 (s:List UInt8) (hs:s.length<=1000000) (q:Nat) (hq:q<=s.length) :
 (∃ e p st,pP s q= .error e/\gT ⟨s.drop q,q,0⟩=some (p,st)/\st.err=e/\e≠0)\/(∃ p r,pP s q= .ok (p,r)/\gT ⟨s.drop q,q,0⟩=some (p,⟨s.drop r,r,0⟩)/\q<=r/\r<=s.length):=by
 have dead: ∀ (i:Int) (d:List UInt8) (st:I),d.length<=1000000->st.err≠0->((wc d).bind fun st18=>(cD (((st18.rest.length:Int)+(st.rest.length:Int)+1).toNat+1) [] st18 st).bind fun (y73,st76,st77)=>some ((⟨i,y73⟩:aY),st77))=some (⟨i,[]⟩,st):=by
  intro i d st hd h;rw[kp _ QR,NA,FJ _ _ _ _ h];rfl
 unfold gT;rcases Q4.run s q hq with⟨e,st,p1,g1,x1,y1⟩ | ⟨i,q1,p1,g1,n1,l1⟩
 ·refine .inl ⟨e,⟨0,[]⟩,st,Pr.bind_err p1,?_,x1,by rw[<- x1]; exact y1⟩;rw[g1,NA];dsimp only;rw[lT y1,NA];dsimp only;rw[QY QS,NA];exact dead 0 [] st QS y1
 rw[g1,NA];dsimp only;rcases QF4.run s q1 l1 with⟨e,st,p2,g2,x2,y2⟩ | ⟨b,q2,p2,g2,n2,l2⟩
 ·refine .inl ⟨e,⟨i,[]⟩,st,by rw[pP,Pr.bind_of p1,Pr.bind_err]; rw[vD,qI,Pr.bind_err p2],?_,x2,by rw[<- x2]; exact y2⟩;rw[g2,NA];dsimp only;rw[QY QS,NA];exact dead i [] st QS y2
 have h2:=(iz 4 QS QS).spell _ _ _ _ l1 p2;have hbl:b.data.length<=1000000:=by
  have:=h2.2.2.1;rw[NE] at this;omega
 rw[g2,NA];dsimp only;by_cases hb:b.null=true
 ·refine .inl ⟨4,⟨i,[]⟩,⟨s.drop q2,q2,4⟩,by rw[pP,Pr.bind_of p1,Pr.bind_err]; rw[vD,qI,Pr.bind_of p2,QX hb]; rfl,?_,rfl,by decide⟩;rw[QX hb,dB,NA,NA,tG];exact dead i b.data _ hbl (show (4:Int)≠0 by decide)
 have hx:vD s q1= .ok (b.data,q2):=by
  rw[vD,qI,Pr.bind_of p2,QY hb];rfl
 rw[QY hb,NA,kp _ QR,NA];rcases pp_l1 b.data hbl ⟨s.drop q2,q2,0⟩ rfl b.data.length ((((b.data.length:Int))+((s.drop q2).length:Int)+1).toNat+1) [] 0 (NY _) QR QR (by rw[Of]; omega) with⟨e,acc',x,r1,r2,r3⟩ | ⟨l,x,r1,r2⟩
 ·rw[List.drop_zero] at r3;refine .inl ⟨e,⟨i,acc'⟩,⟨s.drop q2,q2,e⟩,?_,?_,rfl,r2⟩
  ·rw[pP,Pr.bind_of p1,Pr.bind_of hx,yG,r1];rfl
  ·rw[r3];rfl
 ·rw[List.drop_zero] at r2;refine .inr ⟨⟨i,l⟩,q2,?_,?_,by omega,l2⟩
  ·rw[pP,Pr.bind_of p1,Pr.bind_of hx,yG,r1];rfl
  ·rw[r2];rfl
def zQ:aA:=⟨⟨false,[]⟩,0,0,[]⟩
theorem Ky {p:aY} (h:GY p) (hl:(iO p).length<=1000000):gdP p:=by
 have h1:=GX h.2.2;simp only[iO,NE,aE] at hl;refine⟨iA h.1,by omega,fun b hb=>Ey (h.2.2 b hb) ?_⟩;have:=pE (enc:=fU) _ b hb;omega
theorem Kz {t:aJ} (h:C9 t) (hl:(jz t).length<=1000000):gdT t:=by
 have h1:=ob (ok:=GY) C8 t.MP h.2.2;simp only[jz,NE,aE] at hl;refine⟨by omega,by omega,fun p hp=>Ky (h.2.2 p hp) ?_⟩;have:=pE (enc:=iO) t.MP p hp;omega
theorem okQ_gd {a:Bl} {k t:Int} {l:List aJ} (ht:bn t 4=true) (h: ∀ x,x∈l->C9 x) (hl:(bb jz l).length<=1000000):gdQ ⟨a,k,t,l⟩:=by
 have h1:=ob (ok:=C9) yH l h;refine⟨iA ht,by show l.length*40<= _; omega,fun x hx=>Kz (h x hx) ?_⟩;have:=pE (enc:=jz) l x hx;omega
theorem qr_l2 (n:Int) (s:List UInt8) (hs:s.length<=1000000) (hn:n<=1000000): ∀ (m fuel k:Nat) (acc:List aY) (q:Nat),((k+m:Nat):Int)=n->m<fuel->q<=s.length->acc.length=k ->
 (∃ (e:Int) (st:I),jG pP m s q= .error e/\cj n fuel k acc ⟨s.drop q,q,0⟩=some (.ret (zQ,st))/\st.err=e/\e≠0) \/
 (∃ l r,jG pP m s q= .ok (l,r)/\cj n fuel k acc ⟨s.drop q,q,0⟩=some (.go (k+m,acc++l,⟨s.drop r,r,0⟩))/\q<=r/\r<=s.length)
 | 0,fuel+1,k,acc,q,h1,h2,h3,h4=> .inr ⟨[],q,rfl,by rw[cj,QY QR,NW]; rfl,N0 _,h3⟩
 | m+1,fuel+1,k,acc,q,h1,h2,h3,h4=>by
  rw[cj,QX QR];rcases G3 s hs q h3 with⟨e,p,st,p1,g1,x1,y1⟩ | ⟨p,r,p1,g1,n1,l1⟩
  ·refine .inl ⟨e,st,by rw[jG,Pr.bind_err p1],?_,x1,y1⟩;rw[g1,NA];dsimp only;rw[QX QR,bA,NA];dsimp only;rw[QY (by rw[x1]; exact y1)];rfl
  ·rw[g1,NA];dsimp only;rw[QX QR,bA,NA];dsimp only;rw[QX rfl,QX QR,jG,Pr.bind_of p1];rcases qr_l2 n s hs hn m fuel (k+1) (acc ++ [p]) r QR QR l1 (by rw[NE,h4]; rfl) with⟨e,st,r1,r2,r3,r4⟩ | ⟨l,r',r1,r2,r3,r4⟩
   ·exact .inl ⟨e,st,by rw[Pr.bind_err r1],r2,r3,r4⟩
   ·refine .inr ⟨p::l,r',by rw[Pr.bind_of r1]; rfl,?_,by omega,r4⟩;rw[r2,NI,show k+1+m=k+(m+1) by omega];rfl
theorem qr_l1 (n:Int) (s:List UInt8) (hs:s.length<=1000000) (hn:n<=1000000): ∀ (m fuel k:Nat) (acc:List aJ) (q:Nat),((k+m:Nat):Int)=n->m<fuel->q<=s.length->acc.length=k ->
 (∃ (e:Int) (st:I),jG jR m s q= .error e/\dj n fuel k acc ⟨s.drop q,q,0⟩=some (.ret (zQ,st))/\st.err=e/\e≠0) \/
 (∃ l r,jG jR m s q= .ok (l,r)/\dj n fuel k acc ⟨s.drop q,q,0⟩=some (.go (k+m,acc++l,⟨s.drop r,r,0⟩))/\q<=r/\r<=s.length)
 | 0,fuel+1,k,acc,q,h1,h2,h3,h4=> .inr ⟨[],q,rfl,by rw[gJ,QY QR,NW]; rfl,N0 _,h3⟩
 | m+1,fuel+1,k,acc,q,h1,h2,h3,h4=>by
  rw[gJ,QX QR];rcases QT.run s q h3 with⟨e,st,p1,g1,x1,y1⟩ | ⟨nm,q1,p1,g1,n1,l1⟩
  ·refine .inl ⟨e,st,by rw[jG,Pr.bind_err (show jR s q= .error e from Pr.bind_err p1)],?_,x1,by rw[<- x1]; exact y1⟩;rw[g1,NA];dsimp only;rw[nD y1 QS QS,NA];dsimp only;rw[show (0:Int).toNat+1=0+1 from rfl,cj,QY QS,NA];dsimp only;rw[bA,NA];dsimp only;rw[QY y1];rfl
  rw[g1,NA];dsimp only;rcases (tK 4 8 QS QS 4 8 rfl rfl QS).run s q1 l1 with⟨e,st,p2,g2,x2,y2⟩ | ⟨c,q2,p2,g2,n2,l2⟩
  ·refine .inl ⟨e,st,by rw[jG,Pr.bind_err]; rw[jR,Pr.bind_of p1,Pr.bind_err]; rw[mi,Pr.bind_err p2],?_,x2,by rw[<- x2]; exact y2⟩;rw[g2,NA];dsimp only;rw[show (0:Int).toNat+1=0+1 from rfl,cj,QY QS,NA];dsimp only;rw[bA,NA];dsimp only;rw[QY y2];rfl
  obtain⟨c1,c2,c3,c4,c5,c6⟩:=mR QS QS l1 p2;have c2:=c2 QS;rw[g2,NA];dsimp only;rcases qr_l2 c s hs QR c.toNat (c.toNat+1) 0 [] q2 QR QR l2 rfl with⟨e,st,r1,r2,r3,r4⟩ | ⟨ps,q3,r1,r2,r3,r4⟩
  ·refine .inl ⟨e,st,by rw[jG,Pr.bind_err]; rw[jR,Pr.bind_of p1,Pr.bind_err]; rw[mi,Pr.bind_of p2,r1],?_,r3,r4⟩;rw[r2];rfl
  have ht:jR s q= .ok (⟨nm,ps⟩,q3):=by
   rw[jR,Pr.bind_of p1,Pr.bind_of (a:=ps) (r:=q3) (by rw[mi,Pr.bind_of p2,r1])];rfl
  rw[r2,NA];dsimp only;rw[bA,NA];dsimp only;rw[QX rfl,QX QR,QX QR,NV,jG,Pr.bind_of ht];rcases qr_l1 n s hs hn m fuel (k+1) (acc ++ [⟨nm,ps⟩]) q3 QR QR r4 (by rw[NE,h4]; rfl) with⟨e,st,s1,s2,s3,s4⟩ | ⟨l,r',s1,s2,s3,s4⟩
  ·exact .inl ⟨e,st,by rw[Pr.bind_err s1],s2,s3,s4⟩
  ·refine .inr ⟨⟨nm,ps⟩::l,r',by rw[Pr.bind_of s1]; rfl,?_,by omega,s4⟩;rw[s2,NI,show k+1+m=k+(m+1) by omega];rfl
theorem B_prq (v:Int):CB (fun st=>eB st v) (yI v) zQ:=by
 have tail: ∀ (b:Bl) (a t:Int) (st:I),st.err≠0->((iF st).bind fun (x121,st122)=>(if x121=0 then ((cC (⟨b,a,t,[]⟩:aA) v).bind fun x138=>(if x138=0 then some st122 else ((ck st122 x138).bind fun st146=>some st146)).bind fun st143=>some st143) else some st122).bind fun st135=>(iF st135).bind fun (x148,st149)=>if x148=0 then (some ((⟨b,a,t,[]⟩:aA),st149)) else (some ((⟨(⟨false,[]⟩:Bl),0,0,[]⟩:aA),st149)))=some (zQ,st):=by
  intro b a t st h;rw[bA,NA];dsimp only;rw[QY h,NA,bA,NA];dsimp only;rw[QY h];rfl
 have dead: ∀ (b:Bl) (a t:Int) (st:I),st.err≠0->((jB st 4 6).bind fun (x12,st13)=>(dj x12 ((x12).toNat+1) 0 [] st13).bind fun e=>match e with | .ret r=>some r | .go (k116,y117,st120)=>((iF st120).bind fun (x121,st122)=>(if x121=0 then ((cC (⟨b,a,t,y117⟩:aA) v).bind fun x138=>(if x138=0 then some st122 else ((ck st122 x138).bind fun st146=>some st146)).bind fun st143=>some st143) else some st122).bind fun st135=>(iF st135).bind fun (x148,st149)=>if x148=0 then (some ((⟨b,a,t,y117⟩:aA),st149)) else (some ((⟨(⟨false,[]⟩:Bl),0,0,[]⟩:aA),st149))))=some (zQ,st):=by
  intro b a t st h;rw[nD h QS QS,NA];dsimp only;rw[show (0:Int).toNat+1=0+1 from rfl,gJ,QY QS,NA];exact tail b a t st h
 refine⟨fun st h=> ?_,fun s q hs hq=> ?_⟩
 ·show eB st v= _;unfold eB;rw[lT h,NA];dsimp only;rw[ll h,NA];dsimp only;rw[ll h,NA];exact dead _ _ _ st h
 ·show (∃ e st,yI v s q= _/\eB _ v= _/\ _/\ _)\/(∃ a r,yI v s q= _/\eB _ v= _/\ _/\ _);unfold eB;rcases QF2.run s q hq with⟨e,st,p1,g1,x1,y1⟩ | ⟨b,q1,p1,g1,n1,l1⟩
  ·refine .inl ⟨e,st,Pr.bind_err p1,?_,x1,y1⟩;rw[g1,NA];dsimp only;rw[ll y1,NA];dsimp only;rw[ll y1,NA];exact dead _ _ _ st y1
  rw[g1,NA];dsimp only;rcases Q2.run s q1 l1 with⟨e,st,p2,g2,x2,y2⟩ | ⟨a,q2,p2,g2,n2,l2⟩
  ·refine .inl ⟨e,st,by rw[yI,Pr.bind_of p1,Pr.bind_err p2],?_,x2,y2⟩;rw[g2,NA];dsimp only;rw[ll y2,NA];exact dead _ _ _ st y2
  rw[g2,NA];dsimp only;rcases Q4.run s q2 l2 with⟨e,st,p3,g3,x3,y3⟩ | ⟨t,q3,p3,g3,n3,l3⟩
  ·refine .inl ⟨e,st,by rw[yI,Pr.bind_of p1,Pr.bind_of p2,Pr.bind_err p3],?_,x3,y3⟩;rw[g3,NA];exact dead _ _ _ st y3
  rw[g3,NA];dsimp only;rcases (tK 4 6 QS QS 4 6 rfl rfl QS).run s q3 l3 with⟨e,st,p4,g4,x4,y4⟩ | ⟨c,q4,p4,g4,n4,l4⟩
  ·refine .inl ⟨e,st,by rw[yI,Pr.bind_of p1,Pr.bind_of p2,Pr.bind_of p3,Pr.bind_err]; rw[mi,Pr.bind_err p4],?_,x4,y4⟩;have:=dead b a t st y4;rw[nD y4 QS QS] at this;rw[g4];exact this
  obtain⟨c1,c2,c3,c4,c5,c6⟩:=mR QS QS l3 p4;have c2:=c2 QS;rw[g4,NA];dsimp only;rcases qr_l1 c s hs QR c.toNat (c.toNat+1) 0 [] q4 QR QR l4 rfl with⟨e,st,r1,r2,r3,r4⟩ | ⟨l,q5,r1,r2,r3,r4⟩
  ·refine .inl ⟨e,st,by rw[yI,Pr.bind_of p1,Pr.bind_of p2,Pr.bind_of p3,Pr.bind_err]; rw[mi,Pr.bind_of p4,r1],?_,r3,by rw[r3]; exact r4⟩;rw[r2];rfl
  have hl:mi 4 6 jR s q3= .ok (l,q5):=by rw[mi,Pr.bind_of p4,r1]
  obtain⟨d1,d2,d3,d4,d5⟩:=sP.spell _ _ _ _ l3 hl;obtain⟨t1,t2,t3,t4,t5⟩:=(ei 4 QS QS).spell _ _ _ _ l2 p3;rw[NE,aE] at d3;have hg:gdQ ⟨b,a,t,l⟩:=okQ_gd t5 d5.2 QR;rw[r2,NA];dsimp only;rw[bA,NA];dsimp only;rw[QX rfl,NV,pcheck _ v hg,NA,yI,Pr.bind_of p1,Pr.bind_of p2,Pr.bind_of p3,Pr.bind_of hl];by_cases hc:tY v ⟨b,a,t,l⟩=0
  ·rw[QX hc,QX hc];exact .inr ⟨_,q5,rfl,rfl,by omega,r4⟩
  ·rw[QY hc,QY hc,dB,tG];refine .inl ⟨_,⟨s.drop q5,q5,tY v ⟨b,a,t,l⟩⟩,rfl,?_,rfl,hc⟩;rw[NA,NA,NA,bA,NA];dsimp only;rw[QY hc];rfl
def zF:ay:=⟨zHead,zB,zA,zE,[],zQ⟩
def frB (h:fO) (x:bd):ay:=⟨h,x,zA,zE,[],zQ⟩
def frA (h:fO) (x:bZ):ay:=⟨h,zB,x,zE,[],zQ⟩
def frE (h:fO) (x:bY):ay:=⟨h,zB,zA,x,[],zQ⟩
def frM (h:fO) (x:List aR):ay:=⟨h,zB,zA,zE,x,zQ⟩
def frP (h:fO) (x:aA):ay:=⟨h,zB,zA,zE,[],x⟩
def Da (v:Int):Pr bd:=if v>0 then Iu v else It v
theorem B_begV (v:Int):CB (fun st=>eG st v) (Da v) zB:=by
 unfold Da;by_cases hv:v>0
 ·rw[QX hv]; exact B_beg1 v hv
 ·rw[QY hv]; exact B_beg0 v hv
def wU (h:fO):Pr ay :=
 if h.M1=22 then (Da h.MY).map (frB h) else if h.M1=24 then Is.map (frA h) else if h.M1=26 then Ir.map (frE h)
 else if h.M1=27 then (qP h.MY).map (frM h) else (yI h.MY).map (frP h)
def pIn:Pr ay:=Cl.bind wU
def Db (s:List UInt8):Except Int (ay×Nat)->ay×Int
 | .error e=>(zF,e)
 | .ok (f,r)=>if r<s.length then (zF,2) else (f,0)
def opn (s:List UInt8):ay×Int:=Db s (pIn s 0)
theorem Jp {st:I} (h:st.err≠0):fM st=st:=by
 unfold fM dz;rw[QY h];split <;> rfl
theorem Jq (s:List UInt8) (r:Nat) (hr:r<=s.length):fM ⟨s.drop r,r,0⟩=if r<s.length then ⟨s.drop r,r,2⟩ else ⟨s.drop r,r,0⟩:=by
 unfold fM dz;by_cases h:r<s.length
 ·rw[QX h,QY (by intro h2; have:=congrArg List.length h2; rw[NO] at this; simp at this; omega)];rfl
 ·rw[QY h,QX (by rw[List.drop_eq_nil_iff]; omega)]
theorem qX {α:Type} {op:I->Option (α×I)} {p:Pr α} {z:α} (h:CB op p z) (g:α->ay) (s:List UInt8) (q:Nat) (hs:s.length<=1000000) (hq:q<=s.length) :
 ((op ⟨s.drop q,q,0⟩).bind fun (x14,st15)=>(eh st15).bind fun (x17,st18)=>if x17=0 then some (g x14,0) else some (zF,x17))=some (Db s ((p.map g) s q)):=by
 rcases h.run s q hs hq with⟨e,st,p1,g1,x1,y1⟩ | ⟨a,r,p1,g1,n1,l1⟩
 ·rw[g1,Pr.map,Pr.bind_err p1];simp only[NA,gM,Jp y1];rw[QY y1,x1];rfl
 ·rw[g1,Pr.map,Pr.bind_of p1];simp only[NA,gM,Jq s r l1,Pr.ret,Db];by_cases hr:r<s.length
  ·rw[QX hr,QX hr];rfl
  ·rw[QY hr,QY hr];rfl
theorem KA (s:List UInt8) (hs:s.length<=1000000):kL s=some (opn s):=by
 unfold kL opn pIn;rw[kp s QR];simp only[NA];have h0:=Q_head.run s 0 (NY _);rw[List.drop_zero] at h0;rcases h0 with⟨e,st,p1,g1,x1,y1⟩ | ⟨h,r,p1,g1,n1,l1⟩
 ·rw[g1,Pr.bind_err p1];simp only[NA,bA];rw[QY y1,x1];rfl
 ·rw[g1,Pr.bind_of p1];simp only[NA,bA];rw[QX trivial];unfold wU;by_cases h22:h.M1=22
  ·rw[QX h22,QX h22]; exact qX (B_begV h.MY) (frB h) s r hs l1
  rw[QY h22,QY h22];by_cases h24:h.M1=24
  ·rw[QX h24,QX h24]; exact qX B_add (frA h) s r hs l1
  rw[QY h24,QY h24];by_cases h26:h.M1=26
  ·rw[QX h26,QX h26]; exact qX B_end (frE h) s r hs l1
  rw[QY h26,QY h26];by_cases h27:h.M1=27
  ·rw[QX h27,QX h27]; exact qX (Kk h.MY) (frM h) s r hs l1
  rw[QY h27,QY h27];exact qX (B_prq h.MY) (frP h) s r hs l1
def pFrm:Pr ay:=fun s q=>match fy 4 s q with
 | .error e=> .error e
 | .ok (n,r)=>if n<0 then .error 4 else if (s.length:Int) - r<n then .error 1 else if (opn ((s.drop r).take n.toNat)).2=0 then .ok ((opn ((s.drop r).take n.toNat)).1,r+n.toNat) else .error (opn ((s.drop r).take n.toNat)).2
theorem KB (l:List UInt8) (q:Nat) {n:Int} (h:n<0):cE ⟨l,q,0⟩ n=([],⟨l,q,4⟩):=by
 unfold cE;rw[QY (by simp),QX h]
theorem G4 (l:List UInt8) (q:Nat) {n:Int} (h: ¬ n<0) (h2:(l.length:Int)<n):cE ⟨l,q,0⟩ n=([],⟨l,q,1⟩):=by
 unfold cE;rw[QY (by simp),QY h,QX h2]
theorem itk_ok (l:List UInt8) (q:Nat) {n:Int} (h: ¬ n<0) (h2: ¬ (l.length:Int)<n):cE ⟨l,q,0⟩ n=(l.take n.toNat,⟨l.drop n.toNat,q+n.toNat,0⟩):=by
 unfold cE;rw[QY (by simp),QY h,QY h2]
theorem B_frm:CB ju pFrm zF:=by
 refine⟨fun st h=> ?_,fun s q hs hq=> ?_⟩
 ·unfold ju;rw[ll h];simp only[NA,oF _ _ (by decide:(-9223372036854775808:Int)<=0/\(0:Int)<=9223372036854775807),cE,QX h,bA,QY h];rfl
 ·unfold ju pFrm;rcases Q4.run s q hq with⟨e,st,p1,g1,x1,y1⟩ | ⟨n,r,p1,g1,n1,l1⟩
  ·refine .inl ⟨e,st,by rw[p1],?_,x1,y1⟩;rw[g1];simp only[NA,oF _ _ (by decide:(-9223372036854775808:Int)<=0/\(0:Int)<=9223372036854775807),cE,QX y1,bA,QY y1];rfl
  ·have hn:=iA ((ei 4 QS QS).spell s q n r hq p1).2.2.2.2;rw[p1,g1];simp only[NA,oF _ _ hn,bA];by_cases h1:n<0
   ·rw[QX h1,KB _ _ h1];exact .inl ⟨4,⟨s.drop r,r,4⟩,rfl,rfl,rfl,by simp⟩
   rw[QY h1];by_cases h2:(s.length:Int) - r<n
   ·rw[QX h2,G4 _ _ h1 (by rw[NO]; omega)];exact .inl ⟨1,⟨s.drop r,r,1⟩,rfl,rfl,rfl,by simp⟩
   rw[QY h2,itk_ok _ _ h1 (by rw[NO]; omega)];rw[QX rfl,KA _ (by rw[On,NO]; omega)];simp only[NA,Om];by_cases h3:(opn ((s.drop r).take n.toNat)).2=0
   ·rw[QX h3,QX h3];exact .inr ⟨_,r+n.toNat,rfl,rfl,by omega,by omega⟩
   ·rw[QY h3,QY h3,dB];exact .inl ⟨_,dz ⟨s.drop (r+n.toNat),r+n.toNat,0⟩ (opn ((s.drop r).take n.toNat)).2,rfl,rfl,rfl,h3⟩
def ED (l:List Bat):Prop:= ∀ b,b∈l->smB b/\chk b=0
theorem FK (t:dF) (i:Nat) (p:jQ) (hi:t.MP[i]? = some p) (hp:p.MW.length<=1000000): ∀ (l:List Bat) (acc:List UInt8) (k fuel:Nat),p.MW.drop k=l->l.length<fuel->ED l->acc.length+(bb fU l).length<=1000000-> ∃ z,eY t i fuel acc k=some (acc++bb fU l,z)
 | [],acc,k,fuel+1,h,hf,_,_=>by
  have:=dg h;exact⟨k,by rw[eY,hi,NA,QY QR]; simp[bb]⟩
 | b::l,acc,k,fuel+1,h,hf,hw,hl=>by
  obtain⟨g1,g2,g3⟩:=cA h;rw[NJ] at hf;rw[bb,NE] at hl;obtain⟨hb1,hb2⟩:=hw b (.head _);obtain⟨z,hz⟩:=FK t i p hi hp l (acc++fU b) (k+1) fuel g2 QR (fun x hx=>hw x (.tail _ hx)) (by rw[NE]; omega);exact⟨z,by rw[eY,hi,NA,QX QR,g1,NA,r11enc hb1 hb2,NA,QX QR,QX QR,hz,bb,NI]⟩
theorem FL (t:aJ) (hn:t.MP.length<=1000000): ∀ (l:List aY) (acc:List UInt8) (k fuel:Nat),t.MP.drop k=l->l.length<fuel->(∀ p,p∈l->wI p.M8/\p.MW.length<=1000000/\ED p.MW)->acc.length+(bb iO l).length<=1000000-> ∃ z,eZ (ofT t) fuel acc k=some (acc++bb iO l,z)
 | [],acc,k,fuel+1,h,hf,_,_=>by
  have:=dg h;exact⟨k,by rw[eZ,QY (by show ¬ (k:Int)<((t.MP.map ofP).length:Int); rw[NU]; omega)]; simp[bb]⟩
 | p::l,acc,k,fuel+1,h,hf,hw,hl=>by
  obtain⟨g1,g2,g3⟩:=cA h;rw[NJ] at hf;rw[bb,NE] at hl;have hpl:=hl;simp only[iO,NE,aE] at hpl;obtain⟨hp1,hp2,hp3⟩:=hw p (.head _);have e1:(ofT t).MP[k]? = some (ofP p):=by show (t.MP.map ofP)[k]? = _; rw[List.getElem?_map,g1]; rfl
  have e3:(((ofT t).MP[k]?).map (fun x236=>((x236.MW.length:Int)).toNat+1)).getD 0=p.MW.length+1:=by
   rw[e1];show ((p.MW.length:Int)).toNat+1= _;omega
  obtain⟨z2,hz2⟩:=FK (ofT t) k (ofP p) e1 hp2 p.MW [] 0 (p.MW.length+1) rfl QR hp3 (by rw[Of]; omega);obtain⟨z,hz⟩:=FL t hn l (acc++iO p) (k+1) fuel g2 QR (fun x hx=>hw x (.tail _ hx)) (by rw[NE]; omega);refine⟨z,?_⟩;rw[eZ,QX (by show (k:Int)<((t.MP.map ofP).length:Int); rw[NU]; omega),e3,hz2,NA,e1,NV];dsimp only;rw[NA,bT (ofP p).M8 _ ⟨hp1,by decide,by decide⟩,NA,QX (by rw[aE]; show _+4<= _; omega),ka _ _ ⟨by decide,by decide,by dsimp only; omega⟩,NA,QX (by simp only[NE,aE]; show _+4+(4 + _)<= _; omega),NA,QX QR];have e4:(acc++be (ofP p).M8 (4:Int).toNat)++(be (blen (⟨false,bb fU p.MW⟩:Bl)) (4:Int).toNat++(bb fU p.MW))=acc++iO p:=by rw[NI]; rfl
  rw[e4,hz,bb,NI]
theorem FM (r:aA) (hn:r.MN.length<=1000000): ∀ (l:List aJ) (acc:List UInt8) (k fuel:Nat),r.MN.drop k=l->l.length<fuel->(∀ t,t∈l->t.MP.length<=1000000/\ ∀ p,p∈t.MP->wI p.M8/\p.MW.length<=1000000/\ED p.MW)->acc.length+(bb jz l).length<=1000000-> ∃ z,e7 (ofQ r) fuel acc k=some (acc++bb jz l,z)
 | [],acc,k,fuel+1,h,hf,_,_=>by
  have:=dg h;exact⟨k,by rw[e7,QY (by show ¬ (k:Int)<((r.MN.map ofT).length:Int); rw[NU]; omega)]; simp[bb]⟩
 | t::l,acc,k,fuel+1,h,hf,hw,hl=>by
  obtain⟨g1,g2,g3⟩:=cA h;rw[NJ] at hf;rw[bb,NE] at hl;have hpl:=hl;simp only[jz,NE,aE] at hpl;obtain⟨ht1,ht2⟩:=hw t (.head _);have e1:(ofQ r).MN[k]? = some (ofT t):=by show (r.MN.map ofT)[k]? = _; rw[List.getElem?_map,g1]; rfl
  have e4:(ofT t).MP.length=t.MP.length:=NU _;obtain⟨z2,hz2⟩:=FL t ht1 t.MP ((acc++(be (t.MV.length:Int) 2++t.MV))++be (t.MP.length:Int) 4) 0 (((t.MP.length:Int)).toNat+1) rfl QR ht2 (by simp only[NE,aE]; omega);obtain⟨z,hz⟩:=FM r hn l (acc++jz t) (k+1) fuel g2 QR (fun x hx=>hw x (.tail _ hx)) (by rw[NE]; omega);refine⟨z,?_⟩;rw[e7,QX (by show (k:Int)<((r.MN.map ofT).length:Int); rw[NU]; omega),e1,NA,ka _ _ ⟨by decide,by decide,by show t.MV.length<= _; omega⟩,NA,e4];rw[QX (by rw[NE,aE]; show _+(2+t.MV.length)<= _; omega),bT _ _ ⟨by omega,by decide,by decide⟩,NA,QX (by simp only[NE,aE]; show _+(2+t.MV.length)+4<= _; omega)];have e5:acc++(be (blen (⟨false,(ofT t).MV⟩:Bl)) (2:Int).toNat++(⟨false,(ofT t).MV⟩:Bl).data)++be (t.MP.length:Int) (4:Int).toNat=(acc++(be (t.MV.length:Int) 2++t.MV))++be (t.MP.length:Int) 4:=rfl;rw[e5,hz2,NA];dsimp only;rw[NA,QX QR];have e6:(acc++(be (t.MV.length:Int) 2++t.MV))++be (t.MP.length:Int) 4++bb iO t.MP=acc++jz t:=by simp only[jz,NI]
  rw[e6,hz,bb,NI]
theorem G5 {r:aA} (ha:wI r.Nc/\wI r.MT) (hn:r.MN.length<=1000000) (hw: ∀ t,t∈r.MN->t.MP.length<=1000000/\ ∀ p,p∈t.MP->wI p.M8/\p.MW.length<=1000000/\ED p.MW) (hl:(rW r).length<=1000000):iW (ofQ r)=some (rW r):=by
 have e4:(ofQ r).MN.length=r.MN.length:=NU _;simp only[rW,NE,aE] at hl;obtain⟨z,hz⟩:=FM r hn r.MN ((((be (blen r.MU) 2++r.MU.data)++be r.Nc 2)++be r.MT 4)++be (r.MN.length:Int) 4) 0 (((r.MN.length:Int)).toNat+1) rfl QR hw (by simp only[NE,aE]; omega);have l1:(be (blen r.MU) (2:Int).toNat++r.MU.data).length=2+r.MU.data.length:=by rw[NE,aE]; rfl
 have l2: ∀ n:Int,(be n (2:Int).toNat).length=2:=fun n=>aE _ _;have l4: ∀ n:Int,(be n (4:Int).toNat).length=4:=fun n=>aE _ _;unfold iW;rw[e4];show ((jK r.MU 2).bind fun x4=>(cP r.Nc 2).bind fun x6=>if x4.length+x6.length<=9223372036854775807 then ((cP r.MT 4).bind fun x9=> _) else none)= _;rw[ka _ _ ⟨by decide,by decide,by omega⟩,NA,bT _ _ ⟨ha.1,by decide,by decide⟩,NA,QX (by rw[l1,l2]; omega),bT _ _ ⟨ha.2,by decide,by decide⟩,NA,QX (by rw[NE,l1,l2,l4]; omega),bT _ _ ⟨by omega,by decide,by decide⟩,NA,QX (by rw[NE,NE,l1,l2,l4,l4]; omega)];have e5:((((be (blen r.MU) (2:Int).toNat++r.MU.data)++be r.Nc (2:Int).toNat)++be r.MT (4:Int).toNat)++be (r.MN.length:Int) (4:Int).toNat)=((((be (blen r.MU) 2++r.MU.data)++be r.Nc 2)++be r.MT 4)++be (r.MN.length:Int) 4):=rfl;rw[e5,hz,NA];simp only[rW,NI]
theorem FN {r:aA} (h:gdQ r):mY r=some (ofQ r):=by
 have h1:=h.2.1;unfold mY;rw[FF r.MN [] (by rw[Of]; omega) (fun t ht=>(h.2.2 t ht).2.1),NA,NV];rfl
theorem wa {a b:aA} (h:gdQ a):iX (ofQ a) (ofQ b)=some (CU a b):=by
 have h1:=h.2.1;refine Je QR (fun t ht=> ?_);have h2:=h.2.2 t ht;exact⟨by have:=h2.2.1; omega,fun p hp=>(h2.2.2 p hp).2⟩
theorem zQ_gd:gdQ zQ:=⟨by unfold wI zQ; decide,by decide,fun t h=>nomatch h⟩
theorem EE {v:Int} {nul:Bool} {l:List Bat} (h:o5 v nul l=0): ∀ b,b∈l->chk b=0/\b.Nl=false/\b.Ni≠nul:=by
 have h2:gK nul l=0:=by
  unfold o5 at h;split at h
  ·exact absurd h QS
  ·exact h
 clear h
 induction l with
 | nil=>exact fun b h=>nomatch h
 | cons c l ih =>
  rw[gK] at h2;by_cases c1:chk c=0;rotate_left
  ·rw[QY c1] at h2; exact absurd h2 c1
  rw[QX c1] at h2;by_cases c2:c.Nl=true
  ·rw[QX c2] at h2; exact absurd h2 QS
  rw[QY c2] at h2;by_cases c3:c.Ni=nul
  ·rw[QX c3] at h2; exact absurd h2 QS
  rw[QY c3] at h2;intro b hb;rcases List.mem_cons.1 hb with rfl | hb
  ·exact⟨c1,by simpa using c2,c3⟩
  ·exact ih h2 b hb
theorem t6 {v:Int} {nul:Bool}: ∀ {l:List aY},io v nul l=0-> ∀ p,p∈l->o5 v nul p.MW=0
 | c::l,h,p,hp=>by
  rw[io] at h;by_cases c1:o5 v nul c.MW=0;rotate_left
  ·rw[QY c1] at h; exact absurd h c1
  rw[QX c1] at h;rcases List.mem_cons.1 hp with rfl | hp
  ·exact c1
  ·exact t6 h p hp
theorem t7 {v:Int} {nul:Bool}: ∀ {l:List aJ},jw v nul l=0-> ∀ t,t∈l->io v nul t.MP=0
 | c::l,h,t,ht=>by
  rw[jw] at h;by_cases c1:io v nul c.MP=0;rotate_left
  ·rw[QY c1] at h; exact absurd h c1
  rw[QX c1] at h;rcases List.mem_cons.1 ht with rfl | ht
  ·exact c1
  ·exact t7 h t ht
theorem G6 {v:Int} {r:aA} (h:tY v r=0):zj r/\yD r/\qW r.MN=0/\jw v r.MU.null r.MN=0:=by
 unfold tY at h;by_cases c1:zj r;rotate_left
 ·rw[QY c1] at h; exact absurd h QS
 rw[QX c1] at h;by_cases c2:yD r;rotate_left
 ·rw[QY c2] at h; exact absurd h QS
 rw[QX c2] at h;by_cases c3:qW r.MN=0;rotate_left
 ·rw[QY c3] at h; exact absurd h c3
 rw[QX c3] at h;exact⟨c1,c2,c3,h⟩
def wPs:List aY->Nat
 | []=>0
 | p::l=>(10+100*p.MW.length)+wPs l
def wTq:List aJ->Nat
 | []=>0
 | t::l=>(t.MV.length+10+wPs t.MP)+wTq l
theorem yJ {n:Int} (h: -9223372036854775808<=n/\n<=9223372036854775807):IntKind.i64.wrap n=n:=by
 rw[IntKind.wrap_i64];omega
theorem nP_eq {n:Int} {p:aY} (hn:0<=n/\n<=100000) (hp:p.MW.length<=140737488351232):nP n p=n+((10+100*p.MW.length:Nat):Int):=by
 unfold nP;rw[yJ (n:=100*(p.MW.length:Int)) QR,yJ (n:=10+100*(p.MW.length:Int)) QR,yJ QR];omega
theorem Jr: ∀ (l:List aY) (n:Int),0<=n/\n<=100000->(∀ p,p∈l->p.MW.length<=140737488351232)->okFp n l->nPs n l=n+(wPs l:Int)/\(l ≠ []->nPs n l<=2000)
 | [],n,_,_,_=>⟨by simp[nPs,wPs],fun h=>absurd rfl h⟩
 | p::l,n,hn,hp,ho=>by
  obtain⟨o1,o2,o3⟩:=ho;have e:=nP_eq hn (hp p (.head _));obtain⟨h1,h2⟩:=Jr l (nP n p) ⟨by omega,by omega⟩ (fun q hq=>hp q (.tail _ hq)) o3;refine⟨by rw[nPs,h1,e,wPs]; omega,fun _=> ?_⟩;rw[nPs]
  cases l with
  | nil=>exact o1
  | cons q l=>exact h2 (by simp)
theorem Js: ∀ (l:List aJ) (n:Int),0<=n/\n<=40000->(∀ t,t∈l->t.MP ≠ []/\t.MV.length<=32767/\ ∀ p,p∈t.MP->p.MW.length<=140737488351232)->CX n l->nTs n l=n+(wTq l:Int)
 | [],n,_,_,_=>by simp[nTs,wTq]
 | t::l,n,hn,ht,ho=>by
  obtain⟨o1,o2⟩:=ho;obtain⟨t1,t2,t3⟩:=ht t (.head _);have e:nT n t=n+((t.MV.length+10:Nat):Int):=by
   unfold nT;rw[yJ (n:=(t.MV.length:Int)+10) QR,yJ QR];omega
  obtain⟨h1,h2⟩:=Jr t.MP (nT n t) ⟨by omega,by omega⟩ t3 o1;have h2:=h2 t1;have h3:=Js l (nPs (nT n t) t.MP) ⟨by omega,by omega⟩ (fun u hu=>ht u (.tail _ hu)) o2;rw[nTs,h3,h1,e,wTq];omega
theorem qY: ∀ {l:List aJ} {p:Option (List UInt8)},rqT p l=0-> ∀ t,t∈l->t.MP ≠ []/\t.MV.length<=32767/\rqP none t.MP=true
 | c::l,p,h,t,ht=>by
  rw[rqT] at h;by_cases c0:c.MP.length=0
  ·rw[QX c0] at h; exact absurd h QS
  rw[QY c0] at h;by_cases c1:sO p c=true;rotate_left
  ·rw[QY c1] at h; exact absurd h QS
  rw[QX c1] at h;rcases List.mem_cons.1 ht with rfl | ht
  ·unfold sO at c1;simp only[Bool.and_eq_true,decide_eq_true_eq] at c1;exact⟨fun e=>c0 (by rw[e]; rfl),c1.1.1.2,c1.2⟩
  ·exact qY h t ht
theorem Dc: ∀ {l:List aY} {q:Option Int},rqP q l=true-> ∀ p,p∈l->0<=p.M8/\p.M8<=2147483647
 | c::l,q,h,p,hp=>by
  rw[rqP] at h;simp only[Bool.and_eq_true,okn,decide_eq_true_eq] at h;rcases List.mem_cons.1 hp with rfl | hp
  ·exact h.1.1
  ·exact Dc h.2 p hp
theorem BD: ∀ {l:List aY} {p:aY},p∈l->10+100*p.MW.length<=wPs l
 | c::l,p,h=>by
  rw[wPs];rcases List.mem_cons.1 h with rfl | h
  ·omega
  ·have:=BD h; omega
theorem BE: ∀ {l:List aJ} {t:aJ},t∈l->t.MV.length+10+wPs t.MP<=wTq l
 | c::l,t,h=>by
  rw[wTq];rcases List.mem_cons.1 h with rfl | h
  ·omega
  ·have:=BE h; omega
theorem FO: ∀ l:List aY,10*l.length<=wPs l
 | []=>N0 _
 | c::l=>by have:=FO l; rw[wPs,NJ]; omega
theorem FP: ∀ l:List aJ,10*l.length<=wTq l
 | []=>N0 _
 | c::l=>by have:=FP l; rw[wTq,NJ]; omega
def smQb (p:aY):Prop:= ∀ b,b∈p.MW->okB b/\(body b).length<=12000
theorem Dd {p:aY} (h:smQb p):(iO p).length<=121*(10+100*p.MW.length):=by
 have h1:=BB fU 12061 p.MW (fun x hx=>by have:=h x hx; rw[vB this.1]; omega);simp only[iO,NE,aE];omega
theorem Ax: ∀ l:List aY,(∀ p,p∈l->smQb p)->(bb iO l).length<=121*wPs l
 | [],_=>N0 _
 | p::l,h=>by
  have h1:=Dd (h p (.head _));have h2:=Ax l (fun q hq=>h q (.tail _ hq));rw[bb,NE,wPs];omega
theorem Ay: ∀ l:List aJ,(∀ t,t∈l-> ∀ p,p∈t.MP->smQb p)->(bb jz l).length<=121*wTq l
 | [],_=>N0 _
 | t::l,h=>by
  have h1:=Ax t.MP (h t (.head _));have h2:=Ay l (fun q hq=>h q (.tail _ hq));rw[bb,NE,wTq];simp only[jz,NE,aE];omega
theorem id_len {r:aA} (h:zj r):r.MU.data.length<=32767/\(r.MU.null=true->r.MU.data = []):=by
 have h1:=(yF r.MU.null r.MU.data r.MU rfl rfl).1 h.1;refine⟨?_,h1⟩;rcases h.2 with h2 | h2
 ·rw[h1 h2]; decide
 ·exact ((yE r.MU.data).1 h2).2
theorem gdQ_of {a:aA} (hw:gt a) (ho:CX (a.MU.data.length:Int) a.MN):gdQ a :=
 ⟨hw.2.2.1,hw.2.2.2.1,fun t ht=>⟨(hw.2.2.2.2 t ht).1,(hw.2.2.2.2 t ht).2.1,fun p hp=>⟨((hw.2.2.2.2 t ht).2.2 p hp).1,((hw.2.2.2.2 t ht).2.2 p hp).2.1,fun b hb=>(tX ho t ht p hp b hb).1.1⟩⟩⟩
theorem Jt {v:Int} {a:aA} (hw:gt a) (ho:CX (a.MU.data.length:Int) a.MN) (hn:nTs (a.MU.data.length:Int) a.MN<=2000) (hc:tY v a=0) :
 okQ v a/\(rW a).length<=300000/\ ∀ t,t∈a.MN->t.MV.length<=32767/\t.MP.length<=1000/\ ∀ p,p∈t.MP->p.MW.length<=1000/\ED p.MW:=by
 obtain⟨k1,k2,k3,k4⟩:=G6 hc;obtain⟨i1,i2⟩:=id_len k1;have hr:rqT none a.MN=0:=by
  unfold qW at k3;split at k3
  ·exact absurd k3 QS
  ·exact k3
 have hp: ∀ t,t∈a.MN-> ∀ p,p∈t.MP->p.MW.length<=140737488351232:=fun t ht p hp=>((hw.2.2.2.2 t ht).2.2 p hp).2.1;have e:=Js a.MN (a.MU.data.length:Int) ⟨by omega,by omega⟩ (fun t ht=>⟨(qY hr t ht).1,(qY hr t ht).2.1,hp t ht⟩) ho
 have hb: ∀ t,t∈a.MN-> ∀ p,p∈t.MP-> ∀ b,b∈p.MW->smB b/\(body b).length<=12000/\chk b=0:=fun t ht p hp b hb =>
  ⟨(tX ho t ht p hp b hb).1,(tX ho t ht p hp b hb).2,(EE (t6 (t7 k4 t ht) p hp) b hb).1⟩
 have hsm: ∀ t,t∈a.MN-> ∀ p,p∈t.MP->smQb p:=fun t ht p hp b hb'=>⟨okB_of (hb t ht p hp b hb').1 (hb t ht p hp b hb').2.2,(hb t ht p hp b hb').2.1⟩;have hl:=Ay a.MN hsm;have hl2:=FP a.MN;have big: ∀ t,t∈a.MN->t.MV.length<=32767/\t.MP.length<=1000/\ ∀ p,p∈t.MP->p.MW.length<=1000/\ED p.MW:=fun t ht=>by
  have m1:=BE ht;have m2:=FO t.MP;refine⟨(qY hr t ht).2.1,by omega,fun p hp=> ?_⟩;have m3:=BD hp;exact⟨by omega,fun b hb'=>⟨(hb t ht p hp b hb').1,(hb t ht p hp b hb').2.2⟩⟩
 refine⟨⟨⟨?_,k1.1⟩,jh (.inl rfl) (by have:=k2.1; omega) (by have:=k2.2.1; omega),?_,⟨jh (.inr (.inl rfl)) QR QR,fun t ht=> ?_⟩,hc⟩,?_,big⟩
 ·unfold blen;split
  ·decide
  ·exact jh (.inl rfl) QR QR
 ·have:=k2.2.2;show bn a.MT 4=true;rw[eU];exact NB QR
 ·have m0:=BE ht;have m1:=big t ht;refine⟨jh (.inl rfl) QR QR,jh (.inr (.inl rfl)) QR QR,fun p hp=> ?_⟩;have m2:=Dc (qY hr t ht).2.2 p hp;have m3:=Dd (hsm t ht p hp);have m4:=BD hp;have m5:(bb fU p.MW).length<=(iO p).length:=by simp only[iO,NE]; omega
  refine⟨?_,?_,fun b hb'=>(hsm t ht p hp b hb').1⟩
  ·show bn p.M8 4=true;rw[eU];exact NB QR
  ·show bn _ 4=true;rw[eU];exact NB QR
 ·simp only[rW,NE,aE];omega
def G7 (v:Int) (x:bd):Prop:=if v>0 then okFx x.MU/\bn x.MT 4=true/\bn x.MO 8=true/\bn x.MR 2=true/\gY x.MU x.MT x.MO x.MR v=0 else okFx x.MU/\bn x.MT 4=true/\gY x.MU x.MT x.MO x.MR v=0/\x.MO= -1/\x.MR= -1
theorem KC (v:Int):Sp (Da v) (Cv v) (G7 v):=by
 unfold Da;by_cases hv:v>0
 ·rw[QX hv];refine (Kd v).congr (fun x=>by unfold G7; rw[QX hv]) (fun x _=>by unfold Cv; rw[QX hv])
 ·rw[QY hv];refine (Ke v).congr (fun x=>by unfold G7; rw[QY hv]) (fun x _=>by unfold Cv; rw[QY hv])
def okEn (x:bY):Prop:=okTx x.MU/\bn x.MO 8=true/\bn x.MR 2=true/\qN x.MU x.MO x.MR=0
def okAd (x:bZ):Prop:=okTx x.MU/\bn x.MO 8=true/\bn x.MR 2=true/\zi x.MN/\qO x.MU x.MO x.MR x.MN=0
def okMs (v:Int) (l:List aR):Prop:=(bn (l.length:Int) 4=true/\ ∀ m,m∈l->okM v m)/\od v l=0
def kU (h:fO) (f:ay):List UInt8 :=
 if h.M1=22 then Cv h.MY f.Nh else if h.M1=24 then D9 f.Nj else if h.M1=26 then D8 f.Np else if h.M1=27 then vV h.MY f.Nb else rW f.MZ
def rX (h:fO) (f:ay):Prop :=
 if h.M1=22 then G7 h.MY f.Nh/\frB h f.Nh=f else if h.M1=24 then okAd f.Nj/\frA h f.Nj=f else if h.M1=26 then okEn f.Np/\frE h f.Np=f
 else if h.M1=27 then okMs h.MY f.Nb/\frM h f.Nb=f else okQ h.MY f.MZ/\frP h f.MZ=f
theorem KD (h:fO):Sp (wU h) (kU h) (rX h):=by
 unfold wU;by_cases h22:h.M1=22
 ·rw[QX h22];exact ((KC h.MY).map (frB h) (fun f=>f.Nh) (fun _=>rfl)).congr (fun f=>by unfold rX; rw[QX h22]) (fun f _=>by unfold kU; rw[QX h22])
 rw[QY h22];by_cases h24:h.M1=24
 ·rw[QX h24];exact (Sp_add.map (frA h) (fun f=>f.Nj) (fun _=>rfl)).congr (fun f=>by unfold rX okAd; rw[QY h22,QX h24]) (fun f _=>by unfold kU; rw[QY h22,QX h24])
 rw[QY h24];by_cases h26:h.M1=26
 ·rw[QX h26];exact (Sp_end.map (frE h) (fun f=>f.Np) (fun _=>rfl)).congr (fun f=>by unfold rX okEn; rw[QY h22,QY h24,QX h26]) (fun f _=>by unfold kU; rw[QY h22,QY h24,QX h26])
 rw[QY h26];by_cases h27:h.M1=27
 ·rw[QX h27];exact ((Iv h.MY).map (frM h) (fun f=>f.Nb) (fun _=>rfl)).congr (fun f=>by unfold rX okMs; rw[QY h22,QY h24,QY h26,QX h27]) (fun f _=>by unfold kU; rw[QY h22,QY h24,QY h26,QX h27])
 rw[QY h27];exact ((Sp_prq h.MY).map (frP h) (fun f=>f.MZ) (fun _=>rfl)).congr (fun f=>by unfold rX; rw[QY h22,QY h24,QY h26,QY h27]) (fun f _=>by unfold kU; rw[QY h22,QY h24,QY h26,QY h27])
theorem Az {h:fO} {f:ay} (k:rX h f):f.MQ=h:=by
 unfold rX at k
 repeat' split at k
 all_goals rw[<- k.2]; rfl
def gZ (f:ay):List UInt8:=px f.MQ++kU f.MQ f
def okIn (f:ay):Prop:=okH f.MQ/\rX f.MQ f
theorem Sp_in:Sp pIn gZ okIn:=by
 refine J8.seq (π:=fun f:ay=>f.MQ) (enc2:=fun f=>kU f.MQ f) (ok2:=fun f=>rX f.MQ f) (fun a=>(KD a).congr (fun f=>⟨fun k=> ?_,fun k=> ?_⟩) (fun f k=> ?_))
 ·rw[Az k]; exact⟨k,rfl⟩
 ·have:=k.1; rw[k.2] at this; exact this
 ·rw[Az k]
def bx (f:ay):List UInt8:=be ((gZ f).length:Int) 4++gZ f
def okFr (f:ay):Prop:=okIn f/\bn ((gZ f).length:Int) 4=true
theorem opn_of {f:ay} (h:okIn f):opn (gZ f)=(f,0):=by
 have hb:=Sp_in.back (gZ f) [] 0 f (NY _) h (by simp);unfold opn;rw[hb];simp only[Db,Nat.zero_add];rw[QY QR]
theorem Ju {s t:List UInt8} {q:Nat} {f:ay} (hq:q<=s.length) (h:okFr f) (hd:s.drop q=bx f++t):pFrm s q= .ok (f,q+(bx f).length):=by
 have hd':s.drop q=be ((gZ f).length:Int) 4++(gZ f++t):=by rw[hd,bx,NI]
 have hp:=(ei 4 QS QS).back s _ q _ hq h.2 hd';have hb4:(be ((gZ f).length:Int) 4).length=4:=aE _ _;have hr:s.drop (q+(be ((gZ f).length:Int) 4).length)=gZ f++t:=cz hd';have hl:=congrArg List.length hr;rw[NO,NE] at hl;have hl0:=congrArg List.length hd';rw[NO,NE,NE,hb4] at hl0;unfold pFrm;rw[hp];simp only;rw[QY QR,QY QR,hr,OB,List.take_append_of_le_length (N0 _),List.take_length,opn_of h.1];rw[QX rfl,bx,NE,Nat.add_assoc]
def smF (f:ay):Prop:=wTs f.Nj.MN<=2000/\(∀ m,m∈f.Nb->wTs m.MN<=2000)/\(bb (mG f.MQ.MY) f.Nb).length<=300000/\(f.MQ.M1≠22->f.MQ.M1≠24->f.MQ.M1≠26->f.MQ.M1≠27->gdQ f.MZ/\(rW f.MZ).length<=300000/\ ∀ t,t∈f.MZ.MN->t.MV.length<=32767/\t.MP.length<=1000/\ ∀ p,p∈t.MP->p.MW.length<=1000/\ED p.MW)
theorem Jv (h:fO):(px h).length=10+h.MX.data.length:=by
 simp only[px,NE,aE]; omega
def FQ (s:List UInt8):ay×Int:=Db s (pFrm s 0)
theorem EF (s:List UInt8) (hs:s.length<=1000000):jf s=some (FQ s):=by
 unfold jf FQ;rw[kp s QR];simp only[NA];have h0:=B_frm.run s 0 hs (NY _);rw[List.drop_zero] at h0;rcases h0 with⟨e,st,p1,g1,x1,y1⟩ | ⟨f,r,p1,g1,n1,l1⟩
 ·rw[g1,p1];simp only[NA,gM,Jp y1,Db];rw[QY y1,x1];rfl
 ·rw[g1,p1];simp only[NA,gM,Jq s r l1,Db];by_cases hr:r<s.length
  ·rw[QX hr,QX hr];rfl
  ·rw[QY hr,QY hr];rfl
def pF (h:fO):iL:=⟨h.M1,h.MY,h.M6,h.MX⟩
def z20:bM:=⟨⟨false,[]⟩,0,0,[]⟩
def nF (f:ay):ay :=
 if f.MQ.M1=22 then frB f.MQ f.Nh else if f.MQ.M1=24 then frA f.MQ f.Nj else if f.MQ.M1=26 then frE f.MQ f.Np else if f.MQ.M1=27 then frM f.MQ f.Nb else frP f.MQ f.MZ
def ofF (f:ay):cI :=
 if f.MQ.M1=0 then ⟨pF f.MQ,zR,[],ofQ f.MZ⟩ else if f.MQ.M1=22 then ⟨pF f.MQ,gB f.Nh,[],z20⟩ else if f.MQ.M1=24 then ⟨pF f.MQ,gA f.Nj,[],z20⟩
 else if f.MQ.M1=26 then ⟨pF f.MQ,gE f.Np,[],z20⟩ else if f.MQ.M1=27 then ⟨pF f.MQ,zR,f.Nb.map toR,z20⟩ else ⟨pF f.MQ,zR,[],z20⟩
theorem ry (f:ay):(nF f).MQ=f.MQ:=by
 unfold nF
 repeat' split
 all_goals rfl
theorem of21 (f:ay) (hm:f.Nb.length<=1000000) (hq:f.MQ.M1=0->mY f.MZ=some (ofQ f.MZ)):jO f=some (ofF f):=by
 unfold jO ofF;by_cases h0:f.MQ.M1=0
 ·rw[QX h0,QX h0,hq h0]; rfl
 rw[QY h0,QY h0];by_cases h22:f.MQ.M1=22
 ·rw[QX h22,QX h22]; rfl
 rw[QY h22,QY h22];by_cases h24:f.MQ.M1=24
 ·rw[QX h24,QX h24]; rfl
 rw[QY h24,QY h24];by_cases h26:f.MQ.M1=26
 ·rw[QX h26,QX h26]; rfl
 rw[QY h26,QY h26];by_cases h27:f.MQ.M1=27
 ·rw[QX h27,QX h27,of_eq f.Nb hm]; rfl
 rw[QY h27,QY h27];rfl
theorem of_nF (f:ay) (hk:f.MQ.M1=0\/f.MQ.M1=22\/f.MQ.M1=24\/f.MQ.M1=26\/f.MQ.M1=27):ofF (nF f)=ofF f:=by
 unfold ofF;rw[ry];unfold nF;rcases hk with h | h | h | h | h <;> simp[h,frB,frA,frE,frM,frP]
def qa (f:ay):Int :=
 if tI f.MQ=0 then (if f.MQ.M1=0 then tY f.MQ.MY f.MZ else if f.MQ.M1=27 then od f.MQ.MY f.Nb else if f.MQ.M1=22 then gY f.Nh.MU f.Nh.MT f.Nh.MO f.Nh.MR f.MQ.MY
  else if f.MQ.M1=24 then qO f.Nj.MU f.Nj.MO f.Nj.MR f.Nj.MN else qN f.Np.MU f.Np.MO f.Np.MR) else tI f.MQ
theorem rz {h:fO} (k:tI h=0):(h.M1=0/\(h.MY=3\/h.MY=4))\/((h.M1=22\/h.M1=24\/h.M1=26\/h.M1=27)/\(h.MY=0\/h.MY=1)):=by
 have hv:=(Ii k).1;unfold gV gU at hv;by_cases h0:h.M1=0
 ·simp[h0] at hv;exact .inl ⟨h0,by omega⟩
 by_cases h1:h.M1=22
 ·simp[h1] at hv;exact .inr ⟨.inl h1,by omega⟩
 by_cases h2:h.M1=24
 ·simp[h2] at hv;exact .inr ⟨.inr (.inl h2),by omega⟩
 by_cases h3:h.M1=26
 ·simp[h3] at hv;exact .inr ⟨.inr (.inr (.inl h3)),by omega⟩
 by_cases h4:h.M1=27
 ·simp[h4] at hv;exact .inr ⟨.inr (.inr (.inr h4)),by omega⟩
 simp[h0,h1,h2,h3,h4] at hv
structure sQ (f:ay):Prop where
 wf:iE f
 cl:f.MQ.MX.data.length<=1000
 bg:f.Nh.MU.data.length<=1000
 ad:f.Nj.MU.length<=1000
 en:f.Np.MU.length<=1000
 ts:wTs f.Nj.MN<=1000
 ml:f.Nb.length<=20
 mt: ∀ m,m∈f.Nb->wTs m.MN<=1000
 pq:CX (f.MZ.MU.data.length:Int) f.MZ.MN
 pn:nTs (f.MZ.MU.data.length:Int) f.MZ.MN<=2000
theorem few21 (f:ay) (hw:iE f):mQ f=some 0\/(mQ f=some 1/\sQ f):=by
 obtain⟨w1,w2,w3,w4,w5,w6⟩:=hw;have hw:iE f:=⟨w1,w2,w3,w4,w5,w6⟩;unfold mQ;by_cases h1:(f.MQ.MX.data.length:Int)>1000
 ·rw[QX h1]; exact .inl rfl
 rw[QY h1];by_cases h2:(f.Nh.MU.data.length:Int)>1000
 ·rw[QX h2]; exact .inl rfl
 rw[QY h2];by_cases h3:(f.Nj.MU.length:Int)>1000
 ·rw[QX h3]; exact .inl rfl
 rw[QY h3];by_cases h4:(f.Np.MU.length:Int)>1000
 ·rw[QX h4]; exact .inl rfl
 rw[QY h4];rcases Im f.Nj.MN w3.2.2.2.2 with h5 | ⟨h5,k5⟩
 ·rw[h5]; exact .inl rfl
 rw[h5];rcases few19 f.Nb w5.2 with h6 | ⟨h6,k6,m6⟩
 ·rw[NA,QY QS,h6]; exact .inl rfl
 rw[NA,QY QS,h6];rcases q_few w6 with h7 | ⟨h7,k7,m7⟩
 ·rw[NA,QY QS,h7]; exact .inl rfl
 rw[NA,QY QS,h7];exact .inr ⟨rfl,hw,by omega,by omega,by omega,by omega,k5,k6,m6,k7,m7⟩
theorem De {f:ay} (h:sQ f):gdQ f.MZ:=gdQ_of h.wf.2.2.2.2.2 h.pq
theorem KE {f:ay} (h:sQ f):wTl f.Nj.MN:=by
 have hn:=mF f.Nj.MN;exact⟨h.wf.2.2.1.2.2.2.2,by have:=h.ts; omega⟩
theorem few_of {f:ay} (h:sQ f):jO f=some (ofF f):=of21 f (by have:=h.ml; omega) (fun _=>FN (De h))
theorem KF {f:ay} (h:sQ f):lO (ofF f)=some (qa f):=by
 unfold lO qa;have hh:(ofF f).MQ=pF f.MQ:=by
  unfold ofF
  repeat' split
  all_goals rfl
 rw[hh,Gw];have e:(⟨(pF f.MQ).M1,(pF f.MQ).MY,(pF f.MQ).M6,(pF f.MQ).MX⟩:fO)=f.MQ:=rfl;rw[e,NA];by_cases hc:tI f.MQ=0
 ·rw[QX hc,QX hc];have hb: ∀ {t:Top} {l:List Top},wTs l<=1000->t∈l->t.MP.length<=1000000/\t.MV.length<=1000000:=fun {t l} hw ht=>by
   have:=tN _ _ ht;unfold wT at this;exact⟨by omega,by omega⟩
  show (if f.MQ.M1=0 then _ else _)= _;rcases rz hc with⟨h0,hv⟩ | ⟨hk,hv⟩
  ·rw[QX h0,QX h0];have:(ofF f).MZ=ofQ f.MZ:=by unfold ofF; rw[QX h0]
   rw[this];show (kg (ofQ f.MZ) f.MQ.MY).bind _= _;rw[Jl f.MZ _ hv (De h)];rfl
  ·have h0:f.MQ.M1≠0:=by omega
   rw[QY h0,QY h0];show (if f.MQ.M1=27 then _ else _)= _;by_cases h27:f.MQ.M1=27
   ·rw[QX h27,QX h27];have:(ofF f).Nb=f.Nb.map toR:=by unfold ofF; rw[QY h0,QY QR,QY QR,QY QR,QX h27]
    rw[this];show (kj (f.Nb.map toR) f.MQ.MY).bind _= _;rw[GB f.MQ.MY f.Nb (by have:=h.ml; omega) (fun m hm=>⟨by have:=mF m.MN; have:=h.mt m hm; omega,fun t ht=>hb (h.mt m hm) ht⟩)];rfl
   ·rw[QY h27,QY h27];show (ki f.MQ.M1 f.MQ.MY (ofF f).Ni).bind _= _;by_cases h22:f.MQ.M1=22
    ·have:(ofF f).Ni=gB f.Nh:=by unfold ofF; rw[QY h0,QX h22]
     rw[this,vv _ _ hv _ (fun h=>absurd h22 h) (NY _) (fun t ht=>absurd ht List.not_mem_nil),QX h22];unfold chkR;rw[QX h22];rfl
    ·rw[QY h22];by_cases h24:f.MQ.M1=24
     ·have:(ofF f).Ni=gA f.Nj:=by unfold ofF; rw[QY h0,QY h22,QX h24]
      rw[this,vv _ _ hv _ (fun _=>rfl) (KE h).2 (fun t ht=>hb h.ts ht),QX h24];unfold chkR;rw[QY h22,QX h24];rfl
     ·have h26:f.MQ.M1=26:=by omega
      have:(ofF f).Ni=gE f.Np:=by unfold ofF; rw[QY h0,QY h22,QY h24,QX h26]
      rw[this,vv _ _ hv _ (fun _=>rfl) (NY _) (fun t ht=>absurd ht List.not_mem_nil),QY h24];unfold chkR;rw[QY h22,QY h24];rfl
 ·rw[QY hc,QY hc]
theorem G8 {d:List UInt8} {p e:Int} (h:qN d p e=0):dS d=true/\who p e=true:=by
 unfold qN at h;by_cases h1:dS d=true
 ·rw[QX h1] at h;by_cases h2:who p e=true
  ·exact⟨h1,h2⟩
  ·rw[QY h2] at h; exact absurd h QS
 ·rw[QY h1] at h; exact absurd h QS
theorem FR {d:List UInt8} (h:dS d=true):okTx d:=⟨by have:=xZ h; rw[xY]; exact NB QR,rfl⟩
theorem Jw {f:ay} (h:f.MQ.M1=22):nF f=frB f.MQ f.Nh:=by unfold nF; rw[QX h]
theorem Jx {f:ay} (h:f.MQ.M1=24):nF f=frA f.MQ f.Nj:=by unfold nF; rw[QY QR,QX h]
theorem Jy {f:ay} (h:f.MQ.M1=26):nF f=frE f.MQ f.Np:=by unfold nF; rw[QY QR,QY QR,QX h]
theorem Jz {f:ay} (h:f.MQ.M1=27):nF f=frM f.MQ f.Nb:=by unfold nF; rw[QY QR,QY QR,QY QR,QX h]
theorem nF_0 {f:ay} (h:f.MQ.M1=0):nF f=frP f.MQ f.MZ:=by unfold nF; rw[QY QR,QY QR,QY QR,QY QR]
theorem KG {v:Int} (hv:v=0\/v=1) {x:bd} (hw:qK x) (h:gY x.MU x.MT x.MO x.MR v=0):G7 v x:=by
 obtain⟨c1,c2,c3,c4⟩:=Ea h;have f1:=Kf c1 c2;have ft:bn x.MT 4=true:=by rw[eU]; exact NB QR
 unfold G7;rcases hv with rfl | rfl
 ·rw[QY QS];rcases c4 with c4 | c4
  ·exact⟨⟨f1.1,c1⟩,ft,h,c4⟩
  ·exact absurd c4.1 QS
 ·rw[QX QS];rcases c4 with c4 | c4
  ·exact⟨⟨f1.1,c1⟩,ft,by rw[c4.1]; decide,by rw[c4.2]; decide,h⟩
  ·have:=tP c4.2 hw.2.2.1;exact⟨⟨f1.1,c1⟩,ft,this.1,this.2,h⟩
theorem vE {f:ay} (h:sQ f) (hc:qa f=0):okFr (nF f)/\smF (nF f)/\(gZ (nF f)).length<=302000/\ofF (nF f)=ofF f:=by
 have hh:tI f.MQ=0:=by
  unfold qa at hc;by_cases hh:tI f.MQ=0
  ·exact hh
  ·rw[QY hh] at hc; exact absurd hc hh
 unfold qa at hc;rw[QX hh] at hc;have hv:=rz hh;have hof:ofF (nF f)=ofF f:=of_nF f QR;have hkey:rX f.MQ (nF f)/\smF (nF f)/\(kU f.MQ (nF f)).length<=300010:=by
  obtain⟨w1,w2,w3,w4,w5,w6⟩:=h.wf;have em: ∀ m:aR,m∈([]:List aR)->wTs m.MN<=2000:=fun m hm=>absurd hm List.not_mem_nil;rcases hv with⟨h0,hv⟩ | ⟨hk,hv⟩
  ·rw[QX h0] at hc;rw[nF_0 h0];obtain⟨q1,q2,q3⟩:=Jt w6 h.pq h.pn hc;refine⟨?_,⟨NY _,em,by simp[frP,bb],fun _ _ _ _=>(⟨De h,q2,q3⟩:gdQ f.MZ/\ _)⟩,?_⟩
   ·unfold rX; rw[QY QR,QY QR,QY QR,QY QR]; exact⟨q1,rfl⟩
   ·unfold kU; rw[QY QR,QY QR,QY QR,QY QR]; show (rW f.MZ).length<= _; omega
  ·have h0:f.MQ.M1≠0:=by omega
   rw[QY h0] at hc;by_cases h27:f.MQ.M1=27
   ·rw[QX h27] at hc;rw[Jz h27];have hf:ln f.MQ.MY f.Nb=0:=by
     unfold od at hc;split at hc
     ·exact absurd hc QS
     ·exact hc
    have hl:=vx f.MQ.MY f.Nb 1000 h.mt;have hml:=h.ml;have hl2:(bb (mG f.MQ.MY) f.Nb).length<=20380:=Nat.le_trans hl (Nat.le_trans (Nat.mul_le_mul_right _ hml) QS);refine⟨?_,⟨NY _,fun m hm=>by have:=h.mt m hm; omega,?_,fun _ _ _ k=>absurd h27 k⟩,?_⟩
    ·unfold rX;rw[QY QR,QY QR,QY QR,QX h27];exact⟨⟨⟨by rw[show (frM f.MQ f.Nb).Nb=f.Nb from rfl,eU]; exact NB QR,fun m hm=>Kl hv (vW hf m hm) (w5.2 m hm).1 (by have:=h.mt m hm; omega)⟩,hc⟩,rfl⟩
    ·show (bb (mG f.MQ.MY) f.Nb).length<= _; omega
    ·unfold kU;rw[QY QR,QY QR,QY QR,QX h27];show (vV f.MQ.MY f.Nb).length<= _;rw[vV,NE,aE];omega
   rw[QY h27] at hc;by_cases h22:f.MQ.M1=22
   ·rw[QX h22] at hc;rw[Jw h22];refine⟨?_,⟨NY _,em,by simp[frB,bb],fun k=>absurd h22 k⟩,?_⟩
    ·unfold rX; rw[QX h22]; exact⟨KG hv w2 hc,rfl⟩
    ·unfold kU; rw[QX h22];show (Cv f.MQ.MY f.Nh).length<= _;have:=h.bg;unfold Cv Fg Cu z3;split
     ·simp only[NE,aE]; omega
     ·simp only[NE,aE]; omega
   rw[QY h22] at hc;by_cases h24:f.MQ.M1=24
   ·rw[QX h24] at hc;rw[Jx h24];obtain⟨c1,c2,c3⟩:=Gz hc;have hw:=tP c2 w3.2.1;have hts:=h.ts;have hn:=mF f.Nj.MN;refine⟨?_,⟨by show wTs f.Nj.MN<= _; omega,em,by simp[frA,bb],fun _ k=>absurd h24 k⟩,?_⟩
    ·unfold rX; rw[QY h22,QX h24];exact⟨⟨FR c1,hw.1,hw.2,⟨by rw[show (frA f.MQ f.Nj).Nj.MN=f.Nj.MN from rfl,eU]; exact NB QR,Fe (z4 c3).2 (by show wTs f.Nj.MN<= _; omega)⟩,hc⟩,rfl⟩
    ·unfold kU; rw[QY h22,QX h24];show (D9 f.Nj).length<= _;have:=h.ad;simp only[D9,tO,oc,NE,aE,lm];omega
   rw[QY h24] at hc;have h26:f.MQ.M1=26:=by omega
   rw[Jy h26];obtain⟨c1,c2⟩:=G8 hc;have hw:=tP c2 w4.2.1;refine⟨?_,⟨NY _,em,by simp[frE,bb],fun _ _ k=>absurd h26 k⟩,?_⟩
   ·unfold rX; rw[QY h22,QY h24,QX h26]; exact⟨⟨FR c1,hw.1,hw.2,hc⟩,rfl⟩
   ·unfold kU; rw[QY h22,QY h24,QX h26];show (D8 f.Np).length<= _;have:=h.en;have hb:(jv f.Np.M7).length<=1:=by cases f.Np.M7 <;> decide
    simp only[D8,tO,NE,aE];omega
 obtain⟨k1,k2,k3⟩:=hkey;have hcl:=h.cl;have hl:(gZ (nF f)).length<=302000:=by
  rw[gZ,ry,NE,Jv];omega
 refine⟨⟨⟨by rw[ry]; exact Ii hh,by rw[ry]; exact k1⟩,by rw[eU]; exact NB QR⟩,k2,hl,hof⟩
theorem vF (k v:Int) (hk:k=22\/k=24\/k=26) (hv:v=0\/v=1) (r:bJ) (hn:k≠22->r.MU.null=false) (hm:wI r.MT) (hp:wI r.MO) (he:wI r.MR) (hl: ∀ t,t∈r.MN->kM t) (hw2:wTs r.MN<=2000) (hd:r.MU.data.length<=100000):iZ k v r=some (encR k v r):=by
 unfold iZ encR;have l8:=aE r.MO 8;have l2:=aE r.MR 2;have l4:=aE r.MT 4;have l1: ∀ n,(be n 1).length=1:=fun n=>aE n 1;have lb:(be (blen r.MU) 2++r.MU.data).length<=100002:=by rw[NE,aE]; omega
 rw[ka _ _ ⟨by decide,by decide,by omega⟩,NA,show (2:Int).toNat=2 from rfl];by_cases h22:k=22
 ·rw[QX h22,QX h22,bT _ _ ⟨hm,by decide,by decide⟩,NA,show (4:Int).toNat=4 from rfl,QX QR];unfold Cv;rcases hv with rfl | rfl
  ·rw[QX rfl,QY QS];rfl
  ·rw[QY QS,QX QS,bT _ _ ⟨hp,by decide,by decide⟩,NA,show (8:Int).toNat=8 from rfl,QX (by rw[NE]; omega),bT _ _ ⟨he,by decide,by decide⟩,NA,show (2:Int).toNat=2 from rfl,QX (by rw[NE,NE]; omega)];simp only[Cu,z3,toB,NI]
 ·have hnull:=hn h22;have hbl:blen r.MU=(r.MU.data.length:Int):=by unfold blen; rw[QY (by simp[hnull])]
  rw[QY h22,QY h22,bT _ _ ⟨hp,by decide,by decide⟩,NA,show (8:Int).toNat=8 from rfl,QX QR,bT _ _ ⟨he,by decide,by decide⟩,NA,show (2:Int).toNat=2 from rfl,QX (by rw[NE]; omega),hbl];rcases hk with rfl | rfl | rfl
  ·exact absurd rfl h22
  ·have hts:(be (r.MN.length:Int) 4++bb lU r.MN).length<=2004:=by rw[NE,aE,lm]; omega
   rw[QX rfl,QX rfl,Fd _ hl hw2,NA,QX (by rw[NE,NE,<- hbl]; omega)];simp only[D9,tO,oc,toA,NI]
  ·rw[QY (show ¬ (26:Int)=24 by decide),QX rfl,NA,QY (show ¬ (26:Int)=24 by decide)];unfold D8 jv
   cases hc:(toE r).M7 with
   | true =>
    have hc:r.M7=true:=hc;rw[hc,QX rfl,QX rfl,bT _ _ ⟨by decide,by decide,by decide⟩,NA,show (1:Int).toNat=1 from rfl,QX (by rw[NE,NE,l1,<- hbl]; omega)];simp only[tO,toE,NI]
   | false =>
    have hc:r.M7=false:=hc;rw[hc,QY QS,QX rfl,bT _ _ ⟨by decide,by decide,by decide⟩,NA,show (1:Int).toNat=1 from rfl,QX (by rw[NE,NE,l1,<- hbl]; omega)];simp only[tO,toE,NI];rfl
theorem vG (r:bJ) (h1:r.MN.length<=1000000) (h2: ∀ t,t∈r.MN->t.MP.length<=140737488355328):lg r r=some true:=by
 unfold lg;rw[QX rfl,QX rfl,QX rfl,QX rfl,QX rfl,Cp _ _ h1 h2,vT];cases r.M7 <;> rfl
theorem G9 {f:ay} (h:sQ f) (hk:f.MQ.M1=0\/f.MQ.M1=22\/f.MQ.M1=24\/f.MQ.M1=26\/f.MQ.M1=27):jO (nF f)=some (ofF f):=by
 rw[<- of_nF f hk];refine of21 (nF f) ?_ ?_
 ·have:=h.ml;rcases hk with k | k | k | k | k
  ·rw[nF_0 k]; exact NY _
  ·rw[Jw k]; exact NY _
  ·rw[Jx k]; exact NY _
  ·rw[Jy k]; exact NY _
  ·rw[Jz k]; show f.Nb.length<= _; omega
 ·rw[ry];intro k;rw[nF_0 k];show mY f.MZ=some (ofQ f.MZ);exact FN (De h)
theorem qZ:iX z20 z20=some true:=by
 have:=wa (b:=zQ) zQ_gd;rw[yx] at this;exact this
theorem ra:jW [] []=some true:=by
 have:=Cw [] [] QS (fun m hm=>absurd hm List.not_mem_nil);exact this
theorem JA {f:ay} (h:sQ f):nh (ofF f) (ofF f)=some true:=by
 have hb: ∀ {t:Top} {l:List Top},wTs l<=1000->t∈l->t.MP.length<=140737488355328:=fun {t l} hw ht=>by
  have:=tN _ _ ht;unfold wT at this;omega
 have h18:lg (ofF f).Ni (ofF f).Ni=some true:=by
  have hn:=mF f.Nj.MN;have hts:=h.ts;unfold ofF;split
  ·exact vG zR QS (fun t ht=>absurd ht List.not_mem_nil)
  split
  ·exact vG (gB f.Nh) (NY _) (fun t ht=>absurd ht List.not_mem_nil)
  split
  ·exact vG (gA f.Nj) (by show f.Nj.MN.length<= _; omega) (fun t ht=>hb hts ht)
  split
  ·exact vG (gE f.Np) (NY _) (fun t ht=>absurd ht List.not_mem_nil)
  split
  ·exact vG zR QS (fun t ht=>absurd ht List.not_mem_nil)
  ·exact vG zR QS (fun t ht=>absurd ht List.not_mem_nil)
 have h19:jW (ofF f).Nb (ofF f).Nb=some true:=by
  unfold ofF;split
  ·exact ra
  split
  ·exact ra
  split
  ·exact ra
  split
  ·exact ra
  split
  ·have:=Cw f.Nb f.Nb (by have:=h.ml; omega) (fun m hm=>⟨by have:=mF m.MN; have:=h.mt m hm; omega,fun t ht=>hb (h.mt m hm) ht⟩);rw[NB rfl] at this;exact this
  ·exact ra
 have h20:iX (ofF f).MZ (ofF f).MZ=some true:=by
  unfold ofF;split
  ·have:=wa (b:=f.MZ) (De h);rw[yx] at this;exact this
  split
  ·exact qZ
  split
  ·exact qZ
  split
  ·exact qZ
  split
  ·exact qZ
  ·exact qZ
 unfold nh;rw[QX rfl,QX rfl,QX rfl,QX rfl,QX rfl,h18,NA,QX rfl,h19,NA,QX rfl,h20];rfl
theorem JB {f:ay} (hc:qa f=0):f.MQ.M1=0\/f.MQ.M1=22\/f.MQ.M1=24\/f.MQ.M1=26\/f.MQ.M1=27:=by
 have hh:tI f.MQ=0:=by
  unfold qa at hc;by_cases hh:tI f.MQ=0
  ·exact hh
  ·rw[QY hh] at hc; exact absurd hc hh
 have:=rz hh;omega
theorem AA {f:ay} (h:sQ f) (hc:qa f=0):(bx (nF f)).length<=302004:=by
 obtain⟨k1,k2,k3,k4⟩:=vE h hc;rw[bx,NE,aE];omega
theorem JC (f:ay):(ofF f).MQ=pF f.MQ:=by
 unfold ofF
 repeat' split
 all_goals rfl
theorem chkF_H {f:ay} (hc:qa f=0):tI f.MQ=0:=by
 unfold qa at hc;by_cases hh:tI f.MQ=0
 ·exact hh
 ·rw[QY hh] at hc; exact absurd hc hh
theorem JD {f:ay} (h:sQ f) (hc:qa f=0):(if f.MQ.M1=0 then iW (ofF f).MZ else if f.MQ.M1=27 then jb (ofF f).Nb f.MQ.MY else iZ f.MQ.M1 f.MQ.MY (ofF f).Ni)=some (kU f.MQ (nF f)):=by
 have hh:=chkF_H hc;have hc':=hc;unfold qa at hc;rw[QX hh] at hc;obtain⟨w1,w2,w3,w4,w5,w6⟩:=h.wf;unfold kU;rcases rz hh with⟨h0,hv⟩ | ⟨hk,hv⟩
 ·rw[QX h0] at hc ⊢;rw[QY QR,QY QR,QY QR,QY QR,nF_0 h0];have e:(ofF f).MZ=ofQ f.MZ:=by unfold ofF; rw[QX h0]
  obtain⟨q1,q2,q3⟩:=Jt w6 h.pq h.pn hc;have n1:=ob (ok:=C9) yH f.MZ.MN q1.2.2.2.1.2;have hl:=q2;simp only[rW,NE,aE] at hl;rw[e,G5 ⟨iA q1.2.1,iA q1.2.2.1⟩ QR (fun t ht=>⟨by have:=(q3 t ht).2.1; omega,fun p hp=>⟨iA ((q1.2.2.2.1.2 t ht).2.2 p hp).1,by have:=((q3 t ht).2.2 p hp).1; omega,((q3 t ht).2.2 p hp).2⟩⟩) QR];rfl
 ·have h0:f.MQ.M1≠0:=by omega
  rw[QY h0] at hc ⊢;by_cases h27:f.MQ.M1=27
  ·rw[QX h27] at hc ⊢;rw[QY QR,QY QR,QY QR,QX h27,Jz h27];have e:(ofF f).Nb=f.Nb.map toR:=by unfold ofF; rw[QY h0,QY QR,QY QR,QY QR,QX h27]
   have hl:=vx f.MQ.MY f.Nb 1000 h.mt;have hml:=h.ml;have hl2:(bb (mG f.MQ.MY) f.Nb).length<=20380:=Nat.le_trans hl (Nat.le_trans (Nat.mul_le_mul_right _ hml) QS);rw[e,GE _ hv f.Nb QR (fun m hm=>⟨(w5.2 m hm).1,(w5.2 m hm).2.1,(w5.2 m hm).2.2.2.2,(w5.2 m hm).2.2.2.1.2,by have:=h.mt m hm; omega⟩) QR];rfl
  rw[QY h27] at hc ⊢;by_cases h22:f.MQ.M1=22
  ·rw[QX h22,Jw h22];have e:(ofF f).Ni=gB f.Nh:=by unfold ofF; rw[QY h0,QX h22]
   rw[e,vF _ _ (.inl h22) hv _ (fun k=>absurd h22 k) w2.2.1 w2.2.2.1 w2.2.2.2 (fun t ht=>absurd ht List.not_mem_nil) (NY _) (by show f.Nh.MU.data.length<= _; have:=h.bg; omega)];unfold encR;rw[QX h22];rfl
  by_cases h24:f.MQ.M1=24
  ·rw[QY h22,QX h24,Jx h24];have e:(ofF f).Ni=gA f.Nj:=by unfold ofF; rw[QY h0,QY h22,QX h24]
   rw[e,vF _ _ (.inr (.inl h24)) hv _ (fun _=>rfl) wi0 w3.2.1 w3.2.2.1 w3.2.2.2.2 (by show wTs f.Nj.MN<= _; have:=h.ts; omega) (by show f.Nj.MU.length<= _; have:=h.ad; omega)];unfold encR;rw[QY h22,QX h24];rfl
  ·have h26:f.MQ.M1=26:=by omega
   rw[QY h22,QY h24,QX h26,Jy h26];have e:(ofF f).Ni=gE f.Np:=by unfold ofF; rw[QY h0,QY h22,QY h24,QX h26]
   rw[e,vF _ _ (.inr (.inr h26)) hv _ (fun _=>rfl) wi0 w4.2.1 w4.2.2.1 (fun t ht=>absurd ht List.not_mem_nil) (NY _) (by show f.Np.MU.length<= _; have:=h.en; omega)];unfold encR;rw[QY h22,QY h24];rfl
theorem KH {f:ay} (h:sQ f) (hc:qa f=0):ky (ofF f)=some (bx (nF f)):=by
 have hb:=JD h hc;obtain⟨k1,k2,k3,k4⟩:=vE h hc;have hin:gZ (nF f)=px f.MQ++kU f.MQ (nF f):=by rw[gZ,ry]
 have hl:(px f.MQ).length+(kU f.MQ (nF f)).length<=302000:=by rw[<- NE,<- hin]; exact k3
 have hw:=h.wf.1;unfold ky;rw[JC,Gv (pF f.MQ) hw.1 hw.2.1 hw.2.2.1 (by show f.MQ.MX.data.length<= _; have:=h.cl; omega),NA];have e:(⟨(pF f.MQ).M1,(pF f.MQ).MY,(pF f.MQ).M6,(pF f.MQ).MX⟩:fO)=f.MQ:=rfl;have e0:(pF f.MQ).M1=f.MQ.M1:=rfl;have e1:(pF f.MQ).MY=f.MQ.MY:=rfl;rw[e,e0,e1];have key:((if f.MQ.M1=0 then ((iW (ofF f).MZ).bind fun x33=>if (px f.MQ).length+x33.length<=9223372036854775807 then some (px f.MQ++x33) else none) else ((if f.MQ.M1=27 then ((jb (ofF f).Nb f.MQ.MY).bind fun x46=>if (px f.MQ).length+x46.length<=9223372036854775807 then some (px f.MQ++x46) else none) else ((iZ f.MQ.M1 f.MQ.MY (ofF f).Ni).bind fun x49=>if (px f.MQ).length+x49.length<=9223372036854775807 then some (px f.MQ++x49) else none)).bind fun y43=>some y43)):Option (List UInt8))=some (gZ (nF f)):=by
  rw[hin];by_cases h0:f.MQ.M1=0
  ·rw[QX h0] at hb ⊢;rw[hb,NA,QX QR]
  ·rw[QY h0] at hb ⊢;by_cases h27:f.MQ.M1=27
   ·rw[QX h27] at hb ⊢;rw[hb,NA,QX QR];rfl
   ·rw[QY h27] at hb ⊢;rw[hb,NA,QX QR];rfl
 rw[key,NA];have hf4:bn ((gZ (nF f)).length:Int) 4=true:=k1.2;rw[bT _ _ ⟨⟨by omega,by omega⟩,by decide,by decide⟩,NA,QX (by rw[aE]; show 4 + _<= _; omega)];rfl
theorem Ha {f:ay} (h:okFr f):FQ (bx f)=(f,0):=by
 have hb:=Ju (s:=bx f) (t := []) (NY _) h (by rw[List.drop_zero,NW]);unfold FQ;rw[hb,Nat.zero_add];simp only[Db];rw[QY QR]
def JE:eO := [(147,0,0),(147,1,1),(149,0,0),(149,1,2),(149,2,3)]
theorem aW:(JE).OK Tryz.prog:=⟨FOK.mk Tryz.runUnderlying147 rfl NG rfl,FOK.mk Tryz.runUnderlying147 rfl NG rfl,FOK.mk P1 rfl Tryz.sizeOf147 rfl,FOK.mk P1 rfl N6 rfl,FOK.mk P1 rfl Tryz.sizeOf41 rfl,trivial⟩
def JF:List Nat := [3,9,41]
theorem eH:NOK Tryz.prog JF:=⟨NH,Oc,Tryz.isAgg41,trivial⟩
theorem rA:Tryz.prog.follows .mixedOrders=true:=by kernel_rfl
theorem zk:BOK Tryz.prog 149 #[.int .i64 0,.int .i64 0,.string ⟨#[]⟩,.int .i64 0] [(0,2),(2,1),(3,1)]:=BOK.mk Tryz.zeroValue149 P1 (by intro w; simp)
theorem yK:SOK Tryz.prog 60 38 1 24 #[.int .i64 0,.int .i64 0,.int .i64 0,.bool false,.string ⟨#[]⟩,.bool false,.string ⟨#[]⟩,.int .i64 0,.int .i64 0,.int .i64 0,.string ⟨#[]⟩,.int .i64 0,.int .i64 0,.slice none 0 0,.string ⟨#[]⟩,.int .i64 0,.int .i64 0,.bool false,.slice none 0 0,.bool false,.string ⟨#[]⟩,.int .i64 0,.int .i64 0,.slice none 0 0]:=SOK.mk OZ NS Tryz.zeroValue38 QS QU
theorem BF:(Tryz.prog.info? 38).map (fun i=>(i.zero,i.size,i.bytes))=some (some (.agg #[.int .i64 0,.int .i64 0,.int .i64 0,.bool false,.string ⟨#[]⟩,.bool false,.string ⟨#[]⟩,.int .i64 0,.int .i64 0,.int .i64 0,.string ⟨#[]⟩,.int .i64 0,.int .i64 0,.slice none 0 0,.string ⟨#[]⟩,.int .i64 0,.int .i64 0,.bool false,.slice none 0 0,.bool false,.string ⟨#[]⟩,.int .i64 0,.int .i64 0,.slice none 0 0]),24,280):=by kernel_rfl
def lZ  : Option (aX):=some (⟨(⟨0,0⟩:eJ),[],0⟩:aX)
theorem o6  (r:aX) (h:lZ  = some r):aG Tryz.prog 27 #[] .triv (aL) (fun v A' N=> ∃ q:Nat,v=jP q/\A'=aL/\N = [aV q 149 (xv r)]):=by
 refine aU Tryz.func27 Z Tryz.ntmps27 Z ?_;intro F w hX;unfold lZ at h;refine KN Z (Le aW Z Z ?_);refine KO Z (Lo (cells:= #[jI 0,jI 0,.string ⟨#[]⟩,jI 0]) zk Z QU) Z ?_;refine TL.box Z .u Z Z (fun b1=>(KM aW 1 Z ?_));obtain rfl:=Nz h;exact KP (T.ret (Ll [1,0] Tryz.results27 (KQ Z) ⟨_,Z,Z,Z⟩ QW (.inl Z)))
def du (st:aX)  : Option (Int×Bool×aX):=if (st.fheld.length:Int)<4 then some (0,false,st) else ((wc st.fheld).bind fun st2=>(d9 st2 4).bind fun (x5,st6)=>(if x5<0 then some true else (if x5>16777216 then some true else some false)).bind fun y9=>if y9=true then (some (0,false,(⟨st.fcount,st.fheld,4⟩:aX))) else (if -9223372036854775808<=(4+x5)/\(4+x5)<=9223372036854775807 then (if -9223372036854775808<=(4+x5)/\(4+x5)<=9223372036854775807 then (if (st.fheld.length:Int)>=(4+x5) then (some ((4+x5),true,st)) else (some ((4+x5),false,st))) else none) else none))
theorem nL (g:Nat) (st:aX)  (r:Int×Bool×aX) (h:du st  = some r):aG Tryz.prog 76 #[jP g] .triv (aV g 149 (xv st)) (fun v A' N=>v= .tuple #[jI r.1,.bool r.2.1]/\A'=aV g 149 #[jI r.2.2.fcount.fmany,jI r.2.2.fcount.fat,jS r.2.2.fheld,jI r.2.2.ferr]/\N = []):=by
 refine aU Tryz.func76 Z Tryz.ntmps76 Z ?_;intro F w hX;unfold du at h;refine KN Z (KX aW Z (T.seq (KN Z (KR aW eH 0 Z 4 Z Z (KO Z (LD Z NK) Z (KM aW 1 Z ?_))))));rcases jF h with⟨c1,h⟩ | ⟨c1,h⟩
 ·refine Lh Z c1 (KN Z (KM aW 2 Z ?_));obtain rfl:=Nz h;exact KP (T.ret (KT (Lu [0] QQ (KQ Z) (KQ Z) ⟨Z,Z,Z⟩ QW (.inl Z))))
 refine Lg Z c1 (Lk Z ?_);obtain⟨st2,hx3,h⟩:=Ny h;refine KR aW eH 0 Z 4 Z Z (Mb Z .u (.fn Tryz.call19 Z) (j8 st.fheld _ hx3) rT Z ?_);rintro _ _ _ ⟨b4,rfl,rfl,rfl⟩;refine Lt [0,0] Z ?_;obtain⟨⟨x5,st6⟩,hx7,h⟩:=Ny h;refine KZ 0 Z Z .u (.fn Tryz.call68 Z) (bz b4 st2 4 _ hx7) sT Z Z (KX aW Z (L0 ?_));obtain⟨y9,h,hk10⟩:=Ny h;refine LE (fun e Rs=>e = [(0,jP g),(2,jI 0),(3,.bool false),(4,jI x5),(22,.bool y9)]/\Rs = [InR b4 st6,aV g 149 (xv st)]) ?_ ?_
 ·clear hk10;refine T.region Z ?_;rcases jF h with⟨c11,h⟩ | ⟨c11,h⟩
  ·refine KM aW 3 Z (KV 19 Z (NB c11) (KW aW 3 Z ?_));cases h;exact TL.nil (K0 [0,0])
  refine KM aW 3 Z (KV 19 Z (NC c11) (KW aW 3 Z ?_));rcases jF h with⟨c12,h⟩ | ⟨c12,h⟩
  ·cases h;exact TL.nil (LH (d:=22) (v':= .bool true) Z (congrArg Value.bool (NB c12)) (K0 [0,0]))
  cases h;exact TL.nil (LH (d:=22) (v':= .bool false) Z (congrArg Value.bool (NC c12)) (K0 [0,0]))
 rintro _ _ ⟨rfl,rfl⟩;clear h;have h:=hk10;clear hk10;try dsimp only at h
 rcases jF h with⟨c13,h⟩ | ⟨c13,h⟩
 ·refine X.seq (K1 Z c13 (KN Z (KM aW 3 Z (K3 1 Z (cs':= #[jI st.fcount.fmany,jI st.fcount.fat,jS st.fheld,jI 4]) Z .u Z Z Tryz.sizeOf41 Z Z Z Z Z (Ld Z (KM aW 2 Z ?_))))));obtain rfl:=Nz h;exact KP (T.ret (KT (Lu [1] QQ (KQ Z) (KQ Z) ⟨Z,Z,Z⟩ QW (.inl Z))))
 replace c13:=NF c13;refine X.seq (Li Z c13 ?_);refine K8 (T.seq (Ls (.q 0 (.q 1 (.q 2 (.q 3 (.q 4 (.q 5 (.q 6 (.q 7 (.q 8 (.q 9 (.q 10 (.q 11 .nil)))))))))))) [0,0] Z rA (NoP.seq bq) QU ?_));obtain⟨c14,h⟩:=al h;refine TD.run aW [0] Z Z (KU Z (Ex.add Z Z c14) Z (TD.run aW [2,3,4] Z Z (KU Z (Lc 1 Z Oc Z Z) Z (KU Z (LD Z NK) Z ?_))));obtain⟨c15,h⟩:=al h;refine TD.run aW [7] Z Z (KU Z (Ex.add Z Z c15) Z (TD.run aW [9,10,11] Z Z ?_));rcases jF h with⟨c16,h⟩ | ⟨c16,h⟩
 ·obtain rfl:=Nz h;exact LK (T.ret (Lu [1] QQ (KQ Z) (KQ (v:= .bool true) (congrArg (fun b=>some (Value.bool b)) (NB c16))) ⟨Z,Z,Z⟩ QW (.inl Z)))
 obtain rfl:=Nz h;exact LK (T.ret (Lu [1] QQ (KQ Z) (KQ (v:= .bool false) (congrArg (fun b=>some (Value.bool b)) (NC c16))) ⟨Z,Z,Z⟩ QW (.inl Z)))
def jx (st:aX) (a1:Int):Option (aX):=if -9223372036854775808<=(st.fcount.fmany+1)/\(st.fcount.fmany+1)<=9223372036854775807 then (if -9223372036854775808<=(st.fcount.fat+a1)/\(st.fcount.fat+a1)<=9223372036854775807 then (some (⟨(⟨(st.fcount.fmany+1),(st.fcount.fat+a1)⟩:eJ),st.fheld,st.ferr⟩:aX)) else none) else none
theorem qb (g:Nat) (st:aX) (a1:Int) (r:aX) (h:jx st a1=some r):aG Tryz.prog 77 #[jP g,jI a1] .triv (aV g 149 (xv st)) (fun v A' N=>v= .tuple #[]/\A'=aV g 149 (xv r)/\N = []):=by
 refine aU Tryz.func77 Z Tryz.ntmps77 Z ?_;intro F w hX;unfold jx at h;obtain⟨c1,h⟩:=al h;obtain⟨c2,h⟩:=al h;refine Mr (fun e Rs=>e = []/\Rs = [aV g 149 (vA18 a1 st)]) ?_ ?_
 ·refine Ls (.q 0 (.q 1 (.q 2 (.q 3 (.q 4 (.q 7 (.q 8 (.q 9 (.q 11 (.br 5 (.q 6 (.e 10 (.q 12 (.q 13 (.q 14 (.e 15 (.q 16 (.q 17 (.e 18 .nil))))))))) (.e 10 (.q 12 (.e 5 (.q 6 (.q 13 (.q 14 (.e 15 (.q 16 (.q 17 (.e 18 .nil)))))))))))))))))))) [] Z rA r8 QU ?_;refine TD.run aW [0,1,2,3,4,7,8,9,11] Z Z ?_;refine TD.br ?_ ?_
  ·refine Mh Z .u (Lc 0 Z NH Z Z) Z [] Z (KU Z (Ex.add Z Z c1) Z (Mh Z .u (Lc 0 Z NH Z Z) Z [] Z (KU Z (Ex.add Z Z c2) Z (TD.run aW [13,14] Z Z (LP 0 Z (cs':=vA19 st) Z .u Z Z NG Z Z Z Z Z [] (Z) (TD.run aW [16,17] Z Z (LP 0 Z (cs':=vA18 a1 st) Z .u Z Z NG Z Z Z Z Z [] (Z) ?_)))))));exact TD.nil (L9 [0] ⟨Z,Z⟩ QW QW)
  refine Mh Z .u (Lc 0 Z NH Z Z) Z [] Z (KU Z (Ex.add Z Z c2) Z (Mh Z .u (Lc 0 Z NH Z Z) Z [] Z (KU Z (Ex.add Z Z c1) Z (TD.run aW [13,14] Z Z (LP 0 Z (cs':=vA19 st) Z .u Z Z NG Z Z Z Z Z [] (Z) (TD.run aW [16,17] Z Z (LP 0 Z (cs':=vA18 a1 st) Z .u Z Z NG Z Z Z Z Z [] (Z) ?_)))))));exact TD.nil (L9 [0] ⟨Z,Z⟩ QW QW)
 rintro _ _ ⟨rfl,rfl⟩;obtain rfl:=Nz h;exact LQ [0] Tryz.results77 ⟨Z,Z,Z⟩ QW (.inr Z)
def cN:Nat->List ay->Int->List ay->Int->Int->List UInt8->Int->Option (Lp (List ay×Int×aX) (List ay×Int×List ay×Int×Int×List UInt8×Int))
 | 0,_,_,_,_,_,_,_=>none
 | m17+1,y3,y6,y7,y10,y11,y12,y13=>(du (⟨(⟨y10,y11⟩:eJ),y12,y13⟩:aX)).bind fun (x21,x22,st23)=>if x22=true then (if 0<=x21/\x21.toNat<=st23.fheld.length then ((jf (st23.fheld.take x21.toNat)).bind fun (x27,x34)=>if x34=0 then (if (y7.length+1)*280<=140737488355328 then ((jx st23 x21).bind fun st42=>if 0<=x21/\x21.toNat<=st42.fheld.length then (cN m17 y3 y6 (y7 ++ [x27]) st42.fcount.fmany st42.fcount.fat (st42.fheld.drop x21.toNat) st42.ferr) else none) else none) else (some (Lp.ret (y7,x34,(⟨st23.fcount,st23.fheld,x34⟩:aX))))) else none) else (some (Lp.ret (y7,st23.ferr,st23)))
def dv (st:aX) (a1:List UInt8):Option (List ay×Int×aX):=if st.ferr=0 then (if st.fheld.length+a1.length<=9223372036854775807 then ((cN ((((st.fheld++a1).length:Int)+1).toNat+1) [] 0 [] st.fcount.fmany st.fcount.fat (st.fheld++a1) st.ferr).bind fun e=>match e with | .ret r=>some r | .go (y45,y48,y49,y52,y53,y54,y55)=>(some (y45,y48,(⟨(⟨y52,y53⟩:eJ),y54,y55⟩:aX)))) else none) else some ([],st.ferr,st)
theorem fW (g:Nat) (st:aX) (a1:List UInt8) (r:List ay×Int×aX) (h:dv st a1=some r):aG Tryz.prog 29 #[jP g,jS a1] .triv (aV g 149 (xv st)) (fun v A' N=> ∃ (A56:Option Addr) (c57:Nat),v= .tuple #[.slice A56 r.1.length c57,jI r.2.1]/\A'=aV g 149 #[jI r.2.2.fcount.fmany,jI r.2.2.fcount.fat,jS r.2.2.fheld,jI r.2.2.ferr]/\N = [RdR (aq 24 bW) [.slice A56 r.1.length c57] r.1]):=by
 refine aU Tryz.func29 Z Tryz.ntmps29 Z ?_;intro F w hX;unfold dv at h;refine KN Z (Le aW Z Z (KX aW Z (T.seq (KN Z (KR aW eH 0 Z 5 Z Z ?_)))));rcases jF h with⟨c1,h⟩ | ⟨c1,h⟩
 ·refine Lr Z c1 (Lk Z ?_);obtain⟨c2,h⟩:=al h;refine KR aW eH 0 Z 5 Z Z (KO Z (Ln Z Z c2) Z (KM aW 2 Z (K3 0 Z (cs':= #[jI st.fcount.fmany,jI st.fcount.fat,.string (ba (st.fheld++a1)),jI st.ferr]) Z .u Z Z N6 Z Z Z Z Z (KP (T.block ?_)))));iterate 2 refine LY 38 24 bW ?_
  obtain⟨E14,hE15,hO16⟩:=Ny h;refine LB (fun m e Rs=> ∃ (y3:List ay) (A4:Option Addr) (c5:Nat) (y6:Int) (y7:List ay) (A8:Option Addr) (c9:Nat) (y10:Int) (y11:Int) (y12:List UInt8) (y13:Int),e = [(0,jP g),(4,.slice A4 y3.length c5),(5,jI y6),(6,.slice A8 y7.length c9)]/\Rs = [bG 38 24 bW (.slice A4 y3.length c5) y3,bG 38 24 bW (.slice A8 y7.length c9) y7,aV g 149 (vA20 y10 y11 y12 y13)]/\cN m y3 y6 y7 y10 y11 y12 y13=some E14) ((((st.fheld++a1).length:Int)+1).toNat+1) [0,0,0] ⟨[],none,0,0,[],none,0,st.fcount.fmany,st.fcount.fat,(st.fheld++a1),st.ferr,Z,Z,by exact hE15⟩ QW QW ?_;clear hE15 h;rintro m17 _ _ ⟨y3,A4,c5,y6,y7,A8,c9,y10,y11,y12,y13,rfl,rfl,h⟩
  cases m17 with
  | zero =>
   rw[cN] at h;cases h
  | succ m17 =>
   rw[cN] at h;refine T.block (KN Z ?_);obtain⟨⟨x21,x22,st23⟩,hx24,h⟩:=Ny h;refine KM aW 1 Z (KZ 2 Z Z .u (.fn Tryz.call76 Z) (nL g (⟨(⟨y10,y11⟩:eJ),y12,y13⟩:aX) _ hx24) sT Z Z (KX aW Z (T.seq (KN Z (KM aW 2 Z ?_)))));rcases jF h with⟨c25,h⟩ | ⟨c25,h⟩
   ·refine KP (Li Z (bi c25) (Lk Z ?_));obtain⟨c26,h⟩:=al h;refine KR aW eH 2 Z 5 Z Z ?_;replace c26:0<=x21/\x21.toNat<=st23.fheld.length:=c26;refine KO Z (Mj (p:=0) (q:=x21.toNat) (m:=(st23.fheld.take x21.toNat)) Z NK .none (.some Z ((Int.toNat_of_nonneg c26.1).symm)) (by first | omega | (dsimp only; omega)) (by simp)) Z ?_;obtain⟨⟨x27,x34⟩,hx35,h⟩:=Ny h;refine Mb Z .u (.fn Tryz.call15 Z) (rU (st23.fheld.take x21.toNat) _ hx35) rT Z ?_;rintro _ _ _ ⟨A28,c29,A30,c31,A32,c33,rfl,rfl,rfl⟩;refine Lt [0,0,0,0,0,0] Z (KM aW 3 Z (TL.alloc Z .u Tryz.zeroValue38 Z (fun b36=>(K3 0 Z (cs':=oh x27 A28 A30 A32 c29 c31 c33) Z .u Z Z NS Z Z Z Z Z (KX aW Z (T.seq (KN Z (KM aW 2 Z ?_))))))));rcases jF h with⟨c37,h⟩ | ⟨c37,h⟩
    ·refine Lr Z c37 (Lk Z (KM aW 1 Z (KO Z (K9 (us:=wd x27 A28 A30 A32 c29 c31 c33) 0 Z Og NS Z Z Z) Z ?_)));refine L4 (cells:=oh x27 A28 A30 A32 c29 c31 c33) Z .u yK Z QU Z (fun b38=> ?_);obtain⟨c39,h⟩:=al h;refine Lt [2,2,2,0,0,0,0,0] Z ?_;iterate 2 refine TL.pair ?_
     refine Lt [1,0,0,0,0,0] Z ?_;refine Mw 3 0 Z .u (us:=wd x27 A28 A30 A32 c29 c31 c33) (u:=x27) (l:=y7) (E:=bW) Tryz.underlying60 BF Z QS Z Z Z Z Z Z Z (fun w G hG=>⟨_,_,_,_,_,_,Z,(Gg hG).1,(Gg hG).2.1,(Gg hG).2.2⟩) (by have hq:=c39; omega) (by have hq:=c39; omega) Z (fun A40 c41=> ?_);refine Lt [0,0,0,0] Z (Le aW Z Z ?_);obtain⟨st42,hx43,h⟩:=Ny h;refine KM aW 4 Z (KZ 3 Z Z .u (.fn Tryz.call77 Z) (qb g st23 x21 _ hx43) sT Z Z (KP (T.region Z ?_)));obtain⟨c44,h⟩:=al h;refine KR aW eH 3 Z 6 Z Z ?_;replace c44:0<=x21/\x21.toNat<=st42.fheld.length:=c44;refine KO Z (Mj (p:=x21.toNat) (q:=st42.fheld.length) (m:=(st42.fheld.drop x21.toNat)) Z NK (.some Z ((Int.toNat_of_nonneg c44.1).symm)) .none (by first | omega | (dsimp only; omega)) (rk _ _)) Z ?_;exact KM aW 2 Z (K3 3 Z (cs':= #[jI st42.fcount.fmany,jI st42.fcount.fat,.string (ba (st42.fheld.drop x21.toNat)),jI st42.ferr]) Z .u Z Z N6 Z Z Z Z Z (TL.nil (La (X.back (m':=m17) [2,0,1] QR ⟨y3,A4,c5,y6,(y7 ++ [x27]),A40,c41,st42.fcount.fmany,st42.fcount.fat,(st42.fheld.drop x21.toNat),st42.ferr,Z,Z,h⟩ QW QW))))
    refine Lq Z c37 (KN Z (KM aW 4 Z (K3 6 Z (cs':= #[jI st23.fcount.fmany,jI st23.fcount.fat,jS st23.fheld,jI x34]) Z .u Z Z Tryz.sizeOf41 Z Z Z Z Z (Ld Z (KM aW 4 Z ?_)))));obtain rfl:=Nz h;obtain rfl:=Nz hO16;exact KP (T.ret (KT (K2 (KT (K2 (Ms QS 5 Z (LJ [0,0,0,0,0,0,0] Z (Lu [6,5] Tryz.results29 (KQ Z) (KQ Z) ⟨_,_,Z,Z,Z⟩ QW (.inl Z)))))))))
   replace c25:=NF c25;refine KP (K1 Z (bF c25) ?_);refine T.seq (Ls (.q 0 (.q 1 (.q 2 (.q 3 (.q 4 (.q 5 (.q 6 .nil))))))) [0,0,0] Z rA (NoP.seq (NoP.seq (NoP.blk (NoP.seq (NoP.blk bq))))) QU ?_);refine TD.run aW [0,1,2,3] Z Z (KU Z (Lc 2 Z Tryz.isAgg41 Z Z) Z (TD.run aW [5,6] Z Z ?_));obtain rfl:=Nz h;obtain rfl:=Nz hO16;exact LK (T.ret (KT (K2 (KT (K2 (Ms QS 1 Z (LJ [0,0,0] Z (Lu [2,1] Tryz.results29 (KQ Z) (KQ Z) ⟨_,_,Z,Z,Z⟩ QW (.inl Z)))))))))
 refine Lq Z c1 ?_;refine T.seq (Ls (.q 0 (.q 1 (.q 2 (.q 3 (.q 4 (.q 5 .nil)))))) [0] Z rA (NoP.seq (NoP.seq bq)) QU ?_);refine TD.run aW [0,1,2] Z Z (KU Z (Lc 0 Z Tryz.isAgg41 Z Z) Z (TD.run aW [4,5] Z Z ?_));obtain rfl:=Nz h;exact LK (T.ret (KT (Lj 24 bW (Lu [1,0] Tryz.results29 (KQ Z) (KQ Z) ⟨_,_,Z,Z,Z⟩ QW (.inl Z)))))
def dh (st:aX)  : Option (Int×aX):=(if st.ferr=0 then (if st.fheld = [] then some false else some true) else some false).bind fun y2=>(if y2=true then ((some 1:Option (Int))) else some st.ferr).bind fun y7=>some (y7,(⟨st.fcount,st.fheld,y7⟩:aX))
theorem jl (g:Nat) (st:aX)  (r:Int×aX) (h:dh st  = some r):aG Tryz.prog 32 #[jP g] .triv (aV g 149 (xv st)) (fun v A' N=>v=jI r.1/\A'=aV g 149 #[jI r.2.fcount.fmany,jI r.2.fcount.fat,jS r.2.fheld,jI r.2.ferr]/\N = []):=by
 refine aU Tryz.func32 Z Tryz.ntmps32 Z ?_;intro F w hX;unfold dh at h;refine KN Z (KX aW Z (L0 ?_));obtain⟨y2,h,hk3⟩:=Ny h;refine LE (fun e Rs=>e = [(0,jP g),(2,jI 0),(14,.bool y2)]/\Rs = [aV g 149 (xv st)]) ?_ ?_
 ·clear hk3;refine T.region Z ?_;rcases jF h with⟨c4,h⟩ | ⟨c4,h⟩
  ·refine KR aW eH 0 Z 6 Z Z (KV 8 Z (NB c4) (KR aW eH 0 Z 4 Z Z (TL.q Z (.g Z Z Z) (MD Z (m := []) Z) Z (KW aW 1 Z ?_))));rcases jF h with⟨c5,h⟩ | ⟨c5,h⟩
   ·cases h;exact TL.nil (LH (d:=14) (v':= .bool false) Z (congrArg Value.bool (bi (NB c5))) (K0 [0]))
   cases h;exact TL.nil (LH (d:=14) (v':= .bool true) Z (congrArg Value.bool (bF (NC c5))) (K0 [0]))
  refine KR aW eH 0 Z 6 Z Z (KV 8 Z (NC c4) (KW aW 6 Z ?_));cases h;exact TL.nil (K0 [0])
 rintro _ _ ⟨rfl,rfl⟩;clear h;have h:=hk3;clear hk3;refine X.seq ?_;obtain⟨y7,h,hk8⟩:=Ny h;refine LE (fun e Rs=>e = [(0,jP g),(2,jI 0)]/\Rs = [aV g 149 #[jI st.fcount.fmany,jI st.fcount.fat,jS st.fheld,jI y7]]) ?_ ?_
 ·clear hk8;rcases jF h with⟨c9,h⟩ | ⟨c9,h⟩
  ·refine K1 Z c9 (T.region Z (KM aW 3 Z (K3 0 Z (cs':= #[jI st.fcount.fmany,jI st.fcount.fat,jS st.fheld,jI 1]) Z .u Z Z Tryz.sizeOf41 Z Z Z Z Z ?_)));cases h;exact TL.nil (K0 [0])
  replace c9:=NF c9;refine Li Z c9 ?_;cases h;exact T.skip (K0 [0])
 rintro _ _ ⟨rfl,rfl⟩;clear h;have h:=hk8;clear hk8;refine X.seq (KN Z (KR aW eH 0 Z 5 Z Z ?_));obtain rfl:=Nz h;exact KP (T.ret (KY [0] Tryz.results32 (KQ Z)))
def jm (st:aX)  : Option (Int×aX):=some (st.fcount.fmany,st)
theorem nM (g:Nat) (st:aX)  (r:Int×aX) (h:jm st  = some r):aG Tryz.prog 34 #[jP g] .triv (aV g 149 (xv st)) (fun v A' N=>v=jI r.1/\A'=aV g 149 #[jI r.2.fcount.fmany,jI r.2.fcount.fat,jS r.2.fheld,jI r.2.ferr]/\N = []):=by
 refine aU Tryz.func34 Z Tryz.ntmps34 Z ?_;intro F w hX;unfold jm at h;refine KN Z (Le aW Z Z (KR aW eH 0 Z 6 Z Z ?_));obtain rfl:=Nz h;exact KP (T.ret (KY [0] Tryz.results34 (KQ Z)))
def ip (st:aX)  : Option (Int×aX):=some (st.fcount.fat,st)
theorem o7 (g:Nat) (st:aX)  (r:Int×aX) (h:ip st  = some r):aG Tryz.prog 31 #[jP g] .triv (aV g 149 (xv st)) (fun v A' N=>v=jI r.1/\A'=aV g 149 #[jI r.2.fcount.fmany,jI r.2.fcount.fat,jS r.2.fheld,jI r.2.ferr]/\N = []):=by
 refine aU Tryz.func31 Z Tryz.ntmps31 Z ?_;intro F w hX;unfold ip at h;refine KN Z (Le aW Z Z (KR aW eH 0 Z 6 Z Z ?_));obtain rfl:=Nz h;exact KP (T.ret (KY [0] Tryz.results31 (KQ Z)))
end Go.Proofs.YtheikonlgjdopaaGreat.Sl
