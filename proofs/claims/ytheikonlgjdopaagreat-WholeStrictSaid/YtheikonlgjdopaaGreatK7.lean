/- WholeStrict: for every input the law returns true, and its arguments read behind the call as they did before. -/
import Derived.Test.YtheikonlgjdopaaGreatRows
import Derived.WalkKit
import Derived.ProofKit
import Derived.OpenShut
import Derived.ShutString
import Derived.ChangeOld
import Derived.Below
import Derived.SizedLaws
import Derived.Test.YtheikonlgjdopaaGreatK6
set_option maxRecDepth 100000
set_option maxHeartbeats 4000000
set_option linter.defProp false
namespace Go.Proofs.YtheikonlgjdopaaGreat.Sl
open Go.RowKit
set_option linter.unusedVariables false
set_option linter.unusedSimpArgs false
def m6:Nat→Pr (List Bat)
 | 0=> .ret []
 | n+1=>fun s q=>if q=s.length then .ok ([],q) else (qn.bind fun b=>(m6 n).bind fun l=> .ret (b::l)) s q
theorem lq {b:Bat} (h:okB b):61≤(dK b).length:=by rw[lm h]; omega
theorem rh: ∀ (n:Nat) (s:List UInt8) (q:Nat) (l:List Bat) (r:Nat),q≤s.length→s.length - q≤n→m6 n s q= .ok (l,r)→r=s.length∧s.drop q=aV dK l∧ ∀ b,b∈l→okB b
 | 0,s,q,l,r,hq,hn,h=>by
  injection h with h
  obtain⟨rfl,rfl⟩:=C6 h
  exact⟨by omega,by rw[List.drop_eq_nil_of_le (by omega)]; rfl,fun b h=>nomatch h⟩
 | n+1,s,q,l,r,hq,hn,h=>by
  unfold m6 at h
  by_cases he:q=s.length
  ·rw[if_pos he] at h
   injection h with h
   obtain⟨rfl,rfl⟩:=C6 h
   exact⟨he,by rw[List.drop_eq_nil_of_le (by omega)]; rfl,fun b h=>nomatch h⟩
  rw[if_neg he] at h
  obtain⟨b,m,h1,h2⟩:=Pr.bind_ok h
  obtain⟨bs,m2,h3,h4⟩:=Pr.bind_ok h2
  injection h4 with h4
  obtain⟨rfl,rfl⟩:=C6 h4
  obtain⟨a1,a2,a3,a4,a5⟩:=sg.spell s q b m hq h1
  have hp:=lq a5
  obtain⟨b1,b2,b3⟩:=rh n s m bs m2 a2 (by omega) h3
  refine⟨b1,?_,fun y hy=> ?_⟩
  ·have e:s.drop q=dK b++s.drop m:=by
    have e1:s=s.take q++dK b++s.drop m:=by rw[← a4,List.take_append_drop]
    conv=>lhs; rw[e1,CV,List.drop_left' (by rw[Dz]; omega)]
   rw[e,b2,aV]
  ·rcases List.mem_cons.1 hy with rfl | hy
   ·exact a5
   ·exact b3 y hy
theorem tE: ∀ (l:List Bat) (n:Nat) (s:List UInt8) (q:Nat),q≤s.length→s.length - q≤n→(∀ b,b∈l→okB b)→s.drop q=aV dK l→m6 n s q= .ok (l,s.length)
 | [],n,s,q,hq,hn,_,hd=>by
  have hl:=congrArg List.length hd
  rw[C1] at hl
  have hl:s.length - q=0:=hl
  have:q=s.length:=by omega
  subst this
  cases n with
  | zero=>rfl
  | succ n=>exact if_pos rfl
 | b::l,n,s,q,hq,hn,ho,hd=>by
  have hl:=congrArg List.length hd
  rw[aV] at hd
  rw[C1,aV,CO] at hl
  have hp:=lq (ho b (.head _))
  cases n with
  | zero=>omega
  | succ n =>
   have h1:=sg.back s _ q b hq (ho b (.head _)) hd
   have h2:=tE l n s (q+(dK b).length) (by omega) (by omega) (fun y hy=>ho y (.tail _ hy)) (aY hd)
   show (if q=s.length then _ else _)= _
   rw[if_neg (by omega),Pr.bind_of h1,Pr.bind_of h2]
   rfl
theorem d9 {α:Type} {enc:α→List UInt8}: ∀ (l:List α) (x:α),x∈l→(enc x).length≤(aV enc l).length
 | c::l,x,h=>by
  rw[aV,CO]
  rcases List.mem_cons.1 h with rfl | h
  ·omega
  ·have:=d9 (enc:=enc) l x h; omega
theorem nM {l:List Bat} (h: ∀ b,b∈l→okB b):l.length*61≤(aV dK l).length:=gr (ok:=okB) (fun x hx=>lq hx) l h
def nN:Pr (List UInt8):=kJ (jl 4)
theorem tF:Sp nN (fun d=>be (d.length:Int) 4++d) (fun d=>aN (d.length:Int) 4=true∧aT ⟨false,d⟩=true):=rM (eW 4 (by decide) (by decide))
def pN (i:Int) (d:List UInt8):Pr aW:=match m6 d.length d 0 with | .error e=> .err e | .ok (l,_)=> .ret ⟨i,l⟩
def kg:Pr aW:=(cM 4).bind fun i=>nN.bind fun d=>pN i d
def fG (p:aW):List UInt8:=be p.Cs 4++(be ((aV dK p.Cf).length:Int) 4++aV dK p.Cf)
def si (p:aW):Prop:=aN p.Cs 4=true∧aN ((aV dK p.Cf).length:Int) 4=true∧ ∀ b,b∈p.Cf→okB b
theorem yG {i:Int} {d s:List UInt8} {q r:Nat} {p:aW} (h:pN i d s q= .ok (p,r)):r=q∧p.Cs=i∧d=aV dK p.Cf∧ ∀ b,b∈p.Cf→okB b:=by
 unfold pN at h
 cases ha:m6 d.length d 0 with
 | error e=>rw[ha] at h; exact nomatch h
 | ok x =>
  rw[ha] at h
  injection h with h
  obtain⟨rfl,rfl⟩:=C6 h
  obtain⟨a1,a2,a3⟩:=rh _ d 0 x.1 x.2 (Da _) (by omega) ha
  rw[List.drop_zero] at a2
  exact⟨rfl,rfl,a2,a3⟩
theorem yH (i:Int) {l:List Bat} (h: ∀ b,b∈l→okB b) (s:List UInt8) (q:Nat):pN i (aV dK l) s q= .ok (⟨i,l⟩,q):=by
 unfold pN
 rw[tE l _ (aV dK l) 0 (Da _) (by omega) h List.drop_zero]
 rfl
theorem yI:Sp kg fG si:=by
 refine⟨fun s q a r hq h=> ?_,fun s t q a hq ha h=> ?_⟩
 ·obtain⟨i,q1,h1,h⟩:=Pr.bind_ok h
  obtain⟨d,q2,h2,h⟩:=Pr.bind_ok h
  obtain⟨rfl,c2,rfl,c4⟩:=yG h
  obtain⟨a1,a2,a3,a4,a5⟩:=(bB 4 (by decide) (by decide)).spell _ _ _ _ hq h1
  obtain⟨b1,b2,b3,b4,b5⟩:=tF.spell _ _ _ _ a2 h2
  refine⟨by omega,b2,by simp only[fG,CO,al] at *; omega,by rw[b4,a4]; simp only[fG,c2,CV],by rw[c2]; exact a5,b5.1,c4⟩
 ·obtain⟨a1,a2,a3⟩:=ha
  have hl:=congrArg List.length h
  rw[fG,CV] at h
  have g1:=(bB 4 (by decide) (by decide)).back _ _ _ _ hq a1 h
  have h:=aY h
  have g2:=tF.back _ _ _ _ (by simp only[fG,C1,CO,al] at *; omega) ⟨a2,rfl⟩ h
  rw[kg,Pr.bind_of g1,Pr.bind_of g2,yH _ a3]
  simp only[fG,CO,Nat.add_assoc]
theorem na (p:aW) (h:si p):8≤(fG p).length:=by simp only[fG,CO,al]; omega
def fQ:Pr aB:=nW.bind fun nm=>(gM 4 8 kg).bind fun ps=> .ret ⟨nm,ps⟩
def fw (t:aB):List UInt8:=(be (t.Ck.length:Int) 2++t.Ck)++(be (t.B7.length:Int) 4++aV fG t.B7)
def qp (t:aB):Prop:=aN (t.Ck.length:Int) 2=true∧aN (t.B7.length:Int) 4=true∧ ∀ p,p∈t.B7→si p
theorem ri:Sp (gM 4 8 kg) (fun l=>be (l.length:Int) 4++aV fG l) (fun l=>aN (l.length:Int) 4=true∧ ∀ p,p∈l→si p):=pe 4 8 (by decide) (by decide) yI na
theorem wJ:Sp fQ fw qp:=by
 refine⟨fun s q a r hq h=> ?_,fun s t q a hq ha h=> ?_⟩
 ·obtain⟨k,q1,h1,h⟩:=Pr.bind_ok h
  obtain⟨v,q2,h2,h⟩:=Pr.bind_ok h
  injection h with h
  obtain⟨rfl,rfl⟩:=C6 h
  obtain⟨a1,a2,a3,a4,a5⟩:=gX.spell _ _ _ _ hq h1
  obtain⟨b1,b2,b3,b4,b5⟩:=ri.spell _ _ _ _ a2 h2
  exact⟨by omega,b2,by simp only[fw,CO] at *; omega,by rw[b4,a4]; simp only[fw,CV],a5.1,b5⟩
 ·obtain⟨a1,a2,a3⟩:=ha
  have hl:=congrArg List.length h
  rw[fw,CV] at h
  have g1:=gX.back _ _ _ _ hq ⟨a1,rfl⟩ h
  have h:=aY h
  have g2:=ri.back _ _ _ _ (by simp only[fw,C1,CO,al] at *; omega) ⟨a2,a3⟩ h
  rw[fQ,Pr.bind_of g1,Pr.bind_of g2]
  simp only[Pr.ret,fw,CO,Nat.add_assoc]
theorem nb (t:aB) (h:qp t):6≤(fw t).length:=by simp only[fw,CO,al]; omega
theorem mm:Sp (gM 4 6 fQ) (fun l=>be (l.length:Int) 4++aV fw l) (fun l=>aN (l.length:Int) 4=true∧ ∀ t,t∈l→qp t):=pe 4 6 (by decide) (by decide) wJ nb
def pO (v:Int):Pr ao:=(jl 2).bind fun id=>(cM 2).bind fun a=>(cM 4).bind fun t=>(gM 4 6 fQ).bind fun l=>if tD v ⟨id,a,t,l⟩=0 then .ret ⟨id,a,t,l⟩ else .err (tD v ⟨id,a,t,l⟩)
def j9 (r:ao):List UInt8:=(be (de r.Cc) 2++r.Cc.data)++(be r.CG 2++(be r.B8 4++(be (r.BZ.length:Int) 4++aV fw r.BZ)))
def okQ (v:Int) (r:ao):Prop:=(aN (de r.Cc) 2=true∧aT r.Cc=true)∧aN r.CG 2=true∧aN r.B8 4=true∧(aN (r.BZ.length:Int) 4=true∧ ∀ t,t∈r.BZ→qp t)∧tD v r=0
theorem yJ (v:Int):Sp (pO v) j9 (okQ v):=by
 refine⟨fun s q a r hq h=> ?_,fun s t q a hq ha h=> ?_⟩
 ·obtain⟨id,q1,h1,h⟩:=Pr.bind_ok h
  obtain⟨ac,q2,h2,h⟩:=Pr.bind_ok h
  obtain⟨tm,q3,h3,h⟩:=Pr.bind_ok h
  obtain⟨l,q4,h4,h⟩:=Pr.bind_ok h
  by_cases hc:tD v ⟨id,ac,tm,l⟩=0
  rotate_left
  ·rw[if_neg hc] at h
   exact nomatch h
  rw[if_pos hc] at h
  injection h with h
  obtain⟨rfl,rfl⟩:=C6 h
  obtain⟨a1,a2,a3,a4,a5⟩:=(eW 2 (by decide) (by decide)).spell _ _ _ _ hq h1
  obtain⟨b1,b2,b3,b4,b5⟩:=(bB 2 (by decide) (by decide)).spell _ _ _ _ a2 h2
  obtain⟨c1,c2,c3,c4,c5⟩:=(bB 4 (by decide) (by decide)).spell _ _ _ _ b2 h3
  obtain⟨d1,d2,d3,d4,d5⟩:=mm.spell _ _ _ _ c2 h4
  exact⟨by omega,d2,by simp only[j9,CO] at *; omega,by rw[d4,c4,b4,a4]; simp only[j9,CV],a5,b5,c5,d5,hc⟩
 ·obtain⟨a1,a2,a3,a4,a5⟩:=ha
  have hl:=congrArg List.length h
  simp only[j9,CV] at h
  rw[← CV] at h
  simp only[j9,C1,CO,al] at hl
  have g1:=(eW 2 (by decide) (by decide)).back _ _ _ _ hq a1 h
  have h:=aY h
  have g2:=(bB 2 (by decide) (by decide)).back _ _ _ _ (by simp only[CO,al] at *; omega) a2 h
  have h:=aY h
  have g3:=(bB 4 (by decide) (by decide)).back _ _ _ _ (by simp only[CO,al] at *; omega) a3 h
  have h:=aY h
  rw[← CV] at h
  have g4:=mm.back _ _ _ _ (by simp only[CO,al] at *; omega) a4 h
  rw[pO,Pr.bind_of g1,Pr.bind_of g2,Pr.bind_of g3,Pr.bind_of g4,if_pos a5]
  simp only[Pr.ret,j9,CO,Nat.add_assoc]
theorem vF (n:Nat) (acc:List Bat) (x st:I) (h:st.err≠0):bA (n+1) acc x st=some (acc,x,st):=by
 rw[bA,aQ,CM]
 dsimp only
 rw[if_neg h]
 rfl
theorem pp_l1 (s:List UInt8) (hs:s.length≤1000000) (st:I) (h0:st.err=0): ∀ (n fuel:Nat) (acc:List Bat) (q:Nat),q≤s.length→s.length - q≤n→s.length - q+1<fuel→acc.length+(s.length - q)≤1000000 →
 (∃ e acc' x,m6 n s q= .error e∧e≠0∧bA fuel acc ⟨s.drop q,q,0⟩ st=some (acc',x,bt st e))∨(∃ l x,m6 n s q= .ok (l,s.length)∧bA fuel acc ⟨s.drop q,q,0⟩ st=some (acc++l,x,st))
 | n,0,acc,q,hq,hn,hf,_=>absurd hf (by omega)
 | n,fuel+1,acc,q,hq,hn,hf,ha=>by
  have hd:(s.drop q).length=s.length - q:=C1
  rw[bA,aQ,CM]
  dsimp only
  rw[if_pos h0,my,CM]
  dsimp only
  by_cases he:q=s.length
  ·rw[if_neg (by omega),CM]
   dsimp only
   rw[if_neg (by decide)]
   refine .inr ⟨[],_,?_,by rw[Db]⟩
   cases n with
   | zero=>rw[he]; rfl
   | succ n=>rw[he]; exact if_pos rfl
  rw[if_pos (by omega),CM]
  dsimp only
  rw[if_pos rfl]
  cases n with
  | zero=>omega
  | succ n =>
  unfold m6
  rw[if_neg he]
  rcases yz.run s q hs hq with⟨e,st2,p1,g1,x1,y1⟩ | ⟨b,r,p1,g1,n1,l1⟩
  ·refine .inl ⟨e,acc ++ [zBat],st2,by rw[Pr.bind_err p1],by rw[← x1]; exact y1,?_⟩
   rw[g1,CM]
   dsimp only
   rw[if_pos (by omega),aQ,CM]
   dsimp only
   rw[if_neg y1,cf,CM,CM,x1]
   have hfl:fuel=(fuel - 1)+1:=by omega
   rw[hfl]
   refine vF _ _ _ _ ?_
   rw[bt,if_pos h0]
   show e≠0
   rw[← x1]; exact y1
  ·have a3:=(sg.spell s q b r hq p1)
   have hp:=lq a3.2.2.2.2
   have a4:=a3.2.2.1
   rw[g1,CM]
   dsimp only
   rw[if_pos (by omega),aQ,CM]
   dsimp only
   rw[if_pos rfl,CM]
   rcases pp_l1 s hs st h0 n fuel (acc ++ [b]) r l1 (by omega) (by omega) (by rw[CO,Ek]; omega) with⟨e,acc',x,q1,q2,q3⟩ | ⟨l,x,q1,q2⟩
   ·exact .inl ⟨e,acc',x,by rw[Pr.bind_of p1,Pr.bind_err q1],q2,q3⟩
   ·exact .inr ⟨b::l,x,by rw[Pr.bind_of p1,Pr.bind_of q1]; rfl,by rw[q2,CV]; rfl⟩
theorem wK (s:List UInt8) (hs:s.length≤1000000) (q:Nat) (hq:q≤s.length) :
 (∃ e p st,kg s q= .error e∧eu ⟨s.drop q,q,0⟩=some (p,st)∧st.err=e∧e≠0)∨(∃ p r,kg s q= .ok (p,r)∧eu ⟨s.drop q,q,0⟩=some (p,⟨s.drop r,r,0⟩)∧q≤r∧r≤s.length):=by
 have dead: ∀ (i:Int) (d:List UInt8) (st:I),d.length≤1000000→st.err≠0→((mw d).bind fun st18=>(bA (((st18.rest.length:Int)+(st.rest.length:Int)+1).toNat+1) [] st18 st).bind fun (y73,st76,st77)=>some ((⟨i,y73⟩:aW),st77))=some (⟨i,[]⟩,st):=by
  intro i d st hd h
  rw[fz _ (by omega),CM,vF _ _ _ _ h]
  rfl
 unfold eu
 rcases Q4.run s q hq with⟨e,st,p1,g1,x1,y1⟩ | ⟨i,q1,p1,g1,n1,l1⟩
 ·refine .inl ⟨e,⟨0,[]⟩,st,Pr.bind_err p1,?_,x1,by rw[← x1]; exact y1⟩
  rw[g1,CM]
  dsimp only
  rw[hN y1,CM]
  dsimp only
  rw[if_neg (by decide),CM]
  exact dead 0 [] st (by decide) y1
 rw[g1,CM]
 dsimp only
 rcases QF4.run s q1 l1 with⟨e,st,p2,g2,x2,y2⟩ | ⟨b,q2,p2,g2,n2,l2⟩
 ·refine .inl ⟨e,⟨i,[]⟩,st,by rw[kg,Pr.bind_of p1,Pr.bind_err]; rw[nN,kJ,Pr.bind_err p2],?_,x2,by rw[← x2]; exact y2⟩
  rw[g2,CM]
  dsimp only
  rw[if_neg (by decide),CM]
  exact dead i [] st (by decide) y2
 have h2:=(eW 4 (by decide) (by decide)).spell _ _ _ _ l1 p2
 have hbl:b.data.length≤1000000:=by
  have:=h2.2.2.1
  rw[CO] at this
  omega
 rw[g2,CM]
 dsimp only
 by_cases hb:b.null=true
 ·refine .inl ⟨4,⟨i,[]⟩,⟨s.drop q2,q2,4⟩,by rw[kg,Pr.bind_of p1,Pr.bind_err]; rw[nN,kJ,Pr.bind_of p2,if_pos hb]; rfl,?_,rfl,by decide⟩
  rw[if_pos hb,cf,CM,CM,lf]
  exact dead i b.data _ hbl (show (4:Int)≠0 by decide)
 have hx:nN s q1= .ok (b.data,q2):=by
  rw[nN,kJ,Pr.bind_of p2,if_neg hb]
  rfl
 rw[if_neg hb,CM,fz _ (by omega),CM]
 rcases pp_l1 b.data hbl ⟨s.drop q2,q2,0⟩ rfl b.data.length ((((b.data.length:Int))+((s.drop q2).length:Int)+1).toNat+1) [] 0 (Da _) (by omega) (by omega) (by rw[DJ]; omega) with⟨e,acc',x,r1,r2,r3⟩ | ⟨l,x,r1,r2⟩
 ·rw[List.drop_zero] at r3
  refine .inl ⟨e,⟨i,acc'⟩,⟨s.drop q2,q2,e⟩,?_,?_,rfl,r2⟩
  ·rw[kg,Pr.bind_of p1,Pr.bind_of hx,pN,r1]
   rfl
  ·rw[r3]
   rfl
 ·rw[List.drop_zero] at r2
  refine .inr ⟨⟨i,l⟩,q2,?_,?_,by omega,l2⟩
  ·rw[kg,Pr.bind_of p1,Pr.bind_of hx,pN,r1]
   rfl
  ·rw[r2]
   rfl
def zQ:ao:=⟨⟨false,[]⟩,0,0,[]⟩
theorem zD {p:aW} (h:si p) (hl:(fG p).length≤1000000):gdP p:=by
 have h1:=nM h.2.2
 simp only[fG,CO,al] at hl
 refine⟨bE h.1,by omega,fun b hb=>pM (h.2.2 b hb) ?_⟩
 have:=d9 (enc:=dK) _ b hb
 omega
theorem zG {t:aB} (h:qp t) (hl:(fw t).length≤1000000):gdT t:=by
 have h1:=gr (ok:=si) na t.B7 h.2.2
 simp only[fw,CO,al] at hl
 refine⟨by omega,by omega,fun p hp=>zD (h.2.2 p hp) ?_⟩
 have:=d9 (enc:=fG) t.B7 p hp
 omega
theorem yK {a:Bl} {k t:Int} {l:List aB} (ht:aN t 4=true) (h: ∀ x,x∈l→qp x) (hl:(aV fw l).length≤1000000):gdQ ⟨a,k,t,l⟩:=by
 have h1:=gr (ok:=qp) nb l h
 refine⟨bE ht,by show l.length*40≤ _; omega,fun x hx=>zG (h x hx) ?_⟩
 have:=d9 (enc:=fw) l x hx
 omega
theorem zH {v:Int} {r:ao} (h:okQ v r) (hl:(j9 r).length≤1000000):gdQ r:=by
 simp only[j9,CO,al] at hl
 exact yK h.2.2.1 h.2.2.2.1.2 (by omega)
theorem qr_l2 (n:Int) (s:List UInt8) (hs:s.length≤1000000) (hn:n≤1000000): ∀ (m fuel k:Nat) (acc:List aW) (q:Nat),((k+m:Nat):Int)=n→m<fuel→q≤s.length→acc.length=k →
 (∃ (e:Int) (st:I),fM kg m s q= .error e∧bl n fuel k acc ⟨s.drop q,q,0⟩=some (.ret (zQ,st))∧st.err=e∧e≠0) ∨
 (∃ l r,fM kg m s q= .ok (l,r)∧bl n fuel k acc ⟨s.drop q,q,0⟩=some (.go (k+m,acc++l,⟨s.drop r,r,0⟩))∧q≤r∧r≤s.length)
 | 0,fuel+1,k,acc,q,h1,h2,h3,h4=> .inr ⟨[],q,rfl,by rw[bl,if_neg (by omega),Db]; rfl,Dc _,h3⟩
 | m+1,fuel+1,k,acc,q,h1,h2,h3,h4=>by
  rw[bl,if_pos (by omega)]
  rcases wK s hs q h3 with⟨e,p,st,p1,g1,x1,y1⟩ | ⟨p,r,p1,g1,n1,l1⟩
  ·refine .inl ⟨e,st,by rw[fM,Pr.bind_err p1],?_,x1,y1⟩
   rw[g1,CM]
   dsimp only
   rw[if_pos (by omega),aQ,CM]
   dsimp only
   rw[if_neg (by rw[x1]; exact y1)]
   rfl
  ·rw[g1,CM]
   dsimp only
   rw[if_pos (by omega),aQ,CM]
   dsimp only
   rw[if_pos rfl,if_pos (by omega),fM,Pr.bind_of p1]
   rcases qr_l2 n s hs hn m fuel (k+1) (acc ++ [p]) r (by omega) (by omega) l1 (by rw[CO,h4]; rfl) with⟨e,st,r1,r2,r3,r4⟩ | ⟨l,r',r1,r2,r3,r4⟩
   ·exact .inl ⟨e,st,by rw[Pr.bind_err r1],r2,r3,r4⟩
   ·refine .inr ⟨p::l,r',by rw[Pr.bind_of r1]; rfl,?_,by omega,r4⟩
    rw[r2,CV,show k+1+m=k+(m+1) by omega]
    rfl
theorem qr_l1 (n:Int) (s:List UInt8) (hs:s.length≤1000000) (hn:n≤1000000): ∀ (m fuel k:Nat) (acc:List aB) (q:Nat),((k+m:Nat):Int)=n→m<fuel→q≤s.length→acc.length=k →
 (∃ (e:Int) (st:I),fM fQ m s q= .error e∧bZ n fuel k acc ⟨s.drop q,q,0⟩=some (.ret (zQ,st))∧st.err=e∧e≠0) ∨
 (∃ l r,fM fQ m s q= .ok (l,r)∧bZ n fuel k acc ⟨s.drop q,q,0⟩=some (.go (k+m,acc++l,⟨s.drop r,r,0⟩))∧q≤r∧r≤s.length)
 | 0,fuel+1,k,acc,q,h1,h2,h3,h4=> .inr ⟨[],q,rfl,by rw[ed,if_neg (by omega),Db]; rfl,Dc _,h3⟩
 | m+1,fuel+1,k,acc,q,h1,h2,h3,h4=>by
  rw[ed,if_pos (by omega)]
  rcases QT.run s q h3 with⟨e,st,p1,g1,x1,y1⟩ | ⟨nm,q1,p1,g1,n1,l1⟩
  ·refine .inl ⟨e,st,by rw[fM,Pr.bind_err (show fQ s q= .error e from Pr.bind_err p1)],?_,x1,by rw[← x1]; exact y1⟩
   rw[g1,CM]
   dsimp only
   rw[iQ y1 (by decide) (by decide),CM]
   dsimp only
   rw[show (0:Int).toNat+1=0+1 from rfl,bl,if_neg (by decide),CM]
   dsimp only
   rw[aQ,CM]
   dsimp only
   rw[if_neg y1]
   rfl
  rw[g1,CM]
  dsimp only
  rcases (mT 4 8 (by decide) (by decide) 4 8 rfl rfl (by decide)).run s q1 l1 with⟨e,st,p2,g2,x2,y2⟩ | ⟨c,q2,p2,g2,n2,l2⟩
  ·refine .inl ⟨e,st,by rw[fM,Pr.bind_err]; rw[fQ,Pr.bind_of p1,Pr.bind_err]; rw[gM,Pr.bind_err p2],?_,x2,by rw[← x2]; exact y2⟩
   rw[g2,CM]
   dsimp only
   rw[show (0:Int).toNat+1=0+1 from rfl,bl,if_neg (by decide),CM]
   dsimp only
   rw[aQ,CM]
   dsimp only
   rw[if_neg y2]
   rfl
  obtain⟨c1,c2,c3,c4,c5,c6⟩:=iD (by decide) (by decide) l1 p2
  have c2:=c2 (by decide)
  rw[g2,CM]
  dsimp only
  rcases qr_l2 c s hs (by omega) c.toNat (c.toNat+1) 0 [] q2 (by omega) (by omega) l2 rfl with⟨e,st,r1,r2,r3,r4⟩ | ⟨ps,q3,r1,r2,r3,r4⟩
  ·refine .inl ⟨e,st,by rw[fM,Pr.bind_err]; rw[fQ,Pr.bind_of p1,Pr.bind_err]; rw[gM,Pr.bind_of p2,r1],?_,r3,r4⟩
   rw[r2]
   rfl
  have ht:fQ s q= .ok (⟨nm,ps⟩,q3):=by
   rw[fQ,Pr.bind_of p1,Pr.bind_of (a:=ps) (r:=q3) (by rw[gM,Pr.bind_of p2,r1])]
   rfl
  rw[r2,CM]
  dsimp only
  rw[aQ,CM]
  dsimp only
  rw[if_pos rfl,if_pos (by omega),if_pos (by omega),CW,fM,Pr.bind_of ht]
  rcases qr_l1 n s hs hn m fuel (k+1) (acc ++ [⟨nm,ps⟩]) q3 (by omega) (by omega) r4 (by rw[CO,h4]; rfl) with⟨e,st,s1,s2,s3,s4⟩ | ⟨l,r',s1,s2,s3,s4⟩
  ·exact .inl ⟨e,st,by rw[Pr.bind_err s1],s2,s3,s4⟩
  ·refine .inr ⟨⟨nm,ps⟩::l,r',by rw[Pr.bind_of s1]; rfl,?_,by omega,s4⟩
   rw[s2,CV,show k+1+m=k+(m+1) by omega]
   rfl
theorem B_prq (v:Int):CB (fun st=>cX st v) (pO v) zQ:=by
 have tail: ∀ (b:Bl) (a t:Int) (st:I),st.err≠0→((fa st).bind fun (x121,st122)=>(if x121=0 then ((bz (⟨b,a,t,[]⟩:ao) v).bind fun x138=>(if x138=0 then some st122 else ((bg st122 x138).bind fun st146=>some st146)).bind fun st143=>some st143) else some st122).bind fun st135=>(fa st135).bind fun (x148,st149)=>if x148=0 then (some ((⟨b,a,t,[]⟩:ao),st149)) else (some ((⟨(⟨false,[]⟩:Bl),0,0,[]⟩:ao),st149)))=some (zQ,st):=by
  intro b a t st h
  rw[aQ,CM]
  dsimp only
  rw[if_neg h,CM,aQ,CM]
  dsimp only
  rw[if_neg h]
  rfl
 have dead: ∀ (b:Bl) (a t:Int) (st:I),st.err≠0→((fI st 4 6).bind fun (x12,st13)=>(bZ x12 ((x12).toNat+1) 0 [] st13).bind fun e=>match e with | .ret r=>some r | .go (k116,y117,st120)=>((fa st120).bind fun (x121,st122)=>(if x121=0 then ((bz (⟨b,a,t,y117⟩:ao) v).bind fun x138=>(if x138=0 then some st122 else ((bg st122 x138).bind fun st146=>some st146)).bind fun st143=>some st143) else some st122).bind fun st135=>(fa st135).bind fun (x148,st149)=>if x148=0 then (some ((⟨b,a,t,y117⟩:ao),st149)) else (some ((⟨(⟨false,[]⟩:Bl),0,0,[]⟩:ao),st149))))=some (zQ,st):=by
  intro b a t st h
  rw[iQ h (by decide) (by decide),CM]
  dsimp only
  rw[show (0:Int).toNat+1=0+1 from rfl,ed,if_neg (by decide),CM]
  exact tail b a t st h
 refine⟨fun st h=> ?_,fun s q hs hq=> ?_⟩
 ·show cX st v= _
  unfold cX
  rw[hN h,CM]
  dsimp only
  rw[dL h,CM]
  dsimp only
  rw[dL h,CM]
  exact dead _ _ _ st h
 ·show (∃ e st,pO v s q= _∧cX _ v= _∧ _∧ _)∨(∃ a r,pO v s q= _∧cX _ v= _∧ _∧ _)
  unfold cX
  rcases QF2.run s q hq with⟨e,st,p1,g1,x1,y1⟩ | ⟨b,q1,p1,g1,n1,l1⟩
  ·refine .inl ⟨e,st,Pr.bind_err p1,?_,x1,y1⟩
   rw[g1,CM]
   dsimp only
   rw[dL y1,CM]
   dsimp only
   rw[dL y1,CM]
   exact dead _ _ _ st y1
  rw[g1,CM]
  dsimp only
  rcases Q2.run s q1 l1 with⟨e,st,p2,g2,x2,y2⟩ | ⟨a,q2,p2,g2,n2,l2⟩
  ·refine .inl ⟨e,st,by rw[pO,Pr.bind_of p1,Pr.bind_err p2],?_,x2,y2⟩
   rw[g2,CM]
   dsimp only
   rw[dL y2,CM]
   exact dead _ _ _ st y2
  rw[g2,CM]
  dsimp only
  rcases Q4.run s q2 l2 with⟨e,st,p3,g3,x3,y3⟩ | ⟨t,q3,p3,g3,n3,l3⟩
  ·refine .inl ⟨e,st,by rw[pO,Pr.bind_of p1,Pr.bind_of p2,Pr.bind_err p3],?_,x3,y3⟩
   rw[g3,CM]
   exact dead _ _ _ st y3
  rw[g3,CM]
  dsimp only
  rcases (mT 4 6 (by decide) (by decide) 4 6 rfl rfl (by decide)).run s q3 l3 with⟨e,st,p4,g4,x4,y4⟩ | ⟨c,q4,p4,g4,n4,l4⟩
  ·refine .inl ⟨e,st,by rw[pO,Pr.bind_of p1,Pr.bind_of p2,Pr.bind_of p3,Pr.bind_err]; rw[gM,Pr.bind_err p4],?_,x4,y4⟩
   have:=dead b a t st y4
   rw[iQ y4 (by decide) (by decide)] at this
   rw[g4]
   exact this
  obtain⟨c1,c2,c3,c4,c5,c6⟩:=iD (by decide) (by decide) l3 p4
  have c2:=c2 (by decide)
  rw[g4,CM]
  dsimp only
  rcases qr_l1 c s hs (by omega) c.toNat (c.toNat+1) 0 [] q4 (by omega) (by omega) l4 rfl with⟨e,st,r1,r2,r3,r4⟩ | ⟨l,q5,r1,r2,r3,r4⟩
  ·refine .inl ⟨e,st,by rw[pO,Pr.bind_of p1,Pr.bind_of p2,Pr.bind_of p3,Pr.bind_err]; rw[gM,Pr.bind_of p4,r1],?_,r3,by rw[r3]; exact r4⟩
   rw[r2]
   rfl
  have hl:gM 4 6 fQ s q3= .ok (l,q5):=by rw[gM,Pr.bind_of p4,r1]
  obtain⟨d1,d2,d3,d4,d5⟩:=mm.spell _ _ _ _ l3 hl
  obtain⟨t1,t2,t3,t4,t5⟩:=(bB 4 (by decide) (by decide)).spell _ _ _ _ l2 p3
  rw[CO,al] at d3
  have hg:gdQ ⟨b,a,t,l⟩:=yK t5 d5.2 (by omega)
  rw[r2,CM]
  dsimp only
  rw[aQ,CM]
  dsimp only
  rw[if_pos rfl,CW,yF _ v hg,CM,pO,Pr.bind_of p1,Pr.bind_of p2,Pr.bind_of p3,Pr.bind_of hl]
  by_cases hc:tD v ⟨b,a,t,l⟩=0
  ·rw[if_pos hc,if_pos hc]
   exact .inr ⟨_,q5,rfl,rfl,by omega,r4⟩
  ·rw[if_neg hc,if_neg hc,cf,lf]
   refine .inl ⟨_,⟨s.drop q5,q5,tD v ⟨b,a,t,l⟩⟩,rfl,?_,rfl,hc⟩
   rw[CM,CM,CM,aQ,CM]
   dsimp only
   rw[if_neg hc]
   rfl
def zF:ax:=⟨zHead,zB,zA,zE,[],zQ⟩
def frB (h:dv) (x:aD):ax:=⟨h,x,zA,zE,[],zQ⟩
def frA (h:dv) (x:bh):ax:=⟨h,zB,x,zE,[],zQ⟩
def frE (h:dv) (x:bc):ax:=⟨h,zB,zA,x,[],zQ⟩
def frM (h:dv) (x:List aA):ax:=⟨h,zB,zA,zE,x,zQ⟩
def frP (h:dv) (x:ao):ax:=⟨h,zB,zA,zE,[],x⟩
def tG (v:Int):Pr aD:=if v>0 then xP v else xO v
theorem yL (v:Int):CB (fun st=>da st v) (tG v) zB:=by
 unfold tG
 by_cases hv:v>0
 ·rw[if_pos hv]; exact B_beg1 v hv
 ·rw[if_neg hv]; exact B_beg0 v hv
def nc (h:dv):Pr ax :=
 if h.Cm=22 then (tG h.Ce).map (frB h) else if h.Cm=24 then xN.map (frA h) else if h.Cm=26 then xM.map (frE h)
 else if h.Cm=27 then (kP h.Ce).map (frM h) else (pO h.Ce).map (frP h)
def pIn:Pr ax:=sY.bind nc
def sj (s:List UInt8):Except Int (ax×Nat)→ax×Int
 | .error e=>(zF,e)
 | .ok (f,r)=>if r<s.length then (zF,2) else (f,0)
def opn (s:List UInt8):ax×Int:=sj s (pIn s 0)
theorem pP {st:I} (h:st.err≠0):bU st=st:=by
 unfold bU bt
 rw[if_neg h]
 split <;> rfl
theorem sk (s:List UInt8) (r:Nat) (hr:r≤s.length):bU ⟨s.drop r,r,0⟩=if r<s.length then ⟨s.drop r,r,2⟩ else ⟨s.drop r,r,0⟩:=by
 unfold bU bt
 by_cases h:r<s.length
 ·rw[if_pos h,if_neg (by intro h2; have:=congrArg List.length h2; rw[C1] at this; simp at this; omega)]
  rfl
 ·rw[if_neg h,if_pos (by rw[List.drop_eq_nil_iff]; omega)]
theorem kX {α:Type} {op:I→Option (α×I)} {p:Pr α} {z:α} (h:CB op p z) (g:α→ax) (s:List UInt8) (q:Nat) (hs:s.length≤1000000) (hq:q≤s.length) :
 ((op ⟨s.drop q,q,0⟩).bind fun (x14,st15)=>(cc st15).bind fun (x17,st18)=>if x17=0 then some (g x14,0) else some (zF,x17))=some (sj s ((p.map g) s q)):=by
 rcases h.run s q hs hq with⟨e,st,p1,g1,x1,y1⟩ | ⟨a,r,p1,g1,n1,l1⟩
 ·rw[g1,Pr.map,Pr.bind_err p1]
  simp only[CM,cZ,pP y1]
  rw[if_neg y1,x1]
  rfl
 ·rw[g1,Pr.map,Pr.bind_of p1]
  simp only[CM,cZ,sk s r l1,Pr.ret,sj]
  by_cases hr:r<s.length
  ·rw[if_pos hr,if_pos hr]
   rfl
  ·rw[if_neg hr,if_neg hr]
   rfl
theorem zI (s:List UInt8) (hs:s.length≤1000000):gq s=some (opn s):=by
 unfold gq opn pIn
 rw[fz s (by omega)]
 simp only[CM]
 have h0:=xB.run s 0 (Da _)
 rw[List.drop_zero] at h0
 rcases h0 with⟨e,st,p1,g1,x1,y1⟩ | ⟨h,r,p1,g1,n1,l1⟩
 ·rw[g1,Pr.bind_err p1]
  simp only[CM,aQ]
  rw[if_neg y1,x1]
  rfl
 ·rw[g1,Pr.bind_of p1]
  simp only[CM,aQ]
  rw[if_pos trivial]
  unfold nc
  by_cases h22:h.Cm=22
  ·rw[if_pos h22,if_pos h22]; exact kX (yL h.Ce) (frB h) s r hs l1
  rw[if_neg h22,if_neg h22]
  by_cases h24:h.Cm=24
  ·rw[if_pos h24,if_pos h24]; exact kX B_add (frA h) s r hs l1
  rw[if_neg h24,if_neg h24]
  by_cases h26:h.Cm=26
  ·rw[if_pos h26,if_pos h26]; exact kX B_end (frE h) s r hs l1
  rw[if_neg h26,if_neg h26]
  by_cases h27:h.Cm=27
  ·rw[if_pos h27,if_pos h27]; exact kX (vm h.Ce) (frM h) s r hs l1
  rw[if_neg h27,if_neg h27]
  exact kX (B_prq h.Ce) (frP h) s r hs l1
def tH:Pr ax:=fun s q=>match cM 4 s q with
 | .error e=> .error e
 | .ok (n,r)=>if n<0 then .error 4 else if (s.length:Int) - r<n then .error 1 else if (opn ((s.drop r).take n.toNat)).2=0 then .ok ((opn ((s.drop r).take n.toNat)).1,r+n.toNat) else .error (opn ((s.drop r).take n.toNat)).2
theorem zJ (l:List UInt8) (q:Nat) {n:Int} (h:n<0):bC ⟨l,q,0⟩ n=([],⟨l,q,4⟩):=by
 unfold bC
 rw[if_neg (by simp),if_pos h]
theorem wM (l:List UInt8) (q:Nat) {n:Int} (h: ¬ n<0) (h2:(l.length:Int)<n):bC ⟨l,q,0⟩ n=([],⟨l,q,1⟩):=by
 unfold bC
 rw[if_neg (by simp),if_neg h,if_pos h2]
theorem itk_ok (l:List UInt8) (q:Nat) {n:Int} (h: ¬ n<0) (h2: ¬ (l.length:Int)<n):bC ⟨l,q,0⟩ n=(l.take n.toNat,⟨l.drop n.toNat,q+n.toNat,0⟩):=by
 unfold bC
 rw[if_neg (by simp),if_neg h,if_neg h2]
theorem B_frm:CB fD tH zF:=by
 refine⟨fun st h=> ?_,fun s q hs hq=> ?_⟩
 ·unfold fD
  rw[dL h]
  simp only[CM,jz _ _ (by decide:(-9223372036854775808:Int)≤0∧(0:Int)≤9223372036854775807),bC,if_pos h,aQ,if_neg h]
  rfl
 ·unfold fD tH
  rcases Q4.run s q hq with⟨e,st,p1,g1,x1,y1⟩ | ⟨n,r,p1,g1,n1,l1⟩
  ·refine .inl ⟨e,st,by rw[p1],?_,x1,y1⟩
   rw[g1]
   simp only[CM,jz _ _ (by decide:(-9223372036854775808:Int)≤0∧(0:Int)≤9223372036854775807),bC,if_pos y1,aQ,if_neg y1]
   rfl
  ·have hn:=bE ((bB 4 (by decide) (by decide)).spell s q n r hq p1).2.2.2.2
   rw[p1,g1]
   simp only[CM,jz _ _ hn,aQ]
   by_cases h1:n<0
   ·rw[if_pos h1,zJ _ _ h1]
    exact .inl ⟨4,⟨s.drop r,r,4⟩,rfl,rfl,rfl,by simp⟩
   rw[if_neg h1]
   by_cases h2:(s.length:Int) - r<n
   ·rw[if_pos h2,wM _ _ h1 (by rw[C1]; omega)]
    exact .inl ⟨1,⟨s.drop r,r,1⟩,rfl,rfl,rfl,by simp⟩
   rw[if_neg h2,itk_ok _ _ h1 (by rw[C1]; omega)]
   rw[if_pos rfl,zI _ (by rw[Dz,C1]; omega)]
   simp only[CM,DB]
   by_cases h3:(opn ((s.drop r).take n.toNat)).2=0
   ·rw[if_pos h3,if_pos h3]
    exact .inr ⟨_,r+n.toNat,rfl,rfl,by omega,by omega⟩
   ·rw[if_neg h3,if_neg h3,cf]
    exact .inl ⟨_,bt ⟨s.drop (r+n.toNat),r+n.toNat,0⟩ (opn ((s.drop r).take n.toNat)).2,rfl,rfl,rfl,h3⟩
def smBl (l:List Bat):Prop:= ∀ b,b∈l→smB b∧chk b=0
theorem pQ {b:Bat} (h:okB b) (hl:(dK b).length≤80000):smB b:=by
 have h1:=lm h
 refine⟨pM h (by omega),fun r hr=> ?_,by omega⟩
 have h2:=d9 (enc:=cu) b.B0 r hr
 have h3:=pF r
 have h4:(ci r).length≤(cu r).length:=by
  unfold cu
  rw[CO]
  omega
 unfold body at h1
 omega
theorem wN {v:Int} {r:ao} (h:okQ v r) (hl:(j9 r).length≤80000):(wI r.CG∧wI r.B8)∧r.BZ.length≤1000000∧ ∀ t,t∈r.BZ→t.B7.length≤1000000∧ ∀ p,p∈t.B7→wI p.Cs∧p.Cf.length≤1000000∧smBl p.Cf:=by
 obtain⟨h1,h2,h3,h4,h5⟩:=h
 have n1:=gr (ok:=qp) nb r.BZ h4.2
 simp only[j9,CO,al] at hl
 refine⟨⟨bE h2,bE h3⟩,by omega,fun t ht=> ?_⟩
 have n2:=d9 (enc:=fw) r.BZ t ht
 have n3:=gr (ok:=si) na t.B7 (h4.2 t ht).2.2
 simp only[fw,CO,al] at n2
 refine⟨by omega,fun p hp=> ?_⟩
 have n4:=d9 (enc:=fG) t.B7 p hp
 have hpo:=(h4.2 t ht).2.2 p hp
 have n5:=nM hpo.2.2
 simp only[fG,CO,al] at n4
 refine⟨bE hpo.1,by omega,fun b hb=>⟨pQ (hpo.2.2 b hb) ?_,(hpo.2.2 b hb).2.2.2⟩⟩
 have:=d9 (enc:=dK) p.Cf b hb
 omega
def iT:Int→List Bat→Int
 | w,[]=>w
 | w,x::l=>iT (if w=0 then chk x else w) l
theorem rj {w:Int} (h:w≠0): ∀ l:List Bat,iT w l=w
 | []=>rfl
 | x::l=>by rw[iT,if_neg h,rj h l]
theorem rk: ∀ {l:List Bat},(∀ x,x∈l→chk x=0)→iT 0 l=0
 | [],_=>rfl
 | y::l,h=>by rw[iT,if_pos rfl,h y (.head _),rk (fun x hx=>h x (.tail _ hx))]
theorem yM (y4:List UInt8) (y5:Int): ∀ (l:List Bat) (t:List UInt8),(∀ x,x∈l→smB x)→t.length+1000000*l.length≤1000000000 →
 dG l y4 y5 t=some (if iT 0 l=0 then .go (y4,y5,t++aV dK l) else .ret ([],iT 0 l))
 | [],t,_,_=>by rw[aV,Db]; rfl
 | x::l,t,h,hl=>by
  have hx:=h x (.head _)
  rw[C9] at hl
  rw[dG,benc hx,CM,iT,if_pos rfl]
  by_cases hc:chk x=0
  ·have he:=lm (okB_of hx hc)
   have hx2:=hx.2.2
   rw[if_pos hc]
   dsimp only
   rw[if_pos rfl,t6 _ _ (by omega),CM,yM y4 y5 l _ (fun y hy=>h y (.tail _ hy)) (by rw[CO]; omega),hc,aV,CV]
  ·rw[if_neg hc,rj hc]
   dsimp only
   rw[if_neg hc,if_neg hc]
theorem all_eq {l:List Bat} (h: ∀ x,x∈l→smB x) (hl:l.length≤1000):hC l=some (if iT 0 l=0 then (aV dK l,0) else ([],iT 0 l)):=by
 unfold hC
 rw[yM [] 0 l [] h (by rw[DJ]; omega),CM]
 by_cases hc:iT 0 l=0
 ·rw[if_pos hc,if_pos hc]
  dsimp only
  rw[xh,CM,CW]
 ·rw[if_neg hc,if_neg hc]
theorem wO {t d:List UInt8} (hf:d.length≤32767) (ht:t.length≤1000000000):f7 (t,0) d=some (t++(be (d.length:Int) 2++d),0):=by
 rw[nV _ _ (by simp only; omega)]
 have:=fY (t:=t) (b:=⟨false,d⟩) (k:=2) (eQ (.inl rfl) (show -32768≤(d.length:Int) by omega) (show (d.length:Int)≤32767 by omega)) rfl (by simp only; omega)
 rw[jW _ _ _ ⟨by decide,by simp only; omega⟩] at this
 exact this
theorem qw_l2: ∀ (l:List aW) (t:List UInt8),(∀ p,p∈l→si p∧p.Cf.length≤1000∧smBl p.Cf)→t.length+(aV fG l).length≤1000000→ba l (t,0)=some (t++aV fG l,0)
 | [],t,h,hl=>by rw[ba,aV,Db]
 | p::l,t,h,hl=>by
  obtain⟨h1,h2,h3⟩:=h p (.head _)
  rw[aV,CO] at hl
  have hpl:=hl
  simp only[fG,CO,al] at hpl
  rw[ba,all_eq (fun x hx=>(h3 x hx).1) h2,if_pos (rk (fun x hx=>(h3 x hx).2)),CM]
  dsimp only
  rw[if_pos rfl,CM,bR h1.1 (by omega),CM,gOf_eq,CM,fY (b:=⟨false,aV dK p.Cf⟩) h1.2.1 rfl (by simp only[CO,al]; show _+(4:Int).toNat + _≤ _; omega),CM]
  have e4:(t++be p.Cs (4:Int).toNat)++(be (de (⟨false,aV dK p.Cf⟩:Bl)) (4:Int).toNat++(⟨false,aV dK p.Cf⟩:Bl).data)=t++fG p:=by rw[CV]; rfl
  rw[e4,qw_l2 l _ (fun x hx=>h x (.tail _ hx)) (by rw[CO]; omega),aV,CV]
theorem qw_l1: ∀ (l:List aB) (t:List UInt8),(∀ x,x∈l→x.Ck.length≤32767∧qp x∧ ∀ p,p∈x.B7→p.Cf.length≤1000∧smBl p.Cf)→t.length+(aV fw l).length≤1000000→bb l (t,0)=some (t++aV fw l,0)
 | [],t,h,hl=>by rw[bb,aV,Db]
 | x::l,t,h,hl=>by
  obtain⟨h0,h1,h2⟩:=h x (.head _)
  rw[aV,CO] at hl
  have hpl:=hl
  simp only[fw,CO,al] at hpl
  rw[bb,wO h0 (by omega),CM,bR h1.2.1 (by simp only[CO,al]; omega),CM]
  rw[qw_l2 x.B7 _ (fun p hp=>⟨h1.2.2 p hp,h2 p hp⟩) (by simp only[CO,al]; show _+(2 + _)+(4:Int).toNat + _≤ _; omega),CM,CM]
  have e4:(t++(be (x.Ck.length:Int) 2++x.Ck))++be (x.B7.length:Int) (4:Int).toNat++aV fG x.B7=t++fw x:=by simp only[fw,CV]; rfl
  rw[e4,qw_l1 l _ (fun y hy=>h y (.tail _ hy)) (by rw[CO]; omega),aV,CV]
def okBg (v:Int) (x:aD):Prop:=if v>0 then okFx x.Cc∧aN x.B8 4=true∧aN x.BX 8=true∧aN x.B5 2=true∧eE x.Cc x.B8 x.BX x.B5 v=0 else okFx x.Cc∧aN x.B8 4=true∧eE x.Cc x.B8 x.BX x.B5 v=0∧x.BX= -1∧x.B5= -1
theorem vG (v:Int):Sp (tG v) (ws v) (okBg v):=by
 unfold tG
 by_cases hv:v>0
 ·rw[if_pos hv]
  refine (zn v).congr (fun x=>by unfold okBg; rw[if_pos hv]) (fun x _=>by unfold ws; rw[if_pos hv])
 ·rw[if_neg hv]
  refine (zo v).congr (fun x=>by unfold okBg; rw[if_neg hv]) (fun x _=>by unfold ws; rw[if_neg hv])
def okEn (x:bc):Prop:=okTx x.Cc∧aN x.BX 8=true∧aN x.B5 2=true∧kN x.Cc x.BX x.B5=0
def okAd (x:bh):Prop:=okTx x.Cc∧aN x.BX 8=true∧aN x.B5 2=true∧ql x.BZ∧kO x.Cc x.BX x.B5 x.BZ=0
def okMs (v:Int) (l:List aA):Prop:=(aN (l.length:Int) 4=true∧ ∀ m,m∈l→okM v m)∧lO v l=0
def jO (h:dv) (f:ax):List UInt8 :=
 if h.Cm=22 then ws h.Ce f.Cx else if h.Cm=24 then wn f.Cy else if h.Cm=26 then encE f.CJ else if h.Cm=27 then pp h.Ce f.Cz else j9 f.Cj
def nO (h:dv) (f:ax):Prop :=
 if h.Cm=22 then okBg h.Ce f.Cx∧frB h f.Cx=f else if h.Cm=24 then okAd f.Cy∧frA h f.Cy=f else if h.Cm=26 then okEn f.CJ∧frE h f.CJ=f
 else if h.Cm=27 then okMs h.Ce f.Cz∧frM h f.Cz=f else okQ h.Ce f.Cj∧frP h f.Cj=f
theorem zK (h:dv):Sp (nc h) (jO h) (nO h):=by
 unfold nc
 by_cases h22:h.Cm=22
 ·rw[if_pos h22]
  exact ((vG h.Ce).map (frB h) (fun f=>f.Cx) (fun _=>rfl)).congr (fun f=>by unfold nO; rw[if_pos h22]) (fun f _=>by unfold jO; rw[if_pos h22])
 rw[if_neg h22]
 by_cases h24:h.Cm=24
 ·rw[if_pos h24]
  exact (xR.map (frA h) (fun f=>f.Cy) (fun _=>rfl)).congr (fun f=>by unfold nO okAd; rw[if_neg h22,if_pos h24]) (fun f _=>by unfold jO; rw[if_neg h22,if_pos h24])
 rw[if_neg h24]
 by_cases h26:h.Cm=26
 ·rw[if_pos h26]
  exact (xQ.map (frE h) (fun f=>f.CJ) (fun _=>rfl)).congr (fun f=>by unfold nO okEn; rw[if_neg h22,if_neg h24,if_pos h26]) (fun f _=>by unfold jO; rw[if_neg h22,if_neg h24,if_pos h26])
 rw[if_neg h26]
 by_cases h27:h.Cm=27
 ·rw[if_pos h27]
  exact ((td h.Ce).map (frM h) (fun f=>f.Cz) (fun _=>rfl)).congr (fun f=>by unfold nO okMs; rw[if_neg h22,if_neg h24,if_neg h26,if_pos h27]) (fun f _=>by unfold jO; rw[if_neg h22,if_neg h24,if_neg h26,if_pos h27])
 rw[if_neg h27]
 exact ((yJ h.Ce).map (frP h) (fun f=>f.Cj) (fun _=>rfl)).congr (fun f=>by unfold nO; rw[if_neg h22,if_neg h24,if_neg h26,if_neg h27]) (fun f _=>by unfold jO; rw[if_neg h22,if_neg h24,if_neg h26,if_neg h27])
theorem rl {h:dv} {f:ax} (k:nO h f):f.Cp=h:=by
 unfold nO at k
 repeat' split at k
 all_goals rw[← k.2]; rfl
def gC (f:ax):List UInt8:=nF f.Cp++jO f.Cp f
def okIn (f:ax):Prop:=okH f.Cp∧nO f.Cp f
theorem yN:Sp pIn gC okIn:=by
 refine ve.seq (π:=fun f:ax=>f.Cp) (enc2:=fun f=>jO f.Cp f) (ok2:=fun f=>nO f.Cp f) (fun a=>(zK a).congr (fun f=>⟨fun k=> ?_,fun k=> ?_⟩) (fun f k=> ?_))
 ·rw[rl k]; exact⟨k,rfl⟩
 ·have:=k.1; rw[k.2] at this; exact this
 ·rw[rl k]
theorem rm {α:Type} {p:Pr α} {enc:α→List UInt8} {ok:α→Prop} (hs:Sp p enc ok) {s:List UInt8} {a:α} (hp:p s 0= .ok (a,s.length)) (c:List UInt8):s=enc a∧ok a∧p (s++c) 0= .ok (a,s.length):=by
 obtain⟨h1,h2,h3,h4,h5⟩:=hs.spell s 0 a s.length (Da _) hp
 rw[List.take_length,List.take_zero,CW] at h4
 have hb:=hs.back (s++c) c 0 a (Da _) h5 (by rw[List.drop_zero,← h4])
 rw[Nat.zero_add,← h4] at hb
 exact⟨h4,h5,hb⟩
def lP (f:ax):List UInt8:=be ((gC f).length:Int) 4++gC f
def okFr (f:ax):Prop:=okIn f∧aN ((gC f).length:Int) 4=true
theorem opn_ok {m:List UInt8} (hm:NZ pIn) (hl:m.length≤1000000) (h:(opn m).2=0):pIn m 0= .ok ((opn m).1,m.length):=by
 unfold opn sj at h ⊢
 cases hp:pIn m 0 with
 | error e =>
  rw[hp] at h
  exact absurd h (hm m 0 e hl (Da _) hp)
 | ok x =>
  rw[hp] at h
  simp only at h ⊢
  have:=(yN.spell m 0 x.1 x.2 (Da _) hp).2.1
  by_cases hr:x.2<m.length
  ·rw[if_pos hr] at h
   exact absurd h (by decide)
  ·rw[if_neg hr]
   have:x.2=m.length:=by omega
   rw[← this]
theorem opn_of {f:ax} (h:okIn f):opn (gC f)=(f,0):=by
 have hb:=yN.back (gC f) [] 0 f (Da _) h (by simp)
 unfold opn
 rw[hb]
 simp only[sj,Nat.zero_add]
 rw[if_neg (by omega)]
theorem pR {α β:Type} {p:Pr α} {enc:α→List UInt8} {ok:α→Prop} (g:α→β) (hp:NZ p) (hs:Sp p enc ok):NZ (p.map g):=hp.bind hs (fun _=> .ret _)
theorem NZ_in:NZ pIn:=by
 refine xB.cb.nz.bind ve (fun h=> ?_)
 unfold nc
 by_cases h22:h.Cm=22
 ·rw[if_pos h22]; exact pR _ (yL h.Ce).nz (vG h.Ce)
 rw[if_neg h22]
 by_cases h24:h.Cm=24
 ·rw[if_pos h24]; exact pR _ B_add.nz xR
 rw[if_neg h24]
 by_cases h26:h.Cm=26
 ·rw[if_pos h26]; exact pR _ B_end.nz xQ
 rw[if_neg h26]
 by_cases h27:h.Cm=27
 ·rw[if_pos h27]; exact pR _ (vm h.Ce).nz (td h.Ce)
 rw[if_neg h27]
 exact pR _ (B_prq h.Ce).nz (yJ h.Ce)
theorem wP {s:List UInt8} {q r':Nat} {f:ax} (hs:s.length≤1000000) (hq:q≤s.length) (h:tH s q= .ok (f,r')):q≤r'∧r'≤s.length∧r'=q+(lP f).length∧s.take r'=s.take q++lP f∧okFr f:=by
 unfold tH at h
 cases hp:cM 4 s q with
 | error e=>rw[hp] at h; exact nomatch h
 | ok x =>
  obtain⟨n,r⟩:=x
  rw[hp] at h
  simp only at h
  obtain⟨a1,a2,a3,a4,a5⟩:=(bB 4 (by decide) (by decide)).spell s q n r hq hp
  by_cases h1:n<0
  ·rw[if_pos h1] at h; exact nomatch h
  rw[if_neg h1] at h
  by_cases h2:(s.length:Int) - r<n
  ·rw[if_pos h2] at h; exact nomatch h
  rw[if_neg h2] at h
  by_cases h3:(opn ((s.drop r).take n.toNat)).2=0
  ·rw[if_pos h3] at h
   injection h with h
   obtain⟨rfl,rfl⟩:=C6 h
   have hml:((s.drop r).take n.toNat).length=n.toNat:=by rw[Dz,C1]; omega
   have hk:=opn_ok NZ_in (by omega) h3
   obtain⟨k1,k2,_⟩:=rm yN hk []
   have hl:(gC (opn ((s.drop r).take n.toNat)).1).length=n.toNat:=by rw[← k1,hml]
   have hn:((gC (opn ((s.drop r).take n.toNat)).1).length:Int)=n:=by rw[hl]; omega
   have he:lP (opn ((s.drop r).take n.toNat)).1=be n 4++(s.drop r).take n.toNat:=by unfold lP; rw[hn,← k1]
   refine⟨by omega,by omega,?_,?_,k2,by rw[hn]; exact a5⟩
   ·rw[he,CO,hml,a3]; omega
   ·rw[he,jL,a4,CV]
  ·rw[if_neg h3] at h; exact nomatch h
theorem yO {s t:List UInt8} {q:Nat} {f:ax} (hq:q≤s.length) (h:okFr f) (hd:s.drop q=lP f++t):tH s q= .ok (f,q+(lP f).length):=by
 have hd':s.drop q=be ((gC f).length:Int) 4++(gC f++t):=by rw[hd,lP,CV]
 have hp:=(bB 4 (by decide) (by decide)).back s _ q _ hq h.2 hd'
 have hb4:(be ((gC f).length:Int) 4).length=4:=al _ _
 have hr:s.drop (q+(be ((gC f).length:Int) 4).length)=gC f++t:=aY hd'
 have hl:=congrArg List.length hr
 rw[C1,CO] at hl
 have hl0:=congrArg List.length hd'
 rw[C1,CO,CO,hb4] at hl0
 unfold tH
 rw[hp]
 simp only
 rw[if_neg (by omega),if_neg (by omega),hr,Dx,List.take_append_of_le_length (Dc _),List.take_length,opn_of h.1]
 rw[if_pos rfl,lP,CO,Nat.add_assoc]
def smF (f:ax):Prop:=wTs f.Cy.BZ≤2000∧(∀ m,m∈f.Cz→wTs m.BZ≤2000)∧(aV (jM f.Cp.Ce) f.Cz).length≤300000∧(f.Cp.Cm≠22→f.Cp.Cm≠24→f.Cp.Cm≠26→f.Cp.Cm≠27→gdQ f.Cj∧(j9 f.Cj).length≤300000∧ ∀ t,t∈f.Cj.BZ→t.Ck.length≤32767∧t.B7.length≤1000∧ ∀ p,p∈t.B7→p.Cf.length≤1000∧smBl p.Cf)
theorem yP {v:Int} {l:List aA} {t:List UInt8} (h:okMs v l) (hw: ∀ m,m∈l→wTs m.BZ≤2000) (hl:(aV (jM v) l).length≤300000) (ht:t.length≤100000):gi (t,0) l v=some (t++pp v l,0):=by
 unfold gi
 rw[xU v l (fun m hm=>okM_W (h.1.2 m hm) (by have:=hw m hm; omega)),CM,if_pos h.2,bR h.1.1 (by omega),CM,nY v l _ (fun m hm=>⟨h.1.2 m hm,hw m hm⟩) (by rw[CO,al,show (4:Int).toNat=4 from rfl]; omega),CM,CV]
 rfl
theorem q_put {v:Int} {a:ao} {t:List UInt8} (hg:gdQ a) (h:okQ v a) (hl:(j9 a).length≤300000) (ht:t.length≤100000) (hb: ∀ t,t∈a.BZ→t.Ck.length≤32767∧t.B7.length≤1000∧ ∀ p,p∈t.B7→p.Cf.length≤1000∧smBl p.Cf):cW (t,0) a v=some (t++j9 a,0):=by
 obtain⟨h1,h2,h3,h4,h5⟩:=h
 have hl':=hl
 simp only[j9,CO,al] at hl'
 unfold cW
 rw[yF a v hg,CM,if_pos h5,fY h1.1 h1.2 (by omega),CM,bR h2 (by simp only[CO,al]; show _+(2 + _)≤ _; omega),CM,bR h3 (by simp only[CO,al]; show _+(2 + _)+2≤ _; omega),CM,bR h4.1 (by simp only[CO,al]; show _+(2 + _)+2+4≤ _; omega),CM]
 rw[qw_l1 a.BZ _ (fun t ht=>⟨(hb t ht).1,h4.2 t ht,(hb t ht).2.2⟩) (by simp only[CO,al]; show _+(2 + _)+2+4+4 + _≤ _; omega),CM]
 simp only[j9,CV]
 rfl
theorem yQ {f:ax} {t:List UInt8} (h:nO f.Cp f) (hs:smF f) (ht:t.length≤100000):dX (t,0) f=some (t++jO f.Cp f,0):=by
 unfold dX
 unfold nO at h
 unfold jO
 by_cases h22:f.Cp.Cm=22
 ·rw[if_pos h22] at h ⊢
  rw[if_pos h22]
  have hb:=h.1
  unfold okBg at hb
  by_cases hv:f.Cp.Ce>0
  ·rw[if_pos hv] at hb
   rw[pm f.Cx _ t (bE hb.2.2.1) (bE hb.2.2.2.1) (bE hb.2.1) (by omega),if_pos hb.2.2.2.2]
   rfl
  ·rw[if_neg hv] at hb
   rw[pm f.Cx _ t (by rw[hb.2.2.2.1]; exact wim) (by rw[hb.2.2.2.2]; exact wim) (bE hb.2.1) (by omega),if_pos hb.2.2.1]
   rfl
 rw[if_neg h22] at h ⊢
 rw[if_neg h22]
 by_cases h24:f.Cp.Cm=24
 ·rw[if_pos h24] at h ⊢
  rw[if_pos h24]
  obtain⟨k1,k2,k3,k4,k5⟩:=h.1
  rw[xT f.Cy t (bE k2) (bE k3) (te k4 (by have:=hs.1; omega)) hs.1 (by omega),if_pos k5]
  rfl
 rw[if_neg h24] at h ⊢
 rw[if_neg h24]
 by_cases h26:f.Cp.Cm=26
 ·rw[if_pos h26] at h ⊢
  rw[if_pos h26]
  obtain⟨k1,k2,k3,k4⟩:=h.1
  rw[xS f.CJ t (bE k2) (bE k3) (by omega),if_pos k4]
  rfl
 rw[if_neg h26] at h ⊢
 rw[if_neg h26]
 by_cases h27:f.Cp.Cm=27
 ·rw[if_pos h27] at h ⊢
  rw[if_pos h27,yP h.1 hs.2.1 hs.2.2.1 ht]
  rfl
 rw[if_neg h27] at h ⊢
 obtain⟨g1,g2,g3⟩:=hs.2.2.2 h22 h24 h26 h27
 rw[if_neg h27,q_put g1 h.1 g2 ht g3]
 rfl
theorem zL {h:dv} (k:okH h):rP h=0∧h.Cg.data.length≤32767:=by
 obtain⟨k1,k2,k3,k4⟩:=k
 have hl:h.Cg.data.length≤32767:=by
  by_cases hn:h.Cg.null=true
  ·have:h.Cg.data = []:=by
    unfold aT at k4
    rw[hn] at k4
    simpa using k4
   rw[this]; simp
  ·have hb:de h.Cg=(h.Cg.data.length:Int):=by
    unfold de
    simp[hn]
   rw[hb,me] at k3
   have:=of_decide_eq_true k3
   omega
 unfold rP
 rw[if_pos k1,if_pos k2,if_pos k4,if_neg (by omega)]
 exact⟨rfl,hl⟩
theorem yR (h:dv):(nF h).length=10+h.Cg.data.length:=by
 simp only[nF,CO,al]; omega
theorem put_4 {m:List UInt8} (hl:m.length≤700000) (h3:aN (m.length:Int) 4=true):(bY ([],0) (m.length:Int) 4).bind (fun st28=>(qC st28 m).bind fun st30=>(gF st30).bind fun (x32,x33,st34)=>some (x32,x33))=some (be (m.length:Int) 4++m,0):=by
 have hb:(be (m.length:Int) 4).length=4:=al _ _
 rw[bR h3 (Da _),CM,CW,show (4:Int).toNat=4 from rfl,sD _ _ (by show (be (m.length:Int) 4).length + _≤ _; omega),CM,gL,fy,lN,CM]
theorem uO {f:ax} (h:okFr f) (hs:smF f) (hl:(gC f).length≤700000):ey f=some (lP f,0):=by
 obtain⟨⟨h1,h2⟩,h3⟩:=h
 obtain⟨c1,c2⟩:=zL h1
 have hb:=yQ (t:=nF f.Cp) h2 hs (by rw[yR]; omega)
 have hp:=put_4 hl h3
 unfold ey
 rw[uq f.Cp [] (Da _) (bE h1.2.1) (by omega),if_pos c1,CM,CW,wX,CM]
 dsimp only
 rw[if_pos rfl,hb,CM,CM,fy,lN,CM]
 dsimp only
 rw[if_pos rfl]
 exact hp
def vH (s:List UInt8):ax×Int:=sj s (tH s 0)
theorem pS (s:List UInt8) (hs:s.length≤1000000):dI s=some (vH s):=by
 unfold dI vH
 rw[fz s (by omega)]
 simp only[CM]
 have h0:=B_frm.run s 0 hs (Da _)
 rw[List.drop_zero] at h0
 rcases h0 with⟨e,st,p1,g1,x1,y1⟩ | ⟨f,r,p1,g1,n1,l1⟩
 ·rw[g1,p1]
  simp only[CM,cZ,pP y1,sj]
  rw[if_neg y1,x1]
  rfl
 ·rw[g1,p1]
  simp only[CM,cZ,sk s r l1,sj]
  by_cases hr:r<s.length
  ·rw[if_pos hr,if_pos hr]
   rfl
  ·rw[if_neg hr,if_neg hr]
   rfl
theorem smF_of {f:ax} (h:okFr f) (hl:(gC f).length≤2000):smF f:=by
 obtain⟨⟨h1,h2⟩,h3⟩:=h
 have hle:(jO f.Cp f).length≤2000:=by
  have:(gC f).length=(nF f.Cp).length+(jO f.Cp f).length:=by rw[gC,CO]
  omega
 unfold nO at h2
 unfold jO at hle
 unfold smF
 by_cases h22:f.Cp.Cm=22
 ·rw[if_pos h22] at h2
  have e:=h2.2
  refine⟨by rw[← e]; exact Da _,?_,?_,fun h=>absurd h22 h⟩
  ·rw[← e]; exact fun m hm=>nomatch hm
  ·rw[← e]; simp[frB,aV]
 rw[if_neg h22] at h2 hle
 by_cases h24:f.Cp.Cm=24
 ·rw[if_pos h24] at h2 hle
  have e:=h2.2
  have hw:wTs f.Cy.BZ≤2000:=by
   simp only[wn,jf,CO,al,e7] at hle
   omega
  refine⟨hw,?_,?_,fun _ h=>absurd h24 h⟩
  ·rw[← e]; exact fun m hm=>nomatch hm
  ·rw[← e]; simp[frA,aV]
 rw[if_neg h24] at h2 hle
 by_cases h26:f.Cp.Cm=26
 ·rw[if_pos h26] at h2 hle
  have e:=h2.2
  refine⟨by rw[← e]; exact Da _,?_,?_,fun _ _ h=>absurd h26 h⟩
  ·rw[← e]; exact fun m hm=>nomatch hm
  ·rw[← e]; simp[frE,aV]
 rw[if_neg h26] at h2 hle
 by_cases h27:f.Cp.Cm=27
 ·rw[if_pos h27] at h2 hle
  have e:=h2.2
  refine⟨by rw[← e]; exact Da _,fun m hm=> ?_,?_,fun _ _ _ h=>absurd h27 h⟩
  ·have:=qV f.Cp.Ce f.Cz m hm
   omega
  ·simp only[pp,CO] at hle
   omega
 rw[if_neg h27] at h2 hle
 have e:=h2.2
 refine⟨by rw[← e]; exact Da _,?_,?_,fun _ _ _ _=> ?_⟩
 ·rw[← e]; exact fun m hm=>nomatch hm
 ·rw[← e]; simp[frP,aV]
 ·have hq:=h2.1
  obtain⟨z1,z2,z3⟩:=wN hq (by omega)
  have hq2:=hq
  obtain⟨q1,q2,q3,q4,q5⟩:=hq2
  have n1:=gr (ok:=qp) nb f.Cj.BZ q4.2
  simp only[j9,CO,al] at hle
  refine⟨zH hq (by simp only[j9,CO,al]; omega),by simp only[j9,CO,al]; omega,fun t ht=> ?_⟩
  have n2:=d9 (enc:=fw) f.Cj.BZ t ht
  have n3:=gr (ok:=si) na t.B7 (q4.2 t ht).2.2
  simp only[fw,CO,al] at n2
  refine⟨by omega,by omega,fun p hp=> ?_⟩
  have n4:=d9 (enc:=fG) t.B7 p hp
  have n5:=nM ((q4.2 t ht).2.2 p hp).2.2
  simp only[fG,CO,al] at n4
  exact⟨by omega,((z3 t ht).2 p hp).2.2⟩
def uP (l:List UInt8):List UInt8:=be 0 2++(be (l.length:Int) 2++l)
theorem vI {l:List UInt8} (h:dc l=true):aN (l.length:Int) 2=true∧l.length≤32767∧l ≠ []:=by
 unfold dc at h
 simp only[Bool.and_eq_true,decide_eq_true_eq,Bool.not_eq_true'] at h
 refine⟨eQ (.inl rfl) (by omega) (by omega),by omega,fun h0=> ?_⟩
 rw[h0] at h
 exact absurd h.1 (by decide)
theorem wQ {l:List UInt8} (h:dc l=true):oI l=(uP l,0):=by
 obtain⟨h1,h2,h3⟩:=vI h
 have hb:aT ⟨false,l⟩=true:=rfl
 have hbl:de ⟨false,l⟩=(l.length:Int):=by simp[de]
 unfold oI
 rw[if_pos h]
 unfold jx iA ji mp
 rw[if_pos hb,hbl,if_pos h1,if_pos (show aN 0 2=true by decide),gL,gL,gL,lN]
 simp only[uP,CW,CV]
 rfl
def ne {α:Type} (z:α) (s:List UInt8):Except Int (α×Nat)→α×Int
 | .error e=>(z,e)
 | .ok (f,r)=>if r<s.length then (z,2) else (f,0)
def pT {α:Type} (D:List UInt8→Option (α×Int)) (E:α→Option (List UInt8×Int)) (s c:List UInt8):Prop :=
 (∃ x e,e≠0∧D s=some (x,e))∨(∃ x y,D s=some (x,0)∧E x=some (s,0)∧D (s++c)=some (y,2))
theorem mn {α:Type} {D:List UInt8→Option (α×Int)} {E:α→Option (List UInt8×Int)} {p:Pr α} {enc:α→List UInt8} {ok:α→Prop} {z:α} (hs:Sp p enc ok) (hz:NZ p)
 (hD: ∀ s:List UInt8,s.length≤2000→D s=some (ne z s (p s 0))) (hE: ∀ x,ok x→(enc x).length≤2000→E x=some (enc x,0)) (s c:List UInt8) (hl:s.length≤1500) (hc:c.length=1):pT D E s c:=by
 have h0:=hD s (by omega)
 cases hp:p s 0 with
 | error e =>
  rw[hp] at h0
  exact .inl ⟨z,e,hz s 0 e (by omega) (Da _) hp,h0⟩
 | ok x =>
  rw[hp] at h0
  have hr:=(hs.spell s 0 x.1 x.2 (Da _) hp).2.1
  simp only[ne] at h0
  by_cases hlt:x.2<s.length
  ·rw[if_pos hlt] at h0
   exact .inl ⟨z,2,by decide,h0⟩
  ·rw[if_neg hlt] at h0
   have he:x.2=s.length:=by omega
   obtain⟨k1,k2,k3⟩:=rm hs (a:=x.1) (by rw[← he]; exact hp) c
   have h1:=hD (s++c) (by rw[CO]; omega)
   rw[k3] at h1
   simp only[ne] at h1
   rw[if_pos (by rw[CO]; omega)] at h1
   have hEn:=hE x.1 k2 (by rw[← k1]; omega)
   rw[← k1] at hEn
   exact .inr ⟨x.1,z,h0,hEn,h1⟩
theorem yS (s:List UInt8) (x:Except Int (ax×Nat)):sj s x=ne zF s x:=by
 cases x with
 | error e=>rfl
 | ok y=>rfl
theorem NZ_rec:NZ tp:=yk.nz
theorem vJ (s:List UInt8) (hs:s.length≤2000):cJ s=some (ne qm s (tp s 0)):=by
 unfold cJ
 rw[fz s (by omega)]
 simp only[CM]
 have h0:=yk.run s 0 (by omega) (Da _)
 rw[List.drop_zero] at h0
 rcases h0 with⟨e,st,p1,g1,x1,y1⟩ | ⟨f,r,p1,g1,n1,l1⟩
 ·rw[g1,p1]
  simp only[CM,cZ,pP y1,ne]
  rw[if_neg y1,x1]
  rfl
 ·rw[g1,p1]
  simp only[CM,cZ,sk s r l1,ne]
  by_cases hr:r<s.length
  ·rw[if_pos hr,if_pos hr]
   rfl
  ·rw[if_neg hr,if_neg hr]
   rfl
theorem zM (s c:List UInt8) (hl:s.length≤1500) (hc:c.length=1):pT cJ dO s c :=
 mn r8 NZ_rec vJ (fun x hx hb=>by
  obtain⟨o1,o2,o3⟩:=od hx.1
  have hge:=pF x
  rw[cu,CO] at hb
  rw[uG x o2 o3 (by omega),if_pos o1]) s c hl hc
theorem zN (s:List UInt8) (hs:s.length≤2000):cU s=some (ne zBat s (qn s 0)):=by
 rcases uL s (by omega) with⟨e,h1,h2,h3 | ⟨b,r,h3,h4,h5⟩⟩ | ⟨b,h1,h2⟩
 ·rw[h2,h3]; rfl
 ·rw[h2,h3]; simp only[ne]; rw[if_pos h4,h5]
 ·rw[h2,h1]; simp only[ne]; rw[if_neg (by omega)]
theorem zO (s c:List UInt8) (hl:s.length≤1500) (hc:c.length=1):pT cU dF s c :=
 mn sg yz.nz zN (fun x hx hb=>by
  have h0:chk x=0:=hx.2.2.2
  rw[benc (pQ hx (by omega)),if_pos h0]) s c hl hc
theorem zR (s c:List UInt8) (hl:s.length≤1500) (hc:c.length=1):pT dI ey s c:=by
 have h0:=pS s (by omega)
 unfold vH at h0
 rw[yS] at h0
 cases hp:tH s 0 with
 | error e =>
  rw[hp] at h0
  exact .inl ⟨zF,e,B_frm.nz s 0 e (by omega) (Da _) hp,h0⟩
 | ok x =>
  rw[hp] at h0
  obtain⟨k1,k2,k3,k4,k5⟩:=wP (f:=x.1) (r':=x.2) (by omega) (Da _) hp
  simp only[ne] at h0
  by_cases hlt:x.2<s.length
  ·rw[if_pos hlt] at h0
   exact .inl ⟨zF,2,by decide,h0⟩
  ·rw[if_neg hlt] at h0
   have he:x.2=s.length:=by omega
   rw[he,List.take_length,List.take_zero,CW] at k4
   have hb:=yO (s:=s++c) (t:=c) (Da _) k5 (by rw[List.drop_zero,← k4])
   rw[Nat.zero_add,← k4] at hb
   have h1:=pS (s++c) (by rw[CO]; omega)
   unfold vH at h1
   rw[hb,yS] at h1
   simp only[ne] at h1
   rw[if_pos (by rw[CO]; omega)] at h1
   have hin:(gC x.1).length≤2000:=by
    have:=congrArg List.length k4
    rw[lP,CO] at this
    omega
   have hEn:=uO k5 (smF_of k5 hin) (by omega)
   rw[← k4] at hEn
   exact .inr ⟨x.1,zF,h0,hEn,h1⟩
theorem yT {v:Val} (h:okV v) {c:List UInt8} (hc:c.length=1):kf (mX v++c) 0= .error 2:=by
 obtain⟨h1,h2,h3,h4,h5,h6,h7⟩:=h
 have I2:=bB 2 (by decide) (by decide)
 have I8:=bB 8 (by decide) (by decide)
 have hlen:(mX v++c).length=38+(aV jm v.BZ).length:=by
  simp only[mX,CO,al]
  omega
 have hd:(mX v++c).drop 0=mX v++c:=rfl
 generalize hE:mX v++c=E at hd hlen ⊢
 have hh:E.drop 0=be 0 2++(be v.BX 8++(be v.B5 2++(be v.B8 4++(be v.CA 1++((be (v.BZ.length:Int) 4++aV jm v.BZ)++(be v.CK 8++(be v.CH 8++c))))))):=by
  rw[hd,← hE]
  simp only[mX,CV]
 have g0:=I2.back _ _ _ 0 (Da _) (eQ (.inl rfl) (by decide) (by decide)) hh
 have hh:=aY hh
 rw[al] at hh g0
 have g1:=I8.back _ _ _ _ (by omega) h1 hh
 have hh:=aY hh
 rw[al] at hh g1
 have g2:=I2.back _ _ _ _ (by omega) h2 hh
 have hh:=aY hh
 rw[al] at hh g2
 have g3:=(bB 4 (by decide) (by decide)).back _ _ _ _ (by omega) h3 hh
 have hh:=aY hh
 rw[al] at hh g3
 have g4:=(bB 1 (by decide) (by decide)).back _ _ _ _ (by omega) h4 hh
 have hh:=aY hh
 rw[al] at hh g4
 have g5:=iE.back _ _ _ _ (by omega) h5 hh
 have hh:=aY hh
 rw[CO,al] at hh g5
 have g6:=I8.back _ _ _ _ (by omega) h6 hh
 have hh:=aY hh
 rw[al] at hh g6
 have g7:=I8.back _ _ _ _ (by omega) h7 hh
 rw[al] at g7
 rw[kf,Pr.bind_of g0,if_pos rfl,Pr.bind_of g1,Pr.bind_of g2,Pr.bind_of g3,Pr.bind_of g4,Pr.bind_of g5,Pr.bind_of g6,Pr.bind_of g7]
 rw[Pr.bind_err (e:=2) (by unfold qk; rw[if_neg (by omega)])]
theorem zS (s c:List UInt8) (hl:s.length≤1500) (hc:c.length=1):pT dm ek s c:=by
 have h0:=ph s (by omega)
 by_cases he:(decV s).2=0
 ·obtain⟨k1,k2,k3,k4⟩:=wm he (by omega)
  have hD:dm s=some ((decV s).1,0):=by rw[h0,← he]
  have hE:=wl (decV s).1 (xJ k2 (by omega)) k4
  rw[if_pos k3,← k1] at hE
  have h1:=ph (s++c) (by rw[CO]; omega)
  have hm:decV (s++c)=(zVal,2):=by
   have:=yT k2 hc
   rw[← k1] at this
   unfold decV
   rw[this]
  rw[hm] at h1
  exact .inr ⟨_,_,hD,hE,h1⟩
 ·exact .inl ⟨(decV s).1,(decV s).2,he,h0⟩
def pK:Pr (List UInt8):=(cM 2).bind fun z=>if z=0 then nW.bind fun d=>if d = [] then .err 4 else .ret d else .err 7
theorem Sp_pK:Sp pK uP (fun d=>dc d=true):=by
 have I2:=bB 2 (by decide) (by decide)
 refine⟨fun s q d r hq h=> ?_,fun s t q d hq hk hd=> ?_⟩
 ·obtain⟨z,m,h1,h2⟩:=Pr.bind_ok h
  obtain⟨a1,a2,a3,a4,a5⟩:=I2.spell s q z m hq h1
  by_cases hz:z=0
  ·rw[if_pos hz] at h2
   obtain⟨d',r',h3,h4⟩:=Pr.bind_ok h2
   obtain⟨b1,b2,b3,b4,b5⟩:=gX.spell s m d' r' a2 h3
   by_cases hd:d' = []
   ·rw[if_pos hd] at h4; exact nomatch h4
   ·rw[if_neg hd] at h4
    injection h4 with h4
    obtain⟨rfl,rfl⟩:=C6 h4
    subst hz
    have hl:=(C6 (rfl:(d',r')=(d',r'))).1
    have hf:=b5.1
    rw[me] at hf
    have hf:=of_decide_eq_true hf
    refine⟨by omega,b2,?_,?_,?_⟩
    ·rw[uP,CO,b3,a3]; omega
    ·rw[b4,a4,uP,CV]
    ·unfold dc
     cases d' with
     | nil=>exact absurd rfl hd
     | cons x l=>simp only[List.isEmpty_cons,Bool.not_false,Bool.true_and]; exact CP hf.2
  ·rw[if_neg hz] at h2; exact nomatch h2
 ·obtain⟨k1,k2,k3⟩:=vI hk
  have hd':s.drop q=be 0 2++((be (d.length:Int) 2++d)++t):=by rw[hd,uP,CV]
  have g0:=I2.back s _ q 0 hq (by decide) hd'
  have hh:=aY hd'
  have hl:=congrArg List.length hd'
  rw[C1,CO,CO,al] at hl
  have g1:=gX.back s t _ d (by rw[al]; omega) ⟨k1,rfl⟩ hh
  rw[pK,Pr.bind_of g0,if_pos rfl,Pr.bind_of g1,if_neg k3]
  exact congrArg (fun m=>Except.ok (d,m)) (by simp only[uP,CO]; omega)
theorem NZ_pK:NZ pK:=by
 refine Q2.cb.nz.bind (bB 2 (by decide) (by decide)) (fun z=> ?_)
 by_cases hz:z=0
 ·rw[if_pos hz]
  refine QT.cb.nz.bind gX (fun d=> ?_)
  by_cases hd:d = []
  ·rw[if_pos hd]; exact NZ.err (by decide)
  ·rw[if_neg hd]; exact NZ.ret _
 ·rw[if_neg hz]; exact NZ.err (by decide)
theorem zT {st:I} (h:st.err≠0):ie st=([],st):=by
 have:=QT.dead st h
 rw[oN] at this
 exact CN this
theorem kdB_d {st:I} (h:st.err≠0):kdB ([],st)=st:=by
 unfold kdB bt
 simp only
 rw[if_pos trivial,if_neg h,pP h]
theorem yU {s:List UInt8} {st:I} (ha:kdA s=st) (h:st.err≠0):jU s=([],st.err):=by
 unfold jU
 rw[ha,zT h,kdB_d h,if_pos h]
theorem zU (s:List UInt8):jU s=ne [] s (pK s 0):=by
 have h0:=Q2.run s 0 (Da _)
 rw[List.drop_zero] at h0
 rcases h0 with⟨e,st,p1,g1,x1,y1⟩ | ⟨n,q,p1,g1,n1,l1⟩
 ·have g1:bW ⟨s,0,0⟩ 2=some (0,st):=g1
  rw[fA] at g1
  have g1:=CN g1
  have ha:kdA s=st:=by
   unfold kdA
   rw[(C6 g1).1,(C6 g1).2,if_pos rfl]
  rw[yU ha y1,pK,Pr.bind_err p1,x1]
  rfl
 ·have g1:bW ⟨s,0,0⟩ 2=some (n,⟨s.drop q,q,0⟩):=g1
  rw[fA] at g1
  have g1:=CN g1
  by_cases hn:n=0
  ·have ha:kdA s=⟨s.drop q,q,0⟩:=by
    unfold kdA
    rw[(C6 g1).1,(C6 g1).2,if_pos hn]
   rw[pK,Pr.bind_of p1,if_pos hn]
   rcases QT.run s q l1 with⟨e,st,p2,g2,x2,y2⟩ | ⟨d,r,p2,g2,n2,l2⟩
   ·rw[oN] at g2
    have g2:ie ⟨s.drop q,q,0⟩=([],st):=CN g2
    unfold jU
    rw[ha,g2,kdB_d y2,if_pos y2,Pr.bind_err p2,x2]
    rfl
   ·rw[oN] at g2
    have g2:ie ⟨s.drop q,q,0⟩=(d,⟨s.drop r,r,0⟩):=CN g2
    unfold jU
    rw[ha,g2,Pr.bind_of p2]
    unfold kdB
    simp only
    by_cases hd:d = []
    ·rw[if_pos hd,if_pos hd]
     have e4:bt ⟨s.drop r,r,0⟩ 4=⟨s.drop r,r,4⟩:=rfl
     rw[e4,pP (by simp),if_pos (by simp)]
     rfl
    ·rw[if_neg hd,if_neg hd,sk s r l2]
     simp only[Pr.ret,ne]
     by_cases hr:r<s.length
     ·rw[if_pos hr,if_pos hr]
      rfl
     ·rw[if_neg hr,if_neg hr]
      rfl
  ·have ha:kdA s=⟨s.drop q,q,7⟩:=by
    unfold kdA
    rw[(C6 g1).1,(C6 g1).2,if_neg hn]
    rfl
   rw[yU ha (by simp),pK,Pr.bind_of p1,if_neg hn]
   rfl
theorem zV (s c:List UInt8) (hl:s.length≤1500) (hc:c.length=1):pT jB kw s c :=
 mn Sp_pK NZ_pK (fun s hs=>by rw[sJ s (by omega),zU s]) (fun x hx hb=>by rw[sI,wQ hx]) s c hl hc
theorem zW:cJ []=some (qm,1):=by
 rw[vJ [] (by decide)]
 rfl
theorem seqU {o:Option Unit} {R b:Option Bool} (h1:o=some ()) (h2:R=b):(o.bind fun _=>R)=b:=by rw[h1]; exact h2
theorem pure_WholeStrict (a0:List UInt8) (a1:Int) (w0:a0.length≤140737488351232) (w1:0≤a1∧a1≤255):fg a0 a1=some true:=by
 unfold fg
 rw[zW,CM]
 dsimp only
 rw[if_pos rfl]
 by_cases h:(a0.length:Int)>1500
 ·rw[if_pos h]
 have hc:(gH [a1]).length=1:=by simp[gH]
 generalize gH [a1]=c at hc
 have hl:a0.length≤1500:=by omega
 rw[if_neg h,if_pos (by omega)]
 have r1:=zM a0 c hl hc
 have r2:=zO a0 c hl hc
 have r3:=zV a0 c hl hc
 have r4:=zS a0 c hl hc
 have r5:=zR a0 c hl hc
 have step: ∀ {α:Type} {D:List UInt8→Option (α×Int)} {E:α→Option (List UInt8×Int)} {R:Option Bool},pT D E a0 c→ ∃ x e,D a0=some (x,e)∧((e≠0)∨(e=0∧E x=some (a0,0)∧ ∃ y,D (a0++c)=some (y,2))):=fun {α D E R} h=>by
  rcases h with⟨x,e,h1,h2⟩ | ⟨x,y,h1,h2,h3⟩
  ·exact⟨x,e,h2,.inl h1⟩
  ·exact⟨x,0,h1,.inr ⟨rfl,h2,y,h3⟩⟩
 obtain⟨x1,e1,d1,k1⟩:=step (R:=none) r1
 obtain⟨x2,e2,d2,k2⟩:=step (R:=none) r2
 obtain⟨x3,e3,d3,k3⟩:=step (R:=none) r3
 obtain⟨x4,e4,d4,k4⟩:=step (R:=none) r4
 obtain⟨x5,e5,d5,k5⟩:=step (R:=none) r5
 clear r1 r2 r3 r4 r5 step
 rw[d1,d2,d3,d4,d5]
 simp only[CM]
 refine seqU ?_ (seqU ?_ (seqU ?_ (seqU ?_ (seqU ?_ rfl))))
 ·rcases k1 with k1 | ⟨rfl,k1,y1,l1⟩
  ·rw[if_neg k1]
  ·rw[if_pos rfl,k1,l1]; simp
 ·rcases k2 with k2 | ⟨rfl,k2,y2,l2⟩
  ·rw[if_neg k2]
  ·rw[if_pos rfl,k2,l2]; simp
 ·rcases k3 with k3 | ⟨rfl,k3,y3,l3⟩
  ·rw[if_neg k3]
  ·rw[if_pos rfl,k3,l3]; simp
 ·rcases k4 with k4 | ⟨rfl,k4,y4,l4⟩
  ·rw[if_neg k4]
  ·rw[if_pos rfl,k4,l4]; simp
 ·rcases k5 with k5 | ⟨rfl,k5,y5,l5⟩
  ·rw[if_neg k5]
  ·rw[if_pos rfl,k5,l5]; simp
end Go.Proofs.YtheikonlgjdopaaGreat.Sl
namespace Go.Proofs.YtheikonlgjdopaaGreat.wholeStrict
open Go.ChangeShapes Go.WideShapes Go.ChangeAt Go.RowKit
open Go.ChangeMaps (open_string shut_string)
set_option linter.unusedVariables false
theorem own:ownKnob Tryz.prog.godebug=none:=by kernel_rfl
theorem lifted (os:Os) (started:os.Started) (H:Type) (enc:TypeId×Value→H) :
 ReturnsInHanded {} Tryz.checked os 9 .any (Rows.wholeStrictSpec.pre6 enc Tryz.prog Tryz.f9 Rows.wholeStrictRow.domain false) (Rows.wholeStrictSpec.post enc Tryz.prog Tryz.f9 false true false false):=by
 refine returnsInHanded_of_change_sized (C:=Tryz.checked) own started (by kernel_rfl) Tryz.func9
  (ChangeSpec.witness6 (enc:=enc) (C:=Tryz.checked) false ⟨#[],#[.string ByteArray.empty,.int .u8 0],[]⟩ 8 (by kernel_rfl) (by kernel_rfl) (by kernel_rfl) (by kernel_rfl)) ?_
 intro W base args ds gs before hval0 hW hcnd hsz0 _
 have hsz:(DataW.weightsEach Tryz.prog (Tryz.f9.params.toList++Rows.wholeStrictSpec.plain.varTypes Tryz.prog) (ds++gs)).all (· ≤ reachBytes)=true:=hsz0
 have hval: ∀ (j:Nat) t v,Tryz.f9.params[j]? = some t→args[j]? = some v→Value.okWide Tryz.prog W .any base t v:=hval0
 have hW':=hW
 obtain⟨p,q,hA0,hV,rfl,hfz,hnd⟩:=hW
 have hA:DataW.TrodAll enc Tryz.prog W 0 (fun _=>true) true Tryz.f9.params.toList args.toList ds p:=hA0
 rw[Tryz.params9] at hA hval hsz
 obtain⟨v0,vs0,d0,ds0,p0,q0,hargs,rfl,rfl,h0,r0⟩:=trodAll_cons hA
 obtain⟨v1,vs1,d1,ds1,p1,q1,rfl,rfl,rfl,h1,r1⟩:=trodAll_cons r0
 obtain⟨rfl,rfl,rfl⟩:=trodAll_nil r1
 obtain rfl:args= #[v0,v1]:=by cases args; simp_all
 obtain⟨rfl,rfl⟩:=trodVars_none hV
 obtain⟨s0,rfl,rfl,rfl,y0⟩:=open_string Tryz.underlying9 (hval 0 9 v0 rfl rfl) h0
 have z0:s0.size≤140737488351232:=by
  have z:=sized_string hsz (j:=0) (t:=9) rfl rfl
  rw[Array.length_toList] at z
  exact z
 obtain⟨a0,rfl⟩:=Sl.bsOf_of s0
 have w0:a0.length≤140737488351232:=by rwa [Sl.bsOf_size] at z0
 obtain⟨a1,rfl,rfl,rfl,u1⟩:=open_int Tryz.underlying5 (hval 1 5 v1 rfl rfl) h1
 have w1:=Go.bounds_u8 u1
 clear hA0 hval0 hsz0 hsz
 refine (Sl.f_top_WholeStrict_spec a0 a1 true (Sl.pure_WholeStrict a0 a1 w0 w1) (fun _=>False) W (fun _ h=>h) (Sl.RX.reads_triv _ _)).mono fun e W' hP=> ?_
 obtain⟨v,A',Ns,rfl,⟨rfl,rfl,rfl⟩,hst⟩:=hP
 have bel:=Sl.St.below hst
 exact⟨_,rfl,_,_,_,[],_,[],hW',trodAll_mk1 (shut_bool Tryz.underlying4 _),(trodAll_cons_mk (shut_string Tryz.underlying9 y0) (trodAll_cons_mk (shut_int Tryz.underlying5 u1) trodAll_mk0)),rfl,bel.frame _,fun h=>by cases h⟩
theorem over:Rows.wholeStrictRow.holds Tryz.pinned (OpenSpec.ofChange Rows.wholeStrictSpec) :=
 OpenClaim.holds_of_wide 9 Tryz.f9 rfl rfl rfl rfl rfl rfl rfl ⟨rfl,rfl,rfl,rfl,rfl⟩ rfl rfl rfl rfl rfl (by kernel_rfl) Tryz.func9 (by kernel_rfl)
  (of_decide_eq_true (by kernel_rfl)) (by unfold Func.isWrapper; first | (rw[if_pos (by decide +kernel)]; kernel_rfl) | (rw[if_neg (by decide +kernel)]; exact⟨rfl,rfl⟩))
  (fun os started H enc _=>lifted os started H enc)
theorem proved:Rows.WholeStrictSaid:=over
end Go.Proofs.YtheikonlgjdopaaGreat.wholeStrict
namespace Go.Proofs.YtheikonlgjdopaaGreat
theorem wholeStrict_holds:Rows.WholeStrictSaid:=wholeStrict.proved
end Go.Proofs.YtheikonlgjdopaaGreat
