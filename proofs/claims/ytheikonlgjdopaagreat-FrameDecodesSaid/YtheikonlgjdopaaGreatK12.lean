/- frameDecodes_holds: part 12. -/
import Derived.Test.YtheikonlgjdopaaGreatK11
set_option maxRecDepth 100000
set_option maxHeartbeats 4000000
set_option linter.defProp false
namespace Go.Proofs.YtheikonlgjdopaaGreat.Sl
open Go.RowKit
set_option linter.unusedVariables false
set_option linter.unusedSimpArgs false
def pHd:Pr Hd:=mf.bind fun k=>iA.bind fun v=> .ret ⟨k,v⟩
def hM (h:Hd):AI:=(du (bE (h.MX.length:Int))++h.MX)++(du (bE (fd h.MM))++h.MM.data)
def okHd (h:Hd):Prop:=bE (h.MX.length:Int)<2 ^ (32:Int).toNat/\bE (fd h.MM)<2 ^ (32:Int).toNat/\bw h.MM=true
theorem Sp_hd:Sp pHd hM okHd:=by
 refine⟨fun s q a r hq h=> ?_,fun s t q a hq ha h=> ?_⟩
 ·obtain⟨k,j,b,h⟩:=Pr.bind_ok h;obtain⟨v,l,c,h⟩:=Pr.bind_ok h;injection h with h;obtain⟨rfl,rfl⟩:=NU h;obtain⟨a1,a2,a3,a4,a5⟩:=n7.spell _ _ _ _ hq b;obtain⟨m,d,n,e,f⟩:=g7.spell _ _ _ _ a2 c;exact⟨by omega,d,by simp only[hM,Nr] at *; omega,by rw[e,a4]; simp only[hM,Ny],a5.1,f⟩
 ·obtain⟨a1,a2,a3⟩:=ha;have hl:=congrArg List.length h;rw[hM,Ny] at h;have g:=n7.back _ _ _ _ hq ⟨a1,rfl⟩ h;have h:=cM h;have i:=g7.back _ _ _ _ (by simp only[hM,Nx,Nr] at *; omega) ⟨a2,a3⟩ h;rw[pHd,Pr.bind_of g,Pr.bind_of i];simp only[Pr.ret,hM,Nr,Nat.add_assoc]
theorem Iq (h:Hd) (ho:okHd h):2<=(hM h).length:=by
 have a:=mT (bE (h.MX.length:Int));have b:=mT (bE (fd h.MM));simp only[hM,Nr];omega
def tF:Pr (List Hd):=xU 2 pHd
theorem DO:Sp tF (fun l=>du (bE (l.length:Int))++bJ hM l) (fun l=>bE (l.length:Int)<2 ^ (32:Int).toNat/\ ∀ h,h∈l->okHd h):=J9 2 Sp_hd Iq
theorem Sh_hd:Sh pHd:=JS.bind n7 fun k=>zk.bind g7 fun v=> .ret _
theorem Sh_hds:Sh tF:=Ka 2 Sh_hd Sp_hd
theorem ES (n:Int) (s:AI) (hs:s.length<=1000000) (hn:n<=1000000): ∀ (m fuel k:Nat) (acc:List Hd) (q:Nat),((k+m:Nat):Int)=n->m<fuel->q<=s.length->acc.length=k ->
 (∃ (e:Int) (st:I),dG pHd m s q= .error e/\dF n fuel [] acc k ⟨s.drop q,q,0⟩=some (.ret ([],st))/\st.err=e/\st.err≠0) \/
 (∃ l r,dG pHd m s q= .ok (l,r)/\dF n fuel [] acc k ⟨s.drop q,q,0⟩=some (.go ([],acc++l,k+m,⟨s.drop r,r,0⟩))/\q<=r/\r<=s.length)
 | 0,fuel+1,k,acc,q,o,p,b,h=> .inr ⟨[],q,rfl,by rw[dF,QY QR,NQ]; rfl,N3 _,b⟩
 | m+1,fuel+1,k,acc,q,o,p,b,h=>by
  rw[dF,QX QR];rcases QN.run s q b with⟨e,st,a,c,t,d⟩ | ⟨nm,u,a,c,z,w⟩
  ·left;refine⟨e,st,by rw[dG,Pr.bind_err (show pHd s q= .error e from Pr.bind_err a)],?_,t,d⟩;rw[c,Nm];simp only;rw[lM d,Nm];simp only;rw[QX QR,bt,Nm];simp only;rw[QY d]
  rw[c,Nm];simp only;rcases QV.run s u w with⟨e,st,f,g,x,i⟩ | ⟨v,j,f,g,A,y⟩
  ·left;have ht:pHd s q= .error e:=by rw[pHd,Pr.bind_of a,Pr.bind_err f]
   refine⟨e,st,by rw[dG,Pr.bind_err ht],?_,x,i⟩;rw[g,Nm];simp only;rw[QX QR,bt,Nm];simp only;rw[QY i]
  rw[g,Nm];simp only;rw[QX QR,bt,Nm];simp only[if_true];rw[QX QR];have ht:pHd s q= .ok (⟨nm,v⟩,j):=by rw[pHd,Pr.bind_of a,Pr.bind_of f]; rfl
  rw[dG,Pr.bind_of ht];rcases ES n s hs hn m fuel (k+1) (acc ++ [(⟨nm,v⟩:Hd)]) j QR QR y (by rw[Nr,h]; rfl) with⟨e,st,r1,r2,r3,r4⟩ | ⟨l,r,r1,r2,r3,r4⟩
  ·exact .inl ⟨e,st,by rw[Pr.bind_err r1],r2,r3,r4⟩
  ·refine .inr ⟨⟨nm,v⟩::l,r,by rw[Pr.bind_of r1]; rfl,?_,by omega,r4⟩;rw[r2,Ny,show k+1+m=k+(m+1) by omega];rfl
theorem B_hds:CB cf tF []:=by
 refine⟨fun st h=> ?_,fun s q hs hq=> ?_⟩
 ·unfold cf;rw[ww h,Nm];simp only;rw[bt,Nm];simp only;rw[QY h]
 ·unfold cf;rcases DM.run s q hq with⟨e,st,b,d,g,f⟩ | ⟨c,a,b,d,j,i⟩
  ·refine .inl ⟨e,st,Pr.bind_err (Pr.bind_err b),?_,g,f⟩;rw[d,Nm];simp only;rw[bt,Nm];simp only;rw[QY f]
  ·rw[d,Nm];simp only;rw[bt,Nm];simp only[if_true];have hd:(s.drop a).length=s.length - a:=Nx;have hE:tF s q=((j4 2 c).bind fun n=>dG pHd n.toNat) s a:=by
    unfold tF xU oa Pr.bind;rw[b]
   rw[hE];unfold Pr.bind j4;by_cases hn:c<0
   ·rw[QX hn,QX hn];exact .inl ⟨4,_,rfl,rfl,rfl,by simp[dC]⟩
   rw[QY hn,QY hn,sV,Nm];simp only;rw[hd,QX (show 0<=((s.length - a:Nat):Int)/\((s.length - a:Nat):Int)<=9223372036854775807 by omega)];by_cases hc:0<2/\((s.length - a:Nat):Int) / ((2:Nat):Int)<c
   ·have hc2:c>((s.length - a:Nat):Int) / 2:=hc.2;rw[QX hc,QX hc2];exact .inl ⟨1,_,rfl,rfl,rfl,by simp[dC]⟩
   ·have hc2: ¬ c>((s.length - a:Nat):Int) / 2:=fun h=>hc ⟨by decide,h⟩;rw[QY hc,QY hc2];simp only;rcases ES c s hs QR c.toNat (c.toNat+1) 0 [] a QR QR i rfl with⟨e,st,r1,r2,r3,r4⟩ | ⟨l,r,r1,r2,r3,r4⟩
    ·exact .inl ⟨e,st,r1,by rw[r2]; rfl,r3,r4⟩
    ·refine .inr ⟨l,r,r1,?_,by omega,r4⟩;rw[r2,NG];rfl
theorem DP (s:AI) (q:Nat) (bs:Int) (hb:bs=32\/bs=64) (hq:q<=s.length) (hs:s.length<=1000000) :
 (∃ e,j3 bs s q= .error e/\e≠0/\vp (s.drop q) bs=some (0,0,e))\/(∃ (n r:Nat),j3 bs s q= .ok (n,r)/\q<=r/\r<=s.length/\n<2 ^ bs.toNat/\vp (s.drop q) bs=some ((n:Int),((r - q:Nat):Int),0)):=by
 rw[GV _ _ ⟨hb,by rw[Nx]; omega⟩];unfold j9;by_cases he:(vgo bs (s.drop q) 0 0 0).2.err=0
 ·have hp:j3 bs s q= .ok ((vgo bs (s.drop q) 0 0 0).1,q+(vgo bs (s.drop q) 0 0 0).2.pos):=by unfold j3; rw[QX he]
  have hs:=(ws bs hb).spell _ _ _ _ hq hp;rw[QX he];exact .inr ⟨_,_,hp,hs.1,hs.2.1,hs.2.2.2.2,by simp only; rw[show q+(vgo bs (s.drop q) 0 0 0).2.pos - q=(vgo bs (s.drop q) 0 0 0).2.pos by omega]⟩
 ·have hp:j3 bs s q= .error (vgo bs (s.drop q) 0 0 0).2.err:=by unfold j3; rw[QY he]
  rw[QY he];exact .inl ⟨_,hp,he,rfl⟩
theorem zI (n:Int) (s:AI) (hs:s.length<=1000000): ∀ (m fuel k:Nat) (acc:List Hd) (q:Nat),((k+m:Nat):Int)=n->m<fuel->n<=1000000->q<=s.length->acc.length=k ->
 fD s n fuel [] 0 0 (q:Int) acc k=some (match dG pHd m s q with | .error e=> .ret ([],0,e) | .ok (l,r)=> .go ([],0,0,(r:Int),acc++l,k+m))
 | 0,fuel+1,k,acc,q,u,w,hn,j,o=>by
  rw[fD,QY QR];simp[dG,Pr.ret]
 | m+1,fuel+1,k,acc,q,u,w,hn,j,o=>by
  rw[fD,QX QR,QX QR,NR,kG _ (by rw[Nx]; omega),Nm];rcases pa s q j with⟨e,f,p,g⟩ | ⟨b,c,f,p,g,y⟩
  ·have ht:pHd s q= .error e:=by rw[pHd,Pr.bind_err]; rw[mf,fZ,Pr.bind_err f]
   rw[g,dG,Pr.bind_err ht];simp only;rw[QY p]
  rw[y];simp only[if_true];by_cases hb:b.null=true
  ·have ht:pHd s q= .error 4:=by
    rw[pHd,Pr.bind_err];rw[mf,fZ,Pr.bind_of f,QX hb];rfl
   rw[QX hb,dG,Pr.bind_err ht]
  have hx:mf s q= .ok (b.data,c):=by
   rw[mf,fZ,Pr.bind_of f,QY hb];rfl
  rw[QY hb,QX QR,QX QR,show ((q:Int)+((c - q:Nat):Int))=(c:Int) by omega,NR,kG _ (by rw[Nx]; omega),Nm];rcases pa s c g with⟨e,h,t,i⟩ | ⟨v,d,h,t,i,z⟩
  ·have ht:pHd s q= .error e:=by rw[pHd,Pr.bind_of hx,Pr.bind_err h]
   rw[i,dG,Pr.bind_err ht];simp only;rw[QY t]
  rw[z];simp only[if_true];have ht:pHd s q= .ok (⟨b.data,v⟩,d):=by rw[pHd,Pr.bind_of hx,Pr.bind_of h]; rfl
  rw[QX QR,QX QR,QX QR,QX QR,show ((c:Int)+((d - c:Nat):Int))=(d:Int) by omega,dG,Pr.bind_of ht,zI n s hs m fuel (k+1) (acc ++ [(⟨b.data,v⟩:Hd)]) d QR QR hn i (by rw[Nr,o]; rfl)]
  cases hr:dG pHd m s d with
  | error e=>rw[Pr.bind_err hr]
  | ok x =>
   rw[Pr.bind_of (a:=x.1) (r:=x.2) hr];simp only[Pr.ret,Ny,List.cons_append,NG,show k+1+m=k+(m+1) by omega]
theorem Ir (s:AI) (hs:s.length<=1000000):nb s=some (match tF s 0 with | .error e=>([],0,e) | .ok (l,r)=>(l,(r:Int),0)):=by
 unfold nb;have hg:=DP s 0 32 (.inl rfl) (NH _) hs;rw[List.drop_zero] at hg;rcases hg with⟨e,a,d,b⟩ | ⟨n,r,a,f,r1,r2,b⟩
 ·rw[b,show tF s 0= .error e from Pr.bind_err (Pr.bind_err (Pr.bind_err a)),Nm];simp only;rw[QY d]
 ·have hv:jx 32 s 0= .ok (eS n,r):=by rw[jx,Pr.bind_of a]; rfl
  have hE:tF s 0=((j4 2 (eS n)).bind fun n=>dG pHd n.toNat) s r:=by
   unfold tF xU oa Pr.bind;rw[hv]
  rw[show 2 ^ (32:Int).toNat=4294967296 by decide] at r2;rw[b,Nm];simp only[if_true];rw[tZ _ QR,Nm,NR,hE];generalize eS n=c;unfold Pr.bind j4;by_cases hn:c<0
  ·rw[QX hn,QX hn]
  rw[QY hn,QY hn,QX (show (A0 ((s.length:Int) - ((r - 0:Nat):Int))) by omega),QX (show 0<=(s.length:Int) - ((r - 0:Nat):Int)/\(s.length:Int) - ((r - 0:Nat):Int)<=9223372036854775807 by omega),show (s.length:Int) - ((r - 0:Nat):Int)=((s.length - r:Nat):Int) by omega];by_cases hc:0<2/\((s.length - r:Nat):Int) / ((2:Nat):Int)<c
  ·have hc2:c>((s.length - r:Nat):Int) / 2:=hc.2;rw[QX hc,QX hc2]
  ·have hc2: ¬ c>((s.length - r:Nat):Int) / 2:=fun h=>hc ⟨by decide,h⟩;rw[QY hc,QY hc2];simp only;have hl:=zI c s hs c.toNat (c.toNat+1) 0 [] r QR QR QR r1 rfl;rw[show ((r - 0:Nat):Int)=(r:Int) by omega,hl]
   cases hr:dG pHd c.toNat s r with
   | error e=>rfl
   | ok x=>rfl
def hwt (h:Hd):Nat:=20+h.MX.length+h.MM.data.length
def ol:List Hd->Nat
 | []=>0
 | h::l=>hwt h+ol l
theorem lf (n:Int) (h: -1<=n) (a:n<=2147483647):(du (bE n)).length<=10:=mU _ (kB n QR QR)
theorem nC (n:Int) (h: -1<=n) (a:n<=2147483647):bE n<2 ^ (32:Int).toNat:=by
 rw[show 2 ^ (32:Int).toNat=4294967296 by decide];exact CX n ⟨by omega,a⟩
theorem nD (b:Bl) (h:b.data.length<=2147483647): -1<=fd b/\fd b<=2147483647:=by unfold fd; split <;> omega
theorem zJ (h:Hd) (hk:h.MX.length<=1000000) (hv:h.MM.data.length<=1000000):(hM h).length<=hwt h:=by
 have a:=lf (h.MX.length:Int) QR QR;have hb:=nD h.MM QR;have b:=lf (fd h.MM) hb.1 hb.2;simp only[hM,Nr,hwt];omega
theorem xV: ∀ l:List Hd,ol l<=1000000->(bJ hM l).length<=ol l
 | [],h=>N3 _
 | x::l,h=>by
  have a:hwt x<=ol (x::l):=by rw[ol]; omega
  have b:=xV l (by rw[ol] at h; omega);have c:=zJ x (by unfold hwt at a; omega) (by unfold hwt at a; omega);rw[bJ,Nr,ol];omega
theorem xW {t d:AI} (hf:d.length<=1000000) (ht:t.length<=1000000000):oF (t,0) d=some (t++(du (bE (d.length:Int))++d),0):=by
 have:=mN (t:=t) (b:=⟨false,d⟩) rfl (by simp only; omega) (by simp only; omega);rw[BE _ _ (by simp only; omega)];rw[rQ _ _ (by simp only; omega)] at this;exact this
theorem hw_l1: ∀ (l:List Hd) (t:AI),(∀ h,h∈l->bw h.MM=true)->t.length+ol l<=1000000->dO l (t,0)=some (t++bJ hM l,0)
 | [],t,h,hl=>by rw[dO,bJ,NQ]
 | x::l,t,h,hl=>by
  have hx:t.length+(hwt x+ol l)<=1000000:=hl;have a:=zJ x (by unfold hwt at hx; omega) (by unfold hwt at hx; omega);have c:(du (bE (x.MX.length:Int))++x.MX).length<=(hM x).length:=by simp only[hM,Nr]; omega
  have e:t++(du (bE (x.MX.length:Int))++x.MX)++(du (bE (fd x.MM))++x.MM.data)=t++hM x:=by simp only[hM,Ny]
  have b:(t++(du (bE (x.MX.length:Int))++x.MX)).length=t.length+(du (bE (x.MX.length:Int))++x.MX).length:=Nr;rw[dO,xW (by unfold hwt at hx; omega) QR,Nm,mN (h x (.head _)) (by unfold hwt at hx; omega) (by rw[b]; unfold hwt at hx a; omega),Nm,e,hw_l1 l _ (fun y hy=>h y (.tail _ hy)) (by rw[Nr]; omega),bJ,Ny]
theorem tG: ∀ l:List Hd,l.length*20<=ol l
 | []=>by simp[ol]
 | h::l=>by have:=tG l; simp only[ol,hwt,NB]; omega
theorem Ci: ∀ (l:List Hd) (h:Hd),h∈l->hwt h<=ol l
 | x::l,h,hm=>by
  rcases List.mem_cons.1 hm with rfl | hm
  ·simp only[ol]; omega
  ·have:=Ci l h hm; simp only[ol]; omega
theorem Is (l:List Hd) (t:AI) (h: ∀ x,x∈l->bw x.MM=true) (ht:t.length+10+ol l<=1000000):jp (t,0) l=some (t++(du (bE (l.length:Int))++bJ hM l),0):=by
 have hn:=tG l;have a:=lf (l.length:Int) QR QR;unfold jp;rw[wP _ _ ⟨by omega,by simp only; omega⟩];unfold jB;rw[QX QR,og,Nm,hw_l1 l _ h (by rw[Nr]; omega),Ny];rfl
theorem ET:CQ mY (jx 64) 0:=(Az 64 (.inr rfl)).cq (j6 64 (.inr rfl))
theorem Cj {st:I} (h:st.err≠0):mY st=some (0,st):=ET.dead st h
theorem jz {st:I} (h:st.err≠0):ew st=some (st.err,st):=by rw[gP,wK h]
def rf:Pr Unit:=fun s q=>if q=s.length then .ok ((),q) else .error 2
def xX:Rec:=⟨0,0,⟨false,[]⟩,⟨false,[]⟩,[]⟩
def r6:Pr Rec:=(bT 1).bind fun z=>if z=0 then (jx 64).bind fun t=>(jx 32).bind fun o=>if o<0 then .err 11 else iA.bind fun k=>iA.bind fun v=>tF.bind fun h=>rf.bind fun _=> .ret ⟨t,o,k,v,h⟩ else .err 8
def xY (z:I):Option (Rec×Int):=(eu z 1).bind fun (A,a)=>if A=0 then ((mY a).bind fun (f,h)=>(pW h).bind fun (b,c)=>if b<0 then ((cm c 11).bind fun i=>(db i).bind fun (B,j)=>(db j).bind fun (C,k)=>(cf k).bind fun (D,l)=>(ew l).bind fun (E,S)=>some ((⟨f,b,B,C,D⟩:Rec),E)) else ((db c).bind fun (F,m)=>(db m).bind fun (G,n)=>(cf n).bind fun (H,o)=>(ew o).bind fun (J,T)=>some ((⟨f,b,F,G,H⟩:Rec),J))) else ((cm a 8).bind fun p=>(mY p).bind fun (g,q)=>(pW q).bind fun (d,e)=>if d<0 then ((cm e 11).bind fun r=>(db r).bind fun (K,s)=>(db s).bind fun (L,t)=>(cf t).bind fun (M,u)=>(ew u).bind fun (N,U)=>some ((⟨g,d,K,L,M⟩:Rec),N)) else ((db e).bind fun (O,v)=>(db v).bind fun (P,w)=>(cf w).bind fun (Q,x)=>(ew x).bind fun (y,R)=>some ((⟨g,d,O,P,Q⟩:Rec),y)))
theorem Ck (s:AI) (hs:s.length<=1000000):(∃ e x,r6 s 0= .error e/\xY ⟨s,0,0⟩=some (x,e)/\e≠0)\/(∃ x,r6 s 0= .ok (x,s.length)/\xY ⟨s,0,0⟩=some (x,0)):=by
 unfold xY r6;have E:=Q1.run s 0 (NH _);rw[List.drop_zero] at E;have hB:=B_hds;rcases E with⟨e,st,f,j,F,c⟩ | ⟨z,l,f,j,W,N⟩
 ·refine .inl ⟨e,⟨0,0,⟨false,[]⟩,⟨false,[]⟩,[]⟩,Pr.bind_err f,?_,by rw[<- F]; exact c⟩;rw[j];simp only[Nm,if_true,Cj c,ww c,lM c,hB.dead _ c,jz c,F,show ¬ (0:Int)<0 by decide,if_false]
 rw[j,Nm];simp only;by_cases hz:z=0
 ·rw[QX hz,Pr.bind_of f,QX hz];rcases ET.run s l N with⟨e,st,m,n,G,d⟩ | ⟨a,O,m,n,X,P⟩
  ·refine .inl ⟨e,⟨0,0,⟨false,[]⟩,⟨false,[]⟩,[]⟩,Pr.bind_err m,?_,by rw[<- G]; exact d⟩;rw[n];simp only[Nm,if_true,ww d,lM d,hB.dead _ d,jz d,G,show ¬ (0:Int)<0 by decide,if_false]
  rw[n,Nm,Pr.bind_of m];simp only;rcases DM.run s O P with⟨e,st,p,q,H,g⟩ | ⟨o,r,p,q,Y,Q⟩
  ·refine .inl ⟨e,⟨a,0,⟨false,[]⟩,⟨false,[]⟩,[]⟩,Pr.bind_err p,?_,by rw[<- H]; exact g⟩;rw[q];simp only[Nm,if_true,lM g,hB.dead _ g,jz g,H,show ¬ (0:Int)<0 by decide,if_false]
  rw[q,Nm,Pr.bind_of p];simp only;by_cases ho:o<0
  ·rw[QX ho,QX ho,dD,Nm,tv];have y:(⟨s.drop r,r,11⟩:I).err≠0:=by simp
   refine .inl ⟨11,⟨a,o,⟨false,[]⟩,⟨false,[]⟩,[]⟩,rfl,?_,by decide⟩;simp only[Nm,lM y,hB.dead _ y,jz y]
  rw[QY ho,QY ho];rcases QV.run s r Q with⟨e,st,t,u,J,i⟩ | ⟨k,R,t,u,n3,S⟩
  ·refine .inl ⟨e,⟨a,o,⟨false,[]⟩,⟨false,[]⟩,[]⟩,Pr.bind_err t,?_,by rw[<- J]; exact i⟩;rw[u];simp only[Nm,lM i,hB.dead _ i,jz i,J]
  rw[u,Nm,Pr.bind_of t];simp only;rcases QV.run s R S with⟨e,st,w,A,K,B⟩ | ⟨v,T,w,A,n4,U⟩
  ·refine .inl ⟨e,⟨a,o,k,⟨false,[]⟩,[]⟩,Pr.bind_err w,?_,by rw[<- K]; exact B⟩;rw[A];simp only[Nm,hB.dead _ B,jz B,K]
  rw[A,Nm,Pr.bind_of w];simp only;rcases hB.run s T hs U with⟨e,st,C,D,L,M⟩ | ⟨h,b,C,D,n5,l5⟩
  ·refine .inl ⟨e,⟨a,o,k,v,[]⟩,Pr.bind_err C,?_,by rw[<- L]; exact M⟩;rw[D];simp only[Nm,jz M,L]
  rw[D,Nm,Pr.bind_of C];simp only;rw[gP,Nm];simp only;by_cases hq:b=s.length
  ·have he:rf s b= .ok ((),b):=by unfold rf; rw[QX hq]
   have hi:(fS ⟨s.drop b,b,0⟩).err=0:=by rw[hq,List.drop_length]; rfl
   rw[Pr.bind_of he,hi];exact .inr ⟨⟨a,o,k,v,h⟩,by rw[hq]; rfl,rfl⟩
  ·have he:rf s b= .error 2:=by unfold rf; rw[QY hq]
   have hi:(fS ⟨s.drop b,b,0⟩).err=2:=by
    unfold fS;rw[QY]
    ·rfl
    ·intro V;have:=List.drop_eq_nil_iff.1 V;omega
   rw[Pr.bind_err he,hi];exact .inl ⟨2,_,rfl,rfl,by decide⟩
 ·rw[QY hz,Pr.bind_of f,QY hz,dD,Nm,tv];have y:(⟨s.drop l,l,8⟩:I).err≠0:=by simp
  refine .inl ⟨8,⟨0,0,⟨false,[]⟩,⟨false,[]⟩,[]⟩,rfl,?_,by decide⟩;simp only[Nm,if_true,Cj y,ww y,lM y,hB.dead _ y,jz y,show ¬ (0:Int)<0 by decide,if_false]
def AS:Pr Rec:=fun s q=>match mf s q with
 | .error e=> .error e
 | .ok (d,r)=>match r6 d 0 with
  | .error e=> .error e
  | .ok (x,_)=> .ok (x,r)
theorem zK (p c:I) (x:Rec) (e:Int) (h:xY p=some (x,e)):((eu p 1).bind fun (U,g)=>if U=0 then ((mY g).bind fun (q,v)=>(pW v).bind fun (i,j)=>if i<0 then ((cm j 11).bind fun w=>(db w).bind fun (V,z)=>(db z).bind fun (W,A)=>(cf A).bind fun (X,B)=>(ew B).bind fun (r,ak)=>if r=0 then (some ((⟨q,i,V,W,X⟩:Rec),c)) else ((cm c r).bind fun C=>some (xX,C))) else ((db j).bind fun (Y,D)=>(db D).bind fun (aa,E)=>(cf E).bind fun (ab,F)=>(ew F).bind fun (s,al)=>if s=0 then (some ((⟨q,i,Y,aa,ab⟩:Rec),c)) else ((cm c s).bind fun G=>some (xX,G)))) else ((cm g 8).bind fun H=>(mY H).bind fun (t,J)=>(pW J).bind fun (k,l)=>if k<0 then ((cm l 11).bind fun K=>(db K).bind fun (ad,L)=>(db L).bind fun (ae,M)=>(cf M).bind fun (af,N)=>(ew N).bind fun (u,am)=>if u=0 then (some ((⟨t,k,ad,ae,af⟩:Rec),c)) else ((cm c u).bind fun O=>some (xX,O))) else ((db l).bind fun (ag,P)=>(db P).bind fun (ah,Q)=>(cf Q).bind fun (ai,R)=>(ew R).bind fun (m,aj)=>if m=0 then (some ((⟨t,k,ag,ah,ai⟩:Rec),c)) else ((cm c m).bind fun n=>some (xX,n)))))=if e=0 then some (x,c) else some (xX,dC c e):=by
 unfold xY at h
 revert h
 have hop: ∀ (o:Option (List Hd×I)) (f:List Hd->Rec),((o.bind fun (a,S)=>(ew S).bind fun (b,s2)=>some (f a,b))=some (x,e))->(o.bind fun (a,S)=>(ew S).bind fun (b,s2)=>if b=0 then some (f a,c) else (cm c b).bind fun s3=>some (xX,s3))=if e=0 then some (x,c) else some (xX,dC c e):=by
  intro o f h
  cases o with
  | none=>exact nomatch h
  | some y =>
   rw[Nm] at h ⊢;simp only[gP,Nm] at h ⊢;injection h with h;obtain⟨rfl,rfl⟩:=NU h;by_cases hz:(fS y.2).err=0
   ·rw[QX hz,QX hz]
   ·rw[QY hz,QY hz];rfl
 simp only[kD,FG,GU,C8,dD,Nm];intro h;split at h
 ·rename_i T;rw[QX T];split at h
  ·rename_i d;rw[QX d];exact hop _ (fun a=>⟨_,_,_,_,a⟩) h
  ·rename_i d;rw[QY d];exact hop _ (fun a=>⟨_,_,_,_,a⟩) h
 ·rename_i T;rw[QY T];split at h
  ·rename_i d;rw[QX d];exact hop _ (fun a=>⟨_,_,_,_,a⟩) h
  ·rename_i d;rw[QY d];exact hop _ (fun a=>⟨_,_,_,_,a⟩) h
theorem B_rec:CB iN AS xX:=by
 refine⟨fun st h=> ?_,fun s q hs hq=> ?_⟩
 ·unfold iN;rw[J8 h,Nm];simp only;rw[bt,Nm];simp only;rw[QY h];rfl
 ·unfold iN AS;rcases QN.run s q hq with⟨e,st,a,b,j,g⟩ | ⟨d,r,a,b,k,l⟩
  ·refine .inl ⟨e,st,by rw[a],?_,j,g⟩;rw[b,Nm];simp only;rw[bt,Nm];simp only;rw[QY g];rfl
  ·have hsp:=n7.spell _ _ _ _ hq a;have hdl:d.length<=1000000:=by
    have:=hsp.2.2.1;rw[Nr] at this;omega
   rw[b,a,Nm];simp only;rw[bt,Nm];simp only[if_true];rw[kC _ QR,Nm];rcases Ck d hdl with⟨e,x,c,f,i⟩ | ⟨x,c,f⟩
   ·have hb:=zK ⟨d,0,0⟩ ⟨s.drop r,r,0⟩ x e f;rw[QY i] at hb;rw[c];exact .inl ⟨e,_,rfl,hb,rfl,i⟩
   ·have hb:=zK ⟨d,0,0⟩ ⟨s.drop r,r,0⟩ x 0 f;rw[QX rfl] at hb;rw[c];exact .inr ⟨x,r,rfl,hb,k,l⟩
def mG (b:Bl):AI:=du (bE (fd b))++b.data
def rg (l:List Hd):AI:=du (bE (l.length:Int))++bJ hM l
def dv (x:Rec):AI:=be 0 1++(du (bE x.M5)++(du (bE x.MS)++(mG x.MX++(mG x.MM++rg x.ML))))
def okBl (b:Bl):Prop:=bE (fd b)<2 ^ (32:Int).toNat/\bw b=true
def okHs (l:List Hd):Prop:=bE (l.length:Int)<2 ^ (32:Int).toNat/\ ∀ h,h∈l->okHd h
def xZ (x:Rec):Prop:=bE x.M5<2 ^ (64:Int).toNat/\(bE x.MS<2 ^ (32:Int).toNat/\0<=x.MS)/\okBl x.MX/\okBl x.MM/\okHs x.ML
theorem DQ {s:AI} {x:Rec} {r:Nat} (h:r6 s 0= .ok (x,r)):s=dv x/\xZ x:=by
 obtain⟨z,F,c,h⟩:=Pr.bind_ok h;split at h
 ·rename_i hz;subst hz;obtain⟨t,G,d,h⟩:=Pr.bind_ok h;obtain⟨o,H,e,h⟩:=Pr.bind_ok h;split at h
  ·exact nomatch h
  ·rename_i ho;obtain⟨k,I,f,h⟩:=Pr.bind_ok h;obtain⟨v,J,g,h⟩:=Pr.bind_ok h;obtain⟨hs,b,i,h⟩:=Pr.bind_ok h;obtain⟨u,K,a,h⟩:=Pr.bind_ok h;injection h with h;obtain⟨rfl,rfl⟩:=NU h;obtain⟨-,a2,-,a4,a5⟩:=(bX 1 QS QS).spell _ _ _ _ (NH _) c;obtain⟨-,j,-,l,m⟩:=(j6 64 (.inr rfl)).spell _ _ _ _ a2 d;obtain⟨-,c2,-,n,p⟩:=(j6 32 (.inl rfl)).spell _ _ _ _ j e;obtain⟨-,q,-,w,y⟩:=g7.spell _ _ _ _ c2 f;obtain⟨-,A,-,B,C⟩:=g7.spell _ _ _ _ q g;obtain⟨-,L,-,D,E⟩:=DO.spell _ _ _ _ A i;have hq:b=s.length:=by
    unfold rf at a;split at a
    ·rename_i hh; exact hh
    ·exact nomatch a
   refine⟨?_,m,⟨p,by simp only; omega⟩,y,C,E⟩;have hs2:s=s.take b:=by rw[hq,List.take_length]
   rw[hs2,D,B,w,n,l,a4];simp only[dv,mG,rg,Ny,List.take_zero,NG]
 ·exact nomatch h
theorem SpV:Sp iA mG okBl:=g7
theorem SpH:Sp tF rg okHs:=DO
theorem Gk {x:Rec} (h:xZ x):r6 (dv x) 0= .ok (x,(dv x).length):=by
 obtain⟨c,⟨d,n⟩,e,f,g⟩:=h;have hd:(dv x).drop 0=dv x:=rfl;have hlen:(dv x).length=1+((du (bE x.M5)).length+((du (bE x.MS)).length+((mG x.MX).length+((mG x.MM).length+(rg x.ML).length)))):=by
  simp only[dv,Nr,aH]
 generalize hE:dv x=E at hd hlen ⊢;have hh:E.drop 0=be 0 1++(du (bE x.M5)++(du (bE x.MS)++(mG x.MX++(mG x.MM++(rg x.ML ++ []))))):=by
  rw[hd,<- hE];simp only[dv,NQ]
 have b:=(bX 1 QS QS).back _ _ _ 0 (NH _) QS hh;have hh:=cM hh;rw[aH] at hh b;have i:=(j6 64 (.inr rfl)).back _ _ _ _ QR c hh;have hh:=cM hh;have j:=(j6 32 (.inl rfl)).back _ _ _ _ QR d hh;have hh:=cM hh;have k:=SpV.back _ _ _ _ QR e hh;have hh:=cM hh;have l:=SpV.back _ _ _ _ QR f hh;have hh:=cM hh;have m:=SpH.back _ _ _ _ QR g hh;rw[r6,Pr.bind_of b,QX rfl,Pr.bind_of i,Pr.bind_of j,QY QR,Pr.bind_of k,Pr.bind_of l,Pr.bind_of m];have he:0+1+(du (bE x.M5)).length+(du (bE x.MS)).length+(mG x.MX).length+(mG x.MM).length+(rg x.ML).length=E.length:=by omega
 rw[he,Pr.bind_of (a:=()) (r:=E.length) (by unfold rf; rw[QX rfl])];rfl
def d8 (x:Rec):AI:=du (bE ((dv x).length:Int))++dv x
theorem AU:Sp AS d8 (fun x=>xZ x/\bE ((dv x).length:Int)<2 ^ (32:Int).toNat):=by
 refine⟨fun s q a r hq h=> ?_,fun s t q a hq ha h=> ?_⟩
 ·unfold AS at h
  cases hp:mf s q with
  | error e=>rw[hp] at h; exact nomatch h
  | ok y =>
   obtain⟨d,r'⟩:=y;rw[hp] at h;simp only at h;obtain⟨a1,a2,a3,a4,a5⟩:=n7.spell _ _ _ _ hq hp
   cases hb:r6 d 0 with
   | error e=>rw[hb] at h; exact nomatch h
   | ok z =>
    rw[hb] at h;injection h with h;obtain⟨rfl,rfl⟩:=NU h;obtain⟨b,c⟩:=DQ (x:=z.1) (r:=z.2) hb;unfold d8;rw[<- b];exact⟨a1,a2,a3,a4,c,a5.1⟩
 ·have f:=n7.back s t q (dv a) hq ⟨ha.2,rfl⟩ h;unfold AS;rw[f];simp only;rw[Gk ha.1];rfl
def gotOf (p:Except Int (Rec×Nat)) (m:Int):mo:=match p with | .error e=>⟨xX,m,e⟩ | .ok (x,_)=>⟨x,m,0⟩
theorem Cl (e:Int):dK e=some ⟨xX,0,e⟩:=rfl
theorem va (s:AI) (q r:Nat) (h:q<=r):(s.drop q).drop ((r - q:Nat):Int).toNat=s.drop r:=by
 rw[NR,Oa];congr 1;omega
theorem Kb {s:AI} {q:Nat} {e:Int} (hs:s.length<=1000000) (hq:q<=s.length) (h:tF s q= .error e):e≠0:=B_hds.nz s q e hs hq h
theorem It (s:AI) (hs:s.length<=1000000):l6 s=some (gotOf (r6 s 0) 0):=by
 unfold l6 r6;simp only[Cl];by_cases j:(s.length:Int)<1
 ·rw[QX j,Pr.bind_err (e:=1) (by unfold bT; rw[QX QR])];rfl
 rw[QY j];obtain⟨c,t,rfl⟩: ∃ c t,s=c::t:=by cases s with | nil=>exact absurd (by simp) j | cons c t=>exact⟨c,t,rfl⟩
 have hc:=c.toNat_lt;have A:bT 1 (c::t) 0= .ok (sgn c,1):=by
  unfold bT;rw[QY (by simp only[NB]; omega)];rfl
 rw[show (c::t)[0]? = some c from rfl,Nm,Pr.bind_of A];by_cases hz:(c.toNat:Int)=0
 ·have i:sgn c=0:=by unfold sgn; split <;> omega
  rw[QX hz,QX i,QX (by simp only[NB]; omega)];generalize hS:c::t=S at hs j ⊢;have hl:1<=S.length:=by omega
  rcases DP S 1 64 (.inr rfl) hl hs with⟨e,n,B,o⟩ | ⟨a,d,n,a0,a1,a2,o⟩
  ·rw[o,Pr.bind_err (show jx 64 S 1= .error e from Pr.bind_err n),Nm];simp only;rw[QY B];rfl
  have v1:jx 64 S 1= .ok (eS a,d):=by rw[jx,Pr.bind_of n]; rfl
  rw[o,Pr.bind_of v1,Nm];simp only[if_true];rw[QX (show (A0 (1+((d - 1:Nat):Int))) by omega),show (1+((d - 1:Nat):Int))=(d:Int) by omega,QX (show 0<=(d:Int)/\((d:Int)).toNat<=S.length by omega),NR];rcases DP S d 32 (.inl rfl) a1 hs with⟨e,p,C,r⟩ | ⟨b,g,p,D,E,F,r⟩
  ·rw[r,Pr.bind_err (show jx 32 S d= .error e from Pr.bind_err p),Nm];simp only;rw[QY C];rfl
  have v2:jx 32 S d= .ok (eS b,g):=by rw[jx,Pr.bind_of p]; rfl
  have la:a<18446744073709551616:=by rw[show 2 ^ (64:Int).toNat=18446744073709551616 by decide] at a2; exact a2
  have lb:b<18446744073709551616:=by rw[show 2 ^ (32:Int).toNat=4294967296 by decide] at F; omega
  rw[r,Pr.bind_of v2,Nm];simp only[if_true];rw[tZ _ QR,Nm,tZ _ QR,Nm,show ((a:Int)).toNat=a from NR a,show ((b:Int)).toNat=b from NR b];generalize eS a=T;generalize eS b=O;by_cases ho:O<0
  ·rw[QX ho,QX ho];rfl
  have L:(S.drop d).length=S.length - d:=Nx;rw[QY ho,QY ho,QX (show 0<=((g - d:Nat):Int)/\(((g - d:Nat):Int)).toNat<=(S.drop d).length by omega),va S d g D,kG _ (by rw[Nx]; omega),Nm];rcases pa S g E with⟨e,u,G,w⟩ | ⟨k,h,u,H,I,w⟩
  ·rw[w,Pr.bind_err u];simp only;rw[QY G];rfl
  rw[w,Pr.bind_of u];simp only[if_true];have M:(S.drop g).length=S.length - g:=Nx;rw[QX (show 0<=((h - g:Nat):Int)/\(((h - g:Nat):Int)).toNat<=(S.drop g).length by omega),va S g h H,kG _ (by rw[Nx]; omega),Nm];rcases pa S h I with⟨e,y,J,z⟩ | ⟨v,f,y,K,v1',z⟩
  ·rw[z,Pr.bind_err y];simp only;rw[QY J];rfl
  rw[z,Pr.bind_of y];simp only[if_true];have N:(S.drop h).length=S.length - h:=Nx;have P:(S.drop f).length=S.length - f:=Nx;rw[QX (show 0<=((f - h:Nat):Int)/\(((f - h:Nat):Int)).toNat<=(S.drop h).length by omega),va S h f K,Ir _ QR,Nm];have hsh:=Sh_hds.zero (s:=S) (q:=f) v1'
  cases hp:tF (S.drop f) 0 with
  | error e =>
   rw[hp] at hsh;have he:=Kb hs v1' hsh;rw[Pr.bind_err hsh];simp only;rw[QY he];rfl
  | ok x =>
   obtain⟨l,m⟩:=x;rw[hp] at hsh;have hsh:tF S f= .ok (l,f+m):=hsh;have hm:=(DO.spell _ _ _ _ (NH _) hp).2.1;rw[Pr.bind_of hsh];simp only[if_true];by_cases hq:(m:Int)=((S.drop f).length:Int)
   ·have he:rf S (f+m)= .ok ((),f+m):=by unfold rf; rw[QX QR]
    rw[QX hq,Pr.bind_of he];rfl
   ·have he:rf S (f+m)= .error 2:=by unfold rf; rw[QY QR]
    rw[QY hq,Pr.bind_err he];rfl
 ·have i: ¬ sgn c=0:=by unfold sgn; split <;> omega
  rw[QY hz,QY i];rfl
theorem Iu (s:AI) (q:Nat) (hq:q<=s.length) (hs:s.length<=1000000):(∃ e m,AS s q= .error e/\e≠0/\lx (s.drop q)=some ⟨xX,m,e⟩)\/(∃ x r,AS s q= .ok (x,r)/\q<=r/\r<=s.length/\lx (s.drop q)=some ⟨x,((r - q:Nat):Int),0⟩):=by
 unfold lx AS;simp only[Cl];rw[kG _ (by rw[Nx]; omega),Nm];rcases pa s q hq with⟨e,a,f,c⟩ | ⟨b,r,a,g,h,c⟩
 ·have hn:mf s q= .error e:=by rw[mf,fZ,Pr.bind_err a]
  rw[c,hn];simp only;rw[QY f];exact .inl ⟨e,0,rfl,f,rfl⟩
 rw[c];simp only[if_true];by_cases hb:b.null=true
 ·have hn:mf s q= .error 4:=by rw[mf,fZ,Pr.bind_of a,QX hb]; rfl
  rw[QX hb,hn];exact .inl ⟨4,0,rfl,by decide,rfl⟩
 have hn:mf s q= .ok (b.data,r):=by rw[mf,fZ,Pr.bind_of a,QY hb]; rfl
 have hsp:=n7.spell _ _ _ _ hq hn;have hdl:b.data.length<=1000000:=by
  have:=hsp.2.2.1;rw[Nr] at this;omega
 rw[QY hb,hn,It _ hdl,Nm];simp only;rcases Ck b.data hdl with⟨e,x,d,i,j⟩ | ⟨x,d,i⟩
 ·rw[d];exact .inl ⟨e,_,rfl,j,rfl⟩
 ·rw[d];exact .inr ⟨x,r,rfl,g,h,rfl⟩
def rwt (x:Rec):Nat:=x.MX.data.length+x.MM.data.length+ol x.ML
theorem rv (b:Bl) (h:b.data.length<=1000000):(mG b).length<=10+b.data.length:=by
 have hb:=nD b QR;have:=lf (fd b) hb.1 hb.2;rw[mG,Nr];omega
theorem Gl (l:List Hd) (h:ol l<=1000000):(rg l).length<=10+ol l:=by
 have hn:=tG l;have a:=lf (l.length:Int) QR QR;have b:=xV l h;rw[rg,Nr];omega
theorem vz (x:Rec) (ht:wI x.M5) (ho:wI x.MS) (hw:rwt x<=900000):(dv x).length<=51+rwt x:=by
 unfold rwt at hw ⊢;have a:=mU _ (kB x.M5 ht.1 ht.2);have b:=mU _ (kB x.MS ho.1 ho.2);have c:=rv x.MX QR;have d:=rv x.MM QR;have e:=Gl x.ML QR;simp only[dv,Nr,aH];omega
theorem DR (x:Rec) (ht:wI x.M5) (ho:0<=x.MS/\x.MS<=2147483647) (hk:bw x.MX=true) (hv:bw x.MM=true) (hh: ∀ h,h∈x.ML->bw h.MM=true) (hw:rwt x<=900000):j1 x=some (dv x,0):=by
 unfold rwt at hw;have j:=mU _ (kB x.M5 ht.1 ht.2);have k:=mU _ (kB x.MS QR QR);have b:=rv x.MX QR;have c:=rv x.MM QR;unfold mG at b c;unfold j1;rw[tW _ _ (by simp),Nm,show iW ([],0) [UInt8.ofNat (0:Int).toNat]=(be 0 1,0) from by decide];have d:(be 0 1).length=1:=aH 0 1;generalize hb0:be 0 1=a at d;rw[BD _ _ ⟨ht,by simp only; omega⟩,Nm,og];have e:(a++du (bE x.M5)).length<=11:=by rw[Nr]; omega
 generalize hB1:a++du (bE x.M5)=B1 at e;rw[wP _ _ ⟨by omega,by simp only; omega⟩,Nm];unfold jB;rw[QX QR,og];have f:(B1++du (bE x.MS)).length<=21:=by rw[Nr]; omega
 generalize hB2:B1++du (bE x.MS)=B2 at f;rw[mN hk QR QR,Nm];have g:(B2++(du (bE (fd x.MX))++x.MX.data)).length<=31+x.MX.data.length:=by rw[Nr]; omega
 generalize hB3:B2++(du (bE (fd x.MX))++x.MX.data)=B3 at g;rw[mN hv QR QR,Nm];have i:(B3++(du (bE (fd x.MM))++x.MM.data)).length<=41+x.MX.data.length+x.MM.data.length:=by rw[Nr]; omega
 generalize hB4:B3++(du (bE (fd x.MM))++x.MM.data)=B4 at i;rw[Is _ _ hh QR,Nm,lv,Nm,xq];rw[<- hB4,<- hB3,<- hB2,<- hB1,<- hb0];simp only[dv,mG,rg,Ny]
theorem ya {x:Rec} (h:f7 x=0):(0<=x.MS/\x.MS<=2147483647)/\bw x.MX=true/\bw x.MM=true/\ ∀ h,h∈x.ML->bw h.MM=true:=by
 unfold f7 at h;split at h
 ·exact absurd h QS
 ·rename_i b;split at h
  ·rename_i a;simp only[Bool.and_eq_true] at a;exact⟨by omega,a.1.1,a.1.2,fun y hy=>List.all_eq_true.1 a.2 y hy⟩
  ·exact absurd h QS
theorem Gm (x:Rec) (t:AI) (ht:wI x.M5) (ho:wI x.MS) (hw:rwt x<=900000) (hl:t.length<=100000000):jr (t,0) x=some (if f7 x=0 then (t++d8 x,0) else (t,f7 x)):=by
 unfold jr;rw[pQ x ho,Nm];by_cases hr:f7 x=0
 ·obtain⟨a,b,c,d⟩:=ya hr;have hb:=vz x ht ho hw;rw[QX hr,QX hr,DR x ht a b c d hw,Nm];simp only[if_true];rw[xW QR QR,Nm];rfl
 ·rw[QY hr,QY hr,tU,Nm,Ey]
def Iv (a b:Hd):Bool:=decide (a.MX=b.MX) && decide (a.MM.null=b.MM.null) && decide (a.MM.data=b.MM.data)
def mu:List Hd->List Hd->Bool
 | [],[]=>true
 | a::l,b::m=>Iv a b && mu l m
 | _,_=>false
theorem vA: ∀ l:List Hd,mu l l=true
 | []=>rfl
 | a::l=>by rw[mu,vA l]; simp[Iv]
theorem yb: ∀ (l m:List Hd),mu l m=true->l.length=m.length
 | [],[],h=>rfl
 | [],b::m,h=>nomatch h
 | a::l,[],h=>nomatch h
 | a::l,b::m,h=>by
  rw[mu,Bool.and_eq_true] at h;rw[NB,NB,yb l m h.2]
theorem zL (a b:List Hd) (ha:a.length<=1000000) (y:Bool): ∀ (t u:List Hd) (k fuel:Nat),a.drop k=t->b.drop k=u->t.length=u.length->t.length<fuel-> ∃ z,fC a b fuel y k=some (if mu t u=true then .go (y,z) else .ret false)
 | [],[],k,fuel+1,ht,hu,hl,hf=>by
  have:=eK ht;exact⟨k,by rw[fC,QY QR]; rfl⟩
 | [],d::u,k,fuel,ht,hu,hl,hf=>by simp at hl
 | c::t,[],k,fuel,ht,hu,hl,hf=>by simp at hl
 | c::t,d::u,k,fuel+1,ht,hu,hl,hf=>by
  obtain⟨h,i,m⟩:=dj ht;obtain⟨j,l,n⟩:=dj hu;simp only[NB] at hl hf;obtain⟨z,hz⟩:=zL a b ha y t u (k+1) fuel i l QR QR;rw[fC,QX QR,h,Nm,j,Nm,mu,Iv];by_cases e:c.MX=d.MX
  ·rw[QX e,Nn e];by_cases f:c.MM.null=d.MM.null
   ·rw[QX f,Nn f];by_cases g:c.MM.data=d.MM.data
    ·rw[QX g,Nn g,QX QR];exact⟨z,hz⟩
    ·rw[QY g,Np g];exact⟨0,rfl⟩
   ·rw[QY f,Np f];exact⟨0,rfl⟩
  ·rw[QY e,Np e];exact⟨0,rfl⟩
theorem Iw (a b:List Hd) (ha:a.length<=1000000):na a b=some (mu a b):=by
 unfold na;by_cases hl:(a.length:Int)=(b.length:Int)
 ·obtain⟨z,hz⟩:=zL a b ha false a b 0 (((a.length:Int)).toNat+1) rfl rfl QR QR;rw[QX hl,hz];cases mu a b <;> rfl
 ·rw[QY hl];have:mu a b=false:=by
   cases h:mu a b with
   | false=>rfl
   | true=>exact absurd (congrArg Int.ofNat (yb a b h)) hl
  rw[this]
def zM (a b:Rec):Bool:=decide (a.M5=b.M5) && decide (a.MS=b.MS) && decide (a.MX.null=b.MX.null) && decide (a.MX.data=b.MX.data) && decide (a.MM.null=b.MM.null) && decide (a.MM.data=b.MM.data) && mu a.ML b.ML
theorem DS (a:Rec):zM a a=true:=by simp[zM,vA]
theorem Ix (a b:Rec) (ha:a.ML.length<=1000000):nc a b=some (zM a b):=by
 unfold nc zM;rw[Iw _ _ ha];by_cases c:a.M5=b.M5 <;> by_cases d:a.MS=b.MS <;> by_cases e:a.MX.null=b.MX.null <;> by_cases f:a.MX.data=b.MX.data <;> by_cases g:a.MM.null=b.MM.null <;> by_cases h:a.MM.data=b.MM.data <;> simp[c,d,e,f,g,h]
theorem Iy {x:Rec} (ht:wI x.M5) (hr:f7 x=0) (hw:rwt x<=900000):xZ x/\bE ((dv x).length:Int)<2 ^ (32:Int).toNat:=by
 obtain⟨a,c,d,e⟩:=ya hr;have hb:=vz x ht ⟨by omega,by omega⟩ hw;unfold rwt at hw hb;have hn:=tG x.ML;have bk:=nD x.MX QR;have bv:=nD x.MM QR;refine⟨⟨?_,⟨nC _ QR a.2,a.1⟩,⟨nC _ bk.1 bk.2,c⟩,⟨nC _ bv.1 bv.2,d⟩,nC _ QR QR,fun h hh=> ?_⟩,nC _ QR QR⟩
 ·rw[show 2 ^ (64:Int).toNat=18446744073709551616 by decide];exact kB _ ht.1 ht.2
 ·have hm:=Ci _ _ hh;unfold hwt at hm;have b:=nD h.MM QR;exact⟨nC _ QR QR,nC _ b.1 b.2,e h hh⟩
theorem Cm {x:Rec} (h:xZ x):f7 x=0/\wI x.M5/\wI x.MS:=by
 obtain⟨a,⟨b,f⟩,c,d,e⟩:=h;rw[show 2 ^ (64:Int).toNat=18446744073709551616 by decide] at a;rw[show 2 ^ (32:Int).toNat=4294967296 by decide] at b;have ho:x.MS<=2147483647:=by unfold bE at b; split at b <;> omega
 refine⟨?_,?_,⟨by omega,by omega⟩⟩
 ·unfold f7;have hb:rc x.ML=true:=List.all_eq_true.2 fun y hy=>(e.2 y hy).2.2;rw[QY QR,c.2,d.2,hb];rfl
 ·unfold bE at a;constructor <;> (split at a <;> omega)
theorem Cn: ∀ l:List Hd,ol l<=10*(bJ hM l).length
 | []=>NH _
 | x::l=>by
  have h:=Cn l;have a:=mT (bE (x.MX.length:Int));have b:=mT (bE (fd x.MM));rw[bJ,Nr,ol,hwt];simp only[hM,Nr];omega
theorem DT (x:Rec):rwt x<=10*(dv x).length:=by
 have h:=Cn x.ML;simp only[dv,mG,rg,Nr,aH,rwt];omega
def wl:Nat:=2197175160
def qt (x:Nat):Nat:=x / 2 ^^^ (if x % 2=1 then wl else 0)
def ml:Nat->Nat->Nat
 | 0,x=>x
 | k+1,x=>ml k (qt x)
theorem AV (x y:Nat):(x ^^^ y) % 2=(x % 2+y % 2) % 2:=by
 have h:=Nat.xor_mod_two_pow (a:=x) (b:=y) (n:=1);rw[Nat.pow_one] at h;rw[h];rcases Nat.mod_two_eq_zero_or_one x with hx | hx <;> rcases Nat.mod_two_eq_zero_or_one y with hy | hy <;> rw[hx,hy] <;> rfl
theorem AW (x y:Nat):(x ^^^ y) / 2=(x / 2) ^^^ (y / 2):=Nat.xor_div_two
theorem Iz (x y:Nat):qt (x ^^^ y)=qt x ^^^ qt y:=by
 unfold qt;rw[AW,AV];rcases Nat.mod_two_eq_zero_or_one x with hx | hx <;> rcases Nat.mod_two_eq_zero_or_one y with hy | hy <;> simp[hx,hy]
 ·rw[Nat.xor_assoc]
 ·ac_rfl
 ·rw[show x / 2 ^^^ wl ^^^ (y / 2 ^^^ wl)=x / 2 ^^^ y / 2 ^^^ (wl ^^^ wl) by ac_rfl,Nat.xor_self,Nat.xor_zero]
theorem yc: ∀ (k x y:Nat),ml k (x ^^^ y)=ml k x ^^^ ml k y
 | 0,_,_=>rfl
 | k+1,x,y=>by show ml k _= _; rw[Iz,yc k]; rfl
theorem Co: ∀ (j k x:Nat),ml (j+k) x=ml k (ml j x)
 | 0,k,x=>by rw[Nat.zero_add]; rfl
 | j+1,k,x=>by rw[show j+1+k=(j+k)+1 by omega]; exact Co j k (qt x)
theorem Gn (x:Nat):qt (2*x)=x:=by
 unfold qt; rw[QY QR,Nat.xor_zero]; omega
theorem sI: ∀ (k x:Nat),ml k (2 ^ k*x)=x
 | 0,x=>by rw[Nat.pow_zero,Nat.one_mul]; rfl
 | k+1,x=>by
  show ml k (qt _)=x;rw[show 2 ^ (k+1)*x=2*(2 ^ k*x) by rw[Nat.pow_succ,Nat.mul_comm (2 ^ k) 2,Nat.mul_assoc],Gn];exact sI k x
theorem EU {x:Nat} (h:x<2 ^ 32):qt x<2 ^ 32:=by
 unfold qt;exact Nat.xor_lt_two_pow QR (by split <;> decide)
theorem wx: ∀ (k:Nat) {x:Nat},x<2 ^ 32->ml k x<2 ^ 32
 | 0,_,h=>h
 | k+1,_,h=>wx k (EU h)
theorem Gp (x b:Nat) (hb:b<256):ml 8 (x ^^^ b)=ml 8 ((x % 256) ^^^ b) ^^^ (x / 256):=by
 have h:x=(x % 256) ^^^ (2 ^ 8*(x / 256)):=by
  apply Nat.eq_of_testBit_eq;intro i;rw[Nat.testBit_xor,show (256:Nat)=2 ^ 8 from rfl,Nat.testBit_mod_two_pow,Nat.testBit_two_pow_mul,Nat.testBit_div_two_pow];by_cases hi:i<8
  ·simp[hi,show ¬ 8<=i by omega]
  ·simp[hi,show 8<=i by omega]
 conv=>lhs; rw[h]
 rw[show x % 256 ^^^ 2 ^ 8*(x / 256) ^^^ b=(x % 256 ^^^ b) ^^^ (2 ^ 8*(x / 256)) by ac_rfl,yc,sI]
def leN:AI->Nat
 | []=>0
 | c::l=>c.toNat+256*leN l
def vb:Nat->AI->Nat
 | x,[]=>x
 | x,c::l=>vb (ml 8 (x ^^^ c.toNat)) l
theorem IA: ∀ l,leN l<2 ^ (8*l.length)
 | []=>by decide
 | c::l=>by
  have:=IA l;have hc:=c.toNat_lt;show c.toNat+256*leN l<2 ^ (8*(l.length+1));rw[show 8*(l.length+1)=8+8*l.length by omega,Nat.pow_add];omega
theorem Cp {b:Nat} (hb:b<256) (y:Nat):b+256*y=b ^^^ (2 ^ 8*y):=by
 apply Nat.eq_of_testBit_eq;intro i;rw[show b+256*y=2 ^ 8*y+b by omega,Nat.testBit_two_pow_mul_add _ (show b<2 ^ 8 by omega),Nat.testBit_xor,Nat.testBit_two_pow_mul];by_cases hi:i<8
 ·simp[hi,show ¬ 8<=i by omega]
 ·have:b.testBit i=false:=Nat.testBit_lt_two_pow (Nat.lt_of_lt_of_le hb (show 2 ^ 8<=2 ^ i from Nat.pow_le_pow_right QS QR));simp[hi,show 8<=i by omega,this]
theorem EV: ∀ (l:AI) (x:Nat),vb x l=ml (8*l.length) (x ^^^ leN l)
 | [],x=>by show x=ml 0 (x ^^^ 0); rw[Nat.xor_zero]; rfl
 | c::l,x=>by
  show vb _ l= _;rw[EV l,show 8*(c::l).length=8+8*l.length by simp[Nat.mul_add]; omega,Co];show _=ml _ (ml 8 (x ^^^ (c.toNat+256*leN l)));rw[Cp c.toNat_lt,show x ^^^ (c.toNat ^^^ 2 ^ 8*leN l)=(x ^^^ c.toNat) ^^^ (2 ^ 8*leN l) by ac_rfl,yc 8 (x ^^^ c.toNat),sI]
theorem vB: ∀ (l m:AI) (x:Nat),vb x (l++m)=vb (vb x l) m
 | [],_,_=>rfl
 | c::l,m,x=>vB l m _
theorem wy: ∀ (l:AI) {x:Nat},x<2 ^ 32->vb x l<2 ^ 32
 | [],_,h=>h
 | c::l,_,h=>wy l (wx 8 (Nat.xor_lt_two_pow h (Nat.lt_trans c.toNat_lt QS)))
theorem ry (a:Nat) (h:a<4294967296):(BitVec.ofInt IntKind.u32.bits (a:Int)).toNat=a:=by
 show (BitVec.ofInt 32 (a:Int)).toNat=a;rw[BitVec.ofInt_natCast,BitVec.toNat_ofNat,Nat.mod_eq_of_lt QR]
theorem Cq (a:Nat) (h:a<256):(BitVec.ofInt IntKind.u8.bits (a:Int)).toNat=a:=by
 show (BitVec.ofInt 8 (a:Int)).toNat=a;rw[BitVec.ofInt_natCast,BitVec.toNat_ofNat,Nat.mod_eq_of_lt QR]
theorem wrap_u32 (a:Nat):IntKind.u32.wrap (a:Int)=((a % 4294967296:Nat):Int):=by
 rw[IntKind.wrap_u32]; omega
theorem wrap_u8 (a:Nat):IntKind.u8.wrap (a:Int)=((a % 256:Nat):Int):=by
 rw[IntKind.wrap_u8]; omega
theorem wz (a b:Nat) (ha:a<4294967296) (hb:b<4294967296):Go.bits .xor .u32 (a:Int) (b:Int)=((a ^^^ b:Nat):Int):=by
 show IntKind.u32.wrap (((BitVec.ofInt IntKind.u32.bits (a:Int)) ^^^ (BitVec.ofInt IntKind.u32.bits (b:Int))).toNat:Int)= _;rw[BitVec.toNat_xor,ry a ha,ry b hb,wrap_u32,Nat.mod_eq_of_lt (Nat.xor_lt_two_pow (n:=32) ha hb)]
theorem xor_u8 (a b:Nat) (ha:a<256) (hb:b<256):Go.bits .xor .u8 (a:Int) (b:Int)=((a ^^^ b:Nat):Int):=by
 show IntKind.u8.wrap (((BitVec.ofInt IntKind.u8.bits (a:Int)) ^^^ (BitVec.ofInt IntKind.u8.bits (b:Int))).toNat:Int)= _;rw[BitVec.toNat_xor,Cq a ha,Cq b hb,wrap_u8,Nat.mod_eq_of_lt (Nat.xor_lt_two_pow (n:=8) ha hb)]
theorem IB (a:Nat) (ha:a<4294967296):Go.bits .and .u32 (a:Int) 1=((a % 2:Nat):Int):=by
 show IntKind.u32.wrap (((BitVec.ofInt IntKind.u32.bits (a:Int)) &&& (BitVec.ofInt IntKind.u32.bits ((1:Nat):Int))).toNat:Int)= _;rw[BitVec.toNat_and,ry a ha,ry 1 QS,wrap_u32,Nat.and_one_is_mod,Nat.mod_eq_of_lt QR]
theorem IC (a:Nat):yI .u32 (a:Int) 1=((a / 2:Nat):Int):=by
 show Int.fdiv (a:Int) 2= _;rw[Int.fdiv_eq_ediv_of_nonneg _ QS];omega
theorem ID (a:Nat):yI .u32 (a:Int) 8=((a / 256:Nat):Int):=by
 show Int.fdiv (a:Int) 256= _;rw[Int.fdiv_eq_ediv_of_nonneg _ QS];omega
theorem IE (y:Nat) (hy:y<4294967296):(if Go.bits .and .u32 (y:Int) 1=1 then some (Go.bits .xor .u32 (yI .u32 (y:Int) 1) 2197175160) else some (yI .u32 (y:Int) 1))=some ((qt y:Nat):Int):=by
 rw[IB y hy,IC,show (2197175160:Int)=((2197175160:Nat):Int) from rfl,wz _ _ QR QS];unfold qt;by_cases h:y % 2=1
 ·rw[QX QR,QX h]; rfl
 ·rw[QY QR,QY h,Nat.xor_zero]
theorem IF: ∀ (m y k:Nat),y<4294967296->k<=8->8 - k<m->gp m (y:Int) k=some (((ml (8 - k) y:Nat):Int),8)
 | 0,_,_,_,_,h=>by omega
 | m+1,y,k,hy,hk,hm=>by
  rw[gp];by_cases h:k<8
  ·rw[QX QR,IE y hy,Nm,QX QR,IF m (qt y) (k+1) (EU hy) QR QR,show 8 - k=(8 - (k+1))+1 by omega];rfl
  ·rw[QY QR,show 8 - k=0 by omega,show k=8 by omega];rfl
def lN:List Int:=(List.range 256).map (fun j=>((ml 8 j:Nat):Int))
theorem ye (j:Nat) (hj:j<256):lN[j]? = some ((ml 8 j:Nat):Int):=by
 unfold lN;rw[List.getElem?_map,List.getElem?_range hj];rfl
theorem IG: ∀ (m k:Nat) (l:List Int),l.length=256->k<=256->256 - k<m->(∀ j,j<k->l[j]? = some ((ml 8 j:Nat):Int))->iu m k l=some (256,lN)
 | 0,_,_,_,_,h,_=>by omega
 | m+1,k,l,hl,hk,hm,hj=>by
  rw[iu];by_cases h:k<256
  ·have a:IntKind.u32.wrap (k:Int)=((k:Nat):Int):=by rw[wrap_u32,Nat.mod_eq_of_lt QR]
   have b:gp ((8:Int).toNat+1) (IntKind.u32.wrap (k:Int)) 0=some (((ml 8 k:Nat):Int),8):=by
    rw[a];exact IF 9 k 0 QR QR QR
   have c:l[k]? = some (l[k]'(by omega)):=List.getElem?_eq_getElem QR;rw[QX QR,b,Nm];dsimp only;rw[c,Nm,Nm,QX QR];refine IG m (k+1) _ (by rw[List.length_set]; exact hl) QR QR (fun j hjk=> ?_);rw[List.getElem?_set];by_cases e:k=j
   ·rw[QX e,QX QR,e]
   ·rw[QY e];exact hj j QR
  ·rw[QY QR,show k=256 by omega];congr 2;apply List.ext_getElem?;intro j;by_cases hj2:j<256
   ·rw[ye j hj2];exact hj j QR
   ·rw[List.getElem?_eq_none QR,List.getElem?_eq_none (by unfold lN; simp; omega)]
theorem EW:mR=some lN:=by
 unfold mR;rw[show (256:Int).toNat+1=257 from rfl,IG 257 0 _ (List.length_replicate ..) QR QR (fun j hj=>absurd hj QR),Nm]
theorem EX (s:AI) (hs:s.length<=9223372036854775806): ∀ (m y k:Nat),y<4294967296->k<=s.length->s.length - k<m->eh s m (y:Int) k lN=some (((vb y (s.drop k):Nat):Int),s.length,lN)
 | 0,_,_,_,_,h=>by omega
 | m+1,y,k,hy,hk,hm=>by
  rw[eh];by_cases h:k<s.length
  ·have a:s[k]? = some s[k]:=List.getElem?_eq_getElem h;have hc:=s[k].toNat_lt;have hx:y % 256 ^^^ s[k].toNat<256:=Nat.xor_lt_two_pow (n:=8) QR hc;have b:Go.bits .xor .u8 (IntKind.u8.wrap (y:Int)) (s[k].toNat:Int)=((y % 256 ^^^ s[k].toNat:Nat):Int):=by
    rw[wrap_u8,xor_u8 _ _ QR QR]
   have c:ml 8 (y % 256 ^^^ s[k].toNat)<2 ^ 32:=wx 8 QR
   rw[QX QR,a,Nm,b,QX QR,NR,ye _ hx,Nm,QX QR,ID,wz _ _ QR QR,<- Gp y _ QR,
    EX s hs m _ (k+1) (wx 8 (Nat.xor_lt_two_pow (n:=32) hy QR)) QR QR]
   rw[bY a];rfl
  ·rw[QY QR,show k=s.length by omega,List.drop_length];rfl
def om (x:Nat) (s:AI):Nat:=4294967295 ^^^ vb (4294967295 ^^^ x) s
theorem wA {x:Nat} (hx:x<4294967296) (s:AI):om x s<4294967296:=Nat.xor_lt_two_pow (n:=32) QS (wy s (Nat.xor_lt_two_pow (n:=32) QS hx))
theorem ones2 (x:Nat):4294967295 ^^^ (4294967295 ^^^ x)=x:=by rw[<- Nat.xor_assoc,Nat.xor_self,Nat.zero_xor]
theorem Cr (x:Nat) (s t:AI):om x (s++t)=om (om x s) t:=by
 unfold om;rw[vB,ones2]
theorem IH (x:Nat):om x []=x:=ones2 x
theorem II (x:Nat) (hx:x<4294967296) (s:AI) (hs:s.length<=9223372036854775806):iF lN (x:Int) s=some (((om x s:Nat):Int),lN):=by
 unfold iF;have a:(4294967295 ^^^ x:Nat)<4294967296:=Nat.xor_lt_two_pow (n:=32) QS hx;rw[show (4294967295:Int)=((4294967295:Nat):Int) from rfl,wz _ _ QS hx,NR,EX s hs _ _ 0 a QR QR,Nm,List.drop_zero];dsimp only;rw[wz _ _ QS (wy s a)];rfl
theorem IJ: ∀ (l:List AI) (x:Nat),x<4294967296->(∀ s,s∈l->s.length<=9223372036854775806)->dN l (x:Int) lN=some (((om x l.flatten:Nat):Int),lN)
 | [],x,_,_=>by rw[dN,List.flatten_nil,IH]
 | s::l,x,hx,hs=>by
  rw[dN,II x hx s (hs s (List.mem_cons_self ..)),Nm];dsimp only;rw[IJ l _ (wA hx s) (fun t ht=>hs t (List.mem_cons_of_mem _ ht)),List.flatten_cons,Cr]
theorem EY (l:List AI) (hs: ∀ s,s∈l->s.length<=9223372036854775806):gW lN l=some (((om 0 l.flatten:Nat):Int),lN):=by
 unfold gW;have h:=IJ l 0 QS hs;rw[show ((0:Nat):Int)=0 from rfl] at h;rw[h,Nm]
def bI (x j:Nat):Int:=if x.testBit j then 1 else 0
theorem DU (x j:Nat):bI x j=((x / 2 ^ j % 2:Nat):Int):=by
 unfold bI;rw[Nat.testBit_eq_decide_div_mod_eq];rcases Nat.mod_two_eq_zero_or_one (x / 2 ^ j) with h | h <;> rw[h] <;> rfl
theorem zN (x j:Nat):bI x j=0\/bI x j=1:=by
 unfold bI;by_cases h:x.testBit j=true
 ·rw[QX h]; exact .inr rfl
 ·rw[QY h]; exact .inl rfl
theorem yf (x y j:Nat):bI (x ^^^ y) j=(bI x j+bI y j) % 2:=by
 unfold bI;rw[Nat.testBit_xor];cases x.testBit j <;> cases y.testBit j <;> rfl
theorem AX (x j:Nat):bI (x / 2) j=bI x (j+1):=by
 unfold bI;rw[Nat.testBit_succ]
theorem Cs: ∀ (s:AI) (k:Nat) (c:UInt8),s[k]? = some c-> ∀ j,j<8->(leN s).testBit (8*k+j)=c.toNat.testBit j
 | [],k,c,h,j,hj=>by simp at h
 | a::s,0,c,h,j,hj=>by
  obtain rfl:a=c:=by simpa using h
  show (a.toNat+256*leN s).testBit (8*0+j)= _;rw[show a.toNat+256*leN s=2 ^ 8*leN s+a.toNat by omega,Nat.testBit_two_pow_mul_add _ (show a.toNat<2 ^ 8 from a.toNat_lt),QX QR,Nat.mul_zero,Nat.zero_add]
 | a::s,k+1,c,h,j,hj=>by
  show (a.toNat+256*leN s).testBit _= _;rw[show a.toNat+256*leN s=2 ^ 8*leN s+a.toNat by omega,Nat.testBit_two_pow_mul_add _ (show a.toNat<2 ^ 8 from a.toNat_lt),QY QR,show 8*(k+1)+j - 8=8*k+j by omega];exact Cs s k c (by simpa using h) j hj
theorem IK (a:Int) (ha:0<=a) (hb:a<=9223372036854775807): ∀ (m y k:Nat),y<256->k<=(a % 8).toNat->(a % 8).toNat - k<m->ic a m (y:Int) k=some (((y / 2 ^ ((a % 8).toNat - k):Nat):Int),(a % 8).toNat)
 | 0,_,_,_,_,h=>by omega
 | m+1,y,k,hy,hk,hm=>by
  rw[ic,QX ⟨ha,hb⟩];by_cases h:k<(a % 8).toNat
  ·rw[QX QR,QX QR,QX QR,show ((y:Int) / 2)=((y / 2:Nat):Int) by omega,IK a ha hb m (y / 2) (k+1) QR QR QR,Nat.div_div_eq_div_mul,
    show (a % 8).toNat - k=((a % 8).toNat - (k+1))+1 by omega,Nat.pow_succ,Nat.mul_comm 2]
  ·rw[QY QR,show (a % 8).toNat - k=0 by omega,Nat.pow_zero,Nat.div_one,show k=(a % 8).toNat by omega]
theorem Kc (s:AI) (i:Nat) (hi:i<8*s.length) (hb:i<=9223372036854775807):oO s (i:Int)=some (bI (leN s) i):=by
 unfold oO;have hk:i / 8<s.length:=by omega
 have a:s[i / 8]? = some s[i / 8]:=List.getElem?_eq_getElem hk;have hc:=s[i / 8].toNat_lt;have c:=IK (i:Int) QR QR (((i:Int) % 8).toNat+1) s[i / 8].toNat 0 QR QR QR;have d:((i:Int) % 8).toNat=i % 8:=by omega
 rw[QX QR,QX QR,show ((i:Int) / 8).toNat=i / 8 by omega,a,Nm,QX QR,c,Nm,d,Nat.sub_zero];dsimp only;have e:s[i / 8].toNat / 2 ^ (i % 8)<=s[i / 8].toNat:=Nat.div_le_self _ _
 suffices f:bI (leN s) i=((s[i / 8].toNat / 2 ^ (i % 8) % 2:Nat):Int) by
  rw[f];generalize s[i / 8].toNat / 2 ^ (i % 8)=q at e ⊢;rw[QX QR];congr 1
 have b:=Cs s (i / 8) _ a (i % 8) QR;rw[show 8*(i / 8)+i % 8=i by omega] at b;unfold bI;rw[b];exact DU _ _
theorem Gq: ∀ i:Nat,i<32->lY (31 - (i:Int))=some (bI wl i):=by decide +kernel
def Bts (L k:Nat) (l:List Int) (x:Nat):Prop:=l.length=L/\ ∀ j,k+j<L->l[k+j]? = some (bI x j)
theorem IL (s:AI) (hs:s.length<=1000000): ∀ (m k:Nat) (l:List Int),l.length=8*s.length+32->k<=8*s.length->8*s.length - k<m->(∀ j,j<k->l[j]? = some (bI (leN s) j))->(∀ j,k<=j->j<8*s.length+32->l[j]? = some 0) ->
 ∃ l',ij s m l k=some (l',8*s.length)/\Bts (8*s.length+32) 0 l' (leN s)
 | 0,_,_,_,_,h,_,_=>by omega
 | m+1,k,l,hl,hk,hm,b,a=>by
  rw[ij];by_cases h:k<8*s.length
  ·rw[QX QR,Kc s k h QR,Nm,a k (N3 _) QR,Nm,QX QR];refine IL s hs m (k+1) _ (by rw[List.length_set]; exact hl) QR QR (fun j hj=> ?_) (fun j hj hj2=> ?_)
   ·rw[List.getElem?_set];by_cases e:k=j
    ·rw[QX e,QX QR,e]
    ·rw[QY e]; exact b j QR
   ·rw[List.getElem?_set,QY QR];exact a j QR hj2
  ·have c:k=8*s.length:=by omega
   rw[QY QR,c];refine⟨l,rfl,hl,fun j hj=> ?_⟩;rw[Nat.zero_add] at hj ⊢;by_cases e:j<k
   ·exact b j e
   ·rw[a j QR hj];unfold bI;rw[Nat.testBit_lt_two_pow (Nat.lt_of_lt_of_le (IA s) (Nat.pow_le_pow_right QS QR))];rfl
theorem AY (k j:Nat):bI (2 ^ k - 1) j=if j<k then 1 else 0:=by
 unfold bI;rw[Nat.testBit_two_pow_sub_one];by_cases h:j<k <;> simp[h]
theorem IM (x L:Nat) (hL:32<=L): ∀ (m k:Nat) (l:List Int),k<=32->32 - k<m->Bts L 0 l (x ^^^ (2 ^ k - 1))-> ∃ l',ig m l k=some (l',32)/\Bts L 0 l' (x ^^^ 4294967295)
 | 0,_,_,_,h,_=>by omega
 | m+1,k,l,hk,hm,hB=>by
  rw[ig];by_cases h:k<32
  ·have e:=hB.2 k QR;rw[Nat.zero_add] at e;rw[QX QR,e,Nm];have d:=zN (x ^^^ (2 ^ k - 1)) k;rw[QX QR,QX QR];refine IM x L hL m (k+1) _ QR QR ⟨by rw[List.length_set]; exact hB.1,fun j hj=> ?_⟩;rw[Nat.zero_add] at hj ⊢;have a:=hB.2 j QR;rw[Nat.zero_add] at a;have R:bI (x ^^^ (2 ^ (k+1) - 1)) j=(bI x j+if j<k+1 then 1 else 0) % 2:=by rw[yf,AY]
   have R0:bI (x ^^^ (2 ^ k - 1)) j=(bI x j+if j<k then 1 else 0) % 2:=by rw[yf,AY]
   rw[List.getElem?_set,R];by_cases b:k=j
   ·subst b;rw[QX rfl,QX (by rw[hB.1]; exact hj),QX QR,R0,QY QR];rcases zN x k with q | q <;> rw[q] <;> rfl
   ·rw[QY b,a,R0];by_cases c:j<k
    ·rw[QX c,QX QR]
    ·rw[QY c,QY QR]
  ·have:k=32:=by omega
   subst this;rw[QY QR];exact⟨l,rfl,hB⟩
theorem IO (L k:Nat) (a:List Int) (y:Nat) (hL:k+33<=L) (hb:L<=9000000) (b:Bts L k a y): ∀ (m i:Nat) (l:List Int),1<=i->i<=33->33 - i<m->l.length=L->(∀ j,k+i<=j->j<L->l[j]? = a[j]?)->(∀ j,j+1<i->l[k+1+j]? = some (bI (y / 2 ^^^ wl) j)) ->
 ∃ l',ie k m l (i:Int)=some (l',33)/\l'.length=L/\(∀ j,k+33<=j->j<L->l'[j]? = a[j]?)/\ ∀ j,j<32->l'[k+1+j]? = some (bI (y / 2 ^^^ wl) j)
 | 0,_,_,_,_,h,_,_,_=>by omega
 | m+1,i,l,f,hi,hm,hl,hr,hd=>by
  rw[ie];by_cases h:i<=32
  ·have d:l[k+i]? = some (bI y i):=by rw[hr (k+i) (N3 _) QR]; exact b.2 i QR
   have e:lY (32 - (i:Int))=some (bI wl (i - 1)):=by
    rw[show (32:Int) - (i:Int)=31 - ((i - 1:Nat):Int) by omega];exact Gq (i - 1) QR
   have g:=zN y i;have n:=zN wl (i - 1)
   rw[QX QR,QX QR,show ((k:Int)+(i:Int)).toNat=k+i by omega,d,Nm,QX QR,QX QR,QX QR,e,Nm,QX QR,QX QR,QX QR,
    show (i:Int)+1=((i+1:Nat):Int) by omega]
   refine IO L k a y hL hb b m (i+1) _ QR QR QR (by rw[List.length_set]; exact hl) (fun j hj hj2=> ?_) (fun j hj=> ?_)
   ·rw[List.getElem?_set,QY QR];exact hr j QR hj2
   ·rw[List.getElem?_set];by_cases c:k+i=k+1+j
    ·rw[QX c,QX QR,yf,AX,show j+1=i by omega,show i - 1=j by omega]
    ·rw[QY c]; exact hd j QR
  ·have:i=33:=by omega
   subst this;rw[QY QR];exact⟨l,rfl,hl,fun j hj hj2=>hr j hj hj2,fun j hj=>hd j QR⟩
theorem Gr (j:Nat) (hj:32<=j):bI wl j=0:=by
 unfold bI;rw[Nat.testBit_lt_two_pow (Nat.lt_of_lt_of_le (show wl<2 ^ 32 by decide) (Nat.pow_le_pow_right QS hj))];rfl
theorem EZ (x:Nat):bI x 0=1↔x % 2=1:=by
 rw[DU,Nat.pow_zero,Nat.div_one]; omega
theorem DV (s:AI) (hs:s.length<=1000000): ∀ (m k:Nat) (l:List Int) (y:Nat),k<=8*s.length->8*s.length - k<m->Bts (8*s.length+32) k l y-> ∃ l',gf s m l k=some (l',8*s.length)/\Bts (8*s.length+32) (8*s.length) l' (ml (8*s.length - k) y)
 | 0,_,_,_,_,h,_=>by omega
 | m+1,k,l,y,hk,hm,hB=>by
  rw[gf];by_cases h:k<8*s.length
  ·have a:=hB.2 0 QR;rw[Nat.add_zero] at a;rw[QX QR,a,Nm,show 8*s.length - k=(8*s.length - (k+1))+1 by omega];by_cases ho:bI y 0=1
   ·have hy:=(EZ y).1 ho;obtain⟨l',r1,r2,r3,r4⟩:=IO (8*s.length+32) k l y QR QR hB 33 1 l QR QR QR hB.1 (fun j _ _=>rfl) (fun j hj=>absurd hj QR);rw[QX ho,show ((33:Int) - 1).toNat+1=33 from rfl,show (1:Int)=((1:Nat):Int) from rfl,r1,Nm];dsimp only;rw[QX QR];refine DV s hs m (k+1) l' (qt y) QR QR ⟨r2,fun j hj=> ?_⟩;unfold qt;rw[QX hy];by_cases e:j<32
    ·exact r4 j e
    ·rw[r3 _ QR QR,show k+1+j=k+(j+1) by omega,hB.2 (j+1) QR,yf,AX,Gr j QR];rcases zN y (j+1) with q | q <;> rw[q] <;> rfl
   ·have hy: ¬ y % 2=1:=fun e=>ho ((EZ y).2 e);rw[QY ho,QX QR];refine DV s hs m (k+1) l (qt y) QR QR ⟨hB.1,fun j hj=> ?_⟩;unfold qt;rw[QY hy,Nat.xor_zero,AX,show k+1+j=k+(j+1) by omega];exact hB.2 (j+1) QR
  ·have:k=8*s.length:=by omega
   subst this;rw[QY QR,Nat.sub_self];exact⟨l,rfl,hB⟩
theorem Ct {z:Nat} (hz:z<4294967296):4294967295 ^^^ z=4294967295 - z:=by
 apply Nat.eq_of_testBit_eq;intro i;rw[show 4294967295 - z=2 ^ 32 - (z+1) by omega,Nat.testBit_two_pow_sub_succ (show z<2 ^ 32 from hz),Nat.testBit_xor,show (4294967295:Nat)=2 ^ 32 - 1 from rfl,Nat.testBit_two_pow_sub_one];by_cases h:i<32
 ·simp[h]
 ·have:z.testBit i=false:=Nat.testBit_lt_two_pow (Nat.lt_of_lt_of_le hz (show 2 ^ 32<=2 ^ i from Nat.pow_le_pow_right QS QR));simp[h,this]
theorem IP (s:AI) (hs:s.length<=1000000) (l:List Int) (z:Nat) (hz:z<4294967296) (hB:Bts (8*s.length+32) (8*s.length) l z): ∀ (i m:Nat),i<=32->i<m->fy s l m (((4294967295 - z) / 2 ^ i:Nat):Int) ((i:Int) - 1)=some (((4294967295 - z:Nat):Int),-1)
 | i,0,_,h=>by omega
 | 0,m+1,_,_=>by
  rw[fy,QY QR,Nat.pow_zero,Nat.div_one];rfl
 | i+1,m+1,hi,hm=>by
  have a:=hB.2 i QR;have q:=zN z i
  rw[fy,QX QR,QX QR,QX QR,show (8*(s.length:Int)+(((i+1:Nat):Int) - 1)).toNat=8*s.length+i by omega,a,Nm,QX QR,QX QR,
   show ((i+1:Nat):Int) - 1 - 1=(i:Int) - 1 by omega]
  have b:(4294967295 - z) / 2 ^ i / 2=(4294967295 - z) / 2 ^ (i+1):=by rw[Nat.div_div_eq_div_mul,<- Nat.pow_succ]
  have c:(((4294967295 - z) / 2 ^ i % 2:Nat):Int)=1 - bI z i:=by
   rw[<- DU,<- Ct hz,yf,show (4294967295:Nat)=2 ^ 32 - 1 from rfl,AY,QX QR];rcases q with q | q <;> rw[q] <;> rfl
  have d:(4294967295 - z) / 2 ^ i<=4294967295:=Nat.le_trans (Nat.div_le_self _ _) QR;have e:IntKind.u32.wrap ((IntKind.u32.wrap ((((4294967295 - z) / 2 ^ (i+1):Nat):Int)*2))+(IntKind.u32.wrap (1 - bI z i)))=(((4294967295 - z) / 2 ^ i:Nat):Int):=by
   rw[IntKind.wrap_u32,IntKind.wrap_u32,IntKind.wrap_u32,<- b,<- c];generalize (4294967295 - z) / 2 ^ i=q at d;omega
  rw[e];exact IP s hs l z hz hB i m QR QR
theorem Kd (s:AI) (hs:s.length<=1000000):oQ s=some ((om 0 s:Nat):Int):=by
 unfold oQ;obtain⟨b,r1,B1⟩:=IL s hs (8*s.length+1) 0 (List.replicate (8*s.length+32) 0) (List.length_replicate ..) QR QR (fun j hj=>absurd hj QR) (fun j _ hj=>by rw[List.getElem?_replicate,QX hj]);obtain⟨c,r2,B2⟩:=IM (leN s) (8*s.length+32) QR 33 0 b QR QR (by rw[Nat.pow_zero,Nat.sub_self,Nat.xor_zero]; exact B1);obtain⟨a,r3,B3⟩:=DV s hs (8*s.length+1) 0 c _ QR QR B2;have hz:ml (8*s.length - 0) (leN s ^^^ 4294967295)=vb 4294967295 s:=by rw[Nat.sub_zero,EV,Nat.xor_comm]
 rw[hz] at B3;have hlt:vb 4294967295 s<4294967296:=wy s QS;have r4:=IP s hs a _ hlt B3 32 33 QR QR;rw[show (4294967295 - vb 4294967295 s) / 2 ^ 32=0 from Nat.div_eq_of_lt QR] at r4;rw[QX QR,QX QR,QX QR,show (8*(s.length:Int)).toNat=8*s.length by omega,show (8*(s.length:Int)+32).toNat=8*s.length+32 by omega,r1,Nm];dsimp only;rw[show (32:Int).toNat+1=33 from rfl,r2,Nm];dsimp only;rw[r3,Nm];dsimp only;rw[show ((31:Int) - -1).toNat+1=33 from rfl];have d:fy s a 33 0 31=some (((4294967295 - vb 4294967295 s:Nat):Int),-1):=r4;rw[d,Nm];dsimp only;rw[<- Ct hlt];unfold om;rw[Nat.xor_zero]
def E0 (p:Pfx):AI:=be p.M4 8++(be p.MY 4++(be p.MW 4++(be 2 1++be (s32 p.Nb) 4)))
def fv (p:Pfx):AI:=be p.Na 2++sH [4,8,8,8,2,4,4] [p.MZ,p.MN,p.M7,p.Mx,p.Mz,p.MP,p.Nc]
theorem Fa (p:Pfx):pe p=E0 p++fv p:=by
 unfold pe KS toL E0 fv;simp only[sH,Ny]
theorem zO (p:Pfx):(E0 p).length=21:=by
 unfold E0;simp only[Nr,aH]
theorem pf (p:Pfx):(pe p).drop 21=fv p:=by
 rw[Fa,<- zO p,List.drop_left]
def okRc (x:Rec):Prop:=xZ x/\bE ((dv x).length:Int)<2 ^ (32:Int).toNat
def Cu:Pr Unit:=fun s q=>if q=s.length then .error 10 else .ok ((),q)
def ob:Nat->Pr (List Rec)
 | 0=> .ret []
 | n+1=>Cu.bind fun _=>AS.bind fun x=>(ob n).bind fun l=> .ret (x::l)
theorem pR (x:Rec):0<(d8 x).length:=by
 unfold d8;rw[Nr];have:=mT (bE ((dv x).length:Int));omega
theorem pS: ∀ (n:Nat) (s:AI) (q:Nat) (l:List Rec) (r:Nat),q<=s.length->ob n s q= .ok (l,r)->q<=r/\r<=s.length/\s.take r=s.take q++bJ d8 l/\l.length=n/\ ∀ x,x∈l->okRc x
 | 0,s,q,l,r,hq,h=>by
  injection h with h;obtain⟨rfl,rfl⟩:=NU h;exact⟨N3 _,hq,by simp[bJ],rfl,fun x h=>nomatch h⟩
 | n+1,s,q,l,r,hq,h=>by
  obtain⟨u,m,a,d⟩:=Pr.bind_ok h;unfold Cu at a;split at a
  ·exact nomatch a
  injection a with a;obtain⟨_,rfl⟩:=NU a;obtain⟨x,c,e,f⟩:=Pr.bind_ok d;obtain⟨xs,g,i,b⟩:=Pr.bind_ok f;injection b with b;obtain⟨rfl,rfl⟩:=NU b;obtain⟨a1,a2,a3,a4,a5⟩:=AU.spell s q x c hq e;obtain⟨t,j,k,o,p⟩:=pS n s c xs g a2 i;refine⟨by omega,j,by rw[k,a4,bJ,Ny],by rw[NB,o],fun y hy=> ?_⟩;rcases List.mem_cons.1 hy with rfl | hy
  ·exact a5
  ·exact p y hy
theorem zS: ∀ (l:List Rec) (s t:AI) (q:Nat),q<=s.length->(∀ x,x∈l->okRc x)->s.drop q=bJ d8 l++t->ob l.length s q= .ok (l,q+(bJ d8 l).length)
 | [],s,t,q,hq,_,_=>rfl
 | x::l,s,t,q,hq,ho,hd=>by
  rw[bJ,Ny] at hd;have hl:=congrArg List.length hd;rw[Nx,Nr] at hl;have hp:=pR x;have a:Cu s q= .ok ((),q):=QY QR;have b:=AU.back s _ q x hq (ho x (.head _)) hd;have c:=zS l s t _ QR (fun y hy=>ho y (.tail _ hy)) (cM hd);rw[NB,ob,Pr.bind_of a,Pr.bind_of b,Pr.bind_of c,bJ,Nr,<- Nat.add_assoc];rfl
def chk (a:Bat):Int:=(dY a).getD 0
def body (a:Bat):AI:=bJ d8 a.MB
def mkB (p:Pfx) (l:List Rec):Bat:=⟨p.M4,p.MW,ey p.Na 3,ey p.Na 4,ey p.Na 5,p.MZ,p.MN,p.M7,p.Mx,p.Mz,p.MP,l⟩
def pB (a:Bat) (s:Int):Pfx:=⟨a.M4,49+((body a).length:Int),a.MW,s,jN a.M9 a.M2 a.M6,a.MZ,a.MN,a.M7,a.Mx,a.Mz,a.MP,(a.MB.length:Int)⟩
def DW (p:Pfx) (s:AI):Nat:=om 0 (fv p++s)
def pg (a:Bat):Nat:=DW (pB a 0) (body a)
def f6 (a:Bat):AI:=pe (pB a (pg a))++body a
def okB (a:Bat):Prop:=okP (pB a (pg a))/\dz (jN a.M9 a.M2 a.M6)=0/\(∀ x,x∈a.MB->okRc x)/\chk a=0
def rh (p:Pfx) (s:AI):Except Int Bat :=
 if dz p.Na=0 then
  match ob p.Nc.toNat s 0 with
  | .error e=> .error e
  | .ok (l,r)=>if r<s.length then .error 10 else if chk (mkB p l)=0 then .ok (mkB p l) else .error (chk (mkB p l))
 else .error (dz p.Na)
def tH:Pr Bat:=fun s q =>
 match xQ s q with
 | .error e=> .error e
 | .ok (p,r)=>if s.length<r+(p.MY - 49).toNat then .error 1 else
  if ((DW p ((s.drop r).take (p.MY - 49).toNat):Nat):Int)=p.Nb then
   match rh p ((s.drop r).take (p.MY - 49).toNat) with
   | .error e=> .error e
   | .ok b=> .ok (b,r+(p.MY - 49).toNat)
  else .error 5
theorem zT {n:Int} (h:dz n=0):jN (ey n 3) (ey n 4) (ey n 5)=n:=by
 have b:n % 8=0/\0<=n/\n<=63:=by
  unfold dz at h;split at h
  ·cases h
  ·split at h
   ·cases h
   ·omega
 have a:n=0\/n=8\/n=16\/n=24\/n=32\/n=40\/n=48\/n=56:=by omega
 rcases a with rfl | rfl | rfl | rfl | rfl | rfl | rfl | rfl <;> decide
theorem Fb: ∀ a b c:Bool,ey (jN a b c) 3=a/\ey (jN a b c) 4=b/\ey (jN a b c) 5=c:=by decide
theorem IQ {p:Pfx} {s:AI} {b:Bat} (h:rh p s= .ok b) (d:0<=p.Nc):dz p.Na=0/\ ∃ l,b=mkB p l/\s=bJ d8 l/\(l.length:Int)=p.Nc/\(∀ x,x∈l->okRc x)/\chk b=0:=by
 unfold rh at h;by_cases ha:dz p.Na=0
 ·rw[QX ha] at h;refine⟨ha,?_⟩
  cases hr:ob p.Nc.toNat s 0 with
  | error e=>rw[hr] at h; exact nomatch h
  | ok x =>
   obtain⟨l,r⟩:=x;rw[hr] at h;dsimp only at h;by_cases hl:r<s.length
   ·rw[QX hl] at h; exact nomatch h
   rw[QY hl] at h;by_cases hc:chk (mkB p l)=0
   ·rw[QX hc] at h;injection h with h;subst h;obtain⟨f,g,a,i,c⟩:=pS _ s 0 l r (NH _) hr;rw[List.take_of_length_le QR,List.take_zero,NG] at a;exact⟨l,rfl,a,by omega,c,hc⟩
   ·rw[QY hc] at h; exact nomatch h
 ·rw[QY ha] at h; exact nomatch h
theorem pB_mk {p:Pfx} {l:List Rec} (a:(49:Int)+((bJ d8 l).length:Int)=p.MY) (b:dz p.Na=0) (c:(l.length:Int)=p.Nc) (s:Int):pB (mkB p l) s=⟨p.M4,p.MY,p.MW,s,p.Na,p.MZ,p.MN,p.M7,p.Mx,p.Mz,p.MP,p.Nc⟩:=by
 unfold pB mkB body;dsimp only;rw[a,c,zT b]
theorem AZ:Sp tH f6 okB:=by
 refine⟨fun s q b r hq h=> ?_,fun s t q a hq ha hd=> ?_⟩
 ·unfold tH at h
  cases hp:xQ s q with
  | error e=>rw[hp] at h; exact nomatch h
  | ok x =>
   obtain⟨p,m⟩:=x;rw[hp] at h;dsimp only at h;obtain⟨a1,a2,a3,a4,a5,a6,a7,a8⟩:=xR.spell s q p m hq hp;by_cases hl:s.length<m+(p.MY - 49).toNat
   ·rw[QX hl] at h; exact nomatch h
   rw[QY hl] at h;by_cases hs:((DW p ((s.drop m).take (p.MY - 49).toNat):Nat):Int)=p.Nb
   ·rw[QX hs] at h
    cases ho:rh p ((s.drop m).take (p.MY - 49).toNat) with
    | error e=>rw[ho] at h; exact nomatch h
    | ok b' =>
     rw[ho] at h;injection h with h;obtain⟨rfl,rfl⟩:=NU h;obtain⟨c,l,rfl,d,f,k,n⟩:=IQ ho a8;have hn:((s.drop m).take (p.MY - 49).toNat).length=(p.MY - 49).toNat:=by rw[NL,Nx]; omega
     have g:(49:Int)+((bJ d8 l).length:Int)=p.MY:=by rw[<- d,hn]; omega
     have o:((pg (mkB p l):Nat):Int)=p.Nb:=by
      rw[<- hs,d];unfold pg;rw[pB_mk g c f];rfl
     have i:pB (mkB p l) (pg (mkB p l))=p:=by rw[pB_mk g c f,o]
     have j:f6 (mkB p l)=pe p++(s.drop m).take (p.MY - 49).toNat:=by
      unfold f6;rw[i,d];rfl
     have a9:=congrArg List.length a4;refine⟨by omega,by omega,?_,?_,?_⟩
     ·rw[j,Nr,hn]; omega
     ·rw[j,o9,a4,Ny]
     ·refine⟨by rw[i]; exact⟨a5,a6,a7,a8⟩,?_,k,n⟩;show dz (jN (ey p.Na 3) (ey p.Na 4) (ey p.Na 5))=0;rw[zT c];exact c
   ·rw[QY hs] at h; exact nomatch h
 ·obtain⟨u,v,w,y⟩:=ha;unfold f6 at hd;rw[Ny] at hd;have hp:=xR.back s _ q _ hq u hd;have hd2:=cM hd;have hl:=congrArg List.length hd;rw[Nx,Nr,Nr] at hl;have hn:((pB a (pg a)).MY - 49).toNat=(body a).length:=by
   show ((49:Int)+((body a).length:Int) - 49).toNat= _;omega
  have ht:(s.drop (q+(pe (pB a (pg a))).length)).take (body a).length=body a:=by rw[hd2,List.take_left]
  unfold tH;rw[hp];dsimp only;rw[hn,ht,QY QR,QX (show ((DW (pB a (pg a)) (body a):Nat):Int)=(pB a (pg a)).Nb from rfl)];have hr:=zS a.MB (body a) [] 0 (NH _) w (by rw[List.drop_zero,NQ]; rfl);have ho:rh (pB a (pg a)) (body a)= .ok a:=by
   unfold rh;rw[QX (show dz (pB a (pg a)).Na=0 from v),show (pB a (pg a)).Nc.toNat=a.MB.length from rfl,hr];dsimp only;obtain⟨z,A,B⟩:=Fb a.M9 a.M2 a.M6;have e:mkB (pB a (pg a)) a.MB=a:=by
    unfold mkB pB;dsimp only;rw[z,A,B]
   rw[e,QY (by show ¬ 0+(body a).length < _; omega),QX y]
  rw[ho];dsimp only;unfold f6;rw[Nr,Nat.add_assoc]
def zBat:Bat:=⟨0,0,false,false,false,0,0,0,0,0,0,[]⟩
def bnR (r:Rec):Prop:=r.ML.length<=1000000/\r.MX.data.length<=1000000/\r.MM.data.length<=1000000
def bnB (a:Bat):Prop:=AC a/\a.MB.length<=1000000/\ ∀ r,r∈a.MB->bnR r
theorem yg {α:Type} (enc:α->AI): ∀ (l:List α) (x:α),x∈l->(enc x).length<=(bJ enc l).length
 | y::l,x,h=>by
  rw[bJ,Nr];rcases List.mem_cons.1 h with rfl | h
  ·omega
  ·have:=yg enc l x h;omega
theorem yh {α:Type} (enc:α->AI): ∀ (l:List α),(∀ x,x∈l->0<(enc x).length)->l.length<=(bJ enc l).length
 | [],_=>NH _
 | y::l,h=>by
  rw[bJ,Nr,NB];have a:=h y (.head _);have:=yh enc l (fun x hx=>h x (.tail _ hx));omega
theorem Gs (h:Hd):0<(hM h).length:=by
 unfold hM;simp only[Nr];have:=mT (bE (h.MX.length:Int));omega
theorem DX {x:Rec} (h:xZ x) (hl:(d8 x).length<=1000000):Dx x/\bnR x:=by
 obtain⟨_,a,b⟩:=Cm h;have e:(d8 x).length=(du (bE ((dv x).length:Int))).length+(dv x).length:=by unfold d8; rw[Nr]
 have c:(dv x).length<=1000000:=by omega
 simp only[dv,mG,rg,Nr,aH] at c;have g:=yh hM x.ML (fun y _=>Gs y);have hS: ∀ d:AI,d.length<=1000000->wS d:=fun d hd=>by unfold wS; omega
 refine⟨⟨a,b,⟨trivial,hS _ QR⟩,⟨trivial,hS _ QR⟩,by omega,fun y hy=> ?_⟩,by omega,by omega,by omega⟩;have i:=yg hM x.ML y hy;have f:(hM y).length<=1000000:=by omega
 simp only[hM,Nr] at f;exact⟨hS _ QR,trivial,hS _ QR⟩
theorem yi {a:Bat} (h:bnB a):dY a=some (chk a)/\dx a=some (chk a):=by
 obtain⟨cr,c,b,d,_⟩:=xP a h.1 h.2.1 h.2.2;have e:chk a=AR a cr c:=by unfold chk; rw[b]; rfl
 rw[e];exact⟨b,d⟩
theorem Cv (n:Int):bA n 8=decide (A0 n):=by
 rw[Bool.eq_iff_iff];unfold bA;simp only[Bool.and_eq_true,decide_eq_true_eq];have:(2:Int) ^ (8*(8:Int).toNat - 1)=9223372036854775808:=by decide
 omega
theorem wI8 {n:Int} (h:bA n (8:Nat)=true):wI n:=by
 have h':bA n 8=true:=h;rw[Cv] at h';have a:=of_decide_eq_true h';exact a
theorem wI4 {n:Int} (h:bA n (4:Nat)=true): -2147483648<=n/\n<=2147483647:=by
 have h':bA n 4=true:=h;rw[iO] at h';exact of_decide_eq_true h'
theorem wI2 {n:Int} (h:bA n (2:Nat)=true): -32768<=n/\n<=32767:=by
 have h':bA n 2=true:=h;rw[xO] at h';exact of_decide_eq_true h'
theorem sJ {p:Pfx} (hp:okP p) {l:List Rec} (hl: ∀ x,x∈l->okRc x) (hb:(bJ d8 l).length<=1000000):bnB (mkB p l):=by
 obtain⟨⟨e,o,f,_,q,r,g,i,j,b,c,d,m,_⟩,_,_,_⟩:=hp;have a: ∀ {n:Int},bA n (4:Nat)=true->wI n:=fun h=>by have:=wI4 h; unfold wI; omega
 have k: ∀ {n:Int},bA n (2:Nat)=true->wI n:=fun h=>by have:=wI2 h; unfold wI; omega
 have hr: ∀ x,x∈l->Dx x/\bnR x:=fun x hx=>DX (hl x hx).1 (by have:=yg d8 l x hx; omega);have s:=yh d8 l (fun y _=>pR y);exact⟨⟨wI8 e,a f,trivial,trivial,trivial,a g,wI8 i,wI8 j,wI8 b,k c,a d,by show l.length<= _; omega,fun x hx=>(hr x hx).1⟩,by show l.length<= _; omega,fun x hx=>(hr x hx).2⟩
theorem Cw (p:Pfx) (hc:p.Nc<=2147483647) (s:AI) (hs:s.length<=1000000) (y:Int): ∀ (n k fuel:Nat) (acc:List Rec) (q:Nat),((k+n:Nat):Int)=p.Nc->n<fuel->q<=s.length->acc.length<=q ->
 (∃ e,ob n s q= .error e/\e≠0/\eb p fuel y k acc ⟨s.drop q,q,0⟩=some (.ret (zBat,e)))\/(∃ l r,ob n s q= .ok (l,r)/\q<=r/\r<=s.length/\eb p fuel y k acc ⟨s.drop q,q,0⟩=some (.go (y,k+n,acc++l,⟨s.drop r,r,0⟩)))
 | 0,k,fuel+1,acc,q,hk,hf,hq,ha=> .inr ⟨[],q,rfl,N3 _,hq,by rw[eb,QY QR,NQ,Nat.add_zero]⟩
 | n+1,k,fuel+1,acc,q,hk,hf,hq,ha=>by
  rw[eb,QX QR,sV,Nm];dsimp only;rw[Nx,ob];by_cases hz:q=s.length
  ·rw[QX QR];exact .inl ⟨10,Pr.bind_err (QX hz),by decide,rfl⟩
  rw[QY QR,Pr.bind_of (show Cu s q= .ok ((),q) from QY hz)];rcases B_rec.run s q hs hq with⟨e,st,a,c,g,h⟩ | ⟨b,r,a,c,t,j⟩
  ·rw[c,Nm];dsimp only;rw[bt,Nm];dsimp only;rw[QY h];exact .inl ⟨e,Pr.bind_err a,by rw[<- g]; exact h,by rw[g]; rfl⟩
  ·have u:=(AU.spell s q b r hq a).2.2.1;have v:=pR b;rw[c,Nm];dsimp only;rw[bt,Nm];dsimp only;rw[QX rfl,QX QR,QX QR,Pr.bind_of a];rcases Cw p hc s hs y n (k+1) fuel (acc ++ [b]) r QR QR j (by rw[Nr,OA]; omega) with⟨e,d,i,f⟩ | ⟨l,m,d,i,f,o⟩
   ·exact .inl ⟨e,Pr.bind_err d,i,f⟩
   ·exact .inr ⟨b::l,m,by rw[Pr.bind_of d]; rfl,by omega,f,by rw[o,Ny,show k+1+n=k+(n+1) by omega]; rfl⟩
theorem bopen {p:Pfx} (hp:okP p) (s:AI) (hs:s.length<=1000000):(∃ e x,rh p s= .error e/\e≠0/\jD p s=some (x,e))\/(∃ b,rh p s= .ok b/\jD p s=some (b,0)):=by
 obtain⟨f,k,n,o⟩:=id hp;have ha:=wI2 f.2.2.2.2.2.1;have hc:=wI4 f.2.2.2.2.2.2.2.2.2.2.2.2.1;try dsimp only at ha
 unfold jD rh;rw[Dl _ QR,Nm];by_cases a:dz p.Na=0;rotate_left
 ·rw[QY a,QY a];exact .inl ⟨_,_,rfl,a,rfl⟩
 rw[QX a,QX a,FW,Nm];dsimp only;rw[kC _ QR,Nm];rcases Cw p hc.2 s hs 0 p.Nc.toNat 0 (p.Nc.toNat+1) [] 0 QR QR (NH _) (NH _) with⟨e,c,g,d⟩ | ⟨l,m,c,g,d,h⟩
 ·rw[List.drop_zero] at d;rw[d,c];exact .inl ⟨e,_,rfl,g,rfl⟩
 ·rw[List.drop_zero] at h;obtain⟨q,r,i,t,j⟩:=pS _ s 0 l m (NH _) c;rw[h,c,Nm];dsimp only;rw[sV,Nm];dsimp only;rw[Nx];by_cases hl:m<s.length
  ·rw[QX hl,QX (show ((s.length - m:Nat):Int)>0 by omega)];exact .inl ⟨_,_,rfl,by decide,rfl⟩
  ·rw[QY hl,QY (show ¬ ((s.length - m:Nat):Int)>0 by omega)];rw[List.take_of_length_le QR,List.take_zero,NG] at i;have hB:=sJ hp j (by rw[<- i]; exact hs);have e:dY (⟨p.M4,p.MW,ey p.Na 3,ey p.Na 4,ey p.Na 5,p.MZ,p.MN,p.M7,p.Mx,p.Mz,p.MP,[]++l⟩:Bat)=some (chk (mkB p l)):=(yi hB).1;rw[e,Nm];by_cases hk:chk (mkB p l)=0
   ·rw[QX hk,hk];exact .inr ⟨_,rfl,rfl⟩
   ·rw[QY hk];exact .inl ⟨_,_,rfl,hk,rfl⟩
theorem B_bat:CB jE tH zBat:=by
 refine⟨fun st h=> ?_,fun s q hs hq=> ?_⟩
 ·unfold jE;rw[B_pfx.dead st h,Nm];dsimp only;rw[QX QS,oE _ _ QS,Nm];dsimp only;have e:cD st ((0:Int) - 49)=([],st):=QX h;rw[show zP.MY=(0:Int) from rfl,e,bt,Nm];dsimp only;rw[QY h];rfl
 ·unfold jE tH;rcases B_pfx.run s q hs hq with⟨e,st,a,c,k,d⟩ | ⟨p,r,a,c,n,o⟩
  ·refine .inl ⟨e,st,by rw[a],?_,k,d⟩;rw[c,Nm];dsimp only;rw[QX QS,oE _ _ QS,Nm];dsimp only;have e:cD st ((0:Int) - 49)=([],st):=QX d;rw[show zP.MY=(0:Int) from rfl,e,bt,Nm];dsimp only;rw[QY d];rfl
  ·obtain⟨a1,a2,a3,a4,ap⟩:=xR.spell s q p r hq a;obtain⟨f,l,u,v⟩:=id ap;have hL:=wI4 f.2.1;try dsimp only at hL
   have hT: (A0 (p.MY - 49)):=by omega
   rw[c,Nm,a];dsimp only;rw[QX hT,oE _ _ hT,Nm];dsimp only;by_cases hl:s.length<r+(p.MY - 49).toNat
   ·have e:cD ⟨s.drop r,r,0⟩ (p.MY - 49)=([],⟨s.drop r,r,1⟩):=by
     unfold cD;rw[QY (by simp),QY QR,QX (by rw[Nx]; omega)]
    rw[QX hl,e,bt,Nm];exact .inl ⟨1,⟨s.drop r,r,1⟩,rfl,rfl,rfl,by show (1:Int)≠0; decide⟩
   have e:cD ⟨s.drop r,r,0⟩ (p.MY - 49)=((s.drop r).take (p.MY - 49).toNat,⟨s.drop (r+(p.MY - 49).toNat),r+(p.MY - 49).toNat,0⟩):=by
    unfold cD;rw[QY (by simp),QY QR,QY (by rw[Nx]; omega),Oa]
   rw[QY hl,e,bt,Nm];dsimp only;have hn:((s.drop r).take (p.MY - 49).toNat).length=(p.MY - 49).toNat:=by rw[NL,Nx]; omega
   generalize (s.drop r).take (p.MY - 49).toNat=b at hn;have hlen:(pe p).length=61:=re f;rw[QX rfl,xS [] ⟨f,l⟩ QS,Nm,NG,lv,Nm];dsimp only;rw[xq,EW,Nm];dsimp only;rw[QX (show 21<=(pe p).length by omega)];have m:(fv p).length<=61:=by rw[<- pf p,Nx]; omega
   have hs2 : [fv p,b].flatten=fv p++b:=by simp
   rw[pf,EY [fv p,b] (by intro t ht; rcases List.mem_cons.1 ht with rfl | ht; omega; rw[List.mem_singleton.1 ht]; omega),Nm,hs2];dsimp only;have hlt:om 0 (fv p++b)<4294967296:=wA QS _;rw[QX (show (A0 ((om 0 (fv p++b):Nat):Int)) by omega)];by_cases hsum:((DW p b:Nat):Int)=p.Nb;rotate_left
   ·rw[QY hsum,QY (show ¬ ((om 0 (fv p++b):Nat):Int)=p.Nb from hsum),dD,Nm];exact .inl ⟨5,_,rfl,rfl,rfl,by show (5:Int)≠0; decide⟩
   rw[QX hsum,QX (show ((om 0 (fv p++b):Nat):Int)=p.Nb from hsum)];rcases bopen ap b QR with⟨e,x,g,j,i⟩ | ⟨x,g,i⟩
   ·rw[g,i,Nm];dsimp only;rw[QY j,dD,Nm];exact .inl ⟨e,_,rfl,rfl,rfl,j⟩
   ·rw[g,i,Nm];dsimp only;rw[QX rfl];exact .inr ⟨x,_,rfl,rfl,by omega,by omega⟩
theorem ri: ∀ {l:List Rec},f8 l=0-> ∀ r,r∈l->f7 r=0
 | x::l,h,r,hr=>by
  rw[f8] at h;by_cases hx:f7 x=0
  ·rw[QX hx] at h;rcases List.mem_cons.1 hr with rfl | hr
   ·exact hx
   ·exact ri h r hr
  ·rw[QY hx] at h;exact absurd h hx
theorem vc {a:Bat} (h:bnB a) (b:chk a=0):mj a/\jU a/\(a.M6=true->a.M2=true/\(a.MB.length:Int)=1)/\ ∀ r,r∈a.MB->f7 r=0:=by
 obtain⟨cr,c,d,f,g,i⟩:=xP a h.1 h.2.1 h.2.2;have e:chk a=AR a cr c:=by unfold chk; rw[d]; rfl
 rw[e] at b;unfold AR at b;by_cases hn:mj a;rotate_left
 ·rw[QY hn] at b; exact absurd b QS
 rw[QX hn] at b;by_cases hc:a.M6=true
 ·rw[QX hc] at b;by_cases ht:a.M2=true;rotate_left
  ·rw[QY ht] at b; exact absurd b QS
  rw[QX ht] at b;by_cases hp:jU a;rotate_left
  ·rw[QY hp] at b; exact absurd b QS
  rw[QX hp] at b;by_cases hl:(a.MB.length:Int)=1;rotate_left
  ·rw[QY hl] at b; exact absurd b QS
  rw[QX hl] at b;by_cases hf:f8 a.MB=0;rotate_left
  ·rw[QY hf] at b; exact absurd b hf
  exact⟨hn,hp,fun _=>⟨ht,hl⟩,ri hf⟩
 ·rw[QY hc] at b;by_cases hp:jU a;rotate_left
  ·rw[QY hp] at b; exact absurd b QS
  rw[QX hp] at b;by_cases hf:f8 a.MB=0;rotate_left
  ·rw[QY hf] at b; exact absurd b hf
  exact⟨hn,hp,fun h=>absurd h hc,ri hf⟩
theorem Ke: ∀ a t c:Bool,(c=true->t=true)->dz (jN a t c)=0:=by decide
theorem Gu: ∀ a t c:Bool,0<=jN a t c/\jN a t c<=56:=by decide
theorem Fc {n:Int} (h:wI n):bA n (8:Nat)=true:=by
 show bA n 8=true;rw[Cv];exact Nn h
theorem zU {n:Int} (h: -2147483648<=n/\n<=2147483647):bA n (4:Nat)=true:=by
 show bA n 4=true;rw[iO];exact Nn h
theorem fits2 {n:Int} (h: -32768<=n/\n<=32767):bA n (2:Nat)=true:=by
 show bA n 2=true;rw[xO];exact Nn h
def smB (a:Bat):Prop:=bnB a/\(∀ r,r∈a.MB->rwt r<=900000)/\(body a).length<=900000
theorem IR {a:Bat} (h:jU a):(-32768<=a.Mz/\a.Mz<=32767)/\(-2147483648<=a.MP/\a.MP<=2147483647):=by
 unfold jU at h;split at h
 ·omega
 ·split at h <;> omega
theorem DY {a:Bat} (hb:smB a) (b:chk a=0) (s:Nat) (hs:s<4294967296):okP (pB a s):=by
 obtain⟨hn,hp,hc,hr⟩:=vc hb.1 b;obtain⟨k,l,m,n,o,p⟩:=hn;obtain⟨w1,q,_,_,_,r,c,d,e,h,i,j⟩:=hb.1.1;obtain⟨f,g⟩:=IR hp;have hl:=hb.2.2;have hcount:=hb.1.2.1;have ha:=Gu a.M9 a.M2 a.M6;have hs2: -2147483648<=s32 (s:Int)/\s32 (s:Int)<=2147483647:=by unfold s32; split <;> omega
 refine⟨⟨Fc w1,zU ⟨?_,?_⟩,zU ⟨?_,?_⟩,rfl,zU hs2,fits2 ⟨?_,?_⟩,zU ⟨?_,?_⟩,Fc c,Fc d,Fc e,fits2 f,zU g,zU ⟨?_,?_⟩,trivial⟩,⟨?_,?_⟩,?_,?_⟩;all_goals (try unfold pB) <;> (try dsimp only) <;> omega
theorem Fd (a:Bat):pg a<4294967296:=wA QS _
theorem okB_of {a:Bat} (hb:smB a) (b:chk a=0):okB a:=by
 obtain⟨hn,hp,hc,hr⟩:=vc hb.1 b;refine⟨DY hb b _ (Fd a),Ke _ _ _ (fun h=>(hc h).1),fun x hx=> ?_,b⟩;exact Iy (hb.1.1.2.2.2.2.2.2.2.2.2.2.2.2 x hx).1 (hr x hx) (hb.2.1 x hx)
theorem rz {a:Bat} (h:okB a):(f6 a).length=61+(body a).length:=by
 unfold f6;rw[Nr,re h.1.1]
theorem Fe: ∀ (l:List Rec) (t:AI),(∀ x,x∈l->wI x.M5/\wI x.MS/\rwt x<=900000/\f7 x=0)->t.length+(bJ d8 l).length<=1000000->eG l (t,0)=some (t++bJ d8 l,0)
 | [],t,_,_=>by rw[bJ,NQ]; rfl
 | x::l,t,h,hl=>by
  obtain⟨a,b,c,d⟩:=h x (.head _);rw[bJ,Nr] at hl;rw[eG,Gm x t a b c QR,QX d,Nm,Fe l _ (fun y hy=>h y (.tail _ hy)) (by rw[Nr]; omega),bJ,Ny]
theorem benc {a:Bat} (hb:smB a):jt a=some (if chk a=0 then (f6 a,0) else ([],chk a)):=by
 unfold jt;rw[(yi hb.1).1,Nm];by_cases b:chk a=0;rotate_left
 ·rw[QY b,QY b]
 obtain⟨hn,hp,hc,hr⟩:=vc hb.1 b;have hl:=hb.2.2;have hw: ∀ x,x∈a.MB->wI x.M5/\wI x.MS/\rwt x<=900000/\f7 x=0:=fun x hx=>⟨(hb.1.1.2.2.2.2.2.2.2.2.2.2.2.2 x hx).1,(hb.1.1.2.2.2.2.2.2.2.2.2.2.2.2 x hx).2.1,hb.2.1 x hx,hr x hx⟩;have hlb:(bJ d8 a.MB).length<=900000:=hl;rw[QX b,QX b,Fe a.MB [] hw (by rw[Ov]; omega),Nm,NG,lv,Nm];dsimp only;rw[xq];dsimp only;rw[QX (show (A0 (49+((bJ d8 a.MB).length:Int))) by omega),JJ,Nm];have hP0:okP (pB a 0):=DY hb b 0 QS;have c:dA ([],0) (pB a 0)=some (pe (pB a 0),0):=by
  have:=xS [] (p:=pB a 0) ⟨hP0.1,hP0.2.1⟩ QS
  rwa [NG] at this
 have e0':dA ([],0) (⟨a.M4,(49+((bJ d8 a.MB).length:Int)),a.MW,0,jN a.M9 a.M2 a.M6,a.MZ,a.MN,a.M7,a.Mx,a.Mz,a.MP,(a.MB.length:Int)⟩:Pfx)=some (pe (pB a 0),0):=c;rw[e0',Nm,lv,Nm];dsimp only;rw[xq];dsimp only;rw[QX rfl,QX rfl,Nm,QY QS,EW,Nm];have d:=re hP0.1;have e:(fv (pB a 0)).length<=61:=by rw[<- pf,Nx]; omega
 have hs2 : [fv (pB a 0),bJ d8 a.MB].flatten=fv (pB a 0)++bJ d8 a.MB:=by simp
 rw[QX (show 21<=(pe (pB a 0)).length by omega),pf,EY [fv (pB a 0),bJ d8 a.MB] (by intro t ht; rcases List.mem_cons.1 ht with rfl | ht; omega; rw[List.mem_singleton.1 ht]; omega),Nm,hs2];dsimp only;have hlt:=Fd a;have hsum:om 0 (fv (pB a 0)++bJ d8 a.MB)=pg a:=rfl;rw[hsum,QX (show (A0 ((pg a:Nat):Int)) by omega)];have hP:=DY hb b _ hlt;have f:dA ([],0) (⟨a.M4,(49+((bJ d8 a.MB).length:Int)),a.MW,((pg a:Nat):Int),jN a.M9 a.M2 a.M6,a.MZ,a.MN,a.M7,a.Mx,a.Mz,a.MP,(a.MB.length:Int)⟩:Pfx)=some (pe (pB a (pg a)),0):=by
  have:=xS [] (p:=pB a (pg a)) ⟨hP.1,hP.2.1⟩ QS
  rwa [NG] at this
 have hp61':=re hP.1;rw[f,Nm,BB _ _ (by dsimp only; omega),og,Nm,lv,Nm];dsimp only;rw[xq];rfl
def sK:List Rec->List Rec->Bool
 | x::l,y::m=>zM x y && sK l m
 | _,_=>true
def yj (a b:Bat):Bool:=decide (a.M4=b.M4/\a.MW=b.MW/\a.M9=b.M9/\a.M2=b.M2/\a.M6=b.M6/\a.MZ=b.MZ/\a.MN=b.MN/\a.M7=b.M7/\a.Mx=b.Mx/\a.Mz=b.Mz/\a.MP=b.MP/\a.MB.length=b.MB.length) && sK a.MB b.MB
theorem vC: ∀ l:List Rec,sK l l=true
 | []=>rfl
 | x::l=>by rw[sK,DS,vC l]; rfl
theorem DZ (a:Bat):yj a a=true:=by
 unfold yj;rw[vC];simp
theorem Ff (a b:Bat) (hn:a.MB.length<=1000000) (y:Bool): ∀ (l m:List Rec) (k fuel:Nat),a.MB.drop k=l->b.MB.drop k=m->l.length=m.length->l.length<fuel->(∀ x,x∈l->x.ML.length<=1000000)-> ∃ z,fE a b fuel y k=some (if sK l m=true then .go (y,z) else .ret false)
 | [],m,k,fuel+1,c,d,hl,hf,_=>by
  have:=eK c;exact⟨k,by rw[fE,QY QR]; rfl⟩
 | x::l,v::m,k,fuel+1,c,d,hl,hf,hw=>by
  obtain⟨e,f,i⟩:=dj c;obtain⟨g,h,j⟩:=dj d;rw[NB] at hf;rw[NB,NB] at hl;obtain⟨z,hz⟩:=Ff a b hn y l m (k+1) fuel f h QR QR (fun u hu=>hw u (.tail _ hu));refine⟨z,?_⟩;rw[fE,QX QR,e,Nm,g,Nm,Ix x v (hw x (.head _)),Nm,sK,QX (show (A0 ((k:Int)+1)) by omega),hz];cases zM x v <;> rfl
theorem IU {a b:Bat} (hn:a.MB.length<=1000000) (hw: ∀ x,x∈a.MB->x.ML.length<=1000000):ne a b=some (yj a b):=by
 have hL: ∀ o:Option Bool,o=some (yj a b)\/True:=fun _=> .inr trivial;unfold ne yj;by_cases f:a.M4=b.M4;rotate_left
 ·rw[QY f,Nm,QX rfl,Np (fun h=>f h.1)]; rfl
 by_cases c2:a.MW=b.MW;rotate_left
 ·rw[QX f,QY c2,Nm,QX rfl,Np (fun h=>c2 h.2.1)]; rfl
 by_cases k:a.M9=b.M9;rotate_left
 ·rw[QX f,QX c2,QY (by simpa using k),Nm,QX rfl,Np (fun h=>k h.2.2.1)]; rfl
 by_cases l:a.M2=b.M2;rotate_left
 ·rw[QX f,QX c2,QX (by simpa using k),QY (by simpa using l),Nm,QX rfl,Np (fun h=>l h.2.2.2.1)]; rfl
 by_cases n:a.M6=b.M6;rotate_left
 ·rw[QX f,QX c2,QX (by simpa using k),QX (by simpa using l),QY (by simpa using n),Nm,QX rfl,Np (fun h=>n h.2.2.2.2.1)]; rfl
 rw[QX f,QX c2,QX (by simpa using k),QX (by simpa using l),QX (by simpa using n)];by_cases c:a.MZ=b.MZ;rotate_left
 ·rw[QY c,Nm,QX rfl,Np (fun h=>c h.2.2.2.2.2.1)]; rfl
 by_cases e:a.MN=b.MN;rotate_left
 ·rw[QX c,QY e,Nm,QX rfl,Np (fun h=>e h.2.2.2.2.2.2.1)]; rfl
 by_cases g:a.M7=b.M7;rotate_left
 ·rw[QX c,QX e,QY g,Nm,QX rfl,Np (fun h=>g h.2.2.2.2.2.2.2.1)]; rfl
 by_cases j:a.Mx=b.Mx;rotate_left
 ·rw[QX c,QX e,QX g,QY j,Nm,QX rfl,Np (fun h=>j h.2.2.2.2.2.2.2.2.1)]; rfl
 by_cases d:a.Mz=b.Mz;rotate_left
 ·rw[QX c,QX e,QX g,QX j,QY d,Nm,QX rfl,Np (fun h=>d h.2.2.2.2.2.2.2.2.2.1)]; rfl
 by_cases i:a.MP=b.MP;rotate_left
 ·rw[QX c,QX e,QX g,QX j,QX d,QY i,Nm,QX rfl,Np (fun h=>i h.2.2.2.2.2.2.2.2.2.2.1)]; rfl
 by_cases m:a.MB.length=b.MB.length;rotate_left
 ·rw[QX c,QX e,QX g,QX j,QX d,QX i,QY QR,Nm,QX rfl,Np (fun h=>m h.2.2.2.2.2.2.2.2.2.2.2)]; rfl
 obtain⟨z,hz⟩:=Ff a b hn false a.MB b.MB 0 (((a.MB.length:Int)).toNat+1) rfl rfl m QR hw;rw[QX c,QX e,QX g,QX j,QX d,QX i,QX QR,Nm,QY QS,hz,Nn ⟨f,c2,k,l,n,c,e,g,j,d,i,m⟩,Bool.true_and];cases sK a.MB b.MB <;> rfl
theorem IV (a:Bat) (s:Int):mkB (pB a s) a.MB=a:=by
 obtain⟨b,c,d⟩:=Fb a.M9 a.M2 a.M6;unfold mkB pB;dsimp only;rw[b,c,d]
theorem yk {b:Bat} (h:okB b) (hl:(f6 b).length<=1000000):bnB b:=by
 have a:=sJ h.1 h.2.2.1 (by have:=rz h; unfold body at this; omega)
 rwa [IV] at a
def oq:List Bat->List Bat->Bool
 | x::l,y::m=>yj x y && oq l m
 | _,_=>true
def qsP (p q:bh):Bool:=decide (p.MR=q.MR/\p.MK.length=q.MK.length) && oq p.MK q.MK
def D0:List bh->List bh->Bool
 | x::l,y::m=>qsP x y && D0 l m
 | _,_=>true
def qsT (t u:aN):Bool:=decide (t.MI=u.MI/\t.My.length=u.My.length) && D0 t.My u.My
def D1:List aN->List aN->Bool
 | x::l,y::m=>qsT x y && D1 l m
 | _,_=>true
def Cx (a b:aB):Bool:=decide (a.MD.null=b.MD.null/\a.MD.data=b.MD.data/\a.MV=b.MV/\a.MC=b.MC/\a.Mw.length=b.Mw.length) && D1 a.Mw b.Mw
theorem vD: ∀ l:List Bat,oq l l=true
 | []=>rfl
 | x::l=>by rw[oq,DZ,vD l]; rfl
theorem zV: ∀ l:List bh,D0 l l=true
 | []=>rfl
 | x::l=>by rw[D0,qsP,vD,zV l,Nn ⟨rfl,rfl⟩]; rfl
theorem zW: ∀ l:List aN,D1 l l=true
 | []=>rfl
 | x::l=>by rw[D1,qsT,zV,zW l,Nn ⟨rfl,rfl⟩]; rfl
theorem yl (a:aB):Cx a a=true:=by
 unfold Cx;rw[zW,Nn ⟨rfl,rfl,rfl,rfl,rfl⟩]; rfl
def ofP (p:bh):en:=⟨p.MR,p.MK⟩
def ofT (t:aN):cz:=⟨t.MI,t.My.map ofP⟩
def ofQ (a:aB):aQ:=⟨a.MD,a.MV,a.MC,a.Mw.map ofT⟩
theorem Fg: ∀ (l:List bh) (acc:List en),(acc.length+l.length)*32<=140737488355328->jb l acc=some (acc++l.map ofP)
 | [],acc,_=>by rw[List.map_nil,NQ]; rfl
 | x::l,acc,h=>by
  rw[NB] at h;rw[jb,QX QR,Fg l _ (by rw[Nr,OA]; omega),Ny];rfl
theorem Fh: ∀ (l:List aN) (acc:List cz),(acc.length+l.length)*40<=140737488355328->(∀ t,t∈l->t.My.length*32<=140737488351232)->jc l acc=some (acc++l.map ofT)
 | [],acc,_,_=>by rw[List.map_nil,NQ]; rfl
 | x::l,acc,h,hp=>by
  have hx:=hp x (.head _);rw[NB] at h;rw[jc,Fg x.My [] (by rw[Ov]; omega),Nm,QX QR,Fh l _ (by rw[Nr,OA]; omega) (fun t ht=>hp t (.tail _ ht)),Ny];rfl
theorem zX (a b:List Bat) (hn:a.length<=140737488351232) (y:Bool): ∀ (l m:List Bat) (k fuel:Nat),a.drop k=l->b.drop k=m->l.length=m.length->l.length<fuel->(∀ x,x∈l->bnB x)-> ∃ z,fF a b fuel y k=some (if oq l m=true then .go (y,z) else .ret false)
 | [],m,k,fuel+1,c,d,hl,hf,_=>by
  have:=eK c;exact⟨k,by rw[fF,QY QR]; rfl⟩
 | x::l,v::m,k,fuel+1,c,d,hl,hf,hw=>by
  obtain⟨e,f,i⟩:=dj c;obtain⟨g,h,j⟩:=dj d;have hx:=hw x (.head _);rw[NB] at hf;rw[NB,NB] at hl;obtain⟨z,hz⟩:=zX a b hn y l m (k+1) fuel f h QR QR (fun u hu=>hw u (.tail _ hu));refine⟨z,?_⟩;rw[fF,QX QR,e,Nm,g,Nm,IU hx.2.1 (fun z hz=>(hx.2.2 z hz).1),Nm,oq,QX (show (A0 ((k:Int)+1)) by omega),hz];cases yj x v <;> rfl
theorem IW {a b:List Bat} (hn:a.length<=140737488351232) (hw: ∀ x,x∈a->bnB x):ly a b=some (decide (a.length=b.length) && oq a b):=by
 unfold ly;by_cases c:a.length=b.length
 ·obtain⟨z,hz⟩:=zX a b hn false a b 0 (((a.length:Int)).toNat+1) rfl rfl c QR hw;rw[QX QR,hz,Nn c,Bool.true_and];cases oq a b <;> rfl
 ·rw[QY QR,Np c];rfl
def bnT (t:aN):Prop:=t.My.length<=140737488351232/\ ∀ p,p∈t.My->p.MK.length<=140737488351232/\ ∀ b,b∈p.MK->bnB b
theorem Fi (t u:aN) (hn:t.My.length<=140737488351232) (y:Bool): ∀ (l m:List bh) (k fuel:Nat),t.My.drop k=l->u.My.drop k=m->l.length=m.length->l.length<fuel->(∀ p,p∈l->p.MK.length<=140737488351232/\ ∀ b,b∈p.MK->bnB b)-> ∃ z,e9 (ofT t) (ofT u) fuel y k=some (if D0 l m=true then .go (y,z) else .ret false)
 | [],m,k,fuel+1,c,d,hl,hf,_=>by
  have:=eK c;exact⟨k,by rw[e9,QY (by show ¬ (k:Int)<((t.My.map ofP).length:Int); rw[N2]; omega)]; rfl⟩
 | x::l,v::m,k,fuel+1,c,d,hl,hf,hw=>by
  obtain⟨e,f,r⟩:=dj c;obtain⟨g,i,s⟩:=dj d;have hx:=hw x (.head _);rw[NB] at hf;rw[NB,NB] at hl;obtain⟨z,hz⟩:=Fi t u hn y l m (k+1) fuel f i QR QR (fun q hq=>hw q (.tail _ hq));refine⟨z,?_⟩;have j:(ofT t).My[k]? = some (ofP x):=by show (t.My.map ofP)[k]? = _; rw[List.getElem?_map,e]; rfl
  have n:(ofT u).My[k]? = some (ofP v):=by show (u.My.map ofP)[k]? = _; rw[List.getElem?_map,g]; rfl
  have o:ly (ofP x).MK (ofP v).MK=some (decide (x.MK.length=v.MK.length) && oq x.MK v.MK):=IW hx.1 hx.2;rw[e9,QX (by show (k:Int)<((t.My.map ofP).length:Int); rw[N2]; omega),j,Nm,n,Nm,o,QX (show (A0 ((k:Int)+1)) by omega),hz,D0,qsP];show ((if x.MR=v.MR then _ else some true).bind _)= _;by_cases a:x.MR=v.MR
  ·rw[QX a,Nm];by_cases c2:x.MK.length=v.MK.length
   ·rw[Nn c2,Nn (⟨a,c2⟩:x.MR=v.MR/\x.MK.length=v.MK.length)];cases oq x.MK v.MK <;> rfl
   ·rw[Np c2,Np (fun h:x.MR=v.MR/\x.MK.length=v.MK.length=>c2 h.2)];rfl
  ·rw[QY a,Np (fun h:x.MR=v.MR/\x.MK.length=v.MK.length=>a h.1)];rfl
theorem Fj (a b:aB) (hn:a.Mw.length<=140737488351232) (y:Bool): ∀ (l m:List aN) (k fuel:Nat),a.Mw.drop k=l->b.Mw.drop k=m->l.length=m.length->l.length<fuel->(∀ t,t∈l->bnT t)-> ∃ z,fa (ofQ a) (ofQ b) fuel y k=some (if D1 l m=true then .go (y,z) else .ret false)
 | [],m,k,fuel+1,d,e,hl,hf,_=>by
  have:=eK d;exact⟨k,by rw[fa,QY (by show ¬ (k:Int)<((a.Mw.map ofT).length:Int); rw[N2]; omega)]; rfl⟩
 | x::l,v::m,k,fuel+1,d,e,hl,hf,hw=>by
  obtain⟨g,i,u⟩:=dj d;obtain⟨j,n,w⟩:=dj e;have hx:=hw x (.head _);rw[NB] at hf;rw[NB,NB] at hl;obtain⟨z,hz⟩:=Fj a b hn y l m (k+1) fuel i n QR QR (fun q hq=>hw q (.tail _ hq));refine⟨z,?_⟩;have o:(ofQ a).Mw[k]? = some (ofT x):=by show (a.Mw.map ofT)[k]? = _; rw[List.getElem?_map,g]; rfl
  have p:(ofQ b).Mw[k]? = some (ofT v):=by show (b.Mw.map ofT)[k]? = _; rw[List.getElem?_map,j]; rfl
  have r:(ofT x).My.length=x.My.length:=N2 _;have s:(ofT v).My.length=v.My.length:=N2 _;rw[fa,QX (by show (k:Int)<((a.Mw.map ofT).length:Int); rw[N2]; omega),o,Nm,p,Nm,r,s,D1,qsT];show ((if x.MI=v.MI then _ else some true).bind _)= _;by_cases c:x.MI=v.MI
  ·rw[QX c];by_cases c2:x.My.length=v.My.length
   ·obtain⟨A,f⟩:=Fi x v hx.1 y x.My v.My 0 (((x.My.length:Int)).toNat+1) rfl rfl c2 QR hx.2;rw[QX QR,Nm,QY QS,f,Nn (⟨c,c2⟩:x.MI=v.MI/\x.My.length=v.My.length),Bool.true_and];cases D0 x.My v.My
    ·rfl
    ·rw[QX rfl,Nm];dsimp only;rw[QX (show (A0 ((k:Int)+1)) by omega),hz];rfl
   ·rw[QY QR,Nm,QX rfl,Np (fun h:x.MI=v.MI/\x.My.length=v.My.length=>c2 h.2)];rfl
  ·rw[QY c,Nm,QX rfl,Np (fun h:x.MI=v.MI/\x.My.length=v.My.length=>c h.1)];rfl
theorem IX {a b:aB} (hn:a.Mw.length<=140737488351232) (hw: ∀ t,t∈a.Mw->bnT t):eg (ofQ a) (ofQ b)=some (Cx a b):=by
 have g:(ofQ a).Mw.length=a.Mw.length:=N2 _;have i:(ofQ b).Mw.length=b.Mw.length:=N2 _;unfold eg Cx;rw[g,i];show ((if a.MD.null=b.MD.null then (if a.MD.data=b.MD.data then (if a.MV=b.MV then (if a.MC=b.MC then _ else some true) else some true) else some true) else some true).bind _)= _;by_cases c:a.MD.null=b.MD.null;rotate_left
 ·rw[QY c,Nm,QX rfl,Np (fun h=>c h.1)]; rfl
 by_cases c2:a.MD.data=b.MD.data;rotate_left
 ·rw[QX c,QY c2,Nm,QX rfl,Np (fun h=>c2 h.2.1)]; rfl
 by_cases d:a.MV=b.MV;rotate_left
 ·rw[QX c,QX c2,QY d,Nm,QX rfl,Np (fun h=>d h.2.2.1)]; rfl
 by_cases e:a.MC=b.MC;rotate_left
 ·rw[QX c,QX c2,QX d,QY e,Nm,QX rfl,Np (fun h=>e h.2.2.2.1)]; rfl
 by_cases f:a.Mw.length=b.Mw.length;rotate_left
 ·rw[QX c,QX c2,QX d,QX e,QY QR,Nm,QX rfl,Np (fun h=>f h.2.2.2.2)]; rfl
 obtain⟨z,hz⟩:=Fj a b hn false a.Mw b.Mw 0 (((a.Mw.length:Int)).toNat+1) rfl rfl f QR hw;rw[QX c,QX c2,QX d,QX e,QX QR,Nm,QY QS,hz,Nn ⟨c,c2,d,e,f⟩,Bool.true_and];cases D1 a.Mw b.Mw <;> rfl
theorem ym (a b:AI) (ha:a.length<=140737488355328) (y:Bool): ∀ (u v:AI) (k fuel:Nat),a.drop k=u->b.drop k=v->v.length<fuel->k<=a.length->k<=b.length->(∃ r,cJ a b fuel y k=some (.ret r)/\r=Op.bytesLess u v)\/(∃ z,cJ a b fuel y k=some (.go z)/\Op.bytesLess u v=decide (a.length<b.length))
 | [],v,k,fuel+1,hu,hv,hf,e,f=>by
  have:=gx hu;right;refine⟨(y,k),by rw[cJ,QY QR],?_⟩
  cases v with
  | nil =>
   have:=gx hv;simp[Op.bytesLess];omega
  | cons c v =>
   have:=(ec hv).2.2;simp[Op.bytesLess];omega
 | c::u,[],k,fuel+1,hu,hv,hf,e,f=>by
  have j:=gx hv;have l:=(ec hu).2.2;right;refine⟨(y,k),by rw[cJ,QX QR,QY QR],?_⟩;simp[Op.bytesLess];omega
 | c::u,d::v,k,fuel+1,hu,hv,hf,e,f=>by
  obtain⟨g,i,m⟩:=ec hu;obtain⟨v1,v2,v3⟩:=ec hv;rw[NB] at hf;rw[cJ,QX QR,QX QR,g,v1];simp only[Nm];by_cases hc:(c.toNat:Int)=(d.toNat:Int)
  ·have hcd:c=d:=UInt8.toNat_inj.1 QR;rw[QX hc,QX QR];have:=ym a b ha y u v (k+1) fuel i v2 QR QR QR;have hb:Op.bytesLess (c::u) (d::v)=Op.bytesLess u v:=by
    rw[hcd];simp[Op.bytesLess]
   rw[hb];exact this
  ·rw[QY hc];left;have hcd:c≠d:=fun h=>hc (by rw[h]);by_cases hl:(c.toNat:Int)<(d.toNat:Int)
   ·refine⟨true,by rw[QX hl],?_⟩;have:c<d:=UInt8.lt_iff_toNat_lt.2 QR;simp[Op.bytesLess,this]
   ·refine⟨false,by rw[QY hl],?_⟩;have: ¬ c<d:=fun h=>hl (by have:=UInt8.lt_iff_toNat_lt.1 h; omega);simp[Op.bytesLess,this,hcd]
theorem IY (a b:AI) (ha:a.length<=140737488355328):jf a b=some (Op.bytesLess a b):=by
 unfold jf;rcases ym a b ha false a b 0 (((b.length:Int)).toNat+1) rfl rfl QR (NH _) (NH _) with⟨r,c,d⟩ | ⟨z,c,d⟩
 ·rw[show ((0:Nat))=0 from rfl] at c;rw[c,d];rfl
 ·rw[c,d];simp only[Nm];by_cases h:a.length<b.length
  ·rw[QX QR];simp[h]
  ·rw[QY QR];simp[h]
theorem Cy (x:Top) (hb:x.My.length<=140737488355328) (y:Bool): ∀ (t:List Int) (p:Option Int) (k fuel:Nat),x.My.drop k=t->t.length<fuel->(k=0->p=none)->(0<k->x.My[k - 1]? = p/\p≠none)-> ∃ z,cK x fuel y k=some (if (t.all okn && up ltI p t)=true then .go (y,z) else .ret false)
 | [],p,k,fuel+1,h,hf,b,c=>by
  have:=gx h;refine⟨k,?_⟩;rw[cK,QY QR];cases p <;> rfl
 | n::t,p,k,fuel+1,h,hf,b,c=>by
  obtain⟨d,e,i⟩:=ec h;rw[NB] at hf;obtain⟨z,hz⟩:=Cy x hb y t (some n) (k+1) fuel e QR (fun h=>absurd h QR) (fun _=>⟨d,by simp⟩);rw[cK,QX QR,d];simp only[Nm];rw[List.all_cons];by_cases a:n<0
  ·refine⟨0,?_⟩;rw[QX a,QY];simp only[okn,Bool.and_eq_true,decide_eq_true_eq];omega
  by_cases c2:n>2147483647
  ·refine⟨0,?_⟩;rw[QY a,QX c2,QY];simp only[okn,Bool.and_eq_true,decide_eq_true_eq];omega
  rw[QY a,QY c2];have ho:okn n=true:=by simp only[okn,Bool.and_eq_true,decide_eq_true_eq]; omega
  rcases Nat.eq_zero_or_pos k with hk | hk
  ·obtain rfl:=b hk;refine⟨z,?_⟩;rw[QY QR,QX QR,hz,ho,Bool.true_and,show up ltI none (n::t)=up ltI (some n) t from rfl]
  ·obtain⟨f,g⟩:=c hk;rw[QX QR,QX QR,QX QR,show ((k:Int) - 1).toNat=k - 1 by omega,f]
   cases p with
   | none=>exact absurd rfl g
   | some q =>
    simp only[Nm];by_cases hc:q<n
    ·refine⟨z,?_⟩;rw[QY QR,QX QR,hz,ho,Bool.true_and];simp only[up,ltI,hc,decide_true,Bool.true_and]
    ·refine⟨0,?_⟩;rw[QX QR,QY];simp only[up,ltI,hc,decide_false,Bool.false_and,Bool.and_false,Bool.false_eq_true,not_false_eq_true]
theorem Cz (a0:List Top) (hb:a0.length<=140737488355328) (hw: ∀ t,t∈a0->t.My.length<=140737488355328/\t.MI.length<=140737488355328) (y:Bool): ∀ (t:List Top) (p:Option Top) (k fuel:Nat),a0.drop k=t->t.length<fuel->(k=0->p=none)->(0<k->a0[k - 1]? = p/\p≠none)-> ∃ z,cT a0 fuel y k=some (if (t.all mi && up Op.bytesLess (p.map (·.MI)) (t.map (·.MI)))=true then .go (y,z) else .ret false)
 | [],p,k,fuel+1,h,hf,f,g=>by
  have:=gx h;refine⟨k,?_⟩;rw[cT,QY QR];cases p <;> rfl
 | x::t,p,k,fuel+1,h,hf,f,g=>by
  obtain⟨e,j,m⟩:=ec h;have hx:=hw x (List.mem_of_getElem? e);rw[NB] at hf;obtain⟨z,hz⟩:=Cz a0 hb hw y t (some x) (k+1) fuel j QR (fun h=>absurd h QR) (fun _=>⟨e,by simp⟩);rw[cT,QX QR,e,Nm];rw[List.all_cons,List.map_cons];by_cases a:(x.MI.length:Int)<1
  ·refine⟨0,?_⟩;have:x.MI = []:=List.length_eq_zero_iff.1 QR;rw[QX a,QY];simp[mi,this]
  by_cases c2:(x.MI.length:Int)>32767
  ·refine⟨0,?_⟩;rw[QY a,QX c2,QY];simp[mi,show ¬ x.MI.length<=32767 by omega]
  by_cases b:(x.My.length:Int)<1
  ·refine⟨0,?_⟩;have:x.My = []:=List.length_eq_zero_iff.1 QR;rw[QY a,QY c2,QX b,QY];simp[mi,xy,this]
  rw[QY a,QY c2,QY b];have hne:x.MI.isEmpty=false:=by cases hh:x.MI with | nil=>rw[hh] at a; simp at a | cons c u=>rfl
  have hnp:x.My.isEmpty=false:=by cases hh:x.My with | nil=>rw[hh] at b; simp at b | cons c u=>rfl
  have ho:mi x=(x.My.all okn && up ltI none x.My):=by
   simp[mi,xy,hne,hnp,show x.MI.length<=32767 by omega]
  obtain⟨n,d⟩:=Cy x hx.1 y x.My none 0 (((x.My.length:Int)).toNat+1) rfl QR (fun _=>rfl) (fun h=>absurd h QR);rw[ho];rcases Nat.eq_zero_or_pos k with hk | hk
  ·obtain rfl:=f hk;rw[QY QR,AH,d]
   cases hq:(x.My.all okn && up ltI none x.My) with
   | false=>exact⟨0,by simp⟩
   | true =>
    refine⟨z,?_⟩;rw[QX rfl,Nm,Bool.true_and];simp only;rw[QX QR,hz,show (none:Option Top).map (·.MI)=none from rfl,show up Op.bytesLess none (x.MI::t.map (·.MI))=up Op.bytesLess (some x.MI) (t.map (·.MI)) from rfl];rfl
  ·obtain⟨i,l⟩:=g hk;rw[QX QR,QX QR,QX QR,show ((k:Int) - 1).toNat=k - 1 by omega,i]
   cases p with
   | none=>exact absurd rfl l
   | some q =>
    rw[Nm];rw[IY _ _ (hw q (List.mem_of_getElem? i)).2];rw[Nm,show (some q).map (·.MI)=some q.MI from rfl,show up Op.bytesLess (some q.MI) (x.MI::t.map (·.MI))=(Op.bytesLess q.MI x.MI && up Op.bytesLess (some x.MI) (t.map (·.MI))) from rfl]
    cases hc:Op.bytesLess q.MI x.MI with
    | false=>exact⟨0,by simp⟩
    | true =>
     rw[QX rfl,d]
     cases hq:(x.My.all okn && up ltI none x.My) with
     | false=>exact⟨0,by simp⟩
     | true =>
      refine⟨z,?_⟩;rw[QX rfl,Nm,Bool.true_and];simp only;rw[QX QR,hz];rfl
theorem IZ (a0:List Top) (hb:a0.length<=140737488355328) (hw: ∀ t,t∈a0->t.My.length<=140737488355328/\t.MI.length<=140737488355328):io a0=some (pO a0):=by
 unfold io pO;obtain⟨z,hz⟩:=Cz a0 hb hw false a0 none 0 (((a0.length:Int)).toNat+1) rfl QR (fun _=>rfl) (fun h=>absurd h QR);rw[show (none:Option Top).map (·.MI)=none from rfl] at hz;rw[hz];cases (a0.all mi && up Op.bytesLess none (a0.map (·.MI))) <;> rfl
def gdP (p:bh):Prop:=wI p.MR/\p.MK.length<=140737488351232/\ ∀ b,b∈p.MK->bnB b
def gdT (t:aN):Prop:=t.MI.length<=140737488351232/\t.My.length*32<=140737488351232/\ ∀ p,p∈t.My->gdP p
def gdQ (r:aB):Prop:=wI r.MC/\r.Mw.length*40<=140737488351232/\ ∀ t,t∈r.Mw->gdT t
def iV (nul:Bool):List Bat->Int
 | []=>0
 | b::l=>if chk b=0 then (if b.M6=true then 12 else if b.M2=nul then 8 else iV nul l) else chk b
def tI (v:Int) (nul:Bool) (l:List Bat):Int:=if l.length=0\/(v<4/\1<l.length) then 10 else iV nul l
theorem I0 (r:aB) (y:Int): ∀ l:List Bat,(∀ b,b∈l->bnB b)->bZ r l y=some (if iV r.MD.null l=0 then .go y else .ret (iV r.MD.null l))
 | [],_=>rfl
 | b::l,h=>by
  rw[bZ,(yi (h b (.head _))).1,Nm,iV,I0 r y l (fun x hx=>h x (.tail _ hx))];by_cases a:chk b=0
  ·rw[QX a,QX a];by_cases c2:b.M6=true
   ·rw[QX c2,QX c2]; rfl
   ·rw[QY c2,QY c2];by_cases c:b.M2=r.MD.null
    ·rw[QX (by rw[c]; exact beq_self_eq_true _),QX c]; rfl
    ·rw[QY (by simpa using c),QY c]
  ·rw[QY a,QY a,QY a]
theorem I1 (r:aB) (l:List Bat) (v:Int) (h: ∀ b,b∈l->bnB b):dZ r l v=some (tI v r.MD.null l):=by
 unfold dZ tI;by_cases d:l.length=0
 ·rw[QX QR,Nm,QX rfl,QX (.inl d)]
 rw[QY QR];by_cases c:v<4
 ·rw[QX c];by_cases c2:1<l.length
  ·rw[QX QR,Nm,QX rfl,QX (.inr ⟨c,c2⟩)]
  ·rw[QY QR,Nm,QY QS,I0 r 0 l h,QY (show ¬ (l.length=0\/(v<4/\1<l.length)) from fun hh=>by rcases hh with hh | hh; exact d hh; exact c2 hh.2)];by_cases a:iV r.MD.null l=0
   ·rw[QX a,a]; rfl
   ·rw[QY a]; rfl
 ·rw[QY c,Nm,QY QS,I0 r 0 l h,QY (show ¬ (l.length=0\/(v<4/\1<l.length)) from fun hh=>by rcases hh with hh | hh; exact d hh; exact c hh.1)];by_cases a:iV r.MD.null l=0
  ·rw[QX a,a]; rfl
  ·rw[QY a]; rfl
theorem Fk (a:List Bat) (nul:Bool) (hn:a.length<=140737488351232) (y:Int): ∀ (l:List Bat) (k fuel:Nat),a.drop k=l->l.length<fuel->(∀ b,b∈l->bnB b)-> ∃ z,ek a (!nul) fuel y k=some (if iV nul l=0 then .go (y,z) else .ret (iV nul l))
 | [],k,fuel+1,h,hf,_=>by
  have:=eK h;exact⟨k,by rw[ek,QY QR]; rfl⟩
 | b::l,k,fuel+1,h,hf,hw=>by
  obtain⟨e,f,g⟩:=dj h;rw[NB] at hf;obtain⟨z,hz⟩:=Fk a nul hn y l (k+1) fuel f QR (fun x hx=>hw x (.tail _ hx));refine⟨z,?_⟩;rw[ek,QX QR,e,Nm,(yi (hw b (.head _))).2,Nm,iV,QX (show (A0 ((k:Int)+1)) by omega),hz];by_cases c:chk b=0
  ·rw[QX c,QX c];by_cases c2:b.M6=true
   ·rw[QX c2,QX c2]; rfl
   ·rw[QY c2,QY c2];by_cases d:b.M2=nul
    ·rw[QY (by rw[d]; cases nul <;> decide),QX d]; rfl
    ·rw[QX (by cases hb:b.M2 <;> cases nul <;> simp_all),QY d]
  ·rw[QY c,QY c,QY c]
theorem CA (l:List Bat) (nul:Bool) (v:Int) (hv:v=3\/v=4) (hn:l.length<=140737488351232) (h: ∀ b,b∈l->bnB b):fI l (!nul) v=some (tI v nul l):=by
 obtain⟨z,hz⟩:=Fk l nul hn 0 l 0 (((l.length:Int)).toNat+1) rfl QR h;have hend:((some (if iV nul l=0 then (.go (0,z):Lp Int (Int×Nat)) else .ret (iV nul l))).bind fun e=>match e with | .ret r=>some r | .go (d,f)=>(some 0:Option Int))=some (iV nul l):=by
  by_cases a:iV nul l=0
  ·rw[QX a,a]; rfl
  ·rw[QY a]; rfl
 unfold fI tI;by_cases c:l.length=0
 ·rw[QX QR,Nm,QX rfl,QX (.inl c)]
 rw[QY QR];rcases hv with rfl | rfl
 ·rw[QX rfl];by_cases c2:1<l.length
  ·rw[QX QR,Nm,QX rfl,QX (.inr ⟨by decide,c2⟩)]
  ·rw[QY QR,Nm,QY QS,hz,QY (show ¬ (l.length=0\/((3:Int)<4/\1<l.length)) from fun hh=>by rcases hh with hh | hh; exact c hh; exact c2 hh.2)];exact hend
 ·rw[QY QS,Nm,QY QS,hz,QY (show ¬ (l.length=0\/((4:Int)<4/\1<l.length)) from fun hh=>by rcases hh with hh | hh; exact c hh; exact absurd hh.1 QS)];exact hend
def yo:Option Int->Int->Bool
 | none,_=>true
 | some q,n=>decide (q<n)
def rqP:Option Int->List bh->Bool
 | _,[]=>true
 | p,x::l=>okn x.MR && yo p x.MR && rqP (some x.MR) l
def vd:Option AI->AI->Bool
 | none,_=>true
 | some q,d=>Op.bytesLess q d
def ve (p:Option AI) (t:aN):Bool:= !t.MI.isEmpty && decide (t.MI.length<=32767) && vd p t.MI && rqP none t.My
def rqT:Option AI->List aN->Int
 | _,[]=>0
 | p,t::l=>if t.My.length=0 then 10 else if ve p t=true then rqT (some t.MI) l else 13
def vE (l:List aN):Int:=if l.length=0 then 10 else rqT none l
theorem CC (t:aN) (hn:t.My.length<=140737488351232) (y:Int): ∀ (l:List bh) (p:Option Int) (k:Nat),t.My.drop k=l->(∀ q,q∈l->wI q.MR)->(k=0->p=none)->(0<k-> ∃ u,t.My[k - 1]? = some u/\p=some u.MR)->dP t l y k=some (if rqP p l=true then .go y else .ret 13)
 | [],p,k,_,_,_,_=>rfl
 | x::l,p,k,h,hw,c,d=>by
  obtain⟨e,f,i⟩:=dj h;have hx:=hw x (.head _);have ih:=CC t hn y l (some x.MR) (k+1) f (fun q hq=>hw q (.tail _ hq)) (fun h=>absurd h QR) (fun _=>⟨x,e,rfl⟩);rw[dP,gb _ _ hx,Nm,iO,rqP];by_cases a:x.MR<0
  ·have:okn x.MR=false:=by unfold okn; simp; omega
   rw[QX a,Nm,QX rfl,this]; rfl
  rw[QY a];by_cases c2:x.MR<=2147483647;rotate_left
  ·have:okn x.MR=false:=by unfold okn; simp; omega
   rw[QY (by simp; omega),Nm,QX rfl,this]; rfl
  have hok:okn x.MR=true:=by unfold okn; simp; omega
  rw[QX (by simp; omega),hok];rcases Nat.eq_zero_or_pos k with hk | hk
  ·rw[c hk,QY QR,Nm,QY QS,ih]; rfl
  ·obtain⟨u,g,rfl⟩:=d hk;rw[QX QR,QX QR,QX QR,show ((k:Int) - 1).toNat=k - 1 by omega,g,Nm];by_cases b:u.MR<x.MR
   ·rw[QY QR,Nm,QY QS,ih];rw[yo,Nn b]; rfl
   ·rw[QX QR,Nm,QX rfl];rw[yo,Np b]; rfl
theorem CD (a:List aN) (y:Int): ∀ (l:List aN) (p:Option AI) (k:Nat),a.drop k=l->a.length<=140737488351232->(∀ t,t∈l->gdT t)->(k=0->p=none)->(0<k-> ∃ u,a[k - 1]? = some u/\p=some u.MI)->cV a l y k=some (if rqT p l=0 then .go y else .ret (rqT p l))
 | [],p,k,_,_,_,_,_=>rfl
 | t::l,p,k,h,hn,hw,n,o=>by
  obtain⟨s,v,x⟩:=dj h;have ht:=hw t (.head _);have ih:=CD a y l (some t.MI) (k+1) v hn (fun q hq=>hw q (.tail _ hq)) (fun h=>absurd h QR) (fun _=>⟨t,s,rfl⟩);rw[cV,rqT];by_cases j:t.My.length=0
  ·rw[QX QR,QX j]; rfl
  rw[QY QR,QY j];have m:=CC t (by have:=ht.2.1; omega) y t.My none 0 rfl (fun q hq=>(ht.2.2 q hq).1) (fun _=>rfl) (fun h=>absurd h QR);rw[m];have bad: ∀ {b:Bool},ve p t=false->b=true->((some b).bind fun d=>if d=true then some (Lp.ret 13:Lp Int Int) else ((some (if rqP none t.My=true then (.go y:Lp Int Int) else .ret 13)).bind fun e=>match e with | .ret r=>some (Lp.ret r) | .go f=>(cV a l f (k+1))))=some (if (if ve p t=true then rqT (some t.MI) l else 13)=0 then .go y else .ret (if ve p t=true then rqT (some t.MI) l else 13)):=by
   intro b hb hb2;rw[hb2,Nm,QX rfl,hb]; rfl
  have good: ∀ {b:Bool},(!t.MI.isEmpty && decide (t.MI.length<=32767) && vd p t.MI)=true->b=false->((some b).bind fun d=>if d=true then some (Lp.ret 13:Lp Int Int) else ((some (if rqP none t.My=true then (.go y:Lp Int Int) else .ret 13)).bind fun e=>match e with | .ret r=>some (Lp.ret r) | .go f=>(cV a l f (k+1))))=some (if (if ve p t=true then rqT (some t.MI) l else 13)=0 then .go y else .ret (if ve p t=true then rqT (some t.MI) l else 13)):=by
   intro b hb hb2;rw[hb2,Nm,QY QS,Nm];unfold ve;rw[hb,Bool.true_and];cases rqP none t.My
   ·rfl
   ·exact ih
  by_cases g:t.MI = []
  ·rw[QX g];exact bad (by unfold ve; rw[g]; rfl) rfl
  rw[QY g];have hne:t.MI.isEmpty=false:=by cases hh:t.MI with | nil=>exact absurd hh g | cons c u=>rfl
  by_cases c2:(t.MI.length:Int)>32767
  ·rw[QX c2];exact bad (by unfold ve; rw[Np QR]; simp) rfl
  rw[QY c2];rcases Nat.eq_zero_or_pos k with hk | hk
  ·rw[QY QR];exact good (by rw[n hk,hne,Nn QR]; rfl) rfl
  ·obtain⟨u,w,rfl⟩:=o hk;rw[QX QR,QX QR,QX QR,show ((k:Int) - 1).toNat=k - 1 by omega,w,Nm];by_cases i:Op.bytesLess u.MI t.MI=true
   ·rw[QX i];exact good (by rw[hne,Nn QR]; exact i) rfl
   ·rw[QY i];exact bad (by unfold ve vd; simp only[i]; simp) rfl
theorem I2 (l:List aN) (hn:l.length<=140737488351232) (hw: ∀ t,t∈l->gdT t):ju l=some (vE l):=by
 unfold ju vE;by_cases a:l.length=0
 ·rw[QX QR,QX a]
 ·rw[QY QR,QY a,CD l 0 l none 0 rfl hn hw (fun _=>rfl) (fun h=>absurd h QR)];by_cases c:rqT none l=0
  ·rw[QX c,c]; rfl
  ·rw[QY c]; rfl
def yp (t:aN):Top:=⟨t.MI,t.My.map (·.MR)⟩
theorem CE (t:aN) (hn:t.My.length*8<=140737488351232): ∀ (l:List bh) (acc:List Int) (k fuel:Nat),t.My.drop k=l->l.length<fuel->acc.length=k-> ∃ z,eD (ofT t) fuel k acc=some (z,acc++l.map (·.MR))
 | [],acc,k,fuel+1,h,hf,_=>by
  have:=eK h;exact⟨k,by rw[eD,QY (by show ¬ (k:Int)<((t.My.map ofP).length:Int); rw[N2]; omega),List.map_nil,NQ]⟩
 | x::l,acc,k,fuel+1,h,hf,hk=>by
  obtain⟨a,b,d⟩:=dj h;rw[NB] at hf;obtain⟨z,hz⟩:=CE t hn l (acc ++ [x.MR]) (k+1) fuel b QR (by rw[Nr,OA,hk]);have c:(ofT t).My[k]? = some (ofP x):=by show (t.My.map ofP)[k]? = _; rw[List.getElem?_map,a]; rfl
  refine⟨z,?_⟩;rw[eD,QX (by show (k:Int)<((t.My.map ofP).length:Int); rw[N2]; omega),c,Nm,QX QR,QX QR];show eD (ofT t) fuel (k+1) (acc ++ [x.MR])= _;rw[hz,Ny];rfl
theorem I3 (t:aN) (hn:t.My.length*8<=140737488351232):l7 (ofT t)=some (yp t):=by
 have a:(ofT t).My.length=t.My.length:=N2 _;obtain⟨z,hz⟩:=CE t hn t.My [] 0 (((t.My.length:Int)).toNat+1) rfl QR rfl;unfold l7;rw[a,hz,Nm,NG];rfl
theorem D2: ∀ (l:List bh) (p:Option Int),rqP p l=((l.map (·.MR)).all okn && up ltI p (l.map (·.MR)))
 | [],p=>by cases p <;> rfl
 | x::l,none=>by
  rw[rqP,D2 l,List.map_cons,List.all_cons,up,yo];cases okn x.MR <;> cases (l.map (·.MR)).all okn <;> rfl
 | x::l,some q=>by
  rw[rqP,D2 l,List.map_cons,List.all_cons,up,yo,ltI];cases okn x.MR <;> cases (l.map (·.MR)).all okn <;> cases decide (q<x.MR) <;> rfl
def r7:Option AI->List AI->Option AI
 | p,[]=>p
 | _,x::l=>r7 (some x) l
theorem Ba: ∀ (l:List AI) (p:Option AI) (x:AI),up Op.bytesLess p (l ++ [x])=(up Op.bytesLess p l && vd (r7 p l) x)
 | [],none,x=>rfl
 | [],some q,x=>by show (Op.bytesLess q x && true)=(true && Op.bytesLess q x); rw[Bool.and_true,Bool.true_and]
 | y::l,none,x=>by
  show up Op.bytesLess (some y) (l ++ [x])= _;rw[Ba l (some y) x]; rfl
 | y::l,some q,x=>by
  show (Op.bytesLess q y && up Op.bytesLess (some y) (l ++ [x]))= _;rw[Ba l (some y) x,<- Bool.and_assoc]; rfl
theorem yq: ∀ (l:List AI) (p:Option AI) (x:AI),r7 p (l ++ [x])=some x
 | [],p,x=>rfl
 | y::l,p,x=>yq l (some y) x
theorem zY (l:List Top) (t:aN) (h:pO l=true) (hp:t.My.length≠0):pO (l ++ [yp t])=ve (r7 none (l.map (·.MI))) t:=by
 have a:l.all mi=true/\up Op.bytesLess none (l.map (·.MI))=true:=by simpa [pO] using h
 have b:(t.My.map (·.MR)).isEmpty=false:=by cases hh:t.My with | nil=>exact absurd (by rw[hh]; rfl) hp | cons c u=>rfl
 unfold pO ve;rw[List.all_append,a.1,List.map_append,List.map_singleton,Ba,a.2,D2];simp only[List.all_cons,List.all_nil,Bool.and_true,Bool.true_and,mi,xy];show (!t.MI.isEmpty && decide (t.MI.length<=32767) && ((t.My.map (·.MR)).all okn && up ltI none (t.My.map (·.MR)) && !(t.My.map (·.MR)).isEmpty) && vd (r7 none (l.map (·.MI))) t.MI)= _;rw[b];cases t.MI.isEmpty <;> cases decide (t.MI.length<=32767) <;> cases vd (r7 none (l.map (·.MI))) t.MI <;> cases (t.My.map (·.MR)).all okn <;> cases up ltI none (t.My.map (·.MR)) <;> rfl
theorem yr (a:List aN) (hn:a.length*40<=140737488351232) (y:Int): ∀ (l:List aN) (acc:List Top) (k fuel:Nat),a.drop k=l->l.length<fuel->acc.length=k->(∀ t,t∈l->gdT t)->(∀ t,t∈acc->t.My.length<=140737488355328/\t.MI.length<=140737488355328)->pO acc=true-> ∃ z,fH (a.map ofT) fuel y acc k=some (if rqT (r7 none (acc.map (·.MI))) l=0 then .go (y,z) else .ret (rqT (r7 none (acc.map (·.MI))) l))
 | [],acc,k,fuel+1,h,hf,_,_,_,_=>by
  have:=eK h;exact⟨(acc,k),by rw[fH,QY (by rw[N2]; omega)]; rfl⟩
 | t::l,acc,k,fuel+1,h,hf,hk,hw,ha,ho=>by
  obtain⟨d,e,j⟩:=dj h;obtain⟨m,n,o⟩:=hw t (.head _);rw[NB] at hf;have f:(a.map ofT)[k]? = some (ofT t):=by rw[List.getElem?_map,d]; rfl
  have g:(ofT t).My.length=t.My.length:=N2 _;rw[fH,QX (by rw[N2]; omega),f,Nm,g,rqT];by_cases c:t.My.length=0
  ·rw[QX QR,QX c];exact⟨(acc,k),rfl⟩
  have ha2: ∀ u,u∈acc ++ [yp t]->u.My.length<=140737488355328/\u.MI.length<=140737488355328:=fun u hu=>by
   rcases List.mem_append.1 hu with hu | hu
   ·exact ha u hu
   ·rw[List.mem_singleton.1 hu];refine⟨?_,by show t.MI.length<= _; omega⟩;show (t.My.map _).length<= _;rw[N2]; omega
  rw[QY QR,QY c,I3 t QR,Nm,QX QR,IZ _ (by rw[Nr,OA]; omega) ha2,Nm,zY acc t ho c];by_cases b:ve (r7 none (acc.map (·.MI))) t=true
  ·obtain⟨z,hz⟩:=yr a hn y l (acc ++ [yp t]) (k+1) fuel e QR (by rw[Nr,OA,hk]) (fun u hu=>hw u (.tail _ hu)) ha2 (by rw[zY acc t ho c]; exact b);have i:r7 none ((acc ++ [yp t]).map (·.MI))=some t.MI:=by rw[List.map_append,List.map_singleton,yq]; rfl
   rw[i] at hz;exact⟨z,by rw[QX b,QX b,QX QR,hz]⟩
  ·exact⟨(acc,k),by rw[QY b,QY b]; rfl⟩
theorem D3 (l:List aN) (hn:l.length*40<=140737488351232) (hw: ∀ t,t∈l->gdT t):lz (l.map ofT)=some (vE l):=by
 unfold lz vE;rw[N2];by_cases a:l.length=0
 ·rw[QX QR,QX a]
 ·obtain⟨z,hz⟩:=yr l hn 0 l [] 0 (((l.length:Int)).toNat+1) rfl QR rfl hw (fun t h=>nomatch h) rfl;rw[QY QR,QY a,hz];show ((some (if rqT none l=0 then _ else _)).bind _)= _;by_cases c:rqT none l=0
  ·rw[QX c,c]; rfl
  ·rw[QY c]; rfl
def lg (v:Int) (nul:Bool):List bh->Int
 | []=>0
 | p::l=>if tI v nul p.MK=0 then lg v nul l else tI v nul p.MK
def lT (v:Int) (nul:Bool):List aN->Int
 | []=>0
 | t::l=>if lg v nul t.My=0 then lT v nul l else lg v nul t.My
def D4 (r:aB):Prop:=bw r.MD=true/\(r.MD.null=true\/et r.MD.data=true)
def Bb (r:aB):Prop:= -1<=r.MV/\r.MV<=1/\0<=r.MC/\r.MC<=2147483647
instance (r:aB):Decidable (D4 r):=by unfold D4; infer_instance
instance (r:aB):Decidable (Bb r):=by unfold Bb; infer_instance
def wm (v:Int) (r:aB):Int:=if D4 r then (if Bb r then (if vE r.Mw=0 then lT v r.MD.null r.Mw else vE r.Mw) else 11) else 4
theorem pc_l2 (r:aB) (v y:Int): ∀ l:List bh,(∀ p,p∈l->gdP p)->cB r v l y=some (if lg v r.MD.null l=0 then .go y else .ret (lg v r.MD.null l))
 | [],_=>rfl
 | p::l,h=>by
  rw[cB,I1 r p.MK v (h p (.head _)).2.2,Nm,lg,pc_l2 r v y l (fun q hq=>h q (.tail _ hq))];by_cases c:tI v r.MD.null p.MK=0
  ·rw[QX c,QX c]
  ·rw[QY c,QY c,QY c]
theorem pc_l1 (r:aB) (v y:Int): ∀ l:List aN,(∀ t,t∈l->gdT t)->cC r v l y=some (if lT v r.MD.null l=0 then .go y else .ret (lT v r.MD.null l))
 | [],_=>rfl
 | t::l,h=>by
  rw[cC,pc_l2 r v y t.My (h t (.head _)).2.2,Nm,lT];by_cases c:lg v r.MD.null t.My=0
  ·rw[QX c,QX c];dsimp only;rw[pc_l1 r v y l (fun q hq=>h q (.tail _ hq))]
  ·rw[QY c,QY c,QY c]
theorem I4 (r:aB) (v:Int) (h:gdQ r):cH r v=some (wm v r):=by
 unfold cH wm;have g:(((qH r.MD).bind fun d=>if d=true then (if r.MD.null=true then some false else ((nP r.MD.data).bind fun e=>if e=true then some false else some true)) else some true):Option Bool)=some (decide (¬ D4 r)):=by
  rw[rm,Nm,pw];by_cases a:bw r.MD=true
  ·rw[QX a];by_cases c2:r.MD.null=true
   ·rw[QX c2]; exact congrArg some (Eq.symm (Np (fun hh=>hh ⟨a,.inl c2⟩)))
   ·rw[QY c2,Nm];by_cases b:et r.MD.data=true
    ·rw[QX b]; exact congrArg some (Eq.symm (Np (fun hh=>hh ⟨a,.inr b⟩)))
    ·rw[QY b]; exact congrArg some (Eq.symm (Nn (fun hh=>hh.2.elim c2 b)))
  ·rw[QY a]; exact congrArg some (Eq.symm (Nn (fun hh=>a hh.1)))
 have i:((if r.MV<(-1) then some true else (if r.MV>1 then some true else (if r.MC<0 then some true else ((jG r.MC 4).bind fun f=>if f=true then some false else some true)))):Option Bool)=some (decide (¬ Bb r)):=by
  rw[gb _ _ h.1,Nm,iO];unfold Bb;by_cases a:r.MV < -1
  ·rw[QX a,Nn QR]
  rw[QY a];by_cases c2:r.MV>1
  ·rw[QX c2,Nn QR]
  rw[QY c2];by_cases b:r.MC<0
  ·rw[QX b,Nn QR]
  rw[QY b];by_cases c:r.MC<=2147483647
  ·rw[QX (Nn QR),Np QR]
  ·rw[QY (by rw[decide_eq_true_eq]; omega),Nn QR]
 rw[g,Nm];by_cases a:D4 r;rotate_left
 ·rw[Nn a,QX rfl,QY a]
 rw[Np (fun hh=>hh a),QY QS,QX a,i,Nm];by_cases c2:Bb r;rotate_left
 ·rw[Nn c2,QX rfl,QY c2]
 rw[Np (fun hh=>hh c2),QY QS,QX c2,I2 _ (by have:=h.2.1; omega) h.2.2,Nm];by_cases b:vE r.Mw=0
 ·rw[QX b,QX b,pc_l1 r v 0 _ h.2.2];by_cases c:lT v r.MD.null r.Mw=0
  ·rw[QX c,c]; rfl
  ·rw[QY c]; rfl
 ·rw[QY b,QY b]
theorem rc_l2 (r:aB) (v:Int) (hv:v=3\/v=4) (t:aN) (j:Nat) (hj:r.Mw[j]? = some t) (hn:t.My.length<=140737488351232) (y:Int): ∀ (l:List bh) (k fuel:Nat),t.My.drop k=l->l.length<fuel->(∀ p,p∈l->gdP p)-> ∃ z,dU (ofQ r) v j fuel y k=some (if lg v r.MD.null l=0 then .go (y,z) else .ret (lg v r.MD.null l))
 | [],k,fuel+1,h,hf,_=>by
  have:=eK h;have b:(ofQ r).Mw[j]? = some (ofT t):=by show (r.Mw.map ofT)[j]? = _; rw[List.getElem?_map,hj]; rfl
  exact⟨k,by rw[dU,b,Nm,QY (by show ¬ (k:Int)<((t.My.map ofP).length:Int); rw[N2]; omega)]; rfl⟩
 | p::l,k,fuel+1,h,hf,hw=>by
  obtain⟨d,e,m⟩:=dj h;obtain⟨n,f,g⟩:=hw p (.head _);rw[NB] at hf;obtain⟨z,hz⟩:=rc_l2 r v hv t j hj hn y l (k+1) fuel e QR (fun x hx=>hw x (.tail _ hx));have b:(ofQ r).Mw[j]? = some (ofT t):=by show (r.Mw.map ofT)[j]? = _; rw[List.getElem?_map,hj]; rfl
  have i:(ofT t).My[k]? = some (ofP p):=by show (t.My.map ofP)[k]? = _; rw[List.getElem?_map,d]; rfl
  have R5: (A0 ((k:Int)+1)):=by omega
  have hb:=fun nul=>CA p.MK nul v hv f g;refine⟨z,?_⟩;rw[dU,b,Nm,QX (by show (k:Int)<((t.My.map ofP).length:Int); rw[N2]; omega),i,Nm,lg];show (if r.MD.null=true then ((fI p.MK false v).bind _) else ((fI p.MK true v).bind _))= _;by_cases c:r.MD.null=true
  ·have a:=hb true;rw[Bool.not_true] at a;rw[QX c,a,Nm,QX R5,hz,c];by_cases c2:tI v true p.MK=0
   ·rw[QX c2,QX c2]
   ·rw[QY c2,QY c2,QY c2]
  ·have a:=hb false;rw[Bool.not_false] at a;have c':r.MD.null=false:=by simpa using c
   rw[QY c,a,Nm,QX R5,hz,c'];by_cases c2:tI v false p.MK=0
   ·rw[QX c2,QX c2]
   ·rw[QY c2,QY c2,QY c2]
theorem rc_l1 (r:aB) (v:Int) (hv:v=3\/v=4) (hn:r.Mw.length<=140737488351232) (y:Int): ∀ (l:List aN) (k fuel:Nat),r.Mw.drop k=l->l.length<fuel->(∀ t,t∈l->gdT t)-> ∃ z,dV (ofQ r) v fuel y k=some (if lT v r.MD.null l=0 then .go (y,z) else .ret (lT v r.MD.null l))
 | [],k,fuel+1,h,hf,_=>by
  have:=eK h;exact⟨k,by rw[dV,QY (by show ¬ (k:Int)<((r.Mw.map ofT).length:Int); rw[N2]; omega)]; rfl⟩
 | t::l,k,fuel+1,h,hf,hw=>by
  obtain⟨a,e,j⟩:=dj h;obtain⟨m,n,f⟩:=hw t (.head _);rw[NB] at hf;obtain⟨z,hz⟩:=rc_l1 r v hv hn y l (k+1) fuel e QR (fun x hx=>hw x (.tail _ hx));obtain⟨o,b⟩:=rc_l2 r v hv t k a QR y t.My 0 (t.My.length+1) rfl QR f;have g:(ofQ r).Mw[k]? = some (ofT t):=by show (r.Mw.map ofT)[k]? = _; rw[List.getElem?_map,a]; rfl
  have i:(((ofQ r).Mw[k]?).map (fun d=>((d.My.length:Int)).toNat+1)).getD 0=t.My.length+1:=by
   rw[g];show (((t.My.map ofP).length:Int)).toNat+1= _;rw[N2]; omega
  refine⟨z,?_⟩;rw[dV,QX (by show (k:Int)<((r.Mw.map ofT).length:Int); rw[N2]; omega),i,b,Nm,lT];by_cases c:lg v r.MD.null t.My=0
  ·rw[QX c,QX c];dsimp only;rw[QX (show (A0 ((k:Int)+1)) by omega),hz]
  ·rw[QY c,QY c,QY c]
theorem D5 (d:AI):et d=true↔d ≠ []/\d.length<=32767:=by
 unfold et
 cases d with
 | nil=>simp
 | cons c d=>simp; omega
theorem D6 (n:Bool) (d:AI) (b:Bl) (a:b.null=n) (c:b.data=d):bw b=true↔(n=true->d = []):=by
 unfold bw;rw[a,c];cases n <;> cases d <;> simp
theorem I5 (r:aB) (v:Int) (hv:v=3\/v=4) (h:gdQ r):kt (ofQ r) v=some (wm v r):=by
 have g:(ofQ r).Mw.length=r.Mw.length:=N2 _;unfold kt wm;rw[g];have i:((if r.MD.null=true then (if r.MD.data = [] then some false else some true) else (if (r.MD.data.length:Int)<1 then some true else (if (r.MD.data.length:Int)>32767 then some true else some false))):Option Bool)=some (decide (¬ D4 r)):=by
  have hk:=D5 r.MD.data;have hb:=D6 r.MD.null r.MD.data r.MD rfl rfl;by_cases c2:r.MD.null=true
  ·rw[QX c2];by_cases a:r.MD.data = []
   ·rw[QX a];exact congrArg some (Eq.symm (Np (fun hh=>hh ⟨hb.2 (fun _=>a),.inl c2⟩)))
   ·rw[QY a];exact congrArg some (Eq.symm (Nn (fun hh=>a (hb.1 hh.1 c2))))
  ·rw[QY c2];by_cases a:r.MD.data = []
   ·rw[QX (by rw[a]; decide)];exact congrArg some (Eq.symm (Nn (fun hh=>hh.2.elim c2 (fun h=>(hk.1 h).1 a))))
   ·have hl:0<r.MD.data.length:=List.length_pos_iff.2 a;rw[QY QR];by_cases b:(r.MD.data.length:Int)>32767
    ·rw[QX b];exact congrArg some (Eq.symm (Nn (fun hh=>hh.2.elim c2 (fun h=>by have:=(hk.1 h).2; omega))))
    ·rw[QY b];exact congrArg some (Eq.symm (Np (fun hh=>hh ⟨hb.2 (fun h=>absurd h c2),.inr (hk.2 ⟨a,by omega⟩)⟩)))
 have j:((if r.MV<(-1) then some true else (if r.MV>1 then some true else (if r.MC<0 then some true else (if r.MC>2147483647 then some true else some false)))):Option Bool)=some (decide (¬ Bb r)):=by
  unfold Bb;by_cases c:r.MV < -1
  ·rw[QX c,Nn QR]
  rw[QY c];by_cases c2:r.MV>1
  ·rw[QX c2,Nn QR]
  rw[QY c2];by_cases a:r.MC<0
  ·rw[QX a,Nn QR]
  rw[QY a];by_cases b:r.MC>2147483647
  ·rw[QX b,Nn QR]
  ·rw[QY b,Np QR]
 show ((if r.MD.null=true then (if r.MD.data = [] then some false else some true) else (if (r.MD.data.length:Int)<1 then some true else (if (r.MD.data.length:Int)>32767 then some true else some false))).bind fun k=>if k=true then some 4 else ((if r.MV<(-1) then some true else (if r.MV>1 then some true else (if r.MC<0 then some true else (if r.MC>2147483647 then some true else some false)))).bind fun f=>if f=true then some 11 else ((lz (r.Mw.map ofT)).bind fun d=>if d=0 then ((dV (ofQ r) v (((r.Mw.length:Int)).toNat+1) 0 0).bind fun e=>match e with | .ret r=>some r | .go (l,m)=>some 0) else some d)))= _;rw[i,Nm];by_cases c:D4 r;rotate_left
 ·rw[Nn c,QX rfl,QY c]
 rw[Np (fun hh=>hh c),QY QS,QX c,j,Nm];by_cases c2:Bb r;rotate_left
 ·rw[Nn c2,QX rfl,QY c2]
 rw[Np (fun hh=>hh c2),QY QS,QX c2,D3 _ h.2.1 h.2.2,Nm];by_cases a:vE r.Mw=0
 ·obtain⟨z,hz⟩:=rc_l1 r v hv (by have:=h.2.1; omega) 0 r.Mw 0 (((r.Mw.length:Int)).toNat+1) rfl QR h.2.2;rw[QX a,QX a,hz];by_cases b:lT v r.MD.null r.Mw=0
  ·rw[QX b,b]; rfl
  ·rw[QY b]; rfl
 ·rw[QY a,QY a]
def qb:Nat->Pr (List Bat)
 | 0=> .ret []
 | n+1=>fun s q=>if q=s.length then .ok ([],q) else (tH.bind fun b=>(qb n).bind fun l=> .ret (b::l)) s q
theorem ph {b:Bat} (h:okB b):61<=(f6 b).length:=by rw[rz h]; omega
theorem zZ: ∀ (n:Nat) (s:AI) (q:Nat) (l:List Bat) (r:Nat),q<=s.length->s.length - q<=n->qb n s q= .ok (l,r)->r=s.length/\s.drop q=bJ f6 l/\ ∀ b,b∈l->okB b
 | 0,s,q,l,r,hq,hn,h=>by
  injection h with h;obtain⟨rfl,rfl⟩:=NU h;exact⟨by omega,by rw[List.drop_eq_nil_of_le QR]; rfl,fun b h=>nomatch h⟩
 | n+1,s,q,l,r,hq,hn,h=>by
  unfold qb at h;by_cases he:q=s.length
  ·rw[QX he] at h;injection h with h;obtain⟨rfl,rfl⟩:=NU h;exact⟨he,by rw[List.drop_eq_nil_of_le QR]; rfl,fun b h=>nomatch h⟩
  rw[QY he] at h;obtain⟨b,m,c,d⟩:=Pr.bind_ok h;obtain⟨bs,f,g,a⟩:=Pr.bind_ok d;injection a with a;obtain⟨rfl,rfl⟩:=NU a;obtain⟨a1,a2,a3,a4,a5⟩:=AZ.spell s q b m hq c;have hp:=ph a5;obtain⟨i,j,k⟩:=zZ n s m bs f a2 QR g;refine⟨i,?_,fun y hy=> ?_⟩
  ·have e:s.drop q=f6 b++s.drop m:=by
    have o:s=s.take q++f6 b++s.drop m:=by rw[<- a4,List.take_append_drop]
    conv=>lhs; rw[o,Ny,List.drop_left' (by rw[NL]; omega)]
   rw[e,j,bJ]
  ·rcases List.mem_cons.1 hy with rfl | hy
   ·exact a5
   ·exact k y hy
theorem CF: ∀ (l:List Bat) (n:Nat) (s:AI) (q:Nat),q<=s.length->s.length - q<=n->(∀ b,b∈l->okB b)->s.drop q=bJ f6 l->qb n s q= .ok (l,s.length)
 | [],n,s,q,hq,hn,_,hd=>by
  have hl:=congrArg List.length hd;rw[Nx] at hl;have hl:s.length - q=0:=hl;have:q=s.length:=by omega
  subst this
  cases n with
  | zero=>rfl
  | succ n=>exact QX rfl
 | b::l,n,s,q,hq,hn,ho,hd=>by
  have hl:=congrArg List.length hd;rw[bJ] at hd;rw[Nx,bJ,Nr] at hl;have hp:=ph (ho b (.head _))
  cases n with
  | zero=>omega
  | succ n =>
   have a:=AZ.back s _ q b hq (ho b (.head _)) hd;have c:=CF l n s (q+(f6 b).length) QR QR (fun y hy=>ho y (.tail _ hy)) (cM hd);show (if q=s.length then _ else _)= _;rw[QY QR,Pr.bind_of a,Pr.bind_of c];rfl
theorem gJ {α:Type} {enc:α->AI}: ∀ (l:List α) (x:α),x∈l->(enc x).length<=(bJ enc l).length
 | c::l,x,h=>by
  rw[bJ,Nr];rcases List.mem_cons.1 h with rfl | h
  ·omega
  ·have:=gJ (enc:=enc) l x h; omega
theorem vf {l:List Bat} (h: ∀ b,b∈l->okB b):l.length*61<=(bJ f6 l).length:=j7 (ok:=okB) (fun x hx=>ph hx) l h
def ot:Pr AI:=fZ (jT 4)
theorem yt:Sp ot (fun d=>be (d.length:Int) 4++d) (fun d=>bA (d.length:Int) 4=true/\bw ⟨false,d⟩=true):=AA (eJ 4 QS QS)
def r8 (i:Int) (d:AI):Pr bh:=match qb d.length d 0 with | .error e=> .err e | .ok (l,_)=> .ret ⟨i,l⟩
def j5:Pr bh:=(bT 4).bind fun i=>ot.bind fun d=>r8 i d
def jH (p:bh):AI:=be p.MR 4++(be ((bJ f6 p.MK).length:Int) 4++bJ f6 p.MK)
def Bc (p:bh):Prop:=bA p.MR 4=true/\bA ((bJ f6 p.MK).length:Int) 4=true/\ ∀ b,b∈p.MK->okB b
theorem I6 {i:Int} {d s:AI} {q r:Nat} {p:bh} (h:r8 i d s q= .ok (p,r)):r=q/\p.MR=i/\d=bJ f6 p.MK/\ ∀ b,b∈p.MK->okB b:=by
 unfold r8 at h
 cases ha:qb d.length d 0 with
 | error e=>rw[ha] at h; exact nomatch h
 | ok x =>
  rw[ha] at h;injection h with h;obtain⟨rfl,rfl⟩:=NU h;obtain⟨a1,a2,a3⟩:=zZ _ d 0 x.1 x.2 (NH _) QR ha;rw[List.drop_zero] at a2;exact⟨rfl,rfl,a2,a3⟩
theorem I7 (i:Int) {l:List Bat} (h: ∀ b,b∈l->okB b) (s:AI) (q:Nat):r8 i (bJ f6 l) s q= .ok (⟨i,l⟩,q):=by
 unfold r8;rw[CF l _ (bJ f6 l) 0 (NH _) QR h List.drop_zero];rfl
theorem CG:Sp j5 jH Bc:=by
 refine⟨fun s q a r hq h=> ?_,fun s t q a hq ha h=> ?_⟩
 ·obtain⟨i,m,b,h⟩:=Pr.bind_ok h;obtain⟨d,n,c,h⟩:=Pr.bind_ok h;obtain⟨rfl,c2,rfl,e⟩:=I6 h;obtain⟨a1,a2,a3,a4,a5⟩:=(bX 4 QS QS).spell _ _ _ _ hq b;obtain⟨o,f,p,g,j⟩:=yt.spell _ _ _ _ a2 c;refine⟨by omega,f,by simp only[jH,Nr,aH] at *; omega,by rw[g,a4]; simp only[jH,c2,Ny],by rw[c2]; exact a5,j.1,e⟩
 ·obtain⟨a1,a2,a3⟩:=ha;have hl:=congrArg List.length h;rw[jH,Ny] at h;have k:=(bX 4 QS QS).back _ _ _ _ hq a1 h;have h:=cM h;have l:=yt.back _ _ _ _ (by simp only[jH,Nx,Nr,aH] at *; omega) ⟨a2,rfl⟩ h;rw[j5,Pr.bind_of k,Pr.bind_of l,I7 _ a3];simp only[jH,Nr,Nat.add_assoc]
theorem tJ (p:bh) (h:Bc p):8<=(jH p).length:=by simp only[jH,Nr,aH]; omega
def eR:Pr aN:=jy.bind fun nm=>(fR 4 8 j5).bind fun ps=> .ret ⟨nm,ps⟩
def jA (t:aN):AI:=(be (t.MI.length:Int) 2++t.MI)++(be (t.My.length:Int) 4++bJ jH t.My)
def yQ (t:aN):Prop:=bA (t.MI.length:Int) 2=true/\bA (t.My.length:Int) 4=true/\ ∀ p,p∈t.My->Bc p
theorem vg:Sp (fR 4 8 j5) (fun l=>be (l.length:Int) 4++bJ jH l) (fun l=>bA (l.length:Int) 4=true/\ ∀ p,p∈l->Bc p):=xr 4 8 QS QS CG tJ
theorem z4:Sp eR jA yQ:=by
 refine⟨fun s q a r hq h=> ?_,fun s t q a hq ha h=> ?_⟩
 ·obtain⟨k,j,b,h⟩:=Pr.bind_ok h;obtain⟨v,l,c,h⟩:=Pr.bind_ok h;injection h with h;obtain⟨rfl,rfl⟩:=NU h;obtain⟨a1,a2,a3,a4,a5⟩:=ld.spell _ _ _ _ hq b;obtain⟨m,d,n,e,f⟩:=vg.spell _ _ _ _ a2 c;exact⟨by omega,d,by simp only[jA,Nr] at *; omega,by rw[e,a4]; simp only[jA,Ny],a5.1,f⟩
 ·obtain⟨a1,a2,a3⟩:=ha;have hl:=congrArg List.length h;rw[jA,Ny] at h;have g:=ld.back _ _ _ _ hq ⟨a1,rfl⟩ h;have h:=cM h;have i:=vg.back _ _ _ _ (by simp only[jA,Nx,Nr,aH] at *; omega) ⟨a2,a3⟩ h;rw[eR,Pr.bind_of g,Pr.bind_of i];simp only[Pr.ret,jA,Nr,Nat.add_assoc]
theorem tK (t:aN) (h:yQ t):6<=(jA t).length:=by simp only[jA,Nr,aH]; omega
theorem nE:Sp (fR 4 6 eR) (fun l=>be (l.length:Int) 4++bJ jA l) (fun l=>bA (l.length:Int) 4=true/\ ∀ t,t∈l->yQ t):=xr 4 6 QS QS z4 tK
def qv (v:Int):Pr aB:=(jT 2).bind fun id=>(bT 2).bind fun a=>(bT 4).bind fun t=>(fR 4 6 eR).bind fun l=>if wm v ⟨id,a,t,l⟩=0 then .ret ⟨id,a,t,l⟩ else .err (wm v ⟨id,a,t,l⟩)
def pT (r:aB):AI:=(be (fd r.MD) 2++r.MD.data)++(be r.MV 2++(be r.MC 4++(be (r.Mw.length:Int) 4++bJ jA r.Mw)))
def okQ (v:Int) (r:aB):Prop:=(bA (fd r.MD) 2=true/\bw r.MD=true)/\bA r.MV 2=true/\bA r.MC 4=true/\(bA (r.Mw.length:Int) 4=true/\ ∀ t,t∈r.Mw->yQ t)/\wm v r=0
theorem D7 (v:Int):Sp (qv v) pT (okQ v):=by
 refine⟨fun s q a r hq h=> ?_,fun s t q a hq ha h=> ?_⟩
 ·obtain⟨id,y,b,h⟩:=Pr.bind_ok h;obtain⟨ac,z,c,h⟩:=Pr.bind_ok h;obtain⟨tm,A,d,h⟩:=Pr.bind_ok h;obtain⟨l,B,e,h⟩:=Pr.bind_ok h;by_cases hc:wm v ⟨id,ac,tm,l⟩=0;rotate_left
  ·rw[QY hc] at h;exact nomatch h
  rw[QX hc] at h;injection h with h;obtain⟨rfl,rfl⟩:=NU h;obtain⟨a1,a2,a3,a4,a5⟩:=(eJ 2 QS QS).spell _ _ _ _ hq b;obtain⟨C,f,D,g,i⟩:=(bX 2 QS QS).spell _ _ _ _ a2 c;obtain⟨E,c2,F,j,k⟩:=(bX 4 QS QS).spell _ _ _ _ f d;obtain⟨G,m,H,n,o⟩:=nE.spell _ _ _ _ c2 e;exact⟨by omega,m,by simp only[pT,Nr] at *; omega,by rw[n,j,g,a4]; simp only[pT,Ny],a5,i,k,o,hc⟩
 ·obtain⟨a1,a2,a3,a4,a5⟩:=ha;have hl:=congrArg List.length h;simp only[pT,Ny] at h;rw[<- Ny] at h;simp only[pT,Nx,Nr,aH] at hl;have p:=(eJ 2 QS QS).back _ _ _ _ hq a1 h;have h:=cM h;have u:=(bX 2 QS QS).back _ _ _ _ (by simp only[Nr,aH] at *; omega) a2 h;have h:=cM h;have w:=(bX 4 QS QS).back _ _ _ _ (by simp only[Nr,aH] at *; omega) a3 h;have h:=cM h;rw[<- Ny] at h;have x:=nE.back _ _ _ _ (by simp only[Nr,aH] at *; omega) a4 h;rw[qv,Pr.bind_of p,Pr.bind_of u,Pr.bind_of w,Pr.bind_of x,QX a5];simp only[Pr.ret,pT,Nr,Nat.add_assoc]
theorem Fl (n:Nat) (acc:List Bat) (x st:I) (h:st.err≠0):cI (n+1) acc x st=some (acc,x,st):=by
 rw[cI,bt,Nm];dsimp only;rw[QY h];rfl
theorem pp_l1 (s:AI) (hs:s.length<=1000000) (st:I) (c:st.err=0): ∀ (n fuel:Nat) (acc:List Bat) (q:Nat),q<=s.length->s.length - q<=n->s.length - q+1<fuel->acc.length+(s.length - q)<=1000000 ->
 (∃ e acc' x,qb n s q= .error e/\e≠0/\cI fuel acc ⟨s.drop q,q,0⟩ st=some (acc',x,dC st e))\/(∃ l x,qb n s q= .ok (l,s.length)/\cI fuel acc ⟨s.drop q,q,0⟩ st=some (acc++l,x,st))
 | n,0,acc,q,hq,hn,hf,_=>absurd hf QR
 | n,fuel+1,acc,q,hq,hn,hf,ha=>by
  have hd:(s.drop q).length=s.length - q:=Nx;rw[cI,bt,Nm];dsimp only;rw[QX c,sV,Nm];dsimp only;by_cases he:q=s.length
  ·rw[QY QR,Nm];dsimp only;rw[QY QS];refine .inr ⟨[],_,?_,by rw[NQ]⟩
   cases n with
   | zero=>rw[he]; rfl
   | succ n=>rw[he]; exact QX rfl
  rw[QX QR,Nm];dsimp only;rw[QX rfl]
  cases n with
  | zero=>omega
  | succ n =>
  unfold qb;rw[QY he];rcases B_bat.run s q hs hq with⟨e,j,a,d,f,g⟩ | ⟨b,r,a,d,o,k⟩
  ·refine .inl ⟨e,acc ++ [zBat],j,by rw[Pr.bind_err a],by rw[<- f]; exact g,?_⟩;rw[d,Nm];dsimp only;rw[QX QR,bt,Nm];dsimp only;rw[QY g,dD,Nm,Nm,f];have hfl:fuel=(fuel - 1)+1:=by omega
   rw[hfl];refine Fl _ _ _ _ ?_;rw[dC,QX c];show e≠0;rw[<- f]; exact g
  ·have a3:=(AZ.spell s q b r hq a);have hp:=ph a3.2.2.2.2;have a4:=a3.2.2.1;rw[d,Nm];dsimp only;rw[QX QR,bt,Nm];dsimp only;rw[QX rfl,Nm];rcases pp_l1 s hs st c n fuel (acc ++ [b]) r k QR QR (by rw[Nr,OA]; omega) with⟨e,acc',x,h,i,m⟩ | ⟨l,x,h,i⟩
   ·exact .inl ⟨e,acc',x,by rw[Pr.bind_of a,Pr.bind_err h],i,m⟩
   ·exact .inr ⟨b::l,x,by rw[Pr.bind_of a,Pr.bind_of h]; rfl,by rw[i,Ny]; rfl⟩
theorem Gv (s:AI) (hs:s.length<=1000000) (q:Nat) (hq:q<=s.length) :
 (∃ e p st,j5 s q= .error e/\gX ⟨s.drop q,q,0⟩=some (p,st)/\st.err=e/\e≠0)\/(∃ p r,j5 s q= .ok (p,r)/\gX ⟨s.drop q,q,0⟩=some (p,⟨s.drop r,r,0⟩)/\q<=r/\r<=s.length):=by
 have dead: ∀ (i:Int) (d:AI) (st:I),d.length<=1000000->st.err≠0->((vK d).bind fun f=>(cI (((f.rest.length:Int)+(st.rest.length:Int)+1).toNat+1) [] f st).bind fun (o,z,j)=>some ((⟨i,o⟩:bh),j))=some (⟨i,[]⟩,st):=by
  intro i d st hd h;rw[kC _ QR,Nm,Fl _ _ _ _ h];rfl
 unfold gX;rcases Q4.run s q hq with⟨e,st,c,k,t,m⟩ | ⟨i,u,c,k,C,v⟩
 ·refine .inl ⟨e,⟨0,[]⟩,st,Pr.bind_err c,?_,t,by rw[<- t]; exact m⟩;rw[k,Nm];dsimp only;rw[mh m,Nm];dsimp only;rw[QY QS,Nm];exact dead 0 [] st QS m
 rw[k,Nm];dsimp only;rcases QF4.run s u v with⟨e,st,g,n,w,y⟩ | ⟨b,a,g,n,D,A⟩
 ·refine .inl ⟨e,⟨i,[]⟩,st,by rw[j5,Pr.bind_of c,Pr.bind_err]; rw[ot,fZ,Pr.bind_err g],?_,w,by rw[<- w]; exact y⟩;rw[n,Nm];dsimp only;rw[QY QS,Nm];exact dead i [] st QS y
 have B:=(eJ 4 QS QS).spell _ _ _ _ v g;have hbl:b.data.length<=1000000:=by
  have:=B.2.2.1;rw[Nr] at this;omega
 rw[n,Nm];dsimp only;by_cases hb:b.null=true
 ·refine .inl ⟨4,⟨i,[]⟩,⟨s.drop a,a,4⟩,by rw[j5,Pr.bind_of c,Pr.bind_err]; rw[ot,fZ,Pr.bind_of g,QX hb]; rfl,?_,rfl,by decide⟩;rw[QX hb,dD,Nm,Nm,tv];exact dead i b.data _ hbl (show (4:Int)≠0 by decide)
 have hx:ot s u= .ok (b.data,a):=by
  rw[ot,fZ,Pr.bind_of g,QY hb];rfl
 rw[QY hb,Nm,kC _ QR,Nm];rcases pp_l1 b.data hbl ⟨s.drop a,a,0⟩ rfl b.data.length ((((b.data.length:Int))+((s.drop a).length:Int)+1).toNat+1) [] 0 (NH _) QR QR (by rw[Ov]; omega) with⟨e,acc',x,r1,r2,r3⟩ | ⟨l,x,r1,r2⟩
 ·rw[List.drop_zero] at r3;refine .inl ⟨e,⟨i,acc'⟩,⟨s.drop a,a,e⟩,?_,?_,rfl,r2⟩
  ·rw[j5,Pr.bind_of c,Pr.bind_of hx,r8,r1];rfl
  ·rw[r3];rfl
 ·rw[List.drop_zero] at r2;refine .inr ⟨⟨i,l⟩,a,?_,?_,by omega,A⟩
  ·rw[j5,Pr.bind_of c,Pr.bind_of hx,r8,r1];rfl
  ·rw[r2];rfl
def zQ:aB:=⟨⟨false,[]⟩,0,0,[]⟩
theorem Kf {p:bh} (h:Bc p) (hl:(jH p).length<=1000000):gdP p:=by
 have a:=vf h.2.2;simp only[jH,Nr,aH] at hl;refine⟨d7 h.1,by omega,fun b hb=>yk (h.2.2 b hb) ?_⟩;have:=gJ (enc:=f6) _ b hb;omega
theorem Kg {t:aN} (h:yQ t) (hl:(jA t).length<=1000000):gdT t:=by
 have a:=j7 (ok:=Bc) tJ t.My h.2.2;simp only[jA,Nr,aH] at hl;refine⟨by omega,by omega,fun p hp=>Kf (h.2.2 p hp) ?_⟩;have:=gJ (enc:=jH) t.My p hp;omega
theorem D8 {a:Bl} {k t:Int} {l:List aN} (ht:bA t 4=true) (h: ∀ x,x∈l->yQ x) (hl:(bJ jA l).length<=1000000):gdQ ⟨a,k,t,l⟩:=by
 have b:=j7 (ok:=yQ) tK l h;refine⟨d7 ht,by show l.length*40<= _; omega,fun x hx=>Kg (h x hx) ?_⟩;have:=gJ (enc:=jA) l x hx;omega
theorem Kh {v:Int} {r:aB} (h:okQ v r) (hl:(pT r).length<=1000000):gdQ r:=by
 simp only[pT,Nr,aH] at hl;exact D8 h.2.2.1 h.2.2.2.1.2 QR
theorem qr_l2 (n:Int) (s:AI) (hs:s.length<=1000000) (hn:n<=1000000): ∀ (m fuel k:Nat) (acc:List bh) (q:Nat),((k+m:Nat):Int)=n->m<fuel->q<=s.length->acc.length=k ->
 (∃ (e:Int) (st:I),dG j5 m s q= .error e/\ck n fuel k acc ⟨s.drop q,q,0⟩=some (.ret (zQ,st))/\st.err=e/\e≠0) \/
 (∃ l r,dG j5 m s q= .ok (l,r)/\ck n fuel k acc ⟨s.drop q,q,0⟩=some (.go (k+m,acc++l,⟨s.drop r,r,0⟩))/\q<=r/\r<=s.length)
 | 0,fuel+1,k,acc,q,h,i,a,d=> .inr ⟨[],q,rfl,by rw[ck,QY QR,NQ]; rfl,N3 _,a⟩
 | m+1,fuel+1,k,acc,q,h,i,a,d=>by
  rw[ck,QX QR];rcases Gv s hs q a with⟨e,p,st,b,c,f,g⟩ | ⟨p,r,b,c,o,j⟩
  ·refine .inl ⟨e,st,by rw[dG,Pr.bind_err b],?_,f,g⟩;rw[c,Nm];dsimp only;rw[QX QR,bt,Nm];dsimp only;rw[QY (by rw[f]; exact g)];rfl
  ·rw[c,Nm];dsimp only;rw[QX QR,bt,Nm];dsimp only;rw[QX rfl,QX QR,dG,Pr.bind_of b];rcases qr_l2 n s hs hn m fuel (k+1) (acc ++ [p]) r QR QR j (by rw[Nr,d]; rfl) with⟨e,st,r1,r2,r3,r4⟩ | ⟨l,r',r1,r2,r3,r4⟩
   ·exact .inl ⟨e,st,by rw[Pr.bind_err r1],r2,r3,r4⟩
   ·refine .inr ⟨p::l,r',by rw[Pr.bind_of r1]; rfl,?_,by omega,r4⟩;rw[r2,Ny,show k+1+m=k+(m+1) by omega];rfl
theorem qr_l1 (n:Int) (s:AI) (hs:s.length<=1000000) (hn:n<=1000000): ∀ (m fuel k:Nat) (acc:List aN) (q:Nat),((k+m:Nat):Int)=n->m<fuel->q<=s.length->acc.length=k ->
 (∃ (e:Int) (st:I),dG eR m s q= .error e/\dr n fuel k acc ⟨s.drop q,q,0⟩=some (.ret (zQ,st))/\st.err=e/\e≠0) \/
 (∃ l r,dG eR m s q= .ok (l,r)/\dr n fuel k acc ⟨s.drop q,q,0⟩=some (.go (k+m,acc++l,⟨s.drop r,r,0⟩))/\q<=r/\r<=s.length)
 | 0,fuel+1,k,acc,q,A,B,f,u=> .inr ⟨[],q,rfl,by rw[gO,QY QR,NQ]; rfl,N3 _,f⟩
 | m+1,fuel+1,k,acc,q,A,B,f,u=>by
  rw[gO,QX QR];rcases QT.run s q f with⟨e,st,b,g,v,h⟩ | ⟨nm,C,b,g,F,w⟩
  ·refine .inl ⟨e,st,by rw[dG,Pr.bind_err (show eR s q= .error e from Pr.bind_err b)],?_,v,by rw[<- v]; exact h⟩;rw[g,Nm];dsimp only;rw[nA h QS QS,Nm];dsimp only;rw[show (0:Int).toNat+1=0+1 from rfl,ck,QY QS,Nm];dsimp only;rw[bt,Nm];dsimp only;rw[QY h];rfl
  rw[g,Nm];dsimp only;rcases (tz 4 8 QS QS 4 8 rfl rfl QS).run s C w with⟨e,st,d,i,x,y⟩ | ⟨c,D,d,i,G,E⟩
  ·refine .inl ⟨e,st,by rw[dG,Pr.bind_err]; rw[eR,Pr.bind_of b,Pr.bind_err]; rw[fR,Pr.bind_err d],?_,x,by rw[<- x]; exact y⟩;rw[i,Nm];dsimp only;rw[show (0:Int).toNat+1=0+1 from rfl,ck,QY QS,Nm];dsimp only;rw[bt,Nm];dsimp only;rw[QY y];rfl
  obtain⟨H,c2,J,K,L,M⟩:=g8 QS QS w d;have c2:=c2 QS;rw[i,Nm];dsimp only;rcases qr_l2 c s hs QR c.toNat (c.toNat+1) 0 [] D QR QR E rfl with⟨e,st,r1,r2,r3,r4⟩ | ⟨ps,j,r1,r2,r3,r4⟩
  ·refine .inl ⟨e,st,by rw[dG,Pr.bind_err]; rw[eR,Pr.bind_of b,Pr.bind_err]; rw[fR,Pr.bind_of d,r1],?_,r3,r4⟩;rw[r2];rfl
  have ht:eR s q= .ok (⟨nm,ps⟩,j):=by
   rw[eR,Pr.bind_of b,Pr.bind_of (a:=ps) (r:=j) (by rw[fR,Pr.bind_of d,r1])];rfl
  rw[r2,Nm];dsimp only;rw[bt,Nm];dsimp only;rw[QX rfl,QX QR,QX QR,NG,dG,Pr.bind_of ht];rcases qr_l1 n s hs hn m fuel (k+1) (acc ++ [⟨nm,ps⟩]) j QR QR r4 (by rw[Nr,u]; rfl) with⟨e,st,o,p,z,t⟩ | ⟨l,r',o,p,z,t⟩
  ·exact .inl ⟨e,st,by rw[Pr.bind_err o],p,z,t⟩
  ·refine .inr ⟨⟨nm,ps⟩::l,r',by rw[Pr.bind_of o]; rfl,?_,by omega,t⟩;rw[p,Ny,show k+1+m=k+(m+1) by omega];rfl
theorem I8 (v:Int):CB (fun st=>eI st v) (qv v) zQ:=by
 have tail: ∀ (b:Bl) (a t:Int) (st:I),st.err≠0->((iC st).bind fun (m,d)=>(if m=0 then ((cH (⟨b,a,t,[]⟩:aB) v).bind fun g=>(if g=0 then some d else ((cm d g).bind fun i=>some i)).bind fun j=>some j) else some d).bind fun k=>(iC k).bind fun (n,f)=>if n=0 then (some ((⟨b,a,t,[]⟩:aB),f)) else (some ((⟨(⟨false,[]⟩:Bl),0,0,[]⟩:aB),f)))=some (zQ,st):=by
  intro b a t st h;rw[bt,Nm];dsimp only;rw[QY h,Nm,bt,Nm];dsimp only;rw[QY h];rfl
 have dead: ∀ (b:Bl) (a t:Int) (st:I),st.err≠0->((jK st 4 6).bind fun (B,C)=>(dr B ((B).toNat+1) 0 [] C).bind fun e=>match e with | .ret r=>some r | .go (O,w,y)=>((iC y).bind fun (m,d)=>(if m=0 then ((cH (⟨b,a,t,w⟩:aB) v).bind fun g=>(if g=0 then some d else ((cm d g).bind fun i=>some i)).bind fun j=>some j) else some d).bind fun k=>(iC k).bind fun (n,f)=>if n=0 then (some ((⟨b,a,t,w⟩:aB),f)) else (some ((⟨(⟨false,[]⟩:Bl),0,0,[]⟩:aB),f))))=some (zQ,st):=by
  intro b a t st h;rw[nA h QS QS,Nm];dsimp only;rw[show (0:Int).toNat+1=0+1 from rfl,gO,QY QS,Nm];exact tail b a t st h
 refine⟨fun st h=> ?_,fun s q hs hq=> ?_⟩
 ·show eI st v= _;unfold eI;rw[mh h,Nm];dsimp only;rw[lG h,Nm];dsimp only;rw[lG h,Nm];exact dead _ _ _ st h
 ·show (∃ e st,qv v s q= _/\eI _ v= _/\ _/\ _)\/(∃ a r,qv v s q= _/\eI _ v= _/\ _/\ _);unfold eI;rcases QF2.run s q hq with⟨e,st,o,D,P,z⟩ | ⟨b,Q,o,D,n1,R⟩
  ·refine .inl ⟨e,st,Pr.bind_err o,?_,P,z⟩;rw[D,Nm];dsimp only;rw[lG z,Nm];dsimp only;rw[lG z,Nm];exact dead _ _ _ st z
  rw[D,Nm];dsimp only;rcases Q2.run s Q R with⟨e,st,p,E,S,F⟩ | ⟨a,T,p,E,n2,L⟩
  ·refine .inl ⟨e,st,by rw[qv,Pr.bind_of o,Pr.bind_err p],?_,S,F⟩;rw[E,Nm];dsimp only;rw[lG F,Nm];exact dead _ _ _ st F
  rw[E,Nm];dsimp only;rcases Q4.run s T L with⟨e,st,u,G,U,M⟩ | ⟨t,N,u,G,n3,H⟩
  ·refine .inl ⟨e,st,by rw[qv,Pr.bind_of o,Pr.bind_of p,Pr.bind_err u],?_,U,M⟩;rw[G,Nm];exact dead _ _ _ st M
  rw[G,Nm];dsimp only;rcases (tz 4 6 QS QS 4 6 rfl rfl QS).run s N H with⟨e,st,x,J,V,K⟩ | ⟨c,W,x,J,n4,X⟩
  ·refine .inl ⟨e,st,by rw[qv,Pr.bind_of o,Pr.bind_of p,Pr.bind_of u,Pr.bind_err]; rw[fR,Pr.bind_err x],?_,V,K⟩;have:=dead b a t st K;rw[nA K QS QS] at this;rw[J];exact this
  obtain⟨c1,c2,c3,c4,c5,c6⟩:=g8 QS QS H x;have c2:=c2 QS;rw[J,Nm];dsimp only;rcases qr_l1 c s hs QR c.toNat (c.toNat+1) 0 [] W QR QR X rfl with⟨e,st,r1,r2,r3,r4⟩ | ⟨l,A,r1,r2,r3,r4⟩
  ·refine .inl ⟨e,st,by rw[qv,Pr.bind_of o,Pr.bind_of p,Pr.bind_of u,Pr.bind_err]; rw[fR,Pr.bind_of x,r1],?_,r3,by rw[r3]; exact r4⟩;rw[r2];rfl
  have hl:fR 4 6 eR s N= .ok (l,A):=by rw[fR,Pr.bind_of x,r1]
  obtain⟨d1,d2,Y,d4,d5⟩:=nE.spell _ _ _ _ H hl;obtain⟨t1,t2,t3,t4,t5⟩:=(bX 4 QS QS).spell _ _ _ _ L u;rw[Nr,aH] at Y;have hg:gdQ ⟨b,a,t,l⟩:=D8 t5 d5.2 QR;rw[r2,Nm];dsimp only;rw[bt,Nm];dsimp only;rw[QX rfl,NG,I4 _ v hg,Nm,qv,Pr.bind_of o,Pr.bind_of p,Pr.bind_of u,Pr.bind_of hl];by_cases hc:wm v ⟨b,a,t,l⟩=0
  ·rw[QX hc,QX hc];exact .inr ⟨_,A,rfl,rfl,by omega,r4⟩
  ·rw[QY hc,QY hc,dD,tv];refine .inl ⟨_,⟨s.drop A,A,wm v ⟨b,a,t,l⟩⟩,rfl,?_,rfl,hc⟩;rw[Nm,Nm,Nm,bt,Nm];dsimp only;rw[QY hc];rfl
def zF:aI:=⟨Hs,zB,zA,zE,[],zQ⟩
def frB (h:eU) (x:bf):aI:=⟨h,x,zA,zE,[],zQ⟩
def frA (h:eU) (x:bQ):aI:=⟨h,zB,x,zE,[],zQ⟩
def frE (h:eU) (x:bP):aI:=⟨h,zB,zA,x,[],zQ⟩
def frM (h:eU) (x:List aU):aI:=⟨h,zB,zA,zE,x,zQ⟩
def frP (h:eU) (x:aB):aI:=⟨h,zB,zA,zE,[],x⟩
def r9 (v:Int):Pr bf:=if v>0 then xG v else zt v
theorem D9 (v:Int):CB (fun st=>eO st v) (r9 v) zB:=by
 unfold r9;by_cases hv:v>0
 ·rw[QX hv]; exact B_beg1 v hv
 ·rw[QY hv]; exact B_beg0 v hv
def pU (h:eU):Pr aI :=
 if h.MH=22 then (r9 h.MG).map (frB h) else if h.MH=24 then rX.map (frA h) else if h.MH=26 then rW.map (frE h)
 else if h.MH=27 then (g9 h.MG).map (frM h) else (qv h.MG).map (frP h)
def pIn:Pr aI:=tw.bind pU
def sL (s:AI):Except Int (aI×Nat)->aI×Int
 | .error e=>(zF,e)
 | .ok (f,r)=>if r<s.length then (zF,2) else (f,0)
def opn (s:AI):aI×Int:=sL s (pIn s 0)
theorem I9 {st:I} (h:st.err≠0):fS st=st:=by
 unfold fS dC;rw[QY h];split <;> rfl
theorem Ja (s:AI) (r:Nat) (hr:r<=s.length):fS ⟨s.drop r,r,0⟩=if r<s.length then ⟨s.drop r,r,2⟩ else ⟨s.drop r,r,0⟩:=by
 unfold fS dC;by_cases h:r<s.length
 ·rw[QX h,QY (by intro a; have:=congrArg List.length a; rw[Nx] at this; simp at this; omega)];rfl
 ·rw[QY h,QX (by rw[List.drop_eq_nil_iff]; omega)]
theorem rj {α:Type} {op:I->Option (α×I)} {p:Pr α} {z:α} (h:CB op p z) (g:α->aI) (s:AI) (q:Nat) (hs:s.length<=1000000) (hq:q<=s.length) :
 ((op ⟨s.drop q,q,0⟩).bind fun (i,c)=>(ew c).bind fun (b,k)=>if b=0 then some (g i,0) else some (zF,b))=some (sL s ((p.map g) s q)):=by
 rcases h.run s q hs hq with⟨e,st,d,f,l,j⟩ | ⟨a,r,d,f,n,m⟩
 ·rw[f,Pr.map,Pr.bind_err d];simp only[Nm,gP,I9 j];rw[QY j,l];rfl
 ·rw[f,Pr.map,Pr.bind_of d];simp only[Nm,gP,Ja s r m,Pr.ret,sL];by_cases hr:r<s.length
  ·rw[QX hr,QX hr];rfl
  ·rw[QY hr,QY hr];rfl
theorem Ki (s:AI) (hs:s.length<=1000000):lc s=some (opn s):=by
 unfold lc opn pIn;rw[kC s QR];simp only[Nm];have j:=Dy.run s 0 (NH _);rw[List.drop_zero] at j;rcases j with⟨e,st,g,i,k,l⟩ | ⟨h,r,g,i,m,f⟩
 ·rw[i,Pr.bind_err g];simp only[Nm,bt];rw[QY l,k];rfl
 ·rw[i,Pr.bind_of g];simp only[Nm,bt];rw[QX trivial];unfold pU;by_cases a:h.MH=22
  ·rw[QX a,QX a]; exact rj (D9 h.MG) (frB h) s r hs f
  rw[QY a,QY a];by_cases b:h.MH=24
  ·rw[QX b,QX b]; exact rj Ia (frA h) s r hs f
  rw[QY b,QY b];by_cases c:h.MH=26
  ·rw[QX c,QX c]; exact rj H9 (frE h) s r hs f
  rw[QY c,QY c];by_cases d:h.MH=27
  ·rw[QX d,QX d]; exact rj (AL h.MG) (frM h) s r hs f
  rw[QY d,QY d];exact rj (I8 h.MG) (frP h) s r hs f
def Ea:Pr aI:=fun s q=>match bT 4 s q with
 | .error e=> .error e
 | .ok (n,r)=>if n<0 then .error 4 else if (s.length:Int) - r<n then .error 1 else if (opn ((s.drop r).take n.toNat)).2=0 then .ok ((opn ((s.drop r).take n.toNat)).1,r+n.toNat) else .error (opn ((s.drop r).take n.toNat)).2
theorem Kj (l:AI) (q:Nat) {n:Int} (h:n<0):cD ⟨l,q,0⟩ n=([],⟨l,q,4⟩):=by
 unfold cD;rw[QY (by simp),QX h]
theorem Gw (l:AI) (q:Nat) {n:Int} (h: ¬ n<0) (a:(l.length:Int)<n):cD ⟨l,q,0⟩ n=([],⟨l,q,1⟩):=by
 unfold cD;rw[QY (by simp),QY h,QX a]
theorem itk_ok (l:AI) (q:Nat) {n:Int} (h: ¬ n<0) (a: ¬ (l.length:Int)<n):cD ⟨l,q,0⟩ n=(l.take n.toNat,⟨l.drop n.toNat,q+n.toNat,0⟩):=by
 unfold cD;rw[QY (by simp),QY h,QY a]
theorem B_frm:CB iy Ea zF:=by
 refine⟨fun st h=> ?_,fun s q hs hq=> ?_⟩
 ·unfold iy;rw[lG h];simp only[Nm,oE _ _ (by decide:(-9223372036854775808:Int)<=0/\(0:Int)<=9223372036854775807),cD,QX h,bt,QY h];rfl
 ·unfold iy Ea;rcases Q4.run s q hq with⟨e,st,c,d,i,f⟩ | ⟨n,r,c,d,j,k⟩
  ·refine .inl ⟨e,st,by rw[c],?_,i,f⟩;rw[d];simp only[Nm,oE _ _ (by decide:(-9223372036854775808:Int)<=0/\(0:Int)<=9223372036854775807),cD,QX f,bt,QY f];rfl
  ·have hn:=d7 ((bX 4 QS QS).spell s q n r hq c).2.2.2.2;rw[c,d];simp only[Nm,oE _ _ hn,bt];by_cases a:n<0
   ·rw[QX a,Kj _ _ a];exact .inl ⟨4,⟨s.drop r,r,4⟩,rfl,rfl,rfl,by simp⟩
   rw[QY a];by_cases g:(s.length:Int) - r<n
   ·rw[QX g,Gw _ _ a (by rw[Nx]; omega)];exact .inl ⟨1,⟨s.drop r,r,1⟩,rfl,rfl,rfl,by simp⟩
   rw[QY g,itk_ok _ _ a (by rw[Nx]; omega)];rw[QX rfl,Ki _ (by rw[NL,Nx]; omega)];simp only[Nm,Oa];by_cases b:(opn ((s.drop r).take n.toNat)).2=0
   ·rw[QX b,QX b];exact .inr ⟨_,r+n.toNat,rfl,rfl,by omega,by omega⟩
   ·rw[QY b,QY b,dD];exact .inl ⟨_,dC ⟨s.drop (r+n.toNat),r+n.toNat,0⟩ (opn ((s.drop r).take n.toNat)).2,rfl,rfl,rfl,b⟩
def vI (s:AI) (q k:Nat):Int:=bC ((s.drop q).take k)
def vals (s:AI):List Nat->Nat->List Int
 | [],_ => []
 | k::ks,q=>vI s q k::vals s ks (q+k)
theorem yu (s:AI): ∀ (ks:List Nat) (q:Nat),q+ks.sum<=s.length->rZ ks s q= .ok (vals s ks q,q+ks.sum)
 | [],q,_=>rfl
 | k::ks,q,h=>by
  rw[List.sum_cons] at h;have a:bT k s q= .ok (vI s q k,q+k):=by unfold bT; rw[QY QR]; rfl
  rw[rZ,Pr.bind_of a,Pr.bind_of (yu s ks (q+k) QR),List.sum_cons,<- Nat.add_assoc];rfl
theorem vF (s:AI): ∀ (ks:List Nat) (q:Nat),q<=s.length->s.length<q+ks.sum->rZ ks s q= .error 1
 | [],q,b,a=>by rw[List.sum_nil] at a; omega
 | k::ks,q,b,a=>by
  rw[List.sum_cons] at a;rw[rZ];by_cases h:s.length<q+k
  ·exact Pr.bind_err (by unfold bT; rw[QX h])
  ·have c:bT k s q= .ok (vI s q k,q+k):=by unfold bT; rw[QY h]; rfl
   rw[Pr.bind_of c,Pr.bind_err (vF s ks (q+k) QR QR)]
def pOf (s:AI):Pfx:=⟨vI s 0 8,vI s 8 4,vI s 12 4,vI s 17 4 % 4294967296,vI s 21 2,vI s 23 4,vI s 27 8,vI s 35 8,vI s 43 8,vI s 51 2,vI s 53 4,vI s 57 4⟩
def eOf (s:AI):Int:=ckE (vI s 8 4) (vI s 16 1) (vI s 57 4)
theorem Kk (s:AI) (h:61<=s.length):xQ s 0=if eOf s=0 then .ok (pOf s,61) else .error (eOf s):=by
 rw[xQ,Pr.bind_of (yu s KS 0 (by show 0+61<= _; omega))];show (if eOf s=0 then Pr.ret (pOf s) else Pr.err (eOf s)) s 61= _;by_cases he:eOf s=0
 ·rw[QX he,QX he]; rfl
 ·rw[QY he,QY he]; rfl
theorem Gx (s:AI) (h:61<=s.length):okI KS (vals s KS 0):=((ru KS Cg).spell s 0 _ _ (NH _) (yu s KS 0 (by show 0+61<= _; omega))).2.2.2.2
theorem r10_at (s:AI) (a k:Nat) (h:a+k<=s.length) (hk:k<=8) (hl:s.length<=1000000):fe s (a:Int) (k:Int)=some (vI s a k):=by
 unfold fe;rw[QX QR,QX QR,show ((a:Int)+(k:Int)).toNat - (a:Int).toNat=k by omega,NR,dc _ (by rw[NL]; omega)];rfl
theorem Eb (s:AI) (h:61<=s.length) (hl:s.length<=1000000):ik s=some (if eOf s=0 then (n9 (pOf s),0) else ([],eOf s)):=by
 have hf:=(Gx s h).2.2.2.2.1;have hs:bA (vI s 17 4) 4=true:=hf;rw[iO] at hs;have hs:=of_decide_eq_true hs;have hy:(if vI s 17 4<0 then (if A0 (vI s 17 4+4294967296) then some (vI s 17 4+4294967296) else none) else some (vI s 17 4))=some (vI s 17 4 % 4294967296):=by
  by_cases q:vI s 17 4<0
  ·rw[QX q,QX QR]; congr 1; omega
  ·rw[QY q]; congr 1; omega
 unfold ik;rw[QY QR];have A:=fun (a k:Nat) (c:a+k<=61) (b:k<=8)=>r10_at s a k QR b hl;have a1:=A 17 4 QS QS;have a2:=A 0 8 QS QS;have a3:=A 8 4 QS QS;have a4:=A 12 4 QS QS;have a5:=A 21 2 QS QS;have a6:=A 23 4 QS QS;have a7:=A 27 8 QS QS;have a8:=A 35 8 QS QS;have a9:=A 43 8 QS QS;have a10:=A 51 2 QS QS;have a11:=A 53 4 QS QS;have a12:=A 57 4 QS QS;have a13:=A 16 1 QS QS;simp only[Int.cast_ofNat_Int] at a1 a2 a3 a4 a5 a6 a7 a8 a9 a10 a11 a12 a13;rw[a1,Nm,hy,Nm,a2,Nm,a3,Nm,a4,Nm,a5,Nm,a6,Nm,a7,Nm,a8,Nm,a9,Nm,a10,Nm,a11,Nm,a12,Nm,a13,Nm];unfold eOf ckE;by_cases c:vI s 16 1=2
 ·rw[QX c,QX c];show ((some (vI s 8 4)).bind _)= _;rw[Nm];by_cases b:vI s 8 4<49
  ·rw[QX b,QX b,QY QS]
  ·rw[QY b,QY b];show ((some (vI s 57 4)).bind _)= _;rw[Nm];by_cases d:vI s 57 4<0
   ·rw[QX d,QX d,QY QS]
   ·rw[QY d,QY d,QX rfl];rfl
 ·rw[QY c,QY c,QY QS]
def fzB:Bat:=⟨0,0,false,false,false,0,0,0,0,0,0,[]⟩
theorem Fm (c:List Int) (n:Int) (a:c[11]? = some n) (hn:n<=4294967296) (s:AI) (hs:s.length<=1000000): ∀ (m k fuel:Nat) (acc:List Rec) (q:Nat),((k+m:Nat):Int)=n->m<fuel->q<=s.length->acc.length+(s.length - q)<=1000000 ->
 (∃ e,ob m s q= .error e/\e≠0/\eZ c fuel (s.drop q) k acc=some (.ret ⟨fzB,0,e⟩))\/(∃ l r,ob m s q= .ok (l,r)/\eZ c fuel (s.drop q) k acc=some (.go (s.drop r,k+m,acc++l)))
 | 0,k,fuel+1,acc,q,p,t,d,u=> .inr ⟨[],q,rfl,by rw[eZ,a,Nm,QY QR,NQ]; rfl⟩
 | m+1,k,fuel+1,acc,q,p,t,d,u=>by
  have hd:(s.drop q).length=s.length - q:=Nx;rw[eZ,a,Nm,QX QR];by_cases hq:q=s.length
  ·refine .inl ⟨10,Pr.bind_err (QX hq),by decide,?_⟩;rw[QX (by rw[hq,List.drop_length])];rfl
  have f:Cu s q= .ok ((),q):=QY hq;rw[QY (by intro h; rw[h,Ov] at hd; omega)];rcases Iu s q d hs with⟨e,m',b,o,g⟩ | ⟨x,r,b,y,v,g⟩
  ·refine .inl ⟨e,by rw[ob,Pr.bind_of f,Pr.bind_err b],o,?_⟩;rw[g,Nm,QY o];rfl
  ·have a3:=(AU.spell s q x r d b).2.2.1;have a4:=pR x;rw[g,Nm,QX rfl,QX QR,QX (by dsimp only; rw[NR]; omega),QX QR];dsimp only;rw[NR,Oa,show q+(r - q)=r by omega];rcases Fm c n a hn s hs m (k+1) fuel (acc ++ [x]) r QR QR v (by rw[Nr,OA]; omega) with⟨e,i,j,w⟩ | ⟨l,r',i,j⟩
   ·exact .inl ⟨e,by rw[ob,Pr.bind_of f,Pr.bind_of b,Pr.bind_err i],j,w⟩
   ·refine .inr ⟨x::l,r',by rw[ob,Pr.bind_of f,Pr.bind_of b,Pr.bind_of i]; rfl,?_⟩;rw[j,Ny,show k+1+m=k+(m+1) by omega];rfl
theorem be_low (n:Int): ∃ a b,be n 2 = [a,b]/\(b.toNat:Int) % 8=n % 8:=by
 refine⟨_,_,rfl,?_⟩;rw[UInt8.toNat_ofNat'];rw[Int.pow_zero,Int.ediv_one];omega
theorem Gy {s:AI} {p:Pfx} (hl:(pe p).length=61) (hd:s.take 61=pe p) (c:61<=s.length) (L:Nat) (hL:49<=L):(s.drop 21).take (L+12 - 21)=fv p++(s.drop 61).take (L - 49):=by
 have a:s=pe p++s.drop 61:=by rw[<- hd,List.take_append_drop]
 have d:(fv p).length=40:=by rw[<- pf p,Nx,hl]
 have b:s.drop 21=fv p++s.drop 61:=by
  conv=>lhs; rw[a]
  rw[Fa,Ny,<- zO p,List.drop_left]
 rw[b,show L+12 - 21=(fv p).length+(L - 49) by omega,List.take_length_add_append]
theorem attr_y {n:Int} (c:n % 8=0):((if n<0 then some true else (if n>63 then some true else (if n>=32 then (if 0<=n/\n<=9223372036854775807 then (if (n % 32)<16 then some true else some false) else none) else some false))):Option Bool)=some (decide (dz n≠0)):=by
 unfold dz;rw[QY (show ¬ (n % 8≠0) by omega)];by_cases a:n<0
 ·rw[QX a,QX (.inl a)]; rfl
 by_cases c2:n>63
 ·rw[QY a,QX c2,QX (.inr (.inl QR))]; rfl
 rw[QY a,QY c2];have b:n=0\/n=8\/n=16\/n=24\/n=32\/n=40\/n=48\/n=56:=by omega
 rcases b with rfl | rfl | rfl | rfl | rfl | rfl | rfl | rfl <;> decide
theorem CH {n:Int} (h:dz n=0):n % 8=0/\0<=n/\n<=63:=by
 unfold dz at h;split at h
 ·cases h
 ·split at h
  ·cases h
  ·omega
theorem Jb {n:Int} (a:n % 8=0) (h:dz n≠0):dz n=8:=by
 unfold dz at h ⊢;rw[QY QR] at h ⊢;split at h
 ·rename_i g; rw[QX g]
 ·exact absurd rfl h
theorem bits_d {n:Int} (h:dz n=0):decide (n / 8 % 2=1)=ey n 3/\decide (n / 16 % 2=1)=ey n 4/\decide (n / 32=1)=ey n 5:=by
 obtain⟨b,a,c⟩:=CH h;have a:n=0\/n=8\/n=16\/n=24\/n=32\/n=40\/n=48\/n=56:=by omega
 rcases a with rfl | rfl | rfl | rfl | rfl | rfl | rfl | rfl <;> decide
theorem Jc (s:AI) (hs:s.length<=1000000):(∃ e,tH s 0= .error e/\e≠0/\ke s=some ⟨fzB,0,e⟩)\/(∃ b r,tH s 0= .ok (b,r)/\r<=s.length/\ke s=some ⟨b,(r:Int),0⟩):=by
 by_cases d:61<=s.length;rotate_left
 ·have hF:ik s=some ([],1):=by unfold ik; rw[QX QR]
  have hp:xQ s 0= .error 1:=Pr.bind_err (vF s KS 0 (NH _) (by show _<0+61; omega));refine .inl ⟨1,by unfold tH; rw[hp],by decide,?_⟩;unfold ke;rw[hF];rfl
 have hp:=Kk s d;have hB:tH s 0=tH s 0:=rfl
 conv at hB=>rhs; unfold tH; rw[hp]
 unfold ke;rw[Eb s d hs,Nm];by_cases c:eOf s=0;rotate_left
 ·rw[QY c] at hB;rw[QY c];dsimp only;rw[QY c];exact .inl ⟨_,hB,c,rfl⟩
 rw[QX c] at hp hB;rw[QX c];obtain⟨a1,a2,a3,a4,ap⟩:=xR.spell s 0 _ _ (NH _) hp;rw[List.take_zero,NG] at a4;obtain⟨g,x,y,z⟩:=id ap;have hL:=wI4 g.2.1;have hA:=wI2 g.2.2.2.2.2.1;have hC:=wI4 g.2.2.2.2.2.2.2.2.2.2.2.2.1;have m:=re g;generalize pOf s=p at *;try dsimp only at hL hA hC
 dsimp only at hB ⊢;rw[QX rfl,show (n9 p)[1]? = some p.MY from rfl,Nm,QX QR];by_cases hl:s.length<61+(p.MY - 49).toNat
 ·rw[QX hl] at hB;rw[QX QR];exact .inl ⟨1,hB,by decide,rfl⟩
 rw[QY hl] at hB;rw[QY QR,show (n9 p)[3]? = some p.Nb from rfl,Nm,QX QR,Kd _ (by rw[NL,Nx]; omega),Nm];have hsp:=Gy m a4 d p.MY.toNat QR;rw[show p.MY.toNat+12 - 21=(p.MY+12).toNat - 21 by omega,show p.MY.toNat - 49=(p.MY - 49).toNat by omega] at hsp;rw[hsp];have hlt:om 0 (fv p++(s.drop 61).take (p.MY - 49).toNat)<4294967296:=wA QS _;rw[QX QR];by_cases hsum:((DW p ((s.drop 61).take (p.MY - 49).toNat):Nat):Int)=p.Nb;rotate_left
 ·rw[QY hsum] at hB;rw[QY (show ¬ (((om 0 (fv p++(s.drop 61).take (p.MY - 49).toNat):Nat):Int)=p.Nb) from hsum)];exact .inl ⟨5,hB,by decide,rfl⟩
 rw[QX hsum] at hB;rw[QX (show ((om 0 (fv p++(s.drop 61).take (p.MY - 49).toNat):Nat):Int)=p.Nb from hsum),show (n9 p)[4]? = some p.Na from rfl,Nm,C7 _ _ QR,Nm];obtain⟨ca,cb,hc1,hc2⟩:=be_low p.Na;rw[show (2:Int).toNat=2 from rfl,hc1,show ([ca,cb]:AI)[1]? = some cb from rfl,Nm,QX QR,hc2];unfold rh at hB;by_cases f:p.Na % 8=0;rotate_left
 ·have hk:dz p.Na=9:=QX f;rw[QY (by rw[hk]; decide),hk] at hB;rw[QY f];exact .inl ⟨9,hB,by decide,rfl⟩
 rw[QX f,attr_y f,Nm];by_cases hk:dz p.Na=0;rotate_left
 ·rw[QY hk,Jb f hk] at hB;rw[QX (Nn hk)];exact .inl ⟨8,hB,by decide,rfl⟩
 obtain⟨t,u,v⟩:=bits_d hk;have hr:=CH hk;rw[QX hk] at hB;rw[QY (by rw[decide_eq_true_eq]; exact fun h=>h hk)];rw[show (n9 p)[0]? = some p.M4 from rfl,Nm,show (n9 p)[2]? = some p.MW from rfl,Nm,show (n9 p)[5]? = some p.MZ from rfl,Nm,show (n9 p)[6]? = some p.MN from rfl,Nm,show (n9 p)[7]? = some p.M7 from rfl,Nm,show (n9 p)[8]? = some p.Mx from rfl,Nm,show (n9 p)[9]? = some p.Mz from rfl,Nm,show (n9 p)[10]? = some p.MP from rfl,Nm];rw[QX QR,QX QR,QX QR,QX QR,QX QR,QX QR];rw[show (((n9 p)[11]?).map (fun n=>(n).toNat+1)).getD 0=p.Nc.toNat+1 from rfl,show (p.MY+12).toNat - 61=(p.MY - 49).toNat by omega];simp only[ite_self,t,u,v];have hn:((s.drop 61).take (p.MY - 49).toNat).length=(p.MY - 49).toNat:=by rw[NL,Nx]; omega
 generalize (s.drop 61).take (p.MY - 49).toNat=b at hn hB;rcases Fm (n9 p) p.Nc rfl QR b QR p.Nc.toNat 0 (p.Nc.toNat+1) [] 0 QR QR (NH _) (by rw[Ov]; omega) with⟨e,i,j,o⟩ | ⟨l,r,i,j⟩
 ·rw[List.drop_zero] at o;rw[i] at hB;rw[o];exact .inl ⟨e,hB,j,rfl⟩
 ·obtain⟨A,B,q,C,w⟩:=pS _ b 0 l r (NH _) i;rw[List.drop_zero] at j;rw[i] at hB;rw[j,Nm];dsimp only at hB ⊢;by_cases k:r<b.length
  ·rw[QX k] at hB;rw[QY (by intro h; have:=congrArg List.length h; rw[Nx,Ov] at this; omega)];exact .inl ⟨10,hB,by decide,rfl⟩
  rw[List.take_of_length_le QR,List.take_zero,NG] at q;rw[QY k] at hB;rw[QX (List.drop_eq_nil_of_le QR),NG];have hbb:=sJ ap w (by rw[<- q]; omega);rw[show (⟨p.M4,p.MW,ey p.Na 3,ey p.Na 4,ey p.Na 5,p.MZ,p.MN,p.M7,p.Mx,p.Mz,p.MP,l⟩:Bat)=mkB p l from rfl,(yi hbb).2,Nm];by_cases a:chk (mkB p l)=0
  ·rw[QX a] at hB;rw[QX a];refine .inr ⟨_,_,hB,by omega,?_⟩;rw[show ((61+(p.MY - 49).toNat:Nat):Int)=p.MY+12 by omega]
  ·rw[QY a] at hB;rw[QY a];exact .inl ⟨_,hB,a,rfl⟩
theorem Fo: ∀ ks:List Nat,(∀ k,k∈ks->1<=k/\k<=8)->Sh (rZ ks)
 | [],_=> .ret []
 | k::ks,h=>(iB k).bind (bX k (h k (.head _)).1 (h k (.head _)).2) fun a=>(Fo ks (fun j hj=>h j (.tail _ hj))).bind (ru ks (fun j hj=>h j (.tail _ hj))) fun l=> .ret _
theorem Sh_pfx:Sh xQ:=(Fo KS Cg).bind (ru KS Cg) fun l=>by
 unfold chkP;split
 ·split
  ·exact .ret _
  ·exact .err _
 ·exact .err _
theorem Sh_bat:Sh tH:=by
 intro s q k h;have hd:(s.drop q).length=s.length - q:=Nx;unfold tH;rw[Sh_pfx s q k h]
 cases hx:xQ (s.drop q) k with
 | error e=>rfl
 | ok x =>
  obtain⟨p,r⟩:=x;have a2:=(xR.spell (s.drop q) k p r QR hx).2.1;show (if s.length<q+r+(p.MY - 49).toNat then Except.error 1 else _)=shift q (if (s.drop q).length<r+(p.MY - 49).toNat then Except.error 1 else _);rw[Oa];by_cases hl:s.length<q+r+(p.MY - 49).toNat
  ·rw[QX hl,QX QR];rfl
  rw[QY hl,QY (show ¬ ((s.drop q).length<r+(p.MY - 49).toNat) by omega)];generalize (s.drop (q+r)).take (p.MY - 49).toNat=b;by_cases hs:((DW p b:Nat):Int)=p.Nb
  ·rw[QX hs,QX hs]
   cases rh p b with
   | error e=>rfl
   | ok x=>simp only[shift,Nat.add_assoc]
  ·rw[QY hs,QY hs];rfl
theorem Fp (b:AI) (hb:b.length<=1000000): ∀ (n fuel:Nat) (acc:List Bat) (q:Nat),q<=b.length->b.length - q<=n->b.length - q+1<fuel->acc.length+(b.length - q)<=1000000 ->
 (∃ e,qb n b q= .error e/\e≠0/\fJ fuel 0 0 (b.drop q) acc=some (.ret ((⟨0,[]⟩:en),0,e)))\/(∃ l,qb n b q= .ok (l,b.length)/\fJ fuel 0 0 (b.drop q) acc=some (.go (0,0,[],acc++l)))
 | n,0,acc,q,hq,hn,hf,_=>absurd hf QR
 | n,fuel+1,acc,q,hq,hn,hf,ha=>by
  have hd:(b.drop q).length=b.length - q:=Nx;rw[fJ];by_cases he:q=b.length
  ·have f:b.drop q = []:=by rw[he,List.drop_length]
   rw[QX f,f];refine .inr ⟨[],?_,by rw[NQ]⟩
   cases n with
   | zero=>rw[he]; rfl
   | succ n=>rw[he]; exact QX rfl
  rw[QY (by intro h; rw[h,Ov] at hd; omega)]
  cases n with
  | zero=>omega
  | succ n =>
  unfold qb;rw[QY he];have hsh:=Sh_bat b q 0 QR;rw[Nat.add_zero] at hsh;rcases Jc (b.drop q) QR with⟨e,a,i,g⟩ | ⟨x,r,a,k,g⟩
  ·rw[a] at hsh;refine .inl ⟨e,by rw[Pr.bind_err hsh],i,?_⟩;rw[g,Nm,QY i]
  ·rw[a] at hsh;have hsp:=AZ.spell b q x (q+r) hq hsh;have hp:=ph hsp.2.2.2.2;have m:=hsp.2.2.1;rw[g,Nm,QX rfl,QX QR,QX (by dsimp only; rw[NR]; omega)];dsimp only;rw[NR,Oa];rcases Fp b hb n fuel (acc ++ [x]) (q+r) QR QR QR (by rw[Nr,OA]; omega) with⟨e,c,d,j⟩ | ⟨l,c,d⟩
   ·exact .inl ⟨e,by rw[Pr.bind_of hsh,Pr.bind_err c],d,j⟩
   ·exact .inr ⟨x::l,by rw[Pr.bind_of hsh,Pr.bind_of c]; rfl,by rw[d,Ny]; rfl⟩
theorem Jd (s:AI) (hs:s.length<=1000000) (q:Nat) (hq:q<=s.length) :
 (∃ e,j5 s q= .error e/\e≠0/\lA (s.drop q)=some ((⟨0,[]⟩:en),0,e))\/(∃ p r,j5 s q= .ok (p,r)/\q<=r/\r<=s.length/\lA (s.drop q)=some (ofP p,((r - q:Nat):Int),0)):=by
 have hd:(s.drop q).length=s.length - q:=Nx;unfold lA;by_cases h:((s.drop q).length:Int)<4
 ·rw[QX h];exact .inl ⟨1,Pr.bind_err (by unfold bT; rw[QX QR]),by decide,rfl⟩
 have a:bT 4 s q= .ok (bC ((s.drop q).take 4),q+4):=by unfold bT; rw[QY QR]
 rw[QY h,QX QR,dc _ (by rw[NL]; omega),Nm,QX QR,Oa,iY _ _ ⟨by decide,by decide,by rw[Nx]; omega⟩,Nm,show (4:Int).toNat=4 from rfl];generalize bC ((s.drop q).take 4)=i at a;rcases nw s (q+4) 4 QS QS QR with⟨e,c,f,g⟩ | ⟨b,d,c,f,g,j⟩
 ·refine .inl ⟨e,by rw[j5,Pr.bind_of a,Pr.bind_err]; rw[ot,fZ,Pr.bind_err c],f,?_⟩;rw[g,QY f]
 rw[j,QX rfl];dsimp only;have k:=(eJ 4 QS QS).spell _ _ _ _ QR c;have hbl:b.data.length<=1000000:=by
  have:=k.2.2.1;rw[Nr] at this;omega
 by_cases hb:b.null=true
 ·rw[QX hb];exact .inl ⟨4,by rw[j5,Pr.bind_of a,Pr.bind_err]; rw[ot,fZ,Pr.bind_of c,QX hb]; rfl,by decide,rfl⟩
 have hx:ot s (q+4)= .ok (b.data,d):=by
  rw[ot,fZ,Pr.bind_of c,QY hb];rfl
 rw[QY hb];rcases Fp b.data hbl b.data.length ((((b.data.length:Int))+1).toNat+1) [] 0 (NH _) QR QR (by rw[Ov]; omega) with⟨e,r1,r2,r3⟩ | ⟨l,r1,r2⟩
 ·rw[List.drop_zero] at r3;refine .inl ⟨e,?_,r2,by rw[r3]; rfl⟩;rw[j5,Pr.bind_of a,Pr.bind_of hx,r8,r1];rfl
 ·rw[List.drop_zero] at r2;refine .inr ⟨⟨i,l⟩,d,?_,by omega,g,?_⟩
  ·rw[j5,Pr.bind_of a,Pr.bind_of hx,r8,r1];rfl
  ·rw[r2,Nm];dsimp only;rw[QX QR,NG,show ((4:Int)+((d - (q+4):Nat):Int))=((d - q:Nat):Int) by omega];rfl
def zR20:aQ:=⟨⟨false,[]⟩,0,0,[]⟩
theorem z5 (s:AI) (q:Nat) (hq:q<=s.length) (hs:s.length<=1000000) (each:Nat) (he:1<=each):jg (s.drop q) (each:Int)=some (match fk 4 each s q with | .error e=>(0,e) | .ok (n,_)=>(n,0)):=by
 have hd:(s.drop q).length=s.length - q:=Nx;unfold jg fk;by_cases b:((s.drop q).length:Int)<4
 ·rw[QX b,Pr.bind_err (e:=1) (by unfold bT; rw[QX QR])]
 ·rw[QY b,QX QR,dc _ (by rw[NL]; omega),Pr.bind_of (a:=bC ((s.drop q).take 4)) (r:=q+4) (by unfold bT; rw[QY QR])];simp only[Nm];generalize bC ((s.drop q).take 4)=n;unfold j4;by_cases hn:n<0
  ·rw[QX hn,QX hn]
  ·rw[QY hn,QY hn,QX QR,QX QR,show ((s.drop q).length:Int) - 4=((s.length - (q+4):Nat):Int) by omega];by_cases hc:n>((s.length - (q+4):Nat):Int) / (each:Int)
   ·rw[QX hc,QX ⟨by omega,hc⟩]
   ·rw[QY hc,QY (fun h=>hc h.2)]
theorem vG {each:Nat} {s:AI} {q:Nat} {e:Int} (h:fk 4 each s q= .error e):e≠0:=by
 unfold fk at h
 cases hp:bT 4 s q with
 | error e' =>
  rw[Pr.bind_err hp] at h;unfold bT at hp;split at hp
  ·injection hp with hp;injection h with h;omega
  ·exact nomatch hp
 | ok x =>
  rw[Pr.bind_of (a:=x.1) (r:=x.2) hp] at h;unfold j4 at h;split at h
  ·injection h with h;omega
  ·split at h
   ·injection h with h;omega
   ·exact nomatch h
theorem Fq (n:Int) (s:AI) (hs:s.length<=1000000) (hn:n<=1000000): ∀ (m fuel k:Nat) (acc:List bh) (q:Nat),((k+m:Nat):Int)=n->m<fuel->q<=s.length->acc.length=k ->
 (∃ e,dG j5 m s q= .error e/\e≠0/\ez s n fuel 0 0 (q:Int) k (acc.map ofP)=some (.ret (zR20,0,e))) \/
 (∃ l r,dG j5 m s q= .ok (l,r)/\q<=r/\r<=s.length/\ez s n fuel 0 0 (q:Int) k (acc.map ofP)=some (.go (0,0,(r:Int),k+m,(acc++l).map ofP)))
 | 0,fuel+1,k,acc,q,f,h,a,c=> .inr ⟨[],q,rfl,N3 _,a,by rw[ez,QY QR,NQ]; rfl⟩
 | m+1,fuel+1,k,acc,q,f,h,a,c=>by
  rw[ez,QX QR,QX QR,NR];rcases Jd s hs q a with⟨e,b,d,g⟩ | ⟨p,r,b,o,i,g⟩
  ·refine .inl ⟨e,by rw[dG,Pr.bind_err b],d,?_⟩;rw[g,Nm];dsimp only;rw[QY d];rfl
  ·rw[g,Nm];dsimp only;rw[QX rfl,QX (by rw[N2]; omega),QX QR,QX QR,show ((q:Int)+((r - q:Nat):Int))=(r:Int) by omega];have j:acc.map ofP ++ [ofP p]=(acc ++ [p]).map ofP:=by rw[List.map_append]; rfl
   rw[j,dG,Pr.bind_of b];rcases Fq n s hs hn m fuel (k+1) (acc ++ [p]) r QR QR i (by rw[Nr,c]; rfl) with⟨e,r1,r2,r3⟩ | ⟨l,r',r1,r2,r3,r4⟩
   ·exact .inl ⟨e,by rw[Pr.bind_err r1],r2,r3⟩
   ·refine .inr ⟨p::l,r',by rw[Pr.bind_of r1]; rfl,by omega,r3,?_⟩;rw[r4,Ny,show k+1+m=k+(m+1) by omega];rfl
theorem Fs (n:Int) (s:AI) (hs:s.length<=1000000) (hn:n<=1000000): ∀ (m fuel k:Nat) (acc:List aN) (q:Nat),((k+m:Nat):Int)=n->m<fuel->q<=s.length->acc.length=k ->
 (∃ e,dG eR m s q= .error e/\e≠0/\fK s n fuel 0 0 (q:Int) k (acc.map ofT)=some (.ret (zR20,0,e))) \/
 (∃ l r,dG eR m s q= .ok (l,r)/\q<=r/\r<=s.length/\fK s n fuel 0 0 (q:Int) k (acc.map ofT)=some (.go (0,0,(r:Int),k+m,(acc++l).map ofT)))
 | 0,fuel+1,k,acc,q,w,y,h,t=> .inr ⟨[],q,rfl,N3 _,h,by rw[mr,QY QR,NQ]; rfl⟩
 | m+1,fuel+1,k,acc,q,w,y,h,t=>by
  rw[mr,QX QR,QX QR,NR,iY _ _ ⟨by decide,by decide,by rw[Nx]; omega⟩,show (2:Int).toNat=2 from rfl,Nm];rcases nw s q 2 QS QS h with⟨e,f,i,g⟩ | ⟨b,d,f,i,g,z⟩
  ·refine .inl ⟨e,by rw[dG,Pr.bind_err]; rw[eR,Pr.bind_err]; rw[jy,fZ,Pr.bind_err f],i,?_⟩;rw[g,QY i];rfl
  rw[z,QX rfl];dsimp only;by_cases hb:b.null=true
  ·rw[QX hb];refine .inl ⟨4,?_,by decide,rfl⟩;rw[dG,Pr.bind_err];rw[eR,Pr.bind_err];rw[jy,fZ,Pr.bind_of f,QX hb];rfl
  rw[QY hb,QX QR,QX QR,show ((q:Int)+((d - q:Nat):Int))=(d:Int) by omega,NR];have hx:jy s q= .ok (b.data,d):=by
   rw[jy,fZ,Pr.bind_of f,QY hb];rfl
  have hc:=z5 s d g hs 8 QS;rw[show ((8:Nat):Int)=8 from rfl] at hc;rw[hc,Nm]
  cases hp:fk 4 8 s d with
  | error e =>
   have he:=vG hp;dsimp only;rw[QY he];refine .inl ⟨e,?_,he,rfl⟩;rw[dG,Pr.bind_err];rw[eR,Pr.bind_of hx,Pr.bind_err];rw[fR,Pr.bind_err hp]
  | ok x =>
   obtain⟨c,u⟩:=x;obtain⟨C,c2,D,E,F,G⟩:=g8 QS QS g hp;have c2:=c2 QS;dsimp only;rw[QX rfl,QX QR,show ((d:Int)+4)=(u:Int) by omega];rcases Fq c s hs QR c.toNat (c.toNat+1) 0 [] u QR QR QR rfl with⟨e,r1,r2,r3⟩ | ⟨ps,j,r1,r2,r3,r4⟩
   ·rw[List.map_nil] at r3;refine .inl ⟨e,?_,r2,by rw[r3]; rfl⟩;rw[dG,Pr.bind_err];rw[eR,Pr.bind_of hx,Pr.bind_err];rw[fR,Pr.bind_of hp,r1]
   ·rw[List.map_nil,NG] at r4;rw[r4,Nm];dsimp only;rw[QX (by rw[N2]; omega),QX QR];have ht:eR s q= .ok (⟨b.data,ps⟩,j):=by
     rw[eR,Pr.bind_of hx,Pr.bind_of (a:=ps) (r:=j) (by rw[fR,Pr.bind_of hp,r1])];rfl
    have A:acc.map ofT ++ [(⟨b.data,ps.map ofP⟩:cz)]=(acc ++ [(⟨b.data,ps⟩:aN)]).map ofT:=by rw[List.map_append]; rfl
    rw[A,dG,Pr.bind_of ht];rcases Fs n s hs hn m fuel (k+1) (acc ++ [⟨b.data,ps⟩]) j QR QR r3 (by rw[Nr,t]; rfl) with⟨e,o,v,p⟩ | ⟨l,r',o,v,p,B⟩
    ·exact .inl ⟨e,by rw[Pr.bind_err o],v,p⟩
    ·refine .inr ⟨⟨b.data,ps⟩::l,r',by rw[Pr.bind_of o]; rfl,by omega,p,?_⟩;rw[B,Ny,show k+1+m=k+(m+1) by omega];rfl
theorem Je (s:AI) (hs:s.length<=1000000) (v:Int) (hv:v=3\/v=4):(∃ e,qv v s 0= .error e/\e≠0/\lB s v=some (zR20,0,e))\/(∃ r n,qv v s 0= .ok (r,n)/\n<=s.length/\lB s v=some (ofQ r,(n:Int),0)):=by
 unfold lB;rw[iY _ _ ⟨by decide,by decide,by omega⟩,show (2:Int).toNat=2 from rfl,Nm];have hr:=nw s 0 2 QS QS (NH _);rw[List.drop_zero] at hr;rcases hr with⟨e,d,h,i⟩ | ⟨b,a,d,h,i,p⟩
 ·refine .inl ⟨e,Pr.bind_err d,h,?_⟩;rw[i,QY h];rfl
 rw[p,QX rfl];dsimp only;rw[Nat.sub_zero,QX QR];by_cases j:(s.length:Int) - (a:Int)<6
 ·rw[QX j];refine .inl ⟨1,?_,by decide,rfl⟩;rw[qv,Pr.bind_of d];by_cases k:s.length<a+2
  ·rw[Pr.bind_err];unfold bT;rw[QX k]
  ·have f:bT 2 s a= .ok (bC ((s.drop a).take 2),a+2):=by unfold bT; rw[QY k]
   rw[Pr.bind_of f,Pr.bind_err];unfold bT;rw[QX QR]
 have f:bT 2 s a= .ok (bC ((s.drop a).take 2),a+2):=by unfold bT; rw[QY QR]
 have g:bT 4 s (a+2)= .ok (bC ((s.drop (a+2)).take 4),a+2+4):=by unfold bT; rw[QY QR]
 have q:(((a:Nat):Int)+6).toNat=a+2+4:=by omega
 have t:(((a:Nat):Int)+2).toNat=a+2:=by omega
 rw[QY j,QX QR,QX QR,NR,t,show a+2 - a=2 by omega,dc _ (by rw[NL]; omega),Nm,QX QR,QX QR,QX QR,q,show a+2+4 - (a+2)=4 by omega,dc _ (by rw[NL]; omega),Nm,QX QR,QX QR];generalize bC ((s.drop a).take 2)=ia at f;generalize bC ((s.drop (a+2)).take 4)=it at g;have hc:=z5 s (a+2+4) QR hs 6 QS;rw[show ((6:Nat):Int)=6 from rfl] at hc;rw[hc,Nm]
 cases hp:fk 4 6 s (a+2+4) with
 | error e =>
  have he:=vG hp;dsimp only;rw[QY he];refine .inl ⟨e,?_,he,rfl⟩;rw[qv,Pr.bind_of d,Pr.bind_of f,Pr.bind_of g,Pr.bind_err];rw[fR,Pr.bind_err hp]
 | ok x =>
  obtain⟨c,m⟩:=x;obtain⟨z,c2,A,B,C,D⟩:=g8 QS QS QR hp;have c2:=c2 QS;dsimp only;rw[QX rfl,QX QR,show (((a:Nat):Int)+6+4)=(m:Int) by omega];rcases Fs c s hs QR c.toNat (c.toNat+1) 0 [] m QR QR QR rfl with⟨e,r1,r2,r3⟩ | ⟨l,o,r1,r2,r3,r4⟩
  ·rw[List.map_nil] at r3;refine .inl ⟨e,?_,r2,by rw[r3]; rfl⟩;rw[qv,Pr.bind_of d,Pr.bind_of f,Pr.bind_of g,Pr.bind_err];rw[fR,Pr.bind_of hp,r1]
  ·rw[List.map_nil,NG] at r4;have hl:fR 4 6 eR s (a+2+4)= .ok (l,o):=by rw[fR,Pr.bind_of hp,r1]
   obtain⟨E,F,u,G,w⟩:=nE.spell _ _ _ _ QR hl;obtain⟨H,I,J,K,y⟩:=(bX 4 QS QS).spell _ _ _ _ QR g;rw[Nr,aH] at u;have hg:gdQ ⟨b,ia,it,l⟩:=D8 y w.2 QR;have hk:=I5 ⟨b,ia,it,l⟩ v hv hg;have hk:kt (⟨b,ia,it,l.map ofT⟩:aQ) v=some (wm v ⟨b,ia,it,l⟩):=hk;rw[r4,Nm];dsimp only;rw[hk,Nm,qv,Pr.bind_of d,Pr.bind_of f,Pr.bind_of g,Pr.bind_of hl];by_cases hc:wm v ⟨b,ia,it,l⟩=0
   ·rw[QX hc,QX hc];exact .inr ⟨_,o,rfl,r3,rfl⟩
   ·rw[QY hc,QY hc];exact .inl ⟨_,rfl,hc,rfl⟩
def smBl (l:List Bat):Prop:= ∀ b,b∈l->smB b/\chk b=0
theorem Ec {b:Bat} (h:okB b) (hl:(f6 b).length<=80000):smB b:=by
 have a:=rz h;refine⟨yk h QR,fun r hr=> ?_,by omega⟩;have c:=gJ (enc:=d8) b.MB r hr;have d:=DT r;have e:(dv r).length<=(d8 r).length:=by
  unfold d8;rw[Nr];omega
 unfold body at a;omega
theorem Ft {r:aB} (h:gdQ r):iD r=some (ofQ r):=by
 have a:=h.2.1;unfold iD;rw[Fh r.Mw [] (by rw[Ov]; omega) (fun t ht=>(h.2.2 t ht).2.1),Nm,NG];rfl
theorem vH {a b:aB} (h:gdQ a):eg (ofQ a) (ofQ b)=some (Cx a b):=by
 have d:=h.2.1;refine IX QR (fun t ht=> ?_);have c:=h.2.2 t ht;exact⟨by have:=c.2.1; omega,fun p hp=>(c.2.2 p hp).2⟩
theorem zQ_gd:gdQ zQ:=⟨by unfold wI zQ; decide,by decide,fun t h=>nomatch h⟩
theorem Gz {v:Int} {r:aB} (h:okQ v r) (hl:(pT r).length<=80000):(wI r.MV/\wI r.MC)/\r.Mw.length<=1000000/\ ∀ t,t∈r.Mw->t.My.length<=1000000/\ ∀ p,p∈t.My->wI p.MR/\p.MK.length<=1000000/\smBl p.MK:=by
 obtain⟨g,c,d,a,i⟩:=h;have j:=j7 (ok:=yQ) tK r.Mw a.2;simp only[pT,Nr,aH] at hl;refine⟨⟨d7 c,d7 d⟩,by omega,fun t ht=> ?_⟩;have e:=gJ (enc:=jA) r.Mw t ht;have k:=j7 (ok:=Bc) tJ t.My (a.2 t ht).2.2;simp only[jA,Nr,aH] at e;refine⟨by omega,fun p hp=> ?_⟩;have f:=gJ (enc:=jH) t.My p hp;have hpo:=(a.2 t ht).2.2 p hp;have l:=vf hpo.2.2;simp only[jH,Nr,aH] at f;refine⟨d7 hpo.1,by omega,fun b hb=>⟨Ec (hpo.2.2 b hb) ?_,(hpo.2.2 b hb).2.2.2⟩⟩;have:=gJ (enc:=f6) p.MK b hb;omega
def nG:Int->List Bat->Int
 | w,[]=>w
 | w,x::l=>nG (if w=0 then chk x else w) l
theorem z6 {w:Int} (h:w≠0): ∀ l:List Bat,nG w l=w
 | []=>rfl
 | x::l=>by rw[nG,QY h,z6 h l]
theorem z7: ∀ {l:List Bat},(∀ x,x∈l->chk x=0)->nG 0 l=0
 | [],_=>rfl
 | y::l,h=>by rw[nG,QX rfl,h y (.head _),z7 (fun x hx=>h x (.tail _ hx))]
theorem Jf (a:AI) (b:Int): ∀ (l:List Bat) (t:AI),(∀ x,x∈l->smB x)->t.length+1000000*l.length<=1000000000 ->
 fW l a b t=some (if nG 0 l=0 then .go (a,b,t++bJ f6 l) else .ret ([],nG 0 l))
 | [],t,_,_=>by rw[bJ,NQ]; rfl
 | x::l,t,h,hl=>by
  have hx:=h x (.head _);rw[NB] at hl;rw[fW,benc hx,Nm,nG,QX rfl];by_cases hc:chk x=0
  ·have he:=rz (okB_of hx hc);have c:=hx.2.2;rw[QX hc];dsimp only;rw[QX rfl,Dd _ _ QR,Nm,Jf a b l _ (fun y hy=>h y (.tail _ hy)) (by rw[Nr]; omega),hc,bJ,Ny]
  ·rw[QY hc,z6 hc];dsimp only;rw[QY hc,QY hc]
theorem all_eq {l:List Bat} (h: ∀ x,x∈l->smB x) (hl:l.length<=1000):mc l=some (if nG 0 l=0 then (bJ f6 l,0) else ([],nG 0 l)):=by
 unfold mc;rw[Jf [] 0 l [] h (by rw[Ov]; omega),Nm];by_cases hc:nG 0 l=0
 ·rw[QX hc,QX hc];dsimp only;rw[G8,Nm,NG]
 ·rw[QY hc,QY hc]
end Go.Proofs.YtheikonlgjdopaaGreat.Sl
