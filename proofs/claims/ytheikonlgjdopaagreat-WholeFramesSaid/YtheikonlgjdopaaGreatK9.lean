/- WholeFrames: for every input the law returns true, and its arguments read behind the call as they did before. -/
import Derived.Test.YtheikonlgjdopaaGreatRows
import Derived.WalkKit
import Derived.ProofKit
import Derived.OpenShut
import Derived.ShutString
import Derived.ChangeOld
import Derived.Below
import Derived.SizedLaws
import Derived.Test.YtheikonlgjdopaaGreatK8
set_option maxRecDepth 100000
set_option maxHeartbeats 4000000
set_option linter.defProp false
namespace Go.Proofs.YtheikonlgjdopaaGreat.Sl
open Go.RowKit
set_option linter.unusedVariables false
set_option linter.unusedSimpArgs false
def Ls := @Tryz.runUnderlying149
def Lt := @Tryz.runUnderlying60
def L6 := @Tryz.runUnderlying72
def Mb := @Tryz.results76
def zF:al:=⟨zHead,zB,zA,zE,[],zQ⟩
def frB (h:e7) (x:aT):al:=⟨h,x,zA,zE,[],zQ⟩
def frA (h:e7) (x:bI):al:=⟨h,zB,x,zE,[],zQ⟩
def frE (h:e7) (x:bH):al:=⟨h,zB,zA,x,[],zQ⟩
def frM (h:e7) (x:List aH):al:=⟨h,zB,zA,zE,x,zQ⟩
def frP (h:e7) (x:ao):al:=⟨h,zB,zA,zE,[],x⟩
def zx (v:Int):Pr aT:=if v>0 then Et v else Es v
theorem B_begV (v:Int):CB (fun st=>dW st v) (zx v) zB:=by
 unfold zx;by_cases hv:v>0
 ·rw[Mg hv]; exact B_beg1 v hv
 ·rw[Mh hv]; exact B_beg0 v hv
def tB (h:e7):Pr al :=
 if h.IP=22 then (zx h.IO).map (frB h) else if h.IP=24 then Er.map (frA h) else if h.IP=26 then Ep.map (frE h)
 else if h.IP=27 then (og h.IO).map (frM h) else (u4 h.IO).map (frP h)
def pIn:Pr al:=yA.bind tB
def zy (s:List UInt8):Except Int (al×Nat)->al×Int
 | .error e=>(zF,e)
 | .ok (f,r)=>if r<s.length then (zF,2) else (f,0)
def opn (s:List UInt8):al×Int:=zy s (pIn s 0)
theorem Fi {st:I} (h:st.err≠0):eT st=st:=by
 unfold eT cX;rw[Mh h];split <;> rfl
theorem Fj (s:List UInt8) (r:Nat) (hr:r<=s.length):eT ⟨s.drop r,r,0⟩=if r<s.length then ⟨s.drop r,r,2⟩ else ⟨s.drop r,r,0⟩:=by
 unfold eT cX;by_cases h:r<s.length
 ·rw[Mg h,Mh (by intro h2; have:=congrArg List.length h2; rw[JA] at this; simp at this; omega)];rfl
 ·rw[Mh h,Mg (by rw[List.drop_eq_nil_iff]; omega)]
theorem oz {α:Type} {op:I->Option (α×I)} {p:Pr α} {z:α} (h:CB op p z) (g:α->al) (s:List UInt8) (q:Nat) (hs:s.length<=1000000) (hq:q<=s.length) :
 ((op ⟨s.drop q,q,0⟩).bind fun (x14,st15)=>(dJ st15).bind fun (x17,st18)=>if x17=0 then some (g x14,0) else some (zF,x17))=some (zy s ((p.map g) s q)):=by
 rcases h.run s q hs hq with⟨e,st,p1,g1,x1,y1⟩ | ⟨a,r,p1,g1,n1,l1⟩
 ·rw[g1,Pr.map,Pr.bind_err p1];simp only[Jo,fG,Fi y1];rw[Mh y1,x1];rfl
 ·rw[g1,Pr.map,Pr.bind_of p1];simp only[Jo,fG,Fj s r l1,Pr.ret,zy];by_cases hr:r<s.length
  ·rw[Mg hr,Mg hr];rfl
  ·rw[Mh hr,Mh hr];rfl
theorem F9 (s:List UInt8) (hs:s.length<=1000000):jf s=some (opn s):=by
 unfold jf opn pIn;rw[iL s Mc];simp only[Jo];have h0:=Q_head.run s 0 (JM _);rw[List.drop_zero] at h0;rcases h0 with⟨e,st,p1,g1,x1,y1⟩ | ⟨h,r,p1,g1,n1,l1⟩
 ·rw[g1,Pr.bind_err p1];simp only[Jo,bn];rw[Mh y1,x1];rfl
 ·rw[g1,Pr.bind_of p1];simp only[Jo,bn];rw[Mg trivial];unfold tB;by_cases h22:h.IP=22
  ·rw[Mg h22,Mg h22]; exact oz (B_begV h.IO) (frB h) s r hs l1
  rw[Mh h22,Mh h22];by_cases h24:h.IP=24
  ·rw[Mg h24,Mg h24]; exact oz B_add (frA h) s r hs l1
  rw[Mh h24,Mh h24];by_cases h26:h.IP=26
  ·rw[Mg h26,Mg h26]; exact oz B_end (frE h) s r hs l1
  rw[Mh h26,Mh h26];by_cases h27:h.IP=27
  ·rw[Mg h27,Mg h27]; exact oz (FX h.IO) (frM h) s r hs l1
  rw[Mh h27,Mh h27];exact oz (B_prq h.IO) (frP h) s r hs l1
def pFrm:Pr al:=fun s q=>match eI 4 s q with
 | .error e=> .error e
 | .ok (n,r)=>if n<0 then .error 4 else if (s.length:Int) - r<n then .error 1 else if (opn ((s.drop r).take n.toNat)).2=0 then .ok ((opn ((s.drop r).take n.toNat)).1,r+n.toNat) else .error (opn ((s.drop r).take n.toNat)).2
theorem Ga (l:List UInt8) (q:Nat) {n:Int} (h:n<0):cg ⟨l,q,0⟩ n=([],⟨l,q,4⟩):=by
 unfold cg;rw[Mh (by simp),Mg h]
theorem Dr (l:List UInt8) (q:Nat) {n:Int} (h: ¬ n<0) (h2:(l.length:Int)<n):cg ⟨l,q,0⟩ n=([],⟨l,q,1⟩):=by
 unfold cg;rw[Mh (by simp),Mh h,Mg h2]
theorem itk_ok (l:List UInt8) (q:Nat) {n:Int} (h: ¬ n<0) (h2: ¬ (l.length:Int)<n):cg ⟨l,q,0⟩ n=(l.take n.toNat,⟨l.drop n.toNat,q+n.toNat,0⟩):=by
 unfold cg;rw[Mh (by simp),Mh h,Mh h2]
theorem B_frm:CB hU pFrm zF:=by
 refine⟨fun st h=> ?_,fun s q hs hq=> ?_⟩
 ·unfold hU;rw[jJ h];simp only[Jo,mb _ _ (by decide:(-9223372036854775808:Int)<=0/\(0:Int)<=9223372036854775807),cg,Mg h,bn,Mh h];rfl
 ·unfold hU pFrm;rcases Q4.run s q hq with⟨e,st,p1,g1,x1,y1⟩ | ⟨n,r,p1,g1,n1,l1⟩
  ·refine .inl ⟨e,st,by rw[p1],?_,x1,y1⟩;rw[g1];simp only[Jo,mb _ _ (by decide:(-9223372036854775808:Int)<=0/\(0:Int)<=9223372036854775807),cg,Mg y1,bn,Mh y1];rfl
  ·have hn:=d7 ((dL 4 Md Md).spell s q n r hq p1).2.2.2.2;rw[p1,g1];simp only[Jo,mb _ _ hn,bn];by_cases h1:n<0
   ·rw[Mg h1,Ga _ _ h1];exact .inl ⟨4,⟨s.drop r,r,4⟩,rfl,rfl,rfl,by simp⟩
   rw[Mh h1];by_cases h2:(s.length:Int) - r<n
   ·rw[Mg h2,Dr _ _ h1 (by rw[JA]; omega)];exact .inl ⟨1,⟨s.drop r,r,1⟩,rfl,rfl,rfl,by simp⟩
   rw[Mh h2,itk_ok _ _ h1 (by rw[JA]; omega)];rw[Mg rfl,F9 _ (by rw[Kw,JA]; omega)];simp only[Jo,Kf];by_cases h3:(opn ((s.drop r).take n.toNat)).2=0
   ·rw[Mg h3,Mg h3];exact .inr ⟨_,r+n.toNat,rfl,rfl,by omega,by omega⟩
   ·rw[Mh h3,Mh h3,cY];exact .inl ⟨_,cX ⟨s.drop (r+n.toNat),r+n.toNat,0⟩ (opn ((s.drop r).take n.toNat)).2,rfl,rfl,rfl,h3⟩
def Ds (l:List Bat):Prop:= ∀ b,b∈l->smB b/\chk b=0
theorem Cg {r:ao} (h:gdQ r):kX r=some (ofQ r):=by
 have h1:=h.2.1;unfold kX;rw[Cc r.IC [] (by rw[J6]; omega) (fun t ht=>(h.2.2 t ht).2.1),Jo,JI];rfl
theorem oA {a b:ao} (h:gdQ a):gN (ofQ a) (ofQ b)=some (sV a b):=by
 have h1:=h.2.1;refine Fb Mc (fun t ht=> ?_);have h2:=h.2.2 t ht;exact⟨by have:=h2.2.1; omega,fun p hp=>(h2.2.2 p hp).2⟩
theorem zQ_gd:gdQ zQ:=⟨by unfold wI zQ; decide,by decide,fun t h=>nomatch h⟩
theorem Bi {v:Int} {nul:Bool} {l:List Bat} (h:qW v nul l=0): ∀ b,b∈l->chk b=0/\b.Jc=false/\b.Jf≠nul:=by
 have h2:kI nul l=0:=by
  unfold qW at h;split at h
  ·exact absurd h Md
  ·exact h
 clear h
 induction l with
 | nil=>exact fun b h=>nomatch h
 | cons c l ih =>
  rw[kI] at h2;by_cases c1:chk c=0;rotate_left
  ·rw[Mh c1] at h2; exact absurd h2 c1
  rw[Mg c1] at h2;by_cases c2:c.Jc=true
  ·rw[Mg c2] at h2; exact absurd h2 Md
  rw[Mh c2] at h2;by_cases c3:c.Jf=nul
  ·rw[Mg c3] at h2; exact absurd h2 Md
  rw[Mh c3] at h2;intro b hb;rcases List.mem_cons.1 hb with rfl | hb
  ·exact⟨c1,by simpa using c2,c3⟩
  ·exact ih h2 b hb
theorem qY {v:Int} {nul:Bool}: ∀ {l:List aL},jk v nul l=0-> ∀ p,p∈l->qW v nul p.IM=0
 | c::l,h,p,hp=>by
  rw[jk] at h;by_cases c1:qW v nul c.IM=0;rotate_left
  ·rw[Mh c1] at h; exact absurd h c1
  rw[Mg c1] at h;rcases List.mem_cons.1 hp with rfl | hp
  ·exact c1
  ·exact qY h p hp
theorem qZ {v:Int} {nul:Bool}: ∀ {l:List az},kJ v nul l=0-> ∀ t,t∈l->jk v nul t.IH=0
 | c::l,h,t,ht=>by
  rw[kJ] at h;by_cases c1:jk v nul c.IH=0;rotate_left
  ·rw[Mh c1] at h; exact absurd h c1
  rw[Mg c1] at h;rcases List.mem_cons.1 ht with rfl | ht
  ·exact c1
  ·exact qZ h t ht
theorem Dt {v:Int} {r:ao} (h:si v r=0):zo r/\zp r/\sX r.IC=0/\kJ v r.IJ.null r.IC=0:=by
 unfold si at h;by_cases c1:zo r;rotate_left
 ·rw[Mh c1] at h; exact absurd h Md
 rw[Mg c1] at h;by_cases c2:zp r;rotate_left
 ·rw[Mh c2] at h; exact absurd h Md
 rw[Mg c2] at h;by_cases c3:sX r.IC=0;rotate_left
 ·rw[Mh c3] at h; exact absurd h c3
 rw[Mg c3] at h;exact⟨c1,c2,c3,h⟩
def lv:Int->List Bat->Int
 | w,[]=>w
 | w,x::l=>lv (if w=0 then chk x else w) l
theorem wH {w:Int} (h:w≠0): ∀ l:List Bat,lv w l=w
 | []=>rfl
 | x::l=>by rw[lv,Mh h,wH h l]
theorem wJ: ∀ {l:List Bat},(∀ x,x∈l->chk x=0)->lv 0 l=0
 | [],_=>rfl
 | y::l,h=>by rw[lv,Mg rfl,h y (.head _),wJ (fun x hx=>h x (.tail _ hx))]
theorem Fk (y4:List UInt8) (y5:Int): ∀ (l:List Bat) (t:List UInt8),(∀ x,x∈l->smB x)->t.length+1000000*l.length<=1000000000 ->
 eX l y4 y5 t=some (if lv 0 l=0 then .go (y4,y5,t++aS e9 l) else .ret ([],lv 0 l))
 | [],t,_,_=>by rw[aS,JE]; rfl
 | x::l,t,h,hl=>by
  have hx:=h x (.head _);rw[Jz] at hl;rw[eX,benc hx,Jo,lv,Mg rfl];by_cases hc:chk x=0
  ·have he:=oO (EZ hx hc);have hx2:=hx.2.2;rw[Mg hc];dsimp only;rw[Mg rfl,Ag _ _ Mc,Jo,Fk y4 y5 l _ (fun y hy=>h y (.tail _ hy)) (by rw[Js]; omega),hc,aS,Jw]
  ·rw[Mh hc,wH hc];dsimp only;rw[Mh hc,Mh hc]
theorem all_eq {l:List Bat} (h: ∀ x,x∈l->smB x) (hl:l.length<=1000):j6 l=some (if lv 0 l=0 then (aS e9 l,0) else ([],lv 0 l)):=by
 unfold j6;rw[Fk [] 0 l [] h (by rw[J6]; omega),Jo];by_cases hc:lv 0 l=0
 ·rw[Mg hc,Mg hc];dsimp only;rw[DW,Jo,JI]
 ·rw[Mh hc,Mh hc]
theorem Du {t d:List UInt8} (hf:d.length<=32767) (ht:t.length<=1000000000):iO (t,0) d=some (t++(be (d.length:Int) 2++d),0):=by
 rw[sC _ _ (by simp only; omega)];have:=iK (t:=t) (b:=⟨false,d⟩) (k:=2) (eZ (.inl rfl) (show -32768<=(d.length:Int) by omega) (show (d.length:Int)<=32767 by omega)) rfl (by simp only; omega);rw[mC _ _ _ ⟨by decide,by simp only; omega⟩] at this;exact this
theorem qw_l2: ∀ (l:List aL) (t:List UInt8),(∀ p,p∈l->Bh p/\p.IM.length<=1000/\Ds p.IM)->t.length+(aS gY l).length<=1000000->bJ l (t,0)=some (t++aS gY l,0)
 | [],t,h,hl=>by rw[bJ,aS,JE]
 | p::l,t,h,hl=>by
  obtain⟨h1,h2,h3⟩:=h p (.head _);rw[aS,Js] at hl;have hpl:=hl;simp only[gY,Js,ax] at hpl;rw[bJ,all_eq (fun x hx=>(h3 x hx).1) h2,Mg (wJ (fun x hx=>(h3 x hx).2)),Jo];dsimp only;rw[Mg rfl,Jo,dI h1.1 Mc,Jo,gOf_eq,Jo,iK (b:=⟨false,aS e9 p.IM⟩) h1.2.1 rfl (by simp only[Js,ax]; show _+(4:Int).toNat + _<= _; omega),Jo];have e4:(t++be p.I8 (4:Int).toNat)++(be (blen (⟨false,aS e9 p.IM⟩:Bl)) (4:Int).toNat++(⟨false,aS e9 p.IM⟩:Bl).data)=t++gY p:=by rw[Jw]; rfl
  rw[e4,qw_l2 l _ (fun x hx=>h x (.tail _ hx)) (by rw[Js]; omega),aS,Jw]
theorem qw_l1: ∀ (l:List az) (t:List UInt8),(∀ x,x∈l->x.IW.length<=32767/\zu x/\ ∀ p,p∈x.IH->p.IM.length<=1000/\Ds p.IM)->t.length+(aS iu l).length<=1000000->bK l (t,0)=some (t++aS iu l,0)
 | [],t,h,hl=>by rw[bK,aS,JE]
 | x::l,t,h,hl=>by
  obtain⟨h0,h1,h2⟩:=h x (.head _);rw[aS,Js] at hl;have hpl:=hl;simp only[iu,Js,ax] at hpl;rw[bK,Du h0 Mc,Jo,dI h1.2.1 (by simp only[Js,ax]; omega),Jo];rw[qw_l2 x.IH _ (fun p hp=>⟨h1.2.2 p hp,h2 p hp⟩) (by simp only[Js,ax]; show _+(2 + _)+(4:Int).toNat + _<= _; omega),Jo,Jo];have e4:(t++(be (x.IW.length:Int) 2++x.IW))++be (x.IH.length:Int) (4:Int).toNat++aS gY x.IH=t++iu x:=by simp only[iu,Jw]; rfl
  rw[e4,qw_l1 l _ (fun y hy=>h y (.tail _ hy)) (by rw[Js]; omega),aS,Jw]
def wPs:List aL->Nat
 | []=>0
 | p::l=>(10+100*p.IM.length)+wPs l
def wTq:List az->Nat
 | []=>0
 | t::l=>(t.IW.length+10+wPs t.IH)+wTq l
theorem va {n:Int} (h: -9223372036854775808<=n/\n<=9223372036854775807):IntKind.i64.wrap n=n:=by
 rw[IntKind.wrap_i64];omega
theorem nP_eq {n:Int} {p:aL} (hn:0<=n/\n<=100000) (hp:p.IM.length<=140737488351232):nP n p=n+((10+100*p.IM.length:Nat):Int):=by
 unfold nP;rw[va (n:=100*(p.IM.length:Int)) Mc,va (n:=10+100*(p.IM.length:Int)) Mc,va Mc];omega
theorem Fl: ∀ (l:List aL) (n:Int),0<=n/\n<=100000->(∀ p,p∈l->p.IM.length<=140737488351232)->okFp n l->nPs n l=n+(wPs l:Int)/\(l ≠ []->nPs n l<=2000)
 | [],n,_,_,_=>⟨by simp[nPs,wPs],fun h=>absurd rfl h⟩
 | p::l,n,hn,hp,ho=>by
  obtain⟨o1,o2,o3⟩:=ho;have e:=nP_eq hn (hp p (.head _));obtain⟨h1,h2⟩:=Fl l (nP n p) ⟨by omega,by omega⟩ (fun q hq=>hp q (.tail _ hq)) o3;refine⟨by rw[nPs,h1,e,wPs]; omega,fun _=> ?_⟩;rw[nPs]
  cases l with
  | nil=>exact o1
  | cons q l=>exact h2 (by simp)
theorem Fm: ∀ (l:List az) (n:Int),0<=n/\n<=40000->(∀ t,t∈l->t.IH ≠ []/\t.IW.length<=32767/\ ∀ p,p∈t.IH->p.IM.length<=140737488351232)->zj n l->nTs n l=n+(wTq l:Int)
 | [],n,_,_,_=>by simp[nTs,wTq]
 | t::l,n,hn,ht,ho=>by
  obtain⟨o1,o2⟩:=ho;obtain⟨t1,t2,t3⟩:=ht t (.head _);have e:nT n t=n+((t.IW.length+10:Nat):Int):=by
   unfold nT;rw[va (n:=(t.IW.length:Int)+10) Mc,va Mc];omega
  obtain⟨h1,h2⟩:=Fl t.IH (nT n t) ⟨by omega,by omega⟩ t3 o1;have h2:=h2 t1;have h3:=Fm l (nPs (nT n t) t.IH) ⟨by omega,by omega⟩ (fun u hu=>ht u (.tail _ hu)) o2;rw[nTs,h3,h1,e,wTq];omega
theorem oB: ∀ {l:List az} {p:Option (List UInt8)},rqT p l=0-> ∀ t,t∈l->t.IH ≠ []/\t.IW.length<=32767/\rqP none t.IH=true
 | c::l,p,h,t,ht=>by
  rw[rqT] at h;by_cases c0:c.IH.length=0
  ·rw[Mg c0] at h; exact absurd h Md
  rw[Mh c0] at h;by_cases c1:tn p c=true;rotate_left
  ·rw[Mh c1] at h; exact absurd h Md
  rw[Mg c1] at h;rcases List.mem_cons.1 ht with rfl | ht
  ·unfold tn at c1;simp only[Bool.and_eq_true,decide_eq_true_eq] at c1;exact⟨fun e=>c0 (by rw[e]; rfl),c1.1.1.2,c1.2⟩
  ·exact oB h t ht
theorem zz: ∀ {l:List aL} {q:Option Int},rqP q l=true-> ∀ p,p∈l->0<=p.I8/\p.I8<=2147483647
 | c::l,q,h,p,hp=>by
  rw[rqP] at h;simp only[Bool.and_eq_true,okn,decide_eq_true_eq] at h;rcases List.mem_cons.1 hp with rfl | hp
  ·exact h.1.1
  ·exact zz h.2 p hp
theorem xK: ∀ {l:List aL} {p:aL},p∈l->10+100*p.IM.length<=wPs l
 | c::l,p,h=>by
  rw[wPs];rcases List.mem_cons.1 h with rfl | h
  ·omega
  ·have:=xK h; omega
theorem xL: ∀ {l:List az} {t:az},t∈l->t.IW.length+10+wPs t.IH<=wTq l
 | c::l,t,h=>by
  rw[wTq];rcases List.mem_cons.1 h with rfl | h
  ·omega
  ·have:=xL h; omega
theorem Ch: ∀ l:List aL,10*l.length<=wPs l
 | []=>JN _
 | c::l=>by have:=Ch l; rw[wPs,Jz]; omega
theorem Ci: ∀ l:List az,10*l.length<=wTq l
 | []=>JN _
 | c::l=>by have:=Ci l; rw[wTq,Jz]; omega
def smQb (p:aL):Prop:= ∀ b,b∈p.IM->okB b/\(body b).length<=12000
theorem zC {p:aL} (h:smQb p):(gY p).length<=121*(10+100*p.IM.length):=by
 have h1:=xH e9 12061 p.IM (fun x hx=>by have:=h x hx; rw[oO this.1]; omega);simp only[gY,Js,ax];omega
theorem wK: ∀ l:List aL,(∀ p,p∈l->smQb p)->(aS gY l).length<=121*wPs l
 | [],_=>JN _
 | p::l,h=>by
  have h1:=zC (h p (.head _));have h2:=wK l (fun q hq=>h q (.tail _ hq));rw[aS,Js,wPs];omega
theorem wM: ∀ l:List az,(∀ t,t∈l-> ∀ p,p∈t.IH->smQb p)->(aS iu l).length<=121*wTq l
 | [],_=>JN _
 | t::l,h=>by
  have h1:=wK t.IH (h t (.head _));have h2:=wM l (fun q hq=>h q (.tail _ hq));rw[aS,Js,wTq];simp only[iu,Js,ax];omega
theorem id_len {r:ao} (h:zo r):r.IJ.data.length<=32767/\(r.IJ.null=true->r.IJ.data = []):=by
 have h1:=(Bg r.IJ.null r.IJ.data r.IJ rfl rfl).1 h.1;refine⟨?_,h1⟩;rcases h.2 with h2 | h2
 ·rw[h1 h2]; decide
 ·exact ((Bf r.IJ.data).1 h2).2
theorem gdQ_of {a:ao} (hw:fw a) (ho:zj (a.IJ.data.length:Int) a.IC):gdQ a :=
 ⟨hw.2.2.1,hw.2.2.2.1,fun t ht=>⟨(hw.2.2.2.2 t ht).1,(hw.2.2.2.2 t ht).2.1,fun p hp=>⟨((hw.2.2.2.2 t ht).2.2 p hp).1,((hw.2.2.2.2 t ht).2.2 p hp).2.1,fun b hb=>(qV ho t ht p hp b hb).1.1⟩⟩⟩
theorem okQ_of {v:Int} {a:ao} (hw:fw a) (ho:zj (a.IJ.data.length:Int) a.IC) (hn:nTs (a.IJ.data.length:Int) a.IC<=2000) (hc:si v a=0) :
 okQ v a/\(pQ a).length<=300000/\ ∀ t,t∈a.IC->t.IW.length<=32767/\t.IH.length<=1000/\ ∀ p,p∈t.IH->p.IM.length<=1000/\Ds p.IM:=by
 obtain⟨k1,k2,k3,k4⟩:=Dt hc;obtain⟨i1,i2⟩:=id_len k1;have hr:rqT none a.IC=0:=by
  unfold sX at k3;split at k3
  ·exact absurd k3 Md
  ·exact k3
 have hp: ∀ t,t∈a.IC-> ∀ p,p∈t.IH->p.IM.length<=140737488351232:=fun t ht p hp=>((hw.2.2.2.2 t ht).2.2 p hp).2.1;have e:=Fm a.IC (a.IJ.data.length:Int) ⟨by omega,by omega⟩ (fun t ht=>⟨(oB hr t ht).1,(oB hr t ht).2.1,hp t ht⟩) ho
 have hb: ∀ t,t∈a.IC-> ∀ p,p∈t.IH-> ∀ b,b∈p.IM->smB b/\(body b).length<=12000/\chk b=0:=fun t ht p hp b hb =>
  ⟨(qV ho t ht p hp b hb).1,(qV ho t ht p hp b hb).2,(Bi (qY (qZ k4 t ht) p hp) b hb).1⟩
 have hsm: ∀ t,t∈a.IC-> ∀ p,p∈t.IH->smQb p:=fun t ht p hp b hb'=>⟨EZ (hb t ht p hp b hb').1 (hb t ht p hp b hb').2.2,(hb t ht p hp b hb').2.1⟩;have hl:=wM a.IC hsm;have hl2:=Ci a.IC;have big: ∀ t,t∈a.IC->t.IW.length<=32767/\t.IH.length<=1000/\ ∀ p,p∈t.IH->p.IM.length<=1000/\Ds p.IM:=fun t ht=>by
  have m1:=xL ht;have m2:=Ch t.IH;refine⟨(oB hr t ht).2.1,by omega,fun p hp=> ?_⟩;have m3:=xK hp;exact⟨by omega,fun b hb'=>⟨(hb t ht p hp b hb').1,(hb t ht p hp b hb').2.2⟩⟩
 refine⟨⟨⟨?_,k1.1⟩,eZ (.inl rfl) (by have:=k2.1; omega) (by have:=k2.2.1; omega),?_,⟨eZ (.inr (.inl rfl)) Mc Mc,fun t ht=> ?_⟩,hc⟩,?_,big⟩
 ·unfold blen;split
  ·decide
  ·exact eZ (.inl rfl) Mc Mc
 ·have:=k2.2.2;show bm a.II 4=true;rw[ej];exact Jq Mc
 ·have m0:=xL ht;have m1:=big t ht;refine⟨eZ (.inl rfl) Mc Mc,eZ (.inr (.inl rfl)) Mc Mc,fun p hp=> ?_⟩;have m2:=zz (oB hr t ht).2.2 p hp;have m3:=zC (hsm t ht p hp);have m4:=xK hp;have m5:(aS e9 p.IM).length<=(gY p).length:=by simp only[gY,Js]; omega
  refine⟨?_,?_,fun b hb'=>(hsm t ht p hp b hb').1⟩
  ·show bm p.I8 4=true;rw[ej];exact Jq Mc
  ·show bm _ 4=true;rw[ej];exact Jq Mc
 ·simp only[pQ,Js,ax];omega
def Bj (v:Int) (x:aT):Prop:=if v>0 then okFx x.IJ/\bm x.II 4=true/\bm x.ID 8=true/\bm x.IF 2=true/\fx x.IJ x.II x.ID x.IF v=0 else okFx x.IJ/\bm x.II 4=true/\fx x.IJ x.II x.ID x.IF v=0/\x.ID= -1/\x.IF= -1
theorem Gb (v:Int):Sp (zx v) (yP v) (Bj v):=by
 unfold zx;by_cases hv:v>0
 ·rw[Mg hv];refine (FS v).congr (fun x=>by unfold Bj; rw[Mg hv]) (fun x _=>by unfold yP; rw[Mg hv])
 ·rw[Mh hv];refine (FT v).congr (fun x=>by unfold Bj; rw[Mh hv]) (fun x _=>by unfold yP; rw[Mh hv])
def okEn (x:bH):Prop:=okTx x.IJ/\bm x.ID 8=true/\bm x.IF 2=true/\lW x.IJ x.ID x.IF=0
def okAd (x:bI):Prop:=okTx x.IJ/\bm x.ID 8=true/\bm x.IF 2=true/\vI x.IC/\mR x.IJ x.ID x.IF x.IC=0
def okMs (v:Int) (l:List aH):Prop:=(bm (l.length:Int) 4=true/\ ∀ m,m∈l->okM v m)/\mr v l=0
def kC (h:e7) (f:al):List UInt8 :=
 if h.IP=22 then yP h.IO f.I0 else if h.IP=24 then AD f.I4 else if h.IP=26 then AC f.Jb else if h.IP=27 then sJ h.IO f.I1 else pQ f.IL
def nz (h:e7) (f:al):Prop :=
 if h.IP=22 then Bj h.IO f.I0/\frB h f.I0=f else if h.IP=24 then okAd f.I4/\frA h f.I4=f else if h.IP=26 then okEn f.Jb/\frE h f.Jb=f
 else if h.IP=27 then okMs h.IO f.I1/\frM h f.I1=f else okQ h.IO f.IL/\frP h f.IL=f
theorem Gc (h:e7):Sp (tB h) (kC h) (nz h):=by
 unfold tB;by_cases h22:h.IP=22
 ·rw[Mg h22];exact ((Gb h.IO).map (frB h) (fun f=>f.I0) (fun _=>rfl)).congr (fun f=>by unfold nz; rw[Mg h22]) (fun f _=>by unfold kC; rw[Mg h22])
 rw[Mh h22];by_cases h24:h.IP=24
 ·rw[Mg h24];exact (Sp_add.map (frA h) (fun f=>f.I4) (fun _=>rfl)).congr (fun f=>by unfold nz okAd; rw[Mh h22,Mg h24]) (fun f _=>by unfold kC; rw[Mh h22,Mg h24])
 rw[Mh h24];by_cases h26:h.IP=26
 ·rw[Mg h26];exact (Sp_end.map (frE h) (fun f=>f.Jb) (fun _=>rfl)).congr (fun f=>by unfold nz okEn; rw[Mh h22,Mh h24,Mg h26]) (fun f _=>by unfold kC; rw[Mh h22,Mh h24,Mg h26])
 rw[Mh h26];by_cases h27:h.IP=27
 ·rw[Mg h27];exact ((Eu h.IO).map (frM h) (fun f=>f.I1) (fun _=>rfl)).congr (fun f=>by unfold nz okMs; rw[Mh h22,Mh h24,Mh h26,Mg h27]) (fun f _=>by unfold kC; rw[Mh h22,Mh h24,Mh h26,Mg h27])
 rw[Mh h27];exact ((Sp_prq h.IO).map (frP h) (fun f=>f.IL) (fun _=>rfl)).congr (fun f=>by unfold nz; rw[Mh h22,Mh h24,Mh h26,Mh h27]) (fun f _=>by unfold kC; rw[Mh h22,Mh h24,Mh h26,Mh h27])
theorem wN {h:e7} {f:al} (k:nz h f):f.IE=h:=by
 unfold nz at k
 repeat' split at k
 all_goals rw[<- k.2]; rfl
def gF (f:al):List UInt8:=r9 f.IE++kC f.IE f
def okIn (f:al):Prop:=okH f.IE/\nz f.IE f
theorem Sp_in:Sp pIn gF okIn:=by
 refine FO.seq (π:=fun f:al=>f.IE) (enc2:=fun f=>kC f.IE f) (ok2:=fun f=>nz f.IE f) (fun a=>(Gc a).congr (fun f=>⟨fun k=> ?_,fun k=> ?_⟩) (fun f k=> ?_))
 ·rw[wN k]; exact⟨k,rfl⟩
 ·have:=k.1; rw[k.2] at this; exact this
 ·rw[wN k]
def ba (f:al):List UInt8:=be ((gF f).length:Int) 4++gF f
def xM (f:al):Prop:=okIn f/\bm ((gF f).length:Int) 4=true
theorem opn_of {f:al} (h:okIn f):opn (gF f)=(f,0):=by
 have hb:=Sp_in.back (gF f) [] 0 f (JM _) h (by simp);unfold opn;rw[hb];simp only[zy,Nat.zero_add];rw[Mh Mc]
theorem vb {s t:List UInt8} {q:Nat} {f:al} (hq:q<=s.length) (h:xM f) (hd:s.drop q=ba f++t):pFrm s q= .ok (f,q+(ba f).length):=by
 have hd':s.drop q=be ((gF f).length:Int) 4++(gF f++t):=by rw[hd,ba,Jw]
 have hp:=(dL 4 Md Md).back s _ q _ hq h.2 hd';have hb4:(be ((gF f).length:Int) 4).length=4:=ax _ _;have hr:s.drop (q+(be ((gF f).length:Int) 4).length)=gF f++t:=bZ hd';have hl:=congrArg List.length hr;rw[JA,Js] at hl;have hl0:=congrArg List.length hd';rw[JA,Js,Js,hb4] at hl0;unfold pFrm;rw[hp];simp only;rw[Mh Mc,Mh Mc,hr,Kp,List.take_append_of_le_length (JN _),List.take_length,opn_of h.1];rw[Mg rfl,ba,Js,Nat.add_assoc]
def smF (f:al):Prop:=wTs f.I4.IC<=2000/\(∀ m,m∈f.I1->wTs m.IC<=2000)/\(aS (ln f.IE.IO) f.I1).length<=300000/\(f.IE.IP≠22->f.IE.IP≠24->f.IE.IP≠26->f.IE.IP≠27->gdQ f.IL/\(pQ f.IL).length<=300000/\ ∀ t,t∈f.IL.IC->t.IW.length<=32767/\t.IH.length<=1000/\ ∀ p,p∈t.IH->p.IM.length<=1000/\Ds p.IM)
theorem Fo {v:Int} {l:List aH} {t:List UInt8} (h:okMs v l) (hw: ∀ m,m∈l->wTs m.IC<=2000) (hl:(aS (ln v) l).length<=300000) (ht:t.length<=100000):hC (t,0) l v=some (t++sJ v l,0):=by
 unfold hC;rw[AE v l (fun m hm=>okM_W (h.1.2 m hm) (by have:=hw m hm; omega)),Jo,Mg h.2,dI h.1.1 Mc,Jo,sK v l _ (fun m hm=>⟨h.1.2 m hm,hw m hm⟩) (by rw[Js,ax,show (4:Int).toNat=4 from rfl]; omega),Jo,Jw];rfl
theorem q_put {v:Int} {a:ao} {t:List UInt8} (hg:gdQ a) (h:okQ v a) (hl:(pQ a).length<=300000) (ht:t.length<=100000) (hb: ∀ t,t∈a.IC->t.IW.length<=32767/\t.IH.length<=1000/\ ∀ p,p∈t.IH->p.IM.length<=1000/\Ds p.IM):da (t,0) a v=some (t++pQ a,0):=by
 obtain⟨h1,h2,h3,h4,h5⟩:=h;have hl':=hl;simp only[pQ,Js,ax] at hl';unfold da;rw[Be a v hg,Jo,Mg h5,iK h1.1 h1.2 Mc,Jo,dI h2 (by simp only[Js,ax]; show _+(2 + _)<= _; omega),Jo,dI h3 (by simp only[Js,ax]; show _+(2 + _)+2<= _; omega),Jo,dI h4.1 (by simp only[Js,ax]; show _+(2 + _)+2+4<= _; omega),Jo];rw[qw_l1 a.IC _ (fun t ht=>⟨(hb t ht).1,h4.2 t ht,(hb t ht).2.2⟩) (by simp only[Js,ax]; show _+(2 + _)+2+4+4 + _<= _; omega),Jo];simp only[pQ,Jw];rfl
theorem Fp {f:al} {t:List UInt8} (h:nz f.IE f) (hs:smF f) (ht:t.length<=100000):bE (t,0) f=some (t++kC f.IE f,0):=by
 unfold bE;unfold nz at h;unfold kC;by_cases h22:f.IE.IP=22
 ·rw[Mg h22] at h ⊢;rw[Mg h22];have hb:=h.1;unfold Bj at hb;by_cases hv:f.IE.IO>0
  ·rw[Mg hv] at hb;rw[pJ f.I0 _ t (d7 hb.2.2.1) (d7 hb.2.2.2.1) (d7 hb.2.1) Mc,Mg hb.2.2.2.2];rfl
  ·rw[Mh hv] at hb;rw[pJ f.I0 _ t (by rw[hb.2.2.2.1]; exact wim) (by rw[hb.2.2.2.2]; exact wim) (d7 hb.2.1) Mc,Mg hb.2.2.1];rfl
 rw[Mh h22] at h ⊢;rw[Mh h22];by_cases h24:f.IE.IP=24
 ·rw[Mg h24] at h ⊢;rw[Mg h24];obtain⟨k1,k2,k3,k4,k5⟩:=h.1;rw[yO f.I4 t (d7 k2) (d7 k3) (yQ k4 (by have:=hs.1; omega)) hs.1 Mc,Mg k5];rfl
 rw[Mh h24] at h ⊢;rw[Mh h24];by_cases h26:f.IE.IP=26
 ·rw[Mg h26] at h ⊢;rw[Mg h26];obtain⟨k1,k2,k3,k4⟩:=h.1;rw[yN f.Jb t (d7 k2) (d7 k3) Mc,Mg k4];rfl
 rw[Mh h26] at h ⊢;rw[Mh h26];by_cases h27:f.IE.IP=27
 ·rw[Mg h27] at h ⊢;rw[Mg h27,Fo h.1 hs.2.1 hs.2.2.1 ht];rfl
 rw[Mh h27] at h ⊢;obtain⟨g1,g2,g3⟩:=hs.2.2.2 h22 h24 h26 h27;rw[Mh h27,q_put g1 h.1 g2 ht g3];rfl
theorem Gd {h:e7} (k:okH h):mP h=0/\h.IK.data.length<=32767:=by
 obtain⟨k1,k2,k3,k4⟩:=k;have hl:h.IK.data.length<=32767:=by
  by_cases hn:h.IK.null=true
  ·have:h.IK.data = []:=by
    unfold bu at k4;rw[hn] at k4;simpa using k4
   rw[this]; simp
  ·have hb:blen h.IK=(h.IK.data.length:Int):=by
    unfold blen;simp[hn]
   rw[hb,sc] at k3;have:=of_decide_eq_true k3;omega
 unfold mP;rw[Mg k1,Mg k2,Mg k4,Mh Mc];exact⟨rfl,hl⟩
theorem vc (h:e7):(r9 h).length=10+h.IK.data.length:=by
 simp only[r9,Js,ax]; omega
theorem put_4 {m:List UInt8} (hl:m.length<=700000) (h3:bm (m.length:Int) 4=true):(dA ([],0) (m.length:Int) 4).bind (fun st28=>(vU st28 m).bind fun st30=>(kT st30).bind fun (x32,x33,st34)=>some (x32,x33))=some (be (m.length:Int) 4++m,0):=by
 have hb:(be (m.length:Int) 4).length=4:=ax _ _;rw[dI h3 (JM _),Jo,JI,show (4:Int).toNat=4 from rfl,yb _ _ (by show (be (m.length:Int) 4).length + _<= _; omega),Jo,lU,g6,ul,Jo]
theorem Bk {f:al} (h:xM f) (hs:smF f) (hl:(gF f).length<=700000):cH f=some (ba f,0):=by
 obtain⟨⟨h1,h2⟩,h3⟩:=h;obtain⟨c1,c2⟩:=Gd h1;have hb:=Fp (t:=r9 f.IE) h2 hs (by rw[vc]; omega);have hp:=put_4 hl h3;unfold cH;rw[uq f.IE [] (JM _) (d7 h1.2.1) Mc,Mg c1,Jo,JI,tO,Jo];dsimp only;rw[Mg rfl,hb,Jo,Jo,g6,ul,Jo];dsimp only;rw[Mg rfl];exact hp
def Cj (s:List UInt8):al×Int:=zy s (pFrm s 0)
theorem Bm (s:List UInt8) (hs:s.length<=1000000):eY s=some (Cj s):=by
 unfold eY Cj;rw[iL s Mc];simp only[Jo];have h0:=B_frm.run s 0 hs (JM _);rw[List.drop_zero] at h0;rcases h0 with⟨e,st,p1,g1,x1,y1⟩ | ⟨f,r,p1,g1,n1,l1⟩
 ·rw[g1,p1];simp only[Jo,fG,Fi y1,zy];rw[Mh y1,x1];rfl
 ·rw[g1,p1];simp only[Jo,fG,Fj s r l1,zy];by_cases hr:r<s.length
  ·rw[Mg hr,Mg hr];rfl
  ·rw[Mh hr,Mh hr];rfl
def mu (h:e7):lG:=⟨h.IP,h.IO,h.IY,h.IK⟩
def z20:cj:=⟨⟨false,[]⟩,0,0,[]⟩
def nF (f:al):al :=
 if f.IE.IP=22 then frB f.IE f.I0 else if f.IE.IP=24 then frA f.IE f.I4 else if f.IE.IP=26 then frE f.IE f.Jb else if f.IE.IP=27 then frM f.IE f.I1 else frP f.IE f.IL
def ofF (f:al):ff :=
 if f.IE.IP=0 then ⟨mu f.IE,zR,[],ofQ f.IL⟩ else if f.IE.IP=22 then ⟨mu f.IE,gB f.I0,[],z20⟩ else if f.IE.IP=24 then ⟨mu f.IE,gA f.I4,[],z20⟩
 else if f.IE.IP=26 then ⟨mu f.IE,gE f.Jb,[],z20⟩ else if f.IE.IP=27 then ⟨mu f.IE,zR,f.I1.map toR,z20⟩ else ⟨mu f.IE,zR,[],z20⟩
theorem mZ (f:al):(nF f).IE=f.IE:=by
 unfold nF
 repeat' split
 all_goals rfl
theorem of21 (f:al) (hm:f.I1.length<=1000000) (hq:f.IE.IP=0->kX f.IL=some (ofQ f.IL)):dZ f=some (ofF f):=by
 unfold dZ ofF;by_cases h0:f.IE.IP=0
 ·rw[Mg h0,Mg h0,hq h0]; rfl
 rw[Mh h0,Mh h0];by_cases h22:f.IE.IP=22
 ·rw[Mg h22,Mg h22]; rfl
 rw[Mh h22,Mh h22];by_cases h24:f.IE.IP=24
 ·rw[Mg h24,Mg h24]; rfl
 rw[Mh h24,Mh h24];by_cases h26:f.IE.IP=26
 ·rw[Mg h26,Mg h26]; rfl
 rw[Mh h26,Mh h26];by_cases h27:f.IE.IP=27
 ·rw[Mg h27,Mg h27,of_eq f.I1 hm]; rfl
 rw[Mh h27,Mh h27];rfl
theorem of_nF (f:al) (hk:f.IE.IP=0\/f.IE.IP=22\/f.IE.IP=24\/f.IE.IP=26\/f.IE.IP=27):ofF (nF f)=ofF f:=by
 unfold ofF;rw[mZ];unfold nF;rcases hk with h | h | h | h | h <;> simp[h,frB,frA,frE,frM,frP]
def jp (f:al):Int :=
 if mP f.IE=0 then (if f.IE.IP=0 then si f.IE.IO f.IL else if f.IE.IP=27 then mr f.IE.IO f.I1 else if f.IE.IP=22 then fx f.I0.IJ f.I0.II f.I0.ID f.I0.IF f.IE.IO
  else if f.IE.IP=24 then mR f.I4.IJ f.I4.ID f.I4.IF f.I4.IC else lW f.Jb.IJ f.Jb.ID f.Jb.IF) else mP f.IE
theorem sk {h:e7} (k:mP h=0):(h.IP=0/\(h.IO=3\/h.IO=4))\/((h.IP=22\/h.IP=24\/h.IP=26\/h.IP=27)/\(h.IO=0\/h.IO=1)):=by
 have hv:=(Az k).1;unfold gy gb at hv;by_cases h0:h.IP=0
 ·simp[h0] at hv;exact .inl ⟨h0,by omega⟩
 by_cases h1:h.IP=22
 ·simp[h1] at hv;exact .inr ⟨.inl h1,by omega⟩
 by_cases h2:h.IP=24
 ·simp[h2] at hv;exact .inr ⟨.inr (.inl h2),by omega⟩
 by_cases h3:h.IP=26
 ·simp[h3] at hv;exact .inr ⟨.inr (.inr (.inl h3)),by omega⟩
 by_cases h4:h.IP=27
 ·simp[h4] at hv;exact .inr ⟨.inr (.inr (.inr h4)),by omega⟩
 simp[h0,h1,h2,h3,h4] at hv
structure tp (f:al):Prop where
 wf:gr f
 cl:f.IE.IK.data.length<=1000
 bg:f.I0.IJ.data.length<=1000
 ad:f.I4.IJ.length<=1000
 en:f.Jb.IJ.length<=1000
 ts:wTs f.I4.IC<=1000
 ml:f.I1.length<=20
 mt: ∀ m,m∈f.I1->wTs m.IC<=1000
 pq:zj (f.IL.IJ.data.length:Int) f.IL.IC
 pn:nTs (f.IL.IJ.data.length:Int) f.IL.IC<=2000
theorem few21 (f:al) (hw:gr f):jH f=some 0\/(jH f=some 1/\tp f):=by
 obtain⟨w1,w2,w3,w4,w5,w6⟩:=hw;have hw:gr f:=⟨w1,w2,w3,w4,w5,w6⟩;unfold jH;by_cases h1:(f.IE.IK.data.length:Int)>1000
 ·rw[Mg h1]; exact .inl rfl
 rw[Mh h1];by_cases h2:(f.I0.IJ.data.length:Int)>1000
 ·rw[Mg h2]; exact .inl rfl
 rw[Mh h2];by_cases h3:(f.I4.IJ.length:Int)>1000
 ·rw[Mg h3]; exact .inl rfl
 rw[Mh h3];by_cases h4:(f.Jb.IJ.length:Int)>1000
 ·rw[Mg h4]; exact .inl rfl
 rw[Mh h4];rcases Ej f.I4.IC w3.2.2.2.2 with h5 | ⟨h5,k5⟩
 ·rw[h5]; exact .inl rfl
 rw[h5];rcases few19 f.I1 w5.2 with h6 | ⟨h6,k6,m6⟩
 ·rw[Jo,Mh Md,h6]; exact .inl rfl
 rw[Jo,Mh Md,h6];rcases q_few w6 with h7 | ⟨h7,k7,m7⟩
 ·rw[Jo,Mh Md,h7]; exact .inl rfl
 rw[Jo,Mh Md,h7];exact .inr ⟨rfl,hw,by omega,by omega,by omega,by omega,k5,k6,m6,k7,m7⟩
theorem wO {f:al} (h:tp f):gdQ f.IL:=gdQ_of h.wf.2.2.2.2.2 h.pq
theorem Ge {f:al} (h:tp f):wTl f.I4.IC:=by
 have hn:=jg f.I4.IC;exact⟨h.wf.2.2.1.2.2.2.2,by have:=h.ts; omega⟩
theorem xN {f:al} (h:tp f):dZ f=some (ofF f):=of21 f (by have:=h.ml; omega) (fun _=>Cg (wO h))
theorem Gf (st:List UInt8×Int) (f:al):bE st f=bE st (nF f):=by
 unfold bE;rw[mZ];unfold nF;by_cases h22:f.IE.IP=22
 ·rw[Mg h22,Mg h22,Mg h22]; rfl
 rw[Mh h22,Mh h22,Mh h22];by_cases h24:f.IE.IP=24
 ·rw[Mg h24,Mg h24,Mg h24]; rfl
 rw[Mh h24,Mh h24,Mh h24];by_cases h26:f.IE.IP=26
 ·rw[Mg h26,Mg h26,Mg h26]; rfl
 rw[Mh h26,Mh h26,Mh h26];by_cases h27:f.IE.IP=27
 ·rw[Mg h27,Mg h27,Mg h27]; rfl
 rw[Mh h27,Mh h27,Mh h27];rfl
theorem Dv (f:al):cH f=cH (nF f):=by
 unfold cH;rw[mZ];simp only[Gf _ f]
theorem Dw {d:List UInt8} {p e:Int} (h:lW d p e=0):eD d=true/\who p e=true:=by
 unfold lW at h;by_cases h1:eD d=true
 ·rw[Mg h1] at h;by_cases h2:who p e=true
  ·exact⟨h1,h2⟩
  ·rw[Mh h2] at h; exact absurd h Md
 ·rw[Mh h1] at h; exact absurd h Md
theorem Ck {d:List UInt8} (h:eD d=true):okTx d:=⟨by have:=mT h; rw[sc]; exact Jq Mc,rfl⟩
theorem Cl {f:al} (h:f.IE.IP=22):nF f=frB f.IE f.I0:=by unfold nF; rw[Mg h]
theorem Cm {f:al} (h:f.IE.IP=24):nF f=frA f.IE f.I4:=by unfold nF; rw[Mh Mc,Mg h]
theorem Cn {f:al} (h:f.IE.IP=26):nF f=frE f.IE f.Jb:=by unfold nF; rw[Mh Mc,Mh Mc,Mg h]
theorem Co {f:al} (h:f.IE.IP=27):nF f=frM f.IE f.I1:=by unfold nF; rw[Mh Mc,Mh Mc,Mh Mc,Mg h]
theorem nF_0 {f:al} (h:f.IE.IP=0):nF f=frP f.IE f.IL:=by unfold nF; rw[Mh Mc,Mh Mc,Mh Mc,Mh Mc]
theorem Gg {v:Int} (hv:v=0\/v=1) {x:aT} (hw:ob x) (h:fx x.IJ x.II x.ID x.IF v=0):Bj v x:=by
 obtain⟨c1,c2,c3,c4⟩:=uD h;have f1:=BK c1 c2;have ft:bm x.II 4=true:=by rw[ej]; exact Jq Mc
 unfold Bj;rcases hv with rfl | rfl
 ·rw[Mh Md];rcases c4 with c4 | c4
  ·exact⟨⟨f1.1,c1⟩,ft,h,c4⟩
  ·exact absurd c4.1 Md
 ·rw[Mg Md];rcases c4 with c4 | c4
  ·exact⟨⟨f1.1,c1⟩,ft,by rw[c4.1]; decide,by rw[c4.2]; decide,h⟩
  ·have:=lm c4.2 hw.2.2.1;exact⟨⟨f1.1,c1⟩,ft,this.1,this.2,h⟩
theorem oQ {f:al} (h:tp f) (hc:jp f=0):xM (nF f)/\smF (nF f)/\(gF (nF f)).length<=302000/\ofF (nF f)=ofF f:=by
 have hh:mP f.IE=0:=by
  unfold jp at hc;by_cases hh:mP f.IE=0
  ·exact hh
  ·rw[Mh hh] at hc; exact absurd hc hh
 unfold jp at hc;rw[Mg hh] at hc;have hv:=sk hh;have hof:ofF (nF f)=ofF f:=of_nF f Mc;have hkey:nz f.IE (nF f)/\smF (nF f)/\(kC f.IE (nF f)).length<=300010:=by
  obtain⟨w1,w2,w3,w4,w5,w6⟩:=h.wf;have em: ∀ m:aH,m∈([]:List aH)->wTs m.IC<=2000:=fun m hm=>absurd hm List.not_mem_nil;rcases hv with⟨h0,hv⟩ | ⟨hk,hv⟩
  ·rw[Mg h0] at hc;rw[nF_0 h0];obtain⟨q1,q2,q3⟩:=okQ_of w6 h.pq h.pn hc;refine⟨?_,⟨JM _,em,by simp[frP,aS],fun _ _ _ _=>(⟨wO h,q2,q3⟩:gdQ f.IL/\ _)⟩,?_⟩
   ·unfold nz; rw[Mh Mc,Mh Mc,Mh Mc,Mh Mc]; exact⟨q1,rfl⟩
   ·unfold kC; rw[Mh Mc,Mh Mc,Mh Mc,Mh Mc]; show (pQ f.IL).length<= _; omega
  ·have h0:f.IE.IP≠0:=by omega
   rw[Mh h0] at hc;by_cases h27:f.IE.IP=27
   ·rw[Mg h27] at hc;rw[Co h27];have hf:mU f.IE.IO f.I1=0:=by
     unfold mr at hc;split at hc
     ·exact absurd hc Md
     ·exact hc
    have hl:=wn f.IE.IO f.I1 1000 h.mt;have hml:=h.ml;have hl2:(aS (ln f.IE.IO) f.I1).length<=20380:=Nat.le_trans hl (Nat.le_trans (Nat.mul_le_mul_right _ hml) Md);refine⟨?_,⟨JM _,fun m hm=>by have:=h.mt m hm; omega,?_,fun _ _ _ k=>absurd h27 k⟩,?_⟩
    ·unfold nz;rw[Mh Mc,Mh Mc,Mh Mc,Mg h27];exact⟨⟨⟨by rw[show (frM f.IE f.I1).I1=f.I1 from rfl,ej]; exact Jq Mc,fun m hm=>FY hv (sL hf m hm) (w5.2 m hm).1 (by have:=h.mt m hm; omega)⟩,hc⟩,rfl⟩
    ·show (aS (ln f.IE.IO) f.I1).length<= _; omega
    ·unfold kC;rw[Mh Mc,Mh Mc,Mh Mc,Mg h27];show (sJ f.IE.IO f.I1).length<= _;rw[sJ,Js,ax];omega
   rw[Mh h27] at hc;by_cases h22:f.IE.IP=22
   ·rw[Mg h22] at hc;rw[Cl h22];refine⟨?_,⟨JM _,em,by simp[frB,aS],fun k=>absurd h22 k⟩,?_⟩
    ·unfold nz; rw[Mg h22]; exact⟨Gg hv w2 hc,rfl⟩
    ·unfold kC; rw[Mg h22];show (yP f.IE.IO f.I0).length<= _;have:=h.bg;unfold yP yL yM uC;split
     ·simp only[Js,ax]; omega
     ·simp only[Js,ax]; omega
   rw[Mh h22] at hc;by_cases h24:f.IE.IP=24
   ·rw[Mg h24] at hc;rw[Cm h24];obtain⟨c1,c2,c3⟩:=wk hc;have hw:=lm c2 w3.2.1;have hts:=h.ts;have hn:=jg f.I4.IC;refine⟨?_,⟨by show wTs f.I4.IC<= _; omega,em,by simp[frA,aS],fun _ k=>absurd h24 k⟩,?_⟩
    ·unfold nz; rw[Mh h22,Mg h24];exact⟨⟨Ck c1,hw.1,hw.2,⟨by rw[show (frA f.IE f.I4).I4.IC=f.I4.IC from rfl,ej]; exact Jq Mc,xt (sd c3).2 (by show wTs f.I4.IC<= _; omega)⟩,hc⟩,rfl⟩
    ·unfold kC; rw[Mh h22,Mg h24];show (AD f.I4).length<= _;have:=h.ad;simp only[AD,sH,lQ,Js,ax,jK];omega
   rw[Mh h24] at hc;have h26:f.IE.IP=26:=by omega
   rw[Cn h26];obtain⟨c1,c2⟩:=Dw hc;have hw:=lm c2 w4.2.1;refine⟨?_,⟨JM _,em,by simp[frE,aS],fun _ _ k=>absurd h26 k⟩,?_⟩
   ·unfold nz; rw[Mh h22,Mh h24,Mg h26]; exact⟨⟨Ck c1,hw.1,hw.2,hc⟩,rfl⟩
   ·unfold kC; rw[Mh h22,Mh h24,Mg h26];show (AC f.Jb).length<= _;have:=h.en;have hb:(jV f.Jb.I2).length<=1:=by cases f.Jb.I2 <;> decide
    simp only[AC,sH,Js,ax];omega
 obtain⟨k1,k2,k3⟩:=hkey;have hcl:=h.cl;have hl:(gF (nF f)).length<=302000:=by
  rw[gF,mZ,Js,vc];omega
 refine⟨⟨⟨by rw[mZ]; exact Az hh,by rw[mZ]; exact k1⟩,by rw[ej]; exact Jq Mc⟩,k2,hl,hof⟩
theorem pR (r:cG) (h1:r.IC.length<=1000000) (h2: ∀ t,t∈r.IC->t.IH.length<=140737488355328):gO r r=some true:=by
 unfold gO;rw[Mg rfl,Mg rfl,Mg rfl,Mg rfl,Mg rfl,uz _ _ h1 h2,sF];cases r.I2 <;> rfl
theorem wP {f:al} (h:tp f) (hk:f.IE.IP=0\/f.IE.IP=22\/f.IE.IP=24\/f.IE.IP=26\/f.IE.IP=27):dZ (nF f)=some (ofF f):=by
 rw[<- of_nF f hk];refine of21 (nF f) ?_ ?_
 ·have:=h.ml;rcases hk with k | k | k | k | k
  ·rw[nF_0 k]; exact JM _
  ·rw[Cl k]; exact JM _
  ·rw[Cm k]; exact JM _
  ·rw[Cn k]; exact JM _
  ·rw[Co k]; show f.I1.length<= _; omega
 ·rw[mZ];intro k;rw[nF_0 k];show kX f.IL=some (ofQ f.IL);exact Cg (wO h)
theorem jl:gN z20 z20=some true:=by
 have:=oA (b:=zQ) zQ_gd;rw[uZ] at this;exact this
theorem jm:iA [] []=some true:=by
 have:=uG [] [] Md (fun m hm=>absurd hm List.not_mem_nil);exact this
theorem ve {f:al} (h:tp f):ez (ofF f) (ofF f)=some true:=by
 have hb: ∀ {t:Top} {l:List Top},wTs l<=1000->t∈l->t.IH.length<=140737488355328:=fun {t l} hw ht=>by
  have:=qM _ _ ht;unfold wT at this;omega
 have h18:gO (ofF f).Jf (ofF f).Jf=some true:=by
  have hn:=jg f.I4.IC;have hts:=h.ts;unfold ofF;split
  ·exact pR zR Md (fun t ht=>absurd ht List.not_mem_nil)
  split
  ·exact pR (gB f.I0) (JM _) (fun t ht=>absurd ht List.not_mem_nil)
  split
  ·exact pR (gA f.I4) (by show f.I4.IC.length<= _; omega) (fun t ht=>hb hts ht)
  split
  ·exact pR (gE f.Jb) (JM _) (fun t ht=>absurd ht List.not_mem_nil)
  split
  ·exact pR zR Md (fun t ht=>absurd ht List.not_mem_nil)
  ·exact pR zR Md (fun t ht=>absurd ht List.not_mem_nil)
 have h19:iA (ofF f).I1 (ofF f).I1=some true:=by
  unfold ofF;split
  ·exact jm
  split
  ·exact jm
  split
  ·exact jm
  split
  ·exact jm
  split
  ·have:=uG f.I1 f.I1 (by have:=h.ml; omega) (fun m hm=>⟨by have:=jg m.IC; have:=h.mt m hm; omega,fun t ht=>hb (h.mt m hm) ht⟩);rw[Jq rfl] at this;exact this
  ·exact jm
 have h20:gN (ofF f).IL (ofF f).IL=some true:=by
  unfold ofF;split
  ·have:=oA (b:=f.IL) (wO h);rw[uZ] at this;exact this
  split
  ·exact jl
  split
  ·exact jl
  split
  ·exact jl
  split
  ·exact jl
  ·exact jl
 unfold ez;rw[Mg rfl,Mg rfl,Mg rfl,Mg rfl,Mg rfl,h18,Jo,Mg rfl,h19,Jo,Mg rfl,h20];rfl
theorem vf {f:al} (hc:jp f=0):f.IE.IP=0\/f.IE.IP=22\/f.IE.IP=24\/f.IE.IP=26\/f.IE.IP=27:=by
 have hh:mP f.IE=0:=by
  unfold jp at hc;by_cases hh:mP f.IE=0
  ·exact hh
  ·rw[Mh hh] at hc; exact absurd hc hh
 have:=sk hh;omega
theorem pS {f:al} (h:tp f) (hc:jp f=0):cH f=some (ba (nF f),0):=by
 obtain⟨k1,k2,k3,k4⟩:=oQ h hc;rw[Dv f,Bk k1 k2 Mc]
theorem wQ {f:al} (h:tp f) (hc:jp f=0):(ba (nF f)).length<=302004:=by
 obtain⟨k1,k2,k3,k4⟩:=oQ h hc;rw[ba,Js,ax];omega
theorem zD (f:al):(ofF f).IE=mu f.IE:=by
 unfold ofF
 repeat' split
 all_goals rfl
theorem Dx {f:al} (h:tp f) (hh:mP f.IE=0) (hc:jp f≠0) {t:List UInt8} (ht:t.length<=100000):bE (t,0) f=some (t,jp f):=by
 obtain⟨w1,w2,w3,w4,w5,w6⟩:=h.wf;rcases sk hh with⟨h0,hv⟩ | ⟨hk,hv⟩
 ·have e:jp f=si f.IE.IO f.IL:=by unfold jp; rw[Mg hh,Mg h0]
  rw[e] at hc ⊢;unfold bE;rw[Mh Mc,Mh Mc,Mh Mc,Mh Mc];unfold da;rw[Be f.IL _ (wO h),Jo,Mh hc,ma];rfl
 ·have h0:f.IE.IP≠0:=by omega
  by_cases h27:f.IE.IP=27
  ·have e:jp f=mr f.IE.IO f.I1:=by unfold jp; rw[Mg hh,Mh h0,Mg h27]
   rw[e] at hc ⊢;unfold bE;rw[Mh Mc,Mh Mc,Mh Mc,Mg h27];unfold hC;rw[AE _ f.I1 (fun m hm=>⟨(w5.2 m hm).2.1,(w5.2 m hm).2.2.2.2,(w5.2 m hm).2.2.2.1.2,by have:=jg m.IC; have:=h.mt m hm; omega⟩),Jo,Mh hc,ma];rfl
  by_cases h22:f.IE.IP=22
  ·have e:jp f=fx f.I0.IJ f.I0.II f.I0.ID f.I0.IF f.IE.IO:=by unfold jp; rw[Mg hh,Mh h0,Mh h27,Mg h22]
   rw[e] at hc ⊢;unfold bE;rw[Mg h22,pJ f.I0 _ t w2.2.2.1 w2.2.2.2 w2.2.1 Mc,Mh hc];rfl
  by_cases h24:f.IE.IP=24
  ·have e:jp f=mR f.I4.IJ f.I4.ID f.I4.IF f.I4.IC:=by unfold jp; rw[Mg hh,Mh h0,Mh h27,Mh h22,Mg h24]
   rw[e] at hc ⊢;unfold bE;rw[Mh h22,Mg h24,yO f.I4 t w3.2.1 w3.2.2.1 (Ge h) (by have:=h.ts; omega) Mc,Mh hc];rfl
  ·have e:jp f=lW f.Jb.IJ f.Jb.ID f.Jb.IF:=by unfold jp; rw[Mg hh,Mh h0,Mh h27,Mh h22,Mh h24]
   rw[e] at hc ⊢;unfold bE;rw[Mh h22,Mh h24,Mg Mc,yN f.Jb t w4.2.1 w4.2.2.1 Mc,Mh hc];rfl
theorem vg {f:al} (h:tp f) (hc:jp f≠0):cH f=some ([],jp f):=by
 unfold cH;rw[uq f.IE [] (JM _) h.wf.1.2.2.1 (by have:=h.cl; omega),Jo,JI];by_cases hh:mP f.IE=0
 ·have hb:=Dx h hh hc (t:=r9 f.IE) (by rw[vc]; have:=h.cl; omega);rw[Mg hh,tO,Jo];dsimp only;rw[Mg rfl,hb,Jo,Jo,g6,otx_e _ _ hc,Jo];dsimp only;rw[Mh hc]
 ·have e:jp f=mP f.IE:=by unfold jp; rw[Mh hh]
  rw[Mh hh,tO,Jo];dsimp only;rw[Mh hh,Jo,g6,otx_e _ _ hh,Jo];dsimp only;rw[Mh hh,e]
theorem Dy {f:al} (h:xM f):Cj (ba f)=(f,0):=by
 have hb:=vb (s:=ba f) (t := []) (JM _) h (by rw[List.drop_zero,JE]);unfold Cj;rw[hb,Nat.zero_add];simp only[zy];rw[Mh Mc]
def Fq:ey := [(147,0,0),(147,1,1),(149,0,0),(149,1,2),(149,2,3)]
theorem aJ:(Fq).OK Tryz.prog:=⟨FOK.mk Tryz.runUnderlying147 rfl Jv rfl,FOK.mk Tryz.runUnderlying147 rfl Jv rfl,FOK.mk Ls rfl Tryz.sizeOf147 rfl,FOK.mk Ls rfl JO rfl,FOK.mk Ls rfl Tryz.sizeOf41 rfl,trivial⟩
def Fs:List Nat := [3,9,41]
theorem eQ:NOK Tryz.prog Fs:=⟨Jy,JZ,Tryz.isAgg41,trivial⟩
theorem oR:Tryz.prog.follows .mixedOrders=true:=by kernel_rfl
theorem vK:BOK Tryz.prog 149 #[.int .i64 0,.int .i64 0,.string ⟨#[]⟩,.int .i64 0] [(0,2),(2,1),(3,1)]:=BOK.mk Tryz.zeroValue149 Ls (by intro w; simp)
theorem vh:SOK Tryz.prog 60 38 1 24 #[.int .i64 0,.int .i64 0,.int .i64 0,.bool false,.string ⟨#[]⟩,.bool false,.string ⟨#[]⟩,.int .i64 0,.int .i64 0,.int .i64 0,.string ⟨#[]⟩,.int .i64 0,.int .i64 0,.slice none 0 0,.string ⟨#[]⟩,.int .i64 0,.int .i64 0,.bool false,.slice none 0 0,.bool false,.string ⟨#[]⟩,.int .i64 0,.int .i64 0,.slice none 0 0]:=SOK.mk Lt JC Tryz.zeroValue38 Md Me
theorem xO:(Tryz.prog.info? 38).map (fun i=>(i.zero,i.size,i.bytes))=some (some (.agg #[.int .i64 0,.int .i64 0,.int .i64 0,.bool false,.string ⟨#[]⟩,.bool false,.string ⟨#[]⟩,.int .i64 0,.int .i64 0,.int .i64 0,.string ⟨#[]⟩,.int .i64 0,.int .i64 0,.slice none 0 0,.string ⟨#[]⟩,.int .i64 0,.int .i64 0,.bool false,.slice none 0 0,.bool false,.string ⟨#[]⟩,.int .i64 0,.int .i64 0,.slice none 0 0]),24,280):=by kernel_rfl
def kc  : Option (aM):=some (⟨(⟨0,0⟩:dC),[],0⟩:aM)
theorem sn  (r:aM) (h:kc  = some r):aC Tryz.prog 27 #[] .triv (aO) (fun v A' N=> ∃ q:Nat,v=jP q/\A'=aO/\N = [aN q 149 (yq r)]):=by
 refine aU Tryz.func27 Z Tryz.ntmps27 Z ?_;intro F w hX;unfold kc at h;refine Gq Z (GP aJ Z Z ?_);refine Gr Z (GW (cells:= #[jI 0,jI 0,.string ⟨#[]⟩,jI 0]) vK Z Me) Z ?_;refine TL.box Z .u Z Z (fun b1=>(Gp aJ 1 Z ?_));obtain rfl:=Jp h;exact Gs (T.ret (GV [1,0] Tryz.results27 (Gu Z) ⟨_,Z,Z,Z⟩ Mf (.inl Z)))
def cW (st:aM)  : Option (Int×Bool×aM):=if (st.fheld.length:Int)<4 then some (0,false,st) else ((sZ st.fheld).bind fun st2=>(dB st2 4).bind fun (x5,st6)=>(if x5<0 then some true else (if x5>16777216 then some true else some false)).bind fun y9=>if y9=true then (some (0,false,(⟨st.fcount,st.fheld,4⟩:aM))) else (if -9223372036854775808<=(4+x5)/\(4+x5)<=9223372036854775807 then (if -9223372036854775808<=(4+x5)/\(4+x5)<=9223372036854775807 then (if (st.fheld.length:Int)>=(4+x5) then (some ((4+x5),true,st)) else (some ((4+x5),false,st))) else none) else none))
theorem lA (g:Nat) (st:aM)  (r:Int×Bool×aM) (h:cW st  = some r):aC Tryz.prog 76 #[jP g] .triv (aN g 149 (yq st)) (fun v A' N=>v= .tuple #[jI r.1,.bool r.2.1]/\A'=aN g 149 #[jI r.2.2.fcount.fmany,jI r.2.2.fcount.fat,jS r.2.2.fheld,jI r.2.2.ferr]/\N = []):=by
 refine aU Tryz.func76 Z Tryz.ntmps76 Z ?_;intro F w hX;unfold cW at h;refine Gq Z (Gx aJ Z (T.seq (Gq Z (Gt aJ eQ 0 Z 4 Z Z (Gr Z (Hv Z JJ) Z (Gp aJ 1 Z ?_))))));rcases jF h with⟨c1,h⟩ | ⟨c1,h⟩
 ·refine Hg Z c1 (Gq Z (Gp aJ 2 Z ?_));obtain rfl:=Jp h;exact Gs (T.ret (Gv (G9 [0] Mb (Gu Z) (Gu Z) ⟨Z,Z,Z⟩ Mf (.inl Z))))
 refine Hh Z c1 (G3 Z ?_);obtain⟨st2,hx3,h⟩:=Jn h;refine Gt aJ eQ 0 Z 4 Z Z (HZ Z .u (.fn Tryz.call19 Z) (iE st.fheld _ hx3) rT Z ?_);rintro _ _ _ ⟨b4,rfl,rfl,rfl⟩;refine Hc [0,0] Z ?_;obtain⟨⟨x5,st6⟩,hx7,h⟩:=Jn h;refine Gy 0 Z Z .u (.fn Tryz.call68 Z) (bl b4 st2 4 _ hx7) sT Z Z (Gx aJ Z (Ig ?_));obtain⟨y9,h,hk10⟩:=Jn h;refine Hj (fun e Rs=>e = [(0,jP g),(2,jI 0),(3,.bool false),(4,jI x5),(22,.bool y9)]/\Rs = [InR b4 st6,aN g 149 (yq st)]) ?_ ?_
 ·clear hk10;refine T.region Z ?_;rcases jF h with⟨c11,h⟩ | ⟨c11,h⟩
  ·refine Gp aJ 3 Z (GA 19 Z (Jq c11) (GB aJ 3 Z ?_));cases h;exact TL.nil (GE [0,0])
  refine Gp aJ 3 Z (GA 19 Z (Jr c11) (GB aJ 3 Z ?_));rcases jF h with⟨c12,h⟩ | ⟨c12,h⟩
  ·cases h;exact TL.nil (Hn (d:=22) (v':= .bool true) Z (congrArg Value.bool (Jq c12)) (GE [0,0]))
  cases h;exact TL.nil (Hn (d:=22) (v':= .bool false) Z (congrArg Value.bool (Jr c12)) (GE [0,0]))
 rintro _ _ ⟨rfl,rfl⟩;clear h;have h:=hk10;clear hk10;try dsimp only at h
 rcases jF h with⟨c13,h⟩ | ⟨c13,h⟩
 ·refine X.seq (GF Z c13 (Gq Z (Gp aJ 3 Z (GC 1 Z (cs':= #[jI st.fcount.fmany,jI st.fcount.fat,jS st.fheld,jI 4]) Z .u Z Z Tryz.sizeOf41 Z Z Z Z Z (GG Z (Gp aJ 2 Z ?_))))));obtain rfl:=Jp h;exact Gs (T.ret (Gv (G9 [1] Mb (Gu Z) (Gu Z) ⟨Z,Z,Z⟩ Mf (.inl Z))))
 replace c13:=Ju c13;refine X.seq (GU Z c13 ?_);refine GQ (T.seq (G6 (.q 0 (.q 1 (.q 2 (.q 3 (.q 4 (.q 5 (.q 6 (.q 7 (.q 8 (.q 9 (.q 10 (.q 11 .nil)))))))))))) [0,0] Z oR (NoP.seq bA) Me ?_));obtain⟨c14,h⟩:=aE h;refine TD.run aJ [0] Z Z (Gw Z (Ex.add Z Z c14) Z (TD.run aJ [2,3,4] Z Z (Gw Z (GM 1 Z JZ Z Z) Z (Gw Z (Hv Z JJ) Z ?_))));obtain⟨c15,h⟩:=aE h;refine TD.run aJ [7] Z Z (Gw Z (Ex.add Z Z c15) Z (TD.run aJ [9,10,11] Z Z ?_));rcases jF h with⟨c16,h⟩ | ⟨c16,h⟩
 ·obtain rfl:=Jp h;exact Hp (T.ret (G9 [1] Mb (Gu Z) (Gu (v:= .bool true) (congrArg (fun b=>some (Value.bool b)) (Jq c16))) ⟨Z,Z,Z⟩ Mf (.inl Z)))
 obtain rfl:=Jp h;exact Hp (T.ret (G9 [1] Mb (Gu Z) (Gu (v:= .bool false) (congrArg (fun b=>some (Value.bool b)) (Jr c16))) ⟨Z,Z,Z⟩ Mf (.inl Z)))
def hZ (st:aM) (a1:Int):Option (aM):=if -9223372036854775808<=(st.fcount.fmany+1)/\(st.fcount.fmany+1)<=9223372036854775807 then (if -9223372036854775808<=(st.fcount.fat+a1)/\(st.fcount.fat+a1)<=9223372036854775807 then (some (⟨(⟨(st.fcount.fmany+1),(st.fcount.fat+a1)⟩:dC),st.fheld,st.ferr⟩:aM)) else none) else none
theorem nA (g:Nat) (st:aM) (a1:Int) (r:aM) (h:hZ st a1=some r):aC Tryz.prog 77 #[jP g,jI a1] .triv (aN g 149 (yq st)) (fun v A' N=>v= .tuple #[]/\A'=aN g 149 (yq r)/\N = []):=by
 refine aU Tryz.func77 Z Tryz.ntmps77 Z ?_;intro F w hX;unfold hZ at h;obtain⟨c1,h⟩:=aE h;obtain⟨c2,h⟩:=aE h;refine Ix (fun e Rs=>e = []/\Rs = [aN g 149 (vA18 a1 st)]) ?_ ?_
 ·refine G6 (.q 0 (.q 1 (.q 2 (.q 3 (.q 4 (.q 7 (.q 8 (.q 9 (.q 11 (.br 5 (.q 6 (.e 10 (.q 12 (.q 13 (.q 14 (.e 15 (.q 16 (.q 17 (.e 18 .nil))))))))) (.e 10 (.q 12 (.e 5 (.q 6 (.q 13 (.q 14 (.e 15 (.q 16 (.q 17 (.e 18 .nil)))))))))))))))))))) [] Z oR tV Me ?_;refine TD.run aJ [0,1,2,3,4,7,8,9,11] Z Z ?_;refine TD.br ?_ ?_
  ·refine Id Z .u (GM 0 Z Jy Z Z) Z [] Z (Gw Z (Ex.add Z Z c1) Z (Id Z .u (GM 0 Z Jy Z Z) Z [] Z (Gw Z (Ex.add Z Z c2) Z (TD.run aJ [13,14] Z Z (Hw 0 Z (cs':=vA19 st) Z .u Z Z Jv Z Z Z Z Z [] (Z) (TD.run aJ [16,17] Z Z (Hw 0 Z (cs':=vA18 a1 st) Z .u Z Z Jv Z Z Z Z Z [] (Z) ?_)))))));exact TD.nil (Ij [0] ⟨Z,Z⟩ Mf Mf)
  refine Id Z .u (GM 0 Z Jy Z Z) Z [] Z (Gw Z (Ex.add Z Z c2) Z (Id Z .u (GM 0 Z Jy Z Z) Z [] Z (Gw Z (Ex.add Z Z c1) Z (TD.run aJ [13,14] Z Z (Hw 0 Z (cs':=vA19 st) Z .u Z Z Jv Z Z Z Z Z [] (Z) (TD.run aJ [16,17] Z Z (Hw 0 Z (cs':=vA18 a1 st) Z .u Z Z Jv Z Z Z Z Z [] (Z) ?_)))))));exact TD.nil (Ij [0] ⟨Z,Z⟩ Mf Mf)
 rintro _ _ ⟨rfl,rfl⟩;obtain rfl:=Jp h;exact Ht [0] Tryz.results77 ⟨Z,Z,Z⟩ Mf (.inr Z)
def co:Nat->List al->Int->List al->Int->Int->List UInt8->Int->Option (Lp (List al×Int×aM) (List al×Int×List al×Int×Int×List UInt8×Int))
 | 0,_,_,_,_,_,_,_=>none
 | m17+1,y3,y6,y7,y10,y11,y12,y13=>(cW (⟨(⟨y10,y11⟩:dC),y12,y13⟩:aM)).bind fun (x21,x22,st23)=>if x22=true then (if 0<=x21/\x21.toNat<=st23.fheld.length then ((eY (st23.fheld.take x21.toNat)).bind fun (x27,x34)=>if x34=0 then (if (y7.length+1)*280<=140737488355328 then ((hZ st23 x21).bind fun st42=>if 0<=x21/\x21.toNat<=st42.fheld.length then (co m17 y3 y6 (y7 ++ [x27]) st42.fcount.fmany st42.fcount.fat (st42.fheld.drop x21.toNat) st42.ferr) else none) else none) else (some (Lp.ret (y7,x34,(⟨st23.fcount,st23.fheld,x34⟩:aM))))) else none) else (some (Lp.ret (y7,st23.ferr,st23)))
def dH (st:aM) (a1:List UInt8):Option (List al×Int×aM):=if st.ferr=0 then (if st.fheld.length+a1.length<=9223372036854775807 then ((co ((((st.fheld++a1).length:Int)+1).toNat+1) [] 0 [] st.fcount.fmany st.fcount.fat (st.fheld++a1) st.ferr).bind fun e=>match e with | .ret r=>some r | .go (y45,y48,y49,y52,y53,y54,y55)=>(some (y45,y48,(⟨(⟨y52,y53⟩:dC),y54,y55⟩:aM)))) else none) else some ([],st.ferr,st)
theorem lB (g:Nat) (st:aM) (a1:List UInt8) (r:List al×Int×aM) (h:dH st a1=some r):aC Tryz.prog 29 #[jP g,jS a1] .triv (aN g 149 (yq st)) (fun v A' N=> ∃ (A56:Option Addr) (c57:Nat),v= .tuple #[.slice A56 r.1.length c57,jI r.2.1]/\A'=aN g 149 #[jI r.2.2.fcount.fmany,jI r.2.2.fcount.fat,jS r.2.2.fheld,jI r.2.2.ferr]/\N = [RdR (ai 24 cu) [.slice A56 r.1.length c57] r.1]):=by
 refine aU Tryz.func29 Z Tryz.ntmps29 Z ?_;intro F w hX;unfold dH at h;refine Gq Z (GP aJ Z Z (Gx aJ Z (T.seq (Gq Z (Gt aJ eQ 0 Z 5 Z Z ?_)))));rcases jF h with⟨c1,h⟩ | ⟨c1,h⟩
 ·refine GY Z c1 (G3 Z ?_);obtain⟨c2,h⟩:=aE h;refine Gt aJ eQ 0 Z 5 Z Z (Gr Z (Ex.sAdd Z Z c2) Z (Gp aJ 2 Z (GC 0 Z (cs':= #[jI st.fcount.fmany,jI st.fcount.fat,.string (bsOf (st.fheld++a1)),jI st.ferr]) Z .u Z Z JO Z Z Z Z Z (Gs (T.block ?_)))));iterate 2 refine HK 38 24 cu ?_
  obtain⟨E14,hE15,hO16⟩:=Jn h;refine Hl (fun m e Rs=> ∃ (y3:List al) (A4:Option Addr) (c5:Nat) (y6:Int) (y7:List al) (A8:Option Addr) (c9:Nat) (y10:Int) (y11:Int) (y12:List UInt8) (y13:Int),e = [(0,jP g),(4,.slice A4 y3.length c5),(5,jI y6),(6,.slice A8 y7.length c9)]/\Rs = [ci 38 24 cu (.slice A4 y3.length c5) y3,ci 38 24 cu (.slice A8 y7.length c9) y7,aN g 149 #[jI y10,jI y11,jS y12,jI y13]]/\co m y3 y6 y7 y10 y11 y12 y13=some E14) ((((st.fheld++a1).length:Int)+1).toNat+1) [0,0,0] ⟨[],none,0,0,[],none,0,st.fcount.fmany,st.fcount.fat,(st.fheld++a1),st.ferr,Z,Z,by exact hE15⟩ Mf Mf ?_;clear hE15 h;rintro m17 _ _ ⟨y3,A4,c5,y6,y7,A8,c9,y10,y11,y12,y13,rfl,rfl,h⟩
  cases m17 with
  | zero =>
   rw[co] at h;cases h
  | succ m17 =>
   rw[co] at h;refine T.block (Gq Z ?_);obtain⟨⟨x21,x22,st23⟩,hx24,h⟩:=Jn h;refine Gp aJ 1 Z (Gy 2 Z Z .u (.fn Tryz.call76 Z) (lA g (⟨(⟨y10,y11⟩:dC),y12,y13⟩:aM) _ hx24) sT Z Z (Gx aJ Z (T.seq (Gq Z (Gp aJ 2 Z ?_)))));rcases jF h with⟨c25,h⟩ | ⟨c25,h⟩
   ·refine Gs (GU Z (bd c25) (G3 Z ?_));obtain⟨c26,h⟩:=aE h;refine Gt aJ eQ 2 Z 5 Z Z ?_;replace c26:0<=x21/\x21.toNat<=st23.fheld.length:=c26;refine Gr Z (Is (p:=0) (q:=x21.toNat) (m:=(st23.fheld.take x21.toNat)) Z JJ .none (.some Z ((Int.toNat_of_nonneg c26.1).symm)) (by first | omega | (dsimp only; omega)) (by simp)) Z ?_;obtain⟨⟨x27,x34⟩,hx35,h⟩:=Jn h;refine HZ Z .u (.fn Tryz.call15 Z) (kB (st23.fheld.take x21.toNat) _ hx35) rT Z ?_;rintro _ _ _ ⟨A28,c29,A30,c31,A32,c33,rfl,rfl,rfl⟩;refine Hc [0,0,0,0,0,0] Z (Gp aJ 3 Z (TL.alloc Z .u Tryz.zeroValue38 Z (fun b36=>(GC 0 Z (cs':=g7 x27 A28 A30 A32 c29 c31 c33) Z .u Z Z JC Z Z Z Z Z (Gx aJ Z (T.seq (Gq Z (Gp aJ 2 Z ?_))))))));rcases jF h with⟨c37,h⟩ | ⟨c37,h⟩
    ·refine GY Z c37 (G3 Z (Gp aJ 1 Z (Gr Z (GH (us:=nM x27 A28 A30 A32 c29 c31 c33) 0 Z JU JC Z Z Z) Z ?_)));refine Ib (cells:=g7 x27 A28 A30 A32 c29 c31 c33) Z .u vh Z Me Z (fun b38=> ?_);obtain⟨c39,h⟩:=aE h;refine Hc [2,2,2,0,0,0,0,0] Z ?_;iterate 2 refine TL.pair ?_
     refine Hc [1,0,0,0,0,0] Z ?_;refine Iu 3 0 Z .u (us:=nM x27 A28 A30 A32 c29 c31 c33) (u:=x27) (l:=y7) (E:=cu) Tryz.underlying60 xO Z Md Z Z Z Z Z Z Z (fun w G hG=>⟨_,_,_,_,_,_,Z,(and3 hG).1,(and3 hG).2.1,(and3 hG).2.2⟩) (by have hq:=c39; omega) (by have hq:=c39; omega) Z (fun A40 c41=> ?_);refine Hc [0,0,0,0] Z (GP aJ Z Z ?_);obtain⟨st42,hx43,h⟩:=Jn h;refine Gp aJ 4 Z (Gy 3 Z Z .u (.fn Tryz.call77 Z) (nA g st23 x21 _ hx43) sT Z Z (Gs (T.region Z ?_)));obtain⟨c44,h⟩:=aE h;refine Gt aJ eQ 3 Z 6 Z Z ?_;replace c44:0<=x21/\x21.toNat<=st42.fheld.length:=c44;refine Gr Z (Is (p:=x21.toNat) (q:=st42.fheld.length) (m:=(st42.fheld.drop x21.toNat)) Z JJ (.some Z ((Int.toNat_of_nonneg c44.1).symm)) .none (by first | omega | (dsimp only; omega)) (tr _ _)) Z ?_;exact Gp aJ 2 Z (GC 3 Z (cs':= #[jI st42.fcount.fmany,jI st42.fcount.fat,.string (bsOf (st42.fheld.drop x21.toNat)),jI st42.ferr]) Z .u Z Z JO Z Z Z Z Z (TL.nil (GN (X.back (m':=m17) [2,0,1] Mc ⟨y3,A4,c5,y6,(y7 ++ [x27]),A40,c41,st42.fcount.fmany,st42.fcount.fat,(st42.fheld.drop x21.toNat),st42.ferr,Z,Z,h⟩ Mf Mf))))
    refine GX Z c37 (Gq Z (Gp aJ 4 Z (GC 6 Z (cs':= #[jI st23.fcount.fmany,jI st23.fcount.fat,jS st23.fheld,jI x34]) Z .u Z Z Tryz.sizeOf41 Z Z Z Z Z (GG Z (Gp aJ 4 Z ?_)))));obtain rfl:=Jp h;obtain rfl:=Jp hO16;exact Gs (T.ret (Gv (GI (Gv (GI (Ip Md 5 Z (G8 [0,0,0,0,0,0,0] Z (G9 [6,5] Tryz.results29 (Gu Z) (Gu Z) ⟨_,_,Z,Z,Z⟩ Mf (.inl Z)))))))))
   replace c25:=Ju c25;refine Gs (GF Z (bM c25) ?_);refine T.seq (G6 (.q 0 (.q 1 (.q 2 (.q 3 (.q 4 (.q 5 (.q 6 .nil))))))) [0,0,0] Z oR (NoP.seq (NoP.seq (NoP.blk (NoP.seq (NoP.blk bA))))) Me ?_);refine TD.run aJ [0,1,2,3] Z Z (Gw Z (GM 2 Z Tryz.isAgg41 Z Z) Z (TD.run aJ [5,6] Z Z ?_));obtain rfl:=Jp h;obtain rfl:=Jp hO16;exact Hp (T.ret (Gv (GI (Gv (GI (Ip Md 1 Z (G8 [0,0,0] Z (G9 [2,1] Tryz.results29 (Gu Z) (Gu Z) ⟨_,_,Z,Z,Z⟩ Mf (.inl Z)))))))))
 refine GX Z c1 ?_;refine T.seq (G6 (.q 0 (.q 1 (.q 2 (.q 3 (.q 4 (.q 5 .nil)))))) [0] Z oR (NoP.seq (NoP.seq bA)) Me ?_);refine TD.run aJ [0,1,2] Z Z (Gw Z (GM 0 Z Tryz.isAgg41 Z Z) Z (TD.run aJ [4,5] Z Z ?_));obtain rfl:=Jp h;exact Hp (T.ret (Gv (GO 24 cu (G9 [1,0] Tryz.results29 (Gu Z) (Gu Z) ⟨_,_,Z,Z,Z⟩ Mf (.inl Z)))))
def dq (st:aM)  : Option (Int×aM):=(if st.ferr=0 then (if st.fheld = [] then some false else some true) else some false).bind fun y2=>(if y2=true then ((some 1:Option (Int))) else some st.ferr).bind fun y7=>some (y7,(⟨st.fcount,st.fheld,y7⟩:aM))
theorem lw (g:Nat) (st:aM)  (r:Int×aM) (h:dq st  = some r):aC Tryz.prog 32 #[jP g] .triv (aN g 149 (yq st)) (fun v A' N=>v=jI r.1/\A'=aN g 149 #[jI r.2.fcount.fmany,jI r.2.fcount.fat,jS r.2.fheld,jI r.2.ferr]/\N = []):=by
 refine aU Tryz.func32 Z Tryz.ntmps32 Z ?_;intro F w hX;unfold dq at h;refine Gq Z (Gx aJ Z (Ig ?_));obtain⟨y2,h,hk3⟩:=Jn h;refine Hj (fun e Rs=>e = [(0,jP g),(2,jI 0),(14,.bool y2)]/\Rs = [aN g 149 (yq st)]) ?_ ?_
 ·clear hk3;refine T.region Z ?_;rcases jF h with⟨c4,h⟩ | ⟨c4,h⟩
  ·refine Gt aJ eQ 0 Z 6 Z Z (GA 8 Z (Jq c4) (Gt aJ eQ 0 Z 4 Z Z (TL.q Z (.g Z Z Z) (Ex.sNe Z (m := []) Z) Z (GB aJ 1 Z ?_))));rcases jF h with⟨c5,h⟩ | ⟨c5,h⟩
   ·cases h;exact TL.nil (Hn (d:=14) (v':= .bool false) Z (congrArg Value.bool (bd (Jq c5))) (GE [0]))
   cases h;exact TL.nil (Hn (d:=14) (v':= .bool true) Z (congrArg Value.bool (bM (Jr c5))) (GE [0]))
  refine Gt aJ eQ 0 Z 6 Z Z (GA 8 Z (Jr c4) (GB aJ 6 Z ?_));cases h;exact TL.nil (GE [0])
 rintro _ _ ⟨rfl,rfl⟩;clear h;have h:=hk3;clear hk3;refine X.seq ?_;obtain⟨y7,h,hk8⟩:=Jn h;refine Hj (fun e Rs=>e = [(0,jP g),(2,jI 0)]/\Rs = [aN g 149 #[jI st.fcount.fmany,jI st.fcount.fat,jS st.fheld,jI y7]]) ?_ ?_
 ·clear hk8;rcases jF h with⟨c9,h⟩ | ⟨c9,h⟩
  ·refine GF Z c9 (T.region Z (Gp aJ 3 Z (GC 0 Z (cs':= #[jI st.fcount.fmany,jI st.fcount.fat,jS st.fheld,jI 1]) Z .u Z Z Tryz.sizeOf41 Z Z Z Z Z ?_)));cases h;exact TL.nil (GE [0])
  replace c9:=Ju c9;refine GU Z c9 ?_;cases h;exact T.skip (GE [0])
 rintro _ _ ⟨rfl,rfl⟩;clear h;have h:=hk8;clear hk8;refine X.seq (Gq Z (Gt aJ eQ 0 Z 5 Z Z ?_));obtain rfl:=Jp h;exact Gs (T.ret (GD [0] Tryz.results32 (Gu Z)))
def so:ey := []
theorem bf:(so).OK Tryz.prog:=trivial
theorem ra:Tryz.prog.follows .mixedOrders=true:=by kernel_rfl
theorem jo:SOK Tryz.prog 78 9 1 1 #[.string ⟨#[]⟩]:=SOK.mk Kx JO Tryz.zeroValue9 Md Me
theorem kD:(Tryz.prog.info? 9).map (fun i=>(i.zero,i.size,i.bytes))=some (some (.string ⟨#[]⟩),1,16):=by kernel_rfl
def fy:List Int->List UInt8->List (List UInt8)->Option (List UInt8×List (List UInt8))
 | [],y3,y4=>some (y3,y4)
 | x12::xs,y3,y4=>(if -9223372036854775808<=x12/\x12<=9223372036854775807 then (if (y3.length:Int)<x12 then some (y3.length:Int) else some x12) else none).bind fun y18=>if 0<=y18/\y18.toNat<=y3.length then (if 0<=y18/\y18.toNat<=y3.length then (if (y4.length+1)*16<=140737488355328 then (fy xs (y3.drop y18.toNat) (y4 ++ [(y3.take y18.toNat)])) else none) else none) else none
def kQ (a0:List UInt8) (a1:List Int):Option (List (List UInt8)):=(fy a1 a0 []).bind fun (y28,y29)=>if (y29.length+1)*16<=140737488355328 then some (y29 ++ [y28]) else none
theorem vi (a0:List UInt8) (a1:List Int) (A1:Option Addr) (c2:Nat) (r:List (List UInt8)) (h:kQ a0 a1=some r):aC Tryz.prog 28 #[jS a0,.slice A1 a1.length c2] (RX.of (ai 1 u8E) [.slice A1 a1.length c2] a1) (aO) (fun v A' N=> ∃ (A41:Option Addr) (c42:Nat),v= .slice A41 r.length c42/\A'=aO/\N = [RdR (ai 1 lx) [.slice A41 r.length c42] r]):=by
 refine aU Tryz.func28 Z Tryz.ntmps28 Z ?_;intro F w hX;unfold kQ at h;refine Gq Z (GP bf Z Z (Gx bf Z (T.seq (Gq Z (Gp bf 1 Z (Gr Z (GK Z L6) Z (Gp bf 1 Z ?_)))))));refine Gs (T.block (HK 9 1 lx ?_));obtain⟨E8,hE9,hO10⟩:=Jn h;have hk14len:=Ha hX;refine Hl (fun m e Rs=> ∃ (y3:List UInt8) (y4:List (List UInt8)) (A5:Option Addr) (c6:Nat) (k7:Nat),k7+m=a1.length/\e = [(0,jS y3),(4,.slice none 0 0),(5,.slice A5 y4.length c6),(9,.slice A1 a1.length c2),(10,jI (a1.length:Int)),(11,jI (k7:Int))]/\Rs = [ci 9 1 lx (.slice A5 y4.length c6) y4,aO]/\fy (a1.drop k7) y3 y4=some E8) (a1.length) [0,0] ⟨a0,[],none,0,0,by simp,Z,Z,by rw[List.drop_zero]; exact hE9⟩ Mf Mf ?_;clear hE9 h;rintro m11 _ _ ⟨y3,y4,A5,c6,k7,hk14,rfl,rfl,h⟩
 cases m11 with
 | zero =>
  rw[List.drop_of_length_le Mc,fy] at h;have hk14ge: ¬ ((k7:Int)<(a1.length:Int)):=by omega
  refine Gq Z (Gx bf Z (T.seq (GU Z (Jr hk14ge) ?_)));obtain rfl:=Jp h;replace h:=hO10;clear hO10;refine T.exit (GL (GL (Hi (X.seq (Gq Z (Gp bf 2 Z (Ib (cells:= #[jS y3]) Z .u jo Z Mf Z (fun b37=> ?_))))))));obtain⟨c38,h⟩:=aE h;refine TL.app1 0 Z .u (us := [jS y3]) (u:=y3) (l:=y4) (E:=lx) Tryz.underlying78 kD Z Md Z Z Z Z Z Z (fun _ _=>Z) (by have hq:=c38; omega) (by have hq:=c38; omega) Z (fun A39 c40=> ?_);refine Hc [0,0] Z (Gp bf 1 Z ?_);obtain rfl:=Jp h;exact Gs (T.ret (Ip Md 0 Z (G8 [0,0] Z (GV [1,0] Tryz.results28 (Gu Z) ⟨_,_,Z,Z,Z⟩ Mf (.inl Z)))))
 | succ m11 =>
  obtain⟨x12,hxx12⟩: ∃ x,a1[k7]? = some x:=⟨_,List.getElem?_eq_getElem Mc⟩;rw[bz hxx12,fy] at h;have hk14lt:(k7:Int)<(a1.length:Int):=by omega
  refine Gq Z (Gx bf Z (T.seq (GF Z (Jq hk14lt) ?_)));obtain⟨gz15,oz15,rfl,z15cs,z15cl,z15cc,z15nf,z15r⟩:=G4 Md hX hxx12;obtain⟨z15S,z15r,z15rr⟩:=z15r;obtain rfl:z15cs = [.int .u8 x12]:=z15r;refine GQ (T.seq (T.block (Gq Z ?_)));refine Gr Z (GS (k:=k7) Z Z Z L6 Tryz.sizeOf5 (Jt hxx12).1) Z ?_;refine Gr Z (Hr 0 Z Tryz.isAgg5 z15nf z15cc Z Z) Z (Gx bf Z (T.seq ?_));obtain⟨y18,h,hk19⟩:=Jn h;refine Hj (fun e Rs=>e = [(0,jS y3),(4,.slice none 0 0),(5,.slice A5 y4.length c6),(8,jI y18),(9,.slice (some ⟨gz15,oz15,none⟩) a1.length c2),(10,jI (a1.length:Int)),(11,jI (k7:Int))]/\Rs = [ci 9 1 lx (.slice A5 y4.length c6) y4,aO]) ?_ ?_
  ·clear hk19;refine T.region Z ?_;obtain⟨c20,h⟩:=aE h;refine Gp bf 1 Z (Gr Z (In Z Tryz.runUnderlying5 KN c20) Z (Gp bf 1 Z (Gr Z (Hv Z JJ) Z ?_)));rcases jF h with⟨c21,h⟩ | ⟨c21,h⟩
   ·refine Gr Z (Ex.miny Z Z c21) Z (Gp bf 1 Z ?_);cases h;exact TL.nil (GE [0,0])
   refine Gr Z (Ex.minx Z Z c21) Z (Gp bf 1 Z ?_);cases h;exact TL.nil (GE [0,0])
  rintro _ _ ⟨rfl,rfl⟩;clear h;have h:=hk19;clear hk19;refine X.seq (G6 (.q 0 (.q 1 (.q 2 (.q 3 (.q 6 (.q 7 (.q 8 (.e 4 (.e 5 (.q 9 (.q 10 .nil))))))))))) [1] Z ra (NoP.blk (NoP.seq (NoP.seq (NoP.blk (NoP.seq bA))))) Me ?_);obtain⟨c22,h⟩:=aE h;refine TD.run bf [0,1,2] Z Z ?_;replace c22:0<=y18/\y18.toNat<=y3.length:=c22;refine Gw Z (Is (p:=0) (q:=y18.toNat) (m:=(y3.take y18.toNat)) Z JJ .none (.some Z ((Int.toNat_of_nonneg c22.1).symm)) (by first | omega | (dsimp only; omega)) (by simp)) Z ?_;obtain⟨c23,h⟩:=aE h;refine TD.run bf [6,7] Z Z ?_;replace c23:0<=y18/\y18.toNat<=y3.length:=c23;refine Gw Z (Is (p:=y18.toNat) (q:=y3.length) (m:=(y3.drop y18.toNat)) Z JJ (.some Z ((Int.toNat_of_nonneg c23.1).symm)) .none (by first | omega | (dsimp only; omega)) (tr _ _)) Z ?_;refine H6 (cells:= #[.string (bsOf (y3.take y18.toNat))]) Z .u jo Z Mf Z [2] (fun _=>Z) (fun b24=> ?_);obtain⟨c25,h⟩:=aE h;refine TD.app1 0 Z .u (us := [.string (bsOf (y3.take y18.toNat))]) (u:=(y3.take y18.toNat)) (l:=y4) (E:=lx) Tryz.underlying78 kD Z Md Z Z Z Z Z Z (fun _ _=>Z) (by have hq:=c25; omega) (by have hq:=c25; omega) Z [1] (fun _ _=>Z) (fun A26 c27=> ?_);exact Hx [0,0] Z (TD.run bf [9,10] Z Z (TD.nil (GN (X.seq (T.region Z (Gr Z (Ex.add Z Z Mc) Z (Gp bf 1 Z (TL.nil (X.back (m':=m11) [0,0] Mc ⟨(y3.drop y18.toNat),(y4 ++ [(y3.take y18.toNat)]),A26,c27,k7+1,by omega,Z,Z,h⟩ Mf Mf)))))))))
def dF:List (List UInt8)->Bool->List al->Int->Int->List UInt8->Int->Option (Lp Bool (Bool×List al×Int×Int×List UInt8×Int))
 | [],y394,y395,y399,y400,y401,y402=>some (Lp.go (y394,y395,y399,y400,y401,y402))
 | x407::xs,y394,y395,y399,y400,y401,y402=>(dH (⟨(⟨y399,y400⟩:dC),y401,y402⟩:aM) x407).bind fun (x411,x414,st415)=>if x414=0 then (if (y395.length+x411.length)*280<=140737488355328 then (dF xs y394 (y395++x411) st415.fcount.fmany st415.fcount.fat st415.fheld st415.ferr) else none) else none
theorem Bn {c:dC} {h:List UInt8} (h4:h.length<4):cW ⟨c,h,0⟩=some (0,false,⟨c,h,0⟩):=by
 unfold cW;rw[Mg (by show (h.length:Int)<4; omega)]
theorem Gh {c:dC} {h r:List UInt8} {n:Nat} (hd:h=be (n:Int) 4++r) (hf:bm (n:Int) 4=true) (hn:n<=302000) (hl:h.length<=140737488355328):cW ⟨c,h,0⟩=some (4+(n:Int),decide (4+n<=h.length),⟨c,h,0⟩):=by
 have hb4:(be (n:Int) 4).length=4:=ax _ _;have h4:4<=h.length:=by rw[hd,Js]; omega
 have hp:=(dL 4 Md Md).back h r 0 _ (JM _) hf (by rw[List.drop_zero]; exact hd);have g1: ∃ st,dB ⟨h,0,0⟩ 4=some ((n:Int),st):=by
  rcases Q4.run h 0 (JM _) with⟨e,st,p1,g1,x1,y1⟩ | ⟨m,r',p1,g1,n1,l1⟩
  ·rw[hp] at p1; exact nomatch p1
  ·rw[hp] at p1;injection p1 with p1;obtain⟨rfl,rfl⟩:=JP p1;rw[List.drop_zero] at g1;exact⟨_,g1⟩
 obtain⟨st,g1⟩:=g1;unfold cW;dsimp only;rw[Mh Mc,iL _ Mc,Jo,g1,Jo];dsimp only;rw[Mh (show ¬ ((n:Int)<0) by omega),Mh (show ¬ ((n:Int)>16777216) by omega),Jo,Mh Md,Mg Mc,Mg Mc];by_cases c:4+n<=h.length
 ·rw[Mg Mc,Jq c]
 ·rw[Mh Mc,Jr c]
def okFs (fs:List al):Prop:= ∀ f,f∈fs->xM f/\(gF f).length<=302000
theorem pT (f:al):(ba f).length=4+(gF f).length:=by rw[ba,Js,ax]
structure Many (fs:List al) (k j:Nat):Prop where
 le:j<=fs.length
 lo:(aS ba (fs.take j)).length<=k
 hi:j<fs.length->k<(aS ba (fs.take (j+1))).length
theorem feedL (y3:List al) (y6:Int): ∀ (fuel:Nat) (fs acc:List al) (h t:List UInt8) (m a:Int),okFs fs->h++t=aS ba fs->h.length<fuel->h.length<=10000000->acc.length+fs.length<=1000->0<=m->m+(fs.length:Int)<=1000000->0<=a->a+(h.length:Int)<=1000000000 ->
 ∃ j,Many fs h.length j/\co fuel y3 y6 acc m a h 0=some (.ret (acc++fs.take j,0,⟨⟨m+(j:Int),a+((aS ba (fs.take j)).length:Int)⟩,h.drop (aS ba (fs.take j)).length,0⟩))
 | 0,fs,acc,h,t,m,a,_,_,h1,_,_,_,_,_,_=>by omega
 | fuel+1,fs,acc,h,t,m,a,hok,hs,h1,h2,h3,h4,h5,h6,h7=>by
  rw[co];have hz: ∀ q:aM,(some (Lp.ret (acc,q.ferr,q)):Option (Lp (List al×Int×aM) (List al×Int×List al×Int×Int×List UInt8×Int)))=some (Lp.ret (acc,q.ferr,q)):=fun _=>rfl;by_cases c4:h.length<4
  ·refine⟨0,⟨JM _,by rw[List.take_zero,aS]; exact JM _,fun hj=> ?_⟩,?_⟩
   ·cases fs with
    | nil=>exact absurd hj Md
    | cons f fs =>
     rw[List.take_succ_cons,List.take_zero,aS,aS,JE,pT];omega
   ·rw[Bn c4,Jo];dsimp only;rw[Mh Md,List.take_zero,aS,JE,J6,List.drop_zero,Int.natCast_zero,Int.add_zero,Int.add_zero]
  cases fs with
  | nil =>
   have:=congrArg List.length hs;rw[aS,Js,J6] at this;omega
  | cons f fs =>
   have hf:=hok f (.head _);have hs2:h++t=ba f++aS ba fs:=hs;have hb4:(be ((gF f).length:Int) 4).length=4:=ax _ _;have hd:h=be ((gF f).length:Int) 4++h.drop 4:=by
    have e:=congrArg (List.take 4) hs2;rw[List.take_append_of_le_length Mc,ba,Jw,List.take_append_of_le_length Mc,List.take_of_length_le (l:=be ((gF f).length:Int) 4) Mc] at e;rw[<- e,List.take_append_drop]
   rw[Gh hd hf.1.2 hf.2 Mc,Jo];dsimp only;by_cases c:4+(gF f).length<=h.length
   ·have hn:(4+((gF f).length:Int)).toNat=(ba f).length:=by rw[pT]; omega
    have htk:h.take (ba f).length=ba f:=by
     have e:=congrArg (List.take (ba f).length) hs2;rw[List.take_append_of_le_length (by rw[pT]; exact c),List.take_append_of_le_length (JN _),List.take_length] at e;exact e
    have hdr:h.drop (ba f).length++t=aS ba fs:=by
     have e:=congrArg (List.drop (ba f).length) hs2;rw[List.drop_append_of_le_length (by rw[pT]; exact c),List.drop_left] at e;exact e
    have hfl:=pT f;rw[Jz] at h3 h5;obtain⟨j,⟨j1,j2,j3⟩,j4⟩:=feedL y3 y6 fuel fs (acc ++ [f]) (h.drop (ba f).length) t (m+1) (a+(4+((gF f).length:Int))) (fun g hg=>hok g (.tail _ hg)) hdr (by rw[JA]; omega) (by rw[JA]; omega) (by rw[Js,Kt]; omega) Mc Mc Mc (by rw[JA]; omega);rw[JA] at j2 j3;refine⟨j+1,⟨by rw[Jz]; omega,by rw[List.take_succ_cons,aS,Js]; omega,fun hj=> ?_⟩,?_⟩
    ·rw[Jz] at hj;have:=j3 Mc;rw[List.take_succ_cons,aS,Js];omega
    ·rw[Jq c,Mg rfl,hn,Mg ⟨by omega,by rw[hfl]; exact c⟩,htk,Bm _ Mc,Dy hf.1,Jo];dsimp only;unfold hZ;dsimp only;rw[Mg rfl,Mg Mc,Mg Mc,Mg Mc,Jo];dsimp only;rw[Mg ⟨by omega,by rw[hfl]; exact c⟩,j4,List.take_succ_cons,aS,Js,Kf,Jw,show m+1+(j:Int)=m+((j+1:Nat):Int) by omega,show a+(4+((gF f).length:Int))+((aS ba (fs.take j)).length:Int)=a+(((ba f).length+(aS ba (fs.take j)).length:Nat):Int) by omega];rfl
   ·refine⟨0,⟨JM _,by rw[List.take_zero,aS]; exact JM _,fun hj=> ?_⟩,?_⟩
    ·rw[List.take_succ_cons,List.take_zero,aS,aS,JE,pT];omega
    ·rw[Jr c,Mh Md,List.take_zero,aS,JE,J6,List.drop_zero,Int.natCast_zero,Int.add_zero,Int.add_zero]
theorem mv {α:Type} (enc:α->List UInt8): ∀ (l m:List α),aS enc (l++m)=aS enc l++aS enc m
 | [],m=>rfl
 | x::l,m=>by rw[List.cons_append,aS,aS,mv enc l m,Jw]
def spS (fs:List al) (p:List UInt8) (j:Nat):aM:=⟨⟨(j:Int),((aS ba (fs.take j)).length:Int)⟩,p.drop (aS ba (fs.take j)).length,0⟩
theorem Gi {fs:List al} {p c t:List UInt8} {j:Nat} (hok:okFs fs) (hs:p++c++t=aS ba fs) (hn:fs.length<=500) (hl:(aS ba fs).length<=5000000) (hj:Many fs p.length j) :
 ∃ i,Many fs (p++c).length (j+i)/\dH (spS fs p j) c=some ((fs.drop j).take i,0,spS fs (p++c) (j+i)):=by
 obtain⟨j1,j2,j3⟩:=hj;have hls:=congrArg List.length hs;simp only[Js] at hls;have hsp:aS ba fs=aS ba (fs.take j)++aS ba (fs.drop j):=by rw[<- mv,List.take_append_drop]
 have hh:(p.drop (aS ba (fs.take j)).length++c)++t=aS ba (fs.drop j):=by
  have e:=congrArg (List.drop (aS ba (fs.take j)).length) hs;rw[hsp,List.drop_left,Jw,List.drop_append_of_le_length j2,<- Jw] at e;exact e
 have hdl:(fs.drop j).length=fs.length - j:=JA;obtain⟨i,⟨i1,i2,i3⟩,i4⟩:=feedL [] 0 ((((p.drop (aS ba (fs.take j)).length++c).length:Int)+1).toNat+1) (fs.drop j) [] (p.drop (aS ba (fs.take j)).length++c) t (j:Int) ((aS ba (fs.take j)).length:Int) (fun f hf=>hok f (List.mem_of_mem_drop hf)) hh Mc (by rw[Js,JA]; omega) (by rw[J6]; omega) Mc Mc Mc (by rw[Js,JA]; omega);have etk:fs.take (j+i)=fs.take j++(fs.drop j).take i:=List.take_add;have elen:(aS ba (fs.take (j+i))).length=(aS ba (fs.take j)).length+(aS ba ((fs.drop j).take i)).length:=by rw[etk,mv,Js]
 have elen2:(aS ba (fs.take (j+i+1))).length=(aS ba (fs.take j)).length+(aS ba ((fs.drop j).take (i+1))).length:=by rw[Nat.add_assoc,show fs.take (j+(i+1))=fs.take j++(fs.drop j).take (i+1) from List.take_add,mv,Js]
 simp only[Js,JA] at i2 i3;refine⟨i,⟨by omega,by rw[elen,Js]; omega,fun h=> ?_⟩,?_⟩
 ·have:=i3 Mc;rw[elen2,Js];omega
 ·unfold dH spS;dsimp only;rw[Mg rfl,Mg (by rw[JA]; omega),i4,Jo];dsimp only;rw[JI,elen];have e1:(p.drop (aS ba (fs.take j)).length++c).drop (aS ba ((fs.drop j).take i)).length=(p++c).drop ((aS ba (fs.take j)).length+(aS ba ((fs.drop j).take i)).length):=by
   rw[<- Kf,List.drop_append_of_le_length j2]
  rw[e1];congr 4
theorem srl3 (fs:List al) (y:Bool) (hok:okFs fs) (hn:fs.length<=500) (hl:(aS ba fs).length<=5000000): ∀ (cs:List (List UInt8)) (p t:List UInt8) (j:Nat),p++cs.flatten++t=aS ba fs->Many fs p.length j ->
 ∃ i,Many fs (p++cs.flatten).length i/\dF cs y (fs.take j) (j:Int) ((aS ba (fs.take j)).length:Int) (p.drop (aS ba (fs.take j)).length) 0=some (.go (y,fs.take i,(i:Int),((aS ba (fs.take i)).length:Int),(p++cs.flatten).drop (aS ba (fs.take i)).length,0))
 | [],p,t,j,hs,hj=>by
  rw[List.flatten_nil,JE];exact⟨j,hj,rfl⟩
 | c::cs,p,t,j,hs,hj=>by
  rw[List.flatten_cons] at hs ⊢;obtain⟨i,i1,i2⟩:=Gi (c:=c) (t:=cs.flatten++t) hok (by rw[<- hs]; simp only[Jw]) hn hl hj;obtain⟨q,q1,q2⟩:=srl3 fs y hok hn hl cs (p++c) t (j+i) (by rw[<- hs]; simp only[Jw]) i1;rw[Jw] at q1 q2;refine⟨q,q1,?_⟩;have hdl:((fs.drop j).take i).length<=fs.length:=by rw[Kw,JA]; omega
  have htl:(fs.take j).length<=fs.length:=by rw[Kw]; omega
  rw[dF,show (⟨(⟨(j:Int),((aS ba (fs.take j)).length:Int)⟩:dC),p.drop (aS ba (fs.take j)).length,0⟩:aM)=spS fs p j from rfl,i2,Jo];dsimp only;rw[Mg rfl,Mg Mc,<- List.take_add];exact q2
theorem Ft (fs:List al) (p:List UInt8) (j:Nat): ∃ z,dq (spS fs p j)=some (if p.drop (aS ba (fs.take j)).length = [] then 0 else 1,z):=by
 unfold dq spS;dsimp only;rw[Mg rfl];by_cases c:p.drop (aS ba (fs.take j)).length = []
 ·rw[Mg c,Mg c];exact⟨_,rfl⟩
 ·rw[Mh c,Mh c];exact⟨_,rfl⟩
theorem Cp: ∀ (ns:List Int) (s:List UInt8) (l:List (List UInt8)),(∀ n,n∈ns->0<=n/\n<=255)->l.length+ns.length<=1000->s.length<=10000000-> ∃ t m,fy ns s l=some (t,m)/\m.flatten++t=l.flatten++s/\m.length=l.length+ns.length
 | [],s,l,_,_,_=>⟨s,l,rfl,rfl,rfl⟩
 | n::ns,s,l,hn,hl,hs=>by
  rw[Jz] at hl;have h0:=hn n (.head _);have key: ∀ k:Nat,k<=s.length-> ∃ t m,fy ns (s.drop k) (l ++ [s.take k])=some (t,m)/\m.flatten++t=l.flatten++s/\m.length=l.length+(n::ns).length:=by
   intro k hk;obtain⟨t,m,q1,q2,q3⟩:=Cp ns (s.drop k) (l ++ [s.take k]) (fun z hz=>hn z (.tail _ hz)) (by rw[Js,Kt]; omega) (by rw[JA]; omega);refine⟨t,m,q1,?_,by rw[q3,Js,Kt,Jz]; omega⟩;rw[q2,List.flatten_append,List.flatten_cons,List.flatten_nil,JE,Jw,List.take_append_drop]
  rw[fy,Mg Mc];by_cases c:(s.length:Int)<n
  ·obtain⟨t,m,q1,q2⟩:=key s.length (JN _);refine⟨t,m,?_,q2⟩;rw[Mg c,Jo,Mg Mc,Mg Mc,Mg Mc,Kp,q1]
  ·obtain⟨t,m,q1,q2⟩:=key n.toNat Mc;refine⟨t,m,?_,q2⟩;rw[Mh c,Jo,Mg Mc,Mg Mc,Mg Mc,q1]
theorem Gj {s:List UInt8} {ns:List Int} (hn: ∀ n,n∈ns->0<=n/\n<=255) (hl:ns.length<=200) (hs:s.length<=10000000): ∃ cs,kQ s ns=some cs/\cs.flatten=s:=by
 obtain⟨t,l,q1,q2,q3⟩:=Cp ns s [] hn (by rw[J6]; omega) hs;refine⟨l ++ [t],?_,by rw[List.flatten_append,List.flatten_cons,List.flatten_nil,JE]; exact q2⟩;unfold kQ;rw[q1,Jo];dsimp only;rw[J6] at q3;rw[Mg Mc]
theorem pc:Ones cu:=by rintro _ _ _ _ ⟨_,_,_,_,_,_,rfl,_⟩; rfl
def vj:ey := []
theorem aq:(vj).OK Tryz.prog:=trivial
theorem nj:Tryz.prog.follows .mixedOrders=true:=by kernel_rfl
theorem pU:(Tryz.prog.info? 38).map (fun i=>(i.zero,i.size,i.bytes))=some (some (.agg #[.int .i64 0,.int .i64 0,.int .i64 0,.bool false,.string ⟨#[]⟩,.bool false,.string ⟨#[]⟩,.int .i64 0,.int .i64 0,.int .i64 0,.string ⟨#[]⟩,.int .i64 0,.int .i64 0,.slice none 0 0,.string ⟨#[]⟩,.int .i64 0,.int .i64 0,.bool false,.slice none 0 0,.bool false,.string ⟨#[]⟩,.int .i64 0,.int .i64 0,.slice none 0 0]),24,280):=by kernel_rfl
def cf:List (List UInt8)->Bool->List al->Int->Int->List UInt8->Int->Option (Lp Bool (Bool×List al×Int×Int×List UInt8×Int))
 | [],y89,y90,y94,y95,y96,y97=>some (Lp.go (y89,y90,y94,y95,y96,y97))
 | x102::xs,y89,y90,y94,y95,y96,y97=>(dH (⟨(⟨y94,y95⟩:dC),y96,y97⟩:aM) x102).bind fun (x106,x109,st110)=>if x109=0 then (if (y90.length+x106.length)*280<=140737488355328 then (cf xs y89 (y90++x106) st110.fcount.fmany st110.fcount.fat st110.fheld st110.ferr) else none) else none
def gG (a0:al) (a1:al) (a2:List Int):Option (Bool):=(eY []).bind fun (x17,x24)=>if x24=1 then (((jH a0).bind fun x36=>if x36=0 then some true else ((jH a1).bind fun x39=>if x39=0 then some true else (if (a2.length:Int)>200 then some true else some false))).bind fun y34=>if y34=true then some true else ((cH a0).bind fun (x44,x45)=>(cH a1).bind fun (x47,x48)=>(if x45=0 then (if x48=0 then some false else some true) else some true).bind fun y51=>if y51=true then some true else ((if (x47.length:Int)<(x44.length:Int) then some (x47.length:Int) else some (x44.length:Int)).bind fun y57=>if 0<=y57/\y57.toNat<=x44.length then (if 0<=y57/\y57.toNat<=x47.length then ((dZ a0).bind fun x62=>(dZ a1).bind fun x70=>(ez x62 x70).bind fun x78=>if ((decide ((x44.take y57.toNat)=(x47.take y57.toNat))) == x78)=true then ((kc).bind fun st81=>if x44.length+x47.length<=9223372036854775807 then ((kQ (x44++x47) a2).bind fun x85=>(cf x85 false [] st81.fcount.fmany st81.fcount.fat st81.fheld st81.ferr).bind fun e=>match e with | .ret r=>some r | .go (y116,y117,y121,y122,y123,y124)=>(((y117[0]?).bind fun x193=>(y117[1]?).bind fun x202=>if (y117.length:Int)=2 then ((dq (⟨(⟨y121,y122⟩:dC),y123,y124⟩:aM)).bind fun (x212,st213)=>if x212=0 then ((dZ x193).bind fun x216=>(dZ a0).bind fun x225=>(ez x216 x225).bind fun x233=>if x233=true then ((dZ x202).bind fun x236=>(dZ a1).bind fun x245=>(ez x236 x245).bind fun x253=>some (x253,st213.fcount.fmany,st213.fcount.fat,st213.fheld,st213.ferr)) else some (false,st213.fcount.fmany,st213.fcount.fat,st213.fheld,st213.ferr)) else some (false,st213.fcount.fmany,st213.fcount.fat,st213.fheld,st213.ferr)) else some (false,y121,y122,y123,y124)).bind fun (y187,y188,y189,y190,y191)=>some y187)) else none) else none) else none) else none))) else none
theorem f_top_WholeFrames_spec (a0:al) (A1:Option Addr) (c2:Nat) (A3:Option Addr) (c4:Nat) (A5:Option Addr) (c6:Nat) (a1:al) (A7:Option Addr) (c8:Nat) (A9:Option Addr) (c10:Nat) (A11:Option Addr) (c12:Nat) (a2:List Int) (A13:Option Addr) (c14:Nat) (r:Bool) (h:gG a0 a1 a2=some r):aC Tryz.prog 8 #[.agg (g7 a0 A1 A3 A5 c2 c4 c6),.agg (g7 a1 A7 A9 A11 c8 c10 c12),.slice A13 a2.length c14] (RX.and (RX.of (ai 2 aZ) [.slice A1 a0.I4.IC.length c2] a0.I4.IC) (RX.and (RX.of (ai 5 aP) [.slice A3 a0.I1.length c4] a0.I1) (RX.and (RX.of (ai 2 ay) [.slice A5 a0.IL.IC.length c6] a0.IL.IC) (RX.and (RX.of (ai 2 aZ) [.slice A7 a1.I4.IC.length c8] a1.I4.IC) (RX.and (RX.of (ai 5 aP) [.slice A9 a1.I1.length c10] a1.I1) (RX.and (RX.of (ai 2 ay) [.slice A11 a1.IL.IC.length c12] a1.IL.IC) (RX.of (ai 1 u8E) [.slice A13 a2.length c14] a2))))))) (aO) (fun v A' N=>v= .bool r/\A'=aO/\N = []):=by
 refine aU Tryz.func8 Z Tryz.ntmps8 Z ?_;intro F w hX;obtain⟨S,hS,hSF⟩:=hX;have hX:(RX.and (RX.of (ai 2 aZ) [.slice A1 a0.I4.IC.length c2] a0.I4.IC) (RX.and (RX.of (ai 5 aP) [.slice A3 a0.I1.length c4] a0.I1) (RX.and (RX.of (ai 2 ay) [.slice A5 a0.IL.IC.length c6] a0.IL.IC) (RX.and (RX.of (ai 2 aZ) [.slice A7 a1.I4.IC.length c8] a1.I4.IC) (RX.and (RX.of (ai 5 aP) [.slice A9 a1.I1.length c10] a1.I1) (RX.and (RX.of (ai 2 ay) [.slice A11 a1.IL.IC.length c12] a1.IL.IC) (RX.of (ai 1 u8E) [.slice A13 a2.length c14] a2))))))).reads w F:=⟨S,hS,hSF⟩;unfold gG at h;refine Gq Z (TL.box Z .u Z Z (fun b15=>(TL.box Z .u Z Z (fun b16=>(Gp aq 1 Z ?_)))));obtain⟨⟨x17,x24⟩,hx25,h⟩:=Jn h;refine Gs (T.seq (Gq Z (HZ Z .u (.fn Tryz.call15 Z) (kB [] _ hx25) rT Z ?_)));rintro _ _ _ ⟨A18,c19,A20,c21,A22,c23,rfl,rfl,rfl⟩;refine Hc [0,0,0,0,0,0] Z (Gp aq 3 Z (TL.alloc Z .u Tryz.zeroValue38 Z (fun b26=>(GC 0 Z (cs':=g7 x17 A18 A20 A22 c19 c21 c23) Z .u Z Z JC Z Z Z Z Z (GP aq Z Z (Gp aq 2 Z ?_))))));rcases jF h with⟨c27,h⟩ | ⟨c27,h⟩
 ·refine GY Z c27 (GQ (Ig ?_));obtain⟨y34,h,hk35⟩:=Jn h;refine Hj (fun e Rs=>e = [(2,.slice A13 a2.length c14),(3,jP b15),(4,jP b16),(6,.bool false),(38,.bool y34)]/\Rs = [aN b26 38 (g7 x17 A18 A20 A22 c19 c21 c23),RdR (ai 2 aZ) [.slice A18 x17.I4.IC.length c19] x17.I4.IC,RdR (ai 5 aP) [.slice A20 x17.I1.length c21] x17.I1,RdR (ai 2 ay) [.slice A22 x17.IL.IC.length c23] x17.IL.IC,aN b16 38 (g7 a1 A7 A9 A11 c8 c10 c12),aN b15 38 (g7 a0 A1 A3 A5 c2 c4 c6),aO]) ?_ ?_
  ·clear hk35;refine T.region Z (Gr Z (GH (us:=nM a0 A1 A3 A5 c2 c4 c6) 5 Z JU JC Z Z Z) Z ?_);obtain⟨x36,hx37,h⟩:=Jn h;refine GT Z .u (.fn Tryz.call11 Z) (n7 a0 _ _ _ _ _ _ _ hx37) (fun _ hs=>(RX.reads_and (GJ hs (GR hX)) (RX.reads_and (GJ hs (GR (Gz hX))) (GJ hs (GR (Gz (Gz hX))))))) Z ?_;rcases jF h with⟨c38,h⟩ | ⟨c38,h⟩
   ·refine Gp aq 2 Z (GA 29 Z (Jq c38) (GB aq 9 Z ?_));cases h;exact TL.nil (GE [0,0,0,0,0,0,0])
   refine Gp aq 2 Z (GA 29 Z (Jr c38) (TL.q Z (.g Z Z Z) (GH (us:=nM a1 A7 A9 A11 c8 c10 c12) 4 Z JU JC Z Z Z) Z ?_));obtain⟨x39,hx40,h⟩:=Jn h;refine GT Z (.g Z Z Z) (.fn Tryz.call11 Z) (n7 a1 _ _ _ _ _ _ _ hx40) (fun _ hs=>(RX.reads_and (GJ hs (GR (Gz (Gz (Gz hX))))) (RX.reads_and (GJ hs (GR (Gz (Gz (Gz (Gz hX)))))) (GJ hs (GR (Gz (Gz (Gz (Gz (Gz hX)))))))))) Z ?_;rcases jF h with⟨c41,h⟩ | ⟨c41,h⟩
   ·refine GB aq 3 Z (GA 34 Z (Jq c41) (GB aq 4 Z ?_));cases h;exact TL.nil (GE [0,0,0,0,0,0,0])
   refine GB aq 3 Z (GA 34 Z (Jr c41) (GB aq 1 Z (TL.q Z (.g Z Z Z) (GK Z L6) Z (GB aq 2 Z ?_))));rcases jF h with⟨c42,h⟩ | ⟨c42,h⟩
   ·cases h;exact TL.nil (Hn (d:=38) (v':= .bool true) Z (congrArg Value.bool (Jq c42)) (GE [0,0,0,0,0,0,0]))
   cases h;exact TL.nil (Hn (d:=38) (v':= .bool false) Z (congrArg Value.bool (Jr c42)) (GE [0,0,0,0,0,0,0]))
  rintro _ _ ⟨rfl,rfl⟩;clear h;have h:=hk35;clear hk35;try dsimp only at h
  rcases jF h with⟨c43,h⟩ | ⟨c43,h⟩
  ·refine X.seq (GF Z c43 (Gq Z (Gp aq 1 Z ?_)));obtain rfl:=Jp h;exact Gs (T.ret (Gv (GD [6] Tryz.results8 (Gu Z))))
  replace c43:=Ju c43;refine X.seq (GU Z c43 (G3 Z (Gr Z (GH (us:=nM a0 A1 A3 A5 c2 c4 c6) 5 Z JU JC Z Z Z) Z ?_)));obtain⟨⟨x44,x45⟩,hx46,h⟩:=Jn h;refine GT Z .u (.fn Tryz.call12 Z) (kA a0 _ _ _ _ _ _ _ hx46) (fun _ hs=>(RX.reads_and (GJ hs (GR hX)) (RX.reads_and (GJ hs (GR (Gz hX))) (GJ hs (GR (Gz (Gz hX))))))) Z (GP aq Z Z (Gr Z (GH (us:=nM a1 A7 A9 A11 c8 c10 c12) 4 Z JU JC Z Z Z) Z ?_));obtain⟨⟨x47,x48⟩,hx49,h⟩:=Jn h;refine GT Z .u (.fn Tryz.call12 Z) (kA a1 _ _ _ _ _ _ _ hx49) (fun _ hs=>(RX.reads_and (GJ hs (GR (Gz (Gz (Gz hX))))) (RX.reads_and (GJ hs (GR (Gz (Gz (Gz (Gz hX)))))) (GJ hs (GR (Gz (Gz (Gz (Gz (Gz hX)))))))))) Z (Gx aq Z (Ig ?_));obtain⟨y51,h,hk52⟩:=Jn h;refine Hj (fun e Rs=>e = [(2,.slice A13 a2.length c14),(3,jP b15),(4,jP b16),(6,.bool false),(9,jS x44),(11,jS x47),(54,.bool y51)]/\Rs = [aN b26 38 (g7 x17 A18 A20 A22 c19 c21 c23),RdR (ai 2 aZ) [.slice A18 x17.I4.IC.length c19] x17.I4.IC,RdR (ai 5 aP) [.slice A20 x17.I1.length c21] x17.I1,RdR (ai 2 ay) [.slice A22 x17.IL.IC.length c23] x17.IL.IC,aN b16 38 (g7 a1 A7 A9 A11 c8 c10 c12),aN b15 38 (g7 a0 A1 A3 A5 c2 c4 c6),aO]) ?_ ?_
  ·clear hk52;refine T.region Z ?_;rcases jF h with⟨c53,h⟩ | ⟨c53,h⟩
   ·refine Gp aq 3 Z (GA 51 Z (bd (Jq c53)) (GB aq 3 Z ?_));rcases jF h with⟨c54,h⟩ | ⟨c54,h⟩
    ·cases h;exact TL.nil (Hn (d:=54) (v':= .bool false) Z (congrArg Value.bool (bd (Jq c54))) (GE [0,0,0,0,0,0,0]))
    cases h;exact TL.nil (Hn (d:=54) (v':= .bool true) Z (congrArg Value.bool (bM (Jr c54))) (GE [0,0,0,0,0,0,0]))
   refine Gp aq 3 Z (GA 51 Z (bM (Jr c53)) (GB aq 3 Z ?_));cases h;exact TL.nil (GE [0,0,0,0,0,0,0])
  rintro _ _ ⟨rfl,rfl⟩;clear h;have h:=hk52;clear hk52;try dsimp only at h
  rcases jF h with⟨c55,h⟩ | ⟨c55,h⟩
  ·refine X.seq (GF Z c55 (Gq Z (Gp aq 1 Z ?_)));obtain rfl:=Jp h;exact Gs (T.ret (Gv (GD [6] Tryz.results8 (Gu Z))))
  replace c55:=Ju c55;refine X.seq (GU Z c55 (GQ (T.seq ?_)));obtain⟨y57,h,hk58⟩:=Jn h;refine Hj (fun e Rs=>e = [(2,.slice A13 a2.length c14),(3,jP b15),(4,jP b16),(6,.bool false),(9,jS x44),(11,jS x47),(13,jI y57)]/\Rs = [aN b26 38 (g7 x17 A18 A20 A22 c19 c21 c23),RdR (ai 2 aZ) [.slice A18 x17.I4.IC.length c19] x17.I4.IC,RdR (ai 5 aP) [.slice A20 x17.I1.length c21] x17.I1,RdR (ai 2 ay) [.slice A22 x17.IL.IC.length c23] x17.IL.IC,aN b16 38 (g7 a1 A7 A9 A11 c8 c10 c12),aN b15 38 (g7 a0 A1 A3 A5 c2 c4 c6),aO]) ?_ ?_
  ·clear hk58;refine T.region Z (Gp aq 1 Z (Gr Z (Hv Z JJ) Z (Gp aq 1 Z (Gr Z (Hv Z JJ) Z ?_))));rcases jF h with⟨c59,h⟩ | ⟨c59,h⟩
   ·refine Gr Z (Ex.miny Z Z c59) Z (Gp aq 1 Z ?_);cases h;exact TL.nil (GE [0,0,0,0,0,0,0])
   refine Gr Z (Ex.minx Z Z c59) Z (Gp aq 1 Z ?_);cases h;exact TL.nil (GE [0,0,0,0,0,0,0])
  rintro _ _ ⟨rfl,rfl⟩;clear h;have h:=hk58;clear hk58;refine X.seq (Ig (G6 (.q 0 (.q 1 (.q 2 (.q 3 (.q 4 (.q 5 (.q 6 (.q 7 (.q 9 (.e 8 (.e 10 (.e 11 (.q 12 .nil))))))))))))) [0,0,0,0,0,0,0] Z nj (NoP.seq (NoP.seq bA)) Me ?_));obtain⟨c60,h⟩:=aE h;refine TD.run aq [0,1] Z Z ?_;replace c60:0<=y57/\y57.toNat<=x44.length:=c60;refine Gw Z (Is (p:=0) (q:=y57.toNat) (m:=(x44.take y57.toNat)) Z JJ .none (.some Z ((Int.toNat_of_nonneg c60.1).symm)) (by first | omega | (dsimp only; omega)) (by simp)) Z ?_;obtain⟨c61,h⟩:=aE h;refine TD.run aq [3,4] Z Z ?_;replace c61:0<=y57/\y57.toNat<=x47.length:=c61;refine Gw Z (Is (p:=0) (q:=y57.toNat) (m:=(x47.take y57.toNat)) Z JJ .none (.some Z ((Int.toNat_of_nonneg c61.1).symm)) (by first | omega | (dsimp only; omega)) (by simp)) Z ?_;refine Gw Z (Ex.sEq Z Z) Z (Gw Z (GH (us:=nM a0 A1 A3 A5 c2 c4 c6) 5 Z JU JC Z Z Z) Z (Gw Z (GH (us:=nM a1 A7 A9 A11 c8 c10 c12) 4 Z JU JC Z Z Z) Z ?_));obtain⟨x62,hx69,h⟩:=Jn h;refine TD.cso  Z .u (.fn Tryz.call14 Z) (gq a0 _ _ _ _ _ _ _ hx69) ⟨hS.1,hS.2.1,hS.2.2.1⟩ hSF Z [3,3,3,3,3,3,3] ?_ ?_
  ·rintro _ _ _ ⟨A63,c64,A65,c66,A67,c68,rfl,rfl,rfl⟩;rfl
  rintro _ _ _ ⟨A63,c64,A65,c66,A67,c68,rfl,rfl,rfl⟩;refine Hx [0,0,0,0,0,0,0,0,0,0] Z ?_;obtain⟨x70,hx77,h⟩:=Jn h;refine TD.cso  Z .u (.fn Tryz.call14 Z) (gq a1 _ _ _ _ _ _ _ hx77) ⟨hS.2.2.2.1,hS.2.2.2.2.1,hS.2.2.2.2.2.1⟩ hSF Z [6,6,6,6,6,6,6] ?_ ?_
  ·rintro _ _ _ ⟨A71,c72,A73,c74,A75,c76,rfl,rfl,rfl⟩;rfl
  rintro _ _ _ ⟨A71,c72,A73,c74,A75,c76,rfl,rfl,rfl⟩;refine Hx [0,0,0,0,0,0,0,0,0,0,0,0,0] Z ?_;obtain⟨x78,hx79,h⟩:=Jn h;refine Ih Z .u (.fn Tryz.call17 Z) (kh x62 _ _ _ _ _ _ x70 _ _ _ _ _ _ _ hx79) (fun _ hs=>(RX.reads_and (Hm 3 hs Z iv hSF) (RX.reads_and (Hm 4 hs Z iv hSF) (RX.reads_and (Hm 5 hs Z iv hSF) (RX.reads_and (Hm 0 hs Z iv hSF) (RX.reads_and (Hm 1 hs Z iv hSF) (Hm 2 hs Z iv hSF))))))) Z [6,6,6,6,6,6,6] (Z) (Gw Z (HM Z Z Z Z JR) Z ?_);rcases jF h with⟨c80,h⟩ | ⟨c80,h⟩
  ·refine Hp (GU Z (bd c80) ?_);obtain⟨st81,hx82,h⟩:=Jn h;refine G3 Z (HZ Z .u (.fn Tryz.call27 Z) (sn _ hx82) rT Z ?_);rintro _ _ _ ⟨b83,rfl,rfl,rfl⟩;refine Hc [0,0,0,0,0,0,0,0,0,0,0,0,0,0] Z (GP aq Z Z (Gx aq Z (T.seq (Gq Z ?_))));obtain⟨c84,h⟩:=aE h;refine Gp aq 2 Z (Gr Z (Ex.sAdd Z Z c84) Z ?_);obtain⟨x85,hx88,h⟩:=Jn h;refine Gp aq 1 Z (HZ Z .u (.fn Tryz.call28 Z) (vi (x44++x47) a2 _ _ _ hx88) (fun _ hs=>(GJ hs (Gz (Gz (Gz (Gz (Gz (Gz hX)))))))) Z ?_);rintro _ _ _ ⟨A86,c87,rfl,rfl,rfl⟩;refine Hc [0,0,0,0,0,0,0,0,0,0,0,0,0,0,0] Z (Gr Z (GK Z Kx) Z (Gx aq Z (T.block (HK 38 24 cu (T.sel [0,0,0,10,10,10] Z ?_)))));obtain⟨E98,hE99,hO100⟩:=Jn h;refine T.blen 1 Z (fun w G h=>tU w G h) (fun hk104len=> ?_);try dsimp only at hk104len
   refine Hl (fun m e Rs=> ∃ (y89:Bool) (y90:List al) (A91:Option Addr) (c92:Nat) (k93:Nat) (y94:Int) (y95:Int) (y96:List UInt8) (y97:Int),k93+m=x85.length/\e = [(3,jP b15),(4,jP b16),(6,.bool y89),(14,jP b83),(15,.slice A91 y90.length c92),(78,.slice A86 x85.length c87),(79,jI (x85.length:Int)),(80,jI (k93:Int))]/\Rs = [ci 38 24 cu (.slice A91 y90.length c92) y90,RdR (ai 1 lx) [.slice A86 x85.length c87] x85,aN b83 149 #[jI y94,jI y95,jS y96,jI y97],aN b16 38 (g7 a1 A7 A9 A11 c8 c10 c12),aN b15 38 (g7 a0 A1 A3 A5 c2 c4 c6),aO]/\cf (x85.drop k93) y89 y90 y94 y95 y96 y97=some E98) (x85.length) [0,0,0,0,0,0] ⟨false,[],none,0,0,st81.fcount.fmany,st81.fcount.fat,st81.fheld,st81.ferr,by simp,Z,Z,by rw[List.drop_zero]; exact hE99⟩ Mf Mf ?_;clear hE99 h;rintro m101 _ _ ⟨y89,y90,A91,c92,k93,y94,y95,y96,y97,hk104,rfl,rfl,h⟩
   cases m101 with
   | zero =>
    rw[List.drop_of_length_le Mc,cf] at h;have hk104ge: ¬ ((k93:Int)<(x85.length:Int)):=by omega
    refine Gq Z (Gx aq Z (T.seq (GU Z (Jr hk104ge) ?_)));obtain rfl:=Jp h;replace h:=hO100;clear hO100;refine T.exit (GL (GL (Hi (X.seq (T.seq ?_)))));obtain⟨⟨y317,y318,y319,y320,y321⟩,h,hk322⟩:=Jn h;refine Hj (fun e Rs=>e = [(6,.bool y317)]/\Rs = [ci 38 24 cu (.slice A91 y90.length c92) y90,RdR (ai 1 lx) [.slice A86 x85.length c87] x85,aN b83 149 #[jI y318,jI y319,jS y320,jI y321],aN b16 38 (g7 a1 A7 A9 A11 c8 c10 c12),aN b15 38 (g7 a0 A1 A3 A5 c2 c4 c6),aO]) ?_ ?_
    ·clear hk322;obtain⟨x323,hx324,h⟩:=Jn h;refine T.foc (E:=cu) (k:=0) 0 Z (fun w G h=>dG Md w G h) Md hx324 ?_;rintro gz325 oz325 z325cs hA z325cl ⟨_,_,z325r⟩;cases hA;obtain⟨A326,c327,A328,c329,A330,c331,rfl,_,_,_⟩:=z325r;clear z325cl;refine T.sel [0,0,0,0,0,0] Z ?_;obtain⟨x332,hx333,h⟩:=Jn h;refine T.foc (E:=cu) (k:=1) 0 Z (fun w G h=>dG Md w G h.1) Md hx333 ?_;rintro gg oo z334cs hA z334cl ⟨_,_,z334r⟩;cases hA;obtain⟨A335,c336,A337,c338,A339,c340,rfl,_,_,_⟩:=z334r;clear z334cl;refine T.sel [0,0,0,0,0,0] Z ?_;refine G6 (.q 0 (.q 1 (.q 2 (.q 3 (.q 4 (.e 5 (.q 6 (.q 7 (.q 8 (.q 9 (.q 10 (.q 13 (.e 11 (.e 12 (.e 14 (.e 15 (.q 16 (.q 17 (.q 18 (.q 19 (.q 22 (.e 20 (.e 21 (.e 23 (.e 24 (.q 25 (.q 26 .nil))))))))))))))))))))))))))) [1,2,2,2] Z nj (NoP.seq (NoP.seq bA)) Me ?_;refine TD.run aq [0] Z Z (Gw Z (GK Z Lt) Z ?_);rcases jF h with⟨c341,h⟩ | ⟨c341,h⟩
     ·refine TD.run aq [2,3] Z Z (TD.q Z (.g Z Z (Jq c341)) (G7 aq Z) Z ?_);obtain⟨⟨x342,st343⟩,hx344,h⟩:=Jn h;refine Hs 2 Z Z (.g Z Z (Jq c341)) (.fn Tryz.call32 Z) (lw b83 (⟨(⟨y94,y95⟩:dC),y96,y97⟩:aM) _ hx344) sT Z Z [1,2,2,2] (Z) (TD.q Z (.g Z Z (Jq c341)) (G7 aq Z) Z (Gw Z (Hy Z (Jq c341) Z) Z ?_));rcases jF h with⟨c345,h⟩ | ⟨c345,h⟩
      ·refine TD.run aq [8] Z Z (TD.q Z (.g Z Z (Jq c345)) (G7 aq Z) Z ?_);refine TD.q Z (.g Z Z (Jq c345)) (GS (k:=0) Z Z Z Lt JC (Jt hx324).1) Z ?_;refine TD.q Z (.g Z Z (Jq c345)) (GH (us:=nM a0 A1 A3 A5 c2 c4 c6) 2 Z JU JC Z Z Z) Z (Id Z (.g Z Z (Jq c345)) (Ex.kS (cs:=nM x323 A326 A328 A330 c327 c329 c331) (us:=nM x323 A326 A328 A330 c327 c329 c331) 0 0 Z JU JC Z (fun _ _ h=>h.1.2.2.1) Z Z) Z [1,2,2,2] Z ?_);obtain⟨x346,hx353,h⟩:=Jn h;refine TD.csn 1 Z (.g Z Z (Jq c345)) (.fn Tryz.call14 Z) (gq x323 _ _ _ _ _ _ _ hx353) (fun w1 G1 hG=>(qk (Iw 0 Z hG (mh (fun _ _ h=>by obtain⟨_,_,_,_,_,_,hc,hs⟩:=h.1.2.2.2; cases hc; exact hs.1))) (qk (Iw 0 Z hG (mh (fun _ _ h=>by obtain⟨_,_,_,_,_,_,hc,hs⟩:=h.1.2.2.2; cases hc; exact hs.2.1))) (Iw 0 Z hG (mh (fun _ _ h=>by obtain⟨_,_,_,_,_,_,hc,hs⟩:=h.1.2.2.2; cases hc; exact hs.2.2)))))) hSF Z [1,2,2,2] ?_ ?_
       ·rintro _ _ _ ⟨A347,c348,A349,c350,A351,c352,rfl,rfl,rfl⟩;rfl
       rintro _ _ _ ⟨A347,c348,A349,c350,A351,c352,rfl,rfl,rfl⟩;refine Hx [0,0,0,0,0,0] Z ?_;obtain⟨x355,hx362,h⟩:=Jn h;refine TD.cso  Z (.g Z Z (Jq c345)) (.fn Tryz.call14 Z) (gq a0 _ _ _ _ _ _ _ hx362) ⟨hS.1,hS.2.1,hS.2.2.1⟩ hSF Z [4,5,5,5] ?_ ?_
       ·rintro _ _ _ ⟨A356,c357,A358,c359,A360,c361,rfl,rfl,rfl⟩;rfl
       rintro _ _ _ ⟨A356,c357,A358,c359,A360,c361,rfl,rfl,rfl⟩;refine Hx [0,0,0,0,0,0,0,0,0] Z ?_;obtain⟨x363,hx364,h⟩:=Jn h;refine Ih Z (.g Z Z (Jq c345)) (.fn Tryz.call17 Z) (kh x346 _ _ _ _ _ _ x355 _ _ _ _ _ _ _ hx364) (fun _ hs=>(RX.reads_and (Hm 3 hs Z (mi 0 Z) hSF) (RX.reads_and (Hm 3 hs Z (mi 1 Z) hSF) (RX.reads_and (Hm 3 hs Z (mi 2 Z) hSF) (RX.reads_and (Hm 0 hs Z iv hSF) (RX.reads_and (Hm 1 hs Z iv hSF) (Hm 2 hs Z iv hSF))))))) Z [4,5,5,5] (Z) (Gw Z (Hy Z (Jq c345) Z) Z ?_);rcases jF h with⟨c365,h⟩ | ⟨c365,h⟩
       ·refine TD.run aq [17] Z Z (TD.q Z (.g Z Z c365) (G7 aq Z) Z ?_);refine TD.q Z (.g Z Z c365) (GS (k:=1) Z Z Z Lt JC (Jt hx333).1) Z ?_;refine TD.q Z (.g Z Z c365) (GH (us:=nM a1 A7 A9 A11 c8 c10 c12) 1 Z JU JC Z Z Z) Z (TD.ungrp 3 Z (Hx [0,0,0,0,0,0,0,0,0] Z (Id Z (.g Z Z c365) (Ex.kS (cs:=nM x332 A335 A337 A339 c336 c338 c340) (us:=nM x332 A335 A337 A339 c336 c338 c340) 0 0 Z JU JC Z (fun _ _ h=>h.2.2.1) Z Z) Z [4,5,5,5] Z ?_)));obtain⟨x366,hx373,h⟩:=Jn h;refine TD.csn 1 Z (.g Z Z c365) (.fn Tryz.call14 Z) (gq x332 _ _ _ _ _ _ _ hx373) (fun w1 G1 hG=>(qk (Iw 0 Z hG (mh (fun _ _ h=>by obtain⟨_,_,_,_,_,_,hc,hs⟩:=h.2.2.2; cases hc; exact hs.1))) (qk (Iw 0 Z hG (mh (fun _ _ h=>by obtain⟨_,_,_,_,_,_,hc,hs⟩:=h.2.2.2; cases hc; exact hs.2.1))) (Iw 0 Z hG (mh (fun _ _ h=>by obtain⟨_,_,_,_,_,_,hc,hs⟩:=h.2.2.2; cases hc; exact hs.2.2)))))) hSF Z [4,5,5,5] ?_ ?_
        ·rintro _ _ _ ⟨A367,c368,A369,c370,A371,c372,rfl,rfl,rfl⟩;rfl
        rintro _ _ _ ⟨A367,c368,A369,c370,A371,c372,rfl,rfl,rfl⟩;refine Hx [0,0,0,0,0,0,0,0,0] Z ?_;obtain⟨x375,hx382,h⟩:=Jn h;refine TD.cso  Z (.g Z Z c365) (.fn Tryz.call14 Z) (gq a1 _ _ _ _ _ _ _ hx382) ⟨hS.2.2.2.1,hS.2.2.2.2.1,hS.2.2.2.2.2.1⟩ hSF Z [7,8,8,8] ?_ ?_
        ·rintro _ _ _ ⟨A376,c377,A378,c379,A380,c381,rfl,rfl,rfl⟩;rfl
        rintro _ _ _ ⟨A376,c377,A378,c379,A380,c381,rfl,rfl,rfl⟩;refine Hx [0,0,0,0,0,0,0,0,0,0,0,0] Z ?_;obtain⟨x383,hx384,h⟩:=Jn h;refine Ih Z (.g Z Z c365) (.fn Tryz.call17 Z) (kh x366 _ _ _ _ _ _ x375 _ _ _ _ _ _ _ hx384) (fun _ hs=>(RX.reads_and (Hm 3 hs Z (mi 0 Z) hSF) (RX.reads_and (Hm 3 hs Z (mi 1 Z) hSF) (RX.reads_and (Hm 3 hs Z (mi 2 Z) hSF) (RX.reads_and (Hm 0 hs Z iv hSF) (RX.reads_and (Hm 1 hs Z iv hSF) (Hm 2 hs Z iv hSF))))))) Z [7,8,8,8] (Z) (Gw Z (Hy Z c365 Z) Z (TD.run aq [26] Z Z (TD.nil (X.ungrp 3 Z (G8 [0,0,0,0,0,0,0,0,0,0,0,0] Z (X.unf 0 Z (G8 [0,0,0,0,0,0,0,0,0,0,0,0] Z ?_)))))));refine X.unf 0 Z (G8 [0,0,0,0,0,0,0,0,0,0,0,0] Z ?_);cases h;exact GE [0,6,6,6,6,6]
       replace c365:=Ju c365;refine TD.run aq [17] Z Z ?_;iterate 3 refine He Z (.gn Z Z c365) Z ?_
       iterate 4 refine H5 Z (.gn Z Z c365) Z [4,5,5,5] Z ?_
       refine Gw Z (Hq Z c365 Z) Z (TD.run aq [26] Z Z (TD.nil (X.ungrp 3 Z (G8 [0,0,0,0,0,0,0,0,0] Z (X.unf 0 Z (G8 [0,0,0,0,0,0,0,0,0] Z (X.unf 0 Z ?_)))))));refine G8 [0,0,0,0,0,0,0,0,0] Z ?_;cases h;exact GE [0,3,3,3,3,3]
      refine TD.run aq [8] Z Z ?_;iterate 3 refine He Z (.gn Z Z (Jr c345)) Z ?_
      iterate 4 refine H5 Z (.gn Z Z (Jr c345)) Z [1,2,2,2] Z ?_
      refine Gw Z (Hq Z (Jr c345) Z) Z (TD.run aq [17] Z Z ?_);iterate 3 refine He Z (.gn Z Z Z) Z ?_
      iterate 4 refine H5 Z (.gn Z Z Z) Z [1,2,2,2] Z ?_
      refine Gw Z (Hq Z Z Z) Z (TD.run aq [26] Z Z (TD.nil (X.unf 0 Z (G8 [0,0,0,0,0,0] Z (X.unf 0 Z (G8 [0,0,0,0,0,0] Z ?_))))));cases h;exact GE [0,0,0,0,0,0]
     refine TD.run aq [2,3] Z Z (He Z (.gn Z Z (Jr c341)) Z (H5 Z (.gn Z Z (Jr c341)) Z [1,2,2,2] Z (He Z (.gn Z Z (Jr c341)) Z (Gw Z (Hq Z (Jr c341) Z) Z (TD.run aq [8] Z Z ?_)))));iterate 3 refine He Z (.gn Z Z Z) Z ?_
     iterate 4 refine H5 Z (.gn Z Z Z) Z [1,2,2,2] Z ?_
     refine Gw Z (Hq Z Z Z) Z (TD.run aq [17] Z Z ?_);iterate 3 refine He Z (.gn Z Z Z) Z ?_
     iterate 4 refine H5 Z (.gn Z Z Z) Z [1,2,2,2] Z ?_
     refine Gw Z (Hq Z Z Z) Z (TD.run aq [26] Z Z (TD.nil (X.unf 0 Z (G8 [0,0,0,0,0,0] Z (X.unf 0 Z (G8 [0,0,0,0,0,0] Z ?_))))));cases h;exact GE [0,0,0,0,0,0]
    rintro _ _ ⟨rfl,rfl⟩;clear h;have h:=hk322;clear hk322;obtain rfl:=Jp h;exact X.seq (T.ret (GD [5] Tryz.results8 (Gu Z)))
   | succ m101 =>
    obtain⟨x102,hxx102⟩: ∃ x,x85[k93]? = some x:=⟨_,List.getElem?_eq_getElem Mc⟩;rw[bz hxx102,cf] at h;have hk104lt:(k93:Int)<(x85.length:Int):=by omega
    refine Gq Z (Gx aq Z (T.seq (GF Z (Jq hk104lt) (GQ (T.seq (T.block (Gq Z (TL.foc (E:=lx) (k:=k93) 1 Z (fun w G h=>tU w G h) Md hxx102 ?_))))))));rintro gz105 oz105 _ ⟨⟩ _ ⟨_,_,rfl⟩;refine Hc [0,0,0,0,0,0] Z ?_;refine Gr Z (GS (k:=k93) Z Z Z Kx JO (Jt hxx102).1) Z ?_;refine Gr Z (Ex.k1 (cs := [jS x102]) 1 0 Z JZ Z (fun _ _ h=>h.2.2.1) Z) Z (GP aq Z Z ?_);obtain⟨⟨x106,x109,st110⟩,hx111,h⟩:=Jn h;refine Gp aq 2 Z (TL.cg2 Z .u (.fn Tryz.call29 Z) (lB b83 (⟨(⟨y94,y95⟩:dC),y96,y97⟩:aM) x102 _ hx111) sT Z ?_);rintro _ _ _ ⟨A107,c108,rfl,rfl,rfl⟩;refine Hc [0,0,0,0,0,0,0] Z (Gx aq Z (T.seq (Gq Z (Gp aq 2 Z ?_))));rcases jF h with⟨c112,h⟩ | ⟨c112,h⟩
    ·refine GY Z c112 (GQ (T.region Z ?_));obtain⟨c113,h⟩:=aE h;refine Gp aq 2 Z ?_;refine TL.appB (xs:=y90) (ys:=x106) (E:=cu) 1 0 Z .u pc Tryz.underlying60 pU Z Md Z Z Z Z c113 (by have hq:=c113; omega) Z (fun A114 c115=> ?_);refine Hc [0,0,0,0,0,0] Z (Gp aq 1 Z (TL.nil (GN (X.seq (T.region Z (Gr Z (Ex.add Z Z Mc) Z (Gp aq 1 Z (TL.nil (X.unf 1 Z (G8 [0,0,0,0,0,0] Z ?_))))))))));exact X.back (m':=m101) [0,0,0,0,0,0] Mc ⟨y89,(y90++x106),A114,c115,k93+1,st110.fcount.fmany,st110.fcount.fat,st110.fheld,st110.ferr,by omega,Z,Z,h⟩ Mf Mf
    exact GX rfl c112 (nomatch h)
  replace c80:=Ju c80;exact Hp (GF rfl (bM c80) (nomatch h))
 exact GX rfl c27 (nomatch h)
theorem vk: ∀ {l m:List Hd},ji l m=true->l=m
 | [],[],_=>rfl
 | [],b::m,h=>nomatch h
 | a::l,[],h=>nomatch h
 | a::l,b::m,h=>by
  rw[ji,Bool.and_eq_true] at h;obtain⟨h1,h2⟩:=h;rw[vk h2];obtain⟨k,n,d⟩:=a;obtain⟨k',n',d'⟩:=b;simp[BT] at h1;obtain⟨⟨rfl,rfl⟩,rfl⟩:=h1;rfl
theorem Dz {a b:Rec} (h:sR a b=true):a=b:=by
 obtain⟨t,o,⟨kn,kd⟩,⟨vn,vd⟩,hs⟩:=a;obtain⟨t',o',⟨kn',kd'⟩,⟨vn',vd'⟩,hs'⟩:=b;unfold sR at h;rw[Bool.and_eq_true] at h;obtain⟨h1,h2⟩:=h;obtain rfl:=vk h2;simp at h1;obtain⟨⟨⟨⟨⟨rfl,rfl⟩,rfl⟩,rfl⟩,rfl⟩,rfl⟩:=h1;rfl
theorem vl: ∀ {l m:List Rec},l.length=m.length->mX l m=true->l=m
 | [],[],_,_=>rfl
 | [],b::m,h,_=>nomatch h
 | a::l,[],h,_=>nomatch h
 | a::l,b::m,hl,h=>by
  rw[mX,Bool.and_eq_true] at h;rw[Dz h.1,vl (Nat.succ.inj hl) h.2]
theorem DA {a b:Bat} (h:qU a b=true):a=b:=by
 unfold qU at h;rw[Bool.and_eq_true,decide_eq_true_eq] at h;obtain⟨⟨h1,h2,h3,h4,h5,h6,h7,h8,h9,h10,h11,h12⟩,h13⟩:=h;have:=vl h12 h13;obtain⟨⟩:=a;obtain⟨⟩:=b;simp only at h1 h2 h3 h4 h5 h6 h7 h8 h9 h10 h11 this;subst h1 h2 h3 h4 h5 h6 h7 h8 h9 h10 h11 this;rfl
theorem vm: ∀ {l m:List Bat},l.length=m.length->kp l m=true->l=m
 | [],[],_,_=>rfl
 | [],b::m,h,_=>nomatch h
 | a::l,[],h,_=>nomatch h
 | a::l,b::m,hl,h=>by
  rw[kp,Bool.and_eq_true] at h;rw[DA h.1,vm (Nat.succ.inj hl) h.2]
theorem zG: ∀ {l m:List aL},l.length=m.length->xI l m=true->l=m
 | [],[],_,_=>rfl
 | [],b::m,h,_=>nomatch h
 | a::l,[],h,_=>nomatch h
 | a::l,b::m,hl,h=>by
  rw[xI,Bool.and_eq_true] at h;obtain⟨h1,h2⟩:=h;rw[zG (Nat.succ.inj hl) h2];unfold qsP at h1;rw[Bool.and_eq_true,decide_eq_true_eq] at h1;obtain⟨⟨h3,h4⟩,h5⟩:=h1;have:=vm h4 h5;obtain⟨⟩:=a;obtain⟨⟩:=b;simp only at h3 this;subst h3 this;rfl
theorem zH: ∀ {l m:List az},l.length=m.length->xJ l m=true->l=m
 | [],[],_,_=>rfl
 | [],b::m,h,_=>nomatch h
 | a::l,[],h,_=>nomatch h
 | a::l,b::m,hl,h=>by
  rw[xJ,Bool.and_eq_true] at h;obtain⟨h1,h2⟩:=h;rw[zH (Nat.succ.inj hl) h2];unfold qsT at h1;rw[Bool.and_eq_true,decide_eq_true_eq] at h1;obtain⟨⟨h3,h4⟩,h5⟩:=h1;have:=zG h4 h5;obtain⟨⟩:=a;obtain⟨⟩:=b;simp only at h3 this;subst h3 this;rfl
theorem DB {a b:ao} (h:sV a b=true):a=b:=by
 unfold sV at h;rw[Bool.and_eq_true,decide_eq_true_eq] at h;obtain⟨⟨h1,h2,h3,h4,h5⟩,h6⟩:=h;have:=zH h5 h6;obtain⟨⟨_,_⟩⟩:=a;obtain⟨⟨_,_⟩⟩:=b;simp only at h1 h2 h3 h4 this;subst h1 h2 h3 h4 this;rfl
theorem xP (r q:cG) (h1:r.IC.length<=1000000) (h2: ∀ t,t∈r.IC->t.IH.length<=140737488355328): ∃ v,gO r q=some v/\(v=true->r=q):=by
 have ht:=uz r.IC q.IC h1 h2;rw[pK] at ht;unfold gO;rw[ht];obtain⟨⟨a,b⟩,c,d,e,f,g⟩:=r;obtain⟨⟨a',b'⟩,c',d',e',f',g'⟩:=q;simp only;by_cases k1:a=a'
 ·rw[Mg k1];by_cases k2:b=b'
  ·rw[Mg k2];by_cases k3:c=c'
   ·rw[Mg k3];by_cases k4:d=d'
    ·rw[Mg k4];by_cases k5:e=e'
     ·rw[Mg k5];subst k1 k2 k3 k4 k5;cases g <;> cases g' <;> simp only[if_true,Bool.false_eq_true,if_false,Jo]
      ·exact⟨_,rfl,fun h=>by rw[of_decide_eq_true h]⟩
      ·exact⟨_,rfl,fun h=>nomatch h⟩
      ·exact⟨_,rfl,fun h=>nomatch h⟩
      ·exact⟨_,rfl,fun h=>by rw[of_decide_eq_true h]⟩
     ·rw[Mh k5];exact⟨_,rfl,fun h=>nomatch h⟩
    ·rw[Mh k4];exact⟨_,rfl,fun h=>nomatch h⟩
   ·rw[Mh k3];exact⟨_,rfl,fun h=>nomatch h⟩
  ·rw[Mh k2];exact⟨_,rfl,fun h=>nomatch h⟩
 ·rw[Mh k1];exact⟨_,rfl,fun h=>nomatch h⟩
theorem Gk {a b:al} (ha:tp a) (hc:jp a=0) (hd:jp b=0): ∃ v,ez (ofF a) (ofF b)=some v/\(v=true->nF a=nF b):=by
 have hb: ∀ {t:Top} {l:List Top},wTs l<=1000->t∈l->t.IH.length<=140737488355328:=fun {t l} hw ht=>by
  have:=qM _ _ ht;unfold wT at this;omega
 have no: ∃ v,(some false:Option Bool)=some v/\(v=true->nF a=nF b):=⟨_,rfl,fun h=>nomatch h⟩;unfold ez;rw[zD,zD];have e1:(mu a.IE).IP=a.IE.IP:=rfl;have e2:(mu b.IE).IP=b.IE.IP:=rfl;by_cases k1:(mu a.IE).IP=(mu b.IE).IP;rotate_left
 ·rw[Mh k1]; exact no
 rw[Mg k1];by_cases k2:(mu a.IE).IO=(mu b.IE).IO;rotate_left
 ·rw[Mh k2]; exact no
 rw[Mg k2];by_cases k3:(mu a.IE).IY=(mu b.IE).IY;rotate_left
 ·rw[Mh k3]; exact no
 rw[Mg k3];by_cases k4:(mu a.IE).IK.null=(mu b.IE).IK.null;rotate_left
 ·rw[Mh k4]; exact no
 rw[Mg k4];by_cases k5:(mu a.IE).IK.data=(mu b.IE).IK.data;rotate_left
 ·rw[Mh k5]; exact no
 rw[Mg k5];have hh:a.IE=b.IE:=by
  unfold mu at k1 k2 k3 k4 k5;obtain⟨⟨p,q,r,⟨s,t⟩⟩⟩:=a;obtain⟨⟨p',q',r',⟨s',t'⟩⟩⟩:=b;simp only at k1 k2 k3 k4 k5 ⊢;subst k1 k2 k3 k4 k5;rfl
 rw[e1,e2] at k1;have z18:=pR zR Md (fun t ht=>absurd ht List.not_mem_nil);have ka:=vf hc;have fin: ∀ {x y z:Option Bool} {v:Bool},x=some true->y=some true->z=some v->((x.bind fun x35=>if x35=true then (y.bind fun x38=>if x38=true then (z.bind fun x41=>some x41) else some false) else some false).bind fun y28=>some y28)=some v:=fun {x y z v} h1 h2 h3=>by
  rw[h1,Jo,Mg rfl,h2,Jo,Mg rfl,h3];rfl
 have fin1: ∀ {x y z:Option Bool} {v:Bool},x=some v->y=some true->z=some true->((x.bind fun x35=>if x35=true then (y.bind fun x38=>if x38=true then (z.bind fun x41=>some x41) else some false) else some false).bind fun y28=>some y28)=some v:=fun {x y z v} h1 h2 h3=>by
  rw[h1,Jo];cases v
  ·rfl
  ·rw[Mg rfl,h2,Jo,Mg rfl,h3];rfl
 have fin2: ∀ {x y z:Option Bool} {v:Bool},x=some true->y=some v->z=some true->((x.bind fun x35=>if x35=true then (y.bind fun x38=>if x38=true then (z.bind fun x41=>some x41) else some false) else some false).bind fun y28=>some y28)=some v:=fun {x y z v} h1 h2 h3=>by
  rw[h1,Jo,Mg rfl,h2,Jo];cases v
  ·rfl
  ·rw[Mg rfl,h3];rfl
 rcases ka with k | k | k | k | k
 ·have k':b.IE.IP=0:=by omega
  have q:=oA (b:=b.IL) (wO ha);obtain⟨v,hv⟩: ∃ v,v=sV a.IL b.IL:=⟨_,rfl⟩;rw[<- hv] at q;refine⟨v,?_,fun h=>by rw[nF_0 k,nF_0 k',hh,DB (hv.symm.trans h)]⟩;unfold ofF;rw[Mg k,Mg k'];exact fin z18 jm q
 ·have k':b.IE.IP=22:=by omega
  obtain⟨v,q1,q2⟩:=xP (gB a.I0) (gB b.I0) (JM _) (fun t ht=>absurd ht List.not_mem_nil);refine⟨v,?_,fun h=> ?_⟩
  ·unfold ofF;rw[Mh Mc,Mg k,Mh Mc,Mg k'];exact fin1 q1 jm jl
  ·have e:=q2 h;rw[Cl k,Cl k',hh];have:a.I0=b.I0:=by
    unfold gB at e;injection e with f1 f2 f3 f4;cases hx:a.I0;cases hy:b.I0;rw[hx,hy] at f1 f2 f3 f4;simp only at f1 f2 f3 f4;rw[f1,f2,f3,f4]
   rw[this]
 ·have k':b.IE.IP=24:=by omega
  obtain⟨v,q1,q2⟩:=xP (gA a.I4) (gA b.I4) (by show a.I4.IC.length<= _; have:=jg a.I4.IC; have:=ha.ts; omega) (fun t ht=>hb ha.ts ht);refine⟨v,?_,fun h=> ?_⟩
  ·unfold ofF;rw[Mh Mc,Mh Mc,Mg k,Mh Mc,Mh Mc,Mg k'];exact fin1 q1 jm jl
  ·have e:=q2 h;rw[Cm k,Cm k',hh];have:a.I4=b.I4:=by
    unfold gA at e;injection e with f1 f2 f3 f4 f5;injection f1 with _ f1;cases hx:a.I4;cases hy:b.I4;rw[hx,hy] at f1 f3 f4 f5;simp only at f1 f3 f4 f5;rw[f1,f3,f4,f5]
   rw[this]
 ·have k':b.IE.IP=26:=by omega
  obtain⟨v,q1,q2⟩:=xP (gE a.Jb) (gE b.Jb) (JM _) (fun t ht=>absurd ht List.not_mem_nil);refine⟨v,?_,fun h=> ?_⟩
  ·unfold ofF;rw[Mh Mc,Mh Mc,Mh Mc,Mg k,Mh Mc,Mh Mc,Mh Mc,Mg k'];exact fin1 q1 jm jl
  ·have e:=q2 h;rw[Cn k,Cn k',hh];have:a.Jb=b.Jb:=by
    unfold gE at e;injection e with f1 f2 f3 f4 f5 f6;injection f1 with _ f1;cases hx:a.Jb;cases hy:b.Jb;rw[hx,hy] at f1 f3 f4 f6;simp only at f1 f3 f4 f6;rw[f1,f3,f4,f6]
   rw[this]
 ·have k':b.IE.IP=27:=by omega
  have q:=uG a.I1 b.I1 (by have:=ha.ml; omega) (fun m hm=>⟨by have:=jg m.IC; have:=ha.mt m hm; omega,fun t ht=>hb (ha.mt m hm) ht⟩);obtain⟨v,hv⟩: ∃ v,v=decide (a.I1=b.I1):=⟨_,rfl⟩;rw[<- hv] at q;refine⟨v,?_,fun h=>by rw[Co k,Co k',hh,of_decide_eq_true (hv.symm.trans h)]⟩;unfold ofF;rw[Mh Mc,Mh Mc,Mh Mc,Mh Mc,Mg k,Mh Mc,Mh Mc,Mh Mc,Mh Mc,Mg k'];exact fin2 z18 q jl
theorem zI {x y:al} {r:List UInt8} (hx:xM x) (hy:xM y) (h:ba x++r=ba y):x=y:=by
 have h1:=vb (s:=ba y) (t := []) (q:=0) (JM _) hy (by rw[List.drop_zero,JE]);have h2:=vb (s:=ba y) (t:=r) (q:=0) (JM _) hx (by rw[List.drop_zero,h]);rw[h1] at h2;injection h2 with h2;exact (JP h2).1.symm
theorem Gl {x y:al} (hx:xM x) (hy:xM y) {n:Nat} (hn:(n=(ba x).length/\n<=(ba y).length)\/(n=(ba y).length/\n<=(ba x).length)) (h:(ba x).take n=(ba y).take n):x=y:=by
 rcases hn with⟨h1,h2⟩ | ⟨h1,h2⟩
 ·rw[h1,List.take_length] at h;have e:=List.take_append_drop (ba x).length (ba y);rw[<- h] at e;exact zI hx hy e
 ·rw[h1,List.take_length] at h;have e:=List.take_append_drop (ba y).length (ba x);rw[h] at e;exact (zI hy hx e).symm
theorem Cq (y:Bool): ∀ (cs:List (List UInt8)) (acc:List al) (m a:Int) (h:List UInt8) (e:Int),cf cs y acc m a h e=dF cs y acc m a h e
 | [],_,_,_,_,_=>by rw[cf,dF]
 | c::cs,acc,m,a,h,e=>by
  rw[cf,dF];congr 1;funext p;obtain⟨p1,p2,p3⟩:=p;simp only;rw[Cq y cs]
theorem Gm:eY []=some (zF,1):=by kernel_rfl
theorem pure_WholeFrames (a0:al) (a1:al) (a2:List Int) (w0:gr a0) (w1:gr a1) (w2:(wL wU8) a2):gG a0 a1 a2=some true:=by
 unfold gG;rw[Gm,Jo];dsimp only;rw[Mg rfl];rcases few21 a0 w0 with h1 | ⟨h1,hA⟩
 ·rw[h1];rfl
 rcases few21 a1 w1 with h2 | ⟨h2,hB⟩
 ·rw[h1,h2];rfl
 rw[h1,Jo,Mh Md,h2,Jo,Mh Md];by_cases l2:(a2.length:Int)>200
 ·rw[Mg l2];rfl
 rw[Mh l2,Jo,Mh Md];by_cases hc:jp a0=0;rotate_left
 ·rw[vg hA hc,Jo];dsimp only;by_cases hd:jp a1=0
  ·rw[pS hB hd,Jo];dsimp only;rw[Mh hc];rfl
  ·rw[vg hB hd,Jo];dsimp only;rw[Mh hc];rfl
 rw[pS hA hc,Jo];dsimp only;by_cases hd:jp a1=0;rotate_left
 ·rw[vg hB hd,Jo];dsimp only;rw[Mg rfl,Mh hd];rfl
 rw[pS hB hd,Jo];dsimp only;rw[Mg rfl,Mg rfl,Jo,Mh Md];obtain⟨k1,k2,k3,k4⟩:=oQ hA hc;obtain⟨q1,q2,q3,q4⟩:=oQ hB hd;have la:=wQ hA hc;have lb:=wQ hB hd;obtain⟨v,hv1,hv2⟩:=Gk (b:=a1) hA hc hd;have hsame: ∀ n:Nat,((n=(ba (nF a0)).length/\n<=(ba (nF a1)).length)\/(n=(ba (nF a1)).length/\n<=(ba (nF a0)).length))->decide ((ba (nF a0)).take n=(ba (nF a1)).take n)=v:=fun n hn=>by
  by_cases e:nF a0=nF a1
  ·have:v=true:=by
    have e2:ofF a0=ofF a1:=by rw[<- k4,<- q4,e]
    rw[<- e2,ve hA] at hv1;exact (Jp hv1).symm
   rw[this,e];exact Jq rfl
  ·have:v=false:=by
    cases hq:v with
    | false=>rfl
    | true=>exact absurd (hv2 hq) e
   rw[this];exact Jr (fun h=>e (Gl k1 q1 hn h))
 have step: ∀ (n:Nat) (R:Option Bool),((n=(ba (nF a0)).length/\n<=(ba (nF a1)).length)\/(n=(ba (nF a1)).length/\n<=(ba (nF a0)).length))->R=some true ->
  (if 0<=(n:Int)/\(n:Int).toNat<=(ba (nF a0)).length then (if 0<=(n:Int)/\(n:Int).toNat<=(ba (nF a1)).length then ((dZ a0).bind fun x62=>(dZ a1).bind fun x70=>(ez x62 x70).bind fun x78=>if ((decide (((ba (nF a0)).take (n:Int).toNat)=((ba (nF a1)).take (n:Int).toNat))) == x78)=true then R else none) else none) else none)=some true:=fun n R hn hR=>by
  rw[Kp,Mg ⟨by omega,by omega⟩,Mg ⟨by omega,by omega⟩,xN hA,Jo,xN hB,Jo,hv1,Jo,hsame n hn,Mg (by simp),hR]
 have tail:((kc).bind fun st81=>if (ba (nF a0)).length+(ba (nF a1)).length<=9223372036854775807 then ((kQ (ba (nF a0)++ba (nF a1)) a2).bind fun x85=>(cf x85 false [] st81.fcount.fmany st81.fcount.fat st81.fheld st81.ferr).bind fun e=>match e with | .ret r=>some r | .go (y116,y117,y121,y122,y123,y124)=>(((y117[0]?).bind fun x193=>(y117[1]?).bind fun x202=>if (y117.length:Int)=2 then ((dq (⟨(⟨y121,y122⟩:dC),y123,y124⟩:aM)).bind fun (x212,st213)=>if x212=0 then ((dZ x193).bind fun x216=>(dZ a0).bind fun x225=>(ez x216 x225).bind fun x233=>if x233=true then ((dZ x202).bind fun x236=>(dZ a1).bind fun x245=>(ez x236 x245).bind fun x253=>some (x253,st213.fcount.fmany,st213.fcount.fat,st213.fheld,st213.ferr)) else some (false,st213.fcount.fmany,st213.fcount.fat,st213.fheld,st213.ferr)) else some (false,st213.fcount.fmany,st213.fcount.fat,st213.fheld,st213.ferr)) else some (false,y121,y122,y123,y124)).bind fun (y187,y188,y189,y190,y191)=>some y187)) else none)=some true:=by
  have hok:okFs [nF a0,nF a1]:=by
   intro f hf;rcases List.mem_cons.1 hf with rfl | hf
   ·exact⟨k1,k3⟩
   ·rcases List.mem_cons.1 hf with rfl | hf
    ·exact⟨q1,q3⟩
    ·cases hf
  have he:aS ba [nF a0,nF a1]=ba (nF a0)++ba (nF a1):=by rw[aS,aS,aS,JE]
  obtain⟨cs,c1,c2⟩:=Gj (s:=ba (nF a0)++ba (nF a1)) (ns:=a2) (fun n hn=>w2.2 n hn) Mc (by rw[Js]; omega);obtain⟨i,i1,i2⟩:=srl3 [nF a0,nF a1] false hok (by show 2<=500; decide) (by rw[he,Js]; omega) cs [] [] 0 (by rw[c2,JI,JE,he]) ⟨JM _,by rw[List.take_zero,aS]; exact JN _,fun h=>by rw[List.take_succ_cons,aS,Js,pT,J6]; omega⟩;rw[JI,c2] at i1 i2;have hi:i=2:=by
   have h2:i<=2:=i1.le;by_cases c:i<2
   ·have h3:=i1.hi c;have h4:(aS ba ([nF a0,nF a1].take (i+1))).length<=(aS ba [nF a0,nF a1]).length:=by
     have : [nF a0,nF a1] = [nF a0,nF a1].take (i+1) ++ [nF a0,nF a1].drop (i+1):=(List.take_append_drop _ _).symm;have h5:=congrArg (fun l=>(aS ba l).length) this;simp only[mv,Js] at h5;omega
    rw[he] at h4;omega
   ·omega
  subst hi;rw[List.take_zero,aS,J6,List.drop_nil] at i2;have hnew:kc=some ⟨⟨0,0⟩,[],0⟩:=rfl;have ht : [nF a0,nF a1].take 2 = [nF a0,nF a1]:=rfl;rw[ht,he,List.drop_length] at i2;have hi2:dF cs false [] 0 0 [] 0= _:=i2;obtain⟨z,hz⟩:=Ft [nF a0,nF a1] (ba (nF a0)++ba (nF a1)) 2;unfold spS at hz;rw[ht,he,List.drop_length,Mg rfl] at hz;rw[hnew,Jo,Mg Mc,c1,Jo];dsimp only;rw[Cq,hi2,Jo];dsimp only;rw[List.getElem?_cons_zero,Jo,List.getElem?_cons_succ,List.getElem?_cons_zero,Jo,Mg (show ((([nF a0,nF a1]:List al).length:Nat):Int)=2 from rfl),hz,Jo];dsimp only;rw[Mg rfl,wP hA (vf hc),Jo,xN hA,Jo,ve hA,Jo,Mg rfl,wP hB (vf hd),Jo,xN hB,Jo,ve hB,Jo];rfl
 by_cases cl:((ba (nF a1)).length:Int)<((ba (nF a0)).length:Int)
 ·rw[Mg cl,Jo];exact step _ _ (.inr ⟨rfl,by omega⟩) tail
 ·rw[Mh cl,Jo];exact step _ _ (.inl ⟨rfl,by omega⟩) tail
open Go.RowKit Go.Deep Go.ChangeShapes
theorem wR {H:Type} {enc:TypeId×Value->H}:dT enc Tryz.prog 23 (fS yk um) :=
 dk (fun x=>⟨x.1,x.2.1⟩) (cy Tryz.underlying23 Me (aA 1 Me Me (oK Tryz.underlying4) (aA 1 Me Me (r8 Tryz.underlying9) (cO _)))) (by
  rintro w S cs ⟨x0,x1,_⟩ ⟨_,_,rfl,⟨p0,q0⟩,_,_,rfl,⟨p1,q1⟩,rfl⟩;obtain rfl:=p0;obtain rfl:=p1;exact⟨rfl,q0,q1⟩)
theorem Gn {H:Type} {enc:TypeId×Value->H}:dT enc Tryz.prog 25 (fS FC BF) :=
 dk (fun x=>⟨x.1,x.2.1,x.2.2.1,x.2.2.2.1⟩) (cy Tryz.underlying25 Me (aA 1 Me Me (eb Tryz.underlying3) (aA 1 Me Me (eb Tryz.underlying3) (aA 1 Me Me (eb Tryz.underlying3) (aA 2 Me Me wR (cO _)))))) (by
  rintro w S cs ⟨x0,x1,x2,x3,_⟩ ⟨_,_,rfl,⟨p0,q0⟩,_,_,rfl,⟨p1,q1⟩,_,_,rfl,⟨p2,q2⟩,_,_,rfl,⟨p3,q3⟩,rfl⟩;obtain rfl:=p0;obtain rfl:=p1;obtain rfl:=p2;obtain rfl:=p3;exact⟨rfl,q0,q1,q2,q3⟩)
theorem zJ {H:Type} {enc:TypeId×Value->H}:dT enc Tryz.prog 27 (fS yl ob) :=
 dk (fun x=>⟨x.1,x.2.1,x.2.2.1,x.2.2.2.1⟩) (cy Tryz.underlying27 Me (aA 2 Me Me wR (aA 1 Me Me (eb Tryz.underlying3) (aA 1 Me Me (eb Tryz.underlying3) (aA 1 Me Me (eb Tryz.underlying3) (cO _)))))) (by
  rintro w S cs ⟨x0,x1,x2,x3,_⟩ ⟨_,_,rfl,⟨p0,q0⟩,_,_,rfl,⟨p1,q1⟩,_,_,rfl,⟨p2,q2⟩,_,_,rfl,⟨p3,q3⟩,rfl⟩;obtain rfl:=p0;obtain rfl:=p1;obtain rfl:=p2;obtain rfl:=p3;exact⟨rfl,q0,q1,q2,q3⟩)
theorem Fu {H:Type} {enc:TypeId×Value->H}:dT enc Tryz.prog 171 (fS aZ mO) :=
 dk (fun x=>⟨x.1,x.2.1⟩) (cy Tryz.underlying171 Me (aA 1 Me Me (r8 Tryz.underlying9) (aA 1 Me Me (op_slice 1 8 Tryz.underlying74 Me Me Md Md (eb Tryz.underlying3)) (cO _)))) (by
  rintro w S cs ⟨x0,x1,_⟩ ⟨_,_,rfl,⟨p0,q0⟩,_,_,rfl,⟨p1,q1⟩,rfl⟩;obtain rfl:=p0;obtain⟨A1,c1,rfl⟩:=slice_cells p1;exact⟨⟨A1,c1,rfl,p1⟩,q0,q1⟩)
theorem DC {H:Type} {enc:TypeId×Value->H}:dT enc Tryz.prog 30 (fS CC wd) :=
 dk (fun x=>⟨x.1,x.2.1,x.2.2.1,x.2.2.2.1⟩) (cy Tryz.underlying30 Me (aA 1 Me Me (r8 Tryz.underlying9) (aA 1 Me Me (eb Tryz.underlying3) (aA 1 Me Me (eb Tryz.underlying3) (aA 1 Me Me (op_slice 2 40 Tryz.underlying28 Me Me Md Md Fu) (cO _)))))) (by
  rintro w S cs ⟨x0,x1,x2,x3,_⟩ ⟨_,_,rfl,⟨p0,q0⟩,_,_,rfl,⟨p1,q1⟩,_,_,rfl,⟨p2,q2⟩,_,_,rfl,⟨p3,q3⟩,rfl⟩;obtain rfl:=p0;obtain rfl:=p1;obtain rfl:=p2;obtain⟨A3,c3,rfl⟩:=slice_cells p3;exact⟨⟨A3,c3,rfl,p3⟩,q0,q1,q2,q3⟩)
theorem DD {H:Type} {enc:TypeId×Value->H}:dT enc Tryz.prog 32 (fS CA wc) :=
 dk (fun x=>⟨x.1,x.2.1,x.2.2.1,x.2.2.2.1⟩) (cy Tryz.underlying32 Me (aA 1 Me Me (r8 Tryz.underlying9) (aA 1 Me Me (eb Tryz.underlying3) (aA 1 Me Me (eb Tryz.underlying3) (aA 1 Me Me (oK Tryz.underlying4) (cO _)))))) (by
  rintro w S cs ⟨x0,x1,x2,x3,_⟩ ⟨_,_,rfl,⟨p0,q0⟩,_,_,rfl,⟨p1,q1⟩,_,_,rfl,⟨p2,q2⟩,_,_,rfl,⟨p3,q3⟩,rfl⟩;obtain rfl:=p0;obtain rfl:=p1;obtain rfl:=p2;obtain rfl:=p3;exact⟨rfl,q0,q1,q2,q3⟩)
theorem zK {H:Type} {enc:TypeId×Value->H}:dT enc Tryz.prog 173 (fS aP lP) :=
 dk (fun x=>⟨x.1,x.2.1,x.2.2.1,x.2.2.2.1,x.2.2.2.2.1⟩) (cy Tryz.underlying173 Me (aA 1 Me Me (eb Tryz.underlying3) (aA 1 Me Me (eb Tryz.underlying3) (aA 1 Me Me (oK Tryz.underlying4) (aA 1 Me Me (op_slice 2 40 Tryz.underlying28 Me Me Md Md Fu) (aA 1 Me Me (eb Tryz.underlying3) (cO _))))))) (by
  rintro w S cs ⟨x0,x1,x2,x3,x4,_⟩ ⟨_,_,rfl,⟨p0,q0⟩,_,_,rfl,⟨p1,q1⟩,_,_,rfl,⟨p2,q2⟩,_,_,rfl,⟨p3,q3⟩,_,_,rfl,⟨p4,q4⟩,rfl⟩;obtain rfl:=p0;obtain rfl:=p1;obtain rfl:=p2;obtain⟨A3,c3,rfl⟩:=slice_cells p3;obtain rfl:=p4;exact⟨⟨A3,c3,rfl,p3⟩,q0,q1,q2,q3,q4⟩)
theorem op_Hd {H:Type} {enc:TypeId×Value->H}:dT enc Tryz.prog 245 (fS ec Ed) :=
 dk (fun x=>⟨x.1,x.2.1⟩) (cy Tryz.underlying245 Me (aA 1 Me Me (r8 Tryz.underlying9) (aA 2 Me Me wR (cO _)))) (by
  rintro w S cs ⟨x0,x1,_⟩ ⟨_,_,rfl,⟨p0,q0⟩,_,_,rfl,⟨p1,q1⟩,rfl⟩;obtain rfl:=p0;obtain rfl:=p1;exact⟨rfl,q0,q1⟩)
theorem op_Rec {H:Type} {enc:TypeId×Value->H}:dT enc Tryz.prog 91 (fS dK uo) :=
 dk (fun x=>⟨x.1,x.2.1,x.2.2.1,x.2.2.2.1,x.2.2.2.2.1⟩) (cy Tryz.underlying91 Me (aA 1 Me Me (eb Tryz.underlying3) (aA 1 Me Me (eb Tryz.underlying3) (aA 2 Me Me wR (aA 2 Me Me wR (aA 1 Me Me (op_slice 3 40 Tryz.underlying89 Me Me Md Md op_Hd) (cO _))))))) (by
  rintro w S cs ⟨x0,x1,x2,x3,x4,_⟩ ⟨_,_,rfl,⟨p0,q0⟩,_,_,rfl,⟨p1,q1⟩,_,_,rfl,⟨p2,q2⟩,_,_,rfl,⟨p3,q3⟩,_,_,rfl,⟨p4,q4⟩,rfl⟩;obtain rfl:=p0;obtain rfl:=p1;obtain rfl:=p2;obtain rfl:=p3;obtain⟨A4,c4,rfl⟩:=slice_cells p4;exact⟨⟨A4,c4,rfl,p4⟩,q0,q1,q2,q3,q4⟩)
theorem op_Bat {H:Type} {enc:TypeId×Value->H}:dT enc Tryz.prog 97 (fS dY lV) :=
 dk (fun x=>⟨x.1,x.2.1,x.2.2.1,x.2.2.2.1,x.2.2.2.2.1,x.2.2.2.2.2.1,x.2.2.2.2.2.2.1,x.2.2.2.2.2.2.2.1,x.2.2.2.2.2.2.2.2.1,x.2.2.2.2.2.2.2.2.2.1,x.2.2.2.2.2.2.2.2.2.2.1,x.2.2.2.2.2.2.2.2.2.2.2.1⟩) (cy Tryz.underlying97 Me (aA 1 Me Me (eb Tryz.underlying3) (aA 1 Me Me (eb Tryz.underlying3) (aA 1 Me Me (oK Tryz.underlying4) (aA 1 Me Me (oK Tryz.underlying4) (aA 1 Me Me (oK Tryz.underlying4) (aA 1 Me Me (eb Tryz.underlying3) (aA 1 Me Me (eb Tryz.underlying3) (aA 1 Me Me (eb Tryz.underlying3) (aA 1 Me Me (eb Tryz.underlying3) (aA 1 Me Me (eb Tryz.underlying3) (aA 1 Me Me (eb Tryz.underlying3) (aA 1 Me Me (op_slice 7 88 Tryz.underlying95 Me Me Md Md op_Rec) (cO _)))))))))))))) (by
  rintro w S cs ⟨x0,x1,x2,x3,x4,x5,x6,x7,x8,x9,x10,x11,_⟩ ⟨_,_,rfl,⟨p0,q0⟩,_,_,rfl,⟨p1,q1⟩,_,_,rfl,⟨p2,q2⟩,_,_,rfl,⟨p3,q3⟩,_,_,rfl,⟨p4,q4⟩,_,_,rfl,⟨p5,q5⟩,_,_,rfl,⟨p6,q6⟩,_,_,rfl,⟨p7,q7⟩,_,_,rfl,⟨p8,q8⟩,_,_,rfl,⟨p9,q9⟩,_,_,rfl,⟨p10,q10⟩,_,_,rfl,⟨p11,q11⟩,rfl⟩;obtain rfl:=p0;obtain rfl:=p1;obtain rfl:=p2;obtain rfl:=p3;obtain rfl:=p4;obtain rfl:=p5;obtain rfl:=p6;obtain rfl:=p7;obtain rfl:=p8;obtain rfl:=p9;obtain rfl:=p10;obtain⟨A11,c11,rfl⟩:=slice_cells p11;exact⟨⟨A11,c11,rfl,p11⟩,q0,q1,q2,q3,q4,q5,q6,q7,q8,q9,q10,q11⟩)
theorem vo {H:Type} {enc:TypeId×Value->H}:dT enc Tryz.prog 179 (fS bL lj) :=
 dk (fun x=>⟨x.1,x.2.1⟩) (cy Tryz.underlying179 Me (aA 1 Me Me (eb Tryz.underlying3) (aA 1 Me Me (op_slice 12 96 Tryz.underlying177 Me Me Md Md op_Bat) (cO _)))) (by
  rintro w S cs ⟨x0,x1,_⟩ ⟨_,_,rfl,⟨p0,q0⟩,_,_,rfl,⟨p1,q1⟩,rfl⟩;obtain rfl:=p0;obtain⟨A1,c1,rfl⟩:=slice_cells p1;exact⟨⟨A1,c1,rfl,p1⟩,q0,q1⟩)
theorem tq {H:Type} {enc:TypeId×Value->H}:dT enc Tryz.prog 176 (fS ay km) :=
 dk (fun x=>⟨x.1,x.2.1⟩) (cy Tryz.underlying176 Me (aA 1 Me Me (r8 Tryz.underlying9) (aA 1 Me Me (wb 2 32 Tryz.underlying174 Me Me Md Md vo) (cO _)))) (by
  rintro w S cs ⟨x0,x1,_⟩ ⟨_,_,rfl,⟨p0,q0⟩,_,_,rfl,⟨p1,q1⟩,rfl⟩;obtain rfl:=p0;obtain⟨A1,c1,rfl⟩:=slice_cells p1;exact⟨⟨A1,c1,rfl,p1⟩,q0,q1⟩)
theorem rc {H:Type} {enc:TypeId×Value->H}:dT enc Tryz.prog 36 (fS qi fw) :=
 dk (fun x=>⟨x.1,x.2.1,x.2.2.1,x.2.2.2.1⟩) (cy Tryz.underlying36 Me (aA 2 Me Me wR (aA 1 Me Me (eb Tryz.underlying3) (aA 1 Me Me (eb Tryz.underlying3) (aA 1 Me Me (wb 2 40 Tryz.underlying34 Me Me Md Md tq) (cO _)))))) (by
  rintro w S cs ⟨x0,x1,x2,x3,_⟩ ⟨_,_,rfl,⟨p0,q0⟩,_,_,rfl,⟨p1,q1⟩,_,_,rfl,⟨p2,q2⟩,_,_,rfl,⟨p3,q3⟩,rfl⟩;obtain rfl:=p0;obtain rfl:=p1;obtain rfl:=p2;obtain⟨A3,c3,rfl⟩:=slice_cells p3;exact⟨⟨A3,c3,rfl,p3⟩,q0,q1,q2,q3⟩)
theorem op_FrameFrame {H:Type} {enc:TypeId×Value->H}:dT enc Tryz.prog 38 (fS cu gr) :=
 dk (fun x=>⟨x.1,x.2.1,x.2.2.1,x.2.2.2.1,x.2.2.2.2.1,x.2.2.2.2.2.1⟩) (cy Tryz.underlying38 Me (aA 5 Me Me Gn (aA 5 Me Me zJ (aA 4 Me Me DC (aA 4 Me Me DD (aA 1 Me Me (op_slice 5 56 Tryz.underlying33 Me Me Md Md zK) (aA 5 Me Me rc (cO _)))))))) (by
  rintro w S cs ⟨x0,x1,x2,x3,x4,x5,_⟩ ⟨_,_,rfl,⟨p0,q0⟩,_,_,rfl,⟨p1,q1⟩,_,_,rfl,⟨p2,q2⟩,_,_,rfl,⟨p3,q3⟩,_,_,rfl,⟨p4,q4⟩,_,_,rfl,⟨p5,q5⟩,rfl⟩;obtain rfl:=p0;obtain rfl:=p1;obtain⟨A2_0,c2_0,rfl,p2_0⟩:=p2;obtain rfl:=p3;obtain⟨A4,c4,rfl⟩:=slice_cells p4;obtain⟨A5_0,c5_0,rfl,p5_0⟩:=p5;exact⟨⟨A2_0,c2_0,A4,c4,A5_0,c5_0,rfl,p2_0,p4,p5_0⟩,q0,q1,q2,q3,q4,q5⟩)
end Go.Proofs.YtheikonlgjdopaaGreat.Sl
namespace Go.Proofs.YtheikonlgjdopaaGreat.wholeFrames
open Go.ChangeShapes Go.WideShapes Go.ChangeAt Go.RowKit
open Go.ChangeMaps (open_string shut_string)
set_option linter.unusedVariables false
theorem own:ownKnob Tryz.prog.godebug=none:=by kernel_rfl
theorem laidOut:laidOutB Tryz.prog=true:=by kernel_rfl
theorem lifted (os:Os) (started:os.Started) (H:Type) (enc:TypeId×Value->H) :
 ReturnsInHanded {} Tryz.checked os 8 .any (Rows.wholeFramesSpec.pre6 enc Tryz.prog Tryz.f8 Rows.wholeFramesRow.domain false) (Rows.wholeFramesSpec.post enc Tryz.prog Tryz.f8 false true false false):=by
 refine returnsInHanded_of_change_sized (C:=Tryz.checked) own started (by kernel_rfl) Tryz.func8
  (ChangeSpec.witness6 (enc:=enc) (C:=Tryz.checked) false ⟨#[],#[.agg #[.int .i64 0,.int .i64 0,.int .i64 0,.bool false,.string ⟨#[]⟩,.bool false,.string ⟨#[]⟩,.int .i64 0,.int .i64 0,.int .i64 0,.string ⟨#[]⟩,.int .i64 0,.int .i64 0,.slice none 0 0,.string ⟨#[]⟩,.int .i64 0,.int .i64 0,.bool false,.slice none 0 0,.bool false,.string ⟨#[]⟩,.int .i64 0,.int .i64 0,.slice none 0 0],.agg #[.int .i64 0,.int .i64 0,.int .i64 0,.bool false,.string ⟨#[]⟩,.bool false,.string ⟨#[]⟩,.int .i64 0,.int .i64 0,.int .i64 0,.string ⟨#[]⟩,.int .i64 0,.int .i64 0,.slice none 0 0,.string ⟨#[]⟩,.int .i64 0,.int .i64 0,.bool false,.slice none 0 0,.bool false,.string ⟨#[]⟩,.int .i64 0,.int .i64 0,.slice none 0 0],.slice none 0 0],[]⟩ 8 (by kernel_rfl) (by kernel_rfl) (by kernel_rfl) (by kernel_rfl)) ?_
 intro W base args ds gs before hval0 hW hcnd hsz0 _;have hsz:(DataW.weightsEach Tryz.prog (Tryz.f8.params.toList++Rows.wholeFramesSpec.plain.varTypes Tryz.prog) (ds++gs)).all (· <= reachBytes)=true:=hsz0;have hval: ∀ (j:Nat) t v,Tryz.f8.params[j]? = some t->args[j]? = some v->Value.okWide Tryz.prog W .any base t v:=hval0;have hW':=hW;obtain⟨p,q,hA0,hV,rfl,hfz,hnd⟩:=hW;have hA:DataW.TrodAll enc Tryz.prog W 0 (fun _=>true) true Tryz.f8.params.toList args.toList ds p:=hA0;rw[Tryz.params8] at hA hval hsz;obtain⟨v0,vs0,d0,ds0,p0,q0,hargs,rfl,rfl,h0,r0⟩:=trodAll_cons hA;obtain⟨v1,vs1,d1,ds1,p1,q1,rfl,rfl,rfl,h1,r1⟩:=trodAll_cons r0;obtain⟨v2,vs2,d2,ds2,p2,q2,rfl,rfl,rfl,h2,r2⟩:=trodAll_cons r1;obtain⟨rfl,rfl,rfl⟩:=trodAll_nil r2;obtain rfl:args= #[v0,v1,v2]:=by cases args; simp_all
 obtain⟨rfl,rfl⟩:=trodVars_none hV;have k0:=h0;have lt0: ∀ x∈p0,x.block<W.heap.size:=by obtain⟨m,hm⟩:=k0; exact DataW.trod_lt m _ _ _ hm
 obtain⟨a0,cs0,rfl,r_0,w0⟩:=Sl.opens_arg2 Tryz.underlying38 (hval 0 38 v0 rfl rfl) Sl.op_FrameFrame h0 (fun x hx=>of_decide_eq_true (List.all_eq_true.1 hsz x (Sl.weights_in 0 rfl rfl hx)));obtain⟨A0_0,c0_0,A0_1,c0_1,A0_2,c0_2,e0,r0_0,r0_1,r0_2⟩:=r_0;obtain rfl:cs0= #[.int .i64 a0.IE.IP,.int .i64 a0.IE.IO,.int .i64 a0.IE.IY,.bool a0.IE.IK.null,.string (Sl.bsOf a0.IE.IK.data),.bool a0.I0.IJ.null,.string (Sl.bsOf a0.I0.IJ.data),.int .i64 a0.I0.II,.int .i64 a0.I0.ID,.int .i64 a0.I0.IF,.string (Sl.bsOf a0.I4.IJ),.int .i64 a0.I4.ID,.int .i64 a0.I4.IF,.slice A0_0 a0.I4.IC.length c0_0,.string (Sl.bsOf a0.Jb.IJ),.int .i64 a0.Jb.ID,.int .i64 a0.Jb.IF,.bool a0.Jb.I2,.slice A0_1 a0.I1.length c0_1,.bool a0.IL.IJ.null,.string (Sl.bsOf a0.IL.IJ.data),.int .i64 a0.IL.I6,.int .i64 a0.IL.II,.slice A0_2 a0.IL.IC.length c0_2]:=by apply Array.toList_inj.1; exact e0
 have k1:=h1;have lt1: ∀ x∈p1,x.block<W.heap.size:=by obtain⟨m,hm⟩:=k1; exact DataW.trod_lt m _ _ _ hm
 obtain⟨a1,cs1,rfl,r_1,w1⟩:=Sl.opens_arg2 Tryz.underlying38 (hval 1 38 v1 rfl rfl) Sl.op_FrameFrame h1 (fun x hx=>of_decide_eq_true (List.all_eq_true.1 hsz x (Sl.weights_in 1 rfl rfl hx)));obtain⟨A1_0,c1_0,A1_1,c1_1,A1_2,c1_2,e1,r1_0,r1_1,r1_2⟩:=r_1;obtain rfl:cs1= #[.int .i64 a1.IE.IP,.int .i64 a1.IE.IO,.int .i64 a1.IE.IY,.bool a1.IE.IK.null,.string (Sl.bsOf a1.IE.IK.data),.bool a1.I0.IJ.null,.string (Sl.bsOf a1.I0.IJ.data),.int .i64 a1.I0.II,.int .i64 a1.I0.ID,.int .i64 a1.I0.IF,.string (Sl.bsOf a1.I4.IJ),.int .i64 a1.I4.ID,.int .i64 a1.I4.IF,.slice A1_0 a1.I4.IC.length c1_0,.string (Sl.bsOf a1.Jb.IJ),.int .i64 a1.Jb.ID,.int .i64 a1.Jb.IF,.bool a1.Jb.I2,.slice A1_1 a1.I1.length c1_1,.bool a1.IL.IJ.null,.string (Sl.bsOf a1.IL.IJ.data),.int .i64 a1.IL.I6,.int .i64 a1.IL.II,.slice A1_2 a1.IL.IC.length c1_2]:=by apply Array.toList_inj.1; exact e1
 have k2:=h2;have lt2: ∀ x∈p2,x.block<W.heap.size:=by obtain⟨m,hm⟩:=k2; exact DataW.trod_lt m _ _ _ hm
 obtain⟨a2,r_2,w2⟩:=Sl.opens_arg1 Tryz.underlying72 (hval 2 72 v2 rfl rfl) (Sl.op_slice 1 1 Tryz.underlying72 (by kernel_rfl) (by kernel_rfl) (by decide) (by decide) (Sl.op_u8 Tryz.underlying5)) h2 (fun x hx=>of_decide_eq_true (List.all_eq_true.1 hsz x (Sl.weights_in 2 rfl rfl hx)));obtain⟨A2,c2,e2⟩:=Sl.slice_cells r_2;injection e2 with e2;subst e2;clear hA0 hval0 hsz0 hsz;refine (Sl.f_top_WholeFrames_spec a0 A0_0 c0_0 A0_1 c0_1 A0_2 c0_2 a1 A1_0 c1_0 A1_1 c1_1 A1_2 c1_2 a2 A2 c2 true (Sl.pure_WholeFrames a0 a1 a2 w0 w1 w2) (fun _=>False) W (fun _ h=>h) (Sl.RX.reads_and (Sl.RX.reads_all r0_0) (Sl.RX.reads_and (Sl.RX.reads_all r0_1) (Sl.RX.reads_and (Sl.RX.reads_all r0_2) (Sl.RX.reads_and (Sl.RX.reads_all r1_0) (Sl.RX.reads_and (Sl.RX.reads_all r1_1) (Sl.RX.reads_and (Sl.RX.reads_all r1_2) (Sl.RX.reads_all r_2)))))))).mono fun e W' hP=> ?_;obtain⟨v,A',Ns,rfl,⟨rfl,rfl,rfl⟩,hst⟩:=hP;have bel:=Sl.St.below hst;exact⟨_,rfl,_,_,_,[],_,[],hW',trodAll_mk1 (shut_bool Tryz.underlying4 _),(trodAll_cons_mk (Below.trod laidOut (by kernel_rfl) (of_decide_eq_true (by kernel_rfl)) k0 bel lt0) (trodAll_cons_mk (Below.trod laidOut (by kernel_rfl) (of_decide_eq_true (by kernel_rfl)) k1 bel lt1) (trodAll_cons_mk (Below.trod laidOut (by kernel_rfl) (of_decide_eq_true (by kernel_rfl)) k2 bel lt2) trodAll_mk0))),rfl,bel.frame _,fun h=>by cases h⟩
theorem loopsF:(Tryz.f8.params.toList++Rows.wholeFramesSpec.plain.varTypes Tryz.prog).any (Tryz.prog.loopsFrom ·)=Rows.wholeFramesRow.loops:=by kernel_rfl
theorem closedF:joinedFacts Tryz.prog 8 Tryz.f8 Rows.wholeFramesSpec Rows.wholeFramesRow=true:=by
 unfold joinedFacts;rw[loopsF];kernel_rfl
theorem over:Rows.wholeFramesRow.holds Tryz.pinned (OpenSpec.ofChange Rows.wholeFramesSpec) :=
 OpenClaim.holds_of_wide 8 Tryz.f8 rfl rfl rfl rfl rfl rfl rfl ⟨rfl,rfl,rfl,rfl,rfl⟩ rfl rfl rfl rfl rfl (by kernel_rfl) Tryz.func8 closedF
  (of_decide_eq_true (by kernel_rfl)) (by unfold Func.isWrapper; first | (rw[if_pos (by decide +kernel)]; kernel_rfl) | (rw[if_neg (by decide +kernel)]; exact⟨rfl,rfl⟩))
  (fun os started H enc _=>lifted os started H enc)
theorem proved:Rows.WholeFramesSaid:=over
end Go.Proofs.YtheikonlgjdopaaGreat.wholeFrames
namespace Go.Proofs.YtheikonlgjdopaaGreat
theorem wholeFrames_holds:Rows.WholeFramesSaid:=wholeFrames.proved
end Go.Proofs.YtheikonlgjdopaaGreat
