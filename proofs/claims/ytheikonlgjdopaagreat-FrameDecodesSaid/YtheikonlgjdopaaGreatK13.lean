/- FrameDecodes: for every input the law returns true, and its arguments read behind the call as they did before. -/
import Derived.Test.YtheikonlgjdopaaGreatRows
import Derived.WalkKit
import Derived.ProofKit
import Derived.OpenShut
import Derived.ShutString
import Derived.ChangeOld
import Derived.Below
import Derived.SizedLaws
import Derived.Test.YtheikonlgjdopaaGreatK12
set_option maxRecDepth 100000
set_option maxHeartbeats 4000000
set_option linter.defProp false
namespace Go.Proofs.YtheikonlgjdopaaGreat.Sl
open Go.RowKit
set_option linter.unusedVariables false
set_option linter.unusedSimpArgs false
theorem GA {t d:AI} (hf:d.length<=32767) (ht:t.length<=1000000000):kF (t,0) d=some (t++(be (d.length:Int) 2++d),0):=by
 rw[vq _ _ (by simp only; omega)];have:=kw (t:=t) (b:=⟨false,d⟩) (k:=2) (lH (.inl rfl) (show -32768<=(d.length:Int) by omega) (show (d.length:Int)<=32767 by omega)) rfl (by simp only; omega);rw[pu _ _ _ ⟨by decide,by simp only; omega⟩] at this;exact this
theorem qw_l2: ∀ (l:List bh) (t:AI),(∀ p,p∈l->Bc p/\p.MK.length<=1000/\smBl p.MK)->t.length+(bJ jH l).length<=1000000->bV l (t,0)=some (t++bJ jH l,0)
 | [],t,h,hl=>by rw[bV,bJ,NQ]
 | p::l,t,h,hl=>by
  obtain⟨a,d,c⟩:=h p (.head _);rw[bJ,Nr] at hl;have hpl:=hl;simp only[jH,Nr,aH] at hpl;rw[bV,all_eq (fun x hx=>(c x hx).1) d,QX (z7 (fun x hx=>(c x hx).2)),Nm];dsimp only;rw[QX rfl,Nm,es a.1 QR,Nm,gOf_eq,Nm,kw (b:=⟨false,bJ f6 p.MK⟩) a.2.1 rfl (by simp only[Nr,aH]; show _+(4:Int).toNat + _<= _; omega),Nm];have e:(t++be p.MR (4:Int).toNat)++(be (fd (⟨false,bJ f6 p.MK⟩:Bl)) (4:Int).toNat++(⟨false,bJ f6 p.MK⟩:Bl).data)=t++jH p:=by rw[Ny]; rfl
  rw[e,qw_l2 l _ (fun x hx=>h x (.tail _ hx)) (by rw[Nr]; omega),bJ,Ny]
theorem qw_l1: ∀ (l:List aN) (t:AI),(∀ x,x∈l->x.MI.length<=32767/\yQ x/\ ∀ p,p∈x.My->p.MK.length<=1000/\smBl p.MK)->t.length+(bJ jA l).length<=1000000->bW l (t,0)=some (t++bJ jA l,0)
 | [],t,h,hl=>by rw[bW,bJ,NQ]
 | x::l,t,h,hl=>by
  obtain⟨b,a,c⟩:=h x (.head _);rw[bJ,Nr] at hl;have hpl:=hl;simp only[jA,Nr,aH] at hpl;rw[bW,GA b QR,Nm,es a.2.1 (by simp only[Nr,aH]; omega),Nm];rw[qw_l2 x.My _ (fun p hp=>⟨a.2.2 p hp,c p hp⟩) (by simp only[Nr,aH]; show _+(2 + _)+(4:Int).toNat + _<= _; omega),Nm,Nm];have d:(t++(be (x.MI.length:Int) 2++x.MI))++be (x.My.length:Int) (4:Int).toNat++bJ jH x.My=t++jA x:=by simp only[jA,Ny]; rfl
  rw[d,qw_l1 l _ (fun y hy=>h y (.tail _ hy)) (by rw[Nr]; omega),bJ,Ny]
def okBg (v:Int) (x:bf):Prop:=if v>0 then okFx x.MD/\bA x.MC 4=true/\bA x.Mx 8=true/\bA x.Mz 2=true/\eY x.MD x.MC x.Mx x.Mz v=0 else okFx x.MD/\bA x.MC 4=true/\eY x.MD x.MC x.Mx x.Mz v=0/\x.Mx= -1/\x.Mz= -1
theorem Bd (v:Int):Sp (r9 v) (Gc v) (okBg v):=by
 unfold r9;by_cases hv:v>0
 ·rw[QX hv];refine (JY v).congr (fun x=>by unfold okBg; rw[QX hv]) (fun x _=>by unfold Gc; rw[QX hv])
 ·rw[QY hv];refine (JZ v).congr (fun x=>by unfold okBg; rw[QY hv]) (fun x _=>by unfold Gc; rw[QY hv])
def okEn (x:bP):Prop:=okTx x.MD/\bA x.Mx 8=true/\bA x.Mz 2=true/\lJ x.MD x.Mx x.Mz=0
def okAd (x:bQ):Prop:=okTx x.MD/\bA x.Mx 8=true/\bA x.Mz 2=true/\yP x.Mw/\lK x.MD x.Mx x.Mz x.Mw=0
def okMs (v:Int) (l:List aU):Prop:=(bA (l.length:Int) 4=true/\ ∀ m,m∈l->okM v m)/\pd v l=0
def pi (h:eU) (f:aI):AI :=
 if h.MH=22 then Gc h.MG f.M0 else if h.MH=24 then F9 f.M3 else if h.MH=26 then encE f.M1 else if h.MH=27 then vu h.MG f.MT else pT f.MF
def tL (h:eU) (f:aI):Prop :=
 if h.MH=22 then okBg h.MG f.M0/\frB h f.M0=f else if h.MH=24 then okAd f.M3/\frA h f.M3=f else if h.MH=26 then okEn f.M1/\frE h f.M1=f
 else if h.MH=27 then okMs h.MG f.MT/\frM h f.MT=f else okQ h.MG f.MF/\frP h f.MF=f
theorem Kl (h:eU):Sp (pU h) (pi h) (tL h):=by
 unfold pU;by_cases a:h.MH=22
 ·rw[QX a];exact ((Bd h.MG).map (frB h) (fun f=>f.M0) (fun _=>rfl)).congr (fun f=>by unfold tL; rw[QX a]) (fun f _=>by unfold pi; rw[QX a])
 rw[QY a];by_cases b:h.MH=24
 ·rw[QX b];exact (DG.map (frA h) (fun f=>f.M3) (fun _=>rfl)).congr (fun f=>by unfold tL okAd; rw[QY a,QX b]) (fun f _=>by unfold pi; rw[QY a,QX b])
 rw[QY b];by_cases c:h.MH=26
 ·rw[QX c];exact (DF.map (frE h) (fun f=>f.M1) (fun _=>rfl)).congr (fun f=>by unfold tL okEn; rw[QY a,QY b,QX c]) (fun f _=>by unfold pi; rw[QY a,QY b,QX c])
 rw[QY c];by_cases d:h.MH=27
 ·rw[QX d];exact ((xL h.MG).map (frM h) (fun f=>f.MT) (fun _=>rfl)).congr (fun f=>by unfold tL okMs; rw[QY a,QY b,QY c,QX d]) (fun f _=>by unfold pi; rw[QY a,QY b,QY c,QX d])
 rw[QY d];exact ((D7 h.MG).map (frP h) (fun f=>f.MF) (fun _=>rfl)).congr (fun f=>by unfold tL; rw[QY a,QY b,QY c,QY d]) (fun f _=>by unfold pi; rw[QY a,QY b,QY c,QY d])
theorem z8 {h:eU} {f:aI} (k:tL h f):f.MA=h:=by
 unfold tL at k
 repeat' split at k
 all_goals rw[<- k.2]; rfl
def oc (f:aI):AI:=uV f.MA++pi f.MA f
def okIn (f:aI):Prop:=okH f.MA/\tL f.MA f
theorem Sp_in:Sp pIn oc okIn:=by
 refine AD.seq (π:=fun f:aI=>f.MA) (enc2:=fun f=>pi f.MA f) (ok2:=fun f=>tL f.MA f) (fun a=>(Kl a).congr (fun f=>⟨fun k=> ?_,fun k=> ?_⟩) (fun f k=> ?_))
 ·rw[z8 k]; exact⟨k,rfl⟩
 ·have:=k.1; rw[k.2] at this; exact this
 ·rw[z8 k]
theorem GB {α:Type} {p:Pr α} {enc:α->AI} {ok:α->Prop} (hs:Sp p enc ok) {s:AI} {a:α} (hp:p s 0= .ok (a,s.length)) (c:AI):s=enc a/\ok a/\p (s++c) 0= .ok (a,s.length):=by
 obtain⟨e,f,g,b,d⟩:=hs.spell s 0 a s.length (NH _) hp;rw[List.take_length,List.take_zero,NG] at b;have hb:=hs.back (s++c) c 0 a (NH _) d (by rw[List.drop_zero,<- b]);rw[Nat.zero_add,<- b] at hb;exact⟨b,d,hb⟩
def tM (f:aI):AI:=be ((oc f).length:Int) 4++oc f
def Ed (f:aI):Prop:=okIn f/\bA ((oc f).length:Int) 4=true
theorem opn_ok {m:AI} (hm:NZ pIn) (hl:m.length<=1000000) (h:(opn m).2=0):pIn m 0= .ok ((opn m).1,m.length):=by
 unfold opn sL at h ⊢
 cases hp:pIn m 0 with
 | error e =>
  rw[hp] at h;exact absurd h (hm m 0 e hl (NH _) hp)
 | ok x =>
  rw[hp] at h;simp only at h ⊢;have:=(Sp_in.spell m 0 x.1 x.2 (NH _) hp).2.1;by_cases hr:x.2<m.length
  ·rw[QX hr] at h;exact absurd h QS
  ·rw[QY hr];have:x.2=m.length:=by omega
   rw[<- this]
theorem yv {α β:Type} {p:Pr α} {enc:α->AI} {ok:α->Prop} (g:α->β) (hp:NZ p) (hs:Sp p enc ok):NZ (p.map g):=hp.bind hs (fun _=> .ret _)
theorem NZ_in:NZ pIn:=by
 refine Dy.cb.nz.bind AD (fun h=> ?_);unfold pU;by_cases a:h.MH=22
 ·rw[QX a]; exact yv _ (D9 h.MG).nz (Bd h.MG)
 rw[QY a];by_cases b:h.MH=24
 ·rw[QX b]; exact yv _ Ia.nz DG
 rw[QY b];by_cases c:h.MH=26
 ·rw[QX c]; exact yv _ H9.nz DF
 rw[QY c];by_cases d:h.MH=27
 ·rw[QX d]; exact yv _ (AL h.MG).nz (xL h.MG)
 rw[QY d];exact yv _ (I8 h.MG).nz (D7 h.MG)
theorem GC {s:AI} {q r':Nat} {f:aI} (hs:s.length<=1000000) (hq:q<=s.length) (h:Ea s q= .ok (f,r')):q<=r'/\r'<=s.length/\r'=q+(tM f).length/\s.take r'=s.take q++tM f/\Ed f:=by
 unfold Ea at h
 cases hp:bT 4 s q with
 | error e=>rw[hp] at h; exact nomatch h
 | ok x =>
  obtain⟨n,r⟩:=x;rw[hp] at h;simp only at h;obtain⟨a1,a2,a3,a4,a5⟩:=(bX 4 QS QS).spell s q n r hq hp;by_cases b:n<0
  ·rw[QX b] at h; exact nomatch h
  rw[QY b] at h;by_cases c:(s.length:Int) - r<n
  ·rw[QX c] at h; exact nomatch h
  rw[QY c] at h;by_cases a:(opn ((s.drop r).take n.toNat)).2=0
  ·rw[QX a] at h;injection h with h;obtain⟨rfl,rfl⟩:=NU h;have hml:((s.drop r).take n.toNat).length=n.toNat:=by rw[NL,Nx]; omega
   have hk:=opn_ok NZ_in QR a;obtain⟨d,g,_⟩:=GB Sp_in hk [];have hl:(oc (opn ((s.drop r).take n.toNat)).1).length=n.toNat:=by rw[<- d,hml]
   have hn:((oc (opn ((s.drop r).take n.toNat)).1).length:Int)=n:=by rw[hl]; omega
   have he:tM (opn ((s.drop r).take n.toNat)).1=be n 4++(s.drop r).take n.toNat:=by unfold tM; rw[hn,<- d]
   refine⟨by omega,by omega,?_,?_,g,by rw[hn]; exact a5⟩
   ·rw[he,Nr,hml,a3]; omega
   ·rw[he,o9,a4,Ny]
  ·rw[QY a] at h; exact nomatch h
def smF (f:aI):Prop:=wTs f.M3.Mw<=3000/\(∀ m,m∈f.MT->wTs m.Mw<=3000)/\(bJ (nB f.MA.MG) f.MT).length<=300000/\(f.MA.MH≠22->f.MA.MH≠24->f.MA.MH≠26->f.MA.MH≠27->gdQ f.MF/\(pT f.MF).length<=300000/\ ∀ t,t∈f.MF.Mw->t.MI.length<=32767/\t.My.length<=1000/\ ∀ p,p∈t.My->p.MK.length<=1000/\smBl p.MK)
theorem Jg {v:Int} {l:List aU} {t:AI} (h:okMs v l) (hw: ∀ m,m∈l->wTs m.Mw<=3000) (hl:(bJ (nB v) l).length<=300000) (ht:t.length<=100000):kR (t,0) l v=some (t++vu v l,0):=by
 unfold kR;rw[Id v l (fun m hm=>okM_W (h.1.2 m hm) (by have:=hw m hm; omega)),Nm,QX h.2,es h.1.1 QR,Nm,vv v l _ (fun m hm=>⟨h.1.2 m hm,hw m hm⟩) (by rw[Nr,aH,show (4:Int).toNat=4 from rfl]; omega),Nm,Ny];rfl
theorem q_put {v:Int} {a:aB} {t:AI} (hg:gdQ a) (h:okQ v a) (hl:(pT a).length<=300000) (ht:t.length<=100000) (hb: ∀ t,t∈a.Mw->t.MI.length<=32767/\t.My.length<=1000/\ ∀ p,p∈t.My->p.MK.length<=1000/\smBl p.MK):eH (t,0) a v=some (t++pT a,0):=by
 obtain⟨b,d,e,c,f⟩:=h;have hl':=hl;simp only[pT,Nr,aH] at hl';unfold eH;rw[I4 a v hg,Nm,QX f,kw b.1 b.2 QR,Nm,es d (by simp only[Nr,aH]; show _+(2 + _)<= _; omega),Nm,es e (by simp only[Nr,aH]; show _+(2 + _)+2<= _; omega),Nm,es c.1 (by simp only[Nr,aH]; show _+(2 + _)+2+4<= _; omega),Nm];rw[qw_l1 a.Mw _ (fun t ht=>⟨(hb t ht).1,c.2 t ht,(hb t ht).2.2⟩) (by simp only[Nr,aH]; show _+(2 + _)+2+4+4 + _<= _; omega),Nm];simp only[pT,Ny];rfl
theorem Jh {f:aI} {t:AI} (h:tL f.MA f) (hs:smF f) (ht:t.length<=100000):gt (t,0) f=some (t++pi f.MA f,0):=by
 unfold gt;unfold tL at h;unfold pi;by_cases a:f.MA.MH=22
 ·rw[QX a] at h ⊢;rw[QX a];have hb:=h.1;unfold okBg at hb;by_cases hv:f.MA.MG>0
  ·rw[QX hv] at hb;rw[xI f.M0 _ t (d7 hb.2.2.1) (d7 hb.2.2.2.1) (d7 hb.2.1) QR,QX hb.2.2.2.2];rfl
  ·rw[QY hv] at hb;rw[xI f.M0 _ t (by rw[hb.2.2.2.1]; exact wim) (by rw[hb.2.2.2.2]; exact wim) (d7 hb.2.1) QR,QX hb.2.2.1];rfl
 rw[QY a] at h ⊢;rw[QY a];by_cases b:f.MA.MH=24
 ·rw[QX b] at h ⊢;rw[QX b];obtain⟨j,e,g,i,k⟩:=h.1;rw[Ic f.M3 t (d7 e) (d7 g) (Ca i (by have:=hs.1; omega)) hs.1 QR,QX k];rfl
 rw[QY b] at h ⊢;rw[QY b];by_cases c:f.MA.MH=26
 ·rw[QX c] at h ⊢;rw[QX c];obtain⟨j,e,g,i⟩:=h.1;rw[Ib f.M1 t (d7 e) (d7 g) QR,QX i];rfl
 rw[QY c] at h ⊢;rw[QY c];by_cases d:f.MA.MH=27
 ·rw[QX d] at h ⊢;rw[QX d,Jg h.1 hs.2.1 hs.2.2.1 ht];rfl
 rw[QY d] at h ⊢;obtain⟨l,m,n⟩:=hs.2.2.2 a b c d;rw[QY d,q_put l h.1 m ht n];rfl
theorem Be {h:eU} (k:okH h):yO h=0/\h.ME.data.length<=32767:=by
 obtain⟨c,d,b,a⟩:=k;have hl:h.ME.data.length<=32767:=by
  by_cases hn:h.ME.null=true
  ·have:h.ME.data = []:=by
    unfold bw at a;rw[hn] at a;simpa using a
   rw[this]; simp
  ·have hb:fd h.ME=(h.ME.data.length:Int):=by
    unfold fd;simp[hn]
   rw[hb,xE] at b;have:=of_decide_eq_true b;omega
 unfold yO;rw[QX c,QX d,QX a,QY QR];exact⟨rfl,hl⟩
theorem Ji (h:eU):(uV h).length=10+h.ME.data.length:=by
 simp only[uV,Nr,aH]; omega
theorem put_4 {m:AI} (hl:m.length<=700000) (e:bA (m.length:Int) 4=true):(ed ([],0) (m.length:Int) 4).bind (fun a=>(zc a m).bind fun b=>(mX b).bind fun (c,d,f)=>some (c,d))=some (be (m.length:Int) 4++m,0):=by
 have hb:(be (m.length:Int) 4).length=4:=aH _ _;rw[es e (NH _),Nm,NG,show (4:Int).toNat=4 from rfl,BB _ _ (by show (be (m.length:Int) 4).length + _<= _; omega),Nm,og,lv,xq,Nm]
theorem Ee {f:aI} (h:Ed f) (hs:smF f) (hl:(oc f).length<=700000):g6 f=some (tM f,0):=by
 obtain⟨⟨a,b⟩,c⟩:=h;obtain⟨d,c2⟩:=Be a;have hb:=Jh (t:=uV f.MA) b hs (by rw[Ji]; omega);have hp:=put_4 hl c;unfold g6;rw[Dz f.MA [] (NH _) (d7 a.2.1) QR,QX d,Nm,NG,GR,Nm];dsimp only;rw[QX rfl,hb,Nm,Nm,lv,xq,Nm];dsimp only;rw[QX rfl];exact hp
def Jj (s:AI):aI×Int:=sL s (Ea s 0)
theorem Eg (s:AI) (hs:s.length<=1000000):fX s=some (Jj s):=by
 unfold fX Jj;rw[kC s QR];simp only[Nm];have c:=B_frm.run s 0 hs (NH _);rw[List.drop_zero] at c;rcases c with⟨e,st,a,b,g,d⟩ | ⟨f,r,a,b,i,h⟩
 ·rw[b,a];simp only[Nm,gP,I9 d,sL];rw[QY d,g];rfl
 ·rw[b,a];simp only[Nm,gP,Ja s r h,sL];by_cases hr:r<s.length
  ·rw[QX hr,QX hr];rfl
  ·rw[QY hr,QY hr];rfl
theorem smF_of {f:aI} (h:Ed f) (hl:(oc f).length<=3000):smF f:=by
 obtain⟨⟨n,a⟩,o⟩:=h;have hle:(pi f.MA f).length<=3000:=by
  have:(oc f).length=(uV f.MA).length+(pi f.MA f).length:=by rw[oc,Nr]
  omega
 unfold tL at a;unfold pi at hle;unfold smF;by_cases b:f.MA.MH=22
 ·rw[QX b] at a;have e:=a.2;refine⟨by rw[<- e]; exact NH _,?_,?_,fun h=>absurd b h⟩
  ·rw[<- e]; exact fun m hm=>nomatch hm
  ·rw[<- e]; simp[frB,bJ]
 rw[QY b] at a hle;by_cases c:f.MA.MH=24
 ·rw[QX c] at a hle;have e:=a.2;have hw:wTs f.M3.Mw<=3000:=by
   simp only[F9,n8,Nr,aH,lI] at hle;omega
  refine⟨hw,?_,?_,fun _ h=>absurd c h⟩
  ·rw[<- e]; exact fun m hm=>nomatch hm
  ·rw[<- e]; simp[frA,bJ]
 rw[QY c] at a hle;by_cases d:f.MA.MH=26
 ·rw[QX d] at a hle;have e:=a.2;refine⟨by rw[<- e]; exact NH _,?_,?_,fun _ _ h=>absurd d h⟩
  ·rw[<- e]; exact fun m hm=>nomatch hm
  ·rw[<- e]; simp[frE,bJ]
 rw[QY d] at a hle;by_cases g:f.MA.MH=27
 ·rw[QX g] at a hle;have e:=a.2;refine⟨by rw[<- e]; exact NH _,fun m hm=> ?_,?_,fun _ _ _ h=>absurd g h⟩
  ·have:=uZ f.MA.MG f.MT m hm;omega
  ·simp only[vu,Nr] at hle;omega
 rw[QY g] at a hle;have e:=a.2;refine⟨by rw[<- e]; exact NH _,?_,?_,fun _ _ _ _=> ?_⟩
 ·rw[<- e]; exact fun m hm=>nomatch hm
 ·rw[<- e]; simp[frP,bJ]
 ·have hq:=a.1;obtain⟨q,r,j⟩:=Gz hq QR;have hq2:=hq;obtain⟨s,u,v,i,w⟩:=hq2;have x:=j7 (ok:=yQ) tK f.MF.Mw i.2;simp only[pT,Nr,aH] at hle;refine⟨Kh hq (by simp only[pT,Nr,aH]; omega),by simp only[pT,Nr,aH]; omega,fun t ht=> ?_⟩;have k:=gJ (enc:=jA) f.MF.Mw t ht;have y:=j7 (ok:=Bc) tJ t.My (i.2 t ht).2.2;simp only[jA,Nr,aH] at k;refine⟨by omega,by omega,fun p hp=> ?_⟩;have l:=gJ (enc:=jH) t.My p hp;have z:=vf ((i.2 t ht).2.2 p hp).2.2;simp only[jH,Nr,aH] at l;exact⟨by omega,((j t ht).2 p hp).2.2⟩
def qw (h:eU):d9:=⟨h.MH,h.MG,h.MO,h.ME⟩
def z20:aQ:=⟨⟨false,[]⟩,0,0,[]⟩
def nF (f:aI):aI :=
 if f.MA.MH=22 then frB f.MA f.M0 else if f.MA.MH=24 then frA f.MA f.M3 else if f.MA.MH=26 then frE f.MA f.M1 else if f.MA.MH=27 then frM f.MA f.MT else frP f.MA f.MF
def ofF (f:aI):cA :=
 if f.MA.MH=0 then ⟨qw f.MA,zR,[],ofQ f.MF⟩ else if f.MA.MH=22 then ⟨qw f.MA,gB f.M0,[],z20⟩ else if f.MA.MH=24 then ⟨qw f.MA,gA f.M3,[],z20⟩
 else if f.MA.MH=26 then ⟨qw f.MA,gE f.M1,[],z20⟩ else if f.MA.MH=27 then ⟨qw f.MA,zR,f.MT.map toR,z20⟩ else ⟨qw f.MA,zR,[],z20⟩
theorem Km (f:aI):(nF f).MA=f.MA:=by
 unfold nF
 repeat' split
 all_goals rfl
theorem of21 (f:aI) (hm:f.MT.length<=1000000) (hq:f.MA.MH=0->iD f.MF=some (ofQ f.MF)):j2 f=some (ofF f):=by
 unfold j2 ofF;by_cases e:f.MA.MH=0
 ·rw[QX e,QX e,hq e]; rfl
 rw[QY e,QY e];by_cases a:f.MA.MH=22
 ·rw[QX a,QX a]; rfl
 rw[QY a,QY a];by_cases b:f.MA.MH=24
 ·rw[QX b,QX b]; rfl
 rw[QY b,QY b];by_cases c:f.MA.MH=26
 ·rw[QX c,QX c]; rfl
 rw[QY c,QY c];by_cases d:f.MA.MH=27
 ·rw[QX d,QX d,of_eq f.MT hm]; rfl
 rw[QY d,QY d];rfl
theorem z9 {h:eU} (k:yO h=0):(h.MH=0/\(h.MG=3\/h.MG=4))\/((h.MH=22\/h.MH=24\/h.MH=26\/h.MH=27)/\(h.MG=0\/h.MG=1)):=by
 have hv:=(Hv k).1;unfold gH gY at hv;by_cases a:h.MH=0
 ·simp[a] at hv;exact .inl ⟨a,by omega⟩
 by_cases b:h.MH=22
 ·simp[b] at hv;exact .inr ⟨.inl b,by omega⟩
 by_cases c:h.MH=24
 ·simp[c] at hv;exact .inr ⟨.inr (.inl c),by omega⟩
 by_cases d:h.MH=26
 ·simp[d] at hv;exact .inr ⟨.inr (.inr (.inl d)),by omega⟩
 by_cases e:h.MH=27
 ·simp[e] at hv;exact .inr ⟨.inr (.inr (.inr e)),by omega⟩
 simp[a,b,c,d,e] at hv
theorem nF_22 {f:aI} (h:f.MA.MH=22):nF f=frB f.MA f.M0:=by unfold nF; rw[QX h]
theorem nF_24 {f:aI} (h:f.MA.MH=24):nF f=frA f.MA f.M3:=by unfold nF; rw[QY QR,QX h]
theorem nF_26 {f:aI} (h:f.MA.MH=26):nF f=frE f.MA f.M1:=by unfold nF; rw[QY QR,QY QR,QX h]
theorem nF_27 {f:aI} (h:f.MA.MH=27):nF f=frM f.MA f.MT:=by unfold nF; rw[QY QR,QY QR,QY QR,QX h]
theorem nF_0 {f:aI} (h:f.MA.MH=0):nF f=frP f.MA f.MF:=by unfold nF; rw[QY QR,QY QR,QY QR,QY QR]
def outR (x:Except Int (aL×Nat)):aL×Int×Int:=match x with
 | .error e=>(zR,0,e)
 | .ok (x,r)=>(x,(r:Int),0)
theorem Eh (v:Int) (hv:v=0\/v=1) (s:AI) (hs:s.length<=1000000):ji 22 v s=some (outR (lL 22 v s 0)):=by
 unfold ji;have i:=nw s 0 2 QS QS (NH _);rw[List.drop_zero] at i;rw[iY _ _ ⟨by decide,by decide,by omega⟩,Nm,show (2:Int).toNat=2 from rfl];rcases i with⟨e,a,o,f⟩ | ⟨b,m,a,u,w,f⟩
 ·have:lL 22 v s 0= .error e:=by unfold lL; rw[QX rfl]; split <;> exact Pr.bind_err (Pr.bind_err a)
  rw[f,this];simp only;rw[QY o];rfl
 ·have y:(if b.null=true then some false else some false)=some false:=by split <;> rfl
  rw[f];simp only[if_true];rw[y,Nm,QY QS,show ((m - 0:Nat):Int)=(m:Int) by omega,QX QR];by_cases j:(s.length:Int) - (m:Int)<4
  ·have:lL 22 v s 0= .error 1:=by
    unfold lL;rw[QX rfl];have c:bT 4 s m= .error 1:=j8 QR;split
    ·exact Pr.bind_err (by rw[xG,Pr.bind_of a,Pr.bind_err c])
    ·exact Pr.bind_err (by rw[zt,Pr.bind_of a,Pr.bind_err c])
   rw[QX j,this];rfl
  have c:bT 4 s m= .ok (bC ((s.drop m).take 4),m+4):=gy QR;have p:((m:Int)+4).toNat=m+4:=by omega
  rw[QY j,QX QR,QX QR,p,NR,Nat.add_sub_cancel_left,dc _ (by rw[NL]; omega),Nm,QX QR];generalize bC ((s.drop m).take 4)=T at c ⊢;rcases hv with rfl | rfl
  ·rw[QY QS,rt 22 0 (.inl rfl) _ (fun h=>absurd rfl h) (by simp) (by simp),Nm];have hp:lL 22 0 s 0=((if eY b T (-1) (-1) 0=0 then Pr.ret ⟨b,T,-1,-1⟩ else Pr.err (eY b T (-1) (-1) 0)).map gB) s (m+4):=by
    unfold lL;rw[QX rfl,QY QS,Pr.map,Pr.map,Pr.bind,Pr.bind,zt,Pr.bind_of a,Pr.bind_of c]
   have hc:Gd 22 0 ⟨b,T,-1,-1,[],false⟩=eY b T (-1) (-1) 0:=rfl;rw[hp,hc];by_cases hz:eY b T (-1) (-1) 0=0
   ·rw[QX hz,QX hz];have g:(m:Int)+4=((m+4:Nat):Int):=by omega
    rw[g];rfl
   ·rw[QY hz,QY hz];rfl
  ·rw[QX rfl,QX QR];by_cases d:(s.length:Int) - ((m:Int)+4)<10
   ·have:lL 22 1 s 0= .error 1:=by
     unfold lL;rw[QX rfl,QX QS];refine Pr.bind_err ?_;rw[xG,Pr.bind_of a,Pr.bind_of c];by_cases q:s.length<m+4+8
     ·rw[Pr.bind_err (j8 q)]
     ·rw[Pr.bind_of (gy (k:=8) QR),Pr.bind_err (j8 QR)]
    rw[QX d,this];rfl
   have l:bT 8 s (m+4)= .ok (bC ((s.drop (m+4)).take 8),m+4+8):=gy QR;have n:bT 2 s (m+4+8)= .ok (bC ((s.drop (m+4+8)).take 2),m+4+8+2):=gy QR;have r:((m:Int)+4+8).toNat=m+4+8:=by omega
   have t:((m:Int)+4+10).toNat=m+4+8+2:=by omega
   rw[QY d,QX QR,QX QR,r,Nat.add_sub_cancel_left,dc _ (by rw[NL]; omega),Nm,QX QR,QX QR,QX QR,t,Nat.add_sub_cancel_left,dc _ (by rw[NL]; omega),Nm,QX QR];generalize bC ((s.drop (m+4)).take 8)=A at l ⊢;generalize bC ((s.drop (m+4+8)).take 2)=B at n ⊢;rw[rt 22 1 (.inr rfl) _ (fun h=>absurd rfl h) (by simp) (by simp),Nm];have hp:lL 22 1 s 0=((if eY b T A B 1=0 then Pr.ret ⟨b,T,A,B⟩ else Pr.err (eY b T A B 1)).map gB) s (m+4+8+2):=by
    unfold lL;rw[QX rfl,QX QS,Pr.map,Pr.map,Pr.bind,Pr.bind,xG,Pr.bind_of a,Pr.bind_of c,Pr.bind_of l,Pr.bind_of n]
   have hc:Gd 22 1 ⟨b,T,A,B,[],false⟩=eY b T A B 1:=rfl;rw[hp,hc];by_cases hz:eY b T A B 1=0
   ·rw[QX hz,QX hz];have g:(m:Int)+4+10=((m+4+8+2:Nat):Int):=by omega
    rw[g];rfl
   ·rw[QY hz,QY hz];rfl
theorem Mv {α β γ:Type} {p:Pr α} {f:α->Pr β} {g:β->γ} {s:AI} {q r:Nat} {a:α} (h:p s q= .ok (a,r)):((p.bind f).map g) s q=((f a).map g) s r:=by
 unfold Pr.map Pr.bind;rw[h]
theorem Fu {s:AI} {m:Nat} {β:Type} (h:s.length<m+10) (f:Int->Int->Pr β):((bT 8).bind fun p=>(bT 2).bind fun e=>f p e) s m= .error 1:=by
 by_cases a:s.length<m+8
 ·rw[Pr.bind_err (j8 a)]
 ·rw[Pr.bind_of (gy (k:=8) QR),Pr.bind_err (j8 QR)]
theorem GD (k v:Int) (hk:k=24\/k=26) (hv:v=0\/v=1) (s:AI) (hs:s.length<=1000000):ji k v s=some (outR (lL k v s 0)):=by
 have d: ¬ k=22:=by omega
 unfold ji;have p:=nw s 0 2 QS QS (NH _);rw[List.drop_zero] at p;rw[iY _ _ ⟨by decide,by decide,by omega⟩,Nm,show (2:Int).toNat=2 from rfl];have hP: ∀ e,jy s 0= .error e->lL k v s 0= .error e:=by
  intro e h;unfold lL;rw[QY d];split
  ·exact Pr.bind_err (by rw[rX,Pr.bind_err h])
  ·exact Pr.bind_err (by rw[rW,Pr.bind_err h])
 rcases p with⟨e,f,w,i⟩ | ⟨b,m,f,E,F,i⟩
 ·have:jy s 0= .error e:=by rw[jy,fZ,Pr.bind_err f]
  rw[i,hP e this];simp only;rw[QY w];rfl
 ·rw[i];simp only[if_true,QY d];by_cases hb:b.null=true
  ·have:jy s 0= .error 4:=by rw[jy,fZ,Pr.bind_of f,QX hb]; rfl
   rw[QX hb,Nm,QX rfl,hP 4 this];rfl
  have pt:jy s 0= .ok (b.data,m):=by rw[jy,fZ,Pr.bind_of f,QY hb]; rfl
  have hbf:b.null=false:=by simpa using hb
  rw[QY hb,Nm,QY QS,show ((m - 0:Nat):Int)=(m:Int) by omega,QX QR];by_cases g:(s.length:Int) - (m:Int)<10
  ·have:lL k v s 0= .error 1:=by
    unfold lL;rw[QY d];split
    ·exact Pr.bind_err (by rw[rX,Pr.bind_of pt]; exact Fu QR _)
    ·exact Pr.bind_err (by rw[rW,Pr.bind_of pt]; exact Fu QR _)
   rw[QX g,this];rfl
  have j:bT 8 s m= .ok (bC ((s.drop m).take 8),m+8):=gy QR;have n:bT 2 s (m+8)= .ok (bC ((s.drop (m+8)).take 2),m+8+2):=gy QR;have x:((m:Int)+8).toNat=m+8:=by omega
  have z:((m:Int)+10).toNat=m+8+2:=by omega
  rw[QY g,QX QR,QX QR,x,NR,Nat.add_sub_cancel_left,dc _ (by rw[NL]; omega),Nm,QX QR,QX QR,QX QR,z,Nat.add_sub_cancel_left,dc _ (by rw[NL]; omega),Nm,QX QR];generalize bC ((s.drop m).take 8)=A at j ⊢;generalize bC ((s.drop (m+8)).take 2)=B at n ⊢;rcases hk with rfl | rfl
  ·rw[QX rfl,QX QR,xx _ (by rw[Nx]; omega),Nm];have hsh:=rq.zero (s:=s) (q:=m+8+2) QR;have hp:lL 24 v s 0=((rV.bind fun l=>if lK b.data A B l=0 then Pr.ret ⟨b.data,A,B,l⟩ else Pr.err (lK b.data A B l)).map gA) s (m+8+2):=by
    unfold lL;rw[QY QS,QX rfl,Pr.map,Pr.map,Pr.bind,Pr.bind,rX,Pr.bind_of pt,Pr.bind_of j,Pr.bind_of n]
   rw[hp]
   cases ht:fR 4 6 eQ (s.drop (m+8+2)) 0 with
   | error e =>
    rw[ht] at hsh;have he:e≠0:=BZ (by rw[Nx]; omega) (NH _) ht;simp only;rw[QY he,Pr.map,Pr.bind_err (Pr.bind_err hsh)];rfl
   | ok y =>
    obtain⟨l,r⟩:=y;rw[ht] at hsh;have hr:=(ky.spell _ _ _ _ (NH _) ht).2.1;rw[Nx] at hr;have hwl:=DD _ _ _ _ (by rw[Nx]; omega) (NH _) ht;have hxl: ∀ t,t∈l->t.My.length<=1000000/\t.MI.length<=1000000:=by
     intro t htm;have a:=mP (enc:=pc) l t htm;have C:(pc t).length=wT t:=xC t;unfold wT at C;have D:=(ky.spell _ _ _ _ (NH _) ht).2.2.1;rw[Nr,aH] at D;omega
    simp only[if_true];rw[QX QR,rt 24 v hv _ (fun _=>hbf) hwl.2 hxl,Nm];have hsh2:rV s (m+8+2)= .ok (l,m+8+2+r):=hsh;have hc:Gd 24 v ⟨b,0,A,B,l,false⟩=lK b.data A B l:=rfl;have hpp:((rV.bind fun l=>if lK b.data A B l=0 then Pr.ret (⟨b.data,A,B,l⟩:bQ) else Pr.err (lK b.data A B l)).map gA) s (m+8+2)=((if lK b.data A B l=0 then Pr.ret (⟨b.data,A,B,l⟩:bQ) else Pr.err (lK b.data A B l)).map gA) s (m+8+2+r):=by
     exact Mv hsh2
    rw[hc,hpp];by_cases hz:lK b.data A B l=0
    ·have o:(m:Int)+10+(r:Int)=((m+8+2+r:Nat):Int):=by omega
     have hbb:b=⟨false,b.data⟩:=by rw[<- hbf]
     rw[QX hz,QX hz,o];show some ((⟨b,0,A,B,l,false⟩:aL),_)=some ((⟨⟨false,b.data⟩,0,A,B,l,false⟩:aL),_);rw[<- hbb]
    ·rw[QY hz,QY hz];rfl
  ·rw[QY QS,QX rfl,QX QR];have hp:lL 26 v s 0=((le.bind fun c=>if lJ b.data A B=0 then Pr.ret ⟨b.data,A,B,c⟩ else Pr.err (lJ b.data A B)).map gE) s (m+8+2):=by
    unfold lL;rw[QY QS,QY QS,Pr.map,Pr.map,Pr.bind,Pr.bind,rW,Pr.bind_of pt,Pr.bind_of j,Pr.bind_of n]
   rw[hp];by_cases a:(s.length:Int) - ((m:Int)+10)<1
   ·rw[QX a,Pr.map,Pr.bind_err (Pr.bind_err (e:=1) (by rw[le,Pr.bind_err (j8 QR)]))];rfl
   obtain⟨c,hc⟩: ∃ c,s[m+8+2]? = some c:=⟨_,List.getElem?_eq_getElem QR⟩;have u:bT 1 s (m+8+2)= .ok (sgn c,m+8+2+1):=by
    rw[gy QR,bY hc];rfl
   rw[QY a,QX QR,hc,Nm];have hcl:=c.toNat_lt;by_cases hg:(c.toNat:Int)>1
   ·have hs1: ¬ sgn c=0/\ ¬ sgn c=1:=by unfold sgn; split <;> omega
    rw[QX hg,Pr.map,Pr.bind_err (Pr.bind_err (e:=11) (by rw[le,Pr.bind_of u,QY hs1.1,QY hs1.2]; rfl))];rfl
   ·rw[QY hg,QX QR];have hb1:le s (m+8+2)= .ok (decide ((c.toNat:Int)=1),m+8+2+1):=by
     rw[le,Pr.bind_of u];by_cases a:(c.toNat:Int)=1
     ·have:sgn c=1:=by unfold sgn; rw[QX QR]; exact a
      rw[this,Nn a];rfl
     ·have:sgn c=0:=by unfold sgn; rw[QX QR]; omega
      rw[this,Np a];rfl
    have hpp:((le.bind fun c=>if lJ b.data A B=0 then Pr.ret (⟨b.data,A,B,c⟩:bP) else Pr.err (lJ b.data A B)).map gE) s (m+8+2)=((if lJ b.data A B=0 then Pr.ret (⟨b.data,A,B,decide ((c.toNat:Int)=1)⟩:bP) else Pr.err (lJ b.data A B)).map gE) s (m+8+2+1):=by
     exact Mv hb1
    have hcc:Gd 26 v ⟨b,0,A,B,[],decide ((c.toNat:Int)=1)⟩=lJ b.data A B:=rfl;have o:(m:Int)+10+1=((m+8+2+1:Nat):Int):=by omega
    have hbb:b=⟨false,b.data⟩:=by rw[<- hbf]
    rw[rt 26 v hv _ (fun _=>hbf) (by simp) (by simp),Nm,hcc,hpp,o,ite_self];by_cases hz:lJ b.data A B=0
    ·rw[QX hz,QX hz];show some ((⟨b,0,A,B,[],decide ((c.toNat:Int)=1)⟩:aL),_)=some ((⟨⟨false,b.data⟩,0,A,B,[],decide ((c.toNat:Int)=1)⟩:aL),_);rw[<- hbb]
    ·rw[QY hz,QY hz];rfl
theorem Jk (k v:Int) (hk:k=22\/k=24\/k=26) (hv:v=0\/v=1) (s:AI) (hs:s.length<=1000000):ji k v s=some (outR (lL k v s 0)):=by
 rcases hk with rfl | hk
 ·exact Eh v hv s hs
 ·exact GD k v hk hv s hs
theorem yw (r:aL) (a:r.Mw.length<=1000000) (b: ∀ t,t∈r.Mw->t.My.length<=140737488355328):kf r r=some true:=by
 unfold kf;rw[QX rfl,QX rfl,QX rfl,QX rfl,QX rfl,BX _ _ a b,vr];cases r.MU <;> rfl
theorem Jl:mM=some true:=by kernel_rfl
theorem nH:eg z20 z20=some true:=by
 have:=vH (b:=zQ) zQ_gd;rw[yl] at this;exact this
theorem pj:jk [] []=some true:=by
 have:=Cc [] [] QS (fun m hm=>absurd hm List.not_mem_nil);exact this
theorem Jm:iD zQ=some z20:=Ft zQ_gd
theorem GE:eg z20 (⟨(⟨false,[]⟩:Bl),0,0,[]⟩:aQ)=some true:=nH
theorem Aa {f:aI} (hk:f.MA.MH=0\/f.MA.MH=22\/f.MA.MH=24\/f.MA.MH=26\/f.MA.MH=27):gw (nF f)=some true:=by
 unfold gw;rw[Km];have o:=Jm;have s:=GE;rcases hk with k | k | k | k | k
 ·rw[nF_0 k];simp[k,frP,zB,zA,zE]
 ·rw[nF_22 k];simp only[k,frB,zA,zE,o,s,Nm,if_true,if_false,Ov];simp
 ·rw[nF_24 k];simp only[k,frA,zB,zE,o,s,Nm,if_true,if_false,Ov];simp
 ·rw[nF_26 k];simp only[k,frE,zB,zA,o,s,Nm,if_true,if_false,Ov];simp
 ·rw[nF_27 k];simp only[k,frM,zB,zA,zE,o,s,Nm,if_true,if_false,Ov];simp
theorem sM {α:Type} (c:Prop) [Decidable c] (a:α) (e:Int):Sh (if c then (Pr.ret a:Pr α) else Pr.err e):=by
 split
 ·exact .ret _
 ·exact .err _
theorem Fv:Sh le:=(iB 1).bind (bX 1 QS QS) fun n=>by
 split
 ·exact .ret _
 ·exact sM _ _ _
theorem Kn (v:Int):Sh (r9 v):=by
 unfold r9;split
 ·exact (q9 2 QS QS).bind (eJ 2 QS QS) fun b=>(iB 4).bind (bX 4 QS QS) fun t=>(iB 8).bind (bX 8 QS QS) fun p=>(iB 2).bind (bX 2 QS QS) fun e=>sM _ _ _
 ·exact (q9 2 QS QS).bind (eJ 2 QS QS) fun b=>(iB 4).bind (bX 4 QS QS) fun t=>sM _ _ _
theorem Ko:Sh rX:=wt.bind ld fun d=>(iB 8).bind (bX 8 QS QS) fun p=>(iB 2).bind (bX 2 QS QS) fun e=>rq.bind ky fun l=>sM _ _ _
theorem Kp:Sh rW:=wt.bind ld fun d=>(iB 8).bind (bX 8 QS QS) fun p=>(iB 2).bind (bX 2 QS QS) fun e=>Fv.bind wu fun c=>sM _ _ _
theorem Kq (v:Int):Sh (kz v):=(iB 8).bind (bX 8 QS QS) fun p=>(iB 2).bind (bX 2 QS QS) fun e=>Fv.bind wu fun c=>rq.bind ky fun l=>by
 by_cases h:v>0
 ·rw[QX h]; exact (iB 4).bind (bX 4 QS QS) fun k=> .ret _
 ·rw[QY h]; exact .ret _
theorem Jn (v:Int):Sh (g9 v):=(xt 4 15 QS QS (Kq v) (EL v)).bind (EN v) fun l=>sM _ _ _
theorem Kr:Sh j5:=(iB 4).bind (bX 4 QS QS) fun i=>(AE (q9 4 QS QS) (eJ 4 QS QS)).bind yt fun d=>by
 unfold r8;split
 ·exact .err _
 ·exact .ret _
theorem GF:Sh eR:=wt.bind ld fun nm=>(xt 4 8 QS QS Kr CG).bind vg fun ps=> .ret _
theorem Sh_prq (v:Int):Sh (qv v):=(q9 2 QS QS).bind (eJ 2 QS QS) fun id=>(iB 2).bind (bX 2 QS QS) fun a=>(iB 4).bind (bX 4 QS QS) fun t=>(xt 4 6 QS QS GF z4).bind nE fun l=>sM _ _ _
def yR (e:Int):gC:=⟨⟨⟨0,0,0,⟨false,[]⟩⟩,zR,[],z20⟩,0,e⟩
def gotX {α:Type} (m:AI) (q n:Int) (F:α->cA):α×Int×Int->Option gC
 | (x,k,e)=>if e=0 then (if A0 (q+k) then (if (q+k)<n then some (yR 2) else (if A0 (4+n) then some ⟨F x,4+n,0⟩ else none)) else none) else some (yR e)
def outG (m:AI) (x:aI×Int):gC:=if x.2=0 then ⟨ofF x.1,((4+m.length:Nat):Int),0⟩ else yR x.2
theorem yx {α β:Type} {p:Pr α} {enc:α->AI} {ok:α->Prop} (hs:Sp p enc ok) (hsh:Sh p) (hnz:NZ p) (g:α->aI) {R:Option (β×Int×Int)} {F:β->cA} {G:α->β} {z:β} (m:AI) (r:Nat) (hm:m.length<=1000000) (hr:r<=m.length)
 (hR:R=some (match p (m.drop r) 0 with | .error e=>(z,0,e) | .ok (x,n)=>(G x,(n:Int),0))) (hF: ∀ x,F (G x)=ofF (g x)):R.bind (gotX m r (m.length:Int) F)=some (outG m (sL m ((p.map g) m r))):=by
 have hd:(m.drop r).length=m.length - r:=Nx;rw[hR,Nm,Pr.map]
 cases hp:p (m.drop r) 0 with
 | error e =>
  have he:=hnz (m.drop r) 0 e QR (NH _) hp;have a:p m r= .error e:=by rw[hsh.zero hr,hp]; rfl
  rw[Pr.bind_err a];simp only[gotX];rw[QY he];exact congrArg some (QY (c:=e=0) he).symm
 | ok x =>
  obtain⟨x,n⟩:=x;have a:p m r= .ok (x,r+n):=by rw[hsh.zero hr,hp]; rfl
  have hn:=(hs.spell _ _ _ _ (NH _) hp).2.1;rw[Pr.bind_of a];simp only[gotX,sL,Pr.ret];rw[QX trivial,QX QR];by_cases c:r+n<m.length
  ·rw[QX QR,QX c];rfl
  ·rw[QY QR,QY c,QX QR,hF];simp only[outG,if_true];have e:(4:Int)+(m.length:Int)=((4+m.length:Nat):Int):=by omega
   rw[e]
theorem Ks {m:AI} {h:eU} {r:Nat} (hp:tw m 0= .ok (h,r)):r<=m.length/\((h.MH=0/\(h.MG=3\/h.MG=4))\/((h.MH=22\/h.MH=24\/h.MH=26\/h.MH=27)/\(h.MG=0\/h.MG=1))):=by
 obtain⟨-,a,-,-,b⟩:=AD.spell _ _ _ _ (NH _) hp;exact⟨a,z9 (Be b).1⟩
theorem ofF_P {h:eU} (k:h.MH=0) (x:aB):ofF (frP h x)=⟨qw h,zR,[],ofQ x⟩:=by
 unfold ofF;rw[QX (show (frP h x).MA.MH=0 from k)];rfl
theorem ofF_B {h:eU} (k:h.MH=22) (x:bf):ofF (frB h x)=⟨qw h,gB x,[],z20⟩:=by
 have e:(frB h x).MA.MH=h.MH:=rfl;unfold ofF;rw[e,QY QR,QX k];rfl
theorem ofF_A {h:eU} (k:h.MH=24) (x:bQ):ofF (frA h x)=⟨qw h,gA x,[],z20⟩:=by
 have e:(frA h x).MA.MH=h.MH:=rfl;unfold ofF;rw[e,QY QR,QY QR,QX k];rfl
theorem ofF_E {h:eU} (k:h.MH=26) (x:bP):ofF (frE h x)=⟨qw h,gE x,[],z20⟩:=by
 have e:(frE h x).MA.MH=h.MH:=rfl;unfold ofF;rw[e,QY QR,QY QR,QY QR,QX k];rfl
theorem ofF_M {h:eU} (k:h.MH=27) (x:List aU):ofF (frM h x)=⟨qw h,zR,x.map toR,z20⟩:=by
 have e:(frM h x).MA.MH=h.MH:=rfl;unfold ofF;rw[e,QY QR,QY QR,QY QR,QY QR,QX k];rfl
theorem Jo (s:AI) (hs:s.length<=1000000):nl s=some (match Ea s 0 with | .error e=>yR e | .ok (f,r)=>⟨ofF f,(r:Int),0⟩):=by
 unfold nl Ea;by_cases t:(s.length:Int)<4
 ·rw[QX t,j8 QR];rfl
 rw[QY t,QX QR,dc _ (by rw[NL]; omega),Nm,gy (k:=4) (s:=s) (q:=0) QR];simp only[List.drop_zero,Nat.zero_add];generalize hn:bC (s.take 4)=n;by_cases g:n<0
 ·rw[QX g,QX g];rfl
 rw[QY g,QY g,QX QR];by_cases u:n>(s.length:Int) - 4
 ·rw[QX u,QX (show (s.length:Int) - ((4:Nat):Int)<n by omega)];rfl
 rw[QY u,QY (show ¬ ((s.length:Int) - ((4:Nat):Int)<n) by omega),QX QR,QX QR,show (4+n).toNat - 4=n.toNat by omega];have hm:((s.drop 4).take n.toNat).length=n.toNat:=by rw[NL,Nx]; omega
 generalize (s.drop 4).take n.toNat=m at hm ⊢;rw[Ht m QR,Nm];have hn':n=(m.length:Int):=by omega
 have hend: ∀ {x:aI×Int},opn m=x->(match (if (opn m).2=0 then Except.ok ((opn m).1,4+n.toNat) else Except.error (opn m).2:Except Int (aI×Nat)) with | .error e=>yR e | .ok (f,r)=>(⟨ofF f,(r:Int),0⟩:gC))=outG m x:=by
  rintro⟨f,e⟩ hx;rw[hx];unfold outG;simp only;by_cases c:e=0
  ·rw[QX c,QX c,<- hm]
  ·rw[QY c,QY c]
 cases hp:tw m 0 with
 | error e =>
  have he:=Dy.cb.nz m 0 e QR (NH _) hp;have ho:opn m=(zF,e):=by
   unfold opn pIn;rw[Pr.bind_err hp];rfl
  rw[hend ho];unfold outG;simp only;rw[QY he,QY he];rfl
 | ok x =>
  obtain⟨h,r⟩:=x;obtain⟨hr,hv⟩:=Ks hp;have ho:opn m=sL m (pU h m r):=by
   unfold opn pIn;rw[Pr.bind_of hp]
  rw[hend ho];simp only[if_true];have hrr:0<=(r:Int)/\r<=m.length:=⟨by omega,hr⟩;simp only[NR];have hd:(m.drop r).length=m.length - r:=Nx;rw[hn'];unfold pU;by_cases j:h.MH=0
  ·rw[QX j,QX hrr,QY (show ¬ h.MH=22 by omega),QY (show ¬ h.MH=24 by omega),QY (show ¬ h.MH=26 by omega),QY (show ¬ h.MH=27 by omega)];refine yx (D7 _) (Sh_prq _) (I8 _).nz (frP h) (z:=zR20) (G:=ofQ) (F:=fun x=>⟨qw h,zR,[],x⟩) m r QR hr ?_ (fun x=>(ofF_P j x).symm);rcases Je (m.drop r) QR h.MG QR with⟨e,o,v,p⟩ | ⟨x,n',o,v,p⟩
   ·rw[p,o]
   ·rw[p,o]
  rw[QY j];by_cases d:h.MH=27
  ·rw[QX d,QX hrr,QY (show ¬ h.MH=22 by omega),QY (show ¬ h.MH=24 by omega),QY (show ¬ h.MH=26 by omega),QX d];refine yx (xL _) (Jn _) (AL _).nz (frM h) (G:=fun l=>l.map toR) (F:=fun x=>⟨qw h,zR,x,z20⟩) (z := []) m r QR hr ?_ (fun x=>(ofF_M d x).symm);rw[Ig h.MG QR (m.drop r) QR];cases g9 h.MG (m.drop r) 0 <;> rfl
  rw[QY d,QX hrr,Jk h.MH h.MG QR QR (m.drop r) QR];by_cases a:h.MH=22
  ·rw[QX a];refine yx (Bd _) (Kn _) (D9 _).nz (frB h) (G:=gB) (F:=fun x=>⟨qw h,x,[],z20⟩) (z:=zR) m r QR hr ?_ (fun x=>(ofF_B a x).symm);have e:lL h.MH h.MG=(r9 h.MG).map gB:=by
    unfold lL r9;rw[QX a];split <;> rfl
   rw[e,Pr.map]
   cases hq:r9 h.MG (m.drop r) 0 with
   | error e=>rw[Pr.bind_err hq]; rfl
   | ok x=>rw[Pr.bind_of hq]; rfl
  rw[QY a];by_cases b:h.MH=24
  ·rw[QX b];refine yx DG Ko Ia.nz (frA h) (G:=gA) (F:=fun x=>⟨qw h,x,[],z20⟩) (z:=zR) m r QR hr ?_ (fun x=>(ofF_A b x).symm);have e:lL h.MH h.MG=rX.map gA:=by
    unfold lL;rw[QY a,QX b]
   rw[e,Pr.map]
   cases hq:rX (m.drop r) 0 with
   | error e=>rw[Pr.bind_err hq]; rfl
   | ok x=>rw[Pr.bind_of hq]; rfl
  have i:h.MH=26:=by omega
  rw[QY b,QX i];refine yx DF Kp H9.nz (frE h) (G:=gE) (F:=fun x=>⟨qw h,x,[],z20⟩) (z:=zR) m r QR hr ?_ (fun x=>(ofF_E i x).symm);have e:lL h.MH h.MG=rW.map gE:=by
   unfold lL;rw[QY a,QY b]
  rw[e,Pr.map]
  cases hq:rW (m.drop r) 0 with
  | error e=>rw[Pr.bind_err hq]; rfl
  | ok x=>rw[Pr.bind_of hq]; rfl
theorem CI {f:aI} (h:Ed f):f.MA.MH=0\/f.MA.MH=22\/f.MA.MH=24\/f.MA.MH=26\/f.MA.MH=27:=by
 have:=z9 (Be h.1.1).1;omega
theorem rd_nF {f:aI} (h:Ed f):nF f=f:=by
 have a:=h.1.2;unfold tL at a;rcases CI h with k | k | k | k | k
 ·rw[QY QR,QY QR,QY QR,QY QR] at a;rw[nF_0 k];exact a.2
 ·rw[QX k] at a;rw[nF_22 k];exact a.2
 ·rw[QY QR,QX k] at a;rw[nF_24 k];exact a.2
 ·rw[QY QR,QY QR,QX k] at a;rw[nF_26 k];exact a.2
 ·rw[QY QR,QY QR,QY QR,QX k] at a;rw[nF_27 k];exact a.2
theorem rd_ml {f:aI} (hs:smF f):f.MT.length<=1000000:=by
 have h:=hs.2.2.1;have: ∀ l:List aU,l.length<=(bJ (nB f.MA.MG) l).length:=by
  intro l
  induction l with
  | nil=>exact NH _
  | cons m l ih =>
   rw[bJ,Nr,NB];have:1<=(nB f.MA.MG m).length:=by simp only[nB,Nr,aH]; omega
   omega
 have:=this f.MT;omega
theorem rd_gd {f:aI} (hs:smF f) (k:f.MA.MH=0):gdQ f.MF:=(hs.2.2.2 QR QR QR QR).1
theorem rd_of {f:aI} (hs:smF f):j2 f=some (ofF f):=of21 f (rd_ml hs) (fun k=>Ft (rd_gd hs k))
theorem Kt {f:aI} (hs:smF f):gD (ofF f) (ofF f)=some true:=by
 have hb: ∀ {t:Top} {l:List Top},wTs l<=3000->t∈l->t.My.length<=140737488355328:=fun {t l} hw ht=>by
  have:=tB _ _ ht;unfold wT at this;omega
 have g:=yw zR QS (fun t ht=>absurd ht List.not_mem_nil);have fin:kf (ofF f).M2 (ofF f).M2=some true->jk (ofF f).MT (ofF f).MT=some true->eg (ofF f).MF (ofF f).MF=some true->gD (ofF f) (ofF f)=some true:=fun j k n=>by
  unfold gD;rw[QX rfl,QX rfl,QX rfl,QX rfl,QX rfl,j,Nm,QX rfl,k,Nm,QX rfl,n];rfl
 have key: ∀ {x:aL} {y:List bN} {z:aQ},ofF f=⟨qw f.MA,x,y,z⟩->kf x x=some true->jk y y=some true->eg z z=some true->gD (ofF f) (ofF f)=some true:=fun {x y z} e j k n=>by
  rw[e] at fin ⊢;exact fin j k n
 by_cases c:f.MA.MH=0
 ·refine key (x:=zR) (y := []) (z:=ofQ f.MF) (by unfold ofF; rw[QX c]) g pj ?_;have:=vH (b:=f.MF) (rd_gd hs c);rw[yl] at this;exact this
 by_cases a:f.MA.MH=22
 ·exact key (x:=gB f.M0) (y := []) (z:=z20) (by unfold ofF; rw[QY c,QX a]) (yw (gB f.M0) (NH _) (fun t ht=>absurd ht List.not_mem_nil)) pj nH
 by_cases d:f.MA.MH=24
 ·refine key (x:=gA f.M3) (y := []) (z:=z20) (by unfold ofF; rw[QY c,QY a,QX d]) (yw (gA f.M3) ?_ (fun t ht=>hb hs.1 ht)) pj nH;have:=rr f.M3.Mw;have:=hs.1;show f.M3.Mw.length<= _;omega
 by_cases h:f.MA.MH=26
 ·exact key (x:=gE f.M1) (y := []) (z:=z20) (by unfold ofF; rw[QY c,QY a,QY d,QX h]) (yw (gE f.M1) (NH _) (fun t ht=>absurd ht List.not_mem_nil)) pj nH
 by_cases i:f.MA.MH=27
 ·refine key (x:=zR) (y:=f.MT.map toR) (z:=z20) (by unfold ofF; rw[QY c,QY a,QY d,QY h,QX i]) g ?_ nH;have:=Cc f.MT f.MT (rd_ml hs) (fun m hm=>⟨by have:=rr m.Mw; have:=hs.2.1 m hm; omega,fun t ht=>hb (hs.2.1 m hm) ht⟩);rw[Nn rfl] at this;exact this
 ·exact key (x:=zR) (y := []) (z:=z20) (by unfold ofF; rw[QY c,QY a,QY d,QY h,QY i]) g pj nH
theorem GG {f:aI} (h:Ed f):gw f=some true:=by
 have:=Aa (CI h)
 rwa [rd_nF h] at this
theorem Jp:gw zF=some true:=by
 have:=Aa (f:=zF) (.inl rfl);have e:nF zF=zF:=nF_0 rfl
 rwa [e] at this
theorem of_z:j2 zF=some (ofF zF):=of21 _ QS (fun _=>Jm)
theorem sm_z:gD (ofF zF) (ofF zF)=some true:=by
 have e:ofF zF=⟨qw Hs,zR,[],z20⟩:=rfl;rw[e];unfold gD;rw[QX rfl,QX rfl,QX rfl,QX rfl,QX rfl,yw zR QS (fun t ht=>absurd ht List.not_mem_nil),Nm,QX rfl,pj,Nm,QX rfl,nH];rfl
theorem fr_int {s:AI} {f:aI} (h:Ed f) (hs:s=tM f):4<=s.length/\bC (s.take 4)=(s.length:Int) - 4:=by
 have hl:s.length=4+(oc f).length:=by rw[hs,tM,Nr,aH]
 have a:=(bX 4 QS QS).back s (oc f) 0 ((oc f).length:Int) (NH _) h.2 (by rw[List.drop_zero,hs]; rfl);rw[gy QR] at a;injection a with a;have b:=(NU a).1;rw[List.drop_zero] at b;exact⟨by omega,by rw[b]; omega⟩
theorem pure_FrameDecodes (a0:AI) (w0:a0.length<=140737488351232):iz a0=some true:=by
 unfold iz;rw[Jl,Nm,QX rfl];by_cases hl:(a0.length:Int)>2500
 ·rw[QX hl]
 rw[QY hl,kC _ QR,Nm,Eg a0 QR,Jo a0 QR];have g:=B_frm.run a0 0 QR (NH _);rw[List.drop_zero] at g;unfold Jj;rcases g with⟨e,st,a,d,h,j⟩ | ⟨f,r,a,d,n,o⟩
 ·have he:e≠0:=by rw[<- h]; exact j
  have hz:j2 (⟨(⟨0,0,0,(⟨false,[]⟩:Bl)⟩:eU),(⟨(⟨false,[]⟩:Bl),0,0,0⟩:bf),(⟨[],0,0,[]⟩:bQ),(⟨[],0,0,false⟩:bP),[],(⟨(⟨false,[]⟩:Bl),0,0,[]⟩:aB)⟩:aI)=some (ofF zF):=of_z;rw[d,a,Nm];dsimp only;rw[Nm,bt,Nm];dsimp only;rw[QX (show st.err=(yR e).Nh from h),Jp,Nm,QX rfl,QY (show ¬ (yR e).Nh=0 from he),of_z,Nm,hz,Nm,sm_z,Nm,QX rfl,Nm];dsimp only[sL];rw[QY QS,Nm];dsimp only;rw[QY (show ¬ (yR e).Nh=0 from he),Nm,QY QS,Nm,QY (show ¬ (yR e).Nh=0 from he),QX (show e=(yR e).Nh from rfl),QX (show zF.MA.MH=0 from rfl),Jp];rfl
 ·obtain⟨p,q,k,i,b⟩:=GC QR (NH _) a;have hin:(oc f).length<=3000:=by
   rw[tM,Nr,aH] at k;omega
  have hs:=smF_of b hin;rw[d,a,Nm];dsimp only;rw[Nm,bt,Nm];dsimp only;rw[QX rfl,GG b,Nm,QX rfl,QX rfl,rd_of hs,Nm,Kt hs,Nm,QX rfl,gAt_eq,Nm];dsimp only;rw[QX rfl,Nm];dsimp only;rw[QY QS];by_cases c:r<a0.length
  ·have e:sL a0 (.ok (f,r))=(zF,2):=by unfold sL; exact QX c
   rw[e,Nm];dsimp only;rw[QX rfl,QX (show (r:Int)<(a0.length:Int) by omega),Nm,QX rfl,Nm,QY QS,QX rfl,QX (show zF.MA.MH=0 from rfl),Jp];rfl
  ·have e:sL a0 (.ok (f,r))=(f,0):=by unfold sL; exact QY c
   have hr:r=a0.length:=by omega
   have ha:a0=tM f:=by
    rw[hr,List.take_length,List.take_zero,NG] at i;exact i
   obtain⟨l,m⟩:=fr_int b ha;rw[e,Nm];dsimp only;rw[QX rfl,QY (show ¬ (r:Int)<(a0.length:Int) by omega),Nm,QY QS,Nm,QX rfl,Ee b hs QR,Nm];dsimp only;rw[QX rfl,QX rfl,QX ha.symm,QX l,dc _ (by rw[NL]; omega),Nm,QX QR,m,QX rfl];rfl
end Go.Proofs.YtheikonlgjdopaaGreat.Sl
namespace Go.Proofs.YtheikonlgjdopaaGreat.frameDecodes
open Go.ChangeShapes Go.WideShapes Go.ChangeAt Go.RowKit
open Go.ChangeMaps (open_string shut_string)
set_option linter.unusedVariables false
theorem own:ownKnob Tryz.prog.godebug=none:=by kernel_rfl
theorem lifted (os:Os) (started:os.Started) (H:Type) (enc:TypeId×Value->H) :
 ReturnsInHanded {} Tryz.checked os 5 .any (Rows.frameDecodesSpec.pre6 enc Tryz.prog Tryz.f5 Rows.frameDecodesRow.domain false) (Rows.frameDecodesSpec.post enc Tryz.prog Tryz.f5 false true false false):=by
 refine returnsInHanded_of_change_sized (C:=Tryz.checked) own started (by kernel_rfl) Tryz.func5
  (ChangeSpec.witness6 (enc:=enc) (C:=Tryz.checked) false ⟨#[],#[.string ByteArray.empty],[]⟩ 8 (by kernel_rfl) (by kernel_rfl) (by kernel_rfl) (by kernel_rfl)) ?_
 intro W base args ds gs before hval0 hW hcnd hsz0 _;have hsz:(DataW.weightsEach Tryz.prog (Tryz.f5.params.toList++Rows.frameDecodesSpec.plain.varTypes Tryz.prog) (ds++gs)).all (· <= reachBytes)=true:=hsz0;have hval: ∀ (j:Nat) t v,Tryz.f5.params[j]? = some t->args[j]? = some v->Value.okWide Tryz.prog W .any base t v:=hval0;have hW':=hW;obtain⟨p,q,hA0,hV,rfl,hfz,hnd⟩:=hW;have hA:DataW.TrodAll enc Tryz.prog W 0 (fun _=>true) true Tryz.f5.params.toList args.toList ds p:=hA0;rw[Tryz.params5] at hA hval hsz;obtain⟨a,vs0,i,ds0,k,l,hargs,rfl,rfl,c,d⟩:=trodAll_cons hA;obtain⟨rfl,rfl,rfl⟩:=trodAll_nil d;obtain rfl:args= #[a]:=by cases args; simp_all
 obtain⟨rfl,rfl⟩:=trodVars_none hV;obtain⟨b,rfl,rfl,rfl,f⟩:=open_string Tryz.underlying9 (hval 0 9 a rfl rfl) c;have g:b.size<=140737488351232:=by
  have z:=sized_string hsz (j:=0) (t:=9) rfl rfl;rw[Array.length_toList] at z;exact z
 obtain⟨a0,rfl⟩:=Sl.bsOf_of b;have w0:a0.length<=140737488351232:=by rwa [Sl.bsOf_size] at g
 clear hA0 hval0 hsz0 hsz;refine (Sl.f_l21_FrameDecodes_spec a0 true (Sl.pure_FrameDecodes a0 w0) (fun _=>False) W (fun _ h=>h) (Sl.RX.reads_triv _ _)).mono fun e W' hP=> ?_;obtain⟨v,A',Ns,rfl,⟨rfl,rfl,rfl⟩,hst⟩:=hP;have bel:=Sl.St.below hst;exact⟨_,rfl,_,_,_,[],_,[],hW',trodAll_mk1 (shut_bool Tryz.underlying4 _),(trodAll_cons_mk (shut_string Tryz.underlying9 f) trodAll_mk0),rfl,bel.frame _,fun h=>by cases h⟩
theorem over:Rows.frameDecodesRow.holds Tryz.pinned (OpenSpec.ofChange Rows.frameDecodesSpec) :=
 OpenClaim.holds_of_wide 5 Tryz.f5 rfl rfl rfl rfl rfl rfl rfl ⟨rfl,rfl,rfl,rfl,rfl⟩ rfl rfl rfl rfl rfl (by kernel_rfl) Tryz.func5 (by kernel_rfl)
  (of_decide_eq_true (by kernel_rfl)) (by unfold Func.isWrapper; first | (rw[if_pos (by decide +kernel)]; kernel_rfl) | (rw[if_neg (by decide +kernel)]; exact⟨rfl,rfl⟩))
  (fun os started H enc _=>lifted os started H enc)
theorem proved:Rows.FrameDecodesSaid:=over
end Go.Proofs.YtheikonlgjdopaaGreat.frameDecodes
namespace Go.Proofs.YtheikonlgjdopaaGreat
theorem frameDecodes_holds:Rows.FrameDecodesSaid:=frameDecodes.proved
end Go.Proofs.YtheikonlgjdopaaGreat
