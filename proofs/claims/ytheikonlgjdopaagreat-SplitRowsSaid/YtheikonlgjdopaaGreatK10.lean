/- splitRows_holds: part 10. -/
import Derived.KernelRfl
import Derived.Test.YtheikonlgjdopaaGreatK9
set_option maxRecDepth 100000
set_option maxHeartbeats 4000000
set_option linter.defProp false
namespace Go.Proofs.YtheikonlgjdopaaGreat.Sl
open Go.RowKit
set_option linter.unusedVariables false
set_option linter.unusedSimpArgs false
theorem wi0:wI 0:=⟨by decide,by decide⟩
theorem wi1:wI 1:=⟨by decide,by decide⟩
theorem wim:wI (-1):=⟨by decide,by decide⟩
def who (p e:Int):Bool:=decide (0<=p/\0<=e/\e<=32767)
theorem Bm (p e:Int) (he:wI e):km p e=some (who p e):=by
 unfold km who;by_cases h1:p>=0
 ·rw[QX h1];by_cases h2:e>=0
  ·rw[QX h2,gL _ _ he,xY];simp only[NA];congr 1;by_cases h3:e<=32767
   ·rw[NB QR,NB QR]
   ·rw[NC QR,NC QR]
  ·rw[QY h2,NC QR];rfl
 ·rw[QY h1,NC QR];rfl
def sa (l:List Top):Int:=if l.length=0 then 10 else if pz l=true then 0 else 13
def wTl (l:List Top):Prop:=(∀ t,t∈l->kM t)/\l.length<=1000000
theorem Cr (l:List Top) (hw:wTl l):li l=some (sa l):=by
 unfold li sa;by_cases h:l.length=0
 ·rw[QX QR,QX h]
 ·rw[QY QR,QY h,Gy _ ⟨wi0,wi0,wi0,wi1,⟨by have:=hw.2; simp only; omega,hw.1⟩,wi0,wi0⟩ hw.2,NA];unfold chkV;rw[QY (by unfold badR; simp),QY (by simp),QY (by
   unfold badC;simp only;rintro (h1 | h1)
   ·exact h1 ⟨fun _=>by omega,fun _=>by omega⟩
   ·exact h1 ⟨fun h=>absurd h QS,fun h=>absurd h QS⟩)]
def qN (d:List UInt8) (p e:Int):Int:=if dS d=true then (if who p e=true then 0 else 11) else 4
def qO (d:List UInt8) (p e:Int) (l:List Top):Int:=if dS d=true then (if who p e=true then sa l else 11) else 4
def tmB (t:Int):Bool:=decide (0<=t/\t<=2147483647)
def Cs (p e:Int):Bool:=decide (p= -1/\e= -1)
def gY (b:Bl) (t p e v:Int):Int:=if (bL b && (b.null || dS b.data))=true then (if (tmB t && (Cs p e || (decide (v>0) && who p e)))=true then 0 else 11) else 4
theorem In (x:bY) (he:wI x.MR):gQ x=some (qN x.MU x.MO x.MR):=by
 unfold gQ qN;rw[ph,NA,Bm _ _ he,NA];cases dS x.MU <;> cases who x.MO x.MR <;> rfl
theorem Io (x:bZ) (he:wI x.MR) (hl:wTl x.MN):gP x=some (qO x.MU x.MO x.MR x.MN):=by
 unfold gP qO;rw[ph,NA,Bm _ _ he,NA,Cr _ hl,NA];cases dS x.MU <;> cases who x.MO x.MR <;> rfl
theorem D7 (x:bd) (v:Int) (he:wI x.MR) (ht:wI x.MT):fK x v=some (gY x.MU x.MT x.MO x.MR v):=by
 unfold fK gY;have h1:(if x.MO=(-1) then (if x.MR=(-1) then some true else some false) else some false)=some (Cs x.MO x.MR):=by
  unfold Cs;by_cases a:x.MO= -1 <;> by_cases b:x.MR= -1 <;> simp[a,b]
 have h3:(if x.MT<0 then some true else ((jy x.MT 4).bind fun x29=>if x29=true then some false else some true))=some (!tmB x.MT):=by
  unfold tmB;by_cases a:x.MT<0
  ·rw[QX a,NC QR];rfl
  ·rw[QY a,gL _ _ ht,eU,NA];by_cases b:x.MT<=2147483647
   ·rw[QX (NB QR),NB QR];rfl
   ·rw[QY (by simp; omega),NC QR];rfl
 have h4:(if v>0 then ((some (who x.MO x.MR)).bind fun x55=>if x55=true then some false else some true) else some true)=some (!(decide (v>0) && who x.MO x.MR)):=by
  by_cases d:v>0
  ·rw[QX d,NB d];cases who x.MO x.MR <;> rfl
  ·rw[QY d,NC d];rfl
 rw[h1,NA,h3,Bm _ _ he,h4,ui,ph];cases bL x.MU <;> cases x.MU.null <;> cases dS x.MU.data <;> cases tmB x.MT <;> cases Cs x.MO x.MR <;> cases (decide (v>0) && who x.MO x.MR) <;> rfl
theorem Ip:CB gy tL false:=by
 refine⟨fun st h=> ?_,fun s q hl hq=> ?_⟩
 ·unfold gy;rw[ll h,NA];rfl
 ·unfold gy tL;rcases Q1.run s q hq with⟨e,st,p1,g1,x1,y1⟩ | ⟨n,r,p1,g1,n1,l1⟩
  ·refine .inl ⟨e,st,Pr.bind_err p1,?_,x1,y1⟩;rw[g1,NA];rfl
  ·rw[g1,NA,Pr.bind_of p1];simp only;by_cases h0:n=0
   ·rw[QX h0,QX h0,NA,QY QS,NA,QY QR];exact .inr ⟨false,r,rfl,rfl,n1,l1⟩
   ·by_cases h1:n=1
    ·rw[QY h0,QX h1,QY h0,QX h1,NA,QY QS,NA,QX h1];exact .inr ⟨true,r,rfl,rfl,n1,l1⟩
    ·rw[QY h0,QY h1,QY h0,QY h1,NA,QX rfl,dB,NA,NA,QY h1];exact .inl ⟨11,_,rfl,rfl,rfl,by simp[dz]⟩
abbrev Ct:Pr (List Top):=mi 4 6 nE
theorem pA {α:Type} {enc:α->List UInt8}: ∀ (l:List α) (x:α),x∈l->(enc x).length<=(bb enc l).length
 | y::l,x,h=>by
  rw[bb,NE];rcases List.mem_cons.1 h with rfl | h
  ·omega
  ·have:=pA (enc:=enc) l x h;omega
theorem Iq (s:List UInt8) (q:Nat) (l:List Top) (r:Nat) (hl:s.length<=1000000) (hq:q<=s.length) (h:Ct s q= .ok (l,r)):wTl l:=by
 obtain⟨a1,a2,a3,a4,a5,a6⟩:=vu.spell s q l r hq h;rw[NE,aE] at a3;have hlen:=ob EY l a6;refine⟨fun t ht=> ?_,by omega⟩;have h1:=pA (enc:=lU) l t ht;obtain⟨b1,b2,b3⟩:=a6 t ht;have h2:(lU t).length=wT t:=xX t;unfold wT at h2;exact⟨by show t.MV.length<= _; omega,by show t.MP.length<= _; omega,fun n hn=>iA (b3 n hn)⟩
def zE:bY:=⟨[],0,0,false⟩
def zA:bZ:=⟨[],0,0,[]⟩
def zB:bd:=⟨⟨false,[]⟩,0,0,0⟩
def Ir:Pr bY:=xN.bind fun d=>(fy 8).bind fun p=>(fy 2).bind fun e=>tL.bind fun c=>if qN d p e=0 then .ret ⟨d,p,e,c⟩ else .err (qN d p e)
def Is:Pr bZ:=xN.bind fun d=>(fy 8).bind fun p=>(fy 2).bind fun e=>Ct.bind fun l=>if qO d p e l=0 then .ret ⟨d,p,e,l⟩ else .err (qO d p e l)
def It (v:Int):Pr bd:=(oq 2).bind fun b=>(fy 4).bind fun t=>if gY b t (-1) (-1) v=0 then .ret ⟨b,t,-1,-1⟩ else .err (gY b t (-1) (-1) v)
def Iu (v:Int):Pr bd:=(oq 2).bind fun b=>(fy 4).bind fun t=>(fy 8).bind fun p=>(fy 2).bind fun e=>if gY b t p e v=0 then .ret ⟨b,t,p,e⟩ else .err (gY b t p e v)
theorem B_end:CB lA Ir zE:=by
 refine CB.congr (CB.bind (fun _=>True) QT.cb (fun _ _ _ _ _ _ _=>trivial) trivial fun d _=>CB.bind wI Q8.cb (qM QS QS) wi0 fun p hp=>CB.bind wI Q2.cb (qM QS QS) wi0 fun e he=>CB.bind (fun _=>True) Ip (fun _ _ _ _ _ _ _=>trivial) trivial fun c _ =>
  Bj (op:=fun st=>(cX st ⟨d,p,e,c⟩).bind fun (x15,st16)=>if x15=true then some (⟨d,p,e,c⟩,st16) else some (zE,st16)) (fun st h=> ?_) (fun st h=> ?_)) (fun st=>rfl)
 ·unfold cX;rw[bA,NA];simp only;rw[QY h];rfl
 ·unfold cX;rw[bA,NA];simp only;rw[QX h,In _ he,NA];by_cases hc:qN d p e=0
  ·rw[QX hc,QX hc];rfl
  ·rw[QY hc,QY hc,dB];rfl
theorem B_add:CB lz Is zA:=by
 refine CB.congr (CB.bind (fun _=>True) QT.cb (fun _ _ _ _ _ _ _=>trivial) trivial fun d _=>CB.bind wI Q8.cb (qM QS QS) wi0 fun p hp=>CB.bind wI Q2.cb (qM QS QS) wi0 fun e he=>CB.bind wTl Cn Iq ⟨(fun t h=>nomatch h),by decide⟩ fun l hl =>
  Bj (op:=fun st=>(cW st ⟨d,p,e,l⟩).bind fun (x15,st16)=>if x15=true then some (⟨d,p,e,l⟩,st16) else some (zA,st16)) (fun st h=> ?_) (fun st h=> ?_)) (fun st=>rfl)
 ·unfold cW;rw[bA,NA];simp only;rw[QY h];rfl
 ·unfold cW;rw[bA,NA];simp only;rw[QX h,Io _ he hl,NA];by_cases hc:qO d p e l=0
  ·rw[QX hc,QX hc];rfl
  ·rw[QY hc,QY hc,dB];rfl
theorem Ff (b:Bl) (t p e v:Int) (ht:wI t) (he:wI e):CB (fun st=>(cH st ⟨b,t,p,e⟩ v).bind fun (x15,st16)=>if x15=true then some ((⟨b,t,p,e⟩:bd),st16) else some (zB,st16)) (if gY b t p e v=0 then .ret ⟨b,t,p,e⟩ else .err (gY b t p e v)) zB:=by
 refine Bj (fun st h=> ?_) (fun st h=> ?_)
 ·unfold cH;rw[bA,NA];simp only;rw[QY h];rfl
 ·unfold cH ij;rw[bA,NA];simp only;rw[QX h,D7 _ _ he ht,NA,NA];by_cases hc:gY b t p e v=0
  ·rw[QX hc,QX hc];rfl
  ·rw[QY hc,QY hc,dB];rfl
theorem B_beg0 (v:Int) (hv: ¬ v>0):CB (fun st=>eG st v) (It v) zB:=by
 refine CB.congr (CB.bind (fun _=>True) QF2.cb (fun _ _ _ _ _ _ _=>trivial) trivial fun b _=>CB.bind wI Q4.cb (qM QS QS) wi0 fun t ht=>Ff b t (-1) (-1) v ht wim) (fun st=> ?_);unfold eG;simp only[QY hv,NA];rfl
theorem B_beg1 (v:Int) (hv:v>0):CB (fun st=>eG st v) (Iu v) zB:=by
 refine CB.congr (CB.bind (fun _=>True) QF2.cb (fun _ _ _ _ _ _ _=>trivial) trivial fun b _=>CB.bind wI Q4.cb (qM QS QS) wi0 fun t ht=>CB.bind wI Q8.cb (qM QS QS) wi0 fun p hp=>CB.bind wI Q2.cb (qM QS QS) wi0 fun e he=>Ff b t p e v ht he) (fun st=> ?_);unfold eG;simp only[QX hv,Option.bind_assoc,NA];rfl
def tO (d:List UInt8):List UInt8:=be (d.length:Int) 2++d
def oc (l:List Top):List UInt8:=be (l.length:Int) 4++bb lU l
def D8 (x:bY):List UInt8:=tO x.MU++(be x.MO 8++(be x.MR 2++jv x.M7))
def D9 (x:bZ):List UInt8:=tO x.MU++(be x.MO 8++(be x.MR 2++oc x.MN))
def z3 (b:Bl):List UInt8:=be (blen b) 2++b.data
def Fg (x:bd):List UInt8:=z3 x.MU++be x.MT 4
def Cu (x:bd):List UInt8:=z3 x.MU++(be x.MT 4++(be x.MO 8++be x.MR 2))
def okTx (d:List UInt8):Prop:=bn (d.length:Int) 2=true/\bL ⟨false,d⟩=true
def okFx (b:Bl):Prop:=bn (blen b) 2=true/\bL b=true
def zi (l:List Top):Prop:=bn (l.length:Int) 4=true/\ ∀ t,t∈l->okT t
abbrev spI (k:Nat) (h1:1<=k:=by decide) (h8:k<=8:=by decide):=ei k h1 h8
theorem Sp_end:Sp Ir D8 (fun x=>okTx x.MU/\bn x.MO 8=true/\bn x.MR 2=true/\qN x.MU x.MO x.MR=0):=by
 refine Sp.congr (Sp.seq (β:=bY) (π:=(·.MU)) (ok2:=fun x:bY=>bn x.MO 8=true/\bn x.MR 2=true/\qN x.MU x.MO x.MR=0) pw fun d =>
  Sp.congr (Sp.seq (β:=bY) (π:=(·.MO)) (ok2:=fun x:bY=>bn x.MR 2=true/\qN d x.MO x.MR=0/\x.MU=d) (spI 8) fun p =>
  Sp.congr (Sp.seq (β:=bY) (π:=(·.MR)) (ok2:=fun x:bY=>qN d p x.MR=0/\x.MU=d/\x.MO=p) (spI 2) fun e =>
  Sp.congr (Sp.seq (β:=bY) (π:=(·.M7)) (ok2:=fun x:bY=>qN d p e=0/\x.MU=d/\x.MO=p/\x.MR=e) EX fun c =>
  (xS (β:=bY) _ _ _).congr (ok':=fun x:bY=>(qN d p e=0/\x.MU=d/\x.MO=p/\x.MR=e)/\x.M7=c) (fun x=> ?_) (fun _ _=>rfl)) (fun x=> ?_) (fun _ _=>rfl)) (fun x=> ?_) (fun _ _=>rfl)) (fun x=> ?_) (fun _ _=>rfl)) (fun x=> ?_) (fun x _=>by simp only[D8,tO,NW])
 ·obtain⟨a1,a2,a3,a4⟩:=x;simp only[bY.mk.injEq];exact⟨fun ⟨h,h1,h2,h3,h4⟩=>⟨⟨h,h1,h2,h3⟩,h4⟩,fun ⟨⟨h,h1,h2,h3⟩,h4⟩=>⟨h,h1,h2,h3,h4⟩⟩
 ·exact⟨fun ⟨_,h,h1,h2,h3⟩=>⟨⟨by rw[h3]; exact h,h1,h2⟩,h3⟩,fun ⟨⟨h,h1,h2⟩,h3⟩=>⟨trivial,by rw[<- h3]; exact h,h1,h2,h3⟩⟩
 ·exact⟨fun ⟨h0,h,h1,h2⟩=>⟨⟨h0,by rw[h2]; exact h,h1⟩,h2⟩,fun ⟨⟨h0,h,h1⟩,h2⟩=>⟨h0,by rw[<- h2]; exact h,h1,h2⟩⟩
 ·exact⟨fun ⟨h0,h,h1,h2⟩=>⟨⟨h0,h,by rw[h2]; exact h1⟩,h2⟩,fun ⟨⟨h0,h,h1⟩,h2⟩=>⟨h0,h,by rw[<- h2]; exact h1,h2⟩⟩
 ·exact Iff.rfl
theorem Sp_add:Sp Is D9 (fun x=>okTx x.MU/\bn x.MO 8=true/\bn x.MR 2=true/\zi x.MN/\qO x.MU x.MO x.MR x.MN=0):=by
 refine Sp.congr (Sp.seq (β:=bZ) (π:=(·.MU)) (ok2:=fun x:bZ=>bn x.MO 8=true/\bn x.MR 2=true/\zi x.MN/\qO x.MU x.MO x.MR x.MN=0) pw fun d =>
  Sp.congr (Sp.seq (β:=bZ) (π:=(·.MO)) (ok2:=fun x:bZ=>bn x.MR 2=true/\zi x.MN/\qO d x.MO x.MR x.MN=0/\x.MU=d) (spI 8) fun p =>
  Sp.congr (Sp.seq (β:=bZ) (π:=(·.MR)) (ok2:=fun x:bZ=>zi x.MN/\qO d p x.MR x.MN=0/\x.MU=d/\x.MO=p) (spI 2) fun e =>
  Sp.congr (Sp.seq (β:=bZ) (π:=(·.MN)) (ok2:=fun x:bZ=>qO d p e x.MN=0/\x.MU=d/\x.MO=p/\x.MR=e) vu fun l =>
  (xS (β:=bZ) _ _ _).congr (ok':=fun x:bZ=>(qO d p e x.MN=0/\x.MU=d/\x.MO=p/\x.MR=e)/\x.MN=l) (fun x=> ?_) (fun _ _=>rfl)) (fun x=> ?_) (fun _ _=>rfl)) (fun x=> ?_) (fun _ _=>rfl)) (fun x=> ?_) (fun _ _=>rfl)) (fun x=> ?_) (fun x _=>by simp only[D9,tO,oc,NW])
 ·obtain⟨a1,a2,a3,a4⟩:=x;simp only[bZ.mk.injEq];exact⟨fun ⟨h,h1,h2,h3,h4⟩=>⟨⟨by rw[h4]; exact h,h1,h2,h3⟩,h4⟩,fun ⟨⟨h,h1,h2,h3⟩,h4⟩=>⟨by rw[<- h4]; exact h,h1,h2,h3,h4⟩⟩
 ·exact⟨fun ⟨h0,h,h1,h2,h3⟩=>⟨⟨h0,by rw[h3]; exact h,h1,h2⟩,h3⟩,fun ⟨⟨h0,h,h1,h2⟩,h3⟩=>⟨h0,by rw[<- h3]; exact h,h1,h2,h3⟩⟩
 ·exact⟨fun ⟨h0,hk,h,h1,h2⟩=>⟨⟨h0,hk,by rw[h2]; exact h,h1⟩,h2⟩,fun ⟨⟨h0,hk,h,h1⟩,h2⟩=>⟨h0,hk,by rw[<- h2]; exact h,h1,h2⟩⟩
 ·exact⟨fun ⟨h0,h,hk,h1,h2⟩=>⟨⟨h0,h,hk,by rw[h2]; exact h1⟩,h2⟩,fun ⟨⟨h0,h,hk,h1⟩,h2⟩=>⟨h0,h,hk,by rw[<- h2]; exact h1,h2⟩⟩
 ·exact Iff.rfl
theorem Kd (v:Int):Sp (Iu v) Cu (fun x=>okFx x.MU/\bn x.MT 4=true/\bn x.MO 8=true/\bn x.MR 2=true/\gY x.MU x.MT x.MO x.MR v=0):=by
 refine Sp.congr (Sp.seq (β:=bd) (π:=(·.MU)) (ok2:=fun x:bd=>bn x.MT 4=true/\bn x.MO 8=true/\bn x.MR 2=true/\gY x.MU x.MT x.MO x.MR v=0) (iz 2 QS QS) fun b =>
  Sp.congr (Sp.seq (β:=bd) (π:=(·.MT)) (ok2:=fun x:bd=>bn x.MO 8=true/\bn x.MR 2=true/\gY b x.MT x.MO x.MR v=0/\x.MU=b) (spI 4) fun t =>
  Sp.congr (Sp.seq (β:=bd) (π:=(·.MO)) (ok2:=fun x:bd=>bn x.MR 2=true/\gY b t x.MO x.MR v=0/\x.MU=b/\x.MT=t) (spI 8) fun p =>
  Sp.congr (Sp.seq (β:=bd) (π:=(·.MR)) (ok2:=fun x:bd=>gY b t p x.MR v=0/\x.MU=b/\x.MT=t/\x.MO=p) (spI 2) fun e =>
  (xS (β:=bd) _ _ _).congr (ok':=fun x:bd=>(gY b t p x.MR v=0/\x.MU=b/\x.MT=t/\x.MO=p)/\x.MR=e) (fun x=> ?_) (fun _ _=>rfl)) (fun x=> ?_) (fun _ _=>rfl)) (fun x=> ?_) (fun _ _=>rfl)) (fun x=> ?_) (fun _ _=>rfl)) (fun x=> ?_) (fun x _=>by simp only[Cu,z3,NW])
 ·obtain⟨a1,a2,a3,a4⟩:=x;simp only[bd.mk.injEq];exact⟨fun ⟨h,h1,h2,h3,h4⟩=>⟨⟨by rw[h4]; exact h,h1,h2,h3⟩,h4⟩,fun ⟨⟨h,h1,h2,h3⟩,h4⟩=>⟨by rw[<- h4]; exact h,h1,h2,h3,h4⟩⟩
 ·exact⟨fun ⟨h0,h,h1,h2,h3⟩=>⟨⟨h0,by rw[h3]; exact h,h1,h2⟩,h3⟩,fun ⟨⟨h0,h,h1,h2⟩,h3⟩=>⟨h0,by rw[<- h3]; exact h,h1,h2,h3⟩⟩
 ·exact⟨fun ⟨h0,hk,h,h1,h2⟩=>⟨⟨h0,hk,by rw[h2]; exact h,h1⟩,h2⟩,fun ⟨⟨h0,hk,h,h1⟩,h2⟩=>⟨h0,hk,by rw[<- h2]; exact h,h1,h2⟩⟩
 ·exact⟨fun ⟨h0,h,hk,h1,h2⟩=>⟨⟨h0,h,hk,by rw[h2]; exact h1⟩,h2⟩,fun ⟨⟨h0,h,hk,h1⟩,h2⟩=>⟨h0,h,hk,by rw[<- h2]; exact h1,h2⟩⟩
 ·exact Iff.rfl
theorem Ke (v:Int):Sp (It v) Fg (fun x=>okFx x.MU/\bn x.MT 4=true/\gY x.MU x.MT x.MO x.MR v=0/\x.MO= -1/\x.MR= -1):=by
 refine Sp.congr (Sp.seq (β:=bd) (π:=(·.MU)) (ok2:=fun x:bd=>bn x.MT 4=true/\gY x.MU x.MT (-1) (-1) v=0/\x.MO= -1/\x.MR= -1) (iz 2 QS QS) fun b =>
  Sp.congr (Sp.seq (β:=bd) (π:=(·.MT)) (ok2:=fun x:bd=>gY b x.MT (-1) (-1) v=0/\x.MU=b/\x.MO= -1/\x.MR= -1) (spI 4) fun t =>
  (xS (β:=bd) _ _ _).congr (ok':=fun x:bd=>(gY b x.MT (-1) (-1) v=0/\x.MU=b/\x.MO= -1/\x.MR= -1)/\x.MT=t) (fun x=> ?_) (fun _ _=>rfl)) (fun x=> ?_) (fun _ _=>rfl)) (fun x=> ?_) (fun x _=>by simp only[Fg,z3,NW])
 ·obtain⟨a1,a2,a3,a4⟩:=x;simp only[bd.mk.injEq];exact⟨fun ⟨h,h1,h2,h3,h4⟩=>⟨⟨by rw[h2]; exact h,h1,h3,h4⟩,h2⟩,fun ⟨⟨h,h1,h3,h4⟩,h2⟩=>⟨by rw[<- h2]; exact h,h1,h2,h3,h4⟩⟩
 ·exact⟨fun ⟨h0,h,h1,h2,h3⟩=>⟨⟨h0,by rw[h1]; exact h,h2,h3⟩,h1⟩,fun ⟨⟨h0,h,h2,h3⟩,h1⟩=>⟨h0,by rw[<- h1]; exact h,h1,h2,h3⟩⟩
 ·exact⟨fun ⟨h0,h,h1,h2,h3⟩=>⟨h0,h,by rw[h2,h3]; exact h1,h2,h3⟩,fun ⟨h0,h,h1,h2,h3⟩=>⟨h0,h,by rw[h2,h3] at h1; exact h1,h2,h3⟩⟩
theorem xZ {d:List UInt8} (h:dS d=true):d.length<=32767/\d ≠ []:=by
 unfold dS at h;simp only[Bool.and_eq_true,decide_eq_true_eq,Bool.not_eq_true'] at h;refine⟨by omega,fun h0=> ?_⟩;rw[h0] at h;exact absurd h.1 QS
theorem tP {p e:Int} (h:who p e=true) (hp:wI p):bn p 8=true/\bn e 2=true:=by
 unfold who at h;have h:=of_decide_eq_true h;exact⟨by rw[fits_8]; exact NB hp,by rw[xY]; exact NB QR⟩
theorem z4 {l:List Top} (h:sa l=0):l ≠ []/\pz l=true:=by
 unfold sa at h;split at h
 ·exact absurd h QS
 ·rename_i h1;split at h
  ·rename_i h2;exact⟨fun h0=>h1 (by rw[h0]; rfl),h2⟩
  ·exact absurd h QS
theorem Gz {d:List UInt8} {p e:Int} {l:List Top} (hc:qO d p e l=0):dS d=true/\who p e=true/\sa l=0:=by
 unfold qO at hc;split at hc
 ·rename_i h1;split at hc
  ·rename_i h2; exact⟨h1,h2,hc⟩
  ·exact absurd hc QS
 ·exact absurd hc QS
theorem Ea {b:Bl} {t p e v:Int} (hc:gY b t p e v=0):bL b=true/\(b.null=true\/dS b.data=true)/\(0<=t/\t<=2147483647)/\(p= -1/\e= -1\/v>0/\who p e=true):=by
 unfold gY at hc;split at hc
 ·rename_i h1;split at hc
  ·rename_i h2;simp only[Bool.and_eq_true,Bool.or_eq_true,tmB,Cs,decide_eq_true_eq] at h1 h2;exact⟨h1.1,h1.2,h2.1,h2.2⟩
  ·exact absurd hc QS
 ·exact absurd hc QS
theorem Kf {b:Bl} (hb:bL b=true) (h:b.null=true\/dS b.data=true):bn (blen b) 2=true/\b.data.length<=32767:=by
 unfold blen;rcases h with h | h
 ·have:b.data = []:=by unfold bL at hb; rw[h] at hb; simpa using hb
  rw[QX h,this];exact⟨by decide,by decide⟩
 ·obtain⟨k1,_⟩:=xZ h;refine⟨?_,k1⟩;split
  ·decide
  ·rw[xY]; exact NB QR
def Cv (v:Int) (x:bd):List UInt8:=if v>0 then Cu x else Fg x
theorem z5 (b:Bl):kh b=some (!b.null && dS b.data):=by
 unfold kh
 cases hb:b.null with
 | true=>rfl
 | false =>
  rw[QY QS];unfold dS;by_cases h1:(b.data.length:Int)>=1
  ·rw[QX h1];have:b.data.isEmpty=false:=by cases hd:b.data with | nil=>rw[hd] at h1; exact absurd h1 QS | cons c l=>rfl
   by_cases h2:(b.data.length:Int)<=32767
   ·rw[QX h2,this,NB h2];rfl
   ·rw[QY h2,this,NC h2];rfl
  ·rw[QY h1];have:b.data = []:=List.eq_nil_of_length_eq_zero QR;rw[this];rfl
theorem Fh (r:bJ):lf r=some (who r.MO r.MR):=by
 unfold lf who;by_cases h1:r.MO>=0
 ·rw[QX h1];by_cases h2:r.MR>=0
  ·rw[QX h2];by_cases h3:r.MR<=32767
   ·rw[QX h3,NB QR];rfl
   ·rw[QY h3,NC QR];rfl
  ·rw[QY h2,NC QR];rfl
 ·rw[QY h1,NC QR];rfl
def chkR (k v:Int) (r:bJ):Int:=if k=22 then gY r.MU r.MT r.MO r.MR v else if k=24 then qO r.MU.data r.MO r.MR r.MN else qN r.MU.data r.MO r.MR
theorem vv (k v:Int) (hv:v=0\/v=1) (r:bJ) (hn:k≠22->r.MU.null=false) (hl:r.MN.length<=1000000) (hx: ∀ t,t∈r.MN->t.MP.length<=1000000/\t.MV.length<=1000000):ki k v r=some (chkR k v r):=by
 unfold ki chkR;by_cases hk:k=22
 ·rw[QX hk,QX hk,z5,Fh];unfold gY;have h1:(if r.MU.null=true then (if r.MU.data = [] then some false else some true) else ((some (!r.MU.null && dS r.MU.data)).bind fun x13=>if x13=true then some false else some true))=some (!(bL r.MU && (r.MU.null || dS r.MU.data))):=by
   unfold bL
   cases r.MU.null with
   | true =>
    rw[QX rfl];by_cases hd:r.MU.data = []
    ·rw[QX hd,hd]; rfl
    ·rw[QY hd];simp[hd]
   | false=>cases dS r.MU.data <;> rfl
  have h2:(if r.MT<0 then some true else (if r.MT>2147483647 then some true else some false))=some (!tmB r.MT):=by
   unfold tmB;by_cases a:r.MT<0
   ·rw[QX a,NC QR]; rfl
   ·rw[QY a];by_cases b:r.MT>2147483647
    ·rw[QX b,NC QR]; rfl
    ·rw[QY b,NB QR]; rfl
  have h3:(if r.MO=(-1) then (if r.MR=(-1) then some true else (if v=1 then ((some (who r.MO r.MR)).bind fun x36=>some x36) else some false)) else (if v=1 then ((some (who r.MO r.MR)).bind fun x39=>some x39) else some false))=some (Cs r.MO r.MR || (decide (v>0) && who r.MO r.MR)):=by
   unfold Cs;rcases hv with rfl | rfl
   ·by_cases a:r.MO= -1 <;> by_cases b:r.MR= -1 <;> simp[a,b]
   ·by_cases a:r.MO= -1 <;> by_cases b:r.MR= -1 <;> simp[a,b]
  rw[h1,h2,h3];cases (bL r.MU && (r.MU.null || dS r.MU.data)) <;> cases tmB r.MT <;> cases (Cs r.MO r.MR || (decide (v>0) && who r.MO r.MR)) <;> rfl
 ·rw[QY hk,QY hk,z5,Fh,hn hk];simp only[Bool.not_false,Bool.true_and];by_cases h4:k=24
  ·rw[QX h4,QX h4,QX h4,Fa _ hl hx];unfold qO sa;by_cases h0:r.MN.length=0
   ·rw[QX QR,QX h0];cases dS r.MU.data <;> cases who r.MO r.MR <;> rfl
   ·rw[QY QR,QY h0];cases dS r.MU.data <;> cases who r.MO r.MR <;> cases pz r.MN <;> rfl
  ·rw[QY h4,QY h4,QY h4];unfold qN;cases dS r.MU.data <;> cases who r.MO r.MR <;> rfl
def gE (x:bY):bJ:=⟨⟨false,x.MU⟩,0,x.MO,x.MR,[],x.M7⟩
def gA (x:bZ):bJ:=⟨⟨false,x.MU⟩,0,x.MO,x.MR,x.MN,false⟩
def gB (x:bd):bJ:=⟨x.MU,x.MT,x.MO,x.MR,[],false⟩
def toE (r:bJ):bY:=⟨r.MU.data,r.MO,r.MR,r.M7⟩
def toA (r:bJ):bZ:=⟨r.MU.data,r.MO,r.MR,r.MN⟩
def toB (r:bJ):bd:=⟨r.MU,r.MT,r.MO,r.MR⟩
def Pr.map {α β:Type} (g:α->β) (p:Pr α):Pr β:=p.bind fun x=> .ret (g x)
theorem Sp.map {α β:Type} {p:Pr α} {enc:α->List UInt8} {ok:α->Prop} (g:α->β) (g':β->α) (hg: ∀ x,g' (g x)=x) (h:Sp p enc ok):Sp (p.map g) (fun y=>enc (g' y)) (fun y=>ok (g' y)/\g (g' y)=y):=by
 refine⟨fun s q y r hq hp=> ?_,fun s t q y hq hy hd=> ?_⟩
 ·obtain⟨x,m,h1,h2⟩:=Pr.bind_ok hp;injection h2 with h2;obtain⟨rfl,rfl⟩:=N9 h2;obtain⟨a1,a2,a3,a4,a5⟩:=h.spell s q x m hq h1;rw[hg x];exact⟨a1,a2,a3,a4,a5,rfl⟩
 ·have:=h.back s t q (g' y) hq hy.1 hd;rw[Pr.map,Pr.bind_of this,hy.2];rfl
def encR (k v:Int) (r:bJ):List UInt8:=if k=22 then Cv v (toB r) else if k=24 then D9 (toA r) else D8 (toE r)
def zR:bJ:=⟨⟨false,[]⟩,0,0,0,[],false⟩
noncomputable instance decTop:DecidableEq Top:=fun a b=>Classical.propDecidable (a=b)
theorem ya: ∀ (l m:List Top),j0 l m=decide (l=m)
 | [],[]=>rfl
 | [],b::m=>by simp[j0]
 | a::l,[]=>by simp[j0]
 | a::l,b::m=>by
  rw[j0,ya l m];obtain⟨a1,a2⟩:=a;obtain⟨b1,b2⟩:=b;unfold Co;simp only;by_cases h1:a1=b1 <;> by_cases h2:a2=b2 <;> by_cases h3:l=m <;> simp[h1,h2,h3]
noncomputable instance decMark:DecidableEq aR:=fun a b=>Classical.propDecidable (a=b)
def toR (m:aR):di:=⟨m.MO,m.MR,m.M7,m.MN,m.M0⟩
theorem Fi: ∀ (l:List aR) (acc:List di),acc.length+l.length<=1000000->g7 l acc=some (acc++l.map toR)
 | [],acc,_=>by rw[g7]; simp
 | m::l,acc,h=>by
  rw[NJ] at h;rw[g7,QX QR,Fi l _ (by rw[NE,Or]; omega),List.map_cons,NI];rfl
theorem of_eq (l:List aR) (h:l.length<=1000000):qr l=some (l.map toR):=by
 unfold qr;rw[Fi l [] (by simpa using h)];rfl
def vw (v:Int) (m:aR):Int:=if (who m.MO m.MR && (tmB m.M0 && !(decide (v=0) && decide (m.M0≠0))))=true then sa m.MN else 11
def ln (v:Int):List aR->Int
 | []=>0
 | m::l=>if vw v m=0 then ln v l else vw v m
def od (v:Int) (l:List aR):Int:=if l.length=0 then 10 else ln v l
def okW (m:aR):Prop:=wI m.MR/\wI m.M0/\wTl m.MN
theorem GA (v:Int) (m:aR) (h:okW m):gR m v=some (vw v m):=by
 obtain⟨h1,h2,h3⟩:=h;unfold gR vw;rw[Bm _ _ h1,Cr _ h3,NA];have hc:(if m.M0<0 then some true else ((jy m.M0 4).bind fun x18=>if x18=true then (if v=0 then (if m.M0>0 then some true else some false) else some false) else some true))=some (!(tmB m.M0 && !(decide (v=0) && decide (m.M0≠0)))):=by
  unfold tmB;by_cases a:m.M0<0
  ·rw[QX a,NC QR]; rfl
  ·rw[QY a,gL _ _ h2,eU,NA];by_cases b:m.M0<=2147483647
   ·rw[QX (NB QR),NB QR];by_cases c:v=0
    ·rw[QX c,NB c];by_cases d:m.M0>0
     ·rw[QX d,NB QR]; rfl
     ·rw[QY d,NC QR]; rfl
    ·rw[QY c,NC c]; rfl
   ·rw[QY (by simp; omega),NC QR]; rfl
 rw[hc];cases who m.MO m.MR <;> cases (tmB m.M0 && !(decide (v=0) && decide (m.M0≠0))) <;> rfl
theorem vU (v:Int) (y:Int): ∀ l:List aR,(∀ m,m∈l->okW m)->fo v l y=some (if ln v l=0 then .go y else .ret (ln v l))
 | [],_=>rfl
 | m::l,h=>by
  rw[fo,GA v m (h m (.head _)),NA,ln];by_cases hc:vw v m=0
  ·rw[QX hc,QX hc,vU v y l (fun z hz=>h z (.tail _ hz))]
  ·rw[QY hc,QY hc,QY hc]
theorem mCheck (v:Int) (l:List aR) (h: ∀ m,m∈l->okW m):jp l v=some (od v l):=by
 unfold jp od;by_cases h0:l.length=0
 ·rw[QX QR,QX h0]
 ·rw[QY QR,QY h0,vU v 0 l h];by_cases hc:ln v l=0
  ·rw[QX hc,hc]; rfl
  ·rw[QY hc]; rfl
theorem Kg (v:Int) (m:aR) (hl:m.MN.length<=1000000) (hx: ∀ t,t∈m.MN->t.MP.length<=1000000/\t.MV.length<=1000000):oV (toR m) v=some (vw v m):=by
 unfold oV vw;rw[Fa (toR m).MN hl hx];have hc0:(if m.MO<0 then some true else (if m.MR<0 then some true else (if m.MR>32767 then some true else (if m.M0<0 then some true else (if m.M0>2147483647 then some true else (if v=0 then (if m.M0=0 then some false else some true) else some false))))))=some (!(who m.MO m.MR && (tmB m.M0 && !(decide (v=0) && decide (m.M0≠0))))):=by
  unfold who tmB;by_cases a:m.MO<0
  ·rw[QX a,NC (p:=0<=m.MO/\ _) QR]; rfl
  rw[QY a];by_cases b:m.MR<0
  ·rw[QX b,NC (p:=0<=m.MO/\ _) QR]; rfl
  rw[QY b];by_cases c:m.MR>32767
  ·rw[QX c,NC (p:=0<=m.MO/\ _) QR]; rfl
  rw[QY c,NB (p:=0<=m.MO/\ _) QR];by_cases d:m.M0<0
  ·rw[QX d,NC (p:=0<=m.M0/\ _) QR]; rfl
  rw[QY d];by_cases e:m.M0>2147483647
  ·rw[QX e,NC (p:=0<=m.M0/\ _) QR]; rfl
  rw[QY e,NB (p:=0<=m.M0/\ _) QR];by_cases f:v=0
  ·by_cases g:m.M0=0
   ·simp[f,g]
   ·simp[f,g]
  ·simp[f]
 have hc:(if (toR m).MO<0 then some true else (if (toR m).MR<0 then some true else (if (toR m).MR>32767 then some true else (if (toR m).M0<0 then some true else (if (toR m).M0>2147483647 then some true else (if v=0 then (if (toR m).M0=0 then some false else some true) else some false))))))=some (!(who m.MO m.MR && (tmB m.M0 && !(decide (v=0) && decide (m.M0≠0))))):=hc0;rw[hc];have ht:(toR m).MN=m.MN:=rfl;rw[ht];unfold sa;by_cases h0:m.MN.length=0
 ·rw[QX h0,QX (show (m.MN.length:Int)=0 by omega)];cases (who m.MO m.MR && (tmB m.M0 && !(decide (v=0) && decide (m.M0≠0)))) <;> rfl
 ·rw[QY h0,QY (show ¬ (m.MN.length:Int)=0 by omega)];cases (who m.MO m.MR && (tmB m.M0 && !(decide (v=0) && decide (m.M0≠0)))) <;> cases pz m.MN <;> rfl
def okL (m:aR):Prop:=m.MN.length<=1000000/\ ∀ t,t∈m.MN->t.MP.length<=1000000/\t.MV.length<=1000000
theorem sb (a:List di) (v:Int) (hb:a.length<=1000000) (y:Int): ∀ (l:List aR) (k fuel:Nat),a.drop k=l.map toR->l.length<fuel->(∀ m,m∈l->okL m)-> ∃ z,e9 a v fuel y k=some (if ln v l=0 then .go (y,z) else .ret (ln v l))
 | [],k,fuel+1,h,_,_=>by
  have:=fg h;exact⟨k,by rw[e9,QY QR]; rfl⟩
 | m::l,k,fuel+1,h,hf,ho=>by
  obtain⟨h1,h2,h3⟩:=dp h;rw[NJ] at hf;have hm:=ho m (.head _);obtain⟨z,hz⟩:=sb a v hb y l (k+1) fuel h2 QR (fun z hz=>ho z (.tail _ hz));rw[e9,QX QR,h1,NA,Kg v m hm.1 hm.2,NA,ln];by_cases hc:vw v m=0
  ·rw[QX hc,QX QR,QX hc];exact⟨z,hz⟩
  ·rw[QY hc,QY hc];exact⟨0,by rw[QY hc]⟩
theorem GB (v:Int) (l:List aR) (hb:l.length<=1000000) (ho: ∀ m,m∈l->okL m):kj (l.map toR) v=some (od v l):=by
 unfold kj od;rw[NU];by_cases h0:l.length=0
 ·rw[QX QR,QX h0]
 ·obtain⟨z,hz⟩:=sb (l.map toR) v (by rw[NU]; omega) 0 l 0 ((l.length:Int).toNat+1) (List.drop_zero) QR ho;rw[QY QR,QY h0,hz];by_cases hc:ln v l=0
  ·rw[QX hc,hc]; rfl
  ·rw[QY hc]; rfl
def z6 (v:Int):Pr aR:=(fy 8).bind fun p=>(fy 2).bind fun e=>tL.bind fun c=>Ct.bind fun l=>(if v>0 then fy 4 else .ret 0).bind fun k=> .ret ⟨p,e,c,l,k⟩
def mG (v:Int) (m:aR):List UInt8:=be m.MO 8++(be m.MR 2++(jv m.M7++(oc m.MN++(if v>0 then be m.M0 4 else []))))
def okM (v:Int) (m:aR):Prop:=bn m.MO 8=true/\bn m.MR 2=true/\zi m.MN/\(if v>0 then bn m.M0 4=true else m.M0=0)
theorem Sp_co (v:Int):Sp (if v>0 then fy 4 else Pr.ret 0) (fun k=>if v>0 then be k 4 else []) (fun k=>if v>0 then bn k 4=true else k=0):=by
 by_cases hv:v>0
 ·simp only[QX hv];exact spI 4
 ·simp only[QY hv];exact Ij 0
theorem Kh (v:Int):Sp (z6 v) (mG v) (okM v):=by
 refine Sp.congr (Sp.seq (β:=aR) (π:=(·.MO)) (ok2:=fun x:aR=>bn x.MR 2=true/\zi x.MN/\(if v>0 then bn x.M0 4=true else x.M0=0)) (spI 8) fun p =>
  Sp.congr (Sp.seq (β:=aR) (π:=(·.MR)) (ok2:=fun x:aR=>zi x.MN/\(if v>0 then bn x.M0 4=true else x.M0=0)/\x.MO=p) (spI 2) fun e =>
  Sp.congr (Sp.seq (β:=aR) (π:=(·.M7)) (ok2:=fun x:aR=>zi x.MN/\(if v>0 then bn x.M0 4=true else x.M0=0)/\x.MO=p/\x.MR=e) EX fun c =>
  Sp.congr (Sp.seq (β:=aR) (π:=(·.MN)) (ok2:=fun x:aR=>(if v>0 then bn x.M0 4=true else x.M0=0)/\x.MO=p/\x.MR=e/\x.M7=c) vu fun l =>
  Sp.congr (Sp.seq (β:=aR) (π:=(·.M0)) (ok2:=fun x:aR=>x.MO=p/\x.MR=e/\x.M7=c/\x.MN=l) (Sp_co v) fun k =>
  (Ij (β:=aR) _).congr (ok':=fun x:aR=>(x.MO=p/\x.MR=e/\x.M7=c/\x.MN=l)/\x.M0=k) (fun x=> ?_) (fun _ _=>rfl)) (fun x=> ?_) (fun _ _=>rfl)) (fun x=> ?_) (fun _ _=>rfl)) (fun x=> ?_) (fun _ _=>rfl)) (fun x=> ?_) (fun _ _=>rfl)) (fun x=> ?_) (fun x _=>by simp only[mG,oc,NW])
 ·obtain⟨a1,a2,a3,a4,a5⟩:=x;simp only[aR.mk.injEq];exact⟨fun ⟨h,h1,h2,h3,h4⟩=>⟨⟨h,h1,h2,h3⟩,h4⟩,fun ⟨⟨h,h1,h2,h3⟩,h4⟩=>⟨h,h1,h2,h3,h4⟩⟩
 ·exact⟨fun ⟨h,h1,h2,h3,h4⟩=>⟨⟨h,h1,h2,h3⟩,h4⟩,fun ⟨⟨h,h1,h2,h3⟩,h4⟩=>⟨h,h1,h2,h3,h4⟩⟩
 ·exact⟨fun ⟨h,h1,h2,h3,h4⟩=>⟨⟨h,h1,h2,h3⟩,h4⟩,fun ⟨⟨h,h1,h2,h3⟩,h4⟩=>⟨h,h1,h2,h3,h4⟩⟩
 ·exact⟨fun ⟨_,h,h1,h2,h3⟩=>⟨⟨h,h1,h2⟩,h3⟩,fun ⟨⟨h,h1,h2⟩,h3⟩=>⟨trivial,h,h1,h2,h3⟩⟩
 ·exact⟨fun ⟨h,h1,h2,h3⟩=>⟨⟨h,h1,h2⟩,h3⟩,fun ⟨⟨h,h1,h2⟩,h3⟩=>⟨h,h1,h2,h3⟩⟩
 ·exact Iff.rfl
theorem Ki (v:Int) (m:aR) (h:okM v m):15<=(mG v m).length:=by
 have:(jv m.M7).length=1:=aE _ _;simp only[mG,oc,NE,aE];omega
theorem yb (v:Int) (m:aR):15+wTs m.MN<=(mG v m).length/\(mG v m).length<=19+wTs m.MN:=by
 have:(jv m.M7).length=1:=aE _ _;have h2:=lm m.MN;simp only[mG,oc,NE,aE,h2];split <;> simp only[aE,Of] <;> omega
def z7 (v:Int) (st11:I):Option (Option aR×I):=(d9 st11 8).bind fun (x20,st21)=>(d9 st21 2).bind fun (x23,st24)=>(gy st24).bind fun (x26,st27)=>(dW st27).bind fun (x30,st33)=>(if v>0 then ((d9 st33 4).bind fun (x43,st44)=>some (x43,st44)) else some (0,st33)).bind fun (y39,st40)=>if st40.err=0 then some (some ⟨x20,x23,x26,x30,y39⟩,st40) else some (none,st40)
theorem B_co (v:Int):CB (fun st33=>if v>0 then ((d9 st33 4).bind fun (x43,st44)=>some (x43,st44)) else some (0,st33)) (if v>0 then fy 4 else Pr.ret 0) 0:=by
 by_cases hv:v>0
 ·simp only[QX hv];refine CB.congr Q4.cb (fun st=> ?_);cases d9 st 4 <;> rfl
 ·simp only[QY hv];exact⟨fun _ _=>rfl,fun s q _ hq=> .inr ⟨0,q,rfl,rfl,N0 _,hq⟩⟩
theorem w_co (v:Int): ∀ (s:List UInt8) (q:Nat) (a:Int) (r:Nat),s.length<=1000000->q<=s.length->(if v>0 then fy 4 else Pr.ret 0) s q= .ok (a,r)->wI a:=by
 intro s q a r hl hq h;by_cases hv:v>0
 ·rw[QX hv] at h;exact qM QS QS s q a r hl hq h
 ·rw[QY hv] at h;injection h with h;rw[<- (N9 h).1];exact wi0
theorem Kj (v:Int):CB (z7 v) ((z6 v).map some) none:=by
 have h:CB (z7 v) ((fy 8).bind fun p=>(fy 2).bind fun e=>tL.bind fun c=>Ct.bind fun l=>(if v>0 then fy 4 else .ret 0).bind fun k=> .ret (some ⟨p,e,c,l,k⟩)) none:=by
  refine CB.congr (CB.bind wI Q8.cb (qM QS QS) wi0 fun p hp=>CB.bind wI Q2.cb (qM QS QS) wi0 fun e he=>CB.bind (fun _=>True) Ip (fun _ _ _ _ _ _ _=>trivial) trivial fun c _=>CB.bind wTl Cn Iq ⟨(fun t h=>nomatch h),by decide⟩ fun l hl=>CB.bind wI (B_co v) (w_co v) wi0 fun k hk =>
   (?_:CB (fun st40:I=>if st40.err=0 then some (some (⟨p,e,c,l,k⟩:aR),st40) else some ((none:Option aR),st40)) (Pr.ret (some (⟨p,e,c,l,k⟩:aR))) none)) (fun st=>rfl)
  exact⟨fun st h=>QY h,fun s q _ hq=> .inr ⟨_,q,rfl,rfl,N0 _,hq⟩⟩
 refine h.pr ?_;funext s q;unfold z6 Pr.map Pr.bind
 cases fy 8 s q with
 | error e=>rfl
 | ok x =>
  simp only
  cases fy 2 s x.2 with
  | error e=>rfl
  | ok x =>
   simp only
   cases tL s x.2 with
   | error e=>rfl
   | ok x =>
    simp only
    cases Ct s x.2 with
    | error e=>rfl
    | ok x =>
     simp only;cases (if v>0 then fy 4 else Pr.ret 0) s x.2 <;> rfl
theorem Pr.map_err {α β:Type} {p:Pr α} {g:α->β} {s:List UInt8} {q:Nat} {e:Int} (h:p.map g s q= .error e):p s q= .error e:=by
 unfold Pr.map Pr.bind at h
 cases hp:p s q with
 | error e' =>
  rw[hp] at h;injection h with h;rw[h]
 | ok x=>rw[hp] at h; exact nomatch h
theorem Pr.map_ok {α β:Type} {p:Pr α} {g:α->β} {s:List UInt8} {q r:Nat} {y:β} (h:p.map g s q= .ok (y,r)): ∃ a,p s q= .ok (a,r)/\y=g a:=by
 unfold Pr.map Pr.bind at h
 cases hp:p s q with
 | error e'=>rw[hp] at h; exact nomatch h
 | ok x =>
  rw[hp] at h;injection h with h;obtain⟨rfl,rfl⟩:=N9 h;exact⟨x.1,rfl,rfl⟩
theorem Eb {γ:Type} (K:aR->I->Option γ) (D:I->Option γ) (v:Int) (st:I) :
 ((d9 st 8).bind fun (x20,st21)=>(d9 st21 2).bind fun (x23,st24)=>(gy st24).bind fun (x26,st27)=>(dW st27).bind fun (x30,st33)=>(if v>0 then ((d9 st33 4).bind fun (x43,st44)=>some (x43,st44)) else some (0,st33)).bind fun (y39,st40)=>(iF st40).bind fun (x46,st47)=>if x46=0 then K ⟨x20,x23,x26,x30,y39⟩ st47 else D st47) =
 (z7 v st).bind fun (o,st47)=>match o with
  | some m=>K m st47
  | none=>D st47:=by
 unfold z7
 cases d9 st 8 with
 | none=>rfl
 | some x =>
  obtain⟨a1,s1⟩:=x;simp only[NA]
  cases d9 s1 2 with
  | none=>rfl
  | some x =>
   obtain⟨a2,s2⟩:=x;simp only[NA]
   cases gy s2 with
   | none=>rfl
   | some x =>
    obtain⟨a3,s3⟩:=x;simp only[NA]
    cases dW s3 with
    | none=>rfl
    | some x =>
     obtain⟨a4,s4⟩:=x;simp only[NA]
     cases (if v>0 then ((d9 s4 4).bind fun (x43,st44)=>some (x43,st44)) else some (0,s4)) with
     | none=>rfl
     | some x =>
      obtain⟨a5,s5⟩:=x;simp only[NA,bA];by_cases he:s5.err=0
      ·rw[QX he,QX he,NA]
      ·rw[QY he,QY he,NA]
theorem pC (v n:Int) (fuel:Nat) (y4 acc:List aR) (k:Nat) (st:I) (hk:k<=1000000) (ha:acc.length<=1000000) :
 dt v n (fuel+1) y4 acc k st=if (k:Int)<n then (z7 v st).bind fun (o,st47)=>match o with
  | some m=>dt v n fuel y4 (acc ++ [m]) (k+1) st47
  | none=>some (.ret ([],st47)) else some (.go (y4,acc,k,st)):=by
 rw[dt];by_cases h:(k:Int)<n
 case neg=>rw[QY h,QY h]
 rw[QX h,QX h];refine (Eb (fun m st47=>if (acc.length+1)*56<=140737488355328 then (if -9223372036854775808<=((k:Int)+1)/\((k:Int)+1)<=9223372036854775807 then dt v n fuel y4 (acc ++ [m]) (k+1) st47 else none) else none) (fun st47=>some (.ret ([],st47))) v st).trans ?_
 cases z7 v st with
 | none=>rfl
 | some x =>
  obtain⟨o,s⟩:=x;rw[NA,NA]
  cases o with
  | none=>rfl
  | some m =>
   show (if (acc.length+1)*56<=140737488355328 then _ else _)= _;rw[QX QR,QX QR]
theorem yc (v n:Int) (s:List UInt8) (hs:s.length<=1000000) (y:List aR): ∀ (m fuel k:Nat) (acc:List aR) (q:Nat),((k+m:Nat):Int)=n->m<fuel->q<=s.length->acc.length=k->k+m<=1000000 ->
 (∃ e st,jG (z6 v) m s q= .error e/\e≠0/\st.err=e/\dt v n fuel y acc k ⟨s.drop q,q,0⟩=some (.ret ([],st)))\/(∃ l r,jG (z6 v) m s q= .ok (l,r)/\dt v n fuel y acc k ⟨s.drop q,q,0⟩=some (.go (y,acc++l,k+m,⟨s.drop r,r,0⟩))/\q<=r/\r<=s.length)
 | 0,fuel+1,k,acc,q,hn,hf,hq,ha,hk=>by
  refine .inr ⟨[],q,rfl,?_,N0 _,hq⟩;rw[pC _ _ _ _ _ _ _ QR QR,QY QR,NW,Nat.add_zero]
 | m+1,fuel+1,k,acc,q,hn,hf,hq,ha,hk=>by
  rw[pC _ _ _ _ _ _ _ QR QR,QX QR];rcases (Kj v).run s q hs hq with⟨e,st,p1,g1,x1,y1⟩ | ⟨o,r,p1,g1,n1,l1⟩
  ·refine .inl ⟨e,st,?_,by rw[<- x1]; exact y1,x1,?_⟩
   ·rw[jG,Pr.bind_err (Pr.map_err p1)]
   ·rw[g1];rfl
  ·obtain⟨a,p2,rfl⟩:=Pr.map_ok p1;have ih:=yc v n s hs y m fuel (k+1) (acc ++ [a]) r QR QR l1 (by rw[NE,Or,ha]) QR;rw[g1,NA];simp only;rcases ih with⟨e,st,h1,h2,h3,h4⟩ | ⟨l,r',h1,h2,h3,h4⟩
   ·exact .inl ⟨e,st,by rw[jG,Pr.bind_of p2,Pr.bind_err h1],h2,h3,h4⟩
   ·refine .inr ⟨a::l,r',by rw[jG,Pr.bind_of p2,Pr.bind_of h1]; rfl,?_,by omega,h4⟩;rw[h2,NI,show k+1+m=k+(m+1) by omega];rfl
def pMs (v:Int):Pr (List aR):=mi 4 15 (z6 v)
def vV (v:Int) (l:List aR):List UInt8:=be (l.length:Int) 4++bb (mG v) l
theorem Sp_ms (v:Int):Sp (pMs v) (vV v) (fun l=>bn (l.length:Int) 4=true/\ ∀ m,m∈l->okM v m):=xR 4 15 QS QS (Kh v) (Ki v)
def qP (v:Int):Pr (List aR):=(pMs v).bind fun l=>if od v l=0 then .ret l else .err (od v l)
theorem Iv (v:Int):Sp (qP v) (vV v) (fun l=>(bn (l.length:Int) 4=true/\ ∀ m,m∈l->okM v m)/\od v l=0):=by
 refine Sp.congr (Sp.seq (β:=List aR) (π:=id) (ok2:=fun l:List aR=>od v l=0) (Sp_ms v) fun l=>(xS (β:=List aR) _ _ _).congr (ok':=fun x:List aR=>od v x=0/\id x=l) (fun x=> ?_) (fun _ _=>rfl)) (fun x=>Iff.rfl) (fun x _=>by rw[NW]; rfl);exact⟨fun ⟨h1,h2⟩=>⟨by rw[h2]; exact h1,h2⟩,fun ⟨h1,h2⟩=>⟨by have h2:x=l:=h2; rw[<- h2]; exact h1,h2⟩⟩
theorem Iw {l:List Top} (h:zi l) (hw:wTs l<=1000000):wTl l:=by
 have hn:=mF l;refine⟨fun t ht=> ?_,by omega⟩;have hm:=tN _ _ ht;unfold wT at hm;obtain⟨b1,b2,b3⟩:=h.2 t ht;exact⟨by show t.MV.length<= _; omega,by show t.MP.length<= _; omega,fun n hn=>iA (b3 n hn)⟩
theorem okM_co {v:Int} {m:aR} (h:okM v m):wI m.M0:=by
 have:=h.2.2.2;split at this
 ·exact iA this
 ·rw[this]; exact wi0
theorem okM_W {v:Int} {m:aR} (h:okM v m) (hw:wTs m.MN<=1000000):okW m:=⟨iA h.2.1,okM_co h,Iw h.2.2.1 hw⟩
theorem GC (v:Int) (l:List aR) (m:aR) (hm:m∈l):wTs m.MN<=(vV v l).length:=by
 have h1:=pA (enc:=mG v) l m hm;have h2:=(yb v m).1;rw[vV,NE];omega
theorem Ix (l:List UInt8) (q:Nat) (e:Int):ck ⟨l,q,0⟩ e=some (⟨l,q,e⟩:I):=by rw[dB]; rfl
theorem Kk (v:Int):CB (fun st=>gk st v) (qP v) []:=by
 refine⟨fun st h=> ?_,fun s q hs hq=> ?_⟩
 ·show gk st v= _;unfold gk;rw[nD h ⟨by decide,by decide⟩ ⟨by decide,by decide⟩,NA];simp only;rw[show ((0:Int).toNat+1)=0+1 from rfl,pC _ _ _ _ _ _ _ QS QS,QY QS,NA];simp only;rw[bA,NA];simp only;rw[QY h]
 ·show (∃ e st,qP v s q= _/\gk _ v= _/\ _/\ _)\/(∃ a r,qP v s q= _/\gk _ v= _/\ _/\ _);unfold gk;rcases (tK 4 15 QS QS 4 15 rfl rfl QS).run s q hq with⟨e,st,p1,g1,x1,y1⟩ | ⟨n,r,p1,g1,n1,l1⟩
  ·refine .inl ⟨e,st,?_,?_,x1,y1⟩
   ·rw[qP,Pr.bind_err (by rw[pMs,mi,Pr.bind_err p1])]
   ·rw[g1,NA];simp only;rw[show ((0:Int).toNat+1)=0+1 from rfl,pC _ _ _ _ _ _ _ QS QS,QY QS,NA];simp only;rw[bA,NA];simp only;rw[QY y1]
  ·obtain⟨c1,c2,c3,c4,c5,c6⟩:=mR QS QS hq p1;have c2:=c2 QS;rw[g1,NA];simp only;rcases yc v n s hs [] n.toNat (n.toNat+1) 0 [] r QR QR l1 rfl QR with⟨e,st,h1,h2,h3,h4⟩ | ⟨l,r',h1,h2,h3,h4⟩
   ·refine .inl ⟨e,st,?_,?_,h3,by rw[h3]; exact h2⟩
    ·rw[qP,Pr.bind_err (by rw[pMs,mi,Pr.bind_of p1,h1])]
    ·rw[h4];rfl
   ·have hms:pMs v s q= .ok (l,r'):=by rw[pMs,mi,Pr.bind_of p1,h1]
    obtain⟨b1,b2,b3,b4,b5,b6⟩:=(Sp_ms v).spell s q l r' hq hms;have hW: ∀ m,m∈l->okW m:=fun m hm=>okM_W (b6 m hm) (by have:=GC v l m hm; omega);rw[h2,NA];simp only[NV];rw[bA,NA];simp only[if_true];rw[mCheck v l hW,NA,qP,Pr.bind_of hms];by_cases hc:od v l=0
    ·rw[QX hc,QX hc];exact .inr ⟨l,r',rfl,rfl,by omega,h4⟩
    ·rw[QY hc,QY hc,Ix];exact .inl ⟨od v l,_,rfl,rfl,rfl,hc⟩
theorem GD {v:Int} {m:aR} (h:vw v m=0):who m.MO m.MR=true/\(0<=m.M0/\m.M0<=2147483647)/\(v=0->m.M0=0)/\sa m.MN=0:=by
 unfold vw at h;split at h
 ·rename_i h1;simp only[Bool.and_eq_true,tmB,decide_eq_true_eq,Bool.not_eq_true',Bool.and_eq_false_iff,decide_eq_false_iff_not] at h1;refine⟨h1.1,h1.2.1,fun hv=> ?_,h⟩;rcases h1.2.2 with h2 | h2
  ·exact absurd hv h2
  ·exact Classical.byContradiction h2
 ·exact absurd h QS
theorem vW {v:Int}: ∀ {l:List aR},ln v l=0-> ∀ m,m∈l->vw v m=0
 | a::l,h,m,hm=>by
  rw[ln] at h;by_cases hc:vw v a=0
  ·rw[QX hc] at h;rcases List.mem_cons.1 hm with rfl | hm
   ·exact hc
   ·exact vW h m hm
  ·rw[QY hc] at h;exact absurd h hc
theorem Kl {v:Int} (hv:v=0\/v=1) {m:aR} (h:vw v m=0) (hp:wI m.MO) (hw:wTs m.MN<=2000):okM v m:=by
 obtain⟨h1,h2,h3,h4⟩:=GD h;obtain⟨f1,f2⟩:=tP h1 hp;refine⟨f1,f2,⟨by rw[eU]; exact NB (by have:=mF m.MN; omega),Fe (z4 h4).2 hw⟩,?_⟩;rcases hv with rfl | rfl
 ·rw[QY QS]; exact h3 rfl
 ·rw[QX QS,eU]; exact NB QR
theorem vx (v:Int): ∀ (l:List aR) (b:Nat),(∀ m,m∈l->wTs m.MN<=b)->(bb (mG v) l).length<=l.length*(19+b)
 | [],_,_=>by simp[bb]
 | m::l,b,h=>by
  have h1:=(yb v m).2;have h2:=h m (.head _);have h3:=vx v l b (fun z hz=>h z (.tail _ hz));rw[bb,NE,NJ,Nat.add_mul];omega
theorem z8 (v:Int) (hv:v=0\/v=1) (a:List di) (hb:a.length<=1000000): ∀ (l:List aR) (t:List UInt8) (k fuel:Nat),a.drop k=l.map toR->l.length<fuel->(∀ m,m∈l->wI m.MO/\wI m.MR/\wI m.M0/\(∀ x,x∈m.MN->kM x)/\wTs m.MN<=2000)->t.length+(bb (mG v) l).length<=900000-> ∃ z,fa a v fuel t k=some (t++bb (mG v) l,z)
 | [],t,k,fuel+1,h,_,_,_=>by
  have:=fg h;exact⟨k,by rw[fa,QY QR,bb,NW]⟩
 | m::l,t,k,fuel+1,h,hf,hw,ht=>by
  obtain⟨h1,h2,h3⟩:=dp h;rw[NJ] at hf;obtain⟨w1,w2,w3,w4,w5⟩:=hw m (.head _);rw[bb,NE] at ht;have hl:=yb v m;have hb1: ∀ n,(be n 1).length=1:=fun n=>aE n 1;have hb8: ∀ n,(be n 8).length=8:=fun n=>aE n 8;have hb2: ∀ n,(be n 2).length=2:=fun n=>aE n 2;have hb4: ∀ n,(be n 4).length=4:=fun n=>aE n 4;have htl:(be (m.MN.length:Int) 4++bb lU m.MN).length=4+wTs m.MN:=by rw[NE,aE,lm]
  have ih:=fun t' (h':t'.length+(bb (mG v) l).length<=900000)=>z8 v hv a hb l t' (k+1) fuel h2 QR (fun z hz=>hw z (.tail _ hz)) h';have hcm:(if (toR m).M7=true then some (1:Int) else some 0)=some (if m.M7=true then 1 else 0):=by
   show (if m.M7=true then some (1:Int) else some 0)= _;cases m.M7 <;> rfl
  have hci: -9223372036854775808<=(if m.M7=true then (1:Int) else 0)/\(if m.M7=true then (1:Int) else 0)<=9223372036854775807:=by cases m.M7 <;> decide
  rw[fa,QX QR,h1,NA,hcm,NA,bT (toR m).MO _ ⟨w1,by decide,by decide⟩,NA,show (8:Int).toNat=8 from rfl,QX (by rw[hb8]; omega),bT (toR m).MR _ ⟨w2,by decide,by decide⟩,NA,show (2:Int).toNat=2 from rfl,QX (by rw[NE,hb8,hb2]; omega),
   bT _ _ ⟨hci,by decide,by decide⟩,NA,show (1:Int).toNat=1 from rfl,QX (by rw[NE,NE,hb8,hb2,hb1]; omega),show (toR m).MN=m.MN from rfl,Fd _ w4 w5,NA,QX (by rw[NE,NE,NE,hb8,hb2,hb1,htl]; omega)]
  rcases hv with rfl | rfl
  ·have e:mG 0 m=be m.MO 8++(be m.MR 2++(jv m.M7++oc m.MN)):=by rw[mG,QY QS,NW]
   have el:(mG 0 m).length=8+(2+(1+(4+wTs m.MN))):=by rw[e,oc,jv]; simp only[NE,hb8,hb2,hb1,hb4,lm]
   obtain⟨z,hz⟩:=ih ((((t++be (toR m).MO 8)++be (toR m).MR 2)++be (if m.M7=true then 1 else 0) 1)++(be (m.MN.length:Int) 4++bb lU m.MN)) (by rw[NE,NE,NE,NE,hb8,hb2,hb1,htl]; omega);rw[QY QS,NA,QX QR];refine⟨z,hz.trans ?_⟩;rw[bb,e,oc,jv];simp only[NI];rfl
  ·have e:mG 1 m=be m.MO 8++(be m.MR 2++(jv m.M7++(oc m.MN++be m.M0 4))):=by rw[mG,QX QS]
   have el:(mG 1 m).length=8+(2+(1+(4+wTs m.MN+4))):=by rw[e,oc,jv]; simp only[NE,hb8,hb2,hb1,hb4,lm]
   obtain⟨z,hz⟩:=ih (((((t++be (toR m).MO 8)++be (toR m).MR 2)++be (if m.M7=true then 1 else 0) 1)++(be (m.MN.length:Int) 4++bb lU m.MN))++be (toR m).M0 4) (by rw[NE,NE,NE,NE,NE,hb8,hb2,hb1,htl,hb4]; omega);rw[QX rfl,bT (toR m).M0 _ ⟨w3,by decide,by decide⟩,NA,show (4:Int).toNat=4 from rfl,QX (by rw[NE,NE,NE,NE,hb8,hb2,hb1,htl,hb4]; omega),NA,QX QR];refine⟨z,hz.trans ?_⟩;rw[bb,e,oc,jv];simp only[NI];rfl
theorem GE (v:Int) (hv:v=0\/v=1) (l:List aR) (hl:l.length<=100000) (hw: ∀ m,m∈l->wI m.MO/\wI m.MR/\wI m.M0/\(∀ x,x∈m.MN->kM x)/\wTs m.MN<=2000) (ht:(bb (mG v) l).length<=800000):jb (l.map toR) v=some (vV v l):=by
 unfold jb;obtain⟨z,hz⟩:=z8 v hv (l.map toR) (by rw[NU]; omega) l (be (l.length:Int) 4) 0 ((l.length:Int).toNat+1) List.drop_zero QR hw (by rw[aE]; omega);rw[NU,bT _ _ ⟨by omega,by decide,by decide⟩,NA,show (4:Int).toNat=4 from rfl,hz];rfl
theorem tQ (a b:List di) (h0:a.length<=1000000) (y:Bool): ∀ (l u:List aR) (k fuel:Nat),(∀ m,m∈l->m.MN.length<=1000000/\ ∀ t,t∈m.MN->t.MP.length<=140737488355328)->a.drop k=l.map toR->b.drop k=u.map toR->l.length=u.length->l.length<fuel-> ∃ z,fG a b fuel y k=some (if l=u then .go (y,z) else .ret false)
 | [],[],k,fuel+1,_,ha,_,_,_=>by
  have:=fg ha;exact⟨k,by rw[fG,QY QR,QX rfl]⟩
 | [],d::u,k,fuel,_,_,_,hl,_=>by simp at hl
 | c::l,[],k,fuel,_,_,_,hl,_=>by simp at hl
 | c::l,d::u,k,fuel+1,hx,ha,hb,hl,hf=>by
  obtain⟨t1,t2,t3⟩:=dp ha;obtain⟨u1,u2,u3⟩:=dp hb;simp only[NJ] at hl hf;obtain⟨z,hz⟩:=tQ a b h0 y l u (k+1) fuel (fun m hm=>hx m (.tail _ hm)) t2 u2 QR QR;have hc:=hx c (.head _);rw[fG,QX QR,t1,NA,u1,NA];have hq:(if (toR c).MO=(toR d).MO then (if (toR c).MR=(toR d).MR then (if (toR c).M7=true then (if (toR d).M7=true then (if (toR c).M0=(toR d).M0 then ((da (toR c).MN (toR d).MN).bind fun x58=>if x58=true then some false else some true) else some true) else some true) else (if (toR d).M7=true then some true else (if (toR c).M0=(toR d).M0 then ((da (toR c).MN (toR d).MN).bind fun x63=>if x63=true then some false else some true) else some true))) else some true) else some true)=some (!decide (c=d)):=by
   rw[Cp (toR c).MN _ hc.1 hc.2,ya];obtain⟨a1,a2,a3,a4,a5⟩:=c;obtain⟨b1,b2,b3,b4,b5⟩:=d;simp only[aR.mk.injEq,NA,toR];by_cases h1:a1=b1 <;> by_cases h2:a2=b2 <;> by_cases h4:a4=b4 <;> by_cases h5:a5=b5 <;> cases a3 <;> cases b3 <;> simp[h1,h2,h4,h5]
  rw[hq,NA];by_cases hcd:c=d
  ·rw[NB hcd,QY QS,QX QR];refine⟨z,hz.trans ?_⟩;by_cases hlu:l=u
   ·rw[QX hlu,QX (by rw[hcd,hlu])]
   ·rw[QY hlu,QY (fun h=>hlu (List.cons.inj h).2)]
  ·rw[NC hcd,QX QS];exact⟨0,by rw[QY (fun h=>hcd (List.cons.inj h).1)]⟩
theorem Cw (l u:List aR) (h0:l.length<=1000000) (hx: ∀ m,m∈l->m.MN.length<=1000000/\ ∀ t,t∈m.MN->t.MP.length<=140737488355328):jW (l.map toR) (u.map toR)=some (decide (l=u)):=by
 unfold jW;rw[NU,NU];by_cases hl:(l.length:Int)=(u.length:Int)
 ·obtain⟨z,hz⟩:=tQ (l.map toR) (u.map toR) (by rw[NU]; omega) false l u 0 ((l.length:Int).toNat+1) hx List.drop_zero List.drop_zero QR QR;rw[QX hl,hz];by_cases h:l=u
  ·rw[QX h,NB h]; rfl
  ·rw[QY h,NC h]; rfl
 ·rw[QY hl,NC (fun h=>hl (by rw[h]))]
theorem ye (y:Int): ∀ l:List aR,(∀ m,m∈l->oa m)->fZ l y=some (.ret 0)\/(fZ l y=some (.go y)/\ ∀ m,m∈l->wTs m.MN<=1000)
 | [],_=> .inr ⟨rfl,fun m h=>nomatch h⟩
 | a::l,h=>by
  rw[fZ];rcases Im a.MN (h a (.head _)).2.2.2.1.2 with g | ⟨g,hw⟩
  ·rw[g]; exact .inl rfl
  ·rw[g,NA,QY QS];rcases ye y l (fun m hm=>h m (.tail _ hm)) with k | ⟨k,hk⟩
   ·exact .inl k
   ·refine .inr ⟨k,fun m hm=> ?_⟩;rcases List.mem_cons.1 hm with rfl | hm
    ·exact hw
    ·exact hk m hm
theorem few19 (l:List aR) (h: ∀ m,m∈l->oa m):mL l=some 0\/(mL l=some 1/\l.length<=20/\ ∀ m,m∈l->wTs m.MN<=1000):=by
 unfold mL;by_cases hl:(l.length:Int)>20
 ·rw[QX hl]; exact .inl rfl
 rw[QY hl];rcases ye 0 l h with k | ⟨k,hk⟩
 ·rw[k]; exact .inl rfl
 ·rw[k]; exact .inr ⟨rfl,by omega,hk⟩
theorem cA {α:Type} {l:List α} {k:Nat} {x:α} {t:List α} (h:l.drop k=x::t):l[k]? = some x/\l.drop (k+1)=t/\l.length=k+1+t.length:=by
 have hl:=congrArg List.length h;rw[NO,NJ] at hl;refine⟨?_,?_,by omega⟩
 ·have:=congrArg (fun z=>z[0]?) h;simpa using this
 ·rw[<- Om,h];rfl
theorem dg {α:Type} {l:List α} {k:Nat} (h:l.drop k = []):l.length<=k:=List.drop_eq_nil_iff.1 h
def qQ (l:List Hd):Bool:=l.all fun h=>bL h.M3
def ji (r:Rec):Int:=if r.Na<0\/r.Na>2147483647 then 11 else if (bL r.Nd && bL r.M3 && qQ r.M2)=true then 0 else 4
theorem vX (y:Bool): ∀ l:List Bl,ec l y=some (if l.all bL=true then .go y else .ret false)
 | []=>rfl
 | b::l=>by
  rw[ec,ui,NA,List.all_cons,vX y l];cases bL b <;> rfl
theorem z9 (l:List Bl):fX l=some (l.all bL):=by
 unfold fX;rw[vX];cases l.all bL <;> rfl
theorem vY (y:Int): ∀ l:List Hd,eA l y=some (if qQ l=true then .go y else .ret 4)
 | []=>rfl
 | h::l=>by
  rw[eA,z9,NA,vY y l];unfold qQ;rw[List.all_cons,List.all_cons,List.all_nil,Bool.and_true];cases bL h.M3 <;> rfl
theorem tR (r:Rec) (hw:wI r.Na):fS r=some (ji r):=by
 unfold fS ji;by_cases h:r.Na<0
 ·rw[QX h,QX (.inl h)]
 rw[QY h,gL _ _ hw,eU,NA];by_cases h2:r.Na>2147483647
 ·rw[QY (by simp; omega),QX (.inr h2)]
 rw[QX (by simp; omega),QY QR,z9,NA,vY];simp only[List.all_cons,List.all_nil,Bool.and_true];cases bL r.Nd <;> cases bL r.M3 <;> cases qQ r.M2 <;> rfl
theorem Iy (b:Bl):mN b=some (!bL b):=by
 unfold mN bL;obtain⟨n,d⟩:=b;cases n
 ·rfl
 ·cases d <;> simp
theorem Cx (a0:List Hd) (hb:a0.length<=1000000) (y:Bool): ∀ (l:List Hd) (k fuel:Nat),a0.drop k=l->l.length<fuel-> ∃ z,eu a0 fuel y k=some (if qQ l=true then .go (y,z) else .ret false)
 | [],k,fuel+1,h,hf=>by
  have:=dg h;exact⟨k,by rw[eu,QY QR]; rfl⟩
 | x::l,k,fuel+1,h,hf=>by
  obtain⟨h1,h2,h3⟩:=cA h;rw[NJ] at hf;obtain⟨z,hz⟩:=Cx a0 hb y l (k+1) fuel h2 QR;rw[eu,QX QR,h1,NA];have e:qQ (x::l)=(bL x.M3 && qQ l):=rfl;rw[e];by_cases hn:x.M3.null=true
  ·rw[QX hn];by_cases hd:x.M3.data = []
   ·rw[QX hd,QX QR,hz];have:bL x.M3=true:=by unfold bL; rw[hd]; simp
    rw[this,Bool.true_and];exact⟨z,rfl⟩
   ·rw[QY hd];have:bL x.M3=false:=by unfold bL; rw[hn]; simp[hd]
    rw[this];exact⟨0,rfl⟩
  ·rw[QY hn,QX QR,hz];have:bL x.M3=true:=by unfold bL; simp[hn]
   rw[this,Bool.true_and];exact⟨z,rfl⟩
theorem GF (a0:List Hd) (hb:a0.length<=1000000):lH a0=some (qQ a0):=by
 unfold lH;obtain⟨z,hz⟩:=Cx a0 hb false a0 0 (((a0.length:Int)).toNat+1) rfl QR;rw[hz];cases qQ a0 <;> rfl
theorem GG (r:Rec) (hb:r.M2.length<=1000000):ke r=some (ji r):=by
 unfold ke ji;by_cases h:r.Na<0
 ·rw[QX h,QX (.inl h)]
 rw[QY h];by_cases h2:r.Na>2147483647
 ·rw[QX h2,QX (.inr h2)]
 rw[QY h2,QY QR,Iy,Iy,GF _ hb];cases bL r.Nd <;> cases bL r.M3 <;> cases qQ r.M2 <;> rfl
theorem yf (l:List UInt8) (p:Nat) (h:2<=l.length):fk ⟨l,p,0⟩ 2=(ek (l.take 2),⟨l.drop 2,p+2,0⟩):=AM l p 2 QS QS h
theorem Iz (l:List UInt8) (p:Nat) (h:4<=l.length):fk ⟨l,p,0⟩ 4=(ek (l.take 4),⟨l.drop 4,p+4,0⟩):=AM l p 4 QS QS h
theorem qR (l:List UInt8) (p:Nat) (h:l.length<2):fk ⟨l,p,0⟩ 2=(0,⟨l,p,1⟩):=so l p 2 QS QS QR
theorem Cy (l:List UInt8) (p:Nat) (h:l.length<4):fk ⟨l,p,0⟩ 4=(0,⟨l,p,1⟩):=so l p 4 QS QS QR
theorem Bn (l:List UInt8) (p:Nat) (e n:Int) (h:e≠0):fk ⟨l,p,e⟩ n=(0,⟨l,p,e⟩):=oE (st:=⟨l,p,e⟩) h n
theorem iB (l:List UInt8) (p:Nat) (e:Int) (h:e≠0):fM ⟨l,p,e⟩=⟨l,p,e⟩:=xa (st:=⟨l,p,e⟩) h
theorem Fj (l:List UInt8) (p:Nat) (e f:Int) (h:e≠0):dz ⟨l,p,e⟩ f=⟨l,p,e⟩:=uf (st:=⟨l,p,e⟩) h f
theorem wK (l:List UInt8) (p:Nat) (f:Int):dz ⟨l,p,0⟩ f=⟨l,p,f⟩:=by simp[dz]
theorem Cz (l:List UInt8) (p:Nat):fM ⟨l,p,0⟩=⟨l,p,if l = [] then 0 else 2⟩:=by unfold fM; split <;> simp_all [dz]
theorem tS {l:List UInt8} {n:Nat} (h:n<=l.length):l.drop n = [] ↔ ¬ (l.length:Int)>n:=by rw[List.drop_eq_nil_iff]; omega
theorem IA (l:List UInt8) (hl:l.length<=9223372036854775807):ez l=jL l:=by
 unfold ez jL dM;simp only[kp l QR,kq,gM,dB,NA];by_cases h2:l.length<2
 ·have h2i:(l.length:Int)<2:=by omega
  simp[qR l 0 h2,Bn,iB,Fj,h2i]
 have h2i: ¬ (l.length:Int)<2:=by omega
 have h2j:2<=(l.length:Int):=by omega
 rw[yf l 0 QR,QY h2i,QX (show 2<=l.length by omega),ta _ (by simp; omega)];simp only[NA];by_cases h0:ek (l.take 2)=0
 ·rw[QX h0,QX h0];simp only[NA];by_cases h4:l.length<4
  ·have h4i:(l.length:Int)<4:=by omega
   simp[qR (l.drop 2) (0+2) (by simp; omega),iB,h4i]
  have h4i: ¬ (l.length:Int)<4:=by omega
  rw[yf _ _ (by simp; omega),QY h4i,QX (show 4<=l.length by omega),ta _ (by simp; omega)];simp only[NA,Om,Cz,wK];have hd:=tS (l:=l) (n:=4) QR;generalize ek ((l.drop 2).take 2)=k;by_cases h5:(l.length:Int)>4
  ·have hd2: ¬ l.drop (2+2) = []:=fun h=>(hd.1 h) h5;by_cases k0:k=0
   ·simp[hd2,h5,iB,k0]
   ·by_cases k1:k=1 <;> simp[hd2,h5,iB,k0,k1]
  ·have hd2:l.drop (2+2) = []:=hd.2 h5;by_cases k0:k=0
   ·simp[hd2,h5,iB,k0]
   ·by_cases k1:k=1 <;> simp[hd2,h5,iB,k0,k1]
 ·rw[QY h0,QY h0];simp[wK,Bn,iB]
theorem Ec (l:List UInt8) (hl:l.length<=9223372036854775807):dK l=ir l:=by
 unfold dK ir dM;simp only[kp l QR,kq,gM,dB,NA];by_cases h2:l.length<2
 ·have h2i:(l.length:Int)<2:=by omega
  simp[qR l 0 h2,Bn,iB,Fj,h2i]
 have h2i: ¬ (l.length:Int)<2:=by omega
 have h2j:2<=(l.length:Int):=by omega
 rw[yf l 0 QR,QY h2i,QX (show 2<=l.length by omega),ta _ (by simp; omega)];simp only[NA];by_cases h0:ek (l.take 2)=0
 ·rw[QX h0,QX h0];simp only[NA];by_cases h4:l.length<6
  ·have h4i:(l.length:Int)<6:=by omega
   simp[Cy (l.drop 2) (0+2) (by simp; omega),iB,h4i]
  have h4i: ¬ (l.length:Int)<6:=by omega
  rw[Iz _ _ (by simp; omega),QY h4i,QX (show 6<=l.length by omega),ta _ (by simp; omega)];simp only[NA,Om,Cz,wK];have hd:=tS (l:=l) (n:=6) QR;generalize ek ((l.drop 2).take 4)=k;by_cases h5:(l.length:Int)>6
  ·have hd2: ¬ l.drop (2+4) = []:=fun h=>(hd.1 h) h5;by_cases k0:k<0 <;> simp[hd2,h5,iB,k0]
  ·have hd2:l.drop (2+4) = []:=hd.2 h5;by_cases k0:k<0 <;> simp[hd2,h5,iB,k0]
 ·rw[QY h0,QY h0];simp[wK,Bn,iB]
theorem Bo (r:Rec) (h1:r.Nd.data.length<=9223372036854775807) (h2:r.M3.data.length<=9223372036854775807):dX r=iT r:=by
 unfold dX iT;rw[IA _ h1,Ec _ h2]
def fV:List Rec->Int
 | []=>0
 | r::l=>if ji r=0 then fV l else ji r
theorem Aa (y:Int): ∀ l:List Rec,(∀ r,r∈l->wI r.Na)->eL l y=some (if fV l=0 then .go y else .ret (fV l))
 | [],h=>rfl
 | r::l,h=>by
  rw[eL,tR _ (h r (.head _)),NA,Aa y l (fun x hx=>h x (.tail _ hx)),fV];by_cases hr:ji r=0
  ·rw[QX hr,QX hr]
  ·rw[QY hr,QY hr,QY hr]
theorem Ab (y:Int): ∀ l:List Rec,(∀ r,r∈l->wI r.Na)->eM l y=some (if fV l=0 then .go y else .ret (fV l))
 | [],h=>rfl
 | r::l,h=>by
  rw[eM,tR _ (h r (.head _)),NA,Ab y l (fun x hx=>h x (.tail _ hx)),fV];by_cases hr:ji r=0
  ·rw[QX hr,QX hr]
  ·rw[QY hr,QY hr,QY hr]
theorem Ac (a:Bat) (hb:a.MS.length<=1000000) (hh: ∀ r,r∈a.MS->r.M2.length<=1000000) (y:Int): ∀ (l:List Rec) (k fuel:Nat),a.MS.drop k=l->l.length<fuel-> ∃ z,dT a fuel y k=some (if fV l=0 then .go (y,z) else .ret (fV l))
 | [],k,fuel+1,h,hf=>by
  have:=dg h;exact⟨k,by rw[dT,QY QR]; rfl⟩
 | r::l,k,fuel+1,h,hf=>by
  obtain⟨h1,h2,h3⟩:=cA h;rw[NJ] at hf;obtain⟨z,hz⟩:=Ac a hb hh y l (k+1) fuel h2 QR;rw[dT,QX QR,h1,NA,GG _ (hh r (List.mem_of_getElem? h1)),NA,fV];by_cases hr:ji r=0
  ·rw[QX hr,QX hr,QX QR];exact⟨z,hz⟩
  ·rw[QY hr,QY hr];exact⟨0,by rw[QY hr]⟩
theorem Ad (a:Bat): ∀ (fuel:Nat) (y:Int) (k:Nat),fQ a fuel y k=dT a fuel y k
 | 0,y,k=>rfl
 | fuel+1,y,k=>by
  rw[fQ,dT];simp only[Ad a fuel]
def sJ (F t:Int):Prop:=t>9223372036854775807 - F\/t < -F
instance (F t:Int):Decidable (sJ F t):=by unfold sJ; infer_instance
def Bp (F L:Int):Int->Int->List Rec->Except Int Int
 | p,m,[]=> .ok m
 | p,m,r::l=>if r.Na<=p\/r.Na>L then .error 13 else if sJ F r.Nk then .error 11 else Bp F L r.Na (if m<F+r.Nk then F+r.Nk else m) l
theorem GH {F t:Int} (h0:0<=F) (h1:F<=9223372036854775807) (ht:wI t):(sJ F t->(IntKind.i64.wrap (F+t)<0))/\(¬ sJ F t->IntKind.i64.wrap (F+t)=F+t/\0<=F+t):=by
 obtain⟨t0,t1⟩:=ht;unfold sJ;rw[IntKind.wrap_i64];constructor
 ·intro h;omega
 ·intro h;omega
theorem Fk (a:Bat) (h0:0<=a.M4) (h1:a.M4<=9223372036854775807) (y:Int): ∀ (l:List Rec) (p m:Int),(∀ r,r∈l->wI r.Nk)->(∃ e,Bp a.M4 a.Nf p m l= .error e/\cm a l y p m=some (.ret e))\/(∃ p' m',Bp a.M4 a.Nf p m l= .ok m'/\cm a l y p m=some (.go (y,p',m')))
 | [],p,m,h=> .inr ⟨p,m,rfl,rfl⟩
 | r::l,p,m,h=>by
  have ih:=fun p m=>Fk a h0 h1 y l p m (fun x hx=>h x (.tail _ hx));obtain⟨w1,w2⟩:=GH h0 h1 (h r (.head _));rw[cm,Bp];by_cases c1:r.Na<=p
  ·rw[QX c1,QX (.inl c1)];exact .inl ⟨_,rfl,rfl⟩
  rw[QY c1];by_cases c2:r.Na>a.Nf
  ·rw[QX c2,QX (.inr c2)];exact .inl ⟨_,rfl,rfl⟩
  rw[QY c2,QY QR];by_cases c3:sJ a.M4 r.Nk
  ·rw[QX c3,QX (w1 c3)];exact .inl ⟨_,rfl,rfl⟩
  obtain⟨w3,w4⟩:=w2 c3;rw[QY c3,w3,QY (show ¬ a.M4+r.Nk<0 by omega),QY (show ¬ a.M4+r.Nk<r.Nk by omega),ite_self];by_cases c4:m<a.M4+r.Nk
  ·rw[QX c4,QX c4];exact ih _ _
  ·rw[QY c4,QY c4];exact ih _ _
theorem Bq (a:Bat) (h0:0<=a.M4) (h1:a.M4<=9223372036854775807) (hb:a.MS.length<=1000000) (y:Int): ∀ (l:List Rec) (p m:Int) (k fuel:Nat),a.MS.drop k=l->l.length<fuel->(k=0->p= -1)->(0<k-> ∃ r,a.MS[k - 1]? = some r/\r.Na=p/\0<=p) ->
 (∃ e,Bp a.M4 a.Nf p m l= .error e/\cL a fuel y k=some (.ret e))\/(∃ m' z,Bp a.M4 a.Nf p m l= .ok m'/\cL a fuel y k=some (.go (y,z)))
 | [],p,m,k,fuel+1,h,hf,hk0,hk1=>by
  have:=dg h;exact .inr ⟨m,k,rfl,by rw[cL,QY QR]⟩
 | r::l,p,m,k,fuel+1,h,hf,hk0,hk1=>by
  obtain⟨g1,g2,g3⟩:=cA h;rw[NJ] at hf;rw[cL,QX QR,g1,NA,Bp];have hp: -1<=p:=by
   rcases Nat.eq_zero_or_pos k with hk | hk
   ·have:=hk0 hk; omega
   ·obtain⟨_,_,_,h5⟩:=hk1 hk; omega
  have ih:=fun (hge:0<=r.Na) m=>Bq a h0 h1 hb y l r.Na m (k+1) fuel g2 QR (fun h=>absurd h QR) (fun _=>⟨r,g1,rfl,hge⟩);have tail:0<=r.Na->((if -9223372036854775808<=(9223372036854775807 - a.M4)/\(9223372036854775807 - a.M4)<=9223372036854775807 then (if r.Nk>(9223372036854775807 - a.M4) then some (Lp.ret (11:Int)) else (if -9223372036854775808<=(-a.M4)/\(-a.M4)<=9223372036854775807 then (if r.Nk<(-a.M4) then some (Lp.ret 11) else (if -9223372036854775808<=((k:Int)+1)/\((k:Int)+1)<=9223372036854775807 then (cL a fuel y (k+1)) else none)) else none)) else none))=if sJ a.M4 r.Nk then some (.ret 11) else cL a fuel y (k+1):=by
   intro hge;rw[QX QR];by_cases c1:r.Nk>9223372036854775807 - a.M4
   ·rw[QX c1,QX (show sJ a.M4 r.Nk from .inl c1)]
   rw[QY c1,QX QR];by_cases c2:r.Nk < -a.M4
   ·rw[QX c2,QX (show sJ a.M4 r.Nk from .inr c2)]
   rw[QY c2,QY (show ¬ sJ a.M4 r.Nk by unfold sJ; omega),QX QR]
  by_cases c2:r.Na>a.Nf
  ·rw[QX c2,QX (.inr c2)];exact .inl ⟨_,rfl,rfl⟩
  rw[QY c2];rcases Nat.eq_zero_or_pos k with hk | hk
  ·have hp1:=hk0 hk;rw[QY (show ¬ (k:Int)>0 by omega)];by_cases c3:r.Na<0
   ·rw[QX c3,QX (show r.Na<=p\/r.Na>a.Nf by omega)];exact .inl ⟨_,rfl,rfl⟩
   rw[QY c3,QY (show ¬ (r.Na<=p\/r.Na>a.Nf) by omega),tail QR];by_cases c4:sJ a.M4 r.Nk
   ·rw[QX c4,QX c4];exact .inl ⟨_,rfl,rfl⟩
   ·rw[QY c4,QY c4];exact ih QR _
  ·obtain⟨q,q1,q2,q3⟩:=hk1 hk;rw[QX (show (k:Int)>0 by omega),QX (show -9223372036854775808<=(k:Int) - 1/\(k:Int) - 1<=9223372036854775807 by omega),QX (show 0<=(k:Int) - 1 by omega),show ((k:Int) - 1).toNat=k - 1 by omega,q1,NA,q2];by_cases c1:r.Na<=p
   ·rw[QX c1,QX (.inl c1)];exact .inl ⟨_,rfl,rfl⟩
   rw[QY c1,QY (show ¬ r.Na<0 by omega),QY (show ¬ (r.Na<=p\/r.Na>a.Nf) by omega),tail QR];by_cases c4:sJ a.M4 r.Nk
   ·rw[QX c4,QX c4];exact .inl ⟨_,rfl,rfl⟩
   ·rw[QY c4,QY c4];exact ih QR _
theorem Fl (a:Bat) (h0:0<=a.M4) (h1:a.M4<=9223372036854775807) (hb:a.MS.length<=1000000) (y:Int): ∀ (l:List Rec) (p m m':Int) (k fuel:Nat),a.MS.drop k=l->l.length<fuel->Bp a.M4 a.Nf p m l= .ok m'->(∀ r,r∈l->wI r.Nk)-> ∃ z,ew a fuel y m k=some (.go (y,m',z))
 | [],p,m,m',k,fuel+1,h,hf,ho,hw=>by
  have:=dg h;injection ho with ho;subst ho;exact⟨k,by rw[ew,QY QR]⟩
 | r::l,p,m,m',k,fuel+1,h,hf,ho,hw=>by
  obtain⟨g1,g2,g3⟩:=cA h;rw[NJ] at hf;rw[Bp] at ho;split at ho
  ·exact nomatch ho
  split at ho
  ·exact nomatch ho
  rename_i hb2;have ht:=hw r (.head _);have ht0:=ht.1;have ht1:=ht.2;unfold sJ at hb2;rw[ew,QX QR,g1,NA,QX QR,QY QR,QX QR,QY QR,QX QR];obtain⟨z,hz⟩:=Fl a h0 h1 hb y l r.Na _ m' (k+1) fuel g2 QR ho (fun x hx=>hw x (.tail _ hx));by_cases c:m<a.M4+r.Nk
  ·rw[QX c] at hz;rw[QX c,QX QR,QX QR];exact⟨z,hz⟩
  ·rw[QY c] at hz;rw[QY c,QX QR];exact⟨z,hz⟩
theorem yg (a:Bat) (h0:0<=a.M4) (h1:a.M4<=9223372036854775807) (hb:a.MS.length<=1000000) (hw: ∀ r,r∈a.MS->wI r.Nk): ∃ e,d7 a=some e/\gf a=some e:=by
 unfold d7 gf nS;rcases Fk a h0 h1 0 a.MS (-1) a.M4 hw with⟨e,g1,g2⟩ | ⟨p',m',g1,g2⟩
 ·rcases Bq a h0 h1 hb 0 a.MS (-1) a.M4 0 (((a.MS.length:Int)).toNat+1) rfl QR (fun _=>rfl) (fun h=>absurd h QR) with⟨e2,k1,k2⟩ | ⟨m2,z,k1,k2⟩
  ·rw[g1] at k1;injection k1 with k1;subst k1;exact⟨e,by rw[g2]; rfl,by rw[k2]; rfl⟩
  ·rw[g1] at k1;exact nomatch k1
 ·rcases Bq a h0 h1 hb 0 a.MS (-1) a.M4 0 (((a.MS.length:Int)).toNat+1) rfl QR (fun _=>rfl) (fun h=>absurd h QR) with⟨e2,k1,k2⟩ | ⟨m2,z,k1,k2⟩
  ·rw[g1] at k1;exact nomatch k1
  ·obtain⟨z2,hz2⟩:=Fl a h0 h1 hb 0 a.MS (-1) a.M4 m' 0 (((a.MS.length:Int)).toNat+1) rfl QR g1 hw;rw[g2,k2,hz2];simp only[NA];by_cases ha:a.Nq=true
   ·exact⟨0,by rw[QX ha],by rw[QX ha]⟩
   ·rw[QY ha];by_cases hm:m'=a.Nn
    ·exact⟨0,by rw[QX hm],by rw[QX hm]⟩
    ·exact⟨11,by rw[QY hm],by rw[QY hm]⟩
def lW (a:Bat):Prop:=0<=a.Ng/\(-1<=a.M9/\a.M9<=2147483647)/\(0<=a.Nf/\a.Nf<=2147483647)/\a.Ng+a.Nf<=9223372036854775807/\0<=a.M4/\0<=a.Nn
instance (a:Bat):Decidable (lW a):=by unfold lW; infer_instance
theorem Ed (a:Bat) (h1:wI a.Ng) (h2:wI a.M9) (h3:wI a.Nf):iy a=some (decide (lW a)):=by
 obtain⟨u1,u2⟩:=h1;unfold iy;rw[gL _ _ h2,gL _ _ h3,eU,eU,IntKind.wrap_i64];have no: ∀ {b:Bool},¬ lW a->b=false->some b=some (decide (lW a)):=fun h hb=>by rw[NC h,hb]
 by_cases c1:a.Ng>=0
 ·rw[QX c1];by_cases c2:a.M9>= -1
  ·rw[QX c2,NA];by_cases c3: -2147483648<=a.M9/\a.M9<=2147483647
   ·rw[QX (NB c3)];by_cases c4:a.Nf>=0
    ·rw[QX c4,NA];by_cases c5: -2147483648<=a.Nf/\a.Nf<=2147483647
     ·rw[QX (NB c5)];by_cases c6:a.Ng+a.Nf<=9223372036854775807
      ·rw[QX QR];by_cases c7:a.M4>=0
       ·rw[QX c7];by_cases c8:a.Nn>=0
        ·rw[QX c8,NB (show lW a from ⟨c1,⟨c2,by omega⟩,⟨c4,by omega⟩,c6,c7,c8⟩)]
        ·rw[QY c8]; exact no (fun h=>c8 h.2.2.2.2.2) rfl
       ·rw[QY c7]; exact no (fun h=>c7 h.2.2.2.2.1) rfl
      ·rw[QY QR]; exact no (fun h=>c6 h.2.2.2.1) rfl
     ·rw[QY (by rw[decide_eq_true_eq]; exact c5)]; exact no (fun h=>by have:=h.2.2.1; omega) rfl
    ·rw[QY c4]; exact no (fun h=>c4 h.2.2.1.1) rfl
   ·rw[QY (by rw[decide_eq_true_eq]; exact c3)]; exact no (fun h=>by have:=h.2.1; omega) rfl
  ·rw[QY c2]; exact no (fun h=>c2 h.2.1.1) rfl
 ·rw[QY c1]; exact no (fun h=>c1 h.1) rfl
theorem vy (n k:Int):ie n k=some (decide (k<=n/\n<=2147483647)):=by
 unfold ie;by_cases h1:n>=k
 ·rw[QX h1];by_cases h2:n<=2147483647
  ·rw[QX h2,NB ⟨h1,h2⟩]
  ·rw[QY h2,NC (fun h=>h2 h.2)]
 ·rw[QY h1,NC (fun h=>h1 h.1)]
def jH (a:Bat):Prop:=if a.MO= -1 then a.MR= -1/\a.M5= -1/\a.Ni=false else 0<=a.MO/\(0<=a.MR/\a.MR<=32767)/\(if a.Nl=true then a.M5= -1 else 0<=a.M5/\a.M5<=2147483647)
instance (a:Bat):Decidable (jH a):=by unfold jH; infer_instance
theorem yh (n:Int):bn n 2=decide (-32768<=n/\n<=32767):=by
 rw[Bool.eq_iff_iff];unfold bn;simp only[Bool.and_eq_true,decide_eq_true_eq];have:(2:Int) ^ (8*(2:Int).toNat - 1)=32768:=by decide
 omega
theorem vZ (a:Bat) (h1:wI a.MR) (h2:wI a.M5):fL a=some (decide (jH a))/\gO a=some (decide (jH a)):=by
 unfold fL gO;rw[gL _ _ h1,gL _ _ h2,eU,yh,vy];unfold jH;obtain⟨b0,b1,b2,tx,ct,b5,b6,b7,P,E,S,rs⟩:=a;simp only;clear h1 h2;by_cases c1:P= -1
 ·simp only[QX c1];by_cases c2:E= -1
  ·simp only[QX c2];by_cases c3:S= -1
   ·simp only[QX c3];cases tx <;> simp[c2,c3]
   ·simp[c3]
  ·simp[c2]
 ·simp only[QY c1,NA];cases ct
  ·simp only[Bool.false_eq_true,if_false];constructor
   ·by_cases d1:P>=0
    ·by_cases d2:E>=0
     ·by_cases d3: -32768<=E/\E<=32767
      ·by_cases d4:S>=0
       ·by_cases d5: -2147483648<=S/\S<=2147483647
        ·rw[QX d1,QX d2,QX (NB d3),QX d4,QX (NB d5),NB QR]
        ·rw[QX d1,QX d2,QX (NB d3),QX d4,QY (by rw[decide_eq_true_eq]; exact d5),NC QR]
       ·rw[QX d1,QX d2,QX (NB d3),QY d4,NC QR]
      ·rw[QX d1,QX d2,QY (by rw[decide_eq_true_eq]; exact d3),NC QR]
     ·rw[QX d1,QY d2,NC QR]
    ·rw[QY d1,NC QR]
   ·by_cases d1:P<0
    ·rw[QX d1,NC QR]
    rw[QY d1];by_cases d2:E<0
    ·rw[QX d2,NC QR]
    rw[QY d2];by_cases d3:E>32767
    ·rw[QX d3,NC QR]
    rw[QY d3];by_cases d4:0<=S/\S<=2147483647
    ·rw[NB d4,NB QR]
    ·rw[NC d4,NC QR]
  ·simp only[if_true];constructor
   ·by_cases d1:P>=0
    ·by_cases d2:E>=0
     ·by_cases d3: -32768<=E/\E<=32767
      ·by_cases d4:S>= -1
       ·by_cases d5: -2147483648<=S/\S<=2147483647
        ·by_cases d6:S= -1
         ·rw[QX d1,QX d2,QX (NB d3),QX d4,QX (NB d5),QX d6,NB QR]
         ·rw[QX d1,QX d2,QX (NB d3),QX d4,QX (NB d5),QY d6,NC QR]
        ·rw[QX d1,QX d2,QX (NB d3),QX d4,QY (by rw[decide_eq_true_eq]; exact d5),NC QR]
       ·rw[QX d1,QX d2,QX (NB d3),QY d4,NC QR]
      ·rw[QX d1,QX d2,QY (by rw[decide_eq_true_eq]; exact d3),NC QR]
     ·rw[QX d1,QY d2,NC QR]
    ·rw[QY d1,NC QR]
   ·by_cases d1:P<0
    ·rw[QX d1,NC QR]
    rw[QY d1];by_cases d2:E<0
    ·rw[QX d2,NC QR]
    rw[QY d2];by_cases d3:E>32767
    ·rw[QX d3,NC QR]
    rw[QY d3];by_cases d4:S= -1
    ·rw[QX d4,NB QR]
    ·rw[QY d4,NC QR]
theorem IB (l:List UInt8) (hl:l.length<=1000000): ∃ x,ez l=some x:=by
 unfold ez dM;simp only[kp l QR,kq,gM,dB,NA];generalize fk ⟨l,0,0⟩ 2=x;by_cases h:x.1=0
 ·simp only[QX h,NA];generalize fk x.2 2=y;split
  ·split <;> exact⟨_,rfl⟩
  ·split
   ·split <;> exact⟨_,rfl⟩
   ·split <;> exact⟨_,rfl⟩
 ·simp only[QY h,NA];generalize fk (dz x.2 7) 2=y;split
  ·split <;> exact⟨_,rfl⟩
  ·split
   ·split <;> exact⟨_,rfl⟩
   ·split <;> exact⟨_,rfl⟩
theorem Ee (l:List UInt8) (hl:l.length<=1000000): ∃ x,dK l=some x:=by
 unfold dK dM;simp only[kp l QR,kq,gM,dB,NA];generalize fk ⟨l,0,0⟩ 2=x;by_cases h:x.1=0
 ·simp only[QX h,NA];generalize fk x.2 4=y;split
  ·split <;> exact⟨_,rfl⟩
  ·split <;> exact⟨_,rfl⟩
 ·simp only[QY h,NA];generalize fk (dz x.2 7) 4=y;split
  ·split <;> exact⟨_,rfl⟩
  ·split <;> exact⟨_,rfl⟩
theorem Br (r:Rec) (h1:r.Nd.data.length<=1000000) (h2:r.M3.data.length<=1000000): ∃ x1 x2 x3,dX r=some (x1,x2,x3):=by
 obtain⟨⟨k1,k2⟩,hk⟩:=IB _ h1;obtain⟨⟨v1,v2⟩,hv⟩:=Ee _ h2;unfold dX;rw[hk,hv];simp only[NA];split
 ·exact⟨_,_,_,rfl⟩
 split
 ·exact⟨_,_,_,rfl⟩
 split
 ·exact⟨_,_,_,rfl⟩
 split
 ·split
  ·split
   ·exact⟨_,_,_,rfl⟩
   ·exact⟨_,_,_,rfl⟩
  ·exact⟨_,_,_,rfl⟩
 ·exact⟨_,_,_,rfl⟩
def Bt (a:Bat) (cr e0:Int):Int:=if lW a then (if a.Nl=true then (if a.Ni=true then (if jH a then (if (a.MS.length:Int)=1 then (if fV a.MS=0 then (if cr=0 then e0 else cr) else fV a.MS) else 10) else 11) else 8) else (if jH a then (if fV a.MS=0 then e0 else fV a.MS) else 11)) else 11
theorem bchk (a:Bat) (hw:ot a) (cr e0:Int) (hc:lW a->d7 a=some e0) (hr:(a.MS.length:Int)=1-> ∃ r x1 x2,a.MS[0]? = some r/\dX r=some (x1,x2,cr)):dY a=some (Bt a cr e0):=by
 obtain⟨w1,w2,w3,w4,w5,w6,w7,w8,w9,w10,w11,w12⟩:=hw;have hoff: ∀ r,r∈a.MS->wI r.Na:=fun r h=>(w12.2 r h).2.1;unfold dY Bt;rw[Ed a w1 w2 w6,(vZ a w10 w11).1,Aa _ _ hoff,Ab _ _ hoff];by_cases hn:lW a
 ·rw[NB hn,NA,QX rfl,QX hn,hc hn];by_cases hct:a.Nl=true
  ·rw[QX hct,QX hct];by_cases ht:a.Ni=true
   ·rw[QX ht,QX ht,NA];by_cases hp:jH a
    ·rw[NB hp,QX rfl,QX hp];by_cases hl:(a.MS.length:Int)=1
     ·obtain⟨r,x1,x2,r1,r2⟩:=hr hl;rw[QX hl,QX hl,r1];by_cases hf:fV a.MS=0
      ·simp only[QX hf,NA,r2];split <;> rfl
      ·simp only[QY hf,NA]
     ·rw[QY hl,QY hl]
    ·rw[NC hp,QY QS,QY hp]
   ·rw[QY ht,QY ht]
  ·rw[QY hct,QY hct,NA];by_cases hp:jH a
   ·rw[NB hp,QX rfl,QX hp];by_cases hf:fV a.MS=0
    ·simp only[QX hf,NA]
    ·simp only[QY hf,NA]
   ·rw[NC hp,QY QS,QY hp]
 ·rw[NC hn,NA,QY QS,QY hn]
theorem rchk (a:Bat) (hw:ot a) (hb:a.MS.length<=1000000) (hh: ∀ r,r∈a.MS->r.M2.length<=1000000) (cr e0:Int) (hc:lW a->gf a=some e0) (hr:(a.MS.length:Int)=1-> ∃ r x1 x2,a.MS[0]? = some r/\iT r=some (x1,x2,cr)):iU a=some (Bt a cr e0):=by
 obtain⟨w1,w2,w3,w4,w5,w6,w7,w8,w9,w10,w11,w12⟩:=hw;obtain⟨z,hz⟩:=Ac a hb hh 0 a.MS 0 (((a.MS.length:Int)).toNat+1) rfl QR;have b1:=w1.1;have b2:=w1.2;unfold iU Bt;rw[vy,vy,(vZ a w10 w11).2];simp only[Ad];rw[hz];by_cases hn:lW a
 ·obtain⟨n1,n2,n3,n4,n5,n6⟩:=id hn;rw[QY (show ¬ a.Ng<0 by omega),NB n2,NA,QX rfl,NB n3,NA,QX rfl,QX (show -9223372036854775808<=9223372036854775807 - a.Ng/\9223372036854775807 - a.Ng<=9223372036854775807 by omega),QY (show ¬ a.Nf>9223372036854775807 - a.Ng by omega),QY (show ¬ a.M4<0 by omega),QY (show ¬ a.Nn<0 by omega),QX hn,hc hn];by_cases hct:a.Nl=true
  ·rw[QX hct,QX hct];by_cases ht:a.Ni=true
   ·rw[QX ht,QX ht,NA];by_cases hp:jH a
    ·rw[NB hp,QX rfl,QX hp];by_cases hl:(a.MS.length:Int)=1
     ·obtain⟨r,x1,x2,r1,r2⟩:=hr hl;rw[QX hl,QX hl,r1];by_cases hf:fV a.MS=0
      ·simp only[QX hf,NA,r2];split <;> rfl
      ·simp only[QY hf,NA]
     ·rw[QY hl,QY hl]
    ·rw[NC hp,QY QS,QY hp]
   ·rw[QY ht,QY ht]
  ·rw[QY hct,QY hct,NA];by_cases hp:jH a
   ·rw[NB hp,QX rfl,QX hp];by_cases hf:fV a.MS=0
    ·simp only[QX hf,NA]
    ·simp only[QY hf,NA]
   ·rw[NC hp,QY QS,QY hp]
 ·rw[QY hn];unfold lW at hn;by_cases c1:a.Ng<0
  ·rw[QX c1]
  rw[QY c1,NA];by_cases c2: -1<=a.M9/\a.M9<=2147483647
  ·rw[NB c2,QX rfl,NA];by_cases c3:0<=a.Nf/\a.Nf<=2147483647
   ·rw[NB c3,QX rfl,QX (show -9223372036854775808<=9223372036854775807 - a.Ng/\9223372036854775807 - a.Ng<=9223372036854775807 by omega)];by_cases c4:a.Nf>9223372036854775807 - a.Ng
    ·rw[QX c4]
    rw[QY c4];by_cases c5:a.M4<0
    ·rw[QX c5]
    rw[QY c5,QX (show a.Nn<0 by omega)]
   ·rw[NC c3,QY QS]
  ·rw[NC c2,QY QS]
theorem yi (a:Bat) (hw:ot a) (hb:a.MS.length<=1000000) (hr: ∀ r,r∈a.MS->r.M2.length<=1000000/\r.Nd.data.length<=1000000/\r.M3.data.length<=1000000): ∃ cr e0,dY a=some (Bt a cr e0)/\iU a=some (Bt a cr e0)/\(lW a->d7 a=some e0)/\((a.MS.length:Int)=1-> ∃ r x1 x2,a.MS[0]? = some r/\dX r=some (x1,x2,cr)/\iT r=some (x1,x2,cr)):=by
 have htim: ∀ r,r∈a.MS->wI r.Nk:=fun r h=>(hw.2.2.2.2.2.2.2.2.2.2.2.2 r h).1;have hF:=hw.2.2.2.2.2.2.1;obtain⟨e0,he⟩: ∃ e0,lW a->d7 a=some e0/\gf a=some e0:=by
  by_cases hn:lW a
  ·obtain⟨e0,h1,h2⟩:=yg a hn.2.2.2.2.1 hF.2 hb htim;exact⟨e0,fun _=>⟨h1,h2⟩⟩
  ·exact⟨0,fun h=>absurd h hn⟩
 obtain⟨cr,hcr⟩: ∃ cr,(a.MS.length:Int)=1-> ∃ r x1 x2,a.MS[0]? = some r/\dX r=some (x1,x2,cr)/\iT r=some (x1,x2,cr):=by
  by_cases hl:(a.MS.length:Int)=1
  ·obtain⟨r,hrec⟩: ∃ r,a.MS = [r]:=List.length_eq_one_iff.1 QR;have h3:=hr r (by rw[hrec]; exact .head _);obtain⟨x1,x2,x3,h4⟩:=Br r h3.2.1 h3.2.2;have h5:=Bo r QR QR;exact⟨x3,fun _=>⟨r,x1,x2,by rw[hrec]; rfl,h4,by rw[<- h5]; exact h4⟩⟩
  ·exact⟨0,fun h=>absurd h hl⟩
 refine⟨cr,e0,bchk a hw cr e0 (fun h=>(he h).1) (fun h=> ?_),rchk a hw hb (fun r h=>(hr r h).1) cr e0 (fun h=>(he h).2) (fun h=> ?_),fun h=>(he h).1,hcr⟩
 ·obtain⟨r,x1,x2,h1,h2,h3⟩:=hcr h;exact⟨r,x1,x2,h1,h2⟩
 ·obtain⟨r,x1,x2,h1,h2,h3⟩:=hcr h;exact⟨r,x1,x2,h1,h3⟩
theorem Pr.bind_assoc {α β γ:Type} (p:Pr α) (f:α->Pr β) (g:β->Pr γ):(p.bind f).bind g=p.bind fun a=>(f a).bind g:=by
 funext s q;unfold Pr.bind
 cases p s q with
 | error e=>rfl
 | ok x=>rfl
theorem Pr.ret_bind {α β:Type} (a:α) (f:α->Pr β):(Pr.ret a).bind f=f a:=by
 funext s q;rfl
def CA:List Nat->Pr (List Int)
 | []=> .ret []
 | k::ks=>(fy k).bind fun a=>(CA ks).bind fun l=> .ret (a::l)
def rV:List Nat->List Int->List UInt8
 | k::ks,x::xs=>be x k++rV ks xs
 | _,_ => []
def okI:List Nat->List Int->Prop
 | [],[]=>True
 | k::ks,x::xs=>bn x k=true/\okI ks xs
 | _,_=>False
theorem Bu: ∀ ks:List Nat,(∀ k,k∈ks->1<=k/\k<=8)->Sp (CA ks) (rV ks) (okI ks)
 | [],_=>by
  refine⟨fun s q l r hq h=> ?_,fun s t q l hq hl hd=> ?_⟩
  ·injection h with h;obtain⟨rfl,rfl⟩:=N9 h;exact⟨N0 _,hq,rfl,by simp[rV],trivial⟩
  ·cases l with
   | nil=>rfl
   | cons x xs=>exact nomatch hl
 | k::ks,hk=>by
  have hp:=ei k (hk k (List.mem_cons_self ..)).1 (hk k (List.mem_cons_self ..)).2;have ih:=Bu ks (fun j hj=>hk j (List.mem_cons_of_mem _ hj));refine⟨fun s q l r hq h=> ?_,fun s t q l hq hl hd=> ?_⟩
  ·obtain⟨a,m,h1,h2⟩:=Pr.bind_ok h;obtain⟨xs,m2,h3,h4⟩:=Pr.bind_ok h2;injection h4 with h4;obtain⟨rfl,rfl⟩:=N9 h4;obtain⟨a1,a2,a3,a4,a5⟩:=hp.spell s q a m hq h1;obtain⟨b1,b2,b3,b4,b5⟩:=ih.spell s m xs m2 a2 h3;exact⟨by omega,b2,by simp only[rV,NE]; omega,by rw[b4,a4,rV,NI],a5,b5⟩
  ·cases l with
   | nil=>exact nomatch hl
   | cons x xs =>
    rw[rV,NI] at hd;have h1:=hp.back s _ q x hq hl.1 hd;have hl2:=congrArg List.length hd;rw[NO,NE] at hl2;have h2:=ih.back s t _ xs QR hl.2 (cz hd);rw[CA,Pr.bind_of h1,Pr.bind_of h2,rV,NE,<- Nat.add_assoc];rfl
def KS:List Nat := [8,4,4,1,4,2,4,8,8,8,2,4,4]
theorem KS_ok: ∀ k,k∈KS->1<=k/\k<=8:=by decide
def s32 (n:Int):Int:=if n>2147483647 then n - 4294967296 else n
def toL (p:Pfx):List Int := [p.Ng,p.Nm,p.M9,2,s32 p.Nr,p.Nu,p.Nf,p.M4,p.Nn,p.MO,p.MR,p.M5,p.Nt]
def ckE (b m ct:Int):Int:=if m=2 then (if b<49 then 4 else if ct<0 then 10 else 0) else 6
def chkP:List Int->Pr Pfx
 | [a,b,c,m,s,at',la,fi,mx,pr,ep,sq,ct]=>if ckE b m ct=0 then .ret ⟨a,b,c,s % 4294967296,at',la,fi,mx,pr,ep,sq,ct⟩ else .err (ckE b m ct)
 | _=> .err 1
def GI:Pr Pfx:=(CA KS).bind chkP
def pD (p:Pfx):List UInt8:=rV KS (toL p)
def okP (p:Pfx):Prop:=okI KS (toL p)/\(0<=p.Nr/\p.Nr<=4294967295)/\49<=p.Nm/\0<=p.Nt
theorem Fm: ∀ {ks:List Nat} {l:List Int},okI ks l->l.length=ks.length
 | [],[],_=>rfl
 | k::ks,x::xs,h=>by rw[NJ,NJ,Fm h.2]
 | [],_ :: _,h=>nomatch h
 | _ :: _,[],h=>nomatch h
theorem CC: ∀ {ks:List Nat} {l:List Int},okI ks l->(rV ks l).length=ks.sum
 | [],[],_=>rfl
 | k::ks,x::xs,h=>by rw[rV,NE,aE,CC h.2,List.sum_cons]
 | [],_ :: _,h=>nomatch h
 | _ :: _,[],h=>nomatch h
theorem len13 {l:List Int} (h:l.length=13): ∃ a b c m s t la fi mx pr ep sq ct,l = [a,b,c,m,s,t,la,fi,mx,pr,ep,sq,ct]:=by
 match l,h with
 | [a,b,c,m,s,t,la,fi,mx,pr,ep,sq,ct],_=>exact⟨a,b,c,m,s,t,la,fi,mx,pr,ep,sq,ct,rfl⟩
theorem IC {s:Int} (h:bn s 4=true):s32 (s % 4294967296)=s:=by
 rw[eU] at h;have:=of_decide_eq_true h;unfold s32;split <;> omega
theorem Km {s:Int} (h:0<=s/\s<=4294967295):s32 s % 4294967296=s:=by
 unfold s32;split <;> omega
theorem ID {b m ct:Int} (h:ckE b m ct=0):m=2/\49<=b/\0<=ct:=by
 unfold ckE at h;by_cases h1:m=2
 ·rw[QX h1] at h;by_cases h2:b<49
  ·rw[QX h2] at h; cases h
  ·rw[QY h2] at h;by_cases h3:ct<0
   ·rw[QX h3] at h; cases h
   ·exact⟨h1,by omega,by omega⟩
 ·rw[QY h1] at h; cases h
theorem ckE_of {b ct:Int} (h1:49<=b) (h2:0<=ct):ckE b 2 ct=0:=by
 unfold ckE;rw[QX rfl,QY QR,QY QR]
theorem Eg:Sp GI pD okP:=by
 refine⟨fun s q p r hq h=> ?_,fun s t q p hq hp hd=> ?_⟩
 ·obtain⟨l,m,h1,h2⟩:=Pr.bind_ok h;obtain⟨a1,a2,a3,a4,a5⟩:=(Bu KS KS_ok).spell s q l m hq h1;obtain⟨a,b,c,mg,sm,t,la,fi,mx,pr,ep,sq,ct,rfl⟩:=len13 (Fm a5);have hs:bn sm 4=true:=a5.2.2.2.2.1;unfold chkP at h2;dsimp only at h2;by_cases hc:ckE b mg ct=0
  ·rw[QX hc] at h2;injection h2 with h2;obtain⟨rfl,rfl⟩:=N9 h2;obtain⟨rfl,c2,c3⟩:=ID hc;have e:toL ⟨a,b,c,sm % 4294967296,t,la,fi,mx,pr,ep,sq,ct⟩ = [a,b,c,2,sm,t,la,fi,mx,pr,ep,sq,ct]:=by
    unfold toL;rw[IC hs]
   unfold pD okP;rw[e];exact⟨a1,a2,a3,a4,a5,by show 0<=sm % 4294967296/\sm % 4294967296<=4294967295; omega,c2,c3⟩
  ·rw[QY hc] at h2;exact nomatch h2
 ·have h1:=(Bu KS KS_ok).back s t q (toL p) hq hp.1 hd;rw[GI,Pr.bind_of h1];unfold toL chkP;dsimp only;rw[QX (ckE_of hp.2.2.1 hp.2.2.2),Km hp.2.1];rfl
theorem and32 (n:Int):Go.bits .and .i64 n 4294967295=n % 4294967296:=by
 rw[show (4294967295:Int)=((4294967295:Nat):Int) from rfl,Bb n _ QS,show (4294967295:Nat)=2 ^ 32 - 1 from rfl,Nat.and_two_pow_sub_one_eq_mod];omega
def zP:Pfx:=⟨0,0,0,0,0,0,0,0,0,0,0,0⟩
def IE (a b c m s t la fi mx pr ep sq ct:Int) (st:I):Option (Pfx×I):=(iF st).bind fun (x57,st58)=>(if x57=0 then ((if m=2 then ((if b<49 then ((ck st58 4).bind fun st164=>some st164) else ((if ct<0 then ((ck st58 10).bind fun st172=>some st172) else some st58).bind fun st169=>some st169)).bind fun st161=>some st161) else ((ck st58 6).bind fun st174=>some st174)).bind fun st147=>some st147) else some st58).bind fun st117=>(iF st117).bind fun (x176,st177)=>if x176=0 then (some ((⟨a,b,c,(Go.bits .and .i64 s 4294967295),t,la,fi,mx,pr,ep,sq,ct⟩:Pfx),st177)) else (some ((⟨0,0,0,0,0,0,0,0,0,0,0,0⟩:Pfx),st177))
theorem B_tail (a b c m s t la fi mx pr ep sq ct:Int):CB (IE a b c m s t la fi mx pr ep sq ct) (chkP [a,b,c,m,s,t,la,fi,mx,pr,ep,sq,ct]) zP:=by
 refine Bj (fun st h=> ?_) (fun st h=> ?_)
 ·unfold IE;rw[bA,NA];dsimp only;rw[QY h,NA,bA,NA];dsimp only;rw[QY h];rfl
 ·obtain⟨l,q,e⟩:=st;obtain rfl:e=0:=h;unfold IE ckE;rw[bA,NA];dsimp only;rw[QX rfl,and32];by_cases h1:m=2
  ·rw[QX h1,QX h1];by_cases h2:b<49
   ·rw[QX h2,QX h2,QY QS]; rfl
   ·rw[QY h2,QY h2];by_cases h3:ct<0
    ·rw[QX h3,QX h3,QY QS]; rfl
    ·rw[QY h3,QY h3,QX rfl]; rfl
  ·rw[QY h1,QY h1,QY QS]; rfl
theorem B_pfx:CB (fun st=>lB st) GI zP:=by
 have w: ∀ {p:Pr Int} (s:List UInt8) (q:Nat) (a:Int) (r:Nat),s.length<=1000000->q<=s.length->p s q= .ok (a,r)->(fun _:Int=>True) a:=fun _ _ _ _ _ _ _=>trivial
 have h:=CB.bind (fun _=>True) Q8.cb w trivial fun a _=>CB.bind (fun _=>True) Q4.cb w trivial fun b _=>CB.bind (fun _=>True) Q4.cb w trivial fun c _=>CB.bind (fun _=>True) Q1.cb w trivial fun m _=>CB.bind (fun _=>True) Q4.cb w trivial fun s _ =>
  CB.bind (fun _=>True) Q2.cb w trivial fun t _=>CB.bind (fun _=>True) Q4.cb w trivial fun la _=>CB.bind (fun _=>True) Q8.cb w trivial fun fi _=>CB.bind (fun _=>True) Q8.cb w trivial fun mx _=>CB.bind (fun _=>True) Q8.cb w trivial fun pr _ =>
  CB.bind (fun _=>True) Q2.cb w trivial fun ep _=>CB.bind (fun _=>True) Q4.cb w trivial fun sq _=>CB.bind (fun _=>True) Q4.cb w trivial fun ct _=>B_tail a b c m s t la fi mx pr ep sq ct
 refine (h.congr (fun st=>rfl)).pr ?_;unfold GI KS;simp only[CA,Pr.bind_assoc,Pr.ret_bind]
def r64 (n:Int):Prop:= -9223372036854775808<=n/\n<=9223372036854775807
def wrI:List Nat->List Int->List UInt8×Int->Option (List UInt8×Int)
 | k::ks,x::xs,st=>(ed st x (k:Int)).bind fun st=>wrI ks xs st
 | _,_,st=>some st
theorem IF: ∀ (ks:List Nat) (l:List Int) (t:List UInt8),okI ks l->t.length+ks.sum<=1000000->wrI ks l (t,0)=some (t++rV ks l,0)
 | [],[],t,_,_=>by unfold wrI rV; rw[NW]
 | [],_ :: _,_,h,_=>nomatch h
 | _ :: _,[],_,h,_=>nomatch h
 | k::ks,x::xs,t,h,hl=>by
  rw[List.sum_cons] at hl;rw[wrI,J6 h.1 QR,NA,OB,IF ks xs _ h.2 (by rw[NE,aE]; omega),rV,NI]
def w32 (n:Int):Int:=IntKind.i32.wrap (IntKind.u32.wrap n)
theorem Kn (n:Int): -2147483648<=w32 n/\w32 n<=2147483647:=by
 unfold w32;rw[IntKind.wrap_i32];omega
theorem w32_s {n:Int} (h:0<=n/\n<=4294967295):w32 n=s32 n:=by
 unfold w32 s32;rw[IntKind.wrap_i32,IntKind.wrap_u32];split <;> omega
def toW (p:Pfx):List Int := [p.Ng,p.Nm,p.M9,2,w32 p.Nr,p.Nu,p.Nf,p.M4,p.Nn,p.MO,p.MR,p.M5,p.Nt]
def wP (p:Pfx):Prop:=r64 p.Ng/\r64 p.Nm/\r64 p.M9/\r64 p.Nr/\r64 p.Nu/\r64 p.Nf/\r64 p.M4/\r64 p.Nn/\r64 p.MO/\r64 p.MR/\r64 p.M5/\r64 p.Nt
theorem IG (st:List UInt8×Int) (p:Pfx):ff st p=wrI KS (toW p) (if p.Nr<0\/p.Nr>4294967295 then mS st 11 else st):=by
 have hw:=Kn p.Nr;unfold ff;have e:((if p.Nr<0 then some true else (if p.Nr>4294967295 then some true else some false)).bind fun y4=>(if y4=true then ((l7 st 11).bind fun st14=>some st14) else some st))=some (if p.Nr<0\/p.Nr>4294967295 then mS st 11 else st):=by
  by_cases h1:p.Nr<0
  ·rw[QX h1,NA,QX rfl,QX (.inl h1)]; rfl
  ·rw[QY h1];by_cases h2:p.Nr>4294967295
   ·rw[QX h2,NA,QX rfl,QX (.inr h2)]; rfl
   ·rw[QY h2,NA,QY QS,QY QR]
 have e2: ∀ (K:List UInt8×Int->Option (List UInt8×Int)),((if p.Nr<0 then some true else (if p.Nr>4294967295 then some true else some false)).bind fun y4=>(if y4=true then ((l7 st 11).bind fun st14=>some st14) else some st).bind K)=K (if p.Nr<0\/p.Nr>4294967295 then mS st 11 else st):=by
  intro K;rw[<- Option.bind_assoc,e,NA]
 rw[e2];show (if -9223372036854775808<=w32 p.Nr/\w32 p.Nr<=9223372036854775807 then _ else _)= _;rw[QX QR];rfl
def okWp (p:Pfx):Prop:=okI KS (toL p)/\0<=p.Nr/\p.Nr<=4294967295
theorem tT {p:Pfx} (h:okI KS (toL p)):(pD p).length=61:=by
 unfold pD;rw[CC h];rfl
theorem IH {p:Pfx} (t:List UInt8) (h:okWp p) (ht:t.length<=900000):ff (t,0) p=some (t++pD p,0):=by
 have e:toW p=toL p:=by
  unfold toW toL;rw[w32_s h.2]
 have h2:=h.2;rw[IG,QY QR,e];exact IF KS (toL p) t h.1 (by show t.length+61<= _; omega)
def kN (p:Pfx):List Int := [p.Ng,p.Nm,p.M9,p.Nr,p.Nu,p.Nf,p.M4,p.Nn,p.MO,p.MR,p.M5,p.Nt]
theorem gv (l:List Int) (m:Nat) (y4 acc:List UInt8) (y5:Bool) (k:Nat) (x:Int) (z:Nat) (hk:k<12) (h3:k≠3) (hx:l[k]? = some x) (hz : [(8:Int),4,4,4,2,4,8,8,8,2,4,4][k]? = some (z:Int)) (h8:z<=8) (hr:r64 x) (ha:acc.length<=1000) :
 cB l (m+1) y4 y5 acc k=if bn x z=true then cB l m y4 y5 (acc++be x z) (k+1) else some (.ret ([],false)):=by
 rw[cB,QX QR,hx,NA,QY QR,hz,NA,zy _ _ hr,NA];by_cases h:bn x z=true
 ·rw[QX h,QX h,bT _ _ ⟨hr,by omega,by omega⟩,NA,OB,QX (by rw[aE]; omega),QX QR]
 ·rw[QY h,QY h]
theorem II (l:List Int) (m:Nat) (y4 acc:List UInt8) (y5:Bool) (x:Int) (hx:l[3]? = some x) (hr:r64 x) (ha:acc.length<=1000) :
 cB l (m+1) y4 y5 acc 3=if (0<=x/\x<=4294967295) then (if bn (s32 x) 4=true then cB l m y4 y5 (acc++be 2 1++be (s32 x) 4) 4 else some (.ret ([],false))) else some (.ret ([],false)):=by
 obtain⟨r1,r2⟩:=hr;rw[cB,QX QS,hx,NA,QX QS];by_cases h:0<=x/\x<=4294967295
 ·have e1:(if x<0 then some true else (if x>4294967295 then some true else some false))=some false:=by rw[QY QR,QY QR]
  have e2:(if x>2147483647 then (if -9223372036854775808<=(x - 4294967296)/\(x - 4294967296)<=9223372036854775807 then some (x - 4294967296) else none) else some x)=some (s32 x):=by
   unfold s32;by_cases q:x>2147483647
   ·rw[QX q,QX q,QX QR]
   ·rw[QY q,QY q]
  have e3:r64 (s32 x):=by unfold s32 r64; split <;> omega
  rw[e1,NA,QY QS,e2,NA,bT _ _ ⟨by decide,by decide,by decide⟩,NA,QX (by rw[aE]; show _+1<= _; omega),QX h];show ((some (4:Int)).bind _)= _;rw[NA,zy _ _ e3,NA];by_cases hf:bn (s32 x) 4=true
  ·rw[QX hf,QX hf,bT _ _ ⟨e3,by decide,by decide⟩,NA,QX (by rw[NE,aE,aE]; show _+1+4<= _; omega),QX QS];rfl
  ·rw[QY hf,QY hf]
 ·have e1:(if x<0 then some true else (if x>4294967295 then some true else some false))=some true:=by
   by_cases q:x<0
   ·rw[QX q]
   ·rw[QY q,QX QR]
  rw[e1,NA,QX rfl,QY h]
theorem rb_end (l:List Int) (m:Nat) (y4 acc:List UInt8) (y5:Bool):cB l (m+1) y4 y5 acc 12=some (.go (y4,y5,acc,12)):=by
 rw[cB,QY QS]
open Classical in
theorem Ae (p:Pfx) (hw:wP p):g8 (kN p)=some (if okWp p then (pD p,true) else ([],false)):=by
 obtain⟨h1,h2,h3,h4,h5,h6,h7,h8,h9,h10,h11,h12⟩:=hw;unfold g8;rw[show (12:Int).toNat+1=12+1 from rfl];have no: ¬ okWp p-> ∀ (o:Option (Lp (List UInt8×Bool) (List UInt8×Bool×List UInt8×Nat))),o=some (.ret ([],false))->(o.bind fun e=>match e with | .ret r=>some r | .go (y55,y56,y57,k58)=>some (y57,true))=some (if okWp p then (pD p,true) else ([],false)):=by
  intro h o ho;rw[ho,QY h];rfl
 by_cases f1:bn p.Ng (8:Nat)=true;rotate_left
 ·exact no (fun h=>f1 h.1.1) _ (by rw[gv (kN p) 12 [] [] false 0 p.Ng 8 QS QS rfl rfl QS h1 QS,QY f1])
 by_cases f2:bn p.Nm (4:Nat)=true;rotate_left
 ·exact no (fun h=>f2 h.1.2.1) _ (by rw[gv (kN p) 12 [] [] false 0 p.Ng 8 QS QS rfl rfl QS h1 QS,QX f1,gv (kN p) 11 [] _ false 1 p.Nm 4 QS QS rfl rfl QS h2 (by simp[aE]),QY f2])
 by_cases f3:bn p.M9 (4:Nat)=true;rotate_left
 ·exact no (fun h=>f3 h.1.2.2.1) _ (by rw[gv (kN p) 12 [] [] false 0 p.Ng 8 QS QS rfl rfl QS h1 QS,QX f1,gv (kN p) 11 [] _ false 1 p.Nm 4 QS QS rfl rfl QS h2 (by simp[aE]),QX f2,
   gv (kN p) 10 [] _ false 2 p.M9 4 QS QS rfl rfl QS h3 (by simp[aE]),QY f3])
 rw[gv (kN p) 12 [] [] false 0 p.Ng 8 QS QS rfl rfl QS h1 QS,QX f1,gv (kN p) 11 [] _ false 1 p.Nm 4 QS QS rfl rfl QS h2 (by simp[aE]),QX f2,
  gv (kN p) 10 [] _ false 2 p.M9 4 QS QS rfl rfl QS h3 (by simp[aE]),QX f3,II (kN p) 9 [] _ false p.Nr rfl h4 (by simp[aE])]
 by_cases g4:0<=p.Nr/\p.Nr<=4294967295;rotate_left
 ·exact no (fun h=>g4 h.2) _ (by rw[QY g4])
 rw[QX g4];by_cases f4:bn (s32 p.Nr) 4=true;rotate_left
 ·exact no (fun h=>f4 h.1.2.2.2.2.1) _ (by rw[QY f4])
 rw[QX f4,gv (kN p) 8 [] _ false 4 p.Nu 2 QS QS rfl rfl QS h5 (by simp[aE])];by_cases f5:bn p.Nu (2:Nat)=true;rotate_left
 ·exact no (fun h=>f5 h.1.2.2.2.2.2.1) _ (by rw[QY f5])
 rw[QX f5,gv (kN p) 7 [] _ false 5 p.Nf 4 QS QS rfl rfl QS h6 (by simp[aE])];by_cases f6:bn p.Nf (4:Nat)=true;rotate_left
 ·exact no (fun h=>f6 h.1.2.2.2.2.2.2.1) _ (by rw[QY f6])
 rw[QX f6,gv (kN p) 6 [] _ false 6 p.M4 8 QS QS rfl rfl QS h7 (by simp[aE])];by_cases f7:bn p.M4 (8:Nat)=true;rotate_left
 ·exact no (fun h=>f7 h.1.2.2.2.2.2.2.2.1) _ (by rw[QY f7])
 rw[QX f7,gv (kN p) 5 [] _ false 7 p.Nn 8 QS QS rfl rfl QS h8 (by simp[aE])];by_cases f8:bn p.Nn (8:Nat)=true;rotate_left
 ·exact no (fun h=>f8 h.1.2.2.2.2.2.2.2.2.1) _ (by rw[QY f8])
 rw[QX f8,gv (kN p) 4 [] _ false 8 p.MO 8 QS QS rfl rfl QS h9 (by simp[aE])];by_cases f9:bn p.MO (8:Nat)=true;rotate_left
 ·exact no (fun h=>f9 h.1.2.2.2.2.2.2.2.2.2.1) _ (by rw[QY f9])
 rw[QX f9,gv (kN p) 3 [] _ false 9 p.MR 2 QS QS rfl rfl QS h10 (by simp[aE])];by_cases f10:bn p.MR (2:Nat)=true;rotate_left
 ·exact no (fun h=>f10 h.1.2.2.2.2.2.2.2.2.2.2.1) _ (by rw[QY f10])
 rw[QX f10,gv (kN p) 2 [] _ false 10 p.M5 4 QS QS rfl rfl QS h11 (by simp[aE])];by_cases f11:bn p.M5 (4:Nat)=true;rotate_left
 ·exact no (fun h=>f11 h.1.2.2.2.2.2.2.2.2.2.2.2.1) _ (by rw[QY f11])
 rw[QX f11,gv (kN p) 1 [] _ false 11 p.Nt 4 QS QS rfl rfl QS h12 (by simp[aE])];by_cases f12:bn p.Nt (4:Nat)=true;rotate_left
 ·exact no (fun h=>f12 h.1.2.2.2.2.2.2.2.2.2.2.2.2.1) _ (by rw[QY f12])
 have hok:okWp p:=⟨⟨f1,f2,f3,rfl,f4,f5,f6,f7,f8,f9,f10,f11,f12,trivial⟩,g4⟩;rw[QX f12,rb_end,NA,QX hok];dsimp only;unfold pD KS toL;simp only[rV,NI,NV,NW]
theorem lq {st:I} (h:st.err≠0):cY st=some (⟨false,[]⟩,st):=QV.dead st h
theorem Ko {st:I} (h:st.err≠0):xk st=some ([],st):=QN.dead st h
theorem Eh:CQ pK (qH 32) 0:=(Bh 32 (.inl rfl)).cq (lD 32 (.inl rfl))
theorem wM {st:I} (h:st.err≠0):pK st=some (0,st):=Eh.dead st h
def tU (each:Nat):Pr Int:=(qH 32).bind (tJ each)
theorem Ei {each:Nat} {s:List UInt8} {q r:Nat} {n:Int} (hq:q<=s.length) (h:tU each s q= .ok (n,r)):0<=n/\(0<each->n*each<=((s.length - r:Nat):Int))/\q<=r/\r=q+(cO (bw n)).length/\r<=s.length/\s.take r=s.take q++cO (bw n)/\bw n<2 ^ (32:Int).toNat:=by
 obtain⟨m,r',h2,h⟩:=Pr.bind_ok h;obtain⟨a1,a2,a3,a4,a5⟩:=(lD 32 (.inl rfl)).spell _ _ _ _ hq h2;unfold tJ at h;split at h
 ·exact nomatch h
 ·rename_i hn;split at h
  ·exact nomatch h
  ·rename_i he;injection h with h;obtain⟨rfl,rfl⟩:=N9 h;refine⟨by omega,fun hz=> ?_,a1,a3,a2,a4,a5⟩;have:m<=((s.length - r':Nat):Int) / each:=by
    rcases Int.lt_or_le (((s.length - r':Nat):Int) / each) m with g | g
    ·exact absurd ⟨hz,g⟩ he
    ·exact g
   exact (Int.le_ediv_iff_mul_le QR).1 this
theorem Ej {each:Nat} {s t:List UInt8} {q:Nat} {n:Int} (hq:q<=s.length) (hf:bw n<2 ^ (32:Int).toNat) (hn:0<=n) (h:s.drop q=cO (bw n)++t) (hl:0<each->n*each<=t.length):tU each s q= .ok (n,q+(cO (bw n)).length):=by
 have g:=(lD 32 (.inl rfl)).back s t q n hq hf h;rw[tU,Pr.bind_of g];unfold tJ;have hlen:=congrArg List.length h;rw[NO,NE] at hlen;rw[QY QR,QY];rintro⟨hz,hc⟩;have:=(Int.le_ediv_iff_mul_le (show (0:Int)<each by omega)).2 (hl hz);rw[show s.length - (q+(cO (bw n)).length)=t.length by omega] at hc;omega
def Fo {α:Type} (each:Nat) (p:Pr α):Pr (List α):=(tU each).bind fun n=>jG p n.toNat
theorem Kp {α:Type} {p:Pr α} {enc:α->List UInt8} {ok:α->Prop} (each:Nat) (hp:Sp p enc ok) (he: ∀ x,ok x->each<=(enc x).length):Sp (Fo each p) (fun l=>cO (bw (l.length:Int))++bb enc l) (fun l=>bw (l.length:Int)<2 ^ (32:Int).toNat/\ ∀ x,x∈l->ok x):=by
 refine⟨fun s q a r hq h=> ?_,fun s t q a hq ha h=> ?_⟩
 ·obtain⟨n,q1,g1,h⟩:=Pr.bind_ok h;obtain⟨a1,a2,a3,a4,a5,a6,a7⟩:=Ei hq g1;obtain⟨b1,b2,b3,b4,b5,b6⟩:=(xQ hp n.toNat).spell _ _ _ _ a5 h;have hn:(a.length:Int)=n:=by omega
  refine⟨by omega,b2,by rw[NE,hn]; omega,by rw[b4,a6,hn,NI],by rw[hn]; exact a7,b6⟩
 ·rw[NI] at h;have hl:=congrArg List.length h;rw[NO,NE,NE] at hl;have g1:=Ej (each:=each) hq ha.1 QR h (fun _=>by
   have:=ob he a ha.2;rw[NE,Int.natCast_add,<- Int.natCast_mul];omega)
  have h2:=cz h;have g2:=(xQ hp a.length).back _ _ _ _ QR ⟨rfl,ha.2⟩ h2;rw[Fo,Pr.bind_of g1,OB,g2,NE];simp only[Nat.add_assoc]
def pHd:Pr Hd:=zM.bind fun k=>n9.bind fun v=> .ret ⟨k,v⟩
def gG (h:Hd):List UInt8:=(cO (bw (h.Nd.length:Int))++h.Nd)++(cO (bw (blen h.M3))++h.M3.data)
def okHd (h:Hd):Prop:=bw (h.Nd.length:Int)<2 ^ (32:Int).toNat/\bw (blen h.M3)<2 ^ (32:Int).toNat/\bL h.M3=true
theorem Sp_hd:Sp pHd gG okHd:=by
 refine⟨fun s q a r hq h=> ?_,fun s t q a hq ha h=> ?_⟩
 ·obtain⟨k,q1,h1,h⟩:=Pr.bind_ok h;obtain⟨v,q2,h2,h⟩:=Pr.bind_ok h;injection h with h;obtain⟨rfl,rfl⟩:=N9 h;obtain⟨a1,a2,a3,a4,a5⟩:=rp.spell _ _ _ _ hq h1;obtain⟨b1,b2,b3,b4,b5⟩:=kn.spell _ _ _ _ a2 h2;exact⟨by omega,b2,by simp only[gG,NE] at *; omega,by rw[b4,a4]; simp only[gG,NI],a5.1,b5⟩
 ·obtain⟨a1,a2,a3⟩:=ha;have hl:=congrArg List.length h;rw[gG,NI] at h;have g1:=rp.back _ _ _ _ hq ⟨a1,rfl⟩ h;have h:=cz h;have g2:=kn.back _ _ _ _ (by simp only[gG,NO,NE] at *; omega) ⟨a2,a3⟩ h;rw[pHd,Pr.bind_of g1,Pr.bind_of g2];simp only[Pr.ret,gG,NE,Nat.add_assoc]
theorem IJ (h:Hd) (ho:okHd h):2<=(gG h).length:=by
 have h1:=qj (bw (h.Nd.length:Int));have h2:=qj (bw (blen h.M3));simp only[gG,NE];omega
def GJ:Pr (List Hd):=Fo 2 pHd
theorem IK:Sp GJ (fun l=>cO (bw (l.length:Int))++bb gG l) (fun l=>bw (l.length:Int)<2 ^ (32:Int).toNat/\ ∀ h,h∈l->okHd h):=Kp 2 Sp_hd IJ
theorem Fp (n:Int) (s:List UInt8) (hs:s.length<=1000000) (hn:n<=1000000): ∀ (m fuel k:Nat) (acc:List Hd) (q:Nat),((k+m:Nat):Int)=n->m<fuel->q<=s.length->acc.length=k ->
 (∃ (e:Int) (st:I),jG pHd m s q= .error e/\dD n fuel [] acc k ⟨s.drop q,q,0⟩=some (.ret ([],st))/\st.err=e/\st.err≠0) \/
 (∃ l r,jG pHd m s q= .ok (l,r)/\dD n fuel [] acc k ⟨s.drop q,q,0⟩=some (.go ([],acc++l,k+m,⟨s.drop r,r,0⟩))/\q<=r/\r<=s.length)
 | 0,fuel+1,k,acc,q,h1,h2,h3,h4=> .inr ⟨[],q,rfl,by rw[dD,QY QR,NW]; rfl,N0 _,h3⟩
 | m+1,fuel+1,k,acc,q,h1,h2,h3,h4=>by
  rw[dD,QX QR];rcases QN.run s q h3 with⟨e,st,p1,g1,x1,y1⟩ | ⟨nm,q1,p1,g1,n1,l1⟩
  ·left;refine⟨e,st,by rw[jG,Pr.bind_err (show pHd s q= .error e from Pr.bind_err p1)],?_,x1,y1⟩;rw[g1,NA];simp only;rw[lq y1,NA];simp only;rw[QX QR,bA,NA];simp only;rw[QY y1]
  rw[g1,NA];simp only;rcases QV.run s q1 l1 with⟨e,st,p2,g2,x2,y2⟩ | ⟨v,q2,p2,g2,n2,l2⟩
  ·left;have ht:pHd s q= .error e:=by rw[pHd,Pr.bind_of p1,Pr.bind_err p2]
   refine⟨e,st,by rw[jG,Pr.bind_err ht],?_,x2,y2⟩;rw[g2,NA];simp only;rw[QX QR,bA,NA];simp only;rw[QY y2]
  rw[g2,NA];simp only;rw[QX QR,bA,NA];simp only[if_true];rw[QX QR];have ht:pHd s q= .ok (⟨nm,v⟩,q2):=by rw[pHd,Pr.bind_of p1,Pr.bind_of p2]; rfl
  rw[jG,Pr.bind_of ht];rcases Fp n s hs hn m fuel (k+1) (acc ++ [(⟨nm,v⟩:Hd)]) q2 QR QR l2 (by rw[NE,h4]; rfl) with⟨e,st,r1,r2,r3,r4⟩ | ⟨l,r,r1,r2,r3,r4⟩
  ·exact .inl ⟨e,st,by rw[Pr.bind_err r1],r2,r3,r4⟩
  ·refine .inr ⟨⟨nm,v⟩::l,r,by rw[Pr.bind_of r1]; rfl,?_,by omega,r4⟩;rw[r2,NI,show k+1+m=k+(m+1) by omega];rfl
theorem B_hds:CB cf GJ []:=by
 refine⟨fun st h=> ?_,fun s q hs hq=> ?_⟩
 ·unfold cf;rw[wM h,NA];simp only;rw[bA,NA];simp only;rw[QY h]
 ·unfold cf;rcases Eh.run s q hq with⟨e,st,p1,g1,x1,y1⟩ | ⟨c,q1,p1,g1,n1,l1⟩
  ·refine .inl ⟨e,st,Pr.bind_err (Pr.bind_err p1),?_,x1,y1⟩;rw[g1,NA];simp only;rw[bA,NA];simp only;rw[QY y1]
  ·rw[g1,NA];simp only;rw[bA,NA];simp only[if_true];have hd:(s.drop q1).length=s.length - q1:=NO;have hE:GJ s q=((tJ 2 c).bind fun n=>jG pHd n.toNat) s q1:=by
    unfold GJ Fo tU Pr.bind;rw[p1]
   rw[hE];unfold Pr.bind tJ;by_cases hn:c<0
   ·rw[QX hn,QX hn];exact .inl ⟨4,_,rfl,rfl,rfl,by simp[dz]⟩
   rw[QY hn,QY hn,s8,NA];simp only;rw[hd,QX (show 0<=((s.length - q1:Nat):Int)/\((s.length - q1:Nat):Int)<=9223372036854775807 by omega)];by_cases hc:0<2/\((s.length - q1:Nat):Int) / ((2:Nat):Int)<c
   ·have hc2:c>((s.length - q1:Nat):Int) / 2:=hc.2;rw[QX hc,QX hc2];exact .inl ⟨1,_,rfl,rfl,rfl,by simp[dz]⟩
   ·have hc2: ¬ c>((s.length - q1:Nat):Int) / 2:=fun h=>hc ⟨by decide,h⟩;rw[QY hc,QY hc2];simp only;rcases Fp c s hs QR c.toNat (c.toNat+1) 0 [] q1 QR QR l1 rfl with⟨e,st,r1,r2,r3,r4⟩ | ⟨l,r,r1,r2,r3,r4⟩
    ·exact .inl ⟨e,st,r1,by rw[r2]; rfl,r3,r4⟩
    ·refine .inr ⟨l,r,r1,?_,by omega,r4⟩;rw[r2,NV];rfl
def hwt (h:Hd):Nat:=20+h.Nd.length+h.M3.data.length
def mH:List Hd->Nat
 | []=>0
 | h::l=>hwt h+mH l
theorem kO (n:Int) (h: -1<=n) (h2:n<=2147483647):(cO (bw n)).length<=10:=iq _ (fN n QR QR)
theorem nG (n:Int) (h: -1<=n) (h2:n<=2147483647):bw n<2 ^ (32:Int).toNat:=by
 rw[show 2 ^ (32:Int).toNat=4294967296 by decide];exact Du n ⟨by omega,h2⟩
theorem nH (b:Bl) (h:b.data.length<=2147483647): -1<=blen b/\blen b<=2147483647:=by unfold blen; split <;> omega
theorem Af (h:Hd) (hk:h.Nd.length<=1000000) (hv:h.M3.data.length<=1000000):(gG h).length<=hwt h:=by
 have h1:=kO (h.Nd.length:Int) QR QR;have hb:=nH h.M3 QR;have h2:=kO (blen h.M3) hb.1 hb.2;simp only[gG,NE,hwt];omega
theorem yj: ∀ l:List Hd,mH l<=1000000->(bb gG l).length<=mH l
 | [],h=>N0 _
 | x::l,h=>by
  have h1:hwt x<=mH (x::l):=by rw[mH]; omega
  have h2:=yj l (by rw[mH] at h; omega);have h3:=Af x (by unfold hwt at h1; omega) (by unfold hwt at h1; omega);rw[bb,NE,mH];omega
theorem qS: ∀ l:List Hd,l.length*20<=mH l
 | []=>by simp[mH]
 | h::l=>by have:=qS l; simp only[mH,hwt,NJ]; omega
theorem CD: ∀ (l:List Hd) (h:Hd),h∈l->hwt h<=mH l
 | x::l,h,hm=>by
  rcases List.mem_cons.1 hm with rfl | hm
  ·simp only[mH]; omega
  ·have:=CD l h hm; simp only[mH]; omega
theorem wN (n:Int) (h: -9223372036854775808<=n/\n<=9223372036854775807):kc n=some (cO (bw n)):=by
 have:=fN n h.1 h.2;unfold kc;rw[F5 _ h,NA,Hq _ QR,NA,OB]
theorem Ag (a0:List Hd) (hb:mH a0<=1000000): ∀ (l:List Hd) (t:List UInt8) (k fuel:Nat),a0.drop k=l->l.length<fuel->t.length+mH l<=2000000->mH l<=1000000-> ∃ z,eX a0 fuel t k=some (t++bb gG l,z)
 | [],t,k,fuel+1,h,hf,hl,hl2=>by
  have:a0.length<=k:=List.drop_eq_nil_iff.1 h;exact⟨k,by rw[eX,QY QR,bb,NW]⟩
 | x::l,t,k,fuel+1,h,hf,hl,hl2=>by
  have hlen:=congrArg List.length h;rw[NO,NJ] at hlen;have g1:a0[k]? = some x:=by have:=congrArg (fun z=>z[0]?) h; simpa using this
  have g2:a0.drop (k+1)=l:=by rw[<- Om,h]; rfl
  have hn:=qS a0;rw[NJ] at hf;have hx:t.length+(hwt x+mH l)<=2000000:=hl;have hx2:hwt x+mH l<=1000000:=hl2;have h1:=Af x (by unfold hwt at hx2; omega) (by unfold hwt at hx2; omega);have e:t++(cO (bw (blen ⟨false,x.Nd⟩))++x.Nd)++(cO (bw (blen x.M3))++x.M3.data)=t++gG x:=by
   simp only[gG,NI];rfl
  have e1:(cO (bw (blen ⟨false,x.Nd⟩))++x.Nd).length<=(gG x).length/\(cO (bw (blen x.M3))++x.M3.data).length<=(gG x).length:=by
   simp only[gG,NE];have:blen ⟨false,x.Nd⟩=(x.Nd.length:Int):=rfl;rw[this];omega
  obtain⟨z,hz⟩:=Ag a0 hb l (t++gG x) (k+1) fuel g2 QR (by rw[NE]; omega) QR;rw[eX,QX QR,g1,NA,mB _ (by unfold hwt at hx2; simp only; omega),NA,QX (by simp only; omega),mB _ (by unfold hwt at hx2; omega),NA,QX (by rw[NE]; simp only; omega),QX QR];refine⟨z,?_⟩;simp only;rw[e,hz,bb,NI]
theorem GK (l:List Hd) (hb:mH l<=1000000):lI l=some (cO (bw (l.length:Int))++bb gG l):=by
 have hn:=qS l;have h1:=kO (l.length:Int) QR QR;unfold lI;rw[wN _ QR,NA];obtain⟨z,hz⟩:=Ag l hb l (cO (bw (l.length:Int))) 0 (((l.length:Int)).toNat+1) rfl QR QR hb;rw[hz];rfl
theorem Fq:CQ mT (qH 64) 0:=(Bh 64 (.inr rfl)).cq (lD 64 (.inr rfl))
theorem CE {st:I} (h:st.err≠0):mT st=some (0,st):=Fq.dead st h
theorem jk {st:I} (h:st.err≠0):eh st=some (st.err,st):=by rw[gM,xa h]
def yk:Pr Unit:=fun s q=>if q=s.length then .ok ((),q) else .error 2
def CF:Rec:=⟨0,0,⟨false,[]⟩,⟨false,[]⟩,[]⟩
def v5:Pr Rec:=(fy 1).bind fun z=>if z=0 then (qH 64).bind fun t=>(qH 32).bind fun o=>if o<0 then .err 11 else n9.bind fun k=>n9.bind fun v=>GJ.bind fun h=>yk.bind fun _=> .ret ⟨t,o,k,v,h⟩ else .err 8
def yl (st9:I):Option (Rec×Int):=(d9 st9 1).bind fun (x12,st13)=>if x12=0 then ((mT st13).bind fun (x16,st17)=>(pK st17).bind fun (x19,st20)=>if x19<0 then ((ck st20 11).bind fun st24=>(cY st24).bind fun (x26,st27)=>(cY st27).bind fun (x29,st30)=>(cf st30).bind fun (x32,st35)=>(eh st35).bind fun (x37,st38)=>some ((⟨x16,x19,x26,x29,x32⟩:Rec),x37)) else ((cY st20).bind fun (x43,st44)=>(cY st44).bind fun (x46,st47)=>(cf st47).bind fun (x49,st52)=>(eh st52).bind fun (x54,st55)=>some ((⟨x16,x19,x43,x46,x49⟩:Rec),x54))) else ((ck st13 8).bind fun st60=>(mT st60).bind fun (x62,st63)=>(pK st63).bind fun (x65,st66)=>if x65<0 then ((ck st66 11).bind fun st70=>(cY st70).bind fun (x72,st73)=>(cY st73).bind fun (x75,st76)=>(cf st76).bind fun (x78,st81)=>(eh st81).bind fun (x83,st84)=>some ((⟨x62,x65,x72,x75,x78⟩:Rec),x83)) else ((cY st66).bind fun (x89,st90)=>(cY st90).bind fun (x92,st93)=>(cf st93).bind fun (x95,st98)=>(eh st98).bind fun (x100,st101)=>some ((⟨x62,x65,x89,x92,x95⟩:Rec),x100)))
theorem IL (s:List UInt8) (hs:s.length<=1000000):(∃ e x,v5 s 0= .error e/\yl ⟨s,0,0⟩=some (x,e)/\e≠0)\/(∃ x,v5 s 0= .ok (x,s.length)/\yl ⟨s,0,0⟩=some (x,0)):=by
 unfold yl v5;have r0:=Q1.run s 0 (NY _);rw[List.drop_zero] at r0;have hB:=B_hds;rcases r0 with⟨e,st,p0,g0,x0,y0⟩ | ⟨z,q0,p0,g0,n0,l0⟩
 ·refine .inl ⟨e,⟨0,0,⟨false,[]⟩,⟨false,[]⟩,[]⟩,Pr.bind_err p0,?_,by rw[<- x0]; exact y0⟩;rw[g0];simp only[NA,if_true,CE y0,wM y0,lq y0,hB.dead _ y0,jk y0,x0,show ¬ (0:Int)<0 by decide,if_false]
 rw[g0,NA];simp only;by_cases hz:z=0
 ·rw[QX hz,Pr.bind_of p0,QX hz];rcases Fq.run s q0 l0 with⟨e,st,p1,g1,x1,y1⟩ | ⟨a,q1,p1,g1,n1,l1⟩
  ·refine .inl ⟨e,⟨0,0,⟨false,[]⟩,⟨false,[]⟩,[]⟩,Pr.bind_err p1,?_,by rw[<- x1]; exact y1⟩;rw[g1];simp only[NA,if_true,wM y1,lq y1,hB.dead _ y1,jk y1,x1,show ¬ (0:Int)<0 by decide,if_false]
  rw[g1,NA,Pr.bind_of p1];simp only;rcases Eh.run s q1 l1 with⟨e,st,p2,g2,x2,y2⟩ | ⟨o,q2,p2,g2,n2,l2⟩
  ·refine .inl ⟨e,⟨a,0,⟨false,[]⟩,⟨false,[]⟩,[]⟩,Pr.bind_err p2,?_,by rw[<- x2]; exact y2⟩;rw[g2];simp only[NA,if_true,lq y2,hB.dead _ y2,jk y2,x2,show ¬ (0:Int)<0 by decide,if_false]
  rw[g2,NA,Pr.bind_of p2];simp only;by_cases ho:o<0
  ·rw[QX ho,QX ho,dB,NA,tG];have y:(⟨s.drop q2,q2,11⟩:I).err≠0:=by simp
   refine .inl ⟨11,⟨a,o,⟨false,[]⟩,⟨false,[]⟩,[]⟩,rfl,?_,by decide⟩;simp only[NA,lq y,hB.dead _ y,jk y]
  rw[QY ho,QY ho];rcases QV.run s q2 l2 with⟨e,st,p3,g3,x3,y3⟩ | ⟨k,q3,p3,g3,n3,l3⟩
  ·refine .inl ⟨e,⟨a,o,⟨false,[]⟩,⟨false,[]⟩,[]⟩,Pr.bind_err p3,?_,by rw[<- x3]; exact y3⟩;rw[g3];simp only[NA,lq y3,hB.dead _ y3,jk y3,x3]
  rw[g3,NA,Pr.bind_of p3];simp only;rcases QV.run s q3 l3 with⟨e,st,p4,g4,x4,y4⟩ | ⟨v,q4,p4,g4,n4,l4⟩
  ·refine .inl ⟨e,⟨a,o,k,⟨false,[]⟩,[]⟩,Pr.bind_err p4,?_,by rw[<- x4]; exact y4⟩;rw[g4];simp only[NA,hB.dead _ y4,jk y4,x4]
  rw[g4,NA,Pr.bind_of p4];simp only;rcases hB.run s q4 hs l4 with⟨e,st,p5,g5,x5,y5⟩ | ⟨h,q5,p5,g5,n5,l5⟩
  ·refine .inl ⟨e,⟨a,o,k,v,[]⟩,Pr.bind_err p5,?_,by rw[<- x5]; exact y5⟩;rw[g5];simp only[NA,jk y5,x5]
  rw[g5,NA,Pr.bind_of p5];simp only;rw[gM,NA];simp only;by_cases hq:q5=s.length
  ·have he:yk s q5= .ok ((),q5):=by unfold yk; rw[QX hq]
   have hi:(fM ⟨s.drop q5,q5,0⟩).err=0:=by rw[hq,List.drop_length]; rfl
   rw[Pr.bind_of he,hi];exact .inr ⟨⟨a,o,k,v,h⟩,by rw[hq]; rfl,rfl⟩
  ·have he:yk s q5= .error 2:=by unfold yk; rw[QY hq]
   have hi:(fM ⟨s.drop q5,q5,0⟩).err=2:=by
    unfold fM;rw[QY]
    ·rfl
    ·intro h0;have:=List.drop_eq_nil_iff.1 h0;omega
   rw[Pr.bind_err he,hi];exact .inl ⟨2,_,rfl,rfl,by decide⟩
 ·rw[QY hz,Pr.bind_of p0,QY hz,dB,NA,tG];have y:(⟨s.drop q0,q0,8⟩:I).err≠0:=by simp
  refine .inl ⟨8,⟨0,0,⟨false,[]⟩,⟨false,[]⟩,[]⟩,rfl,?_,by decide⟩;simp only[NA,if_true,CE y,wM y,lq y,hB.dead _ y,jk y,show ¬ (0:Int)<0 by decide,if_false]
def GL:Pr Rec:=fun s q=>match zM s q with
 | .error e=> .error e
 | .ok (d,r)=>match v5 d 0 with
  | .error e=> .error e
  | .ok (x,_)=> .ok (x,r)
theorem Ah (st9 st6:I) (x:Rec) (e:Int) (h:yl st9=some (x,e)):((d9 st9 1).bind fun (x12,st13)=>if x12=0 then ((mT st13).bind fun (x16,st17)=>(pK st17).bind fun (x19,st20)=>if x19<0 then ((ck st20 11).bind fun st24=>(cY st24).bind fun (x26,st27)=>(cY st27).bind fun (x29,st30)=>(cf st30).bind fun (x32,st35)=>(eh st35).bind fun (x37,st38)=>if x37=0 then (some ((⟨x16,x19,x26,x29,x32⟩:Rec),st6)) else ((ck st6 x37).bind fun st41=>some (CF,st41))) else ((cY st20).bind fun (x43,st44)=>(cY st44).bind fun (x46,st47)=>(cf st47).bind fun (x49,st52)=>(eh st52).bind fun (x54,st55)=>if x54=0 then (some ((⟨x16,x19,x43,x46,x49⟩:Rec),st6)) else ((ck st6 x54).bind fun st58=>some (CF,st58)))) else ((ck st13 8).bind fun st60=>(mT st60).bind fun (x62,st63)=>(pK st63).bind fun (x65,st66)=>if x65<0 then ((ck st66 11).bind fun st70=>(cY st70).bind fun (x72,st73)=>(cY st73).bind fun (x75,st76)=>(cf st76).bind fun (x78,st81)=>(eh st81).bind fun (x83,st84)=>if x83=0 then (some ((⟨x62,x65,x72,x75,x78⟩:Rec),st6)) else ((ck st6 x83).bind fun st87=>some (CF,st87))) else ((cY st66).bind fun (x89,st90)=>(cY st90).bind fun (x92,st93)=>(cf st93).bind fun (x95,st98)=>(eh st98).bind fun (x100,st101)=>if x100=0 then (some ((⟨x62,x65,x89,x92,x95⟩:Rec),st6)) else ((ck st6 x100).bind fun st104=>some (CF,st104)))))=if e=0 then some (x,st6) else some (CF,dz st6 e):=by
 unfold yl at h
 revert h
 have hop: ∀ (o:Option (List Hd×I)) (f:List Hd->Rec),((o.bind fun (a,s1)=>(eh s1).bind fun (b,s2)=>some (f a,b))=some (x,e))->(o.bind fun (a,s1)=>(eh s1).bind fun (b,s2)=>if b=0 then some (f a,st6) else (ck st6 b).bind fun s3=>some (CF,s3))=if e=0 then some (x,st6) else some (CF,dz st6 e):=by
  intro o f h
  cases o with
  | none=>exact nomatch h
  | some y =>
   rw[NA] at h ⊢;simp only[gM,NA] at h ⊢;injection h with h;obtain⟨rfl,rfl⟩:=N9 h;by_cases hz:(fM y.2).err=0
   ·rw[QX hz,QX hz]
   ·rw[QY hz,QY hz];rfl
 simp only[kq,F4,Hp,DH,dB,NA];intro h;split at h
 ·rename_i h1;rw[QX h1];split at h
  ·rename_i h2;rw[QX h2];exact hop _ (fun a=>⟨_,_,_,_,a⟩) h
  ·rename_i h2;rw[QY h2];exact hop _ (fun a=>⟨_,_,_,_,a⟩) h
 ·rename_i h1;rw[QY h1];split at h
  ·rename_i h2;rw[QX h2];exact hop _ (fun a=>⟨_,_,_,_,a⟩) h
  ·rename_i h2;rw[QY h2];exact hop _ (fun a=>⟨_,_,_,_,a⟩) h
theorem B_rec:CB iD GL CF:=by
 refine⟨fun st h=> ?_,fun s q hs hq=> ?_⟩
 ·unfold iD;rw[Ko h,NA];simp only;rw[bA,NA];simp only;rw[QY h];rfl
 ·unfold iD GL;rcases QN.run s q hq with⟨e,st,p1,g1,x1,y1⟩ | ⟨d,r,p1,g1,n1,l1⟩
  ·refine .inl ⟨e,st,by rw[p1],?_,x1,y1⟩;rw[g1,NA];simp only;rw[bA,NA];simp only;rw[QY y1];rfl
  ·have hsp:=rp.spell _ _ _ _ hq p1;have hdl:d.length<=1000000:=by
    have:=hsp.2.2.1;rw[NE] at this;omega
   rw[g1,p1,NA];simp only;rw[bA,NA];simp only[if_true];rw[kp _ QR,NA];rcases IL d hdl with⟨e,x,b1,b2,b3⟩ | ⟨x,b1,b2⟩
   ·have hb:=Ah ⟨d,0,0⟩ ⟨s.drop r,r,0⟩ x e b2;rw[QY b3] at hb;rw[b1];exact .inl ⟨e,_,rfl,hb,rfl,b3⟩
   ·have hb:=Ah ⟨d,0,0⟩ ⟨s.drop r,r,0⟩ x 0 b2;rw[QX rfl] at hb;rw[b1];exact .inr ⟨x,r,rfl,hb,n1,l1⟩
def lX (b:Bl):List UInt8:=cO (bw (blen b))++b.data
def qT (l:List Hd):List UInt8:=cO (bw (l.length:Int))++bb gG l
def dE (x:Rec):List UInt8:=be 0 1++(cO (bw x.Nk)++(cO (bw x.Na)++(lX x.Nd++(lX x.M3++qT x.M2))))
def okBl (b:Bl):Prop:=bw (blen b)<2 ^ (32:Int).toNat/\bL b=true
def okHs (l:List Hd):Prop:=bw (l.length:Int)<2 ^ (32:Int).toNat/\ ∀ h,h∈l->okHd h
def ym (x:Rec):Prop:=bw x.Nk<2 ^ (64:Int).toNat/\(bw x.Na<2 ^ (32:Int).toNat/\0<=x.Na)/\okBl x.Nd/\okBl x.M3/\okHs x.M2
theorem Ek {s:List UInt8} {x:Rec} {r:Nat} (h:v5 s 0= .ok (x,r)):s=dE x/\ym x:=by
 obtain⟨z,q0,h0,h⟩:=Pr.bind_ok h;split at h
 ·rename_i hz;subst hz;obtain⟨t,q1,h1,h⟩:=Pr.bind_ok h;obtain⟨o,q2,h2,h⟩:=Pr.bind_ok h;split at h
  ·exact nomatch h
  ·rename_i ho;obtain⟨k,q3,h3,h⟩:=Pr.bind_ok h;obtain⟨v,q4,h4,h⟩:=Pr.bind_ok h;obtain⟨hs,q5,h5,h⟩:=Pr.bind_ok h;obtain⟨u,q6,h6,h⟩:=Pr.bind_ok h;injection h with h;obtain⟨rfl,rfl⟩:=N9 h;obtain⟨-,a2,-,a4,a5⟩:=(ei 1 QS QS).spell _ _ _ _ (NY _) h0;obtain⟨-,b2,-,b4,b5⟩:=(lD 64 (.inr rfl)).spell _ _ _ _ a2 h1;obtain⟨-,c2,-,c4,c5⟩:=(lD 32 (.inl rfl)).spell _ _ _ _ b2 h2;obtain⟨-,d2,-,d4,d5⟩:=kn.spell _ _ _ _ c2 h3;obtain⟨-,e2,-,e4,e5⟩:=kn.spell _ _ _ _ d2 h4;obtain⟨-,f2,-,f4,f5⟩:=IK.spell _ _ _ _ e2 h5;have hq:q5=s.length:=by
    unfold yk at h6;split at h6
    ·rename_i hh; exact hh
    ·exact nomatch h6
   refine⟨?_,b5,⟨c5,by simp only; omega⟩,d5,e5,f5⟩;have hs2:s=s.take q5:=by rw[hq,List.take_length]
   rw[hs2,f4,e4,d4,c4,b4,a4];simp only[dE,lX,qT,NI,List.take_zero,NV]
 ·exact nomatch h
theorem SpV:Sp n9 lX okBl:=kn
theorem SpH:Sp GJ qT okHs:=IK
theorem GM {x:Rec} (h:ym x):v5 (dE x) 0= .ok (x,(dE x).length):=by
 obtain⟨h1,⟨h2,h3⟩,h4,h5,h6⟩:=h;have hd:(dE x).drop 0=dE x:=rfl;have hlen:(dE x).length=1+((cO (bw x.Nk)).length+((cO (bw x.Na)).length+((lX x.Nd).length+((lX x.M3).length+(qT x.M2).length)))):=by
  simp only[dE,NE,aE]
 generalize hE:dE x=E at hd hlen ⊢;have hh:E.drop 0=be 0 1++(cO (bw x.Nk)++(cO (bw x.Na)++(lX x.Nd++(lX x.M3++(qT x.M2 ++ []))))):=by
  rw[hd,<- hE];simp only[dE,NW]
 have g0:=(ei 1 QS QS).back _ _ _ 0 (NY _) QS hh;have hh:=cz hh;rw[aE] at hh g0;have g1:=(lD 64 (.inr rfl)).back _ _ _ _ QR h1 hh;have hh:=cz hh;have g2:=(lD 32 (.inl rfl)).back _ _ _ _ QR h2 hh;have hh:=cz hh;have g3:=SpV.back _ _ _ _ QR h4 hh;have hh:=cz hh;have g4:=SpV.back _ _ _ _ QR h5 hh;have hh:=cz hh;have g5:=SpH.back _ _ _ _ QR h6 hh;rw[v5,Pr.bind_of g0,QX rfl,Pr.bind_of g1,Pr.bind_of g2,QY QR,Pr.bind_of g3,Pr.bind_of g4,Pr.bind_of g5];have he:0+1+(cO (bw x.Nk)).length+(cO (bw x.Na)).length+(lX x.Nd).length+(lX x.M3).length+(qT x.M2).length=E.length:=by omega
 rw[he,Pr.bind_of (a:=()) (r:=E.length) (by unfold yk; rw[QX rfl])];rfl
def ej (x:Rec):List UInt8:=cO (bw ((dE x).length:Int))++dE x
theorem El:Sp GL ej (fun x=>ym x/\bw ((dE x).length:Int)<2 ^ (32:Int).toNat):=by
 refine⟨fun s q a r hq h=> ?_,fun s t q a hq ha h=> ?_⟩
 ·unfold GL at h
  cases hp:zM s q with
  | error e=>rw[hp] at h; exact nomatch h
  | ok y =>
   obtain⟨d,r'⟩:=y;rw[hp] at h;simp only at h;obtain⟨a1,a2,a3,a4,a5⟩:=rp.spell _ _ _ _ hq hp
   cases hb:v5 d 0 with
   | error e=>rw[hb] at h; exact nomatch h
   | ok z =>
    rw[hb] at h;injection h with h;obtain⟨rfl,rfl⟩:=N9 h;obtain⟨b1,b2⟩:=Ek (x:=z.1) (r:=z.2) hb;unfold ej;rw[<- b1];exact⟨a1,a2,a3,a4,b2,a5.1⟩
 ·have g1:=rp.back s t q (dE a) hq ⟨ha.2,rfl⟩ h;unfold GL;rw[g1];simp only;rw[GM ha.1];rfl
def rwt (x:Rec):Nat:=x.Nd.data.length+x.M3.data.length+mH x.M2
theorem rr (b:Bl) (h:b.data.length<=1000000):(lX b).length<=10+b.data.length:=by
 have hb:=nH b QR;have:=kO (blen b) hb.1 hb.2;rw[lX,NE];omega
theorem Ai (l:List Hd) (h:mH l<=1000000):(qT l).length<=10+mH l:=by
 have hn:=qS l;have h1:=kO (l.length:Int) QR QR;have h2:=yj l h;rw[qT,NE];omega
theorem qU (x:Rec) (ht:wI x.Nk) (ho:wI x.Na) (hw:rwt x<=900000):(dE x).length<=51+rwt x:=by
 unfold rwt at hw ⊢;have h1:=iq _ (fN x.Nk ht.1 ht.2);have h2:=iq _ (fN x.Na ho.1 ho.2);have h3:=rr x.Nd QR;have h4:=rr x.M3 QR;have h5:=Ai x.M2 QR;simp only[dE,NE,aE];omega
theorem Em {x:Rec} (h:ji x=0):(0<=x.Na/\x.Na<=2147483647)/\bL x.Nd=true/\bL x.M3=true/\ ∀ h,h∈x.M2->bL h.M3=true:=by
 unfold ji at h;split at h
 ·exact absurd h QS
 ·rename_i h1;split at h
  ·rename_i h2;simp only[Bool.and_eq_true] at h2;exact⟨by omega,h2.1.1,h2.1.2,fun y hy=>List.all_eq_true.1 h2.2 y hy⟩
  ·exact absurd h QS
theorem GN (x:Rec) (ht:wI x.Nk) (ho:wI x.Na) (hw:rwt x<=900000):lJ x=some (ej x):=by
 have hb:=qU x ht ho hw;unfold rwt at hw hb;have h1:=iq _ (fN x.Nk ht.1 ht.2);have h2:=iq _ (fN x.Na ho.1 ho.2);have h3:=rr x.Nd QR;have h4:=rr x.M3 QR;have h5:=Ai x.M2 QR;have hz:rC [0]=be 0 1:=by decide
 have e:(((((be 0 1++cO (bw x.Nk))++cO (bw x.Na))++lX x.Nd)++lX x.M3)++qT x.M2)=dE x:=by simp only[dE,NI]
 unfold lJ;rw[hz,wN _ ht,NA,QX (by simp only[aE]; omega),wN _ ho,NA,QX (by simp only[NE,aE]; omega),mB _ QR,NA];rw[show cO (bw (blen x.Nd))++x.Nd.data=lX x.Nd from rfl,QX (by simp only[NE,aE]; omega),mB _ QR,NA,show cO (bw (blen x.M3))++x.M3.data=lX x.M3 from rfl,QX (by simp only[NE,aE]; omega),GK _ QR,NA];rw[show cO (bw (x.M2.length:Int))++bb gG x.M2=qT x.M2 from rfl,e,QX (by simp only[NE,aE]; omega),wN _ QR,NA];have h6:=iq _ (fN ((dE x).length:Int) QR QR);rw[QX QR];rfl
def IM (a b:Hd):Bool:=decide (a.Nd=b.Nd) && decide (a.M3.null=b.M3.null) && decide (a.M3.data=b.M3.data)
def mj:List Hd->List Hd->Bool
 | [],[]=>true
 | a::l,b::m=>IM a b && mj l m
 | _,_=>false
theorem v6: ∀ l:List Hd,mj l l=true
 | []=>rfl
 | a::l=>by rw[mj,v6 l]; simp[IM]
theorem yo: ∀ (l m:List Hd),mj l m=true->l.length=m.length
 | [],[],h=>rfl
 | [],b::m,h=>nomatch h
 | a::l,[],h=>nomatch h
 | a::l,b::m,h=>by
  rw[mj,Bool.and_eq_true] at h;rw[NJ,NJ,yo l m h.2]
theorem Aj (a b:List Hd) (ha:a.length<=1000000) (y:Bool): ∀ (t u:List Hd) (k fuel:Nat),a.drop k=t->b.drop k=u->t.length=u.length->t.length<fuel-> ∃ z,fA a b fuel y k=some (if mj t u=true then .go (y,z) else .ret false)
 | [],[],k,fuel+1,ht,hu,hl,hf=>by
  have:=dg ht;exact⟨k,by rw[fA,QY QR]; rfl⟩
 | [],d::u,k,fuel,ht,hu,hl,hf=>by simp at hl
 | c::t,[],k,fuel,ht,hu,hl,hf=>by simp at hl
 | c::t,d::u,k,fuel+1,ht,hu,hl,hf=>by
  obtain⟨t1,t2,t3⟩:=cA ht;obtain⟨u1,u2,u3⟩:=cA hu;simp only[NJ] at hl hf;obtain⟨z,hz⟩:=Aj a b ha y t u (k+1) fuel t2 u2 QR QR;rw[fA,QX QR,t1,NA,u1,NA,mj,IM];by_cases h1:c.Nd=d.Nd
  ·rw[QX h1,NB h1];by_cases h2:c.M3.null=d.M3.null
   ·rw[QX h2,NB h2];by_cases h3:c.M3.data=d.M3.data
    ·rw[QX h3,NB h3,QX QR];exact⟨z,hz⟩
    ·rw[QY h3,NC h3];exact⟨0,rfl⟩
   ·rw[QY h2,NC h2];exact⟨0,rfl⟩
  ·rw[QY h1,NC h1];exact⟨0,rfl⟩
theorem IO (a b:List Hd) (ha:a.length<=1000000):mZ a b=some (mj a b):=by
 unfold mZ;by_cases hl:(a.length:Int)=(b.length:Int)
 ·obtain⟨z,hz⟩:=Aj a b ha false a b 0 (((a.length:Int)).toNat+1) rfl rfl QR QR;rw[QX hl,hz];cases mj a b <;> rfl
 ·rw[QY hl];have:mj a b=false:=by
   cases h:mj a b with
   | false=>rfl
   | true=>exact absurd (congrArg Int.ofNat (yo a b h)) hl
  rw[this]
def Ak (a b:Rec):Bool:=decide (a.Nk=b.Nk) && decide (a.Na=b.Na) && decide (a.Nd.null=b.Nd.null) && decide (a.Nd.data=b.Nd.data) && decide (a.M3.null=b.M3.null) && decide (a.M3.data=b.M3.data) && mj a.M2 b.M2
theorem En (a:Rec):Ak a a=true:=by simp[Ak,v6]
theorem IP (a b:Rec) (ha:a.M2.length<=1000000):na a b=some (Ak a b):=by
 unfold na Ak;rw[IO _ _ ha];by_cases h1:a.Nk=b.Nk <;> by_cases h2:a.Na=b.Na <;> by_cases h3:a.Nd.null=b.Nd.null <;> by_cases h4:a.Nd.data=b.Nd.data <;> by_cases h5:a.M3.null=b.M3.null <;> by_cases h6:a.M3.data=b.M3.data <;> simp[h1,h2,h3,h4,h5,h6]
theorem IQ {x:Rec} (ht:wI x.Nk) (hr:ji x=0) (hw:rwt x<=900000):ym x/\bw ((dE x).length:Int)<2 ^ (32:Int).toNat:=by
 obtain⟨h1,h2,h3,h4⟩:=Em hr;have hb:=qU x ht ⟨by omega,by omega⟩ hw;unfold rwt at hw hb;have hn:=qS x.M2;have bk:=nH x.Nd QR;have bv:=nH x.M3 QR;refine⟨⟨?_,⟨nG _ QR h1.2,h1.1⟩,⟨nG _ bk.1 bk.2,h2⟩,⟨nG _ bv.1 bv.2,h3⟩,nG _ QR QR,fun h hh=> ?_⟩,nG _ QR QR⟩
 ·rw[show 2 ^ (64:Int).toNat=18446744073709551616 by decide];exact fN _ ht.1 ht.2
 ·have hm:=CD _ _ hh;unfold hwt at hm;have b:=nH h.M3 QR;exact⟨nG _ QR QR,nG _ b.1 b.2,h4 h hh⟩
theorem Eo (x:Rec) (ht:wI x.Nk) (ho:wI x.Na) (hw:rwt x<=900000):(ej x).length<=61+rwt x:=by
 have hb:=qU x ht ho hw;have h6:=iq _ (fN ((dE x).length:Int) QR QR);rw[ej,NE];omega
theorem CG {x:Rec} (h:ym x):ji x=0/\wI x.Nk/\wI x.Na:=by
 obtain⟨h1,⟨h2,h3⟩,h4,h5,h6⟩:=h;rw[show 2 ^ (64:Int).toNat=18446744073709551616 by decide] at h1;rw[show 2 ^ (32:Int).toNat=4294967296 by decide] at h2;have ho:x.Na<=2147483647:=by unfold bw at h2; split at h2 <;> omega
 refine⟨?_,?_,⟨by omega,by omega⟩⟩
 ·unfold ji;have hb:qQ x.M2=true:=List.all_eq_true.2 fun y hy=>(h6.2 y hy).2.2;rw[QY QR,h4.2,h5.2,hb];rfl
 ·unfold bw at h1;constructor <;> (split at h1 <;> omega)
def wE:Nat:=2197175160
def pY (x:Nat):Nat:=x / 2 ^^^ (if x % 2=1 then wE else 0)
def lY:Nat->Nat->Nat
 | 0,x=>x
 | k+1,x=>lY k (pY x)
theorem Bv (x y:Nat):(x ^^^ y) % 2=(x % 2+y % 2) % 2:=by
 have h:=Nat.xor_mod_two_pow (a:=x) (b:=y) (n:=1);rw[Nat.pow_one] at h;rw[h];rcases Nat.mod_two_eq_zero_or_one x with hx | hx <;> rcases Nat.mod_two_eq_zero_or_one y with hy | hy <;> rw[hx,hy] <;> rfl
theorem Bw (x y:Nat):(x ^^^ y) / 2=(x / 2) ^^^ (y / 2):=Nat.xor_div_two
theorem IR (x y:Nat):pY (x ^^^ y)=pY x ^^^ pY y:=by
 unfold pY;rw[Bw,Bv];rcases Nat.mod_two_eq_zero_or_one x with hx | hx <;> rcases Nat.mod_two_eq_zero_or_one y with hy | hy <;> simp[hx,hy]
 ·rw[Nat.xor_assoc]
 ·ac_rfl
 ·rw[show x / 2 ^^^ wE ^^^ (y / 2 ^^^ wE)=x / 2 ^^^ y / 2 ^^^ (wE ^^^ wE) by ac_rfl,Nat.xor_self,Nat.xor_zero]
theorem yp: ∀ (k x y:Nat),lY k (x ^^^ y)=lY k x ^^^ lY k y
 | 0,_,_=>rfl
 | k+1,x,y=>by show lY k _= _; rw[IR,yp k]; rfl
theorem CH: ∀ (j k x:Nat),lY (j+k) x=lY k (lY j x)
 | 0,k,x=>by rw[Nat.zero_add]; rfl
 | j+1,k,x=>by rw[show j+1+k=(j+k)+1 by omega]; exact CH j k (pY x)
theorem GO (x:Nat):pY (2*x)=x:=by
 unfold pY; rw[QY QR,Nat.xor_zero]; omega
theorem sK: ∀ (k x:Nat),lY k (2 ^ k*x)=x
 | 0,x=>by rw[Nat.pow_zero,Nat.one_mul]; rfl
 | k+1,x=>by
  show lY k (pY _)=x;rw[show 2 ^ (k+1)*x=2*(2 ^ k*x) by rw[Nat.pow_succ,Nat.mul_comm (2 ^ k) 2,Nat.mul_assoc],GO];exact sK k x
theorem Fs {x:Nat} (h:x<2 ^ 32):pY x<2 ^ 32:=by
 unfold pY;exact Nat.xor_lt_two_pow QR (by split <;> decide)
theorem wO: ∀ (k:Nat) {x:Nat},x<2 ^ 32->lY k x<2 ^ 32
 | 0,_,h=>h
 | k+1,_,h=>wO k (Fs h)
theorem GP (x b:Nat) (hb:b<256):lY 8 (x ^^^ b)=lY 8 ((x % 256) ^^^ b) ^^^ (x / 256):=by
 have h:x=(x % 256) ^^^ (2 ^ 8*(x / 256)):=by
  apply Nat.eq_of_testBit_eq;intro i;rw[Nat.testBit_xor,show (256:Nat)=2 ^ 8 from rfl,Nat.testBit_mod_two_pow,Nat.testBit_two_pow_mul,Nat.testBit_div_two_pow];by_cases hi:i<8
  ·simp[hi,show ¬ 8<=i by omega]
  ·simp[hi,show 8<=i by omega]
 conv=>lhs; rw[h]
 rw[show x % 256 ^^^ 2 ^ 8*(x / 256) ^^^ b=(x % 256 ^^^ b) ^^^ (2 ^ 8*(x / 256)) by ac_rfl,yp,sK]
def leN:List UInt8->Nat
 | []=>0
 | c::l=>c.toNat+256*leN l
def vz:Nat->List UInt8->Nat
 | x,[]=>x
 | x,c::l=>vz (lY 8 (x ^^^ c.toNat)) l
theorem IU: ∀ l,leN l<2 ^ (8*l.length)
 | []=>by decide
 | c::l=>by
  have:=IU l;have hc:=c.toNat_lt;show c.toNat+256*leN l<2 ^ (8*(l.length+1));rw[show 8*(l.length+1)=8+8*l.length by omega,Nat.pow_add];omega
theorem CI {b:Nat} (hb:b<256) (y:Nat):b+256*y=b ^^^ (2 ^ 8*y):=by
 apply Nat.eq_of_testBit_eq;intro i;rw[show b+256*y=2 ^ 8*y+b by omega,Nat.testBit_two_pow_mul_add _ (show b<2 ^ 8 by omega),Nat.testBit_xor,Nat.testBit_two_pow_mul];by_cases hi:i<8
 ·simp[hi,show ¬ 8<=i by omega]
 ·have:b.testBit i=false:=Nat.testBit_lt_two_pow (Nat.lt_of_lt_of_le hb (show 2 ^ 8<=2 ^ i from Nat.pow_le_pow_right QS QR));simp[hi,show 8<=i by omega,this]
theorem Ft: ∀ (l:List UInt8) (x:Nat),vz x l=lY (8*l.length) (x ^^^ leN l)
 | [],x=>by show x=lY 0 (x ^^^ 0); rw[Nat.xor_zero]; rfl
 | c::l,x=>by
  show vz _ l= _;rw[Ft l,show 8*(c::l).length=8+8*l.length by simp[Nat.mul_add]; omega,CH];show _=lY _ (lY 8 (x ^^^ (c.toNat+256*leN l)));rw[CI c.toNat_lt,show x ^^^ (c.toNat ^^^ 2 ^ 8*leN l)=(x ^^^ c.toNat) ^^^ (2 ^ 8*leN l) by ac_rfl,yp 8 (x ^^^ c.toNat),sK]
theorem v7: ∀ (l m:List UInt8) (x:Nat),vz x (l++m)=vz (vz x l) m
 | [],_,_=>rfl
 | c::l,m,x=>v7 l m _
theorem wQ: ∀ (l:List UInt8) {x:Nat},x<2 ^ 32->vz x l<2 ^ 32
 | [],_,h=>h
 | c::l,_,h=>wQ l (wO 8 (Nat.xor_lt_two_pow h (Nat.lt_trans c.toNat_lt QS)))
theorem rt (a:Nat) (h:a<4294967296):(BitVec.ofInt IntKind.u32.bits (a:Int)).toNat=a:=by
 show (BitVec.ofInt 32 (a:Int)).toNat=a;rw[BitVec.ofInt_natCast,BitVec.toNat_ofNat,Nat.mod_eq_of_lt QR]
theorem CJ (a:Nat) (h:a<256):(BitVec.ofInt IntKind.u8.bits (a:Int)).toNat=a:=by
 show (BitVec.ofInt 8 (a:Int)).toNat=a;rw[BitVec.ofInt_natCast,BitVec.toNat_ofNat,Nat.mod_eq_of_lt QR]
theorem wrap_u32 (a:Nat):IntKind.u32.wrap (a:Int)=((a % 4294967296:Nat):Int):=by
 rw[IntKind.wrap_u32]; omega
theorem wrap_u8 (a:Nat):IntKind.u8.wrap (a:Int)=((a % 256:Nat):Int):=by
 rw[IntKind.wrap_u8]; omega
theorem wR (a b:Nat) (ha:a<4294967296) (hb:b<4294967296):Go.bits .xor .u32 (a:Int) (b:Int)=((a ^^^ b:Nat):Int):=by
 show IntKind.u32.wrap (((BitVec.ofInt IntKind.u32.bits (a:Int)) ^^^ (BitVec.ofInt IntKind.u32.bits (b:Int))).toNat:Int)= _;rw[BitVec.toNat_xor,rt a ha,rt b hb,wrap_u32,Nat.mod_eq_of_lt (Nat.xor_lt_two_pow (n:=32) ha hb)]
theorem xor_u8 (a b:Nat) (ha:a<256) (hb:b<256):Go.bits .xor .u8 (a:Int) (b:Int)=((a ^^^ b:Nat):Int):=by
 show IntKind.u8.wrap (((BitVec.ofInt IntKind.u8.bits (a:Int)) ^^^ (BitVec.ofInt IntKind.u8.bits (b:Int))).toNat:Int)= _;rw[BitVec.toNat_xor,CJ a ha,CJ b hb,wrap_u8,Nat.mod_eq_of_lt (Nat.xor_lt_two_pow (n:=8) ha hb)]
theorem IV (a:Nat) (ha:a<4294967296):Go.bits .and .u32 (a:Int) 1=((a % 2:Nat):Int):=by
 show IntKind.u32.wrap (((BitVec.ofInt IntKind.u32.bits (a:Int)) &&& (BitVec.ofInt IntKind.u32.bits ((1:Nat):Int))).toNat:Int)= _;rw[BitVec.toNat_and,rt a ha,rt 1 QS,wrap_u32,Nat.and_one_is_mod,Nat.mod_eq_of_lt QR]
theorem IW (a:Nat):za .u32 (a:Int) 1=((a / 2:Nat):Int):=by
 show Int.fdiv (a:Int) 2= _;rw[Int.fdiv_eq_ediv_of_nonneg _ QS];omega
theorem IX (a:Nat):za .u32 (a:Int) 8=((a / 256:Nat):Int):=by
 show Int.fdiv (a:Int) 256= _;rw[Int.fdiv_eq_ediv_of_nonneg _ QS];omega
theorem IY (y:Nat) (hy:y<4294967296):(if Go.bits .and .u32 (y:Int) 1=1 then some (Go.bits .xor .u32 (za .u32 (y:Int) 1) 2197175160) else some (za .u32 (y:Int) 1))=some ((pY y:Nat):Int):=by
 rw[IV y hy,IW,show (2197175160:Int)=((2197175160:Nat):Int) from rfl,wR _ _ QR QS];unfold pY;by_cases h:y % 2=1
 ·rw[QX QR,QX h]; rfl
 ·rw[QY QR,QY h,Nat.xor_zero]
theorem IZ: ∀ (m y k:Nat),y<4294967296->k<=8->8 - k<m->gl m (y:Int) k=some (((lY (8 - k) y:Nat):Int),8)
 | 0,_,_,_,_,h=>by omega
 | m+1,y,k,hy,hk,hm=>by
  rw[gl];by_cases h:k<8
  ·rw[QX QR,IY y hy,NA,QX QR,IZ m (pY y) (k+1) (Fs hy) QR QR,show 8 - k=(8 - (k+1))+1 by omega];rfl
  ·rw[QY QR,show 8 - k=0 by omega,show k=8 by omega];rfl
def ls:List Int:=(List.range 256).map (fun j=>((lY 8 j:Nat):Int))
theorem yq (j:Nat) (hj:j<256):ls[j]? = some ((lY 8 j:Nat):Int):=by
 unfold ls;rw[List.getElem?_map,List.getElem?_range hj];rfl
theorem I0: ∀ (m k:Nat) (l:List Int),l.length=256->k<=256->256 - k<m->(∀ j,j<k->l[j]? = some ((lY 8 j:Nat):Int))->ik m k l=some (256,ls)
 | 0,_,_,_,_,h,_=>by omega
 | m+1,k,l,hl,hk,hm,hj=>by
  rw[ik];by_cases h:k<256
  ·have e1:IntKind.u32.wrap (k:Int)=((k:Nat):Int):=by rw[wrap_u32,Nat.mod_eq_of_lt QR]
   have e2:gl ((8:Int).toNat+1) (IntKind.u32.wrap (k:Int)) 0=some (((lY 8 k:Nat):Int),8):=by
    rw[e1];exact IZ 9 k 0 QR QR QR
   have e3:l[k]? = some (l[k]'(by omega)):=List.getElem?_eq_getElem QR;rw[QX QR,e2,NA];dsimp only;rw[e3,NA,NA,QX QR];refine I0 m (k+1) _ (by rw[List.length_set]; exact hl) QR QR (fun j hjk=> ?_);rw[List.getElem?_set];by_cases e:k=j
   ·rw[QX e,QX QR,e]
   ·rw[QY e];exact hj j QR
  ·rw[QY QR,show k=256 by omega];congr 2;apply List.ext_getElem?;intro j;by_cases hj2:j<256
   ·rw[yq j hj2];exact hj j QR
   ·rw[List.getElem?_eq_none QR,List.getElem?_eq_none (by unfold ls; simp; omega)]
theorem Kq:mO=some ls:=by
 unfold mO;rw[show (256:Int).toNat+1=257 from rfl,I0 257 0 _ (List.length_replicate ..) QR QR (fun j hj=>absurd hj QR),NA]
theorem Fu (s:List UInt8) (hs:s.length<=9223372036854775806): ∀ (m y k:Nat),y<4294967296->k<=s.length->s.length - k<m->eb s m (y:Int) k ls=some (((vz y (s.drop k):Nat):Int),s.length,ls)
 | 0,_,_,_,_,h=>by omega
 | m+1,y,k,hy,hk,hm=>by
  rw[eb];by_cases h:k<s.length
  ·have e1:s[k]? = some s[k]:=List.getElem?_eq_getElem h;have hc:=s[k].toNat_lt;have hx:y % 256 ^^^ s[k].toNat<256:=Nat.xor_lt_two_pow (n:=8) QR hc;have e2:Go.bits .xor .u8 (IntKind.u8.wrap (y:Int)) (s[k].toNat:Int)=((y % 256 ^^^ s[k].toNat:Nat):Int):=by
    rw[wrap_u8,xor_u8 _ _ QR QR]
   have e3:lY 8 (y % 256 ^^^ s[k].toNat)<2 ^ 32:=wO 8 QR
   rw[QX QR,e1,NA,e2,QX QR,OB,yq _ hx,NA,QX QR,IX,wR _ _ QR QR,<- GP y _ QR,
    Fu s hs m _ (k+1) (wO 8 (Nat.xor_lt_two_pow (n:=32) hy QR)) QR QR]
   rw[bH e1];rfl
  ·rw[QY QR,show k=s.length by omega,List.drop_length];rfl
def pZ (x:Nat) (s:List UInt8):Nat:=4294967295 ^^^ vz (4294967295 ^^^ x) s
theorem Bx {x:Nat} (hx:x<4294967296) (s:List UInt8):pZ x s<4294967296:=Nat.xor_lt_two_pow (n:=32) QS (wQ s (Nat.xor_lt_two_pow (n:=32) QS hx))
theorem ones2 (x:Nat):4294967295 ^^^ (4294967295 ^^^ x)=x:=by rw[<- Nat.xor_assoc,Nat.xor_self,Nat.zero_xor]
theorem CK (x:Nat) (s t:List UInt8):pZ x (s++t)=pZ (pZ x s) t:=by
 unfold pZ;rw[v7,ones2]
theorem I1 (x:Nat):pZ x []=x:=ones2 x
theorem I2 (x:Nat) (hx:x<4294967296) (s:List UInt8) (hs:s.length<=9223372036854775806):iw ls (x:Int) s=some (((pZ x s:Nat):Int),ls):=by
 unfold iw;have h1:(4294967295 ^^^ x:Nat)<4294967296:=Nat.xor_lt_two_pow (n:=32) QS hx;rw[show (4294967295:Int)=((4294967295:Nat):Int) from rfl,wR _ _ QS hx,OB,Fu s hs _ _ 0 h1 QR QR,NA,List.drop_zero];dsimp only;rw[wR _ _ QS (wQ s h1)];rfl
theorem I3: ∀ (l:List (List UInt8)) (x:Nat),x<4294967296->(∀ s,s∈l->s.length<=9223372036854775806)->dN l (x:Int) ls=some (((pZ x l.flatten:Nat):Int),ls)
 | [],x,_,_=>by rw[dN,List.flatten_nil,I1]
 | s::l,x,hx,hs=>by
  rw[dN,I2 x hx s (hs s (List.mem_cons_self ..)),NA];dsimp only;rw[I3 l _ (Bx hx s) (fun t ht=>hs t (List.mem_cons_of_mem _ ht)),List.flatten_cons,CK]
theorem Kr (l:List (List UInt8)) (hs: ∀ s,s∈l->s.length<=9223372036854775806):gS ls l=some (((pZ 0 l.flatten:Nat):Int),ls):=by
 unfold gS;have h:=I3 l 0 QS hs;rw[show ((0:Nat):Int)=0 from rfl] at h;rw[h,NA]
def bI (x j:Nat):Int:=if x.testBit j then 1 else 0
theorem Ep (x j:Nat):bI x j=((x / 2 ^ j % 2:Nat):Int):=by
 unfold bI;rw[Nat.testBit_eq_decide_div_mod_eq];rcases Nat.mod_two_eq_zero_or_one (x / 2 ^ j) with h | h <;> rw[h] <;> rfl
theorem Al (x j:Nat):bI x j=0\/bI x j=1:=by
 unfold bI;by_cases h:x.testBit j=true
 ·rw[QX h]; exact .inr rfl
 ·rw[QY h]; exact .inl rfl
theorem yr (x y j:Nat):bI (x ^^^ y) j=(bI x j+bI y j) % 2:=by
 unfold bI;rw[Nat.testBit_xor];cases x.testBit j <;> cases y.testBit j <;> rfl
theorem Bz (x j:Nat):bI (x / 2) j=bI x (j+1):=by
 unfold bI;rw[Nat.testBit_succ]
theorem CL: ∀ (s:List UInt8) (k:Nat) (c:UInt8),s[k]? = some c-> ∀ j,j<8->(leN s).testBit (8*k+j)=c.toNat.testBit j
 | [],k,c,h,j,hj=>by simp at h
 | a::s,0,c,h,j,hj=>by
  obtain rfl:a=c:=by simpa using h
  show (a.toNat+256*leN s).testBit (8*0+j)= _;rw[show a.toNat+256*leN s=2 ^ 8*leN s+a.toNat by omega,Nat.testBit_two_pow_mul_add _ (show a.toNat<2 ^ 8 from a.toNat_lt),QX QR,Nat.mul_zero,Nat.zero_add]
 | a::s,k+1,c,h,j,hj=>by
  show (a.toNat+256*leN s).testBit _= _;rw[show a.toNat+256*leN s=2 ^ 8*leN s+a.toNat by omega,Nat.testBit_two_pow_mul_add _ (show a.toNat<2 ^ 8 from a.toNat_lt),QY QR,show 8*(k+1)+j - 8=8*k+j by omega];exact CL s k c (by simpa using h) j hj
theorem I4 (a:Int) (ha:0<=a) (hb:a<=9223372036854775807): ∀ (m y k:Nat),y<256->k<=(a % 8).toNat->(a % 8).toNat - k<m->hU a m (y:Int) k=some (((y / 2 ^ ((a % 8).toNat - k):Nat):Int),(a % 8).toNat)
 | 0,_,_,_,_,h=>by omega
 | m+1,y,k,hy,hk,hm=>by
  rw[hU,QX ⟨ha,hb⟩];by_cases h:k<(a % 8).toNat
  ·rw[QX QR,QX QR,QX QR,show ((y:Int) / 2)=((y / 2:Nat):Int) by omega,I4 a ha hb m (y / 2) (k+1) QR QR QR,Nat.div_div_eq_div_mul,
    show (a % 8).toNat - k=((a % 8).toNat - (k+1))+1 by omega,Nat.pow_succ,Nat.mul_comm 2]
  ·rw[QY QR,show (a % 8).toNat - k=0 by omega,Nat.pow_zero,Nat.div_one,show k=(a % 8).toNat by omega]
theorem Ks (s:List UInt8) (i:Nat) (hi:i<8*s.length) (hb:i<=9223372036854775807):oN s (i:Int)=some (bI (leN s) i):=by
 unfold oN;have hk:i / 8<s.length:=by omega
 have e1:s[i / 8]? = some s[i / 8]:=List.getElem?_eq_getElem hk;have hc:=s[i / 8].toNat_lt;have e2:=I4 (i:Int) QR QR (((i:Int) % 8).toNat+1) s[i / 8].toNat 0 QR QR QR;have e3:((i:Int) % 8).toNat=i % 8:=by omega
 rw[QX QR,QX QR,show ((i:Int) / 8).toNat=i / 8 by omega,e1,NA,QX QR,e2,NA,e3,Nat.sub_zero];dsimp only;have h4:s[i / 8].toNat / 2 ^ (i % 8)<=s[i / 8].toNat:=Nat.div_le_self _ _
 suffices h6:bI (leN s) i=((s[i / 8].toNat / 2 ^ (i % 8) % 2:Nat):Int) by
  rw[h6];generalize s[i / 8].toNat / 2 ^ (i % 8)=q at h4 ⊢;rw[QX QR];congr 1
 have h5:=CL s (i / 8) _ e1 (i % 8) QR;rw[show 8*(i / 8)+i % 8=i by omega] at h5;unfold bI;rw[h5];exact Ep _ _
theorem GQ: ∀ i:Nat,i<32->lG (31 - (i:Int))=some (bI wE i):=by decide +kernel
def Bts (L k:Nat) (l:List Int) (x:Nat):Prop:=l.length=L/\ ∀ j,k+j<L->l[k+j]? = some (bI x j)
theorem I5 (s:List UInt8) (hs:s.length<=1000000): ∀ (m k:Nat) (l:List Int),l.length=8*s.length+32->k<=8*s.length->8*s.length - k<m->(∀ j,j<k->l[j]? = some (bI (leN s) j))->(∀ j,k<=j->j<8*s.length+32->l[j]? = some 0) ->
 ∃ l',ic s m l k=some (l',8*s.length)/\Bts (8*s.length+32) 0 l' (leN s)
 | 0,_,_,_,_,h,_,_=>by omega
 | m+1,k,l,hl,hk,hm,h1,h2=>by
  rw[ic];by_cases h:k<8*s.length
  ·rw[QX QR,Ks s k h QR,NA,h2 k (N0 _) QR,NA,QX QR];refine I5 s hs m (k+1) _ (by rw[List.length_set]; exact hl) QR QR (fun j hj=> ?_) (fun j hj hj2=> ?_)
   ·rw[List.getElem?_set];by_cases e:k=j
    ·rw[QX e,QX QR,e]
    ·rw[QY e]; exact h1 j QR
   ·rw[List.getElem?_set,QY QR];exact h2 j QR hj2
  ·have hk2:k=8*s.length:=by omega
   rw[QY QR,hk2];refine⟨l,rfl,hl,fun j hj=> ?_⟩;rw[Nat.zero_add] at hj ⊢;by_cases e:j<k
   ·exact h1 j e
   ·rw[h2 j QR hj];unfold bI;rw[Nat.testBit_lt_two_pow (Nat.lt_of_lt_of_le (IU s) (Nat.pow_le_pow_right QS QR))];rfl
theorem BA (k j:Nat):bI (2 ^ k - 1) j=if j<k then 1 else 0:=by
 unfold bI;rw[Nat.testBit_two_pow_sub_one];by_cases h:j<k <;> simp[h]
theorem I6 (x L:Nat) (hL:32<=L): ∀ (m k:Nat) (l:List Int),k<=32->32 - k<m->Bts L 0 l (x ^^^ (2 ^ k - 1))-> ∃ l',ib m l k=some (l',32)/\Bts L 0 l' (x ^^^ 4294967295)
 | 0,_,_,_,h,_=>by omega
 | m+1,k,l,hk,hm,hB=>by
  rw[ib];by_cases h:k<32
  ·have e:=hB.2 k QR;rw[Nat.zero_add] at e;rw[QX QR,e,NA];have h01:=Al (x ^^^ (2 ^ k - 1)) k;rw[QX QR,QX QR];refine I6 x L hL m (k+1) _ QR QR ⟨by rw[List.length_set]; exact hB.1,fun j hj=> ?_⟩;rw[Nat.zero_add] at hj ⊢;have e2:=hB.2 j QR;rw[Nat.zero_add] at e2;have R:bI (x ^^^ (2 ^ (k+1) - 1)) j=(bI x j+if j<k+1 then 1 else 0) % 2:=by rw[yr,BA]
   have R0:bI (x ^^^ (2 ^ k - 1)) j=(bI x j+if j<k then 1 else 0) % 2:=by rw[yr,BA]
   rw[List.getElem?_set,R];by_cases e3:k=j
   ·subst e3;rw[QX rfl,QX (by rw[hB.1]; exact hj),QX QR,R0,QY QR];rcases Al x k with q | q <;> rw[q] <;> rfl
   ·rw[QY e3,e2,R0];by_cases e4:j<k
    ·rw[QX e4,QX QR]
    ·rw[QY e4,QY QR]
  ·have:k=32:=by omega
   subst this;rw[QY QR];exact⟨l,rfl,hB⟩
theorem I7 (L k:Nat) (l0:List Int) (y:Nat) (hL:k+33<=L) (hb:L<=9000000) (h0:Bts L k l0 y): ∀ (m i:Nat) (l:List Int),1<=i->i<=33->33 - i<m->l.length=L->(∀ j,k+i<=j->j<L->l[j]? = l0[j]?)->(∀ j,j+1<i->l[k+1+j]? = some (bI (y / 2 ^^^ wE) j)) ->
 ∃ l',hZ k m l (i:Int)=some (l',33)/\l'.length=L/\(∀ j,k+33<=j->j<L->l'[j]? = l0[j]?)/\ ∀ j,j<32->l'[k+1+j]? = some (bI (y / 2 ^^^ wE) j)
 | 0,_,_,_,_,h,_,_,_=>by omega
 | m+1,i,l,h1,hi,hm,hl,hr,hd=>by
  rw[hZ];by_cases h:i<=32
  ·have e1:l[k+i]? = some (bI y i):=by rw[hr (k+i) (N0 _) QR]; exact h0.2 i QR
   have e2:lG (32 - (i:Int))=some (bI wE (i - 1)):=by
    rw[show (32:Int) - (i:Int)=31 - ((i - 1:Nat):Int) by omega];exact GQ (i - 1) QR
   have q1:=Al y i;have q2:=Al wE (i - 1)
   rw[QX QR,QX QR,show ((k:Int)+(i:Int)).toNat=k+i by omega,e1,NA,QX QR,QX QR,QX QR,e2,NA,QX QR,QX QR,QX QR,
    show (i:Int)+1=((i+1:Nat):Int) by omega]
   refine I7 L k l0 y hL hb h0 m (i+1) _ QR QR QR (by rw[List.length_set]; exact hl) (fun j hj hj2=> ?_) (fun j hj=> ?_)
   ·rw[List.getElem?_set,QY QR];exact hr j QR hj2
   ·rw[List.getElem?_set];by_cases e3:k+i=k+1+j
    ·rw[QX e3,QX QR,yr,Bz,show j+1=i by omega,show i - 1=j by omega]
    ·rw[QY e3]; exact hd j QR
  ·have:i=33:=by omega
   subst this;rw[QY QR];exact⟨l,rfl,hl,fun j hj hj2=>hr j hj hj2,fun j hj=>hd j QR⟩
theorem GR (j:Nat) (hj:32<=j):bI wE j=0:=by
 unfold bI;rw[Nat.testBit_lt_two_pow (Nat.lt_of_lt_of_le (show wE<2 ^ 32 by decide) (Nat.pow_le_pow_right QS hj))];rfl
theorem Fv (x:Nat):bI x 0=1↔x % 2=1:=by
 rw[Ep,Nat.pow_zero,Nat.div_one]; omega
theorem Er (s:List UInt8) (hs:s.length<=1000000): ∀ (m k:Nat) (l:List Int) (y:Nat),k<=8*s.length->8*s.length - k<m->Bts (8*s.length+32) k l y-> ∃ l',gc s m l k=some (l',8*s.length)/\Bts (8*s.length+32) (8*s.length) l' (lY (8*s.length - k) y)
 | 0,_,_,_,_,h,_=>by omega
 | m+1,k,l,y,hk,hm,hB=>by
  rw[gc];by_cases h:k<8*s.length
  ·have e1:=hB.2 0 QR;rw[Nat.add_zero] at e1;rw[QX QR,e1,NA,show 8*s.length - k=(8*s.length - (k+1))+1 by omega];by_cases ho:bI y 0=1
   ·have hy:=(Fv y).1 ho;obtain⟨l',r1,r2,r3,r4⟩:=I7 (8*s.length+32) k l y QR QR hB 33 1 l QR QR QR hB.1 (fun j _ _=>rfl) (fun j hj=>absurd hj QR);rw[QX ho,show ((33:Int) - 1).toNat+1=33 from rfl,show (1:Int)=((1:Nat):Int) from rfl,r1,NA];dsimp only;rw[QX QR];refine Er s hs m (k+1) l' (pY y) QR QR ⟨r2,fun j hj=> ?_⟩;unfold pY;rw[QX hy];by_cases e:j<32
    ·exact r4 j e
    ·rw[r3 _ QR QR,show k+1+j=k+(j+1) by omega,hB.2 (j+1) QR,yr,Bz,GR j QR];rcases Al y (j+1) with q | q <;> rw[q] <;> rfl
   ·have hy: ¬ y % 2=1:=fun e=>ho ((Fv y).2 e);rw[QY ho,QX QR];refine Er s hs m (k+1) l (pY y) QR QR ⟨hB.1,fun j hj=> ?_⟩;unfold pY;rw[QY hy,Nat.xor_zero,Bz,show k+1+j=k+(j+1) by omega];exact hB.2 (j+1) QR
  ·have:k=8*s.length:=by omega
   subst this;rw[QY QR,Nat.sub_self];exact⟨l,rfl,hB⟩
theorem CM {z:Nat} (hz:z<4294967296):4294967295 ^^^ z=4294967295 - z:=by
 apply Nat.eq_of_testBit_eq;intro i;rw[show 4294967295 - z=2 ^ 32 - (z+1) by omega,Nat.testBit_two_pow_sub_succ (show z<2 ^ 32 from hz),Nat.testBit_xor,show (4294967295:Nat)=2 ^ 32 - 1 from rfl,Nat.testBit_two_pow_sub_one];by_cases h:i<32
 ·simp[h]
 ·have:z.testBit i=false:=Nat.testBit_lt_two_pow (Nat.lt_of_lt_of_le hz (show 2 ^ 32<=2 ^ i from Nat.pow_le_pow_right QS QR));simp[h,this]
theorem I8 (s:List UInt8) (hs:s.length<=1000000) (l:List Int) (z:Nat) (hz:z<4294967296) (hB:Bts (8*s.length+32) (8*s.length) l z): ∀ (i m:Nat),i<=32->i<m->fv s l m (((4294967295 - z) / 2 ^ i:Nat):Int) ((i:Int) - 1)=some (((4294967295 - z:Nat):Int),-1)
 | i,0,_,h=>by omega
 | 0,m+1,_,_=>by
  rw[fv,QY QR,Nat.pow_zero,Nat.div_one];rfl
 | i+1,m+1,hi,hm=>by
  have e1:=hB.2 i QR;have q:=Al z i
  rw[fv,QX QR,QX QR,QX QR,show (8*(s.length:Int)+(((i+1:Nat):Int) - 1)).toNat=8*s.length+i by omega,e1,NA,QX QR,QX QR,
   show ((i+1:Nat):Int) - 1 - 1=(i:Int) - 1 by omega]
  have h1:(4294967295 - z) / 2 ^ i / 2=(4294967295 - z) / 2 ^ (i+1):=by rw[Nat.div_div_eq_div_mul,<- Nat.pow_succ]
  have h2:(((4294967295 - z) / 2 ^ i % 2:Nat):Int)=1 - bI z i:=by
   rw[<- Ep,<- CM hz,yr,show (4294967295:Nat)=2 ^ 32 - 1 from rfl,BA,QX QR];rcases q with q | q <;> rw[q] <;> rfl
  have h3:(4294967295 - z) / 2 ^ i<=4294967295:=Nat.le_trans (Nat.div_le_self _ _) QR;have h4:IntKind.u32.wrap ((IntKind.u32.wrap ((((4294967295 - z) / 2 ^ (i+1):Nat):Int)*2))+(IntKind.u32.wrap (1 - bI z i)))=(((4294967295 - z) / 2 ^ i:Nat):Int):=by
   rw[IntKind.wrap_u32,IntKind.wrap_u32,IntKind.wrap_u32,<- h1,<- h2];generalize (4294967295 - z) / 2 ^ i=q at h3;omega
  rw[h4];exact I8 s hs l z hz hB i m QR QR
theorem Kt (s:List UInt8) (hs:s.length<=1000000):oP s=some ((pZ 0 s:Nat):Int):=by
 unfold oP;obtain⟨l1,r1,B1⟩:=I5 s hs (8*s.length+1) 0 (List.replicate (8*s.length+32) 0) (List.length_replicate ..) QR QR (fun j hj=>absurd hj QR) (fun j _ hj=>by rw[List.getElem?_replicate,QX hj]);obtain⟨l2,r2,B2⟩:=I6 (leN s) (8*s.length+32) QR 33 0 l1 QR QR (by rw[Nat.pow_zero,Nat.sub_self,Nat.xor_zero]; exact B1);obtain⟨l3,r3,B3⟩:=Er s hs (8*s.length+1) 0 l2 _ QR QR B2;have hz:lY (8*s.length - 0) (leN s ^^^ 4294967295)=vz 4294967295 s:=by rw[Nat.sub_zero,Ft,Nat.xor_comm]
 rw[hz] at B3;have hlt:vz 4294967295 s<4294967296:=wQ s QS;have r4:=I8 s hs l3 _ hlt B3 32 33 QR QR;rw[show (4294967295 - vz 4294967295 s) / 2 ^ 32=0 from Nat.div_eq_of_lt QR] at r4;rw[QX QR,QX QR,QX QR,show (8*(s.length:Int)).toNat=8*s.length by omega,show (8*(s.length:Int)+32).toNat=8*s.length+32 by omega,r1,NA];dsimp only;rw[show (32:Int).toNat+1=33 from rfl,r2,NA];dsimp only;rw[r3,NA];dsimp only;rw[show ((31:Int) - -1).toNat+1=33 from rfl];have r5:fv s l3 33 0 31=some (((4294967295 - vz 4294967295 s:Nat):Int),-1):=r4;rw[r5,NA];dsimp only;rw[<- CM hlt];unfold pZ;rw[Nat.xor_zero]
def Fw (p:Pfx):List UInt8:=be p.Ng 8++(be p.Nm 4++(be p.M9 4++(be 2 1++be (s32 p.Nr) 4)))
def j6 (p:Pfx):List UInt8:=be p.Nu 2++rV [4,8,8,8,2,4,4] [p.Nf,p.M4,p.Nn,p.MO,p.MR,p.M5,p.Nt]
theorem Ku (p:Pfx):pD p=Fw p++j6 p:=by
 unfold pD KS toL Fw j6;simp only[rV,NI]
theorem GS (p:Pfx):(Fw p).length=21:=by
 unfold Fw;simp only[NE,aE]
theorem ru (p:Pfx):(pD p).drop 21=j6 p:=by
 rw[Ku,<- GS p,List.drop_left]
def okRc (x:Rec):Prop:=ym x/\bw ((dE x).length:Int)<2 ^ (32:Int).toNat
def Fx:Pr Unit:=fun s q=>if q=s.length then .error 10 else .ok ((),q)
def tV:Nat->Pr (List Rec)
 | 0=> .ret []
 | n+1=>Fx.bind fun _=>GL.bind fun x=>(tV n).bind fun l=> .ret (x::l)
theorem sL (x:Rec):0<(ej x).length:=by
 unfold ej;rw[NE];have:=qj (bw ((dE x).length:Int));omega
theorem sM: ∀ (n:Nat) (s:List UInt8) (q:Nat) (l:List Rec) (r:Nat),q<=s.length->tV n s q= .ok (l,r)->q<=r/\r<=s.length/\s.take r=s.take q++bb ej l/\l.length=n/\ ∀ x,x∈l->okRc x
 | 0,s,q,l,r,hq,h=>by
  injection h with h;obtain⟨rfl,rfl⟩:=N9 h;exact⟨N0 _,hq,by simp[bb],rfl,fun x h=>nomatch h⟩
 | n+1,s,q,l,r,hq,h=>by
  obtain⟨u,m,h1,h2⟩:=Pr.bind_ok h;unfold Fx at h1;split at h1
  ·exact nomatch h1
  injection h1 with h1;obtain⟨_,rfl⟩:=N9 h1;obtain⟨x,m2,h3,h4⟩:=Pr.bind_ok h2;obtain⟨xs,m3,h5,h6⟩:=Pr.bind_ok h4;injection h6 with h6;obtain⟨rfl,rfl⟩:=N9 h6;obtain⟨a1,a2,a3,a4,a5⟩:=El.spell s q x m2 hq h3;obtain⟨b1,b2,b3,b4,b5⟩:=sM n s m2 xs m3 a2 h5;refine⟨by omega,b2,by rw[b3,a4,bb,NI],by rw[NJ,b4],fun y hy=> ?_⟩;rcases List.mem_cons.1 hy with rfl | hy
  ·exact a5
  ·exact b5 y hy
theorem Am: ∀ (l:List Rec) (s t:List UInt8) (q:Nat),q<=s.length->(∀ x,x∈l->okRc x)->s.drop q=bb ej l++t->tV l.length s q= .ok (l,q+(bb ej l).length)
 | [],s,t,q,hq,_,_=>rfl
 | x::l,s,t,q,hq,ho,hd=>by
  rw[bb,NI] at hd;have hl:=congrArg List.length hd;rw[NO,NE] at hl;have hp:=sL x;have h0:Fx s q= .ok ((),q):=QY QR;have h1:=El.back s _ q x hq (ho x (.head _)) hd;have h2:=Am l s t _ QR (fun y hy=>ho y (.tail _ hy)) (cz hd);rw[NJ,tV,Pr.bind_of h0,Pr.bind_of h1,Pr.bind_of h2,bb,NE,<- Nat.add_assoc];rfl
def chk (a:Bat):Int:=(dY a).getD 0
def body (a:Bat):List UInt8:=bb ej a.MS
def mkB (p:Pfx) (l:List Rec):Bat:=⟨p.Ng,p.M9,fj p.Nu 3,fj p.Nu 4,fj p.Nu 5,p.Nf,p.M4,p.Nn,p.MO,p.MR,p.M5,l⟩
def pB (a:Bat) (s:Int):Pfx:=⟨a.Ng,49+((body a).length:Int),a.M9,s,jC a.Nq a.Ni a.Nl,a.Nf,a.M4,a.Nn,a.MO,a.MR,a.M5,(a.MS.length:Int)⟩
def sumP (p:Pfx) (s:List UInt8):Nat:=pZ 0 (j6 p++s)
def o4 (a:Bat):Nat:=sumP (pB a 0) (body a)
def fU (a:Bat):List UInt8:=pD (pB a (o4 a))++body a
def okB (a:Bat):Prop:=okP (pB a (o4 a))/\fp (jC a.Nq a.Ni a.Nl)=0/\(∀ x,x∈a.MS->okRc x)/\chk a=0
def tW (p:Pfx) (s:List UInt8):Except Int Bat :=
 if fp p.Nu=0 then
  match tV p.Nt.toNat s 0 with
  | .error e=> .error e
  | .ok (l,r)=>if r<s.length then .error 10 else if chk (mkB p l)=0 then .ok (mkB p l) else .error (chk (mkB p l))
 else .error (fp p.Nu)
def GT:Pr Bat:=fun s q =>
 match GI s q with
 | .error e=> .error e
 | .ok (p,r)=>if s.length<r+(p.Nm - 49).toNat then .error 1 else
  if ((sumP p ((s.drop r).take (p.Nm - 49).toNat):Nat):Int)=p.Nr then
   match tW p ((s.drop r).take (p.Nm - 49).toNat) with
   | .error e=> .error e
   | .ok b=> .ok (b,r+(p.Nm - 49).toNat)
  else .error 5
theorem An {n:Int} (h:fp n=0):jC (fj n 3) (fj n 4) (fj n 5)=n:=by
 have h1:n % 8=0/\0<=n/\n<=63:=by
  unfold fp at h;split at h
  ·cases h
  ·split at h
   ·cases h
   ·omega
 have h2:n=0\/n=8\/n=16\/n=24\/n=32\/n=40\/n=48\/n=56:=by omega
 rcases h2 with rfl | rfl | rfl | rfl | rfl | rfl | rfl | rfl <;> decide
theorem Fy: ∀ a b c:Bool,fj (jC a b c) 3=a/\fj (jC a b c) 4=b/\fj (jC a b c) 5=c:=by decide
theorem I9 {p:Pfx} {s:List UInt8} {b:Bat} (h:tW p s= .ok b) (h0:0<=p.Nt):fp p.Nu=0/\ ∃ l,b=mkB p l/\s=bb ej l/\(l.length:Int)=p.Nt/\(∀ x,x∈l->okRc x)/\chk b=0:=by
 unfold tW at h;by_cases ha:fp p.Nu=0
 ·rw[QX ha] at h;refine⟨ha,?_⟩
  cases hr:tV p.Nt.toNat s 0 with
  | error e=>rw[hr] at h; exact nomatch h
  | ok x =>
   obtain⟨l,r⟩:=x;rw[hr] at h;dsimp only at h;by_cases hl:r<s.length
   ·rw[QX hl] at h; exact nomatch h
   rw[QY hl] at h;by_cases hc:chk (mkB p l)=0
   ·rw[QX hc] at h;injection h with h;subst h;obtain⟨b1,b2,b3,b4,b5⟩:=sM _ s 0 l r (NY _) hr;rw[List.take_of_length_le QR,List.take_zero,NV] at b3;exact⟨l,rfl,b3,by omega,b5,hc⟩
   ·rw[QY hc] at h; exact nomatch h
 ·rw[QY ha] at h; exact nomatch h
theorem pB_mk {p:Pfx} {l:List Rec} (h1:(49:Int)+((bb ej l).length:Int)=p.Nm) (h2:fp p.Nu=0) (h3:(l.length:Int)=p.Nt) (s:Int):pB (mkB p l) s=⟨p.Ng,p.Nm,p.M9,s,p.Nu,p.Nf,p.M4,p.Nn,p.MO,p.MR,p.M5,p.Nt⟩:=by
 unfold pB mkB body;dsimp only;rw[h1,h3,An h2]
theorem Es:Sp GT fU okB:=by
 refine⟨fun s q b r hq h=> ?_,fun s t q a hq ha hd=> ?_⟩
 ·unfold GT at h
  cases hp:GI s q with
  | error e=>rw[hp] at h; exact nomatch h
  | ok x =>
   obtain⟨p,m⟩:=x;rw[hp] at h;dsimp only at h;obtain⟨a1,a2,a3,a4,a5,a6,a7,a8⟩:=Eg.spell s q p m hq hp;by_cases hl:s.length<m+(p.Nm - 49).toNat
   ·rw[QX hl] at h; exact nomatch h
   rw[QY hl] at h;by_cases hs:((sumP p ((s.drop m).take (p.Nm - 49).toNat):Nat):Int)=p.Nr
   ·rw[QX hs] at h
    cases ho:tW p ((s.drop m).take (p.Nm - 49).toNat) with
    | error e=>rw[ho] at h; exact nomatch h
    | ok b' =>
     rw[ho] at h;injection h with h;obtain⟨rfl,rfl⟩:=N9 h;obtain⟨k1,l,rfl,k3,k4,k5,k6⟩:=I9 ho a8;have hn:((s.drop m).take (p.Nm - 49).toNat).length=(p.Nm - 49).toNat:=by rw[On,NO]; omega
     have e1:(49:Int)+((bb ej l).length:Int)=p.Nm:=by rw[<- k3,hn]; omega
     have e2:((o4 (mkB p l):Nat):Int)=p.Nr:=by
      rw[<- hs,k3];unfold o4;rw[pB_mk e1 k1 k4];rfl
     have e3:pB (mkB p l) (o4 (mkB p l))=p:=by rw[pB_mk e1 k1 k4,e2]
     have e4:fU (mkB p l)=pD p++(s.drop m).take (p.Nm - 49).toNat:=by
      unfold fU;rw[e3,k3];rfl
     have a9:=congrArg List.length a4;refine⟨by omega,by omega,?_,?_,?_⟩
     ·rw[e4,NE,hn]; omega
     ·rw[e4,ro,a4,NI]
     ·refine⟨by rw[e3]; exact⟨a5,a6,a7,a8⟩,?_,k5,k6⟩;show fp (jC (fj p.Nu 3) (fj p.Nu 4) (fj p.Nu 5))=0;rw[An k1];exact k1
   ·rw[QY hs] at h; exact nomatch h
 ·obtain⟨h1,h2,h3,h4⟩:=ha;unfold fU at hd;rw[NI] at hd;have hp:=Eg.back s _ q _ hq h1 hd;have hd2:=cz hd;have hl:=congrArg List.length hd;rw[NO,NE,NE] at hl;have hn:((pB a (o4 a)).Nm - 49).toNat=(body a).length:=by
   show ((49:Int)+((body a).length:Int) - 49).toNat= _;omega
  have ht:(s.drop (q+(pD (pB a (o4 a))).length)).take (body a).length=body a:=by rw[hd2,List.take_left]
  unfold GT;rw[hp];dsimp only;rw[hn,ht,QY QR,QX (show ((sumP (pB a (o4 a)) (body a):Nat):Int)=(pB a (o4 a)).Nr from rfl)];have hr:=Am a.MS (body a) [] 0 (NY _) h3 (by rw[List.drop_zero,NW]; rfl);have ho:tW (pB a (o4 a)) (body a)= .ok a:=by
   unfold tW;rw[QX (show fp (pB a (o4 a)).Nu=0 from h2),show (pB a (o4 a)).Nt.toNat=a.MS.length from rfl,hr];dsimp only;obtain⟨b1,b2,b3⟩:=Fy a.Nq a.Ni a.Nl;have e:mkB (pB a (o4 a)) a.MS=a:=by
    unfold mkB pB;dsimp only;rw[b1,b2,b3]
   rw[e,QY (by show ¬ 0+(body a).length < _; omega),QX h4]
  rw[ho];dsimp only;unfold fU;rw[NE,Nat.add_assoc]
def zBat:Bat:=⟨0,0,false,false,false,0,0,0,0,0,0,[]⟩
def bnR (r:Rec):Prop:=r.M2.length<=1000000/\r.Nd.data.length<=1000000/\r.M3.data.length<=1000000
def bnB (a:Bat):Prop:=ot a/\a.MS.length<=1000000/\ ∀ r,r∈a.MS->bnR r
theorem yt {α:Type} (enc:α->List UInt8): ∀ (l:List α) (x:α),x∈l->(enc x).length<=(bb enc l).length
 | y::l,x,h=>by
  rw[bb,NE];rcases List.mem_cons.1 h with rfl | h
  ·omega
  ·have:=yt enc l x h;omega
theorem yu {α:Type} (enc:α->List UInt8): ∀ (l:List α),(∀ x,x∈l->0<(enc x).length)->l.length<=(bb enc l).length
 | [],_=>NY _
 | y::l,h=>by
  rw[bb,NE,NJ];have h1:=h y (.head _);have:=yu enc l (fun x hx=>h x (.tail _ hx));omega
theorem GU (h:Hd):0<(gG h).length:=by
 unfold gG;simp only[NE];have:=qj (bw (h.Nd.length:Int));omega
theorem Et {x:Rec} (h:ym x) (hl:(ej x).length<=1000000):xP x/\bnR x:=by
 obtain⟨_,h2,h3⟩:=CG h;have e:(ej x).length=(cO (bw ((dE x).length:Int))).length+(dE x).length:=by unfold ej; rw[NE]
 have e2:(dE x).length<=1000000:=by omega
 simp only[dE,lX,qT,NE,aE] at e2;have h4:=yu gG x.M2 (fun y _=>GU y);have hS: ∀ d:List UInt8,d.length<=1000000->wS d:=fun d hd=>by unfold wS; omega
 refine⟨⟨h2,h3,⟨trivial,hS _ QR⟩,⟨trivial,hS _ QR⟩,by omega,fun y hy=> ?_⟩,by omega,by omega,by omega⟩;have h5:=yt gG x.M2 y hy;have h6:(gG y).length<=1000000:=by omega
 simp only[gG,NE] at h6;exact⟨hS _ QR,trivial,hS _ QR⟩
theorem Eu {a:Bat} (h:bnB a):dY a=some (chk a)/\iU a=some (chk a):=by
 obtain⟨cr,e0,h1,h2,_⟩:=yi a h.1 h.2.1 h.2.2;have e:chk a=Bt a cr e0:=by unfold chk; rw[h1]; rfl
 rw[e];exact⟨h1,h2⟩
theorem CN (n:Int):bn n 8=decide (-9223372036854775808<=n/\n<=9223372036854775807):=by
 rw[Bool.eq_iff_iff];unfold bn;simp only[Bool.and_eq_true,decide_eq_true_eq];have:(2:Int) ^ (8*(8:Int).toNat - 1)=9223372036854775808:=by decide
 omega
theorem wI8 {n:Int} (h:bn n (8:Nat)=true):wI n:=by
 have h':bn n 8=true:=h;rw[CN] at h';have h2:=of_decide_eq_true h';exact h2
theorem wI4 {n:Int} (h:bn n (4:Nat)=true): -2147483648<=n/\n<=2147483647:=by
 have h':bn n 4=true:=h;rw[eU] at h';exact of_decide_eq_true h'
theorem wI2 {n:Int} (h:bn n (2:Nat)=true): -32768<=n/\n<=32767:=by
 have h':bn n 2=true:=h;rw[yh] at h';exact of_decide_eq_true h'
theorem yv {p:Pfx} (hp:okP p) {l:List Rec} (hl: ∀ x,x∈l->okRc x) (hb:(bb ej l).length<=1000000):bnB (mkB p l):=by
 obtain⟨⟨k1,k2,k3,_,k5,k6,k7,k8,k9,k10,k11,k12,k13,_⟩,_,_,_⟩:=hp;have w4: ∀ {n:Int},bn n (4:Nat)=true->wI n:=fun h=>by have:=wI4 h; unfold wI; omega
 have w2: ∀ {n:Int},bn n (2:Nat)=true->wI n:=fun h=>by have:=wI2 h; unfold wI; omega
 have hr: ∀ x,x∈l->xP x/\bnR x:=fun x hx=>Et (hl x hx).1 (by have:=yt ej l x hx; omega);have h4:=yu ej l (fun y _=>sL y);exact⟨⟨wI8 k1,w4 k3,trivial,trivial,trivial,w4 k7,wI8 k8,wI8 k9,wI8 k10,w2 k11,w4 k12,by show l.length<= _; omega,fun x hx=>(hr x hx).1⟩,by show l.length<= _; omega,fun x hx=>(hr x hx).2⟩
theorem CO (p:Pfx) (hc:p.Nt<=2147483647) (s:List UInt8) (hs:s.length<=1000000) (y:Int): ∀ (n k fuel:Nat) (acc:List Rec) (q:Nat),((k+n:Nat):Int)=p.Nt->n<fuel->q<=s.length->acc.length<=q ->
 (∃ e,tV n s q= .error e/\e≠0/\d8 p fuel y k acc ⟨s.drop q,q,0⟩=some (.ret (zBat,e)))\/(∃ l r,tV n s q= .ok (l,r)/\q<=r/\r<=s.length/\d8 p fuel y k acc ⟨s.drop q,q,0⟩=some (.go (y,k+n,acc++l,⟨s.drop r,r,0⟩)))
 | 0,k,fuel+1,acc,q,hk,hf,hq,ha=> .inr ⟨[],q,rfl,N0 _,hq,by rw[d8,QY QR,NW,Nat.add_zero]⟩
 | n+1,k,fuel+1,acc,q,hk,hf,hq,ha=>by
  rw[d8,QX QR,s8,NA];dsimp only;rw[NO,tV];by_cases hz:q=s.length
  ·rw[QX QR];exact .inl ⟨10,Pr.bind_err (QX hz),by decide,rfl⟩
  rw[QY QR,Pr.bind_of (show Fx s q= .ok ((),q) from QY hz)];rcases B_rec.run s q hs hq with⟨e,st,p1,g1,x1,y1⟩ | ⟨b,r,p1,g1,n1,l1⟩
  ·rw[g1,NA];dsimp only;rw[bA,NA];dsimp only;rw[QY y1];exact .inl ⟨e,Pr.bind_err p1,by rw[<- x1]; exact y1,by rw[x1]; rfl⟩
  ·have h3:=(El.spell s q b r hq p1).2.2.1;have h4:=sL b;rw[g1,NA];dsimp only;rw[bA,NA];dsimp only;rw[QX rfl,QX QR,QX QR,Pr.bind_of p1];rcases CO p hc s hs y n (k+1) fuel (acc ++ [b]) r QR QR l1 (by rw[NE,Or]; omega) with⟨e,q1,q2,q3⟩ | ⟨l,m,q1,q2,q3,q4⟩
   ·exact .inl ⟨e,Pr.bind_err q1,q2,q3⟩
   ·exact .inr ⟨b::l,m,by rw[Pr.bind_of q1]; rfl,by omega,q3,by rw[q4,NI,show k+1+n=k+(n+1) by omega]; rfl⟩
theorem bopen {p:Pfx} (hp:okP p) (s:List UInt8) (hs:s.length<=1000000):(∃ e x,tW p s= .error e/\e≠0/\jr p s=some (x,e))\/(∃ b,tW p s= .ok b/\jr p s=some (b,0)):=by
 obtain⟨k1,k2,k3,k4⟩:=id hp;have ha:=wI2 k1.2.2.2.2.2.1;have hc:=wI4 k1.2.2.2.2.2.2.2.2.2.2.2.2.1;try dsimp only at ha
 unfold jr tW;rw[DS _ QR,NA];by_cases h0:fp p.Nu=0;rotate_left
 ·rw[QY h0,QY h0];exact .inl ⟨_,_,rfl,h0,rfl⟩
 rw[QX h0,QX h0,Gk,NA];dsimp only;rw[kp _ QR,NA];rcases CO p hc.2 s hs 0 p.Nt.toNat 0 (p.Nt.toNat+1) [] 0 QR QR (NY _) (NY _) with⟨e,q1,q2,q3⟩ | ⟨l,m,q1,q2,q3,q4⟩
 ·rw[List.drop_zero] at q3;rw[q3,q1];exact .inl ⟨e,_,rfl,q2,rfl⟩
 ·rw[List.drop_zero] at q4;obtain⟨b1,b2,b3,b4,b5⟩:=sM _ s 0 l m (NY _) q1;rw[q4,q1,NA];dsimp only;rw[s8,NA];dsimp only;rw[NO];by_cases hl:m<s.length
  ·rw[QX hl,QX (show ((s.length - m:Nat):Int)>0 by omega)];exact .inl ⟨_,_,rfl,by decide,rfl⟩
  ·rw[QY hl,QY (show ¬ ((s.length - m:Nat):Int)>0 by omega)];rw[List.take_of_length_le QR,List.take_zero,NV] at b3;have hB:=yv hp b5 (by rw[<- b3]; exact hs);have e:dY (⟨p.Ng,p.M9,fj p.Nu 3,fj p.Nu 4,fj p.Nu 5,p.Nf,p.M4,p.Nn,p.MO,p.MR,p.M5,[]++l⟩:Bat)=some (chk (mkB p l)):=(Eu hB).1;rw[e,NA];by_cases hk:chk (mkB p l)=0
   ·rw[QX hk,hk];exact .inr ⟨_,rfl,rfl⟩
   ·rw[QY hk];exact .inl ⟨_,_,rfl,hk,rfl⟩
theorem B_bat:CB jt GT zBat:=by
 refine⟨fun st h=> ?_,fun s q hs hq=> ?_⟩
 ·unfold jt;rw[B_pfx.dead st h,NA];dsimp only;rw[QX QS,oF _ _ QS,NA];dsimp only;have e:cE st ((0:Int) - 49)=([],st):=QX h;rw[show zP.Nm=(0:Int) from rfl,e,bA,NA];dsimp only;rw[QY h];rfl
 ·unfold jt GT;rcases B_pfx.run s q hs hq with⟨e,st,p1,g1,x1,y1⟩ | ⟨p,r,p1,g1,n1,l1⟩
  ·refine .inl ⟨e,st,by rw[p1],?_,x1,y1⟩;rw[g1,NA];dsimp only;rw[QX QS,oF _ _ QS,NA];dsimp only;have e:cE st ((0:Int) - 49)=([],st):=QX y1;rw[show zP.Nm=(0:Int) from rfl,e,bA,NA];dsimp only;rw[QY y1];rfl
  ·obtain⟨a1,a2,a3,a4,ap⟩:=Eg.spell s q p r hq p1;obtain⟨k1,k2,k3,k4⟩:=id ap;have hL:=wI4 k1.2.1;try dsimp only at hL
   have hT: -9223372036854775808<=p.Nm - 49/\p.Nm - 49<=9223372036854775807:=by omega
   rw[g1,NA,p1];dsimp only;rw[QX hT,oF _ _ hT,NA];dsimp only;by_cases hl:s.length<r+(p.Nm - 49).toNat
   ·have e:cE ⟨s.drop r,r,0⟩ (p.Nm - 49)=([],⟨s.drop r,r,1⟩):=by
     unfold cE;rw[QY (by simp),QY QR,QX (by rw[NO]; omega)]
    rw[QX hl,e,bA,NA];exact .inl ⟨1,⟨s.drop r,r,1⟩,rfl,rfl,rfl,by show (1:Int)≠0; decide⟩
   have e:cE ⟨s.drop r,r,0⟩ (p.Nm - 49)=((s.drop r).take (p.Nm - 49).toNat,⟨s.drop (r+(p.Nm - 49).toNat),r+(p.Nm - 49).toNat,0⟩):=by
    unfold cE;rw[QY (by simp),QY QR,QY (by rw[NO]; omega),Om]
   rw[QY hl,e,bA,NA];dsimp only;have hn:((s.drop r).take (p.Nm - 49).toNat).length=(p.Nm - 49).toNat:=by rw[On,NO]; omega
   generalize (s.drop r).take (p.Nm - 49).toNat=b at hn;have hlen:(pD p).length=61:=tT k1;rw[QX rfl,IH [] ⟨k1,k2⟩ QS,NA,NV,F3,NA];dsimp only;rw[otx_z,Kq,NA];dsimp only;rw[QX (show 21<=(pD p).length by omega)];have hp21:(j6 p).length<=61:=by rw[<- ru p,NO]; omega
   have hs2 : [j6 p,b].flatten=j6 p++b:=by simp
   rw[ru,Kr [j6 p,b] (by intro t ht; rcases List.mem_cons.1 ht with rfl | ht; omega; rw[List.mem_singleton.1 ht]; omega),NA,hs2];dsimp only;have hlt:pZ 0 (j6 p++b)<4294967296:=Bx QS _;rw[QX (show -9223372036854775808<=((pZ 0 (j6 p++b):Nat):Int)/\((pZ 0 (j6 p++b):Nat):Int)<=9223372036854775807 by omega)];by_cases hsum:((sumP p b:Nat):Int)=p.Nr;rotate_left
   ·rw[QY hsum,QY (show ¬ ((pZ 0 (j6 p++b):Nat):Int)=p.Nr from hsum),dB,NA];exact .inl ⟨5,_,rfl,rfl,rfl,by show (5:Int)≠0; decide⟩
   rw[QX hsum,QX (show ((pZ 0 (j6 p++b):Nat):Int)=p.Nr from hsum)];rcases bopen ap b QR with⟨e,x,o1,o2,o3⟩ | ⟨x,o1,o3⟩
   ·rw[o1,o3,NA];dsimp only;rw[QY o2,dB,NA];exact .inl ⟨e,_,rfl,rfl,rfl,o2⟩
   ·rw[o1,o3,NA];dsimp only;rw[QX rfl];exact .inr ⟨x,_,rfl,rfl,by omega,by omega⟩
theorem qV: ∀ {l:List Rec},fV l=0-> ∀ r,r∈l->ji r=0
 | x::l,h,r,hr=>by
  rw[fV] at h;by_cases hx:ji x=0
  ·rw[QX hx] at h;rcases List.mem_cons.1 hr with rfl | hr
   ·exact hx
   ·exact qV h r hr
  ·rw[QY hx] at h;exact absurd h hx
theorem vA {a:Bat} (h:bnB a) (h0:chk a=0):lW a/\jH a/\(a.Nl=true->a.Ni=true/\(a.MS.length:Int)=1)/\ ∀ r,r∈a.MS->ji r=0:=by
 obtain⟨cr,e0,h1,h2,h3,h4⟩:=yi a h.1 h.2.1 h.2.2;have e:chk a=Bt a cr e0:=by unfold chk; rw[h1]; rfl
 rw[e] at h0;unfold Bt at h0;by_cases hn:lW a;rotate_left
 ·rw[QY hn] at h0; exact absurd h0 QS
 rw[QX hn] at h0;by_cases hc:a.Nl=true
 ·rw[QX hc] at h0;by_cases ht:a.Ni=true;rotate_left
  ·rw[QY ht] at h0; exact absurd h0 QS
  rw[QX ht] at h0;by_cases hp:jH a;rotate_left
  ·rw[QY hp] at h0; exact absurd h0 QS
  rw[QX hp] at h0;by_cases hl:(a.MS.length:Int)=1;rotate_left
  ·rw[QY hl] at h0; exact absurd h0 QS
  rw[QX hl] at h0;by_cases hf:fV a.MS=0;rotate_left
  ·rw[QY hf] at h0; exact absurd h0 hf
  exact⟨hn,hp,fun _=>⟨ht,hl⟩,qV hf⟩
 ·rw[QY hc] at h0;by_cases hp:jH a;rotate_left
  ·rw[QY hp] at h0; exact absurd h0 QS
  rw[QX hp] at h0;by_cases hf:fV a.MS=0;rotate_left
  ·rw[QY hf] at h0; exact absurd h0 hf
  exact⟨hn,hp,fun h=>absurd h hc,qV hf⟩
theorem Kv: ∀ a t c:Bool,(c=true->t=true)->fp (jC a t c)=0:=by decide
theorem Ao: ∀ a t c:Bool,0<=jC a t c/\jC a t c<=56:=by decide
theorem Fz {n:Int} (h:wI n):bn n (8:Nat)=true:=by
 show bn n 8=true;rw[CN];exact NB h
theorem Ap {n:Int} (h: -2147483648<=n/\n<=2147483647):bn n (4:Nat)=true:=by
 show bn n 4=true;rw[eU];exact NB h
theorem fits2 {n:Int} (h: -32768<=n/\n<=32767):bn n (2:Nat)=true:=by
 show bn n 2=true;rw[yh];exact NB h
def smB (a:Bat):Prop:=bnB a/\(∀ r,r∈a.MS->rwt r<=900000)/\(body a).length<=900000
theorem Ja {a:Bat} (h:jH a):(-32768<=a.MR/\a.MR<=32767)/\(-2147483648<=a.M5/\a.M5<=2147483647):=by
 unfold jH at h;split at h
 ·omega
 ·split at h <;> omega
theorem Ev {a:Bat} (hb:smB a) (h0:chk a=0) (s:Nat) (hs:s<4294967296):okP (pB a s):=by
 obtain⟨hn,hp,hc,hr⟩:=vA hb.1 h0;obtain⟨n1,n2,n3,n4,n5,n6⟩:=hn;obtain⟨w1,w2,_,_,_,w6,w7,w8,w9,w10,w11,w12⟩:=hb.1.1;obtain⟨p1,p2⟩:=Ja hp;have hl:=hb.2.2;have hcount:=hb.1.2.1;have ha:=Ao a.Nq a.Ni a.Nl;have hs2: -2147483648<=s32 (s:Int)/\s32 (s:Int)<=2147483647:=by unfold s32; split <;> omega
 refine⟨⟨Fz w1,Ap ⟨?_,?_⟩,Ap ⟨?_,?_⟩,rfl,Ap hs2,fits2 ⟨?_,?_⟩,Ap ⟨?_,?_⟩,Fz w7,Fz w8,Fz w9,fits2 p1,Ap p2,Ap ⟨?_,?_⟩,trivial⟩,⟨?_,?_⟩,?_,?_⟩;all_goals (try unfold pB) <;> (try dsimp only) <;> omega
theorem FA (a:Bat):o4 a<4294967296:=Bx QS _
theorem okB_of {a:Bat} (hb:smB a) (h0:chk a=0):okB a:=by
 obtain⟨hn,hp,hc,hr⟩:=vA hb.1 h0;refine⟨Ev hb h0 _ (FA a),Kv _ _ _ (fun h=>(hc h).1),fun x hx=> ?_,h0⟩;exact IQ (hb.1.1.2.2.2.2.2.2.2.2.2.2.2.2 x hx).1 (hr x hx) (hb.2.1 x hx)
theorem vB {a:Bat} (h:okB a):(fU a).length=61+(body a).length:=by
 unfold fU;rw[NE,tT h.1.1]
theorem Kw (a:Bat):fJ a=some (jC a.Nq a.Ni a.Nl):=by
 unfold fJ;generalize a.Nq=x;generalize a.Ni=y;generalize a.Nl=z;cases x <;> cases y <;> cases z <;> decide
theorem FB (a:Bat) (hb:a.MS.length<=1000000): ∀ (l:List Rec) (t:List UInt8) (k fuel:Nat),a.MS.drop k=l->l.length<fuel->(∀ x,x∈l->wI x.Nk/\wI x.Na/\rwt x<=900000)->t.length+(bb ej l).length<=1000000-> ∃ z,eD a fuel t k=some (t++bb ej l,z)
 | [],t,k,fuel+1,h,hf,_,_=>by
  have:=dg h;exact⟨k,by rw[eD,QY QR,bb,NW]⟩
 | x::l,t,k,fuel+1,h,hf,hw,hl=>by
  obtain⟨g1,g2,g3⟩:=cA h;obtain⟨h1,h2,h3⟩:=hw x (.head _);rw[bb,NE] at hl;rw[NJ] at hf;obtain⟨z,hz⟩:=FB a hb l (t++ej x) (k+1) fuel g2 QR (fun y hy=>hw y (.tail _ hy)) (by rw[NE]; omega);exact⟨z,by rw[eD,QX QR,g1,NA,GN x h1 h2 h3,NA,QX QR,QX QR,hz,bb,NI]⟩
theorem r11enc {a:Bat} (hb:smB a) (h0:chk a=0):kv a=some (fU a):=by
 obtain⟨hn,hp,hc,hr⟩:=vA hb.1 h0;have hl:=hb.2.2;have hlb:(bb ej a.MS).length<=900000:=hl;have hw: ∀ x,x∈a.MS->wI x.Nk/\wI x.Na/\rwt x<=900000:=fun x hx=>⟨(hb.1.1.2.2.2.2.2.2.2.2.2.2.2.2 x hx).1,(hb.1.1.2.2.2.2.2.2.2.2.2.2.2.2 x hx).2.1,hb.2.1 x hx⟩;obtain⟨z,hz⟩:=FB a hb.1.2.1 a.MS [] 0 (((a.MS.length:Int)).toNat+1) rfl QR hw (by rw[Of]; omega);rw[NV] at hz;have hN: -9223372036854775808<=(49+((bb ej a.MS).length:Int))/\(49+((bb ej a.MS).length:Int))<=9223372036854775807:=by omega
 have wP_of: ∀ s:Nat,s<4294967296->wP (pB a s):=fun s hs=>by
  obtain⟨w1,w2,_,_,_,w6,w7,w8,w9,w10,w11,w12⟩:=hb.1.1;have ha:=Ao a.Nq a.Ni a.Nl;have hcount:=hb.1.2.1;refine⟨w1,⟨?_,?_⟩,w2,⟨?_,?_⟩,⟨?_,?_⟩,w6,w7,w8,w9,w10,w11,⟨?_,?_⟩⟩;all_goals (try unfold pB) <;> (try dsimp only) <;> (try unfold body) <;> omega
 have hP0:okP (pB a 0):=Ev hb h0 0 QS;have hlt:=FA a;have hP:=Ev hb h0 _ hlt;have b0:=Ae (pB a 0) (wP_of 0 QS);rw[QX ⟨hP0.1,hP0.2.1⟩] at b0;have b1:=Ae (pB a (o4 a)) (wP_of _ hlt);rw[QX ⟨hP.1,hP.2.1⟩] at b1;have b0':g8 [a.Ng,(49+((bb ej a.MS).length:Int)),a.M9,0,jC a.Nq a.Ni a.Nl,a.Nf,a.M4,a.Nn,a.MO,a.MR,a.M5,(a.MS.length:Int)]=some (pD (pB a 0),true):=b0;have b1':g8 [a.Ng,(49+((bb ej a.MS).length:Int)),a.M9,((o4 a:Nat):Int),jC a.Nq a.Ni a.Nl,a.Nf,a.M4,a.Nn,a.MO,a.MR,a.M5,(a.MS.length:Int)]=some (pD (pB a (o4 a)),true):=b1;have hp61:=tT hP0.1;have hp61':=tT hP.1;have hp21:(j6 (pB a 0)).length<=61:=by rw[<- ru,NO]; omega
 have hsum:pZ 0 (j6 (pB a 0)++bb ej a.MS)=o4 a:=rfl;unfold kv;rw[hz,NA];dsimp only;rw[QX hN,Kw,NA,b0',NA];dsimp only;rw[QX (show 21<=(pD (pB a 0)).length by omega),ru,QX QR,Kt _ (by rw[NE]; omega),NA,hsum,QX (show -9223372036854775808<=((o4 a:Nat):Int)/\((o4 a:Nat):Int)<=9223372036854775807 by omega),QX hN,NA,b1',NA];dsimp only;rw[QX QR];rfl
def sN:List Rec->List Rec->Bool
 | x::l,y::m=>Ak x y && sN l m
 | _,_=>true
def yw (a b:Bat):Bool:=decide (a.Ng=b.Ng/\a.M9=b.M9/\a.Nq=b.Nq/\a.Ni=b.Ni/\a.Nl=b.Nl/\a.Nf=b.Nf/\a.M4=b.M4/\a.Nn=b.Nn/\a.MO=b.MO/\a.MR=b.MR/\a.M5=b.M5/\a.MS.length=b.MS.length) && sN a.MS b.MS
theorem v8: ∀ l:List Rec,sN l l=true
 | []=>rfl
 | x::l=>by rw[sN,En,v8 l]; rfl
theorem Ew (a:Bat):yw a a=true:=by
 unfold yw;rw[v8];simp
theorem FC (a b:Bat) (hn:a.MS.length<=1000000) (y:Bool): ∀ (l m:List Rec) (k fuel:Nat),a.MS.drop k=l->b.MS.drop k=m->l.length=m.length->l.length<fuel->(∀ x,x∈l->x.M2.length<=1000000)-> ∃ z,fB a b fuel y k=some (if sN l m=true then .go (y,z) else .ret false)
 | [],m,k,fuel+1,h1,h2,hl,hf,_=>by
  have:=dg h1;exact⟨k,by rw[fB,QY QR]; rfl⟩
 | x::l,v::m,k,fuel+1,h1,h2,hl,hf,hw=>by
  obtain⟨g1,g2,g3⟩:=cA h1;obtain⟨k1,k2,k3⟩:=cA h2;rw[NJ] at hf;rw[NJ,NJ] at hl;obtain⟨z,hz⟩:=FC a b hn y l m (k+1) fuel g2 k2 QR QR (fun u hu=>hw u (.tail _ hu));refine⟨z,?_⟩;rw[fB,QX QR,g1,NA,k1,NA,IP x v (hw x (.head _)),NA,sN,QX (show -9223372036854775808<=(k:Int)+1/\(k:Int)+1<=9223372036854775807 by omega),hz];cases Ak x v <;> rfl
theorem Jb {a b:Bat} (hn:a.MS.length<=1000000) (hw: ∀ x,x∈a.MS->x.M2.length<=1000000):nb a b=some (yw a b):=by
 have hL: ∀ o:Option Bool,o=some (yw a b)\/True:=fun _=> .inr trivial;unfold nb yw;by_cases c1:a.Ng=b.Ng;rotate_left
 ·rw[QY c1,NA,QX rfl,NC (fun h=>c1 h.1)]; rfl
 by_cases c2:a.M9=b.M9;rotate_left
 ·rw[QX c1,QY c2,NA,QX rfl,NC (fun h=>c2 h.2.1)]; rfl
 by_cases c3:a.Nq=b.Nq;rotate_left
 ·rw[QX c1,QX c2,QY (by simpa using c3),NA,QX rfl,NC (fun h=>c3 h.2.2.1)]; rfl
 by_cases c4:a.Ni=b.Ni;rotate_left
 ·rw[QX c1,QX c2,QX (by simpa using c3),QY (by simpa using c4),NA,QX rfl,NC (fun h=>c4 h.2.2.2.1)]; rfl
 by_cases c5:a.Nl=b.Nl;rotate_left
 ·rw[QX c1,QX c2,QX (by simpa using c3),QX (by simpa using c4),QY (by simpa using c5),NA,QX rfl,NC (fun h=>c5 h.2.2.2.2.1)]; rfl
 rw[QX c1,QX c2,QX (by simpa using c3),QX (by simpa using c4),QX (by simpa using c5)];by_cases c6:a.Nf=b.Nf;rotate_left
 ·rw[QY c6,NA,QX rfl,NC (fun h=>c6 h.2.2.2.2.2.1)]; rfl
 by_cases c7:a.M4=b.M4;rotate_left
 ·rw[QX c6,QY c7,NA,QX rfl,NC (fun h=>c7 h.2.2.2.2.2.2.1)]; rfl
 by_cases c8:a.Nn=b.Nn;rotate_left
 ·rw[QX c6,QX c7,QY c8,NA,QX rfl,NC (fun h=>c8 h.2.2.2.2.2.2.2.1)]; rfl
 by_cases c9:a.MO=b.MO;rotate_left
 ·rw[QX c6,QX c7,QX c8,QY c9,NA,QX rfl,NC (fun h=>c9 h.2.2.2.2.2.2.2.2.1)]; rfl
 by_cases c10:a.MR=b.MR;rotate_left
 ·rw[QX c6,QX c7,QX c8,QX c9,QY c10,NA,QX rfl,NC (fun h=>c10 h.2.2.2.2.2.2.2.2.2.1)]; rfl
 by_cases c11:a.M5=b.M5;rotate_left
 ·rw[QX c6,QX c7,QX c8,QX c9,QX c10,QY c11,NA,QX rfl,NC (fun h=>c11 h.2.2.2.2.2.2.2.2.2.2.1)]; rfl
 by_cases c12:a.MS.length=b.MS.length;rotate_left
 ·rw[QX c6,QX c7,QX c8,QX c9,QX c10,QX c11,QY QR,NA,QX rfl,NC (fun h=>c12 h.2.2.2.2.2.2.2.2.2.2.2)]; rfl
 obtain⟨z,hz⟩:=FC a b hn false a.MS b.MS 0 (((a.MS.length:Int)).toNat+1) rfl rfl c12 QR hw;rw[QX c6,QX c7,QX c8,QX c9,QX c10,QX c11,QX QR,NA,QY QS,hz,NB ⟨c1,c2,c3,c4,c5,c6,c7,c8,c9,c10,c11,c12⟩,Bool.true_and];cases sN a.MS b.MS <;> rfl
theorem CP (y:Int): ∀ l:List Hd,(∀ h,h∈l->Ih h)->(eo l y=some (.ret 0))\/(eo l y=some (.go y)/\ ∀ h,h∈l->h.Nd.length+h.M3.data.length<=100)
 | [],h=> .inr ⟨rfl,fun x h=>nomatch h⟩
 | x::l,h=>by
  have hx:=h x (.head _);have h1:x.Nd.length<=140737488351232:=hx.1;have h2:x.M3.data.length<=140737488351232:=hx.2.2;rw[eo,QX QR];by_cases hc:(x.Nd.length:Int)+(x.M3.data.length:Int)>100
  ·rw[QX hc];exact .inl rfl
  ·rw[QY hc];rcases CP y l (fun z hz=>h z (.tail _ hz)) with g | ⟨g,g2⟩
   ·exact .inl g
   ·refine .inr ⟨g,fun z hz=> ?_⟩;rcases List.mem_cons.1 hz with rfl | hz
    ·omega
    ·exact g2 z hz
theorem CS (y:Int): ∀ l:List Rec,(∀ r,r∈l->xP r)->(et l y=some (.ret 0))\/(et l y=some (.go y)/\ ∀ r,r∈l->r.Nd.data.length+r.M3.data.length<=100/\r.M2.length<=6/\ ∀ h,h∈r.M2->h.Nd.length+h.M3.data.length<=100)
 | [],h=> .inr ⟨rfl,fun x h=>nomatch h⟩
 | x::l,h=>by
  obtain⟨h1,h2,h3,h4,h5⟩:=h x (.head _);have h6:x.Nd.data.length<=140737488351232:=h3.2;have h7:x.M3.data.length<=140737488351232:=h4.2;rw[et,QX QR];by_cases hc:(x.Nd.data.length:Int)+(x.M3.data.length:Int)>100
  ·rw[QX hc];exact .inl rfl
  rw[QY hc];by_cases hd:(x.M2.length:Int)>6
  ·rw[QX hd];exact .inl rfl
  rw[QY hd];rcases CP y x.M2 h5.2 with g | ⟨g,g2⟩
  ·rw[g];exact .inl rfl
  ·rw[g,NA];simp only;rcases CS y l (fun z hz=>h z (.tail _ hz)) with k | ⟨k,k2⟩
   ·exact .inl k
   ·refine .inr ⟨k,fun z hz=> ?_⟩;rcases List.mem_cons.1 hz with rfl | hz
    ·exact⟨by omega,by omega,g2⟩
    ·exact k2 z hz
theorem Kx (a:Bat) (hw:ot a):kb a=some 0\/(kb a=some 1/\a.MS.length<=12/\ ∀ r,r∈a.MS->r.Nd.data.length+r.M3.data.length<=100/\r.M2.length<=6/\ ∀ h,h∈r.M2->h.Nd.length+h.M3.data.length<=100):=by
 unfold kb;by_cases hc:(a.MS.length:Int)>12
 ·rw[QX hc];exact .inl rfl
 rw[QY hc];rcases CS 0 a.MS hw.2.2.2.2.2.2.2.2.2.2.2.2 with g | ⟨g,g2⟩
 ·rw[g];exact .inl rfl
 ·rw[g];exact .inr ⟨rfl,by omega,g2⟩
theorem GV {a:Bat} (hw:ot a) (h1:a.MS.length<=12) (h2: ∀ r,r∈a.MS->r.Nd.data.length+r.M3.data.length<=100/\r.M2.length<=6/\ ∀ h,h∈r.M2->h.Nd.length+h.M3.data.length<=100):bnB a :=
 ⟨hw,by omega,fun r hr=>by have:=h2 r hr; exact⟨by omega,by omega,by omega⟩⟩
theorem FD: ∀ (l:List Hd),(∀ h,h∈l->h.Nd.length+h.M3.data.length<=100)->mH l<=120*l.length
 | [],_=>NY _
 | x::l,h=>by
  have h1:=h x (.head _);have h2:=FD l (fun y hy=>h y (.tail _ hy));rw[mH,hwt,NJ];omega
theorem BB {α:Type} (enc:α->List UInt8) (n:Nat): ∀ (l:List α),(∀ x,x∈l->(enc x).length<=n)->(bb enc l).length<=n*l.length
 | [],_=>NY _
 | x::l,h=>by
  have h1:=h x (.head _);have h2:=BB enc n l (fun y hy=>h y (.tail _ hy));rw[bb,NE,NJ,Nat.mul_succ];omega
theorem GW {a:Bat} (hw:ot a) (h1:a.MS.length<=12) (h2: ∀ r,r∈a.MS->r.Nd.data.length+r.M3.data.length<=100/\r.M2.length<=6/\ ∀ h,h∈r.M2->h.Nd.length+h.M3.data.length<=100):smB a/\(body a).length<=12000:=by
 have hr: ∀ r,r∈a.MS->rwt r<=900:=fun r hr=>by
  obtain⟨k1,k2,k3⟩:=h2 r hr;have:=FD r.M2 k3;unfold rwt;omega
 have hl:(body a).length<=12000:=by
  have h3:=BB ej 1000 a.MS (fun x hx=>by
   have h4:=hw.2.2.2.2.2.2.2.2.2.2.2.2 x hx;have h5:=hr x hx;have:=Eo x h4.1 h4.2.1 QR;omega)
  unfold body;omega
 exact⟨⟨GV hw h1 h2,fun r hr2=>by have:=hr r hr2; omega,by omega⟩,hl⟩
theorem Jc (a:Bat) (s:Int):mkB (pB a s) a.MS=a:=by
 obtain⟨b1,b2,b3⟩:=Fy a.Nq a.Ni a.Nl;unfold mkB pB;dsimp only;rw[b1,b2,b3]
theorem Ey {b:Bat} (h:okB b) (hl:(fU b).length<=1000000):bnB b:=by
 have h1:=yv h.1 h.2.2.1 (by have:=vB h; unfold body at this; omega)
 rwa [Jc] at h1
end Go.Proofs.YtheikonlgjdopaaGreat.Sl
