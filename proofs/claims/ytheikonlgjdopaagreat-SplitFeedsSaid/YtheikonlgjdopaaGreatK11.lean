/- splitFeeds_holds: part 11. -/
import Derived.Test.YtheikonlgjdopaaGreatK10
set_option maxRecDepth 100000
set_option maxHeartbeats 4000000
set_option linter.defProp false
namespace Go.Proofs.YtheikonlgjdopaaGreat.Sl
open Go.RowKit
set_option linter.unusedVariables false
set_option linter.unusedSimpArgs false
def encB (v:Int) (x:bg):AI:=if v>0 then Hq x else Hp x
theorem zo (b:Bl):kg b=some (!b.null && fo b.data):=by
 unfold kg
 cases hb:b.null with
 | true=>rfl
 | false =>
  rw[QO QJ];unfold fo;by_cases a:(b.data.length:Int)>=1
  ·rw[QM a];have:b.data.isEmpty=false:=by cases hd:b.data with | nil=>rw[hd] at a; exact absurd a QJ | cons c l=>rfl
   by_cases d:(b.data.length:Int)<=32767
   ·rw[QM d,this,M4 d];rfl
   ·rw[QO d,this,M5 d];rfl
  ·rw[QO a];have:b.data = []:=List.eq_nil_of_length_eq_zero QI;rw[this];rfl
theorem EB (r:aJ):lj r=some (who r.Md r.Mf):=by
 unfold lj who;by_cases a:r.Md>=0
 ·rw[QM a];by_cases b:r.Mf>=0
  ·rw[QM b];by_cases c:r.Mf<=32767
   ·rw[QM c,M4 QI];rfl
   ·rw[QO c,M5 QI];rfl
  ·rw[QO b,M5 QI];rfl
 ·rw[QO a,M5 QI];rfl
def F1 (k v:Int) (r:aJ):Int:=if k=22 then fT r.Mk r.Mh r.Md r.Mf v else if k=24 then nC r.Mk.data r.Md r.Mf r.Mc else nB r.Mk.data r.Md r.Mf
theorem ri (k v:Int) (hv:v=0\/v=1) (r:aJ) (hn:k≠22->r.Mk.null=false) (hl:r.Mc.length<=1000000) (hx: ∀ t,t∈r.Mc->t.Me.length<=1000000/\t.Mm.length<=1000000):fI k v r=some (F1 k v r):=by
 unfold fI F1;by_cases hk:k=22
 ·rw[QM hk,QM hk,zo,EB];unfold fT;have h:(if r.Mk.null=true then (if r.Mk.data = [] then some false else some true) else ((some (!r.Mk.null && fo r.Mk.data)).bind fun d=>if d=true then some false else some true))=some (!(bM r.Mk && (r.Mk.null || fo r.Mk.data))):=by
   unfold bM
   cases r.Mk.null with
   | true =>
    rw[QM rfl];by_cases hd:r.Mk.data = []
    ·rw[QM hd,hd]; rfl
    ·rw[QO hd];simp[hd]
   | false=>cases fo r.Mk.data <;> rfl
  have i:(if r.Mh<0 then some true else (if r.Mh>2147483647 then some true else some false))=some (!tmB r.Mh):=by
   unfold tmB;by_cases a:r.Mh<0
   ·rw[QM a,M5 QI]; rfl
   ·rw[QO a];by_cases b:r.Mh>2147483647
    ·rw[QM b,M5 QI]; rfl
    ·rw[QO b,M4 QI]; rfl
  have j:(if r.Md=(-1) then (if r.Mf=(-1) then some true else (if v=1 then ((some (who r.Md r.Mf)).bind fun e=>some e) else some false)) else (if v=1 then ((some (who r.Md r.Mf)).bind fun f=>some f) else some false))=some (Dy r.Md r.Mf || (decide (v>0) && who r.Md r.Mf)):=by
   unfold Dy;rcases hv with rfl | rfl
   ·by_cases a:r.Md= -1 <;> by_cases b:r.Mf= -1 <;> simp[a,b]
   ·by_cases a:r.Md= -1 <;> by_cases b:r.Mf= -1 <;> simp[a,b]
  rw[h,i,j];cases (bM r.Mk && (r.Mk.null || fo r.Mk.data)) <;> cases tmB r.Mh <;> cases (Dy r.Md r.Mf || (decide (v>0) && who r.Md r.Mf)) <;> rfl
 ·rw[QO hk,QO hk,zo,EB,hn hk];simp only[Bool.not_false,Bool.true_and];by_cases c:k=24
  ·rw[QM c,QM c,QM c,Ew _ hl hx];unfold nC zm;by_cases g:r.Mc.length=0
   ·rw[QM QI,QM g];cases fo r.Mk.data <;> cases who r.Md r.Mf <;> rfl
   ·rw[QO QI,QO g];cases fo r.Mk.data <;> cases who r.Md r.Mf <;> cases rH r.Mc <;> rfl
  ·rw[QO c,QO c,QO c];unfold nB;cases fo r.Mk.data <;> cases who r.Md r.Mf <;> rfl
def gE (x:bT):aJ:=⟨⟨false,x.Mk⟩,0,x.Md,x.Mf,[],x.Mx⟩
def gA (x:bU):aJ:=⟨⟨false,x.Mk⟩,0,x.Md,x.Mf,x.Mc,false⟩
def gB (x:bg):aJ:=⟨x.Mk,x.Mh,x.Md,x.Mf,[],false⟩
def Pr.map {α β:Type} (g:α->β) (p:Pr α):Pr β:=p.bind fun x=> .ret (g x)
theorem Sp.map {α β:Type} {p:Pr α} {enc:α->AI} {ok:α->Prop} (g:α->β) (g':β->α) (hg: ∀ x,g' (g x)=x) (h:Sp p enc ok):Sp (p.map g) (fun y=>enc (g' y)) (fun y=>ok (g' y)/\g (g' y)=y):=by
 refine⟨fun s q y r hq hp=> ?_,fun s t q y hq hy hd=> ?_⟩
 ·obtain⟨x,m,b,a⟩:=Pr.bind_ok hp;injection a with a;obtain⟨rfl,rfl⟩:=NE a;obtain⟨a1,a2,a3,a4,a5⟩:=h.spell s q x m hq b;rw[hg x];exact⟨a1,a2,a3,a4,a5,rfl⟩
 ·have:=h.back s t q (g' y) hq hy.1 hd;rw[Pr.map,Pr.bind_of this,hy.2];rfl
def ls (k v:Int):Pr aJ:=if k=22 then (if v>0 then (xB v).map gB else (zn v).map gB) else if k=24 then rP.map gA else rO.map gE
def zR:aJ:=⟨⟨false,[]⟩,0,0,0,[],false⟩
noncomputable instance decTop:DecidableEq Top:=fun a b=>Classical.propDecidable (a=b)
theorem xD: ∀ (l m:List Top),j6 l m=decide (l=m)
 | [],[]=>rfl
 | [],b::m=>by simp[j6]
 | a::l,[]=>by simp[j6]
 | a::l,b::m=>by
  rw[j6,xD l m];obtain⟨a1,a2⟩:=a;obtain⟨c,d⟩:=b;unfold BS;simp only;by_cases e:a1=c <;> by_cases f:a2=d <;> by_cases g:l=m <;> simp[e,f,g]
noncomputable instance decMark:DecidableEq aV:=fun a b=>Classical.propDecidable (a=b)
def toR (m:aV):bK:=⟨m.Md,m.Mf,m.Mx,m.Mc,m.Mo⟩
theorem EC: ∀ (l:List aV) (acc:List bK),acc.length+l.length<=1000000->g9 l acc=some (acc++l.map toR)
 | [],acc,_=>by rw[g9]; simp
 | m::l,acc,h=>by
  rw[Ng] at h;rw[g9,QM QI,EC l _ (by rw[M8,NY]; omega),List.map_cons,Nd];rfl
theorem of_eq (l:List aV) (h:l.length<=1000000):qv l=some (l.map toR):=by
 unfold qv;rw[EC l [] (by simpa using h)];rfl
def BW (v:Int) (m:aV):Int:=if (who m.Md m.Mf && (tmB m.Mo && !(decide (v=0) && decide (m.Mo≠0))))=true then zm m.Mc else 11
def n7 (v:Int):List aV->Int
 | []=>0
 | m::l=>if BW v m=0 then n7 v l else BW v m
def oV (v:Int) (l:List aV):Int:=if l.length=0 then 10 else n7 v l
def okW (m:aV):Prop:=wI m.Mf/\wI m.Mo/\wTl m.Mc
theorem F2 (v:Int) (m:aV) (h:okW m):gN m v=some (BW v m):=by
 obtain⟨f,g,i⟩:=h;unfold gN BW;rw[AB _ _ f,BV _ i,M3];have hc:(if m.Mo<0 then some true else ((jy m.Mo 4).bind fun e=>if e=true then (if v=0 then (if m.Mo>0 then some true else some false) else some false) else some true))=some (!(tmB m.Mo && !(decide (v=0) && decide (m.Mo≠0)))):=by
  unfold tmB;by_cases a:m.Mo<0
  ·rw[QM a,M5 QI]; rfl
  ·rw[QO a,gG _ _ g,jX,M3];by_cases b:m.Mo<=2147483647
   ·rw[QM (M4 QI),M4 QI];by_cases c:v=0
    ·rw[QM c,M4 c];by_cases d:m.Mo>0
     ·rw[QM d,M4 QI]; rfl
     ·rw[QO d,M5 QI]; rfl
    ·rw[QO c,M5 c]; rfl
   ·rw[QO (by simp; omega),M5 QI]; rfl
 rw[hc];cases who m.Md m.Mf <;> cases (tmB m.Mo && !(decide (v=0) && decide (m.Mo≠0))) <;> rfl
theorem vo (v:Int) (y:Int): ∀ l:List aV,(∀ m,m∈l->okW m)->fk v l y=some (if n7 v l=0 then .go y else .ret (n7 v l))
 | [],_=>rfl
 | m::l,h=>by
  rw[fk,F2 v m (h m (.head _)),M3,n7];by_cases hc:BW v m=0
  ·rw[QM hc,QM hc,vo v y l (fun z hz=>h z (.tail _ hz))]
  ·rw[QO hc,QO hc,QO hc]
theorem mCheck (v:Int) (l:List aV) (h: ∀ m,m∈l->okW m):jr l v=some (oV v l):=by
 unfold jr oV;by_cases a:l.length=0
 ·rw[QM QI,QM a]
 ·rw[QO QI,QO a,vo v 0 l h];by_cases hc:n7 v l=0
  ·rw[QM hc,hc]; rfl
  ·rw[QO hc]; rfl
theorem Jz (v:Int) (m:aV) (hl:m.Mc.length<=1000000) (hx: ∀ t,t∈m.Mc->t.Me.length<=1000000/\t.Mm.length<=1000000):oM (toR m) v=some (BW v m):=by
 unfold oM BW;rw[Ew (toR m).Mc hl hx];have hc0:(if m.Md<0 then some true else (if m.Mf<0 then some true else (if m.Mf>32767 then some true else (if m.Mo<0 then some true else (if m.Mo>2147483647 then some true else (if v=0 then (if m.Mo=0 then some false else some true) else some false))))))=some (!(who m.Md m.Mf && (tmB m.Mo && !(decide (v=0) && decide (m.Mo≠0))))):=by
  unfold who tmB;by_cases a:m.Md<0
  ·rw[QM a,M5 (p:=0<=m.Md/\ _) QI]; rfl
  rw[QO a];by_cases b:m.Mf<0
  ·rw[QM b,M5 (p:=0<=m.Md/\ _) QI]; rfl
  rw[QO b];by_cases c:m.Mf>32767
  ·rw[QM c,M5 (p:=0<=m.Md/\ _) QI]; rfl
  rw[QO c,M4 (p:=0<=m.Md/\ _) QI];by_cases d:m.Mo<0
  ·rw[QM d,M5 (p:=0<=m.Mo/\ _) QI]; rfl
  rw[QO d];by_cases e:m.Mo>2147483647
  ·rw[QM e,M5 (p:=0<=m.Mo/\ _) QI]; rfl
  rw[QO e,M4 (p:=0<=m.Mo/\ _) QI];by_cases f:v=0
  ·by_cases g:m.Mo=0
   ·simp[f,g]
   ·simp[f,g]
  ·simp[f]
 have hc:(if (toR m).Md<0 then some true else (if (toR m).Mf<0 then some true else (if (toR m).Mf>32767 then some true else (if (toR m).Mo<0 then some true else (if (toR m).Mo>2147483647 then some true else (if v=0 then (if (toR m).Mo=0 then some false else some true) else some false))))))=some (!(who m.Md m.Mf && (tmB m.Mo && !(decide (v=0) && decide (m.Mo≠0))))):=hc0;rw[hc];have ht:(toR m).Mc=m.Mc:=rfl;rw[ht];unfold zm;by_cases h:m.Mc.length=0
 ·rw[QM h,QM (show (m.Mc.length:Int)=0 by omega)];cases (who m.Md m.Mf && (tmB m.Mo && !(decide (v=0) && decide (m.Mo≠0)))) <;> rfl
 ·rw[QO h,QO (show ¬ (m.Mc.length:Int)=0 by omega)];cases (who m.Md m.Mf && (tmB m.Mo && !(decide (v=0) && decide (m.Mo≠0)))) <;> cases rH m.Mc <;> rfl
def okL (m:aV):Prop:=m.Mc.length<=1000000/\ ∀ t,t∈m.Mc->t.Me.length<=1000000/\t.Mm.length<=1000000
theorem rQ (a:List bK) (v:Int) (hb:a.length<=1000000) (y:Int): ∀ (l:List aV) (k fuel:Nat),a.drop k=l.map toR->l.length<fuel->(∀ m,m∈l->okL m)-> ∃ z,e9 a v fuel y k=some (if n7 v l=0 then .go (y,z) else .ret (n7 v l))
 | [],k,fuel+1,h,_,_=>by
  have:=gk h;exact⟨k,by rw[e9,QO QI]; rfl⟩
 | m::l,k,fuel+1,h,hf,ho=>by
  obtain⟨b,c,d⟩:=d9 h;rw[Ng] at hf;have hm:=ho m (.head _);obtain⟨z,hz⟩:=rQ a v hb y l (k+1) fuel c QI (fun z hz=>ho z (.tail _ hz));rw[e9,QM QI,b,M3,Jz v m hm.1 hm.2,M3,n7];by_cases hc:BW v m=0
  ·rw[QM hc,QM QI,QM hc];exact⟨z,hz⟩
  ·rw[QO hc,QO hc];exact⟨0,by rw[QO hc]⟩
theorem F3 (v:Int) (l:List aV) (hb:l.length<=1000000) (ho: ∀ m,m∈l->okL m):lM (l.map toR) v=some (oV v l):=by
 unfold lM oV;rw[NB];by_cases a:l.length=0
 ·rw[QM QI,QM a]
 ·obtain⟨z,hz⟩:=rQ (l.map toR) v (by rw[NB]; omega) 0 l 0 ((l.length:Int).toNat+1) (List.drop_zero) QI ho;rw[QO QI,QO a,hz];by_cases hc:n7 v l=0
  ·rw[QM hc,hc]; rfl
  ·rw[QO hc]; rfl
def kj (v:Int):Pr aV:=(bP 8).bind fun p=>(bP 2).bind fun e=>kN.bind fun c=>rN.bind fun l=>(if v>0 then bP 4 else .ret 0).bind fun k=> .ret ⟨p,e,c,l,k⟩
def uP (v:Int) (m:aV):AI:=be m.Md 8++(be m.Mf 2++(tp m.Mx++(xC m.Mc++(if v>0 then be m.Mo 4 else []))))
def okM (v:Int) (m:aV):Prop:=bG m.Md 8=true/\bG m.Mf 2=true/\yI m.Mc/\(if v>0 then bG m.Mo 4=true else m.Mo=0)
theorem Sp_co (v:Int):Sp (if v>0 then bP 4 else Pr.ret 0) (fun k=>if v>0 then be k 4 else []) (fun k=>if v>0 then bG k 4=true else k=0):=by
 by_cases hv:v>0
 ·simp only[QM hv];exact spI 4
 ·simp only[QO hv];exact Hf 0
theorem ED (v:Int):Sp (kj v) (uP v) (okM v):=by
 refine Sp.congr (Sp.seq (β:=aV) (π:=(·.Md)) (ok2:=fun x:aV=>bG x.Mf 2=true/\yI x.Mc/\(if v>0 then bG x.Mo 4=true else x.Mo=0)) (spI 8) fun p =>
  Sp.congr (Sp.seq (β:=aV) (π:=(·.Mf)) (ok2:=fun x:aV=>yI x.Mc/\(if v>0 then bG x.Mo 4=true else x.Mo=0)/\x.Md=p) (spI 2) fun e =>
  Sp.congr (Sp.seq (β:=aV) (π:=(·.Mx)) (ok2:=fun x:aV=>yI x.Mc/\(if v>0 then bG x.Mo 4=true else x.Mo=0)/\x.Md=p/\x.Mf=e) wt fun c =>
  Sp.congr (Sp.seq (β:=aV) (π:=(·.Mc)) (ok2:=fun x:aV=>(if v>0 then bG x.Mo 4=true else x.Mo=0)/\x.Md=p/\x.Mf=e/\x.Mx=c) ki fun l =>
  Sp.congr (Sp.seq (β:=aV) (π:=(·.Mo)) (ok2:=fun x:aV=>x.Md=p/\x.Mf=e/\x.Mx=c/\x.Mc=l) (Sp_co v) fun k =>
  (Hf (β:=aV) _).congr (ok':=fun x:aV=>(x.Md=p/\x.Mf=e/\x.Mx=c/\x.Mc=l)/\x.Mo=k) (fun x=> ?_) (fun _ _=>rfl)) (fun x=> ?_) (fun _ _=>rfl)) (fun x=> ?_) (fun _ _=>rfl)) (fun x=> ?_) (fun _ _=>rfl)) (fun x=> ?_) (fun _ _=>rfl)) (fun x=> ?_) (fun x _=>by simp only[uP,xC,Nx])
 ·obtain⟨a1,a2,a3,a4,a5⟩:=x;simp only[aV.mk.injEq];exact⟨fun ⟨h,a,b,d,f⟩=>⟨⟨h,a,b,d⟩,f⟩,fun ⟨⟨h,a,b,d⟩,f⟩=>⟨h,a,b,d,f⟩⟩
 ·exact⟨fun ⟨h,a,b,d,f⟩=>⟨⟨h,a,b,d⟩,f⟩,fun ⟨⟨h,a,b,d⟩,f⟩=>⟨h,a,b,d,f⟩⟩
 ·exact⟨fun ⟨h,a,b,d,f⟩=>⟨⟨h,a,b,d⟩,f⟩,fun ⟨⟨h,a,b,d⟩,f⟩=>⟨h,a,b,d,f⟩⟩
 ·exact⟨fun ⟨_,h,a,b,d⟩=>⟨⟨h,a,b⟩,d⟩,fun ⟨⟨h,a,b⟩,d⟩=>⟨trivial,h,a,b,d⟩⟩
 ·exact⟨fun ⟨h,a,b,d⟩=>⟨⟨h,a,b⟩,d⟩,fun ⟨⟨h,a,b⟩,d⟩=>⟨h,a,b,d⟩⟩
 ·exact Iff.rfl
theorem EE (v:Int) (m:aV) (h:okM v m):15<=(uP v m).length:=by
 have:(tp m.Mx).length=1:=aZ _ _;simp only[uP,xC,M8,aZ];omega
theorem Hr (v:Int) (m:aV):15+wTs m.Mc<=(uP v m).length/\(uP v m).length<=19+wTs m.Mc:=by
 have:(tp m.Mx).length=1:=aZ _ _;have a:=uO m.Mc;simp only[uP,xC,M8,aZ,a];split <;> simp only[aZ,N8] <;> omega
def zp (v:Int) (c:I):Option (Option aV×I):=(ea c 8).bind fun (h,d)=>(ea d 2).bind fun (i,e)=>(gr e).bind fun (j,f)=>(dV f).bind fun (k,b)=>(if v>0 then ((ea b 4).bind fun (l,g)=>some (l,g)) else some (0,b)).bind fun (m,a)=>if a.err=0 then some (some ⟨h,i,j,k,m⟩,a) else some (none,a)
theorem B_co (v:Int):CB (fun a=>if v>0 then ((ea a 4).bind fun (c,b)=>some (c,b)) else some (0,a)) (if v>0 then bP 4 else Pr.ret 0) 0:=by
 by_cases hv:v>0
 ·simp only[QM hv];refine CB.congr Q4.cb (fun st=> ?_);cases ea st 4 <;> rfl
 ·simp only[QO hv];exact⟨fun _ _=>rfl,fun s q _ hq=> .inr ⟨0,q,rfl,rfl,NA _,hq⟩⟩
theorem w_co (v:Int): ∀ (s:AI) (q:Nat) (a:Int) (r:Nat),s.length<=1000000->q<=s.length->(if v>0 then bP 4 else Pr.ret 0) s q= .ok (a,r)->wI a:=by
 intro s q a r hl hq h;by_cases hv:v>0
 ·rw[QM hv] at h;exact qN QJ QJ s q a r hl hq h
 ·rw[QO hv] at h;injection h with h;rw[<- (NE h).1];exact wi0
theorem JA (v:Int):CB (zp v) ((kj v).map some) none:=by
 have h:CB (zp v) ((bP 8).bind fun p=>(bP 2).bind fun e=>kN.bind fun c=>rN.bind fun l=>(if v>0 then bP 4 else .ret 0).bind fun k=> .ret (some ⟨p,e,c,l,k⟩)) none:=by
  refine CB.congr (CB.bind wI Q8.cb (qN QJ QJ) wi0 fun p hp=>CB.bind wI Q2.cb (qN QJ QJ) wi0 fun e he=>CB.bind (fun _=>True) Hm (fun _ _ _ _ _ _ _=>trivial) trivial fun c _=>CB.bind wTl xv DA ⟨(fun t h=>nomatch h),by decide⟩ fun l hl=>CB.bind wI (B_co v) (w_co v) wi0 fun k hk =>
   (?_:CB (fun a:I=>if a.err=0 then some (some (⟨p,e,c,l,k⟩:aV),a) else some ((none:Option aV),a)) (Pr.ret (some (⟨p,e,c,l,k⟩:aV))) none)) (fun st=>rfl)
  exact⟨fun st h=>QO h,fun s q _ hq=> .inr ⟨_,q,rfl,rfl,NA _,hq⟩⟩
 refine h.pr ?_;funext s q;unfold kj Pr.map Pr.bind
 cases bP 8 s q with
 | error e=>rfl
 | ok x =>
  simp only
  cases bP 2 s x.2 with
  | error e=>rfl
  | ok x =>
   simp only
   cases kN s x.2 with
   | error e=>rfl
   | ok x =>
    simp only
    cases rN s x.2 with
    | error e=>rfl
    | ok x =>
     simp only;cases (if v>0 then bP 4 else Pr.ret 0) s x.2 <;> rfl
theorem Pr.map_err {α β:Type} {p:Pr α} {g:α->β} {s:AI} {q:Nat} {e:Int} (h:p.map g s q= .error e):p s q= .error e:=by
 unfold Pr.map Pr.bind at h
 cases hp:p s q with
 | error e' =>
  rw[hp] at h;injection h with h;rw[h]
 | ok x=>rw[hp] at h; exact nomatch h
theorem Pr.map_ok {α β:Type} {p:Pr α} {g:α->β} {s:AI} {q r:Nat} {y:β} (h:p.map g s q= .ok (y,r)): ∃ a,p s q= .ok (a,r)/\y=g a:=by
 unfold Pr.map Pr.bind at h
 cases hp:p s q with
 | error e'=>rw[hp] at h; exact nomatch h
 | ok x =>
  rw[hp] at h;injection h with h;obtain⟨rfl,rfl⟩:=NE h;exact⟨x.1,rfl,rfl⟩
theorem DE {γ:Type} (K:aV->I->Option γ) (D:I->Option γ) (v:Int) (st:I) :
 ((ea st 8).bind fun (i,e)=>(ea e 2).bind fun (j,f)=>(gr f).bind fun (k,g)=>(dV g).bind fun (l,c)=>(if v>0 then ((ea c 4).bind fun (d,b)=>some (d,b)) else some (0,c)).bind fun (n,h)=>(iG h).bind fun (p,a)=>if p=0 then K ⟨i,j,k,l,n⟩ a else D a) =
 (zp v st).bind fun (o,a)=>match o with
  | some m=>K m a
  | none=>D a:=by
 unfold zp
 cases ea st 8 with
 | none=>rfl
 | some x =>
  obtain⟨a1,r⟩:=x;simp only[M3]
  cases ea r 2 with
  | none=>rfl
  | some x =>
   obtain⟨a2,s⟩:=x;simp only[M3]
   cases gr s with
   | none=>rfl
   | some x =>
    obtain⟨a3,t⟩:=x;simp only[M3]
    cases dV t with
    | none=>rfl
    | some x =>
     obtain⟨a4,q⟩:=x;simp only[M3]
     cases (if v>0 then ((ea q 4).bind fun (d,b)=>some (d,b)) else some (0,q)) with
     | none=>rfl
     | some x =>
      obtain⟨a5,u⟩:=x;simp only[M3,bx];by_cases he:u.err=0
      ·rw[QM he,QM he,M3]
      ·rw[QO he,QO he,M3]
theorem pw (v n:Int) (fuel:Nat) (b acc:List aV) (k:Nat) (st:I) (hk:k<=1000000) (ha:acc.length<=1000000) :
 dr v n (fuel+1) b acc k st=if (k:Int)<n then (zp v st).bind fun (o,a)=>match o with
  | some m=>dr v n fuel b (acc ++ [m]) (k+1) a
  | none=>some (.ret ([],a)) else some (.go (b,acc,k,st)):=by
 rw[dr];by_cases h:(k:Int)<n
 case neg=>rw[QO h,QO h]
 rw[QM h,QM h];refine (DE (fun m a=>if (acc.length+1)*56<=140737488355328 then (if A0 ((k:Int)+1) then dr v n fuel b (acc ++ [m]) (k+1) a else none) else none) (fun a=>some (.ret ([],a))) v st).trans ?_
 cases zp v st with
 | none=>rfl
 | some x =>
  obtain⟨o,s⟩:=x;rw[M3,M3]
  cases o with
  | none=>rfl
  | some m =>
   show (if (acc.length+1)*56<=140737488355328 then _ else _)= _;rw[QM QI,QM QI]
theorem xE (v n:Int) (s:AI) (hs:s.length<=1000000) (y:List aV): ∀ (m fuel k:Nat) (acc:List aV) (q:Nat),((k+m:Nat):Int)=n->m<fuel->q<=s.length->acc.length=k->k+m<=1000000 ->
 (∃ e st,dE (kj v) m s q= .error e/\e≠0/\st.err=e/\dr v n fuel y acc k ⟨s.drop q,q,0⟩=some (.ret ([],st)))\/(∃ l r,dE (kj v) m s q= .ok (l,r)/\dr v n fuel y acc k ⟨s.drop q,q,0⟩=some (.go (y,acc++l,k+m,⟨s.drop r,r,0⟩))/\q<=r/\r<=s.length)
 | 0,fuel+1,k,acc,q,hn,hf,hq,ha,hk=>by
  refine .inr ⟨[],q,rfl,?_,NA _,hq⟩;rw[pw _ _ _ _ _ _ _ QI QI,QO QI,Nx,Nat.add_zero]
 | m+1,fuel+1,k,acc,q,hn,hf,hq,ha,hk=>by
  rw[pw _ _ _ _ _ _ _ QI QI,QM QI];rcases (JA v).run s q hs hq with⟨e,st,b,c,h,p⟩ | ⟨o,r,b,c,u,t⟩
  ·refine .inl ⟨e,st,?_,by rw[<- h]; exact p,h,?_⟩
   ·rw[dE,Pr.bind_err (Pr.map_err b)]
   ·rw[c];rfl
  ·obtain⟨a,i,rfl⟩:=Pr.map_ok b;have ih:=xE v n s hs y m fuel (k+1) (acc ++ [a]) r QI QI t (by rw[M8,NY,ha]) QI;rw[c,M3];simp only;rcases ih with⟨e,st,d,f,j,g⟩ | ⟨l,r',d,f,j,g⟩
   ·exact .inl ⟨e,st,by rw[dE,Pr.bind_of i,Pr.bind_err d],f,j,g⟩
   ·refine .inr ⟨a::l,r',by rw[dE,Pr.bind_of i,Pr.bind_of d]; rfl,?_,by omega,g⟩;rw[f,Nd,show k+1+m=k+(m+1) by omega];rfl
def pMs (v:Int):Pr (List aV):=fO 4 15 (kj v)
def xF (v:Int) (l:List aV):AI:=be (l.length:Int) 4++dF (uP v) l
theorem EF (v:Int):Sp (pMs v) (xF v) (fun l=>bG (l.length:Int) 4=true/\ ∀ m,m∈l->okM v m):=xq 4 15 QJ QJ (ED v) (EE v)
def gX (v:Int):Pr (List aV):=(pMs v).bind fun l=>if oV v l=0 then .ret l else .err (oV v l)
theorem xG (v:Int):Sp (gX v) (xF v) (fun l=>(bG (l.length:Int) 4=true/\ ∀ m,m∈l->okM v m)/\oV v l=0):=by
 refine Sp.congr (Sp.seq (β:=List aV) (π:=id) (ok2:=fun l:List aV=>oV v l=0) (EF v) fun l=>(xt (β:=List aV) _ _ _).congr (ok':=fun x:List aV=>oV v x=0/\id x=l) (fun x=> ?_) (fun _ _=>rfl)) (fun x=>Iff.rfl) (fun x _=>by rw[Nx]; rfl);exact⟨fun ⟨b,a⟩=>⟨by rw[a]; exact b,a⟩,fun ⟨b,a⟩=>⟨by have a:x=l:=a; rw[<- a]; exact b,a⟩⟩
theorem Hs {l:List Top} (h:yI l) (hw:wTs l<=1000000):wTl l:=by
 have hn:=tr l;refine⟨fun t ht=> ?_,by omega⟩;have hm:=wu _ _ ht;unfold wT at hm;obtain⟨b,c,a⟩:=h.2 t ht;exact⟨by show t.Mm.length<= _; omega,by show t.Me.length<= _; omega,fun n hn=>iC (a n hn)⟩
theorem okM_co {v:Int} {m:aV} (h:okM v m):wI m.Mo:=by
 have:=h.2.2.2;split at this
 ·exact iC this
 ·rw[this]; exact wi0
theorem okM_W {v:Int} {m:aV} (h:okM v m) (hw:wTs m.Mc<=1000000):okW m:=⟨iC h.2.1,okM_co h,Hs h.2.2.1 hw⟩
theorem uQ (v:Int) (l:List aV) (m:aV) (hm:m∈l):wTs m.Mc<=(xF v l).length:=by
 have a:=mA (enc:=uP v) l m hm;have b:=(Hr v m).1;rw[xF,M8];omega
theorem Ht (l:AI) (q:Nat) (e:Int):ci ⟨l,q,0⟩ e=some (⟨l,q,e⟩:I):=by rw[dx]; rfl
theorem AC (v:Int):CB (fun st=>gc st v) (gX v) []:=by
 refine⟨fun st h=> ?_,fun s q hs hq=> ?_⟩
 ·show gc st v= _;unfold gc;rw[ni h ⟨by decide,by decide⟩ ⟨by decide,by decide⟩,M3];simp only;rw[show ((0:Int).toNat+1)=0+1 from rfl,pw _ _ _ _ _ _ _ QJ QJ,QO QJ,M3];simp only;rw[bx,M3];simp only;rw[QO h]
 ·show (∃ e st,gX v s q= _/\gc _ v= _/\ _/\ _)\/(∃ a r,gX v s q= _/\gc _ v= _/\ _/\ _);unfold gc;rcases (tn 4 15 QJ QJ 4 15 rfl rfl QJ).run s q hq with⟨e,st,b,c,k,j⟩ | ⟨n,r,b,c,t,o⟩
  ·refine .inl ⟨e,st,?_,?_,k,j⟩
   ·rw[gX,Pr.bind_err (by rw[pMs,fO,Pr.bind_err b])]
   ·rw[c,M3];simp only;rw[show ((0:Int).toNat+1)=0+1 from rfl,pw _ _ _ _ _ _ _ QJ QJ,QO QJ,M3];simp only;rw[bx,M3];simp only;rw[QO j]
  ·obtain⟨u,c2,w,x,y,z⟩:=gV QJ QJ hq b;have c2:=c2 QJ;rw[c,M3];simp only;rcases xE v n s hs [] n.toNat (n.toNat+1) 0 [] r QI QI o rfl QI with⟨e,st,d,f,g,i⟩ | ⟨l,r',d,f,g,i⟩
   ·refine .inl ⟨e,st,?_,?_,g,by rw[g]; exact f⟩
    ·rw[gX,Pr.bind_err (by rw[pMs,fO,Pr.bind_of b,d])]
    ·rw[i];rfl
   ·have hms:pMs v s q= .ok (l,r'):=by rw[pMs,fO,Pr.bind_of b,d]
    obtain⟨A,B,C,D,E,p⟩:=(EF v).spell s q l r' hq hms;have hW: ∀ m,m∈l->okW m:=fun m hm=>okM_W (p m hm) (by have:=uQ v l m hm; omega);rw[f,M3];simp only[Nm];rw[bx,M3];simp only[if_true];rw[mCheck v l hW,M3,gX,Pr.bind_of hms];by_cases hc:oV v l=0
    ·rw[QM hc,QM hc];exact .inr ⟨l,r',rfl,rfl,by omega,i⟩
    ·rw[QO hc,QO hc,Ht];exact .inl ⟨oV v l,_,rfl,rfl,rfl,hc⟩
theorem JB {v:Int} {s:AI} {q:Nat} (h:s.length<q+11):kj v s q= .error 1:=by
 unfold kj;by_cases b:s.length<q+8
 ·rw[Pr.bind_err (jW b)]
 ·rw[Pr.bind_of (fx (k:=8) QI)];by_cases a:s.length<q+8+2
  ·rw[Pr.bind_err (jW a)]
  ·rw[Pr.bind_of (fx (k:=2) QI),Pr.bind_err (by rw[kN,Pr.bind_err (jW QI)])]
theorem JC {s:AI} {q:Nat} {c:UInt8} (hc:s[q]? = some c) (hl:q<s.length):kN s q=if (c.toNat:Int)>1 then .error 11 else .ok (decide ((c.toNat:Int)=1),q+1):=by
 have b:bP 1 s q= .ok (sgn c,q+1):=by
  rw[fx QI,bN hc];rfl
 have hcl:=c.toNat_lt;rw[kN,Pr.bind_of b];by_cases hg:(c.toNat:Int)>1
 ·have hs1: ¬ sgn c=0/\ ¬ sgn c=1:=by unfold sgn; split <;> omega
  rw[QM hg,QO hs1.1,QO hs1.2];rfl
 ·rw[QO hg];by_cases a:(c.toNat:Int)=1
  ·have:sgn c=1:=by unfold sgn; rw[QM QI]; exact a
   rw[this,M4 a];rfl
  ·have:sgn c=0:=by unfold sgn; rw[QM QI]; omega
   rw[this,M5 a];rfl
theorem JD (s:AI) (hs:s.length<=1000000) (q:Nat) (hq:q<=s.length):(∃ e,rN s q= .error e/\e≠0/\eg (s.drop q)=some ([],0,e))\/(∃ l r,rN s q= .ok (l,q+r)/\q+r<=s.length/\eg (s.drop q)=some (l,(r:Int),0)):=by
 have hsh:=rh.zero (s:=s) (q:=q) hq;rw[xw _ (by rw[Nb]; omega)]
 cases ht:fO 4 6 eL (s.drop q) 0 with
 | error e =>
  rw[ht] at hsh;exact .inl ⟨e,hsh,BU (by rw[Nb]; omega) (Nn _) ht,rfl⟩
 | ok x =>
  obtain⟨l,r⟩:=x;rw[ht] at hsh;have hr:=(ki.spell _ _ _ _ (Nn _) ht).2.1;rw[Nb] at hr;exact .inr ⟨l,r,hsh,by omega,rfl⟩
theorem BX (v n:Int) (hv:v=0\/v=1) (s:AI) (hs:s.length<=1000000) (y:List bK) (b d:Int): ∀ (m fuel k:Nat) (acc:List bK) (q:Nat),((k+m:Nat):Int)=n->m<fuel->q<=s.length->acc.length=k->k+m<=1000000 ->
 (∃ e,dE (kj v) m s q= .error e/\e≠0/\dv s v n fuel y b d (q:Int) acc k=some (.ret ([],0,e)))\/(∃ l r,dE (kj v) m s q= .ok (l,r)/\dv s v n fuel y b d (q:Int) acc k=some (.go (y,b,d,(r:Int),acc++l.map toR,k+m))/\r<=s.length)
 | 0,fuel+1,k,acc,q,hn,hf,hq,ha,hk=>by
  refine .inr ⟨[],q,rfl,?_,hq⟩;rw[dv,QO QI,List.map_nil,Nx,Nat.add_zero]
 | m+1,fuel+1,k,acc,q,hn,hf,hq,ha,hk=>by
  rw[dv,QM QI,QM QI,dE];by_cases i:(s.length:Int) - (q:Int)<11
  ·rw[QM i,Pr.bind_err (JB QI)];exact .inl ⟨1,rfl,by decide,rfl⟩
  obtain⟨c,hc⟩: ∃ c,s[q+10]? = some c:=⟨_,List.getElem?_eq_getElem QI⟩;have B:((q:Int)+8).toNat=q+8:=by omega
  have w:((q:Int)+10).toNat=q+8+2:=by omega
  have x:((q:Int)+11).toNat=q+8+2+1:=by omega
  have f:bP 8 s q= .ok (bb ((s.drop q).take 8),q+8):=fx QI;have g:bP 2 s (q+8)= .ok (bb ((s.drop (q+8)).take 2),q+8+2):=fx QI;have pb:=JC (q:=q+8+2) hc QI;rw[QO i,QM QI,QM QI,w,show s[q+8+2]? = some c from hc,M3];by_cases hg:(c.toNat:Int)>1
  ·rw[QM hg] at pb ⊢;rw[Pr.bind_err (by rw[kj,Pr.bind_of f,Pr.bind_of g,Pr.bind_err pb])];exact .inl ⟨11,rfl,by decide,rfl⟩
  rw[QO hg] at pb ⊢;rw[QM QI,QM QI,B,Nu,Nat.add_sub_cancel_left,cX _ (by rw[Np]; omega),M3,QM QI,QM QI,QM QI,Nat.add_sub_cancel_left,cX _ (by rw[Np]; omega),M3,QM QI,QM QI,x,QM QI];generalize bb ((s.drop q).take 8)=A at f ⊢;generalize bb ((s.drop (q+8)).take 2)=Bv at g ⊢;generalize hcv:decide ((c.toNat:Int)=1)=cv at pb ⊢;rcases JD s hs (q+8+2+1) QI with⟨e,j,h,o⟩ | ⟨l,r,j,h,o⟩
  ·rw[o,M3];simp only;rw[QO h,Pr.bind_err (by rw[kj,Pr.bind_of f,Pr.bind_of g,Pr.bind_of pb,Pr.bind_err j])];exact .inl ⟨e,rfl,h,rfl⟩
  rw[o,M3];simp only[if_true];rw[QM QI];have hal:(acc.length+1)*56<=140737488355328:=by omega
  have fin: ∀ (kc:Int) (q':Nat),kj v s q= .ok (⟨A,Bv,cv,l,kc⟩,q')->q'<=s.length ->
   (∃ e,((kj v).bind fun a=>(dE (kj v) m).bind fun l=>Pr.ret (a::l)) s q= .error e/\e≠0/\dv s v n fuel y b d (q':Int) (acc ++ [⟨A,Bv,cv,l,kc⟩]) (k+1)=some (.ret ([],0,e))) \/
   (∃ l' r,((kj v).bind fun a=>(dE (kj v) m).bind fun l=>Pr.ret (a::l)) s q= .ok (l',r)/\dv s v n fuel y b d (q':Int) (acc ++ [⟨A,Bv,cv,l,kc⟩]) (k+1)=some (.go (y,b,d,(r:Int),acc++l'.map toR,k+(m+1)))/\r<=s.length):=by
   intro kc q' hp hq';rcases BX v n hv s hs y b d m fuel (k+1) (acc ++ [⟨A,Bv,cv,l,kc⟩]) q' QI QI hq' (by rw[M8,NY,ha]) QI with⟨e,p,t,u⟩ | ⟨l',r',p,t,u⟩
   ·exact .inl ⟨e,by rw[Pr.bind_of hp,Pr.bind_err p],t,u⟩
   ·refine .inr ⟨_,r',by rw[Pr.bind_of hp,Pr.bind_of p]; rfl,?_,u⟩;rw[t,List.map_cons,Nd,show k+1+m=k+(m+1) by omega];rfl
  have pM:kj v s q=((if v>0 then bP 4 else Pr.ret 0).bind fun k=>Pr.ret (⟨A,Bv,cv,l,k⟩:aV)) s (q+8+2+1+r):=by
   rw[kj,Pr.bind_of f,Pr.bind_of g,Pr.bind_of pb,Pr.bind_of j]
  rcases hv with rfl | rfl
  ·rw[QO (show ¬ (0:Int)>0 by decide)] at pM;rw[QO QJ,QM hal,QM QI,show (q:Int)+11+(r:Int)=((q+8+2+1+r:Nat):Int) by omega];exact fin 0 _ pM h
  ·rw[QM (show (1:Int)>0 by decide)] at pM;rw[QM rfl,QM QI];by_cases z:(s.length:Int) - ((q:Int)+11+(r:Int))<4
   ·rw[QM z,Pr.bind_err (by rw[pM,Pr.bind_err (jW QI)])];exact .inl ⟨1,rfl,by decide,rfl⟩
   have C:((q:Int)+11+(r:Int)).toNat=q+8+2+1+r:=by omega
   have D:((q:Int)+11+(r:Int)+4).toNat=q+8+2+1+r+4:=by omega
   have E:bP 4 s (q+8+2+1+r)= .ok (bb ((s.drop (q+8+2+1+r)).take 4),q+8+2+1+r+4):=fx QI;rw[QO z,QM QI,QM QI,C,D,Nat.add_sub_cancel_left,cX _ (by rw[Np]; omega),M3,QM QI,QM hal,QM QI,show (q:Int)+11+(r:Int)+4=((q+8+2+1+r+4:Nat):Int) by omega];exact fin _ _ (by rw[pM,Pr.bind_of E]; rfl) QI
theorem Hu (v:Int) (hv:v=0\/v=1) (s:AI) (hs:s.length<=1000000):mW s v=some (match gX v s 0 with | .error e=>([],0,e) | .ok (l,r)=>(l.map toR,(r:Int),0)):=by
 unfold mW;by_cases d:(s.length:Int)<4
 ·have:gX v s 0= .error 1:=by rw[gX,Pr.bind_err (by rw[pMs,fO,Pr.bind_err (by rw[ff,Pr.bind_err (jW QI)])])]
  rw[QM d,this]
 have f:bP 4 s 0= .ok (bb (s.take 4),4):=by have:=fx (k:=4) (s:=s) (q:=0) QI; rwa [List.drop_zero] at this
 rw[QO d,QM QI,cX _ (by rw[Np]; omega),M3];generalize bb (s.take 4)=n at f ⊢;have hC:ff 4 15 s 0=jR 15 n s 4:=by rw[ff,Pr.bind_of f]
 by_cases hn:n<0
 ·have:gX v s 0= .error 4:=by rw[gX,Pr.bind_err (by rw[pMs,fO,Pr.bind_err (by rw[hC]; unfold jR; rw[QM hn])])]
  rw[QM hn,this]
 rw[QO hn,QM QI,QM QI];by_cases hg:n>((s.length:Int) - 4) / 15
 ·have:gX v s 0= .error 1:=by
   rw[gX,Pr.bind_err (by rw[pMs,fO,Pr.bind_err (by rw[hC]; unfold jR; rw[QO hn,QM ⟨by decide,by rw[show ((s.length - 4:Nat):Int)=(s.length:Int) - 4 by omega]; exact hg⟩])])]
  rw[QM hg,this]
 have hC2:ff 4 15 s 0= .ok (n,4):=by rw[hC]; unfold jR; rw[QO hn,QO (fun h=>hg (by have:=h.2; rwa [show ((s.length - 4:Nat):Int)=(s.length:Int) - 4 by omega] at this))]
 rw[QO hg];rcases BX v n hv s hs [] 0 0 n.toNat (n.toNat+1) 0 [] 4 QI QI QI rfl QI with⟨e,a,b,c⟩ | ⟨l,r,a,b,c⟩
 ·have:gX v s 0= .error e:=by rw[gX,Pr.bind_err (by rw[pMs,fO,Pr.bind_of hC2,a])]
  rw[show ((4:Nat):Int)=4 from rfl] at c;rw[c,this];rfl
 ·have hms:pMs v s 0= .ok (l,r):=by rw[pMs,fO,Pr.bind_of hC2,a]
  obtain⟨j,o,g,p,t,i⟩:=(EF v).spell s 0 l r (Nn _) hms;have hL: ∀ m,m∈l->okL m:=fun m hm=>DB (by have:=uQ v l m hm; omega);have hll:l.length<=1000000:=by
   have:=jV (EE v) l i;rw[xF,M8,aZ] at g;omega
  rw[show ((4:Nat):Int)=4 from rfl] at b;rw[b,M3];simp only[Nm];rw[F3 v l hll hL,M3,gX,Pr.bind_of hms];by_cases hc:oV v l=0
  ·rw[QM hc,QM hc];rfl
  ·rw[QO hc,QO hc];rfl
theorem tt (a b:List bK) (g:a.length<=1000000) (y:Bool): ∀ (l u:List aV) (k fuel:Nat),(∀ m,m∈l->m.Mc.length<=1000000/\ ∀ t,t∈m.Mc->t.Me.length<=140737488355328)->a.drop k=l.map toR->b.drop k=u.map toR->l.length=u.length->l.length<fuel-> ∃ z,fJ a b fuel y k=some (if l=u then .go (y,z) else .ret false)
 | [],[],k,fuel+1,_,ha,_,_,_=>by
  have:=gk ha;exact⟨k,by rw[fJ,QO QI,QM rfl]⟩
 | [],d::u,k,fuel,_,_,_,hl,_=>by simp at hl
 | c::l,[],k,fuel,_,_,_,hl,_=>by simp at hl
 | c::l,d::u,k,fuel+1,hx,ha,hb,hl,hf=>by
  obtain⟨i,j,C⟩:=d9 ha;obtain⟨n,o,D⟩:=d9 hb;simp only[Ng] at hl hf;obtain⟨z,hz⟩:=tt a b g y l u (k+1) fuel (fun m hm=>hx m (.tail _ hm)) j o QI QI;have hc:=hx c (.head _);rw[fJ,QM QI,i,M3,n,M3];have hq:(if (toR c).Md=(toR d).Md then (if (toR c).Mf=(toR d).Mf then (if (toR c).Mx=true then (if (toR d).Mx=true then (if (toR c).Mo=(toR d).Mo then ((db (toR c).Mc (toR d).Mc).bind fun e=>if e=true then some false else some true) else some true) else some true) else (if (toR d).Mx=true then some true else (if (toR c).Mo=(toR d).Mo then ((db (toR c).Mc (toR d).Mc).bind fun f=>if f=true then some false else some true) else some true))) else some true) else some true)=some (!decide (c=d)):=by
   rw[BT (toR c).Mc _ hc.1 hc.2,xD];obtain⟨a1,a2,a3,a4,a5⟩:=c;obtain⟨p,q,r,s,v⟩:=d;simp only[aV.mk.injEq,M3,toR];by_cases w:a1=p <;> by_cases x:a2=q <;> by_cases A:a4=s <;> by_cases B:a5=v <;> cases a3 <;> cases r <;> simp[w,x,A,B]
  rw[hq,M3];by_cases hcd:c=d
  ·rw[M4 hcd,QO QJ,QM QI];refine⟨z,hz.trans ?_⟩;by_cases hlu:l=u
   ·rw[QM hlu,QM (by rw[hcd,hlu])]
   ·rw[QO hlu,QO (fun h=>hlu (List.cons.inj h).2)]
  ·rw[M5 hcd,QM QJ];exact⟨0,by rw[QO (fun h=>hcd (List.cons.inj h).1)]⟩
theorem BZ (l u:List aV) (a:l.length<=1000000) (hx: ∀ m,m∈l->m.Mc.length<=1000000/\ ∀ t,t∈m.Mc->t.Me.length<=140737488355328):jf (l.map toR) (u.map toR)=some (decide (l=u)):=by
 unfold jf;rw[NB,NB];by_cases hl:(l.length:Int)=(u.length:Int)
 ·obtain⟨z,hz⟩:=tt (l.map toR) (u.map toR) (by rw[NB]; omega) false l u 0 ((l.length:Int).toNat+1) hx List.drop_zero List.drop_zero QI QI;rw[QM hl,hz];by_cases h:l=u
  ·rw[QM h,M4 h]; rfl
  ·rw[QO h,M5 h]; rfl
 ·rw[QO hl,M5 (fun h=>hl (by rw[h]))]
theorem dc {α:Type} {l:List α} {k:Nat} {x:α} {t:List α} (h:l.drop k=x::t):l[k]? = some x/\l.drop (k+1)=t/\l.length=k+1+t.length:=by
 have hl:=congrArg List.length h;rw[Nb,Ng] at hl;refine⟨?_,?_,by omega⟩
 ·have:=congrArg (fun z=>z[0]?) h;simpa using this
 ·rw[<- NM,h];rfl
theorem eF {α:Type} {l:List α} {k:Nat} (h:l.drop k = []):l.length<=k:=List.drop_eq_nil_iff.1 h
def qP (l:List Hd):Bool:=l.all fun h=>bM h.Mu
def nj (r:Rec):Int:=if r.My<0\/r.My>2147483647 then 11 else if (bM r.MD && bM r.Mu && qP r.Ms)=true then 0 else 4
theorem vp (y:Bool): ∀ l:List Bl,ec l y=some (if l.all bM=true then .go y else .ret false)
 | []=>rfl
 | b::l=>by
  rw[ec,tP,M3,List.all_cons,vp y l];cases bM b <;> rfl
theorem zq (l:List Bl):fY l=some (l.all bM):=by
 unfold fY;rw[vp];cases l.all bM <;> rfl
theorem vq (y:Int): ∀ l:List Hd,eC l y=some (if qP l=true then .go y else .ret 4)
 | []=>rfl
 | h::l=>by
  rw[eC,zq,M3,vq y l];unfold qP;rw[List.all_cons,List.all_cons,List.all_nil,Bool.and_true];cases bM h.Mu <;> rfl
theorem tu (r:Rec) (hw:wI r.My):fS r=some (nj r):=by
 unfold fS nj;by_cases h:r.My<0
 ·rw[QM h,QM (.inl h)]
 rw[QO h,gG _ _ hw,jX,M3];by_cases a:r.My>2147483647
 ·rw[QO (by simp; omega),QM (.inr a)]
 rw[QM (by simp; omega),QO QI,zq,M3,vq];simp only[List.all_cons,List.all_nil,Bool.and_true];cases bM r.MD <;> cases bM r.Mu <;> cases qP r.Ms <;> rfl
theorem Hv (b:Bl):mD b=some (!bM b):=by
 unfold mD bM;obtain⟨n,d⟩:=b;cases n
 ·rfl
 ·cases d <;> simp
theorem B0 (a0:List Hd) (hb:a0.length<=1000000) (y:Bool): ∀ (l:List Hd) (k fuel:Nat),a0.drop k=l->l.length<fuel-> ∃ z,ey a0 fuel y k=some (if qP l=true then .go (y,z) else .ret false)
 | [],k,fuel+1,h,hf=>by
  have:=eF h;exact⟨k,by rw[ey,QO QI]; rfl⟩
 | x::l,k,fuel+1,h,hf=>by
  obtain⟨a,b,c⟩:=dc h;rw[Ng] at hf;obtain⟨z,hz⟩:=B0 a0 hb y l (k+1) fuel b QI;rw[ey,QM QI,a,M3];have e:qP (x::l)=(bM x.Mu && qP l):=rfl;rw[e];by_cases hn:x.Mu.null=true
  ·rw[QM hn];by_cases hd:x.Mu.data = []
   ·rw[QM hd,QM QI,hz];have:bM x.Mu=true:=by unfold bM; rw[hd]; simp
    rw[this,Bool.true_and];exact⟨z,rfl⟩
   ·rw[QO hd];have:bM x.Mu=false:=by unfold bM; rw[hn]; simp[hd]
    rw[this];exact⟨0,rfl⟩
  ·rw[QO hn,QM QI,hz];have:bM x.Mu=true:=by unfold bM; simp[hn]
   rw[this,Bool.true_and];exact⟨z,rfl⟩
theorem F4 (a0:List Hd) (hb:a0.length<=1000000):lI a0=some (qP a0):=by
 unfold lI;obtain⟨z,hz⟩:=B0 a0 hb false a0 0 (((a0.length:Int)).toNat+1) rfl QI;rw[hz];cases qP a0 <;> rfl
theorem F5 (r:Rec) (hb:r.Ms.length<=1000000):kb r=some (nj r):=by
 unfold kb nj;by_cases h:r.My<0
 ·rw[QM h,QM (.inl h)]
 rw[QO h];by_cases a:r.My>2147483647
 ·rw[QM a,QM (.inr a)]
 rw[QO a,QO QI,Hv,Hv,F4 _ hb];cases bM r.MD <;> cases bM r.Mu <;> cases qP r.Ms <;> rfl
theorem xH (l:AI) (p:Nat) (h:2<=l.length):eX ⟨l,p,0⟩ 2=(bb (l.take 2),⟨l.drop 2,p+2,0⟩):=z7 l p 2 QJ QJ h
theorem Hw (l:AI) (p:Nat) (h:4<=l.length):eX ⟨l,p,0⟩ 4=(bb (l.take 4),⟨l.drop 4,p+4,0⟩):=z7 l p 4 QJ QJ h
theorem qQ (l:AI) (p:Nat) (h:l.length<2):eX ⟨l,p,0⟩ 2=(0,⟨l,p,1⟩):=sb l p 2 QJ QJ QI
theorem B4 (l:AI) (p:Nat) (h:l.length<4):eX ⟨l,p,0⟩ 4=(0,⟨l,p,1⟩):=sb l p 4 QJ QJ QI
theorem AD (l:AI) (p:Nat) (e n:Int) (h:e≠0):eX ⟨l,p,e⟩ n=(0,⟨l,p,e⟩):=oe (st:=⟨l,p,e⟩) h n
theorem iD (l:AI) (p:Nat) (e:Int) (h:e≠0):fP ⟨l,p,e⟩=⟨l,p,e⟩:=wH (st:=⟨l,p,e⟩) h
theorem EG (l:AI) (p:Nat) (e f:Int) (h:e≠0):dw ⟨l,p,e⟩ f=⟨l,p,e⟩:=tK (st:=⟨l,p,e⟩) h f
theorem wv (l:AI) (p:Nat) (f:Int):dw ⟨l,p,0⟩ f=⟨l,p,f⟩:=by simp[dw]
theorem B5 (l:AI) (p:Nat):fP ⟨l,p,0⟩=⟨l,p,if l = [] then 0 else 2⟩:=by unfold fP; split <;> simp_all [dw]
theorem tv {l:AI} {n:Nat} (h:n<=l.length):l.drop n = [] ↔ ¬ (l.length:Int)>n:=by rw[List.drop_eq_nil_iff]; omega
theorem Hx (l:AI) (hl:l.length<=9223372036854775807):eB l=jM l:=by
 unfold eB jM dM;simp only[kn l QI,ko,gH,dx,M3];by_cases e:l.length<2
 ·have h2i:(l.length:Int)<2:=by omega
  simp[qQ l 0 e,AD,iD,EG,h2i]
 have h2i: ¬ (l.length:Int)<2:=by omega
 have h2j:2<=(l.length:Int):=by omega
 rw[xH l 0 QI,QO h2i,QM (show 2<=l.length by omega),cX _ (by simp; omega)];simp only[M3];by_cases c:bb (l.take 2)=0
 ·rw[QM c,QM c];simp only[M3];by_cases f:l.length<4
  ·have h4i:(l.length:Int)<4:=by omega
   simp[qQ (l.drop 2) (0+2) (by simp; omega),iD,h4i]
  have h4i: ¬ (l.length:Int)<4:=by omega
  rw[xH _ _ (by simp; omega),QO h4i,QM (show 4<=l.length by omega),cX _ (by simp; omega)];simp only[M3,NM,B5,wv];have hd:=tv (l:=l) (n:=4) QI;generalize bb ((l.drop 2).take 2)=k;by_cases a:(l.length:Int)>4
  ·have hd2: ¬ l.drop (2+2) = []:=fun h=>(hd.1 h) a;by_cases b:k=0
   ·simp[hd2,a,iD,b]
   ·by_cases d:k=1 <;> simp[hd2,a,iD,b,d]
  ·have hd2:l.drop (2+2) = []:=hd.2 a;by_cases b:k=0
   ·simp[hd2,a,iD,b]
   ·by_cases d:k=1 <;> simp[hd2,a,iD,b,d]
 ·rw[QO c,QO c];simp[wv,AD,iD]
theorem DF (l:AI) (hl:l.length<=9223372036854775807):dI l=iy l:=by
 unfold dI iy dM;simp only[kn l QI,ko,gH,dx,M3];by_cases d:l.length<2
 ·have h2i:(l.length:Int)<2:=by omega
  simp[qQ l 0 d,AD,iD,EG,h2i]
 have h2i: ¬ (l.length:Int)<2:=by omega
 have h2j:2<=(l.length:Int):=by omega
 rw[xH l 0 QI,QO h2i,QM (show 2<=l.length by omega),cX _ (by simp; omega)];simp only[M3];by_cases a:bb (l.take 2)=0
 ·rw[QM a,QM a];simp only[M3];by_cases e:l.length<6
  ·have h4i:(l.length:Int)<6:=by omega
   simp[B4 (l.drop 2) (0+2) (by simp; omega),iD,h4i]
  have h4i: ¬ (l.length:Int)<6:=by omega
  rw[Hw _ _ (by simp; omega),QO h4i,QM (show 6<=l.length by omega),cX _ (by simp; omega)];simp only[M3,NM,B5,wv];have hd:=tv (l:=l) (n:=6) QI;generalize bb ((l.drop 2).take 4)=k;by_cases b:(l.length:Int)>6
  ·have hd2: ¬ l.drop (2+4) = []:=fun h=>(hd.1 h) b;by_cases c:k<0 <;> simp[hd2,b,iD,c]
  ·have hd2:l.drop (2+4) = []:=hd.2 b;by_cases c:k<0 <;> simp[hd2,b,iD,c]
 ·rw[QO a,QO a];simp[wv,AD,iD]
theorem AE (r:Rec) (a:r.MD.data.length<=9223372036854775807) (b:r.Mu.data.length<=9223372036854775807):dW r=iZ r:=by
 unfold dW iZ;rw[Hx _ a,DF _ b]
def iL:List Rec->Int
 | []=>0
 | r::l=>if nj r=0 then iL l else nj r
theorem zr (y:Int): ∀ l:List Rec,(∀ r,r∈l->wI r.My)->eP l y=some (if iL l=0 then .go y else .ret (iL l))
 | [],h=>rfl
 | r::l,h=>by
  rw[eP,tu _ (h r (.head _)),M3,zr y l (fun x hx=>h x (.tail _ hx)),iL];by_cases hr:nj r=0
  ·rw[QM hr,QM hr]
  ·rw[QO hr,QO hr,QO hr]
theorem zt (y:Int): ∀ l:List Rec,(∀ r,r∈l->wI r.My)->eQ l y=some (if iL l=0 then .go y else .ret (iL l))
 | [],h=>rfl
 | r::l,h=>by
  rw[eQ,tu _ (h r (.head _)),M3,zt y l (fun x hx=>h x (.tail _ hx)),iL];by_cases hr:nj r=0
  ·rw[QM hr,QM hr]
  ·rw[QO hr,QO hr,QO hr]
theorem zu (a:Bat) (hb:a.Mg.length<=1000000) (hh: ∀ r,r∈a.Mg->r.Ms.length<=1000000) (y:Int): ∀ (l:List Rec) (k fuel:Nat),a.Mg.drop k=l->l.length<fuel-> ∃ z,dS a fuel y k=some (if iL l=0 then .go (y,z) else .ret (iL l))
 | [],k,fuel+1,h,hf=>by
  have:=eF h;exact⟨k,by rw[dS,QO QI]; rfl⟩
 | r::l,k,fuel+1,h,hf=>by
  obtain⟨b,c,d⟩:=dc h;rw[Ng] at hf;obtain⟨z,hz⟩:=zu a hb hh y l (k+1) fuel c QI;rw[dS,QM QI,b,M3,F5 _ (hh r (List.mem_of_getElem? b)),M3,iL];by_cases hr:nj r=0
  ·rw[QM hr,QM hr,QM QI];exact⟨z,hz⟩
  ·rw[QO hr,QO hr];exact⟨0,by rw[QO hr]⟩
theorem zw (a:Bat): ∀ (fuel:Nat) (y:Int) (k:Nat),fQ a fuel y k=dS a fuel y k
 | 0,y,k=>rfl
 | fuel+1,y,k=>by
  rw[fQ,dS];simp only[zw a fuel]
def sA (F t:Int):Prop:=t>9223372036854775807 - F\/t < -F
instance (F t:Int):Decidable (sA F t):=by unfold sA; infer_instance
def AF (F L:Int):Int->Int->List Rec->Except Int Int
 | p,m,[]=> .ok m
 | p,m,r::l=>if r.My<=p\/r.My>L then .error 13 else if sA F r.MH then .error 11 else AF F L r.My (if m<F+r.MH then F+r.MH else m) l
theorem F6 {F t:Int} (a:0<=F) (b:F<=9223372036854775807) (ht:wI t):(sA F t->(IntKind.i64.wrap (F+t)<0))/\(¬ sA F t->IntKind.i64.wrap (F+t)=F+t/\0<=F+t):=by
 obtain⟨c,d⟩:=ht;unfold sA;rw[IntKind.wrap_i64];constructor
 ·intro h;omega
 ·intro h;omega
theorem EH (a:Bat) (f:0<=a.Mr) (g:a.Mr<=9223372036854775807) (y:Int): ∀ (l:List Rec) (p m:Int),(∀ r,r∈l->wI r.MH)->(∃ e,AF a.Mr a.MC p m l= .error e/\cj a l y p m=some (.ret e))\/(∃ p' m',AF a.Mr a.MC p m l= .ok m'/\cj a l y p m=some (.go (y,p',m')))
 | [],p,m,h=> .inr ⟨p,m,rfl,rfl⟩
 | r::l,p,m,h=>by
  have ih:=fun p m=>EH a f g y l p m (fun x hx=>h x (.tail _ hx));obtain⟨w1,i⟩:=F6 f g (h r (.head _));rw[cj,AF];by_cases d:r.My<=p
  ·rw[QM d,QM (.inl d)];exact .inl ⟨_,rfl,rfl⟩
  rw[QO d];by_cases c2:r.My>a.MC
  ·rw[QM c2,QM (.inr c2)];exact .inl ⟨_,rfl,rfl⟩
  rw[QO c2,QO QI];by_cases b:sA a.Mr r.MH
  ·rw[QM b,QM (w1 b)];exact .inl ⟨_,rfl,rfl⟩
  obtain⟨j,k⟩:=i b;rw[QO b,j,QO (show ¬ a.Mr+r.MH<0 by omega),QO (show ¬ a.Mr+r.MH<r.MH by omega),ite_self];by_cases c:m<a.Mr+r.MH
  ·rw[QM c,QM c];exact ih _ _
  ·rw[QO c,QO c];exact ih _ _
theorem AH (a:Bat) (j:0<=a.Mr) (n:a.Mr<=9223372036854775807) (hb:a.Mg.length<=1000000) (y:Int): ∀ (l:List Rec) (p m:Int) (k fuel:Nat),a.Mg.drop k=l->l.length<fuel->(k=0->p= -1)->(0<k-> ∃ r,a.Mg[k - 1]? = some r/\r.My=p/\0<=p) ->
 (∃ e,AF a.Mr a.MC p m l= .error e/\cK a fuel y k=some (.ret e))\/(∃ m' z,AF a.Mr a.MC p m l= .ok m'/\cK a fuel y k=some (.go (y,z)))
 | [],p,m,k,fuel+1,h,hf,d,f=>by
  have:=eF h;exact .inr ⟨m,k,rfl,by rw[cK,QO QI]⟩
 | r::l,p,m,k,fuel+1,h,hf,d,f=>by
  obtain⟨g,o,v⟩:=dc h;rw[Ng] at hf;rw[cK,QM QI,g,M3,AF];have hp: -1<=p:=by
   rcases Nat.eq_zero_or_pos k with hk | hk
   ·have:=d hk; omega
   ·obtain⟨_,_,_,w⟩:=f hk; omega
  have ih:=fun (hge:0<=r.My) m=>AH a j n hb y l r.My m (k+1) fuel o QI (fun h=>absurd h QI) (fun _=>⟨r,g,rfl,hge⟩);have tail:0<=r.My->((if A0 (9223372036854775807 - a.Mr) then (if r.MH>(9223372036854775807 - a.Mr) then some (Lp.ret (11:Int)) else (if A0 (-a.Mr) then (if r.MH<(-a.Mr) then some (Lp.ret 11) else (if A0 ((k:Int)+1) then (cK a fuel y (k+1)) else none)) else none)) else none))=if sA a.Mr r.MH then some (.ret 11) else cK a fuel y (k+1):=by
   intro hge;rw[QM QI];by_cases c:r.MH>9223372036854775807 - a.Mr
   ·rw[QM c,QM (show sA a.Mr r.MH from .inl c)]
   rw[QO c,QM QI];by_cases c2:r.MH < -a.Mr
   ·rw[QM c2,QM (show sA a.Mr r.MH from .inr c2)]
   rw[QO c2,QO (show ¬ sA a.Mr r.MH by unfold sA; omega),QM QI]
  by_cases c2:r.My>a.MC
  ·rw[QM c2,QM (.inr c2)];exact .inl ⟨_,rfl,rfl⟩
  rw[QO c2];rcases Nat.eq_zero_or_pos k with hk | hk
  ·have u:=d hk;rw[QO (show ¬ (k:Int)>0 by omega)];by_cases i:r.My<0
   ·rw[QM i,QM (show r.My<=p\/r.My>a.MC by omega)];exact .inl ⟨_,rfl,rfl⟩
   rw[QO i,QO (show ¬ (r.My<=p\/r.My>a.MC) by omega),tail QI];by_cases b:sA a.Mr r.MH
   ·rw[QM b,QM b];exact .inl ⟨_,rfl,rfl⟩
   ·rw[QO b,QO b];exact ih QI _
  ·obtain⟨q,s,t,x⟩:=f hk;rw[QM (show (k:Int)>0 by omega),QM (show (A0 ((k:Int) - 1)) by omega),QM (show 0<=(k:Int) - 1 by omega),show ((k:Int) - 1).toNat=k - 1 by omega,s,M3,t];by_cases c:r.My<=p
   ·rw[QM c,QM (.inl c)];exact .inl ⟨_,rfl,rfl⟩
   rw[QO c,QO (show ¬ r.My<0 by omega),QO (show ¬ (r.My<=p\/r.My>a.MC) by omega),tail QI];by_cases b:sA a.Mr r.MH
   ·rw[QM b,QM b];exact .inl ⟨_,rfl,rfl⟩
   ·rw[QO b,QO b];exact ih QI _
theorem EI (a:Bat) (b:0<=a.Mr) (d:a.Mr<=9223372036854775807) (hb:a.Mg.length<=1000000) (y:Int): ∀ (l:List Rec) (p m m':Int) (k fuel:Nat),a.Mg.drop k=l->l.length<fuel->AF a.Mr a.MC p m l= .ok m'->(∀ r,r∈l->wI r.MH)-> ∃ z,ez a fuel y m k=some (.go (y,m',z))
 | [],p,m,m',k,fuel+1,h,hf,ho,hw=>by
  have:=eF h;injection ho with ho;subst ho;exact⟨k,by rw[ez,QO QI]⟩
 | r::l,p,m,m',k,fuel+1,h,hf,ho,hw=>by
  obtain⟨e,f,g⟩:=dc h;rw[Ng] at hf;rw[AF] at ho;split at ho
  ·exact nomatch ho
  split at ho
  ·exact nomatch ho
  rename_i hb2;have ht:=hw r (.head _);have ht0:=ht.1;have ht1:=ht.2;unfold sA at hb2;rw[ez,QM QI,e,M3,QM QI,QO QI,QM QI,QO QI,QM QI];obtain⟨z,hz⟩:=EI a b d hb y l r.My _ m' (k+1) fuel f QI ho (fun x hx=>hw x (.tail _ hx));by_cases c:m<a.Mr+r.MH
  ·rw[QM c] at hz;rw[QM c,QM QI,QM QI];exact⟨z,hz⟩
  ·rw[QO c] at hz;rw[QO c,QM QI];exact⟨z,hz⟩
theorem xI (a:Bat) (f:0<=a.Mr) (g:a.Mr<=9223372036854775807) (hb:a.Mg.length<=1000000) (hw: ∀ r,r∈a.Mg->wI r.MH): ∃ e,d7 a=some e/\f8 a=some e:=by
 unfold d7 f8 nK;rcases EH a f g 0 a.Mg (-1) a.Mr hw with⟨e,c,i⟩ | ⟨p',m',c,i⟩
 ·rcases AH a f g hb 0 a.Mg (-1) a.Mr 0 (((a.Mg.length:Int)).toNat+1) rfl QI (fun _=>rfl) (fun h=>absurd h QI) with⟨k,b,d⟩ | ⟨l,z,b,d⟩
  ·rw[c] at b;injection b with b;subst b;exact⟨e,by rw[i]; rfl,by rw[d]; rfl⟩
  ·rw[c] at b;exact nomatch b
 ·rcases AH a f g hb 0 a.Mg (-1) a.Mr 0 (((a.Mg.length:Int)).toNat+1) rfl QI (fun _=>rfl) (fun h=>absurd h QI) with⟨k,b,d⟩ | ⟨l,z,b,d⟩
  ·rw[c] at b;exact nomatch b
  ·obtain⟨m,j⟩:=EI a f g hb 0 a.Mg (-1) a.Mr m' 0 (((a.Mg.length:Int)).toNat+1) rfl QI c hw;rw[i,d,j];simp only[M3];by_cases ha:a.MS=true
   ·exact⟨0,by rw[QM ha],by rw[QM ha]⟩
   ·rw[QO ha];by_cases hm:m'=a.MK
    ·exact⟨0,by rw[QM hm],by rw[QM hm]⟩
    ·exact⟨11,by rw[QO hm],by rw[QO hm]⟩
def nk (a:Bat):Prop:=0<=a.ME/\(-1<=a.MA/\a.MA<=2147483647)/\(0<=a.MC/\a.MC<=2147483647)/\a.ME+a.MC<=9223372036854775807/\0<=a.Mr/\0<=a.MK
instance (a:Bat):Decidable (nk a):=by unfold nk; infer_instance
theorem DG (a:Bat) (k:wI a.ME) (l:wI a.MA) (m:wI a.MC):iB a=some (decide (nk a)):=by
 obtain⟨n,o⟩:=k;unfold iB;rw[gG _ _ l,gG _ _ m,jX,jX,IntKind.wrap_i64];have no: ∀ {b:Bool},¬ nk a->b=false->some b=some (decide (nk a)):=fun h hb=>by rw[M5 h,hb]
 by_cases c:a.ME>=0
 ·rw[QM c];by_cases c2:a.MA>= -1
  ·rw[QM c2,M3];by_cases g: -2147483648<=a.MA/\a.MA<=2147483647
   ·rw[QM (M4 g)];by_cases d:a.MC>=0
    ·rw[QM d,M3];by_cases i: -2147483648<=a.MC/\a.MC<=2147483647
     ·rw[QM (M4 i)];by_cases j:a.ME+a.MC<=9223372036854775807
      ·rw[QM QI];by_cases e:a.Mr>=0
       ·rw[QM e];by_cases f:a.MK>=0
        ·rw[QM f,M4 (show nk a from ⟨c,⟨c2,by omega⟩,⟨d,by omega⟩,j,e,f⟩)]
        ·rw[QO f]; exact no (fun h=>f h.2.2.2.2.2) rfl
       ·rw[QO e]; exact no (fun h=>e h.2.2.2.2.1) rfl
      ·rw[QO QI]; exact no (fun h=>j h.2.2.2.1) rfl
     ·rw[QO (by rw[decide_eq_true_eq]; exact i)]; exact no (fun h=>by have:=h.2.2.1; omega) rfl
    ·rw[QO d]; exact no (fun h=>d h.2.2.1.1) rfl
   ·rw[QO (by rw[decide_eq_true_eq]; exact g)]; exact no (fun h=>by have:=h.2.1; omega) rfl
  ·rw[QO c2]; exact no (fun h=>c2 h.2.1.1) rfl
 ·rw[QO c]; exact no (fun h=>c h.1) rfl
theorem uR (n k:Int):ig n k=some (decide (k<=n/\n<=2147483647)):=by
 unfold ig;by_cases a:n>=k
 ·rw[QM a];by_cases b:n<=2147483647
  ·rw[QM b,M4 ⟨a,b⟩]
  ·rw[QO b,M5 (fun h=>b h.2)]
 ·rw[QO a,M5 (fun h=>a h.1)]
def nl (a:Bat):Prop:=if a.Md= -1 then a.Mf= -1/\a.Mv= -1/\a.MI=false else 0<=a.Md/\(0<=a.Mf/\a.Mf<=32767)/\(if a.ML=true then a.Mv= -1 else 0<=a.Mv/\a.Mv<=2147483647)
instance (a:Bat):Decidable (nl a):=by unfold nl; infer_instance
theorem B6 (n:Int):bG n 2=decide (-32768<=n/\n<=32767):=by
 rw[Bool.eq_iff_iff];unfold bG;simp only[Bool.and_eq_true,decide_eq_true_eq];have:(2:Int) ^ (8*(2:Int).toNat - 1)=32768:=by decide
 omega
theorem vr (a:Bat) (h:wI a.Mf) (i:wI a.Mv):fN a=some (decide (nl a))/\gK a=some (decide (nl a)):=by
 unfold fN gK;rw[gG _ _ h,gG _ _ i,jX,B6,uR];unfold nl;obtain⟨l,m,n,tx,ct,o,p,q,P,E,S,rs⟩:=a;simp only;clear h i;by_cases j:P= -1
 ·simp only[QM j];by_cases c2:E= -1
  ·simp only[QM c2];by_cases g:S= -1
   ·simp only[QM g];cases tx <;> simp[c2,g]
   ·simp[g]
  ·simp[c2]
 ·simp only[QO j,M3];cases ct
  ·simp only[Bool.false_eq_true,if_false];constructor
   ·by_cases b:P>=0
    ·by_cases c:E>=0
     ·by_cases d: -32768<=E/\E<=32767
      ·by_cases e:S>=0
       ·by_cases f: -2147483648<=S/\S<=2147483647
        ·rw[QM b,QM c,QM (M4 d),QM e,QM (M4 f),M4 QI]
        ·rw[QM b,QM c,QM (M4 d),QM e,QO (by rw[decide_eq_true_eq]; exact f),M5 QI]
       ·rw[QM b,QM c,QM (M4 d),QO e,M5 QI]
      ·rw[QM b,QM c,QO (by rw[decide_eq_true_eq]; exact d),M5 QI]
     ·rw[QM b,QO c,M5 QI]
    ·rw[QO b,M5 QI]
   ·by_cases b:P<0
    ·rw[QM b,M5 QI]
    rw[QO b];by_cases c:E<0
    ·rw[QM c,M5 QI]
    rw[QO c];by_cases d:E>32767
    ·rw[QM d,M5 QI]
    rw[QO d];by_cases e:0<=S/\S<=2147483647
    ·rw[M4 e,M4 QI]
    ·rw[M5 e,M5 QI]
  ·simp only[if_true];constructor
   ·by_cases b:P>=0
    ·by_cases c:E>=0
     ·by_cases d: -32768<=E/\E<=32767
      ·by_cases e:S>= -1
       ·by_cases f: -2147483648<=S/\S<=2147483647
        ·by_cases k:S= -1
         ·rw[QM b,QM c,QM (M4 d),QM e,QM (M4 f),QM k,M4 QI]
         ·rw[QM b,QM c,QM (M4 d),QM e,QM (M4 f),QO k,M5 QI]
        ·rw[QM b,QM c,QM (M4 d),QM e,QO (by rw[decide_eq_true_eq]; exact f),M5 QI]
       ·rw[QM b,QM c,QM (M4 d),QO e,M5 QI]
      ·rw[QM b,QM c,QO (by rw[decide_eq_true_eq]; exact d),M5 QI]
     ·rw[QM b,QO c,M5 QI]
    ·rw[QO b,M5 QI]
   ·by_cases b:P<0
    ·rw[QM b,M5 QI]
    rw[QO b];by_cases c:E<0
    ·rw[QM c,M5 QI]
    rw[QO c];by_cases d:E>32767
    ·rw[QM d,M5 QI]
    rw[QO d];by_cases e:S= -1
    ·rw[QM e,M4 QI]
    ·rw[QO e,M5 QI]
theorem Hy (l:AI) (hl:l.length<=1000000): ∃ x,eB l=some x:=by
 unfold eB dM;simp only[kn l QI,ko,gH,dx,M3];generalize eX ⟨l,0,0⟩ 2=x;by_cases h:x.1=0
 ·simp only[QM h,M3];generalize eX x.2 2=y;split
  ·split <;> exact⟨_,rfl⟩
  ·split
   ·split <;> exact⟨_,rfl⟩
   ·split <;> exact⟨_,rfl⟩
 ·simp only[QO h,M3];generalize eX (dw x.2 7) 2=y;split
  ·split <;> exact⟨_,rfl⟩
  ·split
   ·split <;> exact⟨_,rfl⟩
   ·split <;> exact⟨_,rfl⟩
theorem DH (l:AI) (hl:l.length<=1000000): ∃ x,dI l=some x:=by
 unfold dI dM;simp only[kn l QI,ko,gH,dx,M3];generalize eX ⟨l,0,0⟩ 2=x;by_cases h:x.1=0
 ·simp only[QM h,M3];generalize eX x.2 4=y;split
  ·split <;> exact⟨_,rfl⟩
  ·split <;> exact⟨_,rfl⟩
 ·simp only[QO h,M3];generalize eX (dw x.2 7) 4=y;split
  ·split <;> exact⟨_,rfl⟩
  ·split <;> exact⟨_,rfl⟩
theorem AJ (r:Rec) (a:r.MD.data.length<=1000000) (b:r.Mu.data.length<=1000000): ∃ c d e,dW r=some (c,d,e):=by
 obtain⟨⟨f,g⟩,hk⟩:=Hy _ a;obtain⟨⟨v1,v2⟩,hv⟩:=DH _ b;unfold dW;rw[hk,hv];simp only[M3];split
 ·exact⟨_,_,_,rfl⟩
 split
 ·exact⟨_,_,_,rfl⟩
 split
 ·exact⟨_,_,_,rfl⟩
 split
 ·split
  ·split
   ·exact⟨_,_,_,rfl⟩
   ·exact⟨_,_,_,rfl⟩
  ·exact⟨_,_,_,rfl⟩
 ·exact⟨_,_,_,rfl⟩
def DI (a:Bat) (cr b:Int):Int:=if nk a then (if a.ML=true then (if a.MI=true then (if nl a then (if (a.Mg.length:Int)=1 then (if iL a.Mg=0 then (if cr=0 then b else cr) else iL a.Mg) else 10) else 11) else 8) else (if nl a then (if iL a.Mg=0 then b else iL a.Mg) else 11)) else 11
theorem bchk (a:Bat) (hw:Aw a) (cr b:Int) (hc:nk a->d7 a=some b) (hr:(a.Mg.length:Int)=1-> ∃ r c d,a.Mg[0]? = some r/\dW r=some (c,d,cr)):dX a=some (DI a cr b):=by
 obtain⟨w1,i,k,l,m,j,n,o,p,e,f,g⟩:=hw;have hoff: ∀ r,r∈a.Mg->wI r.My:=fun r h=>(g.2 r h).2.1;unfold dX DI;rw[DG a w1 i j,(vr a e f).1,zr _ _ hoff,zt _ _ hoff];by_cases hn:nk a
 ·rw[M4 hn,M3,QM rfl,QM hn,hc hn];by_cases hct:a.ML=true
  ·rw[QM hct,QM hct];by_cases ht:a.MI=true
   ·rw[QM ht,QM ht,M3];by_cases hp:nl a
    ·rw[M4 hp,QM rfl,QM hp];by_cases hl:(a.Mg.length:Int)=1
     ·obtain⟨r,c,d,r1,r2⟩:=hr hl;rw[QM hl,QM hl,r1];by_cases hf:iL a.Mg=0
      ·simp only[QM hf,M3,r2];split <;> rfl
      ·simp only[QO hf,M3]
     ·rw[QO hl,QO hl]
    ·rw[M5 hp,QO QJ,QO hp]
   ·rw[QO ht,QO ht]
  ·rw[QO hct,QO hct,M3];by_cases hp:nl a
   ·rw[M4 hp,QM rfl,QM hp];by_cases hf:iL a.Mg=0
    ·simp only[QM hf,M3]
    ·simp only[QO hf,M3]
   ·rw[M5 hp,QO QJ,QO hp]
 ·rw[M5 hn,M3,QO QJ,QO hn]
theorem rchk (a:Bat) (hw:Aw a) (hb:a.Mg.length<=1000000) (hh: ∀ r,r∈a.Mg->r.Ms.length<=1000000) (cr b:Int) (hc:nk a->f8 a=some b) (hr:(a.Mg.length:Int)=1-> ∃ r c d,a.Mg[0]? = some r/\iZ r=some (c,d,cr)):dq a=some (DI a cr b):=by
 obtain⟨w1,n,o,p,q,s,t,u,v,e,f,m⟩:=hw;obtain⟨z,hz⟩:=zu a hb hh 0 a.Mg 0 (((a.Mg.length:Int)).toNat+1) rfl QI;have w:=w1.1;have x:=w1.2;unfold dq DI;rw[uR,uR,(vr a e f).2];simp only[zw];rw[hz];by_cases hn:nk a
 ·obtain⟨y,k,l,A,B,C⟩:=id hn;rw[QO (show ¬ a.ME<0 by omega),M4 k,M3,QM rfl,M4 l,M3,QM rfl,QM (show (A0 (9223372036854775807 - a.ME)) by omega),QO (show ¬ a.MC>9223372036854775807 - a.ME by omega),QO (show ¬ a.Mr<0 by omega),QO (show ¬ a.MK<0 by omega),QM hn,hc hn];by_cases hct:a.ML=true
  ·rw[QM hct,QM hct];by_cases ht:a.MI=true
   ·rw[QM ht,QM ht,M3];by_cases hp:nl a
    ·rw[M4 hp,QM rfl,QM hp];by_cases hl:(a.Mg.length:Int)=1
     ·obtain⟨r,c,d,r1,r2⟩:=hr hl;rw[QM hl,QM hl,r1];by_cases hf:iL a.Mg=0
      ·simp only[QM hf,M3,r2];split <;> rfl
      ·simp only[QO hf,M3]
     ·rw[QO hl,QO hl]
    ·rw[M5 hp,QO QJ,QO hp]
   ·rw[QO ht,QO ht]
  ·rw[QO hct,QO hct,M3];by_cases hp:nl a
   ·rw[M4 hp,QM rfl,QM hp];by_cases hf:iL a.Mg=0
    ·simp only[QM hf,M3]
    ·simp only[QO hf,M3]
   ·rw[M5 hp,QO QJ,QO hp]
 ·rw[QO hn];unfold nk at hn;by_cases g:a.ME<0
  ·rw[QM g]
  rw[QO g,M3];by_cases c2: -1<=a.MA/\a.MA<=2147483647
  ·rw[M4 c2,QM rfl,M3];by_cases h:0<=a.MC/\a.MC<=2147483647
   ·rw[M4 h,QM rfl,QM (show (A0 (9223372036854775807 - a.ME)) by omega)];by_cases i:a.MC>9223372036854775807 - a.ME
    ·rw[QM i]
    rw[QO i];by_cases j:a.Mr<0
    ·rw[QM j]
    rw[QO j,QM (show a.MK<0 by omega)]
   ·rw[M5 h,QO QJ]
  ·rw[M5 c2,QO QJ]
theorem DJ (a:Bat) (hw:Aw a) (hb:a.Mg.length<=1000000) (hr: ∀ r,r∈a.Mg->r.Ms.length<=1000000/\r.MD.data.length<=1000000/\r.Mu.data.length<=1000000): ∃ cr b,dX a=some (DI a cr b)/\dq a=some (DI a cr b)/\(nk a->d7 a=some b)/\((a.Mg.length:Int)=1-> ∃ r c d,a.Mg[0]? = some r/\dW r=some (c,d,cr)/\iZ r=some (c,d,cr)):=by
 have htim: ∀ r,r∈a.Mg->wI r.MH:=fun r h=>(hw.2.2.2.2.2.2.2.2.2.2.2.2 r h).1;have hF:=hw.2.2.2.2.2.2.1;obtain⟨b,he⟩: ∃ b,nk a->d7 a=some b/\f8 a=some b:=by
  by_cases hn:nk a
  ·obtain⟨b,e,g⟩:=xI a hn.2.2.2.2.1 hF.2 hb htim;exact⟨b,fun _=>⟨e,g⟩⟩
  ·exact⟨0,fun h=>absurd h hn⟩
 obtain⟨cr,hcr⟩: ∃ cr,(a.Mg.length:Int)=1-> ∃ r c d,a.Mg[0]? = some r/\dW r=some (c,d,cr)/\iZ r=some (c,d,cr):=by
  by_cases hl:(a.Mg.length:Int)=1
  ·obtain⟨r,hrec⟩: ∃ r,a.Mg = [r]:=List.length_eq_one_iff.1 QI;have f:=hr r (by rw[hrec]; exact .head _);obtain⟨c,d,j,i⟩:=AJ r f.2.1 f.2.2;have k:=AE r QI QI;exact⟨j,fun _=>⟨r,c,d,by rw[hrec]; rfl,i,by rw[<- k]; exact i⟩⟩
  ·exact⟨0,fun h=>absurd h hl⟩
 refine⟨cr,b,bchk a hw cr b (fun h=>(he h).1) (fun h=> ?_),rchk a hw hb (fun r h=>(hr r h).1) cr b (fun h=>(he h).2) (fun h=> ?_),fun h=>(he h).1,hcr⟩
 ·obtain⟨r,c,d,e,g,f⟩:=hcr h;exact⟨r,c,d,e,g⟩
 ·obtain⟨r,c,d,e,g,f⟩:=hcr h;exact⟨r,c,d,e,f⟩
theorem Pr.bind_assoc {α β γ:Type} (p:Pr α) (f:α->Pr β) (g:β->Pr γ):(p.bind f).bind g=p.bind fun a=>(f a).bind g:=by
 funext s q;unfold Pr.bind
 cases p s q with
 | error e=>rfl
 | ok x=>rfl
theorem Pr.ret_bind {α β:Type} (a:α) (f:α->Pr β):(Pr.ret a).bind f=f a:=by
 funext s q;rfl
def rR:List Nat->Pr (List Int)
 | []=> .ret []
 | k::ks=>(bP k).bind fun a=>(rR ks).bind fun l=> .ret (a::l)
def sB:List Nat->List Int->AI
 | k::ks,x::xs=>be x k++sB ks xs
 | _,_ => []
def okI:List Nat->List Int->Prop
 | [],[]=>True
 | k::ks,x::xs=>bG x k=true/\okI ks xs
 | _,_=>False
theorem rj: ∀ ks:List Nat,(∀ k,k∈ks->1<=k/\k<=8)->Sp (rR ks) (sB ks) (okI ks)
 | [],_=>by
  refine⟨fun s q l r hq h=> ?_,fun s t q l hq hl hd=> ?_⟩
  ·injection h with h;obtain⟨rfl,rfl⟩:=NE h;exact⟨NA _,hq,rfl,by simp[sB],trivial⟩
  ·cases l with
   | nil=>rfl
   | cons x xs=>exact nomatch hl
 | k::ks,hk=>by
  have hp:=bW k (hk k (List.mem_cons_self ..)).1 (hk k (List.mem_cons_self ..)).2;have ih:=rj ks (fun j hj=>hk j (List.mem_cons_of_mem _ hj));refine⟨fun s q l r hq h=> ?_,fun s t q l hq hl hd=> ?_⟩
  ·obtain⟨a,m,b,c⟩:=Pr.bind_ok h;obtain⟨xs,f,g,d⟩:=Pr.bind_ok c;injection d with d;obtain⟨rfl,rfl⟩:=NE d;obtain⟨a1,a2,a3,a4,a5⟩:=hp.spell s q a m hq b;obtain⟨p,i,u,n,o⟩:=ih.spell s m xs f a2 g;exact⟨by omega,i,by simp only[sB,M8]; omega,by rw[n,a4,sB,Nd],a5,o⟩
  ·cases l with
   | nil=>exact nomatch hl
   | cons x xs =>
    rw[sB,Nd] at hd;have b:=hp.back s _ q x hq hl.1 hd;have e:=congrArg List.length hd;rw[Nb,M8] at e;have c:=ih.back s t _ xs QI hl.2 (cI hd);rw[rR,Pr.bind_of b,Pr.bind_of c,sB,M8,<- Nat.add_assoc];rfl
def KS:List Nat := [8,4,4,1,4,2,4,8,8,8,2,4,4]
theorem B7: ∀ k,k∈KS->1<=k/\k<=8:=by decide
def s32 (n:Int):Int:=if n>2147483647 then n - 4294967296 else n
def toL (p:Pfx):List Int := [p.ME,p.MB,p.MA,2,s32 p.MQ,p.MO,p.MC,p.Mr,p.MK,p.Md,p.Mf,p.Mv,p.MR]
def ckE (b m ct:Int):Int:=if m=2 then (if b<49 then 4 else if ct<0 then 10 else 0) else 6
def chkP:List Int->Pr Pfx
 | [a,b,c,m,s,at',la,fi,mx,pr,ep,sq,ct]=>if ckE b m ct=0 then .ret ⟨a,b,c,s % 4294967296,at',la,fi,mx,pr,ep,sq,ct⟩ else .err (ckE b m ct)
 | _=> .err 1
def xJ:Pr Pfx:=(rR KS).bind chkP
def rI (p:Pfx):AI:=sB KS (toL p)
def okP (p:Pfx):Prop:=okI KS (toL p)/\(0<=p.MQ/\p.MQ<=4294967295)/\49<=p.MB/\0<=p.MR
theorem EJ: ∀ {ks:List Nat} {l:List Int},okI ks l->l.length=ks.length
 | [],[],_=>rfl
 | k::ks,x::xs,h=>by rw[Ng,Ng,EJ h.2]
 | [],_ :: _,h=>nomatch h
 | _ :: _,[],h=>nomatch h
theorem B8: ∀ {ks:List Nat} {l:List Int},okI ks l->(sB ks l).length=ks.sum
 | [],[],_=>rfl
 | k::ks,x::xs,h=>by rw[sB,M8,aZ,B8 h.2,List.sum_cons]
 | [],_ :: _,h=>nomatch h
 | _ :: _,[],h=>nomatch h
theorem len13 {l:List Int} (h:l.length=13): ∃ a b c m s t la fi mx pr ep sq ct,l = [a,b,c,m,s,t,la,fi,mx,pr,ep,sq,ct]:=by
 match l,h with
 | [a,b,c,m,s,t,la,fi,mx,pr,ep,sq,ct],_=>exact⟨a,b,c,m,s,t,la,fi,mx,pr,ep,sq,ct,rfl⟩
theorem Hz {s:Int} (h:bG s 4=true):s32 (s % 4294967296)=s:=by
 rw[jX] at h;have:=of_decide_eq_true h;unfold s32;split <;> omega
theorem JE {s:Int} (h:0<=s/\s<=4294967295):s32 s % 4294967296=s:=by
 unfold s32;split <;> omega
theorem HJ {b m ct:Int} (h:ckE b m ct=0):m=2/\49<=b/\0<=ct:=by
 unfold ckE at h;by_cases a:m=2
 ·rw[QM a] at h;by_cases c:b<49
  ·rw[QM c] at h; cases h
  ·rw[QO c] at h;by_cases d:ct<0
   ·rw[QM d] at h; cases h
   ·exact⟨a,by omega,by omega⟩
 ·rw[QO a] at h; cases h
theorem ckE_of {b ct:Int} (a:49<=b) (c:0<=ct):ckE b 2 ct=0:=by
 unfold ckE;rw[QM rfl,QO QI,QO QI]
theorem xK:Sp xJ rI okP:=by
 refine⟨fun s q p r hq h=> ?_,fun s t q p hq hp hd=> ?_⟩
 ·obtain⟨l,m,f,d⟩:=Pr.bind_ok h;obtain⟨a1,a2,a3,a4,a5⟩:=(rj KS B7).spell s q l m hq f;obtain⟨a,b,c,mg,sm,t,la,fi,mx,pr,ep,sq,ct,rfl⟩:=len13 (EJ a5);have hs:bG sm 4=true:=a5.2.2.2.2.1;unfold chkP at d;dsimp only at d;by_cases hc:ckE b mg ct=0
  ·rw[QM hc] at d;injection d with d;obtain⟨rfl,rfl⟩:=NE d;obtain⟨rfl,c2,g⟩:=HJ hc;have e:toL ⟨a,b,c,sm % 4294967296,t,la,fi,mx,pr,ep,sq,ct⟩ = [a,b,c,2,sm,t,la,fi,mx,pr,ep,sq,ct]:=by
    unfold toL;rw[Hz hs]
   unfold rI okP;rw[e];exact⟨a1,a2,a3,a4,a5,by show 0<=sm % 4294967296/\sm % 4294967296<=4294967295; omega,c2,g⟩
  ·rw[QO hc] at d;exact nomatch d
 ·have f:=(rj KS B7).back s t q (toL p) hq hp.1 hd;rw[xJ,Pr.bind_of f];unfold toL chkP;dsimp only;rw[QM (ckE_of hp.2.2.1 hp.2.2.2),JE hp.2.1];rfl
theorem and32 (n:Int):Go.bits .and .i64 n 4294967295=n % 4294967296:=by
 rw[show (4294967295:Int)=((4294967295:Nat):Int) from rfl,Am n _ QJ,show (4294967295:Nat)=2 ^ 32 - 1 from rfl,Nat.and_two_pow_sub_one_eq_mod];omega
def zP:Pfx:=⟨0,0,0,0,0,0,0,0,0,0,0,0⟩
def HK (a b c m s t la fi mx pr ep sq ct:Int) (st:I):Option (Pfx×I):=(iG st).bind fun (o,d)=>(if o=0 then ((if m=2 then ((if b<49 then ((ci d 4).bind fun f=>some f) else ((if ct<0 then ((ci d 10).bind fun g=>some g) else some d).bind fun h=>some h)).bind fun i=>some i) else ((ci d 6).bind fun j=>some j)).bind fun k=>some k) else some d).bind fun l=>(iG l).bind fun (n,e)=>if n=0 then (some ((⟨a,b,c,(Go.bits .and .i64 s 4294967295),t,la,fi,mx,pr,ep,sq,ct⟩:Pfx),e)) else (some ((⟨0,0,0,0,0,0,0,0,0,0,0,0⟩:Pfx),e))
theorem B_tail (a b c m s t la fi mx pr ep sq ct:Int):CB (HK a b c m s t la fi mx pr ep sq ct) (chkP [a,b,c,m,s,t,la,fi,mx,pr,ep,sq,ct]) zP:=by
 refine Az (fun st h=> ?_) (fun st h=> ?_)
 ·unfold HK;rw[bx,M3];dsimp only;rw[QO h,M3,bx,M3];dsimp only;rw[QO h];rfl
 ·obtain⟨l,q,e⟩:=st;obtain rfl:e=0:=h;unfold HK ckE;rw[bx,M3];dsimp only;rw[QM rfl,and32];by_cases d:m=2
  ·rw[QM d,QM d];by_cases f:b<49
   ·rw[QM f,QM f,QO QJ]; rfl
   ·rw[QO f,QO f];by_cases g:ct<0
    ·rw[QM g,QM g,QO QJ]; rfl
    ·rw[QO g,QO g,QM rfl]; rfl
  ·rw[QO d,QO d,QO QJ]; rfl
theorem B_pfx:CB (fun st=>lC st) xJ zP:=by
 have w: ∀ {p:Pr Int} (s:AI) (q:Nat) (a:Int) (r:Nat),s.length<=1000000->q<=s.length->p s q= .ok (a,r)->(fun _:Int=>True) a:=fun _ _ _ _ _ _ _=>trivial
 have h:=CB.bind (fun _=>True) Q8.cb w trivial fun a _=>CB.bind (fun _=>True) Q4.cb w trivial fun b _=>CB.bind (fun _=>True) Q4.cb w trivial fun c _=>CB.bind (fun _=>True) Q1.cb w trivial fun m _=>CB.bind (fun _=>True) Q4.cb w trivial fun s _ =>
  CB.bind (fun _=>True) Q2.cb w trivial fun t _=>CB.bind (fun _=>True) Q4.cb w trivial fun la _=>CB.bind (fun _=>True) Q8.cb w trivial fun fi _=>CB.bind (fun _=>True) Q8.cb w trivial fun mx _=>CB.bind (fun _=>True) Q8.cb w trivial fun pr _ =>
  CB.bind (fun _=>True) Q2.cb w trivial fun ep _=>CB.bind (fun _=>True) Q4.cb w trivial fun sq _=>CB.bind (fun _=>True) Q4.cb w trivial fun ct _=>B_tail a b c m s t la fi mx pr ep sq ct
 refine (h.congr (fun st=>rfl)).pr ?_;unfold xJ KS;simp only[rR,Pr.bind_assoc,Pr.ret_bind]
def wrI:List Nat->List Int->AI×Int->Option (AI×Int)
 | k::ks,x::xs,st=>(ed st x (k:Int)).bind fun st=>wrI ks xs st
 | _,_,st=>some st
theorem HU: ∀ (ks:List Nat) (l:List Int) (t:AI),okI ks l->t.length+ks.sum<=1000000->wrI ks l (t,0)=some (t++sB ks l,0)
 | [],[],t,_,_=>by unfold wrI sB; rw[Nx]
 | [],_ :: _,_,h,_=>nomatch h
 | _ :: _,[],_,h,_=>nomatch h
 | k::ks,x::xs,t,h,hl=>by
  rw[List.sum_cons] at hl;rw[wrI,Jp h.1 QI,M3,Nu,HU ks xs _ h.2 (by rw[M8,aZ]; omega),sB,Nd]
def w32 (n:Int):Int:=IntKind.i32.wrap (IntKind.u32.wrap n)
theorem JF (n:Int): -2147483648<=w32 n/\w32 n<=2147483647:=by
 unfold w32;rw[IntKind.wrap_i32];omega
theorem w32_s {n:Int} (h:0<=n/\n<=4294967295):w32 n=s32 n:=by
 unfold w32 s32;rw[IntKind.wrap_i32,IntKind.wrap_u32];split <;> omega
def toW (p:Pfx):List Int := [p.ME,p.MB,p.MA,2,w32 p.MQ,p.MO,p.MC,p.Mr,p.MK,p.Md,p.Mf,p.Mv,p.MR]
theorem HX (st:AI×Int) (p:Pfx):fe st p=wrI KS (toW p) (if p.MQ<0\/p.MQ>4294967295 then mH st 11 else st):=by
 have hw:=JF p.MQ;unfold fe;have e:((if p.MQ<0 then some true else (if p.MQ>4294967295 then some true else some false)).bind fun b=>(if b=true then ((lX st 11).bind fun a=>some a) else some st))=some (if p.MQ<0\/p.MQ>4294967295 then mH st 11 else st):=by
  by_cases c:p.MQ<0
  ·rw[QM c,M3,QM rfl,QM (.inl c)]; rfl
  ·rw[QO c];by_cases d:p.MQ>4294967295
   ·rw[QM d,M3,QM rfl,QM (.inr d)]; rfl
   ·rw[QO d,M3,QO QJ,QO QI]
 have f: ∀ (K:AI×Int->Option (AI×Int)),((if p.MQ<0 then some true else (if p.MQ>4294967295 then some true else some false)).bind fun b=>(if b=true then ((lX st 11).bind fun a=>some a) else some st).bind K)=K (if p.MQ<0\/p.MQ>4294967295 then mH st 11 else st):=by
  intro K;rw[<- Option.bind_assoc,e,M3]
 rw[f];show (if A0 (w32 p.MQ) then _ else _)= _;rw[QM QI];rfl
def okWp (p:Pfx):Prop:=okI KS (toL p)/\0<=p.MQ/\p.MQ<=4294967295
theorem xL {p:Pfx} (h:okI KS (toL p)):(rI p).length=61:=by
 unfold rI;rw[B8 h];rfl
theorem H5 {p:Pfx} (t:AI) (h:okWp p) (ht:t.length<=900000):fe (t,0) p=some (t++rI p,0):=by
 have e:toW p=toL p:=by
  unfold toW toL;rw[w32_s h.2]
 have a:=h.2;rw[HX,QO QI,e];exact HU KS (toL p) t h.1 (by show t.length+61<= _; omega)
def nS (p:Pfx):List Int := [p.ME,p.MB,p.MA,p.MQ,p.MO,p.MC,p.Mr,p.MK,p.Md,p.Mf,p.Mv,p.MR]
theorem lu {st:I} (h:st.err≠0):cW st=some (⟨false,[]⟩,st):=QV.dead st h
theorem JG {st:I} (h:st.err≠0):wP st=some ([],st):=QN.dead st h
theorem DK:CQ pE (jm 32) 0:=(At 32 (.inl rfl)).cq (jU 32 (.inl rfl))
theorem ww {st:I} (h:st.err≠0):pE st=some (0,st):=DK.dead st h
def nT (each:Nat):Pr Int:=(jm 32).bind (jR each)
theorem xM {each:Nat} {s:AI} {q r:Nat} {n:Int} (hq:q<=s.length) (h:nT each s q= .ok (n,r)):0<=n/\(0<each->n*each<=((s.length - r:Nat):Int))/\q<=r/\r=q+(eR (bX n)).length/\r<=s.length/\s.take r=s.take q++eR (bX n)/\bX n<2 ^ (32:Int).toNat:=by
 obtain⟨m,r',a,h⟩:=Pr.bind_ok h;obtain⟨a1,a2,a3,a4,a5⟩:=(jU 32 (.inl rfl)).spell _ _ _ _ hq a;unfold jR at h;split at h
 ·exact nomatch h
 ·rename_i hn;split at h
  ·exact nomatch h
  ·rename_i he;injection h with h;obtain⟨rfl,rfl⟩:=NE h;refine⟨by omega,fun hz=> ?_,a1,a3,a2,a4,a5⟩;have:m<=((s.length - r':Nat):Int) / each:=by
    rcases Int.lt_or_le (((s.length - r':Nat):Int) / each) m with g | g
    ·exact absurd ⟨hz,g⟩ he
    ·exact g
   exact (Int.le_ediv_iff_mul_le QI).1 this
theorem DL {each:Nat} {s t:AI} {q:Nat} {n:Int} (hq:q<=s.length) (hf:bX n<2 ^ (32:Int).toNat) (hn:0<=n) (h:s.drop q=eR (bX n)++t) (hl:0<each->n*each<=t.length):nT each s q= .ok (n,q+(eR (bX n)).length):=by
 have g:=(jU 32 (.inl rfl)).back s t q n hq hf h;rw[nT,Pr.bind_of g];unfold jR;have hlen:=congrArg List.length h;rw[Nb,M8] at hlen;rw[QO QI,QO];rintro⟨hz,hc⟩;have:=(Int.le_ediv_iff_mul_le (show (0:Int)<each by omega)).2 (hl hz);rw[show s.length - (q+(eR (bX n)).length)=t.length by omega] at hc;omega
def xN {α:Type} (each:Nat) (p:Pr α):Pr (List α):=(nT each).bind fun n=>dE p n.toNat
theorem JH {α:Type} {p:Pr α} {enc:α->AI} {ok:α->Prop} (each:Nat) (hp:Sp p enc ok) (he: ∀ x,ok x->each<=(enc x).length):Sp (xN each p) (fun l=>eR (bX (l.length:Int))++dF enc l) (fun l=>bX (l.length:Int)<2 ^ (32:Int).toNat/\ ∀ x,x∈l->ok x):=by
 refine⟨fun s q a r hq h=> ?_,fun s t q a hq ha h=> ?_⟩
 ·obtain⟨n,i,b,h⟩:=Pr.bind_ok h;obtain⟨a1,a2,a3,a4,a5,a6,a7⟩:=xM hq b;obtain⟨j,c,k,d,m,e⟩:=(uM hp n.toNat).spell _ _ _ _ a5 h;have hn:(a.length:Int)=n:=by omega
  refine⟨by omega,c,by rw[M8,hn]; omega,by rw[d,a6,hn,Nd],by rw[hn]; exact a7,e⟩
 ·rw[Nd] at h;have hl:=congrArg List.length h;rw[Nb,M8,M8] at hl;have b:=DL (each:=each) hq ha.1 QI h (fun _=>by
   have:=jV he a ha.2;rw[M8,Int.natCast_add,<- Int.natCast_mul];omega)
  have f:=cI h;have g:=(uM hp a.length).back _ _ _ _ QI ⟨rfl,ha.2⟩ f;rw[xN,Pr.bind_of b,Nu,g,M8];simp only[Nat.add_assoc]
theorem F7 (each:Nat):Sh (nT each):=(Er 32 (.inl rfl)).bind (jU 32 (.inl rfl)) (Es each)
theorem JI {α:Type} {p:Pr α} {enc:α->AI} {ok:α->Prop} (each:Nat) (hs:Sh p) (hp:Sp p enc ok):Sh (xN each p):=by
 intro s q j h;unfold xN Pr.bind;rw[F7 each s q j h]
 cases hx:nT each (s.drop q) j with
 | error e=>rfl
 | ok x =>
  have:=(xM (by rw[Nb]; omega) hx).2.2.2.2.1;rw[Nb] at this;exact Du hs hp x.1.toNat s q x.2 QI
def pHd:Pr Hd:=lR.bind fun k=>ir.bind fun v=> .ret ⟨k,v⟩
def kX (h:Hd):AI:=(eR (bX (h.MD.length:Int))++h.MD)++(eR (bX (blen h.Mu))++h.Mu.data)
def okHd (h:Hd):Prop:=bX (h.MD.length:Int)<2 ^ (32:Int).toNat/\bX (blen h.Mu)<2 ^ (32:Int).toNat/\bM h.Mu=true
theorem Sp_hd:Sp pHd kX okHd:=by
 refine⟨fun s q a r hq h=> ?_,fun s t q a hq ha h=> ?_⟩
 ·obtain⟨k,j,b,h⟩:=Pr.bind_ok h;obtain⟨v,l,c,h⟩:=Pr.bind_ok h;injection h with h;obtain⟨rfl,rfl⟩:=NE h;obtain⟨a1,a2,a3,a4,a5⟩:=nR.spell _ _ _ _ hq b;obtain⟨m,d,n,e,f⟩:=gU.spell _ _ _ _ a2 c;exact⟨by omega,d,by simp only[kX,M8] at *; omega,by rw[e,a4]; simp only[kX,Nd],a5.1,f⟩
 ·obtain⟨a1,a2,a3⟩:=ha;have hl:=congrArg List.length h;rw[kX,Nd] at h;have g:=nR.back _ _ _ _ hq ⟨a1,rfl⟩ h;have h:=cI h;have i:=gU.back _ _ _ _ (by simp only[kX,Nb,M8] at *; omega) ⟨a2,a3⟩ h;rw[pHd,Pr.bind_of g,Pr.bind_of i];simp only[Pr.ret,kX,M8,Nat.add_assoc]
theorem H6 (h:Hd) (ho:okHd h):2<=(kX h).length:=by
 have a:=mI (bX (h.MD.length:Int));have b:=mI (bX (blen h.Mu));simp only[kX,M8];omega
def tw:Pr (List Hd):=xN 2 pHd
theorem DM:Sp tw (fun l=>eR (bX (l.length:Int))++dF kX l) (fun l=>bX (l.length:Int)<2 ^ (32:Int).toNat/\ ∀ h,h∈l->okHd h):=JH 2 Sp_hd H6
theorem Sh_hd:Sh pHd:=Js.bind nR fun k=>zd.bind gU fun v=> .ret _
theorem Sh_hds:Sh tw:=JI 2 Sh_hd Sp_hd
theorem EK (n:Int) (s:AI) (hs:s.length<=1000000) (hn:n<=1000000): ∀ (m fuel k:Nat) (acc:List Hd) (q:Nat),((k+m:Nat):Int)=n->m<fuel->q<=s.length->acc.length=k ->
 (∃ (e:Int) (st:I),dE pHd m s q= .error e/\dB n fuel [] acc k ⟨s.drop q,q,0⟩=some (.ret ([],st))/\st.err=e/\st.err≠0) \/
 (∃ l r,dE pHd m s q= .ok (l,r)/\dB n fuel [] acc k ⟨s.drop q,q,0⟩=some (.go ([],acc++l,k+m,⟨s.drop r,r,0⟩))/\q<=r/\r<=s.length)
 | 0,fuel+1,k,acc,q,o,p,b,h=> .inr ⟨[],q,rfl,by rw[dB,QO QI,Nx]; rfl,NA _,b⟩
 | m+1,fuel+1,k,acc,q,o,p,b,h=>by
  rw[dB,QM QI];rcases QN.run s q b with⟨e,st,a,c,t,d⟩ | ⟨nm,u,a,c,z,w⟩
  ·left;refine⟨e,st,by rw[dE,Pr.bind_err (show pHd s q= .error e from Pr.bind_err a)],?_,t,d⟩;rw[c,M3];simp only;rw[lu d,M3];simp only;rw[QM QI,bx,M3];simp only;rw[QO d]
  rw[c,M3];simp only;rcases QV.run s u w with⟨e,st,f,g,x,i⟩ | ⟨v,j,f,g,A,y⟩
  ·left;have ht:pHd s q= .error e:=by rw[pHd,Pr.bind_of a,Pr.bind_err f]
   refine⟨e,st,by rw[dE,Pr.bind_err ht],?_,x,i⟩;rw[g,M3];simp only;rw[QM QI,bx,M3];simp only;rw[QO i]
  rw[g,M3];simp only;rw[QM QI,bx,M3];simp only[if_true];rw[QM QI];have ht:pHd s q= .ok (⟨nm,v⟩,j):=by rw[pHd,Pr.bind_of a,Pr.bind_of f]; rfl
  rw[dE,Pr.bind_of ht];rcases EK n s hs hn m fuel (k+1) (acc ++ [(⟨nm,v⟩:Hd)]) j QI QI y (by rw[M8,h]; rfl) with⟨e,st,r1,r2,r3,r4⟩ | ⟨l,r,r1,r2,r3,r4⟩
  ·exact .inl ⟨e,st,by rw[Pr.bind_err r1],r2,r3,r4⟩
  ·refine .inr ⟨⟨nm,v⟩::l,r,by rw[Pr.bind_of r1]; rfl,?_,by omega,r4⟩;rw[r2,Nd,show k+1+m=k+(m+1) by omega];rfl
theorem B_hds:CB bY tw []:=by
 refine⟨fun st h=> ?_,fun s q hs hq=> ?_⟩
 ·unfold bY;rw[ww h,M3];simp only;rw[bx,M3];simp only;rw[QO h]
 ·unfold bY;rcases DK.run s q hq with⟨e,st,b,d,g,f⟩ | ⟨c,a,b,d,j,i⟩
  ·refine .inl ⟨e,st,Pr.bind_err (Pr.bind_err b),?_,g,f⟩;rw[d,M3];simp only;rw[bx,M3];simp only;rw[QO f]
  ·rw[d,M3];simp only;rw[bx,M3];simp only[if_true];have hd:(s.drop a).length=s.length - a:=Nb;have hE:tw s q=((jR 2 c).bind fun n=>dE pHd n.toNat) s a:=by
    unfold tw xN nT Pr.bind;rw[b]
   rw[hE];unfold Pr.bind jR;by_cases hn:c<0
   ·rw[QM hn,QM hn];exact .inl ⟨4,_,rfl,rfl,rfl,by simp[dw]⟩
   rw[QO hn,QO hn,sO,M3];simp only;rw[hd,QM (show 0<=((s.length - a:Nat):Int)/\((s.length - a:Nat):Int)<=9223372036854775807 by omega)];by_cases hc:0<2/\((s.length - a:Nat):Int) / ((2:Nat):Int)<c
   ·have hc2:c>((s.length - a:Nat):Int) / 2:=hc.2;rw[QM hc,QM hc2];exact .inl ⟨1,_,rfl,rfl,rfl,by simp[dw]⟩
   ·have hc2: ¬ c>((s.length - a:Nat):Int) / 2:=fun h=>hc ⟨by decide,h⟩;rw[QO hc,QO hc2];simp only;rcases EK c s hs QI c.toNat (c.toNat+1) 0 [] a QI QI i rfl with⟨e,st,r1,r2,r3,r4⟩ | ⟨l,r,r1,r2,r3,r4⟩
    ·exact .inl ⟨e,st,r1,by rw[r2]; rfl,r3,r4⟩
    ·refine .inr ⟨l,r,r1,?_,by omega,r4⟩;rw[r2,Nm];rfl
theorem DN (s:AI) (q:Nat) (bs:Int) (hb:bs=32\/bs=64) (hq:q<=s.length) (hs:s.length<=1000000) :
 (∃ e,jQ bs s q= .error e/\e≠0/\vm (s.drop q) bs=some (0,0,e))\/(∃ (n r:Nat),jQ bs s q= .ok (n,r)/\q<=r/\r<=s.length/\n<2 ^ bs.toNat/\vm (s.drop q) bs=some ((n:Int),((r - q:Nat):Int),0)):=by
 rw[GF _ _ ⟨hb,by rw[Nb]; omega⟩];unfold jY;by_cases he:(vgo bs (s.drop q) 0 0 0).2.err=0
 ·have hp:jQ bs s q= .ok ((vgo bs (s.drop q) 0 0 0).1,q+(vgo bs (s.drop q) 0 0 0).2.pos):=by unfold jQ; rw[QM he]
  have hs:=(wq bs hb).spell _ _ _ _ hq hp;rw[QM he];exact .inr ⟨_,_,hp,hs.1,hs.2.1,hs.2.2.2.2,by simp only; rw[show q+(vgo bs (s.drop q) 0 0 0).2.pos - q=(vgo bs (s.drop q) 0 0 0).2.pos by omega]⟩
 ·have hp:jQ bs s q= .error (vgo bs (s.drop q) 0 0 0).2.err:=by unfold jQ; rw[QO he]
  rw[QO he];exact .inl ⟨_,hp,he,rfl⟩
theorem zx (n:Int) (s:AI) (hs:s.length<=1000000): ∀ (m fuel k:Nat) (acc:List Hd) (q:Nat),((k+m:Nat):Int)=n->m<fuel->n<=1000000->q<=s.length->acc.length=k ->
 fA s n fuel [] 0 0 (q:Int) acc k=some (match dE pHd m s q with | .error e=> .ret ([],0,e) | .ok (l,r)=> .go ([],0,0,(r:Int),acc++l,k+m))
 | 0,fuel+1,k,acc,q,u,w,hn,j,o=>by
  rw[fA,QO QI];simp[dE,Pr.ret]
 | m+1,fuel+1,k,acc,q,u,w,hn,j,o=>by
  rw[fA,QM QI,QM QI,Nu,kq _ (by rw[Nb]; omega),M3];rcases oU s q j with⟨e,f,p,g⟩ | ⟨b,c,f,p,g,y⟩
  ·have ht:pHd s q= .error e:=by rw[pHd,Pr.bind_err]; rw[lR,fW,Pr.bind_err f]
   rw[g,dE,Pr.bind_err ht];simp only;rw[QO p]
  rw[y];simp only[if_true];by_cases hb:b.null=true
  ·have ht:pHd s q= .error 4:=by
    rw[pHd,Pr.bind_err];rw[lR,fW,Pr.bind_of f,QM hb];rfl
   rw[QM hb,dE,Pr.bind_err ht]
  have hx:lR s q= .ok (b.data,c):=by
   rw[lR,fW,Pr.bind_of f,QO hb];rfl
  rw[QO hb,QM QI,QM QI,show ((q:Int)+((c - q:Nat):Int))=(c:Int) by omega,Nu,kq _ (by rw[Nb]; omega),M3];rcases oU s c g with⟨e,h,t,i⟩ | ⟨v,d,h,t,i,z⟩
  ·have ht:pHd s q= .error e:=by rw[pHd,Pr.bind_of hx,Pr.bind_err h]
   rw[i,dE,Pr.bind_err ht];simp only;rw[QO t]
  rw[z];simp only[if_true];have ht:pHd s q= .ok (⟨b.data,v⟩,d):=by rw[pHd,Pr.bind_of hx,Pr.bind_of h]; rfl
  rw[QM QI,QM QI,QM QI,QM QI,show ((c:Int)+((d - c:Nat):Int))=(d:Int) by omega,dE,Pr.bind_of ht,zx n s hs m fuel (k+1) (acc ++ [(⟨b.data,v⟩:Hd)]) d QI QI hn i (by rw[M8,o]; rfl)]
  cases hr:dE pHd m s d with
  | error e=>rw[Pr.bind_err hr]
  | ok x =>
   rw[Pr.bind_of (a:=x.1) (r:=x.2) hr];simp only[Pr.ret,Nd,List.cons_append,Nm,show k+1+m=k+(m+1) by omega]
theorem H7 (s:AI) (hs:s.length<=1000000):mP s=some (match tw s 0 with | .error e=>([],0,e) | .ok (l,r)=>(l,(r:Int),0)):=by
 unfold mP;have hg:=DN s 0 32 (.inl rfl) (Nn _) hs;rw[List.drop_zero] at hg;rcases hg with⟨e,a,d,b⟩ | ⟨n,r,a,f,r1,r2,b⟩
 ·rw[b,show tw s 0= .error e from Pr.bind_err (Pr.bind_err (Pr.bind_err a)),M3];simp only;rw[QO d]
 ·have hv:jm 32 s 0= .ok (eN n,r):=by rw[jm,Pr.bind_of a]; rfl
  have hE:tw s 0=((jR 2 (eN n)).bind fun n=>dE pHd n.toNat) s r:=by
   unfold tw xN nT Pr.bind;rw[hv]
  rw[show 2 ^ (32:Int).toNat=4294967296 by decide] at r2;rw[b,M3];simp only[if_true];rw[tO _ QI,M3,Nu,hE];generalize eN n=c;unfold Pr.bind jR;by_cases hn:c<0
  ·rw[QM hn,QM hn]
  rw[QO hn,QO hn,QM (show (A0 ((s.length:Int) - ((r - 0:Nat):Int))) by omega),QM (show 0<=(s.length:Int) - ((r - 0:Nat):Int)/\(s.length:Int) - ((r - 0:Nat):Int)<=9223372036854775807 by omega),show (s.length:Int) - ((r - 0:Nat):Int)=((s.length - r:Nat):Int) by omega];by_cases hc:0<2/\((s.length - r:Nat):Int) / ((2:Nat):Int)<c
  ·have hc2:c>((s.length - r:Nat):Int) / 2:=hc.2;rw[QM hc,QM hc2]
  ·have hc2: ¬ c>((s.length - r:Nat):Int) / 2:=fun h=>hc ⟨by decide,h⟩;rw[QO hc,QO hc2];simp only;have hl:=zx c s hs c.toNat (c.toNat+1) 0 [] r QI QI QI r1 rfl;rw[show ((r - 0:Nat):Int)=(r:Int) by omega,hl]
   cases hr:dE pHd c.toNat s r with
   | error e=>rfl
   | ok x=>rfl
def hwt (h:Hd):Nat:=20+h.MD.length+h.Mu.data.length
def hwts:List Hd->Nat
 | []=>0
 | h::l=>hwt h+hwts l
theorem EL:CQ mK (jm 64) 0:=(At 64 (.inr rfl)).cq (jU 64 (.inr rfl))
theorem B9 {st:I} (h:st.err≠0):mK st=some (0,st):=EL.dead st h
theorem jp {st:I} (h:st.err≠0):en st=some (st.err,st):=by rw[gH,wH h]
def qR:Pr Unit:=fun s q=>if q=s.length then .ok ((),q) else .error 2
def xO:Rec:=⟨0,0,⟨false,[]⟩,⟨false,[]⟩,[]⟩
def rS:Pr Rec:=(bP 1).bind fun z=>if z=0 then (jm 64).bind fun t=>(jm 32).bind fun o=>if o<0 then .err 11 else ir.bind fun k=>ir.bind fun v=>tw.bind fun h=>qR.bind fun _=> .ret ⟨t,o,k,v,h⟩ else .err 8
def xP (z:I):Option (Rec×Int):=(ea z 1).bind fun (A,a)=>if A=0 then ((mK a).bind fun (f,h)=>(pE h).bind fun (b,c)=>if b<0 then ((ci c 11).bind fun i=>(cW i).bind fun (B,j)=>(cW j).bind fun (C,k)=>(bY k).bind fun (D,l)=>(en l).bind fun (E,S)=>some ((⟨f,b,B,C,D⟩:Rec),E)) else ((cW c).bind fun (F,m)=>(cW m).bind fun (G,n)=>(bY n).bind fun (H,o)=>(en o).bind fun (J,T)=>some ((⟨f,b,F,G,H⟩:Rec),J))) else ((ci a 8).bind fun p=>(mK p).bind fun (g,q)=>(pE q).bind fun (d,e)=>if d<0 then ((ci e 11).bind fun r=>(cW r).bind fun (K,s)=>(cW s).bind fun (L,t)=>(bY t).bind fun (M,u)=>(en u).bind fun (N,U)=>some ((⟨g,d,K,L,M⟩:Rec),N)) else ((cW e).bind fun (O,v)=>(cW v).bind fun (P,w)=>(bY w).bind fun (Q,x)=>(en x).bind fun (y,R)=>some ((⟨g,d,O,P,Q⟩:Rec),y)))
theorem Ca (s:AI) (hs:s.length<=1000000):(∃ e x,rS s 0= .error e/\xP ⟨s,0,0⟩=some (x,e)/\e≠0)\/(∃ x,rS s 0= .ok (x,s.length)/\xP ⟨s,0,0⟩=some (x,0)):=by
 unfold xP rS;have E:=Q1.run s 0 (Nn _);rw[List.drop_zero] at E;have hB:=B_hds;rcases E with⟨e,st,f,j,F,c⟩ | ⟨z,l,f,j,W,N⟩
 ·refine .inl ⟨e,⟨0,0,⟨false,[]⟩,⟨false,[]⟩,[]⟩,Pr.bind_err f,?_,by rw[<- F]; exact c⟩;rw[j];simp only[M3,if_true,B9 c,ww c,lu c,hB.dead _ c,jp c,F,show ¬ (0:Int)<0 by decide,if_false]
 rw[j,M3];simp only;by_cases hz:z=0
 ·rw[QM hz,Pr.bind_of f,QM hz];rcases EL.run s l N with⟨e,st,m,n,G,d⟩ | ⟨a,O,m,n,X,P⟩
  ·refine .inl ⟨e,⟨0,0,⟨false,[]⟩,⟨false,[]⟩,[]⟩,Pr.bind_err m,?_,by rw[<- G]; exact d⟩;rw[n];simp only[M3,if_true,ww d,lu d,hB.dead _ d,jp d,G,show ¬ (0:Int)<0 by decide,if_false]
  rw[n,M3,Pr.bind_of m];simp only;rcases DK.run s O P with⟨e,st,p,q,H,g⟩ | ⟨o,r,p,q,Y,Q⟩
  ·refine .inl ⟨e,⟨a,0,⟨false,[]⟩,⟨false,[]⟩,[]⟩,Pr.bind_err p,?_,by rw[<- H]; exact g⟩;rw[q];simp only[M3,if_true,lu g,hB.dead _ g,jp g,H,show ¬ (0:Int)<0 by decide,if_false]
  rw[q,M3,Pr.bind_of p];simp only;by_cases ho:o<0
  ·rw[QM ho,QM ho,dx,M3,tk];have y:(⟨s.drop r,r,11⟩:I).err≠0:=by simp
   refine .inl ⟨11,⟨a,o,⟨false,[]⟩,⟨false,[]⟩,[]⟩,rfl,?_,by decide⟩;simp only[M3,lu y,hB.dead _ y,jp y]
  rw[QO ho,QO ho];rcases QV.run s r Q with⟨e,st,t,u,J,i⟩ | ⟨k,R,t,u,n3,S⟩
  ·refine .inl ⟨e,⟨a,o,⟨false,[]⟩,⟨false,[]⟩,[]⟩,Pr.bind_err t,?_,by rw[<- J]; exact i⟩;rw[u];simp only[M3,lu i,hB.dead _ i,jp i,J]
  rw[u,M3,Pr.bind_of t];simp only;rcases QV.run s R S with⟨e,st,w,A,K,B⟩ | ⟨v,T,w,A,n4,U⟩
  ·refine .inl ⟨e,⟨a,o,k,⟨false,[]⟩,[]⟩,Pr.bind_err w,?_,by rw[<- K]; exact B⟩;rw[A];simp only[M3,hB.dead _ B,jp B,K]
  rw[A,M3,Pr.bind_of w];simp only;rcases hB.run s T hs U with⟨e,st,C,D,L,M⟩ | ⟨h,b,C,D,n5,l5⟩
  ·refine .inl ⟨e,⟨a,o,k,v,[]⟩,Pr.bind_err C,?_,by rw[<- L]; exact M⟩;rw[D];simp only[M3,jp M,L]
  rw[D,M3,Pr.bind_of C];simp only;rw[gH,M3];simp only;by_cases hq:b=s.length
  ·have he:qR s b= .ok ((),b):=by unfold qR; rw[QM hq]
   have hi:(fP ⟨s.drop b,b,0⟩).err=0:=by rw[hq,List.drop_length]; rfl
   rw[Pr.bind_of he,hi];exact .inr ⟨⟨a,o,k,v,h⟩,by rw[hq]; rfl,rfl⟩
  ·have he:qR s b= .error 2:=by unfold qR; rw[QO hq]
   have hi:(fP ⟨s.drop b,b,0⟩).err=2:=by
    unfold fP;rw[QO]
    ·rfl
    ·intro V;have:=List.drop_eq_nil_iff.1 V;omega
   rw[Pr.bind_err he,hi];exact .inl ⟨2,_,rfl,rfl,by decide⟩
 ·rw[QO hz,Pr.bind_of f,QO hz,dx,M3,tk];have y:(⟨s.drop l,l,8⟩:I).err≠0:=by simp
  refine .inl ⟨8,⟨0,0,⟨false,[]⟩,⟨false,[]⟩,[]⟩,rfl,?_,by decide⟩;simp only[M3,if_true,B9 y,ww y,lu y,hB.dead _ y,jp y,show ¬ (0:Int)<0 by decide,if_false]
def AK:Pr Rec:=fun s q=>match lR s q with
 | .error e=> .error e
 | .ok (d,r)=>match rS d 0 with
  | .error e=> .error e
  | .ok (x,_)=> .ok (x,r)
theorem zy (p c:I) (x:Rec) (e:Int) (h:xP p=some (x,e)):((ea p 1).bind fun (U,g)=>if U=0 then ((mK g).bind fun (q,v)=>(pE v).bind fun (i,j)=>if i<0 then ((ci j 11).bind fun w=>(cW w).bind fun (V,z)=>(cW z).bind fun (W,A)=>(bY A).bind fun (X,B)=>(en B).bind fun (r,ak)=>if r=0 then (some ((⟨q,i,V,W,X⟩:Rec),c)) else ((ci c r).bind fun C=>some (xO,C))) else ((cW j).bind fun (Y,D)=>(cW D).bind fun (aa,E)=>(bY E).bind fun (ab,F)=>(en F).bind fun (s,al)=>if s=0 then (some ((⟨q,i,Y,aa,ab⟩:Rec),c)) else ((ci c s).bind fun G=>some (xO,G)))) else ((ci g 8).bind fun H=>(mK H).bind fun (t,J)=>(pE J).bind fun (k,l)=>if k<0 then ((ci l 11).bind fun K=>(cW K).bind fun (ad,L)=>(cW L).bind fun (ae,M)=>(bY M).bind fun (af,N)=>(en N).bind fun (u,am)=>if u=0 then (some ((⟨t,k,ad,ae,af⟩:Rec),c)) else ((ci c u).bind fun O=>some (xO,O))) else ((cW l).bind fun (ag,P)=>(cW P).bind fun (ah,Q)=>(bY Q).bind fun (ai,R)=>(en R).bind fun (m,aj)=>if m=0 then (some ((⟨t,k,ag,ah,ai⟩:Rec),c)) else ((ci c m).bind fun n=>some (xO,n)))))=if e=0 then some (x,c) else some (xO,dw c e):=by
 unfold xP at h
 revert h
 have hop: ∀ (o:Option (List Hd×I)) (f:List Hd->Rec),((o.bind fun (a,S)=>(en S).bind fun (b,s2)=>some (f a,b))=some (x,e))->(o.bind fun (a,S)=>(en S).bind fun (b,s2)=>if b=0 then some (f a,c) else (ci c b).bind fun s3=>some (xO,s3))=if e=0 then some (x,c) else some (xO,dw c e):=by
  intro o f h
  cases o with
  | none=>exact nomatch h
  | some y =>
   rw[M3] at h ⊢;simp only[gH,M3] at h ⊢;injection h with h;obtain⟨rfl,rfl⟩:=NE h;by_cases hz:(fP y.2).err=0
   ·rw[QM hz,QM hz]
   ·rw[QO hz,QO hz];rfl
 simp only[ko,Fw,GE,CZ,dx,M3];intro h;split at h
 ·rename_i T;rw[QM T];split at h
  ·rename_i d;rw[QM d];exact hop _ (fun a=>⟨_,_,_,_,a⟩) h
  ·rename_i d;rw[QO d];exact hop _ (fun a=>⟨_,_,_,_,a⟩) h
 ·rename_i T;rw[QO T];split at h
  ·rename_i d;rw[QM d];exact hop _ (fun a=>⟨_,_,_,_,a⟩) h
  ·rename_i d;rw[QO d];exact hop _ (fun a=>⟨_,_,_,_,a⟩) h
theorem B_rec:CB iF AK xO:=by
 refine⟨fun st h=> ?_,fun s q hs hq=> ?_⟩
 ·unfold iF;rw[JG h,M3];simp only;rw[bx,M3];simp only;rw[QO h];rfl
 ·unfold iF AK;rcases QN.run s q hq with⟨e,st,a,b,j,g⟩ | ⟨d,r,a,b,k,l⟩
  ·refine .inl ⟨e,st,by rw[a],?_,j,g⟩;rw[b,M3];simp only;rw[bx,M3];simp only;rw[QO g];rfl
  ·have hsp:=nR.spell _ _ _ _ hq a;have hdl:d.length<=1000000:=by
    have:=hsp.2.2.1;rw[M8] at this;omega
   rw[b,a,M3];simp only;rw[bx,M3];simp only[if_true];rw[kn _ QI,M3];rcases Ca d hdl with⟨e,x,c,f,i⟩ | ⟨x,c,f⟩
   ·have hb:=zy ⟨d,0,0⟩ ⟨s.drop r,r,0⟩ x e f;rw[QO i] at hb;rw[c];exact .inl ⟨e,_,rfl,hb,rfl,i⟩
   ·have hb:=zy ⟨d,0,0⟩ ⟨s.drop r,r,0⟩ x 0 f;rw[QM rfl] at hb;rw[c];exact .inr ⟨x,r,rfl,hb,k,l⟩
def pJ (b:Bl):AI:=eR (bX (blen b))++b.data
def vt (l:List Hd):AI:=eR (bX (l.length:Int))++dF kX l
def eG (x:Rec):AI:=be 0 1++(eR (bX x.MH)++(eR (bX x.My)++(pJ x.MD++(pJ x.Mu++vt x.Ms))))
def okBl (b:Bl):Prop:=bX (blen b)<2 ^ (32:Int).toNat/\bM b=true
def okHs (l:List Hd):Prop:=bX (l.length:Int)<2 ^ (32:Int).toNat/\ ∀ h,h∈l->okHd h
def zz (x:Rec):Prop:=bX x.MH<2 ^ (64:Int).toNat/\(bX x.My<2 ^ (32:Int).toNat/\0<=x.My)/\okBl x.MD/\okBl x.Mu/\okHs x.Ms
theorem DO {s:AI} {x:Rec} {r:Nat} (h:rS s 0= .ok (x,r)):s=eG x/\zz x:=by
 obtain⟨z,F,c,h⟩:=Pr.bind_ok h;split at h
 ·rename_i hz;subst hz;obtain⟨t,G,d,h⟩:=Pr.bind_ok h;obtain⟨o,H,e,h⟩:=Pr.bind_ok h;split at h
  ·exact nomatch h
  ·rename_i ho;obtain⟨k,I,f,h⟩:=Pr.bind_ok h;obtain⟨v,J,g,h⟩:=Pr.bind_ok h;obtain⟨hs,b,i,h⟩:=Pr.bind_ok h;obtain⟨u,K,a,h⟩:=Pr.bind_ok h;injection h with h;obtain⟨rfl,rfl⟩:=NE h;obtain⟨-,a2,-,a4,a5⟩:=(bW 1 QJ QJ).spell _ _ _ _ (Nn _) c;obtain⟨-,j,-,l,m⟩:=(jU 64 (.inr rfl)).spell _ _ _ _ a2 d;obtain⟨-,c2,-,n,p⟩:=(jU 32 (.inl rfl)).spell _ _ _ _ j e;obtain⟨-,q,-,w,y⟩:=gU.spell _ _ _ _ c2 f;obtain⟨-,A,-,B,C⟩:=gU.spell _ _ _ _ q g;obtain⟨-,L,-,D,E⟩:=DM.spell _ _ _ _ A i;have hq:b=s.length:=by
    unfold qR at a;split at a
    ·rename_i hh; exact hh
    ·exact nomatch a
   refine⟨?_,m,⟨p,by simp only; omega⟩,y,C,E⟩;have hs2:s=s.take b:=by rw[hq,List.take_length]
   rw[hs2,D,B,w,n,l,a4];simp only[eG,pJ,vt,Nd,List.take_zero,Nm]
 ·exact nomatch h
theorem SpV:Sp ir pJ okBl:=gU
theorem SpH:Sp tw vt okHs:=DM
theorem F8 {x:Rec} (h:zz x):rS (eG x) 0= .ok (x,(eG x).length):=by
 obtain⟨c,⟨d,n⟩,e,f,g⟩:=h;have hd:(eG x).drop 0=eG x:=rfl;have hlen:(eG x).length=1+((eR (bX x.MH)).length+((eR (bX x.My)).length+((pJ x.MD).length+((pJ x.Mu).length+(vt x.Ms).length)))):=by
  simp only[eG,M8,aZ]
 generalize hE:eG x=E at hd hlen ⊢;have hh:E.drop 0=be 0 1++(eR (bX x.MH)++(eR (bX x.My)++(pJ x.MD++(pJ x.Mu++(vt x.Ms ++ []))))):=by
  rw[hd,<- hE];simp only[eG,Nx]
 have b:=(bW 1 QJ QJ).back _ _ _ 0 (Nn _) QJ hh;have hh:=cI hh;rw[aZ] at hh b;have i:=(jU 64 (.inr rfl)).back _ _ _ _ QI c hh;have hh:=cI hh;have j:=(jU 32 (.inl rfl)).back _ _ _ _ QI d hh;have hh:=cI hh;have k:=SpV.back _ _ _ _ QI e hh;have hh:=cI hh;have l:=SpV.back _ _ _ _ QI f hh;have hh:=cI hh;have m:=SpH.back _ _ _ _ QI g hh;rw[rS,Pr.bind_of b,QM rfl,Pr.bind_of i,Pr.bind_of j,QO QI,Pr.bind_of k,Pr.bind_of l,Pr.bind_of m];have he:0+1+(eR (bX x.MH)).length+(eR (bX x.My)).length+(pJ x.MD).length+(pJ x.Mu).length+(vt x.Ms).length=E.length:=by omega
 rw[he,Pr.bind_of (a:=()) (r:=E.length) (by unfold qR; rw[QM rfl])];rfl
def gY (x:Rec):AI:=eR (bX ((eG x).length:Int))++eG x
theorem AL:Sp AK gY (fun x=>zz x/\bX ((eG x).length:Int)<2 ^ (32:Int).toNat):=by
 refine⟨fun s q a r hq h=> ?_,fun s t q a hq ha h=> ?_⟩
 ·unfold AK at h
  cases hp:lR s q with
  | error e=>rw[hp] at h; exact nomatch h
  | ok y =>
   obtain⟨d,r'⟩:=y;rw[hp] at h;simp only at h;obtain⟨a1,a2,a3,a4,a5⟩:=nR.spell _ _ _ _ hq hp
   cases hb:rS d 0 with
   | error e=>rw[hb] at h; exact nomatch h
   | ok z =>
    rw[hb] at h;injection h with h;obtain⟨rfl,rfl⟩:=NE h;obtain⟨b,c⟩:=DO (x:=z.1) (r:=z.2) hb;unfold gY;rw[<- b];exact⟨a1,a2,a3,a4,c,a5.1⟩
 ·have f:=nR.back s t q (eG a) hq ⟨ha.2,rfl⟩ h;unfold AK;rw[f];simp only;rw[F8 ha.1];rfl
def gotOf (p:Except Int (Rec×Nat)) (m:Int):lZ:=match p with | .error e=>⟨xO,m,e⟩ | .ok (x,_)=>⟨x,m,0⟩
theorem Cb (e:Int):dK e=some ⟨xO,0,e⟩:=rfl
theorem uS (s:AI) (q r:Nat) (h:q<=r):(s.drop q).drop ((r - q:Nat):Int).toNat=s.drop r:=by
 rw[Nu,NM];congr 1;omega
theorem JJ {s:AI} {q:Nat} {e:Int} (hs:s.length<=1000000) (hq:q<=s.length) (h:tw s q= .error e):e≠0:=B_hds.nz s q e hs hq h
theorem H9 (s:AI) (hs:s.length<=1000000):lJ s=some (gotOf (rS s 0) 0):=by
 unfold lJ rS;simp only[Cb];by_cases j:(s.length:Int)<1
 ·rw[QM j,Pr.bind_err (e:=1) (by unfold bP; rw[QM QI])];rfl
 rw[QO j];obtain⟨c,t,rfl⟩: ∃ c t,s=c::t:=by cases s with | nil=>exact absurd (by simp) j | cons c t=>exact⟨c,t,rfl⟩
 have hc:=c.toNat_lt;have A:bP 1 (c::t) 0= .ok (sgn c,1):=by
  unfold bP;rw[QO (by simp only[Ng]; omega)];rfl
 rw[show (c::t)[0]? = some c from rfl,M3,Pr.bind_of A];by_cases hz:(c.toNat:Int)=0
 ·have i:sgn c=0:=by unfold sgn; split <;> omega
  rw[QM hz,QM i,QM (by simp only[Ng]; omega)];generalize hS:c::t=S at hs j ⊢;have hl:1<=S.length:=by omega
  rcases DN S 1 64 (.inr rfl) hl hs with⟨e,n,B,o⟩ | ⟨a,d,n,a0,a1,a2,o⟩
  ·rw[o,Pr.bind_err (show jm 64 S 1= .error e from Pr.bind_err n),M3];simp only;rw[QO B];rfl
  have v1:jm 64 S 1= .ok (eN a,d):=by rw[jm,Pr.bind_of n]; rfl
  rw[o,Pr.bind_of v1,M3];simp only[if_true];rw[QM (show (A0 (1+((d - 1:Nat):Int))) by omega),show (1+((d - 1:Nat):Int))=(d:Int) by omega,QM (show 0<=(d:Int)/\((d:Int)).toNat<=S.length by omega),Nu];rcases DN S d 32 (.inl rfl) a1 hs with⟨e,p,C,r⟩ | ⟨b,g,p,D,E,F,r⟩
  ·rw[r,Pr.bind_err (show jm 32 S d= .error e from Pr.bind_err p),M3];simp only;rw[QO C];rfl
  have v2:jm 32 S d= .ok (eN b,g):=by rw[jm,Pr.bind_of p]; rfl
  have la:a<18446744073709551616:=by rw[show 2 ^ (64:Int).toNat=18446744073709551616 by decide] at a2; exact a2
  have lb:b<18446744073709551616:=by rw[show 2 ^ (32:Int).toNat=4294967296 by decide] at F; omega
  rw[r,Pr.bind_of v2,M3];simp only[if_true];rw[tO _ QI,M3,tO _ QI,M3,show ((a:Int)).toNat=a from Nu a,show ((b:Int)).toNat=b from Nu b];generalize eN a=T;generalize eN b=O;by_cases ho:O<0
  ·rw[QM ho,QM ho];rfl
  have L:(S.drop d).length=S.length - d:=Nb;rw[QO ho,QO ho,QM (show 0<=((g - d:Nat):Int)/\(((g - d:Nat):Int)).toNat<=(S.drop d).length by omega),uS S d g D,kq _ (by rw[Nb]; omega),M3];rcases oU S g E with⟨e,u,G,w⟩ | ⟨k,h,u,H,I,w⟩
  ·rw[w,Pr.bind_err u];simp only;rw[QO G];rfl
  rw[w,Pr.bind_of u];simp only[if_true];have M:(S.drop g).length=S.length - g:=Nb;rw[QM (show 0<=((h - g:Nat):Int)/\(((h - g:Nat):Int)).toNat<=(S.drop g).length by omega),uS S g h H,kq _ (by rw[Nb]; omega),M3];rcases oU S h I with⟨e,y,J,z⟩ | ⟨v,f,y,K,v1',z⟩
  ·rw[z,Pr.bind_err y];simp only;rw[QO J];rfl
  rw[z,Pr.bind_of y];simp only[if_true];have N:(S.drop h).length=S.length - h:=Nb;have P:(S.drop f).length=S.length - f:=Nb;rw[QM (show 0<=((f - h:Nat):Int)/\(((f - h:Nat):Int)).toNat<=(S.drop h).length by omega),uS S h f K,H7 _ QI,M3];have hsh:=Sh_hds.zero (s:=S) (q:=f) v1'
  cases hp:tw (S.drop f) 0 with
  | error e =>
   rw[hp] at hsh;have he:=JJ hs v1' hsh;rw[Pr.bind_err hsh];simp only;rw[QO he];rfl
  | ok x =>
   obtain⟨l,m⟩:=x;rw[hp] at hsh;have hsh:tw S f= .ok (l,f+m):=hsh;have hm:=(DM.spell _ _ _ _ (Nn _) hp).2.1;rw[Pr.bind_of hsh];simp only[if_true];by_cases hq:(m:Int)=((S.drop f).length:Int)
   ·have he:qR S (f+m)= .ok ((),f+m):=by unfold qR; rw[QM QI]
    rw[QM hq,Pr.bind_of he];rfl
   ·have he:qR S (f+m)= .error 2:=by unfold qR; rw[QO QI]
    rw[QO hq,Pr.bind_err he];rfl
 ·have i: ¬ sgn c=0:=by unfold sgn; split <;> omega
  rw[QO hz,QO i];rfl
theorem Ia (s:AI) (q:Nat) (hq:q<=s.length) (hs:s.length<=1000000):(∃ e m,AK s q= .error e/\e≠0/\le (s.drop q)=some ⟨xO,m,e⟩)\/(∃ x r,AK s q= .ok (x,r)/\q<=r/\r<=s.length/\le (s.drop q)=some ⟨x,((r - q:Nat):Int),0⟩):=by
 unfold le AK;simp only[Cb];rw[kq _ (by rw[Nb]; omega),M3];rcases oU s q hq with⟨e,a,f,c⟩ | ⟨b,r,a,g,h,c⟩
 ·have hn:lR s q= .error e:=by rw[lR,fW,Pr.bind_err a]
  rw[c,hn];simp only;rw[QO f];exact .inl ⟨e,0,rfl,f,rfl⟩
 rw[c];simp only[if_true];by_cases hb:b.null=true
 ·have hn:lR s q= .error 4:=by rw[lR,fW,Pr.bind_of a,QM hb]; rfl
  rw[QM hb,hn];exact .inl ⟨4,0,rfl,by decide,rfl⟩
 have hn:lR s q= .ok (b.data,r):=by rw[lR,fW,Pr.bind_of a,QO hb]; rfl
 have hsp:=nR.spell _ _ _ _ hq hn;have hdl:b.data.length<=1000000:=by
  have:=hsp.2.2.1;rw[M8] at this;omega
 rw[QO hb,hn,H9 _ hdl,M3];simp only;rcases Ca b.data hdl with⟨e,x,d,i,j⟩ | ⟨x,d,i⟩
 ·rw[d];exact .inl ⟨e,_,rfl,j,rfl⟩
 ·rw[d];exact .inr ⟨x,r,rfl,g,h,rfl⟩
def rwt (x:Rec):Nat:=x.MD.data.length+x.Mu.data.length+hwts x.Ms
def Ib (a b:Hd):Bool:=decide (a.MD=b.MD) && decide (a.Mu.null=b.Mu.null) && decide (a.Mu.data=b.Mu.data)
def me:List Hd->List Hd->Bool
 | [],[]=>true
 | a::l,b::m=>Ib a b && me l m
 | _,_=>false
theorem vu: ∀ l:List Hd,me l l=true
 | []=>rfl
 | a::l=>by rw[me,vu l]; simp[Ib]
theorem xQ: ∀ (l m:List Hd),me l m=true->l.length=m.length
 | [],[],h=>rfl
 | [],b::m,h=>nomatch h
 | a::l,[],h=>nomatch h
 | a::l,b::m,h=>by
  rw[me,Bool.and_eq_true] at h;rw[Ng,Ng,xQ l m h.2]
theorem zC (a b:List Hd) (ha:a.length<=1000000) (y:Bool): ∀ (t u:List Hd) (k fuel:Nat),a.drop k=t->b.drop k=u->t.length=u.length->t.length<fuel-> ∃ z,fz a b fuel y k=some (if me t u=true then .go (y,z) else .ret false)
 | [],[],k,fuel+1,ht,hu,hl,hf=>by
  have:=eF ht;exact⟨k,by rw[fz,QO QI]; rfl⟩
 | [],d::u,k,fuel,ht,hu,hl,hf=>by simp at hl
 | c::t,[],k,fuel,ht,hu,hl,hf=>by simp at hl
 | c::t,d::u,k,fuel+1,ht,hu,hl,hf=>by
  obtain⟨h,i,m⟩:=dc ht;obtain⟨j,l,n⟩:=dc hu;simp only[Ng] at hl hf;obtain⟨z,hz⟩:=zC a b ha y t u (k+1) fuel i l QI QI;rw[fz,QM QI,h,M3,j,M3,me,Ib];by_cases e:c.MD=d.MD
  ·rw[QM e,M4 e];by_cases f:c.Mu.null=d.Mu.null
   ·rw[QM f,M4 f];by_cases g:c.Mu.data=d.Mu.data
    ·rw[QM g,M4 g,QM QI];exact⟨z,hz⟩
    ·rw[QO g,M5 g];exact⟨0,rfl⟩
   ·rw[QO f,M5 f];exact⟨0,rfl⟩
  ·rw[QO e,M5 e];exact⟨0,rfl⟩
theorem Ic (a b:List Hd) (ha:a.length<=1000000):mO a b=some (me a b):=by
 unfold mO;by_cases hl:(a.length:Int)=(b.length:Int)
 ·obtain⟨z,hz⟩:=zC a b ha false a b 0 (((a.length:Int)).toNat+1) rfl rfl QI QI;rw[QM hl,hz];cases me a b <;> rfl
 ·rw[QO hl];have:me a b=false:=by
   cases h:me a b with
   | false=>rfl
   | true=>exact absurd (congrArg Int.ofNat (xQ a b h)) hl
  rw[this]
def zD (a b:Rec):Bool:=decide (a.MH=b.MH) && decide (a.My=b.My) && decide (a.MD.null=b.MD.null) && decide (a.MD.data=b.MD.data) && decide (a.Mu.null=b.Mu.null) && decide (a.Mu.data=b.Mu.data) && me a.Ms b.Ms
theorem DP (a:Rec):zD a a=true:=by simp[zD,vu]
theorem Id (a b:Rec) (ha:a.Ms.length<=1000000):mQ a b=some (zD a b):=by
 unfold mQ zD;rw[Ic _ _ ha];by_cases c:a.MH=b.MH <;> by_cases d:a.My=b.My <;> by_cases e:a.MD.null=b.MD.null <;> by_cases f:a.MD.data=b.MD.data <;> by_cases g:a.Mu.null=b.Mu.null <;> by_cases h:a.Mu.data=b.Mu.data <;> simp[c,d,e,f,g,h]
theorem Cc {x:Rec} (h:zz x):nj x=0/\wI x.MH/\wI x.My:=by
 obtain⟨a,⟨b,f⟩,c,d,e⟩:=h;rw[show 2 ^ (64:Int).toNat=18446744073709551616 by decide] at a;rw[show 2 ^ (32:Int).toNat=4294967296 by decide] at b;have ho:x.My<=2147483647:=by unfold bX at b; split at b <;> omega
 refine⟨?_,?_,⟨by omega,by omega⟩⟩
 ·unfold nj;have hb:qP x.Ms=true:=List.all_eq_true.2 fun y hy=>(e.2 y hy).2.2;rw[QO QI,c.2,d.2,hb];rfl
 ·unfold bX at a;constructor <;> (split at a <;> omega)
theorem Cd: ∀ l:List Hd,hwts l<=10*(dF kX l).length
 | []=>Nn _
 | x::l=>by
  have h:=Cd l;have a:=mI (bX (x.MD.length:Int));have b:=mI (bX (blen x.Mu));rw[dF,M8,hwts,hwt];simp only[kX,M8];omega
theorem DQ (x:Rec):rwt x<=10*(eG x).length:=by
 have h:=Cd x.Ms;simp only[eG,pJ,vt,M8,aZ,rwt];omega
def wj:Nat:=2197175160
def qc (x:Nat):Nat:=x / 2 ^^^ (if x % 2=1 then wj else 0)
def lT:Nat->Nat->Nat
 | 0,x=>x
 | k+1,x=>lT k (qc x)
theorem AM (x y:Nat):(x ^^^ y) % 2=(x % 2+y % 2) % 2:=by
 have h:=Nat.xor_mod_two_pow (a:=x) (b:=y) (n:=1);rw[Nat.pow_one] at h;rw[h];rcases Nat.mod_two_eq_zero_or_one x with hx | hx <;> rcases Nat.mod_two_eq_zero_or_one y with hy | hy <;> rw[hx,hy] <;> rfl
theorem AN (x y:Nat):(x ^^^ y) / 2=(x / 2) ^^^ (y / 2):=Nat.xor_div_two
theorem Ie (x y:Nat):qc (x ^^^ y)=qc x ^^^ qc y:=by
 unfold qc;rw[AN,AM];rcases Nat.mod_two_eq_zero_or_one x with hx | hx <;> rcases Nat.mod_two_eq_zero_or_one y with hy | hy <;> simp[hx,hy]
 ·rw[Nat.xor_assoc]
 ·ac_rfl
 ·rw[show x / 2 ^^^ wj ^^^ (y / 2 ^^^ wj)=x / 2 ^^^ y / 2 ^^^ (wj ^^^ wj) by ac_rfl,Nat.xor_self,Nat.xor_zero]
theorem xR: ∀ (k x y:Nat),lT k (x ^^^ y)=lT k x ^^^ lT k y
 | 0,_,_=>rfl
 | k+1,x,y=>by show lT k _= _; rw[Ie,xR k]; rfl
theorem Ce: ∀ (j k x:Nat),lT (j+k) x=lT k (lT j x)
 | 0,k,x=>by rw[Nat.zero_add]; rfl
 | j+1,k,x=>by rw[show j+1+k=(j+k)+1 by omega]; exact Ce j k (qc x)
theorem F9 (x:Nat):qc (2*x)=x:=by
 unfold qc; rw[QO QI,Nat.xor_zero]; omega
theorem sC: ∀ (k x:Nat),lT k (2 ^ k*x)=x
 | 0,x=>by rw[Nat.pow_zero,Nat.one_mul]; rfl
 | k+1,x=>by
  show lT k (qc _)=x;rw[show 2 ^ (k+1)*x=2*(2 ^ k*x) by rw[Nat.pow_succ,Nat.mul_comm (2 ^ k) 2,Nat.mul_assoc],F9];exact sC k x
theorem EM {x:Nat} (h:x<2 ^ 32):qc x<2 ^ 32:=by
 unfold qc;exact Nat.xor_lt_two_pow QI (by split <;> decide)
theorem wx: ∀ (k:Nat) {x:Nat},x<2 ^ 32->lT k x<2 ^ 32
 | 0,_,h=>h
 | k+1,_,h=>wx k (EM h)
theorem Ga (x b:Nat) (hb:b<256):lT 8 (x ^^^ b)=lT 8 ((x % 256) ^^^ b) ^^^ (x / 256):=by
 have h:x=(x % 256) ^^^ (2 ^ 8*(x / 256)):=by
  apply Nat.eq_of_testBit_eq;intro i;rw[Nat.testBit_xor,show (256:Nat)=2 ^ 8 from rfl,Nat.testBit_mod_two_pow,Nat.testBit_two_pow_mul,Nat.testBit_div_two_pow];by_cases hi:i<8
  ·simp[hi,show ¬ 8<=i by omega]
  ·simp[hi,show 8<=i by omega]
 conv=>lhs; rw[h]
 rw[show x % 256 ^^^ 2 ^ 8*(x / 256) ^^^ b=(x % 256 ^^^ b) ^^^ (2 ^ 8*(x / 256)) by ac_rfl,xR,sC]
def leN:AI->Nat
 | []=>0
 | c::l=>c.toNat+256*leN l
def uT:Nat->AI->Nat
 | x,[]=>x
 | x,c::l=>uT (lT 8 (x ^^^ c.toNat)) l
theorem Ig: ∀ l,leN l<2 ^ (8*l.length)
 | []=>by decide
 | c::l=>by
  have:=Ig l;have hc:=c.toNat_lt;show c.toNat+256*leN l<2 ^ (8*(l.length+1));rw[show 8*(l.length+1)=8+8*l.length by omega,Nat.pow_add];omega
theorem Cf {b:Nat} (hb:b<256) (y:Nat):b+256*y=b ^^^ (2 ^ 8*y):=by
 apply Nat.eq_of_testBit_eq;intro i;rw[show b+256*y=2 ^ 8*y+b by omega,Nat.testBit_two_pow_mul_add _ (show b<2 ^ 8 by omega),Nat.testBit_xor,Nat.testBit_two_pow_mul];by_cases hi:i<8
 ·simp[hi,show ¬ 8<=i by omega]
 ·have:b.testBit i=false:=Nat.testBit_lt_two_pow (Nat.lt_of_lt_of_le hb (show 2 ^ 8<=2 ^ i from Nat.pow_le_pow_right QJ QI));simp[hi,show 8<=i by omega,this]
theorem EN: ∀ (l:AI) (x:Nat),uT x l=lT (8*l.length) (x ^^^ leN l)
 | [],x=>by show x=lT 0 (x ^^^ 0); rw[Nat.xor_zero]; rfl
 | c::l,x=>by
  show uT _ l= _;rw[EN l,show 8*(c::l).length=8+8*l.length by simp[Nat.mul_add]; omega,Ce];show _=lT _ (lT 8 (x ^^^ (c.toNat+256*leN l)));rw[Cf c.toNat_lt,show x ^^^ (c.toNat ^^^ 2 ^ 8*leN l)=(x ^^^ c.toNat) ^^^ (2 ^ 8*leN l) by ac_rfl,xR 8 (x ^^^ c.toNat),sC]
theorem vv: ∀ (l m:AI) (x:Nat),uT x (l++m)=uT (uT x l) m
 | [],_,_=>rfl
 | c::l,m,x=>vv l m _
theorem wy: ∀ (l:AI) {x:Nat},x<2 ^ 32->uT x l<2 ^ 32
 | [],_,h=>h
 | c::l,_,h=>wy l (wx 8 (Nat.xor_lt_two_pow h (Nat.lt_trans c.toNat_lt QJ)))
theorem rk (a:Nat) (h:a<4294967296):(BitVec.ofInt IntKind.u32.bits (a:Int)).toNat=a:=by
 show (BitVec.ofInt 32 (a:Int)).toNat=a;rw[BitVec.ofInt_natCast,BitVec.toNat_ofNat,Nat.mod_eq_of_lt QI]
theorem Cg (a:Nat) (h:a<256):(BitVec.ofInt IntKind.u8.bits (a:Int)).toNat=a:=by
 show (BitVec.ofInt 8 (a:Int)).toNat=a;rw[BitVec.ofInt_natCast,BitVec.toNat_ofNat,Nat.mod_eq_of_lt QI]
theorem wrap_u32 (a:Nat):IntKind.u32.wrap (a:Int)=((a % 4294967296:Nat):Int):=by
 rw[IntKind.wrap_u32]; omega
theorem wrap_u8 (a:Nat):IntKind.u8.wrap (a:Int)=((a % 256:Nat):Int):=by
 rw[IntKind.wrap_u8]; omega
theorem wz (a b:Nat) (ha:a<4294967296) (hb:b<4294967296):Go.bits .xor .u32 (a:Int) (b:Int)=((a ^^^ b:Nat):Int):=by
 show IntKind.u32.wrap (((BitVec.ofInt IntKind.u32.bits (a:Int)) ^^^ (BitVec.ofInt IntKind.u32.bits (b:Int))).toNat:Int)= _;rw[BitVec.toNat_xor,rk a ha,rk b hb,wrap_u32,Nat.mod_eq_of_lt (Nat.xor_lt_two_pow (n:=32) ha hb)]
theorem xor_u8 (a b:Nat) (ha:a<256) (hb:b<256):Go.bits .xor .u8 (a:Int) (b:Int)=((a ^^^ b:Nat):Int):=by
 show IntKind.u8.wrap (((BitVec.ofInt IntKind.u8.bits (a:Int)) ^^^ (BitVec.ofInt IntKind.u8.bits (b:Int))).toNat:Int)= _;rw[BitVec.toNat_xor,Cg a ha,Cg b hb,wrap_u8,Nat.mod_eq_of_lt (Nat.xor_lt_two_pow (n:=8) ha hb)]
theorem Ih (a:Nat) (ha:a<4294967296):Go.bits .and .u32 (a:Int) 1=((a % 2:Nat):Int):=by
 show IntKind.u32.wrap (((BitVec.ofInt IntKind.u32.bits (a:Int)) &&& (BitVec.ofInt IntKind.u32.bits ((1:Nat):Int))).toNat:Int)= _;rw[BitVec.toNat_and,rk a ha,rk 1 QJ,wrap_u32,Nat.and_one_is_mod,Nat.mod_eq_of_lt QI]
theorem Ii (a:Nat):yz .u32 (a:Int) 1=((a / 2:Nat):Int):=by
 show Int.fdiv (a:Int) 2= _;rw[Int.fdiv_eq_ediv_of_nonneg _ QJ];omega
theorem Ij (a:Nat):yz .u32 (a:Int) 8=((a / 256:Nat):Int):=by
 show Int.fdiv (a:Int) 256= _;rw[Int.fdiv_eq_ediv_of_nonneg _ QJ];omega
theorem Ik (y:Nat) (hy:y<4294967296):(if Go.bits .and .u32 (y:Int) 1=1 then some (Go.bits .xor .u32 (yz .u32 (y:Int) 1) 2197175160) else some (yz .u32 (y:Int) 1))=some ((qc y:Nat):Int):=by
 rw[Ih y hy,Ii,show (2197175160:Int)=((2197175160:Nat):Int) from rfl,wz _ _ QI QJ];unfold qc;by_cases h:y % 2=1
 ·rw[QM QI,QM h]; rfl
 ·rw[QO QI,QO h,Nat.xor_zero]
theorem Il: ∀ (m y k:Nat),y<4294967296->k<=8->8 - k<m->ge m (y:Int) k=some (((lT (8 - k) y:Nat):Int),8)
 | 0,_,_,_,_,h=>by omega
 | m+1,y,k,hy,hk,hm=>by
  rw[ge];by_cases h:k<8
  ·rw[QM QI,Ik y hy,M3,QM QI,Il m (qc y) (k+1) (EM hy) QI QI,show 8 - k=(8 - (k+1))+1 by omega];rfl
  ·rw[QO QI,show 8 - k=0 by omega,show k=8 by omega];rfl
def lv:List Int:=(List.range 256).map (fun j=>((lT 8 j:Nat):Int))
theorem xS (j:Nat) (hj:j<256):lv[j]? = some ((lT 8 j:Nat):Int):=by
 unfold lv;rw[List.getElem?_map,List.getElem?_range hj];rfl
theorem Im: ∀ (m k:Nat) (l:List Int),l.length=256->k<=256->256 - k<m->(∀ j,j<k->l[j]? = some ((lT 8 j:Nat):Int))->io m k l=some (256,lv)
 | 0,_,_,_,_,h,_=>by omega
 | m+1,k,l,hl,hk,hm,hj=>by
  rw[io];by_cases h:k<256
  ·have a:IntKind.u32.wrap (k:Int)=((k:Nat):Int):=by rw[wrap_u32,Nat.mod_eq_of_lt QI]
   have b:ge ((8:Int).toNat+1) (IntKind.u32.wrap (k:Int)) 0=some (((lT 8 k:Nat):Int),8):=by
    rw[a];exact Il 9 k 0 QI QI QI
   have c:l[k]? = some (l[k]'(by omega)):=List.getElem?_eq_getElem QI;rw[QM QI,b,M3];dsimp only;rw[c,M3,M3,QM QI];refine Im m (k+1) _ (by rw[List.length_set]; exact hl) QI QI (fun j hjk=> ?_);rw[List.getElem?_set];by_cases e:k=j
   ·rw[QM e,QM QI,e]
   ·rw[QO e];exact hj j QI
  ·rw[QO QI,show k=256 by omega];congr 2;apply List.ext_getElem?;intro j;by_cases hj2:j<256
   ·rw[xS j hj2];exact hj j QI
   ·rw[List.getElem?_eq_none QI,List.getElem?_eq_none (by unfold lv; simp; omega)]
theorem JL:mE=some lv:=by
 unfold mE;rw[show (256:Int).toNat+1=257 from rfl,Im 257 0 _ (List.length_replicate ..) QI QI (fun j hj=>absurd hj QI),M3]
theorem EO (s:AI) (hs:s.length<=9223372036854775806): ∀ (m y k:Nat),y<4294967296->k<=s.length->s.length - k<m->eb s m (y:Int) k lv=some (((uT y (s.drop k):Nat):Int),s.length,lv)
 | 0,_,_,_,_,h=>by omega
 | m+1,y,k,hy,hk,hm=>by
  rw[eb];by_cases h:k<s.length
  ·have a:s[k]? = some s[k]:=List.getElem?_eq_getElem h;have hc:=s[k].toNat_lt;have hx:y % 256 ^^^ s[k].toNat<256:=Nat.xor_lt_two_pow (n:=8) QI hc;have b:Go.bits .xor .u8 (IntKind.u8.wrap (y:Int)) (s[k].toNat:Int)=((y % 256 ^^^ s[k].toNat:Nat):Int):=by
    rw[wrap_u8,xor_u8 _ _ QI QI]
   have c:lT 8 (y % 256 ^^^ s[k].toNat)<2 ^ 32:=wx 8 QI
   rw[QM QI,a,M3,b,QM QI,Nu,xS _ hx,M3,QM QI,Ij,wz _ _ QI QI,<- Ga y _ QI,
    EO s hs m _ (k+1) (wx 8 (Nat.xor_lt_two_pow (n:=32) hy QI)) QI QI]
   rw[bN a];rfl
  ·rw[QO QI,show k=s.length by omega,List.drop_length];rfl
def oW (x:Nat) (s:AI):Nat:=4294967295 ^^^ uT (4294967295 ^^^ x) s
theorem AO {x:Nat} (hx:x<4294967296) (s:AI):oW x s<4294967296:=Nat.xor_lt_two_pow (n:=32) QJ (wy s (Nat.xor_lt_two_pow (n:=32) QJ hx))
theorem ones2 (x:Nat):4294967295 ^^^ (4294967295 ^^^ x)=x:=by rw[<- Nat.xor_assoc,Nat.xor_self,Nat.zero_xor]
theorem Ch (x:Nat) (s t:AI):oW x (s++t)=oW (oW x s) t:=by
 unfold oW;rw[vv,ones2]
theorem In (x:Nat):oW x []=x:=ones2 x
theorem Io (x:Nat) (hx:x<4294967296) (s:AI) (hs:s.length<=9223372036854775806):iA lv (x:Int) s=some (((oW x s:Nat):Int),lv):=by
 unfold iA;have a:(4294967295 ^^^ x:Nat)<4294967296:=Nat.xor_lt_two_pow (n:=32) QJ hx;rw[show (4294967295:Int)=((4294967295:Nat):Int) from rfl,wz _ _ QJ hx,Nu,EO s hs _ _ 0 a QI QI,M3,List.drop_zero];dsimp only;rw[wz _ _ QJ (wy s a)];rfl
theorem Ip: ∀ (l:List AI) (x:Nat),x<4294967296->(∀ s,s∈l->s.length<=9223372036854775806)->dN l (x:Int) lv=some (((oW x l.flatten:Nat):Int),lv)
 | [],x,_,_=>by rw[dN,List.flatten_nil,In]
 | s::l,x,hx,hs=>by
  rw[dN,Io x hx s (hs s (List.mem_cons_self ..)),M3];dsimp only;rw[Ip l _ (AO hx s) (fun t ht=>hs t (List.mem_cons_of_mem _ ht)),List.flatten_cons,Ch]
theorem JM (l:List AI) (hs: ∀ s,s∈l->s.length<=9223372036854775806):gO lv l=some (((oW 0 l.flatten:Nat):Int),lv):=by
 unfold gO;have h:=Ip l 0 QJ hs;rw[show ((0:Nat):Int)=0 from rfl] at h;rw[h,M3]
def bI (x j:Nat):Int:=if x.testBit j then 1 else 0
theorem DR (x j:Nat):bI x j=((x / 2 ^ j % 2:Nat):Int):=by
 unfold bI;rw[Nat.testBit_eq_decide_div_mod_eq];rcases Nat.mod_two_eq_zero_or_one (x / 2 ^ j) with h | h <;> rw[h] <;> rfl
theorem zG (x j:Nat):bI x j=0\/bI x j=1:=by
 unfold bI;by_cases h:x.testBit j=true
 ·rw[QM h]; exact .inr rfl
 ·rw[QO h]; exact .inl rfl
theorem xT (x y j:Nat):bI (x ^^^ y) j=(bI x j+bI y j) % 2:=by
 unfold bI;rw[Nat.testBit_xor];cases x.testBit j <;> cases y.testBit j <;> rfl
theorem AP (x j:Nat):bI (x / 2) j=bI x (j+1):=by
 unfold bI;rw[Nat.testBit_succ]
theorem Ci: ∀ (s:AI) (k:Nat) (c:UInt8),s[k]? = some c-> ∀ j,j<8->(leN s).testBit (8*k+j)=c.toNat.testBit j
 | [],k,c,h,j,hj=>by simp at h
 | a::s,0,c,h,j,hj=>by
  obtain rfl:a=c:=by simpa using h
  show (a.toNat+256*leN s).testBit (8*0+j)= _;rw[show a.toNat+256*leN s=2 ^ 8*leN s+a.toNat by omega,Nat.testBit_two_pow_mul_add _ (show a.toNat<2 ^ 8 from a.toNat_lt),QM QI,Nat.mul_zero,Nat.zero_add]
 | a::s,k+1,c,h,j,hj=>by
  show (a.toNat+256*leN s).testBit _= _;rw[show a.toNat+256*leN s=2 ^ 8*leN s+a.toNat by omega,Nat.testBit_two_pow_mul_add _ (show a.toNat<2 ^ 8 from a.toNat_lt),QO QI,show 8*(k+1)+j - 8=8*k+j by omega];exact Ci s k c (by simpa using h) j hj
theorem Iq (a:Int) (ha:0<=a) (hb:a<=9223372036854775807): ∀ (m y k:Nat),y<256->k<=(a % 8).toNat->(a % 8).toNat - k<m->hU a m (y:Int) k=some (((y / 2 ^ ((a % 8).toNat - k):Nat):Int),(a % 8).toNat)
 | 0,_,_,_,_,h=>by omega
 | m+1,y,k,hy,hk,hm=>by
  rw[hU,QM ⟨ha,hb⟩];by_cases h:k<(a % 8).toNat
  ·rw[QM QI,QM QI,QM QI,show ((y:Int) / 2)=((y / 2:Nat):Int) by omega,Iq a ha hb m (y / 2) (k+1) QI QI QI,Nat.div_div_eq_div_mul,
    show (a % 8).toNat - k=((a % 8).toNat - (k+1))+1 by omega,Nat.pow_succ,Nat.mul_comm 2]
  ·rw[QO QI,show (a % 8).toNat - k=0 by omega,Nat.pow_zero,Nat.div_one,show k=(a % 8).toNat by omega]
theorem JN (s:AI) (i:Nat) (hi:i<8*s.length) (hb:i<=9223372036854775807):oC s (i:Int)=some (bI (leN s) i):=by
 unfold oC;have hk:i / 8<s.length:=by omega
 have a:s[i / 8]? = some s[i / 8]:=List.getElem?_eq_getElem hk;have hc:=s[i / 8].toNat_lt;have c:=Iq (i:Int) QI QI (((i:Int) % 8).toNat+1) s[i / 8].toNat 0 QI QI QI;have d:((i:Int) % 8).toNat=i % 8:=by omega
 rw[QM QI,QM QI,show ((i:Int) / 8).toNat=i / 8 by omega,a,M3,QM QI,c,M3,d,Nat.sub_zero];dsimp only;have e:s[i / 8].toNat / 2 ^ (i % 8)<=s[i / 8].toNat:=Nat.div_le_self _ _
 suffices f:bI (leN s) i=((s[i / 8].toNat / 2 ^ (i % 8) % 2:Nat):Int) by
  rw[f];generalize s[i / 8].toNat / 2 ^ (i % 8)=q at e ⊢;rw[QM QI];congr 1
 have b:=Ci s (i / 8) _ a (i % 8) QI;rw[show 8*(i / 8)+i % 8=i by omega] at b;unfold bI;rw[b];exact DR _ _
theorem Gb: ∀ i:Nat,i<32->lH (31 - (i:Int))=some (bI wj i):=by decide +kernel
def Bts (L k:Nat) (l:List Int) (x:Nat):Prop:=l.length=L/\ ∀ j,k+j<L->l[k+j]? = some (bI x j)
theorem Ir (s:AI) (hs:s.length<=1000000): ∀ (m k:Nat) (l:List Int),l.length=8*s.length+32->k<=8*s.length->8*s.length - k<m->(∀ j,j<k->l[j]? = some (bI (leN s) j))->(∀ j,k<=j->j<8*s.length+32->l[j]? = some 0) ->
 ∃ l',ic s m l k=some (l',8*s.length)/\Bts (8*s.length+32) 0 l' (leN s)
 | 0,_,_,_,_,h,_,_=>by omega
 | m+1,k,l,hl,hk,hm,b,a=>by
  rw[ic];by_cases h:k<8*s.length
  ·rw[QM QI,JN s k h QI,M3,a k (NA _) QI,M3,QM QI];refine Ir s hs m (k+1) _ (by rw[List.length_set]; exact hl) QI QI (fun j hj=> ?_) (fun j hj hj2=> ?_)
   ·rw[List.getElem?_set];by_cases e:k=j
    ·rw[QM e,QM QI,e]
    ·rw[QO e]; exact b j QI
   ·rw[List.getElem?_set,QO QI];exact a j QI hj2
  ·have c:k=8*s.length:=by omega
   rw[QO QI,c];refine⟨l,rfl,hl,fun j hj=> ?_⟩;rw[Nat.zero_add] at hj ⊢;by_cases e:j<k
   ·exact b j e
   ·rw[a j QI hj];unfold bI;rw[Nat.testBit_lt_two_pow (Nat.lt_of_lt_of_le (Ig s) (Nat.pow_le_pow_right QJ QI))];rfl
theorem AQ (k j:Nat):bI (2 ^ k - 1) j=if j<k then 1 else 0:=by
 unfold bI;rw[Nat.testBit_two_pow_sub_one];by_cases h:j<k <;> simp[h]
theorem Is (x L:Nat) (hL:32<=L): ∀ (m k:Nat) (l:List Int),k<=32->32 - k<m->Bts L 0 l (x ^^^ (2 ^ k - 1))-> ∃ l',ib m l k=some (l',32)/\Bts L 0 l' (x ^^^ 4294967295)
 | 0,_,_,_,h,_=>by omega
 | m+1,k,l,hk,hm,hB=>by
  rw[ib];by_cases h:k<32
  ·have e:=hB.2 k QI;rw[Nat.zero_add] at e;rw[QM QI,e,M3];have d:=zG (x ^^^ (2 ^ k - 1)) k;rw[QM QI,QM QI];refine Is x L hL m (k+1) _ QI QI ⟨by rw[List.length_set]; exact hB.1,fun j hj=> ?_⟩;rw[Nat.zero_add] at hj ⊢;have a:=hB.2 j QI;rw[Nat.zero_add] at a;have R:bI (x ^^^ (2 ^ (k+1) - 1)) j=(bI x j+if j<k+1 then 1 else 0) % 2:=by rw[xT,AQ]
   have R0:bI (x ^^^ (2 ^ k - 1)) j=(bI x j+if j<k then 1 else 0) % 2:=by rw[xT,AQ]
   rw[List.getElem?_set,R];by_cases b:k=j
   ·subst b;rw[QM rfl,QM (by rw[hB.1]; exact hj),QM QI,R0,QO QI];rcases zG x k with q | q <;> rw[q] <;> rfl
   ·rw[QO b,a,R0];by_cases c:j<k
    ·rw[QM c,QM QI]
    ·rw[QO c,QO QI]
  ·have:k=32:=by omega
   subst this;rw[QO QI];exact⟨l,rfl,hB⟩
theorem It (L k:Nat) (a:List Int) (y:Nat) (hL:k+33<=L) (hb:L<=9000000) (b:Bts L k a y): ∀ (m i:Nat) (l:List Int),1<=i->i<=33->33 - i<m->l.length=L->(∀ j,k+i<=j->j<L->l[j]? = a[j]?)->(∀ j,j+1<i->l[k+1+j]? = some (bI (y / 2 ^^^ wj) j)) ->
 ∃ l',hZ k m l (i:Int)=some (l',33)/\l'.length=L/\(∀ j,k+33<=j->j<L->l'[j]? = a[j]?)/\ ∀ j,j<32->l'[k+1+j]? = some (bI (y / 2 ^^^ wj) j)
 | 0,_,_,_,_,h,_,_,_=>by omega
 | m+1,i,l,f,hi,hm,hl,hr,hd=>by
  rw[hZ];by_cases h:i<=32
  ·have d:l[k+i]? = some (bI y i):=by rw[hr (k+i) (NA _) QI]; exact b.2 i QI
   have e:lH (32 - (i:Int))=some (bI wj (i - 1)):=by
    rw[show (32:Int) - (i:Int)=31 - ((i - 1:Nat):Int) by omega];exact Gb (i - 1) QI
   have g:=zG y i;have n:=zG wj (i - 1)
   rw[QM QI,QM QI,show ((k:Int)+(i:Int)).toNat=k+i by omega,d,M3,QM QI,QM QI,QM QI,e,M3,QM QI,QM QI,QM QI,
    show (i:Int)+1=((i+1:Nat):Int) by omega]
   refine It L k a y hL hb b m (i+1) _ QI QI QI (by rw[List.length_set]; exact hl) (fun j hj hj2=> ?_) (fun j hj=> ?_)
   ·rw[List.getElem?_set,QO QI];exact hr j QI hj2
   ·rw[List.getElem?_set];by_cases c:k+i=k+1+j
    ·rw[QM c,QM QI,xT,AP,show j+1=i by omega,show i - 1=j by omega]
    ·rw[QO c]; exact hd j QI
  ·have:i=33:=by omega
   subst this;rw[QO QI];exact⟨l,rfl,hl,fun j hj hj2=>hr j hj hj2,fun j hj=>hd j QI⟩
theorem Gc (j:Nat) (hj:32<=j):bI wj j=0:=by
 unfold bI;rw[Nat.testBit_lt_two_pow (Nat.lt_of_lt_of_le (show wj<2 ^ 32 by decide) (Nat.pow_le_pow_right QJ hj))];rfl
theorem EP (x:Nat):bI x 0=1↔x % 2=1:=by
 rw[DR,Nat.pow_zero,Nat.div_one]; omega
theorem DS (s:AI) (hs:s.length<=1000000): ∀ (m k:Nat) (l:List Int) (y:Nat),k<=8*s.length->8*s.length - k<m->Bts (8*s.length+32) k l y-> ∃ l',fZ s m l k=some (l',8*s.length)/\Bts (8*s.length+32) (8*s.length) l' (lT (8*s.length - k) y)
 | 0,_,_,_,_,h,_=>by omega
 | m+1,k,l,y,hk,hm,hB=>by
  rw[fZ];by_cases h:k<8*s.length
  ·have a:=hB.2 0 QI;rw[Nat.add_zero] at a;rw[QM QI,a,M3,show 8*s.length - k=(8*s.length - (k+1))+1 by omega];by_cases ho:bI y 0=1
   ·have hy:=(EP y).1 ho;obtain⟨l',r1,r2,r3,r4⟩:=It (8*s.length+32) k l y QI QI hB 33 1 l QI QI QI hB.1 (fun j _ _=>rfl) (fun j hj=>absurd hj QI);rw[QM ho,show ((33:Int) - 1).toNat+1=33 from rfl,show (1:Int)=((1:Nat):Int) from rfl,r1,M3];dsimp only;rw[QM QI];refine DS s hs m (k+1) l' (qc y) QI QI ⟨r2,fun j hj=> ?_⟩;unfold qc;rw[QM hy];by_cases e:j<32
    ·exact r4 j e
    ·rw[r3 _ QI QI,show k+1+j=k+(j+1) by omega,hB.2 (j+1) QI,xT,AP,Gc j QI];rcases zG y (j+1) with q | q <;> rw[q] <;> rfl
   ·have hy: ¬ y % 2=1:=fun e=>ho ((EP y).2 e);rw[QO ho,QM QI];refine DS s hs m (k+1) l (qc y) QI QI ⟨hB.1,fun j hj=> ?_⟩;unfold qc;rw[QO hy,Nat.xor_zero,AP,show k+1+j=k+(j+1) by omega];exact hB.2 (j+1) QI
  ·have:k=8*s.length:=by omega
   subst this;rw[QO QI,Nat.sub_self];exact⟨l,rfl,hB⟩
theorem Cj {z:Nat} (hz:z<4294967296):4294967295 ^^^ z=4294967295 - z:=by
 apply Nat.eq_of_testBit_eq;intro i;rw[show 4294967295 - z=2 ^ 32 - (z+1) by omega,Nat.testBit_two_pow_sub_succ (show z<2 ^ 32 from hz),Nat.testBit_xor,show (4294967295:Nat)=2 ^ 32 - 1 from rfl,Nat.testBit_two_pow_sub_one];by_cases h:i<32
 ·simp[h]
 ·have:z.testBit i=false:=Nat.testBit_lt_two_pow (Nat.lt_of_lt_of_le hz (show 2 ^ 32<=2 ^ i from Nat.pow_le_pow_right QJ QI));simp[h,this]
theorem Iu (s:AI) (hs:s.length<=1000000) (l:List Int) (z:Nat) (hz:z<4294967296) (hB:Bts (8*s.length+32) (8*s.length) l z): ∀ (i m:Nat),i<=32->i<m->fu s l m (((4294967295 - z) / 2 ^ i:Nat):Int) ((i:Int) - 1)=some (((4294967295 - z:Nat):Int),-1)
 | i,0,_,h=>by omega
 | 0,m+1,_,_=>by
  rw[fu,QO QI,Nat.pow_zero,Nat.div_one];rfl
 | i+1,m+1,hi,hm=>by
  have a:=hB.2 i QI;have q:=zG z i
  rw[fu,QM QI,QM QI,QM QI,show (8*(s.length:Int)+(((i+1:Nat):Int) - 1)).toNat=8*s.length+i by omega,a,M3,QM QI,QM QI,
   show ((i+1:Nat):Int) - 1 - 1=(i:Int) - 1 by omega]
  have b:(4294967295 - z) / 2 ^ i / 2=(4294967295 - z) / 2 ^ (i+1):=by rw[Nat.div_div_eq_div_mul,<- Nat.pow_succ]
  have c:(((4294967295 - z) / 2 ^ i % 2:Nat):Int)=1 - bI z i:=by
   rw[<- DR,<- Cj hz,xT,show (4294967295:Nat)=2 ^ 32 - 1 from rfl,AQ,QM QI];rcases q with q | q <;> rw[q] <;> rfl
  have d:(4294967295 - z) / 2 ^ i<=4294967295:=Nat.le_trans (Nat.div_le_self _ _) QI;have e:IntKind.u32.wrap ((IntKind.u32.wrap ((((4294967295 - z) / 2 ^ (i+1):Nat):Int)*2))+(IntKind.u32.wrap (1 - bI z i)))=(((4294967295 - z) / 2 ^ i:Nat):Int):=by
   rw[IntKind.wrap_u32,IntKind.wrap_u32,IntKind.wrap_u32,<- b,<- c];generalize (4294967295 - z) / 2 ^ i=q at d;omega
  rw[e];exact Iu s hs l z hz hB i m QI QI
theorem JO (s:AI) (hs:s.length<=1000000):oE s=some ((oW 0 s:Nat):Int):=by
 unfold oE;obtain⟨b,r1,B1⟩:=Ir s hs (8*s.length+1) 0 (List.replicate (8*s.length+32) 0) (List.length_replicate ..) QI QI (fun j hj=>absurd hj QI) (fun j _ hj=>by rw[List.getElem?_replicate,QM hj]);obtain⟨c,r2,B2⟩:=Is (leN s) (8*s.length+32) QI 33 0 b QI QI (by rw[Nat.pow_zero,Nat.sub_self,Nat.xor_zero]; exact B1);obtain⟨a,r3,B3⟩:=DS s hs (8*s.length+1) 0 c _ QI QI B2;have hz:lT (8*s.length - 0) (leN s ^^^ 4294967295)=uT 4294967295 s:=by rw[Nat.sub_zero,EN,Nat.xor_comm]
 rw[hz] at B3;have hlt:uT 4294967295 s<4294967296:=wy s QJ;have r4:=Iu s hs a _ hlt B3 32 33 QI QI;rw[show (4294967295 - uT 4294967295 s) / 2 ^ 32=0 from Nat.div_eq_of_lt QI] at r4;rw[QM QI,QM QI,QM QI,show (8*(s.length:Int)).toNat=8*s.length by omega,show (8*(s.length:Int)+32).toNat=8*s.length+32 by omega,r1,M3];dsimp only;rw[show (32:Int).toNat+1=33 from rfl,r2,M3];dsimp only;rw[r3,M3];dsimp only;rw[show ((31:Int) - -1).toNat+1=33 from rfl];have d:fu s a 33 0 31=some (((4294967295 - uT 4294967295 s:Nat):Int),-1):=r4;rw[d,M3];dsimp only;rw[<- Cj hlt];unfold oW;rw[Nat.xor_zero]
def EQ (p:Pfx):AI:=be p.ME 8++(be p.MB 4++(be p.MA 4++(be 2 1++be (s32 p.MQ) 4)))
def gZ (p:Pfx):AI:=be p.MO 2++sB [4,8,8,8,2,4,4] [p.MC,p.Mr,p.MK,p.Md,p.Mf,p.Mv,p.MR]
theorem ER (p:Pfx):rI p=EQ p++gZ p:=by
 unfold rI KS toL EQ gZ;simp only[sB,Nd]
theorem zH (p:Pfx):(EQ p).length=21:=by
 unfold EQ;simp only[M8,aZ]
theorem uU (p:Pfx):(rI p).drop 21=gZ p:=by
 rw[ER,<- zH p,List.drop_left]
def okRc (x:Rec):Prop:=zz x/\bX ((eG x).length:Int)<2 ^ (32:Int).toNat
def Ck:Pr Unit:=fun s q=>if q=s.length then .error 10 else .ok ((),q)
def nU:Nat->Pr (List Rec)
 | 0=> .ret []
 | n+1=>Ck.bind fun _=>AK.bind fun x=>(nU n).bind fun l=> .ret (x::l)
theorem px (x:Rec):0<(gY x).length:=by
 unfold gY;rw[M8];have:=mI (bX ((eG x).length:Int));omega
theorem pz: ∀ (n:Nat) (s:AI) (q:Nat) (l:List Rec) (r:Nat),q<=s.length->nU n s q= .ok (l,r)->q<=r/\r<=s.length/\s.take r=s.take q++dF gY l/\l.length=n/\ ∀ x,x∈l->okRc x
 | 0,s,q,l,r,hq,h=>by
  injection h with h;obtain⟨rfl,rfl⟩:=NE h;exact⟨NA _,hq,by simp[dF],rfl,fun x h=>nomatch h⟩
 | n+1,s,q,l,r,hq,h=>by
  obtain⟨u,m,a,d⟩:=Pr.bind_ok h;unfold Ck at a;split at a
  ·exact nomatch a
  injection a with a;obtain⟨_,rfl⟩:=NE a;obtain⟨x,c,e,f⟩:=Pr.bind_ok d;obtain⟨xs,g,i,b⟩:=Pr.bind_ok f;injection b with b;obtain⟨rfl,rfl⟩:=NE b;obtain⟨a1,a2,a3,a4,a5⟩:=AL.spell s q x c hq e;obtain⟨t,j,k,o,p⟩:=pz n s c xs g a2 i;refine⟨by omega,j,by rw[k,a4,dF,Nd],by rw[Ng,o],fun y hy=> ?_⟩;rcases List.mem_cons.1 hy with rfl | hy
  ·exact a5
  ·exact p y hy
theorem zI: ∀ (l:List Rec) (s t:AI) (q:Nat),q<=s.length->(∀ x,x∈l->okRc x)->s.drop q=dF gY l++t->nU l.length s q= .ok (l,q+(dF gY l).length)
 | [],s,t,q,hq,_,_=>rfl
 | x::l,s,t,q,hq,ho,hd=>by
  rw[dF,Nd] at hd;have hl:=congrArg List.length hd;rw[Nb,M8] at hl;have hp:=px x;have a:Ck s q= .ok ((),q):=QO QI;have b:=AL.back s _ q x hq (ho x (.head _)) hd;have c:=zI l s t _ QI (fun y hy=>ho y (.tail _ hy)) (cI hd);rw[Ng,nU,Pr.bind_of a,Pr.bind_of b,Pr.bind_of c,dF,M8,<- Nat.add_assoc];rfl
def chk (a:Bat):Int:=(dX a).getD 0
def body (a:Bat):AI:=dF gY a.Mg
def mkB (p:Pfx) (l:List Rec):Bat:=⟨p.ME,p.MA,eo p.MO 3,eo p.MO 4,eo p.MO 5,p.MC,p.Mr,p.MK,p.Md,p.Mf,p.Mv,l⟩
def pB (a:Bat) (s:Int):Pfx:=⟨a.ME,49+((body a).length:Int),a.MA,s,nX a.MS a.MI a.ML,a.MC,a.Mr,a.MK,a.Md,a.Mf,a.Mv,(a.Mg.length:Int)⟩
def DT (p:Pfx) (s:AI):Nat:=oW 0 (gZ p++s)
def uV (a:Bat):Nat:=DT (pB a 0) (body a)
def iQ (a:Bat):AI:=rI (pB a (uV a))++body a
def okB (a:Bat):Prop:=okP (pB a (uV a))/\dA (nX a.MS a.MI a.ML)=0/\(∀ x,x∈a.Mg->okRc x)/\chk a=0
def qS (p:Pfx) (s:AI):Except Int Bat :=
 if dA p.MO=0 then
  match nU p.MR.toNat s 0 with
  | .error e=> .error e
  | .ok (l,r)=>if r<s.length then .error 10 else if chk (mkB p l)=0 then .ok (mkB p l) else .error (chk (mkB p l))
 else .error (dA p.MO)
def tz:Pr Bat:=fun s q =>
 match xJ s q with
 | .error e=> .error e
 | .ok (p,r)=>if s.length<r+(p.MB - 49).toNat then .error 1 else
  if ((DT p ((s.drop r).take (p.MB - 49).toNat):Nat):Int)=p.MQ then
   match qS p ((s.drop r).take (p.MB - 49).toNat) with
   | .error e=> .error e
   | .ok b=> .ok (b,r+(p.MB - 49).toNat)
  else .error 5
theorem zJ {n:Int} (h:dA n=0):nX (eo n 3) (eo n 4) (eo n 5)=n:=by
 have b:n % 8=0/\0<=n/\n<=63:=by
  unfold dA at h;split at h
  ·cases h
  ·split at h
   ·cases h
   ·omega
 have a:n=0\/n=8\/n=16\/n=24\/n=32\/n=40\/n=48\/n=56:=by omega
 rcases a with rfl | rfl | rfl | rfl | rfl | rfl | rfl | rfl <;> decide
theorem ES: ∀ a b c:Bool,eo (nX a b c) 3=a/\eo (nX a b c) 4=b/\eo (nX a b c) 5=c:=by decide
theorem Iv {p:Pfx} {s:AI} {b:Bat} (h:qS p s= .ok b) (d:0<=p.MR):dA p.MO=0/\ ∃ l,b=mkB p l/\s=dF gY l/\(l.length:Int)=p.MR/\(∀ x,x∈l->okRc x)/\chk b=0:=by
 unfold qS at h;by_cases ha:dA p.MO=0
 ·rw[QM ha] at h;refine⟨ha,?_⟩
  cases hr:nU p.MR.toNat s 0 with
  | error e=>rw[hr] at h; exact nomatch h
  | ok x =>
   obtain⟨l,r⟩:=x;rw[hr] at h;dsimp only at h;by_cases hl:r<s.length
   ·rw[QM hl] at h; exact nomatch h
   rw[QO hl] at h;by_cases hc:chk (mkB p l)=0
   ·rw[QM hc] at h;injection h with h;subst h;obtain⟨f,g,a,i,c⟩:=pz _ s 0 l r (Nn _) hr;rw[List.take_of_length_le QI,List.take_zero,Nm] at a;exact⟨l,rfl,a,by omega,c,hc⟩
   ·rw[QO hc] at h; exact nomatch h
 ·rw[QO ha] at h; exact nomatch h
theorem pB_mk {p:Pfx} {l:List Rec} (a:(49:Int)+((dF gY l).length:Int)=p.MB) (b:dA p.MO=0) (c:(l.length:Int)=p.MR) (s:Int):pB (mkB p l) s=⟨p.ME,p.MB,p.MA,s,p.MO,p.MC,p.Mr,p.MK,p.Md,p.Mf,p.Mv,p.MR⟩:=by
 unfold pB mkB body;dsimp only;rw[a,c,zJ b]
theorem AR:Sp tz iQ okB:=by
 refine⟨fun s q b r hq h=> ?_,fun s t q a hq ha hd=> ?_⟩
 ·unfold tz at h
  cases hp:xJ s q with
  | error e=>rw[hp] at h; exact nomatch h
  | ok x =>
   obtain⟨p,m⟩:=x;rw[hp] at h;dsimp only at h;obtain⟨a1,a2,a3,a4,a5,a6,a7,a8⟩:=xK.spell s q p m hq hp;by_cases hl:s.length<m+(p.MB - 49).toNat
   ·rw[QM hl] at h; exact nomatch h
   rw[QO hl] at h;by_cases hs:((DT p ((s.drop m).take (p.MB - 49).toNat):Nat):Int)=p.MQ
   ·rw[QM hs] at h
    cases ho:qS p ((s.drop m).take (p.MB - 49).toNat) with
    | error e=>rw[ho] at h; exact nomatch h
    | ok b' =>
     rw[ho] at h;injection h with h;obtain⟨rfl,rfl⟩:=NE h;obtain⟨c,l,rfl,d,f,k,n⟩:=Iv ho a8;have hn:((s.drop m).take (p.MB - 49).toNat).length=(p.MB - 49).toNat:=by rw[Np,Nb]; omega
     have g:(49:Int)+((dF gY l).length:Int)=p.MB:=by rw[<- d,hn]; omega
     have o:((uV (mkB p l):Nat):Int)=p.MQ:=by
      rw[<- hs,d];unfold uV;rw[pB_mk g c f];rfl
     have i:pB (mkB p l) (uV (mkB p l))=p:=by rw[pB_mk g c f,o]
     have j:iQ (mkB p l)=rI p++(s.drop m).take (p.MB - 49).toNat:=by
      unfold iQ;rw[i,d];rfl
     have a9:=congrArg List.length a4;refine⟨by omega,by omega,?_,?_,?_⟩
     ·rw[j,M8,hn]; omega
     ·rw[j,oT,a4,Nd]
     ·refine⟨by rw[i]; exact⟨a5,a6,a7,a8⟩,?_,k,n⟩;show dA (nX (eo p.MO 3) (eo p.MO 4) (eo p.MO 5))=0;rw[zJ c];exact c
   ·rw[QO hs] at h; exact nomatch h
 ·obtain⟨u,v,w,y⟩:=ha;unfold iQ at hd;rw[Nd] at hd;have hp:=xK.back s _ q _ hq u hd;have hd2:=cI hd;have hl:=congrArg List.length hd;rw[Nb,M8,M8] at hl;have hn:((pB a (uV a)).MB - 49).toNat=(body a).length:=by
   show ((49:Int)+((body a).length:Int) - 49).toNat= _;omega
  have ht:(s.drop (q+(rI (pB a (uV a))).length)).take (body a).length=body a:=by rw[hd2,List.take_left]
  unfold tz;rw[hp];dsimp only;rw[hn,ht,QO QI,QM (show ((DT (pB a (uV a)) (body a):Nat):Int)=(pB a (uV a)).MQ from rfl)];have hr:=zI a.Mg (body a) [] 0 (Nn _) w (by rw[List.drop_zero,Nx]; rfl);have ho:qS (pB a (uV a)) (body a)= .ok a:=by
   unfold qS;rw[QM (show dA (pB a (uV a)).MO=0 from v),show (pB a (uV a)).MR.toNat=a.Mg.length from rfl,hr];dsimp only;obtain⟨z,A,B⟩:=ES a.MS a.MI a.ML;have e:mkB (pB a (uV a)) a.Mg=a:=by
    unfold mkB pB;dsimp only;rw[z,A,B]
   rw[e,QO (by show ¬ 0+(body a).length < _; omega),QM y]
  rw[ho];dsimp only;unfold iQ;rw[M8,Nat.add_assoc]
def zBat:Bat:=⟨0,0,false,false,false,0,0,0,0,0,0,[]⟩
def bnR (r:Rec):Prop:=r.Ms.length<=1000000/\r.MD.data.length<=1000000/\r.Mu.data.length<=1000000
def bnB (a:Bat):Prop:=Aw a/\a.Mg.length<=1000000/\ ∀ r,r∈a.Mg->bnR r
theorem xU {α:Type} (enc:α->AI): ∀ (l:List α) (x:α),x∈l->(enc x).length<=(dF enc l).length
 | y::l,x,h=>by
  rw[dF,M8];rcases List.mem_cons.1 h with rfl | h
  ·omega
  ·have:=xU enc l x h;omega
theorem xV {α:Type} (enc:α->AI): ∀ (l:List α),(∀ x,x∈l->0<(enc x).length)->l.length<=(dF enc l).length
 | [],_=>Nn _
 | y::l,h=>by
  rw[dF,M8,Ng];have a:=h y (.head _);have:=xV enc l (fun x hx=>h x (.tail _ hx));omega
theorem Gd (h:Hd):0<(kX h).length:=by
 unfold kX;simp only[M8];have:=mI (bX (h.MD.length:Int));omega
theorem DU {x:Rec} (h:zz x) (hl:(gY x).length<=1000000):Ds x/\bnR x:=by
 obtain⟨_,a,b⟩:=Cc h;have e:(gY x).length=(eR (bX ((eG x).length:Int))).length+(eG x).length:=by unfold gY; rw[M8]
 have c:(eG x).length<=1000000:=by omega
 simp only[eG,pJ,vt,M8,aZ] at c;have g:=xV kX x.Ms (fun y _=>Gd y);have hS: ∀ d:AI,d.length<=1000000->wS d:=fun d hd=>by unfold wS; omega
 refine⟨⟨a,b,⟨trivial,hS _ QI⟩,⟨trivial,hS _ QI⟩,by omega,fun y hy=> ?_⟩,by omega,by omega,by omega⟩;have i:=xU kX x.Ms y hy;have f:(kX y).length<=1000000:=by omega
 simp only[kX,M8] at f;exact⟨hS _ QI,trivial,hS _ QI⟩
theorem AS {a:Bat} (h:bnB a):dX a=some (chk a)/\dq a=some (chk a):=by
 obtain⟨cr,c,b,d,_⟩:=DJ a h.1 h.2.1 h.2.2;have e:chk a=DI a cr c:=by unfold chk; rw[b]; rfl
 rw[e];exact⟨b,d⟩
theorem Iw (n:Int):bG n 8=decide (A0 n):=by
 rw[Bool.eq_iff_iff];unfold bG;simp only[Bool.and_eq_true,decide_eq_true_eq];have:(2:Int) ^ (8*(8:Int).toNat - 1)=9223372036854775808:=by decide
 omega
theorem wI8 {n:Int} (h:bG n (8:Nat)=true):wI n:=by
 have h':bG n 8=true:=h;rw[Iw] at h';have a:=of_decide_eq_true h';exact a
theorem wI4 {n:Int} (h:bG n (4:Nat)=true): -2147483648<=n/\n<=2147483647:=by
 have h':bG n 4=true:=h;rw[jX] at h';exact of_decide_eq_true h'
theorem wI2 {n:Int} (h:bG n (2:Nat)=true): -32768<=n/\n<=32767:=by
 have h':bG n 2=true:=h;rw[B6] at h';exact of_decide_eq_true h'
theorem sD {p:Pfx} (hp:okP p) {l:List Rec} (hl: ∀ x,x∈l->okRc x) (hb:(dF gY l).length<=1000000):bnB (mkB p l):=by
 obtain⟨⟨e,o,f,_,q,r,g,i,j,b,c,d,m,_⟩,_,_,_⟩:=hp;have a: ∀ {n:Int},bG n (4:Nat)=true->wI n:=fun h=>by have:=wI4 h; unfold wI; omega
 have k: ∀ {n:Int},bG n (2:Nat)=true->wI n:=fun h=>by have:=wI2 h; unfold wI; omega
 have hr: ∀ x,x∈l->Ds x/\bnR x:=fun x hx=>DU (hl x hx).1 (by have:=xU gY l x hx; omega);have s:=xV gY l (fun y _=>px y);exact⟨⟨wI8 e,a f,trivial,trivial,trivial,a g,wI8 i,wI8 j,wI8 b,k c,a d,by show l.length<= _; omega,fun x hx=>(hr x hx).1⟩,by show l.length<= _; omega,fun x hx=>(hr x hx).2⟩
theorem Cl (p:Pfx) (hc:p.MR<=2147483647) (s:AI) (hs:s.length<=1000000) (y:Int): ∀ (n k fuel:Nat) (acc:List Rec) (q:Nat),((k+n:Nat):Int)=p.MR->n<fuel->q<=s.length->acc.length<=q ->
 (∃ e,nU n s q= .error e/\e≠0/\d8 p fuel y k acc ⟨s.drop q,q,0⟩=some (.ret (zBat,e)))\/(∃ l r,nU n s q= .ok (l,r)/\q<=r/\r<=s.length/\d8 p fuel y k acc ⟨s.drop q,q,0⟩=some (.go (y,k+n,acc++l,⟨s.drop r,r,0⟩)))
 | 0,k,fuel+1,acc,q,hk,hf,hq,ha=> .inr ⟨[],q,rfl,NA _,hq,by rw[d8,QO QI,Nx,Nat.add_zero]⟩
 | n+1,k,fuel+1,acc,q,hk,hf,hq,ha=>by
  rw[d8,QM QI,sO,M3];dsimp only;rw[Nb,nU];by_cases hz:q=s.length
  ·rw[QM QI];exact .inl ⟨10,Pr.bind_err (QM hz),by decide,rfl⟩
  rw[QO QI,Pr.bind_of (show Ck s q= .ok ((),q) from QO hz)];rcases B_rec.run s q hs hq with⟨e,st,a,c,g,h⟩ | ⟨b,r,a,c,t,j⟩
  ·rw[c,M3];dsimp only;rw[bx,M3];dsimp only;rw[QO h];exact .inl ⟨e,Pr.bind_err a,by rw[<- g]; exact h,by rw[g]; rfl⟩
  ·have u:=(AL.spell s q b r hq a).2.2.1;have v:=px b;rw[c,M3];dsimp only;rw[bx,M3];dsimp only;rw[QM rfl,QM QI,QM QI,Pr.bind_of a];rcases Cl p hc s hs y n (k+1) fuel (acc ++ [b]) r QI QI j (by rw[M8,NY]; omega) with⟨e,d,i,f⟩ | ⟨l,m,d,i,f,o⟩
   ·exact .inl ⟨e,Pr.bind_err d,i,f⟩
   ·exact .inr ⟨b::l,m,by rw[Pr.bind_of d]; rfl,by omega,f,by rw[o,Nd,show k+1+n=k+(n+1) by omega]; rfl⟩
theorem bopen {p:Pfx} (hp:okP p) (s:AI) (hs:s.length<=1000000):(∃ e x,qS p s= .error e/\e≠0/\jt p s=some (x,e))\/(∃ b,qS p s= .ok b/\jt p s=some (b,0)):=by
 obtain⟨f,k,n,o⟩:=id hp;have ha:=wI2 f.2.2.2.2.2.1;have hc:=wI4 f.2.2.2.2.2.2.2.2.2.2.2.2.1;try dsimp only at ha
 unfold jt qS;rw[De _ QI,M3];by_cases a:dA p.MO=0;rotate_left
 ·rw[QO a,QO a];exact .inl ⟨_,_,rfl,a,rfl⟩
 rw[QM a,QM a,FM,M3];dsimp only;rw[kn _ QI,M3];rcases Cl p hc.2 s hs 0 p.MR.toNat 0 (p.MR.toNat+1) [] 0 QI QI (Nn _) (Nn _) with⟨e,c,g,d⟩ | ⟨l,m,c,g,d,h⟩
 ·rw[List.drop_zero] at d;rw[d,c];exact .inl ⟨e,_,rfl,g,rfl⟩
 ·rw[List.drop_zero] at h;obtain⟨q,r,i,t,j⟩:=pz _ s 0 l m (Nn _) c;rw[h,c,M3];dsimp only;rw[sO,M3];dsimp only;rw[Nb];by_cases hl:m<s.length
  ·rw[QM hl,QM (show ((s.length - m:Nat):Int)>0 by omega)];exact .inl ⟨_,_,rfl,by decide,rfl⟩
  ·rw[QO hl,QO (show ¬ ((s.length - m:Nat):Int)>0 by omega)];rw[List.take_of_length_le QI,List.take_zero,Nm] at i;have hB:=sD hp j (by rw[<- i]; exact hs);have e:dX (⟨p.ME,p.MA,eo p.MO 3,eo p.MO 4,eo p.MO 5,p.MC,p.Mr,p.MK,p.Md,p.Mf,p.Mv,[]++l⟩:Bat)=some (chk (mkB p l)):=(AS hB).1;rw[e,M3];by_cases hk:chk (mkB p l)=0
   ·rw[QM hk,hk];exact .inr ⟨_,rfl,rfl⟩
   ·rw[QO hk];exact .inl ⟨_,_,rfl,hk,rfl⟩
theorem B_bat:CB ju tz zBat:=by
 refine⟨fun st h=> ?_,fun s q hs hq=> ?_⟩
 ·unfold ju;rw[B_pfx.dead st h,M3];dsimp only;rw[QM QJ,og _ _ QJ,M3];dsimp only;have e:cy st ((0:Int) - 49)=([],st):=QM h;rw[show zP.MB=(0:Int) from rfl,e,bx,M3];dsimp only;rw[QO h];rfl
 ·unfold ju tz;rcases B_pfx.run s q hs hq with⟨e,st,a,c,k,d⟩ | ⟨p,r,a,c,n,o⟩
  ·refine .inl ⟨e,st,by rw[a],?_,k,d⟩;rw[c,M3];dsimp only;rw[QM QJ,og _ _ QJ,M3];dsimp only;have e:cy st ((0:Int) - 49)=([],st):=QM d;rw[show zP.MB=(0:Int) from rfl,e,bx,M3];dsimp only;rw[QO d];rfl
  ·obtain⟨a1,a2,a3,a4,ap⟩:=xK.spell s q p r hq a;obtain⟨f,l,u,v⟩:=id ap;have hL:=wI4 f.2.1;try dsimp only at hL
   have hT: (A0 (p.MB - 49)):=by omega
   rw[c,M3,a];dsimp only;rw[QM hT,og _ _ hT,M3];dsimp only;by_cases hl:s.length<r+(p.MB - 49).toNat
   ·have e:cy ⟨s.drop r,r,0⟩ (p.MB - 49)=([],⟨s.drop r,r,1⟩):=by
     unfold cy;rw[QO (by simp),QO QI,QM (by rw[Nb]; omega)]
    rw[QM hl,e,bx,M3];exact .inl ⟨1,⟨s.drop r,r,1⟩,rfl,rfl,rfl,by show (1:Int)≠0; decide⟩
   have e:cy ⟨s.drop r,r,0⟩ (p.MB - 49)=((s.drop r).take (p.MB - 49).toNat,⟨s.drop (r+(p.MB - 49).toNat),r+(p.MB - 49).toNat,0⟩):=by
    unfold cy;rw[QO (by simp),QO QI,QO (by rw[Nb]; omega),NM]
   rw[QO hl,e,bx,M3];dsimp only;have hn:((s.drop r).take (p.MB - 49).toNat).length=(p.MB - 49).toNat:=by rw[Np,Nb]; omega
   generalize (s.drop r).take (p.MB - 49).toNat=b at hn;have hlen:(rI p).length=61:=xL f;rw[QM rfl,H5 [] ⟨f,l⟩ QJ,M3,Nm,Fv,M3];dsimp only;rw[otx_z,JL,M3];dsimp only;rw[QM (show 21<=(rI p).length by omega)];have m:(gZ p).length<=61:=by rw[<- uU p,Nb]; omega
   have hs2 : [gZ p,b].flatten=gZ p++b:=by simp
   rw[uU,JM [gZ p,b] (by intro t ht; rcases List.mem_cons.1 ht with rfl | ht; omega; rw[List.mem_singleton.1 ht]; omega),M3,hs2];dsimp only;have hlt:oW 0 (gZ p++b)<4294967296:=AO QJ _;rw[QM (show (A0 ((oW 0 (gZ p++b):Nat):Int)) by omega)];by_cases hsum:((DT p b:Nat):Int)=p.MQ;rotate_left
   ·rw[QO hsum,QO (show ¬ ((oW 0 (gZ p++b):Nat):Int)=p.MQ from hsum),dx,M3];exact .inl ⟨5,_,rfl,rfl,rfl,by show (5:Int)≠0; decide⟩
   rw[QM hsum,QM (show ((oW 0 (gZ p++b):Nat):Int)=p.MQ from hsum)];rcases bopen ap b QI with⟨e,x,g,j,i⟩ | ⟨x,g,i⟩
   ·rw[g,i,M3];dsimp only;rw[QO j,dx,M3];exact .inl ⟨e,_,rfl,rfl,rfl,j⟩
   ·rw[g,i,M3];dsimp only;rw[QM rfl];exact .inr ⟨x,_,rfl,rfl,by omega,by omega⟩
def smB (a:Bat):Prop:=bnB a/\(∀ r,r∈a.Mg->rwt r<=900000)/\(body a).length<=900000
theorem uW {a:Bat} (h:okB a):(iQ a).length=61+(body a).length:=by
 unfold iQ;rw[M8,xL h.1.1]
def sE:List Rec->List Rec->Bool
 | x::l,y::m=>zD x y && sE l m
 | _,_=>true
def xW (a b:Bat):Bool:=decide (a.ME=b.ME/\a.MA=b.MA/\a.MS=b.MS/\a.MI=b.MI/\a.ML=b.ML/\a.MC=b.MC/\a.Mr=b.Mr/\a.MK=b.MK/\a.Md=b.Md/\a.Mf=b.Mf/\a.Mv=b.Mv/\a.Mg.length=b.Mg.length) && sE a.Mg b.Mg
theorem vw: ∀ l:List Rec,sE l l=true
 | []=>rfl
 | x::l=>by rw[sE,DP,vw l]; rfl
theorem DV (a:Bat):xW a a=true:=by
 unfold xW;rw[vw];simp
theorem ET (a b:Bat) (hn:a.Mg.length<=1000000) (y:Bool): ∀ (l m:List Rec) (k fuel:Nat),a.Mg.drop k=l->b.Mg.drop k=m->l.length=m.length->l.length<fuel->(∀ x,x∈l->x.Ms.length<=1000000)-> ∃ z,fB a b fuel y k=some (if sE l m=true then .go (y,z) else .ret false)
 | [],m,k,fuel+1,c,d,hl,hf,_=>by
  have:=eF c;exact⟨k,by rw[fB,QO QI]; rfl⟩
 | x::l,v::m,k,fuel+1,c,d,hl,hf,hw=>by
  obtain⟨e,f,i⟩:=dc c;obtain⟨g,h,j⟩:=dc d;rw[Ng] at hf;rw[Ng,Ng] at hl;obtain⟨z,hz⟩:=ET a b hn y l m (k+1) fuel f h QI QI (fun u hu=>hw u (.tail _ hu));refine⟨z,?_⟩;rw[fB,QM QI,e,M3,g,M3,Id x v (hw x (.head _)),M3,sE,QM (show (A0 ((k:Int)+1)) by omega),hz];cases zD x v <;> rfl
theorem Ix {a b:Bat} (hn:a.Mg.length<=1000000) (hw: ∀ x,x∈a.Mg->x.Ms.length<=1000000):mR a b=some (xW a b):=by
 have hL: ∀ o:Option Bool,o=some (xW a b)\/True:=fun _=> .inr trivial;unfold mR xW;by_cases f:a.ME=b.ME;rotate_left
 ·rw[QO f,M3,QM rfl,M5 (fun h=>f h.1)]; rfl
 by_cases c2:a.MA=b.MA;rotate_left
 ·rw[QM f,QO c2,M3,QM rfl,M5 (fun h=>c2 h.2.1)]; rfl
 by_cases k:a.MS=b.MS;rotate_left
 ·rw[QM f,QM c2,QO (by simpa using k),M3,QM rfl,M5 (fun h=>k h.2.2.1)]; rfl
 by_cases l:a.MI=b.MI;rotate_left
 ·rw[QM f,QM c2,QM (by simpa using k),QO (by simpa using l),M3,QM rfl,M5 (fun h=>l h.2.2.2.1)]; rfl
 by_cases n:a.ML=b.ML;rotate_left
 ·rw[QM f,QM c2,QM (by simpa using k),QM (by simpa using l),QO (by simpa using n),M3,QM rfl,M5 (fun h=>n h.2.2.2.2.1)]; rfl
 rw[QM f,QM c2,QM (by simpa using k),QM (by simpa using l),QM (by simpa using n)];by_cases c:a.MC=b.MC;rotate_left
 ·rw[QO c,M3,QM rfl,M5 (fun h=>c h.2.2.2.2.2.1)]; rfl
 by_cases e:a.Mr=b.Mr;rotate_left
 ·rw[QM c,QO e,M3,QM rfl,M5 (fun h=>e h.2.2.2.2.2.2.1)]; rfl
 by_cases g:a.MK=b.MK;rotate_left
 ·rw[QM c,QM e,QO g,M3,QM rfl,M5 (fun h=>g h.2.2.2.2.2.2.2.1)]; rfl
 by_cases j:a.Md=b.Md;rotate_left
 ·rw[QM c,QM e,QM g,QO j,M3,QM rfl,M5 (fun h=>j h.2.2.2.2.2.2.2.2.1)]; rfl
 by_cases d:a.Mf=b.Mf;rotate_left
 ·rw[QM c,QM e,QM g,QM j,QO d,M3,QM rfl,M5 (fun h=>d h.2.2.2.2.2.2.2.2.2.1)]; rfl
 by_cases i:a.Mv=b.Mv;rotate_left
 ·rw[QM c,QM e,QM g,QM j,QM d,QO i,M3,QM rfl,M5 (fun h=>i h.2.2.2.2.2.2.2.2.2.2.1)]; rfl
 by_cases m:a.Mg.length=b.Mg.length;rotate_left
 ·rw[QM c,QM e,QM g,QM j,QM d,QM i,QO QI,M3,QM rfl,M5 (fun h=>m h.2.2.2.2.2.2.2.2.2.2.2)]; rfl
 obtain⟨z,hz⟩:=ET a b hn false a.Mg b.Mg 0 (((a.Mg.length:Int)).toNat+1) rfl rfl m QI hw;rw[QM c,QM e,QM g,QM j,QM d,QM i,QM QI,M3,QO QJ,hz,M4 ⟨f,c2,k,l,n,c,e,g,j,d,i,m⟩,Bool.true_and];cases sE a.Mg b.Mg <;> rfl
theorem Iy (a:Bat) (s:Int):mkB (pB a s) a.Mg=a:=by
 obtain⟨b,c,d⟩:=ES a.MS a.MI a.ML;unfold mkB pB;dsimp only;rw[b,c,d]
theorem xX {b:Bat} (h:okB b) (hl:(iQ b).length<=1000000):bnB b:=by
 have a:=sD h.1 h.2.2.1 (by have:=uW h; unfold body at this; omega)
 rwa [Iy] at a
def n8:List Bat->List Bat->Bool
 | x::l,y::m=>xW x y && n8 l m
 | _,_=>true
def qsP (p q:bl):Bool:=decide (p.Mw=q.Mw/\p.Mq.length=q.Mq.length) && n8 p.Mq q.Mq
def DW:List bl->List bl->Bool
 | x::l,y::m=>qsP x y && DW l m
 | _,_=>true
def qsT (t u:aM):Bool:=decide (t.Mm=u.Mm/\t.Me.length=u.Me.length) && DW t.Me u.Me
def DX:List aM->List aM->Bool
 | x::l,y::m=>qsT x y && DX l m
 | _,_=>true
def Cm (a b:aC):Bool:=decide (a.Mk.null=b.Mk.null/\a.Mk.data=b.Mk.data/\a.Mz=b.Mz/\a.Mh=b.Mh/\a.Mc.length=b.Mc.length) && DX a.Mc b.Mc
theorem vx: ∀ l:List Bat,n8 l l=true
 | []=>rfl
 | x::l=>by rw[n8,DV,vx l]; rfl
theorem zK: ∀ l:List bl,DW l l=true
 | []=>rfl
 | x::l=>by rw[DW,qsP,vx,zK l,M4 ⟨rfl,rfl⟩]; rfl
theorem zL: ∀ l:List aM,DX l l=true
 | []=>rfl
 | x::l=>by rw[DX,qsT,zK,zL l,M4 ⟨rfl,rfl⟩]; rfl
theorem xY (a:aC):Cm a a=true:=by
 unfold Cm;rw[zL,M4 ⟨rfl,rfl,rfl,rfl,rfl⟩]; rfl
def ofP (p:bl):ej:=⟨p.Mw,p.Mq⟩
def ofT (t:aM):co:=⟨t.Mm,t.Me.map ofP⟩
def ofQ (a:aC):aX:=⟨a.Mk,a.Mz,a.Mh,a.Mc.map ofT⟩
theorem EU: ∀ (l:List bl) (acc:List ej),(acc.length+l.length)*32<=140737488355328->iW l acc=some (acc++l.map ofP)
 | [],acc,_=>by rw[List.map_nil,Nx]; rfl
 | x::l,acc,h=>by
  rw[Ng] at h;rw[iW,QM QI,EU l _ (by rw[M8,NY]; omega),Nd];rfl
theorem EV: ∀ (l:List aM) (acc:List co),(acc.length+l.length)*40<=140737488355328->(∀ t,t∈l->t.Me.length*32<=140737488351232)->iX l acc=some (acc++l.map ofT)
 | [],acc,_,_=>by rw[List.map_nil,Nx]; rfl
 | x::l,acc,h,hp=>by
  have hx:=hp x (.head _);rw[Ng] at h;rw[iX,EU x.Me [] (by rw[N8]; omega),M3,QM QI,EV l _ (by rw[M8,NY]; omega) (fun t ht=>hp t (.tail _ ht)),Nd];rfl
theorem zM (a b:List Bat) (hn:a.length<=140737488351232) (y:Bool): ∀ (l m:List Bat) (k fuel:Nat),a.drop k=l->b.drop k=m->l.length=m.length->l.length<fuel->(∀ x,x∈l->bnB x)-> ∃ z,fC a b fuel y k=some (if n8 l m=true then .go (y,z) else .ret false)
 | [],m,k,fuel+1,c,d,hl,hf,_=>by
  have:=eF c;exact⟨k,by rw[fC,QO QI]; rfl⟩
 | x::l,v::m,k,fuel+1,c,d,hl,hf,hw=>by
  obtain⟨e,f,i⟩:=dc c;obtain⟨g,h,j⟩:=dc d;have hx:=hw x (.head _);rw[Ng] at hf;rw[Ng,Ng] at hl;obtain⟨z,hz⟩:=zM a b hn y l m (k+1) fuel f h QI QI (fun u hu=>hw u (.tail _ hu));refine⟨z,?_⟩;rw[fC,QM QI,e,M3,g,M3,Ix hx.2.1 (fun z hz=>(hx.2.2 z hz).1),M3,n8,QM (show (A0 ((k:Int)+1)) by omega),hz];cases xW x v <;> rfl
theorem Iz {a b:List Bat} (hn:a.length<=140737488351232) (hw: ∀ x,x∈a->bnB x):lf a b=some (decide (a.length=b.length) && n8 a b):=by
 unfold lf;by_cases c:a.length=b.length
 ·obtain⟨z,hz⟩:=zM a b hn false a b 0 (((a.length:Int)).toNat+1) rfl rfl c QI hw;rw[QM QI,hz,M4 c,Bool.true_and];cases n8 a b <;> rfl
 ·rw[QO QI,M5 c];rfl
def bnT (t:aM):Prop:=t.Me.length<=140737488351232/\ ∀ p,p∈t.Me->p.Mq.length<=140737488351232/\ ∀ b,b∈p.Mq->bnB b
theorem EW (t u:aM) (hn:t.Me.length<=140737488351232) (y:Bool): ∀ (l m:List bl) (k fuel:Nat),t.Me.drop k=l->u.Me.drop k=m->l.length=m.length->l.length<fuel->(∀ p,p∈l->p.Mq.length<=140737488351232/\ ∀ b,b∈p.Mq->bnB b)-> ∃ z,eU (ofT t) (ofT u) fuel y k=some (if DW l m=true then .go (y,z) else .ret false)
 | [],m,k,fuel+1,c,d,hl,hf,_=>by
  have:=eF c;exact⟨k,by rw[eU,QO (by show ¬ (k:Int)<((t.Me.map ofP).length:Int); rw[NB]; omega)]; rfl⟩
 | x::l,v::m,k,fuel+1,c,d,hl,hf,hw=>by
  obtain⟨e,f,r⟩:=dc c;obtain⟨g,i,s⟩:=dc d;have hx:=hw x (.head _);rw[Ng] at hf;rw[Ng,Ng] at hl;obtain⟨z,hz⟩:=EW t u hn y l m (k+1) fuel f i QI QI (fun q hq=>hw q (.tail _ hq));refine⟨z,?_⟩;have j:(ofT t).Me[k]? = some (ofP x):=by show (t.Me.map ofP)[k]? = _; rw[List.getElem?_map,e]; rfl
  have n:(ofT u).Me[k]? = some (ofP v):=by show (u.Me.map ofP)[k]? = _; rw[List.getElem?_map,g]; rfl
  have o:lf (ofP x).Mq (ofP v).Mq=some (decide (x.Mq.length=v.Mq.length) && n8 x.Mq v.Mq):=Iz hx.1 hx.2;rw[eU,QM (by show (k:Int)<((t.Me.map ofP).length:Int); rw[NB]; omega),j,M3,n,M3,o,QM (show (A0 ((k:Int)+1)) by omega),hz,DW,qsP];show ((if x.Mw=v.Mw then _ else some true).bind _)= _;by_cases a:x.Mw=v.Mw
  ·rw[QM a,M3];by_cases c2:x.Mq.length=v.Mq.length
   ·rw[M4 c2,M4 (⟨a,c2⟩:x.Mw=v.Mw/\x.Mq.length=v.Mq.length)];cases n8 x.Mq v.Mq <;> rfl
   ·rw[M5 c2,M5 (fun h:x.Mw=v.Mw/\x.Mq.length=v.Mq.length=>c2 h.2)];rfl
  ·rw[QO a,M5 (fun h:x.Mw=v.Mw/\x.Mq.length=v.Mq.length=>a h.1)];rfl
theorem EX (a b:aC) (hn:a.Mc.length<=140737488351232) (y:Bool): ∀ (l m:List aM) (k fuel:Nat),a.Mc.drop k=l->b.Mc.drop k=m->l.length=m.length->l.length<fuel->(∀ t,t∈l->bnT t)-> ∃ z,eV (ofQ a) (ofQ b) fuel y k=some (if DX l m=true then .go (y,z) else .ret false)
 | [],m,k,fuel+1,d,e,hl,hf,_=>by
  have:=eF d;exact⟨k,by rw[eV,QO (by show ¬ (k:Int)<((a.Mc.map ofT).length:Int); rw[NB]; omega)]; rfl⟩
 | x::l,v::m,k,fuel+1,d,e,hl,hf,hw=>by
  obtain⟨g,i,u⟩:=dc d;obtain⟨j,n,w⟩:=dc e;have hx:=hw x (.head _);rw[Ng] at hf;rw[Ng,Ng] at hl;obtain⟨z,hz⟩:=EX a b hn y l m (k+1) fuel i n QI QI (fun q hq=>hw q (.tail _ hq));refine⟨z,?_⟩;have o:(ofQ a).Mc[k]? = some (ofT x):=by show (a.Mc.map ofT)[k]? = _; rw[List.getElem?_map,g]; rfl
  have p:(ofQ b).Mc[k]? = some (ofT v):=by show (b.Mc.map ofT)[k]? = _; rw[List.getElem?_map,j]; rfl
  have r:(ofT x).Me.length=x.Me.length:=NB _;have s:(ofT v).Me.length=v.Me.length:=NB _;rw[eV,QM (by show (k:Int)<((a.Mc.map ofT).length:Int); rw[NB]; omega),o,M3,p,M3,r,s,DX,qsT];show ((if x.Mm=v.Mm then _ else some true).bind _)= _;by_cases c:x.Mm=v.Mm
  ·rw[QM c];by_cases c2:x.Me.length=v.Me.length
   ·obtain⟨A,f⟩:=EW x v hx.1 y x.Me v.Me 0 (((x.Me.length:Int)).toNat+1) rfl rfl c2 QI hx.2;rw[QM QI,M3,QO QJ,f,M4 (⟨c,c2⟩:x.Mm=v.Mm/\x.Me.length=v.Me.length),Bool.true_and];cases DW x.Me v.Me
    ·rfl
    ·rw[QM rfl,M3];dsimp only;rw[QM (show (A0 ((k:Int)+1)) by omega),hz];rfl
   ·rw[QO QI,M3,QM rfl,M5 (fun h:x.Mm=v.Mm/\x.Me.length=v.Me.length=>c2 h.2)];rfl
  ·rw[QO c,M3,QM rfl,M5 (fun h:x.Mm=v.Mm/\x.Me.length=v.Me.length=>c h.1)];rfl
theorem IA {a b:aC} (hn:a.Mc.length<=140737488351232) (hw: ∀ t,t∈a.Mc->bnT t):il (ofQ a) (ofQ b)=some (Cm a b):=by
 have g:(ofQ a).Mc.length=a.Mc.length:=NB _;have i:(ofQ b).Mc.length=b.Mc.length:=NB _;unfold il Cm;rw[g,i];show ((if a.Mk.null=b.Mk.null then (if a.Mk.data=b.Mk.data then (if a.Mz=b.Mz then (if a.Mh=b.Mh then _ else some true) else some true) else some true) else some true).bind _)= _;by_cases c:a.Mk.null=b.Mk.null;rotate_left
 ·rw[QO c,M3,QM rfl,M5 (fun h=>c h.1)]; rfl
 by_cases c2:a.Mk.data=b.Mk.data;rotate_left
 ·rw[QM c,QO c2,M3,QM rfl,M5 (fun h=>c2 h.2.1)]; rfl
 by_cases d:a.Mz=b.Mz;rotate_left
 ·rw[QM c,QM c2,QO d,M3,QM rfl,M5 (fun h=>d h.2.2.1)]; rfl
 by_cases e:a.Mh=b.Mh;rotate_left
 ·rw[QM c,QM c2,QM d,QO e,M3,QM rfl,M5 (fun h=>e h.2.2.2.1)]; rfl
 by_cases f:a.Mc.length=b.Mc.length;rotate_left
 ·rw[QM c,QM c2,QM d,QM e,QO QI,M3,QM rfl,M5 (fun h=>f h.2.2.2.2)]; rfl
 obtain⟨z,hz⟩:=EX a b hn false a.Mc b.Mc 0 (((a.Mc.length:Int)).toNat+1) rfl rfl f QI hw;rw[QM c,QM c2,QM d,QM e,QM QI,M3,QO QJ,hz,M4 ⟨c,c2,d,e,f⟩,Bool.true_and];cases DX a.Mc b.Mc <;> rfl
theorem xZ (a b:AI) (ha:a.length<=140737488355328) (y:Bool): ∀ (u v:AI) (k fuel:Nat),a.drop k=u->b.drop k=v->v.length<fuel->k<=a.length->k<=b.length->(∃ r,cF a b fuel y k=some (.ret r)/\r=Op.bytesLess u v)\/(∃ z,cF a b fuel y k=some (.go z)/\Op.bytesLess u v=decide (a.length<b.length))
 | [],v,k,fuel+1,hu,hv,hf,e,f=>by
  have:=gk hu;right;refine⟨(y,k),by rw[cF,QO QI],?_⟩
  cases v with
  | nil =>
   have:=gk hv;simp[Op.bytesLess];omega
  | cons c v =>
   have:=(d9 hv).2.2;simp[Op.bytesLess];omega
 | c::u,[],k,fuel+1,hu,hv,hf,e,f=>by
  have j:=gk hv;have l:=(d9 hu).2.2;right;refine⟨(y,k),by rw[cF,QM QI,QO QI],?_⟩;simp[Op.bytesLess];omega
 | c::u,d::v,k,fuel+1,hu,hv,hf,e,f=>by
  obtain⟨g,i,m⟩:=d9 hu;obtain⟨v1,v2,v3⟩:=d9 hv;rw[Ng] at hf;rw[cF,QM QI,QM QI,g,v1];simp only[M3];by_cases hc:(c.toNat:Int)=(d.toNat:Int)
  ·have hcd:c=d:=UInt8.toNat_inj.1 QI;rw[QM hc,QM QI];have:=xZ a b ha y u v (k+1) fuel i v2 QI QI QI;have hb:Op.bytesLess (c::u) (d::v)=Op.bytesLess u v:=by
    rw[hcd];simp[Op.bytesLess]
   rw[hb];exact this
  ·rw[QO hc];left;have hcd:c≠d:=fun h=>hc (by rw[h]);by_cases hl:(c.toNat:Int)<(d.toNat:Int)
   ·refine⟨true,by rw[QM hl],?_⟩;have:c<d:=UInt8.lt_iff_toNat_lt.2 QI;simp[Op.bytesLess,this]
   ·refine⟨false,by rw[QO hl],?_⟩;have: ¬ c<d:=fun h=>hl (by have:=UInt8.lt_iff_toNat_lt.1 h; omega);simp[Op.bytesLess,this,hcd]
theorem IB (a b:AI) (ha:a.length<=140737488355328):jb a b=some (Op.bytesLess a b):=by
 unfold jb;rcases xZ a b ha false a b 0 (((b.length:Int)).toNat+1) rfl rfl QI (Nn _) (Nn _) with⟨r,c,d⟩ | ⟨z,c,d⟩
 ·rw[show ((0:Nat))=0 from rfl] at c;rw[c,d];rfl
 ·rw[c,d];simp only[M3];by_cases h:a.length<b.length
  ·rw[QM QI];simp[h]
  ·rw[QO QI];simp[h]
theorem Cn (x:Top) (hb:x.Me.length<=140737488355328) (y:Bool): ∀ (t:List Int) (p:Option Int) (k fuel:Nat),x.Me.drop k=t->t.length<fuel->(k=0->p=none)->(0<k->x.Me[k - 1]? = p/\p≠none)-> ∃ z,cG x fuel y k=some (if (t.all okn && up ltI p t)=true then .go (y,z) else .ret false)
 | [],p,k,fuel+1,h,hf,b,c=>by
  have:=gk h;refine⟨k,?_⟩;rw[cG,QO QI];cases p <;> rfl
 | n::t,p,k,fuel+1,h,hf,b,c=>by
  obtain⟨d,e,i⟩:=d9 h;rw[Ng] at hf;obtain⟨z,hz⟩:=Cn x hb y t (some n) (k+1) fuel e QI (fun h=>absurd h QI) (fun _=>⟨d,by simp⟩);rw[cG,QM QI,d];simp only[M3];rw[List.all_cons];by_cases a:n<0
  ·refine⟨0,?_⟩;rw[QM a,QO];simp only[okn,Bool.and_eq_true,decide_eq_true_eq];omega
  by_cases c2:n>2147483647
  ·refine⟨0,?_⟩;rw[QO a,QM c2,QO];simp only[okn,Bool.and_eq_true,decide_eq_true_eq];omega
  rw[QO a,QO c2];have ho:okn n=true:=by simp only[okn,Bool.and_eq_true,decide_eq_true_eq]; omega
  rcases Nat.eq_zero_or_pos k with hk | hk
  ·obtain rfl:=b hk;refine⟨z,?_⟩;rw[QO QI,QM QI,hz,ho,Bool.true_and,show up ltI none (n::t)=up ltI (some n) t from rfl]
  ·obtain⟨f,g⟩:=c hk;rw[QM QI,QM QI,QM QI,show ((k:Int) - 1).toNat=k - 1 by omega,f]
   cases p with
   | none=>exact absurd rfl g
   | some q =>
    simp only[M3];by_cases hc:q<n
    ·refine⟨z,?_⟩;rw[QO QI,QM QI,hz,ho,Bool.true_and];simp only[up,ltI,hc,decide_true,Bool.true_and]
    ·refine⟨0,?_⟩;rw[QM QI,QO];simp only[up,ltI,hc,decide_false,Bool.false_and,Bool.and_false,Bool.false_eq_true,not_false_eq_true]
theorem Co (a0:List Top) (hb:a0.length<=140737488355328) (hw: ∀ t,t∈a0->t.Me.length<=140737488355328/\t.Mm.length<=140737488355328) (y:Bool): ∀ (t:List Top) (p:Option Top) (k fuel:Nat),a0.drop k=t->t.length<fuel->(k=0->p=none)->(0<k->a0[k - 1]? = p/\p≠none)-> ∃ z,cP a0 fuel y k=some (if (t.all md && up Op.bytesLess (p.map (·.Mm)) (t.map (·.Mm)))=true then .go (y,z) else .ret false)
 | [],p,k,fuel+1,h,hf,f,g=>by
  have:=gk h;refine⟨k,?_⟩;rw[cP,QO QI];cases p <;> rfl
 | x::t,p,k,fuel+1,h,hf,f,g=>by
  obtain⟨e,j,m⟩:=d9 h;have hx:=hw x (List.mem_of_getElem? e);rw[Ng] at hf;obtain⟨z,hz⟩:=Co a0 hb hw y t (some x) (k+1) fuel j QI (fun h=>absurd h QI) (fun _=>⟨e,by simp⟩);rw[cP,QM QI,e,M3];rw[List.all_cons,List.map_cons];by_cases a:(x.Mm.length:Int)<1
  ·refine⟨0,?_⟩;have:x.Mm = []:=List.length_eq_zero_iff.1 QI;rw[QM a,QO];simp[md,this]
  by_cases c2:(x.Mm.length:Int)>32767
  ·refine⟨0,?_⟩;rw[QO a,QM c2,QO];simp[md,show ¬ x.Mm.length<=32767 by omega]
  by_cases b:(x.Me.length:Int)<1
  ·refine⟨0,?_⟩;have:x.Me = []:=List.length_eq_zero_iff.1 QI;rw[QO a,QO c2,QM b,QO];simp[md,yH,this]
  rw[QO a,QO c2,QO b];have hne:x.Mm.isEmpty=false:=by cases hh:x.Mm with | nil=>rw[hh] at a; simp at a | cons c u=>rfl
  have hnp:x.Me.isEmpty=false:=by cases hh:x.Me with | nil=>rw[hh] at b; simp at b | cons c u=>rfl
  have ho:md x=(x.Me.all okn && up ltI none x.Me):=by
   simp[md,yH,hne,hnp,show x.Mm.length<=32767 by omega]
  obtain⟨n,d⟩:=Cn x hx.1 y x.Me none 0 (((x.Me.length:Int)).toNat+1) rfl QI (fun _=>rfl) (fun h=>absurd h QI);rw[ho];rcases Nat.eq_zero_or_pos k with hk | hk
  ·obtain rfl:=f hk;rw[QO QI,AA,d]
   cases hq:(x.Me.all okn && up ltI none x.Me) with
   | false=>exact⟨0,by simp⟩
   | true =>
    refine⟨z,?_⟩;rw[QM rfl,M3,Bool.true_and];simp only;rw[QM QI,hz,show (none:Option Top).map (·.Mm)=none from rfl,show up Op.bytesLess none (x.Mm::t.map (·.Mm))=up Op.bytesLess (some x.Mm) (t.map (·.Mm)) from rfl];rfl
  ·obtain⟨i,l⟩:=g hk;rw[QM QI,QM QI,QM QI,show ((k:Int) - 1).toNat=k - 1 by omega,i]
   cases p with
   | none=>exact absurd rfl l
   | some q =>
    rw[M3];rw[IB _ _ (hw q (List.mem_of_getElem? i)).2];rw[M3,show (some q).map (·.Mm)=some q.Mm from rfl,show up Op.bytesLess (some q.Mm) (x.Mm::t.map (·.Mm))=(Op.bytesLess q.Mm x.Mm && up Op.bytesLess (some x.Mm) (t.map (·.Mm))) from rfl]
    cases hc:Op.bytesLess q.Mm x.Mm with
    | false=>exact⟨0,by simp⟩
    | true =>
     rw[QM rfl,d]
     cases hq:(x.Me.all okn && up ltI none x.Me) with
     | false=>exact⟨0,by simp⟩
     | true =>
      refine⟨z,?_⟩;rw[QM rfl,M3,Bool.true_and];simp only;rw[QM QI,hz];rfl
theorem IC (a0:List Top) (hb:a0.length<=140737488355328) (hw: ∀ t,t∈a0->t.Me.length<=140737488355328/\t.Mm.length<=140737488355328):ik a0=some (rH a0):=by
 unfold ik rH;obtain⟨z,hz⟩:=Co a0 hb hw false a0 none 0 (((a0.length:Int)).toNat+1) rfl QI (fun _=>rfl) (fun h=>absurd h QI);rw[show (none:Option Top).map (·.Mm)=none from rfl] at hz;rw[hz];cases (a0.all md && up Op.bytesLess none (a0.map (·.Mm))) <;> rfl
end Go.Proofs.YtheikonlgjdopaaGreat.Sl
