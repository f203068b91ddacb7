/- wholeFrames_holds: part 8. -/
import Derived.KernelRfl
import Derived.Test.YtheikonlgjdopaaGreatK7
set_option maxRecDepth 100000
set_option maxHeartbeats 4000000
set_option linter.defProp false
namespace Go.Proofs.YtheikonlgjdopaaGreat.Sl
open Go.RowKit
set_option linter.unusedVariables false
set_option linter.unusedSimpArgs false
theorem mT {d:List UInt8} (h:eD d=true):d.length<=32767/\d ≠ []:=by
 unfold eD at h;simp only[Bool.and_eq_true,decide_eq_true_eq,Bool.not_eq_true'] at h;refine⟨by omega,fun h0=> ?_⟩;rw[h0] at h;exact absurd h.1 Md
theorem lm {p e:Int} (h:who p e=true) (hp:wI p):bm p 8=true/\bm e 2=true:=by
 unfold who at h;have h:=of_decide_eq_true h;exact⟨by rw[Em]; exact Jq hp,by rw[sc]; exact Jq Mc⟩
theorem BJ (t:List UInt8) (b:Bool) (ht:t.length<=1000000):gm (t,0) b=some (t++jV b,0):=by
 unfold gm
 cases b with
 | true =>
  rw[Mg rfl,rl _ _ ⟨by decide,by decide,by simp only; omega⟩];rfl
 | false =>
  rw[Mh Md,rl _ _ ⟨by decide,by decide,by simp only; omega⟩];rfl
theorem xv (t:List UInt8) (e:Int):iB (t,0) e=some (if e=0 then (false,(t,0)) else (true,(t,e))):=by
 unfold iB;by_cases h:e=0
 ·rw[Mg h,Mg h,Jo,Mg h]
 ·rw[Mh h,Mh h,ma,Jo,Jo,Mh h];rfl
theorem yN (x:bH) (t:List UInt8) (hp:wI x.ID) (he:wI x.IF) (ht:t.length<=900000):gQ (t,0) x=some (if lW x.IJ x.ID x.IF=0 then (t++AC x,0) else (t,lW x.IJ x.ID x.IF)):=by
 unfold gQ fZ;rw[yI x he,Jo,xv,Jo];by_cases hc:lW x.IJ x.ID x.IF=0
 ·rw[Mg hc,Mg hc,Jo];simp only;have hk:eD x.IJ=true:=by
   unfold lW at hc;split at hc
   ·rename_i h; exact h
   ·exact absurd hc Md
  have hw:who x.ID x.IF=true:=by
   unfold lW at hc;rw[Mg hk] at hc;split at hc
   ·rename_i h; exact h
   ·exact absurd hc Md
  obtain⟨k1,_⟩:=mT hk;obtain⟨f1,f2⟩:=lm hw hp;rw[Mh Md,pI k1 Mc,Jo,dI f1 (by simp only[Js,ax]; omega),Jo,dI f2 (by simp only[Js,ax]; omega),Jo,BJ _ _ (by simp only[Js,ax]; omega),Jo];simp only[AC,sH,Jw];rfl
 ·rw[Mh hc,Mh hc,Jo];rfl
theorem sd {l:List Top} (h:sG l=0):l ≠ []/\yD l=true:=by
 unfold sG at h;split at h
 ·exact absurd h Md
 ·rename_i h1;split at h
  ·rename_i h2;exact⟨fun h0=>h1 (by rw[h0]; rfl),h2⟩
  ·exact absurd h Md
theorem wk {d:List UInt8} {p e:Int} {l:List Top} (hc:mR d p e l=0):eD d=true/\who p e=true/\sG l=0:=by
 unfold mR at hc;split at hc
 ·rename_i h1;split at hc
  ·rename_i h2; exact⟨h1,h2,hc⟩
  ·exact absurd hc Md
 ·exact absurd hc Md
theorem yO (x:bI) (t:List UInt8) (hp:wI x.ID) (he:wI x.IF) (hl:wTl x.IC) (hw2:wTs x.IC<=2000) (ht:t.length<=700000):gP (t,0) x=some (if mR x.IJ x.ID x.IF x.IC=0 then (t++AD x,0) else (t,mR x.IJ x.ID x.IF x.IC)):=by
 unfold gP fY;rw[yJ x he hl,Jo,xv,Jo];by_cases hc:mR x.IJ x.ID x.IF x.IC=0
 ·rw[Mg hc,Mg hc,Jo];simp only;obtain⟨hk,hw,hr⟩:=wk hc;obtain⟨k1,_⟩:=mT hk;obtain⟨f1,f2⟩:=lm hw hp
  rw[Mh Md,pI k1 Mc,Jo,dI f1 (by simp only[Js,ax]; omega),Jo,dI f2 (by simp only[Js,ax]; omega),Jo,
   uA x.IC _ (xt (sd hr).2 hw2) (by simp only[Js,ax]; omega) hw2,Jo]
  simp only[AD,sH,lQ,Jw];rfl
 ·rw[Mh hc,Mh hc,Jo];rfl
theorem uD {b:Bl} {t p e v:Int} (hc:fx b t p e v=0):bu b=true/\(b.null=true\/eD b.data=true)/\(0<=t/\t<=2147483647)/\(p= -1/\e= -1\/v>0/\who p e=true):=by
 unfold fx at hc;split at hc
 ·rename_i h1;split at hc
  ·rename_i h2;simp only[Bool.and_eq_true,Bool.or_eq_true,tmB,nobB,decide_eq_true_eq] at h1 h2;exact⟨h1.1,h1.2,h2.1,h2.2⟩
  ·exact absurd hc Md
 ·exact absurd hc Md
theorem BK {b:Bl} (hb:bu b=true) (h:b.null=true\/eD b.data=true):bm (blen b) 2=true/\b.data.length<=32767:=by
 unfold blen;rcases h with h | h
 ·have:b.data = []:=by unfold bu at hb; rw[h] at hb; simpa using hb
  rw[Mg h,this];exact⟨by decide,by decide⟩
 ·obtain⟨k1,_⟩:=mT h;refine⟨?_,k1⟩;split
  ·decide
  ·rw[sc]; exact Jq Mc
def yP (v:Int) (x:aT):List UInt8:=if v>0 then yM x else yL x
theorem pJ (x:aT) (v:Int) (t:List UInt8) (hp:wI x.ID) (he:wI x.IF) (hm:wI x.II) (ht:t.length<=900000):fL (t,0) x v=some (if fx x.IJ x.II x.ID x.IF v=0 then (t++yP v x,0) else (t,fx x.IJ x.II x.ID x.IF v)):=by
 unfold fL;rw[uB x v he hm,Jo,xv,Jo];by_cases hc:fx x.IJ x.II x.ID x.IF v=0
 ·rw[Mg hc,Mg hc];simp only;obtain⟨h1,h2,h3,h4⟩:=uD hc;obtain⟨f0,k1⟩:=BK h1 h2;have f4:bm x.II 4=true:=by rw[ej]; exact Jq Mc
  have f1:bm x.ID 8=true:=by rw[Em]; exact Jq hp
  have f2:bm x.IF 2=true:=by
   rcases h4 with h4 | h4
   ·rw[h4.2]; decide
   ·exact (lm h4.2 hp).2
  rw[Mh Md,iK f0 h1 Mc,Jo,dI f4 (by simp only[Js,ax]; omega),Jo];unfold yP;by_cases hv:v>0
  ·rw[Mg hv,Mg hv,dI f1 (by simp only[Js,ax]; omega),Jo,dI f2 (by simp only[Js,ax]; omega),Jo,Jo];simp only[yM,uC,Jw];rfl
  ·rw[Mh hv,Mh hv,Jo];simp only[yL,uC,Jw];rfl
 ·rw[Mh hc,Mh hc];rfl
def gE (x:bH):cG:=⟨⟨false,x.IJ⟩,0,x.ID,x.IF,[],x.I2⟩
def gA (x:bI):cG:=⟨⟨false,x.IJ⟩,0,x.ID,x.IF,x.IC,false⟩
def gB (x:aT):cG:=⟨x.IJ,x.II,x.ID,x.IF,[],false⟩
def Pr.map {α β:Type} (g:α->β) (p:Pr α):Pr β:=p.bind fun x=> .ret (g x)
theorem Sp.map {α β:Type} {p:Pr α} {enc:α->List UInt8} {ok:α->Prop} (g:α->β) (g':β->α) (hg: ∀ x,g' (g x)=x) (h:Sp p enc ok):Sp (p.map g) (fun y=>enc (g' y)) (fun y=>ok (g' y)/\g (g' y)=y):=by
 refine⟨fun s q y r hq hp=> ?_,fun s t q y hq hy hd=> ?_⟩
 ·obtain⟨x,m,h1,h2⟩:=Pr.bind_ok hp;injection h2 with h2;obtain⟨rfl,rfl⟩:=JP h2;obtain⟨a1,a2,a3,a4,a5⟩:=h.spell s q x m hq h1;rw[hg x];exact⟨a1,a2,a3,a4,a5,rfl⟩
 ·have:=h.back s t q (g' y) hq hy.1 hd;rw[Pr.map,Pr.bind_of this,hy.2];rfl
def zR:cG:=⟨⟨false,[]⟩,0,0,0,[],false⟩
noncomputable instance decTop:DecidableEq Top:=fun a b=>Classical.propDecidable (a=b)
theorem pK: ∀ (l m:List Top),iD l m=decide (l=m)
 | [],[]=>rfl
 | [],b::m=>by simp[iD]
 | a::l,[]=>by simp[iD]
 | a::l,b::m=>by
  rw[iD,pK l m];obtain⟨a1,a2⟩:=a;obtain⟨b1,b2⟩:=b;unfold yE;simp only;by_cases h1:a1=b1 <;> by_cases h2:a2=b2 <;> by_cases h3:l=m <;> simp[h1,h2,h3]
noncomputable instance decMark:DecidableEq aH:=fun a b=>Classical.propDecidable (a=b)
def toR (m:aH):eF:=⟨m.ID,m.IF,m.I2,m.IC,m.IU⟩
theorem BL: ∀ (l:List aH) (acc:List eF),acc.length+l.length<=1000000->fU l acc=some (acc++l.map toR)
 | [],acc,_=>by rw[fU]; simp
 | m::l,acc,h=>by
  rw[Jz] at h;rw[fU,Mg Mc,BL l _ (by rw[Js,Kt]; omega),List.map_cons,Jw];rfl
theorem of_eq (l:List aH) (h:l.length<=1000000):nO l=some (l.map toR):=by
 unfold nO;rw[BL l [] (by simpa using h)];rfl
def vJ (v:Int) (m:aH):Int:=if (who m.ID m.IF && (tmB m.IU && !(decide (v=0) && decide (m.IU≠0))))=true then sG m.IC else 11
def mU (v:Int):List aH->Int
 | []=>0
 | m::l=>if vJ v m=0 then mU v l else vJ v m
def mr (v:Int) (l:List aH):Int:=if l.length=0 then 10 else mU v l
def okW (m:aH):Prop:=wI m.IF/\wI m.IU/\wTl m.IC
theorem C4 (v:Int) (m:aH) (h:okW m):fO m v=some (vJ v m):=by
 obtain⟨h1,h2,h3⟩:=h;unfold fO vJ;rw[xu _ _ h1,yH _ h3,Jo];have hc:(if m.IU<0 then some true else ((ib m.IU 4).bind fun x18=>if x18=true then (if v=0 then (if m.IU>0 then some true else some false) else some false) else some true))=some (!(tmB m.IU && !(decide (v=0) && decide (m.IU≠0)))):=by
  unfold tmB;by_cases a:m.IU<0
  ·rw[Mg a,Jr Mc]; rfl
  ·rw[Mh a,fe _ _ h2,ej,Jo];by_cases b:m.IU<=2147483647
   ·rw[Mg (Jq Mc),Jq Mc];by_cases c:v=0
    ·rw[Mg c,Jq c];by_cases d:m.IU>0
     ·rw[Mg d,Jq Mc]; rfl
     ·rw[Mh d,Jr Mc]; rfl
    ·rw[Mh c,Jr c]; rfl
   ·rw[Mh (by simp; omega),Jr Mc]; rfl
 rw[hc];cases who m.ID m.IF <;> cases (tmB m.IU && !(decide (v=0) && decide (m.IU≠0))) <;> rfl
theorem sI (v:Int) (y:Int): ∀ l:List aH,(∀ m,m∈l->okW m)->eA v l y=some (if mU v l=0 then .go y else .ret (mU v l))
 | [],_=>rfl
 | m::l,h=>by
  rw[eA,C4 v m (h m (.head _)),Jo,mU];by_cases hc:vJ v m=0
  ·rw[Mg hc,Mg hc,sI v y l (fun z hz=>h z (.tail _ hz))]
  ·rw[Mh hc,Mh hc,Mh hc]
theorem AE (v:Int) (l:List aH) (h: ∀ m,m∈l->okW m):g9 l v=some (mr v l):=by
 unfold g9 mr;by_cases h0:l.length=0
 ·rw[Mg Mc,Mg h0]
 ·rw[Mh Mc,Mh h0,sI v 0 l h];by_cases hc:mU v l=0
  ·rw[Mg hc,hc]; rfl
  ·rw[Mh hc]; rfl
def wl (v:Int):Pr aH:=(eI 8).bind fun p=>(eI 2).bind fun e=>qK.bind fun c=>yK.bind fun l=>(if v>0 then eI 4 else .ret 0).bind fun k=> .ret ⟨p,e,c,l,k⟩
def ln (v:Int) (m:aH):List UInt8:=be m.ID 8++(be m.IF 2++(jV m.I2++(lQ m.IC++(if v>0 then be m.IU 4 else []))))
def okM (v:Int) (m:aH):Prop:=bm m.ID 8=true/\bm m.IF 2=true/\vI m.IC/\(if v>0 then bm m.IU 4=true else m.IU=0)
theorem Sp_co (v:Int):Sp (if v>0 then eI 4 else Pr.ret 0) (fun k=>if v>0 then be k 4 else []) (fun k=>if v>0 then bm k 4=true else k=0):=by
 by_cases hv:v>0
 ·simp only[Mg hv];exact spI 4
 ·simp only[Mh hv];exact Eg 0
theorem FU (v:Int):Sp (wl v) (ln v) (okM v):=by
 refine Sp.congr (Sp.seq (β:=aH) (π:=(·.ID)) (ok2:=fun x:aH=>bm x.IF 2=true/\vI x.IC/\(if v>0 then bm x.IU 4=true else x.IU=0)) (spI 8) fun p =>
  Sp.congr (Sp.seq (β:=aH) (π:=(·.IF)) (ok2:=fun x:aH=>vI x.IC/\(if v>0 then bm x.IU 4=true else x.IU=0)/\x.ID=p) (spI 2) fun e =>
  Sp.congr (Sp.seq (β:=aH) (π:=(·.I2)) (ok2:=fun x:aH=>vI x.IC/\(if v>0 then bm x.IU 4=true else x.IU=0)/\x.ID=p/\x.IF=e) BG fun c =>
  Sp.congr (Sp.seq (β:=aH) (π:=(·.IC)) (ok2:=fun x:aH=>(if v>0 then bm x.IU 4=true else x.IU=0)/\x.ID=p/\x.IF=e/\x.I2=c) sa fun l =>
  Sp.congr (Sp.seq (β:=aH) (π:=(·.IU)) (ok2:=fun x:aH=>x.ID=p/\x.IF=e/\x.I2=c/\x.IC=l) (Sp_co v) fun k =>
  (Eg (β:=aH) _).congr (ok':=fun x:aH=>(x.ID=p/\x.IF=e/\x.I2=c/\x.IC=l)/\x.IU=k) (fun x=> ?_) (fun _ _=>rfl)) (fun x=> ?_) (fun _ _=>rfl)) (fun x=> ?_) (fun _ _=>rfl)) (fun x=> ?_) (fun _ _=>rfl)) (fun x=> ?_) (fun _ _=>rfl)) (fun x=> ?_) (fun x _=>by simp only[ln,lQ,JE])
 ·obtain⟨a1,a2,a3,a4,a5⟩:=x;simp only[aH.mk.injEq];exact⟨fun ⟨h,h1,h2,h3,h4⟩=>⟨⟨h,h1,h2,h3⟩,h4⟩,fun ⟨⟨h,h1,h2,h3⟩,h4⟩=>⟨h,h1,h2,h3,h4⟩⟩
 ·exact⟨fun ⟨h,h1,h2,h3,h4⟩=>⟨⟨h,h1,h2,h3⟩,h4⟩,fun ⟨⟨h,h1,h2,h3⟩,h4⟩=>⟨h,h1,h2,h3,h4⟩⟩
 ·exact⟨fun ⟨h,h1,h2,h3,h4⟩=>⟨⟨h,h1,h2,h3⟩,h4⟩,fun ⟨⟨h,h1,h2,h3⟩,h4⟩=>⟨h,h1,h2,h3,h4⟩⟩
 ·exact⟨fun ⟨_,h,h1,h2,h3⟩=>⟨⟨h,h1,h2⟩,h3⟩,fun ⟨⟨h,h1,h2⟩,h3⟩=>⟨trivial,h,h1,h2,h3⟩⟩
 ·exact⟨fun ⟨h,h1,h2,h3⟩=>⟨⟨h,h1,h2⟩,h3⟩,fun ⟨⟨h,h1,h2⟩,h3⟩=>⟨h,h1,h2,h3⟩⟩
 ·exact Iff.rfl
theorem FV (v:Int) (m:aH) (h:okM v m):15<=(ln v m).length:=by
 have:(jV m.I2).length=1:=ax _ _;simp only[ln,lQ,Js,ax];omega
theorem uE (v:Int) (m:aH):15+wTs m.IC<=(ln v m).length/\(ln v m).length<=19+wTs m.IC:=by
 have:(jV m.I2).length=1:=ax _ _;have h2:=jK m.IC;simp only[ln,lQ,Js,ax,h2];split <;> simp only[ax,J6] <;> omega
def wm (v:Int) (st11:I):Option (Option aH×I):=(dB st11 8).bind fun (x20,st21)=>(dB st21 2).bind fun (x23,st24)=>(fA st24).bind fun (x26,st27)=>(dr st27).bind fun (x30,st33)=>(if v>0 then ((dB st33 4).bind fun (x43,st44)=>some (x43,st44)) else some (0,st33)).bind fun (y39,st40)=>if st40.err=0 then some (some ⟨x20,x23,x26,x30,y39⟩,st40) else some (none,st40)
theorem B_co (v:Int):CB (fun st33=>if v>0 then ((dB st33 4).bind fun (x43,st44)=>some (x43,st44)) else some (0,st33)) (if v>0 then eI 4 else Pr.ret 0) 0:=by
 by_cases hv:v>0
 ·simp only[Mg hv];refine CB.congr Q4.cb (fun st=> ?_);cases dB st 4 <;> rfl
 ·simp only[Mh hv];exact⟨fun _ _=>rfl,fun s q _ hq=> .inr ⟨0,q,rfl,rfl,JN _,hq⟩⟩
theorem w_co (v:Int): ∀ (s:List UInt8) (q:Nat) (a:Int) (r:Nat),s.length<=1000000->q<=s.length->(if v>0 then eI 4 else Pr.ret 0) s q= .ok (a,r)->wI a:=by
 intro s q a r hl hq h;by_cases hv:v>0
 ·rw[Mg hv] at h;exact oe Md Md s q a r hl hq h
 ·rw[Mh hv] at h;injection h with h;rw[<- (JP h).1];exact wi0
theorem FW (v:Int):CB (wm v) ((wl v).map some) none:=by
 have h:CB (wm v) ((eI 8).bind fun p=>(eI 2).bind fun e=>qK.bind fun c=>yK.bind fun l=>(if v>0 then eI 4 else .ret 0).bind fun k=> .ret (some ⟨p,e,c,l,k⟩)) none:=by
  refine CB.congr (CB.bind wI Q8.cb (oe Md Md) wi0 fun p hp=>CB.bind wI Q2.cb (oe Md Md) wi0 fun e he=>CB.bind (fun _=>True) En (fun _ _ _ _ _ _ _=>trivial) trivial fun c _=>CB.bind wTl yC Eo ⟨(fun t h=>nomatch h),by decide⟩ fun l hl=>CB.bind wI (B_co v) (w_co v) wi0 fun k hk =>
   (?_:CB (fun st40:I=>if st40.err=0 then some (some (⟨p,e,c,l,k⟩:aH),st40) else some ((none:Option aH),st40)) (Pr.ret (some (⟨p,e,c,l,k⟩:aH))) none)) (fun st=>rfl)
  exact⟨fun st h=>Mh h,fun s q _ hq=> .inr ⟨_,q,rfl,rfl,JN _,hq⟩⟩
 refine h.pr ?_;funext s q;unfold wl Pr.map Pr.bind
 cases eI 8 s q with
 | error e=>rfl
 | ok x =>
  simp only
  cases eI 2 s x.2 with
  | error e=>rfl
  | ok x =>
   simp only
   cases qK s x.2 with
   | error e=>rfl
   | ok x =>
    simp only
    cases yK s x.2 with
    | error e=>rfl
    | ok x =>
     simp only;cases (if v>0 then eI 4 else Pr.ret 0) s x.2 <;> rfl
theorem Pr.map_err {α β:Type} {p:Pr α} {g:α->β} {s:List UInt8} {q:Nat} {e:Int} (h:p.map g s q= .error e):p s q= .error e:=by
 unfold Pr.map Pr.bind at h
 cases hp:p s q with
 | error e' =>
  rw[hp] at h;injection h with h;rw[h]
 | ok x=>rw[hp] at h; exact nomatch h
theorem Pr.map_ok {α β:Type} {p:Pr α} {g:α->β} {s:List UInt8} {q r:Nat} {y:β} (h:p.map g s q= .ok (y,r)): ∃ a,p s q= .ok (a,r)/\y=g a:=by
 unfold Pr.map Pr.bind at h
 cases hp:p s q with
 | error e'=>rw[hp] at h; exact nomatch h
 | ok x =>
  rw[hp] at h;injection h with h;obtain⟨rfl,rfl⟩:=JP h;exact⟨x.1,rfl,rfl⟩
theorem AF {γ:Type} (K:aH->I->Option γ) (D:I->Option γ) (v:Int) (st:I) :
 ((dB st 8).bind fun (x20,st21)=>(dB st21 2).bind fun (x23,st24)=>(fA st24).bind fun (x26,st27)=>(dr st27).bind fun (x30,st33)=>(if v>0 then ((dB st33 4).bind fun (x43,st44)=>some (x43,st44)) else some (0,st33)).bind fun (y39,st40)=>(gt st40).bind fun (x46,st47)=>if x46=0 then K ⟨x20,x23,x26,x30,y39⟩ st47 else D st47) =
 (wm v st).bind fun (o,st47)=>match o with
  | some m=>K m st47
  | none=>D st47:=by
 unfold wm
 cases dB st 8 with
 | none=>rfl
 | some x =>
  obtain⟨a1,s1⟩:=x;simp only[Jo]
  cases dB s1 2 with
  | none=>rfl
  | some x =>
   obtain⟨a2,s2⟩:=x;simp only[Jo]
   cases fA s2 with
   | none=>rfl
   | some x =>
    obtain⟨a3,s3⟩:=x;simp only[Jo]
    cases dr s3 with
    | none=>rfl
    | some x =>
     obtain⟨a4,s4⟩:=x;simp only[Jo]
     cases (if v>0 then ((dB s4 4).bind fun (x43,st44)=>some (x43,st44)) else some (0,s4)) with
     | none=>rfl
     | some x =>
      obtain⟨a5,s5⟩:=x;simp only[Jo,bn];by_cases he:s5.err=0
      ·rw[Mg he,Mg he,Jo]
      ·rw[Mh he,Mh he,Jo]
theorem mV (v n:Int) (fuel:Nat) (y4 acc:List aH) (k:Nat) (st:I) (hk:k<=1000000) (ha:acc.length<=1000000) :
 cU v n (fuel+1) y4 acc k st=if (k:Int)<n then (wm v st).bind fun (o,st47)=>match o with
  | some m=>cU v n fuel y4 (acc ++ [m]) (k+1) st47
  | none=>some (.ret ([],st47)) else some (.go (y4,acc,k,st)):=by
 rw[cU];by_cases h:(k:Int)<n
 case neg=>rw[Mh h,Mh h]
 rw[Mg h,Mg h];refine (AF (fun m st47=>if (acc.length+1)*56<=140737488355328 then (if -9223372036854775808<=((k:Int)+1)/\((k:Int)+1)<=9223372036854775807 then cU v n fuel y4 (acc ++ [m]) (k+1) st47 else none) else none) (fun st47=>some (.ret ([],st47))) v st).trans ?_
 cases wm v st with
 | none=>rfl
 | some x =>
  obtain⟨o,s⟩:=x;rw[Jo,Jo]
  cases o with
  | none=>rfl
  | some m =>
   show (if (acc.length+1)*56<=140737488355328 then _ else _)= _;rw[Mg Mc,Mg Mc]
theorem uF (v n:Int) (s:List UInt8) (hs:s.length<=1000000) (y:List aH): ∀ (m fuel k:Nat) (acc:List aH) (q:Nat),((k+m:Nat):Int)=n->m<fuel->q<=s.length->acc.length=k->k+m<=1000000 ->
 (∃ e st,il (wl v) m s q= .error e/\e≠0/\st.err=e/\cU v n fuel y acc k ⟨s.drop q,q,0⟩=some (.ret ([],st)))\/(∃ l r,il (wl v) m s q= .ok (l,r)/\cU v n fuel y acc k ⟨s.drop q,q,0⟩=some (.go (y,acc++l,k+m,⟨s.drop r,r,0⟩))/\q<=r/\r<=s.length)
 | 0,fuel+1,k,acc,q,hn,hf,hq,ha,hk=>by
  refine .inr ⟨[],q,rfl,?_,JN _,hq⟩;rw[mV _ _ _ _ _ _ _ Mc Mc,Mh Mc,JE,Nat.add_zero]
 | m+1,fuel+1,k,acc,q,hn,hf,hq,ha,hk=>by
  rw[mV _ _ _ _ _ _ _ Mc Mc,Mg Mc];rcases (FW v).run s q hs hq with⟨e,st,p1,g1,x1,y1⟩ | ⟨o,r,p1,g1,n1,l1⟩
  ·refine .inl ⟨e,st,?_,by rw[<- x1]; exact y1,x1,?_⟩
   ·rw[il,Pr.bind_err (Pr.map_err p1)]
   ·rw[g1];rfl
  ·obtain⟨a,p2,rfl⟩:=Pr.map_ok p1;have ih:=uF v n s hs y m fuel (k+1) (acc ++ [a]) r Mc Mc l1 (by rw[Js,Kt,ha]) Mc;rw[g1,Jo];simp only;rcases ih with⟨e,st,h1,h2,h3,h4⟩ | ⟨l,r',h1,h2,h3,h4⟩
   ·exact .inl ⟨e,st,by rw[il,Pr.bind_of p2,Pr.bind_err h1],h2,h3,h4⟩
   ·refine .inr ⟨a::l,r',by rw[il,Pr.bind_of p2,Pr.bind_of h1]; rfl,?_,by omega,h4⟩;rw[h2,Jw,show k+1+m=k+(m+1) by omega];rfl
def pMs (v:Int):Pr (List aH):=ko 4 15 (wl v)
def sJ (v:Int) (l:List aH):List UInt8:=be (l.length:Int) 4++aS (ln v) l
theorem Sp_ms (v:Int):Sp (pMs v) (sJ v) (fun l=>bm (l.length:Int) 4=true/\ ∀ m,m∈l->okM v m):=ut 4 15 Md Md (FU v) (FV v)
def og (v:Int):Pr (List aH):=(pMs v).bind fun l=>if mr v l=0 then .ret l else .err (mr v l)
theorem Eu (v:Int):Sp (og v) (sJ v) (fun l=>(bm (l.length:Int) 4=true/\ ∀ m,m∈l->okM v m)/\mr v l=0):=by
 refine Sp.congr (Sp.seq (β:=List aH) (π:=id) (ok2:=fun l:List aH=>mr v l=0) (Sp_ms v) fun l=>(uu (β:=List aH) _ _ _).congr (ok':=fun x:List aH=>mr v x=0/\id x=l) (fun x=> ?_) (fun _ _=>rfl)) (fun x=>Iff.rfl) (fun x _=>by rw[JE]; rfl);exact⟨fun ⟨h1,h2⟩=>⟨by rw[h2]; exact h1,h2⟩,fun ⟨h1,h2⟩=>⟨by have h2:x=l:=h2; rw[<- h2]; exact h1,h2⟩⟩
theorem yQ {l:List Top} (h:vI l) (hw:wTs l<=1000000):wTl l:=by
 have hn:=jg l;refine⟨fun t ht=> ?_,by omega⟩;have hm:=qM _ _ ht;unfold wT at hm;obtain⟨b1,b2,b3⟩:=h.2 t ht;exact⟨by show t.IW.length<= _; omega,by show t.IH.length<= _; omega,fun n hn=>d7 (b3 n hn)⟩
theorem okM_co {v:Int} {m:aH} (h:okM v m):wI m.IU:=by
 have:=h.2.2.2;split at this
 ·exact d7 this
 ·rw[this]; exact wi0
theorem okM_W {v:Int} {m:aH} (h:okM v m) (hw:wTs m.IC<=1000000):okW m:=⟨d7 h.2.1,okM_co h,yQ h.2.2.1 hw⟩
theorem C5 (v:Int) (l:List aH) (m:aH) (hm:m∈l):wTs m.IC<=(sJ v l).length:=by
 have h1:=mS (enc:=ln v) l m hm;have h2:=(uE v m).1;rw[sJ,Js];omega
theorem Ev (l:List UInt8) (q:Nat) (e:Int):bT ⟨l,q,0⟩ e=some (⟨l,q,e⟩:I):=by rw[cY]; rfl
theorem FX (v:Int):CB (fun st=>fp st v) (og v) []:=by
 refine⟨fun st h=> ?_,fun s q hs hq=> ?_⟩
 ·show fp st v= _;unfold fp;rw[lk h ⟨by decide,by decide⟩ ⟨by decide,by decide⟩,Jo];simp only;rw[show ((0:Int).toNat+1)=0+1 from rfl,mV _ _ _ _ _ _ _ Md Md,Mh Md,Jo];simp only;rw[bn,Jo];simp only;rw[Mh h]
 ·show (∃ e st,og v s q= _/\fp _ v= _/\ _/\ _)\/(∃ a r,og v s q= _/\fp _ v= _/\ _/\ _);unfold fp;rcases (qJ 4 15 Md Md 4 15 rfl rfl Md).run s q hq with⟨e,st,p1,g1,x1,y1⟩ | ⟨n,r,p1,g1,n1,l1⟩
  ·refine .inl ⟨e,st,?_,?_,x1,y1⟩
   ·rw[og,Pr.bind_err (by rw[pMs,ko,Pr.bind_err p1])]
   ·rw[g1,Jo];simp only;rw[show ((0:Int).toNat+1)=0+1 from rfl,mV _ _ _ _ _ _ _ Md Md,Mh Md,Jo];simp only;rw[bn,Jo];simp only;rw[Mh y1]
  ·obtain⟨c1,c2,c3,c4,c5,c6⟩:=kP Md Md hq p1;have c2:=c2 Md;rw[g1,Jo];simp only;rcases uF v n s hs [] n.toNat (n.toNat+1) 0 [] r Mc Mc l1 rfl Mc with⟨e,st,h1,h2,h3,h4⟩ | ⟨l,r',h1,h2,h3,h4⟩
   ·refine .inl ⟨e,st,?_,?_,h3,by rw[h3]; exact h2⟩
    ·rw[og,Pr.bind_err (by rw[pMs,ko,Pr.bind_of p1,h1])]
    ·rw[h4];rfl
   ·have hms:pMs v s q= .ok (l,r'):=by rw[pMs,ko,Pr.bind_of p1,h1]
    obtain⟨b1,b2,b3,b4,b5,b6⟩:=(Sp_ms v).spell s q l r' hq hms;have hW: ∀ m,m∈l->okW m:=fun m hm=>okM_W (b6 m hm) (by have:=C5 v l m hm; omega);rw[h2,Jo];simp only[JI];rw[bn,Jo];simp only[if_true];rw[AE v l hW,Jo,og,Pr.bind_of hms];by_cases hc:mr v l=0
    ·rw[Mg hc,Mg hc];exact .inr ⟨l,r',rfl,rfl,by omega,h4⟩
    ·rw[Mh hc,Mh hc,Ev];exact .inl ⟨mr v l,_,rfl,rfl,rfl,hc⟩
theorem sK (v:Int): ∀ (l:List aH) (t:List UInt8),(∀ m,m∈l->okM v m/\wTs m.IC<=2000)->t.length+(aS (ln v) l).length<=800000->dX v l (t,0)=some (t++aS (ln v) l,0)
 | [],t,_,_=>by rw[dX,aS,JE]
 | m::l,t,h,ht=>by
  obtain⟨⟨o1,o2,o3,o4⟩,hw⟩:=h m (.head _);rw[aS,Js] at ht;have hl:=(uE v m).1;have hb:(jV m.I2).length=1:=ax _ _
  rw[dX,dI o1 Mc,Jo,dI o2 (by rw[Js,ax]; omega),Jo,BJ _ _ (by rw[Js,Js,ax,ax]; omega),Jo,
   uA m.IC _ o3.2 (by rw[Js,Js,Js,ax,ax,hb]; omega) hw,Jo]
  have ih:=fun t' (h':t'.length+(aS (ln v) l).length<=800000)=>sK v l t' (fun z hz=>h z (.tail _ hz)) h';have htl:(lQ m.IC).length=4+wTs m.IC:=by rw[lQ,Js,ax,jK]
  by_cases hv:v>0
  ·rw[Mg hv] at o4;have e:ln v m=be m.ID 8++(be m.IF 2++(jV m.I2++(lQ m.IC++be m.IU 4))):=by rw[ln,Mg hv]
   have el:(ln v m).length=8+(2+(1+(4+wTs m.IC+4))):=by rw[e]; simp only[Js,ax,hb,htl]
   rw[Mg hv,dI o4 (by simp only[Js,ax,hb,jK]; omega),Jo,Jo,ih _ (by simp only[Js,ax,hb,jK,show (8:Int).toNat=8 from rfl,show (2:Int).toNat=2 from rfl,show (4:Int).toNat=4 from rfl]; omega),aS,e];simp only[lQ,Jw];rfl
  ·have e:ln v m=be m.ID 8++(be m.IF 2++(jV m.I2++lQ m.IC)):=by rw[ln,Mh hv,JE]
   have el:(ln v m).length=8+(2+(1+(4+wTs m.IC))):=by rw[e]; simp only[Js,ax,hb,htl]
   rw[Mh hv,Jo,ih _ (by simp only[Js,ax,hb,jK,show (8:Int).toNat=8 from rfl,show (2:Int).toNat=2 from rfl]; omega),aS,e];simp only[lQ,Jw];rfl
theorem C6 {v:Int} {m:aH} (h:vJ v m=0):who m.ID m.IF=true/\(0<=m.IU/\m.IU<=2147483647)/\(v=0->m.IU=0)/\sG m.IC=0:=by
 unfold vJ at h;split at h
 ·rename_i h1;simp only[Bool.and_eq_true,tmB,decide_eq_true_eq,Bool.not_eq_true',Bool.and_eq_false_iff,decide_eq_false_iff_not] at h1;refine⟨h1.1,h1.2.1,fun hv=> ?_,h⟩;rcases h1.2.2 with h2 | h2
  ·exact absurd hv h2
  ·exact Classical.byContradiction h2
 ·exact absurd h Md
theorem sL {v:Int}: ∀ {l:List aH},mU v l=0-> ∀ m,m∈l->vJ v m=0
 | a::l,h,m,hm=>by
  rw[mU] at h;by_cases hc:vJ v a=0
  ·rw[Mg hc] at h;rcases List.mem_cons.1 hm with rfl | hm
   ·exact hc
   ·exact sL h m hm
  ·rw[Mh hc] at h;exact absurd h hc
theorem FY {v:Int} (hv:v=0\/v=1) {m:aH} (h:vJ v m=0) (hp:wI m.ID) (hw:wTs m.IC<=2000):okM v m:=by
 obtain⟨h1,h2,h3,h4⟩:=C6 h;obtain⟨f1,f2⟩:=lm h1 hp;refine⟨f1,f2,⟨by rw[ej]; exact Jq (by have:=jg m.IC; omega),xt (sd h4).2 hw⟩,?_⟩;rcases hv with rfl | rfl
 ·rw[Mh Md]; exact h3 rfl
 ·rw[Mg Md,ej]; exact Jq Mc
theorem wn (v:Int): ∀ (l:List aH) (b:Nat),(∀ m,m∈l->wTs m.IC<=b)->(aS (ln v) l).length<=l.length*(19+b)
 | [],_,_=>by simp[aS]
 | m::l,b,h=>by
  have h1:=(uE v m).2;have h2:=h m (.head _);have h3:=wn v l b (fun z hz=>h z (.tail _ hz));rw[aS,Js,Jz,Nat.add_mul];omega
theorem qN (a b:List eF) (h0:a.length<=1000000) (y:Bool): ∀ (l u:List aH) (k fuel:Nat),(∀ m,m∈l->m.IC.length<=1000000/\ ∀ t,t∈m.IC->t.IH.length<=140737488355328)->a.drop k=l.map toR->b.drop k=u.map toR->l.length=u.length->l.length<fuel-> ∃ z,eO a b fuel y k=some (if l=u then .go (y,z) else .ret false)
 | [],[],k,fuel+1,_,ha,_,_,_=>by
  have:=uv ha;exact⟨k,by rw[eO,Mh Mc,Mg rfl]⟩
 | [],d::u,k,fuel,_,_,_,hl,_=>by simp at hl
 | c::l,[],k,fuel,_,_,_,hl,_=>by simp at hl
 | c::l,d::u,k,fuel+1,hx,ha,hb,hl,hf=>by
  obtain⟨t1,t2,t3⟩:=iw ha;obtain⟨u1,u2,u3⟩:=iw hb;simp only[Jz] at hl hf;obtain⟨z,hz⟩:=qN a b h0 y l u (k+1) fuel (fun m hm=>hx m (.tail _ hm)) t2 u2 Mc Mc;have hc:=hx c (.head _);rw[eO,Mg Mc,t1,Jo,u1,Jo];have hq:(if (toR c).ID=(toR d).ID then (if (toR c).IF=(toR d).IF then (if (toR c).I2=true then (if (toR d).I2=true then (if (toR c).IU=(toR d).IU then ((cI (toR c).IC (toR d).IC).bind fun x58=>if x58=true then some false else some true) else some true) else some true) else (if (toR d).I2=true then some true else (if (toR c).IU=(toR d).IU then ((cI (toR c).IC (toR d).IC).bind fun x63=>if x63=true then some false else some true) else some true))) else some true) else some true)=some (!decide (c=d)):=by
   rw[uz (toR c).IC _ hc.1 hc.2,pK];obtain⟨a1,a2,a3,a4,a5⟩:=c;obtain⟨b1,b2,b3,b4,b5⟩:=d;simp only[aH.mk.injEq,Jo,toR];by_cases h1:a1=b1 <;> by_cases h2:a2=b2 <;> by_cases h4:a4=b4 <;> by_cases h5:a5=b5 <;> cases a3 <;> cases b3 <;> simp[h1,h2,h4,h5]
  rw[hq,Jo];by_cases hcd:c=d
  ·rw[Jq hcd,Mh Md,Mg Mc];refine⟨z,hz.trans ?_⟩;by_cases hlu:l=u
   ·rw[Mg hlu,Mg (by rw[hcd,hlu])]
   ·rw[Mh hlu,Mh (fun h=>hlu (List.cons.inj h).2)]
  ·rw[Jr hcd,Mg Md];exact⟨0,by rw[Mh (fun h=>hcd (List.cons.inj h).1)]⟩
theorem uG (l u:List aH) (h0:l.length<=1000000) (hx: ∀ m,m∈l->m.IC.length<=1000000/\ ∀ t,t∈m.IC->t.IH.length<=140737488355328):iA (l.map toR) (u.map toR)=some (decide (l=u)):=by
 unfold iA;rw[Kn,Kn];by_cases hl:(l.length:Int)=(u.length:Int)
 ·obtain⟨z,hz⟩:=qN (l.map toR) (u.map toR) (by rw[Kn]; omega) false l u 0 ((l.length:Int).toNat+1) hx List.drop_zero List.drop_zero Mc Mc;rw[Mg hl,hz];by_cases h:l=u
  ·rw[Mg h,Jq h]; rfl
  ·rw[Mh h,Jr h]; rfl
 ·rw[Mh hl,Jr (fun h=>hl (by rw[h]))]
theorem uH (y:Int): ∀ l:List aH,(∀ m,m∈l->lP m)->fj l y=some (.ret 0)\/(fj l y=some (.go y)/\ ∀ m,m∈l->wTs m.IC<=1000)
 | [],_=> .inr ⟨rfl,fun m h=>nomatch h⟩
 | a::l,h=>by
  rw[fj];rcases Ej a.IC (h a (.head _)).2.2.2.1.2 with g | ⟨g,hw⟩
  ·rw[g]; exact .inl rfl
  ·rw[g,Jo,Mh Md];rcases uH y l (fun m hm=>h m (.tail _ hm)) with k | ⟨k,hk⟩
   ·exact .inl k
   ·refine .inr ⟨k,fun m hm=> ?_⟩;rcases List.mem_cons.1 hm with rfl | hm
    ·exact hw
    ·exact hk m hm
theorem few19 (l:List aH) (h: ∀ m,m∈l->lP m):kL l=some 0\/(kL l=some 1/\l.length<=20/\ ∀ m,m∈l->wTs m.IC<=1000):=by
 unfold kL;by_cases hl:(l.length:Int)>20
 ·rw[Mg hl]; exact .inl rfl
 rw[Mh hl];rcases uH 0 l h with k | ⟨k,hk⟩
 ·rw[k]; exact .inl rfl
 ·rw[k]; exact .inr ⟨rfl,by omega,hk⟩
theorem dV {α:Type} {l:List α} {k:Nat} {x:α} {t:List α} (h:l.drop k=x::t):l[k]? = some x/\l.drop (k+1)=t/\l.length=k+1+t.length:=by
 have hl:=congrArg List.length h;rw[JA,Jz] at hl;refine⟨?_,?_,by omega⟩
 ·have:=congrArg (fun z=>z[0]?) h;simpa using this
 ·rw[<- Kf,h];rfl
theorem gc {α:Type} {l:List α} {k:Nat} (h:l.drop k = []):l.length<=k:=List.drop_eq_nil_iff.1 h
def oh (l:List Hd):Bool:=l.all fun h=>bu h.IQ
def fa (r:Rec):Int:=if r.IZ<0\/r.IZ>2147483647 then 11 else if (bu r.I3 && bu r.IQ && oh r.IR)=true then 0 else 4
theorem sM (y:Bool): ∀ l:List Bl,dE l y=some (if l.all bu=true then .go y else .ret false)
 | []=>rfl
 | b::l=>by
  rw[dE,oE,Jo,List.all_cons,sM y l];cases bu b <;> rfl
theorem wo (l:List Bl):fc l=some (l.all bu):=by
 unfold fc;rw[sM];cases l.all bu <;> rfl
theorem sN (y:Int): ∀ l:List Hd,dQ l y=some (if oh l=true then .go y else .ret 4)
 | []=>rfl
 | h::l=>by
  rw[dQ,wo,Jo,sN y l];unfold oh;rw[List.all_cons,List.all_cons,List.all_nil,Bool.and_true];cases bu h.IQ <;> rfl
theorem mW (r:Rec) (hw:wI r.IZ):eW r=some (fa r):=by
 unfold eW fa;by_cases h:r.IZ<0
 ·rw[Mg h,Mg (.inl h)]
 rw[Mh h,fe _ _ hw,ej,Jo];by_cases h2:r.IZ>2147483647
 ·rw[Mh (by simp; omega),Mg (.inr h2)]
 rw[Mg (by simp; omega),Mh Mc,wo,Jo,sN];simp only[List.all_cons,List.all_nil,Bool.and_true];cases bu r.I3 <;> cases bu r.IQ <;> cases oh r.IR <;> rfl
theorem Ew (b:Bl):oF b=some (!bu b):=by
 unfold oF bu;obtain⟨n,d⟩:=b;cases n
 ·rfl
 ·cases d <;> simp
theorem yR (a0:List Hd) (hb:a0.length<=1000000) (y:Bool): ∀ (l:List Hd) (k fuel:Nat),a0.drop k=l->l.length<fuel-> ∃ z,fJ a0 fuel y k=some (if oh l=true then .go (y,z) else .ret false)
 | [],k,fuel+1,h,hf=>by
  have:=gc h;exact⟨k,by rw[fJ,Mh Mc]; rfl⟩
 | x::l,k,fuel+1,h,hf=>by
  obtain⟨h1,h2,h3⟩:=dV h;rw[Jz] at hf;obtain⟨z,hz⟩:=yR a0 hb y l (k+1) fuel h2 Mc;rw[fJ,Mg Mc,h1,Jo];have e:oh (x::l)=(bu x.IQ && oh l):=rfl;rw[e];by_cases hn:x.IQ.null=true
  ·rw[Mg hn];by_cases hd:x.IQ.data = []
   ·rw[Mg hd,Mg Mc,hz];have:bu x.IQ=true:=by unfold bu; rw[hd]; simp
    rw[this,Bool.true_and];exact⟨z,rfl⟩
   ·rw[Mh hd];have:bu x.IQ=false:=by unfold bu; rw[hn]; simp[hd]
    rw[this];exact⟨0,rfl⟩
  ·rw[Mh hn,Mg Mc,hz];have:bu x.IQ=true:=by unfold bu; simp[hn]
   rw[this,Bool.true_and];exact⟨z,rfl⟩
theorem C7 (a0:List Hd) (hb:a0.length<=1000000):nR a0=some (oh a0):=by
 unfold nR;obtain⟨z,hz⟩:=yR a0 hb false a0 0 (((a0.length:Int)).toNat+1) rfl Mc;rw[hz];cases oh a0 <;> rfl
theorem C8 (r:Rec) (hb:r.IR.length<=1000000):lH r=some (fa r):=by
 unfold lH fa;by_cases h:r.IZ<0
 ·rw[Mg h,Mg (.inl h)]
 rw[Mh h];by_cases h2:r.IZ>2147483647
 ·rw[Mg h2,Mg (.inr h2)]
 rw[Mh h2,Mh Mc,Ew,Ew,C7 _ hb];cases bu r.I3 <;> cases bu r.IQ <;> cases oh r.IR <;> rfl
theorem uI (l:List UInt8) (p:Nat) (h:2<=l.length):ew ⟨l,p,0⟩ 2=(fd (l.take 2),⟨l.drop 2,p+2,0⟩):=wZ l p 2 Md Md h
theorem Ey (l:List UInt8) (p:Nat) (h:4<=l.length):ew ⟨l,p,0⟩ 4=(fd (l.take 4),⟨l.drop 4,p+4,0⟩):=wZ l p 4 Md Md h
theorem ol (l:List UInt8) (p:Nat) (h:l.length<2):ew ⟨l,p,0⟩ 2=(0,⟨l,p,1⟩):=pp l p 2 Md Md Mc
theorem yS (l:List UInt8) (p:Nat) (h:l.length<4):ew ⟨l,p,0⟩ 4=(0,⟨l,p,1⟩):=pp l p 4 Md Md Mc
theorem xw (l:List UInt8) (p:Nat) (e n:Int) (h:e≠0):ew ⟨l,p,e⟩ n=(0,⟨l,p,e⟩):=l9 (st:=⟨l,p,e⟩) h n
theorem gk (l:List UInt8) (p:Nat) (e:Int) (h:e≠0):eT ⟨l,p,e⟩=⟨l,p,e⟩:=tM (st:=⟨l,p,e⟩) h
theorem BM (l:List UInt8) (p:Nat) (e f:Int) (h:e≠0):cX ⟨l,p,e⟩ f=⟨l,p,e⟩:=ri (st:=⟨l,p,e⟩) h f
theorem tv (l:List UInt8) (p:Nat) (f:Int):cX ⟨l,p,0⟩ f=⟨l,p,f⟩:=by simp[cX]
theorem yT (l:List UInt8) (p:Nat):eT ⟨l,p,0⟩=⟨l,p,if l = [] then 0 else 2⟩:=by unfold eT; split <;> simp_all [cX]
theorem qO {l:List UInt8} {n:Nat} (h:n<=l.length):l.drop n = [] ↔ ¬ (l.length:Int)>n:=by rw[List.drop_eq_nil_iff]; omega
theorem Ez (l:List UInt8) (hl:l.length<=9223372036854775807):dP l=lR l:=by
 unfold dP lR dg;simp only[iL l Mc,iM,fG,cY,Jo];by_cases h2:l.length<2
 ·have h2i:(l.length:Int)<2:=by omega
  simp[ol l 0 h2,xw,gk,BM,h2i]
 have h2i: ¬ (l.length:Int)<2:=by omega
 have h2j:2<=(l.length:Int):=by omega
 rw[uI l 0 Mc,Mh h2i,Mg (show 2<=l.length by omega),qf _ (by simp; omega)];simp only[Jo];by_cases h0:fd (l.take 2)=0
 ·rw[Mg h0,Mg h0];simp only[Jo];by_cases h4:l.length<4
  ·have h4i:(l.length:Int)<4:=by omega
   simp[ol (l.drop 2) (0+2) (by simp; omega),gk,h4i]
  have h4i: ¬ (l.length:Int)<4:=by omega
  rw[uI _ _ (by simp; omega),Mh h4i,Mg (show 4<=l.length by omega),qf _ (by simp; omega)];simp only[Jo,Kf,yT,tv];have hd:=qO (l:=l) (n:=4) Mc;generalize fd ((l.drop 2).take 2)=k;by_cases h5:(l.length:Int)>4
  ·have hd2: ¬ l.drop (2+2) = []:=fun h=>(hd.1 h) h5;by_cases k0:k=0
   ·simp[hd2,h5,gk,k0]
   ·by_cases k1:k=1 <;> simp[hd2,h5,gk,k0,k1]
  ·have hd2:l.drop (2+2) = []:=hd.2 h5;by_cases k0:k=0
   ·simp[hd2,h5,gk,k0]
   ·by_cases k1:k=1 <;> simp[hd2,h5,gk,k0,k1]
 ·rw[Mh h0,Mh h0];simp[tv,xw,gk]
theorem AH (l:List UInt8) (hl:l.length<=9223372036854775807):dc l=kg l:=by
 unfold dc kg dg;simp only[iL l Mc,iM,fG,cY,Jo];by_cases h2:l.length<2
 ·have h2i:(l.length:Int)<2:=by omega
  simp[ol l 0 h2,xw,gk,BM,h2i]
 have h2i: ¬ (l.length:Int)<2:=by omega
 have h2j:2<=(l.length:Int):=by omega
 rw[uI l 0 Mc,Mh h2i,Mg (show 2<=l.length by omega),qf _ (by simp; omega)];simp only[Jo];by_cases h0:fd (l.take 2)=0
 ·rw[Mg h0,Mg h0];simp only[Jo];by_cases h4:l.length<6
  ·have h4i:(l.length:Int)<6:=by omega
   simp[yS (l.drop 2) (0+2) (by simp; omega),gk,h4i]
  have h4i: ¬ (l.length:Int)<6:=by omega
  rw[Ey _ _ (by simp; omega),Mh h4i,Mg (show 6<=l.length by omega),qf _ (by simp; omega)];simp only[Jo,Kf,yT,tv];have hd:=qO (l:=l) (n:=6) Mc;generalize fd ((l.drop 2).take 4)=k;by_cases h5:(l.length:Int)>6
  ·have hd2: ¬ l.drop (2+4) = []:=fun h=>(hd.1 h) h5;by_cases k0:k<0 <;> simp[hd2,h5,gk,k0]
  ·have hd2:l.drop (2+4) = []:=hd.2 h5;by_cases k0:k<0 <;> simp[hd2,h5,gk,k0]
 ·rw[Mh h0,Mh h0];simp[tv,xw,gk]
theorem xx (r:Rec) (h1:r.I3.data.length<=9223372036854775807) (h2:r.IQ.data.length<=9223372036854775807):dt r=jB r:=by
 unfold dt jB;rw[Ez _ h1,AH _ h2]
def fb:List Rec->Int
 | []=>0
 | r::l=>if fa r=0 then fb l else fa r
theorem wq (y:Int): ∀ l:List Rec,(∀ r,r∈l->wI r.IZ)->d9 l y=some (if fb l=0 then .go y else .ret (fb l))
 | [],h=>rfl
 | r::l,h=>by
  rw[d9,mW _ (h r (.head _)),Jo,wq y l (fun x hx=>h x (.tail _ hx)),fb];by_cases hr:fa r=0
  ·rw[Mg hr,Mg hr]
  ·rw[Mh hr,Mh hr,Mh hr]
theorem ws (y:Int): ∀ l:List Rec,(∀ r,r∈l->wI r.IZ)->ea l y=some (if fb l=0 then .go y else .ret (fb l))
 | [],h=>rfl
 | r::l,h=>by
  rw[ea,mW _ (h r (.head _)),Jo,ws y l (fun x hx=>h x (.tail _ hx)),fb];by_cases hr:fa r=0
  ·rw[Mg hr,Mg hr]
  ·rw[Mh hr,Mh hr,Mh hr]
theorem wt (a:Bat) (hb:a.IG.length<=1000000) (hh: ∀ r,r∈a.IG->r.IR.length<=1000000) (y:Int): ∀ (l:List Rec) (k fuel:Nat),a.IG.drop k=l->l.length<fuel-> ∃ z,eU a fuel y k=some (if fb l=0 then .go (y,z) else .ret (fb l))
 | [],k,fuel+1,h,hf=>by
  have:=gc h;exact⟨k,by rw[eU,Mh Mc]; rfl⟩
 | r::l,k,fuel+1,h,hf=>by
  obtain⟨h1,h2,h3⟩:=dV h;rw[Jz] at hf;obtain⟨z,hz⟩:=wt a hb hh y l (k+1) fuel h2 Mc;rw[eU,Mg Mc,h1,Jo,C8 _ (hh r (List.mem_of_getElem? h1)),Jo,fb];by_cases hr:fa r=0
  ·rw[Mg hr,Mg hr,Mg Mc];exact⟨z,hz⟩
  ·rw[Mh hr,Mh hr];exact⟨0,by rw[Mh hr]⟩
theorem wu (a:Bat): ∀ (fuel:Nat) (y:Int) (k:Nat),iS a fuel y k=eU a fuel y k
 | 0,y,k=>rfl
 | fuel+1,y,k=>by
  rw[iS,eU];simp only[wu a fuel]
def pL (F t:Int):Prop:=t>9223372036854775807 - F\/t < -F
instance (F t:Int):Decidable (pL F t):=by unfold pL; infer_instance
def xy (F L:Int):Int->Int->List Rec->Except Int Int
 | p,m,[]=> .ok m
 | p,m,r::l=>if r.IZ<=p\/r.IZ>L then .error 13 else if pL F r.Ja then .error 11 else xy F L r.IZ (if m<F+r.Ja then F+r.Ja else m) l
theorem C9 {F t:Int} (h0:0<=F) (h1:F<=9223372036854775807) (ht:wI t):(pL F t->(IntKind.i64.wrap (F+t)<0))/\(¬ pL F t->IntKind.i64.wrap (F+t)=F+t/\0<=F+t):=by
 obtain⟨t0,t1⟩:=ht;unfold pL;rw[IntKind.wrap_i64];constructor
 ·intro h;omega
 ·intro h;omega
theorem BN (a:Bat) (h0:0<=a.IV) (h1:a.IV<=9223372036854775807) (y:Int): ∀ (l:List Rec) (p m:Int),(∀ r,r∈l->wI r.Ja)->(∃ e,xy a.IV a.I7 p m l= .error e/\bU a l y p m=some (.ret e))\/(∃ p' m',xy a.IV a.I7 p m l= .ok m'/\bU a l y p m=some (.go (y,p',m')))
 | [],p,m,h=> .inr ⟨p,m,rfl,rfl⟩
 | r::l,p,m,h=>by
  have ih:=fun p m=>BN a h0 h1 y l p m (fun x hx=>h x (.tail _ hx));obtain⟨w1,w2⟩:=C9 h0 h1 (h r (.head _));rw[bU,xy];by_cases c1:r.IZ<=p
  ·rw[Mg c1,Mg (.inl c1)];exact .inl ⟨_,rfl,rfl⟩
  rw[Mh c1];by_cases c2:r.IZ>a.I7
  ·rw[Mg c2,Mg (.inr c2)];exact .inl ⟨_,rfl,rfl⟩
  rw[Mh c2,Mh Mc];by_cases c3:pL a.IV r.Ja
  ·rw[Mg c3,Mg (w1 c3)];exact .inl ⟨_,rfl,rfl⟩
  obtain⟨w3,w4⟩:=w2 c3;rw[Mh c3,w3,Mh (show ¬ a.IV+r.Ja<0 by omega),Mh (show ¬ a.IV+r.Ja<r.Ja by omega),ite_self];by_cases c4:m<a.IV+r.Ja
  ·rw[Mg c4,Mg c4];exact ih _ _
  ·rw[Mh c4,Mh c4];exact ih _ _
theorem xz (a:Bat) (h0:0<=a.IV) (h1:a.IV<=9223372036854775807) (hb:a.IG.length<=1000000) (y:Int): ∀ (l:List Rec) (p m:Int) (k fuel:Nat),a.IG.drop k=l->l.length<fuel->(k=0->p= -1)->(0<k-> ∃ r,a.IG[k - 1]? = some r/\r.IZ=p/\0<=p) ->
 (∃ e,xy a.IV a.I7 p m l= .error e/\dx a fuel y k=some (.ret e))\/(∃ m' z,xy a.IV a.I7 p m l= .ok m'/\dx a fuel y k=some (.go (y,z)))
 | [],p,m,k,fuel+1,h,hf,hk0,hk1=>by
  have:=gc h;exact .inr ⟨m,k,rfl,by rw[dx,Mh Mc]⟩
 | r::l,p,m,k,fuel+1,h,hf,hk0,hk1=>by
  obtain⟨g1,g2,g3⟩:=dV h;rw[Jz] at hf;rw[dx,Mg Mc,g1,Jo,xy];have hp: -1<=p:=by
   rcases Nat.eq_zero_or_pos k with hk | hk
   ·have:=hk0 hk; omega
   ·obtain⟨_,_,_,h5⟩:=hk1 hk; omega
  have ih:=fun (hge:0<=r.IZ) m=>xz a h0 h1 hb y l r.IZ m (k+1) fuel g2 Mc (fun h=>absurd h Mc) (fun _=>⟨r,g1,rfl,hge⟩);have tail:0<=r.IZ->((if -9223372036854775808<=(9223372036854775807 - a.IV)/\(9223372036854775807 - a.IV)<=9223372036854775807 then (if r.Ja>(9223372036854775807 - a.IV) then some (Lp.ret (11:Int)) else (if -9223372036854775808<=(-a.IV)/\(-a.IV)<=9223372036854775807 then (if r.Ja<(-a.IV) then some (Lp.ret 11) else (if -9223372036854775808<=((k:Int)+1)/\((k:Int)+1)<=9223372036854775807 then (dx a fuel y (k+1)) else none)) else none)) else none))=if pL a.IV r.Ja then some (.ret 11) else dx a fuel y (k+1):=by
   intro hge;rw[Mg Mc];by_cases c1:r.Ja>9223372036854775807 - a.IV
   ·rw[Mg c1,Mg (show pL a.IV r.Ja from .inl c1)]
   rw[Mh c1,Mg Mc];by_cases c2:r.Ja < -a.IV
   ·rw[Mg c2,Mg (show pL a.IV r.Ja from .inr c2)]
   rw[Mh c2,Mh (show ¬ pL a.IV r.Ja by unfold pL; omega),Mg Mc]
  by_cases c2:r.IZ>a.I7
  ·rw[Mg c2,Mg (.inr c2)];exact .inl ⟨_,rfl,rfl⟩
  rw[Mh c2];rcases Nat.eq_zero_or_pos k with hk | hk
  ·have hp1:=hk0 hk;rw[Mh (show ¬ (k:Int)>0 by omega)];by_cases c3:r.IZ<0
   ·rw[Mg c3,Mg (show r.IZ<=p\/r.IZ>a.I7 by omega)];exact .inl ⟨_,rfl,rfl⟩
   rw[Mh c3,Mh (show ¬ (r.IZ<=p\/r.IZ>a.I7) by omega),tail Mc];by_cases c4:pL a.IV r.Ja
   ·rw[Mg c4,Mg c4];exact .inl ⟨_,rfl,rfl⟩
   ·rw[Mh c4,Mh c4];exact ih Mc _
  ·obtain⟨q,q1,q2,q3⟩:=hk1 hk;rw[Mg (show (k:Int)>0 by omega),Mg (show -9223372036854775808<=(k:Int) - 1/\(k:Int) - 1<=9223372036854775807 by omega),Mg (show 0<=(k:Int) - 1 by omega),show ((k:Int) - 1).toNat=k - 1 by omega,q1,Jo,q2];by_cases c1:r.IZ<=p
   ·rw[Mg c1,Mg (.inl c1)];exact .inl ⟨_,rfl,rfl⟩
   rw[Mh c1,Mh (show ¬ r.IZ<0 by omega),Mh (show ¬ (r.IZ<=p\/r.IZ>a.I7) by omega),tail Mc];by_cases c4:pL a.IV r.Ja
   ·rw[Mg c4,Mg c4];exact .inl ⟨_,rfl,rfl⟩
   ·rw[Mh c4,Mh c4];exact ih Mc _
theorem BO (a:Bat) (h0:0<=a.IV) (h1:a.IV<=9223372036854775807) (hb:a.IG.length<=1000000) (y:Int): ∀ (l:List Rec) (p m m':Int) (k fuel:Nat),a.IG.drop k=l->l.length<fuel->xy a.IV a.I7 p m l= .ok m'->(∀ r,r∈l->wI r.Ja)-> ∃ z,fK a fuel y m k=some (.go (y,m',z))
 | [],p,m,m',k,fuel+1,h,hf,ho,hw=>by
  have:=gc h;injection ho with ho;subst ho;exact⟨k,by rw[fK,Mh Mc]⟩
 | r::l,p,m,m',k,fuel+1,h,hf,ho,hw=>by
  obtain⟨g1,g2,g3⟩:=dV h;rw[Jz] at hf;rw[xy] at ho;split at ho
  ·exact nomatch ho
  split at ho
  ·exact nomatch ho
  rename_i hb2;have ht:=hw r (.head _);have ht0:=ht.1;have ht1:=ht.2;unfold pL at hb2;rw[fK,Mg Mc,g1,Jo,Mg Mc,Mh Mc,Mg Mc,Mh Mc,Mg Mc];obtain⟨z,hz⟩:=BO a h0 h1 hb y l r.IZ _ m' (k+1) fuel g2 Mc ho (fun x hx=>hw x (.tail _ hx));by_cases c:m<a.IV+r.Ja
  ·rw[Mg c] at hz;rw[Mg c,Mg Mc,Mg Mc];exact⟨z,hz⟩
  ·rw[Mh c] at hz;rw[Mh c,Mg Mc];exact⟨z,hz⟩
theorem uJ (a:Bat) (h0:0<=a.IV) (h1:a.IV<=9223372036854775807) (hb:a.IG.length<=1000000) (hw: ∀ r,r∈a.IG->wI r.Ja): ∃ e,dy a=some e/\g8 a=some e:=by
 unfold dy g8 sE;rcases BN a h0 h1 0 a.IG (-1) a.IV hw with⟨e,g1,g2⟩ | ⟨p',m',g1,g2⟩
 ·rcases xz a h0 h1 hb 0 a.IG (-1) a.IV 0 (((a.IG.length:Int)).toNat+1) rfl Mc (fun _=>rfl) (fun h=>absurd h Mc) with⟨e2,k1,k2⟩ | ⟨m2,z,k1,k2⟩
  ·rw[g1] at k1;injection k1 with k1;subst k1;exact⟨e,by rw[g2]; rfl,by rw[k2]; rfl⟩
  ·rw[g1] at k1;exact nomatch k1
 ·rcases xz a h0 h1 hb 0 a.IG (-1) a.IV 0 (((a.IG.length:Int)).toNat+1) rfl Mc (fun _=>rfl) (fun h=>absurd h Mc) with⟨e2,k1,k2⟩ | ⟨m2,z,k1,k2⟩
  ·rw[g1] at k1;exact nomatch k1
  ·obtain⟨z2,hz2⟩:=BO a h0 h1 hb 0 a.IG (-1) a.IV m' 0 (((a.IG.length:Int)).toNat+1) rfl Mc g1 hw;rw[g2,k2,hz2];simp only[Jo];by_cases ha:a.Jg=true
   ·exact⟨0,by rw[Mg ha],by rw[Mg ha]⟩
   ·rw[Mh ha];by_cases hm:m'=a.Je
    ·exact⟨0,by rw[Mg hm],by rw[Mg hm]⟩
    ·exact⟨11,by rw[Mh hm],by rw[Mh hm]⟩
def kb (a:Bat):Prop:=0<=a.I9/\(-1<=a.I5/\a.I5<=2147483647)/\(0<=a.I7/\a.I7<=2147483647)/\a.I9+a.I7<=9223372036854775807/\0<=a.IV/\0<=a.Je
instance (a:Bat):Decidable (kb a):=by unfold kb; infer_instance
theorem AJ (a:Bat) (h1:wI a.I9) (h2:wI a.I5) (h3:wI a.I7):gf a=some (decide (kb a)):=by
 obtain⟨u1,u2⟩:=h1;unfold gf;rw[fe _ _ h2,fe _ _ h3,ej,ej,IntKind.wrap_i64];have no: ∀ {b:Bool},¬ kb a->b=false->some b=some (decide (kb a)):=fun h hb=>by rw[Jr h,hb]
 by_cases c1:a.I9>=0
 ·rw[Mg c1];by_cases c2:a.I5>= -1
  ·rw[Mg c2,Jo];by_cases c3: -2147483648<=a.I5/\a.I5<=2147483647
   ·rw[Mg (Jq c3)];by_cases c4:a.I7>=0
    ·rw[Mg c4,Jo];by_cases c5: -2147483648<=a.I7/\a.I7<=2147483647
     ·rw[Mg (Jq c5)];by_cases c6:a.I9+a.I7<=9223372036854775807
      ·rw[Mg Mc];by_cases c7:a.IV>=0
       ·rw[Mg c7];by_cases c8:a.Je>=0
        ·rw[Mg c8,Jq (show kb a from ⟨c1,⟨c2,by omega⟩,⟨c4,by omega⟩,c6,c7,c8⟩)]
        ·rw[Mh c8]; exact no (fun h=>c8 h.2.2.2.2.2) rfl
       ·rw[Mh c7]; exact no (fun h=>c7 h.2.2.2.2.1) rfl
      ·rw[Mh Mc]; exact no (fun h=>c6 h.2.2.2.1) rfl
     ·rw[Mh (by rw[decide_eq_true_eq]; exact c5)]; exact no (fun h=>by have:=h.2.2.1; omega) rfl
    ·rw[Mh c4]; exact no (fun h=>c4 h.2.2.1.1) rfl
   ·rw[Mh (by rw[decide_eq_true_eq]; exact c3)]; exact no (fun h=>by have:=h.2.1; omega) rfl
  ·rw[Mh c2]; exact no (fun h=>c2 h.2.1.1) rfl
 ·rw[Mh c1]; exact no (fun h=>c1 h.1) rfl
theorem se (n k:Int):iQ n k=some (decide (k<=n/\n<=2147483647)):=by
 unfold iQ;by_cases h1:n>=k
 ·rw[Mg h1];by_cases h2:n<=2147483647
  ·rw[Mg h2,Jq ⟨h1,h2⟩]
  ·rw[Mh h2,Jr (fun h=>h2 h.2)]
 ·rw[Mh h1,Jr (fun h=>h1 h.1)]
def im (a:Bat):Prop:=if a.ID= -1 then a.IF= -1/\a.IX= -1/\a.Jf=false else 0<=a.ID/\(0<=a.IF/\a.IF<=32767)/\(if a.Jc=true then a.IX= -1 else 0<=a.IX/\a.IX<=2147483647)
instance (a:Bat):Decidable (im a):=by unfold im; infer_instance
theorem uK (n:Int):bm n 2=decide (-32768<=n/\n<=32767):=by
 rw[Bool.eq_iff_iff];unfold bm;simp only[Bool.and_eq_true,decide_eq_true_eq];have:(2:Int) ^ (8*(2:Int).toNat - 1)=32768:=by decide
 omega
theorem sO (a:Bat) (h1:wI a.IF) (h2:wI a.IX):eS a=some (decide (im a))/\iR a=some (decide (im a)):=by
 unfold eS iR;rw[fe _ _ h1,fe _ _ h2,ej,uK,se];unfold im;obtain⟨b0,b1,b2,tx,ct,b5,b6,b7,P,E,S,rs⟩:=a;simp only;clear h1 h2;by_cases c1:P= -1
 ·simp only[Mg c1];by_cases c2:E= -1
  ·simp only[Mg c2];by_cases c3:S= -1
   ·simp only[Mg c3];cases tx <;> simp[c2,c3]
   ·simp[c3]
  ·simp[c2]
 ·simp only[Mh c1,Jo];cases ct
  ·simp only[Bool.false_eq_true,if_false];constructor
   ·by_cases d1:P>=0
    ·by_cases d2:E>=0
     ·by_cases d3: -32768<=E/\E<=32767
      ·by_cases d4:S>=0
       ·by_cases d5: -2147483648<=S/\S<=2147483647
        ·rw[Mg d1,Mg d2,Mg (Jq d3),Mg d4,Mg (Jq d5),Jq Mc]
        ·rw[Mg d1,Mg d2,Mg (Jq d3),Mg d4,Mh (by rw[decide_eq_true_eq]; exact d5),Jr Mc]
       ·rw[Mg d1,Mg d2,Mg (Jq d3),Mh d4,Jr Mc]
      ·rw[Mg d1,Mg d2,Mh (by rw[decide_eq_true_eq]; exact d3),Jr Mc]
     ·rw[Mg d1,Mh d2,Jr Mc]
    ·rw[Mh d1,Jr Mc]
   ·by_cases d1:P<0
    ·rw[Mg d1,Jr Mc]
    rw[Mh d1];by_cases d2:E<0
    ·rw[Mg d2,Jr Mc]
    rw[Mh d2];by_cases d3:E>32767
    ·rw[Mg d3,Jr Mc]
    rw[Mh d3];by_cases d4:0<=S/\S<=2147483647
    ·rw[Jq d4,Jq Mc]
    ·rw[Jr d4,Jr Mc]
  ·simp only[if_true];constructor
   ·by_cases d1:P>=0
    ·by_cases d2:E>=0
     ·by_cases d3: -32768<=E/\E<=32767
      ·by_cases d4:S>= -1
       ·by_cases d5: -2147483648<=S/\S<=2147483647
        ·by_cases d6:S= -1
         ·rw[Mg d1,Mg d2,Mg (Jq d3),Mg d4,Mg (Jq d5),Mg d6,Jq Mc]
         ·rw[Mg d1,Mg d2,Mg (Jq d3),Mg d4,Mg (Jq d5),Mh d6,Jr Mc]
        ·rw[Mg d1,Mg d2,Mg (Jq d3),Mg d4,Mh (by rw[decide_eq_true_eq]; exact d5),Jr Mc]
       ·rw[Mg d1,Mg d2,Mg (Jq d3),Mh d4,Jr Mc]
      ·rw[Mg d1,Mg d2,Mh (by rw[decide_eq_true_eq]; exact d3),Jr Mc]
     ·rw[Mg d1,Mh d2,Jr Mc]
    ·rw[Mh d1,Jr Mc]
   ·by_cases d1:P<0
    ·rw[Mg d1,Jr Mc]
    rw[Mh d1];by_cases d2:E<0
    ·rw[Mg d2,Jr Mc]
    rw[Mh d2];by_cases d3:E>32767
    ·rw[Mg d3,Jr Mc]
    rw[Mh d3];by_cases d4:S= -1
    ·rw[Mg d4,Jq Mc]
    ·rw[Mh d4,Jr Mc]
theorem EA (l:List UInt8) (hl:l.length<=1000000): ∃ x,dP l=some x:=by
 unfold dP dg;simp only[iL l Mc,iM,fG,cY,Jo];generalize ew ⟨l,0,0⟩ 2=x;by_cases h:x.1=0
 ·simp only[Mg h,Jo];generalize ew x.2 2=y;split
  ·split <;> exact⟨_,rfl⟩
  ·split
   ·split <;> exact⟨_,rfl⟩
   ·split <;> exact⟨_,rfl⟩
 ·simp only[Mh h,Jo];generalize ew (cX x.2 7) 2=y;split
  ·split <;> exact⟨_,rfl⟩
  ·split
   ·split <;> exact⟨_,rfl⟩
   ·split <;> exact⟨_,rfl⟩
theorem AK (l:List UInt8) (hl:l.length<=1000000): ∃ x,dc l=some x:=by
 unfold dc dg;simp only[iL l Mc,iM,fG,cY,Jo];generalize ew ⟨l,0,0⟩ 2=x;by_cases h:x.1=0
 ·simp only[Mg h,Jo];generalize ew x.2 4=y;split
  ·split <;> exact⟨_,rfl⟩
  ·split <;> exact⟨_,rfl⟩
 ·simp only[Mh h,Jo];generalize ew (cX x.2 7) 4=y;split
  ·split <;> exact⟨_,rfl⟩
  ·split <;> exact⟨_,rfl⟩
theorem xA (r:Rec) (h1:r.I3.data.length<=1000000) (h2:r.IQ.data.length<=1000000): ∃ x1 x2 x3,dt r=some (x1,x2,x3):=by
 obtain⟨⟨k1,k2⟩,hk⟩:=EA _ h1;obtain⟨⟨v1,v2⟩,hv⟩:=AK _ h2;unfold dt;rw[hk,hv];simp only[Jo];split
 ·exact⟨_,_,_,rfl⟩
 split
 ·exact⟨_,_,_,rfl⟩
 split
 ·exact⟨_,_,_,rfl⟩
 split
 ·split
  ·split
   ·exact⟨_,_,_,rfl⟩
   ·exact⟨_,_,_,rfl⟩
  ·exact⟨_,_,_,rfl⟩
 ·exact⟨_,_,_,rfl⟩
def xB (a:Bat) (cr e0:Int):Int:=if kb a then (if a.Jc=true then (if a.Jf=true then (if im a then (if (a.IG.length:Int)=1 then (if fb a.IG=0 then (if cr=0 then e0 else cr) else fb a.IG) else 10) else 11) else 8) else (if im a then (if fb a.IG=0 then e0 else fb a.IG) else 11)) else 11
theorem bchk (a:Bat) (hw:lV a) (cr e0:Int) (hc:kb a->dy a=some e0) (hr:(a.IG.length:Int)=1-> ∃ r x1 x2,a.IG[0]? = some r/\dt r=some (x1,x2,cr)):du a=some (xB a cr e0):=by
 obtain⟨w1,w2,w3,w4,w5,w6,w7,w8,w9,w10,w11,w12⟩:=hw;have hoff: ∀ r,r∈a.IG->wI r.IZ:=fun r h=>(w12.2 r h).2.1;unfold du xB;rw[AJ a w1 w2 w6,(sO a w10 w11).1,wq _ _ hoff,ws _ _ hoff];by_cases hn:kb a
 ·rw[Jq hn,Jo,Mg rfl,Mg hn,hc hn];by_cases hct:a.Jc=true
  ·rw[Mg hct,Mg hct];by_cases ht:a.Jf=true
   ·rw[Mg ht,Mg ht,Jo];by_cases hp:im a
    ·rw[Jq hp,Mg rfl,Mg hp];by_cases hl:(a.IG.length:Int)=1
     ·obtain⟨r,x1,x2,r1,r2⟩:=hr hl;rw[Mg hl,Mg hl,r1];by_cases hf:fb a.IG=0
      ·simp only[Mg hf,Jo,r2];split <;> rfl
      ·simp only[Mh hf,Jo]
     ·rw[Mh hl,Mh hl]
    ·rw[Jr hp,Mh Md,Mh hp]
   ·rw[Mh ht,Mh ht]
  ·rw[Mh hct,Mh hct,Jo];by_cases hp:im a
   ·rw[Jq hp,Mg rfl,Mg hp];by_cases hf:fb a.IG=0
    ·simp only[Mg hf,Jo]
    ·simp only[Mh hf,Jo]
   ·rw[Jr hp,Mh Md,Mh hp]
 ·rw[Jr hn,Jo,Mh Md,Mh hn]
theorem rchk (a:Bat) (hw:lV a) (hb:a.IG.length<=1000000) (hh: ∀ r,r∈a.IG->r.IR.length<=1000000) (cr e0:Int) (hc:kb a->g8 a=some e0) (hr:(a.IG.length:Int)=1-> ∃ r x1 x2,a.IG[0]? = some r/\jB r=some (x1,x2,cr)):lJ a=some (xB a cr e0):=by
 obtain⟨w1,w2,w3,w4,w5,w6,w7,w8,w9,w10,w11,w12⟩:=hw;obtain⟨z,hz⟩:=wt a hb hh 0 a.IG 0 (((a.IG.length:Int)).toNat+1) rfl Mc;have b1:=w1.1;have b2:=w1.2;unfold lJ xB;rw[se,se,(sO a w10 w11).2];simp only[wu];rw[hz];by_cases hn:kb a
 ·obtain⟨n1,n2,n3,n4,n5,n6⟩:=id hn;rw[Mh (show ¬ a.I9<0 by omega),Jq n2,Jo,Mg rfl,Jq n3,Jo,Mg rfl,Mg (show -9223372036854775808<=9223372036854775807 - a.I9/\9223372036854775807 - a.I9<=9223372036854775807 by omega),Mh (show ¬ a.I7>9223372036854775807 - a.I9 by omega),Mh (show ¬ a.IV<0 by omega),Mh (show ¬ a.Je<0 by omega),Mg hn,hc hn];by_cases hct:a.Jc=true
  ·rw[Mg hct,Mg hct];by_cases ht:a.Jf=true
   ·rw[Mg ht,Mg ht,Jo];by_cases hp:im a
    ·rw[Jq hp,Mg rfl,Mg hp];by_cases hl:(a.IG.length:Int)=1
     ·obtain⟨r,x1,x2,r1,r2⟩:=hr hl;rw[Mg hl,Mg hl,r1];by_cases hf:fb a.IG=0
      ·simp only[Mg hf,Jo,r2];split <;> rfl
      ·simp only[Mh hf,Jo]
     ·rw[Mh hl,Mh hl]
    ·rw[Jr hp,Mh Md,Mh hp]
   ·rw[Mh ht,Mh ht]
  ·rw[Mh hct,Mh hct,Jo];by_cases hp:im a
   ·rw[Jq hp,Mg rfl,Mg hp];by_cases hf:fb a.IG=0
    ·simp only[Mg hf,Jo]
    ·simp only[Mh hf,Jo]
   ·rw[Jr hp,Mh Md,Mh hp]
 ·rw[Mh hn];unfold kb at hn;by_cases c1:a.I9<0
  ·rw[Mg c1]
  rw[Mh c1,Jo];by_cases c2: -1<=a.I5/\a.I5<=2147483647
  ·rw[Jq c2,Mg rfl,Jo];by_cases c3:0<=a.I7/\a.I7<=2147483647
   ·rw[Jq c3,Mg rfl,Mg (show -9223372036854775808<=9223372036854775807 - a.I9/\9223372036854775807 - a.I9<=9223372036854775807 by omega)];by_cases c4:a.I7>9223372036854775807 - a.I9
    ·rw[Mg c4]
    rw[Mh c4];by_cases c5:a.IV<0
    ·rw[Mg c5]
    rw[Mh c5,Mg (show a.Je<0 by omega)]
   ·rw[Jr c3,Mh Md]
  ·rw[Jr c2,Mh Md]
theorem uL (a:Bat) (hw:lV a) (hb:a.IG.length<=1000000) (hr: ∀ r,r∈a.IG->r.IR.length<=1000000/\r.I3.data.length<=1000000/\r.IQ.data.length<=1000000): ∃ cr e0,du a=some (xB a cr e0)/\lJ a=some (xB a cr e0)/\(kb a->dy a=some e0)/\((a.IG.length:Int)=1-> ∃ r x1 x2,a.IG[0]? = some r/\dt r=some (x1,x2,cr)/\jB r=some (x1,x2,cr)):=by
 have htim: ∀ r,r∈a.IG->wI r.Ja:=fun r h=>(hw.2.2.2.2.2.2.2.2.2.2.2.2 r h).1;have hF:=hw.2.2.2.2.2.2.1;obtain⟨e0,he⟩: ∃ e0,kb a->dy a=some e0/\g8 a=some e0:=by
  by_cases hn:kb a
  ·obtain⟨e0,h1,h2⟩:=uJ a hn.2.2.2.2.1 hF.2 hb htim;exact⟨e0,fun _=>⟨h1,h2⟩⟩
  ·exact⟨0,fun h=>absurd h hn⟩
 obtain⟨cr,hcr⟩: ∃ cr,(a.IG.length:Int)=1-> ∃ r x1 x2,a.IG[0]? = some r/\dt r=some (x1,x2,cr)/\jB r=some (x1,x2,cr):=by
  by_cases hl:(a.IG.length:Int)=1
  ·obtain⟨r,hrec⟩: ∃ r,a.IG = [r]:=List.length_eq_one_iff.1 Mc;have h3:=hr r (by rw[hrec]; exact .head _);obtain⟨x1,x2,x3,h4⟩:=xA r h3.2.1 h3.2.2;have h5:=xx r Mc Mc;exact⟨x3,fun _=>⟨r,x1,x2,by rw[hrec]; rfl,h4,by rw[<- h5]; exact h4⟩⟩
  ·exact⟨0,fun h=>absurd h hl⟩
 refine⟨cr,e0,bchk a hw cr e0 (fun h=>(he h).1) (fun h=> ?_),rchk a hw hb (fun r h=>(hr r h).1) cr e0 (fun h=>(he h).2) (fun h=> ?_),fun h=>(he h).1,hcr⟩
 ·obtain⟨r,x1,x2,h1,h2,h3⟩:=hcr h;exact⟨r,x1,x2,h1,h2⟩
 ·obtain⟨r,x1,x2,h1,h2,h3⟩:=hcr h;exact⟨r,x1,x2,h1,h3⟩
theorem Pr.bind_assoc {α β γ:Type} (p:Pr α) (f:α->Pr β) (g:β->Pr γ):(p.bind f).bind g=p.bind fun a=>(f a).bind g:=by
 funext s q;unfold Pr.bind
 cases p s q with
 | error e=>rfl
 | ok x=>rfl
theorem Pr.ret_bind {α β:Type} (a:α) (f:α->Pr β):(Pr.ret a).bind f=f a:=by
 funext s q;rfl
def yU:List Nat->Pr (List Int)
 | []=> .ret []
 | k::ks=>(eI k).bind fun a=>(yU ks).bind fun l=> .ret (a::l)
def pM:List Nat->List Int->List UInt8
 | k::ks,x::xs=>be x k++pM ks xs
 | _,_ => []
def okI:List Nat->List Int->Prop
 | [],[]=>True
 | k::ks,x::xs=>bm x k=true/\okI ks xs
 | _,_=>False
theorem xC: ∀ ks:List Nat,(∀ k,k∈ks->1<=k/\k<=8)->Sp (yU ks) (pM ks) (okI ks)
 | [],_=>by
  refine⟨fun s q l r hq h=> ?_,fun s t q l hq hl hd=> ?_⟩
  ·injection h with h;obtain⟨rfl,rfl⟩:=JP h;exact⟨JN _,hq,rfl,by simp[pM],trivial⟩
  ·cases l with
   | nil=>rfl
   | cons x xs=>exact nomatch hl
 | k::ks,hk=>by
  have hp:=dL k (hk k (List.mem_cons_self ..)).1 (hk k (List.mem_cons_self ..)).2;have ih:=xC ks (fun j hj=>hk j (List.mem_cons_of_mem _ hj));refine⟨fun s q l r hq h=> ?_,fun s t q l hq hl hd=> ?_⟩
  ·obtain⟨a,m,h1,h2⟩:=Pr.bind_ok h;obtain⟨xs,m2,h3,h4⟩:=Pr.bind_ok h2;injection h4 with h4;obtain⟨rfl,rfl⟩:=JP h4;obtain⟨a1,a2,a3,a4,a5⟩:=hp.spell s q a m hq h1;obtain⟨b1,b2,b3,b4,b5⟩:=ih.spell s m xs m2 a2 h3;exact⟨by omega,b2,by simp only[pM,Js]; omega,by rw[b4,a4,pM,Jw],a5,b5⟩
  ·cases l with
   | nil=>exact nomatch hl
   | cons x xs =>
    rw[pM,Jw] at hd;have h1:=hp.back s _ q x hq hl.1 hd;have hl2:=congrArg List.length hd;rw[JA,Js] at hl2;have h2:=ih.back s t _ xs Mc hl.2 (bZ hd);rw[yU,Pr.bind_of h1,Pr.bind_of h2,pM,Js,<- Nat.add_assoc];rfl
def KS:List Nat := [8,4,4,1,4,2,4,8,8,8,2,4,4]
theorem KS_ok: ∀ k,k∈KS->1<=k/\k<=8:=by decide
def s32 (n:Int):Int:=if n>2147483647 then n - 4294967296 else n
def toL (p:Pfx):List Int := [p.I9,p.Jd,p.I5,2,s32 p.Jh,p.Jj,p.I7,p.IV,p.Je,p.ID,p.IF,p.IX,p.Ji]
def ckE (b m ct:Int):Int:=if m=2 then (if b<49 then 4 else if ct<0 then 10 else 0) else 6
def chkP:List Int->Pr Pfx
 | [a,b,c,m,s,at',la,fi,mx,pr,ep,sq,ct]=>if ckE b m ct=0 then .ret ⟨a,b,c,s % 4294967296,at',la,fi,mx,pr,ep,sq,ct⟩ else .err (ckE b m ct)
 | _=> .err 1
def Da:Pr Pfx:=(yU KS).bind chkP
def om (p:Pfx):List UInt8:=pM KS (toL p)
def okP (p:Pfx):Prop:=okI KS (toL p)/\(0<=p.Jh/\p.Jh<=4294967295)/\49<=p.Jd/\0<=p.Ji
theorem BP: ∀ {ks:List Nat} {l:List Int},okI ks l->l.length=ks.length
 | [],[],_=>rfl
 | k::ks,x::xs,h=>by rw[Jz,Jz,BP h.2]
 | [],_ :: _,h=>nomatch h
 | _ :: _,[],h=>nomatch h
theorem yV: ∀ {ks:List Nat} {l:List Int},okI ks l->(pM ks l).length=ks.sum
 | [],[],_=>rfl
 | k::ks,x::xs,h=>by rw[pM,Js,ax,yV h.2,List.sum_cons]
 | [],_ :: _,h=>nomatch h
 | _ :: _,[],h=>nomatch h
theorem len13 {l:List Int} (h:l.length=13): ∃ a b c m s t la fi mx pr ep sq ct,l = [a,b,c,m,s,t,la,fi,mx,pr,ep,sq,ct]:=by
 match l,h with
 | [a,b,c,m,s,t,la,fi,mx,pr,ep,sq,ct],_=>exact⟨a,b,c,m,s,t,la,fi,mx,pr,ep,sq,ct,rfl⟩
theorem EB {s:Int} (h:bm s 4=true):s32 (s % 4294967296)=s:=by
 rw[ej] at h;have:=of_decide_eq_true h;unfold s32;split <;> omega
theorem FZ {s:Int} (h:0<=s/\s<=4294967295):s32 s % 4294967296=s:=by
 unfold s32;split <;> omega
theorem EC {b m ct:Int} (h:ckE b m ct=0):m=2/\49<=b/\0<=ct:=by
 unfold ckE at h;by_cases h1:m=2
 ·rw[Mg h1] at h;by_cases h2:b<49
  ·rw[Mg h2] at h; cases h
  ·rw[Mh h2] at h;by_cases h3:ct<0
   ·rw[Mg h3] at h; cases h
   ·exact⟨h1,by omega,by omega⟩
 ·rw[Mh h1] at h; cases h
theorem ckE_of {b ct:Int} (h1:49<=b) (h2:0<=ct):ckE b 2 ct=0:=by
 unfold ckE;rw[Mg rfl,Mh Mc,Mh Mc]
theorem AL:Sp Da om okP:=by
 refine⟨fun s q p r hq h=> ?_,fun s t q p hq hp hd=> ?_⟩
 ·obtain⟨l,m,h1,h2⟩:=Pr.bind_ok h;obtain⟨a1,a2,a3,a4,a5⟩:=(xC KS KS_ok).spell s q l m hq h1;obtain⟨a,b,c,mg,sm,t,la,fi,mx,pr,ep,sq,ct,rfl⟩:=len13 (BP a5);have hs:bm sm 4=true:=a5.2.2.2.2.1;unfold chkP at h2;dsimp only at h2;by_cases hc:ckE b mg ct=0
  ·rw[Mg hc] at h2;injection h2 with h2;obtain⟨rfl,rfl⟩:=JP h2;obtain⟨rfl,c2,c3⟩:=EC hc;have e:toL ⟨a,b,c,sm % 4294967296,t,la,fi,mx,pr,ep,sq,ct⟩ = [a,b,c,2,sm,t,la,fi,mx,pr,ep,sq,ct]:=by
    unfold toL;rw[EB hs]
   unfold om okP;rw[e];exact⟨a1,a2,a3,a4,a5,by show 0<=sm % 4294967296/\sm % 4294967296<=4294967295; omega,c2,c3⟩
  ·rw[Mh hc] at h2;exact nomatch h2
 ·have h1:=(xC KS KS_ok).back s t q (toL p) hq hp.1 hd;rw[Da,Pr.bind_of h1];unfold toL chkP;dsimp only;rw[Mg (ckE_of hp.2.2.1 hp.2.2.2),FZ hp.2.1];rfl
theorem and32 (n:Int):Go.bits .and .i64 n 4294967295=n % 4294967296:=by
 rw[show (4294967295:Int)=((4294967295:Nat):Int) from rfl,xj n _ Md,show (4294967295:Nat)=2 ^ 32 - 1 from rfl,Nat.and_two_pow_sub_one_eq_mod];omega
def zP:Pfx:=⟨0,0,0,0,0,0,0,0,0,0,0,0⟩
def ED (a b c m s t la fi mx pr ep sq ct:Int) (st:I):Option (Pfx×I):=(gt st).bind fun (x57,st58)=>(if x57=0 then ((if m=2 then ((if b<49 then ((bT st58 4).bind fun st164=>some st164) else ((if ct<0 then ((bT st58 10).bind fun st172=>some st172) else some st58).bind fun st169=>some st169)).bind fun st161=>some st161) else ((bT st58 6).bind fun st174=>some st174)).bind fun st147=>some st147) else some st58).bind fun st117=>(gt st117).bind fun (x176,st177)=>if x176=0 then (some ((⟨a,b,c,(Go.bits .and .i64 s 4294967295),t,la,fi,mx,pr,ep,sq,ct⟩:Pfx),st177)) else (some ((⟨0,0,0,0,0,0,0,0,0,0,0,0⟩:Pfx),st177))
theorem B_tail (a b c m s t la fi mx pr ep sq ct:Int):CB (ED a b c m s t la fi mx pr ep sq ct) (chkP [a,b,c,m,s,t,la,fi,mx,pr,ep,sq,ct]) zP:=by
 refine xr (fun st h=> ?_) (fun st h=> ?_)
 ·unfold ED;rw[bn,Jo];dsimp only;rw[Mh h,Jo,bn,Jo];dsimp only;rw[Mh h];rfl
 ·obtain⟨l,q,e⟩:=st;obtain rfl:e=0:=h;unfold ED ckE;rw[bn,Jo];dsimp only;rw[Mg rfl,and32];by_cases h1:m=2
  ·rw[Mg h1,Mg h1];by_cases h2:b<49
   ·rw[Mg h2,Mg h2,Mh Md]; rfl
   ·rw[Mh h2,Mh h2];by_cases h3:ct<0
    ·rw[Mg h3,Mg h3,Mh Md]; rfl
    ·rw[Mh h3,Mh h3,Mg rfl]; rfl
  ·rw[Mh h1,Mh h1,Mh Md]; rfl
theorem B_pfx:CB (fun st=>jT st) Da zP:=by
 have w: ∀ {p:Pr Int} (s:List UInt8) (q:Nat) (a:Int) (r:Nat),s.length<=1000000->q<=s.length->p s q= .ok (a,r)->(fun _:Int=>True) a:=fun _ _ _ _ _ _ _=>trivial
 have h:=CB.bind (fun _=>True) Q8.cb w trivial fun a _=>CB.bind (fun _=>True) Q4.cb w trivial fun b _=>CB.bind (fun _=>True) Q4.cb w trivial fun c _=>CB.bind (fun _=>True) Q1.cb w trivial fun m _=>CB.bind (fun _=>True) Q4.cb w trivial fun s _ =>
  CB.bind (fun _=>True) Q2.cb w trivial fun t _=>CB.bind (fun _=>True) Q4.cb w trivial fun la _=>CB.bind (fun _=>True) Q8.cb w trivial fun fi _=>CB.bind (fun _=>True) Q8.cb w trivial fun mx _=>CB.bind (fun _=>True) Q8.cb w trivial fun pr _ =>
  CB.bind (fun _=>True) Q2.cb w trivial fun ep _=>CB.bind (fun _=>True) Q4.cb w trivial fun sq _=>CB.bind (fun _=>True) Q4.cb w trivial fun ct _=>B_tail a b c m s t la fi mx pr ep sq ct
 refine (h.congr (fun st=>rfl)).pr ?_;unfold Da KS;simp only[yU,Pr.bind_assoc,Pr.ret_bind]
def wrI:List Nat->List Int->List UInt8×Int->Option (List UInt8×Int)
 | k::ks,x::xs,st=>(dA st x (k:Int)).bind fun st=>wrI ks xs st
 | _,_,st=>some st
theorem EE: ∀ (ks:List Nat) (l:List Int) (t:List UInt8),okI ks l->t.length+ks.sum<=1000000->wrI ks l (t,0)=some (t++pM ks l,0)
 | [],[],t,_,_=>by unfold wrI pM; rw[JE]
 | [],_ :: _,_,h,_=>nomatch h
 | _ :: _,[],_,h,_=>nomatch h
 | k::ks,x::xs,t,h,hl=>by
  rw[List.sum_cons] at hl;rw[wrI,dI h.1 Mc,Jo,Kp,EE ks xs _ h.2 (by rw[Js,ax]; omega),pM,Jw]
def w32 (n:Int):Int:=IntKind.i32.wrap (IntKind.u32.wrap n)
theorem F1 (n:Int): -2147483648<=w32 n/\w32 n<=2147483647:=by
 unfold w32;rw[IntKind.wrap_i32];omega
theorem w32_s {n:Int} (h:0<=n/\n<=4294967295):w32 n=s32 n:=by
 unfold w32 s32;rw[IntKind.wrap_i32,IntKind.wrap_u32];split <;> omega
def toW (p:Pfx):List Int := [p.I9,p.Jd,p.I5,2,w32 p.Jh,p.Jj,p.I7,p.IV,p.Je,p.ID,p.IF,p.IX,p.Ji]
theorem EF (st:List UInt8×Int) (p:Pfx):cV st p=wrI KS (toW p) (if p.Jh<0\/p.Jh>4294967295 then jW st 11 else st):=by
 have hw:=F1 p.Jh;unfold cV;have e:((if p.Jh<0 then some true else (if p.Jh>4294967295 then some true else some false)).bind fun y4=>(if y4=true then ((jw st 11).bind fun st14=>some st14) else some st))=some (if p.Jh<0\/p.Jh>4294967295 then jW st 11 else st):=by
  by_cases h1:p.Jh<0
  ·rw[Mg h1,Jo,Mg rfl,Mg (.inl h1)]; rfl
  ·rw[Mh h1];by_cases h2:p.Jh>4294967295
   ·rw[Mg h2,Jo,Mg rfl,Mg (.inr h2)]; rfl
   ·rw[Mh h2,Jo,Mh Md,Mh Mc]
 have e2: ∀ (K:List UInt8×Int->Option (List UInt8×Int)),((if p.Jh<0 then some true else (if p.Jh>4294967295 then some true else some false)).bind fun y4=>(if y4=true then ((jw st 11).bind fun st14=>some st14) else some st).bind K)=K (if p.Jh<0\/p.Jh>4294967295 then jW st 11 else st):=by
  intro K;rw[<- Option.bind_assoc,e,Jo]
 rw[e2];show (if -9223372036854775808<=w32 p.Jh/\w32 p.Jh<=9223372036854775807 then _ else _)= _;rw[Mg Mc];rfl
def okWp (p:Pfx):Prop:=okI KS (toL p)/\0<=p.Jh/\p.Jh<=4294967295
theorem qP {p:Pfx} (h:okI KS (toL p)):(om p).length=61:=by
 unfold om;rw[yV h];rfl
theorem uM {p:Pfx} (t:List UInt8) (h:okWp p) (ht:t.length<=900000):cV (t,0) p=some (t++om p,0):=by
 have e:toW p=toL p:=by
  unfold toW toL;rw[w32_s h.2]
 have h2:=h.2;rw[EF,Mh Mc,e];exact EE KS (toL p) t h.1 (by show t.length+61<= _; omega)
theorem jL {st:I} (h:st.err≠0):cF st=some (⟨false,[]⟩,st):=QV.dead st h
theorem F2 {st:I} (h:st.err≠0):tS st=some ([],st):=QN.dead st h
theorem AM:CQ nb (n8 32) 0:=(xp 32 (.inl rfl)).cq (jU 32 (.inl rfl))
theorem tw {st:I} (h:st.err≠0):nb st=some (0,st):=AM.dead st h
def qQ (each:Nat):Pr Int:=(n8 32).bind (qI each)
theorem AN {each:Nat} {s:List UInt8} {q r:Nat} {n:Int} (hq:q<=s.length) (h:qQ each s q= .ok (n,r)):0<=n/\(0<each->n*each<=((s.length - r:Nat):Int))/\q<=r/\r=q+(cQ (bw n)).length/\r<=s.length/\s.take r=s.take q++cQ (bw n)/\bw n<2 ^ (32:Int).toNat:=by
 obtain⟨m,r',h2,h⟩:=Pr.bind_ok h;obtain⟨a1,a2,a3,a4,a5⟩:=(jU 32 (.inl rfl)).spell _ _ _ _ hq h2;unfold qI at h;split at h
 ·exact nomatch h
 ·rename_i hn;split at h
  ·exact nomatch h
  ·rename_i he;injection h with h;obtain⟨rfl,rfl⟩:=JP h;refine⟨by omega,fun hz=> ?_,a1,a3,a2,a4,a5⟩;have:m<=((s.length - r':Nat):Int) / each:=by
    rcases Int.lt_or_le (((s.length - r':Nat):Int) / each) m with g | g
    ·exact absurd ⟨hz,g⟩ he
    ·exact g
   exact (Int.le_ediv_iff_mul_le Mc).1 this
theorem AO {each:Nat} {s t:List UInt8} {q:Nat} {n:Int} (hq:q<=s.length) (hf:bw n<2 ^ (32:Int).toNat) (hn:0<=n) (h:s.drop q=cQ (bw n)++t) (hl:0<each->n*each<=t.length):qQ each s q= .ok (n,q+(cQ (bw n)).length):=by
 have g:=(jU 32 (.inl rfl)).back s t q n hq hf h;rw[qQ,Pr.bind_of g];unfold qI;have hlen:=congrArg List.length h;rw[JA,Js] at hlen;rw[Mh Mc,Mh];rintro⟨hz,hc⟩;have:=(Int.le_ediv_iff_mul_le (show (0:Int)<each by omega)).2 (hl hz);rw[show s.length - (q+(cQ (bw n)).length)=t.length by omega] at hc;omega
def BQ {α:Type} (each:Nat) (p:Pr α):Pr (List α):=(qQ each).bind fun n=>il p n.toNat
theorem F3 {α:Type} {p:Pr α} {enc:α->List UInt8} {ok:α->Prop} (each:Nat) (hp:Sp p enc ok) (he: ∀ x,ok x->each<=(enc x).length):Sp (BQ each p) (fun l=>cQ (bw (l.length:Int))++aS enc l) (fun l=>bw (l.length:Int)<2 ^ (32:Int).toNat/\ ∀ x,x∈l->ok x):=by
 refine⟨fun s q a r hq h=> ?_,fun s t q a hq ha h=> ?_⟩
 ·obtain⟨n,q1,g1,h⟩:=Pr.bind_ok h;obtain⟨a1,a2,a3,a4,a5,a6,a7⟩:=AN hq g1;obtain⟨b1,b2,b3,b4,b5,b6⟩:=(ur hp n.toNat).spell _ _ _ _ a5 h;have hn:(a.length:Int)=n:=by omega
  refine⟨by omega,b2,by rw[Js,hn]; omega,by rw[b4,a6,hn,Jw],by rw[hn]; exact a7,b6⟩
 ·rw[Jw] at h;have hl:=congrArg List.length h;rw[JA,Js,Js] at hl;have g1:=AO (each:=each) hq ha.1 Mc h (fun _=>by
   have:=mQ he a ha.2;rw[Js,Int.natCast_add,<- Int.natCast_mul];omega)
  have h2:=bZ h;have g2:=(ur hp a.length).back _ _ _ _ Mc ⟨rfl,ha.2⟩ h2;rw[BQ,Pr.bind_of g1,Kp,g2,Js];simp only[Nat.add_assoc]
def pHd:Pr Hd:=v9.bind fun k=>lO.bind fun v=> .ret ⟨k,v⟩
def gl (h:Hd):List UInt8:=(cQ (bw (h.I3.length:Int))++h.I3)++(cQ (bw (blen h.IQ))++h.IQ.data)
def okHd (h:Hd):Prop:=bw (h.I3.length:Int)<2 ^ (32:Int).toNat/\bw (blen h.IQ)<2 ^ (32:Int).toNat/\bu h.IQ=true
theorem Sp_hd:Sp pHd gl okHd:=by
 refine⟨fun s q a r hq h=> ?_,fun s t q a hq ha h=> ?_⟩
 ·obtain⟨k,q1,h1,h⟩:=Pr.bind_ok h;obtain⟨v,q2,h2,h⟩:=Pr.bind_ok h;injection h with h;obtain⟨rfl,rfl⟩:=JP h;obtain⟨a1,a2,a3,a4,a5⟩:=oJ.spell _ _ _ _ hq h1;obtain⟨b1,b2,b3,b4,b5⟩:=iJ.spell _ _ _ _ a2 h2;exact⟨by omega,b2,by simp only[gl,Js] at *; omega,by rw[b4,a4]; simp only[gl,Jw],a5.1,b5⟩
 ·obtain⟨a1,a2,a3⟩:=ha;have hl:=congrArg List.length h;rw[gl,Jw] at h;have g1:=oJ.back _ _ _ _ hq ⟨a1,rfl⟩ h;have h:=bZ h;have g2:=iJ.back _ _ _ _ (by simp only[gl,JA,Js] at *; omega) ⟨a2,a3⟩ h;rw[pHd,Pr.bind_of g1,Pr.bind_of g2];simp only[Pr.ret,gl,Js,Nat.add_assoc]
theorem EG (h:Hd) (ho:okHd h):2<=(gl h).length:=by
 have h1:=nG (bw (h.I3.length:Int));have h2:=nG (bw (blen h.IQ));simp only[gl,Js];omega
def Db:Pr (List Hd):=BQ 2 pHd
theorem EH:Sp Db (fun l=>cQ (bw (l.length:Int))++aS gl l) (fun l=>bw (l.length:Int)<2 ^ (32:Int).toNat/\ ∀ h,h∈l->okHd h):=F3 2 Sp_hd EG
theorem BR (n:Int) (s:List UInt8) (hs:s.length<=1000000) (hn:n<=1000000): ∀ (m fuel k:Nat) (acc:List Hd) (q:Nat),((k+m:Nat):Int)=n->m<fuel->q<=s.length->acc.length=k ->
 (∃ (e:Int) (st:I),il pHd m s q= .error e/\cZ n fuel [] acc k ⟨s.drop q,q,0⟩=some (.ret ([],st))/\st.err=e/\st.err≠0) \/
 (∃ l r,il pHd m s q= .ok (l,r)/\cZ n fuel [] acc k ⟨s.drop q,q,0⟩=some (.go ([],acc++l,k+m,⟨s.drop r,r,0⟩))/\q<=r/\r<=s.length)
 | 0,fuel+1,k,acc,q,h1,h2,h3,h4=> .inr ⟨[],q,rfl,by rw[cZ,Mh Mc,JE]; rfl,JN _,h3⟩
 | m+1,fuel+1,k,acc,q,h1,h2,h3,h4=>by
  rw[cZ,Mg Mc];rcases QN.run s q h3 with⟨e,st,p1,g1,x1,y1⟩ | ⟨nm,q1,p1,g1,n1,l1⟩
  ·left;refine⟨e,st,by rw[il,Pr.bind_err (show pHd s q= .error e from Pr.bind_err p1)],?_,x1,y1⟩;rw[g1,Jo];simp only;rw[jL y1,Jo];simp only;rw[Mg Mc,bn,Jo];simp only;rw[Mh y1]
  rw[g1,Jo];simp only;rcases QV.run s q1 l1 with⟨e,st,p2,g2,x2,y2⟩ | ⟨v,q2,p2,g2,n2,l2⟩
  ·left;have ht:pHd s q= .error e:=by rw[pHd,Pr.bind_of p1,Pr.bind_err p2]
   refine⟨e,st,by rw[il,Pr.bind_err ht],?_,x2,y2⟩;rw[g2,Jo];simp only;rw[Mg Mc,bn,Jo];simp only;rw[Mh y2]
  rw[g2,Jo];simp only;rw[Mg Mc,bn,Jo];simp only[if_true];rw[Mg Mc];have ht:pHd s q= .ok (⟨nm,v⟩,q2):=by rw[pHd,Pr.bind_of p1,Pr.bind_of p2]; rfl
  rw[il,Pr.bind_of ht];rcases BR n s hs hn m fuel (k+1) (acc ++ [(⟨nm,v⟩:Hd)]) q2 Mc Mc l2 (by rw[Js,h4]; rfl) with⟨e,st,r1,r2,r3,r4⟩ | ⟨l,r,r1,r2,r3,r4⟩
  ·exact .inl ⟨e,st,by rw[Pr.bind_err r1],r2,r3,r4⟩
  ·refine .inr ⟨⟨nm,v⟩::l,r,by rw[Pr.bind_of r1]; rfl,?_,by omega,r4⟩;rw[r2,Jw,show k+1+m=k+(m+1) by omega];rfl
theorem B_hds:CB bO Db []:=by
 refine⟨fun st h=> ?_,fun s q hs hq=> ?_⟩
 ·unfold bO;rw[tw h,Jo];simp only;rw[bn,Jo];simp only;rw[Mh h]
 ·unfold bO;rcases AM.run s q hq with⟨e,st,p1,g1,x1,y1⟩ | ⟨c,q1,p1,g1,n1,l1⟩
  ·refine .inl ⟨e,st,Pr.bind_err (Pr.bind_err p1),?_,x1,y1⟩;rw[g1,Jo];simp only;rw[bn,Jo];simp only;rw[Mh y1]
  ·rw[g1,Jo];simp only;rw[bn,Jo];simp only[if_true];have hd:(s.drop q1).length=s.length - q1:=JA;have hE:Db s q=((qI 2 c).bind fun n=>il pHd n.toNat) s q1:=by
    unfold Db BQ qQ Pr.bind;rw[p1]
   rw[hE];unfold Pr.bind qI;by_cases hn:c<0
   ·rw[Mg hn,Mg hn];exact .inl ⟨4,_,rfl,rfl,rfl,by simp[cX]⟩
   rw[Mh hn,Mh hn,qb,Jo];simp only;rw[hd,Mg (show 0<=((s.length - q1:Nat):Int)/\((s.length - q1:Nat):Int)<=9223372036854775807 by omega)];by_cases hc:0<2/\((s.length - q1:Nat):Int) / ((2:Nat):Int)<c
   ·have hc2:c>((s.length - q1:Nat):Int) / 2:=hc.2;rw[Mg hc,Mg hc2];exact .inl ⟨1,_,rfl,rfl,rfl,by simp[cX]⟩
   ·have hc2: ¬ c>((s.length - q1:Nat):Int) / 2:=fun h=>hc ⟨by decide,h⟩;rw[Mh hc,Mh hc2];simp only;rcases BR c s hs Mc c.toNat (c.toNat+1) 0 [] q1 Mc Mc l1 rfl with⟨e,st,r1,r2,r3,r4⟩ | ⟨l,r,r1,r2,r3,r4⟩
    ·exact .inl ⟨e,st,r1,by rw[r2]; rfl,r3,r4⟩
    ·refine .inr ⟨l,r,r1,?_,by omega,r4⟩;rw[r2,JI];rfl
def hwt (h:Hd):Nat:=20+h.I3.length+h.IQ.data.length
def lX:List Hd->Nat
 | []=>0
 | h::l=>hwt h+lX l
theorem jh (n:Int) (h: -1<=n) (h2:n<=2147483647):(cQ (bw n)).length<=10:=jX _ (io n Mc Mc)
theorem lq (n:Int) (h: -1<=n) (h2:n<=2147483647):bw n<2 ^ (32:Int).toNat:=by
 rw[show 2 ^ (32:Int).toNat=4294967296 by decide];exact zZ n ⟨by omega,h2⟩
theorem ls (b:Bl) (h:b.data.length<=2147483647): -1<=blen b/\blen b<=2147483647:=by unfold blen; split <;> omega
theorem wv (h:Hd) (hk:h.I3.length<=1000000) (hv:h.IQ.data.length<=1000000):(gl h).length<=hwt h:=by
 have h1:=jh (h.I3.length:Int) Mc Mc;have hb:=ls h.IQ Mc;have h2:=jh (blen h.IQ) hb.1 hb.2;simp only[gl,Js,hwt];omega
theorem uN: ∀ l:List Hd,lX l<=1000000->(aS gl l).length<=lX l
 | [],h=>JN _
 | x::l,h=>by
  have h1:hwt x<=lX (x::l):=by rw[lX]; omega
  have h2:=uN l (by rw[lX] at h; omega);have h3:=wv x (by unfold hwt at h1; omega) (by unfold hwt at h1; omega);rw[aS,Js,lX];omega
theorem uO {t d:List UInt8} (hf:d.length<=1000000) (ht:t.length<=1000000000):mc (t,0) d=some (t++(cQ (bw (d.length:Int))++d),0):=by
 have:=kH (t:=t) (b:=⟨false,d⟩) rfl (by simp only; omega) (by simp only; omega);rw[yg _ _ (by simp only; omega)];rw[pf _ _ (by simp only; omega)] at this;exact this
theorem hw_l1: ∀ (l:List Hd) (t:List UInt8),(∀ h,h∈l->bu h.IQ=true)->t.length+lX l<=1000000->di l (t,0)=some (t++aS gl l,0)
 | [],t,h,hl=>by rw[di,aS,JE]
 | x::l,t,h,hl=>by
  have hx:t.length+(hwt x+lX l)<=1000000:=hl;have h1:=wv x (by unfold hwt at hx; omega) (by unfold hwt at hx; omega);have h2:(cQ (bw (x.I3.length:Int))++x.I3).length<=(gl x).length:=by simp only[gl,Js]; omega
  have e:t++(cQ (bw (x.I3.length:Int))++x.I3)++(cQ (bw (blen x.IQ))++x.IQ.data)=t++gl x:=by simp only[gl,Jw]
  have h3:(t++(cQ (bw (x.I3.length:Int))++x.I3)).length=t.length+(cQ (bw (x.I3.length:Int))++x.I3).length:=Js;rw[di,uO (by unfold hwt at hx; omega) Mc,Jo,kH (h x (.head _)) (by unfold hwt at hx; omega) (by rw[h3]; unfold hwt at hx h1; omega),Jo,e,hw_l1 l _ (fun y hy=>h y (.tail _ hy)) (by rw[Js]; omega),aS,Jw]
theorem qR: ∀ l:List Hd,l.length*20<=lX l
 | []=>by simp[lX]
 | h::l=>by have:=qR l; simp only[lX,hwt,Jz]; omega
theorem yW: ∀ (l:List Hd) (h:Hd),h∈l->hwt h<=lX l
 | x::l,h,hm=>by
  rcases List.mem_cons.1 hm with rfl | hm
  ·simp only[lX]; omega
  ·have:=yW l h hm; simp only[lX]; omega
theorem EI (l:List Hd) (t:List UInt8) (h: ∀ x,x∈l->bu x.IQ=true) (ht:t.length+10+lX l<=1000000):gS (t,0) l=some (t++(cQ (bw (l.length:Int))++aS gl l),0):=by
 have hn:=qR l;have h1:=jh (l.length:Int) Mc Mc;unfold gS;rw[tR _ _ ⟨by omega,by simp only; omega⟩];unfold gZ;rw[Mg Mc,lU,Jo,hw_l1 l _ h (by rw[Js]; omega),Jw];rfl
theorem BS:CQ kU (n8 64) 0:=(xp 64 (.inr rfl)).cq (jU 64 (.inr rfl))
theorem yX {st:I} (h:st.err≠0):kU st=some (0,st):=BS.dead st h
theorem gX {st:I} (h:st.err≠0):dJ st=some (st.err,st):=by rw[fG,tM h]
def uP:Pr Unit:=fun s q=>if q=s.length then .ok ((),q) else .error 2
def yY:Rec:=⟨0,0,⟨false,[]⟩,⟨false,[]⟩,[]⟩
def sP:Pr Rec:=(eI 1).bind fun z=>if z=0 then (n8 64).bind fun t=>(n8 32).bind fun o=>if o<0 then .err 11 else lO.bind fun k=>lO.bind fun v=>Db.bind fun h=>uP.bind fun _=> .ret ⟨t,o,k,v,h⟩ else .err 8
def uQ (st9:I):Option (Rec×Int):=(dB st9 1).bind fun (x12,st13)=>if x12=0 then ((kU st13).bind fun (x16,st17)=>(nb st17).bind fun (x19,st20)=>if x19<0 then ((bT st20 11).bind fun st24=>(cF st24).bind fun (x26,st27)=>(cF st27).bind fun (x29,st30)=>(bO st30).bind fun (x32,st35)=>(dJ st35).bind fun (x37,st38)=>some ((⟨x16,x19,x26,x29,x32⟩:Rec),x37)) else ((cF st20).bind fun (x43,st44)=>(cF st44).bind fun (x46,st47)=>(bO st47).bind fun (x49,st52)=>(dJ st52).bind fun (x54,st55)=>some ((⟨x16,x19,x43,x46,x49⟩:Rec),x54))) else ((bT st13 8).bind fun st60=>(kU st60).bind fun (x62,st63)=>(nb st63).bind fun (x65,st66)=>if x65<0 then ((bT st66 11).bind fun st70=>(cF st70).bind fun (x72,st73)=>(cF st73).bind fun (x75,st76)=>(bO st76).bind fun (x78,st81)=>(dJ st81).bind fun (x83,st84)=>some ((⟨x62,x65,x72,x75,x78⟩:Rec),x83)) else ((cF st66).bind fun (x89,st90)=>(cF st90).bind fun (x92,st93)=>(bO st93).bind fun (x95,st98)=>(dJ st98).bind fun (x100,st101)=>some ((⟨x62,x65,x89,x92,x95⟩:Rec),x100)))
theorem EJ (s:List UInt8) (hs:s.length<=1000000):(∃ e x,sP s 0= .error e/\uQ ⟨s,0,0⟩=some (x,e)/\e≠0)\/(∃ x,sP s 0= .ok (x,s.length)/\uQ ⟨s,0,0⟩=some (x,0)):=by
 unfold uQ sP;have r0:=Q1.run s 0 (JM _);rw[List.drop_zero] at r0;have hB:=B_hds;rcases r0 with⟨e,st,p0,g0,x0,y0⟩ | ⟨z,q0,p0,g0,n0,l0⟩
 ·refine .inl ⟨e,⟨0,0,⟨false,[]⟩,⟨false,[]⟩,[]⟩,Pr.bind_err p0,?_,by rw[<- x0]; exact y0⟩;rw[g0];simp only[Jo,if_true,yX y0,tw y0,jL y0,hB.dead _ y0,gX y0,x0,show ¬ (0:Int)<0 by decide,if_false]
 rw[g0,Jo];simp only;by_cases hz:z=0
 ·rw[Mg hz,Pr.bind_of p0,Mg hz];rcases BS.run s q0 l0 with⟨e,st,p1,g1,x1,y1⟩ | ⟨a,q1,p1,g1,n1,l1⟩
  ·refine .inl ⟨e,⟨0,0,⟨false,[]⟩,⟨false,[]⟩,[]⟩,Pr.bind_err p1,?_,by rw[<- x1]; exact y1⟩;rw[g1];simp only[Jo,if_true,tw y1,jL y1,hB.dead _ y1,gX y1,x1,show ¬ (0:Int)<0 by decide,if_false]
  rw[g1,Jo,Pr.bind_of p1];simp only;rcases AM.run s q1 l1 with⟨e,st,p2,g2,x2,y2⟩ | ⟨o,q2,p2,g2,n2,l2⟩
  ·refine .inl ⟨e,⟨a,0,⟨false,[]⟩,⟨false,[]⟩,[]⟩,Pr.bind_err p2,?_,by rw[<- x2]; exact y2⟩;rw[g2];simp only[Jo,if_true,jL y2,hB.dead _ y2,gX y2,x2,show ¬ (0:Int)<0 by decide,if_false]
  rw[g2,Jo,Pr.bind_of p2];simp only;by_cases ho:o<0
  ·rw[Mg ho,Mg ho,cY,Jo,qG];have y:(⟨s.drop q2,q2,11⟩:I).err≠0:=by simp
   refine .inl ⟨11,⟨a,o,⟨false,[]⟩,⟨false,[]⟩,[]⟩,rfl,?_,by decide⟩;simp only[Jo,jL y,hB.dead _ y,gX y]
  rw[Mh ho,Mh ho];rcases QV.run s q2 l2 with⟨e,st,p3,g3,x3,y3⟩ | ⟨k,q3,p3,g3,n3,l3⟩
  ·refine .inl ⟨e,⟨a,o,⟨false,[]⟩,⟨false,[]⟩,[]⟩,Pr.bind_err p3,?_,by rw[<- x3]; exact y3⟩;rw[g3];simp only[Jo,jL y3,hB.dead _ y3,gX y3,x3]
  rw[g3,Jo,Pr.bind_of p3];simp only;rcases QV.run s q3 l3 with⟨e,st,p4,g4,x4,y4⟩ | ⟨v,q4,p4,g4,n4,l4⟩
  ·refine .inl ⟨e,⟨a,o,k,⟨false,[]⟩,[]⟩,Pr.bind_err p4,?_,by rw[<- x4]; exact y4⟩;rw[g4];simp only[Jo,hB.dead _ y4,gX y4,x4]
  rw[g4,Jo,Pr.bind_of p4];simp only;rcases hB.run s q4 hs l4 with⟨e,st,p5,g5,x5,y5⟩ | ⟨h,q5,p5,g5,n5,l5⟩
  ·refine .inl ⟨e,⟨a,o,k,v,[]⟩,Pr.bind_err p5,?_,by rw[<- x5]; exact y5⟩;rw[g5];simp only[Jo,gX y5,x5]
  rw[g5,Jo,Pr.bind_of p5];simp only;rw[fG,Jo];simp only;by_cases hq:q5=s.length
  ·have he:uP s q5= .ok ((),q5):=by unfold uP; rw[Mg hq]
   have hi:(eT ⟨s.drop q5,q5,0⟩).err=0:=by rw[hq,List.drop_length]; rfl
   rw[Pr.bind_of he,hi];exact .inr ⟨⟨a,o,k,v,h⟩,by rw[hq]; rfl,rfl⟩
  ·have he:uP s q5= .error 2:=by unfold uP; rw[Mh hq]
   have hi:(eT ⟨s.drop q5,q5,0⟩).err=2:=by
    unfold eT;rw[Mh]
    ·rfl
    ·intro h0;have:=List.drop_eq_nil_iff.1 h0;omega
   rw[Pr.bind_err he,hi];exact .inl ⟨2,_,rfl,rfl,by decide⟩
 ·rw[Mh hz,Pr.bind_of p0,Mh hz,cY,Jo,qG];have y:(⟨s.drop q0,q0,8⟩:I).err≠0:=by simp
  refine .inl ⟨8,⟨0,0,⟨false,[]⟩,⟨false,[]⟩,[]⟩,rfl,?_,by decide⟩;simp only[Jo,if_true,yX y,tw y,jL y,hB.dead _ y,gX y,show ¬ (0:Int)<0 by decide,if_false]
def Dc:Pr Rec:=fun s q=>match v9 s q with
 | .error e=> .error e
 | .ok (d,r)=>match sP d 0 with
  | .error e=> .error e
  | .ok (x,_)=> .ok (x,r)
theorem ww (st9 st6:I) (x:Rec) (e:Int) (h:uQ st9=some (x,e)):((dB st9 1).bind fun (x12,st13)=>if x12=0 then ((kU st13).bind fun (x16,st17)=>(nb st17).bind fun (x19,st20)=>if x19<0 then ((bT st20 11).bind fun st24=>(cF st24).bind fun (x26,st27)=>(cF st27).bind fun (x29,st30)=>(bO st30).bind fun (x32,st35)=>(dJ st35).bind fun (x37,st38)=>if x37=0 then (some ((⟨x16,x19,x26,x29,x32⟩:Rec),st6)) else ((bT st6 x37).bind fun st41=>some (yY,st41))) else ((cF st20).bind fun (x43,st44)=>(cF st44).bind fun (x46,st47)=>(bO st47).bind fun (x49,st52)=>(dJ st52).bind fun (x54,st55)=>if x54=0 then (some ((⟨x16,x19,x43,x46,x49⟩:Rec),st6)) else ((bT st6 x54).bind fun st58=>some (yY,st58)))) else ((bT st13 8).bind fun st60=>(kU st60).bind fun (x62,st63)=>(nb st63).bind fun (x65,st66)=>if x65<0 then ((bT st66 11).bind fun st70=>(cF st70).bind fun (x72,st73)=>(cF st73).bind fun (x75,st76)=>(bO st76).bind fun (x78,st81)=>(dJ st81).bind fun (x83,st84)=>if x83=0 then (some ((⟨x62,x65,x72,x75,x78⟩:Rec),st6)) else ((bT st6 x83).bind fun st87=>some (yY,st87))) else ((cF st66).bind fun (x89,st90)=>(cF st90).bind fun (x92,st93)=>(bO st93).bind fun (x95,st98)=>(dJ st98).bind fun (x100,st101)=>if x100=0 then (some ((⟨x62,x65,x89,x92,x95⟩:Rec),st6)) else ((bT st6 x100).bind fun st104=>some (yY,st104)))))=if e=0 then some (x,st6) else some (yY,cX st6 e):=by
 unfold uQ at h
 revert h
 have hop: ∀ (o:Option (List Hd×I)) (f:List Hd->Rec),((o.bind fun (a,s1)=>(dJ s1).bind fun (b,s2)=>some (f a,b))=some (x,e))->(o.bind fun (a,s1)=>(dJ s1).bind fun (b,s2)=>if b=0 then some (f a,st6) else (bT st6 b).bind fun s3=>some (yY,s3))=if e=0 then some (x,st6) else some (yY,cX st6 e):=by
  intro o f h
  cases o with
  | none=>exact nomatch h
  | some y =>
   rw[Jo] at h ⊢;simp only[fG,Jo] at h ⊢;injection h with h;obtain⟨rfl,rfl⟩:=JP h;by_cases hz:(eT y.2).err=0
   ·rw[Mg hz,Mg hz]
   ·rw[Mh hz,Mh hz];rfl
 simp only[iM,Cy,DM,Aa,cY,Jo];intro h;split at h
 ·rename_i h1;rw[Mg h1];split at h
  ·rename_i h2;rw[Mg h2];exact hop _ (fun a=>⟨_,_,_,_,a⟩) h
  ·rename_i h2;rw[Mh h2];exact hop _ (fun a=>⟨_,_,_,_,a⟩) h
 ·rename_i h1;rw[Mh h1];split at h
  ·rename_i h2;rw[Mg h2];exact hop _ (fun a=>⟨_,_,_,_,a⟩) h
  ·rename_i h2;rw[Mh h2];exact hop _ (fun a=>⟨_,_,_,_,a⟩) h
theorem B_rec:CB gp Dc yY:=by
 refine⟨fun st h=> ?_,fun s q hs hq=> ?_⟩
 ·unfold gp;rw[F2 h,Jo];simp only;rw[bn,Jo];simp only;rw[Mh h];rfl
 ·unfold gp Dc;rcases QN.run s q hq with⟨e,st,p1,g1,x1,y1⟩ | ⟨d,r,p1,g1,n1,l1⟩
  ·refine .inl ⟨e,st,by rw[p1],?_,x1,y1⟩;rw[g1,Jo];simp only;rw[bn,Jo];simp only;rw[Mh y1];rfl
  ·have hsp:=oJ.spell _ _ _ _ hq p1;have hdl:d.length<=1000000:=by
    have:=hsp.2.2.1;rw[Js] at this;omega
   rw[g1,p1,Jo];simp only;rw[bn,Jo];simp only[if_true];rw[iL _ Mc,Jo];rcases EJ d hdl with⟨e,x,b1,b2,b3⟩ | ⟨x,b1,b2⟩
   ·have hb:=ww ⟨d,0,0⟩ ⟨s.drop r,r,0⟩ x e b2;rw[Mh b3] at hb;rw[b1];exact .inl ⟨e,_,rfl,hb,rfl,b3⟩
   ·have hb:=ww ⟨d,0,0⟩ ⟨s.drop r,r,0⟩ x 0 b2;rw[Mg rfl] at hb;rw[b1];exact .inr ⟨x,r,rfl,hb,n1,l1⟩
def lu (b:Bl):List UInt8:=cQ (bw (blen b))++b.data
def pj (l:List Hd):List UInt8:=cQ (bw (l.length:Int))++aS gl l
def dl (x:Rec):List UInt8:=be 0 1++(cQ (bw x.Ja)++(cQ (bw x.IZ)++(lu x.I3++(lu x.IQ++pj x.IR))))
def okBl (b:Bl):Prop:=bw (blen b)<2 ^ (32:Int).toNat/\bu b=true
def okHs (l:List Hd):Prop:=bw (l.length:Int)<2 ^ (32:Int).toNat/\ ∀ h,h∈l->okHd h
def uR (x:Rec):Prop:=bw x.Ja<2 ^ (64:Int).toNat/\(bw x.IZ<2 ^ (32:Int).toNat/\0<=x.IZ)/\okBl x.I3/\okBl x.IQ/\okHs x.IR
theorem AP {s:List UInt8} {x:Rec} {r:Nat} (h:sP s 0= .ok (x,r)):s=dl x/\uR x:=by
 obtain⟨z,q0,h0,h⟩:=Pr.bind_ok h;split at h
 ·rename_i hz;subst hz;obtain⟨t,q1,h1,h⟩:=Pr.bind_ok h;obtain⟨o,q2,h2,h⟩:=Pr.bind_ok h;split at h
  ·exact nomatch h
  ·rename_i ho;obtain⟨k,q3,h3,h⟩:=Pr.bind_ok h;obtain⟨v,q4,h4,h⟩:=Pr.bind_ok h;obtain⟨hs,q5,h5,h⟩:=Pr.bind_ok h;obtain⟨u,q6,h6,h⟩:=Pr.bind_ok h;injection h with h;obtain⟨rfl,rfl⟩:=JP h;obtain⟨-,a2,-,a4,a5⟩:=(dL 1 Md Md).spell _ _ _ _ (JM _) h0;obtain⟨-,b2,-,b4,b5⟩:=(jU 64 (.inr rfl)).spell _ _ _ _ a2 h1;obtain⟨-,c2,-,c4,c5⟩:=(jU 32 (.inl rfl)).spell _ _ _ _ b2 h2;obtain⟨-,d2,-,d4,d5⟩:=iJ.spell _ _ _ _ c2 h3;obtain⟨-,e2,-,e4,e5⟩:=iJ.spell _ _ _ _ d2 h4;obtain⟨-,f2,-,f4,f5⟩:=EH.spell _ _ _ _ e2 h5;have hq:q5=s.length:=by
    unfold uP at h6;split at h6
    ·rename_i hh; exact hh
    ·exact nomatch h6
   refine⟨?_,b5,⟨c5,by simp only; omega⟩,d5,e5,f5⟩;have hs2:s=s.take q5:=by rw[hq,List.take_length]
   rw[hs2,f4,e4,d4,c4,b4,a4];simp only[dl,lu,pj,Jw,List.take_zero,JI]
 ·exact nomatch h
theorem SpV:Sp lO lu okBl:=iJ
theorem SpH:Sp Db pj okHs:=EH
theorem Dd {x:Rec} (h:uR x):sP (dl x) 0= .ok (x,(dl x).length):=by
 obtain⟨h1,⟨h2,h3⟩,h4,h5,h6⟩:=h;have hd:(dl x).drop 0=dl x:=rfl;have hlen:(dl x).length=1+((cQ (bw x.Ja)).length+((cQ (bw x.IZ)).length+((lu x.I3).length+((lu x.IQ).length+(pj x.IR).length)))):=by
  simp only[dl,Js,ax]
 generalize hE:dl x=E at hd hlen ⊢;have hh:E.drop 0=be 0 1++(cQ (bw x.Ja)++(cQ (bw x.IZ)++(lu x.I3++(lu x.IQ++(pj x.IR ++ []))))):=by
  rw[hd,<- hE];simp only[dl,JE]
 have g0:=(dL 1 Md Md).back _ _ _ 0 (JM _) Md hh;have hh:=bZ hh;rw[ax] at hh g0;have g1:=(jU 64 (.inr rfl)).back _ _ _ _ Mc h1 hh;have hh:=bZ hh;have g2:=(jU 32 (.inl rfl)).back _ _ _ _ Mc h2 hh;have hh:=bZ hh;have g3:=SpV.back _ _ _ _ Mc h4 hh;have hh:=bZ hh;have g4:=SpV.back _ _ _ _ Mc h5 hh;have hh:=bZ hh;have g5:=SpH.back _ _ _ _ Mc h6 hh;rw[sP,Pr.bind_of g0,Mg rfl,Pr.bind_of g1,Pr.bind_of g2,Mh Mc,Pr.bind_of g3,Pr.bind_of g4,Pr.bind_of g5];have he:0+1+(cQ (bw x.Ja)).length+(cQ (bw x.IZ)).length+(lu x.I3).length+(lu x.IQ).length+(pj x.IR).length=E.length:=by omega
 rw[he,Pr.bind_of (a:=()) (r:=E.length) (by unfold uP; rw[Mg rfl])];rfl
def dw (x:Rec):List UInt8:=cQ (bw ((dl x).length:Int))++dl x
theorem AQ:Sp Dc dw (fun x=>uR x/\bw ((dl x).length:Int)<2 ^ (32:Int).toNat):=by
 refine⟨fun s q a r hq h=> ?_,fun s t q a hq ha h=> ?_⟩
 ·unfold Dc at h
  cases hp:v9 s q with
  | error e=>rw[hp] at h; exact nomatch h
  | ok y =>
   obtain⟨d,r'⟩:=y;rw[hp] at h;simp only at h;obtain⟨a1,a2,a3,a4,a5⟩:=oJ.spell _ _ _ _ hq hp
   cases hb:sP d 0 with
   | error e=>rw[hb] at h; exact nomatch h
   | ok z =>
    rw[hb] at h;injection h with h;obtain⟨rfl,rfl⟩:=JP h;obtain⟨b1,b2⟩:=AP (x:=z.1) (r:=z.2) hb;unfold dw;rw[<- b1];exact⟨a1,a2,a3,a4,b2,a5.1⟩
 ·have g1:=oJ.back s t q (dl a) hq ⟨ha.2,rfl⟩ h;unfold Dc;rw[g1];simp only;rw[Dd ha.1];rfl
def rwt (x:Rec):Nat:=x.I3.data.length+x.IQ.data.length+lX x.IR
theorem oL (b:Bl) (h:b.data.length<=1000000):(lu b).length<=10+b.data.length:=by
 have hb:=ls b Mc;have:=jh (blen b) hb.1 hb.2;rw[lu,Js];omega
theorem De (l:List Hd) (h:lX l<=1000000):(pj l).length<=10+lX l:=by
 have hn:=qR l;have h1:=jh (l.length:Int) Mc Mc;have h2:=uN l h;rw[pj,Js];omega
theorem oq (x:Rec) (ht:wI x.Ja) (ho:wI x.IZ) (hw:rwt x<=900000):(dl x).length<=51+rwt x:=by
 unfold rwt at hw ⊢;have h1:=jX _ (io x.Ja ht.1 ht.2);have h2:=jX _ (io x.IZ ho.1 ho.2);have h3:=oL x.I3 Mc;have h4:=oL x.IQ Mc;have h5:=De x.IR Mc;simp only[dl,Js,ax];omega
theorem AR (x:Rec) (ht:wI x.Ja) (ho:0<=x.IZ/\x.IZ<=2147483647) (hk:bu x.I3=true) (hv:bu x.IQ=true) (hh: ∀ h,h∈x.IR->bu h.IQ=true) (hw:rwt x<=900000):ir x=some (dl x,0):=by
 unfold rwt at hw;have h1:=jX _ (io x.Ja ht.1 ht.2);have h2:=jX _ (io x.IZ Mc Mc);have h3:=oL x.I3 Mc;have h4:=oL x.IQ Mc;unfold lu at h3 h4;unfold ir;rw[rl _ _ (by simp),Jo,show gH ([],0) [UInt8.ofNat (0:Int).toNat]=(be 0 1,0) from by decide];have l1:(be 0 1).length=1:=ax 0 1;generalize hb0:be 0 1=b0 at l1;rw[ye _ _ ⟨ht,by simp only; omega⟩,Jo,lU];have l2:(b0++cQ (bw x.Ja)).length<=11:=by rw[Js]; omega
 generalize hB1:b0++cQ (bw x.Ja)=B1 at l2;rw[tR _ _ ⟨by omega,by simp only; omega⟩,Jo];unfold gZ;rw[Mg Mc,lU];have l3:(B1++cQ (bw x.IZ)).length<=21:=by rw[Js]; omega
 generalize hB2:B1++cQ (bw x.IZ)=B2 at l3;rw[kH hk Mc Mc,Jo];have l4:(B2++(cQ (bw (blen x.I3))++x.I3.data)).length<=31+x.I3.data.length:=by rw[Js]; omega
 generalize hB3:B2++(cQ (bw (blen x.I3))++x.I3.data)=B3 at l4;rw[kH hv Mc Mc,Jo];have l5:(B3++(cQ (bw (blen x.IQ))++x.IQ.data)).length<=41+x.I3.data.length+x.IQ.data.length:=by rw[Js]; omega
 generalize hB4:B3++(cQ (bw (blen x.IQ))++x.IQ.data)=B4 at l5;rw[EI _ _ hh Mc,Jo,g6,Jo,ul];rw[<- hB4,<- hB3,<- hB2,<- hB1,<- hb0];simp only[dl,lu,pj,Jw]
theorem uS {x:Rec} (h:fa x=0):(0<=x.IZ/\x.IZ<=2147483647)/\bu x.I3=true/\bu x.IQ=true/\ ∀ h,h∈x.IR->bu h.IQ=true:=by
 unfold fa at h;split at h
 ·exact absurd h Md
 ·rename_i h1;split at h
  ·rename_i h2;simp only[Bool.and_eq_true] at h2;exact⟨by omega,h2.1.1,h2.1.2,fun y hy=>List.all_eq_true.1 h2.2 y hy⟩
  ·exact absurd h Md
theorem Df (x:Rec) (t:List UInt8) (ht:wI x.Ja) (ho:wI x.IZ) (hw:rwt x<=900000) (hl:t.length<=100000000):gT (t,0) x=some (if fa x=0 then (t++dw x,0) else (t,fa x)):=by
 unfold gT;rw[mW x ho,Jo];by_cases hr:fa x=0
 ·obtain⟨h1,h2,h3,h4⟩:=uS hr;have hb:=oq x ht ho hw;rw[Mg hr,Mg hr,AR x ht h1 h2 h3 h4 hw,Jo];simp only[if_true];rw[uO Mc Mc,Jo];rfl
 ·rw[Mh hr,Mh hr,ma,Jo,BE]
def BT (a b:Hd):Bool:=decide (a.I3=b.I3) && decide (a.IQ.null=b.IQ.null) && decide (a.IQ.data=b.IQ.data)
def ji:List Hd->List Hd->Bool
 | [],[]=>true
 | a::l,b::m=>BT a b && ji l m
 | _,_=>false
theorem sQ: ∀ l:List Hd,ji l l=true
 | []=>rfl
 | a::l=>by rw[ji,sQ l]; simp[BT]
theorem uT: ∀ (l m:List Hd),ji l m=true->l.length=m.length
 | [],[],h=>rfl
 | [],b::m,h=>nomatch h
 | a::l,[],h=>nomatch h
 | a::l,b::m,h=>by
  rw[ji,Bool.and_eq_true] at h;rw[Jz,Jz,uT l m h.2]
theorem wx (a b:List Hd) (ha:a.length<=1000000) (y:Bool): ∀ (t u:List Hd) (k fuel:Nat),a.drop k=t->b.drop k=u->t.length=u.length->t.length<fuel-> ∃ z,eK a b fuel y k=some (if ji t u=true then .go (y,z) else .ret false)
 | [],[],k,fuel+1,ht,hu,hl,hf=>by
  have:=gc ht;exact⟨k,by rw[eK,Mh Mc]; rfl⟩
 | [],d::u,k,fuel,ht,hu,hl,hf=>by simp at hl
 | c::t,[],k,fuel,ht,hu,hl,hf=>by simp at hl
 | c::t,d::u,k,fuel+1,ht,hu,hl,hf=>by
  obtain⟨t1,t2,t3⟩:=dV ht;obtain⟨u1,u2,u3⟩:=dV hu;simp only[Jz] at hl hf;obtain⟨z,hz⟩:=wx a b ha y t u (k+1) fuel t2 u2 Mc Mc;rw[eK,Mg Mc,t1,Jo,u1,Jo,ji,BT];by_cases h1:c.I3=d.I3
  ·rw[Mg h1,Jq h1];by_cases h2:c.IQ.null=d.IQ.null
   ·rw[Mg h2,Jq h2];by_cases h3:c.IQ.data=d.IQ.data
    ·rw[Mg h3,Jq h3,Mg Mc];exact⟨z,hz⟩
    ·rw[Mh h3,Jr h3];exact⟨0,rfl⟩
   ·rw[Mh h2,Jr h2];exact⟨0,rfl⟩
  ·rw[Mh h1,Jr h1];exact⟨0,rfl⟩
theorem EK (a b:List Hd) (ha:a.length<=1000000):kY a b=some (ji a b):=by
 unfold kY;by_cases hl:(a.length:Int)=(b.length:Int)
 ·obtain⟨z,hz⟩:=wx a b ha false a b 0 (((a.length:Int)).toNat+1) rfl rfl Mc Mc;rw[Mg hl,hz];cases ji a b <;> rfl
 ·rw[Mh hl];have:ji a b=false:=by
   cases h:ji a b with
   | false=>rfl
   | true=>exact absurd (congrArg Int.ofNat (uT a b h)) hl
  rw[this]
def sR (a b:Rec):Bool:=decide (a.Ja=b.Ja) && decide (a.IZ=b.IZ) && decide (a.I3.null=b.I3.null) && decide (a.I3.data=b.I3.data) && decide (a.IQ.null=b.IQ.null) && decide (a.IQ.data=b.IQ.data) && ji a.IR b.IR
theorem AS (a:Rec):sR a a=true:=by simp[sR,sQ]
theorem EL (a b:Rec) (ha:a.IR.length<=1000000):kZ a b=some (sR a b):=by
 unfold kZ sR;rw[EK _ _ ha];by_cases h1:a.Ja=b.Ja <;> by_cases h2:a.IZ=b.IZ <;> by_cases h3:a.I3.null=b.I3.null <;> by_cases h4:a.I3.data=b.I3.data <;> by_cases h5:a.IQ.null=b.IQ.null <;> by_cases h6:a.IQ.data=b.IQ.data <;> simp[h1,h2,h3,h4,h5,h6]
theorem EM {x:Rec} (ht:wI x.Ja) (hr:fa x=0) (hw:rwt x<=900000):uR x/\bw ((dl x).length:Int)<2 ^ (32:Int).toNat:=by
 obtain⟨h1,h2,h3,h4⟩:=uS hr;have hb:=oq x ht ⟨by omega,by omega⟩ hw;unfold rwt at hw hb;have hn:=qR x.IR;have bk:=ls x.I3 Mc;have bv:=ls x.IQ Mc;refine⟨⟨?_,⟨lq _ Mc h1.2,h1.1⟩,⟨lq _ bk.1 bk.2,h2⟩,⟨lq _ bv.1 bv.2,h3⟩,lq _ Mc Mc,fun h hh=> ?_⟩,lq _ Mc Mc⟩
 ·rw[show 2 ^ (64:Int).toNat=18446744073709551616 by decide];exact io _ ht.1 ht.2
 ·have hm:=yW _ _ hh;unfold hwt at hm;have b:=ls h.IQ Mc;exact⟨lq _ Mc Mc,lq _ b.1 b.2,h4 h hh⟩
theorem AU (x:Rec) (ht:wI x.Ja) (ho:wI x.IZ) (hw:rwt x<=900000):(dw x).length<=61+rwt x:=by
 have hb:=oq x ht ho hw;have h6:=jX _ (io ((dl x).length:Int) Mc Mc);rw[dw,Js];omega
theorem yZ {x:Rec} (h:uR x):fa x=0/\wI x.Ja/\wI x.IZ:=by
 obtain⟨h1,⟨h2,h3⟩,h4,h5,h6⟩:=h;rw[show 2 ^ (64:Int).toNat=18446744073709551616 by decide] at h1;rw[show 2 ^ (32:Int).toNat=4294967296 by decide] at h2;have ho:x.IZ<=2147483647:=by unfold bw at h2; split at h2 <;> omega
 refine⟨?_,?_,⟨by omega,by omega⟩⟩
 ·unfold fa;have hb:oh x.IR=true:=List.all_eq_true.2 fun y hy=>(h6.2 y hy).2.2;rw[Mh Mc,h4.2,h5.2,hb];rfl
 ·unfold bw at h1;constructor <;> (split at h1 <;> omega)
def crcP:Nat:=2197175160
def sf (x:Nat):Nat:=x / 2 ^^^ (if x % 2=1 then crcP else 0)
def ot:Nat->Nat->Nat
 | 0,x=>x
 | k+1,x=>ot k (sf x)
theorem xD (x y:Nat):(x ^^^ y) % 2=(x % 2+y % 2) % 2:=by
 have h:=Nat.xor_mod_two_pow (a:=x) (b:=y) (n:=1);rw[Nat.pow_one] at h;rw[h];rcases Nat.mod_two_eq_zero_or_one x with hx | hx <;> rcases Nat.mod_two_eq_zero_or_one y with hy | hy <;> rw[hx,hy] <;> rfl
theorem xE (x y:Nat):(x ^^^ y) / 2=(x / 2) ^^^ (y / 2):=Nat.xor_div_two
theorem EN (x y:Nat):sf (x ^^^ y)=sf x ^^^ sf y:=by
 unfold sf;rw[xE,xD];rcases Nat.mod_two_eq_zero_or_one x with hx | hx <;> rcases Nat.mod_two_eq_zero_or_one y with hy | hy <;> simp[hx,hy]
 ·rw[Nat.xor_assoc]
 ·ac_rfl
 ·rw[show x / 2 ^^^ crcP ^^^ (y / 2 ^^^ crcP)=x / 2 ^^^ y / 2 ^^^ (crcP ^^^ crcP) by ac_rfl,Nat.xor_self,Nat.xor_zero]
theorem za: ∀ (k x y:Nat),ot k (x ^^^ y)=ot k x ^^^ ot k y
 | 0,_,_=>rfl
 | k+1,x,y=>by show ot k _= _; rw[EN,za k]; rfl
theorem Dg (x:Nat):sf (2*x)=x:=by
 unfold sf; rw[Mh Mc,Nat.xor_zero]; omega
theorem uU: ∀ (k x:Nat),ot k (2 ^ k*x)=x
 | 0,x=>by rw[Nat.pow_zero,Nat.one_mul]; rfl
 | k+1,x=>by
  show ot k (sf _)=x;rw[show 2 ^ (k+1)*x=2*(2 ^ k*x) by rw[Nat.pow_succ,Nat.mul_comm (2 ^ k) 2,Nat.mul_assoc],Dg];exact uU k x
theorem BU {x:Nat} (h:x<2 ^ 32):sf x<2 ^ 32:=by
 unfold sf;exact Nat.xor_lt_two_pow Mc (by split <;> decide)
theorem tz: ∀ (k:Nat) {x:Nat},x<2 ^ 32->ot k x<2 ^ 32
 | 0,_,h=>h
 | k+1,_,h=>tz k (BU h)
theorem Dh (x b:Nat) (hb:b<256):ot 8 (x ^^^ b)=ot 8 ((x % 256) ^^^ b) ^^^ (x / 256):=by
 have h:x=(x % 256) ^^^ (2 ^ 8*(x / 256)):=by
  apply Nat.eq_of_testBit_eq;intro i;rw[Nat.testBit_xor,show (256:Nat)=2 ^ 8 from rfl,Nat.testBit_mod_two_pow,Nat.testBit_two_pow_mul,Nat.testBit_div_two_pow];by_cases hi:i<8
  ·simp[hi,show ¬ 8<=i by omega]
  ·simp[hi,show 8<=i by omega]
 conv=>lhs; rw[h]
 rw[show x % 256 ^^^ 2 ^ 8*(x / 256) ^^^ b=(x % 256 ^^^ b) ^^^ (2 ^ 8*(x / 256)) by ac_rfl,za,uU]
def AV:Nat->List UInt8->Nat
 | x,[]=>x
 | x,c::l=>AV (ot 8 (x ^^^ c.toNat)) l
theorem sS: ∀ (l m:List UInt8) (x:Nat),AV x (l++m)=AV (AV x l) m
 | [],_,_=>rfl
 | c::l,m,x=>sS l m _
theorem xF: ∀ (l:List UInt8) {x:Nat},x<2 ^ 32->AV x l<2 ^ 32
 | [],_,h=>h
 | c::l,_,h=>xF l (tz 8 (Nat.xor_lt_two_pow h (Nat.lt_trans c.toNat_lt Md)))
theorem oM (a:Nat) (h:a<4294967296):(BitVec.ofInt IntKind.u32.bits (a:Int)).toNat=a:=by
 show (BitVec.ofInt 32 (a:Int)).toNat=a;rw[BitVec.ofInt_natCast,BitVec.toNat_ofNat,Nat.mod_eq_of_lt Mc]
theorem zb (a:Nat) (h:a<256):(BitVec.ofInt IntKind.u8.bits (a:Int)).toNat=a:=by
 show (BitVec.ofInt 8 (a:Int)).toNat=a;rw[BitVec.ofInt_natCast,BitVec.toNat_ofNat,Nat.mod_eq_of_lt Mc]
theorem wrap_u32 (a:Nat):IntKind.u32.wrap (a:Int)=((a % 4294967296:Nat):Int):=by
 rw[IntKind.wrap_u32]; omega
theorem wrap_u8 (a:Nat):IntKind.u8.wrap (a:Int)=((a % 256:Nat):Int):=by
 rw[IntKind.wrap_u8]; omega
theorem tA (a b:Nat) (ha:a<4294967296) (hb:b<4294967296):Go.bits .xor .u32 (a:Int) (b:Int)=((a ^^^ b:Nat):Int):=by
 show IntKind.u32.wrap (((BitVec.ofInt IntKind.u32.bits (a:Int)) ^^^ (BitVec.ofInt IntKind.u32.bits (b:Int))).toNat:Int)= _;rw[BitVec.toNat_xor,oM a ha,oM b hb,wrap_u32,Nat.mod_eq_of_lt (Nat.xor_lt_two_pow (n:=32) ha hb)]
theorem xor_u8 (a b:Nat) (ha:a<256) (hb:b<256):Go.bits .xor .u8 (a:Int) (b:Int)=((a ^^^ b:Nat):Int):=by
 show IntKind.u8.wrap (((BitVec.ofInt IntKind.u8.bits (a:Int)) ^^^ (BitVec.ofInt IntKind.u8.bits (b:Int))).toNat:Int)= _;rw[BitVec.toNat_xor,zb a ha,zb b hb,wrap_u8,Nat.mod_eq_of_lt (Nat.xor_lt_two_pow (n:=8) ha hb)]
theorem EO (a:Nat) (ha:a<4294967296):Go.bits .and .u32 (a:Int) 1=((a % 2:Nat):Int):=by
 show IntKind.u32.wrap (((BitVec.ofInt IntKind.u32.bits (a:Int)) &&& (BitVec.ofInt IntKind.u32.bits ((1:Nat):Int))).toNat:Int)= _;rw[BitVec.toNat_and,oM a ha,oM 1 Md,wrap_u32,Nat.and_one_is_mod,Nat.mod_eq_of_lt Mc]
theorem EP (a:Nat):vA .u32 (a:Int) 1=((a / 2:Nat):Int):=by
 show Int.fdiv (a:Int) 2= _;rw[Int.fdiv_eq_ediv_of_nonneg _ Md];omega
theorem EQ (a:Nat):vA .u32 (a:Int) 8=((a / 256:Nat):Int):=by
 show Int.fdiv (a:Int) 256= _;rw[Int.fdiv_eq_ediv_of_nonneg _ Md];omega
theorem ER (y:Nat) (hy:y<4294967296):(if Go.bits .and .u32 (y:Int) 1=1 then some (Go.bits .xor .u32 (vA .u32 (y:Int) 1) 2197175160) else some (vA .u32 (y:Int) 1))=some ((sf y:Nat):Int):=by
 rw[EO y hy,EP,show (2197175160:Int)=((2197175160:Nat):Int) from rfl,tA _ _ Mc Md];unfold sf;by_cases h:y % 2=1
 ·rw[Mg Mc,Mg h]; rfl
 ·rw[Mh Mc,Mh h,Nat.xor_zero]
theorem ES: ∀ (m y k:Nat),y<4294967296->k<=8->8 - k<m->fq m (y:Int) k=some (((ot (8 - k) y:Nat):Int),8)
 | 0,_,_,_,_,h=>by omega
 | m+1,y,k,hy,hk,hm=>by
  rw[fq];by_cases h:k<8
  ·rw[Mg Mc,ER y hy,Jo,Mg Mc,ES m (sf y) (k+1) (BU hy) Mc Mc,show 8 - k=(8 - (k+1))+1 by omega];rfl
  ·rw[Mh Mc,show 8 - k=0 by omega,show k=8 by omega];rfl
def jM:List Int:=(List.range 256).map (fun j=>((ot 8 j:Nat):Int))
theorem uV (j:Nat) (hj:j<256):jM[j]? = some ((ot 8 j:Nat):Int):=by
 unfold jM;rw[List.getElem?_map,List.getElem?_range hj];rfl
theorem ET: ∀ (m k:Nat) (l:List Int),l.length=256->k<=256->256 - k<m->(∀ j,j<k->l[j]? = some ((ot 8 j:Nat):Int))->f9 m k l=some (256,jM)
 | 0,_,_,_,_,h,_=>by omega
 | m+1,k,l,hl,hk,hm,hj=>by
  rw[f9];by_cases h:k<256
  ·have e1:IntKind.u32.wrap (k:Int)=((k:Nat):Int):=by rw[wrap_u32,Nat.mod_eq_of_lt Mc]
   have e2:fq ((8:Int).toNat+1) (IntKind.u32.wrap (k:Int)) 0=some (((ot 8 k:Nat):Int),8):=by
    rw[e1];exact ES 9 k 0 Mc Mc Mc
   have e3:l[k]? = some (l[k]'(by omega)):=List.getElem?_eq_getElem Mc;rw[Mg Mc,e2,Jo];dsimp only;rw[e3,Jo,Jo,Mg Mc];refine ET m (k+1) _ (by rw[List.length_set]; exact hl) Mc Mc (fun j hjk=> ?_);rw[List.getElem?_set];by_cases e:k=j
   ·rw[Mg e,Mg Mc,e]
   ·rw[Mh e];exact hj j Mc
  ·rw[Mh Mc,show k=256 by omega];congr 2;apply List.ext_getElem?;intro j;by_cases hj2:j<256
   ·rw[uV j hj2];exact hj j Mc
   ·rw[List.getElem?_eq_none Mc,List.getElem?_eq_none (by unfold jM; simp; omega)]
theorem BV:kN=some jM:=by
 unfold kN;rw[show (256:Int).toNat+1=257 from rfl,ET 257 0 _ (List.length_replicate ..) Mc Mc (fun j hj=>absurd hj Mc),Jo]
theorem BW (s:List UInt8) (hs:s.length<=9223372036854775806): ∀ (m y k:Nat),y<4294967296->k<=s.length->s.length - k<m->dD s m (y:Int) k jM=some (((AV y (s.drop k):Nat):Int),s.length,jM)
 | 0,_,_,_,_,h=>by omega
 | m+1,y,k,hy,hk,hm=>by
  rw[dD];by_cases h:k<s.length
  ·have e1:s[k]? = some s[k]:=List.getElem?_eq_getElem h;have hc:=s[k].toNat_lt;have hx:y % 256 ^^^ s[k].toNat<256:=Nat.xor_lt_two_pow (n:=8) Mc hc;have e2:Go.bits .xor .u8 (IntKind.u8.wrap (y:Int)) (s[k].toNat:Int)=((y % 256 ^^^ s[k].toNat:Nat):Int):=by
    rw[wrap_u8,xor_u8 _ _ Mc Mc]
   have e3:ot 8 (y % 256 ^^^ s[k].toNat)<2 ^ 32:=tz 8 Mc
   rw[Mg Mc,e1,Jo,e2,Mg Mc,Kp,uV _ hx,Jo,Mg Mc,EQ,tA _ _ Mc Mc,<- Dh y _ Mc,
    BW s hs m _ (k+1) (tz 8 (Nat.xor_lt_two_pow (n:=32) hy Mc)) Mc Mc]
   rw[bz e1];rfl
  ·rw[Mh Mc,show k=s.length by omega,List.drop_length];rfl
def pb (x:Nat) (s:List UInt8):Nat:=4294967295 ^^^ AV (4294967295 ^^^ x) s
theorem xG {x:Nat} (hx:x<4294967296) (s:List UInt8):pb x s<4294967296:=Nat.xor_lt_two_pow (n:=32) Md (xF s (Nat.xor_lt_two_pow (n:=32) Md hx))
theorem ones2 (x:Nat):4294967295 ^^^ (4294967295 ^^^ x)=x:=by rw[<- Nat.xor_assoc,Nat.xor_self,Nat.zero_xor]
theorem zc (x:Nat) (s t:List UInt8):pb x (s++t)=pb (pb x s) t:=by
 unfold pb;rw[sS,ones2]
theorem EU (x:Nat):pb x []=x:=ones2 x
theorem EV (x:Nat) (hx:x<4294967296) (s:List UInt8) (hs:s.length<=9223372036854775806):ge jM (x:Int) s=some (((pb x s:Nat):Int),jM):=by
 unfold ge;have h1:(4294967295 ^^^ x:Nat)<4294967296:=Nat.xor_lt_two_pow (n:=32) Md hx;rw[show (4294967295:Int)=((4294967295:Nat):Int) from rfl,tA _ _ Md hx,Kp,BW s hs _ _ 0 h1 Mc Mc,Jo,List.drop_zero];dsimp only;rw[tA _ _ Md (xF s h1)];rfl
theorem EW: ∀ (l:List (List UInt8)) (x:Nat),x<4294967296->(∀ s,s∈l->s.length<=9223372036854775806)->dh l (x:Int) jM=some (((pb x l.flatten:Nat):Int),jM)
 | [],x,_,_=>by rw[dh,List.flatten_nil,EU]
 | s::l,x,hx,hs=>by
  rw[dh,EV x hx s (hs s (List.mem_cons_self ..)),Jo];dsimp only;rw[EW l _ (xG hx s) (fun t ht=>hs t (List.mem_cons_of_mem _ ht)),List.flatten_cons,zc]
theorem BX (l:List (List UInt8)) (hs: ∀ s,s∈l->s.length<=9223372036854775806):fP jM l=some (((pb 0 l.flatten:Nat):Int),jM):=by
 unfold fP;have h:=EW l 0 Md hs;rw[show ((0:Nat):Int)=0 from rfl] at h;rw[h,Jo]
def BZ (p:Pfx):List UInt8:=be p.I9 8++(be p.Jd 4++(be p.I5 4++(be 2 1++be (s32 p.Jh) 4)))
def gz (p:Pfx):List UInt8:=be p.Jj 2++pM [4,8,8,8,2,4,4] [p.I7,p.IV,p.Je,p.ID,p.IF,p.IX,p.Ji]
theorem F4 (p:Pfx):om p=BZ p++gz p:=by
 unfold om KS toL BZ gz;simp only[pM,Jw]
theorem Di (p:Pfx):(BZ p).length=21:=by
 unfold BZ;simp only[Js,ax]
theorem oN (p:Pfx):(om p).drop 21=gz p:=by
 rw[F4,<- Di p,List.drop_left]
def okRc (x:Rec):Prop:=uR x/\bw ((dl x).length:Int)<2 ^ (32:Int).toNat
def B0:Pr Unit:=fun s q=>if q=s.length then .error 10 else .ok ((),q)
def qS:Nat->Pr (List Rec)
 | 0=> .ret []
 | n+1=>B0.bind fun _=>Dc.bind fun x=>(qS n).bind fun l=> .ret (x::l)
theorem pN (x:Rec):0<(dw x).length:=by
 unfold dw;rw[Js];have:=nG (bw ((dl x).length:Int));omega
theorem pO: ∀ (n:Nat) (s:List UInt8) (q:Nat) (l:List Rec) (r:Nat),q<=s.length->qS n s q= .ok (l,r)->q<=r/\r<=s.length/\s.take r=s.take q++aS dw l/\l.length=n/\ ∀ x,x∈l->okRc x
 | 0,s,q,l,r,hq,h=>by
  injection h with h;obtain⟨rfl,rfl⟩:=JP h;exact⟨JN _,hq,by simp[aS],rfl,fun x h=>nomatch h⟩
 | n+1,s,q,l,r,hq,h=>by
  obtain⟨u,m,h1,h2⟩:=Pr.bind_ok h;unfold B0 at h1;split at h1
  ·exact nomatch h1
  injection h1 with h1;obtain⟨_,rfl⟩:=JP h1;obtain⟨x,m2,h3,h4⟩:=Pr.bind_ok h2;obtain⟨xs,m3,h5,h6⟩:=Pr.bind_ok h4;injection h6 with h6;obtain⟨rfl,rfl⟩:=JP h6;obtain⟨a1,a2,a3,a4,a5⟩:=AQ.spell s q x m2 hq h3;obtain⟨b1,b2,b3,b4,b5⟩:=pO n s m2 xs m3 a2 h5;refine⟨by omega,b2,by rw[b3,a4,aS,Jw],by rw[Jz,b4],fun y hy=> ?_⟩;rcases List.mem_cons.1 hy with rfl | hy
  ·exact a5
  ·exact b5 y hy
theorem wy: ∀ (l:List Rec) (s t:List UInt8) (q:Nat),q<=s.length->(∀ x,x∈l->okRc x)->s.drop q=aS dw l++t->qS l.length s q= .ok (l,q+(aS dw l).length)
 | [],s,t,q,hq,_,_=>rfl
 | x::l,s,t,q,hq,ho,hd=>by
  rw[aS,Jw] at hd;have hl:=congrArg List.length hd;rw[JA,Js] at hl;have hp:=pN x;have h0:B0 s q= .ok ((),q):=Mh Mc;have h1:=AQ.back s _ q x hq (ho x (.head _)) hd;have h2:=wy l s t _ Mc (fun y hy=>ho y (.tail _ hy)) (bZ hd);rw[Jz,qS,Pr.bind_of h0,Pr.bind_of h1,Pr.bind_of h2,aS,Js,<- Nat.add_assoc];rfl
def chk (a:Bat):Int:=(du a).getD 0
def body (a:Bat):List UInt8:=aS dw a.IG
def mkB (p:Pfx) (l:List Rec):Bat:=⟨p.I9,p.I5,eu p.Jj 3,eu p.Jj 4,eu p.Jj 5,p.I7,p.IV,p.Je,p.ID,p.IF,p.IX,l⟩
def pB (a:Bat) (s:Int):Pfx:=⟨a.I9,49+((body a).length:Int),a.I5,s,ig a.Jg a.Jf a.Jc,a.I7,a.IV,a.Je,a.ID,a.IF,a.IX,(a.IG.length:Int)⟩
def sumP (p:Pfx) (s:List UInt8):Nat:=pb 0 (gz p++s)
def ms (a:Bat):Nat:=sumP (pB a 0) (body a)
def e9 (a:Bat):List UInt8:=om (pB a (ms a))++body a
def okB (a:Bat):Prop:=okP (pB a (ms a))/\eB (ig a.Jg a.Jf a.Jc)=0/\(∀ x,x∈a.IG->okRc x)/\chk a=0
def qT (p:Pfx) (s:List UInt8):Except Int Bat :=
 if eB p.Jj=0 then
  match qS p.Ji.toNat s 0 with
  | .error e=> .error e
  | .ok (l,r)=>if r<s.length then .error 10 else if chk (mkB p l)=0 then .ok (mkB p l) else .error (chk (mkB p l))
 else .error (eB p.Jj)
def Dj:Pr Bat:=fun s q =>
 match Da s q with
 | .error e=> .error e
 | .ok (p,r)=>if s.length<r+(p.Jd - 49).toNat then .error 1 else
  if ((sumP p ((s.drop r).take (p.Jd - 49).toNat):Nat):Int)=p.Jh then
   match qT p ((s.drop r).take (p.Jd - 49).toNat) with
   | .error e=> .error e
   | .ok b=> .ok (b,r+(p.Jd - 49).toNat)
  else .error 5
theorem wz {n:Int} (h:eB n=0):ig (eu n 3) (eu n 4) (eu n 5)=n:=by
 have h1:n % 8=0/\0<=n/\n<=63:=by
  unfold eB at h;split at h
  ·cases h
  ·split at h
   ·cases h
   ·omega
 have h2:n=0\/n=8\/n=16\/n=24\/n=32\/n=40\/n=48\/n=56:=by omega
 rcases h2 with rfl | rfl | rfl | rfl | rfl | rfl | rfl | rfl <;> decide
theorem B5: ∀ a b c:Bool,eu (ig a b c) 3=a/\eu (ig a b c) 4=b/\eu (ig a b c) 5=c:=by decide
theorem EX {p:Pfx} {s:List UInt8} {b:Bat} (h:qT p s= .ok b) (h0:0<=p.Ji):eB p.Jj=0/\ ∃ l,b=mkB p l/\s=aS dw l/\(l.length:Int)=p.Ji/\(∀ x,x∈l->okRc x)/\chk b=0:=by
 unfold qT at h;by_cases ha:eB p.Jj=0
 ·rw[Mg ha] at h;refine⟨ha,?_⟩
  cases hr:qS p.Ji.toNat s 0 with
  | error e=>rw[hr] at h; exact nomatch h
  | ok x =>
   obtain⟨l,r⟩:=x;rw[hr] at h;dsimp only at h;by_cases hl:r<s.length
   ·rw[Mg hl] at h; exact nomatch h
   rw[Mh hl] at h;by_cases hc:chk (mkB p l)=0
   ·rw[Mg hc] at h;injection h with h;subst h;obtain⟨b1,b2,b3,b4,b5⟩:=pO _ s 0 l r (JM _) hr;rw[List.take_of_length_le Mc,List.take_zero,JI] at b3;exact⟨l,rfl,b3,by omega,b5,hc⟩
   ·rw[Mh hc] at h; exact nomatch h
 ·rw[Mh ha] at h; exact nomatch h
theorem pB_mk {p:Pfx} {l:List Rec} (h1:(49:Int)+((aS dw l).length:Int)=p.Jd) (h2:eB p.Jj=0) (h3:(l.length:Int)=p.Ji) (s:Int):pB (mkB p l) s=⟨p.I9,p.Jd,p.I5,s,p.Jj,p.I7,p.IV,p.Je,p.ID,p.IF,p.IX,p.Ji⟩:=by
 unfold pB mkB body;dsimp only;rw[h1,h3,wz h2]
theorem AW:Sp Dj e9 okB:=by
 refine⟨fun s q b r hq h=> ?_,fun s t q a hq ha hd=> ?_⟩
 ·unfold Dj at h
  cases hp:Da s q with
  | error e=>rw[hp] at h; exact nomatch h
  | ok x =>
   obtain⟨p,m⟩:=x;rw[hp] at h;dsimp only at h;obtain⟨a1,a2,a3,a4,a5,a6,a7,a8⟩:=AL.spell s q p m hq hp;by_cases hl:s.length<m+(p.Jd - 49).toNat
   ·rw[Mg hl] at h; exact nomatch h
   rw[Mh hl] at h;by_cases hs:((sumP p ((s.drop m).take (p.Jd - 49).toNat):Nat):Int)=p.Jh
   ·rw[Mg hs] at h
    cases ho:qT p ((s.drop m).take (p.Jd - 49).toNat) with
    | error e=>rw[ho] at h; exact nomatch h
    | ok b' =>
     rw[ho] at h;injection h with h;obtain⟨rfl,rfl⟩:=JP h;obtain⟨k1,l,rfl,k3,k4,k5,k6⟩:=EX ho a8;have hn:((s.drop m).take (p.Jd - 49).toNat).length=(p.Jd - 49).toNat:=by rw[Kw,JA]; omega
     have e1:(49:Int)+((aS dw l).length:Int)=p.Jd:=by rw[<- k3,hn]; omega
     have e2:((ms (mkB p l):Nat):Int)=p.Jh:=by
      rw[<- hs,k3];unfold ms;rw[pB_mk e1 k1 k4];rfl
     have e3:pB (mkB p l) (ms (mkB p l))=p:=by rw[pB_mk e1 k1 k4,e2]
     have e4:e9 (mkB p l)=om p++(s.drop m).take (p.Jd - 49).toNat:=by
      unfold e9;rw[e3,k3];rfl
     have a9:=congrArg List.length a4;refine⟨by omega,by omega,?_,?_,?_⟩
     ·rw[e4,Js,hn]; omega
     ·rw[e4,oI,a4,Jw]
     ·refine⟨by rw[e3]; exact⟨a5,a6,a7,a8⟩,?_,k5,k6⟩;show eB (ig (eu p.Jj 3) (eu p.Jj 4) (eu p.Jj 5))=0;rw[wz k1];exact k1
   ·rw[Mh hs] at h; exact nomatch h
 ·obtain⟨h1,h2,h3,h4⟩:=ha;unfold e9 at hd;rw[Jw] at hd;have hp:=AL.back s _ q _ hq h1 hd;have hd2:=bZ hd;have hl:=congrArg List.length hd;rw[JA,Js,Js] at hl;have hn:((pB a (ms a)).Jd - 49).toNat=(body a).length:=by
   show ((49:Int)+((body a).length:Int) - 49).toNat= _;omega
  have ht:(s.drop (q+(om (pB a (ms a))).length)).take (body a).length=body a:=by rw[hd2,List.take_left]
  unfold Dj;rw[hp];dsimp only;rw[hn,ht,Mh Mc,Mg (show ((sumP (pB a (ms a)) (body a):Nat):Int)=(pB a (ms a)).Jh from rfl)];have hr:=wy a.IG (body a) [] 0 (JM _) h3 (by rw[List.drop_zero,JE]; rfl);have ho:qT (pB a (ms a)) (body a)= .ok a:=by
   unfold qT;rw[Mg (show eB (pB a (ms a)).Jj=0 from h2),show (pB a (ms a)).Ji.toNat=a.IG.length from rfl,hr];dsimp only;obtain⟨b1,b2,b3⟩:=B5 a.Jg a.Jf a.Jc;have e:mkB (pB a (ms a)) a.IG=a:=by
    unfold mkB pB;dsimp only;rw[b1,b2,b3]
   rw[e,Mh (by show ¬ 0+(body a).length < _; omega),Mg h4]
  rw[ho];dsimp only;unfold e9;rw[Js,Nat.add_assoc]
def zBat:Bat:=⟨0,0,false,false,false,0,0,0,0,0,0,[]⟩
def bnR (r:Rec):Prop:=r.IR.length<=1000000/\r.I3.data.length<=1000000/\r.IQ.data.length<=1000000
def bnB (a:Bat):Prop:=lV a/\a.IG.length<=1000000/\ ∀ r,r∈a.IG->bnR r
theorem uW {α:Type} (enc:α->List UInt8): ∀ (l:List α) (x:α),x∈l->(enc x).length<=(aS enc l).length
 | y::l,x,h=>by
  rw[aS,Js];rcases List.mem_cons.1 h with rfl | h
  ·omega
  ·have:=uW enc l x h;omega
theorem uX {α:Type} (enc:α->List UInt8): ∀ (l:List α),(∀ x,x∈l->0<(enc x).length)->l.length<=(aS enc l).length
 | [],_=>JM _
 | y::l,h=>by
  rw[aS,Js,Jz];have h1:=h y (.head _);have:=uX enc l (fun x hx=>h x (.tail _ hx));omega
theorem Dk (h:Hd):0<(gl h).length:=by
 unfold gl;simp only[Js];have:=nG (bw (h.I3.length:Int));omega
theorem AX {x:Rec} (h:uR x) (hl:(dw x).length<=1000000):uo x/\bnR x:=by
 obtain⟨_,h2,h3⟩:=yZ h;have e:(dw x).length=(cQ (bw ((dl x).length:Int))).length+(dl x).length:=by unfold dw; rw[Js]
 have e2:(dl x).length<=1000000:=by omega
 simp only[dl,lu,pj,Js,ax] at e2;have h4:=uX gl x.IR (fun y _=>Dk y);have hS: ∀ d:List UInt8,d.length<=1000000->wS d:=fun d hd=>by unfold wS; omega
 refine⟨⟨h2,h3,⟨trivial,hS _ Mc⟩,⟨trivial,hS _ Mc⟩,by omega,fun y hy=> ?_⟩,by omega,by omega,by omega⟩;have h5:=uW gl x.IR y hy;have h6:(gl y).length<=1000000:=by omega
 simp only[gl,Js] at h6;exact⟨hS _ Mc,trivial,hS _ Mc⟩
theorem AY {a:Bat} (h:bnB a):du a=some (chk a)/\lJ a=some (chk a):=by
 obtain⟨cr,e0,h1,h2,_⟩:=uL a h.1 h.2.1 h.2.2;have e:chk a=xB a cr e0:=by unfold chk; rw[h1]; rfl
 rw[e];exact⟨h1,h2⟩
theorem zd (n:Int):bm n 8=decide (-9223372036854775808<=n/\n<=9223372036854775807):=by
 rw[Bool.eq_iff_iff];unfold bm;simp only[Bool.and_eq_true,decide_eq_true_eq];have:(2:Int) ^ (8*(8:Int).toNat - 1)=9223372036854775808:=by decide
 omega
theorem wI8 {n:Int} (h:bm n (8:Nat)=true):wI n:=by
 have h':bm n 8=true:=h;rw[zd] at h';have h2:=of_decide_eq_true h';exact h2
theorem wI4 {n:Int} (h:bm n (4:Nat)=true): -2147483648<=n/\n<=2147483647:=by
 have h':bm n 4=true:=h;rw[ej] at h';exact of_decide_eq_true h'
theorem wI2 {n:Int} (h:bm n (2:Nat)=true): -32768<=n/\n<=32767:=by
 have h':bm n 2=true:=h;rw[uK] at h';exact of_decide_eq_true h'
theorem uY {p:Pfx} (hp:okP p) {l:List Rec} (hl: ∀ x,x∈l->okRc x) (hb:(aS dw l).length<=1000000):bnB (mkB p l):=by
 obtain⟨⟨k1,k2,k3,_,k5,k6,k7,k8,k9,k10,k11,k12,k13,_⟩,_,_,_⟩:=hp;have w4: ∀ {n:Int},bm n (4:Nat)=true->wI n:=fun h=>by have:=wI4 h; unfold wI; omega
 have w2: ∀ {n:Int},bm n (2:Nat)=true->wI n:=fun h=>by have:=wI2 h; unfold wI; omega
 have hr: ∀ x,x∈l->uo x/\bnR x:=fun x hx=>AX (hl x hx).1 (by have:=uW dw l x hx; omega);have h4:=uX dw l (fun y _=>pN y);exact⟨⟨wI8 k1,w4 k3,trivial,trivial,trivial,w4 k7,wI8 k8,wI8 k9,wI8 k10,w2 k11,w4 k12,by show l.length<= _; omega,fun x hx=>(hr x hx).1⟩,by show l.length<= _; omega,fun x hx=>(hr x hx).2⟩
theorem ze (p:Pfx) (hc:p.Ji<=2147483647) (s:List UInt8) (hs:s.length<=1000000) (y:Int): ∀ (n k fuel:Nat) (acc:List Rec) (q:Nat),((k+n:Nat):Int)=p.Ji->n<fuel->q<=s.length->acc.length<=q ->
 (∃ e,qS n s q= .error e/\e≠0/\dz p fuel y k acc ⟨s.drop q,q,0⟩=some (.ret (zBat,e)))\/(∃ l r,qS n s q= .ok (l,r)/\q<=r/\r<=s.length/\dz p fuel y k acc ⟨s.drop q,q,0⟩=some (.go (y,k+n,acc++l,⟨s.drop r,r,0⟩)))
 | 0,k,fuel+1,acc,q,hk,hf,hq,ha=> .inr ⟨[],q,rfl,JN _,hq,by rw[dz,Mh Mc,JE,Nat.add_zero]⟩
 | n+1,k,fuel+1,acc,q,hk,hf,hq,ha=>by
  rw[dz,Mg Mc,qb,Jo];dsimp only;rw[JA,qS];by_cases hz:q=s.length
  ·rw[Mg Mc];exact .inl ⟨10,Pr.bind_err (Mg hz),by decide,rfl⟩
  rw[Mh Mc,Pr.bind_of (show B0 s q= .ok ((),q) from Mh hz)];rcases B_rec.run s q hs hq with⟨e,st,p1,g1,x1,y1⟩ | ⟨b,r,p1,g1,n1,l1⟩
  ·rw[g1,Jo];dsimp only;rw[bn,Jo];dsimp only;rw[Mh y1];exact .inl ⟨e,Pr.bind_err p1,by rw[<- x1]; exact y1,by rw[x1]; rfl⟩
  ·have h3:=(AQ.spell s q b r hq p1).2.2.1;have h4:=pN b;rw[g1,Jo];dsimp only;rw[bn,Jo];dsimp only;rw[Mg rfl,Mg Mc,Mg Mc,Pr.bind_of p1];rcases ze p hc s hs y n (k+1) fuel (acc ++ [b]) r Mc Mc l1 (by rw[Js,Kt]; omega) with⟨e,q1,q2,q3⟩ | ⟨l,m,q1,q2,q3,q4⟩
   ·exact .inl ⟨e,Pr.bind_err q1,q2,q3⟩
   ·exact .inr ⟨b::l,m,by rw[Pr.bind_of q1]; rfl,by omega,q3,by rw[q4,Jw,show k+1+n=k+(n+1) by omega]; rfl⟩
theorem bopen {p:Pfx} (hp:okP p) (s:List UInt8) (hs:s.length<=1000000):(∃ e x,qT p s= .error e/\e≠0/\hM p s=some (x,e))\/(∃ b,qT p s= .ok b/\hM p s=some (b,0)):=by
 obtain⟨k1,k2,k3,k4⟩:=id hp;have ha:=wI2 k1.2.2.2.2.2.1;have hc:=wI4 k1.2.2.2.2.2.2.2.2.2.2.2.2.1;try dsimp only at ha
 unfold hM qT;rw[Am _ Mc,Jo];by_cases h0:eB p.Jj=0;rotate_left
 ·rw[Mh h0,Mh h0];exact .inl ⟨_,_,rfl,h0,rfl⟩
 rw[Mg h0,Mg h0,CO,Jo];dsimp only;rw[iL _ Mc,Jo];rcases ze p hc.2 s hs 0 p.Ji.toNat 0 (p.Ji.toNat+1) [] 0 Mc Mc (JM _) (JM _) with⟨e,q1,q2,q3⟩ | ⟨l,m,q1,q2,q3,q4⟩
 ·rw[List.drop_zero] at q3;rw[q3,q1];exact .inl ⟨e,_,rfl,q2,rfl⟩
 ·rw[List.drop_zero] at q4;obtain⟨b1,b2,b3,b4,b5⟩:=pO _ s 0 l m (JM _) q1;rw[q4,q1,Jo];dsimp only;rw[qb,Jo];dsimp only;rw[JA];by_cases hl:m<s.length
  ·rw[Mg hl,Mg (show ((s.length - m:Nat):Int)>0 by omega)];exact .inl ⟨_,_,rfl,by decide,rfl⟩
  ·rw[Mh hl,Mh (show ¬ ((s.length - m:Nat):Int)>0 by omega)];rw[List.take_of_length_le Mc,List.take_zero,JI] at b3;have hB:=uY hp b5 (by rw[<- b3]; exact hs);have e:du (⟨p.I9,p.I5,eu p.Jj 3,eu p.Jj 4,eu p.Jj 5,p.I7,p.IV,p.Je,p.ID,p.IF,p.IX,[]++l⟩:Bat)=some (chk (mkB p l)):=(AY hB).1;rw[e,Jo];by_cases hk:chk (mkB p l)=0
   ·rw[Mg hk,hk];exact .inr ⟨_,rfl,rfl⟩
   ·rw[Mh hk];exact .inl ⟨_,_,rfl,hk,rfl⟩
theorem B_bat:CB hN Dj zBat:=by
 refine⟨fun st h=> ?_,fun s q hs hq=> ?_⟩
 ·unfold hN;rw[B_pfx.dead st h,Jo];dsimp only;rw[Mg Md,mb _ _ Md,Jo];dsimp only;have e:cg st ((0:Int) - 49)=([],st):=Mg h;rw[show zP.Jd=(0:Int) from rfl,e,bn,Jo];dsimp only;rw[Mh h];rfl
 ·unfold hN Dj;rcases B_pfx.run s q hs hq with⟨e,st,p1,g1,x1,y1⟩ | ⟨p,r,p1,g1,n1,l1⟩
  ·refine .inl ⟨e,st,by rw[p1],?_,x1,y1⟩;rw[g1,Jo];dsimp only;rw[Mg Md,mb _ _ Md,Jo];dsimp only;have e:cg st ((0:Int) - 49)=([],st):=Mg y1;rw[show zP.Jd=(0:Int) from rfl,e,bn,Jo];dsimp only;rw[Mh y1];rfl
  ·obtain⟨a1,a2,a3,a4,ap⟩:=AL.spell s q p r hq p1;obtain⟨k1,k2,k3,k4⟩:=id ap;have hL:=wI4 k1.2.1;try dsimp only at hL
   have hT: -9223372036854775808<=p.Jd - 49/\p.Jd - 49<=9223372036854775807:=by omega
   rw[g1,Jo,p1];dsimp only;rw[Mg hT,mb _ _ hT,Jo];dsimp only;by_cases hl:s.length<r+(p.Jd - 49).toNat
   ·have e:cg ⟨s.drop r,r,0⟩ (p.Jd - 49)=([],⟨s.drop r,r,1⟩):=by
     unfold cg;rw[Mh (by simp),Mh Mc,Mg (by rw[JA]; omega)]
    rw[Mg hl,e,bn,Jo];exact .inl ⟨1,⟨s.drop r,r,1⟩,rfl,rfl,rfl,by show (1:Int)≠0; decide⟩
   have e:cg ⟨s.drop r,r,0⟩ (p.Jd - 49)=((s.drop r).take (p.Jd - 49).toNat,⟨s.drop (r+(p.Jd - 49).toNat),r+(p.Jd - 49).toNat,0⟩):=by
    unfold cg;rw[Mh (by simp),Mh Mc,Mh (by rw[JA]; omega),Kf]
   rw[Mh hl,e,bn,Jo];dsimp only;have hn:((s.drop r).take (p.Jd - 49).toNat).length=(p.Jd - 49).toNat:=by rw[Kw,JA]; omega
   generalize (s.drop r).take (p.Jd - 49).toNat=b at hn;have hlen:(om p).length=61:=qP k1;rw[Mg rfl,uM [] ⟨k1,k2⟩ Md,Jo,JI,g6,Jo];dsimp only;rw[ul,BV,Jo];dsimp only;rw[Mg (show 21<=(om p).length by omega)];have hp21:(gz p).length<=61:=by rw[<- oN p,JA]; omega
   have hs2 : [gz p,b].flatten=gz p++b:=by simp
   rw[oN,BX [gz p,b] (by intro t ht; rcases List.mem_cons.1 ht with rfl | ht; omega; rw[List.mem_singleton.1 ht]; omega),Jo,hs2];dsimp only;have hlt:pb 0 (gz p++b)<4294967296:=xG Md _;rw[Mg (show -9223372036854775808<=((pb 0 (gz p++b):Nat):Int)/\((pb 0 (gz p++b):Nat):Int)<=9223372036854775807 by omega)];by_cases hsum:((sumP p b:Nat):Int)=p.Jh;rotate_left
   ·rw[Mh hsum,Mh (show ¬ ((pb 0 (gz p++b):Nat):Int)=p.Jh from hsum),cY,Jo];exact .inl ⟨5,_,rfl,rfl,rfl,by show (5:Int)≠0; decide⟩
   rw[Mg hsum,Mg (show ((pb 0 (gz p++b):Nat):Int)=p.Jh from hsum)];rcases bopen ap b Mc with⟨e,x,o1,o2,o3⟩ | ⟨x,o1,o3⟩
   ·rw[o1,o3,Jo];dsimp only;rw[Mh o2,cY,Jo];exact .inl ⟨e,_,rfl,rfl,rfl,o2⟩
   ·rw[o1,o3,Jo];dsimp only;rw[Mg rfl];exact .inr ⟨x,_,rfl,rfl,by omega,by omega⟩
theorem ow: ∀ {l:List Rec},fb l=0-> ∀ r,r∈l->fa r=0
 | x::l,h,r,hr=>by
  rw[fb] at h;by_cases hx:fa x=0
  ·rw[Mg hx] at h;rcases List.mem_cons.1 hr with rfl | hr
   ·exact hx
   ·exact ow h r hr
  ·rw[Mh hx] at h;exact absurd h hx
theorem sg {a:Bat} (h:bnB a) (h0:chk a=0):kb a/\im a/\(a.Jc=true->a.Jf=true/\(a.IG.length:Int)=1)/\ ∀ r,r∈a.IG->fa r=0:=by
 obtain⟨cr,e0,h1,h2,h3,h4⟩:=uL a h.1 h.2.1 h.2.2;have e:chk a=xB a cr e0:=by unfold chk; rw[h1]; rfl
 rw[e] at h0;unfold xB at h0;by_cases hn:kb a;rotate_left
 ·rw[Mh hn] at h0; exact absurd h0 Md
 rw[Mg hn] at h0;by_cases hc:a.Jc=true
 ·rw[Mg hc] at h0;by_cases ht:a.Jf=true;rotate_left
  ·rw[Mh ht] at h0; exact absurd h0 Md
  rw[Mg ht] at h0;by_cases hp:im a;rotate_left
  ·rw[Mh hp] at h0; exact absurd h0 Md
  rw[Mg hp] at h0;by_cases hl:(a.IG.length:Int)=1;rotate_left
  ·rw[Mh hl] at h0; exact absurd h0 Md
  rw[Mg hl] at h0;by_cases hf:fb a.IG=0;rotate_left
  ·rw[Mh hf] at h0; exact absurd h0 hf
  exact⟨hn,hp,fun _=>⟨ht,hl⟩,ow hf⟩
 ·rw[Mh hc] at h0;by_cases hp:im a;rotate_left
  ·rw[Mh hp] at h0; exact absurd h0 Md
  rw[Mg hp] at h0;by_cases hf:fb a.IG=0;rotate_left
  ·rw[Mh hf] at h0; exact absurd h0 hf
  exact⟨hn,hp,fun h=>absurd h hc,ow hf⟩
theorem F5: ∀ a t c:Bool,(c=true->t=true)->eB (ig a t c)=0:=by decide
theorem Dl: ∀ a t c:Bool,0<=ig a t c/\ig a t c<=56:=by decide
theorem B6 {n:Int} (h:wI n):bm n (8:Nat)=true:=by
 show bm n 8=true;rw[zd];exact Jq h
theorem wA {n:Int} (h: -2147483648<=n/\n<=2147483647):bm n (4:Nat)=true:=by
 show bm n 4=true;rw[ej];exact Jq h
theorem fits2 {n:Int} (h: -32768<=n/\n<=32767):bm n (2:Nat)=true:=by
 show bm n 2=true;rw[uK];exact Jq h
def smB (a:Bat):Prop:=bnB a/\(∀ r,r∈a.IG->rwt r<=900000)/\(body a).length<=900000
theorem EY {a:Bat} (h:im a):(-32768<=a.IF/\a.IF<=32767)/\(-2147483648<=a.IX/\a.IX<=2147483647):=by
 unfold im at h;split at h
 ·omega
 ·split at h <;> omega
theorem AZ {a:Bat} (hb:smB a) (h0:chk a=0) (s:Nat) (hs:s<4294967296):okP (pB a s):=by
 obtain⟨hn,hp,hc,hr⟩:=sg hb.1 h0;obtain⟨n1,n2,n3,n4,n5,n6⟩:=hn;obtain⟨w1,w2,_,_,_,w6,w7,w8,w9,w10,w11,w12⟩:=hb.1.1;obtain⟨p1,p2⟩:=EY hp;have hl:=hb.2.2;have hcount:=hb.1.2.1;have ha:=Dl a.Jg a.Jf a.Jc;have hs2: -2147483648<=s32 (s:Int)/\s32 (s:Int)<=2147483647:=by unfold s32; split <;> omega
 refine⟨⟨B6 w1,wA ⟨?_,?_⟩,wA ⟨?_,?_⟩,rfl,wA hs2,fits2 ⟨?_,?_⟩,wA ⟨?_,?_⟩,B6 w7,B6 w8,B6 w9,fits2 p1,wA p2,wA ⟨?_,?_⟩,trivial⟩,⟨?_,?_⟩,?_,?_⟩;all_goals (try unfold pB) <;> (try dsimp only) <;> omega
theorem B7 (a:Bat):ms a<4294967296:=xG Md _
theorem EZ {a:Bat} (hb:smB a) (h0:chk a=0):okB a:=by
 obtain⟨hn,hp,hc,hr⟩:=sg hb.1 h0;refine⟨AZ hb h0 _ (B7 a),F5 _ _ _ (fun h=>(hc h).1),fun x hx=> ?_,h0⟩;exact EM (hb.1.1.2.2.2.2.2.2.2.2.2.2.2.2 x hx).1 (hr x hx) (hb.2.1 x hx)
theorem oO {a:Bat} (h:okB a):(e9 a).length=61+(body a).length:=by
 unfold e9;rw[Js,qP h.1.1]
theorem B8: ∀ (l:List Rec) (t:List UInt8),(∀ x,x∈l->wI x.Ja/\wI x.IZ/\rwt x<=900000/\fa x=0)->t.length+(aS dw l).length<=1000000->dR l (t,0)=some (t++aS dw l,0)
 | [],t,_,_=>by rw[aS,JE]; rfl
 | x::l,t,h,hl=>by
  obtain⟨h1,h2,h3,h4⟩:=h x (.head _);rw[aS,Js] at hl;rw[dR,Df x t h1 h2 h3 Mc,Mg h4,Jo,B8 l _ (fun y hy=>h y (.tail _ hy)) (by rw[Js]; omega),aS,Jw]
theorem benc {a:Bat} (hb:smB a):gU a=some (if chk a=0 then (e9 a,0) else ([],chk a)):=by
 unfold gU;rw[(AY hb.1).1,Jo];by_cases h0:chk a=0;rotate_left
 ·rw[Mh h0,Mh h0]
 obtain⟨hn,hp,hc,hr⟩:=sg hb.1 h0;have hl:=hb.2.2;have hw: ∀ x,x∈a.IG->wI x.Ja/\wI x.IZ/\rwt x<=900000/\fa x=0:=fun x hx=>⟨(hb.1.1.2.2.2.2.2.2.2.2.2.2.2.2 x hx).1,(hb.1.1.2.2.2.2.2.2.2.2.2.2.2.2 x hx).2.1,hb.2.1 x hx,hr x hx⟩;have hlb:(aS dw a.IG).length<=900000:=hl;rw[Mg h0,Mg h0,B8 a.IG [] hw (by rw[J6]; omega),Jo,JI,g6,Jo];dsimp only;rw[ul];dsimp only;rw[Mg (show -9223372036854775808<=(49+((aS dw a.IG).length:Int))/\(49+((aS dw a.IG).length:Int))<=9223372036854775807 by omega),FJ,Jo];have hP0:okP (pB a 0):=AZ hb h0 0 Md;have e0:cV ([],0) (pB a 0)=some (om (pB a 0),0):=by
  have:=uM [] (p:=pB a 0) ⟨hP0.1,hP0.2.1⟩ Md
  rwa [JI] at this
 have e0':cV ([],0) (⟨a.I9,(49+((aS dw a.IG).length:Int)),a.I5,0,ig a.Jg a.Jf a.Jc,a.I7,a.IV,a.Je,a.ID,a.IF,a.IX,(a.IG.length:Int)⟩:Pfx)=some (om (pB a 0),0):=e0;rw[e0',Jo,g6,Jo];dsimp only;rw[ul];dsimp only;rw[Mg rfl,Mg rfl,Jo,Mh Md,BV,Jo];have hp61:=qP hP0.1;have hp21:(gz (pB a 0)).length<=61:=by rw[<- oN,JA]; omega
 have hs2 : [gz (pB a 0),aS dw a.IG].flatten=gz (pB a 0)++aS dw a.IG:=by simp
 rw[Mg (show 21<=(om (pB a 0)).length by omega),oN,BX [gz (pB a 0),aS dw a.IG] (by intro t ht; rcases List.mem_cons.1 ht with rfl | ht; omega; rw[List.mem_singleton.1 ht]; omega),Jo,hs2];dsimp only;have hlt:=B7 a;have hsum:pb 0 (gz (pB a 0)++aS dw a.IG)=ms a:=rfl;rw[hsum,Mg (show -9223372036854775808<=((ms a:Nat):Int)/\((ms a:Nat):Int)<=9223372036854775807 by omega)];have hP:=AZ hb h0 _ hlt;have e1:cV ([],0) (⟨a.I9,(49+((aS dw a.IG).length:Int)),a.I5,((ms a:Nat):Int),ig a.Jg a.Jf a.Jc,a.I7,a.IV,a.Je,a.ID,a.IF,a.IX,(a.IG.length:Int)⟩:Pfx)=some (om (pB a (ms a)),0):=by
  have:=uM [] (p:=pB a (ms a)) ⟨hP.1,hP.2.1⟩ Md
  rwa [JI] at this
 have hp61':=qP hP.1;rw[e1,Jo,yb _ _ (by dsimp only; omega),lU,Jo,g6,Jo];dsimp only;rw[ul];rfl
def mX:List Rec->List Rec->Bool
 | x::l,y::m=>sR x y && mX l m
 | _,_=>true
def qU (a b:Bat):Bool:=decide (a.I9=b.I9/\a.I5=b.I5/\a.Jg=b.Jg/\a.Jf=b.Jf/\a.Jc=b.Jc/\a.I7=b.I7/\a.IV=b.IV/\a.Je=b.Je/\a.ID=b.ID/\a.IF=b.IF/\a.IX=b.IX/\a.IG.length=b.IG.length) && mX a.IG b.IG
theorem sU: ∀ l:List Rec,mX l l=true
 | []=>rfl
 | x::l=>by rw[mX,AS,sU l]; rfl
theorem Ba (a:Bat):qU a a=true:=by
 unfold qU;rw[sU];simp
theorem B9 (a b:Bat) (hn:a.IG.length<=1000000) (y:Bool): ∀ (l m:List Rec) (k fuel:Nat),a.IG.drop k=l->b.IG.drop k=m->l.length=m.length->l.length<fuel->(∀ x,x∈l->x.IR.length<=1000000)-> ∃ z,eL a b fuel y k=some (if mX l m=true then .go (y,z) else .ret false)
 | [],m,k,fuel+1,h1,h2,hl,hf,_=>by
  have:=gc h1;exact⟨k,by rw[eL,Mh Mc]; rfl⟩
 | x::l,v::m,k,fuel+1,h1,h2,hl,hf,hw=>by
  obtain⟨g1,g2,g3⟩:=dV h1;obtain⟨k1,k2,k3⟩:=dV h2;rw[Jz] at hf;rw[Jz,Jz] at hl;obtain⟨z,hz⟩:=B9 a b hn y l m (k+1) fuel g2 k2 Mc Mc (fun u hu=>hw u (.tail _ hu));refine⟨z,?_⟩;rw[eL,Mg Mc,g1,Jo,k1,Jo,EL x v (hw x (.head _)),Jo,mX,Mg (show -9223372036854775808<=(k:Int)+1/\(k:Int)+1<=9223372036854775807 by omega),hz];cases sR x v <;> rfl
theorem E0 {a b:Bat} (hn:a.IG.length<=1000000) (hw: ∀ x,x∈a.IG->x.IR.length<=1000000):lc a b=some (qU a b):=by
 have hL: ∀ o:Option Bool,o=some (qU a b)\/True:=fun _=> .inr trivial;unfold lc qU;by_cases c1:a.I9=b.I9;rotate_left
 ·rw[Mh c1,Jo,Mg rfl,Jr (fun h=>c1 h.1)]; rfl
 by_cases c2:a.I5=b.I5;rotate_left
 ·rw[Mg c1,Mh c2,Jo,Mg rfl,Jr (fun h=>c2 h.2.1)]; rfl
 by_cases c3:a.Jg=b.Jg;rotate_left
 ·rw[Mg c1,Mg c2,Mh (by simpa using c3),Jo,Mg rfl,Jr (fun h=>c3 h.2.2.1)]; rfl
 by_cases c4:a.Jf=b.Jf;rotate_left
 ·rw[Mg c1,Mg c2,Mg (by simpa using c3),Mh (by simpa using c4),Jo,Mg rfl,Jr (fun h=>c4 h.2.2.2.1)]; rfl
 by_cases c5:a.Jc=b.Jc;rotate_left
 ·rw[Mg c1,Mg c2,Mg (by simpa using c3),Mg (by simpa using c4),Mh (by simpa using c5),Jo,Mg rfl,Jr (fun h=>c5 h.2.2.2.2.1)]; rfl
 rw[Mg c1,Mg c2,Mg (by simpa using c3),Mg (by simpa using c4),Mg (by simpa using c5)];by_cases c6:a.I7=b.I7;rotate_left
 ·rw[Mh c6,Jo,Mg rfl,Jr (fun h=>c6 h.2.2.2.2.2.1)]; rfl
 by_cases c7:a.IV=b.IV;rotate_left
 ·rw[Mg c6,Mh c7,Jo,Mg rfl,Jr (fun h=>c7 h.2.2.2.2.2.2.1)]; rfl
 by_cases c8:a.Je=b.Je;rotate_left
 ·rw[Mg c6,Mg c7,Mh c8,Jo,Mg rfl,Jr (fun h=>c8 h.2.2.2.2.2.2.2.1)]; rfl
 by_cases c9:a.ID=b.ID;rotate_left
 ·rw[Mg c6,Mg c7,Mg c8,Mh c9,Jo,Mg rfl,Jr (fun h=>c9 h.2.2.2.2.2.2.2.2.1)]; rfl
 by_cases c10:a.IF=b.IF;rotate_left
 ·rw[Mg c6,Mg c7,Mg c8,Mg c9,Mh c10,Jo,Mg rfl,Jr (fun h=>c10 h.2.2.2.2.2.2.2.2.2.1)]; rfl
 by_cases c11:a.IX=b.IX;rotate_left
 ·rw[Mg c6,Mg c7,Mg c8,Mg c9,Mg c10,Mh c11,Jo,Mg rfl,Jr (fun h=>c11 h.2.2.2.2.2.2.2.2.2.2.1)]; rfl
 by_cases c12:a.IG.length=b.IG.length;rotate_left
 ·rw[Mg c6,Mg c7,Mg c8,Mg c9,Mg c10,Mg c11,Mh Mc,Jo,Mg rfl,Jr (fun h=>c12 h.2.2.2.2.2.2.2.2.2.2.2)]; rfl
 obtain⟨z,hz⟩:=B9 a b hn false a.IG b.IG 0 (((a.IG.length:Int)).toNat+1) rfl rfl c12 Mc hw;rw[Mg c6,Mg c7,Mg c8,Mg c9,Mg c10,Mg c11,Mg Mc,Jo,Mh Md,hz,Jq ⟨c1,c2,c3,c4,c5,c6,c7,c8,c9,c10,c11,c12⟩,Bool.true_and];cases mX a.IG b.IG <;> rfl
theorem zf (y:Int): ∀ l:List Hd,(∀ h,h∈l->Ed h)->(dN l y=some (.ret 0))\/(dN l y=some (.go y)/\ ∀ h,h∈l->h.I3.length+h.IQ.data.length<=100)
 | [],h=> .inr ⟨rfl,fun x h=>nomatch h⟩
 | x::l,h=>by
  have hx:=h x (.head _);have h1:x.I3.length<=140737488351232:=hx.1;have h2:x.IQ.data.length<=140737488351232:=hx.2.2;rw[dN,Mg Mc];by_cases hc:(x.I3.length:Int)+(x.IQ.data.length:Int)>100
  ·rw[Mg hc];exact .inl rfl
  ·rw[Mh hc];rcases zf y l (fun z hz=>h z (.tail _ hz)) with g | ⟨g,g2⟩
   ·exact .inl g
   ·refine .inr ⟨g,fun z hz=> ?_⟩;rcases List.mem_cons.1 hz with rfl | hz
    ·omega
    ·exact g2 z hz
theorem zg (y:Int): ∀ l:List Rec,(∀ r,r∈l->uo r)->(dO l y=some (.ret 0))\/(dO l y=some (.go y)/\ ∀ r,r∈l->r.I3.data.length+r.IQ.data.length<=100/\r.IR.length<=6/\ ∀ h,h∈r.IR->h.I3.length+h.IQ.data.length<=100)
 | [],h=> .inr ⟨rfl,fun x h=>nomatch h⟩
 | x::l,h=>by
  obtain⟨h1,h2,h3,h4,h5⟩:=h x (.head _);have h6:x.I3.data.length<=140737488351232:=h3.2;have h7:x.IQ.data.length<=140737488351232:=h4.2;rw[dO,Mg Mc];by_cases hc:(x.I3.data.length:Int)+(x.IQ.data.length:Int)>100
  ·rw[Mg hc];exact .inl rfl
  rw[Mh hc];by_cases hd:(x.IR.length:Int)>6
  ·rw[Mg hd];exact .inl rfl
  rw[Mh hd];rcases zf y x.IR h5.2 with g | ⟨g,g2⟩
  ·rw[g];exact .inl rfl
  ·rw[g,Jo];simp only;rcases zg y l (fun z hz=>h z (.tail _ hz)) with k | ⟨k,k2⟩
   ·exact .inl k
   ·refine .inr ⟨k,fun z hz=> ?_⟩;rcases List.mem_cons.1 hz with rfl | hz
    ·exact⟨by omega,by omega,g2⟩
    ·exact k2 z hz
theorem F6 (a:Bat) (hw:lV a):iH a=some 0\/(iH a=some 1/\a.IG.length<=12/\ ∀ r,r∈a.IG->r.I3.data.length+r.IQ.data.length<=100/\r.IR.length<=6/\ ∀ h,h∈r.IR->h.I3.length+h.IQ.data.length<=100):=by
 unfold iH;by_cases hc:(a.IG.length:Int)>12
 ·rw[Mg hc];exact .inl rfl
 rw[Mh hc];rcases zg 0 a.IG hw.2.2.2.2.2.2.2.2.2.2.2.2 with g | ⟨g,g2⟩
 ·rw[g];exact .inl rfl
 ·rw[g];exact .inr ⟨rfl,by omega,g2⟩
theorem Dm {a:Bat} (hw:lV a) (h1:a.IG.length<=12) (h2: ∀ r,r∈a.IG->r.I3.data.length+r.IQ.data.length<=100/\r.IR.length<=6/\ ∀ h,h∈r.IR->h.I3.length+h.IQ.data.length<=100):bnB a :=
 ⟨hw,by omega,fun r hr=>by have:=h2 r hr; exact⟨by omega,by omega,by omega⟩⟩
theorem Ca: ∀ (l:List Hd),(∀ h,h∈l->h.I3.length+h.IQ.data.length<=100)->lX l<=120*l.length
 | [],_=>JM _
 | x::l,h=>by
  have h1:=h x (.head _);have h2:=Ca l (fun y hy=>h y (.tail _ hy));rw[lX,hwt,Jz];omega
theorem xH {α:Type} (enc:α->List UInt8) (n:Nat): ∀ (l:List α),(∀ x,x∈l->(enc x).length<=n)->(aS enc l).length<=n*l.length
 | [],_=>JM _
 | x::l,h=>by
  have h1:=h x (.head _);have h2:=xH enc n l (fun y hy=>h y (.tail _ hy));rw[aS,Js,Jz,Nat.mul_succ];omega
theorem Dn {a:Bat} (hw:lV a) (h1:a.IG.length<=12) (h2: ∀ r,r∈a.IG->r.I3.data.length+r.IQ.data.length<=100/\r.IR.length<=6/\ ∀ h,h∈r.IR->h.I3.length+h.IQ.data.length<=100):smB a/\(body a).length<=12000:=by
 have hr: ∀ r,r∈a.IG->rwt r<=900:=fun r hr=>by
  obtain⟨k1,k2,k3⟩:=h2 r hr;have:=Ca r.IR k3;unfold rwt;omega
 have hl:(body a).length<=12000:=by
  have h3:=xH dw 1000 a.IG (fun x hx=>by
   have h4:=hw.2.2.2.2.2.2.2.2.2.2.2.2 x hx;have h5:=hr x hx;have:=AU x h4.1 h4.2.1 Mc;omega)
  unfold body;omega
 exact⟨⟨Dm hw h1 h2,fun r hr2=>by have:=hr r hr2; omega,by omega⟩,hl⟩
theorem E9 (a:Bat) (s:Int):mkB (pB a s) a.IG=a:=by
 obtain⟨b1,b2,b3⟩:=B5 a.Jg a.Jf a.Jc;unfold mkB pB;dsimp only;rw[b1,b2,b3]
theorem Bb {b:Bat} (h:okB b) (hl:(e9 b).length<=1000000):bnB b:=by
 have h1:=uY h.1 h.2.2.1 (by have:=oO h; unfold body at this; omega)
 rwa [E9] at h1
def kp:List Bat->List Bat->Bool
 | x::l,y::m=>qU x y && kp l m
 | _,_=>true
def qsP (p q:aL):Bool:=decide (p.I8=q.I8/\p.IM.length=q.IM.length) && kp p.IM q.IM
def xI:List aL->List aL->Bool
 | x::l,y::m=>qsP x y && xI l m
 | _,_=>true
def qsT (t u:az):Bool:=decide (t.IW=u.IW/\t.IH.length=u.IH.length) && xI t.IH u.IH
def xJ:List az->List az->Bool
 | x::l,y::m=>qsT x y && xJ l m
 | _,_=>true
def sV (a b:ao):Bool:=decide (a.IJ.null=b.IJ.null/\a.IJ.data=b.IJ.data/\a.I6=b.I6/\a.II=b.II/\a.IC.length=b.IC.length) && xJ a.IC b.IC
theorem sW: ∀ l:List Bat,kp l l=true
 | []=>rfl
 | x::l=>by rw[kp,Ba,sW l]; rfl
theorem wC: ∀ l:List aL,xI l l=true
 | []=>rfl
 | x::l=>by rw[xI,qsP,sW,wC l,Jq ⟨rfl,rfl⟩]; rfl
theorem wD: ∀ l:List az,xJ l l=true
 | []=>rfl
 | x::l=>by rw[xJ,qsT,wC,wD l,Jq ⟨rfl,rfl⟩]; rfl
theorem uZ (a:ao):sV a a=true:=by
 unfold sV;rw[wD,Jq ⟨rfl,rfl,rfl,rfl,rfl⟩]; rfl
def ofP (p:aL):iP:=⟨p.I8,p.IM⟩
def ofT (t:az):fI:=⟨t.IW,t.IH.map ofP⟩
def ofQ (a:ao):cj:=⟨a.IJ,a.I6,a.II,a.IC.map ofT⟩
theorem Cb: ∀ (l:List aL) (acc:List iP),(acc.length+l.length)*32<=140737488355328->gL l acc=some (acc++l.map ofP)
 | [],acc,_=>by rw[List.map_nil,JE]; rfl
 | x::l,acc,h=>by
  rw[Jz] at h;rw[gL,Mg Mc,Cb l _ (by rw[Js,Kt]; omega),Jw];rfl
theorem Cc: ∀ (l:List az) (acc:List fI),(acc.length+l.length)*40<=140737488355328->(∀ t,t∈l->t.IH.length*32<=140737488351232)->gM l acc=some (acc++l.map ofT)
 | [],acc,_,_=>by rw[List.map_nil,JE]; rfl
 | x::l,acc,h,hp=>by
  have hx:=hp x (.head _);rw[Jz] at h;rw[gM,Cb x.IH [] (by rw[J6]; omega),Jo,Mg Mc,Cc l _ (by rw[Js,Kt]; omega) (fun t ht=>hp t (.tail _ ht)),Jw];rfl
def smBs (l:List Bat):Prop:= ∀ b,b∈l->smB b/\(body b).length<=12000
theorem wE (a b:List Bat) (hn:a.length<=140737488351232) (y:Bool): ∀ (l m:List Bat) (k fuel:Nat),a.drop k=l->b.drop k=m->l.length=m.length->l.length<fuel->(∀ x,x∈l->bnB x)-> ∃ z,eM a b fuel y k=some (if kp l m=true then .go (y,z) else .ret false)
 | [],m,k,fuel+1,h1,h2,hl,hf,_=>by
  have:=gc h1;exact⟨k,by rw[eM,Mh Mc]; rfl⟩
 | x::l,v::m,k,fuel+1,h1,h2,hl,hf,hw=>by
  obtain⟨g1,g2,g3⟩:=dV h1;obtain⟨k1,k2,k3⟩:=dV h2;have hx:=hw x (.head _);rw[Jz] at hf;rw[Jz,Jz] at hl;obtain⟨z,hz⟩:=wE a b hn y l m (k+1) fuel g2 k2 Mc Mc (fun u hu=>hw u (.tail _ hu));refine⟨z,?_⟩;rw[eM,Mg Mc,g1,Jo,k1,Jo,E0 hx.2.1 (fun z hz=>(hx.2.2 z hz).1),Jo,kp,Mg (show -9223372036854775808<=(k:Int)+1/\(k:Int)+1<=9223372036854775807 by omega),hz];cases qU x v <;> rfl
theorem Fa {a b:List Bat} (hn:a.length<=140737488351232) (hw: ∀ x,x∈a->bnB x):jC a b=some (decide (a.length=b.length) && kp a b):=by
 unfold jC;by_cases c:a.length=b.length
 ·obtain⟨z,hz⟩:=wE a b hn false a b 0 (((a.length:Int)).toNat+1) rfl rfl c Mc hw;rw[Mg Mc,hz,Jq c,Bool.true_and];cases kp a b <;> rfl
 ·rw[Mh Mc,Jr c];rfl
def bnT (t:az):Prop:=t.IH.length<=140737488351232/\ ∀ p,p∈t.IH->p.IM.length<=140737488351232/\ ∀ b,b∈p.IM->bnB b
theorem Cd (t u:az) (hn:t.IH.length<=140737488351232) (y:Bool): ∀ (l m:List aL) (k fuel:Nat),t.IH.drop k=l->u.IH.drop k=m->l.length=m.length->l.length<fuel->(∀ p,p∈l->p.IM.length<=140737488351232/\ ∀ b,b∈p.IM->bnB b)-> ∃ z,eg (ofT t) (ofT u) fuel y k=some (if xI l m=true then .go (y,z) else .ret false)
 | [],m,k,fuel+1,h1,h2,hl,hf,_=>by
  have:=gc h1;exact⟨k,by rw[eg,Mh (by show ¬ (k:Int)<((t.IH.map ofP).length:Int); rw[Kn]; omega)]; rfl⟩
 | x::l,v::m,k,fuel+1,h1,h2,hl,hf,hw=>by
  obtain⟨g1,g2,g3⟩:=dV h1;obtain⟨k1,k2,k3⟩:=dV h2;have hx:=hw x (.head _);rw[Jz] at hf;rw[Jz,Jz] at hl;obtain⟨z,hz⟩:=Cd t u hn y l m (k+1) fuel g2 k2 Mc Mc (fun q hq=>hw q (.tail _ hq));refine⟨z,?_⟩;have e1:(ofT t).IH[k]? = some (ofP x):=by show (t.IH.map ofP)[k]? = _; rw[List.getElem?_map,g1]; rfl
  have e2:(ofT u).IH[k]? = some (ofP v):=by show (u.IH.map ofP)[k]? = _; rw[List.getElem?_map,k1]; rfl
  have e3:jC (ofP x).IM (ofP v).IM=some (decide (x.IM.length=v.IM.length) && kp x.IM v.IM):=Fa hx.1 hx.2;rw[eg,Mg (by show (k:Int)<((t.IH.map ofP).length:Int); rw[Kn]; omega),e1,Jo,e2,Jo,e3,Mg (show -9223372036854775808<=(k:Int)+1/\(k:Int)+1<=9223372036854775807 by omega),hz,xI,qsP];show ((if x.I8=v.I8 then _ else some true).bind _)= _;by_cases c1:x.I8=v.I8
  ·rw[Mg c1,Jo];by_cases c2:x.IM.length=v.IM.length
   ·rw[Jq c2,Jq (⟨c1,c2⟩:x.I8=v.I8/\x.IM.length=v.IM.length)];cases kp x.IM v.IM <;> rfl
   ·rw[Jr c2,Jr (fun h:x.I8=v.I8/\x.IM.length=v.IM.length=>c2 h.2)];rfl
  ·rw[Mh c1,Jr (fun h:x.I8=v.I8/\x.IM.length=v.IM.length=>c1 h.1)];rfl
theorem Ce (a b:ao) (hn:a.IC.length<=140737488351232) (y:Bool): ∀ (l m:List az) (k fuel:Nat),a.IC.drop k=l->b.IC.drop k=m->l.length=m.length->l.length<fuel->(∀ t,t∈l->bnT t)-> ∃ z,eh (ofQ a) (ofQ b) fuel y k=some (if xJ l m=true then .go (y,z) else .ret false)
 | [],m,k,fuel+1,h1,h2,hl,hf,_=>by
  have:=gc h1;exact⟨k,by rw[eh,Mh (by show ¬ (k:Int)<((a.IC.map ofT).length:Int); rw[Kn]; omega)]; rfl⟩
 | x::l,v::m,k,fuel+1,h1,h2,hl,hf,hw=>by
  obtain⟨g1,g2,g3⟩:=dV h1;obtain⟨k1,k2,k3⟩:=dV h2;have hx:=hw x (.head _);rw[Jz] at hf;rw[Jz,Jz] at hl;obtain⟨z,hz⟩:=Ce a b hn y l m (k+1) fuel g2 k2 Mc Mc (fun q hq=>hw q (.tail _ hq));refine⟨z,?_⟩;have e1:(ofQ a).IC[k]? = some (ofT x):=by show (a.IC.map ofT)[k]? = _; rw[List.getElem?_map,g1]; rfl
  have e2:(ofQ b).IC[k]? = some (ofT v):=by show (b.IC.map ofT)[k]? = _; rw[List.getElem?_map,k1]; rfl
  have e4:(ofT x).IH.length=x.IH.length:=Kn _;have e5:(ofT v).IH.length=v.IH.length:=Kn _;rw[eh,Mg (by show (k:Int)<((a.IC.map ofT).length:Int); rw[Kn]; omega),e1,Jo,e2,Jo,e4,e5,xJ,qsT];show ((if x.IW=v.IW then _ else some true).bind _)= _;by_cases c1:x.IW=v.IW
  ·rw[Mg c1];by_cases c2:x.IH.length=v.IH.length
   ·obtain⟨z2,hz2⟩:=Cd x v hx.1 y x.IH v.IH 0 (((x.IH.length:Int)).toNat+1) rfl rfl c2 Mc hx.2;rw[Mg Mc,Jo,Mh Md,hz2,Jq (⟨c1,c2⟩:x.IW=v.IW/\x.IH.length=v.IH.length),Bool.true_and];cases xI x.IH v.IH
    ·rfl
    ·rw[Mg rfl,Jo];dsimp only;rw[Mg (show -9223372036854775808<=(k:Int)+1/\(k:Int)+1<=9223372036854775807 by omega),hz];rfl
   ·rw[Mh Mc,Jo,Mg rfl,Jr (fun h:x.IW=v.IW/\x.IH.length=v.IH.length=>c2 h.2)];rfl
  ·rw[Mh c1,Jo,Mg rfl,Jr (fun h:x.IW=v.IW/\x.IH.length=v.IH.length=>c1 h.1)];rfl
theorem Fb {a b:ao} (hn:a.IC.length<=140737488351232) (hw: ∀ t,t∈a.IC->bnT t):gN (ofQ a) (ofQ b)=some (sV a b):=by
 have e4:(ofQ a).IC.length=a.IC.length:=Kn _;have e5:(ofQ b).IC.length=b.IC.length:=Kn _;unfold gN sV;rw[e4,e5];show ((if a.IJ.null=b.IJ.null then (if a.IJ.data=b.IJ.data then (if a.I6=b.I6 then (if a.II=b.II then _ else some true) else some true) else some true) else some true).bind _)= _;by_cases c1:a.IJ.null=b.IJ.null;rotate_left
 ·rw[Mh c1,Jo,Mg rfl,Jr (fun h=>c1 h.1)]; rfl
 by_cases c2:a.IJ.data=b.IJ.data;rotate_left
 ·rw[Mg c1,Mh c2,Jo,Mg rfl,Jr (fun h=>c2 h.2.1)]; rfl
 by_cases c3:a.I6=b.I6;rotate_left
 ·rw[Mg c1,Mg c2,Mh c3,Jo,Mg rfl,Jr (fun h=>c3 h.2.2.1)]; rfl
 by_cases c4:a.II=b.II;rotate_left
 ·rw[Mg c1,Mg c2,Mg c3,Mh c4,Jo,Mg rfl,Jr (fun h=>c4 h.2.2.2.1)]; rfl
 by_cases c5:a.IC.length=b.IC.length;rotate_left
 ·rw[Mg c1,Mg c2,Mg c3,Mg c4,Mh Mc,Jo,Mg rfl,Jr (fun h=>c5 h.2.2.2.2)]; rfl
 obtain⟨z,hz⟩:=Ce a b hn false a.IC b.IC 0 (((a.IC.length:Int)).toNat+1) rfl rfl c5 Mc hw;rw[Mg c1,Mg c2,Mg c3,Mg c4,Mg Mc,Jo,Mh Md,hz,Jq ⟨c1,c2,c3,c4,c5⟩,Bool.true_and];cases xJ a.IC b.IC <;> rfl
theorem zh (y:Int): ∀ l:List Bat,(∀ b,b∈l->lV b)->fk l y=some (.ret 0)\/(fk l y=some (.go y)/\smBs l)
 | [],_=> .inr ⟨rfl,fun x h=>nomatch h⟩
 | x::l,h=>by
  rw[fk];rcases F6 x (h x (.head _)) with g | ⟨g,g1,g2⟩
  ·rw[g];exact .inl rfl
  ·rw[g,Jo,Mh Md];rcases zh y l (fun z hz=>h z (.tail _ hz)) with k | ⟨k,k2⟩
   ·exact .inl k
   ·refine .inr ⟨k,fun z hz=> ?_⟩;rcases List.mem_cons.1 hz with rfl | hz
    ·exact Dn (h _ (.head _)) g1 g2
    ·exact k2 z hz
def nP (n:Int) (p:aL):Int:=IntKind.i64.wrap (n+IntKind.i64.wrap (10+IntKind.i64.wrap (100*(p.IM.length:Int))))
def nPs:Int->List aL->Int
 | n,[]=>n
 | n,p::l=>nPs (nP n p) l
def okFp:Int->List aL->Prop
 | _,[]=>True
 | n,p::l=>nP n p<=2000/\smBs p.IM/\okFp (nP n p) l
theorem zi (y:Int): ∀ (l:List aL) (n:Int),(∀ p,p∈l->lj p)->ed l y n=some (.ret 0)\/(ed l y n=some (.go (y,nPs n l))/\okFp n l)
 | [],n,_=> .inr ⟨rfl,trivial⟩
 | p::l,n,h=>by
  rw[ed];show (if nP n p>2000 then _ else _)= _\/(if nP n p>2000 then _ else _)= _/\ _;by_cases hc:nP n p>2000
  ·rw[Mg hc];exact .inl rfl
  rw[Mh hc];rcases zh y p.IM (h p (.head _)).2.2 with g | ⟨g,g2⟩
  ·rw[g];exact .inl rfl
  ·rw[g,Jo];rcases zi y l (nP n p) (fun q hq=>h q (.tail _ hq)) with k | ⟨k,k2⟩
   ·exact .inl k
   ·exact .inr ⟨k,by omega,g2,k2⟩
def nT (n:Int) (t:az):Int:=IntKind.i64.wrap (n+IntKind.i64.wrap ((t.IW.length:Int)+10))
def nTs:Int->List az->Int
 | n,[]=>n
 | n,t::l=>nTs (nPs (nT n t) t.IH) l
def zj:Int->List az->Prop
 | _,[]=>True
 | n,t::l=>okFp (nT n t) t.IH/\zj (nPs (nT n t) t.IH) l
theorem zk (y:Int): ∀ (l:List az) (n:Int),(∀ t,t∈l->km t)->fm l y n=some (.ret 0)\/(fm l y n=some (.go (y,nTs n l))/\zj n l)
 | [],n,_=> .inr ⟨rfl,trivial⟩
 | t::l,n,h=>by
  rw[fm];show ((ed t.IH y (nT n t)).bind _)= _\/((ed t.IH y (nT n t)).bind _)= _/\ _;rcases zi y t.IH (nT n t) (h t (.head _)).2.2 with g | ⟨g,g2⟩
  ·rw[g];exact .inl rfl
  ·rw[g,Jo];rcases zk y l (nPs (nT n t) t.IH) (fun q hq=>h q (.tail _ hq)) with k | ⟨k,k2⟩
   ·exact .inl k
   ·exact .inr ⟨k,g2,k2⟩
theorem q_few {a:ao} (hw:fw a):kM a=some 0\/(kM a=some 1/\zj (a.IJ.data.length:Int) a.IC/\nTs (a.IJ.data.length:Int) a.IC<=2000):=by
 unfold kM;rcases zk 0 a.IC (a.IJ.data.length:Int) hw.2.2.2.2 with g | ⟨g,g2⟩
 ·rw[g];exact .inl rfl
 ·rw[g,Jo];dsimp only;by_cases hc:nTs (a.IJ.data.length:Int) a.IC>2000
  ·rw[Mg hc];exact .inl rfl
  ·rw[Mh hc];exact .inr ⟨rfl,g2,by omega⟩
theorem zl: ∀ {l:List aL} {n:Int},okFp n l-> ∀ p,p∈l->smBs p.IM
 | q::l,n,h,p,hp=>by
  rcases List.mem_cons.1 hp with rfl | hp
  ·exact h.2.1
  ·exact zl h.2.2 p hp
theorem qV: ∀ {l:List az} {n:Int},zj n l-> ∀ t,t∈l-> ∀ p,p∈t.IH->smBs p.IM
 | u::l,n,h,t,ht=>by
  rcases List.mem_cons.1 ht with rfl | ht
  ·exact zl h.1
  ·exact qV h.2 t ht
def gdP (p:aL):Prop:=wI p.I8/\p.IM.length<=140737488351232/\ ∀ b,b∈p.IM->bnB b
def gdT (t:az):Prop:=t.IW.length<=140737488351232/\t.IH.length*32<=140737488351232/\ ∀ p,p∈t.IH->gdP p
def gdQ (r:ao):Prop:=wI r.II/\r.IC.length*40<=140737488351232/\ ∀ t,t∈r.IC->gdT t
def kI (nul:Bool):List Bat->Int
 | []=>0
 | b::l=>if chk b=0 then (if b.Jc=true then 12 else if b.Jf=nul then 8 else kI nul l) else chk b
def qW (v:Int) (nul:Bool) (l:List Bat):Int:=if l.length=0\/(v<4/\1<l.length) then 10 else kI nul l
theorem Fc (r:ao) (y:Int): ∀ l:List Bat,(∀ b,b∈l->bnB b)->bN r l y=some (if kI r.IJ.null l=0 then .go y else .ret (kI r.IJ.null l))
 | [],_=>rfl
 | b::l,h=>by
  rw[bN,(AY (h b (.head _))).1,Jo,kI,Fc r y l (fun x hx=>h x (.tail _ hx))];by_cases c1:chk b=0
  ·rw[Mg c1,Mg c1];by_cases c2:b.Jc=true
   ·rw[Mg c2,Mg c2]; rfl
   ·rw[Mh c2,Mh c2];by_cases c3:b.Jf=r.IJ.null
    ·rw[Mg (by rw[c3]; exact beq_self_eq_true _),Mg c3]; rfl
    ·rw[Mh (by simpa using c3),Mh c3]
  ·rw[Mh c1,Mh c1,Mh c1]
theorem Fd (r:ao) (l:List Bat) (v:Int) (h: ∀ b,b∈l->bnB b):dv r l v=some (qW v r.IJ.null l):=by
 unfold dv qW;by_cases c0:l.length=0
 ·rw[Mg Mc,Jo,Mg rfl,Mg (.inl c0)]
 rw[Mh Mc];by_cases c1:v<4
 ·rw[Mg c1];by_cases c2:1<l.length
  ·rw[Mg Mc,Jo,Mg rfl,Mg (.inr ⟨c1,c2⟩)]
  ·rw[Mh Mc,Jo,Mh Md,Fc r 0 l h,Mh (show ¬ (l.length=0\/(v<4/\1<l.length)) from fun hh=>by rcases hh with hh | hh; exact c0 hh; exact c2 hh.2)];by_cases c3:kI r.IJ.null l=0
   ·rw[Mg c3,c3]; rfl
   ·rw[Mh c3]; rfl
 ·rw[Mh c1,Jo,Mh Md,Fc r 0 l h,Mh (show ¬ (l.length=0\/(v<4/\1<l.length)) from fun hh=>by rcases hh with hh | hh; exact c0 hh; exact c1 hh.1)];by_cases c3:kI r.IJ.null l=0
  ·rw[Mg c3,c3]; rfl
  ·rw[Mh c3]; rfl
def Bc:Option Int->Int->Bool
 | none,_=>true
 | some q,n=>decide (q<n)
def rqP:Option Int->List aL->Bool
 | _,[]=>true
 | p,x::l=>okn x.I8 && Bc p x.I8 && rqP (some x.I8) l
def Bd:Option (List UInt8)->List UInt8->Bool
 | none,_=>true
 | some q,d=>Op.bytesLess q d
def tn (p:Option (List UInt8)) (t:az):Bool:= !t.IW.isEmpty && decide (t.IW.length<=32767) && Bd p t.IW && rqP none t.IH
def rqT:Option (List UInt8)->List az->Int
 | _,[]=>0
 | p,t::l=>if t.IH.length=0 then 10 else if tn p t=true then rqT (some t.IW) l else 13
def sX (l:List az):Int:=if l.length=0 then 10 else rqT none l
theorem zm (t:az) (hn:t.IH.length<=140737488351232) (y:Int): ∀ (l:List aL) (p:Option Int) (k:Nat),t.IH.drop k=l->(∀ q,q∈l->wI q.I8)->(k=0->p=none)->(0<k-> ∃ u,t.IH[k - 1]? = some u/\p=some u.I8)->dj t l y k=some (if rqP p l=true then .go y else .ret 13)
 | [],p,k,_,_,_,_=>rfl
 | x::l,p,k,h,hw,h0,h1=>by
  obtain⟨g1,g2,g3⟩:=dV h;have hx:=hw x (.head _);have ih:=zm t hn y l (some x.I8) (k+1) g2 (fun q hq=>hw q (.tail _ hq)) (fun h=>absurd h Mc) (fun _=>⟨x,g1,rfl⟩);rw[dj,fe _ _ hx,Jo,ej,rqP];by_cases c1:x.I8<0
  ·have:okn x.I8=false:=by unfold okn; simp; omega
   rw[Mg c1,Jo,Mg rfl,this]; rfl
  rw[Mh c1];by_cases c2:x.I8<=2147483647;rotate_left
  ·have:okn x.I8=false:=by unfold okn; simp; omega
   rw[Mh (by simp; omega),Jo,Mg rfl,this]; rfl
  have hok:okn x.I8=true:=by unfold okn; simp; omega
  rw[Mg (by simp; omega),hok];rcases Nat.eq_zero_or_pos k with hk | hk
  ·rw[h0 hk,Mh Mc,Jo,Mh Md,ih]; rfl
  ·obtain⟨u,u1,rfl⟩:=h1 hk;rw[Mg Mc,Mg Mc,Mg Mc,show ((k:Int) - 1).toNat=k - 1 by omega,u1,Jo];by_cases c3:u.I8<x.I8
   ·rw[Mh Mc,Jo,Mh Md,ih];rw[Bc,Jq c3]; rfl
   ·rw[Mg Mc,Jo,Mg rfl];rw[Bc,Jr c3]; rfl
theorem zn (a:List az) (y:Int): ∀ (l:List az) (p:Option (List UInt8)) (k:Nat),a.drop k=l->a.length<=140737488351232->(∀ t,t∈l->gdT t)->(k=0->p=none)->(0<k-> ∃ u,a[k - 1]? = some u/\p=some u.IW)->cw a l y k=some (if rqT p l=0 then .go y else .ret (rqT p l))
 | [],p,k,_,_,_,_,_=>rfl
 | t::l,p,k,h,hn,hw,h0,h1=>by
  obtain⟨g1,g2,g3⟩:=dV h;have ht:=hw t (.head _);have ih:=zn a y l (some t.IW) (k+1) g2 hn (fun q hq=>hw q (.tail _ hq)) (fun h=>absurd h Mc) (fun _=>⟨t,g1,rfl⟩);rw[cw,rqT];by_cases c0:t.IH.length=0
  ·rw[Mg Mc,Mg c0]; rfl
  rw[Mh Mc,Mh c0];have hl3:=zm t (by have:=ht.2.1; omega) y t.IH none 0 rfl (fun q hq=>(ht.2.2 q hq).1) (fun _=>rfl) (fun h=>absurd h Mc);rw[hl3];have bad: ∀ {b:Bool},tn p t=false->b=true->((some b).bind fun y143=>if y143=true then some (Lp.ret 13:Lp Int Int) else ((some (if rqP none t.IH=true then (.go y:Lp Int Int) else .ret 13)).bind fun e=>match e with | .ret r=>some (Lp.ret r) | .go y237=>(cw a l y237 (k+1))))=some (if (if tn p t=true then rqT (some t.IW) l else 13)=0 then .go y else .ret (if tn p t=true then rqT (some t.IW) l else 13)):=by
   intro b hb hb2;rw[hb2,Jo,Mg rfl,hb]; rfl
  have good: ∀ {b:Bool},(!t.IW.isEmpty && decide (t.IW.length<=32767) && Bd p t.IW)=true->b=false->((some b).bind fun y143=>if y143=true then some (Lp.ret 13:Lp Int Int) else ((some (if rqP none t.IH=true then (.go y:Lp Int Int) else .ret 13)).bind fun e=>match e with | .ret r=>some (Lp.ret r) | .go y237=>(cw a l y237 (k+1))))=some (if (if tn p t=true then rqT (some t.IW) l else 13)=0 then .go y else .ret (if tn p t=true then rqT (some t.IW) l else 13)):=by
   intro b hb hb2;rw[hb2,Jo,Mh Md,Jo];unfold tn;rw[hb,Bool.true_and];cases rqP none t.IH
   ·rfl
   ·exact ih
  by_cases c1:t.IW = []
  ·rw[Mg c1];exact bad (by unfold tn; rw[c1]; rfl) rfl
  rw[Mh c1];have hne:t.IW.isEmpty=false:=by cases hh:t.IW with | nil=>exact absurd hh c1 | cons c u=>rfl
  by_cases c2:(t.IW.length:Int)>32767
  ·rw[Mg c2];exact bad (by unfold tn; rw[Jr Mc]; simp) rfl
  rw[Mh c2];rcases Nat.eq_zero_or_pos k with hk | hk
  ·rw[Mh Mc];exact good (by rw[h0 hk,hne,Jq Mc]; rfl) rfl
  ·obtain⟨u,u1,rfl⟩:=h1 hk;rw[Mg Mc,Mg Mc,Mg Mc,show ((k:Int) - 1).toNat=k - 1 by omega,u1,Jo];by_cases c3:Op.bytesLess u.IW t.IW=true
   ·rw[Mg c3];exact good (by rw[hne,Jq Mc]; exact c3) rfl
   ·rw[Mh c3];exact bad (by unfold tn Bd; simp only[c3]; simp) rfl
theorem Fe (l:List az) (hn:l.length<=140737488351232) (hw: ∀ t,t∈l->gdT t):gV l=some (sX l):=by
 unfold gV sX;by_cases c0:l.length=0
 ·rw[Mg Mc,Mg c0]
 ·rw[Mh Mc,Mh c0,zn l 0 l none 0 rfl hn hw (fun _=>rfl) (fun h=>absurd h Mc)];by_cases c:rqT none l=0
  ·rw[Mg c,c]; rfl
  ·rw[Mh c]; rfl
def jk (v:Int) (nul:Bool):List aL->Int
 | []=>0
 | p::l=>if qW v nul p.IM=0 then jk v nul l else qW v nul p.IM
def kJ (v:Int) (nul:Bool):List az->Int
 | []=>0
 | t::l=>if jk v nul t.IH=0 then kJ v nul l else jk v nul t.IH
def zo (r:ao):Prop:=bu r.IJ=true/\(r.IJ.null=true\/eD r.IJ.data=true)
def zp (r:ao):Prop:= -1<=r.I6/\r.I6<=1/\0<=r.II/\r.II<=2147483647
instance (r:ao):Decidable (zo r):=by unfold zo; infer_instance
instance (r:ao):Decidable (zp r):=by unfold zp; infer_instance
def si (v:Int) (r:ao):Int:=if zo r then (if zp r then (if sX r.IC=0 then kJ v r.IJ.null r.IC else sX r.IC) else 11) else 4
theorem pc_l2 (r:ao) (v y:Int): ∀ l:List aL,(∀ p,p∈l->gdP p)->bW r v l y=some (if jk v r.IJ.null l=0 then .go y else .ret (jk v r.IJ.null l))
 | [],_=>rfl
 | p::l,h=>by
  rw[bW,Fd r p.IM v (h p (.head _)).2.2,Jo,jk,pc_l2 r v y l (fun q hq=>h q (.tail _ hq))];by_cases c:qW v r.IJ.null p.IM=0
  ·rw[Mg c,Mg c]
  ·rw[Mh c,Mh c,Mh c]
theorem pc_l1 (r:ao) (v y:Int): ∀ l:List az,(∀ t,t∈l->gdT t)->bX r v l y=some (if kJ v r.IJ.null l=0 then .go y else .ret (kJ v r.IJ.null l))
 | [],_=>rfl
 | t::l,h=>by
  rw[bX,pc_l2 r v y t.IH (h t (.head _)).2.2,Jo,kJ];by_cases c:jk v r.IJ.null t.IH=0
  ·rw[Mg c,Mg c];dsimp only;rw[pc_l1 r v y l (fun q hq=>h q (.tail _ hq))]
  ·rw[Mh c,Mh c,Mh c]
theorem Be (r:ao) (v:Int) (h:gdQ r):ca r v=some (si v r):=by
 unfold ca si;have h1:(((nK r.IJ).bind fun x12=>if x12=true then (if r.IJ.null=true then some false else ((lF r.IJ.data).bind fun x16=>if x16=true then some false else some true)) else some true):Option Bool)=some (decide (¬ zo r)):=by
  rw[oE,Jo,mE];by_cases c1:bu r.IJ=true
  ·rw[Mg c1];by_cases c2:r.IJ.null=true
   ·rw[Mg c2]; exact congrArg some (Eq.symm (Jr (fun hh=>hh ⟨c1,.inl c2⟩)))
   ·rw[Mh c2,Jo];by_cases c3:eD r.IJ.data=true
    ·rw[Mg c3]; exact congrArg some (Eq.symm (Jr (fun hh=>hh ⟨c1,.inr c3⟩)))
    ·rw[Mh c3]; exact congrArg some (Eq.symm (Jq (fun hh=>hh.2.elim c2 c3)))
  ·rw[Mh c1]; exact congrArg some (Eq.symm (Jq (fun hh=>c1 hh.1)))
 have h2:((if r.I6<(-1) then some true else (if r.I6>1 then some true else (if r.II<0 then some true else ((ib r.II 4).bind fun x30=>if x30=true then some false else some true)))):Option Bool)=some (decide (¬ zp r)):=by
  rw[fe _ _ h.1,Jo,ej];unfold zp;by_cases c1:r.I6 < -1
  ·rw[Mg c1,Jq Mc]
  rw[Mh c1];by_cases c2:r.I6>1
  ·rw[Mg c2,Jq Mc]
  rw[Mh c2];by_cases c3:r.II<0
  ·rw[Mg c3,Jq Mc]
  rw[Mh c3];by_cases c4:r.II<=2147483647
  ·rw[Mg (Jq Mc),Jr Mc]
  ·rw[Mh (by rw[decide_eq_true_eq]; omega),Jq Mc]
 rw[h1,Jo];by_cases c1:zo r;rotate_left
 ·rw[Jq c1,Mg rfl,Mh c1]
 rw[Jr (fun hh=>hh c1),Mh Md,Mg c1,h2,Jo];by_cases c2:zp r;rotate_left
 ·rw[Jq c2,Mg rfl,Mh c2]
 rw[Jr (fun hh=>hh c2),Mh Md,Mg c2,Fe _ (by have:=h.2.1; omega) h.2.2,Jo];by_cases c3:sX r.IC=0
 ·rw[Mg c3,Mg c3,pc_l1 r v 0 _ h.2.2];by_cases c4:kJ v r.IJ.null r.IC=0
  ·rw[Mg c4,c4]; rfl
  ·rw[Mh c4]; rfl
 ·rw[Mh c3,Mh c3]
theorem Bf (d:List UInt8):eD d=true↔d ≠ []/\d.length<=32767:=by
 unfold eD
 cases d with
 | nil=>simp
 | cons c d=>simp; omega
theorem Bg (n:Bool) (d:List UInt8) (b:Bl) (h1:b.null=n) (h2:b.data=d):bu b=true↔(n=true->d = []):=by
 unfold bu;rw[h1,h2];cases n <;> cases d <;> simp
def qX:Nat->Pr (List Bat)
 | 0=> .ret []
 | n+1=>fun s q=>if q=s.length then .ok ([],q) else (Dj.bind fun b=>(qX n).bind fun l=> .ret (b::l)) s q
theorem oP {b:Bat} (h:okB b):61<=(e9 b).length:=by rw[oO h]; omega
theorem wF: ∀ (n:Nat) (s:List UInt8) (q:Nat) (l:List Bat) (r:Nat),q<=s.length->s.length - q<=n->qX n s q= .ok (l,r)->r=s.length/\s.drop q=aS e9 l/\ ∀ b,b∈l->okB b
 | 0,s,q,l,r,hq,hn,h=>by
  injection h with h;obtain⟨rfl,rfl⟩:=JP h;exact⟨by omega,by rw[List.drop_eq_nil_of_le Mc]; rfl,fun b h=>nomatch h⟩
 | n+1,s,q,l,r,hq,hn,h=>by
  unfold qX at h;by_cases he:q=s.length
  ·rw[Mg he] at h;injection h with h;obtain⟨rfl,rfl⟩:=JP h;exact⟨he,by rw[List.drop_eq_nil_of_le Mc]; rfl,fun b h=>nomatch h⟩
  rw[Mh he] at h;obtain⟨b,m,h1,h2⟩:=Pr.bind_ok h;obtain⟨bs,m2,h3,h4⟩:=Pr.bind_ok h2;injection h4 with h4;obtain⟨rfl,rfl⟩:=JP h4;obtain⟨a1,a2,a3,a4,a5⟩:=AW.spell s q b m hq h1;have hp:=oP a5;obtain⟨b1,b2,b3⟩:=wF n s m bs m2 a2 Mc h3;refine⟨b1,?_,fun y hy=> ?_⟩
  ·have e:s.drop q=e9 b++s.drop m:=by
    have e1:s=s.take q++e9 b++s.drop m:=by rw[<- a4,List.take_append_drop]
    conv=>lhs; rw[e1,Jw,List.drop_left' (by rw[Kw]; omega)]
   rw[e,b2,aS]
  ·rcases List.mem_cons.1 hy with rfl | hy
   ·exact a5
   ·exact b3 y hy
theorem zq: ∀ (l:List Bat) (n:Nat) (s:List UInt8) (q:Nat),q<=s.length->s.length - q<=n->(∀ b,b∈l->okB b)->s.drop q=aS e9 l->qX n s q= .ok (l,s.length)
 | [],n,s,q,hq,hn,_,hd=>by
  have hl:=congrArg List.length hd;rw[JA] at hl;have hl:s.length - q=0:=hl;have:q=s.length:=by omega
  subst this
  cases n with
  | zero=>rfl
  | succ n=>exact Mg rfl
 | b::l,n,s,q,hq,hn,ho,hd=>by
  have hl:=congrArg List.length hd;rw[aS] at hd;rw[JA,aS,Js] at hl;have hp:=oP (ho b (.head _))
  cases n with
  | zero=>omega
  | succ n =>
   have h1:=AW.back s _ q b hq (ho b (.head _)) hd;have h2:=zq l n s (q+(e9 b).length) Mc Mc (fun y hy=>ho y (.tail _ hy)) (bZ hd);show (if q=s.length then _ else _)= _;rw[Mh Mc,Pr.bind_of h1,Pr.bind_of h2];rfl
theorem mY {α:Type} {enc:α->List UInt8}: ∀ (l:List α) (x:α),x∈l->(enc x).length<=(aS enc l).length
 | c::l,x,h=>by
  rw[aS,Js];rcases List.mem_cons.1 h with rfl | h
  ·omega
  ·have:=mY (enc:=enc) l x h; omega
theorem Do {l:List Bat} (h: ∀ b,b∈l->okB b):l.length*61<=(aS e9 l).length:=mQ (ok:=okB) (fun x hx=>oP hx) l h
def sj:Pr (List UInt8):=n9 (lT 4)
theorem zr:Sp sj (fun d=>be (d.length:Int) 4++d) (fun d=>bm (d.length:Int) 4=true/\bu ⟨false,d⟩=true):=xq (gj 4 Md Md)
def u0 (i:Int) (d:List UInt8):Pr aL:=match qX d.length d 0 with | .error e=> .err e | .ok (l,_)=> .ret ⟨i,l⟩
def ni:Pr aL:=(eI 4).bind fun i=>sj.bind fun d=>u0 i d
def gY (p:aL):List UInt8:=be p.I8 4++(be ((aS e9 p.IM).length:Int) 4++aS e9 p.IM)
def Bh (p:aL):Prop:=bm p.I8 4=true/\bm ((aS e9 p.IM).length:Int) 4=true/\ ∀ b,b∈p.IM->okB b
theorem Ff {i:Int} {d s:List UInt8} {q r:Nat} {p:aL} (h:u0 i d s q= .ok (p,r)):r=q/\p.I8=i/\d=aS e9 p.IM/\ ∀ b,b∈p.IM->okB b:=by
 unfold u0 at h
 cases ha:qX d.length d 0 with
 | error e=>rw[ha] at h; exact nomatch h
 | ok x =>
  rw[ha] at h;injection h with h;obtain⟨rfl,rfl⟩:=JP h;obtain⟨a1,a2,a3⟩:=wF _ d 0 x.1 x.2 (JM _) Mc ha;rw[List.drop_zero] at a2;exact⟨rfl,rfl,a2,a3⟩
theorem Fg (i:Int) {l:List Bat} (h: ∀ b,b∈l->okB b) (s:List UInt8) (q:Nat):u0 i (aS e9 l) s q= .ok (⟨i,l⟩,q):=by
 unfold u0;rw[zq l _ (aS e9 l) 0 (JM _) Mc h List.drop_zero];rfl
theorem Fh:Sp ni gY Bh:=by
 refine⟨fun s q a r hq h=> ?_,fun s t q a hq ha h=> ?_⟩
 ·obtain⟨i,q1,h1,h⟩:=Pr.bind_ok h;obtain⟨d,q2,h2,h⟩:=Pr.bind_ok h;obtain⟨rfl,c2,rfl,c4⟩:=Ff h;obtain⟨a1,a2,a3,a4,a5⟩:=(dL 4 Md Md).spell _ _ _ _ hq h1;obtain⟨b1,b2,b3,b4,b5⟩:=zr.spell _ _ _ _ a2 h2;refine⟨by omega,b2,by simp only[gY,Js,ax] at *; omega,by rw[b4,a4]; simp only[gY,c2,Jw],by rw[c2]; exact a5,b5.1,c4⟩
 ·obtain⟨a1,a2,a3⟩:=ha;have hl:=congrArg List.length h;rw[gY,Jw] at h;have g1:=(dL 4 Md Md).back _ _ _ _ hq a1 h;have h:=bZ h;have g2:=zr.back _ _ _ _ (by simp only[gY,JA,Js,ax] at *; omega) ⟨a2,rfl⟩ h;rw[ni,Pr.bind_of g1,Pr.bind_of g2,Fg _ a3];simp only[gY,Js,Nat.add_assoc]
theorem zt (p:aL) (h:Bh p):8<=(gY p).length:=by simp only[gY,Js,ax]; omega
def iy:Pr az:=uk.bind fun nm=>(ko 4 8 ni).bind fun ps=> .ret ⟨nm,ps⟩
def iu (t:az):List UInt8:=(be (t.IW.length:Int) 2++t.IW)++(be (t.IH.length:Int) 4++aS gY t.IH)
def zu (t:az):Prop:=bm (t.IW.length:Int) 2=true/\bm (t.IH.length:Int) 4=true/\ ∀ p,p∈t.IH->Bh p
theorem wG:Sp (ko 4 8 ni) (fun l=>be (l.length:Int) 4++aS gY l) (fun l=>bm (l.length:Int) 4=true/\ ∀ p,p∈l->Bh p):=ut 4 8 Md Md Fh zt
theorem Dp:Sp iy iu zu:=by
 refine⟨fun s q a r hq h=> ?_,fun s t q a hq ha h=> ?_⟩
 ·obtain⟨k,q1,h1,h⟩:=Pr.bind_ok h;obtain⟨v,q2,h2,h⟩:=Pr.bind_ok h;injection h with h;obtain⟨rfl,rfl⟩:=JP h;obtain⟨a1,a2,a3,a4,a5⟩:=mN.spell _ _ _ _ hq h1;obtain⟨b1,b2,b3,b4,b5⟩:=wG.spell _ _ _ _ a2 h2;exact⟨by omega,b2,by simp only[iu,Js] at *; omega,by rw[b4,a4]; simp only[iu,Jw],a5.1,b5⟩
 ·obtain⟨a1,a2,a3⟩:=ha;have hl:=congrArg List.length h;rw[iu,Jw] at h;have g1:=mN.back _ _ _ _ hq ⟨a1,rfl⟩ h;have h:=bZ h;have g2:=wG.back _ _ _ _ (by simp only[iu,JA,Js,ax] at *; omega) ⟨a2,a3⟩ h;rw[iy,Pr.bind_of g1,Pr.bind_of g2];simp only[Pr.ret,iu,Js,Nat.add_assoc]
theorem zw (t:az) (h:zu t):6<=(iu t).length:=by simp only[iu,Js,ax]; omega
theorem pP:Sp (ko 4 6 iy) (fun l=>be (l.length:Int) 4++aS iu l) (fun l=>bm (l.length:Int) 4=true/\ ∀ t,t∈l->zu t):=ut 4 6 Md Md Dp zw
def u4 (v:Int):Pr ao:=(lT 2).bind fun id=>(eI 2).bind fun a=>(eI 4).bind fun t=>(ko 4 6 iy).bind fun l=>if si v ⟨id,a,t,l⟩=0 then .ret ⟨id,a,t,l⟩ else .err (si v ⟨id,a,t,l⟩)
def pQ (r:ao):List UInt8:=(be (blen r.IJ) 2++r.IJ.data)++(be r.I6 2++(be r.II 4++(be (r.IC.length:Int) 4++aS iu r.IC)))
def okQ (v:Int) (r:ao):Prop:=(bm (blen r.IJ) 2=true/\bu r.IJ=true)/\bm r.I6 2=true/\bm r.II 4=true/\(bm (r.IC.length:Int) 4=true/\ ∀ t,t∈r.IC->zu t)/\si v r=0
theorem Sp_prq (v:Int):Sp (u4 v) pQ (okQ v):=by
 refine⟨fun s q a r hq h=> ?_,fun s t q a hq ha h=> ?_⟩
 ·obtain⟨id,q1,h1,h⟩:=Pr.bind_ok h;obtain⟨ac,q2,h2,h⟩:=Pr.bind_ok h;obtain⟨tm,q3,h3,h⟩:=Pr.bind_ok h;obtain⟨l,q4,h4,h⟩:=Pr.bind_ok h;by_cases hc:si v ⟨id,ac,tm,l⟩=0;rotate_left
  ·rw[Mh hc] at h;exact nomatch h
  rw[Mg hc] at h;injection h with h;obtain⟨rfl,rfl⟩:=JP h;obtain⟨a1,a2,a3,a4,a5⟩:=(gj 2 Md Md).spell _ _ _ _ hq h1;obtain⟨b1,b2,b3,b4,b5⟩:=(dL 2 Md Md).spell _ _ _ _ a2 h2;obtain⟨c1,c2,c3,c4,c5⟩:=(dL 4 Md Md).spell _ _ _ _ b2 h3;obtain⟨d1,d2,d3,d4,d5⟩:=pP.spell _ _ _ _ c2 h4;exact⟨by omega,d2,by simp only[pQ,Js] at *; omega,by rw[d4,c4,b4,a4]; simp only[pQ,Jw],a5,b5,c5,d5,hc⟩
 ·obtain⟨a1,a2,a3,a4,a5⟩:=ha;have hl:=congrArg List.length h;simp only[pQ,Jw] at h;rw[<- Jw] at h;simp only[pQ,JA,Js,ax] at hl;have g1:=(gj 2 Md Md).back _ _ _ _ hq a1 h;have h:=bZ h;have g2:=(dL 2 Md Md).back _ _ _ _ (by simp only[Js,ax] at *; omega) a2 h;have h:=bZ h;have g3:=(dL 4 Md Md).back _ _ _ _ (by simp only[Js,ax] at *; omega) a3 h;have h:=bZ h;rw[<- Jw] at h;have g4:=pP.back _ _ _ _ (by simp only[Js,ax] at *; omega) a4 h;rw[u4,Pr.bind_of g1,Pr.bind_of g2,Pr.bind_of g3,Pr.bind_of g4,Mg a5];simp only[Pr.ret,pQ,Js,Nat.add_assoc]
theorem Cf (n:Nat) (acc:List Bat) (x st:I) (h:st.err≠0):cc (n+1) acc x st=some (acc,x,st):=by
 rw[cc,bn,Jo];dsimp only;rw[Mh h];rfl
theorem pp_l1 (s:List UInt8) (hs:s.length<=1000000) (st:I) (h0:st.err=0): ∀ (n fuel:Nat) (acc:List Bat) (q:Nat),q<=s.length->s.length - q<=n->s.length - q+1<fuel->acc.length+(s.length - q)<=1000000 ->
 (∃ e acc' x,qX n s q= .error e/\e≠0/\cc fuel acc ⟨s.drop q,q,0⟩ st=some (acc',x,cX st e))\/(∃ l x,qX n s q= .ok (l,s.length)/\cc fuel acc ⟨s.drop q,q,0⟩ st=some (acc++l,x,st))
 | n,0,acc,q,hq,hn,hf,_=>absurd hf Mc
 | n,fuel+1,acc,q,hq,hn,hf,ha=>by
  have hd:(s.drop q).length=s.length - q:=JA;rw[cc,bn,Jo];dsimp only;rw[Mg h0,qb,Jo];dsimp only;by_cases he:q=s.length
  ·rw[Mh Mc,Jo];dsimp only;rw[Mh Md];refine .inr ⟨[],_,?_,by rw[JE]⟩
   cases n with
   | zero=>rw[he]; rfl
   | succ n=>rw[he]; exact Mg rfl
  rw[Mg Mc,Jo];dsimp only;rw[Mg rfl]
  cases n with
  | zero=>omega
  | succ n =>
  unfold qX;rw[Mh he];rcases B_bat.run s q hs hq with⟨e,st2,p1,g1,x1,y1⟩ | ⟨b,r,p1,g1,n1,l1⟩
  ·refine .inl ⟨e,acc ++ [zBat],st2,by rw[Pr.bind_err p1],by rw[<- x1]; exact y1,?_⟩;rw[g1,Jo];dsimp only;rw[Mg Mc,bn,Jo];dsimp only;rw[Mh y1,cY,Jo,Jo,x1];have hfl:fuel=(fuel - 1)+1:=by omega
   rw[hfl];refine Cf _ _ _ _ ?_;rw[cX,Mg h0];show e≠0;rw[<- x1]; exact y1
  ·have a3:=(AW.spell s q b r hq p1);have hp:=oP a3.2.2.2.2;have a4:=a3.2.2.1;rw[g1,Jo];dsimp only;rw[Mg Mc,bn,Jo];dsimp only;rw[Mg rfl,Jo];rcases pp_l1 s hs st h0 n fuel (acc ++ [b]) r l1 Mc Mc (by rw[Js,Kt]; omega) with⟨e,acc',x,q1,q2,q3⟩ | ⟨l,x,q1,q2⟩
   ·exact .inl ⟨e,acc',x,by rw[Pr.bind_of p1,Pr.bind_err q1],q2,q3⟩
   ·exact .inr ⟨b::l,x,by rw[Pr.bind_of p1,Pr.bind_of q1]; rfl,by rw[q2,Jw]; rfl⟩
theorem Dq (s:List UInt8) (hs:s.length<=1000000) (q:Nat) (hq:q<=s.length) :
 (∃ e p st,ni s q= .error e/\fQ ⟨s.drop q,q,0⟩=some (p,st)/\st.err=e/\e≠0)\/(∃ p r,ni s q= .ok (p,r)/\fQ ⟨s.drop q,q,0⟩=some (p,⟨s.drop r,r,0⟩)/\q<=r/\r<=s.length):=by
 have dead: ∀ (i:Int) (d:List UInt8) (st:I),d.length<=1000000->st.err≠0->((sZ d).bind fun st18=>(cc (((st18.rest.length:Int)+(st.rest.length:Int)+1).toNat+1) [] st18 st).bind fun (y73,st76,st77)=>some ((⟨i,y73⟩:aL),st77))=some (⟨i,[]⟩,st):=by
  intro i d st hd h;rw[iL _ Mc,Jo,Cf _ _ _ _ h];rfl
 unfold fQ;rcases Q4.run s q hq with⟨e,st,p1,g1,x1,y1⟩ | ⟨i,q1,p1,g1,n1,l1⟩
 ·refine .inl ⟨e,⟨0,[]⟩,st,Pr.bind_err p1,?_,x1,by rw[<- x1]; exact y1⟩;rw[g1,Jo];dsimp only;rw[j9 y1,Jo];dsimp only;rw[Mh Md,Jo];exact dead 0 [] st Md y1
 rw[g1,Jo];dsimp only;rcases QF4.run s q1 l1 with⟨e,st,p2,g2,x2,y2⟩ | ⟨b,q2,p2,g2,n2,l2⟩
 ·refine .inl ⟨e,⟨i,[]⟩,st,by rw[ni,Pr.bind_of p1,Pr.bind_err]; rw[sj,n9,Pr.bind_err p2],?_,x2,by rw[<- x2]; exact y2⟩;rw[g2,Jo];dsimp only;rw[Mh Md,Jo];exact dead i [] st Md y2
 have h2:=(gj 4 Md Md).spell _ _ _ _ l1 p2;have hbl:b.data.length<=1000000:=by
  have:=h2.2.2.1;rw[Js] at this;omega
 rw[g2,Jo];dsimp only;by_cases hb:b.null=true
 ·refine .inl ⟨4,⟨i,[]⟩,⟨s.drop q2,q2,4⟩,by rw[ni,Pr.bind_of p1,Pr.bind_err]; rw[sj,n9,Pr.bind_of p2,Mg hb]; rfl,?_,rfl,by decide⟩;rw[Mg hb,cY,Jo,Jo,qG];exact dead i b.data _ hbl (show (4:Int)≠0 by decide)
 have hx:sj s q1= .ok (b.data,q2):=by
  rw[sj,n9,Pr.bind_of p2,Mh hb];rfl
 rw[Mh hb,Jo,iL _ Mc,Jo];rcases pp_l1 b.data hbl ⟨s.drop q2,q2,0⟩ rfl b.data.length ((((b.data.length:Int))+((s.drop q2).length:Int)+1).toNat+1) [] 0 (JM _) Mc Mc (by rw[J6]; omega) with⟨e,acc',x,r1,r2,r3⟩ | ⟨l,x,r1,r2⟩
 ·rw[List.drop_zero] at r3;refine .inl ⟨e,⟨i,acc'⟩,⟨s.drop q2,q2,e⟩,?_,?_,rfl,r2⟩
  ·rw[ni,Pr.bind_of p1,Pr.bind_of hx,u0,r1];rfl
  ·rw[r3];rfl
 ·rw[List.drop_zero] at r2;refine .inr ⟨⟨i,l⟩,q2,?_,?_,by omega,l2⟩
  ·rw[ni,Pr.bind_of p1,Pr.bind_of hx,u0,r1];rfl
  ·rw[r2];rfl
def zQ:ao:=⟨⟨false,[]⟩,0,0,[]⟩
theorem F7 {p:aL} (h:Bh p) (hl:(gY p).length<=1000000):gdP p:=by
 have h1:=Do h.2.2;simp only[gY,Js,ax] at hl;refine⟨d7 h.1,by omega,fun b hb=>Bb (h.2.2 b hb) ?_⟩;have:=mY (enc:=e9) _ b hb;omega
theorem F8 {t:az} (h:zu t) (hl:(iu t).length<=1000000):gdT t:=by
 have h1:=mQ (ok:=Bh) zt t.IH h.2.2;simp only[iu,Js,ax] at hl;refine⟨by omega,by omega,fun p hp=>F7 (h.2.2 p hp) ?_⟩;have:=mY (enc:=gY) t.IH p hp;omega
theorem okQ_gd {a:Bl} {k t:Int} {l:List az} (ht:bm t 4=true) (h: ∀ x,x∈l->zu x) (hl:(aS iu l).length<=1000000):gdQ ⟨a,k,t,l⟩:=by
 have h1:=mQ (ok:=zu) zw l h;refine⟨d7 ht,by show l.length*40<= _; omega,fun x hx=>F8 (h x hx) ?_⟩;have:=mY (enc:=iu) l x hx;omega
theorem qr_l2 (n:Int) (s:List UInt8) (hs:s.length<=1000000) (hn:n<=1000000): ∀ (m fuel k:Nat) (acc:List aL) (q:Nat),((k+m:Nat):Int)=n->m<fuel->q<=s.length->acc.length=k ->
 (∃ (e:Int) (st:I),il ni m s q= .error e/\bR n fuel k acc ⟨s.drop q,q,0⟩=some (.ret (zQ,st))/\st.err=e/\e≠0) \/
 (∃ l r,il ni m s q= .ok (l,r)/\bR n fuel k acc ⟨s.drop q,q,0⟩=some (.go (k+m,acc++l,⟨s.drop r,r,0⟩))/\q<=r/\r<=s.length)
 | 0,fuel+1,k,acc,q,h1,h2,h3,h4=> .inr ⟨[],q,rfl,by rw[bR,Mh Mc,JE]; rfl,JN _,h3⟩
 | m+1,fuel+1,k,acc,q,h1,h2,h3,h4=>by
  rw[bR,Mg Mc];rcases Dq s hs q h3 with⟨e,p,st,p1,g1,x1,y1⟩ | ⟨p,r,p1,g1,n1,l1⟩
  ·refine .inl ⟨e,st,by rw[il,Pr.bind_err p1],?_,x1,y1⟩;rw[g1,Jo];dsimp only;rw[Mg Mc,bn,Jo];dsimp only;rw[Mh (by rw[x1]; exact y1)];rfl
  ·rw[g1,Jo];dsimp only;rw[Mg Mc,bn,Jo];dsimp only;rw[Mg rfl,Mg Mc,il,Pr.bind_of p1];rcases qr_l2 n s hs hn m fuel (k+1) (acc ++ [p]) r Mc Mc l1 (by rw[Js,h4]; rfl) with⟨e,st,r1,r2,r3,r4⟩ | ⟨l,r',r1,r2,r3,r4⟩
   ·exact .inl ⟨e,st,by rw[Pr.bind_err r1],r2,r3,r4⟩
   ·refine .inr ⟨p::l,r',by rw[Pr.bind_of r1]; rfl,?_,by omega,r4⟩;rw[r2,Jw,show k+1+m=k+(m+1) by omega];rfl
theorem qr_l1 (n:Int) (s:List UInt8) (hs:s.length<=1000000) (hn:n<=1000000): ∀ (m fuel k:Nat) (acc:List az) (q:Nat),((k+m:Nat):Int)=n->m<fuel->q<=s.length->acc.length=k ->
 (∃ (e:Int) (st:I),il iy m s q= .error e/\cM n fuel k acc ⟨s.drop q,q,0⟩=some (.ret (zQ,st))/\st.err=e/\e≠0) \/
 (∃ l r,il iy m s q= .ok (l,r)/\cM n fuel k acc ⟨s.drop q,q,0⟩=some (.go (k+m,acc++l,⟨s.drop r,r,0⟩))/\q<=r/\r<=s.length)
 | 0,fuel+1,k,acc,q,h1,h2,h3,h4=> .inr ⟨[],q,rfl,by rw[fF,Mh Mc,JE]; rfl,JN _,h3⟩
 | m+1,fuel+1,k,acc,q,h1,h2,h3,h4=>by
  rw[fF,Mg Mc];rcases QT.run s q h3 with⟨e,st,p1,g1,x1,y1⟩ | ⟨nm,q1,p1,g1,n1,l1⟩
  ·refine .inl ⟨e,st,by rw[il,Pr.bind_err (show iy s q= .error e from Pr.bind_err p1)],?_,x1,by rw[<- x1]; exact y1⟩;rw[g1,Jo];dsimp only;rw[lk y1 Md Md,Jo];dsimp only;rw[show (0:Int).toNat+1=0+1 from rfl,bR,Mh Md,Jo];dsimp only;rw[bn,Jo];dsimp only;rw[Mh y1];rfl
  rw[g1,Jo];dsimp only;rcases (qJ 4 8 Md Md 4 8 rfl rfl Md).run s q1 l1 with⟨e,st,p2,g2,x2,y2⟩ | ⟨c,q2,p2,g2,n2,l2⟩
  ·refine .inl ⟨e,st,by rw[il,Pr.bind_err]; rw[iy,Pr.bind_of p1,Pr.bind_err]; rw[ko,Pr.bind_err p2],?_,x2,by rw[<- x2]; exact y2⟩;rw[g2,Jo];dsimp only;rw[show (0:Int).toNat+1=0+1 from rfl,bR,Mh Md,Jo];dsimp only;rw[bn,Jo];dsimp only;rw[Mh y2];rfl
  obtain⟨c1,c2,c3,c4,c5,c6⟩:=kP Md Md l1 p2;have c2:=c2 Md;rw[g2,Jo];dsimp only;rcases qr_l2 c s hs Mc c.toNat (c.toNat+1) 0 [] q2 Mc Mc l2 rfl with⟨e,st,r1,r2,r3,r4⟩ | ⟨ps,q3,r1,r2,r3,r4⟩
  ·refine .inl ⟨e,st,by rw[il,Pr.bind_err]; rw[iy,Pr.bind_of p1,Pr.bind_err]; rw[ko,Pr.bind_of p2,r1],?_,r3,r4⟩;rw[r2];rfl
  have ht:iy s q= .ok (⟨nm,ps⟩,q3):=by
   rw[iy,Pr.bind_of p1,Pr.bind_of (a:=ps) (r:=q3) (by rw[ko,Pr.bind_of p2,r1])];rfl
  rw[r2,Jo];dsimp only;rw[bn,Jo];dsimp only;rw[Mg rfl,Mg Mc,Mg Mc,JI,il,Pr.bind_of ht];rcases qr_l1 n s hs hn m fuel (k+1) (acc ++ [⟨nm,ps⟩]) q3 Mc Mc r4 (by rw[Js,h4]; rfl) with⟨e,st,s1,s2,s3,s4⟩ | ⟨l,r',s1,s2,s3,s4⟩
  ·exact .inl ⟨e,st,by rw[Pr.bind_err s1],s2,s3,s4⟩
  ·refine .inr ⟨⟨nm,ps⟩::l,r',by rw[Pr.bind_of s1]; rfl,?_,by omega,s4⟩;rw[s2,Jw,show k+1+m=k+(m+1) by omega];rfl
theorem B_prq (v:Int):CB (fun st=>dS st v) (u4 v) zQ:=by
 have tail: ∀ (b:Bl) (a t:Int) (st:I),st.err≠0->((gt st).bind fun (x121,st122)=>(if x121=0 then ((ca (⟨b,a,t,[]⟩:ao) v).bind fun x138=>(if x138=0 then some st122 else ((bT st122 x138).bind fun st146=>some st146)).bind fun st143=>some st143) else some st122).bind fun st135=>(gt st135).bind fun (x148,st149)=>if x148=0 then (some ((⟨b,a,t,[]⟩:ao),st149)) else (some ((⟨(⟨false,[]⟩:Bl),0,0,[]⟩:ao),st149)))=some (zQ,st):=by
  intro b a t st h;rw[bn,Jo];dsimp only;rw[Mh h,Jo,bn,Jo];dsimp only;rw[Mh h];rfl
 have dead: ∀ (b:Bl) (a t:Int) (st:I),st.err≠0->((ie st 4 6).bind fun (x12,st13)=>(cM x12 ((x12).toNat+1) 0 [] st13).bind fun e=>match e with | .ret r=>some r | .go (k116,y117,st120)=>((gt st120).bind fun (x121,st122)=>(if x121=0 then ((ca (⟨b,a,t,y117⟩:ao) v).bind fun x138=>(if x138=0 then some st122 else ((bT st122 x138).bind fun st146=>some st146)).bind fun st143=>some st143) else some st122).bind fun st135=>(gt st135).bind fun (x148,st149)=>if x148=0 then (some ((⟨b,a,t,y117⟩:ao),st149)) else (some ((⟨(⟨false,[]⟩:Bl),0,0,[]⟩:ao),st149))))=some (zQ,st):=by
  intro b a t st h;rw[lk h Md Md,Jo];dsimp only;rw[show (0:Int).toNat+1=0+1 from rfl,fF,Mh Md,Jo];exact tail b a t st h
 refine⟨fun st h=> ?_,fun s q hs hq=> ?_⟩
 ·show dS st v= _;unfold dS;rw[j9 h,Jo];dsimp only;rw[jJ h,Jo];dsimp only;rw[jJ h,Jo];exact dead _ _ _ st h
 ·show (∃ e st,u4 v s q= _/\dS _ v= _/\ _/\ _)\/(∃ a r,u4 v s q= _/\dS _ v= _/\ _/\ _);unfold dS;rcases QF2.run s q hq with⟨e,st,p1,g1,x1,y1⟩ | ⟨b,q1,p1,g1,n1,l1⟩
  ·refine .inl ⟨e,st,Pr.bind_err p1,?_,x1,y1⟩;rw[g1,Jo];dsimp only;rw[jJ y1,Jo];dsimp only;rw[jJ y1,Jo];exact dead _ _ _ st y1
  rw[g1,Jo];dsimp only;rcases Q2.run s q1 l1 with⟨e,st,p2,g2,x2,y2⟩ | ⟨a,q2,p2,g2,n2,l2⟩
  ·refine .inl ⟨e,st,by rw[u4,Pr.bind_of p1,Pr.bind_err p2],?_,x2,y2⟩;rw[g2,Jo];dsimp only;rw[jJ y2,Jo];exact dead _ _ _ st y2
  rw[g2,Jo];dsimp only;rcases Q4.run s q2 l2 with⟨e,st,p3,g3,x3,y3⟩ | ⟨t,q3,p3,g3,n3,l3⟩
  ·refine .inl ⟨e,st,by rw[u4,Pr.bind_of p1,Pr.bind_of p2,Pr.bind_err p3],?_,x3,y3⟩;rw[g3,Jo];exact dead _ _ _ st y3
  rw[g3,Jo];dsimp only;rcases (qJ 4 6 Md Md 4 6 rfl rfl Md).run s q3 l3 with⟨e,st,p4,g4,x4,y4⟩ | ⟨c,q4,p4,g4,n4,l4⟩
  ·refine .inl ⟨e,st,by rw[u4,Pr.bind_of p1,Pr.bind_of p2,Pr.bind_of p3,Pr.bind_err]; rw[ko,Pr.bind_err p4],?_,x4,y4⟩;have:=dead b a t st y4;rw[lk y4 Md Md] at this;rw[g4];exact this
  obtain⟨c1,c2,c3,c4,c5,c6⟩:=kP Md Md l3 p4;have c2:=c2 Md;rw[g4,Jo];dsimp only;rcases qr_l1 c s hs Mc c.toNat (c.toNat+1) 0 [] q4 Mc Mc l4 rfl with⟨e,st,r1,r2,r3,r4⟩ | ⟨l,q5,r1,r2,r3,r4⟩
  ·refine .inl ⟨e,st,by rw[u4,Pr.bind_of p1,Pr.bind_of p2,Pr.bind_of p3,Pr.bind_err]; rw[ko,Pr.bind_of p4,r1],?_,r3,by rw[r3]; exact r4⟩;rw[r2];rfl
  have hl:ko 4 6 iy s q3= .ok (l,q5):=by rw[ko,Pr.bind_of p4,r1]
  obtain⟨d1,d2,d3,d4,d5⟩:=pP.spell _ _ _ _ l3 hl;obtain⟨t1,t2,t3,t4,t5⟩:=(dL 4 Md Md).spell _ _ _ _ l2 p3;rw[Js,ax] at d3;have hg:gdQ ⟨b,a,t,l⟩:=okQ_gd t5 d5.2 Mc;rw[r2,Jo];dsimp only;rw[bn,Jo];dsimp only;rw[Mg rfl,JI,Be _ v hg,Jo,u4,Pr.bind_of p1,Pr.bind_of p2,Pr.bind_of p3,Pr.bind_of hl];by_cases hc:si v ⟨b,a,t,l⟩=0
  ·rw[Mg hc,Mg hc];exact .inr ⟨_,q5,rfl,rfl,by omega,r4⟩
  ·rw[Mh hc,Mh hc,cY,qG];refine .inl ⟨_,⟨s.drop q5,q5,si v ⟨b,a,t,l⟩⟩,rfl,?_,rfl,hc⟩;rw[Jo,Jo,Jo,bn,Jo];dsimp only;rw[Mh hc];rfl
end Go.Proofs.YtheikonlgjdopaaGreat.Sl
