/- frameDecodes_holds: part 11. -/
import Derived.Test.YtheikonlgjdopaaGreatK10
set_option maxRecDepth 100000
set_option maxHeartbeats 4000000
set_option linter.defProp false
namespace Go.Proofs.YtheikonlgjdopaaGreat.Sl
open Go.RowKit
set_option linter.unusedVariables false
set_option linter.unusedSimpArgs false
def NU := @Prod.mk.inj
abbrev Pr (α:Type):=AI->Nat->Except Int (α×Nat)
namespace Pr
variable {α β:Type}
def ret (a:α):Pr α:=fun _ q=> .ok (a,q)
def err (e:Int):Pr α:=fun _ _=> .error e
def bind (p:Pr α) (f:α->Pr β):Pr β:=fun s q=>match p s q with | .error e=> .error e | .ok (a,r)=>f a s r
theorem bind_ok {p:Pr α} {f:α->Pr β} {s:AI} {q:Nat} {x:β×Nat} (h:p.bind f s q= .ok x): ∃ a r,p s q= .ok (a,r)/\f a s r= .ok x:=by
 unfold bind at h
 cases hp:p s q with
 | error e=>rw[hp] at h; exact nomatch h
 | ok y=>rw[hp] at h; exact⟨_,_,rfl,h⟩
theorem bind_of {p:Pr α} {f:α->Pr β} {s:AI} {q r:Nat} {a:α} (h:p s q= .ok (a,r)):p.bind f s q=f a s r:=by unfold bind; rw[h]
theorem bind_err {p:Pr α} {f:α->Pr β} {s:AI} {q:Nat} {e:Int} (h:p s q= .error e):p.bind f s q= .error e:=by unfold bind; rw[h]
end Pr
structure CR {α:Type} (op:I->Option (α×I)) (p:Pr α) (z:α):Prop where
 dead: ∀ st:I,st.err≠0->op st=some (z,st)
 bad: ∀ (s:AI) (q:Nat) (e:Int),q<=s.length->p s q= .error e-> ∃ st:I,op ⟨s.drop q,q,0⟩=some (z,st)/\st.err=e/\e≠0
 good: ∀ (s:AI) (q:Nat) (a:α) (r:Nat),q<=s.length->p s q= .ok (a,r)->op ⟨s.drop q,q,0⟩=some (a,⟨s.drop r,r,0⟩)
structure Sp {α:Type} (p:Pr α) (enc:α->AI) (ok:α->Prop):Prop where
 spell: ∀ (s:AI) (q:Nat) (a:α) (r:Nat),q<=s.length->p s q= .ok (a,r)->q<=r/\r<=s.length/\r=q+(enc a).length/\s.take r=s.take q++enc a/\ok a
 back: ∀ (s t:AI) (q:Nat) (a:α),q<=s.length->ok a->s.drop q=enc a++t->p s q= .ok (a,q+(enc a).length)
theorem cM {s x t:AI} {q:Nat} (h:s.drop q=x++t):s.drop (q+x.length)=t:=by rw[<- Oa,h,List.drop_left]
theorem o9 (s:AI) (q k:Nat):s.take (q+k)=s.take q++(s.drop q).take k:=List.take_add
theorem F5 (q:Int) (c:UInt8) (k:Nat):be (q*256+c.toNat) (k+1)=be q k ++ [c]:=by
 have hc:=c.toNat_lt;unfold be;rw[List.range_succ,List.map_append];congr 1
 ·apply List.map_congr_left;intro i hi;have hi:=List.mem_range.1 hi;have e:k+1 - 1 - i=(k - 1 - i)+1:=by omega
  have a:(q*256+(c.toNat:Int)) / 256=q:=by omega
  rw[e,show 8*(k - 1 - i+1)=8+8*(k - 1 - i) by omega,Int.pow_add,<- Int.ediv_ediv_of_nonneg QS,show (2 ^ 8:Int)=256 from rfl,a]
 ·simp only[List.map_cons,List.map_nil,Nat.add_sub_cancel,Nat.sub_self,Nat.mul_zero,Int.pow_zero,Int.ediv_one];congr 1;apply UInt8.toNat_inj.1;simp[UInt8.toNat_ofNat'];omega
theorem F6 (cs:AI): ∀ (q:Int) (k:Nat),be (cs.foldl (fun n d=>n*256+(d.toNat:Int)) q) (k+cs.length)=be q k++cs:=by
 induction cs with
 | nil=>intro q k; simp
 | cons c cs ih =>
  intro q k;have h:=ih (q*256+c.toNat) (k+1);rw[F5] at h;rw[List.foldl_cons,NB,show k+(cs.length+1)=k+1+cs.length by omega,h];simp
theorem Hl (c:UInt8):be (sgn c) 1 = [c]:=by
 have hc:=c.toNat_lt;unfold be;simp only[List.range_one,List.map_cons,List.map_nil,Nat.sub_self,Nat.mul_zero,Int.pow_zero,Int.ediv_one];congr 1;apply UInt8.toNat_inj.1;unfold sgn;simp[UInt8.toNat_ofNat'];split <;> omega
theorem Dv (l:AI) (h:l ≠ []):be (bC l) l.length=l:=by
 cases l with
 | nil=>exact absurd rfl h
 | cons c cs =>
  have h:=F6 cs (sgn c) 1;rw[Hl] at h;rw[NB,Nat.add_comm];exact h
def bT (k:Nat):Pr Int:=fun s q=>if s.length<q+k then .error 1 else .ok (bC ((s.drop q).take k),q+k)
theorem Hm (k:Nat) (b:1<=k) (c:k<=8) (kk:Int) (hk:kk=(k:Int)):CR (fun st=>eu st kk) (bT k) 0:=by
 subst hk;refine⟨fun st h=> ?_,fun s q e hq h=> ?_,fun s q a r hq h=> ?_⟩
 ·rw[kD,oD h]
 ·unfold bT at h;split at h
  ·rename_i hl;injection h with h;subst h;refine⟨⟨s.drop q,q,1⟩,?_,rfl,by decide⟩;simp only[kD];rw[sf _ _ _ QR QR (by rw[Nx]; omega)]
  ·exact nomatch h
 ·unfold bT at h;split at h
  ·exact nomatch h
  ·rename_i hl;injection h with h;obtain⟨rfl,rfl⟩:=NU h;simp only[kD];rw[Ag _ _ _ b c (by rw[Nx]; omega),Oa]
theorem bX (k:Nat) (b:1<=k) (c:k<=8):Sp (bT k) (fun n=>be n k) (fun n=>bA n k=true):=by
 refine⟨fun s q a r hq h=> ?_,fun s t q a hq ha h=> ?_⟩
 ·unfold bT at h;split at h
  ·exact nomatch h
  ·rename_i hl;injection h with h;obtain⟨rfl,rfl⟩:=NU h;have hn:((s.drop q).take k).length=k:=by rw[NL,Nx]; omega
   have hne:(s.drop q).take k ≠ []:=fun d=>by rw[d] at hn; simp at hn; omega
   have hb:be (bC ((s.drop q).take k)) k=(s.drop q).take k:=by
    have:=Dv _ hne
    rwa [hn] at this
   refine⟨by omega,by omega,by rw[aH],by rw[hb,o9],?_⟩;rw[<- Jw _ _ b c,hb]
 ·have hl:=congrArg List.length h;rw[Nx,Nr,aH] at hl;unfold bT;rw[QY QR,h,List.take_append_of_le_length (by rw[aH]; omega),List.take_of_length_le (by rw[aH]; omega),aH,Bo _ _ b c ha]
def uT (n:Int):Pr Bl:=fun s q=>if n= -1 then .ok (⟨true,[]⟩,q) else if n<0 then .error 4 else if (s.length:Int)<q+n then .error 1 else .ok (⟨false,(s.drop q).take n.toNat⟩,q+n.toNat)
theorem sD (n:Int) (s:AI) (q:Nat) (hq:q<=s.length) :
 (∃ e st,uT n s q= .error e/\mw ⟨s.drop q,q,0⟩ n=(⟨false,[]⟩,st)/\st.err=e/\e≠0)\/(∃ b r,uT n s q= .ok (b,r)/\mw ⟨s.drop q,q,0⟩ n=(b,⟨s.drop r,r,0⟩)/\q<=r/\r<=s.length/\fd b=n/\bw b=true/\s.take r=s.take q++b.data/\r=q+b.data.length):=by
 have hd:(s.drop q).length=s.length - q:=Nx;unfold uT mw;rw[QY (show ¬ ((⟨s.drop q,q,0⟩:I).err≠0) by simp)];by_cases a:n= -1
 ·rw[QX a,QX a];exact .inr ⟨_,_,rfl,rfl,N3 _,hq,a.symm,rfl,by simp,rfl⟩
 rw[QY a,QY a];by_cases c:n<0
 ·rw[QX c,FD _ _ _ c];exact .inl ⟨_,_,rfl,rfl,rfl,by decide⟩
 rw[QY c];by_cases d:(s.length:Int)<q+n
 ·rw[QX d,vm _ _ _ QR];exact .inl ⟨_,_,rfl,rfl,rfl,by decide⟩
 rw[QY d];obtain⟨m,rfl⟩: ∃ m:Nat,n=(m:Int):=⟨n.toNat,by omega⟩;rw[NR,Bt _ _ _ QR,Oa];have hl:((s.drop q).take m).length=m:=by rw[NL]; omega
 exact .inr ⟨_,_,rfl,rfl,by omega,by omega,by unfold fd; simp only[Bool.false_eq_true,if_false]; rw[hl],rfl,o9 s q m,by rw[hl]⟩
def jT (k:Nat):Pr Bl:=(bT k).bind uT
theorem Hn {lenop:I->Int×I} {p:Pr Int} (hl:CR (fun st=>some (lenop st)) p 0) (hs: ∀ s q a r,q<=s.length->p s q= .ok (a,r)->r<=s.length):CR (fun st=>some (mw (lenop st).2 (lenop st).1)) (p.bind uT) (⟨false,[]⟩:Bl):=by
 refine⟨fun st h=> ?_,fun s q e hq h=> ?_,fun s q a r hq h=> ?_⟩
 ·have c:=Nl (hl.dead st h);rw[c,tT h]
 ·cases hp:p s q with
  | error e' =>
   rw[Pr.bind_err hp] at h;injection h with h;subst h;obtain⟨st,l,g,i⟩:=hl.bad s q e' hq hp;have c:=Nl l;rw[c,tT (by simp only[g]; exact i)];exact⟨st,rfl,g,i⟩
  | ok x =>
   obtain⟨n,m⟩:=x;rw[Pr.bind_of hp] at h;have c:=Nl (hl.good s q n m hq hp);rw[c];rcases sD n s m (hs _ _ _ _ hq hp) with⟨e',st,d,f,j,k⟩ | ⟨b,r,d,f,_⟩
   ·rw[d] at h;injection h with h;subst h;exact⟨st,by rw[f],j,k⟩
   ·rw[d] at h;exact nomatch h
 ·obtain⟨n,m,hp,h⟩:=Pr.bind_ok h;have c:=Nl (hl.good s q n m hq hp);rw[c];rcases sD n s m (hs _ _ _ _ hq hp) with⟨e',st,d,f,j,k⟩ | ⟨b,r',d,f,_⟩
  ·rw[d] at h;exact nomatch h
  ·rw[d] at h;injection h with h;obtain⟨rfl,rfl⟩:=NU h;rw[f]
theorem Ho {p:Pr Int} {enc:Int->AI} {ok:Int->Prop} (hp:Sp p enc ok):Sp (p.bind uT) (fun b=>enc (fd b)++b.data) (fun b=>ok (fd b)/\bw b=true):=by
 refine⟨fun s q a r hq h=> ?_,fun s t q a hq ha h=> ?_⟩
 ·obtain⟨n,m,c,h⟩:=Pr.bind_ok h;obtain⟨a1,a2,a3,a4,a5⟩:=hp.spell _ _ _ _ hq c;rcases sD n s m a2 with⟨e',st,e,i,o,u⟩ | ⟨b,r',e,i,v,j,f,k,l,w⟩
  ·rw[e] at h;exact nomatch h
  ·rw[e] at h;injection h with h;obtain⟨rfl,rfl⟩:=NU h;refine⟨by omega,j,by rw[Nr,f]; omega,by rw[l,a4,f,Ny],by rw[f]; exact a5,k⟩
 ·rw[Ny] at h;have c:=hp.back s _ q _ hq ha.1 h;rw[Pr.bind_of c,Nr,<- Nat.add_assoc];have g:=cM h;have hl:=congrArg List.length h;rw[Nx,Nr,Nr] at hl;generalize (enc (fd a)).length=m at g hl ⊢;obtain⟨nu,d⟩:=a;unfold uT fd
  cases nu with
  | true =>
   have:d = []:=by have:=ha.2; unfold bw at this; simpa using this
   subst this;rw[QX rfl,QX rfl];rfl
  | false =>
   simp only[Bool.false_eq_true,if_false];simp only at g hl;rw[QY QR,QY QR,g,QY QR,NR,List.take_left]
theorem xo (k:Nat) (b:1<=k) (c:k<=8) (kk:Int) (hk:kk=(k:Int)):CR (fun st=>lw st kk) (jT k) (⟨false,[]⟩:Bl) :=
 Hn (lenop:=fun st=>fc st kk) (Hm k b c kk hk) (fun s q a r hq h=>((bX k b c).spell s q a r hq h).2.1)
theorem eJ (k:Nat) (a:1<=k) (c:k<=8):Sp (jT k) (fun b=>be (fd b) k++b.data) (fun b=>bA (fd b) k=true/\bw b=true):=Ho (bX k a c)
theorem nZ (bs:Int) (a:Nat): ∀ (l:AI) (b acc i:Nat),vgo bs l (a+b) acc i=((vgo bs l b acc i).1,⟨(vgo bs l b acc i).2.rest,a+(vgo bs l b acc i).2.pos,(vgo bs l b acc i).2.err⟩)
 | [],b,acc,i=>rfl
 | c::l,b,acc,i=>by
  have ih:=nZ bs a l (b+1) (acc+c.toNat % 128*2 ^ (7*i)) (i+1);unfold vgo;split
  ·rfl
  ·split
   ·rw[Nat.add_assoc,ih]
   ·split
    ·rfl
    ·rfl
theorem xp (bs:Int): ∀ (l:AI) (b acc i:Nat),(vgo bs l b acc i).2.err≠0->(vgo bs l b acc i).1=0
 | [],b,acc,i,h=>rfl
 | c::l,b,acc,i,h=>by
  have ih:=xp bs l (b+1) (acc+c.toNat % 128*2 ^ (7*i)) (i+1)
  revert h
  unfold vgo;split
  ·exact fun _=>rfl
  ·split
   ·exact ih
   ·split
    ·exact fun _=>rfl
    ·exact fun h=>absurd rfl h
def j3 (bs:Int):Pr Nat:=fun s q=>if (vgo bs (s.drop q) 0 0 0).2.err=0 then .ok ((vgo bs (s.drop q) 0 0 0).1,q+(vgo bs (s.drop q) 0 0 0).2.pos) else .error (vgo bs (s.drop q) 0 0 0).2.err
theorem uU {bs:Int} {s:AI} {q n r:Nat} (hq:q<=s.length) (h:j3 bs s q= .ok (n,r)):fm bs ⟨s.drop q,q,0⟩=(n,⟨s.drop r,r,0⟩)/\q<=r/\r<=s.length/\r=q+(du n).length/\s.take r=s.take q++du n:=by
 have hd:(s.drop q).length=s.length - q:=Nx;unfold j3 at h;split at h
 ·rename_i he;injection h with h;obtain⟨b,a⟩:=NU h;obtain⟨k,v,c,f,e,d,_⟩:=vgo_ok bs (s.drop q) 0 0 0 _ _ (rfl: _=((vgo bs (s.drop q) 0 0 0).1,(vgo bs (s.drop q) 0 0 0).2)) he;have g3':(vgo bs (s.drop q) 0 0 0).1=v:=by rw[e]; simp
  rw[g3'] at b;subst b;rw[c] at a;simp only[Nat.zero_add] at a;have hlk:(du v).length=k:=by rw[d,NL]; omega
  refine⟨?_,by omega,by omega,by omega,?_⟩
  ·unfold fm;rw[QY (by simp)];have:=nZ bs q (s.drop q) 0 0 0;rw[Nat.add_zero] at this;simp only;rw[this,g3',c,<- a,Oa];simp
  ·rw[<- a,o9,d]
 ·exact nomatch h
theorem Hp {bs:Int} {s:AI} {q:Nat} {e:Int} (h:j3 bs s q= .error e): ∃ st,fm bs ⟨s.drop q,q,0⟩=(0,st)/\st.err=e/\e≠0:=by
 unfold j3 at h;split at h
 ·exact nomatch h
 ·rename_i he;injection h with h;subst h;have a:=xp bs (s.drop q) 0 0 0 he;refine⟨(fm bs ⟨s.drop q,q,0⟩).2,?_,?_,he⟩
  ·unfold fm;rw[QY (by simp)];have:=nZ bs q (s.drop q) 0 0 0;rw[Nat.add_zero] at this;simp only;rw[this,a]
  ·unfold fm;rw[QY (by simp)];have:=nZ bs q (s.drop q) 0 0 0;rw[Nat.add_zero] at this;simp only;rw[this]
theorem Dw {bs:Int} {st:I} (h:st.err≠0):fm bs st=(0,st):=QX h
theorem BT (bs:Int) (hb:bs=32\/bs=64): ∀ (l:AI) (b acc i:Nat),acc<2 ^ (7*i)->(vgo bs l b acc i).2.err=0->(vgo bs l b acc i).1<2 ^ bs.toNat
 | [],b,acc,i,ha,h=>by simp[vgo] at h
 | c::l,b,acc,i,ha,h=>by
  have ih:=BT bs hb l (b+1) (acc+c.toNat % 128*2 ^ (7*i)) (i+1)
  revert h
  unfold vgo;split
  ·exact fun h=>absurd h (by simp)
  ·rename_i hc;obtain⟨a,d⟩:=nN bs hb acc (c.toNat % 128) i ha QR (Nat.mod_lt _ QS) (fun h=>hc (.inr h));split
   ·exact ih a
   ·split
    ·exact fun h=>absurd h (by simp)
    ·exact fun _=>d
theorem ws (bs:Int) (hb:bs=32\/bs=64):Sp (j3 bs) du (fun n=>n<2 ^ bs.toNat):=by
 refine⟨fun s q a r hq h=> ?_,fun s t q a hq ha h=> ?_⟩
 ·obtain⟨f,b,c,d,e⟩:=uU hq h;refine⟨b,c,d,e,?_⟩;unfold j3 at h;split at h
  ·rename_i he;injection h with h;rw[<- (NU h).1];exact BT bs hb _ _ _ _ (by simp) he
  ·exact nomatch h
 ·unfold j3;rw[h,JA bs QR a 0 0 0 t (by simpa using ha) QR];simp
def jx (bs:Int):Pr Int:=(j3 bs).bind fun n=> .ret (eS n)
theorem Az (bs:Int) (hb:bs=32\/bs=64):CR (fun st=>some (gz (fm bs st))) (jx bs) 0:=by
 refine⟨fun st h=> ?_,fun s q e hq h=> ?_,fun s q a r hq h=> ?_⟩
 ·rw[Dw h];simp[gz,eS]
 ·cases hp:j3 bs s q with
  | error e' =>
   rw[jx,Pr.bind_err hp] at h;injection h with h;subst h;obtain⟨st,b,c,d⟩:=Hp hp;exact⟨st,by rw[b]; simp[gz,eS],c,d⟩
  | ok x =>
   rw[jx,Pr.bind_of (a:=x.1) (r:=x.2) hp] at h;exact nomatch h
 ·obtain⟨n,m,hp,h⟩:=Pr.bind_ok h;injection h with h;obtain⟨rfl,rfl⟩:=NU h;rw[(uU hq hp).1];rfl
theorem j6 (bs:Int) (hb:bs=32\/bs=64):Sp (jx bs) (fun n=>du (bE n)) (fun n=>bE n<2 ^ bs.toNat):=by
 refine⟨fun s q a r hq h=> ?_,fun s t q a hq ha h=> ?_⟩
 ·obtain⟨n,m,hp,h⟩:=Pr.bind_ok h;injection h with h;obtain⟨rfl,rfl⟩:=NU h;have:=(ws bs hb).spell _ _ _ _ hq hp
  rwa [CU]
 ·rw[jx,Pr.bind_of ((ws bs hb).back s t q _ hq ha h)];simp only[Pr.ret,CS]
def iA:Pr Bl:=(jx 32).bind uT
theorem zj:CR db iA (⟨false,[]⟩:Bl) :=
 Hn (lenop:=fun st=>gz (fm 32 st)) (Az 32 (.inl rfl)) (fun s q a r hq h=>((j6 32 (.inl rfl)).spell s q a r hq h).2.1)
theorem g7:Sp iA (fun b=>du (bE (fd b))++b.data) (fun b=>bE (fd b)<2 ^ (32:Int).toNat/\bw b=true):=Ho (j6 32 (.inl rfl))
def fZ (p:Pr Bl):Pr AI:=p.bind fun b=>if b.null then .err 4 else .ret b.data
theorem Ew {op:I->Bl×I} {p:Pr Bl} (h:CR (fun st=>some (op st)) p (⟨false,[]⟩:Bl)) (hb: ∀ s q a r,q<=s.length->p s q= .ok (a,r)->bw a=true):CR (fun st=>some (wF (op st))) (fZ p) []:=by
 refine⟨fun st hs=> ?_,fun s q e hq he=> ?_,fun s q a r hq hg=> ?_⟩
 ·have c:=Nl (h.dead st hs);rw[c];rfl
 ·cases hp:p s q with
  | error e' =>
   rw[fZ,Pr.bind_err hp] at he;injection he with he;subst he;obtain⟨st,d,f,g⟩:=h.bad s q _ hq hp;have c:=Nl d;rw[c];exact⟨st,rfl,f,g⟩
  | ok x =>
   obtain⟨b,r⟩:=x;rw[fZ,Pr.bind_of hp] at he;have c:=Nl (h.good s q b r hq hp);rw[c];have hbr:=hb _ _ _ _ hq hp;split at he
   ·rename_i hn;injection he with he;subst he;have:b.data = []:=by unfold bw at hbr; rw[hn] at hbr; simpa using hbr
    refine⟨⟨s.drop r,r,4⟩,?_,rfl,by decide⟩;unfold wF;simp only[hn,if_true,this];rfl
   ·exact nomatch he
 ·obtain⟨b,m,hp,hg⟩:=Pr.bind_ok hg;have c:=Nl (h.good s q b m hq hp);rw[c];split at hg
  ·exact nomatch hg
  ·rename_i hn;injection hg with hg;obtain⟨rfl,rfl⟩:=NU hg;unfold wF;simp only[hn,Bool.false_eq_true,if_false]
theorem AA {p:Pr Bl} {enc:Bl->AI} {ok:Bl->Prop} (hp:Sp p enc ok):Sp (fZ p) (fun d=>enc ⟨false,d⟩) (fun d=>ok ⟨false,d⟩):=by
 refine⟨fun s q a r hq h=> ?_,fun s t q a hq ha h=> ?_⟩
 ·obtain⟨b,m,c,h⟩:=Pr.bind_ok h;have e:=hp.spell _ _ _ _ hq c;split at h
  ·exact nomatch h
  ·rename_i hn;injection h with h;obtain⟨rfl,rfl⟩:=NU h;obtain⟨nu,d⟩:=b;simp only[Bool.not_eq_true] at hn;subst hn;exact e
 ·rw[fZ,Pr.bind_of (hp.back s t q _ hq ha h)];rfl
def jy:Pr AI:=fZ (jT 2)
def mf:Pr AI:=fZ iA
theorem JN:CR sZ jy []:=Ew (op:=fun st=>jJ st 2) (xo 2 QS QS 2 rfl) (fun s q a r hq h=>((eJ 2 QS QS).spell s q a r hq h).2.2.2.2.2)
theorem ld:Sp jy (fun d=>be (d.length:Int) 2++d) (fun d=>bA (d.length:Int) 2=true/\bw ⟨false,d⟩=true):=AA (eJ 2 QS QS)
theorem JO:CR wQ mf []:=Ew (op:=iT) zj (fun s q a r hq h=>(g7.spell s q a r hq h).2.2.2.2.2)
theorem n7:Sp mf (fun d=>du (bE (d.length:Int))++d) (fun d=>bE (d.length:Int)<2 ^ (32:Int).toNat/\bw ⟨false,d⟩=true):=AA g7
theorem Hq (s:AI) (q k m:Nat) (n:Int) (hk:k<=(s.drop q).length) (hm:m=q+k) (hq:q<=s.length) :
 (∃ e,uT n s m= .error e/\e≠0/\qc (s.drop q) k n=⟨⟨false,[]⟩,0,e⟩)\/(∃ b r,uT n s m= .ok (b,r)/\qc (s.drop q) k n=⟨b,((r - q:Nat):Int),0⟩):=by
 have hd:(s.drop q).length=s.length - q:=Nx;subst hm;unfold uT qc;by_cases a:n= -1
 ·rw[QX a,QX a];exact .inr ⟨_,_,rfl,by congr 1; omega⟩
 rw[QY a,QY a];by_cases c:n<0
 ·rw[QX c,QX c];exact .inl ⟨_,rfl,by decide,rfl⟩
 rw[QY c,QY c];by_cases d:(s.length:Int)<((q+k:Nat):Int)+n
 ·rw[QX d,QX QR];exact .inl ⟨_,rfl,by decide,rfl⟩
 rw[QY d,QY QR];exact .inr ⟨_,_,rfl,by rw[Oa]; congr 1; omega⟩
theorem nw (s:AI) (q k:Nat) (d:1<=k) (f:k<=8) (hq:q<=s.length) :
 (∃ e,jT k s q= .error e/\e≠0/\mW (s.drop q) k=⟨⟨false,[]⟩,0,e⟩)\/(∃ b r,jT k s q= .ok (b,r)/\q<=r/\r<=s.length/\mW (s.drop q) k=⟨b,((r - q:Nat):Int),0⟩):=by
 have hd:(s.drop q).length=s.length - q:=Nx;unfold mW;by_cases hl:(s.drop q).length<k
 ·rw[QX hl];exact .inl ⟨1,Pr.bind_err (by unfold bT; rw[QX QR]),by decide,rfl⟩
 ·rw[QY hl];have hp:bT k s q= .ok (bC ((s.drop q).take k),q+k):=by unfold bT; rw[QY QR]
  rcases Hq s q k _ (bC ((s.drop q).take k)) QR rfl hq with⟨e,a,c,g⟩ | ⟨b,r,a,c⟩
  ·exact .inl ⟨e,by rw[jT,Pr.bind_of hp,a],c,g⟩
  ·have hb:jT k s q= .ok (b,r):=by rw[jT,Pr.bind_of hp,a]
   have:=(eJ k d f).spell _ _ _ _ hq hb;exact .inr ⟨b,r,hb,this.1,this.2.1,c⟩
theorem pa (s:AI) (q:Nat) (hq:q<=s.length) :
 (∃ e,iA s q= .error e/\e≠0/\mH (s.drop q)=⟨⟨false,[]⟩,0,e⟩)\/(∃ b r,iA s q= .ok (b,r)/\q<=r/\r<=s.length/\mH (s.drop q)=⟨b,((r - q:Nat):Int),0⟩):=by
 have hd:(s.drop q).length=s.length - q:=Nx;unfold mH qE j9;by_cases he:(vgo 32 (s.drop q) 0 0 0).2.err=0
 ·rw[QX he];simp only;rw[QY (by simp)];have hp:j3 32 s q= .ok ((vgo 32 (s.drop q) 0 0 0).1,q+(vgo 32 (s.drop q) 0 0 0).2.pos):=by unfold j3; rw[QX he]
  have hg:=uU hq hp;have a:jx 32 s q= .ok (eS (vgo 32 (s.drop q) 0 0 0).1,q+(vgo 32 (s.drop q) 0 0 0).2.pos):=by rw[jx,Pr.bind_of hp]; rfl
  rcases Hq s q (vgo 32 (s.drop q) 0 0 0).2.pos _ (eS (vgo 32 (s.drop q) 0 0 0).1) QR rfl hq with⟨e,c,d,f⟩ | ⟨b,r,c,d⟩
  ·exact .inl ⟨e,by rw[iA,Pr.bind_of a,c],d,f⟩
  ·have hb:iA s q= .ok (b,r):=by rw[iA,Pr.bind_of a,c]
   have:=g7.spell _ _ _ _ hq hb;exact .inr ⟨b,r,hb,this.1,this.2.1,d⟩
 ·rw[QY he];simp only;rw[QX he];have hp:j3 32 s q= .error (vgo 32 (s.drop q) 0 0 0).2.err:=by unfold j3; rw[QY he]
  exact .inl ⟨_,by rw[iA,jx,Pr.bind_err (Pr.bind_err hp)],he,rfl⟩
theorem og (t l:AI):iW (t,0) l=(t++l,0):=rfl
theorem Ey (t:AI) (e:Int):lU (t,0) e=(t,e):=rfl
theorem d7 {n k:Int} (h:bA n k=true): (A0 n):=by
 unfold bA at h;simp only[Bool.and_eq_true,decide_eq_true_eq] at h;obtain⟨⟨⟨a,b⟩,c⟩,d⟩:=h;have:(2:Nat) ^ (8*k.toNat - 1)<=2 ^ 63:=Nat.pow_le_pow_right QS QR;have e:((2:Int) ^ (8*k.toNat - 1))=((2 ^ (8*k.toNat - 1):Nat):Int):=by simp
 have f:(2:Nat) ^ 63=9223372036854775808:=by decide
 omega
theorem es {t:AI} {n k:Int} (hf:bA n k=true) (ht:t.length<=140737488355320):ed (t,0) n k=some (t++be n k.toNat,0):=by
 rw[GS _ _ _ ⟨d7 hf,by simp only; omega⟩];unfold yz;rw[QX hf,og]
theorem kw {t:AI} {b:Bl} {k:Int} (hf:bA (fd b) k=true) (hb:bw b=true) (ht:t.length+b.data.length<=140737488355320):km (t,0) b k=some (t++(be (fd b) k.toNat++b.data),0):=by
 have a:1<=k/\k<=8:=by unfold bA at hf; simp only[Bool.and_eq_true,decide_eq_true_eq] at hf; exact⟨hf.1.1.1,hf.1.1.2⟩
 rw[pu _ _ _ ⟨by omega,by simp only; omega⟩];unfold oC pp yz;rw[QX hb,QX hf,og,og,Ny]
theorem mN {t:AI} {b:Bl} (hb:bw b=true) (hl:b.data.length<=2147483647) (ht:t.length+b.data.length<=140737488355310):ka (t,0) b=some (t++(du (bE (fd b))++b.data),0):=by
 rw[rQ _ _ (by simp only; omega)];unfold mV pp jB;rw[QX hb,QX (by unfold fd; split <;> omega),og,og,Ny]
structure CQ {α:Type} (op:I->Option (α×I)) (p:Pr α) (z:α):Prop where
 dead: ∀ st:I,st.err≠0->op st=some (z,st)
 run: ∀ (s:AI) (q:Nat),q<=s.length->(∃ (e:Int) (st:I),p s q= .error e/\op ⟨s.drop q,q,0⟩=some (z,st)/\st.err=e/\st.err≠0)\/(∃ (a:α) (r:Nat),p s q= .ok (a,r)/\op ⟨s.drop q,q,0⟩=some (a,⟨s.drop r,r,0⟩)/\q<=r/\r<=s.length)
theorem CR.cq {α:Type} {op:I->Option (α×I)} {p:Pr α} {z:α} {enc:α->AI} {ok:α->Prop} (h:CR op p z) (hs:Sp p enc ok):CQ op p z:=by
 refine⟨h.dead,fun s q hq=> ?_⟩
 cases hp:p s q with
 | error e =>
  obtain⟨st,b,a,c⟩:=h.bad s q e hq hp;exact .inl ⟨e,st,rfl,b,a,by rw[a]; exact c⟩
 | ok x =>
  have:=hs.spell s q x.1 x.2 hq hp;exact .inr ⟨x.1,x.2,rfl,h.good s q x.1 x.2 hq hp,this.1,this.2.1⟩
theorem BU (k:Nat) (a:1<=k) (b:k<=8) (kk:Int) (hk:kk=(k:Int)):CQ (fun st=>eu st kk) (bT k) 0:=(Hm k a b kk hk).cq (bX k a b)
theorem Q1:CQ (fun st=>eu st 1) (bT 1) 0:=BU 1 QS QS 1 rfl
theorem Q2:CQ (fun st=>eu st 2) (bT 2) 0:=BU 2 QS QS 2 rfl
theorem Q4:CQ (fun st=>eu st 4) (bT 4) 0:=BU 4 QS QS 4 rfl
theorem Q8:CQ (fun st=>eu st 8) (bT 8) 0:=BU 8 QS QS 8 rfl
theorem lG {st:I} {k:Int} (h:st.err≠0):eu st k=some (0,st):=by rw[kD,oD h]
theorem tv (l:AI) (q:Nat) (e:Int):dC ⟨l,q,0⟩ e=⟨l,q,e⟩:=rfl
theorem QF2:CQ (fun st=>lw st 2) (jT 2) (⟨false,[]⟩:Bl):=(xo 2 QS QS 2 rfl).cq (eJ 2 QS QS)
theorem QF4:CQ (fun st=>lw st 4) (jT 4) (⟨false,[]⟩:Bl):=(xo 4 QS QS 4 rfl).cq (eJ 4 QS QS)
theorem mh {st:I} {k:Int} (h:st.err≠0):lw st k=some (⟨false,[]⟩,st):=by rw[FH,C1 h]
theorem QV:CQ db iA (⟨false,[]⟩:Bl):=zj.cq g7
theorem QT:CQ sZ jy []:=JN.cq ld
theorem QN:CQ wQ mf []:=JO.cq n7
theorem xq (t:AI):otx (t,0)=(t,0):=by simp[otx]
theorem lH {n:Int} {k:Int} (h:k=2\/k=4\/k=8) (a: -32768<=n) (b:n<=32767):bA n k=true:=by
 have c:(2:Int) ^ (8*(2:Int).toNat - 1)=32768:=by decide
 have d:(2:Int) ^ (8*(4:Int).toNat - 1)=2147483648:=by decide
 have e:(2:Int) ^ (8*(8:Int).toNat - 1)=9223372036854775808:=by decide
 unfold bA;simp only[Bool.and_eq_true,decide_eq_true_eq];rcases h with rfl | rfl | rfl <;> omega
open Go.RowKit Go.Deep Go.ChangeShapes
set_option linter.unusedVariables false
section
variable {H:Type} (enc:TypeId×Value->H) (P:Program) {α β:Type}
variable {enc P}
def wI (n:Int):Prop:= (A0 n)
def wB (_:Bool):Prop:=True
def wS (l:AI):Prop:=l.length<=140737488351232
def wL (W:α->Prop) (l:List α):Prop:=l.length<=140737488351232/\ ∀ x,x∈l->W x
end
open Go.RowKit
def Hr (x:Bl):Prop:=wB x.null/\wS x.data
def wf_Hd (x:Hd):Prop:=wS x.MX/\Hr x.MM
def Dx (x:Rec):Prop:=wI x.M5/\wI x.MS/\Hr x.MX/\Hr x.MM/\(wL wf_Hd) x.ML
def AB (x:Top):Prop:=wS x.MI/\(wL wI) x.My
def wf_Val (x:Val):Prop:=wI x.Mx/\wI x.Mz/\wI x.MC/\wI x.Ng/\(wL AB) x.Mw/\wI x.Nj/\wI x.Ni
def AC (x:Bat):Prop:=wI x.M4/\wI x.MW/\wB x.M9/\wB x.M2/\wB x.M6/\wI x.MZ/\wI x.MN/\wI x.M7/\wI x.Mx/\wI x.Mz/\wI x.MP/\(wL Dx) x.MB
set_option linter.unusedSimpArgs false
theorem JP (k v:Int):jh k v=some (gH k v):=by
 unfold jh gH gY;by_cases c:k=0
 ·subst c;by_cases a:v=3
  ·simp[a]
  ·by_cases b:v=4
   ·simp[b]
   ·simp[a,b];omega
 rw[QY c,QY c];by_cases d:k=22
 ·subst d;by_cases a:v=0
  ·simp[a]
  ·by_cases b:v=1
   ·simp[b]
   ·simp[a,b];omega
 rw[QY d,QY d];by_cases e:k=27
 ·subst e;by_cases a:v=0
  ·simp[a]
  ·by_cases b:v=1
   ·simp[b]
   ·simp[a,b];omega
 rw[QY e];by_cases f:k=24
 ·subst f;by_cases a:v=0
  ·simp[a]
  ·simp[a];omega
 rw[QY f,QY f];by_cases g:k=26
 ·subst g;by_cases a:v=0
  ·simp[a]
  ·simp[a];omega
 rw[QY g,QY g,QY e];simp
theorem q8 {k v:Int} (h:gH k v=0):bA k 2=true/\bA v 2=true:=by
 unfold gH gY at h;have e:(2:Int) ^ (8*(2:Int).toNat - 1)=32768:=by decide
 have hv: ∀ n:Int,-100<=n->n<=100->bA n 2=true:=fun n a b=>by
  unfold bA;simp only[Bool.and_eq_true,decide_eq_true_eq];omega
 by_cases c:k=0
 ·simp[c] at h;exact⟨hv _ QR QR,hv _ QR QR⟩
 by_cases a:k=22
 ·simp[a] at h;exact⟨hv _ QR QR,hv _ QR QR⟩
 by_cases b:k=24
 ·simp[b] at h;exact⟨hv _ QR QR,hv _ QR QR⟩
 by_cases d:k=26
 ·simp[d] at h;exact⟨hv _ QR QR,hv _ QR QR⟩
 by_cases f:k=27
 ·simp[f] at h;exact⟨hv _ QR QR,hv _ QR QR⟩
 simp[c,a,b,d,f] at h
def uV (h:eU):AI:=be h.MH 2++(be h.MG 2++(be h.MO 4++(be (fd h.ME) 2++h.ME.data)))
def okH (h:eU):Prop:=gH h.MH h.MG=0/\bA h.MO 4=true/\bA (fd h.ME) 2=true/\bw h.ME=true
def tw:Pr eU:=(bT 2).bind fun k=>(bT 2).bind fun v=>if gH k v=0 then (bT 4).bind fun n=>(jT 2).bind fun c=> .ret ⟨k,v,n,c⟩ else .err (gH k v)
theorem AD:Sp tw uV okH:=by
 refine⟨fun s q a r hq h=> ?_,fun s t q a hq ha h=> ?_⟩
 ·obtain⟨k,B,d,h⟩:=Pr.bind_ok h;obtain⟨v,C,e,h⟩:=Pr.bind_ok h;split at h
  ·rename_i hv;obtain⟨n,D,f,h⟩:=Pr.bind_ok h;obtain⟨c,E,g,h⟩:=Pr.bind_ok h;injection h with h;obtain⟨rfl,rfl⟩:=NU h;obtain⟨a1,a2,a3,a4,a5⟩:=(bX 2 QS QS).spell _ _ _ _ hq d;obtain⟨F,i,G,j,H⟩:=(bX 2 QS QS).spell _ _ _ _ a2 e;obtain⟨I,c2,J,l,m⟩:=(bX 4 QS QS).spell _ _ _ _ i f;obtain⟨K,o,L,p,b⟩:=(eJ 2 QS QS).spell _ _ _ _ c2 g;refine⟨by omega,o,?_,?_,hv,m,b.1,b.2⟩
   ·simp only[uV,Nr] at *;omega
   ·rw[p,l,j,a4];simp only[uV,Ny]
  ·exact nomatch h
 ·obtain⟨a1,a2,a3,a4⟩:=ha;obtain⟨u,w⟩:=q8 a1;have hl:=congrArg List.length h;simp only[uV,Nx,Nr,aH] at hl;simp only[uV,Ny] at h;have x:=(bX 2 QS QS).back _ _ _ _ hq u h;have h:=cM h;have y:=(bX 2 QS QS).back _ _ _ _ (by rw[aH]; omega) w h;have h:=cM h;have z:=(bX 4 QS QS).back _ _ _ _ (by simp only[aH]; omega) a2 h;have h:=cM h;rw[<- Ny] at h;have A:=(eJ 2 QS QS).back _ _ _ _ (by simp only[aH]; omega) ⟨a3,a4⟩ h;rw[tw,Pr.bind_of x,Pr.bind_of y,QX a1,Pr.bind_of z,Pr.bind_of A];simp only[Pr.ret,uV,Nr,Nat.add_assoc]
def Hs:eU:=⟨0,0,0,⟨false,[]⟩⟩
theorem Dy:CQ gZ tw Hs:=by
 refine⟨fun st h=> ?_,fun s q hq=> ?_⟩
 ·unfold gZ;simp only[lG h,mh h,bt,Nm,QY h];rfl
 ·unfold gZ tw;rcases Q2.run s q hq with⟨e,st,i,j,u,b⟩ | ⟨k,w,i,j,H,x⟩
  ·refine .inl ⟨e,st,Pr.bind_err i,?_,u,b⟩;simp only[j,lG b,mh b,bt,Nm,QY b];rfl
  simp only[j,Nm,Pr.bind_of i];rcases Q2.run s w x with⟨e,st,l,m,z,d⟩ | ⟨v,a,l,m,J,A⟩
  ·refine .inl ⟨e,st,Pr.bind_err l,?_,z,d⟩;simp only[m,lG d,mh d,bt,Nm,QY d];rfl
  simp only[m,Nm,Pr.bind_of l,bt,xn,if_true];by_cases hv:gH k v=0
  ·simp only[QX hv];rcases Q4.run s a A with⟨e,st,o,p,B,f⟩ | ⟨n,C,o,p,K,D⟩
   ·refine .inl ⟨e,st,Pr.bind_err o,?_,B,f⟩;simp only[p,lG f,mh f,bt,Nm,QY f];rfl
   simp only[p,Nm,Pr.bind_of o];rcases QF2.run s C D with⟨e,st,r,t,E,g⟩ | ⟨c,F,r,t,L,G⟩
   ·refine .inl ⟨e,st,Pr.bind_err r,?_,E,g⟩;simp only[t,lG g,mh g,bt,Nm,QY g];rfl
   refine .inr ⟨⟨k,v,n,c⟩,F,by rw[Pr.bind_of r]; rfl,?_,by omega,G⟩;simp only[t,Nm,if_true]
  ·simp only[QY hv];have y:(⟨s.drop a,a,gH k v⟩:I).err≠0:=hv;refine .inl ⟨gH k v,⟨s.drop a,a,gH k v⟩,rfl,?_,rfl,hv⟩;simp only[dD,tv,Nm,lG y,mh y,bt,QY hv];rfl
theorem Ht (s:AI) (hs:s.length<=140737488355328):ni s=some (match tw s 0 with | .error e=>(⟨0,0,0,⟨false,[]⟩⟩,0,e) | .ok (h,r)=>(⟨h.MH,h.MG,h.MO,h.ME⟩,(r:Int),0)):=by
 unfold ni tw;by_cases d:(s.length:Int)<4
 ·rw[QX d];by_cases l:s.length<2
  ·rw[Pr.bind_err (e:=1) (by unfold bT; rw[QX QR])]
  ·rw[Pr.bind_of (a:=bC (s.take 2)) (r:=2) (by unfold bT; rw[QY QR]; rfl),Pr.bind_err (e:=1) (by unfold bT; rw[QX QR])]
 ·rw[QY d,QX QR,dc _ (by rw[NL]; omega),Nm,QX QR,dc _ (by rw[NL]; omega),Nm,JP,Nm];rw[Pr.bind_of (a:=bC (s.take 2)) (r:=2) (by unfold bT; rw[QY QR]; rfl),Pr.bind_of (a:=bC ((s.drop 2).take 2)) (r:=4) (by unfold bT; rw[QY QR])];generalize bC (s.take 2)=k;generalize bC ((s.drop 2).take 2)=v;by_cases hv:gH k v=0
  ·rw[QX hv,QX hv];by_cases f:(s.length:Int)<8
   ·rw[QX f,Pr.bind_err (e:=1) (by unfold bT; rw[QX QR])]
   ·rw[QY f,QX QR,dc _ (by rw[NL]; omega),Nm,QX QR,iY _ _ ⟨by decide,by decide,by rw[Nx]; omega⟩,Nm];rw[Pr.bind_of (a:=bC ((s.drop 4).take 4)) (r:=8) (by unfold bT; rw[QY QR])];generalize bC ((s.drop 4).take 4)=n;rcases nw s 8 2 QS QS QR with⟨e,c,g,i⟩ | ⟨b,r,c,g,i,j⟩
    ·rw[Pr.bind_err c,show (2:Int).toNat=2 from rfl,i,QY g]
    ·rw[Pr.bind_of c,show (2:Int).toNat=2 from rfl,j];simp only[if_true,Pr.ret];rw[QX QR];congr 4;omega
  ·rw[QY hv,QY hv];rfl
def yO (h:eU):Int:=if gH h.MH h.MG=0 then (if bA h.MO 4=true then (if bw h.ME=true then (if (h.ME.data.length:Int)>32767 then 4 else 0) else 4) else 11) else gH h.MH h.MG
theorem Hu (h:eU) (hn:wI h.MO):iH h=some (yO h):=by
 unfold iH yO;rw[xn,Nm];by_cases a:gH h.MH h.MG=0
 ·rw[QX a,QX a,gb _ _ hn,Nm];by_cases b:bA h.MO 4=true
  ·rw[QX b,QX b,rm,Nm];by_cases c:bw h.ME=true
   ·rw[QX c,QX c];split <;> rfl
   ·rw[QY c,QY c]
  ·rw[QY b,QY b]
 ·rw[QY a,QY a]
theorem Hv {h:eU} (hc:yO h=0):okH h:=by
 unfold yO at hc;split at hc
 ·rename_i a;split at hc
  ·rename_i b;split at hc
   ·rename_i c;split at hc
    ·exact absurd hc QS
    ·exact⟨a,b,lH (.inl rfl) (by unfold fd; split <;> omega) (by unfold fd; split <;> omega),c⟩
   ·exact absurd hc QS
  ·exact absurd hc QS
 ·rename_i a;exact absurd hc a
theorem Dz (h:eU) (t:AI) (ht:t.length<=140737488000000) (hn:wI h.MO) (hl:h.ME.data.length<=40000):iI (t,0) h=some (if yO h=0 then (t++uV h,0) else (t,yO h)):=by
 unfold iI;rw[Hu h hn,Nm];by_cases hc:yO h=0
 ·rw[QX hc,QX hc];obtain⟨a,b,c,d⟩:=Hv hc;rw[es (q8 a).1 QR,Nm,es (q8 a).2 (by simp only[Nr,aH]; omega),Nm];rw[es b (by simp only[Nr,aH]; omega),Nm,kw c d (by simp only[Nr,aH]; omega),Nm];simp only[uV,Ny];rfl
 ·rw[QY hc,QY hc,tU,Ey];rfl
def shift {α:Type} (q:Nat):Except Int (α×Nat)->Except Int (α×Nat)
 | .error e=> .error e
 | .ok (a,r)=> .ok (a,q+r)
def Sh {α:Type} (p:Pr α):Prop:= ∀ (s:AI) (q k:Nat),q+k<=s.length->p s (q+k)=shift q (p (s.drop q) k)
theorem Sh.ret {α:Type} (a:α):Sh (Pr.ret a):=fun s q k h=>rfl
theorem Sh.err {α:Type} (e:Int):Sh (Pr.err e:Pr α):=fun s q k h=>rfl
theorem Sh.bind {α β:Type} {p:Pr α} {f:α->Pr β} {enc:α->AI} {ok:α->Prop} (hp:Sh p) (hs:Sp p enc ok) (hf: ∀ a,Sh (f a)):Sh (p.bind f):=by
 intro s q k h;unfold Pr.bind;rw[hp s q k h]
 cases hx:p (s.drop q) k with
 | error e=>rfl
 | ok x =>
  have:=(hs.spell (s.drop q) k x.1 x.2 (by rw[Nx]; omega) hx).2.1;rw[Nx] at this;exact hf x.1 s q x.2 QR
theorem iB (k:Nat):Sh (bT k):=by
 intro s q j h;unfold bT;rw[Nx,Oa];by_cases hc:s.length<q+j+k
 ·rw[QX hc,QX QR];rfl
 ·rw[QY hc,QY QR];simp only[shift,Nat.add_assoc]
theorem Hw (n:Int):Sh (uT n):=by
 intro s q j h;unfold uT;rw[Nx,Oa];by_cases a:n= -1
 ·rw[QX a,QX a];rfl
 rw[QY a,QY a];by_cases b:n<0
 ·rw[QX b,QX b];rfl
 rw[QY b,QY b];by_cases hc:(s.length:Int)<((q+j:Nat):Int)+n
 ·rw[QX hc,QX QR];rfl
 ·rw[QY hc,QY QR];simp only[shift,Nat.add_assoc]
theorem q9 (k:Nat) (a:1<=k) (b:k<=8):Sh (jT k):=(iB k).bind (bX k a b) Hw
theorem JR (bs:Int):Sh (j3 bs):=by
 intro s q j h;unfold j3;rw[Oa];split
 ·simp only[shift,Nat.add_assoc]
 ·rfl
theorem Ez (bs:Int) (hb:bs=32\/bs=64):Sh (jx bs):=(JR bs).bind (ws bs hb) fun _=> .ret _
theorem zk:Sh iA:=(Ez 32 (.inl rfl)).bind (j6 32 (.inl rfl)) Hw
theorem AE {p:Pr Bl} {enc:Bl->AI} {ok:Bl->Prop} (hp:Sh p) (hs:Sp p enc ok):Sh (fZ p):=hp.bind hs fun b=>by
 split
 ·exact .err 4
 ·exact .ret _
theorem wt:Sh jy:=AE (q9 2 QS QS) (eJ 2 QS QS)
theorem JS:Sh mf:=AE zk g7
theorem Sh.zero {α:Type} {p:Pr α} (h:Sh p) {s:AI} {q:Nat} (hq:q<=s.length):p s q=shift q (p (s.drop q) 0):=h s q 0 hq
def j4 (each:Nat) (n:Int):Pr Int:=fun s q=>if n<0 then .error 4 else if 0<each/\((s.length - q:Nat):Int) / each<n then .error 1 else .ok (n,q)
def fk (k each:Nat):Pr Int:=(bT k).bind (j4 each)
theorem EA (each:Nat) (n:Int):Sh (j4 each n):=by
 intro s q j h;unfold j4;rw[Nx,show s.length - q - j=s.length - (q+j) by omega];split
 ·rfl
 ·split
  ·rfl
  ·rfl
theorem Hx (k each:Nat) (a:1<=k) (b:k<=8):Sh (fk k each):=(iB k).bind (bX k a b) (EA each)
theorem g8 {k each:Nat} (a:1<=k) (b:k<=8) {s:AI} {q r:Nat} {n:Int} (hq:q<=s.length) (h:fk k each s q= .ok (n,r)):0<=n/\(0<each->n*each<=((s.length - r:Nat):Int))/\r=q+k/\r<=s.length/\s.take r=s.take q++be n k/\bA n k=true:=by
 obtain⟨m,r',c,h⟩:=Pr.bind_ok h;obtain⟨a1,a2,a3,a4,a5⟩:=(bX k a b).spell _ _ _ _ hq c;unfold j4 at h;split at h
 ·exact nomatch h
 ·rename_i hn;split at h
  ·exact nomatch h
  ·rename_i he;injection h with h;obtain⟨rfl,rfl⟩:=NU h;rw[aH] at a3;refine⟨by omega,fun hz=> ?_,a3,a2,a4,a5⟩;have:m<=((s.length - r':Nat):Int) / each:=by
    rcases Int.lt_or_le (((s.length - r':Nat):Int) / each) m with g | g
    ·exact absurd ⟨hz,g⟩ he
    ·exact g
   exact (Int.le_ediv_iff_mul_le QR).1 this
theorem F7 {k each:Nat} (a:1<=k) (b:k<=8) {s t:AI} {q:Nat} {n:Int} (hq:q<=s.length) (hf:bA n k=true) (hn:0<=n) (h:s.drop q=be n k++t) (hl:0<each->n*each<=t.length):fk k each s q= .ok (n,q+k):=by
 have g:=(bX k a b).back s t q n hq hf h;rw[aH] at g;rw[fk,Pr.bind_of g];unfold j4;have hlen:=congrArg List.length h;rw[Nx,Nr,aH] at hlen;rw[QY QR,QY];rintro⟨hz,hc⟩;have:=(Int.le_ediv_iff_mul_le (show (0:Int)<each by omega)).2 (hl hz);rw[show s.length - (q+k)=t.length by omega] at hc;omega
theorem tz (k each:Nat) (f:1<=k) (g:k<=8) (kk ee:Int) (hk:kk=(k:Int)) (he:ee=(each:Int)) (p:ee<=1000):CQ (fun st=>jK st kk ee) (fk k each) 0:=by
 subst hk;refine⟨fun st h=> ?_,fun s q hq=> ?_⟩
 ·show jK st k ee= _;rw[tX _ _ _ ⟨by omega,by omega⟩];unfold mm;rw[oD h];simp only;rw[QX h]
 ·show (∃ e st,fk k each s q= .error e/\jK ⟨s.drop q,q,0⟩ k ee=some (0,st)/\ _/\ _)\/(∃ a r,fk k each s q= .ok (a,r)/\jK ⟨s.drop q,q,0⟩ k ee=some (a,⟨s.drop r,r,0⟩)/\q<=r/\r<=s.length);rw[tX _ _ _ ⟨by omega,by omega⟩];unfold mm;rcases (BU k f g k rfl).run s q hq with⟨e,st,c,b,i,d⟩ | ⟨n,r,c,b,j,l⟩
  ·rw[kD] at b;have b:=Nl b;obtain⟨t,m⟩:=NU b;rw[m];exact .inl ⟨e,st,Pr.bind_err c,by rw[QX d],i,d⟩
  ·rw[kD] at b;have b:=Nl b;have o:fc ⟨s.drop q,q,0⟩ k=(n,⟨s.drop r,r,0⟩):=b;rw[o,fk,Pr.bind_of c];simp only;rw[QY (by simp)];unfold j4;by_cases hn:n<0
   ·rw[QX hn,QX hn];exact .inl ⟨4,_,rfl,rfl,rfl,by simp[dC]⟩
   ·rw[QY hn,QY hn,Nx,he];by_cases hc:0<each/\((s.length - r:Nat):Int) / each<n
    ·rw[QX hc,QX ⟨by omega,hc.2⟩];exact .inl ⟨1,_,rfl,rfl,rfl,by simp[dC]⟩
    ·rw[QY hc,QY (fun h=>hc ⟨by omega,h.2⟩)];exact .inr ⟨n,r,rfl,rfl,j,l⟩
theorem nA {st:I} {k e:Int} (h:st.err≠0) (hk:0<=k/\k<=1000) (he:0<=e/\e<=1000):jK st k e=some (0,st):=by
 rw[tX _ _ _ ⟨by omega,by omega⟩];unfold mm;rw[oD h];simp only;rw[QX h]
def dG {α:Type} (p:Pr α):Nat->Pr (List α)
 | 0=> .ret []
 | n+1=>p.bind fun a=>(dG p n).bind fun l=> .ret (a::l)
def bJ {α:Type} (enc:α->AI):List α->AI
 | [] => []
 | a::l=>enc a++bJ enc l
theorem uW {α:Type} {p:Pr α} {enc:α->AI} {ok:α->Prop} (hp:Sp p enc ok): ∀ n:Nat,Sp (dG p n) (bJ enc) (fun l=>l.length=n/\ ∀ x,x∈l->ok x)
 | 0=>by
  refine⟨fun s q a r hq h=> ?_,fun s t q a hq ha h=> ?_⟩
  ·injection h with h;obtain⟨rfl,rfl⟩:=NU h;exact⟨N3 _,hq,rfl,by simp[bJ],rfl,fun x h=>nomatch h⟩
  ·obtain rfl:=List.length_eq_zero_iff.1 ha.1;rfl
 | n+1=>by
  have ih:=uW hp n;refine⟨fun s q a r hq h=> ?_,fun s t q a hq ha h=> ?_⟩
  ·obtain⟨x,k,b,h⟩:=Pr.bind_ok h;obtain⟨l,m,c,h⟩:=Pr.bind_ok h;injection h with h;obtain⟨rfl,rfl⟩:=NU h;obtain⟨a1,a2,a3,a4,a5⟩:=hp.spell _ _ _ _ hq b;obtain⟨o,d,u,e,f,g⟩:=ih.spell _ _ _ _ a2 c;refine⟨by omega,d,by rw[bJ,Nr]; omega,by rw[e,a4,bJ,Ny],by rw[NB,f],fun y hy=> ?_⟩;rcases List.mem_cons.1 hy with rfl | hy
   ·exact a5
   ·exact g y hy
  ·obtain⟨ha1,ha2⟩:=ha
   cases a with
   | nil=>exact absurd ha1 (by simp)
   | cons x l =>
    rw[bJ,Ny] at h;have hl:=congrArg List.length h;rw[Nx,Nr] at hl;have i:=hp.back _ _ _ _ hq (ha2 x (.head _)) h;have j:=ih.back _ _ _ _ QR ⟨by simpa using ha1,fun y hy=>ha2 y (.tail _ hy)⟩ (cM h);rw[dG,Pr.bind_of i,Pr.bind_of j];simp only[Pr.ret,bJ,Nr,Nat.add_assoc]
theorem DA {α:Type} {p:Pr α} {enc:α->AI} {ok:α->Prop} (hs:Sh p) (hp:Sp p enc ok): ∀ n:Nat,Sh (dG p n)
 | 0=> .ret _
 | n+1=>hs.bind hp fun a=>(DA hs hp n).bind (uW hp n) fun l=> .ret _
theorem j7 {α:Type} {enc:α->AI} {ok:α->Prop} {each:Nat} (he: ∀ x,ok x->each<=(enc x).length): ∀ l:List α,(∀ x,x∈l->ok x)->l.length*each<=(bJ enc l).length
 | [],h=>by simp
 | x::l,h=>by
  have:=j7 he l (fun y hy=>h y (.tail _ hy));have:=he x (h x (.head _));rw[bJ,Nr,NB,Nat.add_mul];omega
def fR {α:Type} (k each:Nat) (p:Pr α):Pr (List α):=(fk k each).bind fun n=>dG p n.toNat
theorem xr {α:Type} {p:Pr α} {enc:α->AI} {ok:α->Prop} (k each:Nat) (c:1<=k) (d:k<=8) (hp:Sp p enc ok) (he: ∀ x,ok x->each<=(enc x).length):Sp (fR k each p) (fun l=>be (l.length:Int) k++bJ enc l) (fun l=>bA (l.length:Int) k=true/\ ∀ x,x∈l->ok x):=by
 refine⟨fun s q a r hq h=> ?_,fun s t q a hq ha h=> ?_⟩
 ·obtain⟨n,m,b,h⟩:=Pr.bind_ok h;obtain⟨a1,a2,a3,a4,a5,a6⟩:=g8 c d hq b;obtain⟨o,f,u,g,v,i⟩:=(uW hp n.toNat).spell _ _ _ _ a4 h;have hn:(a.length:Int)=n:=by omega
  refine⟨by omega,f,by rw[Nr,aH]; omega,by rw[g,a5,hn,Ny],by rw[hn]; exact a6,i⟩
 ·rw[Ny] at h;have hl:=congrArg List.length h;rw[Nx,Nr,Nr,aH] at hl;have b:=F7 (each:=each) c d hq ha.1 QR h (fun _=>by
   have:=j7 he a ha.2;rw[Nr,Int.natCast_add,<- Int.natCast_mul];omega)
  have e:=cM h;rw[aH] at e;have j:=(uW hp a.length).back _ _ _ _ QR ⟨rfl,ha.2⟩ e;rw[fR,Pr.bind_of b,NR,j,Nr,aH];simp only[Nat.add_assoc]
theorem xt {α:Type} {p:Pr α} {enc:α->AI} {ok:α->Prop} (k each:Nat) (a:1<=k) (b:k<=8) (hs:Sh p) (hp:Sp p enc ok):Sh (fR k each p):=by
 intro s q j h;unfold fR Pr.bind;rw[Hx k each a b s q j h]
 cases hx:fk k each (s.drop q) j with
 | error e=>rfl
 | ok x =>
  have:=(g8 a b (by rw[Nx]; omega) hx).2.2.2.1;rw[Nx] at this;exact DA hs hp x.1.toNat s q x.2 QR
structure CB {α:Type} (op:I->Option (α×I)) (p:Pr α) (z:α):Prop where
 dead: ∀ st:I,st.err≠0->op st=some (z,st)
 run: ∀ (s:AI) (q:Nat),s.length<=1000000->q<=s.length->(∃ (e:Int) (st:I),p s q= .error e/\op ⟨s.drop q,q,0⟩=some (z,st)/\st.err=e/\st.err≠0)\/(∃ (a:α) (r:Nat),p s q= .ok (a,r)/\op ⟨s.drop q,q,0⟩=some (a,⟨s.drop r,r,0⟩)/\q<=r/\r<=s.length)
theorem CQ.cb {α:Type} {op:I->Option (α×I)} {p:Pr α} {z:α} (h:CQ op p z):CB op p z:=⟨h.dead,fun s q _ hq=>h.run s q hq⟩
def NZ {α:Type} (p:Pr α):Prop:= ∀ (s:AI) (q:Nat) (e:Int),s.length<=1000000->q<=s.length->p s q= .error e->e≠0
theorem CB.nz {α:Type} {op:I->Option (α×I)} {p:Pr α} {z:α} (h:CB op p z):NZ p:=by
 intro s q e hs hq hp;rcases h.run s q hs hq with⟨e',st,b,g,x,y⟩ | ⟨a,r,b,g,n,l⟩
 ·rw[hp] at b;injection b with b;rw[b,<- x];exact y
 ·rw[hp] at b;exact nomatch b
theorem NZ.ret {α:Type} (a:α):NZ (Pr.ret a):=fun s q e _ _ h=>nomatch h
theorem NZ.bind {α β:Type} {p:Pr α} {f:α->Pr β} {enc:α->AI} {ok:α->Prop} (hp:NZ p) (hs:Sp p enc ok) (hf: ∀ a,NZ (f a)):NZ (p.bind f):=by
 intro s q e hl hq h
 cases hx:p s q with
 | error e' =>
  rw[Pr.bind_err hx] at h;injection h with h;rw[<- h];exact hp s q e' hl hq hx
 | ok x =>
  rw[Pr.bind_of (a:=x.1) (r:=x.2) hx] at h;exact hf x.1 s x.2 e hl (hs.spell s q x.1 x.2 hq hx).2.1 h
theorem Sp.congr {α:Type} {p:Pr α} {enc enc':α->AI} {ok ok':α->Prop} (h:Sp p enc ok) (hok: ∀ a,ok a↔ok' a) (he: ∀ a,ok a->enc a=enc' a):Sp p enc' ok':=by
 refine⟨fun s q a r hq hp=> ?_,fun s t q a hq ha hd=> ?_⟩
 ·obtain⟨c,d,e,f,b⟩:=h.spell s q a r hq hp;rw[<- he a b];exact⟨c,d,e,f,(hok a).1 b⟩
 ·have ha':=(hok a).2 ha;rw[<- he a ha'] at hd ⊢;exact h.back s t q a hq ha' hd
theorem Sp.seq {α β:Type} {p:Pr α} {f:α->Pr β} {π:β->α} {enc1:α->AI} {enc2:β->AI} {ok1:α->Prop} {ok2:β->Prop} (hp:Sp p enc1 ok1) (hf: ∀ a,Sp (f a) enc2 (fun x=>ok2 x/\π x=a)) :
 Sp (p.bind f) (fun x=>enc1 (π x)++enc2 x) (fun x=>ok1 (π x)/\ok2 x):=by
 refine⟨fun s q x r hq h=> ?_,fun s t q x hq hx hd=> ?_⟩
 ·obtain⟨a,m,b,c⟩:=Pr.bind_ok h;obtain⟨a1,a2,a3,a4,a5⟩:=hp.spell s q a m hq b;obtain⟨j,d,k,e,g,i⟩:=(hf a).spell s m x r a2 c;subst i;exact⟨by omega,d,by rw[Nr]; omega,by rw[e,a4,Ny],a5,g⟩
 ·rw[Ny] at hd;have b:=hp.back s _ q (π x) hq hx.1 hd;have hl:=congrArg List.length hd;rw[Nx,Nr] at hl;have c:=(hf (π x)).back s t _ x QR ⟨hx.2,rfl⟩ (cM hd);rw[Pr.bind_of b,c,Nr,Nat.add_assoc]
theorem xu {β:Type} (a:β) (c:Prop) [Decidable c] (e:Int):Sp (if c then Pr.ret a else Pr.err e) (fun _ => []) (fun x=>c/\x=a):=by
 refine⟨fun s q x r hq h=> ?_,fun s t q x hq hx hd=> ?_⟩
 ·by_cases hc:c
  ·rw[QX hc] at h;injection h with h;obtain⟨rfl,rfl⟩:=NU h;exact⟨N3 _,hq,rfl,by simp,hc,rfl⟩
  ·rw[QY hc] at h;exact nomatch h
 ·rw[QX hx.1,hx.2];rfl
theorem Hy {β:Type} (a:β):Sp (Pr.ret a) (fun _ => []) (fun x=>x=a):=by
 refine⟨fun s q x r hq h=> ?_,fun s t q x hq hx hd=> ?_⟩
 ·injection h with h;obtain⟨rfl,rfl⟩:=NU h;exact⟨N3 _,hq,rfl,by simp,rfl⟩
 ·rw[hx];rfl
theorem CB.bind {α β:Type} {op1:I->Option (α×I)} {p:Pr α} {d:α} {op2:α->I->Option (β×I)} {f:α->Pr β} {z:β} (W:α->Prop) (h:CB op1 p d)
 (hs: ∀ s q a r,s.length<=1000000->q<=s.length->p s q= .ok (a,r)->W a) (hz:W d) (hf: ∀ a,W a->CB (op2 a) (f a) z):CB (fun st=>(op1 st).bind fun (a,c)=>op2 a c) (p.bind f) z:=by
 refine⟨fun st hd=> ?_,fun s q hl hq=> ?_⟩
 ·show (op1 st).bind _= _;rw[h.dead st hd,Nm];exact (hf d hz).dead st hd
 ·rcases h.run s q hl hq with⟨e,st,g,i,n,l⟩ | ⟨a,r,g,i,y,o⟩
  ·refine .inl ⟨e,st,Pr.bind_err g,?_,n,l⟩;show (op1 _).bind _= _;rw[i,Nm];exact (hf d hz).dead st l
  ·have t:((op1 ⟨s.drop q,q,0⟩).bind fun (a,c)=>op2 a c)=op2 a ⟨s.drop r,r,0⟩:=by rw[i,Nm]
   show (∃ e st,p.bind f s q= _/\((op1 ⟨s.drop q,q,0⟩).bind fun (a,c)=>op2 a c)= _/\ _/\ _)\/(∃ x m,p.bind f s q= _/\((op1 ⟨s.drop q,q,0⟩).bind fun (a,c)=>op2 a c)= _/\ _/\ _);rw[t,Pr.bind_of g];rcases (hf a (hs s q a r hl hq g)).run s r hl o with⟨e,st,j,k,u,v⟩ | ⟨b,m,j,k,A,w⟩
   ·exact .inl ⟨e,st,j,k,u,v⟩
   ·exact .inr ⟨b,m,j,k,by omega,w⟩
theorem CB.congr {α:Type} {op op':I->Option (α×I)} {p:Pr α} {z:α} (h:CB op p z) (he: ∀ st,op' st=op st):CB op' p z:=⟨fun st hd=>(he st).trans (h.dead st hd),fun s q hl hq=>by rw[he]; exact h.run s q hl hq⟩
theorem CB.pr {α:Type} {op:I->Option (α×I)} {p p':Pr α} {z:α} (h:CB op p z) (he:p=p'):CB op p' z:=he ▸ h
theorem ra {k:Nat} (b:1<=k) (c:k<=8): ∀ (s:AI) (q:Nat) (a:Int) (r:Nat),s.length<=1000000->q<=s.length->bT k s q= .ok (a,r)-> (A0 a) :=
 fun s q a r _ hq h=>d7 ((bX k b c).spell s q a r hq h).2.2.2.2
def le:Pr Bool:=(bT 1).bind fun n=>if n=0 then .ret false else if n=1 then .ret true else .err 11
def mO (b:Bool):AI:=be (if b=true then 1 else 0) 1
theorem wu:Sp le mO (fun _=>True):=by
 refine⟨fun s q x r hq h=> ?_,fun s t q x hq hx hd=> ?_⟩
 ·obtain⟨n,m,a,h⟩:=Pr.bind_ok h;obtain⟨a1,a2,a3,a4,a5⟩:=(bX 1 QS QS).spell s q n m hq a;by_cases b:n=0
  ·rw[QX b] at h;injection h with h;obtain⟨rfl,rfl⟩:=NU h;subst b;exact⟨a1,a2,a3,a4,trivial⟩
  ·rw[QY b] at h;by_cases a:n=1
   ·rw[QX a] at h;injection h with h;obtain⟨rfl,rfl⟩:=NU h;subst a;exact⟨a1,a2,a3,a4,trivial⟩
   ·rw[QY a] at h;exact nomatch h
 ·cases x with
  | true =>
   have:=(bX 1 QS QS).back s t q 1 hq QS hd;rw[le,Pr.bind_of this];rfl
  | false =>
   have:=(bX 1 QS QS).back s t q 0 hq QS hd;rw[le,Pr.bind_of this];rfl
theorem AF {α:Type} {op:I->Option (α×I)} {a z:α} {e:Int} (h: ∀ st:I,st.err≠0->op st=some (z,st)) (b: ∀ st:I,st.err=0->op st=some (if e=0 then (a,st) else (z,dC st e))):CB op (if e=0 then .ret a else .err e) z:=by
 refine⟨h,fun s q hl hq=> ?_⟩;by_cases he:e=0
 ·rw[QX he,b _ rfl,QX he];exact .inr ⟨a,q,rfl,rfl,N3 _,hq⟩
 ·rw[QY he,b _ rfl,QY he];exact .inl ⟨e,_,rfl,rfl,rfl,he⟩
def eQ:Pr Top:=jy.bind fun nm=>(fR 4 4 (bT 4)).bind fun ps=> .ret ⟨nm,ps⟩
def pc (t:Top):AI:=(be (t.MI.length:Int) 2++t.MI)++(be (t.My.length:Int) 4++bJ (fun n=>be n 4) t.My)
def okT (t:Top):Prop:=bA (t.MI.length:Int) 2=true/\bA (t.My.length:Int) 4=true/\ ∀ n,n∈t.My->bA n 4=true
theorem xv:Sp (fR 4 4 (bT 4)) (fun l=>be (l.length:Int) 4++bJ (fun n=>be n 4) l) (fun l=>bA (l.length:Int) 4=true/\ ∀ n,n∈l->bA n 4=true):=xr 4 4 QS QS (bX 4 QS QS) (fun x _=>by rw[aH]; decide)
theorem BV:Sp eQ pc okT:=by
 refine⟨fun s q a r hq h=> ?_,fun s t q a hq ha h=> ?_⟩
 ·obtain⟨k,j,b,h⟩:=Pr.bind_ok h;obtain⟨v,l,c,h⟩:=Pr.bind_ok h;injection h with h;obtain⟨rfl,rfl⟩:=NU h;obtain⟨a1,a2,a3,a4,a5⟩:=ld.spell _ _ _ _ hq b;obtain⟨m,d,n,e,f⟩:=xv.spell _ _ _ _ a2 c;exact⟨by omega,d,by simp only[pc,Nr] at *; omega,by rw[e,a4]; simp only[pc,Ny],a5.1,f⟩
 ·obtain⟨a1,a2,a3⟩:=ha;have hl:=congrArg List.length h;rw[pc,Ny] at h;have g:=ld.back _ _ _ _ hq ⟨a1,rfl⟩ h;have h:=cM h;have i:=xv.back _ _ _ _ (by simp only[pc,Nx,Nr,aH] at *; omega) ⟨a2,a3⟩ h;rw[eQ,Pr.bind_of g,Pr.bind_of i];simp only[Pr.ret,pc,Nr,Nat.add_assoc]
theorem EB (t:Top) (h:okT t):6<=(pc t).length:=by simp only[pc,Nr,aH]; omega
theorem ky:Sp (fR 4 6 eQ) (fun l=>be (l.length:Int) 4++bJ pc l) (fun l=>bA (l.length:Int) 4=true/\ ∀ t,t∈l->okT t):=xr 4 6 QS QS BV EB
theorem Hz:Sh eQ:=wt.bind ld fun nm=>(xt 4 4 QS QS (iB 4) (bX 4 QS QS)).bind xv fun ps=> .ret _
theorem rq:Sh (fR 4 6 eQ):=xt 4 6 QS QS Hz BV
theorem uX (n:Int) (s:AI) (hn:n<=1000000): ∀ (m fuel k:Nat) (acc:List Int) (q:Nat),((k+m:Nat):Int)=n->m<fuel->q+4*m<=s.length->acc.length=k ->
 ∃ l,dG (bT 4) m s q= .ok (l,q+4*m)/\cU n fuel k acc ⟨s.drop q,q,0⟩=some (k+m,acc++l,⟨s.drop (q+4*m),q+4*m,0⟩)
 | 0,fuel+1,k,acc,q,h,i,j,c=>⟨[],rfl,by rw[cU,QY QR,NQ]; rfl⟩
 | m+1,fuel+1,k,acc,q,h,i,j,c=>by
  rw[cU,QX QR];rcases Q4.run s q QR with⟨e,st,b,d,o,p⟩ | ⟨a,r,b,d,t,u⟩
  ·unfold bT at b;rw[QY QR] at b;exact nomatch b
  ·have hr:r=q+4:=by
    unfold bT at b;rw[QY QR] at b;injection b with b;exact (NU b).2.symm
   subst hr;rw[d];simp only[Nm];rw[QX QR,QX QR];obtain⟨l,f,g⟩:=uX n s hn m fuel (k+1) (acc ++ [a]) (q+4) QR QR QR (by rw[Nr,c]; rfl);have eq:q+4+4*m=q+4*(m+1):=by omega
   rw[eq] at f g;refine⟨a::l,?_,?_⟩
   ·rw[dG,Pr.bind_of b,Pr.bind_of f];rfl
   ·rw[g,Ny];rw[show k+1+m=k+(m+1) by omega];rfl
theorem zl (n:Int) (s:AI) (hs:s.length<=1000000) (hn:n<=1000000): ∀ (m fuel k:Nat) (acc:List Top) (q:Nat),((k+m:Nat):Int)=n->m<fuel->q<=s.length->acc.length=k ->
 (∃ (e:Int) (st:I),dG eQ m s q= .error e/\cj n fuel [] acc k ⟨s.drop q,q,0⟩=some (.ret ([],st))/\st.err=e/\st.err≠0) \/
 (∃ l r,dG eQ m s q= .ok (l,r)/\cj n fuel [] acc k ⟨s.drop q,q,0⟩=some (.go ([],acc++l,k+m,⟨s.drop r,r,0⟩))/\q<=r/\r<=s.length)
 | 0,fuel+1,k,acc,q,C,D,j,x=> .inr ⟨[],q,rfl,by rw[cj,QY QR,NQ]; rfl,N3 _,j⟩
 | m+1,fuel+1,k,acc,q,C,D,j,x=>by
  rw[cj,QX QR];have died: ∀ (st:I) (t:AI),st.err≠0->((jK st 4 4).bind fun (i,o)=>(cU i ((i).toNat+1) 0 [] o).bind fun (K,y,p)=>if (acc.length+1)*40<=140737488355328 then ((iC p).bind fun (z,b)=>if z=0 then (if A0 ((k:Int)+1) then (cj n fuel [] (acc ++ [(⟨t,y⟩:Top)]) (k+1) b) else none) else (some (Lp.ret ([],b)))) else none)=some (Lp.ret ([],st)):=by
   intro st t h;rw[nA h QS QS];simp only[Nm];rw[show (0:Int).toNat+1=1 from rfl,cU,QY QS];simp only[Nm,bt];rw[QX QR,QY h]
  rcases QT.run s q j with⟨e,st,d,u,E,A⟩ | ⟨nm,F,d,u,L,B⟩
  ·left;refine⟨e,st,by rw[dG,Pr.bind_err (show eQ s q= .error e from Pr.bind_err d)],?_,E,A⟩;rw[u];simp only[Nm];exact died st [] A
  rw[u];simp only[Nm];rcases (tz 4 4 QS QS 4 4 rfl rfl QS).run s F B with⟨e,st,f,v,G,w⟩ | ⟨c,g,f,v,M,N⟩
  ·left;refine⟨e,st,by rw[dG,Pr.bind_err]; rw[eQ,Pr.bind_of d,Pr.bind_err]; rw[fR,Pr.bind_err f],?_,G,w⟩;have:=died st nm w;rw[nA w QS QS] at this;rw[v];exact this
  obtain⟨O,c2,P,Q,R,S⟩:=g8 QS QS B f;have c2:=c2 QS;rw[v];simp only[Nm];obtain⟨ps,H,J⟩:=uX c s QR c.toNat (c.toNat+1) 0 [] g QR QR QR rfl;rw[J];simp only[Nm,bt,if_true];rw[QX QR,QX QR,NG];have ht:eQ s q= .ok (⟨nm,ps⟩,g+4*c.toNat):=by
   rw[eQ,Pr.bind_of d,Pr.bind_of (a:=ps) (r:=g+4*c.toNat) (by rw[fR,Pr.bind_of f,H])];rfl
  rw[dG,Pr.bind_of ht];rcases zl n s hs hn m fuel (k+1) (acc ++ [⟨nm,ps⟩]) (g+4*c.toNat) QR QR QR (by rw[Nr,x]; rfl) with⟨e,st,r1,r2,r3,r4⟩ | ⟨l,r,r1,r2,r3,r4⟩
  ·exact .inl ⟨e,st,by rw[Pr.bind_err r1],r2,r3,r4⟩
  ·refine .inr ⟨⟨nm,ps⟩::l,r,by rw[Pr.bind_of r1]; rfl,?_,by omega,r4⟩;rw[r2,Ny,show k+1+m=k+(m+1) by omega];rfl
theorem xw:CB dW (fR 4 6 eQ) []:=by
 refine⟨fun st h=> ?_,fun s q hs hq=> ?_⟩
 ·unfold dW;rw[nA h QS QS];simp only[Nm];rw[show (0:Int).toNat+1=1 from rfl,cj,QY QS];rfl
 ·unfold dW;rcases (tz 4 6 QS QS 4 6 rfl rfl QS).run s q hq with⟨e,st,a,b,d,f⟩ | ⟨c,g,a,b,j,i⟩
  ·refine .inl ⟨e,st,Pr.bind_err a,?_,d,f⟩;rw[b];simp only[Nm];rw[show (0:Int).toNat+1=1 from rfl,cj,QY QS];rfl
  ·obtain⟨k,c2,m,n,o,p⟩:=g8 QS QS hq a;have c2:=c2 QS;rw[b,fR,Pr.bind_of a];simp only[Nm];rcases zl c s hs QR c.toNat (c.toNat+1) 0 [] g QR QR i rfl with⟨e,st,r1,r2,r3,r4⟩ | ⟨l,r,r1,r2,r3,r4⟩
   ·exact .inl ⟨e,st,r1,by rw[r2]; rfl,r3,r4⟩
   ·refine .inr ⟨l,r,r1,?_,by omega,r4⟩;rw[r2,NG];rfl
theorem zm (s:AI) (q:Nat) (hq:q<=s.length) (hs:s.length<=1000000) (each:Nat) (he:1<=each):kr (s.drop q) (each:Int)=some (match fk 4 each s q with | .error e=>(0,e) | .ok (n,_)=>(n,0)):=by
 have hd:(s.drop q).length=s.length - q:=Nx;unfold kr fk;by_cases b:((s.drop q).length:Int)<4
 ·rw[QX b,Pr.bind_err (e:=1) (by unfold bT; rw[QX QR])]
 ·rw[QY b,QX QR,dc _ (by rw[NL]; omega),Pr.bind_of (a:=bC ((s.drop q).take 4)) (r:=q+4) (by unfold bT; rw[QY QR])];simp only[Nm];generalize bC ((s.drop q).take 4)=n;unfold j4;by_cases hn:n<0
  ·rw[QX hn,QX hn]
  ·rw[QY hn,QY hn,QX QR,QX QR,show ((s.drop q).length:Int) - 4=((s.length - (q+4):Nat):Int) by omega];by_cases hc:n>((s.length - (q+4):Nat):Int) / (each:Int)
   ·rw[QX hc,QX ⟨by omega,hc⟩]
   ·rw[QY hc,QY (fun h=>hc h.2)]
theorem zn {each:Nat} {s:AI} {q:Nat} {e:Int} (h:fk 4 each s q= .error e):e≠0:=by
 unfold fk at h
 cases hp:bT 4 s q with
 | error e' =>
  rw[Pr.bind_err hp] at h;unfold bT at hp;split at hp
  ·injection hp with hp;injection h with h;omega
  ·exact nomatch hp
 | ok x =>
  rw[Pr.bind_of (a:=x.1) (r:=x.2) hp] at h;unfold j4 at h;split at h
  ·injection h with h;omega
  ·split at h
   ·injection h with h;omega
   ·exact nomatch h
theorem HJ (n:Int) (s:AI) (hs:s.length<=1000000) (hn:n<=1000000): ∀ (m fuel k:Nat) (acc:List Int) (q:Nat) (l:List Int) (r:Nat),((k+m:Nat):Int)=n->m<fuel->q+4*m<=s.length->acc.length=k->dG (bT 4) m s q= .ok (l,r) ->
 dm s n fuel (q:Int) k acc=some ((r:Int),k+m,acc++l)
 | 0,fuel+1,k,acc,q,l,r,d,e,f,c,h=>by
  injection h with h;obtain⟨rfl,rfl⟩:=NU h;rw[dm,QY QR,NQ];rfl
 | m+1,fuel+1,k,acc,q,l,r,d,e,f,c,h=>by
  obtain⟨a,j,b,h⟩:=Pr.bind_ok h;obtain⟨l',g,i,h⟩:=Pr.bind_ok h;injection h with h;obtain⟨rfl,rfl⟩:=NU h;unfold bT at b;rw[QY QR] at b;injection b with b;obtain⟨rfl,rfl⟩:=NU b;rw[dm,QX QR,QX QR,QX QR,show ((q:Int)+4).toNat - ((q:Int)).toNat=4 by omega,NR,dc _ (by rw[NL]; omega)];simp only[Nm];rw[QX QR,QX QR,QX QR];have:=HJ n s hs hn m fuel (k+1) (acc ++ [bC ((s.drop q).take 4)]) (q+4) l' g QR QR QR (by rw[Nr,c]; rfl) i;rw[show ((q:Int)+4)=((q+4:Nat):Int) by omega,this,Ny,show k+1+m=k+(m+1) by omega];rfl
theorem HK (n:Int) (s:AI) (hs:s.length<=1000000): ∀ (m fuel k:Nat) (acc:List Top) (q:Nat),((k+m:Nat):Int)=n->m<fuel->n<=1000000->q<=s.length->acc.length=k ->
 dn s n fuel [] 0 0 (q:Int) acc k=some (match dG eQ m s q with | .error e=> .ret ([],0,e) | .ok (l,r)=> .go ([],0,0,(r:Int),acc++l,k+m))
 | 0,fuel+1,k,acc,q,t,u,hn,i,j=>by
  rw[dn,QY QR];simp[dG,Pr.ret]
 | m+1,fuel+1,k,acc,q,t,u,hn,i,j=>by
  rw[dn,QX QR,QX QR,NR,iY _ _ ⟨by decide,by decide,by rw[Nx]; omega⟩,show (2:Int).toNat=2 from rfl];simp only[Nm];rcases nw s q 2 QS QS i with⟨e,g,o,h⟩ | ⟨b,f,g,o,h,v⟩
  ·have ht:eQ s q= .error e:=by rw[eQ,Pr.bind_err]; rw[jy,fZ,Pr.bind_err g]
   rw[h,dG,Pr.bind_err ht];simp only;rw[QY o]
  rw[v];simp only[if_true];by_cases hb:b.null=true
  ·have ht:eQ s q= .error 4:=by
    rw[eQ,Pr.bind_err];rw[jy,fZ,Pr.bind_of g,QX hb];rfl
   rw[QX hb,dG,Pr.bind_err ht]
  rw[QY hb,QX QR,QX QR,show ((q:Int)+((f - q:Nat):Int))=(f:Int) by omega,NR];have hx:jy s q= .ok (b.data,f):=by
   rw[jy,fZ,Pr.bind_of g,QY hb];rfl
  have hc:=zm s f h hs 4 QS;rw[show ((4:Nat):Int)=4 from rfl] at hc;rw[hc];simp only[Nm]
  cases hp:fk 4 4 s f with
  | error e =>
   have he:=zn hp;simp only;rw[QY he];have ht:eQ s q= .error e:=by rw[eQ,Pr.bind_of hx,Pr.bind_err]; rw[fR,Pr.bind_err hp]
   rw[dG,Pr.bind_err ht]
  | ok x =>
   obtain⟨c,d⟩:=x;obtain⟨y,c2,z,A,B,C⟩:=g8 QS QS h hp;have c2:=c2 QS;simp only[if_true];obtain⟨ps,p,D⟩:=uX c s QR c.toNat (c.toNat+1) 0 [] d QR QR QR rfl;have w:=HJ c s hs QR c.toNat (c.toNat+1) 0 [] d ps _ QR QR QR rfl p;rw[QX QR,show ((f:Int)+4)=(d:Int) by omega,w];simp only[Nm,NG];rw[QX QR,QX QR];have ht:eQ s q= .ok (⟨b.data,ps⟩,d+4*c.toNat):=by
    rw[eQ,Pr.bind_of hx,Pr.bind_of (a:=ps) (r:=d+4*c.toNat) (by rw[fR,Pr.bind_of hp,p])];rfl
   rw[dG,Pr.bind_of ht,HK n s hs m fuel (k+1) (acc ++ [(⟨b.data,ps⟩:Top)]) (d+4*c.toNat) QR QR hn QR (by rw[Nr,j]; rfl)]
   cases hr:dG eQ m s (d+4*c.toNat) with
   | error e=>rw[Pr.bind_err hr]
   | ok x =>
    rw[Pr.bind_of (a:=x.1) (r:=x.2) hr];simp only[Pr.ret,Ny,List.cons_append,NG,show k+1+m=k+(m+1) by omega]
theorem xx (s:AI) (hs:s.length<=1000000):ej s=some (match fR 4 6 eQ s 0 with | .error e=>([],0,e) | .ok (l,r)=>(l,(r:Int),0)):=by
 unfold ej;have hc:=zm s 0 (NH _) hs 6 QS;rw[show ((6:Nat):Int)=6 from rfl,List.drop_zero] at hc;rw[hc];simp only[Nm]
 cases hp:fk 4 6 s 0 with
 | error e =>
  simp only;rw[QY (zn hp),fR,Pr.bind_err hp]
 | ok x =>
  obtain⟨c,a⟩:=x;obtain⟨d,c2,b,f,g,i⟩:=g8 QS QS (NH _) hp;have c2:=c2 QS;simp only[if_true];have h:=HK c s hs c.toNat (c.toNat+1) 0 [] a QR QR QR QR rfl;rw[b] at h hp;rw[show ((0+4:Nat):Int)=4 from rfl] at h;rw[h,fR,Pr.bind_of hp]
  cases hr:dG eQ c.toNat s (0+4) with
  | error e=>rfl
  | ok x=>rfl
theorem ec {α:Type} {l:List α} {k:Nat} {x:α} {t:List α} (h:l.drop k=x::t):l[k]? = some x/\l.drop (k+1)=t/\l.length=k+1+t.length:=by
 have hl:=congrArg List.length h;rw[Nx,NB] at hl;refine⟨?_,?_,by omega⟩
 ·have:=congrArg (fun z=>z[0]?) h;simpa using this
 ·rw[<- Oa,h];rfl
theorem gx {α:Type} {l:List α} {k:Nat} (h:l.drop k = []):l.length<=k:=List.drop_eq_nil_iff.1 h
def up {α:Type} (lt:α->α->Bool):Option α->List α->Bool
 | _,[]=>true
 | none,x::t=>up lt (some x) t
 | some p,x::t=>lt p x && up lt (some x) t
def ltI (a b:Int):Bool:=decide (a<b)
theorem zo (a0:List Int) (hb:a0.length<=140737488355328): ∀ (t:List Int) (p:Int) (k fuel:Nat) (y:Bool),a0.drop k=p::t->t.length<fuel-> ∃ z,cY a0 fuel y ((k:Int)+1)=some (if up ltI (some p) t=true then .go (y,z) else .ret false)
 | [],p,k,fuel+1,y,h,hf=>by
  obtain⟨c,a,b⟩:=ec h;refine⟨(k:Int)+1,?_⟩;rw[cY,QY (by simp only[Ov] at b; omega)];rfl
 | x::t,p,k,fuel+1,y,h,hf=>by
  obtain⟨c,a,b⟩:=ec h;obtain⟨d,e,f⟩:=ec a;rw[NB] at hf b;obtain⟨z,hz⟩:=zo a0 hb t x (k+1) fuel y a QR;rw[cY,QX QR,QX QR,QX QR,show ((k:Int)+1 - 1).toNat=k by omega,c];rw[Nm];rw[QX QR,show ((k:Int)+1).toNat=k+1 by omega,d];rw[Nm];by_cases hc:p<x
  ·rw[QY QR,QX QR];refine⟨z,?_⟩;rw[show ((k:Int)+1+1)=((k+1:Nat):Int)+1 by omega,hz];simp only[up,ltI,hc,decide_true,Bool.true_and]
  ·rw[QX QR];refine⟨0,?_⟩;simp only[up,ltI,hc,decide_false,Bool.false_and,Bool.false_eq_true,if_false]
theorem JT (a0:List Int) (hb:a0.length<=140737488355328):gl a0=some (up ltI none a0):=by
 unfold gl
 cases a0 with
 | nil=>rfl
 | cons x t =>
  obtain⟨z,hz⟩:=zo (x::t) hb t x 0 ((((x::t).length:Int) - 1).toNat+1) false rfl (by simp only[NB]; omega);rw[show (((0:Nat):Int)+1)=1 from rfl] at hz;rw[hz];simp only[up];cases up ltI (some x) t <;> rfl
theorem zp (a0:List AI) (hb:a0.length<=140737488355328): ∀ (t:List AI) (p:AI) (k fuel:Nat) (y:Bool),a0.drop k=p::t->t.length<fuel-> ∃ z,cw a0 fuel y ((k:Int)+1)=some (if up Op.bytesLess (some p) t=true then .go (y,z) else .ret false)
 | [],p,k,fuel+1,y,h,hf=>by
  obtain⟨c,a,b⟩:=ec h;refine⟨(k:Int)+1,?_⟩;rw[cw,QY (by simp only[Ov] at b; omega)];rfl
 | x::t,p,k,fuel+1,y,h,hf=>by
  obtain⟨c,a,b⟩:=ec h;obtain⟨d,e,f⟩:=ec a;rw[NB] at hf b;obtain⟨z,hz⟩:=zp a0 hb t x (k+1) fuel y a QR;rw[cw,QX QR,QX QR,QX QR,show ((k:Int)+1 - 1).toNat=k by omega,c];simp only[Nm];rw[QX QR,show ((k:Int)+1).toNat=k+1 by omega,d];simp only[Nm];by_cases hc:Op.bytesLess p x=true
  ·rw[QX hc,QX QR];refine⟨z,?_⟩;rw[show ((k:Int)+1+1)=((k+1:Nat):Int)+1 by omega,hz];simp only[up,hc,Bool.true_and]
  ·rw[QY hc];refine⟨0,?_⟩;simp only[up,hc,Bool.false_and,Bool.false_eq_true,if_false]
theorem JU (a0:List AI) (hb:a0.length<=140737488355328):fg a0=some (up Op.bytesLess none a0):=by
 unfold fg
 cases a0 with
 | nil=>rfl
 | cons x t =>
  obtain⟨z,hz⟩:=zp (x::t) hb t x 0 ((((x::t).length:Int) - 1).toNat+1) false rfl (by simp only[NB]; omega);rw[show (((0:Nat):Int)+1)=1 from rfl] at hz;rw[hz];simp only[up];cases up Op.bytesLess (some x) t <;> rfl
def okn (n:Int):Bool:=decide (0<=n) && decide (n<=2147483647)
def xy (l:List Int):Bool:=l.all okn && up ltI none l && !l.isEmpty
def mi (t:Top):Bool:= !t.MI.isEmpty && decide (t.MI.length<=32767) && xy t.My
def pO (l:List Top):Bool:=l.all mi && up Op.bytesLess none (l.map (·.MI))
theorem xz (y:Bool): ∀ l:List Int,(∀ n,n∈l->wI n)->eV l y=some (if l.all okn=true then .go y else .ret false)
 | [],h=>rfl
 | n::l,h=>by
  have hn:=h n (.head _);rw[eV,gb _ _ hn,iO,List.all_cons];by_cases a:n<0
  ·have:okn n=false:=by unfold okn; simp; omega
   rw[QX a,this];rfl
  ·rw[QY a,Nm];by_cases b:n<=2147483647
   ·have:okn n=true:=by unfold okn; simp; omega
    rw[QX (by simp; omega),xz y l (fun m hm=>h m (.tail _ hm)),this,Bool.true_and]
   ·have:okn n=false:=by unfold okn; simp; omega
    rw[QY (by simp; omega),this];rfl
theorem HU (l:List Int) (hw:wL wI l):jZ l=some (xy l):=by
 unfold jZ xy;rw[xz false l hw.2]
 cases hall:l.all okn with
 | false=>rfl
 | true =>
  simp only[if_true,Nm,Bool.true_and]
  cases l with
  | nil=>rfl
  | cons x t =>
   rw[QX (by simp only[NB]; omega),JT _ (by have:=hw.1; omega)];simp
theorem tA (y:Bool): ∀ (l:List Top) (acc:List AI),(∀ t,t∈l->AB t)->acc.length+l.length<=1000000->dL l y acc=some (if l.all mi=true then .go (y,acc++l.map (·.MI)) else .ret false)
 | [],acc,h,hl=>by simp[dL]
 | t::l,acc,h,hl=>by
  have ht:=h t (.head _);rw[NB] at hl;rw[dL,HU _ ht.2,List.all_cons];by_cases a:t.MI = []
  ·have:mi t=false:=by simp[mi,a]
   rw[QX a,this];rfl
  ·rw[QY a];by_cases b:(t.MI.length:Int)>32767
   ·have:mi t=false:=by simp[mi,show ¬ t.MI.length<=32767 by omega]
    rw[QX b,this];rfl
   ·rw[QY b,Nm];have hne:t.MI.isEmpty=false:=by cases hh:t.MI with | nil=>exact absurd hh a | cons c u=>rfl
    have ho:mi t=xy t.My:=by simp[mi,hne,show t.MI.length<=32767 by omega]
    rw[ho]
    cases hp:xy t.My with
    | false=>rfl
    | true =>
     rw[QX rfl,QX QR,tA y l _ (fun u hu=>h u (.tail _ hu)) (by rw[Nr]; simp only[NB,Ov]; omega),Bool.true_and,List.map_cons,Ny];rfl
theorem DB (l:List Top) (hw: ∀ t,t∈l->AB t) (hl:l.length<=1000000):fh l=some (pO l):=by
 unfold fh pO;rw[tA false l [] hw (by simpa using hl)]
 cases hall:l.all mi with
 | false=>rfl
 | true =>
  simp only[if_true,Nm,Bool.true_and,NG];rw[JU _ (by rw[N2]; omega)];rfl
theorem zq (a b:AI) (ha:a.length<=1000000) (y:Bool): ∀ (u v:AI) (k fuel:Nat),a.drop k=u->b.drop k=v->v.length<fuel->k<=a.length->k<=b.length->(∃ r,cJ a b fuel y k=some (.ret r)/\r=Op.bytesLess u v)\/(∃ z,cJ a b fuel y k=some (.go z)/\Op.bytesLess u v=decide (a.length<b.length))
 | [],v,k,fuel+1,hu,hv,hf,e,f=>by
  have:=gx hu;right;refine⟨(y,k),by rw[cJ,QY QR],?_⟩
  cases v with
  | nil =>
   have:=gx hv;simp[Op.bytesLess];omega
  | cons c v =>
   have:=(ec hv).2.2;simp[Op.bytesLess];omega
 | c::u,[],k,fuel+1,hu,hv,hf,e,f=>by
  have j:=gx hv;have l:=(ec hu).2.2;right;refine⟨(y,k),by rw[cJ,QX QR,QY QR],?_⟩;simp[Op.bytesLess];omega
 | c::u,d::v,k,fuel+1,hu,hv,hf,e,f=>by
  obtain⟨g,i,m⟩:=ec hu;obtain⟨v1,v2,v3⟩:=ec hv;rw[NB] at hf;rw[cJ,QX QR,QX QR,g,v1];simp only[Nm];by_cases hc:(c.toNat:Int)=(d.toNat:Int)
  ·have hcd:c=d:=UInt8.toNat_inj.1 QR;rw[QX hc,QX QR];have:=zq a b ha y u v (k+1) fuel i v2 QR QR QR;have hb:Op.bytesLess (c::u) (d::v)=Op.bytesLess u v:=by
    rw[hcd];simp[Op.bytesLess]
   rw[hb];exact this
  ·rw[QY hc];left;have hcd:c≠d:=fun h=>hc (by rw[h]);by_cases hl:(c.toNat:Int)<(d.toNat:Int)
   ·refine⟨true,by rw[QX hl],?_⟩;have:c<d:=UInt8.lt_iff_toNat_lt.2 QR;simp[Op.bytesLess,this]
   ·refine⟨false,by rw[QY hl],?_⟩;have: ¬ c<d:=fun h=>hl (by have:=UInt8.lt_iff_toNat_lt.1 h; omega);simp[Op.bytesLess,this,hcd]
theorem JV (a b:AI) (ha:a.length<=1000000):jf a b=some (Op.bytesLess a b):=by
 unfold jf;rcases zq a b ha false a b 0 (((b.length:Int)).toNat+1) rfl rfl QR (NH _) (NH _) with⟨r,c,d⟩ | ⟨z,c,d⟩
 ·rw[show ((0:Nat))=0 from rfl] at c;rw[c,d];rfl
 ·rw[c,d];simp only[Nm];by_cases h:a.length<b.length
  ·rw[QX QR];simp[h]
  ·rw[QY QR];simp[h]
theorem AH (x:Top): ∀ (fuel:Nat) (y:Bool) (k:Nat),e7 x fuel y k=cK x fuel y k
 | 0,y,k=>rfl
 | fuel+1,y,k=>by
  rw[e7,cK];simp only[AH x fuel]
theorem EC (x:Top) (hb:x.My.length<=1000000) (y:Bool): ∀ (t:List Int) (p:Option Int) (k fuel:Nat),x.My.drop k=t->t.length<fuel->(k=0->p=none)->(0<k->x.My[k - 1]? = p/\p≠none)-> ∃ z,cK x fuel y k=some (if (t.all okn && up ltI p t)=true then .go (y,z) else .ret false)
 | [],p,k,fuel+1,h,hf,b,c=>by
  have:=gx h;refine⟨k,?_⟩;rw[cK,QY QR];cases p <;> rfl
 | n::t,p,k,fuel+1,h,hf,b,c=>by
  obtain⟨d,e,i⟩:=ec h;rw[NB] at hf;obtain⟨z,hz⟩:=EC x hb y t (some n) (k+1) fuel e QR (fun h=>absurd h QR) (fun _=>⟨d,by simp⟩);rw[cK,QX QR,d];simp only[Nm];rw[List.all_cons];by_cases a:n<0
  ·refine⟨0,?_⟩;rw[QX a,QY];simp only[okn,Bool.and_eq_true,decide_eq_true_eq];omega
  by_cases c2:n>2147483647
  ·refine⟨0,?_⟩;rw[QY a,QX c2,QY];simp only[okn,Bool.and_eq_true,decide_eq_true_eq];omega
  rw[QY a,QY c2];have ho:okn n=true:=by simp only[okn,Bool.and_eq_true,decide_eq_true_eq]; omega
  rcases Nat.eq_zero_or_pos k with hk | hk
  ·obtain rfl:=b hk;refine⟨z,?_⟩;rw[QY QR,QX QR,hz,ho,Bool.true_and,show up ltI none (n::t)=up ltI (some n) t from rfl]
  ·obtain⟨f,g⟩:=c hk;rw[QX QR,QX QR,QX QR,show ((k:Int) - 1).toNat=k - 1 by omega,f]
   cases p with
   | none=>exact absurd rfl g
   | some q =>
    simp only[Nm];by_cases hc:q<n
    ·refine⟨z,?_⟩;rw[QY QR,QX QR,hz,ho,Bool.true_and];simp only[up,ltI,hc,decide_true,Bool.true_and]
    ·refine⟨0,?_⟩;rw[QX QR,QY];simp only[up,ltI,hc,decide_false,Bool.false_and,Bool.and_false,Bool.false_eq_true,not_false_eq_true]
theorem ED (a0:List Top) (hb:a0.length<=1000000) (hw: ∀ t,t∈a0->t.My.length<=1000000/\t.MI.length<=1000000) (y:Bool): ∀ (t:List Top) (p:Option Top) (k fuel:Nat),a0.drop k=t->t.length<fuel->(k=0->p=none)->(0<k->a0[k - 1]? = p/\p≠none)-> ∃ z,cT a0 fuel y k=some (if (t.all mi && up Op.bytesLess (p.map (·.MI)) (t.map (·.MI)))=true then .go (y,z) else .ret false)
 | [],p,k,fuel+1,h,hf,f,g=>by
  have:=gx h;refine⟨k,?_⟩;rw[cT,QY QR];cases p <;> rfl
 | x::t,p,k,fuel+1,h,hf,f,g=>by
  obtain⟨e,j,m⟩:=ec h;have hx:=hw x (List.mem_of_getElem? e);rw[NB] at hf;obtain⟨z,hz⟩:=ED a0 hb hw y t (some x) (k+1) fuel j QR (fun h=>absurd h QR) (fun _=>⟨e,by simp⟩);rw[cT,QX QR,e,Nm];rw[List.all_cons,List.map_cons];by_cases a:(x.MI.length:Int)<1
  ·refine⟨0,?_⟩;have:x.MI = []:=List.length_eq_zero_iff.1 QR;rw[QX a,QY];simp[mi,this]
  by_cases c2:(x.MI.length:Int)>32767
  ·refine⟨0,?_⟩;rw[QY a,QX c2,QY];simp[mi,show ¬ x.MI.length<=32767 by omega]
  by_cases b:(x.My.length:Int)<1
  ·refine⟨0,?_⟩;have:x.My = []:=List.length_eq_zero_iff.1 QR;rw[QY a,QY c2,QX b,QY];simp[mi,xy,this]
  rw[QY a,QY c2,QY b];have hne:x.MI.isEmpty=false:=by cases hh:x.MI with | nil=>rw[hh] at a; simp at a | cons c u=>rfl
  have hnp:x.My.isEmpty=false:=by cases hh:x.My with | nil=>rw[hh] at b; simp at b | cons c u=>rfl
  have ho:mi x=(x.My.all okn && up ltI none x.My):=by
   simp[mi,xy,hne,hnp,show x.MI.length<=32767 by omega]
  obtain⟨n,d⟩:=EC x hx.1 y x.My none 0 (((x.My.length:Int)).toNat+1) rfl QR (fun _=>rfl) (fun h=>absurd h QR);rw[ho];rcases Nat.eq_zero_or_pos k with hk | hk
  ·obtain rfl:=f hk;rw[QY QR,AH,d]
   cases hq:(x.My.all okn && up ltI none x.My) with
   | false=>exact⟨0,by simp⟩
   | true =>
    refine⟨z,?_⟩;rw[QX rfl,Nm,Bool.true_and];simp only;rw[QX QR,hz,show (none:Option Top).map (·.MI)=none from rfl,show up Op.bytesLess none (x.MI::t.map (·.MI))=up Op.bytesLess (some x.MI) (t.map (·.MI)) from rfl];rfl
  ·obtain⟨i,l⟩:=g hk;rw[QX QR,QX QR,QX QR,show ((k:Int) - 1).toNat=k - 1 by omega,i]
   cases p with
   | none=>exact absurd rfl l
   | some q =>
    rw[Nm];rw[JV _ _ (hw q (List.mem_of_getElem? i)).2];rw[Nm,show (some q).map (·.MI)=some q.MI from rfl,show up Op.bytesLess (some q.MI) (x.MI::t.map (·.MI))=(Op.bytesLess q.MI x.MI && up Op.bytesLess (some x.MI) (t.map (·.MI))) from rfl]
    cases hc:Op.bytesLess q.MI x.MI with
    | false=>exact⟨0,by simp⟩
    | true =>
     rw[QX rfl,d]
     cases hq:(x.My.all okn && up ltI none x.My) with
     | false=>exact⟨0,by simp⟩
     | true =>
      refine⟨z,?_⟩;rw[QX rfl,Nm,Bool.true_and];simp only;rw[QX QR,hz];rfl
theorem EE (a0:List Top) (hb:a0.length<=1000000) (hw: ∀ t,t∈a0->t.My.length<=1000000/\t.MI.length<=1000000):io a0=some (pO a0):=by
 unfold io pO;obtain⟨z,hz⟩:=ED a0 hb hw false a0 none 0 (((a0.length:Int)).toNat+1) rfl QR (fun _=>rfl) (fun h=>absurd h QR);rw[show (none:Option Top).map (·.MI)=none from rfl] at hz;rw[hz];cases (a0.all mi && up Op.bytesLess none (a0.map (·.MI))) <;> rfl
theorem zr (a b:List Int) (ha:a.length<=140737488355328) (y:Bool): ∀ (t u:List Int) (k fuel:Nat),a.drop k=t->b.drop k=u->t.length=u.length->t.length<fuel-> ∃ z,fG a b fuel y k=some (if t=u then .go (y,z) else .ret false)
 | [],[],k,fuel+1,ht,hu,hl,hf=>by
  have:=gx ht;exact⟨k,by rw[fG,QY QR,QX rfl]⟩
 | [],d::u,k,fuel,ht,hu,hl,hf=>by simp at hl
 | c::t,[],k,fuel,ht,hu,hl,hf=>by simp at hl
 | c::t,d::u,k,fuel+1,ht,hu,hl,hf=>by
  obtain⟨e,f,j⟩:=ec ht;obtain⟨g,i,l⟩:=ec hu;simp only[NB] at hl hf;obtain⟨z,hz⟩:=zr a b ha y t u (k+1) fuel f i QR QR;rw[fG,QX QR,e,Nm,g,Nm];by_cases hc:c=d
  ·rw[QX hc,QX QR,hz];subst hc;refine⟨z,?_⟩;by_cases h:t=u
   ·rw[QX h,QX (by rw[h])]
   ·rw[QY h,QY (by simpa using h)]
  ·rw[QY hc];exact⟨0,by rw[QY (fun h=>hc (List.cons.inj h).1)]⟩
theorem JW (a b:List Int) (ha:a.length<=140737488355328):ng a b=some (decide (a=b)):=by
 unfold ng;by_cases hl:(a.length:Int)=(b.length:Int)
 ·rw[QX hl];obtain⟨z,hz⟩:=zr a b ha false a b 0 (((a.length:Int)).toNat+1) rfl rfl QR QR;rw[hz];by_cases h:a=b
  ·rw[QX h,Nn h];rfl
  ·rw[QY h,Np h];rfl
 ·rw[QY hl,Np (fun h=>hl (by rw[h]))]
def BW (a b:Top):Bool:=decide (a.MI=b.MI) && decide (a.My=b.My)
def ki:List Top->List Top->Bool
 | [],[]=>true
 | a::l,b::m=>BW a b && ki l m
 | _,_=>false
theorem DC (a:Top):BW a a=true:=by simp[BW]
theorem vr: ∀ l:List Top,ki l l=true
 | []=>rfl
 | a::l=>by rw[ki,DC,vr l]; rfl
theorem xA: ∀ (l m:List Top),ki l m=true->l.length=m.length
 | [],[],h=>rfl
 | [],b::m,h=>nomatch h
 | a::l,[],h=>nomatch h
 | a::l,b::m,h=>by
  rw[ki,Bool.and_eq_true] at h;rw[NB,NB,xA l m h.2]
theorem xB (a0 a1:List Top) (a:a0.length<=1000000) (y:Bool): ∀ (l u:List Top) (k fuel:Nat),(∀ t,t∈l->t.My.length<=140737488355328)->a0.drop k=l->a1.drop k=u->l.length=u.length->l.length<fuel-> ∃ z,dl a0 a1 fuel y k=some (if ki l u=true then .go (y,z) else .ret false)
 | [],[],k,fuel+1,hw,ht,hu,hl,hf=>by
  have:=gx ht;exact⟨k,by rw[dl,QY QR]; rfl⟩
 | [],d::u,k,fuel,hw,ht,hu,hl,hf=>by simp at hl
 | c::l,[],k,fuel,hw,ht,hu,hl,hf=>by simp at hl
 | c::l,d::u,k,fuel+1,hw,ht,hu,hl,hf=>by
  obtain⟨b,e,h⟩:=ec ht;obtain⟨f,g,i⟩:=ec hu;simp only[NB] at hl hf;obtain⟨z,hz⟩:=xB a0 a1 a y l u (k+1) fuel (fun t ht=>hw t (.tail _ ht)) e g QR QR;rw[dl,QX QR,b,Nm,f,Nm,ki,BW,JW _ _ (hw c (.head _))];by_cases hc:c.MI=d.MI
  ·rw[QX hc,Nn hc,Nm,Bool.true_and]
   cases decide (c.My=d.My) with
   | false=>exact⟨0,rfl⟩
   | true =>
    rw[QX rfl,QX QR,Bool.true_and];exact⟨z,hz⟩
  ·rw[QY hc,Np hc];exact⟨0,rfl⟩
theorem BX (a b:List Top) (c:a.length<=1000000) (ha: ∀ t,t∈a->t.My.length<=140737488355328):di a b=some (ki a b):=by
 unfold di;by_cases hl:(a.length:Int)=(b.length:Int)
 ·obtain⟨z,hz⟩:=xB a b c false a b 0 (((a.length:Int)).toNat+1) ha rfl rfl QR QR;rw[QX hl,hz];cases ki a b <;> rfl
 ·rw[QY hl];have:ki a b=false:=by
   cases h:ki a b with
   | false=>rfl
   | true=>exact absurd (congrArg Int.ofNat (xA a b h)) hl
  rw[this]
def wT (t:Top):Nat:=t.MI.length+4*t.My.length+6
def wTs:List Top->Nat
 | []=>0
 | t::l=>wT t+wTs l
theorem rr: ∀ l:List Top,l.length*6<=wTs l
 | []=>by simp[wTs]
 | t::l=>by have:=rr l; simp only[wTs,wT,NB]; omega
theorem tB: ∀ (l:List Top) (t:Top),t∈l->wT t<=wTs l
 | u::l,t,h=>by
  rcases List.mem_cons.1 h with rfl | h
  ·simp only[wTs]; omega
  ·have:=tB l t h; simp only[wTs]; omega
theorem uY: ∀ l:List Int,(bJ (fun n=>be n 4) l).length=4*l.length
 | []=>rfl
 | n::l=>by rw[bJ,Nr,aH,uY l,NB]; omega
theorem xC (t:Top):(pc t).length=wT t:=by
 simp only[pc,Nr,aH,uY,wT];omega
theorem lI: ∀ l:List Top,(bJ pc l).length=wTs l
 | []=>rfl
 | t::l=>by rw[bJ,Nr,xC,lI l,wTs]
theorem HX: ∀ (l:List Int) (t:AI),(∀ n,n∈l->bA n 4=true)->t.length+4*l.length<=1000000000->cW l (t,0)=some (t++bJ (fun n=>be n 4) l,0)
 | [],t,h,hl=>by rw[cW,bJ,NQ]
 | n::l,t,h,hl=>by
  rw[NB] at hl;rw[cW,es (h n (.head _)) QR,Nm,HX l _ (fun m hm=>h m (.tail _ hm)) (by rw[Nr,aH]; show t.length+4+4*l.length<= _; omega),bJ,Ny];rfl
theorem sE {t d:AI} (hf:d.length<=32767) (ht:t.length<=1000000000):kF (t,0) d=some (t++(be (d.length:Int) 2++d),0):=by
 rw[vq _ _ (by simp only; omega)];have:=kw (t:=t) (b:=⟨false,d⟩) (k:=2) (lH (.inl rfl) (show -32768<=(d.length:Int) by omega) (show (d.length:Int)<=32767 by omega)) rfl (by simp only; omega);rw[pu _ _ _ ⟨by decide,by simp only; omega⟩] at this;exact this
theorem H5: ∀ (l:List Top) (t:AI),(∀ x,x∈l->okT x)->t.length+wTs l<=1000000->wTs l<=3000->cX l (t,0)=some (t++bJ pc l,0)
 | [],t,h,hl,hw=>by rw[cX,bJ,NQ]
 | x::l,t,h,hl,hw=>by
  obtain⟨c,a,b⟩:=h x (.head _);simp only[wTs,wT] at hl hw;rw[cX,sE QR QR,Nm,es a (by simp only[Nr,aH]; omega),Nm,HX _ _ b (by simp only[Nr,aH]; show _+(4:Int).toNat + _<= _; omega),Nm,H5 l _ (fun y hy=>h y (.tail _ hy)) (by simp only[Nr,aH,uY]; show _+(4:Int).toNat + _ + _<= _; omega) QR];simp only[bJ,pc,Ny];rfl
theorem xD (l:List Top) (t:AI) (h: ∀ x,x∈l->okT x) (ht:t.length<=900000) (hw:wTs l<=3000):fp (t,0) l=some (t++(be (l.length:Int) 4++bJ pc l),0):=by
 have:=rr l;unfold fp;rw[es (lH (.inr (.inl rfl)) QR QR) QR,Nm,H5 l _ h (by simp only[Nr,aH]; show _+(4:Int).toNat + _<= _; omega) hw,Ny];rfl
theorem xE (n:Int):bA n 2=decide (-32768<=n/\n<=32767):=by
 rw[Bool.eq_iff_iff];unfold bA;simp only[Bool.and_eq_true,decide_eq_true_eq];have:(2:Int) ^ (8*(2:Int).toNat - 1)=32768:=by decide
 omega
theorem H6 (n:Int):bA n 8=decide (A0 n):=by
 rw[Bool.eq_iff_iff];unfold bA;simp only[Bool.and_eq_true,decide_eq_true_eq];have:(2:Int) ^ (8*(8:Int).toNat - 1)=9223372036854775808:=by decide
 omega
def badR (v:Val):Prop:=v.Mx<0\/v.Mz<0\/v.Mz>32767\/v.MC<0\/v.MC>2147483647\/v.Nj<0\/v.Ni < -1
def badC (v:Val):Prop:= ¬ ((1<=v.Ng/\v.Ng<=3)↔0<(v.Mw.length:Int))\/ ¬ (v.Ng=0↔v.Ni= -1)
open Classical in
noncomputable def chkV (v:Val):Int:=if badR v then 11 else if v.Ng<0\/v.Ng>6 then 12 else if badC v then 10 else if pO v.Mw=true then 0 else 13
theorem F8 (v:Val) (hw:wf_Val v) (hl:v.Mw.length<=1000000):j0 v=some (chkV v):=by
 unfold j0 chkV;rw[DB _ hw.2.2.2.2.1.2 hl,gb _ _ hw.2.1,gb _ _ hw.2.2.1,xE,iO];generalize pO v.Mw=b;by_cases hr:badR v
 ·rw[QX hr];unfold badR at hr;by_cases a:v.Mx<0
  ·rw[QX a]
  rw[QY a];by_cases c2:v.Mz<0
  ·rw[QX c2]
  rw[QY c2,Nm];by_cases e: -32768<=v.Mz/\v.Mz<=32767
  ·rw[QX (Nn e)];by_cases d:v.MC<0
   ·rw[QX d]
   rw[QY d,Nm];by_cases f: -2147483648<=v.MC/\v.MC<=2147483647
   ·rw[QX (Nn f)];by_cases g:v.Nj<0
    ·rw[QX g]
    rw[QY g,QX QR]
   ·rw[QY (by simp only[decide_eq_true_eq]; exact f)]
  ·rw[QY (by simp only[decide_eq_true_eq]; exact e)]
 rw[QY hr];unfold badR at hr;rw[QY QR,QY QR,Nm,QX (Nn QR),QY QR,Nm,QX (Nn QR),QY QR,QY QR];unfold mK;by_cases hs:v.Ng<0\/v.Ng>6
 ·rw[QX hs];by_cases a:v.Ng<0
  ·rw[QX a]
  ·rw[QY a,QX QR]
 rw[QY hs,QY QR,QY QR];by_cases hc:badC v
 ·rw[QX hc];unfold badC at hc;by_cases c:v.Ng=0
  ·rw[QX c,Nm,QX rfl];by_cases a:(v.Mw.length:Int)=0
   ·rw[QX a,QX c,QY QR]
   ·rw[QY a]
  ·rw[QY c];by_cases d:v.Ng>=4
   ·rw[QX d,Nm,QX rfl];by_cases a:(v.Mw.length:Int)=0
    ·rw[QX a,QY c,QX QR]
    ·rw[QY a]
   ·rw[QY d,Nm,QY QS];by_cases a:(v.Mw.length:Int)=0
    ·rw[QX a]
    ·rw[QY a,QY c,QX QR]
 rw[QY hc];unfold badC at hc;by_cases c:v.Ng=0
 ·rw[QX c,Nm,QX rfl,QX QR,QX c,QX QR];cases b <;> rfl
 ·rw[QY c];by_cases d:v.Ng>=4
  ·rw[QX d,Nm,QX rfl,QX QR,QY c,QY QR];cases b <;> rfl
  ·rw[QY d,Nm,QY QS,QY QR,QY c,QY QR];cases b <;> rfl
theorem JX {l:List Top} (h:pO l=true) (hw:wTs l<=3000): ∀ t,t∈l->okT t:=by
 intro t ht;unfold pO at h;rw[Bool.and_eq_true] at h;have a:=List.all_eq_true.1 h.1 t ht;unfold mi xy at a;simp only[Bool.and_eq_true,decide_eq_true_eq,List.all_eq_true] at a;have c:=tB l t ht;unfold wT at c;refine⟨lH (.inl rfl) QR QR,lH (.inr (.inl rfl)) QR QR,fun n hn=> ?_⟩;have b:=a.2.1.1 n hn;unfold okn at b;simp only[Bool.and_eq_true,decide_eq_true_eq] at b;rw[iO];exact Nn QR
theorem gy {k:Nat} {s:AI} {q:Nat} (h:q+k<=s.length):bT k s q= .ok (bC ((s.drop q).take k),q+k):=by unfold bT; rw[QY QR]
theorem j8 {k:Nat} {s:AI} {q:Nat} (h:s.length<q+k):bT k s q= .error 1:=by unfold bT; rw[QX h]
theorem BZ {s:AI} {q:Nat} {e:Int} (hs:s.length<=1000000) (hq:q<=s.length) (h:fR 4 6 eQ s q= .error e):e≠0:=by
 rcases xw.run s q hs hq with⟨e',st,p,g,x,y⟩ | ⟨a,r,p,g,n,l⟩
 ·rw[h] at p;injection p with p;rw[p,<- x];exact y
 ·rw[h] at p;exact nomatch p
theorem wi0:wI 0:=⟨by decide,by decide⟩
theorem wi1:wI 1:=⟨by decide,by decide⟩
theorem wim:wI (-1):=⟨by decide,by decide⟩
def who (p e:Int):Bool:=decide (0<=p/\0<=e/\e<=32767)
theorem AJ (p e:Int) (he:wI e):kv p e=some (who p e):=by
 unfold kv who;by_cases a:p>=0
 ·rw[QX a];by_cases b:e>=0
  ·rw[QX b,gb _ _ he,xE];simp only[Nm];congr 1;by_cases c:e<=32767
   ·rw[Nn QR,Nn QR]
   ·rw[Np QR,Np QR]
  ·rw[QY b,Np QR];rfl
 ·rw[QY a,Np QR];rfl
def tC (l:List Top):Int:=if l.length=0 then 10 else if pO l=true then 0 else 13
def wTl (l:List Top):Prop:=(∀ t,t∈l->AB t)/\l.length<=1000000
theorem B0 (l:List Top) (hw:wTl l):lD l=some (tC l):=by
 unfold lD tC;by_cases h:l.length=0
 ·rw[QX QR,QX h]
 ·rw[QY QR,QY h,F8 _ ⟨wi0,wi0,wi0,wi1,⟨by have:=hw.2; simp only; omega,hw.1⟩,wi0,wi0⟩ hw.2,Nm];unfold chkV;rw[QY (by unfold badR; simp),QY (by simp),QY (by
   unfold badC;simp only;rintro (a | a)
   ·exact a ⟨fun _=>by omega,fun _=>by omega⟩
   ·exact a ⟨fun h=>absurd h QS,fun h=>absurd h QS⟩)]
def lJ (d:AI) (p e:Int):Int:=if et d=true then (if who p e=true then 0 else 11) else 4
def lK (d:AI) (p e:Int) (l:List Top):Int:=if et d=true then (if who p e=true then tC l else 11) else 4
def tmB (t:Int):Bool:=decide (0<=t/\t<=2147483647)
def B5 (p e:Int):Bool:=decide (p= -1/\e= -1)
def eY (b:Bl) (t p e v:Int):Int:=if (bw b && (b.null || et b.data))=true then (if (tmB t && (B5 p e || (decide (v>0) && who p e)))=true then 0 else 11) else 4
theorem B6 (x:bP) (he:wI x.Mz):gU x=some (lJ x.MD x.Mx x.Mz):=by
 unfold gU lJ;rw[pw,Nm,AJ _ _ he,Nm];cases et x.MD <;> cases who x.Mx x.Mz <;> rfl
theorem B7 (x:bQ) (he:wI x.Mz) (hl:wTl x.Mw):gT x=some (lK x.MD x.Mx x.Mz x.Mw):=by
 unfold gT lK;rw[pw,Nm,AJ _ _ he,Nm,B0 _ hl,Nm];cases et x.MD <;> cases who x.Mx x.Mz <;> rfl
theorem xF (x:bf) (v:Int) (he:wI x.Mz) (ht:wI x.MC):fP x v=some (eY x.MD x.MC x.Mx x.Mz v):=by
 unfold fP eY;have f:(if x.Mx=(-1) then (if x.Mz=(-1) then some true else some false) else some false)=some (B5 x.Mx x.Mz):=by
  unfold B5;by_cases a:x.Mx= -1 <;> by_cases b:x.Mz= -1 <;> simp[a,b]
 have g:(if x.MC<0 then some true else ((jG x.MC 4).bind fun c=>if c=true then some false else some true))=some (!tmB x.MC):=by
  unfold tmB;by_cases a:x.MC<0
  ·rw[QX a,Np QR];rfl
  ·rw[QY a,gb _ _ ht,iO,Nm];by_cases b:x.MC<=2147483647
   ·rw[QX (Nn QR),Nn QR];rfl
   ·rw[QY (by simp; omega),Np QR];rfl
 have h:(if v>0 then ((some (who x.Mx x.Mz)).bind fun e=>if e=true then some false else some true) else some true)=some (!(decide (v>0) && who x.Mx x.Mz)):=by
  by_cases d:v>0
  ·rw[QX d,Nn d];cases who x.Mx x.Mz <;> rfl
  ·rw[QY d,Np d];rfl
 rw[f,Nm,g,AJ _ _ he,h,rm,pw];cases bw x.MD <;> cases x.MD.null <;> cases et x.MD.data <;> cases tmB x.MC <;> cases B5 x.Mx x.Mz <;> cases (decide (v>0) && who x.Mx x.Mz) <;> rfl
theorem H7:CB gF le false:=by
 refine⟨fun st h=> ?_,fun s q hl hq=> ?_⟩
 ·unfold gF;rw[lG h,Nm];rfl
 ·unfold gF le;rcases Q1.run s q hq with⟨e,st,c,d,i,j⟩ | ⟨n,r,c,d,f,g⟩
  ·refine .inl ⟨e,st,Pr.bind_err c,?_,i,j⟩;rw[d,Nm];rfl
  ·rw[d,Nm,Pr.bind_of c];simp only;by_cases a:n=0
   ·rw[QX a,QX a,Nm,QY QS,Nm,QY QR];exact .inr ⟨false,r,rfl,rfl,f,g⟩
   ·by_cases b:n=1
    ·rw[QY a,QX b,QY a,QX b,Nm,QY QS,Nm,QX b];exact .inr ⟨true,r,rfl,rfl,f,g⟩
    ·rw[QY a,QY b,QY a,QY b,Nm,QX rfl,dD,Nm,Nm,QY b];exact .inl ⟨11,_,rfl,rfl,rfl,by simp[dC]⟩
abbrev rV:Pr (List Top):=fR 4 6 eQ
theorem mP {α:Type} {enc:α->AI}: ∀ (l:List α) (x:α),x∈l->(enc x).length<=(bJ enc l).length
 | y::l,x,h=>by
  rw[bJ,Nr];rcases List.mem_cons.1 h with rfl | h
  ·omega
  ·have:=mP (enc:=enc) l x h;omega
theorem DD (s:AI) (q:Nat) (l:List Top) (r:Nat) (hl:s.length<=1000000) (hq:q<=s.length) (h:rV s q= .ok (l,r)):wTl l:=by
 obtain⟨a1,a2,a3,a4,a5,a6⟩:=ky.spell s q l r hq h;rw[Nr,aH] at a3;have hlen:=j7 EB l a6;refine⟨fun t ht=> ?_,by omega⟩;have c:=mP (enc:=pc) l t ht;obtain⟨d,e,a⟩:=a6 t ht;have b:(pc t).length=wT t:=xC t;unfold wT at b;exact⟨by show t.MI.length<= _; omega,by show t.My.length<= _; omega,fun n hn=>d7 (a n hn)⟩
def zE:bP:=⟨[],0,0,false⟩
def zA:bQ:=⟨[],0,0,[]⟩
def zB:bf:=⟨⟨false,[]⟩,0,0,0⟩
def rW:Pr bP:=jy.bind fun d=>(bT 8).bind fun p=>(bT 2).bind fun e=>le.bind fun c=>if lJ d p e=0 then .ret ⟨d,p,e,c⟩ else .err (lJ d p e)
def rX:Pr bQ:=jy.bind fun d=>(bT 8).bind fun p=>(bT 2).bind fun e=>rV.bind fun l=>if lK d p e l=0 then .ret ⟨d,p,e,l⟩ else .err (lK d p e l)
def zt (v:Int):Pr bf:=(jT 2).bind fun b=>(bT 4).bind fun t=>if eY b t (-1) (-1) v=0 then .ret ⟨b,t,-1,-1⟩ else .err (eY b t (-1) (-1) v)
def xG (v:Int):Pr bf:=(jT 2).bind fun b=>(bT 4).bind fun t=>(bT 8).bind fun p=>(bT 2).bind fun e=>if eY b t p e v=0 then .ret ⟨b,t,p,e⟩ else .err (eY b t p e v)
theorem H9:CB lR rW zE:=by
 refine CB.congr (CB.bind (fun _=>True) QT.cb (fun _ _ _ _ _ _ _=>trivial) trivial fun d _=>CB.bind wI Q8.cb (ra QS QS) wi0 fun p hp=>CB.bind wI Q2.cb (ra QS QS) wi0 fun e he=>CB.bind (fun _=>True) H7 (fun _ _ _ _ _ _ _=>trivial) trivial fun c _ =>
  AF (op:=fun st=>(da st ⟨d,p,e,c⟩).bind fun (b,a)=>if b=true then some (⟨d,p,e,c⟩,a) else some (zE,a)) (fun st h=> ?_) (fun st h=> ?_)) (fun st=>rfl)
 ·unfold da;rw[bt,Nm];simp only;rw[QY h];rfl
 ·unfold da;rw[bt,Nm];simp only;rw[QX h,B6 _ he,Nm];by_cases hc:lJ d p e=0
  ·rw[QX hc,QX hc];rfl
  ·rw[QY hc,QY hc,dD];rfl
theorem Ia:CB lQ rX zA:=by
 refine CB.congr (CB.bind (fun _=>True) QT.cb (fun _ _ _ _ _ _ _=>trivial) trivial fun d _=>CB.bind wI Q8.cb (ra QS QS) wi0 fun p hp=>CB.bind wI Q2.cb (ra QS QS) wi0 fun e he=>CB.bind wTl xw DD ⟨(fun t h=>nomatch h),by decide⟩ fun l hl =>
  AF (op:=fun st=>(cZ st ⟨d,p,e,l⟩).bind fun (b,a)=>if b=true then some (⟨d,p,e,l⟩,a) else some (zA,a)) (fun st h=> ?_) (fun st h=> ?_)) (fun st=>rfl)
 ·unfold cZ;rw[bt,Nm];simp only;rw[QY h];rfl
 ·unfold cZ;rw[bt,Nm];simp only;rw[QX h,B7 _ he hl,Nm];by_cases hc:lK d p e l=0
  ·rw[QX hc,QX hc];rfl
  ·rw[QY hc,QY hc,dD];rfl
theorem EF (b:Bl) (t p e v:Int) (ht:wI t) (he:wI e):CB (fun st=>(cL st ⟨b,t,p,e⟩ v).bind fun (c,a)=>if c=true then some ((⟨b,t,p,e⟩:bf),a) else some (zB,a)) (if eY b t p e v=0 then .ret ⟨b,t,p,e⟩ else .err (eY b t p e v)) zB:=by
 refine AF (fun st h=> ?_) (fun st h=> ?_)
 ·unfold cL;rw[bt,Nm];simp only;rw[QY h];rfl
 ·unfold cL ir;rw[bt,Nm];simp only;rw[QX h,xF _ _ he ht,Nm,Nm];by_cases hc:eY b t p e v=0
  ·rw[QX hc,QX hc];rfl
  ·rw[QY hc,QY hc,dD];rfl
theorem B_beg0 (v:Int) (hv: ¬ v>0):CB (fun st=>eO st v) (zt v) zB:=by
 refine CB.congr (CB.bind (fun _=>True) QF2.cb (fun _ _ _ _ _ _ _=>trivial) trivial fun b _=>CB.bind wI Q4.cb (ra QS QS) wi0 fun t ht=>EF b t (-1) (-1) v ht wim) (fun st=> ?_);unfold eO;simp only[QY hv,Nm];rfl
theorem B_beg1 (v:Int) (hv:v>0):CB (fun st=>eO st v) (xG v) zB:=by
 refine CB.congr (CB.bind (fun _=>True) QF2.cb (fun _ _ _ _ _ _ _=>trivial) trivial fun b _=>CB.bind wI Q4.cb (ra QS QS) wi0 fun t ht=>CB.bind wI Q8.cb (ra QS QS) wi0 fun p hp=>CB.bind wI Q2.cb (ra QS QS) wi0 fun e he=>EF b t p e v ht he) (fun st=> ?_);unfold eO;simp only[QX hv,Option.bind_assoc,Nm];rfl
theorem DE {l:List Top} (h:wTs l<=1000000):l.length<=1000000/\ ∀ t,t∈l->t.My.length<=1000000/\t.MI.length<=1000000:=by
 have:=rr l;refine⟨by omega,fun t ht=> ?_⟩;have:=tB _ _ ht;unfold wT at this;omega
def zu (d:AI):AI:=be (d.length:Int) 2++d
def n8 (l:List Top):AI:=be (l.length:Int) 4++bJ pc l
def encE (x:bP):AI:=zu x.MD++(be x.Mx 8++(be x.Mz 2++mO x.MU))
def F9 (x:bQ):AI:=zu x.MD++(be x.Mx 8++(be x.Mz 2++n8 x.Mw))
def zw (b:Bl):AI:=be (fd b) 2++b.data
def EG (x:bf):AI:=zw x.MD++be x.MC 4
def EH (x:bf):AI:=zw x.MD++(be x.MC 4++(be x.Mx 8++be x.Mz 2))
def okTx (d:AI):Prop:=bA (d.length:Int) 2=true/\bw ⟨false,d⟩=true
def okFx (b:Bl):Prop:=bA (fd b) 2=true/\bw b=true
def yP (l:List Top):Prop:=bA (l.length:Int) 4=true/\ ∀ t,t∈l->okT t
abbrev spI (k:Nat) (h1:1<=k:=by decide) (h8:k<=8:=by decide):=bX k h1 h8
theorem DF:Sp rW encE (fun x=>okTx x.MD/\bA x.Mx 8=true/\bA x.Mz 2=true/\lJ x.MD x.Mx x.Mz=0):=by
 refine Sp.congr (Sp.seq (β:=bP) (π:=(·.MD)) (ok2:=fun x:bP=>bA x.Mx 8=true/\bA x.Mz 2=true/\lJ x.MD x.Mx x.Mz=0) ld fun d =>
  Sp.congr (Sp.seq (β:=bP) (π:=(·.Mx)) (ok2:=fun x:bP=>bA x.Mz 2=true/\lJ d x.Mx x.Mz=0/\x.MD=d) (spI 8) fun p =>
  Sp.congr (Sp.seq (β:=bP) (π:=(·.Mz)) (ok2:=fun x:bP=>lJ d p x.Mz=0/\x.MD=d/\x.Mx=p) (spI 2) fun e =>
  Sp.congr (Sp.seq (β:=bP) (π:=(·.MU)) (ok2:=fun x:bP=>lJ d p e=0/\x.MD=d/\x.Mx=p/\x.Mz=e) wu fun c =>
  (xu (β:=bP) _ _ _).congr (ok':=fun x:bP=>(lJ d p e=0/\x.MD=d/\x.Mx=p/\x.Mz=e)/\x.MU=c) (fun x=> ?_) (fun _ _=>rfl)) (fun x=> ?_) (fun _ _=>rfl)) (fun x=> ?_) (fun _ _=>rfl)) (fun x=> ?_) (fun _ _=>rfl)) (fun x=> ?_) (fun x _=>by simp only[encE,zu,NQ])
 ·obtain⟨a1,a2,a3,a4⟩:=x;simp only[bP.mk.injEq];exact⟨fun ⟨h,b,a,f,i⟩=>⟨⟨h,b,a,f⟩,i⟩,fun ⟨⟨h,b,a,f⟩,i⟩=>⟨h,b,a,f,i⟩⟩
 ·exact⟨fun ⟨_,h,b,a,f⟩=>⟨⟨by rw[f]; exact h,b,a⟩,f⟩,fun ⟨⟨h,b,a⟩,f⟩=>⟨trivial,by rw[<- f]; exact h,b,a,f⟩⟩
 ·exact⟨fun ⟨g,h,b,a⟩=>⟨⟨g,by rw[a]; exact h,b⟩,a⟩,fun ⟨⟨g,h,b⟩,a⟩=>⟨g,by rw[<- a]; exact h,b,a⟩⟩
 ·exact⟨fun ⟨g,h,b,a⟩=>⟨⟨g,h,by rw[a]; exact b⟩,a⟩,fun ⟨⟨g,h,b⟩,a⟩=>⟨g,h,by rw[<- a]; exact b,a⟩⟩
 ·exact Iff.rfl
theorem DG:Sp rX F9 (fun x=>okTx x.MD/\bA x.Mx 8=true/\bA x.Mz 2=true/\yP x.Mw/\lK x.MD x.Mx x.Mz x.Mw=0):=by
 refine Sp.congr (Sp.seq (β:=bQ) (π:=(·.MD)) (ok2:=fun x:bQ=>bA x.Mx 8=true/\bA x.Mz 2=true/\yP x.Mw/\lK x.MD x.Mx x.Mz x.Mw=0) ld fun d =>
  Sp.congr (Sp.seq (β:=bQ) (π:=(·.Mx)) (ok2:=fun x:bQ=>bA x.Mz 2=true/\yP x.Mw/\lK d x.Mx x.Mz x.Mw=0/\x.MD=d) (spI 8) fun p =>
  Sp.congr (Sp.seq (β:=bQ) (π:=(·.Mz)) (ok2:=fun x:bQ=>yP x.Mw/\lK d p x.Mz x.Mw=0/\x.MD=d/\x.Mx=p) (spI 2) fun e =>
  Sp.congr (Sp.seq (β:=bQ) (π:=(·.Mw)) (ok2:=fun x:bQ=>lK d p e x.Mw=0/\x.MD=d/\x.Mx=p/\x.Mz=e) ky fun l =>
  (xu (β:=bQ) _ _ _).congr (ok':=fun x:bQ=>(lK d p e x.Mw=0/\x.MD=d/\x.Mx=p/\x.Mz=e)/\x.Mw=l) (fun x=> ?_) (fun _ _=>rfl)) (fun x=> ?_) (fun _ _=>rfl)) (fun x=> ?_) (fun _ _=>rfl)) (fun x=> ?_) (fun _ _=>rfl)) (fun x=> ?_) (fun x _=>by simp only[F9,zu,n8,NQ])
 ·obtain⟨a1,a2,a3,a4⟩:=x;simp only[bQ.mk.injEq];exact⟨fun ⟨h,b,a,f,g⟩=>⟨⟨by rw[g]; exact h,b,a,f⟩,g⟩,fun ⟨⟨h,b,a,f⟩,g⟩=>⟨by rw[<- g]; exact h,b,a,f,g⟩⟩
 ·exact⟨fun ⟨c,h,b,a,f⟩=>⟨⟨c,by rw[f]; exact h,b,a⟩,f⟩,fun ⟨⟨c,h,b,a⟩,f⟩=>⟨c,by rw[<- f]; exact h,b,a,f⟩⟩
 ·exact⟨fun ⟨c,hk,h,b,a⟩=>⟨⟨c,hk,by rw[a]; exact h,b⟩,a⟩,fun ⟨⟨c,hk,h,b⟩,a⟩=>⟨c,hk,by rw[<- a]; exact h,b,a⟩⟩
 ·exact⟨fun ⟨c,h,hk,b,a⟩=>⟨⟨c,h,hk,by rw[a]; exact b⟩,a⟩,fun ⟨⟨c,h,hk,b⟩,a⟩=>⟨c,h,hk,by rw[<- a]; exact b,a⟩⟩
 ·exact Iff.rfl
theorem JY (v:Int):Sp (xG v) EH (fun x=>okFx x.MD/\bA x.MC 4=true/\bA x.Mx 8=true/\bA x.Mz 2=true/\eY x.MD x.MC x.Mx x.Mz v=0):=by
 refine Sp.congr (Sp.seq (β:=bf) (π:=(·.MD)) (ok2:=fun x:bf=>bA x.MC 4=true/\bA x.Mx 8=true/\bA x.Mz 2=true/\eY x.MD x.MC x.Mx x.Mz v=0) (eJ 2 QS QS) fun b =>
  Sp.congr (Sp.seq (β:=bf) (π:=(·.MC)) (ok2:=fun x:bf=>bA x.Mx 8=true/\bA x.Mz 2=true/\eY b x.MC x.Mx x.Mz v=0/\x.MD=b) (spI 4) fun t =>
  Sp.congr (Sp.seq (β:=bf) (π:=(·.Mx)) (ok2:=fun x:bf=>bA x.Mz 2=true/\eY b t x.Mx x.Mz v=0/\x.MD=b/\x.MC=t) (spI 8) fun p =>
  Sp.congr (Sp.seq (β:=bf) (π:=(·.Mz)) (ok2:=fun x:bf=>eY b t p x.Mz v=0/\x.MD=b/\x.MC=t/\x.Mx=p) (spI 2) fun e =>
  (xu (β:=bf) _ _ _).congr (ok':=fun x:bf=>(eY b t p x.Mz v=0/\x.MD=b/\x.MC=t/\x.Mx=p)/\x.Mz=e) (fun x=> ?_) (fun _ _=>rfl)) (fun x=> ?_) (fun _ _=>rfl)) (fun x=> ?_) (fun _ _=>rfl)) (fun x=> ?_) (fun _ _=>rfl)) (fun x=> ?_) (fun x _=>by simp only[EH,zw,NQ])
 ·obtain⟨a1,a2,a3,a4⟩:=x;simp only[bf.mk.injEq];exact⟨fun ⟨h,c,a,f,g⟩=>⟨⟨by rw[g]; exact h,c,a,f⟩,g⟩,fun ⟨⟨h,c,a,f⟩,g⟩=>⟨by rw[<- g]; exact h,c,a,f,g⟩⟩
 ·exact⟨fun ⟨d,h,c,a,f⟩=>⟨⟨d,by rw[f]; exact h,c,a⟩,f⟩,fun ⟨⟨d,h,c,a⟩,f⟩=>⟨d,by rw[<- f]; exact h,c,a,f⟩⟩
 ·exact⟨fun ⟨d,hk,h,c,a⟩=>⟨⟨d,hk,by rw[a]; exact h,c⟩,a⟩,fun ⟨⟨d,hk,h,c⟩,a⟩=>⟨d,hk,by rw[<- a]; exact h,c,a⟩⟩
 ·exact⟨fun ⟨d,h,hk,c,a⟩=>⟨⟨d,h,hk,by rw[a]; exact c⟩,a⟩,fun ⟨⟨d,h,hk,c⟩,a⟩=>⟨d,h,hk,by rw[<- a]; exact c,a⟩⟩
 ·exact Iff.rfl
theorem JZ (v:Int):Sp (zt v) EG (fun x=>okFx x.MD/\bA x.MC 4=true/\eY x.MD x.MC x.Mx x.Mz v=0/\x.Mx= -1/\x.Mz= -1):=by
 refine Sp.congr (Sp.seq (β:=bf) (π:=(·.MD)) (ok2:=fun x:bf=>bA x.MC 4=true/\eY x.MD x.MC (-1) (-1) v=0/\x.Mx= -1/\x.Mz= -1) (eJ 2 QS QS) fun b =>
  Sp.congr (Sp.seq (β:=bf) (π:=(·.MC)) (ok2:=fun x:bf=>eY b x.MC (-1) (-1) v=0/\x.MD=b/\x.Mx= -1/\x.Mz= -1) (spI 4) fun t =>
  (xu (β:=bf) _ _ _).congr (ok':=fun x:bf=>(eY b x.MC (-1) (-1) v=0/\x.MD=b/\x.Mx= -1/\x.Mz= -1)/\x.MC=t) (fun x=> ?_) (fun _ _=>rfl)) (fun x=> ?_) (fun _ _=>rfl)) (fun x=> ?_) (fun x _=>by simp only[EG,zw,NQ])
 ·obtain⟨a1,a2,a3,a4⟩:=x;simp only[bf.mk.injEq];exact⟨fun ⟨h,c,a,d,f⟩=>⟨⟨by rw[a]; exact h,c,d,f⟩,a⟩,fun ⟨⟨h,c,d,f⟩,a⟩=>⟨by rw[<- a]; exact h,c,a,d,f⟩⟩
 ·exact⟨fun ⟨e,h,c,a,d⟩=>⟨⟨e,by rw[c]; exact h,a,d⟩,c⟩,fun ⟨⟨e,h,a,d⟩,c⟩=>⟨e,by rw[<- c]; exact h,c,a,d⟩⟩
 ·exact⟨fun ⟨e,h,c,a,d⟩=>⟨e,h,by rw[a,d]; exact c,a,d⟩,fun ⟨e,h,c,a,d⟩=>⟨e,h,by rw[a,d] at c; exact c,a,d⟩⟩
theorem sF {d:AI} (h:et d=true):d.length<=32767/\d ≠ []:=by
 unfold et at h;simp only[Bool.and_eq_true,decide_eq_true_eq,Bool.not_eq_true'] at h;refine⟨by omega,fun a=> ?_⟩;rw[a] at h;exact absurd h.1 QS
theorem xH {p e:Int} (h:who p e=true) (hp:wI p):bA p 8=true/\bA e 2=true:=by
 unfold who at h;have h:=of_decide_eq_true h;exact⟨by rw[H6]; exact Nn hp,by rw[xE]; exact Nn QR⟩
theorem EI (t:AI) (b:Bool) (ht:t.length<=1000000):iM (t,0) b=some (t++mO b,0):=by
 unfold iM
 cases b with
 | true =>
  rw[QX rfl,tW _ _ ⟨by decide,by decide,by simp only; omega⟩];rfl
 | false =>
  rw[QY QS,tW _ _ ⟨by decide,by decide,by simp only; omega⟩];rfl
theorem AK (t:AI) (e:Int):kg (t,0) e=some (if e=0 then (false,(t,0)) else (true,(t,e))):=by
 unfold kg;by_cases h:e=0
 ·rw[QX h,QX h,Nm,QX h]
 ·rw[QY h,QY h,tU,Nm,Nm,QY h];rfl
theorem Ib (x:bP) (t:AI) (hp:wI x.Mx) (he:wI x.Mz) (ht:t.length<=900000):jm (t,0) x=some (if lJ x.MD x.Mx x.Mz=0 then (t++encE x,0) else (t,lJ x.MD x.Mx x.Mz)):=by
 unfold jm iq;rw[B6 x he,Nm,AK,Nm];by_cases hc:lJ x.MD x.Mx x.Mz=0
 ·rw[QX hc,QX hc,Nm];simp only;have hk:et x.MD=true:=by
   unfold lJ at hc;split at hc
   ·rename_i h; exact h
   ·exact absurd hc QS
  have hw:who x.Mx x.Mz=true:=by
   unfold lJ at hc;rw[QX hk] at hc;split at hc
   ·rename_i h; exact h
   ·exact absurd hc QS
  obtain⟨a,_⟩:=sF hk;obtain⟨b,c⟩:=xH hw hp;rw[QY QS,sE a QR,Nm,es b (by simp only[Nr,aH]; omega),Nm,es c (by simp only[Nr,aH]; omega),Nm,EI _ _ (by simp only[Nr,aH]; omega),Nm];simp only[encE,zu,Ny];rfl
 ·rw[QY hc,QY hc,Nm];rfl
theorem Ga {l:List Top} (h:tC l=0):l ≠ []/\pO l=true:=by
 unfold tC at h;split at h
 ·exact absurd h QS
 ·rename_i a;split at h
  ·rename_i b;exact⟨fun c=>a (by rw[c]; rfl),b⟩
  ·exact absurd h QS
theorem Gb {d:AI} {p e:Int} {l:List Top} (hc:lK d p e l=0):et d=true/\who p e=true/\tC l=0:=by
 unfold lK at hc;split at hc
 ·rename_i a;split at hc
  ·rename_i b; exact⟨a,b,hc⟩
  ·exact absurd hc QS
 ·exact absurd hc QS
theorem Ic (x:bQ) (t:AI) (hp:wI x.Mx) (he:wI x.Mz) (hl:wTl x.Mw) (hw2:wTs x.Mw<=3000) (ht:t.length<=700000):jl (t,0) x=some (if lK x.MD x.Mx x.Mz x.Mw=0 then (t++F9 x,0) else (t,lK x.MD x.Mx x.Mz x.Mw)):=by
 unfold jl ip;rw[B7 x he hl,Nm,AK,Nm];by_cases hc:lK x.MD x.Mx x.Mz x.Mw=0
 ·rw[QX hc,QX hc,Nm];simp only;obtain⟨hk,hw,hr⟩:=Gb hc;obtain⟨a,_⟩:=sF hk;obtain⟨b,c⟩:=xH hw hp
  rw[QY QS,sE a QR,Nm,es b (by simp only[Nr,aH]; omega),Nm,es c (by simp only[Nr,aH]; omega),Nm,
   xD x.Mw _ (JX (Ga hr).2 hw2) (by simp only[Nr,aH]; omega) hw2,Nm]
  simp only[F9,zu,n8,Ny];rfl
 ·rw[QY hc,QY hc,Nm];rfl
theorem DH {b:Bl} {t p e v:Int} (hc:eY b t p e v=0):bw b=true/\(b.null=true\/et b.data=true)/\(0<=t/\t<=2147483647)/\(p= -1/\e= -1\/v>0/\who p e=true):=by
 unfold eY at hc;split at hc
 ·rename_i a;split at hc
  ·rename_i c;simp only[Bool.and_eq_true,Bool.or_eq_true,tmB,B5,decide_eq_true_eq] at a c;exact⟨a.1,a.2,c.1,c.2⟩
  ·exact absurd hc QS
 ·exact absurd hc QS
theorem J0 {b:Bl} (hb:bw b=true) (h:b.null=true\/et b.data=true):bA (fd b) 2=true/\b.data.length<=32767:=by
 unfold fd;rcases h with h | h
 ·have:b.data = []:=by unfold bw at hb; rw[h] at hb; simpa using hb
  rw[QX h,this];exact⟨by decide,by decide⟩
 ·obtain⟨a,_⟩:=sF h;refine⟨?_,a⟩;split
  ·decide
  ·rw[xE]; exact Nn QR
def Gc (v:Int) (x:bf):AI:=if v>0 then EH x else EG x
theorem xI (x:bf) (v:Int) (t:AI) (hp:wI x.Mx) (he:wI x.Mz) (hm:wI x.MC) (ht:t.length<=900000):gS (t,0) x v=some (if eY x.MD x.MC x.Mx x.Mz v=0 then (t++Gc v x,0) else (t,eY x.MD x.MC x.Mx x.Mz v)):=by
 unfold gS;rw[xF x v he hm,Nm,AK,Nm];by_cases hc:eY x.MD x.MC x.Mx x.Mz v=0
 ·rw[QX hc,QX hc];simp only;obtain⟨b,c,h,a⟩:=DH hc;obtain⟨d,i⟩:=J0 b c;have e:bA x.MC 4=true:=by rw[iO]; exact Nn QR
  have f:bA x.Mx 8=true:=by rw[H6]; exact Nn hp
  have g:bA x.Mz 2=true:=by
   rcases a with a | a
   ·rw[a.2]; decide
   ·exact (xH a.2 hp).2
  rw[QY QS,kw d b QR,Nm,es e (by simp only[Nr,aH]; omega),Nm];unfold Gc;by_cases hv:v>0
  ·rw[QX hv,QX hv,es f (by simp only[Nr,aH]; omega),Nm,es g (by simp only[Nr,aH]; omega),Nm,Nm];simp only[EH,zw,Ny];rfl
  ·rw[QY hv,QY hv,Nm];simp only[EG,zw,Ny];rfl
 ·rw[QY hc,QY hc];rfl
theorem zx (b:Bl):ku b=some (!b.null && et b.data):=by
 unfold ku
 cases hb:b.null with
 | true=>rfl
 | false =>
  rw[QY QS];unfold et;by_cases a:(b.data.length:Int)>=1
  ·rw[QX a];have:b.data.isEmpty=false:=by cases hd:b.data with | nil=>rw[hd] at a; exact absurd a QS | cons c l=>rfl
   by_cases d:(b.data.length:Int)<=32767
   ·rw[QX d,this,Nn d];rfl
   ·rw[QY d,this,Np d];rfl
  ·rw[QY a];have:b.data = []:=List.eq_nil_of_length_eq_zero QR;rw[this];rfl
theorem EJ (r:aL):lC r=some (who r.Mx r.Mz):=by
 unfold lC who;by_cases a:r.Mx>=0
 ·rw[QX a];by_cases b:r.Mz>=0
  ·rw[QX b];by_cases c:r.Mz<=32767
   ·rw[QX c,Nn QR];rfl
   ·rw[QY c,Np QR];rfl
  ·rw[QY b,Np QR];rfl
 ·rw[QY a,Np QR];rfl
def Gd (k v:Int) (r:aL):Int:=if k=22 then eY r.MD r.MC r.Mx r.Mz v else if k=24 then lK r.MD.data r.Mx r.Mz r.Mw else lJ r.MD.data r.Mx r.Mz
theorem rt (k v:Int) (hv:v=0\/v=1) (r:aL) (hn:k≠22->r.MD.null=false) (hl:r.Mw.length<=1000000) (hx: ∀ t,t∈r.Mw->t.My.length<=1000000/\t.MI.length<=1000000):fL k v r=some (Gd k v r):=by
 unfold fL Gd;by_cases hk:k=22
 ·rw[QX hk,QX hk,zx,EJ];unfold eY;have h:(if r.MD.null=true then (if r.MD.data = [] then some false else some true) else ((some (!r.MD.null && et r.MD.data)).bind fun d=>if d=true then some false else some true))=some (!(bw r.MD && (r.MD.null || et r.MD.data))):=by
   unfold bw
   cases r.MD.null with
   | true =>
    rw[QX rfl];by_cases hd:r.MD.data = []
    ·rw[QX hd,hd]; rfl
    ·rw[QY hd];simp[hd]
   | false=>cases et r.MD.data <;> rfl
  have i:(if r.MC<0 then some true else (if r.MC>2147483647 then some true else some false))=some (!tmB r.MC):=by
   unfold tmB;by_cases a:r.MC<0
   ·rw[QX a,Np QR]; rfl
   ·rw[QY a];by_cases b:r.MC>2147483647
    ·rw[QX b,Np QR]; rfl
    ·rw[QY b,Nn QR]; rfl
  have j:(if r.Mx=(-1) then (if r.Mz=(-1) then some true else (if v=1 then ((some (who r.Mx r.Mz)).bind fun e=>some e) else some false)) else (if v=1 then ((some (who r.Mx r.Mz)).bind fun f=>some f) else some false))=some (B5 r.Mx r.Mz || (decide (v>0) && who r.Mx r.Mz)):=by
   unfold B5;rcases hv with rfl | rfl
   ·by_cases a:r.Mx= -1 <;> by_cases b:r.Mz= -1 <;> simp[a,b]
   ·by_cases a:r.Mx= -1 <;> by_cases b:r.Mz= -1 <;> simp[a,b]
  rw[h,i,j];cases (bw r.MD && (r.MD.null || et r.MD.data)) <;> cases tmB r.MC <;> cases (B5 r.Mx r.Mz || (decide (v>0) && who r.Mx r.Mz)) <;> rfl
 ·rw[QY hk,QY hk,zx,EJ,hn hk];simp only[Bool.not_false,Bool.true_and];by_cases c:k=24
  ·rw[QX c,QX c,QX c,EE _ hl hx];unfold lK tC;by_cases g:r.Mw.length=0
   ·rw[QX QR,QX g];cases et r.MD.data <;> cases who r.Mx r.Mz <;> rfl
   ·rw[QY QR,QY g];cases et r.MD.data <;> cases who r.Mx r.Mz <;> cases pO r.Mw <;> rfl
  ·rw[QY c,QY c,QY c];unfold lJ;cases et r.MD.data <;> cases who r.Mx r.Mz <;> rfl
def gE (x:bP):aL:=⟨⟨false,x.MD⟩,0,x.Mx,x.Mz,[],x.MU⟩
def gA (x:bQ):aL:=⟨⟨false,x.MD⟩,0,x.Mx,x.Mz,x.Mw,false⟩
def gB (x:bf):aL:=⟨x.MD,x.MC,x.Mx,x.Mz,[],false⟩
def Pr.map {α β:Type} (g:α->β) (p:Pr α):Pr β:=p.bind fun x=> .ret (g x)
theorem Sp.map {α β:Type} {p:Pr α} {enc:α->AI} {ok:α->Prop} (g:α->β) (g':β->α) (hg: ∀ x,g' (g x)=x) (h:Sp p enc ok):Sp (p.map g) (fun y=>enc (g' y)) (fun y=>ok (g' y)/\g (g' y)=y):=by
 refine⟨fun s q y r hq hp=> ?_,fun s t q y hq hy hd=> ?_⟩
 ·obtain⟨x,m,b,a⟩:=Pr.bind_ok hp;injection a with a;obtain⟨rfl,rfl⟩:=NU a;obtain⟨a1,a2,a3,a4,a5⟩:=h.spell s q x m hq b;rw[hg x];exact⟨a1,a2,a3,a4,a5,rfl⟩
 ·have:=h.back s t q (g' y) hq hy.1 hd;rw[Pr.map,Pr.bind_of this,hy.2];rfl
def lL (k v:Int):Pr aL:=if k=22 then (if v>0 then (xG v).map gB else (zt v).map gB) else if k=24 then rX.map gA else rW.map gE
def zR:aL:=⟨⟨false,[]⟩,0,0,0,[],false⟩
noncomputable instance decTop:DecidableEq Top:=fun a b=>Classical.propDecidable (a=b)
theorem xJ: ∀ (l m:List Top),ki l m=decide (l=m)
 | [],[]=>rfl
 | [],b::m=>by simp[ki]
 | a::l,[]=>by simp[ki]
 | a::l,b::m=>by
  rw[ki,xJ l m];obtain⟨a1,a2⟩:=a;obtain⟨c,d⟩:=b;unfold BW;simp only;by_cases e:a1=c <;> by_cases f:a2=d <;> by_cases g:l=m <;> simp[e,f,g]
noncomputable instance decMark:DecidableEq aU:=fun a b=>Classical.propDecidable (a=b)
def toR (m:aU):bN:=⟨m.Mx,m.Mz,m.MU,m.Mw,m.MJ⟩
theorem EK: ∀ (l:List aU) (acc:List bN),acc.length+l.length<=1000000->hU l acc=some (acc++l.map toR)
 | [],acc,_=>by rw[hU]; simp
 | m::l,acc,h=>by
  rw[NB] at h;rw[hU,QX QR,EK l _ (by rw[Nr,OA]; omega),List.map_cons,Ny];rfl
theorem of_eq (l:List aU) (h:l.length<=1000000):qJ l=some (l.map toR):=by
 unfold qJ;rw[EK l [] (by simpa using h)];rfl
def B8 (v:Int) (m:aU):Int:=if (who m.Mx m.Mz && (tmB m.MJ && !(decide (v=0) && decide (m.MJ≠0))))=true then tC m.Mw else 11
def oh (v:Int):List aU->Int
 | []=>0
 | m::l=>if B8 v m=0 then oh v l else B8 v m
def pd (v:Int) (l:List aU):Int:=if l.length=0 then 10 else oh v l
def okW (m:aU):Prop:=wI m.Mz/\wI m.MJ/\wTl m.Mw
theorem Ge (v:Int) (m:aU) (h:okW m):gV m v=some (B8 v m):=by
 obtain⟨f,g,i⟩:=h;unfold gV B8;rw[AJ _ _ f,B0 _ i,Nm];have hc:(if m.MJ<0 then some true else ((jG m.MJ 4).bind fun e=>if e=true then (if v=0 then (if m.MJ>0 then some true else some false) else some false) else some true))=some (!(tmB m.MJ && !(decide (v=0) && decide (m.MJ≠0)))):=by
  unfold tmB;by_cases a:m.MJ<0
  ·rw[QX a,Np QR]; rfl
  ·rw[QY a,gb _ _ g,iO,Nm];by_cases b:m.MJ<=2147483647
   ·rw[QX (Nn QR),Nn QR];by_cases c:v=0
    ·rw[QX c,Nn c];by_cases d:m.MJ>0
     ·rw[QX d,Nn QR]; rfl
     ·rw[QY d,Np QR]; rfl
    ·rw[QY c,Np c]; rfl
   ·rw[QY (by simp; omega),Np QR]; rfl
 rw[hc];cases who m.Mx m.Mz <;> cases (tmB m.MJ && !(decide (v=0) && decide (m.MJ≠0))) <;> rfl
theorem vt (v:Int) (y:Int): ∀ l:List aU,(∀ m,m∈l->okW m)->fu v l y=some (if oh v l=0 then .go y else .ret (oh v l))
 | [],_=>rfl
 | m::l,h=>by
  rw[fu,Ge v m (h m (.head _)),Nm,oh];by_cases hc:B8 v m=0
  ·rw[QX hc,QX hc,vt v y l (fun z hz=>h z (.tail _ hz))]
  ·rw[QY hc,QY hc,QY hc]
theorem Id (v:Int) (l:List aU) (h: ∀ m,m∈l->okW m):jC l v=some (pd v l):=by
 unfold jC pd;by_cases a:l.length=0
 ·rw[QX QR,QX a]
 ·rw[QY QR,QY a,vt v 0 l h];by_cases hc:oh v l=0
  ·rw[QX hc,hc]; rfl
  ·rw[QY hc]; rfl
theorem J1 (v:Int) (m:aU) (hl:m.Mw.length<=1000000) (hx: ∀ t,t∈m.Mw->t.My.length<=1000000/\t.MI.length<=1000000):oZ (toR m) v=some (B8 v m):=by
 unfold oZ B8;rw[EE (toR m).Mw hl hx];have hc0:(if m.Mx<0 then some true else (if m.Mz<0 then some true else (if m.Mz>32767 then some true else (if m.MJ<0 then some true else (if m.MJ>2147483647 then some true else (if v=0 then (if m.MJ=0 then some false else some true) else some false))))))=some (!(who m.Mx m.Mz && (tmB m.MJ && !(decide (v=0) && decide (m.MJ≠0))))):=by
  unfold who tmB;by_cases a:m.Mx<0
  ·rw[QX a,Np (p:=0<=m.Mx/\ _) QR]; rfl
  rw[QY a];by_cases b:m.Mz<0
  ·rw[QX b,Np (p:=0<=m.Mx/\ _) QR]; rfl
  rw[QY b];by_cases c:m.Mz>32767
  ·rw[QX c,Np (p:=0<=m.Mx/\ _) QR]; rfl
  rw[QY c,Nn (p:=0<=m.Mx/\ _) QR];by_cases d:m.MJ<0
  ·rw[QX d,Np (p:=0<=m.MJ/\ _) QR]; rfl
  rw[QY d];by_cases e:m.MJ>2147483647
  ·rw[QX e,Np (p:=0<=m.MJ/\ _) QR]; rfl
  rw[QY e,Nn (p:=0<=m.MJ/\ _) QR];by_cases f:v=0
  ·by_cases g:m.MJ=0
   ·simp[f,g]
   ·simp[f,g]
  ·simp[f]
 have hc:(if (toR m).Mx<0 then some true else (if (toR m).Mz<0 then some true else (if (toR m).Mz>32767 then some true else (if (toR m).MJ<0 then some true else (if (toR m).MJ>2147483647 then some true else (if v=0 then (if (toR m).MJ=0 then some false else some true) else some false))))))=some (!(who m.Mx m.Mz && (tmB m.MJ && !(decide (v=0) && decide (m.MJ≠0))))):=hc0;rw[hc];have ht:(toR m).Mw=m.Mw:=rfl;rw[ht];unfold tC;by_cases h:m.Mw.length=0
 ·rw[QX h,QX (show (m.Mw.length:Int)=0 by omega)];cases (who m.Mx m.Mz && (tmB m.MJ && !(decide (v=0) && decide (m.MJ≠0)))) <;> rfl
 ·rw[QY h,QY (show ¬ (m.Mw.length:Int)=0 by omega)];cases (who m.Mx m.Mz && (tmB m.MJ && !(decide (v=0) && decide (m.MJ≠0)))) <;> cases pO m.Mw <;> rfl
def okL (m:aU):Prop:=m.Mw.length<=1000000/\ ∀ t,t∈m.Mw->t.My.length<=1000000/\t.MI.length<=1000000
theorem rY (a:List bN) (v:Int) (hb:a.length<=1000000) (y:Int): ∀ (l:List aU) (k fuel:Nat),a.drop k=l.map toR->l.length<fuel->(∀ m,m∈l->okL m)-> ∃ z,ff a v fuel y k=some (if oh v l=0 then .go (y,z) else .ret (oh v l))
 | [],k,fuel+1,h,_,_=>by
  have:=gx h;exact⟨k,by rw[ff,QY QR]; rfl⟩
 | m::l,k,fuel+1,h,hf,ho=>by
  obtain⟨b,c,d⟩:=ec h;rw[NB] at hf;have hm:=ho m (.head _);obtain⟨z,hz⟩:=rY a v hb y l (k+1) fuel c QR (fun z hz=>ho z (.tail _ hz));rw[ff,QX QR,b,Nm,J1 v m hm.1 hm.2,Nm,oh];by_cases hc:B8 v m=0
  ·rw[QX hc,QX QR,QX hc];exact⟨z,hz⟩
  ·rw[QY hc,QY hc];exact⟨0,by rw[QY hc]⟩
theorem Gf (v:Int) (l:List aU) (hb:l.length<=1000000) (ho: ∀ m,m∈l->okL m):l9 (l.map toR) v=some (pd v l):=by
 unfold l9 pd;rw[N2];by_cases a:l.length=0
 ·rw[QX QR,QX a]
 ·obtain⟨z,hz⟩:=rY (l.map toR) v (by rw[N2]; omega) 0 l 0 ((l.length:Int).toNat+1) (List.drop_zero) QR ho;rw[QY QR,QY a,hz];by_cases hc:oh v l=0
  ·rw[QX hc,hc]; rfl
  ·rw[QY hc]; rfl
def kz (v:Int):Pr aU:=(bT 8).bind fun p=>(bT 2).bind fun e=>le.bind fun c=>rV.bind fun l=>(if v>0 then bT 4 else .ret 0).bind fun k=> .ret ⟨p,e,c,l,k⟩
def nB (v:Int) (m:aU):AI:=be m.Mx 8++(be m.Mz 2++(mO m.MU++(n8 m.Mw++(if v>0 then be m.MJ 4 else []))))
def okM (v:Int) (m:aU):Prop:=bA m.Mx 8=true/\bA m.Mz 2=true/\yP m.Mw/\(if v>0 then bA m.MJ 4=true else m.MJ=0)
theorem Sp_co (v:Int):Sp (if v>0 then bT 4 else Pr.ret 0) (fun k=>if v>0 then be k 4 else []) (fun k=>if v>0 then bA k 4=true else k=0):=by
 by_cases hv:v>0
 ·simp only[QX hv];exact spI 4
 ·simp only[QY hv];exact Hy 0
theorem EL (v:Int):Sp (kz v) (nB v) (okM v):=by
 refine Sp.congr (Sp.seq (β:=aU) (π:=(·.Mx)) (ok2:=fun x:aU=>bA x.Mz 2=true/\yP x.Mw/\(if v>0 then bA x.MJ 4=true else x.MJ=0)) (spI 8) fun p =>
  Sp.congr (Sp.seq (β:=aU) (π:=(·.Mz)) (ok2:=fun x:aU=>yP x.Mw/\(if v>0 then bA x.MJ 4=true else x.MJ=0)/\x.Mx=p) (spI 2) fun e =>
  Sp.congr (Sp.seq (β:=aU) (π:=(·.MU)) (ok2:=fun x:aU=>yP x.Mw/\(if v>0 then bA x.MJ 4=true else x.MJ=0)/\x.Mx=p/\x.Mz=e) wu fun c =>
  Sp.congr (Sp.seq (β:=aU) (π:=(·.Mw)) (ok2:=fun x:aU=>(if v>0 then bA x.MJ 4=true else x.MJ=0)/\x.Mx=p/\x.Mz=e/\x.MU=c) ky fun l =>
  Sp.congr (Sp.seq (β:=aU) (π:=(·.MJ)) (ok2:=fun x:aU=>x.Mx=p/\x.Mz=e/\x.MU=c/\x.Mw=l) (Sp_co v) fun k =>
  (Hy (β:=aU) _).congr (ok':=fun x:aU=>(x.Mx=p/\x.Mz=e/\x.MU=c/\x.Mw=l)/\x.MJ=k) (fun x=> ?_) (fun _ _=>rfl)) (fun x=> ?_) (fun _ _=>rfl)) (fun x=> ?_) (fun _ _=>rfl)) (fun x=> ?_) (fun _ _=>rfl)) (fun x=> ?_) (fun _ _=>rfl)) (fun x=> ?_) (fun x _=>by simp only[nB,n8,NQ])
 ·obtain⟨a1,a2,a3,a4,a5⟩:=x;simp only[aU.mk.injEq];exact⟨fun ⟨h,a,b,d,f⟩=>⟨⟨h,a,b,d⟩,f⟩,fun ⟨⟨h,a,b,d⟩,f⟩=>⟨h,a,b,d,f⟩⟩
 ·exact⟨fun ⟨h,a,b,d,f⟩=>⟨⟨h,a,b,d⟩,f⟩,fun ⟨⟨h,a,b,d⟩,f⟩=>⟨h,a,b,d,f⟩⟩
 ·exact⟨fun ⟨h,a,b,d,f⟩=>⟨⟨h,a,b,d⟩,f⟩,fun ⟨⟨h,a,b,d⟩,f⟩=>⟨h,a,b,d,f⟩⟩
 ·exact⟨fun ⟨_,h,a,b,d⟩=>⟨⟨h,a,b⟩,d⟩,fun ⟨⟨h,a,b⟩,d⟩=>⟨trivial,h,a,b,d⟩⟩
 ·exact⟨fun ⟨h,a,b,d⟩=>⟨⟨h,a,b⟩,d⟩,fun ⟨⟨h,a,b⟩,d⟩=>⟨h,a,b,d⟩⟩
 ·exact Iff.rfl
theorem EM (v:Int) (m:aU) (h:okM v m):15<=(nB v m).length:=by
 have:(mO m.MU).length=1:=aH _ _;simp only[nB,n8,Nr,aH];omega
theorem B9 (v:Int) (m:aU):15+wTs m.Mw<=(nB v m).length/\(nB v m).length<=19+wTs m.Mw:=by
 have:(mO m.MU).length=1:=aH _ _;have a:=lI m.Mw;simp only[nB,n8,Nr,aH,a];split <;> simp only[aH,Ov] <;> omega
def zy (v:Int) (c:I):Option (Option aU×I):=(eu c 8).bind fun (h,d)=>(eu d 2).bind fun (i,e)=>(gF e).bind fun (j,f)=>(dW f).bind fun (k,b)=>(if v>0 then ((eu b 4).bind fun (l,g)=>some (l,g)) else some (0,b)).bind fun (m,a)=>if a.err=0 then some (some ⟨h,i,j,k,m⟩,a) else some (none,a)
theorem B_co (v:Int):CB (fun a=>if v>0 then ((eu a 4).bind fun (c,b)=>some (c,b)) else some (0,a)) (if v>0 then bT 4 else Pr.ret 0) 0:=by
 by_cases hv:v>0
 ·simp only[QX hv];refine CB.congr Q4.cb (fun st=> ?_);cases eu st 4 <;> rfl
 ·simp only[QY hv];exact⟨fun _ _=>rfl,fun s q _ hq=> .inr ⟨0,q,rfl,rfl,N3 _,hq⟩⟩
theorem w_co (v:Int): ∀ (s:AI) (q:Nat) (a:Int) (r:Nat),s.length<=1000000->q<=s.length->(if v>0 then bT 4 else Pr.ret 0) s q= .ok (a,r)->wI a:=by
 intro s q a r hl hq h;by_cases hv:v>0
 ·rw[QX hv] at h;exact ra QS QS s q a r hl hq h
 ·rw[QY hv] at h;injection h with h;rw[<- (NU h).1];exact wi0
theorem J2 (v:Int):CB (zy v) ((kz v).map some) none:=by
 have h:CB (zy v) ((bT 8).bind fun p=>(bT 2).bind fun e=>le.bind fun c=>rV.bind fun l=>(if v>0 then bT 4 else .ret 0).bind fun k=> .ret (some ⟨p,e,c,l,k⟩)) none:=by
  refine CB.congr (CB.bind wI Q8.cb (ra QS QS) wi0 fun p hp=>CB.bind wI Q2.cb (ra QS QS) wi0 fun e he=>CB.bind (fun _=>True) H7 (fun _ _ _ _ _ _ _=>trivial) trivial fun c _=>CB.bind wTl xw DD ⟨(fun t h=>nomatch h),by decide⟩ fun l hl=>CB.bind wI (B_co v) (w_co v) wi0 fun k hk =>
   (?_:CB (fun a:I=>if a.err=0 then some (some (⟨p,e,c,l,k⟩:aU),a) else some ((none:Option aU),a)) (Pr.ret (some (⟨p,e,c,l,k⟩:aU))) none)) (fun st=>rfl)
  exact⟨fun st h=>QY h,fun s q _ hq=> .inr ⟨_,q,rfl,rfl,N3 _,hq⟩⟩
 refine h.pr ?_;funext s q;unfold kz Pr.map Pr.bind
 cases bT 8 s q with
 | error e=>rfl
 | ok x =>
  simp only
  cases bT 2 s x.2 with
  | error e=>rfl
  | ok x =>
   simp only
   cases le s x.2 with
   | error e=>rfl
   | ok x =>
    simp only
    cases rV s x.2 with
    | error e=>rfl
    | ok x =>
     simp only;cases (if v>0 then bT 4 else Pr.ret 0) s x.2 <;> rfl
theorem Pr.map_err {α β:Type} {p:Pr α} {g:α->β} {s:AI} {q:Nat} {e:Int} (h:p.map g s q= .error e):p s q= .error e:=by
 unfold Pr.map Pr.bind at h
 cases hp:p s q with
 | error e' =>
  rw[hp] at h;injection h with h;rw[h]
 | ok x=>rw[hp] at h; exact nomatch h
theorem Pr.map_ok {α β:Type} {p:Pr α} {g:α->β} {s:AI} {q r:Nat} {y:β} (h:p.map g s q= .ok (y,r)): ∃ a,p s q= .ok (a,r)/\y=g a:=by
 unfold Pr.map Pr.bind at h
 cases hp:p s q with
 | error e'=>rw[hp] at h; exact nomatch h
 | ok x =>
  rw[hp] at h;injection h with h;obtain⟨rfl,rfl⟩:=NU h;exact⟨x.1,rfl,rfl⟩
theorem DI {γ:Type} (K:aU->I->Option γ) (D:I->Option γ) (v:Int) (st:I) :
 ((eu st 8).bind fun (i,e)=>(eu e 2).bind fun (j,f)=>(gF f).bind fun (k,g)=>(dW g).bind fun (l,c)=>(if v>0 then ((eu c 4).bind fun (d,b)=>some (d,b)) else some (0,c)).bind fun (n,h)=>(iC h).bind fun (p,a)=>if p=0 then K ⟨i,j,k,l,n⟩ a else D a) =
 (zy v st).bind fun (o,a)=>match o with
  | some m=>K m a
  | none=>D a:=by
 unfold zy
 cases eu st 8 with
 | none=>rfl
 | some x =>
  obtain⟨a1,r⟩:=x;simp only[Nm]
  cases eu r 2 with
  | none=>rfl
  | some x =>
   obtain⟨a2,s⟩:=x;simp only[Nm]
   cases gF s with
   | none=>rfl
   | some x =>
    obtain⟨a3,t⟩:=x;simp only[Nm]
    cases dW t with
    | none=>rfl
    | some x =>
     obtain⟨a4,q⟩:=x;simp only[Nm]
     cases (if v>0 then ((eu q 4).bind fun (d,b)=>some (d,b)) else some (0,q)) with
     | none=>rfl
     | some x =>
      obtain⟨a5,u⟩:=x;simp only[Nm,bt];by_cases he:u.err=0
      ·rw[QX he,QX he,Nm]
      ·rw[QY he,QY he,Nm]
theorem pP (v n:Int) (fuel:Nat) (b acc:List aU) (k:Nat) (st:I) (hk:k<=1000000) (ha:acc.length<=1000000) :
 dy v n (fuel+1) b acc k st=if (k:Int)<n then (zy v st).bind fun (o,a)=>match o with
  | some m=>dy v n fuel b (acc ++ [m]) (k+1) a
  | none=>some (.ret ([],a)) else some (.go (b,acc,k,st)):=by
 rw[dy];by_cases h:(k:Int)<n
 case neg=>rw[QY h,QY h]
 rw[QX h,QX h];refine (DI (fun m a=>if (acc.length+1)*56<=140737488355328 then (if A0 ((k:Int)+1) then dy v n fuel b (acc ++ [m]) (k+1) a else none) else none) (fun a=>some (.ret ([],a))) v st).trans ?_
 cases zy v st with
 | none=>rfl
 | some x =>
  obtain⟨o,s⟩:=x;rw[Nm,Nm]
  cases o with
  | none=>rfl
  | some m =>
   show (if (acc.length+1)*56<=140737488355328 then _ else _)= _;rw[QX QR,QX QR]
theorem xK (v n:Int) (s:AI) (hs:s.length<=1000000) (y:List aU): ∀ (m fuel k:Nat) (acc:List aU) (q:Nat),((k+m:Nat):Int)=n->m<fuel->q<=s.length->acc.length=k->k+m<=1000000 ->
 (∃ e st,dG (kz v) m s q= .error e/\e≠0/\st.err=e/\dy v n fuel y acc k ⟨s.drop q,q,0⟩=some (.ret ([],st)))\/(∃ l r,dG (kz v) m s q= .ok (l,r)/\dy v n fuel y acc k ⟨s.drop q,q,0⟩=some (.go (y,acc++l,k+m,⟨s.drop r,r,0⟩))/\q<=r/\r<=s.length)
 | 0,fuel+1,k,acc,q,hn,hf,hq,ha,hk=>by
  refine .inr ⟨[],q,rfl,?_,N3 _,hq⟩;rw[pP _ _ _ _ _ _ _ QR QR,QY QR,NQ,Nat.add_zero]
 | m+1,fuel+1,k,acc,q,hn,hf,hq,ha,hk=>by
  rw[pP _ _ _ _ _ _ _ QR QR,QX QR];rcases (J2 v).run s q hs hq with⟨e,st,b,c,h,p⟩ | ⟨o,r,b,c,u,t⟩
  ·refine .inl ⟨e,st,?_,by rw[<- h]; exact p,h,?_⟩
   ·rw[dG,Pr.bind_err (Pr.map_err b)]
   ·rw[c];rfl
  ·obtain⟨a,i,rfl⟩:=Pr.map_ok b;have ih:=xK v n s hs y m fuel (k+1) (acc ++ [a]) r QR QR t (by rw[Nr,OA,ha]) QR;rw[c,Nm];simp only;rcases ih with⟨e,st,d,f,j,g⟩ | ⟨l,r',d,f,j,g⟩
   ·exact .inl ⟨e,st,by rw[dG,Pr.bind_of i,Pr.bind_err d],f,j,g⟩
   ·refine .inr ⟨a::l,r',by rw[dG,Pr.bind_of i,Pr.bind_of d]; rfl,?_,by omega,g⟩;rw[f,Ny,show k+1+m=k+(m+1) by omega];rfl
def pMs (v:Int):Pr (List aU):=fR 4 15 (kz v)
def vu (v:Int) (l:List aU):AI:=be (l.length:Int) 4++bJ (nB v) l
theorem EN (v:Int):Sp (pMs v) (vu v) (fun l=>bA (l.length:Int) 4=true/\ ∀ m,m∈l->okM v m):=xr 4 15 QS QS (EL v) (EM v)
def g9 (v:Int):Pr (List aU):=(pMs v).bind fun l=>if pd v l=0 then .ret l else .err (pd v l)
theorem xL (v:Int):Sp (g9 v) (vu v) (fun l=>(bA (l.length:Int) 4=true/\ ∀ m,m∈l->okM v m)/\pd v l=0):=by
 refine Sp.congr (Sp.seq (β:=List aU) (π:=id) (ok2:=fun l:List aU=>pd v l=0) (EN v) fun l=>(xu (β:=List aU) _ _ _).congr (ok':=fun x:List aU=>pd v x=0/\id x=l) (fun x=> ?_) (fun _ _=>rfl)) (fun x=>Iff.rfl) (fun x _=>by rw[NQ]; rfl);exact⟨fun ⟨b,a⟩=>⟨by rw[a]; exact b,a⟩,fun ⟨b,a⟩=>⟨by have a:x=l:=a; rw[<- a]; exact b,a⟩⟩
theorem Ca {l:List Top} (h:yP l) (hw:wTs l<=1000000):wTl l:=by
 have hn:=rr l;refine⟨fun t ht=> ?_,by omega⟩;have hm:=tB _ _ ht;unfold wT at hm;obtain⟨b,c,a⟩:=h.2 t ht;exact⟨by show t.MI.length<= _; omega,by show t.My.length<= _; omega,fun n hn=>d7 (a n hn)⟩
theorem okM_co {v:Int} {m:aU} (h:okM v m):wI m.MJ:=by
 have:=h.2.2.2;split at this
 ·exact d7 this
 ·rw[this]; exact wi0
theorem okM_W {v:Int} {m:aU} (h:okM v m) (hw:wTs m.Mw<=1000000):okW m:=⟨d7 h.2.1,okM_co h,Ca h.2.2.1 hw⟩
theorem uZ (v:Int) (l:List aU) (m:aU) (hm:m∈l):wTs m.Mw<=(vu v l).length:=by
 have a:=mP (enc:=nB v) l m hm;have b:=(B9 v m).1;rw[vu,Nr];omega
theorem Ie (l:AI) (q:Nat) (e:Int):cm ⟨l,q,0⟩ e=some (⟨l,q,e⟩:I):=by rw[dD]; rfl
theorem AL (v:Int):CB (fun st=>gm st v) (g9 v) []:=by
 refine⟨fun st h=> ?_,fun s q hs hq=> ?_⟩
 ·show gm st v= _;unfold gm;rw[nA h ⟨by decide,by decide⟩ ⟨by decide,by decide⟩,Nm];simp only;rw[show ((0:Int).toNat+1)=0+1 from rfl,pP _ _ _ _ _ _ _ QS QS,QY QS,Nm];simp only;rw[bt,Nm];simp only;rw[QY h]
 ·show (∃ e st,g9 v s q= _/\gm _ v= _/\ _/\ _)\/(∃ a r,g9 v s q= _/\gm _ v= _/\ _/\ _);unfold gm;rcases (tz 4 15 QS QS 4 15 rfl rfl QS).run s q hq with⟨e,st,b,c,k,j⟩ | ⟨n,r,b,c,t,o⟩
  ·refine .inl ⟨e,st,?_,?_,k,j⟩
   ·rw[g9,Pr.bind_err (by rw[pMs,fR,Pr.bind_err b])]
   ·rw[c,Nm];simp only;rw[show ((0:Int).toNat+1)=0+1 from rfl,pP _ _ _ _ _ _ _ QS QS,QY QS,Nm];simp only;rw[bt,Nm];simp only;rw[QY j]
  ·obtain⟨u,c2,w,x,y,z⟩:=g8 QS QS hq b;have c2:=c2 QS;rw[c,Nm];simp only;rcases xK v n s hs [] n.toNat (n.toNat+1) 0 [] r QR QR o rfl QR with⟨e,st,d,f,g,i⟩ | ⟨l,r',d,f,g,i⟩
   ·refine .inl ⟨e,st,?_,?_,g,by rw[g]; exact f⟩
    ·rw[g9,Pr.bind_err (by rw[pMs,fR,Pr.bind_of b,d])]
    ·rw[i];rfl
   ·have hms:pMs v s q= .ok (l,r'):=by rw[pMs,fR,Pr.bind_of b,d]
    obtain⟨A,B,C,D,E,p⟩:=(EN v).spell s q l r' hq hms;have hW: ∀ m,m∈l->okW m:=fun m hm=>okM_W (p m hm) (by have:=uZ v l m hm; omega);rw[f,Nm];simp only[NG];rw[bt,Nm];simp only[if_true];rw[Id v l hW,Nm,g9,Pr.bind_of hms];by_cases hc:pd v l=0
    ·rw[QX hc,QX hc];exact .inr ⟨l,r',rfl,rfl,by omega,i⟩
    ·rw[QY hc,QY hc,Ie];exact .inl ⟨pd v l,_,rfl,rfl,rfl,hc⟩
theorem J3 {v:Int} {s:AI} {q:Nat} (h:s.length<q+11):kz v s q= .error 1:=by
 unfold kz;by_cases b:s.length<q+8
 ·rw[Pr.bind_err (j8 b)]
 ·rw[Pr.bind_of (gy (k:=8) QR)];by_cases a:s.length<q+8+2
  ·rw[Pr.bind_err (j8 a)]
  ·rw[Pr.bind_of (gy (k:=2) QR),Pr.bind_err (by rw[le,Pr.bind_err (j8 QR)])]
theorem J4 {s:AI} {q:Nat} {c:UInt8} (hc:s[q]? = some c) (hl:q<s.length):le s q=if (c.toNat:Int)>1 then .error 11 else .ok (decide ((c.toNat:Int)=1),q+1):=by
 have b:bT 1 s q= .ok (sgn c,q+1):=by
  rw[gy QR,bY hc];rfl
 have hcl:=c.toNat_lt;rw[le,Pr.bind_of b];by_cases hg:(c.toNat:Int)>1
 ·have hs1: ¬ sgn c=0/\ ¬ sgn c=1:=by unfold sgn; split <;> omega
  rw[QX hg,QY hs1.1,QY hs1.2];rfl
 ·rw[QY hg];by_cases a:(c.toNat:Int)=1
  ·have:sgn c=1:=by unfold sgn; rw[QX QR]; exact a
   rw[this,Nn a];rfl
  ·have:sgn c=0:=by unfold sgn; rw[QX QR]; omega
   rw[this,Np a];rfl
theorem J5 (s:AI) (hs:s.length<=1000000) (q:Nat) (hq:q<=s.length):(∃ e,rV s q= .error e/\e≠0/\ej (s.drop q)=some ([],0,e))\/(∃ l r,rV s q= .ok (l,q+r)/\q+r<=s.length/\ej (s.drop q)=some (l,(r:Int),0)):=by
 have hsh:=rq.zero (s:=s) (q:=q) hq;rw[xx _ (by rw[Nx]; omega)]
 cases ht:fR 4 6 eQ (s.drop q) 0 with
 | error e =>
  rw[ht] at hsh;exact .inl ⟨e,hsh,BZ (by rw[Nx]; omega) (NH _) ht,rfl⟩
 | ok x =>
  obtain⟨l,r⟩:=x;rw[ht] at hsh;have hr:=(ky.spell _ _ _ _ (NH _) ht).2.1;rw[Nx] at hr;exact .inr ⟨l,r,hsh,by omega,rfl⟩
theorem Cb (v n:Int) (hv:v=0\/v=1) (s:AI) (hs:s.length<=1000000) (y:List bN) (b d:Int): ∀ (m fuel k:Nat) (acc:List bN) (q:Nat),((k+m:Nat):Int)=n->m<fuel->q<=s.length->acc.length=k->k+m<=1000000 ->
 (∃ e,dG (kz v) m s q= .error e/\e≠0/\dB s v n fuel y b d (q:Int) acc k=some (.ret ([],0,e)))\/(∃ l r,dG (kz v) m s q= .ok (l,r)/\dB s v n fuel y b d (q:Int) acc k=some (.go (y,b,d,(r:Int),acc++l.map toR,k+m))/\r<=s.length)
 | 0,fuel+1,k,acc,q,hn,hf,hq,ha,hk=>by
  refine .inr ⟨[],q,rfl,?_,hq⟩;rw[dB,QY QR,List.map_nil,NQ,Nat.add_zero]
 | m+1,fuel+1,k,acc,q,hn,hf,hq,ha,hk=>by
  rw[dB,QX QR,QX QR,dG];by_cases i:(s.length:Int) - (q:Int)<11
  ·rw[QX i,Pr.bind_err (J3 QR)];exact .inl ⟨1,rfl,by decide,rfl⟩
  obtain⟨c,hc⟩: ∃ c,s[q+10]? = some c:=⟨_,List.getElem?_eq_getElem QR⟩;have B:((q:Int)+8).toNat=q+8:=by omega
  have w:((q:Int)+10).toNat=q+8+2:=by omega
  have x:((q:Int)+11).toNat=q+8+2+1:=by omega
  have f:bT 8 s q= .ok (bC ((s.drop q).take 8),q+8):=gy QR;have g:bT 2 s (q+8)= .ok (bC ((s.drop (q+8)).take 2),q+8+2):=gy QR;have pb:=J4 (q:=q+8+2) hc QR;rw[QY i,QX QR,QX QR,w,show s[q+8+2]? = some c from hc,Nm];by_cases hg:(c.toNat:Int)>1
  ·rw[QX hg] at pb ⊢;rw[Pr.bind_err (by rw[kz,Pr.bind_of f,Pr.bind_of g,Pr.bind_err pb])];exact .inl ⟨11,rfl,by decide,rfl⟩
  rw[QY hg] at pb ⊢;rw[QX QR,QX QR,B,NR,Nat.add_sub_cancel_left,dc _ (by rw[NL]; omega),Nm,QX QR,QX QR,QX QR,Nat.add_sub_cancel_left,dc _ (by rw[NL]; omega),Nm,QX QR,QX QR,x,QX QR];generalize bC ((s.drop q).take 8)=A at f ⊢;generalize bC ((s.drop (q+8)).take 2)=Bv at g ⊢;generalize hcv:decide ((c.toNat:Int)=1)=cv at pb ⊢;rcases J5 s hs (q+8+2+1) QR with⟨e,j,h,o⟩ | ⟨l,r,j,h,o⟩
  ·rw[o,Nm];simp only;rw[QY h,Pr.bind_err (by rw[kz,Pr.bind_of f,Pr.bind_of g,Pr.bind_of pb,Pr.bind_err j])];exact .inl ⟨e,rfl,h,rfl⟩
  rw[o,Nm];simp only[if_true];rw[QX QR];have hal:(acc.length+1)*56<=140737488355328:=by omega
  have fin: ∀ (kc:Int) (q':Nat),kz v s q= .ok (⟨A,Bv,cv,l,kc⟩,q')->q'<=s.length ->
   (∃ e,((kz v).bind fun a=>(dG (kz v) m).bind fun l=>Pr.ret (a::l)) s q= .error e/\e≠0/\dB s v n fuel y b d (q':Int) (acc ++ [⟨A,Bv,cv,l,kc⟩]) (k+1)=some (.ret ([],0,e))) \/
   (∃ l' r,((kz v).bind fun a=>(dG (kz v) m).bind fun l=>Pr.ret (a::l)) s q= .ok (l',r)/\dB s v n fuel y b d (q':Int) (acc ++ [⟨A,Bv,cv,l,kc⟩]) (k+1)=some (.go (y,b,d,(r:Int),acc++l'.map toR,k+(m+1)))/\r<=s.length):=by
   intro kc q' hp hq';rcases Cb v n hv s hs y b d m fuel (k+1) (acc ++ [⟨A,Bv,cv,l,kc⟩]) q' QR QR hq' (by rw[Nr,OA,ha]) QR with⟨e,p,t,u⟩ | ⟨l',r',p,t,u⟩
   ·exact .inl ⟨e,by rw[Pr.bind_of hp,Pr.bind_err p],t,u⟩
   ·refine .inr ⟨_,r',by rw[Pr.bind_of hp,Pr.bind_of p]; rfl,?_,u⟩;rw[t,List.map_cons,Ny,show k+1+m=k+(m+1) by omega];rfl
  have pM:kz v s q=((if v>0 then bT 4 else Pr.ret 0).bind fun k=>Pr.ret (⟨A,Bv,cv,l,k⟩:aU)) s (q+8+2+1+r):=by
   rw[kz,Pr.bind_of f,Pr.bind_of g,Pr.bind_of pb,Pr.bind_of j]
  rcases hv with rfl | rfl
  ·rw[QY (show ¬ (0:Int)>0 by decide)] at pM;rw[QY QS,QX hal,QX QR,show (q:Int)+11+(r:Int)=((q+8+2+1+r:Nat):Int) by omega];exact fin 0 _ pM h
  ·rw[QX (show (1:Int)>0 by decide)] at pM;rw[QX rfl,QX QR];by_cases z:(s.length:Int) - ((q:Int)+11+(r:Int))<4
   ·rw[QX z,Pr.bind_err (by rw[pM,Pr.bind_err (j8 QR)])];exact .inl ⟨1,rfl,by decide,rfl⟩
   have C:((q:Int)+11+(r:Int)).toNat=q+8+2+1+r:=by omega
   have D:((q:Int)+11+(r:Int)+4).toNat=q+8+2+1+r+4:=by omega
   have E:bT 4 s (q+8+2+1+r)= .ok (bC ((s.drop (q+8+2+1+r)).take 4),q+8+2+1+r+4):=gy QR;rw[QY z,QX QR,QX QR,C,D,Nat.add_sub_cancel_left,dc _ (by rw[NL]; omega),Nm,QX QR,QX hal,QX QR,show (q:Int)+11+(r:Int)+4=((q+8+2+1+r+4:Nat):Int) by omega];exact fin _ _ (by rw[pM,Pr.bind_of E]; rfl) QR
theorem Ig (v:Int) (hv:v=0\/v=1) (s:AI) (hs:s.length<=1000000):nk s v=some (match g9 v s 0 with | .error e=>([],0,e) | .ok (l,r)=>(l.map toR,(r:Int),0)):=by
 unfold nk;by_cases d:(s.length:Int)<4
 ·have:g9 v s 0= .error 1:=by rw[g9,Pr.bind_err (by rw[pMs,fR,Pr.bind_err (by rw[fk,Pr.bind_err (j8 QR)])])]
  rw[QX d,this]
 have f:bT 4 s 0= .ok (bC (s.take 4),4):=by have:=gy (k:=4) (s:=s) (q:=0) QR; rwa [List.drop_zero] at this
 rw[QY d,QX QR,dc _ (by rw[NL]; omega),Nm];generalize bC (s.take 4)=n at f ⊢;have hC:fk 4 15 s 0=j4 15 n s 4:=by rw[fk,Pr.bind_of f]
 by_cases hn:n<0
 ·have:g9 v s 0= .error 4:=by rw[g9,Pr.bind_err (by rw[pMs,fR,Pr.bind_err (by rw[hC]; unfold j4; rw[QX hn])])]
  rw[QX hn,this]
 rw[QY hn,QX QR,QX QR];by_cases hg:n>((s.length:Int) - 4) / 15
 ·have:g9 v s 0= .error 1:=by
   rw[g9,Pr.bind_err (by rw[pMs,fR,Pr.bind_err (by rw[hC]; unfold j4; rw[QY hn,QX ⟨by decide,by rw[show ((s.length - 4:Nat):Int)=(s.length:Int) - 4 by omega]; exact hg⟩])])]
  rw[QX hg,this]
 have hC2:fk 4 15 s 0= .ok (n,4):=by rw[hC]; unfold j4; rw[QY hn,QY (fun h=>hg (by have:=h.2; rwa [show ((s.length - 4:Nat):Int)=(s.length:Int) - 4 by omega] at this))]
 rw[QY hg];rcases Cb v n hv s hs [] 0 0 n.toNat (n.toNat+1) 0 [] 4 QR QR QR rfl QR with⟨e,a,b,c⟩ | ⟨l,r,a,b,c⟩
 ·have:g9 v s 0= .error e:=by rw[g9,Pr.bind_err (by rw[pMs,fR,Pr.bind_of hC2,a])]
  rw[show ((4:Nat):Int)=4 from rfl] at c;rw[c,this];rfl
 ·have hms:pMs v s 0= .ok (l,r):=by rw[pMs,fR,Pr.bind_of hC2,a]
  obtain⟨j,o,g,p,t,i⟩:=(EN v).spell s 0 l r (NH _) hms;have hL: ∀ m,m∈l->okL m:=fun m hm=>DE (by have:=uZ v l m hm; omega);have hll:l.length<=1000000:=by
   have:=j7 (EM v) l i;rw[vu,Nr,aH] at g;omega
  rw[show ((4:Nat):Int)=4 from rfl] at b;rw[b,Nm];simp only[NG];rw[Gf v l hll hL,Nm,g9,Pr.bind_of hms];by_cases hc:pd v l=0
  ·rw[QX hc,QX hc];rfl
  ·rw[QY hc,QY hc];rfl
theorem vv (v:Int): ∀ (l:List aU) (t:AI),(∀ m,m∈l->okM v m/\wTs m.Mw<=3000)->t.length+(bJ (nB v) l).length<=800000->eP v l (t,0)=some (t++bJ (nB v) l,0)
 | [],t,_,_=>by rw[eP,bJ,NQ]
 | m::l,t,h,ht=>by
  obtain⟨⟨b,c,d,a⟩,hw⟩:=h m (.head _);rw[bJ,Nr] at ht;have hl:=(B9 v m).1;have hb:(mO m.MU).length=1:=aH _ _
  rw[eP,es b QR,Nm,es c (by rw[Nr,aH]; omega),Nm,EI _ _ (by rw[Nr,Nr,aH,aH]; omega),Nm,
   xD m.Mw _ d.2 (by rw[Nr,Nr,Nr,aH,aH,hb]; omega) hw,Nm]
  have ih:=fun t' (h':t'.length+(bJ (nB v) l).length<=800000)=>vv v l t' (fun z hz=>h z (.tail _ hz)) h';have htl:(n8 m.Mw).length=4+wTs m.Mw:=by rw[n8,Nr,aH,lI]
  by_cases hv:v>0
  ·rw[QX hv] at a;have e:nB v m=be m.Mx 8++(be m.Mz 2++(mO m.MU++(n8 m.Mw++be m.MJ 4))):=by rw[nB,QX hv]
   have el:(nB v m).length=8+(2+(1+(4+wTs m.Mw+4))):=by rw[e]; simp only[Nr,aH,hb,htl]
   rw[QX hv,es a (by simp only[Nr,aH,hb,lI]; omega),Nm,Nm,ih _ (by simp only[Nr,aH,hb,lI,show (8:Int).toNat=8 from rfl,show (2:Int).toNat=2 from rfl,show (4:Int).toNat=4 from rfl]; omega),bJ,e];simp only[n8,Ny];rfl
  ·have e:nB v m=be m.Mx 8++(be m.Mz 2++(mO m.MU++n8 m.Mw)):=by rw[nB,QY hv,NQ]
   have el:(nB v m).length=8+(2+(1+(4+wTs m.Mw))):=by rw[e]; simp only[Nr,aH,hb,htl]
   rw[QY hv,Nm,ih _ (by simp only[Nr,aH,hb,lI,show (8:Int).toNat=8 from rfl,show (2:Int).toNat=2 from rfl]; omega),bJ,e];simp only[n8,Ny];rfl
theorem tD (a b:List bN) (g:a.length<=1000000) (y:Bool): ∀ (l u:List aU) (k fuel:Nat),(∀ m,m∈l->m.Mw.length<=1000000/\ ∀ t,t∈m.Mw->t.My.length<=140737488355328)->a.drop k=l.map toR->b.drop k=u.map toR->l.length=u.length->l.length<fuel-> ∃ z,fM a b fuel y k=some (if l=u then .go (y,z) else .ret false)
 | [],[],k,fuel+1,_,ha,_,_,_=>by
  have:=gx ha;exact⟨k,by rw[fM,QY QR,QX rfl]⟩
 | [],d::u,k,fuel,_,_,_,hl,_=>by simp at hl
 | c::l,[],k,fuel,_,_,_,hl,_=>by simp at hl
 | c::l,d::u,k,fuel+1,hx,ha,hb,hl,hf=>by
  obtain⟨i,j,C⟩:=ec ha;obtain⟨n,o,D⟩:=ec hb;simp only[NB] at hl hf;obtain⟨z,hz⟩:=tD a b g y l u (k+1) fuel (fun m hm=>hx m (.tail _ hm)) j o QR QR;have hc:=hx c (.head _);rw[fM,QX QR,i,Nm,n,Nm];have hq:(if (toR c).Mx=(toR d).Mx then (if (toR c).Mz=(toR d).Mz then (if (toR c).MU=true then (if (toR d).MU=true then (if (toR c).MJ=(toR d).MJ then ((di (toR c).Mw (toR d).Mw).bind fun e=>if e=true then some false else some true) else some true) else some true) else (if (toR d).MU=true then some true else (if (toR c).MJ=(toR d).MJ then ((di (toR c).Mw (toR d).Mw).bind fun f=>if f=true then some false else some true) else some true))) else some true) else some true)=some (!decide (c=d)):=by
   rw[BX (toR c).Mw _ hc.1 hc.2,xJ];obtain⟨a1,a2,a3,a4,a5⟩:=c;obtain⟨p,q,r,s,v⟩:=d;simp only[aU.mk.injEq,Nm,toR];by_cases w:a1=p <;> by_cases x:a2=q <;> by_cases A:a4=s <;> by_cases B:a5=v <;> cases a3 <;> cases r <;> simp[w,x,A,B]
  rw[hq,Nm];by_cases hcd:c=d
  ·rw[Nn hcd,QY QS,QX QR];refine⟨z,hz.trans ?_⟩;by_cases hlu:l=u
   ·rw[QX hlu,QX (by rw[hcd,hlu])]
   ·rw[QY hlu,QY (fun h=>hlu (List.cons.inj h).2)]
  ·rw[Np hcd,QX QS];exact⟨0,by rw[QY (fun h=>hcd (List.cons.inj h).1)]⟩
theorem Cc (l u:List aU) (a:l.length<=1000000) (hx: ∀ m,m∈l->m.Mw.length<=1000000/\ ∀ t,t∈m.Mw->t.My.length<=140737488355328):jk (l.map toR) (u.map toR)=some (decide (l=u)):=by
 unfold jk;rw[N2,N2];by_cases hl:(l.length:Int)=(u.length:Int)
 ·obtain⟨z,hz⟩:=tD (l.map toR) (u.map toR) (by rw[N2]; omega) false l u 0 ((l.length:Int).toNat+1) hx List.drop_zero List.drop_zero QR QR;rw[QX hl,hz];by_cases h:l=u
  ·rw[QX h,Nn h]; rfl
  ·rw[QY h,Np h]; rfl
 ·rw[QY hl,Np (fun h=>hl (by rw[h]))]
theorem dj {α:Type} {l:List α} {k:Nat} {x:α} {t:List α} (h:l.drop k=x::t):l[k]? = some x/\l.drop (k+1)=t/\l.length=k+1+t.length:=by
 have hl:=congrArg List.length h;rw[Nx,NB] at hl;refine⟨?_,?_,by omega⟩
 ·have:=congrArg (fun z=>z[0]?) h;simpa using this
 ·rw[<- Oa,h];rfl
theorem eK {α:Type} {l:List α} {k:Nat} (h:l.drop k = []):l.length<=k:=List.drop_eq_nil_iff.1 h
def rc (l:List Hd):Bool:=l.all fun h=>bw h.MM
def f7 (r:Rec):Int:=if r.MS<0\/r.MS>2147483647 then 11 else if (bw r.MX && bw r.MM && rc r.ML)=true then 0 else 4
theorem vw (y:Bool): ∀ l:List Bl,ei l y=some (if l.all bw=true then .go y else .ret false)
 | []=>rfl
 | b::l=>by
  rw[ei,rm,Nm,List.all_cons,vw y l];cases bw b <;> rfl
theorem zz (l:List Bl):ga l=some (l.all bw):=by
 unfold ga;rw[vw];cases l.all bw <;> rfl
theorem vx (y:Int): ∀ l:List Hd,eF l y=some (if rc l=true then .go y else .ret 4)
 | []=>rfl
 | h::l=>by
  rw[eF,zz,Nm,vx y l];unfold rc;rw[List.all_cons,List.all_cons,List.all_nil,Bool.and_true];cases bw h.MM <;> rfl
theorem pQ (r:Rec) (hw:wI r.MS):fV r=some (f7 r):=by
 unfold fV f7;by_cases h:r.MS<0
 ·rw[QX h,QX (.inl h)]
 rw[QY h,gb _ _ hw,iO,Nm];by_cases a:r.MS>2147483647
 ·rw[QY (by simp; omega),QX (.inr a)]
 rw[QX (by simp; omega),QY QR,zz,Nm,vx];simp only[List.all_cons,List.all_nil,Bool.and_true];cases bw r.MX <;> cases bw r.MM <;> cases rc r.ML <;> rfl
theorem Ih (b:Bl):mQ b=some (!bw b):=by
 unfold mQ bw;obtain⟨n,d⟩:=b;cases n
 ·rfl
 ·cases d <;> simp
theorem Cd (a0:List Hd) (hb:a0.length<=1000000) (y:Bool): ∀ (l:List Hd) (k fuel:Nat),a0.drop k=l->l.length<fuel-> ∃ z,eB a0 fuel y k=some (if rc l=true then .go (y,z) else .ret false)
 | [],k,fuel+1,h,hf=>by
  have:=eK h;exact⟨k,by rw[eB,QY QR]; rfl⟩
 | x::l,k,fuel+1,h,hf=>by
  obtain⟨a,b,c⟩:=dj h;rw[NB] at hf;obtain⟨z,hz⟩:=Cd a0 hb y l (k+1) fuel b QR;rw[eB,QX QR,a,Nm];have e:rc (x::l)=(bw x.MM && rc l):=rfl;rw[e];by_cases hn:x.MM.null=true
  ·rw[QX hn];by_cases hd:x.MM.data = []
   ·rw[QX hd,QX QR,hz];have:bw x.MM=true:=by unfold bw; rw[hd]; simp
    rw[this,Bool.true_and];exact⟨z,rfl⟩
   ·rw[QY hd];have:bw x.MM=false:=by unfold bw; rw[hn]; simp[hd]
    rw[this];exact⟨0,rfl⟩
  ·rw[QY hn,QX QR,hz];have:bw x.MM=true:=by unfold bw; simp[hn]
   rw[this,Bool.true_and];exact⟨z,rfl⟩
theorem Gg (a0:List Hd) (hb:a0.length<=1000000):lZ a0=some (rc a0):=by
 unfold lZ;obtain⟨z,hz⟩:=Cd a0 hb false a0 0 (((a0.length:Int)).toNat+1) rfl QR;rw[hz];cases rc a0 <;> rfl
theorem Gh (r:Rec) (hb:r.ML.length<=1000000):kq r=some (f7 r):=by
 unfold kq f7;by_cases h:r.MS<0
 ·rw[QX h,QX (.inl h)]
 rw[QY h];by_cases a:r.MS>2147483647
 ·rw[QX a,QX (.inr a)]
 rw[QY a,QY QR,Ih,Ih,Gg _ hb];cases bw r.MX <;> cases bw r.MM <;> cases rc r.ML <;> rfl
theorem xM (l:AI) (p:Nat) (h:2<=l.length):fc ⟨l,p,0⟩ 2=(bC (l.take 2),⟨l.drop 2,p+2,0⟩):=Ag l p 2 QS QS h
theorem Ii (l:AI) (p:Nat) (h:4<=l.length):fc ⟨l,p,0⟩ 4=(bC (l.take 4),⟨l.drop 4,p+4,0⟩):=Ag l p 4 QS QS h
theorem rd (l:AI) (p:Nat) (h:l.length<2):fc ⟨l,p,0⟩ 2=(0,⟨l,p,1⟩):=sf l p 2 QS QS QR
theorem Ce (l:AI) (p:Nat) (h:l.length<4):fc ⟨l,p,0⟩ 4=(0,⟨l,p,1⟩):=sf l p 4 QS QS QR
theorem AM (l:AI) (p:Nat) (e n:Int) (h:e≠0):fc ⟨l,p,e⟩ n=(0,⟨l,p,e⟩):=oD (st:=⟨l,p,e⟩) h n
theorem iJ (l:AI) (p:Nat) (e:Int) (h:e≠0):fS ⟨l,p,e⟩=⟨l,p,e⟩:=wK (st:=⟨l,p,e⟩) h
theorem EO (l:AI) (p:Nat) (e f:Int) (h:e≠0):dC ⟨l,p,e⟩ f=⟨l,p,e⟩:=tS (st:=⟨l,p,e⟩) h f
theorem wv (l:AI) (p:Nat) (f:Int):dC ⟨l,p,0⟩ f=⟨l,p,f⟩:=by simp[dC]
theorem Cf (l:AI) (p:Nat):fS ⟨l,p,0⟩=⟨l,p,if l = [] then 0 else 2⟩:=by unfold fS; split <;> simp_all [dC]
theorem tE {l:AI} {n:Nat} (h:n<=l.length):l.drop n = [] ↔ ¬ (l.length:Int)>n:=by rw[List.drop_eq_nil_iff]; omega
theorem Ij (l:AI) (hl:l.length<=9223372036854775807):eE l=jY l:=by
 unfold eE jY dM;simp only[kC l QR,kD,gP,dD,Nm];by_cases e:l.length<2
 ·have h2i:(l.length:Int)<2:=by omega
  simp[rd l 0 e,AM,iJ,EO,h2i]
 have h2i: ¬ (l.length:Int)<2:=by omega
 have h2j:2<=(l.length:Int):=by omega
 rw[xM l 0 QR,QY h2i,QX (show 2<=l.length by omega),dc _ (by simp; omega)];simp only[Nm];by_cases c:bC (l.take 2)=0
 ·rw[QX c,QX c];simp only[Nm];by_cases f:l.length<4
  ·have h4i:(l.length:Int)<4:=by omega
   simp[rd (l.drop 2) (0+2) (by simp; omega),iJ,h4i]
  have h4i: ¬ (l.length:Int)<4:=by omega
  rw[xM _ _ (by simp; omega),QY h4i,QX (show 4<=l.length by omega),dc _ (by simp; omega)];simp only[Nm,Oa,Cf,wv];have hd:=tE (l:=l) (n:=4) QR;generalize bC ((l.drop 2).take 2)=k;by_cases a:(l.length:Int)>4
  ·have hd2: ¬ l.drop (2+2) = []:=fun h=>(hd.1 h) a;by_cases b:k=0
   ·simp[hd2,a,iJ,b]
   ·by_cases d:k=1 <;> simp[hd2,a,iJ,b,d]
  ·have hd2:l.drop (2+2) = []:=hd.2 a;by_cases b:k=0
   ·simp[hd2,a,iJ,b]
   ·by_cases d:k=1 <;> simp[hd2,a,iJ,b,d]
 ·rw[QY c,QY c];simp[wv,AM,iJ]
theorem DJ (l:AI) (hl:l.length<=9223372036854775807):dJ l=iE l:=by
 unfold dJ iE dM;simp only[kC l QR,kD,gP,dD,Nm];by_cases d:l.length<2
 ·have h2i:(l.length:Int)<2:=by omega
  simp[rd l 0 d,AM,iJ,EO,h2i]
 have h2i: ¬ (l.length:Int)<2:=by omega
 have h2j:2<=(l.length:Int):=by omega
 rw[xM l 0 QR,QY h2i,QX (show 2<=l.length by omega),dc _ (by simp; omega)];simp only[Nm];by_cases a:bC (l.take 2)=0
 ·rw[QX a,QX a];simp only[Nm];by_cases e:l.length<6
  ·have h4i:(l.length:Int)<6:=by omega
   simp[Ce (l.drop 2) (0+2) (by simp; omega),iJ,h4i]
  have h4i: ¬ (l.length:Int)<6:=by omega
  rw[Ii _ _ (by simp; omega),QY h4i,QX (show 6<=l.length by omega),dc _ (by simp; omega)];simp only[Nm,Oa,Cf,wv];have hd:=tE (l:=l) (n:=6) QR;generalize bC ((l.drop 2).take 4)=k;by_cases b:(l.length:Int)>6
  ·have hd2: ¬ l.drop (2+4) = []:=fun h=>(hd.1 h) b;by_cases c:k<0 <;> simp[hd2,b,iJ,c]
  ·have hd2:l.drop (2+4) = []:=hd.2 b;by_cases c:k<0 <;> simp[hd2,b,iJ,c]
 ·rw[QY a,QY a];simp[wv,AM,iJ]
theorem AN (r:Rec) (a:r.MX.data.length<=9223372036854775807) (b:r.MM.data.length<=9223372036854775807):dX r=je r:=by
 unfold dX je;rw[Ij _ a,DJ _ b]
def f8:List Rec->Int
 | []=>0
 | r::l=>if f7 r=0 then f8 l else f7 r
theorem zC (y:Int): ∀ l:List Rec,(∀ r,r∈l->wI r.MS)->eW l y=some (if f8 l=0 then .go y else .ret (f8 l))
 | [],h=>rfl
 | r::l,h=>by
  rw[eW,pQ _ (h r (.head _)),Nm,zC y l (fun x hx=>h x (.tail _ hx)),f8];by_cases hr:f7 r=0
  ·rw[QX hr,QX hr]
  ·rw[QY hr,QY hr,QY hr]
theorem zD (y:Int): ∀ l:List Rec,(∀ r,r∈l->wI r.MS)->eX l y=some (if f8 l=0 then .go y else .ret (f8 l))
 | [],h=>rfl
 | r::l,h=>by
  rw[eX,pQ _ (h r (.head _)),Nm,zD y l (fun x hx=>h x (.tail _ hx)),f8];by_cases hr:f7 r=0
  ·rw[QX hr,QX hr]
  ·rw[QY hr,QY hr,QY hr]
theorem zG (a:Bat) (hb:a.MB.length<=1000000) (hh: ∀ r,r∈a.MB->r.ML.length<=1000000) (y:Int): ∀ (l:List Rec) (k fuel:Nat),a.MB.drop k=l->l.length<fuel-> ∃ z,dT a fuel y k=some (if f8 l=0 then .go (y,z) else .ret (f8 l))
 | [],k,fuel+1,h,hf=>by
  have:=eK h;exact⟨k,by rw[dT,QY QR]; rfl⟩
 | r::l,k,fuel+1,h,hf=>by
  obtain⟨b,c,d⟩:=dj h;rw[NB] at hf;obtain⟨z,hz⟩:=zG a hb hh y l (k+1) fuel c QR;rw[dT,QX QR,b,Nm,Gh _ (hh r (List.mem_of_getElem? b)),Nm,f8];by_cases hr:f7 r=0
  ·rw[QX hr,QX hr,QX QR];exact⟨z,hz⟩
  ·rw[QY hr,QY hr];exact⟨0,by rw[QY hr]⟩
theorem zH (a:Bat): ∀ (fuel:Nat) (y:Int) (k:Nat),fT a fuel y k=dT a fuel y k
 | 0,y,k=>rfl
 | fuel+1,y,k=>by
  rw[fT,dT];simp only[zH a fuel]
def sG (F t:Int):Prop:=t>9223372036854775807 - F\/t < -F
instance (F t:Int):Decidable (sG F t):=by unfold sG; infer_instance
def AO (F L:Int):Int->Int->List Rec->Except Int Int
 | p,m,[]=> .ok m
 | p,m,r::l=>if r.MS<=p\/r.MS>L then .error 13 else if sG F r.M5 then .error 11 else AO F L r.MS (if m<F+r.M5 then F+r.M5 else m) l
theorem Gi {F t:Int} (a:0<=F) (b:F<=9223372036854775807) (ht:wI t):(sG F t->(IntKind.i64.wrap (F+t)<0))/\(¬ sG F t->IntKind.i64.wrap (F+t)=F+t/\0<=F+t):=by
 obtain⟨c,d⟩:=ht;unfold sG;rw[IntKind.wrap_i64];constructor
 ·intro h;omega
 ·intro h;omega
theorem EP (a:Bat) (f:0<=a.MN) (g:a.MN<=9223372036854775807) (y:Int): ∀ (l:List Rec) (p m:Int),(∀ r,r∈l->wI r.M5)->(∃ e,AO a.MN a.MZ p m l= .error e/\cn a l y p m=some (.ret e))\/(∃ p' m',AO a.MN a.MZ p m l= .ok m'/\cn a l y p m=some (.go (y,p',m')))
 | [],p,m,h=> .inr ⟨p,m,rfl,rfl⟩
 | r::l,p,m,h=>by
  have ih:=fun p m=>EP a f g y l p m (fun x hx=>h x (.tail _ hx));obtain⟨w1,i⟩:=Gi f g (h r (.head _));rw[cn,AO];by_cases d:r.MS<=p
  ·rw[QX d,QX (.inl d)];exact .inl ⟨_,rfl,rfl⟩
  rw[QY d];by_cases c2:r.MS>a.MZ
  ·rw[QX c2,QX (.inr c2)];exact .inl ⟨_,rfl,rfl⟩
  rw[QY c2,QY QR];by_cases b:sG a.MN r.M5
  ·rw[QX b,QX (w1 b)];exact .inl ⟨_,rfl,rfl⟩
  obtain⟨j,k⟩:=i b;rw[QY b,j,QY (show ¬ a.MN+r.M5<0 by omega),QY (show ¬ a.MN+r.M5<r.M5 by omega),ite_self];by_cases c:m<a.MN+r.M5
  ·rw[QX c,QX c];exact ih _ _
  ·rw[QY c,QY c];exact ih _ _
theorem AP (a:Bat) (j:0<=a.MN) (n:a.MN<=9223372036854775807) (hb:a.MB.length<=1000000) (y:Int): ∀ (l:List Rec) (p m:Int) (k fuel:Nat),a.MB.drop k=l->l.length<fuel->(k=0->p= -1)->(0<k-> ∃ r,a.MB[k - 1]? = some r/\r.MS=p/\0<=p) ->
 (∃ e,AO a.MN a.MZ p m l= .error e/\cO a fuel y k=some (.ret e))\/(∃ m' z,AO a.MN a.MZ p m l= .ok m'/\cO a fuel y k=some (.go (y,z)))
 | [],p,m,k,fuel+1,h,hf,d,f=>by
  have:=eK h;exact .inr ⟨m,k,rfl,by rw[cO,QY QR]⟩
 | r::l,p,m,k,fuel+1,h,hf,d,f=>by
  obtain⟨g,o,v⟩:=dj h;rw[NB] at hf;rw[cO,QX QR,g,Nm,AO];have hp: -1<=p:=by
   rcases Nat.eq_zero_or_pos k with hk | hk
   ·have:=d hk; omega
   ·obtain⟨_,_,_,w⟩:=f hk; omega
  have ih:=fun (hge:0<=r.MS) m=>AP a j n hb y l r.MS m (k+1) fuel o QR (fun h=>absurd h QR) (fun _=>⟨r,g,rfl,hge⟩);have tail:0<=r.MS->((if A0 (9223372036854775807 - a.MN) then (if r.M5>(9223372036854775807 - a.MN) then some (Lp.ret (11:Int)) else (if A0 (-a.MN) then (if r.M5<(-a.MN) then some (Lp.ret 11) else (if A0 ((k:Int)+1) then (cO a fuel y (k+1)) else none)) else none)) else none))=if sG a.MN r.M5 then some (.ret 11) else cO a fuel y (k+1):=by
   intro hge;rw[QX QR];by_cases c:r.M5>9223372036854775807 - a.MN
   ·rw[QX c,QX (show sG a.MN r.M5 from .inl c)]
   rw[QY c,QX QR];by_cases c2:r.M5 < -a.MN
   ·rw[QX c2,QX (show sG a.MN r.M5 from .inr c2)]
   rw[QY c2,QY (show ¬ sG a.MN r.M5 by unfold sG; omega),QX QR]
  by_cases c2:r.MS>a.MZ
  ·rw[QX c2,QX (.inr c2)];exact .inl ⟨_,rfl,rfl⟩
  rw[QY c2];rcases Nat.eq_zero_or_pos k with hk | hk
  ·have u:=d hk;rw[QY (show ¬ (k:Int)>0 by omega)];by_cases i:r.MS<0
   ·rw[QX i,QX (show r.MS<=p\/r.MS>a.MZ by omega)];exact .inl ⟨_,rfl,rfl⟩
   rw[QY i,QY (show ¬ (r.MS<=p\/r.MS>a.MZ) by omega),tail QR];by_cases b:sG a.MN r.M5
   ·rw[QX b,QX b];exact .inl ⟨_,rfl,rfl⟩
   ·rw[QY b,QY b];exact ih QR _
  ·obtain⟨q,s,t,x⟩:=f hk;rw[QX (show (k:Int)>0 by omega),QX (show (A0 ((k:Int) - 1)) by omega),QX (show 0<=(k:Int) - 1 by omega),show ((k:Int) - 1).toNat=k - 1 by omega,s,Nm,t];by_cases c:r.MS<=p
   ·rw[QX c,QX (.inl c)];exact .inl ⟨_,rfl,rfl⟩
   rw[QY c,QY (show ¬ r.MS<0 by omega),QY (show ¬ (r.MS<=p\/r.MS>a.MZ) by omega),tail QR];by_cases b:sG a.MN r.M5
   ·rw[QX b,QX b];exact .inl ⟨_,rfl,rfl⟩
   ·rw[QY b,QY b];exact ih QR _
theorem EQ (a:Bat) (b:0<=a.MN) (d:a.MN<=9223372036854775807) (hb:a.MB.length<=1000000) (y:Int): ∀ (l:List Rec) (p m m':Int) (k fuel:Nat),a.MB.drop k=l->l.length<fuel->AO a.MN a.MZ p m l= .ok m'->(∀ r,r∈l->wI r.M5)-> ∃ z,eC a fuel y m k=some (.go (y,m',z))
 | [],p,m,m',k,fuel+1,h,hf,ho,hw=>by
  have:=eK h;injection ho with ho;subst ho;exact⟨k,by rw[eC,QY QR]⟩
 | r::l,p,m,m',k,fuel+1,h,hf,ho,hw=>by
  obtain⟨e,f,g⟩:=dj h;rw[NB] at hf;rw[AO] at ho;split at ho
  ·exact nomatch ho
  split at ho
  ·exact nomatch ho
  rename_i hb2;have ht:=hw r (.head _);have ht0:=ht.1;have ht1:=ht.2;unfold sG at hb2;rw[eC,QX QR,e,Nm,QX QR,QY QR,QX QR,QY QR,QX QR];obtain⟨z,hz⟩:=EQ a b d hb y l r.MS _ m' (k+1) fuel f QR ho (fun x hx=>hw x (.tail _ hx));by_cases c:m<a.MN+r.M5
  ·rw[QX c] at hz;rw[QX c,QX QR,QX QR];exact⟨z,hz⟩
  ·rw[QY c] at hz;rw[QY c,QX QR];exact⟨z,hz⟩
theorem xN (a:Bat) (f:0<=a.MN) (g:a.MN<=9223372036854775807) (hb:a.MB.length<=1000000) (hw: ∀ r,r∈a.MB->wI r.M5): ∃ e,ea a=some e/\gi a=some e:=by
 unfold ea gi nR;rcases EP a f g 0 a.MB (-1) a.MN hw with⟨e,c,i⟩ | ⟨p',m',c,i⟩
 ·rcases AP a f g hb 0 a.MB (-1) a.MN 0 (((a.MB.length:Int)).toNat+1) rfl QR (fun _=>rfl) (fun h=>absurd h QR) with⟨k,b,d⟩ | ⟨l,z,b,d⟩
  ·rw[c] at b;injection b with b;subst b;exact⟨e,by rw[i]; rfl,by rw[d]; rfl⟩
  ·rw[c] at b;exact nomatch b
 ·rcases AP a f g hb 0 a.MB (-1) a.MN 0 (((a.MB.length:Int)).toNat+1) rfl QR (fun _=>rfl) (fun h=>absurd h QR) with⟨k,b,d⟩ | ⟨l,z,b,d⟩
  ·rw[c] at b;exact nomatch b
  ·obtain⟨m,j⟩:=EQ a f g hb 0 a.MB (-1) a.MN m' 0 (((a.MB.length:Int)).toNat+1) rfl QR c hw;rw[i,d,j];simp only[Nm];by_cases ha:a.M9=true
   ·exact⟨0,by rw[QX ha],by rw[QX ha]⟩
   ·rw[QY ha];by_cases hm:m'=a.M7
    ·exact⟨0,by rw[QX hm],by rw[QX hm]⟩
    ·exact⟨11,by rw[QY hm],by rw[QY hm]⟩
def mj (a:Bat):Prop:=0<=a.M4/\(-1<=a.MW/\a.MW<=2147483647)/\(0<=a.MZ/\a.MZ<=2147483647)/\a.M4+a.MZ<=9223372036854775807/\0<=a.MN/\0<=a.M7
instance (a:Bat):Decidable (mj a):=by unfold mj; infer_instance
theorem DK (a:Bat) (k:wI a.M4) (l:wI a.MW) (m:wI a.MZ):iG a=some (decide (mj a)):=by
 obtain⟨n,o⟩:=k;unfold iG;rw[gb _ _ l,gb _ _ m,iO,iO,IntKind.wrap_i64];have no: ∀ {b:Bool},¬ mj a->b=false->some b=some (decide (mj a)):=fun h hb=>by rw[Np h,hb]
 by_cases c:a.M4>=0
 ·rw[QX c];by_cases c2:a.MW>= -1
  ·rw[QX c2,Nm];by_cases g: -2147483648<=a.MW/\a.MW<=2147483647
   ·rw[QX (Nn g)];by_cases d:a.MZ>=0
    ·rw[QX d,Nm];by_cases i: -2147483648<=a.MZ/\a.MZ<=2147483647
     ·rw[QX (Nn i)];by_cases j:a.M4+a.MZ<=9223372036854775807
      ·rw[QX QR];by_cases e:a.MN>=0
       ·rw[QX e];by_cases f:a.M7>=0
        ·rw[QX f,Nn (show mj a from ⟨c,⟨c2,by omega⟩,⟨d,by omega⟩,j,e,f⟩)]
        ·rw[QY f]; exact no (fun h=>f h.2.2.2.2.2) rfl
       ·rw[QY e]; exact no (fun h=>e h.2.2.2.2.1) rfl
      ·rw[QY QR]; exact no (fun h=>j h.2.2.2.1) rfl
     ·rw[QY (by rw[decide_eq_true_eq]; exact i)]; exact no (fun h=>by have:=h.2.2.1; omega) rfl
    ·rw[QY d]; exact no (fun h=>d h.2.2.1.1) rfl
   ·rw[QY (by rw[decide_eq_true_eq]; exact g)]; exact no (fun h=>by have:=h.2.1; omega) rfl
  ·rw[QY c2]; exact no (fun h=>c2 h.2.1.1) rfl
 ·rw[QY c]; exact no (fun h=>c h.1) rfl
theorem u0 (n k:Int):il n k=some (decide (k<=n/\n<=2147483647)):=by
 unfold il;by_cases a:n>=k
 ·rw[QX a];by_cases b:n<=2147483647
  ·rw[QX b,Nn ⟨a,b⟩]
  ·rw[QY b,Np (fun h=>b h.2)]
 ·rw[QY a,Np (fun h=>a h.1)]
def jU (a:Bat):Prop:=if a.Mx= -1 then a.Mz= -1/\a.MP= -1/\a.M2=false else 0<=a.Mx/\(0<=a.Mz/\a.Mz<=32767)/\(if a.M6=true then a.MP= -1 else 0<=a.MP/\a.MP<=2147483647)
instance (a:Bat):Decidable (jU a):=by unfold jU; infer_instance
theorem xO (n:Int):bA n 2=decide (-32768<=n/\n<=32767):=by
 rw[Bool.eq_iff_iff];unfold bA;simp only[Bool.and_eq_true,decide_eq_true_eq];have:(2:Int) ^ (8*(2:Int).toNat - 1)=32768:=by decide
 omega
theorem vy (a:Bat) (h:wI a.Mz) (i:wI a.MP):fQ a=some (decide (jU a))/\gR a=some (decide (jU a)):=by
 unfold fQ gR;rw[gb _ _ h,gb _ _ i,iO,xO,u0];unfold jU;obtain⟨l,m,n,tx,ct,o,p,q,P,E,S,rs⟩:=a;simp only;clear h i;by_cases j:P= -1
 ·simp only[QX j];by_cases c2:E= -1
  ·simp only[QX c2];by_cases g:S= -1
   ·simp only[QX g];cases tx <;> simp[c2,g]
   ·simp[g]
  ·simp[c2]
 ·simp only[QY j,Nm];cases ct
  ·simp only[Bool.false_eq_true,if_false];constructor
   ·by_cases b:P>=0
    ·by_cases c:E>=0
     ·by_cases d: -32768<=E/\E<=32767
      ·by_cases e:S>=0
       ·by_cases f: -2147483648<=S/\S<=2147483647
        ·rw[QX b,QX c,QX (Nn d),QX e,QX (Nn f),Nn QR]
        ·rw[QX b,QX c,QX (Nn d),QX e,QY (by rw[decide_eq_true_eq]; exact f),Np QR]
       ·rw[QX b,QX c,QX (Nn d),QY e,Np QR]
      ·rw[QX b,QX c,QY (by rw[decide_eq_true_eq]; exact d),Np QR]
     ·rw[QX b,QY c,Np QR]
    ·rw[QY b,Np QR]
   ·by_cases b:P<0
    ·rw[QX b,Np QR]
    rw[QY b];by_cases c:E<0
    ·rw[QX c,Np QR]
    rw[QY c];by_cases d:E>32767
    ·rw[QX d,Np QR]
    rw[QY d];by_cases e:0<=S/\S<=2147483647
    ·rw[Nn e,Nn QR]
    ·rw[Np e,Np QR]
  ·simp only[if_true];constructor
   ·by_cases b:P>=0
    ·by_cases c:E>=0
     ·by_cases d: -32768<=E/\E<=32767
      ·by_cases e:S>= -1
       ·by_cases f: -2147483648<=S/\S<=2147483647
        ·by_cases k:S= -1
         ·rw[QX b,QX c,QX (Nn d),QX e,QX (Nn f),QX k,Nn QR]
         ·rw[QX b,QX c,QX (Nn d),QX e,QX (Nn f),QY k,Np QR]
        ·rw[QX b,QX c,QX (Nn d),QX e,QY (by rw[decide_eq_true_eq]; exact f),Np QR]
       ·rw[QX b,QX c,QX (Nn d),QY e,Np QR]
      ·rw[QX b,QX c,QY (by rw[decide_eq_true_eq]; exact d),Np QR]
     ·rw[QX b,QY c,Np QR]
    ·rw[QY b,Np QR]
   ·by_cases b:P<0
    ·rw[QX b,Np QR]
    rw[QY b];by_cases c:E<0
    ·rw[QX c,Np QR]
    rw[QY c];by_cases d:E>32767
    ·rw[QX d,Np QR]
    rw[QY d];by_cases e:S= -1
    ·rw[QX e,Nn QR]
    ·rw[QY e,Np QR]
theorem Ik (l:AI) (hl:l.length<=1000000): ∃ x,eE l=some x:=by
 unfold eE dM;simp only[kC l QR,kD,gP,dD,Nm];generalize fc ⟨l,0,0⟩ 2=x;by_cases h:x.1=0
 ·simp only[QX h,Nm];generalize fc x.2 2=y;split
  ·split <;> exact⟨_,rfl⟩
  ·split
   ·split <;> exact⟨_,rfl⟩
   ·split <;> exact⟨_,rfl⟩
 ·simp only[QY h,Nm];generalize fc (dC x.2 7) 2=y;split
  ·split <;> exact⟨_,rfl⟩
  ·split
   ·split <;> exact⟨_,rfl⟩
   ·split <;> exact⟨_,rfl⟩
theorem DL (l:AI) (hl:l.length<=1000000): ∃ x,dJ l=some x:=by
 unfold dJ dM;simp only[kC l QR,kD,gP,dD,Nm];generalize fc ⟨l,0,0⟩ 2=x;by_cases h:x.1=0
 ·simp only[QX h,Nm];generalize fc x.2 4=y;split
  ·split <;> exact⟨_,rfl⟩
  ·split <;> exact⟨_,rfl⟩
 ·simp only[QY h,Nm];generalize fc (dC x.2 7) 4=y;split
  ·split <;> exact⟨_,rfl⟩
  ·split <;> exact⟨_,rfl⟩
theorem AQ (r:Rec) (a:r.MX.data.length<=1000000) (b:r.MM.data.length<=1000000): ∃ c d e,dX r=some (c,d,e):=by
 obtain⟨⟨f,g⟩,hk⟩:=Ik _ a;obtain⟨⟨v1,v2⟩,hv⟩:=DL _ b;unfold dX;rw[hk,hv];simp only[Nm];split
 ·exact⟨_,_,_,rfl⟩
 split
 ·exact⟨_,_,_,rfl⟩
 split
 ·exact⟨_,_,_,rfl⟩
 split
 ·split
  ·split
   ·exact⟨_,_,_,rfl⟩
   ·exact⟨_,_,_,rfl⟩
  ·exact⟨_,_,_,rfl⟩
 ·exact⟨_,_,_,rfl⟩
def AR (a:Bat) (cr b:Int):Int:=if mj a then (if a.M6=true then (if a.M2=true then (if jU a then (if (a.MB.length:Int)=1 then (if f8 a.MB=0 then (if cr=0 then b else cr) else f8 a.MB) else 10) else 11) else 8) else (if jU a then (if f8 a.MB=0 then b else f8 a.MB) else 11)) else 11
theorem bchk (a:Bat) (hw:AC a) (cr b:Int) (hc:mj a->ea a=some b) (hr:(a.MB.length:Int)=1-> ∃ r c d,a.MB[0]? = some r/\dX r=some (c,d,cr)):dY a=some (AR a cr b):=by
 obtain⟨w1,i,k,l,m,j,n,o,p,e,f,g⟩:=hw;have hoff: ∀ r,r∈a.MB->wI r.MS:=fun r h=>(g.2 r h).2.1;unfold dY AR;rw[DK a w1 i j,(vy a e f).1,zC _ _ hoff,zD _ _ hoff];by_cases hn:mj a
 ·rw[Nn hn,Nm,QX rfl,QX hn,hc hn];by_cases hct:a.M6=true
  ·rw[QX hct,QX hct];by_cases ht:a.M2=true
   ·rw[QX ht,QX ht,Nm];by_cases hp:jU a
    ·rw[Nn hp,QX rfl,QX hp];by_cases hl:(a.MB.length:Int)=1
     ·obtain⟨r,c,d,r1,r2⟩:=hr hl;rw[QX hl,QX hl,r1];by_cases hf:f8 a.MB=0
      ·simp only[QX hf,Nm,r2];split <;> rfl
      ·simp only[QY hf,Nm]
     ·rw[QY hl,QY hl]
    ·rw[Np hp,QY QS,QY hp]
   ·rw[QY ht,QY ht]
  ·rw[QY hct,QY hct,Nm];by_cases hp:jU a
   ·rw[Nn hp,QX rfl,QX hp];by_cases hf:f8 a.MB=0
    ·simp only[QX hf,Nm]
    ·simp only[QY hf,Nm]
   ·rw[Np hp,QY QS,QY hp]
 ·rw[Np hn,Nm,QY QS,QY hn]
theorem rchk (a:Bat) (hw:AC a) (hb:a.MB.length<=1000000) (hh: ∀ r,r∈a.MB->r.ML.length<=1000000) (cr b:Int) (hc:mj a->gi a=some b) (hr:(a.MB.length:Int)=1-> ∃ r c d,a.MB[0]? = some r/\je r=some (c,d,cr)):dx a=some (AR a cr b):=by
 obtain⟨w1,n,o,p,q,s,t,u,v,e,f,m⟩:=hw;obtain⟨z,hz⟩:=zG a hb hh 0 a.MB 0 (((a.MB.length:Int)).toNat+1) rfl QR;have w:=w1.1;have x:=w1.2;unfold dx AR;rw[u0,u0,(vy a e f).2];simp only[zH];rw[hz];by_cases hn:mj a
 ·obtain⟨y,k,l,A,B,C⟩:=id hn;rw[QY (show ¬ a.M4<0 by omega),Nn k,Nm,QX rfl,Nn l,Nm,QX rfl,QX (show (A0 (9223372036854775807 - a.M4)) by omega),QY (show ¬ a.MZ>9223372036854775807 - a.M4 by omega),QY (show ¬ a.MN<0 by omega),QY (show ¬ a.M7<0 by omega),QX hn,hc hn];by_cases hct:a.M6=true
  ·rw[QX hct,QX hct];by_cases ht:a.M2=true
   ·rw[QX ht,QX ht,Nm];by_cases hp:jU a
    ·rw[Nn hp,QX rfl,QX hp];by_cases hl:(a.MB.length:Int)=1
     ·obtain⟨r,c,d,r1,r2⟩:=hr hl;rw[QX hl,QX hl,r1];by_cases hf:f8 a.MB=0
      ·simp only[QX hf,Nm,r2];split <;> rfl
      ·simp only[QY hf,Nm]
     ·rw[QY hl,QY hl]
    ·rw[Np hp,QY QS,QY hp]
   ·rw[QY ht,QY ht]
  ·rw[QY hct,QY hct,Nm];by_cases hp:jU a
   ·rw[Nn hp,QX rfl,QX hp];by_cases hf:f8 a.MB=0
    ·simp only[QX hf,Nm]
    ·simp only[QY hf,Nm]
   ·rw[Np hp,QY QS,QY hp]
 ·rw[QY hn];unfold mj at hn;by_cases g:a.M4<0
  ·rw[QX g]
  rw[QY g,Nm];by_cases c2: -1<=a.MW/\a.MW<=2147483647
  ·rw[Nn c2,QX rfl,Nm];by_cases h:0<=a.MZ/\a.MZ<=2147483647
   ·rw[Nn h,QX rfl,QX (show (A0 (9223372036854775807 - a.M4)) by omega)];by_cases i:a.MZ>9223372036854775807 - a.M4
    ·rw[QX i]
    rw[QY i];by_cases j:a.MN<0
    ·rw[QX j]
    rw[QY j,QX (show a.M7<0 by omega)]
   ·rw[Np h,QY QS]
  ·rw[Np c2,QY QS]
theorem xP (a:Bat) (hw:AC a) (hb:a.MB.length<=1000000) (hr: ∀ r,r∈a.MB->r.ML.length<=1000000/\r.MX.data.length<=1000000/\r.MM.data.length<=1000000): ∃ cr b,dY a=some (AR a cr b)/\dx a=some (AR a cr b)/\(mj a->ea a=some b)/\((a.MB.length:Int)=1-> ∃ r c d,a.MB[0]? = some r/\dX r=some (c,d,cr)/\je r=some (c,d,cr)):=by
 have htim: ∀ r,r∈a.MB->wI r.M5:=fun r h=>(hw.2.2.2.2.2.2.2.2.2.2.2.2 r h).1;have hF:=hw.2.2.2.2.2.2.1;obtain⟨b,he⟩: ∃ b,mj a->ea a=some b/\gi a=some b:=by
  by_cases hn:mj a
  ·obtain⟨b,e,g⟩:=xN a hn.2.2.2.2.1 hF.2 hb htim;exact⟨b,fun _=>⟨e,g⟩⟩
  ·exact⟨0,fun h=>absurd h hn⟩
 obtain⟨cr,hcr⟩: ∃ cr,(a.MB.length:Int)=1-> ∃ r c d,a.MB[0]? = some r/\dX r=some (c,d,cr)/\je r=some (c,d,cr):=by
  by_cases hl:(a.MB.length:Int)=1
  ·obtain⟨r,hrec⟩: ∃ r,a.MB = [r]:=List.length_eq_one_iff.1 QR;have f:=hr r (by rw[hrec]; exact .head _);obtain⟨c,d,j,i⟩:=AQ r f.2.1 f.2.2;have k:=AN r QR QR;exact⟨j,fun _=>⟨r,c,d,by rw[hrec]; rfl,i,by rw[<- k]; exact i⟩⟩
  ·exact⟨0,fun h=>absurd h hl⟩
 refine⟨cr,b,bchk a hw cr b (fun h=>(he h).1) (fun h=> ?_),rchk a hw hb (fun r h=>(hr r h).1) cr b (fun h=>(he h).2) (fun h=> ?_),fun h=>(he h).1,hcr⟩
 ·obtain⟨r,c,d,e,g,f⟩:=hcr h;exact⟨r,c,d,e,g⟩
 ·obtain⟨r,c,d,e,g,f⟩:=hcr h;exact⟨r,c,d,e,f⟩
theorem Pr.bind_assoc {α β γ:Type} (p:Pr α) (f:α->Pr β) (g:β->Pr γ):(p.bind f).bind g=p.bind fun a=>(f a).bind g:=by
 funext s q;unfold Pr.bind
 cases p s q with
 | error e=>rfl
 | ok x=>rfl
theorem Pr.ret_bind {α β:Type} (a:α) (f:α->Pr β):(Pr.ret a).bind f=f a:=by
 funext s q;rfl
def rZ:List Nat->Pr (List Int)
 | []=> .ret []
 | k::ks=>(bT k).bind fun a=>(rZ ks).bind fun l=> .ret (a::l)
def sH:List Nat->List Int->AI
 | k::ks,x::xs=>be x k++sH ks xs
 | _,_ => []
def okI:List Nat->List Int->Prop
 | [],[]=>True
 | k::ks,x::xs=>bA x k=true/\okI ks xs
 | _,_=>False
theorem ru: ∀ ks:List Nat,(∀ k,k∈ks->1<=k/\k<=8)->Sp (rZ ks) (sH ks) (okI ks)
 | [],_=>by
  refine⟨fun s q l r hq h=> ?_,fun s t q l hq hl hd=> ?_⟩
  ·injection h with h;obtain⟨rfl,rfl⟩:=NU h;exact⟨N3 _,hq,rfl,by simp[sH],trivial⟩
  ·cases l with
   | nil=>rfl
   | cons x xs=>exact nomatch hl
 | k::ks,hk=>by
  have hp:=bX k (hk k (List.mem_cons_self ..)).1 (hk k (List.mem_cons_self ..)).2;have ih:=ru ks (fun j hj=>hk j (List.mem_cons_of_mem _ hj));refine⟨fun s q l r hq h=> ?_,fun s t q l hq hl hd=> ?_⟩
  ·obtain⟨a,m,b,c⟩:=Pr.bind_ok h;obtain⟨xs,f,g,d⟩:=Pr.bind_ok c;injection d with d;obtain⟨rfl,rfl⟩:=NU d;obtain⟨a1,a2,a3,a4,a5⟩:=hp.spell s q a m hq b;obtain⟨p,i,u,n,o⟩:=ih.spell s m xs f a2 g;exact⟨by omega,i,by simp only[sH,Nr]; omega,by rw[n,a4,sH,Ny],a5,o⟩
  ·cases l with
   | nil=>exact nomatch hl
   | cons x xs =>
    rw[sH,Ny] at hd;have b:=hp.back s _ q x hq hl.1 hd;have e:=congrArg List.length hd;rw[Nx,Nr] at e;have c:=ih.back s t _ xs QR hl.2 (cM hd);rw[rZ,Pr.bind_of b,Pr.bind_of c,sH,Nr,<- Nat.add_assoc];rfl
def KS:List Nat := [8,4,4,1,4,2,4,8,8,8,2,4,4]
theorem Cg: ∀ k,k∈KS->1<=k/\k<=8:=by decide
def s32 (n:Int):Int:=if n>2147483647 then n - 4294967296 else n
def toL (p:Pfx):List Int := [p.M4,p.MY,p.MW,2,s32 p.Nb,p.Na,p.MZ,p.MN,p.M7,p.Mx,p.Mz,p.MP,p.Nc]
def ckE (b m ct:Int):Int:=if m=2 then (if b<49 then 4 else if ct<0 then 10 else 0) else 6
def chkP:List Int->Pr Pfx
 | [a,b,c,m,s,at',la,fi,mx,pr,ep,sq,ct]=>if ckE b m ct=0 then .ret ⟨a,b,c,s % 4294967296,at',la,fi,mx,pr,ep,sq,ct⟩ else .err (ckE b m ct)
 | _=> .err 1
def xQ:Pr Pfx:=(rZ KS).bind chkP
def pe (p:Pfx):AI:=sH KS (toL p)
def okP (p:Pfx):Prop:=okI KS (toL p)/\(0<=p.Nb/\p.Nb<=4294967295)/\49<=p.MY/\0<=p.Nc
theorem ER: ∀ {ks:List Nat} {l:List Int},okI ks l->l.length=ks.length
 | [],[],_=>rfl
 | k::ks,x::xs,h=>by rw[NB,NB,ER h.2]
 | [],_ :: _,h=>nomatch h
 | _ :: _,[],h=>nomatch h
theorem Ch: ∀ {ks:List Nat} {l:List Int},okI ks l->(sH ks l).length=ks.sum
 | [],[],_=>rfl
 | k::ks,x::xs,h=>by rw[sH,Nr,aH,Ch h.2,List.sum_cons]
 | [],_ :: _,h=>nomatch h
 | _ :: _,[],h=>nomatch h
theorem len13 {l:List Int} (h:l.length=13): ∃ a b c m s t la fi mx pr ep sq ct,l = [a,b,c,m,s,t,la,fi,mx,pr,ep,sq,ct]:=by
 match l,h with
 | [a,b,c,m,s,t,la,fi,mx,pr,ep,sq,ct],_=>exact⟨a,b,c,m,s,t,la,fi,mx,pr,ep,sq,ct,rfl⟩
theorem Il {s:Int} (h:bA s 4=true):s32 (s % 4294967296)=s:=by
 rw[iO] at h;have:=of_decide_eq_true h;unfold s32;split <;> omega
theorem J6 {s:Int} (h:0<=s/\s<=4294967295):s32 s % 4294967296=s:=by
 unfold s32;split <;> omega
theorem Im {b m ct:Int} (h:ckE b m ct=0):m=2/\49<=b/\0<=ct:=by
 unfold ckE at h;by_cases a:m=2
 ·rw[QX a] at h;by_cases c:b<49
  ·rw[QX c] at h; cases h
  ·rw[QY c] at h;by_cases d:ct<0
   ·rw[QX d] at h; cases h
   ·exact⟨a,by omega,by omega⟩
 ·rw[QY a] at h; cases h
theorem ckE_of {b ct:Int} (a:49<=b) (c:0<=ct):ckE b 2 ct=0:=by
 unfold ckE;rw[QX rfl,QY QR,QY QR]
theorem xR:Sp xQ pe okP:=by
 refine⟨fun s q p r hq h=> ?_,fun s t q p hq hp hd=> ?_⟩
 ·obtain⟨l,m,f,d⟩:=Pr.bind_ok h;obtain⟨a1,a2,a3,a4,a5⟩:=(ru KS Cg).spell s q l m hq f;obtain⟨a,b,c,mg,sm,t,la,fi,mx,pr,ep,sq,ct,rfl⟩:=len13 (ER a5);have hs:bA sm 4=true:=a5.2.2.2.2.1;unfold chkP at d;dsimp only at d;by_cases hc:ckE b mg ct=0
  ·rw[QX hc] at d;injection d with d;obtain⟨rfl,rfl⟩:=NU d;obtain⟨rfl,c2,g⟩:=Im hc;have e:toL ⟨a,b,c,sm % 4294967296,t,la,fi,mx,pr,ep,sq,ct⟩ = [a,b,c,2,sm,t,la,fi,mx,pr,ep,sq,ct]:=by
    unfold toL;rw[Il hs]
   unfold pe okP;rw[e];exact⟨a1,a2,a3,a4,a5,by show 0<=sm % 4294967296/\sm % 4294967296<=4294967295; omega,c2,g⟩
  ·rw[QY hc] at d;exact nomatch d
 ·have f:=(ru KS Cg).back s t q (toL p) hq hp.1 hd;rw[xQ,Pr.bind_of f];unfold toL chkP;dsimp only;rw[QX (ckE_of hp.2.2.1 hp.2.2.2),J6 hp.2.1];rfl
theorem and32 (n:Int):Go.bits .and .i64 n 4294967295=n % 4294967296:=by
 rw[show (4294967295:Int)=((4294967295:Nat):Int) from rfl,At n _ QS,show (4294967295:Nat)=2 ^ 32 - 1 from rfl,Nat.and_two_pow_sub_one_eq_mod];omega
def zP:Pfx:=⟨0,0,0,0,0,0,0,0,0,0,0,0⟩
def In (a b c m s t la fi mx pr ep sq ct:Int) (st:I):Option (Pfx×I):=(iC st).bind fun (o,d)=>(if o=0 then ((if m=2 then ((if b<49 then ((cm d 4).bind fun f=>some f) else ((if ct<0 then ((cm d 10).bind fun g=>some g) else some d).bind fun h=>some h)).bind fun i=>some i) else ((cm d 6).bind fun j=>some j)).bind fun k=>some k) else some d).bind fun l=>(iC l).bind fun (n,e)=>if n=0 then (some ((⟨a,b,c,(Go.bits .and .i64 s 4294967295),t,la,fi,mx,pr,ep,sq,ct⟩:Pfx),e)) else (some ((⟨0,0,0,0,0,0,0,0,0,0,0,0⟩:Pfx),e))
theorem B_tail (a b c m s t la fi mx pr ep sq ct:Int):CB (In a b c m s t la fi mx pr ep sq ct) (chkP [a,b,c,m,s,t,la,fi,mx,pr,ep,sq,ct]) zP:=by
 refine AF (fun st h=> ?_) (fun st h=> ?_)
 ·unfold In;rw[bt,Nm];dsimp only;rw[QY h,Nm,bt,Nm];dsimp only;rw[QY h];rfl
 ·obtain⟨l,q,e⟩:=st;obtain rfl:e=0:=h;unfold In ckE;rw[bt,Nm];dsimp only;rw[QX rfl,and32];by_cases d:m=2
  ·rw[QX d,QX d];by_cases f:b<49
   ·rw[QX f,QX f,QY QS]; rfl
   ·rw[QY f,QY f];by_cases g:ct<0
    ·rw[QX g,QX g,QY QS]; rfl
    ·rw[QY g,QY g,QX rfl]; rfl
  ·rw[QY d,QY d,QY QS]; rfl
theorem B_pfx:CB (fun st=>lS st) xQ zP:=by
 have w: ∀ {p:Pr Int} (s:AI) (q:Nat) (a:Int) (r:Nat),s.length<=1000000->q<=s.length->p s q= .ok (a,r)->(fun _:Int=>True) a:=fun _ _ _ _ _ _ _=>trivial
 have h:=CB.bind (fun _=>True) Q8.cb w trivial fun a _=>CB.bind (fun _=>True) Q4.cb w trivial fun b _=>CB.bind (fun _=>True) Q4.cb w trivial fun c _=>CB.bind (fun _=>True) Q1.cb w trivial fun m _=>CB.bind (fun _=>True) Q4.cb w trivial fun s _ =>
  CB.bind (fun _=>True) Q2.cb w trivial fun t _=>CB.bind (fun _=>True) Q4.cb w trivial fun la _=>CB.bind (fun _=>True) Q8.cb w trivial fun fi _=>CB.bind (fun _=>True) Q8.cb w trivial fun mx _=>CB.bind (fun _=>True) Q8.cb w trivial fun pr _ =>
  CB.bind (fun _=>True) Q2.cb w trivial fun ep _=>CB.bind (fun _=>True) Q4.cb w trivial fun sq _=>CB.bind (fun _=>True) Q4.cb w trivial fun ct _=>B_tail a b c m s t la fi mx pr ep sq ct
 refine (h.congr (fun st=>rfl)).pr ?_;unfold xQ KS;simp only[rZ,Pr.bind_assoc,Pr.ret_bind]
def wrI:List Nat->List Int->AI×Int->Option (AI×Int)
 | k::ks,x::xs,st=>(ed st x (k:Int)).bind fun st=>wrI ks xs st
 | _,_,st=>some st
theorem Io: ∀ (ks:List Nat) (l:List Int) (t:AI),okI ks l->t.length+ks.sum<=1000000->wrI ks l (t,0)=some (t++sH ks l,0)
 | [],[],t,_,_=>by unfold wrI sH; rw[NQ]
 | [],_ :: _,_,h,_=>nomatch h
 | _ :: _,[],_,h,_=>nomatch h
 | k::ks,x::xs,t,h,hl=>by
  rw[List.sum_cons] at hl;rw[wrI,es h.1 QR,Nm,NR,Io ks xs _ h.2 (by rw[Nr,aH]; omega),sH,Ny]
def w32 (n:Int):Int:=IntKind.i32.wrap (IntKind.u32.wrap n)
theorem J7 (n:Int): -2147483648<=w32 n/\w32 n<=2147483647:=by
 unfold w32;rw[IntKind.wrap_i32];omega
theorem w32_s {n:Int} (h:0<=n/\n<=4294967295):w32 n=s32 n:=by
 unfold w32 s32;rw[IntKind.wrap_i32,IntKind.wrap_u32];split <;> omega
def toW (p:Pfx):List Int := [p.M4,p.MY,p.MW,2,w32 p.Nb,p.Na,p.MZ,p.MN,p.M7,p.Mx,p.Mz,p.MP,p.Nc]
theorem Ip (st:AI×Int) (p:Pfx):dA st p=wrI KS (toW p) (if p.Nb<0\/p.Nb>4294967295 then lU st 11 else st):=by
 have hw:=J7 p.Nb;unfold dA;have e:((if p.Nb<0 then some true else (if p.Nb>4294967295 then some true else some false)).bind fun b=>(if b=true then ((lu st 11).bind fun a=>some a) else some st))=some (if p.Nb<0\/p.Nb>4294967295 then lU st 11 else st):=by
  by_cases c:p.Nb<0
  ·rw[QX c,Nm,QX rfl,QX (.inl c)]; rfl
  ·rw[QY c];by_cases d:p.Nb>4294967295
   ·rw[QX d,Nm,QX rfl,QX (.inr d)]; rfl
   ·rw[QY d,Nm,QY QS,QY QR]
 have f: ∀ (K:AI×Int->Option (AI×Int)),((if p.Nb<0 then some true else (if p.Nb>4294967295 then some true else some false)).bind fun b=>(if b=true then ((lu st 11).bind fun a=>some a) else some st).bind K)=K (if p.Nb<0\/p.Nb>4294967295 then lU st 11 else st):=by
  intro K;rw[<- Option.bind_assoc,e,Nm]
 rw[f];show (if A0 (w32 p.Nb) then _ else _)= _;rw[QX QR];rfl
def okWp (p:Pfx):Prop:=okI KS (toL p)/\0<=p.Nb/\p.Nb<=4294967295
theorem re {p:Pfx} (h:okI KS (toL p)):(pe p).length=61:=by
 unfold pe;rw[Ch h];rfl
theorem xS {p:Pfx} (t:AI) (h:okWp p) (ht:t.length<=900000):dA (t,0) p=some (t++pe p,0):=by
 have e:toW p=toL p:=by
  unfold toW toL;rw[w32_s h.2]
 have a:=h.2;rw[Ip,QY QR,e];exact Io KS (toL p) t h.1 (by show t.length+61<= _; omega)
def n9 (p:Pfx):List Int := [p.M4,p.MY,p.MW,p.Nb,p.Na,p.MZ,p.MN,p.M7,p.Mx,p.Mz,p.MP,p.Nc]
theorem lM {st:I} (h:st.err≠0):db st=some (⟨false,[]⟩,st):=QV.dead st h
theorem J8 {st:I} (h:st.err≠0):wQ st=some ([],st):=QN.dead st h
theorem DM:CQ pW (jx 32) 0:=(Az 32 (.inl rfl)).cq (j6 32 (.inl rfl))
theorem ww {st:I} (h:st.err≠0):pW st=some (0,st):=DM.dead st h
def oa (each:Nat):Pr Int:=(jx 32).bind (j4 each)
theorem xT {each:Nat} {s:AI} {q r:Nat} {n:Int} (hq:q<=s.length) (h:oa each s q= .ok (n,r)):0<=n/\(0<each->n*each<=((s.length - r:Nat):Int))/\q<=r/\r=q+(du (bE n)).length/\r<=s.length/\s.take r=s.take q++du (bE n)/\bE n<2 ^ (32:Int).toNat:=by
 obtain⟨m,r',a,h⟩:=Pr.bind_ok h;obtain⟨a1,a2,a3,a4,a5⟩:=(j6 32 (.inl rfl)).spell _ _ _ _ hq a;unfold j4 at h;split at h
 ·exact nomatch h
 ·rename_i hn;split at h
  ·exact nomatch h
  ·rename_i he;injection h with h;obtain⟨rfl,rfl⟩:=NU h;refine⟨by omega,fun hz=> ?_,a1,a3,a2,a4,a5⟩;have:m<=((s.length - r':Nat):Int) / each:=by
    rcases Int.lt_or_le (((s.length - r':Nat):Int) / each) m with g | g
    ·exact absurd ⟨hz,g⟩ he
    ·exact g
   exact (Int.le_ediv_iff_mul_le QR).1 this
theorem DN {each:Nat} {s t:AI} {q:Nat} {n:Int} (hq:q<=s.length) (hf:bE n<2 ^ (32:Int).toNat) (hn:0<=n) (h:s.drop q=du (bE n)++t) (hl:0<each->n*each<=t.length):oa each s q= .ok (n,q+(du (bE n)).length):=by
 have g:=(j6 32 (.inl rfl)).back s t q n hq hf h;rw[oa,Pr.bind_of g];unfold j4;have hlen:=congrArg List.length h;rw[Nx,Nr] at hlen;rw[QY QR,QY];rintro⟨hz,hc⟩;have:=(Int.le_ediv_iff_mul_le (show (0:Int)<each by omega)).2 (hl hz);rw[show s.length - (q+(du (bE n)).length)=t.length by omega] at hc;omega
def xU {α:Type} (each:Nat) (p:Pr α):Pr (List α):=(oa each).bind fun n=>dG p n.toNat
theorem J9 {α:Type} {p:Pr α} {enc:α->AI} {ok:α->Prop} (each:Nat) (hp:Sp p enc ok) (he: ∀ x,ok x->each<=(enc x).length):Sp (xU each p) (fun l=>du (bE (l.length:Int))++bJ enc l) (fun l=>bE (l.length:Int)<2 ^ (32:Int).toNat/\ ∀ x,x∈l->ok x):=by
 refine⟨fun s q a r hq h=> ?_,fun s t q a hq ha h=> ?_⟩
 ·obtain⟨n,i,b,h⟩:=Pr.bind_ok h;obtain⟨a1,a2,a3,a4,a5,a6,a7⟩:=xT hq b;obtain⟨j,c,k,d,m,e⟩:=(uW hp n.toNat).spell _ _ _ _ a5 h;have hn:(a.length:Int)=n:=by omega
  refine⟨by omega,c,by rw[Nr,hn]; omega,by rw[d,a6,hn,Ny],by rw[hn]; exact a7,e⟩
 ·rw[Ny] at h;have hl:=congrArg List.length h;rw[Nx,Nr,Nr] at hl;have b:=DN (each:=each) hq ha.1 QR h (fun _=>by
   have:=j7 he a ha.2;rw[Nr,Int.natCast_add,<- Int.natCast_mul];omega)
  have f:=cM h;have g:=(uW hp a.length).back _ _ _ _ QR ⟨rfl,ha.2⟩ f;rw[xU,Pr.bind_of b,NR,g,Nr];simp only[Nat.add_assoc]
theorem Gj (each:Nat):Sh (oa each):=(Ez 32 (.inl rfl)).bind (j6 32 (.inl rfl)) (EA each)
theorem Ka {α:Type} {p:Pr α} {enc:α->AI} {ok:α->Prop} (each:Nat) (hs:Sh p) (hp:Sp p enc ok):Sh (xU each p):=by
 intro s q j h;unfold xU Pr.bind;rw[Gj each s q j h]
 cases hx:oa each (s.drop q) j with
 | error e=>rfl
 | ok x =>
  have:=(xT (by rw[Nx]; omega) hx).2.2.2.2.1;rw[Nx] at this;exact DA hs hp x.1.toNat s q x.2 QR
end Go.Proofs.YtheikonlgjdopaaGreat.Sl
