/- produceWrites_holds: part 6. -/
import Derived.KernelRfl
import Derived.Test.YtcoppaggpbfcmaaGreatK5
set_option maxRecDepth 100000
set_option maxHeartbeats 4000000
set_option linter.defProp false
namespace Go.Proofs.YtcoppaggpbfcmaaGreat.Sl
open Go.RowKit
set_option linter.unusedVariables false
set_option linter.unusedSimpArgs false
def DK := @Prod.mk.inj
def Fa := @Tryz.results68
abbrev Pr (α:Type):=List UInt8→Nat→Except Int (α×Nat)
namespace Pr
variable {α β:Type}
def ret (a:α):Pr α:=fun _ q=> .ok (a,q)
def err (e:Int):Pr α:=fun _ _=> .error e
def bind (p:Pr α) (f:α→Pr β):Pr β:=fun s q=>match p s q with | .error e=> .error e | .ok (a,r)=>f a s r
theorem bind_ok {p:Pr α} {f:α→Pr β} {s:List UInt8} {q:Nat} {x:β×Nat} (h:p.bind f s q= .ok x): ∃ a r,p s q= .ok (a,r)∧f a s r= .ok x:=by
 unfold bind at h
 cases hp:p s q with
 | error e=>rw[hp] at h; exact nomatch h
 | ok y=>rw[hp] at h; exact⟨_,_,rfl,h⟩
theorem bind_of {p:Pr α} {f:α→Pr β} {s:List UInt8} {q r:Nat} {a:α} (h:p s q= .ok (a,r)):p.bind f s q=f a s r:=by unfold bind; rw[h]
theorem bind_err {p:Pr α} {f:α→Pr β} {s:List UInt8} {q:Nat} {e:Int} (h:p s q= .error e):p.bind f s q= .error e:=by unfold bind; rw[h]
end Pr
structure CR {α:Type} (op:I→Option (α×I)) (p:Pr α) (z:α):Prop where
 dead: ∀ st:I,st.err≠0→op st=some (z,st)
 bad: ∀ (s:List UInt8) (q:Nat) (e:Int),q≤s.length→p s q= .error e→ ∃ st:I,op ⟨s.drop q,q,0⟩=some (z,st)∧st.err=e∧e≠0
 good: ∀ (s:List UInt8) (q:Nat) (a:α) (r:Nat),q≤s.length→p s q= .ok (a,r)→op ⟨s.drop q,q,0⟩=some (a,⟨s.drop r,r,0⟩)
structure Sp {α:Type} (p:Pr α) (enc:α→List UInt8) (ok:α→Prop):Prop where
 spell: ∀ (s:List UInt8) (q:Nat) (a:α) (r:Nat),q≤s.length→p s q= .ok (a,r)→q≤r∧r≤s.length∧r=q+(enc a).length∧s.take r=s.take q++enc a∧ok a
 back: ∀ (s t:List UInt8) (q:Nat) (a:α),q≤s.length→ok a→s.drop q=enc a++t→p s q= .ok (a,q+(enc a).length)
theorem bZ {s x t:List UInt8} {q:Nat} (h:s.drop q=x++t):s.drop (q+x.length)=t:=by rw[← DW,h,List.drop_left]
theorem lQ (s:List UInt8) (q k:Nat):s.take (q+k)=s.take q++(s.drop q).take k:=List.take_add
theorem xU (q:Int) (c:UInt8) (k:Nat):be (q*256+c.toNat) (k+1)=be q k ++ [c]:=by
 have hc:=c.toNat_lt
 unfold be
 rw[List.range_succ,List.map_append]
 congr 1
 ·apply List.map_congr_left
  intro i hi
  have hi:=List.mem_range.1 hi
  have e:k+1 - 1 - i=(k - 1 - i)+1:=by omega
  have e2:(q*256+(c.toNat:Int)) / 256=q:=by omega
  rw[e,show 8*(k - 1 - i+1)=8+8*(k - 1 - i) by omega,Int.pow_add,← Int.ediv_ediv_of_nonneg (by decide),show (2 ^ 8:Int)=256 from rfl,e2]
 ·simp only[List.map_cons,List.map_nil,Nat.add_sub_cancel,Nat.sub_self,Nat.mul_zero,Int.pow_zero,Int.ediv_one]
  congr 1
  apply UInt8.toNat_inj.1
  simp[UInt8.toNat_ofNat']
  omega
theorem xV (cs:List UInt8): ∀ (q:Int) (k:Nat),be (cs.foldl (fun n d=>n*256+(d.toNat:Int)) q) (k+cs.length)=be q k++cs:=by
 induction cs with
 | nil=>intro q k; simp
 | cons c cs ih =>
  intro q k
  have h:=ih (q*256+c.toNat) (k+1)
  rw[xU] at h
  rw[List.foldl_cons,Dh,show k+(cs.length+1)=k+1+cs.length by omega,h]
  simp
theorem za (c:UInt8):be (sgn c) 1 = [c]:=by
 have hc:=c.toNat_lt
 unfold be
 simp only[List.range_one,List.map_cons,List.map_nil,Nat.sub_self,Nat.mul_zero,Int.pow_zero,Int.ediv_one]
 congr 1
 apply UInt8.toNat_inj.1
 unfold sgn
 simp[UInt8.toNat_ofNat']
 split <;> omega
theorem vM (l:List UInt8) (h:l ≠ []):be (cG l) l.length=l:=by
 cases l with
 | nil=>exact absurd rfl h
 | cons c cs =>
  have h:=xV cs (sgn c) 1
  rw[za] at h
  rw[Dh,Nat.add_comm]
  exact h
def kO (k:Nat):Pr Int:=fun s q=>if s.length<q+k then .error 1 else .ok (cG ((s.drop q).take k),q+k)
theorem zb (k:Nat) (h1:1≤k) (h8:k≤8) (kk:Int) (hk:kk=(k:Int)):CR (fun st=>fM st kk) (kO k) 0:=by
 subst hk
 refine⟨fun st h=> ?_,fun s q e hq h=> ?_,fun s q a r hq h=> ?_⟩
 ·rw[gp,j5 h]
 ·unfold kO at h
  split at h
  ·rename_i hl
   injection h with h
   subst h
   refine⟨⟨s.drop q,q,1⟩,?_,rfl,by decide⟩
   simp only[gp]
   rw[mv _ _ _ (by omega) (by omega) (by rw[Dn]; omega)]
  ·exact nomatch h
 ·unfold kO at h
  split at h
  ·exact nomatch h
  ·rename_i hl
   injection h with h
   obtain⟨rfl,rfl⟩:=DK h
   simp only[gp]
   rw[sK _ _ _ h1 h8 (by rw[Dn]; omega),DW]
theorem fZ (k:Nat) (h1:1≤k) (h8:k≤8):Sp (kO k) (fun n=>be n k) (fun n=>bj n k=true):=by
 refine⟨fun s q a r hq h=> ?_,fun s t q a hq ha h=> ?_⟩
 ·unfold kO at h
  split at h
  ·exact nomatch h
  ·rename_i hl
   injection h with h
   obtain⟨rfl,rfl⟩:=DK h
   have hn:((s.drop q).take k).length=k:=by rw[D3,Dn]; omega
   have hne:(s.drop q).take k ≠ []:=fun h0=>by rw[h0] at hn; simp at hn; omega
   have hb:be (cG ((s.drop q).take k)) k=(s.drop q).take k:=by
    have:=vM _ hne
    rwa [hn] at this
   refine⟨by omega,by omega,by rw[az],by rw[hb,lQ],?_⟩
   rw[← wi _ _ h1 h8,hb]
 ·have hl:=congrArg List.length h
  rw[Dn,Db,az] at hl
  unfold kO
  rw[if_neg (by omega),h,List.take_append_of_le_length (by rw[az]; omega),List.take_of_length_le (by rw[az]; omega),az,tL _ _ h1 h8 ha]
def uf (n:Int):Pr Bl:=fun s q=>if n= -1 then .ok (⟨true,[]⟩,q) else if n<0 then .error 4 else if (s.length:Int)<q+n then .error 1 else .ok (⟨false,(s.drop q).take n.toNat⟩,q+n.toNat)
theorem mE (n:Int) (s:List UInt8) (q:Nat) (hq:q≤s.length) :
 (∃ e st,uf n s q= .error e∧iD ⟨s.drop q,q,0⟩ n=(⟨false,[]⟩,st)∧st.err=e∧e≠0)∨(∃ b r,uf n s q= .ok (b,r)∧iD ⟨s.drop q,q,0⟩ n=(b,⟨s.drop r,r,0⟩)∧q≤r∧r≤s.length∧bH b=n∧aT b=true∧s.take r=s.take q++b.data∧r=q+b.data.length):=by
 have hd:(s.drop q).length=s.length - q:=Dn
 unfold uf iD
 rw[if_neg (show ¬ ((⟨s.drop q,q,0⟩:I).err≠0) by simp)]
 by_cases h1:n= -1
 ·rw[if_pos h1,if_pos h1]
  exact .inr ⟨_,_,rfl,rfl,DJ _,hq,h1.symm,rfl,by simp,rfl⟩
 rw[if_neg h1,if_neg h1]
 by_cases h2:n<0
 ·rw[if_pos h2,xA _ _ _ h2]
  exact .inl ⟨_,_,rfl,rfl,rfl,by decide⟩
 rw[if_neg h2]
 by_cases h3:(s.length:Int)<q+n
 ·rw[if_pos h3,oQ _ _ _ (by omega)]
  exact .inl ⟨_,_,rfl,rfl,rfl,by decide⟩
 rw[if_neg h3]
 obtain⟨m,rfl⟩: ∃ m:Nat,n=(m:Int):=⟨n.toNat,by omega⟩
 rw[D4,tR _ _ _ (by omega),DW]
 have hl:((s.drop q).take m).length=m:=by rw[D3]; omega
 exact .inr ⟨_,_,rfl,rfl,by omega,by omega,by unfold bH; simp only[Bool.false_eq_true,if_false]; rw[hl],rfl,lQ s q m,by rw[hl]⟩
def mF (k:Nat):Pr Bl:=(kO k).bind uf
theorem zc {lenop:I→Int×I} {p:Pr Int} (hl:CR (fun st=>some (lenop st)) p 0) (hs: ∀ s q a r,q≤s.length→p s q= .ok (a,r)→r≤s.length):CR (fun st=>some (iD (lenop st).2 (lenop st).1)) (p.bind uf) (⟨false,[]⟩:Bl):=by
 refine⟨fun st h=> ?_,fun s q e hq h=> ?_,fun s q a r hq h=> ?_⟩
 ·have h0:=C8 (hl.dead st h)
  rw[h0,nN h]
 ·cases hp:p s q with
  | error e' =>
   rw[Pr.bind_err hp] at h
   injection h with h
   subst h
   obtain⟨st,h1,h2,h3⟩:=hl.bad s q e' hq hp
   have h0:=C8 h1
   rw[h0,nN (by simp only[h2]; exact h3)]
   exact⟨st,rfl,h2,h3⟩
  | ok x =>
   obtain⟨n,m⟩:=x
   rw[Pr.bind_of hp] at h
   have h0:=C8 (hl.good s q n m hq hp)
   rw[h0]
   rcases mE n s m (hs _ _ _ _ hq hp) with⟨e',st,g1,g2,g3,g4⟩ | ⟨b,r,g1,g2,_⟩
   ·rw[g1] at h
    injection h with h
    subst h
    exact⟨st,by rw[g2],g3,g4⟩
   ·rw[g1] at h
    exact nomatch h
 ·obtain⟨n,m,hp,h⟩:=Pr.bind_ok h
  have h0:=C8 (hl.good s q n m hq hp)
  rw[h0]
  rcases mE n s m (hs _ _ _ _ hq hp) with⟨e',st,g1,g2,g3,g4⟩ | ⟨b,r',g1,g2,_⟩
  ·rw[g1] at h
   exact nomatch h
  ·rw[g1] at h
   injection h with h
   obtain⟨rfl,rfl⟩:=DK h
   rw[g2]
theorem zd {p:Pr Int} {enc:Int→List UInt8} {ok:Int→Prop} (hp:Sp p enc ok):Sp (p.bind uf) (fun b=>enc (bH b)++b.data) (fun b=>ok (bH b)∧aT b=true):=by
 refine⟨fun s q a r hq h=> ?_,fun s t q a hq ha h=> ?_⟩
 ·obtain⟨n,m,h1,h⟩:=Pr.bind_ok h
  obtain⟨a1,a2,a3,a4,a5⟩:=hp.spell _ _ _ _ hq h1
  rcases mE n s m a2 with⟨e',st,g1,g2,g3,g4⟩ | ⟨b,r',g1,g2,b1,b2,b3,b4,b5,b6⟩
  ·rw[g1] at h
   exact nomatch h
  ·rw[g1] at h
   injection h with h
   obtain⟨rfl,rfl⟩:=DK h
   refine⟨by omega,b2,by rw[Db,b3]; omega,by rw[b5,a4,b3,Df],by rw[b3]; exact a5,b4⟩
 ·rw[Df] at h
  have h1:=hp.back s _ q _ hq ha.1 h
  rw[Pr.bind_of h1,Db,← Nat.add_assoc]
  have h2:=bZ h
  have hl:=congrArg List.length h
  rw[Dn,Db,Db] at hl
  generalize (enc (bH a)).length=m at h2 hl ⊢
  obtain⟨nu,d⟩:=a
  unfold uf bH
  cases nu with
  | true =>
   have:d = []:=by have:=ha.2; unfold aT at this; simpa using this
   subst this
   rw[if_pos rfl,if_pos rfl]
   rfl
  | false =>
   simp only[Bool.false_eq_true,if_false]
   simp only at h2 hl
   rw[if_neg (by omega),if_neg (by omega),h2,if_neg (by omega),D4,List.take_left]
theorem qt (k:Nat) (h1:1≤k) (h8:k≤8) (kk:Int) (hk:kk=(k:Int)):CR (fun st=>kw st kk) (mF k) (⟨false,[]⟩:Bl) :=
 zc (lenop:=fun st=>dr st kk) (zb k h1 h8 kk hk) (fun s q a r hq h=>((fZ k h1 h8).spell s q a r hq h).2.1)
theorem ik (k:Nat) (h1:1≤k) (h8:k≤8):Sp (mF k) (fun b=>be (bH b) k++b.data) (fun b=>bj (bH b) k=true∧aT b=true):=zd (fZ k h1 h8)
theorem jB (bs:Int) (a:Nat): ∀ (l:List UInt8) (b acc i:Nat),vgo bs l (a+b) acc i=((vgo bs l b acc i).1,⟨(vgo bs l b acc i).2.rest,a+(vgo bs l b acc i).2.pos,(vgo bs l b acc i).2.err⟩)
 | [],b,acc,i=>rfl
 | c::l,b,acc,i=>by
  have ih:=jB bs a l (b+1) (acc+c.toNat % 128*2 ^ (7*i)) (i+1)
  unfold vgo
  split
  ·rfl
  ·split
   ·rw[Nat.add_assoc,ih]
   ·split
    ·rfl
    ·rfl
theorem qu (bs:Int): ∀ (l:List UInt8) (b acc i:Nat),(vgo bs l b acc i).2.err≠0→(vgo bs l b acc i).1=0
 | [],b,acc,i,h=>rfl
 | c::l,b,acc,i,h=>by
  have ih:=qu bs l (b+1) (acc+c.toNat % 128*2 ^ (7*i)) (i+1)
  revert h
  unfold vgo
  split
  ·exact fun _=>rfl
  ·split
   ·exact ih
   ·split
    ·exact fun _=>rfl
    ·exact fun h=>absurd rfl h
def nw (bs:Int):Pr Nat:=fun s q=>if (vgo bs (s.drop q) 0 0 0).2.err=0 then .ok ((vgo bs (s.drop q) 0 0 0).1,q+(vgo bs (s.drop q) 0 0 0).2.pos) else .error (vgo bs (s.drop q) 0 0 0).2.err
theorem sa {bs:Int} {s:List UInt8} {q n r:Nat} (hq:q≤s.length) (h:nw bs s q= .ok (n,r)):dn bs ⟨s.drop q,q,0⟩=(n,⟨s.drop r,r,0⟩)∧q≤r∧r≤s.length∧r=q+(bb n).length∧s.take r=s.take q++bb n:=by
 have hd:(s.drop q).length=s.length - q:=Dn
 unfold nw at h
 split at h
 ·rename_i he
  injection h with h
  obtain⟨h1,h2⟩:=DK h
  obtain⟨k,v,g1,g2,g3,g4,_⟩:=vgo_ok bs (s.drop q) 0 0 0 _ _ (rfl: _=((vgo bs (s.drop q) 0 0 0).1,(vgo bs (s.drop q) 0 0 0).2)) he
  have g3':(vgo bs (s.drop q) 0 0 0).1=v:=by rw[g3]; simp
  rw[g3'] at h1
  subst h1
  rw[g1] at h2
  simp only[Nat.zero_add] at h2
  have hlk:(bb v).length=k:=by rw[g4,D3]; omega
  refine⟨?_,by omega,by omega,by omega,?_⟩
  ·unfold dn
   rw[if_neg (by simp)]
   have:=jB bs q (s.drop q) 0 0 0
   rw[Nat.add_zero] at this
   simp only
   rw[this,g3',g1,← h2,DW]
   simp
  ·rw[← h2,lQ,g4]
 ·exact nomatch h
theorem ze {bs:Int} {s:List UInt8} {q:Nat} {e:Int} (h:nw bs s q= .error e): ∃ st,dn bs ⟨s.drop q,q,0⟩=(0,st)∧st.err=e∧e≠0:=by
 unfold nw at h
 split at h
 ·exact nomatch h
 ·rename_i he
  injection h with h
  subst h
  have h0:=qu bs (s.drop q) 0 0 0 he
  refine⟨(dn bs ⟨s.drop q,q,0⟩).2,?_,?_,he⟩
  ·unfold dn
   rw[if_neg (by simp)]
   have:=jB bs q (s.drop q) 0 0 0
   rw[Nat.add_zero] at this
   simp only
   rw[this,h0]
  ·unfold dn
   rw[if_neg (by simp)]
   have:=jB bs q (s.drop q) 0 0 0
   rw[Nat.add_zero] at this
   simp only
   rw[this]
theorem vN {bs:Int} {st:I} (h:st.err≠0):dn bs st=(0,st):=if_pos h
theorem ug (bs:Int) (hb:bs=32∨bs=64): ∀ (l:List UInt8) (b acc i:Nat),acc<2 ^ (7*i)→(vgo bs l b acc i).2.err=0→(vgo bs l b acc i).1<2 ^ bs.toNat
 | [],b,acc,i,ha,h=>by simp[vgo] at h
 | c::l,b,acc,i,ha,h=>by
  have ih:=ug bs hb l (b+1) (acc+c.toNat % 128*2 ^ (7*i)) (i+1)
  revert h
  unfold vgo
  split
  ·exact fun h=>absurd h (by simp)
  ·rename_i hc
   obtain⟨h1,h2⟩:=mT bs hb acc (c.toNat % 128) i ha (by omega) (Nat.mod_lt _ (by decide)) (fun h=>hc (.inr h))
   split
   ·exact ih h1
   ·split
    ·exact fun h=>absurd h (by simp)
    ·exact fun _=>h2
theorem wD (bs:Int) (hb:bs=32∨bs=64):Sp (nw bs) bb (fun n=>n<2 ^ bs.toNat):=by
 refine⟨fun s q a r hq h=> ?_,fun s t q a hq ha h=> ?_⟩
 ·obtain⟨h1,h2,h3,h4,h5⟩:=sa hq h
  refine⟨h2,h3,h4,h5,?_⟩
  unfold nw at h
  split at h
  ·rename_i he
   injection h with h
   rw[← (DK h).1]
   exact ug bs hb _ _ _ _ (by simp) he
  ·exact nomatch h
 ·unfold nw
  rw[h,Aj bs (by omega) a 0 0 0 t (by simpa using ha) (by omega)]
  simp
def ly (bs:Int):Pr Int:=(nw bs).bind fun n=> .ret (jY n)
theorem te (bs:Int) (hb:bs=32∨bs=64):CR (fun st=>some (eg (dn bs st))) (ly bs) 0:=by
 refine⟨fun st h=> ?_,fun s q e hq h=> ?_,fun s q a r hq h=> ?_⟩
 ·rw[vN h]
  simp[eg,jY]
 ·cases hp:nw bs s q with
  | error e' =>
   rw[ly,Pr.bind_err hp] at h
   injection h with h
   subst h
   obtain⟨st,h1,h2,h3⟩:=ze hp
   exact⟨st,by rw[h1]; simp[eg,jY],h2,h3⟩
  | ok x =>
   rw[ly,Pr.bind_of (a:=x.1) (r:=x.2) hp] at h
   exact nomatch h
 ·obtain⟨n,m,hp,h⟩:=Pr.bind_ok h
  injection h with h
  obtain⟨rfl,rfl⟩:=DK h
  rw[(sa hq hp).1]
  rfl
theorem gZ (bs:Int) (hb:bs=32∨bs=64):Sp (ly bs) (fun n=>bb (aI n)) (fun n=>aI n<2 ^ bs.toNat):=by
 refine⟨fun s q a r hq h=> ?_,fun s t q a hq ha h=> ?_⟩
 ·obtain⟨n,m,hp,h⟩:=Pr.bind_ok h
  injection h with h
  obtain⟨rfl,rfl⟩:=DK h
  have:=(wD bs hb).spell _ _ _ _ hq hp
  rwa [vd]
 ·rw[ly,Pr.bind_of ((wD bs hb).back s t q _ hq ha h)]
  simp only[Pr.ret,vc]
def jC:Pr Bl:=(ly 32).bind uf
theorem sb:CR bF jC (⟨false,[]⟩:Bl) :=
 zc (lenop:=fun st=>eg (dn 32 st)) (te 32 (.inl rfl)) (fun s q a r hq h=>((gZ 32 (.inl rfl)).spell s q a r hq h).2.1)
theorem gc:Sp jC (fun b=>bb (aI (bH b))++b.data) (fun b=>aI (bH b)<2 ^ (32:Int).toNat∧aT b=true):=zd (gZ 32 (.inl rfl))
def lz (p:Pr Bl):Pr (List UInt8):=p.bind fun b=>if b.null then .err 4 else .ret b.data
theorem wE {op:I→Bl×I} {p:Pr Bl} (h:CR (fun st=>some (op st)) p (⟨false,[]⟩:Bl)) (hb: ∀ s q a r,q≤s.length→p s q= .ok (a,r)→aT a=true):CR (fun st=>some (pN (op st))) (lz p) []:=by
 refine⟨fun st hs=> ?_,fun s q e hq he=> ?_,fun s q a r hq hg=> ?_⟩
 ·have h0:=C8 (h.dead st hs)
  rw[h0]
  rfl
 ·cases hp:p s q with
  | error e' =>
   rw[lz,Pr.bind_err hp] at he
   injection he with he
   subst he
   obtain⟨st,h1,h2,h3⟩:=h.bad s q _ hq hp
   have h0:=C8 h1
   rw[h0]
   exact⟨st,rfl,h2,h3⟩
  | ok x =>
   obtain⟨b,r⟩:=x
   rw[lz,Pr.bind_of hp] at he
   have h0:=C8 (h.good s q b r hq hp)
   rw[h0]
   have hbr:=hb _ _ _ _ hq hp
   split at he
   ·rename_i hn
    injection he with he
    subst he
    have:b.data = []:=by unfold aT at hbr; rw[hn] at hbr; simpa using hbr
    refine⟨⟨s.drop r,r,4⟩,?_,rfl,by decide⟩
    unfold pN
    simp only[hn,if_true,this]
    rfl
   ·exact nomatch he
 ·obtain⟨b,m,hp,hg⟩:=Pr.bind_ok hg
  have h0:=C8 (h.good s q b m hq hp)
  rw[h0]
  split at hg
  ·exact nomatch hg
  ·rename_i hn
   injection hg with hg
   obtain⟨rfl,rfl⟩:=DK hg
   unfold pN
   simp only[hn,Bool.false_eq_true,if_false]
theorem tf {p:Pr Bl} {enc:Bl→List UInt8} {ok:Bl→Prop} (hp:Sp p enc ok):Sp (lz p) (fun d=>enc ⟨false,d⟩) (fun d=>ok ⟨false,d⟩):=by
 refine⟨fun s q a r hq h=> ?_,fun s t q a hq ha h=> ?_⟩
 ·obtain⟨b,m,h1,h⟩:=Pr.bind_ok h
  have h2:=hp.spell _ _ _ _ hq h1
  split at h
  ·exact nomatch h
  ·rename_i hn
   injection h with h
   obtain⟨rfl,rfl⟩:=DK h
   obtain⟨nu,d⟩:=b
   simp only[Bool.not_eq_true] at hn
   subst hn
   exact h2
 ·rw[lz,Pr.bind_of (hp.back s t q _ hq ha h)]
  rfl
def wF:Pr (List UInt8):=lz (mF 2)
def sc:Pr (List UInt8):=lz jC
theorem Aq:CR rU wF []:=wE (op:=fun st=>fH st 2) (qt 2 (by decide) (by decide) 2 rfl) (fun s q a r hq h=>((ik 2 (by decide) (by decide)).spell s q a r hq h).2.2.2.2.2)
theorem tg:Sp wF (fun d=>be (d.length:Int) 2++d) (fun d=>bj (d.length:Int) 2=true∧aT ⟨false,d⟩=true):=tf (ik 2 (by decide) (by decide))
theorem Ar:CR qb sc []:=wE (op:=e7) sb (fun s q a r hq h=>(gc.spell s q a r hq h).2.2.2.2.2)
theorem lR:Sp sc (fun d=>bb (aI (d.length:Int))++d) (fun d=>aI (d.length:Int)<2 ^ (32:Int).toNat∧aT ⟨false,d⟩=true):=tf gc
theorem kz (t l:List UInt8):fb (t,0) l=(t++l,0):=rfl
theorem wG (t:List UInt8) (e:Int):g7 (t,0) e=(t,e):=rfl
theorem lA {n k:Int} (h:bj n k=true): -9223372036854775808≤n∧n≤9223372036854775807:=by
 unfold bj at h
 simp only[Bool.and_eq_true,decide_eq_true_eq] at h
 obtain⟨⟨⟨h1,h2⟩,h3⟩,h4⟩:=h
 have:(2:Nat) ^ (8*k.toNat - 1)≤2 ^ 63:=Nat.pow_le_pow_right (by decide) (by omega)
 have h5:((2:Int) ^ (8*k.toNat - 1))=((2 ^ (8*k.toNat - 1):Nat):Int):=by simp
 have h6:(2:Nat) ^ 63=9223372036854775808:=by decide
 omega
theorem lS {t:List UInt8} {n k:Int} (hf:bj n k=true) (ht:t.length≤140737488355320):ff (t,0) n k=some (t++be n k.toNat,0):=by
 rw[yE _ _ _ ⟨lA hf,by simp only; omega⟩]
 unfold rg
 rw[if_pos hf,kz]
theorem lB {t:List UInt8} {b:Bl} {k:Int} (hf:bj (bH b) k=true) (hb:aT b=true) (ht:t.length+b.data.length≤140737488355320):iO (t,0) b k=some (t++(be (bH b) k.toNat++b.data),0):=by
 have h8:1≤k∧k≤8:=by unfold bj at hf; simp only[Bool.and_eq_true,decide_eq_true_eq] at hf; exact⟨hf.1.1.1,hf.1.1.2⟩
 rw[ne _ _ _ ⟨by omega,by simp only; omega⟩]
 unfold jZ kr rg
 rw[if_pos hb,if_pos hf,kz,kz,Df]
theorem iL {t:List UInt8} {b:Bl} (hb:aT b=true) (hl:b.data.length≤2147483647) (ht:t.length+b.data.length≤140737488355310):fX (t,0) b=some (t++(bb (aI (bH b))++b.data),0):=by
 rw[mj _ _ (by simp only; omega)]
 unfold iV kr fz
 rw[if_pos hb,if_pos (by unfold bH; split <;> omega),kz,kz,Df]
structure CQ {α:Type} (op:I→Option (α×I)) (p:Pr α) (z:α):Prop where
 dead: ∀ st:I,st.err≠0→op st=some (z,st)
 run: ∀ (s:List UInt8) (q:Nat),q≤s.length→(∃ (e:Int) (st:I),p s q= .error e∧op ⟨s.drop q,q,0⟩=some (z,st)∧st.err=e∧st.err≠0)∨(∃ (a:α) (r:Nat),p s q= .ok (a,r)∧op ⟨s.drop q,q,0⟩=some (a,⟨s.drop r,r,0⟩)∧q≤r∧r≤s.length)
theorem CR.cq {α:Type} {op:I→Option (α×I)} {p:Pr α} {z:α} {enc:α→List UInt8} {ok:α→Prop} (h:CR op p z) (hs:Sp p enc ok):CQ op p z:=by
 refine⟨h.dead,fun s q hq=> ?_⟩
 cases hp:p s q with
 | error e =>
  obtain⟨st,h1,h2,h3⟩:=h.bad s q e hq hp
  exact .inl ⟨e,st,rfl,h1,h2,by rw[h2]; exact h3⟩
 | ok x =>
  have:=hs.spell s q x.1 x.2 hq hp
  exact .inr ⟨x.1,x.2,rfl,h.good s q x.1 x.2 hq hp,this.1,this.2.1⟩
theorem uh (k:Nat) (h1:1≤k) (h8:k≤8) (kk:Int) (hk:kk=(k:Int)):CQ (fun st=>fM st kk) (kO k) 0:=(zb k h1 h8 kk hk).cq (fZ k h1 h8)
theorem Q1:CQ (fun st=>fM st 1) (kO 1) 0:=uh 1 (by decide) (by decide) 1 rfl
theorem Q2:CQ (fun st=>fM st 2) (kO 2) 0:=uh 2 (by decide) (by decide) 2 rfl
theorem Q4:CQ (fun st=>fM st 4) (kO 4) 0:=uh 4 (by decide) (by decide) 4 rfl
theorem Q8:CQ (fun st=>fM st 8) (kO 8) 0:=uh 8 (by decide) (by decide) 8 rfl
theorem qv {st:I} {k:Int} (h:st.err≠0):fM st k=some (0,st):=by rw[gp,j5 h]
theorem pD (l:List UInt8) (q:Nat) (e:Int):cB ⟨l,q,0⟩ e=⟨l,q,e⟩:=rfl
theorem QF2:CQ (fun st=>kw st 2) (mF 2) (⟨false,[]⟩:Bl):=(qt 2 (by decide) (by decide) 2 rfl).cq (ik 2 (by decide) (by decide))
theorem QF4:CQ (fun st=>kw st 4) (mF 4) (⟨false,[]⟩:Bl):=(qt 4 (by decide) (by decide) 4 rfl).cq (ik 4 (by decide) (by decide))
theorem ui {st:I} {k:Int} (h:st.err≠0):kw st k=some (⟨false,[]⟩,st):=by rw[xF,vl h]
theorem QV:CQ bF jC (⟨false,[]⟩:Bl):=sb.cq gc
theorem QT:CQ rU wF []:=Aq.cq tg
theorem QN:CQ qb sc []:=Ar.cq lR
theorem zf (q:Nat):du ⟨[],q,0⟩=some (0,⟨[],q,0⟩):=rfl
theorem sd (t:List UInt8):otx (t,0)=(t,0):=by simp[otx]
theorem otx_e (t:List UInt8) (e:Int) (h:e≠0):otx (t,e)=([],e):=by simp[otx,h]
theorem gN {n:Int} {k:Int} (h:k=2∨k=4∨k=8) (h1: -32768≤n) (h2:n≤32767):bj n k=true:=by
 have e2:(2:Int) ^ (8*(2:Int).toNat - 1)=32768:=by decide
 have e4:(2:Int) ^ (8*(4:Int).toNat - 1)=2147483648:=by decide
 have e8:(2:Int) ^ (8*(8:Int).toNat - 1)=9223372036854775808:=by decide
 unfold bj
 simp only[Bool.and_eq_true,decide_eq_true_eq]
 rcases h with rfl | rfl | rfl <;> omega
open Go.RowKit
set_option linter.unusedVariables false
set_option linter.unusedSimpArgs false
def nx (each:Nat) (n:Int):Pr Int:=fun s q=>if n<0 then .error 4 else if 0<each∧((s.length - q:Nat):Int) / each<n then .error 1 else .ok (n,q)
def lC (k each:Nat):Pr Int:=(kO k).bind (nx each)
theorem og {k each:Nat} (h1:1≤k) (h8:k≤8) {s:List UInt8} {q r:Nat} {n:Int} (hq:q≤s.length) (h:lC k each s q= .ok (n,r)):0≤n∧(0<each→n*each≤((s.length - r:Nat):Int))∧r=q+k∧r≤s.length∧s.take r=s.take q++be n k∧bj n k=true:=by
 obtain⟨m,r',h2,h⟩:=Pr.bind_ok h
 obtain⟨a1,a2,a3,a4,a5⟩:=(fZ k h1 h8).spell _ _ _ _ hq h2
 unfold nx at h
 split at h
 ·exact nomatch h
 ·rename_i hn
  split at h
  ·exact nomatch h
  ·rename_i he
   injection h with h
   obtain⟨rfl,rfl⟩:=DK h
   rw[az] at a3
   refine⟨by omega,fun hz=> ?_,a3,a2,a4,a5⟩
   have:m≤((s.length - r':Nat):Int) / each:=by
    rcases Int.lt_or_le (((s.length - r':Nat):Int) / each) m with g | g
    ·exact absurd ⟨hz,g⟩ he
    ·exact g
   exact (Int.le_ediv_iff_mul_le (by omega)).1 this
theorem xW {k each:Nat} (h1:1≤k) (h8:k≤8) {s t:List UInt8} {q:Nat} {n:Int} (hq:q≤s.length) (hf:bj n k=true) (hn:0≤n) (h:s.drop q=be n k++t) (hl:0<each→n*each≤t.length):lC k each s q= .ok (n,q+k):=by
 have g:=(fZ k h1 h8).back s t q n hq hf h
 rw[az] at g
 rw[lC,Pr.bind_of g]
 unfold nx
 have hlen:=congrArg List.length h
 rw[Dn,Db,az] at hlen
 rw[if_neg (by omega),if_neg]
 rintro⟨hz,hc⟩
 have:=(Int.le_ediv_iff_mul_le (show (0:Int)<each by omega)).2 (hl hz)
 rw[show s.length - (q+k)=t.length by omega] at hc
 omega
theorem wH (k each:Nat) (h1:1≤k) (h8:k≤8) (kk ee:Int) (hk:kk=(k:Int)) (he:ee=(each:Int)) (h9:ee≤1000):CQ (fun st=>iA st kk ee) (lC k each) 0:=by
 subst hk
 refine⟨fun st h=> ?_,fun s q hq=> ?_⟩
 ·show iA st k ee= _
  rw[nO _ _ _ ⟨by omega,by omega⟩]
  unfold iy
  rw[j5 h]
  simp only
  rw[if_pos h]
 ·show (∃ e st,lC k each s q= .error e∧iA ⟨s.drop q,q,0⟩ k ee=some (0,st)∧ _∧ _)∨(∃ a r,lC k each s q= .ok (a,r)∧iA ⟨s.drop q,q,0⟩ k ee=some (a,⟨s.drop r,r,0⟩)∧q≤r∧r≤s.length)
  rw[nO _ _ _ ⟨by omega,by omega⟩]
  unfold iy
  rcases (uh k h1 h8 k rfl).run s q hq with⟨e,st,p1,g1,x1,y1⟩ | ⟨n,r,p1,g1,n1,l1⟩
  ·rw[gp] at g1
   have g1:=C8 g1
   obtain⟨u1,u2⟩:=DK g1
   rw[u2]
   exact .inl ⟨e,st,Pr.bind_err p1,by rw[if_pos y1],x1,y1⟩
  ·rw[gp] at g1
   have g1:=C8 g1
   have u3:dr ⟨s.drop q,q,0⟩ k=(n,⟨s.drop r,r,0⟩):=g1
   rw[u3,lC,Pr.bind_of p1]
   simp only
   rw[if_neg (by simp)]
   unfold nx
   by_cases hn:n<0
   ·rw[if_pos hn,if_pos hn]
    exact .inl ⟨4,_,rfl,rfl,rfl,by simp[cB]⟩
   ·rw[if_neg hn,if_neg hn,Dn,he]
    by_cases hc:0<each∧((s.length - r:Nat):Int) / each<n
    ·rw[if_pos hc,if_pos ⟨by omega,hc.2⟩]
     exact .inl ⟨1,_,rfl,rfl,rfl,by simp[cB]⟩
    ·rw[if_neg hc,if_neg (fun h=>hc ⟨by omega,h.2⟩)]
     exact .inr ⟨n,r,rfl,rfl,n1,l1⟩
theorem qw {st:I} {k e:Int} (h:st.err≠0) (hk:0≤k∧k≤1000) (he:0≤e∧e≤1000):iA st k e=some (0,st):=by
 rw[nO _ _ _ ⟨by omega,by omega⟩]
 unfold iy
 rw[j5 h]
 simp only
 rw[if_pos h]
def jQ {α:Type} (p:Pr α):Nat→Pr (List α)
 | 0=> .ret []
 | n+1=>p.bind fun a=>(jQ p n).bind fun l=> .ret (a::l)
def aQ {α:Type} (enc:α→List UInt8):List α→List UInt8
 | [] => []
 | a::l=>enc a++aQ enc l
theorem qx {α:Type} {p:Pr α} {enc:α→List UInt8} {ok:α→Prop} (hp:Sp p enc ok): ∀ n:Nat,Sp (jQ p n) (aQ enc) (fun l=>l.length=n∧ ∀ x,x∈l→ok x)
 | 0=>by
  refine⟨fun s q a r hq h=> ?_,fun s t q a hq ha h=> ?_⟩
  ·injection h with h
   obtain⟨rfl,rfl⟩:=DK h
   exact⟨DJ _,hq,rfl,by simp[aQ],rfl,fun x h=>nomatch h⟩
  ·obtain rfl:=List.length_eq_zero_iff.1 ha.1
   rfl
 | n+1=>by
  have ih:=qx hp n
  refine⟨fun s q a r hq h=> ?_,fun s t q a hq ha h=> ?_⟩
  ·obtain⟨x,q1,h1,h⟩:=Pr.bind_ok h
   obtain⟨l,q2,h2,h⟩:=Pr.bind_ok h
   injection h with h
   obtain⟨rfl,rfl⟩:=DK h
   obtain⟨a1,a2,a3,a4,a5⟩:=hp.spell _ _ _ _ hq h1
   obtain⟨b1,b2,b3,b4,b5,b6⟩:=ih.spell _ _ _ _ a2 h2
   refine⟨by omega,b2,by rw[aQ,Db]; omega,by rw[b4,a4,aQ,Df],by rw[Dh,b5],fun y hy=> ?_⟩
   rcases List.mem_cons.1 hy with rfl | hy
   ·exact a5
   ·exact b6 y hy
  ·obtain⟨ha1,ha2⟩:=ha
   cases a with
   | nil=>exact absurd ha1 (by simp)
   | cons x l =>
    rw[aQ,Df] at h
    have hl:=congrArg List.length h
    rw[Dn,Db] at hl
    have g1:=hp.back _ _ _ _ hq (ha2 x (.head _)) h
    have g2:=ih.back _ _ _ _ (by omega) ⟨by simpa using ha1,fun y hy=>ha2 y (.tail _ hy)⟩ (bZ h)
    rw[jQ,Pr.bind_of g1,Pr.bind_of g2]
    simp only[Pr.ret,aQ,Db,Nat.add_assoc]
theorem kA {α:Type} {enc:α→List UInt8} {ok:α→Prop} {each:Nat} (he: ∀ x,ok x→each≤(enc x).length): ∀ l:List α,(∀ x,x∈l→ok x)→l.length*each≤(aQ enc l).length
 | [],h=>by simp
 | x::l,h=>by
  have:=kA he l (fun y hy=>h y (.tail _ hy))
  have:=he x (h x (.head _))
  rw[aQ,Db,Dh,Nat.add_mul]
  omega
def oh {α:Type} (k each:Nat) (p:Pr α):Pr (List α):=(lC k each).bind fun n=>jQ p n.toNat
theorem zg {α:Type} {p:Pr α} {enc:α→List UInt8} {ok:α→Prop} (k each:Nat) (h1:1≤k) (h8:k≤8) (hp:Sp p enc ok) (he: ∀ x,ok x→each≤(enc x).length):Sp (oh k each p) (fun l=>be (l.length:Int) k++aQ enc l) (fun l=>bj (l.length:Int) k=true∧ ∀ x,x∈l→ok x):=by
 refine⟨fun s q a r hq h=> ?_,fun s t q a hq ha h=> ?_⟩
 ·obtain⟨n,q1,g1,h⟩:=Pr.bind_ok h
  obtain⟨a1,a2,a3,a4,a5,a6⟩:=og h1 h8 hq g1
  obtain⟨b1,b2,b3,b4,b5,b6⟩:=(qx hp n.toNat).spell _ _ _ _ a4 h
  have hn:(a.length:Int)=n:=by omega
  refine⟨by omega,b2,by rw[Db,az]; omega,by rw[b4,a5,hn,Df],by rw[hn]; exact a6,b6⟩
 ·rw[Df] at h
  have hl:=congrArg List.length h
  rw[Dn,Db,Db,az] at hl
  have g1:=xW (each:=each) h1 h8 hq ha.1 (by omega) h (fun _=>by
   have:=kA he a ha.2
   rw[Db,Int.natCast_add,← Int.natCast_mul]
   omega)
  have h2:=bZ h
  rw[az] at h2
  have g2:=(qx hp a.length).back _ _ _ _ (by omega) ⟨rfl,ha.2⟩ h2
  rw[oh,Pr.bind_of g1,D4,g2,Db,az]
  simp only[Nat.add_assoc]
structure CB {α:Type} (op:I→Option (α×I)) (p:Pr α) (z:α):Prop where
 dead: ∀ st:I,st.err≠0→op st=some (z,st)
 run: ∀ (s:List UInt8) (q:Nat),s.length≤1000000→q≤s.length→(∃ (e:Int) (st:I),p s q= .error e∧op ⟨s.drop q,q,0⟩=some (z,st)∧st.err=e∧st.err≠0)∨(∃ (a:α) (r:Nat),p s q= .ok (a,r)∧op ⟨s.drop q,q,0⟩=some (a,⟨s.drop r,r,0⟩)∧q≤r∧r≤s.length)
theorem CQ.cb {α:Type} {op:I→Option (α×I)} {p:Pr α} {z:α} (h:CQ op p z):CB op p z:=⟨h.dead,fun s q _ hq=>h.run s q hq⟩
theorem CB.whole {α:Type} {op:I→Option (α×I)} {p:Pr α} {z:α} {enc:α→List UInt8} {ok:α→Prop} (h:CB op p z) (hs:Sp p enc ok) {a:α} (hb:(enc a).length≤1000000) (ha:ok a):op ⟨enc a,0,0⟩=some (a,⟨[],(enc a).length,0⟩):=by
 have h1:=hs.back (enc a) [] 0 a (DV _) ha (by simp)
 rw[Nat.zero_add] at h1
 rcases h.run (enc a) 0 hb (DV _) with⟨e,st,p1,g1,x1,y1⟩ | ⟨b,r,p1,g1,n1,l1⟩
 ·rw[h1] at p1
  exact nomatch p1
 ·rw[h1] at p1
  injection p1 with p1
  obtain⟨rfl,rfl⟩:=DK p1
  rw[List.drop_length] at g1
  exact g1
theorem CB.bind {α β:Type} {op1:I→Option (α×I)} {p:Pr α} {z1:α} {op2:α→I→Option (β×I)} {f:α→Pr β} {z:β} (W:α→Prop) (h:CB op1 p z1)
 (hs: ∀ s q a r,s.length≤1000000→q≤s.length→p s q= .ok (a,r)→W a) (hz:W z1) (hf: ∀ a,W a→CB (op2 a) (f a) z):CB (fun st=>(op1 st).bind fun (a,st1)=>op2 a st1) (p.bind f) z:=by
 refine⟨fun st hd=> ?_,fun s q hl hq=> ?_⟩
 ·show (op1 st).bind _= _
  rw[h.dead st hd,C9]
  exact (hf z1 hz).dead st hd
 ·rcases h.run s q hl hq with⟨e,st,p1,g1,x1,y1⟩ | ⟨a,r,p1,g1,n1,l1⟩
  ·refine .inl ⟨e,st,Pr.bind_err p1,?_,x1,y1⟩
   show (op1 _).bind _= _
   rw[g1,C9]
   exact (hf z1 hz).dead st y1
  ·have g2:((op1 ⟨s.drop q,q,0⟩).bind fun (a,st1)=>op2 a st1)=op2 a ⟨s.drop r,r,0⟩:=by rw[g1,C9]
   show (∃ e st,p.bind f s q= _∧((op1 ⟨s.drop q,q,0⟩).bind fun (a,st1)=>op2 a st1)= _∧ _∧ _)∨(∃ x m,p.bind f s q= _∧((op1 ⟨s.drop q,q,0⟩).bind fun (a,st1)=>op2 a st1)= _∧ _∧ _)
   rw[g2,Pr.bind_of p1]
   rcases (hf a (hs s q a r hl hq p1)).run s r hl l1 with⟨e,st,p2,k2,x2,y2⟩ | ⟨b,m,p2,k2,n2,l2⟩
   ·exact .inl ⟨e,st,p2,k2,x2,y2⟩
   ·exact .inr ⟨b,m,p2,k2,by omega,l2⟩
theorem CB.congr {α:Type} {op op':I→Option (α×I)} {p:Pr α} {z:α} (h:CB op p z) (he: ∀ st,op' st=op st):CB op' p z:=⟨fun st hd=>(he st).trans (h.dead st hd),fun s q hl hq=>by rw[he]; exact h.run s q hl hq⟩
theorem CB.pr {α:Type} {op:I→Option (α×I)} {p p':Pr α} {z:α} (h:CB op p z) (he:p=p'):CB op p' z:=he ▸ h
theorem CB_chk {α:Type} {op:I→Option (α×I)} {x0 z:α} {e:Int} (h: ∀ st:I,st.err≠0→op st=some (z,st)) (h0: ∀ st:I,st.err=0→op st=some (if e=0 then (x0,st) else (z,cB st e))):CB op (if e=0 then .ret x0 else .err e) z:=by
 refine⟨h,fun s q hl hq=> ?_⟩
 by_cases he:e=0
 ·rw[if_pos he,h0 _ rfl,if_pos he]
  exact .inr ⟨x0,q,rfl,rfl,DJ _,hq⟩
 ·rw[if_neg he,h0 _ rfl,if_neg he]
  exact .inl ⟨e,_,rfl,rfl,rfl,he⟩
theorem Pr.bind_assoc {α β γ:Type} (p:Pr α) (f:α→Pr β) (g:β→Pr γ):(p.bind f).bind g=p.bind fun a=>(f a).bind g:=by
 funext s q
 unfold Pr.bind
 cases p s q with
 | error e=>rfl
 | ok x=>rfl
theorem Pr.ret_bind {α β:Type} (a:α) (f:α→Pr β):(Pr.ret a).bind f=f a:=by
 funext s q
 rfl
def uj:List Nat→Pr (List Int)
 | []=> .ret []
 | k::ks=>(kO k).bind fun a=>(uj ks).bind fun l=> .ret (a::l)
def ma:List Nat→List Int→List UInt8
 | k::ks,x::xs=>be x k++ma ks xs
 | _,_ => []
def okI:List Nat→List Int→Prop
 | [],[]=>True
 | k::ks,x::xs=>bj x k=true∧okI ks xs
 | _,_=>False
theorem th: ∀ ks:List Nat,(∀ k,k∈ks→1≤k∧k≤8)→Sp (uj ks) (ma ks) (okI ks)
 | [],_=>by
  refine⟨fun s q l r hq h=> ?_,fun s t q l hq hl hd=> ?_⟩
  ·injection h with h
   obtain⟨rfl,rfl⟩:=DK h
   exact⟨DJ _,hq,rfl,by simp[ma],trivial⟩
  ·cases l with
   | nil=>rfl
   | cons x xs=>exact nomatch hl
 | k::ks,hk=>by
  have hp:=fZ k (hk k (List.mem_cons_self ..)).1 (hk k (List.mem_cons_self ..)).2
  have ih:=th ks (fun j hj=>hk j (List.mem_cons_of_mem _ hj))
  refine⟨fun s q l r hq h=> ?_,fun s t q l hq hl hd=> ?_⟩
  ·obtain⟨a,m,h1,h2⟩:=Pr.bind_ok h
   obtain⟨xs,m2,h3,h4⟩:=Pr.bind_ok h2
   injection h4 with h4
   obtain⟨rfl,rfl⟩:=DK h4
   obtain⟨a1,a2,a3,a4,a5⟩:=hp.spell s q a m hq h1
   obtain⟨b1,b2,b3,b4,b5⟩:=ih.spell s m xs m2 a2 h3
   exact⟨by omega,b2,by simp only[ma,Db]; omega,by rw[b4,a4,ma,Df],a5,b5⟩
  ·cases l with
   | nil=>exact nomatch hl
   | cons x xs =>
    rw[ma,Df] at hd
    have h1:=hp.back s _ q x hq hl.1 hd
    have hl2:=congrArg List.length hd
    rw[Dn,Db] at hl2
    have h2:=ih.back s t _ xs (by omega) hl.2 (bZ hd)
    rw[uj,Pr.bind_of h1,Pr.bind_of h2,ma,Db,← Nat.add_assoc]
    rfl
def KS:List Nat := [8,4,4,1,4,2,4,8,8,8,2,4,4]
theorem KS_ok: ∀ k,k∈KS→1≤k∧k≤8:=by decide
def s32 (n:Int):Int:=if n>2147483647 then n - 4294967296 else n
def toL (p:Pfx):List Int := [p.CP,p.C1,p.CI,2,s32 p.C3,p.C4,p.CN,p.CH,p.CW,p.CE,p.CK,p.CD,p.C2]
def ckE (b m ct:Int):Int:=if m=2 then (if b<49 then 4 else if ct<0 then 10 else 0) else 6
def chkP:List Int→Pr Pfx
 | [a,b,c,m,s,at',la,fi,mx,pr,ep,sq,ct]=>if ckE b m ct=0 then .ret ⟨a,b,c,s % 4294967296,at',la,fi,mx,pr,ep,sq,ct⟩ else .err (ckE b m ct)
 | _=> .err 1
def xX:Pr Pfx:=(uj KS).bind chkP
def jh (p:Pfx):List UInt8:=ma KS (toL p)
def okP (p:Pfx):Prop:=okI KS (toL p)∧(0≤p.C3∧p.C3≤4294967295)∧49≤p.C1∧0≤p.C2
theorem wJ: ∀ {ks:List Nat} {l:List Int},okI ks l→l.length=ks.length
 | [],[],_=>rfl
 | k::ks,x::xs,h=>by rw[Dh,Dh,wJ h.2]
 | [],_ :: _,h=>nomatch h
 | _ :: _,[],h=>nomatch h
theorem uk: ∀ {ks:List Nat} {l:List Int},okI ks l→(ma ks l).length=ks.sum
 | [],[],_=>rfl
 | k::ks,x::xs,h=>by rw[ma,Db,az,uk h.2,List.sum_cons]
 | [],_ :: _,h=>nomatch h
 | _ :: _,[],h=>nomatch h
theorem len13 {l:List Int} (h:l.length=13): ∃ a b c m s t la fi mx pr ep sq ct,l = [a,b,c,m,s,t,la,fi,mx,pr,ep,sq,ct]:=by
 match l,h with
 | [a,b,c,m,s,t,la,fi,mx,pr,ep,sq,ct],_=>exact⟨a,b,c,m,s,t,la,fi,mx,pr,ep,sq,ct,rfl⟩
theorem zh {s:Int} (h:bj s 4=true):s32 (s % 4294967296)=s:=by
 rw[gl] at h
 have:=of_decide_eq_true h
 unfold s32
 split <;> omega
theorem At {s:Int} (h:0≤s∧s≤4294967295):s32 s % 4294967296=s:=by
 unfold s32
 split <;> omega
theorem zi {b m ct:Int} (h:ckE b m ct=0):m=2∧49≤b∧0≤ct:=by
 unfold ckE at h
 by_cases h1:m=2
 ·rw[if_pos h1] at h
  by_cases h2:b<49
  ·rw[if_pos h2] at h; cases h
  ·rw[if_neg h2] at h
   by_cases h3:ct<0
   ·rw[if_pos h3] at h; cases h
   ·exact⟨h1,by omega,by omega⟩
 ·rw[if_neg h1] at h; cases h
theorem ckE_of {b ct:Int} (h1:49≤b) (h2:0≤ct):ckE b 2 ct=0:=by
 unfold ckE
 rw[if_pos rfl,if_neg (by omega),if_neg (by omega)]
theorem vO:Sp xX jh okP:=by
 refine⟨fun s q p r hq h=> ?_,fun s t q p hq hp hd=> ?_⟩
 ·obtain⟨l,m,h1,h2⟩:=Pr.bind_ok h
  obtain⟨a1,a2,a3,a4,a5⟩:=(th KS KS_ok).spell s q l m hq h1
  obtain⟨a,b,c,mg,sm,t,la,fi,mx,pr,ep,sq,ct,rfl⟩:=len13 (wJ a5)
  have hs:bj sm 4=true:=a5.2.2.2.2.1
  unfold chkP at h2
  dsimp only at h2
  by_cases hc:ckE b mg ct=0
  ·rw[if_pos hc] at h2
   injection h2 with h2
   obtain⟨rfl,rfl⟩:=DK h2
   obtain⟨rfl,c2,c3⟩:=zi hc
   have e:toL ⟨a,b,c,sm % 4294967296,t,la,fi,mx,pr,ep,sq,ct⟩ = [a,b,c,2,sm,t,la,fi,mx,pr,ep,sq,ct]:=by
    unfold toL
    rw[zh hs]
   unfold jh okP
   rw[e]
   exact⟨a1,a2,a3,a4,a5,by show 0≤sm % 4294967296∧sm % 4294967296≤4294967295; omega,c2,c3⟩
  ·rw[if_neg hc] at h2
   exact nomatch h2
 ·have h1:=(th KS KS_ok).back s t q (toL p) hq hp.1 hd
  rw[xX,Pr.bind_of h1]
  unfold toL chkP
  dsimp only
  rw[if_pos (ckE_of hp.2.2.1 hp.2.2.2),At hp.2.1]
  rfl
theorem and32 (n:Int):Go.bits .and .i64 n 4294967295=n % 4294967296:=by
 rw[show (4294967295:Int)=((4294967295:Nat):Int) from rfl,sX n _ (by decide),show (4294967295:Nat)=2 ^ 32 - 1 from rfl,Nat.and_two_pow_sub_one_eq_mod]
 omega
def zP:Pfx:=⟨0,0,0,0,0,0,0,0,0,0,0,0⟩
def zj (a b c m s t la fi mx pr ep sq ct:Int) (st:I):Option (Pfx×I):=(iY st).bind fun (x57,st58)=>(if x57=0 then ((if m=2 then ((if b<49 then ((bD st58 4).bind fun st164=>some st164) else ((if ct<0 then ((bD st58 10).bind fun st172=>some st172) else some st58).bind fun st169=>some st169)).bind fun st161=>some st161) else ((bD st58 6).bind fun st174=>some st174)).bind fun st147=>some st147) else some st58).bind fun st117=>(iY st117).bind fun (x176,st177)=>if x176=0 then (some ((⟨a,b,c,(Go.bits .and .i64 s 4294967295),t,la,fi,mx,pr,ep,sq,ct⟩:Pfx),st177)) else (some ((⟨0,0,0,0,0,0,0,0,0,0,0,0⟩:Pfx),st177))
theorem B_tail (a b c m s t la fi mx pr ep sq ct:Int):CB (zj a b c m s t la fi mx pr ep sq ct) (chkP [a,b,c,m,s,t,la,fi,mx,pr,ep,sq,ct]) zP:=by
 refine CB_chk (fun st h=> ?_) (fun st h=> ?_)
 ·unfold zj
  rw[bE,C9]
  dsimp only
  rw[if_neg h,C9,bE,C9]
  dsimp only
  rw[if_neg h]
  rfl
 ·obtain⟨l,q,e⟩:=st
  obtain rfl:e=0:=h
  unfold zj ckE
  rw[bE,C9]
  dsimp only
  rw[if_pos rfl,and32]
  by_cases h1:m=2
  ·rw[if_pos h1,if_pos h1]
   by_cases h2:b<49
   ·rw[if_pos h2,if_pos h2,if_neg (by decide)]; rfl
   ·rw[if_neg h2,if_neg h2]
    by_cases h3:ct<0
    ·rw[if_pos h3,if_pos h3,if_neg (by decide)]; rfl
    ·rw[if_neg h3,if_neg h3,if_pos rfl]; rfl
  ·rw[if_neg h1,if_neg h1,if_neg (by decide)]; rfl
theorem B_pfx:CB (fun st=>gY st) xX zP:=by
 have w: ∀ {p:Pr Int} (s:List UInt8) (q:Nat) (a:Int) (r:Nat),s.length≤1000000→q≤s.length→p s q= .ok (a,r)→(fun _:Int=>True) a:=fun _ _ _ _ _ _ _=>trivial
 have h:=CB.bind (fun _=>True) Q8.cb w trivial fun a _=>CB.bind (fun _=>True) Q4.cb w trivial fun b _=>CB.bind (fun _=>True) Q4.cb w trivial fun c _=>CB.bind (fun _=>True) Q1.cb w trivial fun m _=>CB.bind (fun _=>True) Q4.cb w trivial fun s _ =>
  CB.bind (fun _=>True) Q2.cb w trivial fun t _=>CB.bind (fun _=>True) Q4.cb w trivial fun la _=>CB.bind (fun _=>True) Q8.cb w trivial fun fi _=>CB.bind (fun _=>True) Q8.cb w trivial fun mx _=>CB.bind (fun _=>True) Q8.cb w trivial fun pr _ =>
  CB.bind (fun _=>True) Q2.cb w trivial fun ep _=>CB.bind (fun _=>True) Q4.cb w trivial fun sq _=>CB.bind (fun _=>True) Q4.cb w trivial fun ct _=>B_tail a b c m s t la fi mx pr ep sq ct
 refine (h.congr (fun st=>rfl)).pr ?_
 unfold xX KS
 simp only[uj,Pr.bind_assoc,Pr.ret_bind]
def r64 (n:Int):Prop:= -9223372036854775808≤n∧n≤9223372036854775807
def wrI:List Nat→List Int→List UInt8×Int→Option (List UInt8×Int)
 | k::ks,x::xs,st=>(ff st x (k:Int)).bind fun st=>wrI ks xs st
 | _,_,st=>some st
theorem zk: ∀ (ks:List Nat) (l:List Int) (t:List UInt8),okI ks l→t.length+ks.sum≤1000000→wrI ks l (t,0)=some (t++ma ks l,0)
 | [],[],t,_,_=>by unfold wrI ma; rw[DS]
 | [],_ :: _,_,h,_=>nomatch h
 | _ :: _,[],_,h,_=>nomatch h
 | k::ks,x::xs,t,h,hl=>by
  rw[List.sum_cons] at hl
  rw[wrI,lS h.1 (by omega),C9,D4,zk ks xs _ h.2 (by rw[Db,az]; omega),ma,Df]
def w32 (n:Int):Int:=IntKind.i32.wrap (IntKind.u32.wrap n)
theorem Au (n:Int): -2147483648≤w32 n∧w32 n≤2147483647:=by
 unfold w32
 rw[IntKind.wrap_i32]
 omega
theorem w32_s {n:Int} (h:0≤n∧n≤4294967295):w32 n=s32 n:=by
 unfold w32 s32
 rw[IntKind.wrap_i32,IntKind.wrap_u32]
 split <;> omega
def toW (p:Pfx):List Int := [p.CP,p.C1,p.CI,2,w32 p.C3,p.C4,p.CN,p.CH,p.CW,p.CE,p.CK,p.CD,p.C2]
def wP (p:Pfx):Prop:=r64 p.CP∧r64 p.C1∧r64 p.CI∧r64 p.C3∧r64 p.C4∧r64 p.CN∧r64 p.CH∧r64 p.CW∧r64 p.CE∧r64 p.CK∧r64 p.CD∧r64 p.C2
theorem zl (st:List UInt8×Int) (p:Pfx):bV st p=wrI KS (toW p) (if p.C3<0∨p.C3>4294967295 then g7 st 11 else st):=by
 have hw:=Au p.C3
 unfold bV
 have e:((if p.C3<0 then some true else (if p.C3>4294967295 then some true else some false)).bind fun y4=>(if y4=true then ((jH st 11).bind fun st14=>some st14) else some st))=some (if p.C3<0∨p.C3>4294967295 then g7 st 11 else st):=by
  by_cases h1:p.C3<0
  ·rw[if_pos h1,C9,if_pos rfl,if_pos (.inl h1)]; rfl
  ·rw[if_neg h1]
   by_cases h2:p.C3>4294967295
   ·rw[if_pos h2,C9,if_pos rfl,if_pos (.inr h2)]; rfl
   ·rw[if_neg h2,C9,if_neg (by decide),if_neg (by omega)]
 have e2: ∀ (K:List UInt8×Int→Option (List UInt8×Int)),((if p.C3<0 then some true else (if p.C3>4294967295 then some true else some false)).bind fun y4=>(if y4=true then ((jH st 11).bind fun st14=>some st14) else some st).bind K)=K (if p.C3<0∨p.C3>4294967295 then g7 st 11 else st):=by
  intro K
  rw[← Option.bind_assoc,e,C9]
 rw[e2]
 show (if -9223372036854775808≤w32 p.C3∧w32 p.C3≤9223372036854775807 then _ else _)= _
 rw[if_pos (by omega)]
 rfl
def okWp (p:Pfx):Prop:=okI KS (toL p)∧0≤p.C3∧p.C3≤4294967295
theorem kf {p:Pfx} (h:okI KS (toL p)):(jh p).length=61:=by
 unfold jh
 rw[uk h]
 rfl
theorem qy {p:Pfx} (t:List UInt8) (h:okWp p) (ht:t.length≤900000):bV (t,0) p=some (t++jh p,0):=by
 have e:toW p=toL p:=by
  unfold toW toL
  rw[w32_s h.2]
 have h2:=h.2
 rw[zl,if_neg (by omega),e]
 exact zk KS (toL p) t h.1 (by show t.length+61≤ _; omega)
def gx (p:Pfx):List Int := [p.CP,p.C1,p.CI,p.C3,p.C4,p.CN,p.CH,p.CW,p.CE,p.CK,p.CD,p.C2]
theorem d9 (l:List Int) (m:Nat) (y4 acc:List UInt8) (y5:Bool) (k:Nat) (x:Int) (z:Nat) (hk:k<12) (h3:k≠3) (hx:l[k]? = some x) (hz : [(8:Int),4,4,4,2,4,8,8,8,2,4,4][k]? = some (z:Int)) (h8:z≤8) (hr:r64 x) (ha:acc.length≤1000) :
 bt l (m+1) y4 y5 acc k=if bj x z=true then bt l m y4 y5 (acc++be x z) (k+1) else some (.ret ([],false)):=by
 rw[bt,if_pos (by omega),hx,C9,if_neg (by omega),hz,C9,rS _ _ hr,C9]
 by_cases h:bj x z=true
 ·rw[if_pos h,if_pos h,fg _ _ ⟨hr,by omega,by omega⟩,C9,D4,if_pos (by rw[az]; omega),if_pos (by omega)]
 ·rw[if_neg h,if_neg h]
theorem zm (l:List Int) (m:Nat) (y4 acc:List UInt8) (y5:Bool) (x:Int) (hx:l[3]? = some x) (hr:r64 x) (ha:acc.length≤1000) :
 bt l (m+1) y4 y5 acc 3=if (0≤x∧x≤4294967295) then (if bj (s32 x) 4=true then bt l m y4 y5 (acc++be 2 1++be (s32 x) 4) 4 else some (.ret ([],false))) else some (.ret ([],false)):=by
 obtain⟨r1,r2⟩:=hr
 rw[bt,if_pos (by decide),hx,C9,if_pos (by decide)]
 by_cases h:0≤x∧x≤4294967295
 ·have e1:(if x<0 then some true else (if x>4294967295 then some true else some false))=some false:=by rw[if_neg (by omega),if_neg (by omega)]
  have e2:(if x>2147483647 then (if -9223372036854775808≤(x - 4294967296)∧(x - 4294967296)≤9223372036854775807 then some (x - 4294967296) else none) else some x)=some (s32 x):=by
   unfold s32
   by_cases q:x>2147483647
   ·rw[if_pos q,if_pos q,if_pos (by omega)]
   ·rw[if_neg q,if_neg q]
  have e3:r64 (s32 x):=by unfold s32 r64; split <;> omega
  rw[e1,C9,if_neg (by decide),e2,C9,fg _ _ ⟨by decide,by decide,by decide⟩,C9,if_pos (by rw[az]; show _+1≤ _; omega),if_pos h]
  show ((some (4:Int)).bind _)= _
  rw[C9,rS _ _ e3,C9]
  by_cases hf:bj (s32 x) 4=true
  ·rw[if_pos hf,if_pos hf,fg _ _ ⟨e3,by decide,by decide⟩,C9,if_pos (by rw[Db,az,az]; show _+1+4≤ _; omega),if_pos (by decide)]
   rfl
  ·rw[if_neg hf,if_neg hf]
 ·have e1:(if x<0 then some true else (if x>4294967295 then some true else some false))=some true:=by
   by_cases q:x<0
   ·rw[if_pos q]
   ·rw[if_neg q,if_pos (by omega)]
  rw[e1,C9,if_pos rfl,if_neg h]
theorem rb_end (l:List Int) (m:Nat) (y4 acc:List UInt8) (y5:Bool):bt l (m+1) y4 y5 acc 12=some (.go (y4,y5,acc,12)):=by
 rw[bt,if_neg (by decide)]
open Classical in
theorem se (p:Pfx) (hw:wP p):eD (gx p)=some (if okWp p then (jh p,true) else ([],false)):=by
 obtain⟨h1,h2,h3,h4,h5,h6,h7,h8,h9,h10,h11,h12⟩:=hw
 unfold eD
 rw[show (12:Int).toNat+1=12+1 from rfl]
 have no: ¬ okWp p→ ∀ (o:Option (Lp (List UInt8×Bool) (List UInt8×Bool×List UInt8×Nat))),o=some (.ret ([],false))→(o.bind fun e=>match e with | .ret r=>some r | .go (y55,y56,y57,k58)=>some (y57,true))=some (if okWp p then (jh p,true) else ([],false)):=by
  intro h o ho
  rw[ho,if_neg h]
  rfl
 by_cases f1:bj p.CP (8:Nat)=true
 rotate_left
 ·exact no (fun h=>f1 h.1.1) _ (by rw[d9 (gx p) 12 [] [] false 0 p.CP 8 (by decide) (by decide) rfl rfl (by decide) h1 (by decide),if_neg f1])
 by_cases f2:bj p.C1 (4:Nat)=true
 rotate_left
 ·exact no (fun h=>f2 h.1.2.1) _ (by rw[d9 (gx p) 12 [] [] false 0 p.CP 8 (by decide) (by decide) rfl rfl (by decide) h1 (by decide),if_pos f1,d9 (gx p) 11 [] _ false 1 p.C1 4 (by decide) (by decide) rfl rfl (by decide) h2 (by simp[az]),if_neg f2])
 by_cases f3:bj p.CI (4:Nat)=true
 rotate_left
 ·exact no (fun h=>f3 h.1.2.2.1) _ (by rw[d9 (gx p) 12 [] [] false 0 p.CP 8 (by decide) (by decide) rfl rfl (by decide) h1 (by decide),if_pos f1,d9 (gx p) 11 [] _ false 1 p.C1 4 (by decide) (by decide) rfl rfl (by decide) h2 (by simp[az]),if_pos f2,
   d9 (gx p) 10 [] _ false 2 p.CI 4 (by decide) (by decide) rfl rfl (by decide) h3 (by simp[az]),if_neg f3])
 rw[d9 (gx p) 12 [] [] false 0 p.CP 8 (by decide) (by decide) rfl rfl (by decide) h1 (by decide),if_pos f1,d9 (gx p) 11 [] _ false 1 p.C1 4 (by decide) (by decide) rfl rfl (by decide) h2 (by simp[az]),if_pos f2,
  d9 (gx p) 10 [] _ false 2 p.CI 4 (by decide) (by decide) rfl rfl (by decide) h3 (by simp[az]),if_pos f3,zm (gx p) 9 [] _ false p.C3 rfl h4 (by simp[az])]
 by_cases g4:0≤p.C3∧p.C3≤4294967295
 rotate_left
 ·exact no (fun h=>g4 h.2) _ (by rw[if_neg g4])
 rw[if_pos g4]
 by_cases f4:bj (s32 p.C3) 4=true
 rotate_left
 ·exact no (fun h=>f4 h.1.2.2.2.2.1) _ (by rw[if_neg f4])
 rw[if_pos f4,d9 (gx p) 8 [] _ false 4 p.C4 2 (by decide) (by decide) rfl rfl (by decide) h5 (by simp[az])]
 by_cases f5:bj p.C4 (2:Nat)=true
 rotate_left
 ·exact no (fun h=>f5 h.1.2.2.2.2.2.1) _ (by rw[if_neg f5])
 rw[if_pos f5,d9 (gx p) 7 [] _ false 5 p.CN 4 (by decide) (by decide) rfl rfl (by decide) h6 (by simp[az])]
 by_cases f6:bj p.CN (4:Nat)=true
 rotate_left
 ·exact no (fun h=>f6 h.1.2.2.2.2.2.2.1) _ (by rw[if_neg f6])
 rw[if_pos f6,d9 (gx p) 6 [] _ false 6 p.CH 8 (by decide) (by decide) rfl rfl (by decide) h7 (by simp[az])]
 by_cases f7:bj p.CH (8:Nat)=true
 rotate_left
 ·exact no (fun h=>f7 h.1.2.2.2.2.2.2.2.1) _ (by rw[if_neg f7])
 rw[if_pos f7,d9 (gx p) 5 [] _ false 7 p.CW 8 (by decide) (by decide) rfl rfl (by decide) h8 (by simp[az])]
 by_cases f8:bj p.CW (8:Nat)=true
 rotate_left
 ·exact no (fun h=>f8 h.1.2.2.2.2.2.2.2.2.1) _ (by rw[if_neg f8])
 rw[if_pos f8,d9 (gx p) 4 [] _ false 8 p.CE 8 (by decide) (by decide) rfl rfl (by decide) h9 (by simp[az])]
 by_cases f9:bj p.CE (8:Nat)=true
 rotate_left
 ·exact no (fun h=>f9 h.1.2.2.2.2.2.2.2.2.2.1) _ (by rw[if_neg f9])
 rw[if_pos f9,d9 (gx p) 3 [] _ false 9 p.CK 2 (by decide) (by decide) rfl rfl (by decide) h10 (by simp[az])]
 by_cases f10:bj p.CK (2:Nat)=true
 rotate_left
 ·exact no (fun h=>f10 h.1.2.2.2.2.2.2.2.2.2.2.1) _ (by rw[if_neg f10])
 rw[if_pos f10,d9 (gx p) 2 [] _ false 10 p.CD 4 (by decide) (by decide) rfl rfl (by decide) h11 (by simp[az])]
 by_cases f11:bj p.CD (4:Nat)=true
 rotate_left
 ·exact no (fun h=>f11 h.1.2.2.2.2.2.2.2.2.2.2.2.1) _ (by rw[if_neg f11])
 rw[if_pos f11,d9 (gx p) 1 [] _ false 11 p.C2 4 (by decide) (by decide) rfl rfl (by decide) h12 (by simp[az])]
 by_cases f12:bj p.C2 (4:Nat)=true
 rotate_left
 ·exact no (fun h=>f12 h.1.2.2.2.2.2.2.2.2.2.2.2.2.1) _ (by rw[if_neg f12])
 have hok:okWp p:=⟨⟨f1,f2,f3,rfl,f4,f5,f6,f7,f8,f9,f10,f11,f12,trivial⟩,g4⟩
 rw[if_pos f12,rb_end,C9,if_pos hok]
 dsimp only
 unfold jh KS toL
 simp only[ma,Df,Ds,DS]
theorem gO {st:I} (h:st.err≠0):bF st=some (⟨false,[]⟩,st):=QV.dead st h
theorem Av {st:I} (h:st.err≠0):qb st=some ([],st):=QN.dead st h
theorem vP:CQ kL (ly 32) 0:=(te 32 (.inl rfl)).cq (gZ 32 (.inl rfl))
theorem pE {st:I} (h:st.err≠0):kL st=some (0,st):=vP.dead st h
def nz (each:Nat):Pr Int:=(ly 32).bind (nx each)
theorem vQ {each:Nat} {s:List UInt8} {q r:Nat} {n:Int} (hq:q≤s.length) (h:nz each s q= .ok (n,r)):0≤n∧(0<each→n*each≤((s.length - r:Nat):Int))∧q≤r∧r=q+(bb (aI n)).length∧r≤s.length∧s.take r=s.take q++bb (aI n)∧aI n<2 ^ (32:Int).toNat:=by
 obtain⟨m,r',h2,h⟩:=Pr.bind_ok h
 obtain⟨a1,a2,a3,a4,a5⟩:=(gZ 32 (.inl rfl)).spell _ _ _ _ hq h2
 unfold nx at h
 split at h
 ·exact nomatch h
 ·rename_i hn
  split at h
  ·exact nomatch h
  ·rename_i he
   injection h with h
   obtain⟨rfl,rfl⟩:=DK h
   refine⟨by omega,fun hz=> ?_,a1,a3,a2,a4,a5⟩
   have:m≤((s.length - r':Nat):Int) / each:=by
    rcases Int.lt_or_le (((s.length - r':Nat):Int) / each) m with g | g
    ·exact absurd ⟨hz,g⟩ he
    ·exact g
   exact (Int.le_ediv_iff_mul_le (by omega)).1 this
theorem vR {each:Nat} {s t:List UInt8} {q:Nat} {n:Int} (hq:q≤s.length) (hf:aI n<2 ^ (32:Int).toNat) (hn:0≤n) (h:s.drop q=bb (aI n)++t) (hl:0<each→n*each≤t.length):nz each s q= .ok (n,q+(bb (aI n)).length):=by
 have g:=(gZ 32 (.inl rfl)).back s t q n hq hf h
 rw[nz,Pr.bind_of g]
 unfold nx
 have hlen:=congrArg List.length h
 rw[Dn,Db] at hlen
 rw[if_neg (by omega),if_neg]
 rintro⟨hz,hc⟩
 have:=(Int.le_ediv_iff_mul_le (show (0:Int)<each by omega)).2 (hl hz)
 rw[show s.length - (q+(bb (aI n)).length)=t.length by omega] at hc
 omega
def wK {α:Type} (each:Nat) (p:Pr α):Pr (List α):=(nz each).bind fun n=>jQ p n.toNat
theorem Aw {α:Type} {p:Pr α} {enc:α→List UInt8} {ok:α→Prop} (each:Nat) (hp:Sp p enc ok) (he: ∀ x,ok x→each≤(enc x).length):Sp (wK each p) (fun l=>bb (aI (l.length:Int))++aQ enc l) (fun l=>aI (l.length:Int)<2 ^ (32:Int).toNat∧ ∀ x,x∈l→ok x):=by
 refine⟨fun s q a r hq h=> ?_,fun s t q a hq ha h=> ?_⟩
 ·obtain⟨n,q1,g1,h⟩:=Pr.bind_ok h
  obtain⟨a1,a2,a3,a4,a5,a6,a7⟩:=vQ hq g1
  obtain⟨b1,b2,b3,b4,b5,b6⟩:=(qx hp n.toNat).spell _ _ _ _ a5 h
  have hn:(a.length:Int)=n:=by omega
  refine⟨by omega,b2,by rw[Db,hn]; omega,by rw[b4,a6,hn,Df],by rw[hn]; exact a7,b6⟩
 ·rw[Df] at h
  have hl:=congrArg List.length h
  rw[Dn,Db,Db] at hl
  have g1:=vR (each:=each) hq ha.1 (by omega) h (fun _=>by
   have:=kA he a ha.2
   rw[Db,Int.natCast_add,← Int.natCast_mul]
   omega)
  have h2:=bZ h
  have g2:=(qx hp a.length).back _ _ _ _ (by omega) ⟨rfl,ha.2⟩ h2
  rw[wK,Pr.bind_of g1,D4,g2,Db]
  simp only[Nat.add_assoc]
def pHd:Pr Hd:=sc.bind fun k=>jC.bind fun v=> .ret ⟨k,v⟩
def dq (h:Hd):List UInt8:=(bb (aI (h.CJ.length:Int))++h.CJ)++(bb (aI (bH h.Cz))++h.Cz.data)
def okHd (h:Hd):Prop:=aI (h.CJ.length:Int)<2 ^ (32:Int).toNat∧aI (bH h.Cz)<2 ^ (32:Int).toNat∧aT h.Cz=true
theorem Sp_hd:Sp pHd dq okHd:=by
 refine⟨fun s q a r hq h=> ?_,fun s t q a hq ha h=> ?_⟩
 ·obtain⟨k,q1,h1,h⟩:=Pr.bind_ok h
  obtain⟨v,q2,h2,h⟩:=Pr.bind_ok h
  injection h with h
  obtain⟨rfl,rfl⟩:=DK h
  obtain⟨a1,a2,a3,a4,a5⟩:=lR.spell _ _ _ _ hq h1
  obtain⟨b1,b2,b3,b4,b5⟩:=gc.spell _ _ _ _ a2 h2
  exact⟨by omega,b2,by simp only[dq,Db] at *; omega,by rw[b4,a4]; simp only[dq,Df],a5.1,b5⟩
 ·obtain⟨a1,a2,a3⟩:=ha
  have hl:=congrArg List.length h
  rw[dq,Df] at h
  have g1:=lR.back _ _ _ _ hq ⟨a1,rfl⟩ h
  have h:=bZ h
  have g2:=gc.back _ _ _ _ (by simp only[dq,Dn,Db] at *; omega) ⟨a2,a3⟩ h
  rw[pHd,Pr.bind_of g1,Pr.bind_of g2]
  simp only[Pr.ret,dq,Db,Nat.add_assoc]
theorem zn (h:Hd) (ho:okHd h):2≤(dq h).length:=by
 have h1:=ld (aI (h.CJ.length:Int))
 have h2:=ld (aI (bH h.Cz))
 simp only[dq,Db]
 omega
def xY:Pr (List Hd):=wK 2 pHd
theorem zo:Sp xY (fun l=>bb (aI (l.length:Int))++aQ dq l) (fun l=>aI (l.length:Int)<2 ^ (32:Int).toNat∧ ∀ h,h∈l→okHd h):=Aw 2 Sp_hd zn
theorem wM (n:Int) (s:List UInt8) (hs:s.length≤1000000) (hn:n≤1000000): ∀ (m fuel k:Nat) (acc:List Hd) (q:Nat),((k+m:Nat):Int)=n→m<fuel→q≤s.length→acc.length=k →
 (∃ (e:Int) (st:I),jQ pHd m s q= .error e∧bX n fuel [] acc k ⟨s.drop q,q,0⟩=some (.ret ([],st))∧st.err=e∧st.err≠0) ∨
 (∃ l r,jQ pHd m s q= .ok (l,r)∧bX n fuel [] acc k ⟨s.drop q,q,0⟩=some (.go ([],acc++l,k+m,⟨s.drop r,r,0⟩))∧q≤r∧r≤s.length)
 | 0,fuel+1,k,acc,q,h1,h2,h3,h4=> .inr ⟨[],q,rfl,by rw[bX,if_neg (by omega),DS]; rfl,DJ _,h3⟩
 | m+1,fuel+1,k,acc,q,h1,h2,h3,h4=>by
  rw[bX,if_pos (by omega)]
  rcases QN.run s q h3 with⟨e,st,p1,g1,x1,y1⟩ | ⟨nm,q1,p1,g1,n1,l1⟩
  ·left
   refine⟨e,st,by rw[jQ,Pr.bind_err (show pHd s q= .error e from Pr.bind_err p1)],?_,x1,y1⟩
   rw[g1,C9]
   simp only
   rw[gO y1,C9]
   simp only
   rw[if_pos (by omega),bE,C9]
   simp only
   rw[if_neg y1]
  rw[g1,C9]
  simp only
  rcases QV.run s q1 l1 with⟨e,st,p2,g2,x2,y2⟩ | ⟨v,q2,p2,g2,n2,l2⟩
  ·left
   have ht:pHd s q= .error e:=by rw[pHd,Pr.bind_of p1,Pr.bind_err p2]
   refine⟨e,st,by rw[jQ,Pr.bind_err ht],?_,x2,y2⟩
   rw[g2,C9]
   simp only
   rw[if_pos (by omega),bE,C9]
   simp only
   rw[if_neg y2]
  rw[g2,C9]
  simp only
  rw[if_pos (by omega),bE,C9]
  simp only[if_true]
  rw[if_pos (by omega)]
  have ht:pHd s q= .ok (⟨nm,v⟩,q2):=by rw[pHd,Pr.bind_of p1,Pr.bind_of p2]; rfl
  rw[jQ,Pr.bind_of ht]
  rcases wM n s hs hn m fuel (k+1) (acc ++ [(⟨nm,v⟩:Hd)]) q2 (by omega) (by omega) l2 (by rw[Db,h4]; rfl) with⟨e,st,r1,r2,r3,r4⟩ | ⟨l,r,r1,r2,r3,r4⟩
  ·exact .inl ⟨e,st,by rw[Pr.bind_err r1],r2,r3,r4⟩
  ·refine .inr ⟨⟨nm,v⟩::l,r,by rw[Pr.bind_of r1]; rfl,?_,by omega,r4⟩
   rw[r2,Df,show k+1+m=k+(m+1) by omega]
   rfl
theorem B_hds:CB bd xY []:=by
 refine⟨fun st h=> ?_,fun s q hs hq=> ?_⟩
 ·unfold bd
  rw[pE h,C9]
  simp only
  rw[bE,C9]
  simp only
  rw[if_neg h]
 ·unfold bd
  rcases vP.run s q hq with⟨e,st,p1,g1,x1,y1⟩ | ⟨c,q1,p1,g1,n1,l1⟩
  ·refine .inl ⟨e,st,Pr.bind_err (Pr.bind_err p1),?_,x1,y1⟩
   rw[g1,C9]
   simp only
   rw[bE,C9]
   simp only
   rw[if_neg y1]
  ·rw[g1,C9]
   simp only
   rw[bE,C9]
   simp only[if_true]
   have hd:(s.drop q1).length=s.length - q1:=Dn
   have hE:xY s q=((nx 2 c).bind fun n=>jQ pHd n.toNat) s q1:=by
    unfold xY wK nz Pr.bind
    rw[p1]
   rw[hE]
   unfold Pr.bind nx
   by_cases hn:c<0
   ·rw[if_pos hn,if_pos hn]
    exact .inl ⟨4,_,rfl,rfl,rfl,by simp[cB]⟩
   rw[if_neg hn,if_neg hn,mZ,C9]
   simp only
   rw[hd,if_pos (show 0≤((s.length - q1:Nat):Int)∧((s.length - q1:Nat):Int)≤9223372036854775807 by omega)]
   by_cases hc:0<2∧((s.length - q1:Nat):Int) / ((2:Nat):Int)<c
   ·have hc2:c>((s.length - q1:Nat):Int) / 2:=hc.2
    rw[if_pos hc,if_pos hc2]
    exact .inl ⟨1,_,rfl,rfl,rfl,by simp[cB]⟩
   ·have hc2: ¬ c>((s.length - q1:Nat):Int) / 2:=fun h=>hc ⟨by decide,h⟩
    rw[if_neg hc,if_neg hc2]
    simp only
    rcases wM c s hs (by omega) c.toNat (c.toNat+1) 0 [] q1 (by omega) (by omega) l1 rfl with⟨e,st,r1,r2,r3,r4⟩ | ⟨l,r,r1,r2,r3,r4⟩
    ·exact .inl ⟨e,st,r1,by rw[r2]; rfl,r3,r4⟩
    ·refine .inr ⟨l,r,r1,?_,by omega,r4⟩
     rw[r2,Ds]
     rfl
def hwt (h:Hd):Nat:=20+h.CJ.length+h.Cz.data.length
def gP:List Hd→Nat
 | []=>0
 | h::l=>hwt h+gP l
theorem fE (n:Int) (h: -1≤n) (h2:n≤2147483647):(bb (aI n)).length≤10:=dT _ (dh n (by omega) (by omega))
theorem ji (n:Int) (h: -1≤n) (h2:n≤2147483647):aI n<2 ^ (32:Int).toNat:=by
 rw[show 2 ^ (32:Int).toNat=4294967296 by decide]
 exact vg n ⟨by omega,h2⟩
theorem jk (b:Bl) (h:b.data.length≤2147483647): -1≤bH b∧bH b≤2147483647:=by unfold bH; split <;> omega
theorem ol (h:Hd) (hk:h.CJ.length≤1000000) (hv:h.Cz.data.length≤1000000):(dq h).length≤hwt h:=by
 have h1:=fE (h.CJ.length:Int) (by omega) (by omega)
 have hb:=jk h.Cz (by omega)
 have h2:=fE (bH h.Cz) hb.1 hb.2
 simp only[dq,Db,hwt]
 omega
theorem qz: ∀ l:List Hd,gP l≤1000000→(aQ dq l).length≤gP l
 | [],h=>DJ _
 | x::l,h=>by
  have h1:hwt x≤gP (x::l):=by rw[gP]; omega
  have h2:=qz l (by rw[gP] at h; omega)
  have h3:=ol x (by unfold hwt at h1; omega) (by unfold hwt at h1; omega)
  rw[aQ,Db,gP]
  omega
theorem qA {t d:List UInt8} (hf:d.length≤1000000) (ht:t.length≤1000000000):j7 (t,0) d=some (t++(bb (aI (d.length:Int))++d),0):=by
 have:=iL (t:=t) (b:=⟨false,d⟩) rfl (by simp only; omega) (by simp only; omega)
 rw[tY _ _ (by simp only; omega)]
 rw[mj _ _ (by simp only; omega)] at this
 exact this
theorem hw_l1: ∀ (l:List Hd) (t:List UInt8),(∀ h,h∈l→aT h.Cz=true)→t.length+gP l≤1000000→cf l (t,0)=some (t++aQ dq l,0)
 | [],t,h,hl=>by rw[cf,aQ,DS]
 | x::l,t,h,hl=>by
  have hx:t.length+(hwt x+gP l)≤1000000:=hl
  have h1:=ol x (by unfold hwt at hx; omega) (by unfold hwt at hx; omega)
  have h2:(bb (aI (x.CJ.length:Int))++x.CJ).length≤(dq x).length:=by simp only[dq,Db]; omega
  have e:t++(bb (aI (x.CJ.length:Int))++x.CJ)++(bb (aI (bH x.Cz))++x.Cz.data)=t++dq x:=by simp only[dq,Df]
  have h3:(t++(bb (aI (x.CJ.length:Int))++x.CJ)).length=t.length+(bb (aI (x.CJ.length:Int))++x.CJ).length:=Db
  rw[cf,qA (by unfold hwt at hx; omega) (by omega),C9,iL (h x (.head _)) (by unfold hwt at hx; omega) (by rw[h3]; unfold hwt at hx h1; omega),C9,e,hw_l1 l _ (fun y hy=>h y (.tail _ hy)) (by rw[Db]; omega),aQ,Df]
theorem kg: ∀ l:List Hd,l.length*20≤gP l
 | []=>by simp[gP]
 | h::l=>by have:=kg l; simp only[gP,hwt,Dh]; omega
theorem ul: ∀ (l:List Hd) (h:Hd),h∈l→hwt h≤gP l
 | x::l,h,hm=>by
  rcases List.mem_cons.1 hm with rfl | hm
  ·simp only[gP]; omega
  ·have:=ul l h hm; simp only[gP]; omega
theorem zp (l:List Hd) (t:List UInt8) (h: ∀ x,x∈l→aT x.Cz=true) (ht:t.length+10+gP l≤1000000):fj (t,0) l=some (t++(bb (aI (l.length:Int))++aQ dq l),0):=by
 have hn:=kg l
 have h1:=fE (l.length:Int) (by omega) (by omega)
 unfold fj
 rw[pY _ _ ⟨by omega,by simp only; omega⟩]
 unfold fz
 rw[if_pos (by omega),kz,C9,hw_l1 l _ h (by rw[Db]; omega),Df]
 rfl
theorem pF (n:Int) (h: -9223372036854775808≤n∧n≤9223372036854775807):ga n=some (bb (aI n)):=by
 have:=dh n h.1 h.2
 unfold ga
 rw[xE _ h,C9,yG _ (by omega),C9,D4]
theorem sf (a0:List Hd) (hb:gP a0≤1000000): ∀ (l:List Hd) (t:List UInt8) (k fuel:Nat),a0.drop k=l→l.length<fuel→t.length+gP l≤2000000→gP l≤1000000→ ∃ z,di a0 fuel t k=some (t++aQ dq l,z)
 | [],t,k,fuel+1,h,hf,hl,hl2=>by
  have:a0.length≤k:=List.drop_eq_nil_iff.1 h
  exact⟨k,by rw[di,if_neg (by omega),aQ,DS]⟩
 | x::l,t,k,fuel+1,h,hf,hl,hl2=>by
  have hlen:=congrArg List.length h
  rw[Dn,Dh] at hlen
  have g1:a0[k]? = some x:=by have:=congrArg (fun z=>z[0]?) h; simpa using this
  have g2:a0.drop (k+1)=l:=by rw[← DW,h]; rfl
  have hn:=kg a0
  rw[Dh] at hf
  have hx:t.length+(hwt x+gP l)≤2000000:=hl
  have hx2:hwt x+gP l≤1000000:=hl2
  have h1:=ol x (by unfold hwt at hx2; omega) (by unfold hwt at hx2; omega)
  have e:t++(bb (aI (bH ⟨false,x.CJ⟩))++x.CJ)++(bb (aI (bH x.Cz))++x.Cz.data)=t++dq x:=by
   simp only[dq,Df]
   rfl
  have e1:(bb (aI (bH ⟨false,x.CJ⟩))++x.CJ).length≤(dq x).length∧(bb (aI (bH x.Cz))++x.Cz.data).length≤(dq x).length:=by
   simp only[dq,Db]
   have:bH ⟨false,x.CJ⟩=(x.CJ.length:Int):=rfl
   rw[this]
   omega
  obtain⟨z,hz⟩:=sf a0 hb l (t++dq x) (k+1) fuel g2 (by omega) (by rw[Db]; omega) (by omega)
  rw[di,if_pos (by omega),g1,C9,iJ _ (by unfold hwt at hx2; simp only; omega),C9,if_pos (by simp only; omega),iJ _ (by unfold hwt at hx2; omega),C9,if_pos (by rw[Db]; simp only; omega),if_pos (by omega)]
  refine⟨z,?_⟩
  simp only
  rw[e,hz,aQ,Df]
theorem xZ (l:List Hd) (hb:gP l≤1000000):hZ l=some (bb (aI (l.length:Int))++aQ dq l):=by
 have hn:=kg l
 have h1:=fE (l.length:Int) (by omega) (by omega)
 unfold hZ
 rw[pF _ (by omega),C9]
 obtain⟨z,hz⟩:=sf l hb l (bb (aI (l.length:Int))) 0 (((l.length:Int)).toNat+1) rfl (by omega) (by omega) hb
 rw[hz]
 rfl
theorem wN:CQ iZ (ly 64) 0:=(te 64 (.inr rfl)).cq (gZ 64 (.inr rfl))
theorem um {st:I} (h:st.err≠0):iZ st=some (0,st):=wN.dead st h
theorem fv {st:I} (h:st.err≠0):du st=some (st.err,st):=by rw[gJ,pT h]
def qB:Pr Unit:=fun s q=>if q=s.length then .ok ((),q) else .error 2
def uo:Rec:=⟨0,0,⟨false,[]⟩,⟨false,[]⟩,[]⟩
def o8:Pr Rec:=(kO 1).bind fun z=>if z=0 then (ly 64).bind fun t=>(ly 32).bind fun o=>if o<0 then .err 11 else jC.bind fun k=>jC.bind fun v=>xY.bind fun h=>qB.bind fun _=> .ret ⟨t,o,k,v,h⟩ else .err 8
def qC (st9:I):Option (Rec×Int):=(fM st9 1).bind fun (x12,st13)=>if x12=0 then ((iZ st13).bind fun (x16,st17)=>(kL st17).bind fun (x19,st20)=>if x19<0 then ((bD st20 11).bind fun st24=>(bF st24).bind fun (x26,st27)=>(bF st27).bind fun (x29,st30)=>(bd st30).bind fun (x32,st35)=>(du st35).bind fun (x37,st38)=>some ((⟨x16,x19,x26,x29,x32⟩:Rec),x37)) else ((bF st20).bind fun (x43,st44)=>(bF st44).bind fun (x46,st47)=>(bd st47).bind fun (x49,st52)=>(du st52).bind fun (x54,st55)=>some ((⟨x16,x19,x43,x46,x49⟩:Rec),x54))) else ((bD st13 8).bind fun st60=>(iZ st60).bind fun (x62,st63)=>(kL st63).bind fun (x65,st66)=>if x65<0 then ((bD st66 11).bind fun st70=>(bF st70).bind fun (x72,st73)=>(bF st73).bind fun (x75,st76)=>(bd st76).bind fun (x78,st81)=>(du st81).bind fun (x83,st84)=>some ((⟨x62,x65,x72,x75,x78⟩:Rec),x83)) else ((bF st66).bind fun (x89,st90)=>(bF st90).bind fun (x92,st93)=>(bd st93).bind fun (x95,st98)=>(du st98).bind fun (x100,st101)=>some ((⟨x62,x65,x89,x92,x95⟩:Rec),x100)))
theorem zq (s:List UInt8) (hs:s.length≤1000000):(∃ e x,o8 s 0= .error e∧qC ⟨s,0,0⟩=some (x,e)∧e≠0)∨(∃ x,o8 s 0= .ok (x,s.length)∧qC ⟨s,0,0⟩=some (x,0)):=by
 unfold qC o8
 have r0:=Q1.run s 0 (DV _)
 rw[List.drop_zero] at r0
 have hB:=B_hds
 rcases r0 with⟨e,st,p0,g0,x0,y0⟩ | ⟨z,q0,p0,g0,n0,l0⟩
 ·refine .inl ⟨e,⟨0,0,⟨false,[]⟩,⟨false,[]⟩,[]⟩,Pr.bind_err p0,?_,by rw[← x0]; exact y0⟩
  rw[g0]
  simp only[C9,if_true,um y0,pE y0,gO y0,hB.dead _ y0,fv y0,x0,show ¬ (0:Int)<0 by decide,if_false]
 rw[g0,C9]
 simp only
 by_cases hz:z=0
 ·rw[if_pos hz,Pr.bind_of p0,if_pos hz]
  rcases wN.run s q0 l0 with⟨e,st,p1,g1,x1,y1⟩ | ⟨a,q1,p1,g1,n1,l1⟩
  ·refine .inl ⟨e,⟨0,0,⟨false,[]⟩,⟨false,[]⟩,[]⟩,Pr.bind_err p1,?_,by rw[← x1]; exact y1⟩
   rw[g1]
   simp only[C9,if_true,pE y1,gO y1,hB.dead _ y1,fv y1,x1,show ¬ (0:Int)<0 by decide,if_false]
  rw[g1,C9,Pr.bind_of p1]
  simp only
  rcases vP.run s q1 l1 with⟨e,st,p2,g2,x2,y2⟩ | ⟨o,q2,p2,g2,n2,l2⟩
  ·refine .inl ⟨e,⟨a,0,⟨false,[]⟩,⟨false,[]⟩,[]⟩,Pr.bind_err p2,?_,by rw[← x2]; exact y2⟩
   rw[g2]
   simp only[C9,if_true,gO y2,hB.dead _ y2,fv y2,x2,show ¬ (0:Int)<0 by decide,if_false]
  rw[g2,C9,Pr.bind_of p2]
  simp only
  by_cases ho:o<0
  ·rw[if_pos ho,if_pos ho,dR,C9,pD]
   have y:(⟨s.drop q2,q2,11⟩:I).err≠0:=by simp
   refine .inl ⟨11,⟨a,o,⟨false,[]⟩,⟨false,[]⟩,[]⟩,rfl,?_,by decide⟩
   simp only[C9,gO y,hB.dead _ y,fv y]
  rw[if_neg ho,if_neg ho]
  rcases QV.run s q2 l2 with⟨e,st,p3,g3,x3,y3⟩ | ⟨k,q3,p3,g3,n3,l3⟩
  ·refine .inl ⟨e,⟨a,o,⟨false,[]⟩,⟨false,[]⟩,[]⟩,Pr.bind_err p3,?_,by rw[← x3]; exact y3⟩
   rw[g3]
   simp only[C9,gO y3,hB.dead _ y3,fv y3,x3]
  rw[g3,C9,Pr.bind_of p3]
  simp only
  rcases QV.run s q3 l3 with⟨e,st,p4,g4,x4,y4⟩ | ⟨v,q4,p4,g4,n4,l4⟩
  ·refine .inl ⟨e,⟨a,o,k,⟨false,[]⟩,[]⟩,Pr.bind_err p4,?_,by rw[← x4]; exact y4⟩
   rw[g4]
   simp only[C9,hB.dead _ y4,fv y4,x4]
  rw[g4,C9,Pr.bind_of p4]
  simp only
  rcases hB.run s q4 hs l4 with⟨e,st,p5,g5,x5,y5⟩ | ⟨h,q5,p5,g5,n5,l5⟩
  ·refine .inl ⟨e,⟨a,o,k,v,[]⟩,Pr.bind_err p5,?_,by rw[← x5]; exact y5⟩
   rw[g5]
   simp only[C9,fv y5,x5]
  rw[g5,C9,Pr.bind_of p5]
  simp only
  rw[gJ,C9]
  simp only
  by_cases hq:q5=s.length
  ·have he:qB s q5= .ok ((),q5):=by unfold qB; rw[if_pos hq]
   have hi:(eF ⟨s.drop q5,q5,0⟩).err=0:=by rw[hq,List.drop_length]; rfl
   rw[Pr.bind_of he,hi]
   exact .inr ⟨⟨a,o,k,v,h⟩,by rw[hq]; rfl,rfl⟩
  ·have he:qB s q5= .error 2:=by unfold qB; rw[if_neg hq]
   have hi:(eF ⟨s.drop q5,q5,0⟩).err=2:=by
    unfold eF
    rw[if_neg]
    ·rfl
    ·intro h0
     have:=List.drop_eq_nil_iff.1 h0
     omega
   rw[Pr.bind_err he,hi]
   exact .inl ⟨2,_,rfl,rfl,by decide⟩
 ·rw[if_neg hz,Pr.bind_of p0,if_neg hz,dR,C9,pD]
  have y:(⟨s.drop q0,q0,8⟩:I).err≠0:=by simp
  refine .inl ⟨8,⟨0,0,⟨false,[]⟩,⟨false,[]⟩,[]⟩,rfl,?_,by decide⟩
  simp only[C9,if_true,um y,pE y,gO y,hB.dead _ y,fv y,show ¬ (0:Int)<0 by decide,if_false]
def ya:Pr Rec:=fun s q=>match sc s q with
 | .error e=> .error e
 | .ok (d,r)=>match o8 d 0 with
  | .error e=> .error e
  | .ok (x,_)=> .ok (x,r)
theorem sg (st9 st6:I) (x:Rec) (e:Int) (h:qC st9=some (x,e)):((fM st9 1).bind fun (x12,st13)=>if x12=0 then ((iZ st13).bind fun (x16,st17)=>(kL st17).bind fun (x19,st20)=>if x19<0 then ((bD st20 11).bind fun st24=>(bF st24).bind fun (x26,st27)=>(bF st27).bind fun (x29,st30)=>(bd st30).bind fun (x32,st35)=>(du st35).bind fun (x37,st38)=>if x37=0 then (some ((⟨x16,x19,x26,x29,x32⟩:Rec),st6)) else ((bD st6 x37).bind fun st41=>some (uo,st41))) else ((bF st20).bind fun (x43,st44)=>(bF st44).bind fun (x46,st47)=>(bd st47).bind fun (x49,st52)=>(du st52).bind fun (x54,st55)=>if x54=0 then (some ((⟨x16,x19,x43,x46,x49⟩:Rec),st6)) else ((bD st6 x54).bind fun st58=>some (uo,st58)))) else ((bD st13 8).bind fun st60=>(iZ st60).bind fun (x62,st63)=>(kL st63).bind fun (x65,st66)=>if x65<0 then ((bD st66 11).bind fun st70=>(bF st70).bind fun (x72,st73)=>(bF st73).bind fun (x75,st76)=>(bd st76).bind fun (x78,st81)=>(du st81).bind fun (x83,st84)=>if x83=0 then (some ((⟨x62,x65,x72,x75,x78⟩:Rec),st6)) else ((bD st6 x83).bind fun st87=>some (uo,st87))) else ((bF st66).bind fun (x89,st90)=>(bF st90).bind fun (x92,st93)=>(bd st93).bind fun (x95,st98)=>(du st98).bind fun (x100,st101)=>if x100=0 then (some ((⟨x62,x65,x89,x92,x95⟩:Rec),st6)) else ((bD st6 x100).bind fun st104=>some (uo,st104)))))=if e=0 then some (x,st6) else some (uo,cB st6 e):=by
 unfold qC at h
 revert h
 have hop: ∀ (o:Option (List Hd×I)) (f:List Hd→Rec),((o.bind fun (a,s1)=>(du s1).bind fun (b,s2)=>some (f a,b))=some (x,e))→(o.bind fun (a,s1)=>(du s1).bind fun (b,s2)=>if b=0 then some (f a,st6) else (bD st6 b).bind fun s3=>some (uo,s3))=if e=0 then some (x,st6) else some (uo,cB st6 e):=by
  intro o f h
  cases o with
  | none=>exact nomatch h
  | some y =>
   rw[C9] at h ⊢
   simp only[gJ,C9] at h ⊢
   injection h with h
   obtain⟨rfl,rfl⟩:=DK h
   by_cases hz:(eF y.2).err=0
   ·rw[if_pos hz,if_pos hz]
   ·rw[if_neg hz,if_neg hz]
    rfl
 simp only[gp,xD,yF,vw,dR,C9]
 intro h
 split at h
 ·rename_i h1
  rw[if_pos h1]
  split at h
  ·rename_i h2
   rw[if_pos h2]
   exact hop _ (fun a=>⟨_,_,_,_,a⟩) h
  ·rename_i h2
   rw[if_neg h2]
   exact hop _ (fun a=>⟨_,_,_,_,a⟩) h
 ·rename_i h1
  rw[if_neg h1]
  split at h
  ·rename_i h2
   rw[if_pos h2]
   exact hop _ (fun a=>⟨_,_,_,_,a⟩) h
  ·rename_i h2
   rw[if_neg h2]
   exact hop _ (fun a=>⟨_,_,_,_,a⟩) h
theorem B_rec:CB eW ya uo:=by
 refine⟨fun st h=> ?_,fun s q hs hq=> ?_⟩
 ·unfold eW
  rw[Av h,C9]
  simp only
  rw[bE,C9]
  simp only
  rw[if_neg h]
  rfl
 ·unfold eW ya
  rcases QN.run s q hq with⟨e,st,p1,g1,x1,y1⟩ | ⟨d,r,p1,g1,n1,l1⟩
  ·refine .inl ⟨e,st,by rw[p1],?_,x1,y1⟩
   rw[g1,C9]
   simp only
   rw[bE,C9]
   simp only
   rw[if_neg y1]
   rfl
  ·have hsp:=lR.spell _ _ _ _ hq p1
   have hdl:d.length≤1000000:=by
    have:=hsp.2.2.1
    rw[Db] at this
    omega
   rw[g1,p1,C9]
   simp only
   rw[bE,C9]
   simp only[if_true]
   rw[iI _ (by omega),C9]
   rcases zq d hdl with⟨e,x,b1,b2,b3⟩ | ⟨x,b1,b2⟩
   ·have hb:=sg ⟨d,0,0⟩ ⟨s.drop r,r,0⟩ x e b2
    rw[if_neg b3] at hb
    rw[b1]
    exact .inl ⟨e,_,rfl,hb,rfl,b3⟩
   ·have hb:=sg ⟨d,0,0⟩ ⟨s.drop r,r,0⟩ x 0 b2
    rw[if_pos rfl] at hb
    rw[b1]
    exact .inr ⟨x,r,rfl,hb,n1,l1⟩
def gy (b:Bl):List UInt8:=bb (aI (bH b))++b.data
def kM (l:List Hd):List UInt8:=bb (aI (l.length:Int))++aQ dq l
def bN (x:Rec):List UInt8:=be 0 1++(bb (aI x.CY)++(bb (aI x.CU)++(gy x.CJ++(gy x.Cz++kM x.CF))))
def okBl (b:Bl):Prop:=aI (bH b)<2 ^ (32:Int).toNat∧aT b=true
def okHs (l:List Hd):Prop:=aI (l.length:Int)<2 ^ (32:Int).toNat∧ ∀ h,h∈l→okHd h
def qD (x:Rec):Prop:=aI x.CY<2 ^ (64:Int).toNat∧(aI x.CU<2 ^ (32:Int).toNat∧0≤x.CU)∧okBl x.CJ∧okBl x.Cz∧okHs x.CF
theorem vS {s:List UInt8} {x:Rec} {r:Nat} (h:o8 s 0= .ok (x,r)):s=bN x∧qD x:=by
 obtain⟨z,q0,h0,h⟩:=Pr.bind_ok h
 split at h
 ·rename_i hz
  subst hz
  obtain⟨t,q1,h1,h⟩:=Pr.bind_ok h
  obtain⟨o,q2,h2,h⟩:=Pr.bind_ok h
  split at h
  ·exact nomatch h
  ·rename_i ho
   obtain⟨k,q3,h3,h⟩:=Pr.bind_ok h
   obtain⟨v,q4,h4,h⟩:=Pr.bind_ok h
   obtain⟨hs,q5,h5,h⟩:=Pr.bind_ok h
   obtain⟨u,q6,h6,h⟩:=Pr.bind_ok h
   injection h with h
   obtain⟨rfl,rfl⟩:=DK h
   obtain⟨-,a2,-,a4,a5⟩:=(fZ 1 (by decide) (by decide)).spell _ _ _ _ (DV _) h0
   obtain⟨-,b2,-,b4,b5⟩:=(gZ 64 (.inr rfl)).spell _ _ _ _ a2 h1
   obtain⟨-,c2,-,c4,c5⟩:=(gZ 32 (.inl rfl)).spell _ _ _ _ b2 h2
   obtain⟨-,d2,-,d4,d5⟩:=gc.spell _ _ _ _ c2 h3
   obtain⟨-,e2,-,e4,e5⟩:=gc.spell _ _ _ _ d2 h4
   obtain⟨-,f2,-,f4,f5⟩:=zo.spell _ _ _ _ e2 h5
   have hq:q5=s.length:=by
    unfold qB at h6
    split at h6
    ·rename_i hh; exact hh
    ·exact nomatch h6
   refine⟨?_,b5,⟨c5,by simp only; omega⟩,d5,e5,f5⟩
   have hs2:s=s.take q5:=by rw[hq,List.take_length]
   rw[hs2,f4,e4,d4,c4,b4,a4]
   simp only[bN,gy,kM,Df,List.take_zero,Ds]
 ·exact nomatch h
theorem SpV:Sp jC gy okBl:=gc
theorem SpH:Sp xY kM okHs:=zo
theorem yb {x:Rec} (h:qD x):o8 (bN x) 0= .ok (x,(bN x).length):=by
 obtain⟨h1,⟨h2,h3⟩,h4,h5,h6⟩:=h
 have hd:(bN x).drop 0=bN x:=rfl
 have hlen:(bN x).length=1+((bb (aI x.CY)).length+((bb (aI x.CU)).length+((gy x.CJ).length+((gy x.Cz).length+(kM x.CF).length)))):=by
  simp only[bN,Db,az]
 generalize hE:bN x=E at hd hlen ⊢
 have hh:E.drop 0=be 0 1++(bb (aI x.CY)++(bb (aI x.CU)++(gy x.CJ++(gy x.Cz++(kM x.CF ++ []))))):=by
  rw[hd,← hE]
  simp only[bN,DS]
 have g0:=(fZ 1 (by decide) (by decide)).back _ _ _ 0 (DV _) (by decide) hh
 have hh:=bZ hh
 rw[az] at hh g0
 have g1:=(gZ 64 (.inr rfl)).back _ _ _ _ (by omega) h1 hh
 have hh:=bZ hh
 have g2:=(gZ 32 (.inl rfl)).back _ _ _ _ (by omega) h2 hh
 have hh:=bZ hh
 have g3:=SpV.back _ _ _ _ (by omega) h4 hh
 have hh:=bZ hh
 have g4:=SpV.back _ _ _ _ (by omega) h5 hh
 have hh:=bZ hh
 have g5:=SpH.back _ _ _ _ (by omega) h6 hh
 rw[o8,Pr.bind_of g0,if_pos rfl,Pr.bind_of g1,Pr.bind_of g2,if_neg (by omega),Pr.bind_of g3,Pr.bind_of g4,Pr.bind_of g5]
 have he:0+1+(bb (aI x.CY)).length+(bb (aI x.CU)).length+(gy x.CJ).length+(gy x.Cz).length+(kM x.CF).length=E.length:=by omega
 rw[he,Pr.bind_of (a:=()) (r:=E.length) (by unfold qB; rw[if_pos rfl])]
 rfl
def bx (x:Rec):List UInt8:=bb (aI ((bN x).length:Int))++bN x
theorem vT:Sp ya bx (fun x=>qD x∧aI ((bN x).length:Int)<2 ^ (32:Int).toNat):=by
 refine⟨fun s q a r hq h=> ?_,fun s t q a hq ha h=> ?_⟩
 ·unfold ya at h
  cases hp:sc s q with
  | error e=>rw[hp] at h; exact nomatch h
  | ok y =>
   obtain⟨d,r'⟩:=y
   rw[hp] at h
   simp only at h
   obtain⟨a1,a2,a3,a4,a5⟩:=lR.spell _ _ _ _ hq hp
   cases hb:o8 d 0 with
   | error e=>rw[hb] at h; exact nomatch h
   | ok z =>
    rw[hb] at h
    injection h with h
    obtain⟨rfl,rfl⟩:=DK h
    obtain⟨b1,b2⟩:=vS (x:=z.1) (r:=z.2) hb
    unfold bx
    rw[← b1]
    exact⟨a1,a2,a3,a4,b2,a5.1⟩
 ·have g1:=lR.back s t q (bN a) hq ⟨ha.2,rfl⟩ h
  unfold ya
  rw[g1]
  simp only
  rw[yb ha.1]
  rfl
def rwt (x:Rec):Nat:=x.CJ.data.length+x.Cz.data.length+gP x.CF
theorem iR (b:Bl) (h:b.data.length≤1000000):(gy b).length≤10+b.data.length:=by
 have hb:=jk b (by omega)
 have:=fE (bH b) hb.1 hb.2
 rw[gy,Db]
 omega
theorem si (l:List Hd) (h:gP l≤1000000):(kM l).length≤10+gP l:=by
 have hn:=kg l
 have h1:=fE (l.length:Int) (by omega) (by omega)
 have h2:=qz l h
 rw[kM,Db]
 omega
theorem jD (x:Rec) (ht:wI x.CY) (ho:wI x.CU) (hw:rwt x≤900000):(bN x).length≤51+rwt x:=by
 unfold rwt at hw ⊢
 have h1:=dT _ (dh x.CY ht.1 ht.2)
 have h2:=dT _ (dh x.CU ho.1 ho.2)
 have h3:=iR x.CJ (by omega)
 have h4:=iR x.Cz (by omega)
 have h5:=si x.CF (by omega)
 simp only[bN,Db,az]
 omega
theorem vU (x:Rec) (ht:wI x.CY) (ho:0≤x.CU∧x.CU≤2147483647) (hk:aT x.CJ=true) (hv:aT x.Cz=true) (hh: ∀ h,h∈x.CF→aT h.Cz=true) (hw:rwt x≤900000):fN x=some (bN x,0):=by
 unfold rwt at hw
 have h1:=dT _ (dh x.CY ht.1 ht.2)
 have h2:=dT _ (dh x.CU (by omega) (by omega))
 have h3:=iR x.CJ (by omega)
 have h4:=iR x.Cz (by omega)
 unfold gy at h3 h4
 unfold fN
 rw[xC _ _ (by simp),C9,show fb ([],0) [UInt8.ofNat (0:Int).toNat]=(be 0 1,0) from by decide]
 have l1:(be 0 1).length=1:=az 0 1
 generalize hb0:be 0 1=b0 at l1
 rw[tV _ _ ⟨ht,by simp only; omega⟩,C9,kz]
 have l2:(b0++bb (aI x.CY)).length≤11:=by rw[Db]; omega
 generalize hB1:b0++bb (aI x.CY)=B1 at l2
 rw[pY _ _ ⟨by omega,by simp only; omega⟩,C9]
 unfold fz
 rw[if_pos (by omega),kz]
 have l3:(B1++bb (aI x.CU)).length≤21:=by rw[Db]; omega
 generalize hB2:B1++bb (aI x.CU)=B2 at l3
 rw[iL hk (by omega) (by omega),C9]
 have l4:(B2++(bb (aI (bH x.CJ))++x.CJ.data)).length≤31+x.CJ.data.length:=by rw[Db]; omega
 generalize hB3:B2++(bb (aI (bH x.CJ))++x.CJ.data)=B3 at l4
 rw[iL hv (by omega) (by omega),C9]
 have l5:(B3++(bb (aI (bH x.Cz))++x.Cz.data)).length≤41+x.CJ.data.length+x.Cz.data.length:=by rw[Db]; omega
 generalize hB4:B3++(bb (aI (bH x.Cz))++x.Cz.data)=B4 at l5
 rw[zp _ _ hh (by omega),C9,gI,C9,sd]
 rw[← hB4,← hB3,← hB2,← hB1,← hb0]
 simp only[bN,gy,kM,Df]
theorem qE {x:Rec} (h:dP x=0):(0≤x.CU∧x.CU≤2147483647)∧aT x.CJ=true∧aT x.Cz=true∧ ∀ h,h∈x.CF→aT h.Cz=true:=by
 unfold dP at h
 split at h
 ·exact absurd h (by decide)
 ·rename_i h1
  split at h
  ·rename_i h2
   simp only[Bool.and_eq_true] at h2
   exact⟨by omega,h2.1.1,h2.1.2,fun y hy=>List.all_eq_true.1 h2.2 y hy⟩
  ·exact absurd h (by decide)
theorem yc (x:Rec) (t:List UInt8) (ht:wI x.CY) (ho:wI x.CU) (hw:rwt x≤900000) (hl:t.length≤100000000):fk (t,0) x=some (if dP x=0 then (t++bx x,0) else (t,dP x)):=by
 unfold fk
 rw[kx x ho,C9]
 by_cases hr:dP x=0
 ·obtain⟨h1,h2,h3,h4⟩:=qE hr
  have hb:=jD x ht ho hw
  rw[if_pos hr,if_pos hr,vU x ht h1 h2 h3 h4 hw,C9]
  simp only[if_true]
  rw[qA (by omega) (by omega),C9]
  rfl
 ·rw[if_neg hr,if_neg hr,rR,C9,wG]
theorem yd (x:Rec) (ht:wI x.CY) (ho:wI x.CU) (hw:rwt x≤900000):ib x=some (bx x):=by
 have hb:=jD x ht ho hw
 unfold rwt at hw hb
 have h1:=dT _ (dh x.CY ht.1 ht.2)
 have h2:=dT _ (dh x.CU ho.1 ho.2)
 have h3:=iR x.CJ (by omega)
 have h4:=iR x.Cz (by omega)
 have h5:=si x.CF (by omega)
 have hz:lY [0]=be 0 1:=by decide
 have e:(((((be 0 1++bb (aI x.CY))++bb (aI x.CU))++gy x.CJ)++gy x.Cz)++kM x.CF)=bN x:=by simp only[bN,Df]
 unfold ib
 rw[hz,pF _ ht,C9,if_pos (by simp only[az]; omega),pF _ ho,C9,if_pos (by simp only[Db,az]; omega),iJ _ (by omega),C9]
 rw[show bb (aI (bH x.CJ))++x.CJ.data=gy x.CJ from rfl,if_pos (by simp only[Db,az]; omega),iJ _ (by omega),C9,show bb (aI (bH x.Cz))++x.Cz.data=gy x.Cz from rfl,if_pos (by simp only[Db,az]; omega),xZ _ (by omega),C9]
 rw[show bb (aI (x.CF.length:Int))++aQ dq x.CF=kM x.CF from rfl,e,if_pos (by simp only[Db,az]; omega),pF _ (by omega),C9]
 have h6:=dT _ (dh ((bN x).length:Int) (by omega) (by omega))
 rw[if_pos (by omega)]
 rfl
def qF (a b:Hd):Bool:=decide (a.CJ=b.CJ) && decide (a.Cz.null=b.Cz.null) && decide (a.Cz.data=b.Cz.data)
def eX:List Hd→List Hd→Bool
 | [],[]=>true
 | a::l,b::m=>qF a b && eX l m
 | _,_=>false
theorem o9: ∀ l:List Hd,eX l l=true
 | []=>rfl
 | a::l=>by rw[eX,o9 l]; simp[qF]
theorem mG: ∀ (l m:List Hd),eX l m=true→l.length=m.length
 | [],[],h=>rfl
 | [],b::m,h=>nomatch h
 | a::l,[],h=>nomatch h
 | a::l,b::m,h=>by
  rw[eX,Bool.and_eq_true] at h
  rw[Dh,Dh,mG l m h.2]
theorem sj (a b:List Hd) (ha:a.length≤1000000) (y:Bool): ∀ (t u:List Hd) (k fuel:Nat),a.drop k=t→b.drop k=u→t.length=u.length→t.length<fuel→ ∃ z,dC a b fuel y k=some (if eX t u=true then .go (y,z) else .ret false)
 | [],[],k,fuel+1,ht,hu,hl,hf=>by
  have:=bM ht
  exact⟨k,by rw[dC,if_neg (by omega)]; rfl⟩
 | [],d::u,k,fuel,ht,hu,hl,hf=>by simp at hl
 | c::t,[],k,fuel,ht,hu,hl,hf=>by simp at hl
 | c::t,d::u,k,fuel+1,ht,hu,hl,hf=>by
  obtain⟨t1,t2,t3⟩:=aW ht
  obtain⟨u1,u2,u3⟩:=aW hu
  simp only[Dh] at hl hf
  obtain⟨z,hz⟩:=sj a b ha y t u (k+1) fuel t2 u2 (by omega) (by omega)
  rw[dC,if_pos (by omega),t1,C9,u1,C9,eX,qF]
  by_cases h1:c.CJ=d.CJ
  ·rw[if_pos h1,C6 h1]
   by_cases h2:c.Cz.null=d.Cz.null
   ·rw[if_pos h2,C6 h2]
    by_cases h3:c.Cz.data=d.Cz.data
    ·rw[if_pos h3,C6 h3,if_pos (by omega)]
     exact⟨z,hz⟩
    ·rw[if_neg h3,C7 h3]
     exact⟨0,rfl⟩
   ·rw[if_neg h2,C7 h2]
    exact⟨0,rfl⟩
  ·rw[if_neg h1,C7 h1]
   exact⟨0,rfl⟩
theorem zr (a b:List Hd) (ha:a.length≤1000000):jd a b=some (eX a b):=by
 unfold jd
 by_cases hl:(a.length:Int)=(b.length:Int)
 ·obtain⟨z,hz⟩:=sj a b ha false a b 0 (((a.length:Int)).toNat+1) rfl rfl (by omega) (by omega)
  rw[if_pos hl,hz]
  cases eX a b <;> rfl
 ·rw[if_neg hl]
  have:eX a b=false:=by
   cases h:eX a b with
   | false=>rfl
   | true=>exact absurd (congrArg Int.ofNat (mG a b h)) hl
  rw[this]
def nA (a b:Rec):Bool:=decide (a.CY=b.CY) && decide (a.CU=b.CU) && decide (a.CJ.null=b.CJ.null) && decide (a.CJ.data=b.CJ.data) && decide (a.Cz.null=b.Cz.null) && decide (a.Cz.data=b.Cz.data) && eX a.CF b.CF
theorem vV (a:Rec):nA a a=true:=by simp[nA,o9]
theorem ye (a b:Hd):qF b a=qF a b:=by
 unfold qF
 simp only[eq_comm]
theorem sk (b:Rec) (y:Bool): ∀ (l u:List Hd) (k:Nat),b.CF.drop k=u→l.length=u.length→cE b l y k=some (if eX l u=true then .go y else .ret false)
 | [],[],k,hu,hl=>rfl
 | [],d::u,k,hu,hl=>by simp at hl
 | c::l,[],k,hu,hl=>by simp at hl
 | c::l,d::u,k,hu,hl=>by
  obtain⟨u1,u2,u3⟩:=aW hu
  simp only[Dh] at hl
  have ih:=sk b y l u (k+1) u2 (by omega)
  rw[cE,u1,C9,eX,← ye c d,qF,ih]
  by_cases h1:d.CJ=c.CJ
  ·rw[if_pos h1,C6 h1]
   by_cases h2:d.Cz.null=c.Cz.null
   ·rw[if_pos h2,C6 h2]
    by_cases h3:d.Cz.data=c.Cz.data
    ·rw[if_pos h3,C6 h3]
     rfl
    ·rw[if_neg h3,C7 h3]
     rfl
   ·rw[if_neg h2,C7 h2]
    rfl
  ·rw[if_neg h1,C7 h1]
   rfl
theorem zt (a b:Rec) (ha:a.CF.length≤1000000):je a b=some (nA a b):=by
 unfold je nA
 rw[zr _ _ ha]
 by_cases h1:a.CY=b.CY <;> by_cases h2:a.CU=b.CU <;> by_cases h3:a.CJ.null=b.CJ.null <;> by_cases h4:a.CJ.data=b.CJ.data <;> by_cases h5:a.Cz.null=b.Cz.null <;> by_cases h6:a.Cz.data=b.Cz.data <;> simp[h1,h2,h3,h4,h5,h6]
theorem uq (a b:Rec):fO a b=some (nA a b):=by
 unfold fO nA
 have hh:(if (a.CF.length:Int)=(b.CF.length:Int) then ((cE b a.CF false 0).bind fun e=>match e with | .ret r=>some r | .go y39=>some true) else some false)=some (eX a.CF b.CF):=by
  by_cases hl:(a.CF.length:Int)=(b.CF.length:Int)
  ·rw[if_pos hl,sk b false a.CF b.CF 0 rfl (by omega)]
   cases eX a.CF b.CF <;> rfl
  ·rw[if_neg hl]
   have:eX a.CF b.CF=false:=by
    cases h:eX a.CF b.CF with
    | false=>rfl
    | true=>exact absurd (congrArg Int.ofNat (mG _ _ h)) hl
   rw[this]
 by_cases h1:a.CY=b.CY
 case neg=>rw[if_neg h1,C7 h1]; simp
 rw[if_pos h1,C6 h1]
 by_cases h2:a.CU=b.CU
 case neg=>rw[if_neg h2,C7 h2]; simp
 rw[if_pos h2,C6 h2]
 by_cases h3:a.CJ.null=b.CJ.null
 case neg=>rw[if_neg h3,C7 h3]; simp
 rw[if_pos h3,C6 h3]
 by_cases h4:a.CJ.data=b.CJ.data
 case neg=>rw[if_neg h4,C7 h4]; simp
 rw[if_pos h4,C6 h4]
 by_cases h5:a.Cz.null=b.Cz.null
 case neg=>rw[if_neg h5,C7 h5]; simp
 rw[if_pos h5,C6 h5]
 by_cases h6:a.Cz.data=b.Cz.data
 case neg=>rw[if_neg h6,C7 h6]; simp
 rw[if_pos h6,C6 h6]
 simp only[Bool.true_and]
 exact hh
theorem zu {x:Rec} (ht:wI x.CY) (hr:dP x=0) (hw:rwt x≤900000):qD x∧aI ((bN x).length:Int)<2 ^ (32:Int).toNat:=by
 obtain⟨h1,h2,h3,h4⟩:=qE hr
 have hb:=jD x ht ⟨by omega,by omega⟩ hw
 unfold rwt at hw hb
 have hn:=kg x.CF
 have bk:=jk x.CJ (by omega)
 have bv:=jk x.Cz (by omega)
 refine⟨⟨?_,⟨ji _ (by omega) h1.2,h1.1⟩,⟨ji _ bk.1 bk.2,h2⟩,⟨ji _ bv.1 bv.2,h3⟩,ji _ (by omega) (by omega),fun h hh=> ?_⟩,ji _ (by omega) (by omega)⟩
 ·rw[show 2 ^ (64:Int).toNat=18446744073709551616 by decide]
  exact dh _ ht.1 ht.2
 ·have hm:=ul _ _ hh
  unfold hwt at hm
  have b:=jk h.Cz (by omega)
  exact⟨ji _ (by omega) (by omega),ji _ b.1 b.2,h4 h hh⟩
theorem vW (x:Rec) (ht:wI x.CY) (ho:wI x.CU) (hw:rwt x≤900000):(bx x).length≤61+rwt x:=by
 have hb:=jD x ht ho hw
 have h6:=dT _ (dh ((bN x).length:Int) (by omega) (by omega))
 rw[bx,Db]
 omega
theorem ur {x:Rec} (h:qD x):dP x=0∧wI x.CY∧wI x.CU:=by
 obtain⟨h1,⟨h2,h3⟩,h4,h5,h6⟩:=h
 rw[show 2 ^ (64:Int).toNat=18446744073709551616 by decide] at h1
 rw[show 2 ^ (32:Int).toNat=4294967296 by decide] at h2
 have ho:x.CU≤2147483647:=by unfold aI at h2; split at h2 <;> omega
 refine⟨?_,?_,⟨by omega,by omega⟩⟩
 ·unfold dP
  have hb:ls x.CF=true:=List.all_eq_true.2 fun y hy=>(h6.2 y hy).2.2
  rw[if_neg (by omega),h4.2,h5.2,hb]
  rfl
 ·unfold aI at h1
  constructor <;> (split at h1 <;> omega)
def pk:Nat:=2197175160
def kP (x:Nat):Nat:=x / 2 ^^^ (if x % 2=1 then pk else 0)
def il:Nat→Nat→Nat
 | 0,x=>x
 | k+1,x=>il k (kP x)
theorem tj (x y:Nat):(x ^^^ y) % 2=(x % 2+y % 2) % 2:=by
 have h:=Nat.xor_mod_two_pow (a:=x) (b:=y) (n:=1)
 rw[Nat.pow_one] at h
 rw[h]
 rcases Nat.mod_two_eq_zero_or_one x with hx | hx <;> rcases Nat.mod_two_eq_zero_or_one y with hy | hy <;> rw[hx,hy] <;> rfl
theorem tk (x y:Nat):(x ^^^ y) / 2=(x / 2) ^^^ (y / 2):=Nat.xor_div_two
theorem zw (x y:Nat):kP (x ^^^ y)=kP x ^^^ kP y:=by
 unfold kP
 rw[tk,tj]
 rcases Nat.mod_two_eq_zero_or_one x with hx | hx <;> rcases Nat.mod_two_eq_zero_or_one y with hy | hy <;> simp[hx,hy]
 ·rw[Nat.xor_assoc]
 ·ac_rfl
 ·rw[show x / 2 ^^^ pk ^^^ (y / 2 ^^^ pk)=x / 2 ^^^ y / 2 ^^^ (pk ^^^ pk) by ac_rfl,Nat.xor_self,Nat.xor_zero]
theorem qG: ∀ (k x y:Nat),il k (x ^^^ y)=il k x ^^^ il k y
 | 0,_,_=>rfl
 | k+1,x,y=>by show il k _= _; rw[zw,qG k]; rfl
theorem ut: ∀ (j k x:Nat),il (j+k) x=il k (il j x)
 | 0,k,x=>by rw[Nat.zero_add]; rfl
 | j+1,k,x=>by rw[show j+1+k=(j+k)+1 by omega]; exact ut j k (kP x)
theorem yf (x:Nat):kP (2*x)=x:=by
 unfold kP; rw[if_neg (by omega),Nat.xor_zero]; omega
theorem mH: ∀ (k x:Nat),il k (2 ^ k*x)=x
 | 0,x=>by rw[Nat.pow_zero,Nat.one_mul]; rfl
 | k+1,x=>by
  show il k (kP _)=x
  rw[show 2 ^ (k+1)*x=2*(2 ^ k*x) by rw[Nat.pow_succ,Nat.mul_comm (2 ^ k) 2,Nat.mul_assoc],yf]
  exact mH k x
theorem wO {x:Nat} (h:x<2 ^ 32):kP x<2 ^ 32:=by
 unfold kP
 exact Nat.xor_lt_two_pow (by omega) (by split <;> decide)
theorem pG: ∀ (k:Nat) {x:Nat},x<2 ^ 32→il k x<2 ^ 32
 | 0,_,h=>h
 | k+1,_,h=>pG k (wO h)
theorem yg (x b:Nat) (hb:b<256):il 8 (x ^^^ b)=il 8 ((x % 256) ^^^ b) ^^^ (x / 256):=by
 have h:x=(x % 256) ^^^ (2 ^ 8*(x / 256)):=by
  apply Nat.eq_of_testBit_eq
  intro i
  rw[Nat.testBit_xor,show (256:Nat)=2 ^ 8 from rfl,Nat.testBit_mod_two_pow,Nat.testBit_two_pow_mul,Nat.testBit_div_two_pow]
  by_cases hi:i<8
  ·simp[hi,show ¬ 8≤i by omega]
  ·simp[hi,show 8≤i by omega]
 conv=>lhs; rw[h]
 rw[show x % 256 ^^^ 2 ^ 8*(x / 256) ^^^ b=(x % 256 ^^^ b) ^^^ (2 ^ 8*(x / 256)) by ac_rfl,qG,mH]
def leN:List UInt8→Nat
 | []=>0
 | c::l=>c.toNat+256*leN l
def om:Nat→List UInt8→Nat
 | x,[]=>x
 | x,c::l=>om (il 8 (x ^^^ c.toNat)) l
theorem zx: ∀ l,leN l<2 ^ (8*l.length)
 | []=>by decide
 | c::l=>by
  have:=zx l
  have hc:=c.toNat_lt
  show c.toNat+256*leN l<2 ^ (8*(l.length+1))
  rw[show 8*(l.length+1)=8+8*l.length by omega,Nat.pow_add]
  omega
theorem uu {b:Nat} (hb:b<256) (y:Nat):b+256*y=b ^^^ (2 ^ 8*y):=by
 apply Nat.eq_of_testBit_eq
 intro i
 rw[show b+256*y=2 ^ 8*y+b by omega,Nat.testBit_two_pow_mul_add _ (show b<2 ^ 8 by omega),Nat.testBit_xor,Nat.testBit_two_pow_mul]
 by_cases hi:i<8
 ·simp[hi,show ¬ 8≤i by omega]
 ·have:b.testBit i=false:=Nat.testBit_lt_two_pow (Nat.lt_of_lt_of_le hb (show 2 ^ 8≤2 ^ i from Nat.pow_le_pow_right (by decide) (by omega)))
  simp[hi,show 8≤i by omega,this]
theorem wQ: ∀ (l:List UInt8) (x:Nat),om x l=il (8*l.length) (x ^^^ leN l)
 | [],x=>by show x=il 0 (x ^^^ 0); rw[Nat.xor_zero]; rfl
 | c::l,x=>by
  show om _ l= _
  rw[wQ l,show 8*(c::l).length=8+8*l.length by simp[Nat.mul_add]; omega,ut]
  show _=il _ (il 8 (x ^^^ (c.toNat+256*leN l)))
  rw[uu c.toNat_lt,show x ^^^ (c.toNat ^^^ 2 ^ 8*leN l)=(x ^^^ c.toNat) ^^^ (2 ^ 8*leN l) by ac_rfl,qG 8 (x ^^^ c.toNat),mH]
theorem pa: ∀ (l m:List UInt8) (x:Nat),om x (l++m)=om (om x l) m
 | [],_,_=>rfl
 | c::l,m,x=>pa l m _
theorem pH: ∀ (l:List UInt8) {x:Nat},x<2 ^ 32→om x l<2 ^ 32
 | [],_,h=>h
 | c::l,_,h=>pH l (pG 8 (Nat.xor_lt_two_pow h (Nat.lt_trans c.toNat_lt (by decide))))
theorem lT (a:Nat) (h:a<4294967296):(BitVec.ofInt IntKind.u32.bits (a:Int)).toNat=a:=by
 show (BitVec.ofInt 32 (a:Int)).toNat=a
 rw[BitVec.ofInt_natCast,BitVec.toNat_ofNat,Nat.mod_eq_of_lt (by omega)]
theorem uv (a:Nat) (h:a<256):(BitVec.ofInt IntKind.u8.bits (a:Int)).toNat=a:=by
 show (BitVec.ofInt 8 (a:Int)).toNat=a
 rw[BitVec.ofInt_natCast,BitVec.toNat_ofNat,Nat.mod_eq_of_lt (by omega)]
theorem wrap_u32 (a:Nat):IntKind.u32.wrap (a:Int)=((a % 4294967296:Nat):Int):=by
 rw[IntKind.wrap_u32]; omega
theorem wrap_u8 (a:Nat):IntKind.u8.wrap (a:Int)=((a % 256:Nat):Int):=by
 rw[IntKind.wrap_u8]; omega
theorem pI (a b:Nat) (ha:a<4294967296) (hb:b<4294967296):Go.bits .xor .u32 (a:Int) (b:Int)=((a ^^^ b:Nat):Int):=by
 show IntKind.u32.wrap (((BitVec.ofInt IntKind.u32.bits (a:Int)) ^^^ (BitVec.ofInt IntKind.u32.bits (b:Int))).toNat:Int)= _
 rw[BitVec.toNat_xor,lT a ha,lT b hb,wrap_u32,Nat.mod_eq_of_lt (Nat.xor_lt_two_pow (n:=32) ha hb)]
theorem xor_u8 (a b:Nat) (ha:a<256) (hb:b<256):Go.bits .xor .u8 (a:Int) (b:Int)=((a ^^^ b:Nat):Int):=by
 show IntKind.u8.wrap (((BitVec.ofInt IntKind.u8.bits (a:Int)) ^^^ (BitVec.ofInt IntKind.u8.bits (b:Int))).toNat:Int)= _
 rw[BitVec.toNat_xor,uv a ha,uv b hb,wrap_u8,Nat.mod_eq_of_lt (Nat.xor_lt_two_pow (n:=8) ha hb)]
theorem zy (a:Nat) (ha:a<4294967296):Go.bits .and .u32 (a:Int) 1=((a % 2:Nat):Int):=by
 show IntKind.u32.wrap (((BitVec.ofInt IntKind.u32.bits (a:Int)) &&& (BitVec.ofInt IntKind.u32.bits ((1:Nat):Int))).toNat:Int)= _
 rw[BitVec.toNat_and,lT a ha,lT 1 (by decide),wrap_u32,Nat.and_one_is_mod,Nat.mod_eq_of_lt (by omega)]
theorem zz (a:Nat):rv .u32 (a:Int) 1=((a / 2:Nat):Int):=by
 show Int.fdiv (a:Int) 2= _
 rw[Int.fdiv_eq_ediv_of_nonneg _ (by decide)]
 omega
theorem zA (a:Nat):rv .u32 (a:Int) 8=((a / 256:Nat):Int):=by
 show Int.fdiv (a:Int) 256= _
 rw[Int.fdiv_eq_ediv_of_nonneg _ (by decide)]
 omega
theorem zB (y:Nat) (hy:y<4294967296):(if Go.bits .and .u32 (y:Int) 1=1 then some (Go.bits .xor .u32 (rv .u32 (y:Int) 1) 2197175160) else some (rv .u32 (y:Int) 1))=some ((kP y:Nat):Int):=by
 rw[zy y hy,zz,show (2197175160:Int)=((2197175160:Nat):Int) from rfl,pI _ _ (by omega) (by decide)]
 unfold kP
 by_cases h:y % 2=1
 ·rw[if_pos (by omega),if_pos h]; rfl
 ·rw[if_neg (by omega),if_neg h,Nat.xor_zero]
theorem zC: ∀ (m y k:Nat),y<4294967296→k≤8→8 - k<m→dX m (y:Int) k=some (((il (8 - k) y:Nat):Int),8)
 | 0,_,_,_,_,h=>by omega
 | m+1,y,k,hy,hk,hm=>by
  rw[dX]
  by_cases h:k<8
  ·rw[if_pos (by omega),zB y hy,C9,if_pos (by omega),zC m (kP y) (k+1) (wO hy) (by omega) (by omega),show 8 - k=(8 - (k+1))+1 by omega]
   rfl
  ·rw[if_neg (by omega),show 8 - k=0 by omega,show k=8 by omega]
   rfl
def gQ:List Int:=(List.range 256).map (fun j=>((il 8 j:Nat):Int))
theorem qH (j:Nat) (hj:j<256):gQ[j]? = some ((il 8 j:Nat):Int):=by
 unfold gQ
 rw[List.getElem?_map,List.getElem?_range hj]
 rfl
theorem zD: ∀ (m k:Nat) (l:List Int),l.length=256→k≤256→256 - k<m→(∀ j,j<k→l[j]? = some ((il 8 j:Nat):Int))→eK m k l=some (256,gQ)
 | 0,_,_,_,_,h,_=>by omega
 | m+1,k,l,hl,hk,hm,hj=>by
  rw[eK]
  by_cases h:k<256
  ·have e1:IntKind.u32.wrap (k:Int)=((k:Nat):Int):=by rw[wrap_u32,Nat.mod_eq_of_lt (by omega)]
   have e2:dX ((8:Int).toNat+1) (IntKind.u32.wrap (k:Int)) 0=some (((il 8 k:Nat):Int),8):=by
    rw[e1]
    exact zC 9 k 0 (by omega) (by omega) (by omega)
   have e3:l[k]? = some (l[k]'(by omega)):=List.getElem?_eq_getElem (by omega)
   rw[if_pos (by omega),e2,C9]
   dsimp only
   rw[e3,C9,C9,if_pos (by omega)]
   refine zD m (k+1) _ (by rw[List.length_set]; exact hl) (by omega) (by omega) (fun j hjk=> ?_)
   rw[List.getElem?_set]
   by_cases e:k=j
   ·rw[if_pos e,if_pos (by omega),e]
   ·rw[if_neg e]
    exact hj j (by omega)
  ·rw[if_neg (by omega),show k=256 by omega]
   congr 2
   apply List.ext_getElem?
   intro j
   by_cases hj2:j<256
   ·rw[qH j hj2]
    exact hj j (by omega)
   ·rw[List.getElem?_eq_none (by omega),List.getElem?_eq_none (by unfold gQ; simp; omega)]
theorem wR:iQ=some gQ:=by
 unfold iQ
 rw[show (256:Int).toNat+1=257 from rfl,zD 257 0 _ (List.length_replicate ..) (by omega) (by omega) (fun j hj=>absurd hj (by omega)),C9]
theorem wT (s:List UInt8) (hs:s.length≤9223372036854775806): ∀ (m y k:Nat),y<4294967296→k≤s.length→s.length - k<m→cD s m (y:Int) k gQ=some (((om y (s.drop k):Nat):Int),s.length,gQ)
 | 0,_,_,_,_,h=>by omega
 | m+1,y,k,hy,hk,hm=>by
  rw[cD]
  by_cases h:k<s.length
  ·have e1:s[k]? = some s[k]:=List.getElem?_eq_getElem h
   have hc:=s[k].toNat_lt
   have hx:y % 256 ^^^ s[k].toNat<256:=Nat.xor_lt_two_pow (n:=8) (by omega) hc
   have e2:Go.bits .xor .u8 (IntKind.u8.wrap (y:Int)) (s[k].toNat:Int)=((y % 256 ^^^ s[k].toNat:Nat):Int):=by
    rw[wrap_u8,xor_u8 _ _ (by omega) (by omega)]
   have e3:il 8 (y % 256 ^^^ s[k].toNat)<2 ^ 32:=pG 8 (by omega)
   rw[if_pos (by omega),e1,C9,e2,if_pos (by omega),D4,qH _ hx,C9,if_pos (by omega),zA,pI _ _ (by omega) (by omega),← yg y _ (by omega),
    wT s hs m _ (k+1) (pG 8 (Nat.xor_lt_two_pow (n:=32) hy (by omega))) (by omega) (by omega)]
   rw[aX e1]
   rfl
  ·rw[if_neg (by omega),show k=s.length by omega,List.drop_length]
   rfl
def kB (x:Nat) (s:List UInt8):Nat:=4294967295 ^^^ om (4294967295 ^^^ x) s
theorem tl {x:Nat} (hx:x<4294967296) (s:List UInt8):kB x s<4294967296:=Nat.xor_lt_two_pow (n:=32) (by decide) (pH s (Nat.xor_lt_two_pow (n:=32) (by decide) hx))
theorem ones2 (x:Nat):4294967295 ^^^ (4294967295 ^^^ x)=x:=by rw[← Nat.xor_assoc,Nat.xor_self,Nat.zero_xor]
theorem uw (x:Nat) (s t:List UInt8):kB x (s++t)=kB (kB x s) t:=by
 unfold kB
 rw[pa,ones2]
theorem zE (x:Nat):kB x []=x:=ones2 x
theorem zF (x:Nat) (hx:x<4294967296) (s:List UInt8) (hs:s.length≤9223372036854775806):eS gQ (x:Int) s=some (((kB x s:Nat):Int),gQ):=by
 unfold eS
 have h1:(4294967295 ^^^ x:Nat)<4294967296:=Nat.xor_lt_two_pow (n:=32) (by decide) hx
 rw[show (4294967295:Int)=((4294967295:Nat):Int) from rfl,pI _ _ (by decide) hx,D4,wT s hs _ _ 0 h1 (by omega) (by omega),C9,List.drop_zero]
 dsimp only
 rw[pI _ _ (by decide) (pH s h1)]
 rfl
theorem zG: ∀ (l:List (List UInt8)) (x:Nat),x<4294967296→(∀ s,s∈l→s.length≤9223372036854775806)→ci l (x:Int) gQ=some (((kB x l.flatten:Nat):Int),gQ)
 | [],x,_,_=>by rw[ci,List.flatten_nil,zE]
 | s::l,x,hx,hs=>by
  rw[ci,zF x hx s (hs s (List.mem_cons_self ..)),C9]
  dsimp only
  rw[zG l _ (tl hx s) (fun t ht=>hs t (List.mem_cons_of_mem _ ht)),List.flatten_cons,uw]
theorem wU (l:List (List UInt8)) (hs: ∀ s,s∈l→s.length≤9223372036854775806):ew gQ l=some (((kB 0 l.flatten:Nat):Int),gQ):=by
 unfold ew
 have h:=zG l 0 (by decide) hs
 rw[show ((0:Nat):Int)=0 from rfl] at h
 rw[h,C9]
def bI (x j:Nat):Int:=if x.testBit j then 1 else 0
theorem vX (x j:Nat):bI x j=((x / 2 ^ j % 2:Nat):Int):=by
 unfold bI
 rw[Nat.testBit_eq_decide_div_mod_eq]
 rcases Nat.mod_two_eq_zero_or_one (x / 2 ^ j) with h | h <;> rw[h] <;> rfl
theorem sn (x j:Nat):bI x j=0∨bI x j=1:=by
 unfold bI
 by_cases h:x.testBit j=true
 ·rw[if_pos h]; exact .inr rfl
 ·rw[if_neg h]; exact .inl rfl
theorem qI (x y j:Nat):bI (x ^^^ y) j=(bI x j+bI y j) % 2:=by
 unfold bI
 rw[Nat.testBit_xor]
 cases x.testBit j <;> cases y.testBit j <;> rfl
theorem tn (x j:Nat):bI (x / 2) j=bI x (j+1):=by
 unfold bI
 rw[Nat.testBit_succ]
theorem ux: ∀ (s:List UInt8) (k:Nat) (c:UInt8),s[k]? = some c→ ∀ j,j<8→(leN s).testBit (8*k+j)=c.toNat.testBit j
 | [],k,c,h,j,hj=>by simp at h
 | a::s,0,c,h,j,hj=>by
  obtain rfl:a=c:=by simpa using h
  show (a.toNat+256*leN s).testBit (8*0+j)= _
  rw[show a.toNat+256*leN s=2 ^ 8*leN s+a.toNat by omega,Nat.testBit_two_pow_mul_add _ (show a.toNat<2 ^ 8 from a.toNat_lt),if_pos (by omega),Nat.mul_zero,Nat.zero_add]
 | a::s,k+1,c,h,j,hj=>by
  show (a.toNat+256*leN s).testBit _= _
  rw[show a.toNat+256*leN s=2 ^ 8*leN s+a.toNat by omega,Nat.testBit_two_pow_mul_add _ (show a.toNat<2 ^ 8 from a.toNat_lt),if_neg (by omega),show 8*(k+1)+j - 8=8*k+j by omega]
  exact ux s k c (by simpa using h) j hj
theorem zH (a:Int) (ha:0≤a) (hb:a≤9223372036854775807): ∀ (m y k:Nat),y<256→k≤(a % 8).toNat→(a % 8).toNat - k<m→eL a m (y:Int) k=some (((y / 2 ^ ((a % 8).toNat - k):Nat):Int),(a % 8).toNat)
 | 0,_,_,_,_,h=>by omega
 | m+1,y,k,hy,hk,hm=>by
  rw[eL,if_pos ⟨ha,hb⟩]
  by_cases h:k<(a % 8).toNat
  ·rw[if_pos (by omega),if_pos (by omega),if_pos (by omega),show ((y:Int) / 2)=((y / 2:Nat):Int) by omega,zH a ha hb m (y / 2) (k+1) (by omega) (by omega) (by omega),Nat.div_div_eq_div_mul,
    show (a % 8).toNat - k=((a % 8).toNat - (k+1))+1 by omega,Nat.pow_succ,Nat.mul_comm 2]
  ·rw[if_neg (by omega),show (a % 8).toNat - k=0 by omega,Nat.pow_zero,Nat.div_one,show k=(a % 8).toNat by omega]
theorem Ax (s:List UInt8) (i:Nat) (hi:i<8*s.length) (hb:i≤9223372036854775807):kb s (i:Int)=some (bI (leN s) i):=by
 unfold kb
 have hk:i / 8<s.length:=by omega
 have e1:s[i / 8]? = some s[i / 8]:=List.getElem?_eq_getElem hk
 have hc:=s[i / 8].toNat_lt
 have e2:=zH (i:Int) (by omega) (by omega) (((i:Int) % 8).toNat+1) s[i / 8].toNat 0 (by omega) (by omega) (by omega)
 have e3:((i:Int) % 8).toNat=i % 8:=by omega
 rw[if_pos (by omega),if_pos (by omega),show ((i:Int) / 8).toNat=i / 8 by omega,e1,C9,if_pos (by omega),e2,C9,e3,Nat.sub_zero]
 dsimp only
 have h4:s[i / 8].toNat / 2 ^ (i % 8)≤s[i / 8].toNat:=Nat.div_le_self _ _
 suffices h6:bI (leN s) i=((s[i / 8].toNat / 2 ^ (i % 8) % 2:Nat):Int) by
  rw[h6]
  generalize s[i / 8].toNat / 2 ^ (i % 8)=q at h4 ⊢
  rw[if_pos (by omega)]
  congr 1
 have h5:=ux s (i / 8) _ e1 (i % 8) (by omega)
 rw[show 8*(i / 8)+i % 8=i by omega] at h5
 unfold bI
 rw[h5]
 exact vX _ _
theorem yh: ∀ i:Nat,i<32→ig (31 - (i:Int))=some (bI pk i):=by decide +kernel
def Bts (L k:Nat) (l:List Int) (x:Nat):Prop:=l.length=L∧ ∀ j,k+j<L→l[k+j]? = some (bI x j)
theorem zI (s:List UInt8) (hs:s.length≤1000000): ∀ (m k:Nat) (l:List Int),l.length=8*s.length+32→k≤8*s.length→8*s.length - k<m→(∀ j,j<k→l[j]? = some (bI (leN s) j))→(∀ j,k≤j→j<8*s.length+32→l[j]? = some 0) →
 ∃ l',eO s m l k=some (l',8*s.length)∧Bts (8*s.length+32) 0 l' (leN s)
 | 0,_,_,_,_,h,_,_=>by omega
 | m+1,k,l,hl,hk,hm,h1,h2=>by
  rw[eO]
  by_cases h:k<8*s.length
  ·rw[if_pos (by omega),Ax s k h (by omega),C9,h2 k (DJ _) (by omega),C9,if_pos (by omega)]
   refine zI s hs m (k+1) _ (by rw[List.length_set]; exact hl) (by omega) (by omega) (fun j hj=> ?_) (fun j hj hj2=> ?_)
   ·rw[List.getElem?_set]
    by_cases e:k=j
    ·rw[if_pos e,if_pos (by omega),e]
    ·rw[if_neg e]; exact h1 j (by omega)
   ·rw[List.getElem?_set,if_neg (by omega)]
    exact h2 j (by omega) hj2
  ·have hk2:k=8*s.length:=by omega
   rw[if_neg (by omega),hk2]
   refine⟨l,rfl,hl,fun j hj=> ?_⟩
   rw[Nat.zero_add] at hj ⊢
   by_cases e:j<k
   ·exact h1 j e
   ·rw[h2 j (by omega) hj]
    unfold bI
    rw[Nat.testBit_lt_two_pow (Nat.lt_of_lt_of_le (zx s) (Nat.pow_le_pow_right (by decide) (by omega)))]
    rfl
theorem tp (k j:Nat):bI (2 ^ k - 1) j=if j<k then 1 else 0:=by
 unfold bI
 rw[Nat.testBit_two_pow_sub_one]
 by_cases h:j<k <;> simp[h]
theorem zJ (x L:Nat) (hL:32≤L): ∀ (m k:Nat) (l:List Int),k≤32→32 - k<m→Bts L 0 l (x ^^^ (2 ^ k - 1))→ ∃ l',eN m l k=some (l',32)∧Bts L 0 l' (x ^^^ 4294967295)
 | 0,_,_,_,h,_=>by omega
 | m+1,k,l,hk,hm,hB=>by
  rw[eN]
  by_cases h:k<32
  ·have e:=hB.2 k (by omega)
   rw[Nat.zero_add] at e
   rw[if_pos (by omega),e,C9]
   have h01:=sn (x ^^^ (2 ^ k - 1)) k
   rw[if_pos (by omega),if_pos (by omega)]
   refine zJ x L hL m (k+1) _ (by omega) (by omega) ⟨by rw[List.length_set]; exact hB.1,fun j hj=> ?_⟩
   rw[Nat.zero_add] at hj ⊢
   have e2:=hB.2 j (by omega)
   rw[Nat.zero_add] at e2
   have R:bI (x ^^^ (2 ^ (k+1) - 1)) j=(bI x j+if j<k+1 then 1 else 0) % 2:=by rw[qI,tp]
   have R0:bI (x ^^^ (2 ^ k - 1)) j=(bI x j+if j<k then 1 else 0) % 2:=by rw[qI,tp]
   rw[List.getElem?_set,R]
   by_cases e3:k=j
   ·subst e3
    rw[if_pos rfl,if_pos (by rw[hB.1]; exact hj),if_pos (by omega),R0,if_neg (by omega)]
    rcases sn x k with q | q <;> rw[q] <;> rfl
   ·rw[if_neg e3,e2,R0]
    by_cases e4:j<k
    ·rw[if_pos e4,if_pos (by omega)]
    ·rw[if_neg e4,if_neg (by omega)]
  ·have:k=32:=by omega
   subst this
   rw[if_neg (by omega)]
   exact⟨l,rfl,hB⟩
theorem zK (L k:Nat) (l0:List Int) (y:Nat) (hL:k+33≤L) (hb:L≤9000000) (h0:Bts L k l0 y): ∀ (m i:Nat) (l:List Int),1≤i→i≤33→33 - i<m→l.length=L→(∀ j,k+i≤j→j<L→l[j]? = l0[j]?)→(∀ j,j+1<i→l[k+1+j]? = some (bI (y / 2 ^^^ pk) j)) →
 ∃ l',eM k m l (i:Int)=some (l',33)∧l'.length=L∧(∀ j,k+33≤j→j<L→l'[j]? = l0[j]?)∧ ∀ j,j<32→l'[k+1+j]? = some (bI (y / 2 ^^^ pk) j)
 | 0,_,_,_,_,h,_,_,_=>by omega
 | m+1,i,l,h1,hi,hm,hl,hr,hd=>by
  rw[eM]
  by_cases h:i≤32
  ·have e1:l[k+i]? = some (bI y i):=by rw[hr (k+i) (DJ _) (by omega)]; exact h0.2 i (by omega)
   have e2:ig (32 - (i:Int))=some (bI pk (i - 1)):=by
    rw[show (32:Int) - (i:Int)=31 - ((i - 1:Nat):Int) by omega]
    exact yh (i - 1) (by omega)
   have q1:=sn y i
   have q2:=sn pk (i - 1)
   rw[if_pos (by omega),if_pos (by omega),show ((k:Int)+(i:Int)).toNat=k+i by omega,e1,C9,if_pos (by omega),if_pos (by omega),if_pos (by omega),e2,C9,if_pos (by omega),if_pos (by omega),if_pos (by omega),
    show (i:Int)+1=((i+1:Nat):Int) by omega]
   refine zK L k l0 y hL hb h0 m (i+1) _ (by omega) (by omega) (by omega) (by rw[List.length_set]; exact hl) (fun j hj hj2=> ?_) (fun j hj=> ?_)
   ·rw[List.getElem?_set,if_neg (by omega)]
    exact hr j (by omega) hj2
   ·rw[List.getElem?_set]
    by_cases e3:k+i=k+1+j
    ·rw[if_pos e3,if_pos (by omega),qI,tn,show j+1=i by omega,show i - 1=j by omega]
    ·rw[if_neg e3]; exact hd j (by omega)
  ·have:i=33:=by omega
   subst this
   rw[if_neg (by omega)]
   exact⟨l,rfl,hl,fun j hj hj2=>hr j hj hj2,fun j hj=>hd j (by omega)⟩
theorem yi (j:Nat) (hj:32≤j):bI pk j=0:=by
 unfold bI
 rw[Nat.testBit_lt_two_pow (Nat.lt_of_lt_of_le (show pk<2 ^ 32 by decide) (Nat.pow_le_pow_right (by decide) hj))]
 rfl
theorem wV (x:Nat):bI x 0=1↔x % 2=1:=by
 rw[vX,Nat.pow_zero,Nat.div_one]; omega
theorem vY (s:List UInt8) (hs:s.length≤1000000): ∀ (m k:Nat) (l:List Int) (y:Nat),k≤8*s.length→8*s.length - k<m→Bts (8*s.length+32) k l y→ ∃ l',dZ s m l k=some (l',8*s.length)∧Bts (8*s.length+32) (8*s.length) l' (il (8*s.length - k) y)
 | 0,_,_,_,_,h,_=>by omega
 | m+1,k,l,y,hk,hm,hB=>by
  rw[dZ]
  by_cases h:k<8*s.length
  ·have e1:=hB.2 0 (by omega)
   rw[Nat.add_zero] at e1
   rw[if_pos (by omega),e1,C9,show 8*s.length - k=(8*s.length - (k+1))+1 by omega]
   by_cases ho:bI y 0=1
   ·have hy:=(wV y).1 ho
    obtain⟨l',r1,r2,r3,r4⟩:=zK (8*s.length+32) k l y (by omega) (by omega) hB 33 1 l (by omega) (by omega) (by omega) hB.1 (fun j _ _=>rfl) (fun j hj=>absurd hj (by omega))
    rw[if_pos ho,show ((33:Int) - 1).toNat+1=33 from rfl,show (1:Int)=((1:Nat):Int) from rfl,r1,C9]
    dsimp only
    rw[if_pos (by omega)]
    refine vY s hs m (k+1) l' (kP y) (by omega) (by omega) ⟨r2,fun j hj=> ?_⟩
    unfold kP
    rw[if_pos hy]
    by_cases e:j<32
    ·exact r4 j e
    ·rw[r3 _ (by omega) (by omega),show k+1+j=k+(j+1) by omega,hB.2 (j+1) (by omega),qI,tn,yi j (by omega)]
     rcases sn y (j+1) with q | q <;> rw[q] <;> rfl
   ·have hy: ¬ y % 2=1:=fun e=>ho ((wV y).2 e)
    rw[if_neg ho,if_pos (by omega)]
    refine vY s hs m (k+1) l (kP y) (by omega) (by omega) ⟨hB.1,fun j hj=> ?_⟩
    unfold kP
    rw[if_neg hy,Nat.xor_zero,tn,show k+1+j=k+(j+1) by omega]
    exact hB.2 (j+1) (by omega)
  ·have:k=8*s.length:=by omega
   subst this
   rw[if_neg (by omega),Nat.sub_self]
   exact⟨l,rfl,hB⟩
theorem uy {z:Nat} (hz:z<4294967296):4294967295 ^^^ z=4294967295 - z:=by
 apply Nat.eq_of_testBit_eq
 intro i
 rw[show 4294967295 - z=2 ^ 32 - (z+1) by omega,Nat.testBit_two_pow_sub_succ (show z<2 ^ 32 from hz),Nat.testBit_xor,show (4294967295:Nat)=2 ^ 32 - 1 from rfl,Nat.testBit_two_pow_sub_one]
 by_cases h:i<32
 ·simp[h]
 ·have:z.testBit i=false:=Nat.testBit_lt_two_pow (Nat.lt_of_lt_of_le hz (show 2 ^ 32≤2 ^ i from Nat.pow_le_pow_right (by decide) (by omega)))
  simp[h,this]
theorem zL (s:List UInt8) (hs:s.length≤1000000) (l:List Int) (z:Nat) (hz:z<4294967296) (hB:Bts (8*s.length+32) (8*s.length) l z): ∀ (i m:Nat),i≤32→i<m→dz s l m (((4294967295 - z) / 2 ^ i:Nat):Int) ((i:Int) - 1)=some (((4294967295 - z:Nat):Int),-1)
 | i,0,_,h=>by omega
 | 0,m+1,_,_=>by
  rw[dz,if_neg (by omega),Nat.pow_zero,Nat.div_one]
  rfl
 | i+1,m+1,hi,hm=>by
  have e1:=hB.2 i (by omega)
  have q:=sn z i
  rw[dz,if_pos (by omega),if_pos (by omega),if_pos (by omega),show (8*(s.length:Int)+(((i+1:Nat):Int) - 1)).toNat=8*s.length+i by omega,e1,C9,if_pos (by omega),if_pos (by omega),
   show ((i+1:Nat):Int) - 1 - 1=(i:Int) - 1 by omega]
  have h1:(4294967295 - z) / 2 ^ i / 2=(4294967295 - z) / 2 ^ (i+1):=by rw[Nat.div_div_eq_div_mul,← Nat.pow_succ]
  have h2:(((4294967295 - z) / 2 ^ i % 2:Nat):Int)=1 - bI z i:=by
   rw[← vX,← uy hz,qI,show (4294967295:Nat)=2 ^ 32 - 1 from rfl,tp,if_pos (by omega)]
   rcases q with q | q <;> rw[q] <;> rfl
  have h3:(4294967295 - z) / 2 ^ i≤4294967295:=Nat.le_trans (Nat.div_le_self _ _) (by omega)
  have h4:IntKind.u32.wrap ((IntKind.u32.wrap ((((4294967295 - z) / 2 ^ (i+1):Nat):Int)*2))+(IntKind.u32.wrap (1 - bI z i)))=(((4294967295 - z) / 2 ^ i:Nat):Int):=by
   rw[IntKind.wrap_u32,IntKind.wrap_u32,IntKind.wrap_u32,← h1,← h2]
   generalize (4294967295 - z) / 2 ^ i=q at h3
   omega
  rw[h4]
  exact zL s hs l z hz hB i m (by omega) (by omega)
theorem Ay (s:List UInt8) (hs:s.length≤1000000):kd s=some ((kB 0 s:Nat):Int):=by
 unfold kd
 obtain⟨l1,r1,B1⟩:=zI s hs (8*s.length+1) 0 (List.replicate (8*s.length+32) 0) (List.length_replicate ..) (by omega) (by omega) (fun j hj=>absurd hj (by omega)) (fun j _ hj=>by rw[List.getElem?_replicate,if_pos hj])
 obtain⟨l2,r2,B2⟩:=zJ (leN s) (8*s.length+32) (by omega) 33 0 l1 (by omega) (by omega) (by rw[Nat.pow_zero,Nat.sub_self,Nat.xor_zero]; exact B1)
 obtain⟨l3,r3,B3⟩:=vY s hs (8*s.length+1) 0 l2 _ (by omega) (by omega) B2
 have hz:il (8*s.length - 0) (leN s ^^^ 4294967295)=om 4294967295 s:=by rw[Nat.sub_zero,wQ,Nat.xor_comm]
 rw[hz] at B3
 have hlt:om 4294967295 s<4294967296:=pH s (by decide)
 have r4:=zL s hs l3 _ hlt B3 32 33 (by omega) (by omega)
 rw[show (4294967295 - om 4294967295 s) / 2 ^ 32=0 from Nat.div_eq_of_lt (by omega)] at r4
 rw[if_pos (by omega),if_pos (by omega),if_pos (by omega),show (8*(s.length:Int)).toNat=8*s.length by omega,show (8*(s.length:Int)+32).toNat=8*s.length+32 by omega,r1,C9]
 dsimp only
 rw[show (32:Int).toNat+1=33 from rfl,r2,C9]
 dsimp only
 rw[r3,C9]
 dsimp only
 rw[show ((31:Int) - -1).toNat+1=33 from rfl]
 have r5:dz s l3 33 0 31=some (((4294967295 - om 4294967295 s:Nat):Int),-1):=r4
 rw[r5,C9]
 dsimp only
 rw[← uy hlt]
 unfold kB
 rw[Nat.xor_zero]
def wW (p:Pfx):List UInt8:=be p.CP 8++(be p.C1 4++(be p.CI 4++(be 2 1++be (s32 p.C3) 4)))
def ez (p:Pfx):List UInt8:=be p.C4 2++ma [4,8,8,8,2,4,4] [p.CN,p.CH,p.CW,p.CE,p.CK,p.CD,p.C2]
theorem Az (p:Pfx):jh p=wW p++ez p:=by
 unfold jh KS toL wW ez
 simp only[ma,Df]
theorem yj (p:Pfx):(wW p).length=21:=by
 unfold wW
 simp only[Db,az]
theorem iS (p:Pfx):(jh p).drop 21=ez p:=by
 rw[Az,← yj p,List.drop_left]
def okRc (x:Rec):Prop:=qD x∧aI ((bN x).length:Int)<2 ^ (32:Int).toNat
def wX:Pr Unit:=fun s q=>if q=s.length then .error 10 else .ok ((),q)
def nB:Nat→Pr (List Rec)
 | 0=> .ret []
 | n+1=>wX.bind fun _=>ya.bind fun x=>(nB n).bind fun l=> .ret (x::l)
theorem mI (x:Rec):0<(bx x).length:=by
 unfold bx
 rw[Db]
 have:=ld (aI ((bN x).length:Int))
 omega
theorem mJ: ∀ (n:Nat) (s:List UInt8) (q:Nat) (l:List Rec) (r:Nat),q≤s.length→nB n s q= .ok (l,r)→q≤r∧r≤s.length∧s.take r=s.take q++aQ bx l∧l.length=n∧ ∀ x,x∈l→okRc x
 | 0,s,q,l,r,hq,h=>by
  injection h with h
  obtain⟨rfl,rfl⟩:=DK h
  exact⟨DJ _,hq,by simp[aQ],rfl,fun x h=>nomatch h⟩
 | n+1,s,q,l,r,hq,h=>by
  obtain⟨u,m,h1,h2⟩:=Pr.bind_ok h
  unfold wX at h1
  split at h1
  ·exact nomatch h1
  injection h1 with h1
  obtain⟨_,rfl⟩:=DK h1
  obtain⟨x,m2,h3,h4⟩:=Pr.bind_ok h2
  obtain⟨xs,m3,h5,h6⟩:=Pr.bind_ok h4
  injection h6 with h6
  obtain⟨rfl,rfl⟩:=DK h6
  obtain⟨a1,a2,a3,a4,a5⟩:=vT.spell s q x m2 hq h3
  obtain⟨b1,b2,b3,b4,b5⟩:=mJ n s m2 xs m3 a2 h5
  refine⟨by omega,b2,by rw[b3,a4,aQ,Df],by rw[Dh,b4],fun y hy=> ?_⟩
  rcases List.mem_cons.1 hy with rfl | hy
  ·exact a5
  ·exact b5 y hy
theorem so: ∀ (l:List Rec) (s t:List UInt8) (q:Nat),q≤s.length→(∀ x,x∈l→okRc x)→s.drop q=aQ bx l++t→nB l.length s q= .ok (l,q+(aQ bx l).length)
 | [],s,t,q,hq,_,_=>rfl
 | x::l,s,t,q,hq,ho,hd=>by
  rw[aQ,Df] at hd
  have hl:=congrArg List.length hd
  rw[Dn,Db] at hl
  have hp:=mI x
  have h0:wX s q= .ok ((),q):=if_neg (by omega)
  have h1:=vT.back s _ q x hq (ho x (.head _)) hd
  have h2:=so l s t _ (by omega) (fun y hy=>ho y (.tail _ hy)) (bZ hd)
  rw[Dh,nB,Pr.bind_of h0,Pr.bind_of h1,Pr.bind_of h2,aQ,Db,← Nat.add_assoc]
  rfl
def chk (a:Bat):Int:=(co a).getD 0
def body (a:Bat):List UInt8:=aQ bx a.Cy
def mkB (p:Pfx) (l:List Rec):Bat:=⟨p.CP,p.CI,dp p.C4 3,dp p.C4 4,dp p.C4 5,p.CN,p.CH,p.CW,p.CE,p.CK,p.CD,l⟩
def pB (a:Bat) (s:Int):Pfx:=⟨a.CP,49+((body a).length:Int),a.CI,s,eJ a.CV a.C0 a.CL,a.CN,a.CH,a.CW,a.CE,a.CK,a.CD,(a.Cy.length:Int)⟩
def sumP (p:Pfx) (s:List UInt8):Nat:=kB 0 (ez p++s)
def im (a:Bat):Nat:=sumP (pB a 0) (body a)
def da (a:Bat):List UInt8:=jh (pB a (im a))++body a
def okB (a:Bat):Prop:=okP (pB a (im a))∧dv (eJ a.CV a.C0 a.CL)=0∧(∀ x,x∈a.Cy→okRc x)∧chk a=0
def nC (p:Pfx) (s:List UInt8):Except Int Bat :=
 if dv p.C4=0 then
  match nB p.C2.toNat s 0 with
  | .error e=> .error e
  | .ok (l,r)=>if r<s.length then .error 10 else if chk (mkB p l)=0 then .ok (mkB p l) else .error (chk (mkB p l))
 else .error (dv p.C4)
def yk:Pr Bat:=fun s q =>
 match xX s q with
 | .error e=> .error e
 | .ok (p,r)=>if s.length<r+(p.C1 - 49).toNat then .error 1 else
  if ((sumP p ((s.drop r).take (p.C1 - 49).toNat):Nat):Int)=p.C3 then
   match nC p ((s.drop r).take (p.C1 - 49).toNat) with
   | .error e=> .error e
   | .ok b=> .ok (b,r+(p.C1 - 49).toNat)
  else .error 5
theorem sp {n:Int} (h:dv n=0):eJ (dp n 3) (dp n 4) (dp n 5)=n:=by
 have h1:n % 8=0∧0≤n∧n≤63:=by
  unfold dv at h
  split at h
  ·cases h
  ·split at h
   ·cases h
   ·omega
 have h2:n=0∨n=8∨n=16∨n=24∨n=32∨n=40∨n=48∨n=56:=by omega
 rcases h2 with rfl | rfl | rfl | rfl | rfl | rfl | rfl | rfl <;> decide
theorem wY: ∀ a b c:Bool,dp (eJ a b c) 3=a∧dp (eJ a b c) 4=b∧dp (eJ a b c) 5=c:=by decide
theorem zM {p:Pfx} {s:List UInt8} {b:Bat} (h:nC p s= .ok b) (h0:0≤p.C2):dv p.C4=0∧ ∃ l,b=mkB p l∧s=aQ bx l∧(l.length:Int)=p.C2∧(∀ x,x∈l→okRc x)∧chk b=0:=by
 unfold nC at h
 by_cases ha:dv p.C4=0
 ·rw[if_pos ha] at h
  refine⟨ha,?_⟩
  cases hr:nB p.C2.toNat s 0 with
  | error e=>rw[hr] at h; exact nomatch h
  | ok x =>
   obtain⟨l,r⟩:=x
   rw[hr] at h
   dsimp only at h
   by_cases hl:r<s.length
   ·rw[if_pos hl] at h; exact nomatch h
   rw[if_neg hl] at h
   by_cases hc:chk (mkB p l)=0
   ·rw[if_pos hc] at h
    injection h with h
    subst h
    obtain⟨b1,b2,b3,b4,b5⟩:=mJ _ s 0 l r (DV _) hr
    rw[List.take_of_length_le (by omega),List.take_zero,Ds] at b3
    exact⟨l,rfl,b3,by omega,b5,hc⟩
   ·rw[if_neg hc] at h; exact nomatch h
 ·rw[if_neg ha] at h; exact nomatch h
theorem pB_mk {p:Pfx} {l:List Rec} (h1:(49:Int)+((aQ bx l).length:Int)=p.C1) (h2:dv p.C4=0) (h3:(l.length:Int)=p.C2) (s:Int):pB (mkB p l) s=⟨p.CP,p.C1,p.CI,s,p.C4,p.CN,p.CH,p.CW,p.CE,p.CK,p.CD,p.C2⟩:=by
 unfold pB mkB body
 dsimp only
 rw[h1,h3,sp h2]
theorem vZ:Sp yk da okB:=by
 refine⟨fun s q b r hq h=> ?_,fun s t q a hq ha hd=> ?_⟩
 ·unfold yk at h
  cases hp:xX s q with
  | error e=>rw[hp] at h; exact nomatch h
  | ok x =>
   obtain⟨p,m⟩:=x
   rw[hp] at h
   dsimp only at h
   obtain⟨a1,a2,a3,a4,a5,a6,a7,a8⟩:=vO.spell s q p m hq hp
   by_cases hl:s.length<m+(p.C1 - 49).toNat
   ·rw[if_pos hl] at h; exact nomatch h
   rw[if_neg hl] at h
   by_cases hs:((sumP p ((s.drop m).take (p.C1 - 49).toNat):Nat):Int)=p.C3
   ·rw[if_pos hs] at h
    cases ho:nC p ((s.drop m).take (p.C1 - 49).toNat) with
    | error e=>rw[ho] at h; exact nomatch h
    | ok b' =>
     rw[ho] at h
     injection h with h
     obtain⟨rfl,rfl⟩:=DK h
     obtain⟨k1,l,rfl,k3,k4,k5,k6⟩:=zM ho a8
     have hn:((s.drop m).take (p.C1 - 49).toNat).length=(p.C1 - 49).toNat:=by rw[D3,Dn]; omega
     have e1:(49:Int)+((aQ bx l).length:Int)=p.C1:=by rw[← k3,hn]; omega
     have e2:((im (mkB p l):Nat):Int)=p.C3:=by
      rw[← hs,k3]
      unfold im
      rw[pB_mk e1 k1 k4]
      rfl
     have e3:pB (mkB p l) (im (mkB p l))=p:=by rw[pB_mk e1 k1 k4,e2]
     have e4:da (mkB p l)=jh p++(s.drop m).take (p.C1 - 49).toNat:=by
      unfold da
      rw[e3,k3]
      rfl
     have a9:=congrArg List.length a4
     refine⟨by omega,by omega,?_,?_,?_⟩
     ·rw[e4,Db,hn]; omega
     ·rw[e4,lQ,a4,Df]
     ·refine⟨by rw[e3]; exact⟨a5,a6,a7,a8⟩,?_,k5,k6⟩
      show dv (eJ (dp p.C4 3) (dp p.C4 4) (dp p.C4 5))=0
      rw[sp k1]
      exact k1
   ·rw[if_neg hs] at h; exact nomatch h
 ·obtain⟨h1,h2,h3,h4⟩:=ha
  unfold da at hd
  rw[Df] at hd
  have hp:=vO.back s _ q _ hq h1 hd
  have hd2:=bZ hd
  have hl:=congrArg List.length hd
  rw[Dn,Db,Db] at hl
  have hn:((pB a (im a)).C1 - 49).toNat=(body a).length:=by
   show ((49:Int)+((body a).length:Int) - 49).toNat= _
   omega
  have ht:(s.drop (q+(jh (pB a (im a))).length)).take (body a).length=body a:=by rw[hd2,List.take_left]
  unfold yk
  rw[hp]
  dsimp only
  rw[hn,ht,if_neg (by omega),if_pos (show ((sumP (pB a (im a)) (body a):Nat):Int)=(pB a (im a)).C3 from rfl)]
  have hr:=so a.Cy (body a) [] 0 (DV _) h3 (by rw[List.drop_zero,DS]; rfl)
  have ho:nC (pB a (im a)) (body a)= .ok a:=by
   unfold nC
   rw[if_pos (show dv (pB a (im a)).C4=0 from h2),show (pB a (im a)).C2.toNat=a.Cy.length from rfl,hr]
   dsimp only
   obtain⟨b1,b2,b3⟩:=wY a.CV a.C0 a.CL
   have e:mkB (pB a (im a)) a.Cy=a:=by
    unfold mkB pB
    dsimp only
    rw[b1,b2,b3]
   rw[e,if_neg (by show ¬ 0+(body a).length < _; omega),if_pos h4]
  rw[ho]
  dsimp only
  unfold da
  rw[Db,Nat.add_assoc]
def zBat:Bat:=⟨0,0,false,false,false,0,0,0,0,0,0,[]⟩
def bnR (r:Rec):Prop:=r.CF.length≤1000000∧r.CJ.data.length≤1000000∧r.Cz.data.length≤1000000
def bnB (a:Bat):Prop:=jG a∧a.Cy.length≤1000000∧ ∀ r,r∈a.Cy→bnR r
theorem qJ {α:Type} (enc:α→List UInt8): ∀ (l:List α) (x:α),x∈l→(enc x).length≤(aQ enc l).length
 | y::l,x,h=>by
  rw[aQ,Db]
  rcases List.mem_cons.1 h with rfl | h
  ·omega
  ·have:=qJ enc l x h
   omega
theorem qK {α:Type} (enc:α→List UInt8): ∀ (l:List α),(∀ x,x∈l→0<(enc x).length)→l.length≤(aQ enc l).length
 | [],_=>DV _
 | y::l,h=>by
  rw[aQ,Db,Dh]
  have h1:=h y (.head _)
  have:=qK enc l (fun x hx=>h x (.tail _ hx))
  omega
theorem yl (h:Hd):0<(dq h).length:=by
 unfold dq
 simp only[Db]
 have:=ld (aI (h.CJ.length:Int))
 omega
theorem v5 {x:Rec} (h:qD x) (hl:(bx x).length≤1000000):pS x∧bnR x:=by
 obtain⟨_,h2,h3⟩:=ur h
 have e:(bx x).length=(bb (aI ((bN x).length:Int))).length+(bN x).length:=by unfold bx; rw[Db]
 have e2:(bN x).length≤1000000:=by omega
 simp only[bN,gy,kM,Db,az] at e2
 have h4:=qK dq x.CF (fun y _=>yl y)
 have hS: ∀ d:List UInt8,d.length≤1000000→wS d:=fun d hd=>by unfold wS; omega
 refine⟨⟨h2,h3,⟨trivial,hS _ (by omega)⟩,⟨trivial,hS _ (by omega)⟩,by omega,fun y hy=> ?_⟩,by omega,by omega,by omega⟩
 have h5:=qJ dq x.CF y hy
 have h6:(dq y).length≤1000000:=by omega
 simp only[dq,Db] at h6
 exact⟨hS _ (by omega),trivial,hS _ (by omega)⟩
theorem tq {a:Bat} (h:bnB a):co a=some (chk a)∧fu a=some (chk a):=by
 obtain⟨cr,e0,h1,h2,_⟩:=qr a h.1 h.2.1 h.2.2
 have e:chk a=td a cr e0:=by unfold chk; rw[h1]; rfl
 rw[e]
 exact⟨h1,h2⟩
theorem uz (n:Int):bj n 8=decide (-9223372036854775808≤n∧n≤9223372036854775807):=by
 rw[Bool.eq_iff_iff]
 unfold bj
 simp only[Bool.and_eq_true,decide_eq_true_eq]
 have:(2:Int) ^ (8*(8:Int).toNat - 1)=9223372036854775808:=by decide
 omega
theorem wI8 {n:Int} (h:bj n (8:Nat)=true):wI n:=by
 have h':bj n 8=true:=h
 rw[uz] at h'
 have h2:=of_decide_eq_true h'
 exact h2
theorem wI4 {n:Int} (h:bj n (4:Nat)=true): -2147483648≤n∧n≤2147483647:=by
 have h':bj n 4=true:=h
 rw[gl] at h'
 exact of_decide_eq_true h'
theorem wI2 {n:Int} (h:bj n (2:Nat)=true): -32768≤n∧n≤32767:=by
 have h':bj n 2=true:=h
 rw[qq] at h'
 exact of_decide_eq_true h'
theorem qL {p:Pfx} (hp:okP p) {l:List Rec} (hl: ∀ x,x∈l→okRc x) (hb:(aQ bx l).length≤1000000):bnB (mkB p l):=by
 obtain⟨⟨k1,k2,k3,_,k5,k6,k7,k8,k9,k10,k11,k12,k13,_⟩,_,_,_⟩:=hp
 have w4: ∀ {n:Int},bj n (4:Nat)=true→wI n:=fun h=>by have:=wI4 h; unfold wI; omega
 have w2: ∀ {n:Int},bj n (2:Nat)=true→wI n:=fun h=>by have:=wI2 h; unfold wI; omega
 have hr: ∀ x,x∈l→pS x∧bnR x:=fun x hx=>v5 (hl x hx).1 (by have:=qJ bx l x hx; omega)
 have h4:=qK bx l (fun y _=>mI y)
 exact⟨⟨wI8 k1,w4 k3,trivial,trivial,trivial,w4 k7,wI8 k8,wI8 k9,wI8 k10,w2 k11,w4 k12,by show l.length≤ _; omega,fun x hx=>(hr x hx).1⟩,by show l.length≤ _; omega,fun x hx=>(hr x hx).2⟩
theorem uA (p:Pfx) (hc:p.C2≤2147483647) (s:List UInt8) (hs:s.length≤1000000) (y:Int): ∀ (n k fuel:Nat) (acc:List Rec) (q:Nat),((k+n:Nat):Int)=p.C2→n<fuel→q≤s.length→acc.length≤q →
 (∃ e,nB n s q= .error e∧e≠0∧cA p fuel y k acc ⟨s.drop q,q,0⟩=some (.ret (zBat,e)))∨(∃ l r,nB n s q= .ok (l,r)∧q≤r∧r≤s.length∧cA p fuel y k acc ⟨s.drop q,q,0⟩=some (.go (y,k+n,acc++l,⟨s.drop r,r,0⟩)))
 | 0,k,fuel+1,acc,q,hk,hf,hq,ha=> .inr ⟨[],q,rfl,DJ _,hq,by rw[cA,if_neg (by omega),DS,Nat.add_zero]⟩
 | n+1,k,fuel+1,acc,q,hk,hf,hq,ha=>by
  rw[cA,if_pos (by omega),mZ,C9]
  dsimp only
  rw[Dn,nB]
  by_cases hz:q=s.length
  ·rw[if_pos (by omega)]
   exact .inl ⟨10,Pr.bind_err (if_pos hz),by decide,rfl⟩
  rw[if_neg (by omega),Pr.bind_of (show wX s q= .ok ((),q) from if_neg hz)]
  rcases B_rec.run s q hs hq with⟨e,st,p1,g1,x1,y1⟩ | ⟨b,r,p1,g1,n1,l1⟩
  ·rw[g1,C9]
   dsimp only
   rw[bE,C9]
   dsimp only
   rw[if_neg y1]
   exact .inl ⟨e,Pr.bind_err p1,by rw[← x1]; exact y1,by rw[x1]; rfl⟩
  ·have h3:=(vT.spell s q b r hq p1).2.2.1
   have h4:=mI b
   rw[g1,C9]
   dsimp only
   rw[bE,C9]
   dsimp only
   rw[if_pos rfl,if_pos (by omega),if_pos (by omega),Pr.bind_of p1]
   rcases uA p hc s hs y n (k+1) fuel (acc ++ [b]) r (by omega) (by omega) l1 (by rw[Db,Ee]; omega) with⟨e,q1,q2,q3⟩ | ⟨l,m,q1,q2,q3,q4⟩
   ·exact .inl ⟨e,Pr.bind_err q1,q2,q3⟩
   ·exact .inr ⟨b::l,m,by rw[Pr.bind_of q1]; rfl,by omega,q3,by rw[q4,Df,show k+1+n=k+(n+1) by omega]; rfl⟩
theorem bopen {p:Pfx} (hp:okP p) (s:List UInt8) (hs:s.length≤1000000):(∃ e x,nC p s= .error e∧e≠0∧fB p s=some (x,e))∨(∃ b,nC p s= .ok b∧fB p s=some (b,0)):=by
 obtain⟨k1,k2,k3,k4⟩:=id hp
 have ha:=wI2 k1.2.2.2.2.2.1
 have hc:=wI4 k1.2.2.2.2.2.2.2.2.2.2.2.2.1
 try dsimp only at ha
 unfold fB nC
 rw[vH _ (by omega),C9]
 by_cases h0:dv p.C4=0
 rotate_left
 ·rw[if_neg h0,if_neg h0]
  exact .inl ⟨_,_,rfl,h0,rfl⟩
 rw[if_pos h0,if_pos h0,xR,C9]
 dsimp only
 rw[iI _ (by omega),C9]
 rcases uA p hc.2 s hs 0 p.C2.toNat 0 (p.C2.toNat+1) [] 0 (by omega) (by omega) (DV _) (DV _) with⟨e,q1,q2,q3⟩ | ⟨l,m,q1,q2,q3,q4⟩
 ·rw[List.drop_zero] at q3
  rw[q3,q1]
  exact .inl ⟨e,_,rfl,q2,rfl⟩
 ·rw[List.drop_zero] at q4
  obtain⟨b1,b2,b3,b4,b5⟩:=mJ _ s 0 l m (DV _) q1
  rw[q4,q1,C9]
  dsimp only
  rw[mZ,C9]
  dsimp only
  rw[Dn]
  by_cases hl:m<s.length
  ·rw[if_pos hl,if_pos (show ((s.length - m:Nat):Int)>0 by omega)]
   exact .inl ⟨_,_,rfl,by decide,rfl⟩
  ·rw[if_neg hl,if_neg (show ¬ ((s.length - m:Nat):Int)>0 by omega)]
   rw[List.take_of_length_le (by omega),List.take_zero,Ds] at b3
   have hB:=qL hp b5 (by rw[← b3]; exact hs)
   have e:co (⟨p.CP,p.CI,dp p.C4 3,dp p.C4 4,dp p.C4 5,p.CN,p.CH,p.CW,p.CE,p.CK,p.CD,[]++l⟩:Bat)=some (chk (mkB p l)):=(tq hB).1
   rw[e,C9]
   by_cases hk:chk (mkB p l)=0
   ·rw[if_pos hk,hk]
    exact .inr ⟨_,rfl,rfl⟩
   ·rw[if_neg hk]
    exact .inl ⟨_,_,rfl,hk,rfl⟩
theorem B_bat:CB fC yk zBat:=by
 refine⟨fun st h=> ?_,fun s q hs hq=> ?_⟩
 ·unfold fC
  rw[B_pfx.dead st h,C9]
  dsimp only
  rw[if_pos (by decide),pX _ _ (by decide),C9]
  dsimp only
  have e:bK st ((0:Int) - 49)=([],st):=if_pos h
  rw[show zP.C1=(0:Int) from rfl,e,bE,C9]
  dsimp only
  rw[if_neg h]
  rfl
 ·unfold fC yk
  rcases B_pfx.run s q hs hq with⟨e,st,p1,g1,x1,y1⟩ | ⟨p,r,p1,g1,n1,l1⟩
  ·refine .inl ⟨e,st,by rw[p1],?_,x1,y1⟩
   rw[g1,C9]
   dsimp only
   rw[if_pos (by decide),pX _ _ (by decide),C9]
   dsimp only
   have e:bK st ((0:Int) - 49)=([],st):=if_pos y1
   rw[show zP.C1=(0:Int) from rfl,e,bE,C9]
   dsimp only
   rw[if_neg y1]
   rfl
  ·obtain⟨a1,a2,a3,a4,ap⟩:=vO.spell s q p r hq p1
   obtain⟨k1,k2,k3,k4⟩:=id ap
   have hL:=wI4 k1.2.1
   try dsimp only at hL
   have hT: -9223372036854775808≤p.C1 - 49∧p.C1 - 49≤9223372036854775807:=by omega
   rw[g1,C9,p1]
   dsimp only
   rw[if_pos hT,pX _ _ hT,C9]
   dsimp only
   by_cases hl:s.length<r+(p.C1 - 49).toNat
   ·have e:bK ⟨s.drop r,r,0⟩ (p.C1 - 49)=([],⟨s.drop r,r,1⟩):=by
     unfold bK
     rw[if_neg (by simp),if_neg (by omega),if_pos (by rw[Dn]; omega)]
    rw[if_pos hl,e,bE,C9]
    exact .inl ⟨1,⟨s.drop r,r,1⟩,rfl,rfl,rfl,by show (1:Int)≠0; decide⟩
   have e:bK ⟨s.drop r,r,0⟩ (p.C1 - 49)=((s.drop r).take (p.C1 - 49).toNat,⟨s.drop (r+(p.C1 - 49).toNat),r+(p.C1 - 49).toNat,0⟩):=by
    unfold bK
    rw[if_neg (by simp),if_neg (by omega),if_neg (by rw[Dn]; omega),DW]
   rw[if_neg hl,e,bE,C9]
   dsimp only
   have hn:((s.drop r).take (p.C1 - 49).toNat).length=(p.C1 - 49).toNat:=by rw[D3,Dn]; omega
   generalize (s.drop r).take (p.C1 - 49).toNat=b at hn
   have hlen:(jh p).length=61:=kf k1
   rw[if_pos rfl,qy [] ⟨k1,k2⟩ (by decide),C9,Ds,gI,C9]
   dsimp only
   rw[sd,wR,C9]
   dsimp only
   rw[if_pos (show 21≤(jh p).length by omega)]
   have hp21:(ez p).length≤61:=by rw[← iS p,Dn]; omega
   have hs2 : [ez p,b].flatten=ez p++b:=by simp
   rw[iS,wU [ez p,b] (by intro t ht; rcases List.mem_cons.1 ht with rfl | ht; omega; rw[List.mem_singleton.1 ht]; omega),C9,hs2]
   dsimp only
   have hlt:kB 0 (ez p++b)<4294967296:=tl (by decide) _
   rw[if_pos (show -9223372036854775808≤((kB 0 (ez p++b):Nat):Int)∧((kB 0 (ez p++b):Nat):Int)≤9223372036854775807 by omega)]
   by_cases hsum:((sumP p b:Nat):Int)=p.C3
   rotate_left
   ·rw[if_neg hsum,if_neg (show ¬ ((kB 0 (ez p++b):Nat):Int)=p.C3 from hsum),dR,C9]
    exact .inl ⟨5,_,rfl,rfl,rfl,by show (5:Int)≠0; decide⟩
   rw[if_pos hsum,if_pos (show ((kB 0 (ez p++b):Nat):Int)=p.C3 from hsum)]
   rcases bopen ap b (by omega) with⟨e,x,o1,o2,o3⟩ | ⟨x,o1,o3⟩
   ·rw[o1,o3,C9]
    dsimp only
    rw[if_neg o2,dR,C9]
    exact .inl ⟨e,_,rfl,rfl,rfl,o2⟩
   ·rw[o1,o3,C9]
    dsimp only
    rw[if_pos rfl]
    exact .inr ⟨x,_,rfl,rfl,by omega,by omega⟩
theorem lD: ∀ {l:List Rec},dQ l=0→ ∀ r,r∈l→dP r=0
 | x::l,h,r,hr=>by
  rw[dQ] at h
  by_cases hx:dP x=0
  ·rw[if_pos hx] at h
   rcases List.mem_cons.1 hr with rfl | hr
   ·exact hx
   ·exact lD h r hr
  ·rw[if_neg hx] at h
   exact absurd h hx
theorem lU {a:Bat} (h:bnB a) (h0:chk a=0):ij a∧fK a∧(a.CL=true→a.C0=true∧(a.Cy.length:Int)=1)∧ ∀ r,r∈a.Cy→dP r=0:=by
 obtain⟨cr,e0,h1,h2,h3,h4⟩:=qr a h.1 h.2.1 h.2.2
 have e:chk a=td a cr e0:=by unfold chk; rw[h1]; rfl
 rw[e] at h0
 unfold td at h0
 by_cases hn:ij a
 rotate_left
 ·rw[if_neg hn] at h0; exact absurd h0 (by decide)
 rw[if_pos hn] at h0
 by_cases hc:a.CL=true
 ·rw[if_pos hc] at h0
  by_cases ht:a.C0=true
  rotate_left
  ·rw[if_neg ht] at h0; exact absurd h0 (by decide)
  rw[if_pos ht] at h0
  by_cases hp:fK a
  rotate_left
  ·rw[if_neg hp] at h0; exact absurd h0 (by decide)
  rw[if_pos hp] at h0
  by_cases hl:(a.Cy.length:Int)=1
  rotate_left
  ·rw[if_neg hl] at h0; exact absurd h0 (by decide)
  rw[if_pos hl] at h0
  by_cases hf:dQ a.Cy=0
  rotate_left
  ·rw[if_neg hf] at h0; exact absurd h0 hf
  exact⟨hn,hp,fun _=>⟨ht,hl⟩,lD hf⟩
 ·rw[if_neg hc] at h0
  by_cases hp:fK a
  rotate_left
  ·rw[if_neg hp] at h0; exact absurd h0 (by decide)
  rw[if_pos hp] at h0
  by_cases hf:dQ a.Cy=0
  rotate_left
  ·rw[if_neg hf] at h0; exact absurd h0 hf
  exact⟨hn,hp,fun h=>absurd h hc,lD hf⟩
theorem AA: ∀ a t c:Bool,(c=true→t=true)→dv (eJ a t c)=0:=by decide
theorem sr: ∀ a t c:Bool,0≤eJ a t c∧eJ a t c≤56:=by decide
theorem wZ {n:Int} (h:wI n):bj n (8:Nat)=true:=by
 show bj n 8=true
 rw[uz]
 exact C6 h
theorem ss {n:Int} (h: -2147483648≤n∧n≤2147483647):bj n (4:Nat)=true:=by
 show bj n 4=true
 rw[gl]
 exact C6 h
theorem fits2 {n:Int} (h: -32768≤n∧n≤32767):bj n (2:Nat)=true:=by
 show bj n 2=true
 rw[qq]
 exact C6 h
def smB (a:Bat):Prop:=bnB a∧(∀ r,r∈a.Cy→rwt r≤900000)∧(body a).length≤900000
theorem zN {a:Bat} (h:fK a):(-32768≤a.CK∧a.CK≤32767)∧(-2147483648≤a.CD∧a.CD≤2147483647):=by
 unfold fK at h
 split at h
 ·omega
 ·split at h <;> omega
theorem qM {a:Bat} (hb:smB a) (h0:chk a=0) (s:Nat) (hs:s<4294967296):okP (pB a s):=by
 obtain⟨hn,hp,hc,hr⟩:=lU hb.1 h0
 obtain⟨n1,n2,n3,n4,n5,n6⟩:=hn
 obtain⟨w1,w2,_,_,_,w6,w7,w8,w9,w10,w11,w12⟩:=hb.1.1
 obtain⟨p1,p2⟩:=zN hp
 have hl:=hb.2.2
 have hcount:=hb.1.2.1
 have ha:=sr a.CV a.C0 a.CL
 have hs2: -2147483648≤s32 (s:Int)∧s32 (s:Int)≤2147483647:=by unfold s32; split <;> omega
 refine⟨⟨wZ w1,ss ⟨?_,?_⟩,ss ⟨?_,?_⟩,rfl,ss hs2,fits2 ⟨?_,?_⟩,ss ⟨?_,?_⟩,wZ w7,wZ w8,wZ w9,fits2 p1,ss p2,ss ⟨?_,?_⟩,trivial⟩,⟨?_,?_⟩,?_,?_⟩
 all_goals (try unfold pB) <;> (try dsimp only) <;> omega
theorem tr (a:Bat):im a<4294967296:=tl (by decide) _
theorem zO {a:Bat} (hb:smB a) (h0:chk a=0):okB a:=by
 obtain⟨hn,hp,hc,hr⟩:=lU hb.1 h0
 refine⟨qM hb h0 _ (tr a),AA _ _ _ (fun h=>(hc h).1),fun x hx=> ?_,h0⟩
 exact zu (hb.1.1.2.2.2.2.2.2.2.2.2.2.2.2 x hx).1 (hr x hx) (hb.2.1 x hx)
theorem lV {a:Bat} (h:okB a):(da a).length=61+(body a).length:=by
 unfold da
 rw[Db,kf h.1.1]
theorem xa: ∀ (l:List Rec) (t:List UInt8),(∀ x,x∈l→wI x.CY∧wI x.CU∧rwt x≤900000∧dP x=0)→t.length+(aQ bx l).length≤1000000→cL l (t,0)=some (t++aQ bx l,0)
 | [],t,_,_=>by rw[aQ,DS]; rfl
 | x::l,t,h,hl=>by
  obtain⟨h1,h2,h3,h4⟩:=h x (.head _)
  rw[aQ,Db] at hl
  rw[cL,yc x t h1 h2 h3 (by omega),if_pos h4,C9,xa l _ (fun y hy=>h y (.tail _ hy)) (by rw[Db]; omega),aQ,Df]
theorem benc {a:Bat} (hb:smB a):fo a=some (if chk a=0 then (da a,0) else ([],chk a)):=by
 unfold fo
 rw[(tq hb.1).1,C9]
 by_cases h0:chk a=0
 rotate_left
 ·rw[if_neg h0,if_neg h0]
 obtain⟨hn,hp,hc,hr⟩:=lU hb.1 h0
 have hl:=hb.2.2
 have hw: ∀ x,x∈a.Cy→wI x.CY∧wI x.CU∧rwt x≤900000∧dP x=0:=fun x hx=>⟨(hb.1.1.2.2.2.2.2.2.2.2.2.2.2.2 x hx).1,(hb.1.1.2.2.2.2.2.2.2.2.2.2.2.2 x hx).2.1,hb.2.1 x hx,hr x hx⟩
 have hlb:(aQ bx a.Cy).length≤900000:=hl
 rw[if_pos h0,if_pos h0,xa a.Cy [] hw (by rw[Eo]; omega),C9,Ds,gI,C9]
 dsimp only
 rw[sd]
 dsimp only
 rw[if_pos (show -9223372036854775808≤(49+((aQ bx a.Cy).length:Int))∧(49+((aQ bx a.Cy).length:Int))≤9223372036854775807 by omega),Ao,C9]
 have hP0:okP (pB a 0):=qM hb h0 0 (by decide)
 have e0:bV ([],0) (pB a 0)=some (jh (pB a 0),0):=by
  have:=qy [] (p:=pB a 0) ⟨hP0.1,hP0.2.1⟩ (by decide)
  rwa [Ds] at this
 have e0':bV ([],0) (⟨a.CP,(49+((aQ bx a.Cy).length:Int)),a.CI,0,eJ a.CV a.C0 a.CL,a.CN,a.CH,a.CW,a.CE,a.CK,a.CD,(a.Cy.length:Int)⟩:Pfx)=some (jh (pB a 0),0):=e0
 rw[e0',C9,gI,C9]
 dsimp only
 rw[sd]
 dsimp only
 rw[if_pos rfl,if_pos rfl,C9,if_neg (by decide),wR,C9]
 have hp61:=kf hP0.1
 have hp21:(ez (pB a 0)).length≤61:=by rw[← iS,Dn]; omega
 have hs2 : [ez (pB a 0),aQ bx a.Cy].flatten=ez (pB a 0)++aQ bx a.Cy:=by simp
 rw[if_pos (show 21≤(jh (pB a 0)).length by omega),iS,wU [ez (pB a 0),aQ bx a.Cy] (by intro t ht; rcases List.mem_cons.1 ht with rfl | ht; omega; rw[List.mem_singleton.1 ht]; omega),C9,hs2]
 dsimp only
 have hlt:=tr a
 have hsum:kB 0 (ez (pB a 0)++aQ bx a.Cy)=im a:=rfl
 rw[hsum,if_pos (show -9223372036854775808≤((im a:Nat):Int)∧((im a:Nat):Int)≤9223372036854775807 by omega)]
 have hP:=qM hb h0 _ hlt
 have e1:bV ([],0) (⟨a.CP,(49+((aQ bx a.Cy).length:Int)),a.CI,((im a:Nat):Int),eJ a.CV a.C0 a.CL,a.CN,a.CH,a.CW,a.CE,a.CK,a.CD,(a.Cy.length:Int)⟩:Pfx)=some (jh (pB a (im a)),0):=by
  have:=qy [] (p:=pB a (im a)) ⟨hP.1,hP.2.1⟩ (by decide)
  rwa [Ds] at this
 have hp61':=kf hP.1
 rw[e1,C9,yD _ _ (by dsimp only; omega),kz,C9,gI,C9]
 dsimp only
 rw[sd]
 rfl
theorem AB (a:Bat):dK a=some (eJ a.CV a.C0 a.CL):=by
 unfold dK
 generalize a.CV=x
 generalize a.C0=y
 generalize a.CL=z
 cases x <;> cases y <;> cases z <;> decide
theorem xb (a:Bat) (hb:a.Cy.length≤1000000): ∀ (l:List Rec) (t:List UInt8) (k fuel:Nat),a.Cy.drop k=l→l.length<fuel→(∀ x,x∈l→wI x.CY∧wI x.CU∧rwt x≤900000)→t.length+(aQ bx l).length≤1000000→ ∃ z,cX a fuel t k=some (t++aQ bx l,z)
 | [],t,k,fuel+1,h,hf,_,_=>by
  have:=bM h
  exact⟨k,by rw[cX,if_neg (by omega),aQ,DS]⟩
 | x::l,t,k,fuel+1,h,hf,hw,hl=>by
  obtain⟨g1,g2,g3⟩:=aW h
  obtain⟨h1,h2,h3⟩:=hw x (.head _)
  rw[aQ,Db] at hl
  rw[Dh] at hf
  obtain⟨z,hz⟩:=xb a hb l (t++bx x) (k+1) fuel g2 (by omega) (fun y hy=>hw y (.tail _ hy)) (by rw[Db]; omega)
  exact⟨z,by rw[cX,if_pos (by omega),g1,C9,yd x h1 h2 h3,C9,if_pos (by omega),if_pos (by omega),hz,aQ,Df]⟩
theorem r11enc {a:Bat} (hb:smB a) (h0:chk a=0):gw a=some (da a):=by
 obtain⟨hn,hp,hc,hr⟩:=lU hb.1 h0
 have hl:=hb.2.2
 have hlb:(aQ bx a.Cy).length≤900000:=hl
 have hw: ∀ x,x∈a.Cy→wI x.CY∧wI x.CU∧rwt x≤900000:=fun x hx=>⟨(hb.1.1.2.2.2.2.2.2.2.2.2.2.2.2 x hx).1,(hb.1.1.2.2.2.2.2.2.2.2.2.2.2.2 x hx).2.1,hb.2.1 x hx⟩
 obtain⟨z,hz⟩:=xb a hb.1.2.1 a.Cy [] 0 (((a.Cy.length:Int)).toNat+1) rfl (by omega) hw (by rw[Eo]; omega)
 rw[Ds] at hz
 have hN: -9223372036854775808≤(49+((aQ bx a.Cy).length:Int))∧(49+((aQ bx a.Cy).length:Int))≤9223372036854775807:=by omega
 have wP_of: ∀ s:Nat,s<4294967296→wP (pB a s):=fun s hs=>by
  obtain⟨w1,w2,_,_,_,w6,w7,w8,w9,w10,w11,w12⟩:=hb.1.1
  have ha:=sr a.CV a.C0 a.CL
  have hcount:=hb.1.2.1
  refine⟨w1,⟨?_,?_⟩,w2,⟨?_,?_⟩,⟨?_,?_⟩,w6,w7,w8,w9,w10,w11,⟨?_,?_⟩⟩
  all_goals (try unfold pB) <;> (try dsimp only) <;> (try unfold body) <;> omega
 have hP0:okP (pB a 0):=qM hb h0 0 (by decide)
 have hlt:=tr a
 have hP:=qM hb h0 _ hlt
 have b0:=se (pB a 0) (wP_of 0 (by decide))
 rw[if_pos ⟨hP0.1,hP0.2.1⟩] at b0
 have b1:=se (pB a (im a)) (wP_of _ hlt)
 rw[if_pos ⟨hP.1,hP.2.1⟩] at b1
 have b0':eD [a.CP,(49+((aQ bx a.Cy).length:Int)),a.CI,0,eJ a.CV a.C0 a.CL,a.CN,a.CH,a.CW,a.CE,a.CK,a.CD,(a.Cy.length:Int)]=some (jh (pB a 0),true):=b0
 have b1':eD [a.CP,(49+((aQ bx a.Cy).length:Int)),a.CI,((im a:Nat):Int),eJ a.CV a.C0 a.CL,a.CN,a.CH,a.CW,a.CE,a.CK,a.CD,(a.Cy.length:Int)]=some (jh (pB a (im a)),true):=b1
 have hp61:=kf hP0.1
 have hp61':=kf hP.1
 have hp21:(ez (pB a 0)).length≤61:=by rw[← iS,Dn]; omega
 have hsum:kB 0 (ez (pB a 0)++aQ bx a.Cy)=im a:=rfl
 unfold gw
 rw[hz,C9]
 dsimp only
 rw[if_pos hN,AB,C9,b0',C9]
 dsimp only
 rw[if_pos (show 21≤(jh (pB a 0)).length by omega),iS,if_pos (by omega),Ay _ (by rw[Db]; omega),C9,hsum,if_pos (show -9223372036854775808≤((im a:Nat):Int)∧((im a:Nat):Int)≤9223372036854775807 by omega),if_pos hN,C9,b1',C9]
 dsimp only
 rw[if_pos (by omega)]
 rfl
def jR:List Rec→List Rec→Bool
 | x::l,y::m=>nA x y && jR l m
 | _,_=>true
def mn (a b:Bat):Bool:=decide (a.CP=b.CP∧a.CI=b.CI∧a.CV=b.CV∧a.C0=b.C0∧a.CL=b.CL∧a.CN=b.CN∧a.CH=b.CH∧a.CW=b.CW∧a.CE=b.CE∧a.CK=b.CK∧a.CD=b.CD∧a.Cy.length=b.Cy.length) && jR a.Cy b.Cy
theorem pb: ∀ l:List Rec,jR l l=true
 | []=>rfl
 | x::l=>by rw[jR,vV,pb l]; rfl
theorem v6 (a:Bat):mn a a=true:=by
 unfold mn
 rw[pb]
 simp
theorem xc (a b:Bat) (hn:a.Cy.length≤1000000) (y:Bool): ∀ (l m:List Rec) (k fuel:Nat),a.Cy.drop k=l→b.Cy.drop k=m→l.length=m.length→l.length<fuel→(∀ x,x∈l→x.CF.length≤1000000)→ ∃ z,dD a b fuel y k=some (if jR l m=true then .go (y,z) else .ret false)
 | [],m,k,fuel+1,h1,h2,hl,hf,_=>by
  have:=bM h1
  exact⟨k,by rw[dD,if_neg (by omega)]; rfl⟩
 | x::l,v::m,k,fuel+1,h1,h2,hl,hf,hw=>by
  obtain⟨g1,g2,g3⟩:=aW h1
  obtain⟨k1,k2,k3⟩:=aW h2
  rw[Dh] at hf
  rw[Dh,Dh] at hl
  obtain⟨z,hz⟩:=xc a b hn y l m (k+1) fuel g2 k2 (by omega) (by omega) (fun u hu=>hw u (.tail _ hu))
  refine⟨z,?_⟩
  rw[dD,if_pos (by omega),g1,C9,k1,C9,zt x v (hw x (.head _)),C9,jR,if_pos (show -9223372036854775808≤(k:Int)+1∧(k:Int)+1≤9223372036854775807 by omega),hz]
  cases nA x v <;> rfl
theorem zR {a b:Bat} (hn:a.Cy.length≤1000000) (hw: ∀ x,x∈a.Cy→x.CF.length≤1000000):jg a b=some (mn a b):=by
 have hL: ∀ o:Option Bool,o=some (mn a b)∨True:=fun _=> .inr trivial
 unfold jg mn
 by_cases c1:a.CP=b.CP
 rotate_left
 ·rw[if_neg c1,C9,if_pos rfl,C7 (fun h=>c1 h.1)]; rfl
 by_cases c2:a.CI=b.CI
 rotate_left
 ·rw[if_pos c1,if_neg c2,C9,if_pos rfl,C7 (fun h=>c2 h.2.1)]; rfl
 by_cases c3:a.CV=b.CV
 rotate_left
 ·rw[if_pos c1,if_pos c2,if_neg (by simpa using c3),C9,if_pos rfl,C7 (fun h=>c3 h.2.2.1)]; rfl
 by_cases c4:a.C0=b.C0
 rotate_left
 ·rw[if_pos c1,if_pos c2,if_pos (by simpa using c3),if_neg (by simpa using c4),C9,if_pos rfl,C7 (fun h=>c4 h.2.2.2.1)]; rfl
 by_cases c5:a.CL=b.CL
 rotate_left
 ·rw[if_pos c1,if_pos c2,if_pos (by simpa using c3),if_pos (by simpa using c4),if_neg (by simpa using c5),C9,if_pos rfl,C7 (fun h=>c5 h.2.2.2.2.1)]; rfl
 rw[if_pos c1,if_pos c2,if_pos (by simpa using c3),if_pos (by simpa using c4),if_pos (by simpa using c5)]
 by_cases c6:a.CN=b.CN
 rotate_left
 ·rw[if_neg c6,C9,if_pos rfl,C7 (fun h=>c6 h.2.2.2.2.2.1)]; rfl
 by_cases c7:a.CH=b.CH
 rotate_left
 ·rw[if_pos c6,if_neg c7,C9,if_pos rfl,C7 (fun h=>c7 h.2.2.2.2.2.2.1)]; rfl
 by_cases c8:a.CW=b.CW
 rotate_left
 ·rw[if_pos c6,if_pos c7,if_neg c8,C9,if_pos rfl,C7 (fun h=>c8 h.2.2.2.2.2.2.2.1)]; rfl
 by_cases c9:a.CE=b.CE
 rotate_left
 ·rw[if_pos c6,if_pos c7,if_pos c8,if_neg c9,C9,if_pos rfl,C7 (fun h=>c9 h.2.2.2.2.2.2.2.2.1)]; rfl
 by_cases c10:a.CK=b.CK
 rotate_left
 ·rw[if_pos c6,if_pos c7,if_pos c8,if_pos c9,if_neg c10,C9,if_pos rfl,C7 (fun h=>c10 h.2.2.2.2.2.2.2.2.2.1)]; rfl
 by_cases c11:a.CD=b.CD
 rotate_left
 ·rw[if_pos c6,if_pos c7,if_pos c8,if_pos c9,if_pos c10,if_neg c11,C9,if_pos rfl,C7 (fun h=>c11 h.2.2.2.2.2.2.2.2.2.2.1)]; rfl
 by_cases c12:a.Cy.length=b.Cy.length
 rotate_left
 ·rw[if_pos c6,if_pos c7,if_pos c8,if_pos c9,if_pos c10,if_pos c11,if_neg (by omega),C9,if_pos rfl,C7 (fun h=>c12 h.2.2.2.2.2.2.2.2.2.2.2)]; rfl
 obtain⟨z,hz⟩:=xc a b hn false a.Cy b.Cy 0 (((a.Cy.length:Int)).toNat+1) rfl rfl c12 (by omega) hw
 rw[if_pos c6,if_pos c7,if_pos c8,if_pos c9,if_pos c10,if_pos c11,if_pos (by omega),C9,if_neg (by decide),hz,C6 ⟨c1,c2,c3,c4,c5,c6,c7,c8,c9,c10,c11,c12⟩,Bool.true_and]
 cases jR a.Cy b.Cy <;> rfl
theorem uB (b:Bat) (y:Bool): ∀ (l m:List Rec) (k:Nat),b.Cy.drop k=m→l.length=m.length→dw b l y k=some (if jR l m=true then .go y else .ret false)
 | [],m,k,h,hl=>rfl
 | x::l,v::m,k,h,hl=>by
  obtain⟨k1,k2,k3⟩:=aW h
  rw[Dh,Dh] at hl
  rw[dw,k1,C9,uq x v,C9,jR,uB b y l m (k+1) k2 (by omega)]
  cases nA x v <;> rfl
theorem ry (a b:Bat):gt a b=some (mn a b):=by
 unfold gt iK fP mn
 rw[C9,C9]
 dsimp only
 by_cases c1:a.CP=b.CP
 rotate_left
 ·rw[if_neg c1,C9,if_neg (by decide),C9,if_pos rfl,C7 (fun h=>c1 h.1)]; rfl
 by_cases c2:a.CI=b.CI
 rotate_left
 ·rw[if_pos c1,if_neg c2,C9,if_neg (by decide),C9,if_pos rfl,C7 (fun h=>c2 h.2.1)]; rfl
 by_cases c6:a.CN=b.CN
 rotate_left
 ·rw[if_pos c1,if_pos c2,if_neg c6,C9,if_neg (by decide),C9,if_pos rfl,C7 (fun h=>c6 h.2.2.2.2.2.1)]; rfl
 by_cases c7:a.CH=b.CH
 rotate_left
 ·rw[if_pos c1,if_pos c2,if_pos c6,if_neg c7,C9,if_neg (by decide),C9,if_pos rfl,C7 (fun h=>c7 h.2.2.2.2.2.2.1)]; rfl
 by_cases c8:a.CW=b.CW
 rotate_left
 ·rw[if_pos c1,if_pos c2,if_pos c6,if_pos c7,if_neg c8,C9,if_neg (by decide),C9,if_pos rfl,C7 (fun h=>c8 h.2.2.2.2.2.2.2.1)]; rfl
 by_cases c9:a.CE=b.CE
 rotate_left
 ·rw[if_pos c1,if_pos c2,if_pos c6,if_pos c7,if_pos c8,if_neg c9,C9,if_neg (by decide),C9,if_pos rfl,C7 (fun h=>c9 h.2.2.2.2.2.2.2.2.1)]; rfl
 rw[if_pos c1,if_pos c2,if_pos c6,if_pos c7,if_pos c8,if_pos c9]
 by_cases c10:a.CK=b.CK
 rotate_left
 ·rw[if_neg c10,C9,if_neg (by decide),C9,if_pos rfl,C7 (fun h=>c10 h.2.2.2.2.2.2.2.2.2.1)]; rfl
 by_cases c11:a.CD=b.CD
 rotate_left
 ·rw[if_pos c10,if_neg c11,C9,if_neg (by decide),C9,if_pos rfl,C7 (fun h=>c11 h.2.2.2.2.2.2.2.2.2.2.1)]; rfl
 by_cases c3:a.CV=b.CV
 rotate_left
 ·rw[if_pos c10,if_pos c11,if_neg c3,C9,if_neg (by decide),C9,if_pos rfl,C7 (fun h=>c3 h.2.2.1)]; rfl
 by_cases c4:a.C0=b.C0
 rotate_left
 ·rw[if_pos c10,if_pos c11,if_pos c3,if_neg c4,C9,if_neg (by decide),C9,if_pos rfl,C7 (fun h=>c4 h.2.2.2.1)]; rfl
 by_cases c5:a.CL=b.CL
 rotate_left
 ·rw[if_pos c10,if_pos c11,if_pos c3,if_pos c4,if_neg c5,C9,if_neg (by decide),C9,if_pos rfl,C7 (fun h=>c5 h.2.2.2.2.1)]; rfl
 rw[if_pos c10,if_pos c11,if_pos c3,if_pos c4,if_pos c5,C9,if_pos rfl]
 by_cases c12:a.Cy.length=b.Cy.length
 rotate_left
 ·rw[if_neg (by omega),C9,if_pos rfl,C7 (fun h=>c12 h.2.2.2.2.2.2.2.2.2.2.2)]; rfl
 rw[if_pos (by omega),C9,if_neg (by decide),uB b false a.Cy b.Cy 0 rfl c12,C6 ⟨c1,c2,c3,c4,c5,c6,c7,c8,c9,c10,c11,c12⟩,Bool.true_and]
 cases jR a.Cy b.Cy <;> rfl
def oq:fh := [(27,11,11),(35,1,1),(38,2,2),(38,3,4),(38,4,6),(185,0,0),(185,1,1)]
theorem aE:(oq).OK Tryz.prog:=⟨FOK.mk Dp rfl Tryz.sizeOf25 rfl,FOK.mk DM rfl DT rfl,FOK.mk Dw rfl Dk rfl,FOK.mk Dw rfl Dk rfl,FOK.mk Dw rfl ED rfl,FOK.mk Eg rfl DT rfl,FOK.mk Eg rfl Dk rfl,trivial⟩
def cN:List Hd→Int→Option (Lp Int Int)
 | [],y22=>some (Lp.go y22)
 | x28::xs,y22=>if -9223372036854775808≤((x28.CJ.length:Int)+(x28.Cz.data.length:Int))∧((x28.CJ.length:Int)+(x28.Cz.data.length:Int))≤9223372036854775807 then (if ((x28.CJ.length:Int)+(x28.Cz.data.length:Int))>100 then some (Lp.ret 0) else (cN xs y22)) else none
def cO:List Rec→Int→Option (Lp Int Int)
 | [],y5=>some (Lp.go y5)
 | x11::xs,y5=>if -9223372036854775808≤((x11.CJ.data.length:Int)+(x11.Cz.data.length:Int))∧((x11.CJ.data.length:Int)+(x11.Cz.data.length:Int))≤9223372036854775807 then (if ((x11.CJ.data.length:Int)+(x11.Cz.data.length:Int))>100 then some (Lp.ret 0) else (if (x11.CF.length:Int)>6 then some (Lp.ret 0) else ((cN x11.CF y5).bind fun e=>match e with | .ret r=>some (Lp.ret r) | .go y35=>(cO xs y35)))) else none
theorem ot (y5:Int):cO [] y5=(some (Lp.go y5)):=rfl
theorem ow (x11:Rec) (xs:List Rec) (y5:Int):cO (x11::xs) y5=(if -9223372036854775808≤((x11.CJ.data.length:Int)+(x11.Cz.data.length:Int))∧((x11.CJ.data.length:Int)+(x11.Cz.data.length:Int))≤9223372036854775807 then (if ((x11.CJ.data.length:Int)+(x11.Cz.data.length:Int))>100 then some (Lp.ret 0) else (if (x11.CF.length:Int)>6 then some (Lp.ret 0) else ((cN x11.CF y5).bind fun e=>match e with | .ret r=>some (Lp.ret r) | .go y35=>(cO xs y35)))) else none):=rfl
def ge (a0:Bat):Option (Int):=if (a0.Cy.length:Int)>12 then some 0 else ((cO a0.Cy 0).bind fun e=>match e with | .ret r=>some r | .go y37=>some 1)
theorem oz (a0:Bat) (A1:Option Addr) (c2:Nat) (r:Int) (h:ge a0=some r):aA Tryz.prog 68 #[.agg #[jI a0.CP,jI a0.CI,.bool a0.CV,.bool a0.C0,.bool a0.CL,jI a0.CN,jI a0.CH,jI a0.CW,jI a0.CE,jI a0.CK,jI a0.CD,.slice A1 a0.Cy.length c2]] (RX.of (ar 7 aU) [.slice A1 a0.Cy.length c2] a0.Cy) (aD) (fun v A' N=>v=jI r∧A'=aD∧N = []):=by
 refine aM Tryz.func68 Z Tryz.ntmps68 Z ?_
 intro F w hX
 unfold ge at h
 refine T.seq (T.region Z (TL.box Z .u Z Z (fun b3=>(TL.run aE [1] Z Z (TL.nil (X.seq (T.seq (T.seq (T.region Z (TL.run aE [0] Z Z (TL.q Z .u (AH 0 Z DA Z Z) Z (TL.q Z .u (AW Z Dl) Z (TL.run aE [3] Z Z ?_)))))))))))))
 rcases jF h with⟨c4,h⟩ | ⟨c4,h⟩
 ·refine TL.nil (X.seq (AN Z (C6 c4) (T.seq (T.region Z (TL.run aE [0] Z Z ?_)))))
  obtain rfl:=C8 h
  exact TL.nil (X.seq (T.ret (AL (AJ [1] Fa (AK Z) ⟨Z,Z,Z⟩ (by rfl) (.inl Z)))))
 ·refine TL.nil (X.seq (AS Z (C7 c4) (T.skip (X.seq (T.seq (T.seq (T.region Z (TL.run aE [0] Z Z (TL.q Z .u (AH 0 Z DA Z Z) Z (TL.q Z .u (AW Z Dl) Z (TL.run aE [3] Z Z (TL.nil (X.seq (T.block ?_))))))))))))))
  obtain⟨E7,hE8,hO9⟩:=C5 h
  have hk13len:=Bm hX
  refine Bj (fun m e Rs=> ∃ (y5:Int) (k6:Nat),k6+m=a0.Cy.length∧e = [(2,jI y5),(12,.slice A1 a0.Cy.length c2),(13,jI (a0.Cy.length:Int)),(14,jI (k6:Int))]∧Rs = [aC b3 27 #[jI a0.CP,jI a0.CI,.bool a0.CV,.bool a0.C0,.bool a0.CL,jI a0.CN,jI a0.CH,jI a0.CW,jI a0.CE,jI a0.CK,jI a0.CD,.slice A1 a0.Cy.length c2],aD]∧cO (a0.Cy.drop k6) y5=some E7) (a0.Cy.length) [0,0] ⟨0,0,by simp,Z,Z,by rw[List.drop_zero]; exact hE8⟩ (by rfl) (by rfl) ?_
  rintro m10 _ _ ⟨y5,k6,hk13,rfl,rfl,hl12⟩
  clear hE8 h
  cases m10 with
  | zero =>
   have h:=hl12
   clear hl12
   rw[List.drop_of_length_le (by omega),ot] at h
   have hk13ge: ¬ ((k6:Int)<(a0.Cy.length:Int)):=by omega
   refine T.seq (T.region Z (TL.run aE [0] Z Z (TL.nil (X.seq (T.seq (AS Z (C7 hk13ge) ?_))))))
   obtain rfl:=C8 h
   replace h:=hO9
   clear hO9
   try dsimp only at h
   refine T.exit (AV (AV (Bh (X.seq (T.seq (T.region Z (TL.run aE [0] Z Z ?_)))))))
   obtain rfl:=C8 h
   exact TL.nil (X.seq (T.ret (AJ [1] Fa (AK Z) ⟨Z,Z,Z⟩ (by rfl) (.inl Z))))
  | succ m10 =>
   have h:=hl12
   clear hl12
   obtain⟨x11,hxx11⟩: ∃ x,a0.Cy[k6]? = some x:=⟨_,List.getElem?_eq_getElem (by omega)⟩
   rw[aX hxx11,ow] at h
   have hk13lt:(k6:Int)<(a0.Cy.length:Int):=by omega
   refine T.seq (T.region Z (TL.run aE [0] Z Z (TL.nil (X.seq (T.seq (AN Z (C6 hk13lt) ?_))))))
   obtain⟨gz14,oz14,rfl,z14cs,z14cl,z14cc,z14nf,z14r⟩:=Bb (by decide) hX hxx11
   obtain⟨z14S,z14r,z14rr⟩:=z14r
   obtain⟨A15,c16,rfl,z14s0⟩:=z14r
   have hX17:(RX.of (ar 3 bG) [.slice A15 x11.CF.length c16] x11.CF).reads w F:=⟨z14S,z14s0,z14rr⟩
   refine T.skip (X.seq (T.seq (T.block (T.seq (T.region Z ?_)))))
   refine TL.q Z .u (AX (k:=k6) Z Z Z Dl Dj (Da hxx11).1) Z ?_
   refine TL.q Z .u (Bn (us := [jI x11.CY,jI x11.CU,.bool x11.CJ.null,jS x11.CJ.data,.bool x11.Cz.null,jS x11.Cz.data,.slice A15 x11.CF.length c16]) 0 Z DE Dj z14nf z14cc Z Z Z) Z (TL.alloc Z .u Tryz.zeroValue38 Z (fun b18=>(A9 (cs':= #[jI x11.CY,jI x11.CU,.bool x11.CJ.null,jS x11.CJ.data,.bool x11.Cz.null,jS x11.Cz.data,.slice A15 x11.CF.length c16]) Z .u Z Z Dj Z Z Z Z (TL.nil (X.seq (T.seq (T.seq (T.region Z (TL.run aE [0,1] Z Z (TL.q Z .u (AH 0 Z Dz Z Z) Z (TL.q Z .u (Br Z Dm) Z (TL.run aE [4,5] Z Z ?_))))))))))))
   refine TL.q Z .u (AH 0 Z Dz Z Z) Z (TL.q Z .u (Br Z Dm) Z ?_)
   replace h:=an h
   obtain⟨c19,h⟩:=h
   refine TL.q Z .u (Ex.add Z Z c19) Z ?_
   rcases jF h with⟨c20,h⟩ | ⟨c20,h⟩
   ·refine TL.run aE [9,10] Z Z ?_
    iterate 4 refine AM Z (.gn Z Z (C6 c20)) Z ?_
    refine TL.q Z .u (AP Z (C6 c20) Z) Z (TL.nil (X.seq (AN Z Z (T.seq (T.region Z (TL.run aE [0] Z Z ?_))))))
    obtain rfl:=C8 h
    replace h:=hO9
    clear hO9
    try dsimp only at h
    obtain rfl:=C8 h
    exact TL.nil (X.seq (T.ret (AL (AU (AL (AL (AU (AL (AJ [2] Fa (AK Z) ⟨Z,Z,Z⟩ (by rfl) (.inl Z))))))))))
   ·refine TL.run aE [9,10] Z Z (TL.q Z (.g Z Z (C7 c20)) (AO aE Z) Z (TL.q Z (.g Z Z (C7 c20)) (AH 0 Z Eh Z Z) Z (TL.q Z (.g Z Z (C7 c20)) (AW Z Dt) Z (TL.q Z (.g Z Z (C7 c20)) (AO aE Z) Z (TL.q Z .u (AR Z (C7 c20) Z) Z ?_)))))
    rcases jF h with⟨c21,h⟩ | ⟨c21,h⟩
    ·refine TL.nil (X.seq (AN Z (C6 c21) (T.seq (T.region Z (TL.run aE [0] Z Z ?_)))))
     obtain rfl:=C8 h
     replace h:=hO9
     clear hO9
     try dsimp only at h
     obtain rfl:=C8 h
     exact TL.nil (X.seq (T.ret (AL (AU (AL (AL (AU (AL (AJ [2] Fa (AK Z) ⟨Z,Z,Z⟩ (by rfl) (.inl Z))))))))))
    ·refine TL.nil (X.seq (AS Z (C7 c21) (T.skip (X.seq (T.seq (T.region Z (TL.run aE [0] Z Z (TL.q Z .u (AH 0 Z Eh Z Z) Z (TL.q Z .u (AW Z Dt) Z (TL.run aE [3] Z Z (TL.nil (X.seq (T.block ?_)))))))))))))
     obtain⟨E24,hE25,hO26⟩:=C5 h
     have hk30len:=Bm hX17
     refine Bj (fun m e Rs=> ∃ (y22:Int) (k23:Nat),k23+m=x11.CF.length∧e = [(2,jI y22),(12,.slice (some ⟨gz14,oz14,none⟩) a0.Cy.length c2),(13,jI (a0.Cy.length:Int)),(14,jI (k6:Int)),(35,.slice A15 x11.CF.length c16),(36,jI (x11.CF.length:Int)),(37,jI (k23:Int))]∧Rs = [aC b18 38 #[jI x11.CY,jI x11.CU,.bool x11.CJ.null,jS x11.CJ.data,.bool x11.Cz.null,jS x11.Cz.data,.slice A15 x11.CF.length c16],aC b3 27 #[jI a0.CP,jI a0.CI,.bool a0.CV,.bool a0.C0,.bool a0.CL,jI a0.CN,jI a0.CH,jI a0.CW,jI a0.CE,jI a0.CK,jI a0.CD,.slice (some ⟨gz14,oz14,none⟩) a0.Cy.length c2],aD]∧cN (x11.CF.drop k23) y22=some E24) (x11.CF.length) [0,0,0] ⟨y5,0,by simp,Z,Z,by rw[List.drop_zero]; exact hE25⟩ (by rfl) (by rfl) ?_
     rintro m27 _ _ ⟨y22,k23,hk30,rfl,rfl,hl29⟩
     clear hE25 h
     cases m27 with
     | zero =>
      have h:=hl29
      clear hl29
      rw[List.drop_of_length_le (by omega),cN] at h
      have hk30ge: ¬ ((k23:Int)<(x11.CF.length:Int)):=by omega
      refine T.seq (T.region Z (TL.run aE [0] Z Z (TL.nil (X.seq (T.seq (AS Z (C7 hk30ge) ?_))))))
      obtain rfl:=C8 h
      replace h:=hO26
      clear hO26
      try dsimp only at h
      exact T.exit (AV (AV (Bh (AZ (X.seq (T.region Z (TL.q Z .u (Ex.add Z Z (by omega)) Z (TL.run aE [1] Z Z (TL.nil (X.back (m':=m10) [1,1] (by omega) ⟨y22,k6+1,by omega,Z,Z,h⟩ (by rfl) (by rfl)))))))))))
     | succ m27 =>
      have h:=hl29
      clear hl29
      obtain⟨x28,hxx28⟩: ∃ x,x11.CF[k23]? = some x:=⟨_,List.getElem?_eq_getElem (by omega)⟩
      rw[aX hxx28,cN] at h
      have hk30lt:(k23:Int)<(x11.CF.length:Int):=by omega
      refine T.seq (T.region Z (TL.run aE [0] Z Z (TL.nil (X.seq (T.seq (AN Z (C6 hk30lt) ?_))))))
      obtain⟨gz31,oz31,rfl,z31cs,z31cl,z31cc,z31nf,z31r⟩:=Bb (by decide) hX17 hxx28
      obtain⟨z31S,z31r,z31rr⟩:=z31r
      obtain rfl:z31cs = [jS x28.CJ,.bool x28.Cz.null,jS x28.Cz.data]:=z31r
      refine T.skip (X.seq (T.seq (T.block (T.seq (T.region Z ?_)))))
      refine TL.q Z .u (AX (k:=k23) Z Z Z Dt DH (Da hxx28).1) Z ?_
      refine TL.q Z .u (Bn (us := [jS x28.CJ,.bool x28.Cz.null,jS x28.Cz.data]) 0 Z Ew DH z31nf z31cc Z Z Z) Z (TL.alloc Z .u Tryz.zeroValue185 Z (fun b32=>(A9 (cs':= #[jS x28.CJ,.bool x28.Cz.null,jS x28.Cz.data]) Z .u Z Z DH Z Z Z Z (TL.nil (X.seq (T.seq (T.region Z (TL.run aE [0] Z Z (TL.q Z .u (AH 0 Z Dz Z Z) Z (TL.q Z .u (Br Z Dm) Z (TL.run aE [3,4] Z Z ?_)))))))))))
      refine TL.q Z .u (AH 0 Z Dz Z Z) Z (TL.q Z .u (Br Z Dm) Z ?_)
      replace h:=an h
      obtain⟨c33,h⟩:=h
      refine TL.q Z .u (Ex.add Z Z c33) Z (TL.run aE [8] Z Z ?_)
      rcases jF h with⟨c34,h⟩ | ⟨c34,h⟩
      ·refine TL.nil (X.seq (AN Z (C6 c34) (T.seq (T.region Z (TL.run aE [0] Z Z ?_)))))
       obtain rfl:=C8 h
       replace h:=hO26
       clear hO26
       try dsimp only at h
       obtain rfl:=C8 h
       replace h:=hO9
       clear hO9
       try dsimp only at h
       obtain rfl:=C8 h
       exact TL.nil (X.seq (T.ret (AU (AL (AL (AU (AU (AL (AL (AU (AL (AJ [3] Fa (AK Z) ⟨Z,Z,Z⟩ (by rfl) (.inl Z)))))))))))))
      ·exact TL.nil (X.seq (AS Z (C7 c34) (T.skip (AZ (X.seq (T.region Z (TL.q Z .u (Ex.add Z Z (by omega)) Z (TL.run aE [1] Z Z (TL.nil (X.back (m':=m27) [1,1,1] (by omega) ⟨y22,k23+1,by omega,Z,Z,h⟩ (by rfl) (by rfl)))))))))))
theorem uC (y:Int): ∀ l:List Hd,(∀ h,h∈l→yC h)→(cN l y=some (.ret 0))∨(cN l y=some (.go y)∧ ∀ h,h∈l→h.CJ.length+h.Cz.data.length≤100)
 | [],h=> .inr ⟨rfl,fun x h=>nomatch h⟩
 | x::l,h=>by
  have hx:=h x (.head _)
  have h1:x.CJ.length≤140737488351232:=hx.1
  have h2:x.Cz.data.length≤140737488351232:=hx.2.2
  rw[cN,if_pos (by omega)]
  by_cases hc:(x.CJ.length:Int)+(x.Cz.data.length:Int)>100
  ·rw[if_pos hc]
   exact .inl rfl
  ·rw[if_neg hc]
   rcases uC y l (fun z hz=>h z (.tail _ hz)) with g | ⟨g,g2⟩
   ·exact .inl g
   ·refine .inr ⟨g,fun z hz=> ?_⟩
    rcases List.mem_cons.1 hz with rfl | hz
    ·omega
    ·exact g2 z hz
theorem uD (y:Int): ∀ l:List Rec,(∀ r,r∈l→pS r)→(cO l y=some (.ret 0))∨(cO l y=some (.go y)∧ ∀ r,r∈l→r.CJ.data.length+r.Cz.data.length≤100∧r.CF.length≤6∧ ∀ h,h∈r.CF→h.CJ.length+h.Cz.data.length≤100)
 | [],h=> .inr ⟨rfl,fun x h=>nomatch h⟩
 | x::l,h=>by
  obtain⟨h1,h2,h3,h4,h5⟩:=h x (.head _)
  have h6:x.CJ.data.length≤140737488351232:=h3.2
  have h7:x.Cz.data.length≤140737488351232:=h4.2
  rw[cO,if_pos (by omega)]
  by_cases hc:(x.CJ.data.length:Int)+(x.Cz.data.length:Int)>100
  ·rw[if_pos hc]
   exact .inl rfl
  rw[if_neg hc]
  by_cases hd:(x.CF.length:Int)>6
  ·rw[if_pos hd]
   exact .inl rfl
  rw[if_neg hd]
  rcases uC y x.CF h5.2 with g | ⟨g,g2⟩
  ·rw[g]
   exact .inl rfl
  ·rw[g,C9]
   simp only
   rcases uD y l (fun z hz=>h z (.tail _ hz)) with k | ⟨k,k2⟩
   ·exact .inl k
   ·refine .inr ⟨k,fun z hz=> ?_⟩
    rcases List.mem_cons.1 hz with rfl | hz
    ·exact⟨by omega,by omega,g2⟩
    ·exact k2 z hz
theorem AC (a:Bat) (hw:jG a):ge a=some 0∨(ge a=some 1∧a.Cy.length≤12∧ ∀ r,r∈a.Cy→r.CJ.data.length+r.Cz.data.length≤100∧r.CF.length≤6∧ ∀ h,h∈r.CF→h.CJ.length+h.Cz.data.length≤100):=by
 unfold ge
 by_cases hc:(a.Cy.length:Int)>12
 ·rw[if_pos hc]
  exact .inl rfl
 rw[if_neg hc]
 rcases uD 0 a.Cy hw.2.2.2.2.2.2.2.2.2.2.2.2 with g | ⟨g,g2⟩
 ·rw[g]
  exact .inl rfl
 ·rw[g]
  exact .inr ⟨rfl,by omega,g2⟩
theorem ym {a:Bat} (hw:jG a) (h1:a.Cy.length≤12) (h2: ∀ r,r∈a.Cy→r.CJ.data.length+r.Cz.data.length≤100∧r.CF.length≤6∧ ∀ h,h∈r.CF→h.CJ.length+h.Cz.data.length≤100):bnB a :=
 ⟨hw,by omega,fun r hr=>by have:=h2 r hr; exact⟨by omega,by omega,by omega⟩⟩
theorem xd: ∀ (l:List Hd),(∀ h,h∈l→h.CJ.length+h.Cz.data.length≤100)→gP l≤120*l.length
 | [],_=>DV _
 | x::l,h=>by
  have h1:=h x (.head _)
  have h2:=xd l (fun y hy=>h y (.tail _ hy))
  rw[gP,hwt,Dh]
  omega
theorem tt {α:Type} (enc:α→List UInt8) (n:Nat): ∀ (l:List α),(∀ x,x∈l→(enc x).length≤n)→(aQ enc l).length≤n*l.length
 | [],_=>DV _
 | x::l,h=>by
  have h1:=h x (.head _)
  have h2:=tt enc n l (fun y hy=>h y (.tail _ hy))
  rw[aQ,Db,Dh,Nat.mul_succ]
  omega
theorem yn {a:Bat} (hw:jG a) (h1:a.Cy.length≤12) (h2: ∀ r,r∈a.Cy→r.CJ.data.length+r.Cz.data.length≤100∧r.CF.length≤6∧ ∀ h,h∈r.CF→h.CJ.length+h.Cz.data.length≤100):smB a∧(body a).length≤12000:=by
 have hr: ∀ r,r∈a.Cy→rwt r≤900:=fun r hr=>by
  obtain⟨k1,k2,k3⟩:=h2 r hr
  have:=xd r.CF k3
  unfold rwt
  omega
 have hl:(body a).length≤12000:=by
  have h3:=tt bx 1000 a.Cy (fun x hx=>by
   have h4:=hw.2.2.2.2.2.2.2.2.2.2.2.2 x hx
   have h5:=hr x hx
   have:=vW x h4.1 h4.2.1 (by omega)
   omega)
  unfold body
  omega
 exact⟨⟨ym hw h1 h2,fun r hr2=>by have:=hr r hr2; omega,by omega⟩,hl⟩
theorem zS (a:Bat) (s:Int):mkB (pB a s) a.Cy=a:=by
 obtain⟨b1,b2,b3⟩:=wY a.CV a.C0 a.CL
 unfold mkB pB
 dsimp only
 rw[b1,b2,b3]
theorem v7 {b:Bat} (h:okB b) (hl:(da b).length≤1000000):bnB b:=by
 have h1:=qL h.1 h.2.2.1 (by have:=lV h; unfold body at this; omega)
 rwa [zS] at h1
end Go.Proofs.YtcoppaggpbfcmaaGreat.Sl
