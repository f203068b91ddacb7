/- scanRows_holds: part 6. -/
import Derived.KernelRfl
import Derived.Test.YtahjmpipllajcaaGreatK5
set_option maxRecDepth 100000
set_option maxHeartbeats 4000000
set_option linter.defProp false
namespace Go.Proofs.YtahjmpipllajcaaGreat.Sl
open Go.RowKit
set_option linter.unusedVariables false
set_option linter.unusedSimpArgs false
def yx := @Tryz.isAgg22
def yP := @Tryz.sizeOf36
def yX := @Tryz.sizeOf22
def zp := @Tryz.isAgg36
def zr := @Tryz.runUnderlying52
def zB := @Tryz.results12
def r64 (n:Int):Prop:= -9223372036854775808≤n∧n≤9223372036854775807
def wrI:List Nat→List Int→List UInt8×Int→Option (List UInt8×Int)
 | k::ks,x::xs,st=>(eR st x (k:Int)).bind fun st=>wrI ks xs st
 | _,_,st=>some st
theorem tT: ∀ (ks:List Nat) (l:List Int) (t:List UInt8),okI ks l→t.length+ks.sum≤1000000→wrI ks l (t,0)=some (t++ja ks l,0)
 | [],[],t,_,_=>by unfold wrI ja; rw[yp]
 | [],_ :: _,_,h,_=>nomatch h
 | _ :: _,[],_,h,_=>nomatch h
 | k::ks,x::xs,t,h,hl=>by
  rw[List.sum_cons] at hl
  rw[wrI,uY h.1 (by omega),xP,yA,tT ks xs _ h.2 (by rw[xR,aE]; omega),ja,ya]
def w32 (n:Int):Int:=IntKind.i32.wrap (IntKind.u32.wrap n)
theorem u0 (n:Int): -2147483648≤w32 n∧w32 n≤2147483647:=by
 unfold w32
 rw[IntKind.wrap_i32]
 omega
theorem w32_s {n:Int} (h:0≤n∧n≤4294967295):w32 n=s32 n:=by
 unfold w32 s32
 rw[IntKind.wrap_i32,IntKind.wrap_u32]
 split <;> omega
def toW (p:Pfx):List Int := [p.xy,p.xD,p.xt,2,w32 p.xG,p.xH,p.xw,p.xr,p.xB,p.xq,p.xv,p.xo,p.xF]
def wP (p:Pfx):Prop:=r64 p.xy∧r64 p.xD∧r64 p.xt∧r64 p.xG∧r64 p.xH∧r64 p.xw∧r64 p.xr∧r64 p.xB∧r64 p.xq∧r64 p.xv∧r64 p.xo∧r64 p.xF
theorem tU (st:List UInt8×Int) (p:Pfx):ci st p=wrI KS (toW p) (if p.xG<0∨p.xG>4294967295 then ga st 11 else st):=by
 have hw:=u0 p.xG
 unfold ci
 have e:((if p.xG<0 then some true else (if p.xG>4294967295 then some true else some false)).bind fun y4=>(if y4=true then ((jv st 11).bind fun st14=>some st14) else some st))=some (if p.xG<0∨p.xG>4294967295 then ga st 11 else st):=by
  by_cases h1:p.xG<0
  ·rw[if_pos h1,xP,if_pos rfl,if_pos (.inl h1)]; rfl
  ·rw[if_neg h1]
   by_cases h2:p.xG>4294967295
   ·rw[if_pos h2,xP,if_pos rfl,if_pos (.inr h2)]; rfl
   ·rw[if_neg h2,xP,if_neg (by decide),if_neg (by omega)]
 have e2: ∀ (K:List UInt8×Int→Option (List UInt8×Int)),((if p.xG<0 then some true else (if p.xG>4294967295 then some true else some false)).bind fun y4=>(if y4=true then ((jv st 11).bind fun st14=>some st14) else some st).bind K)=K (if p.xG<0∨p.xG>4294967295 then ga st 11 else st):=by
  intro K
  rw[← Option.bind_assoc,e,xP]
 rw[e2]
 show (if -9223372036854775808≤w32 p.xG∧w32 p.xG≤9223372036854775807 then _ else _)= _
 rw[if_pos (by omega)]
 rfl
def okWp (p:Pfx):Prop:=okI KS (toL p)∧0≤p.xG∧p.xG≤4294967295
theorem kn {p:Pfx} (h:okI KS (toL p)):(g8 p).length=61:=by
 unfold g8
 rw[pM h]
 rfl
theorem tV {p:Pfx} (t:List UInt8) (h:okWp p) (ht:t.length≤900000):ci (t,0) p=some (t++g8 p,0):=by
 have e:toW p=toL p:=by
  unfold toW toL
  rw[w32_s h.2]
 have h2:=h.2
 rw[tU,if_neg (by omega),e]
 exact tT KS (toL p) t h.1 (by show t.length+61≤ _; omega)
def eM (p:Pfx):List Int := [p.xy,p.xD,p.xt,p.xG,p.xH,p.xw,p.xr,p.xB,p.xq,p.xv,p.xo,p.xF]
theorem dc (l:List Int) (m:Nat) (y4 acc:List UInt8) (y5:Bool) (k:Nat) (x:Int) (z:Nat) (hk:k<12) (h3:k≠3) (hx:l[k]? = some x) (hz : [(8:Int),4,4,4,2,4,8,8,8,2,4,4][k]? = some (z:Int)) (h8:z≤8) (hr:r64 x) (ha:acc.length≤1000) :
 aS l (m+1) y4 y5 acc k=if bq x z=true then aS l m y4 y5 (acc++be x z) (k+1) else some (.ret ([],false)):=by
 rw[aS,if_pos (by omega),hx,xP,if_neg (by omega),hz,xP,nA _ _ hr,xP]
 by_cases h:bq x z=true
 ·rw[if_pos h,if_pos h,jy _ _ ⟨hr,by omega,by omega⟩,xP,yA,if_pos (by rw[aE]; omega),if_pos (by omega)]
 ·rw[if_neg h,if_neg h]
theorem tW (l:List Int) (m:Nat) (y4 acc:List UInt8) (y5:Bool) (x:Int) (hx:l[3]? = some x) (hr:r64 x) (ha:acc.length≤1000) :
 aS l (m+1) y4 y5 acc 3=if (0≤x∧x≤4294967295) then (if bq (s32 x) 4=true then aS l m y4 y5 (acc++be 2 1++be (s32 x) 4) 4 else some (.ret ([],false))) else some (.ret ([],false)):=by
 obtain⟨r1,r2⟩:=hr
 rw[aS,if_pos (by decide),hx,xP,if_pos (by decide)]
 by_cases h:0≤x∧x≤4294967295
 ·have e1:(if x<0 then some true else (if x>4294967295 then some true else some false))=some false:=by rw[if_neg (by omega),if_neg (by omega)]
  have e2:(if x>2147483647 then (if -9223372036854775808≤(x - 4294967296)∧(x - 4294967296)≤9223372036854775807 then some (x - 4294967296) else none) else some x)=some (s32 x):=by
   unfold s32
   by_cases q:x>2147483647
   ·rw[if_pos q,if_pos q,if_pos (by omega)]
   ·rw[if_neg q,if_neg q]
  have e3:r64 (s32 x):=by unfold s32 r64; split <;> omega
  rw[e1,xP,if_neg (by decide),e2,xP,jy _ _ ⟨by decide,by decide,by decide⟩,xP,if_pos (by rw[aE]; show _+1≤ _; omega),if_pos h]
  show ((some (4:Int)).bind _)= _
  rw[xP,nA _ _ e3,xP]
  by_cases hf:bq (s32 x) 4=true
  ·rw[if_pos hf,if_pos hf,jy _ _ ⟨e3,by decide,by decide⟩,xP,if_pos (by rw[xR,aE,aE]; show _+1+4≤ _; omega),if_pos (by decide)]
   rfl
  ·rw[if_neg hf,if_neg hf]
 ·have e1:(if x<0 then some true else (if x>4294967295 then some true else some false))=some true:=by
   by_cases q:x<0
   ·rw[if_pos q]
   ·rw[if_neg q,if_pos (by omega)]
  rw[e1,xP,if_pos rfl,if_neg h]
theorem rb_end (l:List Int) (m:Nat) (y4 acc:List UInt8) (y5:Bool):aS l (m+1) y4 y5 acc 12=some (.go (y4,y5,acc,12)):=by
 rw[aS,if_neg (by decide)]
open Classical in
theorem nQ (p:Pfx) (hw:wP p):dt (eM p)=some (if okWp p then (g8 p,true) else ([],false)):=by
 obtain⟨h1,h2,h3,h4,h5,h6,h7,h8,h9,h10,h11,h12⟩:=hw
 unfold dt
 rw[show (12:Int).toNat+1=12+1 from rfl]
 have no: ¬ okWp p→ ∀ (o:Option (Lp (List UInt8×Bool) (List UInt8×Bool×List UInt8×Nat))),o=some (.ret ([],false))→(o.bind fun e=>match e with | .ret r=>some r | .go (y55,y56,y57,k58)=>some (y57,true))=some (if okWp p then (g8 p,true) else ([],false)):=by
  intro h o ho
  rw[ho,if_neg h]
  rfl
 by_cases f1:bq p.xy (8:Nat)=true
 rotate_left
 ·exact no (fun h=>f1 h.1.1) _ (by rw[dc (eM p) 12 [] [] false 0 p.xy 8 (by decide) (by decide) rfl rfl (by decide) h1 (by decide),if_neg f1])
 by_cases f2:bq p.xD (4:Nat)=true
 rotate_left
 ·exact no (fun h=>f2 h.1.2.1) _ (by rw[dc (eM p) 12 [] [] false 0 p.xy 8 (by decide) (by decide) rfl rfl (by decide) h1 (by decide),if_pos f1,dc (eM p) 11 [] _ false 1 p.xD 4 (by decide) (by decide) rfl rfl (by decide) h2 (by simp[aE]),if_neg f2])
 by_cases f3:bq p.xt (4:Nat)=true
 rotate_left
 ·exact no (fun h=>f3 h.1.2.2.1) _ (by rw[dc (eM p) 12 [] [] false 0 p.xy 8 (by decide) (by decide) rfl rfl (by decide) h1 (by decide),if_pos f1,dc (eM p) 11 [] _ false 1 p.xD 4 (by decide) (by decide) rfl rfl (by decide) h2 (by simp[aE]),if_pos f2,
   dc (eM p) 10 [] _ false 2 p.xt 4 (by decide) (by decide) rfl rfl (by decide) h3 (by simp[aE]),if_neg f3])
 rw[dc (eM p) 12 [] [] false 0 p.xy 8 (by decide) (by decide) rfl rfl (by decide) h1 (by decide),if_pos f1,dc (eM p) 11 [] _ false 1 p.xD 4 (by decide) (by decide) rfl rfl (by decide) h2 (by simp[aE]),if_pos f2,
  dc (eM p) 10 [] _ false 2 p.xt 4 (by decide) (by decide) rfl rfl (by decide) h3 (by simp[aE]),if_pos f3,tW (eM p) 9 [] _ false p.xG rfl h4 (by simp[aE])]
 by_cases g4:0≤p.xG∧p.xG≤4294967295
 rotate_left
 ·exact no (fun h=>g4 h.2) _ (by rw[if_neg g4])
 rw[if_pos g4]
 by_cases f4:bq (s32 p.xG) 4=true
 rotate_left
 ·exact no (fun h=>f4 h.1.2.2.2.2.1) _ (by rw[if_neg f4])
 rw[if_pos f4,dc (eM p) 8 [] _ false 4 p.xH 2 (by decide) (by decide) rfl rfl (by decide) h5 (by simp[aE])]
 by_cases f5:bq p.xH (2:Nat)=true
 rotate_left
 ·exact no (fun h=>f5 h.1.2.2.2.2.2.1) _ (by rw[if_neg f5])
 rw[if_pos f5,dc (eM p) 7 [] _ false 5 p.xw 4 (by decide) (by decide) rfl rfl (by decide) h6 (by simp[aE])]
 by_cases f6:bq p.xw (4:Nat)=true
 rotate_left
 ·exact no (fun h=>f6 h.1.2.2.2.2.2.2.1) _ (by rw[if_neg f6])
 rw[if_pos f6,dc (eM p) 6 [] _ false 6 p.xr 8 (by decide) (by decide) rfl rfl (by decide) h7 (by simp[aE])]
 by_cases f7:bq p.xr (8:Nat)=true
 rotate_left
 ·exact no (fun h=>f7 h.1.2.2.2.2.2.2.2.1) _ (by rw[if_neg f7])
 rw[if_pos f7,dc (eM p) 5 [] _ false 7 p.xB 8 (by decide) (by decide) rfl rfl (by decide) h8 (by simp[aE])]
 by_cases f8:bq p.xB (8:Nat)=true
 rotate_left
 ·exact no (fun h=>f8 h.1.2.2.2.2.2.2.2.2.1) _ (by rw[if_neg f8])
 rw[if_pos f8,dc (eM p) 4 [] _ false 8 p.xq 8 (by decide) (by decide) rfl rfl (by decide) h9 (by simp[aE])]
 by_cases f9:bq p.xq (8:Nat)=true
 rotate_left
 ·exact no (fun h=>f9 h.1.2.2.2.2.2.2.2.2.2.1) _ (by rw[if_neg f9])
 rw[if_pos f9,dc (eM p) 3 [] _ false 9 p.xv 2 (by decide) (by decide) rfl rfl (by decide) h10 (by simp[aE])]
 by_cases f10:bq p.xv (2:Nat)=true
 rotate_left
 ·exact no (fun h=>f10 h.1.2.2.2.2.2.2.2.2.2.2.1) _ (by rw[if_neg f10])
 rw[if_pos f10,dc (eM p) 2 [] _ false 10 p.xo 4 (by decide) (by decide) rfl rfl (by decide) h11 (by simp[aE])]
 by_cases f11:bq p.xo (4:Nat)=true
 rotate_left
 ·exact no (fun h=>f11 h.1.2.2.2.2.2.2.2.2.2.2.2.1) _ (by rw[if_neg f11])
 rw[if_pos f11,dc (eM p) 1 [] _ false 11 p.xF 4 (by decide) (by decide) rfl rfl (by decide) h12 (by simp[aE])]
 by_cases f12:bq p.xF (4:Nat)=true
 rotate_left
 ·exact no (fun h=>f12 h.1.2.2.2.2.2.2.2.2.2.2.2.2.1) _ (by rw[if_neg f12])
 have hok:okWp p:=⟨⟨f1,f2,f3,rfl,f4,f5,f6,f7,f8,f9,f10,f11,f12,trivial⟩,g4⟩
 rw[if_pos f12,rb_end,xP,if_pos hok]
 dsimp only
 unfold g8 KS toL
 simp only[ja,ya,yk,yp]
theorem eY {st:I} (h:st.err≠0):bb st=some (⟨false,[]⟩,st):=QV.dead st h
theorem u4 {st:I} (h:st.err≠0):ml st=some ([],st):=QN.dead st h
theorem rc:CQ ib (iE 32) 0:=(oO 32 (.inl rfl)).cq (e8 32 (.inl rfl))
theorem lS {st:I} (h:st.err≠0):ib st=some (0,st):=rc.dead st h
def ko (each:Nat):Pr Int:=(iE 32).bind (pK each)
theorem rd {each:Nat} {s:List UInt8} {q r:Nat} {n:Int} (hq:q≤s.length) (h:ko each s q= .ok (n,r)):0≤n∧(0<each→n*each≤((s.length - r:Nat):Int))∧q≤r∧r=q+(aX (aB n)).length∧r≤s.length∧s.take r=s.take q++aX (aB n)∧aB n<2 ^ (32:Int).toNat:=by
 obtain⟨m,r',h2,h⟩:=Pr.bind_ok h
 obtain⟨a1,a2,a3,a4,a5⟩:=(e8 32 (.inl rfl)).spell _ _ _ _ hq h2
 unfold pK at h
 split at h
 ·exact nomatch h
 ·rename_i hn
  split at h
  ·exact nomatch h
  ·rename_i he
   injection h with h
   obtain⟨rfl,rfl⟩:=yy h
   refine⟨by omega,fun hz=> ?_,a1,a3,a2,a4,a5⟩
   have:m≤((s.length - r':Nat):Int) / each:=by
    rcases Int.lt_or_le (((s.length - r':Nat):Int) / each) m with g | g
    ·exact absurd ⟨hz,g⟩ he
    ·exact g
   exact (Int.le_ediv_iff_mul_le (by omega)).1 this
theorem rf {each:Nat} {s t:List UInt8} {q:Nat} {n:Int} (hq:q≤s.length) (hf:aB n<2 ^ (32:Int).toNat) (hn:0≤n) (h:s.drop q=aX (aB n)++t) (hl:0<each→n*each≤t.length):ko each s q= .ok (n,q+(aX (aB n)).length):=by
 have g:=(e8 32 (.inl rfl)).back s t q n hq hf h
 rw[ko,Pr.bind_of g]
 unfold pK
 have hlen:=congrArg List.length h
 rw[xT,xR] at hlen
 rw[if_neg (by omega),if_neg]
 rintro⟨hz,hc⟩
 have:=(Int.le_ediv_iff_mul_le (show (0:Int)<each by omega)).2 (hl hz)
 rw[show s.length - (q+(aX (aB n)).length)=t.length by omega] at hc
 omega
def rT {α:Type} (each:Nat) (p:Pr α):Pr (List α):=(ko each).bind fun n=>nd p n.toNat
theorem va {α:Type} {p:Pr α} {enc:α→List UInt8} {ok:α→Prop} (each:Nat) (hp:Sp p enc ok) (he: ∀ x,ok x→each≤(enc x).length):Sp (rT each p) (fun l=>aX (aB (l.length:Int))++aN enc l) (fun l=>aB (l.length:Int)<2 ^ (32:Int).toNat∧ ∀ x,x∈l→ok x):=by
 refine⟨fun s q a r hq h=> ?_,fun s t q a hq ha h=> ?_⟩
 ·obtain⟨n,q1,g1,h⟩:=Pr.bind_ok h
  obtain⟨a1,a2,a3,a4,a5,a6,a7⟩:=rd hq g1
  obtain⟨b1,b2,b3,b4,b5,b6⟩:=(qZ hp n.toNat).spell _ _ _ _ a5 h
  have hn:(a.length:Int)=n:=by omega
  refine⟨by omega,b2,by rw[xR,hn]; omega,by rw[b4,a6,hn,ya],by rw[hn]; exact a7,b6⟩
 ·rw[ya] at h
  have hl:=congrArg List.length h
  rw[xT,xR,xR] at hl
  have g1:=rf (each:=each) hq ha.1 (by omega) h (fun _=>by
   have:=rR he a ha.2
   rw[xR,Int.natCast_add,← Int.natCast_mul]
   omega)
  have h2:=cQ h
  have g2:=(qZ hp a.length).back _ _ _ _ (by omega) ⟨rfl,ha.2⟩ h2
  rw[rT,Pr.bind_of g1,yA,g2,xR]
  simp only[Nat.add_assoc]
def pHd:Pr Hd:=nP.bind fun k=>gm.bind fun v=> .ret ⟨k,v⟩
def dj (h:Hd):List UInt8:=(aX (aB (h.xu.length:Int))++h.xu)++(aX (aB (cT h.xn))++h.xn.data)
def okHd (h:Hd):Prop:=aB (h.xu.length:Int)<2 ^ (32:Int).toNat∧aB (cT h.xn)<2 ^ (32:Int).toNat∧aY h.xn=true
theorem Sp_hd:Sp pHd dj okHd:=by
 refine⟨fun s q a r hq h=> ?_,fun s t q a hq ha h=> ?_⟩
 ·obtain⟨k,q1,h1,h⟩:=Pr.bind_ok h
  obtain⟨v,q2,h2,h⟩:=Pr.bind_ok h
  injection h with h
  obtain⟨rfl,rfl⟩:=yy h
  obtain⟨a1,a2,a3,a4,a5⟩:=iQ.spell _ _ _ _ hq h1
  obtain⟨b1,b2,b3,b4,b5⟩:=eB.spell _ _ _ _ a2 h2
  exact⟨by omega,b2,by simp only[dj,xR] at *; omega,by rw[b4,a4]; simp only[dj,ya],a5.1,b5⟩
 ·obtain⟨a1,a2,a3⟩:=ha
  have hl:=congrArg List.length h
  rw[dj,ya] at h
  have g1:=iQ.back _ _ _ _ hq ⟨a1,rfl⟩ h
  have h:=cQ h
  have g2:=eB.back _ _ _ _ (by simp only[dj,xT,xR] at *; omega) ⟨a2,a3⟩ h
  rw[pHd,Pr.bind_of g1,Pr.bind_of g2]
  simp only[Pr.ret,dj,xR,Nat.add_assoc]
theorem tX (h:Hd) (ho:okHd h):2≤(dj h).length:=by
 have h1:=il (aB (h.xu.length:Int))
 have h2:=il (aB (cT h.xn))
 simp only[dj,xR]
 omega
def sV:Pr (List Hd):=rT 2 pHd
theorem tY:Sp sV (fun l=>aX (aB (l.length:Int))++aN dj l) (fun l=>aB (l.length:Int)<2 ^ (32:Int).toNat∧ ∀ h,h∈l→okHd h):=va 2 Sp_hd tX
theorem rU (n:Int) (s:List UInt8) (hs:s.length≤1000000) (hn:n≤1000000): ∀ (m fuel k:Nat) (acc:List Hd) (q:Nat),((k+m:Nat):Int)=n→m<fuel→q≤s.length→acc.length=k →
 (∃ (e:Int) (st:I),nd pHd m s q= .error e∧bm n fuel [] acc k ⟨s.drop q,q,0⟩=some (.ret ([],st))∧st.err=e∧st.err≠0) ∨
 (∃ l r,nd pHd m s q= .ok (l,r)∧bm n fuel [] acc k ⟨s.drop q,q,0⟩=some (.go ([],acc++l,k+m,⟨s.drop r,r,0⟩))∧q≤r∧r≤s.length)
 | 0,fuel+1,k,acc,q,h1,h2,h3,h4=> .inr ⟨[],q,rfl,by rw[bm,if_neg (by omega),yp]; rfl,yn _,h3⟩
 | m+1,fuel+1,k,acc,q,h1,h2,h3,h4=>by
  rw[bm,if_pos (by omega)]
  rcases QN.run s q h3 with⟨e,st,p1,g1,x1,y1⟩ | ⟨nm,q1,p1,g1,n1,l1⟩
  ·left
   refine⟨e,st,by rw[nd,Pr.bind_err (show pHd s q= .error e from Pr.bind_err p1)],?_,x1,y1⟩
   rw[g1,xP]
   simp only
   rw[eY y1,xP]
   simp only
   rw[if_pos (by omega),bX,xP]
   simp only
   rw[if_neg y1]
  rw[g1,xP]
  simp only
  rcases QV.run s q1 l1 with⟨e,st,p2,g2,x2,y2⟩ | ⟨v,q2,p2,g2,n2,l2⟩
  ·left
   have ht:pHd s q= .error e:=by rw[pHd,Pr.bind_of p1,Pr.bind_err p2]
   refine⟨e,st,by rw[nd,Pr.bind_err ht],?_,x2,y2⟩
   rw[g2,xP]
   simp only
   rw[if_pos (by omega),bX,xP]
   simp only
   rw[if_neg y2]
  rw[g2,xP]
  simp only
  rw[if_pos (by omega),bX,xP]
  simp only[if_true]
  rw[if_pos (by omega)]
  have ht:pHd s q= .ok (⟨nm,v⟩,q2):=by rw[pHd,Pr.bind_of p1,Pr.bind_of p2]; rfl
  rw[nd,Pr.bind_of ht]
  rcases rU n s hs hn m fuel (k+1) (acc ++ [(⟨nm,v⟩:Hd)]) q2 (by omega) (by omega) l2 (by rw[xR,h4]; rfl) with⟨e,st,r1,r2,r3,r4⟩ | ⟨l,r,r1,r2,r3,r4⟩
  ·exact .inl ⟨e,st,by rw[Pr.bind_err r1],r2,r3,r4⟩
  ·refine .inr ⟨⟨nm,v⟩::l,r,by rw[Pr.bind_of r1]; rfl,?_,by omega,r4⟩
   rw[r2,ya,show k+1+m=k+(m+1) by omega]
   rfl
theorem B_hds:CB aP sV []:=by
 refine⟨fun st h=> ?_,fun s q hs hq=> ?_⟩
 ·unfold aP
  rw[lS h,xP]
  simp only
  rw[bX,xP]
  simp only
  rw[if_neg h]
 ·unfold aP
  rcases rc.run s q hq with⟨e,st,p1,g1,x1,y1⟩ | ⟨c,q1,p1,g1,n1,l1⟩
  ·refine .inl ⟨e,st,Pr.bind_err (Pr.bind_err p1),?_,x1,y1⟩
   rw[g1,xP]
   simp only
   rw[bX,xP]
   simp only
   rw[if_neg y1]
  ·rw[g1,xP]
   simp only
   rw[bX,xP]
   simp only[if_true]
   have hd:(s.drop q1).length=s.length - q1:=xT
   have hE:sV s q=((pK 2 c).bind fun n=>nd pHd n.toNat) s q1:=by
    unfold sV rT ko Pr.bind
    rw[p1]
   rw[hE]
   unfold Pr.bind pK
   by_cases hn:c<0
   ·rw[if_pos hn,if_pos hn]
    exact .inl ⟨4,_,rfl,rfl,rfl,by simp[cA]⟩
   rw[if_neg hn,if_neg hn,me,xP]
   simp only
   rw[hd,if_pos (show 0≤((s.length - q1:Nat):Int)∧((s.length - q1:Nat):Int)≤9223372036854775807 by omega)]
   by_cases hc:0<2∧((s.length - q1:Nat):Int) / ((2:Nat):Int)<c
   ·have hc2:c>((s.length - q1:Nat):Int) / 2:=hc.2
    rw[if_pos hc,if_pos hc2]
    exact .inl ⟨1,_,rfl,rfl,rfl,by simp[cA]⟩
   ·have hc2: ¬ c>((s.length - q1:Nat):Int) / 2:=fun h=>hc ⟨by decide,h⟩
    rw[if_neg hc,if_neg hc2]
    simp only
    rcases rU c s hs (by omega) c.toNat (c.toNat+1) 0 [] q1 (by omega) (by omega) l1 rfl with⟨e,st,r1,r2,r3,r4⟩ | ⟨l,r,r1,r2,r3,r4⟩
    ·exact .inl ⟨e,st,r1,by rw[r2]; rfl,r3,r4⟩
    ·refine .inr ⟨l,r,r1,?_,by omega,r4⟩
     rw[r2,yk]
     rfl
def hwt (h:Hd):Nat:=20+h.xu.length+h.xn.data.length
def fB:List Hd→Nat
 | []=>0
 | h::l=>hwt h+fB l
theorem eN (n:Int) (h: -1≤n) (h2:n≤2147483647):(aX (aB n)).length≤10:=dD _ (cH n (by omega) (by omega))
theorem fT (n:Int) (h: -1≤n) (h2:n≤2147483647):aB n<2 ^ (32:Int).toNat:=by
 rw[show 2 ^ (32:Int).toNat=4294967296 by decide]
 exact qw n ⟨by omega,h2⟩
theorem fU (b:Bl) (h:b.data.length≤2147483647): -1≤cT b∧cT b≤2147483647:=by unfold cT; split <;> omega
theorem nR (h:Hd) (hk:h.xu.length≤1000000) (hv:h.xn.data.length≤1000000):(dj h).length≤hwt h:=by
 have h1:=eN (h.xu.length:Int) (by omega) (by omega)
 have hb:=fU h.xn (by omega)
 have h2:=eN (cT h.xn) hb.1 hb.2
 simp only[dj,xR,hwt]
 omega
theorem mE: ∀ l:List Hd,fB l≤1000000→(aN dj l).length≤fB l
 | [],h=>yn _
 | x::l,h=>by
  have h1:hwt x≤fB (x::l):=by rw[fB]; omega
  have h2:=mE l (by rw[fB] at h; omega)
  have h3:=nR x (by unfold hwt at h1; omega) (by unfold hwt at h1; omega)
  rw[aN,xR,fB]
  omega
theorem iF: ∀ l:List Hd,l.length*20≤fB l
 | []=>by simp[fB]
 | h::l=>by have:=iF l; simp only[fB,hwt,yd]; omega
theorem pO: ∀ (l:List Hd) (h:Hd),h∈l→hwt h≤fB l
 | x::l,h,hm=>by
  rcases List.mem_cons.1 hm with rfl | hm
  ·simp only[fB]; omega
  ·have:=pO l h hm; simp only[fB]; omega
theorem lT (n:Int) (h: -9223372036854775808≤n∧n≤9223372036854775807):ey n=some (aX (aB n)):=by
 have:=cH n h.1 h.2
 unfold ey
 rw[sF _ h,xP,tw _ (by omega),xP,yA]
theorem nS (a0:List Hd) (hb:fB a0≤1000000): ∀ (l:List Hd) (t:List UInt8) (k fuel:Nat),a0.drop k=l→l.length<fuel→t.length+fB l≤2000000→fB l≤1000000→ ∃ z,cg a0 fuel t k=some (t++aN dj l,z)
 | [],t,k,fuel+1,h,hf,hl,hl2=>by
  have:a0.length≤k:=List.drop_eq_nil_iff.1 h
  exact⟨k,by rw[cg,if_neg (by omega),aN,yp]⟩
 | x::l,t,k,fuel+1,h,hf,hl,hl2=>by
  have hlen:=congrArg List.length h
  rw[xT,yd] at hlen
  have g1:a0[k]? = some x:=by have:=congrArg (fun z=>z[0]?) h; simpa using this
  have g2:a0.drop (k+1)=l:=by rw[← yz,h]; rfl
  have hn:=iF a0
  rw[yd] at hf
  have hx:t.length+(hwt x+fB l)≤2000000:=hl
  have hx2:hwt x+fB l≤1000000:=hl2
  have h1:=nR x (by unfold hwt at hx2; omega) (by unfold hwt at hx2; omega)
  have e:t++(aX (aB (cT ⟨false,x.xu⟩))++x.xu)++(aX (aB (cT x.xn))++x.xn.data)=t++dj x:=by
   simp only[dj,ya]
   rfl
  have e1:(aX (aB (cT ⟨false,x.xu⟩))++x.xu).length≤(dj x).length∧(aX (aB (cT x.xn))++x.xn.data).length≤(dj x).length:=by
   simp only[dj,xR]
   have:cT ⟨false,x.xu⟩=(x.xu.length:Int):=rfl
   rw[this]
   omega
  obtain⟨z,hz⟩:=nS a0 hb l (t++dj x) (k+1) fuel g2 (by omega) (by rw[xR]; omega) (by omega)
  rw[cg,if_pos (by omega),g1,xP,fA _ (by unfold hwt at hx2; simp only; omega),xP,if_pos (by simp only; omega),fA _ (by unfold hwt at hx2; omega),xP,if_pos (by rw[xR]; simp only; omega),if_pos (by omega)]
  refine⟨z,?_⟩
  simp only
  rw[e,hz,aN,ya]
theorem sW (l:List Hd) (hb:fB l≤1000000):ff l=some (aX (aB (l.length:Int))++aN dj l):=by
 have hn:=iF l
 have h1:=eN (l.length:Int) (by omega) (by omega)
 unfold ff
 rw[lT _ (by omega),xP]
 obtain⟨z,hz⟩:=nS l hb l (aX (aB (l.length:Int))) 0 (((l.length:Int)).toNat+1) rfl (by omega) (by omega) hb
 rw[hz]
 rfl
theorem rV:CQ fI (iE 64) 0:=(oO 64 (.inr rfl)).cq (e8 64 (.inr rfl))
theorem pP {st:I} (h:st.err≠0):fI st=some (0,st):=rV.dead st h
theorem dV {st:I} (h:st.err≠0):cI st=some (st.err,st):=by rw[eW,mc h]
def mF:Pr Unit:=fun s q=>if q=s.length then .ok ((),q) else .error 2
def pQ:Rec:=⟨0,0,⟨false,[]⟩,⟨false,[]⟩,[]⟩
def lv:Pr Rec:=(jE 1).bind fun z=>if z=0 then (iE 64).bind fun t=>(iE 32).bind fun o=>if o<0 then .err 11 else gm.bind fun k=>gm.bind fun v=>sV.bind fun h=>mF.bind fun _=> .ret ⟨t,o,k,v,h⟩ else .err 8
def mG (st9:I):Option (Rec×Int):=(eQ st9 1).bind fun (x12,st13)=>if x12=0 then ((fI st13).bind fun (x16,st17)=>(ib st17).bind fun (x19,st20)=>if x19<0 then ((bl st20 11).bind fun st24=>(bb st24).bind fun (x26,st27)=>(bb st27).bind fun (x29,st30)=>(aP st30).bind fun (x32,st35)=>(cI st35).bind fun (x37,st38)=>some ((⟨x16,x19,x26,x29,x32⟩:Rec),x37)) else ((bb st20).bind fun (x43,st44)=>(bb st44).bind fun (x46,st47)=>(aP st47).bind fun (x49,st52)=>(cI st52).bind fun (x54,st55)=>some ((⟨x16,x19,x43,x46,x49⟩:Rec),x54))) else ((bl st13 8).bind fun st60=>(fI st60).bind fun (x62,st63)=>(ib st63).bind fun (x65,st66)=>if x65<0 then ((bl st66 11).bind fun st70=>(bb st70).bind fun (x72,st73)=>(bb st73).bind fun (x75,st76)=>(aP st76).bind fun (x78,st81)=>(cI st81).bind fun (x83,st84)=>some ((⟨x62,x65,x72,x75,x78⟩:Rec),x83)) else ((bb st66).bind fun (x89,st90)=>(bb st90).bind fun (x92,st93)=>(aP st93).bind fun (x95,st98)=>(cI st98).bind fun (x100,st101)=>some ((⟨x62,x65,x89,x92,x95⟩:Rec),x100)))
theorem tZ (s:List UInt8) (hs:s.length≤1000000):(∃ e x,lv s 0= .error e∧mG ⟨s,0,0⟩=some (x,e)∧e≠0)∨(∃ x,lv s 0= .ok (x,s.length)∧mG ⟨s,0,0⟩=some (x,0)):=by
 unfold mG lv
 have r0:=Q1.run s 0 (yw _)
 rw[List.drop_zero] at r0
 have hB:=B_hds
 rcases r0 with⟨e,st,p0,g0,x0,y0⟩ | ⟨z,q0,p0,g0,n0,l0⟩
 ·refine .inl ⟨e,⟨0,0,⟨false,[]⟩,⟨false,[]⟩,[]⟩,Pr.bind_err p0,?_,by rw[← x0]; exact y0⟩
  rw[g0]
  simp only[xP,if_true,pP y0,lS y0,eY y0,hB.dead _ y0,dV y0,x0,show ¬ (0:Int)<0 by decide,if_false]
 rw[g0,xP]
 simp only
 by_cases hz:z=0
 ·rw[if_pos hz,Pr.bind_of p0,if_pos hz]
  rcases rV.run s q0 l0 with⟨e,st,p1,g1,x1,y1⟩ | ⟨a,q1,p1,g1,n1,l1⟩
  ·refine .inl ⟨e,⟨0,0,⟨false,[]⟩,⟨false,[]⟩,[]⟩,Pr.bind_err p1,?_,by rw[← x1]; exact y1⟩
   rw[g1]
   simp only[xP,if_true,lS y1,eY y1,hB.dead _ y1,dV y1,x1,show ¬ (0:Int)<0 by decide,if_false]
  rw[g1,xP,Pr.bind_of p1]
  simp only
  rcases rc.run s q1 l1 with⟨e,st,p2,g2,x2,y2⟩ | ⟨o,q2,p2,g2,n2,l2⟩
  ·refine .inl ⟨e,⟨a,0,⟨false,[]⟩,⟨false,[]⟩,[]⟩,Pr.bind_err p2,?_,by rw[← x2]; exact y2⟩
   rw[g2]
   simp only[xP,if_true,eY y2,hB.dead _ y2,dV y2,x2,show ¬ (0:Int)<0 by decide,if_false]
  rw[g2,xP,Pr.bind_of p2]
  simp only
  by_cases ho:o<0
  ·rw[if_pos ho,if_pos ho,dW,xP,rQ]
   have y:(⟨s.drop q2,q2,11⟩:I).err≠0:=by simp
   refine .inl ⟨11,⟨a,o,⟨false,[]⟩,⟨false,[]⟩,[]⟩,rfl,?_,by decide⟩
   simp only[xP,eY y,hB.dead _ y,dV y]
  rw[if_neg ho,if_neg ho]
  rcases QV.run s q2 l2 with⟨e,st,p3,g3,x3,y3⟩ | ⟨k,q3,p3,g3,n3,l3⟩
  ·refine .inl ⟨e,⟨a,o,⟨false,[]⟩,⟨false,[]⟩,[]⟩,Pr.bind_err p3,?_,by rw[← x3]; exact y3⟩
   rw[g3]
   simp only[xP,eY y3,hB.dead _ y3,dV y3,x3]
  rw[g3,xP,Pr.bind_of p3]
  simp only
  rcases QV.run s q3 l3 with⟨e,st,p4,g4,x4,y4⟩ | ⟨v,q4,p4,g4,n4,l4⟩
  ·refine .inl ⟨e,⟨a,o,k,⟨false,[]⟩,[]⟩,Pr.bind_err p4,?_,by rw[← x4]; exact y4⟩
   rw[g4]
   simp only[xP,hB.dead _ y4,dV y4,x4]
  rw[g4,xP,Pr.bind_of p4]
  simp only
  rcases hB.run s q4 hs l4 with⟨e,st,p5,g5,x5,y5⟩ | ⟨h,q5,p5,g5,n5,l5⟩
  ·refine .inl ⟨e,⟨a,o,k,v,[]⟩,Pr.bind_err p5,?_,by rw[← x5]; exact y5⟩
   rw[g5]
   simp only[xP,dV y5,x5]
  rw[g5,xP,Pr.bind_of p5]
  simp only
  rw[eW,xP]
  simp only
  by_cases hq:q5=s.length
  ·have he:mF s q5= .ok ((),q5):=by unfold mF; rw[if_pos hq]
   have hi:(du ⟨s.drop q5,q5,0⟩).err=0:=by rw[hq,List.drop_length]; rfl
   rw[Pr.bind_of he,hi]
   exact .inr ⟨⟨a,o,k,v,h⟩,by rw[hq]; rfl,rfl⟩
  ·have he:mF s q5= .error 2:=by unfold mF; rw[if_neg hq]
   have hi:(du ⟨s.drop q5,q5,0⟩).err=2:=by
    unfold du
    rw[if_neg]
    ·rfl
    ·intro h0
     have:=List.drop_eq_nil_iff.1 h0
     omega
   rw[Pr.bind_err he,hi]
   exact .inl ⟨2,_,rfl,rfl,by decide⟩
 ·rw[if_neg hz,Pr.bind_of p0,if_neg hz,dW,xP,rQ]
  have y:(⟨s.drop q0,q0,8⟩:I).err≠0:=by simp
  refine .inl ⟨8,⟨0,0,⟨false,[]⟩,⟨false,[]⟩,[]⟩,rfl,?_,by decide⟩
  simp only[xP,if_true,pP y,lS y,eY y,hB.dead _ y,dV y,show ¬ (0:Int)<0 by decide,if_false]
def sX:Pr Rec:=fun s q=>match nP s q with
 | .error e=> .error e
 | .ok (d,r)=>match lv d 0 with
  | .error e=> .error e
  | .ok (x,_)=> .ok (x,r)
theorem nT (st9 st6:I) (x:Rec) (e:Int) (h:mG st9=some (x,e)):((eQ st9 1).bind fun (x12,st13)=>if x12=0 then ((fI st13).bind fun (x16,st17)=>(ib st17).bind fun (x19,st20)=>if x19<0 then ((bl st20 11).bind fun st24=>(bb st24).bind fun (x26,st27)=>(bb st27).bind fun (x29,st30)=>(aP st30).bind fun (x32,st35)=>(cI st35).bind fun (x37,st38)=>if x37=0 then (some ((⟨x16,x19,x26,x29,x32⟩:Rec),st6)) else ((bl st6 x37).bind fun st41=>some (pQ,st41))) else ((bb st20).bind fun (x43,st44)=>(bb st44).bind fun (x46,st47)=>(aP st47).bind fun (x49,st52)=>(cI st52).bind fun (x54,st55)=>if x54=0 then (some ((⟨x16,x19,x43,x46,x49⟩:Rec),st6)) else ((bl st6 x54).bind fun st58=>some (pQ,st58)))) else ((bl st13 8).bind fun st60=>(fI st60).bind fun (x62,st63)=>(ib st63).bind fun (x65,st66)=>if x65<0 then ((bl st66 11).bind fun st70=>(bb st70).bind fun (x72,st73)=>(bb st73).bind fun (x75,st76)=>(aP st76).bind fun (x78,st81)=>(cI st81).bind fun (x83,st84)=>if x83=0 then (some ((⟨x62,x65,x72,x75,x78⟩:Rec),st6)) else ((bl st6 x83).bind fun st87=>some (pQ,st87))) else ((bb st66).bind fun (x89,st90)=>(bb st90).bind fun (x92,st93)=>(aP st93).bind fun (x95,st98)=>(cI st98).bind fun (x100,st101)=>if x100=0 then (some ((⟨x62,x65,x89,x92,x95⟩:Rec),st6)) else ((bl st6 x100).bind fun st104=>some (pQ,st104)))))=if e=0 then some (x,st6) else some (pQ,cA st6 e):=by
 unfold mG at h
 revert h
 have hop: ∀ (o:Option (List Hd×I)) (f:List Hd→Rec),((o.bind fun (a,s1)=>(cI s1).bind fun (b,s2)=>some (f a,b))=some (x,e))→(o.bind fun (a,s1)=>(cI s1).bind fun (b,s2)=>if b=0 then some (f a,st6) else (bl st6 b).bind fun s3=>some (pQ,s3))=if e=0 then some (x,st6) else some (pQ,cA st6 e):=by
  intro o f h
  cases o with
  | none=>exact nomatch h
  | some y =>
   rw[xP] at h ⊢
   simp only[eW,xP] at h ⊢
   injection h with h
   obtain⟨rfl,rfl⟩:=yy h
   by_cases hz:(du y.2).err=0
   ·rw[if_pos hz,if_pos hz]
   ·rw[if_neg hz,if_neg hz]
    rfl
 simp only[gf,sE,tv,qL,dW,xP]
 intro h
 split at h
 ·rename_i h1
  rw[if_pos h1]
  split at h
  ·rename_i h2
   rw[if_pos h2]
   exact hop _ (fun a=>⟨_,_,_,_,a⟩) h
  ·rename_i h2
   rw[if_neg h2]
   exact hop _ (fun a=>⟨_,_,_,_,a⟩) h
 ·rename_i h1
  rw[if_neg h1]
  split at h
  ·rename_i h2
   rw[if_pos h2]
   exact hop _ (fun a=>⟨_,_,_,_,a⟩) h
  ·rename_i h2
   rw[if_neg h2]
   exact hop _ (fun a=>⟨_,_,_,_,a⟩) h
theorem B_rec:CB dI sX pQ:=by
 refine⟨fun st h=> ?_,fun s q hs hq=> ?_⟩
 ·unfold dI
  rw[u4 h,xP]
  simp only
  rw[bX,xP]
  simp only
  rw[if_neg h]
  rfl
 ·unfold dI sX
  rcases QN.run s q hq with⟨e,st,p1,g1,x1,y1⟩ | ⟨d,r,p1,g1,n1,l1⟩
  ·refine .inl ⟨e,st,by rw[p1],?_,x1,y1⟩
   rw[g1,xP]
   simp only
   rw[bX,xP]
   simp only
   rw[if_neg y1]
   rfl
  ·have hsp:=iQ.spell _ _ _ _ hq p1
   have hdl:d.length≤1000000:=by
    have:=hsp.2.2.1
    rw[xR] at this
    omega
   rw[g1,p1,xP]
   simp only
   rw[bX,xP]
   simp only[if_true]
   rw[ge _ (by omega),xP]
   rcases tZ d hdl with⟨e,x,b1,b2,b3⟩ | ⟨x,b1,b2⟩
   ·have hb:=nT ⟨d,0,0⟩ ⟨s.drop r,r,0⟩ x e b2
    rw[if_neg b3] at hb
    rw[b1]
    exact .inl ⟨e,_,rfl,hb,rfl,b3⟩
   ·have hb:=nT ⟨d,0,0⟩ ⟨s.drop r,r,0⟩ x 0 b2
    rw[if_pos rfl] at hb
    rw[b1]
    exact .inr ⟨x,r,rfl,hb,n1,l1⟩
def fm (b:Bl):List UInt8:=aX (aB (cT b))++b.data
def iG (l:List Hd):List UInt8:=aX (aB (l.length:Int))++aN dj l
def bp (x:Rec):List UInt8:=be 0 1++(aX (aB x.xC)++(aX (aB x.xx)++(fm x.xu++(fm x.xn++iG x.xp))))
def okBl (b:Bl):Prop:=aB (cT b)<2 ^ (32:Int).toNat∧aY b=true
def okHs (l:List Hd):Prop:=aB (l.length:Int)<2 ^ (32:Int).toNat∧ ∀ h,h∈l→okHd h
def mH (x:Rec):Prop:=aB x.xC<2 ^ (64:Int).toNat∧(aB x.xx<2 ^ (32:Int).toNat∧0≤x.xx)∧okBl x.xu∧okBl x.xn∧okHs x.xp
theorem rg {s:List UInt8} {x:Rec} {r:Nat} (h:lv s 0= .ok (x,r)):s=bp x∧mH x:=by
 obtain⟨z,q0,h0,h⟩:=Pr.bind_ok h
 split at h
 ·rename_i hz
  subst hz
  obtain⟨t,q1,h1,h⟩:=Pr.bind_ok h
  obtain⟨o,q2,h2,h⟩:=Pr.bind_ok h
  split at h
  ·exact nomatch h
  ·rename_i ho
   obtain⟨k,q3,h3,h⟩:=Pr.bind_ok h
   obtain⟨v,q4,h4,h⟩:=Pr.bind_ok h
   obtain⟨hs,q5,h5,h⟩:=Pr.bind_ok h
   obtain⟨u,q6,h6,h⟩:=Pr.bind_ok h
   injection h with h
   obtain⟨rfl,rfl⟩:=yy h
   obtain⟨-,a2,-,a4,a5⟩:=(oN 1 (by decide) (by decide)).spell _ _ _ _ (yw _) h0
   obtain⟨-,b2,-,b4,b5⟩:=(e8 64 (.inr rfl)).spell _ _ _ _ a2 h1
   obtain⟨-,c2,-,c4,c5⟩:=(e8 32 (.inl rfl)).spell _ _ _ _ b2 h2
   obtain⟨-,d2,-,d4,d5⟩:=eB.spell _ _ _ _ c2 h3
   obtain⟨-,e2,-,e4,e5⟩:=eB.spell _ _ _ _ d2 h4
   obtain⟨-,f2,-,f4,f5⟩:=tY.spell _ _ _ _ e2 h5
   have hq:q5=s.length:=by
    unfold mF at h6
    split at h6
    ·rename_i hh; exact hh
    ·exact nomatch h6
   refine⟨?_,b5,⟨c5,by simp only; omega⟩,d5,e5,f5⟩
   have hs2:s=s.take q5:=by rw[hq,List.take_length]
   rw[hs2,f4,e4,d4,c4,b4,a4]
   simp only[bp,fm,iG,ya,List.take_zero,yk]
 ·exact nomatch h
theorem SpV:Sp gm fm okBl:=eB
theorem SpH:Sp sV iG okHs:=tY
theorem sY {x:Rec} (h:mH x):lv (bp x) 0= .ok (x,(bp x).length):=by
 obtain⟨h1,⟨h2,h3⟩,h4,h5,h6⟩:=h
 have hd:(bp x).drop 0=bp x:=rfl
 have hlen:(bp x).length=1+((aX (aB x.xC)).length+((aX (aB x.xx)).length+((fm x.xu).length+((fm x.xn).length+(iG x.xp).length)))):=by
  simp only[bp,xR,aE]
 generalize hE:bp x=E at hd hlen ⊢
 have hh:E.drop 0=be 0 1++(aX (aB x.xC)++(aX (aB x.xx)++(fm x.xu++(fm x.xn++(iG x.xp ++ []))))):=by
  rw[hd,← hE]
  simp only[bp,yp]
 have g0:=(oN 1 (by decide) (by decide)).back _ _ _ 0 (yw _) (by decide) hh
 have hh:=cQ hh
 rw[aE] at hh g0
 have g1:=(e8 64 (.inr rfl)).back _ _ _ _ (by omega) h1 hh
 have hh:=cQ hh
 have g2:=(e8 32 (.inl rfl)).back _ _ _ _ (by omega) h2 hh
 have hh:=cQ hh
 have g3:=SpV.back _ _ _ _ (by omega) h4 hh
 have hh:=cQ hh
 have g4:=SpV.back _ _ _ _ (by omega) h5 hh
 have hh:=cQ hh
 have g5:=SpH.back _ _ _ _ (by omega) h6 hh
 rw[lv,Pr.bind_of g0,if_pos rfl,Pr.bind_of g1,Pr.bind_of g2,if_neg (by omega),Pr.bind_of g3,Pr.bind_of g4,Pr.bind_of g5]
 have he:0+1+(aX (aB x.xC)).length+(aX (aB x.xx)).length+(fm x.xu).length+(fm x.xn).length+(iG x.xp).length=E.length:=by omega
 rw[he,Pr.bind_of (a:=()) (r:=E.length) (by unfold mF; rw[if_pos rfl])]
 rfl
def bK (x:Rec):List UInt8:=aX (aB ((bp x).length:Int))++bp x
theorem rh:Sp sX bK (fun x=>mH x∧aB ((bp x).length:Int)<2 ^ (32:Int).toNat):=by
 refine⟨fun s q a r hq h=> ?_,fun s t q a hq ha h=> ?_⟩
 ·unfold sX at h
  cases hp:nP s q with
  | error e=>rw[hp] at h; exact nomatch h
  | ok y =>
   obtain⟨d,r'⟩:=y
   rw[hp] at h
   simp only at h
   obtain⟨a1,a2,a3,a4,a5⟩:=iQ.spell _ _ _ _ hq hp
   cases hb:lv d 0 with
   | error e=>rw[hb] at h; exact nomatch h
   | ok z =>
    rw[hb] at h
    injection h with h
    obtain⟨rfl,rfl⟩:=yy h
    obtain⟨b1,b2⟩:=rg (x:=z.1) (r:=z.2) hb
    unfold bK
    rw[← b1]
    exact⟨a1,a2,a3,a4,b2,a5.1⟩
 ·have g1:=iQ.back s t q (bp a) hq ⟨ha.2,rfl⟩ h
  unfold sX
  rw[g1]
  simp only
  rw[sY ha.1]
  rfl
def rwt (x:Rec):Nat:=x.xu.data.length+x.xn.data.length+fB x.xp
theorem iR (b:Bl) (h:b.data.length≤1000000):(fm b).length≤10+b.data.length:=by
 have hb:=fU b (by omega)
 have:=eN (cT b) hb.1 hb.2
 rw[fm,xR]
 omega
theorem nU (l:List Hd) (h:fB l≤1000000):(iG l).length≤10+fB l:=by
 have hn:=iF l
 have h1:=eN (l.length:Int) (by omega) (by omega)
 have h2:=mE l h
 rw[iG,xR]
 omega
theorem iH (x:Rec) (ht:wI x.xC) (ho:wI x.xx) (hw:rwt x≤900000):(bp x).length≤51+rwt x:=by
 unfold rwt at hw ⊢
 have h1:=dD _ (cH x.xC ht.1 ht.2)
 have h2:=dD _ (cH x.xx ho.1 ho.2)
 have h3:=iR x.xu (by omega)
 have h4:=iR x.xn (by omega)
 have h5:=nU x.xp (by omega)
 simp only[bp,xR,aE]
 omega
theorem ri {x:Rec} (h:dQ x=0):(0≤x.xx∧x.xx≤2147483647)∧aY x.xu=true∧aY x.xn=true∧ ∀ h,h∈x.xp→aY h.xn=true:=by
 unfold dQ at h
 split at h
 ·exact absurd h (by decide)
 ·rename_i h1
  split at h
  ·rename_i h2
   simp only[Bool.and_eq_true] at h2
   exact⟨by omega,h2.1.1,h2.1.2,fun y hy=>List.all_eq_true.1 h2.2 y hy⟩
  ·exact absurd h (by decide)
theorem sZ (x:Rec) (ht:wI x.xC) (ho:wI x.xx) (hw:rwt x≤900000):fg x=some (bK x):=by
 have hb:=iH x ht ho hw
 unfold rwt at hw hb
 have h1:=dD _ (cH x.xC ht.1 ht.2)
 have h2:=dD _ (cH x.xx ho.1 ho.2)
 have h3:=iR x.xu (by omega)
 have h4:=iR x.xn (by omega)
 have h5:=nU x.xp (by omega)
 have hz:eG [0]=be 0 1:=by decide
 have e:(((((be 0 1++aX (aB x.xC))++aX (aB x.xx))++fm x.xu)++fm x.xn)++iG x.xp)=bp x:=by simp only[bp,ya]
 unfold fg
 rw[hz,lT _ ht,xP,if_pos (by simp only[aE]; omega),lT _ ho,xP,if_pos (by simp only[xR,aE]; omega),fA _ (by omega),xP]
 rw[show aX (aB (cT x.xu))++x.xu.data=fm x.xu from rfl,if_pos (by simp only[xR,aE]; omega),fA _ (by omega),xP,show aX (aB (cT x.xn))++x.xn.data=fm x.xn from rfl,if_pos (by simp only[xR,aE]; omega),sW _ (by omega),xP]
 rw[show aX (aB (x.xp.length:Int))++aN dj x.xp=iG x.xp from rfl,e,if_pos (by simp only[xR,aE]; omega),lT _ (by omega),xP]
 have h6:=dD _ (cH ((bp x).length:Int) (by omega) (by omega))
 rw[if_pos (by omega)]
 rfl
def t4 (a b:Hd):Bool:=decide (a.xu=b.xu) && decide (a.xn.null=b.xn.null) && decide (a.xn.data=b.xn.data)
def fv:List Hd→List Hd→Bool
 | [],[]=>true
 | a::l,b::m=>t4 a b && fv l m
 | _,_=>false
theorem lx: ∀ l:List Hd,fv l l=true
 | []=>rfl
 | a::l=>by rw[fv,lx l]; simp[t4]
theorem mI: ∀ (l m:List Hd),fv l m=true→l.length=m.length
 | [],[],h=>rfl
 | [],b::m,h=>nomatch h
 | a::l,[],h=>nomatch h
 | a::l,b::m,h=>by
  rw[fv,Bool.and_eq_true] at h
  rw[yd,yd,mI l m h.2]
theorem nV (a b:List Hd) (ha:a.length≤1000000) (y:Bool): ∀ (t u:List Hd) (k fuel:Nat),a.drop k=t→b.drop k=u→t.length=u.length→t.length<fuel→ ∃ z,cB a b fuel y k=some (if fv t u=true then .go (y,z) else .ret false)
 | [],[],k,fuel+1,ht,hu,hl,hf=>by
  have:=dP ht
  exact⟨k,by rw[cB,if_neg (by omega)]; rfl⟩
 | [],d::u,k,fuel,ht,hu,hl,hf=>by simp at hl
 | c::t,[],k,fuel,ht,hu,hl,hf=>by simp at hl
 | c::t,d::u,k,fuel+1,ht,hu,hl,hf=>by
  obtain⟨t1,t2,t3⟩:=dn ht
  obtain⟨u1,u2,u3⟩:=dn hu
  simp only[yd] at hl hf
  obtain⟨z,hz⟩:=nV a b ha y t u (k+1) fuel t2 u2 (by omega) (by omega)
  rw[cB,if_pos (by omega),t1,xP,u1,xP,fv,t4]
  by_cases h1:c.xu=d.xu
  ·rw[if_pos h1,xM h1]
   by_cases h2:c.xn.null=d.xn.null
   ·rw[if_pos h2,xM h2]
    by_cases h3:c.xn.data=d.xn.data
    ·rw[if_pos h3,xM h3,if_pos (by omega)]
     exact⟨z,hz⟩
    ·rw[if_neg h3,xN h3]
     exact⟨0,rfl⟩
   ·rw[if_neg h2,xN h2]
    exact⟨0,rfl⟩
  ·rw[if_neg h1,xN h1]
   exact⟨0,rfl⟩
theorem t5 (a b:List Hd) (ha:a.length≤1000000):fM a b=some (fv a b):=by
 unfold fM
 by_cases hl:(a.length:Int)=(b.length:Int)
 ·obtain⟨z,hz⟩:=nV a b ha false a b 0 (((a.length:Int)).toNat+1) rfl rfl (by omega) (by omega)
  rw[if_pos hl,hz]
  cases fv a b <;> rfl
 ·rw[if_neg hl]
  have:fv a b=false:=by
   cases h:fv a b with
   | false=>rfl
   | true=>exact absurd (congrArg Int.ofNat (mI a b h)) hl
  rw[this]
def nW (a b:Rec):Bool:=decide (a.xC=b.xC) && decide (a.xx=b.xx) && decide (a.xu.null=b.xu.null) && decide (a.xu.data=b.xu.data) && decide (a.xn.null=b.xn.null) && decide (a.xn.data=b.xn.data) && fv a.xp b.xp
theorem rk (a:Rec):nW a a=true:=by simp[nW,lx]
theorem t6 (a b:Rec) (ha:a.xp.length≤1000000):fN a b=some (nW a b):=by
 unfold fN nW
 rw[t5 _ _ ha]
 by_cases h1:a.xC=b.xC <;> by_cases h2:a.xx=b.xx <;> by_cases h3:a.xu.null=b.xu.null <;> by_cases h4:a.xu.data=b.xu.data <;> by_cases h5:a.xn.null=b.xn.null <;> by_cases h6:a.xn.data=b.xn.data <;> simp[h1,h2,h3,h4,h5,h6]
theorem t7 {x:Rec} (ht:wI x.xC) (hr:dQ x=0) (hw:rwt x≤900000):mH x∧aB ((bp x).length:Int)<2 ^ (32:Int).toNat:=by
 obtain⟨h1,h2,h3,h4⟩:=ri hr
 have hb:=iH x ht ⟨by omega,by omega⟩ hw
 unfold rwt at hw hb
 have hn:=iF x.xp
 have bk:=fU x.xu (by omega)
 have bv:=fU x.xn (by omega)
 refine⟨⟨?_,⟨fT _ (by omega) h1.2,h1.1⟩,⟨fT _ bk.1 bk.2,h2⟩,⟨fT _ bv.1 bv.2,h3⟩,fT _ (by omega) (by omega),fun h hh=> ?_⟩,fT _ (by omega) (by omega)⟩
 ·rw[show 2 ^ (64:Int).toNat=18446744073709551616 by decide]
  exact cH _ ht.1 ht.2
 ·have hm:=pO _ _ hh
  unfold hwt at hm
  have b:=fU h.xn (by omega)
  exact⟨fT _ (by omega) (by omega),fT _ b.1 b.2,h4 h hh⟩
theorem rl (x:Rec) (ht:wI x.xC) (ho:wI x.xx) (hw:rwt x≤900000):(bK x).length≤61+rwt x:=by
 have hb:=iH x ht ho hw
 have h6:=dD _ (cH ((bp x).length:Int) (by omega) (by omega))
 rw[bK,xR]
 omega
theorem pR {x:Rec} (h:mH x):dQ x=0∧wI x.xC∧wI x.xx:=by
 obtain⟨h1,⟨h2,h3⟩,h4,h5,h6⟩:=h
 rw[show 2 ^ (64:Int).toNat=18446744073709551616 by decide] at h1
 rw[show 2 ^ (32:Int).toNat=4294967296 by decide] at h2
 have ho:x.xx≤2147483647:=by unfold aB at h2; split at h2 <;> omega
 refine⟨?_,?_,⟨by omega,by omega⟩⟩
 ·unfold dQ
  have hb:iz x.xp=true:=List.all_eq_true.2 fun y hy=>(h6.2 y hy).2.2
  rw[if_neg (by omega),h4.2,h5.2,hb]
  rfl
 ·unfold aB at h1
  constructor <;> (split at h1 <;> omega)
def lL:Nat:=2197175160
def ie (x:Nat):Nat:=x / 2 ^^^ (if x % 2=1 then lL else 0)
def fo:Nat→Nat→Nat
 | 0,x=>x
 | k+1,x=>fo k (ie x)
theorem oP (x y:Nat):(x ^^^ y) % 2=(x % 2+y % 2) % 2:=by
 have h:=Nat.xor_mod_two_pow (a:=x) (b:=y) (n:=1)
 rw[Nat.pow_one] at h
 rw[h]
 rcases Nat.mod_two_eq_zero_or_one x with hx | hx <;> rcases Nat.mod_two_eq_zero_or_one y with hy | hy <;> rw[hx,hy] <;> rfl
theorem oQ (x y:Nat):(x ^^^ y) / 2=(x / 2) ^^^ (y / 2):=Nat.xor_div_two
theorem t8 (x y:Nat):ie (x ^^^ y)=ie x ^^^ ie y:=by
 unfold ie
 rw[oQ,oP]
 rcases Nat.mod_two_eq_zero_or_one x with hx | hx <;> rcases Nat.mod_two_eq_zero_or_one y with hy | hy <;> simp[hx,hy]
 ·rw[Nat.xor_assoc]
 ·ac_rfl
 ·rw[show x / 2 ^^^ lL ^^^ (y / 2 ^^^ lL)=x / 2 ^^^ y / 2 ^^^ (lL ^^^ lL) by ac_rfl,Nat.xor_self,Nat.xor_zero]
theorem mJ: ∀ (k x y:Nat),fo k (x ^^^ y)=fo k x ^^^ fo k y
 | 0,_,_=>rfl
 | k+1,x,y=>by show fo k _= _; rw[t8,mJ k]; rfl
theorem pS: ∀ (j k x:Nat),fo (j+k) x=fo k (fo j x)
 | 0,k,x=>by rw[Nat.zero_add]; rfl
 | j+1,k,x=>by rw[show j+1+k=(j+k)+1 by omega]; exact pS j k (ie x)
theorem s4 (x:Nat):ie (2*x)=x:=by
 unfold ie; rw[if_neg (by omega),Nat.xor_zero]; omega
theorem jH: ∀ (k x:Nat),fo k (2 ^ k*x)=x
 | 0,x=>by rw[Nat.pow_zero,Nat.one_mul]; rfl
 | k+1,x=>by
  show fo k (ie _)=x
  rw[show 2 ^ (k+1)*x=2*(2 ^ k*x) by rw[Nat.pow_succ,Nat.mul_comm (2 ^ k) 2,Nat.mul_assoc],s4]
  exact jH k x
theorem rW {x:Nat} (h:x<2 ^ 32):ie x<2 ^ 32:=by
 unfold ie
 exact Nat.xor_lt_two_pow (by omega) (by split <;> decide)
theorem lU: ∀ (k:Nat) {x:Nat},x<2 ^ 32→fo k x<2 ^ 32
 | 0,_,h=>h
 | k+1,_,h=>lU k (rW h)
theorem s5 (x b:Nat) (hb:b<256):fo 8 (x ^^^ b)=fo 8 ((x % 256) ^^^ b) ^^^ (x / 256):=by
 have h:x=(x % 256) ^^^ (2 ^ 8*(x / 256)):=by
  apply Nat.eq_of_testBit_eq
  intro i
  rw[Nat.testBit_xor,show (256:Nat)=2 ^ 8 from rfl,Nat.testBit_mod_two_pow,Nat.testBit_two_pow_mul,Nat.testBit_div_two_pow]
  by_cases hi:i<8
  ·simp[hi,show ¬ 8≤i by omega]
  ·simp[hi,show 8≤i by omega]
 conv=>lhs; rw[h]
 rw[show x % 256 ^^^ 2 ^ 8*(x / 256) ^^^ b=(x % 256 ^^^ b) ^^^ (2 ^ 8*(x / 256)) by ac_rfl,mJ,jH]
def leN:List UInt8→Nat
 | []=>0
 | c::l=>c.toNat+256*leN l
def kW:Nat→List UInt8→Nat
 | x,[]=>x
 | x,c::l=>kW (fo 8 (x ^^^ c.toNat)) l
theorem t9: ∀ l,leN l<2 ^ (8*l.length)
 | []=>by decide
 | c::l=>by
  have:=t9 l
  have hc:=c.toNat_lt
  show c.toNat+256*leN l<2 ^ (8*(l.length+1))
  rw[show 8*(l.length+1)=8+8*l.length by omega,Nat.pow_add]
  omega
theorem pT {b:Nat} (hb:b<256) (y:Nat):b+256*y=b ^^^ (2 ^ 8*y):=by
 apply Nat.eq_of_testBit_eq
 intro i
 rw[show b+256*y=2 ^ 8*y+b by omega,Nat.testBit_two_pow_mul_add _ (show b<2 ^ 8 by omega),Nat.testBit_xor,Nat.testBit_two_pow_mul]
 by_cases hi:i<8
 ·simp[hi,show ¬ 8≤i by omega]
 ·have:b.testBit i=false:=Nat.testBit_lt_two_pow (Nat.lt_of_lt_of_le hb (show 2 ^ 8≤2 ^ i from Nat.pow_le_pow_right (by decide) (by omega)))
  simp[hi,show 8≤i by omega,this]
theorem rX: ∀ (l:List UInt8) (x:Nat),kW x l=fo (8*l.length) (x ^^^ leN l)
 | [],x=>by show x=fo 0 (x ^^^ 0); rw[Nat.xor_zero]; rfl
 | c::l,x=>by
  show kW _ l= _
  rw[rX l,show 8*(c::l).length=8+8*l.length by simp[Nat.mul_add]; omega,pS]
  show _=fo _ (fo 8 (x ^^^ (c.toNat+256*leN l)))
  rw[pT c.toNat_lt,show x ^^^ (c.toNat ^^^ 2 ^ 8*leN l)=(x ^^^ c.toNat) ^^^ (2 ^ 8*leN l) by ac_rfl,mJ 8 (x ^^^ c.toNat),jH]
theorem ly: ∀ (l m:List UInt8) (x:Nat),kW x (l++m)=kW (kW x l) m
 | [],_,_=>rfl
 | c::l,m,x=>ly l m _
theorem lV: ∀ (l:List UInt8) {x:Nat},x<2 ^ 32→kW x l<2 ^ 32
 | [],_,h=>h
 | c::l,_,h=>lV l (lU 8 (Nat.xor_lt_two_pow h (Nat.lt_trans c.toNat_lt (by decide))))
theorem iS (a:Nat) (h:a<4294967296):(BitVec.ofInt IntKind.u32.bits (a:Int)).toNat=a:=by
 show (BitVec.ofInt 32 (a:Int)).toNat=a
 rw[BitVec.ofInt_natCast,BitVec.toNat_ofNat,Nat.mod_eq_of_lt (by omega)]
theorem pU (a:Nat) (h:a<256):(BitVec.ofInt IntKind.u8.bits (a:Int)).toNat=a:=by
 show (BitVec.ofInt 8 (a:Int)).toNat=a
 rw[BitVec.ofInt_natCast,BitVec.toNat_ofNat,Nat.mod_eq_of_lt (by omega)]
theorem wrap_u32 (a:Nat):IntKind.u32.wrap (a:Int)=((a % 4294967296:Nat):Int):=by
 rw[IntKind.wrap_u32]; omega
theorem wrap_u8 (a:Nat):IntKind.u8.wrap (a:Int)=((a % 256:Nat):Int):=by
 rw[IntKind.wrap_u8]; omega
theorem lW (a b:Nat) (ha:a<4294967296) (hb:b<4294967296):Go.bits .xor .u32 (a:Int) (b:Int)=((a ^^^ b:Nat):Int):=by
 show IntKind.u32.wrap (((BitVec.ofInt IntKind.u32.bits (a:Int)) ^^^ (BitVec.ofInt IntKind.u32.bits (b:Int))).toNat:Int)= _
 rw[BitVec.toNat_xor,iS a ha,iS b hb,wrap_u32,Nat.mod_eq_of_lt (Nat.xor_lt_two_pow (n:=32) ha hb)]
theorem xor_u8 (a b:Nat) (ha:a<256) (hb:b<256):Go.bits .xor .u8 (a:Int) (b:Int)=((a ^^^ b:Nat):Int):=by
 show IntKind.u8.wrap (((BitVec.ofInt IntKind.u8.bits (a:Int)) ^^^ (BitVec.ofInt IntKind.u8.bits (b:Int))).toNat:Int)= _
 rw[BitVec.toNat_xor,pU a ha,pU b hb,wrap_u8,Nat.mod_eq_of_lt (Nat.xor_lt_two_pow (n:=8) ha hb)]
theorem ua (a:Nat) (ha:a<4294967296):Go.bits .and .u32 (a:Int) 1=((a % 2:Nat):Int):=by
 show IntKind.u32.wrap (((BitVec.ofInt IntKind.u32.bits (a:Int)) &&& (BitVec.ofInt IntKind.u32.bits ((1:Nat):Int))).toNat:Int)= _
 rw[BitVec.toNat_and,iS a ha,iS 1 (by decide),wrap_u32,Nat.and_one_is_mod,Nat.mod_eq_of_lt (by omega)]
theorem ub (a:Nat):m6 .u32 (a:Int) 1=((a / 2:Nat):Int):=by
 show Int.fdiv (a:Int) 2= _
 rw[Int.fdiv_eq_ediv_of_nonneg _ (by decide)]
 omega
theorem uc (a:Nat):m6 .u32 (a:Int) 8=((a / 256:Nat):Int):=by
 show Int.fdiv (a:Int) 256= _
 rw[Int.fdiv_eq_ediv_of_nonneg _ (by decide)]
 omega
theorem ud (y:Nat) (hy:y<4294967296):(if Go.bits .and .u32 (y:Int) 1=1 then some (Go.bits .xor .u32 (m6 .u32 (y:Int) 1) 2197175160) else some (m6 .u32 (y:Int) 1))=some ((ie y:Nat):Int):=by
 rw[ua y hy,ub,show (2197175160:Int)=((2197175160:Nat):Int) from rfl,lW _ _ (by omega) (by decide)]
 unfold ie
 by_cases h:y % 2=1
 ·rw[if_pos (by omega),if_pos h]; rfl
 ·rw[if_neg (by omega),if_neg h,Nat.xor_zero]
theorem ue: ∀ (m y k:Nat),y<4294967296→k≤8→8 - k<m→cW m (y:Int) k=some (((fo (8 - k) y:Nat):Int),8)
 | 0,_,_,_,_,h=>by omega
 | m+1,y,k,hy,hk,hm=>by
  rw[cW]
  by_cases h:k<8
  ·rw[if_pos (by omega),ud y hy,xP,if_pos (by omega),ue m (ie y) (k+1) (rW hy) (by omega) (by omega),show 8 - k=(8 - (k+1))+1 by omega]
   rfl
  ·rw[if_neg (by omega),show 8 - k=0 by omega,show k=8 by omega]
   rfl
def eZ:List Int:=(List.range 256).map (fun j=>((fo 8 j:Nat):Int))
theorem mK (j:Nat) (hj:j<256):eZ[j]? = some ((fo 8 j:Nat):Int):=by
 unfold eZ
 rw[List.getElem?_map,List.getElem?_range hj]
 rfl
theorem uf: ∀ (m k:Nat) (l:List Int),l.length=256→k≤256→256 - k<m→(∀ j,j<k→l[j]? = some ((fo 8 j:Nat):Int))→dw m k l=some (256,eZ)
 | 0,_,_,_,_,h,_=>by omega
 | m+1,k,l,hl,hk,hm,hj=>by
  rw[dw]
  by_cases h:k<256
  ·have e1:IntKind.u32.wrap (k:Int)=((k:Nat):Int):=by rw[wrap_u32,Nat.mod_eq_of_lt (by omega)]
   have e2:cW ((8:Int).toNat+1) (IntKind.u32.wrap (k:Int)) 0=some (((fo 8 k:Nat):Int),8):=by
    rw[e1]
    exact ue 9 k 0 (by omega) (by omega) (by omega)
   have e3:l[k]? = some (l[k]'(by omega)):=List.getElem?_eq_getElem (by omega)
   rw[if_pos (by omega),e2,xP]
   dsimp only
   rw[e3,xP,xP,if_pos (by omega)]
   refine uf m (k+1) _ (by rw[List.length_set]; exact hl) (by omega) (by omega) (fun j hjk=> ?_)
   rw[List.getElem?_set]
   by_cases e:k=j
   ·rw[if_pos e,if_pos (by omega),e]
   ·rw[if_neg e]
    exact hj j (by omega)
  ·rw[if_neg (by omega),show k=256 by omega]
   congr 2
   apply List.ext_getElem?
   intro j
   by_cases hj2:j<256
   ·rw[mK j hj2]
    exact hj j (by omega)
   ·rw[List.getElem?_eq_none (by omega),List.getElem?_eq_none (by unfold eZ; simp; omega)]
theorem vb:fG=some eZ:=by
 unfold fG
 rw[show (256:Int).toNat+1=257 from rfl,uf 257 0 _ (List.length_replicate ..) (by omega) (by omega) (fun j hj=>absurd hj (by omega)),xP]
theorem rY (s:List UInt8) (hs:s.length≤9223372036854775806): ∀ (m y k:Nat),y<4294967296→k≤s.length→s.length - k<m→bH s m (y:Int) k eZ=some (((kW y (s.drop k):Nat):Int),s.length,eZ)
 | 0,_,_,_,_,h=>by omega
 | m+1,y,k,hy,hk,hm=>by
  rw[bH]
  by_cases h:k<s.length
  ·have e1:s[k]? = some s[k]:=List.getElem?_eq_getElem h
   have hc:=s[k].toNat_lt
   have hx:y % 256 ^^^ s[k].toNat<256:=Nat.xor_lt_two_pow (n:=8) (by omega) hc
   have e2:Go.bits .xor .u8 (IntKind.u8.wrap (y:Int)) (s[k].toNat:Int)=((y % 256 ^^^ s[k].toNat:Nat):Int):=by
    rw[wrap_u8,xor_u8 _ _ (by omega) (by omega)]
   have e3:fo 8 (y % 256 ^^^ s[k].toNat)<2 ^ 32:=lU 8 (by omega)
   rw[if_pos (by omega),e1,xP,e2,if_pos (by omega),yA,mK _ hx,xP,if_pos (by omega),uc,lW _ _ (by omega) (by omega),← s5 y _ (by omega),
    rY s hs m _ (k+1) (lU 8 (Nat.xor_lt_two_pow (n:=32) hy (by omega))) (by omega) (by omega)]
   rw[cm e1]
   rfl
  ·rw[if_neg (by omega),show k=s.length by omega,List.drop_length]
   rfl
def ig (x:Nat) (s:List UInt8):Nat:=4294967295 ^^^ kW (4294967295 ^^^ x) s
theorem oR {x:Nat} (hx:x<4294967296) (s:List UInt8):ig x s<4294967296:=Nat.xor_lt_two_pow (n:=32) (by decide) (lV s (Nat.xor_lt_two_pow (n:=32) (by decide) hx))
theorem ones2 (x:Nat):4294967295 ^^^ (4294967295 ^^^ x)=x:=by rw[← Nat.xor_assoc,Nat.xor_self,Nat.zero_xor]
theorem pV (x:Nat) (s t:List UInt8):ig x (s++t)=ig (ig x s) t:=by
 unfold ig
 rw[ly,ones2]
theorem ug (x:Nat):ig x []=x:=ones2 x
theorem uh (x:Nat) (hx:x<4294967296) (s:List UInt8) (hs:s.length≤9223372036854775806):dE eZ (x:Int) s=some (((ig x s:Nat):Int),eZ):=by
 unfold dE
 have h1:(4294967295 ^^^ x:Nat)<4294967296:=Nat.xor_lt_two_pow (n:=32) (by decide) hx
 rw[show (4294967295:Int)=((4294967295:Nat):Int) from rfl,lW _ _ (by decide) hx,yA,rY s hs _ _ 0 h1 (by omega) (by omega),xP,List.drop_zero]
 dsimp only
 rw[lW _ _ (by decide) (lV s h1)]
 rfl
theorem ui: ∀ (l:List (List UInt8)) (x:Nat),x<4294967296→(∀ s,s∈l→s.length≤9223372036854775806)→bw l (x:Int) eZ=some (((ig x l.flatten:Nat):Int),eZ)
 | [],x,_,_=>by rw[bw,List.flatten_nil,ug]
 | s::l,x,hx,hs=>by
  rw[bw,uh x hx s (hs s (List.mem_cons_self ..)),xP]
  dsimp only
  rw[ui l _ (oR hx s) (fun t ht=>hs t (List.mem_cons_of_mem _ ht)),List.flatten_cons,pV]
theorem vc (l:List (List UInt8)) (hs: ∀ s,s∈l→s.length≤9223372036854775806):dp eZ l=some (((ig 0 l.flatten:Nat):Int),eZ):=by
 unfold dp
 have h:=ui l 0 (by decide) hs
 rw[show ((0:Nat):Int)=0 from rfl] at h
 rw[h,xP]
def bI (x j:Nat):Int:=if x.testBit j then 1 else 0
theorem rm (x j:Nat):bI x j=((x / 2 ^ j % 2:Nat):Int):=by
 unfold bI
 rw[Nat.testBit_eq_decide_div_mod_eq]
 rcases Nat.mod_two_eq_zero_or_one (x / 2 ^ j) with h | h <;> rw[h] <;> rfl
theorem nX (x j:Nat):bI x j=0∨bI x j=1:=by
 unfold bI
 by_cases h:x.testBit j=true
 ·rw[if_pos h]; exact .inr rfl
 ·rw[if_neg h]; exact .inl rfl
theorem mL (x y j:Nat):bI (x ^^^ y) j=(bI x j+bI y j) % 2:=by
 unfold bI
 rw[Nat.testBit_xor]
 cases x.testBit j <;> cases y.testBit j <;> rfl
theorem oT (x j:Nat):bI (x / 2) j=bI x (j+1):=by
 unfold bI
 rw[Nat.testBit_succ]
theorem pW: ∀ (s:List UInt8) (k:Nat) (c:UInt8),s[k]? = some c→ ∀ j,j<8→(leN s).testBit (8*k+j)=c.toNat.testBit j
 | [],k,c,h,j,hj=>by simp at h
 | a::s,0,c,h,j,hj=>by
  obtain rfl:a=c:=by simpa using h
  show (a.toNat+256*leN s).testBit (8*0+j)= _
  rw[show a.toNat+256*leN s=2 ^ 8*leN s+a.toNat by omega,Nat.testBit_two_pow_mul_add _ (show a.toNat<2 ^ 8 from a.toNat_lt),if_pos (by omega),Nat.mul_zero,Nat.zero_add]
 | a::s,k+1,c,h,j,hj=>by
  show (a.toNat+256*leN s).testBit _= _
  rw[show a.toNat+256*leN s=2 ^ 8*leN s+a.toNat by omega,Nat.testBit_two_pow_mul_add _ (show a.toNat<2 ^ 8 from a.toNat_lt),if_neg (by omega),show 8*(k+1)+j - 8=8*k+j by omega]
  exact pW s k c (by simpa using h) j hj
theorem uj (a:Int) (ha:0≤a) (hb:a≤9223372036854775807): ∀ (m y k:Nat),y<256→k≤(a % 8).toNat→(a % 8).toNat - k<m→dx a m (y:Int) k=some (((y / 2 ^ ((a % 8).toNat - k):Nat):Int),(a % 8).toNat)
 | 0,_,_,_,_,h=>by omega
 | m+1,y,k,hy,hk,hm=>by
  rw[dx,if_pos ⟨ha,hb⟩]
  by_cases h:k<(a % 8).toNat
  ·rw[if_pos (by omega),if_pos (by omega),if_pos (by omega),show ((y:Int) / 2)=((y / 2:Nat):Int) by omega,uj a ha hb m (y / 2) (k+1) (by omega) (by omega) (by omega),Nat.div_div_eq_div_mul,
    show (a % 8).toNat - k=((a % 8).toNat - (k+1))+1 by omega,Nat.pow_succ,Nat.mul_comm 2]
  ·rw[if_neg (by omega),show (a % 8).toNat - k=0 by omega,Nat.pow_zero,Nat.div_one,show k=(a % 8).toNat by omega]
theorem vd (s:List UInt8) (i:Nat) (hi:i<8*s.length) (hb:i≤9223372036854775807):gH s (i:Int)=some (bI (leN s) i):=by
 unfold gH
 have hk:i / 8<s.length:=by omega
 have e1:s[i / 8]? = some s[i / 8]:=List.getElem?_eq_getElem hk
 have hc:=s[i / 8].toNat_lt
 have e2:=uj (i:Int) (by omega) (by omega) (((i:Int) % 8).toNat+1) s[i / 8].toNat 0 (by omega) (by omega) (by omega)
 have e3:((i:Int) % 8).toNat=i % 8:=by omega
 rw[if_pos (by omega),if_pos (by omega),show ((i:Int) / 8).toNat=i / 8 by omega,e1,xP,if_pos (by omega),e2,xP,e3,Nat.sub_zero]
 dsimp only
 have h4:s[i / 8].toNat / 2 ^ (i % 8)≤s[i / 8].toNat:=Nat.div_le_self _ _
 suffices h6:bI (leN s) i=((s[i / 8].toNat / 2 ^ (i % 8) % 2:Nat):Int) by
  rw[h6]
  generalize s[i / 8].toNat / 2 ^ (i % 8)=q at h4 ⊢
  rw[if_pos (by omega)]
  congr 1
 have h5:=pW s (i / 8) _ e1 (i % 8) (by omega)
 rw[show 8*(i / 8)+i % 8=i by omega] at h5
 unfold bI
 rw[h5]
 exact rm _ _
theorem s6: ∀ i:Nat,i<32→fj (31 - (i:Int))=some (bI lL i):=by decide +kernel
def Bts (L k:Nat) (l:List Int) (x:Nat):Prop:=l.length=L∧ ∀ j,k+j<L→l[k+j]? = some (bI x j)
theorem uk (s:List UInt8) (hs:s.length≤1000000): ∀ (m k:Nat) (l:List Int),l.length=8*s.length+32→k≤8*s.length→8*s.length - k<m→(∀ j,j<k→l[j]? = some (bI (leN s) j))→(∀ j,k≤j→j<8*s.length+32→l[j]? = some 0) →
 ∃ l',dA s m l k=some (l',8*s.length)∧Bts (8*s.length+32) 0 l' (leN s)
 | 0,_,_,_,_,h,_,_=>by omega
 | m+1,k,l,hl,hk,hm,h1,h2=>by
  rw[dA]
  by_cases h:k<8*s.length
  ·rw[if_pos (by omega),vd s k h (by omega),xP,h2 k (yn _) (by omega),xP,if_pos (by omega)]
   refine uk s hs m (k+1) _ (by rw[List.length_set]; exact hl) (by omega) (by omega) (fun j hj=> ?_) (fun j hj hj2=> ?_)
   ·rw[List.getElem?_set]
    by_cases e:k=j
    ·rw[if_pos e,if_pos (by omega),e]
    ·rw[if_neg e]; exact h1 j (by omega)
   ·rw[List.getElem?_set,if_neg (by omega)]
    exact h2 j (by omega) hj2
  ·have hk2:k=8*s.length:=by omega
   rw[if_neg (by omega),hk2]
   refine⟨l,rfl,hl,fun j hj=> ?_⟩
   rw[Nat.zero_add] at hj ⊢
   by_cases e:j<k
   ·exact h1 j e
   ·rw[h2 j (by omega) hj]
    unfold bI
    rw[Nat.testBit_lt_two_pow (Nat.lt_of_lt_of_le (t9 s) (Nat.pow_le_pow_right (by decide) (by omega)))]
    rfl
theorem oU (k j:Nat):bI (2 ^ k - 1) j=if j<k then 1 else 0:=by
 unfold bI
 rw[Nat.testBit_two_pow_sub_one]
 by_cases h:j<k <;> simp[h]
theorem ul (x L:Nat) (hL:32≤L): ∀ (m k:Nat) (l:List Int),k≤32→32 - k<m→Bts L 0 l (x ^^^ (2 ^ k - 1))→ ∃ l',dz m l k=some (l',32)∧Bts L 0 l' (x ^^^ 4294967295)
 | 0,_,_,_,h,_=>by omega
 | m+1,k,l,hk,hm,hB=>by
  rw[dz]
  by_cases h:k<32
  ·have e:=hB.2 k (by omega)
   rw[Nat.zero_add] at e
   rw[if_pos (by omega),e,xP]
   have h01:=nX (x ^^^ (2 ^ k - 1)) k
   rw[if_pos (by omega),if_pos (by omega)]
   refine ul x L hL m (k+1) _ (by omega) (by omega) ⟨by rw[List.length_set]; exact hB.1,fun j hj=> ?_⟩
   rw[Nat.zero_add] at hj ⊢
   have e2:=hB.2 j (by omega)
   rw[Nat.zero_add] at e2
   have R:bI (x ^^^ (2 ^ (k+1) - 1)) j=(bI x j+if j<k+1 then 1 else 0) % 2:=by rw[mL,oU]
   have R0:bI (x ^^^ (2 ^ k - 1)) j=(bI x j+if j<k then 1 else 0) % 2:=by rw[mL,oU]
   rw[List.getElem?_set,R]
   by_cases e3:k=j
   ·subst e3
    rw[if_pos rfl,if_pos (by rw[hB.1]; exact hj),if_pos (by omega),R0,if_neg (by omega)]
    rcases nX x k with q | q <;> rw[q] <;> rfl
   ·rw[if_neg e3,e2,R0]
    by_cases e4:j<k
    ·rw[if_pos e4,if_pos (by omega)]
    ·rw[if_neg e4,if_neg (by omega)]
  ·have:k=32:=by omega
   subst this
   rw[if_neg (by omega)]
   exact⟨l,rfl,hB⟩
theorem um (L k:Nat) (l0:List Int) (y:Nat) (hL:k+33≤L) (hb:L≤9000000) (h0:Bts L k l0 y): ∀ (m i:Nat) (l:List Int),1≤i→i≤33→33 - i<m→l.length=L→(∀ j,k+i≤j→j<L→l[j]? = l0[j]?)→(∀ j,j+1<i→l[k+1+j]? = some (bI (y / 2 ^^^ lL) j)) →
 ∃ l',dy k m l (i:Int)=some (l',33)∧l'.length=L∧(∀ j,k+33≤j→j<L→l'[j]? = l0[j]?)∧ ∀ j,j<32→l'[k+1+j]? = some (bI (y / 2 ^^^ lL) j)
 | 0,_,_,_,_,h,_,_,_=>by omega
 | m+1,i,l,h1,hi,hm,hl,hr,hd=>by
  rw[dy]
  by_cases h:i≤32
  ·have e1:l[k+i]? = some (bI y i):=by rw[hr (k+i) (yn _) (by omega)]; exact h0.2 i (by omega)
   have e2:fj (32 - (i:Int))=some (bI lL (i - 1)):=by
    rw[show (32:Int) - (i:Int)=31 - ((i - 1:Nat):Int) by omega]
    exact s6 (i - 1) (by omega)
   have q1:=nX y i
   have q2:=nX lL (i - 1)
   rw[if_pos (by omega),if_pos (by omega),show ((k:Int)+(i:Int)).toNat=k+i by omega,e1,xP,if_pos (by omega),if_pos (by omega),if_pos (by omega),e2,xP,if_pos (by omega),if_pos (by omega),if_pos (by omega),
    show (i:Int)+1=((i+1:Nat):Int) by omega]
   refine um L k l0 y hL hb h0 m (i+1) _ (by omega) (by omega) (by omega) (by rw[List.length_set]; exact hl) (fun j hj hj2=> ?_) (fun j hj=> ?_)
   ·rw[List.getElem?_set,if_neg (by omega)]
    exact hr j (by omega) hj2
   ·rw[List.getElem?_set]
    by_cases e3:k+i=k+1+j
    ·rw[if_pos e3,if_pos (by omega),mL,oT,show j+1=i by omega,show i - 1=j by omega]
    ·rw[if_neg e3]; exact hd j (by omega)
  ·have:i=33:=by omega
   subst this
   rw[if_neg (by omega)]
   exact⟨l,rfl,hl,fun j hj hj2=>hr j hj hj2,fun j hj=>hd j (by omega)⟩
theorem s7 (j:Nat) (hj:32≤j):bI lL j=0:=by
 unfold bI
 rw[Nat.testBit_lt_two_pow (Nat.lt_of_lt_of_le (show lL<2 ^ 32 by decide) (Nat.pow_le_pow_right (by decide) hj))]
 rfl
theorem rZ (x:Nat):bI x 0=1↔x % 2=1:=by
 rw[rm,Nat.pow_zero,Nat.div_one]; omega
theorem rn (s:List UInt8) (hs:s.length≤1000000): ∀ (m k:Nat) (l:List Int) (y:Nat),k≤8*s.length→8*s.length - k<m→Bts (8*s.length+32) k l y→ ∃ l',cZ s m l k=some (l',8*s.length)∧Bts (8*s.length+32) (8*s.length) l' (fo (8*s.length - k) y)
 | 0,_,_,_,_,h,_=>by omega
 | m+1,k,l,y,hk,hm,hB=>by
  rw[cZ]
  by_cases h:k<8*s.length
  ·have e1:=hB.2 0 (by omega)
   rw[Nat.add_zero] at e1
   rw[if_pos (by omega),e1,xP,show 8*s.length - k=(8*s.length - (k+1))+1 by omega]
   by_cases ho:bI y 0=1
   ·have hy:=(rZ y).1 ho
    obtain⟨l',r1,r2,r3,r4⟩:=um (8*s.length+32) k l y (by omega) (by omega) hB 33 1 l (by omega) (by omega) (by omega) hB.1 (fun j _ _=>rfl) (fun j hj=>absurd hj (by omega))
    rw[if_pos ho,show ((33:Int) - 1).toNat+1=33 from rfl,show (1:Int)=((1:Nat):Int) from rfl,r1,xP]
    dsimp only
    rw[if_pos (by omega)]
    refine rn s hs m (k+1) l' (ie y) (by omega) (by omega) ⟨r2,fun j hj=> ?_⟩
    unfold ie
    rw[if_pos hy]
    by_cases e:j<32
    ·exact r4 j e
    ·rw[r3 _ (by omega) (by omega),show k+1+j=k+(j+1) by omega,hB.2 (j+1) (by omega),mL,oT,s7 j (by omega)]
     rcases nX y (j+1) with q | q <;> rw[q] <;> rfl
   ·have hy: ¬ y % 2=1:=fun e=>ho ((rZ y).2 e)
    rw[if_neg ho,if_pos (by omega)]
    refine rn s hs m (k+1) l (ie y) (by omega) (by omega) ⟨hB.1,fun j hj=> ?_⟩
    unfold ie
    rw[if_neg hy,Nat.xor_zero,oT,show k+1+j=k+(j+1) by omega]
    exact hB.2 (j+1) (by omega)
  ·have:k=8*s.length:=by omega
   subst this
   rw[if_neg (by omega),Nat.sub_self]
   exact⟨l,rfl,hB⟩
theorem pX {z:Nat} (hz:z<4294967296):4294967295 ^^^ z=4294967295 - z:=by
 apply Nat.eq_of_testBit_eq
 intro i
 rw[show 4294967295 - z=2 ^ 32 - (z+1) by omega,Nat.testBit_two_pow_sub_succ (show z<2 ^ 32 from hz),Nat.testBit_xor,show (4294967295:Nat)=2 ^ 32 - 1 from rfl,Nat.testBit_two_pow_sub_one]
 by_cases h:i<32
 ·simp[h]
 ·have:z.testBit i=false:=Nat.testBit_lt_two_pow (Nat.lt_of_lt_of_le hz (show 2 ^ 32≤2 ^ i from Nat.pow_le_pow_right (by decide) (by omega)))
  simp[h,this]
theorem uo (s:List UInt8) (hs:s.length≤1000000) (l:List Int) (z:Nat) (hz:z<4294967296) (hB:Bts (8*s.length+32) (8*s.length) l z): ∀ (i m:Nat),i≤32→i<m→cz s l m (((4294967295 - z) / 2 ^ i:Nat):Int) ((i:Int) - 1)=some (((4294967295 - z:Nat):Int),-1)
 | i,0,_,h=>by omega
 | 0,m+1,_,_=>by
  rw[cz,if_neg (by omega),Nat.pow_zero,Nat.div_one]
  rfl
 | i+1,m+1,hi,hm=>by
  have e1:=hB.2 i (by omega)
  have q:=nX z i
  rw[cz,if_pos (by omega),if_pos (by omega),if_pos (by omega),show (8*(s.length:Int)+(((i+1:Nat):Int) - 1)).toNat=8*s.length+i by omega,e1,xP,if_pos (by omega),if_pos (by omega),
   show ((i+1:Nat):Int) - 1 - 1=(i:Int) - 1 by omega]
  have h1:(4294967295 - z) / 2 ^ i / 2=(4294967295 - z) / 2 ^ (i+1):=by rw[Nat.div_div_eq_div_mul,← Nat.pow_succ]
  have h2:(((4294967295 - z) / 2 ^ i % 2:Nat):Int)=1 - bI z i:=by
   rw[← rm,← pX hz,mL,show (4294967295:Nat)=2 ^ 32 - 1 from rfl,oU,if_pos (by omega)]
   rcases q with q | q <;> rw[q] <;> rfl
  have h3:(4294967295 - z) / 2 ^ i≤4294967295:=Nat.le_trans (Nat.div_le_self _ _) (by omega)
  have h4:IntKind.u32.wrap ((IntKind.u32.wrap ((((4294967295 - z) / 2 ^ (i+1):Nat):Int)*2))+(IntKind.u32.wrap (1 - bI z i)))=(((4294967295 - z) / 2 ^ i:Nat):Int):=by
   rw[IntKind.wrap_u32,IntKind.wrap_u32,IntKind.wrap_u32,← h1,← h2]
   generalize (4294967295 - z) / 2 ^ i=q at h3
   omega
  rw[h4]
  exact uo s hs l z hz hB i m (by omega) (by omega)
theorem ve (s:List UInt8) (hs:s.length≤1000000):gJ s=some ((ig 0 s:Nat):Int):=by
 unfold gJ
 obtain⟨l1,r1,B1⟩:=uk s hs (8*s.length+1) 0 (List.replicate (8*s.length+32) 0) (List.length_replicate ..) (by omega) (by omega) (fun j hj=>absurd hj (by omega)) (fun j _ hj=>by rw[List.getElem?_replicate,if_pos hj])
 obtain⟨l2,r2,B2⟩:=ul (leN s) (8*s.length+32) (by omega) 33 0 l1 (by omega) (by omega) (by rw[Nat.pow_zero,Nat.sub_self,Nat.xor_zero]; exact B1)
 obtain⟨l3,r3,B3⟩:=rn s hs (8*s.length+1) 0 l2 _ (by omega) (by omega) B2
 have hz:fo (8*s.length - 0) (leN s ^^^ 4294967295)=kW 4294967295 s:=by rw[Nat.sub_zero,rX,Nat.xor_comm]
 rw[hz] at B3
 have hlt:kW 4294967295 s<4294967296:=lV s (by decide)
 have r4:=uo s hs l3 _ hlt B3 32 33 (by omega) (by omega)
 rw[show (4294967295 - kW 4294967295 s) / 2 ^ 32=0 from Nat.div_eq_of_lt (by omega)] at r4
 rw[if_pos (by omega),if_pos (by omega),if_pos (by omega),show (8*(s.length:Int)).toNat=8*s.length by omega,show (8*(s.length:Int)+32).toNat=8*s.length+32 by omega,r1,xP]
 dsimp only
 rw[show (32:Int).toNat+1=33 from rfl,r2,xP]
 dsimp only
 rw[r3,xP]
 dsimp only
 rw[show ((31:Int) - -1).toNat+1=33 from rfl]
 have r5:cz s l3 33 0 31=some (((4294967295 - kW 4294967295 s:Nat):Int),-1):=r4
 rw[r5,xP]
 dsimp only
 rw[← pX hlt]
 unfold ig
 rw[Nat.xor_zero]
def r7 (p:Pfx):List UInt8:=be p.xy 8++(be p.xD 4++(be p.xt 4++(be 2 1++be (s32 p.xG) 4)))
def eu (p:Pfx):List UInt8:=be p.xH 2++ja [4,8,8,8,2,4,4] [p.xw,p.xr,p.xB,p.xq,p.xv,p.xo,p.xF]
theorem vf (p:Pfx):g8 p=r7 p++eu p:=by
 unfold g8 KS toL r7 eu
 simp only[ja,ya]
theorem s8 (p:Pfx):(r7 p).length=21:=by
 unfold r7
 simp only[xR,aE]
theorem iT (p:Pfx):(g8 p).drop 21=eu p:=by
 rw[vf,← s8 p,List.drop_left]
def okRc (x:Rec):Prop:=mH x∧aB ((bp x).length:Int)<2 ^ (32:Int).toNat
def r8:Pr Unit:=fun s q=>if q=s.length then .error 10 else .ok ((),q)
def kp:Nat→Pr (List Rec)
 | 0=> .ret []
 | n+1=>r8.bind fun _=>sX.bind fun x=>(kp n).bind fun l=> .ret (x::l)
theorem jJ (x:Rec):0<(bK x).length:=by
 unfold bK
 rw[xR]
 have:=il (aB ((bp x).length:Int))
 omega
theorem jK: ∀ (n:Nat) (s:List UInt8) (q:Nat) (l:List Rec) (r:Nat),q≤s.length→kp n s q= .ok (l,r)→q≤r∧r≤s.length∧s.take r=s.take q++aN bK l∧l.length=n∧ ∀ x,x∈l→okRc x
 | 0,s,q,l,r,hq,h=>by
  injection h with h
  obtain⟨rfl,rfl⟩:=yy h
  exact⟨yn _,hq,by simp[aN],rfl,fun x h=>nomatch h⟩
 | n+1,s,q,l,r,hq,h=>by
  obtain⟨u,m,h1,h2⟩:=Pr.bind_ok h
  unfold r8 at h1
  split at h1
  ·exact nomatch h1
  injection h1 with h1
  obtain⟨_,rfl⟩:=yy h1
  obtain⟨x,m2,h3,h4⟩:=Pr.bind_ok h2
  obtain⟨xs,m3,h5,h6⟩:=Pr.bind_ok h4
  injection h6 with h6
  obtain⟨rfl,rfl⟩:=yy h6
  obtain⟨a1,a2,a3,a4,a5⟩:=rh.spell s q x m2 hq h3
  obtain⟨b1,b2,b3,b4,b5⟩:=jK n s m2 xs m3 a2 h5
  refine⟨by omega,b2,by rw[b3,a4,aN,ya],by rw[yd,b4],fun y hy=> ?_⟩
  rcases List.mem_cons.1 hy with rfl | hy
  ·exact a5
  ·exact b5 y hy
theorem nY: ∀ (l:List Rec) (s t:List UInt8) (q:Nat),q≤s.length→(∀ x,x∈l→okRc x)→s.drop q=aN bK l++t→kp l.length s q= .ok (l,q+(aN bK l).length)
 | [],s,t,q,hq,_,_=>rfl
 | x::l,s,t,q,hq,ho,hd=>by
  rw[aN,ya] at hd
  have hl:=congrArg List.length hd
  rw[xT,xR] at hl
  have hp:=jJ x
  have h0:r8 s q= .ok ((),q):=if_neg (by omega)
  have h1:=rh.back s _ q x hq (ho x (.head _)) hd
  have h2:=nY l s t _ (by omega) (fun y hy=>ho y (.tail _ hy)) (cQ hd)
  rw[yd,kp,Pr.bind_of h0,Pr.bind_of h1,Pr.bind_of h2,aN,xR,← Nat.add_assoc]
  rfl
def chk (a:Bat):Int:=(bM a).getD 0
def body (a:Bat):List UInt8:=aN bK a.xm
def mkB (p:Pfx) (l:List Rec):Bat:=⟨p.xy,p.xt,cu p.xH 3,cu p.xH 4,cu p.xH 5,p.xw,p.xr,p.xB,p.xq,p.xv,p.xo,l⟩
def pB (a:Bat) (s:Int):Pfx:=⟨a.xy,49+((body a).length:Int),a.xt,s,ea a.xA a.xE a.xz,a.xw,a.xr,a.xB,a.xq,a.xv,a.xo,(a.xm.length:Int)⟩
def s9 (p:Pfx) (s:List UInt8):Nat:=ig 0 (eu p++s)
def gM (a:Bat):Nat:=s9 (pB a 0) (body a)
def aK (a:Bat):List UInt8:=g8 (pB a (gM a))++body a
def okB (a:Bat):Prop:=okP (pB a (gM a))∧cv (ea a.xA a.xE a.xz)=0∧(∀ x,x∈a.xm→okRc x)∧chk a=0
def ji (p:Pfx) (s:List UInt8):Except Int Bat :=
 if cv p.xH=0 then
  match kp p.xF.toNat s 0 with
  | .error e=> .error e
  | .ok (l,r)=>if r<s.length then .error 10 else if chk (mkB p l)=0 then .ok (mkB p l) else .error (chk (mkB p l))
 else .error (cv p.xH)
def fV:Pr Bat:=fun s q =>
 match pL s q with
 | .error e=> .error e
 | .ok (p,r)=>if s.length<r+(p.xD - 49).toNat then .error 1 else
  if ((s9 p ((s.drop r).take (p.xD - 49).toNat):Nat):Int)=p.xG then
   match ji p ((s.drop r).take (p.xD - 49).toNat) with
   | .error e=> .error e
   | .ok b=> .ok (b,r+(p.xD - 49).toNat)
  else .error 5
theorem nZ {n:Int} (h:cv n=0):ea (cu n 3) (cu n 4) (cu n 5)=n:=by
 have h1:n % 8=0∧0≤n∧n≤63:=by
  unfold cv at h
  split at h
  ·cases h
  ·split at h
   ·cases h
   ·omega
 have h2:n=0∨n=8∨n=16∨n=24∨n=32∨n=40∨n=48∨n=56:=by omega
 rcases h2 with rfl | rfl | rfl | rfl | rfl | rfl | rfl | rfl <;> decide
theorem vg: ∀ a b c:Bool,cu (ea a b c) 3=a∧cu (ea a b c) 4=b∧cu (ea a b c) 5=c:=by decide
theorem up {p:Pfx} {s:List UInt8} {b:Bat} (h:ji p s= .ok b) (h0:0≤p.xF):cv p.xH=0∧ ∃ l,b=mkB p l∧s=aN bK l∧(l.length:Int)=p.xF∧(∀ x,x∈l→okRc x)∧chk b=0:=by
 unfold ji at h
 by_cases ha:cv p.xH=0
 ·rw[if_pos ha] at h
  refine⟨ha,?_⟩
  cases hr:kp p.xF.toNat s 0 with
  | error e=>rw[hr] at h; exact nomatch h
  | ok x =>
   obtain⟨l,r⟩:=x
   rw[hr] at h
   dsimp only at h
   by_cases hl:r<s.length
   ·rw[if_pos hl] at h; exact nomatch h
   rw[if_neg hl] at h
   by_cases hc:chk (mkB p l)=0
   ·rw[if_pos hc] at h
    injection h with h
    subst h
    obtain⟨b1,b2,b3,b4,b5⟩:=jK _ s 0 l r (yw _) hr
    rw[List.take_of_length_le (by omega),List.take_zero,yk] at b3
    exact⟨l,rfl,b3,by omega,b5,hc⟩
   ·rw[if_neg hc] at h; exact nomatch h
 ·rw[if_neg ha] at h; exact nomatch h
theorem pB_mk {p:Pfx} {l:List Rec} (h1:(49:Int)+((aN bK l).length:Int)=p.xD) (h2:cv p.xH=0) (h3:(l.length:Int)=p.xF) (s:Int):pB (mkB p l) s=⟨p.xy,p.xD,p.xt,s,p.xH,p.xw,p.xr,p.xB,p.xq,p.xv,p.xo,p.xF⟩:=by
 unfold pB mkB body
 dsimp only
 rw[h1,h3,nZ h2]
theorem ro:Sp fV aK okB:=by
 refine⟨fun s q b r hq h=> ?_,fun s t q a hq ha hd=> ?_⟩
 ·unfold fV at h
  cases hp:pL s q with
  | error e=>rw[hp] at h; exact nomatch h
  | ok x =>
   obtain⟨p,m⟩:=x
   rw[hp] at h
   dsimp only at h
   obtain⟨a1,a2,a3,a4,a5,a6,a7,a8⟩:=ra.spell s q p m hq hp
   by_cases hl:s.length<m+(p.xD - 49).toNat
   ·rw[if_pos hl] at h; exact nomatch h
   rw[if_neg hl] at h
   by_cases hs:((s9 p ((s.drop m).take (p.xD - 49).toNat):Nat):Int)=p.xG
   ·rw[if_pos hs] at h
    cases ho:ji p ((s.drop m).take (p.xD - 49).toNat) with
    | error e=>rw[ho] at h; exact nomatch h
    | ok b' =>
     rw[ho] at h
     injection h with h
     obtain⟨rfl,rfl⟩:=yy h
     obtain⟨k1,l,rfl,k3,k4,k5,k6⟩:=up ho a8
     have hn:((s.drop m).take (p.xD - 49).toNat).length=(p.xD - 49).toNat:=by rw[yj,xT]; omega
     have e1:(49:Int)+((aN bK l).length:Int)=p.xD:=by rw[← k3,hn]; omega
     have e2:((gM (mkB p l):Nat):Int)=p.xG:=by
      rw[← hs,k3]
      unfold gM
      rw[pB_mk e1 k1 k4]
      rfl
     have e3:pB (mkB p l) (gM (mkB p l))=p:=by rw[pB_mk e1 k1 k4,e2]
     have e4:aK (mkB p l)=g8 p++(s.drop m).take (p.xD - 49).toNat:=by
      unfold aK
      rw[e3,k3]
      rfl
     have a9:=congrArg List.length a4
     refine⟨by omega,by omega,?_,?_,?_⟩
     ·rw[e4,xR,hn]; omega
     ·rw[e4,iP,a4,ya]
     ·refine⟨by rw[e3]; exact⟨a5,a6,a7,a8⟩,?_,k5,k6⟩
      show cv (ea (cu p.xH 3) (cu p.xH 4) (cu p.xH 5))=0
      rw[nZ k1]
      exact k1
   ·rw[if_neg hs] at h; exact nomatch h
 ·obtain⟨h1,h2,h3,h4⟩:=ha
  unfold aK at hd
  rw[ya] at hd
  have hp:=ra.back s _ q _ hq h1 hd
  have hd2:=cQ hd
  have hl:=congrArg List.length hd
  rw[xT,xR,xR] at hl
  have hn:((pB a (gM a)).xD - 49).toNat=(body a).length:=by
   show ((49:Int)+((body a).length:Int) - 49).toNat= _
   omega
  have ht:(s.drop (q+(g8 (pB a (gM a))).length)).take (body a).length=body a:=by rw[hd2,List.take_left]
  unfold fV
  rw[hp]
  dsimp only
  rw[hn,ht,if_neg (by omega),if_pos (show ((s9 (pB a (gM a)) (body a):Nat):Int)=(pB a (gM a)).xG from rfl)]
  have hr:=nY a.xm (body a) [] 0 (yw _) h3 (by rw[List.drop_zero,yp]; rfl)
  have ho:ji (pB a (gM a)) (body a)= .ok a:=by
   unfold ji
   rw[if_pos (show cv (pB a (gM a)).xH=0 from h2),show (pB a (gM a)).xF.toNat=a.xm.length from rfl,hr]
   dsimp only
   obtain⟨b1,b2,b3⟩:=vg a.xA a.xE a.xz
   have e:mkB (pB a (gM a)) a.xm=a:=by
    unfold mkB pB
    dsimp only
    rw[b1,b2,b3]
   rw[e,if_neg (by show ¬ 0+(body a).length < _; omega),if_pos h4]
  rw[ho]
  dsimp only
  unfold aK
  rw[xR,Nat.add_assoc]
def zBat:Bat:=⟨0,0,false,false,false,0,0,0,0,0,0,[]⟩
def bnR (r:Rec):Prop:=r.xp.length≤1000000∧r.xu.data.length≤1000000∧r.xn.data.length≤1000000
def bnB (a:Bat):Prop:=gr a∧a.xm.length≤1000000∧ ∀ r,r∈a.xm→bnR r
theorem mM {α:Type} (enc:α→List UInt8): ∀ (l:List α) (x:α),x∈l→(enc x).length≤(aN enc l).length
 | y::l,x,h=>by
  rw[aN,xR]
  rcases List.mem_cons.1 h with rfl | h
  ·omega
  ·have:=mM enc l x h
   omega
theorem kq {α:Type} (enc:α→List UInt8): ∀ (l:List α),(∀ x,x∈l→0<(enc x).length)→l.length≤(aN enc l).length
 | [],_=>yw _
 | y::l,h=>by
  rw[aN,xR,yd]
  have h1:=h y (.head _)
  have:=kq enc l (fun x hx=>h x (.tail _ hx))
  omega
theorem ta (h:Hd):0<(dj h).length:=by
 unfold dj
 simp only[xR]
 have:=il (aB (h.xu.length:Int))
 omega
theorem rp {x:Rec} (h:mH x) (hl:(bK x).length≤1000000):mb x∧bnR x:=by
 obtain⟨_,h2,h3⟩:=pR h
 have e:(bK x).length=(aX (aB ((bp x).length:Int))).length+(bp x).length:=by unfold bK; rw[xR]
 have e2:(bp x).length≤1000000:=by omega
 simp only[bp,fm,iG,xR,aE] at e2
 have h4:=kq dj x.xp (fun y _=>ta y)
 have hS: ∀ d:List UInt8,d.length≤1000000→wS d:=fun d hd=>by unfold wS; omega
 refine⟨⟨h2,h3,⟨trivial,hS _ (by omega)⟩,⟨trivial,hS _ (by omega)⟩,by omega,fun y hy=> ?_⟩,by omega,by omega,by omega⟩
 have h5:=mM dj x.xp y hy
 have h6:(dj y).length≤1000000:=by omega
 simp only[dj,xR] at h6
 exact⟨hS _ (by omega),trivial,hS _ (by omega)⟩
theorem uq {a:Bat} (h:bnB a):bM a=some (chk a)∧dU a=some (chk a):=by
 obtain⟨cr,e0,h1,h2,_⟩:=mB a h.1 h.2.1 h.2.2
 have e:chk a=oM a cr e0:=by unfold chk; rw[h1]; rfl
 rw[e]
 exact⟨h1,h2⟩
theorem pY (n:Int):bq n 8=decide (-9223372036854775808≤n∧n≤9223372036854775807):=by
 rw[Bool.eq_iff_iff]
 unfold bq
 simp only[Bool.and_eq_true,decide_eq_true_eq]
 have:(2:Int) ^ (8*(8:Int).toNat - 1)=9223372036854775808:=by decide
 omega
theorem wI8 {n:Int} (h:bq n (8:Nat)=true):wI n:=by
 have h':bq n 8=true:=h
 rw[pY] at h'
 have h2:=of_decide_eq_true h'
 exact h2
theorem wI4 {n:Int} (h:bq n (4:Nat)=true): -2147483648≤n∧n≤2147483647:=by
 have h':bq n 4=true:=h
 rw[gp] at h'
 exact of_decide_eq_true h'
theorem wI2 {n:Int} (h:bq n (2:Nat)=true): -32768≤n∧n≤32767:=by
 have h':bq n 2=true:=h
 rw[mA] at h'
 exact of_decide_eq_true h'
theorem rq {p:Pfx} (hp:okP p) {l:List Rec} (hl: ∀ x,x∈l→okRc x) (hb:(aN bK l).length≤1000000):bnB (mkB p l):=by
 obtain⟨⟨k1,k2,k3,_,k5,k6,k7,k8,k9,k10,k11,k12,k13,_⟩,_,_,_⟩:=hp
 have w4: ∀ {n:Int},bq n (4:Nat)=true→wI n:=fun h=>by have:=wI4 h; unfold wI; omega
 have w2: ∀ {n:Int},bq n (2:Nat)=true→wI n:=fun h=>by have:=wI2 h; unfold wI; omega
 have hr: ∀ x,x∈l→mb x∧bnR x:=fun x hx=>rp (hl x hx).1 (by have:=mM bK l x hx; omega)
 have h4:=kq bK l (fun y _=>jJ y)
 exact⟨⟨wI8 k1,w4 k3,trivial,trivial,trivial,w4 k7,wI8 k8,wI8 k9,wI8 k10,w2 k11,w4 k12,by show l.length≤ _; omega,fun x hx=>(hr x hx).1⟩,by show l.length≤ _; omega,fun x hx=>(hr x hx).2⟩
theorem pZ (p:Pfx) (hc:p.xF≤2147483647) (s:List UInt8) (hs:s.length≤1000000) (y:Int): ∀ (n k fuel:Nat) (acc:List Rec) (q:Nat),((k+n:Nat):Int)=p.xF→n<fuel→q≤s.length→acc.length≤q →
 (∃ e,kp n s q= .error e∧e≠0∧bF p fuel y k acc ⟨s.drop q,q,0⟩=some (.ret (zBat,e)))∨(∃ l r,kp n s q= .ok (l,r)∧q≤r∧r≤s.length∧bF p fuel y k acc ⟨s.drop q,q,0⟩=some (.go (y,k+n,acc++l,⟨s.drop r,r,0⟩)))
 | 0,k,fuel+1,acc,q,hk,hf,hq,ha=> .inr ⟨[],q,rfl,yn _,hq,by rw[bF,if_neg (by omega),yp,Nat.add_zero]⟩
 | n+1,k,fuel+1,acc,q,hk,hf,hq,ha=>by
  rw[bF,if_pos (by omega),me,xP]
  dsimp only
  rw[xT,kp]
  by_cases hz:q=s.length
  ·rw[if_pos (by omega)]
   exact .inl ⟨10,Pr.bind_err (if_pos hz),by decide,rfl⟩
  rw[if_neg (by omega),Pr.bind_of (show r8 s q= .ok ((),q) from if_neg hz)]
  rcases B_rec.run s q hs hq with⟨e,st,p1,g1,x1,y1⟩ | ⟨b,r,p1,g1,n1,l1⟩
  ·rw[g1,xP]
   dsimp only
   rw[bX,xP]
   dsimp only
   rw[if_neg y1]
   exact .inl ⟨e,Pr.bind_err p1,by rw[← x1]; exact y1,by rw[x1]; rfl⟩
  ·have h3:=(rh.spell s q b r hq p1).2.2.1
   have h4:=jJ b
   rw[g1,xP]
   dsimp only
   rw[bX,xP]
   dsimp only
   rw[if_pos rfl,if_pos (by omega),if_pos (by omega),Pr.bind_of p1]
   rcases pZ p hc s hs y n (k+1) fuel (acc ++ [b]) r (by omega) (by omega) l1 (by rw[xR,yY]; omega) with⟨e,q1,q2,q3⟩ | ⟨l,m,q1,q2,q3,q4⟩
   ·exact .inl ⟨e,Pr.bind_err q1,q2,q3⟩
   ·exact .inr ⟨b::l,m,by rw[Pr.bind_of q1]; rfl,by omega,q3,by rw[q4,ya,show k+1+n=k+(n+1) by omega]; rfl⟩
theorem bopen {p:Pfx} (hp:okP p) (s:List UInt8) (hs:s.length≤1000000):(∃ e x,ji p s= .error e∧e≠0∧dZ p s=some (x,e))∨(∃ b,ji p s= .ok b∧dZ p s=some (b,0)):=by
 obtain⟨k1,k2,k3,k4⟩:=id hp
 have ha:=wI2 k1.2.2.2.2.2.1
 have hc:=wI4 k1.2.2.2.2.2.2.2.2.2.2.2.2.1
 try dsimp only at ha
 unfold dZ ji
 rw[qR _ (by omega),xP]
 by_cases h0:cv p.xH=0
 rotate_left
 ·rw[if_neg h0,if_neg h0]
  exact .inl ⟨_,_,rfl,h0,rfl⟩
 rw[if_pos h0,if_pos h0,sQ,xP]
 dsimp only
 rw[ge _ (by omega),xP]
 rcases pZ p hc.2 s hs 0 p.xF.toNat 0 (p.xF.toNat+1) [] 0 (by omega) (by omega) (yw _) (yw _) with⟨e,q1,q2,q3⟩ | ⟨l,m,q1,q2,q3,q4⟩
 ·rw[List.drop_zero] at q3
  rw[q3,q1]
  exact .inl ⟨e,_,rfl,q2,rfl⟩
 ·rw[List.drop_zero] at q4
  obtain⟨b1,b2,b3,b4,b5⟩:=jK _ s 0 l m (yw _) q1
  rw[q4,q1,xP]
  dsimp only
  rw[me,xP]
  dsimp only
  rw[xT]
  by_cases hl:m<s.length
  ·rw[if_pos hl,if_pos (show ((s.length - m:Nat):Int)>0 by omega)]
   exact .inl ⟨_,_,rfl,by decide,rfl⟩
  ·rw[if_neg hl,if_neg (show ¬ ((s.length - m:Nat):Int)>0 by omega)]
   rw[List.take_of_length_le (by omega),List.take_zero,yk] at b3
   have hB:=rq hp b5 (by rw[← b3]; exact hs)
   have e:bM (⟨p.xy,p.xt,cu p.xH 3,cu p.xH 4,cu p.xH 5,p.xw,p.xr,p.xB,p.xq,p.xv,p.xo,[]++l⟩:Bat)=some (chk (mkB p l)):=(uq hB).1
   rw[e,xP]
   by_cases hk:chk (mkB p l)=0
   ·rw[if_pos hk,hk]
    exact .inr ⟨_,rfl,rfl⟩
   ·rw[if_neg hk]
    exact .inl ⟨_,_,rfl,hk,rfl⟩
theorem B_bat:CB d7 fV zBat:=by
 refine⟨fun st h=> ?_,fun s q hs hq=> ?_⟩
 ·unfold d7
  rw[tS.dead st h,xP]
  dsimp only
  rw[if_pos (by decide),mf _ _ (by decide),xP]
  dsimp only
  have e:bf st ((0:Int) - 49)=([],st):=if_pos h
  rw[show zP.xD=(0:Int) from rfl,e,bX,xP]
  dsimp only
  rw[if_neg h]
  rfl
 ·unfold d7 fV
  rcases tS.run s q hs hq with⟨e,st,p1,g1,x1,y1⟩ | ⟨p,r,p1,g1,n1,l1⟩
  ·refine .inl ⟨e,st,by rw[p1],?_,x1,y1⟩
   rw[g1,xP]
   dsimp only
   rw[if_pos (by decide),mf _ _ (by decide),xP]
   dsimp only
   have e:bf st ((0:Int) - 49)=([],st):=if_pos y1
   rw[show zP.xD=(0:Int) from rfl,e,bX,xP]
   dsimp only
   rw[if_neg y1]
   rfl
  ·obtain⟨a1,a2,a3,a4,ap⟩:=ra.spell s q p r hq p1
   obtain⟨k1,k2,k3,k4⟩:=id ap
   have hL:=wI4 k1.2.1
   try dsimp only at hL
   have hT: -9223372036854775808≤p.xD - 49∧p.xD - 49≤9223372036854775807:=by omega
   rw[g1,xP,p1]
   dsimp only
   rw[if_pos hT,mf _ _ hT,xP]
   dsimp only
   by_cases hl:s.length<r+(p.xD - 49).toNat
   ·have e:bf ⟨s.drop r,r,0⟩ (p.xD - 49)=([],⟨s.drop r,r,1⟩):=by
     unfold bf
     rw[if_neg (by simp),if_neg (by omega),if_pos (by rw[xT]; omega)]
    rw[if_pos hl,e,bX,xP]
    exact .inl ⟨1,⟨s.drop r,r,1⟩,rfl,rfl,rfl,by show (1:Int)≠0; decide⟩
   have e:bf ⟨s.drop r,r,0⟩ (p.xD - 49)=((s.drop r).take (p.xD - 49).toNat,⟨s.drop (r+(p.xD - 49).toNat),r+(p.xD - 49).toNat,0⟩):=by
    unfold bf
    rw[if_neg (by simp),if_neg (by omega),if_neg (by rw[xT]; omega),yz]
   rw[if_neg hl,e,bX,xP]
   dsimp only
   have hn:((s.drop r).take (p.xD - 49).toNat).length=(p.xD - 49).toNat:=by rw[yj,xT]; omega
   generalize (s.drop r).take (p.xD - 49).toNat=b at hn
   have hlen:(g8 p).length=61:=kn k1
   rw[if_pos rfl,tV [] ⟨k1,k2⟩ (by decide),xP,yk,sD,xP]
   dsimp only
   rw[otx_z,vb,xP]
   dsimp only
   rw[if_pos (show 21≤(g8 p).length by omega)]
   have hp21:(eu p).length≤61:=by rw[← iT p,xT]; omega
   have hs2 : [eu p,b].flatten=eu p++b:=by simp
   rw[iT,vc [eu p,b] (by intro t ht; rcases List.mem_cons.1 ht with rfl | ht; omega; rw[List.mem_singleton.1 ht]; omega),xP,hs2]
   dsimp only
   have hlt:ig 0 (eu p++b)<4294967296:=oR (by decide) _
   rw[if_pos (show -9223372036854775808≤((ig 0 (eu p++b):Nat):Int)∧((ig 0 (eu p++b):Nat):Int)≤9223372036854775807 by omega)]
   by_cases hsum:((s9 p b:Nat):Int)=p.xG
   rotate_left
   ·rw[if_neg hsum,if_neg (show ¬ ((ig 0 (eu p++b):Nat):Int)=p.xG from hsum),dW,xP]
    exact .inl ⟨5,_,rfl,rfl,rfl,by show (5:Int)≠0; decide⟩
   rw[if_pos hsum,if_pos (show ((ig 0 (eu p++b):Nat):Int)=p.xG from hsum)]
   rcases bopen ap b (by omega) with⟨e,x,o1,o2,o3⟩ | ⟨x,o1,o3⟩
   ·rw[o1,o3,xP]
    dsimp only
    rw[if_neg o2,dW,xP]
    exact .inl ⟨e,_,rfl,rfl,rfl,o2⟩
   ·rw[o1,o3,xP]
    dsimp only
    rw[if_pos rfl]
    exact .inr ⟨x,_,rfl,rfl,by omega,by omega⟩
theorem iI: ∀ {l:List Rec},cO l=0→ ∀ r,r∈l→dQ r=0
 | x::l,h,r,hr=>by
  rw[cO] at h
  by_cases hx:dQ x=0
  ·rw[if_pos hx] at h
   rcases List.mem_cons.1 hr with rfl | hr
   ·exact hx
   ·exact iI h r hr
  ·rw[if_neg hx] at h
   exact absurd h hx
theorem kX {a:Bat} (h:bnB a) (h0:chk a=0):fk a∧ec a∧(a.xz=true→a.xE=true∧(a.xm.length:Int)=1)∧ ∀ r,r∈a.xm→dQ r=0:=by
 obtain⟨cr,e0,h1,h2,h3,h4⟩:=mB a h.1 h.2.1 h.2.2
 have e:chk a=oM a cr e0:=by unfold chk; rw[h1]; rfl
 rw[e] at h0
 unfold oM at h0
 by_cases hn:fk a
 rotate_left
 ·rw[if_neg hn] at h0; exact absurd h0 (by decide)
 rw[if_pos hn] at h0
 by_cases hc:a.xz=true
 ·rw[if_pos hc] at h0
  by_cases ht:a.xE=true
  rotate_left
  ·rw[if_neg ht] at h0; exact absurd h0 (by decide)
  rw[if_pos ht] at h0
  by_cases hp:ec a
  rotate_left
  ·rw[if_neg hp] at h0; exact absurd h0 (by decide)
  rw[if_pos hp] at h0
  by_cases hl:(a.xm.length:Int)=1
  rotate_left
  ·rw[if_neg hl] at h0; exact absurd h0 (by decide)
  rw[if_pos hl] at h0
  by_cases hf:cO a.xm=0
  rotate_left
  ·rw[if_neg hf] at h0; exact absurd h0 hf
  exact⟨hn,hp,fun _=>⟨ht,hl⟩,iI hf⟩
 ·rw[if_neg hc] at h0
  by_cases hp:ec a
  rotate_left
  ·rw[if_neg hp] at h0; exact absurd h0 (by decide)
  rw[if_pos hp] at h0
  by_cases hf:cO a.xm=0
  rotate_left
  ·rw[if_neg hf] at h0; exact absurd h0 hf
  exact⟨hn,hp,fun h=>absurd h hc,iI hf⟩
theorem vh: ∀ a t c:Bool,(c=true→t=true)→cv (ea a t c)=0:=by decide
theorem n7: ∀ a t c:Bool,0≤ea a t c∧ea a t c≤56:=by decide
theorem r9 {n:Int} (h:wI n):bq n (8:Nat)=true:=by
 show bq n 8=true
 rw[pY]
 exact xM h
theorem n8 {n:Int} (h: -2147483648≤n∧n≤2147483647):bq n (4:Nat)=true:=by
 show bq n 4=true
 rw[gp]
 exact xM h
theorem fits2 {n:Int} (h: -32768≤n∧n≤32767):bq n (2:Nat)=true:=by
 show bq n 2=true
 rw[mA]
 exact xM h
def smB (a:Bat):Prop:=bnB a∧(∀ r,r∈a.xm→rwt r≤900000)∧(body a).length≤900000
theorem ur {a:Bat} (h:ec a):(-32768≤a.xv∧a.xv≤32767)∧(-2147483648≤a.xo∧a.xo≤2147483647):=by
 unfold ec at h
 split at h
 ·omega
 ·split at h <;> omega
theorem rr {a:Bat} (hb:smB a) (h0:chk a=0) (s:Nat) (hs:s<4294967296):okP (pB a s):=by
 obtain⟨hn,hp,hc,hr⟩:=kX hb.1 h0
 obtain⟨n1,n2,n3,n4,n5,n6⟩:=hn
 obtain⟨w1,w2,_,_,_,w6,w7,w8,w9,w10,w11,w12⟩:=hb.1.1
 obtain⟨p1,p2⟩:=ur hp
 have hl:=hb.2.2
 have hcount:=hb.1.2.1
 have ha:=n7 a.xA a.xE a.xz
 have hs2: -2147483648≤s32 (s:Int)∧s32 (s:Int)≤2147483647:=by unfold s32; split <;> omega
 refine⟨⟨r9 w1,n8 ⟨?_,?_⟩,n8 ⟨?_,?_⟩,rfl,n8 hs2,fits2 ⟨?_,?_⟩,n8 ⟨?_,?_⟩,r9 w7,r9 w8,r9 w9,fits2 p1,n8 p2,n8 ⟨?_,?_⟩,trivial⟩,⟨?_,?_⟩,?_,?_⟩
 all_goals (try unfold pB) <;> (try dsimp only) <;> omega
theorem sa (a:Bat):gM a<4294967296:=oR (by decide) _
theorem okB_of {a:Bat} (hb:smB a) (h0:chk a=0):okB a:=by
 obtain⟨hn,hp,hc,hr⟩:=kX hb.1 h0
 refine⟨rr hb h0 _ (sa a),vh _ _ _ (fun h=>(hc h).1),fun x hx=> ?_,h0⟩
 exact t7 (hb.1.1.2.2.2.2.2.2.2.2.2.2.2.2 x hx).1 (hr x hx) (hb.2.1 x hx)
theorem iU {a:Bat} (h:okB a):(aK a).length=61+(body a).length:=by
 unfold aK
 rw[xR,kn h.1.1]
theorem vi (a:Bat):cG a=some (ea a.xA a.xE a.xz):=by
 unfold cG
 generalize a.xA=x
 generalize a.xE=y
 generalize a.xz=z
 cases x <;> cases y <;> cases z <;> decide
theorem sb (a:Bat) (hb:a.xm.length≤1000000): ∀ (l:List Rec) (t:List UInt8) (k fuel:Nat),a.xm.drop k=l→l.length<fuel→(∀ x,x∈l→wI x.xC∧wI x.xx∧rwt x≤900000)→t.length+(aN bK l).length≤1000000→ ∃ z,bW a fuel t k=some (t++aN bK l,z)
 | [],t,k,fuel+1,h,hf,_,_=>by
  have:=dP h
  exact⟨k,by rw[bW,if_neg (by omega),aN,yp]⟩
 | x::l,t,k,fuel+1,h,hf,hw,hl=>by
  obtain⟨g1,g2,g3⟩:=dn h
  obtain⟨h1,h2,h3⟩:=hw x (.head _)
  rw[aN,xR] at hl
  rw[yd] at hf
  obtain⟨z,hz⟩:=sb a hb l (t++bK x) (k+1) fuel g2 (by omega) (fun y hy=>hw y (.tail _ hy)) (by rw[xR]; omega)
  exact⟨z,by rw[bW,if_pos (by omega),g1,xP,sZ x h1 h2 h3,xP,if_pos (by omega),if_pos (by omega),hz,aN,ya]⟩
theorem r11enc {a:Bat} (hb:smB a) (h0:chk a=0):eL a=some (aK a):=by
 obtain⟨hn,hp,hc,hr⟩:=kX hb.1 h0
 have hl:=hb.2.2
 have hlb:(aN bK a.xm).length≤900000:=hl
 have hw: ∀ x,x∈a.xm→wI x.xC∧wI x.xx∧rwt x≤900000:=fun x hx=>⟨(hb.1.1.2.2.2.2.2.2.2.2.2.2.2.2 x hx).1,(hb.1.1.2.2.2.2.2.2.2.2.2.2.2.2 x hx).2.1,hb.2.1 x hx⟩
 obtain⟨z,hz⟩:=sb a hb.1.2.1 a.xm [] 0 (((a.xm.length:Int)).toNat+1) rfl (by omega) hw (by rw[yQ]; omega)
 rw[yk] at hz
 have hN: -9223372036854775808≤(49+((aN bK a.xm).length:Int))∧(49+((aN bK a.xm).length:Int))≤9223372036854775807:=by omega
 have wP_of: ∀ s:Nat,s<4294967296→wP (pB a s):=fun s hs=>by
  obtain⟨w1,w2,_,_,_,w6,w7,w8,w9,w10,w11,w12⟩:=hb.1.1
  have ha:=n7 a.xA a.xE a.xz
  have hcount:=hb.1.2.1
  refine⟨w1,⟨?_,?_⟩,w2,⟨?_,?_⟩,⟨?_,?_⟩,w6,w7,w8,w9,w10,w11,⟨?_,?_⟩⟩
  all_goals (try unfold pB) <;> (try dsimp only) <;> (try unfold body) <;> omega
 have hP0:okP (pB a 0):=rr hb h0 0 (by decide)
 have hlt:=sa a
 have hP:=rr hb h0 _ hlt
 have b0:=nQ (pB a 0) (wP_of 0 (by decide))
 rw[if_pos ⟨hP0.1,hP0.2.1⟩] at b0
 have b1:=nQ (pB a (gM a)) (wP_of _ hlt)
 rw[if_pos ⟨hP.1,hP.2.1⟩] at b1
 have b0':dt [a.xy,(49+((aN bK a.xm).length:Int)),a.xt,0,ea a.xA a.xE a.xz,a.xw,a.xr,a.xB,a.xq,a.xv,a.xo,(a.xm.length:Int)]=some (g8 (pB a 0),true):=b0
 have b1':dt [a.xy,(49+((aN bK a.xm).length:Int)),a.xt,((gM a:Nat):Int),ea a.xA a.xE a.xz,a.xw,a.xr,a.xB,a.xq,a.xv,a.xo,(a.xm.length:Int)]=some (g8 (pB a (gM a)),true):=b1
 have hp61:=kn hP0.1
 have hp61':=kn hP.1
 have hp21:(eu (pB a 0)).length≤61:=by rw[← iT,xT]; omega
 have hsum:ig 0 (eu (pB a 0)++aN bK a.xm)=gM a:=rfl
 unfold eL
 rw[hz,xP]
 dsimp only
 rw[if_pos hN,vi,xP,b0',xP]
 dsimp only
 rw[if_pos (show 21≤(g8 (pB a 0)).length by omega),iT,if_pos (by omega),ve _ (by rw[xR]; omega),xP,hsum,if_pos (show -9223372036854775808≤((gM a:Nat):Int)∧((gM a:Nat):Int)≤9223372036854775807 by omega),if_pos hN,xP,b1',xP]
 dsimp only
 rw[if_pos (by omega)]
 rfl
def jL:List Rec→List Rec→Bool
 | x::l,y::m=>nW x y && jL l m
 | _,_=>true
def mN (a b:Bat):Bool:=decide (a.xy=b.xy∧a.xt=b.xt∧a.xA=b.xA∧a.xE=b.xE∧a.xz=b.xz∧a.xw=b.xw∧a.xr=b.xr∧a.xB=b.xB∧a.xq=b.xq∧a.xv=b.xv∧a.xo=b.xo∧a.xm.length=b.xm.length) && jL a.xm b.xm
theorem lz: ∀ l:List Rec,jL l l=true
 | []=>rfl
 | x::l=>by rw[jL,rk,lz l]; rfl
theorem rt (a:Bat):mN a a=true:=by
 unfold mN
 rw[lz]
 simp
theorem sc (a b:Bat) (hn:a.xm.length≤1000000) (y:Bool): ∀ (l m:List Rec) (k fuel:Nat),a.xm.drop k=l→b.xm.drop k=m→l.length=m.length→l.length<fuel→(∀ x,x∈l→x.xp.length≤1000000)→ ∃ z,cC a b fuel y k=some (if jL l m=true then .go (y,z) else .ret false)
 | [],m,k,fuel+1,h1,h2,hl,hf,_=>by
  have:=dP h1
  exact⟨k,by rw[cC,if_neg (by omega)]; rfl⟩
 | x::l,v::m,k,fuel+1,h1,h2,hl,hf,hw=>by
  obtain⟨g1,g2,g3⟩:=dn h1
  obtain⟨k1,k2,k3⟩:=dn h2
  rw[yd] at hf
  rw[yd,yd] at hl
  obtain⟨z,hz⟩:=sc a b hn y l m (k+1) fuel g2 k2 (by omega) (by omega) (fun u hu=>hw u (.tail _ hu))
  refine⟨z,?_⟩
  rw[cC,if_pos (by omega),g1,xP,k1,xP,t6 x v (hw x (.head _)),xP,jL,if_pos (show -9223372036854775808≤(k:Int)+1∧(k:Int)+1≤9223372036854775807 by omega),hz]
  cases nW x v <;> rfl
theorem ut {a b:Bat} (hn:a.xm.length≤1000000) (hw: ∀ x,x∈a.xm→x.xp.length≤1000000):fS a b=some (mN a b):=by
 have hL: ∀ o:Option Bool,o=some (mN a b)∨True:=fun _=> .inr trivial
 unfold fS mN
 by_cases c1:a.xy=b.xy
 rotate_left
 ·rw[if_neg c1,xP,if_pos rfl,xN (fun h=>c1 h.1)]; rfl
 by_cases c2:a.xt=b.xt
 rotate_left
 ·rw[if_pos c1,if_neg c2,xP,if_pos rfl,xN (fun h=>c2 h.2.1)]; rfl
 by_cases c3:a.xA=b.xA
 rotate_left
 ·rw[if_pos c1,if_pos c2,if_neg (by simpa using c3),xP,if_pos rfl,xN (fun h=>c3 h.2.2.1)]; rfl
 by_cases c4:a.xE=b.xE
 rotate_left
 ·rw[if_pos c1,if_pos c2,if_pos (by simpa using c3),if_neg (by simpa using c4),xP,if_pos rfl,xN (fun h=>c4 h.2.2.2.1)]; rfl
 by_cases c5:a.xz=b.xz
 rotate_left
 ·rw[if_pos c1,if_pos c2,if_pos (by simpa using c3),if_pos (by simpa using c4),if_neg (by simpa using c5),xP,if_pos rfl,xN (fun h=>c5 h.2.2.2.2.1)]; rfl
 rw[if_pos c1,if_pos c2,if_pos (by simpa using c3),if_pos (by simpa using c4),if_pos (by simpa using c5)]
 by_cases c6:a.xw=b.xw
 rotate_left
 ·rw[if_neg c6,xP,if_pos rfl,xN (fun h=>c6 h.2.2.2.2.2.1)]; rfl
 by_cases c7:a.xr=b.xr
 rotate_left
 ·rw[if_pos c6,if_neg c7,xP,if_pos rfl,xN (fun h=>c7 h.2.2.2.2.2.2.1)]; rfl
 by_cases c8:a.xB=b.xB
 rotate_left
 ·rw[if_pos c6,if_pos c7,if_neg c8,xP,if_pos rfl,xN (fun h=>c8 h.2.2.2.2.2.2.2.1)]; rfl
 by_cases c9:a.xq=b.xq
 rotate_left
 ·rw[if_pos c6,if_pos c7,if_pos c8,if_neg c9,xP,if_pos rfl,xN (fun h=>c9 h.2.2.2.2.2.2.2.2.1)]; rfl
 by_cases c10:a.xv=b.xv
 rotate_left
 ·rw[if_pos c6,if_pos c7,if_pos c8,if_pos c9,if_neg c10,xP,if_pos rfl,xN (fun h=>c10 h.2.2.2.2.2.2.2.2.2.1)]; rfl
 by_cases c11:a.xo=b.xo
 rotate_left
 ·rw[if_pos c6,if_pos c7,if_pos c8,if_pos c9,if_pos c10,if_neg c11,xP,if_pos rfl,xN (fun h=>c11 h.2.2.2.2.2.2.2.2.2.2.1)]; rfl
 by_cases c12:a.xm.length=b.xm.length
 rotate_left
 ·rw[if_pos c6,if_pos c7,if_pos c8,if_pos c9,if_pos c10,if_pos c11,if_neg (by omega),xP,if_pos rfl,xN (fun h=>c12 h.2.2.2.2.2.2.2.2.2.2.2)]; rfl
 obtain⟨z,hz⟩:=sc a b hn false a.xm b.xm 0 (((a.xm.length:Int)).toNat+1) rfl rfl c12 (by omega) hw
 rw[if_pos c6,if_pos c7,if_pos c8,if_pos c9,if_pos c10,if_pos c11,if_pos (by omega),xP,if_neg (by decide),hz,xM ⟨c1,c2,c3,c4,c5,c6,c7,c8,c9,c10,c11,c12⟩,Bool.true_and]
 cases jL a.xm b.xm <;> rfl
def vI (s:List UInt8) (q k:Nat):Int:=bL ((s.drop q).take k)
def qa (s:List UInt8):List Nat→Nat→List Int
 | [],_ => []
 | k::ks,q=>vI s q k::qa s ks (q+k)
theorem mO (s:List UInt8): ∀ (ks:List Nat) (q:Nat),q+ks.sum≤s.length→mD ks s q= .ok (qa s ks q,q+ks.sum)
 | [],q,_=>rfl
 | k::ks,q,h=>by
  rw[List.sum_cons] at h
  have h1:jE k s q= .ok (vI s q k,q+k):=by unfold jE; rw[if_neg (by omega)]; rfl
  rw[mD,Pr.bind_of h1,Pr.bind_of (mO s ks (q+k) (by omega)),List.sum_cons,← Nat.add_assoc]
  rfl
theorem n9 (s:List UInt8) (n:Nat): ∀ (ks:List Nat) (q:Nat),q+ks.sum≤n→qa (s.take n) ks q=qa s ks q
 | [],_,_=>rfl
 | k::ks,q,h=>by
  rw[List.sum_cons] at h
  unfold qa
  rw[n9 s n ks (q+k) (by omega)]
  congr 1
  unfold vI
  rw[List.drop_take,List.take_take,Nat.min_eq_left (by omega)]
def pOf (s:List UInt8):Pfx:=⟨vI s 0 8,vI s 8 4,vI s 12 4,vI s 17 4 % 4294967296,vI s 21 2,vI s 23 4,vI s 27 8,vI s 35 8,vI s 43 8,vI s 51 2,vI s 53 4,vI s 57 4⟩
def eOf (s:List UInt8):Int:=ckE (vI s 8 4) (vI s 16 1) (vI s 57 4)
theorem iV (s:List UInt8) (h:61≤s.length):pL s 0=if eOf s=0 then .ok (pOf s,61) else .error (eOf s):=by
 rw[pL,Pr.bind_of (mO s KS 0 (by show 0+61≤ _; omega))]
 show (if eOf s=0 then Pr.ret (pOf s) else Pr.err (eOf s)) s 61= _
 by_cases he:eOf s=0
 ·rw[if_pos he,if_pos he]; rfl
 ·rw[if_neg he,if_neg he]; rfl
theorem vj (s:List UInt8) (h:61≤s.length) (hl:s.length≤1000000):(eOf s=0∧di ⟨s,0,0⟩=some (pOf s,⟨s.drop 61,61,0⟩))∨(eOf s≠0∧ ∃ st:I,di ⟨s,0,0⟩=some (zP,st)∧st.err=eOf s):=by
 have h1:=iV s h
 rcases tS.run s 0 hl (yw _) with⟨e,st,p1,g1,x1,y1⟩ | ⟨b,r,p1,g1,n1,l1⟩
 ·rw[p1] at h1
  by_cases he:eOf s=0
  ·rw[if_pos he] at h1; exact nomatch h1
  ·rw[if_neg he] at h1
   injection h1 with h1
   exact .inr ⟨he,st,g1,by rw[x1,h1]⟩
 ·rw[p1] at h1
  by_cases he:eOf s=0
  ·rw[if_pos he] at h1
   injection h1 with h1
   obtain⟨rfl,rfl⟩:=yy h1
   exact .inl ⟨he,g1⟩
  ·rw[if_neg he] at h1; exact nomatch h1
theorem tb (s:List UInt8) (h:61≤s.length):okI KS (qa s KS 0):=((lR KS tP).spell s 0 _ _ (yw _) (mO s KS 0 (by show 0+61≤ _; omega))).2.2.2.2
theorem lX (s:List UInt8) (h:61≤s.length) (hl:s.length≤1000000):bc s=some (if eOf s=0 then (vI s 8 4+12,0) else (0,eOf s)):=by
 have hv:=(tb s h).2.1
 have hb:bq (vI s 8 4) 4=true:=hv
 rw[gp] at hb
 have hb:=of_decide_eq_true hb
 have ht:(s.take 61).length=61:=by rw[yj]; omega
 have e0:=n9 s 61 KS 0 (by decide)
 have e1:pOf (s.take 61)=pOf s:=by
  have:=congrArg (fun l:List Int=>(l[0]?,l[1]?,l[2]?,l[4]?,l[5]?,l[6]?,l[7]?,l[8]?,l[9]?,l[10]?,l[11]?,l[12]?)) e0
  simp only[qa,KS,List.getElem?_cons_zero,List.getElem?_cons_succ,Prod.mk.injEq,Option.some.injEq,Nat.zero_add,Nat.reduceAdd] at this
  obtain⟨q1,q2,q3,q4,q5,q6,q7,q8,q9,q10,q11,q12⟩:=this
  unfold pOf
  rw[q1,q2,q3,q4,q5,q6,q7,q8,q9,q10,q11,q12]
 have e2:eOf (s.take 61)=eOf s:=by
  have:=congrArg (fun l:List Int=>(l[1]?,l[3]?,l[12]?)) e0
  simp only[qa,KS,List.getElem?_cons_zero,List.getElem?_cons_succ,Prod.mk.injEq,Option.some.injEq,Nat.zero_add,Nat.reduceAdd] at this
  obtain⟨q1,q2,q3⟩:=this
  unfold eOf
  rw[q1,q2,q3]
 unfold bc
 rw[if_neg (by omega),if_pos h,ge _ (by rw[ht]; decide),xP]
 rcases vj (s.take 61) (by omega) (by omega) with⟨r1,r2⟩ | ⟨r1,st,r2,r3⟩
 ·rw[r2,xP]
  rw[e2] at r1
  dsimp only
  rw[bX,xP]
  dsimp only
  rw[if_pos rfl,e1,if_pos r1]
  show (if -9223372036854775808≤vI s 8 4+12∧vI s 8 4+12≤9223372036854775807 then _ else _)= _
  rw[if_pos (by omega)]
  rfl
 ·rw[r2,xP]
  rw[e2] at r1 r3
  dsimp only
  rw[bX,xP]
  dsimp only
  rw[r3,if_neg r1,if_neg r1]
theorem de (s:List UInt8) (n a k:Nat) (h:a+k≤n):vI (s.take n) a k=vI s a k:=by
 unfold vI
 rw[List.drop_take,List.take_take,Nat.min_eq_left (by omega)]
theorem gN (s:List UInt8) (n:Nat) (h:61≤n):eOf (s.take n)=eOf s:=by
 unfold eOf
 rw[de s n 8 4 (by omega),de s n 16 1 (by omega),de s n 57 4 (by omega)]
theorem uu (s:List UInt8) (n:Nat) (h:61≤n):pOf (s.take n)=pOf s:=by
 unfold pOf
 rw[de s n 0 8 (by omega),de s n 8 4 (by omega),de s n 12 4 (by omega),de s n 17 4 (by omega),de s n 21 2 (by omega),de s n 23 4 (by omega),de s n 27 8 (by omega),de s n 35 8 (by omega),de s n 43 8 (by omega),de s n 51 2 (by omega),de s n 53 4 (by omega),de s n 57 4 (by omega)]
def cj (s:List UInt8):Nat:=(vI s 8 4+12).toNat
theorem gO (s:List UInt8) (n:Nat) (h:61≤n):cj (s.take n)=cj s:=by
 unfold cj
 rw[de s n 8 4 (by omega)]
theorem eg {s:List UInt8} (h:eOf s=0):61≤cj s∧cj s=61+((pOf s).xD - 49).toNat:=by
 have h1:=(pN h).2.1
 have e:(pOf s).xD=vI s 8 4:=rfl
 rw[e]
 unfold cj
 omega
theorem oV {s:List UInt8} (h61:61≤s.length) (h0:eOf s=0) (hl:cj s≤s.length):fV s 0=(if ((s9 (pOf s) ((s.drop 61).take ((pOf s).xD - 49).toNat):Nat):Int)=(pOf s).xG then (match ji (pOf s) ((s.drop 61).take ((pOf s).xD - 49).toNat) with | .error e=> .error e | .ok b=> .ok (b,cj s)) else .error 5):=by
 obtain⟨h1,h2⟩:=eg h0
 unfold fV
 rw[iV s h61,if_pos h0]
 dsimp only
 rw[if_neg (by omega),h2]
 all_goals rfl
theorem kr {s:List UInt8} (t:List UInt8) (h61:61≤s.length) (h0:eOf s=0) (hl:cj s≤s.length):fV (s++t) 0=fV s 0:=by
 obtain⟨h1,h2⟩:=eg h0
 have e1:eOf (s++t)=eOf s:=by have:=gN (s++t) s.length h61; rw[List.take_left] at this; exact this.symm
 have e2:pOf (s++t)=pOf s:=by have:=uu (s++t) s.length h61; rw[List.take_left] at this; exact this.symm
 have e3:cj (s++t)=cj s:=by have:=gO (s++t) s.length h61; rw[List.take_left] at this; exact this.symm
 have e4:((s++t).drop 61).take ((pOf s).xD - 49).toNat=(s.drop 61).take ((pOf s).xD - 49).toNat:=by
  rw[List.drop_append_of_le_length h61,List.take_append_of_le_length (by rw[xT]; omega)]
 rw[oV (s:=s++t) (by rw[xR]; omega) (e1.trans h0) (by rw[e3,xR]; omega),oV h61 h0 hl,e2,e3,e4]
theorem tc {s:List UInt8} (h61:61≤s.length) (h0:eOf s=0) (hl:cj s≤s.length):fV (s.take (cj s)) 0=fV s 0:=by
 obtain⟨h1,h2⟩:=eg h0
 have h:=kr (s:=s.take (cj s)) (s.drop (cj s)) (by rw[yj]; omega) ((gN s _ h1).trans h0) (by rw[gO s _ h1,yj]; omega)
 rw[List.take_append_drop] at h
 exact h.symm
theorem gP {s:List UInt8} {b:Bat} {r:Nat} (h61:61≤s.length) (h0:eOf s=0) (hl:cj s≤s.length) (h:fV s 0= .ok (b,r)):r=cj s:=by
 rw[oV h61 h0 hl] at h
 split at h
 ·split at h
  ·exact nomatch h
  ·exact (congrArg Prod.snd (Except.ok.inj h)).symm
 ·exact nomatch h
def scn:Nat→List UInt8→List Bat×List UInt8×Int
 | 0,s=>([],s,0)
 | n+1,s=>if s.length<61 then ([],s,0) else if eOf s≠0 then ([],s,eOf s) else if s.length<cj s then ([],s,0) else
  match fV s 0 with
  | .error e=>([],s,e)
  | .ok (b,r)=>(b::(scn n (s.drop r)).1,(scn n (s.drop r)).2)
theorem gQ {n:Nat} {s:List UInt8} (h:s.length<61):scn n s=([],s,0):=by
 cases n with
 | zero=>rfl
 | succ n=>unfold scn; rw[if_pos h]
theorem qb: ∀ (n m:Nat) (s:List UInt8),s.length≤n→s.length≤m→scn n s=scn m s
 | 0,m,s,h1,h2=>by rw[gQ (by omega),gQ (by omega)]
 | n+1,0,s,h1,h2=>by rw[gQ (by omega),gQ (by omega)]
 | n+1,m+1,s,h1,h2=>by
  unfold scn
  by_cases c1:s.length<61
  ·rw[if_pos c1,if_pos c1]
  rw[if_neg c1,if_neg c1]
  by_cases c2:eOf s≠0
  ·rw[if_pos c2,if_pos c2]
  rw[if_neg c2,if_neg c2]
  by_cases c3:s.length<cj s
  ·rw[if_pos c3,if_pos c3]
  rw[if_neg c3,if_neg c3]
  have h0:eOf s=0:=Decidable.not_not.1 c2
  have hz:=(eg h0).1
  cases hp:fV s 0 with
  | error e=>rfl
  | ok x =>
   obtain⟨b,r⟩:=x
   have hr:=gP (by omega) h0 (by omega) hp
   dsimp only
   rw[qb n m (s.drop r) (by rw[xT]; omega) (by rw[xT]; omega)]
def Scn (s:List UInt8):List Bat×List UInt8×Int:=scn s.length s
theorem cR {s:List UInt8} (h:s.length<61):Scn s=([],s,0):=gQ h
theorem kt {s:List UInt8} (h61:61≤s.length) (h:eOf s≠0):Scn s=([],s,eOf s):=by
 unfold Scn
 rw[show s.length=(s.length - 1)+1 by omega,scn,if_neg (by omega),if_pos h]
theorem iJ {s:List UInt8} (h61:61≤s.length) (h:eOf s=0) (hl:s.length<cj s):Scn s=([],s,0):=by
 unfold Scn
 rw[show s.length=(s.length - 1)+1 by omega,scn,if_neg (by omega),if_neg (fun hh=>hh h),if_pos hl]
theorem ku {s:List UInt8} {e:Int} (h61:61≤s.length) (h:eOf s=0) (hl:cj s≤s.length) (hp:fV s 0= .error e):Scn s=([],s,e):=by
 unfold Scn
 rw[show s.length=(s.length - 1)+1 by omega,scn,if_neg (by omega),if_neg (fun hh=>hh h),if_neg (by omega),hp]
theorem fW {s:List UInt8} {b:Bat} {r:Nat} (h61:61≤s.length) (h:eOf s=0) (hl:cj s≤s.length) (hp:fV s 0= .ok (b,r)):Scn s=(b::(Scn (s.drop r)).1,(Scn (s.drop r)).2):=by
 have hr:=gP h61 h hl hp
 have hz:=(eg h).1
 unfold Scn
 conv=>lhs; rw[show s.length=(s.length - 1)+1 by omega]
 rw[scn,if_neg (by omega),if_neg (fun hh=>hh h),if_neg (by omega),hp]
 dsimp only
 rw[qb (s.length - 1) (s.drop r).length (s.drop r) (by rw[xT]; omega) (yn _)]
theorem qc: ∀ (n:Nat) (s t:List UInt8),s.length≤n→s.length≤1000000→(Scn s).2.2=0→Scn (s++t)=((Scn s).1++(Scn ((Scn s).2.1++t)).1,(Scn ((Scn s).2.1++t)).2)
 | 0,s,t,hn,hs,h=>by
  have:s = []:=List.length_eq_zero_iff.1 (by omega)
  subst this
  rw[cR (s := []) (by decide)]
  rfl
 | n+1,s,t,hn,hs,h=>by
  by_cases c1:s.length<61
  ·rw[cR c1]; rfl
  have h61:61≤s.length:=by omega
  by_cases c2:eOf s=0
  rotate_left
  ·rw[kt h61 c2] at h; exact absurd h c2
  by_cases c3:s.length<cj s
  ·rw[iJ h61 c2 c3]; rfl
  have hl:cj s≤s.length:=by omega
  have hz:=(eg c2).1
  cases hp:fV s 0 with
  | error e =>
   rw[ku h61 c2 hl hp] at h
   exact absurd h (B_bat.nz s 0 e hs (yw _) hp)
  | ok x =>
   obtain⟨b,r⟩:=x
   have hr:=gP h61 c2 hl hp
   have e1:eOf (s++t)=0:=by have:=gN (s++t) s.length h61; rw[List.take_left] at this; rw[← this]; exact c2
   have e3:cj (s++t)=cj s:=by have:=gO (s++t) s.length h61; rw[List.take_left] at this; exact this.symm
   rw[fW h61 c2 hl hp] at h ⊢
   rw[fW (s:=s++t) (by rw[xR]; omega) e1 (by rw[e3,xR]; omega) ((kr t h61 c2 hl).trans hp),List.drop_append_of_le_length (by omega)]
   have ih:=qc n (s.drop r) t (by rw[xT]; omega) (by rw[xT]; omega) h
   rw[ih]
   rfl
theorem oa: ∀ (n:Nat) (s t:List UInt8),s.length≤n→(Scn s).2.2≠0→Scn (s++t)=((Scn s).1,(Scn s).2.1++t,(Scn s).2.2)
 | 0,s,t,hn,h=>by
  rw[cR (s:=s) (by omega)] at h
  exact absurd rfl h
 | n+1,s,t,hn,h=>by
  by_cases c1:s.length<61
  ·rw[cR c1] at h; exact absurd rfl h
  have h61:61≤s.length:=by omega
  have e1:eOf (s++t)=eOf s:=by have:=gN (s++t) s.length h61; rw[List.take_left] at this; exact this.symm
  have e3:cj (s++t)=cj s:=by have:=gO (s++t) s.length h61; rw[List.take_left] at this; exact this.symm
  have hlt:61≤(s++t).length:=by rw[xR]; omega
  by_cases c2:eOf s=0
  rotate_left
  ·rw[kt h61 c2,kt hlt (by rw[e1]; exact c2),e1]
  by_cases c3:s.length<cj s
  ·rw[iJ h61 c2 c3] at h; exact absurd rfl h
  have hl:cj s≤s.length:=by omega
  have hz:=(eg c2).1
  have hl2:cj (s++t)≤(s++t).length:=by rw[e3,xR]; omega
  cases hp:fV s 0 with
  | error e=>rw[ku h61 c2 hl hp,ku hlt (e1.trans c2) hl2 ((kr t h61 c2 hl).trans hp)]
  | ok x =>
   obtain⟨b,r⟩:=x
   have hr:=gP h61 c2 hl hp
   rw[fW h61 c2 hl hp] at h ⊢
   rw[fW hlt (e1.trans c2) hl2 ((kr t h61 c2 hl).trans hp),List.drop_append_of_le_length (by omega)]
   have ih:=oa n (s.drop r) t (by rw[xT]; omega) h
   rw[ih]
theorem gR: ∀ (n:Nat) (s:List UInt8),s.length≤n→s=aN aK (Scn s).1++(Scn s).2.1∧ ∀ b,b∈(Scn s).1→okB b
 | 0,s,hn=>by
  rw[cR (s:=s) (by omega)]
  exact⟨rfl,fun b h=>nomatch h⟩
 | n+1,s,hn=>by
  by_cases c1:s.length<61
  ·rw[cR c1]; exact⟨rfl,fun b h=>nomatch h⟩
  have h61:61≤s.length:=by omega
  by_cases c2:eOf s=0
  rotate_left
  ·rw[kt h61 c2]; exact⟨rfl,fun b h=>nomatch h⟩
  by_cases c3:s.length<cj s
  ·rw[iJ h61 c2 c3]; exact⟨rfl,fun b h=>nomatch h⟩
  have hl:cj s≤s.length:=by omega
  have hz:=(eg c2).1
  cases hp:fV s 0 with
  | error e=>rw[ku h61 c2 hl hp]; exact⟨rfl,fun b h=>nomatch h⟩
  | ok x =>
   obtain⟨b,r⟩:=x
   have hr:=gP h61 c2 hl hp
   obtain⟨a1,a2,a3,a4,a5⟩:=ro.spell s 0 b r (yw _) hp
   rw[List.take_zero,yk] at a4
   obtain⟨i1,i2⟩:=gR n (s.drop r) (by rw[xT]; omega)
   rw[fW h61 c2 hl hp]
   refine⟨?_,fun x hx=> ?_⟩
   ·show s=(aK b++aN aK (Scn (s.drop r)).1)++(Scn (s.drop r)).2.1
    rw[ya,← i1,← a4,List.take_append_drop]
   ·rcases List.mem_cons.1 hx with rfl | hx
    ·exact a5
    ·exact i2 x hx
theorem vk {b:Bat} (t:List UInt8) (h:okB b):Scn (aK b++t)=(b::(Scn t).1,(Scn t).2):=by
 have hb:=ro.back (aK b++t) t 0 b (yw _) h (by rw[List.drop_zero])
 rw[Nat.zero_add] at hb
 have h1:=iU h
 have h61:61≤(aK b++t).length:=by rw[xR]; omega
 have h0:eOf (aK b++t)=0:=by
  apply Decidable.byContradiction
  intro hc
  unfold fV at hb
  rw[iV _ h61,if_neg hc] at hb
  exact nomatch hb
 have hsz:cj (aK b++t)=(aK b).length:=by
  obtain⟨g1,g2⟩:=eg h0
  unfold fV at hb
  rw[iV _ h61,if_pos h0] at hb
  dsimp only at hb
  split at hb
  ·exact nomatch hb
  ·split at hb
   ·split at hb
    ·exact nomatch hb
    ·rw[g2]; exact congrArg Prod.snd (Except.ok.inj hb)
   ·exact nomatch hb
 rw[fW h61 h0 (by rw[hsz,xR]; omega) hb,List.drop_left]
theorem mP: ∀ (l:List Bat) (t:List UInt8),(∀ b,b∈l→okB b)→Scn (aN aK l++t)=(l++(Scn t).1,(Scn t).2)
 | [],t,_=>rfl
 | b::l,t,h=>by
  rw[aN,ya,vk _ (h b (.head _)),mP l t (fun x hx=>h x (.tail _ hx))]
  rfl
theorem vl {b:Bat} (h:okB b) {k:Nat} (hk:k<(aK b).length):Scn ((aK b).take k)=([],(aK b).take k,0):=by
 have hl:((aK b).take k).length=k:=by rw[yj]; omega
 by_cases c:k<61
 ·exact cR (by omega)
 have hb:=ro.back (aK b) [] 0 b (yw _) h (by rw[List.drop_zero,yp])
 rw[Nat.zero_add] at hb
 have h1:=iU h
 have h61:61≤(aK b).length:=by omega
 have h0:eOf (aK b)=0:=by
  apply Decidable.byContradiction
  intro hc
  unfold fV at hb
  rw[iV _ h61,if_neg hc] at hb
  exact nomatch hb
 have hz:cj (aK b)=(aK b).length:=by
  obtain⟨g1,g2⟩:=eg h0
  unfold fV at hb
  rw[iV _ h61,if_pos h0] at hb
  dsimp only at hb
  split at hb
  ·exact nomatch hb
  ·split at hb
   ·split at hb
    ·exact nomatch hb
    ·rw[g2]; exact congrArg Prod.snd (Except.ok.inj hb)
   ·exact nomatch hb
 exact iJ (by omega) ((gN _ k (by omega)).trans h0) (by rw[gO _ k (by omega),hz]; omega)
def cw (g:Nat) (st:aG):Res:=sI (fun x:Option Addr×Nat => [aA g 52 #[.slice x.1 st.fheld.length x.2,.int .i64 st.fvalid,.int .i64 st.ferr],aF 5 1 u8E (.slice x.1 st.fheld.length x.2) st.fheld])
theorem bi {n:Nat} {F0:Nat→Prop} {w0:World} {e:Env} {Rs Rs':List Res} {Q:Exit→Act→World→Prop} {z:Exit} (g:Nat) (st:aG) (A0:Option Addr) (c0:Nat) (hR:Rs = [aA g 52 #[.slice A0 st.fheld.length c0,.int .i64 st.fvalid,.int .i64 st.ferr],aF 5 1 u8E (.slice A0 st.fheld.length c0) st.fheld]++Rs') (h:X n F0 w0 e (cw g st::Rs') z Q):X n F0 w0 e Rs z Q:=X.pakShut (A0,c0) hR h
theorem oW:Ones dl:=by rintro _ _ _ _ ⟨_,_,rfl,_⟩; rfl
def vm:dY := [(52,0,0),(52,1,1),(52,2,2)]
theorem ao:(vm).OK Tryz.prog:=⟨FOK.mk zr rfl yX rfl,FOK.mk zr rfl xU rfl,FOK.mk zr rfl Tryz.sizeOf34 rfl,trivial⟩
theorem mQ:Tryz.prog.follows .mixedOrders=true:=by kernel_rfl
theorem iK:BOK Tryz.prog 36 #[.int .i64 0,.int .i64 0,.int .i64 0] [(0,1),(1,1),(2,1)]:=BOK.mk Tryz.zeroValue36 Tryz.runUnderlying36 (by intro w; simp)
theorem qd:BOK Tryz.prog 52 #[.slice none 0 0,.int .i64 0,.int .i64 0] [(0,1),(1,1),(2,1)]:=BOK.mk Tryz.zeroValue52 zr (by intro w; simp)
theorem ne:SOK Tryz.prog 28 43 1 12 #[.int .i64 0,.int .i64 0,.bool false,.bool false,.bool false,.int .i64 0,.int .i64 0,.int .i64 0,.int .i64 0,.int .i64 0,.int .i64 0,.slice none 0 0]:=SOK.mk yG yb Tryz.zeroValue43 (by decide) (by kernel_rfl)
theorem ru:(Tryz.prog.info? 5).map (fun i=>(i.zero,i.size,i.bytes))=some (some (.int .u8 0),1,1):=by kernel_rfl
theorem lA:(Tryz.prog.info? 43).map (fun i=>(i.zero,i.size,i.bytes))=some (some (.agg #[.int .i64 0,.int .i64 0,.bool false,.bool false,.bool false,.int .i64 0,.int .i64 0,.int .i64 0,.int .i64 0,.int .i64 0,.int .i64 0,.slice none 0 0]),12,96):=by kernel_rfl
def g9  : Option (aG):=some (⟨[],0,0⟩:aG)
theorem lM  (r:aG) (h:g9  = some r):ar Tryz.prog 6 #[] .triv (av) (fun v A' N=> ∃ q:Nat,v=jP q∧A'=av∧N = [cw q r]):=by
 refine aJ Tryz.func6 Z Tryz.ntmps6 Z ?_
 intro F w hX
 unfold g9 at h
 refine T.seq (T.region Z (TL.run ao [0] Z Z (TL.nil (X.seq (T.seq (T.region Z ?_))))))
 refine TL.q Z .u (vT (cells:= #[.slice none 0 0,jI 0,jI 0]) qd Z (by kernel_rfl)) Z ?_
 refine TL.box Z .u Z Z (fun b3=>(TL.run ao [2] Z Z ?_))
 obtain rfl:=xO h
 exact TL.nil (X.seq (T.ret (X.nilrow 5 1 u8E (vU [1,0,0] Z (bi b3 (⟨[],0,0⟩:aG) none 0 Z (vu [1,0] Tryz.results6 (vt Z) ⟨_,Z,Z,Z⟩ (by rfl) (.inl Z)))))))
def bB (y65:List Bat) (y68:Int) (y70:List Int) (y73:Int) (y74:Int):Option (List Bat×aG):=some (y65,(⟨y70,y73,y68⟩:aG))
def bd:Nat→List Bat→List Int→Int→Int→Option (List Bat×aG)
 | 0,_,_,_,_=>none
 | m76+1,y9,y13,y16,y17=>(if 61<(y13.length:Int) then (if 61≤y13.length then ((bc (eG (y13.take 61))).bind fun (x91,x92)=>some (x91,x92)) else none) else (if y13.length≤y13.length then ((bc (eG (y13.take y13.length))).bind fun (x95,x96)=>some (x95,x96)) else none)).bind fun (y86,y87)=>if y87=0 then ((if y86=0 then some true else (if y86>(y13.length:Int) then some true else some false)).bind fun y100=>if y100=true then (some (y9,(⟨y13,y16,y17⟩:aG))) else (if 0≤y86∧y86.toNat≤y13.length then ((oh (eG (y13.take y86.toNat))).bind fun st106=>(d7 st106).bind fun (x109,st112)=>(jZ st112).bind fun (x114,st115)=>if x114=0 then (if (y9.length+1)*96≤140737488355328 then (if -9223372036854775808≤(y16+y86)∧(y16+y86)≤9223372036854775807 then (if 0≤y86∧y86.toNat≤y13.length then (bd m76 (y9 ++ [x109]) (y13.drop y86.toNat) (y16+y86) y17) else none) else none) else none) else (bB y9 x114 y13 y16 y17)) else none)) else (bB y9 y87 y13 y16 y17)
def cc (st:aG) (a1:List UInt8):Option (List Bat×aG):=if st.ferr=0 then (if st.fheld.length+a1.length≤140737488355328 then (bd ((st.fheld++bsI a1).length+1) [] (st.fheld++bsI a1) st.fvalid st.ferr) else none) else some ([],st)
theorem gS (g:Nat) (st:aG) (a1:List UInt8) (r:List Bat×aG) (h:cc st a1=some r):ar Tryz.prog 10 #[jP g,jS a1] .triv (cw g st) (fun v A' N=> ∃ (A129:Option Addr) (c130:Nat),v= .slice A129 r.1.length c130∧A'=cw g r.2∧N = [RdR (aq 12 dl) [.slice A129 r.1.length c130] r.1]):=by
 refine aJ Tryz.func10 Z Tryz.ntmps10 Z ?_
 intro F w hX
 refine T.pakOpen 0 Z ?_
 rintro⟨A1,c2⟩
 refine T.sel [0,0] Z ?_
 unfold cc at h
 refine T.seq (T.region Z (TL.run ao [0] Z Z (TL.nil (X.seq ?_))))
 refine T.scope (fun l m e Rs=>(l=0∧ ∃ (b12:Nat) (y9:List Bat) (A10:Option Addr) (c11:Nat) (y13:List Int) (A14:Option Addr) (c15:Nat) (y16:Int) (y17:Int),e = [(0,jP g),(5,.slice A10 y9.length c11),(9,jP b12)]∧Rs = [oA b12 43 12,aA g 52 #[.slice A14 y13.length c15,jI y16,jI y17],aF 43 12 dl (.slice A10 y9.length c11) y9,aF 5 1 u8E (.slice A14 y13.length c15) y13]∧bd m y9 y13 y16 y17=some r)∨(l=1∧m=0∧ ∃ (b69:Nat) (y65:List Bat) (A66:Option Addr) (c67:Nat) (y68:Int) (y70:List Int) (A71:Option Addr) (c72:Nat) (y73:Int) (y74:Int),e = [(0,jP g),(5,.slice A66 y65.length c67),(7,jI y68)]∧Rs = [oA b69 43 12,aA g 52 #[.slice A71 y70.length c72,jI y73,jI y74],aF 43 12 dl (.slice A66 y65.length c67) y65,aF 5 1 u8E (.slice A71 y70.length c72) y70]∧bB y65 y68 y70 y73 y74=some r)) ?_ ?_
 ·rintro _ m _ _ (⟨rfl,b12,y9,A10,c11,y13,A14,c15,y16,y17,rfl,rfl,h⟩ | ⟨rfl,rfl,b69,y65,A66,c67,y68,y70,A71,c72,y73,y74,rfl,rfl,h⟩)
  ·refine⟨_,Z,?_⟩
   cases m with
   | zero=>rw[bd] at h; cases h
   | succ m76 =>
    rw[bd] at h
    refine T.seq ?_
    obtain⟨⟨y86,y87⟩,h,hk88⟩:=xL h
    refine wn (fun e Rs=>e = [(0,jP g),(5,.slice A10 y9.length c11),(6,jI y86),(7,jI y87),(9,jP b12)]∧Rs = [oA b12 43 12,aA g 52 #[.slice A14 y13.length c15,jI y16,jI y17],aF 43 12 dl (.slice A10 y9.length c11) y9,aF 5 1 u8E (.slice A14 y13.length c15) y13]) ?_ ?_
    ·clear hk88
     refine vQ (.q 0 (.q 1 (.q 2 (.q 3 (.q 4 (.q 5 (.q 6 (.q 7 (.q 8 (.q 9 (.q 10 (.q 11 (.e 12 (.q 13 (.q 14 (.q 15 (.q 16 (.q 17 .nil)))))))))))))))))) [0,0,0,0] Z mQ (NoP.seq (NoP.seq (NoP.jm aO))) (by kernel_rfl) ?_
     refine TD.run ao [0,1,2] Z Z (TD.q Z .u (vr 1 Z yx Z Z) Z (TD.run ao [4,5,6] Z Z (TD.q Z .u (vr 1 Z yx Z Z) Z (TD.q Z .u (vH Z yc) Z ?_))))
     rcases jF h with⟨c89,h⟩ | ⟨c89,h⟩
     ·refine TD.q Z .u (Ex.miny Z Z c89) Z ?_
      replace h:=ak h
      obtain⟨c90,h⟩:=h
      refine TD.q Z .u (wh (k:=61) 3 Z Z yc yH (.some Z Z) c90) Z (TD.q Z .u (xl (k:=61) 3 Z Z c90 yc xY yE) Z ?_)
      obtain⟨⟨x91,x92⟩,hx93,h⟩:=xL h
      try dsimp only at h
      refine vY Z .u (.fn Tryz.call20 Z) (fP (eG (y13.take 61)) _ hx93) (fun _ hs=>(vy _ _)) Z [0,0,0,0] (Z) (TD.run ao [13,14,15,16,17] Z Z ?_)
      cases h
      exact TD.nil (vN [0,0,0,0] ⟨Z,Z⟩ (by rfl) (by rfl))
     ·refine TD.q Z .u (Ex.minx Z Z c89) Z ?_
      replace h:=ak h
      obtain⟨c94,h⟩:=h
      refine TD.q Z .u (wh (k:=y13.length) 3 Z Z yc yH (.some Z Z) c94) Z (TD.q Z .u (xl (k:=y13.length) 3 Z Z c94 yc xY yE) Z ?_)
      obtain⟨⟨x95,x96⟩,hx97,h⟩:=xL h
      try dsimp only at h
      refine vY Z .u (.fn Tryz.call20 Z) (fP (eG (y13.take y13.length)) _ hx97) (fun _ hs=>(vy _ _)) Z [0,0,0,0] (Z) (TD.run ao [13,14,15,16,17] Z Z ?_)
      cases h
      exact TD.nil (vN [0,0,0,0] ⟨Z,Z⟩ (by rfl) (by rfl))
    ·rintro _ _ ⟨rfl,rfl⟩
     clear h
     have h:=hk88
     clear hk88
     try dsimp only at h
     refine X.seq (T.seq (T.seq (T.region Z (TL.run ao [0,1] Z Z ?_))))
     rcases jF h with⟨c98,h⟩ | ⟨c98,h⟩
     ·refine TL.nil (X.seq (vC Z (aw (xM c98)) (T.skip (X.seq (T.seq (T.seq ?_))))))
      obtain⟨y100,h,hk101⟩:=xL h
      refine wn (fun e Rs=>e = [(0,jP g),(5,.slice A10 y9.length c11),(6,jI y86),(7,jI y87),(9,jP b12),(52,.bool y100)]∧Rs = [oA b12 43 12,aA g 52 #[.slice A14 y13.length c15,jI y16,jI y17],aF 43 12 dl (.slice A10 y9.length c11) y9,aF 5 1 u8E (.slice A14 y13.length c15) y13]) ?_ ?_
      ·clear hk101
       refine T.region Z ?_
       rcases jF h with⟨c102,h⟩ | ⟨c102,h⟩
       ·refine TL.run ao [0,1,2] Z Z ?_
        iterate 7 refine vv Z (.gn Z Z (xM c102)) Z ?_
        refine TL.q Z .u (vz Z (xM c102) Z) Z ?_
        cases h
        exact TL.nil (vN [0,0,0,0] ⟨Z,Z⟩ (by rfl) (by rfl))
       ·refine TL.run ao [0,1,2] Z Z ?_
        iterate 4 refine TL.q Z (.g Z Z (xN c102)) (vA ao Z) Z ?_
        refine TL.q Z (.g Z Z (xN c102)) (vr 1 Z yx Z Z) Z (TL.q Z (.g Z Z (xN c102)) (vH Z yc) Z (TL.q Z (.g Z Z (xN c102)) (vA ao Z) Z (TL.q Z .u (vB Z (xN c102) Z) Z ?_)))
        rcases jF h with⟨c103,h⟩ | ⟨c103,h⟩
        ·cases h
         exact TL.nil (wE (d:=52) (v':= .bool true) Z (congrArg Value.bool (xM c103)) (vN [0,0,0,0] ⟨Z,Z⟩ (by rfl) (by rfl)))
        ·cases h
         exact TL.nil (wE (d:=52) (v':= .bool false) Z (congrArg Value.bool (xN c103)) (vN [0,0,0,0] ⟨Z,Z⟩ (by rfl) (by rfl)))
      ·rintro _ _ ⟨rfl,rfl⟩
       clear h
       have h:=hk101
       clear hk101
       try dsimp only at h
       rcases jF h with⟨c104,h⟩ | ⟨c104,h⟩
       ·refine X.seq (vw Z c104 (T.seq (T.region Z (TL.run ao [0,1] Z Z ?_))))
        obtain rfl:=xO h
        exact TL.nil (X.seq (T.ret (vx (X.rj (X.shut (by decide) 2 Z (vU [0,0,0,0] Z (vU [1,2,0,0] Z (bi g (⟨y13,y16,y17⟩:aG) A14 c15 Z (vu [0,1] Tryz.results10 (vt Z) ⟨_,_,Z,Z,Z⟩ (by rfl) (.inl Z))))))))))
       ·replace c104:=xW c104
        refine X.seq (vC Z c104 (T.skip (X.seq (T.seq (T.region Z (TL.run ao [0,1,2] Z Z (TL.q Z .u (vr 1 Z yx Z Z) Z ?_)))))))
        replace h:=ak h
        obtain⟨c105,h⟩:=h
        refine TL.run ao [4] Z Z (TL.q Z .u (wh (k:=y86.toNat) 3 Z Z yc yH (.some Z (Int.toNat_of_nonneg c105.1).symm) c105.2) Z (TL.q Z .u (xl (k:=y86.toNat) 3 Z Z c105.2 yc xY yE) Z ?_))
        obtain⟨st106,hx107,h⟩:=xL h
        refine wy Z .u (.fn Tryz.call21 Z) (fE (eG (y13.take y86.toNat)) _ hx107) (fun _ hs=>(vy _ _)) Z ?_
        rintro _ _ _ ⟨b108,rfl,rfl,rfl⟩
        refine vR [0,0,0,0,0] Z (TL.run ao [8] Z Z (TL.nil (X.seq (T.seq (T.region Z ?_)))))
        obtain⟨⟨x109,st112⟩,hx113,h⟩:=xL h
        try dsimp only at h
        refine TL.run ao [0] Z Z (TL.cg0 Z .u (.fn Tryz.call22 Z) (kg b108 st106 _ hx113) (fun _ hs=>(Src.triv _)) Z ?_)
        rintro _ _ _ ⟨A110,c111,rfl,rfl,rfl⟩
        refine vR [0,0,0,0,0,0] Z (TL.stAll 2 Z .u Z Z yb Z Z Z (vR [0,0,0,0,0,0] Z (TL.nil (X.seq (T.seq (T.seq (T.region Z ?_)))))))
        obtain⟨⟨x114,st115⟩,hx116,h⟩:=xL h
        try dsimp only at h
        refine TL.run ao [0] Z Z (wc Z .u (.fn Tryz.call23 Z) (dX b108 st112 _ hx116) (fun _ hs=>(Src.triv _)) Z (TL.run ao [2] Z Z (TL.nil (X.seq (T.seq (T.region Z (TL.run ao [0,1] Z Z ?_)))))))
        rcases jF h with⟨c117,h⟩ | ⟨c117,h⟩
        ·refine TL.nil (X.seq (vC Z (aw (xM c117)) (T.skip (X.seq (T.seq (T.region Z (TL.run ao [0] Z Z (TL.q Z .u (vE (us := [jI x109.xy,jI x109.xt,.bool x109.xA,.bool x109.xE,.bool x109.xz,jI x109.xw,jI x109.xr,jI x109.xB,jI x109.xq,jI x109.xv,jI x109.xo,.slice A110 x109.xm.length c111]) 2 Z yr yb Z Z Z) Z ?_))))))))
         refine wG (cells:= #[jI x109.xy,jI x109.xt,.bool x109.xA,.bool x109.xE,.bool x109.xz,jI x109.xw,jI x109.xr,jI x109.xB,jI x109.xq,jI x109.xv,jI x109.xo,.slice A110 x109.xm.length c111]) Z .u ne Z (by kernel_rfl) Z (fun b118=> ?_)
         replace h:=ak h
         obtain⟨c119,h⟩:=h
         refine TL.app2 4 0 Z .u (us := [jI x109.xy,jI x109.xt,.bool x109.xA,.bool x109.xE,.bool x109.xz,jI x109.xw,jI x109.xr,jI x109.xB,jI x109.xq,jI x109.xv,jI x109.xo,.slice A110 x109.xm.length c111]) (u:=x109) (l:=y9) (E:=dl) Tryz.underlying28 lA Z (by decide) Z Z Z Z Z Z Z (fun w G hG=>⟨_,_,Z,hG.1⟩) (by have hq:=c119; omega) (by have hq:=c119; omega) Z (fun A120 c121=> ?_)
         refine vR [0,0,0,0,0] Z (TL.run ao [4] Z Z (TL.nil (X.seq (T.seq (T.region Z (TL.run ao [0,1,2] Z Z (TL.q Z .u (vr 3 Z xQ Z Z) Z ?_)))))))
         replace h:=ak h
         obtain⟨c122,h⟩:=h
         refine TL.run ao [4] Z Z (TL.q Z .u (Ex.add Z Z c122) Z (TL.run ao [6,7] Z Z (ww (cs':= #[.slice A14 y13.length c15,jI (y16+y86),jI y17]) Z .u Z Z xU Z Z Z Z ?_)))
         replace h:=ak h
         obtain⟨c123,h⟩:=h
         refine TL.nil (X.seq (T.seq ?_))
         refine T.join (fun e Rs=>e = [(0,jP g),(5,.slice A120 (y9 ++ [x109]).length c121),(6,jI y86),(7,jI x114),(8,jP b108),(9,jP b12),(52,.bool y100),(54,jP g),(55,jP g),(56,jP g),(57,.slice A14 y13.length c15),(58,jI y86),(59,.slice A14 y86.toNat c15),(60,.string (aC (eG (y13.take y86.toNat)))),(61,jP b108),(62,jP b108),(63,.agg #[jI x109.xy,jI x109.xt,.bool x109.xA,.bool x109.xE,.bool x109.xz,jI x109.xw,jI x109.xr,jI x109.xB,jI x109.xq,jI x109.xv,jI x109.xo,.slice A110 x109.xm.length c111]),(64,jP b108),(65,jI x114),(66,jI x114),(67,.bool (!(decide (x114=0)))),(68,.slice A10 y9.length c11),(69,.agg #[jI x109.xy,jI x109.xt,.bool x109.xA,.bool x109.xE,.bool x109.xz,jI x109.xw,jI x109.xr,jI x109.xB,jI x109.xq,jI x109.xv,jI x109.xo,.slice A110 x109.xm.length c111]),(70,.slice (some ⟨b118,0,none⟩) 1 1),(71,.slice A120 (y9 ++ [x109]).length c121),(72,jP g),(73,jP g),(74,.pointer (some ⟨g,1,none⟩)),(75,jI y16),(76,jI y86),(77,jI (y16+y86)),(78,jP g),(79,.pointer (some ⟨g,1,none⟩))]∧Rs = [aF 43 12 dl (.slice A120 (y9 ++ [x109]).length c121) (y9 ++ [x109]),InR b108 st115,aA b12 43 #[jI x109.xy,jI x109.xt,.bool x109.xA,.bool x109.xE,.bool x109.xz,jI x109.xw,jI x109.xr,jI x109.xB,jI x109.xq,jI x109.xv,jI x109.xo,.slice A110 x109.xm.length c111],aA g 52 #[.slice A14 (y13.drop y86.toNat).length c15,jI (y16+y86),jI y17],aF 5 1 u8E (.slice A14 (y13.drop y86.toNat).length c15) (y13.drop y86.toNat)]) ?_ ?_
         ·refine vQ (.q 0 (.q 1 (.q 2 (.q 3 (.q 5 (.q 6 (.q 7 (.q 9 (.q 10 (.q 11 (.q 13 (.br 4 (.br 8 (.e 12 (.q 14 (.e 15 (.e 16 (.q 17 (.q 18 (.e 19 .nil))))))) (.e 12 (.q 14 (.e 8 (.e 15 (.e 16 (.q 17 (.q 18 (.e 19 .nil))))))))) (.br 8 (.br 4 (.e 12 (.q 14 (.e 15 (.e 16 (.q 17 (.q 18 (.e 19 .nil))))))) (.e 12 (.q 14 (.br 4 (.e 15 (.e 16 (.q 17 (.q 18 (.e 19 .nil))))) (.e 15 (.e 4 (.e 16 (.q 17 (.q 18 (.e 19 .nil)))))))))) (.e 12 (.q 14 (.br 4 (.e 8 (.e 15 (.e 16 (.q 17 (.q 18 (.e 19 .nil)))))) (.e 8 (.br 4 (.e 15 (.e 16 (.q 17 (.q 18 (.e 19 .nil))))) (.e 15 (.e 4 (.e 16 (.q 17 (.q 18 (.e 19 .nil)))))))))))))))))))))))) [0,0,0] Z mQ nB (by kernel_rfl) ?_
          refine TD.run ao [0,1,2,3,5,6,7,9,10,11,13] Z Z ?_
          refine TD.br ?_ ?_
          ·refine wb Z .u (vr 3 Z yx Z Z) Z [0,0,0] Z ?_
           refine TD.br ?_ ?_
           ·refine wb Z .u (vr 3 Z yx Z Z) Z [0,0,0] Z (wb Z .u (vr 3 Z yx Z Z) Z [0,0,0] Z (TD.q Z .u (xg (k:=y86.toNat) Z yc yH Z (Int.toNat_of_nonneg c123.1).symm c123.2) Z ?_))
            refine wJ (k:=y86.toNat) 4 Z .u Tryz.underlying22 (by kernel_rfl) Z Z Z c123.2 Z [0,0,0] (Z) ?_
            refine v7 [0,0,0,0,0] Z ?_
            refine wb Z .u (wh (k:=(y13.drop y86.toNat).length) 4 Z Z yc yH (.some Z (by rw[xT])) (by rw[xT]; exact Nat.sub_le _ _)) Z [0,0,0] Z ?_
            refine TD.run ao [17,18] Z Z ?_
            refine wA (k:=(y13.drop y86.toNat).length) (ys:=(y13.drop y86.toNat)) 4 Z (by rw[xT]; exact ew _ _ c123.2) (by rw[xT]; exact Nat.sub_le _ _) ?_
            exact v7 [0,0,0,0,0] Z (wx (cs':= #[.slice A14 (y13.drop y86.toNat).length c15,jI (y16+y86),jI y17]) Z .u Z Z yX Z Z Z Z [0,0,0] (Z) (TD.nil (wo [0,0,0,0,0] ⟨Z,Z⟩ (by rfl) (by rfl))))
           ·refine wb Z .u (vr 3 Z yx Z Z) Z [0,0,0] Z (TD.q Z .u (xg (k:=y86.toNat) Z yc yH Z (Int.toNat_of_nonneg c123.1).symm c123.2) Z (wb Z .u (vr 3 Z yx Z Z) Z [0,0,0] Z ?_))
            refine wJ (k:=y86.toNat) 4 Z .u Tryz.underlying22 (by kernel_rfl) Z Z Z c123.2 Z [0,0,0] (Z) ?_
            refine v7 [0,0,0,0,0] Z ?_
            refine wb Z .u (wh (k:=(y13.drop y86.toNat).length) 4 Z Z yc yH (.some Z (by rw[xT])) (by rw[xT]; exact Nat.sub_le _ _)) Z [0,0,0] Z ?_
            refine TD.run ao [17,18] Z Z ?_
            refine wA (k:=(y13.drop y86.toNat).length) (ys:=(y13.drop y86.toNat)) 4 Z (by rw[xT]; exact ew _ _ c123.2) (by rw[xT]; exact Nat.sub_le _ _) ?_
            exact v7 [0,0,0,0,0] Z (wx (cs':= #[.slice A14 (y13.drop y86.toNat).length c15,jI (y16+y86),jI y17]) Z .u Z Z yX Z Z Z Z [0,0,0] (Z) (TD.nil (wo [0,0,0,0,0] ⟨Z,Z⟩ (by rfl) (by rfl))))
          ·refine TD.br ?_ ?_
           ·refine wb Z .u (vr 3 Z yx Z Z) Z [0,0,0] Z ?_
            refine TD.br ?_ ?_
            ·refine wb Z .u (vr 3 Z yx Z Z) Z [0,0,0] Z (wb Z .u (vr 3 Z yx Z Z) Z [0,0,0] Z (TD.q Z .u (xg (k:=y86.toNat) Z yc yH Z (Int.toNat_of_nonneg c123.1).symm c123.2) Z ?_))
             refine wJ (k:=y86.toNat) 4 Z .u Tryz.underlying22 (by kernel_rfl) Z Z Z c123.2 Z [0,0,0] (Z) ?_
             refine v7 [0,0,0,0,0] Z ?_
             refine wb Z .u (wh (k:=(y13.drop y86.toNat).length) 4 Z Z yc yH (.some Z (by rw[xT])) (by rw[xT]; exact Nat.sub_le _ _)) Z [0,0,0] Z ?_
             refine TD.run ao [17,18] Z Z ?_
             refine wA (k:=(y13.drop y86.toNat).length) (ys:=(y13.drop y86.toNat)) 4 Z (by rw[xT]; exact ew _ _ c123.2) (by rw[xT]; exact Nat.sub_le _ _) ?_
             exact v7 [0,0,0,0,0] Z (wx (cs':= #[.slice A14 (y13.drop y86.toNat).length c15,jI (y16+y86),jI y17]) Z .u Z Z yX Z Z Z Z [0,0,0] (Z) (TD.nil (wo [0,0,0,0,0] ⟨Z,Z⟩ (by rfl) (by rfl))))
            ·refine wb Z .u (vr 3 Z yx Z Z) Z [0,0,0] Z (TD.q Z .u (xg (k:=y86.toNat) Z yc yH Z (Int.toNat_of_nonneg c123.1).symm c123.2) Z ?_)
             refine TD.br ?_ ?_
             ·refine wb Z .u (vr 3 Z yx Z Z) Z [0,0,0] Z ?_
              refine wJ (k:=y86.toNat) 4 Z .u Tryz.underlying22 (by kernel_rfl) Z Z Z c123.2 Z [0,0,0] (Z) ?_
              refine v7 [0,0,0,0,0] Z ?_
              refine wb Z .u (wh (k:=(y13.drop y86.toNat).length) 4 Z Z yc yH (.some Z (by rw[xT])) (by rw[xT]; exact Nat.sub_le _ _)) Z [0,0,0] Z ?_
              refine TD.run ao [17,18] Z Z ?_
              refine wA (k:=(y13.drop y86.toNat).length) (ys:=(y13.drop y86.toNat)) 4 Z (by rw[xT]; exact ew _ _ c123.2) (by rw[xT]; exact Nat.sub_le _ _) ?_
              exact v7 [0,0,0,0,0] Z (wx (cs':= #[.slice A14 (y13.drop y86.toNat).length c15,jI (y16+y86),jI y17]) Z .u Z Z yX Z Z Z Z [0,0,0] (Z) (TD.nil (wo [0,0,0,0,0] ⟨Z,Z⟩ (by rfl) (by rfl))))
             ·refine wJ (k:=y86.toNat) 4 Z .u Tryz.underlying22 (by kernel_rfl) Z Z Z c123.2 Z [0,0,0] (Z) ?_
              refine v7 [0,0,0,0,0] Z (wb Z .u (vr 3 Z yx Z Z) Z [0,0,0] Z ?_)
              refine wb Z .u (wh (k:=(y13.drop y86.toNat).length) 4 Z Z yc yH (.some Z (by rw[xT])) (by rw[xT]; exact Nat.sub_le _ _)) Z [0,0,0] Z ?_
              refine TD.run ao [17,18] Z Z ?_
              refine wA (k:=(y13.drop y86.toNat).length) (ys:=(y13.drop y86.toNat)) 4 Z (by rw[xT]; exact ew _ _ c123.2) (by rw[xT]; exact Nat.sub_le _ _) ?_
              exact v7 [0,0,0,0,0] Z (wx (cs':= #[.slice A14 (y13.drop y86.toNat).length c15,jI (y16+y86),jI y17]) Z .u Z Z yX Z Z Z Z [0,0,0] (Z) (TD.nil (wo [0,0,0,0,0] ⟨Z,Z⟩ (by rfl) (by rfl))))
           ·refine wb Z .u (vr 3 Z yx Z Z) Z [0,0,0] Z (TD.q Z .u (xg (k:=y86.toNat) Z yc yH Z (Int.toNat_of_nonneg c123.1).symm c123.2) Z ?_)
            refine TD.br ?_ ?_
            ·refine wb Z .u (vr 3 Z yx Z Z) Z [0,0,0] Z (wb Z .u (vr 3 Z yx Z Z) Z [0,0,0] Z ?_)
             refine wJ (k:=y86.toNat) 4 Z .u Tryz.underlying22 (by kernel_rfl) Z Z Z c123.2 Z [0,0,0] (Z) ?_
             refine v7 [0,0,0,0,0] Z ?_
             refine wb Z .u (wh (k:=(y13.drop y86.toNat).length) 4 Z Z yc yH (.some Z (by rw[xT])) (by rw[xT]; exact Nat.sub_le _ _)) Z [0,0,0] Z ?_
             refine TD.run ao [17,18] Z Z ?_
             refine wA (k:=(y13.drop y86.toNat).length) (ys:=(y13.drop y86.toNat)) 4 Z (by rw[xT]; exact ew _ _ c123.2) (by rw[xT]; exact Nat.sub_le _ _) ?_
             exact v7 [0,0,0,0,0] Z (wx (cs':= #[.slice A14 (y13.drop y86.toNat).length c15,jI (y16+y86),jI y17]) Z .u Z Z yX Z Z Z Z [0,0,0] (Z) (TD.nil (wo [0,0,0,0,0] ⟨Z,Z⟩ (by rfl) (by rfl))))
            ·refine wb Z .u (vr 3 Z yx Z Z) Z [0,0,0] Z ?_
             refine TD.br ?_ ?_
             ·refine wb Z .u (vr 3 Z yx Z Z) Z [0,0,0] Z ?_
              refine wJ (k:=y86.toNat) 4 Z .u Tryz.underlying22 (by kernel_rfl) Z Z Z c123.2 Z [0,0,0] (Z) ?_
              refine v7 [0,0,0,0,0] Z ?_
              refine wb Z .u (wh (k:=(y13.drop y86.toNat).length) 4 Z Z yc yH (.some Z (by rw[xT])) (by rw[xT]; exact Nat.sub_le _ _)) Z [0,0,0] Z ?_
              refine TD.run ao [17,18] Z Z ?_
              refine wA (k:=(y13.drop y86.toNat).length) (ys:=(y13.drop y86.toNat)) 4 Z (by rw[xT]; exact ew _ _ c123.2) (by rw[xT]; exact Nat.sub_le _ _) ?_
              exact v7 [0,0,0,0,0] Z (wx (cs':= #[.slice A14 (y13.drop y86.toNat).length c15,jI (y16+y86),jI y17]) Z .u Z Z yX Z Z Z Z [0,0,0] (Z) (TD.nil (wo [0,0,0,0,0] ⟨Z,Z⟩ (by rfl) (by rfl))))
             ·refine wJ (k:=y86.toNat) 4 Z .u Tryz.underlying22 (by kernel_rfl) Z Z Z c123.2 Z [0,0,0] (Z) ?_
              refine v7 [0,0,0,0,0] Z (wb Z .u (vr 3 Z yx Z Z) Z [0,0,0] Z ?_)
              refine wb Z .u (wh (k:=(y13.drop y86.toNat).length) 4 Z Z yc yH (.some Z (by rw[xT])) (by rw[xT]; exact Nat.sub_le _ _)) Z [0,0,0] Z ?_
              refine TD.run ao [17,18] Z Z ?_
              refine wA (k:=(y13.drop y86.toNat).length) (ys:=(y13.drop y86.toNat)) 4 Z (by rw[xT]; exact ew _ _ c123.2) (by rw[xT]; exact Nat.sub_le _ _) ?_
              exact v7 [0,0,0,0,0] Z (wx (cs':= #[.slice A14 (y13.drop y86.toNat).length c15,jI (y16+y86),jI y17]) Z .u Z Z yX Z Z Z Z [0,0,0] (Z) (TD.nil (wo [0,0,0,0,0] ⟨Z,Z⟩ (by rfl) (by rfl))))
         ·rintro _ _ ⟨rfl,rfl⟩
          exact X.seq (T.seq (T.goto (X.gs (X.any (z:=12) 2 Z Z (vU [0,0,0,0,0] Z (X.gj (m:=m76) [2,2,0,1] ⟨by omega,(.inl ⟨Z,b12,(y9 ++ [x109]),A120,c121,(y13.drop y86.toNat),A14,c15,(y16+y86),y17,Z,Z,h⟩)⟩ (by rfl) (by rfl)))))))
        ·exact TL.nil (X.seq (vw Z (aH (xN c117)) (T.goto (X.gs (X.any (z:=12) 2 Z Z (vU [0,0,0,0,0,0] Z (X.gj (m:=0) [2,2,2,2] ⟨by omega,(.inr ⟨Z,Z,b12,y9,A10,c11,x114,y13,A14,c15,y16,y17,Z,Z,h⟩)⟩ (by rfl) (by rfl))))))))
     ·exact TL.nil (X.seq (vw Z (aH (xN c98)) (T.goto (X.gs (X.gj (m:=0) [0,0,0,0] ⟨by omega,(.inr ⟨Z,Z,b12,y9,A10,c11,y87,y13,A14,c15,y16,y17,Z,Z,h⟩)⟩ (by rfl) (by rfl))))))
  ·refine⟨_,Z,?_⟩
   rw[bB] at h
   refine T.seq (T.region Z (TL.run ao [0,1,2,3] Z Z (xf (cs':= #[.slice A71 y70.length c72,jI y73,jI y68]) Z .u Z Z Tryz.sizeOf34 Z Z Z Z (TL.nil (X.seq (T.seq (T.region Z (TL.run ao [0,1] Z Z ?_))))))))
   obtain rfl:=xO h
   exact TL.nil (X.seq (T.ret (X.rj (X.shut (by decide) 2 Z (vU [0,0,0,0] Z (vU [1,2,0,0] Z (bi g (⟨y70,y73,y68⟩:aG) A71 c72 Z (vu [0,1] Tryz.results10 (vt Z) ⟨_,_,Z,Z,Z⟩ (by rfl) (.inl Z)))))))))
 ·intro hl
  refine T.seq (T.region Z (TL.run ao [0] Z Z (TL.nil (X.seq (T.seq (T.region Z (TL.run ao [0] Z Z (TL.nil (X.seq (T.seq (T.region Z (TL.run ao [0] Z Z (TL.nil (X.seq (T.seq (T.region Z (TL.run ao [0] Z Z ?_)))))))))))))))))
  refine TL.nil (X.seq (T.seq (T.region Z (TL.alloc Z .u Tryz.zeroValue43 Z (fun b124=>(TL.nil (X.seq (T.seq (T.seq (T.region Z (TL.run ao [0,1,2] Z Z (TL.q Z .u (vr 1 Z Tryz.isAgg34 Z Z) Z (TL.run ao [4] Z Z ?_)))))))))))))
  rcases jF h with⟨c125,h⟩ | ⟨c125,h⟩
  ·refine TL.nil (X.seq (vC Z (aw (xM c125)) (T.skip (X.seq (T.seq (T.region Z (TL.run ao [0,1,2,3] Z Z (TL.q Z .u (vr 1 Z yx Z Z) Z ?_))))))))
   replace h:=ak h
   obtain⟨c126,h⟩:=h
   refine TL.run ao [5] Z Z (TL.appStr 2 Z .u Tryz.underlying22 Tryz.underlying9 ru Z Z Z c126 Z (fun A127 c128=>(vR [0,0,0] Z (TL.run ao [7,8] Z Z (xf (cs':= #[.slice A127 (st.fheld++bsI a1).length c128,jI st.fvalid,jI st.ferr]) Z .u Z Z yX Z Z Z Z (TL.nil (X.seq (T.seq (T.label (X.seq (T.any (z:=12) 0 Z Z (T.sel [0,0,0] Z ?_))))))))))))
   refine xe 43 12 dl ?_
   refine T.re [1,1,0,0] ?_ ?_ (hl 0 _ ((st.fheld++bsI a1).length+1) _ _ Z (.inl ⟨Z,b124,[],none,0,(st.fheld++bsI a1),A127,c128,st.fvalid,st.ferr,Z,Z,h⟩)) <;> rfl
  ·refine TL.nil (X.seq (vw Z (aH (xN c125)) (T.seq (T.region Z (TL.run ao [0] Z Z ?_)))))
   obtain rfl:=xO h
   exact TL.nil (X.seq (T.ret (vx (X.rj (we 12 dl (vU [2,2,0,0] Z (bi g st A1 c2 Z (vu [0,0] Tryz.results10 (vt Z) ⟨_,_,Z,Z,Z⟩ (by rfl) (.inl Z)))))))))
def cx (st:aG)  : Option (dO×aG):=if st.ferr=0 then (if (st.fheld.length:Int)>0 then (some ((⟨st.fvalid,1,0⟩:dO),st)) else (some ((⟨st.fvalid,0,0⟩:dO),st))) else (some ((⟨st.fvalid,2,st.ferr⟩:dO),st))
theorem gw (g:Nat) (st:aG)  (r:dO×aG) (h:cx st  = some r):ar Tryz.prog 11 #[jP g] .triv (cw g st) (fun v A' N=>v= .agg #[jI r.1.xI,jI r.1.xJ,jI r.1.xK]∧A'=cw g r.2∧N = []):=by
 refine aJ Tryz.func11 Z Tryz.ntmps11 Z ?_
 intro F w hX
 refine T.pakOpen 0 Z ?_
 rintro⟨A1,c2⟩
 refine T.sel [0,0] Z ?_
 unfold cx at h
 refine T.seq (T.region Z (TL.alloc Z .u Tryz.zeroValue36 Z (fun b3=>(TL.nil (X.seq (T.seq (T.block (T.seq (T.region Z (TL.run ao [0,1,2] Z Z (TL.q Z .u (vr 1 Z Tryz.isAgg34 Z Z) Z (TL.run ao [4,5] Z Z ?_))))))))))))
 rcases jF h with⟨c4,h⟩ | ⟨c4,h⟩
 ·refine TL.nil (X.seq (vC Z (aw (xM c4)) (T.seq (T.region Z (TL.run ao [0,1,2] Z Z (TL.q Z .u (vr 1 Z yx Z Z) Z (TL.q Z .u (vH Z yc) Z (TL.run ao [5,6] Z Z ?_))))))))
  rcases jF h with⟨c5,h⟩ | ⟨c5,h⟩
  ·refine TL.nil (X.seq (vw Z (xM c5) (T.seq (T.region Z (TL.run ao [0,1,2] Z Z (TL.q Z .u (vr 1 Z xQ Z Z) Z ?_))))))
   refine TL.q Z .u (vT (cells:= #[jI st.fvalid,jI 1,jI 0]) iK Z (by kernel_rfl)) Z ?_
   refine vG (cs':= #[jI st.fvalid,jI 1,jI 0]) Z .u Z Z yP Z Z Z Z ?_
   obtain rfl:=xO h
   exact TL.nil (X.seq (T.ret (vJ (vx (vU [1,1,0] Z (bi g st A1 c2 Z (vu [0] Tryz.results11 (wg (us:= #[jI st.fvalid,jI 1,jI 0]) 1 Z zp yP Z Z) ⟨Z,Z,Z⟩ (by rfl) (.inl Z))))))))
  ·refine TL.nil (X.seq (vC Z (xN c5) (T.skip (vF (X.seq (T.seq (T.region Z (TL.run ao [0,1,2] Z Z (TL.q Z .u (vr 1 Z xQ Z Z) Z ?_)))))))))
   refine TL.q Z .u (vT (cells:= #[jI st.fvalid,jI 0,jI 0]) iK Z (by kernel_rfl)) Z ?_
   refine vG (cs':= #[jI st.fvalid,jI 0,jI 0]) Z .u Z Z yP Z Z Z Z ?_
   obtain rfl:=xO h
   exact TL.nil (X.seq (T.ret (vU [1,1,0] Z (bi g st A1 c2 Z (vu [0] Tryz.results11 (wg (us:= #[jI st.fvalid,jI 0,jI 0]) 1 Z zp yP Z Z) ⟨Z,Z,Z⟩ (by rfl) (.inl Z))))))
 ·refine TL.nil (X.seq (vw Z (aH (xN c4)) ?_))
  refine T.seq (vQ (.q 0 (.q 1 (.q 2 (.q 3 (.q 4 (.q 5 (.q 6 (.q 7 (.q 8 (.e 9 .nil)))))))))) [1,1] Z mQ (NoP.seq (NoP.blk (NoP.seq aO))) (by kernel_rfl) ?_)
  refine TD.run ao [0,1,2] Z Z (TD.q Z .u (vr 0 Z xQ Z Z) Z (TD.run ao [4,5,6] Z Z (TD.q Z .u (vr 0 Z Tryz.isAgg34 Z Z) Z ?_)))
  refine TD.q Z .u (vT (cells:= #[jI st.fvalid,jI 2,jI st.ferr]) iK Z (by kernel_rfl)) Z ?_
  refine TD.st0 (cs':= #[jI st.fvalid,jI 2,jI st.ferr]) Z .u Z Z yP Z Z Z Z [1,1] (Z) ?_
  obtain rfl:=xO h
  exact TD.nil (X.seq (T.ret (vJ (vx (vU [1,1,0] Z (bi g st A1 c2 Z (vu [0] Tryz.results11 (wg (us:= #[jI st.fvalid,jI 2,jI st.ferr]) 1 Z zp yP Z Z) ⟨Z,Z,Z⟩ (by rfl) (.inl Z))))))))
def cM:List (List UInt8)→List Bat→aG→Option (List Bat×aG)
 | [],y7,st11=>some (y7,st11)
 | x16::xs,y7,st11=>(cc st11 x16).bind fun (x20,st23)=>if (y7.length+x20.length)*96≤140737488355328 then (cM xs (y7++x20) st23) else none
def eC (a0:List (List UInt8)):Option (List Bat×dO):=(g9).bind fun st4=>(cM a0 [] st4).bind fun (y28,st32)=>(cx st32).bind fun (x33,st34)=>some (y28,x33)
theorem gT (a0:List (List UInt8)) (A1:Option Addr) (c2:Nat) (r:List Bat×dO) (h:eC a0=some r):ar Tryz.prog 15 #[.slice A1 a0.length c2] (RX.of (aq 1 gY) [.slice A1 a0.length c2] a0) (av) (fun v A' N=> ∃ (A39:Option Addr) (c40:Nat),v= .tuple #[.slice A39 r.1.length c40,.agg #[jI r.2.xI,jI r.2.xJ,jI r.2.xK]]∧A'=av∧N = [RdR (aq 12 dl) [.slice A39 r.1.length c40] r.1]):=by
 refine aJ Tryz.func15 Z Tryz.ntmps15 Z ?_
 intro F w hX
 unfold eC at h
 refine T.seq (T.region Z (TL.run ao [0] Z Z (TL.alloc Z .u Tryz.zeroValue36 Z (fun b3=> ?_))))
 obtain⟨st4,hx5,h⟩:=xL h
 refine TL.nil (X.seq (T.seq (T.region Z (wy Z .u (.fn Tryz.call6 Z) (lM _ hx5) (fun _ hs=>(vy _ _)) Z ?_))))
 rintro _ _ _ ⟨b6,rfl,rfl,rfl⟩
 refine vR [0,0,0] Z (TL.run ao [1] Z Z (TL.nil (X.seq (T.seq (T.region Z (TL.run ao [0] Z Z (TL.nil (X.seq (T.seq (T.seq (T.region Z (TL.run ao [0] Z Z (TL.q Z .u (vH Z yU) Z (TL.run ao [2] Z Z ?_))))))))))))))
 refine TL.nil (X.seq (T.block (xe 43 12 dl ?_)))
 obtain⟨E12,hE13,hO14⟩:=xL h
 have hk18len:=wd hX
 refine v9 (fun m e Rs=> ∃ (y7:List Bat) (A8:Option Addr) (c9:Nat) (k10:Nat) (st11:aG),k10+m=a0.length∧e = [(2,.slice none 0 0),(3,jP b3),(4,jP b6),(5,.slice A8 y7.length c9),(9,.slice A1 a0.length c2),(10,jI (a0.length:Int)),(11,jI (k10:Int))]∧Rs = [aF 43 12 dl (.slice A8 y7.length c9) y7,cw b6 st11,aA b3 36 #[jI 0,jI 0,jI 0],av]∧cM (a0.drop k10) y7 st11=some E12) (a0.length) [0,0,0,0] ⟨[],none,0,0,st4,by simp,Z,Z,by rw[List.drop_zero]; exact hE13⟩ (by rfl) (by rfl) ?_
 rintro m15 _ _ ⟨y7,A8,c9,k10,st11,hk18,rfl,rfl,hl17⟩
 clear hE13 h
 cases m15 with
 | zero =>
  have h:=hl17
  clear hl17
  rw[List.drop_of_length_le (by omega),cM] at h
  have hk18ge: ¬ ((k10:Int)<(a0.length:Int)):=by omega
  refine T.seq (T.region Z (TL.run ao [0] Z Z (TL.nil (X.seq (T.seq (vC Z (xN hk18ge) ?_))))))
  obtain rfl:=xO h
  replace h:=hO14
  clear hO14
  try dsimp only at h
  refine T.exit (vD (vD (v6 (X.seq (T.seq (T.region Z ?_))))))
  obtain⟨⟨x36,st37⟩,hx38,h⟩:=xL h
  try dsimp only at h
  refine TL.run ao [0,1] Z Z (wc Z .u (.fn Tryz.call11 Z) (gw b6 st11 _ hx38) (fun _ hs=>(Src.triv _)) Z (TL.run ao [3] Z Z (TL.st2 (cs':= #[jI x36.xI,jI x36.xJ,jI x36.xK]) Z .u Z Z yP Z Z Z Z ?_)))
  obtain rfl:=xO h
  exact TL.nil (X.seq (T.ret (X.shut (by decide) 0 Z (vU [0,0,0,0] Z (vO [3,0] Tryz.results15 (vt Z) (wg (us:= #[jI x36.xI,jI x36.xJ,jI x36.xK]) 2 Z zp yP Z Z) ⟨_,_,Z,Z,Z⟩ (by rfl) (.inl Z))))))
 | succ m15 =>
  have h:=hl17
  clear hl17
  obtain⟨x16,hxx16⟩: ∃ x,a0[k10]? = some x:=⟨_,List.getElem?_eq_getElem (by omega)⟩
  rw[cm hxx16,cM] at h
  have hk18lt:(k10:Int)<(a0.length:Int):=by omega
  refine T.seq (T.region Z (TL.run ao [0] Z Z (TL.nil (X.seq (T.seq (vw Z (xM hk18lt) ?_))))))
  obtain⟨gz19,oz19,rfl,z19cs,z19cl,z19cc,z19nf,z19r⟩:=vV (by decide) hX hxx16
  obtain⟨z19S,z19r,z19rr⟩:=z19r
  obtain rfl:z19cs = [jS x16]:=z19r
  refine T.skip (X.seq (T.seq (T.block (T.seq (T.region Z ?_)))))
  refine TL.q Z .u (vM (k:=k10) Z Z Z yU yL (xS hxx16).1) Z ?_
  refine TL.q Z .u (wM 0 Z yM z19nf z19cc Z Z) Z (TL.run ao [2] Z Z (TL.nil (X.seq (T.region Z ?_))))
  obtain⟨⟨x20,st23⟩,hx24,h⟩:=xL h
  try dsimp only at h
  refine TL.run ao [0,1,2] Z Z (TL.cg1 Z .u (.fn Tryz.call10 Z) (gS b6 st11 x16 _ hx24) (fun _ hs=>(Src.triv _)) Z ?_)
  rintro _ _ _ ⟨A21,c22,rfl,rfl,rfl⟩
  refine vR [0,0,0,0,0] Z ?_
  replace h:=ak h
  obtain⟨c25,h⟩:=h
  refine TL.appB (xs:=y7) (ys:=x20) (E:=dl) 1 0 Z .u oW Tryz.underlying28 lA Z (by decide) Z Z Z Z c25 (by have hq:=c25; omega) Z (fun A26 c27=> ?_)
  exact vR [0,0,0,0] Z (TL.run ao [5] Z Z (TL.nil (vF (X.seq (T.region Z (TL.q Z .u (Ex.add Z Z (by omega)) Z (TL.run ao [1] Z Z (TL.nil (X.back (m':=m15) [0,0,0,0] (by omega) ⟨(y7++x20),A26,c27,k10+1,st23,by omega,Z,Z,h⟩ (by rfl) (by rfl))))))))))
def kY:dY := []
theorem az:(kY).OK Tryz.prog:=trivial
theorem kv:Tryz.prog.follows .mixedOrders=true:=by kernel_rfl
theorem eO:SOK Tryz.prog 26 9 1 1 #[.string ⟨#[]⟩]:=SOK.mk yU yL Tryz.zeroValue9 (by decide) (by kernel_rfl)
theorem fx:(Tryz.prog.info? 9).map (fun i=>(i.zero,i.size,i.bytes))=some (some (.string ⟨#[]⟩),1,16):=by kernel_rfl
def dC:List Int→List UInt8→List (List UInt8)→Option (List UInt8×List (List UInt8))
 | [],y3,y4=>some (y3,y4)
 | x12::xs,y3,y4=>(if -9223372036854775808≤x12∧x12≤9223372036854775807 then (if (y3.length:Int)<x12 then some (y3.length:Int) else some x12) else none).bind fun y18=>if 0≤y18∧y18.toNat≤y3.length then (if 0≤y18∧y18.toNat≤y3.length then (if (y4.length+1)*16≤140737488355328 then (dC xs (y3.drop y18.toNat) (y4 ++ [(y3.take y18.toNat)])) else none) else none) else none
def gU (a0:List UInt8) (a1:List Int):Option (List (List UInt8)):=(dC a1 a0 []).bind fun (y28,y29)=>if (y29.length+1)*16≤140737488355328 then some (y29 ++ [y28]) else none
theorem mR (a0:List UInt8) (a1:List Int) (A1:Option Addr) (c2:Nat) (r:List (List UInt8)) (h:gU a0 a1=some r):ar Tryz.prog 7 #[jS a0,.slice A1 a1.length c2] (RX.of (aq 1 u8E) [.slice A1 a1.length c2] a1) (av) (fun v A' N=> ∃ (A41:Option Addr) (c42:Nat),v= .slice A41 r.length c42∧A'=av∧N = [RdR (aq 1 gY) [.slice A41 r.length c42] r]):=by
 refine aJ Tryz.func7 Z Tryz.ntmps7 Z ?_
 intro F w hX
 unfold gU at h
 refine T.seq (T.region Z (TL.run az [0] Z Z (TL.nil (X.seq (T.seq (T.region Z (TL.run az [0] Z Z (TL.nil (X.seq (T.seq (T.seq (T.region Z (TL.run az [0] Z Z (TL.q Z .u (vH Z yc) Z (TL.run az [2] Z Z ?_)))))))))))))))
 refine TL.nil (X.seq (T.block (xe 9 1 gY ?_)))
 obtain⟨E8,hE9,hO10⟩:=xL h
 have hk14len:=wd hX
 refine v9 (fun m e Rs=> ∃ (y3:List UInt8) (y4:List (List UInt8)) (A5:Option Addr) (c6:Nat) (k7:Nat),k7+m=a1.length∧e = [(0,jS y3),(4,.slice none 0 0),(5,.slice A5 y4.length c6),(9,.slice A1 a1.length c2),(10,jI (a1.length:Int)),(11,jI (k7:Int))]∧Rs = [aF 9 1 gY (.slice A5 y4.length c6) y4,av]∧dC (a1.drop k7) y3 y4=some E8) (a1.length) [0,0] ⟨a0,[],none,0,0,by simp,Z,Z,by rw[List.drop_zero]; exact hE9⟩ (by rfl) (by rfl) ?_
 rintro m11 _ _ ⟨y3,y4,A5,c6,k7,hk14,rfl,rfl,hl13⟩
 clear hE9 h
 cases m11 with
 | zero =>
  have h:=hl13
  clear hl13
  rw[List.drop_of_length_le (by omega),dC] at h
  have hk14ge: ¬ ((k7:Int)<(a1.length:Int)):=by omega
  refine T.seq (T.region Z (TL.run az [0] Z Z (TL.nil (X.seq (T.seq (vC Z (xN hk14ge) ?_))))))
  obtain rfl:=xO h
  replace h:=hO10
  clear hO10
  try dsimp only at h
  refine T.exit (vD (vD (v6 (X.seq (T.seq (T.region Z (TL.run az [0,1] Z Z (wG (cells:= #[jS y3]) Z .u eO Z (by rfl) Z (fun b37=> ?_)))))))))
  replace h:=ak h
  obtain⟨c38,h⟩:=h
  refine TL.app1 0 Z .u (us := [jS y3]) (u:=y3) (l:=y4) (E:=gY) Tryz.underlying26 fx Z (by decide) Z Z Z Z Z Z (fun _ _=>Z) (by have hq:=c38; omega) (by have hq:=c38; omega) Z (fun A39 c40=> ?_)
  refine vR [0,0] Z (TL.run az [4] Z Z ?_)
  obtain rfl:=xO h
  exact TL.nil (X.seq (T.ret (X.shut (by decide) 0 Z (vU [0,0] Z (vu [1,0] Tryz.results7 (vt Z) ⟨_,_,Z,Z,Z⟩ (by rfl) (.inl Z))))))
 | succ m11 =>
  have h:=hl13
  clear hl13
  obtain⟨x12,hxx12⟩: ∃ x,a1[k7]? = some x:=⟨_,List.getElem?_eq_getElem (by omega)⟩
  rw[cm hxx12,dC] at h
  have hk14lt:(k7:Int)<(a1.length:Int):=by omega
  refine T.seq (T.region Z (TL.run az [0] Z Z (TL.nil (X.seq (T.seq (vw Z (xM hk14lt) ?_))))))
  obtain⟨gz15,oz15,rfl,z15cs,z15cl,z15cc,z15nf,z15r⟩:=vV (by decide) hX hxx12
  obtain⟨z15S,z15r,z15rr⟩:=z15r
  obtain rfl:z15cs = [.int .u8 x12]:=z15r
  refine T.skip (X.seq (T.seq (T.block (T.seq (T.region Z ?_)))))
  refine TL.q Z .u (vM (k:=k7) Z Z Z yc yH (xS hxx12).1) Z ?_
  refine TL.q Z .u (wM 0 Z Tryz.isAgg5 z15nf z15cc Z Z) Z (TL.run az [2] Z Z (TL.nil (X.seq (T.seq ?_))))
  obtain⟨y18,h,hk19⟩:=xL h
  refine wn (fun e Rs=>e = [(0,jS y3),(4,.slice none 0 0),(5,.slice A5 y4.length c6),(8,jI y18),(9,.slice (some ⟨gz15,oz15,none⟩) a1.length c2),(10,jI (a1.length:Int)),(11,jI (k7:Int))]∧Rs = [aF 9 1 gY (.slice A5 y4.length c6) y4,av]) ?_ ?_
  ·clear hk19
   refine T.region Z ?_
   replace h:=ak h
   obtain⟨c20,h⟩:=h
   refine TL.run az [0] Z Z (TL.q Z .u (wq Z yE yF c20) Z (TL.run az [2] Z Z (TL.q Z .u (v5 Z xY) Z ?_)))
   rcases jF h with⟨c21,h⟩ | ⟨c21,h⟩
   ·refine TL.q Z .u (Ex.miny Z Z c21) Z (TL.run az [5] Z Z ?_)
    cases h
    exact TL.nil (vN [0,0] ⟨Z,Z⟩ (by rfl) (by rfl))
   ·refine TL.q Z .u (Ex.minx Z Z c21) Z (TL.run az [5] Z Z ?_)
    cases h
    exact TL.nil (vN [0,0] ⟨Z,Z⟩ (by rfl) (by rfl))
  ·rintro _ _ ⟨rfl,rfl⟩
   clear h
   have h:=hk19
   clear hk19
   try dsimp only at h
   refine X.seq (vQ (.q 0 (.q 1 (.q 2 (.q 3 (.q 6 (.q 7 (.q 8 (.e 4 (.e 5 (.q 9 (.q 10 .nil))))))))))) [1] Z kv (NoP.blk (NoP.seq (NoP.seq (NoP.blk (NoP.seq aO))))) (by kernel_rfl) ?_)
   replace h:=ak h
   obtain⟨c22,h⟩:=h
   refine TD.run az [0,1,2] Z Z ?_
   replace c22:0≤y18∧y18.toNat≤y3.length:=c22
   refine TD.q Z .u (wC (p:=0) (q:=y18.toNat) (m:=(y3.take y18.toNat)) Z xY .none (.some Z ((Int.toNat_of_nonneg c22.1).symm)) (by first | omega | (dsimp only; omega)) (by simp)) Z ?_
   replace h:=ak h
   obtain⟨c23,h⟩:=h
   refine TD.run az [6,7] Z Z ?_
   replace c23:0≤y18∧y18.toNat≤y3.length:=c23
   refine TD.q Z .u (wC (p:=y18.toNat) (q:=y3.length) (m:=(y3.drop y18.toNat)) Z xY (.some Z ((Int.toNat_of_nonneg c23.1).symm)) .none (by first | omega | (dsimp only; omega)) (lP _ _)) Z ?_
   refine xb (cells:= #[.string (aC (y3.take y18.toNat))]) Z .u eO Z (by rfl) Z [2] (fun _=>Z) (fun b24=> ?_)
   replace h:=ak h
   obtain⟨c25,h⟩:=h
   refine TD.app1 0 Z .u (us := [.string (aC (y3.take y18.toNat))]) (u:=(y3.take y18.toNat)) (l:=y4) (E:=gY) Tryz.underlying26 fx Z (by decide) Z Z Z Z Z Z (fun _ _=>Z) (by have hq:=c25; omega) (by have hq:=c25; omega) Z [1] (fun _ _=>Z) (fun A26 c27=> ?_)
   exact v7 [0,0] Z (TD.run az [9,10] Z Z (TD.nil (vF (X.seq (T.region Z (TL.q Z .u (Ex.add Z Z (by omega)) Z (TL.run az [1] Z Z (TL.nil (X.back (m':=m11) [0,0] (by omega) ⟨(y3.drop y18.toNat),(y4 ++ [(y3.take y18.toNat)]),A26,c27,k7+1,by omega,Z,Z,h⟩ (by rfl) (by rfl))))))))))
theorem oX {α β:Type} {o:Option α} {v:α} {f:α→Option β} {r:Option β} (h:o=some v) (k:f v=r):o.bind f=r:=by rw[h]; exact k
theorem sd (l:List UInt8) (n:Nat):(bsI l).take n=bsI (l.take n):=by unfold bsI; rw[List.map_take]
theorem vn (l:List UInt8) (n:Nat):(bsI l).drop n=bsI (l.drop n):=by unfold bsI; rw[List.map_drop]
theorem bI_app (l m:List UInt8):bsI l++bsI m=bsI (l++m):=by unfold bsI; rw[List.map_append]
theorem uv (l:List UInt8):eG (bsI l)=l:=by
 unfold eG bsI
 rw[List.map_map]
 conv=>rhs; rw[← List.map_id l]
 apply List.map_congr_left
 intro c _
 simp
theorem rv {s:List UInt8} (h:s.length<61):bc s=some (0,0):=by unfold bc; rw[if_pos (by omega)]
theorem td {s:List UInt8} (h:61≤s.length) (hs:s.length≤1000000):bc (s.take 61)=bc s:=by
 rw[lX s h hs,lX (s.take 61) (by rw[yj]; omega) (by rw[yj]; omega),gN s 61 (by omega),de s 61 8 4 (by omega)]
theorem mS (s:List UInt8) (hs:s.length≤1000000):(if 61<((bsI s).length:Int) then (if 61≤(bsI s).length then ((bc (eG ((bsI s).take 61))).bind fun (x91,x92)=>some (x91,x92)) else none) else (if (bsI s).length≤(bsI s).length then ((bc (eG ((bsI s).take (bsI s).length))).bind fun (x95,x96)=>some (x95,x96)) else none))=bc s:=by
 have hl:=eo s
 have e0: ∀ o:Option (Int×Int),(o.bind fun (x91,x92)=>some (x91,x92))=o:=by intro o; cases o <;> rfl
 by_cases c:61<((bsI s).length:Int)
 ·rw[if_pos c,if_pos (by omega),e0,sd,uv,td (by omega) hs]
 ·rw[if_neg c,if_pos (yn _),e0,List.take_length,uv]
theorem uw {s:List UInt8} (h:eOf s=0):vI s 8 4+12=(cj s:Int):=by
 have h1:=(eg h).1
 unfold cj at h1 ⊢
 omega
theorem se: ∀ (fuel:Nat) (s:List UInt8) (acc:List Bat) (v:Int),s.length<fuel→s.length≤1000000→acc.length+s.length≤2000000→0≤v→v+(s.length:Int)≤1000000000 →
 bd fuel acc (bsI s) v 0=some (acc++(Scn s).1,⟨bsI (Scn s).2.1,v+((s.length:Int) - ((Scn s).2.1.length:Int)),(Scn s).2.2⟩)
 | 0,s,acc,v,h1,h2,h3,h4,h5=>by omega
 | fuel+1,s,acc,v,h1,h2,h3,h4,h5=>by
  have hl:=eo s
  rw[bd]
  by_cases c1:s.length<61
  ·refine oX ((mS s h2).trans (rv c1)) ?_
   rw[cR c1]
   dsimp only
   rw[if_pos rfl,if_pos rfl,xP,if_pos rfl,yp,Int.sub_self,Int.add_zero]
  have h61:61≤s.length:=by omega
  by_cases c2:eOf s=0
  rotate_left
  ·refine oX ((mS s h2).trans ((lX s h61 h2).trans (by rw[if_neg c2]))) ?_
   rw[kt h61 c2]
   dsimp only
   rw[if_neg c2,bB,yp,Int.sub_self,Int.add_zero]
  have hz:=(eg c2).1
  refine oX ((mS s h2).trans ((lX s h61 h2).trans (by rw[if_pos c2,uw c2]))) ?_
  dsimp only
  rw[if_pos rfl,if_neg (show ¬ ((cj s:Int)=0) by omega)]
  by_cases c3:s.length<cj s
  ·rw[if_pos (show (cj s:Int)>((bsI s).length:Int) by omega),xP,if_pos rfl,iJ h61 c2 c3]
   dsimp only
   rw[yp,Int.sub_self,Int.add_zero]
  have hsz:cj s≤s.length:=by omega
  rw[if_neg (show ¬ ((cj s:Int)>((bsI s).length:Int)) by omega),xP,if_neg (by decide),if_pos (show 0≤(cj s:Int)∧(cj s:Int).toNat≤(bsI s).length by omega),yA,sd,uv,ge _ (by rw[yj]; omega),xP]
  have hp:=tc h61 c2 hsz
  have hlt:(s.take (cj s)).length=cj s:=by rw[yj]; omega
  rcases B_bat.run (s.take (cj s)) 0 (by omega) (yw _) with⟨e,st,p1,g1,x1,y1⟩ | ⟨b,r,p1,g1,n1,l1⟩
  ·rw[List.drop_zero] at g1
   rw[hp] at p1
   rw[g1,xP]
   dsimp only
   rw[bX,xP]
   dsimp only
   rw[if_neg y1,bB,ku h61 c2 hsz p1,x1]
   dsimp only
   rw[yp,Int.sub_self,Int.add_zero]
  ·rw[List.drop_zero] at g1
   rw[hp] at p1
   have hr:=gP h61 c2 hsz p1
   subst hr
   have ih:=se fuel (s.drop (cj s)) (acc ++ [b]) (v+(cj s:Int)) (by rw[xT]; omega) (by rw[xT]; omega) (by rw[xR,yY,xT]; omega) (by omega) (by rw[xT]; omega)
   rw[g1,xP]
   dsimp only
   rw[bX,xP]
   dsimp only
   rw[if_pos rfl,if_pos (by omega),if_pos (by omega),if_pos (by omega),vn,ih,fW h61 c2 hsz p1]
   dsimp only
   rw[ya,xT,show v+(cj s:Int)+(((s.length - cj s:Nat):Int) - ((Scn (s.drop (cj s))).2.1.length:Int))=v+((s.length:Int) - ((Scn (s.drop (cj s))).2.1.length:Int)) by omega]
   rfl
theorem ux (s:List UInt8):(Scn s).2.1.length≤s.length:=by
 have h:=congrArg List.length (gR s.length s (yn _)).1
 rw[xR] at h
 omega
structure te (x:aG) (s:List UInt8):Prop where
 ok:(Scn s).2.2=0→x=⟨bsI (Scn s).2.1,(s.length:Int) - ((Scn s).2.1.length:Int),0⟩
 bad:(Scn s).2.2≠0→ ∃ h:List Int,x=⟨h,(aN aK (Scn s).1).length,(Scn s).2.2⟩
theorem sf (s:List UInt8):((aN aK (Scn s).1).length:Int)=(s.length:Int) - ((Scn s).2.1.length:Int):=by
 have h:=congrArg List.length (gR s.length s (yn _)).1
 rw[xR] at h
 omega
theorem vo {x:aG} {s c:List UInt8} (h:te x s) (hl:s.length+c.length≤1000000): ∃ y,cc x c=some ((Scn (s++c)).1.drop (Scn s).1.length,y)∧te y (s++c)∧(Scn (s++c)).1.take (Scn s).1.length=(Scn s).1:=by
 have hle:=ux s
 by_cases h0:(Scn s).2.2=0
 ·have hx:=h.ok h0
  subst hx
  have hm:=qc s.length s c (yn _) (by omega) h0
  have e1:(Scn (s++c)).1=(Scn s).1++(Scn ((Scn s).2.1++c)).1:=by rw[hm]
  have e2:(Scn (s++c)).2=(Scn ((Scn s).2.1++c)).2:=by rw[hm]
  have hle2:=ux ((Scn s).2.1++c)
  rw[xR] at hle2
  have hg:=se ((bsI ((Scn s).2.1++c)).length+1) ((Scn s).2.1++c) [] ((s.length:Int) - ((Scn s).2.1.length:Int)) (by rw[eo]; omega) (by rw[xR]; omega) (by rw[yQ,xR]; omega) (by omega) (by rw[xR]; omega)
  refine⟨⟨bsI (Scn ((Scn s).2.1++c)).2.1,(s.length:Int) - ((Scn s).2.1.length:Int)+((((Scn s).2.1++c).length:Int) - ((Scn ((Scn s).2.1++c)).2.1.length:Int)),(Scn ((Scn s).2.1++c)).2.2⟩,?_,⟨fun g=> ?_,fun g=>⟨bsI (Scn ((Scn s).2.1++c)).2.1,?_⟩⟩,by rw[e1,List.take_left]⟩
  ·unfold cc
   dsimp only
   rw[if_pos rfl,if_pos (by rw[eo]; omega),bI_app,hg,e1,List.drop_left,yk]
  ·rw[e2] at g ⊢
   rw[g,xR,xR]
   congr 1
   omega
  ·rw[sf,e2,xR,xR]
   congr 1
   omega
 ·obtain⟨q,rfl⟩:=h.bad h0
  have hw:=oa s.length s c (yn _) h0
  have e1:(Scn (s++c)).1=(Scn s).1:=by rw[hw]
  have e3:(Scn (s++c)).2.2=(Scn s).2.2:=by rw[hw]
  refine⟨⟨q,((aN aK (Scn s).1).length:Int),(Scn s).2.2⟩,?_,⟨fun g=>absurd (e3 ▸ g) h0,fun g=>⟨q,by rw[e1,e3]⟩⟩,by rw[e1,List.take_length]⟩
  unfold cc
  dsimp only
  rw[if_neg h0,e1,List.drop_length]
def jk (s:List UInt8):dO:=⟨(aN aK (Scn s).1).length,if (Scn s).2.2≠0 then 2 else if (Scn s).2.1 = [] then 0 else 1,(Scn s).2.2⟩
theorem uy {x:aG} {s:List UInt8} (h:te x s):cx x=some (jk s,x):=by
 unfold cx jk
 by_cases h0:(Scn s).2.2=0
 ·have hx:=h.ok h0
  subst hx
  rw[sf]
  dsimp only
  rw[if_pos rfl,h0,if_neg (show ¬ ((0:Int)≠0) from fun g=>g rfl),eo]
  by_cases hr:(Scn s).2.1 = []
  ·rw[if_neg (by rw[hr]; decide),if_pos hr]
  ·have:=List.length_pos_iff.2 hr
   rw[if_pos (by omega),if_neg hr]
 ·obtain⟨q,rfl⟩:=h.bad h0
  dsimp only
  rw[if_neg h0,if_pos h0]
theorem new_at:te ⟨[],0,0⟩ []:=⟨fun _=>by rw[cR (s := []) (by decide)]; rfl,fun g=>absurd (by rw[cR (s := []) (by decide)]) g⟩
theorem sg: ∀ (n:Nat) (s:List UInt8),s.length≤n→(Scn s).1.length≤s.length:=by
 intro n s _
 have h:=congrArg List.length (gR s.length s (yn _)).1
 rw[xR] at h
 have hk:=(gR s.length s (yn _)).2
 have:=kq aK (Scn s).1 (fun b hb=>by have:=iU (hk b hb); omega)
 omega
theorem si: ∀ (cs:List (List UInt8)) (s:List UInt8) (x:aG),te x s→s.length+cs.flatten.length≤1000000 →
 ∃ y,cM cs (Scn s).1 x=some ((Scn (s++cs.flatten)).1,y)∧te y (s++cs.flatten)
 | [],s,x,h,hl=>⟨x,by rw[List.flatten_nil,yp]; rfl,by rw[List.flatten_nil,yp]; exact h⟩
 | c::cs,s,x,h,hl=>by
  rw[List.flatten_cons,xR] at hl
  obtain⟨y,k1,k2,k3⟩:=vo h (c:=c) (by omega)
  have hf:=sg _ (s++c) (yn _)
  have hf2:=sg _ s (yn _)
  rw[xR] at hf
  obtain⟨z,q1,q2⟩:=si cs (s++c) y k2 (by rw[xR]; omega)
  have e:(Scn s).1++(Scn (s++c)).1.drop (Scn s).1.length=(Scn (s++c)).1:=by
   conv=>lhs; arg 1; rw[← k3]
   rw[List.take_append_drop]
  refine⟨z,?_,by rw[List.flatten_cons,← ya]; exact q2⟩
  rw[cM,k1,xP]
  dsimp only
  rw[if_pos (by rw[xT]; omega),e,q1,List.flatten_cons,ya]
theorem vp {cs:List (List UInt8)} (hl:cs.flatten.length≤1000000):eC cs=some ((Scn cs.flatten).1,jk cs.flatten):=by
 obtain⟨y,q1,q2⟩:=si cs [] ⟨[],0,0⟩ new_at (by rw[yQ]; omega)
 rw[yk,cR (s := []) (by decide)] at q1
 rw[yk] at q2
 unfold eC
 rw[show g9=some ⟨[],0,0⟩ from rfl,xP,q1,xP]
 dsimp only
 rw[uy q2,xP]
theorem uz: ∀ (ns:List Int) (s:List UInt8) (acc:List (List UInt8)),(∀ n,n∈ns→0≤n∧n≤255)→acc.length+ns.length≤1000→s.length≤1000000 →
 ∃ t l,dC ns s acc=some (t,acc++l)∧l.flatten++t=s∧l.length=ns.length
 | [],s,acc,_,_,_=>⟨s,[],by rw[yp]; rfl,rfl,rfl⟩
 | n::ns,s,acc,hn,hl,hs=>by
  obtain⟨h0,h1⟩:=hn n (.head _)
  rw[yd] at hl
  have e: ∃ k:Nat,((if -9223372036854775808≤n∧n≤9223372036854775807 then (if (s.length:Int)<n then some (s.length:Int) else some n) else none):Option Int)=some (k:Int)∧k≤s.length:=by
   rw[if_pos (by omega)]
   by_cases c:(s.length:Int)<n
   ·exact⟨s.length,by rw[if_pos c],yn _⟩
   ·exact⟨n.toNat,by rw[if_neg c,Int.toNat_of_nonneg h0],by omega⟩
  obtain⟨k,e1,e2⟩:=e
  obtain⟨t,l,q1,q2,q3⟩:=uz ns (s.drop k) (acc ++ [s.take k]) (fun m hm=>hn m (.tail _ hm)) (by rw[xR,yY]; omega) (by rw[xT]; omega)
  refine⟨t,s.take k::l,?_,?_,by rw[yd,q3,yd]⟩
  ·rw[dC,e1,xP,if_pos (by omega),if_pos (by omega),if_pos (by omega),yA,q1,ya]
   rfl
  ·rw[List.flatten_cons,ya,q2,List.take_append_drop]
theorem cut_eq {s:List UInt8} {ns:List Int} (hn: ∀ n,n∈ns→0≤n∧n≤255) (hl:ns.length≤200) (hs:s.length≤1000000): ∃ cs,gU s ns=some cs∧cs.flatten=s∧cs.length=ns.length+1:=by
 obtain⟨t,l,q1,q2,q3⟩:=uz ns s [] hn (by rw[yQ]; omega) hs
 refine⟨l ++ [t],?_,by rw[List.flatten_append,List.flatten_cons,List.flatten_nil,yp]; exact q2,by rw[xR,yY,q3]⟩
 unfold gU
 rw[q1,xP]
 dsimp only
 rw[yk,if_pos (by omega)]
def kZ:dY := [(43,11,11),(66,1,1),(69,2,2),(69,3,4),(69,4,6),(71,0,0),(71,1,1)]
theorem au:(kZ).OK Tryz.prog:=⟨FOK.mk yg rfl Tryz.sizeOf41 rfl,FOK.mk yJ rfl yL rfl,FOK.mk yh rfl ye rfl,FOK.mk yh rfl ye rfl,FOK.mk yh rfl zc rfl,FOK.mk yR rfl yL rfl,FOK.mk yR rfl ye rfl,trivial⟩
def bR:List Hd→Int→Option (Lp Int Int)
 | [],y22=>some (Lp.go y22)
 | x28::xs,y22=>if -9223372036854775808≤((x28.xu.length:Int)+(x28.xn.data.length:Int))∧((x28.xu.length:Int)+(x28.xn.data.length:Int))≤9223372036854775807 then (if ((x28.xu.length:Int)+(x28.xn.data.length:Int))>100 then some (Lp.ret 0) else (bR xs y22)) else none
def bT:List Rec→Int→Option (Lp Int Int)
 | [],y5=>some (Lp.go y5)
 | x11::xs,y5=>if -9223372036854775808≤((x11.xu.data.length:Int)+(x11.xn.data.length:Int))∧((x11.xu.data.length:Int)+(x11.xn.data.length:Int))≤9223372036854775807 then (if ((x11.xu.data.length:Int)+(x11.xn.data.length:Int))>100 then some (Lp.ret 0) else (if (x11.xp.length:Int)>6 then some (Lp.ret 0) else ((bR x11.xp y5).bind fun e=>match e with | .ret r=>some (Lp.ret r) | .go y35=>(bT xs y35)))) else none
theorem lb (y5:Int):bT [] y5=(some (Lp.go y5)):=rfl
theorem lc (x11:Rec) (xs:List Rec) (y5:Int):bT (x11::xs) y5=(if -9223372036854775808≤((x11.xu.data.length:Int)+(x11.xn.data.length:Int))∧((x11.xu.data.length:Int)+(x11.xn.data.length:Int))≤9223372036854775807 then (if ((x11.xu.data.length:Int)+(x11.xn.data.length:Int))>100 then some (Lp.ret 0) else (if (x11.xp.length:Int)>6 then some (Lp.ret 0) else ((bR x11.xp y5).bind fun e=>match e with | .ret r=>some (Lp.ret r) | .go y35=>(bT xs y35)))) else none):=rfl
def eD (a0:Bat):Option (Int):=if (a0.xm.length:Int)>12 then some 0 else ((bT a0.xm 0).bind fun e=>match e with | .ret r=>some r | .go y37=>some 1)
theorem ld (a0:Bat) (A1:Option Addr) (c2:Nat) (r:Int) (h:eD a0=some r):ar Tryz.prog 12 #[.agg #[jI a0.xy,jI a0.xt,.bool a0.xA,.bool a0.xE,.bool a0.xz,jI a0.xw,jI a0.xr,jI a0.xB,jI a0.xq,jI a0.xv,jI a0.xo,.slice A1 a0.xm.length c2]] (RX.of (aq 7 bj) [.slice A1 a0.xm.length c2] a0.xm) (av) (fun v A' N=>v=jI r∧A'=av∧N = []):=by
 refine aJ Tryz.func12 Z Tryz.ntmps12 Z ?_
 intro F w hX
 unfold eD at h
 refine T.seq (T.region Z (TL.box Z .u Z Z (fun b3=>(TL.run au [1] Z Z (TL.nil (X.seq (T.seq (T.seq (T.region Z (TL.run au [0] Z Z (TL.q Z .u (vr 0 Z yq Z Z) Z (TL.q Z .u (vH Z xZ) Z (TL.run au [3] Z Z ?_)))))))))))))
 rcases jF h with⟨c4,h⟩ | ⟨c4,h⟩
 ·refine TL.nil (X.seq (vw Z (xM c4) (T.seq (T.region Z (TL.run au [0] Z Z ?_)))))
  obtain rfl:=xO h
  exact TL.nil (X.seq (T.ret (vx (vu [1] zB (vt Z) ⟨Z,Z,Z⟩ (by rfl) (.inl Z)))))
 ·refine TL.nil (X.seq (vC Z (xN c4) (T.skip (X.seq (T.seq (T.seq (T.region Z (TL.run au [0] Z Z (TL.q Z .u (vr 0 Z yq Z Z) Z (TL.q Z .u (vH Z xZ) Z (TL.run au [3] Z Z (TL.nil (X.seq (T.block ?_))))))))))))))
  obtain⟨E7,hE8,hO9⟩:=xL h
  have hk13len:=wd hX
  refine v9 (fun m e Rs=> ∃ (y5:Int) (k6:Nat),k6+m=a0.xm.length∧e = [(2,jI y5),(12,.slice A1 a0.xm.length c2),(13,jI (a0.xm.length:Int)),(14,jI (k6:Int))]∧Rs = [aA b3 43 #[jI a0.xy,jI a0.xt,.bool a0.xA,.bool a0.xE,.bool a0.xz,jI a0.xw,jI a0.xr,jI a0.xB,jI a0.xq,jI a0.xv,jI a0.xo,.slice A1 a0.xm.length c2],av]∧bT (a0.xm.drop k6) y5=some E7) (a0.xm.length) [0,0] ⟨0,0,by simp,Z,Z,by rw[List.drop_zero]; exact hE8⟩ (by rfl) (by rfl) ?_
  rintro m10 _ _ ⟨y5,k6,hk13,rfl,rfl,hl12⟩
  clear hE8 h
  cases m10 with
  | zero =>
   have h:=hl12
   clear hl12
   rw[List.drop_of_length_le (by omega),lb] at h
   have hk13ge: ¬ ((k6:Int)<(a0.xm.length:Int)):=by omega
   refine T.seq (T.region Z (TL.run au [0] Z Z (TL.nil (X.seq (T.seq (vC Z (xN hk13ge) ?_))))))
   obtain rfl:=xO h
   replace h:=hO9
   clear hO9
   try dsimp only at h
   refine T.exit (vD (vD (v6 (X.seq (T.seq (T.region Z (TL.run au [0] Z Z ?_)))))))
   obtain rfl:=xO h
   exact TL.nil (X.seq (T.ret (vu [1] zB (vt Z) ⟨Z,Z,Z⟩ (by rfl) (.inl Z))))
  | succ m10 =>
   have h:=hl12
   clear hl12
   obtain⟨x11,hxx11⟩: ∃ x,a0.xm[k6]? = some x:=⟨_,List.getElem?_eq_getElem (by omega)⟩
   rw[cm hxx11,lc] at h
   have hk13lt:(k6:Int)<(a0.xm.length:Int):=by omega
   refine T.seq (T.region Z (TL.run au [0] Z Z (TL.nil (X.seq (T.seq (vw Z (xM hk13lt) ?_))))))
   obtain⟨gz14,oz14,rfl,z14cs,z14cl,z14cc,z14nf,z14r⟩:=vV (by decide) hX hxx11
   obtain⟨z14S,z14r,z14rr⟩:=z14r
   obtain⟨A15,c16,rfl,z14s0⟩:=z14r
   have hX17:(RX.of (aq 3 bg) [.slice A15 x11.xp.length c16] x11.xp).reads w F:=⟨z14S,z14s0,z14rr⟩
   refine T.skip (X.seq (T.seq (T.block (T.seq (T.region Z ?_)))))
   refine TL.q Z .u (vM (k:=k6) Z Z Z xZ xX (xS hxx11).1) Z ?_
   refine TL.q Z .u (wj (us := [jI x11.xC,jI x11.xx,.bool x11.xu.null,jS x11.xu.data,.bool x11.xn.null,jS x11.xn.data,.slice A15 x11.xp.length c16]) 0 Z yt xX z14nf z14cc Z Z Z) Z (TL.alloc Z .u Tryz.zeroValue69 Z (fun b18=>(vG (cs':= #[jI x11.xC,jI x11.xx,.bool x11.xu.null,jS x11.xu.data,.bool x11.xn.null,jS x11.xn.data,.slice A15 x11.xp.length c16]) Z .u Z Z xX Z Z Z Z (TL.nil (X.seq (T.seq (T.seq (T.region Z (TL.run au [0,1] Z Z (TL.q Z .u (vr 0 Z yM Z Z) Z (TL.q Z .u (v5 Z xY) Z (TL.run au [4,5] Z Z ?_))))))))))))
   refine TL.q Z .u (vr 0 Z yM Z Z) Z (TL.q Z .u (v5 Z xY) Z ?_)
   replace h:=ak h
   obtain⟨c19,h⟩:=h
   refine TL.q Z .u (Ex.add Z Z c19) Z ?_
   rcases jF h with⟨c20,h⟩ | ⟨c20,h⟩
   ·refine TL.run au [9,10] Z Z ?_
    iterate 4 refine vv Z (.gn Z Z (xM c20)) Z ?_
    refine TL.q Z .u (vz Z (xM c20) Z) Z (TL.nil (X.seq (vw Z Z (T.seq (T.region Z (TL.run au [0] Z Z ?_))))))
    obtain rfl:=xO h
    replace h:=hO9
    clear hO9
    try dsimp only at h
    obtain rfl:=xO h
    exact TL.nil (X.seq (T.ret (vx (vJ (vx (vx (vJ (vx (vu [2] zB (vt Z) ⟨Z,Z,Z⟩ (by rfl) (.inl Z))))))))))
   ·refine TL.run au [9,10] Z Z (TL.q Z (.g Z Z (xN c20)) (vA au Z) Z (TL.q Z (.g Z Z (xN c20)) (vr 0 Z zb Z Z) Z (TL.q Z (.g Z Z (xN c20)) (vH Z yl) Z (TL.q Z (.g Z Z (xN c20)) (vA au Z) Z (TL.q Z .u (vB Z (xN c20) Z) Z ?_)))))
    rcases jF h with⟨c21,h⟩ | ⟨c21,h⟩
    ·refine TL.nil (X.seq (vw Z (xM c21) (T.seq (T.region Z (TL.run au [0] Z Z ?_)))))
     obtain rfl:=xO h
     replace h:=hO9
     clear hO9
     try dsimp only at h
     obtain rfl:=xO h
     exact TL.nil (X.seq (T.ret (vx (vJ (vx (vx (vJ (vx (vu [2] zB (vt Z) ⟨Z,Z,Z⟩ (by rfl) (.inl Z))))))))))
    ·refine TL.nil (X.seq (vC Z (xN c21) (T.skip (X.seq (T.seq (T.region Z (TL.run au [0] Z Z (TL.q Z .u (vr 0 Z zb Z Z) Z (TL.q Z .u (vH Z yl) Z (TL.run au [3] Z Z (TL.nil (X.seq (T.block ?_)))))))))))))
     obtain⟨E24,hE25,hO26⟩:=xL h
     have hk30len:=wd hX17
     refine v9 (fun m e Rs=> ∃ (y22:Int) (k23:Nat),k23+m=x11.xp.length∧e = [(2,jI y22),(12,.slice (some ⟨gz14,oz14,none⟩) a0.xm.length c2),(13,jI (a0.xm.length:Int)),(14,jI (k6:Int)),(35,.slice A15 x11.xp.length c16),(36,jI (x11.xp.length:Int)),(37,jI (k23:Int))]∧Rs = [aA b18 69 #[jI x11.xC,jI x11.xx,.bool x11.xu.null,jS x11.xu.data,.bool x11.xn.null,jS x11.xn.data,.slice A15 x11.xp.length c16],aA b3 43 #[jI a0.xy,jI a0.xt,.bool a0.xA,.bool a0.xE,.bool a0.xz,jI a0.xw,jI a0.xr,jI a0.xB,jI a0.xq,jI a0.xv,jI a0.xo,.slice (some ⟨gz14,oz14,none⟩) a0.xm.length c2],av]∧bR (x11.xp.drop k23) y22=some E24) (x11.xp.length) [0,0,0] ⟨y5,0,by simp,Z,Z,by rw[List.drop_zero]; exact hE25⟩ (by rfl) (by rfl) ?_
     rintro m27 _ _ ⟨y22,k23,hk30,rfl,rfl,hl29⟩
     clear hE25 h
     cases m27 with
     | zero =>
      have h:=hl29
      clear hl29
      rw[List.drop_of_length_le (by omega),bR] at h
      have hk30ge: ¬ ((k23:Int)<(x11.xp.length:Int)):=by omega
      refine T.seq (T.region Z (TL.run au [0] Z Z (TL.nil (X.seq (T.seq (vC Z (xN hk30ge) ?_))))))
      obtain rfl:=xO h
      replace h:=hO26
      clear hO26
      try dsimp only at h
      exact T.exit (vD (vD (v6 (vF (X.seq (T.region Z (TL.q Z .u (Ex.add Z Z (by omega)) Z (TL.run au [1] Z Z (TL.nil (X.back (m':=m10) [1,1] (by omega) ⟨y22,k6+1,by omega,Z,Z,h⟩ (by rfl) (by rfl)))))))))))
     | succ m27 =>
      have h:=hl29
      clear hl29
      obtain⟨x28,hxx28⟩: ∃ x,x11.xp[k23]? = some x:=⟨_,List.getElem?_eq_getElem (by omega)⟩
      rw[cm hxx28,bR] at h
      have hk30lt:(k23:Int)<(x11.xp.length:Int):=by omega
      refine T.seq (T.region Z (TL.run au [0] Z Z (TL.nil (X.seq (T.seq (vw Z (xM hk30lt) ?_))))))
      obtain⟨gz31,oz31,rfl,z31cs,z31cl,z31cc,z31nf,z31r⟩:=vV (by decide) hX17 hxx28
      obtain⟨z31S,z31r,z31rr⟩:=z31r
      obtain rfl:z31cs = [jS x28.xu,.bool x28.xn.null,jS x28.xn.data]:=z31r
      refine T.skip (X.seq (T.seq (T.block (T.seq (T.region Z ?_)))))
      refine TL.q Z .u (vM (k:=k23) Z Z Z yl yB (xS hxx28).1) Z ?_
      refine TL.q Z .u (wj (us := [jS x28.xu,.bool x28.xn.null,jS x28.xn.data]) 0 Z zw yB z31nf z31cc Z Z Z) Z (TL.alloc Z .u Tryz.zeroValue71 Z (fun b32=>(vG (cs':= #[jS x28.xu,.bool x28.xn.null,jS x28.xn.data]) Z .u Z Z yB Z Z Z Z (TL.nil (X.seq (T.seq (T.region Z (TL.run au [0] Z Z (TL.q Z .u (vr 0 Z yM Z Z) Z (TL.q Z .u (v5 Z xY) Z (TL.run au [3,4] Z Z ?_)))))))))))
      refine TL.q Z .u (vr 0 Z yM Z Z) Z (TL.q Z .u (v5 Z xY) Z ?_)
      replace h:=ak h
      obtain⟨c33,h⟩:=h
      refine TL.q Z .u (Ex.add Z Z c33) Z (TL.run au [8] Z Z ?_)
      rcases jF h with⟨c34,h⟩ | ⟨c34,h⟩
      ·refine TL.nil (X.seq (vw Z (xM c34) (T.seq (T.region Z (TL.run au [0] Z Z ?_)))))
       obtain rfl:=xO h
       replace h:=hO26
       clear hO26
       try dsimp only at h
       obtain rfl:=xO h
       replace h:=hO9
       clear hO9
       try dsimp only at h
       obtain rfl:=xO h
       exact TL.nil (X.seq (T.ret (vJ (vx (vx (vJ (vJ (vx (vx (vJ (vx (vu [3] zB (vt Z) ⟨Z,Z,Z⟩ (by rfl) (.inl Z)))))))))))))
      ·exact TL.nil (X.seq (vC Z (xN c34) (T.skip (vF (X.seq (T.region Z (TL.q Z .u (Ex.add Z Z (by omega)) Z (TL.run au [1] Z Z (TL.nil (X.back (m':=m27) [1,1,1] (by omega) ⟨y22,k23+1,by omega,Z,Z,h⟩ (by rfl) (by rfl)))))))))))
theorem qe (y:Int): ∀ l:List Hd,(∀ h,h∈l→tr h)→(bR l y=some (.ret 0))∨(bR l y=some (.go y)∧ ∀ h,h∈l→h.xu.length+h.xn.data.length≤100)
 | [],h=> .inr ⟨rfl,fun x h=>nomatch h⟩
 | x::l,h=>by
  have hx:=h x (.head _)
  have h1:x.xu.length≤140737488351232:=hx.1
  have h2:x.xn.data.length≤140737488351232:=hx.2.2
  rw[bR,if_pos (by omega)]
  by_cases hc:(x.xu.length:Int)+(x.xn.data.length:Int)>100
  ·rw[if_pos hc]
   exact .inl rfl
  ·rw[if_neg hc]
   rcases qe y l (fun z hz=>h z (.tail _ hz)) with g | ⟨g,g2⟩
   ·exact .inl g
   ·refine .inr ⟨g,fun z hz=> ?_⟩
    rcases List.mem_cons.1 hz with rfl | hz
    ·omega
    ·exact g2 z hz
theorem qf (y:Int): ∀ l:List Rec,(∀ r,r∈l→mb r)→(bT l y=some (.ret 0))∨(bT l y=some (.go y)∧ ∀ r,r∈l→r.xu.data.length+r.xn.data.length≤100∧r.xp.length≤6∧ ∀ h,h∈r.xp→h.xu.length+h.xn.data.length≤100)
 | [],h=> .inr ⟨rfl,fun x h=>nomatch h⟩
 | x::l,h=>by
  obtain⟨h1,h2,h3,h4,h5⟩:=h x (.head _)
  have h6:x.xu.data.length≤140737488351232:=h3.2
  have h7:x.xn.data.length≤140737488351232:=h4.2
  rw[bT,if_pos (by omega)]
  by_cases hc:(x.xu.data.length:Int)+(x.xn.data.length:Int)>100
  ·rw[if_pos hc]
   exact .inl rfl
  rw[if_neg hc]
  by_cases hd:(x.xp.length:Int)>6
  ·rw[if_pos hd]
   exact .inl rfl
  rw[if_neg hd]
  rcases qe y x.xp h5.2 with g | ⟨g,g2⟩
  ·rw[g]
   exact .inl rfl
  ·rw[g,xP]
   simp only
   rcases qf y l (fun z hz=>h z (.tail _ hz)) with k | ⟨k,k2⟩
   ·exact .inl k
   ·refine .inr ⟨k,fun z hz=> ?_⟩
    rcases List.mem_cons.1 hz with rfl | hz
    ·exact⟨by omega,by omega,g2⟩
    ·exact k2 z hz
theorem vq (a:Bat) (hw:gr a):eD a=some 0∨(eD a=some 1∧a.xm.length≤12∧ ∀ r,r∈a.xm→r.xu.data.length+r.xn.data.length≤100∧r.xp.length≤6∧ ∀ h,h∈r.xp→h.xu.length+h.xn.data.length≤100):=by
 unfold eD
 by_cases hc:(a.xm.length:Int)>12
 ·rw[if_pos hc]
  exact .inl rfl
 rw[if_neg hc]
 rcases qf 0 a.xm hw.2.2.2.2.2.2.2.2.2.2.2.2 with g | ⟨g,g2⟩
 ·rw[g]
  exact .inl rfl
 ·rw[g]
  exact .inr ⟨rfl,by omega,g2⟩
theorem tf {a:Bat} (hw:gr a) (h1:a.xm.length≤12) (h2: ∀ r,r∈a.xm→r.xu.data.length+r.xn.data.length≤100∧r.xp.length≤6∧ ∀ h,h∈r.xp→h.xu.length+h.xn.data.length≤100):bnB a :=
 ⟨hw,by omega,fun r hr=>by have:=h2 r hr; exact⟨by omega,by omega,by omega⟩⟩
theorem sj: ∀ (l:List Hd),(∀ h,h∈l→h.xu.length+h.xn.data.length≤100)→fB l≤120*l.length
 | [],_=>yw _
 | x::l,h=>by
  have h1:=h x (.head _)
  have h2:=sj l (fun y hy=>h y (.tail _ hy))
  rw[fB,hwt,yd]
  omega
theorem oY {α:Type} (enc:α→List UInt8) (n:Nat): ∀ (l:List α),(∀ x,x∈l→(enc x).length≤n)→(aN enc l).length≤n*l.length
 | [],_=>yw _
 | x::l,h=>by
  have h1:=h x (.head _)
  have h2:=oY enc n l (fun y hy=>h y (.tail _ hy))
  rw[aN,xR,yd,Nat.mul_succ]
  omega
theorem tg {a:Bat} (hw:gr a) (h1:a.xm.length≤12) (h2: ∀ r,r∈a.xm→r.xu.data.length+r.xn.data.length≤100∧r.xp.length≤6∧ ∀ h,h∈r.xp→h.xu.length+h.xn.data.length≤100):smB a∧(body a).length≤12000:=by
 have hr: ∀ r,r∈a.xm→rwt r≤900:=fun r hr=>by
  obtain⟨k1,k2,k3⟩:=h2 r hr
  have:=sj r.xp k3
  unfold rwt
  omega
 have hl:(body a).length≤12000:=by
  have h3:=oY bK 1000 a.xm (fun x hx=>by
   have h4:=hw.2.2.2.2.2.2.2.2.2.2.2.2 x hx
   have h5:=hr x hx
   have:=rl x h4.1 h4.2.1 (by omega)
   omega)
  unfold body
  omega
 exact⟨⟨tf hw h1 h2,fun r hr2=>by have:=hr r hr2; omega,by omega⟩,hl⟩
def jM:List Bat→List Bat→Bool
 | x::l,y::m=>mN x y && jM l m
 | _,_=>true
theorem lB: ∀ l:List Bat,jM l l=true
 | []=>rfl
 | x::l=>by rw[jM,rt,lB l]; rfl
theorem lC (a b:List Bat) (hn:a.length≤140737488351232) (y:Bool): ∀ (l m:List Bat) (k fuel:Nat),a.drop k=l→b.drop k=m→l.length=m.length→l.length<fuel→(∀ x,x∈l→bnB x)→ ∃ z,cD a b fuel y k=some (if jM l m=true then .go (y,z) else .ret false)
 | [],m,k,fuel+1,h1,h2,hl,hf,_=>by
  have:=dP h1
  exact⟨k,by rw[cD,if_neg (by omega)]; rfl⟩
 | x::l,v::m,k,fuel+1,h1,h2,hl,hf,hw=>by
  obtain⟨g1,g2,g3⟩:=dn h1
  obtain⟨k1,k2,k3⟩:=dn h2
  have hx:=hw x (.head _)
  rw[yd] at hf
  rw[yd,yd] at hl
  obtain⟨z,hz⟩:=lC a b hn y l m (k+1) fuel g2 k2 (by omega) (by omega) (fun u hu=>hw u (.tail _ hu))
  refine⟨z,?_⟩
  rw[cD,if_pos (by omega),g1,xP,k1,xP,ut hx.2.1 (fun z hz=>(hx.2.2 z hz).1),xP,jM,if_pos (show -9223372036854775808≤(k:Int)+1∧(k:Int)+1≤9223372036854775807 by omega),hz]
  cases mN x v <;> rfl
theorem z_rows {a b:List Bat} (hn:a.length≤140737488351232) (hw: ∀ x,x∈a→bnB x):et a b=some (decide (a.length=b.length) && jM a b):=by
 unfold et
 by_cases c:a.length=b.length
 ·obtain⟨z,hz⟩:=lC a b hn false a b 0 (((a.length:Int)).toNat+1) rfl rfl c (by omega) hw
  rw[if_pos (by omega),hz,xM c,Bool.true_and]
  cases jM a b <;> rfl
 ·rw[if_neg (by omega),xN c]
  rfl
theorem qg {l:List Bat} (hn:l.length≤1000000) (hw: ∀ x,x∈l→bnB x):et l l=some true:=by
 rw[z_rows (by omega) hw,xM rfl,lB]
 rfl
theorem mT {α:Type} (enc:α→List UInt8): ∀ (l m:List α),aN enc (l++m)=aN enc l++aN enc m
 | [],m=>rfl
 | x::l,m=>by rw[List.cons_append,aN,aN,mT enc l m,ya]
theorem uA {l:List Bat} (h: ∀ b,b∈l→okB b):Scn (aN aK l)=(l,[],0):=by
 have:=mP l [] h
 rwa [yp,cR (s := []) (by decide),yp] at this
end Go.Proofs.YtahjmpipllajcaaGreat.Sl
