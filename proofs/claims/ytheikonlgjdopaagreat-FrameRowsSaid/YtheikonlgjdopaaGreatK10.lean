/- FrameRows: for every input the law returns true, and its arguments read behind the call as they did before. -/
import Derived.KernelRfl
import Derived.Test.YtheikonlgjdopaaGreatRows
import Derived.WalkKit
import Derived.ProofKit
import Derived.OpenShut
import Derived.ShutString
import Derived.ChangeOld
import Derived.Below
import Derived.SizedLaws
import Derived.Test.YtheikonlgjdopaaGreatK9
set_option maxRecDepth 100000
set_option maxHeartbeats 4000000
set_option linter.defProp false
namespace Go.Proofs.YtheikonlgjdopaaGreat.Sl
open Go.RowKit
set_option linter.unusedVariables false
set_option linter.unusedSimpArgs false
theorem Dv {a:Bat} (hw:l9 a) (h1:a.Ja.length≤12) (h2: ∀ r,r∈a.Ja→r.Jr.data.length+r.Jj.data.length≤100∧r.Jl.length≤6∧ ∀ h,h∈r.Jl→h.Jr.length+h.Jj.data.length≤100):bnB a :=
 ⟨hw,by omega,fun r hr=>by have:=h2 r hr; exact⟨by omega,by omega,by omega⟩⟩
theorem Co: ∀ (l:List Hd),(∀ h,h∈l→h.Jr.length+h.Jj.data.length≤100)→ma l≤120*l.length
 | [],_=>Ko _
 | x::l,h=>by
  have h1:=h x (.head _)
  have h2:=Co l (fun y hy=>h y (.tail _ hy))
  rw[ma,hwt,J0]
  omega
theorem yb {α:Type} (enc:α→List UInt8) (n:Nat): ∀ (l:List α),(∀ x,x∈l→(enc x).length≤n)→(bl enc l).length≤n*l.length
 | [],_=>Ko _
 | x::l,h=>by
  have h1:=h x (.head _)
  have h2:=yb enc n l (fun y hy=>h y (.tail _ hy))
  rw[bl,JU,J0,Nat.mul_succ]
  omega
theorem Dw {a:Bat} (hw:l9 a) (h1:a.Ja.length≤12) (h2: ∀ r,r∈a.Ja→r.Jr.data.length+r.Jj.data.length≤100∧r.Jl.length≤6∧ ∀ h,h∈r.Jl→h.Jr.length+h.Jj.data.length≤100):smB a∧(body a).length≤12000:=by
 have hr: ∀ r,r∈a.Ja→rwt r≤900:=fun r hr=>by
  obtain⟨k1,k2,k3⟩:=h2 r hr
  have:=Co r.Jl k3
  unfold rwt
  omega
 have hl:(body a).length≤12000:=by
  have h3:=yb dF 1000 a.Ja (fun x hx=>by
   have h4:=hw.2.2.2.2.2.2.2.2.2.2.2.2 x hx
   have h5:=hr x hx
   have:=Bh x h4.1 h4.2.1 (by omega)
   omega)
  unfold body
  omega
 exact⟨⟨Dv hw h1 h2,fun r hr2=>by have:=hr r hr2; omega,by omega⟩,hl⟩
theorem Fj (a:Bat) (s:Int):mkB (pB a s) a.Ja=a:=by
 obtain⟨b1,b2,b3⟩:=Cj a.JG a.JE a.JB
 unfold mkB pB
 dsimp only
 rw[b1,b2,b3]
theorem Bo {b:Bat} (h:okB b) (hl:(fq b).length≤1000000):bnB b:=by
 have h1:=vv h.1 h.2.2.1 (by have:=oY h; unfold body at this; omega)
 rwa [Fj] at h1
def mb:List Bat→List Bat→Bool
 | x::l,y::m=>vw x y && mb l m
 | _,_=>true
def qsP (p q:aR):Bool:=decide (p.Jp=q.Jp∧p.Jf.length=q.Jf.length) && mb p.Jf q.Jf
def Bp:List aR→List aR→Bool
 | x::l,y::m=>qsP x y && Bp l m
 | _,_=>true
def qsT (t u:aD):Bool:=decide (t.Jd=u.Jd∧t.I7.length=u.I7.length) && Bp t.I7 u.I7
def Bq:List aD→List aD→Bool
 | x::l,y::m=>qsT x y && Bq l m
 | _,_=>true
def zx (a b:aw):Bool:=decide (a.Jc.null=b.Jc.null∧a.Jc.data=b.Jc.data∧a.Ju=b.Ju∧a.Jb=b.Jb∧a.I5.length=b.I5.length) && Bq a.I5 b.I5
theorem tj: ∀ l:List Bat,mb l l=true
 | []=>rfl
 | x::l=>by rw[mb,Bn,tj l]; rfl
theorem xb: ∀ l:List aR,Bp l l=true
 | []=>rfl
 | x::l=>by rw[Bp,qsP,tj,xb l,JS ⟨rfl,rfl⟩]; rfl
theorem xc: ∀ l:List aD,Bq l l=true
 | []=>rfl
 | x::l=>by rw[Bq,qsT,xb,xc l,JS ⟨rfl,rfl⟩]; rfl
theorem vx (a:aw):zx a a=true:=by
 unfold zx
 rw[xc,JS ⟨rfl,rfl,rfl,rfl,rfl⟩]; rfl
def ofP (p:aR):je:=⟨p.Jp,p.Jf⟩
def ofT (t:aD):dT:=⟨t.Jd,t.I7.map ofP⟩
def ofQ (a:aw):bF:=⟨a.Jc,a.Ju,a.Jb,a.I5.map ofT⟩
theorem Cp: ∀ (l:List aR) (acc:List je),(acc.length+l.length)*32≤140737488355328→gS l acc=some (acc++l.map ofP)
 | [],acc,_=>by rw[List.map_nil,Kg]; rfl
 | x::l,acc,h=>by
  rw[J0] at h
  rw[gS,if_pos (by omega),Cp l _ (by rw[JU,KY]; omega),JY]
  rfl
theorem Cq: ∀ (l:List aD) (acc:List dT),(acc.length+l.length)*40≤140737488355328→(∀ t,t∈l→t.I7.length*32≤140737488351232)→gT l acc=some (acc++l.map ofT)
 | [],acc,_,_=>by rw[List.map_nil,Kg]; rfl
 | x::l,acc,h,hp=>by
  have hx:=hp x (.head _)
  rw[J0] at h
  rw[gT,Cp x.I7 [] (by rw[K6]; omega),JR,if_pos (by omega),Cq l _ (by rw[JU,KY]; omega) (fun t ht=>hp t (.tail _ ht)),JY]
  rfl
def smBs (l:List Bat):Prop:= ∀ b,b∈l→smB b∧(body b).length≤12000
theorem xd (a b:List Bat) (hn:a.length≤140737488351232) (y:Bool): ∀ (l m:List Bat) (k fuel:Nat),a.drop k=l→b.drop k=m→l.length=m.length→l.length<fuel→(∀ x,x∈l→bnB x)→ ∃ z,eY a b fuel y k=some (if mb l m=true then .go (y,z) else .ret false)
 | [],m,k,fuel+1,h1,h2,hl,hf,_=>by
  have:=eb h1
  exact⟨k,by rw[eY,if_neg (by omega)]; rfl⟩
 | x::l,v::m,k,fuel+1,h1,h2,hl,hf,hw=>by
  obtain⟨g1,g2,g3⟩:=cK h1
  obtain⟨k1,k2,k3⟩:=cK h2
  have hx:=hw x (.head _)
  rw[J0] at hf
  rw[J0,J0] at hl
  obtain⟨z,hz⟩:=xd a b hn y l m (k+1) fuel g2 k2 (by omega) (by omega) (fun u hu=>hw u (.tail _ hu))
  refine⟨z,?_⟩
  rw[eY,if_pos (by omega),g1,JR,k1,JR,Fi hx.2.1 (fun z hz=>(hx.2.2 z hz).1),JR,mb,if_pos (show -9223372036854775808≤(k:Int)+1∧(k:Int)+1≤9223372036854775807 by omega),hz]
  cases vw x v <;> rfl
theorem Fk {a b:List Bat} (hn:a.length≤140737488351232) (hw: ∀ x,x∈a→bnB x):jN a b=some (decide (a.length=b.length) && mb a b):=by
 unfold jN
 by_cases c:a.length=b.length
 ·obtain⟨z,hz⟩:=xd a b hn false a b 0 (((a.length:Int)).toNat+1) rfl rfl c (by omega) hw
  rw[if_pos (by omega),hz,JS c,Bool.true_and]
  cases mb a b <;> rfl
 ·rw[if_neg (by omega),JT c]
  rfl
def bnT (t:aD):Prop:=t.I7.length≤140737488351232∧ ∀ p,p∈t.I7→p.Jf.length≤140737488351232∧ ∀ b,b∈p.Jf→bnB b
theorem Cr (t u:aD) (hn:t.I7.length≤140737488351232) (y:Bool): ∀ (l m:List aR) (k fuel:Nat),t.I7.drop k=l→u.I7.drop k=m→l.length=m.length→l.length<fuel→(∀ p,p∈l→p.Jf.length≤140737488351232∧ ∀ b,b∈p.Jf→bnB b)→ ∃ z,eB (ofT t) (ofT u) fuel y k=some (if Bp l m=true then .go (y,z) else .ret false)
 | [],m,k,fuel+1,h1,h2,hl,hf,_=>by
  have:=eb h1
  exact⟨k,by rw[eB,if_neg (by show ¬ (k:Int)<((t.I7.map ofP).length:Int); rw[Kl]; omega)]; rfl⟩
 | x::l,v::m,k,fuel+1,h1,h2,hl,hf,hw=>by
  obtain⟨g1,g2,g3⟩:=cK h1
  obtain⟨k1,k2,k3⟩:=cK h2
  have hx:=hw x (.head _)
  rw[J0] at hf
  rw[J0,J0] at hl
  obtain⟨z,hz⟩:=Cr t u hn y l m (k+1) fuel g2 k2 (by omega) (by omega) (fun q hq=>hw q (.tail _ hq))
  refine⟨z,?_⟩
  have e1:(ofT t).I7[k]? = some (ofP x):=by show (t.I7.map ofP)[k]? = _; rw[List.getElem?_map,g1]; rfl
  have e2:(ofT u).I7[k]? = some (ofP v):=by show (u.I7.map ofP)[k]? = _; rw[List.getElem?_map,k1]; rfl
  have e3:jN (ofP x).Jf (ofP v).Jf=some (decide (x.Jf.length=v.Jf.length) && mb x.Jf v.Jf):=Fk hx.1 hx.2
  rw[eB,if_pos (by show (k:Int)<((t.I7.map ofP).length:Int); rw[Kl]; omega),e1,JR,e2,JR,e3,if_pos (show -9223372036854775808≤(k:Int)+1∧(k:Int)+1≤9223372036854775807 by omega),hz,Bp,qsP]
  show ((if x.Jp=v.Jp then _ else some true).bind _)= _
  by_cases c1:x.Jp=v.Jp
  ·rw[if_pos c1,JR]
   by_cases c2:x.Jf.length=v.Jf.length
   ·rw[JS c2,JS (⟨c1,c2⟩:x.Jp=v.Jp∧x.Jf.length=v.Jf.length)]
    cases mb x.Jf v.Jf <;> rfl
   ·rw[JT c2,JT (fun h:x.Jp=v.Jp∧x.Jf.length=v.Jf.length=>c2 h.2)]
    rfl
  ·rw[if_neg c1,JT (fun h:x.Jp=v.Jp∧x.Jf.length=v.Jf.length=>c1 h.1)]
   rfl
theorem Cs (a b:aw) (hn:a.I5.length≤140737488351232) (y:Bool): ∀ (l m:List aD) (k fuel:Nat),a.I5.drop k=l→b.I5.drop k=m→l.length=m.length→l.length<fuel→(∀ t,t∈l→bnT t)→ ∃ z,eC (ofQ a) (ofQ b) fuel y k=some (if Bq l m=true then .go (y,z) else .ret false)
 | [],m,k,fuel+1,h1,h2,hl,hf,_=>by
  have:=eb h1
  exact⟨k,by rw[eC,if_neg (by show ¬ (k:Int)<((a.I5.map ofT).length:Int); rw[Kl]; omega)]; rfl⟩
 | x::l,v::m,k,fuel+1,h1,h2,hl,hf,hw=>by
  obtain⟨g1,g2,g3⟩:=cK h1
  obtain⟨k1,k2,k3⟩:=cK h2
  have hx:=hw x (.head _)
  rw[J0] at hf
  rw[J0,J0] at hl
  obtain⟨z,hz⟩:=Cs a b hn y l m (k+1) fuel g2 k2 (by omega) (by omega) (fun q hq=>hw q (.tail _ hq))
  refine⟨z,?_⟩
  have e1:(ofQ a).I5[k]? = some (ofT x):=by show (a.I5.map ofT)[k]? = _; rw[List.getElem?_map,g1]; rfl
  have e2:(ofQ b).I5[k]? = some (ofT v):=by show (b.I5.map ofT)[k]? = _; rw[List.getElem?_map,k1]; rfl
  have e4:(ofT x).I7.length=x.I7.length:=Kl _
  have e5:(ofT v).I7.length=v.I7.length:=Kl _
  rw[eC,if_pos (by show (k:Int)<((a.I5.map ofT).length:Int); rw[Kl]; omega),e1,JR,e2,JR,e4,e5,Bq,qsT]
  show ((if x.Jd=v.Jd then _ else some true).bind _)= _
  by_cases c1:x.Jd=v.Jd
  ·rw[if_pos c1]
   by_cases c2:x.I7.length=v.I7.length
   ·obtain⟨z2,hz2⟩:=Cr x v hx.1 y x.I7 v.I7 0 (((x.I7.length:Int)).toNat+1) rfl rfl c2 (by omega) hx.2
    rw[if_pos (by omega),JR,if_neg (by decide),hz2,JS (⟨c1,c2⟩:x.Jd=v.Jd∧x.I7.length=v.I7.length),Bool.true_and]
    cases Bp x.I7 v.I7
    ·rfl
    ·rw[if_pos rfl,JR]
     dsimp only
     rw[if_pos (show -9223372036854775808≤(k:Int)+1∧(k:Int)+1≤9223372036854775807 by omega),hz]
     rfl
   ·rw[if_neg (by omega),JR,if_pos rfl,JT (fun h:x.Jd=v.Jd∧x.I7.length=v.I7.length=>c2 h.2)]
    rfl
  ·rw[if_neg c1,JR,if_pos rfl,JT (fun h:x.Jd=v.Jd∧x.I7.length=v.I7.length=>c1 h.1)]
   rfl
theorem Fl {a b:aw} (hn:a.I5.length≤140737488351232) (hw: ∀ t,t∈a.I5→bnT t):gX (ofQ a) (ofQ b)=some (zx a b):=by
 have e4:(ofQ a).I5.length=a.I5.length:=Kl _
 have e5:(ofQ b).I5.length=b.I5.length:=Kl _
 unfold gX zx
 rw[e4,e5]
 show ((if a.Jc.null=b.Jc.null then (if a.Jc.data=b.Jc.data then (if a.Ju=b.Ju then (if a.Jb=b.Jb then _ else some true) else some true) else some true) else some true).bind _)= _
 by_cases c1:a.Jc.null=b.Jc.null
 rotate_left
 ·rw[if_neg c1,JR,if_pos rfl,JT (fun h=>c1 h.1)]; rfl
 by_cases c2:a.Jc.data=b.Jc.data
 rotate_left
 ·rw[if_pos c1,if_neg c2,JR,if_pos rfl,JT (fun h=>c2 h.2.1)]; rfl
 by_cases c3:a.Ju=b.Ju
 rotate_left
 ·rw[if_pos c1,if_pos c2,if_neg c3,JR,if_pos rfl,JT (fun h=>c3 h.2.2.1)]; rfl
 by_cases c4:a.Jb=b.Jb
 rotate_left
 ·rw[if_pos c1,if_pos c2,if_pos c3,if_neg c4,JR,if_pos rfl,JT (fun h=>c4 h.2.2.2.1)]; rfl
 by_cases c5:a.I5.length=b.I5.length
 rotate_left
 ·rw[if_pos c1,if_pos c2,if_pos c3,if_pos c4,if_neg (by omega),JR,if_pos rfl,JT (fun h=>c5 h.2.2.2.2)]; rfl
 obtain⟨z,hz⟩:=Cs a b hn false a.I5 b.I5 0 (((a.I5.length:Int)).toNat+1) rfl rfl c5 (by omega) hw
 rw[if_pos c1,if_pos c2,if_pos c3,if_pos c4,if_pos (by omega),JR,if_neg (by decide),hz,JS ⟨c1,c2,c3,c4,c5⟩,Bool.true_and]
 cases Bq a.I5 b.I5 <;> rfl
theorem zy (y:Int): ∀ l:List Bat,(∀ b,b∈l→l9 b)→fB l y=some (.ret 0)∨(fB l y=some (.go y)∧smBs l)
 | [],_=> .inr ⟨rfl,fun x h=>nomatch h⟩
 | x::l,h=>by
  rw[fB]
  rcases Gn x (h x (.head _)) with g | ⟨g,g1,g2⟩
  ·rw[g]
   exact .inl rfl
  ·rw[g,JR,if_neg (by decide)]
   rcases zy y l (fun z hz=>h z (.tail _ hz)) with k | ⟨k,k2⟩
   ·exact .inl k
   ·refine .inr ⟨k,fun z hz=> ?_⟩
    rcases List.mem_cons.1 hz with rfl | hz
    ·exact Dw (h _ (.head _)) g1 g2
    ·exact k2 z hz
def nP (n:Int) (p:aR):Int:=IntKind.i64.wrap (n+IntKind.i64.wrap (10+IntKind.i64.wrap (100*(p.Jf.length:Int))))
def nPs:Int→List aR→Int
 | n,[]=>n
 | n,p::l=>nPs (nP n p) l
def okFp:Int→List aR→Prop
 | _,[]=>True
 | n,p::l=>nP n p≤2000∧smBs p.Jf∧okFp (nP n p) l
theorem zz (y:Int): ∀ (l:List aR) (n:Int),(∀ p,p∈l→lx p)→ez l y n=some (.ret 0)∨(ez l y n=some (.go (y,nPs n l))∧okFp n l)
 | [],n,_=> .inr ⟨rfl,trivial⟩
 | p::l,n,h=>by
  rw[ez]
  show (if nP n p>2000 then _ else _)= _∨(if nP n p>2000 then _ else _)= _∧ _
  by_cases hc:nP n p>2000
  ·rw[if_pos hc]
   exact .inl rfl
  rw[if_neg hc]
  rcases zy y p.Jf (h p (.head _)).2.2 with g | ⟨g,g2⟩
  ·rw[g]
   exact .inl rfl
  ·rw[g,JR]
   rcases zz y l (nP n p) (fun q hq=>h q (.tail _ hq)) with k | ⟨k,k2⟩
   ·exact .inl k
   ·exact .inr ⟨k,by omega,g2,k2⟩
def nT (n:Int) (t:aD):Int:=IntKind.i64.wrap (n+IntKind.i64.wrap ((t.Jd.length:Int)+10))
def nTs:Int→List aD→Int
 | n,[]=>n
 | n,t::l=>nTs (nPs (nT n t) t.I7) l
def zC:Int→List aD→Prop
 | _,[]=>True
 | n,t::l=>okFp (nT n t) t.I7∧zC (nPs (nT n t) t.I7) l
theorem zD (y:Int): ∀ (l:List aD) (n:Int),(∀ t,t∈l→kz t)→fC l y n=some (.ret 0)∨(fC l y n=some (.go (y,nTs n l))∧zC n l)
 | [],n,_=> .inr ⟨rfl,trivial⟩
 | t::l,n,h=>by
  rw[fC]
  show ((ez t.I7 y (nT n t)).bind _)= _∨((ez t.I7 y (nT n t)).bind _)= _∧ _
  rcases zz y t.I7 (nT n t) (h t (.head _)).2.2 with g | ⟨g,g2⟩
  ·rw[g]
   exact .inl rfl
  ·rw[g,JR]
   rcases zD y l (nPs (nT n t) t.I7) (fun q hq=>h q (.tail _ hq)) with k | ⟨k,k2⟩
   ·exact .inl k
   ·exact .inr ⟨k,g2,k2⟩
theorem q_few {a:aw} (hw:fJ a):kV a=some 0∨(kV a=some 1∧zC (a.Jc.data.length:Int) a.I5∧nTs (a.Jc.data.length:Int) a.I5≤2000):=by
 unfold kV
 rcases zD 0 a.I5 (a.Jc.data.length:Int) hw.2.2.2.2 with g | ⟨g,g2⟩
 ·rw[g]
  exact .inl rfl
 ·rw[g,JR]
  dsimp only
  by_cases hc:nTs (a.Jc.data.length:Int) a.I5>2000
  ·rw[if_pos hc]
   exact .inl rfl
  ·rw[if_neg hc]
   exact .inr ⟨rfl,g2,by omega⟩
theorem zG: ∀ {l:List aR} {n:Int},okFp n l→ ∀ p,p∈l→smBs p.Jf
 | q::l,n,h,p,hp=>by
  rcases List.mem_cons.1 hp with rfl | hp
  ·exact h.2.1
  ·exact zG h.2.2 p hp
theorem re: ∀ {l:List aD} {n:Int},zC n l→ ∀ t,t∈l→ ∀ p,p∈t.I7→smBs p.Jf
 | u::l,n,h,t,ht=>by
  rcases List.mem_cons.1 ht with rfl | ht
  ·exact zG h.1
  ·exact re h.2 t ht
theorem vy (a b:List UInt8) (ha:a.length≤140737488355328) (y:Bool): ∀ (u v:List UInt8) (k fuel:Nat),a.drop k=u→b.drop k=v→v.length<fuel→k≤a.length→k≤b.length→(∃ r,ci a b fuel y k=some (.ret r)∧r=Op.bytesLess u v)∨(∃ z,ci a b fuel y k=some (.go z)∧Op.bytesLess u v=decide (a.length<b.length))
 | [],v,k,fuel+1,hu,hv,hf,h1,h2=>by
  have:=fK hu
  right
  refine⟨(y,k),by rw[ci,if_neg (by omega)],?_⟩
  cases v with
  | nil =>
   have:=fK hv
   simp[Op.bytesLess]
   omega
  | cons c v =>
   have:=(dJ hv).2.2
   simp[Op.bytesLess]
   omega
 | c::u,[],k,fuel+1,hu,hv,hf,h1,h2=>by
  have g1:=fK hv
  have g2:=(dJ hu).2.2
  right
  refine⟨(y,k),by rw[ci,if_pos (by omega),if_neg (by omega)],?_⟩
  simp[Op.bytesLess]
  omega
 | c::u,d::v,k,fuel+1,hu,hv,hf,h1,h2=>by
  obtain⟨u1,u2,u3⟩:=dJ hu
  obtain⟨v1,v2,v3⟩:=dJ hv
  rw[J0] at hf
  rw[ci,if_pos (by omega),if_pos (by omega),u1,v1]
  simp only[JR]
  by_cases hc:(c.toNat:Int)=(d.toNat:Int)
  ·have hcd:c=d:=UInt8.toNat_inj.1 (by omega)
   rw[if_pos hc,if_pos (by omega)]
   have:=vy a b ha y u v (k+1) fuel u2 v2 (by omega) (by omega) (by omega)
   have hb:Op.bytesLess (c::u) (d::v)=Op.bytesLess u v:=by
    rw[hcd]
    simp[Op.bytesLess]
   rw[hb]
   exact this
  ·rw[if_neg hc]
   left
   have hcd:c≠d:=fun h=>hc (by rw[h])
   by_cases hl:(c.toNat:Int)<(d.toNat:Int)
   ·refine⟨true,by rw[if_pos hl],?_⟩
    have:c<d:=UInt8.lt_iff_toNat_lt.2 (by omega)
    simp[Op.bytesLess,this]
   ·refine⟨false,by rw[if_neg hl],?_⟩
    have: ¬ c<d:=fun h=>hl (by have:=UInt8.lt_iff_toNat_lt.1 h; omega)
    simp[Op.bytesLess,this,hcd]
theorem Fm (a b:List UInt8) (ha:a.length≤140737488355328):gW a b=some (Op.bytesLess a b):=by
 unfold gW
 rcases vy a b ha false a b 0 (((b.length:Int)).toNat+1) rfl rfl (by omega) (Ko _) (Ko _) with⟨r,h1,h2⟩ | ⟨z,h1,h2⟩
 ·rw[show ((0:Nat))=0 from rfl] at h1
  rw[h1,h2]
  rfl
 ·rw[h1,h2]
  simp only[JR]
  by_cases h:a.length<b.length
  ·rw[if_pos (by omega)]
   simp[h]
  ·rw[if_neg (by omega)]
   simp[h]
theorem zH (x:Top) (hb:x.I7.length≤140737488355328) (y:Bool): ∀ (t:List Int) (p:Option Int) (k fuel:Nat),x.I7.drop k=t→t.length<fuel→(k=0→p=none)→(0<k→x.I7[k - 1]? = p∧p≠none)→ ∃ z,cj x fuel y k=some (if (t.all okn && up ltI p t)=true then .go (y,z) else .ret false)
 | [],p,k,fuel+1,h,hf,h0,h1=>by
  have:=fK h
  refine⟨k,?_⟩
  rw[cj,if_neg (by omega)]
  cases p <;> rfl
 | n::t,p,k,fuel+1,h,hf,h0,h1=>by
  obtain⟨g1,g2,g3⟩:=dJ h
  rw[J0] at hf
  obtain⟨z,hz⟩:=zH x hb y t (some n) (k+1) fuel g2 (by omega) (fun h=>absurd h (by omega)) (fun _=>⟨g1,by simp⟩)
  rw[cj,if_pos (by omega),g1]
  simp only[JR]
  rw[List.all_cons]
  by_cases c1:n<0
  ·refine⟨0,?_⟩
   rw[if_pos c1,if_neg]
   simp only[okn,Bool.and_eq_true,decide_eq_true_eq]
   omega
  by_cases c2:n>2147483647
  ·refine⟨0,?_⟩
   rw[if_neg c1,if_pos c2,if_neg]
   simp only[okn,Bool.and_eq_true,decide_eq_true_eq]
   omega
  rw[if_neg c1,if_neg c2]
  have ho:okn n=true:=by simp only[okn,Bool.and_eq_true,decide_eq_true_eq]; omega
  rcases Nat.eq_zero_or_pos k with hk | hk
  ·obtain rfl:=h0 hk
   refine⟨z,?_⟩
   rw[if_neg (by omega),if_pos (by omega),hz,ho,Bool.true_and,show up ltI none (n::t)=up ltI (some n) t from rfl]
  ·obtain⟨e1,e2⟩:=h1 hk
   rw[if_pos (by omega),if_pos (by omega),if_pos (by omega),show ((k:Int) - 1).toNat=k - 1 by omega,e1]
   cases p with
   | none=>exact absurd rfl e2
   | some q =>
    simp only[JR]
    by_cases hc:q<n
    ·refine⟨z,?_⟩
     rw[if_neg (by omega),if_pos (by omega),hz,ho,Bool.true_and]
     simp only[up,ltI,hc,decide_true,Bool.true_and]
    ·refine⟨0,?_⟩
     rw[if_pos (by omega),if_neg]
     simp only[up,ltI,hc,decide_false,Bool.false_and,Bool.and_false,Bool.false_eq_true,not_false_eq_true]
theorem zI (a0:List Top) (hb:a0.length≤140737488355328) (hw: ∀ t,t∈a0→t.I7.length≤140737488355328∧t.Jd.length≤140737488355328) (y:Bool): ∀ (t:List Top) (p:Option Top) (k fuel:Nat),a0.drop k=t→t.length<fuel→(k=0→p=none)→(0<k→a0[k - 1]? = p∧p≠none)→ ∃ z,cv a0 fuel y k=some (if (t.all ko && up Op.bytesLess (p.map (·.Jd)) (t.map (·.Jd)))=true then .go (y,z) else .ret false)
 | [],p,k,fuel+1,h,hf,h0,h1=>by
  have:=fK h
  refine⟨k,?_⟩
  rw[cv,if_neg (by omega)]
  cases p <;> rfl
 | x::t,p,k,fuel+1,h,hf,h0,h1=>by
  obtain⟨g1,g2,g3⟩:=dJ h
  have hx:=hw x (List.mem_of_getElem? g1)
  rw[J0] at hf
  obtain⟨z,hz⟩:=zI a0 hb hw y t (some x) (k+1) fuel g2 (by omega) (fun h=>absurd h (by omega)) (fun _=>⟨g1,by simp⟩)
  rw[cv,if_pos (by omega),g1,JR]
  rw[List.all_cons,List.map_cons]
  by_cases c1:(x.Jd.length:Int)<1
  ·refine⟨0,?_⟩
   have:x.Jd = []:=List.length_eq_zero_iff.1 (by omega)
   rw[if_pos c1,if_neg]
   simp[ko,this]
  by_cases c2:(x.Jd.length:Int)>32767
  ·refine⟨0,?_⟩
   rw[if_neg c1,if_pos c2,if_neg]
   simp[ko,show ¬ x.Jd.length≤32767 by omega]
  by_cases c3:(x.I7.length:Int)<1
  ·refine⟨0,?_⟩
   have:x.I7 = []:=List.length_eq_zero_iff.1 (by omega)
   rw[if_neg c1,if_neg c2,if_pos c3,if_neg]
   simp[ko,uT,this]
  rw[if_neg c1,if_neg c2,if_neg c3]
  have hne:x.Jd.isEmpty=false:=by cases hh:x.Jd with | nil=>rw[hh] at c1; simp at c1 | cons c u=>rfl
  have hnp:x.I7.isEmpty=false:=by cases hh:x.I7 with | nil=>rw[hh] at c3; simp at c3 | cons c u=>rfl
  have ho:ko x=(x.I7.all okn && up ltI none x.I7):=by
   simp[ko,uT,hne,hnp,show x.Jd.length≤32767 by omega]
  obtain⟨z2,hz2⟩:=zH x hx.1 y x.I7 none 0 (((x.I7.length:Int)).toNat+1) rfl (by omega) (fun _=>rfl) (fun h=>absurd h (by omega))
  rw[ho]
  rcases Nat.eq_zero_or_pos k with hk | hk
  ·obtain rfl:=h0 hk
   rw[if_neg (by omega),xL,hz2]
   cases hq:(x.I7.all okn && up ltI none x.I7) with
   | false=>exact⟨0,by simp⟩
   | true =>
    refine⟨z,?_⟩
    rw[if_pos rfl,JR,Bool.true_and]
    simp only
    rw[if_pos (by omega),hz,show (none:Option Top).map (·.Jd)=none from rfl,show up Op.bytesLess none (x.Jd::t.map (·.Jd))=up Op.bytesLess (some x.Jd) (t.map (·.Jd)) from rfl]
    rfl
  ·obtain⟨e1,e2⟩:=h1 hk
   rw[if_pos (by omega),if_pos (by omega),if_pos (by omega),show ((k:Int) - 1).toNat=k - 1 by omega,e1]
   cases p with
   | none=>exact absurd rfl e2
   | some q =>
    rw[JR]
    rw[Fm _ _ (hw q (List.mem_of_getElem? e1)).2]
    rw[JR,show (some q).map (·.Jd)=some q.Jd from rfl,show up Op.bytesLess (some q.Jd) (x.Jd::t.map (·.Jd))=(Op.bytesLess q.Jd x.Jd && up Op.bytesLess (some x.Jd) (t.map (·.Jd))) from rfl]
    cases hc:Op.bytesLess q.Jd x.Jd with
    | false=>exact⟨0,by simp⟩
    | true =>
     rw[if_pos rfl,hz2]
     cases hq:(x.I7.all okn && up ltI none x.I7) with
     | false=>exact⟨0,by simp⟩
     | true =>
      refine⟨z,?_⟩
      rw[if_pos rfl,JR,Bool.true_and]
      simp only
      rw[if_pos (by omega),hz]
      rfl
theorem Fo (a0:List Top) (hb:a0.length≤140737488355328) (hw: ∀ t,t∈a0→t.I7.length≤140737488355328∧t.Jd.length≤140737488355328):gi a0=some (nb a0):=by
 unfold gi nb
 obtain⟨z,hz⟩:=zI a0 hb hw false a0 none 0 (((a0.length:Int)).toNat+1) rfl (by omega) (fun _=>rfl) (fun h=>absurd h (by omega))
 rw[show (none:Option Top).map (·.Jd)=none from rfl] at hz
 rw[hz]
 cases (a0.all ko && up Op.bytesLess none (a0.map (·.Jd))) <;> rfl
def gdP (p:aR):Prop:=wI p.Jp∧p.Jf.length≤140737488351232∧ ∀ b,b∈p.Jf→bnB b
def gdT (t:aD):Prop:=t.Jd.length≤140737488351232∧t.I7.length*32≤140737488351232∧ ∀ p,p∈t.I7→gdP p
def gdQ (r:aw):Prop:=wI r.Jb∧r.I5.length*40≤140737488351232∧ ∀ t,t∈r.I5→gdT t
def fU (nul:Bool):List Bat→Int
 | []=>0
 | b::l=>if chk b=0 then (if b.JB=true then 12 else if b.JE=nul then 8 else fU nul l) else chk b
def mF (v:Int) (nul:Bool) (l:List Bat):Int:=if l.length=0∨(v<4∧1<l.length) then 10 else fU nul l
theorem Fp (r:aw) (y:Int): ∀ l:List Bat,(∀ b,b∈l→bnB b)→bO r l y=some (if fU r.Jc.null l=0 then .go y else .ret (fU r.Jc.null l))
 | [],_=>rfl
 | b::l,h=>by
  rw[bO,(ya (h b (.head _))).1,JR,fU,Fp r y l (fun x hx=>h x (.tail _ hx))]
  by_cases c1:chk b=0
  ·rw[if_pos c1,if_pos c1]
   by_cases c2:b.JB=true
   ·rw[if_pos c2,if_pos c2]; rfl
   ·rw[if_neg c2,if_neg c2]
    by_cases c3:b.JE=r.Jc.null
    ·rw[if_pos (by rw[c3]; exact beq_self_eq_true _),if_pos c3]; rfl
    ·rw[if_neg (by simpa using c3),if_neg c3]
  ·rw[if_neg c1,if_neg c1,if_neg c1]
theorem Fq (r:aw) (l:List Bat) (v:Int) (h: ∀ b,b∈l→bnB b):dD r l v=some (mF v r.Jc.null l):=by
 unfold dD mF
 by_cases c0:l.length=0
 ·rw[if_pos (by omega),JR,if_pos rfl,if_pos (.inl c0)]
 rw[if_neg (by omega)]
 by_cases c1:v<4
 ·rw[if_pos c1]
  by_cases c2:1<l.length
  ·rw[if_pos (by omega),JR,if_pos rfl,if_pos (.inr ⟨c1,c2⟩)]
  ·rw[if_neg (by omega),JR,if_neg (by decide),Fp r 0 l h,if_neg (show ¬ (l.length=0∨(v<4∧1<l.length)) from fun hh=>by rcases hh with hh | hh; exact c0 hh; exact c2 hh.2)]
   by_cases c3:fU r.Jc.null l=0
   ·rw[if_pos c3,c3]; rfl
   ·rw[if_neg c3]; rfl
 ·rw[if_neg c1,JR,if_neg (by decide),Fp r 0 l h,if_neg (show ¬ (l.length=0∨(v<4∧1<l.length)) from fun hh=>by rcases hh with hh | hh; exact c0 hh; exact c1 hh.1)]
  by_cases c3:fU r.Jc.null l=0
  ·rw[if_pos c3,c3]; rfl
  ·rw[if_neg c3]; rfl
theorem Ct (a:List Bat) (nul:Bool) (hn:a.length≤140737488351232) (y:Int): ∀ (l:List Bat) (k fuel:Nat),a.drop k=l→l.length<fuel→(∀ b,b∈l→bnB b)→ ∃ z,dQ a (!nul) fuel y k=some (if fU nul l=0 then .go (y,z) else .ret (fU nul l))
 | [],k,fuel+1,h,hf,_=>by
  have:=eb h
  exact⟨k,by rw[dQ,if_neg (by omega)]; rfl⟩
 | b::l,k,fuel+1,h,hf,hw=>by
  obtain⟨g1,g2,g3⟩:=cK h
  rw[J0] at hf
  obtain⟨z,hz⟩:=Ct a nul hn y l (k+1) fuel g2 (by omega) (fun x hx=>hw x (.tail _ hx))
  refine⟨z,?_⟩
  rw[dQ,if_pos (by omega),g1,JR,(ya (hw b (.head _))).2,JR,fU,if_pos (show -9223372036854775808≤(k:Int)+1∧(k:Int)+1≤9223372036854775807 by omega),hz]
  by_cases c1:chk b=0
  ·rw[if_pos c1,if_pos c1]
   by_cases c2:b.JB=true
   ·rw[if_pos c2,if_pos c2]; rfl
   ·rw[if_neg c2,if_neg c2]
    by_cases c3:b.JE=nul
    ·rw[if_neg (by rw[c3]; cases nul <;> decide),if_pos c3]; rfl
    ·rw[if_pos (by cases hb:b.JE <;> cases nul <;> simp_all),if_neg c3]
  ·rw[if_neg c1,if_neg c1,if_neg c1]
theorem zJ (l:List Bat) (nul:Bool) (v:Int) (hv:v=3∨v=4) (hn:l.length≤140737488351232) (h: ∀ b,b∈l→bnB b):e7 l (!nul) v=some (mF v nul l):=by
 obtain⟨z,hz⟩:=Ct l nul hn 0 l 0 (((l.length:Int)).toNat+1) rfl (by omega) h
 have hend:((some (if fU nul l=0 then (.go (0,z):Lp Int (Int×Nat)) else .ret (fU nul l))).bind fun e=>match e with | .ret r=>some r | .go (y33,k34)=>(some 0:Option Int))=some (fU nul l):=by
  by_cases c3:fU nul l=0
  ·rw[if_pos c3,c3]; rfl
  ·rw[if_neg c3]; rfl
 unfold e7 mF
 by_cases c0:l.length=0
 ·rw[if_pos (by omega),JR,if_pos rfl,if_pos (.inl c0)]
 rw[if_neg (by omega)]
 rcases hv with rfl | rfl
 ·rw[if_pos rfl]
  by_cases c2:1<l.length
  ·rw[if_pos (by omega),JR,if_pos rfl,if_pos (.inr ⟨by decide,c2⟩)]
  ·rw[if_neg (by omega),JR,if_neg (by decide),hz,if_neg (show ¬ (l.length=0∨((3:Int)<4∧1<l.length)) from fun hh=>by rcases hh with hh | hh; exact c0 hh; exact c2 hh.2)]
   exact hend
 ·rw[if_neg (by decide),JR,if_neg (by decide),hz,if_neg (show ¬ (l.length=0∨((4:Int)<4∧1<l.length)) from fun hh=>by rcases hh with hh | hh; exact c0 hh; exact absurd hh.1 (by decide))]
  exact hend
def vz:Option Int→Int→Bool
 | none,_=>true
 | some q,n=>decide (q<n)
def rqP:Option Int→List aR→Bool
 | _,[]=>true
 | p,x::l=>okn x.Jp && vz p x.Jp && rqP (some x.Jp) l
def sL:Option (List UInt8)→List UInt8→Bool
 | none,_=>true
 | some q,d=>Op.bytesLess q d
def qa (p:Option (List UInt8)) (t:aD):Bool:= !t.Jd.isEmpty && decide (t.Jd.length≤32767) && sL p t.Jd && rqP none t.I7
def rqT:Option (List UInt8)→List aD→Int
 | _,[]=>0
 | p,t::l=>if t.I7.length=0 then 10 else if qa p t=true then rqT (some t.Jd) l else 13
def oG (l:List aD):Int:=if l.length=0 then 10 else rqT none l
theorem zK (t:aD) (hn:t.I7.length≤140737488351232) (y:Int): ∀ (l:List aR) (p:Option Int) (k:Nat),t.I7.drop k=l→(∀ q,q∈l→wI q.Jp)→(k=0→p=none)→(0<k→ ∃ u,t.I7[k - 1]? = some u∧p=some u.Jp)→dm t l y k=some (if rqP p l=true then .go y else .ret 13)
 | [],p,k,_,_,_,_=>rfl
 | x::l,p,k,h,hw,h0,h1=>by
  obtain⟨g1,g2,g3⟩:=cK h
  have hx:=hw x (.head _)
  have ih:=zK t hn y l (some x.Jp) (k+1) g2 (fun q hq=>hw q (.tail _ hq)) (fun h=>absurd h (by omega)) (fun _=>⟨x,g1,rfl⟩)
  rw[dm,fx _ _ hx,JR,eo,rqP]
  by_cases c1:x.Jp<0
  ·have:okn x.Jp=false:=by unfold okn; simp; omega
   rw[if_pos c1,JR,if_pos rfl,this]; rfl
  rw[if_neg c1]
  by_cases c2:x.Jp≤2147483647
  rotate_left
  ·have:okn x.Jp=false:=by unfold okn; simp; omega
   rw[if_neg (by simp; omega),JR,if_pos rfl,this]; rfl
  have hok:okn x.Jp=true:=by unfold okn; simp; omega
  rw[if_pos (by simp; omega),hok]
  rcases Nat.eq_zero_or_pos k with hk | hk
  ·rw[h0 hk,if_neg (by omega),JR,if_neg (by decide),ih]; rfl
  ·obtain⟨u,u1,rfl⟩:=h1 hk
   rw[if_pos (by omega),if_pos (by omega),if_pos (by omega),show ((k:Int) - 1).toNat=k - 1 by omega,u1,JR]
   by_cases c3:u.Jp<x.Jp
   ·rw[if_neg (by omega),JR,if_neg (by decide),ih]
    rw[vz,JS c3]; rfl
   ·rw[if_pos (by omega),JR,if_pos rfl]
    rw[vz,JT c3]; rfl
theorem zL (a:List aD) (y:Int): ∀ (l:List aD) (p:Option (List UInt8)) (k:Nat),a.drop k=l→a.length≤140737488351232→(∀ t,t∈l→gdT t)→(k=0→p=none)→(0<k→ ∃ u,a[k - 1]? = some u∧p=some u.Jd)→cx a l y k=some (if rqT p l=0 then .go y else .ret (rqT p l))
 | [],p,k,_,_,_,_,_=>rfl
 | t::l,p,k,h,hn,hw,h0,h1=>by
  obtain⟨g1,g2,g3⟩:=cK h
  have ht:=hw t (.head _)
  have ih:=zL a y l (some t.Jd) (k+1) g2 hn (fun q hq=>hw q (.tail _ hq)) (fun h=>absurd h (by omega)) (fun _=>⟨t,g1,rfl⟩)
  rw[cx,rqT]
  by_cases c0:t.I7.length=0
  ·rw[if_pos (by omega),if_pos c0]; rfl
  rw[if_neg (by omega),if_neg c0]
  have hl3:=zK t (by have:=ht.2.1; omega) y t.I7 none 0 rfl (fun q hq=>(ht.2.2 q hq).1) (fun _=>rfl) (fun h=>absurd h (by omega))
  rw[hl3]
  have bad: ∀ {b:Bool},qa p t=false→b=true→((some b).bind fun y143=>if y143=true then some (Lp.ret 13:Lp Int Int) else ((some (if rqP none t.I7=true then (.go y:Lp Int Int) else .ret 13)).bind fun e=>match e with | .ret r=>some (Lp.ret r) | .go y237=>(cx a l y237 (k+1))))=some (if (if qa p t=true then rqT (some t.Jd) l else 13)=0 then .go y else .ret (if qa p t=true then rqT (some t.Jd) l else 13)):=by
   intro b hb hb2
   rw[hb2,JR,if_pos rfl,hb]; rfl
  have good: ∀ {b:Bool},(!t.Jd.isEmpty && decide (t.Jd.length≤32767) && sL p t.Jd)=true→b=false→((some b).bind fun y143=>if y143=true then some (Lp.ret 13:Lp Int Int) else ((some (if rqP none t.I7=true then (.go y:Lp Int Int) else .ret 13)).bind fun e=>match e with | .ret r=>some (Lp.ret r) | .go y237=>(cx a l y237 (k+1))))=some (if (if qa p t=true then rqT (some t.Jd) l else 13)=0 then .go y else .ret (if qa p t=true then rqT (some t.Jd) l else 13)):=by
   intro b hb hb2
   rw[hb2,JR,if_neg (by decide),JR]
   unfold qa
   rw[hb,Bool.true_and]
   cases rqP none t.I7
   ·rfl
   ·exact ih
  by_cases c1:t.Jd = []
  ·rw[if_pos c1]
   exact bad (by unfold qa; rw[c1]; rfl) rfl
  rw[if_neg c1]
  have hne:t.Jd.isEmpty=false:=by cases hh:t.Jd with | nil=>exact absurd hh c1 | cons c u=>rfl
  by_cases c2:(t.Jd.length:Int)>32767
  ·rw[if_pos c2]
   exact bad (by unfold qa; rw[JT (by omega)]; simp) rfl
  rw[if_neg c2]
  rcases Nat.eq_zero_or_pos k with hk | hk
  ·rw[if_neg (by omega)]
   exact good (by rw[h0 hk,hne,JS (by omega)]; rfl) rfl
  ·obtain⟨u,u1,rfl⟩:=h1 hk
   rw[if_pos (by omega),if_pos (by omega),if_pos (by omega),show ((k:Int) - 1).toNat=k - 1 by omega,u1,JR]
   by_cases c3:Op.bytesLess u.Jd t.Jd=true
   ·rw[if_pos c3]
    exact good (by rw[hne,JS (by omega)]; exact c3) rfl
   ·rw[if_neg c3]
    exact bad (by unfold qa sL; simp only[c3]; simp) rfl
theorem Fs (l:List aD) (hn:l.length≤140737488351232) (hw: ∀ t,t∈l→gdT t):hM l=some (oG l):=by
 unfold hM oG
 by_cases c0:l.length=0
 ·rw[if_pos (by omega),if_pos c0]
 ·rw[if_neg (by omega),if_neg c0,zL l 0 l none 0 rfl hn hw (fun _=>rfl) (fun h=>absurd h (by omega))]
  by_cases c:rqT none l=0
  ·rw[if_pos c,c]; rfl
  ·rw[if_neg c]; rfl
def vA (t:aD):Top:=⟨t.Jd,t.I7.map (·.Jp)⟩
theorem zM (t:aD) (hn:t.I7.length*8≤140737488351232): ∀ (l:List aR) (acc:List Int) (k fuel:Nat),t.I7.drop k=l→l.length<fuel→acc.length=k→ ∃ z,dY (ofT t) fuel k acc=some (z,acc++l.map (·.Jp))
 | [],acc,k,fuel+1,h,hf,_=>by
  have:=eb h
  exact⟨k,by rw[dY,if_neg (by show ¬ (k:Int)<((t.I7.map ofP).length:Int); rw[Kl]; omega),List.map_nil,Kg]⟩
 | x::l,acc,k,fuel+1,h,hf,hk=>by
  obtain⟨g1,g2,g3⟩:=cK h
  rw[J0] at hf
  obtain⟨z,hz⟩:=zM t hn l (acc ++ [x.Jp]) (k+1) fuel g2 (by omega) (by rw[JU,KY,hk])
  have e1:(ofT t).I7[k]? = some (ofP x):=by show (t.I7.map ofP)[k]? = _; rw[List.getElem?_map,g1]; rfl
  refine⟨z,?_⟩
  rw[dY,if_pos (by show (k:Int)<((t.I7.map ofP).length:Int); rw[Kl]; omega),e1,JR,if_pos (by omega),if_pos (by omega)]
  show dY (ofT t) fuel (k+1) (acc ++ [x.Jp])= _
  rw[hz,JY]
  rfl
theorem Ft (t:aD) (hn:t.I7.length*8≤140737488351232):ke (ofT t)=some (vA t):=by
 have e4:(ofT t).I7.length=t.I7.length:=Kl _
 obtain⟨z,hz⟩:=zM t hn t.I7 [] 0 (((t.I7.length:Int)).toNat+1) rfl (by omega) rfl
 unfold ke
 rw[e4,hz,JR,Kc]
 rfl
theorem Br: ∀ (l:List aR) (p:Option Int),rqP p l=((l.map (·.Jp)).all okn && up ltI p (l.map (·.Jp)))
 | [],p=>by cases p <;> rfl
 | x::l,none=>by
  rw[rqP,Br l,List.map_cons,List.all_cons,up,vz]
  cases okn x.Jp <;> cases (l.map (·.Jp)).all okn <;> rfl
 | x::l,some q=>by
  rw[rqP,Br l,List.map_cons,List.all_cons,up,vz,ltI]
  cases okn x.Jp <;> cases (l.map (·.Jp)).all okn <;> cases decide (q<x.Jp) <;> rfl
def pA:Option (List UInt8)→List (List UInt8)→Option (List UInt8)
 | p,[]=>p
 | _,x::l=>pA (some x) l
theorem yc: ∀ (l:List (List UInt8)) (p:Option (List UInt8)) (x:List UInt8),up Op.bytesLess p (l ++ [x])=(up Op.bytesLess p l && sL (pA p l) x)
 | [],none,x=>rfl
 | [],some q,x=>by show (Op.bytesLess q x && true)=(true && Op.bytesLess q x); rw[Bool.and_true,Bool.true_and]
 | y::l,none,x=>by
  show up Op.bytesLess (some y) (l ++ [x])= _
  rw[yc l (some y) x]; rfl
 | y::l,some q,x=>by
  show (Op.bytesLess q y && up Op.bytesLess (some y) (l ++ [x]))= _
  rw[yc l (some y) x,← Bool.and_assoc]; rfl
theorem vB: ∀ (l:List (List UInt8)) (p:Option (List UInt8)) (x:List UInt8),pA p (l ++ [x])=some x
 | [],p,x=>rfl
 | y::l,p,x=>vB l (some y) x
theorem xe (l:List Top) (t:aD) (h:nb l=true) (hp:t.I7.length≠0):nb (l ++ [vA t])=qa (pA none (l.map (·.Jd))) t:=by
 have h2:l.all ko=true∧up Op.bytesLess none (l.map (·.Jd))=true:=by simpa [nb] using h
 have h3:(t.I7.map (·.Jp)).isEmpty=false:=by cases hh:t.I7 with | nil=>exact absurd (by rw[hh]; rfl) hp | cons c u=>rfl
 unfold nb qa
 rw[List.all_append,h2.1,List.map_append,List.map_singleton,yc,h2.2,Br]
 simp only[List.all_cons,List.all_nil,Bool.and_true,Bool.true_and,ko,uT]
 show (!t.Jd.isEmpty && decide (t.Jd.length≤32767) && ((t.I7.map (·.Jp)).all okn && up ltI none (t.I7.map (·.Jp)) && !(t.I7.map (·.Jp)).isEmpty) && sL (pA none (l.map (·.Jd))) t.Jd)= _
 rw[h3]
 cases t.Jd.isEmpty <;> cases decide (t.Jd.length≤32767) <;> cases sL (pA none (l.map (·.Jd))) t.Jd <;> cases (t.I7.map (·.Jp)).all okn <;> cases up ltI none (t.I7.map (·.Jp)) <;> rfl
theorem vC (a:List aD) (hn:a.length*40≤140737488351232) (y:Int): ∀ (l:List aD) (acc:List Top) (k fuel:Nat),a.drop k=l→l.length<fuel→acc.length=k→(∀ t,t∈l→gdT t)→(∀ t,t∈acc→t.I7.length≤140737488355328∧t.Jd.length≤140737488355328)→nb acc=true→ ∃ z,e6 (a.map ofT) fuel y acc k=some (if rqT (pA none (acc.map (·.Jd))) l=0 then .go (y,z) else .ret (rqT (pA none (acc.map (·.Jd))) l))
 | [],acc,k,fuel+1,h,hf,_,_,_,_=>by
  have:=eb h
  exact⟨(acc,k),by rw[e6,if_neg (by rw[Kl]; omega)]; rfl⟩
 | t::l,acc,k,fuel+1,h,hf,hk,hw,ha,ho=>by
  obtain⟨g1,g2,g3⟩:=cK h
  obtain⟨t1,t2,t3⟩:=hw t (.head _)
  rw[J0] at hf
  have e1:(a.map ofT)[k]? = some (ofT t):=by rw[List.getElem?_map,g1]; rfl
  have e4:(ofT t).I7.length=t.I7.length:=Kl _
  rw[e6,if_pos (by rw[Kl]; omega),e1,JR,e4,rqT]
  by_cases c0:t.I7.length=0
  ·rw[if_pos (by omega),if_pos c0]
   exact⟨(acc,k),rfl⟩
  have ha2: ∀ u,u∈acc ++ [vA t]→u.I7.length≤140737488355328∧u.Jd.length≤140737488355328:=fun u hu=>by
   rcases List.mem_append.1 hu with hu | hu
   ·exact ha u hu
   ·rw[List.mem_singleton.1 hu]
    refine⟨?_,by show t.Jd.length≤ _; omega⟩
    show (t.I7.map _).length≤ _
    rw[Kl]; omega
  rw[if_neg (by omega),if_neg c0,Ft t (by omega),JR,if_pos (by omega),Fo _ (by rw[JU,KY]; omega) ha2,JR,xe acc t ho c0]
  by_cases c1:qa (pA none (acc.map (·.Jd))) t=true
  ·obtain⟨z,hz⟩:=vC a hn y l (acc ++ [vA t]) (k+1) fuel g2 (by omega) (by rw[JU,KY,hk]) (fun u hu=>hw u (.tail _ hu)) ha2 (by rw[xe acc t ho c0]; exact c1)
   have e5:pA none ((acc ++ [vA t]).map (·.Jd))=some t.Jd:=by rw[List.map_append,List.map_singleton,vB]; rfl
   rw[e5] at hz
   exact⟨z,by rw[if_pos c1,if_pos c1,if_pos (by omega),hz]⟩
  ·exact⟨(acc,k),by rw[if_neg c1,if_neg c1]; rfl⟩
theorem Bt (l:List aD) (hn:l.length*40≤140737488351232) (hw: ∀ t,t∈l→gdT t):jO (l.map ofT)=some (oG l):=by
 unfold jO oG
 rw[Kl]
 by_cases c0:l.length=0
 ·rw[if_pos (by omega),if_pos c0]
 ·obtain⟨z,hz⟩:=vC l hn 0 l [] 0 (((l.length:Int)).toNat+1) rfl (by omega) rfl hw (fun t h=>nomatch h) rfl
  rw[if_neg (by omega),if_neg c0,hz]
  show ((some (if rqT none l=0 then _ else _)).bind _)= _
  by_cases c:rqT none l=0
  ·rw[if_pos c,c]; rfl
  ·rw[if_neg c]; rfl
def gt (v:Int) (nul:Bool):List aR→Int
 | []=>0
 | p::l=>if mF v nul p.Jf=0 then gt v nul l else mF v nul p.Jf
def ik (v:Int) (nul:Bool):List aD→Int
 | []=>0
 | t::l=>if gt v nul t.I7=0 then ik v nul l else gt v nul t.I7
def v7 (r:aw):Prop:=bi r.Jc=true∧(r.Jc.null=true∨dc r.Jc.data=true)
def vD (r:aw):Prop:= -1≤r.Ju∧r.Ju≤1∧0≤r.Jb∧r.Jb≤2147483647
instance (r:aw):Decidable (v7 r):=by unfold v7; infer_instance
instance (r:aw):Decidable (vD r):=by unfold vD; infer_instance
def rf (v:Int) (r:aw):Int:=if v7 r then (if vD r then (if oG r.I5=0 then ik v r.Jc.null r.I5 else oG r.I5) else 11) else 4
theorem pc_l2 (r:aw) (v y:Int): ∀ l:List aR,(∀ p,p∈l→gdP p)→bY r v l y=some (if gt v r.Jc.null l=0 then .go y else .ret (gt v r.Jc.null l))
 | [],_=>rfl
 | p::l,h=>by
  rw[bY,Fq r p.Jf v (h p (.head _)).2.2,JR,gt,pc_l2 r v y l (fun q hq=>h q (.tail _ hq))]
  by_cases c:mF v r.Jc.null p.Jf=0
  ·rw[if_pos c,if_pos c]
  ·rw[if_neg c,if_neg c,if_neg c]
theorem pc_l1 (r:aw) (v y:Int): ∀ l:List aD,(∀ t,t∈l→gdT t)→bZ r v l y=some (if ik v r.Jc.null l=0 then .go y else .ret (ik v r.Jc.null l))
 | [],_=>rfl
 | t::l,h=>by
  rw[bZ,pc_l2 r v y t.I7 (h t (.head _)).2.2,JR,ik]
  by_cases c:gt v r.Jc.null t.I7=0
  ·rw[if_pos c,if_pos c]
   dsimp only
   rw[pc_l1 r v y l (fun q hq=>h q (.tail _ hq))]
  ·rw[if_neg c,if_neg c,if_neg c]
theorem Fu (r:aw) (v:Int) (h:gdQ r):cf r v=some (rf v r):=by
 unfold cf rf
 have h1:(((nQ r.Jc).bind fun x12=>if x12=true then (if r.Jc.null=true then some false else ((lL r.Jc.data).bind fun x16=>if x16=true then some false else some true)) else some true):Option Bool)=some (decide (¬ v7 r)):=by
  rw[oN,JR,mO]
  by_cases c1:bi r.Jc=true
  ·rw[if_pos c1]
   by_cases c2:r.Jc.null=true
   ·rw[if_pos c2]; exact congrArg some (Eq.symm (JT (fun hh=>hh ⟨c1,.inl c2⟩)))
   ·rw[if_neg c2,JR]
    by_cases c3:dc r.Jc.data=true
    ·rw[if_pos c3]; exact congrArg some (Eq.symm (JT (fun hh=>hh ⟨c1,.inr c3⟩)))
    ·rw[if_neg c3]; exact congrArg some (Eq.symm (JS (fun hh=>hh.2.elim c2 c3)))
  ·rw[if_neg c1]; exact congrArg some (Eq.symm (JS (fun hh=>c1 hh.1)))
 have h2:((if r.Ju<(-1) then some true else (if r.Ju>1 then some true else (if r.Jb<0 then some true else ((il r.Jb 4).bind fun x30=>if x30=true then some false else some true)))):Option Bool)=some (decide (¬ vD r)):=by
  rw[fx _ _ h.1,JR,eo]
  unfold vD
  by_cases c1:r.Ju < -1
  ·rw[if_pos c1,JS (by omega)]
  rw[if_neg c1]
  by_cases c2:r.Ju>1
  ·rw[if_pos c2,JS (by omega)]
  rw[if_neg c2]
  by_cases c3:r.Jb<0
  ·rw[if_pos c3,JS (by omega)]
  rw[if_neg c3]
  by_cases c4:r.Jb≤2147483647
  ·rw[if_pos (JS (by omega)),JT (by omega)]
  ·rw[if_neg (by rw[decide_eq_true_eq]; omega),JS (by omega)]
 rw[h1,JR]
 by_cases c1:v7 r
 rotate_left
 ·rw[JS c1,if_pos rfl,if_neg c1]
 rw[JT (fun hh=>hh c1),if_neg (by decide),if_pos c1,h2,JR]
 by_cases c2:vD r
 rotate_left
 ·rw[JS c2,if_pos rfl,if_neg c2]
 rw[JT (fun hh=>hh c2),if_neg (by decide),if_pos c2,Fs _ (by have:=h.2.1; omega) h.2.2,JR]
 by_cases c3:oG r.I5=0
 ·rw[if_pos c3,if_pos c3,pc_l1 r v 0 _ h.2.2]
  by_cases c4:ik v r.Jc.null r.I5=0
  ·rw[if_pos c4,c4]; rfl
  ·rw[if_neg c4]; rfl
 ·rw[if_neg c3,if_neg c3]
theorem rc_l2 (r:aw) (v:Int) (hv:v=3∨v=4) (t:aD) (j:Nat) (hj:r.I5[j]? = some t) (hn:t.I7.length≤140737488351232) (y:Int): ∀ (l:List aR) (k fuel:Nat),t.I7.drop k=l→l.length<fuel→(∀ p,p∈l→gdP p)→ ∃ z,dy (ofQ r) v j fuel y k=some (if gt v r.Jc.null l=0 then .go (y,z) else .ret (gt v r.Jc.null l))
 | [],k,fuel+1,h,hf,_=>by
  have:=eb h
  have e1:(ofQ r).I5[j]? = some (ofT t):=by show (r.I5.map ofT)[j]? = _; rw[List.getElem?_map,hj]; rfl
  exact⟨k,by rw[dy,e1,JR,if_neg (by show ¬ (k:Int)<((t.I7.map ofP).length:Int); rw[Kl]; omega)]; rfl⟩
 | p::l,k,fuel+1,h,hf,hw=>by
  obtain⟨g1,g2,g3⟩:=cK h
  obtain⟨p1,p2,p3⟩:=hw p (.head _)
  rw[J0] at hf
  obtain⟨z,hz⟩:=rc_l2 r v hv t j hj hn y l (k+1) fuel g2 (by omega) (fun x hx=>hw x (.tail _ hx))
  have e1:(ofQ r).I5[j]? = some (ofT t):=by show (r.I5.map ofT)[j]? = _; rw[List.getElem?_map,hj]; rfl
  have e2:(ofT t).I7[k]? = some (ofP p):=by show (t.I7.map ofP)[k]? = _; rw[List.getElem?_map,g1]; rfl
  have R5: -9223372036854775808≤(k:Int)+1∧(k:Int)+1≤9223372036854775807:=by omega
  have hb:=fun nul=>zJ p.Jf nul v hv p2 p3
  refine⟨z,?_⟩
  rw[dy,e1,JR,if_pos (by show (k:Int)<((t.I7.map ofP).length:Int); rw[Kl]; omega),e2,JR,gt]
  show (if r.Jc.null=true then ((e7 p.Jf false v).bind _) else ((e7 p.Jf true v).bind _))= _
  by_cases c:r.Jc.null=true
  ·have h1:=hb true
   rw[Bool.not_true] at h1
   rw[if_pos c,h1,JR,if_pos R5,hz,c]
   by_cases c2:mF v true p.Jf=0
   ·rw[if_pos c2,if_pos c2]
   ·rw[if_neg c2,if_neg c2,if_neg c2]
  ·have h1:=hb false
   rw[Bool.not_false] at h1
   have c':r.Jc.null=false:=by simpa using c
   rw[if_neg c,h1,JR,if_pos R5,hz,c']
   by_cases c2:mF v false p.Jf=0
   ·rw[if_pos c2,if_pos c2]
   ·rw[if_neg c2,if_neg c2,if_neg c2]
theorem rc_l1 (r:aw) (v:Int) (hv:v=3∨v=4) (hn:r.I5.length≤140737488351232) (y:Int): ∀ (l:List aD) (k fuel:Nat),r.I5.drop k=l→l.length<fuel→(∀ t,t∈l→gdT t)→ ∃ z,dz (ofQ r) v fuel y k=some (if ik v r.Jc.null l=0 then .go (y,z) else .ret (ik v r.Jc.null l))
 | [],k,fuel+1,h,hf,_=>by
  have:=eb h
  exact⟨k,by rw[dz,if_neg (by show ¬ (k:Int)<((r.I5.map ofT).length:Int); rw[Kl]; omega)]; rfl⟩
 | t::l,k,fuel+1,h,hf,hw=>by
  obtain⟨g1,g2,g3⟩:=cK h
  obtain⟨t1,t2,t3⟩:=hw t (.head _)
  rw[J0] at hf
  obtain⟨z,hz⟩:=rc_l1 r v hv hn y l (k+1) fuel g2 (by omega) (fun x hx=>hw x (.tail _ hx))
  obtain⟨z2,hz2⟩:=rc_l2 r v hv t k g1 (by omega) y t.I7 0 (t.I7.length+1) rfl (by omega) t3
  have e1:(ofQ r).I5[k]? = some (ofT t):=by show (r.I5.map ofT)[k]? = _; rw[List.getElem?_map,g1]; rfl
  have e3:(((ofQ r).I5[k]?).map (fun x37=>((x37.I7.length:Int)).toNat+1)).getD 0=t.I7.length+1:=by
   rw[e1]
   show (((t.I7.map ofP).length:Int)).toNat+1= _
   rw[Kl]; omega
  refine⟨z,?_⟩
  rw[dz,if_pos (by show (k:Int)<((r.I5.map ofT).length:Int); rw[Kl]; omega),e3,hz2,JR,ik]
  by_cases c:gt v r.Jc.null t.I7=0
  ·rw[if_pos c,if_pos c]
   dsimp only
   rw[if_pos (show -9223372036854775808≤(k:Int)+1∧(k:Int)+1≤9223372036854775807 by omega),hz]
  ·rw[if_neg c,if_neg c,if_neg c]
theorem vE (d:List UInt8):dc d=true↔d ≠ []∧d.length≤32767:=by
 unfold dc
 cases d with
 | nil=>simp
 | cons c d=>simp; omega
theorem vF (n:Bool) (d:List UInt8) (b:Bl) (h1:b.null=n) (h2:b.data=d):bi b=true↔(n=true→d = []):=by
 unfold bi
 rw[h1,h2]
 cases n <;> cases d <;> simp
theorem Fv (r:aw) (v:Int) (hv:v=3∨v=4) (h:gdQ r):iR (ofQ r) v=some (rf v r):=by
 have e4:(ofQ r).I5.length=r.I5.length:=Kl _
 unfold iR rf
 rw[e4]
 have h1:((if r.Jc.null=true then (if r.Jc.data = [] then some false else some true) else (if (r.Jc.data.length:Int)<1 then some true else (if (r.Jc.data.length:Int)>32767 then some true else some false))):Option Bool)=some (decide (¬ v7 r)):=by
  have hk:=vE r.Jc.data
  have hb:=vF r.Jc.null r.Jc.data r.Jc rfl rfl
  by_cases c2:r.Jc.null=true
  ·rw[if_pos c2]
   by_cases c3:r.Jc.data = []
   ·rw[if_pos c3]
    exact congrArg some (Eq.symm (JT (fun hh=>hh ⟨hb.2 (fun _=>c3),.inl c2⟩)))
   ·rw[if_neg c3]
    exact congrArg some (Eq.symm (JS (fun hh=>c3 (hb.1 hh.1 c2))))
  ·rw[if_neg c2]
   by_cases c3:r.Jc.data = []
   ·rw[if_pos (by rw[c3]; decide)]
    exact congrArg some (Eq.symm (JS (fun hh=>hh.2.elim c2 (fun h=>(hk.1 h).1 c3))))
   ·have hl:0<r.Jc.data.length:=List.length_pos_iff.2 c3
    rw[if_neg (by omega)]
    by_cases c4:(r.Jc.data.length:Int)>32767
    ·rw[if_pos c4]
     exact congrArg some (Eq.symm (JS (fun hh=>hh.2.elim c2 (fun h=>by have:=(hk.1 h).2; omega))))
    ·rw[if_neg c4]
     exact congrArg some (Eq.symm (JT (fun hh=>hh ⟨hb.2 (fun h=>absurd h c2),.inr (hk.2 ⟨c3,by omega⟩)⟩)))
 have h2:((if r.Ju<(-1) then some true else (if r.Ju>1 then some true else (if r.Jb<0 then some true else (if r.Jb>2147483647 then some true else some false)))):Option Bool)=some (decide (¬ vD r)):=by
  unfold vD
  by_cases c1:r.Ju < -1
  ·rw[if_pos c1,JS (by omega)]
  rw[if_neg c1]
  by_cases c2:r.Ju>1
  ·rw[if_pos c2,JS (by omega)]
  rw[if_neg c2]
  by_cases c3:r.Jb<0
  ·rw[if_pos c3,JS (by omega)]
  rw[if_neg c3]
  by_cases c4:r.Jb>2147483647
  ·rw[if_pos c4,JS (by omega)]
  ·rw[if_neg c4,JT (by omega)]
 show ((if r.Jc.null=true then (if r.Jc.data = [] then some false else some true) else (if (r.Jc.data.length:Int)<1 then some true else (if (r.Jc.data.length:Int)>32767 then some true else some false))).bind fun y7=>if y7=true then some 4 else ((if r.Ju<(-1) then some true else (if r.Ju>1 then some true else (if r.Jb<0 then some true else (if r.Jb>2147483647 then some true else some false)))).bind fun y17=>if y17=true then some 11 else ((jO (r.I5.map ofT)).bind fun x24=>if x24=0 then ((dz (ofQ r) v (((r.I5.length:Int)).toNat+1) 0 0).bind fun e=>match e with | .ret r=>some r | .go (y72,k73)=>some 0) else some x24)))= _
 rw[h1,JR]
 by_cases c1:v7 r
 rotate_left
 ·rw[JS c1,if_pos rfl,if_neg c1]
 rw[JT (fun hh=>hh c1),if_neg (by decide),if_pos c1,h2,JR]
 by_cases c2:vD r
 rotate_left
 ·rw[JS c2,if_pos rfl,if_neg c2]
 rw[JT (fun hh=>hh c2),if_neg (by decide),if_pos c2,Bt _ h.2.1 h.2.2,JR]
 by_cases c3:oG r.I5=0
 ·obtain⟨z,hz⟩:=rc_l1 r v hv (by have:=h.2.1; omega) 0 r.I5 0 (((r.I5.length:Int)).toNat+1) rfl (by omega) h.2.2
  rw[if_pos c3,if_pos c3,hz]
  by_cases c4:ik v r.Jc.null r.I5=0
  ·rw[if_pos c4,c4]; rfl
  ·rw[if_neg c4]; rfl
 ·rw[if_neg c3,if_neg c3]
def rg:Nat→Pr (List Bat)
 | 0=> .ret []
 | n+1=>fun s q=>if q=s.length then .ok ([],q) else (Ds.bind fun b=>(rg n).bind fun l=> .ret (b::l)) s q
theorem oZ {b:Bat} (h:okB b):61≤(fq b).length:=by rw[oY h]; omega
theorem xf: ∀ (n:Nat) (s:List UInt8) (q:Nat) (l:List Bat) (r:Nat),q≤s.length→s.length - q≤n→rg n s q= .ok (l,r)→r=s.length∧s.drop q=bl fq l∧ ∀ b,b∈l→okB b
 | 0,s,q,l,r,hq,hn,h=>by
  injection h with h
  obtain⟨rfl,rfl⟩:=Kj h
  exact⟨by omega,by rw[List.drop_eq_nil_of_le (by omega)]; rfl,fun b h=>nomatch h⟩
 | n+1,s,q,l,r,hq,hn,h=>by
  unfold rg at h
  by_cases he:q=s.length
  ·rw[if_pos he] at h
   injection h with h
   obtain⟨rfl,rfl⟩:=Kj h
   exact⟨he,by rw[List.drop_eq_nil_of_le (by omega)]; rfl,fun b h=>nomatch h⟩
  rw[if_neg he] at h
  obtain⟨b,m,h1,h2⟩:=Pr.bind_ok h
  obtain⟨bs,m2,h3,h4⟩:=Pr.bind_ok h2
  injection h4 with h4
  obtain⟨rfl,rfl⟩:=Kj h4
  obtain⟨a1,a2,a3,a4,a5⟩:=Bj.spell s q b m hq h1
  have hp:=oZ a5
  obtain⟨b1,b2,b3⟩:=xf n s m bs m2 a2 (by omega) h3
  refine⟨b1,?_,fun y hy=> ?_⟩
  ·have e:s.drop q=fq b++s.drop m:=by
    have e1:s=s.take q++fq b++s.drop m:=by rw[← a4,List.take_append_drop]
    conv=>lhs; rw[e1,JY,List.drop_left' (by rw[Ll]; omega)]
   rw[e,b2,bl]
  ·rcases List.mem_cons.1 hy with rfl | hy
   ·exact a5
   ·exact b3 y hy
theorem zN: ∀ (l:List Bat) (n:Nat) (s:List UInt8) (q:Nat),q≤s.length→s.length - q≤n→(∀ b,b∈l→okB b)→s.drop q=bl fq l→rg n s q= .ok (l,s.length)
 | [],n,s,q,hq,hn,_,hd=>by
  have hl:=congrArg List.length hd
  rw[J7] at hl
  have hl:s.length - q=0:=hl
  have:q=s.length:=by omega
  subst this
  cases n with
  | zero=>rfl
  | succ n=>exact if_pos rfl
 | b::l,n,s,q,hq,hn,ho,hd=>by
  have hl:=congrArg List.length hd
  rw[bl] at hd
  rw[J7,bl,JU] at hl
  have hp:=oZ (ho b (.head _))
  cases n with
  | zero=>omega
  | succ n =>
   have h1:=Bj.back s _ q b hq (ho b (.head _)) hd
   have h2:=zN l n s (q+(fq b).length) (by omega) (by omega) (fun y hy=>ho y (.tail _ hy)) (bX hd)
   show (if q=s.length then _ else _)= _
   rw[if_neg (by omega),Pr.bind_of h1,Pr.bind_of h2]
   rfl
theorem ni {α:Type} {enc:α→List UInt8}: ∀ (l:List α) (x:α),x∈l→(enc x).length≤(bl enc l).length
 | c::l,x,h=>by
  rw[bl,JU]
  rcases List.mem_cons.1 h with rfl | h
  ·omega
  ·have:=ni (enc:=enc) l x h; omega
theorem Dx {l:List Bat} (h: ∀ b,b∈l→okB b):l.length*61≤(bl fq l).length:=na (ok:=okB) (fun x hx=>oZ hx) l h
def sM:Pr (List UInt8):=ol (l7 4)
theorem zO:Sp sM (fun d=>be (d.length:Int) 4++d) (fun d=>bh (d.length:Int) 4=true∧bi ⟨false,d⟩=true):=xJ (gC 4 (by decide) (by decide))
def vG (i:Int) (d:List UInt8):Pr aR:=match rg d.length d 0 with | .error e=> .err e | .ok (l,_)=> .ret ⟨i,l⟩
def nr:Pr aR:=(fd 4).bind fun i=>sM.bind fun d=>vG i d
def hZ (p:aR):List UInt8:=be p.Jp 4++(be ((bl fq p.Jf).length:Int) 4++bl fq p.Jf)
def Bu (p:aR):Prop:=bh p.Jp 4=true∧bh ((bl fq p.Jf).length:Int) 4=true∧ ∀ b,b∈p.Jf→okB b
theorem Fw {i:Int} {d s:List UInt8} {q r:Nat} {p:aR} (h:vG i d s q= .ok (p,r)):r=q∧p.Jp=i∧d=bl fq p.Jf∧ ∀ b,b∈p.Jf→okB b:=by
 unfold vG at h
 cases ha:rg d.length d 0 with
 | error e=>rw[ha] at h; exact nomatch h
 | ok x =>
  rw[ha] at h
  injection h with h
  obtain⟨rfl,rfl⟩:=Kj h
  obtain⟨a1,a2,a3⟩:=xf _ d 0 x.1 x.2 (Ko _) (by omega) ha
  rw[List.drop_zero] at a2
  exact⟨rfl,rfl,a2,a3⟩
theorem Fx (i:Int) {l:List Bat} (h: ∀ b,b∈l→okB b) (s:List UInt8) (q:Nat):vG i (bl fq l) s q= .ok (⟨i,l⟩,q):=by
 unfold vG
 rw[zN l _ (bl fq l) 0 (Ko _) (by omega) h List.drop_zero]
 rfl
theorem Fy:Sp nr hZ Bu:=by
 refine⟨fun s q a r hq h=> ?_,fun s t q a hq ha h=> ?_⟩
 ·obtain⟨i,q1,h1,h⟩:=Pr.bind_ok h
  obtain⟨d,q2,h2,h⟩:=Pr.bind_ok h
  obtain⟨rfl,c2,rfl,c4⟩:=Fw h
  obtain⟨a1,a2,a3,a4,a5⟩:=(ej 4 (by decide) (by decide)).spell _ _ _ _ hq h1
  obtain⟨b1,b2,b3,b4,b5⟩:=zO.spell _ _ _ _ a2 h2
  refine⟨by omega,b2,by simp only[hZ,JU,aF] at *; omega,by rw[b4,a4]; simp only[hZ,c2,JY],by rw[c2]; exact a5,b5.1,c4⟩
 ·obtain⟨a1,a2,a3⟩:=ha
  have hl:=congrArg List.length h
  rw[hZ,JY] at h
  have g1:=(ej 4 (by decide) (by decide)).back _ _ _ _ hq a1 h
  have h:=bX h
  have g2:=zO.back _ _ _ _ (by simp only[hZ,J7,JU,aF] at *; omega) ⟨a2,rfl⟩ h
  rw[nr,Pr.bind_of g1,Pr.bind_of g2,Fx _ a3]
  simp only[hZ,JU,Nat.add_assoc]
theorem zS (p:aR) (h:Bu p):8≤(hZ p).length:=by simp only[hZ,JU,aF]; omega
def iF:Pr aD:=uM.bind fun nm=>(kA 4 8 nr).bind fun ps=> .ret ⟨nm,ps⟩
def iD (t:aD):List UInt8:=(be (t.Jd.length:Int) 2++t.Jd)++(be (t.I7.length:Int) 4++bl hZ t.I7)
def zT (t:aD):Prop:=bh (t.Jd.length:Int) 2=true∧bh (t.I7.length:Int) 4=true∧ ∀ p,p∈t.I7→Bu p
theorem xg:Sp (kA 4 8 nr) (fun l=>be (l.length:Int) 4++bl hZ l) (fun l=>bh (l.length:Int) 4=true∧ ∀ p,p∈l→Bu p):=uR 4 8 (by decide) (by decide) Fy zS
theorem Dy:Sp iF iD zT:=by
 refine⟨fun s q a r hq h=> ?_,fun s t q a hq ha h=> ?_⟩
 ·obtain⟨k,q1,h1,h⟩:=Pr.bind_ok h
  obtain⟨v,q2,h2,h⟩:=Pr.bind_ok h
  injection h with h
  obtain⟨rfl,rfl⟩:=Kj h
  obtain⟨a1,a2,a3,a4,a5⟩:=mX.spell _ _ _ _ hq h1
  obtain⟨b1,b2,b3,b4,b5⟩:=xg.spell _ _ _ _ a2 h2
  exact⟨by omega,b2,by simp only[iD,JU] at *; omega,by rw[b4,a4]; simp only[iD,JY],a5.1,b5⟩
 ·obtain⟨a1,a2,a3⟩:=ha
  have hl:=congrArg List.length h
  rw[iD,JY] at h
  have g1:=mX.back _ _ _ _ hq ⟨a1,rfl⟩ h
  have h:=bX h
  have g2:=xg.back _ _ _ _ (by simp only[iD,J7,JU,aF] at *; omega) ⟨a2,a3⟩ h
  rw[iF,Pr.bind_of g1,Pr.bind_of g2]
  simp only[Pr.ret,iD,JU,Nat.add_assoc]
theorem zU (t:aD) (h:zT t):6≤(iD t).length:=by simp only[iD,JU,aF]; omega
theorem qb:Sp (kA 4 6 iF) (fun l=>be (l.length:Int) 4++bl iD l) (fun l=>bh (l.length:Int) 4=true∧ ∀ t,t∈l→zT t):=uR 4 6 (by decide) (by decide) Dy zU
def vH (v:Int):Pr aw:=(l7 2).bind fun id=>(fd 2).bind fun a=>(fd 4).bind fun t=>(kA 4 6 iF).bind fun l=>if rf v ⟨id,a,t,l⟩=0 then .ret ⟨id,a,t,l⟩ else .err (rf v ⟨id,a,t,l⟩)
def qc (r:aw):List UInt8:=(be (eE r.Jc) 2++r.Jc.data)++(be r.Ju 2++(be r.Jb 4++(be (r.I5.length:Int) 4++bl iD r.I5)))
def okQ (v:Int) (r:aw):Prop:=(bh (eE r.Jc) 2=true∧bi r.Jc=true)∧bh r.Ju 2=true∧bh r.Jb 4=true∧(bh (r.I5.length:Int) 4=true∧ ∀ t,t∈r.I5→zT t)∧rf v r=0
theorem Sp_prq (v:Int):Sp (vH v) qc (okQ v):=by
 refine⟨fun s q a r hq h=> ?_,fun s t q a hq ha h=> ?_⟩
 ·obtain⟨id,q1,h1,h⟩:=Pr.bind_ok h
  obtain⟨ac,q2,h2,h⟩:=Pr.bind_ok h
  obtain⟨tm,q3,h3,h⟩:=Pr.bind_ok h
  obtain⟨l,q4,h4,h⟩:=Pr.bind_ok h
  by_cases hc:rf v ⟨id,ac,tm,l⟩=0
  rotate_left
  ·rw[if_neg hc] at h
   exact nomatch h
  rw[if_pos hc] at h
  injection h with h
  obtain⟨rfl,rfl⟩:=Kj h
  obtain⟨a1,a2,a3,a4,a5⟩:=(gC 2 (by decide) (by decide)).spell _ _ _ _ hq h1
  obtain⟨b1,b2,b3,b4,b5⟩:=(ej 2 (by decide) (by decide)).spell _ _ _ _ a2 h2
  obtain⟨c1,c2,c3,c4,c5⟩:=(ej 4 (by decide) (by decide)).spell _ _ _ _ b2 h3
  obtain⟨d1,d2,d3,d4,d5⟩:=qb.spell _ _ _ _ c2 h4
  exact⟨by omega,d2,by simp only[qc,JU] at *; omega,by rw[d4,c4,b4,a4]; simp only[qc,JY],a5,b5,c5,d5,hc⟩
 ·obtain⟨a1,a2,a3,a4,a5⟩:=ha
  have hl:=congrArg List.length h
  simp only[qc,JY] at h
  rw[← JY] at h
  simp only[qc,J7,JU,aF] at hl
  have g1:=(gC 2 (by decide) (by decide)).back _ _ _ _ hq a1 h
  have h:=bX h
  have g2:=(ej 2 (by decide) (by decide)).back _ _ _ _ (by simp only[JU,aF] at *; omega) a2 h
  have h:=bX h
  have g3:=(ej 4 (by decide) (by decide)).back _ _ _ _ (by simp only[JU,aF] at *; omega) a3 h
  have h:=bX h
  rw[← JY] at h
  have g4:=qb.back _ _ _ _ (by simp only[JU,aF] at *; omega) a4 h
  rw[vH,Pr.bind_of g1,Pr.bind_of g2,Pr.bind_of g3,Pr.bind_of g4,if_pos a5]
  simp only[Pr.ret,qc,JU,Nat.add_assoc]
theorem Cu (n:Nat) (acc:List Bat) (x st:I) (h:st.err≠0):cg (n+1) acc x st=some (acc,x,st):=by
 rw[cg,bt,JR]
 dsimp only
 rw[if_neg h]
 rfl
theorem pp_l1 (s:List UInt8) (hs:s.length≤1000000) (st:I) (h0:st.err=0): ∀ (n fuel:Nat) (acc:List Bat) (q:Nat),q≤s.length→s.length - q≤n→s.length - q+1<fuel→acc.length+(s.length - q)≤1000000 →
 (∃ e acc' x,rg n s q= .error e∧e≠0∧cg fuel acc ⟨s.drop q,q,0⟩ st=some (acc',x,da st e))∨(∃ l x,rg n s q= .ok (l,s.length)∧cg fuel acc ⟨s.drop q,q,0⟩ st=some (acc++l,x,st))
 | n,0,acc,q,hq,hn,hf,_=>absurd hf (by omega)
 | n,fuel+1,acc,q,hq,hn,hf,ha=>by
  have hd:(s.drop q).length=s.length - q:=J7
  rw[cg,bt,JR]
  dsimp only
  rw[if_pos h0,ql,JR]
  dsimp only
  by_cases he:q=s.length
  ·rw[if_neg (by omega),JR]
   dsimp only
   rw[if_neg (by decide)]
   refine .inr ⟨[],_,?_,by rw[Kg]⟩
   cases n with
   | zero=>rw[he]; rfl
   | succ n=>rw[he]; exact if_pos rfl
  rw[if_pos (by omega),JR]
  dsimp only
  rw[if_pos rfl]
  cases n with
  | zero=>omega
  | succ n =>
  unfold rg
  rw[if_neg he]
  rcases B_bat.run s q hs hq with⟨e,st2,p1,g1,x1,y1⟩ | ⟨b,r,p1,g1,n1,l1⟩
  ·refine .inl ⟨e,acc ++ [zBat],st2,by rw[Pr.bind_err p1],by rw[← x1]; exact y1,?_⟩
   rw[g1,JR]
   dsimp only
   rw[if_pos (by omega),bt,JR]
   dsimp only
   rw[if_neg y1,dt,JR,JR,x1]
   have hfl:fuel=(fuel - 1)+1:=by omega
   rw[hfl]
   refine Cu _ _ _ _ ?_
   rw[da,if_pos h0]
   show e≠0
   rw[← x1]; exact y1
  ·have a3:=(Bj.spell s q b r hq p1)
   have hp:=oZ a3.2.2.2.2
   have a4:=a3.2.2.1
   rw[g1,JR]
   dsimp only
   rw[if_pos (by omega),bt,JR]
   dsimp only
   rw[if_pos rfl,JR]
   rcases pp_l1 s hs st h0 n fuel (acc ++ [b]) r l1 (by omega) (by omega) (by rw[JU,KY]; omega) with⟨e,acc',x,q1,q2,q3⟩ | ⟨l,x,q1,q2⟩
   ·exact .inl ⟨e,acc',x,by rw[Pr.bind_of p1,Pr.bind_err q1],q2,q3⟩
   ·exact .inr ⟨b::l,x,by rw[Pr.bind_of p1,Pr.bind_of q1]; rfl,by rw[q2,JY]; rfl⟩
theorem Dz (s:List UInt8) (hs:s.length≤1000000) (q:Nat) (hq:q≤s.length) :
 (∃ e p st,nr s q= .error e∧f7 ⟨s.drop q,q,0⟩=some (p,st)∧st.err=e∧e≠0)∨(∃ p r,nr s q= .ok (p,r)∧f7 ⟨s.drop q,q,0⟩=some (p,⟨s.drop r,r,0⟩)∧q≤r∧r≤s.length):=by
 have dead: ∀ (i:Int) (d:List UInt8) (st:I),d.length≤1000000→st.err≠0→((tn d).bind fun st18=>(cg (((st18.rest.length:Int)+(st.rest.length:Int)+1).toNat+1) [] st18 st).bind fun (y73,st76,st77)=>some ((⟨i,y73⟩:aR),st77))=some (⟨i,[]⟩,st):=by
  intro i d st hd h
  rw[j1 _ (by omega),JR,Cu _ _ _ _ h]
  rfl
 unfold f7
 rcases Q4.run s q hq with⟨e,st,p1,g1,x1,y1⟩ | ⟨i,q1,p1,g1,n1,l1⟩
 ·refine .inl ⟨e,⟨0,[]⟩,st,Pr.bind_err p1,?_,x1,by rw[← x1]; exact y1⟩
  rw[g1,JR]
  dsimp only
  rw[kn y1,JR]
  dsimp only
  rw[if_neg (by decide),JR]
  exact dead 0 [] st (by decide) y1
 rw[g1,JR]
 dsimp only
 rcases QF4.run s q1 l1 with⟨e,st,p2,g2,x2,y2⟩ | ⟨b,q2,p2,g2,n2,l2⟩
 ·refine .inl ⟨e,⟨i,[]⟩,st,by rw[nr,Pr.bind_of p1,Pr.bind_err]; rw[sM,ol,Pr.bind_err p2],?_,x2,by rw[← x2]; exact y2⟩
  rw[g2,JR]
  dsimp only
  rw[if_neg (by decide),JR]
  exact dead i [] st (by decide) y2
 have h2:=(gC 4 (by decide) (by decide)).spell _ _ _ _ l1 p2
 have hbl:b.data.length≤1000000:=by
  have:=h2.2.2.1
  rw[JU] at this
  omega
 rw[g2,JR]
 dsimp only
 by_cases hb:b.null=true
 ·refine .inl ⟨4,⟨i,[]⟩,⟨s.drop q2,q2,4⟩,by rw[nr,Pr.bind_of p1,Pr.bind_err]; rw[sM,ol,Pr.bind_of p2,if_pos hb]; rfl,?_,rfl,by decide⟩
  rw[if_pos hb,dt,JR,JR,qP]
  exact dead i b.data _ hbl (show (4:Int)≠0 by decide)
 have hx:sM s q1= .ok (b.data,q2):=by
  rw[sM,ol,Pr.bind_of p2,if_neg hb]
  rfl
 rw[if_neg hb,JR,j1 _ (by omega),JR]
 rcases pp_l1 b.data hbl ⟨s.drop q2,q2,0⟩ rfl b.data.length ((((b.data.length:Int))+((s.drop q2).length:Int)+1).toNat+1) [] 0 (Ko _) (by omega) (by omega) (by rw[K6]; omega) with⟨e,acc',x,r1,r2,r3⟩ | ⟨l,x,r1,r2⟩
 ·rw[List.drop_zero] at r3
  refine .inl ⟨e,⟨i,acc'⟩,⟨s.drop q2,q2,e⟩,?_,?_,rfl,r2⟩
  ·rw[nr,Pr.bind_of p1,Pr.bind_of hx,vG,r1]
   rfl
  ·rw[r3]
   rfl
 ·rw[List.drop_zero] at r2
  refine .inr ⟨⟨i,l⟩,q2,?_,?_,by omega,l2⟩
  ·rw[nr,Pr.bind_of p1,Pr.bind_of hx,vG,r1]
   rfl
  ·rw[r2]
   rfl
def zQ:aw:=⟨⟨false,[]⟩,0,0,[]⟩
theorem Gp {p:aR} (h:Bu p) (hl:(hZ p).length≤1000000):gdP p:=by
 have h1:=Dx h.2.2
 simp only[hZ,JU,aF] at hl
 refine⟨eI h.1,by omega,fun b hb=>Bo (h.2.2 b hb) ?_⟩
 have:=ni (enc:=fq) _ b hb
 omega
theorem Gq {t:aD} (h:zT t) (hl:(iD t).length≤1000000):gdT t:=by
 have h1:=na (ok:=Bu) zS t.I7 h.2.2
 simp only[iD,JU,aF] at hl
 refine⟨by omega,by omega,fun p hp=>Gp (h.2.2 p hp) ?_⟩
 have:=ni (enc:=hZ) t.I7 p hp
 omega
theorem okQ_gd {a:Bl} {k t:Int} {l:List aD} (ht:bh t 4=true) (h: ∀ x,x∈l→zT x) (hl:(bl iD l).length≤1000000):gdQ ⟨a,k,t,l⟩:=by
 have h1:=na (ok:=zT) zU l h
 refine⟨eI ht,by show l.length*40≤ _; omega,fun x hx=>Gq (h x hx) ?_⟩
 have:=ni (enc:=iD) l x hx
 omega
theorem qr_l2 (n:Int) (s:List UInt8) (hs:s.length≤1000000) (hn:n≤1000000): ∀ (m fuel k:Nat) (acc:List aR) (q:Nat),((k+m:Nat):Int)=n→m<fuel→q≤s.length→acc.length=k →
 (∃ (e:Int) (st:I),iv nr m s q= .error e∧bT n fuel k acc ⟨s.drop q,q,0⟩=some (.ret (zQ,st))∧st.err=e∧e≠0) ∨
 (∃ l r,iv nr m s q= .ok (l,r)∧bT n fuel k acc ⟨s.drop q,q,0⟩=some (.go (k+m,acc++l,⟨s.drop r,r,0⟩))∧q≤r∧r≤s.length)
 | 0,fuel+1,k,acc,q,h1,h2,h3,h4=> .inr ⟨[],q,rfl,by rw[bT,if_neg (by omega),Kg]; rfl,Kn _,h3⟩
 | m+1,fuel+1,k,acc,q,h1,h2,h3,h4=>by
  rw[bT,if_pos (by omega)]
  rcases Dz s hs q h3 with⟨e,p,st,p1,g1,x1,y1⟩ | ⟨p,r,p1,g1,n1,l1⟩
  ·refine .inl ⟨e,st,by rw[iv,Pr.bind_err p1],?_,x1,y1⟩
   rw[g1,JR]
   dsimp only
   rw[if_pos (by omega),bt,JR]
   dsimp only
   rw[if_neg (by rw[x1]; exact y1)]
   rfl
  ·rw[g1,JR]
   dsimp only
   rw[if_pos (by omega),bt,JR]
   dsimp only
   rw[if_pos rfl,if_pos (by omega),iv,Pr.bind_of p1]
   rcases qr_l2 n s hs hn m fuel (k+1) (acc ++ [p]) r (by omega) (by omega) l1 (by rw[JU,h4]; rfl) with⟨e,st,r1,r2,r3,r4⟩ | ⟨l,r',r1,r2,r3,r4⟩
   ·exact .inl ⟨e,st,by rw[Pr.bind_err r1],r2,r3,r4⟩
   ·refine .inr ⟨p::l,r',by rw[Pr.bind_of r1]; rfl,?_,by omega,r4⟩
    rw[r2,JY,show k+1+m=k+(m+1) by omega]
    rfl
theorem qr_l1 (n:Int) (s:List UInt8) (hs:s.length≤1000000) (hn:n≤1000000): ∀ (m fuel k:Nat) (acc:List aD) (q:Nat),((k+m:Nat):Int)=n→m<fuel→q≤s.length→acc.length=k →
 (∃ (e:Int) (st:I),iv iF m s q= .error e∧cP n fuel k acc ⟨s.drop q,q,0⟩=some (.ret (zQ,st))∧st.err=e∧e≠0) ∨
 (∃ l r,iv iF m s q= .ok (l,r)∧cP n fuel k acc ⟨s.drop q,q,0⟩=some (.go (k+m,acc++l,⟨s.drop r,r,0⟩))∧q≤r∧r≤s.length)
 | 0,fuel+1,k,acc,q,h1,h2,h3,h4=> .inr ⟨[],q,rfl,by rw[fT,if_neg (by omega),Kg]; rfl,Kn _,h3⟩
 | m+1,fuel+1,k,acc,q,h1,h2,h3,h4=>by
  rw[fT,if_pos (by omega)]
  rcases QT.run s q h3 with⟨e,st,p1,g1,x1,y1⟩ | ⟨nm,q1,p1,g1,n1,l1⟩
  ·refine .inl ⟨e,st,by rw[iv,Pr.bind_err (show iF s q= .error e from Pr.bind_err p1)],?_,x1,by rw[← x1]; exact y1⟩
   rw[g1,JR]
   dsimp only
   rw[ly y1 (by decide) (by decide),JR]
   dsimp only
   rw[show (0:Int).toNat+1=0+1 from rfl,bT,if_neg (by decide),JR]
   dsimp only
   rw[bt,JR]
   dsimp only
   rw[if_neg y1]
   rfl
  rw[g1,JR]
  dsimp only
  rcases (qS 4 8 (by decide) (by decide) 4 8 rfl rfl (by decide)).run s q1 l1 with⟨e,st,p2,g2,x2,y2⟩ | ⟨c,q2,p2,g2,n2,l2⟩
  ·refine .inl ⟨e,st,by rw[iv,Pr.bind_err]; rw[iF,Pr.bind_of p1,Pr.bind_err]; rw[kA,Pr.bind_err p2],?_,x2,by rw[← x2]; exact y2⟩
   rw[g2,JR]
   dsimp only
   rw[show (0:Int).toNat+1=0+1 from rfl,bT,if_neg (by decide),JR]
   dsimp only
   rw[bt,JR]
   dsimp only
   rw[if_neg y2]
   rfl
  obtain⟨c1,c2,c3,c4,c5,c6⟩:=lb (by decide) (by decide) l1 p2
  have c2:=c2 (by decide)
  rw[g2,JR]
  dsimp only
  rcases qr_l2 c s hs (by omega) c.toNat (c.toNat+1) 0 [] q2 (by omega) (by omega) l2 rfl with⟨e,st,r1,r2,r3,r4⟩ | ⟨ps,q3,r1,r2,r3,r4⟩
  ·refine .inl ⟨e,st,by rw[iv,Pr.bind_err]; rw[iF,Pr.bind_of p1,Pr.bind_err]; rw[kA,Pr.bind_of p2,r1],?_,r3,r4⟩
   rw[r2]
   rfl
  have ht:iF s q= .ok (⟨nm,ps⟩,q3):=by
   rw[iF,Pr.bind_of p1,Pr.bind_of (a:=ps) (r:=q3) (by rw[kA,Pr.bind_of p2,r1])]
   rfl
  rw[r2,JR]
  dsimp only
  rw[bt,JR]
  dsimp only
  rw[if_pos rfl,if_pos (by omega),if_pos (by omega),Kc,iv,Pr.bind_of ht]
  rcases qr_l1 n s hs hn m fuel (k+1) (acc ++ [⟨nm,ps⟩]) q3 (by omega) (by omega) r4 (by rw[JU,h4]; rfl) with⟨e,st,s1,s2,s3,s4⟩ | ⟨l,r',s1,s2,s3,s4⟩
  ·exact .inl ⟨e,st,by rw[Pr.bind_err s1],s2,s3,s4⟩
  ·refine .inr ⟨⟨nm,ps⟩::l,r',by rw[Pr.bind_of s1]; rfl,?_,by omega,s4⟩
   rw[s2,JY,show k+1+m=k+(m+1) by omega]
   rfl
theorem B_prq (v:Int):CB (fun st=>ea st v) (vH v) zQ:=by
 have tail: ∀ (b:Bl) (a t:Int) (st:I),st.err≠0→((gJ st).bind fun (x121,st122)=>(if x121=0 then ((cf (⟨b,a,t,[]⟩:aw) v).bind fun x138=>(if x138=0 then some st122 else ((bU st122 x138).bind fun st146=>some st146)).bind fun st143=>some st143) else some st122).bind fun st135=>(gJ st135).bind fun (x148,st149)=>if x148=0 then (some ((⟨b,a,t,[]⟩:aw),st149)) else (some ((⟨(⟨false,[]⟩:Bl),0,0,[]⟩:aw),st149)))=some (zQ,st):=by
  intro b a t st h
  rw[bt,JR]
  dsimp only
  rw[if_neg h,JR,bt,JR]
  dsimp only
  rw[if_neg h]
  rfl
 have dead: ∀ (b:Bl) (a t:Int) (st:I),st.err≠0→((ip st 4 6).bind fun (x12,st13)=>(cP x12 ((x12).toNat+1) 0 [] st13).bind fun e=>match e with | .ret r=>some r | .go (k116,y117,st120)=>((gJ st120).bind fun (x121,st122)=>(if x121=0 then ((cf (⟨b,a,t,y117⟩:aw) v).bind fun x138=>(if x138=0 then some st122 else ((bU st122 x138).bind fun st146=>some st146)).bind fun st143=>some st143) else some st122).bind fun st135=>(gJ st135).bind fun (x148,st149)=>if x148=0 then (some ((⟨b,a,t,y117⟩:aw),st149)) else (some ((⟨(⟨false,[]⟩:Bl),0,0,[]⟩:aw),st149))))=some (zQ,st):=by
  intro b a t st h
  rw[ly h (by decide) (by decide),JR]
  dsimp only
  rw[show (0:Int).toNat+1=0+1 from rfl,fT,if_neg (by decide),JR]
  exact tail b a t st h
 refine⟨fun st h=> ?_,fun s q hs hq=> ?_⟩
 ·show ea st v= _
  unfold ea
  rw[kn h,JR]
  dsimp only
  rw[ky h,JR]
  dsimp only
  rw[ky h,JR]
  exact dead _ _ _ st h
 ·show (∃ e st,vH v s q= _∧ea _ v= _∧ _∧ _)∨(∃ a r,vH v s q= _∧ea _ v= _∧ _∧ _)
  unfold ea
  rcases QF2.run s q hq with⟨e,st,p1,g1,x1,y1⟩ | ⟨b,q1,p1,g1,n1,l1⟩
  ·refine .inl ⟨e,st,Pr.bind_err p1,?_,x1,y1⟩
   rw[g1,JR]
   dsimp only
   rw[ky y1,JR]
   dsimp only
   rw[ky y1,JR]
   exact dead _ _ _ st y1
  rw[g1,JR]
  dsimp only
  rcases Q2.run s q1 l1 with⟨e,st,p2,g2,x2,y2⟩ | ⟨a,q2,p2,g2,n2,l2⟩
  ·refine .inl ⟨e,st,by rw[vH,Pr.bind_of p1,Pr.bind_err p2],?_,x2,y2⟩
   rw[g2,JR]
   dsimp only
   rw[ky y2,JR]
   exact dead _ _ _ st y2
  rw[g2,JR]
  dsimp only
  rcases Q4.run s q2 l2 with⟨e,st,p3,g3,x3,y3⟩ | ⟨t,q3,p3,g3,n3,l3⟩
  ·refine .inl ⟨e,st,by rw[vH,Pr.bind_of p1,Pr.bind_of p2,Pr.bind_err p3],?_,x3,y3⟩
   rw[g3,JR]
   exact dead _ _ _ st y3
  rw[g3,JR]
  dsimp only
  rcases (qS 4 6 (by decide) (by decide) 4 6 rfl rfl (by decide)).run s q3 l3 with⟨e,st,p4,g4,x4,y4⟩ | ⟨c,q4,p4,g4,n4,l4⟩
  ·refine .inl ⟨e,st,by rw[vH,Pr.bind_of p1,Pr.bind_of p2,Pr.bind_of p3,Pr.bind_err]; rw[kA,Pr.bind_err p4],?_,x4,y4⟩
   have:=dead b a t st y4
   rw[ly y4 (by decide) (by decide)] at this
   rw[g4]
   exact this
  obtain⟨c1,c2,c3,c4,c5,c6⟩:=lb (by decide) (by decide) l3 p4
  have c2:=c2 (by decide)
  rw[g4,JR]
  dsimp only
  rcases qr_l1 c s hs (by omega) c.toNat (c.toNat+1) 0 [] q4 (by omega) (by omega) l4 rfl with⟨e,st,r1,r2,r3,r4⟩ | ⟨l,q5,r1,r2,r3,r4⟩
  ·refine .inl ⟨e,st,by rw[vH,Pr.bind_of p1,Pr.bind_of p2,Pr.bind_of p3,Pr.bind_err]; rw[kA,Pr.bind_of p4,r1],?_,r3,by rw[r3]; exact r4⟩
   rw[r2]
   rfl
  have hl:kA 4 6 iF s q3= .ok (l,q5):=by rw[kA,Pr.bind_of p4,r1]
  obtain⟨d1,d2,d3,d4,d5⟩:=qb.spell _ _ _ _ l3 hl
  obtain⟨t1,t2,t3,t4,t5⟩:=(ej 4 (by decide) (by decide)).spell _ _ _ _ l2 p3
  rw[JU,aF] at d3
  have hg:gdQ ⟨b,a,t,l⟩:=okQ_gd t5 d5.2 (by omega)
  rw[r2,JR]
  dsimp only
  rw[bt,JR]
  dsimp only
  rw[if_pos rfl,Kc,Fu _ v hg,JR,vH,Pr.bind_of p1,Pr.bind_of p2,Pr.bind_of p3,Pr.bind_of hl]
  by_cases hc:rf v ⟨b,a,t,l⟩=0
  ·rw[if_pos hc,if_pos hc]
   exact .inr ⟨_,q5,rfl,rfl,by omega,r4⟩
  ·rw[if_neg hc,if_neg hc,dt,qP]
   refine .inl ⟨_,⟨s.drop q5,q5,rf v ⟨b,a,t,l⟩⟩,rfl,?_,rfl,hc⟩
   rw[JR,JR,JR,bt,JR]
   dsimp only
   rw[if_neg hc]
   rfl
def zF:aC:=⟨zHead,zB,zA,zE,[],zQ⟩
def frB (h:eS) (x:aX):aC:=⟨h,x,zA,zE,[],zQ⟩
def frA (h:eS) (x:bJ):aC:=⟨h,zB,x,zE,[],zQ⟩
def frE (h:eS) (x:bI):aC:=⟨h,zB,zA,x,[],zQ⟩
def frM (h:eS) (x:List aP):aC:=⟨h,zB,zA,zE,x,zQ⟩
def frP (h:eS) (x:aw):aC:=⟨h,zB,zA,zE,[],x⟩
def zV (v:Int):Pr aX:=if v>0 then EA v else Ez v
theorem B_begV (v:Int):CB (fun st=>eh st v) (zV v) zB:=by
 unfold zV
 by_cases hv:v>0
 ·rw[if_pos hv]; exact B_beg1 v hv
 ·rw[if_neg hv]; exact B_beg0 v hv
def tW (h:eS):Pr aC :=
 if h.Jk=22 then (zV h.Jg).map (frB h) else if h.Jk=24 then Ey.map (frA h) else if h.Jk=26 then Ew.map (frE h)
 else if h.Jk=27 then (oz h.Jg).map (frM h) else (vH h.Jg).map (frP h)
def pIn:Pr aC:=yO.bind tW
def endF (s:List UInt8):Except Int (aC×Nat)→aC×Int
 | .error e=>(zF,e)
 | .ok (f,r)=>if r<s.length then (zF,2) else (f,0)
def opn (s:List UInt8):aC×Int:=endF s (pIn s 0)
theorem iclo_e {st:I} (h:st.err≠0):fe st=st:=by
 unfold fe da
 rw[if_neg h]
 split <;> rfl
theorem iclo_z (s:List UInt8) (r:Nat) (hr:r≤s.length):fe ⟨s.drop r,r,0⟩=if r<s.length then ⟨s.drop r,r,2⟩ else ⟨s.drop r,r,0⟩:=by
 unfold fe da
 by_cases h:r<s.length
 ·rw[if_pos h,if_neg (by intro h2; have:=congrArg List.length h2; rw[J7] at this; simp at this; omega)]
  rfl
 ·rw[if_neg h,if_pos (by rw[List.drop_eq_nil_iff]; omega)]
theorem oH {α:Type} {op:I→Option (α×I)} {p:Pr α} {z:α} (h:CB op p z) (g:α→aC) (s:List UInt8) (q:Nat) (hs:s.length≤1000000) (hq:q≤s.length) :
 ((op ⟨s.drop q,q,0⟩).bind fun (x14,st15)=>(dM st15).bind fun (x17,st18)=>if x17=0 then some (g x14,0) else some (zF,x17))=some (endF s ((p.map g) s q)):=by
 rcases h.run s q hs hq with⟨e,st,p1,g1,x1,y1⟩ | ⟨a,r,p1,g1,n1,l1⟩
 ·rw[g1,Pr.map,Pr.bind_err p1]
  simp only[JR,ic,iclo_e y1]
  rw[if_neg y1,x1]
  rfl
 ·rw[g1,Pr.map,Pr.bind_of p1]
  simp only[JR,ic,iclo_z s r l1,Pr.ret,endF]
  by_cases hr:r<s.length
  ·rw[if_pos hr,if_pos hr]
   rfl
  ·rw[if_neg hr,if_neg hr]
   rfl
theorem Gr (s:List UInt8) (hs:s.length≤1000000):gq s=some (opn s):=by
 unfold gq opn pIn
 rw[j1 s (by omega)]
 simp only[JR]
 have h0:=Q_head.run s 0 (Ko _)
 rw[List.drop_zero] at h0
 rcases h0 with⟨e,st,p1,g1,x1,y1⟩ | ⟨h,r,p1,g1,n1,l1⟩
 ·rw[g1,Pr.bind_err p1]
  simp only[JR,bt]
  rw[if_neg y1,x1]
  rfl
 ·rw[g1,Pr.bind_of p1]
  simp only[JR,bt]
  rw[if_pos trivial]
  unfold tW
  by_cases h22:h.Jk=22
  ·rw[if_pos h22,if_pos h22]; exact oH (B_begV h.Jg) (frB h) s r hs l1
  rw[if_neg h22,if_neg h22]
  by_cases h24:h.Jk=24
  ·rw[if_pos h24,if_pos h24]; exact oH B_add (frA h) s r hs l1
  rw[if_neg h24,if_neg h24]
  by_cases h26:h.Jk=26
  ·rw[if_pos h26,if_pos h26]; exact oH B_end (frE h) s r hs l1
  rw[if_neg h26,if_neg h26]
  by_cases h27:h.Jk=27
  ·rw[if_pos h27,if_pos h27]; exact oH (Gf h.Jg) (frM h) s r hs l1
  rw[if_neg h27,if_neg h27]
  exact oH (B_prq h.Jg) (frP h) s r hs l1
theorem itk_ok (l:List UInt8) (q:Nat) {n:Int} (h: ¬ n<0) (h2: ¬ (l.length:Int)<n):cz ⟨l,q,0⟩ n=(l.take n.toNat,⟨l.drop n.toNat,q+n.toNat,0⟩):=by
 unfold cz
 rw[if_neg (by simp),if_neg h,if_neg h2]
def DA (l:List Bat):Prop:= ∀ b,b∈l→smB b∧chk b=0
theorem Cv {r:aw} (h:gdQ r):lh r=some (ofQ r):=by
 have h1:=h.2.1
 unfold lh
 rw[Cq r.I5 [] (by rw[K6]; omega) (fun t ht=>(h.2.2 t ht).2.1),JR,Kc]
 rfl
theorem tk {a b:aw} (h:gdQ a):gX (ofQ a) (ofQ b)=some (zx a b):=by
 have h1:=h.2.1
 refine Fl (by omega) (fun t ht=> ?_)
 have h2:=h.2.2 t ht
 exact⟨by have:=h2.2.1; omega,fun p hp=>(h2.2.2 p hp).2⟩
theorem zQ_gd:gdQ zQ:=⟨by unfold wI zQ; decide,by decide,fun t h=>nomatch h⟩
theorem Bv {v:Int} {nul:Bool} {l:List Bat} (h:mF v nul l=0): ∀ b,b∈l→chk b=0∧b.JB=false∧b.JE≠nul:=by
 have h2:fU nul l=0:=by
  unfold mF at h
  split at h
  ·exact absurd h (by decide)
  ·exact h
 clear h
 induction l with
 | nil=>exact fun b h=>nomatch h
 | cons c l ih =>
  rw[fU] at h2
  by_cases c1:chk c=0
  rotate_left
  ·rw[if_neg c1] at h2; exact absurd h2 c1
  rw[if_pos c1] at h2
  by_cases c2:c.JB=true
  ·rw[if_pos c2] at h2; exact absurd h2 (by decide)
  rw[if_neg c2] at h2
  by_cases c3:c.JE=nul
  ·rw[if_pos c3] at h2; exact absurd h2 (by decide)
  rw[if_neg c3] at h2
  intro b hb
  rcases List.mem_cons.1 hb with rfl | hb
  ·exact⟨c1,by simpa using c2,c3⟩
  ·exact ih h2 b hb
theorem rh {v:Int} {nul:Bool}: ∀ {l:List aR},gt v nul l=0→ ∀ p,p∈l→mF v nul p.Jf=0
 | c::l,h,p,hp=>by
  rw[gt] at h
  by_cases c1:mF v nul c.Jf=0
  rotate_left
  ·rw[if_neg c1] at h; exact absurd h c1
  rw[if_pos c1] at h
  rcases List.mem_cons.1 hp with rfl | hp
  ·exact c1
  ·exact rh h p hp
theorem ri {v:Int} {nul:Bool}: ∀ {l:List aD},ik v nul l=0→ ∀ t,t∈l→gt v nul t.I7=0
 | c::l,h,t,ht=>by
  rw[ik] at h
  by_cases c1:gt v nul c.I7=0
  rotate_left
  ·rw[if_neg c1] at h; exact absurd h c1
  rw[if_pos c1] at h
  rcases List.mem_cons.1 ht with rfl | ht
  ·exact c1
  ·exact ri h t ht
theorem DB {v:Int} {r:aw} (h:rf v r=0):v7 r∧vD r∧oG r.I5=0∧ik v r.Jc.null r.I5=0:=by
 unfold rf at h
 by_cases c1:v7 r
 rotate_left
 ·rw[if_neg c1] at h; exact absurd h (by decide)
 rw[if_pos c1] at h
 by_cases c2:vD r
 rotate_left
 ·rw[if_neg c2] at h; exact absurd h (by decide)
 rw[if_pos c2] at h
 by_cases c3:oG r.I5=0
 rotate_left
 ·rw[if_neg c3] at h; exact absurd h c3
 rw[if_pos c3] at h
 exact⟨c1,c2,c3,h⟩
def lF:Int→List Bat→Int
 | w,[]=>w
 | w,x::l=>lF (if w=0 then chk x else w) l
theorem xh {w:Int} (h:w≠0): ∀ l:List Bat,lF w l=w
 | []=>rfl
 | x::l=>by rw[lF,if_neg h,xh h l]
theorem xi: ∀ {l:List Bat},(∀ x,x∈l→chk x=0)→lF 0 l=0
 | [],_=>rfl
 | y::l,h=>by rw[lF,if_pos rfl,h y (.head _),xi (fun x hx=>h x (.tail _ hx))]
theorem Fz (y4:List UInt8) (y5:Int): ∀ (l:List Bat) (t:List UInt8),(∀ x,x∈l→smB x)→t.length+1000000*l.length≤1000000000 →
 fk l y4 y5 t=some (if lF 0 l=0 then .go (y4,y5,t++bl fq l) else .ret ([],lF 0 l))
 | [],t,_,_=>by rw[bl,Kg]; rfl
 | x::l,t,h,hl=>by
  have hx:=h x (.head _)
  rw[J0] at hl
  rw[fk,benc hx,JR,lF,if_pos rfl]
  by_cases hc:chk x=0
  ·have he:=oY (Fh hx hc)
   have hx2:=hx.2.2
   rw[if_pos hc]
   dsimp only
   rw[if_pos rfl,Aw _ _ (by omega),JR,Fz y4 y5 l _ (fun y hy=>h y (.tail _ hy)) (by rw[JU]; omega),hc,bl,JY]
  ·rw[if_neg hc,xh hc]
   dsimp only
   rw[if_neg hc,if_neg hc]
theorem all_eq {l:List Bat} (h: ∀ x,x∈l→smB x) (hl:l.length≤1000):kj l=some (if lF 0 l=0 then (bl fq l,0) else ([],lF 0 l)):=by
 unfold kj
 rw[Fz [] 0 l [] h (by rw[K6]; omega),JR]
 by_cases hc:lF 0 l=0
 ·rw[if_pos hc,if_pos hc]
  dsimp only
  rw[D2,JR,Kc]
 ·rw[if_neg hc,if_neg hc]
theorem DC {t d:List UInt8} (hf:d.length≤32767) (ht:t.length≤1000000000):jc (t,0) d=some (t++(be (d.length:Int) 2++d),0):=by
 rw[sY _ _ (by simp only; omega)]
 have:=iX (t:=t) (b:=⟨false,d⟩) (k:=2) (fm (.inl rfl) (show -32768≤(d.length:Int) by omega) (show (d.length:Int)≤32767 by omega)) rfl (by simp only; omega)
 rw[mM _ _ _ ⟨by decide,by simp only; omega⟩] at this
 exact this
theorem qw_l2: ∀ (l:List aR) (t:List UInt8),(∀ p,p∈l→Bu p∧p.Jf.length≤1000∧DA p.Jf)→t.length+(bl hZ l).length≤1000000→bL l (t,0)=some (t++bl hZ l,0)
 | [],t,h,hl=>by rw[bL,bl,Kg]
 | p::l,t,h,hl=>by
  obtain⟨h1,h2,h3⟩:=h p (.head _)
  rw[bl,JU] at hl
  have hpl:=hl
  simp only[hZ,JU,aF] at hpl
  rw[bL,all_eq (fun x hx=>(h3 x hx).1) h2,if_pos (xi (fun x hx=>(h3 x hx).2)),JR]
  dsimp only
  rw[if_pos rfl,JR,dR h1.1 (by omega),JR,gOf_eq,JR,iX (b:=⟨false,bl fq p.Jf⟩) h1.2.1 rfl (by simp only[JU,aF]; show _+(4:Int).toNat + _≤ _; omega),JR]
  have e4:(t++be p.Jp (4:Int).toNat)++(be (eE (⟨false,bl fq p.Jf⟩:Bl)) (4:Int).toNat++(⟨false,bl fq p.Jf⟩:Bl).data)=t++hZ p:=by rw[JY]; rfl
  rw[e4,qw_l2 l _ (fun x hx=>h x (.tail _ hx)) (by rw[JU]; omega),bl,JY]
theorem qw_l1: ∀ (l:List aD) (t:List UInt8),(∀ x,x∈l→x.Jd.length≤32767∧zT x∧ ∀ p,p∈x.I7→p.Jf.length≤1000∧DA p.Jf)→t.length+(bl iD l).length≤1000000→bM l (t,0)=some (t++bl iD l,0)
 | [],t,h,hl=>by rw[bM,bl,Kg]
 | x::l,t,h,hl=>by
  obtain⟨h0,h1,h2⟩:=h x (.head _)
  rw[bl,JU] at hl
  have hpl:=hl
  simp only[iD,JU,aF] at hpl
  rw[bM,DC h0 (by omega),JR,dR h1.2.1 (by simp only[JU,aF]; omega),JR]
  rw[qw_l2 x.I7 _ (fun p hp=>⟨h1.2.2 p hp,h2 p hp⟩) (by simp only[JU,aF]; show _+(2 + _)+(4:Int).toNat + _≤ _; omega),JR,JR]
  have e4:(t++(be (x.Jd.length:Int) 2++x.Jd))++be (x.I7.length:Int) (4:Int).toNat++bl hZ x.I7=t++iD x:=by simp only[iD,JY]; rfl
  rw[e4,qw_l1 l _ (fun y hy=>h y (.tail _ hy)) (by rw[JU]; omega),bl,JY]
def wPs:List aR→Nat
 | []=>0
 | p::l=>(10+100*p.Jf.length)+wPs l
def wTq:List aD→Nat
 | []=>0
 | t::l=>(t.Jd.length+10+wPs t.I7)+wTq l
theorem vI {n:Int} (h: -9223372036854775808≤n∧n≤9223372036854775807):IntKind.i64.wrap n=n:=by
 rw[IntKind.wrap_i64]
 omega
theorem nP_eq {n:Int} {p:aR} (hn:0≤n∧n≤100000) (hp:p.Jf.length≤140737488351232):nP n p=n+((10+100*p.Jf.length:Nat):Int):=by
 unfold nP
 rw[vI (n:=100*(p.Jf.length:Int)) (by omega),vI (n:=10+100*(p.Jf.length:Int)) (by omega),vI (by omega)]
 omega
theorem FA: ∀ (l:List aR) (n:Int),0≤n∧n≤100000→(∀ p,p∈l→p.Jf.length≤140737488351232)→okFp n l→nPs n l=n+(wPs l:Int)∧(l ≠ []→nPs n l≤2000)
 | [],n,_,_,_=>⟨by simp[nPs,wPs],fun h=>absurd rfl h⟩
 | p::l,n,hn,hp,ho=>by
  obtain⟨o1,o2,o3⟩:=ho
  have e:=nP_eq hn (hp p (.head _))
  obtain⟨h1,h2⟩:=FA l (nP n p) ⟨by omega,by omega⟩ (fun q hq=>hp q (.tail _ hq)) o3
  refine⟨by rw[nPs,h1,e,wPs]; omega,fun _=> ?_⟩
  rw[nPs]
  cases l with
  | nil=>exact o1
  | cons q l=>exact h2 (by simp)
theorem FB: ∀ (l:List aD) (n:Int),0≤n∧n≤40000→(∀ t,t∈l→t.I7 ≠ []∧t.Jd.length≤32767∧ ∀ p,p∈t.I7→p.Jf.length≤140737488351232)→zC n l→nTs n l=n+(wTq l:Int)
 | [],n,_,_,_=>by simp[nTs,wTq]
 | t::l,n,hn,ht,ho=>by
  obtain⟨o1,o2⟩:=ho
  obtain⟨t1,t2,t3⟩:=ht t (.head _)
  have e:nT n t=n+((t.Jd.length+10:Nat):Int):=by
   unfold nT
   rw[vI (n:=(t.Jd.length:Int)+10) (by omega),vI (by omega)]
   omega
  obtain⟨h1,h2⟩:=FA t.I7 (nT n t) ⟨by omega,by omega⟩ t3 o1
  have h2:=h2 t1
  have h3:=FB l (nPs (nT n t) t.I7) ⟨by omega,by omega⟩ (fun u hu=>ht u (.tail _ hu)) o2
  rw[nTs,h3,h1,e,wTq]
  omega
theorem oI: ∀ {l:List aD} {p:Option (List UInt8)},rqT p l=0→ ∀ t,t∈l→t.I7 ≠ []∧t.Jd.length≤32767∧rqP none t.I7=true
 | c::l,p,h,t,ht=>by
  rw[rqT] at h
  by_cases c0:c.I7.length=0
  ·rw[if_pos c0] at h; exact absurd h (by decide)
  rw[if_neg c0] at h
  by_cases c1:qa p c=true
  rotate_left
  ·rw[if_neg c1] at h; exact absurd h (by decide)
  rw[if_pos c1] at h
  rcases List.mem_cons.1 ht with rfl | ht
  ·unfold qa at c1
   simp only[Bool.and_eq_true,decide_eq_true_eq] at c1
   exact⟨fun e=>c0 (by rw[e]; rfl),c1.1.1.2,c1.2⟩
  ·exact oI h t ht
theorem zW: ∀ {l:List aR} {q:Option Int},rqP q l=true→ ∀ p,p∈l→0≤p.Jp∧p.Jp≤2147483647
 | c::l,q,h,p,hp=>by
  rw[rqP] at h
  simp only[Bool.and_eq_true,okn,decide_eq_true_eq] at h
  rcases List.mem_cons.1 hp with rfl | hp
  ·exact h.1.1
  ·exact zW h.2 p hp
theorem ye: ∀ {l:List aR} {p:aR},p∈l→10+100*p.Jf.length≤wPs l
 | c::l,p,h=>by
  rw[wPs]
  rcases List.mem_cons.1 h with rfl | h
  ·omega
  ·have:=ye h; omega
theorem yf: ∀ {l:List aD} {t:aD},t∈l→t.Jd.length+10+wPs t.I7≤wTq l
 | c::l,t,h=>by
  rw[wTq]
  rcases List.mem_cons.1 h with rfl | h
  ·omega
  ·have:=yf h; omega
theorem Cw: ∀ l:List aR,10*l.length≤wPs l
 | []=>Kn _
 | c::l=>by have:=Cw l; rw[wPs,J0]; omega
theorem Cx: ∀ l:List aD,10*l.length≤wTq l
 | []=>Kn _
 | c::l=>by have:=Cx l; rw[wTq,J0]; omega
def smQb (p:aR):Prop:= ∀ b,b∈p.Jf→okB b∧(body b).length≤12000
theorem zX {p:aR} (h:smQb p):(hZ p).length≤121*(10+100*p.Jf.length):=by
 have h1:=yb fq 12061 p.Jf (fun x hx=>by have:=h x hx; rw[oY this.1]; omega)
 simp only[hZ,JU,aF]
 omega
theorem xj: ∀ l:List aR,(∀ p,p∈l→smQb p)→(bl hZ l).length≤121*wPs l
 | [],_=>Kn _
 | p::l,h=>by
  have h1:=zX (h p (.head _))
  have h2:=xj l (fun q hq=>h q (.tail _ hq))
  rw[bl,JU,wPs]
  omega
theorem xk: ∀ l:List aD,(∀ t,t∈l→ ∀ p,p∈t.I7→smQb p)→(bl iD l).length≤121*wTq l
 | [],_=>Kn _
 | t::l,h=>by
  have h1:=xj t.I7 (h t (.head _))
  have h2:=xk l (fun q hq=>h q (.tail _ hq))
  rw[bl,JU,wTq]
  simp only[iD,JU,aF]
  omega
theorem id_len {r:aw} (h:v7 r):r.Jc.data.length≤32767∧(r.Jc.null=true→r.Jc.data = []):=by
 have h1:=(vF r.Jc.null r.Jc.data r.Jc rfl rfl).1 h.1
 refine⟨?_,h1⟩
 rcases h.2 with h2 | h2
 ·rw[h1 h2]; decide
 ·exact ((vE r.Jc.data).1 h2).2
theorem gdQ_of {a:aw} (hw:fJ a) (ho:zC (a.Jc.data.length:Int) a.I5):gdQ a :=
 ⟨hw.2.2.1,hw.2.2.2.1,fun t ht=>⟨(hw.2.2.2.2 t ht).1,(hw.2.2.2.2 t ht).2.1,fun p hp=>⟨((hw.2.2.2.2 t ht).2.2 p hp).1,((hw.2.2.2.2 t ht).2.2 p hp).2.1,fun b hb=>(re ho t ht p hp b hb).1.1⟩⟩⟩
theorem okQ_of {v:Int} {a:aw} (hw:fJ a) (ho:zC (a.Jc.data.length:Int) a.I5) (hn:nTs (a.Jc.data.length:Int) a.I5≤2000) (hc:rf v a=0) :
 okQ v a∧(qc a).length≤300000∧ ∀ t,t∈a.I5→t.Jd.length≤32767∧t.I7.length≤1000∧ ∀ p,p∈t.I7→p.Jf.length≤1000∧DA p.Jf:=by
 obtain⟨k1,k2,k3,k4⟩:=DB hc
 obtain⟨i1,i2⟩:=id_len k1
 have hr:rqT none a.I5=0:=by
  unfold oG at k3
  split at k3
  ·exact absurd k3 (by decide)
  ·exact k3
 have hp: ∀ t,t∈a.I5→ ∀ p,p∈t.I7→p.Jf.length≤140737488351232:=fun t ht p hp=>((hw.2.2.2.2 t ht).2.2 p hp).2.1
 have e:=FB a.I5 (a.Jc.data.length:Int) ⟨by omega,by omega⟩ (fun t ht=>⟨(oI hr t ht).1,(oI hr t ht).2.1,hp t ht⟩) ho
 have hb: ∀ t,t∈a.I5→ ∀ p,p∈t.I7→ ∀ b,b∈p.Jf→smB b∧(body b).length≤12000∧chk b=0:=fun t ht p hp b hb =>
  ⟨(re ho t ht p hp b hb).1,(re ho t ht p hp b hb).2,(Bv (rh (ri k4 t ht) p hp) b hb).1⟩
 have hsm: ∀ t,t∈a.I5→ ∀ p,p∈t.I7→smQb p:=fun t ht p hp b hb'=>⟨Fh (hb t ht p hp b hb').1 (hb t ht p hp b hb').2.2,(hb t ht p hp b hb').2.1⟩
 have hl:=xk a.I5 hsm
 have hl2:=Cx a.I5
 have big: ∀ t,t∈a.I5→t.Jd.length≤32767∧t.I7.length≤1000∧ ∀ p,p∈t.I7→p.Jf.length≤1000∧DA p.Jf:=fun t ht=>by
  have m1:=yf ht
  have m2:=Cw t.I7
  refine⟨(oI hr t ht).2.1,by omega,fun p hp=> ?_⟩
  have m3:=ye hp
  exact⟨by omega,fun b hb'=>⟨(hb t ht p hp b hb').1,(hb t ht p hp b hb').2.2⟩⟩
 refine⟨⟨⟨?_,k1.1⟩,fm (.inl rfl) (by have:=k2.1; omega) (by have:=k2.2.1; omega),?_,⟨fm (.inr (.inl rfl)) (by omega) (by omega),fun t ht=> ?_⟩,hc⟩,?_,big⟩
 ·unfold eE
  split
  ·decide
  ·exact fm (.inl rfl) (by omega) (by omega)
 ·have:=k2.2.2
  show bh a.Jb 4=true
  rw[eo]
  exact JS (by omega)
 ·have m0:=yf ht
  have m1:=big t ht
  refine⟨fm (.inl rfl) (by omega) (by omega),fm (.inr (.inl rfl)) (by omega) (by omega),fun p hp=> ?_⟩
  have m2:=zW (oI hr t ht).2.2 p hp
  have m3:=zX (hsm t ht p hp)
  have m4:=ye hp
  have m5:(bl fq p.Jf).length≤(hZ p).length:=by simp only[hZ,JU]; omega
  refine⟨?_,?_,fun b hb'=>(hsm t ht p hp b hb').1⟩
  ·show bh p.Jp 4=true
   rw[eo]
   exact JS (by omega)
  ·show bh _ 4=true
   rw[eo]
   exact JS (by omega)
 ·simp only[qc,JU,aF]
  omega
def Bw (v:Int) (x:aX):Prop:=if v>0 then okFx x.Jc∧bh x.Jb 4=true∧bh x.I6 8=true∧bh x.I8 2=true∧fp x.Jc x.Jb x.I6 x.I8 v=0 else okFx x.Jc∧bh x.Jb 4=true∧fp x.Jc x.Jb x.I6 x.I8 v=0∧x.I6= -1∧x.I8= -1
theorem Gs (v:Int):Sp (zV v) (zc v) (Bw v):=by
 unfold zV
 by_cases hv:v>0
 ·rw[if_pos hv]
  refine (F9 v).congr (fun x=>by unfold Bw; rw[if_pos hv]) (fun x _=>by unfold zc; rw[if_pos hv])
 ·rw[if_neg hv]
  refine (Ga v).congr (fun x=>by unfold Bw; rw[if_neg hv]) (fun x _=>by unfold zc; rw[if_neg hv])
def okEn (x:bI):Prop:=okTx x.Jc∧bh x.I6 8=true∧bh x.I8 2=true∧lI x.Jc x.I6 x.I8=0
def okAd (x:bJ):Prop:=okTx x.Jc∧bh x.I6 8=true∧bh x.I8 2=true∧v6 x.I5∧mD x.Jc x.I6 x.I8 x.I5=0
def okMs (v:Int) (l:List aP):Prop:=(bh (l.length:Int) 4=true∧ ∀ m,m∈l→okM v m)∧lW v l=0
def kM (h:eS) (f:aC):List UInt8 :=
 if h.Jk=22 then zc h.Jg f.Jw else if h.Jk=24 then AU f.Jy else if h.Jk=26 then AS f.JC else if h.Jk=27 then s8 h.Jg f.Jt else qc f.Jh
def nG (h:eS) (f:aC):Prop :=
 if h.Jk=22 then Bw h.Jg f.Jw∧frB h f.Jw=f else if h.Jk=24 then okAd f.Jy∧frA h f.Jy=f else if h.Jk=26 then okEn f.JC∧frE h f.JC=f
 else if h.Jk=27 then okMs h.Jg f.Jt∧frM h f.Jt=f else okQ h.Jg f.Jh∧frP h f.Jh=f
theorem Gt (h:eS):Sp (tW h) (kM h) (nG h):=by
 unfold tW
 by_cases h22:h.Jk=22
 ·rw[if_pos h22]
  exact ((Gs h.Jg).map (frB h) (fun f=>f.Jw) (fun _=>rfl)).congr (fun f=>by unfold nG; rw[if_pos h22]) (fun f _=>by unfold kM; rw[if_pos h22])
 rw[if_neg h22]
 by_cases h24:h.Jk=24
 ·rw[if_pos h24]
  exact (Sp_add.map (frA h) (fun f=>f.Jy) (fun _=>rfl)).congr (fun f=>by unfold nG okAd; rw[if_neg h22,if_pos h24]) (fun f _=>by unfold kM; rw[if_neg h22,if_pos h24])
 rw[if_neg h24]
 by_cases h26:h.Jk=26
 ·rw[if_pos h26]
  exact (Sp_end.map (frE h) (fun f=>f.JC) (fun _=>rfl)).congr (fun f=>by unfold nG okEn; rw[if_neg h22,if_neg h24,if_pos h26]) (fun f _=>by unfold kM; rw[if_neg h22,if_neg h24,if_pos h26])
 rw[if_neg h26]
 by_cases h27:h.Jk=27
 ·rw[if_pos h27]
  exact ((EE h.Jg).map (frM h) (fun f=>f.Jt) (fun _=>rfl)).congr (fun f=>by unfold nG okMs; rw[if_neg h22,if_neg h24,if_neg h26,if_pos h27]) (fun f _=>by unfold kM; rw[if_neg h22,if_neg h24,if_neg h26,if_pos h27])
 rw[if_neg h27]
 exact ((Sp_prq h.Jg).map (frP h) (fun f=>f.Jh) (fun _=>rfl)).congr (fun f=>by unfold nG; rw[if_neg h22,if_neg h24,if_neg h26,if_neg h27]) (fun f _=>by unfold kM; rw[if_neg h22,if_neg h24,if_neg h26,if_neg h27])
theorem xl {h:eS} {f:aC} (k:nG h f):f.I9=h:=by
 unfold nG at k
 repeat' split at k
 all_goals rw[← k.2]; rfl
def im (f:aC):List UInt8:=tM f.I9++kM f.I9 f
def okIn (f:aC):Prop:=okH f.I9∧nG f.I9 f
theorem Sp_in:Sp pIn im okIn:=by
 refine F4.seq (π:=fun f:aC=>f.I9) (enc2:=fun f=>kM f.I9 f) (ok2:=fun f=>nG f.I9 f) (fun a=>(Gt a).congr (fun f=>⟨fun k=> ?_,fun k=> ?_⟩) (fun f k=> ?_))
 ·rw[xl k]; exact⟨k,rfl⟩
 ·have:=k.1; rw[k.2] at this; exact this
 ·rw[xl k]
def iY (f:aC):List UInt8:=be ((im f).length:Int) 4++im f
def okFr (f:aC):Prop:=okIn f∧bh ((im f).length:Int) 4=true
theorem opn_of {f:aC} (h:okIn f):opn (im f)=(f,0):=by
 have hb:=Sp_in.back (im f) [] 0 f (Ko _) h (by simp)
 unfold opn
 rw[hb]
 simp only[endF,Nat.zero_add]
 rw[if_neg (by omega)]
def smF (f:aC):Prop:=wTs f.Jy.I5≤2000∧(∀ m,m∈f.Jt→wTs m.I5≤2000)∧(bl (lB f.I9.Jg) f.Jt).length≤300000∧(f.I9.Jk≠22→f.I9.Jk≠24→f.I9.Jk≠26→f.I9.Jk≠27→gdQ f.Jh∧(qc f.Jh).length≤300000∧ ∀ t,t∈f.Jh.I5→t.Jd.length≤32767∧t.I7.length≤1000∧ ∀ p,p∈t.I7→p.Jf.length≤1000∧DA p.Jf)
theorem FC {v:Int} {l:List aP} {t:List UInt8} (h:okMs v l) (hw: ∀ m,m∈l→wTs m.I5≤2000) (hl:(bl (lB v) l).length≤300000) (ht:t.length≤100000):jo (t,0) l v=some (t++s8 v l,0):=by
 unfold jo
 rw[ED v l (fun m hm=>okM_W (h.1.2 m hm) (by have:=hw m hm; omega)),JR,if_pos h.2,dR h.1.1 (by omega),JR,s9 v l _ (fun m hm=>⟨h.1.2 m hm,hw m hm⟩) (by rw[JU,aF,show (4:Int).toNat=4 from rfl]; omega),JR,JY]
 rfl
theorem q_put {v:Int} {a:aw} {t:List UInt8} (hg:gdQ a) (h:okQ v a) (hl:(qc a).length≤300000) (ht:t.length≤100000) (hb: ∀ t,t∈a.I5→t.Jd.length≤32767∧t.I7.length≤1000∧ ∀ p,p∈t.I7→p.Jf.length≤1000∧DA p.Jf):d9 (t,0) a v=some (t++qc a,0):=by
 obtain⟨h1,h2,h3,h4,h5⟩:=h
 have hl':=hl
 simp only[qc,JU,aF] at hl'
 unfold d9
 rw[Fu a v hg,JR,if_pos h5,iX h1.1 h1.2 (by omega),JR,dR h2 (by simp only[JU,aF]; show _+(2 + _)≤ _; omega),JR,dR h3 (by simp only[JU,aF]; show _+(2 + _)+2≤ _; omega),JR,dR h4.1 (by simp only[JU,aF]; show _+(2 + _)+2+4≤ _; omega),JR]
 rw[qw_l1 a.I5 _ (fun t ht=>⟨(hb t ht).1,h4.2 t ht,(hb t ht).2.2⟩) (by simp only[JU,aF]; show _+(2 + _)+2+4+4 + _≤ _; omega),JR]
 simp only[qc,JY]
 rfl
theorem FD {f:aC} {t:List UInt8} (h:nG f.I9 f) (hs:smF f) (ht:t.length≤100000):dn (t,0) f=some (t++kM f.I9 f,0):=by
 unfold dn
 unfold nG at h
 unfold kM
 by_cases h22:f.I9.Jk=22
 ·rw[if_pos h22] at h ⊢
  rw[if_pos h22]
  have hb:=h.1
  unfold Bw at hb
  by_cases hv:f.I9.Jg>0
  ·rw[if_pos hv] at hb
   rw[u4 f.Jw _ t (eI hb.2.2.1) (eI hb.2.2.2.1) (eI hb.2.1) (by omega),if_pos hb.2.2.2.2]
   rfl
  ·rw[if_neg hv] at hb
   rw[u4 f.Jw _ t (by rw[hb.2.2.2.1]; exact wim) (by rw[hb.2.2.2.2]; exact wim) (eI hb.2.1) (by omega),if_pos hb.2.2.1]
   rfl
 rw[if_neg h22] at h ⊢
 rw[if_neg h22]
 by_cases h24:f.I9.Jk=24
 ·rw[if_pos h24] at h ⊢
  rw[if_pos h24]
  obtain⟨k1,k2,k3,k4,k5⟩:=h.1
  rw[EC f.Jy t (eI k2) (eI k3) (zd k4 (by have:=hs.1; omega)) hs.1 (by omega),if_pos k5]
  rfl
 rw[if_neg h24] at h ⊢
 rw[if_neg h24]
 by_cases h26:f.I9.Jk=26
 ·rw[if_pos h26] at h ⊢
  rw[if_pos h26]
  obtain⟨k1,k2,k3,k4⟩:=h.1
  rw[EB f.JC t (eI k2) (eI k3) (by omega),if_pos k4]
  rfl
 rw[if_neg h26] at h ⊢
 rw[if_neg h26]
 by_cases h27:f.I9.Jk=27
 ·rw[if_pos h27] at h ⊢
  rw[if_pos h27,FC h.1 hs.2.1 hs.2.2.1 ht]
  rfl
 rw[if_neg h27] at h ⊢
 obtain⟨g1,g2,g3⟩:=hs.2.2.2 h22 h24 h26 h27
 rw[if_neg h27,q_put g1 h.1 g2 ht g3]
 rfl
theorem Gu {h:eS} (k:okH h):mZ h=0∧h.Je.data.length≤32767:=by
 obtain⟨k1,k2,k3,k4⟩:=k
 have hl:h.Je.data.length≤32767:=by
  by_cases hn:h.Je.null=true
  ·have:h.Je.data = []:=by
    unfold bi at k4
    rw[hn] at k4
    simpa using k4
   rw[this]; simp
  ·have hb:eE h.Je=(h.Je.data.length:Int):=by
    unfold eE
    simp[hn]
   rw[hb,sE] at k3
   have:=of_decide_eq_true k3
   omega
 unfold mZ
 rw[if_pos k1,if_pos k2,if_pos k4,if_neg (by omega)]
 exact⟨rfl,hl⟩
theorem zY (h:eS):(tM h).length=10+h.Je.data.length:=by
 simp only[tM,JU,aF]; omega
theorem put_4 {m:List UInt8} (hl:m.length≤700000) (h3:bh (m.length:Int) 4=true):(dK ([],0) (m.length:Int) 4).bind (fun st28=>(wi st28 m).bind fun st30=>(ld st30).bind fun (x32,x33,st34)=>some (x32,x33))=some (be (m.length:Int) 4++m,0):=by
 have hb:(be (m.length:Int) 4).length=4:=aF _ _
 rw[dR h3 (Ko _),JR,Kc,show (4:Int).toNat=4 from rfl,yt _ _ (by show (be (m.length:Int) 4).length + _≤ _; omega),JR,l8,jJ,uN,JR]
theorem Bx {f:aC} (h:okFr f) (hs:smF f) (hl:(im f).length≤700000):dE f=some (iY f,0):=by
 obtain⟨⟨h1,h2⟩,h3⟩:=h
 obtain⟨c1,c2⟩:=Gu h1
 have hb:=FD (t:=tM f.I9) h2 hs (by rw[zY]; omega)
 have hp:=put_4 hl h3
 unfold dE
 rw[AP f.I9 [] (Ko _) (eI h1.2.1) (by omega),if_pos c1,JR,Kc,DQ,JR]
 dsimp only
 rw[if_pos rfl,hb,JR,JR,jJ,uN,JR]
 dsimp only
 rw[if_pos rfl]
 exact hp
def vJ (h:eS):jd:=⟨h.Jk,h.Jg,h.Jo,h.Je⟩
def z20:bF:=⟨⟨false,[]⟩,0,0,[]⟩
def nF (f:aC):aC :=
 if f.I9.Jk=22 then frB f.I9 f.Jw else if f.I9.Jk=24 then frA f.I9 f.Jy else if f.I9.Jk=26 then frE f.I9 f.JC else if f.I9.Jk=27 then frM f.I9 f.Jt else frP f.I9 f.Jh
def ofF (f:aC):eQ :=
 if f.I9.Jk=0 then ⟨vJ f.I9,zR,[],ofQ f.Jh⟩ else if f.I9.Jk=22 then ⟨vJ f.I9,gB f.Jw,[],z20⟩ else if f.I9.Jk=24 then ⟨vJ f.I9,gA f.Jy,[],z20⟩
 else if f.I9.Jk=26 then ⟨vJ f.I9,gE f.JC,[],z20⟩ else if f.I9.Jk=27 then ⟨vJ f.I9,zR,f.Jt.map toR,z20⟩ else ⟨vJ f.I9,zR,[],z20⟩
theorem nj (f:aC):(nF f).I9=f.I9:=by
 unfold nF
 repeat' split
 all_goals rfl
theorem of21 (f:aC) (hm:f.Jt.length≤1000000) (hq:f.I9.Jk=0→lh f.Jh=some (ofQ f.Jh)):jA f=some (ofF f):=by
 unfold jA ofF
 by_cases h0:f.I9.Jk=0
 ·rw[if_pos h0,if_pos h0,hq h0]; rfl
 rw[if_neg h0,if_neg h0]
 by_cases h22:f.I9.Jk=22
 ·rw[if_pos h22,if_pos h22]; rfl
 rw[if_neg h22,if_neg h22]
 by_cases h24:f.I9.Jk=24
 ·rw[if_pos h24,if_pos h24]; rfl
 rw[if_neg h24,if_neg h24]
 by_cases h26:f.I9.Jk=26
 ·rw[if_pos h26,if_pos h26]; rfl
 rw[if_neg h26,if_neg h26]
 by_cases h27:f.I9.Jk=27
 ·rw[if_pos h27,if_pos h27,of_eq f.Jt hm]; rfl
 rw[if_neg h27,if_neg h27]
 rfl
theorem of_nF (f:aC) (hk:f.I9.Jk=0∨f.I9.Jk=22∨f.I9.Jk=24∨f.I9.Jk=26∨f.I9.Jk=27):ofF (nF f)=ofF f:=by
 unfold ofF
 rw[nj]
 unfold nF
 rcases hk with h | h | h | h | h <;> simp[h,frB,frA,frE,frM,frP]
def tN (f:aC):Int :=
 if mZ f.I9=0 then (if f.I9.Jk=0 then rf f.I9.Jg f.Jh else if f.I9.Jk=27 then lW f.I9.Jg f.Jt else if f.I9.Jk=22 then fp f.Jw.Jc f.Jw.Jb f.Jw.I6 f.Jw.I8 f.I9.Jg
  else if f.I9.Jk=24 then mD f.Jy.Jc f.Jy.I6 f.Jy.I8 f.Jy.I5 else lI f.JC.Jc f.JC.I6 f.JC.I8) else mZ f.I9
theorem sN {h:eS} (k:mZ h=0):(h.Jk=0∧(h.Jg=3∨h.Jg=4))∨((h.Jk=22∨h.Jk=24∨h.Jk=26∨h.Jk=27)∧(h.Jg=0∨h.Jg=1)):=by
 have hv:=(AO k).1
 unfold fP f8 at hv
 by_cases h0:h.Jk=0
 ·simp[h0] at hv
  exact .inl ⟨h0,by omega⟩
 by_cases h1:h.Jk=22
 ·simp[h1] at hv
  exact .inr ⟨.inl h1,by omega⟩
 by_cases h2:h.Jk=24
 ·simp[h2] at hv
  exact .inr ⟨.inr (.inl h2),by omega⟩
 by_cases h3:h.Jk=26
 ·simp[h3] at hv
  exact .inr ⟨.inr (.inr (.inl h3)),by omega⟩
 by_cases h4:h.Jk=27
 ·simp[h4] at hv
  exact .inr ⟨.inr (.inr (.inr h4)),by omega⟩
 simp[h0,h1,h2,h3,h4] at hv
structure tO (f:aC):Prop where
 wf:gI f
 cl:f.I9.Je.data.length≤1000
 bg:f.Jw.Jc.data.length≤1000
 ad:f.Jy.Jc.length≤1000
 en:f.JC.Jc.length≤1000
 ts:wTs f.Jy.I5≤1000
 ml:f.Jt.length≤20
 mt: ∀ m,m∈f.Jt→wTs m.I5≤1000
 pq:zC (f.Jh.Jc.data.length:Int) f.Jh.I5
 pn:nTs (f.Jh.Jc.data.length:Int) f.Jh.I5≤2000
theorem few21 (f:aC) (hw:gI f):kZ f=some 0∨(kZ f=some 1∧tO f):=by
 obtain⟨w1,w2,w3,w4,w5,w6⟩:=hw
 have hw:gI f:=⟨w1,w2,w3,w4,w5,w6⟩
 unfold kZ
 by_cases h1:(f.I9.Je.data.length:Int)>1000
 ·rw[if_pos h1]; exact .inl rfl
 rw[if_neg h1]
 by_cases h2:(f.Jw.Jc.data.length:Int)>1000
 ·rw[if_pos h2]; exact .inl rfl
 rw[if_neg h2]
 by_cases h3:(f.Jy.Jc.length:Int)>1000
 ·rw[if_pos h3]; exact .inl rfl
 rw[if_neg h3]
 by_cases h4:(f.JC.Jc.length:Int)>1000
 ·rw[if_pos h4]; exact .inl rfl
 rw[if_neg h4]
 rcases Ep f.Jy.I5 w3.2.2.2.2 with h5 | ⟨h5,k5⟩
 ·rw[h5]; exact .inl rfl
 rw[h5]
 rcases few19 f.Jt w5.2 with h6 | ⟨h6,k6,m6⟩
 ·rw[JR,if_neg (by decide),h6]; exact .inl rfl
 rw[JR,if_neg (by decide),h6]
 rcases q_few w6 with h7 | ⟨h7,k7,m7⟩
 ·rw[JR,if_neg (by decide),h7]; exact .inl rfl
 rw[JR,if_neg (by decide),h7]
 exact .inr ⟨rfl,hw,by omega,by omega,by omega,by omega,k5,k6,m6,k7,m7⟩
theorem zZ {f:aC} (h:tO f):gdQ f.Jh:=gdQ_of h.wf.2.2.2.2.2 h.pq
theorem Gv {f:aC} (h:tO f):wTl f.Jy.I5:=by
 have hn:=kT f.Jy.I5
 exact⟨h.wf.2.2.1.2.2.2.2,by have:=h.ts; omega⟩
theorem FE {f:aC} (h:tO f):jA f=some (ofF f):=of21 f (by have:=h.ml; omega) (fun _=>Cv (zZ h))
theorem Gw {f:aC} (h:tO f):kg (ofF f)=some (tN f):=by
 unfold kg tN
 have hh:(ofF f).I9=vJ f.I9:=by
  unfold ofF
  repeat' split
  all_goals rfl
 rw[hh,C9]
 have e:(⟨(vJ f.I9).Jk,(vJ f.I9).Jg,(vJ f.I9).Jo,(vJ f.I9).Je⟩:eS)=f.I9:=rfl
 rw[e,JR]
 by_cases hc:mZ f.I9=0
 ·rw[if_pos hc,if_pos hc]
  have hb: ∀ {t:Top} {l:List Top},wTs l≤1000→t∈l→t.I7.length≤1000000∧t.Jd.length≤1000000:=fun {t l} hw ht=>by
   have:=qV _ _ ht
   unfold wT at this
   exact⟨by omega,by omega⟩
  show (if f.I9.Jk=0 then _ else _)= _
  rcases sN hc with⟨h0,hv⟩ | ⟨hk,hv⟩
  ·rw[if_pos h0,if_pos h0]
   have:(ofF f).Jh=ofQ f.Jh:=by unfold ofF; rw[if_pos h0]
   rw[this]
   show (iR (ofQ f.Jh) f.I9.Jg).bind _= _
   rw[Fv f.Jh _ hv (zZ h)]
   rfl
  ·have h0:f.I9.Jk≠0:=by omega
   rw[if_neg h0,if_neg h0]
   show (if f.I9.Jk=27 then _ else _)= _
   by_cases h27:f.I9.Jk=27
   ·rw[if_pos h27,if_pos h27]
    have:(ofF f).Jt=f.Jt.map toR:=by unfold ofF; rw[if_neg h0,if_neg (by omega),if_neg (by omega),if_neg (by omega),if_pos h27]
    rw[this]
    show (iU (f.Jt.map toR) f.I9.Jg).bind _= _
    rw[Dd f.I9.Jg f.Jt (by have:=h.ml; omega) (fun m hm=>⟨by have:=kT m.I5; have:=h.mt m hm; omega,fun t ht=>hb (h.mt m hm) ht⟩)]
    rfl
   ·rw[if_neg h27,if_neg h27]
    show (iT f.I9.Jk f.I9.Jg (ofF f).JE).bind _= _
    by_cases h22:f.I9.Jk=22
    ·have:(ofF f).JE=gB f.Jw:=by unfold ofF; rw[if_neg h0,if_pos h22]
     rw[this,sG _ _ hv _ (fun h=>absurd h22 h) (Ko _) (fun t ht=>absurd ht List.not_mem_nil),if_pos h22]
     unfold chkR
     rw[if_pos h22]
     rfl
    ·rw[if_neg h22]
     by_cases h24:f.I9.Jk=24
     ·have:(ofF f).JE=gA f.Jy:=by unfold ofF; rw[if_neg h0,if_neg h22,if_pos h24]
      rw[this,sG _ _ hv _ (fun _=>rfl) (Gv h).2 (fun t ht=>hb h.ts ht),if_pos h24]
      unfold chkR
      rw[if_neg h22,if_pos h24]
      rfl
     ·have h26:f.I9.Jk=26:=by omega
      have:(ofF f).JE=gE f.JC:=by unfold ofF; rw[if_neg h0,if_neg h22,if_neg h24,if_pos h26]
      rw[this,sG _ _ hv _ (fun _=>rfl) (Ko _) (fun t ht=>absurd ht List.not_mem_nil),if_neg h24]
      unfold chkR
      rw[if_neg h22,if_neg h24]
      rfl
 ·rw[if_neg hc,if_neg hc]
theorem Gx (st:List UInt8×Int) (f:aC):dn st f=dn st (nF f):=by
 unfold dn
 rw[nj]
 unfold nF
 by_cases h22:f.I9.Jk=22
 ·rw[if_pos h22,if_pos h22,if_pos h22]; rfl
 rw[if_neg h22,if_neg h22,if_neg h22]
 by_cases h24:f.I9.Jk=24
 ·rw[if_pos h24,if_pos h24,if_pos h24]; rfl
 rw[if_neg h24,if_neg h24,if_neg h24]
 by_cases h26:f.I9.Jk=26
 ·rw[if_pos h26,if_pos h26,if_pos h26]; rfl
 rw[if_neg h26,if_neg h26,if_neg h26]
 by_cases h27:f.I9.Jk=27
 ·rw[if_pos h27,if_pos h27,if_pos h27]; rfl
 rw[if_neg h27,if_neg h27,if_neg h27]
 rfl
theorem DD (f:aC):dE f=dE (nF f):=by
 unfold dE
 rw[nj]
 simp only[Gx _ f]
theorem DE {d:List UInt8} {p e:Int} (h:lI d p e=0):dc d=true∧who p e=true:=by
 unfold lI at h
 by_cases h1:dc d=true
 ·rw[if_pos h1] at h
  by_cases h2:who p e=true
  ·exact⟨h1,h2⟩
  ·rw[if_neg h2] at h; exact absurd h (by decide)
 ·rw[if_neg h1] at h; exact absurd h (by decide)
theorem Cy {d:List UInt8} (h:dc d=true):okTx d:=⟨by have:=ne h; rw[sE]; exact JS (by omega),rfl⟩
theorem nF_22 {f:aC} (h:f.I9.Jk=22):nF f=frB f.I9 f.Jw:=by unfold nF; rw[if_pos h]
theorem nF_24 {f:aC} (h:f.I9.Jk=24):nF f=frA f.I9 f.Jy:=by unfold nF; rw[if_neg (by omega),if_pos h]
theorem nF_26 {f:aC} (h:f.I9.Jk=26):nF f=frE f.I9 f.JC:=by unfold nF; rw[if_neg (by omega),if_neg (by omega),if_pos h]
theorem nF_27 {f:aC} (h:f.I9.Jk=27):nF f=frM f.I9 f.Jt:=by unfold nF; rw[if_neg (by omega),if_neg (by omega),if_neg (by omega),if_pos h]
theorem nF_0 {f:aC} (h:f.I9.Jk=0):nF f=frP f.I9 f.Jh:=by unfold nF; rw[if_neg (by omega),if_neg (by omega),if_neg (by omega),if_neg (by omega)]
theorem Gy {v:Int} (hv:v=0∨v=1) {x:aX} (hw:oo x) (h:fp x.Jc x.Jb x.I6 x.I8 v=0):Bw v x:=by
 obtain⟨c1,c2,c3,c4⟩:=u0 h
 have f1:=BZ c1 c2
 have ft:bh x.Jb 4=true:=by rw[eo]; exact JS (by omega)
 unfold Bw
 rcases hv with rfl | rfl
 ·rw[if_neg (by decide)]
  rcases c4 with c4 | c4
  ·exact⟨⟨f1.1,c1⟩,ft,h,c4⟩
  ·exact absurd c4.1 (by decide)
 ·rw[if_pos (by decide)]
  rcases c4 with c4 | c4
  ·exact⟨⟨f1.1,c1⟩,ft,by rw[c4.1]; decide,by rw[c4.2]; decide,h⟩
  ·have:=lA c4.2 hw.2.2.1
   exact⟨⟨f1.1,c1⟩,ft,this.1,this.2,h⟩
theorem sO {f:aC} (h:tO f) (hc:tN f=0):okFr (nF f)∧smF (nF f)∧(im (nF f)).length≤302000∧ofF (nF f)=ofF f:=by
 have hh:mZ f.I9=0:=by
  unfold tN at hc
  by_cases hh:mZ f.I9=0
  ·exact hh
  ·rw[if_neg hh] at hc; exact absurd hc hh
 unfold tN at hc
 rw[if_pos hh] at hc
 have hv:=sN hh
 have hof:ofF (nF f)=ofF f:=of_nF f (by omega)
 have hkey:nG f.I9 (nF f)∧smF (nF f)∧(kM f.I9 (nF f)).length≤300010:=by
  obtain⟨w1,w2,w3,w4,w5,w6⟩:=h.wf
  have em: ∀ m:aP,m∈([]:List aP)→wTs m.I5≤2000:=fun m hm=>absurd hm List.not_mem_nil
  rcases hv with⟨h0,hv⟩ | ⟨hk,hv⟩
  ·rw[if_pos h0] at hc
   rw[nF_0 h0]
   obtain⟨q1,q2,q3⟩:=okQ_of w6 h.pq h.pn hc
   refine⟨?_,⟨Ko _,em,by simp[frP,bl],fun _ _ _ _=>(⟨zZ h,q2,q3⟩:gdQ f.Jh∧ _)⟩,?_⟩
   ·unfold nG; rw[if_neg (by omega),if_neg (by omega),if_neg (by omega),if_neg (by omega)]; exact⟨q1,rfl⟩
   ·unfold kM; rw[if_neg (by omega),if_neg (by omega),if_neg (by omega),if_neg (by omega)]; show (qc f.Jh).length≤ _; omega
  ·have h0:f.I9.Jk≠0:=by omega
   rw[if_neg h0] at hc
   by_cases h27:f.I9.Jk=27
   ·rw[if_pos h27] at hc
    rw[nF_27 h27]
    have hf:jX f.I9.Jg f.Jt=0:=by
     unfold lW at hc
     split at hc
     ·exact absurd hc (by decide)
     ·exact hc
    have hl:=wM f.I9.Jg f.Jt 1000 h.mt
    have hml:=h.ml
    have hl2:(bl (lB f.I9.Jg) f.Jt).length≤20380:=Nat.le_trans hl (Nat.le_trans (Nat.mul_le_mul_right _ hml) (by decide))
    refine⟨?_,⟨Ko _,fun m hm=>by have:=h.mt m hm; omega,?_,fun _ _ _ k=>absurd h27 k⟩,?_⟩
    ·unfold nG
     rw[if_neg (by omega),if_neg (by omega),if_neg (by omega),if_pos h27]
     exact⟨⟨⟨by rw[show (frM f.I9 f.Jt).Jt=f.Jt from rfl,eo]; exact JS (by omega),fun m hm=>Gg hv (ta hf m hm) (w5.2 m hm).1 (by have:=h.mt m hm; omega)⟩,hc⟩,rfl⟩
    ·show (bl (lB f.I9.Jg) f.Jt).length≤ _; omega
    ·unfold kM
     rw[if_neg (by omega),if_neg (by omega),if_neg (by omega),if_pos h27]
     show (s8 f.I9.Jg f.Jt).length≤ _
     rw[s8,JU,aF]
     omega
   rw[if_neg h27] at hc
   by_cases h22:f.I9.Jk=22
   ·rw[if_pos h22] at hc
    rw[nF_22 h22]
    refine⟨?_,⟨Ko _,em,by simp[frB,bl],fun k=>absurd h22 k⟩,?_⟩
    ·unfold nG; rw[if_pos h22]; exact⟨Gy hv w2 hc,rfl⟩
    ·unfold kM; rw[if_pos h22]
     show (zc f.I9.Jg f.Jw).length≤ _
     have:=h.bg
     unfold zc za zb uZ
     split
     ·simp only[JU,aF]; omega
     ·simp only[JU,aF]; omega
   rw[if_neg h22] at hc
   by_cases h24:f.I9.Jk=24
   ·rw[if_pos h24] at hc
    rw[nF_24 h24]
    obtain⟨c1,c2,c3⟩:=wG hc
    have hw:=lA c2 w3.2.1
    have hts:=h.ts
    have hn:=kT f.Jy.I5
    refine⟨?_,⟨by show wTs f.Jy.I5≤ _; omega,em,by simp[frA,bl],fun _ k=>absurd h24 k⟩,?_⟩
    ·unfold nG; rw[if_neg h22,if_pos h24]
     exact⟨⟨Cy c1,hw.1,hw.2,⟨by rw[show (frA f.I9 f.Jy).Jy.I5=f.Jy.I5 from rfl,eo]; exact JS (by omega),xM (sF c3).2 (by show wTs f.Jy.I5≤ _; omega)⟩,hc⟩,rfl⟩
    ·unfold kM; rw[if_neg h22,if_pos h24]
     show (AU f.Jy).length≤ _
     have:=h.ad
     simp only[AU,s6,lV,JU,aF,jW]
     omega
   rw[if_neg h24] at hc
   have h26:f.I9.Jk=26:=by omega
   rw[nF_26 h26]
   obtain⟨c1,c2⟩:=DE hc
   have hw:=lA c2 w4.2.1
   refine⟨?_,⟨Ko _,em,by simp[frE,bl],fun _ _ k=>absurd h26 k⟩,?_⟩
   ·unfold nG; rw[if_neg h22,if_neg h24,if_pos h26]; exact⟨⟨Cy c1,hw.1,hw.2,hc⟩,rfl⟩
   ·unfold kM; rw[if_neg h22,if_neg h24,if_pos h26]
    show (AS f.JC).length≤ _
    have:=h.en
    have hb:(j7 f.JC.Js).length≤1:=by cases f.JC.Js <;> decide
    simp only[AS,s6,JU,aF]
    omega
 obtain⟨k1,k2,k3⟩:=hkey
 have hcl:=h.cl
 have hl:(im (nF f)).length≤302000:=by
  rw[im,nj,JU,zY]
  omega
 refine⟨⟨⟨by rw[nj]; exact AO hh,by rw[nj]; exact k1⟩,by rw[eo]; exact JS (by omega)⟩,k2,hl,hof⟩
theorem Gz {st st1:I} {n:Int} {m l:List UInt8} {p:Nat} {f:aC} (g1:dL st 4=some (n,st1)) (g2:ue st1 n=some (m,⟨l,p,0⟩)) (g3:gq m=some (f,0)):gr st=some (f,⟨l,p,0⟩):=by
 unfold gr
 rw[g1,JR]
 dsimp only
 rw[g2,JR]
 dsimp only
 rw[bt,JR]
 dsimp only
 rw[if_pos rfl,g3,JR]
 dsimp only
 rw[if_pos rfl]
theorem z0 {s t:List UInt8} {q:Nat} {f:aC} (hs:s.length≤140737488355328) (hq:q≤s.length) (h:okFr f) (hl:(im f).length≤1000000) (hd:s.drop q=iY f++t) :
 gr ⟨s.drop q,q,0⟩=some (f,⟨s.drop (q+(iY f).length),q+(iY f).length,0⟩):=by
 have hd':s.drop q=be ((im f).length:Int) 4++(im f++t):=by rw[hd,iY,JY]
 have hp:=(ej 4 (by decide) (by decide)).back s _ q _ hq h.2 hd'
 have hb4:(be ((im f).length:Int) 4).length=4:=aF _ _
 rw[hb4] at hp
 have hr:s.drop (q+4)=im f++t:=by have:=bX hd'; rwa [hb4] at this
 have hl2:=congrArg List.length hr
 rw[J7,JU] at hl2
 have hl3:=congrArg List.length hd'
 rw[J7,JU,hb4] at hl3
 have he:(iY f).length=4+(im f).length:=by rw[iY,JU,hb4]
 have g1:dL ⟨s.drop q,q,0⟩ 4=some (((im f).length:Int),⟨s.drop (q+4),q+4,0⟩):=by
  rcases Q4.run s q hq with⟨e,st,p1,g1,x1,y1⟩ | ⟨n,r,p1,g1,n1,l1⟩
  ·rw[hp] at p1; exact nomatch p1
  ·rw[hp] at p1
   injection p1 with p1
   obtain⟨rfl,rfl⟩:=Kj p1
   exact g1
 have e1:cz ⟨s.drop (q+4),q+4,0⟩ ((im f).length:Int)=(im f,⟨s.drop (q+(iY f).length),q+(iY f).length,0⟩):=by
  rw[itk_ok _ _ (by omega) (by rw[hr,JU]; omega),K5,KQ,hr,List.take_append_of_le_length (Kn _),List.take_length,he,Nat.add_assoc]
 have g2:ue ⟨s.drop (q+4),q+4,0⟩ ((im f).length:Int)=some (im f,⟨s.drop (q+(iY f).length),q+(iY f).length,0⟩):=by
  rw[qm _ _ (by omega),e1]
 have g3:gq (im f)=some (f,0):=by rw[Gr _ hl,opn_of h.1]
 exact Gz g1 g2 g3
theorem sP (r:bK) (h1:r.I5.length≤1000000) (h2: ∀ t,t∈r.I5→t.I7.length≤140737488355328):jR r r=some true:=by
 unfold jR
 rw[if_pos rfl,if_pos rfl,if_pos rfl,if_pos rfl,if_pos rfl,yS _ _ h1 h2,sZ]
 cases r.Js <;> rfl
theorem FF:kR=some true:=by kernel_rfl
theorem DF {f:aC} (h:tO f) (hk:f.I9.Jk=0∨f.I9.Jk=22∨f.I9.Jk=24∨f.I9.Jk=26∨f.I9.Jk=27):jA (nF f)=some (ofF f):=by
 rw[← of_nF f hk]
 refine of21 (nF f) ?_ ?_
 ·have:=h.ml
  rcases hk with k | k | k | k | k
  ·rw[nF_0 k]; exact Ko _
  ·rw[nF_22 k]; exact Ko _
  ·rw[nF_24 k]; exact Ko _
  ·rw[nF_26 k]; exact Ko _
  ·rw[nF_27 k]; show f.Jt.length≤ _; omega
 ·rw[nj]
  intro k
  rw[nF_0 k]
  show lh f.Jh=some (ofQ f.Jh)
  exact Cv (zZ h)
theorem oJ:gX z20 z20=some true:=by
 have:=tk (b:=zQ) zQ_gd
 rw[vx] at this
 exact this
theorem oK:iH [] []=some true:=by
 have:=ze [] [] (by decide) (fun m hm=>absurd hm List.not_mem_nil)
 exact this
theorem FG {f:aC} (h:tO f):lq (ofF f) (ofF f)=some true:=by
 have hb: ∀ {t:Top} {l:List Top},wTs l≤1000→t∈l→t.I7.length≤140737488355328:=fun {t l} hw ht=>by
  have:=qV _ _ ht
  unfold wT at this
  omega
 have h18:jR (ofF f).JE (ofF f).JE=some true:=by
  have hn:=kT f.Jy.I5
  have hts:=h.ts
  unfold ofF
  split
  ·exact sP zR (by decide) (fun t ht=>absurd ht List.not_mem_nil)
  split
  ·exact sP (gB f.Jw) (Ko _) (fun t ht=>absurd ht List.not_mem_nil)
  split
  ·exact sP (gA f.Jy) (by show f.Jy.I5.length≤ _; omega) (fun t ht=>hb hts ht)
  split
  ·exact sP (gE f.JC) (Ko _) (fun t ht=>absurd ht List.not_mem_nil)
  split
  ·exact sP zR (by decide) (fun t ht=>absurd ht List.not_mem_nil)
  ·exact sP zR (by decide) (fun t ht=>absurd ht List.not_mem_nil)
 have h19:iH (ofF f).Jt (ofF f).Jt=some true:=by
  unfold ofF
  split
  ·exact oK
  split
  ·exact oK
  split
  ·exact oK
  split
  ·exact oK
  split
  ·have:=ze f.Jt f.Jt (by have:=h.ml; omega) (fun m hm=>⟨by have:=kT m.I5; have:=h.mt m hm; omega,fun t ht=>hb (h.mt m hm) ht⟩)
   rw[JS rfl] at this
   exact this
  ·exact oK
 have h20:gX (ofF f).Jh (ofF f).Jh=some true:=by
  unfold ofF
  split
  ·have:=tk (b:=f.Jh) (zZ h)
   rw[vx] at this
   exact this
  split
  ·exact oJ
  split
  ·exact oJ
  split
  ·exact oJ
  split
  ·exact oJ
  ·exact oJ
 unfold lq
 rw[if_pos rfl,if_pos rfl,if_pos rfl,if_pos rfl,if_pos rfl,h18,JR,if_pos rfl,h19,JR,if_pos rfl,h20]
 rfl
theorem FH {f:aC} (hc:tN f=0):f.I9.Jk=0∨f.I9.Jk=22∨f.I9.Jk=24∨f.I9.Jk=26∨f.I9.Jk=27:=by
 have hh:mZ f.I9=0:=by
  unfold tN at hc
  by_cases hh:mZ f.I9=0
  ·exact hh
  ·rw[if_neg hh] at hc; exact absurd hc hh
 have:=sN hh
 omega
theorem Bz {f:aC} (h:tO f) (hc:tN f=0):dE f=some (iY (nF f),0):=by
 obtain⟨k1,k2,k3,k4⟩:=sO h hc
 rw[DD f,Bx k1 k2 (by omega)]
theorem xm {f:aC} (h:tO f) (hc:tN f=0):(iY (nF f)).length≤302004:=by
 obtain⟨k1,k2,k3,k4⟩:=sO h hc
 rw[iY,JU,aF]
 omega
theorem z3: ∀ (l:List aC) (y:Bool) (acc:List UInt8),(∀ f,f∈l→gI f)→acc.length+302004*l.length≤100000000000000 →
 cH l y acc=some (.ret true)∨(cH l y acc=some (.go (y,acc++bl iY (l.map nF)))∧ ∀ f,f∈l→tO f∧tN f=0)
 | [],y,acc,_,_=> .inr ⟨by rw[cH,List.map_nil,bl,Kg],fun f hf=>absurd hf List.not_mem_nil⟩
 | f::l,y,acc,hw,hl=>by
  rw[cH]
  rw[J0] at hl
  rcases few21 f (hw f (.head _)) with h1 | ⟨h1,hF⟩
  ·rw[h1,JR,if_pos rfl,JR,if_pos rfl]
   exact .inl rfl
  rw[h1,JR,if_neg (by decide),FE hF,JR,Gw hF,JR]
  by_cases hc:tN f=0
  ·rw[if_pos hc,JR,if_neg (by decide),Bz hF hc,JR]
   dsimp only
   have he:=xm hF hc
   rw[if_pos rfl,if_pos (by omega)]
   rcases z3 l y (acc++iY (nF f)) (fun g hg=>hw g (.tail _ hg)) (by rw[JU]; omega) with h2 | ⟨h2,h3⟩
   ·exact .inl h2
   ·refine .inr ⟨?_,fun g hg=> ?_⟩
    ·rw[h2,JY,List.map_cons,bl]
    ·rcases List.mem_cons.1 hg with rfl | hg
     ·exact⟨hF,hc⟩
     ·exact h3 g hg
  ·rw[if_neg hc,JR,if_pos rfl]
   exact .inl rfl
theorem z4 (y:Bool) (s:List UInt8) (hs:s.length≤140737488355328): ∀ (l:List aC) (q:Nat),(∀ f,f∈l→tO f∧tN f=0)→q≤s.length→s.drop q=bl iY (l.map nF) →
 cY l y ⟨s.drop q,q,0⟩=some (.go (y,⟨[],s.length,0⟩))
 | [],q,_,hq,hd=>by
  rw[cY]
  rw[List.map_nil,bl] at hd
  have:q=s.length:=by have:=List.drop_eq_nil_iff.1 hd; omega
  rw[hd,this]
 | f::l,q,h,hq,hd=>by
  obtain⟨hF,hc⟩:=h f (.head _)
  obtain⟨k1,k2,k3,k4⟩:=sO hF hc
  rw[List.map_cons,bl] at hd
  have hr:=z0 hs hq k1 (by omega) hd
  have hd2:=bX hd
  have hl:=congrArg List.length hd
  rw[J7,JU] at hl
  rw[cY,hr,JR]
  dsimp only
  rw[DF hF (FH hc),JR,FE hF,JR,FG hF,JR,if_pos rfl]
  exact z4 y s hs l _ (fun g hg=>h g (.tail _ hg)) (by omega) hd2
theorem pure_FrameRows (a0:List aC) (w0:(wL gI) a0):iE a0=some true:=by
 unfold iE
 rw[FF,JR,if_pos rfl]
 by_cases h:(a0.length:Int)>8
 ·rw[if_pos h]
 rw[if_neg h]
 rcases z3 a0 false [] w0.2 (by simp only[K6]; omega) with h1 | ⟨h1,h2⟩
 ·rw[h1]; rfl
 ·rw[h1,JR,Kc]
  dsimp only
  have hlen:(bl iY (a0.map nF)).length≤302004*a0.length:=by
   clear h1 h w0
   induction a0 with
   | nil=>exact Ko _
   | cons f l ih =>
    have:=xm (h2 f (.head _)).1 (h2 f (.head _)).2
    have:=ih (fun g hg=>h2 g (.tail _ hg))
    rw[List.map_cons,bl,JU,J0]
    omega
  have hs:(bl iY (a0.map nF)).length≤140737488355328:=by omega
  have h3:=z4 false (bl iY (a0.map nF)) hs a0 0 h2 (Ko _) rfl
  rw[List.drop_zero] at h3
  rw[j1 _ (by omega),JR,h3,JR]
  rfl
open Go.RowKit Go.Deep Go.ChangeShapes
theorem xn {H:Type} {enc:TypeId×Value→H}:ew enc Tryz.prog 23 (ge yz uO) :=
 dp (fun x=>⟨x.1,x.2.1⟩) (cy Tryz.underlying23 (by kernel_rfl) (aI 1 (by kernel_rfl) (by kernel_rfl) (oU Tryz.underlying4) (aI 1 (by kernel_rfl) (by kernel_rfl) (sB Tryz.underlying9) (cR _)))) (by
  rintro w S cs ⟨x0,x1,_⟩ ⟨_,_,rfl,⟨p0,q0⟩,_,_,rfl,⟨p1,q1⟩,rfl⟩
  obtain rfl:=p0
  obtain rfl:=p1
  exact⟨rfl,q0,q1⟩)
theorem GA {H:Type} {enc:TypeId×Value→H}:ew enc Tryz.prog 25 (ge FQ BQ) :=
 dp (fun x=>⟨x.1,x.2.1,x.2.2.1,x.2.2.2.1⟩) (cy Tryz.underlying25 (by kernel_rfl) (aI 1 (by kernel_rfl) (by kernel_rfl) (ey Tryz.underlying3) (aI 1 (by kernel_rfl) (by kernel_rfl) (ey Tryz.underlying3) (aI 1 (by kernel_rfl) (by kernel_rfl) (ey Tryz.underlying3) (aI 2 (by kernel_rfl) (by kernel_rfl) xn (cR _)))))) (by
  rintro w S cs ⟨x0,x1,x2,x3,_⟩ ⟨_,_,rfl,⟨p0,q0⟩,_,_,rfl,⟨p1,q1⟩,_,_,rfl,⟨p2,q2⟩,_,_,rfl,⟨p3,q3⟩,rfl⟩
  obtain rfl:=p0
  obtain rfl:=p1
  obtain rfl:=p2
  obtain rfl:=p3
  exact⟨rfl,q0,q1,q2,q3⟩)
theorem z5 {H:Type} {enc:TypeId×Value→H}:ew enc Tryz.prog 27 (ge yA oo) :=
 dp (fun x=>⟨x.1,x.2.1,x.2.2.1,x.2.2.2.1⟩) (cy Tryz.underlying27 (by kernel_rfl) (aI 2 (by kernel_rfl) (by kernel_rfl) xn (aI 1 (by kernel_rfl) (by kernel_rfl) (ey Tryz.underlying3) (aI 1 (by kernel_rfl) (by kernel_rfl) (ey Tryz.underlying3) (aI 1 (by kernel_rfl) (by kernel_rfl) (ey Tryz.underlying3) (cR _)))))) (by
  rintro w S cs ⟨x0,x1,x2,x3,_⟩ ⟨_,_,rfl,⟨p0,q0⟩,_,_,rfl,⟨p1,q1⟩,_,_,rfl,⟨p2,q2⟩,_,_,rfl,⟨p3,q3⟩,rfl⟩
  obtain rfl:=p0
  obtain rfl:=p1
  obtain rfl:=p2
  obtain rfl:=p3
  exact⟨rfl,q0,q1,q2,q3⟩)
theorem FI {H:Type} {enc:TypeId×Value→H}:ew enc Tryz.prog 171 (ge ba mY) :=
 dp (fun x=>⟨x.1,x.2.1⟩) (cy Tryz.underlying171 (by kernel_rfl) (aI 1 (by kernel_rfl) (by kernel_rfl) (sB Tryz.underlying9) (aI 1 (by kernel_rfl) (by kernel_rfl) (op_slice 1 8 Tryz.underlying74 (by kernel_rfl) (by kernel_rfl) (by decide) (by decide) (ey Tryz.underlying3)) (cR _)))) (by
  rintro w S cs ⟨x0,x1,_⟩ ⟨_,_,rfl,⟨p0,q0⟩,_,_,rfl,⟨p1,q1⟩,rfl⟩
  obtain rfl:=p0
  obtain⟨A1,c1,rfl⟩:=slice_cells p1
  exact⟨⟨A1,c1,rfl,p1⟩,q0,q1⟩)
theorem DG {H:Type} {enc:TypeId×Value→H}:ew enc Tryz.prog 30 (ge CL wy) :=
 dp (fun x=>⟨x.1,x.2.1,x.2.2.1,x.2.2.2.1⟩) (cy Tryz.underlying30 (by kernel_rfl) (aI 1 (by kernel_rfl) (by kernel_rfl) (sB Tryz.underlying9) (aI 1 (by kernel_rfl) (by kernel_rfl) (ey Tryz.underlying3) (aI 1 (by kernel_rfl) (by kernel_rfl) (ey Tryz.underlying3) (aI 1 (by kernel_rfl) (by kernel_rfl) (op_slice 2 40 Tryz.underlying28 (by kernel_rfl) (by kernel_rfl) (by decide) (by decide) FI) (cR _)))))) (by
  rintro w S cs ⟨x0,x1,x2,x3,_⟩ ⟨_,_,rfl,⟨p0,q0⟩,_,_,rfl,⟨p1,q1⟩,_,_,rfl,⟨p2,q2⟩,_,_,rfl,⟨p3,q3⟩,rfl⟩
  obtain rfl:=p0
  obtain rfl:=p1
  obtain rfl:=p2
  obtain⟨A3,c3,rfl⟩:=slice_cells p3
  exact⟨⟨A3,c3,rfl,p3⟩,q0,q1,q2,q3⟩)
theorem DH {H:Type} {enc:TypeId×Value→H}:ew enc Tryz.prog 32 (ge CK wx) :=
 dp (fun x=>⟨x.1,x.2.1,x.2.2.1,x.2.2.2.1⟩) (cy Tryz.underlying32 (by kernel_rfl) (aI 1 (by kernel_rfl) (by kernel_rfl) (sB Tryz.underlying9) (aI 1 (by kernel_rfl) (by kernel_rfl) (ey Tryz.underlying3) (aI 1 (by kernel_rfl) (by kernel_rfl) (ey Tryz.underlying3) (aI 1 (by kernel_rfl) (by kernel_rfl) (oU Tryz.underlying4) (cR _)))))) (by
  rintro w S cs ⟨x0,x1,x2,x3,_⟩ ⟨_,_,rfl,⟨p0,q0⟩,_,_,rfl,⟨p1,q1⟩,_,_,rfl,⟨p2,q2⟩,_,_,rfl,⟨p3,q3⟩,rfl⟩
  obtain rfl:=p0
  obtain rfl:=p1
  obtain rfl:=p2
  obtain rfl:=p3
  exact⟨rfl,q0,q1,q2,q3⟩)
theorem z6 {H:Type} {enc:TypeId×Value→H}:ew enc Tryz.prog 173 (ge aW lU) :=
 dp (fun x=>⟨x.1,x.2.1,x.2.2.1,x.2.2.2.1,x.2.2.2.2.1⟩) (cy Tryz.underlying173 (by kernel_rfl) (aI 1 (by kernel_rfl) (by kernel_rfl) (ey Tryz.underlying3) (aI 1 (by kernel_rfl) (by kernel_rfl) (ey Tryz.underlying3) (aI 1 (by kernel_rfl) (by kernel_rfl) (oU Tryz.underlying4) (aI 1 (by kernel_rfl) (by kernel_rfl) (op_slice 2 40 Tryz.underlying28 (by kernel_rfl) (by kernel_rfl) (by decide) (by decide) FI) (aI 1 (by kernel_rfl) (by kernel_rfl) (ey Tryz.underlying3) (cR _))))))) (by
  rintro w S cs ⟨x0,x1,x2,x3,x4,_⟩ ⟨_,_,rfl,⟨p0,q0⟩,_,_,rfl,⟨p1,q1⟩,_,_,rfl,⟨p2,q2⟩,_,_,rfl,⟨p3,q3⟩,_,_,rfl,⟨p4,q4⟩,rfl⟩
  obtain rfl:=p0
  obtain rfl:=p1
  obtain rfl:=p2
  obtain⟨A3,c3,rfl⟩:=slice_cells p3
  obtain rfl:=p4
  exact⟨⟨A3,c3,rfl,p3⟩,q0,q1,q2,q3,q4⟩)
theorem op_Hd {H:Type} {enc:TypeId×Value→H}:ew enc Tryz.prog 245 (ge db Ek) :=
 dp (fun x=>⟨x.1,x.2.1⟩) (cy Tryz.underlying245 (by kernel_rfl) (aI 1 (by kernel_rfl) (by kernel_rfl) (sB Tryz.underlying9) (aI 2 (by kernel_rfl) (by kernel_rfl) xn (cR _)))) (by
  rintro w S cs ⟨x0,x1,_⟩ ⟨_,_,rfl,⟨p0,q0⟩,_,_,rfl,⟨p1,q1⟩,rfl⟩
  obtain rfl:=p0
  obtain rfl:=p1
  exact⟨rfl,q0,q1⟩)
theorem op_Rec {H:Type} {enc:TypeId×Value→H}:ew enc Tryz.prog 91 (ge cV uP) :=
 dp (fun x=>⟨x.1,x.2.1,x.2.2.1,x.2.2.2.1,x.2.2.2.2.1⟩) (cy Tryz.underlying91 (by kernel_rfl) (aI 1 (by kernel_rfl) (by kernel_rfl) (ey Tryz.underlying3) (aI 1 (by kernel_rfl) (by kernel_rfl) (ey Tryz.underlying3) (aI 2 (by kernel_rfl) (by kernel_rfl) xn (aI 2 (by kernel_rfl) (by kernel_rfl) xn (aI 1 (by kernel_rfl) (by kernel_rfl) (op_slice 3 40 Tryz.underlying89 (by kernel_rfl) (by kernel_rfl) (by decide) (by decide) op_Hd) (cR _))))))) (by
  rintro w S cs ⟨x0,x1,x2,x3,x4,_⟩ ⟨_,_,rfl,⟨p0,q0⟩,_,_,rfl,⟨p1,q1⟩,_,_,rfl,⟨p2,q2⟩,_,_,rfl,⟨p3,q3⟩,_,_,rfl,⟨p4,q4⟩,rfl⟩
  obtain rfl:=p0
  obtain rfl:=p1
  obtain rfl:=p2
  obtain rfl:=p3
  obtain⟨A4,c4,rfl⟩:=slice_cells p4
  exact⟨⟨A4,c4,rfl,p4⟩,q0,q1,q2,q3,q4⟩)
theorem op_Bat {H:Type} {enc:TypeId×Value→H}:ew enc Tryz.prog 97 (ge dN l9) :=
 dp (fun x=>⟨x.1,x.2.1,x.2.2.1,x.2.2.2.1,x.2.2.2.2.1,x.2.2.2.2.2.1,x.2.2.2.2.2.2.1,x.2.2.2.2.2.2.2.1,x.2.2.2.2.2.2.2.2.1,x.2.2.2.2.2.2.2.2.2.1,x.2.2.2.2.2.2.2.2.2.2.1,x.2.2.2.2.2.2.2.2.2.2.2.1⟩) (cy Tryz.underlying97 (by kernel_rfl) (aI 1 (by kernel_rfl) (by kernel_rfl) (ey Tryz.underlying3) (aI 1 (by kernel_rfl) (by kernel_rfl) (ey Tryz.underlying3) (aI 1 (by kernel_rfl) (by kernel_rfl) (oU Tryz.underlying4) (aI 1 (by kernel_rfl) (by kernel_rfl) (oU Tryz.underlying4) (aI 1 (by kernel_rfl) (by kernel_rfl) (oU Tryz.underlying4) (aI 1 (by kernel_rfl) (by kernel_rfl) (ey Tryz.underlying3) (aI 1 (by kernel_rfl) (by kernel_rfl) (ey Tryz.underlying3) (aI 1 (by kernel_rfl) (by kernel_rfl) (ey Tryz.underlying3) (aI 1 (by kernel_rfl) (by kernel_rfl) (ey Tryz.underlying3) (aI 1 (by kernel_rfl) (by kernel_rfl) (ey Tryz.underlying3) (aI 1 (by kernel_rfl) (by kernel_rfl) (ey Tryz.underlying3) (aI 1 (by kernel_rfl) (by kernel_rfl) (op_slice 7 88 Tryz.underlying95 (by kernel_rfl) (by kernel_rfl) (by decide) (by decide) op_Rec) (cR _)))))))))))))) (by
  rintro w S cs ⟨x0,x1,x2,x3,x4,x5,x6,x7,x8,x9,x10,x11,_⟩ ⟨_,_,rfl,⟨p0,q0⟩,_,_,rfl,⟨p1,q1⟩,_,_,rfl,⟨p2,q2⟩,_,_,rfl,⟨p3,q3⟩,_,_,rfl,⟨p4,q4⟩,_,_,rfl,⟨p5,q5⟩,_,_,rfl,⟨p6,q6⟩,_,_,rfl,⟨p7,q7⟩,_,_,rfl,⟨p8,q8⟩,_,_,rfl,⟨p9,q9⟩,_,_,rfl,⟨p10,q10⟩,_,_,rfl,⟨p11,q11⟩,rfl⟩
  obtain rfl:=p0
  obtain rfl:=p1
  obtain rfl:=p2
  obtain rfl:=p3
  obtain rfl:=p4
  obtain rfl:=p5
  obtain rfl:=p6
  obtain rfl:=p7
  obtain rfl:=p8
  obtain rfl:=p9
  obtain rfl:=p10
  obtain⟨A11,c11,rfl⟩:=slice_cells p11
  exact⟨⟨A11,c11,rfl,p11⟩,q0,q1,q2,q3,q4,q5,q6,q7,q8,q9,q10,q11⟩)
theorem vK {H:Type} {enc:TypeId×Value→H}:ew enc Tryz.prog 179 (ge bN lx) :=
 dp (fun x=>⟨x.1,x.2.1⟩) (cy Tryz.underlying179 (by kernel_rfl) (aI 1 (by kernel_rfl) (by kernel_rfl) (ey Tryz.underlying3) (aI 1 (by kernel_rfl) (by kernel_rfl) (op_slice 12 96 Tryz.underlying177 (by kernel_rfl) (by kernel_rfl) (by decide) (by decide) op_Bat) (cR _)))) (by
  rintro w S cs ⟨x0,x1,_⟩ ⟨_,_,rfl,⟨p0,q0⟩,_,_,rfl,⟨p1,q1⟩,rfl⟩
  obtain rfl:=p0
  obtain⟨A1,c1,rfl⟩:=slice_cells p1
  exact⟨⟨A1,c1,rfl,p1⟩,q0,q1⟩)
theorem tP {H:Type} {enc:TypeId×Value→H}:ew enc Tryz.prog 176 (ge aH kz) :=
 dp (fun x=>⟨x.1,x.2.1⟩) (cy Tryz.underlying176 (by kernel_rfl) (aI 1 (by kernel_rfl) (by kernel_rfl) (sB Tryz.underlying9) (aI 1 (by kernel_rfl) (by kernel_rfl) (ww 2 32 Tryz.underlying174 (by kernel_rfl) (by kernel_rfl) (by decide) (by decide) vK) (cR _)))) (by
  rintro w S cs ⟨x0,x1,_⟩ ⟨_,_,rfl,⟨p0,q0⟩,_,_,rfl,⟨p1,q1⟩,rfl⟩
  obtain rfl:=p0
  obtain⟨A1,c1,rfl⟩:=slice_cells p1
  exact⟨⟨A1,c1,rfl,p1⟩,q0,q1⟩)
theorem rj {H:Type} {enc:TypeId×Value→H}:ew enc Tryz.prog 36 (ge qx fJ) :=
 dp (fun x=>⟨x.1,x.2.1,x.2.2.1,x.2.2.2.1⟩) (cy Tryz.underlying36 (by kernel_rfl) (aI 2 (by kernel_rfl) (by kernel_rfl) xn (aI 1 (by kernel_rfl) (by kernel_rfl) (ey Tryz.underlying3) (aI 1 (by kernel_rfl) (by kernel_rfl) (ey Tryz.underlying3) (aI 1 (by kernel_rfl) (by kernel_rfl) (ww 2 40 Tryz.underlying34 (by kernel_rfl) (by kernel_rfl) (by decide) (by decide) tP) (cR _)))))) (by
  rintro w S cs ⟨x0,x1,x2,x3,_⟩ ⟨_,_,rfl,⟨p0,q0⟩,_,_,rfl,⟨p1,q1⟩,_,_,rfl,⟨p2,q2⟩,_,_,rfl,⟨p3,q3⟩,rfl⟩
  obtain rfl:=p0
  obtain rfl:=p1
  obtain rfl:=p2
  obtain⟨A3,c3,rfl⟩:=slice_cells p3
  exact⟨⟨A3,c3,rfl,p3⟩,q0,q1,q2,q3⟩)
theorem op_FrameFrame {H:Type} {enc:TypeId×Value→H}:ew enc Tryz.prog 38 (ge lY gI) :=
 dp (fun x=>⟨x.1,x.2.1,x.2.2.1,x.2.2.2.1,x.2.2.2.2.1,x.2.2.2.2.2.1⟩) (cy Tryz.underlying38 (by kernel_rfl) (aI 5 (by kernel_rfl) (by kernel_rfl) GA (aI 5 (by kernel_rfl) (by kernel_rfl) z5 (aI 4 (by kernel_rfl) (by kernel_rfl) DG (aI 4 (by kernel_rfl) (by kernel_rfl) DH (aI 1 (by kernel_rfl) (by kernel_rfl) (op_slice 5 56 Tryz.underlying33 (by kernel_rfl) (by kernel_rfl) (by decide) (by decide) z6) (aI 5 (by kernel_rfl) (by kernel_rfl) rj (cR _)))))))) (by
  rintro w S cs ⟨x0,x1,x2,x3,x4,x5,_⟩ ⟨_,_,rfl,⟨p0,q0⟩,_,_,rfl,⟨p1,q1⟩,_,_,rfl,⟨p2,q2⟩,_,_,rfl,⟨p3,q3⟩,_,_,rfl,⟨p4,q4⟩,_,_,rfl,⟨p5,q5⟩,rfl⟩
  obtain rfl:=p0
  obtain rfl:=p1
  obtain⟨A2_0,c2_0,rfl,p2_0⟩:=p2
  obtain rfl:=p3
  obtain⟨A4,c4,rfl⟩:=slice_cells p4
  obtain⟨A5_0,c5_0,rfl,p5_0⟩:=p5
  exact⟨⟨A2_0,c2_0,A4,c4,A5_0,c5_0,rfl,p2_0,p4,p5_0⟩,q0,q1,q2,q3,q4,q5⟩)
end Go.Proofs.YtheikonlgjdopaaGreat.Sl
namespace Go.Proofs.YtheikonlgjdopaaGreat.frameRows
open Go.ChangeShapes Go.WideShapes Go.ChangeAt Go.RowKit
open Go.ChangeMaps (open_string shut_string)
set_option linter.unusedVariables false
theorem own:ownKnob Tryz.prog.godebug=none:=by kernel_rfl
theorem laidOut:laidOutB Tryz.prog=true:=by kernel_rfl
theorem lifted (os:Os) (started:os.Started) (H:Type) (enc:TypeId×Value→H) :
 ReturnsInHanded {} Tryz.checked os 4 .any (Rows.frameRowsSpec.pre6 enc Tryz.prog Tryz.f4 Rows.frameRowsRow.domain false) (Rows.frameRowsSpec.post enc Tryz.prog Tryz.f4 false true false false):=by
 refine returnsInHanded_of_change_sized (C:=Tryz.checked) own started (by kernel_rfl) Tryz.func4
  (ChangeSpec.witness6 (enc:=enc) (C:=Tryz.checked) false ⟨#[],#[.slice none 0 0],[]⟩ 8 (by kernel_rfl) (by kernel_rfl) (by kernel_rfl) (by kernel_rfl)) ?_
 intro W base args ds gs before hval0 hW hcnd hsz0 _
 have hsz:(DataW.weightsEach Tryz.prog (Tryz.f4.params.toList++Rows.frameRowsSpec.plain.varTypes Tryz.prog) (ds++gs)).all (· ≤ reachBytes)=true:=hsz0
 have hval: ∀ (j:Nat) t v,Tryz.f4.params[j]? = some t→args[j]? = some v→Value.okWide Tryz.prog W .any base t v:=hval0
 have hW':=hW
 obtain⟨p,q,hA0,hV,rfl,hfz,hnd⟩:=hW
 have hA:DataW.TrodAll enc Tryz.prog W 0 (fun _=>true) true Tryz.f4.params.toList args.toList ds p:=hA0
 rw[Tryz.params4] at hA hval hsz
 obtain⟨v0,vs0,d0,ds0,p0,q0,hargs,rfl,rfl,h0,r0⟩:=trodAll_cons hA
 obtain⟨rfl,rfl,rfl⟩:=trodAll_nil r0
 obtain rfl:args= #[v0]:=by cases args; simp_all
 obtain⟨rfl,rfl⟩:=trodVars_none hV
 have k0:=h0
 have lt0: ∀ x∈p0,x.block<W.heap.size:=by obtain⟨m,hm⟩:=k0; exact DataW.trod_lt m _ _ _ hm
 obtain⟨a0,r_0,w0⟩:=Sl.opens_arg1 Tryz.underlying60 (hval 0 60 v0 rfl rfl) (Sl.op_slice 24 280 Tryz.underlying60 (by kernel_rfl) (by kernel_rfl) (by decide) (by decide) Sl.op_FrameFrame) h0 (fun x hx=>of_decide_eq_true (List.all_eq_true.1 hsz x (Sl.weights_in 0 rfl rfl hx)))
 obtain⟨A0,c0,e0⟩:=Sl.slice_cells r_0
 injection e0 with e0
 subst e0
 clear hA0 hval0 hsz0 hsz
 refine (Sl.f_l21_FrameRows_spec a0 A0 c0 true (Sl.pure_FrameRows a0 w0) (fun _=>False) W (fun _ h=>h) (Sl.RX.reads_all r_0)).mono fun e W' hP=> ?_
 obtain⟨v,A',Ns,rfl,⟨rfl,rfl,rfl⟩,hst⟩:=hP
 have bel:=Sl.St.below hst
 exact⟨_,rfl,_,_,_,[],_,[],hW',trodAll_mk1 (shut_bool Tryz.underlying4 _),(trodAll_cons_mk (Below.trod laidOut (by kernel_rfl) (of_decide_eq_true (by kernel_rfl)) k0 bel lt0) trodAll_mk0),rfl,bel.frame _,fun h=>by cases h⟩
theorem loopsF:(Tryz.f4.params.toList++Rows.frameRowsSpec.plain.varTypes Tryz.prog).any (Tryz.prog.loopsFrom ·)=Rows.frameRowsRow.loops:=by kernel_rfl
theorem closedF:joinedFacts Tryz.prog 4 Tryz.f4 Rows.frameRowsSpec Rows.frameRowsRow=true:=by
 unfold joinedFacts
 rw[loopsF]
 kernel_rfl
theorem over:Rows.frameRowsRow.holds Tryz.pinned (OpenSpec.ofChange Rows.frameRowsSpec) :=
 OpenClaim.holds_of_wide 4 Tryz.f4 rfl rfl rfl rfl rfl rfl rfl ⟨rfl,rfl,rfl,rfl,rfl⟩ rfl rfl rfl rfl rfl (by kernel_rfl) Tryz.func4 closedF
  (of_decide_eq_true (by kernel_rfl)) (by unfold Func.isWrapper; first | (rw[if_pos (by decide +kernel)]; kernel_rfl) | (rw[if_neg (by decide +kernel)]; exact⟨rfl,rfl⟩))
  (fun os started H enc _=>lifted os started H enc)
theorem proved:Rows.FrameRowsSaid:=over
end Go.Proofs.YtheikonlgjdopaaGreat.frameRows
namespace Go.Proofs.YtheikonlgjdopaaGreat
theorem frameRows_holds:Rows.FrameRowsSaid:=frameRows.proved
end Go.Proofs.YtheikonlgjdopaaGreat
