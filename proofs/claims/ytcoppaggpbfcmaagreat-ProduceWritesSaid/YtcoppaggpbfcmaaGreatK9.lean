/- ProduceWrites: for every input the law returns true, and its arguments read behind the call as they did before. -/
import Derived.Test.YtcoppaggpbfcmaaGreatRows
import Derived.WalkKit
import Derived.ProofKit
import Derived.OpenShut
import Derived.ShutString
import Derived.ChangeOld
import Derived.Below
import Derived.SizedLaws
import Derived.Test.YtcoppaggpbfcmaaGreatK8
set_option maxRecDepth 100000
set_option maxHeartbeats 4000000
set_option linter.defProp false
namespace Go.Proofs.YtcoppaggpbfcmaaGreat.Sl
open Go.RowKit
set_option linter.unusedVariables false
set_option linter.unusedSimpArgs false
def gdP (p:ay):Prop:=wI p.CX∧p.CG.length≤140737488351232∧ ∀ b,b∈p.CG→bnB b
def gdT (t:au):Prop:=t.CM.length≤140737488351232∧t.CA.length*32≤140737488351232∧ ∀ p,p∈t.CA→gdP p
def gdQ (r:aq):Prop:=wI r.CO∧r.CC.length*40≤140737488351232∧ ∀ t,t∈r.CC→gdT t
def eo (nul:Bool):List Bat→Int
 | []=>0
 | b::l=>if chk b=0 then (if b.CL=true then 12 else if b.C0=nul then 8 else eo nul l) else chk b
def km (v:Int) (nul:Bool) (l:List Bat):Int:=if l.length=0∨(v<4∧1<l.length) then 10 else eo nul l
theorem zY (r:aq) (y:Int): ∀ l:List Bat,(∀ b,b∈l→bnB b)→bc r l y=some (if eo r.CS.null l=0 then .go y else .ret (eo r.CS.null l))
 | [],_=>rfl
 | b::l,h=>by
  rw[bc,(tq (h b (.head _))).1,C9,eo,zY r y l (fun x hx=>h x (.tail _ hx))]
  by_cases c1:chk b=0
  ·rw[if_pos c1,if_pos c1]
   by_cases c2:b.CL=true
   ·rw[if_pos c2,if_pos c2]; rfl
   ·rw[if_neg c2,if_neg c2]
    by_cases c3:b.C0=r.CS.null
    ·rw[if_pos (by rw[c3]; exact beq_self_eq_true _),if_pos c3]; rfl
    ·rw[if_neg (by simpa using c3),if_neg c3]
  ·rw[if_neg c1,if_neg c1,if_neg c1]
theorem zZ (r:aq) (l:List Bat) (v:Int) (h: ∀ b,b∈l→bnB b):cv r l v=some (km v r.CS.null l):=by
 unfold cv km
 by_cases c0:l.length=0
 ·rw[if_pos (by omega),C9,if_pos rfl,if_pos (.inl c0)]
 rw[if_neg (by omega)]
 by_cases c1:v<4
 ·rw[if_pos c1]
  by_cases c2:1<l.length
  ·rw[if_pos (by omega),C9,if_pos rfl,if_pos (.inr ⟨c1,c2⟩)]
  ·rw[if_neg (by omega),C9,if_neg (by decide),zY r 0 l h,if_neg (show ¬ (l.length=0∨(v<4∧1<l.length)) from fun hh=>by rcases hh with hh | hh; exact c0 hh; exact c2 hh.2)]
   by_cases c3:eo r.CS.null l=0
   ·rw[if_pos c3,c3]; rfl
   ·rw[if_neg c3]; rfl
 ·rw[if_neg c1,C9,if_neg (by decide),zY r 0 l h,if_neg (show ¬ (l.length=0∨(v<4∧1<l.length)) from fun hh=>by rcases hh with hh | hh; exact c0 hh; exact c1 hh.1)]
  by_cases c3:eo r.CS.null l=0
  ·rw[if_pos c3,c3]; rfl
  ·rw[if_neg c3]; rfl
theorem xj (a:List Bat) (nul:Bool) (hn:a.length≤140737488351232) (y:Int): ∀ (l:List Bat) (k fuel:Nat),a.drop k=l→l.length<fuel→(∀ b,b∈l→bnB b)→ ∃ z,cF a (!nul) fuel y k=some (if eo nul l=0 then .go (y,z) else .ret (eo nul l))
 | [],k,fuel+1,h,hf,_=>by
  have:=bM h
  exact⟨k,by rw[cF,if_neg (by omega)]; rfl⟩
 | b::l,k,fuel+1,h,hf,hw=>by
  obtain⟨g1,g2,g3⟩:=aW h
  rw[Dh] at hf
  obtain⟨z,hz⟩:=xj a nul hn y l (k+1) fuel g2 (by omega) (fun x hx=>hw x (.tail _ hx))
  refine⟨z,?_⟩
  rw[cF,if_pos (by omega),g1,C9,(tq (hw b (.head _))).2,C9,eo,if_pos (show -9223372036854775808≤(k:Int)+1∧(k:Int)+1≤9223372036854775807 by omega),hz]
  by_cases c1:chk b=0
  ·rw[if_pos c1,if_pos c1]
   by_cases c2:b.CL=true
   ·rw[if_pos c2,if_pos c2]; rfl
   ·rw[if_neg c2,if_neg c2]
    by_cases c3:b.C0=nul
    ·rw[if_neg (by rw[c3]; cases nul <;> decide),if_pos c3]; rfl
    ·rw[if_pos (by cases hb:b.C0 <;> cases nul <;> simp_all),if_neg c3]
  ·rw[if_neg c1,if_neg c1,if_neg c1]
theorem uN (l:List Bat) (nul:Bool) (v:Int) (hv:v=3∨v=4) (hn:l.length≤140737488351232) (h: ∀ b,b∈l→bnB b):dG l (!nul) v=some (km v nul l):=by
 obtain⟨z,hz⟩:=xj l nul hn 0 l 0 (((l.length:Int)).toNat+1) rfl (by omega) h
 have hend:((some (if eo nul l=0 then (.go (0,z):Lp Int (Int×Nat)) else .ret (eo nul l))).bind fun e=>match e with | .ret r=>some r | .go (y33,k34)=>(some 0:Option Int))=some (eo nul l):=by
  by_cases c3:eo nul l=0
  ·rw[if_pos c3,c3]; rfl
  ·rw[if_neg c3]; rfl
 unfold dG km
 by_cases c0:l.length=0
 ·rw[if_pos (by omega),C9,if_pos rfl,if_pos (.inl c0)]
 rw[if_neg (by omega)]
 rcases hv with rfl | rfl
 ·rw[if_pos rfl]
  by_cases c2:1<l.length
  ·rw[if_pos (by omega),C9,if_pos rfl,if_pos (.inr ⟨by decide,c2⟩)]
  ·rw[if_neg (by omega),C9,if_neg (by decide),hz,if_neg (show ¬ (l.length=0∨((3:Int)<4∧1<l.length)) from fun hh=>by rcases hh with hh | hh; exact c0 hh; exact c2 hh.2)]
   exact hend
 ·rw[if_neg (by decide),C9,if_neg (by decide),hz,if_neg (show ¬ (l.length=0∨((4:Int)<4∧1<l.length)) from fun hh=>by rcases hh with hh | hh; exact c0 hh; exact absurd hh.1 (by decide))]
  exact hend
def qT:Option Int→Int→Bool
 | none,_=>true
 | some q,n=>decide (q<n)
def rqP:Option Int→List ay→Bool
 | _,[]=>true
 | p,x::l=>okn x.CX && qT p x.CX && rqP (some x.CX) l
def oJ:Option (List UInt8)→List UInt8→Bool
 | none,_=>true
 | some q,d=>Op.bytesLess q d
def mK (p:Option (List UInt8)) (t:au):Bool:= !t.CM.isEmpty && decide (t.CM.length≤32767) && oJ p t.CM && rqP none t.CA
def rqT:Option (List UInt8)→List au→Int
 | _,[]=>0
 | p,t::l=>if t.CA.length=0 then 10 else if mK p t=true then rqT (some t.CM) l else 13
def lL (l:List au):Int:=if l.length=0 then 10 else rqT none l
theorem uO (t:au) (hn:t.CA.length≤140737488351232) (y:Int): ∀ (l:List ay) (p:Option Int) (k:Nat),t.CA.drop k=l→(∀ q,q∈l→wI q.CX)→(k=0→p=none)→(0<k→ ∃ u,t.CA[k - 1]? = some u∧p=some u.CX)→cj t l y k=some (if rqP p l=true then .go y else .ret 13)
 | [],p,k,_,_,_,_=>rfl
 | x::l,p,k,h,hw,h0,h1=>by
  obtain⟨g1,g2,g3⟩:=aW h
  have hx:=hw x (.head _)
  have ih:=uO t hn y l (some x.CX) (k+1) g2 (fun q hq=>hw q (.tail _ hq)) (fun h=>absurd h (by omega)) (fun _=>⟨x,g1,rfl⟩)
  rw[cj,iX _ _ hx,C9,gl,rqP]
  by_cases c1:x.CX<0
  ·have:okn x.CX=false:=by unfold okn; simp; omega
   rw[if_pos c1,C9,if_pos rfl,this]; rfl
  rw[if_neg c1]
  by_cases c2:x.CX≤2147483647
  rotate_left
  ·have:okn x.CX=false:=by unfold okn; simp; omega
   rw[if_neg (by simp; omega),C9,if_pos rfl,this]; rfl
  have hok:okn x.CX=true:=by unfold okn; simp; omega
  rw[if_pos (by simp; omega),hok]
  rcases Nat.eq_zero_or_pos k with hk | hk
  ·rw[h0 hk,if_neg (by omega),C9,if_neg (by decide),ih]; rfl
  ·obtain⟨u,u1,rfl⟩:=h1 hk
   rw[if_pos (by omega),if_pos (by omega),if_pos (by omega),show ((k:Int) - 1).toNat=k - 1 by omega,u1,C9]
   by_cases c3:u.CX<x.CX
   ·rw[if_neg (by omega),C9,if_neg (by decide),ih]
    rw[qT,C6 c3]; rfl
   ·rw[if_pos (by omega),C9,if_pos rfl]
    rw[qT,C7 c3]; rfl
theorem uP (a:List au) (y:Int): ∀ (l:List au) (p:Option (List UInt8)) (k:Nat),a.drop k=l→a.length≤140737488351232→(∀ t,t∈l→gdT t)→(k=0→p=none)→(0<k→ ∃ u,a[k - 1]? = some u∧p=some u.CM)→bC a l y k=some (if rqT p l=0 then .go y else .ret (rqT p l))
 | [],p,k,_,_,_,_,_=>rfl
 | t::l,p,k,h,hn,hw,h0,h1=>by
  obtain⟨g1,g2,g3⟩:=aW h
  have ht:=hw t (.head _)
  have ih:=uP a y l (some t.CM) (k+1) g2 hn (fun q hq=>hw q (.tail _ hq)) (fun h=>absurd h (by omega)) (fun _=>⟨t,g1,rfl⟩)
  rw[bC,rqT]
  by_cases c0:t.CA.length=0
  ·rw[if_pos (by omega),if_pos c0]; rfl
  rw[if_neg (by omega),if_neg c0]
  have hl3:=uO t (by have:=ht.2.1; omega) y t.CA none 0 rfl (fun q hq=>(ht.2.2 q hq).1) (fun _=>rfl) (fun h=>absurd h (by omega))
  rw[hl3]
  have bad: ∀ {b:Bool},mK p t=false→b=true→((some b).bind fun y143=>if y143=true then some (Lp.ret 13:Lp Int Int) else ((some (if rqP none t.CA=true then (.go y:Lp Int Int) else .ret 13)).bind fun e=>match e with | .ret r=>some (Lp.ret r) | .go y237=>(bC a l y237 (k+1))))=some (if (if mK p t=true then rqT (some t.CM) l else 13)=0 then .go y else .ret (if mK p t=true then rqT (some t.CM) l else 13)):=by
   intro b hb hb2
   rw[hb2,C9,if_pos rfl,hb]; rfl
  have good: ∀ {b:Bool},(!t.CM.isEmpty && decide (t.CM.length≤32767) && oJ p t.CM)=true→b=false→((some b).bind fun y143=>if y143=true then some (Lp.ret 13:Lp Int Int) else ((some (if rqP none t.CA=true then (.go y:Lp Int Int) else .ret 13)).bind fun e=>match e with | .ret r=>some (Lp.ret r) | .go y237=>(bC a l y237 (k+1))))=some (if (if mK p t=true then rqT (some t.CM) l else 13)=0 then .go y else .ret (if mK p t=true then rqT (some t.CM) l else 13)):=by
   intro b hb hb2
   rw[hb2,C9,if_neg (by decide),C9]
   unfold mK
   rw[hb,Bool.true_and]
   cases rqP none t.CA
   ·rfl
   ·exact ih
  by_cases c1:t.CM = []
  ·rw[if_pos c1]
   exact bad (by unfold mK; rw[c1]; rfl) rfl
  rw[if_neg c1]
  have hne:t.CM.isEmpty=false:=by cases hh:t.CM with | nil=>exact absurd hh c1 | cons c u=>rfl
  by_cases c2:(t.CM.length:Int)>32767
  ·rw[if_pos c2]
   exact bad (by unfold mK; rw[C7 (by omega)]; simp) rfl
  rw[if_neg c2]
  rcases Nat.eq_zero_or_pos k with hk | hk
  ·rw[if_neg (by omega)]
   exact good (by rw[h0 hk,hne,C6 (by omega)]; rfl) rfl
  ·obtain⟨u,u1,rfl⟩:=h1 hk
   rw[if_pos (by omega),if_pos (by omega),if_pos (by omega),show ((k:Int) - 1).toNat=k - 1 by omega,u1,C9]
   by_cases c3:Op.bytesLess u.CM t.CM=true
   ·rw[if_pos c3]
    exact good (by rw[hne,C6 (by omega)]; exact c3) rfl
   ·rw[if_neg c3]
    exact bad (by unfold mK oJ; simp only[c3]; simp) rfl
theorem z0 (l:List au) (hn:l.length≤140737488351232) (hw: ∀ t,t∈l→gdT t):fw l=some (lL l):=by
 unfold fw lL
 by_cases c0:l.length=0
 ·rw[if_pos (by omega),if_pos c0]
 ·rw[if_neg (by omega),if_neg c0,uP l 0 l none 0 rfl hn hw (fun _=>rfl) (fun h=>absurd h (by omega))]
  by_cases c:rqT none l=0
  ·rw[if_pos c,c]; rfl
  ·rw[if_neg c]; rfl
def qU (t:au):Top:=⟨t.CM,t.CA.map (·.CX)⟩
theorem uQ (t:au) (hn:t.CA.length*8≤140737488351232): ∀ (l:List ay) (acc:List Int) (k fuel:Nat),t.CA.drop k=l→l.length<fuel→acc.length=k→ ∃ z,cU (ofT t) fuel k acc=some (z,acc++l.map (·.CX))
 | [],acc,k,fuel+1,h,hf,_=>by
  have:=bM h
  exact⟨k,by rw[cU,if_neg (by show ¬ (k:Int)<((t.CA.map ofP).length:Int); rw[Dy]; omega),List.map_nil,DS]⟩
 | x::l,acc,k,fuel+1,h,hf,hk=>by
  obtain⟨g1,g2,g3⟩:=aW h
  rw[Dh] at hf
  obtain⟨z,hz⟩:=uQ t hn l (acc ++ [x.CX]) (k+1) fuel g2 (by omega) (by rw[Db,Ee,hk])
  have e1:(ofT t).CA[k]? = some (ofP x):=by show (t.CA.map ofP)[k]? = _; rw[List.getElem?_map,g1]; rfl
  refine⟨z,?_⟩
  rw[cU,if_pos (by show (k:Int)<((t.CA.map ofP).length:Int); rw[Dy]; omega),e1,C9,if_pos (by omega),if_pos (by omega)]
  show cU (ofT t) fuel (k+1) (acc ++ [x.CX])= _
  rw[hz,Df]
  rfl
theorem z3 (t:au) (hn:t.CA.length*8≤140737488351232):ir (ofT t)=some (qU t):=by
 have e4:(ofT t).CA.length=t.CA.length:=Dy _
 obtain⟨z,hz⟩:=uQ t hn t.CA [] 0 (((t.CA.length:Int)).toNat+1) rfl (by omega) rfl
 unfold ir
 rw[e4,hz,C9,Ds]
 rfl
theorem wb: ∀ (l:List ay) (p:Option Int),rqP p l=((l.map (·.CX)).all okn && up ltI p (l.map (·.CX)))
 | [],p=>by cases p <;> rfl
 | x::l,none=>by
  rw[rqP,wb l,List.map_cons,List.all_cons,up,qT]
  cases okn x.CX <;> cases (l.map (·.CX)).all okn <;> rfl
 | x::l,some q=>by
  rw[rqP,wb l,List.map_cons,List.all_cons,up,qT,ltI]
  cases okn x.CX <;> cases (l.map (·.CX)).all okn <;> cases decide (q<x.CX) <;> rfl
def mo:Option (List UInt8)→List (List UInt8)→Option (List UInt8)
 | p,[]=>p
 | _,x::l=>mo (some x) l
theorem tu: ∀ (l:List (List UInt8)) (p:Option (List UInt8)) (x:List UInt8),up Op.bytesLess p (l ++ [x])=(up Op.bytesLess p l && oJ (mo p l) x)
 | [],none,x=>rfl
 | [],some q,x=>by show (Op.bytesLess q x && true)=(true && Op.bytesLess q x); rw[Bool.and_true,Bool.true_and]
 | y::l,none,x=>by
  show up Op.bytesLess (some y) (l ++ [x])= _
  rw[tu l (some y) x]; rfl
 | y::l,some q,x=>by
  show (Op.bytesLess q y && up Op.bytesLess (some y) (l ++ [x]))= _
  rw[tu l (some y) x,← Bool.and_assoc]; rfl
theorem qV: ∀ (l:List (List UInt8)) (p:Option (List UInt8)) (x:List UInt8),mo p (l ++ [x])=some x
 | [],p,x=>rfl
 | y::l,p,x=>qV l (some y) x
theorem sx (l:List Top) (t:au) (h:wa l=true) (hp:t.CA.length≠0):wa (l ++ [qU t])=mK (mo none (l.map (·.CM))) t:=by
 have h2:l.all rB=true∧up Op.bytesLess none (l.map (·.CM))=true:=by simpa [wa] using h
 have h3:(t.CA.map (·.CX)).isEmpty=false:=by cases hh:t.CA with | nil=>exact absurd (by rw[hh]; rfl) hp | cons c u=>rfl
 unfold wa mK
 rw[List.all_append,h2.1,List.map_append,List.map_singleton,tu,h2.2,wb]
 simp only[List.all_cons,List.all_nil,Bool.and_true,Bool.true_and,rB,okps]
 show (!t.CM.isEmpty && decide (t.CM.length≤32767) && ((t.CA.map (·.CX)).all okn && up ltI none (t.CA.map (·.CX)) && !(t.CA.map (·.CX)).isEmpty) && oJ (mo none (l.map (·.CM))) t.CM)= _
 rw[h3]
 cases t.CM.isEmpty <;> cases decide (t.CM.length≤32767) <;> cases oJ (mo none (l.map (·.CM))) t.CM <;> cases (t.CA.map (·.CX)).all okn <;> cases up ltI none (t.CA.map (·.CX)) <;> rfl
theorem qW (a:List au) (hn:a.length*40≤140737488351232) (y:Int): ∀ (l:List au) (acc:List Top) (k fuel:Nat),a.drop k=l→l.length<fuel→acc.length=k→(∀ t,t∈l→gdT t)→(∀ t,t∈acc→t.CA.length≤140737488355328∧t.CM.length≤140737488355328)→wa acc=true→ ∃ z,dF (a.map ofT) fuel y acc k=some (if rqT (mo none (acc.map (·.CM))) l=0 then .go (y,z) else .ret (rqT (mo none (acc.map (·.CM))) l))
 | [],acc,k,fuel+1,h,hf,_,_,_,_=>by
  have:=bM h
  exact⟨(acc,k),by rw[dF,if_neg (by rw[Dy]; omega)]; rfl⟩
 | t::l,acc,k,fuel+1,h,hf,hk,hw,ha,ho=>by
  obtain⟨g1,g2,g3⟩:=aW h
  obtain⟨t1,t2,t3⟩:=hw t (.head _)
  rw[Dh] at hf
  have e1:(a.map ofT)[k]? = some (ofT t):=by rw[List.getElem?_map,g1]; rfl
  have e4:(ofT t).CA.length=t.CA.length:=Dy _
  rw[dF,if_pos (by rw[Dy]; omega),e1,C9,e4,rqT]
  by_cases c0:t.CA.length=0
  ·rw[if_pos (by omega),if_pos c0]
   exact⟨(acc,k),rfl⟩
  have ha2: ∀ u,u∈acc ++ [qU t]→u.CA.length≤140737488355328∧u.CM.length≤140737488355328:=fun u hu=>by
   rcases List.mem_append.1 hu with hu | hu
   ·exact ha u hu
   ·rw[List.mem_singleton.1 hu]
    refine⟨?_,by show t.CM.length≤ _; omega⟩
    show (t.CA.map _).length≤ _
    rw[Dy]; omega
  rw[if_neg (by omega),if_neg c0,z3 t (by omega),C9,if_pos (by omega),zX _ (by rw[Db,Ee]; omega) ha2,C9,sx acc t ho c0]
  by_cases c1:mK (mo none (acc.map (·.CM))) t=true
  ·obtain⟨z,hz⟩:=qW a hn y l (acc ++ [qU t]) (k+1) fuel g2 (by omega) (by rw[Db,Ee,hk]) (fun u hu=>hw u (.tail _ hu)) ha2 (by rw[sx acc t ho c0]; exact c1)
   have e5:mo none ((acc ++ [qU t]).map (·.CM))=some t.CM:=by rw[List.map_append,List.map_singleton,qV]; rfl
   rw[e5] at hz
   exact⟨z,by rw[if_pos c1,if_pos c1,if_pos (by omega),hz]⟩
  ·exact⟨(acc,k),by rw[if_neg c1,if_neg c1]; rfl⟩
theorem wc (l:List au) (hn:l.length*40≤140737488351232) (hw: ∀ t,t∈l→gdT t):gU (l.map ofT)=some (lL l):=by
 unfold gU lL
 rw[Dy]
 by_cases c0:l.length=0
 ·rw[if_pos (by omega),if_pos c0]
 ·obtain⟨z,hz⟩:=qW l hn 0 l [] 0 (((l.length:Int)).toNat+1) rfl (by omega) rfl hw (fun t h=>nomatch h) rfl
  rw[if_neg (by omega),if_neg c0,hz]
  show ((some (if rqT none l=0 then _ else _)).bind _)= _
  by_cases c:rqT none l=0
  ·rw[if_pos c,c]; rfl
  ·rw[if_neg c]; rfl
def eQ (v:Int) (nul:Bool):List ay→Int
 | []=>0
 | p::l=>if km v nul p.CG=0 then eQ v nul l else km v nul p.CG
def fF (v:Int) (nul:Bool):List au→Int
 | []=>0
 | t::l=>if eQ v nul t.CA=0 then fF v nul l else eQ v nul t.CA
def rC (r:aq):Prop:=aT r.CS=true∧(r.CS.null=true∨kt r.CS.data=true)
def qX (r:aq):Prop:= -1≤r.CZ∧r.CZ≤1∧0≤r.CO∧r.CO≤2147483647
instance (r:aq):Decidable (rC r):=by unfold rC; infer_instance
instance (r:aq):Decidable (qX r):=by unfold qX; infer_instance
def mL (v:Int) (r:aq):Int:=if rC r then (if qX r then (if lL r.CC=0 then fF v r.CS.null r.CC else lL r.CC) else 11) else 4
theorem pc_l2 (r:aq) (v y:Int): ∀ l:List ay,(∀ p,p∈l→gdP p)→bl r v l y=some (if eQ v r.CS.null l=0 then .go y else .ret (eQ v r.CS.null l))
 | [],_=>rfl
 | p::l,h=>by
  rw[bl,zZ r p.CG v (h p (.head _)).2.2,C9,eQ,pc_l2 r v y l (fun q hq=>h q (.tail _ hq))]
  by_cases c:km v r.CS.null p.CG=0
  ·rw[if_pos c,if_pos c]
  ·rw[if_neg c,if_neg c,if_neg c]
theorem pc_l1 (r:aq) (v y:Int): ∀ l:List au,(∀ t,t∈l→gdT t)→bm r v l y=some (if fF v r.CS.null l=0 then .go y else .ret (fF v r.CS.null l))
 | [],_=>rfl
 | t::l,h=>by
  rw[bm,pc_l2 r v y t.CA (h t (.head _)).2.2,C9,fF]
  by_cases c:eQ v r.CS.null t.CA=0
  ·rw[if_pos c,if_pos c]
   dsimp only
   rw[pc_l1 r v y l (fun q hq=>h q (.tail _ hq))]
  ·rw[if_neg c,if_neg c,if_neg c]
theorem wd (r:aq) (v:Int) (h:gdQ r):aR r v=some (mL v r):=by
 unfold aR mL
 have h1:(((nQ r.CS).bind fun x12=>if x12=true then (if r.CS.null=true then some false else ((ng r.CS.data).bind fun x16=>if x16=true then some false else some true)) else some true):Option Bool)=some (decide (¬ rC r)):=by
  rw[rT,C9,vy]
  by_cases c1:aT r.CS=true
  ·rw[if_pos c1]
   by_cases c2:r.CS.null=true
   ·rw[if_pos c2]; exact congrArg some (Eq.symm (C7 (fun hh=>hh ⟨c1,.inl c2⟩)))
   ·rw[if_neg c2,C9]
    by_cases c3:kt r.CS.data=true
    ·rw[if_pos c3]; exact congrArg some (Eq.symm (C7 (fun hh=>hh ⟨c1,.inr c3⟩)))
    ·rw[if_neg c3]; exact congrArg some (Eq.symm (C6 (fun hh=>hh.2.elim c2 c3)))
  ·rw[if_neg c1]; exact congrArg some (Eq.symm (C6 (fun hh=>c1 hh.1)))
 have h2:((if r.CZ<(-1) then some true else (if r.CZ>1 then some true else (if r.CO<0 then some true else ((j6 r.CO 4).bind fun x30=>if x30=true then some false else some true)))):Option Bool)=some (decide (¬ qX r)):=by
  rw[iX _ _ h.1,C9,gl]
  unfold qX
  by_cases c1:r.CZ < -1
  ·rw[if_pos c1,C6 (by omega)]
  rw[if_neg c1]
  by_cases c2:r.CZ>1
  ·rw[if_pos c2,C6 (by omega)]
  rw[if_neg c2]
  by_cases c3:r.CO<0
  ·rw[if_pos c3,C6 (by omega)]
  rw[if_neg c3]
  by_cases c4:r.CO≤2147483647
  ·rw[if_pos (C6 (by omega)),C7 (by omega)]
  ·rw[if_neg (by rw[decide_eq_true_eq]; omega),C6 (by omega)]
 rw[h1,C9]
 by_cases c1:rC r
 rotate_left
 ·rw[C6 c1,if_pos rfl,if_neg c1]
 rw[C7 (fun hh=>hh c1),if_neg (by decide),if_pos c1,h2,C9]
 by_cases c2:qX r
 rotate_left
 ·rw[C6 c2,if_pos rfl,if_neg c2]
 rw[C7 (fun hh=>hh c2),if_neg (by decide),if_pos c2,z0 _ (by have:=h.2.1; omega) h.2.2,C9]
 by_cases c3:lL r.CC=0
 ·rw[if_pos c3,if_pos c3,pc_l1 r v 0 _ h.2.2]
  by_cases c4:fF v r.CS.null r.CC=0
  ·rw[if_pos c4,c4]; rfl
  ·rw[if_neg c4]; rfl
 ·rw[if_neg c3,if_neg c3]
theorem rc_l2 (r:aq) (v:Int) (hv:v=3∨v=4) (t:au) (j:Nat) (hj:r.CC[j]? = some t) (hn:t.CA.length≤140737488351232) (y:Int): ∀ (l:List ay) (k fuel:Nat),t.CA.drop k=l→l.length<fuel→(∀ p,p∈l→gdP p)→ ∃ z,cx (ofQ r) v j fuel y k=some (if eQ v r.CS.null l=0 then .go (y,z) else .ret (eQ v r.CS.null l))
 | [],k,fuel+1,h,hf,_=>by
  have:=bM h
  have e1:(ofQ r).CC[j]? = some (ofT t):=by show (r.CC.map ofT)[j]? = _; rw[List.getElem?_map,hj]; rfl
  exact⟨k,by rw[cx,e1,C9,if_neg (by show ¬ (k:Int)<((t.CA.map ofP).length:Int); rw[Dy]; omega)]; rfl⟩
 | p::l,k,fuel+1,h,hf,hw=>by
  obtain⟨g1,g2,g3⟩:=aW h
  obtain⟨p1,p2,p3⟩:=hw p (.head _)
  rw[Dh] at hf
  obtain⟨z,hz⟩:=rc_l2 r v hv t j hj hn y l (k+1) fuel g2 (by omega) (fun x hx=>hw x (.tail _ hx))
  have e1:(ofQ r).CC[j]? = some (ofT t):=by show (r.CC.map ofT)[j]? = _; rw[List.getElem?_map,hj]; rfl
  have e2:(ofT t).CA[k]? = some (ofP p):=by show (t.CA.map ofP)[k]? = _; rw[List.getElem?_map,g1]; rfl
  have R5: -9223372036854775808≤(k:Int)+1∧(k:Int)+1≤9223372036854775807:=by omega
  have hb:=fun nul=>uN p.CG nul v hv p2 p3
  refine⟨z,?_⟩
  rw[cx,e1,C9,if_pos (by show (k:Int)<((t.CA.map ofP).length:Int); rw[Dy]; omega),e2,C9,eQ]
  show (if r.CS.null=true then ((dG p.CG false v).bind _) else ((dG p.CG true v).bind _))= _
  by_cases c:r.CS.null=true
  ·have h1:=hb true
   rw[Bool.not_true] at h1
   rw[if_pos c,h1,C9,if_pos R5,hz,c]
   by_cases c2:km v true p.CG=0
   ·rw[if_pos c2,if_pos c2]
   ·rw[if_neg c2,if_neg c2,if_neg c2]
  ·have h1:=hb false
   rw[Bool.not_false] at h1
   have c':r.CS.null=false:=by simpa using c
   rw[if_neg c,h1,C9,if_pos R5,hz,c']
   by_cases c2:km v false p.CG=0
   ·rw[if_pos c2,if_pos c2]
   ·rw[if_neg c2,if_neg c2,if_neg c2]
theorem rc_l1 (r:aq) (v:Int) (hv:v=3∨v=4) (hn:r.CC.length≤140737488351232) (y:Int): ∀ (l:List au) (k fuel:Nat),r.CC.drop k=l→l.length<fuel→(∀ t,t∈l→gdT t)→ ∃ z,cy (ofQ r) v fuel y k=some (if fF v r.CS.null l=0 then .go (y,z) else .ret (fF v r.CS.null l))
 | [],k,fuel+1,h,hf,_=>by
  have:=bM h
  exact⟨k,by rw[cy,if_neg (by show ¬ (k:Int)<((r.CC.map ofT).length:Int); rw[Dy]; omega)]; rfl⟩
 | t::l,k,fuel+1,h,hf,hw=>by
  obtain⟨g1,g2,g3⟩:=aW h
  obtain⟨t1,t2,t3⟩:=hw t (.head _)
  rw[Dh] at hf
  obtain⟨z,hz⟩:=rc_l1 r v hv hn y l (k+1) fuel g2 (by omega) (fun x hx=>hw x (.tail _ hx))
  obtain⟨z2,hz2⟩:=rc_l2 r v hv t k g1 (by omega) y t.CA 0 (t.CA.length+1) rfl (by omega) t3
  have e1:(ofQ r).CC[k]? = some (ofT t):=by show (r.CC.map ofT)[k]? = _; rw[List.getElem?_map,g1]; rfl
  have e3:(((ofQ r).CC[k]?).map (fun x37=>((x37.CA.length:Int)).toNat+1)).getD 0=t.CA.length+1:=by
   rw[e1]
   show (((t.CA.map ofP).length:Int)).toNat+1= _
   rw[Dy]; omega
  refine⟨z,?_⟩
  rw[cy,if_pos (by show (k:Int)<((r.CC.map ofT).length:Int); rw[Dy]; omega),e3,hz2,C9,fF]
  by_cases c:eQ v r.CS.null t.CA=0
  ·rw[if_pos c,if_pos c]
   dsimp only
   rw[if_pos (show -9223372036854775808≤(k:Int)+1∧(k:Int)+1≤9223372036854775807 by omega),hz]
  ·rw[if_neg c,if_neg c,if_neg c]
theorem qY (d:List UInt8):kt d=true↔d ≠ []∧d.length≤32767:=by
 unfold kt
 cases d with
 | nil=>simp
 | cons c d=>simp; omega
theorem qZ (n:Bool) (d:List UInt8) (b:Bl) (h1:b.null=n) (h2:b.data=d):aT b=true↔(n=true→d = []):=by
 unfold aT
 rw[h1,h2]
 cases n <;> cases d <;> simp
theorem z4 (r:aq) (v:Int) (hv:v=3∨v=4) (h:gdQ r):iu (ofQ r) v=some (mL v r):=by
 have e4:(ofQ r).CC.length=r.CC.length:=Dy _
 unfold iu mL
 rw[e4]
 have h1:((if r.CS.null=true then (if r.CS.data = [] then some false else some true) else (if (r.CS.data.length:Int)<1 then some true else (if (r.CS.data.length:Int)>32767 then some true else some false))):Option Bool)=some (decide (¬ rC r)):=by
  have hk:=qY r.CS.data
  have hb:=qZ r.CS.null r.CS.data r.CS rfl rfl
  by_cases c2:r.CS.null=true
  ·rw[if_pos c2]
   by_cases c3:r.CS.data = []
   ·rw[if_pos c3]
    exact congrArg some (Eq.symm (C7 (fun hh=>hh ⟨hb.2 (fun _=>c3),.inl c2⟩)))
   ·rw[if_neg c3]
    exact congrArg some (Eq.symm (C6 (fun hh=>c3 (hb.1 hh.1 c2))))
  ·rw[if_neg c2]
   by_cases c3:r.CS.data = []
   ·rw[if_pos (by rw[c3]; decide)]
    exact congrArg some (Eq.symm (C6 (fun hh=>hh.2.elim c2 (fun h=>(hk.1 h).1 c3))))
   ·have hl:0<r.CS.data.length:=List.length_pos_iff.2 c3
    rw[if_neg (by omega)]
    by_cases c4:(r.CS.data.length:Int)>32767
    ·rw[if_pos c4]
     exact congrArg some (Eq.symm (C6 (fun hh=>hh.2.elim c2 (fun h=>by have:=(hk.1 h).2; omega))))
    ·rw[if_neg c4]
     exact congrArg some (Eq.symm (C7 (fun hh=>hh ⟨hb.2 (fun h=>absurd h c2),.inr (hk.2 ⟨c3,by omega⟩)⟩)))
 have h2:((if r.CZ<(-1) then some true else (if r.CZ>1 then some true else (if r.CO<0 then some true else (if r.CO>2147483647 then some true else some false)))):Option Bool)=some (decide (¬ qX r)):=by
  unfold qX
  by_cases c1:r.CZ < -1
  ·rw[if_pos c1,C6 (by omega)]
  rw[if_neg c1]
  by_cases c2:r.CZ>1
  ·rw[if_pos c2,C6 (by omega)]
  rw[if_neg c2]
  by_cases c3:r.CO<0
  ·rw[if_pos c3,C6 (by omega)]
  rw[if_neg c3]
  by_cases c4:r.CO>2147483647
  ·rw[if_pos c4,C6 (by omega)]
  ·rw[if_neg c4,C7 (by omega)]
 show ((if r.CS.null=true then (if r.CS.data = [] then some false else some true) else (if (r.CS.data.length:Int)<1 then some true else (if (r.CS.data.length:Int)>32767 then some true else some false))).bind fun y7=>if y7=true then some 4 else ((if r.CZ<(-1) then some true else (if r.CZ>1 then some true else (if r.CO<0 then some true else (if r.CO>2147483647 then some true else some false)))).bind fun y17=>if y17=true then some 11 else ((gU (r.CC.map ofT)).bind fun x24=>if x24=0 then ((cy (ofQ r) v (((r.CC.length:Int)).toNat+1) 0 0).bind fun e=>match e with | .ret r=>some r | .go (y72,k73)=>some 0) else some x24)))= _
 rw[h1,C9]
 by_cases c1:rC r
 rotate_left
 ·rw[C6 c1,if_pos rfl,if_neg c1]
 rw[C7 (fun hh=>hh c1),if_neg (by decide),if_pos c1,h2,C9]
 by_cases c2:qX r
 rotate_left
 ·rw[C6 c2,if_pos rfl,if_neg c2]
 rw[C7 (fun hh=>hh c2),if_neg (by decide),if_pos c2,wc _ h.2.1 h.2.2,C9]
 by_cases c3:lL r.CC=0
 ·obtain⟨z,hz⟩:=rc_l1 r v hv (by have:=h.2.1; omega) 0 r.CC 0 (((r.CC.length:Int)).toNat+1) rfl (by omega) h.2.2
  rw[if_pos c3,if_pos c3,hz]
  by_cases c4:fF v r.CS.null r.CC=0
  ·rw[if_pos c4,c4]; rfl
  ·rw[if_neg c4]; rfl
 ·rw[if_neg c3,if_neg c3]
def nF:Nat→Pr (List Bat)
 | 0=> .ret []
 | n+1=>fun s q=>if q=s.length then .ok ([],q) else (yk.bind fun b=>(nF n).bind fun l=> .ret (b::l)) s q
theorem lX {b:Bat} (h:okB b):61≤(da b).length:=by rw[lV h]; omega
theorem sy: ∀ (n:Nat) (s:List UInt8) (q:Nat) (l:List Bat) (r:Nat),q≤s.length→s.length - q≤n→nF n s q= .ok (l,r)→r=s.length∧s.drop q=aQ da l∧ ∀ b,b∈l→okB b
 | 0,s,q,l,r,hq,hn,h=>by
  injection h with h
  obtain⟨rfl,rfl⟩:=DK h
  exact⟨by omega,by rw[List.drop_eq_nil_of_le (by omega)]; rfl,fun b h=>nomatch h⟩
 | n+1,s,q,l,r,hq,hn,h=>by
  unfold nF at h
  by_cases he:q=s.length
  ·rw[if_pos he] at h
   injection h with h
   obtain⟨rfl,rfl⟩:=DK h
   exact⟨he,by rw[List.drop_eq_nil_of_le (by omega)]; rfl,fun b h=>nomatch h⟩
  rw[if_neg he] at h
  obtain⟨b,m,h1,h2⟩:=Pr.bind_ok h
  obtain⟨bs,m2,h3,h4⟩:=Pr.bind_ok h2
  injection h4 with h4
  obtain⟨rfl,rfl⟩:=DK h4
  obtain⟨a1,a2,a3,a4,a5⟩:=vZ.spell s q b m hq h1
  have hp:=lX a5
  obtain⟨b1,b2,b3⟩:=sy n s m bs m2 a2 (by omega) h3
  refine⟨b1,?_,fun y hy=> ?_⟩
  ·have e:s.drop q=da b++s.drop m:=by
    have e1:s=s.take q++da b++s.drop m:=by rw[← a4,List.take_append_drop]
    conv=>lhs; rw[e1,Df,List.drop_left' (by rw[D3]; omega)]
   rw[e,b2,aQ]
  ·rcases List.mem_cons.1 hy with rfl | hy
   ·exact a5
   ·exact b3 y hy
theorem uR: ∀ (l:List Bat) (n:Nat) (s:List UInt8) (q:Nat),q≤s.length→s.length - q≤n→(∀ b,b∈l→okB b)→s.drop q=aQ da l→nF n s q= .ok (l,s.length)
 | [],n,s,q,hq,hn,_,hd=>by
  have hl:=congrArg List.length hd
  rw[Dn] at hl
  have hl:s.length - q=0:=hl
  have:q=s.length:=by omega
  subst this
  cases n with
  | zero=>rfl
  | succ n=>exact if_pos rfl
 | b::l,n,s,q,hq,hn,ho,hd=>by
  have hl:=congrArg List.length hd
  rw[aQ] at hd
  rw[Dn,aQ,Db] at hl
  have hp:=lX (ho b (.head _))
  cases n with
  | zero=>omega
  | succ n =>
   have h1:=vZ.back s _ q b hq (ho b (.head _)) hd
   have h2:=uR l n s (q+(da b).length) (by omega) (by omega) (fun y hy=>ho y (.tail _ hy)) (bZ hd)
   show (if q=s.length then _ else _)= _
   rw[if_neg (by omega),Pr.bind_of h1,Pr.bind_of h2]
   rfl
theorem kJ {α:Type} {enc:α→List UInt8}: ∀ (l:List α) (x:α),x∈l→(enc x).length≤(aQ enc l).length
 | c::l,x,h=>by
  rw[aQ,Db]
  rcases List.mem_cons.1 h with rfl | h
  ·omega
  ·have:=kJ (enc:=enc) l x h; omega
theorem yo {l:List Bat} (h: ∀ b,b∈l→okB b):l.length*61≤(aQ da l).length:=kA (ok:=okB) (fun x hx=>lX hx) l h
def oK:Pr (List UInt8):=lz (mF 4)
theorem uS:Sp oK (fun d=>be (d.length:Int) 4++d) (fun d=>bj (d.length:Int) 4=true∧aT ⟨false,d⟩=true):=tf (ik 4 (by decide) (by decide))
def ra (i:Int) (d:List UInt8):Pr ay:=match nF d.length d 0 with | .error e=> .err e | .ok (l,_)=> .ret ⟨i,l⟩
def kN:Pr ay:=(kO 4).bind fun i=>oK.bind fun d=>ra i d
def ed (p:ay):List UInt8:=be p.CX 4++(be ((aQ da p.CG).length:Int) 4++aQ da p.CG)
def we (p:ay):Prop:=bj p.CX 4=true∧bj ((aQ da p.CG).length:Int) 4=true∧ ∀ b,b∈p.CG→okB b
theorem z5 {i:Int} {d s:List UInt8} {q r:Nat} {p:ay} (h:ra i d s q= .ok (p,r)):r=q∧p.CX=i∧d=aQ da p.CG∧ ∀ b,b∈p.CG→okB b:=by
 unfold ra at h
 cases ha:nF d.length d 0 with
 | error e=>rw[ha] at h; exact nomatch h
 | ok x =>
  rw[ha] at h
  injection h with h
  obtain⟨rfl,rfl⟩:=DK h
  obtain⟨a1,a2,a3⟩:=sy _ d 0 x.1 x.2 (DV _) (by omega) ha
  rw[List.drop_zero] at a2
  exact⟨rfl,rfl,a2,a3⟩
theorem z6 (i:Int) {l:List Bat} (h: ∀ b,b∈l→okB b) (s:List UInt8) (q:Nat):ra i (aQ da l) s q= .ok (⟨i,l⟩,q):=by
 unfold ra
 rw[uR l _ (aQ da l) 0 (DV _) (by omega) h List.drop_zero]
 rfl
theorem z7:Sp kN ed we:=by
 refine⟨fun s q a r hq h=> ?_,fun s t q a hq ha h=> ?_⟩
 ·obtain⟨i,q1,h1,h⟩:=Pr.bind_ok h
  obtain⟨d,q2,h2,h⟩:=Pr.bind_ok h
  obtain⟨rfl,c2,rfl,c4⟩:=z5 h
  obtain⟨a1,a2,a3,a4,a5⟩:=(fZ 4 (by decide) (by decide)).spell _ _ _ _ hq h1
  obtain⟨b1,b2,b3,b4,b5⟩:=uS.spell _ _ _ _ a2 h2
  refine⟨by omega,b2,by simp only[ed,Db,az] at *; omega,by rw[b4,a4]; simp only[ed,c2,Df],by rw[c2]; exact a5,b5.1,c4⟩
 ·obtain⟨a1,a2,a3⟩:=ha
  have hl:=congrArg List.length h
  rw[ed,Df] at h
  have g1:=(fZ 4 (by decide) (by decide)).back _ _ _ _ hq a1 h
  have h:=bZ h
  have g2:=uS.back _ _ _ _ (by simp only[ed,Dn,Db,az] at *; omega) ⟨a2,rfl⟩ h
  rw[kN,Pr.bind_of g1,Pr.bind_of g2,z6 _ a3]
  simp only[ed,Db,Nat.add_assoc]
theorem uT (p:ay) (h:we p):8≤(ed p).length:=by simp only[ed,Db,az]; omega
def fV:Pr au:=wF.bind fun nm=>(oh 4 8 kN).bind fun ps=> .ret ⟨nm,ps⟩
def eC (t:au):List UInt8:=(be (t.CM.length:Int) 2++t.CM)++(be (t.CA.length:Int) 4++aQ ed t.CA)
def tv (t:au):Prop:=bj (t.CM.length:Int) 2=true∧bj (t.CA.length:Int) 4=true∧ ∀ p,p∈t.CA→we p
theorem sA:Sp (oh 4 8 kN) (fun l=>be (l.length:Int) 4++aQ ed l) (fun l=>bj (l.length:Int) 4=true∧ ∀ p,p∈l→we p):=zg 4 8 (by decide) (by decide) z7 uT
theorem yp:Sp fV eC tv:=by
 refine⟨fun s q a r hq h=> ?_,fun s t q a hq ha h=> ?_⟩
 ·obtain⟨k,q1,h1,h⟩:=Pr.bind_ok h
  obtain⟨v,q2,h2,h⟩:=Pr.bind_ok h
  injection h with h
  obtain⟨rfl,rfl⟩:=DK h
  obtain⟨a1,a2,a3,a4,a5⟩:=tg.spell _ _ _ _ hq h1
  obtain⟨b1,b2,b3,b4,b5⟩:=sA.spell _ _ _ _ a2 h2
  exact⟨by omega,b2,by simp only[eC,Db] at *; omega,by rw[b4,a4]; simp only[eC,Df],a5.1,b5⟩
 ·obtain⟨a1,a2,a3⟩:=ha
  have hl:=congrArg List.length h
  rw[eC,Df] at h
  have g1:=tg.back _ _ _ _ hq ⟨a1,rfl⟩ h
  have h:=bZ h
  have g2:=sA.back _ _ _ _ (by simp only[eC,Dn,Db,az] at *; omega) ⟨a2,a3⟩ h
  rw[fV,Pr.bind_of g1,Pr.bind_of g2]
  simp only[Pr.ret,eC,Db,Nat.add_assoc]
theorem rc (t:au) (h:tv t):6≤(eC t).length:=by simp only[eC,Db,az]; omega
theorem mM:Sp (oh 4 6 fV) (fun l=>be (l.length:Int) 4++aQ eC l) (fun l=>bj (l.length:Int) 4=true∧ ∀ t,t∈l→tv t):=zg 4 6 (by decide) (by decide) yp rc
def rD (v:Int):Pr aq:=(mF 2).bind fun id=>(kO 2).bind fun a=>(kO 4).bind fun t=>(oh 4 6 fV).bind fun l=>if mL v ⟨id,a,t,l⟩=0 then .ret ⟨id,a,t,l⟩ else .err (mL v ⟨id,a,t,l⟩)
def kV (r:aq):List UInt8:=(be (bH r.CS) 2++r.CS.data)++(be r.CZ 2++(be r.CO 4++(be (r.CC.length:Int) 4++aQ eC r.CC)))
def okQ (v:Int) (r:aq):Prop:=(bj (bH r.CS) 2=true∧aT r.CS=true)∧bj r.CZ 2=true∧bj r.CO 4=true∧(bj (r.CC.length:Int) 4=true∧ ∀ t,t∈r.CC→tv t)∧mL v r=0
theorem Sp_prq (v:Int):Sp (rD v) kV (okQ v):=by
 refine⟨fun s q a r hq h=> ?_,fun s t q a hq ha h=> ?_⟩
 ·obtain⟨id,q1,h1,h⟩:=Pr.bind_ok h
  obtain⟨ac,q2,h2,h⟩:=Pr.bind_ok h
  obtain⟨tm,q3,h3,h⟩:=Pr.bind_ok h
  obtain⟨l,q4,h4,h⟩:=Pr.bind_ok h
  by_cases hc:mL v ⟨id,ac,tm,l⟩=0
  rotate_left
  ·rw[if_neg hc] at h
   exact nomatch h
  rw[if_pos hc] at h
  injection h with h
  obtain⟨rfl,rfl⟩:=DK h
  obtain⟨a1,a2,a3,a4,a5⟩:=(ik 2 (by decide) (by decide)).spell _ _ _ _ hq h1
  obtain⟨b1,b2,b3,b4,b5⟩:=(fZ 2 (by decide) (by decide)).spell _ _ _ _ a2 h2
  obtain⟨c1,c2,c3,c4,c5⟩:=(fZ 4 (by decide) (by decide)).spell _ _ _ _ b2 h3
  obtain⟨d1,d2,d3,d4,d5⟩:=mM.spell _ _ _ _ c2 h4
  exact⟨by omega,d2,by simp only[kV,Db] at *; omega,by rw[d4,c4,b4,a4]; simp only[kV,Df],a5,b5,c5,d5,hc⟩
 ·obtain⟨a1,a2,a3,a4,a5⟩:=ha
  have hl:=congrArg List.length h
  simp only[kV,Df] at h
  rw[← Df] at h
  simp only[kV,Dn,Db,az] at hl
  have g1:=(ik 2 (by decide) (by decide)).back _ _ _ _ hq a1 h
  have h:=bZ h
  have g2:=(fZ 2 (by decide) (by decide)).back _ _ _ _ (by simp only[Db,az] at *; omega) a2 h
  have h:=bZ h
  have g3:=(fZ 4 (by decide) (by decide)).back _ _ _ _ (by simp only[Db,az] at *; omega) a3 h
  have h:=bZ h
  rw[← Df] at h
  have g4:=mM.back _ _ _ _ (by simp only[Db,az] at *; omega) a4 h
  rw[rD,Pr.bind_of g1,Pr.bind_of g2,Pr.bind_of g3,Pr.bind_of g4,if_pos a5]
  simp only[Pr.ret,kV,Db,Nat.add_assoc]
theorem xk (n:Nat) (acc:List Bat) (x st:I) (h:st.err≠0):bw (n+1) acc x st=some (acc,x,st):=by
 rw[bw,bE,C9]
 dsimp only
 rw[if_neg h]
 rfl
theorem pp_l1 (s:List UInt8) (hs:s.length≤1000000) (st:I) (h0:st.err=0): ∀ (n fuel:Nat) (acc:List Bat) (q:Nat),q≤s.length→s.length - q≤n→s.length - q+1<fuel→acc.length+(s.length - q)≤1000000 →
 (∃ e acc' x,nF n s q= .error e∧e≠0∧bw fuel acc ⟨s.drop q,q,0⟩ st=some (acc',x,cB st e))∨(∃ l x,nF n s q= .ok (l,s.length)∧bw fuel acc ⟨s.drop q,q,0⟩ st=some (acc++l,x,st))
 | n,0,acc,q,hq,hn,hf,_=>absurd hf (by omega)
 | n,fuel+1,acc,q,hq,hn,hf,ha=>by
  have hd:(s.drop q).length=s.length - q:=Dn
  rw[bw,bE,C9]
  dsimp only
  rw[if_pos h0,mZ,C9]
  dsimp only
  by_cases he:q=s.length
  ·rw[if_neg (by omega),C9]
   dsimp only
   rw[if_neg (by decide)]
   refine .inr ⟨[],_,?_,by rw[DS]⟩
   cases n with
   | zero=>rw[he]; rfl
   | succ n=>rw[he]; exact if_pos rfl
  rw[if_pos (by omega),C9]
  dsimp only
  rw[if_pos rfl]
  cases n with
  | zero=>omega
  | succ n =>
  unfold nF
  rw[if_neg he]
  rcases B_bat.run s q hs hq with⟨e,st2,p1,g1,x1,y1⟩ | ⟨b,r,p1,g1,n1,l1⟩
  ·refine .inl ⟨e,acc ++ [zBat],st2,by rw[Pr.bind_err p1],by rw[← x1]; exact y1,?_⟩
   rw[g1,C9]
   dsimp only
   rw[if_pos (by omega),bE,C9]
   dsimp only
   rw[if_neg y1,dR,C9,C9,x1]
   have hfl:fuel=(fuel - 1)+1:=by omega
   rw[hfl]
   refine xk _ _ _ _ ?_
   rw[cB,if_pos h0]
   show e≠0
   rw[← x1]; exact y1
  ·have a3:=(vZ.spell s q b r hq p1)
   have hp:=lX a3.2.2.2.2
   have a4:=a3.2.2.1
   rw[g1,C9]
   dsimp only
   rw[if_pos (by omega),bE,C9]
   dsimp only
   rw[if_pos rfl,C9]
   rcases pp_l1 s hs st h0 n fuel (acc ++ [b]) r l1 (by omega) (by omega) (by rw[Db,Ee]; omega) with⟨e,acc',x,q1,q2,q3⟩ | ⟨l,x,q1,q2⟩
   ·exact .inl ⟨e,acc',x,by rw[Pr.bind_of p1,Pr.bind_err q1],q2,q3⟩
   ·exact .inr ⟨b::l,x,by rw[Pr.bind_of p1,Pr.bind_of q1]; rfl,by rw[q2,Df]; rfl⟩
theorem yq (s:List UInt8) (hs:s.length≤1000000) (q:Nat) (hq:q≤s.length) :
 (∃ e p st,kN s q= .error e∧eA ⟨s.drop q,q,0⟩=some (p,st)∧st.err=e∧e≠0)∨(∃ p r,kN s q= .ok (p,r)∧eA ⟨s.drop q,q,0⟩=some (p,⟨s.drop r,r,0⟩)∧q≤r∧r≤s.length):=by
 have dead: ∀ (i:Int) (d:List UInt8) (st:I),d.length≤1000000→st.err≠0→((rp d).bind fun st18=>(bw (((st18.rest.length:Int)+(st.rest.length:Int)+1).toNat+1) [] st18 st).bind fun (y73,st76,st77)=>some ((⟨i,y73⟩:ay),st77))=some (⟨i,[]⟩,st):=by
  intro i d st hd h
  rw[iI _ (by omega),C9,xk _ _ _ _ h]
  rfl
 unfold eA
 rcases Q4.run s q hq with⟨e,st,p1,g1,x1,y1⟩ | ⟨i,q1,p1,g1,n1,l1⟩
 ·refine .inl ⟨e,⟨0,[]⟩,st,Pr.bind_err p1,?_,x1,by rw[← x1]; exact y1⟩
  rw[g1,C9]
  dsimp only
  rw[ui y1,C9]
  dsimp only
  rw[if_neg (by decide),C9]
  exact dead 0 [] st (by decide) y1
 rw[g1,C9]
 dsimp only
 rcases QF4.run s q1 l1 with⟨e,st,p2,g2,x2,y2⟩ | ⟨b,q2,p2,g2,n2,l2⟩
 ·refine .inl ⟨e,⟨i,[]⟩,st,by rw[kN,Pr.bind_of p1,Pr.bind_err]; rw[oK,lz,Pr.bind_err p2],?_,x2,by rw[← x2]; exact y2⟩
  rw[g2,C9]
  dsimp only
  rw[if_neg (by decide),C9]
  exact dead i [] st (by decide) y2
 have h2:=(ik 4 (by decide) (by decide)).spell _ _ _ _ l1 p2
 have hbl:b.data.length≤1000000:=by
  have:=h2.2.2.1
  rw[Db] at this
  omega
 rw[g2,C9]
 dsimp only
 by_cases hb:b.null=true
 ·refine .inl ⟨4,⟨i,[]⟩,⟨s.drop q2,q2,4⟩,by rw[kN,Pr.bind_of p1,Pr.bind_err]; rw[oK,lz,Pr.bind_of p2,if_pos hb]; rfl,?_,rfl,by decide⟩
  rw[if_pos hb,dR,C9,C9,pD]
  exact dead i b.data _ hbl (show (4:Int)≠0 by decide)
 have hx:oK s q1= .ok (b.data,q2):=by
  rw[oK,lz,Pr.bind_of p2,if_neg hb]
  rfl
 rw[if_neg hb,C9,iI _ (by omega),C9]
 rcases pp_l1 b.data hbl ⟨s.drop q2,q2,0⟩ rfl b.data.length ((((b.data.length:Int))+((s.drop q2).length:Int)+1).toNat+1) [] 0 (DV _) (by omega) (by omega) (by rw[Eo]; omega) with⟨e,acc',x,r1,r2,r3⟩ | ⟨l,x,r1,r2⟩
 ·rw[List.drop_zero] at r3
  refine .inl ⟨e,⟨i,acc'⟩,⟨s.drop q2,q2,e⟩,?_,?_,rfl,r2⟩
  ·rw[kN,Pr.bind_of p1,Pr.bind_of hx,ra,r1]
   rfl
  ·rw[r3]
   rfl
 ·rw[List.drop_zero] at r2
  refine .inr ⟨⟨i,l⟩,q2,?_,?_,by omega,l2⟩
  ·rw[kN,Pr.bind_of p1,Pr.bind_of hx,ra,r1]
   rfl
  ·rw[r2]
   rfl
def zQ:aq:=⟨⟨false,[]⟩,0,0,[]⟩
theorem AD {p:ay} (h:we p) (hl:(ed p).length≤1000000):gdP p:=by
 have h1:=yo h.2.2
 simp only[ed,Db,az] at hl
 refine⟨lA h.1,by omega,fun b hb=>v7 (h.2.2 b hb) ?_⟩
 have:=kJ (enc:=da) _ b hb
 omega
theorem AE {t:au} (h:tv t) (hl:(eC t).length≤1000000):gdT t:=by
 have h1:=kA (ok:=we) uT t.CA h.2.2
 simp only[eC,Db,az] at hl
 refine⟨by omega,by omega,fun p hp=>AD (h.2.2 p hp) ?_⟩
 have:=kJ (enc:=ed) t.CA p hp
 omega
theorem okQ_gd {a:Bl} {k t:Int} {l:List au} (ht:bj t 4=true) (h: ∀ x,x∈l→tv x) (hl:(aQ eC l).length≤1000000):gdQ ⟨a,k,t,l⟩:=by
 have h1:=kA (ok:=tv) rc l h
 refine⟨lA ht,by show l.length*40≤ _; omega,fun x hx=>AE (h x hx) ?_⟩
 have:=kJ (enc:=eC) l x hx
 omega
theorem qr_l2 (n:Int) (s:List UInt8) (hs:s.length≤1000000) (hn:n≤1000000): ∀ (m fuel k:Nat) (acc:List ay) (q:Nat),((k+m:Nat):Int)=n→m<fuel→q≤s.length→acc.length=k →
 (∃ (e:Int) (st:I),jQ kN m s q= .error e∧bf n fuel k acc ⟨s.drop q,q,0⟩=some (.ret (zQ,st))∧st.err=e∧e≠0) ∨
 (∃ l r,jQ kN m s q= .ok (l,r)∧bf n fuel k acc ⟨s.drop q,q,0⟩=some (.go (k+m,acc++l,⟨s.drop r,r,0⟩))∧q≤r∧r≤s.length)
 | 0,fuel+1,k,acc,q,h1,h2,h3,h4=> .inr ⟨[],q,rfl,by rw[bf,if_neg (by omega),DS]; rfl,DJ _,h3⟩
 | m+1,fuel+1,k,acc,q,h1,h2,h3,h4=>by
  rw[bf,if_pos (by omega)]
  rcases yq s hs q h3 with⟨e,p,st,p1,g1,x1,y1⟩ | ⟨p,r,p1,g1,n1,l1⟩
  ·refine .inl ⟨e,st,by rw[jQ,Pr.bind_err p1],?_,x1,y1⟩
   rw[g1,C9]
   dsimp only
   rw[if_pos (by omega),bE,C9]
   dsimp only
   rw[if_neg (by rw[x1]; exact y1)]
   rfl
  ·rw[g1,C9]
   dsimp only
   rw[if_pos (by omega),bE,C9]
   dsimp only
   rw[if_pos rfl,if_pos (by omega),jQ,Pr.bind_of p1]
   rcases qr_l2 n s hs hn m fuel (k+1) (acc ++ [p]) r (by omega) (by omega) l1 (by rw[Db,h4]; rfl) with⟨e,st,r1,r2,r3,r4⟩ | ⟨l,r',r1,r2,r3,r4⟩
   ·exact .inl ⟨e,st,by rw[Pr.bind_err r1],r2,r3,r4⟩
   ·refine .inr ⟨p::l,r',by rw[Pr.bind_of r1]; rfl,?_,by omega,r4⟩
    rw[r2,Df,show k+1+m=k+(m+1) by omega]
    rfl
theorem qr_l1 (n:Int) (s:List UInt8) (hs:s.length≤1000000) (hn:n≤1000000): ∀ (m fuel k:Nat) (acc:List au) (q:Nat),((k+m:Nat):Int)=n→m<fuel→q≤s.length→acc.length=k →
 (∃ (e:Int) (st:I),jQ fV m s q= .error e∧bP n fuel k acc ⟨s.drop q,q,0⟩=some (.ret (zQ,st))∧st.err=e∧e≠0) ∨
 (∃ l r,jQ fV m s q= .ok (l,r)∧bP n fuel k acc ⟨s.drop q,q,0⟩=some (.go (k+m,acc++l,⟨s.drop r,r,0⟩))∧q≤r∧r≤s.length)
 | 0,fuel+1,k,acc,q,h1,h2,h3,h4=> .inr ⟨[],q,rfl,by rw[ek,if_neg (by omega),DS]; rfl,DJ _,h3⟩
 | m+1,fuel+1,k,acc,q,h1,h2,h3,h4=>by
  rw[ek,if_pos (by omega)]
  rcases QT.run s q h3 with⟨e,st,p1,g1,x1,y1⟩ | ⟨nm,q1,p1,g1,n1,l1⟩
  ·refine .inl ⟨e,st,by rw[jQ,Pr.bind_err (show fV s q= .error e from Pr.bind_err p1)],?_,x1,by rw[← x1]; exact y1⟩
   rw[g1,C9]
   dsimp only
   rw[qw y1 (by decide) (by decide),C9]
   dsimp only
   rw[show (0:Int).toNat+1=0+1 from rfl,bf,if_neg (by decide),C9]
   dsimp only
   rw[bE,C9]
   dsimp only
   rw[if_neg y1]
   rfl
  rw[g1,C9]
  dsimp only
  rcases (wH 4 8 (by decide) (by decide) 4 8 rfl rfl (by decide)).run s q1 l1 with⟨e,st,p2,g2,x2,y2⟩ | ⟨c,q2,p2,g2,n2,l2⟩
  ·refine .inl ⟨e,st,by rw[jQ,Pr.bind_err]; rw[fV,Pr.bind_of p1,Pr.bind_err]; rw[oh,Pr.bind_err p2],?_,x2,by rw[← x2]; exact y2⟩
   rw[g2,C9]
   dsimp only
   rw[show (0:Int).toNat+1=0+1 from rfl,bf,if_neg (by decide),C9]
   dsimp only
   rw[bE,C9]
   dsimp only
   rw[if_neg y2]
   rfl
  obtain⟨c1,c2,c3,c4,c5,c6⟩:=og (by decide) (by decide) l1 p2
  have c2:=c2 (by decide)
  rw[g2,C9]
  dsimp only
  rcases qr_l2 c s hs (by omega) c.toNat (c.toNat+1) 0 [] q2 (by omega) (by omega) l2 rfl with⟨e,st,r1,r2,r3,r4⟩ | ⟨ps,q3,r1,r2,r3,r4⟩
  ·refine .inl ⟨e,st,by rw[jQ,Pr.bind_err]; rw[fV,Pr.bind_of p1,Pr.bind_err]; rw[oh,Pr.bind_of p2,r1],?_,r3,r4⟩
   rw[r2]
   rfl
  have ht:fV s q= .ok (⟨nm,ps⟩,q3):=by
   rw[fV,Pr.bind_of p1,Pr.bind_of (a:=ps) (r:=q3) (by rw[oh,Pr.bind_of p2,r1])]
   rfl
  rw[r2,C9]
  dsimp only
  rw[bE,C9]
  dsimp only
  rw[if_pos rfl,if_pos (by omega),if_pos (by omega),Ds,jQ,Pr.bind_of ht]
  rcases qr_l1 n s hs hn m fuel (k+1) (acc ++ [⟨nm,ps⟩]) q3 (by omega) (by omega) r4 (by rw[Db,h4]; rfl) with⟨e,st,s1,s2,s3,s4⟩ | ⟨l,r',s1,s2,s3,s4⟩
  ·exact .inl ⟨e,st,by rw[Pr.bind_err s1],s2,s3,s4⟩
  ·refine .inr ⟨⟨nm,ps⟩::l,r',by rw[Pr.bind_of s1]; rfl,?_,by omega,s4⟩
   rw[s2,Df,show k+1+m=k+(m+1) by omega]
   rfl
theorem B_prq (v:Int):CB (fun st=>cP st v) (rD v) zQ:=by
 have tail: ∀ (b:Bl) (a t:Int) (st:I),st.err≠0→((iY st).bind fun (x121,st122)=>(if x121=0 then ((aR (⟨b,a,t,[]⟩:aq) v).bind fun x138=>(if x138=0 then some st122 else ((bD st122 x138).bind fun st146=>some st146)).bind fun st143=>some st143) else some st122).bind fun st135=>(iY st135).bind fun (x148,st149)=>if x148=0 then (some ((⟨b,a,t,[]⟩:aq),st149)) else (some ((⟨(⟨false,[]⟩:Bl),0,0,[]⟩:aq),st149)))=some (zQ,st):=by
  intro b a t st h
  rw[bE,C9]
  dsimp only
  rw[if_neg h,C9,bE,C9]
  dsimp only
  rw[if_neg h]
  rfl
 have dead: ∀ (b:Bl) (a t:Int) (st:I),st.err≠0→((iA st 4 6).bind fun (x12,st13)=>(bP x12 ((x12).toNat+1) 0 [] st13).bind fun e=>match e with | .ret r=>some r | .go (k116,y117,st120)=>((iY st120).bind fun (x121,st122)=>(if x121=0 then ((aR (⟨b,a,t,y117⟩:aq) v).bind fun x138=>(if x138=0 then some st122 else ((bD st122 x138).bind fun st146=>some st146)).bind fun st143=>some st143) else some st122).bind fun st135=>(iY st135).bind fun (x148,st149)=>if x148=0 then (some ((⟨b,a,t,y117⟩:aq),st149)) else (some ((⟨(⟨false,[]⟩:Bl),0,0,[]⟩:aq),st149))))=some (zQ,st):=by
  intro b a t st h
  rw[qw h (by decide) (by decide),C9]
  dsimp only
  rw[show (0:Int).toNat+1=0+1 from rfl,ek,if_neg (by decide),C9]
  exact tail b a t st h
 refine⟨fun st h=> ?_,fun s q hs hq=> ?_⟩
 ·show cP st v= _
  unfold cP
  rw[ui h,C9]
  dsimp only
  rw[qv h,C9]
  dsimp only
  rw[qv h,C9]
  exact dead _ _ _ st h
 ·show (∃ e st,rD v s q= _∧cP _ v= _∧ _∧ _)∨(∃ a r,rD v s q= _∧cP _ v= _∧ _∧ _)
  unfold cP
  rcases QF2.run s q hq with⟨e,st,p1,g1,x1,y1⟩ | ⟨b,q1,p1,g1,n1,l1⟩
  ·refine .inl ⟨e,st,Pr.bind_err p1,?_,x1,y1⟩
   rw[g1,C9]
   dsimp only
   rw[qv y1,C9]
   dsimp only
   rw[qv y1,C9]
   exact dead _ _ _ st y1
  rw[g1,C9]
  dsimp only
  rcases Q2.run s q1 l1 with⟨e,st,p2,g2,x2,y2⟩ | ⟨a,q2,p2,g2,n2,l2⟩
  ·refine .inl ⟨e,st,by rw[rD,Pr.bind_of p1,Pr.bind_err p2],?_,x2,y2⟩
   rw[g2,C9]
   dsimp only
   rw[qv y2,C9]
   exact dead _ _ _ st y2
  rw[g2,C9]
  dsimp only
  rcases Q4.run s q2 l2 with⟨e,st,p3,g3,x3,y3⟩ | ⟨t,q3,p3,g3,n3,l3⟩
  ·refine .inl ⟨e,st,by rw[rD,Pr.bind_of p1,Pr.bind_of p2,Pr.bind_err p3],?_,x3,y3⟩
   rw[g3,C9]
   exact dead _ _ _ st y3
  rw[g3,C9]
  dsimp only
  rcases (wH 4 6 (by decide) (by decide) 4 6 rfl rfl (by decide)).run s q3 l3 with⟨e,st,p4,g4,x4,y4⟩ | ⟨c,q4,p4,g4,n4,l4⟩
  ·refine .inl ⟨e,st,by rw[rD,Pr.bind_of p1,Pr.bind_of p2,Pr.bind_of p3,Pr.bind_err]; rw[oh,Pr.bind_err p4],?_,x4,y4⟩
   have:=dead b a t st y4
   rw[qw y4 (by decide) (by decide)] at this
   rw[g4]
   exact this
  obtain⟨c1,c2,c3,c4,c5,c6⟩:=og (by decide) (by decide) l3 p4
  have c2:=c2 (by decide)
  rw[g4,C9]
  dsimp only
  rcases qr_l1 c s hs (by omega) c.toNat (c.toNat+1) 0 [] q4 (by omega) (by omega) l4 rfl with⟨e,st,r1,r2,r3,r4⟩ | ⟨l,q5,r1,r2,r3,r4⟩
  ·refine .inl ⟨e,st,by rw[rD,Pr.bind_of p1,Pr.bind_of p2,Pr.bind_of p3,Pr.bind_err]; rw[oh,Pr.bind_of p4,r1],?_,r3,by rw[r3]; exact r4⟩
   rw[r2]
   rfl
  have hl:oh 4 6 fV s q3= .ok (l,q5):=by rw[oh,Pr.bind_of p4,r1]
  obtain⟨d1,d2,d3,d4,d5⟩:=mM.spell _ _ _ _ l3 hl
  obtain⟨t1,t2,t3,t4,t5⟩:=(fZ 4 (by decide) (by decide)).spell _ _ _ _ l2 p3
  rw[Db,az] at d3
  have hg:gdQ ⟨b,a,t,l⟩:=okQ_gd t5 d5.2 (by omega)
  rw[r2,C9]
  dsimp only
  rw[bE,C9]
  dsimp only
  rw[if_pos rfl,Ds,wd _ v hg,C9,rD,Pr.bind_of p1,Pr.bind_of p2,Pr.bind_of p3,Pr.bind_of hl]
  by_cases hc:mL v ⟨b,a,t,l⟩=0
  ·rw[if_pos hc,if_pos hc]
   exact .inr ⟨_,q5,rfl,rfl,by omega,r4⟩
  ·rw[if_neg hc,if_neg hc,dR,pD]
   refine .inl ⟨_,⟨s.drop q5,q5,mL v ⟨b,a,t,l⟩⟩,rfl,?_,rfl,hc⟩
   rw[C9,C9,C9,bE,C9]
   dsimp only
   rw[if_neg hc]
   rfl
def tw (l:List Bat):Prop:= ∀ b,b∈l→smB b∧chk b=0
theorem xl (t:ca) (i:Nat) (p:fS) (hi:t.CA[i]? = some p) (hp:p.CG.length≤1000000): ∀ (l:List Bat) (acc:List UInt8) (k fuel:Nat),p.CG.drop k=l→l.length<fuel→tw l→acc.length+(aQ da l).length≤1000000→ ∃ z,dj t i fuel acc k=some (acc++aQ da l,z)
 | [],acc,k,fuel+1,h,hf,_,_=>by
  have:=bM h
  exact⟨k,by rw[dj,hi,C9,if_neg (by omega)]; simp[aQ]⟩
 | b::l,acc,k,fuel+1,h,hf,hw,hl=>by
  obtain⟨g1,g2,g3⟩:=aW h
  rw[Dh] at hf
  rw[aQ,Db] at hl
  obtain⟨hb1,hb2⟩:=hw b (.head _)
  obtain⟨z,hz⟩:=xl t i p hi hp l (acc++da b) (k+1) fuel g2 (by omega) (fun x hx=>hw x (.tail _ hx)) (by rw[Db]; omega)
  exact⟨z,by rw[dj,hi,C9,if_pos (by omega),g1,C9,r11enc hb1 hb2,C9,if_pos (by omega),if_pos (by omega),hz,aQ,Df]⟩
theorem xm (t:au) (hn:t.CA.length≤1000000): ∀ (l:List ay) (acc:List UInt8) (k fuel:Nat),t.CA.drop k=l→l.length<fuel→(∀ p,p∈l→wI p.CX∧p.CG.length≤1000000∧tw p.CG)→acc.length+(aQ ed l).length≤1000000→ ∃ z,dk (ofT t) fuel acc k=some (acc++aQ ed l,z)
 | [],acc,k,fuel+1,h,hf,_,_=>by
  have:=bM h
  exact⟨k,by rw[dk,if_neg (by show ¬ (k:Int)<((t.CA.map ofP).length:Int); rw[Dy]; omega)]; simp[aQ]⟩
 | p::l,acc,k,fuel+1,h,hf,hw,hl=>by
  obtain⟨g1,g2,g3⟩:=aW h
  rw[Dh] at hf
  rw[aQ,Db] at hl
  have hpl:=hl
  simp only[ed,Db,az] at hpl
  obtain⟨hp1,hp2,hp3⟩:=hw p (.head _)
  have e1:(ofT t).CA[k]? = some (ofP p):=by show (t.CA.map ofP)[k]? = _; rw[List.getElem?_map,g1]; rfl
  have e3:(((ofT t).CA[k]?).map (fun x236=>((x236.CG.length:Int)).toNat+1)).getD 0=p.CG.length+1:=by
   rw[e1]
   show ((p.CG.length:Int)).toNat+1= _
   omega
  obtain⟨z2,hz2⟩:=xl (ofT t) k (ofP p) e1 hp2 p.CG [] 0 (p.CG.length+1) rfl (by omega) hp3 (by rw[Eo]; omega)
  obtain⟨z,hz⟩:=xm t hn l (acc++ed p) (k+1) fuel g2 (by omega) (fun x hx=>hw x (.tail _ hx)) (by rw[Db]; omega)
  refine⟨z,?_⟩
  rw[dk,if_pos (by show (k:Int)<((t.CA.map ofP).length:Int); rw[Dy]; omega),e3,hz2,C9,e1,Ds]
  dsimp only
  rw[C9,fg (ofP p).CX _ ⟨hp1,by decide,by decide⟩,C9,if_pos (by rw[az]; show _+4≤ _; omega),lk _ _ ⟨by decide,by decide,by dsimp only; omega⟩,C9,if_pos (by simp only[Db,az]; show _+4+(4 + _)≤ _; omega),C9,if_pos (by omega)]
  have e4:(acc++be (ofP p).CX (4:Int).toNat)++(be (bH (⟨false,aQ da p.CG⟩:Bl)) (4:Int).toNat++(aQ da p.CG))=acc++ed p:=by rw[Df]; rfl
  rw[e4,hz,aQ,Df]
theorem xn (r:aq) (hn:r.CC.length≤1000000): ∀ (l:List au) (acc:List UInt8) (k fuel:Nat),r.CC.drop k=l→l.length<fuel→(∀ t,t∈l→t.CA.length≤1000000∧ ∀ p,p∈t.CA→wI p.CX∧p.CG.length≤1000000∧tw p.CG)→acc.length+(aQ eC l).length≤1000000→ ∃ z,dl (ofQ r) fuel acc k=some (acc++aQ eC l,z)
 | [],acc,k,fuel+1,h,hf,_,_=>by
  have:=bM h
  exact⟨k,by rw[dl,if_neg (by show ¬ (k:Int)<((r.CC.map ofT).length:Int); rw[Dy]; omega)]; simp[aQ]⟩
 | t::l,acc,k,fuel+1,h,hf,hw,hl=>by
  obtain⟨g1,g2,g3⟩:=aW h
  rw[Dh] at hf
  rw[aQ,Db] at hl
  have hpl:=hl
  simp only[eC,Db,az] at hpl
  obtain⟨ht1,ht2⟩:=hw t (.head _)
  have e1:(ofQ r).CC[k]? = some (ofT t):=by show (r.CC.map ofT)[k]? = _; rw[List.getElem?_map,g1]; rfl
  have e4:(ofT t).CA.length=t.CA.length:=Dy _
  obtain⟨z2,hz2⟩:=xm t ht1 t.CA ((acc++(be (t.CM.length:Int) 2++t.CM))++be (t.CA.length:Int) 4) 0 (((t.CA.length:Int)).toNat+1) rfl (by omega) ht2 (by simp only[Db,az]; omega)
  obtain⟨z,hz⟩:=xn r hn l (acc++eC t) (k+1) fuel g2 (by omega) (fun x hx=>hw x (.tail _ hx)) (by rw[Db]; omega)
  refine⟨z,?_⟩
  rw[dl,if_pos (by show (k:Int)<((r.CC.map ofT).length:Int); rw[Dy]; omega),e1,C9,lk _ _ ⟨by decide,by decide,by show t.CM.length≤ _; omega⟩,C9,e4]
  rw[if_pos (by rw[Db,az]; show _+(2+t.CM.length)≤ _; omega),fg _ _ ⟨by omega,by decide,by decide⟩,C9,if_pos (by simp only[Db,az]; show _+(2+t.CM.length)+4≤ _; omega)]
  have e5:acc++(be (bH (⟨false,(ofT t).CM⟩:Bl)) (2:Int).toNat++(⟨false,(ofT t).CM⟩:Bl).data)++be (t.CA.length:Int) (4:Int).toNat=(acc++(be (t.CM.length:Int) 2++t.CM))++be (t.CA.length:Int) 4:=rfl
  rw[e5,hz2,C9]
  dsimp only
  rw[C9,if_pos (by omega)]
  have e6:(acc++(be (t.CM.length:Int) 2++t.CM))++be (t.CA.length:Int) 4++aQ ed t.CA=acc++eC t:=by simp only[eC,Df]
  rw[e6,hz,aQ,Df]
theorem yr {r:aq} (ha:wI r.CZ∧wI r.CO) (hn:r.CC.length≤1000000) (hw: ∀ t,t∈r.CC→t.CA.length≤1000000∧ ∀ p,p∈t.CA→wI p.CX∧p.CG.length≤1000000∧tw p.CG) (hl:(kV r).length≤1000000):gh (ofQ r)=some (kV r):=by
 have e4:(ofQ r).CC.length=r.CC.length:=Dy _
 simp only[kV,Db,az] at hl
 obtain⟨z,hz⟩:=xn r hn r.CC ((((be (bH r.CS) 2++r.CS.data)++be r.CZ 2)++be r.CO 4)++be (r.CC.length:Int) 4) 0 (((r.CC.length:Int)).toNat+1) rfl (by omega) hw (by simp only[Db,az]; omega)
 have l1:(be (bH r.CS) (2:Int).toNat++r.CS.data).length=2+r.CS.data.length:=by rw[Db,az]; rfl
 have l2: ∀ n:Int,(be n (2:Int).toNat).length=2:=fun n=>az _ _
 have l4: ∀ n:Int,(be n (4:Int).toNat).length=4:=fun n=>az _ _
 unfold gh
 rw[e4]
 show ((ja r.CS 2).bind fun x4=>(fA r.CZ 2).bind fun x6=>if x4.length+x6.length≤9223372036854775807 then ((fA r.CO 4).bind fun x9=> _) else none)= _
 rw[lk _ _ ⟨by decide,by decide,by omega⟩,C9,fg _ _ ⟨ha.1,by decide,by decide⟩,C9,if_pos (by rw[l1,l2]; omega),fg _ _ ⟨ha.2,by decide,by decide⟩,C9,if_pos (by rw[Db,l1,l2,l4]; omega),fg _ _ ⟨by omega,by decide,by decide⟩,C9,if_pos (by rw[Db,Db,l1,l2,l4,l4]; omega)]
 have e5:((((be (bH r.CS) (2:Int).toNat++r.CS.data)++be r.CZ (2:Int).toNat)++be r.CO (4:Int).toNat)++be (r.CC.length:Int) (4:Int).toNat)=((((be (bH r.CS) 2++r.CS.data)++be r.CZ 2)++be r.CO 4)++be (r.CC.length:Int) 4):=rfl
 rw[e5,hz,C9]
 simp only[kV,Df]
theorem tz {r:aq} (h:gdQ r):iw r=some (ofQ r):=by
 have h1:=h.2.1
 unfold iw
 rw[xf r.CC [] (by rw[Eo]; omega) (fun t ht=>(h.2.2 t ht).2.1),C9,Ds]
 rfl
theorem uU {a b:aq} (h:gdQ a):gV (ofQ a) (ofQ b)=some (qR a b):=by
 have h1:=h.2.1
 refine zV (by omega) (fun t ht=> ?_)
 have h2:=h.2.2 t ht
 exact⟨by have:=h2.2.1; omega,fun p hp=>(h2.2.2 p hp).2⟩
theorem wg {v:Int} {nul:Bool} {l:List Bat} (h:km v nul l=0): ∀ b,b∈l→chk b=0∧b.CL=false∧b.C0≠nul:=by
 have h2:eo nul l=0:=by
  unfold km at h
  split at h
  ·exact absurd h (by decide)
  ·exact h
 clear h
 induction l with
 | nil=>exact fun b h=>nomatch h
 | cons c l ih =>
  rw[eo] at h2
  by_cases c1:chk c=0
  rotate_left
  ·rw[if_neg c1] at h2; exact absurd h2 c1
  rw[if_pos c1] at h2
  by_cases c2:c.CL=true
  ·rw[if_pos c2] at h2; exact absurd h2 (by decide)
  rw[if_neg c2] at h2
  by_cases c3:c.C0=nul
  ·rw[if_pos c3] at h2; exact absurd h2 (by decide)
  rw[if_neg c3] at h2
  intro b hb
  rcases List.mem_cons.1 hb with rfl | hb
  ·exact⟨c1,by simpa using c2,c3⟩
  ·exact ih h2 b hb
theorem nG {v:Int} {nul:Bool}: ∀ {l:List ay},eQ v nul l=0→ ∀ p,p∈l→km v nul p.CG=0
 | c::l,h,p,hp=>by
  rw[eQ] at h
  by_cases c1:km v nul c.CG=0
  rotate_left
  ·rw[if_neg c1] at h; exact absurd h c1
  rw[if_pos c1] at h
  rcases List.mem_cons.1 hp with rfl | hp
  ·exact c1
  ·exact nG h p hp
theorem nH {v:Int} {nul:Bool}: ∀ {l:List au},fF v nul l=0→ ∀ t,t∈l→eQ v nul t.CA=0
 | c::l,h,t,ht=>by
  rw[fF] at h
  by_cases c1:eQ v nul c.CA=0
  rotate_left
  ·rw[if_neg c1] at h; exact absurd h c1
  rw[if_pos c1] at h
  rcases List.mem_cons.1 ht with rfl | ht
  ·exact c1
  ·exact nH h t ht
theorem yt {v:Int} {r:aq} (h:mL v r=0):rC r∧qX r∧lL r.CC=0∧fF v r.CS.null r.CC=0:=by
 unfold mL at h
 by_cases c1:rC r
 rotate_left
 ·rw[if_neg c1] at h; exact absurd h (by decide)
 rw[if_pos c1] at h
 by_cases c2:qX r
 rotate_left
 ·rw[if_neg c2] at h; exact absurd h (by decide)
 rw[if_pos c2] at h
 by_cases c3:lL r.CC=0
 rotate_left
 ·rw[if_neg c3] at h; exact absurd h c3
 rw[if_pos c3] at h
 exact⟨c1,c2,c3,h⟩
def jr:Int→List Bat→Int
 | w,[]=>w
 | w,x::l=>jr (if w=0 then chk x else w) l
theorem sB {w:Int} (h:w≠0): ∀ l:List Bat,jr w l=w
 | []=>rfl
 | x::l=>by rw[jr,if_neg h,sB h l]
theorem sC: ∀ {l:List Bat},(∀ x,x∈l→chk x=0)→jr 0 l=0
 | [],_=>rfl
 | y::l,h=>by rw[jr,if_pos rfl,h y (.head _),sC (fun x hx=>h x (.tail _ hx))]
theorem z8 (y4:List UInt8) (y5:Int): ∀ (l:List Bat) (t:List UInt8),(∀ x,x∈l→smB x)→t.length+1000000*l.length≤1000000000 →
 dN l y4 y5 t=some (if jr 0 l=0 then .go (y4,y5,t++aQ da l) else .ret ([],jr 0 l))
 | [],t,_,_=>by rw[aQ,DS]; rfl
 | x::l,t,h,hl=>by
  have hx:=h x (.head _)
  rw[Dh] at hl
  rw[dN,benc hx,C9,jr,if_pos rfl]
  by_cases hc:chk x=0
  ·have he:=lV (zO hx hc)
   have hx2:=hx.2.2
   rw[if_pos hc]
   dsimp only
   rw[if_pos rfl,vC _ _ (by omega),C9,z8 y4 y5 l _ (fun y hy=>h y (.tail _ hy)) (by rw[Db]; omega),hc,aQ,Df]
  ·rw[if_neg hc,sB hc]
   dsimp only
   rw[if_neg hc,if_neg hc]
theorem all_eq {l:List Bat} (h: ∀ x,x∈l→smB x) (hl:l.length≤1000):ie l=some (if jr 0 l=0 then (aQ da l,0) else ([],jr 0 l)):=by
 unfold ie
 rw[z8 [] 0 l [] h (by rw[Eo]; omega),C9]
 by_cases hc:jr 0 l=0
 ·rw[if_pos hc,if_pos hc]
  dsimp only
  rw[yS,C9,Ds]
 ·rw[if_neg hc,if_neg hc]
theorem yu {t d:List UInt8} (hf:d.length≤32767) (ht:t.length≤1000000000):lj (t,0) d=some (t++(be (d.length:Int) 2++d),0):=by
 rw[tX _ _ (by simp only; omega)]
 have:=lB (t:=t) (b:=⟨false,d⟩) (k:=2) (gN (.inl rfl) (show -32768≤(d.length:Int) by omega) (show (d.length:Int)≤32767 by omega)) rfl (by simp only; omega)
 rw[ne _ _ _ ⟨by decide,by simp only; omega⟩] at this
 exact this
theorem qw_l2: ∀ (l:List ay) (t:List UInt8),(∀ p,p∈l→we p∧p.CG.length≤1000∧tw p.CG)→t.length+(aQ ed l).length≤1000000→aY l (t,0)=some (t++aQ ed l,0)
 | [],t,h,hl=>by rw[aY,aQ,DS]
 | p::l,t,h,hl=>by
  obtain⟨h1,h2,h3⟩:=h p (.head _)
  rw[aQ,Db] at hl
  have hpl:=hl
  simp only[ed,Db,az] at hpl
  rw[aY,all_eq (fun x hx=>(h3 x hx).1) h2,if_pos (sC (fun x hx=>(h3 x hx).2)),C9]
  dsimp only
  rw[if_pos rfl,C9,lS h1.1 (by omega),C9,gOf_eq,C9,lB (b:=⟨false,aQ da p.CG⟩) h1.2.1 rfl (by simp only[Db,az]; show _+(4:Int).toNat + _≤ _; omega),C9]
  have e4:(t++be p.CX (4:Int).toNat)++(be (bH (⟨false,aQ da p.CG⟩:Bl)) (4:Int).toNat++(⟨false,aQ da p.CG⟩:Bl).data)=t++ed p:=by rw[Df]; rfl
  rw[e4,qw_l2 l _ (fun x hx=>h x (.tail _ hx)) (by rw[Db]; omega),aQ,Df]
theorem qw_l1: ∀ (l:List au) (t:List UInt8),(∀ x,x∈l→x.CM.length≤32767∧tv x∧ ∀ p,p∈x.CA→p.CG.length≤1000∧tw p.CG)→t.length+(aQ eC l).length≤1000000→aZ l (t,0)=some (t++aQ eC l,0)
 | [],t,h,hl=>by rw[aZ,aQ,DS]
 | x::l,t,h,hl=>by
  obtain⟨h0,h1,h2⟩:=h x (.head _)
  rw[aQ,Db] at hl
  have hpl:=hl
  simp only[eC,Db,az] at hpl
  rw[aZ,yu h0 (by omega),C9,lS h1.2.1 (by simp only[Db,az]; omega),C9]
  rw[qw_l2 x.CA _ (fun p hp=>⟨h1.2.2 p hp,h2 p hp⟩) (by simp only[Db,az]; show _+(2 + _)+(4:Int).toNat + _≤ _; omega),C9,C9]
  have e4:(t++(be (x.CM.length:Int) 2++x.CM))++be (x.CA.length:Int) (4:Int).toNat++aQ ed x.CA=t++eC x:=by simp only[eC,Df]; rfl
  rw[e4,qw_l1 l _ (fun y hy=>h y (.tail _ hy)) (by rw[Db]; omega),aQ,Df]
def wPs:List ay→Nat
 | []=>0
 | p::l=>(10+100*p.CG.length)+wPs l
def wTq:List au→Nat
 | []=>0
 | t::l=>(t.CM.length+10+wPs t.CA)+wTq l
theorem rd {n:Int} (h: -9223372036854775808≤n∧n≤9223372036854775807):IntKind.i64.wrap n=n:=by
 rw[IntKind.wrap_i64]
 omega
theorem nP_eq {n:Int} {p:ay} (hn:0≤n∧n≤100000) (hp:p.CG.length≤140737488351232):nP n p=n+((10+100*p.CG.length:Nat):Int):=by
 unfold nP
 rw[rd (n:=100*(p.CG.length:Int)) (by omega),rd (n:=10+100*(p.CG.length:Int)) (by omega),rd (by omega)]
 omega
theorem z9: ∀ (l:List ay) (n:Int),0≤n∧n≤100000→(∀ p,p∈l→p.CG.length≤140737488351232)→okFp n l→nPs n l=n+(wPs l:Int)∧(l ≠ []→nPs n l≤2000)
 | [],n,_,_,_=>⟨by simp[nPs,wPs],fun h=>absurd rfl h⟩
 | p::l,n,hn,hp,ho=>by
  obtain⟨o1,o2,o3⟩:=ho
  have e:=nP_eq hn (hp p (.head _))
  obtain⟨h1,h2⟩:=z9 l (nP n p) ⟨by omega,by omega⟩ (fun q hq=>hp q (.tail _ hq)) o3
  refine⟨by rw[nPs,h1,e,wPs]; omega,fun _=> ?_⟩
  rw[nPs]
  cases l with
  | nil=>exact o1
  | cons q l=>exact h2 (by simp)
theorem Aa: ∀ (l:List au) (n:Int),0≤n∧n≤40000→(∀ t,t∈l→t.CA ≠ []∧t.CM.length≤32767∧ ∀ p,p∈t.CA→p.CG.length≤140737488351232)→v9 n l→nTs n l=n+(wTq l:Int)
 | [],n,_,_,_=>by simp[nTs,wTq]
 | t::l,n,hn,ht,ho=>by
  obtain⟨o1,o2⟩:=ho
  obtain⟨t1,t2,t3⟩:=ht t (.head _)
  have e:nT n t=n+((t.CM.length+10:Nat):Int):=by
   unfold nT
   rw[rd (n:=(t.CM.length:Int)+10) (by omega),rd (by omega)]
   omega
  obtain⟨h1,h2⟩:=z9 t.CA (nT n t) ⟨by omega,by omega⟩ t3 o1
  have h2:=h2 t1
  have h3:=Aa l (nPs (nT n t) t.CA) ⟨by omega,by omega⟩ (fun u hu=>ht u (.tail _ hu)) o2
  rw[nTs,h3,h1,e,wTq]
  omega
theorem lM: ∀ {l:List au} {p:Option (List UInt8)},rqT p l=0→ ∀ t,t∈l→t.CA ≠ []∧t.CM.length≤32767∧rqP none t.CA=true
 | c::l,p,h,t,ht=>by
  rw[rqT] at h
  by_cases c0:c.CA.length=0
  ·rw[if_pos c0] at h; exact absurd h (by decide)
  rw[if_neg c0] at h
  by_cases c1:mK p c=true
  rotate_left
  ·rw[if_neg c1] at h; exact absurd h (by decide)
  rw[if_pos c1] at h
  rcases List.mem_cons.1 ht with rfl | ht
  ·unfold mK at c1
   simp only[Bool.and_eq_true,decide_eq_true_eq] at c1
   exact⟨fun e=>c0 (by rw[e]; rfl),c1.1.1.2,c1.2⟩
  ·exact lM h t ht
theorem uV: ∀ {l:List ay} {q:Option Int},rqP q l=true→ ∀ p,p∈l→0≤p.CX∧p.CX≤2147483647
 | c::l,q,h,p,hp=>by
  rw[rqP] at h
  simp only[Bool.and_eq_true,okn,decide_eq_true_eq] at h
  rcases List.mem_cons.1 hp with rfl | hp
  ·exact h.1.1
  ·exact uV h.2 p hp
theorem tA: ∀ {l:List ay} {p:ay},p∈l→10+100*p.CG.length≤wPs l
 | c::l,p,h=>by
  rw[wPs]
  rcases List.mem_cons.1 h with rfl | h
  ·omega
  ·have:=tA h; omega
theorem tB: ∀ {l:List au} {t:au},t∈l→t.CM.length+10+wPs t.CA≤wTq l
 | c::l,t,h=>by
  rw[wTq]
  rcases List.mem_cons.1 h with rfl | h
  ·omega
  ·have:=tB h; omega
theorem xo: ∀ l:List ay,10*l.length≤wPs l
 | []=>DJ _
 | c::l=>by have:=xo l; rw[wPs,Dh]; omega
theorem xp: ∀ l:List au,10*l.length≤wTq l
 | []=>DJ _
 | c::l=>by have:=xp l; rw[wTq,Dh]; omega
def smQb (p:ay):Prop:= ∀ b,b∈p.CG→okB b∧(body b).length≤12000
theorem uW {p:ay} (h:smQb p):(ed p).length≤121*(10+100*p.CG.length):=by
 have h1:=tt da 12061 p.CG (fun x hx=>by have:=h x hx; rw[lV this.1]; omega)
 simp only[ed,Db,az]
 omega
theorem sD: ∀ l:List ay,(∀ p,p∈l→smQb p)→(aQ ed l).length≤121*wPs l
 | [],_=>DJ _
 | p::l,h=>by
  have h1:=uW (h p (.head _))
  have h2:=sD l (fun q hq=>h q (.tail _ hq))
  rw[aQ,Db,wPs]
  omega
theorem sE: ∀ l:List au,(∀ t,t∈l→ ∀ p,p∈t.CA→smQb p)→(aQ eC l).length≤121*wTq l
 | [],_=>DJ _
 | t::l,h=>by
  have h1:=sD t.CA (h t (.head _))
  have h2:=sE l (fun q hq=>h q (.tail _ hq))
  rw[aQ,Db,wTq]
  simp only[eC,Db,az]
  omega
theorem id_len {r:aq} (h:rC r):r.CS.data.length≤32767∧(r.CS.null=true→r.CS.data = []):=by
 have h1:=(qZ r.CS.null r.CS.data r.CS rfl rfl).1 h.1
 refine⟨?_,h1⟩
 rcases h.2 with h2 | h2
 ·rw[h1 h2]; decide
 ·exact ((qY r.CS.data).1 h2).2
theorem gdQ_of {a:aq} (hw:dU a) (ho:v9 (a.CS.data.length:Int) a.CC):gdQ a :=
 ⟨hw.2.2.1,hw.2.2.2.1,fun t ht=>⟨(hw.2.2.2.2 t ht).1,(hw.2.2.2.2 t ht).2.1,fun p hp=>⟨((hw.2.2.2.2 t ht).2.2 p hp).1,((hw.2.2.2.2 t ht).2.2 p hp).2.1,fun b hb=>(nE ho t ht p hp b hb).1.1⟩⟩⟩
theorem okQ_of {v:Int} {a:aq} (hw:dU a) (ho:v9 (a.CS.data.length:Int) a.CC) (hn:nTs (a.CS.data.length:Int) a.CC≤2000) (hc:mL v a=0) :
 okQ v a∧(kV a).length≤300000∧ ∀ t,t∈a.CC→t.CM.length≤32767∧t.CA.length≤1000∧ ∀ p,p∈t.CA→p.CG.length≤1000∧tw p.CG:=by
 obtain⟨k1,k2,k3,k4⟩:=yt hc
 obtain⟨i1,i2⟩:=id_len k1
 have hr:rqT none a.CC=0:=by
  unfold lL at k3
  split at k3
  ·exact absurd k3 (by decide)
  ·exact k3
 have hp: ∀ t,t∈a.CC→ ∀ p,p∈t.CA→p.CG.length≤140737488351232:=fun t ht p hp=>((hw.2.2.2.2 t ht).2.2 p hp).2.1
 have e:=Aa a.CC (a.CS.data.length:Int) ⟨by omega,by omega⟩ (fun t ht=>⟨(lM hr t ht).1,(lM hr t ht).2.1,hp t ht⟩) ho
 have hb: ∀ t,t∈a.CC→ ∀ p,p∈t.CA→ ∀ b,b∈p.CG→smB b∧(body b).length≤12000∧chk b=0:=fun t ht p hp b hb =>
  ⟨(nE ho t ht p hp b hb).1,(nE ho t ht p hp b hb).2,(wg (nG (nH k4 t ht) p hp) b hb).1⟩
 have hsm: ∀ t,t∈a.CC→ ∀ p,p∈t.CA→smQb p:=fun t ht p hp b hb'=>⟨zO (hb t ht p hp b hb').1 (hb t ht p hp b hb').2.2,(hb t ht p hp b hb').2.1⟩
 have hl:=sE a.CC hsm
 have hl2:=xp a.CC
 have big: ∀ t,t∈a.CC→t.CM.length≤32767∧t.CA.length≤1000∧ ∀ p,p∈t.CA→p.CG.length≤1000∧tw p.CG:=fun t ht=>by
  have m1:=tB ht
  have m2:=xo t.CA
  refine⟨(lM hr t ht).2.1,by omega,fun p hp=> ?_⟩
  have m3:=tA hp
  exact⟨by omega,fun b hb'=>⟨(hb t ht p hp b hb').1,(hb t ht p hp b hb').2.2⟩⟩
 refine⟨⟨⟨?_,k1.1⟩,gN (.inl rfl) (by have:=k2.1; omega) (by have:=k2.2.1; omega),?_,⟨gN (.inr (.inl rfl)) (by omega) (by omega),fun t ht=> ?_⟩,hc⟩,?_,big⟩
 ·unfold bH
  split
  ·decide
  ·exact gN (.inl rfl) (by omega) (by omega)
 ·have:=k2.2.2
  show bj a.CO 4=true
  rw[gl]
  exact C6 (by omega)
 ·have m0:=tB ht
  have m1:=big t ht
  refine⟨gN (.inl rfl) (by omega) (by omega),gN (.inr (.inl rfl)) (by omega) (by omega),fun p hp=> ?_⟩
  have m2:=uV (lM hr t ht).2.2 p hp
  have m3:=uW (hsm t ht p hp)
  have m4:=tA hp
  have m5:(aQ da p.CG).length≤(ed p).length:=by simp only[ed,Db]; omega
  refine⟨?_,?_,fun b hb'=>(hsm t ht p hp b hb').1⟩
  ·show bj p.CX 4=true
   rw[gl]
   exact C6 (by omega)
  ·show bj _ 4=true
   rw[gl]
   exact C6 (by omega)
 ·simp only[kV,Db,az]
  omega
theorem AF {v:Int} {a:aq} (hg:gdQ a) (h:okQ v a) (hl:(kV a).length≤300000) (hb: ∀ t,t∈a.CC→t.CM.length≤32767∧t.CA.length≤1000∧ ∀ p,p∈t.CA→p.CG.length≤1000∧tw p.CG):bu ([],0) a v=some (kV a,0):=by
 obtain⟨h1,h2,h3,h4,h5⟩:=h
 have hl':=hl
 simp only[kV,Db,az] at hl'
 unfold bu
 rw[wd a v hg,C9,if_pos h5,lB h1.1 h1.2 (by rw[Eo]; omega),C9,Ds,lS h2 (by simp only[Db,az]; show 2 + _≤ _; omega),C9,lS h3 (by simp only[Db,az]; show 2 + _+2≤ _; omega),C9,lS h4.1 (by simp only[Db,az]; show 2 + _+2+4≤ _; omega),C9]
 rw[qw_l1 a.CC _ (fun t ht=>⟨(hb t ht).1,h4.2 t ht,(hb t ht).2.2⟩) (by simp only[Db,az]; show 2 + _+2+4+4 + _≤ _; omega),C9]
 simp only[kV,Df]
 rfl
theorem pure_ProduceWrites (a0:aq) (a1:Int) (w0:dU a0) (w1:0≤a1∧a1≤255):en a0 a1=some true:=by
 unfold en
 rw[zT,C9,if_pos rfl]
 rcases q_few w0 with h | ⟨h,ho,hn⟩
 ·rw[h,C9,if_pos rfl]
 rw[h,C9,if_neg (by decide),if_pos w1.1,if_pos (by omega),if_pos (by omega)]
 have hv:3+a1 % 2=3∨3+a1 % 2=4:=by omega
 generalize 3+a1 % 2=v at hv
 have hg:=gdQ_of w0 ho
 have hC:=wd a0 v hg
 have hR:=z4 a0 v hv hg
 by_cases hc:mL v a0=0
 ·obtain⟨k1,k2,k3⟩:=okQ_of w0 ho hn hc
  have hw:=AF hg k1 k2 k3
  have hrd:=(B_prq v).whole (Sp_prq v) (by omega) k1
  have hwr:gh (ofQ a0)=some (kV a0):=by
   refine yr ⟨lA k1.2.1,lA k1.2.2.1⟩ ?_ (fun t ht=>⟨by have:=(k3 t ht).2.1; omega,fun p hp=>⟨((w0.2.2.2.2 t ht).2.2 p hp).1,by have:=((k3 t ht).2.2 p hp).1; omega,((k3 t ht).2.2 p hp).2⟩⟩) (by omega)
   have n1:=kA (ok:=tv) rc a0.CC k1.2.2.2.1.2
   simp only[kV,Db,az] at k2
   omega
  rw[hw,C9,gI,sd,C9]
  dsimp only
  rw[tz hg,C9,hR,C9,hC,kI,kH,if_pos hc.symm,C9,if_pos rfl,C9,if_pos rfl,C9,if_neg (by decide),if_pos hc,iI _ (by omega),C9]
  rw[hrd,C9]
  dsimp only
  rw[tz hg,C9,hwr,C9,if_pos rfl,C9,C9,uU hg,kH,C9,if_pos rfl,kI,kH,C9,if_pos rfl,zf,C9]
  rfl
 ·have hw:bu ([],0) a0 v=some ([],mL v a0):=by
   unfold bu
   rw[hC,C9,if_neg hc,rR,wG]
   rfl
  rw[hw,C9,gI,otx_e _ _ hc,C9]
  dsimp only
  rw[tz hg,C9,hR,C9,hC,kI,kH,if_pos rfl,C9,if_pos rfl,C9,if_pos rfl,C9,if_neg (by decide),if_neg hc,if_pos rfl]
open Go.RowKit Go.Deep Go.ChangeShapes
theorem xq {H:Type} {enc:TypeId×Value→H}:es enc Tryz.prog 35 (gm tP tQ) :=
 fd (fun x=>⟨x.1,x.2.1⟩) (eh Tryz.underlying35 (by kernel_rfl) (aJ 1 (by kernel_rfl) (by kernel_rfl) (pz Tryz.underlying4) (aJ 1 (by kernel_rfl) (by kernel_rfl) (vk Tryz.underlying9) (eG _)))) (by
  rintro w S cs ⟨x0,x1,_⟩ ⟨_,_,rfl,⟨p0,q0⟩,_,_,rfl,⟨p1,q1⟩,rfl⟩
  obtain rfl:=p0
  obtain rfl:=p1
  exact⟨rfl,q0,q1⟩)
theorem op_Hd {H:Type} {enc:TypeId×Value→H}:es enc Tryz.prog 185 (gm bG yC) :=
 fd (fun x=>⟨x.1,x.2.1⟩) (eh Tryz.underlying185 (by kernel_rfl) (aJ 1 (by kernel_rfl) (by kernel_rfl) (vk Tryz.underlying9) (aJ 2 (by kernel_rfl) (by kernel_rfl) xq (eG _)))) (by
  rintro w S cs ⟨x0,x1,_⟩ ⟨_,_,rfl,⟨p0,q0⟩,_,_,rfl,⟨p1,q1⟩,rfl⟩
  obtain rfl:=p0
  obtain rfl:=p1
  exact⟨rfl,q0,q1⟩)
theorem op_Rec {H:Type} {enc:TypeId×Value→H}:es enc Tryz.prog 38 (gm aU pS) :=
 fd (fun x=>⟨x.1,x.2.1,x.2.2.1,x.2.2.2.1,x.2.2.2.2.1⟩) (eh Tryz.underlying38 (by kernel_rfl) (aJ 1 (by kernel_rfl) (by kernel_rfl) (gH Tryz.underlying3) (aJ 1 (by kernel_rfl) (by kernel_rfl) (gH Tryz.underlying3) (aJ 2 (by kernel_rfl) (by kernel_rfl) xq (aJ 2 (by kernel_rfl) (by kernel_rfl) xq (aJ 1 (by kernel_rfl) (by kernel_rfl) (pR 3 40 Tryz.underlying36 (by kernel_rfl) (by kernel_rfl) (by decide) (by decide) op_Hd) (eG _))))))) (by
  rintro w S cs ⟨x0,x1,x2,x3,x4,_⟩ ⟨_,_,rfl,⟨p0,q0⟩,_,_,rfl,⟨p1,q1⟩,_,_,rfl,⟨p2,q2⟩,_,_,rfl,⟨p3,q3⟩,_,_,rfl,⟨p4,q4⟩,rfl⟩
  obtain rfl:=p0
  obtain rfl:=p1
  obtain rfl:=p2
  obtain rfl:=p3
  obtain⟨A4,c4,rfl⟩:=g8 p4
  exact⟨⟨A4,c4,rfl,p4⟩,q0,q1,q2,q3,q4⟩)
theorem op_Bat {H:Type} {enc:TypeId×Value→H}:es enc Tryz.prog 27 (gm bT jG) :=
 fd (fun x=>⟨x.1,x.2.1,x.2.2.1,x.2.2.2.1,x.2.2.2.2.1,x.2.2.2.2.2.1,x.2.2.2.2.2.2.1,x.2.2.2.2.2.2.2.1,x.2.2.2.2.2.2.2.2.1,x.2.2.2.2.2.2.2.2.2.1,x.2.2.2.2.2.2.2.2.2.2.1,x.2.2.2.2.2.2.2.2.2.2.2.1⟩) (eh Tryz.underlying27 (by kernel_rfl) (aJ 1 (by kernel_rfl) (by kernel_rfl) (gH Tryz.underlying3) (aJ 1 (by kernel_rfl) (by kernel_rfl) (gH Tryz.underlying3) (aJ 1 (by kernel_rfl) (by kernel_rfl) (pz Tryz.underlying4) (aJ 1 (by kernel_rfl) (by kernel_rfl) (pz Tryz.underlying4) (aJ 1 (by kernel_rfl) (by kernel_rfl) (pz Tryz.underlying4) (aJ 1 (by kernel_rfl) (by kernel_rfl) (gH Tryz.underlying3) (aJ 1 (by kernel_rfl) (by kernel_rfl) (gH Tryz.underlying3) (aJ 1 (by kernel_rfl) (by kernel_rfl) (gH Tryz.underlying3) (aJ 1 (by kernel_rfl) (by kernel_rfl) (gH Tryz.underlying3) (aJ 1 (by kernel_rfl) (by kernel_rfl) (gH Tryz.underlying3) (aJ 1 (by kernel_rfl) (by kernel_rfl) (gH Tryz.underlying3) (aJ 1 (by kernel_rfl) (by kernel_rfl) (pR 7 88 Tryz.underlying25 (by kernel_rfl) (by kernel_rfl) (by decide) (by decide) op_Rec) (eG _)))))))))))))) (by
  rintro w S cs ⟨x0,x1,x2,x3,x4,x5,x6,x7,x8,x9,x10,x11,_⟩ ⟨_,_,rfl,⟨p0,q0⟩,_,_,rfl,⟨p1,q1⟩,_,_,rfl,⟨p2,q2⟩,_,_,rfl,⟨p3,q3⟩,_,_,rfl,⟨p4,q4⟩,_,_,rfl,⟨p5,q5⟩,_,_,rfl,⟨p6,q6⟩,_,_,rfl,⟨p7,q7⟩,_,_,rfl,⟨p8,q8⟩,_,_,rfl,⟨p9,q9⟩,_,_,rfl,⟨p10,q10⟩,_,_,rfl,⟨p11,q11⟩,rfl⟩
  obtain rfl:=p0
  obtain rfl:=p1
  obtain rfl:=p2
  obtain rfl:=p3
  obtain rfl:=p4
  obtain rfl:=p5
  obtain rfl:=p6
  obtain rfl:=p7
  obtain rfl:=p8
  obtain rfl:=p9
  obtain rfl:=p10
  obtain⟨A11,c11,rfl⟩:=g8 p11
  exact⟨⟨A11,c11,rfl,p11⟩,q0,q1,q2,q3,q4,q5,q6,q7,q8,q9,q10,q11⟩)
theorem re {H:Type} {enc:TypeId×Value→H}:es enc Tryz.prog 84 (gm aS iW) :=
 fd (fun x=>⟨x.1,x.2.1⟩) (eh Tryz.underlying84 (by kernel_rfl) (aJ 1 (by kernel_rfl) (by kernel_rfl) (gH Tryz.underlying3) (aJ 1 (by kernel_rfl) (by kernel_rfl) (pR 12 96 Tryz.underlying82 (by kernel_rfl) (by kernel_rfl) (by decide) (by decide) op_Bat) (eG _)))) (by
  rintro w S cs ⟨x0,x1,_⟩ ⟨_,_,rfl,⟨p0,q0⟩,_,_,rfl,⟨p1,q1⟩,rfl⟩
  obtain rfl:=p0
  obtain⟨A1,c1,rfl⟩:=g8 p1
  exact⟨⟨A1,c1,rfl,p1⟩,q0,q1⟩)
theorem px {H:Type} {enc:TypeId×Value→H}:es enc Tryz.prog 81 (gm aG iz) :=
 fd (fun x=>⟨x.1,x.2.1⟩) (eh Tryz.underlying81 (by kernel_rfl) (aJ 1 (by kernel_rfl) (by kernel_rfl) (vk Tryz.underlying9) (aJ 1 (by kernel_rfl) (by kernel_rfl) (rO 2 32 Tryz.underlying79 (by kernel_rfl) (by kernel_rfl) (by decide) (by decide) re) (eG _)))) (by
  rintro w S cs ⟨x0,x1,_⟩ ⟨_,_,rfl,⟨p0,q0⟩,_,_,rfl,⟨p1,q1⟩,rfl⟩
  obtain rfl:=p0
  obtain⟨A1,c1,rfl⟩:=g8 p1
  exact⟨⟨A1,c1,rfl,p1⟩,q0,q1⟩)
theorem op_ProduceRequest {H:Type} {enc:TypeId×Value→H}:es enc Tryz.prog 50 (gm mW dU) :=
 fd (fun x=>⟨x.1,x.2.1,x.2.2.1,x.2.2.2.1⟩) (eh Tryz.underlying50 (by kernel_rfl) (aJ 2 (by kernel_rfl) (by kernel_rfl) xq (aJ 1 (by kernel_rfl) (by kernel_rfl) (gH Tryz.underlying3) (aJ 1 (by kernel_rfl) (by kernel_rfl) (gH Tryz.underlying3) (aJ 1 (by kernel_rfl) (by kernel_rfl) (rO 2 40 Tryz.underlying48 (by kernel_rfl) (by kernel_rfl) (by decide) (by decide) px) (eG _)))))) (by
  rintro w S cs ⟨x0,x1,x2,x3,_⟩ ⟨_,_,rfl,⟨p0,q0⟩,_,_,rfl,⟨p1,q1⟩,_,_,rfl,⟨p2,q2⟩,_,_,rfl,⟨p3,q3⟩,rfl⟩
  obtain rfl:=p0
  obtain rfl:=p1
  obtain rfl:=p2
  obtain⟨A3,c3,rfl⟩:=g8 p3
  exact⟨⟨A3,c3,rfl,p3⟩,q0,q1,q2,q3⟩)
end Go.Proofs.YtcoppaggpbfcmaaGreat.Sl
namespace Go.Proofs.YtcoppaggpbfcmaaGreat.produceWrites
open Go.ChangeShapes Go.WideShapes Go.ChangeAt Go.RowKit
open Go.ChangeMaps (open_string shut_string)
set_option linter.unusedVariables false
theorem own:ownKnob Tryz.prog.godebug=none:=by kernel_rfl
theorem laidOut:laidOutB Tryz.prog=true:=by kernel_rfl
theorem lifted (os:Os) (started:os.Started) (H:Type) (enc:TypeId×Value→H) :
 ReturnsInHanded {} Tryz.checked os 5 .any (Rows.produceWritesSpec.pre6 enc Tryz.prog Tryz.f5 Rows.produceWritesRow.domain false) (Rows.produceWritesSpec.post enc Tryz.prog Tryz.f5 false true false false):=by
 refine returnsInHanded_of_change_sized (C:=Tryz.checked) own started (by kernel_rfl) Tryz.func5
  (ChangeSpec.witness6 (enc:=enc) (C:=Tryz.checked) false ⟨#[],#[.agg #[.bool false,.string ⟨#[]⟩,.int .i64 0,.int .i64 0,.slice none 0 0],.int .u8 0],[]⟩ 8 (by kernel_rfl) (by kernel_rfl) (by kernel_rfl) (by kernel_rfl)) ?_
 intro W base args ds gs before hval0 hW hcnd hsz0 _
 have hsz:(DataW.weightsEach Tryz.prog (Tryz.f5.params.toList++Rows.produceWritesSpec.plain.varTypes Tryz.prog) (ds++gs)).all (· ≤ reachBytes)=true:=hsz0
 have hval: ∀ (j:Nat) t v,Tryz.f5.params[j]? = some t→args[j]? = some v→Value.okWide Tryz.prog W .any base t v:=hval0
 have hW':=hW
 obtain⟨p,q,hA0,hV,rfl,hfz,hnd⟩:=hW
 have hA:DataW.TrodAll enc Tryz.prog W 0 (fun _=>true) true Tryz.f5.params.toList args.toList ds p:=hA0
 rw[Tryz.params5] at hA hval hsz
 obtain⟨v0,vs0,d0,ds0,p0,q0,hargs,rfl,rfl,h0,r0⟩:=trodAll_cons hA
 obtain⟨v1,vs1,d1,ds1,p1,q1,rfl,rfl,rfl,h1,r1⟩:=trodAll_cons r0
 obtain⟨rfl,rfl,rfl⟩:=trodAll_nil r1
 obtain rfl:args= #[v0,v1]:=by cases args; simp_all
 obtain⟨rfl,rfl⟩:=trodVars_none hV
 have k0:=h0
 have lt0: ∀ x∈p0,x.block<W.heap.size:=by obtain⟨m,hm⟩:=k0; exact DataW.trod_lt m _ _ _ hm
 obtain⟨a0,cs0,rfl,r_0,w0⟩:=Sl.opens_arg2 Tryz.underlying50 (hval 0 50 v0 rfl rfl) Sl.op_ProduceRequest h0 (fun x hx=>of_decide_eq_true (List.all_eq_true.1 hsz x (Sl.weights_in 0 rfl rfl hx)))
 obtain⟨A0_0,c0_0,e0,r0_0⟩:=r_0
 obtain rfl:cs0= #[.bool a0.CS.null,.string (Sl.bsOf a0.CS.data),.int .i64 a0.CZ,.int .i64 a0.CO,.slice A0_0 a0.CC.length c0_0]:=by apply Array.toList_inj.1; exact e0
 obtain⟨a1,rfl,rfl,rfl,u1⟩:=open_int Tryz.underlying5 (hval 1 5 v1 rfl rfl) h1
 have w1:=Go.bounds_u8 u1
 clear hA0 hval0 hsz0 hsz
 refine (Sl.f_l20_ProduceWrites_spec a0 A0_0 c0_0 a1 true (Sl.pure_ProduceWrites a0 a1 w0 w1) (fun _=>False) W (fun _ h=>h) (Sl.RX.reads_all r0_0)).mono fun e W' hP=> ?_
 obtain⟨v,A',Ns,rfl,⟨rfl,rfl,rfl⟩,hst⟩:=hP
 have bel:=Sl.St.below hst
 exact⟨_,rfl,_,_,_,[],_,[],hW',trodAll_mk1 (shut_bool Tryz.underlying4 _),(trodAll_cons_mk (Below.trod laidOut (by kernel_rfl) (of_decide_eq_true (by kernel_rfl)) k0 bel lt0) (trodAll_cons_mk (shut_int Tryz.underlying5 u1) trodAll_mk0)),rfl,bel.frame _,fun h=>by cases h⟩
theorem over:Rows.produceWritesRow.holds Tryz.pinned (OpenSpec.ofChange Rows.produceWritesSpec) :=
 OpenClaim.holds_of_wide 5 Tryz.f5 rfl rfl rfl rfl rfl rfl rfl ⟨rfl,rfl,rfl,rfl,rfl⟩ rfl rfl rfl rfl rfl (by kernel_rfl) Tryz.func5 (by kernel_rfl)
  (of_decide_eq_true (by kernel_rfl)) (by unfold Func.isWrapper; first | (rw[if_pos (by decide +kernel)]; kernel_rfl) | (rw[if_neg (by decide +kernel)]; exact⟨rfl,rfl⟩))
  (fun os started H enc _=>lifted os started H enc)
theorem proved:Rows.ProduceWritesSaid:=over
end Go.Proofs.YtcoppaggpbfcmaaGreat.produceWrites
namespace Go.Proofs.YtcoppaggpbfcmaaGreat
theorem produceWrites_holds:Rows.ProduceWritesSaid:=produceWrites.proved
end Go.Proofs.YtcoppaggpbfcmaaGreat
