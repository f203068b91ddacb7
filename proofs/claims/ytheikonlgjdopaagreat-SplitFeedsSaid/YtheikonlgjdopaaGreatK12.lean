/- splitFeeds_holds: part 12. -/
import Derived.Test.YtheikonlgjdopaaGreatK11
set_option maxRecDepth 100000
set_option maxHeartbeats 4000000
set_option linter.defProp false
namespace Go.Proofs.YtheikonlgjdopaaGreat.Sl
open Go.RowKit
set_option linter.unusedVariables false
set_option linter.unusedSimpArgs false
def OE := @Tryz.sizeOf85
def OS := @Tryz.runUnderlying85
def Pa := @Tryz.runUnderlying75
def Pb := @Tryz.runUnderlying60
def PC := @Tryz.isAgg85
def PQ := @Tryz.runUnderlying149
def Qz := @Tryz.isAgg75
def QG := @Tryz.results33
def QH := @Tryz.results76
def gdP (p:bl):Prop:=wI p.Mw/\p.Mq.length<=140737488351232/\ ∀ b,b∈p.Mq->bnB b
def gdT (t:aM):Prop:=t.Mm.length<=140737488351232/\t.Me.length*32<=140737488351232/\ ∀ p,p∈t.Me->gdP p
def gdQ (r:aC):Prop:=wI r.Mh/\r.Mc.length*40<=140737488351232/\ ∀ t,t∈r.Mc->gdT t
def iR (nul:Bool):List Bat->Int
 | []=>0
 | b::l=>if chk b=0 then (if b.ML=true then 12 else if b.MI=nul then 8 else iR nul l) else chk b
def tA (v:Int) (nul:Bool) (l:List Bat):Int:=if l.length=0\/(v<4/\1<l.length) then 10 else iR nul l
theorem ID (r:aC) (y:Int): ∀ l:List Bat,(∀ b,b∈l->bnB b)->bV r l y=some (if iR r.Mk.null l=0 then .go y else .ret (iR r.Mk.null l))
 | [],_=>rfl
 | b::l,h=>by
  rw[bV,(AS (h b (.head _))).1,M3,iR,ID r y l (fun x hx=>h x (.tail _ hx))];by_cases a:chk b=0
  ·rw[QM a,QM a];by_cases c2:b.ML=true
   ·rw[QM c2,QM c2]; rfl
   ·rw[QO c2,QO c2];by_cases c:b.MI=r.Mk.null
    ·rw[QM (by rw[c]; exact beq_self_eq_true _),QM c]; rfl
    ·rw[QO (by simpa using c),QO c]
  ·rw[QO a,QO a,QO a]
theorem IE (r:aC) (l:List Bat) (v:Int) (h: ∀ b,b∈l->bnB b):dY r l v=some (tA v r.Mk.null l):=by
 unfold dY tA;by_cases d:l.length=0
 ·rw[QM QI,M3,QM rfl,QM (.inl d)]
 rw[QO QI];by_cases c:v<4
 ·rw[QM c];by_cases c2:1<l.length
  ·rw[QM QI,M3,QM rfl,QM (.inr ⟨c,c2⟩)]
  ·rw[QO QI,M3,QO QJ,ID r 0 l h,QO (show ¬ (l.length=0\/(v<4/\1<l.length)) from fun hh=>by rcases hh with hh | hh; exact d hh; exact c2 hh.2)];by_cases a:iR r.Mk.null l=0
   ·rw[QM a,a]; rfl
   ·rw[QO a]; rfl
 ·rw[QO c,M3,QO QJ,ID r 0 l h,QO (show ¬ (l.length=0\/(v<4/\1<l.length)) from fun hh=>by rcases hh with hh | hh; exact d hh; exact c hh.1)];by_cases a:iR r.Mk.null l=0
  ·rw[QM a,a]; rfl
  ·rw[QO a]; rfl
theorem EY (a:List Bat) (nul:Bool) (hn:a.length<=140737488351232) (y:Int): ∀ (l:List Bat) (k fuel:Nat),a.drop k=l->l.length<fuel->(∀ b,b∈l->bnB b)-> ∃ z,eh a (!nul) fuel y k=some (if iR nul l=0 then .go (y,z) else .ret (iR nul l))
 | [],k,fuel+1,h,hf,_=>by
  have:=eF h;exact⟨k,by rw[eh,QO QI]; rfl⟩
 | b::l,k,fuel+1,h,hf,hw=>by
  obtain⟨e,f,g⟩:=dc h;rw[Ng] at hf;obtain⟨z,hz⟩:=EY a nul hn y l (k+1) fuel f QI (fun x hx=>hw x (.tail _ hx));refine⟨z,?_⟩;rw[eh,QM QI,e,M3,(AS (hw b (.head _))).2,M3,iR,QM (show (A0 ((k:Int)+1)) by omega),hz];by_cases c:chk b=0
  ·rw[QM c,QM c];by_cases c2:b.ML=true
   ·rw[QM c2,QM c2]; rfl
   ·rw[QO c2,QO c2];by_cases d:b.MI=nul
    ·rw[QO (by rw[d]; cases nul <;> decide),QM d]; rfl
    ·rw[QM (by cases hb:b.MI <;> cases nul <;> simp_all),QO d]
  ·rw[QO c,QO c,QO c]
theorem Cp (l:List Bat) (nul:Bool) (v:Int) (hv:v=3\/v=4) (hn:l.length<=140737488351232) (h: ∀ b,b∈l->bnB b):fF l (!nul) v=some (tA v nul l):=by
 obtain⟨z,hz⟩:=EY l nul hn 0 l 0 (((l.length:Int)).toNat+1) rfl QI h;have hend:((some (if iR nul l=0 then (.go (0,z):Lp Int (Int×Nat)) else .ret (iR nul l))).bind fun e=>match e with | .ret r=>some r | .go (d,f)=>(some 0:Option Int))=some (iR nul l):=by
  by_cases a:iR nul l=0
  ·rw[QM a,a]; rfl
  ·rw[QO a]; rfl
 unfold fF tA;by_cases c:l.length=0
 ·rw[QM QI,M3,QM rfl,QM (.inl c)]
 rw[QO QI];rcases hv with rfl | rfl
 ·rw[QM rfl];by_cases c2:1<l.length
  ·rw[QM QI,M3,QM rfl,QM (.inr ⟨by decide,c2⟩)]
  ·rw[QO QI,M3,QO QJ,hz,QO (show ¬ (l.length=0\/((3:Int)<4/\1<l.length)) from fun hh=>by rcases hh with hh | hh; exact c hh; exact c2 hh.2)];exact hend
 ·rw[QO QJ,M3,QO QJ,hz,QO (show ¬ (l.length=0\/((4:Int)<4/\1<l.length)) from fun hh=>by rcases hh with hh | hh; exact c hh; exact absurd hh.1 QJ)];exact hend
def ya:Option Int->Int->Bool
 | none,_=>true
 | some q,n=>decide (q<n)
def rqP:Option Int->List bl->Bool
 | _,[]=>true
 | p,x::l=>okn x.Mw && ya p x.Mw && rqP (some x.Mw) l
def uX:Option AI->AI->Bool
 | none,_=>true
 | some q,d=>Op.bytesLess q d
def uY (p:Option AI) (t:aM):Bool:= !t.Mm.isEmpty && decide (t.Mm.length<=32767) && uX p t.Mm && rqP none t.Me
def rqT:Option AI->List aM->Int
 | _,[]=>0
 | p,t::l=>if t.Me.length=0 then 10 else if uY p t=true then rqT (some t.Mm) l else 13
def vy (l:List aM):Int:=if l.length=0 then 10 else rqT none l
theorem Cq (t:aM) (hn:t.Me.length<=140737488351232) (y:Int): ∀ (l:List bl) (p:Option Int) (k:Nat),t.Me.drop k=l->(∀ q,q∈l->wI q.Mw)->(k=0->p=none)->(0<k-> ∃ u,t.Me[k - 1]? = some u/\p=some u.Mw)->dO t l y k=some (if rqP p l=true then .go y else .ret 13)
 | [],p,k,_,_,_,_=>rfl
 | x::l,p,k,h,hw,c,d=>by
  obtain⟨e,f,i⟩:=dc h;have hx:=hw x (.head _);have ih:=Cq t hn y l (some x.Mw) (k+1) f (fun q hq=>hw q (.tail _ hq)) (fun h=>absurd h QI) (fun _=>⟨x,e,rfl⟩);rw[dO,gG _ _ hx,M3,jX,rqP];by_cases a:x.Mw<0
  ·have:okn x.Mw=false:=by unfold okn; simp; omega
   rw[QM a,M3,QM rfl,this]; rfl
  rw[QO a];by_cases c2:x.Mw<=2147483647;rotate_left
  ·have:okn x.Mw=false:=by unfold okn; simp; omega
   rw[QO (by simp; omega),M3,QM rfl,this]; rfl
  have hok:okn x.Mw=true:=by unfold okn; simp; omega
  rw[QM (by simp; omega),hok];rcases Nat.eq_zero_or_pos k with hk | hk
  ·rw[c hk,QO QI,M3,QO QJ,ih]; rfl
  ·obtain⟨u,g,rfl⟩:=d hk;rw[QM QI,QM QI,QM QI,show ((k:Int) - 1).toNat=k - 1 by omega,g,M3];by_cases b:u.Mw<x.Mw
   ·rw[QO QI,M3,QO QJ,ih];rw[ya,M4 b]; rfl
   ·rw[QM QI,M3,QM rfl];rw[ya,M5 b]; rfl
theorem Cr (a:List aM) (y:Int): ∀ (l:List aM) (p:Option AI) (k:Nat),a.drop k=l->a.length<=140737488351232->(∀ t,t∈l->gdT t)->(k=0->p=none)->(0<k-> ∃ u,a[k - 1]? = some u/\p=some u.Mm)->cR a l y k=some (if rqT p l=0 then .go y else .ret (rqT p l))
 | [],p,k,_,_,_,_,_=>rfl
 | t::l,p,k,h,hn,hw,n,o=>by
  obtain⟨s,v,x⟩:=dc h;have ht:=hw t (.head _);have ih:=Cr a y l (some t.Mm) (k+1) v hn (fun q hq=>hw q (.tail _ hq)) (fun h=>absurd h QI) (fun _=>⟨t,s,rfl⟩);rw[cR,rqT];by_cases j:t.Me.length=0
  ·rw[QM QI,QM j]; rfl
  rw[QO QI,QO j];have m:=Cq t (by have:=ht.2.1; omega) y t.Me none 0 rfl (fun q hq=>(ht.2.2 q hq).1) (fun _=>rfl) (fun h=>absurd h QI);rw[m];have bad: ∀ {b:Bool},uY p t=false->b=true->((some b).bind fun d=>if d=true then some (Lp.ret 13:Lp Int Int) else ((some (if rqP none t.Me=true then (.go y:Lp Int Int) else .ret 13)).bind fun e=>match e with | .ret r=>some (Lp.ret r) | .go f=>(cR a l f (k+1))))=some (if (if uY p t=true then rqT (some t.Mm) l else 13)=0 then .go y else .ret (if uY p t=true then rqT (some t.Mm) l else 13)):=by
   intro b hb hb2;rw[hb2,M3,QM rfl,hb]; rfl
  have good: ∀ {b:Bool},(!t.Mm.isEmpty && decide (t.Mm.length<=32767) && uX p t.Mm)=true->b=false->((some b).bind fun d=>if d=true then some (Lp.ret 13:Lp Int Int) else ((some (if rqP none t.Me=true then (.go y:Lp Int Int) else .ret 13)).bind fun e=>match e with | .ret r=>some (Lp.ret r) | .go f=>(cR a l f (k+1))))=some (if (if uY p t=true then rqT (some t.Mm) l else 13)=0 then .go y else .ret (if uY p t=true then rqT (some t.Mm) l else 13)):=by
   intro b hb hb2;rw[hb2,M3,QO QJ,M3];unfold uY;rw[hb,Bool.true_and];cases rqP none t.Me
   ·rfl
   ·exact ih
  by_cases g:t.Mm = []
  ·rw[QM g];exact bad (by unfold uY; rw[g]; rfl) rfl
  rw[QO g];have hne:t.Mm.isEmpty=false:=by cases hh:t.Mm with | nil=>exact absurd hh g | cons c u=>rfl
  by_cases c2:(t.Mm.length:Int)>32767
  ·rw[QM c2];exact bad (by unfold uY; rw[M5 QI]; simp) rfl
  rw[QO c2];rcases Nat.eq_zero_or_pos k with hk | hk
  ·rw[QO QI];exact good (by rw[n hk,hne,M4 QI]; rfl) rfl
  ·obtain⟨u,w,rfl⟩:=o hk;rw[QM QI,QM QI,QM QI,show ((k:Int) - 1).toNat=k - 1 by omega,w,M3];by_cases i:Op.bytesLess u.Mm t.Mm=true
   ·rw[QM i];exact good (by rw[hne,M4 QI]; exact i) rfl
   ·rw[QO i];exact bad (by unfold uY uX; simp only[i]; simp) rfl
theorem IF (l:List aM) (hn:l.length<=140737488351232) (hw: ∀ t,t∈l->gdT t):ji l=some (vy l):=by
 unfold ji vy;by_cases a:l.length=0
 ·rw[QM QI,QM a]
 ·rw[QO QI,QO a,Cr l 0 l none 0 rfl hn hw (fun _=>rfl) (fun h=>absurd h QI)];by_cases c:rqT none l=0
  ·rw[QM c,c]; rfl
  ·rw[QO c]; rfl
def yb (t:aM):Top:=⟨t.Mm,t.Me.map (·.Mw)⟩
theorem Cs (t:aM) (hn:t.Me.length*8<=140737488351232): ∀ (l:List bl) (acc:List Int) (k fuel:Nat),t.Me.drop k=l->l.length<fuel->acc.length=k-> ∃ z,eA (ofT t) fuel k acc=some (z,acc++l.map (·.Mw))
 | [],acc,k,fuel+1,h,hf,_=>by
  have:=eF h;exact⟨k,by rw[eA,QO (by show ¬ (k:Int)<((t.Me.map ofP).length:Int); rw[NB]; omega),List.map_nil,Nx]⟩
 | x::l,acc,k,fuel+1,h,hf,hk=>by
  obtain⟨a,b,d⟩:=dc h;rw[Ng] at hf;obtain⟨z,hz⟩:=Cs t hn l (acc ++ [x.Mw]) (k+1) fuel b QI (by rw[M8,NY,hk]);have c:(ofT t).Me[k]? = some (ofP x):=by show (t.Me.map ofP)[k]? = _; rw[List.getElem?_map,a]; rfl
  refine⟨z,?_⟩;rw[eA,QM (by show (k:Int)<((t.Me.map ofP).length:Int); rw[NB]; omega),c,M3,QM QI,QM QI];show eA (ofT t) fuel (k+1) (acc ++ [x.Mw])= _;rw[hz,Nd];rfl
theorem IG (t:aM) (hn:t.Me.length*8<=140737488351232):lK (ofT t)=some (yb t):=by
 have a:(ofT t).Me.length=t.Me.length:=NB _;obtain⟨z,hz⟩:=Cs t hn t.Me [] 0 (((t.Me.length:Int)).toNat+1) rfl QI rfl;unfold lK;rw[a,hz,M3,Nm];rfl
theorem DY: ∀ (l:List bl) (p:Option Int),rqP p l=((l.map (·.Mw)).all okn && up ltI p (l.map (·.Mw)))
 | [],p=>by cases p <;> rfl
 | x::l,none=>by
  rw[rqP,DY l,List.map_cons,List.all_cons,up,ya];cases okn x.Mw <;> cases (l.map (·.Mw)).all okn <;> rfl
 | x::l,some q=>by
  rw[rqP,DY l,List.map_cons,List.all_cons,up,ya,ltI];cases okn x.Mw <;> cases (l.map (·.Mw)).all okn <;> cases decide (q<x.Mw) <;> rfl
def rU:Option AI->List AI->Option AI
 | p,[]=>p
 | _,x::l=>rU (some x) l
theorem AU: ∀ (l:List AI) (p:Option AI) (x:AI),up Op.bytesLess p (l ++ [x])=(up Op.bytesLess p l && uX (rU p l) x)
 | [],none,x=>rfl
 | [],some q,x=>by show (Op.bytesLess q x && true)=(true && Op.bytesLess q x); rw[Bool.and_true,Bool.true_and]
 | y::l,none,x=>by
  show up Op.bytesLess (some y) (l ++ [x])= _;rw[AU l (some y) x]; rfl
 | y::l,some q,x=>by
  show (Op.bytesLess q y && up Op.bytesLess (some y) (l ++ [x]))= _;rw[AU l (some y) x,<- Bool.and_assoc]; rfl
theorem yc: ∀ (l:List AI) (p:Option AI) (x:AI),rU p (l ++ [x])=some x
 | [],p,x=>rfl
 | y::l,p,x=>yc l (some y) x
theorem zN (l:List Top) (t:aM) (h:rH l=true) (hp:t.Me.length≠0):rH (l ++ [yb t])=uY (rU none (l.map (·.Mm))) t:=by
 have a:l.all md=true/\up Op.bytesLess none (l.map (·.Mm))=true:=by simpa [rH] using h
 have b:(t.Me.map (·.Mw)).isEmpty=false:=by cases hh:t.Me with | nil=>exact absurd (by rw[hh]; rfl) hp | cons c u=>rfl
 unfold rH uY;rw[List.all_append,a.1,List.map_append,List.map_singleton,AU,a.2,DY];simp only[List.all_cons,List.all_nil,Bool.and_true,Bool.true_and,md,yH];show (!t.Mm.isEmpty && decide (t.Mm.length<=32767) && ((t.Me.map (·.Mw)).all okn && up ltI none (t.Me.map (·.Mw)) && !(t.Me.map (·.Mw)).isEmpty) && uX (rU none (l.map (·.Mm))) t.Mm)= _;rw[b];cases t.Mm.isEmpty <;> cases decide (t.Mm.length<=32767) <;> cases uX (rU none (l.map (·.Mm))) t.Mm <;> cases (t.Me.map (·.Mw)).all okn <;> cases up ltI none (t.Me.map (·.Mw)) <;> rfl
theorem ye (a:List aM) (hn:a.length*40<=140737488351232) (y:Int): ∀ (l:List aM) (acc:List Top) (k fuel:Nat),a.drop k=l->l.length<fuel->acc.length=k->(∀ t,t∈l->gdT t)->(∀ t,t∈acc->t.Me.length<=140737488355328/\t.Mm.length<=140737488355328)->rH acc=true-> ∃ z,fE (a.map ofT) fuel y acc k=some (if rqT (rU none (acc.map (·.Mm))) l=0 then .go (y,z) else .ret (rqT (rU none (acc.map (·.Mm))) l))
 | [],acc,k,fuel+1,h,hf,_,_,_,_=>by
  have:=eF h;exact⟨(acc,k),by rw[fE,QO (by rw[NB]; omega)]; rfl⟩
 | t::l,acc,k,fuel+1,h,hf,hk,hw,ha,ho=>by
  obtain⟨d,e,j⟩:=dc h;obtain⟨m,n,o⟩:=hw t (.head _);rw[Ng] at hf;have f:(a.map ofT)[k]? = some (ofT t):=by rw[List.getElem?_map,d]; rfl
  have g:(ofT t).Me.length=t.Me.length:=NB _;rw[fE,QM (by rw[NB]; omega),f,M3,g,rqT];by_cases c:t.Me.length=0
  ·rw[QM QI,QM c];exact⟨(acc,k),rfl⟩
  have ha2: ∀ u,u∈acc ++ [yb t]->u.Me.length<=140737488355328/\u.Mm.length<=140737488355328:=fun u hu=>by
   rcases List.mem_append.1 hu with hu | hu
   ·exact ha u hu
   ·rw[List.mem_singleton.1 hu];refine⟨?_,by show t.Mm.length<= _; omega⟩;show (t.Me.map _).length<= _;rw[NB]; omega
  rw[QO QI,QO c,IG t QI,M3,QM QI,IC _ (by rw[M8,NY]; omega) ha2,M3,zN acc t ho c];by_cases b:uY (rU none (acc.map (·.Mm))) t=true
  ·obtain⟨z,hz⟩:=ye a hn y l (acc ++ [yb t]) (k+1) fuel e QI (by rw[M8,NY,hk]) (fun u hu=>hw u (.tail _ hu)) ha2 (by rw[zN acc t ho c]; exact b);have i:rU none ((acc ++ [yb t]).map (·.Mm))=some t.Mm:=by rw[List.map_append,List.map_singleton,yc]; rfl
   rw[i] at hz;exact⟨z,by rw[QM b,QM b,QM QI,hz]⟩
  ·exact⟨(acc,k),by rw[QO b,QO b]; rfl⟩
theorem DZ (l:List aM) (hn:l.length*40<=140737488351232) (hw: ∀ t,t∈l->gdT t):lg (l.map ofT)=some (vy l):=by
 unfold lg vy;rw[NB];by_cases a:l.length=0
 ·rw[QM QI,QM a]
 ·obtain⟨z,hz⟩:=ye l hn 0 l [] 0 (((l.length:Int)).toNat+1) rfl QI rfl hw (fun t h=>nomatch h) rfl;rw[QO QI,QO a,hz];show ((some (if rqT none l=0 then _ else _)).bind _)= _;by_cases c:rqT none l=0
  ·rw[QM c,c]; rfl
  ·rw[QO c]; rfl
def kO (v:Int) (nul:Bool):List bl->Int
 | []=>0
 | p::l=>if tA v nul p.Mq=0 then kO v nul l else tA v nul p.Mq
def lD (v:Int) (nul:Bool):List aM->Int
 | []=>0
 | t::l=>if kO v nul t.Me=0 then lD v nul l else kO v nul t.Me
def D0 (r:aC):Prop:=bM r.Mk=true/\(r.Mk.null=true\/fo r.Mk.data=true)
def AV (r:aC):Prop:= -1<=r.Mz/\r.Mz<=1/\0<=r.Mh/\r.Mh<=2147483647
instance (r:aC):Decidable (D0 r):=by unfold D0; infer_instance
instance (r:aC):Decidable (AV r):=by unfold AV; infer_instance
def wk (v:Int) (r:aC):Int:=if D0 r then (if AV r then (if vy r.Mc=0 then lD v r.Mk.null r.Mc else vy r.Mc) else 11) else 4
theorem pc_l2 (r:aC) (v y:Int): ∀ l:List bl,(∀ p,p∈l->gdP p)->cu r v l y=some (if kO v r.Mk.null l=0 then .go y else .ret (kO v r.Mk.null l))
 | [],_=>rfl
 | p::l,h=>by
  rw[cu,IE r p.Mq v (h p (.head _)).2.2,M3,kO,pc_l2 r v y l (fun q hq=>h q (.tail _ hq))];by_cases c:tA v r.Mk.null p.Mq=0
  ·rw[QM c,QM c]
  ·rw[QO c,QO c,QO c]
theorem pc_l1 (r:aC) (v y:Int): ∀ l:List aM,(∀ t,t∈l->gdT t)->cw r v l y=some (if lD v r.Mk.null l=0 then .go y else .ret (lD v r.Mk.null l))
 | [],_=>rfl
 | t::l,h=>by
  rw[cw,pc_l2 r v y t.Me (h t (.head _)).2.2,M3,lD];by_cases c:kO v r.Mk.null t.Me=0
  ·rw[QM c,QM c];dsimp only;rw[pc_l1 r v y l (fun q hq=>h q (.tail _ hq))]
  ·rw[QO c,QO c,QO c]
theorem pcheck (r:aC) (v:Int) (h:gdQ r):cC r v=some (wk v r):=by
 unfold cC wk;have g:(((qp r.Mk).bind fun d=>if d=true then (if r.Mk.null=true then some false else ((nJ r.Mk.data).bind fun e=>if e=true then some false else some true)) else some true):Option Bool)=some (decide (¬ D0 r)):=by
  rw[tP,M3,pa];by_cases a:bM r.Mk=true
  ·rw[QM a];by_cases c2:r.Mk.null=true
   ·rw[QM c2]; exact congrArg some (Eq.symm (M5 (fun hh=>hh ⟨a,.inl c2⟩)))
   ·rw[QO c2,M3];by_cases b:fo r.Mk.data=true
    ·rw[QM b]; exact congrArg some (Eq.symm (M5 (fun hh=>hh ⟨a,.inr b⟩)))
    ·rw[QO b]; exact congrArg some (Eq.symm (M4 (fun hh=>hh.2.elim c2 b)))
  ·rw[QO a]; exact congrArg some (Eq.symm (M4 (fun hh=>a hh.1)))
 have i:((if r.Mz<(-1) then some true else (if r.Mz>1 then some true else (if r.Mh<0 then some true else ((jy r.Mh 4).bind fun f=>if f=true then some false else some true)))):Option Bool)=some (decide (¬ AV r)):=by
  rw[gG _ _ h.1,M3,jX];unfold AV;by_cases a:r.Mz < -1
  ·rw[QM a,M4 QI]
  rw[QO a];by_cases c2:r.Mz>1
  ·rw[QM c2,M4 QI]
  rw[QO c2];by_cases b:r.Mh<0
  ·rw[QM b,M4 QI]
  rw[QO b];by_cases c:r.Mh<=2147483647
  ·rw[QM (M4 QI),M5 QI]
  ·rw[QO (by rw[decide_eq_true_eq]; omega),M4 QI]
 rw[g,M3];by_cases a:D0 r;rotate_left
 ·rw[M4 a,QM rfl,QO a]
 rw[M5 (fun hh=>hh a),QO QJ,QM a,i,M3];by_cases c2:AV r;rotate_left
 ·rw[M4 c2,QM rfl,QO c2]
 rw[M5 (fun hh=>hh c2),QO QJ,QM c2,IF _ (by have:=h.2.1; omega) h.2.2,M3];by_cases b:vy r.Mc=0
 ·rw[QM b,QM b,pc_l1 r v 0 _ h.2.2];by_cases c:lD v r.Mk.null r.Mc=0
  ·rw[QM c,c]; rfl
  ·rw[QO c]; rfl
 ·rw[QO b,QO b]
theorem rc_l2 (r:aC) (v:Int) (hv:v=3\/v=4) (t:aM) (j:Nat) (hj:r.Mc[j]? = some t) (hn:t.Me.length<=140737488351232) (y:Int): ∀ (l:List bl) (k fuel:Nat),t.Me.drop k=l->l.length<fuel->(∀ p,p∈l->gdP p)-> ∃ z,dT (ofQ r) v j fuel y k=some (if kO v r.Mk.null l=0 then .go (y,z) else .ret (kO v r.Mk.null l))
 | [],k,fuel+1,h,hf,_=>by
  have:=eF h;have b:(ofQ r).Mc[j]? = some (ofT t):=by show (r.Mc.map ofT)[j]? = _; rw[List.getElem?_map,hj]; rfl
  exact⟨k,by rw[dT,b,M3,QO (by show ¬ (k:Int)<((t.Me.map ofP).length:Int); rw[NB]; omega)]; rfl⟩
 | p::l,k,fuel+1,h,hf,hw=>by
  obtain⟨d,e,m⟩:=dc h;obtain⟨n,f,g⟩:=hw p (.head _);rw[Ng] at hf;obtain⟨z,hz⟩:=rc_l2 r v hv t j hj hn y l (k+1) fuel e QI (fun x hx=>hw x (.tail _ hx));have b:(ofQ r).Mc[j]? = some (ofT t):=by show (r.Mc.map ofT)[j]? = _; rw[List.getElem?_map,hj]; rfl
  have i:(ofT t).Me[k]? = some (ofP p):=by show (t.Me.map ofP)[k]? = _; rw[List.getElem?_map,d]; rfl
  have R5: (A0 ((k:Int)+1)):=by omega
  have hb:=fun nul=>Cp p.Mq nul v hv f g;refine⟨z,?_⟩;rw[dT,b,M3,QM (by show (k:Int)<((t.Me.map ofP).length:Int); rw[NB]; omega),i,M3,kO];show (if r.Mk.null=true then ((fF p.Mq false v).bind _) else ((fF p.Mq true v).bind _))= _;by_cases c:r.Mk.null=true
  ·have a:=hb true;rw[Bool.not_true] at a;rw[QM c,a,M3,QM R5,hz,c];by_cases c2:tA v true p.Mq=0
   ·rw[QM c2,QM c2]
   ·rw[QO c2,QO c2,QO c2]
  ·have a:=hb false;rw[Bool.not_false] at a;have c':r.Mk.null=false:=by simpa using c
   rw[QO c,a,M3,QM R5,hz,c'];by_cases c2:tA v false p.Mq=0
   ·rw[QM c2,QM c2]
   ·rw[QO c2,QO c2,QO c2]
theorem rc_l1 (r:aC) (v:Int) (hv:v=3\/v=4) (hn:r.Mc.length<=140737488351232) (y:Int): ∀ (l:List aM) (k fuel:Nat),r.Mc.drop k=l->l.length<fuel->(∀ t,t∈l->gdT t)-> ∃ z,dU (ofQ r) v fuel y k=some (if lD v r.Mk.null l=0 then .go (y,z) else .ret (lD v r.Mk.null l))
 | [],k,fuel+1,h,hf,_=>by
  have:=eF h;exact⟨k,by rw[dU,QO (by show ¬ (k:Int)<((r.Mc.map ofT).length:Int); rw[NB]; omega)]; rfl⟩
 | t::l,k,fuel+1,h,hf,hw=>by
  obtain⟨a,e,j⟩:=dc h;obtain⟨m,n,f⟩:=hw t (.head _);rw[Ng] at hf;obtain⟨z,hz⟩:=rc_l1 r v hv hn y l (k+1) fuel e QI (fun x hx=>hw x (.tail _ hx));obtain⟨o,b⟩:=rc_l2 r v hv t k a QI y t.Me 0 (t.Me.length+1) rfl QI f;have g:(ofQ r).Mc[k]? = some (ofT t):=by show (r.Mc.map ofT)[k]? = _; rw[List.getElem?_map,a]; rfl
  have i:(((ofQ r).Mc[k]?).map (fun d=>((d.Me.length:Int)).toNat+1)).getD 0=t.Me.length+1:=by
   rw[g];show (((t.Me.map ofP).length:Int)).toNat+1= _;rw[NB]; omega
  refine⟨z,?_⟩;rw[dU,QM (by show (k:Int)<((r.Mc.map ofT).length:Int); rw[NB]; omega),i,b,M3,lD];by_cases c:kO v r.Mk.null t.Me=0
  ·rw[QM c,QM c];dsimp only;rw[QM (show (A0 ((k:Int)+1)) by omega),hz]
  ·rw[QO c,QO c,QO c]
theorem D1 (d:AI):fo d=true↔d ≠ []/\d.length<=32767:=by
 unfold fo
 cases d with
 | nil=>simp
 | cons c d=>simp; omega
theorem D2 (n:Bool) (d:AI) (b:Bl) (a:b.null=n) (c:b.data=d):bM b=true↔(n=true->d = []):=by
 unfold bM;rw[a,c];cases n <;> cases d <;> simp
theorem IH (r:aC) (v:Int) (hv:v=3\/v=4) (h:gdQ r):kf (ofQ r) v=some (wk v r):=by
 have g:(ofQ r).Mc.length=r.Mc.length:=NB _;unfold kf wk;rw[g];have i:((if r.Mk.null=true then (if r.Mk.data = [] then some false else some true) else (if (r.Mk.data.length:Int)<1 then some true else (if (r.Mk.data.length:Int)>32767 then some true else some false))):Option Bool)=some (decide (¬ D0 r)):=by
  have hk:=D1 r.Mk.data;have hb:=D2 r.Mk.null r.Mk.data r.Mk rfl rfl;by_cases c2:r.Mk.null=true
  ·rw[QM c2];by_cases a:r.Mk.data = []
   ·rw[QM a];exact congrArg some (Eq.symm (M5 (fun hh=>hh ⟨hb.2 (fun _=>a),.inl c2⟩)))
   ·rw[QO a];exact congrArg some (Eq.symm (M4 (fun hh=>a (hb.1 hh.1 c2))))
  ·rw[QO c2];by_cases a:r.Mk.data = []
   ·rw[QM (by rw[a]; decide)];exact congrArg some (Eq.symm (M4 (fun hh=>hh.2.elim c2 (fun h=>(hk.1 h).1 a))))
   ·have hl:0<r.Mk.data.length:=List.length_pos_iff.2 a;rw[QO QI];by_cases b:(r.Mk.data.length:Int)>32767
    ·rw[QM b];exact congrArg some (Eq.symm (M4 (fun hh=>hh.2.elim c2 (fun h=>by have:=(hk.1 h).2; omega))))
    ·rw[QO b];exact congrArg some (Eq.symm (M5 (fun hh=>hh ⟨hb.2 (fun h=>absurd h c2),.inr (hk.2 ⟨a,by omega⟩)⟩)))
 have j:((if r.Mz<(-1) then some true else (if r.Mz>1 then some true else (if r.Mh<0 then some true else (if r.Mh>2147483647 then some true else some false)))):Option Bool)=some (decide (¬ AV r)):=by
  unfold AV;by_cases c:r.Mz < -1
  ·rw[QM c,M4 QI]
  rw[QO c];by_cases c2:r.Mz>1
  ·rw[QM c2,M4 QI]
  rw[QO c2];by_cases a:r.Mh<0
  ·rw[QM a,M4 QI]
  rw[QO a];by_cases b:r.Mh>2147483647
  ·rw[QM b,M4 QI]
  ·rw[QO b,M5 QI]
 show ((if r.Mk.null=true then (if r.Mk.data = [] then some false else some true) else (if (r.Mk.data.length:Int)<1 then some true else (if (r.Mk.data.length:Int)>32767 then some true else some false))).bind fun k=>if k=true then some 4 else ((if r.Mz<(-1) then some true else (if r.Mz>1 then some true else (if r.Mh<0 then some true else (if r.Mh>2147483647 then some true else some false)))).bind fun f=>if f=true then some 11 else ((lg (r.Mc.map ofT)).bind fun d=>if d=0 then ((dU (ofQ r) v (((r.Mc.length:Int)).toNat+1) 0 0).bind fun e=>match e with | .ret r=>some r | .go (l,m)=>some 0) else some d)))= _;rw[i,M3];by_cases c:D0 r;rotate_left
 ·rw[M4 c,QM rfl,QO c]
 rw[M5 (fun hh=>hh c),QO QJ,QM c,j,M3];by_cases c2:AV r;rotate_left
 ·rw[M4 c2,QM rfl,QO c2]
 rw[M5 (fun hh=>hh c2),QO QJ,QM c2,DZ _ h.2.1 h.2.2,M3];by_cases a:vy r.Mc=0
 ·obtain⟨z,hz⟩:=rc_l1 r v hv (by have:=h.2.1; omega) 0 r.Mc 0 (((r.Mc.length:Int)).toNat+1) rfl QI h.2.2;rw[QM a,QM a,hz];by_cases b:lD v r.Mk.null r.Mc=0
  ·rw[QM b,b]; rfl
  ·rw[QO b]; rfl
 ·rw[QO a,QO a]
def pK:Nat->Pr (List Bat)
 | 0=> .ret []
 | n+1=>fun s q=>if q=s.length then .ok ([],q) else (tz.bind fun b=>(pK n).bind fun l=> .ret (b::l)) s q
theorem oX {b:Bat} (h:okB b):61<=(iQ b).length:=by rw[uW h]; omega
theorem zO: ∀ (n:Nat) (s:AI) (q:Nat) (l:List Bat) (r:Nat),q<=s.length->s.length - q<=n->pK n s q= .ok (l,r)->r=s.length/\s.drop q=dF iQ l/\ ∀ b,b∈l->okB b
 | 0,s,q,l,r,hq,hn,h=>by
  injection h with h;obtain⟨rfl,rfl⟩:=NE h;exact⟨by omega,by rw[List.drop_eq_nil_of_le QI]; rfl,fun b h=>nomatch h⟩
 | n+1,s,q,l,r,hq,hn,h=>by
  unfold pK at h;by_cases he:q=s.length
  ·rw[QM he] at h;injection h with h;obtain⟨rfl,rfl⟩:=NE h;exact⟨he,by rw[List.drop_eq_nil_of_le QI]; rfl,fun b h=>nomatch h⟩
  rw[QO he] at h;obtain⟨b,m,c,d⟩:=Pr.bind_ok h;obtain⟨bs,f,g,a⟩:=Pr.bind_ok d;injection a with a;obtain⟨rfl,rfl⟩:=NE a;obtain⟨a1,a2,a3,a4,a5⟩:=AR.spell s q b m hq c;have hp:=oX a5;obtain⟨i,j,k⟩:=zO n s m bs f a2 QI g;refine⟨i,?_,fun y hy=> ?_⟩
  ·have e:s.drop q=iQ b++s.drop m:=by
    have o:s=s.take q++iQ b++s.drop m:=by rw[<- a4,List.take_append_drop]
    conv=>lhs; rw[o,Nd,List.drop_left' (by rw[Np]; omega)]
   rw[e,j,dF]
  ·rcases List.mem_cons.1 hy with rfl | hy
   ·exact a5
   ·exact k y hy
theorem Ct: ∀ (l:List Bat) (n:Nat) (s:AI) (q:Nat),q<=s.length->s.length - q<=n->(∀ b,b∈l->okB b)->s.drop q=dF iQ l->pK n s q= .ok (l,s.length)
 | [],n,s,q,hq,hn,_,hd=>by
  have hl:=congrArg List.length hd;rw[Nb] at hl;have hl:s.length - q=0:=hl;have:q=s.length:=by omega
  subst this
  cases n with
  | zero=>rfl
  | succ n=>exact QM rfl
 | b::l,n,s,q,hq,hn,ho,hd=>by
  have hl:=congrArg List.length hd;rw[dF] at hd;rw[Nb,dF,M8] at hl;have hp:=oX (ho b (.head _))
  cases n with
  | zero=>omega
  | succ n =>
   have a:=AR.back s _ q b hq (ho b (.head _)) hd;have c:=Ct l n s (q+(iQ b).length) QI QI (fun y hy=>ho y (.tail _ hy)) (cI hd);show (if q=s.length then _ else _)= _;rw[QO QI,Pr.bind_of a,Pr.bind_of c];rfl
theorem gw {α:Type} {enc:α->AI}: ∀ (l:List α) (x:α),x∈l->(enc x).length<=(dF enc l).length
 | c::l,x,h=>by
  rw[dF,M8];rcases List.mem_cons.1 h with rfl | h
  ·omega
  ·have:=gw (enc:=enc) l x h; omega
theorem uZ {l:List Bat} (h: ∀ b,b∈l->okB b):l.length*61<=(dF iQ l).length:=jV (ok:=okB) (fun x hx=>oX hx) l h
def n9:Pr AI:=fW (jH 4)
theorem yf:Sp n9 (fun d=>be (d.length:Int) 4++d) (fun d=>bG (d.length:Int) 4=true/\bM ⟨false,d⟩=true):=Au (eE 4 QJ QJ)
def rV (i:Int) (d:AI):Pr bl:=match pK d.length d 0 with | .error e=> .err e | .ok (l,_)=> .ret ⟨i,l⟩
def jT:Pr bl:=(bP 4).bind fun i=>n9.bind fun d=>rV i d
def lU (p:bl):AI:=be p.Mw 4++(be ((dF iQ p.Mq).length:Int) 4++dF iQ p.Mq)
def Cu (p:bl):Prop:=bG p.Mw 4=true/\bG ((dF iQ p.Mq).length:Int) 4=true/\ ∀ b,b∈p.Mq->okB b
theorem II {i:Int} {d s:AI} {q r:Nat} {p:bl} (h:rV i d s q= .ok (p,r)):r=q/\p.Mw=i/\d=dF iQ p.Mq/\ ∀ b,b∈p.Mq->okB b:=by
 unfold rV at h
 cases ha:pK d.length d 0 with
 | error e=>rw[ha] at h; exact nomatch h
 | ok x =>
  rw[ha] at h;injection h with h;obtain⟨rfl,rfl⟩:=NE h;obtain⟨a1,a2,a3⟩:=zO _ d 0 x.1 x.2 (Nn _) QI ha;rw[List.drop_zero] at a2;exact⟨rfl,rfl,a2,a3⟩
theorem IJ (i:Int) {l:List Bat} (h: ∀ b,b∈l->okB b) (s:AI) (q:Nat):rV i (dF iQ l) s q= .ok (⟨i,l⟩,q):=by
 unfold rV;rw[Ct l _ (dF iQ l) 0 (Nn _) QI h List.drop_zero];rfl
theorem Cv:Sp jT lU Cu:=by
 refine⟨fun s q a r hq h=> ?_,fun s t q a hq ha h=> ?_⟩
 ·obtain⟨i,m,b,h⟩:=Pr.bind_ok h;obtain⟨d,n,c,h⟩:=Pr.bind_ok h;obtain⟨rfl,c2,rfl,e⟩:=II h;obtain⟨a1,a2,a3,a4,a5⟩:=(bW 4 QJ QJ).spell _ _ _ _ hq b;obtain⟨o,f,p,g,j⟩:=yf.spell _ _ _ _ a2 c;refine⟨by omega,f,by simp only[lU,M8,aZ] at *; omega,by rw[g,a4]; simp only[lU,c2,Nd],by rw[c2]; exact a5,j.1,e⟩
 ·obtain⟨a1,a2,a3⟩:=ha;have hl:=congrArg List.length h;rw[lU,Nd] at h;have k:=(bW 4 QJ QJ).back _ _ _ _ hq a1 h;have h:=cI h;have l:=yf.back _ _ _ _ (by simp only[lU,Nb,M8,aZ] at *; omega) ⟨a2,rfl⟩ h;rw[jT,Pr.bind_of k,Pr.bind_of l,IJ _ a3];simp only[lU,M8,Nat.add_assoc]
theorem tB (p:bl) (h:Cu p):8<=(lU p).length:=by simp only[lU,M8,aZ]; omega
def eM:Pr aM:=jo.bind fun nm=>(fO 4 8 jT).bind fun ps=> .ret ⟨nm,ps⟩
def kY (t:aM):AI:=(be (t.Mm.length:Int) 2++t.Mm)++(be (t.Me.length:Int) 4++dF lU t.Me)
def AW (t:aM):Prop:=bG (t.Mm.length:Int) 2=true/\bG (t.Me.length:Int) 4=true/\ ∀ p,p∈t.Me->Cu p
theorem u0:Sp (fO 4 8 jT) (fun l=>be (l.length:Int) 4++dF lU l) (fun l=>bG (l.length:Int) 4=true/\ ∀ p,p∈l->Cu p):=xq 4 8 QJ QJ Cv tB
theorem zS:Sp eM kY AW:=by
 refine⟨fun s q a r hq h=> ?_,fun s t q a hq ha h=> ?_⟩
 ·obtain⟨k,j,b,h⟩:=Pr.bind_ok h;obtain⟨v,l,c,h⟩:=Pr.bind_ok h;injection h with h;obtain⟨rfl,rfl⟩:=NE h;obtain⟨a1,a2,a3,a4,a5⟩:=kM.spell _ _ _ _ hq b;obtain⟨m,d,n,e,f⟩:=u0.spell _ _ _ _ a2 c;exact⟨by omega,d,by simp only[kY,M8] at *; omega,by rw[e,a4]; simp only[kY,Nd],a5.1,f⟩
 ·obtain⟨a1,a2,a3⟩:=ha;have hl:=congrArg List.length h;rw[kY,Nd] at h;have g:=kM.back _ _ _ _ hq ⟨a1,rfl⟩ h;have h:=cI h;have i:=u0.back _ _ _ _ (by simp only[kY,Nb,M8,aZ] at *; omega) ⟨a2,a3⟩ h;rw[eM,Pr.bind_of g,Pr.bind_of i];simp only[Pr.ret,kY,M8,Nat.add_assoc]
theorem tC (t:aM) (h:AW t):6<=(kY t).length:=by simp only[kY,M8,aZ]; omega
theorem np:Sp (fO 4 6 eM) (fun l=>be (l.length:Int) 4++dF kY l) (fun l=>bG (l.length:Int) 4=true/\ ∀ t,t∈l->AW t):=xq 4 6 QJ QJ zS tC
def qd (v:Int):Pr aC:=(jH 2).bind fun id=>(bP 2).bind fun a=>(bP 4).bind fun t=>(fO 4 6 eM).bind fun l=>if wk v ⟨id,a,t,l⟩=0 then .ret ⟨id,a,t,l⟩ else .err (wk v ⟨id,a,t,l⟩)
def sF (r:aC):AI:=(be (blen r.Mk) 2++r.Mk.data)++(be r.Mz 2++(be r.Mh 4++(be (r.Mc.length:Int) 4++dF kY r.Mc)))
def okQ (v:Int) (r:aC):Prop:=(bG (blen r.Mk) 2=true/\bM r.Mk=true)/\bG r.Mz 2=true/\bG r.Mh 4=true/\(bG (r.Mc.length:Int) 4=true/\ ∀ t,t∈r.Mc->AW t)/\wk v r=0
theorem D3 (v:Int):Sp (qd v) sF (okQ v):=by
 refine⟨fun s q a r hq h=> ?_,fun s t q a hq ha h=> ?_⟩
 ·obtain⟨id,y,b,h⟩:=Pr.bind_ok h;obtain⟨ac,z,c,h⟩:=Pr.bind_ok h;obtain⟨tm,A,d,h⟩:=Pr.bind_ok h;obtain⟨l,B,e,h⟩:=Pr.bind_ok h;by_cases hc:wk v ⟨id,ac,tm,l⟩=0;rotate_left
  ·rw[QO hc] at h;exact nomatch h
  rw[QM hc] at h;injection h with h;obtain⟨rfl,rfl⟩:=NE h;obtain⟨a1,a2,a3,a4,a5⟩:=(eE 2 QJ QJ).spell _ _ _ _ hq b;obtain⟨C,f,D,g,i⟩:=(bW 2 QJ QJ).spell _ _ _ _ a2 c;obtain⟨E,c2,F,j,k⟩:=(bW 4 QJ QJ).spell _ _ _ _ f d;obtain⟨G,m,H,n,o⟩:=np.spell _ _ _ _ c2 e;exact⟨by omega,m,by simp only[sF,M8] at *; omega,by rw[n,j,g,a4]; simp only[sF,Nd],a5,i,k,o,hc⟩
 ·obtain⟨a1,a2,a3,a4,a5⟩:=ha;have hl:=congrArg List.length h;simp only[sF,Nd] at h;rw[<- Nd] at h;simp only[sF,Nb,M8,aZ] at hl;have p:=(eE 2 QJ QJ).back _ _ _ _ hq a1 h;have h:=cI h;have u:=(bW 2 QJ QJ).back _ _ _ _ (by simp only[M8,aZ] at *; omega) a2 h;have h:=cI h;have w:=(bW 4 QJ QJ).back _ _ _ _ (by simp only[M8,aZ] at *; omega) a3 h;have h:=cI h;rw[<- Nd] at h;have x:=np.back _ _ _ _ (by simp only[M8,aZ] at *; omega) a4 h;rw[qd,Pr.bind_of p,Pr.bind_of u,Pr.bind_of w,Pr.bind_of x,QM a5];simp only[Pr.ret,sF,M8,Nat.add_assoc]
theorem EZ (n:Nat) (acc:List Bat) (x st:I) (h:st.err≠0):cD (n+1) acc x st=some (acc,x,st):=by
 rw[cD,bx,M3];dsimp only;rw[QO h];rfl
theorem pp_l1 (s:AI) (hs:s.length<=1000000) (st:I) (c:st.err=0): ∀ (n fuel:Nat) (acc:List Bat) (q:Nat),q<=s.length->s.length - q<=n->s.length - q+1<fuel->acc.length+(s.length - q)<=1000000 ->
 (∃ e acc' x,pK n s q= .error e/\e≠0/\cD fuel acc ⟨s.drop q,q,0⟩ st=some (acc',x,dw st e))\/(∃ l x,pK n s q= .ok (l,s.length)/\cD fuel acc ⟨s.drop q,q,0⟩ st=some (acc++l,x,st))
 | n,0,acc,q,hq,hn,hf,_=>absurd hf QI
 | n,fuel+1,acc,q,hq,hn,hf,ha=>by
  have hd:(s.drop q).length=s.length - q:=Nb;rw[cD,bx,M3];dsimp only;rw[QM c,sO,M3];dsimp only;by_cases he:q=s.length
  ·rw[QO QI,M3];dsimp only;rw[QO QJ];refine .inr ⟨[],_,?_,by rw[Nx]⟩
   cases n with
   | zero=>rw[he]; rfl
   | succ n=>rw[he]; exact QM rfl
  rw[QM QI,M3];dsimp only;rw[QM rfl]
  cases n with
  | zero=>omega
  | succ n =>
  unfold pK;rw[QO he];rcases B_bat.run s q hs hq with⟨e,j,a,d,f,g⟩ | ⟨b,r,a,d,o,k⟩
  ·refine .inl ⟨e,acc ++ [zBat],j,by rw[Pr.bind_err a],by rw[<- f]; exact g,?_⟩;rw[d,M3];dsimp only;rw[QM QI,bx,M3];dsimp only;rw[QO g,dx,M3,M3,f];have hfl:fuel=(fuel - 1)+1:=by omega
   rw[hfl];refine EZ _ _ _ _ ?_;rw[dw,QM c];show e≠0;rw[<- f]; exact g
  ·have a3:=(AR.spell s q b r hq a);have hp:=oX a3.2.2.2.2;have a4:=a3.2.2.1;rw[d,M3];dsimp only;rw[QM QI,bx,M3];dsimp only;rw[QM rfl,M3];rcases pp_l1 s hs st c n fuel (acc ++ [b]) r k QI QI (by rw[M8,NY]; omega) with⟨e,acc',x,h,i,m⟩ | ⟨l,x,h,i⟩
   ·exact .inl ⟨e,acc',x,by rw[Pr.bind_of a,Pr.bind_err h],i,m⟩
   ·exact .inr ⟨b::l,x,by rw[Pr.bind_of a,Pr.bind_of h]; rfl,by rw[i,Nd]; rfl⟩
theorem Ge (s:AI) (hs:s.length<=1000000) (q:Nat) (hq:q<=s.length) :
 (∃ e p st,jT s q= .error e/\gP ⟨s.drop q,q,0⟩=some (p,st)/\st.err=e/\e≠0)\/(∃ p r,jT s q= .ok (p,r)/\gP ⟨s.drop q,q,0⟩=some (p,⟨s.drop r,r,0⟩)/\q<=r/\r<=s.length):=by
 have dead: ∀ (i:Int) (d:AI) (st:I),d.length<=1000000->st.err≠0->((vE d).bind fun f=>(cD (((f.rest.length:Int)+(st.rest.length:Int)+1).toNat+1) [] f st).bind fun (o,z,j)=>some ((⟨i,o⟩:bl),j))=some (⟨i,[]⟩,st):=by
  intro i d st hd h;rw[kn _ QI,M3,EZ _ _ _ _ h];rfl
 unfold gP;rcases Q4.run s q hq with⟨e,st,c,k,t,m⟩ | ⟨i,u,c,k,C,v⟩
 ·refine .inl ⟨e,⟨0,[]⟩,st,Pr.bind_err c,?_,t,by rw[<- t]; exact m⟩;rw[k,M3];dsimp only;rw[lS m,M3];dsimp only;rw[QO QJ,M3];exact dead 0 [] st QJ m
 rw[k,M3];dsimp only;rcases QF4.run s u v with⟨e,st,g,n,w,y⟩ | ⟨b,a,g,n,D,A⟩
 ·refine .inl ⟨e,⟨i,[]⟩,st,by rw[jT,Pr.bind_of c,Pr.bind_err]; rw[n9,fW,Pr.bind_err g],?_,w,by rw[<- w]; exact y⟩;rw[n,M3];dsimp only;rw[QO QJ,M3];exact dead i [] st QJ y
 have B:=(eE 4 QJ QJ).spell _ _ _ _ v g;have hbl:b.data.length<=1000000:=by
  have:=B.2.2.1;rw[M8] at this;omega
 rw[n,M3];dsimp only;by_cases hb:b.null=true
 ·refine .inl ⟨4,⟨i,[]⟩,⟨s.drop a,a,4⟩,by rw[jT,Pr.bind_of c,Pr.bind_err]; rw[n9,fW,Pr.bind_of g,QM hb]; rfl,?_,rfl,by decide⟩;rw[QM hb,dx,M3,M3,tk];exact dead i b.data _ hbl (show (4:Int)≠0 by decide)
 have hx:n9 s u= .ok (b.data,a):=by
  rw[n9,fW,Pr.bind_of g,QO hb];rfl
 rw[QO hb,M3,kn _ QI,M3];rcases pp_l1 b.data hbl ⟨s.drop a,a,0⟩ rfl b.data.length ((((b.data.length:Int))+((s.drop a).length:Int)+1).toNat+1) [] 0 (Nn _) QI QI (by rw[N8]; omega) with⟨e,acc',x,r1,r2,r3⟩ | ⟨l,x,r1,r2⟩
 ·rw[List.drop_zero] at r3;refine .inl ⟨e,⟨i,acc'⟩,⟨s.drop a,a,e⟩,?_,?_,rfl,r2⟩
  ·rw[jT,Pr.bind_of c,Pr.bind_of hx,rV,r1];rfl
  ·rw[r3];rfl
 ·rw[List.drop_zero] at r2;refine .inr ⟨⟨i,l⟩,a,?_,?_,by omega,A⟩
  ·rw[jT,Pr.bind_of c,Pr.bind_of hx,rV,r1];rfl
  ·rw[r2];rfl
def zQ:aC:=⟨⟨false,[]⟩,0,0,[]⟩
theorem JP {p:bl} (h:Cu p) (hl:(lU p).length<=1000000):gdP p:=by
 have a:=uZ h.2.2;simp only[lU,M8,aZ] at hl;refine⟨iC h.1,by omega,fun b hb=>xX (h.2.2 b hb) ?_⟩;have:=gw (enc:=iQ) _ b hb;omega
theorem JR {t:aM} (h:AW t) (hl:(kY t).length<=1000000):gdT t:=by
 have a:=jV (ok:=Cu) tB t.Me h.2.2;simp only[kY,M8,aZ] at hl;refine⟨by omega,by omega,fun p hp=>JP (h.2.2 p hp) ?_⟩;have:=gw (enc:=lU) t.Me p hp;omega
theorem D4 {a:Bl} {k t:Int} {l:List aM} (ht:bG t 4=true) (h: ∀ x,x∈l->AW x) (hl:(dF kY l).length<=1000000):gdQ ⟨a,k,t,l⟩:=by
 have b:=jV (ok:=AW) tC l h;refine⟨iC ht,by show l.length*40<= _; omega,fun x hx=>JR (h x hx) ?_⟩;have:=gw (enc:=kY) l x hx;omega
theorem JS {v:Int} {r:aC} (h:okQ v r) (hl:(sF r).length<=1000000):gdQ r:=by
 simp only[sF,M8,aZ] at hl;exact D4 h.2.2.1 h.2.2.2.1.2 QI
theorem qr_l2 (n:Int) (s:AI) (hs:s.length<=1000000) (hn:n<=1000000): ∀ (m fuel k:Nat) (acc:List bl) (q:Nat),((k+m:Nat):Int)=n->m<fuel->q<=s.length->acc.length=k ->
 (∃ (e:Int) (st:I),dE jT m s q= .error e/\cg n fuel k acc ⟨s.drop q,q,0⟩=some (.ret (zQ,st))/\st.err=e/\e≠0) \/
 (∃ l r,dE jT m s q= .ok (l,r)/\cg n fuel k acc ⟨s.drop q,q,0⟩=some (.go (k+m,acc++l,⟨s.drop r,r,0⟩))/\q<=r/\r<=s.length)
 | 0,fuel+1,k,acc,q,h,i,a,d=> .inr ⟨[],q,rfl,by rw[cg,QO QI,Nx]; rfl,NA _,a⟩
 | m+1,fuel+1,k,acc,q,h,i,a,d=>by
  rw[cg,QM QI];rcases Ge s hs q a with⟨e,p,st,b,c,f,g⟩ | ⟨p,r,b,c,o,j⟩
  ·refine .inl ⟨e,st,by rw[dE,Pr.bind_err b],?_,f,g⟩;rw[c,M3];dsimp only;rw[QM QI,bx,M3];dsimp only;rw[QO (by rw[f]; exact g)];rfl
  ·rw[c,M3];dsimp only;rw[QM QI,bx,M3];dsimp only;rw[QM rfl,QM QI,dE,Pr.bind_of b];rcases qr_l2 n s hs hn m fuel (k+1) (acc ++ [p]) r QI QI j (by rw[M8,d]; rfl) with⟨e,st,r1,r2,r3,r4⟩ | ⟨l,r',r1,r2,r3,r4⟩
   ·exact .inl ⟨e,st,by rw[Pr.bind_err r1],r2,r3,r4⟩
   ·refine .inr ⟨p::l,r',by rw[Pr.bind_of r1]; rfl,?_,by omega,r4⟩;rw[r2,Nd,show k+1+m=k+(m+1) by omega];rfl
theorem qr_l1 (n:Int) (s:AI) (hs:s.length<=1000000) (hn:n<=1000000): ∀ (m fuel k:Nat) (acc:List aM) (q:Nat),((k+m:Nat):Int)=n->m<fuel->q<=s.length->acc.length=k ->
 (∃ (e:Int) (st:I),dE eM m s q= .error e/\dm n fuel k acc ⟨s.drop q,q,0⟩=some (.ret (zQ,st))/\st.err=e/\e≠0) \/
 (∃ l r,dE eM m s q= .ok (l,r)/\dm n fuel k acc ⟨s.drop q,q,0⟩=some (.go (k+m,acc++l,⟨s.drop r,r,0⟩))/\q<=r/\r<=s.length)
 | 0,fuel+1,k,acc,q,A,B,f,u=> .inr ⟨[],q,rfl,by rw[gF,QO QI,Nx]; rfl,NA _,f⟩
 | m+1,fuel+1,k,acc,q,A,B,f,u=>by
  rw[gF,QM QI];rcases QT.run s q f with⟨e,st,b,g,v,h⟩ | ⟨nm,C,b,g,F,w⟩
  ·refine .inl ⟨e,st,by rw[dE,Pr.bind_err (show eM s q= .error e from Pr.bind_err b)],?_,v,by rw[<- v]; exact h⟩;rw[g,M3];dsimp only;rw[ni h QJ QJ,M3];dsimp only;rw[show (0:Int).toNat+1=0+1 from rfl,cg,QO QJ,M3];dsimp only;rw[bx,M3];dsimp only;rw[QO h];rfl
  rw[g,M3];dsimp only;rcases (tn 4 8 QJ QJ 4 8 rfl rfl QJ).run s C w with⟨e,st,d,i,x,y⟩ | ⟨c,D,d,i,G,E⟩
  ·refine .inl ⟨e,st,by rw[dE,Pr.bind_err]; rw[eM,Pr.bind_of b,Pr.bind_err]; rw[fO,Pr.bind_err d],?_,x,by rw[<- x]; exact y⟩;rw[i,M3];dsimp only;rw[show (0:Int).toNat+1=0+1 from rfl,cg,QO QJ,M3];dsimp only;rw[bx,M3];dsimp only;rw[QO y];rfl
  obtain⟨H,c2,J,K,L,M⟩:=gV QJ QJ w d;have c2:=c2 QJ;rw[i,M3];dsimp only;rcases qr_l2 c s hs QI c.toNat (c.toNat+1) 0 [] D QI QI E rfl with⟨e,st,r1,r2,r3,r4⟩ | ⟨ps,j,r1,r2,r3,r4⟩
  ·refine .inl ⟨e,st,by rw[dE,Pr.bind_err]; rw[eM,Pr.bind_of b,Pr.bind_err]; rw[fO,Pr.bind_of d,r1],?_,r3,r4⟩;rw[r2];rfl
  have ht:eM s q= .ok (⟨nm,ps⟩,j):=by
   rw[eM,Pr.bind_of b,Pr.bind_of (a:=ps) (r:=j) (by rw[fO,Pr.bind_of d,r1])];rfl
  rw[r2,M3];dsimp only;rw[bx,M3];dsimp only;rw[QM rfl,QM QI,QM QI,Nm,dE,Pr.bind_of ht];rcases qr_l1 n s hs hn m fuel (k+1) (acc ++ [⟨nm,ps⟩]) j QI QI r4 (by rw[M8,u]; rfl) with⟨e,st,o,p,z,t⟩ | ⟨l,r',o,p,z,t⟩
  ·exact .inl ⟨e,st,by rw[Pr.bind_err o],p,z,t⟩
  ·refine .inr ⟨⟨nm,ps⟩::l,r',by rw[Pr.bind_of o]; rfl,?_,by omega,t⟩;rw[p,Nd,show k+1+m=k+(m+1) by omega];rfl
theorem IK (v:Int):CB (fun st=>eD st v) (qd v) zQ:=by
 have tail: ∀ (b:Bl) (a t:Int) (st:I),st.err≠0->((iG st).bind fun (m,d)=>(if m=0 then ((cC (⟨b,a,t,[]⟩:aC) v).bind fun g=>(if g=0 then some d else ((ci d g).bind fun i=>some i)).bind fun j=>some j) else some d).bind fun k=>(iG k).bind fun (n,f)=>if n=0 then (some ((⟨b,a,t,[]⟩:aC),f)) else (some ((⟨(⟨false,[]⟩:Bl),0,0,[]⟩:aC),f)))=some (zQ,st):=by
  intro b a t st h;rw[bx,M3];dsimp only;rw[QO h,M3,bx,M3];dsimp only;rw[QO h];rfl
 have dead: ∀ (b:Bl) (a t:Int) (st:I),st.err≠0->((jB st 4 6).bind fun (B,C)=>(dm B ((B).toNat+1) 0 [] C).bind fun e=>match e with | .ret r=>some r | .go (O,w,y)=>((iG y).bind fun (m,d)=>(if m=0 then ((cC (⟨b,a,t,w⟩:aC) v).bind fun g=>(if g=0 then some d else ((ci d g).bind fun i=>some i)).bind fun j=>some j) else some d).bind fun k=>(iG k).bind fun (n,f)=>if n=0 then (some ((⟨b,a,t,w⟩:aC),f)) else (some ((⟨(⟨false,[]⟩:Bl),0,0,[]⟩:aC),f))))=some (zQ,st):=by
  intro b a t st h;rw[ni h QJ QJ,M3];dsimp only;rw[show (0:Int).toNat+1=0+1 from rfl,gF,QO QJ,M3];exact tail b a t st h
 refine⟨fun st h=> ?_,fun s q hs hq=> ?_⟩
 ·show eD st v= _;unfold eD;rw[lS h,M3];dsimp only;rw[lq h,M3];dsimp only;rw[lq h,M3];exact dead _ _ _ st h
 ·show (∃ e st,qd v s q= _/\eD _ v= _/\ _/\ _)\/(∃ a r,qd v s q= _/\eD _ v= _/\ _/\ _);unfold eD;rcases QF2.run s q hq with⟨e,st,o,D,P,z⟩ | ⟨b,Q,o,D,n1,R⟩
  ·refine .inl ⟨e,st,Pr.bind_err o,?_,P,z⟩;rw[D,M3];dsimp only;rw[lq z,M3];dsimp only;rw[lq z,M3];exact dead _ _ _ st z
  rw[D,M3];dsimp only;rcases Q2.run s Q R with⟨e,st,p,E,S,F⟩ | ⟨a,T,p,E,n2,L⟩
  ·refine .inl ⟨e,st,by rw[qd,Pr.bind_of o,Pr.bind_err p],?_,S,F⟩;rw[E,M3];dsimp only;rw[lq F,M3];exact dead _ _ _ st F
  rw[E,M3];dsimp only;rcases Q4.run s T L with⟨e,st,u,G,U,M⟩ | ⟨t,N,u,G,n3,H⟩
  ·refine .inl ⟨e,st,by rw[qd,Pr.bind_of o,Pr.bind_of p,Pr.bind_err u],?_,U,M⟩;rw[G,M3];exact dead _ _ _ st M
  rw[G,M3];dsimp only;rcases (tn 4 6 QJ QJ 4 6 rfl rfl QJ).run s N H with⟨e,st,x,J,V,K⟩ | ⟨c,W,x,J,n4,X⟩
  ·refine .inl ⟨e,st,by rw[qd,Pr.bind_of o,Pr.bind_of p,Pr.bind_of u,Pr.bind_err]; rw[fO,Pr.bind_err x],?_,V,K⟩;have:=dead b a t st K;rw[ni K QJ QJ] at this;rw[J];exact this
  obtain⟨c1,c2,c3,c4,c5,c6⟩:=gV QJ QJ H x;have c2:=c2 QJ;rw[J,M3];dsimp only;rcases qr_l1 c s hs QI c.toNat (c.toNat+1) 0 [] W QI QI X rfl with⟨e,st,r1,r2,r3,r4⟩ | ⟨l,A,r1,r2,r3,r4⟩
  ·refine .inl ⟨e,st,by rw[qd,Pr.bind_of o,Pr.bind_of p,Pr.bind_of u,Pr.bind_err]; rw[fO,Pr.bind_of x,r1],?_,r3,by rw[r3]; exact r4⟩;rw[r2];rfl
  have hl:fO 4 6 eM s N= .ok (l,A):=by rw[fO,Pr.bind_of x,r1]
  obtain⟨d1,d2,Y,d4,d5⟩:=np.spell _ _ _ _ H hl;obtain⟨t1,t2,t3,t4,t5⟩:=(bW 4 QJ QJ).spell _ _ _ _ L u;rw[M8,aZ] at Y;have hg:gdQ ⟨b,a,t,l⟩:=D4 t5 d5.2 QI;rw[r2,M3];dsimp only;rw[bx,M3];dsimp only;rw[QM rfl,Nm,pcheck _ v hg,M3,qd,Pr.bind_of o,Pr.bind_of p,Pr.bind_of u,Pr.bind_of hl];by_cases hc:wk v ⟨b,a,t,l⟩=0
  ·rw[QM hc,QM hc];exact .inr ⟨_,A,rfl,rfl,by omega,r4⟩
  ·rw[QO hc,QO hc,dx,tk];refine .inl ⟨_,⟨s.drop A,A,wk v ⟨b,a,t,l⟩⟩,rfl,?_,rfl,hc⟩;rw[M3,M3,M3,bx,M3];dsimp only;rw[QO hc];rfl
def zF:aH:=⟨zHead,zB,zA,zE,[],zQ⟩
def frB (h:fq) (x:bg):aH:=⟨h,x,zA,zE,[],zQ⟩
def frA (h:fq) (x:bU):aH:=⟨h,zB,x,zE,[],zQ⟩
def frE (h:fq) (x:bT):aH:=⟨h,zB,zA,x,[],zQ⟩
def frM (h:fq) (x:List aV):aH:=⟨h,zB,zA,zE,x,zQ⟩
def frP (h:fq) (x:aC):aH:=⟨h,zB,zA,zE,[],x⟩
def rW (v:Int):Pr bg:=if v>0 then xB v else zn v
theorem D5 (v:Int):CB (fun st=>eK st v) (rW v) zB:=by
 unfold rW;by_cases hv:v>0
 ·rw[QM hv]; exact B_beg1 v hv
 ·rw[QO hv]; exact B_beg0 v hv
def pA (h:fq):Pr aH :=
 if h.Mn=22 then (rW h.Ml).map (frB h) else if h.Mn=24 then rP.map (frA h) else if h.Mn=26 then rO.map (frE h)
 else if h.Mn=27 then (gX h.Ml).map (frM h) else (qd h.Ml).map (frP h)
def pIn:Pr aH:=tl.bind pA
def yJ (s:AI):Except Int (aH×Nat)->aH×Int
 | .error e=>(zF,e)
 | .ok (f,r)=>if r<s.length then (zF,2) else (f,0)
def opn (s:AI):aH×Int:=yJ s (pIn s 0)
theorem IL {st:I} (h:st.err≠0):fP st=st:=by
 unfold fP dw;rw[QO h];split <;> rfl
theorem IM (s:AI) (r:Nat) (hr:r<=s.length):fP ⟨s.drop r,r,0⟩=if r<s.length then ⟨s.drop r,r,2⟩ else ⟨s.drop r,r,0⟩:=by
 unfold fP dw;by_cases h:r<s.length
 ·rw[QM h,QO (by intro a; have:=congrArg List.length a; rw[Nb] at this; simp at this; omega)];rfl
 ·rw[QO h,QM (by rw[List.drop_eq_nil_iff]; omega)]
theorem qT {α:Type} {op:I->Option (α×I)} {p:Pr α} {z:α} (h:CB op p z) (g:α->aH) (s:AI) (q:Nat) (hs:s.length<=1000000) (hq:q<=s.length) :
 ((op ⟨s.drop q,q,0⟩).bind fun (i,c)=>(en c).bind fun (b,k)=>if b=0 then some (g i,0) else some (zF,b))=some (yJ s ((p.map g) s q)):=by
 rcases h.run s q hs hq with⟨e,st,d,f,l,j⟩ | ⟨a,r,d,f,n,m⟩
 ·rw[f,Pr.map,Pr.bind_err d];simp only[M3,gH,IL j];rw[QO j,l];rfl
 ·rw[f,Pr.map,Pr.bind_of d];simp only[M3,gH,IM s r m,Pr.ret,yJ];by_cases hr:r<s.length
  ·rw[QM hr,QM hr];rfl
  ·rw[QO hr,QO hr];rfl
theorem JT (s:AI) (hs:s.length<=1000000):kL s=some (opn s):=by
 unfold kL opn pIn;rw[kn s QI];simp only[M3];have j:=Dt.run s 0 (Nn _);rw[List.drop_zero] at j;rcases j with⟨e,st,g,i,k,l⟩ | ⟨h,r,g,i,m,f⟩
 ·rw[i,Pr.bind_err g];simp only[M3,bx];rw[QO l,k];rfl
 ·rw[i,Pr.bind_of g];simp only[M3,bx];rw[QM trivial];unfold pA;by_cases a:h.Mn=22
  ·rw[QM a,QM a]; exact qT (D5 h.Ml) (frB h) s r hs f
  rw[QO a,QO a];by_cases b:h.Mn=24
  ·rw[QM b,QM b]; exact qT Ho (frA h) s r hs f
  rw[QO b,QO b];by_cases c:h.Mn=26
  ·rw[QM c,QM c]; exact qT Hn (frE h) s r hs f
  rw[QO c,QO c];by_cases d:h.Mn=27
  ·rw[QM d,QM d]; exact qT (AC h.Ml) (frM h) s r hs f
  rw[QO d,QO d];exact qT (IK h.Ml) (frP h) s r hs f
def yg:Pr aH:=fun s q=>match bP 4 s q with
 | .error e=> .error e
 | .ok (n,r)=>if n<0 then .error 4 else if (s.length:Int) - r<n then .error 1 else if (opn ((s.drop r).take n.toNat)).2=0 then .ok ((opn ((s.drop r).take n.toNat)).1,r+n.toNat) else .error (opn ((s.drop r).take n.toNat)).2
theorem JU (l:AI) (q:Nat) {n:Int} (h:n<0):cy ⟨l,q,0⟩ n=([],⟨l,q,4⟩):=by
 unfold cy;rw[QO (by simp),QM h]
theorem Gf (l:AI) (q:Nat) {n:Int} (h: ¬ n<0) (a:(l.length:Int)<n):cy ⟨l,q,0⟩ n=([],⟨l,q,1⟩):=by
 unfold cy;rw[QO (by simp),QO h,QM a]
theorem itk_ok (l:AI) (q:Nat) {n:Int} (h: ¬ n<0) (a: ¬ (l.length:Int)<n):cy ⟨l,q,0⟩ n=(l.take n.toNat,⟨l.drop n.toNat,q+n.toNat,0⟩):=by
 unfold cy;rw[QO (by simp),QO h,QO a]
theorem B_frm:CB jv yg zF:=by
 refine⟨fun st h=> ?_,fun s q hs hq=> ?_⟩
 ·unfold jv;rw[lq h];simp only[M3,og _ _ (by decide:(-9223372036854775808:Int)<=0/\(0:Int)<=9223372036854775807),cy,QM h,bx,QO h];rfl
 ·unfold jv yg;rcases Q4.run s q hq with⟨e,st,c,d,i,f⟩ | ⟨n,r,c,d,j,k⟩
  ·refine .inl ⟨e,st,by rw[c],?_,i,f⟩;rw[d];simp only[M3,og _ _ (by decide:(-9223372036854775808:Int)<=0/\(0:Int)<=9223372036854775807),cy,QM f,bx,QO f];rfl
  ·have hn:=iC ((bW 4 QJ QJ).spell s q n r hq c).2.2.2.2;rw[c,d];simp only[M3,og _ _ hn,bx];by_cases a:n<0
   ·rw[QM a,JU _ _ a];exact .inl ⟨4,⟨s.drop r,r,4⟩,rfl,rfl,rfl,by simp⟩
   rw[QO a];by_cases g:(s.length:Int) - r<n
   ·rw[QM g,Gf _ _ a (by rw[Nb]; omega)];exact .inl ⟨1,⟨s.drop r,r,1⟩,rfl,rfl,rfl,by simp⟩
   rw[QO g,itk_ok _ _ a (by rw[Nb]; omega)];rw[QM rfl,JT _ (by rw[Np,Nb]; omega)];simp only[M3,NM];by_cases b:(opn ((s.drop r).take n.toNat)).2=0
   ·rw[QM b,QM b];exact .inr ⟨_,r+n.toNat,rfl,rfl,by omega,by omega⟩
   ·rw[QO b,QO b,dx];exact .inl ⟨_,dw ⟨s.drop (r+n.toNat),r+n.toNat,0⟩ (opn ((s.drop r).take n.toNat)).2,rfl,rfl,rfl,b⟩
def vI (s:AI) (q k:Nat):Int:=bb ((s.drop q).take k)
def vals (s:AI):List Nat->Nat->List Int
 | [],_ => []
 | k::ks,q=>vI s q k::vals s ks (q+k)
theorem yh (s:AI): ∀ (ks:List Nat) (q:Nat),q+ks.sum<=s.length->rR ks s q= .ok (vals s ks q,q+ks.sum)
 | [],q,_=>rfl
 | k::ks,q,h=>by
  rw[List.sum_cons] at h;have a:bP k s q= .ok (vI s q k,q+k):=by unfold bP; rw[QO QI]; rfl
  rw[rR,Pr.bind_of a,Pr.bind_of (yh s ks (q+k) QI),List.sum_cons,<- Nat.add_assoc];rfl
theorem vz (s:AI): ∀ (ks:List Nat) (q:Nat),q<=s.length->s.length<q+ks.sum->rR ks s q= .error 1
 | [],q,b,a=>by rw[List.sum_nil] at a; omega
 | k::ks,q,b,a=>by
  rw[List.sum_cons] at a;rw[rR];by_cases h:s.length<q+k
  ·exact Pr.bind_err (by unfold bP; rw[QM h])
  ·have c:bP k s q= .ok (vI s q k,q+k):=by unfold bP; rw[QO h]; rfl
   rw[Pr.bind_of c,Pr.bind_err (vz s ks (q+k) QI QI)]
def pOf (s:AI):Pfx:=⟨vI s 0 8,vI s 8 4,vI s 12 4,vI s 17 4 % 4294967296,vI s 21 2,vI s 23 4,vI s 27 8,vI s 35 8,vI s 43 8,vI s 51 2,vI s 53 4,vI s 57 4⟩
def eOf (s:AI):Int:=ckE (vI s 8 4) (vI s 16 1) (vI s 57 4)
theorem JV (s:AI) (h:61<=s.length):xJ s 0=if eOf s=0 then .ok (pOf s,61) else .error (eOf s):=by
 rw[xJ,Pr.bind_of (yh s KS 0 (by show 0+61<= _; omega))];show (if eOf s=0 then Pr.ret (pOf s) else Pr.err (eOf s)) s 61= _;by_cases he:eOf s=0
 ·rw[QM he,QM he]; rfl
 ·rw[QO he,QO he]; rfl
theorem Gg (s:AI) (h:61<=s.length):okI KS (vals s KS 0):=((rj KS B7).spell s 0 _ _ (Nn _) (yh s KS 0 (by show 0+61<= _; omega))).2.2.2.2
theorem r10_at (s:AI) (a k:Nat) (h:a+k<=s.length) (hk:k<=8) (hl:s.length<=1000000):eZ s (a:Int) (k:Int)=some (vI s a k):=by
 unfold eZ;rw[QM QI,QM QI,show ((a:Int)+(k:Int)).toNat - (a:Int).toNat=k by omega,Nu,cX _ (by rw[Np]; omega)];rfl
theorem D6 (s:AI) (h:61<=s.length) (hl:s.length<=1000000):ie s=some (if eOf s=0 then (nS (pOf s),0) else ([],eOf s)):=by
 have hf:=(Gg s h).2.2.2.2.1;have hs:bG (vI s 17 4) 4=true:=hf;rw[jX] at hs;have hs:=of_decide_eq_true hs;have hy:(if vI s 17 4<0 then (if A0 (vI s 17 4+4294967296) then some (vI s 17 4+4294967296) else none) else some (vI s 17 4))=some (vI s 17 4 % 4294967296):=by
  by_cases q:vI s 17 4<0
  ·rw[QM q,QM QI]; congr 1; omega
  ·rw[QO q]; congr 1; omega
 unfold ie;rw[QO QI];have A:=fun (a k:Nat) (c:a+k<=61) (b:k<=8)=>r10_at s a k QI b hl;have a1:=A 17 4 QJ QJ;have a2:=A 0 8 QJ QJ;have a3:=A 8 4 QJ QJ;have a4:=A 12 4 QJ QJ;have a5:=A 21 2 QJ QJ;have a6:=A 23 4 QJ QJ;have a7:=A 27 8 QJ QJ;have a8:=A 35 8 QJ QJ;have a9:=A 43 8 QJ QJ;have a10:=A 51 2 QJ QJ;have a11:=A 53 4 QJ QJ;have a12:=A 57 4 QJ QJ;have a13:=A 16 1 QJ QJ;simp only[Int.cast_ofNat_Int] at a1 a2 a3 a4 a5 a6 a7 a8 a9 a10 a11 a12 a13;rw[a1,M3,hy,M3,a2,M3,a3,M3,a4,M3,a5,M3,a6,M3,a7,M3,a8,M3,a9,M3,a10,M3,a11,M3,a12,M3,a13,M3];unfold eOf ckE;by_cases c:vI s 16 1=2
 ·rw[QM c,QM c];show ((some (vI s 8 4)).bind _)= _;rw[M3];by_cases b:vI s 8 4<49
  ·rw[QM b,QM b,QO QJ]
  ·rw[QO b,QO b];show ((some (vI s 57 4)).bind _)= _;rw[M3];by_cases d:vI s 57 4<0
   ·rw[QM d,QM d,QO QJ]
   ·rw[QO d,QO d,QM rfl];rfl
 ·rw[QO c,QO c,QO QJ]
def fzB:Bat:=⟨0,0,false,false,false,0,0,0,0,0,0,[]⟩
theorem E0 (c:List Int) (n:Int) (a:c[11]? = some n) (hn:n<=4294967296) (s:AI) (hs:s.length<=1000000): ∀ (m k fuel:Nat) (acc:List Rec) (q:Nat),((k+m:Nat):Int)=n->m<fuel->q<=s.length->acc.length+(s.length - q)<=1000000 ->
 (∃ e,nU m s q= .error e/\e≠0/\eS c fuel (s.drop q) k acc=some (.ret ⟨fzB,0,e⟩))\/(∃ l r,nU m s q= .ok (l,r)/\eS c fuel (s.drop q) k acc=some (.go (s.drop r,k+m,acc++l)))
 | 0,k,fuel+1,acc,q,p,t,d,u=> .inr ⟨[],q,rfl,by rw[eS,a,M3,QO QI,Nx]; rfl⟩
 | m+1,k,fuel+1,acc,q,p,t,d,u=>by
  have hd:(s.drop q).length=s.length - q:=Nb;rw[eS,a,M3,QM QI];by_cases hq:q=s.length
  ·refine .inl ⟨10,Pr.bind_err (QM hq),by decide,?_⟩;rw[QM (by rw[hq,List.drop_length])];rfl
  have f:Ck s q= .ok ((),q):=QO hq;rw[QO (by intro h; rw[h,N8] at hd; omega)];rcases Ia s q d hs with⟨e,m',b,o,g⟩ | ⟨x,r,b,y,v,g⟩
  ·refine .inl ⟨e,by rw[nU,Pr.bind_of f,Pr.bind_err b],o,?_⟩;rw[g,M3,QO o];rfl
  ·have a3:=(AL.spell s q x r d b).2.2.1;have a4:=px x;rw[g,M3,QM rfl,QM QI,QM (by dsimp only; rw[Nu]; omega),QM QI];dsimp only;rw[Nu,NM,show q+(r - q)=r by omega];rcases E0 c n a hn s hs m (k+1) fuel (acc ++ [x]) r QI QI v (by rw[M8,NY]; omega) with⟨e,i,j,w⟩ | ⟨l,r',i,j⟩
   ·exact .inl ⟨e,by rw[nU,Pr.bind_of f,Pr.bind_of b,Pr.bind_err i],j,w⟩
   ·refine .inr ⟨x::l,r',by rw[nU,Pr.bind_of f,Pr.bind_of b,Pr.bind_of i]; rfl,?_⟩;rw[j,Nd,show k+1+m=k+(m+1) by omega];rfl
theorem be_low (n:Int): ∃ a b,be n 2 = [a,b]/\(b.toNat:Int) % 8=n % 8:=by
 refine⟨_,_,rfl,?_⟩;rw[UInt8.toNat_ofNat'];rw[Int.pow_zero,Int.ediv_one];omega
theorem Gh {s:AI} {p:Pfx} (hl:(rI p).length=61) (hd:s.take 61=rI p) (c:61<=s.length) (L:Nat) (hL:49<=L):(s.drop 21).take (L+12 - 21)=gZ p++(s.drop 61).take (L - 49):=by
 have a:s=rI p++s.drop 61:=by rw[<- hd,List.take_append_drop]
 have d:(gZ p).length=40:=by rw[<- uU p,Nb,hl]
 have b:s.drop 21=gZ p++s.drop 61:=by
  conv=>lhs; rw[a]
  rw[ER,Nd,<- zH p,List.drop_left]
 rw[b,show L+12 - 21=(gZ p).length+(L - 49) by omega,List.take_length_add_append]
theorem attr_y {n:Int} (c:n % 8=0):((if n<0 then some true else (if n>63 then some true else (if n>=32 then (if 0<=n/\n<=9223372036854775807 then (if (n % 32)<16 then some true else some false) else none) else some false))):Option Bool)=some (decide (dA n≠0)):=by
 unfold dA;rw[QO (show ¬ (n % 8≠0) by omega)];by_cases a:n<0
 ·rw[QM a,QM (.inl a)]; rfl
 by_cases c2:n>63
 ·rw[QO a,QM c2,QM (.inr (.inl QI))]; rfl
 rw[QO a,QO c2];have b:n=0\/n=8\/n=16\/n=24\/n=32\/n=40\/n=48\/n=56:=by omega
 rcases b with rfl | rfl | rfl | rfl | rfl | rfl | rfl | rfl <;> decide
theorem Cw {n:Int} (h:dA n=0):n % 8=0/\0<=n/\n<=63:=by
 unfold dA at h;split at h
 ·cases h
 ·split at h
  ·cases h
  ·omega
theorem IO {n:Int} (a:n % 8=0) (h:dA n≠0):dA n=8:=by
 unfold dA at h ⊢;rw[QO QI] at h ⊢;split at h
 ·rename_i g; rw[QM g]
 ·exact absurd rfl h
theorem bits_d {n:Int} (h:dA n=0):decide (n / 8 % 2=1)=eo n 3/\decide (n / 16 % 2=1)=eo n 4/\decide (n / 32=1)=eo n 5:=by
 obtain⟨b,a,c⟩:=Cw h;have a:n=0\/n=8\/n=16\/n=24\/n=32\/n=40\/n=48\/n=56:=by omega
 rcases a with rfl | rfl | rfl | rfl | rfl | rfl | rfl | rfl <;> decide
theorem IP (s:AI) (hs:s.length<=1000000):(∃ e,tz s 0= .error e/\e≠0/\j0 s=some ⟨fzB,0,e⟩)\/(∃ b r,tz s 0= .ok (b,r)/\r<=s.length/\j0 s=some ⟨b,(r:Int),0⟩):=by
 by_cases d:61<=s.length;rotate_left
 ·have hF:ie s=some ([],1):=by unfold ie; rw[QM QI]
  have hp:xJ s 0= .error 1:=Pr.bind_err (vz s KS 0 (Nn _) (by show _<0+61; omega));refine .inl ⟨1,by unfold tz; rw[hp],by decide,?_⟩;unfold j0;rw[hF];rfl
 have hp:=JV s d;have hB:tz s 0=tz s 0:=rfl
 conv at hB=>rhs; unfold tz; rw[hp]
 unfold j0;rw[D6 s d hs,M3];by_cases c:eOf s=0;rotate_left
 ·rw[QO c] at hB;rw[QO c];dsimp only;rw[QO c];exact .inl ⟨_,hB,c,rfl⟩
 rw[QM c] at hp hB;rw[QM c];obtain⟨a1,a2,a3,a4,ap⟩:=xK.spell s 0 _ _ (Nn _) hp;rw[List.take_zero,Nm] at a4;obtain⟨g,x,y,z⟩:=id ap;have hL:=wI4 g.2.1;have hA:=wI2 g.2.2.2.2.2.1;have hC:=wI4 g.2.2.2.2.2.2.2.2.2.2.2.2.1;have m:=xL g;generalize pOf s=p at *;try dsimp only at hL hA hC
 dsimp only at hB ⊢;rw[QM rfl,show (nS p)[1]? = some p.MB from rfl,M3,QM QI];by_cases hl:s.length<61+(p.MB - 49).toNat
 ·rw[QM hl] at hB;rw[QM QI];exact .inl ⟨1,hB,by decide,rfl⟩
 rw[QO hl] at hB;rw[QO QI,show (nS p)[3]? = some p.MQ from rfl,M3,QM QI,JO _ (by rw[Np,Nb]; omega),M3];have hsp:=Gh m a4 d p.MB.toNat QI;rw[show p.MB.toNat+12 - 21=(p.MB+12).toNat - 21 by omega,show p.MB.toNat - 49=(p.MB - 49).toNat by omega] at hsp;rw[hsp];have hlt:oW 0 (gZ p++(s.drop 61).take (p.MB - 49).toNat)<4294967296:=AO QJ _;rw[QM QI];by_cases hsum:((DT p ((s.drop 61).take (p.MB - 49).toNat):Nat):Int)=p.MQ;rotate_left
 ·rw[QO hsum] at hB;rw[QO (show ¬ (((oW 0 (gZ p++(s.drop 61).take (p.MB - 49).toNat):Nat):Int)=p.MQ) from hsum)];exact .inl ⟨5,hB,by decide,rfl⟩
 rw[QM hsum] at hB;rw[QM (show ((oW 0 (gZ p++(s.drop 61).take (p.MB - 49).toNat):Nat):Int)=p.MQ from hsum),show (nS p)[4]? = some p.MO from rfl,M3,CY _ _ QI,M3];obtain⟨ca,cb,hc1,hc2⟩:=be_low p.MO;rw[show (2:Int).toNat=2 from rfl,hc1,show ([ca,cb]:AI)[1]? = some cb from rfl,M3,QM QI,hc2];unfold qS at hB;by_cases f:p.MO % 8=0;rotate_left
 ·have hk:dA p.MO=9:=QM f;rw[QO (by rw[hk]; decide),hk] at hB;rw[QO f];exact .inl ⟨9,hB,by decide,rfl⟩
 rw[QM f,attr_y f,M3];by_cases hk:dA p.MO=0;rotate_left
 ·rw[QO hk,IO f hk] at hB;rw[QM (M4 hk)];exact .inl ⟨8,hB,by decide,rfl⟩
 obtain⟨t,u,v⟩:=bits_d hk;have hr:=Cw hk;rw[QM hk] at hB;rw[QO (by rw[decide_eq_true_eq]; exact fun h=>h hk)];rw[show (nS p)[0]? = some p.ME from rfl,M3,show (nS p)[2]? = some p.MA from rfl,M3,show (nS p)[5]? = some p.MC from rfl,M3,show (nS p)[6]? = some p.Mr from rfl,M3,show (nS p)[7]? = some p.MK from rfl,M3,show (nS p)[8]? = some p.Md from rfl,M3,show (nS p)[9]? = some p.Mf from rfl,M3,show (nS p)[10]? = some p.Mv from rfl,M3];rw[QM QI,QM QI,QM QI,QM QI,QM QI,QM QI];rw[show (((nS p)[11]?).map (fun n=>(n).toNat+1)).getD 0=p.MR.toNat+1 from rfl,show (p.MB+12).toNat - 61=(p.MB - 49).toNat by omega];simp only[ite_self,t,u,v];have hn:((s.drop 61).take (p.MB - 49).toNat).length=(p.MB - 49).toNat:=by rw[Np,Nb]; omega
 generalize (s.drop 61).take (p.MB - 49).toNat=b at hn hB;rcases E0 (nS p) p.MR rfl QI b QI p.MR.toNat 0 (p.MR.toNat+1) [] 0 QI QI (Nn _) (by rw[N8]; omega) with⟨e,i,j,o⟩ | ⟨l,r,i,j⟩
 ·rw[List.drop_zero] at o;rw[i] at hB;rw[o];exact .inl ⟨e,hB,j,rfl⟩
 ·obtain⟨A,B,q,C,w⟩:=pz _ b 0 l r (Nn _) i;rw[List.drop_zero] at j;rw[i] at hB;rw[j,M3];dsimp only at hB ⊢;by_cases k:r<b.length
  ·rw[QM k] at hB;rw[QO (by intro h; have:=congrArg List.length h; rw[Nb,N8] at this; omega)];exact .inl ⟨10,hB,by decide,rfl⟩
  rw[List.take_of_length_le QI,List.take_zero,Nm] at q;rw[QO k] at hB;rw[QM (List.drop_eq_nil_of_le QI),Nm];have hbb:=sD ap w (by rw[<- q]; omega);rw[show (⟨p.ME,p.MA,eo p.MO 3,eo p.MO 4,eo p.MO 5,p.MC,p.Mr,p.MK,p.Md,p.Mf,p.Mv,l⟩:Bat)=mkB p l from rfl,(AS hbb).2,M3];by_cases a:chk (mkB p l)=0
  ·rw[QM a] at hB;rw[QM a];refine .inr ⟨_,_,hB,by omega,?_⟩;rw[show ((61+(p.MB - 49).toNat:Nat):Int)=p.MB+12 by omega]
  ·rw[QO a] at hB;rw[QO a];exact .inl ⟨_,hB,a,rfl⟩
theorem Fa: ∀ ks:List Nat,(∀ k,k∈ks->1<=k/\k<=8)->Sh (rR ks)
 | [],_=> .ret []
 | k::ks,h=>(iu k).bind (bW k (h k (.head _)).1 (h k (.head _)).2) fun a=>(Fa ks (fun j hj=>h j (.tail _ hj))).bind (rj ks (fun j hj=>h j (.tail _ hj))) fun l=> .ret _
theorem Sh_pfx:Sh xJ:=(Fa KS B7).bind (rj KS B7) fun l=>by
 unfold chkP;split
 ·split
  ·exact .ret _
  ·exact .err _
 ·exact .err _
theorem Sh_bat:Sh tz:=by
 intro s q k h;have hd:(s.drop q).length=s.length - q:=Nb;unfold tz;rw[Sh_pfx s q k h]
 cases hx:xJ (s.drop q) k with
 | error e=>rfl
 | ok x =>
  obtain⟨p,r⟩:=x;have a2:=(xK.spell (s.drop q) k p r QI hx).2.1;show (if s.length<q+r+(p.MB - 49).toNat then Except.error 1 else _)=shift q (if (s.drop q).length<r+(p.MB - 49).toNat then Except.error 1 else _);rw[NM];by_cases hl:s.length<q+r+(p.MB - 49).toNat
  ·rw[QM hl,QM QI];rfl
  rw[QO hl,QO (show ¬ ((s.drop q).length<r+(p.MB - 49).toNat) by omega)];generalize (s.drop (q+r)).take (p.MB - 49).toNat=b;by_cases hs:((DT p b:Nat):Int)=p.MQ
  ·rw[QM hs,QM hs]
   cases qS p b with
   | error e=>rfl
   | ok x=>simp only[shift,Nat.add_assoc]
  ·rw[QO hs,QO hs];rfl
theorem Fb (b:AI) (hb:b.length<=1000000): ∀ (n fuel:Nat) (acc:List Bat) (q:Nat),q<=b.length->b.length - q<=n->b.length - q+1<fuel->acc.length+(b.length - q)<=1000000 ->
 (∃ e,pK n b q= .error e/\e≠0/\fG fuel 0 0 (b.drop q) acc=some (.ret ((⟨0,[]⟩:ej),0,e)))\/(∃ l,pK n b q= .ok (l,b.length)/\fG fuel 0 0 (b.drop q) acc=some (.go (0,0,[],acc++l)))
 | n,0,acc,q,hq,hn,hf,_=>absurd hf QI
 | n,fuel+1,acc,q,hq,hn,hf,ha=>by
  have hd:(b.drop q).length=b.length - q:=Nb;rw[fG];by_cases he:q=b.length
  ·have f:b.drop q = []:=by rw[he,List.drop_length]
   rw[QM f,f];refine .inr ⟨[],?_,by rw[Nx]⟩
   cases n with
   | zero=>rw[he]; rfl
   | succ n=>rw[he]; exact QM rfl
  rw[QO (by intro h; rw[h,N8] at hd; omega)]
  cases n with
  | zero=>omega
  | succ n =>
  unfold pK;rw[QO he];have hsh:=Sh_bat b q 0 QI;rw[Nat.add_zero] at hsh;rcases IP (b.drop q) QI with⟨e,a,i,g⟩ | ⟨x,r,a,k,g⟩
  ·rw[a] at hsh;refine .inl ⟨e,by rw[Pr.bind_err hsh],i,?_⟩;rw[g,M3,QO i]
  ·rw[a] at hsh;have hsp:=AR.spell b q x (q+r) hq hsh;have hp:=oX hsp.2.2.2.2;have m:=hsp.2.2.1;rw[g,M3,QM rfl,QM QI,QM (by dsimp only; rw[Nu]; omega)];dsimp only;rw[Nu,NM];rcases Fb b hb n fuel (acc ++ [x]) (q+r) QI QI QI (by rw[M8,NY]; omega) with⟨e,c,d,j⟩ | ⟨l,c,d⟩
   ·exact .inl ⟨e,by rw[Pr.bind_of hsh,Pr.bind_err c],d,j⟩
   ·exact .inr ⟨x::l,by rw[Pr.bind_of hsh,Pr.bind_of c]; rfl,by rw[d,Nd]; rfl⟩
theorem IQ (s:AI) (hs:s.length<=1000000) (q:Nat) (hq:q<=s.length) :
 (∃ e,jT s q= .error e/\e≠0/\lh (s.drop q)=some ((⟨0,[]⟩:ej),0,e))\/(∃ p r,jT s q= .ok (p,r)/\q<=r/\r<=s.length/\lh (s.drop q)=some (ofP p,((r - q:Nat):Int),0)):=by
 have hd:(s.drop q).length=s.length - q:=Nb;unfold lh;by_cases h:((s.drop q).length:Int)<4
 ·rw[QM h];exact .inl ⟨1,Pr.bind_err (by unfold bP; rw[QM QI]),by decide,rfl⟩
 have a:bP 4 s q= .ok (bb ((s.drop q).take 4),q+4):=by unfold bP; rw[QO QI]
 rw[QO h,QM QI,cX _ (by rw[Np]; omega),M3,QM QI,NM,iU _ _ ⟨by decide,by decide,by rw[Nb]; omega⟩,M3,show (4:Int).toNat=4 from rfl];generalize bb ((s.drop q).take 4)=i at a;rcases nh s (q+4) 4 QJ QJ QI with⟨e,c,f,g⟩ | ⟨b,d,c,f,g,j⟩
 ·refine .inl ⟨e,by rw[jT,Pr.bind_of a,Pr.bind_err]; rw[n9,fW,Pr.bind_err c],f,?_⟩;rw[g,QO f]
 rw[j,QM rfl];dsimp only;have k:=(eE 4 QJ QJ).spell _ _ _ _ QI c;have hbl:b.data.length<=1000000:=by
  have:=k.2.2.1;rw[M8] at this;omega
 by_cases hb:b.null=true
 ·rw[QM hb];exact .inl ⟨4,by rw[jT,Pr.bind_of a,Pr.bind_err]; rw[n9,fW,Pr.bind_of c,QM hb]; rfl,by decide,rfl⟩
 have hx:n9 s (q+4)= .ok (b.data,d):=by
  rw[n9,fW,Pr.bind_of c,QO hb];rfl
 rw[QO hb];rcases Fb b.data hbl b.data.length ((((b.data.length:Int))+1).toNat+1) [] 0 (Nn _) QI QI (by rw[N8]; omega) with⟨e,r1,r2,r3⟩ | ⟨l,r1,r2⟩
 ·rw[List.drop_zero] at r3;refine .inl ⟨e,?_,r2,by rw[r3]; rfl⟩;rw[jT,Pr.bind_of a,Pr.bind_of hx,rV,r1];rfl
 ·rw[List.drop_zero] at r2;refine .inr ⟨⟨i,l⟩,d,?_,by omega,g,?_⟩
  ·rw[jT,Pr.bind_of a,Pr.bind_of hx,rV,r1];rfl
  ·rw[r2,M3];dsimp only;rw[QM QI,Nm,show ((4:Int)+((d - (q+4):Nat):Int))=((d - q:Nat):Int) by omega];rfl
def zR20:aX:=⟨⟨false,[]⟩,0,0,[]⟩
theorem zT (s:AI) (q:Nat) (hq:q<=s.length) (hs:s.length<=1000000) (each:Nat) (he:1<=each):jc (s.drop q) (each:Int)=some (match ff 4 each s q with | .error e=>(0,e) | .ok (n,_)=>(n,0)):=by
 have hd:(s.drop q).length=s.length - q:=Nb;unfold jc ff;by_cases b:((s.drop q).length:Int)<4
 ·rw[QM b,Pr.bind_err (e:=1) (by unfold bP; rw[QM QI])]
 ·rw[QO b,QM QI,cX _ (by rw[Np]; omega),Pr.bind_of (a:=bb ((s.drop q).take 4)) (r:=q+4) (by unfold bP; rw[QO QI])];simp only[M3];generalize bb ((s.drop q).take 4)=n;unfold jR;by_cases hn:n<0
  ·rw[QM hn,QM hn]
  ·rw[QO hn,QO hn,QM QI,QM QI,show ((s.drop q).length:Int) - 4=((s.length - (q+4):Nat):Int) by omega];by_cases hc:n>((s.length - (q+4):Nat):Int) / (each:Int)
   ·rw[QM hc,QM ⟨by omega,hc⟩]
   ·rw[QO hc,QO (fun h=>hc h.2)]
theorem vA {each:Nat} {s:AI} {q:Nat} {e:Int} (h:ff 4 each s q= .error e):e≠0:=by
 unfold ff at h
 cases hp:bP 4 s q with
 | error e' =>
  rw[Pr.bind_err hp] at h;unfold bP at hp;split at hp
  ·injection hp with hp;injection h with h;omega
  ·exact nomatch hp
 | ok x =>
  rw[Pr.bind_of (a:=x.1) (r:=x.2) hp] at h;unfold jR at h;split at h
  ·injection h with h;omega
  ·split at h
   ·injection h with h;omega
   ·exact nomatch h
theorem Fc (n:Int) (s:AI) (hs:s.length<=1000000) (hn:n<=1000000): ∀ (m fuel k:Nat) (acc:List bl) (q:Nat),((k+m:Nat):Int)=n->m<fuel->q<=s.length->acc.length=k ->
 (∃ e,dE jT m s q= .error e/\e≠0/\es s n fuel 0 0 (q:Int) k (acc.map ofP)=some (.ret (zR20,0,e))) \/
 (∃ l r,dE jT m s q= .ok (l,r)/\q<=r/\r<=s.length/\es s n fuel 0 0 (q:Int) k (acc.map ofP)=some (.go (0,0,(r:Int),k+m,(acc++l).map ofP)))
 | 0,fuel+1,k,acc,q,f,h,a,c=> .inr ⟨[],q,rfl,NA _,a,by rw[es,QO QI,Nx]; rfl⟩
 | m+1,fuel+1,k,acc,q,f,h,a,c=>by
  rw[es,QM QI,QM QI,Nu];rcases IQ s hs q a with⟨e,b,d,g⟩ | ⟨p,r,b,o,i,g⟩
  ·refine .inl ⟨e,by rw[dE,Pr.bind_err b],d,?_⟩;rw[g,M3];dsimp only;rw[QO d];rfl
  ·rw[g,M3];dsimp only;rw[QM rfl,QM (by rw[NB]; omega),QM QI,QM QI,show ((q:Int)+((r - q:Nat):Int))=(r:Int) by omega];have j:acc.map ofP ++ [ofP p]=(acc ++ [p]).map ofP:=by rw[List.map_append]; rfl
   rw[j,dE,Pr.bind_of b];rcases Fc n s hs hn m fuel (k+1) (acc ++ [p]) r QI QI i (by rw[M8,c]; rfl) with⟨e,r1,r2,r3⟩ | ⟨l,r',r1,r2,r3,r4⟩
   ·exact .inl ⟨e,by rw[Pr.bind_err r1],r2,r3⟩
   ·refine .inr ⟨p::l,r',by rw[Pr.bind_of r1]; rfl,by omega,r3,?_⟩;rw[r4,Nd,show k+1+m=k+(m+1) by omega];rfl
theorem Fd (n:Int) (s:AI) (hs:s.length<=1000000) (hn:n<=1000000): ∀ (m fuel k:Nat) (acc:List aM) (q:Nat),((k+m:Nat):Int)=n->m<fuel->q<=s.length->acc.length=k ->
 (∃ e,dE eM m s q= .error e/\e≠0/\fH s n fuel 0 0 (q:Int) k (acc.map ofT)=some (.ret (zR20,0,e))) \/
 (∃ l r,dE eM m s q= .ok (l,r)/\q<=r/\r<=s.length/\fH s n fuel 0 0 (q:Int) k (acc.map ofT)=some (.go (0,0,(r:Int),k+m,(acc++l).map ofT)))
 | 0,fuel+1,k,acc,q,w,y,h,t=> .inr ⟨[],q,rfl,NA _,h,by rw[l8,QO QI,Nx]; rfl⟩
 | m+1,fuel+1,k,acc,q,w,y,h,t=>by
  rw[l8,QM QI,QM QI,Nu,iU _ _ ⟨by decide,by decide,by rw[Nb]; omega⟩,show (2:Int).toNat=2 from rfl,M3];rcases nh s q 2 QJ QJ h with⟨e,f,i,g⟩ | ⟨b,d,f,i,g,z⟩
  ·refine .inl ⟨e,by rw[dE,Pr.bind_err]; rw[eM,Pr.bind_err]; rw[jo,fW,Pr.bind_err f],i,?_⟩;rw[g,QO i];rfl
  rw[z,QM rfl];dsimp only;by_cases hb:b.null=true
  ·rw[QM hb];refine .inl ⟨4,?_,by decide,rfl⟩;rw[dE,Pr.bind_err];rw[eM,Pr.bind_err];rw[jo,fW,Pr.bind_of f,QM hb];rfl
  rw[QO hb,QM QI,QM QI,show ((q:Int)+((d - q:Nat):Int))=(d:Int) by omega,Nu];have hx:jo s q= .ok (b.data,d):=by
   rw[jo,fW,Pr.bind_of f,QO hb];rfl
  have hc:=zT s d g hs 8 QJ;rw[show ((8:Nat):Int)=8 from rfl] at hc;rw[hc,M3]
  cases hp:ff 4 8 s d with
  | error e =>
   have he:=vA hp;dsimp only;rw[QO he];refine .inl ⟨e,?_,he,rfl⟩;rw[dE,Pr.bind_err];rw[eM,Pr.bind_of hx,Pr.bind_err];rw[fO,Pr.bind_err hp]
  | ok x =>
   obtain⟨c,u⟩:=x;obtain⟨C,c2,D,E,F,G⟩:=gV QJ QJ g hp;have c2:=c2 QJ;dsimp only;rw[QM rfl,QM QI,show ((d:Int)+4)=(u:Int) by omega];rcases Fc c s hs QI c.toNat (c.toNat+1) 0 [] u QI QI QI rfl with⟨e,r1,r2,r3⟩ | ⟨ps,j,r1,r2,r3,r4⟩
   ·rw[List.map_nil] at r3;refine .inl ⟨e,?_,r2,by rw[r3]; rfl⟩;rw[dE,Pr.bind_err];rw[eM,Pr.bind_of hx,Pr.bind_err];rw[fO,Pr.bind_of hp,r1]
   ·rw[List.map_nil,Nm] at r4;rw[r4,M3];dsimp only;rw[QM (by rw[NB]; omega),QM QI];have ht:eM s q= .ok (⟨b.data,ps⟩,j):=by
     rw[eM,Pr.bind_of hx,Pr.bind_of (a:=ps) (r:=j) (by rw[fO,Pr.bind_of hp,r1])];rfl
    have A:acc.map ofT ++ [(⟨b.data,ps.map ofP⟩:co)]=(acc ++ [(⟨b.data,ps⟩:aM)]).map ofT:=by rw[List.map_append]; rfl
    rw[A,dE,Pr.bind_of ht];rcases Fd n s hs hn m fuel (k+1) (acc ++ [⟨b.data,ps⟩]) j QI QI r3 (by rw[M8,t]; rfl) with⟨e,o,v,p⟩ | ⟨l,r',o,v,p,B⟩
    ·exact .inl ⟨e,by rw[Pr.bind_err o],v,p⟩
    ·refine .inr ⟨⟨b.data,ps⟩::l,r',by rw[Pr.bind_of o]; rfl,by omega,p,?_⟩;rw[B,Nd,show k+1+m=k+(m+1) by omega];rfl
theorem IR (s:AI) (hs:s.length<=1000000) (v:Int) (hv:v=3\/v=4):(∃ e,qd v s 0= .error e/\e≠0/\li s v=some (zR20,0,e))\/(∃ r n,qd v s 0= .ok (r,n)/\n<=s.length/\li s v=some (ofQ r,(n:Int),0)):=by
 unfold li;rw[iU _ _ ⟨by decide,by decide,by omega⟩,show (2:Int).toNat=2 from rfl,M3];have hr:=nh s 0 2 QJ QJ (Nn _);rw[List.drop_zero] at hr;rcases hr with⟨e,d,h,i⟩ | ⟨b,a,d,h,i,p⟩
 ·refine .inl ⟨e,Pr.bind_err d,h,?_⟩;rw[i,QO h];rfl
 rw[p,QM rfl];dsimp only;rw[Nat.sub_zero,QM QI];by_cases j:(s.length:Int) - (a:Int)<6
 ·rw[QM j];refine .inl ⟨1,?_,by decide,rfl⟩;rw[qd,Pr.bind_of d];by_cases k:s.length<a+2
  ·rw[Pr.bind_err];unfold bP;rw[QM k]
  ·have f:bP 2 s a= .ok (bb ((s.drop a).take 2),a+2):=by unfold bP; rw[QO k]
   rw[Pr.bind_of f,Pr.bind_err];unfold bP;rw[QM QI]
 have f:bP 2 s a= .ok (bb ((s.drop a).take 2),a+2):=by unfold bP; rw[QO QI]
 have g:bP 4 s (a+2)= .ok (bb ((s.drop (a+2)).take 4),a+2+4):=by unfold bP; rw[QO QI]
 have q:(((a:Nat):Int)+6).toNat=a+2+4:=by omega
 have t:(((a:Nat):Int)+2).toNat=a+2:=by omega
 rw[QO j,QM QI,QM QI,Nu,t,show a+2 - a=2 by omega,cX _ (by rw[Np]; omega),M3,QM QI,QM QI,QM QI,q,show a+2+4 - (a+2)=4 by omega,cX _ (by rw[Np]; omega),M3,QM QI,QM QI];generalize bb ((s.drop a).take 2)=ia at f;generalize bb ((s.drop (a+2)).take 4)=it at g;have hc:=zT s (a+2+4) QI hs 6 QJ;rw[show ((6:Nat):Int)=6 from rfl] at hc;rw[hc,M3]
 cases hp:ff 4 6 s (a+2+4) with
 | error e =>
  have he:=vA hp;dsimp only;rw[QO he];refine .inl ⟨e,?_,he,rfl⟩;rw[qd,Pr.bind_of d,Pr.bind_of f,Pr.bind_of g,Pr.bind_err];rw[fO,Pr.bind_err hp]
 | ok x =>
  obtain⟨c,m⟩:=x;obtain⟨z,c2,A,B,C,D⟩:=gV QJ QJ QI hp;have c2:=c2 QJ;dsimp only;rw[QM rfl,QM QI,show (((a:Nat):Int)+6+4)=(m:Int) by omega];rcases Fd c s hs QI c.toNat (c.toNat+1) 0 [] m QI QI QI rfl with⟨e,r1,r2,r3⟩ | ⟨l,o,r1,r2,r3,r4⟩
  ·rw[List.map_nil] at r3;refine .inl ⟨e,?_,r2,by rw[r3]; rfl⟩;rw[qd,Pr.bind_of d,Pr.bind_of f,Pr.bind_of g,Pr.bind_err];rw[fO,Pr.bind_of hp,r1]
  ·rw[List.map_nil,Nm] at r4;have hl:fO 4 6 eM s (a+2+4)= .ok (l,o):=by rw[fO,Pr.bind_of hp,r1]
   obtain⟨E,F,u,G,w⟩:=np.spell _ _ _ _ QI hl;obtain⟨H,I,J,K,y⟩:=(bW 4 QJ QJ).spell _ _ _ _ QI g;rw[M8,aZ] at u;have hg:gdQ ⟨b,ia,it,l⟩:=D4 y w.2 QI;have hk:=IH ⟨b,ia,it,l⟩ v hv hg;have hk:kf (⟨b,ia,it,l.map ofT⟩:aX) v=some (wk v ⟨b,ia,it,l⟩):=hk;rw[r4,M3];dsimp only;rw[hk,M3,qd,Pr.bind_of d,Pr.bind_of f,Pr.bind_of g,Pr.bind_of hl];by_cases hc:wk v ⟨b,ia,it,l⟩=0
   ·rw[QM hc,QM hc];exact .inr ⟨_,o,rfl,r3,rfl⟩
   ·rw[QO hc,QO hc];exact .inl ⟨_,rfl,hc,rfl⟩
def smBl (l:List Bat):Prop:= ∀ b,b∈l->smB b/\chk b=0
theorem D7 {b:Bat} (h:okB b) (hl:(iQ b).length<=80000):smB b:=by
 have a:=uW h;refine⟨xX h QI,fun r hr=> ?_,by omega⟩;have c:=gw (enc:=gY) b.Mg r hr;have d:=DQ r;have e:(eG r).length<=(gY r).length:=by
  unfold gY;rw[M8];omega
 unfold body at a;omega
theorem JW {r:aC} (h:gdQ r):oA r=some (ofQ r):=by
 have a:=h.2.1;unfold oA;rw[EV r.Mc [] (by rw[N8]; omega) (fun t ht=>(h.2.2 t ht).2.1),M3,Nm];rfl
theorem vB {a b:aC} (h:gdQ a):il (ofQ a) (ofQ b)=some (Cm a b):=by
 have d:=h.2.1;refine IA QI (fun t ht=> ?_);have c:=h.2.2 t ht;exact⟨by have:=c.2.1; omega,fun p hp=>(c.2.2 p hp).2⟩
theorem zQ_gd:gdQ zQ:=⟨by unfold wI zQ; decide,by decide,fun t h=>nomatch h⟩
theorem Gi {v:Int} {r:aC} (h:okQ v r) (hl:(sF r).length<=80000):(wI r.Mz/\wI r.Mh)/\r.Mc.length<=1000000/\ ∀ t,t∈r.Mc->t.Me.length<=1000000/\ ∀ p,p∈t.Me->wI p.Mw/\p.Mq.length<=1000000/\smBl p.Mq:=by
 obtain⟨g,c,d,a,i⟩:=h;have j:=jV (ok:=AW) tC r.Mc a.2;simp only[sF,M8,aZ] at hl;refine⟨⟨iC c,iC d⟩,by omega,fun t ht=> ?_⟩;have e:=gw (enc:=kY) r.Mc t ht;have k:=jV (ok:=Cu) tB t.Me (a.2 t ht).2.2;simp only[kY,M8,aZ] at e;refine⟨by omega,fun p hp=> ?_⟩;have f:=gw (enc:=lU) t.Me p hp;have hpo:=(a.2 t ht).2.2 p hp;have l:=uZ hpo.2.2;simp only[lU,M8,aZ] at f;refine⟨iC hpo.1,by omega,fun b hb=>⟨D7 (hpo.2.2 b hb) ?_,(hpo.2.2 b hb).2.2.2⟩⟩;have:=gw (enc:=iQ) p.Mq b hb;omega
def okBg (v:Int) (x:bg):Prop:=if v>0 then okFx x.Mk/\bG x.Mh 4=true/\bG x.Md 8=true/\bG x.Mf 2=true/\fT x.Mk x.Mh x.Md x.Mf v=0 else okFx x.Mk/\bG x.Mh 4=true/\fT x.Mk x.Mh x.Md x.Mf v=0/\x.Md= -1/\x.Mf= -1
theorem AX (v:Int):Sp (rW v) (encB v) (okBg v):=by
 unfold rW;by_cases hv:v>0
 ·rw[QM hv];refine (Jx v).congr (fun x=>by unfold okBg; rw[QM hv]) (fun x _=>by unfold encB; rw[QM hv])
 ·rw[QO hv];refine (Jy v).congr (fun x=>by unfold okBg; rw[QO hv]) (fun x _=>by unfold encB; rw[QO hv])
def okEn (x:bT):Prop:=okTx x.Mk/\bG x.Md 8=true/\bG x.Mf 2=true/\nB x.Mk x.Md x.Mf=0
def okAd (x:bU):Prop:=okTx x.Mk/\bG x.Md 8=true/\bG x.Mf 2=true/\yI x.Mc/\nC x.Mk x.Md x.Mf x.Mc=0
def okMs (v:Int) (l:List aV):Prop:=(bG (l.length:Int) 4=true/\ ∀ m,m∈l->okM v m)/\oV v l=0
def qU (h:fq) (f:aH):AI :=
 if h.Mn=22 then encB h.Ml f.MG else if h.Mn=24 then encA f.MJ else if h.Mn=26 then encE f.MN else if h.Mn=27 then xF h.Ml f.MF else sF f.Mp
def yi (h:fq) (f:aH):Prop :=
 if h.Mn=22 then okBg h.Ml f.MG/\frB h f.MG=f else if h.Mn=24 then okAd f.MJ/\frA h f.MJ=f else if h.Mn=26 then okEn f.MN/\frE h f.MN=f
 else if h.Mn=27 then okMs h.Ml f.MF/\frM h f.MF=f else okQ h.Ml f.Mp/\frP h f.Mp=f
theorem JX (h:fq):Sp (pA h) (qU h) (yi h):=by
 unfold pA;by_cases a:h.Mn=22
 ·rw[QM a];exact ((AX h.Ml).map (frB h) (fun f=>f.MG) (fun _=>rfl)).congr (fun f=>by unfold yi; rw[QM a]) (fun f _=>by unfold qU; rw[QM a])
 rw[QO a];by_cases b:h.Mn=24
 ·rw[QM b];exact (DD.map (frA h) (fun f=>f.MJ) (fun _=>rfl)).congr (fun f=>by unfold yi okAd; rw[QO a,QM b]) (fun f _=>by unfold qU; rw[QO a,QM b])
 rw[QO b];by_cases c:h.Mn=26
 ·rw[QM c];exact (DC.map (frE h) (fun f=>f.MN) (fun _=>rfl)).congr (fun f=>by unfold yi okEn; rw[QO a,QO b,QM c]) (fun f _=>by unfold qU; rw[QO a,QO b,QM c])
 rw[QO c];by_cases d:h.Mn=27
 ·rw[QM d];exact ((xG h.Ml).map (frM h) (fun f=>f.MF) (fun _=>rfl)).congr (fun f=>by unfold yi okMs; rw[QO a,QO b,QO c,QM d]) (fun f _=>by unfold qU; rw[QO a,QO b,QO c,QM d])
 rw[QO d];exact ((D3 h.Ml).map (frP h) (fun f=>f.Mp) (fun _=>rfl)).congr (fun f=>by unfold yi; rw[QO a,QO b,QO c,QO d]) (fun f _=>by unfold qU; rw[QO a,QO b,QO c,QO d])
theorem zU {h:fq} {f:aH} (k:yi h f):f.Mi=h:=by
 unfold yi at k
 repeat' split at k
 all_goals rw[<- k.2]; rfl
def rX (f:aH):AI:=BQ f.Mi++qU f.Mi f
def okIn (f:aH):Prop:=okH f.Mi/\yi f.Mi f
theorem Sp_in:Sp pIn rX okIn:=by
 refine Ax.seq (π:=fun f:aH=>f.Mi) (enc2:=fun f=>qU f.Mi f) (ok2:=fun f=>yi f.Mi f) (fun a=>(JX a).congr (fun f=>⟨fun k=> ?_,fun k=> ?_⟩) (fun f k=> ?_))
 ·rw[zU k]; exact⟨k,rfl⟩
 ·have:=k.1; rw[k.2] at this; exact this
 ·rw[zU k]
theorem Gj {α:Type} {p:Pr α} {enc:α->AI} {ok:α->Prop} (hs:Sp p enc ok) {s:AI} {a:α} (hp:p s 0= .ok (a,s.length)) (c:AI):s=enc a/\ok a/\p (s++c) 0= .ok (a,s.length):=by
 obtain⟨e,f,g,b,d⟩:=hs.spell s 0 a s.length (Nn _) hp;rw[List.take_length,List.take_zero,Nm] at b;have hb:=hs.back (s++c) c 0 a (Nn _) d (by rw[List.drop_zero,<- b]);rw[Nat.zero_add,<- b] at hb;exact⟨b,d,hb⟩
def vC (f:aH):AI:=be ((rX f).length:Int) 4++rX f
def okFr (f:aH):Prop:=okIn f/\bG ((rX f).length:Int) 4=true
theorem opn_ok {m:AI} (hm:NZ pIn) (hl:m.length<=1000000) (h:(opn m).2=0):pIn m 0= .ok ((opn m).1,m.length):=by
 unfold opn yJ at h ⊢
 cases hp:pIn m 0 with
 | error e =>
  rw[hp] at h;exact absurd h (hm m 0 e hl (Nn _) hp)
 | ok x =>
  rw[hp] at h;simp only at h ⊢;have:=(Sp_in.spell m 0 x.1 x.2 (Nn _) hp).2.1;by_cases hr:x.2<m.length
  ·rw[QM hr] at h;exact absurd h QJ
  ·rw[QO hr];have:x.2=m.length:=by omega
   rw[<- this]
theorem yj {α β:Type} {p:Pr α} {enc:α->AI} {ok:α->Prop} (g:α->β) (hp:NZ p) (hs:Sp p enc ok):NZ (p.map g):=hp.bind hs (fun _=> .ret _)
theorem NZ_in:NZ pIn:=by
 refine Dt.cb.nz.bind Ax (fun h=> ?_);unfold pA;by_cases a:h.Mn=22
 ·rw[QM a]; exact yj _ (D5 h.Ml).nz (AX h.Ml)
 rw[QO a];by_cases b:h.Mn=24
 ·rw[QM b]; exact yj _ Ho.nz DD
 rw[QO b];by_cases c:h.Mn=26
 ·rw[QM c]; exact yj _ Hn.nz DC
 rw[QO c];by_cases d:h.Mn=27
 ·rw[QM d]; exact yj _ (AC h.Ml).nz (xG h.Ml)
 rw[QO d];exact yj _ (IK h.Ml).nz (D3 h.Ml)
theorem Gk {s:AI} {q r':Nat} {f:aH} (hs:s.length<=1000000) (hq:q<=s.length) (h:yg s q= .ok (f,r')):q<=r'/\r'<=s.length/\r'=q+(vC f).length/\s.take r'=s.take q++vC f/\okFr f:=by
 unfold yg at h
 cases hp:bP 4 s q with
 | error e=>rw[hp] at h; exact nomatch h
 | ok x =>
  obtain⟨n,r⟩:=x;rw[hp] at h;simp only at h;obtain⟨a1,a2,a3,a4,a5⟩:=(bW 4 QJ QJ).spell s q n r hq hp;by_cases b:n<0
  ·rw[QM b] at h; exact nomatch h
  rw[QO b] at h;by_cases c:(s.length:Int) - r<n
  ·rw[QM c] at h; exact nomatch h
  rw[QO c] at h;by_cases a:(opn ((s.drop r).take n.toNat)).2=0
  ·rw[QM a] at h;injection h with h;obtain⟨rfl,rfl⟩:=NE h;have hml:((s.drop r).take n.toNat).length=n.toNat:=by rw[Np,Nb]; omega
   have hk:=opn_ok NZ_in QI a;obtain⟨d,g,_⟩:=Gj Sp_in hk [];have hl:(rX (opn ((s.drop r).take n.toNat)).1).length=n.toNat:=by rw[<- d,hml]
   have hn:((rX (opn ((s.drop r).take n.toNat)).1).length:Int)=n:=by rw[hl]; omega
   have he:vC (opn ((s.drop r).take n.toNat)).1=be n 4++(s.drop r).take n.toNat:=by unfold vC; rw[hn,<- d]
   refine⟨by omega,by omega,?_,?_,g,by rw[hn]; exact a5⟩
   ·rw[he,M8,hml,a3]; omega
   ·rw[he,oT,a4,Nd]
  ·rw[QO a] at h; exact nomatch h
def smF (f:aH):Prop:=wTs f.MJ.Mc<=3000/\(∀ m,m∈f.MF->wTs m.Mc<=3000)/\(dF (uP f.Mi.Ml) f.MF).length<=300000/\(f.Mi.Mn≠22->f.Mi.Mn≠24->f.Mi.Mn≠26->f.Mi.Mn≠27->gdQ f.Mp/\(sF f.Mp).length<=300000/\ ∀ t,t∈f.Mp.Mc->t.Mm.length<=32767/\t.Me.length<=1000/\ ∀ p,p∈t.Me->p.Mq.length<=1000/\smBl p.Mq)
theorem JY {h:fq} (k:okH h):chkH h=0/\h.Mj.data.length<=32767:=by
 obtain⟨c,d,b,a⟩:=k;have hl:h.Mj.data.length<=32767:=by
  by_cases hn:h.Mj.null=true
  ·have:h.Mj.data = []:=by
    unfold bM at a;rw[hn] at a;simpa using a
   rw[this]; simp
  ·have hb:blen h.Mj=(h.Mj.data.length:Int):=by
    unfold blen;simp[hn]
   rw[hb,Dx] at b;have:=of_decide_eq_true b;omega
 unfold chkH;rw[QM c,QM d,QM a,QO QI];exact⟨rfl,hl⟩
def qV (s:AI):aH×Int:=yJ s (yg s 0)
theorem D8 (s:AI) (hs:s.length<=1000000):jk s=some (qV s):=by
 unfold jk qV;rw[kn s QI];simp only[M3];have c:=B_frm.run s 0 hs (Nn _);rw[List.drop_zero] at c;rcases c with⟨e,st,a,b,g,d⟩ | ⟨f,r,a,b,i,h⟩
 ·rw[b,a];simp only[M3,gH,IL d,yJ];rw[QO d,g];rfl
 ·rw[b,a];simp only[M3,gH,IM s r h,yJ];by_cases hr:r<s.length
  ·rw[QM hr,QM hr];rfl
  ·rw[QO hr,QO hr];rfl
theorem smF_of {f:aH} (h:okFr f) (hl:(rX f).length<=3000):smF f:=by
 obtain⟨⟨n,a⟩,o⟩:=h;have hle:(qU f.Mi f).length<=3000:=by
  have:(rX f).length=(BQ f.Mi).length+(qU f.Mi f).length:=by rw[rX,M8]
  omega
 unfold yi at a;unfold qU at hle;unfold smF;by_cases b:f.Mi.Mn=22
 ·rw[QM b] at a;have e:=a.2;refine⟨by rw[<- e]; exact Nn _,?_,?_,fun h=>absurd b h⟩
  ·rw[<- e]; exact fun m hm=>nomatch hm
  ·rw[<- e]; simp[frB,dF]
 rw[QO b] at a hle;by_cases c:f.Mi.Mn=24
 ·rw[QM c] at a hle;have e:=a.2;have hw:wTs f.MJ.Mc<=3000:=by
   simp only[encA,xC,M8,aZ,uO] at hle;omega
  refine⟨hw,?_,?_,fun _ h=>absurd c h⟩
  ·rw[<- e]; exact fun m hm=>nomatch hm
  ·rw[<- e]; simp[frA,dF]
 rw[QO c] at a hle;by_cases d:f.Mi.Mn=26
 ·rw[QM d] at a hle;have e:=a.2;refine⟨by rw[<- e]; exact Nn _,?_,?_,fun _ _ h=>absurd d h⟩
  ·rw[<- e]; exact fun m hm=>nomatch hm
  ·rw[<- e]; simp[frE,dF]
 rw[QO d] at a hle;by_cases g:f.Mi.Mn=27
 ·rw[QM g] at a hle;have e:=a.2;refine⟨by rw[<- e]; exact Nn _,fun m hm=> ?_,?_,fun _ _ _ h=>absurd g h⟩
  ·have:=uQ f.Mi.Ml f.MF m hm;omega
  ·simp only[xF,M8] at hle;omega
 rw[QO g] at a hle;have e:=a.2;refine⟨by rw[<- e]; exact Nn _,?_,?_,fun _ _ _ _=> ?_⟩
 ·rw[<- e]; exact fun m hm=>nomatch hm
 ·rw[<- e]; simp[frP,dF]
 ·have hq:=a.1;obtain⟨q,r,j⟩:=Gi hq QI;have hq2:=hq;obtain⟨s,u,v,i,w⟩:=hq2;have x:=jV (ok:=AW) tC f.Mp.Mc i.2;simp only[sF,M8,aZ] at hle;refine⟨JS hq (by simp only[sF,M8,aZ]; omega),by simp only[sF,M8,aZ]; omega,fun t ht=> ?_⟩;have k:=gw (enc:=kY) f.Mp.Mc t ht;have y:=jV (ok:=Cu) tB t.Me (i.2 t ht).2.2;simp only[kY,M8,aZ] at k;refine⟨by omega,by omega,fun p hp=> ?_⟩;have l:=gw (enc:=lU) t.Me p hp;have z:=uZ ((i.2 t ht).2.2 p hp).2.2;simp only[lU,M8,aZ] at l;exact⟨by omega,((j t ht).2 p hp).2.2⟩
def qW (h:fq):dZ:=⟨h.Mn,h.Ml,h.Mt,h.Mj⟩
def z20:aX:=⟨⟨false,[]⟩,0,0,[]⟩
def ofF (f:aH):bE :=
 if f.Mi.Mn=0 then ⟨qW f.Mi,zR,[],ofQ f.Mp⟩ else if f.Mi.Mn=22 then ⟨qW f.Mi,gB f.MG,[],z20⟩ else if f.Mi.Mn=24 then ⟨qW f.Mi,gA f.MJ,[],z20⟩
 else if f.Mi.Mn=26 then ⟨qW f.Mi,gE f.MN,[],z20⟩ else if f.Mi.Mn=27 then ⟨qW f.Mi,zR,f.MF.map toR,z20⟩ else ⟨qW f.Mi,zR,[],z20⟩
theorem of21 (f:aH) (hm:f.MF.length<=1000000) (hq:f.Mi.Mn=0->oA f.Mp=some (ofQ f.Mp)):oR f=some (ofF f):=by
 unfold oR ofF;by_cases e:f.Mi.Mn=0
 ·rw[QM e,QM e,hq e]; rfl
 rw[QO e,QO e];by_cases a:f.Mi.Mn=22
 ·rw[QM a,QM a]; rfl
 rw[QO a,QO a];by_cases b:f.Mi.Mn=24
 ·rw[QM b,QM b]; rfl
 rw[QO b,QO b];by_cases c:f.Mi.Mn=26
 ·rw[QM c,QM c]; rfl
 rw[QO c,QO c];by_cases d:f.Mi.Mn=27
 ·rw[QM d,QM d,of_eq f.MF hm]; rfl
 rw[QO d,QO d];rfl
theorem Gl {h:fq} (k:chkH h=0):(h.Mn=0/\(h.Ml=3\/h.Ml=4))\/((h.Mn=22\/h.Mn=24\/h.Mn=26\/h.Mn=27)/\(h.Ml=0\/h.Ml=1)):=by
 have hv:=(chk_ok k).1;unfold gR gQ at hv;by_cases a:h.Mn=0
 ·simp[a] at hv;exact .inl ⟨a,by omega⟩
 by_cases b:h.Mn=22
 ·simp[b] at hv;exact .inr ⟨.inl b,by omega⟩
 by_cases c:h.Mn=24
 ·simp[c] at hv;exact .inr ⟨.inr (.inl c),by omega⟩
 by_cases d:h.Mn=26
 ·simp[d] at hv;exact .inr ⟨.inr (.inr (.inl d)),by omega⟩
 by_cases e:h.Mn=27
 ·simp[e] at hv;exact .inr ⟨.inr (.inr (.inr e)),by omega⟩
 simp[a,b,c,d,e] at hv
def outR (x:Except Int (aJ×Nat)):aJ×Int×Int:=match x with
 | .error e=>(zR,0,e)
 | .ok (x,r)=>(x,(r:Int),0)
theorem D9 (v:Int) (hv:v=0\/v=1) (s:AI) (hs:s.length<=1000000):je 22 v s=some (outR (ls 22 v s 0)):=by
 unfold je;have i:=nh s 0 2 QJ QJ (Nn _);rw[List.drop_zero] at i;rw[iU _ _ ⟨by decide,by decide,by omega⟩,M3,show (2:Int).toNat=2 from rfl];rcases i with⟨e,a,o,f⟩ | ⟨b,m,a,u,w,f⟩
 ·have:ls 22 v s 0= .error e:=by unfold ls; rw[QM rfl]; split <;> exact Pr.bind_err (Pr.bind_err a)
  rw[f,this];simp only;rw[QO o];rfl
 ·have y:(if b.null=true then some false else some false)=some false:=by split <;> rfl
  rw[f];simp only[if_true];rw[y,M3,QO QJ,show ((m - 0:Nat):Int)=(m:Int) by omega,QM QI];by_cases j:(s.length:Int) - (m:Int)<4
  ·have:ls 22 v s 0= .error 1:=by
    unfold ls;rw[QM rfl];have c:bP 4 s m= .error 1:=jW QI;split
    ·exact Pr.bind_err (by rw[xB,Pr.bind_of a,Pr.bind_err c])
    ·exact Pr.bind_err (by rw[zn,Pr.bind_of a,Pr.bind_err c])
   rw[QM j,this];rfl
  have c:bP 4 s m= .ok (bb ((s.drop m).take 4),m+4):=fx QI;have p:((m:Int)+4).toNat=m+4:=by omega
  rw[QO j,QM QI,QM QI,p,Nu,Nat.add_sub_cancel_left,cX _ (by rw[Np]; omega),M3,QM QI];generalize bb ((s.drop m).take 4)=T at c ⊢;rcases hv with rfl | rfl
  ·rw[QO QJ,ri 22 0 (.inl rfl) _ (fun h=>absurd rfl h) (by simp) (by simp),M3];have hp:ls 22 0 s 0=((if fT b T (-1) (-1) 0=0 then Pr.ret ⟨b,T,-1,-1⟩ else Pr.err (fT b T (-1) (-1) 0)).map gB) s (m+4):=by
    unfold ls;rw[QM rfl,QO QJ,Pr.map,Pr.map,Pr.bind,Pr.bind,zn,Pr.bind_of a,Pr.bind_of c]
   have hc:F1 22 0 ⟨b,T,-1,-1,[],false⟩=fT b T (-1) (-1) 0:=rfl;rw[hp,hc];by_cases hz:fT b T (-1) (-1) 0=0
   ·rw[QM hz,QM hz];have g:(m:Int)+4=((m+4:Nat):Int):=by omega
    rw[g];rfl
   ·rw[QO hz,QO hz];rfl
  ·rw[QM rfl,QM QI];by_cases d:(s.length:Int) - ((m:Int)+4)<10
   ·have:ls 22 1 s 0= .error 1:=by
     unfold ls;rw[QM rfl,QM QJ];refine Pr.bind_err ?_;rw[xB,Pr.bind_of a,Pr.bind_of c];by_cases q:s.length<m+4+8
     ·rw[Pr.bind_err (jW q)]
     ·rw[Pr.bind_of (fx (k:=8) QI),Pr.bind_err (jW QI)]
    rw[QM d,this];rfl
   have l:bP 8 s (m+4)= .ok (bb ((s.drop (m+4)).take 8),m+4+8):=fx QI;have n:bP 2 s (m+4+8)= .ok (bb ((s.drop (m+4+8)).take 2),m+4+8+2):=fx QI;have r:((m:Int)+4+8).toNat=m+4+8:=by omega
   have t:((m:Int)+4+10).toNat=m+4+8+2:=by omega
   rw[QO d,QM QI,QM QI,r,Nat.add_sub_cancel_left,cX _ (by rw[Np]; omega),M3,QM QI,QM QI,QM QI,t,Nat.add_sub_cancel_left,cX _ (by rw[Np]; omega),M3,QM QI];generalize bb ((s.drop (m+4)).take 8)=A at l ⊢;generalize bb ((s.drop (m+4+8)).take 2)=B at n ⊢;rw[ri 22 1 (.inr rfl) _ (fun h=>absurd rfl h) (by simp) (by simp),M3];have hp:ls 22 1 s 0=((if fT b T A B 1=0 then Pr.ret ⟨b,T,A,B⟩ else Pr.err (fT b T A B 1)).map gB) s (m+4+8+2):=by
    unfold ls;rw[QM rfl,QM QJ,Pr.map,Pr.map,Pr.bind,Pr.bind,xB,Pr.bind_of a,Pr.bind_of c,Pr.bind_of l,Pr.bind_of n]
   have hc:F1 22 1 ⟨b,T,A,B,[],false⟩=fT b T A B 1:=rfl;rw[hp,hc];by_cases hz:fT b T A B 1=0
   ·rw[QM hz,QM hz];have g:(m:Int)+4+10=((m+4+8+2:Nat):Int):=by omega
    rw[g];rfl
   ·rw[QO hz,QO hz];rfl
theorem Mb {α β γ:Type} {p:Pr α} {f:α->Pr β} {g:β->γ} {s:AI} {q r:Nat} {a:α} (h:p s q= .ok (a,r)):((p.bind f).map g) s q=((f a).map g) s r:=by
 unfold Pr.map Pr.bind;rw[h]
theorem Fe {s:AI} {m:Nat} {β:Type} (h:s.length<m+10) (f:Int->Int->Pr β):((bP 8).bind fun p=>(bP 2).bind fun e=>f p e) s m= .error 1:=by
 by_cases a:s.length<m+8
 ·rw[Pr.bind_err (jW a)]
 ·rw[Pr.bind_of (fx (k:=8) QI),Pr.bind_err (jW QI)]
theorem Gm (k v:Int) (hk:k=24\/k=26) (hv:v=0\/v=1) (s:AI) (hs:s.length<=1000000):je k v s=some (outR (ls k v s 0)):=by
 have d: ¬ k=22:=by omega
 unfold je;have p:=nh s 0 2 QJ QJ (Nn _);rw[List.drop_zero] at p;rw[iU _ _ ⟨by decide,by decide,by omega⟩,M3,show (2:Int).toNat=2 from rfl];have hP: ∀ e,jo s 0= .error e->ls k v s 0= .error e:=by
  intro e h;unfold ls;rw[QO d];split
  ·exact Pr.bind_err (by rw[rP,Pr.bind_err h])
  ·exact Pr.bind_err (by rw[rO,Pr.bind_err h])
 rcases p with⟨e,f,w,i⟩ | ⟨b,m,f,E,F,i⟩
 ·have:jo s 0= .error e:=by rw[jo,fW,Pr.bind_err f]
  rw[i,hP e this];simp only;rw[QO w];rfl
 ·rw[i];simp only[if_true,QO d];by_cases hb:b.null=true
  ·have:jo s 0= .error 4:=by rw[jo,fW,Pr.bind_of f,QM hb]; rfl
   rw[QM hb,M3,QM rfl,hP 4 this];rfl
  have pt:jo s 0= .ok (b.data,m):=by rw[jo,fW,Pr.bind_of f,QO hb]; rfl
  have hbf:b.null=false:=by simpa using hb
  rw[QO hb,M3,QO QJ,show ((m - 0:Nat):Int)=(m:Int) by omega,QM QI];by_cases g:(s.length:Int) - (m:Int)<10
  ·have:ls k v s 0= .error 1:=by
    unfold ls;rw[QO d];split
    ·exact Pr.bind_err (by rw[rP,Pr.bind_of pt]; exact Fe QI _)
    ·exact Pr.bind_err (by rw[rO,Pr.bind_of pt]; exact Fe QI _)
   rw[QM g,this];rfl
  have j:bP 8 s m= .ok (bb ((s.drop m).take 8),m+8):=fx QI;have n:bP 2 s (m+8)= .ok (bb ((s.drop (m+8)).take 2),m+8+2):=fx QI;have x:((m:Int)+8).toNat=m+8:=by omega
  have z:((m:Int)+10).toNat=m+8+2:=by omega
  rw[QO g,QM QI,QM QI,x,Nu,Nat.add_sub_cancel_left,cX _ (by rw[Np]; omega),M3,QM QI,QM QI,QM QI,z,Nat.add_sub_cancel_left,cX _ (by rw[Np]; omega),M3,QM QI];generalize bb ((s.drop m).take 8)=A at j ⊢;generalize bb ((s.drop (m+8)).take 2)=B at n ⊢;rcases hk with rfl | rfl
  ·rw[QM rfl,QM QI,xw _ (by rw[Nb]; omega),M3];have hsh:=rh.zero (s:=s) (q:=m+8+2) QI;have hp:ls 24 v s 0=((rN.bind fun l=>if nC b.data A B l=0 then Pr.ret ⟨b.data,A,B,l⟩ else Pr.err (nC b.data A B l)).map gA) s (m+8+2):=by
    unfold ls;rw[QO QJ,QM rfl,Pr.map,Pr.map,Pr.bind,Pr.bind,rP,Pr.bind_of pt,Pr.bind_of j,Pr.bind_of n]
   rw[hp]
   cases ht:fO 4 6 eL (s.drop (m+8+2)) 0 with
   | error e =>
    rw[ht] at hsh;have he:e≠0:=BU (by rw[Nb]; omega) (Nn _) ht;simp only;rw[QO he,Pr.map,Pr.bind_err (Pr.bind_err hsh)];rfl
   | ok y =>
    obtain⟨l,r⟩:=y;rw[ht] at hsh;have hr:=(ki.spell _ _ _ _ (Nn _) ht).2.1;rw[Nb] at hr;have hwl:=DA _ _ _ _ (by rw[Nb]; omega) (Nn _) ht;have hxl: ∀ t,t∈l->t.Me.length<=1000000/\t.Mm.length<=1000000:=by
     intro t htm;have a:=mA (enc:=qO) l t htm;have C:(qO t).length=wT t:=xA t;unfold wT at C;have D:=(ki.spell _ _ _ _ (Nn _) ht).2.2.1;rw[M8,aZ] at D;omega
    simp only[if_true];rw[QM QI,ri 24 v hv _ (fun _=>hbf) hwl.2 hxl,M3];have hsh2:rN s (m+8+2)= .ok (l,m+8+2+r):=hsh;have hc:F1 24 v ⟨b,0,A,B,l,false⟩=nC b.data A B l:=rfl;have hpp:((rN.bind fun l=>if nC b.data A B l=0 then Pr.ret (⟨b.data,A,B,l⟩:bU) else Pr.err (nC b.data A B l)).map gA) s (m+8+2)=((if nC b.data A B l=0 then Pr.ret (⟨b.data,A,B,l⟩:bU) else Pr.err (nC b.data A B l)).map gA) s (m+8+2+r):=by
     exact Mb hsh2
    rw[hc,hpp];by_cases hz:nC b.data A B l=0
    ·have o:(m:Int)+10+(r:Int)=((m+8+2+r:Nat):Int):=by omega
     have hbb:b=⟨false,b.data⟩:=by rw[<- hbf]
     rw[QM hz,QM hz,o];show some ((⟨b,0,A,B,l,false⟩:aJ),_)=some ((⟨⟨false,b.data⟩,0,A,B,l,false⟩:aJ),_);rw[<- hbb]
    ·rw[QO hz,QO hz];rfl
  ·rw[QO QJ,QM rfl,QM QI];have hp:ls 26 v s 0=((kN.bind fun c=>if nB b.data A B=0 then Pr.ret ⟨b.data,A,B,c⟩ else Pr.err (nB b.data A B)).map gE) s (m+8+2):=by
    unfold ls;rw[QO QJ,QO QJ,Pr.map,Pr.map,Pr.bind,Pr.bind,rO,Pr.bind_of pt,Pr.bind_of j,Pr.bind_of n]
   rw[hp];by_cases a:(s.length:Int) - ((m:Int)+10)<1
   ·rw[QM a,Pr.map,Pr.bind_err (Pr.bind_err (e:=1) (by rw[kN,Pr.bind_err (jW QI)]))];rfl
   obtain⟨c,hc⟩: ∃ c,s[m+8+2]? = some c:=⟨_,List.getElem?_eq_getElem QI⟩;have u:bP 1 s (m+8+2)= .ok (sgn c,m+8+2+1):=by
    rw[fx QI,bN hc];rfl
   rw[QO a,QM QI,hc,M3];have hcl:=c.toNat_lt;by_cases hg:(c.toNat:Int)>1
   ·have hs1: ¬ sgn c=0/\ ¬ sgn c=1:=by unfold sgn; split <;> omega
    rw[QM hg,Pr.map,Pr.bind_err (Pr.bind_err (e:=11) (by rw[kN,Pr.bind_of u,QO hs1.1,QO hs1.2]; rfl))];rfl
   ·rw[QO hg,QM QI];have hb1:kN s (m+8+2)= .ok (decide ((c.toNat:Int)=1),m+8+2+1):=by
     rw[kN,Pr.bind_of u];by_cases a:(c.toNat:Int)=1
     ·have:sgn c=1:=by unfold sgn; rw[QM QI]; exact a
      rw[this,M4 a];rfl
     ·have:sgn c=0:=by unfold sgn; rw[QM QI]; omega
      rw[this,M5 a];rfl
    have hpp:((kN.bind fun c=>if nB b.data A B=0 then Pr.ret (⟨b.data,A,B,c⟩:bT) else Pr.err (nB b.data A B)).map gE) s (m+8+2)=((if nB b.data A B=0 then Pr.ret (⟨b.data,A,B,decide ((c.toNat:Int)=1)⟩:bT) else Pr.err (nB b.data A B)).map gE) s (m+8+2+1):=by
     exact Mb hb1
    have hcc:F1 26 v ⟨b,0,A,B,[],decide ((c.toNat:Int)=1)⟩=nB b.data A B:=rfl;have o:(m:Int)+10+1=((m+8+2+1:Nat):Int):=by omega
    have hbb:b=⟨false,b.data⟩:=by rw[<- hbf]
    rw[ri 26 v hv _ (fun _=>hbf) (by simp) (by simp),M3,hcc,hpp,o,ite_self];by_cases hz:nB b.data A B=0
    ·rw[QM hz,QM hz];show some ((⟨b,0,A,B,[],decide ((c.toNat:Int)=1)⟩:aJ),_)=some ((⟨⟨false,b.data⟩,0,A,B,[],decide ((c.toNat:Int)=1)⟩:aJ),_);rw[<- hbb]
    ·rw[QO hz,QO hz];rfl
theorem IU (k v:Int) (hk:k=22\/k=24\/k=26) (hv:v=0\/v=1) (s:AI) (hs:s.length<=1000000):je k v s=some (outR (ls k v s 0)):=by
 rcases hk with rfl | hk
 ·exact D9 v hv s hs
 ·exact Gm k v hk hv s hs
theorem AY (r:aJ) (a:r.Mc.length<=1000000) (b: ∀ t,t∈r.Mc->t.Me.length<=140737488355328):j1 r r=some true:=by
 unfold j1;rw[QM rfl,QM rfl,QM rfl,QM rfl,QM rfl,BT _ _ a b,vn];cases r.Mx <;> rfl
theorem qX:il z20 z20=some true:=by
 have:=vB (b:=zQ) zQ_gd;rw[xY] at this;exact this
theorem qY:jf [] []=some true:=by
 have:=BZ [] [] QJ (fun m hm=>absurd hm List.not_mem_nil);exact this
theorem sG {α:Type} (c:Prop) [Decidable c] (a:α) (e:Int):Sh (if c then (Pr.ret a:Pr α) else Pr.err e):=by
 split
 ·exact .ret _
 ·exact .err _
theorem Ff:Sh kN:=(iu 1).bind (bW 1 QJ QJ) fun n=>by
 split
 ·exact .ret _
 ·exact sG _ _ _
theorem JZ (v:Int):Sh (rW v):=by
 unfold rW;split
 ·exact (qM 2 QJ QJ).bind (eE 2 QJ QJ) fun b=>(iu 4).bind (bW 4 QJ QJ) fun t=>(iu 8).bind (bW 8 QJ QJ) fun p=>(iu 2).bind (bW 2 QJ QJ) fun e=>sG _ _ _
 ·exact (qM 2 QJ QJ).bind (eE 2 QJ QJ) fun b=>(iu 4).bind (bW 4 QJ QJ) fun t=>sG _ _ _
theorem J0:Sh rP:=ws.bind kM fun d=>(iu 8).bind (bW 8 QJ QJ) fun p=>(iu 2).bind (bW 2 QJ QJ) fun e=>rh.bind ki fun l=>sG _ _ _
theorem J1:Sh rO:=ws.bind kM fun d=>(iu 8).bind (bW 8 QJ QJ) fun p=>(iu 2).bind (bW 2 QJ QJ) fun e=>Ff.bind wt fun c=>sG _ _ _
theorem J2 (v:Int):Sh (kj v):=(iu 8).bind (bW 8 QJ QJ) fun p=>(iu 2).bind (bW 2 QJ QJ) fun e=>Ff.bind wt fun c=>rh.bind ki fun l=>by
 by_cases h:v>0
 ·rw[QM h]; exact (iu 4).bind (bW 4 QJ QJ) fun k=> .ret _
 ·rw[QO h]; exact .ret _
theorem IV (v:Int):Sh (gX v):=(xr 4 15 QJ QJ (J2 v) (ED v)).bind (EF v) fun l=>sG _ _ _
theorem J3:Sh jT:=(iu 4).bind (bW 4 QJ QJ) fun i=>(Ay (qM 4 QJ QJ) (eE 4 QJ QJ)).bind yf fun d=>by
 unfold rV;split
 ·exact .err _
 ·exact .ret _
theorem Gn:Sh eM:=ws.bind kM fun nm=>(xr 4 8 QJ QJ J3 Cv).bind u0 fun ps=> .ret _
theorem Sh_prq (v:Int):Sh (qd v):=(qM 2 QJ QJ).bind (eE 2 QJ QJ) fun id=>(iu 2).bind (bW 2 QJ QJ) fun a=>(iu 4).bind (bW 4 QJ QJ) fun t=>(xr 4 6 QJ QJ Gn zS).bind np fun l=>sG _ _ _
def Gp (e:Int):gJ:=⟨⟨⟨0,0,0,⟨false,[]⟩⟩,zR,[],z20⟩,0,e⟩
def gotX {α:Type} (m:AI) (q n:Int) (F:α->bE):α×Int×Int->Option gJ
 | (x,k,e)=>if e=0 then (if A0 (q+k) then (if (q+k)<n then some (Gp 2) else (if A0 (4+n) then some ⟨F x,4+n,0⟩ else none)) else none) else some (Gp e)
def outG (m:AI) (x:aH×Int):gJ:=if x.2=0 then ⟨ofF x.1,((4+m.length:Nat):Int),0⟩ else Gp x.2
theorem yk {α β:Type} {p:Pr α} {enc:α->AI} {ok:α->Prop} (hs:Sp p enc ok) (hsh:Sh p) (hnz:NZ p) (g:α->aH) {R:Option (β×Int×Int)} {F:β->bE} {G:α->β} {z:β} (m:AI) (r:Nat) (hm:m.length<=1000000) (hr:r<=m.length)
 (hR:R=some (match p (m.drop r) 0 with | .error e=>(z,0,e) | .ok (x,n)=>(G x,(n:Int),0))) (hF: ∀ x,F (G x)=ofF (g x)):R.bind (gotX m r (m.length:Int) F)=some (outG m (yJ m ((p.map g) m r))):=by
 have hd:(m.drop r).length=m.length - r:=Nb;rw[hR,M3,Pr.map]
 cases hp:p (m.drop r) 0 with
 | error e =>
  have he:=hnz (m.drop r) 0 e QI (Nn _) hp;have a:p m r= .error e:=by rw[hsh.zero hr,hp]; rfl
  rw[Pr.bind_err a];simp only[gotX];rw[QO he];exact congrArg some (QO (c:=e=0) he).symm
 | ok x =>
  obtain⟨x,n⟩:=x;have a:p m r= .ok (x,r+n):=by rw[hsh.zero hr,hp]; rfl
  have hn:=(hs.spell _ _ _ _ (Nn _) hp).2.1;rw[Pr.bind_of a];simp only[gotX,yJ,Pr.ret];rw[QM trivial,QM QI];by_cases c:r+n<m.length
  ·rw[QM QI,QM c];rfl
  ·rw[QO QI,QO c,QM QI,hF];simp only[outG,if_true];have e:(4:Int)+(m.length:Int)=((4+m.length:Nat):Int):=by omega
   rw[e]
theorem J4 {m:AI} {h:fq} {r:Nat} (hp:tl m 0= .ok (h,r)):r<=m.length/\((h.Mn=0/\(h.Ml=3\/h.Ml=4))\/((h.Mn=22\/h.Mn=24\/h.Mn=26\/h.Mn=27)/\(h.Ml=0\/h.Ml=1))):=by
 obtain⟨-,a,-,-,b⟩:=Ax.spell _ _ _ _ (Nn _) hp;exact⟨a,Gl (JY b).1⟩
theorem ofF_P {h:fq} (k:h.Mn=0) (x:aC):ofF (frP h x)=⟨qW h,zR,[],ofQ x⟩:=by
 unfold ofF;rw[QM (show (frP h x).Mi.Mn=0 from k)];rfl
theorem ofF_B {h:fq} (k:h.Mn=22) (x:bg):ofF (frB h x)=⟨qW h,gB x,[],z20⟩:=by
 have e:(frB h x).Mi.Mn=h.Mn:=rfl;unfold ofF;rw[e,QO QI,QM k];rfl
theorem ofF_A {h:fq} (k:h.Mn=24) (x:bU):ofF (frA h x)=⟨qW h,gA x,[],z20⟩:=by
 have e:(frA h x).Mi.Mn=h.Mn:=rfl;unfold ofF;rw[e,QO QI,QO QI,QM k];rfl
theorem ofF_E {h:fq} (k:h.Mn=26) (x:bT):ofF (frE h x)=⟨qW h,gE x,[],z20⟩:=by
 have e:(frE h x).Mi.Mn=h.Mn:=rfl;unfold ofF;rw[e,QO QI,QO QI,QO QI,QM k];rfl
theorem ofF_M {h:fq} (k:h.Mn=27) (x:List aV):ofF (frM h x)=⟨qW h,zR,x.map toR,z20⟩:=by
 have e:(frM h x).Mi.Mn=h.Mn:=rfl;unfold ofF;rw[e,QO QI,QO QI,QO QI,QO QI,QM k];rfl
theorem IW (s:AI) (hs:s.length<=1000000):mX s=some (match yg s 0 with | .error e=>Gp e | .ok (f,r)=>⟨ofF f,(r:Int),0⟩):=by
 unfold mX yg;by_cases t:(s.length:Int)<4
 ·rw[QM t,jW QI];rfl
 rw[QO t,QM QI,cX _ (by rw[Np]; omega),M3,fx (k:=4) (s:=s) (q:=0) QI];simp only[List.drop_zero,Nat.zero_add];generalize hn:bb (s.take 4)=n;by_cases g:n<0
 ·rw[QM g,QM g];rfl
 rw[QO g,QO g,QM QI];by_cases u:n>(s.length:Int) - 4
 ·rw[QM u,QM (show (s.length:Int) - ((4:Nat):Int)<n by omega)];rfl
 rw[QO u,QO (show ¬ ((s.length:Int) - ((4:Nat):Int)<n) by omega),QM QI,QM QI,show (4+n).toNat - 4=n.toNat by omega];have hm:((s.drop 4).take n.toNat).length=n.toNat:=by rw[Np,Nb]; omega
 generalize (s.drop 4).take n.toNat=m at hm ⊢;rw[Hb m QI,M3];have hn':n=(m.length:Int):=by omega
 have hend: ∀ {x:aH×Int},opn m=x->(match (if (opn m).2=0 then Except.ok ((opn m).1,4+n.toNat) else Except.error (opn m).2:Except Int (aH×Nat)) with | .error e=>Gp e | .ok (f,r)=>(⟨ofF f,(r:Int),0⟩:gJ))=outG m x:=by
  rintro⟨f,e⟩ hx;rw[hx];unfold outG;simp only;by_cases c:e=0
  ·rw[QM c,QM c,<- hm]
  ·rw[QO c,QO c]
 cases hp:tl m 0 with
 | error e =>
  have he:=Dt.cb.nz m 0 e QI (Nn _) hp;have ho:opn m=(zF,e):=by
   unfold opn pIn;rw[Pr.bind_err hp];rfl
  rw[hend ho];unfold outG;simp only;rw[QO he,QO he];rfl
 | ok x =>
  obtain⟨h,r⟩:=x;obtain⟨hr,hv⟩:=J4 hp;have ho:opn m=yJ m (pA h m r):=by
   unfold opn pIn;rw[Pr.bind_of hp]
  rw[hend ho];simp only[if_true];have hrr:0<=(r:Int)/\r<=m.length:=⟨by omega,hr⟩;simp only[Nu];have hd:(m.drop r).length=m.length - r:=Nb;rw[hn'];unfold pA;by_cases j:h.Mn=0
  ·rw[QM j,QM hrr,QO (show ¬ h.Mn=22 by omega),QO (show ¬ h.Mn=24 by omega),QO (show ¬ h.Mn=26 by omega),QO (show ¬ h.Mn=27 by omega)];refine yk (D3 _) (Sh_prq _) (IK _).nz (frP h) (z:=zR20) (G:=ofQ) (F:=fun x=>⟨qW h,zR,[],x⟩) m r QI hr ?_ (fun x=>(ofF_P j x).symm);rcases IR (m.drop r) QI h.Ml QI with⟨e,o,v,p⟩ | ⟨x,n',o,v,p⟩
   ·rw[p,o]
   ·rw[p,o]
  rw[QO j];by_cases d:h.Mn=27
  ·rw[QM d,QM hrr,QO (show ¬ h.Mn=22 by omega),QO (show ¬ h.Mn=24 by omega),QO (show ¬ h.Mn=26 by omega),QM d];refine yk (xG _) (IV _) (AC _).nz (frM h) (G:=fun l=>l.map toR) (F:=fun x=>⟨qW h,zR,x,z20⟩) (z := []) m r QI hr ?_ (fun x=>(ofF_M d x).symm);rw[Hu h.Ml QI (m.drop r) QI];cases gX h.Ml (m.drop r) 0 <;> rfl
  rw[QO d,QM hrr,IU h.Mn h.Ml QI QI (m.drop r) QI];by_cases a:h.Mn=22
  ·rw[QM a];refine yk (AX _) (JZ _) (D5 _).nz (frB h) (G:=gB) (F:=fun x=>⟨qW h,x,[],z20⟩) (z:=zR) m r QI hr ?_ (fun x=>(ofF_B a x).symm);have e:ls h.Mn h.Ml=(rW h.Ml).map gB:=by
    unfold ls rW;rw[QM a];split <;> rfl
   rw[e,Pr.map]
   cases hq:rW h.Ml (m.drop r) 0 with
   | error e=>rw[Pr.bind_err hq]; rfl
   | ok x=>rw[Pr.bind_of hq]; rfl
  rw[QO a];by_cases b:h.Mn=24
  ·rw[QM b];refine yk DD J0 Ho.nz (frA h) (G:=gA) (F:=fun x=>⟨qW h,x,[],z20⟩) (z:=zR) m r QI hr ?_ (fun x=>(ofF_A b x).symm);have e:ls h.Mn h.Ml=rP.map gA:=by
    unfold ls;rw[QO a,QM b]
   rw[e,Pr.map]
   cases hq:rP (m.drop r) 0 with
   | error e=>rw[Pr.bind_err hq]; rfl
   | ok x=>rw[Pr.bind_of hq]; rfl
  have i:h.Mn=26:=by omega
  rw[QO b,QM i];refine yk DC J1 Hn.nz (frE h) (G:=gE) (F:=fun x=>⟨qW h,x,[],z20⟩) (z:=zR) m r QI hr ?_ (fun x=>(ofF_E i x).symm);have e:ls h.Mn h.Ml=rO.map gE:=by
   unfold ls;rw[QO a,QO b]
  rw[e,Pr.map]
  cases hq:rO (m.drop r) 0 with
  | error e=>rw[Pr.bind_err hq]; rfl
  | ok x=>rw[Pr.bind_of hq]; rfl
theorem rd_ml {f:aH} (hs:smF f):f.MF.length<=1000000:=by
 have h:=hs.2.2.1;have: ∀ l:List aV,l.length<=(dF (uP f.Mi.Ml) l).length:=by
  intro l
  induction l with
  | nil=>exact Nn _
  | cons m l ih =>
   rw[dF,M8,Ng];have:1<=(uP f.Mi.Ml m).length:=by simp only[uP,M8,aZ]; omega
   omega
 have:=this f.MF;omega
theorem rd_gd {f:aH} (hs:smF f) (k:f.Mi.Mn=0):gdQ f.Mp:=(hs.2.2.2 QI QI QI QI).1
theorem rd_of {f:aH} (hs:smF f):oR f=some (ofF f):=of21 f (rd_ml hs) (fun k=>JW (rd_gd hs k))
theorem J5 {f:aH} (hs:smF f):j2 (ofF f) (ofF f)=some true:=by
 have hb: ∀ {t:Top} {l:List Top},wTs l<=3000->t∈l->t.Me.length<=140737488355328:=fun {t l} hw ht=>by
  have:=wu _ _ ht;unfold wT at this;omega
 have g:=AY zR QJ (fun t ht=>absurd ht List.not_mem_nil);have fin:j1 (ofF f).MI (ofF f).MI=some true->jf (ofF f).MF (ofF f).MF=some true->il (ofF f).Mp (ofF f).Mp=some true->j2 (ofF f) (ofF f)=some true:=fun j k n=>by
  unfold j2;rw[QM rfl,QM rfl,QM rfl,QM rfl,QM rfl,j,M3,QM rfl,k,M3,QM rfl,n];rfl
 have key: ∀ {x:aJ} {y:List bK} {z:aX},ofF f=⟨qW f.Mi,x,y,z⟩->j1 x x=some true->jf y y=some true->il z z=some true->j2 (ofF f) (ofF f)=some true:=fun {x y z} e j k n=>by
  rw[e] at fin ⊢;exact fin j k n
 by_cases c:f.Mi.Mn=0
 ·refine key (x:=zR) (y := []) (z:=ofQ f.Mp) (by unfold ofF; rw[QM c]) g qY ?_;have:=vB (b:=f.Mp) (rd_gd hs c);rw[xY] at this;exact this
 by_cases a:f.Mi.Mn=22
 ·exact key (x:=gB f.MG) (y := []) (z:=z20) (by unfold ofF; rw[QO c,QM a]) (AY (gB f.MG) (Nn _) (fun t ht=>absurd ht List.not_mem_nil)) qY qX
 by_cases d:f.Mi.Mn=24
 ·refine key (x:=gA f.MJ) (y := []) (z:=z20) (by unfold ofF; rw[QO c,QO a,QM d]) (AY (gA f.MJ) ?_ (fun t ht=>hb hs.1 ht)) qY qX;have:=tr f.MJ.Mc;have:=hs.1;show f.MJ.Mc.length<= _;omega
 by_cases h:f.Mi.Mn=26
 ·exact key (x:=gE f.MN) (y := []) (z:=z20) (by unfold ofF; rw[QO c,QO a,QO d,QM h]) (AY (gE f.MN) (Nn _) (fun t ht=>absurd ht List.not_mem_nil)) qY qX
 by_cases i:f.Mi.Mn=27
 ·refine key (x:=zR) (y:=f.MF.map toR) (z:=z20) (by unfold ofF; rw[QO c,QO a,QO d,QO h,QM i]) g ?_ qX;have:=BZ f.MF f.MF (rd_ml hs) (fun m hm=>⟨by have:=tr m.Mc; have:=hs.2.1 m hm; omega,fun t ht=>hb (hs.2.1 m hm) ht⟩);rw[M4 rfl] at this;exact this
 ·exact key (x:=zR) (y := []) (z:=z20) (by unfold ofF; rw[QO c,QO a,QO d,QO h,QO i]) g qY qX
theorem Ex.fld {P:Program} {n:Nat} {e:Env} {S:World->Prop} {x:Operand} {d:Option Tmp} {ty t:TypeId} {pos:String} {af:Array Edge} {gd:Option (Nat×Bool)} {us:Array Value} {fs:Array Field} {fl:Field} {v:Value} (f:Nat) (hx:e.ev x=some (.agg us)) (hu: ∀ w,(underlying t).run P w= .ok (.struct fs) w) (hf:fs[f]? = some fl) (ha: ∀ w,(isAgg fl.type).run P w= .ok false w) (hv:us[fl.offset]? = some v) :
 Ex P n e S ⟨d,.field t x f,ty,pos,af,gd⟩ v:=by
 intro a w h _;simp[execOp,h.ev hx,Instr.field,hu,hf,asAgg,part,ha,hv]
def va:eY := [(67,0,0),(67,2,19),(85,0,0),(85,1,1),(85,2,2)]
theorem bf:(va).OK Tryz.prog:=⟨FOK.mk Pn rfl NS rfl,FOK.mk Pn rfl M9 rfl,FOK.mk OS rfl Tryz.sizeOf75 rfl,FOK.mk OS rfl M9 rfl,FOK.mk OS rfl M9 rfl,trivial⟩
def vb:List Nat := [3,75]
theorem dj:NOK Tryz.prog vb:=⟨Nc,Qz,trivial⟩
theorem qZ:BOK Tryz.prog 85 #[A5,.int .i64 0,.int .i64 0] [(0,1),(1,1),(2,1)]:=BOK.mk Tryz.zeroValue85 OS (by intro w; simp)
theorem pC:SOK Tryz.prog 75 53 1 18 #[.int .i64 0,.int .i64 0,.int .i64 0,.bool false,A7,.bool false,A7,.int .i64 0,.int .i64 0,.int .i64 0,A5,.bool false,A5,.bool false,A7,.int .i64 0,.int .i64 0,A5]:=SOK.mk Pa NS Tryz.zeroValue53 QJ QK
theorem q7:(Tryz.prog.info? 53).map (fun i=>(i.zero,i.size,i.bytes))=some (some (.agg #[.int .i64 0,.int .i64 0,.int .i64 0,.bool false,A7,.bool false,A7,.int .i64 0,.int .i64 0,.int .i64 0,A5,.bool false,A5,.bool false,A7,.int .i64 0,.int .i64 0,A5]),18,216):=by kernel_rfl
def gl (a0:AI):Nat->List bE->Int->Option (Lp qr (List bE×Int))
 | 0,_,_=>none
 | e+1,c,a=>if A0 ((a0.length:Int) - a) then (if ((a0.length:Int) - a)>=4 then (if A0 (a+4) then (if 0<=a/\0<=(a+4)/\a.toNat<=(a+4).toNat/\(a+4).toNat<=a0.length then ((gy ((a0.drop a.toNat).take (((a+4).toNat) - a.toNat))).bind fun b=>(if b<0 then some true else (if b>16777216 then some true else some false)).bind fun f=>if f=true then (some (Lp.ret (⟨c,a,4⟩:qr))) else (if A0 ((a0.length:Int) - a) then (if A0 (((a0.length:Int) - a) - 4) then (if b>(((a0.length:Int) - a) - 4) then (some (Lp.ret (⟨c,a,0⟩:qr))) else (if A0 (a+4) then (if A0 ((a+4)+b) then (if 0<=a/\0<=((a+4)+b)/\a.toNat<=((a+4)+b).toNat/\((a+4)+b).toNat<=a0.length then ((mX ((a0.drop a.toNat).take ((((a+4)+b).toNat) - a.toNat))).bind fun d=>if d.MX=0 then (if (c.length+1)*216<=140737488355328 then (if A0 (a+4) then (if A0 ((a+4)+b) then (gl a0 e (c ++ [d.MP]) ((a+4)+b)) else none) else none) else none) else (some (Lp.ret (⟨c,a,d.MX⟩:qr)))) else none) else none) else none)) else none) else none)) else none) else none) else (some (Lp.go (c,a)))) else none
def mG (a0:AI):Option (qr):=(gl a0 (((((a0.length:Int) - 0)) - (3)).toNat+1) [] 0).bind fun e=>match e with | .ret r=>some r | .go (a,b)=>some (⟨a,b,0⟩:qr)
theorem q8 (a0:AI) (r:qr) (h:mG a0=some r):aB Tryz.prog 33 #[jS a0] .triv (aI) (fun v A' N=> ∃ (Q:AT) (R:Nat),v= .agg (wA26 r Q R)/\A'=aI/\N = [RdR (ar 18 g7) [.slice Q r.MW.length R] r.MW]):=by
 refine aS Tryz.func33 Z Tryz.ntmps33 Z ?_;intro F w hX;unfold mG at h;refine Ka Z (TL.alloc Z .u Tryz.zeroValue85 Z (fun O=>(Ky Z ?_)));refine Kb Z (KH (cells:=vA45) qZ Z QK) Z ?_;refine TL.alloc Z .u Tryz.zeroValue85 Z (fun P=>(Kj 0 Z (cs':=vA45) Z .u Z Z OE Z Z Z Z Z (Kc (T.seq (T.block (Le 53 18 g7 ?_))))));obtain⟨E7,S,j⟩:=M1 h;refine K4 (fun m e Rs=> ∃ (b:List bE) (c:AT) (f:Nat) (a:Int),e = [(0,jS a0),(2,jP O),(3,jP P)]/\Rs = [bC 53 18 g7 (.slice c b.length f) b,aR P 85 #[.slice c b.length f,jI a,jI 0],aR O 85 vA45,aI]/\gl a0 m b a=some E7) (((((a0.length:Int) - 0)) - (3)).toNat+1) [0,0,0,0] ⟨[],none,0,0,Z,Z,by exact S⟩ QL QL ?_;clear S h;rintro C _ _ ⟨b,c,f,a,rfl,rfl,h⟩
 cases C with
 | zero =>
  rw[gl] at h;cases h
 | succ C =>
  rw[gl] at h;refine T.seq (Ka Z (J9 bf 1 Z (Kb Z (KT Z Na) Z ?_)));obtain⟨Y,h⟩:=aj h;refine Kf bf dj 1 Z 2 Z Z (Kb Z (Ex.sub Z Z Y) Z (J9 bf 1 Z ?_));rcases jF h with⟨D,h⟩ | ⟨D,h⟩
  ·refine KE Z D (Kw (T.block (Ka Z ?_)));obtain⟨aa,h⟩:=aj h;refine Kf bf dj 1 Z 5 Z Z (Kb Z (Ex.add Z Z aa) Z ?_);obtain⟨o,h⟩:=aj h;replace o:0<=a/\0<=(a+4)/\a.toNat<=(a+4).toNat/\(a+4).toNat<=a0.length:=o;refine Kb Z (KZ (p:=a.toNat) (q:=(a+4).toNat) (m:=((a0.drop a.toNat).take (((a+4).toNat) - a.toNat))) Z Na (.some Z ((Int.toNat_of_nonneg o.1).symm)) (.some Z ((Int.toNat_of_nonneg o.2.1).symm)) (by first | omega | (dsimp only; omega)) Z) Z ?_;obtain⟨i,V,h⟩:=M1 h;refine Kt Z .u (.fn Tryz.call25 Z) (KM (fun w=>bv ((a0.drop a.toNat).take (((a+4).toNat) - a.toNat)) _ V w)) (fun _ _=>Ku _ _) Z (Kk bf Z (Lq ?_));obtain⟨ab,h,n⟩:=M1 h;refine K7 (fun e Rs=>e = [(0,jS a0),(2,jP O),(3,jP P),(4,jI i),(26,.bool ab)]/\Rs = [bC 53 18 g7 (.slice c b.length f) b,aR P 85 #[.slice c b.length f,jI a,jI 0],aR O 85 vA45,aI]) ?_ ?_
   ·clear n;refine T.region Z ?_;rcases jF h with⟨H,h⟩ | ⟨H,h⟩
    ·refine J9 bf 3 Z (Kh 23 Z (M4 H) (Ki bf 3 Z ?_));cases h;exact TL.nil (Kq [0,0,0,0])
    refine J9 bf 3 Z (Kh 23 Z (M5 H) (Ki bf 3 Z ?_));rcases jF h with⟨I,h⟩ | ⟨I,h⟩
    ·cases h;exact TL.nil (K3 (d:=26) (v':= .bool true) Z (congrArg Value.bool (M4 I)) (Kq [0,0,0,0]))
    cases h;exact TL.nil (K3 (d:=26) (v':= .bool false) Z (congrArg Value.bool (M5 I)) (Kq [0,0,0,0]))
   rintro _ _ ⟨rfl,rfl⟩;clear h;have h:=n;clear n;try dsimp only at h
   rcases jF h with⟨k,h⟩ | ⟨k,h⟩
   ·refine X.seq (Kr Z k (Ka Z (J9 bf 1 Z (Kj 1 Z (cs':= #[.slice c b.length f,jI a,jI 4]) Z .u Z Z M9 Z Z Z Z Z (Ky Z (Kb Z (Kp (us := [.slice c b.length f,jI a,jI 4]) 1 Z PC OE Z Z Z) Z (Kj 2 Z (cs':= #[.slice c b.length f,jI a,jI 4]) Z .u Z Z OE Z Z Z Z Z ?_)))))));obtain rfl:=M2 h;obtain rfl:=M2 j;exact Kc (T.ret (Ke (Ko (Ke (Ko (Ke (Ll QJ 0 Z (KX [0,0,0,0] Z (Ks [3,0] QG (Kz (us:= #[.slice c b.length f,jI a,jI 4]) 2 Z PC OE Z Z) ⟨_,_,Z,Z,Z⟩ QL (.inl Z))))))))))
   replace k:=M7 k;refine X.seq (KN Z k (Kw (T.seq (Ka Z (J9 bf 2 Z (Kb Z (KT Z Na) Z ?_))))));obtain⟨ad,h⟩:=aj h;refine Kf bf dj 1 Z 2 Z Z (Kb Z (Ex.sub Z Z ad) Z ?_);obtain⟨ae,h⟩:=aj h;refine Kb Z (Ex.sub Z Z ae) Z (J9 bf 1 Z ?_);rcases jF h with⟨J,h⟩ | ⟨J,h⟩
   ·refine KE Z J (Ka Z (Kb Z (Kp (us := [.slice c b.length f,jI a,jI 0]) 1 Z PC OE Z Z Z) Z (Kj 2 Z (cs':= #[.slice c b.length f,jI a,jI 0]) Z .u Z Z OE Z Z Z Z Z ?_)));obtain rfl:=M2 h;obtain rfl:=M2 j;exact Kc (T.ret (Ke (Ko (Ke (Ko (Ke (Ll QJ 0 Z (KX [0,0,0,0] Z (Ks [3,0] QG (Kz (us:= #[.slice c b.length f,jI a,jI 0]) 2 Z PC OE Z Z) ⟨_,_,Z,Z,Z⟩ QL (.inl Z))))))))))
   refine KA Z J (Kv Z ?_);obtain⟨af,h⟩:=aj h;refine Kf bf dj 1 Z 5 Z Z (Kb Z (Ex.add Z Z af) Z ?_);obtain⟨ag,h⟩:=aj h;refine J9 bf 1 Z (Kb Z (Ex.add Z Z ag) Z ?_);obtain⟨s,h⟩:=aj h;replace s:0<=a/\0<=((a+4)+i)/\a.toNat<=((a+4)+i).toNat/\((a+4)+i).toNat<=a0.length:=s;refine Kb Z (KZ (p:=a.toNat) (q:=((a+4)+i).toNat) (m:=((a0.drop a.toNat).take ((((a+4)+i).toNat) - a.toNat))) Z Na (.some Z ((Int.toNat_of_nonneg s.1).symm)) (.some Z ((Int.toNat_of_nonneg s.2.1).symm)) (by first | omega | (dsimp only; omega)) Z) Z ?_;obtain⟨g,W,h⟩:=M1 h;refine K2 Z .u (.fn Tryz.call22 Z) (wd ((a0.drop a.toNat).take ((((a+4)+i).toNat) - a.toNat)) _ W) rT Z ?_;rintro _ _ _ ⟨t,x,y,z,A,B,rfl,rfl,rfl⟩;refine KK [0,0,0,0,0,0,0] Z (TL.alloc Z .u Tryz.zeroValue67 Z (fun ak=>(Kj 0 Z (cs':=wA13 g t y A x z B) Z .u Z Z N0 Z Z Z Z Z (Kc (T.seq (Ka Z (Kf bf dj 0 Z 3 Z Z ?_)))))));rcases jF h with⟨K,h⟩ | ⟨K,h⟩
   ·refine KG Z K (Kv Z (Kf bf dj 5 Z 3 Z Z (Kb Z (Kp (us:=wL27 g.MP t y A x z B) 0 Z Oy NS Z Z Z) Z ?_)));refine Lj (cells:=FG g.MP t y A x z B) Z .u pC Z QK Z (fun al=> ?_);obtain⟨U,h⟩:=aj h;refine KK [2,2,2,0,0,0,0,0,0] Z ?_;iterate 2 refine TL.pair ?_
    refine KK [1,0,0,0,0,0,0] Z ?_;refine Ly 2 0 Z .u (us:=wL27 g.MP t y A x z B) (u:=g.MP) (l:=b) (E:=g7) Tryz.underlying75 q7 Z QJ Z Z Z Z Z Z Z (fun w G hG=>⟨_,_,_,_,_,_,Z,(FF hG).1,(FF hG).2.1,(FF hG).2.2⟩) (by have hq:=U; omega) (by have hq:=U; omega) Z (fun L M=> ?_);refine KK [0,0,0,0,0] Z (J9 bf 1 Z (Kj 2 Z (cs':= #[.slice L (b ++ [g.MP]).length M,jI a,jI 0]) Z .u Z Z Tryz.sizeOf75 Z Z Z Z Z (Kc (T.region Z ?_))));obtain⟨ah,h⟩:=aj h;refine Kf bf dj 2 Z 2 Z Z (Kb Z (Ex.add Z Z ah) Z ?_);obtain⟨ai,h⟩:=aj h;exact J9 bf 1 Z (Kb Z (Ex.add Z Z ai) Z (J9 bf 1 Z (Kj 2 Z (cs':= #[.slice L (b ++ [g.MP]).length M,jI ((a+4)+i),jI 0]) Z .u Z Z M9 Z Z Z Z Z (TL.nil (KD (X.back (m':=C) [0,1,1,1] QI ⟨(b ++ [g.MP]),L,M,((a+4)+i),Z,Z,h⟩ QL QL))))))
   refine KF Z K (Ka Z (Kf bf dj 0 Z 3 Z Z (Kj 5 Z (cs':= #[.slice c b.length f,jI a,jI g.MX]) Z .u Z Z M9 Z Z Z Z Z (Ky Z (Kb Z (Kp (us := [.slice c b.length f,jI a,jI g.MX]) 5 Z PC OE Z Z Z) Z (Kj 6 Z (cs':= #[.slice c b.length f,jI a,jI g.MX]) Z .u Z Z OE Z Z Z Z Z ?_))))));obtain rfl:=M2 h;obtain rfl:=M2 j;exact Kc (T.ret (Ke (Ko (Ke (Ko (Ke (Ll QJ 4 Z (KX [0,0,0,0,0,0,0,0] Z (Ks [7,4] QG (Kz (us:= #[.slice c b.length f,jI a,jI g.MX]) 6 Z PC OE Z Z) ⟨_,_,Z,Z,Z⟩ QL (.inl Z))))))))))
  refine KA Z D ?_;obtain rfl:=M2 h;replace h:=j;clear j;refine T.exit (Kx (Kx (K1 (X.seq (Ka Z (Kb Z (Kp (us := [.slice c b.length f,jI a,jI 0]) 1 Z PC OE Z Z Z) Z (Kj 2 Z (cs':= #[.slice c b.length f,jI a,jI 0]) Z .u Z Z OE Z Z Z Z Z ?_)))))));obtain rfl:=M2 h;exact Kc (T.ret (Ll QJ 0 Z (KX [0,0,0,0] Z (Ks [3,0] QG (Kz (us:= #[.slice c b.length f,jI a,jI 0]) 2 Z PC OE Z Z) ⟨_,_,Z,Z,Z⟩ QL (.inl Z)))))
def IX:eY := [(147,0,0),(147,1,1),(149,0,0),(149,1,2),(149,2,3)]
theorem aQ:(IX).OK Tryz.prog:=⟨FOK.mk Tryz.runUnderlying147 rfl M9 rfl,FOK.mk Tryz.runUnderlying147 rfl M9 rfl,FOK.mk PQ rfl Tryz.sizeOf147 rfl,FOK.mk PQ rfl NG rfl,FOK.mk PQ rfl Tryz.sizeOf41 rfl,trivial⟩
def IY:List Nat := [3,9,41]
theorem ei:NOK Tryz.prog IY:=⟨Nc,NQ,Tryz.isAgg41,trivial⟩
theorem rl:Tryz.prog.follows .mixedOrders=true:=by kernel_rfl
theorem yK:BOK Tryz.prog 149 #[.int .i64 0,.int .i64 0,A7,.int .i64 0] [(0,2),(2,1),(3,1)]:=BOK.mk Tryz.zeroValue149 PQ (by intro w; simp)
theorem yl:SOK Tryz.prog 60 38 1 24 #[.int .i64 0,.int .i64 0,.int .i64 0,.bool false,A7,.bool false,A7,.int .i64 0,.int .i64 0,.int .i64 0,A7,.int .i64 0,.int .i64 0,A5,A7,.int .i64 0,.int .i64 0,.bool false,A5,.bool false,A7,.int .i64 0,.int .i64 0,A5]:=SOK.mk Pb Nt Tryz.zeroValue38 QJ QK
theorem AZ:(Tryz.prog.info? 38).map (fun i=>(i.zero,i.size,i.bytes))=some (some (.agg #[.int .i64 0,.int .i64 0,.int .i64 0,.bool false,A7,.bool false,A7,.int .i64 0,.int .i64 0,.int .i64 0,A7,.int .i64 0,.int .i64 0,A5,A7,.int .i64 0,.int .i64 0,.bool false,A5,.bool false,A7,.int .i64 0,.int .i64 0,A5]),24,280):=by kernel_rfl
def lV  : Option (aO):=some (⟨(⟨0,0⟩:ew),[],0⟩:aO)
theorem oY  (r:aO) (h:lV  = some r):aB Tryz.prog 27 #[] .triv (aI) (fun v A' N=> ∃ q:Nat,v=jP q/\A'=aI/\N = [aR q 149 (tU r)]):=by
 refine aS Tryz.func27 Z Tryz.ntmps27 Z ?_;intro F w hX;unfold lV at h;refine Ka Z (KJ aQ Z Z ?_);refine Kb Z (KH (cells:= #[jI 0,jI 0,A7,jI 0]) yK Z QK) Z ?_;refine TL.box Z .u Z Z (fun a=>(J9 aQ 1 Z ?_));obtain rfl:=M2 h;exact Kc (T.ret (Ks [1,0] Tryz.results27 (Kd Z) ⟨_,Z,Z,Z⟩ QL (.inl Z)))
def dt (st:aO)  : Option (Int×Bool×aO):=if (st.fheld.length:Int)<4 then some (0,false,st) else ((vE st.fheld).bind fun b=>(ea b 4).bind fun (a,d)=>(if a<0 then some true else (if a>16777216 then some true else some false)).bind fun c=>if c=true then (some (0,false,(⟨st.fcount,st.fheld,4⟩:aO))) else (if A0 (4+a) then (if A0 (4+a) then (if (st.fheld.length:Int)>=(4+a) then (some ((4+a),true,st)) else (some ((4+a),false,st))) else none) else none))
theorem nD (g:Nat) (st:aO)  (r:Int×Bool×aO) (h:dt st  = some r):aB Tryz.prog 76 #[jP g] .triv (aR g 149 (tU st)) (fun v A' N=>v= .tuple #[jI r.1,.bool r.2.1]/\A'=aR g 149 #[jI r.2.2.fcount.fmany,jI r.2.2.fcount.fat,jS r.2.2.fheld,jI r.2.2.ferr]/\N = []):=by
 refine aS Tryz.func76 Z Tryz.ntmps76 Z ?_;intro F w hX;unfold dt at h;refine Ka Z (Kk aQ Z (T.seq (Ka Z (Kf aQ ei 0 Z 4 Z Z (Kb Z (KT Z Na) Z (J9 aQ 1 Z ?_))))));rcases jF h with⟨k,h⟩ | ⟨k,h⟩
 ·refine KE Z k (Ka Z (J9 aQ 2 Z ?_));obtain rfl:=M2 h;exact Kc (T.ret (Ke (KR [0] QH (Kd Z) (Kd Z) ⟨Z,Z,Z⟩ QL (.inl Z))))
 refine KA Z k (Kv Z ?_);obtain⟨l,m,h⟩:=M1 h;refine Kf aQ ei 0 Z 4 Z Z (K2 Z .u (.fn Tryz.call19 Z) (j7 st.fheld _ m) rT Z ?_);rintro _ _ _ ⟨n,rfl,rfl,rfl⟩;refine KK [0,0] Z ?_;obtain⟨⟨x,o⟩,p,h⟩:=M1 h;refine Kn 0 Z Z .u (.fn Tryz.call68 Z) (bw n l 4 _ p) sT Z Z (Kk aQ Z (Lq ?_));obtain⟨y,h,c⟩:=M1 h;refine K7 (fun e Rs=>e = [(0,jP g),(2,jI 0),(3,.bool false),(4,jI x),(22,.bool y)]/\Rs = [InR n o,aR g 149 (tU st)]) ?_ ?_
 ·clear c;refine T.region Z ?_;rcases jF h with⟨f,h⟩ | ⟨f,h⟩
  ·refine J9 aQ 3 Z (Kh 19 Z (M4 f) (Ki aQ 3 Z ?_));cases h;exact TL.nil (Kq [0,0])
  refine J9 aQ 3 Z (Kh 19 Z (M5 f) (Ki aQ 3 Z ?_));rcases jF h with⟨i,h⟩ | ⟨i,h⟩
  ·cases h;exact TL.nil (K3 (d:=22) (v':= .bool true) Z (congrArg Value.bool (M4 i)) (Kq [0,0]))
  cases h;exact TL.nil (K3 (d:=22) (v':= .bool false) Z (congrArg Value.bool (M5 i)) (Kq [0,0]))
 rintro _ _ ⟨rfl,rfl⟩;clear h;have h:=c;clear c;try dsimp only at h
 rcases jF h with⟨a,h⟩ | ⟨a,h⟩
 ·refine X.seq (Kr Z a (Ka Z (J9 aQ 3 Z (Kj 1 Z (cs':= #[jI st.fcount.fmany,jI st.fcount.fat,jS st.fheld,jI 4]) Z .u Z Z Tryz.sizeOf41 Z Z Z Z Z (Ky Z (J9 aQ 2 Z ?_))))));obtain rfl:=M2 h;exact Kc (T.ret (Ke (KR [1] QH (Kd Z) (Kd Z) ⟨Z,Z,Z⟩ QL (.inl Z))))
 replace a:=M7 a;refine X.seq (KN Z a ?_);refine Kw (T.seq (KQ (.q 0 (.q 1 (.q 2 (.q 3 (.q 4 (.q 5 (.q 6 (.q 7 (.q 8 (.q 9 (.q 10 (.q 11 .nil)))))))))))) [0,0] Z rl (NoP.seq bi) QK ?_));obtain⟨s,h⟩:=aj h;refine TD.run aQ [0] Z Z (Kg Z (Ex.add Z Z s) Z (TD.run aQ [2,3,4] Z Z (Kg Z (KI 1 Z NQ Z Z) Z (Kg Z (KT Z Na) Z ?_))));obtain⟨t,h⟩:=aj h;refine TD.run aQ [7] Z Z (Kg Z (Ex.add Z Z t) Z (TD.run aQ [9,10,11] Z Z ?_));rcases jF h with⟨j,h⟩ | ⟨j,h⟩
 ·obtain rfl:=M2 h;exact K6 (T.ret (KR [1] QH (Kd Z) (Kd (v:= .bool true) (congrArg (fun b=>some (Value.bool b)) (M4 j))) ⟨Z,Z,Z⟩ QL (.inl Z)))
 obtain rfl:=M2 h;exact K6 (T.ret (KR [1] QH (Kd Z) (Kd (v:= .bool false) (congrArg (fun b=>some (Value.bool b)) (M5 j))) ⟨Z,Z,Z⟩ QL (.inl Z)))
def jw (st:aO) (a1:Int):Option (aO):=if A0 (st.fcount.fmany+1) then (if A0 (st.fcount.fat+a1) then (some (⟨(⟨(st.fcount.fmany+1),(st.fcount.fat+a1)⟩:ew),st.fheld,st.ferr⟩:aO)) else none) else none
theorem qe (g:Nat) (st:aO) (a1:Int) (r:aO) (h:jw st a1=some r):aB Tryz.prog 77 #[jP g,jI a1] .triv (aR g 149 (tU st)) (fun v A' N=>v= .tuple #[]/\A'=aR g 149 (tU r)/\N = []):=by
 refine aS Tryz.func77 Z Tryz.ntmps77 Z ?_;intro F w hX;unfold jw at h;obtain⟨a,h⟩:=aj h;obtain⟨c2,h⟩:=aj h;refine LJ (fun e Rs=>e = []/\Rs = [aR g 149 (vA46 a1 st)]) ?_ ?_
 ·refine KQ (.q 0 (.q 1 (.q 2 (.q 3 (.q 4 (.q 7 (.q 8 (.q 9 (.q 11 (.br 5 (.q 6 (.e 10 (.q 12 (.q 13 (.q 14 (.e 15 (.q 16 (.q 17 (.e 18 .nil))))))))) (.e 10 (.q 12 (.e 5 (.q 6 (.q 13 (.q 14 (.e 15 (.q 16 (.q 17 (.e 18 .nil)))))))))))))))))))) [] Z rl om QK ?_;refine TD.run aQ [0,1,2,3,4,7,8,9,11] Z Z ?_;refine TD.br ?_ ?_
  ·refine LD Z .u (KI 0 Z Nc Z Z) Z [] Z (Kg Z (Ex.add Z Z a) Z (LD Z .u (KI 0 Z Nc Z Z) Z [] Z (Kg Z (Ex.add Z Z c2) Z (TD.run aQ [13,14] Z Z (K9 0 Z (cs':=vA47 st) Z .u Z Z M9 Z Z Z Z Z [] (Z) (TD.run aQ [16,17] Z Z (K9 0 Z (cs':=vA46 a1 st) Z .u Z Z M9 Z Z Z Z Z [] (Z) ?_)))))));exact TD.nil (Lr [0] ⟨Z,Z⟩ QL QL)
  refine LD Z .u (KI 0 Z Nc Z Z) Z [] Z (Kg Z (Ex.add Z Z c2) Z (LD Z .u (KI 0 Z Nc Z Z) Z [] Z (Kg Z (Ex.add Z Z a) Z (TD.run aQ [13,14] Z Z (K9 0 Z (cs':=vA47 st) Z .u Z Z M9 Z Z Z Z Z [] (Z) (TD.run aQ [16,17] Z Z (K9 0 Z (cs':=vA46 a1 st) Z .u Z Z M9 Z Z Z Z Z [] (Z) ?_)))))));exact TD.nil (Lr [0] ⟨Z,Z⟩ QL QL)
 rintro _ _ ⟨rfl,rfl⟩;obtain rfl:=M2 h;exact Lm [0] Tryz.results77 ⟨Z,Z,Z⟩ QL (.inr Z)
def cN:Nat->List aH->Int->List aH->Int->Int->AI->Int->Option (Lp (List aH×Int×aO) (List aH×Int×List aH×Int×Int×AI×Int))
 | 0,_,_,_,_,_,_,_=>none
 | f+1,m,n,e,g,h,i,j=>(dt (⟨(⟨g,h⟩:ew),i,j⟩:aO)).bind fun (b,k,a)=>if k=true then (if 0<=b/\b.toNat<=a.fheld.length then ((jk (a.fheld.take b.toNat)).bind fun (l,d)=>if d=0 then (if (e.length+1)*280<=140737488355328 then ((jw a b).bind fun c=>if 0<=b/\b.toNat<=c.fheld.length then (cN f m n (e ++ [l]) c.fcount.fmany c.fcount.fat (c.fheld.drop b.toNat) c.ferr) else none) else none) else (some (Lp.ret (e,d,(⟨a.fcount,a.fheld,d⟩:aO))))) else none) else (some (Lp.ret (e,a.ferr,a)))
def cE (st:aO) (a1:AI):Option (List aH×Int×aO):=if st.ferr=0 then (if st.fheld.length+a1.length<=9223372036854775807 then ((cN ((((st.fheld++a1).length:Int)+1).toNat+1) [] 0 [] st.fcount.fmany st.fcount.fat (st.fheld++a1) st.ferr).bind fun e=>match e with | .ret r=>some r | .go (a,b,h,c,d,f,g)=>(some (a,b,(⟨(⟨c,d⟩:ew),f,g⟩:aO)))) else none) else some ([],st.ferr,st)
theorem fX (g:Nat) (st:aO) (a1:AI) (r:List aH×Int×aO) (h:cE st a1=some r):aB Tryz.prog 29 #[jP g,jS a1] .triv (aR g 149 (tU st)) (fun v A' N=> ∃ (P:AT) (Q:Nat),v= .tuple #[.slice P r.1.length Q,jI r.2.1]/\A'=aR g 149 #[jI r.2.2.fcount.fmany,jI r.2.2.fcount.fat,jS r.2.2.fheld,jI r.2.2.ferr]/\N = [RdR (ar 24 du) [.slice P r.1.length Q] r.1]):=by
 refine aS Tryz.func29 Z Tryz.ntmps29 Z ?_;intro F w hX;unfold cE at h;refine Ka Z (KJ aQ Z Z (Kk aQ Z (T.seq (Ka Z (Kf aQ ei 0 Z 5 Z Z ?_)))));rcases jF h with⟨S,h⟩ | ⟨S,h⟩
 ·refine KG Z S (Kv Z ?_);obtain⟨c2,h⟩:=aj h;refine Kf aQ ei 0 Z 5 Z Z (Kb Z (Ex.sAdd Z Z c2) Z (J9 aQ 2 Z (Kj 0 Z (cs':= #[jI st.fcount.fmany,jI st.fcount.fat,.string (aW (st.fheld++a1)),jI st.ferr]) Z .u Z Z NG Z Z Z Z Z (Kc (T.block ?_)))));iterate 2 refine Le 38 24 du ?_
  obtain⟨ab,C,D⟩:=M1 h;refine K4 (fun m e Rs=> ∃ (B:List aH) (L:AT) (M:Nat) (O:Int) (i:List aH) (U:AT) (V:Nat) (j:Int) (k:Int) (n:AI) (o:Int),e = [(0,jP g),(4,.slice L B.length M),(5,jI O),(6,.slice U i.length V)]/\Rs = [bC 38 24 du (.slice L B.length M) B,bC 38 24 du (.slice U i.length V) i,aR g 149 (Da j k n o)]/\cN m B O i j k n o=some ab) ((((st.fheld++a1).length:Int)+1).toNat+1) [0,0,0] ⟨[],none,0,0,[],none,0,st.fcount.fmany,st.fcount.fat,(st.fheld++a1),st.ferr,Z,Z,by exact C⟩ QL QL ?_;clear C h;rintro H _ _ ⟨B,L,M,O,i,U,V,j,k,n,o,rfl,rfl,h⟩
  cases H with
  | zero =>
   rw[cN] at h;cases h
  | succ H =>
   rw[cN] at h;refine T.block (Ka Z ?_);obtain⟨⟨b,ag,c⟩,W,h⟩:=M1 h;refine J9 aQ 1 Z (Kn 2 Z Z .u (.fn Tryz.call76 Z) (nD g (⟨(⟨j,k⟩:ew),n,o⟩:aO) _ W) sT Z Z (Kk aQ Z (T.seq (Ka Z (J9 aQ 2 Z ?_)))));rcases jF h with⟨f,h⟩ | ⟨f,h⟩
   ·refine Kc (KN Z (bc f) (Kv Z ?_));obtain⟨I,h⟩:=aj h;refine Kf aQ ei 2 Z 5 Z Z ?_;replace I:0<=b/\b.toNat<=c.fheld.length:=I;refine Kb Z (KZ (p:=0) (q:=b.toNat) (m:=(c.fheld.take b.toNat)) Z Na .none (.some Z ((Int.toNat_of_nonneg I.1).symm)) (by first | omega | (dsimp only; omega)) (by simp)) Z ?_;obtain⟨⟨d,ad⟩,Y,h⟩:=M1 h;refine K2 Z .u (.fn Tryz.call15 Z) (rG (c.fheld.take b.toNat) _ Y) rT Z ?_;rintro _ _ _ ⟨s,t,x,y,z,A,rfl,rfl,rfl⟩;refine KK [0,0,0,0,0,0] Z (J9 aQ 3 Z (TL.alloc Z .u Tryz.zeroValue38 Z (fun ah=>(Kj 0 Z (cs':=qt d s x z t y A) Z .u Z Z Nt Z Z Z Z Z (Kk aQ Z (T.seq (Ka Z (J9 aQ 2 Z ?_))))))));rcases jF h with⟨J,h⟩ | ⟨J,h⟩
    ·refine KG Z J (Kv Z (J9 aQ 1 Z (Kb Z (Kp (us:=C6 d s x z t y A) 0 Z N6 Nt Z Z Z) Z ?_)));refine Lj (cells:=qt d s x z t y A) Z .u yl Z QK Z (fun ai=> ?_);obtain⟨R,h⟩:=aj h;refine KK [2,2,2,0,0,0,0,0] Z ?_;iterate 2 refine TL.pair ?_
     refine KK [1,0,0,0,0,0] Z ?_;refine Ly 3 0 Z .u (us:=C6 d s x z t y A) (u:=d) (l:=i) (E:=du) Tryz.underlying60 AZ Z QJ Z Z Z Z Z Z Z (fun w G hG=>⟨_,_,_,_,_,_,Z,(FF hG).1,(FF hG).2.1,(FF hG).2.2⟩) (by have hq:=R; omega) (by have hq:=R; omega) Z (fun ae af=> ?_);refine KK [0,0,0,0] Z (KJ aQ Z Z ?_);obtain⟨a,aa,h⟩:=M1 h;refine J9 aQ 4 Z (Kn 3 Z Z .u (.fn Tryz.call77 Z) (qe g c b _ aa) sT Z Z (Kc (T.region Z ?_)));obtain⟨K,h⟩:=aj h;refine Kf aQ ei 3 Z 6 Z Z ?_;replace K:0<=b/\b.toNat<=a.fheld.length:=K;refine Kb Z (KZ (p:=b.toNat) (q:=a.fheld.length) (m:=(a.fheld.drop b.toNat)) Z Na (.some Z ((Int.toNat_of_nonneg K.1).symm)) .none (by first | omega | (dsimp only; omega)) (dy _ _)) Z ?_;exact J9 aQ 2 Z (Kj 3 Z (cs':= #[jI a.fcount.fmany,jI a.fcount.fat,.string (aW (a.fheld.drop b.toNat)),jI a.ferr]) Z .u Z Z NG Z Z Z Z Z (TL.nil (KD (X.back (m':=H) [2,0,1] QI ⟨B,L,M,O,(i ++ [d]),ae,af,a.fcount.fmany,a.fcount.fat,(a.fheld.drop b.toNat),a.ferr,Z,Z,h⟩ QL QL))))
    refine KF Z J (Ka Z (J9 aQ 4 Z (Kj 6 Z (cs':= #[jI c.fcount.fmany,jI c.fcount.fat,jS c.fheld,jI ad]) Z .u Z Z Tryz.sizeOf41 Z Z Z Z Z (Ky Z (J9 aQ 4 Z ?_)))));obtain rfl:=M2 h;obtain rfl:=M2 D;exact Kc (T.ret (Ke (Ko (Ke (Ko (Ll QJ 5 Z (KX [0,0,0,0,0,0,0] Z (KR [6,5] Tryz.results29 (Kd Z) (Kd Z) ⟨_,_,Z,Z,Z⟩ QL (.inl Z)))))))))
   replace f:=M7 f;refine Kc (Kr Z (bt f) ?_);refine T.seq (KQ (.q 0 (.q 1 (.q 2 (.q 3 (.q 4 (.q 5 (.q 6 .nil))))))) [0,0,0] Z rl (NoP.seq (NoP.seq (NoP.blk (NoP.seq (NoP.blk bi))))) QK ?_);refine TD.run aQ [0,1,2,3] Z Z (Kg Z (KI 2 Z Tryz.isAgg41 Z Z) Z (TD.run aQ [5,6] Z Z ?_));obtain rfl:=M2 h;obtain rfl:=M2 D;exact K6 (T.ret (Ke (Ko (Ke (Ko (Ll QJ 1 Z (KX [0,0,0] Z (KR [2,1] Tryz.results29 (Kd Z) (Kd Z) ⟨_,_,Z,Z,Z⟩ QL (.inl Z)))))))))
 refine KF Z S ?_;refine T.seq (KQ (.q 0 (.q 1 (.q 2 (.q 3 (.q 4 (.q 5 .nil)))))) [0] Z rl (NoP.seq (NoP.seq bi)) QK ?_);refine TD.run aQ [0,1,2] Z Z (Kg Z (KI 0 Z Tryz.isAgg41 Z Z) Z (TD.run aQ [4,5] Z Z ?_));obtain rfl:=M2 h;exact K6 (T.ret (Ke (Kl 24 du (KR [1,0] Tryz.results29 (Kd Z) (Kd Z) ⟨_,_,Z,Z,Z⟩ QL (.inl Z)))))
def dR (st:aO)  : Option (Int×aO):=(if st.ferr=0 then (if st.fheld = [] then some false else some true) else some false).bind fun b=>(if b=true then ((some 1:Option (Int))) else some st.ferr).bind fun a=>some (a,(⟨st.fcount,st.fheld,a⟩:aO))
theorem fU (g:Nat) (st:aO)  (r:Int×aO) (h:dR st  = some r):aB Tryz.prog 32 #[jP g] .triv (aR g 149 (tU st)) (fun v A' N=>v=jI r.1/\A'=aR g 149 #[jI r.2.fcount.fmany,jI r.2.fcount.fat,jS r.2.fheld,jI r.2.ferr]/\N = []):=by
 refine aS Tryz.func32 Z Tryz.ntmps32 Z ?_;intro F w hX;unfold dR at h;refine Ka Z (Kk aQ Z (Lq ?_));obtain⟨j,h,a⟩:=M1 h;refine K7 (fun e Rs=>e = [(0,jP g),(2,jI 0),(14,.bool j)]/\Rs = [aR g 149 (tU st)]) ?_ ?_
 ·clear a;refine T.region Z ?_;rcases jF h with⟨f,h⟩ | ⟨f,h⟩
  ·refine Kf aQ ei 0 Z 6 Z Z (Kh 8 Z (M4 f) (Kf aQ ei 0 Z 4 Z Z (TL.q Z (.g Z Z Z) (LV Z (m := []) Z) Z (Ki aQ 1 Z ?_))));rcases jF h with⟨i,h⟩ | ⟨i,h⟩
   ·cases h;exact TL.nil (K3 (d:=14) (v':= .bool false) Z (congrArg Value.bool (bc (M4 i))) (Kq [0]))
   cases h;exact TL.nil (K3 (d:=14) (v':= .bool true) Z (congrArg Value.bool (bt (M5 i))) (Kq [0]))
  refine Kf aQ ei 0 Z 6 Z Z (Kh 8 Z (M5 f) (Ki aQ 6 Z ?_));cases h;exact TL.nil (Kq [0])
 rintro _ _ ⟨rfl,rfl⟩;clear h;have h:=a;clear a;refine X.seq ?_;obtain⟨k,h,b⟩:=M1 h;refine K7 (fun e Rs=>e = [(0,jP g),(2,jI 0)]/\Rs = [aR g 149 #[jI st.fcount.fmany,jI st.fcount.fat,jS st.fheld,jI k]]) ?_ ?_
 ·clear b;rcases jF h with⟨c,h⟩ | ⟨c,h⟩
  ·refine Kr Z c (T.region Z (J9 aQ 3 Z (Kj 0 Z (cs':= #[jI st.fcount.fmany,jI st.fcount.fat,jS st.fheld,jI 1]) Z .u Z Z Tryz.sizeOf41 Z Z Z Z Z ?_)));cases h;exact TL.nil (Kq [0])
  replace c:=M7 c;refine KN Z c ?_;cases h;exact T.skip (Kq [0])
 rintro _ _ ⟨rfl,rfl⟩;clear h;have h:=b;clear b;refine X.seq (Ka Z (Kf aQ ei 0 Z 5 Z Z ?_));obtain rfl:=M2 h;exact Kc (T.ret (Km [0] Tryz.results32 (Kd Z)))
def fg (st:aO)  : Option (Int×aO):=some (st.fcount.fmany,st)
theorem jz (g:Nat) (st:aO)  (r:Int×aO) (h:fg st  = some r):aB Tryz.prog 34 #[jP g] .triv (aR g 149 (tU st)) (fun v A' N=>v=jI r.1/\A'=aR g 149 #[jI r.2.fcount.fmany,jI r.2.fcount.fat,jS r.2.fheld,jI r.2.ferr]/\N = []):=by
 refine aS Tryz.func34 Z Tryz.ntmps34 Z ?_;intro F w hX;unfold fg at h;refine Ka Z (KJ aQ Z Z (Kf aQ ei 0 Z 6 Z Z ?_));obtain rfl:=M2 h;exact Kc (T.ret (Km [0] Tryz.results34 (Kd Z)))
def iw (st:aO)  : Option (Int×aO):=some (st.fcount.fat,st)
theorem oZ (g:Nat) (st:aO)  (r:Int×aO) (h:iw st  = some r):aB Tryz.prog 31 #[jP g] .triv (aR g 149 (tU st)) (fun v A' N=>v=jI r.1/\A'=aR g 149 #[jI r.2.fcount.fmany,jI r.2.fcount.fat,jS r.2.fheld,jI r.2.ferr]/\N = []):=by
 refine aS Tryz.func31 Z Tryz.ntmps31 Z ?_;intro F w hX;unfold iw at h;refine Ka Z (KJ aQ Z Z (Kf aQ ei 0 Z 6 Z Z ?_));obtain rfl:=M2 h;exact Kc (T.ret (Km [0] Tryz.results31 (Kd Z)))
def gm (st:aO)  : Option (Int×aO):=some ((st.fheld.length:Int),st)
theorem nE (g:Nat) (st:aO)  (r:Int×aO) (h:gm st  = some r):aB Tryz.prog 35 #[jP g] .triv (aR g 149 (tU st)) (fun v A' N=>v=jI r.1/\A'=aR g 149 #[jI r.2.fcount.fmany,jI r.2.fcount.fat,jS r.2.fheld,jI r.2.ferr]/\N = []):=by
 refine aS Tryz.func35 Z Tryz.ntmps35 Z ?_;intro F w hX;unfold gm at h;refine Ka Z (KJ aQ Z Z (Kf aQ ei 0 Z 4 Z Z (Kb Z (KT Z Na) Z (J9 aQ 1 Z ?_))));obtain rfl:=M2 h;exact Kc (T.ret (Km [0] Tryz.results35 (Kd Z)))
end Go.Proofs.YtheikonlgjdopaaGreat.Sl
