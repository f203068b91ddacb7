/- splitFeeds_holds: part 1. -/
import Derived.OrdersHeld
import Derived.Deep.Draws
import Derived.Laws.Cells
import Derived.Laws.CopyRow
import Derived.Laws.StructEq
import Derived.IntWalk
import Derived.Laws.Strings
import Derived.Laws.BytesString
import Derived.Laws.MakeOwn
import Derived.Test.YtheikonlgjdopaaGreatK0
set_option maxRecDepth 100000
set_option maxHeartbeats 4000000
set_option linter.defProp false
namespace Go.Proofs.YtheikonlgjdopaaGreat.Sl
open Go.RowKit
set_option linter.unusedVariables false
theorem M1 {α β : Type} {o : Option α} {f : α -> Option β} {b : β} (h : o.bind f = some b) : ∃ a, o = some a /\ f a = some b := Option.bind_eq_some_iff.1 h
def M3 := @Option.bind_some
def NB := @List.length_map
def NY := @List.length_singleton
abbrev Env:=List (Nat×Value)
def Env.get:Env->Nat->Option Value
 | [],_=>none
 | (k,v)::e,t=>match Nat.beq k t with | true=>some v | false=>Env.get e t
def Env.ev (e:Env):Operand->Option Value
 | .tmp t=>e.get t
 | .const v=>some v
 | .func f=>some (.func (.func f) #[] #[])
 | .global g=>some (.pointer (some ⟨g,0,none⟩))
def Env.evs (e:Env):List Operand->Option (List Value)
 | []=>some []
 | x::xs=>match e.ev x with
  | some v=>match Env.evs e xs with
   | some vs=>some (v::vs)
   | none=>none
  | none=>none
structure Has (n:Nat) (e:Env) (a:Act):Prop where
 df:a.defers = []
 sz:a.tmps.size=n
 at_: ∀ t v,e.get t=some v->a.tmps[t]? = some v
section
variable {n:Nat} {e e':Env} {a:Act} {v:Value} {vs:List Value} {x:Operand} {xs:List Operand} {d:Nat}
theorem Has.put (h:Has n e a) (hd:Nat.blt d n=true):Has n ((d,v)::e) (a.put (some d) v):=by
 have hd':d<n:=by simpa [Nat.blt_eq] using hd
 refine⟨h.df,by simp[Act.put,h.sz],fun t u hu=> ?_⟩;simp only[Env.get] at hu
 cases hb:Nat.beq d t with
 | true =>
  rw[hb] at hu;obtain rfl:=Nat.eq_of_beq_eq_true hb;injection hu with hu;subst hu;simp[Act.put,h.sz,hd']
 | false =>
  rw[hb] at hu;have hne:d≠t:=Nat.ne_of_beq_eq_false hb;have b:=h.at_ t u hu;simp only[Act.put];rw[Array.getElem?_setIfInBounds_ne hne];exact b
theorem Has.put0 (h:Has n e a):Has n e (a.put none v):=h
theorem Has.ev (h:Has n e a) (hx:e.ev x=some v):a.eval x=v:=by
 cases x with
 | tmp t =>
  have:=h.at_ t v hx;simp[Act.eval,this]
 | const u=>simpa [Env.ev,Act.eval] using hx
 | func f=>simpa [Env.ev,Act.eval] using hx
 | global g=>simpa [Env.ev,Act.eval] using hx
theorem Has.evs (h:Has n e a): ∀ {xs:List Operand} {vs:List Value},e.evs xs=some vs->xs.map a.eval=vs
 | [],vs,hx=>by simpa [Env.evs] using hx
 | x::xs,vs,hx=>by
  simp only[Env.evs] at hx
  cases b:e.ev x with
  | none=>rw[b] at hx; cases hx
  | some u =>
   cases c:e.evs xs with
   | none=>rw[b,c] at hx; cases hx
   | some us =>
    rw[b,c] at hx;injection hx with hx;subst hx;simp[h.ev b,h.evs c]
theorem Has.sub (h:Has n e a) (hs: ∀ t v,Env.get e' t=some v->e.get t=some v):Has n e' a:=⟨h.df,h.sz,fun t v hv=>h.at_ t v (hs t v hv)⟩
end
def Env.gets (e:Env):List Nat->Option (List Value)
 | []=>some []
 | t::ts=>match e.get t with
  | some v=>match Env.gets e ts with
   | some vs=>some (v::vs)
   | none=>none
  | none=>none
def Env.ks:Env->List Nat
 | [] => []
 | (t,_)::r=>t::Env.ks r
def Env.vs:Env->List Value
 | [] => []
 | (_,v)::r=>v::Env.vs r
def Sub (e' e:Env):Prop:=e.gets e'.ks=some e'.vs
theorem Sub.get: ∀ {e' e:Env},Sub e' e-> ∀ t v,Env.get e' t=some v->e.get t=some v
 | [],_,_,t,v,h=>by simp[Env.get] at h
 | (k,u)::r,e,hs,t,v,h=>by
  simp only[Sub,Env.ks,Env.vs,Env.gets] at hs
  cases a:e.get k with
  | none=>rw[a] at hs; cases hs
  | some u' =>
   cases b:e.gets (Env.ks r) with
   | none=>rw[a,b] at hs; cases hs
   | some us =>
    rw[a,b] at hs;injection hs with hs;injection hs with hs1 hs2;subst hs1 hs2;simp only[Env.get] at h
    cases hb:Nat.beq k t with
    | true =>
     rw[hb] at h;obtain rfl:=Nat.eq_of_beq_eq_true hb;injection h with h;subst h;exact a
    | false =>
     rw[hb] at h;exact Sub.get (e':=r) b t v h
def selR:List Res->List Nat->Option (List Res)
 | _,[]=>some []
 | Rs,i::is=>match Rs[i]? with
  | some A=>match selR (Rs.eraseIdx i) is with
   | some l=>some (A::l)
   | none=>none
  | none=>none
def Sel (Rs:List Res) (is:List Nat) (l:List Res):Prop:=selR Rs is=some l
theorem Sel.sep: ∀ {is:List Nat} {Rs l:List Res} {w:World} {F:Nat->Prop},Sel Rs is l->Sep Rs w F->Sep l w F
 | [],Rs,l,w,F,h,hs=>by
  injection h with h;subst h;exact trivial
 | i::is,Rs,l,w,F,h,hs=>by
  simp only[Sel,selR] at h
  cases a:Rs[i]? with
  | none=>rw[a] at h; cases h
  | some A =>
   cases b:selR (Rs.eraseIdx i) is with
   | none=>rw[a,b] at h; cases h
   | some l' =>
    rw[a,b] at h;injection h with h;subst h;obtain⟨G,c,d,e⟩:=Sep.pick i a hs;exact⟨G,c,d,Sel.sep b e⟩
theorem St.sel {F0:Nat->Prop} {w0 w:World} {Rs l:List Res} (is:List Nat) (h:St F0 w0 Rs w) (hl:Sel Rs is l):St F0 w0 l w:=⟨h.fr,hl.sep h.sep⟩
section
variable (P:Program) (n:Nat) (F0:Nat->Prop) (w0:World)
def Ex (e:Env) (S:World->Prop) (o:Oper) (v:Value):Prop:= ∀ a w,Has n e a->S w->(execOp a.eval o).run P w= .ok (.value v) w
def T (e:Env) (Rs:List Res) (c:Code) (Q:Exit->Act->World->Prop):Prop:= ∀ a w,Has n e a->St F0 w0 Rs w->c.wp P Q a w
def X (e:Env) (Rs:List Res) (x:Exit) (Q:Exit->Act->World->Prop):Prop:= ∀ a w,Has n e a->St F0 w0 Rs w->Q x a w
def TL (ops:Array Oper) (l:List Nat) (e:Env) (Rs:List Res) (Q:Exit->Act->World->Prop):Prop:= ∀ a w,Has n e a->St F0 w0 Rs w->wpOps P ops Q l a w
def Ef (e:Env) (Rs:List Res) (o:Oper) (R:Env->List Res->Prop):Prop :=
 ∀ a w K Q,Has n e a->St F0 w0 Rs w->(∀ e' Rs',R e' Rs'-> ∀ a' w',Has n e' a'->St F0 w0 Rs' w'->K a' w')->o.wp P a w K Q
def Wd (ops:Array Oper) (e:Env) (o:Oper) (b:Bool):Prop:= ∀ a,Has n e a->Region.wanted o (yielded ops a.tmps)=b
end
section
variable {P:Program} {n:Nat} {F0:Nat->Prop} {w0:World} {e e':Env} {Rs Rs':List Res} {Q:Exit->Act->World->Prop} {ops:Array Oper} {o:Oper} {v:Value} {l:List Nat}
theorem Wd.u {d:Option Tmp} {op:Op} {ty:TypeId} {pos:String} {af:Array Edge}:Wd n ops e ⟨d,op,ty,pos,af,none⟩ true:=fun _ _=>rfl
theorem Wd.g {d:Option Tmp} {op:Op} {ty:TypeId} {pos:String} {af:Array Edge} {j t:Nat} {b want:Bool} (hj:(ops[j]?).bind (·.dst)=some t) (hv:e.get t=some (.bool b)) (hb:b=want) :
 Wd n ops e ⟨d,op,ty,pos,af,some (j,want)⟩ true:=by
 intro a h;subst hb;simp only[Region.wanted,yielded,hj,M3,h.at_ t _ hv,beq_self_eq_true]
theorem Wd.gn {d:Option Tmp} {op:Op} {ty:TypeId} {pos:String} {af:Array Edge} {j t:Nat} {b want:Bool} (hj:(ops[j]?).bind (·.dst)=some t) (hv:e.get t=some (.bool b)) (hb:b= !want) :
 Wd n ops e ⟨d,op,ty,pos,af,some (j,want)⟩ false:=by
 intro a h;subst hb;simp only[Region.wanted,yielded,hj,M3,h.at_ t _ hv];cases want <;> rfl
theorem BB {o:Oper} {v:Value} {a:Act} {w:World} {K:Act->World->Prop} {S:World->Prop} (hx:Ex P n e S o v) (ha:Has n e a) (hw:S w) (hk:K (a.put o.dst v) w):o.wp P a w K Q:=by
 unfold Oper.wp;rw[hx a w ha hw];exact hk
theorem TL.nil (h:X n F0 w0 e Rs .normal Q):TL P n F0 w0 ops [] e Rs Q:=fun a w ha hw=>h a w ha hw
theorem TL.q {i d:Nat} {op:Op} {ty:TypeId} {pos:String} {af:Array Edge} {g:Option (Nat×Bool)} (ho:ops[i]? = some ⟨some d,op,ty,pos,af,g⟩) (hw:Wd n ops e ⟨some d,op,ty,pos,af,g⟩ true)
 (hx:Ex P n e (St F0 w0 Rs) ⟨some d,op,ty,pos,af,g⟩ v) (hd:Nat.blt d n=true) (h:TL P n F0 w0 ops l ((d,v)::e) Rs Q):TL P n F0 w0 ops (i::l) e Rs Q:=by
 intro a w ha hs;rw[wpOps_cons,wpOp,ho];simp only[hw a ha,if_true];exact .inl (BB hx ha hs (h _ _ (ha.put hd) hs))
theorem TL.no {i d:Nat} {op:Op} {ty:TypeId} {pos:String} {af:Array Edge} {g:Option (Nat×Bool)} (ho:ops[i]? = some ⟨some d,op,ty,pos,af,g⟩) (hw:Wd n ops e ⟨some d,op,ty,pos,af,g⟩ false)
 (hd:Nat.blt d n=true) (h:TL P n F0 w0 ops l ((d,undef)::e) Rs Q):TL P n F0 w0 ops (i::l) e Rs Q:=by
 intro a w ha hs;rw[wpOps_cons,wpOp,ho];simp only[hw a ha];exact h _ _ (ha.put hd) hs
theorem TL.no0 {i:Nat} {op:Op} {ty:TypeId} {pos:String} {af:Array Edge} {g:Option (Nat×Bool)} (ho:ops[i]? = some ⟨none,op,ty,pos,af,g⟩) (hw:Wd n ops e ⟨none,op,ty,pos,af,g⟩ false)
 (h:TL P n F0 w0 ops l e Rs Q):TL P n F0 w0 ops (i::l) e Rs Q:=by
 intro a w ha hs;rw[wpOps_cons,wpOp,ho];simp only[hw a ha];exact h _ _ ha hs
theorem LF {i:Nat} {R:Env->List Res->Prop} (ho:ops[i]? = some o) (hw:Wd n ops e o true) (hx:Ef P n F0 w0 e Rs o R) (h: ∀ e' Rs',R e' Rs'->TL P n F0 w0 ops l e' Rs' Q):TL P n F0 w0 ops (i::l) e Rs Q:=by
 intro a w ha hs;rw[wpOps_cons,wpOp,ho];simp only[hw a ha,if_true];exact .inl (hx a w _ _ ha hs (fun e' Rs' hr a' w' ha' hs'=>h e' Rs' hr a' w' ha' hs'))
theorem T.region {id:Nat} {os:List Oper} (hl:List.range os.toArray.size=l) (h:TL P n F0 w0 os.toArray l e Rs Q):T P n F0 w0 e Rs (.region id os.toArray false) Q:=fun a w ha hs=>wp_region (hl ▸ h a w ha hs)
theorem T.seq {x y:Code} (h:T P n F0 w0 e Rs x (Exit.then (y.wp P Q) Q)):T P n F0 w0 e Rs (.seq x y) Q:=fun a w ha hs=>wp_seq (h a w ha hs)
theorem T.skip (h:X n F0 w0 e Rs .normal Q):T P n F0 w0 e Rs .skip Q:=fun a w ha hs=>wp_skip (h a w ha hs)
theorem T.ret (h:X n F0 w0 e Rs .ret Q):T P n F0 w0 e Rs .ret Q:=fun a w ha hs=>wp_ret (h a w ha hs)
theorem T.exit {i:Nat} (h:X n F0 w0 e Rs (.exit i) Q):T P n F0 w0 e Rs (.exit i) Q:=fun a w ha hs=>wp_exit (h a w ha hs)
theorem Kr {c:Operand} {x y:Code} {b:Bool} (hc:e.ev c=some (.bool b)) (hb:b=true) (h:T P n F0 w0 e Rs x Q):T P n F0 w0 e Rs (.cond c x y) Q:=fun a w ha hs=>wp_cond_true (by rw[ha.ev hc,hb]) (h a w ha hs)
theorem KN {c:Operand} {x y:Code} {b:Bool} (hc:e.ev c=some (.bool b)) (hb:b=false) (h:T P n F0 w0 e Rs y Q):T P n F0 w0 e Rs (.cond c x y) Q:=fun a w ha hs=>wp_cond_false (by rw[ha.ev hc,hb]) (h a w ha hs)
theorem T.block {id:Nat} {c:Code} (h:T P n F0 w0 e Rs c (Exit.inBlock id Q)):T P n F0 w0 e Rs (.block id c) Q:=fun a w ha hs=>wp_block (h a w ha hs)
theorem T.loop {c:Code} (I:Nat->Env->List Res->Prop) (m:Nat) (d:I m e Rs) (h: ∀ m e Rs,I m e Rs->T P n F0 w0 e Rs c (Exit.then (fun a w=> ∃ m' e' Rs',m'<m/\I m' e' Rs'/\Has n e' a/\St F0 w0 Rs' w) Q)):T P n F0 w0 e Rs (.loop c) Q:=by
 intro a w ha hs b k cs;have key: ∀ m e Rs a w,I m e Rs->Has n e a->St F0 w0 Rs w-> ∃ x a' w',Q x a' w'/\Arrives P (lone (b.at a (.code c :: .inLoop c::k)) cs w) b k cs x a' w':=by
  intro m
  induction m using Nat.strongRecOn with
  | _ m ih =>
   intro e Rs a w hI ha hs;obtain⟨x,a₁,w₁,hq,harr⟩:=h m e Rs hI a w ha hs b (.inLoop c::k) cs
   cases x with
   | normal =>
    obtain⟨m',e',Rs',hlt,hI',ha',hs'⟩:=hq;obtain⟨x₂,a₂,w₂,hq₂,harr₂⟩:=ih m' hlt e' Rs' a₁ w₁ hI' ha' hs';exact⟨x₂,a₂,w₂,hq₂,.of_steps (Steps.trans harr (.one step_inLoop)) harr₂⟩
   | exit id=>exact⟨_,a₁,w₁,hq,.pass (x:= .inLoop c) rfl (fun _ _=> .inl (by simp)) harr⟩
   | goto l=>exact⟨_,a₁,w₁,hq,.pass (x:= .inLoop c) rfl (fun _ _=> .inl (by simp)) harr⟩
   | ret=>exact⟨_,a₁,w₁,hq,.pass (x:= .inLoop c) rfl (fun _ _=> .inl (by simp)) harr⟩
   | panic ch=>exact⟨_,a₁,w₁,hq,.pass (x:= .inLoop c) rfl (fun _ _=> .inl (by simp)) harr⟩
   | outgrown=>exact⟨_,a₁,w₁,hq,.pass (x:= .inLoop c) rfl (fun _ _=> .inl (by simp)) harr⟩
 obtain⟨x,a',w',hq,harr⟩:=key m e Rs a w d ha hs;exact⟨x,a',w',hq,.of_steps (.one step_loop) harr⟩
theorem K4 {c:Code} (I:Nat->Env->List Res->Prop) (m:Nat) {b:Env} {Rs0:List Res} (is:List Nat) (d:I m b Rs0) (he:Sub b e) (hr:Sel Rs is Rs0) (h: ∀ m e Rs,I m e Rs->T P n F0 w0 e Rs c (Exit.then (fun a w=> ∃ m' e' Rs',m'<m/\I m' e' Rs'/\Has n e' a/\St F0 w0 Rs' w) Q)):T P n F0 w0 e Rs (.loop c) Q :=
 fun a w ha hs=>T.loop I m d h a w (ha.sub he.get) (hs.sel is hr)
end
def NoP (Q:Exit->Act->World->Prop):Prop:= ∀ c a w,¬ Q (.panic c) a w
def GH (ops:Array Oper) (i:Nat):List Nat->List Nat->List Nat
 | [],D=>D
 | j::js,D=>GH ops i js (match ops[j]? with
  | some o=>if o.after.any (fun e=>Region.binds .any e && (Nat.beq e.on i || D.contains e.on)) then j::D else D
  | none=>D)
def Ej (ops:Array Oper) (i:Nat):List Nat:=GH ops i (List.range ops.size) []
def GI (ops:Array Oper) (listed:Array Bool) (i:Nat):Bool :=
 match ops[i]? with
 | none=>false
 | some oi=>(Ej ops i).all (fun j=> !listed.getD j true && match ops[j]? with | some o=>o.after.any (fun e=>Region.binds .any e && (Nat.beq e.on i || (Ej ops i).contains e.on)) | none=>false) &&
  (List.range ops.size).all fun j=>j == i || listed.getD j true || (Ej ops i).contains j || match ops[j]? with
   | some oj=>oi.apart ops oj
   | none=>true
inductive Sch where
 | nil
 | q (i:Nat) (s:Sch)
 | e (i:Nat) (s:Sch)
 | br (i:Nat) (s m:Sch)
def Sch.heads:Sch->List Nat
 | .e i _ => [i]
 | .br i _ m=>i::m.heads
 | _ => []
def gI (ops:Array Oper):Bool->Nat->Sch->Array Bool->Bool
 | alt,k,.nil,listed=> !alt && (k == 0) && (Region.ready .any ops listed).isEmpty
 | alt,0,_,_=>false
 | alt,k+1,.q i s,listed=> !alt && (Region.ready .any ops listed).contains i && GI ops listed i && gI ops false k s (listed.setIfInBounds i true)
 | alt,k+1,.e i s,listed=>(alt || Region.ready .any ops listed == [i]) && gI ops false k s (listed.setIfInBounds i true)
 | alt,k+1,.br i s m,listed=>(alt || Region.ready .any ops listed == i::m.heads) && gI ops false k s (listed.setIfInBounds i true) && gI ops true (k+1) m listed
def drawB (ops:Array Oper) (ord:Sch):Bool:=Region.noSelect ops && gI ops false ops.size ord (Array.replicate ops.size false)
section
variable {P:Program} {ops:Array Oper} {Q:Exit->Act->World->Prop} {S:World->Prop}
theorem yw {i:Nat} {oi:Oper} {v:Value} (D:Nat->Prop) (hi:ops[i]? = some oi) (hsel: ∀ (j:Nat) (o:Oper) cs b,ops[j]? = some o->o.op≠ .select cs b)
 (hQ: ∀ c a w,Q (.panic c) (a.put oi.dst v) w->Q (.panic c) a w) (hD: ∀ j oj,ops[j]? = some oj->D j-> ∃ e∈oj.after,Region.binds .any e=true/\(e.on=i\/D e.on)) :
 ∀ (fuel:Nat) (listed:Array Bool) (a:Act) (w:World),(∀ j,D j->listed.getD j true=false) ->
  (∀ j oj,ops[j]? = some oj->j≠i->listed.getD j true=false-> ¬ D j->oi.apart ops oj=true) ->
  i∈Region.ready .any ops listed->YieldsIf P ops S oi v a->S w ->
  wpAnyH P .any ops Q S fuel (listed.setIfInBounds i true) (a.put oi.dst v) w->wpAnyH P .any ops Q S (fuel+1) listed a w:=by
 intro fuel
 induction fuel with
 | zero =>
  intro listed a w _ _ hr hy hS H;refine⟨fun h=>(by rw[h] at hr; cases hr),fun j hj=> ?_⟩;by_cases hji:j=i
  ·subst hji; exact hy.wpOp hi hS ⟨hS,H⟩
  ·have:=ready_mono hj hji;rw[H.1] at this;cases this
 | succ fuel ih =>
  intro listed a w hun hfree hr hy hS H;refine⟨fun h=>(by rw[h] at hr; cases hr),fun j hj=> ?_⟩;by_cases hji:j=i
  ·subst hji; exact hy.wpOp hi hS ⟨hS,H⟩
  ·have l:=H.2 j (ready_mono hj hji);obtain⟨hjun,oj,hoj,hall⟩:=mem_ready.1 hj;have hiun:=(mem_ready.1 hr).1;have hnot: ¬ D j:=fun hd=>by
    obtain⟨e,he,hb,f⟩:=hD j oj hoj hd;have d:=hall e he hb;rcases f with f | f
    ·rw[f] at d;rcases Nat.lt_or_ge i listed.size with h' | h'
     ·simp[h'] at hiun d; rw[hiun] at d; cases d
     ·simp[Array.getElem?_eq_none h'] at d
    ·have g:=hun _ f;rcases Nat.lt_or_ge e.on listed.size with h' | h'
     ·simp[h'] at g d; rw[g] at d; cases d
     ·simp[Array.getElem?_eq_none h'] at g
   have f:=wpOp_putIf hoj (hfree j oj hoj hji hjun hnot) (fun cs b=>hsel i oi cs b hi) (fun cs b=>hsel j oj cs b hoj) hQ hy l;have hun': ∀ k,D k->(listed.setIfInBounds j true).getD k true=false:=fun k hk=>by
    have hjk:j≠k:=fun e=>hnot (e ▸ hk);rw[getD_set_ne true hjk];exact hun k hk
   have hfree': ∀ k ok,ops[k]? = some ok->k≠i->(listed.setIfInBounds j true).getD k true=false-> ¬ D k->oi.apart ops ok=true:=fun k ok hk hki hu hno=>by
    refine hfree k ok hk hki ?_ hno;by_cases hjk:j=k
    ·subst hjk; exact hjun
    ·rw[getD_set_ne true hjk] at hu; exact hu
   refine wpOp_mono (fun a' w' d=>⟨d.2.1,ih (listed.setIfInBounds j true) a' w' hun' hfree' (ready_mono hr (Ne.symm hji)) d.1 d.2.1 ?_⟩) f;rw[Array.setIfInBounds_comm _ _ hji];exact d.2.2
theorem Ab {i:Nat} {oi:Oper} {v:Value} {fuel:Nat} {listed:Array Bool} {a:Act} {w:World} (hi:ops[i]? = some oi)
 (hs:Region.noSelect ops=true) (hf:GI ops listed i=true) (hr:(Region.ready .any ops listed).contains i=true)
 (hQ: ∀ c a w,Q (.panic c) (a.put oi.dst v) w->Q (.panic c) a w) (hy:YieldsIf P ops S oi v a) (hS:S w)
 (h:wpAnyH P .any ops Q S fuel (listed.setIfInBounds i true) (a.put oi.dst v) w):wpAnyH P .any ops Q S (fuel+1) listed a w:=by
 simp only[GI,hi,Bool.and_eq_true,List.all_eq_true] at hf;obtain⟨e,f⟩:=hf;refine yw (fun j=>j∈Ej ops i) hi (Region.noSelect_spec hs) hQ ?_ fuel listed a w ?_ ?_ (by simpa using hr) hy hS h
 ·intro j oj hj hd;have b:=(e j hd).2;simp only[hj,Array.any_eq_true] at b;obtain⟨k,hk,d⟩:=b;simp only[Bool.and_eq_true,Bool.or_eq_true,List.contains_iff_mem] at d;exact⟨_,Array.getElem_mem hk,d.1,d.2.imp Nat.eq_of_beq_eq_true id⟩
 ·intro j hd;simpa using (e j hd).1
 ·intro j oj hj hne hun hno;have hlt:j<ops.size:=(Array.getElem?_eq_some_iff.1 hj).1;have b:=f j (by simpa using hlt);simp only[hj,Bool.or_eq_true,beq_iff_eq,List.contains_iff_mem] at b;rcases b with ((b | b) | b) | b
  ·exact (hne b).elim
  ·rw[hun] at b; cases b
  ·exact (hno b).elim
  ·exact b
end
def wpO (P:Program) (ops:Array Oper) (Q:Exit->Act->World->Prop):Sch->(World->Prop)->Act->World->Prop
 | .nil,_,a,w=>Q .normal a w
 | .q i r,S,a,w=> ∃ o v,ops[i]? = some o/\YieldsIf P ops S o v a/\wpO P ops Q r S (a.put o.dst v) w
 | .e i r,S,a,w=>wpOp P ops Q i (fun a' w'=> ∃ S':World->Prop,S' w'/\(∀ w,S' w->S w)/\wpO P ops Q r S' a' w') a w
 | .br i r m,S,a,w=>wpOp P ops Q i (fun a' w'=> ∃ S':World->Prop,S' w'/\(∀ w,S' w->S w)/\wpO P ops Q r S' a' w') a w/\wpO P ops Q m S a w
section
variable {P:Program} {ops:Array Oper} {Q:Exit->Act->World->Prop}
theorem qq {S S':World->Prop} (hS: ∀ w,S' w->S w): ∀ (fuel:Nat) (listed:Array Bool) (a:Act) (w:World),wpAnyH P .any ops Q S' fuel listed a w->wpAnyH P .any ops Q S fuel listed a w
 | 0,_,_,_,h=>h
 | fuel+1,listed,a,w,h=>⟨h.1,fun i hi=>wpOp_mono (fun a' w' h'=>⟨hS _ h'.1,qq hS fuel _ a' w' h'.2⟩) (h.2 i hi)⟩
theorem ol (hs:Region.noSelect ops=true) (hQ:NoP Q): ∀ (ord:Sch) (k:Nat) (S:World->Prop) (listed:Array Bool) (a:Act) (w:World),S w->wpO P ops Q ord S a w ->
 (gI ops false k ord listed=true->wpAnyH P .any ops Q S k listed a w) /\
 (∀ k',k=k'+1->gI ops true k ord listed=true-> ∀ j∈ord.heads,wpOp P ops Q j (fun a' w'=>S w'/\wpAnyH P .any ops Q S k' (listed.setIfInBounds j true) a' w') a w)
 | .nil,k,S,listed,a,w,hS,h=>by
  refine⟨fun hk=> ?_,fun k' _ hk=>by cases k <;> simp[gI] at hk⟩;have hk':k=0/\Region.ready .any ops listed = []:=by cases k <;> simp[gI] at hk <;> exact⟨rfl,hk⟩
  rw[hk'.1];exact⟨hk'.2,h⟩
 | .q i r,0,S,listed,a,w,hS,h=>⟨fun hk=>by simp[gI] at hk,fun k' e=>by omega⟩
 | .q i r,k+1,S,listed,a,w,hS,h=>by
  refine⟨fun hk=> ?_,fun k' _ hk=>by simp[gI] at hk⟩;obtain⟨o,v,ho,hy,h⟩:=h;simp only[gI,Bool.and_eq_true] at hk;obtain⟨⟨⟨_,l⟩,n⟩,b⟩:=hk;exact Ab ho hs n l (fun c a' w' h'=>(hQ _ _ _ h').elim) hy hS ((ol hs hQ r k S _ _ _ hS h).1 b)
 | .e i r,0,S,listed,a,w,hS,h=>⟨fun hk=>by simp[gI] at hk,fun k' e=>by omega⟩
 | .e i r,k+1,S,listed,a,w,hS,h=>by
  have key:gI ops false k r (listed.setIfInBounds i true)=true->wpOp P ops Q i (fun a' w'=>S w'/\wpAnyH P .any ops Q S k (listed.setIfInBounds i true) a' w') a w:=by
   intro b;refine wpOp_mono ?_ h;rintro a' w' ⟨S',d,f,g⟩;exact⟨f _ d,qq f _ _ _ _ ((ol hs hQ r k S' _ _ _ d g).1 b)⟩
  refine⟨fun hk=> ?_,fun k' e hk j hj=> ?_⟩
  ·simp only[gI,Bool.false_or,Bool.and_eq_true,beq_iff_eq] at hk;refine wpAnyH_all hk.1 (by simp) (fun j hj=> ?_);obtain rfl:j=i:=by simpa using hj
   exact key hk.2
  ·obtain rfl:k'=k:=by omega
   simp only[gI,Bool.true_or,Bool.true_and] at hk;obtain rfl:j=i:=by simpa [Sch.heads] using hj
   exact key hk
 | .br i r m,0,S,listed,a,w,hS,h=>⟨fun hk=>by simp[gI] at hk,fun k' e=>by omega⟩
 | .br i r m,k+1,S,listed,a,w,hS,h=>by
  have key:gI ops false k r (listed.setIfInBounds i true)=true->wpOp P ops Q i (fun a' w'=>S w'/\wpAnyH P .any ops Q S k (listed.setIfInBounds i true) a' w') a w:=by
   intro b;refine wpOp_mono ?_ h.1;rintro a' w' ⟨S',d,f,g⟩;exact⟨f _ d,qq f _ _ _ _ ((ol hs hQ r k S' _ _ _ d g).1 b)⟩
  have more:=(ol hs hQ m (k+1) S listed a w hS h.2).2;refine⟨fun hk=> ?_,fun k' e hk j hj=> ?_⟩
  ·simp only[gI,Bool.false_or,Bool.and_eq_true,beq_iff_eq] at hk;refine wpAnyH_all hk.1.1 (by simp) (fun j hj=> ?_);rcases List.mem_cons.1 hj with rfl | hj
   ·exact key hk.1.2
   ·exact more k rfl hk.2 j hj
  ·obtain rfl:k'=k:=by omega
   simp only[gI,Bool.true_or,Bool.true_and,Bool.and_eq_true] at hk;rcases List.mem_cons.1 (by simpa [Sch.heads] using hj:j∈i::m.heads) with rfl | hj
   ·exact key hk.1
   ·exact more k' rfl hk.2 j hj
end
def TD (P:Program) (n:Nat) (F0:Nat->Prop) (w0:World) (ops:Array Oper) (l:Sch) (Rf:List Res) (e:Env) (Rs:List Res) (Q:Exit->Act->World->Prop):Prop :=
 ∀ a w,Has n e a->St F0 w0 Rs w->wpO P ops Q l (St F0 w0 Rf) a w
section
variable {P:Program} {n:Nat} {F0:Nat->Prop} {w0:World} {e e':Env} {Rs Rs' Rf Rf':List Res} {Q:Exit->Act->World->Prop} {ops:Array Oper} {o:Oper} {v:Value} {l:Sch}
theorem KQ {id:Nat} {os:List Oper} (ord:Sch) (is:List Nat) (hf:Sel Rs is Rf) (hm:P.follows .mixedOrders=true) (hQ:NoP Q) (hk:drawB os.toArray ord=true) (h:TD P n F0 w0 os.toArray ord Rf e Rs Q) :
 T P n F0 w0 e Rs (.region id os.toArray true) Q:=by
 intro a w ha hs;simp only[drawB,Bool.and_eq_true] at hk;obtain⟨b,c⟩:=hk;refine wp_region_held (S:=St F0 w0 Rf) hm ?_;have hs':=hs.drew;exact (ol b hQ ord _ (St F0 w0 Rf) _ a _ (hs'.sel is hf) (h a _ ha hs')).1 c
theorem TD.br {i:Nat} {r m:Sch} (h:TD P n F0 w0 ops (.e i r) Rf e Rs Q) (k:TD P n F0 w0 ops m Rf e Rs Q):TD P n F0 w0 ops (.br i r m) Rf e Rs Q:=fun a w ha hs=>⟨h a w ha hs,k a w ha hs⟩
theorem TD.nil (h:X n F0 w0 e Rs .normal Q):TD P n F0 w0 ops .nil Rf e Rs Q:=fun a w ha hw=>h a w ha hw
theorem TD.q {i d:Nat} {op:Op} {ty:TypeId} {pos:String} {af:Array Edge} {g:Option (Nat×Bool)} (ho:ops[i]? = some ⟨some d,op,ty,pos,af,g⟩) (hw:Wd n ops e ⟨some d,op,ty,pos,af,g⟩ true)
 (hx:Ex P n e (St F0 w0 Rf) ⟨some d,op,ty,pos,af,g⟩ v) (hd:Nat.blt d n=true) (h:TD P n F0 w0 ops l Rf ((d,v)::e) Rs Q):TD P n F0 w0 ops (.q i l) Rf e Rs Q :=
 fun a w ha hs=>⟨_,v,ho,.inl ⟨hw a ha,fun w' hw'=>hx a w' ha hw'⟩,h _ _ (ha.put hd) hs⟩
theorem KW {i d:Nat} {op:Op} {ty:TypeId} {pos:String} {af:Array Edge} {g:Option (Nat×Bool)} (ho:ops[i]? = some ⟨some d,op,ty,pos,af,g⟩) (hw:Wd n ops e ⟨some d,op,ty,pos,af,g⟩ false)
 (hd:Nat.blt d n=true) (h:TD P n F0 w0 ops l Rf ((d,undef)::e) Rs Q):TD P n F0 w0 ops (.q i l) Rf e Rs Q :=
 fun a w ha hs=>⟨_,undef,ho,.inr ⟨hw a ha,rfl⟩,h _ _ (ha.put hd) hs⟩
theorem LS {i:Nat} {R:Env->List Res->Prop} (ho:ops[i]? = some o) (hw:Wd n ops e o true) (hx:Ef P n F0 w0 e Rs o R)
 (h: ∀ e' Rs',R e' Rs'-> ∃ Rf',(∀ w,St F0 w0 Rs' w->St F0 w0 Rf' w)/\(∀ w,St F0 w0 Rf' w->St F0 w0 Rf w)/\TD P n F0 w0 ops l Rf' e' Rs' Q):TD P n F0 w0 ops (.e i l) Rf e Rs Q:=by
 intro a w ha hs;simp only[wpO,wpOp,ho];rw[QM (hw a ha)];refine .inl (hx a w _ _ ha hs (fun e' Rs' hr a' w' ha' hs'=> ?_));obtain⟨Rf',b,c,d⟩:=h e' Rs' hr;exact⟨St F0 w0 Rf',b _ hs',c,d a' w' ha' hs'⟩
theorem Lo {i d:Nat} {op:Op} {ty:TypeId} {pos:String} {af:Array Edge} {g:Option (Nat×Bool)} (ho:ops[i]? = some ⟨some d,op,ty,pos,af,g⟩) (hw:Wd n ops e ⟨some d,op,ty,pos,af,g⟩ false)
 (hd:Nat.blt d n=true) (is:List Nat) (hf:Sel Rs is Rf) (h:TD P n F0 w0 ops l Rf ((d,undef)::e) Rs Q):TD P n F0 w0 ops (.e i l) Rf e Rs Q:=by
 intro a w ha hs;simp only[wpO,wpOp,ho,hw a ha];exact⟨St F0 w0 Rf,hs.sel is hf,fun _ h=>h,h _ _ (ha.put hd) hs⟩
theorem LD {i d:Nat} {op:Op} {ty:TypeId} {pos:String} {af:Array Edge} {g:Option (Nat×Bool)} (ho:ops[i]? = some ⟨some d,op,ty,pos,af,g⟩) (hw:Wd n ops e ⟨some d,op,ty,pos,af,g⟩ true)
 (hx:Ex P n e (St F0 w0 Rs) ⟨some d,op,ty,pos,af,g⟩ v) (hd:Nat.blt d n=true) (is:List Nat) (hf:Sel Rs is Rf) (h:TD P n F0 w0 ops l Rf ((d,v)::e) Rs Q):TD P n F0 w0 ops (.e i l) Rf e Rs Q:=by
 intro a w ha hs;simp only[wpO,wpOp,ho];rw[QM (hw a ha)];exact .inl (BB hx ha hs ⟨St F0 w0 Rf,hs.sel is hf,fun _ h=>h,h _ _ (ha.put hd) hs⟩)
variable {id j:Nat} {y c:Code} {K:Act->World->Prop}
theorem X.seq (h:T P n F0 w0 e Rs y Q):X n F0 w0 e Rs .normal (Exit.then (y.wp P Q) Q):=h
theorem KD (h:X n F0 w0 e Rs .normal Q):X n F0 w0 e Rs .normal (Exit.inBlock id Q):=h
theorem K1 (h:X n F0 w0 e Rs .normal Q):X n F0 w0 e Rs (.exit id) (Exit.inBlock id Q):=fun a w ha hs=>by
 show (if id=id then Q .normal a w else _);rw[QM rfl];exact h a w ha hs
theorem Ke (h:X n F0 w0 e Rs .ret Q):X n F0 w0 e Rs .ret (Exit.then K Q):=h
theorem Ko (h:X n F0 w0 e Rs .ret Q):X n F0 w0 e Rs .ret (Exit.inBlock id Q):=h
theorem Kx (h:X n F0 w0 e Rs (.exit j) Q):X n F0 w0 e Rs (.exit j) (Exit.then K Q):=h
theorem X.back {I:Nat->Env->List Res->Prop} {m m':Nat} (is:List Nat) (hm:m'<m) (hI:I m' e' Rs') (he:Sub e' e) (hr:Sel Rs is Rs') :
 X n F0 w0 e Rs .normal (Exit.then (fun a w=> ∃ m' e' Rs',m'<m/\I m' e' Rs'/\Has n e' a/\St F0 w0 Rs' w) Q) :=
 fun a w ha hs=>⟨m',e',Rs',hm,hI,ha.sub he.get,hs.sel is hr⟩
def JQ (n:Nat) (F0:Nat->Prop) (w0:World) (R:Env->List Res->Prop):Exit->Act->World->Prop
 | .normal,a,w=> ∃ e Rs,R e Rs/\Has n e a/\St F0 w0 Rs w
 | _,_,_=>False
theorem om {R:Env->List Res->Prop}:NoP (JQ n F0 w0 R):=fun _ _ _ h=>h
theorem LJ (R:Env->List Res->Prop) (h:T P n F0 w0 e Rs c (JQ n F0 w0 R)) (k: ∀ e' Rs',R e' Rs'->X n F0 w0 e' Rs' .normal Q):T P n F0 w0 e Rs c Q:=by
 intro a w ha hs;refine wp_mono (h a w ha hs) ?_;intro x a' w' hx;cases x <;> first | exact hx.elim | skip;obtain⟨e',Rs',hR,ha',hs'⟩:=hx;exact k e' Rs' hR a' w' ha' hs'
theorem Lr {R:Env->List Res->Prop} (is:List Nat) (hR:R e' Rs') (he:Sub e' e) (hr:Sel Rs is Rs'):X n F0 w0 e Rs .normal (JQ n F0 w0 R):=fun a w ha hs=>⟨e',Rs',hR,ha.sub he.get,hs.sel is hr⟩
theorem Le {α:Type} (T':TypeId) (size:Nat) (E:Rd α) (h:T P n F0 w0 e (bC T' size E A5 []::Rs) c Q):T P n F0 w0 e Rs c Q:=fun a w ha hs=>h a w ha (bC.nil T' size E hs)
theorem Lm {f:Func} {R:Value->Res->List Res->Prop} {A':Res} {Ns:List Res} (is:List Nat) (hf:f.results= #[]) (hR:R (.tuple #[]) A' Ns) (hr:Sel Rs is (A'::Ns)) {x:Exit} (hx:x= .ret\/x= .normal) :
 X n F0 w0 e Rs x (bodyPost P f (rY R F0 w0)):=by
 intro a w ha hs;have h:bodyPost P f (rY R F0 w0) .ret a w:=⟨ha.df,.tuple #[],by
  rw[o6,hf];simp,_,A',Ns,rfl,hR,hs.sel is hr⟩
 rcases hx with rfl | rfl <;> exact h
end
theorem NoP.seq {Q:Exit->Act->World->Prop} {K:Act->World->Prop} (h:NoP Q):NoP (Exit.then K Q):=h
theorem NoP.blk {Q:Exit->Act->World->Prop} {i:Nat} (h:NoP Q):NoP (Exit.inBlock i Q):=h
theorem bi {P:Program} {f:Func} {F0:Nat->Prop} {w0:World} {R:Value->Res->List Res->Prop}:NoP (bodyPost P f (rY R F0 w0)):=by
 rintro c a w ⟨_,v,A',Ns,h,_⟩;cases h
theorem enterX {P:Program} {f n:Nat} {fn:Func} {c:Code} {args:Array Value} {Xr:RX} {A:Res} {R:Value->Res->List Res->Prop} {e:Env} (hf:P.funcs[f]? = some fn) (hb:fn.body=some c) (hn:fn.ntmps=n)
 (hl:Nat.ble args.size n=true) (he: ∀ t v,e.get t=some v->args[t]? = some v) (h: ∀ F w,Xr.reads w F->T P n F w e [A] c (bodyPost P fn (rY R F w))):aB P f args Xr A R:=by
 intro F w hA hX;refine calls_of_wp hf hb ?_;have hl':args.size<=n:=Nat.le_of_ble_eq_true hl;refine h F w hX _ w ⟨rfl,?_,fun t v hv=> ?_⟩ (aB.start hA)
 ·simp only[Array.size_append,Array.size_replicate,hn];omega
 ·have a:=he t v hv;have b:=(Array.getElem?_eq_some_iff.1 a).1;rw[Array.getElem?_append_left b];exact a
def yV:Nat->List Value->Env
 | _,[] => []
 | k,v::vs=>(k,v)::yV (k+1) vs
theorem tR: ∀ (vs:List Value) (k t:Nat) (v:Value),Env.get (yV k vs) t=some v->k<=t/\vs[t - k]? = some v
 | [],_,_,_,h=>by simp[yV,Env.get] at h
 | u::vs,k,t,v,h=>by
  simp only[yV,Env.get] at h
  cases hb:Nat.beq k t with
  | true =>
   rw[hb] at h;obtain rfl:=Nat.eq_of_beq_eq_true hb;exact⟨NA _,by simpa using h⟩
  | false =>
   rw[hb] at h;obtain⟨b,a⟩:=tR vs (k+1) t v h;refine⟨by omega,?_⟩;obtain⟨m,rfl⟩: ∃ m,t=k+1+m:=⟨t - (k+1),by omega⟩;rw[show k+1+m - k=m+1 by omega];rw[show k+1+m - (k+1)=m by omega] at a;simpa using a
theorem aS {P:Program} {f n:Nat} {fn:Func} {c:Code} {args:List Value} {Xr:RX} {A:Res} {R:Value->Res->List Res->Prop} (hf:P.funcs[f]? = some fn) (hb:fn.body=some c) (hn:fn.ntmps=n)
 (hl:Nat.ble args.length n=true) (h: ∀ F w,Xr.reads w F->T P n F w (yV 0 args) [A] c (bodyPost P fn (rY R F w))):aB P f args.toArray Xr A R :=
 enterX hf hb hn (by simpa using hl) (fun t v hv=>by simpa using (tR args 0 t v hv).2) h
set_option linter.unusedSimpArgs false
def ksame:IntKind->IntKind->Bool
 | .i8,.i8 | .i16,.i16 | .i32,.i32 | .i64,.i64 | .u8,.u8 | .u16,.u16 | .u32,.u32 | .u64,.u64=>true
 | _,_=>false
theorem GJ {k k':IntKind} (h:ksame k k'=true):k=k':=by cases k <;> cases k' <;> first | rfl | cases h
def cmpV:BinOp->Int->Int->Option Bool
 | .eql,a,b=>some (decide (a=b))
 | .neq,a,b=>some (!decide (a=b))
 | .lss,a,b=>some (decide (a<b))
 | .leq,a,b=>some (decide (a<=b))
 | .gtr,a,b=>some (decide (a>b))
 | .geq,a,b=>some (decide (a>=b))
 | _,_,_=>none
def eY:=List (Nat×Nat×Nat)
def eY.get:eY->Nat->Nat->Option Nat
 | [],_,_=>none
 | (s,f,o)::r,s',f'=>match Nat.beq s s' with
  | true=>match Nat.beq f f' with
   | true=>some o
   | false=>eY.get r s' f'
  | false=>eY.get r s' f'
def FOK (P:Program) (s f o:Nat):Prop:= ∀ (a:Addr) (w:World),(Instr.fieldAt s (.pointer (some a)) f).run P w= .ok (.pointer (some (a.add o))) w
def eY.OK (P:Program):eY->Prop
 | []=>True
 | (s,f,o)::r=>FOK P s f o/\eY.OK P r
theorem eY.OK.get {P:Program}: ∀ {t:eY},t.OK P-> ∀ {s f o},t.get s f=some o->FOK P s f o
 | [],_,s,f,o,h=>by simp[eY.get] at h
 | (b,c,e)::r,⟨d,a⟩,s,f,o,h=>by
  simp only[eY.get] at h
  cases hb:Nat.beq b s with
  | true =>
   rw[hb] at h
   cases hc:Nat.beq c f with
   | true =>
    rw[hc] at h;obtain rfl:=Nat.eq_of_beq_eq_true hb;obtain rfl:=Nat.eq_of_beq_eq_true hc;injection h with h;subst h;exact d
   | false=>rw[hc] at h; exact eY.OK.get a h
  | false=>rw[hb] at h; exact eY.OK.get a h
theorem FOK.mk {P:Program} {s f:Nat} {fs:Array Field} {fl:Field} {k:Nat} (hu: ∀ w,(underlying s).run P w= .ok (.struct fs) w) (hf:fs[f]? = some fl) (hz: ∀ w,(sizeOf fl.type).run P w= .ok (k+1) w) {o:Nat} (ho:fl.offset=o):FOK P s f o:=by
 intro a w;subst ho;simp[Instr.fieldAt,hu,hf,Instr.sureAddr,fieldPlace,hz]
def BC (ft:eY) (e:Env):Op->Option Value
 | .move x=>e.ev x
 | .assign x=>e.ev x
 | .extract x i=>match e.ev x with
  | some (.tuple vs)=>vs[i]?
  | _=>none
 | .unOp .not _ x=>match e.ev x with
  | some (.bool b)=>some (.bool (!b))
  | _=>none
 | .nilCheck x=>match e.ev x with
  | some (.pointer (some a))=>some (.pointer (some a))
  | _=>none
 | .fieldAddr s x f=>match e.ev x with
  | some (.pointer (some ⟨g,o,none⟩))=>match ft.get s f with
   | some k=>some (.pointer (some ⟨g,o+k,none⟩))
   | none=>none
  | _=>none
 | .binOp op _ x y _=>match e.ev x with
  | some (.int k a)=>match e.ev y with
   | some (.int k' b)=>match ksame k k' with
    | true=>match cmpV op a b with
     | some r=>some (.bool r)
     | none=>none
    | false=>none
   | _=>none
  | _=>none
 | _=>none
theorem BD {P:Program} {w:World} {op:BinOp} {a b:Int} {r:Bool} (h:cmpV op a b=some r):(Op.intCmp op a b).run P w= .ok (.bool r) w:=by
 cases op <;> cases h <;> rfl
theorem Je {P:Program} {w:World} {op:BinOp} {k:IntKind} {a b:Int} {r:Bool} {t:TypeId} {x y:Operand} (h:cmpV op a b=some r) :
 (do eqGuard op t x y (.int k a) (.int k b); binOp op t (.int k a) (.int k b):Sem Value).run P w= .ok (.bool r) w:=by
 have c:=BD (P:=P) (w:=w) h;cases op <;> cases h <;> simpa [eqGuard,binOp] using c
theorem oq {P:Program} {n:Nat} {ft:eY} {e:Env} {S:World->Prop} {d:Option Tmp} {op:Op} {ty:TypeId} {pos:String} {af:Array Edge} {g:Option (Nat×Bool)} {v:Value} (hft:ft.OK P) (h:BC ft e op=some v):Ex P n e S ⟨d,op,ty,pos,af,g⟩ v:=by
 intro a w ha _;unfold BC at h;split at h
 ·simp[execOp,ha.ev h]
 ·simp[execOp,ha.ev h]
 ·split at h
  ·rename_i vs hx;simp[execOp,ha.ev hx,Instr.extract,h]
  ·cases h
 ·split at h
  ·rename_i b hx;injection h with h;subst h;simp[execOp,ha.ev hx,Op.unary]
  ·cases h
 ·split at h
  ·rename_i p hx;injection h with h;subst h;simp[execOp,ha.ev hx]
  ·cases h
 ·split at h
  ·rename_i g' o' hx;split at h
   ·rename_i k hk;injection h with h;subst h;have f:=hft.get hk ⟨g',o',none⟩ w;have c:(⟨g',o',none⟩:Addr).add k=⟨g',o'+k,none⟩:=by unfold Addr.add; split <;> simp_all
    simp[execOp,ha.ev hx,f,c]
   ·cases h
  ·cases h
 ·split at h
  ·rename_i k x hx;split at h
   ·rename_i k' y hy;split at h
    ·rename_i hk;split at h
     ·rename_i r hr;injection h with h;subst h;obtain rfl:=GJ hk;have f:=BD (P:=P) (w:=w) hr;simp only[execOp,ha.ev hx,ha.ev hy,Sem.run_bind];have c:=fun t x y=>Je (P:=P) (w:=w) (k:=k) (t:=t) (x:=x) (y:=y) hr;simp only[Sem.run_bind] at c;rw[c];rfl
     ·cases h
    ·cases h
   ·cases h
  ·cases h
 ·cases h
def yx (ft:eY) (n:Nat) (ops:Array Oper):Env->List Nat->Option Env
 | e,[]=>some e
 | e,i::is=>match ops[i]? with
  | some ⟨some d,op,_,_,_,none⟩=>match Nat.blt d n with
   | true=>match BC ft e op with
    | some v=>yx ft n ops ((d,v)::e) is
    | none=>none
   | false=>none
  | _=>none
section
variable {P:Program} {n:Nat} {F0:Nat->Prop} {w0:World} {e e':Env} {Rs Rf:List Res} {Q:Exit->Act->World->Prop} {ops:Array Oper} {ft:eY}
theorem TL.run_ (hft:ft.OK P): ∀ (is:List Nat) {e e':Env} {l:List Nat},yx ft n ops e is=some e'->TL P n F0 w0 ops l e' Rs Q->TL P n F0 w0 ops (is++l) e Rs Q
 | [],e,e',l,h,k=>by
  injection h with h;subst h;exact k
 | i::is,e,e',l,h,k=>by
  unfold yx at h;split at h
  ·rename_i ho;split at h
   ·rename_i hd;split at h
    ·rename_i v hv;exact TL.q ho .u (oq hft hv) hd (TL.run_ hft is h k)
    ·cases h
   ·cases h
  ·cases h
def Sch.qs:List Nat->Sch->Sch
 | [],s=>s
 | i::is,s=> .q i (Sch.qs is s)
theorem TD.run_ (hft:ft.OK P): ∀ (is:List Nat) {e e':Env} {l:Sch},yx ft n ops e is=some e'->TD P n F0 w0 ops l Rf e' Rs Q->TD P n F0 w0 ops (Sch.qs is l) Rf e Rs Q
 | [],e,e',l,h,k=>by
  injection h with h;subst h;exact k
 | i::is,e,e',l,h,k=>by
  unfold yx at h;split at h
  ·rename_i ho;split at h
   ·rename_i hd;split at h
    ·rename_i v hv;exact TD.q ho .u (oq hft hv) hd (TD.run_ hft is h k)
    ·cases h
   ·cases h
  ·cases h
theorem TL.run (hft:ft.OK P) (is:List Nat) {l l':List Nat} (hl:l=is++l') (h:yx ft n ops e is=some e') (k:TL P n F0 w0 ops l' e' Rs Q):TL P n F0 w0 ops l e Rs Q:=hl ▸ TL.run_ hft is h k
theorem TD.run (hft:ft.OK P) (is:List Nat) {l l':Sch} (hl:l=Sch.qs is l') (h:yx ft n ops e is=some e') (k:TD P n F0 w0 ops l' Rf e' Rs Q):TD P n F0 w0 ops l Rf e Rs Q:=hl ▸ TD.run_ hft is h k
end
section
variable {P:Program} {n:Nat} {F0:Nat->Prop} {w0:World} {e:Env} {Rs:List Res} {S:World->Prop} {d:Option Tmp} {ty:TypeId} {pos:String} {af:Array Edge} {gd:Option (Nat×Bool)} {v:Value} {x y ix:Operand} {t t' el:TypeId}
theorem KV {ft:eY} {op:Op} (hft:ft.OK P) (h:BC ft e op=some v):Ex P n e S ⟨d,op,ty,pos,af,gd⟩ v:=oq hft h
theorem KC {A:AT} {m c:Nat} (hx:e.ev x=some (.slice A m c)) (hu: ∀ w,(underlying t).run P w= .ok (.slice el) w):Ex P n e S ⟨d,.call ⟨.builtin .len,#[x],#[t]⟩,ty,pos,af,gd⟩ (.int .i64 (m:Int)):=by
 intro a w ha _;simp[execOp,resolve,invoke,builtin,ha.ev hx,Builtin.len_,hu,goInt]
theorem KT {l:AI} (hx:e.ev x=some (.string (aW l))) (hu: ∀ w,(underlying t).run P w= .ok .string w):Ex P n e S ⟨d,.call ⟨.builtin .len,#[x],#[t]⟩,ty,pos,af,gd⟩ (.int .i64 (l.length:Int)):=by
 intro a w ha _;simp[execOp,resolve,invoke,builtin,ha.ev hx,Builtin.len_,hu,goInt,bsOf_size]
theorem Ex.add {p q:Int} (hx:e.ev x=some (.int .i64 p)) (hy:e.ev y=some (.int .i64 q)) (h: (A0 (p+q))):Ex P n e S ⟨d,.binOp .add t x y t',ty,pos,af,gd⟩ (.int .i64 (p+q)):=by
 intro a w ha _;simp[execOp,ha.ev hx,ha.ev hy,eqGuard,binOp,Op.intArith,IntWalk.i64_in _ h]
theorem Ex.sub {p q:Int} (hx:e.ev x=some (.int .i64 p)) (hy:e.ev y=some (.int .i64 q)) (h: (A0 (p - q))):Ex P n e S ⟨d,.binOp .sub t x y t',ty,pos,af,gd⟩ (.int .i64 (p - q)):=by
 intro a w ha _;simp[execOp,ha.ev hx,ha.ev hy,eqGuard,binOp,Op.intArith,IntWalk.i64_in _ h]
theorem Ex.mul {p q:Int} (hx:e.ev x=some (.int .i64 p)) (hy:e.ev y=some (.int .i64 q)) (h: (A0 (p*q))):Ex P n e S ⟨d,.binOp .mul t x y t',ty,pos,af,gd⟩ (.int .i64 (p*q)):=by
 intro a w ha _;simp[execOp,ha.ev hx,ha.ev hy,eqGuard,binOp,Op.intArith,IntWalk.i64_in _ h]
theorem Ex.addw {k:IntKind} {p q:Int} (hx:e.ev x=some (.int k p)) (hy:e.ev y=some (.int k q)):Ex P n e S ⟨d,.binOp .add t x y t',ty,pos,af,gd⟩ (.int k (k.wrap (p+q))):=by
 intro a w ha _;simp[execOp,ha.ev hx,ha.ev hy,eqGuard,binOp,Op.intArith]
theorem Ex.quo {p q:Int} (hx:e.ev x=some (.int .i64 p)) (hy:e.ev y=some (.int .i64 q)) (hq:1<=q) (h:0<=p/\p<=9223372036854775807):Ex P n e S ⟨d,.binOp .quo t x y t',ty,pos,af,gd⟩ (.int .i64 (p / q)):=by
 intro a w ha _;have b: ¬ q=0:=by omega
 simp[execOp,ha.ev hx,ha.ev hy,eqGuard,binOp,Op.intDiv,b,IntWalk.i64_quo _ _ ⟨h.1,h.2,hq⟩]
theorem Ex.rem {p q:Int} (hx:e.ev x=some (.int .i64 p)) (hy:e.ev y=some (.int .i64 q)) (hq:1<=q) (h:0<=p/\p<=9223372036854775807):Ex P n e S ⟨d,.binOp .rem t x y t',ty,pos,af,gd⟩ (.int .i64 (p % q)):=by
 intro a w ha _;have b: ¬ q=0:=by omega
 simp[execOp,ha.ev hx,ha.ev hy,eqGuard,binOp,Op.intDiv,b,IntWalk.rem_in _ _ h.1]
theorem Ex.neg {p:Int} (hx:e.ev x=some (.int .i64 p)) (h: (A0 ( -p))):Ex P n e S ⟨d,.unOp .neg t x,ty,pos,af,gd⟩ (.int .i64 (-p)):=by
 intro a w ha _;have b:=IntWalk.i64_in _ h;simp[execOp,ha.ev hx,Op.unary,Op.intArith,b]
theorem L0 {k k':IntKind} {p:Int} (hx:e.ev x=some (.int k' p)) (hs: ∀ w,(underlying t).run P w= .ok (.int k') w) (hu: ∀ w,(underlying t').run P w= .ok (.int k) w):Ex P n e S ⟨d,.convert t t' x,ty,pos,af,gd⟩ (.int k (k.wrap p)):=by
 intro a w ha _;simp[execOp,ha.ev hx,convert,hs,hu,Conv.intToInt]
theorem LK {p:Int} {k':IntKind} (hx:e.ev x=some (.int k' p)) (hs: ∀ w,(underlying t).run P w= .ok (.int k') w) (hu: ∀ w,(underlying t').run P w= .ok (.int .i64) w) (h: (A0 p)):Ex P n e S ⟨d,.convert t t' x,ty,pos,af,gd⟩ (.int .i64 p):=by
 have:=L0 (P:=P) (n:=n) (S:=S) (d:=d) (ty:=ty) (pos:=pos) (af:=af) (gd:=gd) hx hs hu
 rwa [IntWalk.i64_in _ h] at this
theorem Ex.maxy {p q:Int} {k k':IntKind} {ts:Array TypeId} (hx:e.ev x=some (.int k p)) (hy:e.ev y=some (.int k' q)) (h:p<q):Ex P n e S ⟨d,.call ⟨.builtin .max,#[x,y],ts⟩,ty,pos,af,gd⟩ (.int k q):=by
 intro a w ha _;simp[execOp,resolve,invoke,builtin,ha.ev hx,ha.ev hy,Builtin.max_,Builtin.max2,h]
theorem Ex.maxx {p q:Int} {k k':IntKind} {ts:Array TypeId} (hx:e.ev x=some (.int k p)) (hy:e.ev y=some (.int k' q)) (h: ¬ p<q):Ex P n e S ⟨d,.call ⟨.builtin .max,#[x,y],ts⟩,ty,pos,af,gd⟩ (.int k p):=by
 intro a w ha _;simp[execOp,resolve,invoke,builtin,ha.ev hx,ha.ev hy,Builtin.max_,Builtin.max2,h]
theorem Ex.miny {p q:Int} {k k':IntKind} {ts:Array TypeId} (hx:e.ev x=some (.int k p)) (hy:e.ev y=some (.int k' q)) (h:q<p):Ex P n e S ⟨d,.call ⟨.builtin .min,#[x,y],ts⟩,ty,pos,af,gd⟩ (.int k q):=by
 intro a w ha _;simp[execOp,resolve,invoke,builtin,ha.ev hx,ha.ev hy,Builtin.min_,Builtin.min2,h]
theorem Ex.minx {p q:Int} {k k':IntKind} {ts:Array TypeId} (hx:e.ev x=some (.int k p)) (hy:e.ev y=some (.int k' q)) (h: ¬ q<p):Ex P n e S ⟨d,.call ⟨.builtin .min,#[x,y],ts⟩,ty,pos,af,gd⟩ (.int k p):=by
 intro a w ha _;simp[execOp,resolve,invoke,builtin,ha.ev hx,ha.ev hy,Builtin.min_,Builtin.min2,h]
theorem Ld {c:Operand} {b:Bool} (hc:e.ev c=some (.bool b)) (hb:b=true) (hx:e.ev x=some v):Ex P n e S ⟨d,.pick c x y,ty,pos,af,gd⟩ v:=by
 intro a w ha _;subst hb;simp[execOp,ha.ev hc,ha.ev hx,asBool]
theorem Li {c:Operand} {b:Bool} (hc:e.ev c=some (.bool b)) (hb:b=false) (hy:e.ev y=some v):Ex P n e S ⟨d,.pick c x y,ty,pos,af,gd⟩ v:=by
 intro a w ha _;subst hb;simp[execOp,ha.ev hc,ha.ev hy,asBool]
theorem Ex.sEq {l m:AI} (hx:e.ev x=some (.string (aW l))) (hy:e.ev y=some (.string (aW m))):Ex P n e S ⟨d,.binOp .eql t x y t',ty,pos,af,gd⟩ (.bool (decide (l=m))):=by
 intro a w ha _;have:(l == m)=decide (l=m):=by by_cases h:l=m <;> simp[h]
 simp[execOp,ha.ev hx,ha.ev hy,eqGuard,binOp_string_eql,fy,this]
theorem LV {l m:AI} (hx:e.ev x=some (.string (aW l))) (hy:e.ev y=some (.string (aW m))):Ex P n e S ⟨d,.binOp .neq t x y t',ty,pos,af,gd⟩ (.bool (!decide (l=m))):=by
 intro a w ha _;have:(l == m)=decide (l=m):=by by_cases h:l=m <;> simp[h]
 simp[execOp,ha.ev hx,ha.ev hy,eqGuard,binOp_string_neq,fy,this]
theorem Ex.sGe {l m:AI} (hx:e.ev x=some (.string (aW l))) (hy:e.ev y=some (.string (aW m))):Ex P n e S ⟨d,.binOp .geq t x y t',ty,pos,af,gd⟩ (.bool (!Op.bytesLess l m)):=by
 intro a w ha _;simp[execOp,ha.ev hx,ha.ev hy,eqGuard,binOp,Op.stringOp,fy]
theorem Ex.sAdd {l m:AI} (hx:e.ev x=some (.string (aW l))) (hy:e.ev y=some (.string (aW m))) (h:l.length+m.length<=9223372036854775807):Ex P n e S ⟨d,.binOp .add t x y t',ty,pos,af,gd⟩ (.string (aW (l++m))):=by
 intro a w ha _;have b: ¬ (((aW l).size+(aW m).size:Nat):Int)>IntKind.i64.max:=by
  have c:IntKind.i64.max=9223372036854775807:=by decide
  rw[c,bsOf_size,bsOf_size];omega
 have f:aW l++aW m=aW (l++m):=by
  apply ByteArray.ext;apply Array.ext';simp[aW]
 simp only[execOp,ha.ev hx,ha.ev hy,eqGuard,binOp_string_add,Op.stringOp,b,if_false,f];rfl
theorem LL {l:AI} {k:Nat} {i:Int} {c:UInt8} {q:IntKind} (hx:e.ev x=some (.string (aW l))) (hi:e.ev ix=some (.int q i)) (hik:i=(k:Int)) (hu:P.underlying t=some .string) (hc:l[k]? = some c):Ex P n e S ⟨d,.index t x ix,ty,pos,af,gd⟩ (.int .u8 (c.toNat:Int)):=by
 intro a w ha _;subst hik;have hk:=(M6 hc).1;have b:(0:Int)<=(k:Int)/\(k:Int)<((aW l).size:Int):=by rw[bsOf_size]; omega
 have f:(aW l)[k]'(by rw[bsOf_size]; exact hk)=c:=by
  have:l[k]=c:=(M6 hc).2;show (aW l).data[k]=c;simpa [aW] using this
 simp only[execOp,ha.ev hx,ha.ev hi,Sem.run_bind,run_index_string w t (aW l) q k hu];rw[dif_pos b];simp[f]
inductive LoOK (e:Env):Option Operand->Nat->Prop where
 | none:LoOK e none 0
 | some {o:Operand} {k:IntKind} {i:Int} {p:Nat} (h:e.ev o=some (.int k i)) (hi:i=(p:Int)):LoOK e (some o) p
inductive HiOK (e:Env) (n:Nat):Option Operand->Nat->Prop where
 | none:HiOK e n none n
 | some {o:Operand} {k:IntKind} {i:Int} {p:Nat} (h:e.ev o=some (.int k i)) (hi:i=(p:Int)):HiOK e n (some o) p
theorem KZ {l:AI} {lo hi:Option Operand} {p q:Nat} (hx:e.ev x=some (.string (aW l))) (hu: ∀ w,(underlying t).run P w= .ok .string w)
 (hlo:LoOK e lo p) (hhi:HiOK e l.length hi q) (h:p<=q/\q<=l.length) {m:AI} (hm:(l.drop p).take (q - p)=m) :
 Ex P n e S ⟨d,.slice t x lo hi none,ty,pos,af,gd⟩ (.string (aW m)):=by
 intro a w ha _;have b:(aW l).extract p q=aW m:=by rw[nF,cZ,hm]
 have c: ∀ k cd,(Instr.sliceBound (.int k (q:Int)) l.length cd).run P w= .ok q w:=by
  intro k cd;have:(0:Int)<=(q:Int)/\(q:Int)<=(l.length:Int):=by omega
  simp[Instr.sliceBound,asIntOf,this]
 have f: ∀ k cd,(Instr.sliceBound (.int k (p:Int)) q cd).run P w= .ok p w:=by
  intro k cd;have:(0:Int)<=(p:Int)/\(p:Int)<=(q:Int):=by omega
  simp[Instr.sliceBound,asIntOf,this]
 cases hlo with
 | none =>
  cases hhi with
  | none =>
   obtain rfl:l=m:=by simpa using hm
   have g:(aW l).extract 0 l.length=aW l:=by simpa using b
   simp[execOp,ha.ev hx,Instr.sliceAt,Instr.slice,hu,Instr.sliceBounds,bsOf_size,g]
  | some ho hi =>
   subst hi;simp[execOp,ha.ev hx,ha.ev ho,Instr.sliceAt,Instr.slice,hu,Instr.sliceBounds,bsOf_size,c,b]
 | some ho hi =>
  subst hi
  cases hhi with
  | none =>
   simp[execOp,ha.ev hx,ha.ev ho,Instr.sliceAt,Instr.slice,hu,Instr.sliceBounds,bsOf_size,f,b]
  | some ho' hi' =>
   subst hi';simp[execOp,ha.ev hx,ha.ev ho,ha.ev ho',Instr.sliceAt,Instr.slice,hu,Instr.sliceBounds,bsOf_size,c,f,b]
theorem KB {g o m c z k:Nat} {i:Int} {q:IntKind} (hx:e.ev x=some (.slice (some ⟨g,o,none⟩) m c)) (hi:e.ev ix=some (.int q i)) (hik:i=(k:Int)) (hu: ∀ w,(underlying t).run P w= .ok (.slice el) w) (hz: ∀ w,(sizeOf el).run P w= .ok z w) (hk:k<m) :
 Ex P n e S ⟨d,.indexAddr t x ix,ty,pos,af,gd⟩ (.pointer (some ⟨g,o+k*z,none⟩)):=by
 intro a w ha _;subst hik;have b:(0:Int)<=(k:Int)/\(k:Int)<(m:Int):=by omega
 have f:(⟨g,o,none⟩:Addr).add (k*z)=⟨g,o+k*z,none⟩:=by unfold Addr.add; split <;> simp_all
 have h:(Instr.indexAt t (.slice (some ⟨g,o,none⟩) m c) (.int q (k:Int))).run P w= .ok (.pointer (some ⟨g,o+k*z,none⟩)) w:=by
  simp only[Instr.indexAt,asIntOf,Sem.run_bind,Sem.run_pure,Result.andThen_ok,hu];rw[QM b];simp[hz,f]
 simp[execOp,ha.ev hx,ha.ev hi,h]
theorem Ac {w:World} {ad:Addr} (ha: ∀ w,(isAgg t).run P w= .ok false w) (hc:w.cell? ad=some v):(loadVar t ad).run P w= .ok v w:=by
 simp[loadVar,ha,hc]
theorem sS {w:World} {ad:Addr} {cs:List Value} (ha: ∀ w,(isAgg t).run P w= .ok true w) (hz: ∀ w,(sizeOf t).run P w= .ok cs.length w) (hc: ∀ j u,cs[j]? = some u->w.cell? (ad.add j)=some u):(loadVar t ad).run P w= .ok (.agg cs.toArray) w:=by
 simp[loadVar,ha,hz,run_loadCells_list w ad cs hc]
theorem Ex.ld1 {ad:Addr} (hx:e.ev x=some (.pointer (some ad))) (ha: ∀ w,(isAgg t).run P w= .ok false w) (hc: ∀ w,S w->w.cell? ad=some v):Ex P n e S ⟨d,.load t x,ty,pos,af,gd⟩ v:=by
 intro a w h hs;simp[execOp,h.ev hx,Instr.loadAt,Instr.sureAddr,Ac ha (hc w hs)]
theorem Ex.ldS {ad:Addr} {cs:List Value} {z:Nat} (hx:e.ev x=some (.pointer (some ad))) (ha: ∀ w,(isAgg t).run P w= .ok true w) (hz: ∀ w,(sizeOf t).run P w= .ok z w) (hl:cs.length=z) (hc: ∀ w,S w-> ∀ j u,cs[j]? = some u->w.cell? (ad.add j)=some u):Ex P n e S ⟨d,.load t x,ty,pos,af,gd⟩ (.agg cs.toArray):=by
 intro a w h hs;subst hl;simp[execOp,h.ev hx,Instr.loadAt,Instr.sureAddr,sS ha hz (hc w hs)]
theorem KI (i:Nat) {b o:Nat} {T:TypeId} {cs:Array Value} (hx:e.ev x=some (.pointer (some ⟨b,o,none⟩))) (ha: ∀ w,(isAgg t).run P w= .ok false w) (hi:Rs[i]? = some (aR b T cs)) (hv:cs[o]? = some v):Ex P n e (St F0 w0 Rs) ⟨d,.load t x,ty,pos,af,gd⟩ v :=
 Ex.ld1 hx ha (fun w hw=>(bp (hw.blk i hi) o).trans hv)
theorem Kp (i:Nat) {b o z:Nat} {T:TypeId} {cs:Array Value} {us:List Value} (hx:e.ev x=some (.pointer (some ⟨b,o,none⟩))) (ha: ∀ w,(isAgg t).run P w= .ok true w) (hz: ∀ w,(sizeOf t).run P w= .ok z w) (hi:Rs[i]? = some (aR b T cs))
 (hv:(cs.toList.drop o).take z=us) (hl:Nat.beq us.length z=true):Ex P n e (St F0 w0 Rs) ⟨d,.load t x,ty,pos,af,gd⟩ (.agg us.toArray):=by
 refine Ex.ldS hx ha hz (Nat.eq_of_beq_eq_true hl) (fun w hw j u hj=> ?_);have a:(⟨b,o,none⟩:Addr).add j=⟨b,o+j,none⟩:=by unfold Addr.add; split <;> simp_all
 rw[a,bp (hw.blk i hi)];subst hv;rw[List.getElem?_take] at hj;split at hj
 ·rw[List.getElem?_drop] at hj;simpa using hj
 ·cases hj
theorem K5 {g q z:Nat} (j:Nat) {cs:List Value} (hx:e.ev x=some (.pointer (some ⟨g,q+j,none⟩))) (ha: ∀ w,(isAgg t).run P w= .ok false w) (nf: ¬ F0 g/\g<w0.heap.size) (hc: ∀ j,j<z->w0.cell? ⟨g,q+j,none⟩=cs[j]?) (hj:Nat.blt j z=true) (hv:cs[j]? = some v) :
 Ex P n e (St F0 w0 Rs) ⟨d,.load t x,ty,pos,af,gd⟩ v :=
 Ex.ld1 hx ha (fun w hw=>hw.old2 nf ((hc j (by simpa [Nat.blt_eq] using hj)).trans hv))
theorem Lf {g q z z':Nat} (k:Nat) {cs us:List Value} (hx:e.ev x=some (.pointer (some ⟨g,q+k,none⟩))) (ha: ∀ w,(isAgg t).run P w= .ok true w) (hz: ∀ w,(sizeOf t).run P w= .ok z' w) (nf: ¬ F0 g/\g<w0.heap.size) (hc: ∀ j,j<z->w0.cell? ⟨g,q+j,none⟩=cs[j]?) (hcl:cs.length=z)
 (hv:(cs.drop k).take z'=us) (hl:Nat.beq us.length z'=true):Ex P n e (St F0 w0 Rs) ⟨d,.load t x,ty,pos,af,gd⟩ (.agg us.toArray):=by
 refine Ex.ldS hx ha hz (Nat.eq_of_beq_eq_true hl) (fun w hw j u hj=> ?_);have a:(⟨g,q+k,none⟩:Addr).add j=⟨g,q+(k+j),none⟩:=by unfold Addr.add; split <;> simp_all [Nat.add_assoc]
 rw[a];subst hv;rw[List.getElem?_take] at hj;split at hj
 ·rw[List.getElem?_drop] at hj;have hlt:=(M6 hj).1;exact hw.old2 nf ((hc (k+j) QI).trans hj)
 ·cases hj
def BOK (P:Program) (t:TypeId) (zs:Array Value) (pl:List (Nat×Nat)):Prop:= ∀ (parts:Array (Nat×Value)) (cells:Array Value) (w:World),Instr.fill (pl[·]?) zs parts.toList=some cells->(Instr.build t parts).run P w= .ok (.agg cells) w
theorem KH {zs cells:Array Value} {pl:List (Nat×Nat)} {ps:List (Nat×Operand)} {vs:List Value} (hB:BOK P t zs pl) (hv:e.evs (ps.map (·.2))=some vs) (hf:Instr.fill (pl[·]?) zs ((ps.map (·.1)).zip vs)=some cells):Ex P n e S ⟨d,.build t ps.toArray,ty,pos,af,gd⟩ (.agg cells):=by
 intro a w ha _;have b:=ha.evs hv;have c:ps.map (fun p=>(p.1,a.eval p.2))=(ps.map (·.1)).zip vs:=by
  rw[<- b];clear b hf hv
  induction ps with
  | nil=>rfl
  | cons p ps ih=>simp[ih]
 have f:=hB (ps.map (fun p=>(p.1,a.eval p.2))).toArray cells w (by simpa [c] using hf);simp only[execOp,List.map_toArray,Sem.run_bind];rw[f];rfl
theorem Ex.mkF {fn:Fn} {fs cs:List Operand} {us vs:List Value} (hf:e.evs fs=some us) (hc:e.evs cs=some vs) (h: ∀ w,(Instr.makeFunc fn us.toArray vs.toArray).run P w= .ok v w):Ex P n e S ⟨d,.makeFunc fn fs.toArray cs.toArray,ty,pos,af,gd⟩ v:=by
 intro a w ha _;simp[execOp,List.map_toArray,ha.evs hf,ha.evs hc,h]
theorem Ex.pNe {ad:Addr} {b:Bool} {op:BinOp} (hop:op= .eql/\b=false\/op= .neq/\b=true) (hx:e.ev x=some (.pointer (some ad))) (hy:e.ev y=some (.pointer none)) (hu: ∀ w,(underlying t).run P w= .ok (.pointer el) w):Ex P n e S ⟨d,.binOp op t x y t',ty,pos,af,gd⟩ (.bool b):=by
 intro a w ha _;have g: ∀ k,(Op.equalIn (k+1) t (.pointer (some ad)) (.pointer none)).run P w= .ok false w:=by
  intro k;simp only[Op.equalIn,Sem.run_bind,hu,Result.andThen_ok];rfl
 have c:(Op.equal t (.pointer (some ad)) (.pointer none)).run P w= .ok false w:=g 9999;have h: ∀ b',(do pure (.bool (b' != (<- Op.equal t (.pointer (some ad)) (.pointer none)))):Sem Value).run P w= .ok (.bool b') w:=by
  intro b';simp[c]
 rcases hop with⟨rfl,rfl⟩ | ⟨rfl,rfl⟩
 ·have f:(binOp .eql t (.pointer (some ad)) (.pointer none)).run P w= .ok (.bool false) w:=by
   simp only[binOp,Sem.run_bind,c,Result.andThen_ok,Sem.run_pure]
  simp[execOp,ha.ev hx,ha.ev hy,eqGuard,f]
 ·have f:(binOp .neq t (.pointer (some ad)) (.pointer none)).run P w= .ok (.bool true) w:=by
   simp only[binOp,Sem.run_bind,c,Result.andThen_ok,Sem.run_pure];rfl
  simp[execOp,ha.ev hx,ha.ev hy,eqGuard,f]
end
def nW:Option Nat->Value->Env->Env
 | none,_,e=>e
 | some d,v,e=>(d,v)::e
def okd:Option Nat->Nat->Bool
 | none,_=>true
 | some d,n=>Nat.blt d n
section
variable {P:Program} {n:Nat} {F0:Nat->Prop} {w0:World} {e:Env} {Rs:List Res} {d:Option Tmp} {ty:TypeId} {pos:String} {af:Array Edge} {gd:Option (Nat×Bool)} {v:Value} {x y:Operand} {t t' el:TypeId}
theorem Has.putd {a:Act} (h:Has n e a) (hd:okd d n=true):Has n (nW d v e) (a.put d v):=by
 cases d with
 | none=>exact h
 | some d=>exact h.put hd
theorem St.setRowS {b:Nat} {T:TypeId} {cs cs':Array Value} {w:World} (i:Nat) (h:St F0 w0 Rs w) (hi:Rs[i]? = some (aR b T cs)):St F0 w0 (Rs.set i (aR b T cs')) (w.setRow b cs'):=by
 refine h.step i hi (Ns := []) (fun G hG=>⟨⟨rfl,rfl,rfl,by simp[World.setRow],fun k hk hn=>setRow_other w b k cs' (fun e=>hn (e ▸ (hG.2 b).2 rfl))⟩,G,⟨setRow_heap w b cs cs' T (0,0) hG.1,hG.2⟩,fun k hk=> .inl hk,trivial⟩)
theorem Ef.alloc {zv:Value} (hz: ∀ w,(zeroValue t).run P w= .ok zv w) (hd:okd d n=true):Ef P n F0 w0 e Rs ⟨d,.alloc t,ty,pos,af,gd⟩ (fun e' Rs'=> ∃ b,e'=nW d (.pointer (some ⟨b,0,none⟩)) e/\Rs'=aR b t zv.cells::Rs):=by
 intro a w K Q ha hs hk;have c:(execOp a.eval ⟨d,.alloc t,ty,pos,af,gd⟩).run P w= .ok (.value (.pointer (some ⟨w.heap.size,0,none⟩))) (w.alloc (.cells zv.cells t)):=by
  simp[execOp,Instr.alloc,hz,newVar,newRow,newObj];rfl
 unfold Oper.wp;rw[c];exact hk _ _ ⟨_,rfl,rfl⟩ _ _ (ha.putd hd) (hs.alloc _ _)
theorem Ef.box (hx:e.ev x=some v) (hd:okd d n=true):Ef P n F0 w0 e Rs ⟨d,.box t x,ty,pos,af,gd⟩ (fun e' Rs'=> ∃ b,e'=nW d (.pointer (some ⟨b,0,none⟩)) e/\Rs'=aR b t v.cells::Rs):=by
 intro a w K Q ha hs hk;have c:(execOp a.eval ⟨d,.box t x,ty,pos,af,gd⟩).run P w= .ok (.value (.pointer (some ⟨w.heap.size,0,none⟩))) (w.alloc (.cells v.cells t)):=by
  simp[execOp,ha.ev hx,Instr.box,newVar,newRow,newObj];rfl
 unfold Oper.wp;rw[c];exact hk _ _ ⟨_,rfl,rfl⟩ _ _ (ha.putd hd) (hs.alloc _ _)
theorem Ef.st (i:Nat) {b o z:Nat} {T:TypeId} {cs cs':Array Value} (hx:e.ev x=some (.pointer (some ⟨b,o,none⟩))) (hy:e.ev y=some v) (hz: ∀ w,(sizeOf t).run P w= .ok z w) (hi:Rs[i]? = some (aR b T cs))
 (hvz:Nat.beq v.cells.size z=true) (hf:Nat.ble (o+v.cells.size) cs.size=true) (ho:v.cells.toList.all (·.oneCell')=true) (hc:(cs.toList.take o++v.cells.toList++cs.toList.drop (o+v.cells.size)).toArray=cs') :
 Ef P n F0 w0 e Rs ⟨none,.store t x y,ty,pos,af,gd⟩ (fun e' Rs'=>e'=e/\Rs'=Rs.set i (aR b T cs')):=by
 intro a w K Q ha hs hk;have hb:=hs.blk i hi;have hvz':=Nat.eq_of_beq_eq_true hvz;have hf':=Nat.le_of_ble_eq_true hf;have c:=run_storeCells_at (P:=P) b o T v.cells.toList 0 cs w hb (by simpa using hf') (List.all_eq_true.1 ho);have d:(execOp a.eval ⟨none,.store t x y,ty,pos,af,gd⟩).run P w= .ok .skip (w.setRow b cs'):=by
  simp only[Nat.add_zero,Array.length_toList] at c;rw[hc] at c;simp[execOp,ha.ev hx,ha.ev hy,Instr.storeAt,Instr.sureAddr,storeVar,hz,hvz',c]
 unfold Oper.wp;rw[d];exact hk _ _ ⟨rfl,rfl⟩ _ _ (ha.put0) (hs.setRowS i hi)
def CT (P:Program) (n:Nat) (e:Env) (o:Oper) (f:FuncId) (us:List Value):Prop:= ∀ a w,Has n e a->(execOp a.eval o).run P w= .ok (.enter f us.toArray) w
theorem CT.fn {f:FuncId} {xs:List Operand} {vs:List Value} {ts:Array TypeId} (hc: ∀ args w,(callFunc f args).run P w= .ok (.enter f args) w) (hv:e.evs xs=some vs):CT P n e ⟨d,.call ⟨.value (.func f),xs.toArray,ts⟩,ty,pos,af,gd⟩ f vs:=by
 intro a w ha;simp[execOp,resolve,Act.eval,Deferred.ofValue,invoke,List.map_toArray,ha.evs hv,hc]
theorem CT.val {f:FuncId} {x:Operand} {xs:List Operand} {vs us fs cs:List Value} {ts:Array TypeId} (hx:e.ev x=some (.func (.func f) fs.toArray cs.toArray)) (hc: ∀ args w,(callFunc f args).run P w= .ok (.enter f args) w) (hv:e.evs xs=some vs) (hu:fs++vs++cs=us):CT P n e ⟨d,.call ⟨.value x,xs.toArray,ts⟩,ty,pos,af,gd⟩ f us:=by
 intro a w ha;subst hu;simp[execOp,resolve,ha.ev hx,Deferred.ofValue,invoke,List.map_toArray,ha.evs hv,hc]
theorem CT.inv {f:FuncId} {x:Operand} {nm:String} {xs:List Operand} {u u':Value} {vs:List Value} {ts:Array TypeId} (hx:e.ev x=some (.iface t u)) (hm: ∀ w,(method (P.types.size+Made.depth) t u nm).run P w= .ok (f,u') w) (hc: ∀ args w,(callFunc f args).run P w= .ok (.enter f args) w) (hv:e.evs xs=some vs):CT P n e ⟨d,.call ⟨.invoke x nm,xs.toArray,ts⟩,ty,pos,af,gd⟩ f (u'::vs):=by
 intro a w ha;simp[execOp,resolve,ha.ev hx,invoke,callMethod,List.map_toArray,ha.evs hv,hm,hc]
theorem Ef.call (i:Nat) {op:Op} {f:FuncId} {vs:List Value} {A:Res} {Y:RX} {R:Value->Res->List Res->Prop} (hc:CT P n e ⟨d,op,ty,pos,af,gd⟩ f vs) (hi:Rs[i]? = some A)
 (hs:aB P f vs.toArray Y A R) (hr: ∀ w,St F0 w0 Rs w->Src F0 w0 Rs w i Y) (hd:okd d n=true) :
 Ef P n F0 w0 e Rs ⟨d,op,ty,pos,af,gd⟩ (fun e' Rs'=> ∃ v A' N,R v A' N/\e'=nW d v e/\Rs'=N++Rs.set i A'):=by
 intro a w K Q ha hst hk;unfold Oper.wp;rw[hc a w ha];refine (hst.callX i hi hs (hr w hst)).mono ?_;rintro x w' ⟨v,A',N,rfl,hq,hst'⟩;exact hk _ _ ⟨v,A',N,hq,rfl,rfl⟩ _ _ (ha.putd hd) hst'
theorem Ef.callE {op:Op} {f:FuncId} {vs:List Value} {Y:RX} {R:Value->Res->List Res->Prop} (hc:CT P n e ⟨d,op,ty,pos,af,gd⟩ f vs)
 (hs:aB P f vs.toArray Y aI R) (hr: ∀ w,St F0 w0 Rs w->Y.reads w (fun _=>False)) (hd:okd d n=true) :
 Ef P n F0 w0 e Rs ⟨d,op,ty,pos,af,gd⟩ (fun e' Rs'=> ∃ v A' N,R v A' N/\e'=nW d v e/\Rs'=N++Rs):=by
 intro a w K Q ha hst hk;unfold Oper.wp;rw[hc a w ha];refine (hst.callE hs (hr w hst)).mono ?_;rintro x w' ⟨v,A',N,rfl,hq,hst'⟩;exact hk _ _ ⟨v,A',N,hq,rfl,rfl⟩ _ _ (ha.putd hd) hst'
theorem Ek {a:Act} {w:World} {sl x:Operand} {T:TypeId} {z bytes g:Nat} {zv:Value} {us cells:List Value} {q:Value} {m:Nat} (ha:Has n e a) (hu:P.underlying t=some (.slice T)) (hinfo:(P.info? T).map (fun i=>(i.zero,i.size,i.bytes))=some (some zv,z,bytes)) (hzv:zv.cells.size=z) (hp:0<z)
 (hs:e.ev sl=some q) (hx:e.ev x=some (.slice (some ⟨g,0,none⟩) 1 1)) (hown:w.ownsRow 0 T z q m cells) (hl:us.length=z) (hg:w.heap[g]? = some (.cells us.toArray T (0,0))) (ho:us.all (·.oneCell')=true) (hb:(m+1)*bytes<=140737488355328) (hm:m+1<=140737488355328) :
 ∃ q' w',(execOp a.eval ⟨d,.call ⟨.builtin .append,#[sl,x],#[t,t]⟩,ty,pos,af,gd⟩).run P w= .ok (.value q') w'/\w'.ownsRow 0 T z q' (m+1) (cells++us)/\w.grownBy w' q.ownBlock/\(q'.ownBlock=q.ownBlock\/ ∃ k,q'.ownBlock=some k/\w.heap.size<=k):=by
 obtain⟨i,hi,hzz⟩:=Option.map_eq_some_iff.1 hinfo;simp only[Prod.mk.injEq] at hzz;obtain⟨b,c,f⟩:=hzz;obtain⟨q',w',hr,l,o,_,p⟩:=run_append_own_at (P:=P) w 0 t ty T i zv z bytes hu hi b c f hzv hp q m cells hown ⟨g,0,none⟩ 1 1 us QI (fun j u hj=>by
  have r:(⟨g,0,none⟩:Addr).add j=⟨g,j,none⟩:=by unfold Addr.add; split <;> simp_all
  rw[r,bp hg];simpa using hj) (by simpa using ho) (by simp only[maxLen]; omega) hb (Nn _)
 refine⟨q',w',?_,l,o,p.imp id (fun h=>⟨_,h,NA _⟩)⟩;simp[execOp,resolve,invoke,builtin,ha.ev hs,ha.ev hx,hr]
theorem Ef.app1 (i:Nat) {α:Type} {E:Rd α} {sl x:Operand} {T:TypeId} {z bytes g:Nat} {zv:Value} {us:List Value} {A:AT} {c:Nat} {l:List α} {u:α} {Rs':List Res} (hu:P.underlying t=some (.slice T)) (hinfo:(P.info? T).map (fun i=>(i.zero,i.size,i.bytes))=some (some zv,z,bytes)) (hzv:zv.cells.size=z) (hp:0<z)
 (hs:e.ev sl=some (.slice A l.length c)) (hx:e.ev x=some (.slice (some ⟨g,0,none⟩) 1 1)) (hR:Rs=aR g T us.toArray::Rs') (hi:Rs'[i]? = some (bC T z E (.slice A l.length c) l)) (hl:us.length=z) (ho:us.all (·.oneCell')=true) (hE: ∀ w S,E.P w S us u) (hb:(l.length+1)*bytes<=140737488355328) (hm:l.length+1<=140737488355328) (hd:okd d n=true) :
 Ef P n F0 w0 e Rs ⟨d,.call ⟨.builtin .append,#[sl,x],#[t,t]⟩,ty,pos,af,gd⟩ (fun e' R=> ∃ A' c',e'=nW d (.slice A' (l ++ [u]).length c') e/\R=Rs'.set i (bC T z E (.slice A' (l ++ [u]).length c') (l ++ [u]))):=by
 subst hR;intro a w K Q ha hst hk;obtain⟨cells,b,f⟩:=bC.open_ (i+1) hst (by simpa using hi);obtain⟨q',w',r1,r2,r3,r4⟩:=Ek (d:=d) (ty:=ty) (pos:=pos) (af:=af) (gd:=gd) ha hu hinfo hzv hp hs hx b hl (hst.blk 0 rfl) ho hb hm;have h:=f q' w' us u r2 r3 r4 hl hE;have hlen:l.length+1=(l ++ [u]).length:=by simp
 rw[hlen] at r2;obtain⟨A',c',rfl⟩:=oc r2;unfold Oper.wp;rw[r1];exact hk _ _ ⟨A',c',rfl,rfl⟩ _ _ (ha.putd hd) (h.drop_)
theorem Ef.app2 (i j:Nat) {α:Type} {E:Rd α} {sl x:Operand} {T:TypeId} {z bytes g:Nat} {zv:Value} {us:List Value} {A:AT} {c:Nat} {l:List α} {u:α} {Rs':List Res} {B:Res} (hu:P.underlying t=some (.slice T)) (hinfo:(P.info? T).map (fun i=>(i.zero,i.size,i.bytes))=some (some zv,z,bytes)) (hzv:zv.cells.size=z) (hp:0<z)
 (hs:e.ev sl=some (.slice A l.length c)) (hx:e.ev x=some (.slice (some ⟨g,0,none⟩) 1 1)) (hR:Rs=aR g T us.toArray::Rs') (hi:Rs'[i]? = some (bC T z E (.slice A l.length c) l)) (hj:(Rs'.eraseIdx i)[j]? = some B) (hl:us.length=z) (ho:us.all (·.oneCell')=true) (hE: ∀ w G,B.P w G->E.P w G us u) (hb:(l.length+1)*bytes<=140737488355328) (hm:l.length+1<=140737488355328) (hd:okd d n=true) :
 Ef P n F0 w0 e Rs ⟨d,.call ⟨.builtin .append,#[sl,x],#[t,t]⟩,ty,pos,af,gd⟩ (fun e' R=> ∃ A' c',e'=nW d (.slice A' (l ++ [u]).length c') e/\R=bC T z E (.slice A' (l ++ [u]).length c') (l ++ [u])::(Rs'.eraseIdx i).eraseIdx j):=by
 subst hR;intro a w K Q ha hst hk;obtain⟨cells,b,f⟩:=bC.open2 (B:=B) (i+1) (j+1) hst (by simpa using hi) (by simpa using hj);obtain⟨q',w',r1,r2,r3,r4⟩:=Ek (d:=d) (ty:=ty) (pos:=pos) (af:=af) (gd:=gd) ha hu hinfo hzv hp hs hx b hl (hst.blk 0 rfl) ho hb hm;have h:=f q' w' us u r2 r3 r4 hl hE;have hlen:l.length+1=(l ++ [u]).length:=by simp
 rw[hlen] at r2;obtain⟨A',c',rfl⟩:=oc r2;unfold Oper.wp;rw[r1];have k:=h.del 1 (A:=aR g T us.toArray) rfl;exact hk _ _ ⟨A',c',rfl,rfl⟩ _ _ (ha.putd hd) k
def SOK (P:Program) (t T:TypeId) (m z:Nat) (zs:Array Value):Prop:= ∀ (parts:Array (Nat×Value)) (cells:Array Value) (w:World),Instr.fill (fun i=>some (i*z,z)) zs parts.toList=some cells->(Instr.buildSlice t m parts).run P w= .ok (.slice (some ⟨w.heap.size,0,none⟩) m m) (w.alloc (.cells cells T))
theorem Ef.lit {T m z:Nat} {zs cells:Array Value} {ps:List (Nat×Operand)} {vs:List Value} (hB:SOK P t T m z zs) (hv:e.evs (ps.map (·.2))=some vs) (hf:Instr.fill (fun i=>some (i*z,z)) zs ((ps.map (·.1)).zip vs)=some cells) (hd:okd d n=true) :
 Ef P n F0 w0 e Rs ⟨d,.buildSlice t m ps.toArray,ty,pos,af,gd⟩ (fun e' Rs'=> ∃ b,e'=nW d (.slice (some ⟨b,0,none⟩) m m) e/\Rs'=aR b T cells::Rs):=by
 intro a w K Q ha hs hk;have c:=ha.evs hv;have f:ps.map (fun p=>(p.1,a.eval p.2))=(ps.map (·.1)).zip vs:=by
  rw[<- c];clear c hf hv
  induction ps with
  | nil=>rfl
  | cons p ps ih=>simp[ih]
 have g:=hB (ps.map (fun p=>(p.1,a.eval p.2))).toArray cells w (by simpa [f] using hf);unfold Oper.wp;simp only[execOp,List.map_toArray,Sem.run_bind];rw[g];exact hk _ _ ⟨_,rfl,rfl⟩ _ _ (ha.putd hd) (hs.alloc _ _)
theorem St.rowOf {α:Type} {E:Rd α} {b T z m:Nat} {us:List Value} {l:List α} {w:World} (h:St F0 w0 (aR b T us.toArray::Rs) w) (hm:l.length=m) (hmm:m<=maxLen) (he: ∀ w,ka z E w (fun _=>False) us l) :
 St F0 w0 (bC T z E (.slice (some ⟨b,0,none⟩) m m) l::Rs) w:=by
 subst hm;refine h.weaken 0 rfl (fun G hG=> ?_);have hl:=mw (he w);refine⟨us,fun _=>False,⟨hl,.inr ⟨b,l.length,us.toArray,rfl,Nn _,hG.1,NA _,hmm,by simpa using hl,?_⟩⟩,he w,fun _ h=>h.elim,fun _ _ h=>h,fun k=> ?_⟩
 ·simp[<- hl]
 ·rw[hG.2 k];simp[Value.ownBlock,eq_comm]
end
section
variable {P:Program} {n:Nat} {F0:Nat->Prop} {w0:World} {e:Env} {Rs Rf:List Res} {Q:Exit->Act->World->Prop} {ops:Array Oper} {i d b o z f T:Nat} {ty t el:TypeId} {pos:String} {af:Array Edge} {gd:Option (Nat×Bool)} {v zv:Value} {x y:Operand} {l:List Nat} {xs:List Operand} {vs:List Value} {ts:Array TypeId} {Y:RX} {A B:Res} {R:Value->Res->List Res->Prop} {c:Code} {cl:Call}
theorem LN {α:Type} {E:Rd α} {m:Nat} {us:List Value} {xs:List α} (hm:xs.length=m) (hmm:m<=maxLen) (he: ∀ w,ka z E w (fun _=>False) us xs) (h:TL P n F0 w0 ops l e (bC T z E (.slice (some ⟨b,0,none⟩) m m) xs::Rs) Q):TL P n F0 w0 ops l e (aR b T us.toArray::Rs) Q:=fun a w ha hs=>h a w ha (hs.rowOf hm hmm he)
theorem TD.rowOf {α:Type} {E:Rd α} {m:Nat} {us:List Value} {xs:List α} {l:Sch} (hm:xs.length=m) (hmm:m<=maxLen) (he: ∀ w,ka z E w (fun _=>False) us xs) (h:TD P n F0 w0 ops l Rf e (bC T z E (.slice (some ⟨b,0,none⟩) m m) xs::Rs) Q):TD P n F0 w0 ops l Rf e (aR b T us.toArray::Rs) Q:=fun a w ha hs=>h a w ha (hs.rowOf hm hmm he)
theorem TL.alloc  (ho:ops[i]? = some ⟨some d,.alloc t,ty,pos,af,gd⟩) (hw:Wd n ops e ⟨some d,.alloc t,ty,pos,af,gd⟩ true) (hz: ∀ w,(zeroValue t).run P w= .ok zv w) (hd:Nat.blt d n=true) (h: ∀ b,TL P n F0 w0 ops l ((d,.pointer (some ⟨b,0,none⟩))::e) (aR b t zv.cells::Rs) Q):TL P n F0 w0 ops (i::l) e Rs Q:=by
 refine LF ho hw (Ef.alloc hz hd) ?_;rintro _ _ ⟨b,rfl,rfl⟩;exact h b
theorem TD.alloc  {l:Sch} (ho:ops[i]? = some ⟨some d,.alloc t,ty,pos,af,gd⟩) (hw:Wd n ops e ⟨some d,.alloc t,ty,pos,af,gd⟩ true) (hz: ∀ w,(zeroValue t).run P w= .ok zv w) (hd:Nat.blt d n=true) (is:List Nat) (hf: ∀ b,Sel (aR b t zv.cells::Rs) is Rf) (h: ∀ b,TD P n F0 w0 ops l Rf ((d,.pointer (some ⟨b,0,none⟩))::e) (aR b t zv.cells::Rs) Q):TD P n F0 w0 ops (.e i l) Rf e Rs Q:=by
 refine LS ho hw (Ef.alloc hz hd) ?_;rintro _ _ ⟨b,rfl,rfl⟩;exact⟨Rf,fun w hw=>hw.sel is (hf b),fun _ h=>h,h b⟩
theorem TL.box  (ho:ops[i]? = some ⟨some d,.box t x,ty,pos,af,gd⟩) (hw:Wd n ops e ⟨some d,.box t x,ty,pos,af,gd⟩ true) (hx:e.ev x=some v) (hd:Nat.blt d n=true) (h: ∀ b,TL P n F0 w0 ops l ((d,.pointer (some ⟨b,0,none⟩))::e) (aR b t v.cells::Rs) Q):TL P n F0 w0 ops (i::l) e Rs Q:=by
 refine LF ho hw (Ef.box hx hd) ?_;rintro _ _ ⟨b,rfl,rfl⟩;exact h b
theorem Lj {m:Nat} {zs cells:Array Value} {ps:List (Nat×Operand)} (ho:ops[i]? = some ⟨some d,.buildSlice t m ps.toArray,ty,pos,af,gd⟩) (hw:Wd n ops e ⟨some d,.buildSlice t m ps.toArray,ty,pos,af,gd⟩ true) (hB:SOK P t T m z zs) (hv:e.evs (ps.map (·.2))=some vs) (hf':Instr.fill (fun i=>some (i*z,z)) zs ((ps.map (·.1)).zip vs)=some cells) (hd:Nat.blt d n=true) (h: ∀ b,TL P n F0 w0 ops l ((d,.slice (some ⟨b,0,none⟩) m m)::e) (aR b T cells::Rs) Q):TL P n F0 w0 ops (i::l) e Rs Q:=by
 refine LF ho hw (Ef.lit hB hv hf' hd) ?_;rintro _ _ ⟨b,rfl,rfl⟩;exact h b
theorem Lu {m:Nat} {zs cells:Array Value} {ps:List (Nat×Operand)} {l:Sch} (ho:ops[i]? = some ⟨some d,.buildSlice t m ps.toArray,ty,pos,af,gd⟩) (hw:Wd n ops e ⟨some d,.buildSlice t m ps.toArray,ty,pos,af,gd⟩ true) (hB:SOK P t T m z zs) (hv:e.evs (ps.map (·.2))=some vs) (hf':Instr.fill (fun i=>some (i*z,z)) zs ((ps.map (·.1)).zip vs)=some cells) (hd:Nat.blt d n=true) (is:List Nat) (hf: ∀ b,Sel (aR b T cells::Rs) is Rf) (h: ∀ b,TD P n F0 w0 ops l Rf ((d,.slice (some ⟨b,0,none⟩) m m)::e) (aR b T cells::Rs) Q):TD P n F0 w0 ops (.e i l) Rf e Rs Q:=by
 refine LS ho hw (Ef.lit hB hv hf' hd) ?_;rintro _ _ ⟨b,rfl,rfl⟩;exact⟨Rf,fun w hw=>hw.sel is (hf b),fun _ h=>h,h b⟩
theorem TL.cg0  (ho:ops[i]? = some ⟨some d,.call cl,ty,pos,af,gd⟩) (hw:Wd n ops e ⟨some d,.call cl,ty,pos,af,gd⟩ true) (hc:CT P n e ⟨some d,.call cl,ty,pos,af,gd⟩ f vs) (hs:aB P f vs.toArray Y A R) (hr: ∀ w,St F0 w0 (A::Rs) w->Src F0 w0 (A::Rs) w 0 Y) (hd:Nat.blt d n=true) (h: ∀ v A' N,R v A' N->TL P n F0 w0 ops l ((d,v)::e) (N++A'::Rs) Q):TL P n F0 w0 ops (i::l) e (A::Rs) Q:=by
 refine LF ho hw (Ef.call 0 hc rfl hs hr hd) ?_;rintro _ _ ⟨v,A',N,hR,rfl,rfl⟩;exact h v A' N hR
theorem LR {R0:Res} (ho:ops[i]? = some ⟨some d,.call cl,ty,pos,af,gd⟩) (hw:Wd n ops e ⟨some d,.call cl,ty,pos,af,gd⟩ true) (hc:CT P n e ⟨some d,.call cl,ty,pos,af,gd⟩ f vs) (hs:aB P f vs.toArray Y A R) (hr: ∀ w,St F0 w0 (R0::A::Rs) w->Src F0 w0 (R0::A::Rs) w 1 Y) (hd:Nat.blt d n=true) (h: ∀ v A' N,R v A' N->TL P n F0 w0 ops l ((d,v)::e) (N++R0::A'::Rs) Q):TL P n F0 w0 ops (i::l) e (R0::A::Rs) Q:=by
 refine LF ho hw (Ef.call 1 hc rfl hs hr hd) ?_;rintro _ _ ⟨v,A',N,hR,rfl,rfl⟩;exact h v A' N hR
theorem TD.cg1 {R0:Res} {l:Sch} (ho:ops[i]? = some ⟨some d,.call cl,ty,pos,af,gd⟩) (hw:Wd n ops e ⟨some d,.call cl,ty,pos,af,gd⟩ true) (hc:CT P n e ⟨some d,.call cl,ty,pos,af,gd⟩ f vs) (hs:aB P f vs.toArray Y A R) (hr: ∀ w,St F0 w0 (R0::A::Rs) w->Src F0 w0 (R0::A::Rs) w 1 Y) (hd:Nat.blt d n=true) (is:List Nat) (hf: ∀ v A' N,R v A' N->Sel (N++R0::A'::Rs) is Rf) (h: ∀ v A' N,R v A' N->TD P n F0 w0 ops l Rf ((d,v)::e) (N++R0::A'::Rs) Q):TD P n F0 w0 ops (.e i l) Rf e (R0::A::Rs) Q:=by
 refine LS ho hw (Ef.call 1 hc rfl hs hr hd) ?_;rintro _ _ ⟨v,A',N,hR,rfl,rfl⟩;exact⟨Rf,fun w hw=>hw.sel is (hf v A' N hR),fun _ h=>h,h v A' N hR⟩
theorem TL.cg2 {R0 R1:Res} (ho:ops[i]? = some ⟨some d,.call cl,ty,pos,af,gd⟩) (hw:Wd n ops e ⟨some d,.call cl,ty,pos,af,gd⟩ true) (hc:CT P n e ⟨some d,.call cl,ty,pos,af,gd⟩ f vs) (hs:aB P f vs.toArray Y A R) (hr: ∀ w,St F0 w0 (R0::R1::A::Rs) w->Src F0 w0 (R0::R1::A::Rs) w 2 Y) (hd:Nat.blt d n=true) (h: ∀ v A' N,R v A' N->TL P n F0 w0 ops l ((d,v)::e) (N++R0::R1::A'::Rs) Q):TL P n F0 w0 ops (i::l) e (R0::R1::A::Rs) Q:=by
 refine LF ho hw (Ef.call 2 hc rfl hs hr hd) ?_;rintro _ _ ⟨v,A',N,hR,rfl,rfl⟩;exact h v A' N hR
theorem TL.cg3 {R0 R1 R2:Res} (ho:ops[i]? = some ⟨some d,.call cl,ty,pos,af,gd⟩) (hw:Wd n ops e ⟨some d,.call cl,ty,pos,af,gd⟩ true) (hc:CT P n e ⟨some d,.call cl,ty,pos,af,gd⟩ f vs) (hs:aB P f vs.toArray Y A R) (hr: ∀ w,St F0 w0 (R0::R1::R2::A::Rs) w->Src F0 w0 (R0::R1::R2::A::Rs) w 3 Y) (hd:Nat.blt d n=true) (h: ∀ v A' N,R v A' N->TL P n F0 w0 ops l ((d,v)::e) (N++R0::R1::R2::A'::Rs) Q):TL P n F0 w0 ops (i::l) e (R0::R1::R2::A::Rs) Q:=by
 refine LF ho hw (Ef.call 3 hc rfl hs hr hd) ?_;rintro _ _ ⟨v,A',N,hR,rfl,rfl⟩;exact h v A' N hR
theorem TD.cg5 {R0 R1 R2 R3 R4:Res} {l:Sch} (ho:ops[i]? = some ⟨some d,.call cl,ty,pos,af,gd⟩) (hw:Wd n ops e ⟨some d,.call cl,ty,pos,af,gd⟩ true) (hc:CT P n e ⟨some d,.call cl,ty,pos,af,gd⟩ f vs) (hs:aB P f vs.toArray Y A R) (hr: ∀ w,St F0 w0 (R0::R1::R2::R3::R4::A::Rs) w->Src F0 w0 (R0::R1::R2::R3::R4::A::Rs) w 5 Y) (hd:Nat.blt d n=true) (is:List Nat) (hf: ∀ v A' N,R v A' N->Sel (N++R0::R1::R2::R3::R4::A'::Rs) is Rf) (h: ∀ v A' N,R v A' N->TD P n F0 w0 ops l Rf ((d,v)::e) (N++R0::R1::R2::R3::R4::A'::Rs) Q):TD P n F0 w0 ops (.e i l) Rf e (R0::R1::R2::R3::R4::A::Rs) Q:=by
 refine LS ho hw (Ef.call 5 hc rfl hs hr hd) ?_;rintro _ _ ⟨v,A',N,hR,rfl,rfl⟩;exact⟨Rf,fun w hw=>hw.sel is (hf v A' N hR),fun _ h=>h,h v A' N hR⟩
theorem K2  (ho:ops[i]? = some ⟨some d,.call cl,ty,pos,af,gd⟩) (hw:Wd n ops e ⟨some d,.call cl,ty,pos,af,gd⟩ true) (hc:CT P n e ⟨some d,.call cl,ty,pos,af,gd⟩ f vs) (hs:aB P f vs.toArray Y aI R) (hr: ∀ w,St F0 w0 Rs w->Y.reads w (fun _=>False)) (hd:Nat.blt d n=true) (h: ∀ v A' N,R v A' N->TL P n F0 w0 ops l ((d,v)::e) (N++Rs) Q):TL P n F0 w0 ops (i::l) e Rs Q:=by
 refine LF ho hw (Ef.callE hc hs hr hd) ?_;rintro _ _ ⟨v,A',N,hR,rfl,rfl⟩;exact h v A' N hR
theorem L4  {l:Sch} (ho:ops[i]? = some ⟨some d,.call cl,ty,pos,af,gd⟩) (hw:Wd n ops e ⟨some d,.call cl,ty,pos,af,gd⟩ true) (hc:CT P n e ⟨some d,.call cl,ty,pos,af,gd⟩ f vs) (hs:aB P f vs.toArray Y aI R) (hr: ∀ w,St F0 w0 Rs w->Y.reads w (fun _=>False)) (hd:Nat.blt d n=true) (is:List Nat) (hf: ∀ v A' N,R v A' N->Sel (N++Rs) is Rf) (h: ∀ v A' N,R v A' N->TD P n F0 w0 ops l Rf ((d,v)::e) (N++Rs) Q):TD P n F0 w0 ops (.e i l) Rf e Rs Q:=by
 refine LS ho hw (Ef.callE hc hs hr hd) ?_;rintro _ _ ⟨v,A',N,hR,rfl,rfl⟩;exact⟨Rf,fun w hw=>hw.sel is (hf v A' N hR),fun _ h=>h,h v A' N hR⟩
theorem Kt  (ho:ops[i]? = some ⟨some d,.call cl,ty,pos,af,gd⟩) (hw:Wd n ops e ⟨some d,.call cl,ty,pos,af,gd⟩ true) (hc:CT P n e ⟨some d,.call cl,ty,pos,af,gd⟩ f vs) (hs:aB P f vs.toArray Y aI (fun v' A' N=>v'=v/\A'=aI/\N = [])) (hr: ∀ w,St F0 w0 Rs w->Y.reads w (fun _=>False)) (hd:Nat.blt d n=true) (h:TL P n F0 w0 ops l ((d,v)::e) Rs Q):TL P n F0 w0 ops (i::l) e Rs Q:=by
 refine LF ho hw (Ef.callE hc hs hr hd) ?_;rintro _ _ ⟨_,_,_,⟨rfl,rfl,rfl⟩,rfl,rfl⟩;exact h
theorem Lh  {l:Sch} (ho:ops[i]? = some ⟨some d,.call cl,ty,pos,af,gd⟩) (hw:Wd n ops e ⟨some d,.call cl,ty,pos,af,gd⟩ true) (hc:CT P n e ⟨some d,.call cl,ty,pos,af,gd⟩ f vs) (hs:aB P f vs.toArray Y aI (fun v' A' N=>v'=v/\A'=aI/\N = [])) (hr: ∀ w,St F0 w0 Rs w->Y.reads w (fun _=>False)) (hd:Nat.blt d n=true) (is:List Nat) (hf:Sel Rs is Rf) (h:TD P n F0 w0 ops l Rf ((d,v)::e) Rs Q):TD P n F0 w0 ops (.e i l) Rf e Rs Q:=by
 refine LS ho hw (Ef.callE hc hs hr hd) ?_;rintro _ _ ⟨_,_,_,⟨rfl,rfl,rfl⟩,rfl,rfl⟩;exact⟨Rf,fun w hw=>hw.sel is (hf),fun _ h=>h,h⟩
end
def cO:Rd Int:=⟨fun _ _ cs n=>cs = [.int .i64 n],fun h _=>h,fun h _=>h⟩
def u8E:Rd Int:=⟨fun _ _ cs n=>cs = [.int .u8 n],fun h _=>h,fun h _=>h⟩
def lF:Rd AI:=⟨fun _ _ cs l=>cs = [.string (aW l)],fun h _=>h,fun h _=>h⟩
def El:Rd Bl:=⟨fun _ _ cs x=>cs = [.bool x.null,.string (aW x.data)],fun h _=>h,fun h _=>h⟩
structure Pfx where
 ME:Int
 MB:Int
 MA:Int
 MQ:Int
 MO:Int
 MC:Int
 Mr:Int
 MK:Int
 Md:Int
 Mf:Int
 Mv:Int
 MR:Int
structure Hd where
 MD:AI
 Mu:Bl
def cA:Rd Hd where
 P:=fun _ _ cs x=>cs = [.string (aW x.MD),.bool x.Mu.null,.string (aW x.Mu.data)]
 mono:=fun h _=>h
 move:=fun h _=>h
structure Rec where
 MH:Int
 My:Int
 MD:Bl
 Mu:Bl
 Ms:List Hd
def cY:Rd Rec where
 P:=fun w S cs x=> ∃ (a:AT) (b:Nat),cs = [.int .i64 x.MH,.int .i64 x.My,.bool x.MD.null,.string (aW x.MD.data),.bool x.Mu.null,.string (aW x.Mu.data),.slice a x.Ms.length b]/\(ar 3 cA).P w S [.slice a x.Ms.length b] x.Ms
 mono:=fun ⟨a,b,e,c⟩ k=>⟨a,b,e,(ar 3 cA).mono c k⟩
 move:=fun ⟨a,b,e,c⟩ k=>⟨a,b,e,(ar 3 cA).move c k⟩
structure fq where
 Mn:Int
 Ml:Int
 Mt:Int
 Mj:Bl
structure dZ where
 Mn:Int
 Ml:Int
 Mt:Int
 Mj:Bl
structure Top where
 Mm:AI
 Me:List Int
def aU:Rd Top where
 P:=fun w S cs x=> ∃ (a:AT) (b:Nat),cs = [.string (aW x.Mm),.slice a x.Me.length b]/\(ar 1 cO).P w S [.slice a x.Me.length b] x.Me
 mono:=fun ⟨a,b,e,c⟩ k=>⟨a,b,e,(ar 1 cO).mono c k⟩
 move:=fun ⟨a,b,e,c⟩ k=>⟨a,b,e,(ar 1 cO).move c k⟩
structure Val where
 Md:Int
 Mf:Int
 Mh:Int
 MU:Int
 Mc:List Top
 MZ:Int
 MY:Int
structure Bat where
 ME:Int
 MA:Int
 MS:Bool
 MI:Bool
 ML:Bool
 MC:Int
 Mr:Int
 MK:Int
 Md:Int
 Mf:Int
 Mv:Int
 Mg:List Rec
def dk:Rd Bat where
 P:=fun w S cs x=> ∃ (a:AT) (b:Nat),cs = [.int .i64 x.ME,.int .i64 x.MA,.bool x.MS,.bool x.MI,.bool x.ML,.int .i64 x.MC,.int .i64 x.Mr,.int .i64 x.MK,.int .i64 x.Md,.int .i64 x.Mf,.int .i64 x.Mv,.slice a x.Mg.length b]/\(ar 7 cY).P w S [.slice a x.Mg.length b] x.Mg
 mono:=fun ⟨a,b,e,c⟩ k=>⟨a,b,e,(ar 7 cY).mono c k⟩
 move:=fun ⟨a,b,e,c⟩ k=>⟨a,b,e,(ar 7 cY).move c k⟩
structure bT where
 Mk:AI
 Md:Int
 Mf:Int
 Mx:Bool
structure lZ where
 MM:Rec
 MV:Int
 MX:Int
structure aV where
 Md:Int
 Mf:Int
 Mx:Bool
 Mc:List Top
 Mo:Int
def bk:Rd aV where
 P:=fun w S cs x=> ∃ (a:AT) (b:Nat),cs = [.int .i64 x.Md,.int .i64 x.Mf,.bool x.Mx,.slice a x.Mc.length b,.int .i64 x.Mo]/\(ar 2 aU).P w S [.slice a x.Mc.length b] x.Mc
 mono:=fun ⟨a,b,e,c⟩ k=>⟨a,b,e,(ar 2 aU).mono c k⟩
 move:=fun ⟨a,b,e,c⟩ k=>⟨a,b,e,(ar 2 aU).move c k⟩
structure aJ where
 Mk:Bl
 Mh:Int
 Md:Int
 Mf:Int
 Mc:List Top
 Mx:Bool
structure bg where
 Mk:Bl
 Mh:Int
 Md:Int
 Mf:Int
structure bl where
 Mw:Int
 Mq:List Bat
def cB:Rd bl where
 P:=fun w S cs x=> ∃ (a:AT) (b:Nat),cs = [.int .i64 x.Mw,.slice a x.Mq.length b]/\(ar 12 dk).P w S [.slice a x.Mq.length b] x.Mq
 mono:=fun ⟨a,b,e,c⟩ k=>⟨a,b,e,(ar 12 dk).mono c k⟩
 move:=fun ⟨a,b,e,c⟩ k=>⟨a,b,e,(ar 12 dk).move c k⟩
structure aM where
 Mm:AI
 Me:List bl
def aT:Rd aM where
 P:=fun w S cs x=> ∃ (a:AT) (b:Nat),cs = [.string (aW x.Mm),.slice a x.Me.length b]/\(ar 2 cB).P w S [.slice a x.Me.length b] x.Me
 mono:=fun ⟨a,b,e,c⟩ k=>⟨a,b,e,(ar 2 cB).mono c k⟩
 move:=fun ⟨a,b,e,c⟩ k=>⟨a,b,e,(ar 2 cB).move c k⟩
structure aC where
 Mk:Bl
 Mz:Int
 Mh:Int
 Mc:List aM
structure ej where
 Mw:Int
 Mq:List Bat
def eu:Rd ej where
 P:=fun w S cs x=> ∃ (a:AT) (b:Nat),cs = [.int .i64 x.Mw,.slice a x.Mq.length b]/\(ar 12 dk).P w S [.slice a x.Mq.length b] x.Mq
 mono:=fun ⟨a,b,e,c⟩ k=>⟨a,b,e,(ar 12 dk).mono c k⟩
 move:=fun ⟨a,b,e,c⟩ k=>⟨a,b,e,(ar 12 dk).move c k⟩
structure co where
 Mm:AI
 Me:List ej
def ba:Rd co where
 P:=fun w S cs x=> ∃ (a:AT) (b:Nat),cs = [.string (aW x.Mm),.slice a x.Me.length b]/\(ar 2 eu).P w S [.slice a x.Me.length b] x.Me
 mono:=fun ⟨a,b,e,c⟩ k=>⟨a,b,e,(ar 2 eu).mono c k⟩
 move:=fun ⟨a,b,e,c⟩ k=>⟨a,b,e,(ar 2 eu).move c k⟩
structure aX where
 Mk:Bl
 Mz:Int
 Mh:Int
 Mc:List co
structure bK where
 Md:Int
 Mf:Int
 Mx:Bool
 Mc:List Top
 Mo:Int
def bd:Rd bK where
 P:=fun w S cs x=> ∃ (a:AT) (b:Nat),cs = [.int .i64 x.Md,.int .i64 x.Mf,.bool x.Mx,.slice a x.Mc.length b,.int .i64 x.Mo]/\(ar 2 aU).P w S [.slice a x.Mc.length b] x.Mc
 mono:=fun ⟨a,b,e,c⟩ k=>⟨a,b,e,(ar 2 aU).mono c k⟩
 move:=fun ⟨a,b,e,c⟩ k=>⟨a,b,e,(ar 2 aU).move c k⟩
structure bU where
 Mk:AI
 Md:Int
 Mf:Int
 Mc:List Top
structure jZ where
 MT:Bat
 MV:Int
 MX:Int
structure aH where
 Mi:fq
 MG:bg
 MJ:bU
 MN:bT
 MF:List aV
 Mp:aC
def du:Rd aH where
 P:=fun w S cs x=> ∃ (a:AT) (b:Nat) (c:AT) (d:Nat) (A2:AT) (c2:Nat),cs = [.int .i64 x.Mi.Mn,.int .i64 x.Mi.Ml,.int .i64 x.Mi.Mt,.bool x.Mi.Mj.null,.string (aW x.Mi.Mj.data),.bool x.MG.Mk.null,.string (aW x.MG.Mk.data),.int .i64 x.MG.Mh,.int .i64 x.MG.Md,.int .i64 x.MG.Mf,.string (aW x.MJ.Mk),.int .i64 x.MJ.Md,.int .i64 x.MJ.Mf,.slice a x.MJ.Mc.length b,.string (aW x.MN.Mk),.int .i64 x.MN.Md,.int .i64 x.MN.Mf,.bool x.MN.Mx,.slice c x.MF.length d,.bool x.Mp.Mk.null,.string (aW x.Mp.Mk.data),.int .i64 x.Mp.Mz,.int .i64 x.Mp.Mh,.slice A2 x.Mp.Mc.length c2]/\(ar 2 aU).P w S [.slice a x.MJ.Mc.length b] x.MJ.Mc/\(ar 5 bk).P w S [.slice c x.MF.length d] x.MF/\(ar 2 aT).P w S [.slice A2 x.Mp.Mc.length c2] x.Mp.Mc
 mono:=fun ⟨a,b,c,d,A2,c2,e,f,g,h⟩ k=>⟨a,b,c,d,A2,c2,e,(ar 2 aU).mono f k,(ar 5 bk).mono g k,(ar 2 aT).mono h k⟩
 move:=fun ⟨a,b,c,d,A2,c2,e,f,g,h⟩ k=>⟨a,b,c,d,A2,c2,e,(ar 2 aU).move f k,(ar 5 bk).move g k,(ar 2 aT).move h k⟩
structure bE where
 Mi:dZ
 MI:aJ
 MF:List bK
 Mp:aX
def g7:Rd bE where
 P:=fun w S cs x=> ∃ (a:AT) (b:Nat) (c:AT) (d:Nat) (A2:AT) (c2:Nat),cs = [.int .i64 x.Mi.Mn,.int .i64 x.Mi.Ml,.int .i64 x.Mi.Mt,.bool x.Mi.Mj.null,.string (aW x.Mi.Mj.data),.bool x.MI.Mk.null,.string (aW x.MI.Mk.data),.int .i64 x.MI.Mh,.int .i64 x.MI.Md,.int .i64 x.MI.Mf,.slice a x.MI.Mc.length b,.bool x.MI.Mx,.slice c x.MF.length d,.bool x.Mp.Mk.null,.string (aW x.Mp.Mk.data),.int .i64 x.Mp.Mz,.int .i64 x.Mp.Mh,.slice A2 x.Mp.Mc.length c2]/\(ar 2 aU).P w S [.slice a x.MI.Mc.length b] x.MI.Mc/\(ar 5 bd).P w S [.slice c x.MF.length d] x.MF/\(ar 2 ba).P w S [.slice A2 x.Mp.Mc.length c2] x.Mp.Mc
 mono:=fun ⟨a,b,c,d,A2,c2,e,f,g,h⟩ k=>⟨a,b,c,d,A2,c2,e,(ar 2 aU).mono f k,(ar 5 bd).mono g k,(ar 2 ba).mono h k⟩
 move:=fun ⟨a,b,c,d,A2,c2,e,f,g,h⟩ k=>⟨a,b,c,d,A2,c2,e,(ar 2 aU).move f k,(ar 5 bd).move g k,(ar 2 ba).move h k⟩
structure gJ where
 MP:bE
 MV:Int
 MX:Int
structure qr where
 MW:List bE
 M0:Int
 MX:Int
structure ew where
 fmany:Int
 fat:Int
structure aO where
 fcount:ew
 fheld:AI
 ferr:Int
theorem bt {b:Bool} (h:b=false):(!b)=true:=by rw[h]; rfl
theorem bc {b:Bool} (h:b=true):(!b)=false:=by rw[h]; rfl
theorem ifT {α:Type} {c:Prop} [Decidable c] {x y z:α} (hc:c) (h:(if c then x else y)=z):x=z:=by rwa [QM hc] at h
theorem ifF {α:Type} {c:Prop} [Decidable c] {x y z:α} (hc: ¬ c) (h:(if c then x else y)=z):y=z:=by rwa [QO hc] at h
theorem dy {α:Type} (l:List α) (p:Nat):(l.drop p).take (l.length - p)=l.drop p:=by rw[<- Nb,List.take_length]
section
variable {P:Program} {n:Nat} {F0:Nat->Prop} {w0:World} {e:Env} {Rs Rf:List Res} {Q:Exit->Act->World->Prop} {ops:Array Oper} {i d:Nat} {ty t t' el:TypeId} {pos:String} {af:Array Edge} {gd:Option (Nat×Bool)} {v v':Value} {x y:Operand} {l:List Nat} {lo:Sch} {c:Code} {S:World->Prop}
theorem Ex.bEq {d:Option Tmp} {a b p q:Bool} (hx:e.ev x=some (.bool a)) (ha:a=p) (hy:e.ev y=some (.bool b)) (hb:b=q) (hu: ∀ w,(underlying t).run P w= .ok .bool w):Ex P n e S ⟨d,.binOp .eql t x y t',ty,pos,af,gd⟩ (.bool (p == q)):=by
 intro A w h _;subst ha hb;have c: ∀ k,(Op.equalIn (k+1) t (.bool a) (.bool b)).run P w= .ok (a == b) w:=by
  intro k;simp only[Op.equalIn,Sem.run_bind,hu,Result.andThen_ok];rfl
 have f:(Op.equal t (.bool a) (.bool b)).run P w= .ok (a == b) w:=c 9999;have g:(binOp .eql t (.bool a) (.bool b)).run P w= .ok (.bool (a == b)) w:=by
  simp only[binOp,Sem.run_bind,f,Result.andThen_ok,Sem.run_pure]
 simp only[execOp,h.ev hx,h.ev hy,eqGuard];simp[g]
theorem Lv {d:Option Tmp} {a b p q:Bool} (hx:e.ev x=some (.bool a)) (ha:a=p) (hy:e.ev y=some (.bool b)) (hb:b=q) (hu: ∀ w,(underlying t).run P w= .ok .bool w):Ex P n e S ⟨d,.binOp .neq t x y t',ty,pos,af,gd⟩ (.bool (!(p == q))):=by
 intro A w h _;subst ha hb;have c: ∀ k,(Op.equalIn (k+1) t (.bool a) (.bool b)).run P w= .ok (a == b) w:=by
  intro k;simp only[Op.equalIn,Sem.run_bind,hu,Result.andThen_ok];rfl
 have f:(Op.equal t (.bool a) (.bool b)).run P w= .ok (a == b) w:=c 9999;have g:(binOp .neq t (.bool a) (.bool b)).run P w= .ok (.bool (!(a == b))) w:=by
  simp only[binOp,Sem.run_bind,f,Result.andThen_ok,Sem.run_pure]
 simp only[execOp,h.ev hx,h.ev hy,eqGuard];simp[g]
theorem KK (is:List Nat) {Rs':List Res} (hr:Sel Rs is Rs') (h:TL P n F0 w0 ops l e Rs' Q):TL P n F0 w0 ops l e Rs Q:=fun a w ha hs=>h a w ha (hs.sel is hr)
theorem Lg (is:List Nat) {Rs':List Res} (hr:Sel Rs is Rs') (h:TD P n F0 w0 ops lo Rf e Rs' Q):TD P n F0 w0 ops lo Rf e Rs Q:=fun a w ha hs=>h a w ha (hs.sel is hr)
theorem LX (is:List Nat) {Rs':List Res} (hr:Sel Rs is Rs') (h:T P n F0 w0 e Rs' c Q):T P n F0 w0 e Rs c Q:=fun a w ha hs=>h a w ha (hs.sel is hr)
theorem KX {z:Exit} (is:List Nat) {Rs':List Res} (hr:Sel Rs is Rs') (h:X n F0 w0 e Rs' z Q):X n F0 w0 e Rs z Q:=fun a w ha hs=>h a w ha (hs.sel is hr)
theorem Has.as {a:Act} (ha:Has n e a) (hv:e.get d=some v) (h:v=v'):Has n ((d,v')::e) a:=ha.sub (fun t u hu=>by
 simp only[Env.get] at hu
 cases hb:Nat.beq d t with
 | true =>
  rw[hb] at hu;obtain rfl:=Nat.eq_of_beq_eq_true hb;injection hu with hu;rw[hv,h,hu]
 | false=>rw[hb] at hu; exact hu)
theorem TD.as (hv:e.get d=some v) (h:v=v') (k:TD P n F0 w0 ops lo Rf ((d,v')::e) Rs Q):TD P n F0 w0 ops lo Rf e Rs Q:=fun a w ha hs=>k a w (ha.as hv h) hs
theorem Kl {α:Type} {z:Exit} (size:Nat) (E:Rd α) (h:X n F0 w0 e (RdR (ar size E) [A5] []::Rs) z Q):X n F0 w0 e Rs z Q:=fun a w ha hs=>h a w ha (RdR.nil size E hs)
theorem Ll {α:Type} {z:Exit} {E:Rd α} {size:Nat} {T:TypeId} {u:Value} {xs:List α} (hp:0<size) (i:Nat) (hi:Rs[i]? = some (bC T size E u xs)) (h:X n F0 w0 e (Rs.set i (RdR (ar size E) [u] xs)) z Q):X n F0 w0 e Rs z Q:=fun a w ha hs=>h a w ha (bC.shut hp i hs hi)
theorem bz.of_blk {b:Nat} {w:World} {G:Nat->Prop} (h:(aR b 112 #[A5,.int .i64 0]).P w G):(bz b ([],0)).P w G:=by
 obtain⟨a,c⟩:=h;exact⟨_,a,World.ownsRow_nil _ _ _ _,fun k=>by simp[c k,Value.ownBlock]⟩
theorem LU {zv:Value} (ho:ops[i]? = some ⟨some d,.alloc t,ty,pos,af,gd⟩) (hw:Wd n ops e ⟨some d,.alloc t,ty,pos,af,gd⟩ true) (hz: ∀ w,(zeroValue t).run P w= .ok zv w) (hd:Nat.blt d n=true)
 (h: ∀ b,TL P n F0 w0 ops l ((d,.pointer (some ⟨b,0,none⟩))::e) (bz b ([],0)::Rs) Q) (ht:t=112:=by rfl) (hzv:zv= .agg #[A5,.int .i64 0]:=by rfl):TL P n F0 w0 ops (i::l) e Rs Q:=by
 refine TL.alloc ho hw hz hd (fun b=> ?_);intro a w ha hs;subst ht hzv;exact h b a w ha (hs.weaken 0 rfl (fun G hG=>bz.of_blk hG))
section
variable {α:Type} {E:Rd α} {sl:Operand} {T z bytes g ii jj:Nat} {zv:Value} {A:AT} {cp:Nat} {Rs':List Res} {B:Res}
theorem L2 (ii:Nat) {us:List Value} {u:α} {l:List α} {lr:List Nat} (ho:ops[i]? = some ⟨some d,.call ⟨.builtin .append,#[sl,x],#[t,t]⟩,ty,pos,af,gd⟩) (hw:Wd n ops e ⟨some d,.call ⟨.builtin .append,#[sl,x],#[t,t]⟩,ty,pos,af,gd⟩ true)
 (hu:P.underlying t=some (.slice T)) (hinfo:(P.info? T).map (fun i=>(i.zero,i.size,i.bytes))=some (some zv,z,bytes)) (hzv:zv.cells.size=z) (hp:0<z)
 (hs:e.ev sl=some (.slice A l.length cp)) (hx:e.ev x=some (.slice (some ⟨g,0,none⟩) 1 1)) (hR:Rs=aR g T us.toArray::Rs') (hi:Rs'[ii]? = some (bC T z E (.slice A l.length cp) l)) (hl:us.length=z) (hq:us.all (·.oneCell')=true) (hE: ∀ w S,E.P w S us u) (hb:(l.length+1)*bytes<=140737488355328) (hm:l.length+1<=140737488355328) (hd:Nat.blt d n=true)
 (h: ∀ A' c',TL P n F0 w0 ops lr ((d,.slice A' (l ++ [u]).length c')::e) (Rs'.set ii (bC T z E (.slice A' (l ++ [u]).length c') (l ++ [u]))) Q):TL P n F0 w0 ops (i::lr) e Rs Q:=by
 refine LF ho hw (Ef.app1 ii hu hinfo hzv hp hs hx hR hi hl hq hE hb hm hd) ?_;rintro _ _ ⟨A',c',rfl,rfl⟩;exact h A' c'
theorem Ly (ii jj:Nat) {us:List Value} {u:α} {l:List α} {lr:List Nat} (ho:ops[i]? = some ⟨some d,.call ⟨.builtin .append,#[sl,x],#[t,t]⟩,ty,pos,af,gd⟩) (hw:Wd n ops e ⟨some d,.call ⟨.builtin .append,#[sl,x],#[t,t]⟩,ty,pos,af,gd⟩ true)
 (hu:P.underlying t=some (.slice T)) (hinfo:(P.info? T).map (fun i=>(i.zero,i.size,i.bytes))=some (some zv,z,bytes)) (hzv:zv.cells.size=z) (hp:0<z)
 (hs:e.ev sl=some (.slice A l.length cp)) (hx:e.ev x=some (.slice (some ⟨g,0,none⟩) 1 1)) (hR:Rs=aR g T us.toArray::Rs') (hi:Rs'[ii]? = some (bC T z E (.slice A l.length cp) l)) (hj:(Rs'.eraseIdx ii)[jj]? = some B) (hl:us.length=z) (hq:us.all (·.oneCell')=true) (hE: ∀ w G,B.P w G->E.P w G us u) (hb:(l.length+1)*bytes<=140737488355328) (hm:l.length+1<=140737488355328) (hd:Nat.blt d n=true)
 (h: ∀ A' c',TL P n F0 w0 ops lr ((d,.slice A' (l ++ [u]).length c')::e) (bC T z E (.slice A' (l ++ [u]).length c') (l ++ [u])::(Rs'.eraseIdx ii).eraseIdx jj) Q):TL P n F0 w0 ops (i::lr) e Rs Q:=by
 refine LF ho hw (Ef.app2 ii jj hu hinfo hzv hp hs hx hR hi hj hl hq hE hb hm hd) ?_;rintro _ _ ⟨A',c',rfl,rfl⟩;exact h A' c'
theorem LP (ii:Nat) {us:List Value} {u:α} {l:List α} {lr:Sch} (ho:ops[i]? = some ⟨some d,.call ⟨.builtin .append,#[sl,x],#[t,t]⟩,ty,pos,af,gd⟩) (hw:Wd n ops e ⟨some d,.call ⟨.builtin .append,#[sl,x],#[t,t]⟩,ty,pos,af,gd⟩ true)
 (hu:P.underlying t=some (.slice T)) (hinfo:(P.info? T).map (fun i=>(i.zero,i.size,i.bytes))=some (some zv,z,bytes)) (hzv:zv.cells.size=z) (hp:0<z)
 (hs:e.ev sl=some (.slice A l.length cp)) (hx:e.ev x=some (.slice (some ⟨g,0,none⟩) 1 1)) (hR:Rs=aR g T us.toArray::Rs') (hi:Rs'[ii]? = some (bC T z E (.slice A l.length cp) l)) (hl:us.length=z) (hq:us.all (·.oneCell')=true) (hE: ∀ w S,E.P w S us u) (hb:(l.length+1)*bytes<=140737488355328) (hm:l.length+1<=140737488355328) (hd:Nat.blt d n=true)
 (is:List Nat) (hf: ∀ A' c',Sel (Rs'.set ii (bC T z E (.slice A' (l ++ [u]).length c') (l ++ [u]))) is Rf)
 (h: ∀ A' c',TD P n F0 w0 ops lr Rf ((d,.slice A' (l ++ [u]).length c')::e) (Rs'.set ii (bC T z E (.slice A' (l ++ [u]).length c') (l ++ [u]))) Q):TD P n F0 w0 ops (.e i lr) Rf e Rs Q:=by
 refine LS ho hw (Ef.app1 ii hu hinfo hzv hp hs hx hR hi hl hq hE hb hm hd) ?_;rintro _ _ ⟨A',c',rfl,rfl⟩;exact⟨Rf,fun w hw=>hw.sel is (hf A' c'),fun _ h=>h,h A' c'⟩
theorem L3 (ii jj:Nat) {us:List Value} {u:α} {l:List α} {lr:Sch} (ho:ops[i]? = some ⟨some d,.call ⟨.builtin .append,#[sl,x],#[t,t]⟩,ty,pos,af,gd⟩) (hw:Wd n ops e ⟨some d,.call ⟨.builtin .append,#[sl,x],#[t,t]⟩,ty,pos,af,gd⟩ true)
 (hu:P.underlying t=some (.slice T)) (hinfo:(P.info? T).map (fun i=>(i.zero,i.size,i.bytes))=some (some zv,z,bytes)) (hzv:zv.cells.size=z) (hp:0<z)
 (hs:e.ev sl=some (.slice A l.length cp)) (hx:e.ev x=some (.slice (some ⟨g,0,none⟩) 1 1)) (hR:Rs=aR g T us.toArray::Rs') (hi:Rs'[ii]? = some (bC T z E (.slice A l.length cp) l)) (hj:(Rs'.eraseIdx ii)[jj]? = some B) (hl:us.length=z) (hq:us.all (·.oneCell')=true) (hE: ∀ w G,B.P w G->E.P w G us u) (hb:(l.length+1)*bytes<=140737488355328) (hm:l.length+1<=140737488355328) (hd:Nat.blt d n=true)
 (is:List Nat) (hf: ∀ A' c',Sel (bC T z E (.slice A' (l ++ [u]).length c') (l ++ [u])::(Rs'.eraseIdx ii).eraseIdx jj) is Rf)
 (h: ∀ A' c',TD P n F0 w0 ops lr Rf ((d,.slice A' (l ++ [u]).length c')::e) (bC T z E (.slice A' (l ++ [u]).length c') (l ++ [u])::(Rs'.eraseIdx ii).eraseIdx jj) Q):TD P n F0 w0 ops (.e i lr) Rf e Rs Q:=by
 refine LS ho hw (Ef.app2 ii jj hu hinfo hzv hp hs hx hR hi hj hl hq hE hb hm hd) ?_;rintro _ _ ⟨A',c',rfl,rfl⟩;exact⟨Rf,fun w hw=>hw.sel is (hf A' c'),fun _ h=>h,h A' c'⟩
end
variable (P n F0 w0) in
def RV (e:Env) (Rs:List Res) (r:ResultVar) (v:Value):Prop:= ∀ a w,Has n e a->St F0 w0 Rs w->(resv a.tmps r).run P w= .ok v w
theorem Kd {k:Nat} (hv:e.get k=some v):RV P n F0 w0 e Rs (.tmp k) v:=by
 intro a w ha hs;have b:=ha.at_ k v hv;simp[resv,b]
theorem Kz (i:Nat) {k b T:Nat} {us:Array Value} {z:Nat} (hk:e.get k=some (.pointer (some ⟨b,0,none⟩))) (ha: ∀ w,(isAgg t).run P w= .ok true w) (hz: ∀ w,(sizeOf t).run P w= .ok z w) (hi:Rs[i]? = some (aR b T us)) (hl:us.size=z):RV P n F0 w0 e Rs (.cell k t) (.agg us):=by
 intro a w h hs;have c:=h.at_ k _ hk;have hb:=hs.blk i hi;have d:=sS (P:=P) (t:=t) (w:=w) (ad:=⟨b,0,none⟩) (cs:=us.toList) ha (by intro w; rw[hz]; simp[hl]) (fun j u hj=>by
  have f:(⟨b,0,none⟩:Addr).add j=⟨b,j,none⟩:=by unfold Addr.add; split <;> simp_all
  rw[f,bp hb];simpa using hj)
 simp[resv,c,asAddr,d]
section
variable {f:Func} {R:Value->Res->List Res->Prop} {A':Res} {Ns:List Res} {r1 r2 r3 r4:ResultVar} {v1 v2 v3 v4:Value} {z:Exit}
theorem X.fin (hR:R v A' Ns) (is:List Nat) (hr:Sel Rs is (A'::Ns)) (hx:z= .ret\/z= .normal) (h: ∀ a w,Has n e a->St F0 w0 Rs w->(results f a.tmps).run P w= .ok v w):X n F0 w0 e Rs z (bodyPost P f (rY R F0 w0)):=by
 intro a w ha hs;have h:bodyPost P f (rY R F0 w0) .ret a w:=⟨ha.df,v,h a w ha hs,v,A',Ns,rfl,hR,hs.sel is hr⟩;rcases hx with rfl | rfl <;> exact h
theorem Ks (is:List Nat) (hf:f.results= #[r1]) (b:RV P n F0 w0 e Rs r1 v1) (hR:R v1 A' Ns) (hr:Sel Rs is (A'::Ns)) (hx:z= .ret\/z= .normal):X n F0 w0 e Rs z (bodyPost P f (rY R F0 w0)) :=
 X.fin hR is hr hx (fun a w ha hs=>by rw[o6,hf]; simp[b a w ha hs])
theorem KR (is:List Nat) (hf:f.results= #[r1,r2]) (b:RV P n F0 w0 e Rs r1 v1) (c:RV P n F0 w0 e Rs r2 v2) (hR:R (.tuple #[v1,v2]) A' Ns) (hr:Sel Rs is (A'::Ns)) (hx:z= .ret\/z= .normal):X n F0 w0 e Rs z (bodyPost P f (rY R F0 w0)) :=
 X.fin hR is hr hx (fun a w ha hs=>by rw[o6,hf]; simp[b a w ha hs,c a w ha hs])
theorem KO (is:List Nat) (hf:f.results= #[r1,r2,r3]) (b:RV P n F0 w0 e Rs r1 v1) (c:RV P n F0 w0 e Rs r2 v2) (d:RV P n F0 w0 e Rs r3 v3) (hR:R (.tuple #[v1,v2,v3]) A' Ns) (hr:Sel Rs is (A'::Ns)) (hx:z= .ret\/z= .normal):X n F0 w0 e Rs z (bodyPost P f (rY R F0 w0)) :=
 X.fin hR is hr hx (fun a w ha hs=>by rw[o6,hf]; simp[b a w ha hs,c a w ha hs,d a w ha hs])
end
theorem BOK.mk {zv:Value} {fs:Array Field} {pl:List (Nat×Nat)} {zs:Array Value} (hz: ∀ w,(zeroValue t).run P w= .ok zv w) (hu: ∀ w,(underlying t).run P w= .ok (.struct fs) w) (hp: ∀ w,(fs.mapM (fun f=>do pure (f.offset,<- sizeOf f.type)):Sem (Array (Nat×Nat))).run P w= .ok pl.toArray w) (hzs:zv.cells=zs:=by rfl):BOK P t zs pl:=by
 intro parts cells w h;subst hzs;simp only[Instr.build,Sem.run_bind,hz,Result.andThen_ok,hu,hp];have a:(fun (i:Nat)=>(pl.toArray)[i]?)=(fun (i:Nat)=>pl[i]?):=by funext i; simp
 simp[a,h]
theorem SOK.mk {T m z:Nat} {zv:Value} {zs:Array Value} (hu: ∀ w,(underlying t).run P w= .ok (.slice T) w) (hz: ∀ w,(sizeOf T).run P w= .ok z w) (hzv: ∀ w,(zeroValue T).run P w= .ok zv w) (hm:0<m*z/\m*z<=16777216) (hzs:(Array.range (m*z)).map (fun i=>zv.cells[i % zv.cells.size]!)=zs):SOK P t T m z zs:=by
 intro parts cells w h;have a: ¬ (m*z>2 ^ 24):=by omega
 have b: ¬ (m*z=0):=by omega
 subst hzs;simp only[Instr.buildSlice,Sem.run_bind,hu,hz,Result.andThen_ok,a,if_false,b,hzv,Sem.run_pure];simp[h,newRow]
end
def eqV:Value->Value->Option Bool
 | .int k a,.int k' b=>if k=k' then some (decide (a=b)) else none
 | .bool a,.bool b=>some (decide (a=b))
 | .string a,.string b=>some (decide (a.toList=b.toList))
 | _,_=>none
def eqL:List Value->List Value->Option Bool
 | [],[]=>some true
 | x::xs,y::ys=>match eqV x y with
  | some true=>eqL xs ys
  | some false=>some false
  | none=>none
 | _,_=>none
theorem pF {k:IntKind} {a b:Int} (h:a=b):eqV (.int k a) (.int k b)=some true:=by simp[eqV,h]
theorem C0 {k:IntKind} {a b:Int} (h: ¬ a=b):eqV (.int k a) (.int k b)=some false:=by simp[eqV,h]
theorem pG {a b:Bool} (h:a=b):eqV (.bool a) (.bool b)=some true:=by simp[eqV,h]
theorem tS {a b:Bool} (h: ¬ a=b):eqV (.bool a) (.bool b)=some false:=by simp[eqV,h]
theorem sU {l m:AI} (h:l=m):eqV (.string (aW l)) (.string (aW m))=some true:=by simp[eqV,h]
theorem sf {l m:AI} (h: ¬ l=m):eqV (.string (aW l)) (.string (aW m))=some false:=by simp[eqV,fy,h]
theorem fm {x y:Value} {xs ys:List Value} {b:Bool} (h:eqV x y=some true) (r:eqL xs ys=some b):eqL (x::xs) (y::ys)=some b:=by simp[eqL,h,r]
theorem mi {x y:Value} {xs ys:List Value} (h:eqV x y=some false):eqL (x::xs) (y::ys)=some false:=by simp[eqL,h]
theorem wU: ∀ {xs ys xs' ys':List Value} {b:Bool},xs.length=ys.length->eqL (xs++xs') (ys++ys')=some b-> ∃ c,eqL xs ys=some c/\(if c then eqL xs' ys' else some false)=some b
 | [],[],xs',ys',b,_,h=>⟨true,rfl,by simpa using h⟩
 | x::xs,y::ys,xs',ys',b,hl,h=>by
  simp only[List.cons_append,eqL] at h ⊢
  cases hv:eqV x y with
  | none=>rw[hv] at h; cases h
  | some c =>
   cases c with
   | true =>
    rw[hv] at h;exact wU (by simpa using hl) h
   | false =>
    rw[hv] at h;exact⟨false,rfl,by simpa using h⟩
def okD:TypeDesc->Value->Bool
 | .int _,.int _ _=>true
 | .bool,.bool _=>true
 | .string,.string _=>true
 | _,_=>false
def ot:List TypeDesc->List Value->Bool
 | [],[]=>true
 | d::ds,v::vs=>okD d v && ot ds vs
 | _,_=>false
theorem lG: ∀ {ds:List TypeDesc} {vs:List Value},ot ds vs=true->vs.length=ds.length
 | [],[],_=>rfl
 | d::ds,v::vs,h=>by
  simp only[ot,Bool.and_eq_true] at h;simp[lG h.2]
theorem wV: ∀ {ds ds':List TypeDesc} {vs:List Value},ot (ds++ds') vs=true->ot ds (vs.take ds.length)=true/\ot ds' (vs.drop ds.length)=true
 | [],ds',vs,h=>by simpa [ot] using h
 | d::ds,ds',[],h=>by simp[ot] at h
 | d::ds,ds',v::vs,h=>by
  simp only[List.cons_append,ot,Bool.and_eq_true] at h;have:=wV h.2;simp[ot,h.1,this]
def mkV (agg:Bool) (xs:List Value):Value:=if agg then .agg xs.toArray else xs.headD undef
structure iH (P:Program) (k:Nat) (t:TypeId) (ds:List TypeDesc) (agg:Bool):Prop where
 ia: ∀ w,(isAgg t).run P w= .ok agg w
 sz: ∀ w,(sizeOf t).run P w= .ok ds.length w
 one:agg=false->ds.length=1
 eq: ∀ (d:Nat) (xs ys:List Value) (b:Bool) (w:World),k<=d->ot ds xs=true->ot ds ys=true->eqL xs ys=some b->(Op.equalIn d t (mkV agg xs) (mkV agg ys)).run P w= .ok b w
section
variable {P:Program} {t:TypeId}
theorem Jf {x y:Value} {b:Bool} (h:eqL [x] [y]=some b):eqV x y=some b:=by
 simp only[eqL] at h
 cases hv:eqV x y with
 | none=>rw[hv] at h; cases h
 | some c=>cases c <;> (rw[hv] at h; exact h)
theorem len1 {xs:List Value} (h:xs.length=1): ∃ x,xs = [x]:=by
 match xs,h with
 | [x],_=>exact⟨x,rfl⟩
theorem Fy {c:TypeDesc} (hu:P.underlying t=some c) (d:Nat) (x y:Value) (b:Bool) (w:World) (hx:okD c x=true) (hy:okD c y=true) (h:eqV x y=some b):(Op.equalIn (d+1) t x y).run P w= .ok b w:=by
 cases c <;> cases x <;> first | (simp[okD] at hx; done) | skip;all_goals cases y <;> first | (simp[okD] at hy; done) | skip
 ·simp only[eqV,Option.some.injEq] at h;subst h;rw[run_equalIn_bool' w d t _ _ hu];rfl
 ·rename_i q k a k' b';simp only[eqV] at h;split at h
  ·rename_i hk;subst hk;injection h with h;subst h;rw[run_equalIn_int w d t k _ a b' hu];rfl
  ·cases h
 ·simp only[eqV,Option.some.injEq] at h;subst h;rw[run_equalIn_string w d t _ _ hu];congr 1;rename_i p q;by_cases hpq:p.toList=q.toList <;> simp[hpq]
theorem Ls {a:TypeDesc} (ia: ∀ w,(isAgg t).run P w= .ok false w) (sz: ∀ w,(sizeOf t).run P w= .ok 1 w) (hu:P.underlying t=some a):iH P 1 t [a] false:=by
 refine⟨ia,sz,fun _=>rfl,?_⟩;intro d xs ys b w hd hx hy h;obtain⟨x,rfl⟩:=len1 (by simpa using lG hx);obtain⟨y,rfl⟩:=len1 (by simpa using lG hy);obtain⟨d,rfl⟩: ∃ d',d=d'+1:=⟨d - 1,by omega⟩;exact Fy hu d x y b w (by simpa [ot] using hx) (by simpa [ot] using hy) (Jf h)
def C1 (P:Program) (k:Nat):Nat->List Field->List TypeDesc->Prop
 | _,[],ds=>ds = []
 | off, f :: fs, ds => f.name ≠ "_" /\ f.offset = off /\ ∃ a b agg, ds = a ++ b /\ iH P k f.type a agg /\ C1 P k (off + a.length) fs b
theorem BE {ty:TypeId} {ds:List TypeDesc} {agg:Bool} {k:Nat} (hf:iH P k ty ds agg) (xs:List Value) (off:Nat) (w:World) (hl:off+ds.length<=xs.length):(part ty xs.toArray off).run P w= .ok (mkV agg ((xs.drop off).take ds.length)) w:=by
 cases agg with
 | true =>
  have a:=hf.ia w;simp only[part,Sem.run_bind,a,Result.andThen_ok,if_true,hf.sz w,Sem.run_pure,mkV];congr 2;apply Array.ext';simp[List.extract_eq_take_drop]
 | false =>
  have a:=hf.ia w;have c:=hf.one rfl;have b:off<xs.length:=by omega
  have d:((xs.drop off).take 1).headD undef=xs[off]:=by
   rw[List.drop_eq_getElem_cons b];rfl
  simp only[part,Sem.run_bind,a,Result.andThen_ok,Bool.false_eq_true,if_false,mkV,c,d];simp[b]
theorem wW {k:Nat}: ∀ {fs:List Field} {ds:List TypeDesc} {off:Nat},C1 P k off fs ds-> ∀ (d:Nat) (xs ys:List Value) (b:Bool) (w:World),k<=d->xs.length=off+ds.length->ys.length=off+ds.length ->
 ot ds (xs.drop off)=true->ot ds (ys.drop off)=true->eqL (xs.drop off) (ys.drop off)=some b->(Op.eqFields d xs.toArray ys.toArray fs).run P w= .ok b w
 | [],ds,off,hf,d,xs,ys,b,w,hd,hx,hy,ox,oy,h=>by
  obtain rfl:ds = []:=hf;rw[List.drop_of_length_le (by simp at hx; omega),List.drop_of_length_le (by simp at hy; omega)] at h;injection h with h;subst h;rfl
 | f::fs,ds,off,hf,d,xs,ys,b,w,hd,hx,hy,ox,oy,h=>by
  obtain⟨hn,ho,e,p,agg,rfl,hF,hr⟩:=hf;rw[M8] at hx hy;have ox':=wV ox;have oy':=wV oy;have g:xs.drop off=(xs.drop off).take e.length++xs.drop (off+e.length):=by rw[<- NM,List.take_append_drop]
  have i:ys.drop off=(ys.drop off).take e.length++ys.drop (off+e.length):=by rw[<- NM,List.take_append_drop]
  rw[g,i] at h;obtain⟨c,j,a⟩:=wU (by simp; omega) h;have l:=BE hF xs off w QI;have m:=BE hF ys off w QI;have n:=hF.eq d _ _ c w hd ox'.1 oy'.1 j;simp only[Op.eqFields,hn,ne_eq,not_false_eq_true,if_true,Sem.run_bind,ho,l,Result.andThen_ok,m,n,Sem.run_ite]
  cases c with
  | false =>
   simp only[Bool.false_eq_true,if_false] at a;injection a with a;subst a;rfl
  | true =>
   simp only[if_true] at a;have o:=wW hr d xs ys b w hd QI QI (by rw[<- NM]; exact ox'.2) (by rw[<- NM]; exact oy'.2) a;simpa using o
theorem iH.struct {k:Nat} {fs:Array Field} {ds:List TypeDesc} (ia: ∀ w,(isAgg t).run P w= .ok true w) {z:Nat} (sz: ∀ w,(sizeOf t).run P w= .ok z w) (hz:ds.length=z) (hu:P.underlying t=some (.struct fs)) (hp:P.stoodInHeld t=false) (hf:C1 P k 0 fs.toList ds):iH P (k+1) t ds true:=by
 subst hz;refine⟨ia,sz,fun h=>(by cases h),?_⟩;intro d xs ys b w hd hx hy h;obtain⟨d,rfl⟩: ∃ d',d=d'+1:=⟨d - 1,by omega⟩;have e:P.fieldsOf t=fs:=by simp[Program.fieldsOf,hu]
 simp only[mkV,if_true];rw[run_equalIn_agg w d t _ _ (by rw[e]; exact hu) hp,e];exact wW hf d xs ys b w QI (by simpa using lG hx) (by simpa using lG hy) hx hy h
theorem iH.mono {k k':Nat} {ds:List TypeDesc} {agg:Bool} (h:iH P k t ds agg) (hk:k<=k'):iH P k' t ds agg:=⟨h.ia,h.sz,h.one,fun d xs ys b w hd=>h.eq d xs ys b w QI⟩
end
section
variable {P:Program} {n:Nat} {F0:Nat->Prop} {w0:World} {e:Env} {Rs Rf:List Res} {Q:Exit->Act->World->Prop} {ops:Array Oper} {d:Option Tmp} {i:Nat} {ty t t' el:TypeId} {pos:String} {af:Array Edge} {gd:Option (Nat×Bool)} {v v':Value} {x y:Operand} {l:List Nat} {lo:Sch} {c:Code} {S:World->Prop}
theorem LE {k:Nat} {ds:List TypeDesc} {us vs:List Value} {b:Bool} (hF:iH P k t ds true) (hk:Nat.ble k 10000=true) (hG:P.eqGuardType P.depth t=false) (hx:e.ev x=some (.agg us.toArray)) (hy:e.ev y=some (.agg vs.toArray)) (ou:ot ds us=true) (ov:ot ds vs=true) (h:eqL us vs=some b) :
 Ex P n e S ⟨d,.binOp .eql t x y t',ty,pos,af,gd⟩ (.bool b):=by
 intro a w ha _;have c:=hF.eq 10000 us vs b w (Nat.le_of_ble_eq_true hk) ou ov h;simp only[mkV,if_true] at c;simp only[execOp,ha.ev hx,ha.ev hy,Sem.run_bind];rw[run_eqGuard_agg w .eql t x y _ _ hG];simp only[Result.andThen_ok];rw[run_eql_struct w t _ _,c];rfl
theorem L5 {k:Nat} {ds:List TypeDesc} {us vs:List Value} {b:Bool} (hF:iH P k t ds true) (hk:Nat.ble k 10000=true) (hG:P.eqGuardType P.depth t=false) (hx:e.ev x=some (.agg us.toArray)) (hy:e.ev y=some (.agg vs.toArray)) (ou:ot ds us=true) (ov:ot ds vs=true) (h:eqL us vs=some b) :
 Ex P n e S ⟨d,.binOp .neq t x y t',ty,pos,af,gd⟩ (.bool (!b)):=by
 intro a w ha _;have c:=hF.eq 10000 us vs b w (Nat.le_of_ble_eq_true hk) ou ov h;simp only[mkV,if_true] at c;simp only[execOp,ha.ev hx,ha.ev hy,Sem.run_bind];rw[run_eqGuard_agg w .neq t x y _ _ hG];simp only[Result.andThen_ok];rw[run_neq_struct w t _ _,c];rfl
theorem Wd.gu {op:Op} {j k:Nat} {want:Bool} (hj:(ops[j]?).bind (·.dst)=some k) (hv:e.get k=some undef):Wd n ops e ⟨d,op,ty,pos,af,some (j,want)⟩ false:=by
 intro a h;simp only[Region.wanted,yielded,hj,M3,h.at_ k _ hv];rfl
theorem SOK.mk0 {T:Nat} {z:Nat} (hu: ∀ w,(underlying t).run P w= .ok (.slice T) w) (hz: ∀ w,(sizeOf T).run P w= .ok z w):SOK P t T 0 z #[]:=by
 intro parts cells w h;have a: ∀ f:Nat->Value,Array.map f (Array.range 0)= #[]:=by intro f; simp
 simp only[Instr.buildSlice,Sem.run_bind,hu,hz,Result.andThen_ok,Nat.zero_mul,Sem.run_pure];simp[a,h,newRow]
end
def l6 {α:Type} (B:Res) (E:Rd α) (g q:Nat) (cs:List Value) (x:α):Res where
 P:=fun w G=>B.P w G/\G g/\(∀ j,j<cs.length->w.cell? ⟨g,q+j,none⟩=cs[j]?)/\E.P w G cs x
 lt:=fun h=>B.lt h.1
 move:=fun {w w' G} h hm=>⟨B.move h.1 hm,h.2.1,fun j hj=>by
  rw[<- h.2.2.1 j hj];simp only[World.cell?,hm g h.2.1],E.move h.2.2.2 hm⟩
section
variable {P:Program} {n:Nat} {F0:Nat->Prop} {w0 w:World} {e:Env} {Rs Rf:List Res} {Q:Exit->Act->World->Prop} {ops:Array Oper} {d:Option Tmp} {i:Nat} {ty t t' el:TypeId} {pos:String} {af:Array Edge} {gd:Option (Nat×Bool)} {v v':Value} {y z:Operand} {l:List Nat} {lo:Sch} {c:Code} {S:World->Prop}
variable {α:Type} {E:Rd α} {B:Res} {A:AT} {m cp size k:Nat} {xs:List α} {x:α}
theorem foc_P {G:Nat->Prop} (hG:B.P w G) (hB:(RX.of (ar size E) [.slice A m cp] xs).P w G) (hp:0<size) (hx:xs[k]? = some x): ∃ g o cs,A=some ⟨g,o,none⟩/\cs.length=size/\(∃ S,E.P w S cs x)/\(l6 B E g (o+k*size) cs x).P w G:=by
 rcases hB with⟨h,rfl⟩ | ⟨a,cap,h,_,_,hb,c⟩
 ·simp at hx
 ·injection h with h;injection h with f q r;subst f;have hl:0<xs.length:=by have:=(M6 hx).1; omega
  obtain⟨cs0,s,i,_⟩:=c 0 xs[0] (List.getElem?_eq_getElem hl);have b:=i 0 hp;rw[List.getElem?_eq_getElem QI] at b;have l:a.add (0*size+0)=a:=by simp[Addr.add]
  rw[l] at b;have d:=tG b;obtain⟨cs,n,p,e⟩:=c k x hx;refine⟨a.block,a.off,cs,by rw[<- d],n,⟨G,e⟩,hG,hb hl,fun j hj=> ?_,e⟩;rw[<- p j QI,d,WideShapes.add_plain,Nat.add_assoc]
theorem St.foc (i:Nat) (h:St F0 w0 Rs w) (hi:Rs[i]? = some B) (hB: ∀ w G,B.P w G->(RX.of (ar size E) [.slice A m cp] xs).P w G) (hp:0<size) (hx:xs[k]? = some x) :
 ∃ g o cs,A=some ⟨g,o,none⟩/\cs.length=size/\(∃ w S,E.P w S cs x)/\St F0 w0 (Rs.set i (l6 B E g (o+k*size) cs x)) w:=by
 obtain⟨f,hs⟩:=h;obtain⟨G,a,b,c⟩:=Sep.pick i hi hs;obtain⟨g,o,cs,d,e,⟨S,j⟩,l⟩:=foc_P a (hB w G a) hp hx;exact⟨g,o,cs,d,e,⟨w,S,j⟩,f,Sep.back i hi l b c⟩
theorem LZ (i:Nat) (hi:Rs[i]? = some B) (hB: ∀ w G,B.P w G->(RX.of (ar size E) [.slice A m cp] xs).P w G) (hp:0<size) (hx:xs[k]? = some x)
 (h: ∀ g o cs,A=some ⟨g,o,none⟩->cs.length=size->(∃ w S,E.P w S cs x)->T P n F0 w0 e (Rs.set i (l6 B E g (o+k*size) cs x)) c Q):T P n F0 w0 e Rs c Q:=by
 intro a w ha hs;obtain⟨g,o,cs,b,d,f,j⟩:=hs.foc i hi hB hp hx;exact h g o cs b d f a w ha j
theorem LO (i:Nat) (hi:Rs[i]? = some B) (hB: ∀ w G,B.P w G->(RX.of (ar size E) [.slice A m cp] xs).P w G) (hp:0<size) (hx:xs[k]? = some x)
 (h: ∀ g o cs,A=some ⟨g,o,none⟩->cs.length=size->(∃ w S,E.P w S cs x)->TL P n F0 w0 ops l e (Rs.set i (l6 B E g (o+k*size) cs x)) Q):TL P n F0 w0 ops l e Rs Q:=by
 intro a w ha hs;obtain⟨g,o,cs,b,c,d,f⟩:=hs.foc i hi hB hp hx;exact h g o cs b c d a w ha f
theorem St.unf {q g:Nat} {cs:List Value} (i:Nat) (h:St F0 w0 Rs w) (hi:Rs[i]? = some (l6 B E g q cs x)):St F0 w0 (Rs.set i B) w:=h.weaken i hi (fun G hG=>hG.1)
theorem T.unf {q g:Nat} {cs:List Value} (i:Nat) (hi:Rs[i]? = some (l6 B E g q cs x)) (h:T P n F0 w0 e (Rs.set i B) c Q):T P n F0 w0 e Rs c Q:=fun a w ha hs=>h a w ha (hs.unf i hi)
theorem TL.unf {q g:Nat} {cs:List Value} (i:Nat) (hi:Rs[i]? = some (l6 B E g q cs x)) (h:TL P n F0 w0 ops l e (Rs.set i B) Q):TL P n F0 w0 ops l e Rs Q:=fun a w ha hs=>h a w ha (hs.unf i hi)
theorem X.unf {q g:Nat} {cs:List Value} {o:Exit} (i:Nat) (hi:Rs[i]? = some (l6 B E g q cs x)) (h:X n F0 w0 e (Rs.set i B) o Q):X n F0 w0 e Rs o Q:=fun a w ha hs=>h a w ha (hs.unf i hi)
theorem LA {q g:Nat} {cs:List Value} (i j:Nat) (hy:e.ev y=some (.pointer (some ⟨g,q+j,none⟩))) (ha: ∀ w,(isAgg t).run P w= .ok false w) (hi:Rs[i]? = some B) (hB: ∀ w G,B.P w G-> ∀ j,j<cs.length->w.cell? ⟨g,q+j,none⟩=cs[j]?) (hv:cs[j]? = some v):Ex P n e (St F0 w0 Rs) ⟨d,.load t y,ty,pos,af,gd⟩ v :=
 Ex.ld1 hy ha (fun w hw=>by
  obtain⟨G,a,_⟩:=hw.get i hi;exact (hB w G a j (M6 hv).1).trans hv)
end
def RX.blk (b:Nat) (T:TypeId) (cs:Array Value):RX:=⟨fun w S=>w.heap[b]? = some (.cells cs T (0,0))/\S b,fun h k=>⟨h.1,k _ h.2⟩,fun h k=>⟨(k _ h.2).trans h.1,h.2⟩⟩
theorem yW {b:Nat} {T:TypeId} {cs:Array Value}: ∀ w G,(aR b T cs).P w G->(RX.blk b T cs).P w G:=fun _ _ h=>⟨h.1,(h.2 _).2 rfl⟩
section
variable {P:Program} {n:Nat} {F0:Nat->Prop} {w0 w:World} {e:Env} {Rs Rf:List Res} {Q:Exit->Act->World->Prop} {ops:Array Oper} {d:Option Tmp} {i:Nat} {ty t t' el:TypeId} {pos:String} {af:Array Edge} {gd:Option (Nat×Bool)} {v v':Value} {x y z:Operand} {l:List Nat} {lo:Sch} {c:Code} {S:World->Prop}
theorem Em {b:Nat} {T:TypeId} {cs:Array Value} (hX:(RX.blk b T cs).reads w0 F0) (h:St F0 w0 Rs w):w.heap[b]? = some (.cells cs T (0,0)):=by
 obtain⟨S,⟨d,a⟩,c⟩:=hX;exact (h.fr.block b (c b a).2 (c b a).1).trans d
theorem Ex.xb1 {b o:Nat} {T:TypeId} {cs:Array Value} (hX:(RX.blk b T cs).reads w0 F0) (hx:e.ev x=some (.pointer (some ⟨b,o,none⟩))) (ha: ∀ w,(isAgg t).run P w= .ok false w) (hv:cs[o]? = some v):Ex P n e (St F0 w0 Rs) ⟨d,.load t x,ty,pos,af,gd⟩ v :=
 Ex.ld1 hx ha (fun w hw=>(bp (Em hX hw) o).trans hv)
theorem Ex.xbS {b o z:Nat} {T:TypeId} {cs:Array Value} {us:List Value} (hX:(RX.blk b T cs).reads w0 F0) (hx:e.ev x=some (.pointer (some ⟨b,o,none⟩))) (ha: ∀ w,(isAgg t).run P w= .ok true w) (hz: ∀ w,(sizeOf t).run P w= .ok z w)
 (hv:(cs.toList.drop o).take z=us) (hl:Nat.beq us.length z=true):Ex P n e (St F0 w0 Rs) ⟨d,.load t x,ty,pos,af,gd⟩ (.agg us.toArray):=by
 refine Ex.ldS hx ha hz (Nat.eq_of_beq_eq_true hl) (fun w hw j u hj=> ?_);have a:(⟨b,o,none⟩:Addr).add j=⟨b,o+j,none⟩:=by unfold Addr.add; split <;> simp_all
 rw[a,bp (Em hX hw)];subst hv;rw[List.getElem?_take] at hj;split at hj
 ·rw[List.getElem?_drop] at hj;simpa using hj
 ·cases hj
theorem Ex.mkI {fs:Array Field} (hx:e.ev x=some v) (hu: ∀ w,(underlying t).run P w= .ok (.struct fs) w):Ex P n e S ⟨d,.makeInterface t x,ty,pos,af,gd⟩ (.iface t v):=by
 intro a w ha _;simp[execOp,ha.ev hx,Instr.makeInterface,hu]
theorem wX {nm:String} {f:FuncId} {fs:Array Field} {k:Nat} (hn:P.types.size+Made.depth=k+1) (hm:((P.info? t).bind fun i=>i.methods.find? (·.name == nm)).map (fun m=>(m.path.isEmpty,m.func))=some (true,some (f,false))) (hu: ∀ w,(underlying t).run P w= .ok (.struct fs) w) (u:Value) (w:World) :
 (method (P.types.size+Made.depth) t u nm).run P w= .ok (f,u) w:=by
 obtain⟨m,b,a⟩:=Option.map_eq_some_iff.1 hm;obtain⟨ti,c,d⟩:=M1 b;simp only[Prod.mk.injEq] at a;obtain⟨e,g⟩:=a;have h:m.path.toList = []:=by
  have:m.path= #[]:=by simpa using e
  simp[this]
 rw[hn];simp only[method,Sem.run_bind,typeInfo];simp[c,d,h,follow,g,receiverAt,hu,Place.get]
end
section
variable {P:Program} {n:Nat} {F0:Nat->Prop} {w0 w:World} {e:Env} {Rs:List Res} {d:Option Tmp} {ty t t' el:TypeId} {pos:String} {af:Array Edge} {gd:Option (Nat×Bool)} {x y:Operand} {S:World->Prop}
theorem Ex.mulw {k:IntKind} {p q:Int} (hx:e.ev x=some (.int k p)) (hy:e.ev y=some (.int k q)):Ex P n e S ⟨d,.binOp .mul t x y t',ty,pos,af,gd⟩ (.int k (k.wrap (p*q))):=by
 intro a w ha _;simp[execOp,ha.ev hx,ha.ev hy,eqGuard,binOp,Op.intArith]
theorem Ex.remK {k:IntKind} {p q:Int} (hx:e.ev x=some (.int k p)) (hy:e.ev y=some (.int k q)) (hq:1<=q) (h:0<=p):Ex P n e S ⟨d,.binOp .rem t x y t',ty,pos,af,gd⟩ (.int k (p % q)):=by
 intro a w ha _;have b: ¬ q=0:=by omega
 simp[execOp,ha.ev hx,ha.ev hy,eqGuard,binOp,Op.intDiv,b,IntWalk.rem_in _ _ h]
end
section
variable {P:Program} {n:Nat} {F0:Nat->Prop} {w0:World} {e e':Env} {Rs Rs':List Res} {Q:Exit->Act->World->Prop} {c:Code} {d:Nat} {v v':Value}
def JK (n:Nat) (F0:Nat->Prop) (w0:World) (R:Env->List Res->Prop) (a:Act) (w:World):Prop:= ∃ e Rs,R e Rs/\Has n e a/\St F0 w0 Rs w
theorem K7 (R:Env->List Res->Prop) (h:T P n F0 w0 e Rs c (Exit.then (JK n F0 w0 R) Q)) (k: ∀ e' Rs',R e' Rs'->X n F0 w0 e' Rs' .normal Q):T P n F0 w0 e Rs c Q:=by
 intro a w ha hs;refine wp_mono (h a w ha hs) ?_;intro x a' w' hx;cases x <;> first | exact hx | skip;obtain⟨e',Rs',hR,ha',hs'⟩:=hx;exact k e' Rs' hR a' w' ha' hs'
theorem X.jq {R:Env->List Res->Prop} (is:List Nat) (hR:R e' Rs') (he:Sub e' e) (hr:Sel Rs is Rs'):X n F0 w0 e Rs .normal (Exit.then (JK n F0 w0 R) Q):=fun a w ha hs=>⟨e',Rs',hR,ha.sub he.get,hs.sel is hr⟩
theorem K3 {z:Exit} (hv:e.get d=some v) (h:v=v') (k:X n F0 w0 ((d,v')::e) Rs z Q):X n F0 w0 e Rs z Q:=fun a w ha hs=>k a w (ha.as hv h) hs
end
section
variable {P:Program} {n:Nat} {F0:Nat->Prop} {w0:World} {e:Env} {Rs:List Res} {S:World->Prop} {d:Option Tmp} {ty:TypeId} {pos:String} {af:Array Edge} {gd:Option (Nat×Bool)} {v:Value} {x y ix:Operand} {t t' el:TypeId}
theorem Ex.ixP {g o m z k:Nat} {i:Int} {q:IntKind} (hx:e.ev x=some (.pointer (some ⟨g,o,none⟩))) (hi:e.ev ix=some (.int q i)) (hik:i=(k:Int)) (hu: ∀ w,(underlying t).run P w= .ok (.array m el) w) (hz: ∀ w,(sizeOf el).run P w= .ok z w) (hk:k<m) :
 Ex P n e S ⟨d,.indexAddr t x ix,ty,pos,af,gd⟩ (.pointer (some ⟨g,o+k*z,none⟩)):=by
 intro a w ha _;subst hik;have b:(0:Int)<=(k:Int)/\(k:Int)<(m:Int):=by omega
 have c:(⟨g,o,none⟩:Addr).add (k*z)=⟨g,o+k*z,none⟩:=by unfold Addr.add; split <;> simp_all
 have f:(Instr.indexAt t (.pointer (some ⟨g,o,none⟩)) (.int q (k:Int))).run P w= .ok (.pointer (some ⟨g,o+k*z,none⟩)) w:=by
  simp only[Instr.indexAt,asIntOf,Sem.run_bind,Sem.run_pure,Result.andThen_ok,hu,Instr.sureAddr];rw[QM b];simp only[Sem.run_bind,hz,Result.andThen_ok,Nu,c,Sem.run_pure]
 simp[execOp,ha.ev hx,ha.ev hi,f]
theorem Ln {g o m c z k:Nat} {i:Int} {q:IntKind} (hx:e.ev x=some (.slice (some ⟨g,o,none⟩) m c)) (hi:e.ev ix=some (.int q i)) (hik:i=(k:Int)) (hu: ∀ w,(underlying t).run P w= .ok (.slice el) w) (hz: ∀ w,(sizeOf el).run P w= .ok z w) (hk:k<m) {r:Nat} (hr:o+k*z=r) :
 Ex P n e S ⟨d,.indexAddr t x ix,ty,pos,af,gd⟩ (.pointer (some ⟨g,r,none⟩)):=by
 subst hr;exact KB hx hi hik hu hz hk
end
open Go.RowKit Go.Deep Go.ChangeShapes
def g8 {α:Type} (w0:World) (S:Nat->Prop) (E:Rd α):Rd α where
 P:=fun w G cs x=> ∀ W:World,(∀ k,G k->W.heap[k]? = w.heap[k]?)->(∀ k,S k->W.heap[k]? = w0.heap[k]?)->E.P W (fun k=>G k\/S k) cs x
 mono:=fun h hS W a b=>E.mono (h W (fun k hk=>a k (hS k hk)) b) (fun k hk=>hk.imp (hS k) id)
 move:=fun h hm W a b=>h W (fun k hk=>(a k hk).trans (hm k hk)) b
def RX.old (w0:World) (S:Nat->Prop) (X:RX):RX where
 P:=fun w G=> ∀ W:World,(∀ k,G k->W.heap[k]? = w.heap[k]?)->(∀ k,S k->W.heap[k]? = w0.heap[k]?)->X.P W (fun k=>G k\/S k)
 mono:=fun h hS W a b=>X.mono (h W (fun k hk=>a k (hS k hk)) b) (fun k hk=>hk.imp (hS k) id)
 move:=fun h hm W a b=>h W (fun k hk=>(a k hk).trans (hm k hk)) b
section
variable {α:Type} {w0 w w1:World} {S G F:Nat->Prop} {E:Rd α} {cs:List Value} {x:α} {X Y:RX} {size:Nat}
theorem C2 (h:E.P w0 S cs x):(g8 w0 S E).P w G cs x:=fun W _ a=>E.mono (E.move h a) (fun k hk=> .inr hk)
theorem Jg (h:E.P w G cs x):(g8 w0 S E).P w G cs x:=fun W a _=>E.mono (E.move h a) (fun k hk=> .inl hk)
theorem yX {xs:List α} (h:(ar size (g8 w0 S E)).P w G cs xs):(g8 w0 S (ar size E)).P w G cs xs:=by
 intro W b c;rcases h with h | ⟨a,cap,d,f,g,hb,hr⟩
 ·exact .inl h
 ·refine .inr ⟨a,cap,d,f,g,fun hl=> .inl (hb hl),fun i x hx=> ?_⟩;obtain⟨cs,k,l,m⟩:=hr i x hx;refine⟨cs,k,fun j hj=> ?_,m W b c⟩;have hl:0<xs.length:=by have:=(M6 hx).1; omega
  rw[<- l j hj];have e:(a.add (i*size+j)).block=a.block:=block_add _ _;simp only[World.cell?,e,b _ (hb hl)]
theorem GK (h: ∀ k,S k->w1.heap[k]? = w0.heap[k]?):g8 w1 S E=g8 w0 S E:=by
 unfold g8;congr 1;funext w G cs x;apply propext;constructor
 ·exact fun hp W a b=>hp W a (fun k hk=>(b k hk).trans (h k hk).symm)
 ·exact fun hp W a b=>hp W a (fun k hk=>(b k hk).trans (h k hk))
theorem GL {T:TypeId} {v:Value} {xs:List α} (hp:0<size): ∀ w G,(bC T size (g8 w0 S E) v xs).P w G->(RX.old w0 S (RX.of (ar size E) [v] xs)).P w G:=fun w G h=>yX (bB hp w G h)
theorem Ad: ∀ w G,(RdR (g8 w0 S E) cs x).P w G->(RX.old w0 S (RX.of E cs x)).P w G:=fun w G h=>h.1
theorem L6 {A:AT} {n c i:Nat} {l:List α} (hp:0<size) (h:(RX.of (ar size E) [.slice A n c] l).P w S) (hF: ∀ k,S k-> ¬ F k/\k<w.heap.size) (hx:l[i]? = some x) :
 ∃ g o:Nat,A=some ⟨g,o,none⟩/\ ∃ cs,cs.length=size/\(∀ j,j<size->w.cell? ⟨g,o+i*size+j,none⟩=cs[j]?)/\(¬ F g/\g<w.heap.size)/\(RX.of E cs x).P w S:=by
 rcases h with⟨h,rfl⟩ | ⟨a,cap,h,_,_,hb,d⟩
 ·simp at hx
 ·injection h with h;injection h with f t u;subst f;have hl:0<l.length:=by have:=(M6 hx).1; omega
  obtain⟨cs0,v,m,_⟩:=d 0 l[0] (List.getElem?_eq_getElem hl);have b:=m 0 hp;rw[List.getElem?_eq_getElem QI] at b;have p:a.add (0*size+0)=a:=by simp[Addr.add]
  rw[p] at b;have e:=tG b;obtain⟨cs,q,r,s⟩:=d i x hx;refine⟨a.block,a.off,by rw[<- e],cs,q,fun j hj=> ?_,hF _ (hb hl),s⟩;rw[<- r j hj,e,WideShapes.add_plain,Nat.add_assoc]
end
structure RO where
 α:Type
 E:Rd α
 cs:List Value
 x:α
def RO.res (w0:World) (S:Nat->Prop) (o:RO):Res:=RdR (g8 w0 S o.E) o.cs o.x
def wY (P:Program) (f:FuncId) (args:Array Value) (X:RX) (A:Res) (R:Value->Res->List RO->Prop):Prop :=
 ∀ F w S,A.P w F->X.P w S->(∀ k,S k-> ¬ F k/\k<w.heap.size)->Calls P f args w (rY (fun v A' N=> ∃ L,R v A' L/\N=L.map (RO.res w S)) F w)
section
variable {P:Program} {n:Nat} {F0:Nat->Prop} {w0 w:World} {S:Nat->Prop} {e:Env} {Rs Rs' Rf Bs:List Res} {L:List RO} {B:Res} {Xr Y:RX}
theorem L8 (j:Nat) (hs:St F0 w0 Rs w) (hj:Rs[j]? = some B) (hB: ∀ w G,B.P w G->(RX.old w0 S Xr).P w G) (hF: ∀ k,S k-> ¬ F0 k/\k<w0.heap.size):Xr.reads w (fun _=>False):=by
 obtain⟨a,b,c⟩:=hs.get j hj;have hfr:=hs.fr;refine⟨fun k=>a k\/S k,hB w a b w (fun _ _=>rfl) (fun k hk=>hfr.block k (hF k hk).2 (hF k hk).1),fun k hk=>⟨fun h=>h,?_⟩⟩;rcases hk with hk | hk
 ·exact B.lt b k hk
 ·exact Nat.lt_of_lt_of_le (hF k hk).2 hfr.size
variable {d:Option Tmp} {ty:TypeId} {pos:String} {af:Array Edge} {gd:Option (Nat×Bool)} {R:Value->Res->List RO->Prop}
theorem Ef.callSo {op:Op} {f:FuncId} {vs:List Value} (hc:CT P n e ⟨d,op,ty,pos,af,gd⟩ f vs) (hs:wY P f vs.toArray Y aI R) (hY:Y.P w0 S) (hF: ∀ k,S k-> ¬ F0 k/\k<w0.heap.size) (hd:okd d n=true) :
 Ef P n F0 w0 e Rs ⟨d,op,ty,pos,af,gd⟩ (fun e' Rs'=> ∃ v A' L,R v A' L/\e'=nW d v e/\Rs'=L.map (RO.res w0 S)++Rs):=by
 intro a w K Q ha hst hk;unfold Oper.wp;rw[hc a w ha];have hfr:=hst.fr;have hag: ∀ k,S k->w.heap[k]? = w0.heap[k]? := fun k hk=>hfr.block k (hF k hk).2 (hF k hk).1;refine (hs (fun _=>False) w S (fun _ h=>h) (Y.move hY hag) (fun k hk=>⟨fun h=>h,Nat.lt_of_lt_of_le (hF k hk).2 hfr.size⟩)).mono ?_;rintro x w' ⟨v,A',N,rfl,⟨L,hq,rfl⟩,hst'⟩;have c:L.map (RO.res w S)=L.map (RO.res w0 S):=List.map_congr_left (fun o _=>by unfold RO.res; rw[GK hag]);have b:=hst'.drop_;rw[c] at b;exact hk _ _ ⟨v,A',L,hq,rfl,rfl⟩ _ _ (ha.putd hd) (hst.grow b.fr (b.sep.mono (fun k hk=>hk.elim (fun h=>h.elim) id)))
variable {Q:Exit->Act->World->Prop} {ops:Array Oper} {i dd:Nat} {cl:Call} {f:FuncId} {vs:List Value}
theorem TL.cso {l:List Nat} (ho:ops[i]? = some ⟨some dd,.call cl,ty,pos,af,gd⟩) (hw:Wd n ops e ⟨some dd,.call cl,ty,pos,af,gd⟩ true) (hc:CT P n e ⟨some dd,.call cl,ty,pos,af,gd⟩ f vs) (hs:wY P f vs.toArray Y aI R) (hY:Y.P w0 S) (hF: ∀ k,S k-> ¬ F0 k/\k<w0.heap.size) (hd:Nat.blt dd n=true)
 (h: ∀ v A' L,R v A' L->TL P n F0 w0 ops l ((dd,v)::e) (L.map (RO.res w0 S)++Rs) Q):TL P n F0 w0 ops (i::l) e Rs Q:=by
 refine LF ho hw (Ef.callSo hc hs hY hF hd) ?_;rintro _ _ ⟨v,A',L,hR,rfl,rfl⟩;exact h v A' L hR
theorem TD.cso {l:Sch} (ho:ops[i]? = some ⟨some dd,.call cl,ty,pos,af,gd⟩) (hw:Wd n ops e ⟨some dd,.call cl,ty,pos,af,gd⟩ true) (hc:CT P n e ⟨some dd,.call cl,ty,pos,af,gd⟩ f vs) (hs:wY P f vs.toArray Y aI R) (hY:Y.P w0 S) (hF: ∀ k,S k-> ¬ F0 k/\k<w0.heap.size) (hd:Nat.blt dd n=true)
 (is:List Nat) (hf: ∀ v A' L,R v A' L->Sel (L.map (RO.res w0 S)++Rs) is Rf) (h: ∀ v A' L,R v A' L->TD P n F0 w0 ops l Rf ((dd,v)::e) (L.map (RO.res w0 S)++Rs) Q):TD P n F0 w0 ops (.e i l) Rf e Rs Q:=by
 refine LS ho hw (Ef.callSo hc hs hY hF hd) ?_;rintro _ _ ⟨v,A',L,hR,rfl,rfl⟩;exact⟨Rf,fun w hw=>hw.sel is (hf v A' L hR),fun _ h=>h,h v A' L hR⟩
variable {α:Type} {E:Rd α} {size:Nat} {T:TypeId} {u:Value} {xs:List α}
theorem X.shutO {z:Exit} (hp:0<size) (i:Nat) (hi:Rs[i]? = some (bC T size (g8 w0 S E) u xs)) (h:X n F0 w0 e (Rs.set i (RdR (g8 w0 S (ar size E)) [u] xs)) z Q):X n F0 w0 e Rs z Q:=fun a w ha hs =>
 h a w ha (hs.weaken i hi (fun G hG=>⟨yX (bB hp _ _ hG),fun k hk=>(bC T size (g8 w0 S E) u xs).lt hG k hk⟩))
theorem Lz {z:Exit} {cs:List Value} {x:α} (i:Nat) (hi:Rs[i]? = some (RdR E cs x)) (h:X n F0 w0 e (Rs.set i (RdR (g8 w0 S E) cs x)) z Q):X n F0 w0 e Rs z Q:=fun a w ha hs =>
 h a w ha (hs.weaken i hi (fun G hG=>⟨Jg hG.1,hG.2⟩))
theorem X.oldrd {z:Exit} {cs:List Value} {x:α} (hX:(RX.of E cs x).P w0 S) (h:X n F0 w0 e (RdR (g8 w0 S E) cs x::Rs) z Q):X n F0 w0 e Rs z Q:=fun a w ha hs =>
 h a w ha (hs.grow (Ns := [RdR (g8 w0 S E) cs x]) (Fr.refl _ _) ⟨fun _=>False,⟨C2 hX,fun _ h=>h.elim⟩,fun _ h=>h.elim,trivial⟩)
end
theorem C3 {P:Program} {f n:Nat} {fn:Func} {c:Code} {args:List Value} {Xr:RX} {A:Res} {R:Value->Res->List RO->Prop} (hf:P.funcs[f]? = some fn) (hb:fn.body=some c) (hn:fn.ntmps=n)
 (hl:Nat.ble args.length n=true) (h: ∀ F w S,Xr.P w S->(∀ k,S k-> ¬ F k/\k<w.heap.size)->T P n F w (yV 0 args) [A] c (bodyPost P fn (rY (fun v A' N=> ∃ L,R v A' L/\N=L.map (RO.res w S)) F w))):wY P f args.toArray Xr A R:=by
 intro F w S hA hX hSF;refine calls_of_wp hf hb ?_;have hl':args.length<=n:=Nat.le_of_ble_eq_true hl;refine h F w S hX hSF _ w ⟨rfl,?_,fun t v hv=> ?_⟩ (aB.start hA)
 ·simp only[Array.size_append,Array.size_replicate,hn,List.size_toArray];omega
 ·have a:args.toArray[t]? = some v:=by simpa using (tR args 0 t v hv).2
  have b:=(Array.getElem?_eq_some_iff.1 a).1;rw[Array.getElem?_append_left b];exact a
section
variable {α:Type} {size:Nat} {E:Rd α} {w:World} {S:Nat->Prop}
theorem yY: ∀ {xs:List α} {cs new:List Value} {k:Nat} {x x':α},ka size E w S cs xs->xs[k]? = some x->new.length=size->E.P w S new x'->ka size E w S (cs.take (k*size)++new++cs.drop ((k+1)*size)) (xs.set k x')
 | [],_,_,k,_,_,_,hk,_,_=>by simp at hk
 | y::ys,cs,new,0,x,x',⟨a,_,b⟩,_,hn,hx=>by
  rw[Nat.zero_mul,List.take_zero,Nm,Nat.zero_add,Nat.one_mul]
  exact⟨by rw[List.take_append_of_le_length QI,List.take_of_length_le QI]; exact hn,by rw[List.take_append_of_le_length QI,List.take_of_length_le QI]; exact hx,
   by rw[List.drop_append_of_le_length QI,List.drop_of_length_le QI]; exact b⟩
 | y::ys,cs,new,k+1,x,x',⟨a,d,b⟩,hk,hn,hx=>by
  have hle:size<=cs.length:=by rw[Np] at a; omega
  have ih:=yY (k:=k) (x:=x) b (by simpa using hk) hn hx;have hc:cs=cs.take size++cs.drop size:=(List.take_append_drop size cs).symm;have c:(cs.take size).length=size:=a;have e:cs.take ((k+1)*size)=cs.take size++(cs.drop size).take (k*size):=by
   conv=>lhs; rw[hc]
   rw[List.take_append,c,show (k+1)*size - size=k*size by rw[Nat.add_mul]; omega,List.take_of_length_le (by rw[c,Nat.add_mul]; omega)]
  have f:cs.drop ((k+1+1)*size)=(cs.drop size).drop ((k+1)*size):=by
   rw[NM,show size+(k+1)*size=(k+1+1)*size by rw[Nat.add_mul (k+1)]; omega]
  rw[e,f,Nd,Nd,<- Nd ((cs.drop size).take (k*size))]
  exact⟨by rw[List.take_append_of_le_length QI,List.take_of_length_le QI]; exact a,by rw[List.take_append_of_le_length QI,List.take_of_length_le QI]; exact d,
   by rw[List.drop_append_of_le_length QI,List.drop_of_length_le QI,Nm]; exact ih⟩
theorem bC.stored {T m c g o k off q:Nat} {G:Nat->Prop} {xs:List α} {x x':α} {us:List Value} (h:(bC T size E (.slice (some ⟨g,o,none⟩) m c) xs).P w G) (hk:xs[k]? = some x) (hq:q=o+k*size+off) (hl:off+us.length<=size)
 (hE: ∀ w S cs,cs.length=size->E.P w S cs x->E.P w S (cs.take off++us++cs.drop (off+us.length)) x') :
 ∃ cur,w.heap[g]? = some (.cells cur T (0,0))/\q+us.length<=cur.size/\(∀ k,k=g->G k)/\(bC T size E (.slice (some ⟨g,o,none⟩) m c) (xs.set k x')).P (w.setRow g (cur.toList.take q++us++cur.toList.drop (q+us.length)).toArray) G:=by
 obtain⟨cells,S,⟨hlen,hown⟩,a,j,b,d⟩:=h;rcases hown with⟨hv,_⟩ | ⟨g',cap,cur,hv,hb0,hg,hnc,hcm,hcs,htk⟩
 ·cases hv
 injection hv with hv1 hv2 hv3;injection hv1 with hv1;injection hv1 with hv4 hv5;subst hv4 hv5 hv2 hv3;have hkl:k<xs.length:=(M6 hk).1;have hks:(k+1)*size<=xs.length*size:=Nat.mul_le_mul_right _ hkl;have hcap:xs.length*size<=c*size:=Nat.mul_le_mul_right _ hnc;have f:(k+1)*size=k*size+size:=by rw[Nat.add_mul,Nat.one_mul]
 have hfit:q+us.length<=cur.size:=by rw[hcs]; omega
 refine⟨cur,hg,hfit,fun k hk=>by subst hk; exact (d _).2 (.inl rfl),?_⟩;obtain⟨i,c2⟩:=tQ a hk;have hgS: ¬ S g:=b g rfl;have hnew:((cells.drop (k*size)).take size).take off++us++((cells.drop (k*size)).take size).drop (off+us.length)=((cells.drop (k*size)).take size).take off++us++((cells.drop (k*size)).take size).drop (off+us.length):=rfl;have hset:=yY a hk (new:=((cells.drop (k*size)).take size).take off++us++((cells.drop (k*size)).take size).drop (off+us.length)) (by simp only[M8,Np,Nb] at i ⊢; omega) (hE w S _ i c2);have hset':ka size E (w.setRow g (cur.toList.take q++us++cur.toList.drop (q+us.length)).toArray) S _ (xs.set k x'):=mM hset (fun k hk=>setRow_other w g k _ (fun e=>hgS (e ▸ hk)));refine⟨_,S,⟨?_,.inr ⟨g,c,_,by rw[List.length_set],hb0,setRow_heap w g cur _ T (0,0) hg,by rw[List.length_set]; exact hnc,hcm,?_,?_⟩⟩,hset',fun k hk=>by rw[size_setRow]; exact j k hk,b,d⟩
 ·have:=mw hset;exact this
 ·simp only[List.size_toArray,M8,Np,Nb,Array.length_toList];omega
 ·rw[List.length_set];have hcl:cur.toList.length=c*size:=by simpa using hcs
  have hcells:cells.length=xs.length*size:=hlen;have r:(cells.drop (k*size)).take size=(cells.drop (k*size)).take size:=rfl;have hq2:q+us.length<=xs.length*size:=by omega
  have r1:cells.take (k*size)++((cells.drop (k*size)).take size).take off=cells.take q:=by
   rw[List.take_take,Nat.min_eq_left QI,<- List.take_add,show k*size+off=q by omega]
  have r2:((cells.drop (k*size)).take size).drop (off+us.length)++cells.drop ((k+1)*size)=cells.drop (q+us.length):=by
   have l:cells.drop ((k+1)*size)=(cells.drop (k*size)).drop size:=by rw[NM,f]
   have n:cells.drop (q+us.length)=(cells.drop (k*size)).drop (off+us.length):=by rw[NM,show k*size+(off+us.length)=q+us.length by omega]
   rw[l,n,<- List.drop_append_of_le_length QI,List.take_append_drop]
  have r3:cells.take (k*size)++(((cells.drop (k*size)).take size).take off++us++((cells.drop (k*size)).take size).drop (off+us.length))++cells.drop ((k+1)*size)=cells.take q++us++cells.drop (q+us.length):=by
   rw[<- r1,<- r2];simp only[Nd]
  rw[r3,<- htk,List.drop_take,List.take_take,Nat.min_eq_left QI];have p:(cur.toList.take q++us).length=q+us.length:=by rw[M8,Np]; omega
  rw[List.toList_toArray,List.take_append,p,List.take_of_length_le QI]
end
section
variable {P:Program} {n:Nat} {F0:Nat->Prop} {w0:World} {e:Env} {Rs Rf:List Res} {Q:Exit->Act->World->Prop} {ops:Array Oper} {d:Option Tmp} {i:Nat} {ty t t' el:TypeId} {pos:String} {af:Array Edge} {gd:Option (Nat×Bool)} {v v':Value} {x y:Operand} {l:List Nat} {lo:Sch} {c:Code} {S:World->Prop}
theorem TD.unf {α:Type} {E:Rd α} {B:Res} {q g:Nat} {cs:List Value} {u:α} (i:Nat) (hi:Rs[i]? = some (l6 B E g q cs u)) (h:TD P n F0 w0 ops lo Rf e (Rs.set i B) Q):TD P n F0 w0 ops lo Rf e Rs Q:=fun a w ha hs=>h a w ha (hs.unf i hi)
section
variable {α:Type} {E:Rd α} {T m cp size g o k off q z:Nat} {xs:List α} {u u':α}
theorem Ef.stE (j:Nat) (off:Nat) (hx:e.ev x=some (.pointer (some ⟨g,q,none⟩))) (hy:e.ev y=some v) (hz: ∀ w,(sizeOf t).run P w= .ok z w) (hi:Rs[j]? = some (bC T size E (.slice (some ⟨g,o,none⟩) m cp) xs)) (hk:xs[k]? = some u) (hq:q=o+k*size+off)
 (hvz:Nat.beq v.cells.size z=true) (hf:Nat.ble (off+v.cells.size) size=true) (ho:v.cells.toList.all (·.oneCell')=true) (hE: ∀ w S cs,cs.length=size->E.P w S cs u->E.P w S (cs.take off++v.cells.toList++cs.drop (off+v.cells.toList.length)) u') :
 Ef P n F0 w0 e Rs ⟨none,.store t x y,ty,pos,af,gd⟩ (fun e' Rs'=>e'=e/\Rs'=Rs.set j (bC T size E (.slice (some ⟨g,o,none⟩) m cp) (xs.set k u'))):=by
 intro a w K Q ha hs hk';have hvz':=Nat.eq_of_beq_eq_true hvz;have hf':off+v.cells.toList.length<=size:=by rw[Array.length_toList]; exact Nat.le_of_ble_eq_true hf
 obtain⟨G,hG,_⟩:=hs.get j hi;obtain⟨cur,c,f,p,r⟩:=bC.stored hG hk hq hf' hE;have d:=run_storeCells_at (P:=P) g q T v.cells.toList 0 cur w c (by simpa using f) (List.all_eq_true.1 ho);have h:(execOp a.eval ⟨none,.store t x y,ty,pos,af,gd⟩).run P w= .ok .skip (w.setRow g (cur.toList.take q++v.cells.toList++cur.toList.drop (q+v.cells.toList.length)).toArray):=by
  simp only[Nat.add_zero] at d;simp[execOp,ha.ev hx,ha.ev hy,Instr.storeAt,Instr.sureAddr,storeVar,hz,hvz',d]
 unfold Oper.wp;rw[h];refine hk' _ _ ⟨rfl,rfl⟩ _ _ ha.put0 (hs.step j hi (Ns := []) (fun G' hG'=> ?_));obtain⟨cur',b,s,i,l⟩:=bC.stored hG' hk hq hf' hE;rw[c] at b;injection b with b;injection b with b;subst b;exact⟨⟨rfl,rfl,rfl,by simp[World.setRow],fun k hk hn=>setRow_other w g k _ (fun e=>hn (i k e))⟩,G',l,fun k hk=> .inl hk,trivial⟩
theorem TL.stE (j:Nat) (off:Nat) {u':α} (ho:ops[i]? = some ⟨none,.store t x y,ty,pos,af,gd⟩) (hw:Wd n ops e ⟨none,.store t x y,ty,pos,af,gd⟩ true) (hx:e.ev x=some (.pointer (some ⟨g,q,none⟩))) (hy:e.ev y=some v) (hz: ∀ w,(sizeOf t).run P w= .ok z w) (hi:Rs[j]? = some (bC T size E (.slice (some ⟨g,o,none⟩) m cp) xs)) (hk:xs[k]? = some u) (hq:q=o+k*size+off)
 (hvz:Nat.beq v.cells.size z=true) (hf:Nat.ble (off+v.cells.size) size=true) (ho':v.cells.toList.all (·.oneCell')=true) (hE: ∀ w S cs,cs.length=size->E.P w S cs u->E.P w S (cs.take off++v.cells.toList++cs.drop (off+v.cells.toList.length)) u')
 (h:TL P n F0 w0 ops l e (Rs.set j (bC T size E (.slice (some ⟨g,o,none⟩) m cp) (xs.set k u'))) Q):TL P n F0 w0 ops (i::l) e Rs Q:=by
 refine LF ho hw (Ef.stE j off hx hy hz hi hk hq hvz hf ho' hE) ?_;rintro _ _ ⟨rfl,rfl⟩;exact h
theorem TD.stE (j:Nat) (off:Nat) {u':α} (ho:ops[i]? = some ⟨none,.store t x y,ty,pos,af,gd⟩) (hw:Wd n ops e ⟨none,.store t x y,ty,pos,af,gd⟩ true) (hx:e.ev x=some (.pointer (some ⟨g,q,none⟩))) (hy:e.ev y=some v) (hz: ∀ w,(sizeOf t).run P w= .ok z w) (hi:Rs[j]? = some (bC T size E (.slice (some ⟨g,o,none⟩) m cp) xs)) (hk:xs[k]? = some u) (hq:q=o+k*size+off)
 (hvz:Nat.beq v.cells.size z=true) (hf:Nat.ble (off+v.cells.size) size=true) (ho':v.cells.toList.all (·.oneCell')=true) (hE: ∀ w S cs,cs.length=size->E.P w S cs u->E.P w S (cs.take off++v.cells.toList++cs.drop (off+v.cells.toList.length)) u')
 (is:List Nat) (hf':Sel (Rs.set j (bC T size E (.slice (some ⟨g,o,none⟩) m cp) (xs.set k u'))) is Rf)
 (h:TD P n F0 w0 ops lo Rf e (Rs.set j (bC T size E (.slice (some ⟨g,o,none⟩) m cp) (xs.set k u'))) Q):TD P n F0 w0 ops (.e i lo) Rf e Rs Q:=by
 refine LS ho hw (Ef.stE j off hx hy hz hi hk hq hvz hf ho' hE) ?_;rintro _ _ ⟨rfl,rfl⟩;exact⟨Rf,fun w hw=>hw.sel is hf',fun _ h=>h,h⟩
end
section
variable {α:Type} {E:Rd α} {T bytes k:Nat} {zv:Value} {u:α} {m:Int} {kl:IntKind} {d':Nat}
theorem wZ {cell:Value} {w:World} {S:Nat->Prop} (hE:E.P w S [cell] u): ∀ k,ka 1 E w S (List.replicate k cell) (List.replicate k u)
 | 0=>rfl
 | k+1=>⟨by simp,by simpa [List.replicate_succ] using hE,by simpa [List.replicate_succ] using wZ hE k⟩
theorem yy (cell:Value) (k:Nat):madeCells #[cell] k=(List.replicate k cell).toArray:=by
 apply Array.ext
 ·simp[madeCells]
 ·intro i a b;simp[madeCells,Nat.mod_one]
theorem Ef.mk1 (E:Rd α) (u:α) (hu:P.underlying t=some (.slice T)) (hinfo:(P.info? T).map (fun i=>(i.zero,i.size,i.bytes))=some (some zv,1,bytes)) (hc:zv.cells= #[v]) (hx:e.ev x=some (.int kl m)) (hm:m=(k:Int)) (hb:bytes*k<=281474976710656) (c:k<=9223372036854775807) (hE: ∀ w S,E.P w S [v] u) (hd:okd d n=true) :
 Ef P n F0 w0 e Rs ⟨d,.makeSlice t x x,ty,pos,af,gd⟩ (fun e' Rs'=> ∃ b,e'=nW d (.slice (some ⟨b,0,none⟩) (List.replicate k u).length (List.replicate k u).length) e/\Rs'=bC T 1 E (.slice (some ⟨b,0,none⟩) (List.replicate k u).length (List.replicate k u).length) (List.replicate k u)::Rs):=by
 intro a w K Q ha hs hk;subst hm;obtain⟨ti,hi,hzz⟩:=Option.map_eq_some_iff.1 hinfo;simp only[Prod.mk.injEq] at hzz;obtain⟨f,g,j⟩:=hzz;subst j;have hb':(ti.bytes:Int)*(k:Int)<=281474976710656:=by
  have h:((ti.bytes*k:Nat):Int)<=281474976710656:=by omega
  rwa [Int.natCast_mul] at h
 have hr:=run_make (P:=P) w t T ti zv hu hi f kl kl k k QI (Int.le_refl _) hb' QI;have l:(execOp a.eval ⟨d,.makeSlice t x x,ty,pos,af,gd⟩).run P w= .ok (.value (.slice (some ⟨w.heap.size,0,none⟩) (List.replicate k u).length (List.replicate k u).length)) (w.alloc (.cells (List.replicate k v).toArray T)):=by
  simp only[Nu,g,Nat.mul_one,hc,yy] at hr;simp[execOp,ha.ev hx,hr]
 unfold Oper.wp;rw[l];refine hk _ _ ⟨_,rfl,rfl⟩ _ _ (ha.putd hd) ?_;exact bC.lit E hs _ _ (by rw[List.length_replicate]; exact c) (by rw[List.toList_toArray]; exact wZ (hE _ _) k)
theorem TL.mk1 (E:Rd α) (u:α) (ho:ops[i]? = some ⟨some d',.makeSlice t x x,ty,pos,af,gd⟩) (hw:Wd n ops e ⟨some d',.makeSlice t x x,ty,pos,af,gd⟩ true) (hu:P.underlying t=some (.slice T)) (hinfo:(P.info? T).map (fun i=>(i.zero,i.size,i.bytes))=some (some zv,1,bytes)) (hc:zv.cells= #[v]) (hx:e.ev x=some (.int kl m)) (hm:m=(k:Int)) (hb:bytes*k<=281474976710656) (a:k<=9223372036854775807) (hE: ∀ w S,E.P w S [v] u) (hd:Nat.blt d' n=true)
 (h: ∀ b,TL P n F0 w0 ops l ((d',.slice (some ⟨b,0,none⟩) (List.replicate k u).length (List.replicate k u).length)::e) (bC T 1 E (.slice (some ⟨b,0,none⟩) (List.replicate k u).length (List.replicate k u).length) (List.replicate k u)::Rs) Q):TL P n F0 w0 ops (i::l) e Rs Q:=by
 refine LF ho hw (Ef.mk1 E u hu hinfo hc hx hm hb a hE hd) ?_;rintro _ _ ⟨b,rfl,rfl⟩;exact h b
end
def bitOp:BinOp->Bool
 | .and | .or | .xor | .andNot=>true
 | _=>false
theorem Ex.bitw {bo:BinOp} {k:IntKind} {p q:Int} (hb:bitOp bo=true) (hx:e.ev x=some (.int k p)) (hy:e.ev y=some (.int k q)):Ex P n e S ⟨d,.binOp bo t x y t',ty,pos,af,gd⟩ (.int k (Go.bits bo k p q)):=by
 intro a w ha _;have b:Op.intBits bo k p q=pure (.int k (Go.bits bo k p q)):=by cases bo <;> first | rfl | exact absurd hb QJ
 have c:(binOp bo t (.int k p) (.int k q)).run P w= .ok (.int k (Go.bits bo k p q)) w:=by
  cases bo <;> first | exact absurd hb QJ | simp only[binOp,b,ne_eq,not_true,if_false,Sem.run_pure]
 have f:eqGuard bo t x y (.int k p) (.int k q)=pure ():=by cases bo <;> first | exact absurd hb QJ | rfl
 simp only[execOp,ha.ev hx,ha.ev hy,f,Sem.run_bind,Sem.run_pure,Result.andThen_ok,c]
def yz (k:IntKind) (p q:Int):Int:=p.fdiv (2 ^ min q.toNat k.bits)
theorem Ex.shr {k k':IntKind} {p q:Int} (hx:e.ev x=some (.int k p)) (hy:e.ev y=some (.int k' q)) (hq:0<=q):Ex P n e S ⟨d,.binOp .shr t x y t',ty,pos,af,gd⟩ (.int k (yz k p q)):=by
 intro a w ha _;have b: ¬ q<0:=by omega
 simp[execOp,ha.ev hx,ha.ev hy,eqGuard,binOp,Op.shift,b,yz]
theorem Ex.notK {k:IntKind} {p:Int} (hx:e.ev x=some (.int k p)):Ex P n e S ⟨d,.unOp .xor t x,ty,pos,af,gd⟩ (.int k (Go.bits .xor k (if k.signed then -1 else k.max) p)):=by
 intro a w ha _;have b:Op.intBits .xor k (if k.signed then -1 else k.max) p=pure (.int k (Go.bits .xor k (if k.signed then -1 else k.max) p)):=rfl;simp[execOp,ha.ev hx,Op.unary,b]
theorem T.blen {α:Type} {E:Rd α} {A:AT} {m cp size:Nat} {xs:List α} {B:Res} (i:Nat) (hi:Rs[i]? = some B) (hB: ∀ w G,B.P w G->(RX.of (ar size E) [.slice A m cp] xs).P w G) (h:xs.length<=9223372036854775807->T P n F0 w0 e Rs c Q):T P n F0 w0 e Rs c Q:=by
 intro a w ha hs;refine h ?_ a w ha hs;obtain⟨G,hG,_⟩:=hs.get i hi;rcases hB w G hG with⟨_,rfl⟩ | ⟨_,cap,_,b,d,_⟩
 ·simp
 ·have:maxLen=9223372036854775807:=rfl;omega
end
def sV (l:List Int):Array Value:=(l.map (Value.int .u32)).toArray
def nr (T g:Nat) (l:List Int):Res where
 P:=fun w G=>(aR g T (sV l)).P w G/\l.length=256
 lt:=fun h=>(aR g T (sV l)).lt h.1
 move:=fun h hm=>⟨(aR g T (sV l)).move h.1 hm,h.2⟩
theorem GM {l:List Int} {k:Nat} {u:Int} (h:l[k]? = some u):(sV l)[k]? = some (.int .u32 u):=by
 unfold sV;simp[h]
section
variable {P:Program} {n:Nat} {F0:Nat->Prop} {w0 w:World} {e:Env} {Rs Rf:List Res} {Q:Exit->Act->World->Prop} {ops:Array Oper} {d:Option Tmp} {i:Nat} {ty t t' el:TypeId} {pos:String} {af:Array Edge} {gd:Option (Nat×Bool)} {v v':Value} {x y ix:Operand} {L:List Nat} {lo:Sch} {c:Code} {S:World->Prop}
variable {T g k:Nat} {l:List Int} {u u':Int}
theorem En (j:Nat) (h:St F0 w0 Rs w) (hj:Rs[j]? = some (nr T g l)):l.length=256:=by
 obtain⟨G,hG,_⟩:=h.get j hj;exact hG.2
theorem Eo (j:Nat) (h:St F0 w0 Rs w) (hj:Rs[j]? = some (nr T g l)):w.heap[g]? = some (.cells (sV l) T (0,0)):=by
 obtain⟨G,hG,_⟩:=h.get j hj;exact hG.1.1
theorem Ex.tIx (j:Nat) {a:Int} {q:IntKind} (hx:e.ev x=some (.pointer (some ⟨g,0,none⟩))) (hi:e.ev ix=some (.int q a)) (hik:a=(k:Int)) (hu: ∀ w,(underlying t).run P w= .ok (.array 256 el) w) (hz: ∀ w,(sizeOf el).run P w= .ok 1 w) (hj:Rs[j]? = some (nr T g l)) (hk:l[k]? = some u) :
 Ex P n e (St F0 w0 Rs) ⟨d,.indexAddr t x ix,ty,pos,af,gd⟩ (.pointer (some ⟨g,k,none⟩)):=by
 intro A w ha hs;have b:=En j hs hj;have c:k<256:=by rw[<- b]; exact (M6 hk).1
 have f:=Ex.ixP (S:=fun _=>True) (d:=d) (ty:=ty) (pos:=pos) (af:=af) (gd:=gd) hx hi hik hu hz c A w ha trivial
 rwa [show 0+k*1=k by omega] at f
theorem Ex.tLd (j:Nat) (hx:e.ev x=some (.pointer (some ⟨g,k,none⟩))) (ha: ∀ w,(isAgg t).run P w= .ok false w) (hj:Rs[j]? = some (nr T g l)) (hk:l[k]? = some u) :
 Ex P n e (St F0 w0 Rs) ⟨d,.load t x,ty,pos,af,gd⟩ (.int .u32 u) :=
 Ex.ld1 hx ha (fun w hw=>(bp (Eo j hw hj) k).trans (GM hk))
theorem Ef.tSt (j:Nat) (hx:e.ev x=some (.pointer (some ⟨g,k,none⟩))) (hy:e.ev y=some (.int .u32 u')) (hz: ∀ w,(sizeOf t).run P w= .ok 1 w) (hj:Rs[j]? = some (nr T g l)) (hk:l[k]? = some u) :
 Ef P n F0 w0 e Rs ⟨none,.store t x y,ty,pos,af,gd⟩ (fun e' Rs'=>e'=e/\Rs'=Rs.set j (nr T g (l.set k u'))):=by
 intro a w K Q ha hs hk';have hb:=Eo j hs hj;have hl:=En j hs hj;have hkl:k<l.length:=(M6 hk).1;have hc:((sV l).toList.take k ++ [Value.int .u32 u']++(sV l).toList.drop (k+1)).toArray=sV (l.set k u'):=by
  unfold sV;rw[List.map_set,List.set_eq_take_append_cons_drop,QM (by rw[NB]; exact hkl)];simp
 have b:=run_storeCells_at (P:=P) g k T [Value.int .u32 u'] 0 (sV l) w hb (by simp[sV]; omega) (by simp[Value.oneCell']);simp only[Nat.add_zero,NY] at b;rw[hc] at b;have c:(execOp a.eval ⟨none,.store t x y,ty,pos,af,gd⟩).run P w= .ok .skip (w.setRow g (sV (l.set k u'))):=by
  simp[execOp,ha.ev hx,ha.ev hy,Instr.storeAt,Instr.sureAddr,storeVar,hz,Value.cells,b]
 unfold Oper.wp;rw[c];refine hk' _ _ ⟨rfl,rfl⟩ _ _ ha.put0 (hs.step j hj (Ns := []) (fun G hG=> ?_));exact⟨⟨rfl,rfl,rfl,by simp[World.setRow],fun k hk hn=>setRow_other w g k _ (fun e=>hn (e ▸ (hG.1.2 g).2 rfl))⟩,G,⟨⟨setRow_heap w g _ _ T (0,0) hG.1.1,hG.1.2⟩,by rw[List.length_set]; exact hG.2⟩,fun k hk=> .inl hk,trivial⟩
theorem TL.tSt (j:Nat) (ho:ops[i]? = some ⟨none,.store t x y,ty,pos,af,gd⟩) (hw:Wd n ops e ⟨none,.store t x y,ty,pos,af,gd⟩ true) (hx:e.ev x=some (.pointer (some ⟨g,k,none⟩))) (hy:e.ev y=some (.int .u32 u')) (hz: ∀ w,(sizeOf t).run P w= .ok 1 w) (hj:Rs[j]? = some (nr T g l)) (hk:l[k]? = some u)
 (h:TL P n F0 w0 ops L e (Rs.set j (nr T g (l.set k u'))) Q):TL P n F0 w0 ops (i::L) e Rs Q:=by
 refine LF ho hw (Ef.tSt j hx hy hz hj hk) ?_;rintro _ _ ⟨rfl,rfl⟩;exact h
theorem Ex.bldZ {m:Nat} {zs:Array Value} (hz: ∀ w,(zeroValue t).run P w= .ok (.agg zs) w) (hu: ∀ w,(underlying t).run P w= .ok (.array m el) w) (hs: ∀ w,(sizeOf el).run P w= .ok 1 w):Ex P n e S ⟨d,.build t #[],ty,pos,af,gd⟩ (.agg zs):=by
 intro a w ha _;have b:(Instr.build t #[]).run P w= .ok (.agg zs) w:=by
  simp only[Instr.build,Sem.run_bind,hz,hu,hs,Result.andThen_ok];rfl
 simp only[execOp,Sem.run_bind];simp[b]
theorem TL.tNew {zs:Array Value} {d:Nat} (ho:ops[i]? = some ⟨some d,.box t x,ty,pos,af,gd⟩) (hw:Wd n ops e ⟨some d,.box t x,ty,pos,af,gd⟩ true) (hx:e.ev x=some (.agg zs)) (hzs:zs=sV (List.replicate 256 0)) (hd:Nat.blt d n=true)
 (h: ∀ b,TL P n F0 w0 ops L ((d,.pointer (some ⟨b,0,none⟩))::e) (nr t b (List.replicate 256 0)::Rs) Q):TL P n F0 w0 ops (i::L) e Rs Q:=by
 refine TL.box ho hw hx hd (fun b=> ?_);intro a w ha hs;subst hzs;exact h b a w ha (hs.weaken 0 rfl (fun G hG=>⟨hG,List.length_replicate ..⟩))
end
def LW (P:Program) (c:Code) (Q:Exit->Act->World->Prop) (a:Act) (w:World):Prop:= ∀ b k cs,∃ x a' w',Q x a' w'/\Arrives P (lone (b.at a (.code c :: .inLoop c::k)) cs w) b k cs x a' w'
def TW (P:Program) (n:Nat) (F0:Nat->Prop) (w0:World) (e:Env) (Rs:List Res) (c:Code) (Q:Exit->Act->World->Prop):Prop:= ∀ a w,Has n e a->St F0 w0 Rs w->LW P c Q a w
section
variable {P:Program} {n:Nat} {F0:Nat->Prop} {w0:World} {e:Env} {Rs:List Res} {Q:Exit->Act->World->Prop} {c:Code}
theorem T.unroll0 (h:TW P n F0 w0 e Rs c Q):T P n F0 w0 e Rs (.loop c) Q:=by
 intro a w ha hs b k cs;obtain⟨x,a',w',hq,harr⟩:=h a w ha hs b k cs;exact⟨x,a',w',hq,.of_steps (.one step_loop) harr⟩
theorem TW.step (h:T P n F0 w0 e Rs c (Exit.then (LW P c Q) Q)):TW P n F0 w0 e Rs c Q:=by
 intro a w ha hs b k cs;obtain⟨x,a₁,w₁,hq,harr⟩:=h a w ha hs b (.inLoop c::k) cs
 cases x with
 | normal =>
  obtain⟨x₂,a₂,w₂,hq₂,harr₂⟩:=hq b k cs;exact⟨x₂,a₂,w₂,hq₂,.of_steps (Steps.trans harr (.one step_inLoop)) harr₂⟩
 | exit id=>exact⟨_,a₁,w₁,hq,.pass (x:= .inLoop c) rfl (fun _ _=> .inl (by simp)) harr⟩
 | goto l=>exact⟨_,a₁,w₁,hq,.pass (x:= .inLoop c) rfl (fun _ _=> .inl (by simp)) harr⟩
 | ret=>exact⟨_,a₁,w₁,hq,.pass (x:= .inLoop c) rfl (fun _ _=> .inl (by simp)) harr⟩
 | panic ch=>exact⟨_,a₁,w₁,hq,.pass (x:= .inLoop c) rfl (fun _ _=> .inl (by simp)) harr⟩
 | outgrown=>exact⟨_,a₁,w₁,hq,.pass (x:= .inLoop c) rfl (fun _ _=> .inl (by simp)) harr⟩
theorem LB (h:TW P n F0 w0 e Rs c Q):X n F0 w0 e Rs .normal (Exit.then (LW P c Q) Q):=h
end
section
variable {P:Program} {n:Nat} {F0:Nat->Prop} {w0:World} {e:Env} {Rs Rf:List Res} {Q:Exit->Act->World->Prop} {ops:Array Oper} {i:Nat} {ty t:TypeId} {pos:String} {af:Array Edge} {gd:Option (Nat×Bool)} {x y:Operand} {L:List Nat} {lo:Sch} {b:Nat} {s:AI×Int}
theorem Ef.outZ (j:Nat) (hx:e.ev x=some (.pointer (some ⟨b,0,none⟩))) (hy:e.ev y=some (.agg #[A5,.int .i64 0])) (hz: ∀ w,(sizeOf t).run P w= .ok 2 w) (hj:Rs[j]? = some (bz b s)) :
 Ef P n F0 w0 e Rs ⟨none,.store t x y,ty,pos,af,gd⟩ (fun e' Rs'=>e'=e/\Rs'=Rs.set j (bz b ([],0))):=by
 intro a w K Q ha hs hk;obtain⟨G,⟨v,f,_,_⟩,_⟩:=hs.get j hj;have c:=run_storeCells_at (P:=P) b 0 112 [Value.slice none 0 0,.int .i64 0] 0 _ w f (by simp) (by intro v hv; simp at hv; rcases hv with rfl | rfl <;> rfl);have g:(execOp a.eval ⟨none,.store t x y,ty,pos,af,gd⟩).run P w= .ok .skip (w.setRow b #[A5,.int .i64 0]):=by
  simp at c;simp[execOp,ha.ev hx,ha.ev hy,Instr.storeAt,Instr.sureAddr,storeVar,hz,Value.cells,c]
 unfold Oper.wp;rw[g];refine hk _ _ ⟨rfl,rfl⟩ _ _ ha.put0 (hs.step j hj (Ns := []) (fun G hG=> ?_));obtain⟨v',h,i,d⟩:=hG;refine⟨⟨rfl,rfl,rfl,by simp[World.setRow],fun q hq hn=>setRow_other w b q _ (fun e=>hn (e ▸ (d b).2 (.inl rfl)))⟩,fun q=>q=b,⟨_,setRow_heap w b _ _ _ (0,0) h,World.ownsRow_nil _ _ _ _,fun q=>by simp[Value.ownBlock]⟩,fun q hq=> .inl ((d q).2 (.inl hq)),trivial⟩
theorem TL.outZ (j:Nat) (ho:ops[i]? = some ⟨none,.store t x y,ty,pos,af,gd⟩) (hw:Wd n ops e ⟨none,.store t x y,ty,pos,af,gd⟩ true) (hx:e.ev x=some (.pointer (some ⟨b,0,none⟩))) (hy:e.ev y=some (.agg #[A5,.int .i64 0])) (hz: ∀ w,(sizeOf t).run P w= .ok 2 w) (hj:Rs[j]? = some (bz b s))
 (h:TL P n F0 w0 ops L e (Rs.set j (bz b ([],0))) Q):TL P n F0 w0 ops (i::L) e Rs Q:=by
 refine LF ho hw (Ef.outZ j hx hy hz hj) ?_;rintro _ _ ⟨rfl,rfl⟩;exact h
end
end Go.Proofs.YtheikonlgjdopaaGreat.Sl
