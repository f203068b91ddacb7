/- splitRows_holds: part 2. -/
import Derived.Laws.IdiomCopy
import Derived.Laws.CopyRow
import Derived.ChangeKeysEq
import Derived.Test.YtheikonlgjdopaaGreatK1
set_option maxRecDepth 100000
set_option maxHeartbeats 4000000
set_option linter.defProp false
namespace Go.Proofs.YtheikonlgjdopaaGreat.Sl
open Go.RowKit
set_option linter.unusedVariables false
set_option linter.unusedSimpArgs false
def NB := @decide_eq_true
def NC := @decide_eq_false
def NF := @eq_false_of_ne_true
def NG := @Tryz.sizeOf3
def NH := @Tryz.isAgg3
def NK := @Tryz.runUnderlying9
def NM := @Tryz.sizeOf23
def NN := @Tryz.runUnderlying74
def NP := @Tryz.sizeOf91
def NQ := @Tryz.runUnderlying28
def NR := @Tryz.sizeOf97
def NT := @Tryz.runUnderlying95
def NZ := @Tryz.runUnderlying97
def N1 := @Tryz.runUnderlying48
def N2 := @Tryz.runUnderlying23
def N4 := @Tryz.runUnderlying91
def N5 := @Tryz.sizeOf171
def N6 := @Tryz.sizeOf9
def N7 := @Tryz.runUnderlying177
def Oa := @Tryz.isAgg23
def Ob := @Tryz.runUnderlying89
def Oc := @Tryz.isAgg9
def Od := @Tryz.isAgg97
def Oe := @Tryz.sizeOf4
def Oh := @Tryz.runUnderlying189
def Oi := @Tryz.runUnderlying212
def Oj := @Tryz.isAgg91
def Oq := @Tryz.runUnderlying49
def Ou := @Tryz.sizeOf195
def Ov := @Tryz.sizeOf179
def Ow := @Tryz.runUnderlying174
def Ox := @Tryz.runUnderlying34
def Oz := @Tryz.isAgg4
def OC := @Tryz.sizeOf245
def OD := @Tryz.sizeOf176
def OH := @Tryz.runUnderlying33
def OJ := @Tryz.sizeOf173
def OL := @Tryz.sizeOf191
def OM := @Tryz.isAgg74
def ON := @Tryz.runUnderlying3
def OQ := @Tryz.eqGuardType23
def OR := @Tryz.runUnderlying161
def OT := @Tryz.runUnderlying72
def OW := @Tryz.runUnderlying171
def OX := @Tryz.runUnderlying36
def O0 := @Tryz.runUnderlying5
def O1 := @Tryz.runUnderlying245
def O7 := @Tryz.isAgg28
def Pf := @Tryz.runUnderlying173
def Ph := @Tryz.isAgg177
def Pi := @Tryz.isAgg189
def Pj := @Tryz.sizeOf51
def Pk := @Tryz.sizeOf193
def Pu := @Tryz.runUnderlying51
def Pv := @Tryz.results223
def Px := @Tryz.sizeOf74
def Py := @Tryz.sizeOf28
def Pz := @Tryz.sizeOf89
def PC := @Tryz.runUnderlying176
def PD := @Tryz.results209
def PE := @Tryz.results201
def PI := @Tryz.isAgg179
def PJ := @Tryz.isAgg95
def PK := @Tryz.isAgg173
def PM := @Tryz.results200
def PN := @Tryz.results224
def PS := @Tryz.runUnderlying179
def PT := @Tryz.sizeOf177
def PU := @Tryz.runUnderlying191
def PV := @Tryz.runUnderlying310
def P3 := @Tryz.isAgg171
def P4 := @Tryz.isAgg245
def P5 := @Tryz.isAgg174
def P6 := @Tryz.isAgg176
def P9 := @Tryz.eqGuardType245
def Qa := @Tryz.results228
def Qi := @Tryz.isAgg89
def Qj := @Tryz.isAgg51
def Qo := @Tryz.results92
def Qp := @Tryz.sizeOf174
def Qs := @Tryz.isAgg191
def Qy := @Tryz.results163
def QK := @Tryz.results46
def PakR {ι:Type} (f:ι->List Res):Res where
 P:=fun w G=>(∃ i,Sep (f i) w G)/\ ∀ k,G k->k<w.heap.size
 lt:=fun h k hk=>h.2 k hk
 move:=fun {w w' G} h hm=>⟨let ⟨i,hi⟩:=h.1; ⟨i,hi.move_ hm⟩,fun k hk=>by
  have h1:=h.2 k hk;have h2:=hm k hk;rw[Array.getElem?_eq_getElem h1] at h2;exact (Array.getElem?_eq_some_iff.1 h2).1⟩
section
variable {P:Program} {n:Nat} {F0:Nat->Prop} {w0 w:World} {e:Env} {Rs Rs' Rf:List Res} {Q:Exit->Act->World->Prop} {ops:Array Oper} {l:List Nat} {c:Code} {x:Exit} {ι:Type} {f:ι->List Res}
theorem Sep.splitA: ∀ {As Bs:List Res} {w:World} {F:Nat->Prop},Sep (As++Bs) w F-> ∃ G,Sep As w G/\(∀ k,G k->F k)/\(∀ k,G k->k<w.heap.size)/\Sep Bs w (fun k=>F k/\ ¬ G k)
 | [],Bs,w,F,h=>⟨fun _=>False,trivial,fun _ h=>h.elim,fun _ h=>h.elim,h.mono (fun k hk=>⟨hk,fun h=>h⟩)⟩
 | A::As,Bs,w,F,⟨H,h1,h2,h3⟩=>by
  obtain⟨G,k1,k2,k3,k4⟩:=Sep.splitA h3;refine⟨fun k=>H k\/G k,⟨H,h1,fun k hk=> .inl hk,k1.mono (fun k hk=>⟨.inr hk,(k2 k hk).2⟩)⟩,?_,?_,k4.mono (fun k hk=>⟨hk.1.1,fun h=>h.elim hk.1.2 hk.2⟩)⟩
  ·rintro k (hk | hk)
   ·exact h2 k hk
   ·exact (k2 k hk).1
  ·rintro k (hk | hk)
   ·exact A.lt h1 k hk
   ·exact k3 k hk
theorem St.pakShut (i:ι) (h:St F0 w0 (f i++Rs) w):St F0 w0 (PakR f::Rs) w:=by
 obtain⟨fr,hs⟩:=h;obtain⟨G,k1,k2,k3,k4⟩:=Sep.splitA hs;exact⟨fr,G,⟨⟨i,k1⟩,k3⟩,k2,k4⟩
theorem TL.pakShut (i:ι) (hR:Rs=f i++Rs') (h:TL P n F0 w0 ops l e (PakR f::Rs') Q):TL P n F0 w0 ops l e Rs Q:=fun a w ha hs=>h a w ha (by rw[hR] at hs; exact hs.pakShut i)
end
theorem zH {α:Type} {size:Nat} {E:Rd α} {w:World} {S:Nat->Prop}: ∀ {xs ys:List α} {cs ds:List Value},gF size E w S cs xs->gF size E w S ds ys->gF size E w S (cs++ds) (xs++ys)
 | [],ys,cs,ds,h,k=>by
  obtain rfl:cs = []:=h;exact k
 | x::xs,ys,cs,ds,⟨h0,h1,h2⟩,k=>by
  have hle:size<=cs.length:=by rw[On] at h0; omega
  refine⟨?_,?_,?_⟩
  ·rw[List.take_append_of_le_length hle]; exact h0
  ·rw[List.take_append_of_le_length hle]; exact h1
  ·rw[List.drop_append_of_le_length hle]; exact zH h2 k
section
variable {P:Program} {n:Nat} {F0:Nat->Prop} {w0 w:World} {e:Env} {Rs Rf:List Res} {Q:Exit->Act->World->Prop} {ops:Array Oper} {d:Option Tmp} {i:Nat} {ty t t' el:TypeId} {pos:String} {af:Array Edge} {gd:Option (Nat×Bool)} {v:Value} {x y:Operand} {L:List Nat} {lo:Sch} {cd:Code}
variable {U c m k:Nat} {A:Option Addr}
variable {α:Type} {E:Rd α} {z:Nat} {xs ys:List α}
def Cb (A:Option Addr) (c k z:Nat):Option Addr:=if c=k then A else A.map (·.add (k*z))
end
section
variable {P:Program} {n:Nat} {F0:Nat->Prop} {w0:World} {e:Env} {Rs:List Res} {Q:Exit->Act->World->Prop}
end
section
variable {P:Program} {n:Nat} {F0:Nat->Prop} {w0 w:World} {e e':Env} {Rs Rs' Rf:List Res} {Q:Exit->Act->World->Prop} {ops:Array Oper} {L:List Nat} {lo:Sch} {cd:Code} {K:Act->World->Prop} {l id:Nat} {J:Nat->Nat->Env->List Res->Prop} {J':Nat->Act->World->Prop}
variable {d:Option Tmp} {i:Nat} {ty t t' el:TypeId} {pos:String} {af:Array Edge} {gd:Option (Nat×Bool)} {v:Value} {x y:Operand}
variable {α:Type} {E:Rd α} {z:Nat} {xs ys:List α} {A A2:Option Addr} {m c c2 k:Nat} {U bytes:Nat} {zv:Value}
def Ones (E:Rd α):Prop:= ∀ w S cs x,E.P w S cs x->cs.all (·.oneCell')=true
theorem vS {S:Nat->Prop} {a:Addr}: ∀ (l:List α) (off:Nat),(∀ i x,l[i]? = some x-> ∃ cs,cs.length=z/\(∀ j,j<z->w.cell? (a.add ((off+i)*z+j))=cs[j]?)/\E.P w S cs x)->Ones E ->
 ∃ us:List Value,gF z E w S us l/\(∀ q u,us[q]? = some u->w.cell? (a.add (off*z+q))=some u)/\ ∀ u∈us,u.oneCell'=true
 | [],off,h,ho=>⟨[],rfl,fun q u hq=>by simp at hq,fun u hu=>by simp at hu⟩
 | x::l,off,h,ho=>by
  obtain⟨cs,h1,h2,h3⟩:=h 0 x rfl;obtain⟨us,k1,k2,k3⟩:=vS l (off+1) (fun i y hy=>by
   obtain⟨cs,g1,g2,g3⟩:=h (i+1) y (by simpa using hy);exact⟨cs,g1,fun j hj=>by rw[<- g2 j hj,show off+1+i=off+(i+1) by omega],g3⟩) ho
  refine⟨cs++us,⟨?_,?_,?_⟩,fun q u hq=> ?_,fun u hu=> ?_⟩
  ·rw[List.take_append_of_le_length QR,List.take_of_length_le QR]; exact h1
  ·rw[List.take_append_of_le_length QR,List.take_of_length_le QR]; exact h3
  ·rw[List.drop_append_of_le_length QR,List.drop_of_length_le QR]; exact k1
  ·by_cases hl:q<z
   ·rw[List.getElem?_append_left QR] at hq;have:=h2 q hl;rw[Nat.add_zero] at this;rw[this,hq]
   ·rw[List.getElem?_append_right QR,h1] at hq;have:=k2 _ u hq;rw[<- this];congr 2;rw[Nat.add_mul];omega
  ·rcases List.mem_append.1 hu with hu | hu
   ·exact List.all_eq_true.1 (ho _ _ _ _ h3) u hu
   ·exact k3 u hu
theorem bG.openB (i j:Nat) {T:TypeId} {v:Value} {B:Res} (h:St F0 w0 Rs w) (hi:Rs[i]? = some (bG T z E v xs)) (hj:(Rs.eraseIdx i)[j]? = some B) :
 ∃ cells H,B.P w H/\w.ownsRow 0 T z v xs.length cells/\ ∀ v1 w1 news l,w1.ownsRow 0 T z v1 (xs.length+l.length) (cells++news)->w.grownBy w1 v.ownBlock->(v1.ownBlock=v.ownBlock\/ ∃ k,v1.ownBlock=some k/\w.heap.size<=k) ->
  gF z E w H news l->St F0 w0 (bG T z E v1 (xs++l)::(Rs.eraseIdx i).eraseIdx j) w1:=by
 obtain⟨f,hs⟩:=h;obtain⟨G,⟨cells,S,h1,h2,h3,h4,h5⟩,hG,hr⟩:=Sep.pick i hi hs;obtain⟨H,hB,hH,hr2⟩:=Sep.pick j hj hr;refine⟨cells,H,hB,h1,fun v1 w1 news l ho hg hat hx=> ?_⟩;have hne: ∀ k,S k->k<w.heap.size/\some k≠v.ownBlock:=fun k hk=>⟨h3 k hk,fun e=>h4 k e.symm hk⟩;have hS1:gF z E w1 S cells xs:=jV h2 (fun k hk=>hg.block k (hne k hk).1 (hne k hk).2);have hle:=hg.size;have f2:Fr G w w1:=Mn hg (fun k hk=>(h5 k).2 (.inl hk));have hfs:=f.size;have hlt1:=B.lt hB;have hH1:gF z E w1 H news l:=jV hx (fun k hk=>f2.block k (hlt1 k hk) (hH k hk).2);refine⟨f.trans f2 hG,?_⟩;have hR:Sep ((Rs.eraseIdx i).eraseIdx j) w1 (fun k=>(((F0 k\/w0.heap.size<=k)/\ ¬ G k)/\ ¬ H k)/\k<w.heap.size):=hr2.inside.move (fun k hk _=>f2.block k hk.2 hk.1.1.2);refine⟨fun k=>v1.ownBlock=some k\/(S k\/H k),⟨cells++news,fun k=>S k\/H k,?_,zH (pi hS1 (fun _ h=> .inl h)) (pi hH1 (fun _ h=> .inr h)),?_,?_,fun _=>Iff.rfl⟩,?_,hR.mono (fun k hk=>⟨hk.1.1.1,?_⟩)⟩
 ·rw[NE]; exact ho
 ·rintro k (hk | hk)
  ·exact Nat.lt_of_lt_of_le (h3 k hk) hle
  ·exact Nat.lt_of_lt_of_le (hlt1 k hk) hle
 ·intro k hk;rcases hat with e | ⟨k',e,hk'⟩
  ·rw[e] at hk;rintro (h6 | h6)
   ·exact h4 k hk h6
   ·exact (hH k h6).2 ((h5 k).2 (.inl hk))
  ·rw[e] at hk;injection hk with hk;subst hk;rintro (h6 | h6)
   ·have:=h3 _ h6; omega
   ·have:=hlt1 _ h6; omega
 ·rintro k (hk | hk | hk)
  ·rcases hat with e | ⟨k',e,hk'⟩
   ·rw[e] at hk; exact hG k ((h5 k).2 (.inl hk))
   ·rw[e] at hk;injection hk with hk;subst hk;exact .inr QR
  ·exact hG k ((h5 k).2 (.inr hk))
  ·exact (hH k hk).1
 ·rintro (h6 | h6 | h6)
  ·rcases hat with e | ⟨k',e,hk'⟩
   ·rw[e] at h6; exact hk.1.1.2 ((h5 k).2 (.inl h6))
   ·rw[e] at h6;injection h6 with h6;subst h6;have:=hk.2;omega
  ·exact hk.1.1.2 ((h5 k).2 (.inr h6))
  ·exact hk.1.2 h6
theorem Ef.appB (i j:Nat) (hO:Ones E) (hu:P.underlying t=some (.slice U)) (hinfo:(P.info? U).map (fun i=>(i.zero,i.size,i.bytes))=some (some zv,z,bytes)) (hzv:zv.cells.size=z) (hp:0<z)
 (hs:e.ev x=some (.slice A xs.length c)) (hx:e.ev y=some (.slice A2 ys.length c2)) (hi:Rs[i]? = some (bG U z E (.slice A xs.length c) xs)) (hj:(Rs.eraseIdx i)[j]? = some (RdR (aq z E) [.slice A2 ys.length c2] ys))
 (hb:(xs.length+ys.length)*bytes<=140737488355328) (hm:xs.length+ys.length<=140737488355328) (hd:okd d n=true) :
 Ef P n F0 w0 e Rs ⟨d,.call ⟨.builtin .append,#[x,y],#[t,t]⟩,ty,pos,af,gd⟩ (fun e' Rs'=> ∃ A' c',e'=mV d (.slice A' (xs++ys).length c') e/\Rs'=bG U z E (.slice A' (xs++ys).length c') (xs++ys)::(Rs.eraseIdx i).eraseIdx j):=by
 intro a w K Q ha hst hk;obtain⟨ti,hti,hzz⟩:=Option.map_eq_some_iff.1 hinfo;simp only[Prod.mk.injEq] at hzz;obtain⟨h0,h1,h2⟩:=hzz;obtain⟨cells,H,hB,hown,hgo⟩:=bG.openB i j hst hi hj;have fin: ∀ q' w' news,(execOp a.eval ⟨d,.call ⟨.builtin .append,#[x,y],#[t,t]⟩,ty,pos,af,gd⟩).run P w= .ok (.value q') w'->w'.ownsRow 0 U z q' (xs.length+ys.length) (cells++news)->w.grownBy w' (Value.slice A xs.length c).ownBlock->(q'.ownBlock=(Value.slice A xs.length c).ownBlock\/ ∃ k,q'.ownBlock=some k/\w.heap.size<=k)->gF z E w H news ys->Oper.wp P ⟨d,.call ⟨.builtin .append,#[x,y],#[t,t]⟩,ty,pos,af,gd⟩ a w K Q:=by
  intro q' w' news r1 r2 r3 r4 r5;have hst':=hgo q' w' news ys r2 r3 r4 r5;obtain⟨A',c',rfl⟩:=mJ r2;rw[<- NE] at hst' r1;unfold Oper.wp;rw[r1];exact hk _ _ ⟨A',c',rfl,rfl⟩ _ _ (ha.putd hd) hst'
 obtain⟨hB1,hB2⟩:=hB;rcases hB1 with⟨hv,rfl⟩ | ⟨ad,cap,hv,_,_,hbk,hel⟩
 ·injection hv with hv _;injection hv with hv1 hv2 hv3;subst hv1 hv3;have hr:=run_append_owned_none (P:=P) (w:=w) 0 t ty U ti z hu hti _ _ _ hown;refine fin (.slice A xs.length c) w [] ?_ (by rw[Of,Nat.add_zero,NW]; exact hown) ⟨rfl,rfl,rfl,N0 _,fun _ _ _=>rfl⟩ (.inl rfl) rfl;rw[Of] at hx;simp[execOp,resolve,invoke,builtin,ha.ev hs,ha.ev hx,hr]
 ·injection hv with hv _;injection hv with hv1 hv2 hv3;subst hv1 hv3;obtain⟨us,g1,g2,g3⟩:=vS (a:=ad) ys 0 (fun i x hx=>by
   obtain⟨cs,q1,q2,q3⟩:=hel i x hx;exact⟨cs,q1,fun j hj=>by rw[Nat.zero_add]; exact q2 j hj,q3⟩) hO
  have hlen:=kt g1;obtain⟨q',w',hr,k2,k3,_,k5⟩:=run_append_own_at (P:=P) w 0 t ty U ti zv z bytes hu hti h0 h1 h2 hzv hp _ xs.length cells hown ad ys.length c2 us hlen (fun q u hq=>by have:=g2 q u hq; rwa [Nat.zero_mul,Nat.zero_add] at this) g3 (by simp only[maxLen]; omega) hb (NY _);refine fin q' w' us ?_ k2 k3 (k5.imp id (fun h=>⟨_,h,N0 _⟩)) g1;simp[execOp,resolve,invoke,builtin,ha.ev hs,ha.ev hx,hr]
theorem TL.appB {d i:Nat} (i' j:Nat) (ho:ops[i]? = some ⟨some d,.call ⟨.builtin .append,#[x,y],#[t,t]⟩,ty,pos,af,gd⟩) (hw:Wd n ops e ⟨some d,.call ⟨.builtin .append,#[x,y],#[t,t]⟩,ty,pos,af,gd⟩ true) (hO:Ones E) (hu:P.underlying t=some (.slice U)) (hinfo:(P.info? U).map (fun i=>(i.zero,i.size,i.bytes))=some (some zv,z,bytes)) (hzv:zv.cells.size=z) (hp:0<z)
 (hs:e.ev x=some (.slice A xs.length c)) (hx:e.ev y=some (.slice A2 ys.length c2)) (hi:Rs[i']? = some (bG U z E (.slice A xs.length c) xs)) (hj:(Rs.eraseIdx i')[j]? = some (RdR (aq z E) [.slice A2 ys.length c2] ys))
 (hb:(xs.length+ys.length)*bytes<=140737488355328) (hm:xs.length+ys.length<=140737488355328) (hd:Nat.blt d n=true)
 (h: ∀ A' c',TL P n F0 w0 ops L ((d,.slice A' (xs++ys).length c')::e) (bG U z E (.slice A' (xs++ys).length c') (xs++ys)::(Rs.eraseIdx i').eraseIdx j) Q):TL P n F0 w0 ops (i::L) e Rs Q:=by
 refine Me ho hw (Ef.appB i' j hO hu hinfo hzv hp hs hx hi hj hb hm hd) ?_;rintro _ _ ⟨A',c',rfl,rfl⟩;exact h A' c'
theorem rd_cap {G:Nat->Prop} (h:(RX.of (aq z E) [.slice A m c] xs).P w G):m=xs.length/\m<=c:=by
 rcases h with⟨h,rfl⟩ | ⟨a,cap,h,h1,h2,_⟩
 ·injection h with h;injection h with e1 e2 e3;exact⟨e2,by omega⟩
 ·injection h with h;injection h with e1 e2 e3;exact⟨e2,by omega⟩
theorem RX.sub {G:Nat->Prop} {p q:Nat} (h:(RX.of (aq z E) [.slice A m c] xs).P w G) (hpq:p<=q) (hq:q<=xs.length) (hl:((xs.drop p).take (q - p))=ys):(RX.of (aq z E) [.slice (Cb A c p z) ys.length (c - p)] ys).P w G:=by
 subst hl;have hlen:((xs.drop p).take (q - p)).length=q - p:=by rw[On,NO]; omega
 rcases h with⟨h,rfl⟩ | ⟨a,cap,h,h1,h2,hb,hr⟩
 ·injection h with h;injection h with e1 e2 e3;subst e1 e3;obtain rfl:q=0:=by simpa using hq
  obtain rfl:p=0:=by omega
  exact .inl ⟨rfl,by simp⟩
 ·injection h with h;injection h with e1 e2 e3;subst e1 e3;by_cases hc:c=p
  ·have hz:q - p=0:=by omega
   refine .inr ⟨a,c - p,by simp[Cb,hc],by rw[hlen]; omega,by omega,fun h=>by omega,fun i x hx=> ?_⟩;have:=(ND hx).1;omega
  ·refine .inr ⟨a.add (p*z),c - p,by simp[Cb,hc],by rw[hlen]; omega,by omega,fun h=>by rw[Go.ChangeShapes.block_add]; exact hb QR,fun i x hx=> ?_⟩;rw[List.getElem?_take] at hx;split at hx
   ·rw[List.getElem?_drop] at hx;obtain⟨cs,k1,k2,k3⟩:=hr (p+i) x hx;refine⟨cs,k1,fun j hj=> ?_,k3⟩;rw[<- k2 j hj];congr 1;unfold Addr.add;split <;> split <;> simp_all [Nat.add_mul,Nat.add_assoc]
   ·exact nomatch hx
theorem Ex.subS {lw hi:Option Operand} {p q mm:Nat} {S:World->Prop} (hS: ∀ w,S w->m<=c) (hx:e.ev x=some (.slice A m c)) (hu: ∀ w,(underlying t).run P w= .ok (.slice el) w) (hz: ∀ w,(sizeOf el).run P w= .ok z w) (hlo:LoOK e lw p) (hhi:HiOK e m hi q) (hpq:p<=q) (hq:q<=m) (hm:mm=q - p) :
 Ex P n e S ⟨d,.slice t x lw hi none,ty,pos,af,gd⟩ (.slice (Cb A c p z) mm (c - p)):=by
 intro a w ha hs;subst hm;have hmc:=hS w hs;have b1: ∀ kd cd,(Instr.sliceBound (.int kd (q:Int)) c cd).run P w= .ok q w:=by
  intro kd cd;have:(0:Int)<=(q:Int)/\(q:Int)<=(c:Int):=by omega
  simp[Instr.sliceBound,asIntOf,this]
 have b2: ∀ kd cd,(Instr.sliceBound (.int kd (p:Int)) q cd).run P w= .ok p w:=by
  intro kd cd;have:(0:Int)<=(p:Int)/\(p:Int)<=(q:Int):=by omega
  simp[Instr.sliceBound,asIntOf,this]
 cases hlo with
 | none =>
  cases hhi with
  | none=>simp[execOp,ha.ev hx,Instr.sliceAt,Instr.slice,hu,hz,Instr.sliceBounds,Cb]
  | some h1 h2 =>
   subst h2;simp[execOp,ha.ev hx,ha.ev h1,Instr.sliceAt,Instr.slice,hu,hz,Instr.sliceBounds,b1,Cb]
 | some h1 h2 =>
  subst h2
  cases hhi with
  | none=>simp[execOp,ha.ev hx,ha.ev h1,Instr.sliceAt,Instr.slice,hu,hz,Instr.sliceBounds,b2,Cb]
  | some h3 h4 =>
   subst h4;simp[execOp,ha.ev hx,ha.ev h1,ha.ev h3,Instr.sliceAt,Instr.slice,hu,hz,Instr.sliceBounds,b1,b2,Cb]
theorem cap_of {B:Res} (j:Nat) (hj:Rs[j]? = some B) (hB: ∀ w G,B.P w G->(RX.of (aq z E) [.slice A m c] xs).P w G): ∀ w,St F0 w0 Rs w->m<=c:=fun w hw=>let ⟨G,h,_⟩:=hw.get j hj; (rd_cap (hB w G h)).2
end
section
variable {P:Program} {t el:TypeId}
end
def HJ (ops:Array Oper) (e:Env):Option (Nat×Bool)->Option Bool
 | none=>some true
 | some (j,want)=>match (ops[j]?).bind (·.dst) with
  | some t=>match e.get t with
   | some (.bool b)=>some (match b with | true=>want | false=> !want)
   | some _=>some false
   | none=>none
  | none=>none
theorem oK {n:Nat} {ops:Array Oper} {e:Env} {d:Option Tmp} {op:Op} {ty:TypeId} {pos:String} {af:Array Edge} {g:Option (Nat×Bool)} {b:Bool} (h:HJ ops e g=some b):Wd n ops e ⟨d,op,ty,pos,af,g⟩ b:=by
 intro a ha
 cases g with
 | none =>
  cases h;rfl
 | some g =>
  obtain⟨j,want⟩:=g;simp only[HJ] at h;split at h
  ·rename_i t hj;split at h
   ·rename_i b' hv;injection h with h;subst h;simp only[Region.wanted,yielded,hj,NA,ha.at_ t _ hv];cases b' <;> cases want <;> rfl
   ·rename_i v hne hv;injection h with h;subst h;simp only[Region.wanted,yielded,hj,NA,ha.at_ t _ hv];cases v <;> first | rfl | exact absurd rfl (hne _)
   ·cases h
  ·cases h
def Gd:List Nat->Nat->Bool
 | [],_=>false
 | a::r,t=>match Nat.beq a t with
  | true=>true
  | false=>Gd r t
def NOK (P:Program):List Nat->Prop
 | []=>True
 | a::r=>(∀ w,(isAgg a).run P w= .ok false w)/\NOK P r
theorem NOK.get {P:Program}: ∀ {l:List Nat},NOK P l-> ∀ {t:Nat},Gd l t=true-> ∀ w,(isAgg t).run P w= .ok false w
 | [],_,t,h=>by simp[Gd] at h
 | a::r,⟨h1,h2⟩,t,h=>by
  simp only[Gd] at h
  cases hb:Nat.beq a t with
  | true =>
   obtain rfl:=Nat.eq_of_beq_eq_true hb;exact h1
  | false=>rw[hb] at h; exact NOK.get h2 h
def zI (ft:eO) (nt:List Nat) (cs:Array Value) (e:Env) (L:List Nat):Op->Option (Value×List Nat)
 | .pick c x y=>match e.ev c with
  | some (.bool b)=>match b with
   | true=>match e.ev x with
    | some v=>some (v,L)
    | none=>none
   | false=>match e.ev y with
    | some v=>some (v,L)
    | none=>none
  | _=>none
 | .load t x=>match Gd nt t with
  | true=>match e.ev x with
   | some (.pointer (some ⟨b,o,none⟩))=>match cs[o]? with
    | some v=>some (v,b::L)
    | none=>none
   | _=>none
  | false=>none
 | op=>match B4 ft e op with
  | some v=>some (v,L)
  | none=>none
def um (ft:eO) (nt:List Nat) (cs:Array Value) (n:Nat) (ops:Array Oper):Env->List Nat->List Nat->Option (Env×List Nat)
 | e,L,[]=>some (e,L)
 | e,L,i::is=>match ops[i]? with
  | some ⟨d,op,_,_,_,g⟩=>match HJ ops e g with
   | some true=>match d with
    | some d=>match Nat.blt d n with
     | true=>match zI ft nt cs e L op with
      | some (v,L')=>um ft nt cs n ops ((d,v)::e) L' is
      | none=>none
     | false=>none
    | none=>none
   | some false=>match d with
    | some d=>match Nat.blt d n with
     | true=>um ft nt cs n ops ((d,undef)::e) L is
     | false=>none
    | none=>um ft nt cs n ops e L is
   | none=>none
  | none=>none
section
variable {P:Program} {n:Nat} {F0:Nat->Prop} {w0:World} {e e':Env} {Rs:List Res} {Q:Exit->Act->World->Prop} {ops:Array Oper} {ft:eO} {nt:List Nat} {cs:Array Value} {b T j:Nat} {L L' l:List Nat}
theorem Ge {op:Op} {v:Value} (h:zI ft nt cs e L op=some (v,L')): ∀ x∈L,x∈L':=by
 unfold zI at h
 repeat' split at h
 all_goals first | cases h | skip
 all_goals first | exact fun x hx=>hx | exact fun x hx=>List.mem_cons_of_mem _ hx
theorem tj: ∀ (is:List Nat) {e e':Env} {L L':List Nat},um ft nt cs n ops e L is=some (e',L')-> ∀ x∈L,x∈L'
 | [],e,e',L,L',h=>by
  cases h;exact fun x hx=>hx
 | i::is,e,e',L,L',h=>by
  simp only[um] at h
  repeat' split at h
  all_goals first | cases h | skip
  all_goals first | exact tj is h | (rename_i hp; exact fun x hx=>tj is h x (Ge hp x hx))
theorem Gf {d:Option Tmp} {op:Op} {ty:TypeId} {pos:String} {af:Array Edge} {g:Option (Nat×Bool)} {v:Value} (hft:ft.OK P) (hnt:NOK P nt) (hi:Rs[j]? = some (aV b T cs)) (h:zI ft nt cs e L op=some (v,L')) (hL: ∀ x∈L',x=b) :
 Ex P n e (St F0 w0 Rs) ⟨d,op,ty,pos,af,g⟩ v:=by
 unfold zI at h;split at h
 ·split at h
  ·rename_i hc;split at h
   ·split at h
    ·rename_i hx;cases h;exact LX hc rfl hx
    ·cases h
   ·split at h
    ·rename_i hx;cases h;exact LU hc rfl hx
    ·cases h
  ·cases h
 ·split at h
  ·rename_i ht;split at h
   ·rename_i b' o hx;split at h
    ·rename_i hv;cases h;obtain rfl:=hL b' (List.mem_cons_self ..);exact Lc j hx (hnt.get ht) hi hv
    ·cases h
   ·cases h
  ·cases h
 ·split at h
  ·rename_i hv;cases h;exact oI hft hv
  ·cases h
theorem TL.runB_ (hft:ft.OK P) (hnt:NOK P nt) (hi:Rs[j]? = some (aV b T cs)): ∀ (is:List Nat) {e e':Env} {L L' l:List Nat},um ft nt cs n ops e L is=some (e',L')->(∀ x∈L',x=b)->TL P n F0 w0 ops l e' Rs Q->TL P n F0 w0 ops (is++l) e Rs Q
 | [],e,e',L,L',l,h,_,k=>by
  cases h;exact k
 | i::is,e,e',L,L',l,h,hL,k=>by
  simp only[um] at h;split at h
  ·rename_i d op ty pos af g ho;split at h
   ·rename_i hw;split at h
    ·rename_i d;split at h
     ·rename_i hd;split at h
      ·rename_i v L1 hv;exact TL.q ho (oK hw) (Gf hft hnt hi hv (fun x hx=>hL x (tj is h x hx))) hd (TL.runB_ hft hnt hi is h hL k)
      ·cases h
     ·cases h
    ·cases h
   ·rename_i hw;split at h
    ·rename_i d;split at h
     ·rename_i hd;exact TL.no ho (oK hw) hd (TL.runB_ hft hnt hi is h hL k)
     ·cases h
    ·exact TL.no0 ho (oK hw) (TL.runB_ hft hnt hi is h hL k)
   ·cases h
  ·cases h
theorem KR (hft:ft.OK P) (hnt:NOK P nt) (j:Nat) (hi:Rs[j]? = some (aV b T cs)) (k:Nat) (h:um ft nt cs n ops e [] (l.take k)=some (e',L)) (hL:L=L.map fun _=>b) (K:TL P n F0 w0 ops (l.drop k) e' Rs Q):TL P n F0 w0 ops l e Rs Q:=by
 have h2: ∀ x∈L,x=b:=fun x hx=>by
  rw[hL] at hx;obtain⟨_,_,rfl⟩:=List.mem_map.1 hx;rfl
 have h3:=TL.runB_ hft hnt hi (l.take k) h h2 K
 rwa [List.take_append_drop] at h3
theorem MK (hft:ft.OK P): ∀ (is:List Nat) {e e':Env} {l:List Nat},um ft [] #[] n ops e [] is=some (e',[])->TL P n F0 w0 ops l e' Rs Q->TL P n F0 w0 ops (is++l) e Rs Q
 | [],e,e',l,h,k=>by
  cases h;exact k
 | i::is,e,e',l,h,k=>by
  simp only[um] at h;split at h
  ·rename_i d op ty pos af g ho;split at h
   ·rename_i hw;split at h
    ·rename_i d;split at h
     ·rename_i hd;split at h
      ·rename_i v L1 hv;have hL1:L1 = []:=by
        cases L1 with
        | nil=>rfl
        | cons x r=>exact absurd (tj is h x (List.mem_cons_self ..)) (by simp)
       subst hL1;have hx:Ex P n e (St F0 w0 Rs) ⟨some d,op,ty,pos,af,g⟩ v:=by
        unfold zI at hv;split at hv
        ·split at hv
         ·rename_i hc;split at hv
          ·split at hv
           ·rename_i hx;cases hv;exact LX hc rfl hx
           ·cases hv
          ·split at hv
           ·rename_i hx;cases hv;exact LU hc rfl hx
           ·cases hv
         ·cases hv
        ·simp[Gd] at hv
        ·split at hv
         ·rename_i hv';cases hv;exact oI hft hv'
         ·cases hv
       exact TL.q ho (oK hw) hx hd (MK hft is h k)
      ·cases h
     ·cases h
    ·cases h
   ·rename_i hw;split at h
    ·rename_i d;split at h
     ·rename_i hd;exact TL.no ho (oK hw) hd (MK hft is h k)
     ·cases h
    ·exact TL.no0 ho (oK hw) (MK hft is h k)
   ·cases h
  ·cases h
theorem KW (hft:ft.OK P) (k:Nat) (h:um ft [] #[] n ops e [] (l.take k)=some (e',[])) (K:TL P n F0 w0 ops (l.drop k) e' Rs Q):TL P n F0 w0 ops l e Rs Q:=by
 have h3:=MK hft (l.take k) h K
 rwa [List.take_append_drop] at h3
theorem KV (d:Nat) {x y:Bool} (hv:e.get d=some (.bool x)) (h:x=y) (K:TL P n F0 w0 ops l ((d,.bool y)::e) Rs Q):TL P n F0 w0 ops l e Rs Q:=fun a w ha hs=>by
 refine K a w (ha.sub (fun t u hu=> ?_)) hs;simp only[Env.get] at hu
 cases hb:Nat.beq d t with
 | true =>
  rw[hb] at hu;obtain rfl:=Nat.eq_of_beq_eq_true hb;injection hu with hu;rw[hv,h,hu]
 | false=>rw[hb] at hu; exact hu
end
def AndR (A B:Res):Res:=PakR (fun _:Unit => [A,B])
theorem TL.pair {P:Program} {n:Nat} {F0:Nat->Prop} {w0:World} {e:Env} {Rs:List Res} {Q:Exit->Act->World->Prop} {ops:Array Oper} {l:List Nat} {A B:Res} (h:TL P n F0 w0 ops l e (AndR A B::Rs) Q):TL P n F0 w0 ops l e (A::B::Rs) Q:=TL.pakShut (f:=fun _:Unit => [A,B]) () rfl h
theorem and2 {α β:Type} {E1:Rd α} {E2:Rd β} {v1 v2:List Value} {x1:α} {x2:β} {w:World} {G:Nat->Prop} (h:(AndR (RdR E1 v1 x1) (RdR E2 v2 x2)).P w G):E1.P w G v1 x1/\E2.P w G v2 x2:=by
 obtain⟨⟨_,G1,h1,k1,G2,h2,k2,_⟩,_⟩:=h;exact⟨E1.mono h1.1 k1,E2.mono h2.1 (fun k hk=>(k2 k hk).1)⟩
theorem Gg {α β γ:Type} {E1:Rd α} {E2:Rd β} {E3:Rd γ} {v1 v2 v3:List Value} {x1:α} {x2:β} {x3:γ} {w:World} {G:Nat->Prop} (h:(AndR (AndR (RdR E1 v1 x1) (RdR E2 v2 x2)) (RdR E3 v3 x3)).P w G):E1.P w G v1 x1/\E2.P w G v2 x2/\E3.P w G v3 x3:=by
 obtain⟨⟨_,G1,h1,k1,G2,h2,k2,_⟩,_⟩:=h;have h3:=and2 h1;exact⟨E1.mono h3.1 k1,E2.mono h3.2 k1,E3.mono h2.1 (fun k hk=>(k2 k hk).1)⟩
def wA0 (x:Bat) (A0:Option Addr) (c0:Nat):Array Value:= #[.int .i64 x.Ng,.int .i64 x.M9,.bool x.Nq,.bool x.Ni,.bool x.Nl,.int .i64 x.Nf,.int .i64 x.M4,.int .i64 x.Nn,.int .i64 x.MO,.int .i64 x.MR,.int .i64 x.M5,.slice A0 x.MS.length c0]
def wL1 (x:Rec) (A0:Option Addr) (c0:Nat):List Value := [.int .i64 x.Nk,.int .i64 x.Na,.bool x.Nd.null,.string (ba x.Nd.data),.bool x.M3.null,.string (ba x.M3.data),.slice A0 x.M2.length c0]
def wA2 (x:Rec) (A0:Option Addr) (c0:Nat):Array Value:= #[.int .i64 x.Nk,.int .i64 x.Na,.bool x.Nd.null,.string (ba x.Nd.data),.bool x.M3.null,.string (ba x.M3.data),.slice A0 x.M2.length c0]
def wL3 (x:Hd):List Value := [.string (ba x.Nd),.bool x.M3.null,.string (ba x.M3.data)]
def wA4 (x:Hd):Array Value:= #[.string (ba x.Nd),.bool x.M3.null,.string (ba x.M3.data)]
def wL5 (x:Bat) (A0:Option Addr) (c0:Nat):List Value := [.int .i64 x.Ng,.int .i64 x.M9,.bool x.Nq,.bool x.Ni,.bool x.Nl,.int .i64 x.Nf,.int .i64 x.M4,.int .i64 x.Nn,.int .i64 x.MO,.int .i64 x.MR,.int .i64 x.M5,.slice A0 x.MS.length c0]
def wL6 (x:Bl):List Value := [.bool x.null,.string (ba x.data)]
def wA7 (x:Bl):Array Value:= #[.bool x.null,.string (ba x.data)]
def wA8 (x:bJ) (A0:Option Addr) (c0:Nat):Array Value:= #[.bool x.MU.null,.string (ba x.MU.data),.int .i64 x.MT,.int .i64 x.MO,.int .i64 x.MR,.slice A0 x.MN.length c0,.bool x.M7]
def wL9 (x:bJ) (A0:Option Addr) (c0:Nat):List Value := [.bool x.MU.null,.string (ba x.MU.data),.int .i64 x.MT,.int .i64 x.MO,.int .i64 x.MR,.slice A0 x.MN.length c0,.bool x.M7]
def zb (x:cI) (A0:Option Addr) (A1:Option Addr) (A2:Option Addr) (c0:Nat) (c1:Nat) (c2:Nat):Array Value:= #[.int .i64 x.MQ.M1,.int .i64 x.MQ.MY,.int .i64 x.MQ.M6,.bool x.MQ.MX.null,.string (ba x.MQ.MX.data),.bool x.Ni.MU.null,.string (ba x.Ni.MU.data),.int .i64 x.Ni.MT,.int .i64 x.Ni.MO,.int .i64 x.Ni.MR,.slice A0 x.Ni.MN.length c0,.bool x.Ni.M7,.slice A1 x.Nb.length c1,.bool x.MZ.MU.null,.string (ba x.MZ.MU.data),.int .i64 x.MZ.Nc,.int .i64 x.MZ.MT,.slice A2 x.MZ.MN.length c2]
def wA11 (x:bZ) (A0:Option Addr) (c0:Nat):Array Value:= #[.string (ba x.MU),.int .i64 x.MO,.int .i64 x.MR,.slice A0 x.MN.length c0]
def wL12 (x:bZ) (A0:Option Addr) (c0:Nat):List Value := [.string (ba x.MU),.int .i64 x.MO,.int .i64 x.MR,.slice A0 x.MN.length c0]
def wA13 (x:bY):Array Value:= #[.string (ba x.MU),.int .i64 x.MO,.int .i64 x.MR,.bool x.M7]
def wL14 (x:bY):List Value := [.string (ba x.MU),.int .i64 x.MO,.int .i64 x.MR,.bool x.M7]
def AW (x:Pfx):Array Value:= #[.int .i64 x.Ng,.int .i64 x.Nm,.int .i64 x.M9,.int .i64 x.Nr,.int .i64 x.Nu,.int .i64 x.Nf,.int .i64 x.M4,.int .i64 x.Nn,.int .i64 x.MO,.int .i64 x.MR,.int .i64 x.M5,.int .i64 x.Nt]
def wL16 (x:Pfx):List Value := [.int .i64 x.Ng,.int .i64 x.Nm,.int .i64 x.M9,.int .i64 x.Nr,.int .i64 x.Nu,.int .i64 x.Nf,.int .i64 x.M4,.int .i64 x.Nn,.int .i64 x.MO,.int .i64 x.MR,.int .i64 x.M5,.int .i64 x.Nt]
def oh (x:ay) (A0:Option Addr) (A1:Option Addr) (A2:Option Addr) (c0:Nat) (c1:Nat) (c2:Nat):Array Value:= #[.int .i64 x.MQ.M1,.int .i64 x.MQ.MY,.int .i64 x.MQ.M6,.bool x.MQ.MX.null,.string (ba x.MQ.MX.data),.bool x.Nh.MU.null,.string (ba x.Nh.MU.data),.int .i64 x.Nh.MT,.int .i64 x.Nh.MO,.int .i64 x.Nh.MR,.string (ba x.Nj.MU),.int .i64 x.Nj.MO,.int .i64 x.Nj.MR,.slice A0 x.Nj.MN.length c0,.string (ba x.Np.MU),.int .i64 x.Np.MO,.int .i64 x.Np.MR,.bool x.Np.M7,.slice A1 x.Nb.length c1,.bool x.MZ.MU.null,.string (ba x.MZ.MU.data),.int .i64 x.MZ.Nc,.int .i64 x.MZ.MT,.slice A2 x.MZ.MN.length c2]
def wd (x:ay) (A0:Option Addr) (A1:Option Addr) (A2:Option Addr) (c0:Nat) (c1:Nat) (c2:Nat):List Value := [.int .i64 x.MQ.M1,.int .i64 x.MQ.MY,.int .i64 x.MQ.M6,.bool x.MQ.MX.null,.string (ba x.MQ.MX.data),.bool x.Nh.MU.null,.string (ba x.Nh.MU.data),.int .i64 x.Nh.MT,.int .i64 x.Nh.MO,.int .i64 x.Nh.MR,.string (ba x.Nj.MU),.int .i64 x.Nj.MO,.int .i64 x.Nj.MR,.slice A0 x.Nj.MN.length c0,.string (ba x.Np.MU),.int .i64 x.Np.MO,.int .i64 x.Np.MR,.bool x.Np.M7,.slice A1 x.Nb.length c1,.bool x.MZ.MU.null,.string (ba x.MZ.MU.data),.int .i64 x.MZ.Nc,.int .i64 x.MZ.MT,.slice A2 x.MZ.MN.length c2]
def wA19 (x:ay):Array Value:= #[.int .i64 x.MQ.M1,.int .i64 x.MQ.MY,.int .i64 x.MQ.M6,.bool x.MQ.MX.null,.string (ba x.MQ.MX.data),.bool x.Nh.MU.null,.string (ba x.Nh.MU.data),.int .i64 x.Nh.MT,.int .i64 x.Nh.MO,.int .i64 x.Nh.MR,.slice none 0 0,.bool false,.slice none 0 0,.bool false,.string ⟨#[]⟩,.int .i64 0,.int .i64 0,.slice none 0 0]
def wA20 (x:ay) (A0:Option Addr) (c0:Nat):Array Value:= #[.int .i64 x.MQ.M1,.int .i64 x.MQ.MY,.int .i64 x.MQ.M6,.bool x.MQ.MX.null,.string (ba x.MQ.MX.data),.bool false,.string (ba x.Nj.MU),.int .i64 0,.int .i64 x.Nj.MO,.int .i64 x.Nj.MR,.slice A0 x.Nj.MN.length c0,.bool false,.slice none 0 0,.bool false,.string ⟨#[]⟩,.int .i64 0,.int .i64 0,.slice none 0 0]
def wA21 (x:ay):Array Value:= #[.int .i64 x.MQ.M1,.int .i64 x.MQ.MY,.int .i64 x.MQ.M6,.bool x.MQ.MX.null,.string (ba x.MQ.MX.data),.bool false,.string (ba x.Np.MU),.int .i64 0,.int .i64 x.Np.MO,.int .i64 x.Np.MR,.slice none 0 0,.bool x.Np.M7,.slice none 0 0,.bool false,.string ⟨#[]⟩,.int .i64 0,.int .i64 0,.slice none 0 0]
def xv (x:aX):Array Value:= #[.int .i64 x.fcount.fmany,.int .i64 x.fcount.fat,.string (ba x.fheld),.int .i64 x.ferr]
def wL23 (x:cI) (A0:Option Addr) (A1:Option Addr) (A2:Option Addr) (c0:Nat) (c1:Nat) (c2:Nat):List Value := [.int .i64 x.MQ.M1,.int .i64 x.MQ.MY,.int .i64 x.MQ.M6,.bool x.MQ.MX.null,.string (ba x.MQ.MX.data),.bool x.Ni.MU.null,.string (ba x.Ni.MU.data),.int .i64 x.Ni.MT,.int .i64 x.Ni.MO,.int .i64 x.Ni.MR,.slice A0 x.Ni.MN.length c0,.bool x.Ni.M7,.slice A1 x.Nb.length c1,.bool x.MZ.MU.null,.string (ba x.MZ.MU.data),.int .i64 x.MZ.Nc,.int .i64 x.MZ.MT,.slice A2 x.MZ.MN.length c2]
def vA0:Array Value:= #[.bool false,.string ⟨#[]⟩,.int .i64 0,.int .i64 0,.slice none 0 0]
def vA1 (p0:Int) (p1:Int) (p2:Int) (p3:Bl):Array Value:= #[.bool p3.null,.string (ba p3.data),.int .i64 p0,.int .i64 p1,.int .i64 p2]
def vA2:Array Value:= #[.bool false,.string ⟨#[]⟩,.int .i64 0,.int .i64 0,.int .i64 0]
def vA3:Array Value:= #[.string ⟨#[]⟩,.int .i64 0,.int .i64 0,.slice none 0 0]
def vA4:Array Value:= #[.string ⟨#[]⟩,.int .i64 0,.int .i64 0,.bool false]
def vA5 (p0:Nat) (p1:Nat):Array Value:= #[.pointer (some ⟨p0,0,none⟩),.int .i64 8,.pointer (some ⟨p0,1,none⟩),.int .i64 4,.pointer (some ⟨p0,2,none⟩),.int .i64 4,.pointer (some ⟨p1,0,none⟩),.int .i64 1,.pointer (some ⟨p0,3,none⟩),.int .i64 4,.pointer (some ⟨p0,4,none⟩),.int .i64 2,.pointer (some ⟨p0,5,none⟩),.int .i64 4,.pointer (some ⟨p0,6,none⟩),.int .i64 8,.pointer (some ⟨p0,7,none⟩),.int .i64 8,.pointer (some ⟨p0,8,none⟩),.int .i64 8,.pointer (some ⟨p0,9,none⟩),.int .i64 2,.pointer (some ⟨p0,10,none⟩),.int .i64 4,.pointer (some ⟨p0,11,none⟩),.int .i64 4]
def vA6:Array Value:= #[.int .i64 0,.int .i64 0,.int .i64 0,.int .i64 0,.int .i64 0,.int .i64 0,.int .i64 0,.int .i64 0,.int .i64 0,.int .i64 0,.int .i64 0,.int .i64 0]
def vA7 (p0:Int) (p1:Int):Array Value:= #[.int .i64 p0,.int .i64 p1,.bool false,.string ⟨#[]⟩,.bool false,.string ⟨#[]⟩,.slice none 0 0]
def vA8 (p0:Int) (p1:Int) (p2:Bl):Array Value:= #[.int .i64 p0,.int .i64 p1,.bool p2.null,.string (ba p2.data),.bool false,.string ⟨#[]⟩,.slice none 0 0]
def vA9 (p0:Int) (p1:Int) (p2:Bl) (p3:Bl):Array Value:= #[.int .i64 p0,.int .i64 p1,.bool p2.null,.string (ba p2.data),.bool p3.null,.string (ba p3.data),.slice none 0 0]
def we (p0:Int) (p1:Int) (p2:Option Addr) (p3:Nat) (p4:Nat) (p5:Bl) (p6:Bl):Array Value:= #[.int .i64 p0,.int .i64 p1,.bool p5.null,.string (ba p5.data),.bool p6.null,.string (ba p6.data),.slice p2 p4 p3]
def vL11 (p0:Int) (p1:Int) (p2:Option Addr) (p3:Nat) (p4:Nat) (p5:Bl) (p6:Bl):List Value := [.int .i64 p0,.int .i64 p1,.bool p5.null,.string (ba p5.data),.bool p6.null,.string (ba p6.data),.slice p2 p4 p3]
def sw:Array Value:= #[.int .i64 0,.int .i64 0,.bool false,.string ⟨#[]⟩,.bool false,.string ⟨#[]⟩,.slice none 0 0]
def mX:Array Value:= #[.int .i64 0,.int .i64 0,.bool false,.bool false,.bool false,.int .i64 0,.int .i64 0,.int .i64 0,.int .i64 0,.int .i64 0,.int .i64 0,.slice none 0 0]
def DO (p0:Int) (p1:Int) (p2:Option Addr) (p3:Nat) (p4:Nat) (p5:Bl):Array Value:= #[.bool p5.null,.string (ba p5.data),.int .i64 p0,.int .i64 p1,.slice p2 p4 p3]
def AX (p0:Int) (p1:Int) (p2:Int) (p3:Bl):Array Value:= #[.int .i64 p0,.int .i64 p1,.int .i64 p2,.bool p3.null,.string (ba p3.data)]
def AY:Array Value:= #[.int .i64 0,.int .i64 0,.int .i64 0,.bool false,.string ⟨#[]⟩]
def kY:Array Value:= #[.int .i64 0,.int .i64 0,.int .i64 0,.bool false,.string ⟨#[]⟩,.bool false,.string ⟨#[]⟩,.int .i64 0,.int .i64 0,.int .i64 0,.string ⟨#[]⟩,.int .i64 0,.int .i64 0,.slice none 0 0,.string ⟨#[]⟩,.int .i64 0,.int .i64 0,.bool false,.slice none 0 0,.bool false,.string ⟨#[]⟩,.int .i64 0,.int .i64 0,.slice none 0 0]
def vA18 (p0:Int) (p1:aX):Array Value:= #[.int .i64 (p1.fcount.fmany+1),.int .i64 (p1.fcount.fat+p0),.string (ba p1.fheld),.int .i64 p1.ferr]
def vA19 (p0:aX):Array Value:= #[.int .i64 (p0.fcount.fmany+1),.int .i64 p0.fcount.fat,.string (ba p0.fheld),.int .i64 p0.ferr]
def vA20 (p0:Int) (p1:Int) (p2:List UInt8) (p3:Int):Array Value:= #[.int .i64 p0,.int .i64 p1,.string (ba p2),.int .i64 p3]
section
variable {P:Program} {n:Nat} {F0:Nat->Prop} {w0:World} {e e':Env} {Rs Rs' Rf:List Res} {Q:Exit->Act->World->Prop} {K:Act->World->Prop} {ops:Array Oper} {ft:eO} {x y z:Code} {c:Operand} {id:Nat} {os:List Oper} {l:List Nat}
theorem rT {S:World->Prop} {G:World->Nat->Prop}: ∀ w,S w->RX.triv.reads w (G w):=fun w _=>Lv w (G w)
theorem sT {S:World->Prop} {F0:Nat->Prop} {w0:World} {Rs:List Res} {i:Nat}: ∀ w,S w->Src F0 w0 Rs w i .triv:=fun _ _=>Src.triv i
theorem KN (hl:List.range os.toArray.size=l) (h:TL P n F0 w0 os.toArray l e Rs (Exit.then (y.wp P Q) Q)):T P n F0 w0 e Rs (.seq (.region id os.toArray false) y) Q:=T.seq (T.region hl h)
theorem L0 (h:T P n F0 w0 e Rs x (Exit.then (z.wp P (Exit.then (y.wp P Q) Q)) (Exit.then (y.wp P Q) Q))):T P n F0 w0 e Rs (.seq (.seq x z) y) Q:=T.seq (T.seq h)
theorem KP (h:T P n F0 w0 e Rs y Q):TL P n F0 w0 ops [] e Rs (Exit.then (y.wp P Q) Q):=TL.nil (X.seq h)
theorem LK (h:T P n F0 w0 e Rs y Q):TD P n F0 w0 ops .nil Rf e Rs (Exit.then (y.wp P Q) Q):=TD.nil (X.seq h)
theorem K8 (h:T P n F0 w0 e Rs y Q):T P n F0 w0 e Rs .skip (Exit.then (y.wp P Q) Q):=T.skip (X.seq h)
theorem L2 {p:Prop} [Decidable p] (hc:e.ev c=some (.bool (decide p))) (hb:p) (h:T P n F0 w0 e Rs x Q):T P n F0 w0 e Rs (.cond c x y) Q:=K1 hc (NB hb) h
theorem L3 {p:Prop} [Decidable p] (hc:e.ev c=some (.bool (decide p))) (hb: ¬p) (h:T P n F0 w0 e Rs y Q):T P n F0 w0 e Rs (.cond c x y) Q:=Li hc (NC hb) h
theorem T.yn {p:Prop} [Decidable p] (hc:e.ev c=some (.bool (!decide p))) (hb: ¬p) (h:T P n F0 w0 e Rs x Q):T P n F0 w0 e Rs (.cond c x y) Q:=K1 hc (by simp[hb]) h
theorem T.nn {p:Prop} [Decidable p] (hc:e.ev c=some (.bool (!decide p))) (hb:p) (h:T P n F0 w0 e Rs y Q):T P n F0 w0 e Rs (.cond c x y) Q:=Li hc (by simp[hb]) h
theorem Lh {p:Prop} [Decidable p] (hc:e.ev c=some (.bool (decide p))) (hb:p) (h:T P n F0 w0 e Rs x Q):TL P n F0 w0 ops [] e Rs (Exit.then ((Code.cond c x y).wp P Q) Q):=KP (L2 hc hb h)
theorem Lg {p:Prop} [Decidable p] (hc:e.ev c=some (.bool (decide p))) (hb: ¬p) (h:T P n F0 w0 e Rs y Q):TL P n F0 w0 ops [] e Rs (Exit.then ((Code.cond c x y).wp P Q) Q):=KP (L3 hc hb h)
theorem Lq {p:Prop} [Decidable p] (hc:e.ev c=some (.bool (!decide p))) (hb: ¬p) (h:T P n F0 w0 e Rs x Q):TL P n F0 w0 ops [] e Rs (Exit.then ((Code.cond c x y).wp P Q) Q):=KP (T.yn hc hb h)
theorem Lr {p:Prop} [Decidable p] (hc:e.ev c=some (.bool (!decide p))) (hb:p) (h:T P n F0 w0 e Rs y Q):TL P n F0 w0 ops [] e Rs (Exit.then ((Code.cond c x y).wp P Q) Q):=KP (T.nn hc hb h)
theorem Ld (hl:List.range os.toArray.size=l) (h:TL P n F0 w0 os.toArray l e Rs (Exit.then (y.wp P Q) Q)):TL P n F0 w0 ops [] e Rs (Exit.then ((Code.seq (.region id os.toArray false) y).wp P Q) Q):=KP (KN hl h)
theorem Lk (hl:List.range os.toArray.size=l) (h:TL P n F0 w0 os.toArray l e Rs (Exit.then (y.wp P Q) Q)):T P n F0 w0 e Rs .skip (Exit.then ((Code.seq (.region id os.toArray false) y).wp P Q) Q):=K8 (KN hl h)
theorem KM (hft:ft.OK P) (k:Nat) (h:yY ft n ops e (l.take k)=some e') (K:TL P n F0 w0 ops (l.drop k) e' Rs Q):TL P n F0 w0 ops l e Rs Q:=TL.run hft (l.take k) (List.take_append_drop k l).symm h K
theorem KX (hft:ft.OK P) (h:yY ft n ops e l=some e') (K:T P n F0 w0 e' Rs y Q):TL P n F0 w0 ops l e Rs (Exit.then (y.wp P Q) Q):=TL.run hft l (NW l).symm h (KP K)
theorem Le (hft:ft.OK P) (h:yY ft n ops e l=some e') {l':List Nat} (hl:List.range os.toArray.size=l') (K:TL P n F0 w0 os.toArray l' e' Rs (Exit.then (y.wp P Q) Q)):TL P n F0 w0 ops l e Rs (Exit.then ((Code.seq (.region id os.toArray false) y).wp P Q) Q):=KX hft h (KN hl K)
theorem Lz (hft:ft.OK P) (h:um ft [] #[] n ops e [] l=some (e',[])) (K:T P n F0 w0 e' Rs y Q):TL P n F0 w0 ops l e Rs (Exit.then (y.wp P Q) Q):=by have h3:=MK (l := []) hft l h (KP K); rwa [NW] at h3
theorem L6 {nt:List Nat} {cs:Array Value} {b T':Nat} {L:List Nat} (hft:ft.OK P) (hnt:NOK P nt) (j:Nat) (hi:Rs[j]? = some (aV b T' cs)) (h:um ft nt cs n ops e [] l=some (e',L)) (hL:L=L.map fun _=>b) (K:T P n F0 w0 e' Rs y Q):TL P n F0 w0 ops l e Rs (Exit.then (y.wp P Q) Q):=KR hft hnt j hi l.length (by rw[List.take_length]; exact h) hL (by rw[List.drop_length]; exact KP K)
theorem KO {i d:Nat} {op:Op} {ty:TypeId} {pos:String} {af:Array Edge} {v:Value} (ho:ops[i]? = some ⟨some d,op,ty,pos,af,none⟩) (hx:Ex P n e (St F0 w0 Rs) ⟨some d,op,ty,pos,af,none⟩ v) (hd:Nat.blt d n=true) (h:TL P n F0 w0 ops l ((d,v)::e) Rs Q):TL P n F0 w0 ops (i::l) e Rs Q:=TL.q ho .u hx hd h
theorem KU {i d:Nat} {op:Op} {ty:TypeId} {pos:String} {af:Array Edge} {v:Value} {lo:Sch} (ho:ops[i]? = some ⟨some d,op,ty,pos,af,none⟩) (hx:Ex P n e (St F0 w0 Rf) ⟨some d,op,ty,pos,af,none⟩ v) (hd:Nat.blt d n=true) (h:TD P n F0 w0 ops lo Rf ((d,v)::e) Rs Q):TD P n F0 w0 ops (.q i lo) Rf e Rs Q:=TD.q ho .u hx hd h
theorem K0 {n:Nat} {F0:Nat->Prop} {w0:World} {e e':Env} {Rs Rs':List Res} {Q:Exit->Act->World->Prop} {R:Env->List Res->Prop} (is:List Nat) (hR:R e' Rs':=by exact⟨rfl,rfl⟩) (he:Sub e' e:=by rfl) (hr:Sel Rs is Rs':=by rfl):X n F0 w0 e Rs .normal (Exit.then (JK n F0 w0 R) Q):=X.jq is hR he hr
theorem KY {P:Program} {n:Nat} {F0:Nat->Prop} {w0:World} {e:Env} {Rs Ns:List Res} {A':Res} {f:Func} {r1:ResultVar} {v1:Value} {z:Exit} {R:Value->Res->List Res->Prop} (is:List Nat) (hf:f.results= #[r1]) (h1:RV P n F0 w0 e Rs r1 v1) (hR:R v1 A' Ns:=by exact⟨rfl,rfl,rfl⟩) (hr:Sel Rs is (A'::Ns):=by rfl) (hx:z= .ret\/z= .normal:=by exact .inl rfl):X n F0 w0 e Rs z (bodyPost P f (sd R F0 w0)):=Ll is hf h1 hR hr hx
def DP:List Res->Nat->Res->Option (List Res)
 | [],_,_=>none
 | _::r,0,b=>some (b::r)
 | a::r,k+1,b=>match DP r k b with
  | some l=>some (a::l)
  | none=>none
theorem tk: ∀ {Rs:List Res} {k:Nat} {b:Res} {l:List Res},DP Rs k b=some l->Rs.set k b=l
 | [],_,_,_,h=>by cases h
 | _::r,0,b,l,h=>by cases h; rfl
 | a::r,k+1,b,l,h=>by
  simp only[DP] at h;split at h
  · rename_i l' h';cases h;rw[List.set_cons_succ,tk h']
  · cases h
theorem KZ {i d:Nat} {cl:Call} {ty:TypeId} {pos:String} {af:Array Edge} {gd:Option (Nat×Bool)} {f:FuncId} {vs:List Value} {A B:Res} {Y:RX} {v:Value} (k:Nat) (hi:Rs[k]? = some A) (ho:ops[i]? = some ⟨some d,.call cl,ty,pos,af,gd⟩) (hw:Wd n ops e ⟨some d,.call cl,ty,pos,af,gd⟩ true) (hc:CT P n e ⟨some d,.call cl,ty,pos,af,gd⟩ f vs) (hs:aG P f vs.toArray Y A (fun v' A' N=>v'=v/\A'=B/\N = [])) (hr: ∀ w,St F0 w0 Rs w->Src F0 w0 Rs w k Y) (hd:Nat.blt d n=true) (hR:DP Rs k B=some Rs') (h:TL P n F0 w0 ops l ((d,v)::e) Rs' Q):TL P n F0 w0 ops (i::l) e Rs Q:=by
 refine Me ho hw (Ef.call k hc hi hs hr hd) ?_;rintro _ _ ⟨_,_,_,⟨rfl,rfl,rfl⟩,rfl,rfl⟩;rw[tk hR];exact h
theorem LR {lo:Sch} {i d:Nat} {cl:Call} {ty:TypeId} {pos:String} {af:Array Edge} {gd:Option (Nat×Bool)} {f:FuncId} {vs:List Value} {A B:Res} {Y:RX} {v:Value} (k:Nat) (hi:Rs[k]? = some A) (ho:ops[i]? = some ⟨some d,.call cl,ty,pos,af,gd⟩) (hw:Wd n ops e ⟨some d,.call cl,ty,pos,af,gd⟩ true) (hc:CT P n e ⟨some d,.call cl,ty,pos,af,gd⟩ f vs) (hs:aG P f vs.toArray Y A (fun v' A' N=>v'=v/\A'=B/\N = [])) (hr: ∀ w,St F0 w0 Rs w->Src F0 w0 Rs w k Y) (hd:Nat.blt d n=true) (hR:DP Rs k B=some Rs') (is:List Nat) (hf:Sel Rs' is Rf) (h:TD P n F0 w0 ops lo Rf ((d,v)::e) Rs' Q):TD P n F0 w0 ops (.e i lo) Rf e Rs Q:=by
 refine Mp ho hw (Ef.call k hc hi hs hr hd) ?_;rintro _ _ ⟨_,_,_,⟨rfl,rfl,rfl⟩,rfl,rfl⟩;rw[tk hR];exact⟨Rf,fun w hw=>hw.sel is hf,fun _ h=>h,h⟩
theorem K3 {i o z:Nat} {b T':Nat} {t ty:TypeId} {x y:Operand} {v:Value} {pos:String} {af:Array Edge} {gd:Option (Nat×Bool)} {cs cs':Array Value} (k:Nat) (hi:Rs[k]? = some (aV b T' cs)) (ho:ops[i]? = some ⟨none,.store t x y,ty,pos,af,gd⟩) (hw:Wd n ops e ⟨none,.store t x y,ty,pos,af,gd⟩ true) (hx:e.ev x=some (.pointer (some ⟨b,o,none⟩))) (hy:e.ev y=some v) (hz: ∀ w,(sizeOf t).run P w= .ok z w) (hvz:Nat.beq v.cells.size z=true) (hf':Nat.ble (o+v.cells.size) cs.size=true) (ho':v.cells.toList.all (·.oneCell')=true) (hc:(cs.toList.take o++v.cells.toList++cs.toList.drop (o+v.cells.size)).toArray=cs') (hR:DP Rs k (aV b T' cs')=some Rs') (h:TL P n F0 w0 ops l e Rs' Q):TL P n F0 w0 ops (i::l) e Rs Q:=by
 refine Me ho hw (Ef.st k hx hy hz hi hvz hf' ho' hc) ?_;rintro _ _ ⟨rfl,rfl⟩;rw[tk hR];exact h
theorem LP {lo:Sch} {i o z:Nat} {b T':Nat} {t ty:TypeId} {x y:Operand} {v:Value} {pos:String} {af:Array Edge} {gd:Option (Nat×Bool)} {cs cs':Array Value} (k:Nat) (hi:Rs[k]? = some (aV b T' cs)) (ho:ops[i]? = some ⟨none,.store t x y,ty,pos,af,gd⟩) (hw:Wd n ops e ⟨none,.store t x y,ty,pos,af,gd⟩ true) (hx:e.ev x=some (.pointer (some ⟨b,o,none⟩))) (hy:e.ev y=some v) (hz: ∀ w,(sizeOf t).run P w= .ok z w) (hvz:Nat.beq v.cells.size z=true) (hf':Nat.ble (o+v.cells.size) cs.size=true) (ho':v.cells.toList.all (·.oneCell')=true) (hc:(cs.toList.take o++v.cells.toList++cs.toList.drop (o+v.cells.size)).toArray=cs') (hR:DP Rs k (aV b T' cs')=some Rs') (is:List Nat) (hf:Sel Rs' is Rf) (h:TD P n F0 w0 ops lo Rf e Rs' Q):TD P n F0 w0 ops (.e i lo) Rf e Rs Q:=by
 refine Mp ho hw (Ef.st k hx hy hz hi hvz hf' ho' hc) ?_;rintro _ _ ⟨rfl,rfl⟩;rw[tk hR];exact⟨Rf,fun w hw=>hw.sel is hf,fun _ h=>h,h⟩
end
def uo:eO := [(171,0,0),(171,1,1)]
theorem bN:(uo).OK Tryz.prog:=⟨FOK.mk OW rfl N6 rfl,FOK.mk OW rfl Px rfl,trivial⟩
def uq:List Nat := [9,74]
theorem mp:NOK Tryz.prog uq:=⟨Oc,OM,trivial⟩
def fY:List Top->Int->Int->Option (Lp Int (Int×Int))
 | [],y3,y4=>some (Lp.go (y3,y4))
 | x10::xs,y3,y4=>if -9223372036854775808<=(4*(x10.MP.length:Int))/\(4*(x10.MP.length:Int))<=9223372036854775807 then (if -9223372036854775808<=((x10.MV.length:Int)+(4*(x10.MP.length:Int)))/\((x10.MV.length:Int)+(4*(x10.MP.length:Int)))<=9223372036854775807 then (if -9223372036854775808<=(((x10.MV.length:Int)+(4*(x10.MP.length:Int)))+6)/\(((x10.MV.length:Int)+(4*(x10.MP.length:Int)))+6)<=9223372036854775807 then (if -9223372036854775808<=(y4+(((x10.MV.length:Int)+(4*(x10.MP.length:Int)))+6))/\(y4+(((x10.MV.length:Int)+(4*(x10.MP.length:Int)))+6))<=9223372036854775807 then (if (y4+(((x10.MV.length:Int)+(4*(x10.MP.length:Int)))+6))>1000 then some (Lp.ret 0) else (fY xs y3 (y4+(((x10.MV.length:Int)+(4*(x10.MP.length:Int)))+6)))) else none) else none) else none) else none
def kZ (a0:List Top):Option (Int):=(fY a0 0 0).bind fun e=>match e with | .ret r=>some r | .go (y23,y24)=>some 1
theorem qq (a0:List Top) (A1:Option Addr) (c2:Nat) (r:Int) (h:kZ a0=some r):aG Tryz.prog 44 #[.slice A1 a0.length c2] (RX.of (aq 2 bh) [.slice A1 a0.length c2] a0) (aL) (fun v A' N=>v=jI r/\A'=aL/\N = []):=by
 refine aU Tryz.func44 Z Tryz.ntmps44 Z ?_;intro F w hX;unfold kZ at h;refine KN Z (Le bN Z Z (KX bN Z (T.seq (KN Z (KM bN 1 Z (KO Z (K4 Z NQ) Z (KM bN 1 Z ?_)))))));refine KP (T.block ?_);obtain⟨E6,hE7,hO8⟩:=Ny h;have hk12len:=LG hX;refine LB (fun m e Rs=> ∃ (y3:Int) (y4:Int) (k5:Nat),k5+m=a0.length/\e = [(2,jI y3),(3,jI y4),(6,.slice A1 a0.length c2),(7,jI (a0.length:Int)),(8,jI (k5:Int))]/\Rs = [aL]/\fY (a0.drop k5) y3 y4=some E6) (a0.length) [0] ⟨0,0,0,by simp,Z,Z,by rw[List.drop_zero]; exact hE7⟩ QW QW ?_;clear hE7 h;rintro m9 _ _ ⟨y3,y4,k5,hk12,rfl,rfl,h⟩
 cases m9 with
 | zero =>
  rw[List.drop_of_length_le QR,fY] at h;have hk12ge: ¬ ((k5:Int)<(a0.length:Int)):=by omega
  refine KN Z (KX bN Z (T.seq (Li Z (NC hk12ge) ?_)));obtain rfl:=Nz h;replace h:=hO8;clear hO8;refine T.exit (K5 (K5 (Ly (X.seq (KN Z (KM bN 1 Z ?_))))));obtain rfl:=Nz h;exact KP (T.ret (KY [0] Tryz.results44 (KQ Z)))
 | succ m9 =>
  obtain⟨x10,hxx10⟩: ∃ x,a0[k5]? = some x:=⟨_,List.getElem?_eq_getElem QR⟩;rw[bH hxx10,fY] at h;have hk12lt:(k5:Int)<(a0.length:Int):=by omega
  refine KN Z (KX bN Z (T.seq (K1 Z (NB hk12lt) ?_)));obtain⟨gz13,oz13,rfl,z13cs,z13cl,z13cc,z13nf,z13r⟩:=Lm QS hX hxx10;obtain⟨z13S,z13r,z13rr⟩:=z13r;obtain⟨A14,c15,rfl,z13s0⟩:=z13r;have hX16:(RX.of (aq 1 ea) [.slice A14 x10.MP.length c15] x10.MP).reads w F:=⟨z13S,z13s0,z13rr⟩;refine K8 (T.seq (T.block (KN Z ?_)));refine KO Z (K6 (k:=k5) Z Z Z NQ N5 (ND hxx10).1) Z ?_;refine KO Z (LM (us := [jS x10.MV,.slice A14 x10.MP.length c15]) 0 Z P3 N5 z13nf z13cc Z Z Z) Z (TL.alloc Z .u Tryz.zeroValue171 Z (fun b17=>(K3 0 Z (cs':= #[jS x10.MV,.slice A14 x10.MP.length c15]) Z .u Z Z N5 Z Z Z Z Z (Ld Z (KR bN mp 0 Z 3 Z Z (KO Z (LD Z NK) Z (KR bN mp 0 Z 2 Z Z (KO Z (K4 Z NN) Z ?_))))))));obtain⟨c18,h⟩:=al h;refine KO Z (Ex.mul Z Z c18) Z ?_;obtain⟨c19,h⟩:=al h;refine KO Z (Ex.add Z Z c19) Z ?_;obtain⟨c20,h⟩:=al h;refine KO Z (Ex.add Z Z c20) Z ?_;obtain⟨c21,h⟩:=al h;refine KO Z (Ex.add Z Z c21) Z (Le bN Z Z (KM bN 2 Z ?_));rcases jF h with⟨c22,h⟩ | ⟨c22,h⟩
  ·refine Lh Z c22 (KN Z (KM bN 1 Z ?_));obtain rfl:=Nz h;obtain rfl:=Nz hO8;exact KP (T.ret (K2 (KT (KT (K2 (KT (KY [1] Tryz.results44 (KQ Z))))))))
  exact Lg Z c22 (T.skip (La (X.seq (T.region Z (KO Z (Ex.add Z Z QR) Z (KM bN 1 Z (TL.nil (X.back (m':=m9) [1] QR ⟨y3,(y4+(((x10.MV.length:Int)+(4*(x10.MP.length:Int)))+6)),k5+1,by omega,Z,Z,h⟩ QW QW))))))))
def ur:eO := [(173,3,3)]
theorem bc:(ur).OK Tryz.prog:=⟨FOK.mk Pf rfl Py rfl,trivial⟩
def ut:List Nat := [28]
theorem rD:NOK Tryz.prog ut:=⟨O7,trivial⟩
theorem pj:SOK Tryz.prog 48 195 1 5 #[.int .i64 0,.int .i64 0,.bool false,.slice none 0 0,.int .i64 0]:=SOK.mk N1 Ou Tryz.zeroValue195 QS QU
theorem pQ:(Tryz.prog.info? 195).map (fun i=>(i.zero,i.size,i.bytes))=some (some (.agg #[.int .i64 0,.int .i64 0,.bool false,.slice none 0 0,.int .i64 0]),5,56):=by kernel_rfl
def fZ:List aR->Int->Option (Lp Int Int)
 | [],y4=>some (Lp.go y4)
 | x10::xs,y4=>(kZ x10.MN).bind fun x18=>if x18=0 then some (Lp.ret 0) else (fZ xs y4)
def mL (a0:List aR):Option (Int):=if (a0.length:Int)>20 then some 0 else ((fZ a0 0).bind fun e=>match e with | .ret r=>some r | .go y21=>some 1)
theorem xw (a0:List aR) (A1:Option Addr) (c2:Nat) (r:Int) (h:mL a0=some r):aG Tryz.prog 45 #[.slice A1 a0.length c2] (RX.of (aq 5 bf) [.slice A1 a0.length c2] a0) (aL) (fun v A' N=>v=jI r/\A'=aL/\N = []):=by
 refine aU Tryz.func45 Z Tryz.ntmps45 Z ?_;intro F w hX;unfold mL at h;refine KN Z (KX bc Z (T.seq (KN Z (KM bc 1 Z (KO Z (K4 Z OH) Z (KM bc 1 Z ?_))))));rcases jF h with⟨c3,h⟩ | ⟨c3,h⟩
 ·refine Lh Z c3 (KN Z (KM bc 1 Z ?_));obtain rfl:=Nz h;exact KP (T.ret (KT (KY [0] Tryz.results45 (KQ Z))))
 refine Lg Z c3 (K8 (T.seq (KN Z (KM bc 1 Z (KO Z (K4 Z OH) Z (KX bc Z (T.block ?_)))))));obtain⟨E6,hE7,hO8⟩:=Ny h;have hk12len:=LG hX;refine LB (fun m e Rs=> ∃ (y4:Int) (k5:Nat),k5+m=a0.length/\e = [(2,jI y4),(8,.slice A1 a0.length c2),(9,jI (a0.length:Int)),(10,jI (k5:Int))]/\Rs = [aL]/\fZ (a0.drop k5) y4=some E6) (a0.length) [0] ⟨0,0,by simp,Z,Z,by rw[List.drop_zero]; exact hE7⟩ QW QW ?_;clear hE7 h;rintro m9 _ _ ⟨y4,k5,hk12,rfl,rfl,h⟩
 cases m9 with
 | zero =>
  rw[List.drop_of_length_le QR,fZ] at h;have hk12ge: ¬ ((k5:Int)<(a0.length:Int)):=by omega
  refine KN Z (KX bc Z (T.seq (Li Z (NC hk12ge) ?_)));obtain rfl:=Nz h;replace h:=hO8;clear hO8;refine T.exit (K5 (K5 (Ly (X.seq (KN Z (KM bc 1 Z ?_))))));obtain rfl:=Nz h;exact KP (T.ret (KY [0] Tryz.results45 (KQ Z)))
 | succ m9 =>
  obtain⟨x10,hxx10⟩: ∃ x,a0[k5]? = some x:=⟨_,List.getElem?_eq_getElem QR⟩;rw[bH hxx10,fZ] at h;have hk12lt:(k5:Int)<(a0.length:Int):=by omega
  refine KN Z (KX bc Z (T.seq (K1 Z (NB hk12lt) ?_)));obtain⟨gz13,oz13,rfl,z13cs,z13cl,z13cc,z13nf,z13r⟩:=Lm QS hX hxx10;obtain⟨z13S,z13r,z13rr⟩:=z13r;obtain⟨A14,c15,rfl,z13s0⟩:=z13r;have hX16:(RX.of (aq 2 bh) [.slice A14 x10.MN.length c15] x10.MN).reads w F:=⟨z13S,z13s0,z13rr⟩;refine K8 (T.seq (T.block (KN Z ?_)));refine KO Z (K6 (k:=k5) Z Z Z OH OJ (ND hxx10).1) Z ?_;refine KO Z (LM (us := [jI x10.MO,jI x10.MR,.bool x10.M7,.slice A14 x10.MN.length c15,jI x10.M0]) 0 Z PK OJ z13nf z13cc Z Z Z) Z (TL.alloc Z .u Tryz.zeroValue173 Z (fun b17=>(K3 0 Z (cs':= #[jI x10.MO,jI x10.MR,.bool x10.M7,.slice A14 x10.MN.length c15,jI x10.M0]) Z .u Z Z OJ Z Z Z Z Z (Ld Z ?_))));obtain⟨x18,hx19,h⟩:=Ny h;refine KR bc rD 0 Z 2 Z Z (Lb Z .u (.fn Tryz.call44 Z) (qq x10.MN _ _ _ hx19) (fun _ hs=>(K7 hs hX16)) Z (KM bc 1 Z ?_));rcases jF h with⟨c20,h⟩ | ⟨c20,h⟩
  ·refine Lh Z c20 (KN Z (KM bc 1 Z ?_));obtain rfl:=Nz h;obtain rfl:=Nz hO8;exact KP (T.ret (K2 (KT (KT (K2 (KT (KY [1] Tryz.results45 (KQ Z))))))))
  exact Lg Z c20 (T.skip (La (X.seq (T.region Z (KO Z (Ex.add Z Z QR) Z (KM bc 1 Z (TL.nil (X.back (m':=m9) [1] QR ⟨y4,k5+1,by omega,Z,Z,h⟩ QW QW))))))))
def g7:List aR->List di->Option (List di)
 | [],y3=>some y3
 | x11::xs,y3=>if (y3.length+1)*56<=140737488355328 then (g7 xs (y3 ++ [(⟨x11.MO,x11.MR,x11.M7,x11.MN,x11.M0⟩:di)])) else none
def qr (a0:List aR):Option (List di):=(g7 a0 []).bind fun y23=>some y23
theorem zc (a0:List aR) (A1:Option Addr) (c2:Nat) (r:List di) (h:qr a0=some r):xt Tryz.prog 58 #[.slice A1 a0.length c2] (RX.of (aq 5 bf) [.slice A1 a0.length c2] a0) aL (fun v A' L=> ∃ (A27:Option Addr) (c28:Nat),v= .slice A27 r.length c28/\A'=aL/\L = [(⟨_,aq 5 co,[.slice A27 r.length c28],r⟩:RO)]):=by
 refine DL Tryz.func58 Z Tryz.ntmps58 Z ?_;intro F w S hS hSF;have hX:(RX.of (aq 5 bf) [.slice A1 a0.length c2] a0).reads w F:=⟨S,hS,hSF⟩;unfold qr at h;refine KN Z (Le bc Z Z (KX bc Z (T.seq (KN Z (KM bc 1 Z (KO Z (K4 Z OH) Z (KM bc 1 Z ?_)))))));refine KP (T.block (LY 195 5 (eW w S co) ?_));obtain⟨E7,hE8,hO9⟩:=Ny h;have hk13len:=LG hX;refine LB (fun m e Rs=> ∃ (y3:List di) (A4:Option Addr) (c5:Nat) (k6:Nat),k6+m=a0.length/\e = [(2,.slice none 0 0),(3,.slice A4 y3.length c5),(6,.slice A1 a0.length c2),(7,jI (a0.length:Int)),(8,jI (k6:Int))]/\Rs = [bG 195 5 (eW w S co) (.slice A4 y3.length c5) y3,aL]/\g7 (a0.drop k6) y3=some E7) (a0.length) [0,0] ⟨[],none,0,0,by simp,Z,Z,by rw[List.drop_zero]; exact hE8⟩ QW QW ?_;clear hE8 h;rintro m10 _ _ ⟨y3,A4,c5,k6,hk13,rfl,rfl,h⟩
 cases m10 with
 | zero =>
  rw[List.drop_of_length_le QR,g7] at h;have hk13ge: ¬ ((k6:Int)<(a0.length:Int)):=by omega
  refine KN Z (KX bc Z (T.seq (Li Z (NC hk13ge) ?_)));obtain rfl:=Nz h;replace h:=hO9;clear hO9;refine T.exit (K5 (K5 (Ly (X.seq (KN Z (KM bc 2 Z ?_))))));obtain rfl:=Nz h;exact KP (T.ret (X.shutO QS 0 Z (LJ [0,0] Z (Ll [1,0] Tryz.results58 (KQ Z) ⟨_,⟨_,_,Z,Z,Z⟩,Z⟩ QW (.inl Z)))))
 | succ m10 =>
  obtain⟨x11,hxx11⟩: ∃ x,a0[k6]? = some x:=⟨_,List.getElem?_eq_getElem QR⟩;rw[bH hxx11,g7] at h;have hk13lt:(k6:Int)<(a0.length:Int):=by omega
  refine KN Z (KX bc Z (T.seq (K1 Z (NB hk13lt) ?_)));obtain⟨gz14,oz14,rfl,z14cs,z14cl,z14cc,z14nf,z14r⟩:=MC QS hS hSF hxx11;obtain⟨A15,c16,rfl,z14s0⟩:=z14r;have hX17:(RX.of (aq 2 bh) [.slice A15 x11.MN.length c16] x11.MN).reads w F:=⟨S,z14s0,hSF⟩;refine K8 (T.seq (T.block (KN Z ?_)));refine KO Z (K6 (k:=k6) Z Z Z OH OJ (ND hxx11).1) Z ?_;refine KO Z (LM (us := [jI x11.MO,jI x11.MR,.bool x11.M7,.slice A15 x11.MN.length c16,jI x11.M0]) 0 Z PK OJ z14nf z14cc Z Z Z) Z (TL.alloc Z .u Tryz.zeroValue173 Z (fun b18=>(K3 0 Z (cs':= #[jI x11.MO,jI x11.MR,.bool x11.M7,.slice A15 x11.MN.length c16,jI x11.M0]) Z .u Z Z OJ Z Z Z Z Z (KP (T.region Z (KM bc 1 Z (KO Z (K9 (us := [jI x11.MO,jI x11.MR,.bool x11.M7,.slice A15 x11.MN.length c16,jI x11.M0]) 0 Z PK OJ Z Z Z) Z ?_)))))));refine L4 (cells:= #[jI x11.MO,jI x11.MR,.bool x11.M7,.slice A15 x11.MN.length c16,jI x11.M0]) Z .u pj Z QU Z (fun b19=> ?_);obtain⟨c20,h⟩:=al h;refine MF 1 Z .u (us := [jI x11.MO,jI x11.MR,.bool x11.M7,.slice A15 x11.MN.length c16,jI x11.M0]) (u:=(⟨x11.MO,x11.MR,x11.M7,x11.MN,x11.M0⟩:di)) (l:=y3) (E:=(eW w S co)) Tryz.underlying48 pQ Z QS Z Z Z Z Z Z (fun _ _=>DK ⟨_,_,Z,z14s0⟩) (by have hq:=c20; omega) (by have hq:=c20; omega) Z (fun A21 c22=> ?_);exact Lt [0,0,0] Z (KM bc 1 Z (TL.nil (La (X.seq (T.region Z (KO Z (Ex.add Z Z QR) Z (KM bc 1 Z (TL.nil (X.back (m':=m10) [1,1] QR ⟨(y3 ++ [(⟨x11.MO,x11.MR,x11.M7,x11.MN,x11.M0⟩:di)]),A21,c22,k6+1,by omega,Z,Z,h⟩ QW QW)))))))))
def uu:eO := [(23,1,1),(91,2,2),(91,3,4),(91,4,6),(97,11,11),(245,0,0),(245,1,1)]
theorem aZ:(uu).OK Tryz.prog:=⟨FOK.mk N2 rfl N6 rfl,FOK.mk N4 rfl NM rfl,FOK.mk N4 rfl NM rfl,FOK.mk N4 rfl Pz rfl,FOK.mk NZ rfl Tryz.sizeOf95 rfl,FOK.mk O1 rfl N6 rfl,FOK.mk O1 rfl NM rfl,trivial⟩
def uv:List Nat := [9,89,95]
theorem db:NOK Tryz.prog uv:=⟨Oc,Qi,PJ,trivial⟩
def eo:List Hd->Int->Option (Lp Int Int)
 | [],y22=>some (Lp.go y22)
 | x28::xs,y22=>if -9223372036854775808<=((x28.Nd.length:Int)+(x28.M3.data.length:Int))/\((x28.Nd.length:Int)+(x28.M3.data.length:Int))<=9223372036854775807 then (if ((x28.Nd.length:Int)+(x28.M3.data.length:Int))>100 then some (Lp.ret 0) else (eo xs y22)) else none
def et:List Rec->Int->Option (Lp Int Int)
 | [],y5=>some (Lp.go y5)
 | x11::xs,y5=>if -9223372036854775808<=((x11.Nd.data.length:Int)+(x11.M3.data.length:Int))/\((x11.Nd.data.length:Int)+(x11.M3.data.length:Int))<=9223372036854775807 then (if ((x11.Nd.data.length:Int)+(x11.M3.data.length:Int))>100 then some (Lp.ret 0) else (if (x11.M2.length:Int)>6 then some (Lp.ret 0) else ((eo x11.M2 y5).bind fun e=>match e with | .ret r=>some (Lp.ret r) | .go y35=>(et xs y35)))) else none
theorem uw (y5:Int):et [] y5=(some (Lp.go y5)):=rfl
theorem ux (x11:Rec) (xs:List Rec) (y5:Int):et (x11::xs) y5=(if -9223372036854775808<=((x11.Nd.data.length:Int)+(x11.M3.data.length:Int))/\((x11.Nd.data.length:Int)+(x11.M3.data.length:Int))<=9223372036854775807 then (if ((x11.Nd.data.length:Int)+(x11.M3.data.length:Int))>100 then some (Lp.ret 0) else (if (x11.M2.length:Int)>6 then some (Lp.ret 0) else ((eo x11.M2 y5).bind fun e=>match e with | .ret r=>some (Lp.ret r) | .go y35=>(et xs y35)))) else none):=rfl
def kb (a0:Bat):Option (Int):=if (a0.MS.length:Int)>12 then some 0 else ((et a0.MS 0).bind fun e=>match e with | .ret r=>some r | .go y37=>some 1)
theorem uy (a0:Bat) (A1:Option Addr) (c2:Nat) (r:Int) (h:kb a0=some r):aG Tryz.prog 92 #[.agg (wA0 a0 A1 c2)] (RX.of (aq 7 cZ) [.slice A1 a0.MS.length c2] a0.MS) (aL) (fun v A' N=>v=jI r/\A'=aL/\N = []):=by
 refine aU Tryz.func92 Z Tryz.ntmps92 Z ?_;intro F w hX;unfold kb at h;refine KN Z (TL.box Z .u Z Z (fun b3=>(KX aZ Z (T.seq (KN Z (KR aZ db 0 Z 2 Z Z (KO Z (K4 Z NT) Z (KM aZ 1 Z ?_))))))));rcases jF h with⟨c4,h⟩ | ⟨c4,h⟩
 ·refine Lh Z c4 (KN Z (KM aZ 1 Z ?_));obtain rfl:=Nz h;exact KP (T.ret (KT (KY [1] Qo (KQ Z))))
 refine Lg Z c4 (K8 (T.seq (KN Z (KR aZ db 0 Z 2 Z Z (KO Z (K4 Z NT) Z (KX aZ Z (T.block ?_)))))));obtain⟨E7,hE8,hO9⟩:=Ny h;have hk13len:=LG hX;refine LB (fun m e Rs=> ∃ (y5:Int) (k6:Nat),k6+m=a0.MS.length/\e = [(2,jI y5),(12,.slice A1 a0.MS.length c2),(13,jI (a0.MS.length:Int)),(14,jI (k6:Int))]/\Rs = [aV b3 97 (wA0 a0 A1 c2),aL]/\et (a0.MS.drop k6) y5=some E7) (a0.MS.length) [0,0] ⟨0,0,by simp,Z,Z,by rw[List.drop_zero]; exact hE8⟩ QW QW ?_;clear hE8 h;rintro m10 _ _ ⟨y5,k6,hk13,rfl,rfl,h⟩
 cases m10 with
 | zero =>
  rw[List.drop_of_length_le QR,uw] at h;have hk13ge: ¬ ((k6:Int)<(a0.MS.length:Int)):=by omega
  refine KN Z (KX aZ Z (T.seq (Li Z (NC hk13ge) ?_)));obtain rfl:=Nz h;replace h:=hO9;clear hO9;refine T.exit (K5 (K5 (Ly (X.seq (KN Z (KM aZ 1 Z ?_))))));obtain rfl:=Nz h;exact KP (T.ret (KY [1] Qo (KQ Z)))
 | succ m10 =>
  obtain⟨x11,hxx11⟩: ∃ x,a0.MS[k6]? = some x:=⟨_,List.getElem?_eq_getElem QR⟩;rw[bH hxx11,ux] at h;have hk13lt:(k6:Int)<(a0.MS.length:Int):=by omega
  refine KN Z (KX aZ Z (T.seq (K1 Z (NB hk13lt) ?_)));obtain⟨gz14,oz14,rfl,z14cs,z14cl,z14cc,z14nf,z14r⟩:=Lm QS hX hxx11;obtain⟨z14S,z14r,z14rr⟩:=z14r;obtain⟨A15,c16,rfl,z14s0⟩:=z14r;have hX17:(RX.of (aq 3 dn) [.slice A15 x11.M2.length c16] x11.M2).reads w F:=⟨z14S,z14s0,z14rr⟩;refine K8 (T.seq (T.block (KN Z ?_)));refine KO Z (K6 (k:=k6) Z Z Z NT NP (ND hxx11).1) Z ?_;refine KO Z (LM (us:=wL1 x11 A15 c16) 0 Z Oj NP z14nf z14cc Z Z Z) Z (TL.alloc Z .u Tryz.zeroValue91 Z (fun b18=>(K3 0 Z (cs':=wA2 x11 A15 c16) Z .u Z Z NP Z Z Z Z Z (KP (T.seq (KN Z (KR aZ db 0 Z 3 Z Z (KO Z (LD Z NK) Z (KR aZ db 0 Z 3 Z Z (KO Z (LD Z NK) Z ?_))))))))));obtain⟨c19,h⟩:=al h;refine KO Z (Ex.add Z Z c19) Z ?_;rcases jF h with⟨c20,h⟩ | ⟨c20,h⟩
  ·refine KM aZ 2 Z (KV 28 Z (NB c20) (Lz aZ Z (K1 Z Z (KN Z (KM aZ 1 Z ?_)))));obtain rfl:=Nz h;obtain rfl:=Nz hO9;exact KP (T.ret (KT (K2 (KT (KT (K2 (KT (KY [2] Qo (KQ Z)))))))))
  refine KM aZ 2 Z (KV 28 Z (NC c20) (KR aZ db 0 Z 2 Z Z (TL.q Z (.g Z Z Z) (K4 Z Ob) Z (KW aZ 2 Z ?_))));rcases jF h with⟨c21,h⟩ | ⟨c21,h⟩
  ·refine Lh Z c21 (KN Z (KM aZ 1 Z ?_));obtain rfl:=Nz h;obtain rfl:=Nz hO9;exact KP (T.ret (KT (K2 (KT (KT (K2 (KT (KY [2] Qo (KQ Z)))))))))
  refine Lg Z c21 (Lk Z (KR aZ db 0 Z 2 Z Z (KO Z (K4 Z Ob) Z (KX aZ Z (T.block ?_)))));obtain⟨E24,hE25,hO26⟩:=Ny h;have hk30len:=LG hX17;refine LB (fun m e Rs=> ∃ (y22:Int) (k23:Nat),k23+m=x11.M2.length/\e = [(2,jI y22),(12,.slice (some ⟨gz14,oz14,none⟩) a0.MS.length c2),(13,jI (a0.MS.length:Int)),(14,jI (k6:Int)),(35,.slice A15 x11.M2.length c16),(36,jI (x11.M2.length:Int)),(37,jI (k23:Int))]/\Rs = [aV b18 91 (wA2 x11 A15 c16),aV b3 97 #[jI a0.Ng,jI a0.M9,.bool a0.Nq,.bool a0.Ni,.bool a0.Nl,jI a0.Nf,jI a0.M4,jI a0.Nn,jI a0.MO,jI a0.MR,jI a0.M5,.slice (some ⟨gz14,oz14,none⟩) a0.MS.length c2],aL]/\eo (x11.M2.drop k23) y22=some E24) (x11.M2.length) [0,0,0] ⟨y5,0,by simp,Z,Z,by rw[List.drop_zero]; exact hE25⟩ QW QW ?_;clear hE25 h;rintro m27 _ _ ⟨y22,k23,hk30,rfl,rfl,h⟩
  cases m27 with
  | zero =>
   rw[List.drop_of_length_le QR,eo] at h;have hk30ge: ¬ ((k23:Int)<(x11.M2.length:Int)):=by omega
   refine KN Z (KX aZ Z (T.seq (Li Z (NC hk30ge) ?_)));obtain rfl:=Nz h;replace h:=hO26;clear hO26;exact T.exit (K5 (K5 (Ly (La (X.seq (T.region Z (KO Z (Ex.add Z Z QR) Z (KM aZ 1 Z (TL.nil (X.back (m':=m10) [1,1] QR ⟨y22,k6+1,by omega,Z,Z,h⟩ QW QW))))))))))
  | succ m27 =>
   obtain⟨x28,hxx28⟩: ∃ x,x11.M2[k23]? = some x:=⟨_,List.getElem?_eq_getElem QR⟩;rw[bH hxx28,eo] at h;have hk30lt:(k23:Int)<(x11.M2.length:Int):=by omega
   refine KN Z (KX aZ Z (T.seq (K1 Z (NB hk30lt) ?_)));obtain⟨gz31,oz31,rfl,z31cs,z31cl,z31cc,z31nf,z31r⟩:=Lm QS hX17 hxx28;obtain⟨z31S,z31r,z31rr⟩:=z31r;obtain rfl:z31cs=(wL3 x28):=z31r;refine K8 (T.seq (T.block (KN Z ?_)));refine KO Z (K6 (k:=k23) Z Z Z Ob OC (ND hxx28).1) Z ?_;refine KO Z (LM (us:=wL3 x28) 0 Z P4 OC z31nf z31cc Z Z Z) Z (TL.alloc Z .u Tryz.zeroValue245 Z (fun b32=>(K3 0 Z (cs':=wA4 x28) Z .u Z Z OC Z Z Z Z Z (Ld Z (KR aZ db 0 Z 2 Z Z (KO Z (LD Z NK) Z (KR aZ db 0 Z 3 Z Z (KO Z (LD Z NK) Z ?_))))))));obtain⟨c33,h⟩:=al h;refine KO Z (Ex.add Z Z c33) Z (KM aZ 1 Z ?_);rcases jF h with⟨c34,h⟩ | ⟨c34,h⟩
   ·refine Lh Z c34 (KN Z (KM aZ 1 Z ?_));obtain rfl:=Nz h;obtain rfl:=Nz hO26;obtain rfl:=Nz hO9;exact KP (T.ret (K2 (KT (KT (K2 (K2 (KT (KT (K2 (KT (KY [3] Qo (KQ Z))))))))))))
   exact Lg Z c34 (T.skip (La (X.seq (T.region Z (KO Z (Ex.add Z Z QR) Z (KM aZ 1 Z (TL.nil (X.back (m':=m27) [1,1,1] QR ⟨y22,k23+1,by omega,Z,Z,h⟩ QW QW))))))))
def uz:eO := [(23,1,1),(36,0,0),(36,1,2),(36,2,3),(36,3,4),(51,3,4),(176,0,0),(176,1,1),(179,1,1),(191,1,1)]
theorem aI:(uz).OK Tryz.prog:=⟨FOK.mk N2 rfl N6 rfl,FOK.mk OX rfl NM rfl,FOK.mk OX rfl NG rfl,FOK.mk OX rfl NG rfl,FOK.mk OX rfl Tryz.sizeOf34 rfl,FOK.mk Pu rfl Tryz.sizeOf49 rfl,FOK.mk PC rfl N6 rfl,FOK.mk PC rfl Qp rfl,FOK.mk PS rfl PT rfl,FOK.mk PU rfl Tryz.sizeOf189 rfl,trivial⟩
def uA:List Nat := [3,9,34,49,174,177,189]
theorem bV:NOK Tryz.prog uA:=⟨NH,Oc,Tryz.isAgg34,Tryz.isAgg49,P5,Ph,Pi,trivial⟩
theorem qt:BOK Tryz.prog 51 #[.bool false,.string ⟨#[]⟩,.int .i64 0,.int .i64 0,.slice none 0 0] [(0,2),(2,1),(3,1),(4,1)]:=BOK.mk Tryz.zeroValue51 Pu (by intro w; simp)
theorem pR:BOK Tryz.prog 191 #[.string ⟨#[]⟩,.slice none 0 0] [(0,1),(1,1)]:=BOK.mk Tryz.zeroValue191 PU (by intro w; simp)
theorem pk:SOK Tryz.prog 49 191 1 2 #[.string ⟨#[]⟩,.slice none 0 0]:=SOK.mk Oq OL Tryz.zeroValue191 QS QU
theorem oL:SOK Tryz.prog 189 193 1 2 #[.int .i64 0,.slice none 0 0]:=SOK.mk Oh Pk Tryz.zeroValue193 QS QU
theorem pS:(Tryz.prog.info? 191).map (fun i=>(i.zero,i.size,i.bytes))=some (some (.agg #[.string ⟨#[]⟩,.slice none 0 0]),2,40):=by kernel_rfl
theorem pT:(Tryz.prog.info? 193).map (fun i=>(i.zero,i.size,i.bytes))=some (some (.agg #[.int .i64 0,.slice none 0 0]),2,32):=by kernel_rfl
def ga:List Bat->Int->Option (Lp Int Int)
 | [],y35=>some (Lp.go y35)
 | x41::xs,y35=>(kb x41).bind fun x49=>if x49=0 then some (Lp.ret 0) else (ga xs y35)
def eP:List aY->Int->Int->Option (Lp Int (Int×Int))
 | [],y19,y20=>some (Lp.go (y19,y20))
 | x26::xs,y19,y20=>if (IntKind.i64.wrap (y20+(IntKind.i64.wrap (10+(IntKind.i64.wrap (100*(x26.MW.length:Int)))))))>2000 then some (Lp.ret 0) else ((ga x26.MW y19).bind fun e=>match e with | .ret r=>some (Lp.ret r) | .go y52=>(eP xs y52 (IntKind.i64.wrap (y20+(IntKind.i64.wrap (10+(IntKind.i64.wrap (100*(x26.MW.length:Int)))))))))
def gb:List aJ->Int->Int->Option (Lp Int (Int×Int))
 | [],y4,y5=>some (Lp.go (y4,y5))
 | x11::xs,y4,y5=>(eP x11.MP y4 (IntKind.i64.wrap (y5+(IntKind.i64.wrap ((x11.MV.length:Int)+10))))).bind fun e=>match e with | .ret r=>some (Lp.ret r) | .go (y54,y55)=>(gb xs y54 y55)
def mM (a0:aA):Option (Int):=(gb a0.MN 0 (a0.MU.data.length:Int)).bind fun e=>match e with | .ret r=>some r | .go (y57,y58)=>(if y58>2000 then some 0 else some 1)
theorem xx (a0:aA) (A1:Option Addr) (c2:Nat) (r:Int) (h:mM a0=some r):aG Tryz.prog 46 #[.agg #[.bool a0.MU.null,jS a0.MU.data,jI a0.Nc,jI a0.MT,.slice A1 a0.MN.length c2]] (RX.of (aq 2 aP) [.slice A1 a0.MN.length c2] a0.MN) (aL) (fun v A' N=>v=jI r/\A'=aL/\N = []):=by
 refine aU Tryz.func46 Z Tryz.ntmps46 Z ?_;intro F w hX;unfold mM at h;refine KN Z (TL.box Z .u Z Z (fun b3=>(Le aI Z Z (KR aI bV 0 Z 3 Z Z (KO Z (LD Z NK) Z (KX aI Z (T.seq (KN Z ?_))))))));refine KR aI bV 0 Z 2 Z Z (KO Z (K4 Z Ox) Z (KX aI Z (T.block ?_)));obtain⟨E7,hE8,hO9⟩:=Ny h;have hk13len:=LG hX;refine LB (fun m e Rs=> ∃ (y4:Int) (y5:Int) (k6:Nat),k6+m=a0.MN.length/\e = [(2,jI y4),(3,jI y5),(15,.slice A1 a0.MN.length c2),(16,jI (a0.MN.length:Int)),(17,jI (k6:Int))]/\Rs = [aV b3 36 #[.bool a0.MU.null,jS a0.MU.data,jI a0.Nc,jI a0.MT,.slice A1 a0.MN.length c2],aL]/\gb (a0.MN.drop k6) y4 y5=some E7) (a0.MN.length) [0,0] ⟨0,(a0.MU.data.length:Int),0,by simp,Z,Z,by rw[List.drop_zero]; exact hE8⟩ QW QW ?_;clear hE8 h;rintro m10 _ _ ⟨y4,y5,k6,hk13,rfl,rfl,h⟩
 cases m10 with
 | zero =>
  rw[List.drop_of_length_le QR,gb] at h;have hk13ge: ¬ ((k6:Int)<(a0.MN.length:Int)):=by omega
  refine KN Z (KX aI Z (T.seq (Li Z (NC hk13ge) ?_)));obtain rfl:=Nz h;replace h:=hO9;clear hO9;refine T.exit (K5 (K5 (Ly (X.seq (T.seq (KN Z (KM aI 2 Z ?_)))))));rcases jF h with⟨c61,h⟩ | ⟨c61,h⟩
  ·refine Lh Z c61 (KN Z (KM aI 1 Z ?_));obtain rfl:=Nz h;exact KP (T.ret (KT (KY [1] QK (KQ Z))))
  refine Lg Z c61 (Lk Z (KM aI 1 Z ?_));obtain rfl:=Nz h;exact KP (T.ret (KY [1] QK (KQ Z)))
 | succ m10 =>
  obtain⟨x11,hxx11⟩: ∃ x,a0.MN[k6]? = some x:=⟨_,List.getElem?_eq_getElem QR⟩;rw[bH hxx11,gb] at h;have hk13lt:(k6:Int)<(a0.MN.length:Int):=by omega
  refine KN Z (KX aI Z (T.seq (K1 Z (NB hk13lt) ?_)));obtain⟨gz14,oz14,rfl,z14cs,z14cl,z14cc,z14nf,z14r⟩:=Lm QS hX hxx11;obtain⟨z14S,z14r,z14rr⟩:=z14r;obtain⟨A15,c16,rfl,z14s0⟩:=z14r;have hX17:(RX.of (aq 2 ca) [.slice A15 x11.MP.length c16] x11.MP).reads w F:=⟨z14S,z14s0,z14rr⟩;refine K8 (T.seq (T.block (KN Z ?_)));refine KO Z (K6 (k:=k6) Z Z Z Ox OD (ND hxx11).1) Z ?_;refine KO Z (LM (us := [jS x11.MV,.slice A15 x11.MP.length c16]) 0 Z P6 OD z14nf z14cc Z Z Z) Z (TL.alloc Z .u Tryz.zeroValue176 Z (fun b18=>(K3 0 Z (cs':= #[jS x11.MV,.slice A15 x11.MP.length c16]) Z .u Z Z OD Z Z Z Z Z (Ld Z (KR aI bV 0 Z 3 Z Z (KO Z (LD Z NK) Z ?_))))));iterate 2 refine KO Z (Ex.addw Z Z) Z ?_
  refine Le aI Z Z (KR aI bV 0 Z 2 Z Z (KO Z (K4 Z Ow) Z (KX aI Z (T.block ?_))));obtain⟨E22,hE23,hO24⟩:=Ny h;have hk28len:=LG hX17;refine LB (fun m e Rs=> ∃ (y19:Int) (y20:Int) (k21:Nat),k21+m=x11.MP.length/\e = [(2,jI y19),(3,jI y20),(15,.slice (some ⟨gz14,oz14,none⟩) a0.MN.length c2),(16,jI (a0.MN.length:Int)),(17,jI (k6:Int)),(28,.slice A15 x11.MP.length c16),(29,jI (x11.MP.length:Int)),(30,jI (k21:Int))]/\Rs = [aV b18 176 #[jS x11.MV,.slice A15 x11.MP.length c16],aV b3 36 #[.bool a0.MU.null,jS a0.MU.data,jI a0.Nc,jI a0.MT,.slice (some ⟨gz14,oz14,none⟩) a0.MN.length c2],aL]/\eP (x11.MP.drop k21) y19 y20=some E22) (x11.MP.length) [0,0,0] ⟨y4,(IntKind.i64.wrap (y5+(IntKind.i64.wrap ((x11.MV.length:Int)+10)))),0,by simp,Z,Z,by rw[List.drop_zero]; exact hE23⟩ QW QW ?_;clear hE23 h;rintro m25 _ _ ⟨y19,y20,k21,hk28,rfl,rfl,h⟩
  cases m25 with
  | zero =>
   rw[List.drop_of_length_le QR,eP] at h;have hk28ge: ¬ ((k21:Int)<(x11.MP.length:Int)):=by omega
   refine KN Z (KX aI Z (T.seq (Li Z (NC hk28ge) ?_)));obtain rfl:=Nz h;replace h:=hO24;clear hO24;exact T.exit (K5 (K5 (Ly (La (X.seq (T.region Z (KO Z (Ex.add Z Z QR) Z (KM aI 1 Z (TL.nil (X.back (m':=m10) [1,1] QR ⟨y19,y20,k6+1,by omega,Z,Z,h⟩ QW QW))))))))))
  | succ m25 =>
   obtain⟨x26,hxx26⟩: ∃ x,x11.MP[k21]? = some x:=⟨_,List.getElem?_eq_getElem QR⟩;rw[bH hxx26,eP] at h;have hk28lt:(k21:Int)<(x11.MP.length:Int):=by omega
   refine KN Z (KX aI Z (T.seq (K1 Z (NB hk28lt) ?_)));obtain⟨gz29,oz29,rfl,z29cs,z29cl,z29cc,z29nf,z29r⟩:=Lm QS hX17 hxx26;obtain⟨z29S,z29r,z29rr⟩:=z29r;obtain⟨A30,c31,rfl,z29s0⟩:=z29r;have hX32:(RX.of (aq 12 dJ) [.slice A30 x26.MW.length c31] x26.MW).reads w F:=⟨z29S,z29s0,z29rr⟩;refine K8 (T.seq (T.block (KN Z ?_)));refine KO Z (K6 (k:=k21) Z Z Z Ow Ov (ND hxx26).1) Z ?_;refine KO Z (LM (us := [jI x26.M8,.slice A30 x26.MW.length c31]) 0 Z PI Ov z29nf z29cc Z Z Z) Z (TL.alloc Z .u Tryz.zeroValue179 Z (fun b33=>(K3 0 Z (cs':= #[jI x26.M8,.slice A30 x26.MW.length c31]) Z .u Z Z Ov Z Z Z Z Z (KP (T.seq (KN Z (KR aI bV 0 Z 3 Z Z (KO Z (K4 Z N7) Z (KO Z (Ex.mulw Z Z) Z ?_)))))))));iterate 2 refine KO Z (Ex.addw Z Z) Z ?_
   refine Le aI Z Z (KM aI 2 Z ?_);rcases jF h with⟨c34,h⟩ | ⟨c34,h⟩
   ·refine Lh Z c34 (KN Z (KM aI 1 Z ?_));obtain rfl:=Nz h;obtain rfl:=Nz hO24;obtain rfl:=Nz hO9;exact KP (T.ret (KT (K2 (KT (KT (K2 (K2 (KT (KT (K2 (KT (KY [3] QK (KQ Z)))))))))))))
   refine Lg Z c34 (Lk Z (KR aI bV 0 Z 2 Z Z (KO Z (K4 Z N7) Z (KX aI Z (T.block ?_)))));obtain⟨E37,hE38,hO39⟩:=Ny h;have hk43len:=LG hX32;refine LB (fun m e Rs=> ∃ (y35:Int) (k36:Nat),k36+m=x26.MW.length/\e = [(2,jI y35),(3,jI (IntKind.i64.wrap (y20+(IntKind.i64.wrap (10+(IntKind.i64.wrap (100*(x26.MW.length:Int)))))))),(15,.slice (some ⟨gz14,oz14,none⟩) a0.MN.length c2),(16,jI (a0.MN.length:Int)),(17,jI (k6:Int)),(28,.slice (some ⟨gz29,oz29,none⟩) x11.MP.length c16),(29,jI (x11.MP.length:Int)),(30,jI (k21:Int)),(44,.slice A30 x26.MW.length c31),(45,jI (x26.MW.length:Int)),(46,jI (k36:Int))]/\Rs = [aV b33 179 #[jI x26.M8,.slice A30 x26.MW.length c31],aV b18 176 #[jS x11.MV,.slice (some ⟨gz29,oz29,none⟩) x11.MP.length c16],aV b3 36 #[.bool a0.MU.null,jS a0.MU.data,jI a0.Nc,jI a0.MT,.slice (some ⟨gz14,oz14,none⟩) a0.MN.length c2],aL]/\ga (x26.MW.drop k36) y35=some E37) (x26.MW.length) [0,0,0,0] ⟨y19,0,by simp,Z,Z,by rw[List.drop_zero]; exact hE38⟩ QW QW ?_;clear hE38 h;rintro m40 _ _ ⟨y35,k36,hk43,rfl,rfl,h⟩
   cases m40 with
   | zero =>
    rw[List.drop_of_length_le QR,ga] at h;have hk43ge: ¬ ((k36:Int)<(x26.MW.length:Int)):=by omega
    refine KN Z (KX aI Z (T.seq (Li Z (NC hk43ge) ?_)));obtain rfl:=Nz h;replace h:=hO39;clear hO39;exact T.exit (K5 (K5 (Ly (La (X.seq (T.region Z (KO Z (Ex.add Z Z QR) Z (KM aI 1 Z (TL.nil (X.back (m':=m25) [1,1,1] QR ⟨y35,(IntKind.i64.wrap (y20+(IntKind.i64.wrap (10+(IntKind.i64.wrap (100*(x26.MW.length:Int))))))),k21+1,by omega,Z,Z,h⟩ QW QW))))))))))
   | succ m40 =>
    obtain⟨x41,hxx41⟩: ∃ x,x26.MW[k36]? = some x:=⟨_,List.getElem?_eq_getElem QR⟩;rw[bH hxx41,ga] at h;have hk43lt:(k36:Int)<(x26.MW.length:Int):=by omega
    refine KN Z (KX aI Z (T.seq (K1 Z (NB hk43lt) ?_)));obtain⟨gz44,oz44,rfl,z44cs,z44cl,z44cc,z44nf,z44r⟩:=Lm QS hX32 hxx41;obtain⟨z44S,z44r,z44rr⟩:=z44r;obtain⟨A45,c46,rfl,z44s0⟩:=z44r;have hX47:(RX.of (aq 7 cZ) [.slice A45 x41.MS.length c46] x41.MS).reads w F:=⟨z44S,z44s0,z44rr⟩;refine K8 (T.seq (T.block (KN Z ?_)));refine KO Z (K6 (k:=k36) Z Z Z N7 NR (ND hxx41).1) Z ?_;refine KO Z (LM (us:=wL5 x41 A45 c46) 0 Z Od NR z44nf z44cc Z Z Z) Z (TL.alloc Z .u Tryz.zeroValue97 Z (fun b48=>(K3 0 Z (cs':=wA0 x41 A45 c46) Z .u Z Z NR Z Z Z Z Z (Ld Z (KO Z (K9 (us:=wL5 x41 A45 c46) 0 Z Od NR Z Z Z) Z ?_)))));obtain⟨x49,hx50,h⟩:=Ny h;refine Lb Z .u (.fn Tryz.call92 Z) (uy x41 _ _ _ hx50) (fun _ hs=>(K7 hs hX47)) Z (KM aI 1 Z ?_);rcases jF h with⟨c51,h⟩ | ⟨c51,h⟩
    ·refine Lh Z c51 (KN Z (KM aI 1 Z ?_));obtain rfl:=Nz h;obtain rfl:=Nz hO39;obtain rfl:=Nz hO24;obtain rfl:=Nz hO9;exact KP (T.ret (K2 (KT (KT (K2 (K2 (KT (KT (K2 (K2 (KT (KT (K2 (KT (KY [4] QK (KQ Z))))))))))))))))
    exact Lg Z c51 (T.skip (La (X.seq (T.region Z (KO Z (Ex.add Z Z QR) Z (KM aI 1 Z (TL.nil (X.back (m':=m40) [1,1,1,1] QR ⟨y35,k36+1,by omega,Z,Z,h⟩ QW QW))))))))
def iQ:List aY->List jQ->Option (List jQ)
 | [],y24=>some y24
 | x31::xs,y24=>if (y24.length+1)*32<=140737488355328 then (iQ xs (y24 ++ [(⟨x31.M8,x31.MW⟩:jQ)])) else none
def iR:List aJ->List dF->Option (List dF)
 | [],y7=>some y7
 | x14::xs,y7=>(iQ x14.MP []).bind fun y44=>if (y7.length+1)*40<=140737488355328 then (iR xs (y7 ++ [(⟨x14.MV,y44⟩:dF)])) else none
def mY (a0:aA):Option (bM):=(iR a0.MN []).bind fun y56=>some (⟨a0.MU,a0.Nc,a0.MT,y56⟩:bM)
theorem zd (a0:aA) (A1:Option Addr) (c2:Nat) (r:bM) (h:mY a0=some r):xt Tryz.prog 57 #[.agg #[.bool a0.MU.null,jS a0.MU.data,jI a0.Nc,jI a0.MT,.slice A1 a0.MN.length c2]] (RX.of (aq 2 aP) [.slice A1 a0.MN.length c2] a0.MN) aL (fun v A' L=> ∃ (A59:Option Addr) (c60:Nat),v= .agg #[.bool r.MU.null,jS r.MU.data,jI r.Nc,jI r.MT,.slice A59 r.MN.length c60]/\A'=aL/\L = [(⟨_,aq 2 bR,[.slice A59 r.MN.length c60],r.MN⟩:RO)]):=by
 refine DL Tryz.func57 Z Tryz.ntmps57 Z ?_;intro F w S hS hSF;have hX:(RX.of (aq 2 aP) [.slice A1 a0.MN.length c2] a0.MN).reads w F:=⟨S,hS,hSF⟩;unfold mY at h;refine KN Z (TL.box Z .u Z Z (fun b3=>(TL.alloc Z .u Tryz.zeroValue51 Z (fun b4=>(Ld Z (KM aI 1 Z (KO Z (K9 (us:=wL6 a0.MU) 1 Z Oa NM Z Z Z) Z (KR aI bV 1 Z 4 Z Z ?_))))))));refine KO Z (Lo (cells:= #[.bool a0.MU.null,jS a0.MU.data,jI a0.Nc,jI a0.MT,.slice none 0 0]) qt Z QU) Z ?_;refine TL.alloc Z .u Tryz.zeroValue51 Z (fun b5=>(K3 0 Z (cs':= #[.bool a0.MU.null,jS a0.MU.data,jI a0.Nc,jI a0.MT,.slice none 0 0]) Z .u Z Z Pj Z Z Z Z Z (KP (T.seq (KN Z (KR aI bV 2 Z 2 Z Z (KO Z (K4 Z Ox) Z (KX aI Z (T.block (LY 191 2 (eW w S bR) ?_))))))))));obtain⟨E10,hE11,hO12⟩:=Ny h;have hk16len:=LG hX;refine LB (fun m e Rs=> ∃ (k6:Nat) (y7:List dF) (A8:Option Addr) (c9:Nat),k6+m=a0.MN.length/\e = [(2,jP b4),(3,jP b5),(17,.slice A1 a0.MN.length c2),(18,jI (a0.MN.length:Int)),(19,jI (k6:Int))]/\Rs = [bG 191 2 (eW w S bR) (.slice A8 y7.length c9) y7,aV b5 51 #[.bool a0.MU.null,jS a0.MU.data,jI a0.Nc,jI a0.MT,.slice A8 y7.length c9],aV b4 51 vA0,aV b3 36 #[.bool a0.MU.null,jS a0.MU.data,jI a0.Nc,jI a0.MT,.slice A1 a0.MN.length c2],aL]/\iR (a0.MN.drop k6) y7=some E10) (a0.MN.length) [0,0,0,0,0] ⟨0,[],none,0,by simp,Z,Z,by rw[List.drop_zero]; exact hE11⟩ QW QW ?_;clear hE11 h;rintro m13 _ _ ⟨k6,y7,A8,c9,hk16,rfl,rfl,h⟩
 cases m13 with
 | zero =>
  rw[List.drop_of_length_le QR,iR] at h;have hk16ge: ¬ ((k6:Int)<(a0.MN.length:Int)):=by omega
  refine KN Z (KX aI Z (T.seq (Li Z (NC hk16ge) ?_)));obtain rfl:=Nz h;replace h:=hO12;clear hO12;refine T.exit (K5 (K5 (Ly (X.seq (KN Z (KO Z (K9 (us := [.bool a0.MU.null,jS a0.MU.data,jI a0.Nc,jI a0.MT,.slice A8 y7.length c9]) 1 Z Qj Pj Z Z Z) Z (K3 2 Z (cs':= #[.bool a0.MU.null,jS a0.MU.data,jI a0.Nc,jI a0.MT,.slice A8 y7.length c9]) Z .u Z Z Pj Z Z Z Z Z ?_)))))));obtain rfl:=Nz h;exact KP (T.ret (X.shutO QS 0 Z (LJ [0,0,0,0,0] Z (Ll [4,0] Tryz.results57 (LI (us:= #[.bool a0.MU.null,jS a0.MU.data,jI a0.Nc,jI a0.MT,.slice A8 y7.length c9]) 2 Z Qj Pj Z Z) ⟨_,⟨_,_,Z,Z,Z⟩,Z⟩ QW (.inl Z)))))
 | succ m13 =>
  obtain⟨x14,hxx14⟩: ∃ x,a0.MN[k6]? = some x:=⟨_,List.getElem?_eq_getElem QR⟩;rw[bH hxx14,iR] at h;have hk16lt:(k6:Int)<(a0.MN.length:Int):=by omega
  refine KN Z (KX aI Z (T.seq (K1 Z (NB hk16lt) ?_)));obtain⟨gz17,oz17,rfl,z17cs,z17cl,z17cc,z17nf,z17r⟩:=MC QS hS hSF hxx14;obtain⟨A18,c19,rfl,z17s0⟩:=z17r;have hX20:(RX.of (aq 2 ca) [.slice A18 x14.MP.length c19] x14.MP).reads w F:=⟨S,z17s0,hSF⟩;refine K8 (T.seq (T.block (KN Z ?_)));refine KO Z (K6 (k:=k6) Z Z Z Ox OD (ND hxx14).1) Z ?_;refine KO Z (LM (us := [jS x14.MV,.slice A18 x14.MP.length c19]) 0 Z P6 OD z17nf z17cc Z Z Z) Z (TL.alloc Z .u Tryz.zeroValue176 Z (fun b21=>(K3 0 Z (cs':= #[jS x14.MV,.slice A18 x14.MP.length c19]) Z .u Z Z OD Z Z Z Z Z (Ld Z (KR aI bV 0 Z 2 Z Z ?_)))));refine KO Z (Lo (cells:= #[jS x14.MV,.slice none 0 0]) pR Z QU) Z ?_;refine TL.alloc Z .u Tryz.zeroValue191 Z (fun b22=>(K3 0 Z (cs':= #[jS x14.MV,.slice none 0 0]) Z .u Z Z OL Z Z Z Z Z (KP (T.seq (KN Z (KR aI bV 1 Z 2 Z Z (KO Z (K4 Z Ow) Z (KX aI Z (T.block (LY 193 2 (eW w S fm) ?_))))))))));obtain⟨E27,hE28,hO29⟩:=Ny h;have hk33len:=LG hX20;refine LB (fun m e Rs=> ∃ (k23:Nat) (y24:List jQ) (A25:Option Addr) (c26:Nat),k23+m=x14.MP.length/\e = [(2,jP b4),(3,jP b5),(6,jP b22),(17,.slice (some ⟨gz17,oz17,none⟩) a0.MN.length c2),(18,jI (a0.MN.length:Int)),(19,jI (k6:Int)),(27,.slice A18 x14.MP.length c19),(28,jI (x14.MP.length:Int)),(29,jI (k23:Int))]/\Rs = [bG 193 2 (eW w S fm) (.slice A25 y24.length c26) y24,aV b22 191 #[jS x14.MV,.slice A25 y24.length c26],aV b21 176 #[jS x14.MV,.slice A18 x14.MP.length c19],bG 191 2 (eW w S bR) (.slice A8 y7.length c9) y7,aV b5 51 #[.bool a0.MU.null,jS a0.MU.data,jI a0.Nc,jI a0.MT,.slice A8 y7.length c9],aV b4 51 vA0,aV b3 36 #[.bool a0.MU.null,jS a0.MU.data,jI a0.Nc,jI a0.MT,.slice (some ⟨gz17,oz17,none⟩) a0.MN.length c2],aL]/\iQ (x14.MP.drop k23) y24=some E27) (x14.MP.length) [0,0,0,0,0,0,0,0] ⟨0,[],none,0,by simp,Z,Z,by rw[List.drop_zero]; exact hE28⟩ QW QW ?_;clear hE28 h;rintro m30 _ _ ⟨k23,y24,A25,c26,hk33,rfl,rfl,h⟩
  cases m30 with
  | zero =>
   rw[List.drop_of_length_le QR,iQ] at h;have hk33ge: ¬ ((k23:Int)<(x14.MP.length:Int)):=by omega
   refine KN Z (KX aI Z (T.seq (Li Z (NC hk33ge) ?_)));obtain rfl:=Nz h;replace h:=hO29;clear hO29;refine T.exit (K5 (K5 (Ly (X.seq (T.region Z (KR aI bV 4 Z 2 Z Z (KO Z (K9 (us := [jS x14.MV,.slice A25 y24.length c26]) 1 Z Qs OL Z Z Z) Z (L4 (cells:= #[jS x14.MV,.slice A25 y24.length c26]) Z .u pk Z QW Z (fun b51=> ?_)))))))));obtain⟨c52,h⟩:=al h;refine Mw 3 0 Z .u (us := [jS x14.MV,.slice A25 y24.length c26]) (u:=(⟨x14.MV,y24⟩:dF)) (l:=y7) (E:=(eW w S bR)) Tryz.underlying49 pS Z QS Z Z Z Z Z Z Z (fun w1 G1 hG W h1 h2=>⟨_,_,Z,(fun w G h=>B9 QS w G h) w1 G1 hG W h1 h2⟩) (by have hq:=c52; omega) (by have hq:=c52; omega) Z (fun A53 c54=> ?_);exact Lt [0,0,0,0,0,0,0] Z (KM aI 1 Z (K3 3 Z (cs':= #[.bool a0.MU.null,jS a0.MU.data,jI a0.Nc,jI a0.MT,.slice A53 (y7 ++ [(⟨x14.MV,y24⟩:dF)]).length c54]) Z .u Z Z Tryz.sizeOf49 Z Z Z Z Z (TL.nil (La (X.seq (T.region Z (KO Z (Ex.add Z Z QR) Z (KM aI 1 Z (TL.nil (X.back (m':=m13) [0,2,2,2,2] QR ⟨k6+1,(y7 ++ [(⟨x14.MV,y24⟩:dF)]),A53,c54,by omega,Z,Z,h⟩ QW QW))))))))))
  | succ m30 =>
   obtain⟨x31,hxx31⟩: ∃ x,x14.MP[k23]? = some x:=⟨_,List.getElem?_eq_getElem QR⟩;rw[bH hxx31,iQ] at h;have hk33lt:(k23:Int)<(x14.MP.length:Int):=by omega
   refine KN Z (KX aI Z (T.seq (K1 Z (NB hk33lt) ?_)));obtain⟨gz34,oz34,rfl,z34cs,z34cl,z34cc,z34nf,z34r⟩:=MC QS z17s0 hSF hxx31;obtain⟨A35,c36,rfl,z34s0⟩:=z34r;have hX37:(RX.of (aq 12 dJ) [.slice A35 x31.MW.length c36] x31.MW).reads w F:=⟨S,z34s0,hSF⟩;refine K8 (T.seq (T.block (KN Z ?_)));refine KO Z (K6 (k:=k23) Z Z Z Ow Ov (ND hxx31).1) Z ?_;refine KO Z (LM (us := [jI x31.M8,.slice A35 x31.MW.length c36]) 0 Z PI Ov z34nf z34cc Z Z Z) Z (TL.alloc Z .u Tryz.zeroValue179 Z (fun b38=>(K3 0 Z (cs':= #[jI x31.M8,.slice A35 x31.MW.length c36]) Z .u Z Z Ov Z Z Z Z Z (KP (T.region Z (KR aI bV 2 Z 2 Z Z (KO Z (K9 (us := [jI x31.M8,.slice A35 x31.MW.length c36]) 0 Z PI Ov Z Z Z) Z (L4 (cells:= #[jI x31.M8,.slice A35 x31.MW.length c36]) Z .u oL Z QW Z (fun b39=> ?_)))))))));obtain⟨c40,h⟩:=al h;refine MF 1 Z .u (us := [jI x31.M8,.slice A35 x31.MW.length c36]) (u:=(⟨x31.M8,x31.MW⟩:jQ)) (l:=y24) (E:=(eW w S fm)) Tryz.underlying189 pT Z QS Z Z Z Z Z Z (fun _ _=>DK ⟨_,_,Z,z34s0⟩) (by have hq:=c40; omega) (by have hq:=c40; omega) Z (fun A41 c42=> ?_);exact Lt [0,0,0,0,0,0,0,0,0] Z (KM aI 1 Z (K3 2 Z (cs':= #[jS x14.MV,.slice A41 (y24 ++ [(⟨x31.M8,x31.MW⟩:jQ)]).length c42]) Z .u Z Z Tryz.sizeOf189 Z Z Z Z Z (TL.nil (La (X.seq (T.region Z (KO Z (Ex.add Z Z QR) Z (KM aI 1 Z (TL.nil (X.back (m':=m30) [1,1,1,1,1,1,1,1] QR ⟨k23+1,(y24 ++ [(⟨x31.M8,x31.MW⟩:jQ)]),A41,c42,by omega,Z,Z,h⟩ QW QW))))))))))
def uB:eO := []
theorem aw:(uB).OK Tryz.prog:=trivial
theorem tl:Tryz.prog.follows .mixedOrders=true:=by kernel_rfl
theorem oM:SOK Tryz.prog 74 3 17 1 #[.int .i64 0,.int .i64 0,.int .i64 0,.int .i64 0,.int .i64 0,.int .i64 0,.int .i64 0,.int .i64 0,.int .i64 0,.int .i64 0,.int .i64 0,.int .i64 0,.int .i64 0,.int .i64 0,.int .i64 0,.int .i64 0,.int .i64 0]:=SOK.mk NN NG Tryz.zeroValue3 QS QU
theorem rE:(Tryz.prog.info? 3).map (fun i=>(i.zero,i.size,i.bytes))=some (some (.int .i64 0),1,8):=by kernel_rfl
def hU (a1:Int):Nat->Int->Nat->Option (Int×Nat)
 | 0,_,_=>none
 | m11+1,y6,k7=>if 0<=a1/\a1<=9223372036854775807 then (if (k7:Int)<(a1 % 8) then (if 0<=y6/\y6<=9223372036854775807 then (if -9223372036854775808<=((k7:Int)+1)/\((k7:Int)+1)<=9223372036854775807 then (hU a1 m11 (y6 / 2) (k7+1)) else none) else none) else some (y6,k7)) else none
def oN (a0:List UInt8) (a1:Int):Option (Int):=if 0<=a1/\a1<=9223372036854775807 then (if 0<=(a1 / 8) then ((a0[(a1 / 8).toNat]?).bind fun ch3=>if -9223372036854775808<=(ch3.toNat:Int)/\(ch3.toNat:Int)<=9223372036854775807 then ((hU a1 (((a1 % 8)).toNat+1) (ch3.toNat:Int) 0).bind fun (y20,k21)=>if 0<=y20/\y20<=9223372036854775807 then some (y20 % 2) else none) else none) else none) else none
theorem xy (a0:List UInt8) (a1:Int) (r:Int) (h:oN a0 a1=some r):aG Tryz.prog 207 #[jS a0,jI a1] .triv (aL) (fun v A' N=>v=jI r/\A'=aL/\N = []):=by
 refine aU Tryz.func207 Z Tryz.ntmps207 Z ?_;intro F w hX;unfold oN at h;refine KN Z (Le aw Z Z ?_);obtain⟨c1,h⟩:=al h;refine KM aw 2 Z (KO Z (Ex.quo Z Z QR c1) Z ?_);obtain⟨c2,h⟩:=al h;obtain⟨ch3,hc4,h⟩:=Ny h;refine KO Z (Ex.sIx Z Z ((Int.toNat_of_nonneg c2).symm) Tryz.underlying9 hc4) Z ?_;obtain⟨c5,h⟩:=al h;refine KO Z (Mi Z O0 ON c5) Z (KX aw Z (T.seq (KN Z (KX aw Z (T.block ?_)))));obtain⟨E8,hE9,hO10⟩:=Ny h;refine LB (fun m e Rs=> ∃ (y6:Int) (k7:Nat),e = [(1,jI a1),(4,jI 0),(5,jI y6),(6,jI (k7:Int))]/\Rs = [aL]/\hU a1 m y6 k7=some E8) (((a1 % 8)).toNat+1) [0] ⟨(ch3.toNat:Int),0,Z,Z,by exact hE9⟩ QW QW ?_;clear hE9 h;rintro m11 _ _ ⟨y6,k7,rfl,rfl,h⟩
 cases m11 with
 | zero =>
  rw[hU] at h;cases h
 | succ m11 =>
  rw[hU] at h;refine T.seq (KN Z ?_);obtain⟨c15,h⟩:=al h;refine KM aw 2 Z (KO Z (Ex.rem Z Z QR c15) Z (KM aw 1 Z ?_));rcases jF h with⟨c16,h⟩ | ⟨c16,h⟩
  ·refine Lh Z c16 (K8 (T.seq (T.block (T.region Z ?_))));obtain⟨c17,h⟩:=al h;refine KM aw 1 Z (KO Z (Ex.quo Z Z QR c17) Z (KM aw 1 Z (TL.nil (La (X.seq (T.region Z ?_))))));obtain⟨c18,h⟩:=al h;exact KM aw 1 Z (KO Z (Ex.add Z Z c18) Z (KM aw 1 Z (TL.nil (X.back (m':=m11) [0] QR ⟨(y6 / 2),k7+1,Z,Z,h⟩ QW QW))))
  refine Lg Z c16 ?_;obtain rfl:=Nz h;replace h:=hO10;clear hO10;refine T.exit (K5 (K5 (Ly (X.seq (KN Z ?_)))));obtain⟨c19,h⟩:=al h;refine KM aw 1 Z (KO Z (Ex.rem Z Z QR c19) Z (KM aw 1 Z ?_));obtain rfl:=Nz h;exact KP (T.ret (KY [0] Tryz.results207 (KQ Z)))
def iS (a0:Int):Nat->Int->Nat->Option (Lp Int (Int×Nat))
 | 0,_,_=>none
 | m7+1,y2,k3=>if (k3:Int)<([28,27,26,25,23,22,20,19,18,14,13,11,10,9,8,6,0].length:Int) then (([28,27,26,25,23,22,20,19,18,14,13,11,10,9,8,6,0][k3]?).bind fun x12=>if x12=a0 then some (Lp.ret 1) else (if -9223372036854775808<=((k3:Int)+1)/\((k3:Int)+1)<=9223372036854775807 then (iS a0 m7 y2 (k3+1)) else none)) else (some (Lp.go (y2,k3)))
def lG (a0:Int):Option (Int):=(iS a0 ((([28,27,26,25,23,22,20,19,18,14,13,11,10,9,8,6,0].length:Int)).toNat+1) 0 0).bind fun e=>match e with | .ret r=>some r | .go (y17,k18)=>some 0
theorem oO (a0:Int) (r:Int) (h:lG a0=some r):aG Tryz.prog 208 #[jI a0] .triv (aL) (fun v A' N=>v=jI r/\A'=aL/\N = []):=by
 refine aU Tryz.func208 Z Tryz.ntmps208 Z ?_;intro F w hX;unfold lG at h;refine KN Z (Le aw Z Z ?_);refine L4 (cells:= #[jI 28,jI 27,jI 26,jI 25,jI 23,jI 22,jI 20,jI 19,jI 18,jI 14,jI 13,jI 11,jI 10,jI 9,jI 8,jI 6,jI 0]) Z .u oM Z QU Z (fun b1=> ?_);refine MA (us := [jI 28,jI 27,jI 26,jI 25,jI 23,jI 22,jI 20,jI 19,jI 18,jI 14,jI 13,jI 11,jI 10,jI 9,jI 8,jI 6,jI 0]) (xs := [28,27,26,25,23,22,20,19,18,14,13,11,10,9,8,6,0]) (E:=ea) (z:=1) Z (Nat.le_of_ble_eq_true Z) (fun _=>⟨Z,Z,⟨Z,Z,⟨Z,Z,⟨Z,Z,⟨Z,Z,⟨Z,Z,⟨Z,Z,⟨Z,Z,⟨Z,Z,⟨Z,Z,⟨Z,Z,⟨Z,Z,⟨Z,Z,⟨Z,Z,⟨Z,Z,⟨Z,Z,⟨Z,Z,Z⟩⟩⟩⟩⟩⟩⟩⟩⟩⟩⟩⟩⟩⟩⟩⟩⟩) (KX aw Z (T.seq (KN Z (KX aw Z (T.block ?_)))));obtain⟨E4,hE5,hO6⟩:=Ny h;refine LB (fun m e Rs=> ∃ (y2:Int) (k3:Nat),e = [(0,jI a0),(2,jI y2),(3,.slice (some ⟨b1,0,none⟩) 17 17),(4,jI (k3:Int))]/\Rs = [bG 3 1 ea (.slice (some ⟨b1,0,none⟩) 17 17) [28,27,26,25,23,22,20,19,18,14,13,11,10,9,8,6,0],aL]/\iS a0 m y2 k3=some E4) ((([28,27,26,25,23,22,20,19,18,14,13,11,10,9,8,6,0].length:Int)).toNat+1) [0,0] ⟨0,0,Z,Z,by exact hE5⟩ QW QW ?_;clear hE5 h;rintro m7 _ _ ⟨y2,k3,rfl,rfl,h⟩
 cases m7 with
 | zero =>
  rw[iS] at h;cases h
 | succ m7 =>
  rw[iS] at h;refine T.seq (KN Z (KM aw 2 Z (KO Z (K4 Z NN) Z (KM aw 1 Z ?_))));rcases jF h with⟨c11,h⟩ | ⟨c11,h⟩
  ·refine Lh Z c11 (K8 (T.seq (T.block (KN Z ?_))));obtain⟨x12,hx13,h⟩:=Ny h;refine KM aw 2 Z (Mt (E:=ea) (k:=k3) 0 Z (fun w G h=>bX QS w G h) QS hx13 ?_);rintro gg oo _ ⟨⟩ _ ⟨_,_,rfl⟩;refine Lt [0,0] Z ?_;refine KO Z (K6 (k:=k3) Z Z Z NN NG (ND hx13).1) Z ?_;refine KO Z (Mq (cs := [jI x12]) 0 0 Z NH Z (fun _ _ h=>h.2.2.1) Z) Z (KM aw 2 Z ?_);rcases jF h with⟨c15,h⟩ | ⟨c15,h⟩
   ·refine Lh Z c15 (KN Z (KM aw 1 Z ?_));obtain rfl:=Nz h;obtain rfl:=Nz hO6;exact KP (T.ret (K2 (KT (KT (K2 (KT (KY [1] Tryz.results208 (KQ Z))))))))
   refine Lg Z c15 (T.skip (La (X.seq (T.region Z ?_))));obtain⟨c16,h⟩:=al h;exact KM aw 1 Z (KO Z (Ex.add Z Z c16) Z (KM aw 1 Z (TL.nil (X.unf 0 Z (LJ [0,0] Z (X.back (m':=m7) [0,0] QR ⟨y2,k3+1,Z,Z,h⟩ QW QW))))))
  refine Lg Z c11 ?_;obtain rfl:=Nz h;replace h:=hO6;clear hO6;refine T.exit (K5 (K5 (Ly (X.seq (KN Z (KM aw 1 Z ?_))))));obtain rfl:=Nz h;exact KP (T.ret (KY [1] Tryz.results208 (KQ Z)))
def hZ (k43:Nat):Nat->List Int->Int->Option (List Int×Int)
 | 0,_,_=>none
 | m63+1,y56,y59=>if y59<=32 then (if 0<=((k43:Int)+y59) then ((y56[((k43:Int)+y59).toNat]?).bind fun x69=>if -9223372036854775808<=((k43:Int)+y59)/\((k43:Int)+y59)<=9223372036854775807 then (if -9223372036854775808<=((k43:Int)+y59)/\((k43:Int)+y59)<=9223372036854775807 then (if -9223372036854775808<=(32 - y59)/\(32 - y59)<=9223372036854775807 then ((lG (32 - y59)).bind fun x75=>if -9223372036854775808<=(x69+x75)/\(x69+x75)<=9223372036854775807 then (if 0<=(x69+x75)/\(x69+x75)<=9223372036854775807 then (if -9223372036854775808<=(y59+1)/\(y59+1)<=9223372036854775807 then (hZ k43 m63 (y56.set (((k43:Int)+y59).toNat) ((x69+x75) % 2)) (y59+1)) else none) else none) else none) else none) else none) else none) else none) else some (y56,y59)
def fv (a0:List UInt8) (y40:List Int):Nat->Int->Int->Option (Int×Int)
 | 0,_,_=>none
 | m92+1,y87,y88=>if y88>=0 then (if -9223372036854775808<=((8*(a0.length:Int))+y88)/\((8*(a0.length:Int))+y88)<=9223372036854775807 then (if 0<=((8*(a0.length:Int))+y88) then ((y40[((8*(a0.length:Int))+y88).toNat]?).bind fun x99=>if -9223372036854775808<=(1 - x99)/\(1 - x99)<=9223372036854775807 then (if -9223372036854775808<=(y88 - 1)/\(y88 - 1)<=9223372036854775807 then (fv a0 y40 m92 (IntKind.u32.wrap ((IntKind.u32.wrap (y87*2))+(IntKind.u32.wrap (1 - x99)))) (y88 - 1)) else none) else none) else none) else none) else some (y87,y88)
def gc (a0:List UInt8):Nat->List Int->Nat->Option (List Int×Nat)
 | 0,_,_=>none
 | m47+1,y40,k43=>if (k43:Int)<(8*(a0.length:Int)) then ((y40[k43]?).bind fun x52=>if x52=1 then ((hZ k43 (((33:Int) - (1)).toNat+1) y40 1).bind fun (y81,y84)=>if -9223372036854775808<=((k43:Int)+1)/\((k43:Int)+1)<=9223372036854775807 then (gc a0 m47 y81 (k43+1)) else none) else (if -9223372036854775808<=((k43:Int)+1)/\((k43:Int)+1)<=9223372036854775807 then (gc a0 m47 y40 (k43+1)) else none)) else some (y40,k43)
def ib:Nat->List Int->Nat->Option (List Int×Nat)
 | 0,_,_=>none
 | m30+1,y23,k26=>if (k26:Int)<32 then ((y23[k26]?).bind fun x35=>if -9223372036854775808<=(1 - x35)/\(1 - x35)<=9223372036854775807 then (if -9223372036854775808<=((k26:Int)+1)/\((k26:Int)+1)<=9223372036854775807 then (ib m30 (y23.set k26 (1 - x35)) (k26+1)) else none) else none) else some (y23,k26)
def ic (a0:List UInt8):Nat->List Int->Nat->Option (List Int×Nat)
 | 0,_,_=>none
 | m12+1,y5,k8=>if (k8:Int)<(8*(a0.length:Int)) then ((oN a0 (k8:Int)).bind fun x17=>(y5[k8]?).bind fun x19=>if -9223372036854775808<=((k8:Int)+1)/\((k8:Int)+1)<=9223372036854775807 then (ic a0 m12 (y5.set k8 x17) (k8+1)) else none) else some (y5,k8)
def oP (a0:List UInt8):Option (Int):=if -9223372036854775808<=(8*(a0.length:Int))/\(8*(a0.length:Int))<=9223372036854775807 then (if -9223372036854775808<=((8*(a0.length:Int))+32)/\((8*(a0.length:Int))+32)<=9223372036854775807 then (if 0<=((8*(a0.length:Int))+32)/\8*(((8*(a0.length:Int))+32).toNat)<=281474976710656 then ((ic a0 (((8*(a0.length:Int))).toNat+1) (List.replicate (((8*(a0.length:Int))+32).toNat) (0:Int)) 0).bind fun (y222,k225)=>(ib ((32:Int).toNat+1) y222 0).bind fun (y332,k335)=>(gc a0 (((8*(a0.length:Int))).toNat+1) y332 0).bind fun (y402,k405)=>(fv a0 y402 (((31:Int) - (-1)).toNat+1) 0 31).bind fun (y423,y424)=>some y423) else none) else none) else none
theorem xz (a0:List UInt8) (r:Int) (h:oP a0=some r):aG Tryz.prog 165 #[jS a0] .triv (aL) (fun v A' N=>v= .int .u32 r/\A'=aL/\N = []):=by
 refine aU Tryz.func165 Z Tryz.ntmps165 Z ?_;intro F w hX;unfold oP at h;refine KN Z (Le aw Z Z (KM aw 1 Z (KO Z (LD Z NK) Z ?_)));obtain⟨c1,h⟩:=al h;refine KO Z (Ex.mul Z Z c1) Z (Le aw Z Z ?_);obtain⟨c2,h⟩:=al h;refine KM aw 1 Z (KO Z (Ex.add Z Z c2) Z ?_);obtain⟨c3,h⟩:=al h;refine TL.mk1 (k:=((8*(a0.length:Int))+32).toNat) (v:=jI 0) ea (0:Int) Z .u Tryz.underlying74 rE Z Z (Int.toNat_of_nonneg c3.1).symm c3.2 (by have hq:=c3.2; omega) (fun _ _=>Z) Z (fun b4=> ?_);refine KX aw Z (T.seq (KN Z (KX aw Z (T.block ?_))));obtain⟨E9,hE10,hO11⟩:=Ny h;refine LB (fun m e Rs=> ∃ (y5:List Int) (A6:Option Addr) (c7:Nat) (k8:Nat),e = [(0,jS a0),(2,.int .u32 0),(3,jI (8*(a0.length:Int))),(4,.slice A6 y5.length c7),(5,jI (k8:Int))]/\Rs = [bG 3 1 ea (.slice A6 y5.length c7) y5,aL]/\ic a0 m y5 k8=some E9) (((8*(a0.length:Int))).toNat+1) [0,0] ⟨(List.replicate (((8*(a0.length:Int))+32).toNat) (0:Int)),(some ⟨b4,0,none⟩),(List.replicate (((8*(a0.length:Int))+32).toNat) (0:Int)).length,0,Z,Z,by exact hE10⟩ QW QW ?_;clear hE10 h;rintro m12 _ _ ⟨y5,A6,c7,k8,rfl,rfl,h⟩
 cases m12 with
 | zero =>
  rw[ic] at h;cases h
 | succ m12 =>
  rw[ic] at h;refine T.seq (KN Z (KM aw 3 Z ?_));rcases jF h with⟨c16,h⟩ | ⟨c16,h⟩
  ·refine Lh Z c16 (K8 (T.seq (T.block (T.region Z ?_))));obtain⟨x17,hx18,h⟩:=Ny h;refine KM aw 4 Z (Lb Z .u (.fn Tryz.call207 Z) (xy a0 (k8:Int) _ hx18) rT Z ?_);obtain⟨x19,hx20,h⟩:=Ny h;refine Mt (E:=ea) (k:=k8) 0 Z (fun w G h=>bX QS w G h) QS hx20 ?_;rintro gz21 oz21 _ ⟨⟩ _ ⟨_,_,rfl⟩;refine Lt [0,0] Z ?_;refine KO Z (K6 (k:=k8) Z Z Z NN NG (ND hx20).1) Z ?_;refine TL.unf 0 Z (Lt [0,0] Z (TL.stE (k:=k8) (u:=x19) (u':=x17) 0 0 Z .u Z Z NG Z hx20 Z Z Z Z (fun _ _ _ _ h=>by subst h; rfl) (Lt [0,0] Z ?_)));rw[show y5.length=(y5.set k8 x17).length from (List.length_set ..).symm];refine TL.nil (La (X.seq (T.region Z ?_)));obtain⟨c22,h⟩:=al h;exact KM aw 1 Z (KO Z (Ex.add Z Z c22) Z (KM aw 1 Z (TL.nil (X.back (m':=m12) [0,0] QR ⟨(y5.set k8 x17),(some ⟨gz21,oz21,none⟩),c7,k8+1,Z,Z,h⟩ QW QW))))
  refine Lg Z c16 ?_;obtain rfl:=Nz h;replace h:=hO11;clear hO11;refine T.exit (K5 (K5 (Ly (X.seq (T.seq (KN Z (KX aw Z (T.block ?_))))))));obtain⟨E27,hE28,hO29⟩:=Ny h;refine LB (fun m e Rs=> ∃ (y23:List Int) (A24:Option Addr) (c25:Nat) (k26:Nat),e = [(2,.int .u32 0),(3,jI (8*(a0.length:Int))),(4,.slice A24 y23.length c25),(6,jI (k26:Int))]/\Rs = [bG 3 1 ea (.slice A24 y23.length c25) y23,aL]/\ib m y23 k26=some E27) ((32:Int).toNat+1) [0,0] ⟨y5,A6,c7,0,Z,Z,by exact hE28⟩ QW QW ?_;clear hE28 h;rintro m30 _ _ ⟨y23,A24,c25,k26,rfl,rfl,h⟩
  cases m30 with
  | zero =>
   rw[ib] at h;cases h
  | succ m30 =>
   rw[ib] at h;refine T.seq (KN Z (KM aw 2 Z ?_));rcases jF h with⟨c34,h⟩ | ⟨c34,h⟩
   ·refine Lh Z c34 (K8 (T.seq (T.block (T.region Z ?_))));obtain⟨x35,hx36,h⟩:=Ny h;refine KM aw 4 Z (Mt (E:=ea) (k:=k26) 0 Z (fun w G h=>bX QS w G h) QS hx36 ?_);rintro gz37 oz37 _ ⟨⟩ _ ⟨_,_,rfl⟩;refine Lt [0,0] Z ?_;refine KO Z (K6 (k:=k26) Z Z Z NN NG (ND hx36).1) Z ?_;refine KO Z (Mq (cs := [jI x35]) 0 0 Z NH Z (fun _ _ h=>h.2.2.1) Z) Z ?_;obtain⟨c38,h⟩:=al h;refine KO Z (Ex.sub Z Z c38) Z ?_;refine KO Z (K6 (k:=k26) Z Z Z NN NG (ND hx36).1) Z ?_;refine TL.unf 0 Z (Lt [0,0] Z (TL.stE (k:=k26) (u:=x35) (u':=(1 - x35)) 0 0 Z .u Z Z NG Z hx36 Z Z Z Z (fun _ _ _ _ h=>by subst h; rfl) (Lt [0,0] Z ?_)));rw[show y23.length=(y23.set k26 (1 - x35)).length from (List.length_set ..).symm];refine TL.nil (La (X.seq (T.region Z ?_)));obtain⟨c39,h⟩:=al h;exact KM aw 1 Z (KO Z (Ex.add Z Z c39) Z (KM aw 1 Z (TL.nil (X.back (m':=m30) [0,0] QR ⟨(y23.set k26 (1 - x35)),(some ⟨gz37,oz37,none⟩),c25,k26+1,Z,Z,h⟩ QW QW))))
   refine Lg Z c34 ?_;obtain rfl:=Nz h;replace h:=hO29;clear hO29;refine T.exit (K5 (K5 (Ly (X.seq (T.seq (KN Z (KX aw Z (T.block ?_))))))));obtain⟨E44,hE45,hO46⟩:=Ny h;refine LB (fun m e Rs=> ∃ (y40:List Int) (A41:Option Addr) (c42:Nat) (k43:Nat),e = [(2,.int .u32 0),(3,jI (8*(a0.length:Int))),(4,.slice A41 y40.length c42),(7,jI (k43:Int))]/\Rs = [bG 3 1 ea (.slice A41 y40.length c42) y40,aL]/\gc a0 m y40 k43=some E44) (((8*(a0.length:Int))).toNat+1) [0,0] ⟨y23,A24,c25,0,Z,Z,by exact hE45⟩ QW QW ?_;clear hE45 h;rintro m47 _ _ ⟨y40,A41,c42,k43,rfl,rfl,h⟩
   cases m47 with
   | zero =>
    rw[gc] at h;cases h
   | succ m47 =>
    rw[gc] at h;refine T.seq (KN Z (KM aw 3 Z ?_));rcases jF h with⟨c51,h⟩ | ⟨c51,h⟩
    ·refine Lh Z c51 (K8 (T.seq (T.block (KN Z ?_))));obtain⟨x52,hx53,h⟩:=Ny h;refine KM aw 2 Z (Mt (E:=ea) (k:=k43) 0 Z (fun w G h=>bX QS w G h) QS hx53 ?_);rintro gz54 oz54 _ ⟨⟩ _ ⟨_,_,rfl⟩;refine Lt [0,0] Z ?_;refine KO Z (K6 (k:=k43) Z Z Z NN NG (ND hx53).1) Z ?_;refine KO Z (Mq (cs := [jI x52]) 0 0 Z NH Z (fun _ _ h=>h.2.2.1) Z) Z (KM aw 1 Z ?_);rcases jF h with⟨c55,h⟩ | ⟨c55,h⟩
     ·refine Lh Z c55 (KN Z (KX aw Z (T.block (T.unf 0 Z (T.sel [0,0] Z ?_)))));obtain⟨E60,hE61,hO62⟩:=Ny h;refine LB (fun m e Rs=> ∃ (y56:List Int) (A57:Option Addr) (c58:Nat) (y59:Int),e = [(2,.int .u32 0),(3,jI (8*(a0.length:Int))),(4,.slice A57 y56.length c58),(7,jI (k43:Int)),(8,jI y59)]/\Rs = [bG 3 1 ea (.slice A57 y56.length c58) y56,aL]/\hZ k43 m y56 y59=some E60) (((33:Int) - (1)).toNat+1) [0,0] ⟨y40,(some ⟨gz54,oz54,none⟩),c42,1,Z,Z,by exact hE61⟩ QW QW ?_;clear hE61 h;rintro m63 _ _ ⟨y56,A57,c58,y59,rfl,rfl,h⟩
      cases m63 with
      | zero =>
       rw[hZ] at h;cases h
      | succ m63 =>
       rw[hZ] at h;refine T.seq (KN Z (KM aw 2 Z ?_));rcases jF h with⟨c67,h⟩ | ⟨c67,h⟩
       ·refine Lh Z c67 ?_;obtain⟨c68,h⟩:=al h;obtain⟨x69,hx70,h⟩:=Ny h;refine K8 (T.seq (T.block (T.foc (E:=ea) (k:=((k43:Int)+y59).toNat) 0 Z (fun w G h=>bX QS w G h) QS hx70 ?_)));rintro gz71 oz71 _ ⟨⟩ _ ⟨_,_,rfl⟩;refine T.sel [0,0] Z ?_;obtain⟨c72,h⟩:=al h;obtain⟨c73,h⟩:=al h;obtain⟨c74,h⟩:=al h;obtain⟨x75,hx76,h⟩:=Ny h;obtain⟨c77,h⟩:=al h;obtain⟨c78,h⟩:=al h;refine Mr (fun e Rs=>e = [(2,.int .u32 0),(3,jI (8*(a0.length:Int))),(4,.slice (some ⟨gz71,oz71,none⟩) (y56.set (((k43:Int)+y59).toNat) ((x69+x75) % 2)).length c58),(7,jI (k43:Int)),(8,jI y59),(50,jI y59)]/\Rs = [bG 3 1 ea (.slice (some ⟨gz71,oz71,none⟩) (y56.set (((k43:Int)+y59).toNat) ((x69+x75) % 2)).length c58) (y56.set (((k43:Int)+y59).toNat) ((x69+x75) % 2)),aL]) ?_ ?_
        ·refine Ls (.q 0 (.q 1 (.q 2 (.q 3 (.q 4 (.q 5 (.q 6 (.q 7 (.q 8 (.q 10 (.q 11 (.br 9 (.e 12 (.q 13 (.q 14 (.q 15 (.e 16 .nil))))) (.e 12 (.e 9 (.q 13 (.q 14 (.q 15 (.e 16 .nil)))))))))))))))))) [1] Z tl r8 QU ?_;refine TD.run aw [0,1,2] Z Z (KU Z (Ex.add Z Z c72) Z (TD.run aw [4,5,6] Z Z (KU Z (Ex.add Z Z c73) Z ?_)));refine KU Z (K6 (k:=((k43:Int)+y59).toNat) Z Z ((Int.toNat_of_nonneg c68).symm) NN NG (ND hx70).1) Z ?_;refine TD.run aw [10] Z Z (KU Z (Ex.sub Z Z c74) Z ?_);refine TD.br ?_ ?_
         ·refine Mh Z .u (Mq (cs := [jI x69]) 0 0 Z NH Z (fun _ _ h=>h.2.2.1) Z) Z [1] Z (LF Z .u (.fn Tryz.call208 Z) (oO (32 - y59) _ hx76) rT Z [1] (Z) (KU Z (Ex.add Z Z c77) Z (KU Z (Ex.rem Z Z QR c78) Z ?_)));refine KU Z (K6 (k:=((k43:Int)+y59).toNat) Z Z ((Int.toNat_of_nonneg c68).symm) NN NG (ND hx70).1) Z ?_;refine TD.unf 0 Z (LV [0,0] Z (TD.stE (k:=((k43:Int)+y59).toNat) (u:=x69) (u':=((x69+x75) % 2)) 0 0 Z .u Z Z NG Z hx70 Z Z Z Z (fun _ _ _ _ h=>by subst h; rfl) [1] (Z) (LV [0,0] Z ?_)));rw[show y56.length=(y56.set (((k43:Int)+y59).toNat) ((x69+x75) % 2)).length from (List.length_set ..).symm];exact TD.nil (L9 [0,0] ⟨Z,Z⟩ QW QW)
         refine LF Z .u (.fn Tryz.call208 Z) (oO (32 - y59) _ hx76) rT Z [1] (Z) (Mh Z .u (Mq (cs := [jI x69]) 0 0 Z NH Z (fun _ _ h=>h.2.2.1) Z) Z [1] Z (KU Z (Ex.add Z Z c77) Z (KU Z (Ex.rem Z Z QR c78) Z ?_)));refine KU Z (K6 (k:=((k43:Int)+y59).toNat) Z Z ((Int.toNat_of_nonneg c68).symm) NN NG (ND hx70).1) Z ?_;refine TD.unf 0 Z (LV [0,0] Z (TD.stE (k:=((k43:Int)+y59).toNat) (u:=x69) (u':=((x69+x75) % 2)) 0 0 Z .u Z Z NG Z hx70 Z Z Z Z (fun _ _ _ _ h=>by subst h; rfl) [1] (Z) (LV [0,0] Z ?_)));rw[show y56.length=(y56.set (((k43:Int)+y59).toNat) ((x69+x75) % 2)).length from (List.length_set ..).symm];exact TD.nil (L9 [0,0] ⟨Z,Z⟩ QW QW)
        rintro _ _ ⟨rfl,rfl⟩;refine La (X.seq (T.region Z ?_));obtain⟨c79,h⟩:=al h;exact KM aw 1 Z (KO Z (Ex.add Z Z c79) Z (KM aw 1 Z (TL.nil (X.back (m':=m63) [0,0] QR ⟨(y56.set (((k43:Int)+y59).toNat) ((x69+x75) % 2)),(some ⟨gz71,oz71,none⟩),c58,(y59+1),Z,Z,h⟩ QW QW))))
       refine Lg Z c67 ?_;obtain rfl:=Nz h;replace h:=hO62;clear hO62;refine T.exit (K5 (K5 (Ly (La (X.seq (T.region Z ?_))))));obtain⟨c80,h⟩:=al h;exact KM aw 1 Z (KO Z (Ex.add Z Z c80) Z (KM aw 1 Z (TL.nil (X.back (m':=m47) [0,0] QR ⟨y56,A57,c58,k43+1,Z,Z,h⟩ QW QW))))
     refine Lg Z c55 (T.skip (La (X.seq (T.region Z ?_))));obtain⟨c86,h⟩:=al h;exact KM aw 1 Z (KO Z (Ex.add Z Z c86) Z (KM aw 1 Z (TL.nil (X.unf 0 Z (LJ [0,0] Z (X.back (m':=m47) [0,0] QR ⟨y40,(some ⟨gz54,oz54,none⟩),c42,k43+1,Z,Z,h⟩ QW QW))))))
    refine Lg Z c51 ?_;obtain rfl:=Nz h;replace h:=hO46;clear hO46;refine T.exit (K5 (K5 (Ly (X.seq (KN Z (KX aw Z (T.seq (KN Z (KX aw Z (T.block ?_))))))))));obtain⟨E89,hE90,hO91⟩:=Ny h;refine LB (fun m e Rs=> ∃ (y87:Int) (y88:Int),e = [(2,.int .u32 0),(3,jI (8*(a0.length:Int))),(4,.slice A41 y40.length c42),(9,.int .u32 y87),(10,jI y88)]/\Rs = [bG 3 1 ea (.slice A41 y40.length c42) y40,aL]/\fv a0 y40 m y87 y88=some E89) (((31:Int) - (-1)).toNat+1) [0,0] ⟨0,31,Z,Z,by exact hE90⟩ QW QW ?_;clear hE90 h;rintro m92 _ _ ⟨y87,y88,rfl,rfl,h⟩
    cases m92 with
    | zero =>
     rw[fv] at h;cases h
    | succ m92 =>
     rw[fv] at h;refine T.seq (KN Z (KM aw 2 Z ?_));rcases jF h with⟨c96,h⟩ | ⟨c96,h⟩
     ·refine Lh Z c96 (K8 (T.seq (T.block (T.region Z (KM aw 1 Z (KO Z (Ex.mulw Z Z) Z ?_))))));obtain⟨c97,h⟩:=al h;refine KM aw 3 Z (KO Z (Ex.add Z Z c97) Z ?_);obtain⟨c98,h⟩:=al h;obtain⟨x99,hx100,h⟩:=Ny h;refine Mt (E:=ea) (k:=((8*(a0.length:Int))+y88).toNat) 0 Z (fun w G h=>bX QS w G h) QS hx100 ?_;rintro gz101 oz101 _ ⟨⟩ _ ⟨_,_,rfl⟩;refine Lt [0,0] Z ?_;refine KO Z (K6 (k:=((8*(a0.length:Int))+y88).toNat) Z Z ((Int.toNat_of_nonneg c98).symm) NN NG (ND hx100).1) Z ?_;refine KO Z (Mq (cs := [jI x99]) 0 0 Z NH Z (fun _ _ h=>h.2.2.1) Z) Z ?_;obtain⟨c102,h⟩:=al h;refine KO Z (Ex.sub Z Z c102) Z (KO Z (ME Z ON OR) Z (KO Z (Ex.addw Z Z) Z (KM aw 1 Z (TL.nil (La (X.seq (T.region Z ?_)))))));obtain⟨c103,h⟩:=al h;exact KM aw 1 Z (KO Z (Ex.sub Z Z c103) Z (KM aw 1 Z (TL.nil (X.unf 0 Z (LJ [0,0] Z (X.back (m':=m92) [0,0] QR ⟨(IntKind.u32.wrap ((IntKind.u32.wrap (y87*2))+(IntKind.u32.wrap (1 - x99)))),(y88 - 1),Z,Z,h⟩ QW QW))))))
     refine Lg Z c96 ?_;obtain rfl:=Nz h;replace h:=hO91;clear hO91;refine T.exit (K5 (K5 (Ly (X.seq (KN Z (KM aw 2 Z ?_))))));obtain rfl:=Nz h;exact KP (T.ret (KY [1] Tryz.results165 (KQ Z)))
def uC:eO := [(23,0,0),(23,1,1),(212,0,0),(212,1,2),(212,2,3),(245,0,0),(245,1,1)]
theorem aB:(uC).OK Tryz.prog:=⟨FOK.mk N2 rfl Oe rfl,FOK.mk N2 rfl N6 rfl,FOK.mk Oi rfl NM rfl,FOK.mk Oi rfl NG rfl,FOK.mk Oi rfl NG rfl,FOK.mk O1 rfl N6 rfl,FOK.mk O1 rfl NM rfl,trivial⟩
theorem nR:Tryz.prog.follows .mixedOrders=true:=by kernel_rfl
theorem qv:BOK Tryz.prog 23 #[.bool false,.string ⟨#[]⟩] [(0,1),(1,1)]:=BOK.mk Tryz.zeroValue23 N2 (by intro w; simp)
theorem fw:iG Tryz.prog 3 245 [.string,.bool,.string] true:=(iG.struct P4 OC rfl Tryz.underlying245 Tryz.stoodInHeld245 ⟨by decide,rfl,[.string],[.bool,.string],false,rfl,((LZ Oc N6 Tryz.underlying9).mono QS),⟨by decide,rfl,[.bool,.string],[],true,rfl,(iG.struct Oa NM rfl Tryz.underlying23 Tryz.stoodInHeld23 ⟨by decide,rfl,[.bool],[.string],false,rfl,(LZ Oz Oe Tryz.underlying4),⟨by decide,rfl,[.string],[],false,rfl,(LZ Oc N6 Tryz.underlying9),rfl⟩⟩),rfl⟩⟩)
def eu (a0:List Hd):Nat->Bool->Nat->Option (Lp Bool (Bool×Nat))
 | 0,_,_=>none
 | m8+1,y3,k4=>if (k4:Int)<(a0.length:Int) then ((a0[k4]?).bind fun x13=>if x13.M3.null=true then (if x13.M3.data = [] then (if -9223372036854775808<=((k4:Int)+1)/\((k4:Int)+1)<=9223372036854775807 then (eu a0 m8 y3 (k4+1)) else none) else some (Lp.ret false)) else (if -9223372036854775808<=((k4:Int)+1)/\((k4:Int)+1)<=9223372036854775807 then (eu a0 m8 y3 (k4+1)) else none)) else (some (Lp.go (y3,k4)))
def lH (a0:List Hd):Option (Bool):=(eu a0 (((a0.length:Int)).toNat+1) false 0).bind fun e=>match e with | .ret r=>some r | .go (y20,k21)=>some true
theorem uD (a0:List Hd) (A1:Option Addr) (c2:Nat) (r:Bool) (h:lH a0=some r):aG Tryz.prog 222 #[.slice A1 a0.length c2] (RX.of (aq 3 dn) [.slice A1 a0.length c2] a0) (aL) (fun v A' N=>v= .bool r/\A'=aL/\N = []):=by
 refine aU Tryz.func222 Z Tryz.ntmps222 Z ?_;intro F w hX;unfold lH at h;refine KN Z (KX aB Z (T.seq (KN Z (KX aB Z (T.block ?_)))));obtain⟨E5,hE6,hO7⟩:=Ny h;refine LB (fun m e Rs=> ∃ (y3:Bool) (k4:Nat),e = [(0,.slice A1 a0.length c2),(2,.bool y3),(3,jI (k4:Int))]/\Rs = [aL]/\eu a0 m y3 k4=some E5) (((a0.length:Int)).toNat+1) [0] ⟨false,0,Z,Z,by exact hE6⟩ QW QW ?_;clear hE6 h;rintro m8 _ _ ⟨y3,k4,rfl,rfl,h⟩
 cases m8 with
 | zero =>
  rw[eu] at h;cases h
 | succ m8 =>
  rw[eu] at h;refine T.seq (KN Z (KM aB 2 Z (KO Z (K4 Z Ob) Z (KM aB 1 Z ?_))));rcases jF h with⟨c12,h⟩ | ⟨c12,h⟩
  ·refine Lh Z c12 (K8 (T.seq (T.block (KN Z ?_))));obtain⟨x13,hx14,h⟩:=Ny h;obtain⟨gz15,oz15,rfl,z15cs,z15cl,z15cc,z15nf,z15r⟩:=Lm QS hX hx14;obtain⟨z15S,z15r,z15rr⟩:=z15r;obtain rfl:z15cs=(wL3 x13):=z15r;refine KM aB 2 Z ?_;refine KO Z (K6 (k:=k4) Z Z Z Ob OC (ND hx14).1) Z ?_;refine KM aB 2 Z (KO Z (Lw 1 Z Oz z15nf z15cc Z Z) Z ?_);rcases jF h with⟨c16,h⟩ | ⟨c16,h⟩
   ·refine KM aB 1 Z (KV 16 Z c16 (KW aB 2 Z ?_));refine TL.q Z (.g Z Z Z) (K6 (k:=k4) Z Z Z Ob OC (ND hx14).1) Z ?_;refine KW aB 2 Z (TL.q Z (.g Z Z Z) (Lw 2 Z Oc z15nf z15cc Z Z) Z (TL.q Z (.g Z Z Z) (MD Z (m := []) Z) Z (KW aB 1 Z ?_)));rcases jF h with⟨c17,h⟩ | ⟨c17,h⟩
    ·refine Lr Z c17 (T.skip (La (X.seq (T.region Z ?_))));obtain⟨c18,h⟩:=al h;exact KM aB 1 Z (KO Z (Ex.add Z Z c18) Z (KM aB 1 Z (TL.nil (X.back (m':=m8) [0] QR ⟨y3,k4+1,Z,Z,h⟩ QW QW))))
    refine Lq Z c17 (KN Z (KM aB 1 Z ?_));obtain rfl:=Nz h;obtain rfl:=Nz hO7;exact KP (T.ret (K2 (KT (KT (K2 (KT (KY [0] Tryz.results222 (KQ Z))))))))
   replace c16:=NF c16;refine KM aB 1 Z (KV 16 Z c16 (Lz aB Z (Li Z Z (T.skip (La (X.seq (T.region Z ?_)))))));obtain⟨c19,h⟩:=al h;exact KM aB 1 Z (KO Z (Ex.add Z Z c19) Z (KM aB 1 Z (TL.nil (X.back (m':=m8) [0] QR ⟨y3,k4+1,Z,Z,h⟩ QW QW))))
  refine Lg Z c12 ?_;obtain rfl:=Nz h;replace h:=hO7;clear hO7;refine T.exit (K5 (K5 (Ly (X.seq (KN Z (KM aB 1 Z ?_))))));obtain rfl:=Nz h;exact KP (T.ret (KY [0] Tryz.results222 (KQ Z)))
def kc (a0:Int):Option (List UInt8):=(AP a0).bind fun x1=>(EO x1).bind fun x3=>some x3
theorem fP (a0:Int) (r:List UInt8) (h:kc a0=some r):aG Tryz.prog 203 #[jI a0] .triv (aL) (fun v A' N=>v=jS r/\A'=aL/\N = []):=by
 refine aU Tryz.func203 Z Tryz.ntmps203 Z ?_;intro F w hX;unfold kc at h;refine KN Z (Le aB Z Z ?_);obtain⟨x1,hx2,h⟩:=Ny h;refine KM aB 1 Z (Lb Z .u (.fn Tryz.call227 Z) (LL (fun w=>BZ a0 _ hx2 w)) (fun _ _=>Lv _ _) Z ?_);obtain⟨x3,hx4,h⟩:=Ny h;refine Lb Z .u (.fn Tryz.call226 Z) (DG x1 _ hx4) rT Z (KM aB 1 Z ?_);obtain rfl:=Nz h;exact KP (T.ret (KY [0] Tryz.results203 (KQ Z)))
def eX (a0:List Hd):Nat->List UInt8->Nat->Option (List UInt8×Nat)
 | 0,_,_=>none
 | m10+1,y5,k6=>if (k6:Int)<(a0.length:Int) then ((a0[k6]?).bind fun x15=>(kX (⟨false,x15.Nd⟩:Bl)).bind fun x18=>if y5.length+x18.length<=9223372036854775807 then ((kX x15.M3).bind fun x21=>if (y5++x18).length+x21.length<=9223372036854775807 then (if -9223372036854775808<=((k6:Int)+1)/\((k6:Int)+1)<=9223372036854775807 then (eX a0 m10 ((y5++x18)++x21) (k6+1)) else none) else none) else none) else some (y5,k6)
def lI (a0:List Hd):Option (List UInt8):=(kc (a0.length:Int)).bind fun x3=>(eX a0 (((a0.length:Int)).toNat+1) x3 0).bind fun (y25,k26)=>some y25
theorem fI (a0:List Hd) (A1:Option Addr) (c2:Nat) (r:List UInt8) (h:lI a0=some r):aG Tryz.prog 205 #[.slice A1 a0.length c2] (RX.of (aq 3 dn) [.slice A1 a0.length c2] a0) (aL) (fun v A' N=>v=jS r/\A'=aL/\N = []):=by
 refine aU Tryz.func205 Z Tryz.ntmps205 Z ?_;intro F w hX;unfold lI at h;refine KN Z (Le aB Z Z (KM aB 1 Z (KO Z (K4 Z Ob) Z ?_)));obtain⟨x3,hx4,h⟩:=Ny h;refine Lb Z .u (.fn Tryz.call203 Z) (fP (a0.length:Int) _ hx4) rT Z (KX aB Z (T.seq (KN Z (KX aB Z (T.block ?_)))));obtain⟨E7,hE8,hO9⟩:=Ny h;refine LB (fun m e Rs=> ∃ (y5:List UInt8) (k6:Nat),e = [(0,.slice A1 a0.length c2),(2,.string ⟨#[]⟩),(3,jS y5),(4,jI (k6:Int))]/\Rs = [aL]/\eX a0 m y5 k6=some E7) (((a0.length:Int)).toNat+1) [0] ⟨x3,0,Z,Z,by exact hE8⟩ QW QW ?_;clear hE8 h;rintro m10 _ _ ⟨y5,k6,rfl,rfl,h⟩
 cases m10 with
 | zero =>
  rw[eX] at h;cases h
 | succ m10 =>
  rw[eX] at h;refine T.seq (KN Z (KM aB 2 Z (KO Z (K4 Z Ob) Z (KM aB 1 Z ?_))));rcases jF h with⟨c14,h⟩ | ⟨c14,h⟩
  ·refine Lh Z c14 ?_;refine K8 (T.seq (T.block (Ls (.q 0 (.q 1 (.q 2 (.q 3 (.q 4 (.q 5 (.q 6 (.q 9 (.q 10 (.q 11 (.q 12 (.q 13 (.e 7 (.q 8 (.e 14 (.q 15 (.q 16 .nil))))))))))))))))) [0] Z nR (NoP.blk (NoP.seq (NoP.seq (NoP.blk (NoP.seq bq))))) QU ?_)));obtain⟨x15,hx16,h⟩:=Ny h;obtain⟨gz17,oz17,rfl,z17cs,z17cl,z17cc,z17nf,z17r⟩:=Lm QS hX hx16;obtain⟨z17S,z17r,z17rr⟩:=z17r;obtain rfl:z17cs=(wL3 x15):=z17r;refine TD.run aB [0,1,2] Z Z ?_;refine KU Z (K6 (k:=k6) Z Z Z Ob OC (ND hx16).1) Z ?_;refine TD.run aB [4] Z Z (KU Z (Lw 0 Z Oc z17nf z17cc Z Z) Z ?_);refine KU Z (Lo (cells:= #[.bool false,jS x15.Nd]) qv Z QU) Z ?_;refine TD.run aB [9,10] Z Z ?_;refine KU Z (K6 (k:=k6) Z Z Z Ob OC (ND hx16).1) Z ?_;refine TD.run aB [12] Z Z (KU Z (LM (us:=wL6 x15.M3) 1 Z Oa NM z17nf z17cc Z Z Z) Z ?_);obtain⟨x18,hx19,h⟩:=Ny h;refine LF Z .u (.fn Tryz.call204 Z) (dr (⟨false,x15.Nd⟩:Bl) _ hx19) rT Z [0] (Z) ?_;obtain⟨c20,h⟩:=al h;refine KU Z (Ln Z Z c20) Z ?_;obtain⟨x21,hx22,h⟩:=Ny h;refine LF Z .u (.fn Tryz.call204 Z) (dr x15.M3 _ hx22) rT Z [0] (Z) ?_;obtain⟨c23,h⟩:=al h;refine KU Z (Ln Z Z c23) Z (TD.run aB [16] Z Z (TD.nil (La (X.seq (T.region Z ?_)))));obtain⟨c24,h⟩:=al h;exact KM aB 1 Z (KO Z (Ex.add Z Z c24) Z (KM aB 1 Z (TL.nil (X.back (m':=m10) [0] QR ⟨((y5++x18)++x21),k6+1,Z,Z,h⟩ QW QW))))
  refine Lg Z c14 ?_;obtain rfl:=Nz h;replace h:=hO9;clear hO9;refine T.exit (K5 (K5 (Ly (X.seq (KN Z (KM aB 2 Z ?_))))));obtain rfl:=Nz h;exact KP (T.ret (KY [0] Tryz.results205 (KQ Z)))
def fA (a0:List Hd) (a1:List Hd):Nat->Bool->Nat->Option (Lp Bool (Bool×Nat))
 | 0,_,_=>none
 | m11+1,y6,k7=>if (k7:Int)<(a0.length:Int) then ((a0[k7]?).bind fun x16=>(a1[k7]?).bind fun x19=>if x16.Nd=x19.Nd then (if x16.M3.null=x19.M3.null then (if x16.M3.data=x19.M3.data then (if -9223372036854775808<=((k7:Int)+1)/\((k7:Int)+1)<=9223372036854775807 then (fA a0 a1 m11 y6 (k7+1)) else none) else some (Lp.ret false)) else some (Lp.ret false)) else some (Lp.ret false)) else (some (Lp.go (y6,k7)))
def mZ (a0:List Hd) (a1:List Hd):Option (Bool):=if (a0.length:Int)=(a1.length:Int) then ((fA a0 a1 (((a0.length:Int)).toNat+1) false 0).bind fun e=>match e with | .ret r=>some r | .go (y26,k27)=>some true) else some false
theorem wg (a0:List Hd) (A1:Option Addr) (c2:Nat) (a1:List Hd) (A3:Option Addr) (c4:Nat) (r:Bool) (h:mZ a0 a1=some r):aG Tryz.prog 228 #[.slice A1 a0.length c2,.slice A3 a1.length c4] (RX.and (RX.of (aq 3 dn) [.slice A1 a0.length c2] a0) (RX.of (aq 3 dn) [.slice A3 a1.length c4] a1)) (aL) (fun v A' N=>v= .bool r/\A'=aL/\N = []):=by
 refine aU Tryz.func228 Z Tryz.ntmps228 Z ?_;intro F w hX;unfold mZ at h;refine KN Z (KX aB Z (T.seq (KN Z (KM aB 1 Z (KO Z (K4 Z Ob) Z (KM aB 1 Z (KO Z (K4 Z Ob) Z (KM aB 1 Z ?_))))))));rcases jF h with⟨c5,h⟩ | ⟨c5,h⟩
 ·refine Lr Z c5 (K8 (T.seq (KN Z (KX aB Z (T.block ?_)))));obtain⟨E8,hE9,hO10⟩:=Ny h;refine LB (fun m e Rs=> ∃ (y6:Bool) (k7:Nat),e = [(0,.slice A1 a0.length c2),(1,.slice A3 a1.length c4),(4,.bool y6),(5,jI (k7:Int))]/\Rs = [aL]/\fA a0 a1 m y6 k7=some E8) (((a0.length:Int)).toNat+1) [0] ⟨false,0,Z,Z,by exact hE9⟩ QW QW ?_;clear hE9 h;rintro m11 _ _ ⟨y6,k7,rfl,rfl,h⟩
  cases m11 with
  | zero =>
   rw[fA] at h;cases h
  | succ m11 =>
   rw[fA] at h;refine T.seq (KN Z (KM aB 2 Z (KO Z (K4 Z Ob) Z (KM aB 1 Z ?_))));rcases jF h with⟨c15,h⟩ | ⟨c15,h⟩
   ·refine Lh Z c15 ?_;refine K8 (T.seq (T.block (T.seq (Ls (.q 0 (.q 1 (.q 2 (.q 3 (.q 4 (.q 5 (.q 6 (.q 7 (.q 8 .nil))))))))) [0] Z nR (NoP.seq (NoP.blk (NoP.seq (NoP.seq (NoP.blk (NoP.seq bq)))))) QU ?_))));obtain⟨x16,hx17,h⟩:=Ny h;obtain⟨gz18,oz18,rfl,z18cs,z18cl,z18cc,z18nf,z18r⟩:=Lm QS (Lx hX) hx17;obtain⟨z18S,z18r,z18rr⟩:=z18r;obtain rfl:z18cs=(wL3 x16):=z18r;refine TD.run aB [0,1] Z Z ?_;refine KU Z (K6 (k:=k7) Z Z Z Ob OC (ND hx17).1) Z ?_;refine KU Z (LM (us:=wL3 x16) 0 Z P4 OC z18nf z18cc Z Z Z) Z ?_;obtain⟨x19,hx20,h⟩:=Ny h;obtain⟨gz21,oz21,rfl,z21cs,z21cl,z21cc,z21nf,z21r⟩:=Lm QS (Lf hX) hx20;obtain⟨z21S,z21r,z21rr⟩:=z21r;obtain rfl:z21cs=(wL3 x19):=z21r;refine TD.run aB [4,5] Z Z ?_;refine KU Z (K6 (k:=k7) Z Z Z Ob OC (ND hx20).1) Z ?_;refine KU Z (LM (us:=wL3 x19) 0 Z P4 OC z21nf z21cc Z Z Z) Z ?_;rcases jF h with⟨c22,h⟩ | ⟨c22,h⟩
    ·rcases jF h with⟨c23,h⟩ | ⟨c23,h⟩
     ·rcases jF h with⟨c24,h⟩ | ⟨c24,h⟩
      ·refine KU Z (MJ (us:=wL3 x16) (vs:=wL3 x19) fw Z P9 Z Z Z Z (fq (tf (l:=x16.Nd) (m:=x19.Nd) c22) (fq (pM c23) (fq (tf (l:=x16.M3.data) (m:=x19.M3.data) c24) Z)))) Z (LK (Li Z Z (T.skip (La (X.seq (T.region Z ?_))))));obtain⟨c25,h⟩:=al h;exact KM aB 1 Z (KO Z (Ex.add Z Z c25) Z (KM aB 1 Z (TL.nil (X.back (m':=m11) [0] QR ⟨y6,k7+1,Z,Z,h⟩ QW QW))))
      refine KU Z (MJ (us:=wL3 x16) (vs:=wL3 x19) fw Z P9 Z Z Z Z (fq (tf (l:=x16.Nd) (m:=x19.Nd) c22) (fq (pM c23) (mo (sv (l:=x16.M3.data) (m:=x19.M3.data) c24))))) Z (LK (K1 Z Z (KN Z (KM aB 1 Z ?_))));obtain rfl:=Nz h;obtain rfl:=Nz hO10;exact KP (T.ret (K2 (KT (KT (K2 (KT (KY [0] Qa (KQ Z))))))))
     refine KU Z (MJ (us:=wL3 x16) (vs:=wL3 x19) fw Z P9 Z Z Z Z (fq (tf (l:=x16.Nd) (m:=x19.Nd) c22) (mo (ul c23)))) Z (LK (K1 Z Z (KN Z (KM aB 1 Z ?_))));obtain rfl:=Nz h;obtain rfl:=Nz hO10;exact KP (T.ret (K2 (KT (KT (K2 (KT (KY [0] Qa (KQ Z))))))))
    refine KU Z (MJ (us:=wL3 x16) (vs:=wL3 x19) fw Z P9 Z Z Z Z (mo (sv (l:=x16.Nd) (m:=x19.Nd) c22))) Z (LK (K1 Z Z (KN Z (KM aB 1 Z ?_))));obtain rfl:=Nz h;obtain rfl:=Nz hO10;exact KP (T.ret (K2 (KT (KT (K2 (KT (KY [0] Qa (KQ Z))))))))
   refine Lg Z c15 ?_;obtain rfl:=Nz h;replace h:=hO10;clear hO10;refine T.exit (K5 (K5 (Ly (X.seq (KN Z (KM aB 1 Z ?_))))));obtain rfl:=Nz h;exact KP (T.ret (KY [0] Qa (KQ Z)))
 refine Lq Z c5 (KN Z (KM aB 1 Z ?_));obtain rfl:=Nz h;exact KP (T.ret (KT (KY [0] Qa (KQ Z))))
def uE:eO := [(23,0,0),(23,1,1),(91,0,0),(91,1,1),(91,2,2),(91,3,4),(91,4,6),(212,0,0),(212,1,2),(212,2,3),(310,1,7)]
theorem ax:(uE).OK Tryz.prog:=⟨FOK.mk N2 rfl Oe rfl,FOK.mk N2 rfl N6 rfl,FOK.mk N4 rfl NG rfl,FOK.mk N4 rfl NG rfl,FOK.mk N4 rfl NM rfl,FOK.mk N4 rfl NM rfl,FOK.mk N4 rfl Pz rfl,FOK.mk Oi rfl NM rfl,FOK.mk Oi rfl NG rfl,FOK.mk Oi rfl NG rfl,FOK.mk PV rfl NG rfl,trivial⟩
def uF:List Nat := [3,4,9,89]
theorem bD:NOK Tryz.prog uF:=⟨NH,Oz,Oc,Qi,trivial⟩
theorem tn:Tryz.prog.follows .mixedOrders=true:=by kernel_rfl
theorem dC:SOK Tryz.prog 72 5 1 1 #[.int .u8 0]:=SOK.mk OT Tryz.sizeOf5 Tryz.zeroValue5 QS QU
theorem dQ:iG Tryz.prog 2 23 [.bool,.string] true:=(iG.struct Oa NM rfl Tryz.underlying23 Tryz.stoodInHeld23 ⟨by decide,rfl,[.bool],[.string],false,rfl,(LZ Oz Oe Tryz.underlying4),⟨by decide,rfl,[.string],[],false,rfl,(LZ Oc N6 Tryz.underlying9),rfl⟩⟩)
def mN (a0:Bl):Option (Bool):=if a0.null=true then (if a0.data = [] then some false else some true) else some false
theorem qw (a0:Bl) (r:Bool) (h:mN a0=some r):aG Tryz.prog 221 #[.agg (wA7 a0)] .triv (aL) (fun v A' N=>v= .bool r/\A'=aL/\N = []):=by
 refine aU Tryz.func221 Z Tryz.ntmps221 Z ?_;intro F w hX;unfold mN at h;refine KN Z (TL.box Z .u Z Z (fun b1=>(Le ax Z Z ?_)));rcases jF h with⟨c2,h⟩ | ⟨c2,h⟩
 ·refine KR ax bD 0 Z 3 Z Z (KV 5 Z c2 (KR ax bD 0 Z 2 Z Z (TL.q Z (.g Z Z Z) (MD Z (m := []) Z) Z (KW ax 2 Z ?_))));rcases jF h with⟨c3,h⟩ | ⟨c3,h⟩
  ·obtain rfl:=Nz h;exact KP (T.ret (Ll [1] Tryz.results221 (KQ (v:= .bool false) (congrArg (fun b=>some (Value.bool b)) (bi (NB c3)))) ⟨Z,Z,Z⟩ QW (.inl Z)))
  obtain rfl:=Nz h;exact KP (T.ret (Ll [1] Tryz.results221 (KQ (v:= .bool true) (congrArg (fun b=>some (Value.bool b)) (bF (NC c3)))) ⟨Z,Z,Z⟩ QW (.inl Z)))
 replace c2:=NF c2;refine KR ax bD 0 Z 3 Z Z (KV 5 Z c2 (KW ax 5 Z ?_));obtain rfl:=Nz h;exact KP (T.ret (KY [1] Tryz.results221 (KQ Z)))
def ke (a0:Rec):Option (Int):=if a0.Na<0 then some 11 else (if a0.Na>2147483647 then some 11 else ((mN a0.Nd).bind fun x6=>if x6=true then some 4 else ((mN a0.M3).bind fun x9=>if x9=true then some 4 else ((lH a0.M2).bind fun x12=>if x12=true then some 0 else some 4))))
theorem oQ (a0:Rec) (A1:Option Addr) (c2:Nat) (r:Int) (h:ke a0=some r):aG Tryz.prog 200 #[.agg (wA2 a0 A1 c2)] (RX.of (aq 3 dn) [.slice A1 a0.M2.length c2] a0.M2) (aL) (fun v A' N=>v=jI r/\A'=aL/\N = []):=by
 refine aU Tryz.func200 Z Tryz.ntmps200 Z ?_;intro F w hX;unfold ke at h;refine KN Z (TL.box Z .u Z Z (fun b3=>(KX ax Z (T.seq (KN Z ?_)))));rcases jF h with⟨c4,h⟩ | ⟨c4,h⟩
 ·refine KR ax bD 0 Z 4 Z Z (KV 6 Z (NB c4) (Lz ax Z (K1 Z Z (KN Z (KM ax 1 Z ?_)))));obtain rfl:=Nz h;exact KP (T.ret (KT (KY [1] PM (KQ Z))))
 refine KR ax bD 0 Z 4 Z Z (KV 6 Z (NC c4) (KR ax bD 0 Z 4 Z Z ?_));rcases jF h with⟨c5,h⟩ | ⟨c5,h⟩
 ·refine Lh Z c5 (KN Z (KM ax 1 Z ?_));obtain rfl:=Nz h;exact KP (T.ret (KT (KY [1] PM (KQ Z))))
 refine Lg Z c5 (K8 (T.seq (KN Z (KM ax 1 Z (KO Z (K9 (us:=wL6 a0.Nd) 0 Z Oa NM Z Z Z) Z ?_)))));obtain⟨x6,hx7,h⟩:=Ny h;refine Lb Z .u (.fn Tryz.call221 Z) (qw a0.Nd _ hx7) rT Z ?_;rcases jF h with⟨c8,h⟩ | ⟨c8,h⟩
 ·refine KM ax 1 Z (KV 14 Z c8 (Lz ax Z (K1 Z Z (KN Z (KM ax 1 Z ?_)))));obtain rfl:=Nz h;exact KP (T.ret (KT (KY [1] PM (KQ Z))))
 replace c8:=NF c8;refine KM ax 1 Z (KV 14 Z c8 (KW ax 1 Z (TL.q Z (.g Z Z Z) (K9 (us:=wL6 a0.M3) 0 Z Oa NM Z Z Z) Z ?_)));obtain⟨x9,hx10,h⟩:=Ny h;refine Lb Z (.g Z Z Z) (.fn Tryz.call221 Z) (qw a0.M3 _ hx10) rT Z ?_;rcases jF h with⟨c11,h⟩ | ⟨c11,h⟩
 ·refine KW ax 2 Z (KV 19 Z c11 (Lz ax Z (K1 Z Z (KN Z (KM ax 1 Z ?_)))));obtain rfl:=Nz h;exact KP (T.ret (KT (KY [1] PM (KQ Z))))
 replace c11:=NF c11;refine KW ax 2 Z (KV 19 Z c11 ?_);obtain⟨x12,hx13,h⟩:=Ny h;refine KR ax bD 0 Z 2 Z Z (Lb Z (.g Z Z Z) (.fn Tryz.call222 Z) (uD a0.M2 _ _ _ hx13) (fun _ hs=>(K7 hs hX)) Z (KW ax 2 Z ?_));rcases jF h with⟨c14,h⟩ | ⟨c14,h⟩
 ·refine KP (Li Z (bi c14) (Lk Z (KM ax 1 Z ?_)));obtain rfl:=Nz h;exact KP (T.ret (KY [1] PM (KQ Z)))
 replace c14:=NF c14;refine KP (K1 Z (bF c14) (KN Z (KM ax 1 Z ?_)));obtain rfl:=Nz h;exact KP (T.ret (KT (KY [1] PM (KQ Z))))
def lJ (a0:Rec):Option (List UInt8):=(kc a0.Nk).bind fun x5=>if (rC [0]).length+x5.length<=9223372036854775807 then ((kc a0.Na).bind fun x8=>if ((rC [0])++x5).length+x8.length<=9223372036854775807 then ((kX a0.Nd).bind fun x11=>if (((rC [0])++x5)++x8).length+x11.length<=9223372036854775807 then ((kX a0.M3).bind fun x14=>if ((((rC [0])++x5)++x8)++x11).length+x14.length<=9223372036854775807 then ((lI a0.M2).bind fun x17=>if (((((rC [0])++x5)++x8)++x11)++x14).length+x17.length<=9223372036854775807 then ((kc (((((((rC [0])++x5)++x8)++x11)++x14)++x17).length:Int)).bind fun x20=>if x20.length+((((((rC [0])++x5)++x8)++x11)++x14)++x17).length<=9223372036854775807 then (some (x20++((((((rC [0])++x5)++x8)++x11)++x14)++x17))) else none) else none) else none) else none) else none) else none
theorem uG (a0:Rec) (A1:Option Addr) (c2:Nat) (r:List UInt8) (h:lJ a0=some r):aG Tryz.prog 162 #[.agg (wA2 a0 A1 c2)] (RX.of (aq 3 dn) [.slice A1 a0.M2.length c2] a0.M2) (aL) (fun v A' N=>v=jS r/\A'=aL/\N = []):=by
 refine aU Tryz.func162 Z Tryz.ntmps162 Z ?_;intro F w hX;unfold lJ at h;refine KN Z (TL.box Z .u Z Z (fun b3=>(KM ax 1 Z ?_)));obtain⟨x5,hx6,h⟩:=Ny h;obtain⟨c7,h⟩:=al h;obtain⟨x8,hx9,h⟩:=Ny h;obtain⟨c10,h⟩:=al h;obtain⟨x11,hx12,h⟩:=Ny h;obtain⟨c13,h⟩:=al h;obtain⟨x14,hx15,h⟩:=Ny h;obtain⟨c16,h⟩:=al h;obtain⟨x17,hx18,h⟩:=Ny h;obtain⟨c19,h⟩:=al h;refine KP (T.seq ?_);refine Mr (fun e Rs=> ∃ (b4:Nat),e = [(0,.agg (wA2 a0 A1 c2)),(2,.string ⟨#[]⟩),(3,.string (ba ((((((rC [0])++x5)++x8)++x11)++x14)++x17)))]/\Rs = [aV b4 5 #[.int .u8 0],aV b3 91 (wA2 a0 A1 c2),aL]) ?_ ?_
 ·refine Ls (.q 2 (.q 3 (.q 6 (.q 7 (.q 10 (.q 11 (.q 14 (.q 15 (.q 18 (.q 19 (.br 0 (.q 1 (.e 4 (.q 5 (.e 8 (.q 9 (.e 12 (.q 13 (.e 16 (.q 17 (.e 20 (.q 21 (.q 22 .nil)))))))))))) (.e 4 (.br 0 (.q 1 (.q 5 (.e 8 (.q 9 (.e 12 (.q 13 (.e 16 (.q 17 (.e 20 (.q 21 (.q 22 .nil))))))))))) (.e 8 (.br 0 (.q 1 (.q 5 (.q 9 (.e 12 (.q 13 (.e 16 (.q 17 (.e 20 (.q 21 (.q 22 .nil)))))))))) (.e 12 (.br 0 (.q 1 (.q 5 (.q 9 (.q 13 (.e 16 (.q 17 (.e 20 (.q 21 (.q 22 .nil))))))))) (.e 16 (.br 0 (.q 1 (.q 5 (.q 9 (.q 13 (.q 17 (.e 20 (.q 21 (.q 22 .nil)))))))) (.e 20 (.e 0 (.q 1 (.q 5 (.q 9 (.q 13 (.q 17 (.q 21 (.q 22 .nil)))))))))))))))))))))))))))) [0,0] Z tn r8 QU ?_;refine TD.run ax [2] Z Z (KU Z (Lc 0 Z NH Z Z) Z (TD.run ax [6] Z Z (KU Z (Lc 0 Z NH Z Z) Z (TD.run ax [10] Z Z (KU Z (K9 (us:=wL6 a0.Nd) 0 Z Oa NM Z Z Z) Z (TD.run ax [14] Z Z (KU Z (K9 (us:=wL6 a0.M3) 0 Z Oa NM Z Z Z) Z ?_)))))));refine TD.run ax [18] Z Z (KU Z (Lc 0 Z Qi Z Z) Z ?_);refine TD.br ?_ ?_
  ·refine MI (cells:= #[.int .u8 0]) Z .u dC Z QW Z [0,0,0] (fun _=>Z) (fun b4=>(KU Z (Mx (xs := [0]) 0 Z Z Z Z OT NK O0) Z (LF Z .u (.fn Tryz.call203 Z) (fP a0.Nk _ hx6) rT Z [0,0,0] (Z) (KU Z (Ln Z Z c7) Z (LF Z .u (.fn Tryz.call203 Z) (fP a0.Na _ hx9) rT Z [0,0,0] (Z) (KU Z (Ln Z Z c10) Z (LF Z .u (.fn Tryz.call204 Z) (dr a0.Nd _ hx12) rT Z [0,0,0] (Z) (KU Z (Ln Z Z c13) Z ?_))))))));exact LF Z .u (.fn Tryz.call204 Z) (dr a0.M3 _ hx15) rT Z [0,0,0] (Z) (KU Z (Ln Z Z c16) Z (LF Z .u (.fn Tryz.call205 Z) (fI a0.M2 _ _ _ hx18) (fun _ hs=>(K7 hs hX)) Z [0,0,0] (Z) (KU Z (Ln Z Z c19) Z (TD.run ax [22] Z Z (TD.nil (L9 [0,0,0] ⟨b4,Z,Z⟩ QW QW))))))
  refine LF Z .u (.fn Tryz.call203 Z) (fP a0.Nk _ hx6) rT Z [0,0] (Z) ?_;refine TD.br ?_ ?_
  ·refine MI (cells:= #[.int .u8 0]) Z .u dC Z QW Z [0,0,0] (fun _=>Z) (fun b4=>(KU Z (Mx (xs := [0]) 0 Z Z Z Z OT NK O0) Z (KU Z (Ln Z Z c7) Z (LF Z .u (.fn Tryz.call203 Z) (fP a0.Na _ hx9) rT Z [0,0,0] (Z) (KU Z (Ln Z Z c10) Z (LF Z .u (.fn Tryz.call204 Z) (dr a0.Nd _ hx12) rT Z [0,0,0] (Z) (KU Z (Ln Z Z c13) Z (LF Z .u (.fn Tryz.call204 Z) (dr a0.M3 _ hx15) rT Z [0,0,0] (Z) ?_))))))));exact KU Z (Ln Z Z c16) Z (LF Z .u (.fn Tryz.call205 Z) (fI a0.M2 _ _ _ hx18) (fun _ hs=>(K7 hs hX)) Z [0,0,0] (Z) (KU Z (Ln Z Z c19) Z (TD.run ax [22] Z Z (TD.nil (L9 [0,0,0] ⟨b4,Z,Z⟩ QW QW)))))
  refine LF Z .u (.fn Tryz.call203 Z) (fP a0.Na _ hx9) rT Z [0,0] (Z) ?_;refine TD.br ?_ ?_
  ·refine MI (cells:= #[.int .u8 0]) Z .u dC Z QW Z [0,0,0] (fun _=>Z) (fun b4=>(KU Z (Mx (xs := [0]) 0 Z Z Z Z OT NK O0) Z (KU Z (Ln Z Z c7) Z (KU Z (Ln Z Z c10) Z (LF Z .u (.fn Tryz.call204 Z) (dr a0.Nd _ hx12) rT Z [0,0,0] (Z) (KU Z (Ln Z Z c13) Z (LF Z .u (.fn Tryz.call204 Z) (dr a0.M3 _ hx15) rT Z [0,0,0] (Z) (KU Z (Ln Z Z c16) Z ?_))))))));exact LF Z .u (.fn Tryz.call205 Z) (fI a0.M2 _ _ _ hx18) (fun _ hs=>(K7 hs hX)) Z [0,0,0] (Z) (KU Z (Ln Z Z c19) Z (TD.run ax [22] Z Z (TD.nil (L9 [0,0,0] ⟨b4,Z,Z⟩ QW QW))))
  refine LF Z .u (.fn Tryz.call204 Z) (dr a0.Nd _ hx12) rT Z [0,0] (Z) ?_;refine TD.br ?_ ?_
  ·refine MI (cells:= #[.int .u8 0]) Z .u dC Z QW Z [0,0,0] (fun _=>Z) (fun b4=>(KU Z (Mx (xs := [0]) 0 Z Z Z Z OT NK O0) Z (KU Z (Ln Z Z c7) Z (KU Z (Ln Z Z c10) Z (KU Z (Ln Z Z c13) Z (LF Z .u (.fn Tryz.call204 Z) (dr a0.M3 _ hx15) rT Z [0,0,0] (Z) (KU Z (Ln Z Z c16) Z (LF Z .u (.fn Tryz.call205 Z) (fI a0.M2 _ _ _ hx18) (fun _ hs=>(K7 hs hX)) Z [0,0,0] (Z) ?_))))))));exact KU Z (Ln Z Z c19) Z (TD.run ax [22] Z Z (TD.nil (L9 [0,0,0] ⟨b4,Z,Z⟩ QW QW)))
  refine LF Z .u (.fn Tryz.call204 Z) (dr a0.M3 _ hx15) rT Z [0,0] (Z) ?_;refine TD.br ?_ ?_
  ·refine MI (cells:= #[.int .u8 0]) Z .u dC Z QW Z [0,0,0] (fun _=>Z) (fun b4=>(KU Z (Mx (xs := [0]) 0 Z Z Z Z OT NK O0) Z (KU Z (Ln Z Z c7) Z (KU Z (Ln Z Z c10) Z (KU Z (Ln Z Z c13) Z (KU Z (Ln Z Z c16) Z (LF Z .u (.fn Tryz.call205 Z) (fI a0.M2 _ _ _ hx18) (fun _ hs=>(K7 hs hX)) Z [0,0,0] (Z) (KU Z (Ln Z Z c19) Z ?_))))))));exact TD.run ax [22] Z Z (TD.nil (L9 [0,0,0] ⟨b4,Z,Z⟩ QW QW))
  refine LF Z .u (.fn Tryz.call205 Z) (fI a0.M2 _ _ _ hx18) (fun _ hs=>(K7 hs hX)) Z [0,0] (Z) (MI (cells:= #[.int .u8 0]) Z .u dC Z QW Z [0,0,0] (fun _=>Z) (fun b4=>(KU Z (Mx (xs := [0]) 0 Z Z Z Z OT NK O0) Z (KU Z (Ln Z Z c7) Z (KU Z (Ln Z Z c10) Z (KU Z (Ln Z Z c13) Z (KU Z (Ln Z Z c16) Z (KU Z (Ln Z Z c19) Z ?_))))))));exact TD.run ax [22] Z Z (TD.nil (L9 [0,0,0] ⟨b4,Z,Z⟩ QW QW))
 rintro _ _ ⟨b4,rfl,rfl⟩;refine X.seq (KN Z (KM ax 1 Z (KO Z (LD Z NK) Z ?_)));obtain⟨x20,hx21,h⟩:=Ny h;refine Lb Z .u (.fn Tryz.call203 Z) (fP (((((((rC [0])++x5)++x8)++x11)++x14)++x17).length:Int) _ hx21) rT Z ?_;obtain⟨c22,h⟩:=al h;refine KM ax 1 Z (KO Z (Ln Z Z c22) Z (KM ax 1 Z ?_));obtain rfl:=Nz h;exact KP (T.ret (KY [2] Tryz.results162 (KQ Z)))
def na (a0:Rec) (a1:Rec):Option (Bool):=if a0.Nk=a1.Nk then (if a0.Na=a1.Na then (if a0.Nd.null=a1.Nd.null then (if a0.Nd.data=a1.Nd.data then (if a0.M3.null=a1.M3.null then (if a0.M3.data=a1.M3.data then ((mZ a0.M2 a1.M2).bind fun x13=>some x13) else some false) else some false) else some false) else some false) else some false) else some false
theorem wh (a0:Rec) (A1:Option Addr) (c2:Nat) (a1:Rec) (A3:Option Addr) (c4:Nat) (r:Bool) (h:na a0 a1=some r):aG Tryz.prog 209 #[.agg (wA2 a0 A1 c2),.agg (wA2 a1 A3 c4)] (RX.and (RX.of (aq 3 dn) [.slice A1 a0.M2.length c2] a0.M2) (RX.of (aq 3 dn) [.slice A3 a1.M2.length c4] a1.M2)) (aL) (fun v A' N=>v= .bool r/\A'=aL/\N = []):=by
 refine aU Tryz.func209 Z Tryz.ntmps209 Z ?_;intro F w hX;unfold na at h;refine KN Z (TL.box Z .u Z Z (fun b5=>(TL.box Z .u Z Z (fun b6=>(Le ax Z Z (KR ax bD 1 Z 3 Z Z ?_))))));rcases jF h with⟨c7,h⟩ | ⟨c7,h⟩
 ·refine KR ax bD 0 Z 3 Z Z (KV 10 Z (NB c7) (KR ax bD 1 Z 3 Z Z ?_));rcases jF h with⟨c8,h⟩ | ⟨c8,h⟩
  ·refine KR ax bD 0 Z 4 Z Z (KV 17 Z (NB c8) (KW ax 1 Z (TL.q Z (.g Z Z Z) (K9 (us:=wL6 a0.Nd) 1 Z Oa NM Z Z Z) Z (KW ax 1 Z (TL.q Z (.g Z Z Z) (K9 (us:=wL6 a1.Nd) 0 Z Oa NM Z Z Z) Z ?_)))));rcases jF h with⟨c9,h⟩ | ⟨c9,h⟩
   ·rcases jF h with⟨c10,h⟩ | ⟨c10,h⟩
    ·refine TL.q Z (.g Z Z Z) (Mf (us:=wL6 a0.Nd) (vs:=wL6 a1.Nd) dQ Z OQ Z Z Z Z (fq (pM c9) (fq (tf (l:=a0.Nd.data) (m:=a1.Nd.data) c10) Z))) Z (KW ax 3 Z (TL.q Z (.g Z Z Z) (K9 (us:=wL6 a0.M3) 1 Z Oa NM Z Z Z) Z (KW ax 1 Z (TL.q Z (.g Z Z Z) (K9 (us:=wL6 a1.M3) 0 Z Oa NM Z Z Z) Z ?_))));rcases jF h with⟨c11,h⟩ | ⟨c11,h⟩
     ·rcases jF h with⟨c12,h⟩ | ⟨c12,h⟩
      ·refine TL.q Z (.g Z Z Z) (Mf (us:=wL6 a0.M3) (vs:=wL6 a1.M3) dQ Z OQ Z Z Z Z (fq (pM c11) (fq (tf (l:=a0.M3.data) (m:=a1.M3.data) c12) Z))) Z (KR ax bD 1 Z 5 Z Z ?_);obtain⟨x13,hx14,h⟩:=Ny h;refine KR ax bD 0 Z 1 Z Z (Lb Z (.g Z Z Z) (.fn Tryz.call228 Z) (wg a0.M2 _ _ a1.M2 _ _ _ hx14) (fun _ hs=>(RX.reads_and (K7 hs (Lx hX)) (K7 hs (Lf hX)))) Z (KW ax 2 Z ?_));obtain rfl:=Nz h;exact KP (T.ret (KY [2] PD (KQ Z)))
      refine TL.q Z (.g Z Z Z) (Mf (us:=wL6 a0.M3) (vs:=wL6 a1.M3) dQ Z OQ Z Z Z Z (fq (pM c11) (mo (sv (l:=a0.M3.data) (m:=a1.M3.data) c12)))) Z (KW ax 9 Z ?_);obtain rfl:=Nz h;exact KP (T.ret (KY [2] PD (KQ Z)))
     refine TL.q Z (.g Z Z Z) (Mf (us:=wL6 a0.M3) (vs:=wL6 a1.M3) dQ Z OQ Z Z Z Z (mo (ul c11))) Z (KW ax 9 Z ?_);obtain rfl:=Nz h;exact KP (T.ret (KY [2] PD (KQ Z)))
    refine TL.q Z (.g Z Z Z) (Mf (us:=wL6 a0.Nd) (vs:=wL6 a1.Nd) dQ Z OQ Z Z Z Z (fq (pM c9) (mo (sv (l:=a0.Nd.data) (m:=a1.Nd.data) c10)))) Z (KW ax 16 Z ?_);obtain rfl:=Nz h;exact KP (T.ret (KY [2] PD (KQ Z)))
   refine TL.q Z (.g Z Z Z) (Mf (us:=wL6 a0.Nd) (vs:=wL6 a1.Nd) dQ Z OQ Z Z Z Z (mo (ul c9))) Z (KW ax 16 Z ?_);obtain rfl:=Nz h;exact KP (T.ret (KY [2] PD (KQ Z)))
  refine KR ax bD 0 Z 4 Z Z (KV 17 Z (NC c8) (KW ax 21 Z ?_));obtain rfl:=Nz h;exact KP (T.ret (KY [2] PD (KQ Z)))
 refine KR ax bD 0 Z 3 Z Z (KV 10 Z (NC c7) (KW ax 28 Z ?_));obtain rfl:=Nz h;exact KP (T.ret (KY [2] PD (KQ Z)))
def uH:eO := [(23,0,0),(23,1,1),(91,1,1),(91,2,2),(91,3,4),(91,4,6)]
theorem ar:(uH).OK Tryz.prog:=⟨FOK.mk N2 rfl Oe rfl,FOK.mk N2 rfl N6 rfl,FOK.mk N4 rfl NG rfl,FOK.mk N4 rfl NM rfl,FOK.mk N4 rfl NM rfl,FOK.mk N4 rfl Pz rfl,trivial⟩
def uI:List Nat := [3,4,9,89]
theorem dc:NOK Tryz.prog uI:=⟨NH,Oz,Oc,Qi,trivial⟩
def jL (a0:List UInt8):Option (Int×Int):=if (a0.length:Int)<2 then some (0,1) else (if 2<=a0.length then ((xi (a0.take 2)).bind fun x3=>if x3=0 then (if (a0.length:Int)<4 then some (0,1) else (if 4<=a0.length then ((xi ((a0.drop 2).take 2)).bind fun x8=>if x8=0 then (if (a0.length:Int)>4 then some (0,2) else some (x8,0)) else (if x8=1 then (if (a0.length:Int)>4 then some (0,2) else some (x8,0)) else some (0,12))) else none)) else some (0,7)) else none)
theorem sy (a0:List UInt8) (r:Int×Int) (h:jL a0=some r):aG Tryz.prog 223 #[jS a0] .triv (aL) (fun v A' N=>v= .tuple #[jI r.1,jI r.2]/\A'=aL/\N = []):=by
 refine aU Tryz.func223 Z Tryz.ntmps223 Z ?_;intro F w hX;unfold jL at h;refine KN Z (KX ar Z (T.seq (KN Z (KM ar 1 Z (KO Z (LD Z NK) Z (KM ar 1 Z ?_))))));rcases jF h with⟨c1,h⟩ | ⟨c1,h⟩
 ·refine Lh Z c1 (KN Z (KM ar 2 Z ?_));obtain rfl:=Nz h;exact KP (T.ret (KT (Lu [0] Pv (KQ Z) (KQ Z) ⟨Z,Z,Z⟩ QW (.inl Z))))
 refine Lg Z c1 (K8 (T.seq (KN Z ?_)));obtain⟨c2,h⟩:=al h;refine KM ar 1 Z ?_;replace c2:2<=a0.length:=c2;refine KO Z (Mj (p:=0) (q:=2) (m:=(a0.take 2)) Z NK .none (.some Z Z) (by first | omega | (dsimp only; omega)) (by simp)) Z ?_;obtain⟨x3,hx4,h⟩:=Ny h;refine Lb Z .u (.fn Tryz.call25 Z) (LL (fun w=>pf (a0.take 2) _ hx4 w)) (fun _ _=>Lv _ _) Z (KM ar 1 Z ?_);rcases jF h with⟨c5,h⟩ | ⟨c5,h⟩
 ·refine Lr Z c5 (K8 (T.seq (KN Z (KM ar 1 Z (KO Z (LD Z NK) Z (KM ar 1 Z ?_))))));rcases jF h with⟨c6,h⟩ | ⟨c6,h⟩
  ·refine Lh Z c6 (KN Z (KM ar 2 Z ?_));obtain rfl:=Nz h;exact KP (T.ret (KT (Lu [0] Pv (KQ Z) (KQ Z) ⟨Z,Z,Z⟩ QW (.inl Z))))
  refine Lg Z c6 (Lk Z ?_);obtain⟨c7,h⟩:=al h;refine KM ar 1 Z ?_;replace c7:4<=a0.length:=c7;refine KO Z (Mj (p:=2) (q:=4) (m:=((a0.drop 2).take 2)) Z NK (.some Z Z) (.some Z Z) (by first | omega | (dsimp only; omega)) Z) Z ?_;obtain⟨x8,hx9,h⟩:=Ny h;refine Lb Z .u (.fn Tryz.call25 Z) (LL (fun w=>pf ((a0.drop 2).take 2) _ hx9 w)) (fun _ _=>Lv _ _) Z (KX ar Z (T.seq (KN Z ?_)));rcases jF h with⟨c10,h⟩ | ⟨c10,h⟩
  ·refine KM ar 3 Z (KV 20 Z (bi (NB c10)) (Lz ar Z (Li Z Z (K8 (T.seq (KN Z (KM ar 1 Z (KO Z (LD Z NK) Z ?_))))))));refine KM ar 1 Z ?_;rcases jF h with⟨c11,h⟩ | ⟨c11,h⟩
   ·refine Lh Z c11 (KN Z (KM ar 2 Z ?_));obtain rfl:=Nz h;exact KP (T.ret (KT (Lu [0] Pv (KQ Z) (KQ Z) ⟨Z,Z,Z⟩ QW (.inl Z))))
   refine Lg Z c11 (Lk Z (KM ar 3 Z ?_));obtain rfl:=Nz h;exact KP (T.ret (Lu [0] Pv (KQ Z) (KQ Z) ⟨Z,Z,Z⟩ QW (.inl Z)))
  refine KM ar 3 Z (KV 20 Z (bF (NC c10)) (KW ar 3 Z ?_));rcases jF h with⟨c12,h⟩ | ⟨c12,h⟩
  ·refine Lr Z c12 (K8 (T.seq (KN Z (KM ar 1 Z (KO Z (LD Z NK) Z (KM ar 1 Z ?_))))));rcases jF h with⟨c13,h⟩ | ⟨c13,h⟩
   ·refine Lh Z c13 (KN Z (KM ar 2 Z ?_));obtain rfl:=Nz h;exact KP (T.ret (KT (Lu [0] Pv (KQ Z) (KQ Z) ⟨Z,Z,Z⟩ QW (.inl Z))))
   refine Lg Z c13 (Lk Z (KM ar 3 Z ?_));obtain rfl:=Nz h;exact KP (T.ret (Lu [0] Pv (KQ Z) (KQ Z) ⟨Z,Z,Z⟩ QW (.inl Z)))
  refine Lq Z c12 (KN Z (KM ar 2 Z ?_));obtain rfl:=Nz h;exact KP (T.ret (KT (Lu [0] Pv (KQ Z) (KQ Z) ⟨Z,Z,Z⟩ QW (.inl Z))))
 refine Lq Z c5 (KN Z (KM ar 2 Z ?_));obtain rfl:=Nz h;exact KP (T.ret (KT (Lu [0] Pv (KQ Z) (KQ Z) ⟨Z,Z,Z⟩ QW (.inl Z))))
def ir (a0:List UInt8):Option (Int×Int):=if (a0.length:Int)<2 then some (0,1) else (if 2<=a0.length then ((xi (a0.take 2)).bind fun x3=>if x3=0 then (if (a0.length:Int)<6 then some (0,1) else (if 6<=a0.length then ((xi ((a0.drop 2).take 4)).bind fun x8=>if x8<0 then some (0,11) else (if (a0.length:Int)>6 then some (0,2) else some (x8,0))) else none)) else some (0,7)) else none)
theorem qx (a0:List UInt8) (r:Int×Int) (h:ir a0=some r):aG Tryz.prog 224 #[jS a0] .triv (aL) (fun v A' N=>v= .tuple #[jI r.1,jI r.2]/\A'=aL/\N = []):=by
 refine aU Tryz.func224 Z Tryz.ntmps224 Z ?_;intro F w hX;unfold ir at h;refine KN Z (KX ar Z (T.seq (KN Z (KM ar 1 Z (KO Z (LD Z NK) Z (KM ar 1 Z ?_))))));rcases jF h with⟨c1,h⟩ | ⟨c1,h⟩
 ·refine Lh Z c1 (KN Z (KM ar 2 Z ?_));obtain rfl:=Nz h;exact KP (T.ret (KT (Lu [0] PN (KQ Z) (KQ Z) ⟨Z,Z,Z⟩ QW (.inl Z))))
 refine Lg Z c1 (K8 (T.seq (KN Z ?_)));obtain⟨c2,h⟩:=al h;refine KM ar 1 Z ?_;replace c2:2<=a0.length:=c2;refine KO Z (Mj (p:=0) (q:=2) (m:=(a0.take 2)) Z NK .none (.some Z Z) (by first | omega | (dsimp only; omega)) (by simp)) Z ?_;obtain⟨x3,hx4,h⟩:=Ny h;refine Lb Z .u (.fn Tryz.call25 Z) (LL (fun w=>pf (a0.take 2) _ hx4 w)) (fun _ _=>Lv _ _) Z (KM ar 1 Z ?_);rcases jF h with⟨c5,h⟩ | ⟨c5,h⟩
 ·refine Lr Z c5 (K8 (T.seq (KN Z (KM ar 1 Z (KO Z (LD Z NK) Z (KM ar 1 Z ?_))))));rcases jF h with⟨c6,h⟩ | ⟨c6,h⟩
  ·refine Lh Z c6 (KN Z (KM ar 2 Z ?_));obtain rfl:=Nz h;exact KP (T.ret (KT (Lu [0] PN (KQ Z) (KQ Z) ⟨Z,Z,Z⟩ QW (.inl Z))))
  refine Lg Z c6 (Lk Z ?_);obtain⟨c7,h⟩:=al h;refine KM ar 1 Z ?_;replace c7:6<=a0.length:=c7;refine KO Z (Mj (p:=2) (q:=6) (m:=((a0.drop 2).take 4)) Z NK (.some Z Z) (.some Z Z) (by first | omega | (dsimp only; omega)) Z) Z ?_;obtain⟨x8,hx9,h⟩:=Ny h;refine Lb Z .u (.fn Tryz.call25 Z) (LL (fun w=>pf ((a0.drop 2).take 4) _ hx9 w)) (fun _ _=>Lv _ _) Z (KX ar Z (T.seq (KN Z (KM ar 2 Z ?_))));rcases jF h with⟨c10,h⟩ | ⟨c10,h⟩
  ·refine Lh Z c10 (KN Z (KM ar 2 Z ?_));obtain rfl:=Nz h;exact KP (T.ret (KT (Lu [0] PN (KQ Z) (KQ Z) ⟨Z,Z,Z⟩ QW (.inl Z))))
  refine Lg Z c10 (K8 (T.seq (KN Z (KM ar 1 Z (KO Z (LD Z NK) Z (KM ar 1 Z ?_))))));rcases jF h with⟨c11,h⟩ | ⟨c11,h⟩
  ·refine Lh Z c11 (KN Z (KM ar 2 Z ?_));obtain rfl:=Nz h;exact KP (T.ret (KT (Lu [0] PN (KQ Z) (KQ Z) ⟨Z,Z,Z⟩ QW (.inl Z))))
  refine Lg Z c11 (Lk Z (KM ar 3 Z ?_));obtain rfl:=Nz h;exact KP (T.ret (Lu [0] PN (KQ Z) (KQ Z) ⟨Z,Z,Z⟩ QW (.inl Z)))
 refine Lq Z c5 (KN Z (KM ar 2 Z ?_));obtain rfl:=Nz h;exact KP (T.ret (KT (Lu [0] PN (KQ Z) (KQ Z) ⟨Z,Z,Z⟩ QW (.inl Z))))
def iT (a0:Rec):Option (Int×Int×Int):=if a0.Nd.null=true then some (0,0,12) else (if a0.M3.null=true then some (0,0,12) else (if (a0.M2.length:Int)>0 then some (0,0,12) else (if a0.Na=0 then ((jL a0.Nd.data).bind fun (x8,x9)=>if x9=0 then ((ir a0.M3.data).bind fun (x12,x13)=>if x13=0 then some (x8,x12,0) else some (0,0,x13)) else some (0,0,x9)) else some (0,0,12))))
theorem wi (a0:Rec) (A1:Option Addr) (c2:Nat) (r:Int×Int×Int) (h:iT a0=some r):aG Tryz.prog 201 #[.agg (wA2 a0 A1 c2)] (RX.of (aq 3 dn) [.slice A1 a0.M2.length c2] a0.M2) (aL) (fun v A' N=>v= .tuple #[jI r.1,jI r.2.1,jI r.2.2]/\A'=aL/\N = []):=by
 refine aU Tryz.func201 Z Tryz.ntmps201 Z ?_;intro F w hX;unfold iT at h;refine KN Z (TL.box Z .u Z Z (fun b3=>(KX ar Z (T.seq (KN Z ?_)))));rcases jF h with⟨c4,h⟩ | ⟨c4,h⟩
 ·refine KR ar dc 0 Z 4 Z Z (KV 12 Z c4 (Lz ar Z (K1 Z Z (KN Z (KM ar 3 Z ?_)))));obtain rfl:=Nz h;exact KP (T.ret (KT (Md [1] PE (KQ Z) (KQ Z) (KQ Z) ⟨Z,Z,Z⟩ QW (.inl Z))))
 replace c4:=NF c4;refine KR ar dc 0 Z 4 Z Z (KV 12 Z c4 ?_);rcases jF h with⟨c5,h⟩ | ⟨c5,h⟩
 ·refine KR ar dc 0 Z 5 Z Z (KV 17 Z c5 (Lz ar Z (K1 Z Z (KN Z (KM ar 3 Z ?_)))));obtain rfl:=Nz h;exact KP (T.ret (KT (Md [1] PE (KQ Z) (KQ Z) (KQ Z) ⟨Z,Z,Z⟩ QW (.inl Z))))
 replace c5:=NF c5;refine KR ar dc 0 Z 5 Z Z (KV 17 Z c5 (KR ar dc 0 Z 2 Z Z (TL.q Z (.g Z Z Z) (K4 Z Ob) Z ?_)));rcases jF h with⟨c6,h⟩ | ⟨c6,h⟩
 ·refine KW ar 3 Z (KV 23 Z (NB c6) (Lz ar Z (K1 Z Z (KN Z (KM ar 3 Z ?_)))));obtain rfl:=Nz h;exact KP (T.ret (KT (Md [1] PE (KQ Z) (KQ Z) (KQ Z) ⟨Z,Z,Z⟩ QW (.inl Z))))
 refine KW ar 3 Z (KV 23 Z (NC c6) (KR ar dc 0 Z 4 Z Z ?_));rcases jF h with⟨c7,h⟩ | ⟨c7,h⟩
 ·refine Lr Z c7 (Lk Z ?_);obtain⟨⟨x8,x9⟩,hx10,h⟩:=Ny h;refine KR ar dc 0 Z 3 Z Z (Lb Z .u (.fn Tryz.call223 Z) (sy a0.Nd.data _ hx10) rT Z (KX ar Z (T.seq (KN Z (KM ar 2 Z ?_)))));rcases jF h with⟨c11,h⟩ | ⟨c11,h⟩
  ·refine Lr Z c11 (Lk Z ?_);obtain⟨⟨x12,x13⟩,hx14,h⟩:=Ny h;refine KR ar dc 0 Z 3 Z Z (Lb Z .u (.fn Tryz.call224 Z) (qx a0.M3.data _ hx14) rT Z (KX ar Z (T.seq (KN Z (KM ar 2 Z ?_)))));rcases jF h with⟨c15,h⟩ | ⟨c15,h⟩
   ·refine Lr Z c15 (Lk Z (KM ar 5 Z ?_));obtain rfl:=Nz h;exact KP (T.ret (Md [1] PE (KQ Z) (KQ Z) (KQ Z) ⟨Z,Z,Z⟩ QW (.inl Z)))
   refine Lq Z c15 (KN Z (KM ar 4 Z ?_));obtain rfl:=Nz h;exact KP (T.ret (KT (Md [1] PE (KQ Z) (KQ Z) (KQ Z) ⟨Z,Z,Z⟩ QW (.inl Z))))
  refine Lq Z c11 (KN Z (KM ar 4 Z ?_));obtain rfl:=Nz h;exact KP (T.ret (KT (Md [1] PE (KQ Z) (KQ Z) (KQ Z) ⟨Z,Z,Z⟩ QW (.inl Z))))
 refine Lq Z c7 (KN Z (KM ar 3 Z ?_));obtain rfl:=Nz h;exact KP (T.ret (KT (Md [1] PE (KQ Z) (KQ Z) (KQ Z) ⟨Z,Z,Z⟩ QW (.inl Z))))
def uJ:eO := []
theorem aS:(uJ).OK Tryz.prog:=trivial
theorem oR:SOK Tryz.prog 74 3 12 1 #[.int .i64 0,.int .i64 0,.int .i64 0,.int .i64 0,.int .i64 0,.int .i64 0,.int .i64 0,.int .i64 0,.int .i64 0,.int .i64 0,.int .i64 0,.int .i64 0]:=SOK.mk NN NG Tryz.zeroValue3 QS QU
def cB (a0:List Int):Nat->List UInt8->Bool->List UInt8->Nat->Option (Lp (List UInt8×Bool) (List UInt8×Bool×List UInt8×Nat))
 | 0,_,_,_,_=>none
 | m11+1,y4,y5,y6,k7=>if (k7:Int)<12 then ((a0[k7]?).bind fun x16=>if (k7:Int)=3 then ((if x16<0 then some true else (if x16>4294967295 then some true else some false)).bind fun y21=>if y21=true then (some (Lp.ret ([],false))) else ((if x16>2147483647 then (if -9223372036854775808<=(x16 - 4294967296)/\(x16 - 4294967296)<=9223372036854775807 then some (x16 - 4294967296) else none) else some x16).bind fun y28=>(cP 2 1).bind fun x32=>if y6.length+x32.length<=9223372036854775807 then (([8,4,4,4,2,4,8,8,8,2,4,4][k7]?).bind fun x35=>(xj y28 x35).bind fun x38=>if x38=true then ((cP y28 x35).bind fun x41=>if (y6++x32).length+x41.length<=9223372036854775807 then (if -9223372036854775808<=((k7:Int)+1)/\((k7:Int)+1)<=9223372036854775807 then (cB a0 m11 y4 y5 ((y6++x32)++x41) (k7+1)) else none) else none) else (some (Lp.ret ([],false)))) else none)) else (([8,4,4,4,2,4,8,8,8,2,4,4][k7]?).bind fun x45=>(xj x16 x45).bind fun x48=>if x48=true then ((cP x16 x45).bind fun x51=>if y6.length+x51.length<=9223372036854775807 then (if -9223372036854775808<=((k7:Int)+1)/\((k7:Int)+1)<=9223372036854775807 then (cB a0 m11 y4 y5 (y6++x51) (k7+1)) else none) else none) else (some (Lp.ret ([],false))))) else (some (Lp.go (y4,y5,y6,k7)))
def g8 (a0:List Int):Option (List UInt8×Bool):=(cB a0 ((12:Int).toNat+1) [] false [] 0).bind fun e=>match e with | .ret r=>some r | .go (y55,y56,y57,k58)=>some (y57,true)
theorem oT (a0:List Int) (A1:Option Addr) (c2:Nat) (r:List UInt8×Bool) (h:g8 a0=some r):aG Tryz.prog 163 #[.slice A1 a0.length c2] (RX.of (aq 1 ea) [.slice A1 a0.length c2] a0) (aL) (fun v A' N=>v= .tuple #[jS r.1,.bool r.2]/\A'=aL/\N = []):=by
 refine aU Tryz.func163 Z Tryz.ntmps163 Z ?_;intro F w hX;unfold g8 at h;refine KN Z (Le aS Z Z ?_);refine L4 (cells:= #[jI 8,jI 4,jI 4,jI 4,jI 2,jI 4,jI 8,jI 8,jI 8,jI 2,jI 4,jI 4]) Z .u oR Z QU Z (fun b3=> ?_);refine MA (us := [jI 8,jI 4,jI 4,jI 4,jI 2,jI 4,jI 8,jI 8,jI 8,jI 2,jI 4,jI 4]) (xs := [8,4,4,4,2,4,8,8,8,2,4,4]) (E:=ea) (z:=1) Z (Nat.le_of_ble_eq_true Z) (fun _=>⟨Z,Z,⟨Z,Z,⟨Z,Z,⟨Z,Z,⟨Z,Z,⟨Z,Z,⟨Z,Z,⟨Z,Z,⟨Z,Z,⟨Z,Z,⟨Z,Z,⟨Z,Z,Z⟩⟩⟩⟩⟩⟩⟩⟩⟩⟩⟩⟩) (Le aS Z Z (KX aS Z (T.seq (KN Z (KX aS Z (T.block ?_))))));obtain⟨E8,hE9,hO10⟩:=Ny h;refine LB (fun m e Rs=> ∃ (y4:List UInt8) (y5:Bool) (y6:List UInt8) (k7:Nat),e = [(0,.slice A1 a0.length c2),(2,jS y4),(3,.bool y5),(4,.slice (some ⟨b3,0,none⟩) 12 12),(5,jS y6),(6,jI (k7:Int))]/\Rs = [bG 3 1 ea (.slice (some ⟨b3,0,none⟩) 12 12) [8,4,4,4,2,4,8,8,8,2,4,4],aL]/\cB a0 m y4 y5 y6 k7=some E8) ((12:Int).toNat+1) [0,0] ⟨[],false,[],0,Z,Z,by exact hE9⟩ QW QW ?_;clear hE9 h;rintro m11 _ _ ⟨y4,y5,y6,k7,rfl,rfl,h⟩
 cases m11 with
 | zero =>
  rw[cB] at h;cases h
 | succ m11 =>
  rw[cB] at h;refine T.seq (KN Z (KM aS 2 Z ?_));rcases jF h with⟨c15,h⟩ | ⟨c15,h⟩
  ·refine Lh Z c15 (K8 (T.seq (T.block (KN Z ?_))));obtain⟨x16,hx17,h⟩:=Ny h;obtain⟨gz18,oz18,rfl,z18cs,z18cl,z18cc,z18nf,z18r⟩:=Lm QS hX hx17;obtain⟨z18S,z18r,z18rr⟩:=z18r;obtain rfl:z18cs = [jI x16]:=z18r;refine KM aS 2 Z ?_;refine KO Z (K6 (k:=k7) Z Z Z NN NG (ND hx17).1) Z ?_;refine KO Z (Lw 0 Z NH z18nf z18cc Z Z) Z (KX aS Z (T.seq (KN Z (KM aS 2 Z ?_))));rcases jF h with⟨c19,h⟩ | ⟨c19,h⟩
   ·refine Lh Z c19 (L0 ?_);obtain⟨y21,h,hk22⟩:=Ny h;refine LE (fun e Rs=>e = [(0,.slice (some ⟨gz18,oz18,none⟩) a0.length c2),(2,jS y4),(3,.bool y5),(4,.slice (some ⟨b3,0,none⟩) 12 12),(5,jS y6),(6,jI (k7:Int)),(7,jI x16),(24,.bool y21)]/\Rs = [bG 3 1 ea (.slice (some ⟨b3,0,none⟩) 12 12) [8,4,4,4,2,4,8,8,8,2,4,4],aL]) ?_ ?_
    ·clear hk22;refine T.region Z ?_;rcases jF h with⟨c23,h⟩ | ⟨c23,h⟩
     ·refine KM aS 3 Z (KV 21 Z (NB c23) (KW aS 3 Z ?_));cases h;exact TL.nil (K0 [0,0])
     refine KM aS 3 Z (KV 21 Z (NC c23) (KW aS 3 Z ?_));rcases jF h with⟨c24,h⟩ | ⟨c24,h⟩
     ·cases h;exact TL.nil (LH (d:=24) (v':= .bool true) Z (congrArg Value.bool (NB c24)) (K0 [0,0]))
     cases h;exact TL.nil (LH (d:=24) (v':= .bool false) Z (congrArg Value.bool (NC c24)) (K0 [0,0]))
    rintro _ _ ⟨rfl,rfl⟩;clear h;have h:=hk22;clear hk22;try dsimp only at h
    rcases jF h with⟨c25,h⟩ | ⟨c25,h⟩
    ·refine X.seq (K1 Z c25 (KN Z (KM aS 2 Z ?_)));obtain rfl:=Nz h;obtain rfl:=Nz hO10;exact KP (T.ret (KT (KT (K2 (KT (KT (K2 (KT (Lu [1] Qy (KQ Z) (KQ Z) ⟨Z,Z,Z⟩ QW (.inl Z))))))))))
    replace c25:=NF c25;refine X.seq (Li Z c25 (K8 (T.seq (KN Z (KX aS Z ?_)))));obtain⟨y28,h,hk29⟩:=Ny h;refine LE (fun e Rs=>e = [(0,.slice (some ⟨gz18,oz18,none⟩) a0.length c2),(2,jS y4),(3,.bool y5),(4,.slice (some ⟨b3,0,none⟩) 12 12),(5,jS y6),(6,jI (k7:Int)),(7,jI y28)]/\Rs = [bG 3 1 ea (.slice (some ⟨b3,0,none⟩) 12 12) [8,4,4,4,2,4,8,8,8,2,4,4],aL]) ?_ ?_
    ·clear hk29;rcases jF h with⟨c30,h⟩ | ⟨c30,h⟩
     ·refine L2 Z c30 (T.region Z ?_);obtain⟨c31,h⟩:=al h;refine KM aS 1 Z (KO Z (Ex.sub Z Z c31) Z (KM aS 1 Z ?_));cases h;exact TL.nil (K0 [0,0])
     refine L3 Z c30 ?_;cases h;exact T.skip (K0 [0,0])
    rintro _ _ ⟨rfl,rfl⟩;clear h;have h:=hk29;clear hk29;refine X.seq (T.region Z ?_);obtain⟨x32,hx33,h⟩:=Ny h;refine KM aS 1 Z (Lb Z .u (.fn Tryz.call63 Z) (bB 2 1 _ hx33) rT Z ?_);obtain⟨c34,h⟩:=al h;refine KO Z (Ln Z Z c34) Z (KX aS Z (T.seq (KN Z ?_)));obtain⟨x35,hx36,h⟩:=Ny h;refine KM aS 3 Z (Mt (E:=ea) (k:=k7) 0 Z (fun w G h=>bX QS w G h) QS hx36 ?_);rintro gg oo _ ⟨⟩ _ ⟨_,_,rfl⟩;refine Lt [0,0] Z ?_;refine KO Z (K6 (k:=k7) Z Z Z NN NG (ND hx36).1) Z ?_;refine KO Z (Mq (cs := [jI x35]) 0 0 Z NH Z (fun _ _ h=>h.2.2.1) Z) Z ?_;obtain⟨x38,hx39,h⟩:=Ny h;refine Lb Z .u (.fn Tryz.call206 Z) (vR y28 x35 _ hx39) rT Z (KM aS 1 Z ?_);rcases jF h with⟨c40,h⟩ | ⟨c40,h⟩
    ·refine KP (Li Z (bi c40) (K8 (T.region Z (KM aS 4 Z ?_))));refine KO Z (K6 (k:=k7) Z Z Z NN NG (ND hx36).1) Z ?_;refine KO Z (Mq (cs := [jI x35]) 0 0 Z NH Z (fun _ _ h=>h.2.2.1) Z) Z ?_;obtain⟨x41,hx42,h⟩:=Ny h;refine Lb Z .u (.fn Tryz.call63 Z) (bB y28 x35 _ hx42) rT Z ?_;obtain⟨c43,h⟩:=al h;refine KO Z (Ln Z Z c43) Z (KM aS 1 Z (TL.nil (La (X.seq (T.region Z ?_)))));obtain⟨c44,h⟩:=al h;exact KM aS 1 Z (KO Z (Ex.add Z Z c44) Z (KM aS 1 Z (TL.nil (X.unf 0 Z (LJ [0,0] Z (X.back (m':=m11) [0,0] QR ⟨y4,y5,((y6++x32)++x41),k7+1,Z,Z,h⟩ QW QW))))))
    replace c40:=NF c40;refine KP (K1 Z (bF c40) (KN Z (KM aS 2 Z ?_)));obtain rfl:=Nz h;obtain rfl:=Nz hO10;exact KP (T.ret (KT (K2 (KT (KT (K2 (KT (Lu [1] Qy (KQ Z) (KQ Z) ⟨Z,Z,Z⟩ QW (.inl Z)))))))))
   refine Lg Z c19 (K8 (T.seq (KN Z ?_)));obtain⟨x45,hx46,h⟩:=Ny h;refine KM aS 3 Z (Mt (E:=ea) (k:=k7) 0 Z (fun w G h=>bX QS w G h) QS hx46 ?_);rintro gg oo _ ⟨⟩ _ ⟨_,_,rfl⟩;refine Lt [0,0] Z ?_;refine KO Z (K6 (k:=k7) Z Z Z NN NG (ND hx46).1) Z ?_;refine KO Z (Mq (cs := [jI x45]) 0 0 Z NH Z (fun _ _ h=>h.2.2.1) Z) Z ?_;obtain⟨x48,hx49,h⟩:=Ny h;refine Lb Z .u (.fn Tryz.call206 Z) (vR x16 x45 _ hx49) rT Z (KM aS 1 Z ?_);rcases jF h with⟨c50,h⟩ | ⟨c50,h⟩
   ·refine KP (Li Z (bi c50) (K8 (T.region Z (KM aS 4 Z ?_))));refine KO Z (K6 (k:=k7) Z Z Z NN NG (ND hx46).1) Z ?_;refine KO Z (Mq (cs := [jI x45]) 0 0 Z NH Z (fun _ _ h=>h.2.2.1) Z) Z ?_;obtain⟨x51,hx52,h⟩:=Ny h;refine Lb Z .u (.fn Tryz.call63 Z) (bB x16 x45 _ hx52) rT Z ?_;obtain⟨c53,h⟩:=al h;refine KO Z (Ln Z Z c53) Z (KM aS 1 Z (TL.nil (La (X.seq (T.region Z ?_)))));obtain⟨c54,h⟩:=al h;exact KM aS 1 Z (KO Z (Ex.add Z Z c54) Z (KM aS 1 Z (TL.nil (X.unf 0 Z (LJ [0,0] Z (X.back (m':=m11) [0,0] QR ⟨y4,y5,(y6++x51),k7+1,Z,Z,h⟩ QW QW))))))
   replace c50:=NF c50;refine KP (K1 Z (bF c50) (KN Z (KM aS 2 Z ?_)));obtain rfl:=Nz h;obtain rfl:=Nz hO10;exact KP (T.ret (KT (K2 (KT (KT (K2 (KT (Lu [1] Qy (KQ Z) (KQ Z) ⟨Z,Z,Z⟩ QW (.inl Z)))))))))
  refine Lg Z c15 ?_;obtain rfl:=Nz h;replace h:=hO10;clear hO10;refine T.exit (K5 (K5 (Ly (X.seq (KN Z (KM aS 3 Z ?_))))));obtain rfl:=Nz h;exact KP (T.ret (Lu [1] Qy (KQ Z) (KQ Z) ⟨Z,Z,Z⟩ QW (.inl Z)))
end Go.Proofs.YtheikonlgjdopaaGreat.Sl
