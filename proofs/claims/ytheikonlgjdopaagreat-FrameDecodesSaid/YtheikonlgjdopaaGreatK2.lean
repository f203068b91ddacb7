/- frameDecodes_holds: part 2. -/
import Derived.Lib.Builder
import Derived.Lib.UnsafeStr
import Derived.Laws.IdiomCopy
import Derived.Laws.CopyRow
import Derived.ChangeKeysEq
import Derived.Test.YtheikonlgjdopaaGreatK1
set_option maxRecDepth 100000
set_option maxHeartbeats 4000000
set_option linter.defProp false
namespace Go.Proofs.YtheikonlgjdopaaGreat.Sl
open Go.RowKit
set_option linter.unusedVariables false
set_option linter.unusedSimpArgs false
def Nn := @decide_eq_true
def Np := @decide_eq_false
def Nt := @eq_false_of_ne_true
def Nu := @Tryz.sizeOf3
def Nv := @Tryz.runUnderlying9
def Nw := @Tryz.isAgg3
def NA := @Tryz.sizeOf23
def ND := @Tryz.runUnderlying74
def NE := @Tryz.sizeOf91
def NS := @Tryz.sizeOf51
def NV := @Tryz.runUnderlying23
def NW := @Tryz.isAgg23
def NX := @Tryz.runUnderlying91
def N4 := @Tryz.runUnderlying48
def N5 := @Tryz.sizeOf9
def N6 := @Tryz.sizeOf4
def N7 := @Tryz.sizeOf310
def N8 := @Tryz.isAgg9
def Ob := @Tryz.sizeOf193
def Oc := @Tryz.runUnderlying212
def Od := @Tryz.isAgg91
def Oe := @Tryz.runUnderlying89
def Ol := @Tryz.sizeOf195
def Or := @Tryz.isAgg4
def Ou := @Tryz.runUnderlying189
def Ow := @Tryz.runUnderlying49
def Oz := @Tryz.isAgg51
def OC := @Tryz.sizeOf179
def OD := @Tryz.runUnderlying33
def OG := @Tryz.runUnderlying174
def OH := @Tryz.runUnderlying34
def OJ := @Tryz.sizeOf191
def ON := @Tryz.sizeOf176
def OO := @Tryz.sizeOf245
def OQ := @Tryz.eqGuardType23
def OS := @Tryz.runUnderlying161
def OW := @Tryz.sizeOf173
def OX := @Tryz.isAgg310
def OZ := @Tryz.runUnderlying3
def O2 := @Tryz.runUnderlying36
def Pb := @Tryz.runUnderlying51
def Pf := @Tryz.sizeOf212
def Ph := @Tryz.results232
def Pj := @Tryz.runUnderlying173
def Pk := @Tryz.runUnderlying245
def Pn := @Tryz.sizeOf28
def Px := @Tryz.isAgg189
def PD := @Tryz.results223
def PE := @Tryz.isAgg177
def PF := @Tryz.sizeOf89
def PI := @Tryz.runUnderlying176
def PJ := @Tryz.runUnderlying191
def PK := @Tryz.results237
def PL := @Tryz.runUnderlying310
def PM := @Tryz.results209
def PN := @Tryz.results201
def PQ := @Tryz.sizeOf177
def PS := @Tryz.isAgg179
def PU := @Tryz.results200
def PV := @Tryz.results224
def P0 := @Tryz.runUnderlying179
def P6 := @Tryz.isAgg173
def P7 := @Tryz.isAgg174
def Qa := @Tryz.eqGuardType245
def Qb := @Tryz.results228
def Qc := @Tryz.results211
def Qo := @Tryz.sizeOf174
def Qs := @Tryz.isAgg176
def Qt := @Tryz.isAgg191
def Qu := @Tryz.isAgg245
def QM := @Tryz.sizeOf189
def s9 (b:Nat) (l:AI):Res where
 P:=fun w G=> ∃ p v,(p= .pointer none\/p= .pointer (some ⟨b,0,none⟩))/\w.heap[b]? = some (.cells #[p,v] 292 (0,0))/\w.ownsRow 0 5 1 v l.length (bU l)/\ ∀ k,G k↔k=b\/v.ownBlock=some k
 lt:=by
  rintro w G ⟨p,v,_,c,d,a⟩ k hk;rcases (a k).1 hk with rfl | h
  ·exact lO c
  ·exact Ac d k h
 move:=by
  rintro w w' G ⟨p,v,hp,c,d,a⟩ hm;exact⟨p,v,hp,(hm _ ((a _).2 (.inl rfl))).trans c,sN d (fun k hk=>hm k ((a k).2 (.inr hk))),a⟩
theorem FJ {F:Nat->Prop} {w w':World} (h:Fr F w w') {p:Addr} (hp:F p.block) (n:Nat):Fr F w (w'.freeze p n):=by
 refine h.trans (G:=F) ?_ (fun _ h=> .inl h);unfold World.freeze;split
 ·exact Fr.refl _ _
 ·exact⟨rfl,rfl,rfl,by simp,fun k hk hn=>by
   simp only[Array.getElem?_modify];rw[QY (fun h:p.block=k=>hn (by rw[<- h]; exact hp))]⟩
theorem G6:(Tryz.prog.info? 292).map (·.size)=some 2:=by kernel_rfl
theorem G7:liesAt Tryz.prog Tryz.prog.depth 292 (2 / Tryz.prog.cellsOf 292) 0 292 1=true:=by kernel_rfl
theorem FK {w:World} {b:Nat} {p v:Value} (hb:w.heap[b]? = some (.cells #[p,v] 292 (0,0))):w.shape? b=some (292,2):=by simp[World.shape?,hb]
theorem FL (b:Nat) (w:World) (p v:Value) (hp:p= .pointer none\/p= .pointer (some ⟨b,0,none⟩)) (hb:w.heap[b]? = some (.cells #[p,v] 292 (0,0))) :
 Calls Tryz.prog 220 #[.pointer (some ⟨b,0,none⟩)] w fun e w'=>e= .returned (.tuple #[])/\w'.heap[b]? = some (.cells #[.pointer (some ⟨b,0,none⟩),v] 292 (0,0))/\Fr (fun k=>k=b) w w':=by
 obtain⟨j,hj,hjs⟩:=Option.map_eq_some_iff.1 G6;have a:w.cell? ⟨b,0,none⟩=some p:=(bm hb 0).trans rfl;have c:w.frozen? ⟨b,0,none⟩=false:=cg hb 0;have hsh:=FK hb;have HB:=Lib.hid hb;clear hb;rcases hp with rfl | rfl
 ·go_enter Tryz.func220,Tryz.ntmps220
  go_wp2
  rw[Lib.run_to_unsafe w ⟨b,0,none⟩ Tryz.underlying290 Tryz.underlying327 hj (by rw[hjs]; decide) hsh (Nat.zero_lt_succ 1)];simp only[Result.andThen];rw[Oper.upon_value];go_wp2
  rw[run_callFunc_extern Tryz.func233 QU QU QU (e:=Extern.AbiNoEscape.same) QU];rw[Lib.run_noEscape];simp only[Result.andThen];rw[Oper.upon_value];go_wp2
  rw[Lib.run_from_unsafe w ⟨b,0,none⟩ Tryz.underlying327 Tryz.underlying290 hj hsh G7];simp only[Result.andThen];rw[Oper.upon_value];go_wp2
  go_end0
  exact⟨rfl,by simpa using ow HB.out 0 (.pointer (some ⟨b,0,none⟩)),(Fr.refl (fun k=>k=b) w).set (p:=⟨b,0,none⟩) (.inl rfl) _⟩
 ·go_enter Tryz.func220,Tryz.ntmps220
  go_wp2
  rw[Lib.run_neq_ptr_same w _ Tryz.underlying290 hj];go_wp2
  go_end0
  exact⟨rfl,HB.out,Fr.refl _ _⟩
theorem s9.stored {b:Nat} {l m:AI} {w w1 a:World} {v v1:Value} {F:Nat->Prop} (hw:Fr (fun k=>k=b) w w1) (hF: ∀ k,F k↔k=b\/v.ownBlock=some k) (hb:w1.heap[b]? = some (.cells #[.pointer (some ⟨b,0,none⟩),v] 292 (0,0))) (ho:w1.ownsRow 0 5 1 v l.length (bU l))
 {n:Nat} (ho1:a.ownsRow 0 5 1 v1 n (bU m)) (hg:w1.grownBy a v.ownBlock) (hat:v1.ownBlock=v.ownBlock\/ ∃ k,v1.ownBlock=some k/\w1.heap.size<=k) (hlt:b<w.heap.size) :
 St F w [s9 b m] (a.setCell ⟨b,1,none⟩ v1):=by
 have hn:n=m.length:=by have:=ho1.1; simpa [bU] using this.symm
 subst hn;have hne:=pk ho hb QS;have hb1:a.heap[b]? = some (.cells #[.pointer (some ⟨b,0,none⟩),v] 292 (0,0)):=(hg.block b (lO hb) hne).trans hb;have hne1:=pk ho1 hb1 QS;have c:Fr F w w1:=hw.mono (fun k hk=>(hF k).2 (.inl hk));have d:Fr F w a:=c.trans (Mi (F:=F) hg (fun k hk=>(hF k).2 (.inr hk))) (fun k hk=> .inl hk);refine⟨d.set (p:=⟨b,1,none⟩) (.inl ((hF b).2 (.inl rfl))) v1,?_⟩;refine⟨fun k=>k=b\/v1.ownBlock=some k,⟨_,v1,.inr rfl,by simpa using ow hb1 1 v1,Ab ho1 hne1 v1,fun _=>Iff.rfl⟩,?_,trivial⟩;rintro k (rfl | hk)
 ·exact .inl ((hF k).2 (.inl rfl))
 ·rcases hat with h | ⟨k',h,h'⟩
  ·rw[h] at hk;exact .inl ((hF k).2 (.inr hk))
  ·rw[h] at hk;injection hk with hk;subst hk;exact .inr (Nat.le_trans hw.size h')
theorem Dc (b:Nat) (l:AI) (s:ByteArray) (hl:l.length+s.size<=140737488355328) :
 hN Tryz.prog 196 #[.pointer (some ⟨b,0,none⟩),.string s] (s9 b l) (fun v A' N=>v= .tuple #[.int .i64 s.size,.nilIface]/\A'=s9 b (l++s.data.toList)/\N = []):=by
 rintro F w ⟨p,v,hp,hb,ho,hF⟩;have hne:=pk ho hb QS;have HB:=Lib.hid hb;have HO:=Lib.hid ho;have HP:=Lib.hid hp;clear hb ho hp;go_enter Tryz.func196,Tryz.ntmps196
 go_wp2_with (go_at_call 220; refine (FL b _ p v HP.out HB.out).mono ?_)
 rintro e w1 ⟨rfl,hb1,hfr⟩;have ho1:w1.ownsRow 0 5 1 v l.length (bU l):=sN HO.out (fun k hk=>hfr.block k (Ac HO.out k hk) (fun h=>hne (h ▸ hk.symm)));have c:w1.cell? ⟨b,0,none⟩=some (.pointer (some ⟨b,0,none⟩)):=(bm hb1 0).trans rfl;have d:w1.cell? ⟨b,1,none⟩=some v:=(bm hb1 1).trans rfl;have HB1:=Lib.hid hb1;have HO1:=Lib.hid ho1;have HF:=Lib.hid hfr;clear hb1 ho1 hfr;go_wp2_with (at_builtin; refine oz w1 rfl _ _ _ _ rfl 5 Tryz.underlying72 Tryz.underlying9 sO v l.length (bU l) rfl HO1.out s rfl hl ?_; intro v1 a ho2 hg hat; obtain⟨a1,f,rfl⟩:=oA ho2; have HO2:=Lib.hid ho2; clear ho2; have HN:=Lib.hid (pk HO1.out HB1.out QS); have HB2:=Lib.hid (show a.heap[b]? = _ from (hg.block b (lO HB1.out) HN.out).trans HB1.out); have g:a.cell? ⟨b,0,none⟩=some (.pointer (some ⟨b,0,none⟩)):=(bm HB2.out 0).trans rfl; have i:a.cell? ⟨b,1,none⟩=some v:=(bm HB2.out 1).trans rfl; have j:a.frozen? ⟨b,1,none⟩=false:=cg HB2.out 1; have HG:=Lib.hid hg; have HAT:=Lib.hid hat; clear hg hat)
 go_ret2
 have ho2:=HO2.out;rw[rO,<- ls] at ho2;refine⟨_,_,_,rfl,⟨rfl,rfl,rfl⟩,?_⟩;exact s9.stored HF.out hF HB1.out HO1.out ho2 HG.out (by rcases HAT.out with h | h; exact .inl h; exact .inr ⟨_,h,N3 _⟩) (lO HB.out)
theorem BK (b:Nat) (l:AI):hN Tryz.prog 197 #[.pointer (some ⟨b,0,none⟩)] (s9 b l) (fun v A' N=>v= .string (aY l)/\A'=aJ/\N = []):=by
 rintro F w ⟨p,v,hp,hb,ho,hF⟩;have done: ∀ w',Fr F w w'->St F w [aJ] w':=fun w' h=>⟨h,fun _=>False,fun _ h=>h,fun _ h=>h.elim,trivial⟩;have DONE:=Lib.hid done;clear done;have hUS0: ∀ (W:World) (q:AT),(Builtin.unsafeString_ #[319,3] 9 #[.pointer q,.int .i64 0]).run Tryz.prog W= .ok (.string .empty) W:=fun W q=>Lib.run_unsafeString_none W _ _ _ q;have d:l = []\/l ≠ []:=by cases l; exact .inl rfl; exact .inr (by simp)
 rcases ho.2 with⟨rfl,hz⟩ | ⟨g,cap,cur,rfl,_,hg,hnc,hcm,hcs,htake⟩
 ·obtain rfl:l = []:=List.length_eq_zero_iff.1 hz;have c:w.drew.cell? ⟨b,1,none⟩=some (.slice none 0 0):=(bm (w:=w.drew) hb 1).trans rfl;have hSD:(Builtin.unsafeSliceData_ #[72] 319 #[.slice none 0 0]).run Tryz.prog w.drew= .ok (.pointer none) w.drew:=rfl;clear hb ho hp;go_enter Tryz.func197,Tryz.ntmps197
  go_wp2
  go_region
  all_goals (go_wp2; go_ret; exact⟨_,_,_,rfl,⟨rfl,rfl,rfl⟩,DONE.out _ (Fr.refl F w).drew⟩)
 ·have hgF:F g:=(hF g).2 (.inr rfl);have HGF:=Lib.hid hgF;clear hgF;rcases d with rfl | a
  ·by_cases hc0:cap=0
   ·subst hc0;have hb':w.drew.heap[b]? = some (.cells #[p,.slice (some ⟨g,0,none⟩) 0 0] 292 (0,0)):=hb;have c:w.drew.cell? ⟨b,1,none⟩=some (.slice (some ⟨g,0,none⟩) 0 0):=(bm hb' 1).trans rfl
    have hSD:(Builtin.unsafeSliceData_ #[72] 319 #[.slice (some ⟨g,0,none⟩) 0 0]).run Tryz.prog w.drew= .ok (.pointer (some ⟨w.drew.heap.size,0,none⟩)) (w.drew.alloc (.view ⟨g,0,none⟩ 5)) :=
     Lib.run_unsafeSliceData_zero w.drew _ _ 5 Tryz.underlying319 ⟨g,0,none⟩ 0 (5,cur.size) (by have hg':w.drew.heap[g]? = some (.cells cur 5 (0,0)):=hg; simp[World.shape?,hg'])
    have c2:(w.drew.alloc (.view ⟨g,0,none⟩ 5)).cell? ⟨b,1,none⟩=some (.slice (some ⟨g,0,none⟩) 0 0):=by
     have h:=(Lib.alloc_old w.drew (.view ⟨g,0,none⟩ 5) b (lO hb')).trans hb';exact (bm h 1).trans rfl
    have e:(w.alloc (.view ⟨g,0,none⟩ 5)).drew.cell? ⟨b,1,none⟩=some (.slice (some ⟨g,0,none⟩) 0 0):=c2;have f:w.cell? ⟨b,1,none⟩=some (.slice (some ⟨g,0,none⟩) 0 0):=c;clear hb hb' ho hp hg htake hcs;go_enter Tryz.func197,Tryz.ntmps197
    go_wp2
    go_region
    all_goals (go_wp2; go_ret; exact⟨_,_,_,rfl,⟨rfl,rfl,rfl⟩,DONE.out _ ((Fr.refl F w).drew.alloc _)⟩)
   ·have c:w.drew.cell? ⟨b,1,none⟩=some (.slice (some ⟨g,0,none⟩) 0 cap):=(bm (w:=w.drew) hb 1).trans rfl;have hSD:(Builtin.unsafeSliceData_ #[72] 319 #[.slice (some ⟨g,0,none⟩) 0 cap]).run Tryz.prog w.drew= .ok (.pointer (some ⟨g,0,none⟩)) w.drew:=Lib.run_unsafeSliceData_row _ _ _ _ _ _ hc0;clear hb ho hp hg htake hcs hc0;go_enter Tryz.func197,Tryz.ntmps197
    go_wp2
    go_region
    all_goals (go_wp2; go_ret; exact⟨_,_,_,rfl,⟨rfl,rfl,rfl⟩,DONE.out _ (Fr.refl F w).drew⟩)
  ·have hlen:l.length≠0:=by simpa using a
   have c:w.drew.cell? ⟨b,1,none⟩=some (.slice (some ⟨g,0,none⟩) l.length cap):=(bm (w:=w.drew) hb 1).trans rfl;have hSD:(Builtin.unsafeSliceData_ #[72] 319 #[.slice (some ⟨g,0,none⟩) l.length cap]).run Tryz.prog w.drew= .ok (.pointer (some ⟨g,0,none⟩)) w.drew:=Lib.run_unsafeSliceData_row _ _ _ _ _ _ QR;have hUS:(Builtin.unsafeString_ #[319,3] 9 #[.pointer (some ⟨g,0,none⟩),.int .i64 l.length]).run Tryz.prog w.drew= .ok (.string ⟨l.toArray⟩) (w.drew.freeze ⟨g,0,none⟩ l.length):=by
    refine Lib.run_unsafeString_row w.drew 319 3 9 5 Tryz.underlying319 QU g cur.size (by have hg':w.drew.heap[g]? = some (.cells cur 5 (0,0)):=hg; simp[World.shape?,hg']) l a QR (by unfold maxLen at hcm; omega) ?_;intro j x hx;have:=ho.cells (g:=g) rfl j (.int .u8 x.toNat) (by simp[bU,hx]);exact this
   clear hb ho hp hg htake hcs a hlen hUS0;go_enter Tryz.func197,Tryz.ntmps197
   go_wp2
   go_region
   all_goals (go_wp2; go_ret; exact⟨_,_,_,rfl,⟨rfl,rfl,rfl⟩,DONE.out _ (FJ (Fr.refl F w).drew (p:=⟨g,0,none⟩) HGF.out _)⟩)
def wo (st:AI) (s:AI):Option AI:=if st.length+s.length<=140737488355328 then some (st++s) else none
theorem Dd (st:AI) (s:AI) (h:st.length+s.length<=140737488355328):wo st s=some (st++s):=QX h
theorem Am (g:Nat) (st:AI) (s:AI) (r:AI) (h:wo st s=some r):aC Tryz.prog 196 #[.pointer (some ⟨g,0,none⟩),.string (aY s)] .triv (s9 g st) (fun v A' N=>v= .tuple #[.int .i64 (aY s).size,.nilIface]/\A'=s9 g r/\N = []):=by
 unfold wo at h;split at h
 ·rename_i a;obtain rfl:=Nl h;have k:=Dc g st (aY s) (by rw[bsOf_size]; exact a);rw[dg] at k;exact Li k
 ·simp at h
def Ev (st:AI):Option AI:=some st
theorem G8 (st:AI):Ev st=some st:=rfl
theorem De (g:Nat) (st:AI) (r:AI) (h:Ev st=some r):aC Tryz.prog 197 #[.pointer (some ⟨g,0,none⟩)] .triv (s9 g st) (fun v A' N=>v= .string (aY r)/\A'=aJ/\N = []):=by
 unfold Ev at h;obtain rfl:=Nl h;exact Li (BK g _)
section
variable {P:Program} {n:Nat} {F0:Nat->Prop} {w0:World} {e:Env} {Rs Rf:List Res} {Q:Exit->Act->World->Prop} {ops:Array Oper} {i d:Nat} {ty t:TypeId} {pos:String} {af:Array Edge} {gd:Option (Nat×Bool)} {l:List Nat} {lo:Sch}
theorem s9.of_blk {b:Nat} {w:World} {G:Nat->Prop} (h:(aV b 292 #[.pointer none,.slice none 0 0]).P w G):(s9 b []).P w G:=by
 obtain⟨a,c⟩:=h;exact⟨_,_,.inl rfl,a,World.ownsRow_nil _ _ _ _,fun k=>by simp[c k,Value.ownBlock]⟩
theorem TL.newbld {zv:Value} (ho:ops[i]? = some ⟨some d,.alloc t,ty,pos,af,gd⟩) (hw:Wd n ops e ⟨some d,.alloc t,ty,pos,af,gd⟩ true) (hz: ∀ w,(zeroValue t).run P w= .ok zv w) (hd:Nat.blt d n=true)
 (h: ∀ b,TL P n F0 w0 ops l ((d,.pointer (some ⟨b,0,none⟩))::e) (s9 b []::Rs) Q) (ht:t=292:=by rfl) (hzv:zv= .agg #[.pointer none,.slice none 0 0]:=by rfl):TL P n F0 w0 ops (i::l) e Rs Q:=by
 refine TL.alloc ho hw hz hd (fun b=> ?_);intro a w ha hs;subst ht hzv;exact h b a w ha (hs.weaken 0 rfl (fun G hG=>s9.of_blk hG))
end
section
variable {α:Type} {P:Program} {n:Nat} {F0:Nat->Prop} {w0:World} {e:Env} {Rs:List Res} {Q:Exit->Act->World->Prop} {ops:Array Oper} {l:List Nat} {c:Code} {S:Nat->Prop} {E:Rd α} {size m cp k:Nat} {A:AT} {xs:List α} {x:α} {B:Res}
end
section
variable {F0:Nat->Prop} {w0 w:World} {Rs l:List Res} {X:RX} {α:Type} {E:Rd α} {b T z m:Nat} {us:List Value} {xs:List α} {G:Nat->Prop}
end
section
variable {P:Program} {n:Nat} {F0:Nat->Prop} {w0 w:World} {e:Env} {Rs Rs' Rf:List Res} {Q:Exit->Act->World->Prop} {ops:Array Oper} {l:List Nat} {c:Code} {x:Exit} {ι:Type} {f:ι->List Res}
end
section
variable {P:Program} {n:Nat} {F0:Nat->Prop} {w0 w:World} {e:Env} {Rs Rf:List Res} {Q:Exit->Act->World->Prop} {ops:Array Oper} {d:Option Tmp} {i:Nat} {ty t t' el:TypeId} {pos:String} {af:Array Edge} {gd:Option (Nat×Bool)} {v:Value} {x y:Operand} {L:List Nat} {lo:Sch} {cd:Code}
variable {U c m k:Nat} {A:AT}
variable {α:Type} {E:Rd α} {z:Nat} {xs ys:List α}
end
section
variable {P:Program} {n:Nat} {F0:Nat->Prop} {w0:World} {e:Env} {Rs:List Res} {Q:Exit->Act->World->Prop}
end
section
variable {P:Program} {n:Nat} {F0:Nat->Prop} {w0 w:World} {e e':Env} {Rs Rs' Rf:List Res} {Q:Exit->Act->World->Prop} {ops:Array Oper} {L:List Nat} {lo:Sch} {cd:Code} {K:Act->World->Prop} {l id:Nat} {J:Nat->Nat->Env->List Res->Prop} {J':Nat->Act->World->Prop}
variable {d:Option Tmp} {i:Nat} {ty t t' el:TypeId} {pos:String} {af:Array Edge} {gd:Option (Nat×Bool)} {v:Value} {x y:Operand}
variable {α:Type} {E:Rd α} {z:Nat} {xs ys:List α} {A A2:AT} {m c c2 k:Nat} {U bytes:Nat} {zv:Value}
end
section
variable {P:Program} {t el:TypeId}
end
def G9 (ops:Array Oper) (e:Env):Option (Nat×Bool)->Option Bool
 | none=>some true
 | some (j,want)=>match (ops[j]?).bind (·.dst) with
  | some t=>match e.get t with
   | some (.bool b)=>some (match b with | true=>want | false=> !want)
   | some _=>some false
   | none=>none
  | none=>none
theorem oL {n:Nat} {ops:Array Oper} {e:Env} {d:Option Tmp} {op:Op} {ty:TypeId} {pos:String} {af:Array Edge} {g:Option (Nat×Bool)} {b:Bool} (h:G9 ops e g=some b):Wd n ops e ⟨d,op,ty,pos,af,g⟩ b:=by
 intro a ha
 cases g with
 | none =>
  cases h;rfl
 | some g =>
  obtain⟨j,want⟩:=g;simp only[G9] at h;split at h
  ·rename_i t hj;split at h
   ·rename_i b' hv;injection h with h;subst h;simp only[Region.wanted,yielded,hj,Nm,ha.at_ t _ hv];cases b' <;> cases want <;> rfl
   ·rename_i v hne hv;injection h with h;subst h;simp only[Region.wanted,yielded,hj,Nm,ha.at_ t _ hv];cases v <;> first | rfl | exact absurd rfl (hne _)
   ·cases h
  ·cases h
def FM:List Nat->Nat->Bool
 | [],_=>false
 | a::r,t=>match Nat.beq a t with
  | true=>true
  | false=>FM r t
def NOK (P:Program):List Nat->Prop
 | []=>True
 | a::r=>(∀ w,(isAgg a).run P w= .ok false w)/\NOK P r
theorem NOK.get {P:Program}: ∀ {l:List Nat},NOK P l-> ∀ {t:Nat},FM l t=true-> ∀ w,(isAgg t).run P w= .ok false w
 | [],_,t,h=>by simp[FM] at h
 | a::r,⟨b,c⟩,t,h=>by
  simp only[FM] at h
  cases hb:Nat.beq a t with
  | true =>
   obtain rfl:=Nat.eq_of_beq_eq_true hb;exact b
  | false=>rw[hb] at h; exact NOK.get c h
def zh (ft:fw) (nt:List Nat) (cs:Array Value) (e:Env) (L:List Nat):Op->Option (Value×List Nat)
 | .pick c x y=>match e.ev c with
  | some (.bool b)=>match b with
   | true=>match e.ev x with
    | some v=>some (v,L)
    | none=>none
   | false=>match e.ev y with
    | some v=>some (v,L)
    | none=>none
  | _=>none
 | .load t x=>match FM nt t with
  | true=>match e.ev x with
   | some (.pointer (some ⟨b,o,none⟩))=>match cs[o]? with
    | some v=>some (v,b::L)
    | none=>none
   | _=>none
  | false=>none
 | op=>match BG ft e op with
  | some v=>some (v,L)
  | none=>none
def t9 (ft:fw) (nt:List Nat) (cs:Array Value) (n:Nat) (ops:Array Oper):Env->List Nat->List Nat->Option (Env×List Nat)
 | e,L,[]=>some (e,L)
 | e,L,i::is=>match ops[i]? with
  | some ⟨d,op,_,_,_,g⟩=>match G9 ops e g with
   | some true=>match d with
    | some d=>match Nat.blt d n with
     | true=>match zh ft nt cs e L op with
      | some (v,L')=>t9 ft nt cs n ops ((d,v)::e) L' is
      | none=>none
     | false=>none
    | none=>none
   | some false=>match d with
    | some d=>match Nat.blt d n with
     | true=>t9 ft nt cs n ops ((d,undef)::e) L is
     | false=>none
    | none=>t9 ft nt cs n ops e L is
   | none=>none
  | none=>none
section
variable {P:Program} {n:Nat} {F0:Nat->Prop} {w0:World} {e e':Env} {Rs:List Res} {Q:Exit->Act->World->Prop} {ops:Array Oper} {ft:fw} {nt:List Nat} {cs:Array Value} {b T j:Nat} {L L' l:List Nat}
theorem FN {op:Op} {v:Value} (h:zh ft nt cs e L op=some (v,L')): ∀ x∈L,x∈L':=by
 unfold zh at h
 repeat' split at h
 all_goals first | cases h | skip
 all_goals first | exact fun x hx=>hx | exact fun x hx=>List.mem_cons_of_mem _ hx
theorem ta: ∀ (is:List Nat) {e e':Env} {L L':List Nat},t9 ft nt cs n ops e L is=some (e',L')-> ∀ x∈L,x∈L'
 | [],e,e',L,L',h=>by
  cases h;exact fun x hx=>hx
 | i::is,e,e',L,L',h=>by
  simp only[t9] at h
  repeat' split at h
  all_goals first | cases h | skip
  all_goals first | exact ta is h | (rename_i hp; exact fun x hx=>ta is h x (FN hp x hx))
theorem FO {d:Option Tmp} {op:Op} {ty:TypeId} {pos:String} {af:Array Edge} {g:Option (Nat×Bool)} {v:Value} (hft:ft.OK P) (hnt:NOK P nt) (hi:Rs[j]? = some (aV b T cs)) (h:zh ft nt cs e L op=some (v,L')) (hL: ∀ x∈L',x=b) :
 Ex P n e (St F0 w0 Rs) ⟨d,op,ty,pos,af,g⟩ v:=by
 unfold zh at h;split at h
 ·split at h
  ·rename_i hc;split at h
   ·split at h
    ·rename_i hx;cases h;exact LB hc rfl hx
    ·cases h
   ·split at h
    ·rename_i hx;cases h;exact LC hc rfl hx
    ·cases h
  ·cases h
 ·split at h
  ·rename_i ht;split at h
   ·rename_i b' o hx;split at h
    ·rename_i hv;cases h;obtain rfl:=hL b' (List.mem_cons_self ..);exact K4 j hx (hnt.get ht) hi hv
    ·cases h
   ·cases h
  ·cases h
 ·split at h
  ·rename_i hv;cases h;exact oH hft hv
  ·cases h
theorem TL.runB_ (hft:ft.OK P) (hnt:NOK P nt) (hi:Rs[j]? = some (aV b T cs)): ∀ (is:List Nat) {e e':Env} {L L' l:List Nat},t9 ft nt cs n ops e L is=some (e',L')->(∀ x∈L',x=b)->TL P n F0 w0 ops l e' Rs Q->TL P n F0 w0 ops (is++l) e Rs Q
 | [],e,e',L,L',l,h,_,k=>by
  cases h;exact k
 | i::is,e,e',L,L',l,h,hL,k=>by
  simp only[t9] at h;split at h
  ·rename_i d op ty pos af g ho;split at h
   ·rename_i hw;split at h
    ·rename_i d;split at h
     ·rename_i hd;split at h
      ·rename_i v L1 hv;exact TL.q ho (oL hw) (FO hft hnt hi hv (fun x hx=>hL x (ta is h x hx))) hd (TL.runB_ hft hnt hi is h hL k)
      ·cases h
     ·cases h
    ·cases h
   ·rename_i hw;split at h
    ·rename_i d;split at h
     ·rename_i hd;exact TL.no ho (oL hw) hd (TL.runB_ hft hnt hi is h hL k)
     ·cases h
    ·exact TL.no0 ho (oL hw) (TL.runB_ hft hnt hi is h hL k)
   ·cases h
  ·cases h
theorem KA (hft:ft.OK P) (hnt:NOK P nt) (j:Nat) (hi:Rs[j]? = some (aV b T cs)) (k:Nat) (h:t9 ft nt cs n ops e [] (l.take k)=some (e',L)) (hL:L=L.map fun _=>b) (K:TL P n F0 w0 ops (l.drop k) e' Rs Q):TL P n F0 w0 ops l e Rs Q:=by
 have a: ∀ x∈L,x=b:=fun x hx=>by
  rw[hL] at hx;obtain⟨_,_,rfl⟩:=List.mem_map.1 hx;rfl
 have c:=TL.runB_ hft hnt hi (l.take k) h a K
 rwa [List.take_append_drop] at c
theorem Ms (hft:ft.OK P): ∀ (is:List Nat) {e e':Env} {l:List Nat},t9 ft [] #[] n ops e [] is=some (e',[])->TL P n F0 w0 ops l e' Rs Q->TL P n F0 w0 ops (is++l) e Rs Q
 | [],e,e',l,h,k=>by
  cases h;exact k
 | i::is,e,e',l,h,k=>by
  simp only[t9] at h;split at h
  ·rename_i d op ty pos af g ho;split at h
   ·rename_i hw;split at h
    ·rename_i d;split at h
     ·rename_i hd;split at h
      ·rename_i v L1 hv;have hL1:L1 = []:=by
        cases L1 with
        | nil=>rfl
        | cons x r=>exact absurd (ta is h x (List.mem_cons_self ..)) (by simp)
       subst hL1;have hx:Ex P n e (St F0 w0 Rs) ⟨some d,op,ty,pos,af,g⟩ v:=by
        unfold zh at hv;split at hv
        ·split at hv
         ·rename_i hc;split at hv
          ·split at hv
           ·rename_i hx;cases hv;exact LB hc rfl hx
           ·cases hv
          ·split at hv
           ·rename_i hx;cases hv;exact LC hc rfl hx
           ·cases hv
         ·cases hv
        ·simp[FM] at hv
        ·split at hv
         ·rename_i hv';cases hv;exact oH hft hv'
         ·cases hv
       exact TL.q ho (oL hw) hx hd (Ms hft is h k)
      ·cases h
     ·cases h
    ·cases h
   ·rename_i hw;split at h
    ·rename_i d;split at h
     ·rename_i hd;exact TL.no ho (oL hw) hd (Ms hft is h k)
     ·cases h
    ·exact TL.no0 ho (oL hw) (Ms hft is h k)
   ·cases h
  ·cases h
theorem KB (hft:ft.OK P) (k:Nat) (h:t9 ft [] #[] n ops e [] (l.take k)=some (e',[])) (K:TL P n F0 w0 ops (l.drop k) e' Rs Q):TL P n F0 w0 ops l e Rs Q:=by
 have a:=Ms hft (l.take k) h K
 rwa [List.take_append_drop] at a
theorem KC (d:Nat) {x y:Bool} (hv:e.get d=some (.bool x)) (h:x=y) (K:TL P n F0 w0 ops l ((d,.bool y)::e) Rs Q):TL P n F0 w0 ops l e Rs Q:=fun a w ha hs=>by
 refine K a w (ha.sub (fun t u hu=> ?_)) hs;simp only[Env.get] at hu
 cases hb:Nat.beq d t with
 | true =>
  rw[hb] at hu;obtain rfl:=Nat.eq_of_beq_eq_true hb;injection hu with hu;rw[hv,h,hu]
 | false=>rw[hb] at hu; exact hu
end
def wL0 (x:Bl):List Value := [.bool x.null,.string (aY x.data)]
def wL1 (x:Hd):List Value := [.string (aY x.MX),.bool x.MM.null,.string (aY x.MM.data)]
def wA2 (x:Gt):Array Value:= #[.bool x.blob.null,.string (aY x.blob.data),.int .i64 x.many,.int .i64 x.err]
def wA3 (x:Bl):Array Value:= #[.bool x.null,.string (aY x.data)]
def wA4 (x:Rec) (a:AT) (b:Nat):Array Value:= #[.int .i64 x.M5,.int .i64 x.MS,.bool x.MX.null,.string (aY x.MX.data),.bool x.MM.null,.string (aY x.MM.data),.slice a x.ML.length b]
def wA5 (x:mo) (a:AT) (b:Nat):Array Value:= #[.int .i64 x.M8.M5,.int .i64 x.M8.MS,.bool x.M8.MX.null,.string (aY x.M8.MX.data),.bool x.M8.MM.null,.string (aY x.M8.MM.data),.slice a x.M8.ML.length b,.int .i64 x.Nf,.int .i64 x.Nh]
def wA6 (x:Bat) (a:AT) (b:Nat):Array Value:= #[.int .i64 x.M4,.int .i64 x.MW,.bool x.M9,.bool x.M2,.bool x.M6,.int .i64 x.MZ,.int .i64 x.MN,.int .i64 x.M7,.int .i64 x.Mx,.int .i64 x.Mz,.int .i64 x.MP,.slice a x.MB.length b]
def wL7 (x:Bat) (a:AT) (b:Nat):List Value := [.int .i64 x.M4,.int .i64 x.MW,.bool x.M9,.bool x.M2,.bool x.M6,.int .i64 x.MZ,.int .i64 x.MN,.int .i64 x.M7,.int .i64 x.Mx,.int .i64 x.Mz,.int .i64 x.MP,.slice a x.MB.length b]
def wL8 (x:Rec) (a:AT) (b:Nat):List Value := [.int .i64 x.M5,.int .i64 x.MS,.bool x.MX.null,.string (aY x.MX.data),.bool x.MM.null,.string (aY x.MM.data),.slice a x.ML.length b]
def wA9 (x:kb) (a:AT) (b:Nat):Array Value:= #[.int .i64 x.Nd.M4,.int .i64 x.Nd.MW,.bool x.Nd.M9,.bool x.Nd.M2,.bool x.Nd.M6,.int .i64 x.Nd.MZ,.int .i64 x.Nd.MN,.int .i64 x.Nd.M7,.int .i64 x.Nd.Mx,.int .i64 x.Nd.Mz,.int .i64 x.Nd.MP,.slice a x.Nd.MB.length b,.int .i64 x.Nf,.int .i64 x.Nh]
def vL (x:aL) (a:AT) (b:Nat):Array Value:= #[.bool x.MD.null,.string (aY x.MD.data),.int .i64 x.MC,.int .i64 x.Mx,.int .i64 x.Mz,.slice a x.Mw.length b,.bool x.MU]
def wL11 (x:aL) (a:AT) (b:Nat):List Value := [.bool x.MD.null,.string (aY x.MD.data),.int .i64 x.MC,.int .i64 x.Mx,.int .i64 x.Mz,.slice a x.Mw.length b,.bool x.MU]
def wA12 (x:cA) (a:AT) (b:AT) (A2:AT) (c:Nat) (d:Nat) (c2:Nat):Array Value:= #[.int .i64 x.MA.MH,.int .i64 x.MA.MG,.int .i64 x.MA.MO,.bool x.MA.ME.null,.string (aY x.MA.ME.data),.bool x.M2.MD.null,.string (aY x.M2.MD.data),.int .i64 x.M2.MC,.int .i64 x.M2.Mx,.int .i64 x.M2.Mz,.slice a x.M2.Mw.length c,.bool x.M2.MU,.slice b x.MT.length d,.bool x.MF.MD.null,.string (aY x.MF.MD.data),.int .i64 x.MF.MV,.int .i64 x.MF.MC,.slice A2 x.MF.Mw.length c2]
def wA13 (x:gC) (a:AT) (b:AT) (A2:AT) (c:Nat) (d:Nat) (c2:Nat):Array Value:= #[.int .i64 x.MQ.MA.MH,.int .i64 x.MQ.MA.MG,.int .i64 x.MQ.MA.MO,.bool x.MQ.MA.ME.null,.string (aY x.MQ.MA.ME.data),.bool x.MQ.M2.MD.null,.string (aY x.MQ.M2.MD.data),.int .i64 x.MQ.M2.MC,.int .i64 x.MQ.M2.Mx,.int .i64 x.MQ.M2.Mz,.slice a x.MQ.M2.Mw.length c,.bool x.MQ.M2.MU,.slice b x.MQ.MT.length d,.bool x.MQ.MF.MD.null,.string (aY x.MQ.MF.MD.data),.int .i64 x.MQ.MF.MV,.int .i64 x.MQ.MF.MC,.slice A2 x.MQ.MF.Mw.length c2,.int .i64 x.Nf,.int .i64 x.Nh]
def wA14 (x:bQ) (a:AT) (b:Nat):Array Value:= #[.string (aY x.MD),.int .i64 x.Mx,.int .i64 x.Mz,.slice a x.Mw.length b]
def wL15 (x:bQ) (a:AT) (b:Nat):List Value := [.string (aY x.MD),.int .i64 x.Mx,.int .i64 x.Mz,.slice a x.Mw.length b]
def wA16 (x:bP):Array Value:= #[.string (aY x.MD),.int .i64 x.Mx,.int .i64 x.Mz,.bool x.MU]
def lX (x:bP):List Value := [.string (aY x.MD),.int .i64 x.Mx,.int .i64 x.Mz,.bool x.MU]
def An (x:Pfx):Array Value:= #[.int .i64 x.M4,.int .i64 x.MY,.int .i64 x.MW,.int .i64 x.Nb,.int .i64 x.Na,.int .i64 x.MZ,.int .i64 x.MN,.int .i64 x.M7,.int .i64 x.Mx,.int .i64 x.Mz,.int .i64 x.MP,.int .i64 x.Nc]
def wA19 (x:Hd):Array Value:= #[.string (aY x.MX),.bool x.MM.null,.string (aY x.MM.data)]
def wL20 (x:Pfx):List Value := [.int .i64 x.M4,.int .i64 x.MY,.int .i64 x.MW,.int .i64 x.Nb,.int .i64 x.Na,.int .i64 x.MZ,.int .i64 x.MN,.int .i64 x.M7,.int .i64 x.Mx,.int .i64 x.Mz,.int .i64 x.MP,.int .i64 x.Nc]
def kd (x:aI) (a:AT) (b:AT) (A2:AT) (c:Nat) (d:Nat) (c2:Nat):Array Value:= #[.int .i64 x.MA.MH,.int .i64 x.MA.MG,.int .i64 x.MA.MO,.bool x.MA.ME.null,.string (aY x.MA.ME.data),.bool x.M0.MD.null,.string (aY x.M0.MD.data),.int .i64 x.M0.MC,.int .i64 x.M0.Mx,.int .i64 x.M0.Mz,.string (aY x.M3.MD),.int .i64 x.M3.Mx,.int .i64 x.M3.Mz,.slice a x.M3.Mw.length c,.string (aY x.M1.MD),.int .i64 x.M1.Mx,.int .i64 x.M1.Mz,.bool x.M1.MU,.slice b x.MT.length d,.bool x.MF.MD.null,.string (aY x.MF.MD.data),.int .i64 x.MF.MV,.int .i64 x.MF.MC,.slice A2 x.MF.Mw.length c2]
def BL (x:aI) (a:AT) (b:AT) (A2:AT) (c:Nat) (d:Nat) (c2:Nat):List Value := [.int .i64 x.MA.MH,.int .i64 x.MA.MG,.int .i64 x.MA.MO,.bool x.MA.ME.null,.string (aY x.MA.ME.data),.bool x.M0.MD.null,.string (aY x.M0.MD.data),.int .i64 x.M0.MC,.int .i64 x.M0.Mx,.int .i64 x.M0.Mz,.string (aY x.M3.MD),.int .i64 x.M3.Mx,.int .i64 x.M3.Mz,.slice a x.M3.Mw.length c,.string (aY x.M1.MD),.int .i64 x.M1.Mx,.int .i64 x.M1.Mz,.bool x.M1.MU,.slice b x.MT.length d,.bool x.MF.MD.null,.string (aY x.MF.MD.data),.int .i64 x.MF.MV,.int .i64 x.MF.MC,.slice A2 x.MF.Mw.length c2]
def wA23 (x:aI):Array Value:= #[.int .i64 x.MA.MH,.int .i64 x.MA.MG,.int .i64 x.MA.MO,.bool x.MA.ME.null,.string (aY x.MA.ME.data),.bool x.M0.MD.null,.string (aY x.M0.MD.data),.int .i64 x.M0.MC,.int .i64 x.M0.Mx,.int .i64 x.M0.Mz,.slice none 0 0,.bool false,.slice none 0 0,.bool false,.string ⟨#[]⟩,.int .i64 0,.int .i64 0,.slice none 0 0]
def wA24 (x:aI) (a:AT) (b:Nat):Array Value:= #[.int .i64 x.MA.MH,.int .i64 x.MA.MG,.int .i64 x.MA.MO,.bool x.MA.ME.null,.string (aY x.MA.ME.data),.bool false,.string (aY x.M3.MD),.int .i64 0,.int .i64 x.M3.Mx,.int .i64 x.M3.Mz,.slice a x.M3.Mw.length b,.bool false,.slice none 0 0,.bool false,.string ⟨#[]⟩,.int .i64 0,.int .i64 0,.slice none 0 0]
def wA25 (x:aI):Array Value:= #[.int .i64 x.MA.MH,.int .i64 x.MA.MG,.int .i64 x.MA.MO,.bool x.MA.ME.null,.string (aY x.MA.ME.data),.bool false,.string (aY x.M1.MD),.int .i64 0,.int .i64 x.M1.Mx,.int .i64 x.M1.Mz,.slice none 0 0,.bool x.M1.MU,.slice none 0 0,.bool false,.string ⟨#[]⟩,.int .i64 0,.int .i64 0,.slice none 0 0]
def vA0:Array Value:= #[.bool false,.string ⟨#[]⟩,.int .i64 0,.int .i64 0,.slice none 0 0]
def vA1 (a:Int):Array Value:= #[.int .i64 0,.int .i64 0,.bool false,.string ⟨#[]⟩,.bool false,.string ⟨#[]⟩,.slice none 0 0,.int .i64 0,.int .i64 a]
def vA2 (a:Int) (b:Int):Array Value:= #[.int .i64 a,.int .i64 b,.bool false,.string ⟨#[]⟩,.bool false,.string ⟨#[]⟩,.slice none 0 0]
def vA3 (c:Int) (d:Int) (e:AT) (f:Nat) (g:Nat) (a:Gt) (b:Gt):Array Value:= #[.int .i64 c,.int .i64 d,.bool a.blob.null,.string (aY a.blob.data),.bool b.blob.null,.string (aY b.blob.data),.slice e g f,.int .i64 0,.int .i64 0]
def vA4 (b:AT) (c:Nat) (d:Nat) (a:mo) (e:Gt):Array Value:= #[.int .i64 a.M8.M5,.int .i64 a.M8.MS,.bool a.M8.MX.null,.string (aY a.M8.MX.data),.bool a.M8.MM.null,.string (aY a.M8.MM.data),.slice b d c,.int .i64 e.many,.int .i64 a.Nh]
def vA5 (a:Int):Array Value:= #[.int .i64 0,.int .i64 0,.bool false,.bool false,.bool false,.int .i64 0,.int .i64 0,.int .i64 0,.int .i64 0,.int .i64 0,.int .i64 0,.slice none 0 0,.int .i64 0,.int .i64 a]
def vA6:Array Value:= #[.int .i64 0,.int .i64 0,.bool false,.bool false,.bool false,.int .i64 0,.int .i64 0,.int .i64 0,.int .i64 0,.int .i64 0,.int .i64 0,.slice none 0 0,.int .i64 0,.int .i64 0]
def vA7 (b:Int) (c:Int) (a:Int) (d:Int) (e:Int) (f:Int) (g:Int) (h:Int) (i:Int):Array Value:= #[.int .i64 b,.int .i64 c,.bool (decide (((a / 8) % 2)=1)),.bool (decide (((a / 16) % 2)=1)),.bool (decide ((a / 32)=1)),.int .i64 d,.int .i64 e,.int .i64 f,.int .i64 g,.int .i64 h,.int .i64 i,.slice none 0 0]
def vL8 (d:Int) (e:Int) (a:Int) (f:Int) (g:Int) (h:Int) (i:Int) (j:Int) (k:Int) (l:AT) (b:Nat) (c:Nat):List Value := [.int .i64 d,.int .i64 e,.bool (decide (((a / 8) % 2)=1)),.bool (decide (((a / 16) % 2)=1)),.bool (decide ((a / 32)=1)),.int .i64 f,.int .i64 g,.int .i64 h,.int .i64 i,.int .i64 j,.int .i64 k,.slice l c b]
def vA9 (e:Int) (f:Int) (a:Int) (g:Int) (h:Int) (i:Int) (j:Int) (k:Int) (l:Int) (m:AT) (b:Nat) (c:Nat) (d:Int):Array Value:= #[.int .i64 e,.int .i64 f,.bool (decide (((a / 8) % 2)=1)),.bool (decide (((a / 16) % 2)=1)),.bool (decide ((a / 32)=1)),.int .i64 g,.int .i64 h,.int .i64 i,.int .i64 j,.int .i64 k,.int .i64 l,.slice m c b,.int .i64 (d+12),.int .i64 0]
def BM:List Value := [.bool false,.string ⟨#[]⟩,.int .i64 0,.int .i64 0,.slice none 0 0]
def Df (b:Int) (c:Int) (a:Gt):Array Value:= #[.bool a.blob.null,.string (aY a.blob.data),.int .i64 b,.int .i64 c,.slice none 0 0]
def vA12 (b:Int) (c:Int) (d:AT) (e:Nat) (f:Nat) (a:Gt):Array Value:= #[.bool a.blob.null,.string (aY a.blob.data),.int .i64 b,.int .i64 c,.slice d f e]
def nJ:Array Value:= #[.int .i64 0,.int .i64 0,.int .i64 0,.bool false,.string ⟨#[]⟩]
def vL14:List Value := [.int .i64 0,.int .i64 0,.int .i64 0,.bool false,.string ⟨#[]⟩]
def Ao (a:Int) (b:Int):Array Value:= #[.int .i64 a,.int .i64 b,.int .i64 0,.bool false,.string ⟨#[]⟩]
def vA16 (a:Int) (b:Int) (c:Int):Array Value:= #[.int .i64 a,.int .i64 b,.int .i64 c,.bool false,.string ⟨#[]⟩]
def vA17 (b:Int) (c:Int) (d:Int) (a:Gt):Array Value:= #[.int .i64 b,.int .i64 c,.int .i64 d,.bool a.blob.null,.string (aY a.blob.data)]
def jX:Array Value:= #[.bool false,.string ⟨#[]⟩,.int .i64 0,.int .i64 0,.int .i64 0,.slice none 0 0,.bool false]
def tb:List Value := [.bool false,.string ⟨#[]⟩,.int .i64 0,.int .i64 0,.int .i64 0,.slice none 0 0,.bool false]
def vA20 (a:Gt):Array Value:= #[.bool a.blob.null,.string (aY a.blob.data),.int .i64 0,.int .i64 (-1),.int .i64 (-1),.slice none 0 0,.bool false]
def vA21 (b:Int) (a:Gt):Array Value:= #[.bool a.blob.null,.string (aY a.blob.data),.int .i64 b,.int .i64 (-1),.int .i64 (-1),.slice none 0 0,.bool false]
def vA22 (b:Int) (c:Int) (d:Int) (a:Gt):Array Value:= #[.bool a.blob.null,.string (aY a.blob.data),.int .i64 b,.int .i64 c,.int .i64 d,.slice none 0 0,.bool false]
def vL23 (b:Int) (a:Gt):List Value := [.bool a.blob.null,.string (aY a.blob.data),.int .i64 b,.int .i64 (-1),.int .i64 (-1),.slice none 0 0,.bool false]
def vA24 (b:Int) (c:Int) (a:Gt):Array Value:= #[.bool a.blob.null,.string (aY a.blob.data),.int .i64 0,.int .i64 b,.int .i64 c,.slice none 0 0,.bool false]
def vA25 (b:Int) (c:Int) (d:AT) (e:Nat) (f:Nat) (a:Gt):Array Value:= #[.bool a.blob.null,.string (aY a.blob.data),.int .i64 0,.int .i64 b,.int .i64 c,.slice d f e,.bool false]
def FP:Array Value:= #[.int .i64 0,.int .i64 0,.int .i64 0,.bool false,.string ⟨#[]⟩,.bool false,.string ⟨#[]⟩,.int .i64 0,.int .i64 0,.int .i64 0,.slice none 0 0,.bool false,.slice none 0 0,.bool false,.string ⟨#[]⟩,.int .i64 0,.int .i64 0,.slice none 0 0,.int .i64 0,.int .i64 1]
def vA27:Array Value:= #[.int .i64 0,.int .i64 0,.int .i64 0,.bool false,.string ⟨#[]⟩,.bool false,.string ⟨#[]⟩,.int .i64 0,.int .i64 0,.int .i64 0,.slice none 0 0,.bool false,.slice none 0 0,.bool false,.string ⟨#[]⟩,.int .i64 0,.int .i64 0,.slice none 0 0,.int .i64 0,.int .i64 4]
def Ap:Array Value:= #[.int .i64 0,.int .i64 0,.int .i64 0,.bool false,.string ⟨#[]⟩,.bool false,.string ⟨#[]⟩,.int .i64 0,.int .i64 0,.int .i64 0,.slice none 0 0,.bool false,.slice none 0 0,.bool false,.string ⟨#[]⟩,.int .i64 0,.int .i64 0,.slice none 0 0,.int .i64 0,.int .i64 2]
def vM (a:Int):Array Value:= #[.int .i64 0,.int .i64 0,.int .i64 0,.bool false,.string ⟨#[]⟩,.bool false,.string ⟨#[]⟩,.int .i64 0,.int .i64 0,.int .i64 0,.slice none 0 0,.bool false,.slice none 0 0,.bool false,.string ⟨#[]⟩,.int .i64 0,.int .i64 0,.slice none 0 0,.int .i64 0,.int .i64 a]
def vA30 (b:Int) (c:Int) (d:Int) (a:Bl):Array Value:= #[.bool a.null,.string (aY a.data),.int .i64 b,.int .i64 c,.int .i64 d]
def vA31:Array Value:= #[.bool false,.string ⟨#[]⟩,.int .i64 0,.int .i64 0,.int .i64 0]
def vA32:Array Value:= #[.string ⟨#[]⟩,.int .i64 0,.int .i64 0,.slice none 0 0]
def FQ:Array Value:= #[.string ⟨#[]⟩,.int .i64 0,.int .i64 0,.bool false]
def FR (a:Nat) (b:Nat):Array Value:= #[.pointer (some ⟨a,0,none⟩),.int .i64 8,.pointer (some ⟨a,1,none⟩),.int .i64 4,.pointer (some ⟨a,2,none⟩),.int .i64 4,.pointer (some ⟨b,0,none⟩),.int .i64 1,.pointer (some ⟨a,3,none⟩),.int .i64 4,.pointer (some ⟨a,4,none⟩),.int .i64 2,.pointer (some ⟨a,5,none⟩),.int .i64 4,.pointer (some ⟨a,6,none⟩),.int .i64 8,.pointer (some ⟨a,7,none⟩),.int .i64 8,.pointer (some ⟨a,8,none⟩),.int .i64 8,.pointer (some ⟨a,9,none⟩),.int .i64 2,.pointer (some ⟨a,10,none⟩),.int .i64 4,.pointer (some ⟨a,11,none⟩),.int .i64 4]
def Dg:Array Value:= #[.int .i64 0,.int .i64 0,.int .i64 0,.int .i64 0,.int .i64 0,.int .i64 0,.int .i64 0,.int .i64 0,.int .i64 0,.int .i64 0,.int .i64 0,.int .i64 0]
def vA36 (b:Int) (c:Int) (a:Bl):Array Value:= #[.int .i64 b,.int .i64 c,.bool a.null,.string (aY a.data),.bool false,.string ⟨#[]⟩,.slice none 0 0]
def vA37 (c:Int) (d:Int) (a:Bl) (b:Bl):Array Value:= #[.int .i64 c,.int .i64 d,.bool a.null,.string (aY a.data),.bool b.null,.string (aY b.data),.slice none 0 0]
def vN (c:Int) (d:Int) (e:AT) (f:Nat) (g:Nat) (a:Bl) (b:Bl):Array Value:= #[.int .i64 c,.int .i64 d,.bool a.null,.string (aY a.data),.bool b.null,.string (aY b.data),.slice e g f]
def vL39 (c:Int) (d:Int) (e:AT) (f:Nat) (g:Nat) (a:Bl) (b:Bl):List Value := [.int .i64 c,.int .i64 d,.bool a.null,.string (aY a.data),.bool b.null,.string (aY b.data),.slice e g f]
def sk:Array Value:= #[.int .i64 0,.int .i64 0,.bool false,.string ⟨#[]⟩,.bool false,.string ⟨#[]⟩,.slice none 0 0]
def m5:Array Value:= #[.int .i64 0,.int .i64 0,.bool false,.bool false,.bool false,.int .i64 0,.int .i64 0,.int .i64 0,.int .i64 0,.int .i64 0,.int .i64 0,.slice none 0 0]
def Dh (b:Int) (c:Int) (d:AT) (e:Nat) (f:Nat) (a:Bl):Array Value:= #[.bool a.null,.string (aY a.data),.int .i64 b,.int .i64 c,.slice d f e]
def Aq (b:Int) (c:Int) (d:Int) (a:Bl):Array Value:= #[.int .i64 b,.int .i64 c,.int .i64 d,.bool a.null,.string (aY a.data)]
def BN (a:aI):List Value := [.bool a.M0.MD.null,.string (aY a.M0.MD.data),.int .i64 a.M0.MC,.int .i64 a.M0.Mx,.int .i64 a.M0.Mz]
def lh:Array Value:= #[.int .i64 0,.int .i64 0,.int .i64 0,.bool false,.string ⟨#[]⟩,.bool false,.string ⟨#[]⟩,.int .i64 0,.int .i64 0,.int .i64 0,.string ⟨#[]⟩,.int .i64 0,.int .i64 0,.slice none 0 0,.string ⟨#[]⟩,.int .i64 0,.int .i64 0,.bool false,.slice none 0 0,.bool false,.string ⟨#[]⟩,.int .i64 0,.int .i64 0,.slice none 0 0]
def sn:List Value := [.string ⟨#[]⟩,.int .i64 0,.int .i64 0,.bool false]
def FS:List Value := [.bool false,.string ⟨#[]⟩,.int .i64 0,.int .i64 0,.int .i64 0]
def vA48 (b:AT) (c:Nat) (d:Nat) (e:AT) (f:Nat) (g:Nat) (h:AT) (i:Nat) (j:Nat) (k:Int) (a:gC):Array Value:= #[.int .i64 a.MQ.MA.MH,.int .i64 a.MQ.MA.MG,.int .i64 a.MQ.MA.MO,.bool a.MQ.MA.ME.null,.string (aY a.MQ.MA.ME.data),.bool a.MQ.M2.MD.null,.string (aY a.MQ.M2.MD.data),.int .i64 a.MQ.M2.MC,.int .i64 a.MQ.M2.Mx,.int .i64 a.MQ.M2.Mz,.slice b d c,.bool a.MQ.M2.MU,.slice e g f,.bool a.MQ.MF.MD.null,.string (aY a.MQ.MF.MD.data),.int .i64 a.MQ.MF.MV,.int .i64 a.MQ.MF.MC,.slice h j i,.int .i64 a.Nf,.int .i64 k]
section
variable {P:Program} {n:Nat} {F0:Nat->Prop} {w0:World} {e e':Env} {Rs Rs' Rf:List Res} {Q:Exit->Act->World->Prop} {K:Act->World->Prop} {ops:Array Oper} {ft:fw} {x y z:Code} {c:Operand} {id:Nat} {os:List Oper} {l:List Nat}
theorem rT {S:World->Prop} {G:World->Nat->Prop}: ∀ w,S w->RX.triv.reads w (G w):=fun w _=>RX.reads_triv w (G w)
theorem sT {S:World->Prop} {F0:Nat->Prop} {w0:World} {Rs:List Res} {i:Nat}: ∀ w,S w->Src F0 w0 Rs w i .triv:=fun _ _=>Src.triv i
theorem Kv (hl:List.range os.toArray.size=l) (h:TL P n F0 w0 os.toArray l e Rs (Exit.then (y.wp P Q) Q)):T P n F0 w0 e Rs (.seq (.region id os.toArray false) y) Q:=T.seq (T.region hl h)
theorem LS (h:T P n F0 w0 e Rs x (Exit.then (z.wp P (Exit.then (y.wp P Q) Q)) (Exit.then (y.wp P Q) Q))):T P n F0 w0 e Rs (.seq (.seq x z) y) Q:=T.seq (T.seq h)
theorem Kx (h:T P n F0 w0 e Rs y Q):TL P n F0 w0 ops [] e Rs (Exit.then (y.wp P Q) Q):=TL.nil (X.seq h)
theorem Lt (h:T P n F0 w0 e Rs y Q):TD P n F0 w0 ops .nil Rf e Rs (Exit.then (y.wp P Q) Q):=TD.nil (X.seq h)
theorem KQ (h:T P n F0 w0 e Rs y Q):T P n F0 w0 e Rs .skip (Exit.then (y.wp P Q) Q):=T.skip (X.seq h)
theorem LT {p:Prop} [Decidable p] (hc:e.ev c=some (.bool (decide p))) (hb:p) (h:T P n F0 w0 e Rs x Q):T P n F0 w0 e Rs (.cond c x y) Q:=KM hc (Nn hb) h
theorem LX {p:Prop} [Decidable p] (hc:e.ev c=some (.bool (decide p))) (hb: ¬p) (h:T P n F0 w0 e Rs y Q):T P n F0 w0 e Rs (.cond c x y) Q:=K8 hc (Np hb) h
theorem T.yn {p:Prop} [Decidable p] (hc:e.ev c=some (.bool (!decide p))) (hb: ¬p) (h:T P n F0 w0 e Rs x Q):T P n F0 w0 e Rs (.cond c x y) Q:=KM hc (by simp[hb]) h
theorem T.nn {p:Prop} [Decidable p] (hc:e.ev c=some (.bool (!decide p))) (hb:p) (h:T P n F0 w0 e Rs y Q):T P n F0 w0 e Rs (.cond c x y) Q:=K8 hc (by simp[hb]) h
theorem KY {p:Prop} [Decidable p] (hc:e.ev c=some (.bool (decide p))) (hb:p) (h:T P n F0 w0 e Rs x Q):TL P n F0 w0 ops [] e Rs (Exit.then ((Code.cond c x y).wp P Q) Q):=Kx (LT hc hb h)
theorem KW {p:Prop} [Decidable p] (hc:e.ev c=some (.bool (decide p))) (hb: ¬p) (h:T P n F0 w0 e Rs y Q):TL P n F0 w0 ops [] e Rs (Exit.then ((Code.cond c x y).wp P Q) Q):=Kx (LX hc hb h)
theorem K0 {p:Prop} [Decidable p] (hc:e.ev c=some (.bool (!decide p))) (hb: ¬p) (h:T P n F0 w0 e Rs x Q):TL P n F0 w0 ops [] e Rs (Exit.then ((Code.cond c x y).wp P Q) Q):=Kx (T.yn hc hb h)
theorem K1 {p:Prop} [Decidable p] (hc:e.ev c=some (.bool (!decide p))) (hb:p) (h:T P n F0 w0 e Rs y Q):TL P n F0 w0 ops [] e Rs (Exit.then ((Code.cond c x y).wp P Q) Q):=Kx (T.nn hc hb h)
theorem KU (hl:List.range os.toArray.size=l) (h:TL P n F0 w0 os.toArray l e Rs (Exit.then (y.wp P Q) Q)):TL P n F0 w0 ops [] e Rs (Exit.then ((Code.seq (.region id os.toArray false) y).wp P Q) Q):=Kx (Kv hl h)
theorem KP (hl:List.range os.toArray.size=l) (h:TL P n F0 w0 os.toArray l e Rs (Exit.then (y.wp P Q) Q)):T P n F0 w0 e Rs .skip (Exit.then ((Code.seq (.region id os.toArray false) y).wp P Q) Q):=KQ (Kv hl h)
theorem Ku (hft:ft.OK P) (k:Nat) (h:yG ft n ops e (l.take k)=some e') (K:TL P n F0 w0 ops (l.drop k) e' Rs Q):TL P n F0 w0 ops l e Rs Q:=TL.run hft (l.take k) (List.take_append_drop k l).symm h K
theorem KF (hft:ft.OK P) (h:yG ft n ops e l=some e') (K:T P n F0 w0 e' Rs y Q):TL P n F0 w0 ops l e Rs (Exit.then (y.wp P Q) Q):=TL.run hft l (NQ l).symm h (Kx K)
theorem K3 (hft:ft.OK P) (h:yG ft n ops e l=some e') {l':List Nat} (hl:List.range os.toArray.size=l') (K:TL P n F0 w0 os.toArray l' e' Rs (Exit.then (y.wp P Q) Q)):TL P n F0 w0 ops l e Rs (Exit.then ((Code.seq (.region id os.toArray false) y).wp P Q) Q):=KF hft h (Kv hl K)
theorem Lk (hft:ft.OK P) (h:t9 ft [] #[] n ops e [] l=some (e',[])) (K:T P n F0 w0 e' Rs y Q):TL P n F0 w0 ops l e Rs (Exit.then (y.wp P Q) Q):=by have a:=Ms (l := []) hft l h (Kx K); rwa [NQ] at a
theorem LQ {nt:List Nat} {cs:Array Value} {b T':Nat} {L:List Nat} (hft:ft.OK P) (hnt:NOK P nt) (j:Nat) (hi:Rs[j]? = some (aV b T' cs)) (h:t9 ft nt cs n ops e [] l=some (e',L)) (hL:L=L.map fun _=>b) (K:T P n F0 w0 e' Rs y Q):TL P n F0 w0 ops l e Rs (Exit.then (y.wp P Q) Q):=KA hft hnt j hi l.length (by rw[List.take_length]; exact h) hL (by rw[List.drop_length]; exact Kx K)
theorem Kw {i d:Nat} {op:Op} {ty:TypeId} {pos:String} {af:Array Edge} {v:Value} (ho:ops[i]? = some ⟨some d,op,ty,pos,af,none⟩) (hx:Ex P n e (St F0 w0 Rs) ⟨some d,op,ty,pos,af,none⟩ v) (hd:Nat.blt d n=true) (h:TL P n F0 w0 ops l ((d,v)::e) Rs Q):TL P n F0 w0 ops (i::l) e Rs Q:=TL.q ho .u hx hd h
theorem KD {i d:Nat} {op:Op} {ty:TypeId} {pos:String} {af:Array Edge} {v:Value} {lo:Sch} (ho:ops[i]? = some ⟨some d,op,ty,pos,af,none⟩) (hx:Ex P n e (St F0 w0 Rf) ⟨some d,op,ty,pos,af,none⟩ v) (hd:Nat.blt d n=true) (h:TD P n F0 w0 ops lo Rf ((d,v)::e) Rs Q):TD P n F0 w0 ops (.q i lo) Rf e Rs Q:=TD.q ho .u hx hd h
theorem KJ {n:Nat} {F0:Nat->Prop} {w0:World} {e e':Env} {Rs Rs':List Res} {Q:Exit->Act->World->Prop} {R:Env->List Res->Prop} (is:List Nat) (hR:R e' Rs':=by exact⟨rfl,rfl⟩) (he:Sub e' e:=by rfl) (hr:Sel Rs is Rs':=by rfl):X n F0 w0 e Rs .normal (Exit.then (JK n F0 w0 R) Q):=X.jq is hR he hr
theorem KI {P:Program} {n:Nat} {F0:Nat->Prop} {w0:World} {e:Env} {Rs Ns:List Res} {A':Res} {f:Func} {r1:ResultVar} {v1:Value} {z:Exit} {R:Value->Res->List Res->Prop} (is:List Nat) (hf:f.results= #[r1]) (a:RV P n F0 w0 e Rs r1 v1) (hR:R v1 A' Ns:=by exact⟨rfl,rfl,rfl⟩) (hr:Sel Rs is (A'::Ns):=by rfl) (hx:z= .ret\/z= .normal:=by exact .inl rfl):X n F0 w0 e Rs z (bodyPost P f (sa R F0 w0)):=KO is hf a hR hr hx
def Di:List Res->Nat->Res->Option (List Res)
 | [],_,_=>none
 | _::r,0,b=>some (b::r)
 | a::r,k+1,b=>match Di r k b with
  | some l=>some (a::l)
  | none=>none
theorem tc: ∀ {Rs:List Res} {k:Nat} {b:Res} {l:List Res},Di Rs k b=some l->Rs.set k b=l
 | [],_,_,_,h=>by cases h
 | _::r,0,b,l,h=>by cases h; rfl
 | a::r,k+1,b,l,h=>by
  simp only[Di] at h;split at h
  · rename_i l' h';cases h;rw[List.set_cons_succ,tc h']
  · cases h
theorem KK {i d:Nat} {cl:Call} {ty:TypeId} {pos:String} {af:Array Edge} {gd:Option (Nat×Bool)} {f:FuncId} {vs:List Value} {A B:Res} {Y:RX} {v:Value} (k:Nat) (hi:Rs[k]? = some A) (ho:ops[i]? = some ⟨some d,.call cl,ty,pos,af,gd⟩) (hw:Wd n ops e ⟨some d,.call cl,ty,pos,af,gd⟩ true) (hc:CT P n e ⟨some d,.call cl,ty,pos,af,gd⟩ f vs) (hs:aC P f vs.toArray Y A (fun v' A' N=>v'=v/\A'=B/\N = [])) (hr: ∀ w,St F0 w0 Rs w->Src F0 w0 Rs w k Y) (hd:Nat.blt d n=true) (hR:Di Rs k B=some Rs') (h:TL P n F0 w0 ops l ((d,v)::e) Rs' Q):TL P n F0 w0 ops (i::l) e Rs Q:=by
 refine L0 ho hw (Ef.call k hc hi hs hr hd) ?_;rintro _ _ ⟨_,_,_,⟨rfl,rfl,rfl⟩,rfl,rfl⟩;rw[tc hR];exact h
theorem LG {lo:Sch} {i d:Nat} {cl:Call} {ty:TypeId} {pos:String} {af:Array Edge} {gd:Option (Nat×Bool)} {f:FuncId} {vs:List Value} {A B:Res} {Y:RX} {v:Value} (k:Nat) (hi:Rs[k]? = some A) (ho:ops[i]? = some ⟨some d,.call cl,ty,pos,af,gd⟩) (hw:Wd n ops e ⟨some d,.call cl,ty,pos,af,gd⟩ true) (hc:CT P n e ⟨some d,.call cl,ty,pos,af,gd⟩ f vs) (hs:aC P f vs.toArray Y A (fun v' A' N=>v'=v/\A'=B/\N = [])) (hr: ∀ w,St F0 w0 Rs w->Src F0 w0 Rs w k Y) (hd:Nat.blt d n=true) (hR:Di Rs k B=some Rs') (is:List Nat) (hf:Sel Rs' is Rf) (h:TD P n F0 w0 ops lo Rf ((d,v)::e) Rs' Q):TD P n F0 w0 ops (.e i lo) Rf e Rs Q:=by
 refine Mb ho hw (Ef.call k hc hi hs hr hd) ?_;rintro _ _ ⟨_,_,_,⟨rfl,rfl,rfl⟩,rfl,rfl⟩;rw[tc hR];exact⟨Rf,fun w hw=>hw.sel is hf,fun _ h=>h,h⟩
theorem KE {i o z:Nat} {b T':Nat} {t ty:TypeId} {x y:Operand} {v:Value} {pos:String} {af:Array Edge} {gd:Option (Nat×Bool)} {cs cs':Array Value} (k:Nat) (hi:Rs[k]? = some (aV b T' cs)) (ho:ops[i]? = some ⟨none,.store t x y,ty,pos,af,gd⟩) (hw:Wd n ops e ⟨none,.store t x y,ty,pos,af,gd⟩ true) (hx:e.ev x=some (.pointer (some ⟨b,o,none⟩))) (hy:e.ev y=some v) (hz: ∀ w,(sizeOf t).run P w= .ok z w) (hvz:Nat.beq v.cells.size z=true) (hf':Nat.ble (o+v.cells.size) cs.size=true) (ho':v.cells.toList.all (·.oneCell')=true) (hc:(cs.toList.take o++v.cells.toList++cs.toList.drop (o+v.cells.size)).toArray=cs') (hR:Di Rs k (aV b T' cs')=some Rs') (h:TL P n F0 w0 ops l e Rs' Q):TL P n F0 w0 ops (i::l) e Rs Q:=by
 refine L0 ho hw (Ef.st k hx hy hz hi hvz hf' ho' hc) ?_;rintro _ _ ⟨rfl,rfl⟩;rw[tc hR];exact h
theorem Lv {lo:Sch} {i o z:Nat} {b T':Nat} {t ty:TypeId} {x y:Operand} {v:Value} {pos:String} {af:Array Edge} {gd:Option (Nat×Bool)} {cs cs':Array Value} (k:Nat) (hi:Rs[k]? = some (aV b T' cs)) (ho:ops[i]? = some ⟨none,.store t x y,ty,pos,af,gd⟩) (hw:Wd n ops e ⟨none,.store t x y,ty,pos,af,gd⟩ true) (hx:e.ev x=some (.pointer (some ⟨b,o,none⟩))) (hy:e.ev y=some v) (hz: ∀ w,(sizeOf t).run P w= .ok z w) (hvz:Nat.beq v.cells.size z=true) (hf':Nat.ble (o+v.cells.size) cs.size=true) (ho':v.cells.toList.all (·.oneCell')=true) (hc:(cs.toList.take o++v.cells.toList++cs.toList.drop (o+v.cells.size)).toArray=cs') (hR:Di Rs k (aV b T' cs')=some Rs') (is:List Nat) (hf:Sel Rs' is Rf) (h:TD P n F0 w0 ops lo Rf e Rs' Q):TD P n F0 w0 ops (.e i lo) Rf e Rs Q:=by
 refine Mb ho hw (Ef.st k hx hy hz hi hvz hf' ho' hc) ?_;rintro _ _ ⟨rfl,rfl⟩;rw[tc hR];exact⟨Rf,fun w hw=>hw.sel is hf,fun _ h=>h,h⟩
end
def ua:fw := [(173,3,3)]
theorem cy:(ua).OK Tryz.prog:=⟨FOK.mk Pj rfl Pn rfl,trivial⟩
theorem px:SOK Tryz.prog 48 195 1 5 #[.int .i64 0,.int .i64 0,.bool false,.slice none 0 0,.int .i64 0]:=SOK.mk N4 Ol Tryz.zeroValue195 QS QU
theorem qd:(Tryz.prog.info? 195).map (fun i=>(i.zero,i.size,i.bytes))=some (some (.agg #[.int .i64 0,.int .i64 0,.bool false,.slice none 0 0,.int .i64 0]),5,56):=by kernel_rfl
def hU:List aU->List bN->Option (List bN)
 | [],b=>some b
 | a::xs,b=>if (b.length+1)*56<=140737488355328 then (hU xs (b ++ [(⟨a.Mx,a.Mz,a.MU,a.Mw,a.MJ⟩:bN)])) else none
def qJ (a0:List aU):Option (List bN):=(hU a0 []).bind fun a=>some a
theorem yJ (a0:List aU) (p:AT) (c2:Nat) (r:List bN) (h:qJ a0=some r):rS Tryz.prog 58 #[.slice p a0.length c2] (RX.of (ar 5 ba) [.slice p a0.length c2] a0) aJ (fun v A' L=> ∃ (t:AT) (y:Nat),v= .slice t r.length y/\A'=aJ/\L = [(⟨_,ar 5 bc,[.slice t r.length y],r⟩:RO)]):=by
 refine Db Tryz.func58 Z Tryz.ntmps58 Z ?_;intro F w S hS hSF;have hX:(RX.of (ar 5 ba) [.slice p a0.length c2] a0).reads w F:=⟨S,hS,hSF⟩;unfold qJ at h;refine Kv Z (K3 cy Z Z (KF cy Z (T.seq (Kv Z (Ku cy 1 Z (Kw Z (K2 Z OD) Z (Ku cy 1 Z ?_)))))));refine Kx (T.block (LF 195 5 (ge w S bc) ?_));obtain⟨N,z,A⟩:=Nk h;have H:=Ly hX;refine Lq (fun m e Rs=> ∃ (g:List bN) (C:AT) (D:Nat) (d:Nat),d+m=a0.length/\e = [(2,.slice none 0 0),(3,.slice C g.length D),(6,.slice p a0.length c2),(7,jI (a0.length:Int)),(8,jI (d:Int))]/\Rs = [bK 195 5 (ge w S bc) (.slice C g.length D) g,aJ]/\hU (a0.drop d) g=some N) (a0.length) [0,0] ⟨[],none,0,0,by simp,Z,Z,by rw[List.drop_zero]; exact z⟩ QW QW ?_;clear z h;rintro j _ _ ⟨g,C,D,d,O,rfl,rfl,h⟩
 cases j with
 | zero =>
  rw[List.drop_of_length_le QR,hU] at h;have n: ¬ ((d:Int)<(a0.length:Int)):=by omega
  refine Kv Z (KF cy Z (T.seq (K8 Z (Np n) ?_)));obtain rfl:=Nl h;replace h:=A;clear A;refine T.exit (KR (KR (Ll (X.seq (Kv Z (Ku cy 2 Z ?_))))));obtain rfl:=Nl h;exact Kx (T.ret (X.shutO QS 0 Z (Lj [0,0] Z (KO [1,0] Tryz.results58 (Ky Z) ⟨_,⟨_,_,Z,Z,Z⟩,Z⟩ QW (.inl Z)))))
 | succ j =>
  obtain⟨a,f⟩: ∃ x,a0[d]? = some x:=⟨_,List.getElem?_eq_getElem QR⟩;rw[bY f,hU] at h;have o:(d:Int)<(a0.length:Int):=by omega
  refine Kv Z (KF cy Z (T.seq (KM Z (Nn o) ?_)));obtain⟨P,Q,rfl,K,M,q,s,G⟩:=RX.elemS QS hS hSF f;obtain⟨b,c,rfl,i⟩:=G;have R:(RX.of (ar 2 aT) [.slice b a.Mw.length c] a.Mw).reads w F:=⟨S,i,hSF⟩;refine KQ (T.seq (T.block (Kv Z ?_)));refine Kw Z (KX (k:=d) Z Z Z OD OW (Nq f).1) Z ?_;refine Kw Z (LE (us := [jI a.Mx,jI a.Mz,.bool a.MU,.slice b a.Mw.length c,jI a.MJ]) 0 Z P6 OW s q Z Z Z) Z (TL.alloc Z .u Tryz.zeroValue173 Z (fun U=>(KE 0 Z (cs':= #[jI a.Mx,jI a.Mz,.bool a.MU,.slice b a.Mw.length c,jI a.MJ]) Z .u Z Z OW Z Z Z Z Z (Kx (T.region Z (Ku cy 1 Z (Kw Z (KH (us := [jI a.Mx,jI a.Mz,.bool a.MU,.slice b a.Mw.length c,jI a.MJ]) 0 Z P6 OW Z Z Z) Z ?_)))))));refine LI (cells:= #[jI a.Mx,jI a.Mz,.bool a.MU,.slice b a.Mw.length c,jI a.MJ]) Z .u px Z QU Z (fun V=> ?_);obtain⟨B,h⟩:=al h;refine TL.app1 1 Z .u (us := [jI a.Mx,jI a.Mz,.bool a.MU,.slice b a.Mw.length c,jI a.MJ]) (u:=(⟨a.Mx,a.Mz,a.MU,a.Mw,a.MJ⟩:bN)) (l:=g) (E:=(ge w S bc)) Tryz.underlying48 qd Z QS Z Z Z Z Z Z (fun _ _=>Da ⟨_,_,Z,i⟩) (by have hq:=B; omega) (by have hq:=B; omega) Z (fun I J=> ?_);exact K5 [0,0,0] Z (Ku cy 1 Z (TL.nil (KZ (X.seq (T.region Z (Kw Z (Ex.add Z Z QR) Z (Ku cy 1 Z (TL.nil (X.back (m':=j) [1,1] QR ⟨(g ++ [(⟨a.Mx,a.Mz,a.MU,a.Mw,a.MJ⟩:bN)]),I,J,d+1,by omega,Z,Z,h⟩ QW QW)))))))))
def ub:fw := [(23,1,1),(36,0,0),(36,1,2),(36,2,3),(36,3,4),(51,3,4),(176,0,0),(176,1,1),(179,1,1),(191,1,1)]
theorem bn:(ub).OK Tryz.prog:=⟨FOK.mk NV rfl N5 rfl,FOK.mk O2 rfl NA rfl,FOK.mk O2 rfl Nu rfl,FOK.mk O2 rfl Nu rfl,FOK.mk O2 rfl Tryz.sizeOf34 rfl,FOK.mk Pb rfl Tryz.sizeOf49 rfl,FOK.mk PI rfl N5 rfl,FOK.mk PI rfl Qo rfl,FOK.mk P0 rfl PQ rfl,FOK.mk PJ rfl QM rfl,trivial⟩
def uc:List Nat := [3,9,34,49,174,177,189]
theorem eM:NOK Tryz.prog uc:=⟨Nw,N8,Tryz.isAgg34,Tryz.isAgg49,P7,PE,Px,trivial⟩
theorem qK:BOK Tryz.prog 51 #[.bool false,.string ⟨#[]⟩,.int .i64 0,.int .i64 0,.slice none 0 0] [(0,2),(2,1),(3,1),(4,1)]:=BOK.mk Tryz.zeroValue51 Pb (by intro w; simp)
theorem qe:BOK Tryz.prog 191 #[.string ⟨#[]⟩,.slice none 0 0] [(0,1),(1,1)]:=BOK.mk Tryz.zeroValue191 PJ (by intro w; simp)
theorem pz:SOK Tryz.prog 49 191 1 2 #[.string ⟨#[]⟩,.slice none 0 0]:=SOK.mk Ow OJ Tryz.zeroValue191 QS QU
theorem oM:SOK Tryz.prog 189 193 1 2 #[.int .i64 0,.slice none 0 0]:=SOK.mk Ou Ob Tryz.zeroValue193 QS QU
theorem qf:(Tryz.prog.info? 191).map (fun i=>(i.zero,i.size,i.bytes))=some (some (.agg #[.string ⟨#[]⟩,.slice none 0 0]),2,40):=by kernel_rfl
theorem qg:(Tryz.prog.info? 193).map (fun i=>(i.zero,i.size,i.bytes))=some (some (.agg #[.int .i64 0,.slice none 0 0]),2,32):=by kernel_rfl
def jb:List bh->List en->Option (List en)
 | [],a=>some a
 | b::xs,a=>if (a.length+1)*32<=140737488355328 then (jb xs (a ++ [(⟨b.MR,b.MK⟩:en)])) else none
def jc:List aN->List cz->Option (List cz)
 | [],a=>some a
 | b::xs,a=>(jb b.My []).bind fun c=>if (a.length+1)*40<=140737488355328 then (jc xs (a ++ [(⟨b.MI,c⟩:cz)])) else none
def iD (a0:aB):Option (aQ):=(jc a0.Mw []).bind fun a=>some (⟨a0.MD,a0.MV,a0.MC,a⟩:aQ)
theorem iL (a0:aB) (C:AT) (c2:Nat) (r:aQ) (h:iD a0=some r):rS Tryz.prog 57 #[.agg #[.bool a0.MD.null,jS a0.MD.data,jI a0.MV,jI a0.MC,.slice C a0.Mw.length c2]] (RX.of (ar 2 aK) [.slice C a0.Mw.length c2] a0.Mw) aJ (fun v A' L=> ∃ (af:AT) (ag:Nat),v= .agg #[.bool r.MD.null,jS r.MD.data,jI r.MV,jI r.MC,.slice af r.Mw.length ag]/\A'=aJ/\L = [(⟨_,ar 2 aZ,[.slice af r.Mw.length ag],r.Mw⟩:RO)]):=by
 refine Db Tryz.func57 Z Tryz.ntmps57 Z ?_;intro F w S hS hSF;have hX:(RX.of (ar 2 aK) [.slice C a0.Mw.length c2] a0.Mw).reads w F:=⟨S,hS,hSF⟩;unfold iD at h;refine Kv Z (TL.box Z .u Z Z (fun b3=>(TL.alloc Z .u Tryz.zeroValue51 Z (fun V=>(KU Z (Ku bn 1 Z (Kw Z (KH (us:=wL0 a0.MD) 1 Z NW NA Z Z Z) Z (KA bn eM 1 Z 4 Z Z ?_))))))));refine Kw Z (KT (cells:= #[.bool a0.MD.null,jS a0.MD.data,jI a0.MV,jI a0.MC,.slice none 0 0]) qK Z QU) Z ?_;refine TL.alloc Z .u Tryz.zeroValue51 Z (fun Y=>(KE 0 Z (cs':= #[.bool a0.MD.null,jS a0.MD.data,jI a0.MV,jI a0.MC,.slice none 0 0]) Z .u Z Z NS Z Z Z Z Z (Kx (T.seq (Kv Z (KA bn eM 2 Z 2 Z Z (Kw Z (K2 Z OH) Z (KF bn Z (T.block (LF 191 2 (ge w S aZ) ?_))))))))));obtain⟨ax,D,H⟩:=Nk h;have av:=Ly hX;refine Lq (fun m e Rs=> ∃ (g:Nat) (d:List cz) (s:AT) (t:Nat),g+m=a0.Mw.length/\e = [(2,jP V),(3,jP Y),(17,.slice C a0.Mw.length c2),(18,jI (a0.Mw.length:Int)),(19,jI (g:Int))]/\Rs = [bK 191 2 (ge w S aZ) (.slice s d.length t) d,aV Y 51 #[.bool a0.MD.null,jS a0.MD.data,jI a0.MV,jI a0.MC,.slice s d.length t],aV V 51 vA0,aV b3 36 #[.bool a0.MD.null,jS a0.MD.data,jI a0.MV,jI a0.MC,.slice C a0.Mw.length c2],aJ]/\jc (a0.Mw.drop g) d=some ax) (a0.Mw.length) [0,0,0,0,0] ⟨0,[],none,0,by simp,Z,Z,by rw[List.drop_zero]; exact D⟩ QW QW ?_;clear D h;rintro I _ _ ⟨g,d,s,t,aF,rfl,rfl,h⟩
 cases I with
 | zero =>
  rw[List.drop_of_length_le QR,jc] at h;have J: ¬ ((g:Int)<(a0.Mw.length:Int)):=by omega
  refine Kv Z (KF bn Z (T.seq (K8 Z (Np J) ?_)));obtain rfl:=Nl h;replace h:=H;clear H;refine T.exit (KR (KR (Ll (X.seq (Kv Z (Kw Z (KH (us := [.bool a0.MD.null,jS a0.MD.data,jI a0.MV,jI a0.MC,.slice s d.length t]) 1 Z Oz NS Z Z Z) Z (KE 2 Z (cs':= #[.bool a0.MD.null,jS a0.MD.data,jI a0.MV,jI a0.MC,.slice s d.length t]) Z .u Z Z NS Z Z Z Z Z ?_)))))));obtain rfl:=Nl h;exact Kx (T.ret (X.shutO QS 0 Z (Lj [0,0,0,0,0] Z (KO [4,0] Tryz.results57 (KV (us:= #[.bool a0.MD.null,jS a0.MD.data,jI a0.MV,jI a0.MC,.slice s d.length t]) 2 Z Oz NS Z Z) ⟨_,⟨_,_,Z,Z,Z⟩,Z⟩ QW (.inl Z)))))
 | succ I =>
  obtain⟨a,p⟩: ∃ x,a0.Mw[g]? = some x:=⟨_,List.getElem?_eq_getElem QR⟩;rw[bY p,jc] at h;have K:(g:Int)<(a0.Mw.length:Int):=by omega
  refine Kv Z (KF bn Z (T.seq (KM Z (Nn K) ?_)));obtain⟨M,N,rfl,aA,aC,aa,ab,ap⟩:=RX.elemS QS hS hSF p;obtain⟨y,z,rfl,A⟩:=ap;have aq:(RX.of (ar 2 cG) [.slice y a.My.length z] a.My).reads w F:=⟨S,A,hSF⟩;refine KQ (T.seq (T.block (Kv Z ?_)));refine Kw Z (KX (k:=g) Z Z Z OH ON (Nq p).1) Z ?_;refine Kw Z (LE (us := [jS a.MI,.slice y a.My.length z]) 0 Z Qs ON ab aa Z Z Z) Z (TL.alloc Z .u Tryz.zeroValue176 Z (fun ay=>(KE 0 Z (cs':= #[jS a.MI,.slice y a.My.length z]) Z .u Z Z ON Z Z Z Z Z (KU Z (KA bn eM 0 Z 2 Z Z ?_)))));refine Kw Z (KT (cells:= #[jS a.MI,.slice none 0 0]) qe Z QU) Z ?_;refine TL.alloc Z .u Tryz.zeroValue191 Z (fun ah=>(KE 0 Z (cs':= #[jS a.MI,.slice none 0 0]) Z .u Z Z OJ Z Z Z Z Z (Kx (T.seq (Kv Z (KA bn eM 1 Z 2 Z Z (Kw Z (K2 Z OG) Z (KF bn Z (T.block (LF 193 2 (ge w S eA) ?_))))))))));obtain⟨az,O,P⟩:=Nk h;have aw:=Ly aq;refine Lq (fun m e Rs=> ∃ (f:Nat) (c:List en) (i:AT) (j:Nat),f+m=a.My.length/\e = [(2,jP V),(3,jP Y),(6,jP ah),(17,.slice (some ⟨M,N,none⟩) a0.Mw.length c2),(18,jI (a0.Mw.length:Int)),(19,jI (g:Int)),(27,.slice y a.My.length z),(28,jI (a.My.length:Int)),(29,jI (f:Int))]/\Rs = [bK 193 2 (ge w S eA) (.slice i c.length j) c,aV ah 191 #[jS a.MI,.slice i c.length j],aV ay 176 #[jS a.MI,.slice y a.My.length z],bK 191 2 (ge w S aZ) (.slice s d.length t) d,aV Y 51 #[.bool a0.MD.null,jS a0.MD.data,jI a0.MV,jI a0.MC,.slice s d.length t],aV V 51 vA0,aV b3 36 #[.bool a0.MD.null,jS a0.MD.data,jI a0.MV,jI a0.MC,.slice (some ⟨M,N,none⟩) a0.Mw.length c2],aJ]/\jb (a.My.drop f) c=some az) (a.My.length) [0,0,0,0,0,0,0,0] ⟨0,[],none,0,by simp,Z,Z,by rw[List.drop_zero]; exact O⟩ QW QW ?_;clear O h;rintro Q _ _ ⟨f,c,i,j,aG,rfl,rfl,h⟩
  cases Q with
  | zero =>
   rw[List.drop_of_length_le QR,jb] at h;have R: ¬ ((f:Int)<(a.My.length:Int)):=by omega
   refine Kv Z (KF bn Z (T.seq (K8 Z (Np R) ?_)));obtain rfl:=Nl h;replace h:=P;clear P;refine T.exit (KR (KR (Ll (X.seq (T.region Z (KA bn eM 4 Z 2 Z Z (Kw Z (KH (us := [jS a.MI,.slice i c.length j]) 1 Z Qt OJ Z Z Z) Z (LI (cells:= #[jS a.MI,.slice i c.length j]) Z .u pz Z QW Z (fun aM=> ?_)))))))));obtain⟨ai,h⟩:=al h;refine LZ 3 0 Z .u (us := [jS a.MI,.slice i c.length j]) (u:=(⟨a.MI,c⟩:cz)) (l:=d) (E:=(ge w S aZ)) Tryz.underlying49 qf Z QS Z Z Z Z Z Z Z (fun w1 G1 hG W h1 h2=>⟨_,_,Z,(fun w G h=>G4 QS w G h) w1 G1 hG W h1 h2⟩) (by have hq:=ai; omega) (by have hq:=ai; omega) Z (fun aj ak=> ?_);exact K5 [0,0,0,0,0,0,0] Z (Ku bn 1 Z (KE 3 Z (cs':= #[.bool a0.MD.null,jS a0.MD.data,jI a0.MV,jI a0.MC,.slice aj (d ++ [(⟨a.MI,c⟩:cz)]).length ak]) Z .u Z Z Tryz.sizeOf49 Z Z Z Z Z (TL.nil (KZ (X.seq (T.region Z (Kw Z (Ex.add Z Z QR) Z (Ku bn 1 Z (TL.nil (X.back (m':=I) [0,2,2,2,2] QR ⟨g+1,(d ++ [(⟨a.MI,c⟩:cz)]),aj,ak,by omega,Z,Z,h⟩ QW QW))))))))))
  | succ Q =>
   obtain⟨b,q⟩: ∃ x,a.My[f]? = some x:=⟨_,List.getElem?_eq_getElem QR⟩;rw[bY q,jb] at h;have U:(f:Int)<(a.My.length:Int):=by omega
   refine Kv Z (KF bn Z (T.seq (KM Z (Nn U) ?_)));obtain⟨aH,aI,rfl,aD,aE,ad,ae,au⟩:=RX.elemS QS A hSF q;obtain⟨n,o,rfl,B⟩:=au;have aL:(RX.of (ar 12 dp) [.slice n b.MK.length o] b.MK).reads w F:=⟨S,B,hSF⟩;refine KQ (T.seq (T.block (Kv Z ?_)));refine Kw Z (KX (k:=f) Z Z Z OG OC (Nq q).1) Z ?_;refine Kw Z (LE (us := [jI b.MR,.slice n b.MK.length o]) 0 Z PS OC ae ad Z Z Z) Z (TL.alloc Z .u Tryz.zeroValue179 Z (fun aN=>(KE 0 Z (cs':= #[jI b.MR,.slice n b.MK.length o]) Z .u Z Z OC Z Z Z Z Z (Kx (T.region Z (KA bn eM 2 Z 2 Z Z (Kw Z (KH (us := [jI b.MR,.slice n b.MK.length o]) 0 Z PS OC Z Z Z) Z (LI (cells:= #[jI b.MR,.slice n b.MK.length o]) Z .u oM Z QW Z (fun aO=> ?_)))))))));obtain⟨am,h⟩:=al h;refine TL.app1 1 Z .u (us := [jI b.MR,.slice n b.MK.length o]) (u:=(⟨b.MR,b.MK⟩:en)) (l:=c) (E:=(ge w S eA)) Tryz.underlying189 qg Z QS Z Z Z Z Z Z (fun _ _=>Da ⟨_,_,Z,B⟩) (by have hq:=am; omega) (by have hq:=am; omega) Z (fun an ao=> ?_);exact K5 [0,0,0,0,0,0,0,0,0] Z (Ku bn 1 Z (KE 2 Z (cs':= #[jS a.MI,.slice an (c ++ [(⟨b.MR,b.MK⟩:en)]).length ao]) Z .u Z Z QM Z Z Z Z Z (TL.nil (KZ (X.seq (T.region Z (Kw Z (Ex.add Z Z QR) Z (Ku bn 1 Z (TL.nil (X.back (m':=Q) [1,1,1,1,1,1,1,1] QR ⟨f+1,(c ++ [(⟨b.MR,b.MK⟩:en)]),an,ao,by omega,Z,Z,h⟩ QW QW))))))))))
def ud:fw := []
theorem ay:(ud).OK Tryz.prog:=trivial
theorem td:Tryz.prog.follows .mixedOrders=true:=by kernel_rfl
theorem oN:SOK Tryz.prog 74 3 17 1 #[.int .i64 0,.int .i64 0,.int .i64 0,.int .i64 0,.int .i64 0,.int .i64 0,.int .i64 0,.int .i64 0,.int .i64 0,.int .i64 0,.int .i64 0,.int .i64 0,.int .i64 0,.int .i64 0,.int .i64 0,.int .i64 0,.int .i64 0]:=SOK.mk ND Nu Tryz.zeroValue3 QS QU
theorem rA:(Tryz.prog.info? 3).map (fun i=>(i.zero,i.size,i.bytes))=some (some (.int .i64 0),1,8):=by kernel_rfl
def ic (a1:Int):Nat->Int->Nat->Option (Int×Nat)
 | 0,_,_=>none
 | c+1,b,a=>if 0<=a1/\a1<=9223372036854775807 then (if (a:Int)<(a1 % 8) then (if 0<=b/\b<=9223372036854775807 then (if A0 ((a:Int)+1) then (ic a1 c (b / 2) (a+1)) else none) else none) else some (b,a)) else none
def oO (a0:AI) (a1:Int):Option (Int):=if 0<=a1/\a1<=9223372036854775807 then (if 0<=(a1 / 8) then ((a0[(a1 / 8).toNat]?).bind fun ch3=>if A0 (ch3.toNat:Int) then ((ic a1 (((a1 % 8)).toNat+1) (ch3.toNat:Int) 0).bind fun (a,b)=>if 0<=a/\a<=9223372036854775807 then some (a % 2) else none) else none) else none) else none
theorem xb (a0:AI) (a1:Int) (r:Int) (h:oO a0 a1=some r):aC Tryz.prog 207 #[jS a0,jI a1] .triv (aJ) (fun v A' N=>v=jI r/\A'=aJ/\N = []):=by
 refine aW Tryz.func207 Z Tryz.ntmps207 Z ?_;intro F w hX;unfold oO at h;refine Kv Z (K3 ay Z Z ?_);obtain⟨n,h⟩:=al h;refine Ku ay 2 Z (Kw Z (Ex.quo Z Z QR n) Z ?_);obtain⟨c2,h⟩:=al h;obtain⟨ch3,hc4,h⟩:=Nk h;refine Kw Z (L6 Z Z ((Int.toNat_of_nonneg c2).symm) Tryz.underlying9 hc4) Z ?_;obtain⟨o,h⟩:=al h;refine Kw Z (L9 Z Tryz.runUnderlying5 OZ o) Z (KF ay Z (T.seq (Kv Z (KF ay Z (T.block ?_)))));obtain⟨p,g,a⟩:=Nk h;refine Lq (fun m e Rs=> ∃ (d:Int) (f:Nat),e = [(1,jI a1),(4,jI 0),(5,jI d),(6,jI (f:Int))]/\Rs = [aJ]/\ic a1 m d f=some p) (((a1 % 8)).toNat+1) [0] ⟨(ch3.toNat:Int),0,Z,Z,by exact g⟩ QW QW ?_;clear g h;rintro b _ _ ⟨d,f,rfl,rfl,h⟩
 cases b with
 | zero =>
  rw[ic] at h;cases h
 | succ b =>
  rw[ic] at h;refine T.seq (Kv Z ?_);obtain⟨i,h⟩:=al h;refine Ku ay 2 Z (Kw Z (Ex.rem Z Z QR i) Z (Ku ay 1 Z ?_));rcases jF h with⟨c,h⟩ | ⟨c,h⟩
  ·refine KY Z c (KQ (T.seq (T.block (T.region Z ?_))));obtain⟨j,h⟩:=al h;refine Ku ay 1 Z (Kw Z (Ex.quo Z Z QR j) Z (Ku ay 1 Z (TL.nil (KZ (X.seq (T.region Z ?_))))));obtain⟨k,h⟩:=al h;exact Ku ay 1 Z (Kw Z (Ex.add Z Z k) Z (Ku ay 1 Z (TL.nil (X.back (m':=b) [0] QR ⟨(d / 2),f+1,Z,Z,h⟩ QW QW))))
  refine KW Z c ?_;obtain rfl:=Nl h;replace h:=a;clear a;refine T.exit (KR (KR (Ll (X.seq (Kv Z ?_)))));obtain⟨l,h⟩:=al h;refine Ku ay 1 Z (Kw Z (Ex.rem Z Z QR l) Z (Ku ay 1 Z ?_));obtain rfl:=Nl h;exact Kx (T.ret (KI [0] Tryz.results207 (Ky Z)))
def jd (a0:Int):Nat->Int->Nat->Option (Lp Int (Int×Nat))
 | 0,_,_=>none
 | d+1,b,a=>if (a:Int)<([28,27,26,25,23,22,20,19,18,14,13,11,10,9,8,6,0].length:Int) then (([28,27,26,25,23,22,20,19,18,14,13,11,10,9,8,6,0][a]?).bind fun c=>if c=a0 then some (Lp.ret 1) else (if A0 ((a:Int)+1) then (jd a0 d b (a+1)) else none)) else (some (Lp.go (b,a)))
def lY (a0:Int):Option (Int):=(jd a0 ((([28,27,26,25,23,22,20,19,18,14,13,11,10,9,8,6,0].length:Int)).toNat+1) 0 0).bind fun e=>match e with | .ret r=>some r | .go (a,b)=>some 0
theorem oP (a0:Int) (r:Int) (h:lY a0=some r):aC Tryz.prog 208 #[jI a0] .triv (aJ) (fun v A' N=>v=jI r/\A'=aJ/\N = []):=by
 refine aW Tryz.func208 Z Tryz.ntmps208 Z ?_;intro F w hX;unfold lY at h;refine Kv Z (K3 ay Z Z ?_);refine LI (cells:= #[jI 28,jI 27,jI 26,jI 25,jI 23,jI 22,jI 20,jI 19,jI 18,jI 14,jI 13,jI 11,jI 10,jI 9,jI 8,jI 6,jI 0]) Z .u oN Z QU Z (fun l=> ?_);refine Ma (us := [jI 28,jI 27,jI 26,jI 25,jI 23,jI 22,jI 20,jI 19,jI 18,jI 14,jI 13,jI 11,jI 10,jI 9,jI 8,jI 6,jI 0]) (xs := [28,27,26,25,23,22,20,19,18,14,13,11,10,9,8,6,0]) (E:=cR) (z:=1) Z (Nat.le_of_ble_eq_true Z) (fun _=>⟨Z,Z,⟨Z,Z,⟨Z,Z,⟨Z,Z,⟨Z,Z,⟨Z,Z,⟨Z,Z,⟨Z,Z,⟨Z,Z,⟨Z,Z,⟨Z,Z,⟨Z,Z,⟨Z,Z,⟨Z,Z,⟨Z,Z,⟨Z,Z,⟨Z,Z,Z⟩⟩⟩⟩⟩⟩⟩⟩⟩⟩⟩⟩⟩⟩⟩⟩⟩) (KF ay Z (T.seq (Kv Z (KF ay Z (T.block ?_)))));obtain⟨p,i,b⟩:=Nk h;refine Lq (fun m e Rs=> ∃ (g:Int) (a:Nat),e = [(0,jI a0),(2,jI g),(3,.slice (some ⟨l,0,none⟩) 17 17),(4,jI (a:Int))]/\Rs = [bK 3 1 cR (.slice (some ⟨l,0,none⟩) 17 17) [28,27,26,25,23,22,20,19,18,14,13,11,10,9,8,6,0],aJ]/\jd a0 m g a=some p) ((([28,27,26,25,23,22,20,19,18,14,13,11,10,9,8,6,0].length:Int)).toNat+1) [0,0] ⟨0,0,Z,Z,by exact i⟩ QW QW ?_;clear i h;rintro j _ _ ⟨g,a,rfl,rfl,h⟩
 cases j with
 | zero =>
  rw[jd] at h;cases h
 | succ j =>
  rw[jd] at h;refine T.seq (Kv Z (Ku ay 2 Z (Kw Z (K2 Z ND) Z (Ku ay 1 Z ?_))));rcases jF h with⟨c,h⟩ | ⟨c,h⟩
  ·refine KY Z c (KQ (T.seq (T.block (Kv Z ?_))));obtain⟨n,d,h⟩:=Nk h;refine Ku ay 2 Z (Md (E:=cR) (k:=a) 0 Z (fun w G h=>bF QS w G h) QS d ?_);rintro gg oo _ ⟨⟩ _ ⟨_,_,rfl⟩;refine K5 [0,0] Z ?_;refine Kw Z (KX (k:=a) Z Z Z ND Nu (Nq d).1) Z ?_;refine Kw Z (LY (cs := [jI n]) 0 0 Z Nw Z (fun _ _ h=>h.2.2.1) Z) Z (Ku ay 2 Z ?_);rcases jF h with⟨f,h⟩ | ⟨f,h⟩
   ·refine KY Z f (Kv Z (Ku ay 1 Z ?_));obtain rfl:=Nl h;obtain rfl:=Nl b;exact Kx (T.ret (KL (Kz (Kz (KL (Kz (KI [1] Tryz.results208 (Ky Z))))))))
   refine KW Z f (T.skip (KZ (X.seq (T.region Z ?_))));obtain⟨o,h⟩:=al h;exact Ku ay 1 Z (Kw Z (Ex.add Z Z o) Z (Ku ay 1 Z (TL.nil (X.unf 0 Z (Lj [0,0] Z (X.back (m':=j) [0,0] QR ⟨g,a+1,Z,Z,h⟩ QW QW))))))
  refine KW Z c ?_;obtain rfl:=Nl h;replace h:=b;clear b;refine T.exit (KR (KR (Ll (X.seq (Kv Z (Ku ay 1 Z ?_))))));obtain rfl:=Nl h;exact Kx (T.ret (KI [1] Tryz.results208 (Ky Z)))
def ie (b:Nat):Nat->List Int->Int->Option (List Int×Int)
 | 0,_,_=>none
 | f+1,e,a=>if a<=32 then (if 0<=((b:Int)+a) then ((e[((b:Int)+a).toNat]?).bind fun c=>if A0 ((b:Int)+a) then (if A0 ((b:Int)+a) then (if A0 (32 - a) then ((lY (32 - a)).bind fun d=>if A0 (c+d) then (if 0<=(c+d)/\(c+d)<=9223372036854775807 then (if A0 (a+1) then (ie b f (e.set (((b:Int)+a).toNat) ((c+d) % 2)) (a+1)) else none) else none) else none) else none) else none) else none) else none) else some (e,a)
def fy (a0:AI) (c:List Int):Nat->Int->Int->Option (Int×Int)
 | 0,_,_=>none
 | e+1,d,a=>if a>=0 then (if A0 ((8*(a0.length:Int))+a) then (if 0<=((8*(a0.length:Int))+a) then ((c[((8*(a0.length:Int))+a).toNat]?).bind fun b=>if A0 (1 - b) then (if A0 (a - 1) then (fy a0 c e (IntKind.u32.wrap ((IntKind.u32.wrap (d*2))+(IntKind.u32.wrap (1 - b)))) (a - 1)) else none) else none) else none) else none) else some (d,a)
def gf (a0:AI):Nat->List Int->Nat->Option (List Int×Nat)
 | 0,_,_=>none
 | c+1,b,a=>if (a:Int)<(8*(a0.length:Int)) then ((b[a]?).bind fun d=>if d=1 then ((ie a (((33:Int) - (1)).toNat+1) b 1).bind fun (e,f)=>if A0 ((a:Int)+1) then (gf a0 c e (a+1)) else none) else (if A0 ((a:Int)+1) then (gf a0 c b (a+1)) else none)) else some (b,a)
def ig:Nat->List Int->Nat->Option (List Int×Nat)
 | 0,_,_=>none
 | d+1,b,a=>if (a:Int)<32 then ((b[a]?).bind fun c=>if A0 (1 - c) then (if A0 ((a:Int)+1) then (ig d (b.set a (1 - c)) (a+1)) else none) else none) else some (b,a)
def ij (a0:AI):Nat->List Int->Nat->Option (List Int×Nat)
 | 0,_,_=>none
 | c+1,b,a=>if (a:Int)<(8*(a0.length:Int)) then ((oO a0 (a:Int)).bind fun d=>(b[a]?).bind fun e=>if A0 ((a:Int)+1) then (ij a0 c (b.set a d) (a+1)) else none) else some (b,a)
def oQ (a0:AI):Option (Int):=if A0 (8*(a0.length:Int)) then (if A0 ((8*(a0.length:Int))+32) then (if 0<=((8*(a0.length:Int))+32)/\8*(((8*(a0.length:Int))+32).toNat)<=281474976710656 then ((ij a0 (((8*(a0.length:Int))).toNat+1) (List.replicate (((8*(a0.length:Int))+32).toNat) (0:Int)) 0).bind fun (a,e)=>(ig ((32:Int).toNat+1) a 0).bind fun (b,f)=>(gf a0 (((8*(a0.length:Int))).toNat+1) b 0).bind fun (c,g)=>(fy a0 c (((31:Int) - (-1)).toNat+1) 0 31).bind fun (d,h)=>some d) else none) else none) else none
theorem xc (a0:AI) (r:Int) (h:oQ a0=some r):aC Tryz.prog 165 #[jS a0] .triv (aJ) (fun v A' N=>v= .int .u32 r/\A'=aJ/\N = []):=by
 refine aW Tryz.func165 Z Tryz.ntmps165 Z ?_;intro F w hX;unfold oQ at h;refine Kv Z (K3 ay Z Z (Ku ay 1 Z (Kw Z (Lh Z Nv) Z ?_)));obtain⟨c1,h⟩:=al h;refine Kw Z (Ex.mul Z Z c1) Z (K3 ay Z Z ?_);obtain⟨c2,h⟩:=al h;refine Ku ay 1 Z (Kw Z (Ex.add Z Z c2) Z ?_);obtain⟨c3,h⟩:=al h;refine TL.mk1 (k:=((8*(a0.length:Int))+32).toNat) (v:=jI 0) cR (0:Int) Z .u Tryz.underlying74 rA Z Z (Int.toNat_of_nonneg c3.1).symm c3.2 (by have hq:=c3.2; omega) (fun _ _=>Z) Z (fun b4=> ?_);refine KF ay Z (T.seq (Kv Z (KF ay Z (T.block ?_))));obtain⟨E9,M,O⟩:=Nk h;refine Lq (fun m e Rs=> ∃ (t:List Int) (A6:AT) (P:Nat) (p:Nat),e = [(0,jS a0),(2,.int .u32 0),(3,jI (8*(a0.length:Int))),(4,.slice A6 t.length P),(5,jI (p:Int))]/\Rs = [bK 3 1 cR (.slice A6 t.length P) t,aJ]/\ij a0 m t p=some E9) (((8*(a0.length:Int))).toNat+1) [0,0] ⟨(List.replicate (((8*(a0.length:Int))+32).toNat) (0:Int)),(some ⟨b4,0,none⟩),(List.replicate (((8*(a0.length:Int))+32).toNat) (0:Int)).length,0,Z,Z,by exact M⟩ QW QW ?_;clear M h;rintro Q _ _ ⟨t,A6,P,p,rfl,rfl,h⟩
 cases Q with
 | zero =>
  rw[ij] at h;cases h
 | succ Q =>
  rw[ij] at h;refine T.seq (Kv Z (Ku ay 3 Z ?_));rcases jF h with⟨R,h⟩ | ⟨R,h⟩
  ·refine KY Z R (KQ (T.seq (T.block (T.region Z ?_))));obtain⟨S,az,h⟩:=Nk h;refine Ku ay 4 Z (KN Z .u (.fn Tryz.call207 Z) (xb a0 (p:Int) _ az) rT Z ?_);obtain⟨aH,B,h⟩:=Nk h;refine Md (E:=cR) (k:=p) 0 Z (fun w G h=>bF QS w G h) QS B ?_;rintro aA aB _ ⟨⟩ _ ⟨_,_,rfl⟩;refine K5 [0,0] Z ?_;refine Kw Z (KX (k:=p) Z Z Z ND Nu (Nq B).1) Z ?_;refine TL.unf 0 Z (K5 [0,0] Z (TL.stE (k:=p) (u:=aH) (u':=S) 0 0 Z .u Z Z Nu Z B Z Z Z Z (fun _ _ _ _ h=>by subst h; rfl) (K5 [0,0] Z ?_)));rw[show t.length=(t.set p S).length from (List.length_set ..).symm];refine TL.nil (KZ (X.seq (T.region Z ?_)));obtain⟨aI,h⟩:=al h;exact Ku ay 1 Z (Kw Z (Ex.add Z Z aI) Z (Ku ay 1 Z (TL.nil (X.back (m':=Q) [0,0] QR ⟨(t.set p S),(some ⟨aA,aB,none⟩),P,p+1,Z,Z,h⟩ QW QW))))
  refine KW Z R ?_;obtain rfl:=Nl h;replace h:=O;clear O;refine T.exit (KR (KR (Ll (X.seq (T.seq (Kv Z (KF ay Z (T.block ?_))))))));obtain⟨aK,U,V⟩:=Nk h;refine Lq (fun m e Rs=> ∃ (i:List Int) (H:AT) (y:Nat) (g:Nat),e = [(2,.int .u32 0),(3,jI (8*(a0.length:Int))),(4,.slice H i.length y),(6,jI (g:Int))]/\Rs = [bK 3 1 cR (.slice H i.length y) i,aJ]/\ig m i g=some aK) ((32:Int).toNat+1) [0,0] ⟨t,A6,P,0,Z,Z,by exact U⟩ QW QW ?_;clear U h;rintro W _ _ ⟨i,H,y,g,rfl,rfl,h⟩
  cases W with
  | zero =>
   rw[ig] at h;cases h
  | succ W =>
   rw[ig] at h;refine T.seq (Kv Z (Ku ay 2 Z ?_));rcases jF h with⟨Y,h⟩ | ⟨Y,h⟩
   ·refine KY Z Y (KQ (T.seq (T.block (T.region Z ?_))));obtain⟨z,x,h⟩:=Nk h;refine Ku ay 4 Z (Md (E:=cR) (k:=g) 0 Z (fun w G h=>bF QS w G h) QS x ?_);rintro aD aE _ ⟨⟩ _ ⟨_,_,rfl⟩;refine K5 [0,0] Z ?_;refine Kw Z (KX (k:=g) Z Z Z ND Nu (Nq x).1) Z ?_;refine Kw Z (LY (cs := [jI z]) 0 0 Z Nw Z (fun _ _ h=>h.2.2.1) Z) Z ?_;obtain⟨aL,h⟩:=al h;refine Kw Z (Ex.sub Z Z aL) Z ?_;refine Kw Z (KX (k:=g) Z Z Z ND Nu (Nq x).1) Z ?_;refine TL.unf 0 Z (K5 [0,0] Z (TL.stE (k:=g) (u:=z) (u':=(1 - z)) 0 0 Z .u Z Z Nu Z x Z Z Z Z (fun _ _ _ _ h=>by subst h; rfl) (K5 [0,0] Z ?_)));rw[show i.length=(i.set g (1 - z)).length from (List.length_set ..).symm];refine TL.nil (KZ (X.seq (T.region Z ?_)));obtain⟨aM,h⟩:=al h;exact Ku ay 1 Z (Kw Z (Ex.add Z Z aM) Z (Ku ay 1 Z (TL.nil (X.back (m':=W) [0,0] QR ⟨(i.set g (1 - z)),(some ⟨aD,aE,none⟩),y,g+1,Z,Z,h⟩ QW QW))))
   refine KW Z Y ?_;obtain rfl:=Nl h;replace h:=V;clear V;refine T.exit (KR (KR (Ll (X.seq (T.seq (Kv Z (KF ay Z (T.block ?_))))))));obtain⟨aN,aa,ab⟩:=Nk h;refine Lq (fun m e Rs=> ∃ (f:List Int) (A:AT) (n:Nat) (a:Nat),e = [(2,.int .u32 0),(3,jI (8*(a0.length:Int))),(4,.slice A f.length n),(7,jI (a:Int))]/\Rs = [bK 3 1 cR (.slice A f.length n) f,aJ]/\gf a0 m f a=some aN) (((8*(a0.length:Int))).toNat+1) [0,0] ⟨i,H,y,0,Z,Z,by exact aa⟩ QW QW ?_;clear aa h;rintro I _ _ ⟨f,A,n,a,rfl,rfl,h⟩
   cases I with
   | zero =>
    rw[gf] at h;cases h
   | succ I =>
    rw[gf] at h;refine T.seq (Kv Z (Ku ay 3 Z ?_));rcases jF h with⟨ad,h⟩ | ⟨ad,h⟩
    ·refine KY Z ad (KQ (T.seq (T.block (Kv Z ?_))));obtain⟨aO,ae,h⟩:=Nk h;refine Ku ay 2 Z (Md (E:=cR) (k:=a) 0 Z (fun w G h=>bF QS w G h) QS ae ?_);rintro af ag _ ⟨⟩ _ ⟨_,_,rfl⟩;refine K5 [0,0] Z ?_;refine Kw Z (KX (k:=a) Z Z Z ND Nu (Nq ae).1) Z ?_;refine Kw Z (LY (cs := [jI aO]) 0 0 Z Nw Z (fun _ _ h=>h.2.2.1) Z) Z (Ku ay 1 Z ?_);rcases jF h with⟨ah,h⟩ | ⟨ah,h⟩
     ·refine KY Z ah (Kv Z (KF ay Z (T.block (T.unf 0 Z (Mh [0,0] Z ?_)))));obtain⟨aP,ai,aj⟩:=Nk h;refine Lq (fun m e Rs=> ∃ (c:List Int) (J:AT) (o:Nat) (b:Int),e = [(2,.int .u32 0),(3,jI (8*(a0.length:Int))),(4,.slice J c.length o),(7,jI (a:Int)),(8,jI b)]/\Rs = [bK 3 1 cR (.slice J c.length o) c,aJ]/\ie a m c b=some aP) (((33:Int) - (1)).toNat+1) [0,0] ⟨f,(some ⟨af,ag,none⟩),n,1,Z,Z,by exact ai⟩ QW QW ?_;clear ai h;rintro ak _ _ ⟨c,J,o,b,rfl,rfl,h⟩
      cases ak with
      | zero =>
       rw[ie] at h;cases h
      | succ ak =>
       rw[ie] at h;refine T.seq (Kv Z (Ku ay 2 Z ?_));rcases jF h with⟨am,h⟩ | ⟨am,h⟩
       ·refine KY Z am ?_;obtain⟨an,h⟩:=al h;obtain⟨d,j,h⟩:=Nk h;refine KQ (T.seq (T.block (Mj (E:=cR) (k:=((a:Int)+b).toNat) 0 Z (fun w G h=>bF QS w G h) QS j ?_)));rintro C D _ ⟨⟩ _ ⟨_,_,rfl⟩;refine Mh [0,0] Z ?_;obtain⟨aQ,h⟩:=al h;obtain⟨aR,h⟩:=al h;obtain⟨aS,h⟩:=al h;obtain⟨l,ao,h⟩:=Nk h;obtain⟨av,h⟩:=al h;obtain⟨aw,h⟩:=al h;refine L7 (fun e Rs=>e = [(2,.int .u32 0),(3,jI (8*(a0.length:Int))),(4,.slice (some ⟨C,D,none⟩) (c.set (((a:Int)+b).toNat) ((d+l) % 2)).length o),(7,jI (a:Int)),(8,jI b),(50,jI b)]/\Rs = [bK 3 1 cR (.slice (some ⟨C,D,none⟩) (c.set (((a:Int)+b).toNat) ((d+l) % 2)).length o) (c.set (((a:Int)+b).toNat) ((d+l) % 2)),aJ]) ?_ ?_
        ·refine Lc (.q 0 (.q 1 (.q 2 (.q 3 (.q 4 (.q 5 (.q 6 (.q 7 (.q 8 (.q 10 (.q 11 (.br 9 (.e 12 (.q 13 (.q 14 (.q 15 (.e 16 .nil))))) (.e 12 (.e 9 (.q 13 (.q 14 (.q 15 (.e 16 .nil)))))))))))))))))) [1] Z td pX QU ?_;refine TD.run ay [0,1,2] Z Z (KD Z (Ex.add Z Z aQ) Z (TD.run ay [4,5,6] Z Z (KD Z (Ex.add Z Z aR) Z ?_)));refine KD Z (KX (k:=((a:Int)+b).toNat) Z Z ((Int.toNat_of_nonneg an).symm) ND Nu (Nq j).1) Z ?_;refine TD.run ay [10] Z Z (KD Z (Ex.sub Z Z aS) Z ?_);refine TD.br ?_ ?_
         ·refine L3 Z .u (LY (cs := [jI d]) 0 0 Z Nw Z (fun _ _ h=>h.2.2.1) Z) Z [1] Z (LD Z .u (.fn Tryz.call208 Z) (oP (32 - b) _ ao) rT Z [1] (Z) (KD Z (Ex.add Z Z av) Z (KD Z (Ex.rem Z Z QR aw) Z ?_)));refine KD Z (KX (k:=((a:Int)+b).toNat) Z Z ((Int.toNat_of_nonneg an).symm) ND Nu (Nq j).1) Z ?_;refine TD.unf 0 Z (LA [0,0] Z (TD.stE (k:=((a:Int)+b).toNat) (u:=d) (u':=((d+l) % 2)) 0 0 Z .u Z Z Nu Z j Z Z Z Z (fun _ _ _ _ h=>by subst h; rfl) [1] (Z) (LA [0,0] Z ?_)));rw[show c.length=(c.set (((a:Int)+b).toNat) ((d+l) % 2)).length from (List.length_set ..).symm];exact TD.nil (LO [0,0] ⟨Z,Z⟩ QW QW)
         refine LD Z .u (.fn Tryz.call208 Z) (oP (32 - b) _ ao) rT Z [1] (Z) (L3 Z .u (LY (cs := [jI d]) 0 0 Z Nw Z (fun _ _ h=>h.2.2.1) Z) Z [1] Z (KD Z (Ex.add Z Z av) Z (KD Z (Ex.rem Z Z QR aw) Z ?_)));refine KD Z (KX (k:=((a:Int)+b).toNat) Z Z ((Int.toNat_of_nonneg an).symm) ND Nu (Nq j).1) Z ?_;refine TD.unf 0 Z (LA [0,0] Z (TD.stE (k:=((a:Int)+b).toNat) (u:=d) (u':=((d+l) % 2)) 0 0 Z .u Z Z Nu Z j Z Z Z Z (fun _ _ _ _ h=>by subst h; rfl) [1] (Z) (LA [0,0] Z ?_)));rw[show c.length=(c.set (((a:Int)+b).toNat) ((d+l) % 2)).length from (List.length_set ..).symm];exact TD.nil (LO [0,0] ⟨Z,Z⟩ QW QW)
        rintro _ _ ⟨rfl,rfl⟩;refine KZ (X.seq (T.region Z ?_));obtain⟨aT,h⟩:=al h;exact Ku ay 1 Z (Kw Z (Ex.add Z Z aT) Z (Ku ay 1 Z (TL.nil (X.back (m':=ak) [0,0] QR ⟨(c.set (((a:Int)+b).toNat) ((d+l) % 2)),(some ⟨C,D,none⟩),o,(b+1),Z,Z,h⟩ QW QW))))
       refine KW Z am ?_;obtain rfl:=Nl h;replace h:=aj;clear aj;refine T.exit (KR (KR (Ll (KZ (X.seq (T.region Z ?_))))));obtain⟨aU,h⟩:=al h;exact Ku ay 1 Z (Kw Z (Ex.add Z Z aU) Z (Ku ay 1 Z (TL.nil (X.back (m':=I) [0,0] QR ⟨c,J,o,a+1,Z,Z,h⟩ QW QW))))
     refine KW Z ah (T.skip (KZ (X.seq (T.region Z ?_))));obtain⟨aV,h⟩:=al h;exact Ku ay 1 Z (Kw Z (Ex.add Z Z aV) Z (Ku ay 1 Z (TL.nil (X.unf 0 Z (Lj [0,0] Z (X.back (m':=I) [0,0] QR ⟨f,(some ⟨af,ag,none⟩),n,a+1,Z,Z,h⟩ QW QW))))))
    refine KW Z ad ?_;obtain rfl:=Nl h;replace h:=ab;clear ab;refine T.exit (KR (KR (Ll (X.seq (Kv Z (KF ay Z (T.seq (Kv Z (KF ay Z (T.block ?_))))))))));obtain⟨aX,ap,aq⟩:=Nk h;refine Lq (fun m e Rs=> ∃ (K:Int) (s:Int),e = [(2,.int .u32 0),(3,jI (8*(a0.length:Int))),(4,.slice A f.length n),(9,.int .u32 K),(10,jI s)]/\Rs = [bK 3 1 cR (.slice A f.length n) f,aJ]/\fy a0 f m K s=some aX) (((31:Int) - (-1)).toNat+1) [0,0] ⟨0,31,Z,Z,by exact ap⟩ QW QW ?_;clear ap h;rintro ar _ _ ⟨K,s,rfl,rfl,h⟩
    cases ar with
    | zero =>
     rw[fy] at h;cases h
    | succ ar =>
     rw[fy] at h;refine T.seq (Kv Z (Ku ay 2 Z ?_));rcases jF h with⟨au,h⟩ | ⟨au,h⟩
     ·refine KY Z au (KQ (T.seq (T.block (T.region Z (Ku ay 1 Z (Kw Z (Ex.mulw Z Z) Z ?_))))));obtain⟨aY,h⟩:=al h;refine Ku ay 3 Z (Kw Z (Ex.add Z Z aY) Z ?_);obtain⟨aZ,h⟩:=al h;obtain⟨ax,L,h⟩:=Nk h;refine Md (E:=cR) (k:=((8*(a0.length:Int))+s).toNat) 0 Z (fun w G h=>bF QS w G h) QS L ?_;rintro a1 a2 _ ⟨⟩ _ ⟨_,_,rfl⟩;refine K5 [0,0] Z ?_;refine Kw Z (KX (k:=((8*(a0.length:Int))+s).toNat) Z Z ((Int.toNat_of_nonneg aZ).symm) ND Nu (Nq L).1) Z ?_;refine Kw Z (LY (cs := [jI ax]) 0 0 Z Nw Z (fun _ _ h=>h.2.2.1) Z) Z ?_;obtain⟨aF,h⟩:=al h;refine Kw Z (Ex.sub Z Z aF) Z (Kw Z (Mm Z OZ OS) Z (Kw Z (Ex.addw Z Z) Z (Ku ay 1 Z (TL.nil (KZ (X.seq (T.region Z ?_)))))));obtain⟨aG,h⟩:=al h;exact Ku ay 1 Z (Kw Z (Ex.sub Z Z aG) Z (Ku ay 1 Z (TL.nil (X.unf 0 Z (Lj [0,0] Z (X.back (m':=ar) [0,0] QR ⟨(IntKind.u32.wrap ((IntKind.u32.wrap (K*2))+(IntKind.u32.wrap (1 - ax)))),(s - 1),Z,Z,h⟩ QW QW))))))
     refine KW Z au ?_;obtain rfl:=Nl h;replace h:=aq;clear aq;refine T.exit (KR (KR (Ll (X.seq (Kv Z (Ku ay 2 Z ?_))))));obtain rfl:=Nl h;exact Kx (T.ret (KI [1] Tryz.results165 (Ky Z)))
def ue:fw := [(23,0,0),(23,1,1),(212,0,0),(212,1,2),(212,2,3),(245,0,0),(245,1,1)]
theorem au:(ue).OK Tryz.prog:=⟨FOK.mk NV rfl N6 rfl,FOK.mk NV rfl N5 rfl,FOK.mk Oc rfl NA rfl,FOK.mk Oc rfl Nu rfl,FOK.mk Oc rfl Nu rfl,FOK.mk Pk rfl N5 rfl,FOK.mk Pk rfl NA rfl,trivial⟩
def uf:List Nat := [3,4,9]
theorem dI:NOK Tryz.prog uf:=⟨Nw,Or,N8,trivial⟩
theorem kI:Tryz.prog.follows .mixedOrders=true:=by kernel_rfl
theorem qh:BOK Tryz.prog 245 #[.string ⟨#[]⟩,.bool false,.string ⟨#[]⟩] [(0,1),(1,2)]:=BOK.mk Tryz.zeroValue245 Pk (by intro w; simp)
theorem pA:SOK Tryz.prog 89 245 0 3 #[]:=SOK.mk0 Oe OO
theorem pC:SOK Tryz.prog 89 245 1 3 #[.string ⟨#[]⟩,.bool false,.string ⟨#[]⟩]:=SOK.mk Oe OO Tryz.zeroValue245 QS QU
theorem qi:(Tryz.prog.info? 245).map (fun i=>(i.zero,i.size,i.bytes))=some (some (.agg #[.string ⟨#[]⟩,.bool false,.string ⟨#[]⟩]),3,40):=by kernel_rfl
theorem fz:fq Tryz.prog 3 245 [.string,.bool,.string] true:=(fq.struct Qu OO rfl Tryz.underlying245 Tryz.stoodInHeld245 ⟨by decide,rfl,[.string],[.bool,.string],false,rfl,((Lz N8 N5 Tryz.underlying9).mono QS),⟨by decide,rfl,[.bool,.string],[],true,rfl,(fq.struct NW NA rfl Tryz.underlying23 Tryz.stoodInHeld23 ⟨by decide,rfl,[.bool],[.string],false,rfl,(Lz Or N6 Tryz.underlying4),⟨by decide,rfl,[.string],[],false,rfl,(Lz N8 N5 Tryz.underlying9),rfl⟩⟩),rfl⟩⟩)
def eB (a0:List Hd):Nat->Bool->Nat->Option (Lp Bool (Bool×Nat))
 | 0,_,_=>none
 | d+1,c,a=>if (a:Int)<(a0.length:Int) then ((a0[a]?).bind fun b=>if b.MM.null=true then (if b.MM.data = [] then (if A0 ((a:Int)+1) then (eB a0 d c (a+1)) else none) else some (Lp.ret false)) else (if A0 ((a:Int)+1) then (eB a0 d c (a+1)) else none)) else (some (Lp.go (c,a)))
def lZ (a0:List Hd):Option (Bool):=(eB a0 (((a0.length:Int)).toNat+1) false 0).bind fun e=>match e with | .ret r=>some r | .go (a,b)=>some true
theorem ug (a0:List Hd) (u:AT) (c2:Nat) (r:Bool) (h:lZ a0=some r):aC Tryz.prog 222 #[.slice u a0.length c2] (RX.of (ar 3 cF) [.slice u a0.length c2] a0) (aJ) (fun v A' N=>v= .bool r/\A'=aJ/\N = []):=by
 refine aW Tryz.func222 Z Tryz.ntmps222 Z ?_;intro F w hX;unfold lZ at h;refine Kv Z (KF au Z (T.seq (Kv Z (KF au Z (T.block ?_)))));obtain⟨C,t,j⟩:=Nk h;refine Lq (fun m e Rs=> ∃ (l:Bool) (b:Nat),e = [(0,.slice u a0.length c2),(2,.bool l),(3,jI (b:Int))]/\Rs = [aJ]/\eB a0 m l b=some C) (((a0.length:Int)).toNat+1) [0] ⟨false,0,Z,Z,by exact t⟩ QW QW ?_;clear t h;rintro p _ _ ⟨l,b,rfl,rfl,h⟩
 cases p with
 | zero =>
  rw[eB] at h;cases h
 | succ p =>
  rw[eB] at h;refine T.seq (Kv Z (Ku au 2 Z (Kw Z (K2 Z Oe) Z (Ku au 1 Z ?_))));rcases jF h with⟨n,h⟩ | ⟨n,h⟩
  ·refine KY Z n (KQ (T.seq (T.block (Kv Z ?_))));obtain⟨x,c,h⟩:=Nk h;obtain⟨D,E,rfl,s,A,f,i,d⟩:=Lg QS hX c;obtain⟨G,d,B⟩:=d;obtain rfl:s=(wL1 x):=d;refine Ku au 2 Z ?_;refine Kw Z (KX (k:=b) Z Z Z Oe OO (Nq c).1) Z ?_;refine Ku au 2 Z (Kw Z (Lo 1 Z Or i f Z Z) Z ?_);rcases jF h with⟨a,h⟩ | ⟨a,h⟩
   ·refine Ku au 1 Z (KC 16 Z a (KB au 2 Z ?_));refine TL.q Z (.g Z Z Z) (KX (k:=b) Z Z Z Oe OO (Nq c).1) Z ?_;refine KB au 2 Z (TL.q Z (.g Z Z Z) (Lo 2 Z N8 i f Z Z) Z (TL.q Z (.g Z Z Z) (Mk Z (m := []) Z) Z (KB au 1 Z ?_)));rcases jF h with⟨o,h⟩ | ⟨o,h⟩
    ·refine K1 Z o (T.skip (KZ (X.seq (T.region Z ?_))));obtain⟨y,h⟩:=al h;exact Ku au 1 Z (Kw Z (Ex.add Z Z y) Z (Ku au 1 Z (TL.nil (X.back (m':=p) [0] QR ⟨l,b+1,Z,Z,h⟩ QW QW))))
    refine K0 Z o (Kv Z (Ku au 1 Z ?_));obtain rfl:=Nl h;obtain rfl:=Nl j;exact Kx (T.ret (KL (Kz (Kz (KL (Kz (KI [0] Tryz.results222 (Ky Z))))))))
   replace a:=Nt a;refine Ku au 1 Z (KC 16 Z a (Lk au Z (K8 Z Z (T.skip (KZ (X.seq (T.region Z ?_)))))));obtain⟨z,h⟩:=al h;exact Ku au 1 Z (Kw Z (Ex.add Z Z z) Z (Ku au 1 Z (TL.nil (X.back (m':=p) [0] QR ⟨l,b+1,Z,Z,h⟩ QW QW))))
  refine KW Z n ?_;obtain rfl:=Nl h;replace h:=j;clear j;refine T.exit (KR (KR (Ll (X.seq (Kv Z (Ku au 1 Z ?_))))));obtain rfl:=Nl h;exact Kx (T.ret (KI [0] Tryz.results222 (Ky Z)))
def fC (a0:List Hd) (a1:List Hd):Nat->Bool->Nat->Option (Lp Bool (Bool×Nat))
 | 0,_,_=>none
 | d+1,e,a=>if (a:Int)<(a0.length:Int) then ((a0[a]?).bind fun b=>(a1[a]?).bind fun c=>if b.MX=c.MX then (if b.MM.null=c.MM.null then (if b.MM.data=c.MM.data then (if A0 ((a:Int)+1) then (fC a0 a1 d e (a+1)) else none) else some (Lp.ret false)) else some (Lp.ret false)) else some (Lp.ret false)) else (some (Lp.go (e,a)))
def na (a0:List Hd) (a1:List Hd):Option (Bool):=if (a0.length:Int)=(a1.length:Int) then ((fC a0 a1 (((a0.length:Int)).toNat+1) false 0).bind fun e=>match e with | .ret r=>some r | .go (a,b)=>some true) else some false
theorem vO (a0:List Hd) (E:AT) (c2:Nat) (a1:List Hd) (G:AT) (H:Nat) (r:Bool) (h:na a0 a1=some r):aC Tryz.prog 228 #[.slice E a0.length c2,.slice G a1.length H] (RX.and (RX.of (ar 3 cF) [.slice E a0.length c2] a0) (RX.of (ar 3 cF) [.slice G a1.length H] a1)) (aJ) (fun v A' N=>v= .bool r/\A'=aJ/\N = []):=by
 refine aW Tryz.func228 Z Tryz.ntmps228 Z ?_;intro F w hX;unfold na at h;refine Kv Z (KF au Z (T.seq (Kv Z (Ku au 1 Z (Kw Z (K2 Z Oe) Z (Ku au 1 Z (Kw Z (K2 Z Oe) Z (Ku au 1 Z ?_))))))));rcases jF h with⟨I,h⟩ | ⟨I,h⟩
 ·refine K1 Z I (KQ (T.seq (Kv Z (KF au Z (T.block ?_)))));obtain⟨P,D,c⟩:=Nk h;refine Lq (fun m e Rs=> ∃ (u:Bool) (j:Nat),e = [(0,.slice E a0.length c2),(1,.slice G a1.length H),(4,.bool u),(5,jI (j:Int))]/\Rs = [aJ]/\fC a0 a1 m u j=some P) (((a0.length:Int)).toNat+1) [0] ⟨false,0,Z,Z,by exact D⟩ QW QW ?_;clear D h;rintro n _ _ ⟨u,j,rfl,rfl,h⟩
  cases n with
  | zero =>
   rw[fC] at h;cases h
  | succ n =>
   rw[fC] at h;refine T.seq (Kv Z (Ku au 2 Z (Kw Z (K2 Z Oe) Z (Ku au 1 Z ?_))));rcases jF h with⟨o,h⟩ | ⟨o,h⟩
   ·refine KY Z o ?_;refine KQ (T.seq (T.block (T.seq (Lc (.q 0 (.q 1 (.q 2 (.q 3 (.q 4 (.q 5 (.q 6 (.q 7 (.q 8 .nil))))))))) [0] Z kI (NoP.seq (NoP.blk (NoP.seq (NoP.seq (NoP.blk (NoP.seq bj)))))) QU ?_))));obtain⟨a,p,h⟩:=Nk h;obtain⟨Q,R,rfl,x,K,y,z,f⟩:=Lg QS (Ls hX) p;obtain⟨S,f,L⟩:=f;obtain rfl:x=(wL1 a):=f;refine TD.run au [0,1] Z Z ?_;refine KD Z (KX (k:=j) Z Z Z Oe OO (Nq p).1) Z ?_;refine KD Z (LE (us:=wL1 a) 0 Z Qu OO z y Z Z Z) Z ?_;obtain⟨b,s,h⟩:=Nk h;obtain⟨U,V,rfl,A,M,B,C,g⟩:=Lg QS (La hX) s;obtain⟨W,g,O⟩:=g;obtain rfl:A=(wL1 b):=g;refine TD.run au [4,5] Z Z ?_;refine KD Z (KX (k:=j) Z Z Z Oe OO (Nq s).1) Z ?_;refine KD Z (LE (us:=wL1 b) 0 Z Qu OO C B Z Z Z) Z ?_;rcases jF h with⟨d,h⟩ | ⟨d,h⟩
    ·rcases jF h with⟨i,h⟩ | ⟨i,h⟩
     ·rcases jF h with⟨t,h⟩ | ⟨t,h⟩
      ·refine KD Z (Mq (us:=wL1 a) (vs:=wL1 b) fz Z Qa Z Z Z Z (bD (gc (l:=a.MX) (m:=b.MX) d) (bD (jW i) (bD (gc (l:=a.MM.data) (m:=b.MM.data) t) Z)))) Z (Lt (K8 Z Z (T.skip (KZ (X.seq (T.region Z ?_))))));obtain⟨J,h⟩:=al h;exact Ku au 1 Z (Kw Z (Ex.add Z Z J) Z (Ku au 1 Z (TL.nil (X.back (m':=n) [0] QR ⟨u,j+1,Z,Z,h⟩ QW QW))))
      refine KD Z (Mq (us:=wL1 a) (vs:=wL1 b) fz Z Qa Z Z Z Z (bD (gc (l:=a.MX) (m:=b.MX) d) (bD (jW i) (eT (mp (l:=a.MM.data) (m:=b.MM.data) t))))) Z (Lt (KM Z Z (Kv Z (Ku au 1 Z ?_))));obtain rfl:=Nl h;obtain rfl:=Nl c;exact Kx (T.ret (KL (Kz (Kz (KL (Kz (KI [0] Qb (Ky Z))))))))
     refine KD Z (Mq (us:=wL1 a) (vs:=wL1 b) fz Z Qa Z Z Z Z (bD (gc (l:=a.MX) (m:=b.MX) d) (eT (m1 i)))) Z (Lt (KM Z Z (Kv Z (Ku au 1 Z ?_))));obtain rfl:=Nl h;obtain rfl:=Nl c;exact Kx (T.ret (KL (Kz (Kz (KL (Kz (KI [0] Qb (Ky Z))))))))
    refine KD Z (Mq (us:=wL1 a) (vs:=wL1 b) fz Z Qa Z Z Z Z (eT (mp (l:=a.MX) (m:=b.MX) d))) Z (Lt (KM Z Z (Kv Z (Ku au 1 Z ?_))));obtain rfl:=Nl h;obtain rfl:=Nl c;exact Kx (T.ret (KL (Kz (Kz (KL (Kz (KI [0] Qb (Ky Z))))))))
   refine KW Z o ?_;obtain rfl:=Nl h;replace h:=c;clear c;refine T.exit (KR (KR (Ll (X.seq (Kv Z (Ku au 1 Z ?_))))));obtain rfl:=Nl h;exact Kx (T.ret (KI [0] Qb (Ky Z)))
 refine K0 Z I (Kv Z (Ku au 1 Z ?_));obtain rfl:=Nl h;exact Kx (T.ret (Kz (KI [0] Qb (Ky Z))))
def fD (a0:AI) (i:Int):Nat->List Hd->Int->Int->Int->List Hd->Nat->Option (Lp (List Hd×Int×Int) (List Hd×Int×Int×Int×List Hd×Nat))
 | 0,_,_,_,_,_,_=>none
 | j+1,f,g,h,a,e,d=>if (d:Int)<i then (if 0<=a/\a.toNat<=a0.length then ((ko (a0.drop a.toNat)).bind fun b=>if b.err=0 then (if b.blob.null=true then (some (Lp.ret ([],0,4))) else (if A0 (a+b.many) then (if 0<=(a+b.many)/\(a+b.many).toNat<=a0.length then ((ko (a0.drop ((a+b.many).toNat))).bind fun c=>if c.err=0 then (if (e.length+1)*40<=140737488355328 then (if A0 (a+b.many) then (if A0 ((a+b.many)+c.many) then (if A0 ((d:Int)+1) then (fD a0 i j f g h ((a+b.many)+c.many) (e ++ [(⟨b.blob.data,c.blob⟩:Hd)]) (d+1)) else none) else none) else none) else none) else (some (Lp.ret ([],0,c.err)))) else none) else none)) else (some (Lp.ret ([],0,b.err)))) else none) else (some (Lp.go (f,g,h,a,e,d)))
def nb (a0:AI):Option (List Hd×Int×Int):=(vp a0 32).bind fun (g,a,c)=>if c=0 then ((tY g).bind fun b=>if b<0 then some ([],0,4) else (if A0 ((a0.length:Int) - a) then (if 0<=((a0.length:Int) - a)/\((a0.length:Int) - a)<=9223372036854775807 then (if b>(((a0.length:Int) - a) / 2) then some ([],0,1) else ((fD a0 b ((b).toNat+1) [] 0 0 a ([]:List Hd) 0).bind fun e=>match e with | .ret r=>some r | .go (h,i,j,d,f,k)=>some (f,d,0))) else none) else none)) else some ([],0,c)
theorem vP (a0:AI) (r:List Hd×Int×Int) (h:nb a0=some r):aC Tryz.prog 237 #[jS a0] .triv (aJ) (fun v A' N=> ∃ (J:AT) (K:Nat),v= .tuple #[.slice J r.1.length K,jI r.2.1,jI r.2.2]/\A'=aJ/\N = [RdR (ar 3 cF) [.slice J r.1.length K] r.1]):=by
 refine aW Tryz.func237 Z Tryz.ntmps237 Z ?_;intro F w hX;unfold nb at h;refine Kv Z (K3 au Z Z ?_);obtain⟨⟨x1,x2,x3⟩,S,h⟩:=Nk h;refine Ku au 1 Z (KN Z .u (.fn Tryz.call235 Z) (K6 (fun w=>si a0 32 _ S w)) (fun _ _=>RX.reads_triv _ _) Z (KF au Z (T.seq (Kv Z (Ku au 2 Z ?_)))));rcases jF h with⟨M,h⟩ | ⟨M,h⟩
 ·refine K1 Z M (KP Z ?_);obtain⟨O,U,h⟩:=Nk h;refine Ku au 1 Z (KN Z .u (.fn Tryz.call236 Z) (K6 (fun w=>qG x1 _ U w)) (fun _ _=>RX.reads_triv _ _) Z (KF au Z (T.seq (Kv Z (Ku au 2 Z ?_)))));rcases jF h with⟨P,h⟩ | ⟨P,h⟩
  ·refine KY Z P (Kv Z (Ku au 3 Z ?_));obtain rfl:=Nl h;exact Kx (T.ret (Kz (KG 3 cF (K9 [1,0] PK (Ky Z) (Ky Z) (Ky Z) ⟨_,_,Z,Z,Z⟩ QW (.inl Z)))))
  refine KW Z P (KQ (T.seq (Kv Z (Ku au 2 Z (Kw Z (Lh Z Nv) Z ?_)))));obtain⟨c9,h⟩:=al h;refine Ku au 1 Z (Kw Z (Ex.sub Z Z c9) Z ?_);obtain⟨V,h⟩:=al h;refine Kw Z (Ex.quo Z Z QR V) Z (Ku au 1 Z ?_);rcases jF h with⟨t,h⟩ | ⟨t,h⟩
  ·refine KY Z t (Kv Z (Ku au 3 Z ?_));obtain rfl:=Nl h;exact Kx (T.ret (Kz (KG 3 cF (K9 [1,0] PK (Ky Z) (Ky Z) (Ky Z) ⟨_,_,Z,Z,Z⟩ QW (.inl Z)))))
  refine KW Z t (KP Z (LI (cells:= #[]) Z .u pA Z QW Z (fun W=>(Ma (us := []) (xs:=([]:List Hd)) (E:=cF) (z:=3) Z (Nat.le_of_ble_eq_true Z) (fun _=>Z) (KF au Z (T.seq (Kv Z (Ku au 1 Z ?_))))))));refine Kx (T.block (LF 245 3 cF ?_));obtain⟨Y,x,d⟩:=Nk h;refine Lq (fun m e Rs=> ∃ (g:List Hd) (j:AT) (k:Nat) (n:Int) (o:Int) (a:Int) (f:List Hd) (y:AT) (A:Nat) (s:Nat),e = [(0,jS a0),(2,.slice j g.length k),(3,jI n),(4,jI o),(6,jI a),(8,jI O),(9,.slice y f.length A),(10,jI (s:Int))]/\Rs = [bK 245 3 cF (.slice j g.length k) g,bK 245 3 cF (.slice y f.length A) f,aJ]/\fD a0 O m g n o a f s=some Y) ((O).toNat+1) [0,0,0] ⟨[],none,0,0,0,x2,([]:List Hd),(some ⟨W,0,none⟩),0,0,Z,Z,by exact x⟩ QW QW ?_;clear x h;rintro B _ _ ⟨g,j,k,n,o,a,f,y,A,s,rfl,rfl,h⟩
  cases B with
  | zero =>
   rw[fD] at h;cases h
  | succ B =>
   rw[fD] at h;refine T.seq (Kv Z (Ku au 3 Z ?_));rcases jF h with⟨C,h⟩ | ⟨C,h⟩
   ·refine KY Z C (KQ (T.seq (T.block (Kv Z ?_))));obtain⟨D,h⟩:=al h;refine Ku au 2 Z ?_;replace D:0<=a/\a.toNat<=a0.length:=D;refine Kw Z (Lm (p:=a.toNat) (q:=a0.length) (m:=(a0.drop a.toNat)) Z Nv (.some Z ((Int.toNat_of_nonneg D.1).symm)) .none (by first | omega | (dsimp only; omega)) (eo _ _)) Z ?_;obtain⟨b,Q,h⟩:=Nk h;refine KN Z .u (.fn Tryz.call230 Z) (iZ (a0.drop a.toNat) _ Q) rT Z (TL.alloc Z .u Tryz.zeroValue212 Z (fun ah=>(KE 0 Z (cs':=wA2 b) Z .u Z Z Pf Z Z Z Z Z (Kx (T.seq (Kv Z (KA au dI 0 Z 3 Z Z ?_)))))));rcases jF h with⟨G,h⟩ | ⟨G,h⟩
    ·refine K1 Z G (KQ (T.seq (Kv Z (KA au dI 0 Z 3 Z Z ?_))));rcases jF h with⟨i,h⟩ | ⟨i,h⟩
     ·refine Kx (KM Z i (Kv Z (Ku au 3 Z ?_)));obtain rfl:=Nl h;obtain rfl:=Nl d;exact Kx (T.ret (Kz (KL (Kz (Kz (KL (Kz (KG 3 cF (K9 [4,0] PK (Ky Z) (Ky Z) (Ky Z) ⟨_,_,Z,Z,Z⟩ QW (.inl Z))))))))))
     replace i:=Nt i;refine Kx (K8 Z i (KP Z ?_));obtain⟨aa,h⟩:=al h;refine KA au dI 0 Z 4 Z Z (Kw Z (Ex.add Z Z aa) Z ?_);obtain⟨H,h⟩:=al h;replace H:0<=(a+b.many)/\(a+b.many).toNat<=a0.length:=H;refine Kw Z (Lm (p:=(a+b.many).toNat) (q:=a0.length) (m:=(a0.drop ((a+b.many).toNat))) Z Nv (.some Z ((Int.toNat_of_nonneg H.1).symm)) .none (by first | omega | (dsimp only; omega)) (eo _ _)) Z ?_;obtain⟨c,R,h⟩:=Nk h;refine KN Z .u (.fn Tryz.call230 Z) (iZ (a0.drop ((a+b.many).toNat)) _ R) rT Z (TL.alloc Z .u Tryz.zeroValue212 Z (fun ai=>(KE 0 Z (cs':=wA2 c) Z .u Z Z Pf Z Z Z Z Z (Kx (T.seq (Kv Z (KA au dI 0 Z 3 Z Z ?_)))))));rcases jF h with⟨I,h⟩ | ⟨I,h⟩
     ·refine K1 Z I (KP Z (KA au dI 1 Z 5 Z Z (Kw Z (KH (us:=wL0 c.blob) 0 Z NW NA Z Z Z) Z ?_)));refine Kw Z (KT (cells:= #[jS b.blob.data,.bool c.blob.null,jS c.blob.data]) qh Z QU) Z ?_;refine LI (cells:= #[jS b.blob.data,.bool c.blob.null,jS c.blob.data]) Z .u pC Z QU Z (fun aj=> ?_);obtain⟨L,h⟩:=al h;refine TL.app1 3 Z .u (us := [jS b.blob.data,.bool c.blob.null,jS c.blob.data]) (u:=(⟨b.blob.data,c.blob⟩:Hd)) (l:=f) (E:=cF) Tryz.underlying89 qi Z QS Z Z Z Z Z Z (fun _ _=>Z) (by have hq:=L; omega) (by have hq:=L; omega) Z (fun ab ad=> ?_);refine K5 [0,0,0,0,0] Z (KF au Z (T.region Z ?_));obtain⟨ae,h⟩:=al h;refine KA au dI 1 Z 3 Z Z (Kw Z (Ex.add Z Z ae) Z ?_);obtain⟨af,h⟩:=al h;refine KA au dI 0 Z 2 Z Z (Kw Z (Ex.add Z Z af) Z (Ku au 1 Z (TL.nil (KZ (X.seq (T.region Z ?_))))));obtain⟨ag,h⟩:=al h;exact Ku au 1 Z (Kw Z (Ex.add Z Z ag) Z (Ku au 1 Z (TL.nil (X.back (m':=B) [2,2,2] QR ⟨g,j,k,n,o,((a+b.many)+c.many),(f ++ [(⟨b.blob.data,c.blob⟩:Hd)]),ab,ad,s+1,Z,Z,h⟩ QW QW))))
     refine K0 Z I ?_;refine T.seq (Lc (.q 0 (.q 1 (.q 2 (.q 3 (.q 4 .nil))))) [0,0,0,0,0] Z kI (NoP.seq (NoP.seq (NoP.blk (NoP.seq (NoP.seq (NoP.blk (NoP.seq bj))))))) QU ?_);refine TD.run au [0] Z Z (KD Z (K4 0 Z Nw Z Z) Z (TD.run au [2,3,4] Z Z ?_));obtain rfl:=Nl h;obtain rfl:=Nl d;exact Lt (T.ret (Kz (KL (Kz (Kz (KL (Kz (KG 3 cF (K9 [5,0] PK (Ky Z) (Ky Z) (Ky Z) ⟨_,_,Z,Z,Z⟩ QW (.inl Z))))))))))
    refine K0 Z G ?_;refine T.seq (Lc (.q 0 (.q 1 (.q 2 (.q 3 (.q 4 .nil))))) [0,0,0,0] Z kI (NoP.seq (NoP.seq (NoP.blk (NoP.seq (NoP.seq (NoP.blk (NoP.seq bj))))))) QU ?_);refine TD.run au [0] Z Z (KD Z (K4 0 Z Nw Z Z) Z (TD.run au [2,3,4] Z Z ?_));obtain rfl:=Nl h;obtain rfl:=Nl d;exact Lt (T.ret (Kz (KL (Kz (Kz (KL (Kz (KG 3 cF (K9 [4,0] PK (Ky Z) (Ky Z) (Ky Z) ⟨_,_,Z,Z,Z⟩ QW (.inl Z))))))))))
   refine KW Z C ?_;obtain rfl:=Nl h;replace h:=d;clear d;refine T.exit (KR (KR (Ll (X.seq (Kv Z (Ku au 5 Z ?_))))));obtain rfl:=Nl h;exact Kx (T.ret (LM QS 1 Z (Lj [0,0,0] Z (K9 [2,1] PK (Ky Z) (Ky Z) (Ky Z) ⟨_,_,Z,Z,Z⟩ QW (.inl Z)))))
 refine K0 Z M (Kv Z (Ku au 4 Z ?_));obtain rfl:=Nl h;exact Kx (T.ret (Kz (KG 3 cF (K9 [1,0] PK (Ky Z) (Ky Z) (Ky Z) ⟨_,_,Z,Z,Z⟩ QW (.inl Z)))))
def uh:fw := [(23,0,0),(23,1,1),(91,0,0),(91,1,1),(91,2,2),(91,3,4),(91,4,6),(212,0,0),(212,1,2),(212,2,3),(310,1,7)]
theorem ao:(uh).OK Tryz.prog:=⟨FOK.mk NV rfl N6 rfl,FOK.mk NV rfl N5 rfl,FOK.mk NX rfl Nu rfl,FOK.mk NX rfl Nu rfl,FOK.mk NX rfl NA rfl,FOK.mk NX rfl NA rfl,FOK.mk NX rfl PF rfl,FOK.mk Oc rfl NA rfl,FOK.mk Oc rfl Nu rfl,FOK.mk Oc rfl Nu rfl,FOK.mk PL rfl Nu rfl,trivial⟩
def ui:List Nat := [3,4,9,89]
theorem aX:NOK Tryz.prog ui:=⟨Nw,Or,N8,Tryz.isAgg89,trivial⟩
theorem qL:BOK Tryz.prog 91 #[.int .i64 0,.int .i64 0,.bool false,.string ⟨#[]⟩,.bool false,.string ⟨#[]⟩,.slice none 0 0] [(0,1),(1,1),(2,2),(4,2),(6,1)]:=BOK.mk Tryz.zeroValue91 NX (by intro w; simp)
theorem li:BOK Tryz.prog 310 #[.int .i64 0,.int .i64 0,.bool false,.string ⟨#[]⟩,.bool false,.string ⟨#[]⟩,.slice none 0 0,.int .i64 0,.int .i64 0] [(0,7),(7,1),(8,1)]:=BOK.mk Tryz.zeroValue310 PL (by intro w; simp)
theorem dQ:fq Tryz.prog 2 23 [.bool,.string] true:=(fq.struct NW NA rfl Tryz.underlying23 Tryz.stoodInHeld23 ⟨by decide,rfl,[.bool],[.string],false,rfl,(Lz Or N6 Tryz.underlying4),⟨by decide,rfl,[.string],[],false,rfl,(Lz N8 N5 Tryz.underlying9),rfl⟩⟩)
def mQ (a0:Bl):Option (Bool):=if a0.null=true then (if a0.data = [] then some false else some true) else some false
theorem qM (a0:Bl) (r:Bool) (h:mQ a0=some r):aC Tryz.prog 221 #[.agg (wA3 a0)] .triv (aJ) (fun v A' N=>v= .bool r/\A'=aJ/\N = []):=by
 refine aW Tryz.func221 Z Tryz.ntmps221 Z ?_;intro F w hX;unfold mQ at h;refine Kv Z (TL.box Z .u Z Z (fun c=>(K3 ao Z Z ?_)));rcases jF h with⟨c2,h⟩ | ⟨c2,h⟩
 ·refine KA ao aX 0 Z 3 Z Z (KC 5 Z c2 (KA ao aX 0 Z 2 Z Z (TL.q Z (.g Z Z Z) (Mk Z (m := []) Z) Z (KB ao 2 Z ?_))));rcases jF h with⟨a,h⟩ | ⟨a,h⟩
  ·obtain rfl:=Nl h;exact Kx (T.ret (KO [1] Tryz.results221 (Ky (v:= .bool false) (congrArg (fun b=>some (Value.bool b)) (bb (Nn a)))) ⟨Z,Z,Z⟩ QW (.inl Z)))
  obtain rfl:=Nl h;exact Kx (T.ret (KO [1] Tryz.results221 (Ky (v:= .bool true) (congrArg (fun b=>some (Value.bool b)) (bp (Np a)))) ⟨Z,Z,Z⟩ QW (.inl Z)))
 replace c2:=Nt c2;refine KA ao aX 0 Z 3 Z Z (KC 5 Z c2 (KB ao 5 Z ?_));obtain rfl:=Nl h;exact Kx (T.ret (KI [1] Tryz.results221 (Ky Z)))
def kq (a0:Rec):Option (Int):=if a0.MS<0 then some 11 else (if a0.MS>2147483647 then some 11 else ((mQ a0.MX).bind fun b=>if b=true then some 4 else ((mQ a0.MM).bind fun c=>if c=true then some 4 else ((lZ a0.ML).bind fun a=>if a=true then some 0 else some 4))))
theorem oR (a0:Rec) (j:AT) (c2:Nat) (r:Int) (h:kq a0=some r):aC Tryz.prog 200 #[.agg (wA4 a0 j c2)] (RX.of (ar 3 cF) [.slice j a0.ML.length c2] a0.ML) (aJ) (fun v A' N=>v=jI r/\A'=aJ/\N = []):=by
 refine aW Tryz.func200 Z Tryz.ntmps200 Z ?_;intro F w hX;unfold kq at h;refine Kv Z (TL.box Z .u Z Z (fun m=>(KF ao Z (T.seq (Kv Z ?_)))));rcases jF h with⟨d,h⟩ | ⟨d,h⟩
 ·refine KA ao aX 0 Z 4 Z Z (KC 6 Z (Nn d) (Lk ao Z (KM Z Z (Kv Z (Ku ao 1 Z ?_)))));obtain rfl:=Nl h;exact Kx (T.ret (Kz (KI [1] PU (Ky Z))))
 refine KA ao aX 0 Z 4 Z Z (KC 6 Z (Np d) (KA ao aX 0 Z 4 Z Z ?_));rcases jF h with⟨e,h⟩ | ⟨e,h⟩
 ·refine KY Z e (Kv Z (Ku ao 1 Z ?_));obtain rfl:=Nl h;exact Kx (T.ret (Kz (KI [1] PU (Ky Z))))
 refine KW Z e (KQ (T.seq (Kv Z (Ku ao 1 Z (Kw Z (KH (us:=wL0 a0.MX) 0 Z NW NA Z Z Z) Z ?_)))));obtain⟨n,k,h⟩:=Nk h;refine KN Z .u (.fn Tryz.call221 Z) (qM a0.MX _ k) rT Z ?_;rcases jF h with⟨c,h⟩ | ⟨c,h⟩
 ·refine Ku ao 1 Z (KC 14 Z c (Lk ao Z (KM Z Z (Kv Z (Ku ao 1 Z ?_)))));obtain rfl:=Nl h;exact Kx (T.ret (Kz (KI [1] PU (Ky Z))))
 replace c:=Nt c;refine Ku ao 1 Z (KC 14 Z c (KB ao 1 Z (TL.q Z (.g Z Z Z) (KH (us:=wL0 a0.MM) 0 Z NW NA Z Z Z) Z ?_)));obtain⟨o,f,h⟩:=Nk h;refine KN Z (.g Z Z Z) (.fn Tryz.call221 Z) (qM a0.MM _ f) rT Z ?_;rcases jF h with⟨a,h⟩ | ⟨a,h⟩
 ·refine KB ao 2 Z (KC 19 Z a (Lk ao Z (KM Z Z (Kv Z (Ku ao 1 Z ?_)))));obtain rfl:=Nl h;exact Kx (T.ret (Kz (KI [1] PU (Ky Z))))
 replace a:=Nt a;refine KB ao 2 Z (KC 19 Z a ?_);obtain⟨l,i,h⟩:=Nk h;refine KA ao aX 0 Z 2 Z Z (KN Z (.g Z Z Z) (.fn Tryz.call222 Z) (ug a0.ML _ _ _ i) (fun _ hs=>(K7 hs hX)) Z (KB ao 2 Z ?_));rcases jF h with⟨b,h⟩ | ⟨b,h⟩
 ·refine Kx (K8 Z (bb b) (KP Z (Ku ao 1 Z ?_)));obtain rfl:=Nl h;exact Kx (T.ret (KI [1] PU (Ky Z)))
 replace b:=Nt b;refine Kx (KM Z (bp b) (Kv Z (Ku ao 1 Z ?_)));obtain rfl:=Nl h;exact Kx (T.ret (Kz (KI [1] PU (Ky Z))))
def nc (a0:Rec) (a1:Rec):Option (Bool):=if a0.M5=a1.M5 then (if a0.MS=a1.MS then (if a0.MX.null=a1.MX.null then (if a0.MX.data=a1.MX.data then (if a0.MM.null=a1.MM.null then (if a0.MM.data=a1.MM.data then ((na a0.ML a1.ML).bind fun a=>some a) else some false) else some false) else some false) else some false) else some false) else some false
theorem vQ (a0:Rec) (j:AT) (c2:Nat) (a1:Rec) (k:AT) (n:Nat) (r:Bool) (h:nc a0 a1=some r):aC Tryz.prog 209 #[.agg (wA4 a0 j c2),.agg (wA4 a1 k n)] (RX.and (RX.of (ar 3 cF) [.slice j a0.ML.length c2] a0.ML) (RX.of (ar 3 cF) [.slice k a1.ML.length n] a1.ML)) (aJ) (fun v A' N=>v= .bool r/\A'=aJ/\N = []):=by
 refine aW Tryz.func209 Z Tryz.ntmps209 Z ?_;intro F w hX;unfold nc at h;refine Kv Z (TL.box Z .u Z Z (fun p=>(TL.box Z .u Z Z (fun s=>(K3 ao Z Z (KA ao aX 1 Z 3 Z Z ?_))))));rcases jF h with⟨e,h⟩ | ⟨e,h⟩
 ·refine KA ao aX 0 Z 3 Z Z (KC 10 Z (Nn e) (KA ao aX 1 Z 3 Z Z ?_));rcases jF h with⟨f,h⟩ | ⟨f,h⟩
  ·refine KA ao aX 0 Z 4 Z Z (KC 17 Z (Nn f) (KB ao 1 Z (TL.q Z (.g Z Z Z) (KH (us:=wL0 a0.MX) 1 Z NW NA Z Z Z) Z (KB ao 1 Z (TL.q Z (.g Z Z Z) (KH (us:=wL0 a1.MX) 0 Z NW NA Z Z Z) Z ?_)))));rcases jF h with⟨d,h⟩ | ⟨d,h⟩
   ·rcases jF h with⟨b,h⟩ | ⟨b,h⟩
    ·refine TL.q Z (.g Z Z Z) (Lx (us:=wL0 a0.MX) (vs:=wL0 a1.MX) dQ Z OQ Z Z Z Z (bD (jW d) (bD (gc (l:=a0.MX.data) (m:=a1.MX.data) b) Z))) Z (KB ao 3 Z (TL.q Z (.g Z Z Z) (KH (us:=wL0 a0.MM) 1 Z NW NA Z Z Z) Z (KB ao 1 Z (TL.q Z (.g Z Z Z) (KH (us:=wL0 a1.MM) 0 Z NW NA Z Z Z) Z ?_))));rcases jF h with⟨a,h⟩ | ⟨a,h⟩
     ·rcases jF h with⟨c,h⟩ | ⟨c,h⟩
      ·refine TL.q Z (.g Z Z Z) (Lx (us:=wL0 a0.MM) (vs:=wL0 a1.MM) dQ Z OQ Z Z Z Z (bD (jW a) (bD (gc (l:=a0.MM.data) (m:=a1.MM.data) c) Z))) Z (KA ao aX 1 Z 5 Z Z ?_);obtain⟨o,i,h⟩:=Nk h;refine KA ao aX 0 Z 1 Z Z (KN Z (.g Z Z Z) (.fn Tryz.call228 Z) (vO a0.ML _ _ a1.ML _ _ _ i) (fun _ hs=>(Lb (K7 hs (Ls hX)) (K7 hs (La hX)))) Z (KB ao 2 Z ?_));obtain rfl:=Nl h;exact Kx (T.ret (KI [2] PM (Ky Z)))
      refine TL.q Z (.g Z Z Z) (Lx (us:=wL0 a0.MM) (vs:=wL0 a1.MM) dQ Z OQ Z Z Z Z (bD (jW a) (eT (mp (l:=a0.MM.data) (m:=a1.MM.data) c)))) Z (KB ao 9 Z ?_);obtain rfl:=Nl h;exact Kx (T.ret (KI [2] PM (Ky Z)))
     refine TL.q Z (.g Z Z Z) (Lx (us:=wL0 a0.MM) (vs:=wL0 a1.MM) dQ Z OQ Z Z Z Z (eT (m1 a))) Z (KB ao 9 Z ?_);obtain rfl:=Nl h;exact Kx (T.ret (KI [2] PM (Ky Z)))
    refine TL.q Z (.g Z Z Z) (Lx (us:=wL0 a0.MX) (vs:=wL0 a1.MX) dQ Z OQ Z Z Z Z (bD (jW d) (eT (mp (l:=a0.MX.data) (m:=a1.MX.data) b)))) Z (KB ao 16 Z ?_);obtain rfl:=Nl h;exact Kx (T.ret (KI [2] PM (Ky Z)))
   refine TL.q Z (.g Z Z Z) (Lx (us:=wL0 a0.MX) (vs:=wL0 a1.MX) dQ Z OQ Z Z Z Z (eT (m1 d))) Z (KB ao 16 Z ?_);obtain rfl:=Nl h;exact Kx (T.ret (KI [2] PM (Ky Z)))
  refine KA ao aX 0 Z 4 Z Z (KC 17 Z (Np f) (KB ao 21 Z ?_));obtain rfl:=Nl h;exact Kx (T.ret (KI [2] PM (Ky Z)))
 refine KA ao aX 0 Z 3 Z Z (KC 10 Z (Np e) (KB ao 28 Z ?_));obtain rfl:=Nl h;exact Kx (T.ret (KI [2] PM (Ky Z)))
def dK (a0:Int):Option (mo):=some (⟨(⟨0,0,(⟨false,[]⟩:Bl),(⟨false,[]⟩:Bl),[]⟩:Rec),0,a0⟩:mo)
theorem cP (a0:Int) (r:mo) (h:dK a0=some r):aC Tryz.prog 231 #[jI a0] .triv (aJ) (fun v A' N=> ∃ (A2:AT) (a:Nat),v= .agg (wA5 r A2 a)/\A'=aJ/\N = [RdR (ar 3 cF) [.slice A2 r.M8.ML.length a] r.M8.ML]):=by
 refine aW Tryz.func231 Z Tryz.ntmps231 Z ?_;intro F w hX;unfold dK at h;refine Kv Z (TL.alloc Z .u Tryz.zeroValue310 Z (fun b=>(KU Z (Ku ao 1 Z ?_))));refine Kw Z (KT (cells:=vA1 a0) li Z QU) Z ?_;refine KE 0 Z (cs':=vA1 a0) Z .u Z Z N7 Z Z Z Z Z ?_;obtain rfl:=Nl h;exact Kx (T.ret (KG 3 cF (KO [2,0] Tryz.results231 (KV (us:=vA1 a0) 1 Z OX N7 Z Z) ⟨_,_,Z,Z,Z⟩ QW (.inl Z))))
def l6 (a0:AI):Option (mo):=if (a0.length:Int)<1 then ((dK 1).bind fun v=>some v) else ((a0[0]?).bind fun ch7=>if (ch7.toNat:Int)=0 then (if 1<=a0.length then ((vp (a0.drop 1) 64).bind fun (i,a,e)=>if e=0 then (if A0 (1+a) then (if 0<=(1+a)/\(1+a).toNat<=a0.length then ((vp (a0.drop ((1+a).toNat)) 32).bind fun (j,c,f)=>if f=0 then ((tY i).bind fun k=>(tY j).bind fun g=>if g<0 then ((dK 11).bind fun l=>some l) else (if 0<=c/\c.toNat<=(a0.drop ((1+a).toNat)).length then ((ko ((a0.drop ((1+a).toNat)).drop c.toNat)).bind fun b=>if b.err=0 then (if 0<=b.many/\b.many.toNat<=((a0.drop ((1+a).toNat)).drop c.toNat).length then ((ko (((a0.drop ((1+a).toNat)).drop c.toNat).drop b.many.toNat)).bind fun d=>if d.err=0 then (if 0<=d.many/\d.many.toNat<=(((a0.drop ((1+a).toNat)).drop c.toNat).drop b.many.toNat).length then ((nb ((((a0.drop ((1+a).toNat)).drop c.toNat).drop b.many.toNat).drop d.many.toNat)).bind fun (m,n,h)=>if h=0 then (if n=(((((a0.drop ((1+a).toNat)).drop c.toNat).drop b.many.toNat).drop d.many.toNat).length:Int) then (some (⟨(⟨k,g,b.blob,d.blob,m⟩:Rec),0,0⟩:mo)) else ((dK 2).bind fun o=>some o)) else ((dK h).bind fun p=>some p)) else none) else ((dK d.err).bind fun q=>some q)) else none) else ((dK b.err).bind fun r=>some r)) else none)) else ((dK f).bind fun s=>some s)) else none) else none) else ((dK e).bind fun t=>some t)) else none) else ((dK 8).bind fun u=>some u))
theorem uj (a0:AI) (r:mo) (h:l6 a0=some r):aC Tryz.prog 232 #[jS a0] .triv (aJ) (fun v A' N=> ∃ (C:AT) (D:Nat),v= .agg (wA5 r C D)/\A'=aJ/\N = [RdR (ar 3 cF) [.slice C r.M8.ML.length D] r.M8.ML]):=by
 refine aW Tryz.func232 Z Tryz.ntmps232 Z ?_;intro F w hX;unfold l6 at h;refine Kv Z (TL.alloc Z .u Tryz.zeroValue310 Z (fun b1=>(Kx (T.seq (Kv Z (Ku ao 1 Z (Kw Z (Lh Z Nv) Z (Ku ao 1 Z ?_))))))));rcases jF h with⟨c2,h⟩ | ⟨c2,h⟩
 ·refine KY Z c2 ?_;obtain⟨x3,aD,h⟩:=Nk h;refine Kv Z (Ln Z .u (.fn Tryz.call231 Z) (cP 1 _ aD) rT Z ?_);rintro _ _ _ ⟨A4,c5,rfl,rfl,rfl⟩;refine K5 [0,0,0] Z (KE 1 Z (cs':=wA5 x3 A4 c5) Z .u Z Z N7 Z Z Z Z Z ?_);obtain rfl:=Nl h;exact Kx (T.ret (Kz (KO [2,0] Ph (KV (us:=wA5 x3 A4 c5) 1 Z OX N7 Z Z) ⟨_,_,Z,Z,Z⟩ QW (.inl Z))))
 refine KW Z c2 (KQ (T.seq (Kv Z ?_)));obtain⟨ch7,hc8,h⟩:=Nk h;refine Ku ao 1 Z (Kw Z (L6 Z Z Z Tryz.underlying9 hc8) Z (Ku ao 1 Z ?_));rcases jF h with⟨c9,h⟩ | ⟨c9,h⟩
 ·refine K1 Z c9 (KP Z ?_);obtain⟨E,h⟩:=al h;refine Ku ao 1 Z ?_;replace E:1<=a0.length:=E;refine Kw Z (Lm (p:=1) (q:=a0.length) (m:=(a0.drop 1)) Z Nv (.some Z Z) .none (by first | omega | (dsimp only; omega)) (eo _ _)) Z ?_;obtain⟨⟨aE,b,aF⟩,ai,h⟩:=Nk h;refine KN Z .u (.fn Tryz.call235 Z) (K6 (fun w=>si (a0.drop 1) 64 _ ai w)) (fun _ _=>RX.reads_triv _ _) Z (KF ao Z (T.seq (Kv Z (Ku ao 2 Z ?_))));rcases jF h with⟨k,h⟩ | ⟨k,h⟩
  ·refine K1 Z k (KP Z ?_);obtain⟨aG,h⟩:=al h;refine Ku ao 2 Z (Kw Z (Ex.add Z Z aG) Z ?_);obtain⟨l,h⟩:=al h;replace l:0<=(1+b)/\(1+b).toNat<=a0.length:=l;refine Kw Z (Lm (p:=(1+b).toNat) (q:=a0.length) (m:=(a0.drop ((1+b).toNat))) Z Nv (.some Z ((Int.toNat_of_nonneg l.1).symm)) .none (by first | omega | (dsimp only; omega)) (eo _ _)) Z ?_;refine K3 ao Z Z ?_;obtain⟨⟨aH,d,aI⟩,aj,h⟩:=Nk h;refine Ku ao 1 Z (KN Z .u (.fn Tryz.call235 Z) (K6 (fun w=>si (a0.drop ((1+b).toNat)) 32 _ aj w)) (fun _ _=>RX.reads_triv _ _) Z (KF ao Z (T.seq (Kv Z (Ku ao 2 Z ?_)))));rcases jF h with⟨n,h⟩ | ⟨n,h⟩
   ·refine K1 Z n (KP Z ?_);obtain⟨e,ak,h⟩:=Nk h;refine Ku ao 1 Z (KN Z .u (.fn Tryz.call236 Z) (K6 (fun w=>qG aE _ ak w)) (fun _ _=>RX.reads_triv _ _) Z ?_);obtain⟨f,am,h⟩:=Nk h;refine Ku ao 1 Z (KN Z .u (.fn Tryz.call236 Z) (K6 (fun w=>qG aH _ am w)) (fun _ _=>RX.reads_triv _ _) Z ?_);refine Kw Z (KT (cells:=vA2 e f) qL Z QU) Z ?_;refine TL.alloc Z .u Tryz.zeroValue91 Z (fun aL=>(KE 0 Z (cs':=vA2 e f) Z .u Z Z NE Z Z Z Z Z (Kx (T.seq (Kv Z (KA ao aX 0 Z 3 Z Z ?_))))));rcases jF h with⟨o,h⟩ | ⟨o,h⟩
    ·refine KY Z o ?_;obtain⟨G,an,h⟩:=Nk h;refine Kv Z (Ln Z .u (.fn Tryz.call231 Z) (cP 11 _ an) rT Z ?_);rintro _ _ _ ⟨H,I,rfl,rfl,rfl⟩;refine K5 [0,0,0,0] Z (KE 2 Z (cs':=wA5 G H I) Z .u Z Z N7 Z Z Z Z Z ?_);obtain rfl:=Nl h;exact Kx (T.ret (Kz (KO [3,0] Ph (KV (us:=wA5 G H I) 2 Z OX N7 Z Z) ⟨_,_,Z,Z,Z⟩ QW (.inl Z))))
    refine KW Z o (KP Z ?_);obtain⟨s,h⟩:=al h;refine Ku ao 2 Z ?_;replace s:0<=d/\d.toNat<=(a0.drop ((1+b).toNat)).length:=s;refine Kw Z (Lm (p:=d.toNat) (q:=(a0.drop ((1+b).toNat)).length) (m:=((a0.drop ((1+b).toNat)).drop d.toNat)) Z Nv (.some Z ((Int.toNat_of_nonneg s.1).symm)) .none (by first | omega | (dsimp only; omega)) (eo _ _)) Z ?_;refine K3 ao Z Z ?_;obtain⟨a,ap,h⟩:=Nk h;refine Ku ao 1 Z (KN Z .u (.fn Tryz.call230 Z) (iZ ((a0.drop ((1+b).toNat)).drop d.toNat) _ ap) rT Z (TL.alloc Z .u Tryz.zeroValue212 Z (fun aM=>(KE 0 Z (cs':=wA2 a) Z .u Z Z Pf Z Z Z Z Z (Kx (T.seq (Kv Z (KA ao aX 0 Z 3 Z Z ?_))))))));rcases jF h with⟨t,h⟩ | ⟨t,h⟩
    ·refine K1 Z t (KP Z ?_);obtain⟨x,h⟩:=al h;refine KA ao aX 0 Z 3 Z Z ?_;replace x:0<=a.many/\a.many.toNat<=((a0.drop ((1+b).toNat)).drop d.toNat).length:=x;refine Kw Z (Lm (p:=a.many.toNat) (q:=((a0.drop ((1+b).toNat)).drop d.toNat).length) (m:=(((a0.drop ((1+b).toNat)).drop d.toNat).drop a.many.toNat)) Z Nv (.some Z ((Int.toNat_of_nonneg x.1).symm)) .none (by first | omega | (dsimp only; omega)) (eo _ _)) Z ?_;refine K3 ao Z Z ?_;obtain⟨c,aq,h⟩:=Nk h;refine Ku ao 1 Z (KN Z .u (.fn Tryz.call230 Z) (iZ (((a0.drop ((1+b).toNat)).drop d.toNat).drop a.many.toNat) _ aq) rT Z (TL.alloc Z .u Tryz.zeroValue212 Z (fun aN=>(KE 0 Z (cs':=wA2 c) Z .u Z Z Pf Z Z Z Z Z (Kx (T.seq (Kv Z (KA ao aX 0 Z 3 Z Z ?_))))))));rcases jF h with⟨y,h⟩ | ⟨y,h⟩
     ·refine K1 Z y (KP Z ?_);obtain⟨z,h⟩:=al h;refine KA ao aX 0 Z 3 Z Z ?_;replace z:0<=c.many/\c.many.toNat<=(((a0.drop ((1+b).toNat)).drop d.toNat).drop a.many.toNat).length:=z;refine Kw Z (Lm (p:=c.many.toNat) (q:=(((a0.drop ((1+b).toNat)).drop d.toNat).drop a.many.toNat).length) (m:=((((a0.drop ((1+b).toNat)).drop d.toNat).drop a.many.toNat).drop c.many.toNat)) Z Nv (.some Z ((Int.toNat_of_nonneg z.1).symm)) .none (by first | omega | (dsimp only; omega)) (eo _ _)) Z ?_;refine K3 ao Z Z ?_;obtain⟨⟨g,aO,aK⟩,au,h⟩:=Nk h;refine Ku ao 1 Z (Ln Z .u (.fn Tryz.call237 Z) (vP ((((a0.drop ((1+b).toNat)).drop d.toNat).drop a.many.toNat).drop c.many.toNat) _ au) rT Z ?_);rintro _ _ _ ⟨i,j,rfl,rfl,rfl⟩;refine K5 [0,0,0,0,0,0] Z (KF ao Z (T.seq (Kv Z (Ku ao 2 Z ?_))));rcases jF h with⟨A,h⟩ | ⟨A,h⟩
      ·refine K1 Z A (KQ (T.seq (Kv Z (Ku ao 2 Z (Kw Z (Lh Z Nv) Z (Ku ao 1 Z ?_))))));rcases jF h with⟨B,h⟩ | ⟨B,h⟩
       ·refine K1 Z B (KP Z (Ku ao 1 Z (Kw Z (KH (us:=wL0 a.blob) 2 Z NW NA Z Z Z) Z (Ku ao 1 Z (KE 3 Z (cs':= #[jI e,jI f,.bool a.blob.null,jS a.blob.data,.bool false,.string ⟨#[]⟩,.slice none 0 0]) Z .u Z Z NA Z Z Z Z Z (KU Z ?_))))));refine Ku ao 1 Z (Kw Z (KH (us:=wL0 c.blob) 1 Z NW NA Z Z Z) Z (Ku ao 1 Z (KE 3 Z (cs':= #[jI e,jI f,.bool a.blob.null,jS a.blob.data,.bool c.blob.null,jS c.blob.data,.slice none 0 0]) Z .u Z Z NA Z Z Z Z Z (KU Z (Ku ao 2 Z (KE 3 Z (cs':= #[jI e,jI f,.bool a.blob.null,jS a.blob.data,.bool c.blob.null,jS c.blob.data,.slice i g.length j]) Z .u Z Z PF Z Z Z Z Z (KU Z ?_)))))));refine Kw Z (KH (us := [jI e,jI f,.bool a.blob.null,jS a.blob.data,.bool c.blob.null,jS c.blob.data,.slice i g.length j]) 3 Z Od NE Z Z Z) Z ?_;refine Kw Z (KT (cells:=vA3 e f i j (g).length a c) li Z QU) Z ?_;refine KE 4 Z (cs':=vA3 e f i j (g).length a c) Z .u Z Z N7 Z Z Z Z Z ?_;obtain rfl:=Nl h;exact Kx (T.ret (KO [5,0] Ph (KV (us:=vA3 e f i j (g).length a c) 4 Z OX N7 Z Z) ⟨_,_,Z,Z,Z⟩ QW (.inl Z)))
       refine K0 Z B ?_;obtain⟨J,av,h⟩:=Nk h;refine Kv Z (Ln Z .u (.fn Tryz.call231 Z) (cP 2 _ av) rT Z ?_);rintro _ _ _ ⟨K,L,rfl,rfl,rfl⟩;refine K5 [0,0,0,0,0,0,0] Z (KE 5 Z (cs':=wA5 J K L) Z .u Z Z N7 Z Z Z Z Z ?_);obtain rfl:=Nl h;exact Kx (T.ret (Kz (KO [6,0] Ph (KV (us:=wA5 J K L) 5 Z OX N7 Z Z) ⟨_,_,Z,Z,Z⟩ QW (.inl Z))))
      refine K0 Z A (Kv Z ?_);obtain⟨M,aw,h⟩:=Nk h;refine Ku ao 1 Z (Ln Z .u (.fn Tryz.call231 Z) (cP aK _ aw) rT Z ?_);rintro _ _ _ ⟨O,P,rfl,rfl,rfl⟩;refine K5 [0,0,0,0,0,0,0] Z (KE 5 Z (cs':=wA5 M O P) Z .u Z Z N7 Z Z Z Z Z ?_);obtain rfl:=Nl h;exact Kx (T.ret (Kz (KO [6,0] Ph (KV (us:=wA5 M O P) 5 Z OX N7 Z Z) ⟨_,_,Z,Z,Z⟩ QW (.inl Z))))
     refine K0 Z y (Kv Z ?_);obtain⟨Q,ax,h⟩:=Nk h;refine KA ao aX 0 Z 2 Z Z (Ln Z .u (.fn Tryz.call231 Z) (cP c.err _ ax) rT Z ?_);rintro _ _ _ ⟨R,S,rfl,rfl,rfl⟩;refine K5 [0,0,0,0,0,0] Z (KE 4 Z (cs':=wA5 Q R S) Z .u Z Z N7 Z Z Z Z Z ?_);obtain rfl:=Nl h;exact Kx (T.ret (Kz (KO [5,0] Ph (KV (us:=wA5 Q R S) 4 Z OX N7 Z Z) ⟨_,_,Z,Z,Z⟩ QW (.inl Z))))
    refine K0 Z t (Kv Z ?_);obtain⟨U,ay,h⟩:=Nk h;refine KA ao aX 0 Z 2 Z Z (Ln Z .u (.fn Tryz.call231 Z) (cP a.err _ ay) rT Z ?_);rintro _ _ _ ⟨V,W,rfl,rfl,rfl⟩;refine K5 [0,0,0,0,0] Z (KE 3 Z (cs':=wA5 U V W) Z .u Z Z N7 Z Z Z Z Z ?_);obtain rfl:=Nl h;exact Kx (T.ret (Kz (KO [4,0] Ph (KV (us:=wA5 U V W) 3 Z OX N7 Z Z) ⟨_,_,Z,Z,Z⟩ QW (.inl Z))))
   refine K0 Z n (Kv Z ?_);obtain⟨X,az,h⟩:=Nk h;refine Ku ao 1 Z (Ln Z .u (.fn Tryz.call231 Z) (cP aI _ az) rT Z ?_);rintro _ _ _ ⟨Y,aa,rfl,rfl,rfl⟩;refine K5 [0,0,0] Z (KE 1 Z (cs':=wA5 X Y aa) Z .u Z Z N7 Z Z Z Z Z ?_);obtain rfl:=Nl h;exact Kx (T.ret (Kz (KO [2,0] Ph (KV (us:=wA5 X Y aa) 1 Z OX N7 Z Z) ⟨_,_,Z,Z,Z⟩ QW (.inl Z))))
  refine K0 Z k (Kv Z ?_);obtain⟨ab,aA,h⟩:=Nk h;refine Ku ao 1 Z (Ln Z .u (.fn Tryz.call231 Z) (cP aF _ aA) rT Z ?_);rintro _ _ _ ⟨ad,ae,rfl,rfl,rfl⟩;refine K5 [0,0,0] Z (KE 1 Z (cs':=wA5 ab ad ae) Z .u Z Z N7 Z Z Z Z Z ?_);obtain rfl:=Nl h;exact Kx (T.ret (Kz (KO [2,0] Ph (KV (us:=wA5 ab ad ae) 1 Z OX N7 Z Z) ⟨_,_,Z,Z,Z⟩ QW (.inl Z))))
 refine K0 Z c9 ?_;obtain⟨af,aB,h⟩:=Nk h;refine Kv Z (Ln Z .u (.fn Tryz.call231 Z) (cP 8 _ aB) rT Z ?_);rintro _ _ _ ⟨ag,ah,rfl,rfl,rfl⟩;refine K5 [0,0,0] Z (KE 1 Z (cs':=wA5 af ag ah) Z .u Z Z N7 Z Z Z Z Z ?_);obtain rfl:=Nl h;exact Kx (T.ret (Kz (KO [2,0] Ph (KV (us:=wA5 af ag ah) 1 Z OX N7 Z Z) ⟨_,_,Z,Z,Z⟩ QW (.inl Z))))
def lx (a0:AI):Option (mo):=(ko a0).bind fun a=>if a.err=0 then (if a.blob.null=true then ((dK 4).bind fun d=>some d) else ((l6 a.blob.data).bind fun b=>some (⟨b.M8,a.many,b.Nh⟩:mo))) else ((dK a.err).bind fun c=>some c)
theorem vR (a0:AI) (r:mo) (h:lx a0=some r):aC Tryz.prog 213 #[jS a0] .triv (aJ) (fun v A' N=> ∃ (f:AT) (g:Nat),v= .agg (wA5 r f g)/\A'=aJ/\N = [RdR (ar 3 cF) [.slice f r.M8.ML.length g] r.M8.ML]):=by
 refine aW Tryz.func213 Z Tryz.ntmps213 Z ?_;intro F w hX;unfold lx at h;refine Kv Z (TL.alloc Z .u Tryz.zeroValue310 Z (fun y=>(KU Z ?_)));obtain⟨d,p,h⟩:=Nk h;refine Ku ao 1 Z (KN Z .u (.fn Tryz.call230 Z) (iZ a0 _ p) rT Z (TL.alloc Z .u Tryz.zeroValue212 Z (fun z=>(KE 0 Z (cs':=wA2 d) Z .u Z Z Pf Z Z Z Z Z (Kx (T.seq (Kv Z (KA ao aX 0 Z 3 Z Z ?_))))))));rcases jF h with⟨l,h⟩ | ⟨l,h⟩
 ·refine K1 Z l (KQ (T.seq (Kv Z (KA ao aX 0 Z 3 Z Z ?_))));rcases jF h with⟨e,h⟩ | ⟨e,h⟩
  ·refine Kx (KM Z e ?_);obtain⟨q,m,h⟩:=Nk h;refine Kv Z (Ln Z .u (.fn Tryz.call231 Z) (cP 4 _ m) rT Z ?_);rintro _ _ _ ⟨s,t,rfl,rfl,rfl⟩;refine K5 [0,0,0,0] Z (KE 2 Z (cs':=wA5 q s t) Z .u Z Z N7 Z Z Z Z Z ?_);obtain rfl:=Nl h;exact Kx (T.ret (Kz (KO [3,0] Tryz.results213 (KV (us:=wA5 q s t) 2 Z OX N7 Z Z) ⟨_,_,Z,Z,Z⟩ QW (.inl Z))))
  replace e:=Nt e;refine Kx (K8 Z e (KP Z ?_));obtain⟨a,n,h⟩:=Nk h;refine KA ao aX 0 Z 3 Z Z (Ln Z .u (.fn Tryz.call232 Z) (uj d.blob.data _ n) rT Z ?_);rintro _ _ _ ⟨b,c,rfl,rfl,rfl⟩;refine K5 [0,0,0,0] Z (TL.alloc Z .u Tryz.zeroValue310 Z (fun x=>(KE 0 Z (cs':=wA5 a b c) Z .u Z Z N7 Z Z Z Z Z (KU Z (KA ao aX 2 Z 3 Z Z (KE 0 Z (cs':=vA4 b c (a.M8.ML).length a d) Z .u Z Z Nu Z Z Z Z Z (KU Z (Kw Z (KH (us := [jI a.M8.M5,jI a.M8.MS,.bool a.M8.MX.null,jS a.M8.MX.data,.bool a.M8.MM.null,jS a.M8.MM.data,.slice b a.M8.ML.length c,jI d.many,jI a.Nh]) 0 Z OX N7 Z Z Z) Z ?_))))))));refine KE 3 Z (cs':=vA4 b c (a.M8.ML).length a d) Z .u Z Z N7 Z Z Z Z Z ?_;obtain rfl:=Nl h;exact Kx (T.ret (KO [4,1] Tryz.results213 (KV (us:=vA4 b c (a.M8.ML).length a d) 3 Z OX N7 Z Z) ⟨_,_,Z,Z,Z⟩ QW (.inl Z)))
 refine K0 Z l (Kv Z ?_);obtain⟨i,o,h⟩:=Nk h;refine KA ao aX 0 Z 2 Z Z (Ln Z .u (.fn Tryz.call231 Z) (cP d.err _ o) rT Z ?_);rintro _ _ _ ⟨j,k,rfl,rfl,rfl⟩;refine K5 [0,0,0,0] Z (KE 2 Z (cs':=wA5 i j k) Z .u Z Z N7 Z Z Z Z Z ?_);obtain rfl:=Nl h;exact Kx (T.ret (Kz (KO [3,0] Tryz.results213 (KV (us:=wA5 i j k) 2 Z OX N7 Z Z) ⟨_,_,Z,Z,Z⟩ QW (.inl Z))))
def uk:fw := [(23,0,0),(23,1,1),(91,1,1),(91,2,2),(91,3,4),(91,4,6)]
theorem av:(uk).OK Tryz.prog:=⟨FOK.mk NV rfl N6 rfl,FOK.mk NV rfl N5 rfl,FOK.mk NX rfl Nu rfl,FOK.mk NX rfl NA rfl,FOK.mk NX rfl NA rfl,FOK.mk NX rfl PF rfl,trivial⟩
def ul:List Nat := [3,4,9,89]
theorem dk:NOK Tryz.prog ul:=⟨Nw,Or,N8,Tryz.isAgg89,trivial⟩
def jY (a0:AI):Option (Int×Int):=if (a0.length:Int)<2 then some (0,1) else (if 2<=a0.length then ((gK (a0.take 2)).bind fun b=>if b=0 then (if (a0.length:Int)<4 then some (0,1) else (if 4<=a0.length then ((gK ((a0.drop 2).take 2)).bind fun a=>if a=0 then (if (a0.length:Int)>4 then some (0,2) else some (a,0)) else (if a=1 then (if (a0.length:Int)>4 then some (0,2) else some (a,0)) else some (0,12))) else none)) else some (0,7)) else none)
theorem so (a0:AI) (r:Int×Int) (h:jY a0=some r):aC Tryz.prog 223 #[jS a0] .triv (aJ) (fun v A' N=>v= .tuple #[jI r.1,jI r.2]/\A'=aJ/\N = []):=by
 refine aW Tryz.func223 Z Tryz.ntmps223 Z ?_;intro F w hX;unfold jY at h;refine Kv Z (KF av Z (T.seq (Kv Z (Ku av 1 Z (Kw Z (Lh Z Nv) Z (Ku av 1 Z ?_))))));rcases jF h with⟨e,h⟩ | ⟨e,h⟩
 ·refine KY Z e (Kv Z (Ku av 2 Z ?_));obtain rfl:=Nl h;exact Kx (T.ret (Kz (Ld [0] PD (Ky Z) (Ky Z) ⟨Z,Z,Z⟩ QW (.inl Z))))
 refine KW Z e (KQ (T.seq (Kv Z ?_)));obtain⟨c2,h⟩:=al h;refine Ku av 1 Z ?_;replace c2:2<=a0.length:=c2;refine Kw Z (Lm (p:=0) (q:=2) (m:=(a0.take 2)) Z Nv .none (.some Z Z) (by first | omega | (dsimp only; omega)) (by simp)) Z ?_;obtain⟨l,i,h⟩:=Nk h;refine KN Z .u (.fn Tryz.call25 Z) (K6 (fun w=>bu (a0.take 2) _ i w)) (fun _ _=>RX.reads_triv _ _) Z (Ku av 1 Z ?_);rcases jF h with⟨f,h⟩ | ⟨f,h⟩
 ·refine K1 Z f (KQ (T.seq (Kv Z (Ku av 1 Z (Kw Z (Lh Z Nv) Z (Ku av 1 Z ?_))))));rcases jF h with⟨g,h⟩ | ⟨g,h⟩
  ·refine KY Z g (Kv Z (Ku av 2 Z ?_));obtain rfl:=Nl h;exact Kx (T.ret (Kz (Ld [0] PD (Ky Z) (Ky Z) ⟨Z,Z,Z⟩ QW (.inl Z))))
  refine KW Z g (KP Z ?_);obtain⟨j,h⟩:=al h;refine Ku av 1 Z ?_;replace j:4<=a0.length:=j;refine Kw Z (Lm (p:=2) (q:=4) (m:=((a0.drop 2).take 2)) Z Nv (.some Z Z) (.some Z Z) (by first | omega | (dsimp only; omega)) Z) Z ?_;obtain⟨n,k,h⟩:=Nk h;refine KN Z .u (.fn Tryz.call25 Z) (K6 (fun w=>bu ((a0.drop 2).take 2) _ k w)) (fun _ _=>RX.reads_triv _ _) Z (KF av Z (T.seq (Kv Z ?_)));rcases jF h with⟨a,h⟩ | ⟨a,h⟩
  ·refine Ku av 3 Z (KC 20 Z (bb (Nn a)) (Lk av Z (K8 Z Z (KQ (T.seq (Kv Z (Ku av 1 Z (Kw Z (Lh Z Nv) Z ?_))))))));refine Ku av 1 Z ?_;rcases jF h with⟨b,h⟩ | ⟨b,h⟩
   ·refine KY Z b (Kv Z (Ku av 2 Z ?_));obtain rfl:=Nl h;exact Kx (T.ret (Kz (Ld [0] PD (Ky Z) (Ky Z) ⟨Z,Z,Z⟩ QW (.inl Z))))
   refine KW Z b (KP Z (Ku av 3 Z ?_));obtain rfl:=Nl h;exact Kx (T.ret (Ld [0] PD (Ky Z) (Ky Z) ⟨Z,Z,Z⟩ QW (.inl Z)))
  refine Ku av 3 Z (KC 20 Z (bp (Np a)) (KB av 3 Z ?_));rcases jF h with⟨c,h⟩ | ⟨c,h⟩
  ·refine K1 Z c (KQ (T.seq (Kv Z (Ku av 1 Z (Kw Z (Lh Z Nv) Z (Ku av 1 Z ?_))))));rcases jF h with⟨d,h⟩ | ⟨d,h⟩
   ·refine KY Z d (Kv Z (Ku av 2 Z ?_));obtain rfl:=Nl h;exact Kx (T.ret (Kz (Ld [0] PD (Ky Z) (Ky Z) ⟨Z,Z,Z⟩ QW (.inl Z))))
   refine KW Z d (KP Z (Ku av 3 Z ?_));obtain rfl:=Nl h;exact Kx (T.ret (Ld [0] PD (Ky Z) (Ky Z) ⟨Z,Z,Z⟩ QW (.inl Z)))
  refine K0 Z c (Kv Z (Ku av 2 Z ?_));obtain rfl:=Nl h;exact Kx (T.ret (Kz (Ld [0] PD (Ky Z) (Ky Z) ⟨Z,Z,Z⟩ QW (.inl Z))))
 refine K0 Z f (Kv Z (Ku av 2 Z ?_));obtain rfl:=Nl h;exact Kx (T.ret (Kz (Ld [0] PD (Ky Z) (Ky Z) ⟨Z,Z,Z⟩ QW (.inl Z))))
def iE (a0:AI):Option (Int×Int):=if (a0.length:Int)<2 then some (0,1) else (if 2<=a0.length then ((gK (a0.take 2)).bind fun b=>if b=0 then (if (a0.length:Int)<6 then some (0,1) else (if 6<=a0.length then ((gK ((a0.drop 2).take 4)).bind fun a=>if a<0 then some (0,11) else (if (a0.length:Int)>6 then some (0,2) else some (a,0))) else none)) else some (0,7)) else none)
theorem qN (a0:AI) (r:Int×Int) (h:iE a0=some r):aC Tryz.prog 224 #[jS a0] .triv (aJ) (fun v A' N=>v= .tuple #[jI r.1,jI r.2]/\A'=aJ/\N = []):=by
 refine aW Tryz.func224 Z Tryz.ntmps224 Z ?_;intro F w hX;unfold iE at h;refine Kv Z (KF av Z (T.seq (Kv Z (Ku av 1 Z (Kw Z (Lh Z Nv) Z (Ku av 1 Z ?_))))));rcases jF h with⟨c,h⟩ | ⟨c,h⟩
 ·refine KY Z c (Kv Z (Ku av 2 Z ?_));obtain rfl:=Nl h;exact Kx (T.ret (Kz (Ld [0] PV (Ky Z) (Ky Z) ⟨Z,Z,Z⟩ QW (.inl Z))))
 refine KW Z c (KQ (T.seq (Kv Z ?_)));obtain⟨c2,h⟩:=al h;refine Ku av 1 Z ?_;replace c2:2<=a0.length:=c2;refine Kw Z (Lm (p:=0) (q:=2) (m:=(a0.take 2)) Z Nv .none (.some Z Z) (by first | omega | (dsimp only; omega)) (by simp)) Z ?_;obtain⟨j,f,h⟩:=Nk h;refine KN Z .u (.fn Tryz.call25 Z) (K6 (fun w=>bu (a0.take 2) _ f w)) (fun _ _=>RX.reads_triv _ _) Z (Ku av 1 Z ?_);rcases jF h with⟨d,h⟩ | ⟨d,h⟩
 ·refine K1 Z d (KQ (T.seq (Kv Z (Ku av 1 Z (Kw Z (Lh Z Nv) Z (Ku av 1 Z ?_))))));rcases jF h with⟨e,h⟩ | ⟨e,h⟩
  ·refine KY Z e (Kv Z (Ku av 2 Z ?_));obtain rfl:=Nl h;exact Kx (T.ret (Kz (Ld [0] PV (Ky Z) (Ky Z) ⟨Z,Z,Z⟩ QW (.inl Z))))
  refine KW Z e (KP Z ?_);obtain⟨g,h⟩:=al h;refine Ku av 1 Z ?_;replace g:6<=a0.length:=g;refine Kw Z (Lm (p:=2) (q:=6) (m:=((a0.drop 2).take 4)) Z Nv (.some Z Z) (.some Z Z) (by first | omega | (dsimp only; omega)) Z) Z ?_;obtain⟨k,i,h⟩:=Nk h;refine KN Z .u (.fn Tryz.call25 Z) (K6 (fun w=>bu ((a0.drop 2).take 4) _ i w)) (fun _ _=>RX.reads_triv _ _) Z (KF av Z (T.seq (Kv Z (Ku av 2 Z ?_))));rcases jF h with⟨a,h⟩ | ⟨a,h⟩
  ·refine KY Z a (Kv Z (Ku av 2 Z ?_));obtain rfl:=Nl h;exact Kx (T.ret (Kz (Ld [0] PV (Ky Z) (Ky Z) ⟨Z,Z,Z⟩ QW (.inl Z))))
  refine KW Z a (KQ (T.seq (Kv Z (Ku av 1 Z (Kw Z (Lh Z Nv) Z (Ku av 1 Z ?_))))));rcases jF h with⟨b,h⟩ | ⟨b,h⟩
  ·refine KY Z b (Kv Z (Ku av 2 Z ?_));obtain rfl:=Nl h;exact Kx (T.ret (Kz (Ld [0] PV (Ky Z) (Ky Z) ⟨Z,Z,Z⟩ QW (.inl Z))))
  refine KW Z b (KP Z (Ku av 3 Z ?_));obtain rfl:=Nl h;exact Kx (T.ret (Ld [0] PV (Ky Z) (Ky Z) ⟨Z,Z,Z⟩ QW (.inl Z)))
 refine K0 Z d (Kv Z (Ku av 2 Z ?_));obtain rfl:=Nl h;exact Kx (T.ret (Kz (Ld [0] PV (Ky Z) (Ky Z) ⟨Z,Z,Z⟩ QW (.inl Z))))
def je (a0:Rec):Option (Int×Int×Int):=if a0.MX.null=true then some (0,0,12) else (if a0.MM.null=true then some (0,0,12) else (if (a0.ML.length:Int)>0 then some (0,0,12) else (if a0.MS=0 then ((jY a0.MX.data).bind fun (d,b)=>if b=0 then ((iE a0.MM.data).bind fun (c,a)=>if a=0 then some (d,c,0) else some (0,0,a)) else some (0,0,b)) else some (0,0,12))))
theorem vS (a0:Rec) (k:AT) (c2:Nat) (r:Int×Int×Int) (h:je a0=some r):aC Tryz.prog 201 #[.agg (wA4 a0 k c2)] (RX.of (ar 3 cF) [.slice k a0.ML.length c2] a0.ML) (aJ) (fun v A' N=>v= .tuple #[jI r.1,jI r.2.1,jI r.2.2]/\A'=aJ/\N = []):=by
 refine aW Tryz.func201 Z Tryz.ntmps201 Z ?_;intro F w hX;unfold je at h;refine Kv Z (TL.box Z .u Z Z (fun n=>(KF av Z (T.seq (Kv Z ?_)))));rcases jF h with⟨a,h⟩ | ⟨a,h⟩
 ·refine KA av dk 0 Z 4 Z Z (KC 12 Z a (Lk av Z (KM Z Z (Kv Z (Ku av 3 Z ?_)))));obtain rfl:=Nl h;exact Kx (T.ret (Kz (K9 [1] PN (Ky Z) (Ky Z) (Ky Z) ⟨Z,Z,Z⟩ QW (.inl Z))))
 replace a:=Nt a;refine KA av dk 0 Z 4 Z Z (KC 12 Z a ?_);rcases jF h with⟨b,h⟩ | ⟨b,h⟩
 ·refine KA av dk 0 Z 5 Z Z (KC 17 Z b (Lk av Z (KM Z Z (Kv Z (Ku av 3 Z ?_)))));obtain rfl:=Nl h;exact Kx (T.ret (Kz (K9 [1] PN (Ky Z) (Ky Z) (Ky Z) ⟨Z,Z,Z⟩ QW (.inl Z))))
 replace b:=Nt b;refine KA av dk 0 Z 5 Z Z (KC 17 Z b (KA av dk 0 Z 2 Z Z (TL.q Z (.g Z Z Z) (K2 Z Oe) Z ?_)));rcases jF h with⟨e,h⟩ | ⟨e,h⟩
 ·refine KB av 3 Z (KC 23 Z (Nn e) (Lk av Z (KM Z Z (Kv Z (Ku av 3 Z ?_)))));obtain rfl:=Nl h;exact Kx (T.ret (Kz (K9 [1] PN (Ky Z) (Ky Z) (Ky Z) ⟨Z,Z,Z⟩ QW (.inl Z))))
 refine KB av 3 Z (KC 23 Z (Np e) (KA av dk 0 Z 4 Z Z ?_));rcases jF h with⟨f,h⟩ | ⟨f,h⟩
 ·refine K1 Z f (KP Z ?_);obtain⟨⟨o,p⟩,i,h⟩:=Nk h;refine KA av dk 0 Z 3 Z Z (KN Z .u (.fn Tryz.call223 Z) (so a0.MX.data _ i) rT Z (KF av Z (T.seq (Kv Z (Ku av 2 Z ?_)))));rcases jF h with⟨c,h⟩ | ⟨c,h⟩
  ·refine K1 Z c (KP Z ?_);obtain⟨⟨l,m⟩,j,h⟩:=Nk h;refine KA av dk 0 Z 3 Z Z (KN Z .u (.fn Tryz.call224 Z) (qN a0.MM.data _ j) rT Z (KF av Z (T.seq (Kv Z (Ku av 2 Z ?_)))));rcases jF h with⟨d,h⟩ | ⟨d,h⟩
   ·refine K1 Z d (KP Z (Ku av 5 Z ?_));obtain rfl:=Nl h;exact Kx (T.ret (K9 [1] PN (Ky Z) (Ky Z) (Ky Z) ⟨Z,Z,Z⟩ QW (.inl Z)))
   refine K0 Z d (Kv Z (Ku av 4 Z ?_));obtain rfl:=Nl h;exact Kx (T.ret (Kz (K9 [1] PN (Ky Z) (Ky Z) (Ky Z) ⟨Z,Z,Z⟩ QW (.inl Z))))
  refine K0 Z c (Kv Z (Ku av 4 Z ?_));obtain rfl:=Nl h;exact Kx (T.ret (Kz (K9 [1] PN (Ky Z) (Ky Z) (Ky Z) ⟨Z,Z,Z⟩ QW (.inl Z))))
 refine K0 Z f (Kv Z (Ku av 3 Z ?_));obtain rfl:=Nl h;exact Kx (T.ret (Kz (K9 [1] PN (Ky Z) (Ky Z) (Ky Z) ⟨Z,Z,Z⟩ QW (.inl Z))))
def um:fw := []
theorem aP:(um).OK Tryz.prog:=trivial
theorem oT:SOK Tryz.prog 74 3 12 1 #[.int .i64 0,.int .i64 0,.int .i64 0,.int .i64 0,.int .i64 0,.int .i64 0,.int .i64 0,.int .i64 0,.int .i64 0,.int .i64 0,.int .i64 0,.int .i64 0]:=SOK.mk ND Nu Tryz.zeroValue3 QS QU
def fe (a0:AI) (a1:Int) (a2:Int):Option (Int):=if A0 (a1+a2) then (if 0<=a1/\0<=(a1+a2)/\a1.toNat<=(a1+a2).toNat/\(a1+a2).toNat<=a0.length then ((gK ((a0.drop a1.toNat).take (((a1+a2).toNat) - a1.toNat))).bind fun a=>some a) else none) else none
theorem dh (a0:AI) (a1:Int) (a2:Int) (r:Int) (h:fe a0 a1 a2=some r):aC Tryz.prog 229 #[jS a0,jI a1,jI a2] .triv (aJ) (fun v A' N=>v=jI r/\A'=aJ/\N = []):=by
 refine aW Tryz.func229 Z Tryz.ntmps229 Z ?_;intro F w hX;unfold fe at h;refine Kv Z (K3 aP Z Z ?_);obtain⟨b,h⟩:=al h;refine Ku aP 4 Z (Kw Z (Ex.add Z Z b) Z ?_);obtain⟨c2,h⟩:=al h;replace c2:0<=a1/\0<=(a1+a2)/\a1.toNat<=(a1+a2).toNat/\(a1+a2).toNat<=a0.length:=c2;refine Kw Z (Lm (p:=a1.toNat) (q:=(a1+a2).toNat) (m:=((a0.drop a1.toNat).take (((a1+a2).toNat) - a1.toNat))) Z Nv (.some Z ((Int.toNat_of_nonneg c2.1).symm)) (.some Z ((Int.toNat_of_nonneg c2.2.1).symm)) (by first | omega | (dsimp only; omega)) Z) Z ?_;obtain⟨c,a,h⟩:=Nk h;refine KN Z .u (.fn Tryz.call25 Z) (K6 (fun w=>bu ((a0.drop a1.toNat).take (((a1+a2).toNat) - a1.toNat)) _ a w)) (fun _ _=>RX.reads_triv _ _) Z (Ku aP 1 Z ?_);obtain rfl:=Nl h;exact Kx (T.ret (KI [0] Tryz.results229 (Ky Z)))
def ik (a0:AI):Option (List Int×Int):=if (a0.length:Int)<61 then some ([],1) else ((fe a0 17 4).bind fun a=>(if a<0 then (if A0 (a+4294967296) then some (a+4294967296) else none) else some a).bind fun m=>(fe a0 0 8).bind fun b=>(fe a0 8 4).bind fun c=>(fe a0 12 4).bind fun d=>(fe a0 21 2).bind fun e=>(fe a0 23 4).bind fun f=>(fe a0 27 8).bind fun g=>(fe a0 35 8).bind fun h=>(fe a0 43 8).bind fun i=>(fe a0 51 2).bind fun j=>(fe a0 53 4).bind fun k=>(fe a0 57 4).bind fun l=>(fe a0 16 1).bind fun n=>if n=2 then (([b,c,d,m,e,f,g,h,i,j,k,l][1]?).bind fun o=>if o<49 then some ([],4) else (([b,c,d,m,e,f,g,h,i,j,k,l][11]?).bind fun p=>if p<0 then some ([],10) else some ([b,c,d,m,e,f,g,h,i,j,k,l],0))) else some ([],6))
theorem te (a0:AI) (r:List Int×Int) (h:ik a0=some r):aC Tryz.prog 211 #[jS a0] .triv (aJ) (fun v A' N=> ∃ (A:AT) (B:Nat),v= .tuple #[.slice A r.1.length B,jI r.2]/\A'=aJ/\N = [RdR (ar 1 cR) [.slice A r.1.length B] r.1]):=by
 refine aW Tryz.func211 Z Tryz.ntmps211 Z ?_;intro F w hX;unfold ik at h;refine Kv Z (KF aP Z (T.seq (Kv Z (Ku aP 1 Z (Kw Z (Lh Z Nv) Z (Ku aP 1 Z ?_))))));rcases jF h with⟨C,h⟩ | ⟨C,h⟩
 ·refine KY Z C (Kv Z (Ku aP 2 Z ?_));obtain rfl:=Nl h;exact Kx (T.ret (Kz (KG 1 cR (Ld [1,0] Qc (Ky Z) (Ky Z) ⟨_,_,Z,Z,Z⟩ QW (.inl Z)))))
 refine KW Z C (KP Z ?_);obtain⟨x2,V,h⟩:=Nk h;refine Ku aP 1 Z (KN Z .u (.fn Tryz.call229 Z) (dh a0 17 4 _ V) rT Z (KF aP Z (T.seq (Kv Z (KF aP Z ?_)))));obtain⟨y,h,a⟩:=Nk h;refine Lu (fun e Rs=>e = [(0,jS a0),(2,.slice none 0 0),(3,jI 0),(4,jI y)]/\Rs = [aJ]) ?_ ?_
 ·clear a;rcases jF h with⟨D,h⟩ | ⟨D,h⟩
  ·refine LT Z D (T.region Z ?_);obtain⟨c9,h⟩:=al h;refine Ku aP 1 Z (Kw Z (Ex.add Z Z c9) Z (Ku aP 1 Z ?_));cases h;exact TL.nil (KJ [0])
  refine LX Z D ?_;cases h;exact T.skip (KJ [0])
 rintro _ _ ⟨rfl,rfl⟩;clear h;have h:=a;clear a;refine X.seq (Kv Z ?_);obtain⟨b,H,h⟩:=Nk h;refine Ku aP 1 Z (KN Z .u (.fn Tryz.call229 Z) (dh a0 0 8 _ H) rT Z ?_);obtain⟨c,I,h⟩:=Nk h;refine Ku aP 1 Z (KN Z .u (.fn Tryz.call229 Z) (dh a0 8 4 _ I) rT Z ?_);obtain⟨d,J,h⟩:=Nk h;refine Ku aP 1 Z (KN Z .u (.fn Tryz.call229 Z) (dh a0 12 4 _ J) rT Z ?_);obtain⟨f,K,h⟩:=Nk h;refine Ku aP 2 Z (KN Z .u (.fn Tryz.call229 Z) (dh a0 21 2 _ K) rT Z ?_);obtain⟨g,L,h⟩:=Nk h;refine Ku aP 1 Z (KN Z .u (.fn Tryz.call229 Z) (dh a0 23 4 _ L) rT Z ?_);obtain⟨i,M,h⟩:=Nk h;refine Ku aP 1 Z (KN Z .u (.fn Tryz.call229 Z) (dh a0 27 8 _ M) rT Z ?_);obtain⟨j,O,h⟩:=Nk h;refine Ku aP 1 Z (KN Z .u (.fn Tryz.call229 Z) (dh a0 35 8 _ O) rT Z ?_);obtain⟨l,P,h⟩:=Nk h;refine Ku aP 1 Z (KN Z .u (.fn Tryz.call229 Z) (dh a0 43 8 _ P) rT Z ?_);obtain⟨m,Q,h⟩:=Nk h;refine Ku aP 1 Z (KN Z .u (.fn Tryz.call229 Z) (dh a0 51 2 _ Q) rT Z ?_);obtain⟨n,R,h⟩:=Nk h;refine Ku aP 1 Z (KN Z .u (.fn Tryz.call229 Z) (dh a0 53 4 _ R) rT Z ?_);obtain⟨o,S,h⟩:=Nk h;refine Ku aP 1 Z (KN Z .u (.fn Tryz.call229 Z) (dh a0 57 4 _ S) rT Z ?_);refine LI (cells:= #[jI b,jI c,jI d,jI y,jI f,jI g,jI i,jI j,jI l,jI m,jI n,jI o]) Z .u oT Z QU Z (fun aa=> ?_);refine Ma (us := [jI b,jI c,jI d,jI y,jI f,jI g,jI i,jI j,jI l,jI m,jI n,jI o]) (xs := [b,c,d,y,f,g,i,j,l,m,n,o]) (E:=cR) (z:=1) Z (Nat.le_of_ble_eq_true Z) (fun _=>⟨Z,Z,⟨Z,Z,⟨Z,Z,⟨Z,Z,⟨Z,Z,⟨Z,Z,⟨Z,Z,⟨Z,Z,⟨Z,Z,⟨Z,Z,⟨Z,Z,⟨Z,Z,Z⟩⟩⟩⟩⟩⟩⟩⟩⟩⟩⟩⟩) (KF aP Z (T.seq (Kv Z ?_)));obtain⟨ab,U,h⟩:=Nk h;refine Ku aP 1 Z (KN Z .u (.fn Tryz.call229 Z) (dh a0 16 1 _ U) rT Z (Ku aP 1 Z ?_));rcases jF h with⟨p,h⟩ | ⟨p,h⟩
 ·refine K1 Z p (KQ (T.seq (Kv Z ?_)));obtain⟨W,q,h⟩:=Nk h;refine Ku aP 1 Z (Md (E:=cR) (k:=1) 0 Z (fun w G h=>bF QS w G h) QS q ?_);rintro gg oo _ ⟨⟩ _ ⟨_,_,rfl⟩;refine K5 [0,0] Z ?_;refine Kw Z (KX (k:=1) Z Z Z ND Nu (Nq q).1) Z ?_;refine Kw Z (LY (cs := [jI W]) 0 0 Z Nw Z (fun _ _ h=>h.2.2.1) Z) Z (Ku aP 1 Z ?_);rcases jF h with⟨s,h⟩ | ⟨s,h⟩
  ·refine KY Z s (Kv Z (Ku aP 2 Z ?_));obtain rfl:=Nl h;exact Kx (T.ret (Kz (KG 1 cR (Ld [2,0] Qc (Ky Z) (Ky Z) ⟨_,_,Z,Z,Z⟩ QW (.inl Z)))))
  refine KW Z s (KQ (T.seq (Kv Z ?_)));obtain⟨Y,t,h⟩:=Nk h;refine Ku aP 1 Z (Md (E:=cR) (k:=11) 0 Z (fun w G h=>bF QS w G h.1) QS t ?_);rintro gg oo _ ⟨⟩ _ ⟨_,_,rfl⟩;refine K5 [0,0] Z ?_;refine Kw Z (KX (k:=11) Z Z Z ND Nu (Nq t).1) Z ?_;refine Kw Z (LY (cs := [jI Y]) 0 0 Z Nw Z (fun _ _ h=>h.2.2.1) Z) Z (Ku aP 1 Z ?_);rcases jF h with⟨x,h⟩ | ⟨x,h⟩
  ·refine KY Z x (Kv Z (Ku aP 2 Z ?_));obtain rfl:=Nl h;exact Kx (T.ret (Kz (KG 1 cR (Ld [2,0] Qc (Ky Z) (Ky Z) ⟨_,_,Z,Z,Z⟩ QW (.inl Z)))))
  refine KW Z x (KP Z (Ku aP 3 Z ?_));obtain rfl:=Nl h;exact Kx (T.ret (X.unf 0 Z (Lj [0,0] Z (X.unf 0 Z (Lj [0,0] Z (LM QS 0 Z (Lj [0,0] Z (Ld [1,0] Qc (Ky Z) (Ky Z) ⟨_,_,Z,Z,Z⟩ QW (.inl Z)))))))))
 refine K0 Z p (Kv Z (Ku aP 2 Z ?_));obtain rfl:=Nl h;exact Kx (T.ret (Kz (KG 1 cR (Ld [2,0] Qc (Ky Z) (Ky Z) ⟨_,_,Z,Z,Z⟩ QW (.inl Z)))))
end Go.Proofs.YtheikonlgjdopaaGreat.Sl
