/- splitFeeds_holds: part 2. -/
import Derived.Lib.Builder
import Derived.Lib.UnsafeStr
import Derived.Laws.IdiomCopy
import Derived.Laws.CopyRow
import Derived.ChangeKeysEq
import Derived.Test.YtheikonlgjdopaaGreatK1
set_option maxRecDepth 100000
set_option maxHeartbeats 4000000
set_option linter.defProp false
namespace Go.Proofs.YtheikonlgjdopaaGreat.Sl
open Go.RowKit
set_option linter.unusedVariables false
set_option linter.unusedSimpArgs false
def M4 := @decide_eq_true
def M5 := @decide_eq_false
def M7 := @eq_false_of_ne_true
def M9 := @Tryz.sizeOf3
def Na := @Tryz.runUnderlying9
def Nc := @Tryz.isAgg3
def Nh := @Tryz.sizeOf23
def Nj := @Tryz.runUnderlying74
def Nk := @Tryz.sizeOf91
def NC := @Tryz.sizeOf51
def NF := @Tryz.runUnderlying23
def NG := @Tryz.sizeOf9
def NH := @Tryz.runUnderlying91
def NL := @Tryz.isAgg23
def NN := @Tryz.runUnderlying48
def NO := @Tryz.sizeOf310
def NP := @Tryz.sizeOf4
def NQ := @Tryz.isAgg9
def NT := @Tryz.sizeOf193
def NU := @Tryz.runUnderlying212
def NV := @Tryz.isAgg91
def NW := @Tryz.runUnderlying89
def N3 := @Tryz.sizeOf195
def N9 := @Tryz.runUnderlying189
def Oa := @Tryz.isAgg4
def Ob := @Tryz.runUnderlying49
def Oe := @Tryz.isAgg51
def Og := @Tryz.sizeOf179
def Oi := @Tryz.runUnderlying174
def Oj := @Tryz.runUnderlying34
def Ol := @Tryz.sizeOf191
def Oo := @Tryz.sizeOf176
def Oq := @Tryz.sizeOf245
def Ot := @Tryz.eqGuardType23
def Ov := @Tryz.runUnderlying161
def Ox := @Tryz.runUnderlying3
def OB := @Tryz.sizeOf173
def OC := @Tryz.isAgg310
def OG := @Tryz.runUnderlying33
def OH := @Tryz.runUnderlying36
def OX := @Tryz.sizeOf212
def OZ := @Tryz.results232
def O1 := @Tryz.runUnderlying173
def O2 := @Tryz.runUnderlying245
def O4 := @Tryz.sizeOf28
def O7 := @Tryz.runUnderlying51
def Pf := @Tryz.isAgg189
def Pm := @Tryz.results223
def Pp := @Tryz.isAgg177
def Pq := @Tryz.sizeOf89
def Pt := @Tryz.runUnderlying176
def Pu := @Tryz.runUnderlying191
def Pv := @Tryz.results237
def Pw := @Tryz.runUnderlying310
def Px := @Tryz.results209
def Py := @Tryz.results201
def PB := @Tryz.sizeOf177
def PD := @Tryz.isAgg179
def PF := @Tryz.results200
def PG := @Tryz.results224
def PL := @Tryz.runUnderlying179
def PR := @Tryz.isAgg173
def PS := @Tryz.isAgg174
def PV := @Tryz.eqGuardType245
def PW := @Tryz.results228
def PX := @Tryz.results211
def Qb := @Tryz.sizeOf174
def Qf := @Tryz.isAgg176
def Qg := @Tryz.isAgg191
def Qh := @Tryz.isAgg245
def QB := @Tryz.runUnderlying5
def QC := @Tryz.sizeOf189
def sW (b:Nat) (l:AI):Res where
 P:=fun w G=> ∃ p v,(p= .pointer none\/p= .pointer (some ⟨b,0,none⟩))/\w.heap[b]? = some (.cells #[p,v] 292 (0,0))/\w.ownsRow 0 5 1 v l.length (bR l)/\ ∀ k,G k↔k=b\/v.ownBlock=some k
 lt:=by
  rintro w G ⟨p,v,_,c,d,a⟩ k hk;rcases (a k).1 hk with rfl | h
  ·exact lx c
  ·exact zY d k h
 move:=by
  rintro w w' G ⟨p,v,hp,c,d,a⟩ hm;exact⟨p,v,hp,(hm _ ((a _).2 (.inl rfl))).trans c,sH d (fun k hk=>hm k ((a k).2 (.inr hk))),a⟩
theorem Fz {F:Nat->Prop} {w w':World} (h:Fr F w w') {p:Addr} (hp:F p.block) (n:Nat):Fr F w (w'.freeze p n):=by
 refine h.trans (G:=F) ?_ (fun _ h=> .inl h);unfold World.freeze;split
 ·exact Fr.refl _ _
 ·exact⟨rfl,rfl,rfl,by simp,fun k hk hn=>by
   simp only[Array.getElem?_modify];rw[QO (fun h:p.block=k=>hn (by rw[<- h]; exact hp))]⟩
theorem GN:(Tryz.prog.info? 292).map (·.size)=some 2:=by kernel_rfl
theorem GO:liesAt Tryz.prog Tryz.prog.depth 292 (2 / Tryz.prog.cellsOf 292) 0 292 1=true:=by kernel_rfl
theorem FA {w:World} {b:Nat} {p v:Value} (hb:w.heap[b]? = some (.cells #[p,v] 292 (0,0))):w.shape? b=some (292,2):=by simp[World.shape?,hb]
theorem FB (b:Nat) (w:World) (p v:Value) (hp:p= .pointer none\/p= .pointer (some ⟨b,0,none⟩)) (hb:w.heap[b]? = some (.cells #[p,v] 292 (0,0))) :
 Calls Tryz.prog 220 #[.pointer (some ⟨b,0,none⟩)] w fun e w'=>e= .returned (.tuple #[])/\w'.heap[b]? = some (.cells #[.pointer (some ⟨b,0,none⟩),v] 292 (0,0))/\Fr (fun k=>k=b) w w':=by
 obtain⟨j,hj,hjs⟩:=Option.map_eq_some_iff.1 GN;have a:w.cell? ⟨b,0,none⟩=some p:=(bp hb 0).trans rfl;have c:w.frozen? ⟨b,0,none⟩=false:=bZ hb 0;have hsh:=FA hb;have HB:=Lib.hid hb;clear hb;rcases hp with rfl | rfl
 ·go_enter Tryz.func220,Tryz.ntmps220
  go_wp2
  rw[Lib.run_to_unsafe w ⟨b,0,none⟩ Tryz.underlying290 Tryz.underlying327 hj (by rw[hjs]; decide) hsh (Nat.zero_lt_succ 1)];simp only[Result.andThen];rw[Oper.upon_value];go_wp2
  rw[run_callFunc_extern Tryz.func233 QK QK QK (e:=Extern.AbiNoEscape.same) QK];rw[Lib.run_noEscape];simp only[Result.andThen];rw[Oper.upon_value];go_wp2
  rw[Lib.run_from_unsafe w ⟨b,0,none⟩ Tryz.underlying327 Tryz.underlying290 hj hsh GO];simp only[Result.andThen];rw[Oper.upon_value];go_wp2
  go_end0
  exact⟨rfl,by simpa using oa HB.out 0 (.pointer (some ⟨b,0,none⟩)),(Fr.refl (fun k=>k=b) w).set (p:=⟨b,0,none⟩) (.inl rfl) _⟩
 ·go_enter Tryz.func220,Tryz.ntmps220
  go_wp2
  rw[Lib.run_neq_ptr_same w _ Tryz.underlying290 hj];go_wp2
  go_end0
  exact⟨rfl,HB.out,Fr.refl _ _⟩
theorem sW.stored {b:Nat} {l m:AI} {w w1 a:World} {v v1:Value} {F:Nat->Prop} (hw:Fr (fun k=>k=b) w w1) (hF: ∀ k,F k↔k=b\/v.ownBlock=some k) (hb:w1.heap[b]? = some (.cells #[.pointer (some ⟨b,0,none⟩),v] 292 (0,0))) (ho:w1.ownsRow 0 5 1 v l.length (bR l))
 {n:Nat} (ho1:a.ownsRow 0 5 1 v1 n (bR m)) (hg:w1.grownBy a v.ownBlock) (hat:v1.ownBlock=v.ownBlock\/ ∃ k,v1.ownBlock=some k/\w1.heap.size<=k) (hlt:b<w.heap.size) :
 St F w [sW b m] (a.setCell ⟨b,1,none⟩ v1):=by
 have hn:n=m.length:=by have:=ho1.1; simpa [bR] using this.symm
 subst hn;have hne:=o5 ho hb QJ;have hb1:a.heap[b]? = some (.cells #[.pointer (some ⟨b,0,none⟩),v] 292 (0,0)):=(hg.block b (lx hb) hne).trans hb;have hne1:=o5 ho1 hb1 QJ;have c:Fr F w w1:=hw.mono (fun k hk=>(hF k).2 (.inl hk));have d:Fr F w a:=c.trans (LY (F:=F) hg (fun k hk=>(hF k).2 (.inr hk))) (fun k hk=> .inl hk);refine⟨d.set (p:=⟨b,1,none⟩) (.inl ((hF b).2 (.inl rfl))) v1,?_⟩;refine⟨fun k=>k=b\/v1.ownBlock=some k,⟨_,v1,.inr rfl,by simpa using oa hb1 1 v1,zX ho1 hne1 v1,fun _=>Iff.rfl⟩,?_,trivial⟩;rintro k (rfl | hk)
 ·exact .inl ((hF k).2 (.inl rfl))
 ·rcases hat with h | ⟨k',h,h'⟩
  ·rw[h] at hk;exact .inl ((hF k).2 (.inr hk))
  ·rw[h] at hk;injection hk with hk;subst hk;exact .inr (Nat.le_trans hw.size h')
theorem C4 (b:Nat) (l:AI) (s:ByteArray) (hl:l.length+s.size<=140737488355328) :
 hN Tryz.prog 196 #[.pointer (some ⟨b,0,none⟩),.string s] (sW b l) (fun v A' N=>v= .tuple #[.int .i64 s.size,.nilIface]/\A'=sW b (l++s.data.toList)/\N = []):=by
 rintro F w ⟨p,v,hp,hb,ho,hF⟩;have hne:=o5 ho hb QJ;have HB:=Lib.hid hb;have HO:=Lib.hid ho;have HP:=Lib.hid hp;clear hb ho hp;go_enter Tryz.func196,Tryz.ntmps196
 go_wp2_with (go_at_call 220; refine (FB b _ p v HP.out HB.out).mono ?_)
 rintro e w1 ⟨rfl,hb1,hfr⟩;have ho1:w1.ownsRow 0 5 1 v l.length (bR l):=sH HO.out (fun k hk=>hfr.block k (zY HO.out k hk) (fun h=>hne (h ▸ hk.symm)));have c:w1.cell? ⟨b,0,none⟩=some (.pointer (some ⟨b,0,none⟩)):=(bp hb1 0).trans rfl;have d:w1.cell? ⟨b,1,none⟩=some v:=(bp hb1 1).trans rfl;have HB1:=Lib.hid hb1;have HO1:=Lib.hid ho1;have HF:=Lib.hid hfr;clear hb1 ho1 hfr;go_wp2_with (at_builtin; refine ob w1 rfl _ _ _ _ rfl 5 Tryz.underlying72 Tryz.underlying9 sI v l.length (bR l) rfl HO1.out s rfl hl ?_; intro v1 a ho2 hg hat; obtain⟨a1,f,rfl⟩:=oc ho2; have HO2:=Lib.hid ho2; clear ho2; have HN:=Lib.hid (o5 HO1.out HB1.out QJ); have HB2:=Lib.hid (show a.heap[b]? = _ from (hg.block b (lx HB1.out) HN.out).trans HB1.out); have g:a.cell? ⟨b,0,none⟩=some (.pointer (some ⟨b,0,none⟩)):=(bp HB2.out 0).trans rfl; have i:a.cell? ⟨b,1,none⟩=some v:=(bp HB2.out 1).trans rfl; have j:a.frozen? ⟨b,1,none⟩=false:=bZ HB2.out 1; have HG:=Lib.hid hg; have HAT:=Lib.hid hat; clear hg hat)
 go_ret2
 have ho2:=HO2.out;rw[rJ,<- kZ] at ho2;refine⟨_,_,_,rfl,⟨rfl,rfl,rfl⟩,?_⟩;exact sW.stored HF.out hF HB1.out HO1.out ho2 HG.out (by rcases HAT.out with h | h; exact .inl h; exact .inr ⟨_,h,NA _⟩) (lx HB.out)
theorem BF (b:Nat) (l:AI):hN Tryz.prog 197 #[.pointer (some ⟨b,0,none⟩)] (sW b l) (fun v A' N=>v= .string (aW l)/\A'=aI/\N = []):=by
 rintro F w ⟨p,v,hp,hb,ho,hF⟩;have done: ∀ w',Fr F w w'->St F w [aI] w':=fun w' h=>⟨h,fun _=>False,fun _ h=>h,fun _ h=>h.elim,trivial⟩;have DONE:=Lib.hid done;clear done;have hUS0: ∀ (W:World) (q:AT),(Builtin.unsafeString_ #[319,3] 9 #[.pointer q,.int .i64 0]).run Tryz.prog W= .ok (.string .empty) W:=fun W q=>Lib.run_unsafeString_none W _ _ _ q;have d:l = []\/l ≠ []:=by cases l; exact .inl rfl; exact .inr (by simp)
 rcases ho.2 with⟨rfl,hz⟩ | ⟨g,cap,cur,rfl,_,hg,hnc,hcm,hcs,htake⟩
 ·obtain rfl:l = []:=List.length_eq_zero_iff.1 hz;have c:w.drew.cell? ⟨b,1,none⟩=some A5:=(bp (w:=w.drew) hb 1).trans rfl;have hSD:(Builtin.unsafeSliceData_ #[72] 319 #[A5]).run Tryz.prog w.drew= .ok (.pointer none) w.drew:=rfl;clear hb ho hp;go_enter Tryz.func197,Tryz.ntmps197
  go_wp2
  go_region
  all_goals (go_wp2; go_ret; exact⟨_,_,_,rfl,⟨rfl,rfl,rfl⟩,DONE.out _ (Fr.refl F w).drew⟩)
 ·have hgF:F g:=(hF g).2 (.inr rfl);have HGF:=Lib.hid hgF;clear hgF;rcases d with rfl | a
  ·by_cases hc0:cap=0
   ·subst hc0;have hb':w.drew.heap[b]? = some (.cells #[p,.slice (some ⟨g,0,none⟩) 0 0] 292 (0,0)):=hb;have c:w.drew.cell? ⟨b,1,none⟩=some (.slice (some ⟨g,0,none⟩) 0 0):=(bp hb' 1).trans rfl
    have hSD:(Builtin.unsafeSliceData_ #[72] 319 #[.slice (some ⟨g,0,none⟩) 0 0]).run Tryz.prog w.drew= .ok (.pointer (some ⟨w.drew.heap.size,0,none⟩)) (w.drew.alloc (.view ⟨g,0,none⟩ 5)) :=
     Lib.run_unsafeSliceData_zero w.drew _ _ 5 Tryz.underlying319 ⟨g,0,none⟩ 0 (5,cur.size) (by have hg':w.drew.heap[g]? = some (.cells cur 5 (0,0)):=hg; simp[World.shape?,hg'])
    have c2:(w.drew.alloc (.view ⟨g,0,none⟩ 5)).cell? ⟨b,1,none⟩=some (.slice (some ⟨g,0,none⟩) 0 0):=by
     have h:=(Lib.alloc_old w.drew (.view ⟨g,0,none⟩ 5) b (lx hb')).trans hb';exact (bp h 1).trans rfl
    have e:(w.alloc (.view ⟨g,0,none⟩ 5)).drew.cell? ⟨b,1,none⟩=some (.slice (some ⟨g,0,none⟩) 0 0):=c2;have f:w.cell? ⟨b,1,none⟩=some (.slice (some ⟨g,0,none⟩) 0 0):=c;clear hb hb' ho hp hg htake hcs;go_enter Tryz.func197,Tryz.ntmps197
    go_wp2
    go_region
    all_goals (go_wp2; go_ret; exact⟨_,_,_,rfl,⟨rfl,rfl,rfl⟩,DONE.out _ ((Fr.refl F w).drew.alloc _)⟩)
   ·have c:w.drew.cell? ⟨b,1,none⟩=some (.slice (some ⟨g,0,none⟩) 0 cap):=(bp (w:=w.drew) hb 1).trans rfl;have hSD:(Builtin.unsafeSliceData_ #[72] 319 #[.slice (some ⟨g,0,none⟩) 0 cap]).run Tryz.prog w.drew= .ok (.pointer (some ⟨g,0,none⟩)) w.drew:=Lib.run_unsafeSliceData_row _ _ _ _ _ _ hc0;clear hb ho hp hg htake hcs hc0;go_enter Tryz.func197,Tryz.ntmps197
    go_wp2
    go_region
    all_goals (go_wp2; go_ret; exact⟨_,_,_,rfl,⟨rfl,rfl,rfl⟩,DONE.out _ (Fr.refl F w).drew⟩)
  ·have hlen:l.length≠0:=by simpa using a
   have c:w.drew.cell? ⟨b,1,none⟩=some (.slice (some ⟨g,0,none⟩) l.length cap):=(bp (w:=w.drew) hb 1).trans rfl;have hSD:(Builtin.unsafeSliceData_ #[72] 319 #[.slice (some ⟨g,0,none⟩) l.length cap]).run Tryz.prog w.drew= .ok (.pointer (some ⟨g,0,none⟩)) w.drew:=Lib.run_unsafeSliceData_row _ _ _ _ _ _ QI;have hUS:(Builtin.unsafeString_ #[319,3] 9 #[.pointer (some ⟨g,0,none⟩),.int .i64 l.length]).run Tryz.prog w.drew= .ok (.string ⟨l.toArray⟩) (w.drew.freeze ⟨g,0,none⟩ l.length):=by
    refine Lib.run_unsafeString_row w.drew 319 3 9 5 Tryz.underlying319 QK g cur.size (by have hg':w.drew.heap[g]? = some (.cells cur 5 (0,0)):=hg; simp[World.shape?,hg']) l a QI (by unfold maxLen at hcm; omega) ?_;intro j x hx;have:=ho.cells (g:=g) rfl j (.int .u8 x.toNat) (by simp[bR,hx]);exact this
   clear hb ho hp hg htake hcs a hlen hUS0;go_enter Tryz.func197,Tryz.ntmps197
   go_wp2
   go_region
   all_goals (go_wp2; go_ret; exact⟨_,_,_,rfl,⟨rfl,rfl,rfl⟩,DONE.out _ (Fz (Fr.refl F w).drew (p:=⟨g,0,none⟩) HGF.out _)⟩)
def Ae (st:AI) (s:AI):Option AI:=if st.length+s.length<=140737488355328 then some (st++s) else none
theorem Af (g:Nat) (st:AI) (s:AI) (r:AI) (h:Ae st s=some r):aB Tryz.prog 196 #[.pointer (some ⟨g,0,none⟩),.string (aW s)] .triv (sW g st) (fun v A' N=>v= .tuple #[.int .i64 (aW s).size,.nilIface]/\A'=sW g r/\N = []):=by
 unfold Ae at h;split at h
 ·rename_i a;obtain rfl:=M2 h;have k:=C4 g st (aW s) (by rw[bsOf_size]; exact a);rw[cZ] at k;exact KY k
 ·simp at h
def GP (st:AI):Option AI:=some st
theorem C5 (g:Nat) (st:AI) (r:AI) (h:GP st=some r):aB Tryz.prog 197 #[.pointer (some ⟨g,0,none⟩)] .triv (sW g st) (fun v A' N=>v= .string (aW r)/\A'=aI/\N = []):=by
 unfold GP at h;obtain rfl:=M2 h;exact KY (BF g _)
section
variable {P:Program} {n:Nat} {F0:Nat->Prop} {w0:World} {e:Env} {Rs Rf:List Res} {Q:Exit->Act->World->Prop} {ops:Array Oper} {i d:Nat} {ty t:TypeId} {pos:String} {af:Array Edge} {gd:Option (Nat×Bool)} {l:List Nat} {lo:Sch}
theorem sW.of_blk {b:Nat} {w:World} {G:Nat->Prop} (h:(aR b 292 #[.pointer none,A5]).P w G):(sW b []).P w G:=by
 obtain⟨a,c⟩:=h;exact⟨_,_,.inl rfl,a,World.ownsRow_nil _ _ _ _,fun k=>by simp[c k,Value.ownBlock]⟩
theorem TL.newbld {zv:Value} (ho:ops[i]? = some ⟨some d,.alloc t,ty,pos,af,gd⟩) (hw:Wd n ops e ⟨some d,.alloc t,ty,pos,af,gd⟩ true) (hz: ∀ w,(zeroValue t).run P w= .ok zv w) (hd:Nat.blt d n=true)
 (h: ∀ b,TL P n F0 w0 ops l ((d,.pointer (some ⟨b,0,none⟩))::e) (sW b []::Rs) Q) (ht:t=292:=by rfl) (hzv:zv= .agg #[.pointer none,A5]:=by rfl):TL P n F0 w0 ops (i::l) e Rs Q:=by
 refine TL.alloc ho hw hz hd (fun b=> ?_);intro a w ha hs;subst ht hzv;exact h b a w ha (hs.weaken 0 rfl (fun G hG=>sW.of_blk hG))
end
section
variable {α:Type} {P:Program} {n:Nat} {F0:Nat->Prop} {w0:World} {e:Env} {Rs:List Res} {Q:Exit->Act->World->Prop} {ops:Array Oper} {l:List Nat} {c:Code} {S:Nat->Prop} {E:Rd α} {size m cp k:Nat} {A:AT} {xs:List α} {x:α} {B:Res}
end
section
variable {F0:Nat->Prop} {w0 w:World} {Rs l:List Res} {X:RX} {α:Type} {E:Rd α} {b T z m:Nat} {us:List Value} {xs:List α} {G:Nat->Prop}
end
def PakR {ι:Type} (f:ι->List Res):Res where
 P:=fun w G=>(∃ i,Sep (f i) w G)/\ ∀ k,G k->k<w.heap.size
 lt:=fun h k hk=>h.2 k hk
 move:=fun {w w' G} h hm=>⟨let ⟨i,hi⟩:=h.1; ⟨i,hi.move_ hm⟩,fun k hk=>by
  have b:=h.2 k hk;have a:=hm k hk;rw[Array.getElem?_eq_getElem b] at a;exact (Array.getElem?_eq_some_iff.1 a).1⟩
section
variable {P:Program} {n:Nat} {F0:Nat->Prop} {w0 w:World} {e:Env} {Rs Rs' Rf:List Res} {Q:Exit->Act->World->Prop} {ops:Array Oper} {l:List Nat} {c:Code} {x:Exit} {ι:Type} {f:ι->List Res}
theorem Sep.splitA: ∀ {As Bs:List Res} {w:World} {F:Nat->Prop},Sep (As++Bs) w F-> ∃ G,Sep As w G/\(∀ k,G k->F k)/\(∀ k,G k->k<w.heap.size)/\Sep Bs w (fun k=>F k/\ ¬ G k)
 | [],Bs,w,F,h=>⟨fun _=>False,trivial,fun _ h=>h.elim,fun _ h=>h.elim,h.mono (fun k hk=>⟨hk,fun h=>h⟩)⟩
 | A::As,Bs,w,F,⟨H,a,c,d⟩=>by
  obtain⟨G,e,b,f,g⟩:=Sep.splitA d;refine⟨fun k=>H k\/G k,⟨H,a,fun k hk=> .inl hk,e.mono (fun k hk=>⟨.inr hk,(b k hk).2⟩)⟩,?_,?_,g.mono (fun k hk=>⟨hk.1.1,fun h=>h.elim hk.1.2 hk.2⟩)⟩
  ·rintro k (hk | hk)
   ·exact c k hk
   ·exact (b k hk).1
  ·rintro k (hk | hk)
   ·exact A.lt a k hk
   ·exact f k hk
theorem St.pakShut (i:ι) (h:St F0 w0 (f i++Rs) w):St F0 w0 (PakR f::Rs) w:=by
 obtain⟨fr,hs⟩:=h;obtain⟨G,a,b,c,d⟩:=Sep.splitA hs;exact⟨fr,G,⟨⟨i,a⟩,c⟩,b,d⟩
theorem TL.pakShut (i:ι) (hR:Rs=f i++Rs') (h:TL P n F0 w0 ops l e (PakR f::Rs') Q):TL P n F0 w0 ops l e Rs Q:=fun a w ha hs=>h a w ha (by rw[hR] at hs; exact hs.pakShut i)
end
section
variable {P:Program} {n:Nat} {F0:Nat->Prop} {w0 w:World} {e:Env} {Rs Rf:List Res} {Q:Exit->Act->World->Prop} {ops:Array Oper} {d:Option Tmp} {i:Nat} {ty t t' el:TypeId} {pos:String} {af:Array Edge} {gd:Option (Nat×Bool)} {v:Value} {x y:Operand} {L:List Nat} {lo:Sch} {cd:Code}
variable {U c m k:Nat} {A:AT}
variable {α:Type} {E:Rd α} {z:Nat} {xs ys:List α}
def BG (A:AT) (c k z:Nat):AT:=if c=k then A else A.map (·.add (k*z))
end
section
variable {P:Program} {n:Nat} {F0:Nat->Prop} {w0:World} {e:Env} {Rs:List Res} {Q:Exit->Act->World->Prop}
end
section
variable {P:Program} {n:Nat} {F0:Nat->Prop} {w0 w:World} {e e':Env} {Rs Rs' Rf:List Res} {Q:Exit->Act->World->Prop} {ops:Array Oper} {L:List Nat} {lo:Sch} {cd:Code} {K:Act->World->Prop} {l id:Nat} {J:Nat->Nat->Env->List Res->Prop} {J':Nat->Act->World->Prop}
variable {d:Option Tmp} {i:Nat} {ty t t' el:TypeId} {pos:String} {af:Array Edge} {gd:Option (Nat×Bool)} {v:Value} {x y:Operand}
variable {α:Type} {E:Rd α} {z:Nat} {xs ys:List α} {A A2:AT} {m c c2 k:Nat} {U bytes:Nat} {zv:Value}
theorem rd_cap {G:Nat->Prop} (h:(RX.of (ar z E) [.slice A m c] xs).P w G):m=xs.length/\m<=c:=by
 rcases h with⟨h,rfl⟩ | ⟨a,cap,h,f,g,_⟩
 ·injection h with h;injection h with d b e;exact⟨b,by omega⟩
 ·injection h with h;injection h with d b e;exact⟨b,by omega⟩
theorem RX.sub {G:Nat->Prop} {p q:Nat} (h:(RX.of (ar z E) [.slice A m c] xs).P w G) (hpq:p<=q) (hq:q<=xs.length) (hl:((xs.drop p).take (q - p))=ys):(RX.of (ar z E) [.slice (BG A c p z) ys.length (c - p)] ys).P w G:=by
 subst hl;have hlen:((xs.drop p).take (q - p)).length=q - p:=by rw[Np,Nb]; omega
 rcases h with⟨h,rfl⟩ | ⟨a,cap,h,l,n,hb,hr⟩
 ·injection h with h;injection h with b e d;subst b d;obtain rfl:q=0:=by simpa using hq
  obtain rfl:p=0:=by omega
  exact .inl ⟨rfl,by simp⟩
 ·injection h with h;injection h with b e d;subst b d;by_cases hc:c=p
  ·have hz:q - p=0:=by omega
   refine .inr ⟨a,c - p,by simp[BG,hc],by rw[hlen]; omega,by omega,fun h=>by omega,fun i x hx=> ?_⟩;have:=(M6 hx).1;omega
  ·refine .inr ⟨a.add (p*z),c - p,by simp[BG,hc],by rw[hlen]; omega,by omega,fun h=>by rw[Go.ChangeShapes.block_add]; exact hb QI,fun i x hx=> ?_⟩;rw[List.getElem?_take] at hx;split at hx
   ·rw[List.getElem?_drop] at hx;obtain⟨cs,f,g,k⟩:=hr (p+i) x hx;refine⟨cs,f,fun j hj=> ?_,k⟩;rw[<- g j hj];congr 1;unfold Addr.add;split <;> split <;> simp_all [Nat.add_mul,Nat.add_assoc]
   ·exact nomatch hx
theorem Ex.subS {lw hi:Option Operand} {p q mm:Nat} {S:World->Prop} (hS: ∀ w,S w->m<=c) (hx:e.ev x=some (.slice A m c)) (hu: ∀ w,(underlying t).run P w= .ok (.slice el) w) (hz: ∀ w,(sizeOf el).run P w= .ok z w) (hlo:LoOK e lw p) (hhi:HiOK e m hi q) (hpq:p<=q) (hq:q<=m) (hm:mm=q - p) :
 Ex P n e S ⟨d,.slice t x lw hi none,ty,pos,af,gd⟩ (.slice (BG A c p z) mm (c - p)):=by
 intro a w ha hs;subst hm;have hmc:=hS w hs;have g: ∀ kd cd,(Instr.sliceBound (.int kd (q:Int)) c cd).run P w= .ok q w:=by
  intro kd cd;have:(0:Int)<=(q:Int)/\(q:Int)<=(c:Int):=by omega
  simp[Instr.sliceBound,asIntOf,this]
 have h: ∀ kd cd,(Instr.sliceBound (.int kd (p:Int)) q cd).run P w= .ok p w:=by
  intro kd cd;have:(0:Int)<=(p:Int)/\(p:Int)<=(q:Int):=by omega
  simp[Instr.sliceBound,asIntOf,this]
 cases hlo with
 | none =>
  cases hhi with
  | none=>simp[execOp,ha.ev hx,Instr.sliceAt,Instr.slice,hu,hz,Instr.sliceBounds,BG]
  | some b f =>
   subst f;simp[execOp,ha.ev hx,ha.ev b,Instr.sliceAt,Instr.slice,hu,hz,Instr.sliceBounds,g,BG]
 | some b f =>
  subst f
  cases hhi with
  | none=>simp[execOp,ha.ev hx,ha.ev b,Instr.sliceAt,Instr.slice,hu,hz,Instr.sliceBounds,h,BG]
  | some i j =>
   subst j;simp[execOp,ha.ev hx,ha.ev b,ha.ev i,Instr.sliceAt,Instr.slice,hu,hz,Instr.sliceBounds,g,h,BG]
theorem cap_of {B:Res} (j:Nat) (hj:Rs[j]? = some B) (hB: ∀ w G,B.P w G->(RX.of (ar z E) [.slice A m c] xs).P w G): ∀ w,St F0 w0 Rs w->m<=c:=fun w hw=>let ⟨G,h,_⟩:=hw.get j hj; (rd_cap (hB w G h)).2
end
section
variable {P:Program} {t el:TypeId}
end
def GQ (ops:Array Oper) (e:Env):Option (Nat×Bool)->Option Bool
 | none=>some true
 | some (j,want)=>match (ops[j]?).bind (·.dst) with
  | some t=>match e.get t with
   | some (.bool b)=>some (match b with | true=>want | false=> !want)
   | some _=>some false
   | none=>none
  | none=>none
theorem ow {n:Nat} {ops:Array Oper} {e:Env} {d:Option Tmp} {op:Op} {ty:TypeId} {pos:String} {af:Array Edge} {g:Option (Nat×Bool)} {b:Bool} (h:GQ ops e g=some b):Wd n ops e ⟨d,op,ty,pos,af,g⟩ b:=by
 intro a ha
 cases g with
 | none =>
  cases h;rfl
 | some g =>
  obtain⟨j,want⟩:=g;simp only[GQ] at h;split at h
  ·rename_i t hj;split at h
   ·rename_i b' hv;injection h with h;subst h;simp only[Region.wanted,yielded,hj,M3,ha.at_ t _ hv];cases b' <;> cases want <;> rfl
   ·rename_i v hne hv;injection h with h;subst h;simp only[Region.wanted,yielded,hj,M3,ha.at_ t _ hv];cases v <;> first | rfl | exact absurd rfl (hne _)
   ·cases h
  ·cases h
def FC:List Nat->Nat->Bool
 | [],_=>false
 | a::r,t=>match Nat.beq a t with
  | true=>true
  | false=>FC r t
def NOK (P:Program):List Nat->Prop
 | []=>True
 | a::r=>(∀ w,(isAgg a).run P w= .ok false w)/\NOK P r
theorem NOK.get {P:Program}: ∀ {l:List Nat},NOK P l-> ∀ {t:Nat},FC l t=true-> ∀ w,(isAgg t).run P w= .ok false w
 | [],_,t,h=>by simp[FC] at h
 | a::r,⟨b,c⟩,t,h=>by
  simp only[FC] at h
  cases hb:Nat.beq a t with
  | true =>
   obtain rfl:=Nat.eq_of_beq_eq_true hb;exact b
  | false=>rw[hb] at h; exact NOK.get c h
def yZ (ft:eY) (nt:List Nat) (cs:Array Value) (e:Env) (L:List Nat):Op->Option (Value×List Nat)
 | .pick c x y=>match e.ev c with
  | some (.bool b)=>match b with
   | true=>match e.ev x with
    | some v=>some (v,L)
    | none=>none
   | false=>match e.ev y with
    | some v=>some (v,L)
    | none=>none
  | _=>none
 | .load t x=>match FC nt t with
  | true=>match e.ev x with
   | some (.pointer (some ⟨b,o,none⟩))=>match cs[o]? with
    | some v=>some (v,b::L)
    | none=>none
   | _=>none
  | false=>none
 | op=>match BC ft e op with
  | some v=>some (v,L)
  | none=>none
def tT (ft:eY) (nt:List Nat) (cs:Array Value) (n:Nat) (ops:Array Oper):Env->List Nat->List Nat->Option (Env×List Nat)
 | e,L,[]=>some (e,L)
 | e,L,i::is=>match ops[i]? with
  | some ⟨d,op,_,_,_,g⟩=>match GQ ops e g with
   | some true=>match d with
    | some d=>match Nat.blt d n with
     | true=>match yZ ft nt cs e L op with
      | some (v,L')=>tT ft nt cs n ops ((d,v)::e) L' is
      | none=>none
     | false=>none
    | none=>none
   | some false=>match d with
    | some d=>match Nat.blt d n with
     | true=>tT ft nt cs n ops ((d,undef)::e) L is
     | false=>none
    | none=>tT ft nt cs n ops e L is
   | none=>none
  | none=>none
section
variable {P:Program} {n:Nat} {F0:Nat->Prop} {w0:World} {e e':Env} {Rs:List Res} {Q:Exit->Act->World->Prop} {ops:Array Oper} {ft:eY} {nt:List Nat} {cs:Array Value} {b T j:Nat} {L L' l:List Nat}
theorem FD {op:Op} {v:Value} (h:yZ ft nt cs e L op=some (v,L')): ∀ x∈L,x∈L':=by
 unfold yZ at h
 repeat' split at h
 all_goals first | cases h | skip
 all_goals first | exact fun x hx=>hx | exact fun x hx=>List.mem_cons_of_mem _ hx
theorem sX: ∀ (is:List Nat) {e e':Env} {L L':List Nat},tT ft nt cs n ops e L is=some (e',L')-> ∀ x∈L,x∈L'
 | [],e,e',L,L',h=>by
  cases h;exact fun x hx=>hx
 | i::is,e,e',L,L',h=>by
  simp only[tT] at h
  repeat' split at h
  all_goals first | cases h | skip
  all_goals first | exact sX is h | (rename_i hp; exact fun x hx=>sX is h x (FD hp x hx))
theorem FE {d:Option Tmp} {op:Op} {ty:TypeId} {pos:String} {af:Array Edge} {g:Option (Nat×Bool)} {v:Value} (hft:ft.OK P) (hnt:NOK P nt) (hi:Rs[j]? = some (aR b T cs)) (h:yZ ft nt cs e L op=some (v,L')) (hL: ∀ x∈L',x=b) :
 Ex P n e (St F0 w0 Rs) ⟨d,op,ty,pos,af,g⟩ v:=by
 unfold yZ at h;split at h
 ·split at h
  ·rename_i hc;split at h
   ·split at h
    ·rename_i hx;cases h;exact Ld hc rfl hx
    ·cases h
   ·split at h
    ·rename_i hx;cases h;exact Li hc rfl hx
    ·cases h
  ·cases h
 ·split at h
  ·rename_i ht;split at h
   ·rename_i b' o hx;split at h
    ·rename_i hv;cases h;obtain rfl:=hL b' (List.mem_cons_self ..);exact KI j hx (hnt.get ht) hi hv
    ·cases h
   ·cases h
  ·cases h
 ·split at h
  ·rename_i hv;cases h;exact oq hft hv
  ·cases h
theorem TL.runB_ (hft:ft.OK P) (hnt:NOK P nt) (hi:Rs[j]? = some (aR b T cs)): ∀ (is:List Nat) {e e':Env} {L L' l:List Nat},tT ft nt cs n ops e L is=some (e',L')->(∀ x∈L',x=b)->TL P n F0 w0 ops l e' Rs Q->TL P n F0 w0 ops (is++l) e Rs Q
 | [],e,e',L,L',l,h,_,k=>by
  cases h;exact k
 | i::is,e,e',L,L',l,h,hL,k=>by
  simp only[tT] at h;split at h
  ·rename_i d op ty pos af g ho;split at h
   ·rename_i hw;split at h
    ·rename_i d;split at h
     ·rename_i hd;split at h
      ·rename_i v L1 hv;exact TL.q ho (ow hw) (FE hft hnt hi hv (fun x hx=>hL x (sX is h x hx))) hd (TL.runB_ hft hnt hi is h hL k)
      ·cases h
     ·cases h
    ·cases h
   ·rename_i hw;split at h
    ·rename_i d;split at h
     ·rename_i hd;exact TL.no ho (ow hw) hd (TL.runB_ hft hnt hi is h hL k)
     ·cases h
    ·exact TL.no0 ho (ow hw) (TL.runB_ hft hnt hi is h hL k)
   ·cases h
  ·cases h
theorem Kf (hft:ft.OK P) (hnt:NOK P nt) (j:Nat) (hi:Rs[j]? = some (aR b T cs)) (k:Nat) (h:tT ft nt cs n ops e [] (l.take k)=some (e',L)) (hL:L=L.map fun _=>b) (K:TL P n F0 w0 ops (l.drop k) e' Rs Q):TL P n F0 w0 ops l e Rs Q:=by
 have a: ∀ x∈L,x=b:=fun x hx=>by
  rw[hL] at hx;obtain⟨_,_,rfl⟩:=List.mem_map.1 hx;rfl
 have c:=TL.runB_ hft hnt hi (l.take k) h a K
 rwa [List.take_append_drop] at c
theorem L7 (hft:ft.OK P): ∀ (is:List Nat) {e e':Env} {l:List Nat},tT ft [] #[] n ops e [] is=some (e',[])->TL P n F0 w0 ops l e' Rs Q->TL P n F0 w0 ops (is++l) e Rs Q
 | [],e,e',l,h,k=>by
  cases h;exact k
 | i::is,e,e',l,h,k=>by
  simp only[tT] at h;split at h
  ·rename_i d op ty pos af g ho;split at h
   ·rename_i hw;split at h
    ·rename_i d;split at h
     ·rename_i hd;split at h
      ·rename_i v L1 hv;have hL1:L1 = []:=by
        cases L1 with
        | nil=>rfl
        | cons x r=>exact absurd (sX is h x (List.mem_cons_self ..)) (by simp)
       subst hL1;have hx:Ex P n e (St F0 w0 Rs) ⟨some d,op,ty,pos,af,g⟩ v:=by
        unfold yZ at hv;split at hv
        ·split at hv
         ·rename_i hc;split at hv
          ·split at hv
           ·rename_i hx;cases hv;exact Ld hc rfl hx
           ·cases hv
          ·split at hv
           ·rename_i hx;cases hv;exact Li hc rfl hx
           ·cases hv
         ·cases hv
        ·simp[FC] at hv
        ·split at hv
         ·rename_i hv';cases hv;exact oq hft hv'
         ·cases hv
       exact TL.q ho (ow hw) hx hd (L7 hft is h k)
      ·cases h
     ·cases h
    ·cases h
   ·rename_i hw;split at h
    ·rename_i d;split at h
     ·rename_i hd;exact TL.no ho (ow hw) hd (L7 hft is h k)
     ·cases h
    ·exact TL.no0 ho (ow hw) (L7 hft is h k)
   ·cases h
  ·cases h
theorem Ki (hft:ft.OK P) (k:Nat) (h:tT ft [] #[] n ops e [] (l.take k)=some (e',[])) (K:TL P n F0 w0 ops (l.drop k) e' Rs Q):TL P n F0 w0 ops l e Rs Q:=by
 have a:=L7 hft (l.take k) h K
 rwa [List.take_append_drop] at a
theorem Kh (d:Nat) {x y:Bool} (hv:e.get d=some (.bool x)) (h:x=y) (K:TL P n F0 w0 ops l ((d,.bool y)::e) Rs Q):TL P n F0 w0 ops l e Rs Q:=fun a w ha hs=>by
 refine K a w (ha.sub (fun t u hu=> ?_)) hs;simp only[Env.get] at hu
 cases hb:Nat.beq d t with
 | true =>
  rw[hb] at hu;obtain rfl:=Nat.eq_of_beq_eq_true hb;injection hu with hu;rw[hv,h,hu]
 | false=>rw[hb] at hu; exact hu
end
def AndR (A B:Res):Res:=PakR (fun _:Unit => [A,B])
theorem TL.pair {P:Program} {n:Nat} {F0:Nat->Prop} {w0:World} {e:Env} {Rs:List Res} {Q:Exit->Act->World->Prop} {ops:Array Oper} {l:List Nat} {A B:Res} (h:TL P n F0 w0 ops l e (AndR A B::Rs) Q):TL P n F0 w0 ops l e (A::B::Rs) Q:=TL.pakShut (f:=fun _:Unit => [A,B]) () rfl h
theorem and2 {α β:Type} {a:Rd α} {b:Rd β} {v1 v2:List Value} {c:α} {d:β} {w:World} {G:Nat->Prop} (h:(AndR (RdR a v1 c) (RdR b v2 d)).P w G):a.P w G v1 c/\b.P w G v2 d:=by
 obtain⟨⟨_,j,e,f,l,g,i,_⟩,_⟩:=h;exact⟨a.mono e.1 f,b.mono g.1 (fun k hk=>(i k hk).1)⟩
theorem FF {α β γ:Type} {a:Rd α} {b:Rd β} {c:Rd γ} {v1 v2 v3:List Value} {d:α} {e:β} {f:γ} {w:World} {G:Nat->Prop} (h:(AndR (AndR (RdR a v1 d) (RdR b v2 e)) (RdR c v3 f)).P w G):a.P w G v1 d/\b.P w G v2 e/\c.P w G v3 f:=by
 obtain⟨⟨_,n,j,g,o,l,m,_⟩,_⟩:=h;have i:=and2 j;exact⟨a.mono i.1 g,b.mono i.2 g,c.mono l.1 (fun k hk=>(m k hk).1)⟩
def wL0 (x:Bl):List Value := [.bool x.null,.string (aW x.data)]
def wL1 (x:Hd):List Value := [.string (aW x.MD),.bool x.Mu.null,.string (aW x.Mu.data)]
def wA2 (x:Gt):Array Value:= #[.bool x.blob.null,.string (aW x.blob.data),.int .i64 x.many,.int .i64 x.err]
def wA3 (x:Bl):Array Value:= #[.bool x.null,.string (aW x.data)]
def wA4 (x:Rec) (a:AT) (b:Nat):Array Value:= #[.int .i64 x.MH,.int .i64 x.My,.bool x.MD.null,.string (aW x.MD.data),.bool x.Mu.null,.string (aW x.Mu.data),.slice a x.Ms.length b]
def wA5 (x:lZ) (a:AT) (b:Nat):Array Value:= #[.int .i64 x.MM.MH,.int .i64 x.MM.My,.bool x.MM.MD.null,.string (aW x.MM.MD.data),.bool x.MM.Mu.null,.string (aW x.MM.Mu.data),.slice a x.MM.Ms.length b,.int .i64 x.MV,.int .i64 x.MX]
def wA6 (x:Bat) (a:AT) (b:Nat):Array Value:= #[.int .i64 x.ME,.int .i64 x.MA,.bool x.MS,.bool x.MI,.bool x.ML,.int .i64 x.MC,.int .i64 x.Mr,.int .i64 x.MK,.int .i64 x.Md,.int .i64 x.Mf,.int .i64 x.Mv,.slice a x.Mg.length b]
def wL7 (x:Bat) (a:AT) (b:Nat):List Value := [.int .i64 x.ME,.int .i64 x.MA,.bool x.MS,.bool x.MI,.bool x.ML,.int .i64 x.MC,.int .i64 x.Mr,.int .i64 x.MK,.int .i64 x.Md,.int .i64 x.Mf,.int .i64 x.Mv,.slice a x.Mg.length b]
def wL8 (x:Rec) (a:AT) (b:Nat):List Value := [.int .i64 x.MH,.int .i64 x.My,.bool x.MD.null,.string (aW x.MD.data),.bool x.Mu.null,.string (aW x.Mu.data),.slice a x.Ms.length b]
def wA9 (x:jZ) (a:AT) (b:Nat):Array Value:= #[.int .i64 x.MT.ME,.int .i64 x.MT.MA,.bool x.MT.MS,.bool x.MT.MI,.bool x.MT.ML,.int .i64 x.MT.MC,.int .i64 x.MT.Mr,.int .i64 x.MT.MK,.int .i64 x.MT.Md,.int .i64 x.MT.Mf,.int .i64 x.MT.Mv,.slice a x.MT.Mg.length b,.int .i64 x.MV,.int .i64 x.MX]
def vF (x:aJ) (a:AT) (b:Nat):Array Value:= #[.bool x.Mk.null,.string (aW x.Mk.data),.int .i64 x.Mh,.int .i64 x.Md,.int .i64 x.Mf,.slice a x.Mc.length b,.bool x.Mx]
def wL11 (x:aJ) (a:AT) (b:Nat):List Value := [.bool x.Mk.null,.string (aW x.Mk.data),.int .i64 x.Mh,.int .i64 x.Md,.int .i64 x.Mf,.slice a x.Mc.length b,.bool x.Mx]
def FG (x:bE) (a:AT) (b:AT) (A2:AT) (c:Nat) (d:Nat) (c2:Nat):Array Value:= #[.int .i64 x.Mi.Mn,.int .i64 x.Mi.Ml,.int .i64 x.Mi.Mt,.bool x.Mi.Mj.null,.string (aW x.Mi.Mj.data),.bool x.MI.Mk.null,.string (aW x.MI.Mk.data),.int .i64 x.MI.Mh,.int .i64 x.MI.Md,.int .i64 x.MI.Mf,.slice a x.MI.Mc.length c,.bool x.MI.Mx,.slice b x.MF.length d,.bool x.Mp.Mk.null,.string (aW x.Mp.Mk.data),.int .i64 x.Mp.Mz,.int .i64 x.Mp.Mh,.slice A2 x.Mp.Mc.length c2]
def wA13 (x:gJ) (a:AT) (b:AT) (A2:AT) (c:Nat) (d:Nat) (c2:Nat):Array Value:= #[.int .i64 x.MP.Mi.Mn,.int .i64 x.MP.Mi.Ml,.int .i64 x.MP.Mi.Mt,.bool x.MP.Mi.Mj.null,.string (aW x.MP.Mi.Mj.data),.bool x.MP.MI.Mk.null,.string (aW x.MP.MI.Mk.data),.int .i64 x.MP.MI.Mh,.int .i64 x.MP.MI.Md,.int .i64 x.MP.MI.Mf,.slice a x.MP.MI.Mc.length c,.bool x.MP.MI.Mx,.slice b x.MP.MF.length d,.bool x.MP.Mp.Mk.null,.string (aW x.MP.Mp.Mk.data),.int .i64 x.MP.Mp.Mz,.int .i64 x.MP.Mp.Mh,.slice A2 x.MP.Mp.Mc.length c2,.int .i64 x.MV,.int .i64 x.MX]
def wA14 (x:bU) (a:AT) (b:Nat):Array Value:= #[.string (aW x.Mk),.int .i64 x.Md,.int .i64 x.Mf,.slice a x.Mc.length b]
def wL15 (x:bU) (a:AT) (b:Nat):List Value := [.string (aW x.Mk),.int .i64 x.Md,.int .i64 x.Mf,.slice a x.Mc.length b]
def wA16 (x:bT):Array Value:= #[.string (aW x.Mk),.int .i64 x.Md,.int .i64 x.Mf,.bool x.Mx]
def wL17 (x:bT):List Value := [.string (aW x.Mk),.int .i64 x.Md,.int .i64 x.Mf,.bool x.Mx]
def Ag (x:Pfx):Array Value:= #[.int .i64 x.ME,.int .i64 x.MB,.int .i64 x.MA,.int .i64 x.MQ,.int .i64 x.MO,.int .i64 x.MC,.int .i64 x.Mr,.int .i64 x.MK,.int .i64 x.Md,.int .i64 x.Mf,.int .i64 x.Mv,.int .i64 x.MR]
def wA19 (x:Hd):Array Value:= #[.string (aW x.MD),.bool x.Mu.null,.string (aW x.Mu.data)]
def wL20 (x:Pfx):List Value := [.int .i64 x.ME,.int .i64 x.MB,.int .i64 x.MA,.int .i64 x.MQ,.int .i64 x.MO,.int .i64 x.MC,.int .i64 x.Mr,.int .i64 x.MK,.int .i64 x.Md,.int .i64 x.Mf,.int .i64 x.Mv,.int .i64 x.MR]
def qt (x:aH) (a:AT) (b:AT) (A2:AT) (c:Nat) (d:Nat) (c2:Nat):Array Value:= #[.int .i64 x.Mi.Mn,.int .i64 x.Mi.Ml,.int .i64 x.Mi.Mt,.bool x.Mi.Mj.null,.string (aW x.Mi.Mj.data),.bool x.MG.Mk.null,.string (aW x.MG.Mk.data),.int .i64 x.MG.Mh,.int .i64 x.MG.Md,.int .i64 x.MG.Mf,.string (aW x.MJ.Mk),.int .i64 x.MJ.Md,.int .i64 x.MJ.Mf,.slice a x.MJ.Mc.length c,.string (aW x.MN.Mk),.int .i64 x.MN.Md,.int .i64 x.MN.Mf,.bool x.MN.Mx,.slice b x.MF.length d,.bool x.Mp.Mk.null,.string (aW x.Mp.Mk.data),.int .i64 x.Mp.Mz,.int .i64 x.Mp.Mh,.slice A2 x.Mp.Mc.length c2]
def C6 (x:aH) (a:AT) (b:AT) (A2:AT) (c:Nat) (d:Nat) (c2:Nat):List Value := [.int .i64 x.Mi.Mn,.int .i64 x.Mi.Ml,.int .i64 x.Mi.Mt,.bool x.Mi.Mj.null,.string (aW x.Mi.Mj.data),.bool x.MG.Mk.null,.string (aW x.MG.Mk.data),.int .i64 x.MG.Mh,.int .i64 x.MG.Md,.int .i64 x.MG.Mf,.string (aW x.MJ.Mk),.int .i64 x.MJ.Md,.int .i64 x.MJ.Mf,.slice a x.MJ.Mc.length c,.string (aW x.MN.Mk),.int .i64 x.MN.Md,.int .i64 x.MN.Mf,.bool x.MN.Mx,.slice b x.MF.length d,.bool x.Mp.Mk.null,.string (aW x.Mp.Mk.data),.int .i64 x.Mp.Mz,.int .i64 x.Mp.Mh,.slice A2 x.Mp.Mc.length c2]
def wA23 (x:aH):Array Value:= #[.int .i64 x.Mi.Mn,.int .i64 x.Mi.Ml,.int .i64 x.Mi.Mt,.bool x.Mi.Mj.null,.string (aW x.Mi.Mj.data),.bool x.MG.Mk.null,.string (aW x.MG.Mk.data),.int .i64 x.MG.Mh,.int .i64 x.MG.Md,.int .i64 x.MG.Mf,A5,.bool false,A5,.bool false,A7,.int .i64 0,.int .i64 0,A5]
def wA24 (x:aH) (a:AT) (b:Nat):Array Value:= #[.int .i64 x.Mi.Mn,.int .i64 x.Mi.Ml,.int .i64 x.Mi.Mt,.bool x.Mi.Mj.null,.string (aW x.Mi.Mj.data),.bool false,.string (aW x.MJ.Mk),.int .i64 0,.int .i64 x.MJ.Md,.int .i64 x.MJ.Mf,.slice a x.MJ.Mc.length b,.bool false,A5,.bool false,A7,.int .i64 0,.int .i64 0,A5]
def wA25 (x:aH):Array Value:= #[.int .i64 x.Mi.Mn,.int .i64 x.Mi.Ml,.int .i64 x.Mi.Mt,.bool x.Mi.Mj.null,.string (aW x.Mi.Mj.data),.bool false,.string (aW x.MN.Mk),.int .i64 0,.int .i64 x.MN.Md,.int .i64 x.MN.Mf,A5,.bool x.MN.Mx,A5,.bool false,A7,.int .i64 0,.int .i64 0,A5]
def wA26 (x:qr) (a:AT) (b:Nat):Array Value:= #[.slice a x.MW.length b,.int .i64 x.M0,.int .i64 x.MX]
def wL27 (x:bE) (a:AT) (b:AT) (A2:AT) (c:Nat) (d:Nat) (c2:Nat):List Value := [.int .i64 x.Mi.Mn,.int .i64 x.Mi.Ml,.int .i64 x.Mi.Mt,.bool x.Mi.Mj.null,.string (aW x.Mi.Mj.data),.bool x.MI.Mk.null,.string (aW x.MI.Mk.data),.int .i64 x.MI.Mh,.int .i64 x.MI.Md,.int .i64 x.MI.Mf,.slice a x.MI.Mc.length c,.bool x.MI.Mx,.slice b x.MF.length d,.bool x.Mp.Mk.null,.string (aW x.Mp.Mk.data),.int .i64 x.Mp.Mz,.int .i64 x.Mp.Mh,.slice A2 x.Mp.Mc.length c2]
def tU (x:aO):Array Value:= #[.int .i64 x.fcount.fmany,.int .i64 x.fcount.fat,.string (aW x.fheld),.int .i64 x.ferr]
def vA0:Array Value:= #[.bool false,A7,.int .i64 0,.int .i64 0,A5]
def vA1 (a:Int):Array Value:= #[.int .i64 0,.int .i64 0,.bool false,A7,.bool false,A7,A5,.int .i64 0,.int .i64 a]
def vA2 (a:Int) (b:Int):Array Value:= #[.int .i64 a,.int .i64 b,.bool false,A7,.bool false,A7,A5]
def vA3 (c:Int) (d:Int) (e:AT) (f:Nat) (g:Nat) (a:Gt) (b:Gt):Array Value:= #[.int .i64 c,.int .i64 d,.bool a.blob.null,.string (aW a.blob.data),.bool b.blob.null,.string (aW b.blob.data),.slice e g f,.int .i64 0,.int .i64 0]
def vA4 (b:AT) (c:Nat) (d:Nat) (a:lZ) (e:Gt):Array Value:= #[.int .i64 a.MM.MH,.int .i64 a.MM.My,.bool a.MM.MD.null,.string (aW a.MM.MD.data),.bool a.MM.Mu.null,.string (aW a.MM.Mu.data),.slice b d c,.int .i64 e.many,.int .i64 a.MX]
def vA5 (a:Int):Array Value:= #[.int .i64 0,.int .i64 0,.bool false,.bool false,.bool false,.int .i64 0,.int .i64 0,.int .i64 0,.int .i64 0,.int .i64 0,.int .i64 0,A5,.int .i64 0,.int .i64 a]
def vA6:Array Value:= #[.int .i64 0,.int .i64 0,.bool false,.bool false,.bool false,.int .i64 0,.int .i64 0,.int .i64 0,.int .i64 0,.int .i64 0,.int .i64 0,A5,.int .i64 0,.int .i64 0]
def vA7 (b:Int) (c:Int) (a:Int) (d:Int) (e:Int) (f:Int) (g:Int) (h:Int) (i:Int):Array Value:= #[.int .i64 b,.int .i64 c,.bool (decide (((a / 8) % 2)=1)),.bool (decide (((a / 16) % 2)=1)),.bool (decide ((a / 32)=1)),.int .i64 d,.int .i64 e,.int .i64 f,.int .i64 g,.int .i64 h,.int .i64 i,A5]
def vL8 (d:Int) (e:Int) (a:Int) (f:Int) (g:Int) (h:Int) (i:Int) (j:Int) (k:Int) (l:AT) (b:Nat) (c:Nat):List Value := [.int .i64 d,.int .i64 e,.bool (decide (((a / 8) % 2)=1)),.bool (decide (((a / 16) % 2)=1)),.bool (decide ((a / 32)=1)),.int .i64 f,.int .i64 g,.int .i64 h,.int .i64 i,.int .i64 j,.int .i64 k,.slice l c b]
def vA9 (e:Int) (f:Int) (a:Int) (g:Int) (h:Int) (i:Int) (j:Int) (k:Int) (l:Int) (m:AT) (b:Nat) (c:Nat) (d:Int):Array Value:= #[.int .i64 e,.int .i64 f,.bool (decide (((a / 8) % 2)=1)),.bool (decide (((a / 16) % 2)=1)),.bool (decide ((a / 32)=1)),.int .i64 g,.int .i64 h,.int .i64 i,.int .i64 j,.int .i64 k,.int .i64 l,.slice m c b,.int .i64 (d+12),.int .i64 0]
def BH:List Value := [.bool false,A7,.int .i64 0,.int .i64 0,A5]
def C7 (b:Int) (c:Int) (a:Gt):Array Value:= #[.bool a.blob.null,.string (aW a.blob.data),.int .i64 b,.int .i64 c,A5]
def vA12 (b:Int) (c:Int) (d:AT) (e:Nat) (f:Nat) (a:Gt):Array Value:= #[.bool a.blob.null,.string (aW a.blob.data),.int .i64 b,.int .i64 c,.slice d f e]
def nw:Array Value:= #[.int .i64 0,.int .i64 0,.int .i64 0,.bool false,A7]
def vL14:List Value := [.int .i64 0,.int .i64 0,.int .i64 0,.bool false,A7]
def Ah (a:Int) (b:Int):Array Value:= #[.int .i64 a,.int .i64 b,.int .i64 0,.bool false,A7]
def vA16 (a:Int) (b:Int) (c:Int):Array Value:= #[.int .i64 a,.int .i64 b,.int .i64 c,.bool false,A7]
def vA17 (b:Int) (c:Int) (d:Int) (a:Gt):Array Value:= #[.int .i64 b,.int .i64 c,.int .i64 d,.bool a.blob.null,.string (aW a.blob.data)]
def jL:Array Value:= #[.bool false,A7,.int .i64 0,.int .i64 0,.int .i64 0,A5,.bool false]
def sY:List Value := [.bool false,A7,.int .i64 0,.int .i64 0,.int .i64 0,A5,.bool false]
def vA20 (a:Gt):Array Value:= #[.bool a.blob.null,.string (aW a.blob.data),.int .i64 0,.int .i64 (-1),.int .i64 (-1),A5,.bool false]
def vA21 (b:Int) (a:Gt):Array Value:= #[.bool a.blob.null,.string (aW a.blob.data),.int .i64 b,.int .i64 (-1),.int .i64 (-1),A5,.bool false]
def vA22 (b:Int) (c:Int) (d:Int) (a:Gt):Array Value:= #[.bool a.blob.null,.string (aW a.blob.data),.int .i64 b,.int .i64 c,.int .i64 d,A5,.bool false]
def vL23 (b:Int) (a:Gt):List Value := [.bool a.blob.null,.string (aW a.blob.data),.int .i64 b,.int .i64 (-1),.int .i64 (-1),A5,.bool false]
def vA24 (b:Int) (c:Int) (a:Gt):Array Value:= #[.bool a.blob.null,.string (aW a.blob.data),.int .i64 0,.int .i64 b,.int .i64 c,A5,.bool false]
def vA25 (b:Int) (c:Int) (d:AT) (e:Nat) (f:Nat) (a:Gt):Array Value:= #[.bool a.blob.null,.string (aW a.blob.data),.int .i64 0,.int .i64 b,.int .i64 c,.slice d f e,.bool false]
def FH:Array Value:= #[.int .i64 0,.int .i64 0,.int .i64 0,.bool false,A7,.bool false,A7,.int .i64 0,.int .i64 0,.int .i64 0,A5,.bool false,A5,.bool false,A7,.int .i64 0,.int .i64 0,A5,.int .i64 0,.int .i64 1]
def vA27:Array Value:= #[.int .i64 0,.int .i64 0,.int .i64 0,.bool false,A7,.bool false,A7,.int .i64 0,.int .i64 0,.int .i64 0,A5,.bool false,A5,.bool false,A7,.int .i64 0,.int .i64 0,A5,.int .i64 0,.int .i64 4]
def Ai:Array Value:= #[.int .i64 0,.int .i64 0,.int .i64 0,.bool false,A7,.bool false,A7,.int .i64 0,.int .i64 0,.int .i64 0,A5,.bool false,A5,.bool false,A7,.int .i64 0,.int .i64 0,A5,.int .i64 0,.int .i64 2]
def vG (a:Int):Array Value:= #[.int .i64 0,.int .i64 0,.int .i64 0,.bool false,A7,.bool false,A7,.int .i64 0,.int .i64 0,.int .i64 0,A5,.bool false,A5,.bool false,A7,.int .i64 0,.int .i64 0,A5,.int .i64 0,.int .i64 a]
def vA30 (b:Int) (c:Int) (d:Int) (a:Bl):Array Value:= #[.bool a.null,.string (aW a.data),.int .i64 b,.int .i64 c,.int .i64 d]
def vA31:Array Value:= #[.bool false,A7,.int .i64 0,.int .i64 0,.int .i64 0]
def vA32:Array Value:= #[A7,.int .i64 0,.int .i64 0,A5]
def vA33:Array Value:= #[A7,.int .i64 0,.int .i64 0,.bool false]
def FI (a:Nat) (b:Nat):Array Value:= #[.pointer (some ⟨a,0,none⟩),.int .i64 8,.pointer (some ⟨a,1,none⟩),.int .i64 4,.pointer (some ⟨a,2,none⟩),.int .i64 4,.pointer (some ⟨b,0,none⟩),.int .i64 1,.pointer (some ⟨a,3,none⟩),.int .i64 4,.pointer (some ⟨a,4,none⟩),.int .i64 2,.pointer (some ⟨a,5,none⟩),.int .i64 4,.pointer (some ⟨a,6,none⟩),.int .i64 8,.pointer (some ⟨a,7,none⟩),.int .i64 8,.pointer (some ⟨a,8,none⟩),.int .i64 8,.pointer (some ⟨a,9,none⟩),.int .i64 2,.pointer (some ⟨a,10,none⟩),.int .i64 4,.pointer (some ⟨a,11,none⟩),.int .i64 4]
def C8:Array Value:= #[.int .i64 0,.int .i64 0,.int .i64 0,.int .i64 0,.int .i64 0,.int .i64 0,.int .i64 0,.int .i64 0,.int .i64 0,.int .i64 0,.int .i64 0,.int .i64 0]
def vA36 (b:Int) (c:Int) (a:Bl):Array Value:= #[.int .i64 b,.int .i64 c,.bool a.null,.string (aW a.data),.bool false,A7,A5]
def vA37 (c:Int) (d:Int) (a:Bl) (b:Bl):Array Value:= #[.int .i64 c,.int .i64 d,.bool a.null,.string (aW a.data),.bool b.null,.string (aW b.data),A5]
def vH (c:Int) (d:Int) (e:AT) (f:Nat) (g:Nat) (a:Bl) (b:Bl):Array Value:= #[.int .i64 c,.int .i64 d,.bool a.null,.string (aW a.data),.bool b.null,.string (aW b.data),.slice e g f]
def vL39 (c:Int) (d:Int) (e:AT) (f:Nat) (g:Nat) (a:Bl) (b:Bl):List Value := [.int .i64 c,.int .i64 d,.bool a.null,.string (aW a.data),.bool b.null,.string (aW b.data),.slice e g f]
def sg:Array Value:= #[.int .i64 0,.int .i64 0,.bool false,A7,.bool false,A7,A5]
def mN:Array Value:= #[.int .i64 0,.int .i64 0,.bool false,.bool false,.bool false,.int .i64 0,.int .i64 0,.int .i64 0,.int .i64 0,.int .i64 0,.int .i64 0,A5]
def C9 (b:Int) (c:Int) (d:AT) (e:Nat) (f:Nat) (a:Bl):Array Value:= #[.bool a.null,.string (aW a.data),.int .i64 b,.int .i64 c,.slice d f e]
def Aj (b:Int) (c:Int) (d:Int) (a:Bl):Array Value:= #[.int .i64 b,.int .i64 c,.int .i64 d,.bool a.null,.string (aW a.data)]
def ld:Array Value:= #[.int .i64 0,.int .i64 0,.int .i64 0,.bool false,A7,.bool false,A7,.int .i64 0,.int .i64 0,.int .i64 0,A7,.int .i64 0,.int .i64 0,A5,A7,.int .i64 0,.int .i64 0,.bool false,A5,.bool false,A7,.int .i64 0,.int .i64 0,A5]
def vA45:Array Value:= #[A5,.int .i64 0,.int .i64 0]
def vA46 (b:Int) (a:aO):Array Value:= #[.int .i64 (a.fcount.fmany+1),.int .i64 (a.fcount.fat+b),.string (aW a.fheld),.int .i64 a.ferr]
def vA47 (a:aO):Array Value:= #[.int .i64 (a.fcount.fmany+1),.int .i64 a.fcount.fat,.string (aW a.fheld),.int .i64 a.ferr]
def Da (a:Int) (b:Int) (c:AI) (d:Int):Array Value:= #[.int .i64 a,.int .i64 b,.string (aW c),.int .i64 d]
section
variable {P:Program} {n:Nat} {F0:Nat->Prop} {w0:World} {e e':Env} {Rs Rs' Rf:List Res} {Q:Exit->Act->World->Prop} {K:Act->World->Prop} {ops:Array Oper} {ft:eY} {x y z:Code} {c:Operand} {id:Nat} {os:List Oper} {l:List Nat}
theorem rT {S:World->Prop} {G:World->Nat->Prop}: ∀ w,S w->RX.triv.reads w (G w):=fun w _=>Ku w (G w)
theorem sT {S:World->Prop} {F0:Nat->Prop} {w0:World} {Rs:List Res} {i:Nat}: ∀ w,S w->Src F0 w0 Rs w i .triv:=fun _ _=>Src.triv i
theorem Ka (hl:List.range os.toArray.size=l) (h:TL P n F0 w0 os.toArray l e Rs (Exit.then (y.wp P Q) Q)):T P n F0 w0 e Rs (.seq (.region id os.toArray false) y) Q:=T.seq (T.region hl h)
theorem Lq (h:T P n F0 w0 e Rs x (Exit.then (z.wp P (Exit.then (y.wp P Q) Q)) (Exit.then (y.wp P Q) Q))):T P n F0 w0 e Rs (.seq (.seq x z) y) Q:=T.seq (T.seq h)
theorem Kc (h:T P n F0 w0 e Rs y Q):TL P n F0 w0 ops [] e Rs (Exit.then (y.wp P Q) Q):=TL.nil (X.seq h)
theorem K6 (h:T P n F0 w0 e Rs y Q):TD P n F0 w0 ops .nil Rf e Rs (Exit.then (y.wp P Q) Q):=TD.nil (X.seq h)
theorem Kw (h:T P n F0 w0 e Rs y Q):T P n F0 w0 e Rs .skip (Exit.then (y.wp P Q) Q):=T.skip (X.seq h)
theorem Lx {p:Prop} [Decidable p] (hc:e.ev c=some (.bool (decide p))) (hb:p) (h:T P n F0 w0 e Rs x Q):T P n F0 w0 e Rs (.cond c x y) Q:=Kr hc (M4 hb) h
theorem LC {p:Prop} [Decidable p] (hc:e.ev c=some (.bool (decide p))) (hb: ¬p) (h:T P n F0 w0 e Rs y Q):T P n F0 w0 e Rs (.cond c x y) Q:=KN hc (M5 hb) h
theorem T.yn {p:Prop} [Decidable p] (hc:e.ev c=some (.bool (!decide p))) (hb: ¬p) (h:T P n F0 w0 e Rs x Q):T P n F0 w0 e Rs (.cond c x y) Q:=Kr hc (by simp[hb]) h
theorem T.nn {p:Prop} [Decidable p] (hc:e.ev c=some (.bool (!decide p))) (hb:p) (h:T P n F0 w0 e Rs y Q):T P n F0 w0 e Rs (.cond c x y) Q:=KN hc (by simp[hb]) h
theorem KE {p:Prop} [Decidable p] (hc:e.ev c=some (.bool (decide p))) (hb:p) (h:T P n F0 w0 e Rs x Q):TL P n F0 w0 ops [] e Rs (Exit.then ((Code.cond c x y).wp P Q) Q):=Kc (Lx hc hb h)
theorem KA {p:Prop} [Decidable p] (hc:e.ev c=some (.bool (decide p))) (hb: ¬p) (h:T P n F0 w0 e Rs y Q):TL P n F0 w0 ops [] e Rs (Exit.then ((Code.cond c x y).wp P Q) Q):=Kc (LC hc hb h)
theorem KF {p:Prop} [Decidable p] (hc:e.ev c=some (.bool (!decide p))) (hb: ¬p) (h:T P n F0 w0 e Rs x Q):TL P n F0 w0 ops [] e Rs (Exit.then ((Code.cond c x y).wp P Q) Q):=Kc (T.yn hc hb h)
theorem KG {p:Prop} [Decidable p] (hc:e.ev c=some (.bool (!decide p))) (hb:p) (h:T P n F0 w0 e Rs y Q):TL P n F0 w0 ops [] e Rs (Exit.then ((Code.cond c x y).wp P Q) Q):=Kc (T.nn hc hb h)
theorem Ky (hl:List.range os.toArray.size=l) (h:TL P n F0 w0 os.toArray l e Rs (Exit.then (y.wp P Q) Q)):TL P n F0 w0 ops [] e Rs (Exit.then ((Code.seq (.region id os.toArray false) y).wp P Q) Q):=Kc (Ka hl h)
theorem Kv (hl:List.range os.toArray.size=l) (h:TL P n F0 w0 os.toArray l e Rs (Exit.then (y.wp P Q) Q)):T P n F0 w0 e Rs .skip (Exit.then ((Code.seq (.region id os.toArray false) y).wp P Q) Q):=Kw (Ka hl h)
theorem J9 (hft:ft.OK P) (k:Nat) (h:yx ft n ops e (l.take k)=some e') (K:TL P n F0 w0 ops (l.drop k) e' Rs Q):TL P n F0 w0 ops l e Rs Q:=TL.run hft (l.take k) (List.take_append_drop k l).symm h K
theorem Kk (hft:ft.OK P) (h:yx ft n ops e l=some e') (K:T P n F0 w0 e' Rs y Q):TL P n F0 w0 ops l e Rs (Exit.then (y.wp P Q) Q):=TL.run hft l (Nx l).symm h (Kc K)
theorem KJ (hft:ft.OK P) (h:yx ft n ops e l=some e') {l':List Nat} (hl:List.range os.toArray.size=l') (K:TL P n F0 w0 os.toArray l' e' Rs (Exit.then (y.wp P Q) Q)):TL P n F0 w0 ops l e Rs (Exit.then ((Code.seq (.region id os.toArray false) y).wp P Q) Q):=Kk hft h (Ka hl K)
theorem K0 (hft:ft.OK P) (h:tT ft [] #[] n ops e [] l=some (e',[])) (K:T P n F0 w0 e' Rs y Q):TL P n F0 w0 ops l e Rs (Exit.then (y.wp P Q) Q):=by have a:=L7 (l := []) hft l h (Kc K); rwa [Nx] at a
theorem Lw {nt:List Nat} {cs:Array Value} {b T':Nat} {L:List Nat} (hft:ft.OK P) (hnt:NOK P nt) (j:Nat) (hi:Rs[j]? = some (aR b T' cs)) (h:tT ft nt cs n ops e [] l=some (e',L)) (hL:L=L.map fun _=>b) (K:T P n F0 w0 e' Rs y Q):TL P n F0 w0 ops l e Rs (Exit.then (y.wp P Q) Q):=Kf hft hnt j hi l.length (by rw[List.take_length]; exact h) hL (by rw[List.drop_length]; exact Kc K)
theorem Kb {i d:Nat} {op:Op} {ty:TypeId} {pos:String} {af:Array Edge} {v:Value} (ho:ops[i]? = some ⟨some d,op,ty,pos,af,none⟩) (hx:Ex P n e (St F0 w0 Rs) ⟨some d,op,ty,pos,af,none⟩ v) (hd:Nat.blt d n=true) (h:TL P n F0 w0 ops l ((d,v)::e) Rs Q):TL P n F0 w0 ops (i::l) e Rs Q:=TL.q ho .u hx hd h
theorem Kg {i d:Nat} {op:Op} {ty:TypeId} {pos:String} {af:Array Edge} {v:Value} {lo:Sch} (ho:ops[i]? = some ⟨some d,op,ty,pos,af,none⟩) (hx:Ex P n e (St F0 w0 Rf) ⟨some d,op,ty,pos,af,none⟩ v) (hd:Nat.blt d n=true) (h:TD P n F0 w0 ops lo Rf ((d,v)::e) Rs Q):TD P n F0 w0 ops (.q i lo) Rf e Rs Q:=TD.q ho .u hx hd h
theorem Kq {n:Nat} {F0:Nat->Prop} {w0:World} {e e':Env} {Rs Rs':List Res} {Q:Exit->Act->World->Prop} {R:Env->List Res->Prop} (is:List Nat) (hR:R e' Rs':=by exact⟨rfl,rfl⟩) (he:Sub e' e:=by rfl) (hr:Sel Rs is Rs':=by rfl):X n F0 w0 e Rs .normal (Exit.then (JK n F0 w0 R) Q):=X.jq is hR he hr
theorem Km {P:Program} {n:Nat} {F0:Nat->Prop} {w0:World} {e:Env} {Rs Ns:List Res} {A':Res} {f:Func} {r1:ResultVar} {v1:Value} {z:Exit} {R:Value->Res->List Res->Prop} (is:List Nat) (hf:f.results= #[r1]) (a:RV P n F0 w0 e Rs r1 v1) (hR:R v1 A' Ns:=by exact⟨rfl,rfl,rfl⟩) (hr:Sel Rs is (A'::Ns):=by rfl) (hx:z= .ret\/z= .normal:=by exact .inl rfl):X n F0 w0 e Rs z (bodyPost P f (rY R F0 w0)):=Ks is hf a hR hr hx
def Db:List Res->Nat->Res->Option (List Res)
 | [],_,_=>none
 | _::r,0,b=>some (b::r)
 | a::r,k+1,b=>match Db r k b with
  | some l=>some (a::l)
  | none=>none
theorem sZ: ∀ {Rs:List Res} {k:Nat} {b:Res} {l:List Res},Db Rs k b=some l->Rs.set k b=l
 | [],_,_,_,h=>by cases h
 | _::r,0,b,l,h=>by cases h; rfl
 | a::r,k+1,b,l,h=>by
  simp only[Db] at h;split at h
  · rename_i l' h';cases h;rw[List.set_cons_succ,sZ h']
  · cases h
theorem Kn {i d:Nat} {cl:Call} {ty:TypeId} {pos:String} {af:Array Edge} {gd:Option (Nat×Bool)} {f:FuncId} {vs:List Value} {A B:Res} {Y:RX} {v:Value} (k:Nat) (hi:Rs[k]? = some A) (ho:ops[i]? = some ⟨some d,.call cl,ty,pos,af,gd⟩) (hw:Wd n ops e ⟨some d,.call cl,ty,pos,af,gd⟩ true) (hc:CT P n e ⟨some d,.call cl,ty,pos,af,gd⟩ f vs) (hs:aB P f vs.toArray Y A (fun v' A' N=>v'=v/\A'=B/\N = [])) (hr: ∀ w,St F0 w0 Rs w->Src F0 w0 Rs w k Y) (hd:Nat.blt d n=true) (hR:Db Rs k B=some Rs') (h:TL P n F0 w0 ops l ((d,v)::e) Rs' Q):TL P n F0 w0 ops (i::l) e Rs Q:=by
 refine LF ho hw (Ef.call k hc hi hs hr hd) ?_;rintro _ _ ⟨_,_,_,⟨rfl,rfl,rfl⟩,rfl,rfl⟩;rw[sZ hR];exact h
theorem Lk {lo:Sch} {i d:Nat} {cl:Call} {ty:TypeId} {pos:String} {af:Array Edge} {gd:Option (Nat×Bool)} {f:FuncId} {vs:List Value} {A B:Res} {Y:RX} {v:Value} (k:Nat) (hi:Rs[k]? = some A) (ho:ops[i]? = some ⟨some d,.call cl,ty,pos,af,gd⟩) (hw:Wd n ops e ⟨some d,.call cl,ty,pos,af,gd⟩ true) (hc:CT P n e ⟨some d,.call cl,ty,pos,af,gd⟩ f vs) (hs:aB P f vs.toArray Y A (fun v' A' N=>v'=v/\A'=B/\N = [])) (hr: ∀ w,St F0 w0 Rs w->Src F0 w0 Rs w k Y) (hd:Nat.blt d n=true) (hR:Db Rs k B=some Rs') (is:List Nat) (hf:Sel Rs' is Rf) (h:TD P n F0 w0 ops lo Rf ((d,v)::e) Rs' Q):TD P n F0 w0 ops (.e i lo) Rf e Rs Q:=by
 refine LS ho hw (Ef.call k hc hi hs hr hd) ?_;rintro _ _ ⟨_,_,_,⟨rfl,rfl,rfl⟩,rfl,rfl⟩;rw[sZ hR];exact⟨Rf,fun w hw=>hw.sel is hf,fun _ h=>h,h⟩
theorem Kj {i o z:Nat} {b T':Nat} {t ty:TypeId} {x y:Operand} {v:Value} {pos:String} {af:Array Edge} {gd:Option (Nat×Bool)} {cs cs':Array Value} (k:Nat) (hi:Rs[k]? = some (aR b T' cs)) (ho:ops[i]? = some ⟨none,.store t x y,ty,pos,af,gd⟩) (hw:Wd n ops e ⟨none,.store t x y,ty,pos,af,gd⟩ true) (hx:e.ev x=some (.pointer (some ⟨b,o,none⟩))) (hy:e.ev y=some v) (hz: ∀ w,(sizeOf t).run P w= .ok z w) (hvz:Nat.beq v.cells.size z=true) (hf':Nat.ble (o+v.cells.size) cs.size=true) (ho':v.cells.toList.all (·.oneCell')=true) (hc:(cs.toList.take o++v.cells.toList++cs.toList.drop (o+v.cells.size)).toArray=cs') (hR:Db Rs k (aR b T' cs')=some Rs') (h:TL P n F0 w0 ops l e Rs' Q):TL P n F0 w0 ops (i::l) e Rs Q:=by
 refine LF ho hw (Ef.st k hx hy hz hi hvz hf' ho' hc) ?_;rintro _ _ ⟨rfl,rfl⟩;rw[sZ hR];exact h
theorem K9 {lo:Sch} {i o z:Nat} {b T':Nat} {t ty:TypeId} {x y:Operand} {v:Value} {pos:String} {af:Array Edge} {gd:Option (Nat×Bool)} {cs cs':Array Value} (k:Nat) (hi:Rs[k]? = some (aR b T' cs)) (ho:ops[i]? = some ⟨none,.store t x y,ty,pos,af,gd⟩) (hw:Wd n ops e ⟨none,.store t x y,ty,pos,af,gd⟩ true) (hx:e.ev x=some (.pointer (some ⟨b,o,none⟩))) (hy:e.ev y=some v) (hz: ∀ w,(sizeOf t).run P w= .ok z w) (hvz:Nat.beq v.cells.size z=true) (hf':Nat.ble (o+v.cells.size) cs.size=true) (ho':v.cells.toList.all (·.oneCell')=true) (hc:(cs.toList.take o++v.cells.toList++cs.toList.drop (o+v.cells.size)).toArray=cs') (hR:Db Rs k (aR b T' cs')=some Rs') (is:List Nat) (hf:Sel Rs' is Rf) (h:TD P n F0 w0 ops lo Rf e Rs' Q):TD P n F0 w0 ops (.e i lo) Rf e Rs Q:=by
 refine LS ho hw (Ef.st k hx hy hz hi hvz hf' ho' hc) ?_;rintro _ _ ⟨rfl,rfl⟩;rw[sZ hR];exact⟨Rf,fun w hw=>hw.sel is hf,fun _ h=>h,h⟩
end
def tV:eY := [(173,3,3)]
theorem cn:(tV).OK Tryz.prog:=⟨FOK.mk O1 rfl O4 rfl,trivial⟩
theorem pc:SOK Tryz.prog 48 195 1 5 #[.int .i64 0,.int .i64 0,.bool false,A5,.int .i64 0]:=SOK.mk NN N3 Tryz.zeroValue195 QJ QK
theorem pN:(Tryz.prog.info? 195).map (fun i=>(i.zero,i.size,i.bytes))=some (some (.agg #[.int .i64 0,.int .i64 0,.bool false,A5,.int .i64 0]),5,56):=by kernel_rfl
def g9:List aV->List bK->Option (List bK)
 | [],b=>some b
 | a::xs,b=>if (b.length+1)*56<=140737488355328 then (g9 xs (b ++ [(⟨a.Md,a.Mf,a.Mx,a.Mc,a.Mo⟩:bK)])) else none
def qv (a0:List aV):Option (List bK):=(g9 a0 []).bind fun a=>some a
theorem yA (a0:List aV) (p:AT) (c2:Nat) (r:List bK) (h:qv a0=some r):wY Tryz.prog 58 #[.slice p a0.length c2] (RX.of (ar 5 bk) [.slice p a0.length c2] a0) aI (fun v A' L=> ∃ (t:AT) (y:Nat),v= .slice t r.length y/\A'=aI/\L = [(⟨_,ar 5 bd,[.slice t r.length y],r⟩:RO)]):=by
 refine C3 Tryz.func58 Z Tryz.ntmps58 Z ?_;intro F w S hS hSF;have hX:(RX.of (ar 5 bk) [.slice p a0.length c2] a0).reads w F:=⟨S,hS,hSF⟩;unfold qv at h;refine Ka Z (KJ cn Z Z (Kk cn Z (T.seq (Ka Z (J9 cn 1 Z (Kb Z (KC Z OG) Z (J9 cn 1 Z ?_)))))));refine Kc (T.block (Le 195 5 (g8 w S bd) ?_));obtain⟨N,z,A⟩:=M1 h;have H:=Lb hX;refine K4 (fun m e Rs=> ∃ (g:List bK) (C:AT) (D:Nat) (d:Nat),d+m=a0.length/\e = [(2,A5),(3,.slice C g.length D),(6,.slice p a0.length c2),(7,jI (a0.length:Int)),(8,jI (d:Int))]/\Rs = [bC 195 5 (g8 w S bd) (.slice C g.length D) g,aI]/\g9 (a0.drop d) g=some N) (a0.length) [0,0] ⟨[],none,0,0,by simp,Z,Z,by rw[List.drop_zero]; exact z⟩ QL QL ?_;clear z h;rintro j _ _ ⟨g,C,D,d,O,rfl,rfl,h⟩
 cases j with
 | zero =>
  rw[List.drop_of_length_le QI,g9] at h;have n: ¬ ((d:Int)<(a0.length:Int)):=by omega
  refine Ka Z (Kk cn Z (T.seq (KN Z (M5 n) ?_)));obtain rfl:=M2 h;replace h:=A;clear A;refine T.exit (Kx (Kx (K1 (X.seq (Ka Z (J9 cn 2 Z ?_))))));obtain rfl:=M2 h;exact Kc (T.ret (X.shutO QJ 0 Z (KX [0,0] Z (Ks [1,0] Tryz.results58 (Kd Z) ⟨_,⟨_,_,Z,Z,Z⟩,Z⟩ QL (.inl Z)))))
 | succ j =>
  obtain⟨a,f⟩: ∃ x,a0[d]? = some x:=⟨_,List.getElem?_eq_getElem QI⟩;rw[bN f,g9] at h;have o:(d:Int)<(a0.length:Int):=by omega
  refine Ka Z (Kk cn Z (T.seq (Kr Z (M4 o) ?_)));obtain⟨P,Q,rfl,K,M,q,s,G⟩:=L6 QJ hS hSF f;obtain⟨b,c,rfl,i⟩:=G;have R:(RX.of (ar 2 aU) [.slice b a.Mc.length c] a.Mc).reads w F:=⟨S,i,hSF⟩;refine Kw (T.seq (T.block (Ka Z ?_)));refine Kb Z (KB (k:=d) Z Z Z OG OB (M6 f).1) Z ?_;refine Kb Z (Lf (us := [jI a.Md,jI a.Mf,.bool a.Mx,.slice b a.Mc.length c,jI a.Mo]) 0 Z PR OB s q Z Z Z) Z (TL.alloc Z .u Tryz.zeroValue173 Z (fun U=>(Kj 0 Z (cs':= #[jI a.Md,jI a.Mf,.bool a.Mx,.slice b a.Mc.length c,jI a.Mo]) Z .u Z Z OB Z Z Z Z Z (Kc (T.region Z (J9 cn 1 Z (Kb Z (Kp (us := [jI a.Md,jI a.Mf,.bool a.Mx,.slice b a.Mc.length c,jI a.Mo]) 0 Z PR OB Z Z Z) Z ?_)))))));refine Lj (cells:= #[jI a.Md,jI a.Mf,.bool a.Mx,.slice b a.Mc.length c,jI a.Mo]) Z .u pc Z QK Z (fun V=> ?_);obtain⟨B,h⟩:=aj h;refine L2 1 Z .u (us := [jI a.Md,jI a.Mf,.bool a.Mx,.slice b a.Mc.length c,jI a.Mo]) (u:=(⟨a.Md,a.Mf,a.Mx,a.Mc,a.Mo⟩:bK)) (l:=g) (E:=(g8 w S bd)) Tryz.underlying48 pN Z QJ Z Z Z Z Z Z (fun _ _=>C2 ⟨_,_,Z,i⟩) (by have hq:=B; omega) (by have hq:=B; omega) Z (fun I J=> ?_);exact KK [0,0,0] Z (J9 cn 1 Z (TL.nil (KD (X.seq (T.region Z (Kb Z (Ex.add Z Z QI) Z (J9 cn 1 Z (TL.nil (X.back (m':=j) [1,1] QI ⟨(g ++ [(⟨a.Md,a.Mf,a.Mx,a.Mc,a.Mo⟩:bK)]),I,J,d+1,by omega,Z,Z,h⟩ QL QL)))))))))
def tW:eY := [(23,1,1),(36,0,0),(36,1,2),(36,2,3),(36,3,4),(51,3,4),(176,0,0),(176,1,1),(179,1,1),(191,1,1)]
theorem bq:(tW).OK Tryz.prog:=⟨FOK.mk NF rfl NG rfl,FOK.mk OH rfl Nh rfl,FOK.mk OH rfl M9 rfl,FOK.mk OH rfl M9 rfl,FOK.mk OH rfl Tryz.sizeOf34 rfl,FOK.mk O7 rfl Tryz.sizeOf49 rfl,FOK.mk Pt rfl NG rfl,FOK.mk Pt rfl Qb rfl,FOK.mk PL rfl PB rfl,FOK.mk Pu rfl QC rfl,trivial⟩
def tX:List Nat := [3,9,34,49,174,177,189]
theorem eI:NOK Tryz.prog tX:=⟨Nc,NQ,Tryz.isAgg34,Tryz.isAgg49,PS,Pp,Pf,trivial⟩
theorem qw:BOK Tryz.prog 51 #[.bool false,A7,.int .i64 0,.int .i64 0,A5] [(0,2),(2,1),(3,1),(4,1)]:=BOK.mk Tryz.zeroValue51 O7 (by intro w; simp)
theorem pO:BOK Tryz.prog 191 #[A7,A5] [(0,1),(1,1)]:=BOK.mk Tryz.zeroValue191 Pu (by intro w; simp)
theorem pd:SOK Tryz.prog 49 191 1 2 #[A7,A5]:=SOK.mk Ob Ol Tryz.zeroValue191 QJ QK
theorem oz:SOK Tryz.prog 189 193 1 2 #[.int .i64 0,A5]:=SOK.mk N9 NT Tryz.zeroValue193 QJ QK
theorem pP:(Tryz.prog.info? 191).map (fun i=>(i.zero,i.size,i.bytes))=some (some (.agg #[A7,A5]),2,40):=by kernel_rfl
theorem pQ:(Tryz.prog.info? 193).map (fun i=>(i.zero,i.size,i.bytes))=some (some (.agg #[.int .i64 0,A5]),2,32):=by kernel_rfl
def iW:List bl->List ej->Option (List ej)
 | [],a=>some a
 | b::xs,a=>if (a.length+1)*32<=140737488355328 then (iW xs (a ++ [(⟨b.Mw,b.Mq⟩:ej)])) else none
def iX:List aM->List co->Option (List co)
 | [],a=>some a
 | b::xs,a=>(iW b.Me []).bind fun c=>if (a.length+1)*40<=140737488355328 then (iX xs (a ++ [(⟨b.Mm,c⟩:co)])) else none
def oA (a0:aC):Option (aX):=(iX a0.Mc []).bind fun a=>some (⟨a0.Mk,a0.Mz,a0.Mh,a⟩:aX)
theorem yB (a0:aC) (C:AT) (c2:Nat) (r:aX) (h:oA a0=some r):wY Tryz.prog 57 #[.agg #[.bool a0.Mk.null,jS a0.Mk.data,jI a0.Mz,jI a0.Mh,.slice C a0.Mc.length c2]] (RX.of (ar 2 aT) [.slice C a0.Mc.length c2] a0.Mc) aI (fun v A' L=> ∃ (af:AT) (ag:Nat),v= .agg #[.bool r.Mk.null,jS r.Mk.data,jI r.Mz,jI r.Mh,.slice af r.Mc.length ag]/\A'=aI/\L = [(⟨_,ar 2 ba,[.slice af r.Mc.length ag],r.Mc⟩:RO)]):=by
 refine C3 Tryz.func57 Z Tryz.ntmps57 Z ?_;intro F w S hS hSF;have hX:(RX.of (ar 2 aT) [.slice C a0.Mc.length c2] a0.Mc).reads w F:=⟨S,hS,hSF⟩;unfold oA at h;refine Ka Z (TL.box Z .u Z Z (fun b3=>(TL.alloc Z .u Tryz.zeroValue51 Z (fun V=>(Ky Z (J9 bq 1 Z (Kb Z (Kp (us:=wL0 a0.Mk) 1 Z NL Nh Z Z Z) Z (Kf bq eI 1 Z 4 Z Z ?_))))))));refine Kb Z (KH (cells:= #[.bool a0.Mk.null,jS a0.Mk.data,jI a0.Mz,jI a0.Mh,A5]) qw Z QK) Z ?_;refine TL.alloc Z .u Tryz.zeroValue51 Z (fun Y=>(Kj 0 Z (cs':= #[.bool a0.Mk.null,jS a0.Mk.data,jI a0.Mz,jI a0.Mh,A5]) Z .u Z Z NC Z Z Z Z Z (Kc (T.seq (Ka Z (Kf bq eI 2 Z 2 Z Z (Kb Z (KC Z Oj) Z (Kk bq Z (T.block (Le 191 2 (g8 w S ba) ?_))))))))));obtain⟨ax,D,H⟩:=M1 h;have av:=Lb hX;refine K4 (fun m e Rs=> ∃ (g:Nat) (d:List co) (s:AT) (t:Nat),g+m=a0.Mc.length/\e = [(2,jP V),(3,jP Y),(17,.slice C a0.Mc.length c2),(18,jI (a0.Mc.length:Int)),(19,jI (g:Int))]/\Rs = [bC 191 2 (g8 w S ba) (.slice s d.length t) d,aR Y 51 #[.bool a0.Mk.null,jS a0.Mk.data,jI a0.Mz,jI a0.Mh,.slice s d.length t],aR V 51 vA0,aR b3 36 #[.bool a0.Mk.null,jS a0.Mk.data,jI a0.Mz,jI a0.Mh,.slice C a0.Mc.length c2],aI]/\iX (a0.Mc.drop g) d=some ax) (a0.Mc.length) [0,0,0,0,0] ⟨0,[],none,0,by simp,Z,Z,by rw[List.drop_zero]; exact D⟩ QL QL ?_;clear D h;rintro I _ _ ⟨g,d,s,t,aF,rfl,rfl,h⟩
 cases I with
 | zero =>
  rw[List.drop_of_length_le QI,iX] at h;have J: ¬ ((g:Int)<(a0.Mc.length:Int)):=by omega
  refine Ka Z (Kk bq Z (T.seq (KN Z (M5 J) ?_)));obtain rfl:=M2 h;replace h:=H;clear H;refine T.exit (Kx (Kx (K1 (X.seq (Ka Z (Kb Z (Kp (us := [.bool a0.Mk.null,jS a0.Mk.data,jI a0.Mz,jI a0.Mh,.slice s d.length t]) 1 Z Oe NC Z Z Z) Z (Kj 2 Z (cs':= #[.bool a0.Mk.null,jS a0.Mk.data,jI a0.Mz,jI a0.Mh,.slice s d.length t]) Z .u Z Z NC Z Z Z Z Z ?_)))))));obtain rfl:=M2 h;exact Kc (T.ret (X.shutO QJ 0 Z (KX [0,0,0,0,0] Z (Ks [4,0] Tryz.results57 (Kz (us:= #[.bool a0.Mk.null,jS a0.Mk.data,jI a0.Mz,jI a0.Mh,.slice s d.length t]) 2 Z Oe NC Z Z) ⟨_,⟨_,_,Z,Z,Z⟩,Z⟩ QL (.inl Z)))))
 | succ I =>
  obtain⟨a,p⟩: ∃ x,a0.Mc[g]? = some x:=⟨_,List.getElem?_eq_getElem QI⟩;rw[bN p,iX] at h;have K:(g:Int)<(a0.Mc.length:Int):=by omega
  refine Ka Z (Kk bq Z (T.seq (Kr Z (M4 K) ?_)));obtain⟨M,N,rfl,aA,aB,aa,ab,ap⟩:=L6 QJ hS hSF p;obtain⟨y,z,rfl,A⟩:=ap;have aq:(RX.of (ar 2 cB) [.slice y a.Me.length z] a.Me).reads w F:=⟨S,A,hSF⟩;refine Kw (T.seq (T.block (Ka Z ?_)));refine Kb Z (KB (k:=g) Z Z Z Oj Oo (M6 p).1) Z ?_;refine Kb Z (Lf (us := [jS a.Mm,.slice y a.Me.length z]) 0 Z Qf Oo ab aa Z Z Z) Z (TL.alloc Z .u Tryz.zeroValue176 Z (fun ay=>(Kj 0 Z (cs':= #[jS a.Mm,.slice y a.Me.length z]) Z .u Z Z Oo Z Z Z Z Z (Ky Z (Kf bq eI 0 Z 2 Z Z ?_)))));refine Kb Z (KH (cells:= #[jS a.Mm,A5]) pO Z QK) Z ?_;refine TL.alloc Z .u Tryz.zeroValue191 Z (fun ah=>(Kj 0 Z (cs':= #[jS a.Mm,A5]) Z .u Z Z Ol Z Z Z Z Z (Kc (T.seq (Ka Z (Kf bq eI 1 Z 2 Z Z (Kb Z (KC Z Oi) Z (Kk bq Z (T.block (Le 193 2 (g8 w S eu) ?_))))))))));obtain⟨az,O,P⟩:=M1 h;have aw:=Lb aq;refine K4 (fun m e Rs=> ∃ (f:Nat) (c:List ej) (i:AT) (j:Nat),f+m=a.Me.length/\e = [(2,jP V),(3,jP Y),(6,jP ah),(17,.slice (some ⟨M,N,none⟩) a0.Mc.length c2),(18,jI (a0.Mc.length:Int)),(19,jI (g:Int)),(27,.slice y a.Me.length z),(28,jI (a.Me.length:Int)),(29,jI (f:Int))]/\Rs = [bC 193 2 (g8 w S eu) (.slice i c.length j) c,aR ah 191 #[jS a.Mm,.slice i c.length j],aR ay 176 #[jS a.Mm,.slice y a.Me.length z],bC 191 2 (g8 w S ba) (.slice s d.length t) d,aR Y 51 #[.bool a0.Mk.null,jS a0.Mk.data,jI a0.Mz,jI a0.Mh,.slice s d.length t],aR V 51 vA0,aR b3 36 #[.bool a0.Mk.null,jS a0.Mk.data,jI a0.Mz,jI a0.Mh,.slice (some ⟨M,N,none⟩) a0.Mc.length c2],aI]/\iW (a.Me.drop f) c=some az) (a.Me.length) [0,0,0,0,0,0,0,0] ⟨0,[],none,0,by simp,Z,Z,by rw[List.drop_zero]; exact O⟩ QL QL ?_;clear O h;rintro Q _ _ ⟨f,c,i,j,aG,rfl,rfl,h⟩
  cases Q with
  | zero =>
   rw[List.drop_of_length_le QI,iW] at h;have R: ¬ ((f:Int)<(a.Me.length:Int)):=by omega
   refine Ka Z (Kk bq Z (T.seq (KN Z (M5 R) ?_)));obtain rfl:=M2 h;replace h:=P;clear P;refine T.exit (Kx (Kx (K1 (X.seq (T.region Z (Kf bq eI 4 Z 2 Z Z (Kb Z (Kp (us := [jS a.Mm,.slice i c.length j]) 1 Z Qg Ol Z Z Z) Z (Lj (cells:= #[jS a.Mm,.slice i c.length j]) Z .u pd Z QL Z (fun aL=> ?_)))))))));obtain⟨ai,h⟩:=aj h;refine Ly 3 0 Z .u (us := [jS a.Mm,.slice i c.length j]) (u:=(⟨a.Mm,c⟩:co)) (l:=d) (E:=(g8 w S ba)) Tryz.underlying49 pP Z QJ Z Z Z Z Z Z Z (fun w1 G1 hG W h1 h2=>⟨_,_,Z,(fun w G h=>GL QJ w G h) w1 G1 hG W h1 h2⟩) (by have hq:=ai; omega) (by have hq:=ai; omega) Z (fun ak al=> ?_);exact KK [0,0,0,0,0,0,0] Z (J9 bq 1 Z (Kj 3 Z (cs':= #[.bool a0.Mk.null,jS a0.Mk.data,jI a0.Mz,jI a0.Mh,.slice ak (d ++ [(⟨a.Mm,c⟩:co)]).length al]) Z .u Z Z Tryz.sizeOf49 Z Z Z Z Z (TL.nil (KD (X.seq (T.region Z (Kb Z (Ex.add Z Z QI) Z (J9 bq 1 Z (TL.nil (X.back (m':=I) [0,2,2,2,2] QI ⟨g+1,(d ++ [(⟨a.Mm,c⟩:co)]),ak,al,by omega,Z,Z,h⟩ QL QL))))))))))
  | succ Q =>
   obtain⟨b,q⟩: ∃ x,a.Me[f]? = some x:=⟨_,List.getElem?_eq_getElem QI⟩;rw[bN q,iW] at h;have U:(f:Int)<(a.Me.length:Int):=by omega
   refine Ka Z (Kk bq Z (T.seq (Kr Z (M4 U) ?_)));obtain⟨aH,aJ,rfl,aD,aE,ad,ae,au⟩:=L6 QJ A hSF q;obtain⟨n,o,rfl,B⟩:=au;have aK:(RX.of (ar 12 dk) [.slice n b.Mq.length o] b.Mq).reads w F:=⟨S,B,hSF⟩;refine Kw (T.seq (T.block (Ka Z ?_)));refine Kb Z (KB (k:=f) Z Z Z Oi Og (M6 q).1) Z ?_;refine Kb Z (Lf (us := [jI b.Mw,.slice n b.Mq.length o]) 0 Z PD Og ae ad Z Z Z) Z (TL.alloc Z .u Tryz.zeroValue179 Z (fun aM=>(Kj 0 Z (cs':= #[jI b.Mw,.slice n b.Mq.length o]) Z .u Z Z Og Z Z Z Z Z (Kc (T.region Z (Kf bq eI 2 Z 2 Z Z (Kb Z (Kp (us := [jI b.Mw,.slice n b.Mq.length o]) 0 Z PD Og Z Z Z) Z (Lj (cells:= #[jI b.Mw,.slice n b.Mq.length o]) Z .u oz Z QL Z (fun aN=> ?_)))))))));obtain⟨am,h⟩:=aj h;refine L2 1 Z .u (us := [jI b.Mw,.slice n b.Mq.length o]) (u:=(⟨b.Mw,b.Mq⟩:ej)) (l:=c) (E:=(g8 w S eu)) Tryz.underlying189 pQ Z QJ Z Z Z Z Z Z (fun _ _=>C2 ⟨_,_,Z,B⟩) (by have hq:=am; omega) (by have hq:=am; omega) Z (fun an ao=> ?_);exact KK [0,0,0,0,0,0,0,0,0] Z (J9 bq 1 Z (Kj 2 Z (cs':= #[jS a.Mm,.slice an (c ++ [(⟨b.Mw,b.Mq⟩:ej)]).length ao]) Z .u Z Z QC Z Z Z Z Z (TL.nil (KD (X.seq (T.region Z (Kb Z (Ex.add Z Z QI) Z (J9 bq 1 Z (TL.nil (X.back (m':=Q) [1,1,1,1,1,1,1,1] QI ⟨f+1,(c ++ [(⟨b.Mw,b.Mq⟩:ej)]),an,ao,by omega,Z,Z,h⟩ QL QL))))))))))
def tY:eY := []
theorem ay:(tY).OK Tryz.prog:=trivial
theorem s6:Tryz.prog.follows .mixedOrders=true:=by kernel_rfl
theorem oB:SOK Tryz.prog 74 3 17 1 #[.int .i64 0,.int .i64 0,.int .i64 0,.int .i64 0,.int .i64 0,.int .i64 0,.int .i64 0,.int .i64 0,.int .i64 0,.int .i64 0,.int .i64 0,.int .i64 0,.int .i64 0,.int .i64 0,.int .i64 0,.int .i64 0,.int .i64 0]:=SOK.mk Nj M9 Tryz.zeroValue3 QJ QK
theorem ro:(Tryz.prog.info? 3).map (fun i=>(i.zero,i.size,i.bytes))=some (some (.int .i64 0),1,8):=by kernel_rfl
def hU (a1:Int):Nat->Int->Nat->Option (Int×Nat)
 | 0,_,_=>none
 | c+1,b,a=>if 0<=a1/\a1<=9223372036854775807 then (if (a:Int)<(a1 % 8) then (if 0<=b/\b<=9223372036854775807 then (if A0 ((a:Int)+1) then (hU a1 c (b / 2) (a+1)) else none) else none) else some (b,a)) else none
def oC (a0:AI) (a1:Int):Option (Int):=if 0<=a1/\a1<=9223372036854775807 then (if 0<=(a1 / 8) then ((a0[(a1 / 8).toNat]?).bind fun ch3=>if A0 (ch3.toNat:Int) then ((hU a1 (((a1 % 8)).toNat+1) (ch3.toNat:Int) 0).bind fun (a,b)=>if 0<=a/\a<=9223372036854775807 then some (a % 2) else none) else none) else none) else none
theorem xa (a0:AI) (a1:Int) (r:Int) (h:oC a0 a1=some r):aB Tryz.prog 207 #[jS a0,jI a1] .triv (aI) (fun v A' N=>v=jI r/\A'=aI/\N = []):=by
 refine aS Tryz.func207 Z Tryz.ntmps207 Z ?_;intro F w hX;unfold oC at h;refine Ka Z (KJ ay Z Z ?_);obtain⟨n,h⟩:=aj h;refine J9 ay 2 Z (Kb Z (Ex.quo Z Z QI n) Z ?_);obtain⟨c2,h⟩:=aj h;obtain⟨ch3,hc4,h⟩:=M1 h;refine Kb Z (LL Z Z ((Int.toNat_of_nonneg c2).symm) Tryz.underlying9 hc4) Z ?_;obtain⟨o,h⟩:=aj h;refine Kb Z (LK Z QB Ox o) Z (Kk ay Z (T.seq (Ka Z (Kk ay Z (T.block ?_)))));obtain⟨p,g,a⟩:=M1 h;refine K4 (fun m e Rs=> ∃ (d:Int) (f:Nat),e = [(1,jI a1),(4,jI 0),(5,jI d),(6,jI (f:Int))]/\Rs = [aI]/\hU a1 m d f=some p) (((a1 % 8)).toNat+1) [0] ⟨(ch3.toNat:Int),0,Z,Z,by exact g⟩ QL QL ?_;clear g h;rintro b _ _ ⟨d,f,rfl,rfl,h⟩
 cases b with
 | zero =>
  rw[hU] at h;cases h
 | succ b =>
  rw[hU] at h;refine T.seq (Ka Z ?_);obtain⟨i,h⟩:=aj h;refine J9 ay 2 Z (Kb Z (Ex.rem Z Z QI i) Z (J9 ay 1 Z ?_));rcases jF h with⟨c,h⟩ | ⟨c,h⟩
  ·refine KE Z c (Kw (T.seq (T.block (T.region Z ?_))));obtain⟨j,h⟩:=aj h;refine J9 ay 1 Z (Kb Z (Ex.quo Z Z QI j) Z (J9 ay 1 Z (TL.nil (KD (X.seq (T.region Z ?_))))));obtain⟨k,h⟩:=aj h;exact J9 ay 1 Z (Kb Z (Ex.add Z Z k) Z (J9 ay 1 Z (TL.nil (X.back (m':=b) [0] QI ⟨(d / 2),f+1,Z,Z,h⟩ QL QL))))
  refine KA Z c ?_;obtain rfl:=M2 h;replace h:=a;clear a;refine T.exit (Kx (Kx (K1 (X.seq (Ka Z ?_)))));obtain⟨l,h⟩:=aj h;refine J9 ay 1 Z (Kb Z (Ex.rem Z Z QI l) Z (J9 ay 1 Z ?_));obtain rfl:=M2 h;exact Kc (T.ret (Km [0] Tryz.results207 (Kd Z)))
def iY (a0:Int):Nat->Int->Nat->Option (Lp Int (Int×Nat))
 | 0,_,_=>none
 | d+1,b,a=>if (a:Int)<([28,27,26,25,23,22,20,19,18,14,13,11,10,9,8,6,0].length:Int) then (([28,27,26,25,23,22,20,19,18,14,13,11,10,9,8,6,0][a]?).bind fun c=>if c=a0 then some (Lp.ret 1) else (if A0 ((a:Int)+1) then (iY a0 d b (a+1)) else none)) else (some (Lp.go (b,a)))
def lH (a0:Int):Option (Int):=(iY a0 ((([28,27,26,25,23,22,20,19,18,14,13,11,10,9,8,6,0].length:Int)).toNat+1) 0 0).bind fun e=>match e with | .ret r=>some r | .go (a,b)=>some 0
theorem oD (a0:Int) (r:Int) (h:lH a0=some r):aB Tryz.prog 208 #[jI a0] .triv (aI) (fun v A' N=>v=jI r/\A'=aI/\N = []):=by
 refine aS Tryz.func208 Z Tryz.ntmps208 Z ?_;intro F w hX;unfold lH at h;refine Ka Z (KJ ay Z Z ?_);refine Lj (cells:= #[jI 28,jI 27,jI 26,jI 25,jI 23,jI 22,jI 20,jI 19,jI 18,jI 14,jI 13,jI 11,jI 10,jI 9,jI 8,jI 6,jI 0]) Z .u oB Z QK Z (fun l=> ?_);refine LN (us := [jI 28,jI 27,jI 26,jI 25,jI 23,jI 22,jI 20,jI 19,jI 18,jI 14,jI 13,jI 11,jI 10,jI 9,jI 8,jI 6,jI 0]) (xs := [28,27,26,25,23,22,20,19,18,14,13,11,10,9,8,6,0]) (E:=cO) (z:=1) Z (Nat.le_of_ble_eq_true Z) (fun _=>⟨Z,Z,⟨Z,Z,⟨Z,Z,⟨Z,Z,⟨Z,Z,⟨Z,Z,⟨Z,Z,⟨Z,Z,⟨Z,Z,⟨Z,Z,⟨Z,Z,⟨Z,Z,⟨Z,Z,⟨Z,Z,⟨Z,Z,⟨Z,Z,⟨Z,Z,Z⟩⟩⟩⟩⟩⟩⟩⟩⟩⟩⟩⟩⟩⟩⟩⟩⟩) (Kk ay Z (T.seq (Ka Z (Kk ay Z (T.block ?_)))));obtain⟨p,i,b⟩:=M1 h;refine K4 (fun m e Rs=> ∃ (g:Int) (a:Nat),e = [(0,jI a0),(2,jI g),(3,.slice (some ⟨l,0,none⟩) 17 17),(4,jI (a:Int))]/\Rs = [bC 3 1 cO (.slice (some ⟨l,0,none⟩) 17 17) [28,27,26,25,23,22,20,19,18,14,13,11,10,9,8,6,0],aI]/\iY a0 m g a=some p) ((([28,27,26,25,23,22,20,19,18,14,13,11,10,9,8,6,0].length:Int)).toNat+1) [0,0] ⟨0,0,Z,Z,by exact i⟩ QL QL ?_;clear i h;rintro j _ _ ⟨g,a,rfl,rfl,h⟩
 cases j with
 | zero =>
  rw[iY] at h;cases h
 | succ j =>
  rw[iY] at h;refine T.seq (Ka Z (J9 ay 2 Z (Kb Z (KC Z Nj) Z (J9 ay 1 Z ?_))));rcases jF h with⟨c,h⟩ | ⟨c,h⟩
  ·refine KE Z c (Kw (T.seq (T.block (Ka Z ?_))));obtain⟨n,d,h⟩:=M1 h;refine J9 ay 2 Z (LO (E:=cO) (k:=a) 0 Z (fun w G h=>bB QJ w G h) QJ d ?_);rintro gg oo _ ⟨⟩ _ ⟨_,_,rfl⟩;refine KK [0,0] Z ?_;refine Kb Z (KB (k:=a) Z Z Z Nj M9 (M6 d).1) Z ?_;refine Kb Z (LA (cs := [jI n]) 0 0 Z Nc Z (fun _ _ h=>h.2.2.1) Z) Z (J9 ay 2 Z ?_);rcases jF h with⟨f,h⟩ | ⟨f,h⟩
   ·refine KE Z f (Ka Z (J9 ay 1 Z ?_));obtain rfl:=M2 h;obtain rfl:=M2 b;exact Kc (T.ret (Ko (Ke (Ke (Ko (Ke (Km [1] Tryz.results208 (Kd Z))))))))
   refine KA Z f (T.skip (KD (X.seq (T.region Z ?_))));obtain⟨o,h⟩:=aj h;exact J9 ay 1 Z (Kb Z (Ex.add Z Z o) Z (J9 ay 1 Z (TL.nil (X.unf 0 Z (KX [0,0] Z (X.back (m':=j) [0,0] QI ⟨g,a+1,Z,Z,h⟩ QL QL))))))
  refine KA Z c ?_;obtain rfl:=M2 h;replace h:=b;clear b;refine T.exit (Kx (Kx (K1 (X.seq (Ka Z (J9 ay 1 Z ?_))))));obtain rfl:=M2 h;exact Kc (T.ret (Km [1] Tryz.results208 (Kd Z)))
def hZ (b:Nat):Nat->List Int->Int->Option (List Int×Int)
 | 0,_,_=>none
 | f+1,e,a=>if a<=32 then (if 0<=((b:Int)+a) then ((e[((b:Int)+a).toNat]?).bind fun c=>if A0 ((b:Int)+a) then (if A0 ((b:Int)+a) then (if A0 (32 - a) then ((lH (32 - a)).bind fun d=>if A0 (c+d) then (if 0<=(c+d)/\(c+d)<=9223372036854775807 then (if A0 (a+1) then (hZ b f (e.set (((b:Int)+a).toNat) ((c+d) % 2)) (a+1)) else none) else none) else none) else none) else none) else none) else none) else some (e,a)
def fu (a0:AI) (c:List Int):Nat->Int->Int->Option (Int×Int)
 | 0,_,_=>none
 | e+1,d,a=>if a>=0 then (if A0 ((8*(a0.length:Int))+a) then (if 0<=((8*(a0.length:Int))+a) then ((c[((8*(a0.length:Int))+a).toNat]?).bind fun b=>if A0 (1 - b) then (if A0 (a - 1) then (fu a0 c e (IntKind.u32.wrap ((IntKind.u32.wrap (d*2))+(IntKind.u32.wrap (1 - b)))) (a - 1)) else none) else none) else none) else none) else some (d,a)
def fZ (a0:AI):Nat->List Int->Nat->Option (List Int×Nat)
 | 0,_,_=>none
 | c+1,b,a=>if (a:Int)<(8*(a0.length:Int)) then ((b[a]?).bind fun d=>if d=1 then ((hZ a (((33:Int) - (1)).toNat+1) b 1).bind fun (e,f)=>if A0 ((a:Int)+1) then (fZ a0 c e (a+1)) else none) else (if A0 ((a:Int)+1) then (fZ a0 c b (a+1)) else none)) else some (b,a)
def ib:Nat->List Int->Nat->Option (List Int×Nat)
 | 0,_,_=>none
 | d+1,b,a=>if (a:Int)<32 then ((b[a]?).bind fun c=>if A0 (1 - c) then (if A0 ((a:Int)+1) then (ib d (b.set a (1 - c)) (a+1)) else none) else none) else some (b,a)
def ic (a0:AI):Nat->List Int->Nat->Option (List Int×Nat)
 | 0,_,_=>none
 | c+1,b,a=>if (a:Int)<(8*(a0.length:Int)) then ((oC a0 (a:Int)).bind fun d=>(b[a]?).bind fun e=>if A0 ((a:Int)+1) then (ic a0 c (b.set a d) (a+1)) else none) else some (b,a)
def oE (a0:AI):Option (Int):=if A0 (8*(a0.length:Int)) then (if A0 ((8*(a0.length:Int))+32) then (if 0<=((8*(a0.length:Int))+32)/\8*(((8*(a0.length:Int))+32).toNat)<=281474976710656 then ((ic a0 (((8*(a0.length:Int))).toNat+1) (List.replicate (((8*(a0.length:Int))+32).toNat) (0:Int)) 0).bind fun (a,e)=>(ib ((32:Int).toNat+1) a 0).bind fun (b,f)=>(fZ a0 (((8*(a0.length:Int))).toNat+1) b 0).bind fun (c,g)=>(fu a0 c (((31:Int) - (-1)).toNat+1) 0 31).bind fun (d,h)=>some d) else none) else none) else none
theorem xb (a0:AI) (r:Int) (h:oE a0=some r):aB Tryz.prog 165 #[jS a0] .triv (aI) (fun v A' N=>v= .int .u32 r/\A'=aI/\N = []):=by
 refine aS Tryz.func165 Z Tryz.ntmps165 Z ?_;intro F w hX;unfold oE at h;refine Ka Z (KJ ay Z Z (J9 ay 1 Z (Kb Z (KT Z Na) Z ?_)));obtain⟨c1,h⟩:=aj h;refine Kb Z (Ex.mul Z Z c1) Z (KJ ay Z Z ?_);obtain⟨c2,h⟩:=aj h;refine J9 ay 1 Z (Kb Z (Ex.add Z Z c2) Z ?_);obtain⟨c3,h⟩:=aj h;refine TL.mk1 (k:=((8*(a0.length:Int))+32).toNat) (v:=jI 0) cO (0:Int) Z .u Tryz.underlying74 ro Z Z (Int.toNat_of_nonneg c3.1).symm c3.2 (by have hq:=c3.2; omega) (fun _ _=>Z) Z (fun b4=> ?_);refine Kk ay Z (T.seq (Ka Z (Kk ay Z (T.block ?_))));obtain⟨E9,M,O⟩:=M1 h;refine K4 (fun m e Rs=> ∃ (t:List Int) (A6:AT) (P:Nat) (p:Nat),e = [(0,jS a0),(2,.int .u32 0),(3,jI (8*(a0.length:Int))),(4,.slice A6 t.length P),(5,jI (p:Int))]/\Rs = [bC 3 1 cO (.slice A6 t.length P) t,aI]/\ic a0 m t p=some E9) (((8*(a0.length:Int))).toNat+1) [0,0] ⟨(List.replicate (((8*(a0.length:Int))+32).toNat) (0:Int)),(some ⟨b4,0,none⟩),(List.replicate (((8*(a0.length:Int))+32).toNat) (0:Int)).length,0,Z,Z,by exact M⟩ QL QL ?_;clear M h;rintro Q _ _ ⟨t,A6,P,p,rfl,rfl,h⟩
 cases Q with
 | zero =>
  rw[ic] at h;cases h
 | succ Q =>
  rw[ic] at h;refine T.seq (Ka Z (J9 ay 3 Z ?_));rcases jF h with⟨R,h⟩ | ⟨R,h⟩
  ·refine KE Z R (Kw (T.seq (T.block (T.region Z ?_))));obtain⟨S,az,h⟩:=M1 h;refine J9 ay 4 Z (Kt Z .u (.fn Tryz.call207 Z) (xa a0 (p:Int) _ az) rT Z ?_);obtain⟨aH,B,h⟩:=M1 h;refine LO (E:=cO) (k:=p) 0 Z (fun w G h=>bB QJ w G h) QJ B ?_;rintro aA aC _ ⟨⟩ _ ⟨_,_,rfl⟩;refine KK [0,0] Z ?_;refine Kb Z (KB (k:=p) Z Z Z Nj M9 (M6 B).1) Z ?_;refine TL.unf 0 Z (KK [0,0] Z (TL.stE (k:=p) (u:=aH) (u':=S) 0 0 Z .u Z Z M9 Z B Z Z Z Z (fun _ _ _ _ h=>by subst h; rfl) (KK [0,0] Z ?_)));rw[show t.length=(t.set p S).length from (List.length_set ..).symm];refine TL.nil (KD (X.seq (T.region Z ?_)));obtain⟨aJ,h⟩:=aj h;exact J9 ay 1 Z (Kb Z (Ex.add Z Z aJ) Z (J9 ay 1 Z (TL.nil (X.back (m':=Q) [0,0] QI ⟨(t.set p S),(some ⟨aA,aC,none⟩),P,p+1,Z,Z,h⟩ QL QL))))
  refine KA Z R ?_;obtain rfl:=M2 h;replace h:=O;clear O;refine T.exit (Kx (Kx (K1 (X.seq (T.seq (Ka Z (Kk ay Z (T.block ?_))))))));obtain⟨aK,U,V⟩:=M1 h;refine K4 (fun m e Rs=> ∃ (i:List Int) (H:AT) (y:Nat) (g:Nat),e = [(2,.int .u32 0),(3,jI (8*(a0.length:Int))),(4,.slice H i.length y),(6,jI (g:Int))]/\Rs = [bC 3 1 cO (.slice H i.length y) i,aI]/\ib m i g=some aK) ((32:Int).toNat+1) [0,0] ⟨t,A6,P,0,Z,Z,by exact U⟩ QL QL ?_;clear U h;rintro W _ _ ⟨i,H,y,g,rfl,rfl,h⟩
  cases W with
  | zero =>
   rw[ib] at h;cases h
  | succ W =>
   rw[ib] at h;refine T.seq (Ka Z (J9 ay 2 Z ?_));rcases jF h with⟨Y,h⟩ | ⟨Y,h⟩
   ·refine KE Z Y (Kw (T.seq (T.block (T.region Z ?_))));obtain⟨z,x,h⟩:=M1 h;refine J9 ay 4 Z (LO (E:=cO) (k:=g) 0 Z (fun w G h=>bB QJ w G h) QJ x ?_);rintro aD aE _ ⟨⟩ _ ⟨_,_,rfl⟩;refine KK [0,0] Z ?_;refine Kb Z (KB (k:=g) Z Z Z Nj M9 (M6 x).1) Z ?_;refine Kb Z (LA (cs := [jI z]) 0 0 Z Nc Z (fun _ _ h=>h.2.2.1) Z) Z ?_;obtain⟨aL,h⟩:=aj h;refine Kb Z (Ex.sub Z Z aL) Z ?_;refine Kb Z (KB (k:=g) Z Z Z Nj M9 (M6 x).1) Z ?_;refine TL.unf 0 Z (KK [0,0] Z (TL.stE (k:=g) (u:=z) (u':=(1 - z)) 0 0 Z .u Z Z M9 Z x Z Z Z Z (fun _ _ _ _ h=>by subst h; rfl) (KK [0,0] Z ?_)));rw[show i.length=(i.set g (1 - z)).length from (List.length_set ..).symm];refine TL.nil (KD (X.seq (T.region Z ?_)));obtain⟨aM,h⟩:=aj h;exact J9 ay 1 Z (Kb Z (Ex.add Z Z aM) Z (J9 ay 1 Z (TL.nil (X.back (m':=W) [0,0] QI ⟨(i.set g (1 - z)),(some ⟨aD,aE,none⟩),y,g+1,Z,Z,h⟩ QL QL))))
   refine KA Z Y ?_;obtain rfl:=M2 h;replace h:=V;clear V;refine T.exit (Kx (Kx (K1 (X.seq (T.seq (Ka Z (Kk ay Z (T.block ?_))))))));obtain⟨aN,aa,ab⟩:=M1 h;refine K4 (fun m e Rs=> ∃ (f:List Int) (A:AT) (n:Nat) (a:Nat),e = [(2,.int .u32 0),(3,jI (8*(a0.length:Int))),(4,.slice A f.length n),(7,jI (a:Int))]/\Rs = [bC 3 1 cO (.slice A f.length n) f,aI]/\fZ a0 m f a=some aN) (((8*(a0.length:Int))).toNat+1) [0,0] ⟨i,H,y,0,Z,Z,by exact aa⟩ QL QL ?_;clear aa h;rintro I _ _ ⟨f,A,n,a,rfl,rfl,h⟩
   cases I with
   | zero =>
    rw[fZ] at h;cases h
   | succ I =>
    rw[fZ] at h;refine T.seq (Ka Z (J9 ay 3 Z ?_));rcases jF h with⟨ad,h⟩ | ⟨ad,h⟩
    ·refine KE Z ad (Kw (T.seq (T.block (Ka Z ?_))));obtain⟨aO,ae,h⟩:=M1 h;refine J9 ay 2 Z (LO (E:=cO) (k:=a) 0 Z (fun w G h=>bB QJ w G h) QJ ae ?_);rintro af ag _ ⟨⟩ _ ⟨_,_,rfl⟩;refine KK [0,0] Z ?_;refine Kb Z (KB (k:=a) Z Z Z Nj M9 (M6 ae).1) Z ?_;refine Kb Z (LA (cs := [jI aO]) 0 0 Z Nc Z (fun _ _ h=>h.2.2.1) Z) Z (J9 ay 1 Z ?_);rcases jF h with⟨ah,h⟩ | ⟨ah,h⟩
     ·refine KE Z ah (Ka Z (Kk ay Z (T.block (T.unf 0 Z (LX [0,0] Z ?_)))));obtain⟨aP,ai,ak⟩:=M1 h;refine K4 (fun m e Rs=> ∃ (c:List Int) (J:AT) (o:Nat) (b:Int),e = [(2,.int .u32 0),(3,jI (8*(a0.length:Int))),(4,.slice J c.length o),(7,jI (a:Int)),(8,jI b)]/\Rs = [bC 3 1 cO (.slice J c.length o) c,aI]/\hZ a m c b=some aP) (((33:Int) - (1)).toNat+1) [0,0] ⟨f,(some ⟨af,ag,none⟩),n,1,Z,Z,by exact ai⟩ QL QL ?_;clear ai h;rintro al _ _ ⟨c,J,o,b,rfl,rfl,h⟩
      cases al with
      | zero =>
       rw[hZ] at h;cases h
      | succ al =>
       rw[hZ] at h;refine T.seq (Ka Z (J9 ay 2 Z ?_));rcases jF h with⟨am,h⟩ | ⟨am,h⟩
       ·refine KE Z am ?_;obtain⟨an,h⟩:=aj h;obtain⟨d,j,h⟩:=M1 h;refine Kw (T.seq (T.block (LZ (E:=cO) (k:=((a:Int)+b).toNat) 0 Z (fun w G h=>bB QJ w G h) QJ j ?_)));rintro C D _ ⟨⟩ _ ⟨_,_,rfl⟩;refine LX [0,0] Z ?_;obtain⟨aQ,h⟩:=aj h;obtain⟨aR,h⟩:=aj h;obtain⟨aT,h⟩:=aj h;obtain⟨l,ao,h⟩:=M1 h;obtain⟨av,h⟩:=aj h;obtain⟨aw,h⟩:=aj h;refine LJ (fun e Rs=>e = [(2,.int .u32 0),(3,jI (8*(a0.length:Int))),(4,.slice (some ⟨C,D,none⟩) (c.set (((a:Int)+b).toNat) ((d+l) % 2)).length o),(7,jI (a:Int)),(8,jI b),(50,jI b)]/\Rs = [bC 3 1 cO (.slice (some ⟨C,D,none⟩) (c.set (((a:Int)+b).toNat) ((d+l) % 2)).length o) (c.set (((a:Int)+b).toNat) ((d+l) % 2)),aI]) ?_ ?_
        ·refine KQ (.q 0 (.q 1 (.q 2 (.q 3 (.q 4 (.q 5 (.q 6 (.q 7 (.q 8 (.q 10 (.q 11 (.br 9 (.e 12 (.q 13 (.q 14 (.q 15 (.e 16 .nil))))) (.e 12 (.e 9 (.q 13 (.q 14 (.q 15 (.e 16 .nil)))))))))))))))))) [1] Z s6 om QK ?_;refine TD.run ay [0,1,2] Z Z (Kg Z (Ex.add Z Z aQ) Z (TD.run ay [4,5,6] Z Z (Kg Z (Ex.add Z Z aR) Z ?_)));refine Kg Z (KB (k:=((a:Int)+b).toNat) Z Z ((Int.toNat_of_nonneg an).symm) Nj M9 (M6 j).1) Z ?_;refine TD.run ay [10] Z Z (Kg Z (Ex.sub Z Z aT) Z ?_);refine TD.br ?_ ?_
         ·refine LD Z .u (LA (cs := [jI d]) 0 0 Z Nc Z (fun _ _ h=>h.2.2.1) Z) Z [1] Z (Lh Z .u (.fn Tryz.call208 Z) (oD (32 - b) _ ao) rT Z [1] (Z) (Kg Z (Ex.add Z Z av) Z (Kg Z (Ex.rem Z Z QI aw) Z ?_)));refine Kg Z (KB (k:=((a:Int)+b).toNat) Z Z ((Int.toNat_of_nonneg an).symm) Nj M9 (M6 j).1) Z ?_;refine TD.unf 0 Z (Lg [0,0] Z (TD.stE (k:=((a:Int)+b).toNat) (u:=d) (u':=((d+l) % 2)) 0 0 Z .u Z Z M9 Z j Z Z Z Z (fun _ _ _ _ h=>by subst h; rfl) [1] (Z) (Lg [0,0] Z ?_)));rw[show c.length=(c.set (((a:Int)+b).toNat) ((d+l) % 2)).length from (List.length_set ..).symm];exact TD.nil (Lr [0,0] ⟨Z,Z⟩ QL QL)
         refine Lh Z .u (.fn Tryz.call208 Z) (oD (32 - b) _ ao) rT Z [1] (Z) (LD Z .u (LA (cs := [jI d]) 0 0 Z Nc Z (fun _ _ h=>h.2.2.1) Z) Z [1] Z (Kg Z (Ex.add Z Z av) Z (Kg Z (Ex.rem Z Z QI aw) Z ?_)));refine Kg Z (KB (k:=((a:Int)+b).toNat) Z Z ((Int.toNat_of_nonneg an).symm) Nj M9 (M6 j).1) Z ?_;refine TD.unf 0 Z (Lg [0,0] Z (TD.stE (k:=((a:Int)+b).toNat) (u:=d) (u':=((d+l) % 2)) 0 0 Z .u Z Z M9 Z j Z Z Z Z (fun _ _ _ _ h=>by subst h; rfl) [1] (Z) (Lg [0,0] Z ?_)));rw[show c.length=(c.set (((a:Int)+b).toNat) ((d+l) % 2)).length from (List.length_set ..).symm];exact TD.nil (Lr [0,0] ⟨Z,Z⟩ QL QL)
        rintro _ _ ⟨rfl,rfl⟩;refine KD (X.seq (T.region Z ?_));obtain⟨aU,h⟩:=aj h;exact J9 ay 1 Z (Kb Z (Ex.add Z Z aU) Z (J9 ay 1 Z (TL.nil (X.back (m':=al) [0,0] QI ⟨(c.set (((a:Int)+b).toNat) ((d+l) % 2)),(some ⟨C,D,none⟩),o,(b+1),Z,Z,h⟩ QL QL))))
       refine KA Z am ?_;obtain rfl:=M2 h;replace h:=ak;clear ak;refine T.exit (Kx (Kx (K1 (KD (X.seq (T.region Z ?_))))));obtain⟨aV,h⟩:=aj h;exact J9 ay 1 Z (Kb Z (Ex.add Z Z aV) Z (J9 ay 1 Z (TL.nil (X.back (m':=I) [0,0] QI ⟨c,J,o,a+1,Z,Z,h⟩ QL QL))))
     refine KA Z ah (T.skip (KD (X.seq (T.region Z ?_))));obtain⟨aW,h⟩:=aj h;exact J9 ay 1 Z (Kb Z (Ex.add Z Z aW) Z (J9 ay 1 Z (TL.nil (X.unf 0 Z (KX [0,0] Z (X.back (m':=I) [0,0] QI ⟨f,(some ⟨af,ag,none⟩),n,a+1,Z,Z,h⟩ QL QL))))))
    refine KA Z ad ?_;obtain rfl:=M2 h;replace h:=ab;clear ab;refine T.exit (Kx (Kx (K1 (X.seq (Ka Z (Kk ay Z (T.seq (Ka Z (Kk ay Z (T.block ?_))))))))));obtain⟨aX,ap,aq⟩:=M1 h;refine K4 (fun m e Rs=> ∃ (K:Int) (s:Int),e = [(2,.int .u32 0),(3,jI (8*(a0.length:Int))),(4,.slice A f.length n),(9,.int .u32 K),(10,jI s)]/\Rs = [bC 3 1 cO (.slice A f.length n) f,aI]/\fu a0 f m K s=some aX) (((31:Int) - (-1)).toNat+1) [0,0] ⟨0,31,Z,Z,by exact ap⟩ QL QL ?_;clear ap h;rintro ar _ _ ⟨K,s,rfl,rfl,h⟩
    cases ar with
    | zero =>
     rw[fu] at h;cases h
    | succ ar =>
     rw[fu] at h;refine T.seq (Ka Z (J9 ay 2 Z ?_));rcases jF h with⟨au,h⟩ | ⟨au,h⟩
     ·refine KE Z au (Kw (T.seq (T.block (T.region Z (J9 ay 1 Z (Kb Z (Ex.mulw Z Z) Z ?_))))));obtain⟨aY,h⟩:=aj h;refine J9 ay 3 Z (Kb Z (Ex.add Z Z aY) Z ?_);obtain⟨aZ,h⟩:=aj h;obtain⟨ax,L,h⟩:=M1 h;refine LO (E:=cO) (k:=((8*(a0.length:Int))+s).toNat) 0 Z (fun w G h=>bB QJ w G h) QJ L ?_;rintro a1 a2 _ ⟨⟩ _ ⟨_,_,rfl⟩;refine KK [0,0] Z ?_;refine Kb Z (KB (k:=((8*(a0.length:Int))+s).toNat) Z Z ((Int.toNat_of_nonneg aZ).symm) Nj M9 (M6 L).1) Z ?_;refine Kb Z (LA (cs := [jI ax]) 0 0 Z Nc Z (fun _ _ h=>h.2.2.1) Z) Z ?_;obtain⟨aF,h⟩:=aj h;refine Kb Z (Ex.sub Z Z aF) Z (Kb Z (L0 Z Ox Ov) Z (Kb Z (Ex.addw Z Z) Z (J9 ay 1 Z (TL.nil (KD (X.seq (T.region Z ?_)))))));obtain⟨aG,h⟩:=aj h;exact J9 ay 1 Z (Kb Z (Ex.sub Z Z aG) Z (J9 ay 1 Z (TL.nil (X.unf 0 Z (KX [0,0] Z (X.back (m':=ar) [0,0] QI ⟨(IntKind.u32.wrap ((IntKind.u32.wrap (K*2))+(IntKind.u32.wrap (1 - ax)))),(s - 1),Z,Z,h⟩ QL QL))))))
     refine KA Z au ?_;obtain rfl:=M2 h;replace h:=aq;clear aq;refine T.exit (Kx (Kx (K1 (X.seq (Ka Z (J9 ay 2 Z ?_))))));obtain rfl:=M2 h;exact Kc (T.ret (Km [1] Tryz.results165 (Kd Z)))
def tZ:eY := [(23,0,0),(23,1,1),(212,0,0),(212,1,2),(212,2,3),(245,0,0),(245,1,1)]
theorem au:(tZ).OK Tryz.prog:=⟨FOK.mk NF rfl NP rfl,FOK.mk NF rfl NG rfl,FOK.mk NU rfl Nh rfl,FOK.mk NU rfl M9 rfl,FOK.mk NU rfl M9 rfl,FOK.mk O2 rfl NG rfl,FOK.mk O2 rfl Nh rfl,trivial⟩
def t6:List Nat := [3,4,9]
theorem dH:NOK Tryz.prog t6:=⟨Nc,Oa,NQ,trivial⟩
theorem kr:Tryz.prog.follows .mixedOrders=true:=by kernel_rfl
theorem pR:BOK Tryz.prog 245 #[A7,.bool false,A7] [(0,1),(1,2)]:=BOK.mk Tryz.zeroValue245 O2 (by intro w; simp)
theorem pe:SOK Tryz.prog 89 245 0 3 #[]:=SOK.mk0 NW Oq
theorem pf:SOK Tryz.prog 89 245 1 3 #[A7,.bool false,A7]:=SOK.mk NW Oq Tryz.zeroValue245 QJ QK
theorem pS:(Tryz.prog.info? 245).map (fun i=>(i.zero,i.size,i.bytes))=some (some (.agg #[A7,.bool false,A7]),3,40):=by kernel_rfl
theorem fv:iH Tryz.prog 3 245 [.string,.bool,.string] true:=(iH.struct Qh Oq rfl Tryz.underlying245 Tryz.stoodInHeld245 ⟨by decide,rfl,[.string],[.bool,.string],false,rfl,((Ls NQ NG Tryz.underlying9).mono QJ),⟨by decide,rfl,[.bool,.string],[],true,rfl,(iH.struct NL Nh rfl Tryz.underlying23 Tryz.stoodInHeld23 ⟨by decide,rfl,[.bool],[.string],false,rfl,(Ls Oa NP Tryz.underlying4),⟨by decide,rfl,[.string],[],false,rfl,(Ls NQ NG Tryz.underlying9),rfl⟩⟩),rfl⟩⟩)
def ey (a0:List Hd):Nat->Bool->Nat->Option (Lp Bool (Bool×Nat))
 | 0,_,_=>none
 | d+1,c,a=>if (a:Int)<(a0.length:Int) then ((a0[a]?).bind fun b=>if b.Mu.null=true then (if b.Mu.data = [] then (if A0 ((a:Int)+1) then (ey a0 d c (a+1)) else none) else some (Lp.ret false)) else (if A0 ((a:Int)+1) then (ey a0 d c (a+1)) else none)) else (some (Lp.go (c,a)))
def lI (a0:List Hd):Option (Bool):=(ey a0 (((a0.length:Int)).toNat+1) false 0).bind fun e=>match e with | .ret r=>some r | .go (a,b)=>some true
theorem t7 (a0:List Hd) (u:AT) (c2:Nat) (r:Bool) (h:lI a0=some r):aB Tryz.prog 222 #[.slice u a0.length c2] (RX.of (ar 3 cA) [.slice u a0.length c2] a0) (aI) (fun v A' N=>v= .bool r/\A'=aI/\N = []):=by
 refine aS Tryz.func222 Z Tryz.ntmps222 Z ?_;intro F w hX;unfold lI at h;refine Ka Z (Kk au Z (T.seq (Ka Z (Kk au Z (T.block ?_)))));obtain⟨C,t,j⟩:=M1 h;refine K4 (fun m e Rs=> ∃ (l:Bool) (b:Nat),e = [(0,.slice u a0.length c2),(2,.bool l),(3,jI (b:Int))]/\Rs = [aI]/\ey a0 m l b=some C) (((a0.length:Int)).toNat+1) [0] ⟨false,0,Z,Z,by exact t⟩ QL QL ?_;clear t h;rintro p _ _ ⟨l,b,rfl,rfl,h⟩
 cases p with
 | zero =>
  rw[ey] at h;cases h
 | succ p =>
  rw[ey] at h;refine T.seq (Ka Z (J9 au 2 Z (Kb Z (KC Z NW) Z (J9 au 1 Z ?_))));rcases jF h with⟨n,h⟩ | ⟨n,h⟩
  ·refine KE Z n (Kw (T.seq (T.block (Ka Z ?_))));obtain⟨x,c,h⟩:=M1 h;obtain⟨D,E,rfl,s,A,f,i,d⟩:=KU QJ hX c;obtain⟨G,d,B⟩:=d;obtain rfl:s=(wL1 x):=d;refine J9 au 2 Z ?_;refine Kb Z (KB (k:=b) Z Z Z NW Oq (M6 c).1) Z ?_;refine J9 au 2 Z (Kb Z (K5 1 Z Oa i f Z Z) Z ?_);rcases jF h with⟨a,h⟩ | ⟨a,h⟩
   ·refine J9 au 1 Z (Kh 16 Z a (Ki au 2 Z ?_));refine TL.q Z (.g Z Z Z) (KB (k:=b) Z Z Z NW Oq (M6 c).1) Z ?_;refine Ki au 2 Z (TL.q Z (.g Z Z Z) (K5 2 Z NQ i f Z Z) Z (TL.q Z (.g Z Z Z) (LV Z (m := []) Z) Z (Ki au 1 Z ?_)));rcases jF h with⟨o,h⟩ | ⟨o,h⟩
    ·refine KG Z o (T.skip (KD (X.seq (T.region Z ?_))));obtain⟨y,h⟩:=aj h;exact J9 au 1 Z (Kb Z (Ex.add Z Z y) Z (J9 au 1 Z (TL.nil (X.back (m':=p) [0] QI ⟨l,b+1,Z,Z,h⟩ QL QL))))
    refine KF Z o (Ka Z (J9 au 1 Z ?_));obtain rfl:=M2 h;obtain rfl:=M2 j;exact Kc (T.ret (Ko (Ke (Ke (Ko (Ke (Km [0] Tryz.results222 (Kd Z))))))))
   replace a:=M7 a;refine J9 au 1 Z (Kh 16 Z a (K0 au Z (KN Z Z (T.skip (KD (X.seq (T.region Z ?_)))))));obtain⟨z,h⟩:=aj h;exact J9 au 1 Z (Kb Z (Ex.add Z Z z) Z (J9 au 1 Z (TL.nil (X.back (m':=p) [0] QI ⟨l,b+1,Z,Z,h⟩ QL QL))))
  refine KA Z n ?_;obtain rfl:=M2 h;replace h:=j;clear j;refine T.exit (Kx (Kx (K1 (X.seq (Ka Z (J9 au 1 Z ?_))))));obtain rfl:=M2 h;exact Kc (T.ret (Km [0] Tryz.results222 (Kd Z)))
def fz (a0:List Hd) (a1:List Hd):Nat->Bool->Nat->Option (Lp Bool (Bool×Nat))
 | 0,_,_=>none
 | d+1,e,a=>if (a:Int)<(a0.length:Int) then ((a0[a]?).bind fun b=>(a1[a]?).bind fun c=>if b.MD=c.MD then (if b.Mu.null=c.Mu.null then (if b.Mu.data=c.Mu.data then (if A0 ((a:Int)+1) then (fz a0 a1 d e (a+1)) else none) else some (Lp.ret false)) else some (Lp.ret false)) else some (Lp.ret false)) else (some (Lp.go (e,a)))
def mO (a0:List Hd) (a1:List Hd):Option (Bool):=if (a0.length:Int)=(a1.length:Int) then ((fz a0 a1 (((a0.length:Int)).toNat+1) false 0).bind fun e=>match e with | .ret r=>some r | .go (a,b)=>some true) else some false
theorem vJ (a0:List Hd) (E:AT) (c2:Nat) (a1:List Hd) (G:AT) (H:Nat) (r:Bool) (h:mO a0 a1=some r):aB Tryz.prog 228 #[.slice E a0.length c2,.slice G a1.length H] (RX.and (RX.of (ar 3 cA) [.slice E a0.length c2] a0) (RX.of (ar 3 cA) [.slice G a1.length H] a1)) (aI) (fun v A' N=>v= .bool r/\A'=aI/\N = []):=by
 refine aS Tryz.func228 Z Tryz.ntmps228 Z ?_;intro F w hX;unfold mO at h;refine Ka Z (Kk au Z (T.seq (Ka Z (J9 au 1 Z (Kb Z (KC Z NW) Z (J9 au 1 Z (Kb Z (KC Z NW) Z (J9 au 1 Z ?_))))))));rcases jF h with⟨I,h⟩ | ⟨I,h⟩
 ·refine KG Z I (Kw (T.seq (Ka Z (Kk au Z (T.block ?_)))));obtain⟨P,D,c⟩:=M1 h;refine K4 (fun m e Rs=> ∃ (u:Bool) (j:Nat),e = [(0,.slice E a0.length c2),(1,.slice G a1.length H),(4,.bool u),(5,jI (j:Int))]/\Rs = [aI]/\fz a0 a1 m u j=some P) (((a0.length:Int)).toNat+1) [0] ⟨false,0,Z,Z,by exact D⟩ QL QL ?_;clear D h;rintro n _ _ ⟨u,j,rfl,rfl,h⟩
  cases n with
  | zero =>
   rw[fz] at h;cases h
  | succ n =>
   rw[fz] at h;refine T.seq (Ka Z (J9 au 2 Z (Kb Z (KC Z NW) Z (J9 au 1 Z ?_))));rcases jF h with⟨o,h⟩ | ⟨o,h⟩
   ·refine KE Z o ?_;refine Kw (T.seq (T.block (T.seq (KQ (.q 0 (.q 1 (.q 2 (.q 3 (.q 4 (.q 5 (.q 6 (.q 7 (.q 8 .nil))))))))) [0] Z kr (NoP.seq (NoP.blk (NoP.seq (NoP.seq (NoP.blk (NoP.seq bi)))))) QK ?_))));obtain⟨a,p,h⟩:=M1 h;obtain⟨Q,R,rfl,x,K,y,z,f⟩:=KU QJ (K8 hX) p;obtain⟨S,f,L⟩:=f;obtain rfl:x=(wL1 a):=f;refine TD.run au [0,1] Z Z ?_;refine Kg Z (KB (k:=j) Z Z Z NW Oq (M6 p).1) Z ?_;refine Kg Z (Lf (us:=wL1 a) 0 Z Qh Oq z y Z Z Z) Z ?_;obtain⟨b,s,h⟩:=M1 h;obtain⟨U,V,rfl,A,M,B,C,g⟩:=KU QJ (KP hX) s;obtain⟨W,g,O⟩:=g;obtain rfl:A=(wL1 b):=g;refine TD.run au [4,5] Z Z ?_;refine Kg Z (KB (k:=j) Z Z Z NW Oq (M6 s).1) Z ?_;refine Kg Z (Lf (us:=wL1 b) 0 Z Qh Oq C B Z Z Z) Z ?_;rcases jF h with⟨d,h⟩ | ⟨d,h⟩
    ·rcases jF h with⟨i,h⟩ | ⟨i,h⟩
     ·rcases jF h with⟨t,h⟩ | ⟨t,h⟩
      ·refine Kg Z (L5 (us:=wL1 a) (vs:=wL1 b) fv Z PV Z Z Z Z (fm (sU (l:=a.MD) (m:=b.MD) d) (fm (pG i) (fm (sU (l:=a.Mu.data) (m:=b.Mu.data) t) Z)))) Z (K6 (KN Z Z (T.skip (KD (X.seq (T.region Z ?_))))));obtain⟨J,h⟩:=aj h;exact J9 au 1 Z (Kb Z (Ex.add Z Z J) Z (J9 au 1 Z (TL.nil (X.back (m':=n) [0] QI ⟨u,j+1,Z,Z,h⟩ QL QL))))
      refine Kg Z (L5 (us:=wL1 a) (vs:=wL1 b) fv Z PV Z Z Z Z (fm (sU (l:=a.MD) (m:=b.MD) d) (fm (pG i) (mi (sf (l:=a.Mu.data) (m:=b.Mu.data) t))))) Z (K6 (Kr Z Z (Ka Z (J9 au 1 Z ?_))));obtain rfl:=M2 h;obtain rfl:=M2 c;exact Kc (T.ret (Ko (Ke (Ke (Ko (Ke (Km [0] PW (Kd Z))))))))
     refine Kg Z (L5 (us:=wL1 a) (vs:=wL1 b) fv Z PV Z Z Z Z (fm (sU (l:=a.MD) (m:=b.MD) d) (mi (tS i)))) Z (K6 (Kr Z Z (Ka Z (J9 au 1 Z ?_))));obtain rfl:=M2 h;obtain rfl:=M2 c;exact Kc (T.ret (Ko (Ke (Ke (Ko (Ke (Km [0] PW (Kd Z))))))))
    refine Kg Z (L5 (us:=wL1 a) (vs:=wL1 b) fv Z PV Z Z Z Z (mi (sf (l:=a.MD) (m:=b.MD) d))) Z (K6 (Kr Z Z (Ka Z (J9 au 1 Z ?_))));obtain rfl:=M2 h;obtain rfl:=M2 c;exact Kc (T.ret (Ko (Ke (Ke (Ko (Ke (Km [0] PW (Kd Z))))))))
   refine KA Z o ?_;obtain rfl:=M2 h;replace h:=c;clear c;refine T.exit (Kx (Kx (K1 (X.seq (Ka Z (J9 au 1 Z ?_))))));obtain rfl:=M2 h;exact Kc (T.ret (Km [0] PW (Kd Z)))
 refine KF Z I (Ka Z (J9 au 1 Z ?_));obtain rfl:=M2 h;exact Kc (T.ret (Ke (Km [0] PW (Kd Z))))
def fA (a0:AI) (i:Int):Nat->List Hd->Int->Int->Int->List Hd->Nat->Option (Lp (List Hd×Int×Int) (List Hd×Int×Int×Int×List Hd×Nat))
 | 0,_,_,_,_,_,_=>none
 | j+1,f,g,h,a,e,d=>if (d:Int)<i then (if 0<=a/\a.toNat<=a0.length then ((j9 (a0.drop a.toNat)).bind fun b=>if b.err=0 then (if b.blob.null=true then (some (Lp.ret ([],0,4))) else (if A0 (a+b.many) then (if 0<=(a+b.many)/\(a+b.many).toNat<=a0.length then ((j9 (a0.drop ((a+b.many).toNat))).bind fun c=>if c.err=0 then (if (e.length+1)*40<=140737488355328 then (if A0 (a+b.many) then (if A0 ((a+b.many)+c.many) then (if A0 ((d:Int)+1) then (fA a0 i j f g h ((a+b.many)+c.many) (e ++ [(⟨b.blob.data,c.blob⟩:Hd)]) (d+1)) else none) else none) else none) else none) else (some (Lp.ret ([],0,c.err)))) else none) else none)) else (some (Lp.ret ([],0,b.err)))) else none) else (some (Lp.go (f,g,h,a,e,d)))
def mP (a0:AI):Option (List Hd×Int×Int):=(vm a0 32).bind fun (g,a,c)=>if c=0 then ((tN g).bind fun b=>if b<0 then some ([],0,4) else (if A0 ((a0.length:Int) - a) then (if 0<=((a0.length:Int) - a)/\((a0.length:Int) - a)<=9223372036854775807 then (if b>(((a0.length:Int) - a) / 2) then some ([],0,1) else ((fA a0 b ((b).toNat+1) [] 0 0 a ([]:List Hd) 0).bind fun e=>match e with | .ret r=>some r | .go (h,i,j,d,f,k)=>some (f,d,0))) else none) else none)) else some ([],0,c)
theorem vK (a0:AI) (r:List Hd×Int×Int) (h:mP a0=some r):aB Tryz.prog 237 #[jS a0] .triv (aI) (fun v A' N=> ∃ (J:AT) (K:Nat),v= .tuple #[.slice J r.1.length K,jI r.2.1,jI r.2.2]/\A'=aI/\N = [RdR (ar 3 cA) [.slice J r.1.length K] r.1]):=by
 refine aS Tryz.func237 Z Tryz.ntmps237 Z ?_;intro F w hX;unfold mP at h;refine Ka Z (KJ au Z Z ?_);obtain⟨⟨x1,x2,x3⟩,S,h⟩:=M1 h;refine J9 au 1 Z (Kt Z .u (.fn Tryz.call235 Z) (KM (fun w=>sd a0 32 _ S w)) (fun _ _=>Ku _ _) Z (Kk au Z (T.seq (Ka Z (J9 au 2 Z ?_)))));rcases jF h with⟨M,h⟩ | ⟨M,h⟩
 ·refine KG Z M (Kv Z ?_);obtain⟨O,U,h⟩:=M1 h;refine J9 au 1 Z (Kt Z .u (.fn Tryz.call236 Z) (KM (fun w=>qo x1 _ U w)) (fun _ _=>Ku _ _) Z (Kk au Z (T.seq (Ka Z (J9 au 2 Z ?_)))));rcases jF h with⟨P,h⟩ | ⟨P,h⟩
  ·refine KE Z P (Ka Z (J9 au 3 Z ?_));obtain rfl:=M2 h;exact Kc (T.ret (Ke (Kl 3 cA (KO [1,0] Pv (Kd Z) (Kd Z) (Kd Z) ⟨_,_,Z,Z,Z⟩ QL (.inl Z)))))
  refine KA Z P (Kw (T.seq (Ka Z (J9 au 2 Z (Kb Z (KT Z Na) Z ?_)))));obtain⟨c9,h⟩:=aj h;refine J9 au 1 Z (Kb Z (Ex.sub Z Z c9) Z ?_);obtain⟨V,h⟩:=aj h;refine Kb Z (Ex.quo Z Z QI V) Z (J9 au 1 Z ?_);rcases jF h with⟨t,h⟩ | ⟨t,h⟩
  ·refine KE Z t (Ka Z (J9 au 3 Z ?_));obtain rfl:=M2 h;exact Kc (T.ret (Ke (Kl 3 cA (KO [1,0] Pv (Kd Z) (Kd Z) (Kd Z) ⟨_,_,Z,Z,Z⟩ QL (.inl Z)))))
  refine KA Z t (Kv Z (Lj (cells:= #[]) Z .u pe Z QL Z (fun W=>(LN (us := []) (xs:=([]:List Hd)) (E:=cA) (z:=3) Z (Nat.le_of_ble_eq_true Z) (fun _=>Z) (Kk au Z (T.seq (Ka Z (J9 au 1 Z ?_))))))));refine Kc (T.block (Le 245 3 cA ?_));obtain⟨Y,x,d⟩:=M1 h;refine K4 (fun m e Rs=> ∃ (g:List Hd) (j:AT) (k:Nat) (n:Int) (o:Int) (a:Int) (f:List Hd) (y:AT) (A:Nat) (s:Nat),e = [(0,jS a0),(2,.slice j g.length k),(3,jI n),(4,jI o),(6,jI a),(8,jI O),(9,.slice y f.length A),(10,jI (s:Int))]/\Rs = [bC 245 3 cA (.slice j g.length k) g,bC 245 3 cA (.slice y f.length A) f,aI]/\fA a0 O m g n o a f s=some Y) ((O).toNat+1) [0,0,0] ⟨[],none,0,0,0,x2,([]:List Hd),(some ⟨W,0,none⟩),0,0,Z,Z,by exact x⟩ QL QL ?_;clear x h;rintro B _ _ ⟨g,j,k,n,o,a,f,y,A,s,rfl,rfl,h⟩
  cases B with
  | zero =>
   rw[fA] at h;cases h
  | succ B =>
   rw[fA] at h;refine T.seq (Ka Z (J9 au 3 Z ?_));rcases jF h with⟨C,h⟩ | ⟨C,h⟩
   ·refine KE Z C (Kw (T.seq (T.block (Ka Z ?_))));obtain⟨D,h⟩:=aj h;refine J9 au 2 Z ?_;replace D:0<=a/\a.toNat<=a0.length:=D;refine Kb Z (KZ (p:=a.toNat) (q:=a0.length) (m:=(a0.drop a.toNat)) Z Na (.some Z ((Int.toNat_of_nonneg D.1).symm)) .none (by first | omega | (dsimp only; omega)) (dy _ _)) Z ?_;obtain⟨b,Q,h⟩:=M1 h;refine Kt Z .u (.fn Tryz.call230 Z) (iV (a0.drop a.toNat) _ Q) rT Z (TL.alloc Z .u Tryz.zeroValue212 Z (fun ah=>(Kj 0 Z (cs':=wA2 b) Z .u Z Z OX Z Z Z Z Z (Kc (T.seq (Ka Z (Kf au dH 0 Z 3 Z Z ?_)))))));rcases jF h with⟨G,h⟩ | ⟨G,h⟩
    ·refine KG Z G (Kw (T.seq (Ka Z (Kf au dH 0 Z 3 Z Z ?_))));rcases jF h with⟨i,h⟩ | ⟨i,h⟩
     ·refine Kc (Kr Z i (Ka Z (J9 au 3 Z ?_)));obtain rfl:=M2 h;obtain rfl:=M2 d;exact Kc (T.ret (Ke (Ko (Ke (Ke (Ko (Ke (Kl 3 cA (KO [4,0] Pv (Kd Z) (Kd Z) (Kd Z) ⟨_,_,Z,Z,Z⟩ QL (.inl Z))))))))))
     replace i:=M7 i;refine Kc (KN Z i (Kv Z ?_));obtain⟨aa,h⟩:=aj h;refine Kf au dH 0 Z 4 Z Z (Kb Z (Ex.add Z Z aa) Z ?_);obtain⟨H,h⟩:=aj h;replace H:0<=(a+b.many)/\(a+b.many).toNat<=a0.length:=H;refine Kb Z (KZ (p:=(a+b.many).toNat) (q:=a0.length) (m:=(a0.drop ((a+b.many).toNat))) Z Na (.some Z ((Int.toNat_of_nonneg H.1).symm)) .none (by first | omega | (dsimp only; omega)) (dy _ _)) Z ?_;obtain⟨c,R,h⟩:=M1 h;refine Kt Z .u (.fn Tryz.call230 Z) (iV (a0.drop ((a+b.many).toNat)) _ R) rT Z (TL.alloc Z .u Tryz.zeroValue212 Z (fun ai=>(Kj 0 Z (cs':=wA2 c) Z .u Z Z OX Z Z Z Z Z (Kc (T.seq (Ka Z (Kf au dH 0 Z 3 Z Z ?_)))))));rcases jF h with⟨I,h⟩ | ⟨I,h⟩
     ·refine KG Z I (Kv Z (Kf au dH 1 Z 5 Z Z (Kb Z (Kp (us:=wL0 c.blob) 0 Z NL Nh Z Z Z) Z ?_)));refine Kb Z (KH (cells:= #[jS b.blob.data,.bool c.blob.null,jS c.blob.data]) pR Z QK) Z ?_;refine Lj (cells:= #[jS b.blob.data,.bool c.blob.null,jS c.blob.data]) Z .u pf Z QK Z (fun ak=> ?_);obtain⟨L,h⟩:=aj h;refine L2 3 Z .u (us := [jS b.blob.data,.bool c.blob.null,jS c.blob.data]) (u:=(⟨b.blob.data,c.blob⟩:Hd)) (l:=f) (E:=cA) Tryz.underlying89 pS Z QJ Z Z Z Z Z Z (fun _ _=>Z) (by have hq:=L; omega) (by have hq:=L; omega) Z (fun ab ad=> ?_);refine KK [0,0,0,0,0] Z (Kk au Z (T.region Z ?_));obtain⟨ae,h⟩:=aj h;refine Kf au dH 1 Z 3 Z Z (Kb Z (Ex.add Z Z ae) Z ?_);obtain⟨af,h⟩:=aj h;refine Kf au dH 0 Z 2 Z Z (Kb Z (Ex.add Z Z af) Z (J9 au 1 Z (TL.nil (KD (X.seq (T.region Z ?_))))));obtain⟨ag,h⟩:=aj h;exact J9 au 1 Z (Kb Z (Ex.add Z Z ag) Z (J9 au 1 Z (TL.nil (X.back (m':=B) [2,2,2] QI ⟨g,j,k,n,o,((a+b.many)+c.many),(f ++ [(⟨b.blob.data,c.blob⟩:Hd)]),ab,ad,s+1,Z,Z,h⟩ QL QL))))
     refine KF Z I ?_;refine T.seq (KQ (.q 0 (.q 1 (.q 2 (.q 3 (.q 4 .nil))))) [0,0,0,0,0] Z kr (NoP.seq (NoP.seq (NoP.blk (NoP.seq (NoP.seq (NoP.blk (NoP.seq bi))))))) QK ?_);refine TD.run au [0] Z Z (Kg Z (KI 0 Z Nc Z Z) Z (TD.run au [2,3,4] Z Z ?_));obtain rfl:=M2 h;obtain rfl:=M2 d;exact K6 (T.ret (Ke (Ko (Ke (Ke (Ko (Ke (Kl 3 cA (KO [5,0] Pv (Kd Z) (Kd Z) (Kd Z) ⟨_,_,Z,Z,Z⟩ QL (.inl Z))))))))))
    refine KF Z G ?_;refine T.seq (KQ (.q 0 (.q 1 (.q 2 (.q 3 (.q 4 .nil))))) [0,0,0,0] Z kr (NoP.seq (NoP.seq (NoP.blk (NoP.seq (NoP.seq (NoP.blk (NoP.seq bi))))))) QK ?_);refine TD.run au [0] Z Z (Kg Z (KI 0 Z Nc Z Z) Z (TD.run au [2,3,4] Z Z ?_));obtain rfl:=M2 h;obtain rfl:=M2 d;exact K6 (T.ret (Ke (Ko (Ke (Ke (Ko (Ke (Kl 3 cA (KO [4,0] Pv (Kd Z) (Kd Z) (Kd Z) ⟨_,_,Z,Z,Z⟩ QL (.inl Z))))))))))
   refine KA Z C ?_;obtain rfl:=M2 h;replace h:=d;clear d;refine T.exit (Kx (Kx (K1 (X.seq (Ka Z (J9 au 5 Z ?_))))));obtain rfl:=M2 h;exact Kc (T.ret (Ll QJ 1 Z (KX [0,0,0] Z (KO [2,1] Pv (Kd Z) (Kd Z) (Kd Z) ⟨_,_,Z,Z,Z⟩ QL (.inl Z)))))
 refine KF Z M (Ka Z (J9 au 4 Z ?_));obtain rfl:=M2 h;exact Kc (T.ret (Ke (Kl 3 cA (KO [1,0] Pv (Kd Z) (Kd Z) (Kd Z) ⟨_,_,Z,Z,Z⟩ QL (.inl Z)))))
def t8:eY := [(23,0,0),(23,1,1),(91,0,0),(91,1,1),(91,2,2),(91,3,4),(91,4,6),(212,0,0),(212,1,2),(212,2,3),(310,1,7)]
theorem ao:(t8).OK Tryz.prog:=⟨FOK.mk NF rfl NP rfl,FOK.mk NF rfl NG rfl,FOK.mk NH rfl M9 rfl,FOK.mk NH rfl M9 rfl,FOK.mk NH rfl Nh rfl,FOK.mk NH rfl Nh rfl,FOK.mk NH rfl Pq rfl,FOK.mk NU rfl Nh rfl,FOK.mk NU rfl M9 rfl,FOK.mk NU rfl M9 rfl,FOK.mk Pw rfl M9 rfl,trivial⟩
def t9:List Nat := [3,4,9,89]
theorem aY:NOK Tryz.prog t9:=⟨Nc,Oa,NQ,Tryz.isAgg89,trivial⟩
theorem qx:BOK Tryz.prog 91 #[.int .i64 0,.int .i64 0,.bool false,A7,.bool false,A7,A5] [(0,1),(1,1),(2,2),(4,2),(6,1)]:=BOK.mk Tryz.zeroValue91 NH (by intro w; simp)
theorem kQ:BOK Tryz.prog 310 #[.int .i64 0,.int .i64 0,.bool false,A7,.bool false,A7,A5,.int .i64 0,.int .i64 0] [(0,7),(7,1),(8,1)]:=BOK.mk Tryz.zeroValue310 Pw (by intro w; simp)
theorem dP:iH Tryz.prog 2 23 [.bool,.string] true:=(iH.struct NL Nh rfl Tryz.underlying23 Tryz.stoodInHeld23 ⟨by decide,rfl,[.bool],[.string],false,rfl,(Ls Oa NP Tryz.underlying4),⟨by decide,rfl,[.string],[],false,rfl,(Ls NQ NG Tryz.underlying9),rfl⟩⟩)
def mD (a0:Bl):Option (Bool):=if a0.null=true then (if a0.data = [] then some false else some true) else some false
theorem qy (a0:Bl) (r:Bool) (h:mD a0=some r):aB Tryz.prog 221 #[.agg (wA3 a0)] .triv (aI) (fun v A' N=>v= .bool r/\A'=aI/\N = []):=by
 refine aS Tryz.func221 Z Tryz.ntmps221 Z ?_;intro F w hX;unfold mD at h;refine Ka Z (TL.box Z .u Z Z (fun c=>(KJ ao Z Z ?_)));rcases jF h with⟨c2,h⟩ | ⟨c2,h⟩
 ·refine Kf ao aY 0 Z 3 Z Z (Kh 5 Z c2 (Kf ao aY 0 Z 2 Z Z (TL.q Z (.g Z Z Z) (LV Z (m := []) Z) Z (Ki ao 2 Z ?_))));rcases jF h with⟨a,h⟩ | ⟨a,h⟩
  ·obtain rfl:=M2 h;exact Kc (T.ret (Ks [1] Tryz.results221 (Kd (v:= .bool false) (congrArg (fun b=>some (Value.bool b)) (bc (M4 a)))) ⟨Z,Z,Z⟩ QL (.inl Z)))
  obtain rfl:=M2 h;exact Kc (T.ret (Ks [1] Tryz.results221 (Kd (v:= .bool true) (congrArg (fun b=>some (Value.bool b)) (bt (M5 a)))) ⟨Z,Z,Z⟩ QL (.inl Z)))
 replace c2:=M7 c2;refine Kf ao aY 0 Z 3 Z Z (Kh 5 Z c2 (Ki ao 5 Z ?_));obtain rfl:=M2 h;exact Kc (T.ret (Km [1] Tryz.results221 (Kd Z)))
def kb (a0:Rec):Option (Int):=if a0.My<0 then some 11 else (if a0.My>2147483647 then some 11 else ((mD a0.MD).bind fun b=>if b=true then some 4 else ((mD a0.Mu).bind fun c=>if c=true then some 4 else ((lI a0.Ms).bind fun a=>if a=true then some 0 else some 4))))
theorem oF (a0:Rec) (j:AT) (c2:Nat) (r:Int) (h:kb a0=some r):aB Tryz.prog 200 #[.agg (wA4 a0 j c2)] (RX.of (ar 3 cA) [.slice j a0.Ms.length c2] a0.Ms) (aI) (fun v A' N=>v=jI r/\A'=aI/\N = []):=by
 refine aS Tryz.func200 Z Tryz.ntmps200 Z ?_;intro F w hX;unfold kb at h;refine Ka Z (TL.box Z .u Z Z (fun m=>(Kk ao Z (T.seq (Ka Z ?_)))));rcases jF h with⟨d,h⟩ | ⟨d,h⟩
 ·refine Kf ao aY 0 Z 4 Z Z (Kh 6 Z (M4 d) (K0 ao Z (Kr Z Z (Ka Z (J9 ao 1 Z ?_)))));obtain rfl:=M2 h;exact Kc (T.ret (Ke (Km [1] PF (Kd Z))))
 refine Kf ao aY 0 Z 4 Z Z (Kh 6 Z (M5 d) (Kf ao aY 0 Z 4 Z Z ?_));rcases jF h with⟨e,h⟩ | ⟨e,h⟩
 ·refine KE Z e (Ka Z (J9 ao 1 Z ?_));obtain rfl:=M2 h;exact Kc (T.ret (Ke (Km [1] PF (Kd Z))))
 refine KA Z e (Kw (T.seq (Ka Z (J9 ao 1 Z (Kb Z (Kp (us:=wL0 a0.MD) 0 Z NL Nh Z Z Z) Z ?_)))));obtain⟨n,k,h⟩:=M1 h;refine Kt Z .u (.fn Tryz.call221 Z) (qy a0.MD _ k) rT Z ?_;rcases jF h with⟨c,h⟩ | ⟨c,h⟩
 ·refine J9 ao 1 Z (Kh 14 Z c (K0 ao Z (Kr Z Z (Ka Z (J9 ao 1 Z ?_)))));obtain rfl:=M2 h;exact Kc (T.ret (Ke (Km [1] PF (Kd Z))))
 replace c:=M7 c;refine J9 ao 1 Z (Kh 14 Z c (Ki ao 1 Z (TL.q Z (.g Z Z Z) (Kp (us:=wL0 a0.Mu) 0 Z NL Nh Z Z Z) Z ?_)));obtain⟨o,f,h⟩:=M1 h;refine Kt Z (.g Z Z Z) (.fn Tryz.call221 Z) (qy a0.Mu _ f) rT Z ?_;rcases jF h with⟨a,h⟩ | ⟨a,h⟩
 ·refine Ki ao 2 Z (Kh 19 Z a (K0 ao Z (Kr Z Z (Ka Z (J9 ao 1 Z ?_)))));obtain rfl:=M2 h;exact Kc (T.ret (Ke (Km [1] PF (Kd Z))))
 replace a:=M7 a;refine Ki ao 2 Z (Kh 19 Z a ?_);obtain⟨l,i,h⟩:=M1 h;refine Kf ao aY 0 Z 2 Z Z (Kt Z (.g Z Z Z) (.fn Tryz.call222 Z) (t7 a0.Ms _ _ _ i) (fun _ hs=>(KL hs hX)) Z (Ki ao 2 Z ?_));rcases jF h with⟨b,h⟩ | ⟨b,h⟩
 ·refine Kc (KN Z (bc b) (Kv Z (J9 ao 1 Z ?_)));obtain rfl:=M2 h;exact Kc (T.ret (Km [1] PF (Kd Z)))
 replace b:=M7 b;refine Kc (Kr Z (bt b) (Ka Z (J9 ao 1 Z ?_)));obtain rfl:=M2 h;exact Kc (T.ret (Ke (Km [1] PF (Kd Z))))
def mQ (a0:Rec) (a1:Rec):Option (Bool):=if a0.MH=a1.MH then (if a0.My=a1.My then (if a0.MD.null=a1.MD.null then (if a0.MD.data=a1.MD.data then (if a0.Mu.null=a1.Mu.null then (if a0.Mu.data=a1.Mu.data then ((mO a0.Ms a1.Ms).bind fun a=>some a) else some false) else some false) else some false) else some false) else some false) else some false
theorem vL (a0:Rec) (j:AT) (c2:Nat) (a1:Rec) (k:AT) (n:Nat) (r:Bool) (h:mQ a0 a1=some r):aB Tryz.prog 209 #[.agg (wA4 a0 j c2),.agg (wA4 a1 k n)] (RX.and (RX.of (ar 3 cA) [.slice j a0.Ms.length c2] a0.Ms) (RX.of (ar 3 cA) [.slice k a1.Ms.length n] a1.Ms)) (aI) (fun v A' N=>v= .bool r/\A'=aI/\N = []):=by
 refine aS Tryz.func209 Z Tryz.ntmps209 Z ?_;intro F w hX;unfold mQ at h;refine Ka Z (TL.box Z .u Z Z (fun p=>(TL.box Z .u Z Z (fun s=>(KJ ao Z Z (Kf ao aY 1 Z 3 Z Z ?_))))));rcases jF h with⟨e,h⟩ | ⟨e,h⟩
 ·refine Kf ao aY 0 Z 3 Z Z (Kh 10 Z (M4 e) (Kf ao aY 1 Z 3 Z Z ?_));rcases jF h with⟨f,h⟩ | ⟨f,h⟩
  ·refine Kf ao aY 0 Z 4 Z Z (Kh 17 Z (M4 f) (Ki ao 1 Z (TL.q Z (.g Z Z Z) (Kp (us:=wL0 a0.MD) 1 Z NL Nh Z Z Z) Z (Ki ao 1 Z (TL.q Z (.g Z Z Z) (Kp (us:=wL0 a1.MD) 0 Z NL Nh Z Z Z) Z ?_)))));rcases jF h with⟨d,h⟩ | ⟨d,h⟩
   ·rcases jF h with⟨b,h⟩ | ⟨b,h⟩
    ·refine TL.q Z (.g Z Z Z) (LE (us:=wL0 a0.MD) (vs:=wL0 a1.MD) dP Z Ot Z Z Z Z (fm (pG d) (fm (sU (l:=a0.MD.data) (m:=a1.MD.data) b) Z))) Z (Ki ao 3 Z (TL.q Z (.g Z Z Z) (Kp (us:=wL0 a0.Mu) 1 Z NL Nh Z Z Z) Z (Ki ao 1 Z (TL.q Z (.g Z Z Z) (Kp (us:=wL0 a1.Mu) 0 Z NL Nh Z Z Z) Z ?_))));rcases jF h with⟨a,h⟩ | ⟨a,h⟩
     ·rcases jF h with⟨c,h⟩ | ⟨c,h⟩
      ·refine TL.q Z (.g Z Z Z) (LE (us:=wL0 a0.Mu) (vs:=wL0 a1.Mu) dP Z Ot Z Z Z Z (fm (pG a) (fm (sU (l:=a0.Mu.data) (m:=a1.Mu.data) c) Z))) Z (Kf ao aY 1 Z 5 Z Z ?_);obtain⟨o,i,h⟩:=M1 h;refine Kf ao aY 0 Z 1 Z Z (Kt Z (.g Z Z Z) (.fn Tryz.call228 Z) (vJ a0.Ms _ _ a1.Ms _ _ _ i) (fun _ hs=>(La (KL hs (K8 hX)) (KL hs (KP hX)))) Z (Ki ao 2 Z ?_));obtain rfl:=M2 h;exact Kc (T.ret (Km [2] Px (Kd Z)))
      refine TL.q Z (.g Z Z Z) (LE (us:=wL0 a0.Mu) (vs:=wL0 a1.Mu) dP Z Ot Z Z Z Z (fm (pG a) (mi (sf (l:=a0.Mu.data) (m:=a1.Mu.data) c)))) Z (Ki ao 9 Z ?_);obtain rfl:=M2 h;exact Kc (T.ret (Km [2] Px (Kd Z)))
     refine TL.q Z (.g Z Z Z) (LE (us:=wL0 a0.Mu) (vs:=wL0 a1.Mu) dP Z Ot Z Z Z Z (mi (tS a))) Z (Ki ao 9 Z ?_);obtain rfl:=M2 h;exact Kc (T.ret (Km [2] Px (Kd Z)))
    refine TL.q Z (.g Z Z Z) (LE (us:=wL0 a0.MD) (vs:=wL0 a1.MD) dP Z Ot Z Z Z Z (fm (pG d) (mi (sf (l:=a0.MD.data) (m:=a1.MD.data) b)))) Z (Ki ao 16 Z ?_);obtain rfl:=M2 h;exact Kc (T.ret (Km [2] Px (Kd Z)))
   refine TL.q Z (.g Z Z Z) (LE (us:=wL0 a0.MD) (vs:=wL0 a1.MD) dP Z Ot Z Z Z Z (mi (tS d))) Z (Ki ao 16 Z ?_);obtain rfl:=M2 h;exact Kc (T.ret (Km [2] Px (Kd Z)))
  refine Kf ao aY 0 Z 4 Z Z (Kh 17 Z (M5 f) (Ki ao 21 Z ?_));obtain rfl:=M2 h;exact Kc (T.ret (Km [2] Px (Kd Z)))
 refine Kf ao aY 0 Z 3 Z Z (Kh 10 Z (M5 e) (Ki ao 28 Z ?_));obtain rfl:=M2 h;exact Kc (T.ret (Km [2] Px (Kd Z)))
def dK (a0:Int):Option (lZ):=some (⟨(⟨0,0,(⟨false,[]⟩:Bl),(⟨false,[]⟩:Bl),[]⟩:Rec),0,a0⟩:lZ)
theorem cL (a0:Int) (r:lZ) (h:dK a0=some r):aB Tryz.prog 231 #[jI a0] .triv (aI) (fun v A' N=> ∃ (A2:AT) (a:Nat),v= .agg (wA5 r A2 a)/\A'=aI/\N = [RdR (ar 3 cA) [.slice A2 r.MM.Ms.length a] r.MM.Ms]):=by
 refine aS Tryz.func231 Z Tryz.ntmps231 Z ?_;intro F w hX;unfold dK at h;refine Ka Z (TL.alloc Z .u Tryz.zeroValue310 Z (fun b=>(Ky Z (J9 ao 1 Z ?_))));refine Kb Z (KH (cells:=vA1 a0) kQ Z QK) Z ?_;refine Kj 0 Z (cs':=vA1 a0) Z .u Z Z NO Z Z Z Z Z ?_;obtain rfl:=M2 h;exact Kc (T.ret (Kl 3 cA (Ks [2,0] Tryz.results231 (Kz (us:=vA1 a0) 1 Z OC NO Z Z) ⟨_,_,Z,Z,Z⟩ QL (.inl Z))))
def lJ (a0:AI):Option (lZ):=if (a0.length:Int)<1 then ((dK 1).bind fun v=>some v) else ((a0[0]?).bind fun ch7=>if (ch7.toNat:Int)=0 then (if 1<=a0.length then ((vm (a0.drop 1) 64).bind fun (i,a,e)=>if e=0 then (if A0 (1+a) then (if 0<=(1+a)/\(1+a).toNat<=a0.length then ((vm (a0.drop ((1+a).toNat)) 32).bind fun (j,c,f)=>if f=0 then ((tN i).bind fun k=>(tN j).bind fun g=>if g<0 then ((dK 11).bind fun l=>some l) else (if 0<=c/\c.toNat<=(a0.drop ((1+a).toNat)).length then ((j9 ((a0.drop ((1+a).toNat)).drop c.toNat)).bind fun b=>if b.err=0 then (if 0<=b.many/\b.many.toNat<=((a0.drop ((1+a).toNat)).drop c.toNat).length then ((j9 (((a0.drop ((1+a).toNat)).drop c.toNat).drop b.many.toNat)).bind fun d=>if d.err=0 then (if 0<=d.many/\d.many.toNat<=(((a0.drop ((1+a).toNat)).drop c.toNat).drop b.many.toNat).length then ((mP ((((a0.drop ((1+a).toNat)).drop c.toNat).drop b.many.toNat).drop d.many.toNat)).bind fun (m,n,h)=>if h=0 then (if n=(((((a0.drop ((1+a).toNat)).drop c.toNat).drop b.many.toNat).drop d.many.toNat).length:Int) then (some (⟨(⟨k,g,b.blob,d.blob,m⟩:Rec),0,0⟩:lZ)) else ((dK 2).bind fun o=>some o)) else ((dK h).bind fun p=>some p)) else none) else ((dK d.err).bind fun q=>some q)) else none) else ((dK b.err).bind fun r=>some r)) else none)) else ((dK f).bind fun s=>some s)) else none) else none) else ((dK e).bind fun t=>some t)) else none) else ((dK 8).bind fun u=>some u))
theorem ua (a0:AI) (r:lZ) (h:lJ a0=some r):aB Tryz.prog 232 #[jS a0] .triv (aI) (fun v A' N=> ∃ (C:AT) (D:Nat),v= .agg (wA5 r C D)/\A'=aI/\N = [RdR (ar 3 cA) [.slice C r.MM.Ms.length D] r.MM.Ms]):=by
 refine aS Tryz.func232 Z Tryz.ntmps232 Z ?_;intro F w hX;unfold lJ at h;refine Ka Z (TL.alloc Z .u Tryz.zeroValue310 Z (fun b1=>(Kc (T.seq (Ka Z (J9 ao 1 Z (Kb Z (KT Z Na) Z (J9 ao 1 Z ?_))))))));rcases jF h with⟨c2,h⟩ | ⟨c2,h⟩
 ·refine KE Z c2 ?_;obtain⟨x3,aD,h⟩:=M1 h;refine Ka Z (K2 Z .u (.fn Tryz.call231 Z) (cL 1 _ aD) rT Z ?_);rintro _ _ _ ⟨A4,c5,rfl,rfl,rfl⟩;refine KK [0,0,0] Z (Kj 1 Z (cs':=wA5 x3 A4 c5) Z .u Z Z NO Z Z Z Z Z ?_);obtain rfl:=M2 h;exact Kc (T.ret (Ke (Ks [2,0] OZ (Kz (us:=wA5 x3 A4 c5) 1 Z OC NO Z Z) ⟨_,_,Z,Z,Z⟩ QL (.inl Z))))
 refine KA Z c2 (Kw (T.seq (Ka Z ?_)));obtain⟨ch7,hc8,h⟩:=M1 h;refine J9 ao 1 Z (Kb Z (LL Z Z Z Tryz.underlying9 hc8) Z (J9 ao 1 Z ?_));rcases jF h with⟨c9,h⟩ | ⟨c9,h⟩
 ·refine KG Z c9 (Kv Z ?_);obtain⟨E,h⟩:=aj h;refine J9 ao 1 Z ?_;replace E:1<=a0.length:=E;refine Kb Z (KZ (p:=1) (q:=a0.length) (m:=(a0.drop 1)) Z Na (.some Z Z) .none (by first | omega | (dsimp only; omega)) (dy _ _)) Z ?_;obtain⟨⟨aE,b,aF⟩,ai,h⟩:=M1 h;refine Kt Z .u (.fn Tryz.call235 Z) (KM (fun w=>sd (a0.drop 1) 64 _ ai w)) (fun _ _=>Ku _ _) Z (Kk ao Z (T.seq (Ka Z (J9 ao 2 Z ?_))));rcases jF h with⟨k,h⟩ | ⟨k,h⟩
  ·refine KG Z k (Kv Z ?_);obtain⟨aG,h⟩:=aj h;refine J9 ao 2 Z (Kb Z (Ex.add Z Z aG) Z ?_);obtain⟨l,h⟩:=aj h;replace l:0<=(1+b)/\(1+b).toNat<=a0.length:=l;refine Kb Z (KZ (p:=(1+b).toNat) (q:=a0.length) (m:=(a0.drop ((1+b).toNat))) Z Na (.some Z ((Int.toNat_of_nonneg l.1).symm)) .none (by first | omega | (dsimp only; omega)) (dy _ _)) Z ?_;refine KJ ao Z Z ?_;obtain⟨⟨aH,d,aJ⟩,ak,h⟩:=M1 h;refine J9 ao 1 Z (Kt Z .u (.fn Tryz.call235 Z) (KM (fun w=>sd (a0.drop ((1+b).toNat)) 32 _ ak w)) (fun _ _=>Ku _ _) Z (Kk ao Z (T.seq (Ka Z (J9 ao 2 Z ?_)))));rcases jF h with⟨n,h⟩ | ⟨n,h⟩
   ·refine KG Z n (Kv Z ?_);obtain⟨e,al,h⟩:=M1 h;refine J9 ao 1 Z (Kt Z .u (.fn Tryz.call236 Z) (KM (fun w=>qo aE _ al w)) (fun _ _=>Ku _ _) Z ?_);obtain⟨f,am,h⟩:=M1 h;refine J9 ao 1 Z (Kt Z .u (.fn Tryz.call236 Z) (KM (fun w=>qo aH _ am w)) (fun _ _=>Ku _ _) Z ?_);refine Kb Z (KH (cells:=vA2 e f) qx Z QK) Z ?_;refine TL.alloc Z .u Tryz.zeroValue91 Z (fun aL=>(Kj 0 Z (cs':=vA2 e f) Z .u Z Z Nk Z Z Z Z Z (Kc (T.seq (Ka Z (Kf ao aY 0 Z 3 Z Z ?_))))));rcases jF h with⟨o,h⟩ | ⟨o,h⟩
    ·refine KE Z o ?_;obtain⟨G,an,h⟩:=M1 h;refine Ka Z (K2 Z .u (.fn Tryz.call231 Z) (cL 11 _ an) rT Z ?_);rintro _ _ _ ⟨H,I,rfl,rfl,rfl⟩;refine KK [0,0,0,0] Z (Kj 2 Z (cs':=wA5 G H I) Z .u Z Z NO Z Z Z Z Z ?_);obtain rfl:=M2 h;exact Kc (T.ret (Ke (Ks [3,0] OZ (Kz (us:=wA5 G H I) 2 Z OC NO Z Z) ⟨_,_,Z,Z,Z⟩ QL (.inl Z))))
    refine KA Z o (Kv Z ?_);obtain⟨s,h⟩:=aj h;refine J9 ao 2 Z ?_;replace s:0<=d/\d.toNat<=(a0.drop ((1+b).toNat)).length:=s;refine Kb Z (KZ (p:=d.toNat) (q:=(a0.drop ((1+b).toNat)).length) (m:=((a0.drop ((1+b).toNat)).drop d.toNat)) Z Na (.some Z ((Int.toNat_of_nonneg s.1).symm)) .none (by first | omega | (dsimp only; omega)) (dy _ _)) Z ?_;refine KJ ao Z Z ?_;obtain⟨a,ap,h⟩:=M1 h;refine J9 ao 1 Z (Kt Z .u (.fn Tryz.call230 Z) (iV ((a0.drop ((1+b).toNat)).drop d.toNat) _ ap) rT Z (TL.alloc Z .u Tryz.zeroValue212 Z (fun aM=>(Kj 0 Z (cs':=wA2 a) Z .u Z Z OX Z Z Z Z Z (Kc (T.seq (Ka Z (Kf ao aY 0 Z 3 Z Z ?_))))))));rcases jF h with⟨t,h⟩ | ⟨t,h⟩
    ·refine KG Z t (Kv Z ?_);obtain⟨x,h⟩:=aj h;refine Kf ao aY 0 Z 3 Z Z ?_;replace x:0<=a.many/\a.many.toNat<=((a0.drop ((1+b).toNat)).drop d.toNat).length:=x;refine Kb Z (KZ (p:=a.many.toNat) (q:=((a0.drop ((1+b).toNat)).drop d.toNat).length) (m:=(((a0.drop ((1+b).toNat)).drop d.toNat).drop a.many.toNat)) Z Na (.some Z ((Int.toNat_of_nonneg x.1).symm)) .none (by first | omega | (dsimp only; omega)) (dy _ _)) Z ?_;refine KJ ao Z Z ?_;obtain⟨c,aq,h⟩:=M1 h;refine J9 ao 1 Z (Kt Z .u (.fn Tryz.call230 Z) (iV (((a0.drop ((1+b).toNat)).drop d.toNat).drop a.many.toNat) _ aq) rT Z (TL.alloc Z .u Tryz.zeroValue212 Z (fun aN=>(Kj 0 Z (cs':=wA2 c) Z .u Z Z OX Z Z Z Z Z (Kc (T.seq (Ka Z (Kf ao aY 0 Z 3 Z Z ?_))))))));rcases jF h with⟨y,h⟩ | ⟨y,h⟩
     ·refine KG Z y (Kv Z ?_);obtain⟨z,h⟩:=aj h;refine Kf ao aY 0 Z 3 Z Z ?_;replace z:0<=c.many/\c.many.toNat<=(((a0.drop ((1+b).toNat)).drop d.toNat).drop a.many.toNat).length:=z;refine Kb Z (KZ (p:=c.many.toNat) (q:=(((a0.drop ((1+b).toNat)).drop d.toNat).drop a.many.toNat).length) (m:=((((a0.drop ((1+b).toNat)).drop d.toNat).drop a.many.toNat).drop c.many.toNat)) Z Na (.some Z ((Int.toNat_of_nonneg z.1).symm)) .none (by first | omega | (dsimp only; omega)) (dy _ _)) Z ?_;refine KJ ao Z Z ?_;obtain⟨⟨g,aO,aK⟩,au,h⟩:=M1 h;refine J9 ao 1 Z (K2 Z .u (.fn Tryz.call237 Z) (vK ((((a0.drop ((1+b).toNat)).drop d.toNat).drop a.many.toNat).drop c.many.toNat) _ au) rT Z ?_);rintro _ _ _ ⟨i,j,rfl,rfl,rfl⟩;refine KK [0,0,0,0,0,0] Z (Kk ao Z (T.seq (Ka Z (J9 ao 2 Z ?_))));rcases jF h with⟨A,h⟩ | ⟨A,h⟩
      ·refine KG Z A (Kw (T.seq (Ka Z (J9 ao 2 Z (Kb Z (KT Z Na) Z (J9 ao 1 Z ?_))))));rcases jF h with⟨B,h⟩ | ⟨B,h⟩
       ·refine KG Z B (Kv Z (J9 ao 1 Z (Kb Z (Kp (us:=wL0 a.blob) 2 Z NL Nh Z Z Z) Z (J9 ao 1 Z (Kj 3 Z (cs':= #[jI e,jI f,.bool a.blob.null,jS a.blob.data,.bool false,A7,A5]) Z .u Z Z Nh Z Z Z Z Z (Ky Z ?_))))));refine J9 ao 1 Z (Kb Z (Kp (us:=wL0 c.blob) 1 Z NL Nh Z Z Z) Z (J9 ao 1 Z (Kj 3 Z (cs':= #[jI e,jI f,.bool a.blob.null,jS a.blob.data,.bool c.blob.null,jS c.blob.data,A5]) Z .u Z Z Nh Z Z Z Z Z (Ky Z (J9 ao 2 Z (Kj 3 Z (cs':= #[jI e,jI f,.bool a.blob.null,jS a.blob.data,.bool c.blob.null,jS c.blob.data,.slice i g.length j]) Z .u Z Z Pq Z Z Z Z Z (Ky Z ?_)))))));refine Kb Z (Kp (us := [jI e,jI f,.bool a.blob.null,jS a.blob.data,.bool c.blob.null,jS c.blob.data,.slice i g.length j]) 3 Z NV Nk Z Z Z) Z ?_;refine Kb Z (KH (cells:=vA3 e f i j (g).length a c) kQ Z QK) Z ?_;refine Kj 4 Z (cs':=vA3 e f i j (g).length a c) Z .u Z Z NO Z Z Z Z Z ?_;obtain rfl:=M2 h;exact Kc (T.ret (Ks [5,0] OZ (Kz (us:=vA3 e f i j (g).length a c) 4 Z OC NO Z Z) ⟨_,_,Z,Z,Z⟩ QL (.inl Z)))
       refine KF Z B ?_;obtain⟨J,av,h⟩:=M1 h;refine Ka Z (K2 Z .u (.fn Tryz.call231 Z) (cL 2 _ av) rT Z ?_);rintro _ _ _ ⟨K,L,rfl,rfl,rfl⟩;refine KK [0,0,0,0,0,0,0] Z (Kj 5 Z (cs':=wA5 J K L) Z .u Z Z NO Z Z Z Z Z ?_);obtain rfl:=M2 h;exact Kc (T.ret (Ke (Ks [6,0] OZ (Kz (us:=wA5 J K L) 5 Z OC NO Z Z) ⟨_,_,Z,Z,Z⟩ QL (.inl Z))))
      refine KF Z A (Ka Z ?_);obtain⟨M,aw,h⟩:=M1 h;refine J9 ao 1 Z (K2 Z .u (.fn Tryz.call231 Z) (cL aK _ aw) rT Z ?_);rintro _ _ _ ⟨O,P,rfl,rfl,rfl⟩;refine KK [0,0,0,0,0,0,0] Z (Kj 5 Z (cs':=wA5 M O P) Z .u Z Z NO Z Z Z Z Z ?_);obtain rfl:=M2 h;exact Kc (T.ret (Ke (Ks [6,0] OZ (Kz (us:=wA5 M O P) 5 Z OC NO Z Z) ⟨_,_,Z,Z,Z⟩ QL (.inl Z))))
     refine KF Z y (Ka Z ?_);obtain⟨Q,ax,h⟩:=M1 h;refine Kf ao aY 0 Z 2 Z Z (K2 Z .u (.fn Tryz.call231 Z) (cL c.err _ ax) rT Z ?_);rintro _ _ _ ⟨R,S,rfl,rfl,rfl⟩;refine KK [0,0,0,0,0,0] Z (Kj 4 Z (cs':=wA5 Q R S) Z .u Z Z NO Z Z Z Z Z ?_);obtain rfl:=M2 h;exact Kc (T.ret (Ke (Ks [5,0] OZ (Kz (us:=wA5 Q R S) 4 Z OC NO Z Z) ⟨_,_,Z,Z,Z⟩ QL (.inl Z))))
    refine KF Z t (Ka Z ?_);obtain⟨U,ay,h⟩:=M1 h;refine Kf ao aY 0 Z 2 Z Z (K2 Z .u (.fn Tryz.call231 Z) (cL a.err _ ay) rT Z ?_);rintro _ _ _ ⟨V,W,rfl,rfl,rfl⟩;refine KK [0,0,0,0,0] Z (Kj 3 Z (cs':=wA5 U V W) Z .u Z Z NO Z Z Z Z Z ?_);obtain rfl:=M2 h;exact Kc (T.ret (Ke (Ks [4,0] OZ (Kz (us:=wA5 U V W) 3 Z OC NO Z Z) ⟨_,_,Z,Z,Z⟩ QL (.inl Z))))
   refine KF Z n (Ka Z ?_);obtain⟨X,az,h⟩:=M1 h;refine J9 ao 1 Z (K2 Z .u (.fn Tryz.call231 Z) (cL aJ _ az) rT Z ?_);rintro _ _ _ ⟨Y,aa,rfl,rfl,rfl⟩;refine KK [0,0,0] Z (Kj 1 Z (cs':=wA5 X Y aa) Z .u Z Z NO Z Z Z Z Z ?_);obtain rfl:=M2 h;exact Kc (T.ret (Ke (Ks [2,0] OZ (Kz (us:=wA5 X Y aa) 1 Z OC NO Z Z) ⟨_,_,Z,Z,Z⟩ QL (.inl Z))))
  refine KF Z k (Ka Z ?_);obtain⟨ab,aA,h⟩:=M1 h;refine J9 ao 1 Z (K2 Z .u (.fn Tryz.call231 Z) (cL aF _ aA) rT Z ?_);rintro _ _ _ ⟨ad,ae,rfl,rfl,rfl⟩;refine KK [0,0,0] Z (Kj 1 Z (cs':=wA5 ab ad ae) Z .u Z Z NO Z Z Z Z Z ?_);obtain rfl:=M2 h;exact Kc (T.ret (Ke (Ks [2,0] OZ (Kz (us:=wA5 ab ad ae) 1 Z OC NO Z Z) ⟨_,_,Z,Z,Z⟩ QL (.inl Z))))
 refine KF Z c9 ?_;obtain⟨af,aC,h⟩:=M1 h;refine Ka Z (K2 Z .u (.fn Tryz.call231 Z) (cL 8 _ aC) rT Z ?_);rintro _ _ _ ⟨ag,ah,rfl,rfl,rfl⟩;refine KK [0,0,0] Z (Kj 1 Z (cs':=wA5 af ag ah) Z .u Z Z NO Z Z Z Z Z ?_);obtain rfl:=M2 h;exact Kc (T.ret (Ke (Ks [2,0] OZ (Kz (us:=wA5 af ag ah) 1 Z OC NO Z Z) ⟨_,_,Z,Z,Z⟩ QL (.inl Z))))
def le (a0:AI):Option (lZ):=(j9 a0).bind fun a=>if a.err=0 then (if a.blob.null=true then ((dK 4).bind fun d=>some d) else ((lJ a.blob.data).bind fun b=>some (⟨b.MM,a.many,b.MX⟩:lZ))) else ((dK a.err).bind fun c=>some c)
theorem vM (a0:AI) (r:lZ) (h:le a0=some r):aB Tryz.prog 213 #[jS a0] .triv (aI) (fun v A' N=> ∃ (f:AT) (g:Nat),v= .agg (wA5 r f g)/\A'=aI/\N = [RdR (ar 3 cA) [.slice f r.MM.Ms.length g] r.MM.Ms]):=by
 refine aS Tryz.func213 Z Tryz.ntmps213 Z ?_;intro F w hX;unfold le at h;refine Ka Z (TL.alloc Z .u Tryz.zeroValue310 Z (fun y=>(Ky Z ?_)));obtain⟨d,p,h⟩:=M1 h;refine J9 ao 1 Z (Kt Z .u (.fn Tryz.call230 Z) (iV a0 _ p) rT Z (TL.alloc Z .u Tryz.zeroValue212 Z (fun z=>(Kj 0 Z (cs':=wA2 d) Z .u Z Z OX Z Z Z Z Z (Kc (T.seq (Ka Z (Kf ao aY 0 Z 3 Z Z ?_))))))));rcases jF h with⟨l,h⟩ | ⟨l,h⟩
 ·refine KG Z l (Kw (T.seq (Ka Z (Kf ao aY 0 Z 3 Z Z ?_))));rcases jF h with⟨e,h⟩ | ⟨e,h⟩
  ·refine Kc (Kr Z e ?_);obtain⟨q,m,h⟩:=M1 h;refine Ka Z (K2 Z .u (.fn Tryz.call231 Z) (cL 4 _ m) rT Z ?_);rintro _ _ _ ⟨s,t,rfl,rfl,rfl⟩;refine KK [0,0,0,0] Z (Kj 2 Z (cs':=wA5 q s t) Z .u Z Z NO Z Z Z Z Z ?_);obtain rfl:=M2 h;exact Kc (T.ret (Ke (Ks [3,0] Tryz.results213 (Kz (us:=wA5 q s t) 2 Z OC NO Z Z) ⟨_,_,Z,Z,Z⟩ QL (.inl Z))))
  replace e:=M7 e;refine Kc (KN Z e (Kv Z ?_));obtain⟨a,n,h⟩:=M1 h;refine Kf ao aY 0 Z 3 Z Z (K2 Z .u (.fn Tryz.call232 Z) (ua d.blob.data _ n) rT Z ?_);rintro _ _ _ ⟨b,c,rfl,rfl,rfl⟩;refine KK [0,0,0,0] Z (TL.alloc Z .u Tryz.zeroValue310 Z (fun x=>(Kj 0 Z (cs':=wA5 a b c) Z .u Z Z NO Z Z Z Z Z (Ky Z (Kf ao aY 2 Z 3 Z Z (Kj 0 Z (cs':=vA4 b c (a.MM.Ms).length a d) Z .u Z Z M9 Z Z Z Z Z (Ky Z (Kb Z (Kp (us := [jI a.MM.MH,jI a.MM.My,.bool a.MM.MD.null,jS a.MM.MD.data,.bool a.MM.Mu.null,jS a.MM.Mu.data,.slice b a.MM.Ms.length c,jI d.many,jI a.MX]) 0 Z OC NO Z Z Z) Z ?_))))))));refine Kj 3 Z (cs':=vA4 b c (a.MM.Ms).length a d) Z .u Z Z NO Z Z Z Z Z ?_;obtain rfl:=M2 h;exact Kc (T.ret (Ks [4,1] Tryz.results213 (Kz (us:=vA4 b c (a.MM.Ms).length a d) 3 Z OC NO Z Z) ⟨_,_,Z,Z,Z⟩ QL (.inl Z)))
 refine KF Z l (Ka Z ?_);obtain⟨i,o,h⟩:=M1 h;refine Kf ao aY 0 Z 2 Z Z (K2 Z .u (.fn Tryz.call231 Z) (cL d.err _ o) rT Z ?_);rintro _ _ _ ⟨j,k,rfl,rfl,rfl⟩;refine KK [0,0,0,0] Z (Kj 2 Z (cs':=wA5 i j k) Z .u Z Z NO Z Z Z Z Z ?_);obtain rfl:=M2 h;exact Kc (T.ret (Ke (Ks [3,0] Tryz.results213 (Kz (us:=wA5 i j k) 2 Z OC NO Z Z) ⟨_,_,Z,Z,Z⟩ QL (.inl Z))))
def ub:eY := [(23,0,0),(23,1,1),(91,1,1),(91,2,2),(91,3,4),(91,4,6)]
theorem av:(ub).OK Tryz.prog:=⟨FOK.mk NF rfl NP rfl,FOK.mk NF rfl NG rfl,FOK.mk NH rfl M9 rfl,FOK.mk NH rfl Nh rfl,FOK.mk NH rfl Nh rfl,FOK.mk NH rfl Pq rfl,trivial⟩
def uc:List Nat := [3,4,9,89]
theorem de:NOK Tryz.prog uc:=⟨Nc,Oa,NQ,Tryz.isAgg89,trivial⟩
def jM (a0:AI):Option (Int×Int):=if (a0.length:Int)<2 then some (0,1) else (if 2<=a0.length then ((gy (a0.take 2)).bind fun b=>if b=0 then (if (a0.length:Int)<4 then some (0,1) else (if 4<=a0.length then ((gy ((a0.drop 2).take 2)).bind fun a=>if a=0 then (if (a0.length:Int)>4 then some (0,2) else some (a,0)) else (if a=1 then (if (a0.length:Int)>4 then some (0,2) else some (a,0)) else some (0,12))) else none)) else some (0,7)) else none)
theorem si (a0:AI) (r:Int×Int) (h:jM a0=some r):aB Tryz.prog 223 #[jS a0] .triv (aI) (fun v A' N=>v= .tuple #[jI r.1,jI r.2]/\A'=aI/\N = []):=by
 refine aS Tryz.func223 Z Tryz.ntmps223 Z ?_;intro F w hX;unfold jM at h;refine Ka Z (Kk av Z (T.seq (Ka Z (J9 av 1 Z (Kb Z (KT Z Na) Z (J9 av 1 Z ?_))))));rcases jF h with⟨e,h⟩ | ⟨e,h⟩
 ·refine KE Z e (Ka Z (J9 av 2 Z ?_));obtain rfl:=M2 h;exact Kc (T.ret (Ke (KR [0] Pm (Kd Z) (Kd Z) ⟨Z,Z,Z⟩ QL (.inl Z))))
 refine KA Z e (Kw (T.seq (Ka Z ?_)));obtain⟨c2,h⟩:=aj h;refine J9 av 1 Z ?_;replace c2:2<=a0.length:=c2;refine Kb Z (KZ (p:=0) (q:=2) (m:=(a0.take 2)) Z Na .none (.some Z Z) (by first | omega | (dsimp only; omega)) (by simp)) Z ?_;obtain⟨l,i,h⟩:=M1 h;refine Kt Z .u (.fn Tryz.call25 Z) (KM (fun w=>bv (a0.take 2) _ i w)) (fun _ _=>Ku _ _) Z (J9 av 1 Z ?_);rcases jF h with⟨f,h⟩ | ⟨f,h⟩
 ·refine KG Z f (Kw (T.seq (Ka Z (J9 av 1 Z (Kb Z (KT Z Na) Z (J9 av 1 Z ?_))))));rcases jF h with⟨g,h⟩ | ⟨g,h⟩
  ·refine KE Z g (Ka Z (J9 av 2 Z ?_));obtain rfl:=M2 h;exact Kc (T.ret (Ke (KR [0] Pm (Kd Z) (Kd Z) ⟨Z,Z,Z⟩ QL (.inl Z))))
  refine KA Z g (Kv Z ?_);obtain⟨j,h⟩:=aj h;refine J9 av 1 Z ?_;replace j:4<=a0.length:=j;refine Kb Z (KZ (p:=2) (q:=4) (m:=((a0.drop 2).take 2)) Z Na (.some Z Z) (.some Z Z) (by first | omega | (dsimp only; omega)) Z) Z ?_;obtain⟨n,k,h⟩:=M1 h;refine Kt Z .u (.fn Tryz.call25 Z) (KM (fun w=>bv ((a0.drop 2).take 2) _ k w)) (fun _ _=>Ku _ _) Z (Kk av Z (T.seq (Ka Z ?_)));rcases jF h with⟨a,h⟩ | ⟨a,h⟩
  ·refine J9 av 3 Z (Kh 20 Z (bc (M4 a)) (K0 av Z (KN Z Z (Kw (T.seq (Ka Z (J9 av 1 Z (Kb Z (KT Z Na) Z ?_))))))));refine J9 av 1 Z ?_;rcases jF h with⟨b,h⟩ | ⟨b,h⟩
   ·refine KE Z b (Ka Z (J9 av 2 Z ?_));obtain rfl:=M2 h;exact Kc (T.ret (Ke (KR [0] Pm (Kd Z) (Kd Z) ⟨Z,Z,Z⟩ QL (.inl Z))))
   refine KA Z b (Kv Z (J9 av 3 Z ?_));obtain rfl:=M2 h;exact Kc (T.ret (KR [0] Pm (Kd Z) (Kd Z) ⟨Z,Z,Z⟩ QL (.inl Z)))
  refine J9 av 3 Z (Kh 20 Z (bt (M5 a)) (Ki av 3 Z ?_));rcases jF h with⟨c,h⟩ | ⟨c,h⟩
  ·refine KG Z c (Kw (T.seq (Ka Z (J9 av 1 Z (Kb Z (KT Z Na) Z (J9 av 1 Z ?_))))));rcases jF h with⟨d,h⟩ | ⟨d,h⟩
   ·refine KE Z d (Ka Z (J9 av 2 Z ?_));obtain rfl:=M2 h;exact Kc (T.ret (Ke (KR [0] Pm (Kd Z) (Kd Z) ⟨Z,Z,Z⟩ QL (.inl Z))))
   refine KA Z d (Kv Z (J9 av 3 Z ?_));obtain rfl:=M2 h;exact Kc (T.ret (KR [0] Pm (Kd Z) (Kd Z) ⟨Z,Z,Z⟩ QL (.inl Z)))
  refine KF Z c (Ka Z (J9 av 2 Z ?_));obtain rfl:=M2 h;exact Kc (T.ret (Ke (KR [0] Pm (Kd Z) (Kd Z) ⟨Z,Z,Z⟩ QL (.inl Z))))
 refine KF Z f (Ka Z (J9 av 2 Z ?_));obtain rfl:=M2 h;exact Kc (T.ret (Ke (KR [0] Pm (Kd Z) (Kd Z) ⟨Z,Z,Z⟩ QL (.inl Z))))
def iy (a0:AI):Option (Int×Int):=if (a0.length:Int)<2 then some (0,1) else (if 2<=a0.length then ((gy (a0.take 2)).bind fun b=>if b=0 then (if (a0.length:Int)<6 then some (0,1) else (if 6<=a0.length then ((gy ((a0.drop 2).take 4)).bind fun a=>if a<0 then some (0,11) else (if (a0.length:Int)>6 then some (0,2) else some (a,0))) else none)) else some (0,7)) else none)
theorem qz (a0:AI) (r:Int×Int) (h:iy a0=some r):aB Tryz.prog 224 #[jS a0] .triv (aI) (fun v A' N=>v= .tuple #[jI r.1,jI r.2]/\A'=aI/\N = []):=by
 refine aS Tryz.func224 Z Tryz.ntmps224 Z ?_;intro F w hX;unfold iy at h;refine Ka Z (Kk av Z (T.seq (Ka Z (J9 av 1 Z (Kb Z (KT Z Na) Z (J9 av 1 Z ?_))))));rcases jF h with⟨c,h⟩ | ⟨c,h⟩
 ·refine KE Z c (Ka Z (J9 av 2 Z ?_));obtain rfl:=M2 h;exact Kc (T.ret (Ke (KR [0] PG (Kd Z) (Kd Z) ⟨Z,Z,Z⟩ QL (.inl Z))))
 refine KA Z c (Kw (T.seq (Ka Z ?_)));obtain⟨c2,h⟩:=aj h;refine J9 av 1 Z ?_;replace c2:2<=a0.length:=c2;refine Kb Z (KZ (p:=0) (q:=2) (m:=(a0.take 2)) Z Na .none (.some Z Z) (by first | omega | (dsimp only; omega)) (by simp)) Z ?_;obtain⟨j,f,h⟩:=M1 h;refine Kt Z .u (.fn Tryz.call25 Z) (KM (fun w=>bv (a0.take 2) _ f w)) (fun _ _=>Ku _ _) Z (J9 av 1 Z ?_);rcases jF h with⟨d,h⟩ | ⟨d,h⟩
 ·refine KG Z d (Kw (T.seq (Ka Z (J9 av 1 Z (Kb Z (KT Z Na) Z (J9 av 1 Z ?_))))));rcases jF h with⟨e,h⟩ | ⟨e,h⟩
  ·refine KE Z e (Ka Z (J9 av 2 Z ?_));obtain rfl:=M2 h;exact Kc (T.ret (Ke (KR [0] PG (Kd Z) (Kd Z) ⟨Z,Z,Z⟩ QL (.inl Z))))
  refine KA Z e (Kv Z ?_);obtain⟨g,h⟩:=aj h;refine J9 av 1 Z ?_;replace g:6<=a0.length:=g;refine Kb Z (KZ (p:=2) (q:=6) (m:=((a0.drop 2).take 4)) Z Na (.some Z Z) (.some Z Z) (by first | omega | (dsimp only; omega)) Z) Z ?_;obtain⟨k,i,h⟩:=M1 h;refine Kt Z .u (.fn Tryz.call25 Z) (KM (fun w=>bv ((a0.drop 2).take 4) _ i w)) (fun _ _=>Ku _ _) Z (Kk av Z (T.seq (Ka Z (J9 av 2 Z ?_))));rcases jF h with⟨a,h⟩ | ⟨a,h⟩
  ·refine KE Z a (Ka Z (J9 av 2 Z ?_));obtain rfl:=M2 h;exact Kc (T.ret (Ke (KR [0] PG (Kd Z) (Kd Z) ⟨Z,Z,Z⟩ QL (.inl Z))))
  refine KA Z a (Kw (T.seq (Ka Z (J9 av 1 Z (Kb Z (KT Z Na) Z (J9 av 1 Z ?_))))));rcases jF h with⟨b,h⟩ | ⟨b,h⟩
  ·refine KE Z b (Ka Z (J9 av 2 Z ?_));obtain rfl:=M2 h;exact Kc (T.ret (Ke (KR [0] PG (Kd Z) (Kd Z) ⟨Z,Z,Z⟩ QL (.inl Z))))
  refine KA Z b (Kv Z (J9 av 3 Z ?_));obtain rfl:=M2 h;exact Kc (T.ret (KR [0] PG (Kd Z) (Kd Z) ⟨Z,Z,Z⟩ QL (.inl Z)))
 refine KF Z d (Ka Z (J9 av 2 Z ?_));obtain rfl:=M2 h;exact Kc (T.ret (Ke (KR [0] PG (Kd Z) (Kd Z) ⟨Z,Z,Z⟩ QL (.inl Z))))
def iZ (a0:Rec):Option (Int×Int×Int):=if a0.MD.null=true then some (0,0,12) else (if a0.Mu.null=true then some (0,0,12) else (if (a0.Ms.length:Int)>0 then some (0,0,12) else (if a0.My=0 then ((jM a0.MD.data).bind fun (d,b)=>if b=0 then ((iy a0.Mu.data).bind fun (c,a)=>if a=0 then some (d,c,0) else some (0,0,a)) else some (0,0,b)) else some (0,0,12))))
theorem vN (a0:Rec) (k:AT) (c2:Nat) (r:Int×Int×Int) (h:iZ a0=some r):aB Tryz.prog 201 #[.agg (wA4 a0 k c2)] (RX.of (ar 3 cA) [.slice k a0.Ms.length c2] a0.Ms) (aI) (fun v A' N=>v= .tuple #[jI r.1,jI r.2.1,jI r.2.2]/\A'=aI/\N = []):=by
 refine aS Tryz.func201 Z Tryz.ntmps201 Z ?_;intro F w hX;unfold iZ at h;refine Ka Z (TL.box Z .u Z Z (fun n=>(Kk av Z (T.seq (Ka Z ?_)))));rcases jF h with⟨a,h⟩ | ⟨a,h⟩
 ·refine Kf av de 0 Z 4 Z Z (Kh 12 Z a (K0 av Z (Kr Z Z (Ka Z (J9 av 3 Z ?_)))));obtain rfl:=M2 h;exact Kc (T.ret (Ke (KO [1] Py (Kd Z) (Kd Z) (Kd Z) ⟨Z,Z,Z⟩ QL (.inl Z))))
 replace a:=M7 a;refine Kf av de 0 Z 4 Z Z (Kh 12 Z a ?_);rcases jF h with⟨b,h⟩ | ⟨b,h⟩
 ·refine Kf av de 0 Z 5 Z Z (Kh 17 Z b (K0 av Z (Kr Z Z (Ka Z (J9 av 3 Z ?_)))));obtain rfl:=M2 h;exact Kc (T.ret (Ke (KO [1] Py (Kd Z) (Kd Z) (Kd Z) ⟨Z,Z,Z⟩ QL (.inl Z))))
 replace b:=M7 b;refine Kf av de 0 Z 5 Z Z (Kh 17 Z b (Kf av de 0 Z 2 Z Z (TL.q Z (.g Z Z Z) (KC Z NW) Z ?_)));rcases jF h with⟨e,h⟩ | ⟨e,h⟩
 ·refine Ki av 3 Z (Kh 23 Z (M4 e) (K0 av Z (Kr Z Z (Ka Z (J9 av 3 Z ?_)))));obtain rfl:=M2 h;exact Kc (T.ret (Ke (KO [1] Py (Kd Z) (Kd Z) (Kd Z) ⟨Z,Z,Z⟩ QL (.inl Z))))
 refine Ki av 3 Z (Kh 23 Z (M5 e) (Kf av de 0 Z 4 Z Z ?_));rcases jF h with⟨f,h⟩ | ⟨f,h⟩
 ·refine KG Z f (Kv Z ?_);obtain⟨⟨o,p⟩,i,h⟩:=M1 h;refine Kf av de 0 Z 3 Z Z (Kt Z .u (.fn Tryz.call223 Z) (si a0.MD.data _ i) rT Z (Kk av Z (T.seq (Ka Z (J9 av 2 Z ?_)))));rcases jF h with⟨c,h⟩ | ⟨c,h⟩
  ·refine KG Z c (Kv Z ?_);obtain⟨⟨l,m⟩,j,h⟩:=M1 h;refine Kf av de 0 Z 3 Z Z (Kt Z .u (.fn Tryz.call224 Z) (qz a0.Mu.data _ j) rT Z (Kk av Z (T.seq (Ka Z (J9 av 2 Z ?_)))));rcases jF h with⟨d,h⟩ | ⟨d,h⟩
   ·refine KG Z d (Kv Z (J9 av 5 Z ?_));obtain rfl:=M2 h;exact Kc (T.ret (KO [1] Py (Kd Z) (Kd Z) (Kd Z) ⟨Z,Z,Z⟩ QL (.inl Z)))
   refine KF Z d (Ka Z (J9 av 4 Z ?_));obtain rfl:=M2 h;exact Kc (T.ret (Ke (KO [1] Py (Kd Z) (Kd Z) (Kd Z) ⟨Z,Z,Z⟩ QL (.inl Z))))
  refine KF Z c (Ka Z (J9 av 4 Z ?_));obtain rfl:=M2 h;exact Kc (T.ret (Ke (KO [1] Py (Kd Z) (Kd Z) (Kd Z) ⟨Z,Z,Z⟩ QL (.inl Z))))
 refine KF Z f (Ka Z (J9 av 3 Z ?_));obtain rfl:=M2 h;exact Kc (T.ret (Ke (KO [1] Py (Kd Z) (Kd Z) (Kd Z) ⟨Z,Z,Z⟩ QL (.inl Z))))
def ud:eY := []
theorem aN:(ud).OK Tryz.prog:=trivial
theorem oG:SOK Tryz.prog 74 3 12 1 #[.int .i64 0,.int .i64 0,.int .i64 0,.int .i64 0,.int .i64 0,.int .i64 0,.int .i64 0,.int .i64 0,.int .i64 0,.int .i64 0,.int .i64 0,.int .i64 0]:=SOK.mk Nj M9 Tryz.zeroValue3 QJ QK
def eZ (a0:AI) (a1:Int) (a2:Int):Option (Int):=if A0 (a1+a2) then (if 0<=a1/\0<=(a1+a2)/\a1.toNat<=(a1+a2).toNat/\(a1+a2).toNat<=a0.length then ((gy ((a0.drop a1.toNat).take (((a1+a2).toNat) - a1.toNat))).bind fun a=>some a) else none) else none
theorem da (a0:AI) (a1:Int) (a2:Int) (r:Int) (h:eZ a0 a1 a2=some r):aB Tryz.prog 229 #[jS a0,jI a1,jI a2] .triv (aI) (fun v A' N=>v=jI r/\A'=aI/\N = []):=by
 refine aS Tryz.func229 Z Tryz.ntmps229 Z ?_;intro F w hX;unfold eZ at h;refine Ka Z (KJ aN Z Z ?_);obtain⟨b,h⟩:=aj h;refine J9 aN 4 Z (Kb Z (Ex.add Z Z b) Z ?_);obtain⟨c2,h⟩:=aj h;replace c2:0<=a1/\0<=(a1+a2)/\a1.toNat<=(a1+a2).toNat/\(a1+a2).toNat<=a0.length:=c2;refine Kb Z (KZ (p:=a1.toNat) (q:=(a1+a2).toNat) (m:=((a0.drop a1.toNat).take (((a1+a2).toNat) - a1.toNat))) Z Na (.some Z ((Int.toNat_of_nonneg c2.1).symm)) (.some Z ((Int.toNat_of_nonneg c2.2.1).symm)) (by first | omega | (dsimp only; omega)) Z) Z ?_;obtain⟨c,a,h⟩:=M1 h;refine Kt Z .u (.fn Tryz.call25 Z) (KM (fun w=>bv ((a0.drop a1.toNat).take (((a1+a2).toNat) - a1.toNat)) _ a w)) (fun _ _=>Ku _ _) Z (J9 aN 1 Z ?_);obtain rfl:=M2 h;exact Kc (T.ret (Km [0] Tryz.results229 (Kd Z)))
def ie (a0:AI):Option (List Int×Int):=if (a0.length:Int)<61 then some ([],1) else ((eZ a0 17 4).bind fun a=>(if a<0 then (if A0 (a+4294967296) then some (a+4294967296) else none) else some a).bind fun m=>(eZ a0 0 8).bind fun b=>(eZ a0 8 4).bind fun c=>(eZ a0 12 4).bind fun d=>(eZ a0 21 2).bind fun e=>(eZ a0 23 4).bind fun f=>(eZ a0 27 8).bind fun g=>(eZ a0 35 8).bind fun h=>(eZ a0 43 8).bind fun i=>(eZ a0 51 2).bind fun j=>(eZ a0 53 4).bind fun k=>(eZ a0 57 4).bind fun l=>(eZ a0 16 1).bind fun n=>if n=2 then (([b,c,d,m,e,f,g,h,i,j,k,l][1]?).bind fun o=>if o<49 then some ([],4) else (([b,c,d,m,e,f,g,h,i,j,k,l][11]?).bind fun p=>if p<0 then some ([],10) else some ([b,c,d,m,e,f,g,h,i,j,k,l],0))) else some ([],6))
theorem s7 (a0:AI) (r:List Int×Int) (h:ie a0=some r):aB Tryz.prog 211 #[jS a0] .triv (aI) (fun v A' N=> ∃ (A:AT) (B:Nat),v= .tuple #[.slice A r.1.length B,jI r.2]/\A'=aI/\N = [RdR (ar 1 cO) [.slice A r.1.length B] r.1]):=by
 refine aS Tryz.func211 Z Tryz.ntmps211 Z ?_;intro F w hX;unfold ie at h;refine Ka Z (Kk aN Z (T.seq (Ka Z (J9 aN 1 Z (Kb Z (KT Z Na) Z (J9 aN 1 Z ?_))))));rcases jF h with⟨C,h⟩ | ⟨C,h⟩
 ·refine KE Z C (Ka Z (J9 aN 2 Z ?_));obtain rfl:=M2 h;exact Kc (T.ret (Ke (Kl 1 cO (KR [1,0] PX (Kd Z) (Kd Z) ⟨_,_,Z,Z,Z⟩ QL (.inl Z)))))
 refine KA Z C (Kv Z ?_);obtain⟨x2,V,h⟩:=M1 h;refine J9 aN 1 Z (Kt Z .u (.fn Tryz.call229 Z) (da a0 17 4 _ V) rT Z (Kk aN Z (T.seq (Ka Z (Kk aN Z ?_)))));obtain⟨y,h,a⟩:=M1 h;refine K7 (fun e Rs=>e = [(0,jS a0),(2,A5),(3,jI 0),(4,jI y)]/\Rs = [aI]) ?_ ?_
 ·clear a;rcases jF h with⟨D,h⟩ | ⟨D,h⟩
  ·refine Lx Z D (T.region Z ?_);obtain⟨c9,h⟩:=aj h;refine J9 aN 1 Z (Kb Z (Ex.add Z Z c9) Z (J9 aN 1 Z ?_));cases h;exact TL.nil (Kq [0])
  refine LC Z D ?_;cases h;exact T.skip (Kq [0])
 rintro _ _ ⟨rfl,rfl⟩;clear h;have h:=a;clear a;refine X.seq (Ka Z ?_);obtain⟨b,H,h⟩:=M1 h;refine J9 aN 1 Z (Kt Z .u (.fn Tryz.call229 Z) (da a0 0 8 _ H) rT Z ?_);obtain⟨c,I,h⟩:=M1 h;refine J9 aN 1 Z (Kt Z .u (.fn Tryz.call229 Z) (da a0 8 4 _ I) rT Z ?_);obtain⟨d,J,h⟩:=M1 h;refine J9 aN 1 Z (Kt Z .u (.fn Tryz.call229 Z) (da a0 12 4 _ J) rT Z ?_);obtain⟨f,K,h⟩:=M1 h;refine J9 aN 2 Z (Kt Z .u (.fn Tryz.call229 Z) (da a0 21 2 _ K) rT Z ?_);obtain⟨g,L,h⟩:=M1 h;refine J9 aN 1 Z (Kt Z .u (.fn Tryz.call229 Z) (da a0 23 4 _ L) rT Z ?_);obtain⟨i,M,h⟩:=M1 h;refine J9 aN 1 Z (Kt Z .u (.fn Tryz.call229 Z) (da a0 27 8 _ M) rT Z ?_);obtain⟨j,O,h⟩:=M1 h;refine J9 aN 1 Z (Kt Z .u (.fn Tryz.call229 Z) (da a0 35 8 _ O) rT Z ?_);obtain⟨l,P,h⟩:=M1 h;refine J9 aN 1 Z (Kt Z .u (.fn Tryz.call229 Z) (da a0 43 8 _ P) rT Z ?_);obtain⟨m,Q,h⟩:=M1 h;refine J9 aN 1 Z (Kt Z .u (.fn Tryz.call229 Z) (da a0 51 2 _ Q) rT Z ?_);obtain⟨n,R,h⟩:=M1 h;refine J9 aN 1 Z (Kt Z .u (.fn Tryz.call229 Z) (da a0 53 4 _ R) rT Z ?_);obtain⟨o,S,h⟩:=M1 h;refine J9 aN 1 Z (Kt Z .u (.fn Tryz.call229 Z) (da a0 57 4 _ S) rT Z ?_);refine Lj (cells:= #[jI b,jI c,jI d,jI y,jI f,jI g,jI i,jI j,jI l,jI m,jI n,jI o]) Z .u oG Z QK Z (fun aa=> ?_);refine LN (us := [jI b,jI c,jI d,jI y,jI f,jI g,jI i,jI j,jI l,jI m,jI n,jI o]) (xs := [b,c,d,y,f,g,i,j,l,m,n,o]) (E:=cO) (z:=1) Z (Nat.le_of_ble_eq_true Z) (fun _=>⟨Z,Z,⟨Z,Z,⟨Z,Z,⟨Z,Z,⟨Z,Z,⟨Z,Z,⟨Z,Z,⟨Z,Z,⟨Z,Z,⟨Z,Z,⟨Z,Z,⟨Z,Z,Z⟩⟩⟩⟩⟩⟩⟩⟩⟩⟩⟩⟩) (Kk aN Z (T.seq (Ka Z ?_)));obtain⟨ab,U,h⟩:=M1 h;refine J9 aN 1 Z (Kt Z .u (.fn Tryz.call229 Z) (da a0 16 1 _ U) rT Z (J9 aN 1 Z ?_));rcases jF h with⟨p,h⟩ | ⟨p,h⟩
 ·refine KG Z p (Kw (T.seq (Ka Z ?_)));obtain⟨W,q,h⟩:=M1 h;refine J9 aN 1 Z (LO (E:=cO) (k:=1) 0 Z (fun w G h=>bB QJ w G h) QJ q ?_);rintro gg oo _ ⟨⟩ _ ⟨_,_,rfl⟩;refine KK [0,0] Z ?_;refine Kb Z (KB (k:=1) Z Z Z Nj M9 (M6 q).1) Z ?_;refine Kb Z (LA (cs := [jI W]) 0 0 Z Nc Z (fun _ _ h=>h.2.2.1) Z) Z (J9 aN 1 Z ?_);rcases jF h with⟨s,h⟩ | ⟨s,h⟩
  ·refine KE Z s (Ka Z (J9 aN 2 Z ?_));obtain rfl:=M2 h;exact Kc (T.ret (Ke (Kl 1 cO (KR [2,0] PX (Kd Z) (Kd Z) ⟨_,_,Z,Z,Z⟩ QL (.inl Z)))))
  refine KA Z s (Kw (T.seq (Ka Z ?_)));obtain⟨Y,t,h⟩:=M1 h;refine J9 aN 1 Z (LO (E:=cO) (k:=11) 0 Z (fun w G h=>bB QJ w G h.1) QJ t ?_);rintro gg oo _ ⟨⟩ _ ⟨_,_,rfl⟩;refine KK [0,0] Z ?_;refine Kb Z (KB (k:=11) Z Z Z Nj M9 (M6 t).1) Z ?_;refine Kb Z (LA (cs := [jI Y]) 0 0 Z Nc Z (fun _ _ h=>h.2.2.1) Z) Z (J9 aN 1 Z ?_);rcases jF h with⟨x,h⟩ | ⟨x,h⟩
  ·refine KE Z x (Ka Z (J9 aN 2 Z ?_));obtain rfl:=M2 h;exact Kc (T.ret (Ke (Kl 1 cO (KR [2,0] PX (Kd Z) (Kd Z) ⟨_,_,Z,Z,Z⟩ QL (.inl Z)))))
  refine KA Z x (Kv Z (J9 aN 3 Z ?_));obtain rfl:=M2 h;exact Kc (T.ret (X.unf 0 Z (KX [0,0] Z (X.unf 0 Z (KX [0,0] Z (Ll QJ 0 Z (KX [0,0] Z (KR [1,0] PX (Kd Z) (Kd Z) ⟨_,_,Z,Z,Z⟩ QL (.inl Z)))))))))
 refine KF Z p (Ka Z (J9 aN 2 Z ?_));obtain rfl:=M2 h;exact Kc (T.ret (Ke (Kl 1 cO (KR [2,0] PX (Kd Z) (Kd Z) ⟨_,_,Z,Z,Z⟩ QL (.inl Z)))))
end Go.Proofs.YtheikonlgjdopaaGreat.Sl
