/- frameEncodes_holds: part 2. -/
import Derived.Lib.Builder
import Derived.Lib.UnsafeStr
import Derived.Laws.IdiomCopy
import Derived.Laws.CopyRow
import Derived.ChangeKeysEq
import Derived.Test.YtheikonlgjdopaaGreatK1
set_option maxRecDepth 100000
set_option maxHeartbeats 4000000
set_option linter.defProp false
namespace Go.Proofs.YtheikonlgjdopaaGreat.Sl
open Go.RowKit
set_option linter.unusedVariables false
set_option linter.unusedSimpArgs false
def Nt := @decide_eq_true
def Nu := @decide_eq_false
def Nx := @eq_false_of_ne_true
def Ny := @Tryz.sizeOf3
def Nz := @Tryz.isAgg3
def ND := @Tryz.sizeOf23
def NE := @Tryz.runUnderlying9
def NF := @Tryz.runUnderlying74
def NG := @Tryz.sizeOf91
def NH := @Tryz.runUnderlying28
def NJ := @Tryz.sizeOf97
def NK := @Tryz.runUnderlying95
def NQ := @Tryz.runUnderlying97
def NR := @Tryz.runUnderlying48
def NS := @Tryz.runUnderlying23
def NU := @Tryz.runUnderlying91
def NV := @Tryz.sizeOf171
def NY := @Tryz.runUnderlying177
def NZ := @Tryz.sizeOf9
def N0 := @Tryz.isAgg23
def N3 := @Tryz.runUnderlying89
def N4 := @Tryz.isAgg9
def N5 := @Tryz.sizeOf4
def N6 := @Tryz.isAgg97
def N8 := @Tryz.runUnderlying189
def N9 := @Tryz.runUnderlying212
def Oa := @Tryz.isAgg91
def Of := @Tryz.runUnderlying33
def Og := @Tryz.runUnderlying49
def Oi := @Tryz.sizeOf195
def Oj := @Tryz.sizeOf179
def Ok := @Tryz.isAgg4
def Om := @Tryz.runUnderlying174
def On := @Tryz.runUnderlying34
def Or := @Tryz.sizeOf245
def Ot := @Tryz.sizeOf176
def OA := @Tryz.sizeOf173
def OB := @Tryz.sizeOf191
def OD := @Tryz.isAgg74
def OH := @Tryz.eqGuardType23
def OJ := @Tryz.runUnderlying161
def OP := @Tryz.runUnderlying3
def OQ := @Tryz.runUnderlying171
def OS := @Tryz.runUnderlying36
def OT := @Tryz.runUnderlying245
def OZ := @Tryz.isAgg28
def O3 := @Tryz.runUnderlying5
def O5 := @Tryz.runUnderlying173
def O9 := @Tryz.isAgg177
def Pa := @Tryz.isAgg189
def Pb := @Tryz.sizeOf51
def Pc := @Tryz.runUnderlying51
def Pd := @Tryz.sizeOf193
def Pe := @Tryz.runUnderlying72
def Pn := @Tryz.results223
def Pp := @Tryz.sizeOf74
def Pq := @Tryz.sizeOf28
def Ps := @Tryz.sizeOf89
def Pw := @Tryz.runUnderlying176
def Px := @Tryz.results209
def Py := @Tryz.results201
def PC := @Tryz.isAgg179
def PD := @Tryz.isAgg95
def PF := @Tryz.isAgg173
def PH := @Tryz.results200
def PI := @Tryz.results224
def PN := @Tryz.runUnderlying179
def PO := @Tryz.sizeOf177
def PP := @Tryz.runUnderlying191
def PQ := @Tryz.runUnderlying310
def PW := @Tryz.isAgg171
def PX := @Tryz.isAgg245
def PY := @Tryz.isAgg174
def PZ := @Tryz.isAgg176
def P2 := @Tryz.eqGuardType245
def P3 := @Tryz.results228
def Qb := @Tryz.isAgg89
def Qc := @Tryz.isAgg51
def Qf := @Tryz.results92
def Qg := @Tryz.sizeOf174
def Qj := @Tryz.isAgg191
def Qp := @Tryz.results163
def QB := @Tryz.results46
def sU (b:Nat) (l:List UInt8):Res where
 P:=fun w G=> ∃ p v,(p= .pointer none∨p= .pointer (some ⟨b,0,none⟩))∧w.heap[b]? = some (.cells #[p,v] 292 (0,0))∧w.ownsRow 0 5 1 v l.length (bp l)∧ ∀ k,G k↔k=b∨v.ownBlock=some k
 lt:=by
  rintro w G ⟨p,v,_,h1,h2,h3⟩ k hk
  rcases (h3 k).1 hk with rfl | h
  ·exact lE h1
  ·exact ws h2 k h
 move:=by
  rintro w w' G ⟨p,v,hp,h1,h2,h3⟩ hm
  exact⟨p,v,hp,(hm _ ((h3 _).2 (.inl rfl))).trans h1,qa h2 (fun k hk=>hm k ((h3 k).2 (.inr hk))),h3⟩
theorem F8 {F:Nat→Prop} {w w':World} (h:Fr F w w') {p:Addr} (hp:F p.block) (n:Nat):Fr F w (w'.freeze p n):=by
 refine h.trans (G:=F) ?_ (fun _ h=> .inl h)
 unfold World.freeze
 split
 ·exact Fr.refl _ _
 ·exact⟨rfl,rfl,rfl,by simp,fun k hk hn=>by
   simp only[Array.getElem?_modify]
   rw[QL (fun h:p.block=k=>hn (by rw[← h]; exact hp))]⟩
theorem Hy:(Tryz.prog.info? 292).map (·.size)=some 2:=by kernel_rfl
theorem Hz:liesAt Tryz.prog Tryz.prog.depth 292 (2 / Tryz.prog.cellsOf 292) 0 292 1=true:=by kernel_rfl
theorem F9 {w:World} {b:Nat} {p v:Value} (hb:w.heap[b]? = some (.cells #[p,v] 292 (0,0))):w.shape? b=some (292,2):=by simp[World.shape?,hb]
theorem Ga (b:Nat) (w:World) (p v:Value) (hp:p= .pointer none∨p= .pointer (some ⟨b,0,none⟩)) (hb:w.heap[b]? = some (.cells #[p,v] 292 (0,0))) :
 Calls Tryz.prog 220 #[.pointer (some ⟨b,0,none⟩)] w fun e w'=>e= .returned (.tuple #[])∧w'.heap[b]? = some (.cells #[.pointer (some ⟨b,0,none⟩),v] 292 (0,0))∧Fr (fun k=>k=b) w w':=by
 obtain⟨j,hj,hjs⟩:=Option.map_eq_some_iff.1 Hy
 have h0:w.cell? ⟨b,0,none⟩=some p:=(bq hb 0).trans rfl
 have f0:w.frozen? ⟨b,0,none⟩=false:=dy hb 0
 have hsh:=F9 hb
 have HB:=Lib.hid hb
 clear hb
 rcases hp with rfl | rfl
 ·go_enter Tryz.func220,Tryz.ntmps220
  go_wp2
  rw[Lib.run_to_unsafe w ⟨b,0,none⟩ Tryz.underlying290 Tryz.underlying327 hj (by rw[hjs]; decide) hsh (Nat.zero_lt_succ 1)]
  simp only[Result.andThen]
  rw[Oper.upon_value]
  go_wp2
  rw[run_callFunc_extern Tryz.func233 QI QI QI (e:=Extern.AbiNoEscape.same) QI]
  rw[Lib.run_noEscape]
  simp only[Result.andThen]
  rw[Oper.upon_value]
  go_wp2
  rw[Lib.run_from_unsafe w ⟨b,0,none⟩ Tryz.underlying327 Tryz.underlying290 hj hsh Hz]
  simp only[Result.andThen]
  rw[Oper.upon_value]
  go_wp2
  go_end0
  exact⟨rfl,by simpa using ot HB.out 0 (.pointer (some ⟨b,0,none⟩)),(Fr.refl (fun k=>k=b) w).set (p:=⟨b,0,none⟩) (.inl rfl) _⟩
 ·go_enter Tryz.func220,Tryz.ntmps220
  go_wp2
  rw[Lib.run_neq_ptr_same w _ Tryz.underlying290 hj]
  go_wp2
  go_end0
  exact⟨rfl,HB.out,Fr.refl _ _⟩
theorem sU.stored {b:Nat} {l m:List UInt8} {w w1 w2:World} {v v1:Value} {F:Nat→Prop} (hw:Fr (fun k=>k=b) w w1) (hF: ∀ k,F k↔k=b∨v.ownBlock=some k) (hb:w1.heap[b]? = some (.cells #[.pointer (some ⟨b,0,none⟩),v] 292 (0,0))) (ho:w1.ownsRow 0 5 1 v l.length (bp l))
 {n:Nat} (ho1:w2.ownsRow 0 5 1 v1 n (bp m)) (hg:w1.grownBy w2 v.ownBlock) (hat:v1.ownBlock=v.ownBlock∨ ∃ k,v1.ownBlock=some k∧w1.heap.size≤k) (hlt:b<w.heap.size) :
 St F w [sU b m] (w2.setCell ⟨b,1,none⟩ v1):=by
 have hn:n=m.length:=by have:=ho1.1; simpa [bp] using this.symm
 subst hn
 have hne:=pd ho hb QH
 have hb1:w2.heap[b]? = some (.cells #[.pointer (some ⟨b,0,none⟩),v] 292 (0,0)):=(hg.block b (lE hb) hne).trans hb
 have hne1:=pd ho1 hb1 QH
 have f1:Fr F w w1:=hw.mono (fun k hk=>(hF k).2 (.inl hk))
 have f2:Fr F w w2:=f1.trans (Mh (F:=F) hg (fun k hk=>(hF k).2 (.inr hk))) (fun k hk=> .inl hk)
 refine⟨f2.set (p:=⟨b,1,none⟩) (.inl ((hF b).2 (.inl rfl))) v1,?_⟩
 refine⟨fun k=>k=b∨v1.ownBlock=some k,⟨_,v1,.inr rfl,by simpa using ot hb1 1 v1,Ap ho1 hne1 v1,fun _=>Iff.rfl⟩,?_,trivial⟩
 rintro k (rfl | hk)
 ·exact .inl ((hF k).2 (.inl rfl))
 ·rcases hat with h | ⟨k',h,h'⟩
  ·rw[h] at hk
   exact .inl ((hF k).2 (.inr hk))
  ·rw[h] at hk
   injection hk with hk
   subst hk
   exact .inr (Nat.le_trans hw.size h')
theorem DD (b:Nat) (l:List UInt8) (s:ByteArray) (hl:l.length+s.size≤140737488355328) :
 ik Tryz.prog 196 #[.pointer (some ⟨b,0,none⟩),.string s] (sU b l) (fun v A' N=>v= .tuple #[.int .i64 s.size,.nilIface]∧A'=sU b (l++s.data.toList)∧N = []):=by
 rintro F w ⟨p,v,hp,hb,ho,hF⟩
 have hne:=pd ho hb QH
 have HB:=Lib.hid hb
 have HO:=Lib.hid ho
 have HP:=Lib.hid hp
 clear hb ho hp
 go_enter Tryz.func196,Tryz.ntmps196
 go_wp2_with (go_at_call 220; refine (Ga b _ p v HP.out HB.out).mono ?_)
 rintro e w1 ⟨rfl,hb1,hfr⟩
 have ho1:w1.ownsRow 0 5 1 v l.length (bp l):=qa HO.out (fun k hk=>hfr.block k (ws HO.out k hk) (fun h=>hne (h ▸ hk.symm)))
 have c0:w1.cell? ⟨b,0,none⟩=some (.pointer (some ⟨b,0,none⟩)):=(bq hb1 0).trans rfl
 have c1:w1.cell? ⟨b,1,none⟩=some v:=(bq hb1 1).trans rfl
 have HB1:=Lib.hid hb1
 have HO1:=Lib.hid ho1
 have HF:=Lib.hid hfr
 clear hb1 ho1 hfr
 go_wp2_with (at_builtin; refine ow w1 rfl _ _ _ _ rfl 5 Tryz.underlying72 Tryz.underlying9 qb v l.length (bp l) rfl HO1.out s rfl hl ?_; intro v1 w2 ho2 hg hat; obtain⟨a1,k1,rfl⟩:=oA ho2; have HO2:=Lib.hid ho2; clear ho2; have HN:=Lib.hid (pd HO1.out HB1.out QH); have HB2:=Lib.hid (show w2.heap[b]? = _ from (hg.block b (lE HB1.out) HN.out).trans HB1.out); have d0:w2.cell? ⟨b,0,none⟩=some (.pointer (some ⟨b,0,none⟩)):=(bq HB2.out 0).trans rfl; have d1:w2.cell? ⟨b,1,none⟩=some v:=(bq HB2.out 1).trans rfl; have e1:w2.frozen? ⟨b,1,none⟩=false:=dy HB2.out 1; have HG:=Lib.hid hg; have HAT:=Lib.hid hat; clear hg hat)
 go_ret2
 have ho2:=HO2.out
 rw[rG,← lh] at ho2
 refine⟨_,_,_,rfl,⟨rfl,rfl,rfl⟩,?_⟩
 exact sU.stored HF.out hF HB1.out HO1.out ho2 HG.out (by rcases HAT.out with h | h; exact .inl h; exact .inr ⟨_,h,NW _⟩) (lE HB.out)
theorem BZ (b:Nat) (l:List UInt8):ik Tryz.prog 197 #[.pointer (some ⟨b,0,none⟩)] (sU b l) (fun v A' N=>v= .string (bsOf l)∧A'=aK∧N = []):=by
 rintro F w ⟨p,v,hp,hb,ho,hF⟩
 have done: ∀ w',Fr F w w'→St F w [aK] w':=fun w' h=>⟨h,fun _=>False,fun _ h=>h,fun _ h=>h.elim,trivial⟩
 have DONE:=Lib.hid done
 clear done
 have hUS0: ∀ (W:World) (q:Option Addr),(Builtin.unsafeString_ #[319,3] 9 #[.pointer q,.int .i64 0]).run Tryz.prog W= .ok (.string .empty) W:=fun W q=>Lib.run_unsafeString_none W _ _ _ q
 have hl0:l = []∨l ≠ []:=by cases l; exact .inl rfl; exact .inr (by simp)
 rcases ho.2 with⟨rfl,hz⟩ | ⟨g,cap,cur,rfl,_,hg,hnc,hcm,hcs,htake⟩
 ·obtain rfl:l = []:=List.length_eq_zero_iff.1 hz
  have c1:w.drew.cell? ⟨b,1,none⟩=some (.slice none 0 0):=(bq (w:=w.drew) hb 1).trans rfl
  have hSD:(Builtin.unsafeSliceData_ #[72] 319 #[.slice none 0 0]).run Tryz.prog w.drew= .ok (.pointer none) w.drew:=rfl
  clear hb ho hp
  go_enter Tryz.func197,Tryz.ntmps197
  go_wp2
  go_region
  all_goals (go_wp2; go_ret; exact⟨_,_,_,rfl,⟨rfl,rfl,rfl⟩,DONE.out _ (Fr.refl F w).drew⟩)
 ·have hgF:F g:=(hF g).2 (.inr rfl)
  have HGF:=Lib.hid hgF
  clear hgF
  rcases hl0 with rfl | hl1
  ·by_cases hc0:cap=0
   ·subst hc0
    have hb':w.drew.heap[b]? = some (.cells #[p,.slice (some ⟨g,0,none⟩) 0 0] 292 (0,0)):=hb
    have c1:w.drew.cell? ⟨b,1,none⟩=some (.slice (some ⟨g,0,none⟩) 0 0):=(bq hb' 1).trans rfl
    have hSD:(Builtin.unsafeSliceData_ #[72] 319 #[.slice (some ⟨g,0,none⟩) 0 0]).run Tryz.prog w.drew= .ok (.pointer (some ⟨w.drew.heap.size,0,none⟩)) (w.drew.alloc (.view ⟨g,0,none⟩ 5)) :=
     Lib.run_unsafeSliceData_zero w.drew _ _ 5 Tryz.underlying319 ⟨g,0,none⟩ 0 (5,cur.size) (by have hg':w.drew.heap[g]? = some (.cells cur 5 (0,0)):=hg; simp[World.shape?,hg'])
    have c2:(w.drew.alloc (.view ⟨g,0,none⟩ 5)).cell? ⟨b,1,none⟩=some (.slice (some ⟨g,0,none⟩) 0 0):=by
     have h:=(Lib.alloc_old w.drew (.view ⟨g,0,none⟩ 5) b (lE hb')).trans hb'
     exact (bq h 1).trans rfl
    have c3:(w.alloc (.view ⟨g,0,none⟩ 5)).drew.cell? ⟨b,1,none⟩=some (.slice (some ⟨g,0,none⟩) 0 0):=c2
    have c0:w.cell? ⟨b,1,none⟩=some (.slice (some ⟨g,0,none⟩) 0 0):=c1
    clear hb hb' ho hp hg htake hcs
    go_enter Tryz.func197,Tryz.ntmps197
    go_wp2
    go_region
    all_goals (go_wp2; go_ret; exact⟨_,_,_,rfl,⟨rfl,rfl,rfl⟩,DONE.out _ ((Fr.refl F w).drew.alloc _)⟩)
   ·have c1:w.drew.cell? ⟨b,1,none⟩=some (.slice (some ⟨g,0,none⟩) 0 cap):=(bq (w:=w.drew) hb 1).trans rfl
    have hSD:(Builtin.unsafeSliceData_ #[72] 319 #[.slice (some ⟨g,0,none⟩) 0 cap]).run Tryz.prog w.drew= .ok (.pointer (some ⟨g,0,none⟩)) w.drew:=Lib.run_unsafeSliceData_row _ _ _ _ _ _ hc0
    clear hb ho hp hg htake hcs hc0
    go_enter Tryz.func197,Tryz.ntmps197
    go_wp2
    go_region
    all_goals (go_wp2; go_ret; exact⟨_,_,_,rfl,⟨rfl,rfl,rfl⟩,DONE.out _ (Fr.refl F w).drew⟩)
  ·have hlen:l.length≠0:=by simpa using hl1
   have c1:w.drew.cell? ⟨b,1,none⟩=some (.slice (some ⟨g,0,none⟩) l.length cap):=(bq (w:=w.drew) hb 1).trans rfl
   have hSD:(Builtin.unsafeSliceData_ #[72] 319 #[.slice (some ⟨g,0,none⟩) l.length cap]).run Tryz.prog w.drew= .ok (.pointer (some ⟨g,0,none⟩)) w.drew:=Lib.run_unsafeSliceData_row _ _ _ _ _ _ QG
   have hUS:(Builtin.unsafeString_ #[319,3] 9 #[.pointer (some ⟨g,0,none⟩),.int .i64 l.length]).run Tryz.prog w.drew= .ok (.string ⟨l.toArray⟩) (w.drew.freeze ⟨g,0,none⟩ l.length):=by
    refine Lib.run_unsafeString_row w.drew 319 3 9 5 Tryz.underlying319 QI g cur.size (by have hg':w.drew.heap[g]? = some (.cells cur 5 (0,0)):=hg; simp[World.shape?,hg']) l hl1 QG (by unfold maxLen at hcm; omega) ?_
    intro j x hx
    have:=ho.cells (g:=g) rfl j (.int .u8 x.toNat) (by simp[bp,hx])
    exact this
   clear hb ho hp hg htake hcs hl1 hlen hUS0
   go_enter Tryz.func197,Tryz.ntmps197
   go_wp2
   go_region
   all_goals (go_wp2; go_ret; exact⟨_,_,_,rfl,⟨rfl,rfl,rfl⟩,DONE.out _ (F8 (Fr.refl F w).drew (p:=⟨g,0,none⟩) HGF.out _)⟩)
def wh (st:List UInt8) (s:List UInt8):Option (List UInt8):=if st.length+s.length≤140737488355328 then some (st++s) else none
theorem DE (st:List UInt8) (s:List UInt8) (h:st.length+s.length≤140737488355328):wh st s=some (st++s):=QK h
theorem AB (g:Nat) (st:List UInt8) (s:List UInt8) (r:List UInt8) (h:wh st s=some r):aH Tryz.prog 196 #[.pointer (some ⟨g,0,none⟩),.string (bsOf s)] .triv (sU g st) (fun v A' N=>v= .tuple #[.int .i64 (bsOf s).size,.nilIface]∧A'=sU g r∧N = []):=by
 unfold wh at h
 split at h
 ·rename_i h1
  obtain rfl:=Nq h
  have k:=DD g st (bsOf s) (by rw[cw]; exact h1)
  rw[dp] at k
  exact Lr k
 ·simp at h
def EK (st:List UInt8):Option (List UInt8):=some st
theorem HJ (st:List UInt8):EK st=some st:=rfl
theorem DF (g:Nat) (st:List UInt8) (r:List UInt8) (h:EK st=some r):aH Tryz.prog 197 #[.pointer (some ⟨g,0,none⟩)] .triv (sU g st) (fun v A' N=>v= .string (bsOf r)∧A'=aK∧N = []):=by
 unfold EK at h
 obtain rfl:=Nq h
 exact Lr (BZ g _)
section
variable {P:Program} {n:Nat} {F0:Nat→Prop} {w0:World} {e:Env} {Rs Rf:List Res} {Q:Exit→Act→World→Prop} {ops:Array Oper} {i d:Nat} {ty t:TypeId} {pos:String} {af:Array Edge} {gd:Option (Nat×Bool)} {l:List Nat} {lo:Sch}
theorem sU.of_blk {b:Nat} {w:World} {G:Nat→Prop} (h:(aW b 292 #[.pointer none,.slice none 0 0]).P w G):(sU b []).P w G:=by
 obtain⟨h1,h2⟩:=h
 exact⟨_,_,.inl rfl,h1,World.ownsRow_nil _ _ _ _,fun k=>by simp[h2 k,Value.ownBlock]⟩
theorem TL.newbld {zv:Value} (ho:ops[i]? = some ⟨some d,.alloc t,ty,pos,af,gd⟩) (hw:Wd n ops e ⟨some d,.alloc t,ty,pos,af,gd⟩ true) (hz: ∀ w,(zeroValue t).run P w= .ok zv w) (hd:Nat.blt d n=true)
 (h: ∀ b,TL P n F0 w0 ops l ((d,.pointer (some ⟨b,0,none⟩))::e) (sU b []::Rs) Q) (ht:t=292:=by rfl) (hzv:zv= .agg #[.pointer none,.slice none 0 0]:=by rfl):TL P n F0 w0 ops (i::l) e Rs Q:=by
 refine TL.alloc ho hw hz hd (fun b=> ?_)
 intro a w ha hs
 subst ht hzv
 exact h b a w ha (hs.weaken 0 rfl (fun G hG=>sU.of_blk hG))
end
section
variable {α:Type} {P:Program} {n:Nat} {F0:Nat→Prop} {w0:World} {e:Env} {Rs:List Res} {Q:Exit→Act→World→Prop} {ops:Array Oper} {l:List Nat} {c:Code} {S:Nat→Prop} {E:Rd α} {size m cp k:Nat} {A:Option Addr} {xs:List α} {x:α} {B:Res}
end
section
variable {P:Program} {n:Nat} {F0:Nat→Prop} {w0 w:World} {e:Env} {Rs Rs' Rf:List Res} {Q:Exit→Act→World→Prop} {ops:Array Oper} {l:List Nat} {c:Code} {x:Exit} {ι:Type} {f:ι→List Res}
end
section
variable {P:Program} {n:Nat} {F0:Nat→Prop} {w0 w:World} {e:Env} {Rs Rf:List Res} {Q:Exit→Act→World→Prop} {ops:Array Oper} {d:Option Tmp} {i:Nat} {ty t t' el:TypeId} {pos:String} {af:Array Edge} {gd:Option (Nat×Bool)} {v:Value} {x y:Operand} {L:List Nat} {lo:Sch} {cd:Code}
variable {U c m k:Nat} {A:Option Addr}
variable {α:Type} {E:Rd α} {z:Nat} {xs ys:List α}
end
section
variable {P:Program} {n:Nat} {F0:Nat→Prop} {w0:World} {e:Env} {Rs:List Res} {Q:Exit→Act→World→Prop}
end
section
variable {P:Program} {n:Nat} {F0:Nat→Prop} {w0 w:World} {e e':Env} {Rs Rs' Rf:List Res} {Q:Exit→Act→World→Prop} {ops:Array Oper} {L:List Nat} {lo:Sch} {cd:Code} {K:Act→World→Prop} {l id:Nat} {J:Nat→Nat→Env→List Res→Prop} {J':Nat→Act→World→Prop}
variable {d:Option Tmp} {i:Nat} {ty t t' el:TypeId} {pos:String} {af:Array Edge} {gd:Option (Nat×Bool)} {v:Value} {x y:Operand}
variable {α:Type} {E:Rd α} {z:Nat} {xs ys:List α} {A A2:Option Addr} {m c c2 k:Nat} {U bytes:Nat} {zv:Value}
end
section
variable {P:Program} {t el:TypeId}
end
def HK (ops:Array Oper) (e:Env):Option (Nat×Bool)→Option Bool
 | none=>some true
 | some (j,want)=>match (ops[j]?).bind (·.dst) with
  | some t=>match e.get t with
   | some (.bool b)=>some (match b with | true=>want | false=> !want)
   | some _=>some false
   | none=>none
  | none=>none
theorem oM {n:Nat} {ops:Array Oper} {e:Env} {d:Option Tmp} {op:Op} {ty:TypeId} {pos:String} {af:Array Edge} {g:Option (Nat×Bool)} {b:Bool} (h:HK ops e g=some b):Wd n ops e ⟨d,op,ty,pos,af,g⟩ b:=by
 intro a ha
 cases g with
 | none =>
  cases h
  rfl
 | some g =>
  obtain⟨j,want⟩:=g
  simp only[HK] at h
  split at h
  ·rename_i t hj
   split at h
   ·rename_i b' hv
    injection h with h
    subst h
    simp only[Region.wanted,yielded,hj,Nr,ha.at_ t _ hv]
    cases b' <;> cases want <;> rfl
   ·rename_i v hne hv
    injection h with h
    subst h
    simp only[Region.wanted,yielded,hj,Nr,ha.at_ t _ hv]
    cases v <;> first | rfl | exact absurd rfl (hne _)
   ·cases h
  ·cases h
def Gb:List Nat→Nat→Bool
 | [],_=>false
 | a::r,t=>match Nat.beq a t with
  | true=>true
  | false=>Gb r t
def NOK (P:Program):List Nat→Prop
 | []=>True
 | a::r=>(∀ w,(isAgg a).run P w= .ok false w)∧NOK P r
theorem NOK.get {P:Program}: ∀ {l:List Nat},NOK P l→ ∀ {t:Nat},Gb l t=true→ ∀ w,(isAgg t).run P w= .ok false w
 | [],_,t,h=>by simp[Gb] at h
 | a::r,⟨h1,h2⟩,t,h=>by
  simp only[Gb] at h
  cases hb:Nat.beq a t with
  | true =>
   obtain rfl:=Nat.eq_of_beq_eq_true hb
   exact h1
  | false=>rw[hb] at h; exact NOK.get h2 h
def zp (ft:fg) (nt:List Nat) (cs:Array Value) (e:Env) (L:List Nat):Op→Option (Value×List Nat)
 | .pick c x y=>match e.ev c with
  | some (.bool b)=>match b with
   | true=>match e.ev x with
    | some v=>some (v,L)
    | none=>none
   | false=>match e.ev y with
    | some v=>some (v,L)
    | none=>none
  | _=>none
 | .load t x=>match Gb nt t with
  | true=>match e.ev x with
   | some (.pointer (some ⟨b,o,none⟩))=>match cs[o]? with
    | some v=>some (v,b::L)
    | none=>none
   | _=>none
  | false=>none
 | op=>match BS ft e op with
  | some v=>some (v,L)
  | none=>none
def tY (ft:fg) (nt:List Nat) (cs:Array Value) (n:Nat) (ops:Array Oper):Env→List Nat→List Nat→Option (Env×List Nat)
 | e,L,[]=>some (e,L)
 | e,L,i::is=>match ops[i]? with
  | some ⟨d,op,_,_,_,g⟩=>match HK ops e g with
   | some true=>match d with
    | some d=>match Nat.blt d n with
     | true=>match zp ft nt cs e L op with
      | some (v,L')=>tY ft nt cs n ops ((d,v)::e) L' is
      | none=>none
     | false=>none
    | none=>none
   | some false=>match d with
    | some d=>match Nat.blt d n with
     | true=>tY ft nt cs n ops ((d,undef)::e) L is
     | false=>none
    | none=>tY ft nt cs n ops e L is
   | none=>none
  | none=>none
section
variable {P:Program} {n:Nat} {F0:Nat→Prop} {w0:World} {e e':Env} {Rs:List Res} {Q:Exit→Act→World→Prop} {ops:Array Oper} {ft:fg} {nt:List Nat} {cs:Array Value} {b T j:Nat} {L L' l:List Nat}
theorem Gc {op:Op} {v:Value} (h:zp ft nt cs e L op=some (v,L')): ∀ x∈L,x∈L':=by
 unfold zp at h
 repeat' split at h
 all_goals first | cases h | skip
 all_goals first | exact fun x hx=>hx | exact fun x hx=>List.mem_cons_of_mem _ hx
theorem sV: ∀ (is:List Nat) {e e':Env} {L L':List Nat},tY ft nt cs n ops e L is=some (e',L')→ ∀ x∈L,x∈L'
 | [],e,e',L,L',h=>by
  cases h
  exact fun x hx=>hx
 | i::is,e,e',L,L',h=>by
  simp only[tY] at h
  repeat' split at h
  all_goals first | cases h | skip
  all_goals first | exact sV is h | (rename_i hp; exact fun x hx=>sV is h x (Gc hp x hx))
theorem Gd {d:Option Tmp} {op:Op} {ty:TypeId} {pos:String} {af:Array Edge} {g:Option (Nat×Bool)} {v:Value} (hft:ft.OK P) (hnt:NOK P nt) (hi:Rs[j]? = some (aW b T cs)) (h:zp ft nt cs e L op=some (v,L')) (hL: ∀ x∈L',x=b) :
 Ex P n e (St F0 w0 Rs) ⟨d,op,ty,pos,af,g⟩ v:=by
 unfold zp at h
 split at h
 ·split at h
  ·rename_i hc
   split at h
   ·split at h
    ·rename_i hx
     cases h
     exact LN hc rfl hx
    ·cases h
   ·split at h
    ·rename_i hx
     cases h
     exact LL hc rfl hx
    ·cases h
  ·cases h
 ·split at h
  ·rename_i ht
   split at h
   ·rename_i b' o hx
    split at h
    ·rename_i hv
     cases h
     obtain rfl:=hL b' (List.mem_cons_self ..)
     exact K5 j hx (hnt.get ht) hi hv
    ·cases h
   ·cases h
  ·cases h
 ·split at h
  ·rename_i hv
   cases h
   exact oJ hft hv
  ·cases h
theorem TL.runB_ (hft:ft.OK P) (hnt:NOK P nt) (hi:Rs[j]? = some (aW b T cs)): ∀ (is:List Nat) {e e':Env} {L L' l:List Nat},tY ft nt cs n ops e L is=some (e',L')→(∀ x∈L',x=b)→TL P n F0 w0 ops l e' Rs Q→TL P n F0 w0 ops (is++l) e Rs Q
 | [],e,e',L,L',l,h,_,k=>by
  cases h
  exact k
 | i::is,e,e',L,L',l,h,hL,k=>by
  simp only[tY] at h
  split at h
  ·rename_i d op ty pos af g ho
   split at h
   ·rename_i hw
    split at h
    ·rename_i d
     split at h
     ·rename_i hd
      split at h
      ·rename_i v L1 hv
       exact TL.q ho (oM hw) (Gd hft hnt hi hv (fun x hx=>hL x (sV is h x hx))) hd (TL.runB_ hft hnt hi is h hL k)
      ·cases h
     ·cases h
    ·cases h
   ·rename_i hw
    split at h
    ·rename_i d
     split at h
     ·rename_i hd
      exact TL.no ho (oM hw) hd (TL.runB_ hft hnt hi is h hL k)
     ·cases h
    ·exact TL.no0 ho (oM hw) (TL.runB_ hft hnt hi is h hL k)
   ·cases h
  ·cases h
theorem KK (hft:ft.OK P) (hnt:NOK P nt) (j:Nat) (hi:Rs[j]? = some (aW b T cs)) (k:Nat) (h:tY ft nt cs n ops e [] (l.take k)=some (e',L)) (hL:L=L.map fun _=>b) (K:TL P n F0 w0 ops (l.drop k) e' Rs Q):TL P n F0 w0 ops l e Rs Q:=by
 have h2: ∀ x∈L,x=b:=fun x hx=>by
  rw[hL] at hx
  obtain⟨_,_,rfl⟩:=List.mem_map.1 hx
  rfl
 have h3:=TL.runB_ hft hnt hi (l.take k) h h2 K
 rwa [List.take_append_drop] at h3
theorem MC (hft:ft.OK P): ∀ (is:List Nat) {e e':Env} {l:List Nat},tY ft [] #[] n ops e [] is=some (e',[])→TL P n F0 w0 ops l e' Rs Q→TL P n F0 w0 ops (is++l) e Rs Q
 | [],e,e',l,h,k=>by
  cases h
  exact k
 | i::is,e,e',l,h,k=>by
  simp only[tY] at h
  split at h
  ·rename_i d op ty pos af g ho
   split at h
   ·rename_i hw
    split at h
    ·rename_i d
     split at h
     ·rename_i hd
      split at h
      ·rename_i v L1 hv
       have hL1:L1 = []:=by
        cases L1 with
        | nil=>rfl
        | cons x r=>exact absurd (sV is h x (List.mem_cons_self ..)) (by simp)
       subst hL1
       have hx:Ex P n e (St F0 w0 Rs) ⟨some d,op,ty,pos,af,g⟩ v:=by
        unfold zp at hv
        split at hv
        ·split at hv
         ·rename_i hc
          split at hv
          ·split at hv
           ·rename_i hx
            cases hv
            exact LN hc rfl hx
           ·cases hv
          ·split at hv
           ·rename_i hx
            cases hv
            exact LL hc rfl hx
           ·cases hv
         ·cases hv
        ·simp[Gb] at hv
        ·split at hv
         ·rename_i hv'
          cases hv
          exact oJ hft hv'
         ·cases hv
       exact TL.q ho (oM hw) hx hd (MC hft is h k)
      ·cases h
     ·cases h
    ·cases h
   ·rename_i hw
    split at h
    ·rename_i d
     split at h
     ·rename_i hd
      exact TL.no ho (oM hw) hd (MC hft is h k)
     ·cases h
    ·exact TL.no0 ho (oM hw) (MC hft is h k)
   ·cases h
  ·cases h
theorem KM (hft:ft.OK P) (k:Nat) (h:tY ft [] #[] n ops e [] (l.take k)=some (e',[])) (K:TL P n F0 w0 ops (l.drop k) e' Rs Q):TL P n F0 w0 ops l e Rs Q:=by
 have h3:=MC hft (l.take k) h K
 rwa [List.take_append_drop] at h3
theorem KN (d:Nat) {x y:Bool} (hv:e.get d=some (.bool x)) (h:x=y) (K:TL P n F0 w0 ops l ((d,.bool y)::e) Rs Q):TL P n F0 w0 ops l e Rs Q:=fun a w ha hs=>by
 refine K a w (ha.sub (fun t u hu=> ?_)) hs
 simp only[Env.get] at hu
 cases hb:Nat.beq d t with
 | true =>
  rw[hb] at hu
  obtain rfl:=Nat.eq_of_beq_eq_true hb
  injection hu with hu
  rw[hv,h,hu]
 | false=>rw[hb] at hu; exact hu
end
def wA0 (x:Bat) (A0:Option Addr) (c0:Nat):Array Value:= #[.int .i64 x.Na,.int .i64 x.M3,.bool x.Nh,.bool x.Nd,.bool x.Nc,.int .i64 x.M7,.int .i64 x.MW,.int .i64 x.Ng,.int .i64 x.MG,.int .i64 x.MJ,.int .i64 x.MX,.slice A0 x.MK.length c0]
def wL1 (x:Rec) (A0:Option Addr) (c0:Nat):List Value := [.int .i64 x.Nb,.int .i64 x.M1,.bool x.M4.null,.string (bsOf x.M4.data),.bool x.MV.null,.string (bsOf x.MV.data),.slice A0 x.MU.length c0]
def wA2 (x:Rec) (A0:Option Addr) (c0:Nat):Array Value:= #[.int .i64 x.Nb,.int .i64 x.M1,.bool x.M4.null,.string (bsOf x.M4.data),.bool x.MV.null,.string (bsOf x.MV.data),.slice A0 x.MU.length c0]
def wL3 (x:Hd):List Value := [.string (bsOf x.M4),.bool x.MV.null,.string (bsOf x.MV.data)]
def wA4 (x:Hd):Array Value:= #[.string (bsOf x.M4),.bool x.MV.null,.string (bsOf x.MV.data)]
def wL5 (x:Bat) (A0:Option Addr) (c0:Nat):List Value := [.int .i64 x.Na,.int .i64 x.M3,.bool x.Nh,.bool x.Nd,.bool x.Nc,.int .i64 x.M7,.int .i64 x.MW,.int .i64 x.Ng,.int .i64 x.MG,.int .i64 x.MJ,.int .i64 x.MX,.slice A0 x.MK.length c0]
def wL6 (x:Bl):List Value := [.bool x.null,.string (bsOf x.data)]
def wA7 (x:Bl):Array Value:= #[.bool x.null,.string (bsOf x.data)]
def wA8 (x:bF) (A0:Option Addr) (c0:Nat):Array Value:= #[.bool x.MM.null,.string (bsOf x.MM.data),.int .i64 x.ML,.int .i64 x.MG,.int .i64 x.MJ,.slice A0 x.MF.length c0,.bool x.MZ]
def wL9 (x:bF) (A0:Option Addr) (c0:Nat):List Value := [.bool x.MM.null,.string (bsOf x.MM.data),.int .i64 x.ML,.int .i64 x.MG,.int .i64 x.MJ,.slice A0 x.MF.length c0,.bool x.MZ]
def AC (x:eJ) (A0:Option Addr) (A1:Option Addr) (A2:Option Addr) (c0:Nat) (c1:Nat) (c2:Nat):Array Value:= #[.int .i64 x.MI.MS,.int .i64 x.MI.MR,.int .i64 x.MI.MY,.bool x.MI.MQ.null,.string (bsOf x.MI.MQ.data),.bool x.Nd.MM.null,.string (bsOf x.Nd.MM.data),.int .i64 x.Nd.ML,.int .i64 x.Nd.MG,.int .i64 x.Nd.MJ,.slice A0 x.Nd.MF.length c0,.bool x.Nd.MZ,.slice A1 x.M0.length c1,.bool x.MN.MM.null,.string (bsOf x.MN.MM.data),.int .i64 x.MN.M5,.int .i64 x.MN.ML,.slice A2 x.MN.MF.length c2]
def wA11 (x:bT) (A0:Option Addr) (c0:Nat):Array Value:= #[.string (bsOf x.MM),.int .i64 x.MG,.int .i64 x.MJ,.slice A0 x.MF.length c0]
def wL12 (x:bT) (A0:Option Addr) (c0:Nat):List Value := [.string (bsOf x.MM),.int .i64 x.MG,.int .i64 x.MJ,.slice A0 x.MF.length c0]
def wA13 (x:bR):Array Value:= #[.string (bsOf x.MM),.int .i64 x.MG,.int .i64 x.MJ,.bool x.MZ]
def lP (x:bR):List Value := [.string (bsOf x.MM),.int .i64 x.MG,.int .i64 x.MJ,.bool x.MZ]
def AD (x:Pfx):Array Value:= #[.int .i64 x.Na,.int .i64 x.Nf,.int .i64 x.M3,.int .i64 x.Ni,.int .i64 x.Nk,.int .i64 x.M7,.int .i64 x.MW,.int .i64 x.Ng,.int .i64 x.MG,.int .i64 x.MJ,.int .i64 x.MX,.int .i64 x.Nj]
def wL16 (x:Pfx):List Value := [.int .i64 x.Na,.int .i64 x.Nf,.int .i64 x.M3,.int .i64 x.Ni,.int .i64 x.Nk,.int .i64 x.M7,.int .i64 x.MW,.int .i64 x.Ng,.int .i64 x.MG,.int .i64 x.MJ,.int .i64 x.MX,.int .i64 x.Nj]
def lQ (x:aE) (A0:Option Addr) (A1:Option Addr) (A2:Option Addr) (c0:Nat) (c1:Nat) (c2:Nat):Array Value:= #[.int .i64 x.MI.MS,.int .i64 x.MI.MR,.int .i64 x.MI.MY,.bool x.MI.MQ.null,.string (bsOf x.MI.MQ.data),.bool x.M6.MM.null,.string (bsOf x.M6.MM.data),.int .i64 x.M6.ML,.int .i64 x.M6.MG,.int .i64 x.M6.MJ,.string (bsOf x.M9.MM),.int .i64 x.M9.MG,.int .i64 x.M9.MJ,.slice A0 x.M9.MF.length c0,.string (bsOf x.M8.MM),.int .i64 x.M8.MG,.int .i64 x.M8.MJ,.bool x.M8.MZ,.slice A1 x.M0.length c1,.bool x.MN.MM.null,.string (bsOf x.MN.MM.data),.int .i64 x.MN.M5,.int .i64 x.MN.ML,.slice A2 x.MN.MF.length c2]
def yP (x:aE) (A0:Option Addr) (A1:Option Addr) (A2:Option Addr) (c0:Nat) (c1:Nat) (c2:Nat):List Value := [.int .i64 x.MI.MS,.int .i64 x.MI.MR,.int .i64 x.MI.MY,.bool x.MI.MQ.null,.string (bsOf x.MI.MQ.data),.bool x.M6.MM.null,.string (bsOf x.M6.MM.data),.int .i64 x.M6.ML,.int .i64 x.M6.MG,.int .i64 x.M6.MJ,.string (bsOf x.M9.MM),.int .i64 x.M9.MG,.int .i64 x.M9.MJ,.slice A0 x.M9.MF.length c0,.string (bsOf x.M8.MM),.int .i64 x.M8.MG,.int .i64 x.M8.MJ,.bool x.M8.MZ,.slice A1 x.M0.length c1,.bool x.MN.MM.null,.string (bsOf x.MN.MM.data),.int .i64 x.MN.M5,.int .i64 x.MN.ML,.slice A2 x.MN.MF.length c2]
def wA19 (x:aE):Array Value:= #[.int .i64 x.MI.MS,.int .i64 x.MI.MR,.int .i64 x.MI.MY,.bool x.MI.MQ.null,.string (bsOf x.MI.MQ.data),.bool x.M6.MM.null,.string (bsOf x.M6.MM.data),.int .i64 x.M6.ML,.int .i64 x.M6.MG,.int .i64 x.M6.MJ,.slice none 0 0,.bool false,.slice none 0 0,.bool false,.string ⟨#[]⟩,.int .i64 0,.int .i64 0,.slice none 0 0]
def wA20 (x:aE) (A0:Option Addr) (c0:Nat):Array Value:= #[.int .i64 x.MI.MS,.int .i64 x.MI.MR,.int .i64 x.MI.MY,.bool x.MI.MQ.null,.string (bsOf x.MI.MQ.data),.bool false,.string (bsOf x.M9.MM),.int .i64 0,.int .i64 x.M9.MG,.int .i64 x.M9.MJ,.slice A0 x.M9.MF.length c0,.bool false,.slice none 0 0,.bool false,.string ⟨#[]⟩,.int .i64 0,.int .i64 0,.slice none 0 0]
def wA21 (x:aE):Array Value:= #[.int .i64 x.MI.MS,.int .i64 x.MI.MR,.int .i64 x.MI.MY,.bool x.MI.MQ.null,.string (bsOf x.MI.MQ.data),.bool false,.string (bsOf x.M8.MM),.int .i64 0,.int .i64 x.M8.MG,.int .i64 x.M8.MJ,.slice none 0 0,.bool x.M8.MZ,.slice none 0 0,.bool false,.string ⟨#[]⟩,.int .i64 0,.int .i64 0,.slice none 0 0]
def vA0:Array Value:= #[.bool false,.string ⟨#[]⟩,.int .i64 0,.int .i64 0,.slice none 0 0]
def vA1 (p0:Int) (p1:Int) (p2:Int) (p3:Bl):Array Value:= #[.bool p3.null,.string (bsOf p3.data),.int .i64 p0,.int .i64 p1,.int .i64 p2]
def vA2:Array Value:= #[.bool false,.string ⟨#[]⟩,.int .i64 0,.int .i64 0,.int .i64 0]
def vA3:Array Value:= #[.string ⟨#[]⟩,.int .i64 0,.int .i64 0,.slice none 0 0]
def vA4:Array Value:= #[.string ⟨#[]⟩,.int .i64 0,.int .i64 0,.bool false]
def vA5 (p0:Nat) (p1:Nat):Array Value:= #[.pointer (some ⟨p0,0,none⟩),.int .i64 8,.pointer (some ⟨p0,1,none⟩),.int .i64 4,.pointer (some ⟨p0,2,none⟩),.int .i64 4,.pointer (some ⟨p1,0,none⟩),.int .i64 1,.pointer (some ⟨p0,3,none⟩),.int .i64 4,.pointer (some ⟨p0,4,none⟩),.int .i64 2,.pointer (some ⟨p0,5,none⟩),.int .i64 4,.pointer (some ⟨p0,6,none⟩),.int .i64 8,.pointer (some ⟨p0,7,none⟩),.int .i64 8,.pointer (some ⟨p0,8,none⟩),.int .i64 8,.pointer (some ⟨p0,9,none⟩),.int .i64 2,.pointer (some ⟨p0,10,none⟩),.int .i64 4,.pointer (some ⟨p0,11,none⟩),.int .i64 4]
def vA6:Array Value:= #[.int .i64 0,.int .i64 0,.int .i64 0,.int .i64 0,.int .i64 0,.int .i64 0,.int .i64 0,.int .i64 0,.int .i64 0,.int .i64 0,.int .i64 0,.int .i64 0]
def vA7 (p0:Int) (p1:Int):Array Value:= #[.int .i64 p0,.int .i64 p1,.bool false,.string ⟨#[]⟩,.bool false,.string ⟨#[]⟩,.slice none 0 0]
def vA8 (p0:Int) (p1:Int) (p2:Bl):Array Value:= #[.int .i64 p0,.int .i64 p1,.bool p2.null,.string (bsOf p2.data),.bool false,.string ⟨#[]⟩,.slice none 0 0]
def vA9 (p0:Int) (p1:Int) (p2:Bl) (p3:Bl):Array Value:= #[.int .i64 p0,.int .i64 p1,.bool p2.null,.string (bsOf p2.data),.bool p3.null,.string (bsOf p3.data),.slice none 0 0]
def vP (p0:Int) (p1:Int) (p2:Option Addr) (p3:Nat) (p4:Nat) (p5:Bl) (p6:Bl):Array Value:= #[.int .i64 p0,.int .i64 p1,.bool p5.null,.string (bsOf p5.data),.bool p6.null,.string (bsOf p6.data),.slice p2 p4 p3]
def vL11 (p0:Int) (p1:Int) (p2:Option Addr) (p3:Nat) (p4:Nat) (p5:Bl) (p6:Bl):List Value := [.int .i64 p0,.int .i64 p1,.bool p5.null,.string (bsOf p5.data),.bool p6.null,.string (bsOf p6.data),.slice p2 p4 p3]
def rZ:Array Value:= #[.int .i64 0,.int .i64 0,.bool false,.string ⟨#[]⟩,.bool false,.string ⟨#[]⟩,.slice none 0 0]
def nc:Array Value:= #[.int .i64 0,.int .i64 0,.bool false,.bool false,.bool false,.int .i64 0,.int .i64 0,.int .i64 0,.int .i64 0,.int .i64 0,.int .i64 0,.slice none 0 0]
def DG (p0:Int) (p1:Int) (p2:Option Addr) (p3:Nat) (p4:Nat) (p5:Bl):Array Value:= #[.bool p5.null,.string (bsOf p5.data),.int .i64 p0,.int .i64 p1,.slice p2 p4 p3]
def AE (p0:Int) (p1:Int) (p2:Int) (p3:Bl):Array Value:= #[.int .i64 p0,.int .i64 p1,.int .i64 p2,.bool p3.null,.string (bsOf p3.data)]
def AF:Array Value:= #[.int .i64 0,.int .i64 0,.int .i64 0,.bool false,.string ⟨#[]⟩]
def B0 (p0:aE):List Value := [.bool p0.M6.MM.null,.string (bsOf p0.M6.MM.data),.int .i64 p0.M6.ML,.int .i64 p0.M6.MG,.int .i64 p0.M6.MJ]
def lm:Array Value:= #[.int .i64 0,.int .i64 0,.int .i64 0,.bool false,.string ⟨#[]⟩,.bool false,.string ⟨#[]⟩,.int .i64 0,.int .i64 0,.int .i64 0,.string ⟨#[]⟩,.int .i64 0,.int .i64 0,.slice none 0 0,.string ⟨#[]⟩,.int .i64 0,.int .i64 0,.bool false,.slice none 0 0,.bool false,.string ⟨#[]⟩,.int .i64 0,.int .i64 0,.slice none 0 0]
def r6:List Value := [.string ⟨#[]⟩,.int .i64 0,.int .i64 0,.bool false]
def Ge:List Value := [.bool false,.string ⟨#[]⟩,.int .i64 0,.int .i64 0,.int .i64 0]
section
variable {P:Program} {n:Nat} {F0:Nat→Prop} {w0:World} {e e':Env} {Rs Rs' Rf:List Res} {Q:Exit→Act→World→Prop} {K:Act→World→Prop} {ops:Array Oper} {ft:fg} {x y z:Code} {c:Operand} {id:Nat} {os:List Oper} {l:List Nat}
theorem rT {S:World→Prop} {G:World→Nat→Prop}: ∀ w,S w→RX.triv.reads w (G w):=fun w _=>Lk w (G w)
theorem sT {S:World→Prop} {F0:Nat→Prop} {w0:World} {Rs:List Res} {i:Nat}: ∀ w,S w→Src F0 w0 Rs w i .triv:=fun _ _=>Src.triv i
theorem KG (hl:List.range os.toArray.size=l) (h:TL P n F0 w0 os.toArray l e Rs (Exit.then (y.wp P Q) Q)):T P n F0 w0 e Rs (.seq (.region id os.toArray false) y) Q:=T.seq (T.region hl h)
theorem L3 (h:T P n F0 w0 e Rs x (Exit.then (z.wp P (Exit.then (y.wp P Q) Q)) (Exit.then (y.wp P Q) Q))):T P n F0 w0 e Rs (.seq (.seq x z) y) Q:=T.seq (T.seq h)
theorem KI (h:T P n F0 w0 e Rs y Q):TL P n F0 w0 ops [] e Rs (Exit.then (y.wp P Q) Q):=TL.nil (X.seq h)
theorem LF (h:T P n F0 w0 e Rs y Q):TD P n F0 w0 ops .nil Rf e Rs (Exit.then (y.wp P Q) Q):=TD.nil (X.seq h)
theorem K3 (h:T P n F0 w0 e Rs y Q):T P n F0 w0 e Rs .skip (Exit.then (y.wp P Q) Q):=T.skip (X.seq h)
theorem LU {p:Prop} [Decidable p] (hc:e.ev c=some (.bool (decide p))) (hb:p) (h:T P n F0 w0 e Rs x Q):T P n F0 w0 e Rs (.cond c x y) Q:=KV hc (Nt hb) h
theorem LX {p:Prop} [Decidable p] (hc:e.ev c=some (.bool (decide p))) (hb: ¬p) (h:T P n F0 w0 e Rs y Q):T P n F0 w0 e Rs (.cond c x y) Q:=Lb hc (Nu hb) h
theorem T.yn {p:Prop} [Decidable p] (hc:e.ev c=some (.bool (!decide p))) (hb: ¬p) (h:T P n F0 w0 e Rs x Q):T P n F0 w0 e Rs (.cond c x y) Q:=KV hc (by simp[hb]) h
theorem T.nn {p:Prop} [Decidable p] (hc:e.ev c=some (.bool (!decide p))) (hb:p) (h:T P n F0 w0 e Rs y Q):T P n F0 w0 e Rs (.cond c x y) Q:=Lb hc (by simp[hb]) h
theorem La {p:Prop} [Decidable p] (hc:e.ev c=some (.bool (decide p))) (hb:p) (h:T P n F0 w0 e Rs x Q):TL P n F0 w0 ops [] e Rs (Exit.then ((Code.cond c x y).wp P Q) Q):=KI (LU hc hb h)
theorem K9 {p:Prop} [Decidable p] (hc:e.ev c=some (.bool (decide p))) (hb: ¬p) (h:T P n F0 w0 e Rs y Q):TL P n F0 w0 ops [] e Rs (Exit.then ((Code.cond c x y).wp P Q) Q):=KI (LX hc hb h)
theorem Li {p:Prop} [Decidable p] (hc:e.ev c=some (.bool (!decide p))) (hb: ¬p) (h:T P n F0 w0 e Rs x Q):TL P n F0 w0 ops [] e Rs (Exit.then ((Code.cond c x y).wp P Q) Q):=KI (T.yn hc hb h)
theorem Lj {p:Prop} [Decidable p] (hc:e.ev c=some (.bool (!decide p))) (hb:p) (h:T P n F0 w0 e Rs y Q):TL P n F0 w0 ops [] e Rs (Exit.then ((Code.cond c x y).wp P Q) Q):=KI (T.nn hc hb h)
theorem K7 (hl:List.range os.toArray.size=l) (h:TL P n F0 w0 os.toArray l e Rs (Exit.then (y.wp P Q) Q)):TL P n F0 w0 ops [] e Rs (Exit.then ((Code.seq (.region id os.toArray false) y).wp P Q) Q):=KI (KG hl h)
theorem Lg (hl:List.range os.toArray.size=l) (h:TL P n F0 w0 os.toArray l e Rs (Exit.then (y.wp P Q) Q)):T P n F0 w0 e Rs .skip (Exit.then ((Code.seq (.region id os.toArray false) y).wp P Q) Q):=K3 (KG hl h)
theorem KF (hft:ft.OK P) (k:Nat) (h:yL ft n ops e (l.take k)=some e') (K:TL P n F0 w0 ops (l.drop k) e' Rs Q):TL P n F0 w0 ops l e Rs Q:=TL.run hft (l.take k) (List.take_append_drop k l).symm h K
theorem KP (hft:ft.OK P) (h:yL ft n ops e l=some e') (K:T P n F0 w0 e' Rs y Q):TL P n F0 w0 ops l e Rs (Exit.then (y.wp P Q) Q):=TL.run hft l (NP l).symm h (KI K)
theorem K8 (hft:ft.OK P) (h:yL ft n ops e l=some e') {l':List Nat} (hl:List.range os.toArray.size=l') (K:TL P n F0 w0 os.toArray l' e' Rs (Exit.then (y.wp P Q) Q)):TL P n F0 w0 ops l e Rs (Exit.then ((Code.seq (.region id os.toArray false) y).wp P Q) Q):=KP hft h (KG hl K)
theorem Lq (hft:ft.OK P) (h:tY ft [] #[] n ops e [] l=some (e',[])) (K:T P n F0 w0 e' Rs y Q):TL P n F0 w0 ops l e Rs (Exit.then (y.wp P Q) Q):=by have h3:=MC (l := []) hft l h (KI K); rwa [NP] at h3
theorem LT {nt:List Nat} {cs:Array Value} {b T':Nat} {L:List Nat} (hft:ft.OK P) (hnt:NOK P nt) (j:Nat) (hi:Rs[j]? = some (aW b T' cs)) (h:tY ft nt cs n ops e [] l=some (e',L)) (hL:L=L.map fun _=>b) (K:T P n F0 w0 e' Rs y Q):TL P n F0 w0 ops l e Rs (Exit.then (y.wp P Q) Q):=KK hft hnt j hi l.length (by rw[List.take_length]; exact h) hL (by rw[List.drop_length]; exact KI K)
theorem KH {i d:Nat} {op:Op} {ty:TypeId} {pos:String} {af:Array Edge} {v:Value} (ho:ops[i]? = some ⟨some d,op,ty,pos,af,none⟩) (hx:Ex P n e (St F0 w0 Rs) ⟨some d,op,ty,pos,af,none⟩ v) (hd:Nat.blt d n=true) (h:TL P n F0 w0 ops l ((d,v)::e) Rs Q):TL P n F0 w0 ops (i::l) e Rs Q:=TL.q ho .u hx hd h
theorem KO {i d:Nat} {op:Op} {ty:TypeId} {pos:String} {af:Array Edge} {v:Value} {lo:Sch} (ho:ops[i]? = some ⟨some d,op,ty,pos,af,none⟩) (hx:Ex P n e (St F0 w0 Rf) ⟨some d,op,ty,pos,af,none⟩ v) (hd:Nat.blt d n=true) (h:TD P n F0 w0 ops lo Rf ((d,v)::e) Rs Q):TD P n F0 w0 ops (.q i lo) Rf e Rs Q:=TD.q ho .u hx hd h
theorem KR {n:Nat} {F0:Nat→Prop} {w0:World} {e e':Env} {Rs Rs':List Res} {Q:Exit→Act→World→Prop} {R:Env→List Res→Prop} (is:List Nat) (hR:R e' Rs':=by exact⟨rfl,rfl⟩) (he:Sub e' e:=by rfl) (hr:Sel Rs is Rs':=by rfl):X n F0 w0 e Rs .normal (Exit.then (JK n F0 w0 R) Q):=X.jq is hR he hr
theorem KQ {P:Program} {n:Nat} {F0:Nat→Prop} {w0:World} {e:Env} {Rs Ns:List Res} {A':Res} {f:Func} {r1:ResultVar} {v1:Value} {z:Exit} {R:Value→Res→List Res→Prop} (is:List Nat) (hf:f.results= #[r1]) (h1:RV P n F0 w0 e Rs r1 v1) (hR:R v1 A' Ns:=by exact⟨rfl,rfl,rfl⟩) (hr:Sel Rs is (A'::Ns):=by rfl) (hx:z= .ret∨z= .normal:=by exact .inl rfl):X n F0 w0 e Rs z (bodyPost P f (rP R F0 w0)):=Le is hf h1 hR hr hx
def DH:List Res→Nat→Res→Option (List Res)
 | [],_,_=>none
 | _::r,0,b=>some (b::r)
 | a::r,k+1,b=>match DH r k b with
  | some l=>some (a::l)
  | none=>none
theorem sW: ∀ {Rs:List Res} {k:Nat} {b:Res} {l:List Res},DH Rs k b=some l→Rs.set k b=l
 | [],_,_,_,h=>by cases h
 | _::r,0,b,l,h=>by cases h; rfl
 | a::r,k+1,b,l,h=>by
  simp only[DH] at h
  split at h
  · rename_i l' h'
    cases h
    rw[List.set_cons_succ,sW h']
  · cases h
theorem KT {i d:Nat} {cl:Call} {ty:TypeId} {pos:String} {af:Array Edge} {gd:Option (Nat×Bool)} {f:FuncId} {vs:List Value} {A B:Res} {Y:RX} {v:Value} (k:Nat) (hi:Rs[k]? = some A) (ho:ops[i]? = some ⟨some d,.call cl,ty,pos,af,gd⟩) (hw:Wd n ops e ⟨some d,.call cl,ty,pos,af,gd⟩ true) (hc:CT P n e ⟨some d,.call cl,ty,pos,af,gd⟩ f vs) (hs:aH P f vs.toArray Y A (fun v' A' N=>v'=v∧A'=B∧N = [])) (hr: ∀ w,St F0 w0 Rs w→Src F0 w0 Rs w k Y) (hd:Nat.blt d n=true) (hR:DH Rs k B=some Rs') (h:TL P n F0 w0 ops l ((d,v)::e) Rs' Q):TL P n F0 w0 ops (i::l) e Rs Q:=by
 refine L9 ho hw (Ef.call k hc hi hs hr hd) ?_
 rintro _ _ ⟨_,_,_,⟨rfl,rfl,rfl⟩,rfl,rfl⟩
 rw[sW hR]
 exact h
theorem LO {lo:Sch} {i d:Nat} {cl:Call} {ty:TypeId} {pos:String} {af:Array Edge} {gd:Option (Nat×Bool)} {f:FuncId} {vs:List Value} {A B:Res} {Y:RX} {v:Value} (k:Nat) (hi:Rs[k]? = some A) (ho:ops[i]? = some ⟨some d,.call cl,ty,pos,af,gd⟩) (hw:Wd n ops e ⟨some d,.call cl,ty,pos,af,gd⟩ true) (hc:CT P n e ⟨some d,.call cl,ty,pos,af,gd⟩ f vs) (hs:aH P f vs.toArray Y A (fun v' A' N=>v'=v∧A'=B∧N = [])) (hr: ∀ w,St F0 w0 Rs w→Src F0 w0 Rs w k Y) (hd:Nat.blt d n=true) (hR:DH Rs k B=some Rs') (is:List Nat) (hf:Sel Rs' is Rf) (h:TD P n F0 w0 ops lo Rf ((d,v)::e) Rs' Q):TD P n F0 w0 ops (.e i lo) Rf e Rs Q:=by
 refine Me ho hw (Ef.call k hc hi hs hr hd) ?_
 rintro _ _ ⟨_,_,_,⟨rfl,rfl,rfl⟩,rfl,rfl⟩
 rw[sW hR]
 exact⟨Rf,fun w hw=>hw.sel is hf,fun _ h=>h,h⟩
theorem KW {i o z:Nat} {b T':Nat} {t ty:TypeId} {x y:Operand} {v:Value} {pos:String} {af:Array Edge} {gd:Option (Nat×Bool)} {cs cs':Array Value} (k:Nat) (hi:Rs[k]? = some (aW b T' cs)) (ho:ops[i]? = some ⟨none,.store t x y,ty,pos,af,gd⟩) (hw:Wd n ops e ⟨none,.store t x y,ty,pos,af,gd⟩ true) (hx:e.ev x=some (.pointer (some ⟨b,o,none⟩))) (hy:e.ev y=some v) (hz: ∀ w,(sizeOf t).run P w= .ok z w) (hvz:Nat.beq v.cells.size z=true) (hf':Nat.ble (o+v.cells.size) cs.size=true) (ho':v.cells.toList.all (·.oneCell')=true) (hc:(cs.toList.take o++v.cells.toList++cs.toList.drop (o+v.cells.size)).toArray=cs') (hR:DH Rs k (aW b T' cs')=some Rs') (h:TL P n F0 w0 ops l e Rs' Q):TL P n F0 w0 ops (i::l) e Rs Q:=by
 refine L9 ho hw (Ef.st k hx hy hz hi hvz hf' ho' hc) ?_
 rintro _ _ ⟨rfl,rfl⟩
 rw[sW hR]
 exact h
theorem LS {lo:Sch} {i o z:Nat} {b T':Nat} {t ty:TypeId} {x y:Operand} {v:Value} {pos:String} {af:Array Edge} {gd:Option (Nat×Bool)} {cs cs':Array Value} (k:Nat) (hi:Rs[k]? = some (aW b T' cs)) (ho:ops[i]? = some ⟨none,.store t x y,ty,pos,af,gd⟩) (hw:Wd n ops e ⟨none,.store t x y,ty,pos,af,gd⟩ true) (hx:e.ev x=some (.pointer (some ⟨b,o,none⟩))) (hy:e.ev y=some v) (hz: ∀ w,(sizeOf t).run P w= .ok z w) (hvz:Nat.beq v.cells.size z=true) (hf':Nat.ble (o+v.cells.size) cs.size=true) (ho':v.cells.toList.all (·.oneCell')=true) (hc:(cs.toList.take o++v.cells.toList++cs.toList.drop (o+v.cells.size)).toArray=cs') (hR:DH Rs k (aW b T' cs')=some Rs') (is:List Nat) (hf:Sel Rs' is Rf) (h:TD P n F0 w0 ops lo Rf e Rs' Q):TD P n F0 w0 ops (.e i lo) Rf e Rs Q:=by
 refine Me ho hw (Ef.st k hx hy hz hi hvz hf' ho' hc) ?_
 rintro _ _ ⟨rfl,rfl⟩
 rw[sW hR]
 exact⟨Rf,fun w hw=>hw.sel is hf,fun _ h=>h,h⟩
end
def tZ:fg := [(171,0,0),(171,1,1)]
theorem bK:(tZ).OK Tryz.prog:=⟨FOK.mk OQ rfl NZ rfl,FOK.mk OQ rfl Pp rfl,trivial⟩
def t6:List Nat := [9,74]
theorem mu:NOK Tryz.prog t6:=⟨N4,OD,trivial⟩
def gk:List Top→Int→Int→Option (Lp Int (Int×Int))
 | [],y3,y4=>some (Lp.go (y3,y4))
 | x10::xs,y3,y4=>if -9223372036854775808≤(4*(x10.MH.length:Int))∧(4*(x10.MH.length:Int))≤9223372036854775807 then (if -9223372036854775808≤((x10.MO.length:Int)+(4*(x10.MH.length:Int)))∧((x10.MO.length:Int)+(4*(x10.MH.length:Int)))≤9223372036854775807 then (if -9223372036854775808≤(((x10.MO.length:Int)+(4*(x10.MH.length:Int)))+6)∧(((x10.MO.length:Int)+(4*(x10.MH.length:Int)))+6)≤9223372036854775807 then (if -9223372036854775808≤(y4+(((x10.MO.length:Int)+(4*(x10.MH.length:Int)))+6))∧(y4+(((x10.MO.length:Int)+(4*(x10.MH.length:Int)))+6))≤9223372036854775807 then (if (y4+(((x10.MO.length:Int)+(4*(x10.MH.length:Int)))+6))>1000 then some (Lp.ret 0) else (gk xs y3 (y4+(((x10.MO.length:Int)+(4*(x10.MH.length:Int)))+6)))) else none) else none) else none) else none
def ln (a0:List Top):Option (Int):=(gk a0 0 0).bind fun e=>match e with | .ret r=>some r | .go (y23,y24)=>some 1
theorem qn (a0:List Top) (A1:Option Addr) (c2:Nat) (r:Int) (h:ln a0=some r):aH Tryz.prog 44 #[.slice A1 a0.length c2] (RX.of (aq 2 bc) [.slice A1 a0.length c2] a0) (aK) (fun v A' N=>v=jI r∧A'=aK∧N = []):=by
 refine aU Tryz.func44 Z Tryz.ntmps44 Z ?_
 intro F w hX
 unfold ln at h
 refine KG Z (K8 bK Z Z (KP bK Z (T.seq (KG Z (KF bK 1 Z (KH Z (KX Z NH) Z (KF bK 1 Z ?_)))))))
 refine KI (T.block ?_)
 obtain⟨E6,hE7,hO8⟩:=Np h
 have hk12len:=LA hX
 refine Lv (fun m e Rs=> ∃ (y3:Int) (y4:Int) (k5:Nat),k5+m=a0.length∧e = [(2,jI y3),(3,jI y4),(6,.slice A1 a0.length c2),(7,jI (a0.length:Int)),(8,jI (k5:Int))]∧Rs = [aK]∧gk (a0.drop k5) y3 y4=some E6) (a0.length) [0] ⟨0,0,0,by simp,Z,Z,by rw[List.drop_zero]; exact hE7⟩ QJ QJ ?_
 clear hE7 h
 rintro m9 _ _ ⟨y3,y4,k5,hk12,rfl,rfl,h⟩
 cases m9 with
 | zero =>
  rw[List.drop_of_length_le QG,gk] at h
  have hk12ge: ¬ ((k5:Int)<(a0.length:Int)):=by omega
  refine KG Z (KP bK Z (T.seq (Lb Z (Nu hk12ge) ?_)))
  obtain rfl:=Nq h
  replace h:=hO8
  clear hO8
  refine T.exit (KZ (KZ (Lu (X.seq (KG Z (KF bK 1 Z ?_))))))
  obtain rfl:=Nq h
  exact KI (T.ret (KQ [0] Tryz.results44 (KJ Z)))
 | succ m9 =>
  obtain⟨x10,hxx10⟩: ∃ x,a0[k5]? = some x:=⟨_,List.getElem?_eq_getElem QG⟩
  rw[bJ hxx10,gk] at h
  have hk12lt:(k5:Int)<(a0.length:Int):=by omega
  refine KG Z (KP bK Z (T.seq (KV Z (Nt hk12lt) ?_)))
  obtain⟨gz13,oz13,rfl,z13cs,z13cl,z13cc,z13nf,z13r⟩:=Lf QH hX hxx10
  obtain⟨z13S,z13r,z13rr⟩:=z13r
  obtain⟨A14,c15,rfl,z13s0⟩:=z13r
  have hX16:(RX.of (aq 1 fh) [.slice A14 x10.MH.length c15] x10.MH).reads w F:=⟨z13S,z13s0,z13rr⟩
  refine K3 (T.seq (T.block (KG Z ?_)))
  refine KH Z (K1 (k:=k5) Z Z Z NH NV (Nw hxx10).1) Z ?_
  refine KH Z (LI (us := [jS x10.MO,.slice A14 x10.MH.length c15]) 0 Z PW NV z13nf z13cc Z Z Z) Z (TL.alloc Z .u Tryz.zeroValue171 Z (fun b17=>(KW 0 Z (cs':= #[jS x10.MO,.slice A14 x10.MH.length c15]) Z .u Z Z NV Z Z Z Z Z (K7 Z (KK bK mu 0 Z 3 Z Z (KH Z (Lx Z NE) Z (KK bK mu 0 Z 2 Z Z (KH Z (KX Z NF) Z ?_))))))))
  obtain⟨c18,h⟩:=ao h
  refine KH Z (Ex.mul Z Z c18) Z ?_
  obtain⟨c19,h⟩:=ao h
  refine KH Z (Ex.add Z Z c19) Z ?_
  obtain⟨c20,h⟩:=ao h
  refine KH Z (Ex.add Z Z c20) Z ?_
  obtain⟨c21,h⟩:=ao h
  refine KH Z (Ex.add Z Z c21) Z (K8 bK Z Z (KF bK 2 Z ?_))
  rcases jF h with⟨c22,h⟩ | ⟨c22,h⟩
  ·refine La Z c22 (KG Z (KF bK 1 Z ?_))
   obtain rfl:=Nq h
   obtain rfl:=Nq hO8
   exact KI (T.ret (KU (KL (KL (KU (KL (KQ [1] Tryz.results44 (KJ Z))))))))
  exact K9 Z c22 (T.skip (K4 (X.seq (T.region Z (KH Z (Ex.add Z Z QG) Z (KF bK 1 Z (TL.nil (X.back (m':=m9) [1] QG ⟨y3,(y4+(((x10.MO.length:Int)+(4*(x10.MH.length:Int)))+6)),k5+1,by omega,Z,Z,h⟩ QJ QJ))))))))
def t7:fg := [(173,3,3)]
theorem aZ:(t7).OK Tryz.prog:=⟨FOK.mk O5 rfl Pq rfl,trivial⟩
def t8:List Nat := [28]
theorem rm:NOK Tryz.prog t8:=⟨OZ,trivial⟩
theorem pp:SOK Tryz.prog 48 195 1 5 #[.int .i64 0,.int .i64 0,.bool false,.slice none 0 0,.int .i64 0]:=SOK.mk NR Oi Tryz.zeroValue195 QH QI
theorem pQ:(Tryz.prog.info? 195).map (fun i=>(i.zero,i.size,i.bytes))=some (some (.agg #[.int .i64 0,.int .i64 0,.bool false,.slice none 0 0,.int .i64 0]),5,56):=by kernel_rfl
def gl:List aQ→Int→Option (Lp Int Int)
 | [],y4=>some (Lp.go y4)
 | x10::xs,y4=>(ln x10.MF).bind fun x18=>if x18=0 then some (Lp.ret 0) else (gl xs y4)
def mM (a0:List aQ):Option (Int):=if (a0.length:Int)>20 then some 0 else ((gl a0 0).bind fun e=>match e with | .ret r=>some r | .go y21=>some 1)
theorem xb (a0:List aQ) (A1:Option Addr) (c2:Nat) (r:Int) (h:mM a0=some r):aH Tryz.prog 45 #[.slice A1 a0.length c2] (RX.of (aq 5 aY) [.slice A1 a0.length c2] a0) (aK) (fun v A' N=>v=jI r∧A'=aK∧N = []):=by
 refine aU Tryz.func45 Z Tryz.ntmps45 Z ?_
 intro F w hX
 unfold mM at h
 refine KG Z (KP aZ Z (T.seq (KG Z (KF aZ 1 Z (KH Z (KX Z Of) Z (KF aZ 1 Z ?_))))))
 rcases jF h with⟨c3,h⟩ | ⟨c3,h⟩
 ·refine La Z c3 (KG Z (KF aZ 1 Z ?_))
  obtain rfl:=Nq h
  exact KI (T.ret (KL (KQ [0] Tryz.results45 (KJ Z))))
 refine K9 Z c3 (K3 (T.seq (KG Z (KF aZ 1 Z (KH Z (KX Z Of) Z (KP aZ Z (T.block ?_)))))))
 obtain⟨E6,hE7,hO8⟩:=Np h
 have hk12len:=LA hX
 refine Lv (fun m e Rs=> ∃ (y4:Int) (k5:Nat),k5+m=a0.length∧e = [(2,jI y4),(8,.slice A1 a0.length c2),(9,jI (a0.length:Int)),(10,jI (k5:Int))]∧Rs = [aK]∧gl (a0.drop k5) y4=some E6) (a0.length) [0] ⟨0,0,by simp,Z,Z,by rw[List.drop_zero]; exact hE7⟩ QJ QJ ?_
 clear hE7 h
 rintro m9 _ _ ⟨y4,k5,hk12,rfl,rfl,h⟩
 cases m9 with
 | zero =>
  rw[List.drop_of_length_le QG,gl] at h
  have hk12ge: ¬ ((k5:Int)<(a0.length:Int)):=by omega
  refine KG Z (KP aZ Z (T.seq (Lb Z (Nu hk12ge) ?_)))
  obtain rfl:=Nq h
  replace h:=hO8
  clear hO8
  refine T.exit (KZ (KZ (Lu (X.seq (KG Z (KF aZ 1 Z ?_))))))
  obtain rfl:=Nq h
  exact KI (T.ret (KQ [0] Tryz.results45 (KJ Z)))
 | succ m9 =>
  obtain⟨x10,hxx10⟩: ∃ x,a0[k5]? = some x:=⟨_,List.getElem?_eq_getElem QG⟩
  rw[bJ hxx10,gl] at h
  have hk12lt:(k5:Int)<(a0.length:Int):=by omega
  refine KG Z (KP aZ Z (T.seq (KV Z (Nt hk12lt) ?_)))
  obtain⟨gz13,oz13,rfl,z13cs,z13cl,z13cc,z13nf,z13r⟩:=Lf QH hX hxx10
  obtain⟨z13S,z13r,z13rr⟩:=z13r
  obtain⟨A14,c15,rfl,z13s0⟩:=z13r
  have hX16:(RX.of (aq 2 bc) [.slice A14 x10.MF.length c15] x10.MF).reads w F:=⟨z13S,z13s0,z13rr⟩
  refine K3 (T.seq (T.block (KG Z ?_)))
  refine KH Z (K1 (k:=k5) Z Z Z Of OA (Nw hxx10).1) Z ?_
  refine KH Z (LI (us := [jI x10.MG,jI x10.MJ,.bool x10.MZ,.slice A14 x10.MF.length c15,jI x10.MT]) 0 Z PF OA z13nf z13cc Z Z Z) Z (TL.alloc Z .u Tryz.zeroValue173 Z (fun b17=>(KW 0 Z (cs':= #[jI x10.MG,jI x10.MJ,.bool x10.MZ,.slice A14 x10.MF.length c15,jI x10.MT]) Z .u Z Z OA Z Z Z Z Z (K7 Z ?_))))
  obtain⟨x18,hx19,h⟩:=Np h
  refine KK aZ rm 0 Z 2 Z Z (K2 Z .u (.fn Tryz.call44 Z) (qn x10.MF _ _ _ hx19) (fun _ hs=>(K0 hs hX16)) Z (KF aZ 1 Z ?_))
  rcases jF h with⟨c20,h⟩ | ⟨c20,h⟩
  ·refine La Z c20 (KG Z (KF aZ 1 Z ?_))
   obtain rfl:=Nq h
   obtain rfl:=Nq hO8
   exact KI (T.ret (KU (KL (KL (KU (KL (KQ [1] Tryz.results45 (KJ Z))))))))
  exact K9 Z c20 (T.skip (K4 (X.seq (T.region Z (KH Z (Ex.add Z Z QG) Z (KF aZ 1 Z (TL.nil (X.back (m':=m9) [1] QG ⟨y4,k5+1,by omega,Z,Z,h⟩ QJ QJ))))))))
def ic:List aQ→List dj→Option (List dj)
 | [],y3=>some y3
 | x11::xs,y3=>if (y3.length+1)*56≤140737488355328 then (ic xs (y3 ++ [(⟨x11.MG,x11.MJ,x11.MZ,x11.MF,x11.MT⟩:dj)])) else none
def qo (a0:List aQ):Option (List dj):=(ic a0 []).bind fun y23=>some y23
theorem yQ (a0:List aQ) (A1:Option Addr) (c2:Nat) (r:List dj) (h:qo a0=some r):rK Tryz.prog 58 #[.slice A1 a0.length c2] (RX.of (aq 5 aY) [.slice A1 a0.length c2] a0) aK (fun v A' L=> ∃ (A27:Option Addr) (c28:Nat),v= .slice A27 r.length c28∧A'=aK∧L = [(⟨_,aq 5 cZ,[.slice A27 r.length c28],r⟩:RO)]):=by
 refine DC Tryz.func58 Z Tryz.ntmps58 Z ?_
 intro F w S hS hSF
 have hX:(RX.of (aq 5 aY) [.slice A1 a0.length c2] a0).reads w F:=⟨S,hS,hSF⟩
 unfold qo at h
 refine KG Z (K8 aZ Z Z (KP aZ Z (T.seq (KG Z (KF aZ 1 Z (KH Z (KX Z Of) Z (KF aZ 1 Z ?_)))))))
 refine KI (T.block (LZ 195 5 (fE w S cZ) ?_))
 obtain⟨E7,hE8,hO9⟩:=Np h
 have hk13len:=LA hX
 refine Lv (fun m e Rs=> ∃ (y3:List dj) (A4:Option Addr) (c5:Nat) (k6:Nat),k6+m=a0.length∧e = [(2,.slice none 0 0),(3,.slice A4 y3.length c5),(6,.slice A1 a0.length c2),(7,jI (a0.length:Int)),(8,jI (k6:Int))]∧Rs = [bU 195 5 (fE w S cZ) (.slice A4 y3.length c5) y3,aK]∧ic (a0.drop k6) y3=some E7) (a0.length) [0,0] ⟨[],none,0,0,by simp,Z,Z,by rw[List.drop_zero]; exact hE8⟩ QJ QJ ?_
 clear hE8 h
 rintro m10 _ _ ⟨y3,A4,c5,k6,hk13,rfl,rfl,h⟩
 cases m10 with
 | zero =>
  rw[List.drop_of_length_le QG,ic] at h
  have hk13ge: ¬ ((k6:Int)<(a0.length:Int)):=by omega
  refine KG Z (KP aZ Z (T.seq (Lb Z (Nu hk13ge) ?_)))
  obtain rfl:=Nq h
  replace h:=hO9
  clear hO9
  refine T.exit (KZ (KZ (Lu (X.seq (KG Z (KF aZ 2 Z ?_))))))
  obtain rfl:=Nq h
  exact KI (T.ret (X.shutO QH 0 Z (LC [0,0] Z (Le [1,0] Tryz.results58 (KJ Z) ⟨_,⟨_,_,Z,Z,Z⟩,Z⟩ QJ (.inl Z)))))
 | succ m10 =>
  obtain⟨x11,hxx11⟩: ∃ x,a0[k6]? = some x:=⟨_,List.getElem?_eq_getElem QG⟩
  rw[bJ hxx11,ic] at h
  have hk13lt:(k6:Int)<(a0.length:Int):=by omega
  refine KG Z (KP aZ Z (T.seq (KV Z (Nt hk13lt) ?_)))
  obtain⟨gz14,oz14,rfl,z14cs,z14cl,z14cc,z14nf,z14r⟩:=RX.elemS QH hS hSF hxx11
  obtain⟨A15,c16,rfl,z14s0⟩:=z14r
  have hX17:(RX.of (aq 2 bc) [.slice A15 x11.MF.length c16] x11.MF).reads w F:=⟨S,z14s0,hSF⟩
  refine K3 (T.seq (T.block (KG Z ?_)))
  refine KH Z (K1 (k:=k6) Z Z Z Of OA (Nw hxx11).1) Z ?_
  refine KH Z (LI (us := [jI x11.MG,jI x11.MJ,.bool x11.MZ,.slice A15 x11.MF.length c16,jI x11.MT]) 0 Z PF OA z14nf z14cc Z Z Z) Z (TL.alloc Z .u Tryz.zeroValue173 Z (fun b18=>(KW 0 Z (cs':= #[jI x11.MG,jI x11.MJ,.bool x11.MZ,.slice A15 x11.MF.length c16,jI x11.MT]) Z .u Z Z OA Z Z Z Z Z (KI (T.region Z (KF aZ 1 Z (KH Z (KY (us := [jI x11.MG,jI x11.MJ,.bool x11.MZ,.slice A15 x11.MF.length c16,jI x11.MT]) 0 Z PF OA Z Z Z) Z ?_)))))))
  refine L7 (cells:= #[jI x11.MG,jI x11.MJ,.bool x11.MZ,.slice A15 x11.MF.length c16,jI x11.MT]) Z .u pp Z QI Z (fun b19=> ?_)
  obtain⟨c20,h⟩:=ao h
  refine TL.app1 1 Z .u (us := [jI x11.MG,jI x11.MJ,.bool x11.MZ,.slice A15 x11.MF.length c16,jI x11.MT]) (u:=(⟨x11.MG,x11.MJ,x11.MZ,x11.MF,x11.MT⟩:dj)) (l:=y3) (E:=(fE w S cZ)) Tryz.underlying48 pQ Z QH Z Z Z Z Z Z (fun _ _=>DB ⟨_,_,Z,z14s0⟩) (by have hq:=c20; omega) (by have hq:=c20; omega) Z (fun A21 c22=> ?_)
  exact Lt [0,0,0] Z (KF aZ 1 Z (TL.nil (K4 (X.seq (T.region Z (KH Z (Ex.add Z Z QG) Z (KF aZ 1 Z (TL.nil (X.back (m':=m10) [1,1] QG ⟨(y3 ++ [(⟨x11.MG,x11.MJ,x11.MZ,x11.MF,x11.MT⟩:dj)]),A21,c22,k6+1,by omega,Z,Z,h⟩ QJ QJ)))))))))
def t9:fg := [(23,1,1),(91,2,2),(91,3,4),(91,4,6),(97,11,11),(245,0,0),(245,1,1)]
theorem aX:(t9).OK Tryz.prog:=⟨FOK.mk NS rfl NZ rfl,FOK.mk NU rfl ND rfl,FOK.mk NU rfl ND rfl,FOK.mk NU rfl Ps rfl,FOK.mk NQ rfl Tryz.sizeOf95 rfl,FOK.mk OT rfl NZ rfl,FOK.mk OT rfl ND rfl,trivial⟩
def ua:List Nat := [9,89,95]
theorem de:NOK Tryz.prog ua:=⟨N4,Qb,PD,trivial⟩
def ei:List Hd→Int→Option (Lp Int Int)
 | [],y22=>some (Lp.go y22)
 | x28::xs,y22=>if -9223372036854775808≤((x28.M4.length:Int)+(x28.MV.data.length:Int))∧((x28.M4.length:Int)+(x28.MV.data.length:Int))≤9223372036854775807 then (if ((x28.M4.length:Int)+(x28.MV.data.length:Int))>100 then some (Lp.ret 0) else (ei xs y22)) else none
def ej:List Rec→Int→Option (Lp Int Int)
 | [],y5=>some (Lp.go y5)
 | x11::xs,y5=>if -9223372036854775808≤((x11.M4.data.length:Int)+(x11.MV.data.length:Int))∧((x11.M4.data.length:Int)+(x11.MV.data.length:Int))≤9223372036854775807 then (if ((x11.M4.data.length:Int)+(x11.MV.data.length:Int))>100 then some (Lp.ret 0) else (if (x11.MU.length:Int)>6 then some (Lp.ret 0) else ((ei x11.MU y5).bind fun e=>match e with | .ret r=>some (Lp.ret r) | .go y35=>(ej xs y35)))) else none
theorem ub (y5:Int):ej [] y5=(some (Lp.go y5)):=rfl
theorem uc (x11:Rec) (xs:List Rec) (y5:Int):ej (x11::xs) y5=(if -9223372036854775808≤((x11.M4.data.length:Int)+(x11.MV.data.length:Int))∧((x11.M4.data.length:Int)+(x11.MV.data.length:Int))≤9223372036854775807 then (if ((x11.M4.data.length:Int)+(x11.MV.data.length:Int))>100 then some (Lp.ret 0) else (if (x11.MU.length:Int)>6 then some (Lp.ret 0) else ((ei x11.MU y5).bind fun e=>match e with | .ret r=>some (Lp.ret r) | .go y35=>(ej xs y35)))) else none):=rfl
def kj (a0:Bat):Option (Int):=if (a0.MK.length:Int)>12 then some 0 else ((ej a0.MK 0).bind fun e=>match e with | .ret r=>some r | .go y37=>some 1)
theorem ud (a0:Bat) (A1:Option Addr) (c2:Nat) (r:Int) (h:kj a0=some r):aH Tryz.prog 92 #[.agg (wA0 a0 A1 c2)] (RX.of (aq 7 da) [.slice A1 a0.MK.length c2] a0.MK) (aK) (fun v A' N=>v=jI r∧A'=aK∧N = []):=by
 refine aU Tryz.func92 Z Tryz.ntmps92 Z ?_
 intro F w hX
 unfold kj at h
 refine KG Z (TL.box Z .u Z Z (fun b3=>(KP aX Z (T.seq (KG Z (KK aX de 0 Z 2 Z Z (KH Z (KX Z NK) Z (KF aX 1 Z ?_))))))))
 rcases jF h with⟨c4,h⟩ | ⟨c4,h⟩
 ·refine La Z c4 (KG Z (KF aX 1 Z ?_))
  obtain rfl:=Nq h
  exact KI (T.ret (KL (KQ [1] Qf (KJ Z))))
 refine K9 Z c4 (K3 (T.seq (KG Z (KK aX de 0 Z 2 Z Z (KH Z (KX Z NK) Z (KP aX Z (T.block ?_)))))))
 obtain⟨E7,hE8,hO9⟩:=Np h
 have hk13len:=LA hX
 refine Lv (fun m e Rs=> ∃ (y5:Int) (k6:Nat),k6+m=a0.MK.length∧e = [(2,jI y5),(12,.slice A1 a0.MK.length c2),(13,jI (a0.MK.length:Int)),(14,jI (k6:Int))]∧Rs = [aW b3 97 (wA0 a0 A1 c2),aK]∧ej (a0.MK.drop k6) y5=some E7) (a0.MK.length) [0,0] ⟨0,0,by simp,Z,Z,by rw[List.drop_zero]; exact hE8⟩ QJ QJ ?_
 clear hE8 h
 rintro m10 _ _ ⟨y5,k6,hk13,rfl,rfl,h⟩
 cases m10 with
 | zero =>
  rw[List.drop_of_length_le QG,ub] at h
  have hk13ge: ¬ ((k6:Int)<(a0.MK.length:Int)):=by omega
  refine KG Z (KP aX Z (T.seq (Lb Z (Nu hk13ge) ?_)))
  obtain rfl:=Nq h
  replace h:=hO9
  clear hO9
  refine T.exit (KZ (KZ (Lu (X.seq (KG Z (KF aX 1 Z ?_))))))
  obtain rfl:=Nq h
  exact KI (T.ret (KQ [1] Qf (KJ Z)))
 | succ m10 =>
  obtain⟨x11,hxx11⟩: ∃ x,a0.MK[k6]? = some x:=⟨_,List.getElem?_eq_getElem QG⟩
  rw[bJ hxx11,uc] at h
  have hk13lt:(k6:Int)<(a0.MK.length:Int):=by omega
  refine KG Z (KP aX Z (T.seq (KV Z (Nt hk13lt) ?_)))
  obtain⟨gz14,oz14,rfl,z14cs,z14cl,z14cc,z14nf,z14r⟩:=Lf QH hX hxx11
  obtain⟨z14S,z14r,z14rr⟩:=z14r
  obtain⟨A15,c16,rfl,z14s0⟩:=z14r
  have hX17:(RX.of (aq 3 dq) [.slice A15 x11.MU.length c16] x11.MU).reads w F:=⟨z14S,z14s0,z14rr⟩
  refine K3 (T.seq (T.block (KG Z ?_)))
  refine KH Z (K1 (k:=k6) Z Z Z NK NG (Nw hxx11).1) Z ?_
  refine KH Z (LI (us:=wL1 x11 A15 c16) 0 Z Oa NG z14nf z14cc Z Z Z) Z (TL.alloc Z .u Tryz.zeroValue91 Z (fun b18=>(KW 0 Z (cs':=wA2 x11 A15 c16) Z .u Z Z NG Z Z Z Z Z (KI (T.seq (KG Z (KK aX de 0 Z 3 Z Z (KH Z (Lx Z NE) Z (KK aX de 0 Z 3 Z Z (KH Z (Lx Z NE) Z ?_))))))))))
  obtain⟨c19,h⟩:=ao h
  refine KH Z (Ex.add Z Z c19) Z ?_
  rcases jF h with⟨c20,h⟩ | ⟨c20,h⟩
  ·refine KF aX 2 Z (KN 28 Z (Nt c20) (Lq aX Z (KV Z Z (KG Z (KF aX 1 Z ?_)))))
   obtain rfl:=Nq h
   obtain rfl:=Nq hO9
   exact KI (T.ret (KL (KU (KL (KL (KU (KL (KQ [2] Qf (KJ Z)))))))))
  refine KF aX 2 Z (KN 28 Z (Nu c20) (KK aX de 0 Z 2 Z Z (TL.q Z (.g Z Z Z) (KX Z N3) Z (KM aX 2 Z ?_))))
  rcases jF h with⟨c21,h⟩ | ⟨c21,h⟩
  ·refine La Z c21 (KG Z (KF aX 1 Z ?_))
   obtain rfl:=Nq h
   obtain rfl:=Nq hO9
   exact KI (T.ret (KL (KU (KL (KL (KU (KL (KQ [2] Qf (KJ Z)))))))))
  refine K9 Z c21 (Lg Z (KK aX de 0 Z 2 Z Z (KH Z (KX Z N3) Z (KP aX Z (T.block ?_)))))
  obtain⟨E24,hE25,hO26⟩:=Np h
  have hk30len:=LA hX17
  refine Lv (fun m e Rs=> ∃ (y22:Int) (k23:Nat),k23+m=x11.MU.length∧e = [(2,jI y22),(12,.slice (some ⟨gz14,oz14,none⟩) a0.MK.length c2),(13,jI (a0.MK.length:Int)),(14,jI (k6:Int)),(35,.slice A15 x11.MU.length c16),(36,jI (x11.MU.length:Int)),(37,jI (k23:Int))]∧Rs = [aW b18 91 (wA2 x11 A15 c16),aW b3 97 #[jI a0.Na,jI a0.M3,.bool a0.Nh,.bool a0.Nd,.bool a0.Nc,jI a0.M7,jI a0.MW,jI a0.Ng,jI a0.MG,jI a0.MJ,jI a0.MX,.slice (some ⟨gz14,oz14,none⟩) a0.MK.length c2],aK]∧ei (x11.MU.drop k23) y22=some E24) (x11.MU.length) [0,0,0] ⟨y5,0,by simp,Z,Z,by rw[List.drop_zero]; exact hE25⟩ QJ QJ ?_
  clear hE25 h
  rintro m27 _ _ ⟨y22,k23,hk30,rfl,rfl,h⟩
  cases m27 with
  | zero =>
   rw[List.drop_of_length_le QG,ei] at h
   have hk30ge: ¬ ((k23:Int)<(x11.MU.length:Int)):=by omega
   refine KG Z (KP aX Z (T.seq (Lb Z (Nu hk30ge) ?_)))
   obtain rfl:=Nq h
   replace h:=hO26
   clear hO26
   exact T.exit (KZ (KZ (Lu (K4 (X.seq (T.region Z (KH Z (Ex.add Z Z QG) Z (KF aX 1 Z (TL.nil (X.back (m':=m10) [1,1] QG ⟨y22,k6+1,by omega,Z,Z,h⟩ QJ QJ))))))))))
  | succ m27 =>
   obtain⟨x28,hxx28⟩: ∃ x,x11.MU[k23]? = some x:=⟨_,List.getElem?_eq_getElem QG⟩
   rw[bJ hxx28,ei] at h
   have hk30lt:(k23:Int)<(x11.MU.length:Int):=by omega
   refine KG Z (KP aX Z (T.seq (KV Z (Nt hk30lt) ?_)))
   obtain⟨gz31,oz31,rfl,z31cs,z31cl,z31cc,z31nf,z31r⟩:=Lf QH hX17 hxx28
   obtain⟨z31S,z31r,z31rr⟩:=z31r
   obtain rfl:z31cs=(wL3 x28):=z31r
   refine K3 (T.seq (T.block (KG Z ?_)))
   refine KH Z (K1 (k:=k23) Z Z Z N3 Or (Nw hxx28).1) Z ?_
   refine KH Z (LI (us:=wL3 x28) 0 Z PX Or z31nf z31cc Z Z Z) Z (TL.alloc Z .u Tryz.zeroValue245 Z (fun b32=>(KW 0 Z (cs':=wA4 x28) Z .u Z Z Or Z Z Z Z Z (K7 Z (KK aX de 0 Z 2 Z Z (KH Z (Lx Z NE) Z (KK aX de 0 Z 3 Z Z (KH Z (Lx Z NE) Z ?_))))))))
   obtain⟨c33,h⟩:=ao h
   refine KH Z (Ex.add Z Z c33) Z (KF aX 1 Z ?_)
   rcases jF h with⟨c34,h⟩ | ⟨c34,h⟩
   ·refine La Z c34 (KG Z (KF aX 1 Z ?_))
    obtain rfl:=Nq h
    obtain rfl:=Nq hO26
    obtain rfl:=Nq hO9
    exact KI (T.ret (KU (KL (KL (KU (KU (KL (KL (KU (KL (KQ [3] Qf (KJ Z))))))))))))
   exact K9 Z c34 (T.skip (K4 (X.seq (T.region Z (KH Z (Ex.add Z Z QG) Z (KF aX 1 Z (TL.nil (X.back (m':=m27) [1,1,1] QG ⟨y22,k23+1,by omega,Z,Z,h⟩ QJ QJ))))))))
def ue:fg := [(23,1,1),(36,0,0),(36,1,2),(36,2,3),(36,3,4),(51,3,4),(176,0,0),(176,1,1),(179,1,1),(191,1,1)]
theorem aG:(ue).OK Tryz.prog:=⟨FOK.mk NS rfl NZ rfl,FOK.mk OS rfl ND rfl,FOK.mk OS rfl Ny rfl,FOK.mk OS rfl Ny rfl,FOK.mk OS rfl Tryz.sizeOf34 rfl,FOK.mk Pc rfl Tryz.sizeOf49 rfl,FOK.mk Pw rfl NZ rfl,FOK.mk Pw rfl Qg rfl,FOK.mk PN rfl PO rfl,FOK.mk PP rfl Tryz.sizeOf189 rfl,trivial⟩
def uf:List Nat := [3,9,34,49,174,177,189]
theorem bQ:NOK Tryz.prog uf:=⟨Nz,N4,Tryz.isAgg34,Tryz.isAgg49,PY,O9,Pa,trivial⟩
theorem qp:BOK Tryz.prog 51 #[.bool false,.string ⟨#[]⟩,.int .i64 0,.int .i64 0,.slice none 0 0] [(0,2),(2,1),(3,1),(4,1)]:=BOK.mk Tryz.zeroValue51 Pc (by intro w; simp)
theorem pR:BOK Tryz.prog 191 #[.string ⟨#[]⟩,.slice none 0 0] [(0,1),(1,1)]:=BOK.mk Tryz.zeroValue191 PP (by intro w; simp)
theorem pt:SOK Tryz.prog 49 191 1 2 #[.string ⟨#[]⟩,.slice none 0 0]:=SOK.mk Og OB Tryz.zeroValue191 QH QI
theorem oN:SOK Tryz.prog 189 193 1 2 #[.int .i64 0,.slice none 0 0]:=SOK.mk N8 Pd Tryz.zeroValue193 QH QI
theorem pS:(Tryz.prog.info? 191).map (fun i=>(i.zero,i.size,i.bytes))=some (some (.agg #[.string ⟨#[]⟩,.slice none 0 0]),2,40):=by kernel_rfl
theorem pT:(Tryz.prog.info? 193).map (fun i=>(i.zero,i.size,i.bytes))=some (some (.agg #[.int .i64 0,.slice none 0 0]),2,32):=by kernel_rfl
def gm:List Bat→Int→Option (Lp Int Int)
 | [],y35=>some (Lp.go y35)
 | x41::xs,y35=>(kj x41).bind fun x49=>if x49=0 then some (Lp.ret 0) else (gm xs y35)
def eS:List aV→Int→Int→Option (Lp Int (Int×Int))
 | [],y19,y20=>some (Lp.go (y19,y20))
 | x26::xs,y19,y20=>if (IntKind.i64.wrap (y20+(IntKind.i64.wrap (10+(IntKind.i64.wrap (100*(x26.MP.length:Int)))))))>2000 then some (Lp.ret 0) else ((gm x26.MP y19).bind fun e=>match e with | .ret r=>some (Lp.ret r) | .go y52=>(eS xs y52 (IntKind.i64.wrap (y20+(IntKind.i64.wrap (10+(IntKind.i64.wrap (100*(x26.MP.length:Int)))))))))
def gp:List aI→Int→Int→Option (Lp Int (Int×Int))
 | [],y4,y5=>some (Lp.go (y4,y5))
 | x11::xs,y4,y5=>(eS x11.MH y4 (IntKind.i64.wrap (y5+(IntKind.i64.wrap ((x11.MO.length:Int)+10))))).bind fun e=>match e with | .ret r=>some (Lp.ret r) | .go (y54,y55)=>(gp xs y54 y55)
def mN (a0:aA):Option (Int):=(gp a0.MF 0 (a0.MM.data.length:Int)).bind fun e=>match e with | .ret r=>some r | .go (y57,y58)=>(if y58>2000 then some 0 else some 1)
theorem xc (a0:aA) (A1:Option Addr) (c2:Nat) (r:Int) (h:mN a0=some r):aH Tryz.prog 46 #[.agg #[.bool a0.MM.null,jS a0.MM.data,jI a0.M5,jI a0.ML,.slice A1 a0.MF.length c2]] (RX.of (aq 2 aM) [.slice A1 a0.MF.length c2] a0.MF) (aK) (fun v A' N=>v=jI r∧A'=aK∧N = []):=by
 refine aU Tryz.func46 Z Tryz.ntmps46 Z ?_
 intro F w hX
 unfold mN at h
 refine KG Z (TL.box Z .u Z Z (fun b3=>(K8 aG Z Z (KK aG bQ 0 Z 3 Z Z (KH Z (Lx Z NE) Z (KP aG Z (T.seq (KG Z ?_))))))))
 refine KK aG bQ 0 Z 2 Z Z (KH Z (KX Z On) Z (KP aG Z (T.block ?_)))
 obtain⟨E7,hE8,hO9⟩:=Np h
 have hk13len:=LA hX
 refine Lv (fun m e Rs=> ∃ (y4:Int) (y5:Int) (k6:Nat),k6+m=a0.MF.length∧e = [(2,jI y4),(3,jI y5),(15,.slice A1 a0.MF.length c2),(16,jI (a0.MF.length:Int)),(17,jI (k6:Int))]∧Rs = [aW b3 36 #[.bool a0.MM.null,jS a0.MM.data,jI a0.M5,jI a0.ML,.slice A1 a0.MF.length c2],aK]∧gp (a0.MF.drop k6) y4 y5=some E7) (a0.MF.length) [0,0] ⟨0,(a0.MM.data.length:Int),0,by simp,Z,Z,by rw[List.drop_zero]; exact hE8⟩ QJ QJ ?_
 clear hE8 h
 rintro m10 _ _ ⟨y4,y5,k6,hk13,rfl,rfl,h⟩
 cases m10 with
 | zero =>
  rw[List.drop_of_length_le QG,gp] at h
  have hk13ge: ¬ ((k6:Int)<(a0.MF.length:Int)):=by omega
  refine KG Z (KP aG Z (T.seq (Lb Z (Nu hk13ge) ?_)))
  obtain rfl:=Nq h
  replace h:=hO9
  clear hO9
  refine T.exit (KZ (KZ (Lu (X.seq (T.seq (KG Z (KF aG 2 Z ?_)))))))
  rcases jF h with⟨c61,h⟩ | ⟨c61,h⟩
  ·refine La Z c61 (KG Z (KF aG 1 Z ?_))
   obtain rfl:=Nq h
   exact KI (T.ret (KL (KQ [1] QB (KJ Z))))
  refine K9 Z c61 (Lg Z (KF aG 1 Z ?_))
  obtain rfl:=Nq h
  exact KI (T.ret (KQ [1] QB (KJ Z)))
 | succ m10 =>
  obtain⟨x11,hxx11⟩: ∃ x,a0.MF[k6]? = some x:=⟨_,List.getElem?_eq_getElem QG⟩
  rw[bJ hxx11,gp] at h
  have hk13lt:(k6:Int)<(a0.MF.length:Int):=by omega
  refine KG Z (KP aG Z (T.seq (KV Z (Nt hk13lt) ?_)))
  obtain⟨gz14,oz14,rfl,z14cs,z14cl,z14cc,z14nf,z14r⟩:=Lf QH hX hxx11
  obtain⟨z14S,z14r,z14rr⟩:=z14r
  obtain⟨A15,c16,rfl,z14s0⟩:=z14r
  have hX17:(RX.of (aq 2 bX) [.slice A15 x11.MH.length c16] x11.MH).reads w F:=⟨z14S,z14s0,z14rr⟩
  refine K3 (T.seq (T.block (KG Z ?_)))
  refine KH Z (K1 (k:=k6) Z Z Z On Ot (Nw hxx11).1) Z ?_
  refine KH Z (LI (us := [jS x11.MO,.slice A15 x11.MH.length c16]) 0 Z PZ Ot z14nf z14cc Z Z Z) Z (TL.alloc Z .u Tryz.zeroValue176 Z (fun b18=>(KW 0 Z (cs':= #[jS x11.MO,.slice A15 x11.MH.length c16]) Z .u Z Z Ot Z Z Z Z Z (K7 Z (KK aG bQ 0 Z 3 Z Z (KH Z (Lx Z NE) Z ?_))))))
  iterate 2 refine KH Z (Ex.addw Z Z) Z ?_
  refine K8 aG Z Z (KK aG bQ 0 Z 2 Z Z (KH Z (KX Z Om) Z (KP aG Z (T.block ?_))))
  obtain⟨E22,hE23,hO24⟩:=Np h
  have hk28len:=LA hX17
  refine Lv (fun m e Rs=> ∃ (y19:Int) (y20:Int) (k21:Nat),k21+m=x11.MH.length∧e = [(2,jI y19),(3,jI y20),(15,.slice (some ⟨gz14,oz14,none⟩) a0.MF.length c2),(16,jI (a0.MF.length:Int)),(17,jI (k6:Int)),(28,.slice A15 x11.MH.length c16),(29,jI (x11.MH.length:Int)),(30,jI (k21:Int))]∧Rs = [aW b18 176 #[jS x11.MO,.slice A15 x11.MH.length c16],aW b3 36 #[.bool a0.MM.null,jS a0.MM.data,jI a0.M5,jI a0.ML,.slice (some ⟨gz14,oz14,none⟩) a0.MF.length c2],aK]∧eS (x11.MH.drop k21) y19 y20=some E22) (x11.MH.length) [0,0,0] ⟨y4,(IntKind.i64.wrap (y5+(IntKind.i64.wrap ((x11.MO.length:Int)+10)))),0,by simp,Z,Z,by rw[List.drop_zero]; exact hE23⟩ QJ QJ ?_
  clear hE23 h
  rintro m25 _ _ ⟨y19,y20,k21,hk28,rfl,rfl,h⟩
  cases m25 with
  | zero =>
   rw[List.drop_of_length_le QG,eS] at h
   have hk28ge: ¬ ((k21:Int)<(x11.MH.length:Int)):=by omega
   refine KG Z (KP aG Z (T.seq (Lb Z (Nu hk28ge) ?_)))
   obtain rfl:=Nq h
   replace h:=hO24
   clear hO24
   exact T.exit (KZ (KZ (Lu (K4 (X.seq (T.region Z (KH Z (Ex.add Z Z QG) Z (KF aG 1 Z (TL.nil (X.back (m':=m10) [1,1] QG ⟨y19,y20,k6+1,by omega,Z,Z,h⟩ QJ QJ))))))))))
  | succ m25 =>
   obtain⟨x26,hxx26⟩: ∃ x,x11.MH[k21]? = some x:=⟨_,List.getElem?_eq_getElem QG⟩
   rw[bJ hxx26,eS] at h
   have hk28lt:(k21:Int)<(x11.MH.length:Int):=by omega
   refine KG Z (KP aG Z (T.seq (KV Z (Nt hk28lt) ?_)))
   obtain⟨gz29,oz29,rfl,z29cs,z29cl,z29cc,z29nf,z29r⟩:=Lf QH hX17 hxx26
   obtain⟨z29S,z29r,z29rr⟩:=z29r
   obtain⟨A30,c31,rfl,z29s0⟩:=z29r
   have hX32:(RX.of (aq 12 dG) [.slice A30 x26.MP.length c31] x26.MP).reads w F:=⟨z29S,z29s0,z29rr⟩
   refine K3 (T.seq (T.block (KG Z ?_)))
   refine KH Z (K1 (k:=k21) Z Z Z Om Oj (Nw hxx26).1) Z ?_
   refine KH Z (LI (us := [jI x26.M2,.slice A30 x26.MP.length c31]) 0 Z PC Oj z29nf z29cc Z Z Z) Z (TL.alloc Z .u Tryz.zeroValue179 Z (fun b33=>(KW 0 Z (cs':= #[jI x26.M2,.slice A30 x26.MP.length c31]) Z .u Z Z Oj Z Z Z Z Z (KI (T.seq (KG Z (KK aG bQ 0 Z 3 Z Z (KH Z (KX Z NY) Z (KH Z (Ex.mulw Z Z) Z ?_)))))))))
   iterate 2 refine KH Z (Ex.addw Z Z) Z ?_
   refine K8 aG Z Z (KF aG 2 Z ?_)
   rcases jF h with⟨c34,h⟩ | ⟨c34,h⟩
   ·refine La Z c34 (KG Z (KF aG 1 Z ?_))
    obtain rfl:=Nq h
    obtain rfl:=Nq hO24
    obtain rfl:=Nq hO9
    exact KI (T.ret (KL (KU (KL (KL (KU (KU (KL (KL (KU (KL (KQ [3] QB (KJ Z)))))))))))))
   refine K9 Z c34 (Lg Z (KK aG bQ 0 Z 2 Z Z (KH Z (KX Z NY) Z (KP aG Z (T.block ?_)))))
   obtain⟨E37,hE38,hO39⟩:=Np h
   have hk43len:=LA hX32
   refine Lv (fun m e Rs=> ∃ (y35:Int) (k36:Nat),k36+m=x26.MP.length∧e = [(2,jI y35),(3,jI (IntKind.i64.wrap (y20+(IntKind.i64.wrap (10+(IntKind.i64.wrap (100*(x26.MP.length:Int)))))))),(15,.slice (some ⟨gz14,oz14,none⟩) a0.MF.length c2),(16,jI (a0.MF.length:Int)),(17,jI (k6:Int)),(28,.slice (some ⟨gz29,oz29,none⟩) x11.MH.length c16),(29,jI (x11.MH.length:Int)),(30,jI (k21:Int)),(44,.slice A30 x26.MP.length c31),(45,jI (x26.MP.length:Int)),(46,jI (k36:Int))]∧Rs = [aW b33 179 #[jI x26.M2,.slice A30 x26.MP.length c31],aW b18 176 #[jS x11.MO,.slice (some ⟨gz29,oz29,none⟩) x11.MH.length c16],aW b3 36 #[.bool a0.MM.null,jS a0.MM.data,jI a0.M5,jI a0.ML,.slice (some ⟨gz14,oz14,none⟩) a0.MF.length c2],aK]∧gm (x26.MP.drop k36) y35=some E37) (x26.MP.length) [0,0,0,0] ⟨y19,0,by simp,Z,Z,by rw[List.drop_zero]; exact hE38⟩ QJ QJ ?_
   clear hE38 h
   rintro m40 _ _ ⟨y35,k36,hk43,rfl,rfl,h⟩
   cases m40 with
   | zero =>
    rw[List.drop_of_length_le QG,gm] at h
    have hk43ge: ¬ ((k36:Int)<(x26.MP.length:Int)):=by omega
    refine KG Z (KP aG Z (T.seq (Lb Z (Nu hk43ge) ?_)))
    obtain rfl:=Nq h
    replace h:=hO39
    clear hO39
    exact T.exit (KZ (KZ (Lu (K4 (X.seq (T.region Z (KH Z (Ex.add Z Z QG) Z (KF aG 1 Z (TL.nil (X.back (m':=m25) [1,1,1] QG ⟨y35,(IntKind.i64.wrap (y20+(IntKind.i64.wrap (10+(IntKind.i64.wrap (100*(x26.MP.length:Int))))))),k21+1,by omega,Z,Z,h⟩ QJ QJ))))))))))
   | succ m40 =>
    obtain⟨x41,hxx41⟩: ∃ x,x26.MP[k36]? = some x:=⟨_,List.getElem?_eq_getElem QG⟩
    rw[bJ hxx41,gm] at h
    have hk43lt:(k36:Int)<(x26.MP.length:Int):=by omega
    refine KG Z (KP aG Z (T.seq (KV Z (Nt hk43lt) ?_)))
    obtain⟨gz44,oz44,rfl,z44cs,z44cl,z44cc,z44nf,z44r⟩:=Lf QH hX32 hxx41
    obtain⟨z44S,z44r,z44rr⟩:=z44r
    obtain⟨A45,c46,rfl,z44s0⟩:=z44r
    have hX47:(RX.of (aq 7 da) [.slice A45 x41.MK.length c46] x41.MK).reads w F:=⟨z44S,z44s0,z44rr⟩
    refine K3 (T.seq (T.block (KG Z ?_)))
    refine KH Z (K1 (k:=k36) Z Z Z NY NJ (Nw hxx41).1) Z ?_
    refine KH Z (LI (us:=wL5 x41 A45 c46) 0 Z N6 NJ z44nf z44cc Z Z Z) Z (TL.alloc Z .u Tryz.zeroValue97 Z (fun b48=>(KW 0 Z (cs':=wA0 x41 A45 c46) Z .u Z Z NJ Z Z Z Z Z (K7 Z (KH Z (KY (us:=wL5 x41 A45 c46) 0 Z N6 NJ Z Z Z) Z ?_)))))
    obtain⟨x49,hx50,h⟩:=Np h
    refine K2 Z .u (.fn Tryz.call92 Z) (ud x41 _ _ _ hx50) (fun _ hs=>(K0 hs hX47)) Z (KF aG 1 Z ?_)
    rcases jF h with⟨c51,h⟩ | ⟨c51,h⟩
    ·refine La Z c51 (KG Z (KF aG 1 Z ?_))
     obtain rfl:=Nq h
     obtain rfl:=Nq hO39
     obtain rfl:=Nq hO24
     obtain rfl:=Nq hO9
     exact KI (T.ret (KU (KL (KL (KU (KU (KL (KL (KU (KU (KL (KL (KU (KL (KQ [4] QB (KJ Z))))))))))))))))
    exact K9 Z c51 (T.skip (K4 (X.seq (T.region Z (KH Z (Ex.add Z Z QG) Z (KF aG 1 Z (TL.nil (X.back (m':=m40) [1,1,1,1] QG ⟨y35,k36+1,by omega,Z,Z,h⟩ QJ QJ))))))))
def jb:List aV→List j5→Option (List j5)
 | [],y24=>some y24
 | x31::xs,y24=>if (y24.length+1)*32≤140737488355328 then (jb xs (y24 ++ [(⟨x31.M2,x31.MP⟩:j5)])) else none
def jc:List aI→List dD→Option (List dD)
 | [],y7=>some y7
 | x14::xs,y7=>(jb x14.MH []).bind fun y44=>if (y7.length+1)*40≤140737488355328 then (jc xs (y7 ++ [(⟨x14.MO,y44⟩:dD)])) else none
def gW (a0:aA):Option (bl):=(jc a0.MF []).bind fun y56=>some (⟨a0.MM,a0.M5,a0.ML,y56⟩:bl)
theorem iN (a0:aA) (A1:Option Addr) (c2:Nat) (r:bl) (h:gW a0=some r):rK Tryz.prog 57 #[.agg #[.bool a0.MM.null,jS a0.MM.data,jI a0.M5,jI a0.ML,.slice A1 a0.MF.length c2]] (RX.of (aq 2 aM) [.slice A1 a0.MF.length c2] a0.MF) aK (fun v A' L=> ∃ (A59:Option Addr) (c60:Nat),v= .agg #[.bool r.MM.null,jS r.MM.data,jI r.M5,jI r.ML,.slice A59 r.MF.length c60]∧A'=aK∧L = [(⟨_,aq 2 ca,[.slice A59 r.MF.length c60],r.MF⟩:RO)]):=by
 refine DC Tryz.func57 Z Tryz.ntmps57 Z ?_
 intro F w S hS hSF
 have hX:(RX.of (aq 2 aM) [.slice A1 a0.MF.length c2] a0.MF).reads w F:=⟨S,hS,hSF⟩
 unfold gW at h
 refine KG Z (TL.box Z .u Z Z (fun b3=>(TL.alloc Z .u Tryz.zeroValue51 Z (fun b4=>(K7 Z (KF aG 1 Z (KH Z (KY (us:=wL6 a0.MM) 1 Z N0 ND Z Z Z) Z (KK aG bQ 1 Z 4 Z Z ?_))))))))
 refine KH Z (Ld (cells:= #[.bool a0.MM.null,jS a0.MM.data,jI a0.M5,jI a0.ML,.slice none 0 0]) qp Z QI) Z ?_
 refine TL.alloc Z .u Tryz.zeroValue51 Z (fun b5=>(KW 0 Z (cs':= #[.bool a0.MM.null,jS a0.MM.data,jI a0.M5,jI a0.ML,.slice none 0 0]) Z .u Z Z Pb Z Z Z Z Z (KI (T.seq (KG Z (KK aG bQ 2 Z 2 Z Z (KH Z (KX Z On) Z (KP aG Z (T.block (LZ 191 2 (fE w S ca) ?_))))))))))
 obtain⟨E10,hE11,hO12⟩:=Np h
 have hk16len:=LA hX
 refine Lv (fun m e Rs=> ∃ (k6:Nat) (y7:List dD) (A8:Option Addr) (c9:Nat),k6+m=a0.MF.length∧e = [(2,jP b4),(3,jP b5),(17,.slice A1 a0.MF.length c2),(18,jI (a0.MF.length:Int)),(19,jI (k6:Int))]∧Rs = [bU 191 2 (fE w S ca) (.slice A8 y7.length c9) y7,aW b5 51 #[.bool a0.MM.null,jS a0.MM.data,jI a0.M5,jI a0.ML,.slice A8 y7.length c9],aW b4 51 vA0,aW b3 36 #[.bool a0.MM.null,jS a0.MM.data,jI a0.M5,jI a0.ML,.slice A1 a0.MF.length c2],aK]∧jc (a0.MF.drop k6) y7=some E10) (a0.MF.length) [0,0,0,0,0] ⟨0,[],none,0,by simp,Z,Z,by rw[List.drop_zero]; exact hE11⟩ QJ QJ ?_
 clear hE11 h
 rintro m13 _ _ ⟨k6,y7,A8,c9,hk16,rfl,rfl,h⟩
 cases m13 with
 | zero =>
  rw[List.drop_of_length_le QG,jc] at h
  have hk16ge: ¬ ((k6:Int)<(a0.MF.length:Int)):=by omega
  refine KG Z (KP aG Z (T.seq (Lb Z (Nu hk16ge) ?_)))
  obtain rfl:=Nq h
  replace h:=hO12
  clear hO12
  refine T.exit (KZ (KZ (Lu (X.seq (KG Z (KH Z (KY (us := [.bool a0.MM.null,jS a0.MM.data,jI a0.M5,jI a0.ML,.slice A8 y7.length c9]) 1 Z Qc Pb Z Z Z) Z (KW 2 Z (cs':= #[.bool a0.MM.null,jS a0.MM.data,jI a0.M5,jI a0.ML,.slice A8 y7.length c9]) Z .u Z Z Pb Z Z Z Z Z ?_)))))))
  obtain rfl:=Nq h
  exact KI (T.ret (X.shutO QH 0 Z (LC [0,0,0,0,0] Z (Le [4,0] Tryz.results57 (Ly (us:= #[.bool a0.MM.null,jS a0.MM.data,jI a0.M5,jI a0.ML,.slice A8 y7.length c9]) 2 Z Qc Pb Z Z) ⟨_,⟨_,_,Z,Z,Z⟩,Z⟩ QJ (.inl Z)))))
 | succ m13 =>
  obtain⟨x14,hxx14⟩: ∃ x,a0.MF[k6]? = some x:=⟨_,List.getElem?_eq_getElem QG⟩
  rw[bJ hxx14,jc] at h
  have hk16lt:(k6:Int)<(a0.MF.length:Int):=by omega
  refine KG Z (KP aG Z (T.seq (KV Z (Nt hk16lt) ?_)))
  obtain⟨gz17,oz17,rfl,z17cs,z17cl,z17cc,z17nf,z17r⟩:=RX.elemS QH hS hSF hxx14
  obtain⟨A18,c19,rfl,z17s0⟩:=z17r
  have hX20:(RX.of (aq 2 bX) [.slice A18 x14.MH.length c19] x14.MH).reads w F:=⟨S,z17s0,hSF⟩
  refine K3 (T.seq (T.block (KG Z ?_)))
  refine KH Z (K1 (k:=k6) Z Z Z On Ot (Nw hxx14).1) Z ?_
  refine KH Z (LI (us := [jS x14.MO,.slice A18 x14.MH.length c19]) 0 Z PZ Ot z17nf z17cc Z Z Z) Z (TL.alloc Z .u Tryz.zeroValue176 Z (fun b21=>(KW 0 Z (cs':= #[jS x14.MO,.slice A18 x14.MH.length c19]) Z .u Z Z Ot Z Z Z Z Z (K7 Z (KK aG bQ 0 Z 2 Z Z ?_)))))
  refine KH Z (Ld (cells:= #[jS x14.MO,.slice none 0 0]) pR Z QI) Z ?_
  refine TL.alloc Z .u Tryz.zeroValue191 Z (fun b22=>(KW 0 Z (cs':= #[jS x14.MO,.slice none 0 0]) Z .u Z Z OB Z Z Z Z Z (KI (T.seq (KG Z (KK aG bQ 1 Z 2 Z Z (KH Z (KX Z Om) Z (KP aG Z (T.block (LZ 193 2 (fE w S fq) ?_))))))))))
  obtain⟨E27,hE28,hO29⟩:=Np h
  have hk33len:=LA hX20
  refine Lv (fun m e Rs=> ∃ (k23:Nat) (y24:List j5) (A25:Option Addr) (c26:Nat),k23+m=x14.MH.length∧e = [(2,jP b4),(3,jP b5),(6,jP b22),(17,.slice (some ⟨gz17,oz17,none⟩) a0.MF.length c2),(18,jI (a0.MF.length:Int)),(19,jI (k6:Int)),(27,.slice A18 x14.MH.length c19),(28,jI (x14.MH.length:Int)),(29,jI (k23:Int))]∧Rs = [bU 193 2 (fE w S fq) (.slice A25 y24.length c26) y24,aW b22 191 #[jS x14.MO,.slice A25 y24.length c26],aW b21 176 #[jS x14.MO,.slice A18 x14.MH.length c19],bU 191 2 (fE w S ca) (.slice A8 y7.length c9) y7,aW b5 51 #[.bool a0.MM.null,jS a0.MM.data,jI a0.M5,jI a0.ML,.slice A8 y7.length c9],aW b4 51 vA0,aW b3 36 #[.bool a0.MM.null,jS a0.MM.data,jI a0.M5,jI a0.ML,.slice (some ⟨gz17,oz17,none⟩) a0.MF.length c2],aK]∧jb (x14.MH.drop k23) y24=some E27) (x14.MH.length) [0,0,0,0,0,0,0,0] ⟨0,[],none,0,by simp,Z,Z,by rw[List.drop_zero]; exact hE28⟩ QJ QJ ?_
  clear hE28 h
  rintro m30 _ _ ⟨k23,y24,A25,c26,hk33,rfl,rfl,h⟩
  cases m30 with
  | zero =>
   rw[List.drop_of_length_le QG,jb] at h
   have hk33ge: ¬ ((k23:Int)<(x14.MH.length:Int)):=by omega
   refine KG Z (KP aG Z (T.seq (Lb Z (Nu hk33ge) ?_)))
   obtain rfl:=Nq h
   replace h:=hO29
   clear hO29
   refine T.exit (KZ (KZ (Lu (X.seq (T.region Z (KK aG bQ 4 Z 2 Z Z (KH Z (KY (us := [jS x14.MO,.slice A25 y24.length c26]) 1 Z Qj OB Z Z Z) Z (L7 (cells:= #[jS x14.MO,.slice A25 y24.length c26]) Z .u pt Z QJ Z (fun b51=> ?_)))))))))
   obtain⟨c52,h⟩:=ao h
   refine Ms 3 0 Z .u (us := [jS x14.MO,.slice A25 y24.length c26]) (u:=(⟨x14.MO,y24⟩:dD)) (l:=y7) (E:=(fE w S ca)) Tryz.underlying49 pS Z QH Z Z Z Z Z Z Z (fun w1 G1 hG W h1 h2=>⟨_,_,Z,(fun w G h=>Hw QH w G h) w1 G1 hG W h1 h2⟩) (by have hq:=c52; omega) (by have hq:=c52; omega) Z (fun A53 c54=> ?_)
   exact Lt [0,0,0,0,0,0,0] Z (KF aG 1 Z (KW 3 Z (cs':= #[.bool a0.MM.null,jS a0.MM.data,jI a0.M5,jI a0.ML,.slice A53 (y7 ++ [(⟨x14.MO,y24⟩:dD)]).length c54]) Z .u Z Z Tryz.sizeOf49 Z Z Z Z Z (TL.nil (K4 (X.seq (T.region Z (KH Z (Ex.add Z Z QG) Z (KF aG 1 Z (TL.nil (X.back (m':=m13) [0,2,2,2,2] QG ⟨k6+1,(y7 ++ [(⟨x14.MO,y24⟩:dD)]),A53,c54,by omega,Z,Z,h⟩ QJ QJ))))))))))
  | succ m30 =>
   obtain⟨x31,hxx31⟩: ∃ x,x14.MH[k23]? = some x:=⟨_,List.getElem?_eq_getElem QG⟩
   rw[bJ hxx31,jb] at h
   have hk33lt:(k23:Int)<(x14.MH.length:Int):=by omega
   refine KG Z (KP aG Z (T.seq (KV Z (Nt hk33lt) ?_)))
   obtain⟨gz34,oz34,rfl,z34cs,z34cl,z34cc,z34nf,z34r⟩:=RX.elemS QH z17s0 hSF hxx31
   obtain⟨A35,c36,rfl,z34s0⟩:=z34r
   have hX37:(RX.of (aq 12 dG) [.slice A35 x31.MP.length c36] x31.MP).reads w F:=⟨S,z34s0,hSF⟩
   refine K3 (T.seq (T.block (KG Z ?_)))
   refine KH Z (K1 (k:=k23) Z Z Z Om Oj (Nw hxx31).1) Z ?_
   refine KH Z (LI (us := [jI x31.M2,.slice A35 x31.MP.length c36]) 0 Z PC Oj z34nf z34cc Z Z Z) Z (TL.alloc Z .u Tryz.zeroValue179 Z (fun b38=>(KW 0 Z (cs':= #[jI x31.M2,.slice A35 x31.MP.length c36]) Z .u Z Z Oj Z Z Z Z Z (KI (T.region Z (KK aG bQ 2 Z 2 Z Z (KH Z (KY (us := [jI x31.M2,.slice A35 x31.MP.length c36]) 0 Z PC Oj Z Z Z) Z (L7 (cells:= #[jI x31.M2,.slice A35 x31.MP.length c36]) Z .u oN Z QJ Z (fun b39=> ?_)))))))))
   obtain⟨c40,h⟩:=ao h
   refine TL.app1 1 Z .u (us := [jI x31.M2,.slice A35 x31.MP.length c36]) (u:=(⟨x31.M2,x31.MP⟩:j5)) (l:=y24) (E:=(fE w S fq)) Tryz.underlying189 pT Z QH Z Z Z Z Z Z (fun _ _=>DB ⟨_,_,Z,z34s0⟩) (by have hq:=c40; omega) (by have hq:=c40; omega) Z (fun A41 c42=> ?_)
   exact Lt [0,0,0,0,0,0,0,0,0] Z (KF aG 1 Z (KW 2 Z (cs':= #[jS x14.MO,.slice A41 (y24 ++ [(⟨x31.M2,x31.MP⟩:j5)]).length c42]) Z .u Z Z Tryz.sizeOf189 Z Z Z Z Z (TL.nil (K4 (X.seq (T.region Z (KH Z (Ex.add Z Z QG) Z (KF aG 1 Z (TL.nil (X.back (m':=m30) [1,1,1,1,1,1,1,1] QG ⟨k23+1,(y24 ++ [(⟨x31.M2,x31.MP⟩:j5)]),A41,c42,by omega,Z,Z,h⟩ QJ QJ))))))))))
def ug:fg := []
theorem ax:(ug).OK Tryz.prog:=trivial
theorem sX:Tryz.prog.follows .mixedOrders=true:=by kernel_rfl
theorem oO:SOK Tryz.prog 74 3 17 1 #[.int .i64 0,.int .i64 0,.int .i64 0,.int .i64 0,.int .i64 0,.int .i64 0,.int .i64 0,.int .i64 0,.int .i64 0,.int .i64 0,.int .i64 0,.int .i64 0,.int .i64 0,.int .i64 0,.int .i64 0,.int .i64 0,.int .i64 0]:=SOK.mk NF Ny Tryz.zeroValue3 QH QI
theorem ro:(Tryz.prog.info? 3).map (fun i=>(i.zero,i.size,i.bytes))=some (some (.int .i64 0),1,8):=by kernel_rfl
def im (a1:Int):Nat→Int→Nat→Option (Int×Nat)
 | 0,_,_=>none
 | m11+1,y6,k7=>if 0≤a1∧a1≤9223372036854775807 then (if (k7:Int)<(a1 % 8) then (if 0≤y6∧y6≤9223372036854775807 then (if -9223372036854775808≤((k7:Int)+1)∧((k7:Int)+1)≤9223372036854775807 then (im a1 m11 (y6 / 2) (k7+1)) else none) else none) else some (y6,k7)) else none
def oP (a0:List UInt8) (a1:Int):Option (Int):=if 0≤a1∧a1≤9223372036854775807 then (if 0≤(a1 / 8) then ((a0[(a1 / 8).toNat]?).bind fun ch3=>if -9223372036854775808≤(ch3.toNat:Int)∧(ch3.toNat:Int)≤9223372036854775807 then ((im a1 (((a1 % 8)).toNat+1) (ch3.toNat:Int) 0).bind fun (y20,k21)=>if 0≤y20∧y20≤9223372036854775807 then some (y20 % 2) else none) else none) else none) else none
theorem xd (a0:List UInt8) (a1:Int) (r:Int) (h:oP a0 a1=some r):aH Tryz.prog 207 #[jS a0,jI a1] .triv (aK) (fun v A' N=>v=jI r∧A'=aK∧N = []):=by
 refine aU Tryz.func207 Z Tryz.ntmps207 Z ?_
 intro F w hX
 unfold oP at h
 refine KG Z (K8 ax Z Z ?_)
 obtain⟨c1,h⟩:=ao h
 refine KF ax 2 Z (KH Z (Ex.quo Z Z QG c1) Z ?_)
 obtain⟨c2,h⟩:=ao h
 obtain⟨ch3,hc4,h⟩:=Np h
 refine KH Z (Mw Z Z ((Int.toNat_of_nonneg c2).symm) Tryz.underlying9 hc4) Z ?_
 obtain⟨c5,h⟩:=ao h
 refine KH Z (Mf Z O3 OP c5) Z (KP ax Z (T.seq (KG Z (KP ax Z (T.block ?_)))))
 obtain⟨E8,hE9,hO10⟩:=Np h
 refine Lv (fun m e Rs=> ∃ (y6:Int) (k7:Nat),e = [(1,jI a1),(4,jI 0),(5,jI y6),(6,jI (k7:Int))]∧Rs = [aK]∧im a1 m y6 k7=some E8) (((a1 % 8)).toNat+1) [0] ⟨(ch3.toNat:Int),0,Z,Z,by exact hE9⟩ QJ QJ ?_
 clear hE9 h
 rintro m11 _ _ ⟨y6,k7,rfl,rfl,h⟩
 cases m11 with
 | zero =>
  rw[im] at h
  cases h
 | succ m11 =>
  rw[im] at h
  refine T.seq (KG Z ?_)
  obtain⟨c15,h⟩:=ao h
  refine KF ax 2 Z (KH Z (Ex.rem Z Z QG c15) Z (KF ax 1 Z ?_))
  rcases jF h with⟨c16,h⟩ | ⟨c16,h⟩
  ·refine La Z c16 (K3 (T.seq (T.block (T.region Z ?_))))
   obtain⟨c17,h⟩:=ao h
   refine KF ax 1 Z (KH Z (Ex.quo Z Z QG c17) Z (KF ax 1 Z (TL.nil (K4 (X.seq (T.region Z ?_))))))
   obtain⟨c18,h⟩:=ao h
   exact KF ax 1 Z (KH Z (Ex.add Z Z c18) Z (KF ax 1 Z (TL.nil (X.back (m':=m11) [0] QG ⟨(y6 / 2),k7+1,Z,Z,h⟩ QJ QJ))))
  refine K9 Z c16 ?_
  obtain rfl:=Nq h
  replace h:=hO10
  clear hO10
  refine T.exit (KZ (KZ (Lu (X.seq (KG Z ?_)))))
  obtain⟨c19,h⟩:=ao h
  refine KF ax 1 Z (KH Z (Ex.rem Z Z QG c19) Z (KF ax 1 Z ?_))
  obtain rfl:=Nq h
  exact KI (T.ret (KQ [0] Tryz.results207 (KJ Z)))
def jd (a0:Int):Nat→Int→Nat→Option (Lp Int (Int×Nat))
 | 0,_,_=>none
 | m7+1,y2,k3=>if (k3:Int)<([28,27,26,25,23,22,20,19,18,14,13,11,10,9,8,6,0].length:Int) then (([28,27,26,25,23,22,20,19,18,14,13,11,10,9,8,6,0][k3]?).bind fun x12=>if x12=a0 then some (Lp.ret 1) else (if -9223372036854775808≤((k3:Int)+1)∧((k3:Int)+1)≤9223372036854775807 then (jd a0 m7 y2 (k3+1)) else none)) else (some (Lp.go (y2,k3)))
def lR (a0:Int):Option (Int):=(jd a0 ((([28,27,26,25,23,22,20,19,18,14,13,11,10,9,8,6,0].length:Int)).toNat+1) 0 0).bind fun e=>match e with | .ret r=>some r | .go (y17,k18)=>some 0
theorem oQ (a0:Int) (r:Int) (h:lR a0=some r):aH Tryz.prog 208 #[jI a0] .triv (aK) (fun v A' N=>v=jI r∧A'=aK∧N = []):=by
 refine aU Tryz.func208 Z Tryz.ntmps208 Z ?_
 intro F w hX
 unfold lR at h
 refine KG Z (K8 ax Z Z ?_)
 refine L7 (cells:= #[jI 28,jI 27,jI 26,jI 25,jI 23,jI 22,jI 20,jI 19,jI 18,jI 14,jI 13,jI 11,jI 10,jI 9,jI 8,jI 6,jI 0]) Z .u oO Z QI Z (fun b1=> ?_)
 refine My (us := [jI 28,jI 27,jI 26,jI 25,jI 23,jI 22,jI 20,jI 19,jI 18,jI 14,jI 13,jI 11,jI 10,jI 9,jI 8,jI 6,jI 0]) (xs := [28,27,26,25,23,22,20,19,18,14,13,11,10,9,8,6,0]) (E:=fh) (z:=1) Z (Nat.le_of_ble_eq_true Z) (fun _=>⟨Z,Z,⟨Z,Z,⟨Z,Z,⟨Z,Z,⟨Z,Z,⟨Z,Z,⟨Z,Z,⟨Z,Z,⟨Z,Z,⟨Z,Z,⟨Z,Z,⟨Z,Z,⟨Z,Z,⟨Z,Z,⟨Z,Z,⟨Z,Z,⟨Z,Z,Z⟩⟩⟩⟩⟩⟩⟩⟩⟩⟩⟩⟩⟩⟩⟩⟩⟩) (KP ax Z (T.seq (KG Z (KP ax Z (T.block ?_)))))
 obtain⟨E4,hE5,hO6⟩:=Np h
 refine Lv (fun m e Rs=> ∃ (y2:Int) (k3:Nat),e = [(0,jI a0),(2,jI y2),(3,.slice (some ⟨b1,0,none⟩) 17 17),(4,jI (k3:Int))]∧Rs = [bU 3 1 fh (.slice (some ⟨b1,0,none⟩) 17 17) [28,27,26,25,23,22,20,19,18,14,13,11,10,9,8,6,0],aK]∧jd a0 m y2 k3=some E4) ((([28,27,26,25,23,22,20,19,18,14,13,11,10,9,8,6,0].length:Int)).toNat+1) [0,0] ⟨0,0,Z,Z,by exact hE5⟩ QJ QJ ?_
 clear hE5 h
 rintro m7 _ _ ⟨y2,k3,rfl,rfl,h⟩
 cases m7 with
 | zero =>
  rw[jd] at h
  cases h
 | succ m7 =>
  rw[jd] at h
  refine T.seq (KG Z (KF ax 2 Z (KH Z (KX Z NF) Z (KF ax 1 Z ?_))))
  rcases jF h with⟨c11,h⟩ | ⟨c11,h⟩
  ·refine La Z c11 (K3 (T.seq (T.block (KG Z ?_))))
   obtain⟨x12,hx13,h⟩:=Np h
   refine KF ax 2 Z (MB (E:=fh) (k:=k3) 0 Z (fun w G h=>cm QH w G h) QH hx13 ?_)
   rintro gg oo _ ⟨⟩ _ ⟨_,_,rfl⟩
   refine Lt [0,0] Z ?_
   refine KH Z (K1 (k:=k3) Z Z Z NF Ny (Nw hx13).1) Z ?_
   refine KH Z (Mo (cs := [jI x12]) 0 0 Z Nz Z (fun _ _ h=>h.2.2.1) Z) Z (KF ax 2 Z ?_)
   rcases jF h with⟨c15,h⟩ | ⟨c15,h⟩
   ·refine La Z c15 (KG Z (KF ax 1 Z ?_))
    obtain rfl:=Nq h
    obtain rfl:=Nq hO6
    exact KI (T.ret (KU (KL (KL (KU (KL (KQ [1] Tryz.results208 (KJ Z))))))))
   refine K9 Z c15 (T.skip (K4 (X.seq (T.region Z ?_))))
   obtain⟨c16,h⟩:=ao h
   exact KF ax 1 Z (KH Z (Ex.add Z Z c16) Z (KF ax 1 Z (TL.nil (X.unf 0 Z (LC [0,0] Z (X.back (m':=m7) [0,0] QG ⟨y2,k3+1,Z,Z,h⟩ QJ QJ))))))
  refine K9 Z c11 ?_
  obtain rfl:=Nq h
  replace h:=hO6
  clear hO6
  refine T.exit (KZ (KZ (Lu (X.seq (KG Z (KF ax 1 Z ?_))))))
  obtain rfl:=Nq h
  exact KI (T.ret (KQ [1] Tryz.results208 (KJ Z)))
def io (k43:Nat):Nat→List Int→Int→Option (List Int×Int)
 | 0,_,_=>none
 | m63+1,y56,y59=>if y59≤32 then (if 0≤((k43:Int)+y59) then ((y56[((k43:Int)+y59).toNat]?).bind fun x69=>if -9223372036854775808≤((k43:Int)+y59)∧((k43:Int)+y59)≤9223372036854775807 then (if -9223372036854775808≤((k43:Int)+y59)∧((k43:Int)+y59)≤9223372036854775807 then (if -9223372036854775808≤(32 - y59)∧(32 - y59)≤9223372036854775807 then ((lR (32 - y59)).bind fun x75=>if -9223372036854775808≤(x69+x75)∧(x69+x75)≤9223372036854775807 then (if 0≤(x69+x75)∧(x69+x75)≤9223372036854775807 then (if -9223372036854775808≤(y59+1)∧(y59+1)≤9223372036854775807 then (io k43 m63 (y56.set (((k43:Int)+y59).toNat) ((x69+x75) % 2)) (y59+1)) else none) else none) else none) else none) else none) else none) else none) else some (y56,y59)
def fz (a0:List UInt8) (y40:List Int):Nat→Int→Int→Option (Int×Int)
 | 0,_,_=>none
 | m92+1,y87,y88=>if y88≥0 then (if -9223372036854775808≤((8*(a0.length:Int))+y88)∧((8*(a0.length:Int))+y88)≤9223372036854775807 then (if 0≤((8*(a0.length:Int))+y88) then ((y40[((8*(a0.length:Int))+y88).toNat]?).bind fun x99=>if -9223372036854775808≤(1 - x99)∧(1 - x99)≤9223372036854775807 then (if -9223372036854775808≤(y88 - 1)∧(y88 - 1)≤9223372036854775807 then (fz a0 y40 m92 (IntKind.u32.wrap ((IntKind.u32.wrap (y87*2))+(IntKind.u32.wrap (1 - x99)))) (y88 - 1)) else none) else none) else none) else none) else some (y87,y88)
def gq (a0:List UInt8):Nat→List Int→Nat→Option (List Int×Nat)
 | 0,_,_=>none
 | m47+1,y40,k43=>if (k43:Int)<(8*(a0.length:Int)) then ((y40[k43]?).bind fun x52=>if x52=1 then ((io k43 (((33:Int) - (1)).toNat+1) y40 1).bind fun (y81,y84)=>if -9223372036854775808≤((k43:Int)+1)∧((k43:Int)+1)≤9223372036854775807 then (gq a0 m47 y81 (k43+1)) else none) else (if -9223372036854775808≤((k43:Int)+1)∧((k43:Int)+1)≤9223372036854775807 then (gq a0 m47 y40 (k43+1)) else none)) else some (y40,k43)
def ip:Nat→List Int→Nat→Option (List Int×Nat)
 | 0,_,_=>none
 | m30+1,y23,k26=>if (k26:Int)<32 then ((y23[k26]?).bind fun x35=>if -9223372036854775808≤(1 - x35)∧(1 - x35)≤9223372036854775807 then (if -9223372036854775808≤((k26:Int)+1)∧((k26:Int)+1)≤9223372036854775807 then (ip m30 (y23.set k26 (1 - x35)) (k26+1)) else none) else none) else some (y23,k26)
def iq (a0:List UInt8):Nat→List Int→Nat→Option (List Int×Nat)
 | 0,_,_=>none
 | m12+1,y5,k8=>if (k8:Int)<(8*(a0.length:Int)) then ((oP a0 (k8:Int)).bind fun x17=>(y5[k8]?).bind fun x19=>if -9223372036854775808≤((k8:Int)+1)∧((k8:Int)+1)≤9223372036854775807 then (iq a0 m12 (y5.set k8 x17) (k8+1)) else none) else some (y5,k8)
def oR (a0:List UInt8):Option (Int):=if -9223372036854775808≤(8*(a0.length:Int))∧(8*(a0.length:Int))≤9223372036854775807 then (if -9223372036854775808≤((8*(a0.length:Int))+32)∧((8*(a0.length:Int))+32)≤9223372036854775807 then (if 0≤((8*(a0.length:Int))+32)∧8*(((8*(a0.length:Int))+32).toNat)≤281474976710656 then ((iq a0 (((8*(a0.length:Int))).toNat+1) (List.replicate (((8*(a0.length:Int))+32).toNat) (0:Int)) 0).bind fun (y222,k225)=>(ip ((32:Int).toNat+1) y222 0).bind fun (y332,k335)=>(gq a0 (((8*(a0.length:Int))).toNat+1) y332 0).bind fun (y402,k405)=>(fz a0 y402 (((31:Int) - (-1)).toNat+1) 0 31).bind fun (y423,y424)=>some y423) else none) else none) else none
theorem xe (a0:List UInt8) (r:Int) (h:oR a0=some r):aH Tryz.prog 165 #[jS a0] .triv (aK) (fun v A' N=>v= .int .u32 r∧A'=aK∧N = []):=by
 refine aU Tryz.func165 Z Tryz.ntmps165 Z ?_
 intro F w hX
 unfold oR at h
 refine KG Z (K8 ax Z Z (KF ax 1 Z (KH Z (Lx Z NE) Z ?_)))
 obtain⟨c1,h⟩:=ao h
 refine KH Z (Ex.mul Z Z c1) Z (K8 ax Z Z ?_)
 obtain⟨c2,h⟩:=ao h
 refine KF ax 1 Z (KH Z (Ex.add Z Z c2) Z ?_)
 obtain⟨c3,h⟩:=ao h
 refine TL.mk1 (k:=((8*(a0.length:Int))+32).toNat) (v:=jI 0) fh (0:Int) Z .u Tryz.underlying74 ro Z Z (Int.toNat_of_nonneg c3.1).symm c3.2 (by have hq:=c3.2; omega) (fun _ _=>Z) Z (fun b4=> ?_)
 refine KP ax Z (T.seq (KG Z (KP ax Z (T.block ?_))))
 obtain⟨E9,hE10,hO11⟩:=Np h
 refine Lv (fun m e Rs=> ∃ (y5:List Int) (A6:Option Addr) (c7:Nat) (k8:Nat),e = [(0,jS a0),(2,.int .u32 0),(3,jI (8*(a0.length:Int))),(4,.slice A6 y5.length c7),(5,jI (k8:Int))]∧Rs = [bU 3 1 fh (.slice A6 y5.length c7) y5,aK]∧iq a0 m y5 k8=some E9) (((8*(a0.length:Int))).toNat+1) [0,0] ⟨(List.replicate (((8*(a0.length:Int))+32).toNat) (0:Int)),(some ⟨b4,0,none⟩),(List.replicate (((8*(a0.length:Int))+32).toNat) (0:Int)).length,0,Z,Z,by exact hE10⟩ QJ QJ ?_
 clear hE10 h
 rintro m12 _ _ ⟨y5,A6,c7,k8,rfl,rfl,h⟩
 cases m12 with
 | zero =>
  rw[iq] at h
  cases h
 | succ m12 =>
  rw[iq] at h
  refine T.seq (KG Z (KF ax 3 Z ?_))
  rcases jF h with⟨c16,h⟩ | ⟨c16,h⟩
  ·refine La Z c16 (K3 (T.seq (T.block (T.region Z ?_))))
   obtain⟨x17,hx18,h⟩:=Np h
   refine KF ax 4 Z (K2 Z .u (.fn Tryz.call207 Z) (xd a0 (k8:Int) _ hx18) rT Z ?_)
   obtain⟨x19,hx20,h⟩:=Np h
   refine MB (E:=fh) (k:=k8) 0 Z (fun w G h=>cm QH w G h) QH hx20 ?_
   rintro gz21 oz21 _ ⟨⟩ _ ⟨_,_,rfl⟩
   refine Lt [0,0] Z ?_
   refine KH Z (K1 (k:=k8) Z Z Z NF Ny (Nw hx20).1) Z ?_
   refine TL.unf 0 Z (Lt [0,0] Z (TL.stE (k:=k8) (u:=x19) (u':=x17) 0 0 Z .u Z Z Ny Z hx20 Z Z Z Z (fun _ _ _ _ h=>by subst h; rfl) (Lt [0,0] Z ?_)))
   rw[show y5.length=(y5.set k8 x17).length from (List.length_set ..).symm]
   refine TL.nil (K4 (X.seq (T.region Z ?_)))
   obtain⟨c22,h⟩:=ao h
   exact KF ax 1 Z (KH Z (Ex.add Z Z c22) Z (KF ax 1 Z (TL.nil (X.back (m':=m12) [0,0] QG ⟨(y5.set k8 x17),(some ⟨gz21,oz21,none⟩),c7,k8+1,Z,Z,h⟩ QJ QJ))))
  refine K9 Z c16 ?_
  obtain rfl:=Nq h
  replace h:=hO11
  clear hO11
  refine T.exit (KZ (KZ (Lu (X.seq (T.seq (KG Z (KP ax Z (T.block ?_))))))))
  obtain⟨E27,hE28,hO29⟩:=Np h
  refine Lv (fun m e Rs=> ∃ (y23:List Int) (A24:Option Addr) (c25:Nat) (k26:Nat),e = [(2,.int .u32 0),(3,jI (8*(a0.length:Int))),(4,.slice A24 y23.length c25),(6,jI (k26:Int))]∧Rs = [bU 3 1 fh (.slice A24 y23.length c25) y23,aK]∧ip m y23 k26=some E27) ((32:Int).toNat+1) [0,0] ⟨y5,A6,c7,0,Z,Z,by exact hE28⟩ QJ QJ ?_
  clear hE28 h
  rintro m30 _ _ ⟨y23,A24,c25,k26,rfl,rfl,h⟩
  cases m30 with
  | zero =>
   rw[ip] at h
   cases h
  | succ m30 =>
   rw[ip] at h
   refine T.seq (KG Z (KF ax 2 Z ?_))
   rcases jF h with⟨c34,h⟩ | ⟨c34,h⟩
   ·refine La Z c34 (K3 (T.seq (T.block (T.region Z ?_))))
    obtain⟨x35,hx36,h⟩:=Np h
    refine KF ax 4 Z (MB (E:=fh) (k:=k26) 0 Z (fun w G h=>cm QH w G h) QH hx36 ?_)
    rintro gz37 oz37 _ ⟨⟩ _ ⟨_,_,rfl⟩
    refine Lt [0,0] Z ?_
    refine KH Z (K1 (k:=k26) Z Z Z NF Ny (Nw hx36).1) Z ?_
    refine KH Z (Mo (cs := [jI x35]) 0 0 Z Nz Z (fun _ _ h=>h.2.2.1) Z) Z ?_
    obtain⟨c38,h⟩:=ao h
    refine KH Z (Ex.sub Z Z c38) Z ?_
    refine KH Z (K1 (k:=k26) Z Z Z NF Ny (Nw hx36).1) Z ?_
    refine TL.unf 0 Z (Lt [0,0] Z (TL.stE (k:=k26) (u:=x35) (u':=(1 - x35)) 0 0 Z .u Z Z Ny Z hx36 Z Z Z Z (fun _ _ _ _ h=>by subst h; rfl) (Lt [0,0] Z ?_)))
    rw[show y23.length=(y23.set k26 (1 - x35)).length from (List.length_set ..).symm]
    refine TL.nil (K4 (X.seq (T.region Z ?_)))
    obtain⟨c39,h⟩:=ao h
    exact KF ax 1 Z (KH Z (Ex.add Z Z c39) Z (KF ax 1 Z (TL.nil (X.back (m':=m30) [0,0] QG ⟨(y23.set k26 (1 - x35)),(some ⟨gz37,oz37,none⟩),c25,k26+1,Z,Z,h⟩ QJ QJ))))
   refine K9 Z c34 ?_
   obtain rfl:=Nq h
   replace h:=hO29
   clear hO29
   refine T.exit (KZ (KZ (Lu (X.seq (T.seq (KG Z (KP ax Z (T.block ?_))))))))
   obtain⟨E44,hE45,hO46⟩:=Np h
   refine Lv (fun m e Rs=> ∃ (y40:List Int) (A41:Option Addr) (c42:Nat) (k43:Nat),e = [(2,.int .u32 0),(3,jI (8*(a0.length:Int))),(4,.slice A41 y40.length c42),(7,jI (k43:Int))]∧Rs = [bU 3 1 fh (.slice A41 y40.length c42) y40,aK]∧gq a0 m y40 k43=some E44) (((8*(a0.length:Int))).toNat+1) [0,0] ⟨y23,A24,c25,0,Z,Z,by exact hE45⟩ QJ QJ ?_
   clear hE45 h
   rintro m47 _ _ ⟨y40,A41,c42,k43,rfl,rfl,h⟩
   cases m47 with
   | zero =>
    rw[gq] at h
    cases h
   | succ m47 =>
    rw[gq] at h
    refine T.seq (KG Z (KF ax 3 Z ?_))
    rcases jF h with⟨c51,h⟩ | ⟨c51,h⟩
    ·refine La Z c51 (K3 (T.seq (T.block (KG Z ?_))))
     obtain⟨x52,hx53,h⟩:=Np h
     refine KF ax 2 Z (MB (E:=fh) (k:=k43) 0 Z (fun w G h=>cm QH w G h) QH hx53 ?_)
     rintro gz54 oz54 _ ⟨⟩ _ ⟨_,_,rfl⟩
     refine Lt [0,0] Z ?_
     refine KH Z (K1 (k:=k43) Z Z Z NF Ny (Nw hx53).1) Z ?_
     refine KH Z (Mo (cs := [jI x52]) 0 0 Z Nz Z (fun _ _ h=>h.2.2.1) Z) Z (KF ax 1 Z ?_)
     rcases jF h with⟨c55,h⟩ | ⟨c55,h⟩
     ·refine La Z c55 (KG Z (KP ax Z (T.block (T.unf 0 Z (T.sel [0,0] Z ?_)))))
      obtain⟨E60,hE61,hO62⟩:=Np h
      refine Lv (fun m e Rs=> ∃ (y56:List Int) (A57:Option Addr) (c58:Nat) (y59:Int),e = [(2,.int .u32 0),(3,jI (8*(a0.length:Int))),(4,.slice A57 y56.length c58),(7,jI (k43:Int)),(8,jI y59)]∧Rs = [bU 3 1 fh (.slice A57 y56.length c58) y56,aK]∧io k43 m y56 y59=some E60) (((33:Int) - (1)).toNat+1) [0,0] ⟨y40,(some ⟨gz54,oz54,none⟩),c42,1,Z,Z,by exact hE61⟩ QJ QJ ?_
      clear hE61 h
      rintro m63 _ _ ⟨y56,A57,c58,y59,rfl,rfl,h⟩
      cases m63 with
      | zero =>
       rw[io] at h
       cases h
      | succ m63 =>
       rw[io] at h
       refine T.seq (KG Z (KF ax 2 Z ?_))
       rcases jF h with⟨c67,h⟩ | ⟨c67,h⟩
       ·refine La Z c67 ?_
        obtain⟨c68,h⟩:=ao h
        obtain⟨x69,hx70,h⟩:=Np h
        refine K3 (T.seq (T.block (T.foc (E:=fh) (k:=((k43:Int)+y59).toNat) 0 Z (fun w G h=>cm QH w G h) QH hx70 ?_)))
        rintro gz71 oz71 _ ⟨⟩ _ ⟨_,_,rfl⟩
        refine T.sel [0,0] Z ?_
        obtain⟨c72,h⟩:=ao h
        obtain⟨c73,h⟩:=ao h
        obtain⟨c74,h⟩:=ao h
        obtain⟨x75,hx76,h⟩:=Np h
        obtain⟨c77,h⟩:=ao h
        obtain⟨c78,h⟩:=ao h
        refine Ml (fun e Rs=>e = [(2,.int .u32 0),(3,jI (8*(a0.length:Int))),(4,.slice (some ⟨gz71,oz71,none⟩) (y56.set (((k43:Int)+y59).toNat) ((x69+x75) % 2)).length c58),(7,jI (k43:Int)),(8,jI y59),(50,jI y59)]∧Rs = [bU 3 1 fh (.slice (some ⟨gz71,oz71,none⟩) (y56.set (((k43:Int)+y59).toNat) ((x69+x75) % 2)).length c58) (y56.set (((k43:Int)+y59).toNat) ((x69+x75) % 2)),aK]) ?_ ?_
        ·refine Lm (.q 0 (.q 1 (.q 2 (.q 3 (.q 4 (.q 5 (.q 6 (.q 7 (.q 8 (.q 10 (.q 11 (.br 9 (.e 12 (.q 13 (.q 14 (.q 15 (.e 16 .nil))))) (.e 12 (.e 9 (.q 13 (.q 14 (.q 15 (.e 16 .nil)))))))))))))))))) [1] Z sX sP QI ?_
         refine TD.run ax [0,1,2] Z Z (KO Z (Ex.add Z Z c72) Z (TD.run ax [4,5,6] Z Z (KO Z (Ex.add Z Z c73) Z ?_)))
         refine KO Z (K1 (k:=((k43:Int)+y59).toNat) Z Z ((Int.toNat_of_nonneg c68).symm) NF Ny (Nw hx70).1) Z ?_
         refine TD.run ax [10] Z Z (KO Z (Ex.sub Z Z c74) Z ?_)
         refine TD.br ?_ ?_
         ·refine Mg Z .u (Mo (cs := [jI x69]) 0 0 Z Nz Z (fun _ _ h=>h.2.2.1) Z) Z [1] Z (Lw Z .u (.fn Tryz.call208 Z) (oQ (32 - y59) _ hx76) rT Z [1] (Z) (KO Z (Ex.add Z Z c77) Z (KO Z (Ex.rem Z Z QG c78) Z ?_)))
          refine KO Z (K1 (k:=((k43:Int)+y59).toNat) Z Z ((Int.toNat_of_nonneg c68).symm) NF Ny (Nw hx70).1) Z ?_
          refine TD.unf 0 Z (LM [0,0] Z (TD.stE (k:=((k43:Int)+y59).toNat) (u:=x69) (u':=((x69+x75) % 2)) 0 0 Z .u Z Z Ny Z hx70 Z Z Z Z (fun _ _ _ _ h=>by subst h; rfl) [1] (Z) (LM [0,0] Z ?_)))
          rw[show y56.length=(y56.set (((k43:Int)+y59).toNat) ((x69+x75) % 2)).length from (List.length_set ..).symm]
          exact TD.nil (L5 [0,0] ⟨Z,Z⟩ QJ QJ)
         refine Lw Z .u (.fn Tryz.call208 Z) (oQ (32 - y59) _ hx76) rT Z [1] (Z) (Mg Z .u (Mo (cs := [jI x69]) 0 0 Z Nz Z (fun _ _ h=>h.2.2.1) Z) Z [1] Z (KO Z (Ex.add Z Z c77) Z (KO Z (Ex.rem Z Z QG c78) Z ?_)))
         refine KO Z (K1 (k:=((k43:Int)+y59).toNat) Z Z ((Int.toNat_of_nonneg c68).symm) NF Ny (Nw hx70).1) Z ?_
         refine TD.unf 0 Z (LM [0,0] Z (TD.stE (k:=((k43:Int)+y59).toNat) (u:=x69) (u':=((x69+x75) % 2)) 0 0 Z .u Z Z Ny Z hx70 Z Z Z Z (fun _ _ _ _ h=>by subst h; rfl) [1] (Z) (LM [0,0] Z ?_)))
         rw[show y56.length=(y56.set (((k43:Int)+y59).toNat) ((x69+x75) % 2)).length from (List.length_set ..).symm]
         exact TD.nil (L5 [0,0] ⟨Z,Z⟩ QJ QJ)
        rintro _ _ ⟨rfl,rfl⟩
        refine K4 (X.seq (T.region Z ?_))
        obtain⟨c79,h⟩:=ao h
        exact KF ax 1 Z (KH Z (Ex.add Z Z c79) Z (KF ax 1 Z (TL.nil (X.back (m':=m63) [0,0] QG ⟨(y56.set (((k43:Int)+y59).toNat) ((x69+x75) % 2)),(some ⟨gz71,oz71,none⟩),c58,(y59+1),Z,Z,h⟩ QJ QJ))))
       refine K9 Z c67 ?_
       obtain rfl:=Nq h
       replace h:=hO62
       clear hO62
       refine T.exit (KZ (KZ (Lu (K4 (X.seq (T.region Z ?_))))))
       obtain⟨c80,h⟩:=ao h
       exact KF ax 1 Z (KH Z (Ex.add Z Z c80) Z (KF ax 1 Z (TL.nil (X.back (m':=m47) [0,0] QG ⟨y56,A57,c58,k43+1,Z,Z,h⟩ QJ QJ))))
     refine K9 Z c55 (T.skip (K4 (X.seq (T.region Z ?_))))
     obtain⟨c86,h⟩:=ao h
     exact KF ax 1 Z (KH Z (Ex.add Z Z c86) Z (KF ax 1 Z (TL.nil (X.unf 0 Z (LC [0,0] Z (X.back (m':=m47) [0,0] QG ⟨y40,(some ⟨gz54,oz54,none⟩),c42,k43+1,Z,Z,h⟩ QJ QJ))))))
    refine K9 Z c51 ?_
    obtain rfl:=Nq h
    replace h:=hO46
    clear hO46
    refine T.exit (KZ (KZ (Lu (X.seq (KG Z (KP ax Z (T.seq (KG Z (KP ax Z (T.block ?_))))))))))
    obtain⟨E89,hE90,hO91⟩:=Np h
    refine Lv (fun m e Rs=> ∃ (y87:Int) (y88:Int),e = [(2,.int .u32 0),(3,jI (8*(a0.length:Int))),(4,.slice A41 y40.length c42),(9,.int .u32 y87),(10,jI y88)]∧Rs = [bU 3 1 fh (.slice A41 y40.length c42) y40,aK]∧fz a0 y40 m y87 y88=some E89) (((31:Int) - (-1)).toNat+1) [0,0] ⟨0,31,Z,Z,by exact hE90⟩ QJ QJ ?_
    clear hE90 h
    rintro m92 _ _ ⟨y87,y88,rfl,rfl,h⟩
    cases m92 with
    | zero =>
     rw[fz] at h
     cases h
    | succ m92 =>
     rw[fz] at h
     refine T.seq (KG Z (KF ax 2 Z ?_))
     rcases jF h with⟨c96,h⟩ | ⟨c96,h⟩
     ·refine La Z c96 (K3 (T.seq (T.block (T.region Z (KF ax 1 Z (KH Z (Ex.mulw Z Z) Z ?_))))))
      obtain⟨c97,h⟩:=ao h
      refine KF ax 3 Z (KH Z (Ex.add Z Z c97) Z ?_)
      obtain⟨c98,h⟩:=ao h
      obtain⟨x99,hx100,h⟩:=Np h
      refine MB (E:=fh) (k:=((8*(a0.length:Int))+y88).toNat) 0 Z (fun w G h=>cm QH w G h) QH hx100 ?_
      rintro gz101 oz101 _ ⟨⟩ _ ⟨_,_,rfl⟩
      refine Lt [0,0] Z ?_
      refine KH Z (K1 (k:=((8*(a0.length:Int))+y88).toNat) Z Z ((Int.toNat_of_nonneg c98).symm) NF Ny (Nw hx100).1) Z ?_
      refine KH Z (Mo (cs := [jI x99]) 0 0 Z Nz Z (fun _ _ h=>h.2.2.1) Z) Z ?_
      obtain⟨c102,h⟩:=ao h
      refine KH Z (Ex.sub Z Z c102) Z (KH Z (Mr Z OP OJ) Z (KH Z (Ex.addw Z Z) Z (KF ax 1 Z (TL.nil (K4 (X.seq (T.region Z ?_)))))))
      obtain⟨c103,h⟩:=ao h
      exact KF ax 1 Z (KH Z (Ex.sub Z Z c103) Z (KF ax 1 Z (TL.nil (X.unf 0 Z (LC [0,0] Z (X.back (m':=m92) [0,0] QG ⟨(IntKind.u32.wrap ((IntKind.u32.wrap (y87*2))+(IntKind.u32.wrap (1 - x99)))),(y88 - 1),Z,Z,h⟩ QJ QJ))))))
     refine K9 Z c96 ?_
     obtain rfl:=Nq h
     replace h:=hO91
     clear hO91
     refine T.exit (KZ (KZ (Lu (X.seq (KG Z (KF ax 2 Z ?_))))))
     obtain rfl:=Nq h
     exact KI (T.ret (KQ [1] Tryz.results165 (KJ Z)))
def uh:fg := [(23,0,0),(23,1,1),(212,0,0),(212,1,2),(212,2,3),(245,0,0),(245,1,1)]
theorem aB:(uh).OK Tryz.prog:=⟨FOK.mk NS rfl N5 rfl,FOK.mk NS rfl NZ rfl,FOK.mk N9 rfl ND rfl,FOK.mk N9 rfl Ny rfl,FOK.mk N9 rfl Ny rfl,FOK.mk OT rfl NZ rfl,FOK.mk OT rfl ND rfl,trivial⟩
theorem nS:Tryz.prog.follows .mixedOrders=true:=by kernel_rfl
theorem qq:BOK Tryz.prog 23 #[.bool false,.string ⟨#[]⟩] [(0,1),(1,1)]:=BOK.mk Tryz.zeroValue23 NS (by intro w; simp)
theorem fA:fu Tryz.prog 3 245 [.string,.bool,.string] true:=(fu.struct PX Or rfl Tryz.underlying245 Tryz.stoodInHeld245 ⟨by decide,rfl,[.string],[.bool,.string],false,rfl,((LK N4 NZ Tryz.underlying9).mono QH),⟨by decide,rfl,[.bool,.string],[],true,rfl,(fu.struct N0 ND rfl Tryz.underlying23 Tryz.stoodInHeld23 ⟨by decide,rfl,[.bool],[.string],false,rfl,(LK Ok N5 Tryz.underlying4),⟨by decide,rfl,[.string],[],false,rfl,(LK N4 NZ Tryz.underlying9),rfl⟩⟩),rfl⟩⟩)
def ek (a0:List Hd):Nat→Bool→Nat→Option (Lp Bool (Bool×Nat))
 | 0,_,_=>none
 | m8+1,y3,k4=>if (k4:Int)<(a0.length:Int) then ((a0[k4]?).bind fun x13=>if x13.MV.null=true then (if x13.MV.data = [] then (if -9223372036854775808≤((k4:Int)+1)∧((k4:Int)+1)≤9223372036854775807 then (ek a0 m8 y3 (k4+1)) else none) else some (Lp.ret false)) else (if -9223372036854775808≤((k4:Int)+1)∧((k4:Int)+1)≤9223372036854775807 then (ek a0 m8 y3 (k4+1)) else none)) else (some (Lp.go (y3,k4)))
def lS (a0:List Hd):Option (Bool):=(ek a0 (((a0.length:Int)).toNat+1) false 0).bind fun e=>match e with | .ret r=>some r | .go (y20,k21)=>some true
theorem ui (a0:List Hd) (A1:Option Addr) (c2:Nat) (r:Bool) (h:lS a0=some r):aH Tryz.prog 222 #[.slice A1 a0.length c2] (RX.of (aq 3 dq) [.slice A1 a0.length c2] a0) (aK) (fun v A' N=>v= .bool r∧A'=aK∧N = []):=by
 refine aU Tryz.func222 Z Tryz.ntmps222 Z ?_
 intro F w hX
 unfold lS at h
 refine KG Z (KP aB Z (T.seq (KG Z (KP aB Z (T.block ?_)))))
 obtain⟨E5,hE6,hO7⟩:=Np h
 refine Lv (fun m e Rs=> ∃ (y3:Bool) (k4:Nat),e = [(0,.slice A1 a0.length c2),(2,.bool y3),(3,jI (k4:Int))]∧Rs = [aK]∧ek a0 m y3 k4=some E5) (((a0.length:Int)).toNat+1) [0] ⟨false,0,Z,Z,by exact hE6⟩ QJ QJ ?_
 clear hE6 h
 rintro m8 _ _ ⟨y3,k4,rfl,rfl,h⟩
 cases m8 with
 | zero =>
  rw[ek] at h
  cases h
 | succ m8 =>
  rw[ek] at h
  refine T.seq (KG Z (KF aB 2 Z (KH Z (KX Z N3) Z (KF aB 1 Z ?_))))
  rcases jF h with⟨c12,h⟩ | ⟨c12,h⟩
  ·refine La Z c12 (K3 (T.seq (T.block (KG Z ?_))))
   obtain⟨x13,hx14,h⟩:=Np h
   obtain⟨gz15,oz15,rfl,z15cs,z15cl,z15cc,z15nf,z15r⟩:=Lf QH hX hx14
   obtain⟨z15S,z15r,z15rr⟩:=z15r
   obtain rfl:z15cs=(wL3 x13):=z15r
   refine KF aB 2 Z ?_
   refine KH Z (K1 (k:=k4) Z Z Z N3 Or (Nw hx14).1) Z ?_
   refine KF aB 2 Z (KH Z (Ln 1 Z Ok z15nf z15cc Z Z) Z ?_)
   rcases jF h with⟨c16,h⟩ | ⟨c16,h⟩
   ·refine KF aB 1 Z (KN 16 Z c16 (KM aB 2 Z ?_))
    refine TL.q Z (.g Z Z Z) (K1 (k:=k4) Z Z Z N3 Or (Nw hx14).1) Z ?_
    refine KM aB 2 Z (TL.q Z (.g Z Z Z) (Ln 2 Z N4 z15nf z15cc Z Z) Z (TL.q Z (.g Z Z Z) (Mv Z (m := []) Z) Z (KM aB 1 Z ?_)))
    rcases jF h with⟨c17,h⟩ | ⟨c17,h⟩
    ·refine Lj Z c17 (T.skip (K4 (X.seq (T.region Z ?_))))
     obtain⟨c18,h⟩:=ao h
     exact KF aB 1 Z (KH Z (Ex.add Z Z c18) Z (KF aB 1 Z (TL.nil (X.back (m':=m8) [0] QG ⟨y3,k4+1,Z,Z,h⟩ QJ QJ))))
    refine Li Z c17 (KG Z (KF aB 1 Z ?_))
    obtain rfl:=Nq h
    obtain rfl:=Nq hO7
    exact KI (T.ret (KU (KL (KL (KU (KL (KQ [0] Tryz.results222 (KJ Z))))))))
   replace c16:=Nx c16
   refine KF aB 1 Z (KN 16 Z c16 (Lq aB Z (Lb Z Z (T.skip (K4 (X.seq (T.region Z ?_)))))))
   obtain⟨c19,h⟩:=ao h
   exact KF aB 1 Z (KH Z (Ex.add Z Z c19) Z (KF aB 1 Z (TL.nil (X.back (m':=m8) [0] QG ⟨y3,k4+1,Z,Z,h⟩ QJ QJ))))
  refine K9 Z c12 ?_
  obtain rfl:=Nq h
  replace h:=hO7
  clear hO7
  refine T.exit (KZ (KZ (Lu (X.seq (KG Z (KF aB 1 Z ?_))))))
  obtain rfl:=Nq h
  exact KI (T.ret (KQ [0] Tryz.results222 (KJ Z)))
def km (a0:Int):Option (List UInt8):=(Av a0).bind fun x1=>(EE x1).bind fun x3=>some x3
theorem fS (a0:Int) (r:List UInt8) (h:km a0=some r):aH Tryz.prog 203 #[jI a0] .triv (aK) (fun v A' N=>v=jS r∧A'=aK∧N = []):=by
 refine aU Tryz.func203 Z Tryz.ntmps203 Z ?_
 intro F w hX
 unfold km at h
 refine KG Z (K8 aB Z Z ?_)
 obtain⟨x1,hx2,h⟩:=Np h
 refine KF aB 1 Z (K2 Z .u (.fn Tryz.call227 Z) (LB (fun w=>BP a0 _ hx2 w)) (fun _ _=>Lk _ _) Z ?_)
 obtain⟨x3,hx4,h⟩:=Np h
 refine K2 Z .u (.fn Tryz.call226 Z) (Dy x1 _ hx4) rT Z (KF aB 1 Z ?_)
 obtain rfl:=Nq h
 exact KI (T.ret (KQ [0] Tryz.results203 (KJ Z)))
def eY (a0:List Hd):Nat→List UInt8→Nat→Option (List UInt8×Nat)
 | 0,_,_=>none
 | m10+1,y5,k6=>if (k6:Int)<(a0.length:Int) then ((a0[k6]?).bind fun x15=>(ll (⟨false,x15.M4⟩:Bl)).bind fun x18=>if y5.length+x18.length≤9223372036854775807 then ((ll x15.MV).bind fun x21=>if (y5++x18).length+x21.length≤9223372036854775807 then (if -9223372036854775808≤((k6:Int)+1)∧((k6:Int)+1)≤9223372036854775807 then (eY a0 m10 ((y5++x18)++x21) (k6+1)) else none) else none) else none) else some (y5,k6)
def lT (a0:List Hd):Option (List UInt8):=(km (a0.length:Int)).bind fun x3=>(eY a0 (((a0.length:Int)).toNat+1) x3 0).bind fun (y25,k26)=>some y25
theorem fN (a0:List Hd) (A1:Option Addr) (c2:Nat) (r:List UInt8) (h:lT a0=some r):aH Tryz.prog 205 #[.slice A1 a0.length c2] (RX.of (aq 3 dq) [.slice A1 a0.length c2] a0) (aK) (fun v A' N=>v=jS r∧A'=aK∧N = []):=by
 refine aU Tryz.func205 Z Tryz.ntmps205 Z ?_
 intro F w hX
 unfold lT at h
 refine KG Z (K8 aB Z Z (KF aB 1 Z (KH Z (KX Z N3) Z ?_)))
 obtain⟨x3,hx4,h⟩:=Np h
 refine K2 Z .u (.fn Tryz.call203 Z) (fS (a0.length:Int) _ hx4) rT Z (KP aB Z (T.seq (KG Z (KP aB Z (T.block ?_)))))
 obtain⟨E7,hE8,hO9⟩:=Np h
 refine Lv (fun m e Rs=> ∃ (y5:List UInt8) (k6:Nat),e = [(0,.slice A1 a0.length c2),(2,.string ⟨#[]⟩),(3,jS y5),(4,jI (k6:Int))]∧Rs = [aK]∧eY a0 m y5 k6=some E7) (((a0.length:Int)).toNat+1) [0] ⟨x3,0,Z,Z,by exact hE8⟩ QJ QJ ?_
 clear hE8 h
 rintro m10 _ _ ⟨y5,k6,rfl,rfl,h⟩
 cases m10 with
 | zero =>
  rw[eY] at h
  cases h
 | succ m10 =>
  rw[eY] at h
  refine T.seq (KG Z (KF aB 2 Z (KH Z (KX Z N3) Z (KF aB 1 Z ?_))))
  rcases jF h with⟨c14,h⟩ | ⟨c14,h⟩
  ·refine La Z c14 ?_
   refine K3 (T.seq (T.block (Lm (.q 0 (.q 1 (.q 2 (.q 3 (.q 4 (.q 5 (.q 6 (.q 9 (.q 10 (.q 11 (.q 12 (.q 13 (.e 7 (.q 8 (.e 14 (.q 15 (.q 16 .nil))))))))))))))))) [0] Z nS (NoP.blk (NoP.seq (NoP.seq (NoP.blk (NoP.seq bu))))) QI ?_)))
   obtain⟨x15,hx16,h⟩:=Np h
   obtain⟨gz17,oz17,rfl,z17cs,z17cl,z17cc,z17nf,z17r⟩:=Lf QH hX hx16
   obtain⟨z17S,z17r,z17rr⟩:=z17r
   obtain rfl:z17cs=(wL3 x15):=z17r
   refine TD.run aB [0,1,2] Z Z ?_
   refine KO Z (K1 (k:=k6) Z Z Z N3 Or (Nw hx16).1) Z ?_
   refine TD.run aB [4] Z Z (KO Z (Ln 0 Z N4 z17nf z17cc Z Z) Z ?_)
   refine KO Z (Ld (cells:= #[.bool false,jS x15.M4]) qq Z QI) Z ?_
   refine TD.run aB [9,10] Z Z ?_
   refine KO Z (K1 (k:=k6) Z Z Z N3 Or (Nw hx16).1) Z ?_
   refine TD.run aB [12] Z Z (KO Z (LI (us:=wL6 x15.MV) 1 Z N0 ND z17nf z17cc Z Z Z) Z ?_)
   obtain⟨x18,hx19,h⟩:=Np h
   refine Lw Z .u (.fn Tryz.call204 Z) (du (⟨false,x15.M4⟩:Bl) _ hx19) rT Z [0] (Z) ?_
   obtain⟨c20,h⟩:=ao h
   refine KO Z (Lh Z Z c20) Z ?_
   obtain⟨x21,hx22,h⟩:=Np h
   refine Lw Z .u (.fn Tryz.call204 Z) (du x15.MV _ hx22) rT Z [0] (Z) ?_
   obtain⟨c23,h⟩:=ao h
   refine KO Z (Lh Z Z c23) Z (TD.run aB [16] Z Z (TD.nil (K4 (X.seq (T.region Z ?_)))))
   obtain⟨c24,h⟩:=ao h
   exact KF aB 1 Z (KH Z (Ex.add Z Z c24) Z (KF aB 1 Z (TL.nil (X.back (m':=m10) [0] QG ⟨((y5++x18)++x21),k6+1,Z,Z,h⟩ QJ QJ))))
  refine K9 Z c14 ?_
  obtain rfl:=Nq h
  replace h:=hO9
  clear hO9
  refine T.exit (KZ (KZ (Lu (X.seq (KG Z (KF aB 2 Z ?_))))))
  obtain rfl:=Nq h
  exact KI (T.ret (KQ [0] Tryz.results205 (KJ Z)))
def fF (a0:List Hd) (a1:List Hd):Nat→Bool→Nat→Option (Lp Bool (Bool×Nat))
 | 0,_,_=>none
 | m11+1,y6,k7=>if (k7:Int)<(a0.length:Int) then ((a0[k7]?).bind fun x16=>(a1[k7]?).bind fun x19=>if x16.M4=x19.M4 then (if x16.MV.null=x19.MV.null then (if x16.MV.data=x19.MV.data then (if -9223372036854775808≤((k7:Int)+1)∧((k7:Int)+1)≤9223372036854775807 then (fF a0 a1 m11 y6 (k7+1)) else none) else some (Lp.ret false)) else some (Lp.ret false)) else some (Lp.ret false)) else (some (Lp.go (y6,k7)))
def ne (a0:List Hd) (a1:List Hd):Option (Bool):=if (a0.length:Int)=(a1.length:Int) then ((fF a0 a1 (((a0.length:Int)).toNat+1) false 0).bind fun e=>match e with | .ret r=>some r | .go (y26,k27)=>some true) else some false
theorem vQ (a0:List Hd) (A1:Option Addr) (c2:Nat) (a1:List Hd) (A3:Option Addr) (c4:Nat) (r:Bool) (h:ne a0 a1=some r):aH Tryz.prog 228 #[.slice A1 a0.length c2,.slice A3 a1.length c4] (RX.and (RX.of (aq 3 dq) [.slice A1 a0.length c2] a0) (RX.of (aq 3 dq) [.slice A3 a1.length c4] a1)) (aK) (fun v A' N=>v= .bool r∧A'=aK∧N = []):=by
 refine aU Tryz.func228 Z Tryz.ntmps228 Z ?_
 intro F w hX
 unfold ne at h
 refine KG Z (KP aB Z (T.seq (KG Z (KF aB 1 Z (KH Z (KX Z N3) Z (KF aB 1 Z (KH Z (KX Z N3) Z (KF aB 1 Z ?_))))))))
 rcases jF h with⟨c5,h⟩ | ⟨c5,h⟩
 ·refine Lj Z c5 (K3 (T.seq (KG Z (KP aB Z (T.block ?_)))))
  obtain⟨E8,hE9,hO10⟩:=Np h
  refine Lv (fun m e Rs=> ∃ (y6:Bool) (k7:Nat),e = [(0,.slice A1 a0.length c2),(1,.slice A3 a1.length c4),(4,.bool y6),(5,jI (k7:Int))]∧Rs = [aK]∧fF a0 a1 m y6 k7=some E8) (((a0.length:Int)).toNat+1) [0] ⟨false,0,Z,Z,by exact hE9⟩ QJ QJ ?_
  clear hE9 h
  rintro m11 _ _ ⟨y6,k7,rfl,rfl,h⟩
  cases m11 with
  | zero =>
   rw[fF] at h
   cases h
  | succ m11 =>
   rw[fF] at h
   refine T.seq (KG Z (KF aB 2 Z (KH Z (KX Z N3) Z (KF aB 1 Z ?_))))
   rcases jF h with⟨c15,h⟩ | ⟨c15,h⟩
   ·refine La Z c15 ?_
    refine K3 (T.seq (T.block (T.seq (Lm (.q 0 (.q 1 (.q 2 (.q 3 (.q 4 (.q 5 (.q 6 (.q 7 (.q 8 .nil))))))))) [0] Z nS (NoP.seq (NoP.blk (NoP.seq (NoP.seq (NoP.blk (NoP.seq bu)))))) QI ?_))))
    obtain⟨x16,hx17,h⟩:=Np h
    obtain⟨gz18,oz18,rfl,z18cs,z18cl,z18cc,z18nf,z18r⟩:=Lf QH (Ll hX) hx17
    obtain⟨z18S,z18r,z18rr⟩:=z18r
    obtain rfl:z18cs=(wL3 x16):=z18r
    refine TD.run aB [0,1] Z Z ?_
    refine KO Z (K1 (k:=k7) Z Z Z N3 Or (Nw hx17).1) Z ?_
    refine KO Z (LI (us:=wL3 x16) 0 Z PX Or z18nf z18cc Z Z Z) Z ?_
    obtain⟨x19,hx20,h⟩:=Np h
    obtain⟨gz21,oz21,rfl,z21cs,z21cl,z21cc,z21nf,z21r⟩:=Lf QH (K6 hX) hx20
    obtain⟨z21S,z21r,z21rr⟩:=z21r
    obtain rfl:z21cs=(wL3 x19):=z21r
    refine TD.run aB [4,5] Z Z ?_
    refine KO Z (K1 (k:=k7) Z Z Z N3 Or (Nw hx20).1) Z ?_
    refine KO Z (LI (us:=wL3 x19) 0 Z PX Or z21nf z21cc Z Z Z) Z ?_
    rcases jF h with⟨c22,h⟩ | ⟨c22,h⟩
    ·rcases jF h with⟨c23,h⟩ | ⟨c23,h⟩
     ·rcases jF h with⟨c24,h⟩ | ⟨c24,h⟩
      ·refine KO Z (MA (us:=wL3 x16) (vs:=wL3 x19) fA Z P2 Z Z Z Z (bE (gj (l:=x16.M4) (m:=x19.M4) c22) (bE (jX c23) (bE (gj (l:=x16.MV.data) (m:=x19.MV.data) c24) Z)))) Z (LF (Lb Z Z (T.skip (K4 (X.seq (T.region Z ?_))))))
       obtain⟨c25,h⟩:=ao h
       exact KF aB 1 Z (KH Z (Ex.add Z Z c25) Z (KF aB 1 Z (TL.nil (X.back (m':=m11) [0] QG ⟨y6,k7+1,Z,Z,h⟩ QJ QJ))))
      refine KO Z (MA (us:=wL3 x16) (vs:=wL3 x19) fA Z P2 Z Z Z Z (bE (gj (l:=x16.M4) (m:=x19.M4) c22) (bE (jX c23) (eK (mj (l:=x16.MV.data) (m:=x19.MV.data) c24))))) Z (LF (KV Z Z (KG Z (KF aB 1 Z ?_))))
      obtain rfl:=Nq h
      obtain rfl:=Nq hO10
      exact KI (T.ret (KU (KL (KL (KU (KL (KQ [0] P3 (KJ Z))))))))
     refine KO Z (MA (us:=wL3 x16) (vs:=wL3 x19) fA Z P2 Z Z Z Z (bE (gj (l:=x16.M4) (m:=x19.M4) c22) (eK (nb c23)))) Z (LF (KV Z Z (KG Z (KF aB 1 Z ?_))))
     obtain rfl:=Nq h
     obtain rfl:=Nq hO10
     exact KI (T.ret (KU (KL (KL (KU (KL (KQ [0] P3 (KJ Z))))))))
    refine KO Z (MA (us:=wL3 x16) (vs:=wL3 x19) fA Z P2 Z Z Z Z (eK (mj (l:=x16.M4) (m:=x19.M4) c22))) Z (LF (KV Z Z (KG Z (KF aB 1 Z ?_))))
    obtain rfl:=Nq h
    obtain rfl:=Nq hO10
    exact KI (T.ret (KU (KL (KL (KU (KL (KQ [0] P3 (KJ Z))))))))
   refine K9 Z c15 ?_
   obtain rfl:=Nq h
   replace h:=hO10
   clear hO10
   refine T.exit (KZ (KZ (Lu (X.seq (KG Z (KF aB 1 Z ?_))))))
   obtain rfl:=Nq h
   exact KI (T.ret (KQ [0] P3 (KJ Z)))
 refine Li Z c5 (KG Z (KF aB 1 Z ?_))
 obtain rfl:=Nq h
 exact KI (T.ret (KL (KQ [0] P3 (KJ Z))))
def uj:fg := [(23,0,0),(23,1,1),(91,0,0),(91,1,1),(91,2,2),(91,3,4),(91,4,6),(212,0,0),(212,1,2),(212,2,3),(310,1,7)]
theorem ay:(uj).OK Tryz.prog:=⟨FOK.mk NS rfl N5 rfl,FOK.mk NS rfl NZ rfl,FOK.mk NU rfl Ny rfl,FOK.mk NU rfl Ny rfl,FOK.mk NU rfl ND rfl,FOK.mk NU rfl ND rfl,FOK.mk NU rfl Ps rfl,FOK.mk N9 rfl ND rfl,FOK.mk N9 rfl Ny rfl,FOK.mk N9 rfl Ny rfl,FOK.mk PQ rfl Ny rfl,trivial⟩
def uk:List Nat := [3,4,9,89]
theorem bC:NOK Tryz.prog uk:=⟨Nz,Ok,N4,Qb,trivial⟩
theorem sY:Tryz.prog.follows .mixedOrders=true:=by kernel_rfl
theorem dA:SOK Tryz.prog 72 5 1 1 #[.int .u8 0]:=SOK.mk Pe Tryz.sizeOf5 Tryz.zeroValue5 QH QI
theorem dO:fu Tryz.prog 2 23 [.bool,.string] true:=(fu.struct N0 ND rfl Tryz.underlying23 Tryz.stoodInHeld23 ⟨by decide,rfl,[.bool],[.string],false,rfl,(LK Ok N5 Tryz.underlying4),⟨by decide,rfl,[.string],[],false,rfl,(LK N4 NZ Tryz.underlying9),rfl⟩⟩)
def mO (a0:Bl):Option (Bool):=if a0.null=true then (if a0.data = [] then some false else some true) else some false
theorem qr (a0:Bl) (r:Bool) (h:mO a0=some r):aH Tryz.prog 221 #[.agg (wA7 a0)] .triv (aK) (fun v A' N=>v= .bool r∧A'=aK∧N = []):=by
 refine aU Tryz.func221 Z Tryz.ntmps221 Z ?_
 intro F w hX
 unfold mO at h
 refine KG Z (TL.box Z .u Z Z (fun b1=>(K8 ay Z Z ?_)))
 rcases jF h with⟨c2,h⟩ | ⟨c2,h⟩
 ·refine KK ay bC 0 Z 3 Z Z (KN 5 Z c2 (KK ay bC 0 Z 2 Z Z (TL.q Z (.g Z Z Z) (Mv Z (m := []) Z) Z (KM ay 2 Z ?_))))
  rcases jF h with⟨c3,h⟩ | ⟨c3,h⟩
  ·obtain rfl:=Nq h
   exact KI (T.ret (Le [1] Tryz.results221 (KJ (v:= .bool false) (congrArg (fun b=>some (Value.bool b)) (bf (Nt c3)))) ⟨Z,Z,Z⟩ QJ (.inl Z)))
  obtain rfl:=Nq h
  exact KI (T.ret (Le [1] Tryz.results221 (KJ (v:= .bool true) (congrArg (fun b=>some (Value.bool b)) (bG (Nu c3)))) ⟨Z,Z,Z⟩ QJ (.inl Z)))
 replace c2:=Nx c2
 refine KK ay bC 0 Z 3 Z Z (KN 5 Z c2 (KM ay 5 Z ?_))
 obtain rfl:=Nq h
 exact KI (T.ret (KQ [1] Tryz.results221 (KJ Z)))
def kn (a0:Rec):Option (Int):=if a0.M1<0 then some 11 else (if a0.M1>2147483647 then some 11 else ((mO a0.M4).bind fun x6=>if x6=true then some 4 else ((mO a0.MV).bind fun x9=>if x9=true then some 4 else ((lS a0.MU).bind fun x12=>if x12=true then some 0 else some 4))))
theorem oT (a0:Rec) (A1:Option Addr) (c2:Nat) (r:Int) (h:kn a0=some r):aH Tryz.prog 200 #[.agg (wA2 a0 A1 c2)] (RX.of (aq 3 dq) [.slice A1 a0.MU.length c2] a0.MU) (aK) (fun v A' N=>v=jI r∧A'=aK∧N = []):=by
 refine aU Tryz.func200 Z Tryz.ntmps200 Z ?_
 intro F w hX
 unfold kn at h
 refine KG Z (TL.box Z .u Z Z (fun b3=>(KP ay Z (T.seq (KG Z ?_)))))
 rcases jF h with⟨c4,h⟩ | ⟨c4,h⟩
 ·refine KK ay bC 0 Z 4 Z Z (KN 6 Z (Nt c4) (Lq ay Z (KV Z Z (KG Z (KF ay 1 Z ?_)))))
  obtain rfl:=Nq h
  exact KI (T.ret (KL (KQ [1] PH (KJ Z))))
 refine KK ay bC 0 Z 4 Z Z (KN 6 Z (Nu c4) (KK ay bC 0 Z 4 Z Z ?_))
 rcases jF h with⟨c5,h⟩ | ⟨c5,h⟩
 ·refine La Z c5 (KG Z (KF ay 1 Z ?_))
  obtain rfl:=Nq h
  exact KI (T.ret (KL (KQ [1] PH (KJ Z))))
 refine K9 Z c5 (K3 (T.seq (KG Z (KF ay 1 Z (KH Z (KY (us:=wL6 a0.M4) 0 Z N0 ND Z Z Z) Z ?_)))))
 obtain⟨x6,hx7,h⟩:=Np h
 refine K2 Z .u (.fn Tryz.call221 Z) (qr a0.M4 _ hx7) rT Z ?_
 rcases jF h with⟨c8,h⟩ | ⟨c8,h⟩
 ·refine KF ay 1 Z (KN 14 Z c8 (Lq ay Z (KV Z Z (KG Z (KF ay 1 Z ?_)))))
  obtain rfl:=Nq h
  exact KI (T.ret (KL (KQ [1] PH (KJ Z))))
 replace c8:=Nx c8
 refine KF ay 1 Z (KN 14 Z c8 (KM ay 1 Z (TL.q Z (.g Z Z Z) (KY (us:=wL6 a0.MV) 0 Z N0 ND Z Z Z) Z ?_)))
 obtain⟨x9,hx10,h⟩:=Np h
 refine K2 Z (.g Z Z Z) (.fn Tryz.call221 Z) (qr a0.MV _ hx10) rT Z ?_
 rcases jF h with⟨c11,h⟩ | ⟨c11,h⟩
 ·refine KM ay 2 Z (KN 19 Z c11 (Lq ay Z (KV Z Z (KG Z (KF ay 1 Z ?_)))))
  obtain rfl:=Nq h
  exact KI (T.ret (KL (KQ [1] PH (KJ Z))))
 replace c11:=Nx c11
 refine KM ay 2 Z (KN 19 Z c11 ?_)
 obtain⟨x12,hx13,h⟩:=Np h
 refine KK ay bC 0 Z 2 Z Z (K2 Z (.g Z Z Z) (.fn Tryz.call222 Z) (ui a0.MU _ _ _ hx13) (fun _ hs=>(K0 hs hX)) Z (KM ay 2 Z ?_))
 rcases jF h with⟨c14,h⟩ | ⟨c14,h⟩
 ·refine KI (Lb Z (bf c14) (Lg Z (KF ay 1 Z ?_)))
  obtain rfl:=Nq h
  exact KI (T.ret (KQ [1] PH (KJ Z)))
 replace c14:=Nx c14
 refine KI (KV Z (bG c14) (KG Z (KF ay 1 Z ?_)))
 obtain rfl:=Nq h
 exact KI (T.ret (KL (KQ [1] PH (KJ Z))))
def lU (a0:Rec):Option (List UInt8):=(km a0.Nb).bind fun x5=>if (rl [0]).length+x5.length≤9223372036854775807 then ((km a0.M1).bind fun x8=>if ((rl [0])++x5).length+x8.length≤9223372036854775807 then ((ll a0.M4).bind fun x11=>if (((rl [0])++x5)++x8).length+x11.length≤9223372036854775807 then ((ll a0.MV).bind fun x14=>if ((((rl [0])++x5)++x8)++x11).length+x14.length≤9223372036854775807 then ((lT a0.MU).bind fun x17=>if (((((rl [0])++x5)++x8)++x11)++x14).length+x17.length≤9223372036854775807 then ((km (((((((rl [0])++x5)++x8)++x11)++x14)++x17).length:Int)).bind fun x20=>if x20.length+((((((rl [0])++x5)++x8)++x11)++x14)++x17).length≤9223372036854775807 then (some (x20++((((((rl [0])++x5)++x8)++x11)++x14)++x17))) else none) else none) else none) else none) else none) else none
theorem ul (a0:Rec) (A1:Option Addr) (c2:Nat) (r:List UInt8) (h:lU a0=some r):aH Tryz.prog 162 #[.agg (wA2 a0 A1 c2)] (RX.of (aq 3 dq) [.slice A1 a0.MU.length c2] a0.MU) (aK) (fun v A' N=>v=jS r∧A'=aK∧N = []):=by
 refine aU Tryz.func162 Z Tryz.ntmps162 Z ?_
 intro F w hX
 unfold lU at h
 refine KG Z (TL.box Z .u Z Z (fun b3=>(KF ay 1 Z ?_)))
 obtain⟨x5,hx6,h⟩:=Np h
 obtain⟨c7,h⟩:=ao h
 obtain⟨x8,hx9,h⟩:=Np h
 obtain⟨c10,h⟩:=ao h
 obtain⟨x11,hx12,h⟩:=Np h
 obtain⟨c13,h⟩:=ao h
 obtain⟨x14,hx15,h⟩:=Np h
 obtain⟨c16,h⟩:=ao h
 obtain⟨x17,hx18,h⟩:=Np h
 obtain⟨c19,h⟩:=ao h
 refine KI (T.seq ?_)
 refine Ml (fun e Rs=> ∃ (b4:Nat),e = [(0,.agg (wA2 a0 A1 c2)),(2,.string ⟨#[]⟩),(3,.string (bsOf ((((((rl [0])++x5)++x8)++x11)++x14)++x17)))]∧Rs = [aW b4 5 #[.int .u8 0],aW b3 91 (wA2 a0 A1 c2),aK]) ?_ ?_
 ·refine Lm (.q 2 (.q 3 (.q 6 (.q 7 (.q 10 (.q 11 (.q 14 (.q 15 (.q 18 (.q 19 (.br 0 (.q 1 (.e 4 (.q 5 (.e 8 (.q 9 (.e 12 (.q 13 (.e 16 (.q 17 (.e 20 (.q 21 (.q 22 .nil)))))))))))) (.e 4 (.br 0 (.q 1 (.q 5 (.e 8 (.q 9 (.e 12 (.q 13 (.e 16 (.q 17 (.e 20 (.q 21 (.q 22 .nil))))))))))) (.e 8 (.br 0 (.q 1 (.q 5 (.q 9 (.e 12 (.q 13 (.e 16 (.q 17 (.e 20 (.q 21 (.q 22 .nil)))))))))) (.e 12 (.br 0 (.q 1 (.q 5 (.q 9 (.q 13 (.e 16 (.q 17 (.e 20 (.q 21 (.q 22 .nil))))))))) (.e 16 (.br 0 (.q 1 (.q 5 (.q 9 (.q 13 (.q 17 (.e 20 (.q 21 (.q 22 .nil)))))))) (.e 20 (.e 0 (.q 1 (.q 5 (.q 9 (.q 13 (.q 17 (.q 21 (.q 22 .nil)))))))))))))))))))))))))))) [0,0] Z sY sP QI ?_
  refine TD.run ay [2] Z Z (KO Z (K5 0 Z Nz Z Z) Z (TD.run ay [6] Z Z (KO Z (K5 0 Z Nz Z Z) Z (TD.run ay [10] Z Z (KO Z (KY (us:=wL6 a0.M4) 0 Z N0 ND Z Z Z) Z (TD.run ay [14] Z Z (KO Z (KY (us:=wL6 a0.MV) 0 Z N0 ND Z Z Z) Z ?_)))))))
  refine TD.run ay [18] Z Z (KO Z (K5 0 Z Qb Z Z) Z ?_)
  refine TD.br ?_ ?_
  ·refine Mu (cells:= #[.int .u8 0]) Z .u dA Z QJ Z [0,0,0] (fun _=>Z) (fun b4=>(KO Z (Mk (xs := [0]) 0 Z Z Z Z Pe NE O3) Z (Lw Z .u (.fn Tryz.call203 Z) (fS a0.Nb _ hx6) rT Z [0,0,0] (Z) (KO Z (Lh Z Z c7) Z (Lw Z .u (.fn Tryz.call203 Z) (fS a0.M1 _ hx9) rT Z [0,0,0] (Z) (KO Z (Lh Z Z c10) Z (Lw Z .u (.fn Tryz.call204 Z) (du a0.M4 _ hx12) rT Z [0,0,0] (Z) (KO Z (Lh Z Z c13) Z ?_))))))))
   exact Lw Z .u (.fn Tryz.call204 Z) (du a0.MV _ hx15) rT Z [0,0,0] (Z) (KO Z (Lh Z Z c16) Z (Lw Z .u (.fn Tryz.call205 Z) (fN a0.MU _ _ _ hx18) (fun _ hs=>(K0 hs hX)) Z [0,0,0] (Z) (KO Z (Lh Z Z c19) Z (TD.run ay [22] Z Z (TD.nil (L5 [0,0,0] ⟨b4,Z,Z⟩ QJ QJ))))))
  refine Lw Z .u (.fn Tryz.call203 Z) (fS a0.Nb _ hx6) rT Z [0,0] (Z) ?_
  refine TD.br ?_ ?_
  ·refine Mu (cells:= #[.int .u8 0]) Z .u dA Z QJ Z [0,0,0] (fun _=>Z) (fun b4=>(KO Z (Mk (xs := [0]) 0 Z Z Z Z Pe NE O3) Z (KO Z (Lh Z Z c7) Z (Lw Z .u (.fn Tryz.call203 Z) (fS a0.M1 _ hx9) rT Z [0,0,0] (Z) (KO Z (Lh Z Z c10) Z (Lw Z .u (.fn Tryz.call204 Z) (du a0.M4 _ hx12) rT Z [0,0,0] (Z) (KO Z (Lh Z Z c13) Z (Lw Z .u (.fn Tryz.call204 Z) (du a0.MV _ hx15) rT Z [0,0,0] (Z) ?_))))))))
   exact KO Z (Lh Z Z c16) Z (Lw Z .u (.fn Tryz.call205 Z) (fN a0.MU _ _ _ hx18) (fun _ hs=>(K0 hs hX)) Z [0,0,0] (Z) (KO Z (Lh Z Z c19) Z (TD.run ay [22] Z Z (TD.nil (L5 [0,0,0] ⟨b4,Z,Z⟩ QJ QJ)))))
  refine Lw Z .u (.fn Tryz.call203 Z) (fS a0.M1 _ hx9) rT Z [0,0] (Z) ?_
  refine TD.br ?_ ?_
  ·refine Mu (cells:= #[.int .u8 0]) Z .u dA Z QJ Z [0,0,0] (fun _=>Z) (fun b4=>(KO Z (Mk (xs := [0]) 0 Z Z Z Z Pe NE O3) Z (KO Z (Lh Z Z c7) Z (KO Z (Lh Z Z c10) Z (Lw Z .u (.fn Tryz.call204 Z) (du a0.M4 _ hx12) rT Z [0,0,0] (Z) (KO Z (Lh Z Z c13) Z (Lw Z .u (.fn Tryz.call204 Z) (du a0.MV _ hx15) rT Z [0,0,0] (Z) (KO Z (Lh Z Z c16) Z ?_))))))))
   exact Lw Z .u (.fn Tryz.call205 Z) (fN a0.MU _ _ _ hx18) (fun _ hs=>(K0 hs hX)) Z [0,0,0] (Z) (KO Z (Lh Z Z c19) Z (TD.run ay [22] Z Z (TD.nil (L5 [0,0,0] ⟨b4,Z,Z⟩ QJ QJ))))
  refine Lw Z .u (.fn Tryz.call204 Z) (du a0.M4 _ hx12) rT Z [0,0] (Z) ?_
  refine TD.br ?_ ?_
  ·refine Mu (cells:= #[.int .u8 0]) Z .u dA Z QJ Z [0,0,0] (fun _=>Z) (fun b4=>(KO Z (Mk (xs := [0]) 0 Z Z Z Z Pe NE O3) Z (KO Z (Lh Z Z c7) Z (KO Z (Lh Z Z c10) Z (KO Z (Lh Z Z c13) Z (Lw Z .u (.fn Tryz.call204 Z) (du a0.MV _ hx15) rT Z [0,0,0] (Z) (KO Z (Lh Z Z c16) Z (Lw Z .u (.fn Tryz.call205 Z) (fN a0.MU _ _ _ hx18) (fun _ hs=>(K0 hs hX)) Z [0,0,0] (Z) ?_))))))))
   exact KO Z (Lh Z Z c19) Z (TD.run ay [22] Z Z (TD.nil (L5 [0,0,0] ⟨b4,Z,Z⟩ QJ QJ)))
  refine Lw Z .u (.fn Tryz.call204 Z) (du a0.MV _ hx15) rT Z [0,0] (Z) ?_
  refine TD.br ?_ ?_
  ·refine Mu (cells:= #[.int .u8 0]) Z .u dA Z QJ Z [0,0,0] (fun _=>Z) (fun b4=>(KO Z (Mk (xs := [0]) 0 Z Z Z Z Pe NE O3) Z (KO Z (Lh Z Z c7) Z (KO Z (Lh Z Z c10) Z (KO Z (Lh Z Z c13) Z (KO Z (Lh Z Z c16) Z (Lw Z .u (.fn Tryz.call205 Z) (fN a0.MU _ _ _ hx18) (fun _ hs=>(K0 hs hX)) Z [0,0,0] (Z) (KO Z (Lh Z Z c19) Z ?_))))))))
   exact TD.run ay [22] Z Z (TD.nil (L5 [0,0,0] ⟨b4,Z,Z⟩ QJ QJ))
  refine Lw Z .u (.fn Tryz.call205 Z) (fN a0.MU _ _ _ hx18) (fun _ hs=>(K0 hs hX)) Z [0,0] (Z) (Mu (cells:= #[.int .u8 0]) Z .u dA Z QJ Z [0,0,0] (fun _=>Z) (fun b4=>(KO Z (Mk (xs := [0]) 0 Z Z Z Z Pe NE O3) Z (KO Z (Lh Z Z c7) Z (KO Z (Lh Z Z c10) Z (KO Z (Lh Z Z c13) Z (KO Z (Lh Z Z c16) Z (KO Z (Lh Z Z c19) Z ?_))))))))
  exact TD.run ay [22] Z Z (TD.nil (L5 [0,0,0] ⟨b4,Z,Z⟩ QJ QJ))
 rintro _ _ ⟨b4,rfl,rfl⟩
 refine X.seq (KG Z (KF ay 1 Z (KH Z (Lx Z NE) Z ?_)))
 obtain⟨x20,hx21,h⟩:=Np h
 refine K2 Z .u (.fn Tryz.call203 Z) (fS (((((((rl [0])++x5)++x8)++x11)++x14)++x17).length:Int) _ hx21) rT Z ?_
 obtain⟨c22,h⟩:=ao h
 refine KF ay 1 Z (KH Z (Lh Z Z c22) Z (KF ay 1 Z ?_))
 obtain rfl:=Nq h
 exact KI (T.ret (KQ [2] Tryz.results162 (KJ Z)))
def ng (a0:Rec) (a1:Rec):Option (Bool):=if a0.Nb=a1.Nb then (if a0.M1=a1.M1 then (if a0.M4.null=a1.M4.null then (if a0.M4.data=a1.M4.data then (if a0.MV.null=a1.MV.null then (if a0.MV.data=a1.MV.data then ((ne a0.MU a1.MU).bind fun x13=>some x13) else some false) else some false) else some false) else some false) else some false) else some false
theorem vR (a0:Rec) (A1:Option Addr) (c2:Nat) (a1:Rec) (A3:Option Addr) (c4:Nat) (r:Bool) (h:ng a0 a1=some r):aH Tryz.prog 209 #[.agg (wA2 a0 A1 c2),.agg (wA2 a1 A3 c4)] (RX.and (RX.of (aq 3 dq) [.slice A1 a0.MU.length c2] a0.MU) (RX.of (aq 3 dq) [.slice A3 a1.MU.length c4] a1.MU)) (aK) (fun v A' N=>v= .bool r∧A'=aK∧N = []):=by
 refine aU Tryz.func209 Z Tryz.ntmps209 Z ?_
 intro F w hX
 unfold ng at h
 refine KG Z (TL.box Z .u Z Z (fun b5=>(TL.box Z .u Z Z (fun b6=>(K8 ay Z Z (KK ay bC 1 Z 3 Z Z ?_))))))
 rcases jF h with⟨c7,h⟩ | ⟨c7,h⟩
 ·refine KK ay bC 0 Z 3 Z Z (KN 10 Z (Nt c7) (KK ay bC 1 Z 3 Z Z ?_))
  rcases jF h with⟨c8,h⟩ | ⟨c8,h⟩
  ·refine KK ay bC 0 Z 4 Z Z (KN 17 Z (Nt c8) (KM ay 1 Z (TL.q Z (.g Z Z Z) (KY (us:=wL6 a0.M4) 1 Z N0 ND Z Z Z) Z (KM ay 1 Z (TL.q Z (.g Z Z Z) (KY (us:=wL6 a1.M4) 0 Z N0 ND Z Z Z) Z ?_)))))
   rcases jF h with⟨c9,h⟩ | ⟨c9,h⟩
   ·rcases jF h with⟨c10,h⟩ | ⟨c10,h⟩
    ·refine TL.q Z (.g Z Z Z) (LG (us:=wL6 a0.M4) (vs:=wL6 a1.M4) dO Z OH Z Z Z Z (bE (jX c9) (bE (gj (l:=a0.M4.data) (m:=a1.M4.data) c10) Z))) Z (KM ay 3 Z (TL.q Z (.g Z Z Z) (KY (us:=wL6 a0.MV) 1 Z N0 ND Z Z Z) Z (KM ay 1 Z (TL.q Z (.g Z Z Z) (KY (us:=wL6 a1.MV) 0 Z N0 ND Z Z Z) Z ?_))))
     rcases jF h with⟨c11,h⟩ | ⟨c11,h⟩
     ·rcases jF h with⟨c12,h⟩ | ⟨c12,h⟩
      ·refine TL.q Z (.g Z Z Z) (LG (us:=wL6 a0.MV) (vs:=wL6 a1.MV) dO Z OH Z Z Z Z (bE (jX c11) (bE (gj (l:=a0.MV.data) (m:=a1.MV.data) c12) Z))) Z (KK ay bC 1 Z 5 Z Z ?_)
       obtain⟨x13,hx14,h⟩:=Np h
       refine KK ay bC 0 Z 1 Z Z (K2 Z (.g Z Z Z) (.fn Tryz.call228 Z) (vQ a0.MU _ _ a1.MU _ _ _ hx14) (fun _ hs=>(RX.reads_and (K0 hs (Ll hX)) (K0 hs (K6 hX)))) Z (KM ay 2 Z ?_))
       obtain rfl:=Nq h
       exact KI (T.ret (KQ [2] Px (KJ Z)))
      refine TL.q Z (.g Z Z Z) (LG (us:=wL6 a0.MV) (vs:=wL6 a1.MV) dO Z OH Z Z Z Z (bE (jX c11) (eK (mj (l:=a0.MV.data) (m:=a1.MV.data) c12)))) Z (KM ay 9 Z ?_)
      obtain rfl:=Nq h
      exact KI (T.ret (KQ [2] Px (KJ Z)))
     refine TL.q Z (.g Z Z Z) (LG (us:=wL6 a0.MV) (vs:=wL6 a1.MV) dO Z OH Z Z Z Z (eK (nb c11))) Z (KM ay 9 Z ?_)
     obtain rfl:=Nq h
     exact KI (T.ret (KQ [2] Px (KJ Z)))
    refine TL.q Z (.g Z Z Z) (LG (us:=wL6 a0.M4) (vs:=wL6 a1.M4) dO Z OH Z Z Z Z (bE (jX c9) (eK (mj (l:=a0.M4.data) (m:=a1.M4.data) c10)))) Z (KM ay 16 Z ?_)
    obtain rfl:=Nq h
    exact KI (T.ret (KQ [2] Px (KJ Z)))
   refine TL.q Z (.g Z Z Z) (LG (us:=wL6 a0.M4) (vs:=wL6 a1.M4) dO Z OH Z Z Z Z (eK (nb c9))) Z (KM ay 16 Z ?_)
   obtain rfl:=Nq h
   exact KI (T.ret (KQ [2] Px (KJ Z)))
  refine KK ay bC 0 Z 4 Z Z (KN 17 Z (Nu c8) (KM ay 21 Z ?_))
  obtain rfl:=Nq h
  exact KI (T.ret (KQ [2] Px (KJ Z)))
 refine KK ay bC 0 Z 3 Z Z (KN 10 Z (Nu c7) (KM ay 28 Z ?_))
 obtain rfl:=Nq h
 exact KI (T.ret (KQ [2] Px (KJ Z)))
def um:fg := [(23,0,0),(23,1,1),(91,1,1),(91,2,2),(91,3,4),(91,4,6)]
theorem ar:(um).OK Tryz.prog:=⟨FOK.mk NS rfl N5 rfl,FOK.mk NS rfl NZ rfl,FOK.mk NU rfl Ny rfl,FOK.mk NU rfl ND rfl,FOK.mk NU rfl ND rfl,FOK.mk NU rfl Ps rfl,trivial⟩
def uo:List Nat := [3,4,9,89]
theorem dg:NOK Tryz.prog uo:=⟨Nz,Ok,N4,Qb,trivial⟩
def jY (a0:List UInt8):Option (Int×Int):=if (a0.length:Int)<2 then some (0,1) else (if 2≤a0.length then ((wK (a0.take 2)).bind fun x3=>if x3=0 then (if (a0.length:Int)<4 then some (0,1) else (if 4≤a0.length then ((wK ((a0.drop 2).take 2)).bind fun x8=>if x8=0 then (if (a0.length:Int)>4 then some (0,2) else some (x8,0)) else (if x8=1 then (if (a0.length:Int)>4 then some (0,2) else some (x8,0)) else some (0,12))) else none)) else some (0,7)) else none)
theorem r7 (a0:List UInt8) (r:Int×Int) (h:jY a0=some r):aH Tryz.prog 223 #[jS a0] .triv (aK) (fun v A' N=>v= .tuple #[jI r.1,jI r.2]∧A'=aK∧N = []):=by
 refine aU Tryz.func223 Z Tryz.ntmps223 Z ?_
 intro F w hX
 unfold jY at h
 refine KG Z (KP ar Z (T.seq (KG Z (KF ar 1 Z (KH Z (Lx Z NE) Z (KF ar 1 Z ?_))))))
 rcases jF h with⟨c1,h⟩ | ⟨c1,h⟩
 ·refine La Z c1 (KG Z (KF ar 2 Z ?_))
  obtain rfl:=Nq h
  exact KI (T.ret (KL (Lo [0] Pn (KJ Z) (KJ Z) ⟨Z,Z,Z⟩ QJ (.inl Z))))
 refine K9 Z c1 (K3 (T.seq (KG Z ?_)))
 obtain⟨c2,h⟩:=ao h
 refine KF ar 1 Z ?_
 replace c2:2≤a0.length:=c2
 refine KH Z (Mx (p:=0) (q:=2) (m:=(a0.take 2)) Z NE .none (.some Z Z) (by first | omega | (dsimp only; omega)) (by simp)) Z ?_
 obtain⟨x3,hx4,h⟩:=Np h
 refine K2 Z .u (.fn Tryz.call25 Z) (LB (fun w=>pj (a0.take 2) _ hx4 w)) (fun _ _=>Lk _ _) Z (KF ar 1 Z ?_)
 rcases jF h with⟨c5,h⟩ | ⟨c5,h⟩
 ·refine Lj Z c5 (K3 (T.seq (KG Z (KF ar 1 Z (KH Z (Lx Z NE) Z (KF ar 1 Z ?_))))))
  rcases jF h with⟨c6,h⟩ | ⟨c6,h⟩
  ·refine La Z c6 (KG Z (KF ar 2 Z ?_))
   obtain rfl:=Nq h
   exact KI (T.ret (KL (Lo [0] Pn (KJ Z) (KJ Z) ⟨Z,Z,Z⟩ QJ (.inl Z))))
  refine K9 Z c6 (Lg Z ?_)
  obtain⟨c7,h⟩:=ao h
  refine KF ar 1 Z ?_
  replace c7:4≤a0.length:=c7
  refine KH Z (Mx (p:=2) (q:=4) (m:=((a0.drop 2).take 2)) Z NE (.some Z Z) (.some Z Z) (by first | omega | (dsimp only; omega)) Z) Z ?_
  obtain⟨x8,hx9,h⟩:=Np h
  refine K2 Z .u (.fn Tryz.call25 Z) (LB (fun w=>pj ((a0.drop 2).take 2) _ hx9 w)) (fun _ _=>Lk _ _) Z (KP ar Z (T.seq (KG Z ?_)))
  rcases jF h with⟨c10,h⟩ | ⟨c10,h⟩
  ·refine KF ar 3 Z (KN 20 Z (bf (Nt c10)) (Lq ar Z (Lb Z Z (K3 (T.seq (KG Z (KF ar 1 Z (KH Z (Lx Z NE) Z ?_))))))))
   refine KF ar 1 Z ?_
   rcases jF h with⟨c11,h⟩ | ⟨c11,h⟩
   ·refine La Z c11 (KG Z (KF ar 2 Z ?_))
    obtain rfl:=Nq h
    exact KI (T.ret (KL (Lo [0] Pn (KJ Z) (KJ Z) ⟨Z,Z,Z⟩ QJ (.inl Z))))
   refine K9 Z c11 (Lg Z (KF ar 3 Z ?_))
   obtain rfl:=Nq h
   exact KI (T.ret (Lo [0] Pn (KJ Z) (KJ Z) ⟨Z,Z,Z⟩ QJ (.inl Z)))
  refine KF ar 3 Z (KN 20 Z (bG (Nu c10)) (KM ar 3 Z ?_))
  rcases jF h with⟨c12,h⟩ | ⟨c12,h⟩
  ·refine Lj Z c12 (K3 (T.seq (KG Z (KF ar 1 Z (KH Z (Lx Z NE) Z (KF ar 1 Z ?_))))))
   rcases jF h with⟨c13,h⟩ | ⟨c13,h⟩
   ·refine La Z c13 (KG Z (KF ar 2 Z ?_))
    obtain rfl:=Nq h
    exact KI (T.ret (KL (Lo [0] Pn (KJ Z) (KJ Z) ⟨Z,Z,Z⟩ QJ (.inl Z))))
   refine K9 Z c13 (Lg Z (KF ar 3 Z ?_))
   obtain rfl:=Nq h
   exact KI (T.ret (Lo [0] Pn (KJ Z) (KJ Z) ⟨Z,Z,Z⟩ QJ (.inl Z)))
  refine Li Z c12 (KG Z (KF ar 2 Z ?_))
  obtain rfl:=Nq h
  exact KI (T.ret (KL (Lo [0] Pn (KJ Z) (KJ Z) ⟨Z,Z,Z⟩ QJ (.inl Z))))
 refine Li Z c5 (KG Z (KF ar 2 Z ?_))
 obtain rfl:=Nq h
 exact KI (T.ret (KL (Lo [0] Pn (KJ Z) (KJ Z) ⟨Z,Z,Z⟩ QJ (.inl Z))))
def iF (a0:List UInt8):Option (Int×Int):=if (a0.length:Int)<2 then some (0,1) else (if 2≤a0.length then ((wK (a0.take 2)).bind fun x3=>if x3=0 then (if (a0.length:Int)<6 then some (0,1) else (if 6≤a0.length then ((wK ((a0.drop 2).take 4)).bind fun x8=>if x8<0 then some (0,11) else (if (a0.length:Int)>6 then some (0,2) else some (x8,0))) else none)) else some (0,7)) else none)
theorem qt (a0:List UInt8) (r:Int×Int) (h:iF a0=some r):aH Tryz.prog 224 #[jS a0] .triv (aK) (fun v A' N=>v= .tuple #[jI r.1,jI r.2]∧A'=aK∧N = []):=by
 refine aU Tryz.func224 Z Tryz.ntmps224 Z ?_
 intro F w hX
 unfold iF at h
 refine KG Z (KP ar Z (T.seq (KG Z (KF ar 1 Z (KH Z (Lx Z NE) Z (KF ar 1 Z ?_))))))
 rcases jF h with⟨c1,h⟩ | ⟨c1,h⟩
 ·refine La Z c1 (KG Z (KF ar 2 Z ?_))
  obtain rfl:=Nq h
  exact KI (T.ret (KL (Lo [0] PI (KJ Z) (KJ Z) ⟨Z,Z,Z⟩ QJ (.inl Z))))
 refine K9 Z c1 (K3 (T.seq (KG Z ?_)))
 obtain⟨c2,h⟩:=ao h
 refine KF ar 1 Z ?_
 replace c2:2≤a0.length:=c2
 refine KH Z (Mx (p:=0) (q:=2) (m:=(a0.take 2)) Z NE .none (.some Z Z) (by first | omega | (dsimp only; omega)) (by simp)) Z ?_
 obtain⟨x3,hx4,h⟩:=Np h
 refine K2 Z .u (.fn Tryz.call25 Z) (LB (fun w=>pj (a0.take 2) _ hx4 w)) (fun _ _=>Lk _ _) Z (KF ar 1 Z ?_)
 rcases jF h with⟨c5,h⟩ | ⟨c5,h⟩
 ·refine Lj Z c5 (K3 (T.seq (KG Z (KF ar 1 Z (KH Z (Lx Z NE) Z (KF ar 1 Z ?_))))))
  rcases jF h with⟨c6,h⟩ | ⟨c6,h⟩
  ·refine La Z c6 (KG Z (KF ar 2 Z ?_))
   obtain rfl:=Nq h
   exact KI (T.ret (KL (Lo [0] PI (KJ Z) (KJ Z) ⟨Z,Z,Z⟩ QJ (.inl Z))))
  refine K9 Z c6 (Lg Z ?_)
  obtain⟨c7,h⟩:=ao h
  refine KF ar 1 Z ?_
  replace c7:6≤a0.length:=c7
  refine KH Z (Mx (p:=2) (q:=6) (m:=((a0.drop 2).take 4)) Z NE (.some Z Z) (.some Z Z) (by first | omega | (dsimp only; omega)) Z) Z ?_
  obtain⟨x8,hx9,h⟩:=Np h
  refine K2 Z .u (.fn Tryz.call25 Z) (LB (fun w=>pj ((a0.drop 2).take 4) _ hx9 w)) (fun _ _=>Lk _ _) Z (KP ar Z (T.seq (KG Z (KF ar 2 Z ?_))))
  rcases jF h with⟨c10,h⟩ | ⟨c10,h⟩
  ·refine La Z c10 (KG Z (KF ar 2 Z ?_))
   obtain rfl:=Nq h
   exact KI (T.ret (KL (Lo [0] PI (KJ Z) (KJ Z) ⟨Z,Z,Z⟩ QJ (.inl Z))))
  refine K9 Z c10 (K3 (T.seq (KG Z (KF ar 1 Z (KH Z (Lx Z NE) Z (KF ar 1 Z ?_))))))
  rcases jF h with⟨c11,h⟩ | ⟨c11,h⟩
  ·refine La Z c11 (KG Z (KF ar 2 Z ?_))
   obtain rfl:=Nq h
   exact KI (T.ret (KL (Lo [0] PI (KJ Z) (KJ Z) ⟨Z,Z,Z⟩ QJ (.inl Z))))
  refine K9 Z c11 (Lg Z (KF ar 3 Z ?_))
  obtain rfl:=Nq h
  exact KI (T.ret (Lo [0] PI (KJ Z) (KJ Z) ⟨Z,Z,Z⟩ QJ (.inl Z)))
 refine Li Z c5 (KG Z (KF ar 2 Z ?_))
 obtain rfl:=Nq h
 exact KI (T.ret (KL (Lo [0] PI (KJ Z) (KJ Z) ⟨Z,Z,Z⟩ QJ (.inl Z))))
def je (a0:Rec):Option (Int×Int×Int):=if a0.M4.null=true then some (0,0,12) else (if a0.MV.null=true then some (0,0,12) else (if (a0.MU.length:Int)>0 then some (0,0,12) else (if a0.M1=0 then ((jY a0.M4.data).bind fun (x8,x9)=>if x9=0 then ((iF a0.MV.data).bind fun (x12,x13)=>if x13=0 then some (x8,x12,0) else some (0,0,x13)) else some (0,0,x9)) else some (0,0,12))))
theorem vS (a0:Rec) (A1:Option Addr) (c2:Nat) (r:Int×Int×Int) (h:je a0=some r):aH Tryz.prog 201 #[.agg (wA2 a0 A1 c2)] (RX.of (aq 3 dq) [.slice A1 a0.MU.length c2] a0.MU) (aK) (fun v A' N=>v= .tuple #[jI r.1,jI r.2.1,jI r.2.2]∧A'=aK∧N = []):=by
 refine aU Tryz.func201 Z Tryz.ntmps201 Z ?_
 intro F w hX
 unfold je at h
 refine KG Z (TL.box Z .u Z Z (fun b3=>(KP ar Z (T.seq (KG Z ?_)))))
 rcases jF h with⟨c4,h⟩ | ⟨c4,h⟩
 ·refine KK ar dg 0 Z 4 Z Z (KN 12 Z c4 (Lq ar Z (KV Z Z (KG Z (KF ar 3 Z ?_)))))
  obtain rfl:=Nq h
  exact KI (T.ret (KL (L4 [1] Py (KJ Z) (KJ Z) (KJ Z) ⟨Z,Z,Z⟩ QJ (.inl Z))))
 replace c4:=Nx c4
 refine KK ar dg 0 Z 4 Z Z (KN 12 Z c4 ?_)
 rcases jF h with⟨c5,h⟩ | ⟨c5,h⟩
 ·refine KK ar dg 0 Z 5 Z Z (KN 17 Z c5 (Lq ar Z (KV Z Z (KG Z (KF ar 3 Z ?_)))))
  obtain rfl:=Nq h
  exact KI (T.ret (KL (L4 [1] Py (KJ Z) (KJ Z) (KJ Z) ⟨Z,Z,Z⟩ QJ (.inl Z))))
 replace c5:=Nx c5
 refine KK ar dg 0 Z 5 Z Z (KN 17 Z c5 (KK ar dg 0 Z 2 Z Z (TL.q Z (.g Z Z Z) (KX Z N3) Z ?_)))
 rcases jF h with⟨c6,h⟩ | ⟨c6,h⟩
 ·refine KM ar 3 Z (KN 23 Z (Nt c6) (Lq ar Z (KV Z Z (KG Z (KF ar 3 Z ?_)))))
  obtain rfl:=Nq h
  exact KI (T.ret (KL (L4 [1] Py (KJ Z) (KJ Z) (KJ Z) ⟨Z,Z,Z⟩ QJ (.inl Z))))
 refine KM ar 3 Z (KN 23 Z (Nu c6) (KK ar dg 0 Z 4 Z Z ?_))
 rcases jF h with⟨c7,h⟩ | ⟨c7,h⟩
 ·refine Lj Z c7 (Lg Z ?_)
  obtain⟨⟨x8,x9⟩,hx10,h⟩:=Np h
  refine KK ar dg 0 Z 3 Z Z (K2 Z .u (.fn Tryz.call223 Z) (r7 a0.M4.data _ hx10) rT Z (KP ar Z (T.seq (KG Z (KF ar 2 Z ?_)))))
  rcases jF h with⟨c11,h⟩ | ⟨c11,h⟩
  ·refine Lj Z c11 (Lg Z ?_)
   obtain⟨⟨x12,x13⟩,hx14,h⟩:=Np h
   refine KK ar dg 0 Z 3 Z Z (K2 Z .u (.fn Tryz.call224 Z) (qt a0.MV.data _ hx14) rT Z (KP ar Z (T.seq (KG Z (KF ar 2 Z ?_)))))
   rcases jF h with⟨c15,h⟩ | ⟨c15,h⟩
   ·refine Lj Z c15 (Lg Z (KF ar 5 Z ?_))
    obtain rfl:=Nq h
    exact KI (T.ret (L4 [1] Py (KJ Z) (KJ Z) (KJ Z) ⟨Z,Z,Z⟩ QJ (.inl Z)))
   refine Li Z c15 (KG Z (KF ar 4 Z ?_))
   obtain rfl:=Nq h
   exact KI (T.ret (KL (L4 [1] Py (KJ Z) (KJ Z) (KJ Z) ⟨Z,Z,Z⟩ QJ (.inl Z))))
  refine Li Z c11 (KG Z (KF ar 4 Z ?_))
  obtain rfl:=Nq h
  exact KI (T.ret (KL (L4 [1] Py (KJ Z) (KJ Z) (KJ Z) ⟨Z,Z,Z⟩ QJ (.inl Z))))
 refine Li Z c7 (KG Z (KF ar 3 Z ?_))
 obtain rfl:=Nq h
 exact KI (T.ret (KL (L4 [1] Py (KJ Z) (KJ Z) (KJ Z) ⟨Z,Z,Z⟩ QJ (.inl Z))))
def uq:fg := []
theorem aR:(uq).OK Tryz.prog:=trivial
theorem oU:SOK Tryz.prog 74 3 12 1 #[.int .i64 0,.int .i64 0,.int .i64 0,.int .i64 0,.int .i64 0,.int .i64 0,.int .i64 0,.int .i64 0,.int .i64 0,.int .i64 0,.int .i64 0,.int .i64 0]:=SOK.mk NF Ny Tryz.zeroValue3 QH QI
def cB (a0:List Int):Nat→List UInt8→Bool→List UInt8→Nat→Option (Lp (List UInt8×Bool) (List UInt8×Bool×List UInt8×Nat))
 | 0,_,_,_,_=>none
 | m11+1,y4,y5,y6,k7=>if (k7:Int)<12 then ((a0[k7]?).bind fun x16=>if (k7:Int)=3 then ((if x16<0 then some true else (if x16>4294967295 then some true else some false)).bind fun y21=>if y21=true then (some (Lp.ret ([],false))) else ((if x16>2147483647 then (if -9223372036854775808≤(x16 - 4294967296)∧(x16 - 4294967296)≤9223372036854775807 then some (x16 - 4294967296) else none) else some x16).bind fun y28=>(cN 2 1).bind fun x32=>if y6.length+x32.length≤9223372036854775807 then (([8,4,4,4,2,4,8,8,8,2,4,4][k7]?).bind fun x35=>(wM y28 x35).bind fun x38=>if x38=true then ((cN y28 x35).bind fun x41=>if (y6++x32).length+x41.length≤9223372036854775807 then (if -9223372036854775808≤((k7:Int)+1)∧((k7:Int)+1)≤9223372036854775807 then (cB a0 m11 y4 y5 ((y6++x32)++x41) (k7+1)) else none) else none) else (some (Lp.ret ([],false)))) else none)) else (([8,4,4,4,2,4,8,8,8,2,4,4][k7]?).bind fun x45=>(wM x16 x45).bind fun x48=>if x48=true then ((cN x16 x45).bind fun x51=>if y6.length+x51.length≤9223372036854775807 then (if -9223372036854775808≤((k7:Int)+1)∧((k7:Int)+1)≤9223372036854775807 then (cB a0 m11 y4 y5 (y6++x51) (k7+1)) else none) else none) else (some (Lp.ret ([],false))))) else (some (Lp.go (y4,y5,y6,k7)))
def ie (a0:List Int):Option (List UInt8×Bool):=(cB a0 ((12:Int).toNat+1) [] false [] 0).bind fun e=>match e with | .ret r=>some r | .go (y55,y56,y57,k58)=>some (y57,true)
theorem oV (a0:List Int) (A1:Option Addr) (c2:Nat) (r:List UInt8×Bool) (h:ie a0=some r):aH Tryz.prog 163 #[.slice A1 a0.length c2] (RX.of (aq 1 fh) [.slice A1 a0.length c2] a0) (aK) (fun v A' N=>v= .tuple #[jS r.1,.bool r.2]∧A'=aK∧N = []):=by
 refine aU Tryz.func163 Z Tryz.ntmps163 Z ?_
 intro F w hX
 unfold ie at h
 refine KG Z (K8 aR Z Z ?_)
 refine L7 (cells:= #[jI 8,jI 4,jI 4,jI 4,jI 2,jI 4,jI 8,jI 8,jI 8,jI 2,jI 4,jI 4]) Z .u oU Z QI Z (fun b3=> ?_)
 refine My (us := [jI 8,jI 4,jI 4,jI 4,jI 2,jI 4,jI 8,jI 8,jI 8,jI 2,jI 4,jI 4]) (xs := [8,4,4,4,2,4,8,8,8,2,4,4]) (E:=fh) (z:=1) Z (Nat.le_of_ble_eq_true Z) (fun _=>⟨Z,Z,⟨Z,Z,⟨Z,Z,⟨Z,Z,⟨Z,Z,⟨Z,Z,⟨Z,Z,⟨Z,Z,⟨Z,Z,⟨Z,Z,⟨Z,Z,⟨Z,Z,Z⟩⟩⟩⟩⟩⟩⟩⟩⟩⟩⟩⟩) (K8 aR Z Z (KP aR Z (T.seq (KG Z (KP aR Z (T.block ?_))))))
 obtain⟨E8,hE9,hO10⟩:=Np h
 refine Lv (fun m e Rs=> ∃ (y4:List UInt8) (y5:Bool) (y6:List UInt8) (k7:Nat),e = [(0,.slice A1 a0.length c2),(2,jS y4),(3,.bool y5),(4,.slice (some ⟨b3,0,none⟩) 12 12),(5,jS y6),(6,jI (k7:Int))]∧Rs = [bU 3 1 fh (.slice (some ⟨b3,0,none⟩) 12 12) [8,4,4,4,2,4,8,8,8,2,4,4],aK]∧cB a0 m y4 y5 y6 k7=some E8) ((12:Int).toNat+1) [0,0] ⟨[],false,[],0,Z,Z,by exact hE9⟩ QJ QJ ?_
 clear hE9 h
 rintro m11 _ _ ⟨y4,y5,y6,k7,rfl,rfl,h⟩
 cases m11 with
 | zero =>
  rw[cB] at h
  cases h
 | succ m11 =>
  rw[cB] at h
  refine T.seq (KG Z (KF aR 2 Z ?_))
  rcases jF h with⟨c15,h⟩ | ⟨c15,h⟩
  ·refine La Z c15 (K3 (T.seq (T.block (KG Z ?_))))
   obtain⟨x16,hx17,h⟩:=Np h
   obtain⟨gz18,oz18,rfl,z18cs,z18cl,z18cc,z18nf,z18r⟩:=Lf QH hX hx17
   obtain⟨z18S,z18r,z18rr⟩:=z18r
   obtain rfl:z18cs = [jI x16]:=z18r
   refine KF aR 2 Z ?_
   refine KH Z (K1 (k:=k7) Z Z Z NF Ny (Nw hx17).1) Z ?_
   refine KH Z (Ln 0 Z Nz z18nf z18cc Z Z) Z (KP aR Z (T.seq (KG Z (KF aR 2 Z ?_))))
   rcases jF h with⟨c19,h⟩ | ⟨c19,h⟩
   ·refine La Z c19 (L3 ?_)
    obtain⟨y21,h,hk22⟩:=Np h
    refine Lz (fun e Rs=>e = [(0,.slice (some ⟨gz18,oz18,none⟩) a0.length c2),(2,jS y4),(3,.bool y5),(4,.slice (some ⟨b3,0,none⟩) 12 12),(5,jS y6),(6,jI (k7:Int)),(7,jI x16),(24,.bool y21)]∧Rs = [bU 3 1 fh (.slice (some ⟨b3,0,none⟩) 12 12) [8,4,4,4,2,4,8,8,8,2,4,4],aK]) ?_ ?_
    ·clear hk22
     refine T.region Z ?_
     rcases jF h with⟨c23,h⟩ | ⟨c23,h⟩
     ·refine KF aR 3 Z (KN 21 Z (Nt c23) (KM aR 3 Z ?_))
      cases h
      exact TL.nil (KR [0,0])
     refine KF aR 3 Z (KN 21 Z (Nu c23) (KM aR 3 Z ?_))
     rcases jF h with⟨c24,h⟩ | ⟨c24,h⟩
     ·cases h
      exact TL.nil (LE (d:=24) (v':= .bool true) Z (congrArg Value.bool (Nt c24)) (KR [0,0]))
     cases h
     exact TL.nil (LE (d:=24) (v':= .bool false) Z (congrArg Value.bool (Nu c24)) (KR [0,0]))
    rintro _ _ ⟨rfl,rfl⟩
    clear h
    have h:=hk22
    clear hk22
    try dsimp only at h
    rcases jF h with⟨c25,h⟩ | ⟨c25,h⟩
    ·refine X.seq (KV Z c25 (KG Z (KF aR 2 Z ?_)))
     obtain rfl:=Nq h
     obtain rfl:=Nq hO10
     exact KI (T.ret (KL (KL (KU (KL (KL (KU (KL (Lo [1] Qp (KJ Z) (KJ Z) ⟨Z,Z,Z⟩ QJ (.inl Z))))))))))
    replace c25:=Nx c25
    refine X.seq (Lb Z c25 (K3 (T.seq (KG Z (KP aR Z ?_)))))
    obtain⟨y28,h,hk29⟩:=Np h
    refine Lz (fun e Rs=>e = [(0,.slice (some ⟨gz18,oz18,none⟩) a0.length c2),(2,jS y4),(3,.bool y5),(4,.slice (some ⟨b3,0,none⟩) 12 12),(5,jS y6),(6,jI (k7:Int)),(7,jI y28)]∧Rs = [bU 3 1 fh (.slice (some ⟨b3,0,none⟩) 12 12) [8,4,4,4,2,4,8,8,8,2,4,4],aK]) ?_ ?_
    ·clear hk29
     rcases jF h with⟨c30,h⟩ | ⟨c30,h⟩
     ·refine LU Z c30 (T.region Z ?_)
      obtain⟨c31,h⟩:=ao h
      refine KF aR 1 Z (KH Z (Ex.sub Z Z c31) Z (KF aR 1 Z ?_))
      cases h
      exact TL.nil (KR [0,0])
     refine LX Z c30 ?_
     cases h
     exact T.skip (KR [0,0])
    rintro _ _ ⟨rfl,rfl⟩
    clear h
    have h:=hk29
    clear hk29
    refine X.seq (T.region Z ?_)
    obtain⟨x32,hx33,h⟩:=Np h
    refine KF aR 1 Z (K2 Z .u (.fn Tryz.call63 Z) (bA 2 1 _ hx33) rT Z ?_)
    obtain⟨c34,h⟩:=ao h
    refine KH Z (Lh Z Z c34) Z (KP aR Z (T.seq (KG Z ?_)))
    obtain⟨x35,hx36,h⟩:=Np h
    refine KF aR 3 Z (MB (E:=fh) (k:=k7) 0 Z (fun w G h=>cm QH w G h) QH hx36 ?_)
    rintro gg oo _ ⟨⟩ _ ⟨_,_,rfl⟩
    refine Lt [0,0] Z ?_
    refine KH Z (K1 (k:=k7) Z Z Z NF Ny (Nw hx36).1) Z ?_
    refine KH Z (Mo (cs := [jI x35]) 0 0 Z Nz Z (fun _ _ h=>h.2.2.1) Z) Z ?_
    obtain⟨x38,hx39,h⟩:=Np h
    refine K2 Z .u (.fn Tryz.call206 Z) (vy y28 x35 _ hx39) rT Z (KF aR 1 Z ?_)
    rcases jF h with⟨c40,h⟩ | ⟨c40,h⟩
    ·refine KI (Lb Z (bf c40) (K3 (T.region Z (KF aR 4 Z ?_))))
     refine KH Z (K1 (k:=k7) Z Z Z NF Ny (Nw hx36).1) Z ?_
     refine KH Z (Mo (cs := [jI x35]) 0 0 Z Nz Z (fun _ _ h=>h.2.2.1) Z) Z ?_
     obtain⟨x41,hx42,h⟩:=Np h
     refine K2 Z .u (.fn Tryz.call63 Z) (bA y28 x35 _ hx42) rT Z ?_
     obtain⟨c43,h⟩:=ao h
     refine KH Z (Lh Z Z c43) Z (KF aR 1 Z (TL.nil (K4 (X.seq (T.region Z ?_)))))
     obtain⟨c44,h⟩:=ao h
     exact KF aR 1 Z (KH Z (Ex.add Z Z c44) Z (KF aR 1 Z (TL.nil (X.unf 0 Z (LC [0,0] Z (X.back (m':=m11) [0,0] QG ⟨y4,y5,((y6++x32)++x41),k7+1,Z,Z,h⟩ QJ QJ))))))
    replace c40:=Nx c40
    refine KI (KV Z (bG c40) (KG Z (KF aR 2 Z ?_)))
    obtain rfl:=Nq h
    obtain rfl:=Nq hO10
    exact KI (T.ret (KL (KU (KL (KL (KU (KL (Lo [1] Qp (KJ Z) (KJ Z) ⟨Z,Z,Z⟩ QJ (.inl Z)))))))))
   refine K9 Z c19 (K3 (T.seq (KG Z ?_)))
   obtain⟨x45,hx46,h⟩:=Np h
   refine KF aR 3 Z (MB (E:=fh) (k:=k7) 0 Z (fun w G h=>cm QH w G h) QH hx46 ?_)
   rintro gg oo _ ⟨⟩ _ ⟨_,_,rfl⟩
   refine Lt [0,0] Z ?_
   refine KH Z (K1 (k:=k7) Z Z Z NF Ny (Nw hx46).1) Z ?_
   refine KH Z (Mo (cs := [jI x45]) 0 0 Z Nz Z (fun _ _ h=>h.2.2.1) Z) Z ?_
   obtain⟨x48,hx49,h⟩:=Np h
   refine K2 Z .u (.fn Tryz.call206 Z) (vy x16 x45 _ hx49) rT Z (KF aR 1 Z ?_)
   rcases jF h with⟨c50,h⟩ | ⟨c50,h⟩
   ·refine KI (Lb Z (bf c50) (K3 (T.region Z (KF aR 4 Z ?_))))
    refine KH Z (K1 (k:=k7) Z Z Z NF Ny (Nw hx46).1) Z ?_
    refine KH Z (Mo (cs := [jI x45]) 0 0 Z Nz Z (fun _ _ h=>h.2.2.1) Z) Z ?_
    obtain⟨x51,hx52,h⟩:=Np h
    refine K2 Z .u (.fn Tryz.call63 Z) (bA x16 x45 _ hx52) rT Z ?_
    obtain⟨c53,h⟩:=ao h
    refine KH Z (Lh Z Z c53) Z (KF aR 1 Z (TL.nil (K4 (X.seq (T.region Z ?_)))))
    obtain⟨c54,h⟩:=ao h
    exact KF aR 1 Z (KH Z (Ex.add Z Z c54) Z (KF aR 1 Z (TL.nil (X.unf 0 Z (LC [0,0] Z (X.back (m':=m11) [0,0] QG ⟨y4,y5,(y6++x51),k7+1,Z,Z,h⟩ QJ QJ))))))
   replace c50:=Nx c50
   refine KI (KV Z (bG c50) (KG Z (KF aR 2 Z ?_)))
   obtain rfl:=Nq h
   obtain rfl:=Nq hO10
   exact KI (T.ret (KL (KU (KL (KL (KU (KL (Lo [1] Qp (KJ Z) (KJ Z) ⟨Z,Z,Z⟩ QJ (.inl Z)))))))))
  refine K9 Z c15 ?_
  obtain rfl:=Nq h
  replace h:=hO10
  clear hO10
  refine T.exit (KZ (KZ (Lu (X.seq (KG Z (KF aR 3 Z ?_))))))
  obtain rfl:=Nq h
  exact KI (T.ret (Lo [1] Qp (KJ Z) (KJ Z) ⟨Z,Z,Z⟩ QJ (.inl Z)))
end Go.Proofs.YtheikonlgjdopaaGreat.Sl
