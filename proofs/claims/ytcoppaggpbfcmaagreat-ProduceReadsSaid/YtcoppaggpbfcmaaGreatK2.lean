/- produceReads_holds: part 2. -/
import Derived.Lib.ConvBytes
import Derived.Lib.Builder
import Derived.Lib.UnsafeStr
import Derived.Test.YtcoppaggpbfcmaaGreatK1
set_option maxRecDepth 100000
set_option maxHeartbeats 4000000
set_option linter.defProp false
namespace Go.Proofs.YtcoppaggpbfcmaaGreat.Sl
open Go.RowKit
set_option linter.unusedVariables false
set_option linter.unusedSimpArgs false
theorem CM {α β : Type} {o : Option α} {f : α → Option β} {b : β} (h : o.bind f = some b) : ∃ a, o = some a ∧ f a = some b := Option.bind_eq_some_iff.1 h
def CN := @decide_eq_true
def CO := @decide_eq_false
def CV := @Tryz.isAgg3
def CX := @eq_false_of_ne_true
def CY := @Tryz.sizeOf3
def CZ := @Tryz.runUnderlying9
def C4 := @Tryz.sizeOf38
def C7 := @Tryz.sizeOf35
def Dd := @Tryz.isAgg4
def Dj := @Tryz.runUnderlying38
def Dl := @Tryz.runUnderlying36
def Dm := @Tryz.sizeOf220
def Dp := @Tryz.isAgg9
def Dr := @Tryz.isAgg38
def Dw := @Tryz.isAgg35
def DD := @Tryz.runUnderlying35
def DK := @Tryz.sizeOf4
def DN := @Tryz.sizeOf185
def DT := @Tryz.sizeOf9
def DV := @List.length_singleton
def DY := @Tryz.isAgg220
def DZ := @Tryz.runUnderlying119
def D0 := @Tryz.runUnderlying5
def D5 := @Tryz.eqGuardType35
def D8 := @Tryz.results172
def D9 := @Tryz.runUnderlying185
def Eb := @Tryz.runUnderlying64
def Eg := @Tryz.results145
def En := @Tryz.sizeOf36
def Ep := @Tryz.sizeOf119
def Er := @Tryz.results181
def Es := @Tryz.runUnderlying220
def Ew := @Tryz.results48
def EB := @Tryz.isAgg36
def EH := @Tryz.runUnderlying233
def EI := @Tryz.results45
def EP := @Tryz.eqGuardType185
def EQ := @Tryz.results167
def ER := @Tryz.results107
def EU := @Tryz.results94
def E0 := @Tryz.isAgg185
def Fa := @Tryz.ntmps143
def Fh := @Tryz.func143
def nh (l:List Int):Array Value:=(l.map (Value.int .u32)).toArray
def jk (T g:Nat) (l:List Int):Res where
 P:=fun w G=>(aC g T (nh l)).P w G∧l.length=256
 lt:=fun h=>(aC g T (nh l)).lt h.1
 move:=fun h hm=>⟨(aC g T (nh l)).move h.1 hm,h.2⟩
theorem yf {l:List Int} {k:Nat} {u:Int} (h:l[k]? = some u):(nh l)[k]? = some (.int .u32 u):=by
 unfold nh
 simp[h]
section
variable {P:Program} {n:Nat} {F0:Nat→Prop} {w0 w:World} {e:Env} {Rs Rf:List Res} {Q:Exit→Act→World→Prop} {ops:Array Oper} {d:Option Tmp} {i:Nat} {ty t t' el:TypeId} {pos:String} {af:Array Edge} {gd:Option (Nat×Bool)} {v v':Value} {x y ix:Operand} {L:List Nat} {lo:Sch} {c:Code} {S:World→Prop}
variable {T g k:Nat} {l:List Int} {u u':Int}
theorem vY (j:Nat) (h:St F0 w0 Rs w) (hj:Rs[j]? = some (jk T g l)):l.length=256:=by
 obtain⟨G,hG,_⟩:=h.get j hj
 exact hG.2
theorem vZ (j:Nat) (h:St F0 w0 Rs w) (hj:Rs[j]? = some (jk T g l)):w.heap[g]? = some (.cells (nh l) T (0,0)):=by
 obtain⟨G,hG,_⟩:=h.get j hj
 exact hG.1.1
theorem Ex.tIx (j:Nat) {a:Int} {q:IntKind} (hx:e.ev x=some (.pointer (some ⟨g,0,none⟩))) (hi:e.ev ix=some (.int q a)) (hik:a=(k:Int)) (hu: ∀ w,(underlying t).run P w= .ok (.array 256 el) w) (hz: ∀ w,(sizeOf el).run P w= .ok 1 w) (hj:Rs[j]? = some (jk T g l)) (hk:l[k]? = some u) :
 Ex P n e (St F0 w0 Rs) ⟨d,.indexAddr t x ix,ty,pos,af,gd⟩ (.pointer (some ⟨g,k,none⟩)):=by
 intro A w ha hs
 have h1:=vY j hs hj
 have h2:k<256:=by rw[← h1]; exact (CU hk).1
 have h3:=Ex.ixP (S:=fun _=>True) (d:=d) (ty:=ty) (pos:=pos) (af:=af) (gd:=gd) hx hi hik hu hz h2 A w ha trivial
 rwa [show 0+k*1=k by omega] at h3
theorem Ex.tLd (j:Nat) (hx:e.ev x=some (.pointer (some ⟨g,k,none⟩))) (ha: ∀ w,(isAgg t).run P w= .ok false w) (hj:Rs[j]? = some (jk T g l)) (hk:l[k]? = some u) :
 Ex P n e (St F0 w0 Rs) ⟨d,.load t x,ty,pos,af,gd⟩ (.int .u32 u) :=
 Ex.ld1 hx ha (fun w hw=>(aI (vZ j hw hj) k).trans (yf hk))
theorem Ef.tSt (j:Nat) (hx:e.ev x=some (.pointer (some ⟨g,k,none⟩))) (hy:e.ev y=some (.int .u32 u')) (hz: ∀ w,(sizeOf t).run P w= .ok 1 w) (hj:Rs[j]? = some (jk T g l)) (hk:l[k]? = some u) :
 Ef P n F0 w0 e Rs ⟨none,.store t x y,ty,pos,af,gd⟩ (fun e' Rs'=>e'=e∧Rs'=Rs.set j (jk T g (l.set k u'))):=by
 intro a w K Q ha hs hk'
 have hb:=vZ j hs hj
 have hl:=vY j hs hj
 have hkl:k<l.length:=(CU hk).1
 have hc:((nh l).toList.take k ++ [Value.int .u32 u']++(nh l).toList.drop (k+1)).toArray=nh (l.set k u'):=by
  unfold nh
  rw[List.map_set,List.set_eq_take_append_cons_drop,if_pos (by rw[Dh]; exact hkl)]
  simp
 have h2:=run_storeCells_at (P:=P) g k T [Value.int .u32 u'] 0 (nh l) w hb (by simp[nh]; omega) (by simp[Value.oneCell'])
 simp only[Nat.add_zero,DV] at h2
 rw[hc] at h2
 have h1:(execOp a.eval ⟨none,.store t x y,ty,pos,af,gd⟩).run P w= .ok .skip (w.setRow g (nh (l.set k u'))):=by
  simp[execOp,ha.ev hx,ha.ev hy,Instr.storeAt,Instr.sureAddr,storeVar,hz,Value.cells,h2]
 unfold Oper.wp
 rw[h1]
 refine hk' _ _ ⟨rfl,rfl⟩ _ _ ha.put0 (hs.step j hj (Ns := []) (fun G hG=> ?_))
 exact⟨⟨rfl,rfl,rfl,by simp[World.setRow],fun k hk hn=>setRow_other w g k _ (fun e=>hn (e ▸ (hG.1.2 g).2 rfl))⟩,G,⟨⟨setRow_heap w g _ _ T (0,0) hG.1.1,hG.1.2⟩,by rw[List.length_set]; exact hG.2⟩,fun k hk=> .inl hk,trivial⟩
theorem TL.tSt (j:Nat) (ho:ops[i]? = some ⟨none,.store t x y,ty,pos,af,gd⟩) (hw:Wd n ops e ⟨none,.store t x y,ty,pos,af,gd⟩ true) (hx:e.ev x=some (.pointer (some ⟨g,k,none⟩))) (hy:e.ev y=some (.int .u32 u')) (hz: ∀ w,(sizeOf t).run P w= .ok 1 w) (hj:Rs[j]? = some (jk T g l)) (hk:l[k]? = some u)
 (h:TL P n F0 w0 ops L e (Rs.set j (jk T g (l.set k u'))) Q):TL P n F0 w0 ops (i::L) e Rs Q:=by
 refine Bj ho hw (Ef.tSt j hx hy hz hj hk) ?_
 rintro _ _ ⟨rfl,rfl⟩
 exact h
theorem Ex.bldZ {m:Nat} {zs:Array Value} (hz: ∀ w,(zeroValue t).run P w= .ok (.agg zs) w) (hu: ∀ w,(underlying t).run P w= .ok (.array m el) w) (hs: ∀ w,(sizeOf el).run P w= .ok 1 w):Ex P n e S ⟨d,.build t #[],ty,pos,af,gd⟩ (.agg zs):=by
 intro a w ha _
 have h1:(Instr.build t #[]).run P w= .ok (.agg zs) w:=by
  simp only[Instr.build,Sem.run_bind,hz,hu,hs,Result.andThen_ok]
  rfl
 simp only[execOp,Sem.run_bind]
 simp[h1]
theorem TL.tNew {zs:Array Value} {d:Nat} (ho:ops[i]? = some ⟨some d,.box t x,ty,pos,af,gd⟩) (hw:Wd n ops e ⟨some d,.box t x,ty,pos,af,gd⟩ true) (hx:e.ev x=some (.agg zs)) (hzs:zs=nh (List.replicate 256 0)) (hd:Nat.blt d n=true)
 (h: ∀ b,TL P n F0 w0 ops L ((d,.pointer (some ⟨b,0,none⟩))::e) (jk t b (List.replicate 256 0)::Rs) Q):TL P n F0 w0 ops (i::L) e Rs Q:=by
 refine TL.box ho hw hx hd (fun b=> ?_)
 intro a w ha hs
 subst hzs
 exact h b a w ha (hs.weaken 0 rfl (fun G hG=>⟨hG,List.length_replicate ..⟩))
end
def LW (P:Program) (c:Code) (Q:Exit→Act→World→Prop) (a:Act) (w:World):Prop:= ∀ b k cs,∃ x a' w',Q x a' w'∧Arrives P (lone (b.at a (.code c :: .inLoop c::k)) cs w) b k cs x a' w'
def TW (P:Program) (n:Nat) (F0:Nat→Prop) (w0:World) (e:Env) (Rs:List Res) (c:Code) (Q:Exit→Act→World→Prop):Prop:= ∀ a w,Has n e a→St F0 w0 Rs w→LW P c Q a w
section
variable {P:Program} {n:Nat} {F0:Nat→Prop} {w0:World} {e:Env} {Rs:List Res} {Q:Exit→Act→World→Prop} {c:Code}
theorem T.unroll0 (h:TW P n F0 w0 e Rs c Q):T P n F0 w0 e Rs (.loop c) Q:=by
 intro a w ha hs b k cs
 obtain⟨x,a',w',hq,harr⟩:=h a w ha hs b k cs
 exact⟨x,a',w',hq,.of_steps (.one step_loop) harr⟩
theorem TW.step (h:T P n F0 w0 e Rs c (Exit.then (LW P c Q) Q)):TW P n F0 w0 e Rs c Q:=by
 intro a w ha hs b k cs
 obtain⟨x,a₁,w₁,hq,harr⟩:=h a w ha hs b (.inLoop c::k) cs
 cases x with
 | normal =>
  obtain⟨x₂,a₂,w₂,hq₂,harr₂⟩:=hq b k cs
  exact⟨x₂,a₂,w₂,hq₂,.of_steps (Steps.trans harr (.one step_inLoop)) harr₂⟩
 | exit id=>exact⟨_,a₁,w₁,hq,.pass (x:= .inLoop c) rfl (fun _ _=> .inl (by simp)) harr⟩
 | goto l=>exact⟨_,a₁,w₁,hq,.pass (x:= .inLoop c) rfl (fun _ _=> .inl (by simp)) harr⟩
 | ret=>exact⟨_,a₁,w₁,hq,.pass (x:= .inLoop c) rfl (fun _ _=> .inl (by simp)) harr⟩
 | panic ch=>exact⟨_,a₁,w₁,hq,.pass (x:= .inLoop c) rfl (fun _ _=> .inl (by simp)) harr⟩
 | outgrown=>exact⟨_,a₁,w₁,hq,.pass (x:= .inLoop c) rfl (fun _ _=> .inl (by simp)) harr⟩
theorem Bv (h:TW P n F0 w0 e Rs c Q):X n F0 w0 e Rs .normal (Exit.then (LW P c Q) Q):=h
end
section
variable {P:Program} {n:Nat} {F0:Nat→Prop} {w0 w:World} {e:Env} {Rs Rf:List Res} {Q:Exit→Act→World→Prop} {ops:Array Oper} {d:Option Tmp} {i:Nat} {ty t t' el:TypeId} {pos:String} {af:Array Edge} {gd:Option (Nat×Bool)} {v v':Value} {x y ix:Operand} {L:List Nat} {lo:Sch} {S:World→Prop}
variable {T b c k m:Nat} {xs:List Int} {u u':Int}
end
section
variable {P:Program} {n:Nat} {F0:Nat→Prop} {w0:World} {e:Env} {Rs Rf:List Res} {Q:Exit→Act→World→Prop} {ops:Array Oper} {i:Nat} {ty t:TypeId} {pos:String} {af:Array Edge} {gd:Option (Nat×Bool)} {x y:Operand} {L:List Nat} {lo:Sch} {b:Nat} {s:List UInt8×Int}
theorem Ef.outZ (j:Nat) (hx:e.ev x=some (.pointer (some ⟨b,0,none⟩))) (hy:e.ev y=some (.agg #[.slice none 0 0,.int .i64 0])) (hz: ∀ w,(sizeOf t).run P w= .ok 2 w) (hj:Rs[j]? = some (aW b s)) :
 Ef P n F0 w0 e Rs ⟨none,.store t x y,ty,pos,af,gd⟩ (fun e' Rs'=>e'=e∧Rs'=Rs.set j (aW b ([],0))):=by
 intro a w K Q ha hs hk
 obtain⟨G,⟨v,h1,_,_⟩,_⟩:=hs.get j hj
 have h2:=run_storeCells_at (P:=P) b 0 66 [Value.slice none 0 0,.int .i64 0] 0 _ w h1 (by simp) (by intro v hv; simp at hv; rcases hv with rfl | rfl <;> rfl)
 have h3:(execOp a.eval ⟨none,.store t x y,ty,pos,af,gd⟩).run P w= .ok .skip (w.setRow b #[.slice none 0 0,.int .i64 0]):=by
  simp at h2
  simp[execOp,ha.ev hx,ha.ev hy,Instr.storeAt,Instr.sureAddr,storeVar,hz,Value.cells,h2]
 unfold Oper.wp
 rw[h3]
 refine hk _ _ ⟨rfl,rfl⟩ _ _ ha.put0 (hs.step j hj (Ns := []) (fun G hG=> ?_))
 obtain⟨v',k1,k2,k3⟩:=hG
 refine⟨⟨rfl,rfl,rfl,by simp[World.setRow],fun q hq hn=>setRow_other w b q _ (fun e=>hn (e ▸ (k3 b).2 (.inl rfl)))⟩,fun q=>q=b,⟨_,setRow_heap w b _ _ _ (0,0) k1,World.ownsRow_nil _ _ _ _,fun q=>by simp[Value.ownBlock]⟩,fun q hq=> .inl ((k3 q).2 (.inl hq)),trivial⟩
theorem TL.outZ (j:Nat) (ho:ops[i]? = some ⟨none,.store t x y,ty,pos,af,gd⟩) (hw:Wd n ops e ⟨none,.store t x y,ty,pos,af,gd⟩ true) (hx:e.ev x=some (.pointer (some ⟨b,0,none⟩))) (hy:e.ev y=some (.agg #[.slice none 0 0,.int .i64 0])) (hz: ∀ w,(sizeOf t).run P w= .ok 2 w) (hj:Rs[j]? = some (aW b s))
 (h:TL P n F0 w0 ops L e (Rs.set j (aW b ([],0))) Q):TL P n F0 w0 ops (i::L) e Rs Q:=by
 refine Bj ho hw (Ef.outZ j hx hy hz hj) ?_
 rintro _ _ ⟨rfl,rfl⟩
 exact h
end
def ni (b:Nat) (l:List UInt8):Res where
 P:=fun w G=> ∃ p v,(p= .pointer none∨p= .pointer (some ⟨b,0,none⟩))∧w.heap[b]? = some (.cells #[p,v] 148 (0,0))∧w.ownsRow 0 5 1 v l.length (aK l)∧ ∀ k,G k↔k=b∨v.ownBlock=some k
 lt:=by
  rintro w G ⟨p,v,_,h1,h2,h3⟩ k hk
  rcases (h3 k).1 hk with rfl | h
  ·exact gU h1
  ·exact pO h2 k h
 move:=by
  rintro w w' G ⟨p,v,hp,h1,h2,h3⟩ hm
  exact⟨p,v,hp,(hm _ ((h3 _).2 (.inl rfl))).trans h1,lf h2 (fun k hk=>hm k ((h3 k).2 (.inr hk))),h3⟩
theorem xe {F:Nat→Prop} {w w':World} (h:Fr F w w') {p:Addr} (hp:F p.block) (n:Nat):Fr F w (w'.freeze p n):=by
 refine h.trans (G:=F) ?_ (fun _ h=> .inl h)
 unfold World.freeze
 split
 ·exact Fr.refl _ _
 ·exact⟨rfl,rfl,rfl,by simp,fun k hk hn=>by
   simp only[Array.getElem?_modify]
   rw[if_neg (fun h:p.block=k=>hn (by rw[← h]; exact hp))]⟩
theorem yg:(Tryz.prog.info? 148).map (·.size)=some 2:=by kernel_rfl
theorem yh:liesAt Tryz.prog Tryz.prog.depth 148 (2 / Tryz.prog.cellsOf 148) 0 148 1=true:=by kernel_rfl
theorem xf {w:World} {b:Nat} {p v:Value} (hb:w.heap[b]? = some (.cells #[p,v] 148 (0,0))):w.shape? b=some (148,2):=by simp[World.shape?,hb]
theorem xg (b:Nat) (w:World) (p v:Value) (hp:p= .pointer none∨p= .pointer (some ⟨b,0,none⟩)) (hb:w.heap[b]? = some (.cells #[p,v] 148 (0,0))) :
 Calls Tryz.prog 133 #[.pointer (some ⟨b,0,none⟩)] w fun e w'=>e= .returned (.tuple #[])∧w'.heap[b]? = some (.cells #[.pointer (some ⟨b,0,none⟩),v] 148 (0,0))∧Fr (fun k=>k=b) w w':=by
 obtain⟨j,hj,hjs⟩:=Option.map_eq_some_iff.1 yg
 have h0:w.cell? ⟨b,0,none⟩=some p:=(aI hb 0).trans rfl
 have f0:w.frozen? ⟨b,0,none⟩=false:=bd hb 0
 have hsh:=xf hb
 have HB:=Lib.hid hb
 clear hb
 rcases hp with rfl | rfl
 ·go_enter Tryz.func133,Tryz.ntmps133
  go_wp2
  rw[Lib.run_to_unsafe w ⟨b,0,none⟩ Tryz.underlying146 Tryz.underlying229 hj (by rw[hjs]; decide) hsh (Nat.zero_lt_succ 1)]
  simp only[Result.andThen]
  rw[Oper.upon_value]
  go_wp2
  rw[run_callFunc_extern Tryz.func156 (by kernel_rfl) (by kernel_rfl) (by kernel_rfl) (e:=Extern.AbiNoEscape.same) (by kernel_rfl)]
  rw[Lib.run_noEscape]
  simp only[Result.andThen]
  rw[Oper.upon_value]
  go_wp2
  rw[Lib.run_from_unsafe w ⟨b,0,none⟩ Tryz.underlying229 Tryz.underlying146 hj hsh yh]
  simp only[Result.andThen]
  rw[Oper.upon_value]
  go_wp2
  go_end0
  exact⟨rfl,by simpa using jO HB.out 0 (.pointer (some ⟨b,0,none⟩)),(Fr.refl (fun k=>k=b) w).set (p:=⟨b,0,none⟩) (.inl rfl) _⟩
 ·go_enter Tryz.func133,Tryz.ntmps133
  go_wp2
  rw[Lib.run_neq_ptr_same w _ Tryz.underlying146 hj]
  go_wp2
  go_end0
  exact⟨rfl,HB.out,Fr.refl _ _⟩
theorem ni.stored {b:Nat} {l m:List UInt8} {w w1 w2:World} {v v1:Value} {F:Nat→Prop} (hw:Fr (fun k=>k=b) w w1) (hF: ∀ k,F k↔k=b∨v.ownBlock=some k) (hb:w1.heap[b]? = some (.cells #[.pointer (some ⟨b,0,none⟩),v] 148 (0,0))) (ho:w1.ownsRow 0 5 1 v l.length (aK l))
 {n:Nat} (ho1:w2.ownsRow 0 5 1 v1 n (aK m)) (hg:w1.grownBy w2 v.ownBlock) (hat:v1.ownBlock=v.ownBlock∨ ∃ k,v1.ownBlock=some k∧w1.heap.size≤k) (hlt:b<w.heap.size) :
 St F w [ni b m] (w2.setCell ⟨b,1,none⟩ v1):=by
 have hn:n=m.length:=by have:=ho1.1; simpa [aK] using this.symm
 subst hn
 have hne:=ko ho hb (by decide)
 have hb1:w2.heap[b]? = some (.cells #[.pointer (some ⟨b,0,none⟩),v] 148 (0,0)):=(hg.block b (gU hb) hne).trans hb
 have hne1:=ko ho1 hb1 (by decide)
 have f1:Fr F w w1:=hw.mono (fun k hk=>(hF k).2 (.inl hk))
 have f2:Fr F w w2:=f1.trans (BK (F:=F) hg (fun k hk=>(hF k).2 (.inr hk))) (fun k hk=> .inl hk)
 refine⟨f2.set (p:=⟨b,1,none⟩) (.inl ((hF b).2 (.inl rfl))) v1,?_⟩
 refine⟨fun k=>k=b∨v1.ownBlock=some k,⟨_,v1,.inr rfl,by simpa using jO hb1 1 v1,sk ho1 hne1 v1,fun _=>Iff.rfl⟩,?_,trivial⟩
 rintro k (rfl | hk)
 ·exact .inl ((hF k).2 (.inl rfl))
 ·rcases hat with h | ⟨k',h,h'⟩
  ·rw[h] at hk
   exact .inl ((hF k).2 (.inr hk))
  ·rw[h] at hk
   injection hk with hk
   subst hk
   exact .inr (Nat.le_trans hw.size h')
theorem va (b:Nat) (l:List UInt8) (s:ByteArray) (hl:l.length+s.size≤140737488355328) :
 ez Tryz.prog 85 #[.pointer (some ⟨b,0,none⟩),.string s] (ni b l) (fun v A' N=>v= .tuple #[.int .i64 s.size,.nilIface]∧A'=ni b (l++s.data.toList)∧N = []):=by
 rintro F w ⟨p,v,hp,hb,ho,hF⟩
 have hne:=ko ho hb (by decide)
 have HB:=Lib.hid hb
 have HO:=Lib.hid ho
 have HP:=Lib.hid hp
 clear hb ho hp
 go_enter Tryz.func85,Tryz.ntmps85
 go_wp2_with (go_at_call 133; refine (xg b _ p v HP.out HB.out).mono ?_)
 rintro e w1 ⟨rfl,hb1,hfr⟩
 have ho1:w1.ownsRow 0 5 1 v l.length (aK l):=lf HO.out (fun k hk=>hfr.block k (pO HO.out k hk) (fun h=>hne (h ▸ hk.symm)))
 have c0:w1.cell? ⟨b,0,none⟩=some (.pointer (some ⟨b,0,none⟩)):=(aI hb1 0).trans rfl
 have c1:w1.cell? ⟨b,1,none⟩=some v:=(aI hb1 1).trans rfl
 have HB1:=Lib.hid hb1
 have HO1:=Lib.hid ho1
 have HF:=Lib.hid hfr
 clear hb1 ho1 hfr
 go_wp2_with (at_builtin; refine jQ w1 rfl _ _ _ _ rfl 5 Tryz.underlying64 Tryz.underlying9 lg v l.length (aK l) rfl HO1.out s rfl hl ?_; intro v1 w2 ho2 hg hat; obtain⟨a1,k1,rfl⟩:=jT ho2; have HO2:=Lib.hid ho2; clear ho2; have HN:=Lib.hid (ko HO1.out HB1.out (by decide)); have HB2:=Lib.hid (show w2.heap[b]? = _ from (hg.block b (gU HB1.out) HN.out).trans HB1.out); have d0:w2.cell? ⟨b,0,none⟩=some (.pointer (some ⟨b,0,none⟩)):=(aI HB2.out 0).trans rfl; have d1:w2.cell? ⟨b,1,none⟩=some v:=(aI HB2.out 1).trans rfl; have e1:w2.frozen? ⟨b,1,none⟩=false:=bd HB2.out 1; have HG:=Lib.hid hg; have HAT:=Lib.hid hat; clear hg hat)
 go_ret2
 have ho2:=HO2.out
 rw[mr,← gH] at ho2
 refine⟨_,_,_,rfl,⟨rfl,rfl,rfl⟩,?_⟩
 exact ni.stored HF.out hF HB1.out HO1.out ho2 HG.out (by rcases HAT.out with h | h; exact .inl h; exact .inr ⟨_,h,Dy _⟩) (gU HB.out)
theorem tK (b:Nat) (l:List UInt8):ez Tryz.prog 86 #[.pointer (some ⟨b,0,none⟩)] (ni b l) (fun v A' N=>v= .string (aF l)∧A'=aB∧N = []):=by
 rintro F w ⟨p,v,hp,hb,ho,hF⟩
 have done: ∀ w',Fr F w w'→St F w [aB] w':=fun w' h=>⟨h,fun _=>False,fun _ h=>h,fun _ h=>h.elim,trivial⟩
 have DONE:=Lib.hid done
 clear done
 have hUS0: ∀ (W:World) (q:Option Addr),(Builtin.unsafeString_ #[193,3] 9 #[.pointer q,.int .i64 0]).run Tryz.prog W= .ok (.string .empty) W:=fun W q=>Lib.run_unsafeString_none W _ _ _ q
 have hl0:l = []∨l ≠ []:=by cases l; exact .inl rfl; exact .inr (by simp)
 rcases ho.2 with⟨rfl,hz⟩ | ⟨g,cap,cur,rfl,_,hg,hnc,hcm,hcs,htake⟩
 ·obtain rfl:l = []:=List.length_eq_zero_iff.1 hz
  have c1:w.drew.cell? ⟨b,1,none⟩=some (.slice none 0 0):=(aI (w:=w.drew) hb 1).trans rfl
  have hSD:(Builtin.unsafeSliceData_ #[64] 193 #[.slice none 0 0]).run Tryz.prog w.drew= .ok (.pointer none) w.drew:=rfl
  clear hb ho hp
  go_enter Tryz.func86,Tryz.ntmps86
  go_wp2
  go_region
  all_goals (go_wp2; go_ret; exact⟨_,_,_,rfl,⟨rfl,rfl,rfl⟩,DONE.out _ (Fr.refl F w).drew⟩)
 ·have hgF:F g:=(hF g).2 (.inr rfl)
  have HGF:=Lib.hid hgF
  clear hgF
  rcases hl0 with rfl | hl1
  ·by_cases hc0:cap=0
   ·subst hc0
    have hb':w.drew.heap[b]? = some (.cells #[p,.slice (some ⟨g,0,none⟩) 0 0] 148 (0,0)):=hb
    have c1:w.drew.cell? ⟨b,1,none⟩=some (.slice (some ⟨g,0,none⟩) 0 0):=(aI hb' 1).trans rfl
    have hSD:(Builtin.unsafeSliceData_ #[64] 193 #[.slice (some ⟨g,0,none⟩) 0 0]).run Tryz.prog w.drew= .ok (.pointer (some ⟨w.drew.heap.size,0,none⟩)) (w.drew.alloc (.view ⟨g,0,none⟩ 5)) :=
     Lib.run_unsafeSliceData_zero w.drew _ _ 5 Tryz.underlying193 ⟨g,0,none⟩ 0 (5,cur.size) (by have hg':w.drew.heap[g]? = some (.cells cur 5 (0,0)):=hg; simp[World.shape?,hg'])
    have c2:(w.drew.alloc (.view ⟨g,0,none⟩ 5)).cell? ⟨b,1,none⟩=some (.slice (some ⟨g,0,none⟩) 0 0):=by
     have h:=(Lib.alloc_old w.drew (.view ⟨g,0,none⟩ 5) b (gU hb')).trans hb'
     exact (aI h 1).trans rfl
    have c3:(w.alloc (.view ⟨g,0,none⟩ 5)).drew.cell? ⟨b,1,none⟩=some (.slice (some ⟨g,0,none⟩) 0 0):=c2
    have c0:w.cell? ⟨b,1,none⟩=some (.slice (some ⟨g,0,none⟩) 0 0):=c1
    clear hb hb' ho hp hg htake hcs
    go_enter Tryz.func86,Tryz.ntmps86
    go_wp2
    go_region
    all_goals (go_wp2; go_ret; exact⟨_,_,_,rfl,⟨rfl,rfl,rfl⟩,DONE.out _ ((Fr.refl F w).drew.alloc _)⟩)
   ·have c1:w.drew.cell? ⟨b,1,none⟩=some (.slice (some ⟨g,0,none⟩) 0 cap):=(aI (w:=w.drew) hb 1).trans rfl
    have hSD:(Builtin.unsafeSliceData_ #[64] 193 #[.slice (some ⟨g,0,none⟩) 0 cap]).run Tryz.prog w.drew= .ok (.pointer (some ⟨g,0,none⟩)) w.drew:=Lib.run_unsafeSliceData_row _ _ _ _ _ _ hc0
    clear hb ho hp hg htake hcs hc0
    go_enter Tryz.func86,Tryz.ntmps86
    go_wp2
    go_region
    all_goals (go_wp2; go_ret; exact⟨_,_,_,rfl,⟨rfl,rfl,rfl⟩,DONE.out _ (Fr.refl F w).drew⟩)
  ·have hlen:l.length≠0:=by simpa using hl1
   have c1:w.drew.cell? ⟨b,1,none⟩=some (.slice (some ⟨g,0,none⟩) l.length cap):=(aI (w:=w.drew) hb 1).trans rfl
   have hSD:(Builtin.unsafeSliceData_ #[64] 193 #[.slice (some ⟨g,0,none⟩) l.length cap]).run Tryz.prog w.drew= .ok (.pointer (some ⟨g,0,none⟩)) w.drew:=Lib.run_unsafeSliceData_row _ _ _ _ _ _ (by omega)
   have hUS:(Builtin.unsafeString_ #[193,3] 9 #[.pointer (some ⟨g,0,none⟩),.int .i64 l.length]).run Tryz.prog w.drew= .ok (.string ⟨l.toArray⟩) (w.drew.freeze ⟨g,0,none⟩ l.length):=by
    refine Lib.run_unsafeString_row w.drew 193 3 9 5 Tryz.underlying193 (by kernel_rfl) g cur.size (by have hg':w.drew.heap[g]? = some (.cells cur 5 (0,0)):=hg; simp[World.shape?,hg']) l hl1 (by omega) (by unfold maxLen at hcm; omega) ?_
    intro j x hx
    have:=ho.cells (g:=g) rfl j (.int .u8 x.toNat) (by simp[aK,hx])
    exact this
   clear hb ho hp hg htake hcs hl1 hlen hUS0
   go_enter Tryz.func86,Tryz.ntmps86
   go_wp2
   go_region
   all_goals (go_wp2; go_ret; exact⟨_,_,_,rfl,⟨rfl,rfl,rfl⟩,DONE.out _ (xe (Fr.refl F w).drew (p:=⟨g,0,none⟩) HGF.out _)⟩)
def sF (st:List UInt8) (s:List UInt8):Option (List UInt8):=if st.length+s.length≤140737488355328 then some (st++s) else none
theorem sG (g:Nat) (st:List UInt8) (s:List UInt8) (r:List UInt8) (h:sF st s=some r):ay Tryz.prog 85 #[.pointer (some ⟨g,0,none⟩),.string (aF s)] .triv (ni g st) (fun v A' N=>v= .tuple #[.int .i64 (aF s).size,.nilIface]∧A'=ni g r∧N = []):=by
 unfold sF at h
 split at h
 ·rename_i h1
  obtain rfl:=CP h
  have k:=va g st (aF s) (by rw[bsOf_size]; exact h1)
  rw[bH] at k
  exact AJ k
 ·simp at h
def yi (st:List UInt8):Option (List UInt8):=some st
theorem vb (g:Nat) (st:List UInt8) (r:List UInt8) (h:yi st=some r):ay Tryz.prog 86 #[.pointer (some ⟨g,0,none⟩)] .triv (ni g st) (fun v A' N=>v= .string (aF r)∧A'=aB∧N = []):=by
 unfold yi at h
 obtain rfl:=CP h
 exact AJ (tK g _)
section
variable {P:Program} {n:Nat} {F0:Nat→Prop} {w0:World} {e:Env} {Rs Rf:List Res} {Q:Exit→Act→World→Prop} {ops:Array Oper} {i d:Nat} {ty t:TypeId} {pos:String} {af:Array Edge} {gd:Option (Nat×Bool)} {l:List Nat} {lo:Sch}
theorem ni.of_blk {b:Nat} {w:World} {G:Nat→Prop} (h:(aC b 148 #[.pointer none,.slice none 0 0]).P w G):(ni b []).P w G:=by
 obtain⟨h1,h2⟩:=h
 exact⟨_,_,.inl rfl,h1,World.ownsRow_nil _ _ _ _,fun k=>by simp[h2 k,Value.ownBlock]⟩
theorem TL.newbld {zv:Value} (ho:ops[i]? = some ⟨some d,.alloc t,ty,pos,af,gd⟩) (hw:Wd n ops e ⟨some d,.alloc t,ty,pos,af,gd⟩ true) (hz: ∀ w,(zeroValue t).run P w= .ok zv w) (hd:Nat.blt d n=true)
 (h: ∀ b,TL P n F0 w0 ops l ((d,.pointer (some ⟨b,0,none⟩))::e) (ni b []::Rs) Q) (ht:t=148:=by rfl) (hzv:zv= .agg #[.pointer none,.slice none 0 0]:=by rfl):TL P n F0 w0 ops (i::l) e Rs Q:=by
 refine TL.alloc ho hw hz hd (fun b=> ?_)
 intro a w ha hs
 subst ht hzv
 exact h b a w ha (hs.weaken 0 rfl (fun G hG=>ni.of_blk hG))
end
section
variable {α:Type} {P:Program} {n:Nat} {F0:Nat→Prop} {w0:World} {e:Env} {Rs:List Res} {Q:Exit→Act→World→Prop} {ops:Array Oper} {l:List Nat} {c:Code} {S:Nat→Prop} {E:Rd α} {size m cp k:Nat} {A:Option Addr} {xs:List α} {x:α} {B:Res}
end
def xh:fv := [(185,0,0),(185,1,1)]
theorem aH:(xh).OK Tryz.prog:=⟨FOK.mk D9 rfl DT rfl,FOK.mk D9 rfl C7 rfl,trivial⟩
theorem qh:BOK Tryz.prog 185 #[.string ⟨#[]⟩,.bool false,.string ⟨#[]⟩] [(0,1),(1,2)]:=BOK.mk Tryz.zeroValue185 D9 (by intro w; simp)
theorem pc:SOK Tryz.prog 36 185 1 3 #[.string ⟨#[]⟩,.bool false,.string ⟨#[]⟩]:=SOK.mk Dl DN Tryz.zeroValue185 (by decide) (by kernel_rfl)
theorem qi:(Tryz.prog.info? 185).map (fun i=>(i.zero,i.size,i.bytes))=some (some (.agg #[.string ⟨#[]⟩,.bool false,.string ⟨#[]⟩]),3,40):=by kernel_rfl
def dZ:List Hd→(List UInt8×Int)→Option (List UInt8×Int)
 | [],st6=>some st6
 | x11::xs,st6=>(nb st6 x11.Cs).bind fun st16=>(iR st16 x11.Cg).bind fun st18=>dZ xs st18
def iW (st:List UInt8×Int) (a1:List Hd):Option (List UInt8×Int):=(pE st (a1.length:Int)).bind fun st3=>(dZ a1 st3).bind fun st21=>some st21
theorem md (g:Nat) (st:List UInt8×Int) (a1:List Hd) (A1:Option Addr) (c2:Nat) (r:List UInt8×Int) (h:iW st a1=some r):ay Tryz.prog 162 #[jP g,.slice A1 a1.length c2] (RX.of (av 3 bf) [.slice A1 a1.length c2] a1) (aW g st) (fun v A' N=>v= .tuple #[]∧A'=aW g r∧N = []):=by
 refine aL Tryz.func162 Z Tryz.ntmps162 Z ?_
 intro F w hX
 unfold iW at h
 refine T.seq (T.region Z (TL.run aH [0,1] Z Z (TL.q Z .u (AA Z Dl) Z ?_)))
 obtain⟨st3,hx4,h⟩:=CM h
 refine AZ Z .u (.fn Tryz.call160 Z) (na g st (a1.length:Int) _ hx4) (fun _ hs=>(Src.triv _)) Z (TL.nil (X.seq (T.seq (T.region Z (TL.run aH [0] Z Z (TL.q Z .u (AA Z Dl) Z (TL.run aH [2] Z Z (TL.nil (X.seq (T.block ?_))))))))))
 obtain⟨E7,hE8,hO9⟩:=CM h
 have hk13len:=Bf hX
 refine AV (fun m e Rs=> ∃ (k5:Nat) (st6:List UInt8×Int),k5+m=a1.length∧e = [(0,jP g),(10,.slice A1 a1.length c2),(11,jI (a1.length:Int)),(12,jI (k5:Int))]∧Rs = [aW g st6]∧dZ (a1.drop k5) st6=some E7) (a1.length) [0] ⟨0,st3,by simp,Z,Z,by rw[List.drop_zero]; exact hE8⟩ (by rfl) (by rfl) ?_
 rintro m10 _ _ ⟨k5,st6,hk13,rfl,rfl,hl12⟩
 clear hE8 h
 cases m10 with
 | zero =>
  have h:=hl12
  clear hl12
  rw[List.drop_of_length_le (by omega),dZ] at h
  have hk13ge: ¬ ((k5:Int)<(a1.length:Int)):=by omega
  refine T.seq (T.region Z (TL.run aH [0] Z Z (TL.nil (X.seq (T.seq (Ap Z (CO hk13ge) ?_))))))
  obtain rfl:=CP h
  replace h:=hO9
  clear hO9
  try dsimp only at h
  obtain rfl:=CP h
  exact T.exit (Au (Au (AS (BH [0] Tryz.results162 ⟨Z,Z,Z⟩ (by rfl) (.inr Z)))))
 | succ m10 =>
  have h:=hl12
  clear hl12
  obtain⟨x11,hxx11⟩: ∃ x,a1[k5]? = some x:=⟨_,List.getElem?_eq_getElem (by omega)⟩
  rw[bU hxx11,dZ] at h
  have hk13lt:(k5:Int)<(a1.length:Int):=by omega
  refine T.seq (T.region Z (TL.run aH [0] Z Z (TL.nil (X.seq (T.seq (Am Z (CN hk13lt) ?_))))))
  obtain⟨gz14,oz14,rfl,z14cs,z14cl,z14cc,z14nf,z14r⟩:=AK (by decide) hX hxx11
  obtain⟨z14S,z14r,z14rr⟩:=z14r
  obtain rfl:z14cs = [jS x11.Cs,.bool x11.Cg.null,jS x11.Cg.data]:=z14r
  refine T.skip (X.seq (T.seq (T.block (T.seq (T.region Z ?_)))))
  refine TL.q Z .u (Aw (k:=k5) Z Z Z Dl DN (CU hxx11).1) Z ?_
  refine TL.q Z .u (Bb (us := [jS x11.Cs,.bool x11.Cg.null,jS x11.Cg.data]) 0 Z E0 DN z14nf z14cc Z Z Z) Z (TL.alloc Z .u Tryz.zeroValue185 Z (fun b15=>(Ay (cs':= #[jS x11.Cs,.bool x11.Cg.null,jS x11.Cg.data]) Z .u Z Z DN Z Z Z Z (TL.nil (X.seq (T.seq (T.region Z (TL.run aH [0,1] Z Z (TL.q Z .u (Ai 0 Z Dp Z Z) Z ?_)))))))))
  obtain⟨st16,hx17,h⟩:=CM h
  refine Bd Z .u (.fn Tryz.call140 Z) (mt g st6 x11.Cs _ hx17) (fun _ hs=>(Src.triv _)) Z (TL.nil (X.seq (T.region Z (TL.run aH [0,1] Z Z (TL.q Z .u (Av (us := [.bool x11.Cg.null,jS x11.Cg.data]) 0 Z Dw C7 Z Z Z) Z ?_)))))
  obtain⟨st18,hx19,h⟩:=CM h
  exact Bd Z .u (.fn Tryz.call161 Z) (im g st16 x11.Cg _ hx19) (fun _ hs=>(Src.triv _)) Z (TL.nil (Az (X.seq (T.region Z (TL.q Z .u (Ex.add Z Z (by omega)) Z (TL.run aH [1] Z Z (TL.nil (X.back (m':=m10) [1] (by omega) ⟨k5+1,st18,by omega,Z,Z,h⟩ (by rfl) (by rfl)))))))))
def bV (x1:Int):Nat→List Hd→List Hd→Nat→I→Option (Lp (List Hd×I) (List Hd×List Hd×Nat×I))
 | 0,_,_,_,_=>none
 | m29+1,y18,y21,k24,st25=>if (k24:Int)<x1 then ((p8 st25).bind fun (x34,st35)=>(bF st35).bind fun (x37,st38)=>if (y21.length+1)*40≤140737488355328 then ((iD st38).bind fun (x44,st45)=>if x44=0 then (if -9223372036854775808≤((k24:Int)+1)∧((k24:Int)+1)≤9223372036854775807 then (bV x1 m29 y18 (y21 ++ [(⟨x34,x37⟩:Hd)]) (k24+1) st45) else none) else (some (Lp.ret ([],st45)))) else none) else (some (Lp.go (y18,y21,k24,st25)))
def aY (st:I)  : Option (List Hd×I):=(kN st).bind fun (x1,st2)=>(iD st2).bind fun (x4,st5)=>if x4=0 then (if x1<0 then ((bE st5 4).bind fun st9=>some ([],st9)) else ((pX st5).bind fun (x11,st12)=>if 0≤x11∧x11≤9223372036854775807 then (if x1>(x11 / 2) then ((bE st12 1).bind fun st16=>some ([],st16)) else ((bV x1 ((x1).toNat+1) [] [] 0 st12).bind fun e=>match e with | .ret r=>some r | .go (y49,y52,k55,st56)=>some (y52,st56))) else none)) else some ([],st5)
theorem eE (g:Nat) (st:I)  (r:List Hd×I) (h:aY st  = some r):ay Tryz.prog 167 #[jP g] .triv (InR g st) (fun v A' N=> ∃ (A57:Option Addr) (c58:Nat),v= .slice A57 r.1.length c58∧A'=InR g r.2∧N = [RdR (av 3 bf) [.slice A57 r.1.length c58] r.1]):=by
 refine aL Tryz.func167 Z Tryz.ntmps167 Z ?_
 intro F w hX
 unfold aY at h
 refine T.seq (T.region Z (TL.run aH [0] Z Z (TL.nil (X.seq (T.seq (T.region Z ?_))))))
 obtain⟨⟨x1,st2⟩,hx3,h⟩:=CM h
 try dsimp only at h
 refine TL.run aH [0] Z Z (AZ Z .u (.fn Tryz.call165 Z) (mK g st _ hx3) (fun _ hs=>(Src.triv _)) Z (TL.run aH [2] Z Z (TL.nil (X.seq (T.seq (T.block (T.seq (T.region Z ?_))))))))
 obtain⟨⟨x4,st5⟩,hx6,h⟩:=CM h
 try dsimp only at h
 refine TL.run aH [0] Z Z (AZ Z .u (.fn Tryz.call21 Z) (dr g st2 _ hx6) (fun _ hs=>(Src.triv _)) Z (TL.run aH [2,3] Z Z ?_))
 rcases jF h with⟨c7,h⟩ | ⟨c7,h⟩
 ·refine TL.nil (X.seq (Ap Z (az (CN c7)) (T.seq (T.region Z (TL.run aH [0,1,2] Z Z ?_)))))
  rcases jF h with⟨c8,h⟩ | ⟨c8,h⟩
  ·refine TL.nil (X.seq (Am Z (CN c8) (T.seq (T.region Z ?_))))
   obtain⟨st9,hx10,h⟩:=CM h
   refine TL.run aH [0] Z Z (AZ Z .u (.fn Tryz.call61 Z) (bg g st5 4 _ hx10) (fun _ hs=>(Src.triv _)) Z (TL.nil (X.seq (T.seq (T.region Z (TL.run aH [0] Z Z ?_))))))
   obtain rfl:=CP h
   exact TL.nil (X.seq (T.ret (At (Al (AO 3 bf (Ak [1,0] EQ (Aj Z) ⟨_,_,Z,Z,Z⟩ (by rfl) (.inl Z)))))))
  ·refine TL.nil (X.seq (Ap Z (CO c8) (T.seq (T.region Z ?_))))
   obtain⟨⟨x11,st12⟩,hx13,h⟩:=CM h
   try dsimp only at h
   refine TL.run aH [0,1] Z Z (AZ Z .u (.fn Tryz.call82 Z) (kw g st5 _ hx13) (fun _ hs=>(Src.triv _)) Z ?_)
   replace h:=ak h
   obtain⟨c14,h⟩:=h
   refine TL.q Z .u (Ex.quo Z Z (by omega) c14) Z (TL.run aH [4,5] Z Z ?_)
   rcases jF h with⟨c15,h⟩ | ⟨c15,h⟩
   ·refine TL.nil (X.seq (Am Z (CN c15) (T.seq (T.region Z ?_))))
    obtain⟨st16,hx17,h⟩:=CM h
    refine TL.run aH [0] Z Z (AZ Z .u (.fn Tryz.call61 Z) (bg g st12 1 _ hx17) (fun _ hs=>(Src.triv _)) Z (TL.nil (X.seq (T.seq (T.region Z (TL.run aH [0] Z Z ?_))))))
    obtain rfl:=CP h
    exact TL.nil (X.seq (T.ret (At (Al (AO 3 bf (Ak [1,0] EQ (Aj Z) ⟨_,_,Z,Z,Z⟩ (by rfl) (.inl Z)))))))
   ·refine TL.nil (X.seq (Ap Z (CO c15) (T.skip (Az (X.seq (T.seq (T.region Z (TL.run aH [0] Z Z (TL.nil (X.seq (T.seq (T.seq (T.region Z (TL.run aH [0,1] Z Z (TL.nil (X.seq (T.block ?_)))))))))))))))))
    iterate 2 refine Bt 185 3 bf ?_
    obtain⟨E26,hE27,hO28⟩:=CM h
    refine AV (fun m e Rs=> ∃ (y18:List Hd) (A19:Option Addr) (c20:Nat) (y21:List Hd) (A22:Option Addr) (c23:Nat) (k24:Nat) (st25:I),e = [(0,jP g),(2,.slice A19 y18.length c20),(4,.slice A22 y21.length c23),(25,jI x1),(26,jI (k24:Int))]∧Rs = [aZ 185 3 bf (.slice A19 y18.length c20) y18,aZ 185 3 bf (.slice A22 y21.length c23) y21,InR g st25]∧bV x1 m y18 y21 k24 st25=some E26) ((x1).toNat+1) [0,0,0] ⟨[],none,0,[],none,0,0,st12,Z,Z,by exact hE27⟩ (by rfl) (by rfl) ?_
    rintro m29 _ _ ⟨y18,A19,c20,y21,A22,c23,k24,st25,rfl,rfl,hl31⟩
    clear hE27 h
    cases m29 with
    | zero =>
     rw[bV] at hl31
     cases hl31
    | succ m29 =>
     have h:=hl31
     clear hl31
     rw[bV] at h
     refine T.seq (T.region Z (TL.run aH [0] Z Z ?_))
     rcases jF h with⟨c33,h⟩ | ⟨c33,h⟩
     ·refine TL.nil (X.seq (T.seq (Am Z (CN c33) (T.skip (X.seq (T.seq (T.block (T.seq (T.region Z ?_)))))))))
      obtain⟨⟨x34,st35⟩,hx36,h⟩:=CM h
      try dsimp only at h
      refine TL.run aH [0] Z Z (BA Z .u (.fn Tryz.call163 Z) (p9 g st25 _ hx36) (fun _ hs=>(Src.triv _)) Z (TL.run aH [2] Z Z (TL.nil (X.seq (T.seq (T.region Z ?_))))))
      obtain⟨⟨x37,st38⟩,hx39,h⟩:=CM h
      try dsimp only at h
      refine TL.run aH [0,1,2] Z Z (BA Z .u (.fn Tryz.call166 Z) (dw g st35 _ hx39) (fun _ hs=>(Src.triv _)) Z ?_)
      refine TL.q Z .u (AD (cells:= #[jS x34,.bool x37.null,jS x37.data]) qh Z (by kernel_rfl)) Z ?_
      refine Bk (cells:= #[jS x34,.bool x37.null,jS x37.data]) Z .u pc Z (by kernel_rfl) Z (fun b40=> ?_)
      replace h:=ak h
      obtain⟨c41,h⟩:=h
      refine TL.app1 1 Z .u (us := [jS x34,.bool x37.null,jS x37.data]) (u:=(⟨x34,x37⟩:Hd)) (l:=y21) (E:=bf) Tryz.underlying36 qi Z (by decide) Z Z Z Z Z Z (fun _ _=>Z) (by have hq:=c41; omega) (by have hq:=c41; omega) Z (fun A42 c43=> ?_)
      refine AC [0,0,0] Z (TL.run aH [7] Z Z (TL.nil (X.seq (T.seq (T.region Z ?_)))))
      obtain⟨⟨x44,st45⟩,hx46,h⟩:=CM h
      try dsimp only at h
      refine TL.run aH [0] Z Z (BA Z .u (.fn Tryz.call21 Z) (dr g st38 _ hx46) (fun _ hs=>(Src.triv _)) Z (TL.run aH [2] Z Z ?_))
      rcases jF h with⟨c47,h⟩ | ⟨c47,h⟩
      ·refine TL.nil (X.seq (Ap Z (az (CN c47)) ?_))
       replace h:=ak h
       obtain⟨c48,h⟩:=h
       exact T.skip (Az (X.seq (T.region Z (TL.q Z .u (Ex.add Z Z c48) Z (TL.run aH [1] Z Z (TL.nil (X.back (m':=m29) [0,0,0] (by omega) ⟨y18,A19,c20,(y21 ++ [(⟨x34,x37⟩:Hd)]),A42,c43,k24+1,st45,Z,Z,h⟩ (by rfl) (by rfl))))))))
      ·refine TL.nil (X.seq (Am Z (aD (CO c47)) (T.seq (T.region Z (TL.run aH [0] Z Z ?_)))))
       obtain rfl:=CP h
       replace h:=hO28
       clear hO28
       try dsimp only at h
       obtain rfl:=CP h
       exact TL.nil (X.seq (T.ret (At (Al (Al (At (Al (AO 3 bf (Ak [3,0] EQ (Aj Z) ⟨_,_,Z,Z,Z⟩ (by rfl) (.inl Z))))))))))
     ·refine TL.nil (X.seq (T.seq (Ap Z (CO c33) ?_)))
      obtain rfl:=CP h
      replace h:=hO28
      clear hO28
      try dsimp only at h
      refine T.exit (Au (Au (AS (X.seq (T.seq (T.region Z (TL.run aH [0,1] Z Z ?_)))))))
      obtain rfl:=CP h
      exact TL.nil (X.seq (T.ret (Bu (by decide) 1 Z (AQ [0,0,0] Z (Ak [2,1] EQ (Aj Z) ⟨_,_,Z,Z,Z⟩ (by rfl) (.inl Z))))))
 ·refine TL.nil (X.seq (Am Z (aD (CO c7)) (T.seq (T.region Z (TL.run aH [0] Z Z ?_)))))
  obtain rfl:=CP h
  exact TL.nil (X.seq (T.ret (At (Al (AO 3 bf (Ak [1,0] EQ (Aj Z) ⟨_,_,Z,Z,Z⟩ (by rfl) (.inl Z)))))))
def xi:fv := [(38,0,0),(38,1,1),(38,2,2),(38,3,4),(38,4,6),(185,1,1)]
theorem ar:(xi).OK Tryz.prog:=⟨FOK.mk Dj rfl CY rfl,FOK.mk Dj rfl CY rfl,FOK.mk Dj rfl C7 rfl,FOK.mk Dj rfl C7 rfl,FOK.mk Dj rfl En rfl,FOK.mk D9 rfl C7 rfl,trivial⟩
theorem eh:BOK Tryz.prog 38 #[.int .i64 0,.int .i64 0,.bool false,.string ⟨#[]⟩,.bool false,.string ⟨#[]⟩,.slice none 0 0] [(0,1),(1,1),(2,2),(4,2),(6,1)]:=BOK.mk Tryz.zeroValue38 Dj (by intro w; simp)
theorem nQ:SOK Tryz.prog 233 35 1 2 #[.bool false,.string ⟨#[]⟩]:=SOK.mk EH C7 Tryz.zeroValue35 (by decide) (by kernel_rfl)
theorem nR:SOK Tryz.prog 233 35 2 2 #[.bool false,.string ⟨#[]⟩,.bool false,.string ⟨#[]⟩]:=SOK.mk EH C7 Tryz.zeroValue35 (by decide) (by kernel_rfl)
def cG:List Bl→Bool→Option (Lp Bool Bool)
 | [],y3=>some (Lp.go y3)
 | x9::xs,y3=>(nN x9).bind fun x14=>if x14=true then (cG xs y3) else some (Lp.ret false)
def dW (a0:List Bl):Option (Bool):=(cG a0 false).bind fun e=>match e with | .ret r=>some r | .go y17=>some true
theorem gZ (a0:List Bl) (A1:Option Addr) (c2:Nat) (r:Bool) (h:dW a0=some r):ay Tryz.prog 138 #[.slice A1 a0.length c2] (RX.of (av 2 vS) [.slice A1 a0.length c2] a0) (aB) (fun v A' N=>v= .bool r∧A'=aB∧N = []):=by
 refine aL Tryz.func138 Z Tryz.ntmps138 Z ?_
 intro F w hX
 unfold dW at h
 refine T.seq (T.region Z (TL.run ar [0] Z Z (TL.nil (X.seq (T.seq (T.seq (T.region Z (TL.run ar [0] Z Z (TL.q Z .u (AA Z EH) Z (TL.run ar [2] Z Z (TL.nil (X.seq (T.block ?_)))))))))))))
 obtain⟨E5,hE6,hO7⟩:=CM h
 have hk11len:=Bf hX
 refine AV (fun m e Rs=> ∃ (y3:Bool) (k4:Nat),k4+m=a0.length∧e = [(2,.bool y3),(5,.slice A1 a0.length c2),(6,jI (a0.length:Int)),(7,jI (k4:Int))]∧Rs = [aB]∧cG (a0.drop k4) y3=some E5) (a0.length) [0] ⟨false,0,by simp,Z,Z,by rw[List.drop_zero]; exact hE6⟩ (by rfl) (by rfl) ?_
 rintro m8 _ _ ⟨y3,k4,hk11,rfl,rfl,hl10⟩
 clear hE6 h
 cases m8 with
 | zero =>
  have h:=hl10
  clear hl10
  rw[List.drop_of_length_le (by omega),cG] at h
  have hk11ge: ¬ ((k4:Int)<(a0.length:Int)):=by omega
  refine T.seq (T.region Z (TL.run ar [0] Z Z (TL.nil (X.seq (T.seq (Ap Z (CO hk11ge) ?_))))))
  obtain rfl:=CP h
  replace h:=hO7
  clear hO7
  try dsimp only at h
  refine T.exit (Au (Au (AS (X.seq (T.seq (T.region Z (TL.run ar [0] Z Z ?_)))))))
  obtain rfl:=CP h
  exact TL.nil (X.seq (T.ret (Ak [0] Tryz.results138 (Aj Z) ⟨Z,Z,Z⟩ (by rfl) (.inl Z))))
 | succ m8 =>
  have h:=hl10
  clear hl10
  obtain⟨x9,hxx9⟩: ∃ x,a0[k4]? = some x:=⟨_,List.getElem?_eq_getElem (by omega)⟩
  rw[bU hxx9,cG] at h
  have hk11lt:(k4:Int)<(a0.length:Int):=by omega
  refine T.seq (T.region Z (TL.run ar [0] Z Z (TL.nil (X.seq (T.seq (Am Z (CN hk11lt) ?_))))))
  obtain⟨gz12,oz12,rfl,z12cs,z12cl,z12cc,z12nf,z12r⟩:=AK (by decide) hX hxx9
  obtain⟨z12S,z12r,z12rr⟩:=z12r
  obtain rfl:z12cs = [.bool x9.null,jS x9.data]:=z12r
  refine T.skip (X.seq (T.seq (T.block (T.seq (T.region Z ?_)))))
  refine TL.q Z .u (Aw (k:=k4) Z Z Z EH C7 (CU hxx9).1) Z ?_
  refine TL.q Z .u (Bb (us := [.bool x9.null,jS x9.data]) 0 Z Dw C7 z12nf z12cc Z Z Z) Z (TL.alloc Z .u Tryz.zeroValue35 Z (fun b13=>(Ay (cs':= #[.bool x9.null,jS x9.data]) Z .u Z Z C7 Z Z Z Z (TL.nil (X.seq (T.seq (T.region Z (TL.q Z .u (Av (us := [.bool x9.null,jS x9.data]) 0 Z Dw C7 Z Z Z) Z ?_))))))))
  obtain⟨x14,hx15,h⟩:=CM h
  refine Ax Z .u (.fn Tryz.call76 Z) (oR x9 _ hx15) (fun _ hs=>(RX.reads_triv _ _)) Z (TL.run ar [2] Z Z ?_)
  rcases jF h with⟨c16,h⟩ | ⟨c16,h⟩
  ·exact TL.nil (X.seq (Ap Z (az c16) (T.skip (Az (X.seq (T.region Z (TL.q Z .u (Ex.add Z Z (by omega)) Z (TL.run ar [1] Z Z (TL.nil (X.back (m':=m8) [1] (by omega) ⟨y3,k4+1,by omega,Z,Z,h⟩ (by rfl) (by rfl)))))))))))
  ·replace c16:=CX c16
   refine TL.nil (X.seq (Am Z (aD c16) (T.seq (T.region Z (TL.run ar [0] Z Z ?_)))))
   obtain rfl:=CP h
   replace h:=hO7
   clear hO7
   try dsimp only at h
   obtain rfl:=CP h
   exact TL.nil (X.seq (T.ret (At (Al (Al (At (Al (Ak [1] Tryz.results138 (Aj Z) ⟨Z,Z,Z⟩ (by rfl) (.inl Z)))))))))
def cO:List Hd→Int→Option (Lp Int Int)
 | [],y12=>some (Lp.go y12)
 | x18::xs,y12=>(dW [x18.Cg]).bind fun x24=>if x24=true then (cO xs y12) else some (Lp.ret 4)
def dN (a0:Rec):Option (Int):=if a0.Cv<0 then some 11 else ((jW a0.Cv 4).bind fun x5=>if x5=true then ((dW [a0.Cs,a0.Cg]).bind fun x9=>if x9=true then ((cO a0.Cn 0).bind fun e=>match e with | .ret r=>some r | .go y27=>some 0) else some 4) else some 11)
theorem fB (a0:Rec) (A1:Option Addr) (c2:Nat) (r:Int) (h:dN a0=some r):ay Tryz.prog 94 #[.agg #[jI a0.CC,jI a0.Cv,.bool a0.Cs.null,jS a0.Cs.data,.bool a0.Cg.null,jS a0.Cg.data,.slice A1 a0.Cn.length c2]] (RX.of (av 3 bf) [.slice A1 a0.Cn.length c2] a0.Cn) (aB) (fun v A' N=>v=jI r∧A'=aB∧N = []):=by
 refine aL Tryz.func94 Z Tryz.ntmps94 Z ?_
 intro F w hX
 unfold dN at h
 refine T.seq (T.region Z (TL.box Z .u Z Z (fun b3=>(TL.run ar [1] Z Z (TL.nil (X.seq (T.seq (T.seq (T.region Z (TL.run ar [0] Z Z (TL.q Z .u (Ai 0 Z CV Z Z) Z ?_)))))))))))
 rcases jF h with⟨c4,h⟩ | ⟨c4,h⟩
 ·refine TL.run ar [2,3] Z Z ?_
  iterate 4 refine An Z (.gn Z Z (CN c4)) Z ?_
  refine TL.q Z .u (Aq Z (CN c4) Z) Z (TL.nil (X.seq (Am Z Z (T.seq (T.region Z (TL.run ar [0] Z Z ?_))))))
  obtain rfl:=CP h
  exact TL.nil (X.seq (T.ret (Al (Ak [1] EU (Aj Z) ⟨Z,Z,Z⟩ (by rfl) (.inl Z)))))
 ·refine TL.run ar [2,3] Z Z (TL.q Z (.g Z Z (CO c4)) (Ao ar Z) Z (TL.q Z (.g Z Z (CO c4)) (Ai 0 Z CV Z Z) Z ?_))
  obtain⟨x5,hx6,h⟩:=CM h
  refine Ax Z (.g Z Z (CO c4)) (.fn Tryz.call78 Z) (AN (fun w=>eC a0.Cv 4 _ hx6 w)) (fun _ _=>RX.reads_triv _ _) Z (TL.q Z (.g Z Z (CO c4)) (Ao ar Z) Z (TL.q Z .u (Ar Z (CO c4) Z) Z ?_))
  rcases jF h with⟨c7,h⟩ | ⟨c7,h⟩
  ·refine TL.nil (X.seq (Ap Z (az c7) (T.skip (X.seq (T.seq (T.seq (T.region Z (TL.run ar [0] Z Z (TL.q Z .u (Av (us := [.bool a0.Cs.null,jS a0.Cs.data]) 0 Z Dw C7 Z Z Z) Z (TL.run ar [2] Z Z (TL.q Z .u (Av (us := [.bool a0.Cg.null,jS a0.Cg.data]) 0 Z Dw C7 Z Z Z) Z ?_)))))))))))
   refine Bk (cells:= #[.bool a0.Cs.null,jS a0.Cs.data,.bool a0.Cg.null,jS a0.Cg.data]) Z .u nR Z (by kernel_rfl) Z (fun b8=> ?_)
   refine BO (us := [.bool a0.Cs.null,jS a0.Cs.data,.bool a0.Cg.null,jS a0.Cg.data]) (xs := [a0.Cs,a0.Cg]) (E:=vS) (z:=2) Z (Nat.le_of_ble_eq_true Z) (fun _=>⟨Z,Z,⟨Z,Z,Z⟩⟩) ?_
   obtain⟨x9,hx10,h⟩:=CM h
   refine Ax Z .u (.fn Tryz.call138 Z) (gZ [a0.Cs,a0.Cg] _ _ _ hx10) (fun _ hs=>(SrcE.res 0 hs Z (fun w G h=>aP (by decide) w G h))) Z (TL.run ar [6] Z Z ?_)
   rcases jF h with⟨c11,h⟩ | ⟨c11,h⟩
   ·refine TL.nil (X.seq (Ap Z (az c11) (T.skip (X.seq (T.seq (T.seq (T.region Z (TL.run ar [0] Z Z (TL.q Z .u (Ai 1 Z EB Z Z) Z (TL.q Z .u (AA Z Dl) Z (TL.run ar [3] Z Z (TL.nil (X.seq (T.block ?_))))))))))))))
    obtain⟨E14,hE15,hO16⟩:=CM h
    have hk20len:=Bf hX
    refine AV (fun m e Rs=> ∃ (y12:Int) (k13:Nat),k13+m=a0.Cn.length∧e = [(2,jI y12),(22,.slice A1 a0.Cn.length c2),(23,jI (a0.Cn.length:Int)),(24,jI (k13:Int))]∧Rs = [aZ 35 2 vS (.slice (some ⟨b8,0,none⟩) 2 2) [a0.Cs,a0.Cg],aC b3 38 #[jI a0.CC,jI a0.Cv,.bool a0.Cs.null,jS a0.Cs.data,.bool a0.Cg.null,jS a0.Cg.data,.slice A1 a0.Cn.length c2],aB]∧cO (a0.Cn.drop k13) y12=some E14) (a0.Cn.length) [0,0,0] ⟨0,0,by simp,Z,Z,by rw[List.drop_zero]; exact hE15⟩ (by rfl) (by rfl) ?_
    rintro m17 _ _ ⟨y12,k13,hk20,rfl,rfl,hl19⟩
    clear hE15 h
    cases m17 with
    | zero =>
     have h:=hl19
     clear hl19
     rw[List.drop_of_length_le (by omega),cO] at h
     have hk20ge: ¬ ((k13:Int)<(a0.Cn.length:Int)):=by omega
     refine T.seq (T.region Z (TL.run ar [0] Z Z (TL.nil (X.seq (T.seq (Ap Z (CO hk20ge) ?_))))))
     obtain rfl:=CP h
     replace h:=hO16
     clear hO16
     try dsimp only at h
     refine T.exit (Au (Au (AS (X.seq (T.seq (T.region Z (TL.run ar [0] Z Z ?_)))))))
     obtain rfl:=CP h
     exact TL.nil (X.seq (T.ret (Ak [2] EU (Aj Z) ⟨Z,Z,Z⟩ (by rfl) (.inl Z))))
    | succ m17 =>
     have h:=hl19
     clear hl19
     obtain⟨x18,hxx18⟩: ∃ x,a0.Cn[k13]? = some x:=⟨_,List.getElem?_eq_getElem (by omega)⟩
     rw[bU hxx18,cO] at h
     have hk20lt:(k13:Int)<(a0.Cn.length:Int):=by omega
     refine T.seq (T.region Z (TL.run ar [0] Z Z (TL.nil (X.seq (T.seq (Am Z (CN hk20lt) ?_))))))
     obtain⟨gz21,oz21,rfl,z21cs,z21cl,z21cc,z21nf,z21r⟩:=AK (by decide) hX hxx18
     obtain⟨z21S,z21r,z21rr⟩:=z21r
     obtain rfl:z21cs = [jS x18.Cs,.bool x18.Cg.null,jS x18.Cg.data]:=z21r
     refine T.skip (X.seq (T.seq (T.block (T.seq (T.region Z ?_)))))
     refine TL.q Z .u (Aw (k:=k13) Z Z Z Dl DN (CU hxx18).1) Z ?_
     refine TL.q Z .u (Bb (us := [jS x18.Cs,.bool x18.Cg.null,jS x18.Cg.data]) 0 Z E0 DN z21nf z21cc Z Z Z) Z (TL.alloc Z .u Tryz.zeroValue185 Z (fun b22=>(Ay (cs':= #[jS x18.Cs,.bool x18.Cg.null,jS x18.Cg.data]) Z .u Z Z DN Z Z Z Z (TL.nil (X.seq (T.seq (T.region Z (TL.run ar [0] Z Z (TL.q Z .u (Av (us := [.bool x18.Cg.null,jS x18.Cg.data]) 0 Z Dw C7 Z Z Z) Z (Bk (cells:= #[.bool x18.Cg.null,jS x18.Cg.data]) Z .u nQ Z (by rfl) Z (fun b23=>(BO (us := [.bool x18.Cg.null,jS x18.Cg.data]) (xs := [x18.Cg]) (E:=vS) (z:=2) Z (Nat.le_of_ble_eq_true Z) (fun _=>⟨Z,Z,Z⟩) ?_))))))))))))
     obtain⟨x24,hx25,h⟩:=CM h
     refine Ax Z .u (.fn Tryz.call138 Z) (gZ [x18.Cg] _ _ _ hx25) (fun _ hs=>(SrcE.res 0 hs Z (fun w G h=>aP (by decide) w G h))) Z (TL.run ar [4] Z Z ?_)
     rcases jF h with⟨c26,h⟩ | ⟨c26,h⟩
     ·exact TL.nil (X.seq (Ap Z (az c26) (T.skip (Az (X.seq (T.region Z (TL.q Z .u (Ex.add Z Z (by omega)) Z (TL.run ar [1] Z Z (TL.nil (X.back (m':=m17) [2,2,2] (by omega) ⟨y12,k13+1,by omega,Z,Z,h⟩ (by rfl) (by rfl)))))))))))
     ·replace c26:=CX c26
      refine TL.nil (X.seq (Am Z (aD c26) (T.seq (T.region Z (TL.run ar [0] Z Z ?_)))))
      obtain rfl:=CP h
      replace h:=hO16
      clear hO16
      try dsimp only at h
      obtain rfl:=CP h
      exact TL.nil (X.seq (T.ret (At (Al (Al (At (Al (Ak [4] EU (Aj Z) ⟨Z,Z,Z⟩ (by rfl) (.inl Z)))))))))
   ·replace c11:=CX c11
    refine TL.nil (X.seq (Am Z (aD c11) (T.seq (T.region Z (TL.run ar [0] Z Z ?_)))))
    obtain rfl:=CP h
    exact TL.nil (X.seq (T.ret (Al (Ak [2] EU (Aj Z) ⟨Z,Z,Z⟩ (by rfl) (.inl Z)))))
  ·replace c7:=CX c7
   refine TL.nil (X.seq (Am Z (aD c7) (T.seq (T.region Z (TL.run ar [0] Z Z ?_)))))
   obtain rfl:=CP h
   exact TL.nil (X.seq (T.ret (Al (Ak [1] EU (Aj Z) ⟨Z,Z,Z⟩ (by rfl) (.inl Z)))))
def jG (a0:Rec):Option (List UInt8×Int):=(uT ([],0) 0).bind fun st5=>(pZ st5 a0.CC).bind fun st7=>(pE st7 a0.Cv).bind fun st9=>(iR st9 a0.Cs).bind fun st11=>(iR st11 a0.Cg).bind fun st13=>(iW st13 a0.Cn).bind fun st15=>(kv st15).bind fun (x17,x18,st19)=>some (x17,x18)
theorem mM (a0:Rec) (A1:Option Addr) (c2:Nat) (r:List UInt8×Int) (h:jG a0=some r):ay Tryz.prog 139 #[.agg #[jI a0.CC,jI a0.Cv,.bool a0.Cs.null,jS a0.Cs.data,.bool a0.Cg.null,jS a0.Cg.data,.slice A1 a0.Cn.length c2]] (RX.of (av 3 bf) [.slice A1 a0.Cn.length c2] a0.Cn) (aB) (fun v A' N=>v= .tuple #[jS r.1,jI r.2]∧A'=aB∧N = []):=by
 refine aL Tryz.func139 Z Tryz.ntmps139 Z ?_
 intro F w hX
 unfold jG at h
 refine T.seq (T.region Z (TL.box Z .u Z Z (fun b3=>(TL.run ar [1,2] Z Z (TL.nil (X.seq (T.seq (T.region Z (B7 Z .u Tryz.zeroValue66 Z (fun b4=> ?_))))))))))
 obtain⟨st5,hx6,h⟩:=CM h
 refine TL.nil (X.seq (T.seq (T.region Z (AZ Z .u (.fn Tryz.call126 Z) (tB b4 ([],0) 0 _ hx6) (fun _ hs=>(Src.triv _)) Z (TL.nil (X.seq (T.seq (T.region Z (TL.run ar [0] Z Z (TL.q Z .u (Ai 1 Z CV Z Z) Z ?_))))))))))
 obtain⟨st7,hx8,h⟩:=CM h
 refine AZ Z .u (.fn Tryz.call159 Z) (rg b4 st5 a0.CC _ hx8) (fun _ hs=>(Src.triv _)) Z (TL.nil (X.seq (T.seq (T.region Z (TL.run ar [0] Z Z (TL.q Z .u (Ai 1 Z CV Z Z) Z ?_))))))
 obtain⟨st9,hx10,h⟩:=CM h
 refine AZ Z .u (.fn Tryz.call160 Z) (na b4 st7 a0.Cv _ hx10) (fun _ hs=>(Src.triv _)) Z (TL.nil (X.seq (T.seq (T.region Z (TL.run ar [0] Z Z (TL.q Z .u (Av (us := [.bool a0.Cs.null,jS a0.Cs.data]) 1 Z Dw C7 Z Z Z) Z ?_))))))
 obtain⟨st11,hx12,h⟩:=CM h
 refine AZ Z .u (.fn Tryz.call161 Z) (im b4 st9 a0.Cs _ hx12) (fun _ hs=>(Src.triv _)) Z (TL.nil (X.seq (T.seq (T.region Z (TL.run ar [0] Z Z (TL.q Z .u (Av (us := [.bool a0.Cg.null,jS a0.Cg.data]) 1 Z Dw C7 Z Z Z) Z ?_))))))
 obtain⟨st13,hx14,h⟩:=CM h
 refine AZ Z .u (.fn Tryz.call161 Z) (im b4 st11 a0.Cg _ hx14) (fun _ hs=>(Src.triv _)) Z (TL.nil (X.seq (T.seq (T.region Z (TL.run ar [0] Z Z (TL.q Z .u (Ai 1 Z EB Z Z) Z ?_))))))
 obtain⟨st15,hx16,h⟩:=CM h
 refine AZ Z .u (.fn Tryz.call162 Z) (md b4 st13 a0.Cn _ _ _ hx16) (fun _ hs=>(Src.old hs hX)) Z ?_
 obtain⟨⟨x17,x18,st19⟩,hx20,h⟩:=CM h
 try dsimp only at h
 refine TL.nil (X.seq (T.seq (T.region Z (AZ Z .u (.fn Tryz.call28 Z) (fV b4 st15 _ hx20) (fun _ hs=>(Src.triv _)) Z (TL.run ar [1,2,3,4] Z Z ?_)))))
 obtain rfl:=CP h
 exact TL.nil (X.seq (T.ret (AL [2] Tryz.results139 (Aj Z) (Aj Z) ⟨Z,Z,Z⟩ (by rfl) (.inl Z))))
def iX (st:List UInt8×Int) (a1:Rec):Option (List UInt8×Int):=(dN a1).bind fun x4=>if x4=0 then ((jG a1).bind fun (x7,x8)=>if x8=0 then ((nb st x7).bind fun st11=>some st11) else ((ku st x8).bind fun st13=>some st13)) else ((ku st x4).bind fun st15=>some st15)
theorem me (g:Nat) (st:List UInt8×Int) (a1:Rec) (A1:Option Addr) (c2:Nat) (r:List UInt8×Int) (h:iX st a1=some r):ay Tryz.prog 96 #[jP g,.agg #[jI a1.CC,jI a1.Cv,.bool a1.Cs.null,jS a1.Cs.data,.bool a1.Cg.null,jS a1.Cg.data,.slice A1 a1.Cn.length c2]] (RX.of (av 3 bf) [.slice A1 a1.Cn.length c2] a1.Cn) (aW g st) (fun v A' N=>v= .tuple #[]∧A'=aW g r∧N = []):=by
 refine aL Tryz.func96 Z Tryz.ntmps96 Z ?_
 intro F w hX
 unfold iX at h
 refine T.seq (T.region Z (TL.box Z .u Z Z (fun b3=>(TL.nil (X.seq (T.seq (T.seq (T.region Z (TL.q Z .u (Av (us := [jI a1.CC,jI a1.Cv,.bool a1.Cs.null,jS a1.Cs.data,.bool a1.Cg.null,jS a1.Cg.data,.slice A1 a1.Cn.length c2]) 0 Z Dr C4 Z Z Z) Z ?_)))))))))
 obtain⟨x4,hx5,h⟩:=CM h
 refine Ax Z .u (.fn Tryz.call94 Z) (fB a1 _ _ _ hx5) (fun _ hs=>(AE hs hX)) Z (TL.run ar [2] Z Z (TL.nil (X.seq (T.seq (T.region Z (TL.run ar [0,1] Z Z ?_))))))
 rcases jF h with⟨c6,h⟩ | ⟨c6,h⟩
 ·refine TL.nil (X.seq (Ap Z (az (CN c6)) (T.skip (X.seq (T.seq (T.region Z (TL.q Z .u (Av (us := [jI a1.CC,jI a1.Cv,.bool a1.Cs.null,jS a1.Cs.data,.bool a1.Cg.null,jS a1.Cg.data,.slice A1 a1.Cn.length c2]) 0 Z Dr C4 Z Z Z) Z ?_)))))))
  obtain⟨⟨x7,x8⟩,hx9,h⟩:=CM h
  try dsimp only at h
  refine Ax Z .u (.fn Tryz.call139 Z) (mM a1 _ _ _ hx9) (fun _ hs=>(AE hs hX)) Z (TL.run ar [2,3,4,5,6] Z Z (TL.nil (X.seq (T.seq (T.seq (T.region Z (TL.run ar [0,1] Z Z ?_)))))))
  rcases jF h with⟨c10,h⟩ | ⟨c10,h⟩
  ·refine TL.nil (X.seq (Ap Z (az (CN c10)) (T.skip (X.seq (T.region Z ?_)))))
   obtain⟨st11,hx12,h⟩:=CM h
   refine TL.run ar [0,1] Z Z (Bd Z .u (.fn Tryz.call140 Z) (mt g st x7 _ hx12) (fun _ hs=>(Src.triv _)) Z ?_)
   obtain rfl:=CP h
   exact TL.nil (BH [1] Tryz.results96 ⟨Z,Z,Z⟩ (by rfl) (.inr Z))
  ·refine TL.nil (X.seq (Am Z (aD (CO c10)) (T.seq (T.region Z ?_))))
   obtain⟨st13,hx14,h⟩:=CM h
   refine TL.run ar [0,1] Z Z (Bd Z .u (.fn Tryz.call69 Z) (gX g st x8 _ hx14) (fun _ hs=>(Src.triv _)) Z ?_)
   obtain rfl:=CP h
   exact TL.nil (X.seq (T.ret (Al (BH [1] Tryz.results96 ⟨Z,Z,Z⟩ (by rfl) (.inl Z)))))
 ·refine TL.nil (X.seq (Am Z (aD (CO c6)) (T.seq (T.region Z ?_))))
  obtain⟨st15,hx16,h⟩:=CM h
  refine TL.run ar [0,1] Z Z (Bd Z .u (.fn Tryz.call69 Z) (gX g st x4 _ hx16) (fun _ hs=>(Src.triv _)) Z ?_)
  obtain rfl:=CP h
  exact TL.nil (X.seq (T.ret (Al (BH [1] Tryz.results96 ⟨Z,Z,Z⟩ (by rfl) (.inl Z)))))
def eT (st:I)  : Option (Rec×I):=(p8 st).bind fun (x2,st3)=>(iD st3).bind fun (x5,st6)=>if x5=0 then ((rf x2).bind fun st9=>(fG st9 1).bind fun (x12,st13)=>if x12=0 then ((iQ st13).bind fun (x16,st17)=>(kN st17).bind fun (x19,st20)=>if x19<0 then ((bE st20 11).bind fun st24=>(bF st24).bind fun (x26,st27)=>(bF st27).bind fun (x29,st30)=>(aY st30).bind fun (x32,st35)=>(dM st35).bind fun (x37,st38)=>if x37=0 then (some ((⟨x16,x19,x26,x29,x32⟩:Rec),st6)) else ((bE st6 x37).bind fun st41=>some ((⟨0,0,(⟨false,[]⟩:Bl),(⟨false,[]⟩:Bl),[]⟩:Rec),st41))) else ((bF st20).bind fun (x43,st44)=>(bF st44).bind fun (x46,st47)=>(aY st47).bind fun (x49,st52)=>(dM st52).bind fun (x54,st55)=>if x54=0 then (some ((⟨x16,x19,x43,x46,x49⟩:Rec),st6)) else ((bE st6 x54).bind fun st58=>some ((⟨0,0,(⟨false,[]⟩:Bl),(⟨false,[]⟩:Bl),[]⟩:Rec),st58)))) else ((bE st13 8).bind fun st60=>(iQ st60).bind fun (x62,st63)=>(kN st63).bind fun (x65,st66)=>if x65<0 then ((bE st66 11).bind fun st70=>(bF st70).bind fun (x72,st73)=>(bF st73).bind fun (x75,st76)=>(aY st76).bind fun (x78,st81)=>(dM st81).bind fun (x83,st84)=>if x83=0 then (some ((⟨x62,x65,x72,x75,x78⟩:Rec),st6)) else ((bE st6 x83).bind fun st87=>some ((⟨0,0,(⟨false,[]⟩:Bl),(⟨false,[]⟩:Bl),[]⟩:Rec),st87))) else ((bF st66).bind fun (x89,st90)=>(bF st90).bind fun (x92,st93)=>(aY st93).bind fun (x95,st98)=>(dM st98).bind fun (x100,st101)=>if x100=0 then (some ((⟨x62,x65,x89,x92,x95⟩:Rec),st6)) else ((bE st6 x100).bind fun st104=>some ((⟨0,0,(⟨false,[]⟩:Bl),(⟨false,[]⟩:Bl),[]⟩:Rec),st104))))) else (some ((⟨0,0,(⟨false,[]⟩:Bl),(⟨false,[]⟩:Bl),[]⟩:Rec),st6))
theorem mN (g:Nat) (st:I)  (r:Rec×I) (h:eT st  = some r):ay Tryz.prog 145 #[jP g] .triv (InR g st) (fun v A' N=> ∃ (A106:Option Addr) (c107:Nat),v= .agg #[jI r.1.CC,jI r.1.Cv,.bool r.1.Cs.null,jS r.1.Cs.data,.bool r.1.Cg.null,jS r.1.Cg.data,.slice A106 r.1.Cn.length c107]∧A'=InR g r.2∧N = [RdR (av 3 bf) [.slice A106 r.1.Cn.length c107] r.1.Cn]):=by
 refine aL Tryz.func145 Z Tryz.ntmps145 Z ?_
 intro F w hX
 unfold eT at h
 refine T.seq (T.region Z (TL.alloc Z .u Tryz.zeroValue38 Z (fun b1=>(TL.nil (X.seq (T.seq (T.region Z ?_)))))))
 obtain⟨⟨x2,st3⟩,hx4,h⟩:=CM h
 try dsimp only at h
 refine TL.run ar [0] Z Z (Bd Z .u (.fn Tryz.call163 Z) (p9 g st _ hx4) (fun _ hs=>(Src.triv _)) Z (TL.run ar [2] Z Z (TL.nil (X.seq (T.seq (T.seq (T.region Z ?_)))))))
 obtain⟨⟨x5,st6⟩,hx7,h⟩:=CM h
 try dsimp only at h
 refine TL.run ar [0] Z Z (Bd Z .u (.fn Tryz.call21 Z) (dr g st3 _ hx7) (fun _ hs=>(Src.triv _)) Z (TL.run ar [2] Z Z ?_))
 rcases jF h with⟨c8,h⟩ | ⟨c8,h⟩
 ·refine TL.nil (X.seq (Ap Z (az (CN c8)) (T.skip (X.seq (T.seq (T.region Z ?_))))))
  obtain⟨st9,hx10,h⟩:=CM h
  refine TL.run ar [0] Z Z (AP Z .u (.fn Tryz.call18 Z) (iH x2 _ hx10) (fun _ hs=>(RX.reads_triv _ _)) Z ?_)
  rintro _ _ _ ⟨b11,rfl,rfl,rfl⟩
  refine AC [0,0,0] Z (TL.run ar [2] Z Z (TL.nil (X.seq (T.seq (T.seq (T.region Z ?_))))))
  obtain⟨⟨x12,st13⟩,hx14,h⟩:=CM h
  try dsimp only at h
  refine TL.run ar [0] Z Z (AZ Z .u (.fn Tryz.call57 Z) (bN b11 st9 1 _ hx14) (fun _ hs=>(Src.triv _)) Z (TL.run ar [2] Z Z ?_))
  rcases jF h with⟨c15,h⟩ | ⟨c15,h⟩
  ·refine TL.nil (X.seq (Ap Z (az (CN c15)) (T.skip (X.seq (T.seq (T.region Z ?_))))))
   obtain⟨⟨x16,st17⟩,hx18,h⟩:=CM h
   try dsimp only at h
   refine TL.run ar [0] Z Z (AZ Z .u (.fn Tryz.call164 Z) (oO b11 st13 _ hx18) (fun _ hs=>(Src.triv _)) Z ?_)
   obtain⟨⟨x19,st20⟩,hx21,h⟩:=CM h
   try dsimp only at h
   refine TL.run ar [2] Z Z (AZ Z .u (.fn Tryz.call165 Z) (mK b11 st17 _ hx21) (fun _ hs=>(Src.triv _)) Z ?_)
   refine TL.q Z .u (AD (cells:= #[jI x16,jI x19,.bool false,.string ⟨#[]⟩,.bool false,.string ⟨#[]⟩,.slice none 0 0]) eh Z (by kernel_rfl)) Z ?_
   refine TL.alloc Z .u Tryz.zeroValue38 Z (fun b22=>(Ay (cs':= #[jI x16,jI x19,.bool false,.string ⟨#[]⟩,.bool false,.string ⟨#[]⟩,.slice none 0 0]) Z .u Z Z C4 Z Z Z Z (TL.nil (X.seq (T.seq (T.seq (T.region Z (TL.run ar [0] Z Z (TL.q Z .u (Ai 0 Z CV Z Z) Z (TL.run ar [2] Z Z ?_))))))))))
   rcases jF h with⟨c23,h⟩ | ⟨c23,h⟩
   ·refine TL.nil (X.seq (Am Z (CN c23) (T.region Z ?_)))
    obtain⟨st24,hx25,h⟩:=CM h
    refine TL.run ar [0] Z Z (Bd Z .u (.fn Tryz.call61 Z) (bg b11 st20 11 _ hx25) (fun _ hs=>(Src.triv _)) Z (TL.nil (X.seq (T.seq (T.region Z ?_)))))
    obtain⟨⟨x26,st27⟩,hx28,h⟩:=CM h
    try dsimp only at h
    refine TL.run ar [0] Z Z (Bd Z .u (.fn Tryz.call166 Z) (dw b11 st24 _ hx28) (fun _ hs=>(Src.triv _)) Z (TL.run ar [2] Z Z (Ay (cs':= #[jI x16,jI x19,.bool x26.null,jS x26.data,.bool false,.string ⟨#[]⟩,.slice none 0 0]) Z .u Z Z C7 Z Z Z Z (TL.nil (X.seq (T.seq (T.region Z ?_)))))))
    obtain⟨⟨x29,st30⟩,hx31,h⟩:=CM h
    try dsimp only at h
    refine TL.run ar [0] Z Z (Bd Z .u (.fn Tryz.call166 Z) (dw b11 st27 _ hx31) (fun _ hs=>(Src.triv _)) Z (TL.run ar [2] Z Z (Ay (cs':= #[jI x16,jI x19,.bool x26.null,jS x26.data,.bool x29.null,jS x29.data,.slice none 0 0]) Z .u Z Z C7 Z Z Z Z (TL.nil (X.seq (T.seq (T.region Z ?_)))))))
    obtain⟨⟨x32,st35⟩,hx36,h⟩:=CM h
    try dsimp only at h
    refine TL.run ar [0] Z Z (TL.cg1 Z .u (.fn Tryz.call167 Z) (eE b11 st30 _ hx36) (fun _ hs=>(Src.triv _)) Z ?_)
    rintro _ _ _ ⟨A33,c34,rfl,rfl,rfl⟩
    refine AC [0,0,0,0,0] Z (TL.run ar [2] Z Z (BL (cs':= #[jI x16,jI x19,.bool x26.null,jS x26.data,.bool x29.null,jS x29.data,.slice A33 x32.length c34]) Z .u Z Z En Z Z Z Z (TL.nil (X.seq (T.seq (T.seq (T.region Z ?_)))))))
    obtain⟨⟨x37,st38⟩,hx39,h⟩:=CM h
    try dsimp only at h
    refine TL.run ar [0] Z Z (BA Z .u (.fn Tryz.call32 Z) (dX b11 st35 _ hx39) (fun _ hs=>(Src.triv _)) Z (TL.run ar [2] Z Z (TL.nil (X.seq (T.seq (T.region Z (TL.run ar [0,1] Z Z ?_)))))))
    rcases jF h with⟨c40,h⟩ | ⟨c40,h⟩
    ·refine TL.nil (X.seq (Ap Z (az (CN c40)) (T.skip (X.seq (T.seq (T.region Z (TL.q Z .u (Av (us := [jI x16,jI x19,.bool x26.null,jS x26.data,.bool x29.null,jS x29.data,.slice A33 x32.length c34]) 1 Z Dr C4 Z Z Z) Z (A5 (cs':= #[jI x16,jI x19,.bool x26.null,jS x26.data,.bool x29.null,jS x29.data,.slice A33 x32.length c34]) Z .u Z Z C4 Z Z Z Z ?_))))))))
     obtain rfl:=CP h
     exact TL.nil (X.seq (T.ret (Ak [4,0] Eg (AF (us:= #[jI x16,jI x19,.bool x26.null,jS x26.data,.bool x29.null,jS x29.data,.slice A33 x32.length c34]) 3 Z Dr C4 Z Z) ⟨_,_,Z,Z,Z⟩ (by rfl) (.inl Z))))
    ·refine TL.nil (X.seq (Am Z (aD (CO c40)) (T.seq (T.region Z ?_))))
     obtain⟨st41,hx42,h⟩:=CM h
     refine TL.run ar [0,1] Z Z (TL.c4 Z .u (.fn Tryz.call61 Z) (bg g st6 x37 _ hx42) (fun _ hs=>(Src.triv _)) Z (TL.nil (X.seq (T.seq (T.region Z ?_)))))
     refine TL.q Z .u (AD (cells:= #[jI 0,jI 0,.bool false,.string ⟨#[]⟩,.bool false,.string ⟨#[]⟩,.slice none 0 0]) eh Z (by kernel_rfl)) Z ?_
     refine A5 (cs':= #[jI 0,jI 0,.bool false,.string ⟨#[]⟩,.bool false,.string ⟨#[]⟩,.slice none 0 0]) Z .u Z Z C4 Z Z Z Z ?_
     obtain rfl:=CP h
     exact TL.nil (X.seq (T.ret (Al (AO 3 bf (Ak [5,0] Eg (AF (us:= #[jI 0,jI 0,.bool false,.string ⟨#[]⟩,.bool false,.string ⟨#[]⟩,.slice none 0 0]) 4 Z Dr C4 Z Z) ⟨_,_,Z,Z,Z⟩ (by rfl) (.inl Z))))))
   ·refine TL.nil (X.seq (Ap Z (CO c23) (T.skip (X.seq (T.seq (T.region Z ?_))))))
    obtain⟨⟨x43,st44⟩,hx45,h⟩:=CM h
    try dsimp only at h
    refine TL.run ar [0] Z Z (Bd Z .u (.fn Tryz.call166 Z) (dw b11 st20 _ hx45) (fun _ hs=>(Src.triv _)) Z (TL.run ar [2] Z Z (Ay (cs':= #[jI x16,jI x19,.bool x43.null,jS x43.data,.bool false,.string ⟨#[]⟩,.slice none 0 0]) Z .u Z Z C7 Z Z Z Z (TL.nil (X.seq (T.seq (T.region Z ?_)))))))
    obtain⟨⟨x46,st47⟩,hx48,h⟩:=CM h
    try dsimp only at h
    refine TL.run ar [0] Z Z (Bd Z .u (.fn Tryz.call166 Z) (dw b11 st44 _ hx48) (fun _ hs=>(Src.triv _)) Z (TL.run ar [2] Z Z (Ay (cs':= #[jI x16,jI x19,.bool x43.null,jS x43.data,.bool x46.null,jS x46.data,.slice none 0 0]) Z .u Z Z C7 Z Z Z Z (TL.nil (X.seq (T.seq (T.region Z ?_)))))))
    obtain⟨⟨x49,st52⟩,hx53,h⟩:=CM h
    try dsimp only at h
    refine TL.run ar [0] Z Z (TL.cg1 Z .u (.fn Tryz.call167 Z) (eE b11 st47 _ hx53) (fun _ hs=>(Src.triv _)) Z ?_)
    rintro _ _ _ ⟨A50,c51,rfl,rfl,rfl⟩
    refine AC [0,0,0,0,0] Z (TL.run ar [2] Z Z (BL (cs':= #[jI x16,jI x19,.bool x43.null,jS x43.data,.bool x46.null,jS x46.data,.slice A50 x49.length c51]) Z .u Z Z En Z Z Z Z (TL.nil (X.seq (T.seq (T.seq (T.region Z ?_)))))))
    obtain⟨⟨x54,st55⟩,hx56,h⟩:=CM h
    try dsimp only at h
    refine TL.run ar [0] Z Z (BA Z .u (.fn Tryz.call32 Z) (dX b11 st52 _ hx56) (fun _ hs=>(Src.triv _)) Z (TL.run ar [2] Z Z (TL.nil (X.seq (T.seq (T.region Z (TL.run ar [0,1] Z Z ?_)))))))
    rcases jF h with⟨c57,h⟩ | ⟨c57,h⟩
    ·refine TL.nil (X.seq (Ap Z (az (CN c57)) (T.skip (X.seq (T.seq (T.region Z (TL.q Z .u (Av (us := [jI x16,jI x19,.bool x43.null,jS x43.data,.bool x46.null,jS x46.data,.slice A50 x49.length c51]) 1 Z Dr C4 Z Z Z) Z (A5 (cs':= #[jI x16,jI x19,.bool x43.null,jS x43.data,.bool x46.null,jS x46.data,.slice A50 x49.length c51]) Z .u Z Z C4 Z Z Z Z ?_))))))))
     obtain rfl:=CP h
     exact TL.nil (X.seq (T.ret (Ak [4,0] Eg (AF (us:= #[jI x16,jI x19,.bool x43.null,jS x43.data,.bool x46.null,jS x46.data,.slice A50 x49.length c51]) 3 Z Dr C4 Z Z) ⟨_,_,Z,Z,Z⟩ (by rfl) (.inl Z))))
    ·refine TL.nil (X.seq (Am Z (aD (CO c57)) (T.seq (T.region Z ?_))))
     obtain⟨st58,hx59,h⟩:=CM h
     refine TL.run ar [0,1] Z Z (TL.c4 Z .u (.fn Tryz.call61 Z) (bg g st6 x54 _ hx59) (fun _ hs=>(Src.triv _)) Z (TL.nil (X.seq (T.seq (T.region Z ?_)))))
     refine TL.q Z .u (AD (cells:= #[jI 0,jI 0,.bool false,.string ⟨#[]⟩,.bool false,.string ⟨#[]⟩,.slice none 0 0]) eh Z (by kernel_rfl)) Z ?_
     refine A5 (cs':= #[jI 0,jI 0,.bool false,.string ⟨#[]⟩,.bool false,.string ⟨#[]⟩,.slice none 0 0]) Z .u Z Z C4 Z Z Z Z ?_
     obtain rfl:=CP h
     exact TL.nil (X.seq (T.ret (Al (AO 3 bf (Ak [5,0] Eg (AF (us:= #[jI 0,jI 0,.bool false,.string ⟨#[]⟩,.bool false,.string ⟨#[]⟩,.slice none 0 0]) 4 Z Dr C4 Z Z) ⟨_,_,Z,Z,Z⟩ (by rfl) (.inl Z))))))
  ·refine TL.nil (X.seq (Am Z (aD (CO c15)) (T.region Z ?_)))
   obtain⟨st60,hx61,h⟩:=CM h
   refine TL.run ar [0] Z Z (AZ Z .u (.fn Tryz.call61 Z) (bg b11 st13 8 _ hx61) (fun _ hs=>(Src.triv _)) Z (TL.nil (X.seq (T.seq (T.region Z ?_)))))
   obtain⟨⟨x62,st63⟩,hx64,h⟩:=CM h
   try dsimp only at h
   refine TL.run ar [0] Z Z (AZ Z .u (.fn Tryz.call164 Z) (oO b11 st60 _ hx64) (fun _ hs=>(Src.triv _)) Z ?_)
   obtain⟨⟨x65,st66⟩,hx67,h⟩:=CM h
   try dsimp only at h
   refine TL.run ar [2] Z Z (AZ Z .u (.fn Tryz.call165 Z) (mK b11 st63 _ hx67) (fun _ hs=>(Src.triv _)) Z ?_)
   refine TL.q Z .u (AD (cells:= #[jI x62,jI x65,.bool false,.string ⟨#[]⟩,.bool false,.string ⟨#[]⟩,.slice none 0 0]) eh Z (by kernel_rfl)) Z ?_
   refine TL.alloc Z .u Tryz.zeroValue38 Z (fun b68=>(Ay (cs':= #[jI x62,jI x65,.bool false,.string ⟨#[]⟩,.bool false,.string ⟨#[]⟩,.slice none 0 0]) Z .u Z Z C4 Z Z Z Z (TL.nil (X.seq (T.seq (T.seq (T.region Z (TL.run ar [0] Z Z (TL.q Z .u (Ai 0 Z CV Z Z) Z (TL.run ar [2] Z Z ?_))))))))))
   rcases jF h with⟨c69,h⟩ | ⟨c69,h⟩
   ·refine TL.nil (X.seq (Am Z (CN c69) (T.region Z ?_)))
    obtain⟨st70,hx71,h⟩:=CM h
    refine TL.run ar [0] Z Z (Bd Z .u (.fn Tryz.call61 Z) (bg b11 st66 11 _ hx71) (fun _ hs=>(Src.triv _)) Z (TL.nil (X.seq (T.seq (T.region Z ?_)))))
    obtain⟨⟨x72,st73⟩,hx74,h⟩:=CM h
    try dsimp only at h
    refine TL.run ar [0] Z Z (Bd Z .u (.fn Tryz.call166 Z) (dw b11 st70 _ hx74) (fun _ hs=>(Src.triv _)) Z (TL.run ar [2] Z Z (Ay (cs':= #[jI x62,jI x65,.bool x72.null,jS x72.data,.bool false,.string ⟨#[]⟩,.slice none 0 0]) Z .u Z Z C7 Z Z Z Z (TL.nil (X.seq (T.seq (T.region Z ?_)))))))
    obtain⟨⟨x75,st76⟩,hx77,h⟩:=CM h
    try dsimp only at h
    refine TL.run ar [0] Z Z (Bd Z .u (.fn Tryz.call166 Z) (dw b11 st73 _ hx77) (fun _ hs=>(Src.triv _)) Z (TL.run ar [2] Z Z (Ay (cs':= #[jI x62,jI x65,.bool x72.null,jS x72.data,.bool x75.null,jS x75.data,.slice none 0 0]) Z .u Z Z C7 Z Z Z Z (TL.nil (X.seq (T.seq (T.region Z ?_)))))))
    obtain⟨⟨x78,st81⟩,hx82,h⟩:=CM h
    try dsimp only at h
    refine TL.run ar [0] Z Z (TL.cg1 Z .u (.fn Tryz.call167 Z) (eE b11 st76 _ hx82) (fun _ hs=>(Src.triv _)) Z ?_)
    rintro _ _ _ ⟨A79,c80,rfl,rfl,rfl⟩
    refine AC [0,0,0,0,0] Z (TL.run ar [2] Z Z (BL (cs':= #[jI x62,jI x65,.bool x72.null,jS x72.data,.bool x75.null,jS x75.data,.slice A79 x78.length c80]) Z .u Z Z En Z Z Z Z (TL.nil (X.seq (T.seq (T.seq (T.region Z ?_)))))))
    obtain⟨⟨x83,st84⟩,hx85,h⟩:=CM h
    try dsimp only at h
    refine TL.run ar [0] Z Z (BA Z .u (.fn Tryz.call32 Z) (dX b11 st81 _ hx85) (fun _ hs=>(Src.triv _)) Z (TL.run ar [2] Z Z (TL.nil (X.seq (T.seq (T.region Z (TL.run ar [0,1] Z Z ?_)))))))
    rcases jF h with⟨c86,h⟩ | ⟨c86,h⟩
    ·refine TL.nil (X.seq (Ap Z (az (CN c86)) (T.skip (X.seq (T.seq (T.region Z (TL.q Z .u (Av (us := [jI x62,jI x65,.bool x72.null,jS x72.data,.bool x75.null,jS x75.data,.slice A79 x78.length c80]) 1 Z Dr C4 Z Z Z) Z (A5 (cs':= #[jI x62,jI x65,.bool x72.null,jS x72.data,.bool x75.null,jS x75.data,.slice A79 x78.length c80]) Z .u Z Z C4 Z Z Z Z ?_))))))))
     obtain rfl:=CP h
     exact TL.nil (X.seq (T.ret (Ak [4,0] Eg (AF (us:= #[jI x62,jI x65,.bool x72.null,jS x72.data,.bool x75.null,jS x75.data,.slice A79 x78.length c80]) 3 Z Dr C4 Z Z) ⟨_,_,Z,Z,Z⟩ (by rfl) (.inl Z))))
    ·refine TL.nil (X.seq (Am Z (aD (CO c86)) (T.seq (T.region Z ?_))))
     obtain⟨st87,hx88,h⟩:=CM h
     refine TL.run ar [0,1] Z Z (TL.c4 Z .u (.fn Tryz.call61 Z) (bg g st6 x83 _ hx88) (fun _ hs=>(Src.triv _)) Z (TL.nil (X.seq (T.seq (T.region Z ?_)))))
     refine TL.q Z .u (AD (cells:= #[jI 0,jI 0,.bool false,.string ⟨#[]⟩,.bool false,.string ⟨#[]⟩,.slice none 0 0]) eh Z (by kernel_rfl)) Z ?_
     refine A5 (cs':= #[jI 0,jI 0,.bool false,.string ⟨#[]⟩,.bool false,.string ⟨#[]⟩,.slice none 0 0]) Z .u Z Z C4 Z Z Z Z ?_
     obtain rfl:=CP h
     exact TL.nil (X.seq (T.ret (Al (AO 3 bf (Ak [5,0] Eg (AF (us:= #[jI 0,jI 0,.bool false,.string ⟨#[]⟩,.bool false,.string ⟨#[]⟩,.slice none 0 0]) 4 Z Dr C4 Z Z) ⟨_,_,Z,Z,Z⟩ (by rfl) (.inl Z))))))
   ·refine TL.nil (X.seq (Ap Z (CO c69) (T.skip (X.seq (T.seq (T.region Z ?_))))))
    obtain⟨⟨x89,st90⟩,hx91,h⟩:=CM h
    try dsimp only at h
    refine TL.run ar [0] Z Z (Bd Z .u (.fn Tryz.call166 Z) (dw b11 st66 _ hx91) (fun _ hs=>(Src.triv _)) Z (TL.run ar [2] Z Z (Ay (cs':= #[jI x62,jI x65,.bool x89.null,jS x89.data,.bool false,.string ⟨#[]⟩,.slice none 0 0]) Z .u Z Z C7 Z Z Z Z (TL.nil (X.seq (T.seq (T.region Z ?_)))))))
    obtain⟨⟨x92,st93⟩,hx94,h⟩:=CM h
    try dsimp only at h
    refine TL.run ar [0] Z Z (Bd Z .u (.fn Tryz.call166 Z) (dw b11 st90 _ hx94) (fun _ hs=>(Src.triv _)) Z (TL.run ar [2] Z Z (Ay (cs':= #[jI x62,jI x65,.bool x89.null,jS x89.data,.bool x92.null,jS x92.data,.slice none 0 0]) Z .u Z Z C7 Z Z Z Z (TL.nil (X.seq (T.seq (T.region Z ?_)))))))
    obtain⟨⟨x95,st98⟩,hx99,h⟩:=CM h
    try dsimp only at h
    refine TL.run ar [0] Z Z (TL.cg1 Z .u (.fn Tryz.call167 Z) (eE b11 st93 _ hx99) (fun _ hs=>(Src.triv _)) Z ?_)
    rintro _ _ _ ⟨A96,c97,rfl,rfl,rfl⟩
    refine AC [0,0,0,0,0] Z (TL.run ar [2] Z Z (BL (cs':= #[jI x62,jI x65,.bool x89.null,jS x89.data,.bool x92.null,jS x92.data,.slice A96 x95.length c97]) Z .u Z Z En Z Z Z Z (TL.nil (X.seq (T.seq (T.seq (T.region Z ?_)))))))
    obtain⟨⟨x100,st101⟩,hx102,h⟩:=CM h
    try dsimp only at h
    refine TL.run ar [0] Z Z (BA Z .u (.fn Tryz.call32 Z) (dX b11 st98 _ hx102) (fun _ hs=>(Src.triv _)) Z (TL.run ar [2] Z Z (TL.nil (X.seq (T.seq (T.region Z (TL.run ar [0,1] Z Z ?_)))))))
    rcases jF h with⟨c103,h⟩ | ⟨c103,h⟩
    ·refine TL.nil (X.seq (Ap Z (az (CN c103)) (T.skip (X.seq (T.seq (T.region Z (TL.q Z .u (Av (us := [jI x62,jI x65,.bool x89.null,jS x89.data,.bool x92.null,jS x92.data,.slice A96 x95.length c97]) 1 Z Dr C4 Z Z Z) Z (A5 (cs':= #[jI x62,jI x65,.bool x89.null,jS x89.data,.bool x92.null,jS x92.data,.slice A96 x95.length c97]) Z .u Z Z C4 Z Z Z Z ?_))))))))
     obtain rfl:=CP h
     exact TL.nil (X.seq (T.ret (Ak [4,0] Eg (AF (us:= #[jI x62,jI x65,.bool x89.null,jS x89.data,.bool x92.null,jS x92.data,.slice A96 x95.length c97]) 3 Z Dr C4 Z Z) ⟨_,_,Z,Z,Z⟩ (by rfl) (.inl Z))))
    ·refine TL.nil (X.seq (Am Z (aD (CO c103)) (T.seq (T.region Z ?_))))
     obtain⟨st104,hx105,h⟩:=CM h
     refine TL.run ar [0,1] Z Z (TL.c4 Z .u (.fn Tryz.call61 Z) (bg g st6 x100 _ hx105) (fun _ hs=>(Src.triv _)) Z (TL.nil (X.seq (T.seq (T.region Z ?_)))))
     refine TL.q Z .u (AD (cells:= #[jI 0,jI 0,.bool false,.string ⟨#[]⟩,.bool false,.string ⟨#[]⟩,.slice none 0 0]) eh Z (by kernel_rfl)) Z ?_
     refine A5 (cs':= #[jI 0,jI 0,.bool false,.string ⟨#[]⟩,.bool false,.string ⟨#[]⟩,.slice none 0 0]) Z .u Z Z C4 Z Z Z Z ?_
     obtain rfl:=CP h
     exact TL.nil (X.seq (T.ret (Al (AO 3 bf (Ak [5,0] Eg (AF (us:= #[jI 0,jI 0,.bool false,.string ⟨#[]⟩,.bool false,.string ⟨#[]⟩,.slice none 0 0]) 4 Z Dr C4 Z Z) ⟨_,_,Z,Z,Z⟩ (by rfl) (.inl Z))))))
 ·refine TL.nil (X.seq (Am Z (aD (CO c8)) (T.seq (T.region Z ?_))))
  refine TL.q Z .u (AD (cells:= #[jI 0,jI 0,.bool false,.string ⟨#[]⟩,.bool false,.string ⟨#[]⟩,.slice none 0 0]) eh Z (by kernel_rfl)) Z ?_
  refine Ay (cs':= #[jI 0,jI 0,.bool false,.string ⟨#[]⟩,.bool false,.string ⟨#[]⟩,.slice none 0 0]) Z .u Z Z C4 Z Z Z Z ?_
  obtain rfl:=CP h
  exact TL.nil (X.seq (T.ret (Al (AO 3 bf (Ak [2,0] Eg (AF (us:= #[jI 0,jI 0,.bool false,.string ⟨#[]⟩,.bool false,.string ⟨#[]⟩,.slice none 0 0]) 1 Z Dr C4 Z Z) ⟨_,_,Z,Z,Z⟩ (by rfl) (.inl Z))))))
def nS:fv := [(35,0,0),(35,1,1),(119,0,0),(119,1,2),(119,2,3),(185,0,0),(185,1,1)]
theorem al:(nS).OK Tryz.prog:=⟨FOK.mk DD rfl DK rfl,FOK.mk DD rfl DT rfl,FOK.mk DZ rfl C7 rfl,FOK.mk DZ rfl CY rfl,FOK.mk DZ rfl CY rfl,FOK.mk D9 rfl DT rfl,FOK.mk D9 rfl C7 rfl,trivial⟩
theorem eY:Tryz.prog.follows .mixedOrders=true:=by kernel_rfl
theorem dx:io Tryz.prog 3 185 [.string,.bool,.string] true:=(io.struct E0 DN rfl Tryz.underlying185 Tryz.stoodInHeld185 ⟨by decide,rfl,[.string],[.bool,.string],false,rfl,((BG Dp DT Tryz.underlying9).mono (by decide)),⟨by decide,rfl,[.bool,.string],[],true,rfl,(io.struct Dw C7 rfl Tryz.underlying35 Tryz.stoodInHeld35 ⟨by decide,rfl,[.bool],[.string],false,rfl,(BG Dd DK Tryz.underlying4),⟨by decide,rfl,[.string],[],false,rfl,(BG Dp DT Tryz.underlying9),rfl⟩⟩),rfl⟩⟩)
theorem lz:BOK Tryz.prog 35 #[.bool false,.string ⟨#[]⟩] [(0,1),(1,1)]:=BOK.mk Tryz.zeroValue35 DD (by intro w; simp)
theorem kS:BOK Tryz.prog 185 #[.string ⟨#[]⟩,.bool false,.string ⟨#[]⟩] [(0,1),(1,2)]:=BOK.mk Tryz.zeroValue185 D9 (by intro w; simp)
theorem ky:SOK Tryz.prog 36 185 0 3 #[]:=SOK.mk0 Dl DN
theorem kz:SOK Tryz.prog 36 185 1 3 #[.string ⟨#[]⟩,.bool false,.string ⟨#[]⟩]:=SOK.mk Dl DN Tryz.zeroValue185 (by decide) (by kernel_rfl)
theorem kT:(Tryz.prog.info? 185).map (fun i=>(i.zero,i.size,i.bytes))=some (some (.agg #[.string ⟨#[]⟩,.bool false,.string ⟨#[]⟩]),3,40):=by kernel_rfl
def cP (a0:List Hd):Nat→Bool→Nat→Option (Lp Bool (Bool×Nat))
 | 0,_,_=>none
 | m8+1,y3,k4=>if (k4:Int)<(a0.length:Int) then ((a0[k4]?).bind fun x13=>if x13.Cg.null=true then (if x13.Cg.data = [] then (if -9223372036854775808≤((k4:Int)+1)∧((k4:Int)+1)≤9223372036854775807 then (cP a0 m8 y3 (k4+1)) else none) else some (Lp.ret false)) else (if -9223372036854775808≤((k4:Int)+1)∧((k4:Int)+1)≤9223372036854775807 then (cP a0 m8 y3 (k4+1)) else none)) else (some (Lp.go (y3,k4)))
def g6 (a0:List Hd):Option (Bool):=(cP a0 (((a0.length:Int)).toNat+1) false 0).bind fun e=>match e with | .ret r=>some r | .go (y20,k21)=>some true
theorem nT (a0:List Hd) (A1:Option Addr) (c2:Nat) (r:Bool) (h:g6 a0=some r):ay Tryz.prog 103 #[.slice A1 a0.length c2] (RX.of (av 3 bf) [.slice A1 a0.length c2] a0) (aB) (fun v A' N=>v= .bool r∧A'=aB∧N = []):=by
 refine aL Tryz.func103 Z Tryz.ntmps103 Z ?_
 intro F w hX
 unfold g6 at h
 refine T.seq (T.region Z (TL.run al [0] Z Z (TL.nil (X.seq (T.seq (T.seq (T.region Z (TL.run al [0] Z Z (TL.nil (X.seq (T.block ?_)))))))))))
 obtain⟨E5,hE6,hO7⟩:=CM h
 refine AV (fun m e Rs=> ∃ (y3:Bool) (k4:Nat),e = [(0,.slice A1 a0.length c2),(2,.bool y3),(3,jI (k4:Int))]∧Rs = [aB]∧cP a0 m y3 k4=some E5) (((a0.length:Int)).toNat+1) [0] ⟨false,0,Z,Z,by exact hE6⟩ (by rfl) (by rfl) ?_
 rintro m8 _ _ ⟨y3,k4,rfl,rfl,hl10⟩
 clear hE6 h
 cases m8 with
 | zero =>
  rw[cP] at hl10
  cases hl10
 | succ m8 =>
  have h:=hl10
  clear hl10
  rw[cP] at h
  refine T.seq (T.seq (T.region Z (TL.run al [0,1] Z Z (TL.q Z .u (AA Z Dl) Z (TL.run al [3] Z Z ?_)))))
  rcases jF h with⟨c12,h⟩ | ⟨c12,h⟩
  ·refine TL.nil (X.seq (Am Z (CN c12) (T.skip (X.seq (T.seq (T.block (T.seq (T.region Z ?_))))))))
   obtain⟨x13,hx14,h⟩:=CM h
   obtain⟨gz15,oz15,rfl,z15cs,z15cl,z15cc,z15nf,z15r⟩:=AK (by decide) hX hx14
   obtain⟨z15S,z15r,z15rr⟩:=z15r
   obtain rfl:z15cs = [jS x13.Cs,.bool x13.Cg.null,jS x13.Cg.data]:=z15r
   refine TL.run al [0,1] Z Z ?_
   refine TL.q Z .u (Aw (k:=k4) Z Z Z Dl DN (CU hx14).1) Z ?_
   refine TL.run al [3,4] Z Z (TL.q Z .u (AY 1 Z Dd z15nf z15cc Z Z) Z ?_)
   rcases jF h with⟨c16,h⟩ | ⟨c16,h⟩
   ·refine TL.run al [6] Z Z ?_
    iterate 2 refine TL.q Z (.g Z Z c16) (Ao al Z) Z ?_
    refine TL.q Z (.g Z Z c16) (Aw (k:=k4) Z Z Z Dl DN (CU hx14).1) Z ?_
    iterate 2 refine TL.q Z (.g Z Z c16) (Ao al Z) Z ?_
    refine TL.q Z (.g Z Z c16) (AY 2 Z Dp z15nf z15cc Z Z) Z (TL.q Z (.g Z Z c16) (Ex.sNe Z (m := []) Z) Z (TL.q Z .u (Aq Z c16 Z) Z ?_))
    rcases jF h with⟨c17,h⟩ | ⟨c17,h⟩
    ·refine TL.nil (X.seq (Ap Z (az (CN c17)) (T.skip (Az (X.seq (T.region Z ?_))))))
     replace h:=ak h
     obtain⟨c18,h⟩:=h
     exact TL.run al [0] Z Z (TL.q Z .u (Ex.add Z Z c18) Z (TL.run al [2] Z Z (TL.nil (X.back (m':=m8) [0] (by omega) ⟨y3,k4+1,Z,Z,h⟩ (by rfl) (by rfl)))))
    ·refine TL.nil (X.seq (Am Z (aD (CO c17)) (T.seq (T.region Z (TL.run al [0] Z Z ?_)))))
     obtain rfl:=CP h
     replace h:=hO7
     clear hO7
     try dsimp only at h
     obtain rfl:=CP h
     exact TL.nil (X.seq (T.ret (At (Al (Al (At (Al (Ak [0] Tryz.results103 (Aj Z) ⟨Z,Z,Z⟩ (by rfl) (.inl Z)))))))))
   ·replace c16:=CX c16
    refine TL.run al [6] Z Z ?_
    iterate 7 refine An Z (.gn Z Z c16) Z ?_
    refine TL.q Z .u (Ar Z c16 Z) Z (TL.nil (X.seq (Ap Z Z (T.skip (Az (X.seq (T.region Z ?_)))))))
    replace h:=ak h
    obtain⟨c19,h⟩:=h
    exact TL.run al [0] Z Z (TL.q Z .u (Ex.add Z Z c19) Z (TL.run al [2] Z Z (TL.nil (X.back (m':=m8) [0] (by omega) ⟨y3,k4+1,Z,Z,h⟩ (by rfl) (by rfl)))))
  ·refine TL.nil (X.seq (Ap Z (CO c12) ?_))
   obtain rfl:=CP h
   replace h:=hO7
   clear hO7
   try dsimp only at h
   refine T.exit (Au (Au (AS (X.seq (T.seq (T.region Z (TL.run al [0] Z Z ?_)))))))
   obtain rfl:=CP h
   exact TL.nil (X.seq (T.ret (Ak [0] Tryz.results103 (Aj Z) ⟨Z,Z,Z⟩ (by rfl) (.inl Z))))
def dA (a0:List Hd) (a1:List Hd):Nat→Bool→Nat→Option (Lp Bool (Bool×Nat))
 | 0,_,_=>none
 | m11+1,y6,k7=>if (k7:Int)<(a0.length:Int) then ((a0[k7]?).bind fun x16=>(a1[k7]?).bind fun x19=>if x16.Cs=x19.Cs then (if x16.Cg.null=x19.Cg.null then (if x16.Cg.data=x19.Cg.data then (if -9223372036854775808≤((k7:Int)+1)∧((k7:Int)+1)≤9223372036854775807 then (dA a0 a1 m11 y6 (k7+1)) else none) else some (Lp.ret false)) else some (Lp.ret false)) else some (Lp.ret false)) else (some (Lp.go (y6,k7)))
def iY (a0:List Hd) (a1:List Hd):Option (Bool):=if (a0.length:Int)=(a1.length:Int) then ((dA a0 a1 (((a0.length:Int)).toNat+1) false 0).bind fun e=>match e with | .ret r=>some r | .go (y26,k27)=>some true) else some false
theorem pd (a0:List Hd) (A1:Option Addr) (c2:Nat) (a1:List Hd) (A3:Option Addr) (c4:Nat) (r:Bool) (h:iY a0 a1=some r):ay Tryz.prog 107 #[.slice A1 a0.length c2,.slice A3 a1.length c4] (RX.and (RX.of (av 3 bf) [.slice A1 a0.length c2] a0) (RX.of (av 3 bf) [.slice A3 a1.length c4] a1)) (aB) (fun v A' N=>v= .bool r∧A'=aB∧N = []):=by
 refine aL Tryz.func107 Z Tryz.ntmps107 Z ?_
 intro F w hX
 unfold iY at h
 refine T.seq (T.region Z (TL.run al [0] Z Z (TL.nil (X.seq (T.seq (T.seq (T.region Z (TL.run al [0] Z Z (TL.q Z .u (AA Z Dl) Z (TL.run al [2] Z Z (TL.q Z .u (AA Z Dl) Z (TL.run al [4] Z Z ?_))))))))))))
 rcases jF h with⟨c5,h⟩ | ⟨c5,h⟩
 ·refine TL.nil (X.seq (Ap Z (az (CN c5)) (T.skip (X.seq (T.seq (T.seq (T.region Z (TL.run al [0] Z Z (TL.nil (X.seq (T.block ?_)))))))))))
  obtain⟨E8,hE9,hO10⟩:=CM h
  refine AV (fun m e Rs=> ∃ (y6:Bool) (k7:Nat),e = [(0,.slice A1 a0.length c2),(1,.slice A3 a1.length c4),(4,.bool y6),(5,jI (k7:Int))]∧Rs = [aB]∧dA a0 a1 m y6 k7=some E8) (((a0.length:Int)).toNat+1) [0] ⟨false,0,Z,Z,by exact hE9⟩ (by rfl) (by rfl) ?_
  rintro m11 _ _ ⟨y6,k7,rfl,rfl,hl13⟩
  clear hE9 h
  cases m11 with
  | zero =>
   rw[dA] at hl13
   cases hl13
  | succ m11 =>
   have h:=hl13
   clear hl13
   rw[dA] at h
   refine T.seq (T.seq (T.region Z (TL.run al [0,1] Z Z (TL.q Z .u (AA Z Dl) Z (TL.run al [3] Z Z ?_)))))
   rcases jF h with⟨c15,h⟩ | ⟨c15,h⟩
   ·refine TL.nil (X.seq (Am Z (CN c15) ?_))
    refine T.skip (X.seq (T.seq (T.block (T.seq (AH (.q 0 (.q 1 (.q 2 (.q 3 (.q 4 (.q 5 (.q 6 (.q 7 (.q 8 .nil))))))))) [0] Z eY (NoP.seq (NoP.blk (NoP.seq (NoP.seq (NoP.blk (NoP.seq aM)))))) (by kernel_rfl) ?_)))))
    obtain⟨x16,hx17,h⟩:=CM h
    obtain⟨gz18,oz18,rfl,z18cs,z18cl,z18cc,z18nf,z18r⟩:=AK (by decide) (BD hX) hx17
    obtain⟨z18S,z18r,z18rr⟩:=z18r
    obtain rfl:z18cs = [jS x16.Cs,.bool x16.Cg.null,jS x16.Cg.data]:=z18r
    refine TD.run al [0,1] Z Z ?_
    refine TD.q Z .u (Aw (k:=k7) Z Z Z Dl DN (CU hx17).1) Z ?_
    refine TD.q Z .u (Bb (us := [jS x16.Cs,.bool x16.Cg.null,jS x16.Cg.data]) 0 Z E0 DN z18nf z18cc Z Z Z) Z ?_
    obtain⟨x19,hx20,h⟩:=CM h
    obtain⟨gz21,oz21,rfl,z21cs,z21cl,z21cc,z21nf,z21r⟩:=AK (by decide) (Br hX) hx20
    obtain⟨z21S,z21r,z21rr⟩:=z21r
    obtain rfl:z21cs = [jS x19.Cs,.bool x19.Cg.null,jS x19.Cg.data]:=z21r
    refine TD.run al [4,5] Z Z ?_
    refine TD.q Z .u (Aw (k:=k7) Z Z Z Dl DN (CU hx20).1) Z ?_
    refine TD.q Z .u (Bb (us := [jS x19.Cs,.bool x19.Cg.null,jS x19.Cg.data]) 0 Z E0 DN z21nf z21cc Z Z Z) Z ?_
    rcases jF h with⟨c22,h⟩ | ⟨c22,h⟩
    ·rcases jF h with⟨c23,h⟩ | ⟨c23,h⟩
     ·rcases jF h with⟨c24,h⟩ | ⟨c24,h⟩
      ·refine TD.q Z .u (Cb (us := [jS x16.Cs,.bool x16.Cg.null,jS x16.Cg.data]) (vs := [jS x19.Cs,.bool x19.Cg.null,jS x19.Cg.data]) dx Z EP Z Z Z Z (iU (qa (l:=x16.Cs) (m:=x19.Cs) c22) (iU (oU c23) (iU (qa (l:=x16.Cg.data) (m:=x19.Cg.data) c24) Z)))) Z (TD.nil (X.seq (Ap Z Z (T.skip (Az (X.seq (T.region Z ?_)))))))
       replace h:=ak h
       obtain⟨c25,h⟩:=h
       exact TL.run al [0] Z Z (TL.q Z .u (Ex.add Z Z c25) Z (TL.run al [2] Z Z (TL.nil (X.back (m':=m11) [0] (by omega) ⟨y6,k7+1,Z,Z,h⟩ (by rfl) (by rfl)))))
      ·refine TD.q Z .u (Cb (us := [jS x16.Cs,.bool x16.Cg.null,jS x16.Cg.data]) (vs := [jS x19.Cs,.bool x19.Cg.null,jS x19.Cg.data]) dx Z EP Z Z Z Z (iU (qa (l:=x16.Cs) (m:=x19.Cs) c22) (iU (oU c23) (ng (qb (l:=x16.Cg.data) (m:=x19.Cg.data) c24))))) Z (TD.nil (X.seq (Am Z Z (T.seq (T.region Z (TL.run al [0] Z Z ?_))))))
       obtain rfl:=CP h
       replace h:=hO10
       clear hO10
       try dsimp only at h
       obtain rfl:=CP h
       exact TL.nil (X.seq (T.ret (At (Al (Al (At (Al (Ak [0] ER (Aj Z) ⟨Z,Z,Z⟩ (by rfl) (.inl Z)))))))))
     ·refine TD.q Z .u (Cb (us := [jS x16.Cs,.bool x16.Cg.null,jS x16.Cg.data]) (vs := [jS x19.Cs,.bool x19.Cg.null,jS x19.Cg.data]) dx Z EP Z Z Z Z (iU (qa (l:=x16.Cs) (m:=x19.Cs) c22) (ng (sE c23)))) Z (TD.nil (X.seq (Am Z Z (T.seq (T.region Z (TL.run al [0] Z Z ?_))))))
      obtain rfl:=CP h
      replace h:=hO10
      clear hO10
      try dsimp only at h
      obtain rfl:=CP h
      exact TL.nil (X.seq (T.ret (At (Al (Al (At (Al (Ak [0] ER (Aj Z) ⟨Z,Z,Z⟩ (by rfl) (.inl Z)))))))))
    ·refine TD.q Z .u (Cb (us := [jS x16.Cs,.bool x16.Cg.null,jS x16.Cg.data]) (vs := [jS x19.Cs,.bool x19.Cg.null,jS x19.Cg.data]) dx Z EP Z Z Z Z (ng (qb (l:=x16.Cs) (m:=x19.Cs) c22))) Z (TD.nil (X.seq (Am Z Z (T.seq (T.region Z (TL.run al [0] Z Z ?_))))))
     obtain rfl:=CP h
     replace h:=hO10
     clear hO10
     try dsimp only at h
     obtain rfl:=CP h
     exact TL.nil (X.seq (T.ret (At (Al (Al (At (Al (Ak [0] ER (Aj Z) ⟨Z,Z,Z⟩ (by rfl) (.inl Z)))))))))
   ·refine TL.nil (X.seq (Ap Z (CO c15) ?_))
    obtain rfl:=CP h
    replace h:=hO10
    clear hO10
    try dsimp only at h
    refine T.exit (Au (Au (AS (X.seq (T.seq (T.region Z (TL.run al [0] Z Z ?_)))))))
    obtain rfl:=CP h
    exact TL.nil (X.seq (T.ret (Ak [0] ER (Aj Z) ⟨Z,Z,Z⟩ (by rfl) (.inl Z))))
 ·refine TL.nil (X.seq (Am Z (aD (CO c5)) (T.seq (T.region Z (TL.run al [0] Z Z ?_)))))
  obtain rfl:=CP h
  exact TL.nil (X.seq (T.ret (Al (Ak [0] ER (Aj Z) ⟨Z,Z,Z⟩ (by rfl) (.inl Z)))))
def fX (a0:Int):Option (List UInt8):=(sA a0).bind fun x1=>(vU x1).bind fun x3=>some x3
theorem dO (a0:Int) (r:List UInt8) (h:fX a0=some r):ay Tryz.prog 113 #[jI a0] .triv (aB) (fun v A' N=>v=jS r∧A'=aB∧N = []):=by
 refine aL Tryz.func113 Z Tryz.ntmps113 Z ?_
 intro F w hX
 unfold fX at h
 refine T.seq (T.region Z (TL.run al [0] Z Z (TL.nil (X.seq (T.seq (T.region Z ?_))))))
 obtain⟨x1,hx2,h⟩:=CM h
 refine TL.run al [0] Z Z (Ax Z .u (.fn Tryz.call148 Z) (AN (fun w=>tC a0 _ hx2 w)) (fun _ _=>RX.reads_triv _ _) Z ?_)
 obtain⟨x3,hx4,h⟩:=CM h
 refine Ax Z .u (.fn Tryz.call147 Z) (uV x1 _ hx4) (fun _ hs=>(RX.reads_triv _ _)) Z (TL.run al [3] Z Z ?_)
 obtain rfl:=CP h
 exact TL.nil (X.seq (T.ret (Ak [0] Tryz.results113 (Aj Z) ⟨Z,Z,Z⟩ (by rfl) (.inl Z))))
def dj (a0:List Hd):Nat→List UInt8→Nat→Option (List UInt8×Nat)
 | 0,_,_=>none
 | m10+1,y5,k6=>if (k6:Int)<(a0.length:Int) then ((a0[k6]?).bind fun x15=>(gJ (⟨false,x15.Cs⟩:Bl)).bind fun x18=>if y5.length+x18.length≤9223372036854775807 then ((gJ x15.Cg).bind fun x21=>if (y5++x18).length+x21.length≤9223372036854775807 then (if -9223372036854775808≤((k6:Int)+1)∧((k6:Int)+1)≤9223372036854775807 then (dj a0 m10 ((y5++x18)++x21) (k6+1)) else none) else none) else none) else some (y5,k6)
def g7 (a0:List Hd):Option (List UInt8):=(fX (a0.length:Int)).bind fun x3=>(dj a0 (((a0.length:Int)).toNat+1) x3 0).bind fun (y25,k26)=>some y25
theorem dI (a0:List Hd) (A1:Option Addr) (c2:Nat) (r:List UInt8) (h:g7 a0=some r):ay Tryz.prog 115 #[.slice A1 a0.length c2] (RX.of (av 3 bf) [.slice A1 a0.length c2] a0) (aB) (fun v A' N=>v=jS r∧A'=aB∧N = []):=by
 refine aL Tryz.func115 Z Tryz.ntmps115 Z ?_
 intro F w hX
 unfold g7 at h
 refine T.seq (T.region Z (TL.run al [0] Z Z (TL.nil (X.seq (T.seq (T.region Z (TL.run al [0] Z Z (TL.q Z .u (AA Z Dl) Z ?_))))))))
 obtain⟨x3,hx4,h⟩:=CM h
 refine Ax Z .u (.fn Tryz.call113 Z) (dO (a0.length:Int) _ hx4) (fun _ hs=>(RX.reads_triv _ _)) Z (TL.run al [3] Z Z (TL.nil (X.seq (T.seq (T.seq (T.region Z (TL.run al [0] Z Z (TL.nil (X.seq (T.block ?_))))))))))
 obtain⟨E7,hE8,hO9⟩:=CM h
 refine AV (fun m e Rs=> ∃ (y5:List UInt8) (k6:Nat),e = [(0,.slice A1 a0.length c2),(2,.string ⟨#[]⟩),(3,jS y5),(4,jI (k6:Int))]∧Rs = [aB]∧dj a0 m y5 k6=some E7) (((a0.length:Int)).toNat+1) [0] ⟨x3,0,Z,Z,by exact hE8⟩ (by rfl) (by rfl) ?_
 rintro m10 _ _ ⟨y5,k6,rfl,rfl,hl12⟩
 clear hE8 h
 cases m10 with
 | zero =>
  rw[dj] at hl12
  cases hl12
 | succ m10 =>
  have h:=hl12
  clear hl12
  rw[dj] at h
  refine T.seq (T.seq (T.region Z (TL.run al [0,1] Z Z (TL.q Z .u (AA Z Dl) Z (TL.run al [3] Z Z ?_)))))
  rcases jF h with⟨c14,h⟩ | ⟨c14,h⟩
  ·refine TL.nil (X.seq (Am Z (CN c14) ?_))
   refine T.skip (X.seq (T.seq (T.block (AH (.q 0 (.q 1 (.q 2 (.q 3 (.q 4 (.q 5 (.q 6 (.q 9 (.q 10 (.q 11 (.q 12 (.q 13 (.e 7 (.q 8 (.e 14 (.q 15 (.q 16 .nil))))))))))))))))) [0] Z eY (NoP.blk (NoP.seq (NoP.seq (NoP.blk (NoP.seq aM))))) (by kernel_rfl) ?_))))
   obtain⟨x15,hx16,h⟩:=CM h
   obtain⟨gz17,oz17,rfl,z17cs,z17cl,z17cc,z17nf,z17r⟩:=AK (by decide) hX hx16
   obtain⟨z17S,z17r,z17rr⟩:=z17r
   obtain rfl:z17cs = [jS x15.Cs,.bool x15.Cg.null,jS x15.Cg.data]:=z17r
   refine TD.run al [0,1,2] Z Z ?_
   refine TD.q Z .u (Aw (k:=k6) Z Z Z Dl DN (CU hx16).1) Z ?_
   refine TD.run al [4] Z Z (TD.q Z .u (AY 0 Z Dp z17nf z17cc Z Z) Z ?_)
   refine TD.q Z .u (AD (cells:= #[.bool false,jS x15.Cs]) lz Z (by kernel_rfl)) Z ?_
   refine TD.run al [9,10] Z Z ?_
   refine TD.q Z .u (Aw (k:=k6) Z Z Z Dl DN (CU hx16).1) Z ?_
   refine TD.run al [12] Z Z (TD.q Z .u (Bb (us := [.bool x15.Cg.null,jS x15.Cg.data]) 1 Z Dw C7 z17nf z17cc Z Z Z) Z ?_)
   obtain⟨x18,hx19,h⟩:=CM h
   refine AR Z .u (.fn Tryz.call114 Z) (bQ (⟨false,x15.Cs⟩:Bl) _ hx19) (fun _ hs=>(RX.reads_triv _ _)) Z [0] (Z) ?_
   replace h:=ak h
   obtain⟨c20,h⟩:=h
   refine TD.q Z .u (AM Z Z c20) Z ?_
   obtain⟨x21,hx22,h⟩:=CM h
   refine AR Z .u (.fn Tryz.call114 Z) (bQ x15.Cg _ hx22) (fun _ hs=>(RX.reads_triv _ _)) Z [0] (Z) ?_
   replace h:=ak h
   obtain⟨c23,h⟩:=h
   refine TD.q Z .u (AM Z Z c23) Z (TD.run al [16] Z Z (TD.nil (Az (X.seq (T.region Z ?_)))))
   replace h:=ak h
   obtain⟨c24,h⟩:=h
   exact TL.run al [0] Z Z (TL.q Z .u (Ex.add Z Z c24) Z (TL.run al [2] Z Z (TL.nil (X.back (m':=m10) [0] (by omega) ⟨((y5++x18)++x21),k6+1,Z,Z,h⟩ (by rfl) (by rfl)))))
  ·refine TL.nil (X.seq (Ap Z (CO c14) ?_))
   obtain rfl:=CP h
   replace h:=hO9
   clear hO9
   try dsimp only at h
   refine T.exit (Au (Au (AS (X.seq (T.seq (T.region Z (TL.run al [0,1] Z Z ?_)))))))
   obtain rfl:=CP h
   exact TL.nil (X.seq (T.ret (Ak [0] Tryz.results115 (Aj Z) ⟨Z,Z,Z⟩ (by rfl) (.inl Z))))
def dB (a0:List UInt8) (x6:Int):Nat→List Hd→Int→Int→Int→List Hd→Nat→Option (Lp (List Hd×Int×Int) (List Hd×Int×Int×Int×List Hd×Nat))
 | 0,_,_,_,_,_,_=>none
 | m26+1,y13,y16,y17,y18,y19,k22=>if (k22:Int)<x6 then (if 0≤y18∧y18.toNat≤a0.length then ((fW (a0.drop y18.toNat)).bind fun x32=>if x32.err=0 then (if x32.blob.null=true then (some (Lp.ret ([],0,4))) else (if -9223372036854775808≤(y18+x32.many)∧(y18+x32.many)≤9223372036854775807 then (if 0≤(y18+x32.many)∧(y18+x32.many).toNat≤a0.length then ((fW (a0.drop ((y18+x32.many).toNat))).bind fun x39=>if x39.err=0 then (if (y19.length+1)*40≤140737488355328 then (if -9223372036854775808≤(y18+x32.many)∧(y18+x32.many)≤9223372036854775807 then (if -9223372036854775808≤((y18+x32.many)+x39.many)∧((y18+x32.many)+x39.many)≤9223372036854775807 then (if -9223372036854775808≤((k22:Int)+1)∧((k22:Int)+1)≤9223372036854775807 then (dB a0 x6 m26 y13 y16 y17 ((y18+x32.many)+x39.many) (y19 ++ [(⟨x32.blob.data,x39.blob⟩:Hd)]) (k22+1)) else none) else none) else none) else none) else (some (Lp.ret ([],0,x39.err)))) else none) else none)) else (some (Lp.ret ([],0,x32.err)))) else none) else (some (Lp.go (y13,y16,y17,y18,y19,k22)))
def iZ (a0:List UInt8):Option (List Hd×Int×Int):=(oQ a0 32).bind fun (x1,x2,x3)=>if x3=0 then ((nL x1).bind fun x6=>if x6<0 then some ([],0,4) else (if -9223372036854775808≤((a0.length:Int) - x2)∧((a0.length:Int) - x2)≤9223372036854775807 then (if 0≤((a0.length:Int) - x2)∧((a0.length:Int) - x2)≤9223372036854775807 then (if x6>(((a0.length:Int) - x2) / 2) then some ([],0,1) else ((dB a0 x6 ((x6).toNat+1) [] 0 0 x2 ([]:List Hd) 0).bind fun e=>match e with | .ret r=>some r | .go (y50,y53,y54,y55,y56,k59)=>some (y56,y55,0))) else none) else none)) else some ([],0,x3)
theorem pe (a0:List UInt8) (r:List Hd×Int×Int) (h:iZ a0=some r):ay Tryz.prog 181 #[jS a0] .triv (aB) (fun v A' N=> ∃ (A60:Option Addr) (c61:Nat),v= .tuple #[.slice A60 r.1.length c61,jI r.2.1,jI r.2.2]∧A'=aB∧N = [RdR (av 3 bf) [.slice A60 r.1.length c61] r.1]):=by
 refine aL Tryz.func181 Z Tryz.ntmps181 Z ?_
 intro F w hX
 unfold iZ at h
 refine T.seq (T.region Z (TL.run al [0,1,2] Z Z (TL.nil (X.seq (T.seq (T.region Z ?_))))))
 obtain⟨⟨x1,x2,x3⟩,hx4,h⟩:=CM h
 try dsimp only at h
 refine TL.run al [0] Z Z (Ax Z .u (.fn Tryz.call179 Z) (AN (fun w=>mL a0 32 _ hx4 w)) (fun _ _=>RX.reads_triv _ _) Z (TL.run al [2,3,4,5,6,7,8] Z Z (TL.nil (X.seq (T.seq (T.seq (T.region Z (TL.run al [0,1] Z Z ?_))))))))
 rcases jF h with⟨c5,h⟩ | ⟨c5,h⟩
 ·refine TL.nil (X.seq (Ap Z (az (CN c5)) (T.skip (X.seq (T.seq (T.region Z ?_))))))
  obtain⟨x6,hx7,h⟩:=CM h
  refine TL.run al [0] Z Z (Ax Z .u (.fn Tryz.call180 Z) (AN (fun w=>lu x1 _ hx7 w)) (fun _ _=>RX.reads_triv _ _) Z (TL.run al [2] Z Z (TL.nil (X.seq (T.seq (T.seq (T.region Z (TL.run al [0,1] Z Z ?_))))))))
  rcases jF h with⟨c8,h⟩ | ⟨c8,h⟩
  ·refine TL.nil (X.seq (Am Z (CN c8) (T.seq (T.region Z (TL.run al [0,1,2] Z Z ?_)))))
   obtain rfl:=CP h
   exact TL.nil (X.seq (T.ret (Al (AO 3 bf (AX [1,0] Er (Aj Z) (Aj Z) (Aj Z) ⟨_,_,Z,Z,Z⟩ (by rfl) (.inl Z))))))
  ·refine TL.nil (X.seq (Ap Z (CO c8) (T.skip (X.seq (T.seq (T.seq (T.region Z (TL.run al [0,1] Z Z (TL.q Z .u (AW Z CZ) Z ?_)))))))))
   replace h:=ak h
   obtain⟨c9,h⟩:=h
   refine TL.run al [3] Z Z (TL.q Z .u (Ex.sub Z Z c9) Z ?_)
   replace h:=ak h
   obtain⟨c10,h⟩:=h
   refine TL.q Z .u (Ex.quo Z Z (by omega) c10) Z (TL.run al [6] Z Z ?_)
   rcases jF h with⟨c11,h⟩ | ⟨c11,h⟩
   ·refine TL.nil (X.seq (Am Z (CN c11) (T.seq (T.region Z (TL.run al [0,1,2] Z Z ?_)))))
    obtain rfl:=CP h
    exact TL.nil (X.seq (T.ret (Al (AO 3 bf (AX [1,0] Er (Aj Z) (Aj Z) (Aj Z) ⟨_,_,Z,Z,Z⟩ (by rfl) (.inl Z))))))
   ·refine TL.nil (X.seq (Ap Z (CO c11) (T.skip (X.seq (T.seq (T.region Z (Bk (cells:= #[]) Z .u ky Z (by rfl) Z (fun b12=>(BO (us := []) (xs:=([]:List Hd)) (E:=bf) (z:=3) Z (Nat.le_of_ble_eq_true Z) (fun _=>Z) (TL.run al [1] Z Z (TL.nil (X.seq (T.seq (T.seq (T.region Z (TL.run al [0] Z Z ?_))))))))))))))))
    refine TL.nil (X.seq (T.block (Bt 185 3 bf ?_)))
    obtain⟨E23,hE24,hO25⟩:=CM h
    refine AV (fun m e Rs=> ∃ (y13:List Hd) (A14:Option Addr) (c15:Nat) (y16:Int) (y17:Int) (y18:Int) (y19:List Hd) (A20:Option Addr) (c21:Nat) (k22:Nat),e = [(0,jS a0),(2,.slice A14 y13.length c15),(3,jI y16),(4,jI y17),(6,jI y18),(8,jI x6),(9,.slice A20 y19.length c21),(10,jI (k22:Int))]∧Rs = [aZ 185 3 bf (.slice A14 y13.length c15) y13,aZ 185 3 bf (.slice A20 y19.length c21) y19,aB]∧dB a0 x6 m y13 y16 y17 y18 y19 k22=some E23) ((x6).toNat+1) [0,0,0] ⟨[],none,0,0,0,x2,([]:List Hd),(some ⟨b12,0,none⟩),0,0,Z,Z,by exact hE24⟩ (by rfl) (by rfl) ?_
    rintro m26 _ _ ⟨y13,A14,c15,y16,y17,y18,y19,A20,c21,k22,rfl,rfl,hl28⟩
    clear hE24 h
    cases m26 with
    | zero =>
     rw[dB] at hl28
     cases hl28
    | succ m26 =>
     have h:=hl28
     clear hl28
     rw[dB] at h
     refine T.seq (T.seq (T.region Z (TL.run al [0,1,2] Z Z ?_)))
     rcases jF h with⟨c30,h⟩ | ⟨c30,h⟩
     ·refine TL.nil (X.seq (Am Z (CN c30) (T.skip (X.seq (T.seq (T.block (T.seq (T.region Z ?_))))))))
      replace h:=ak h
      obtain⟨c31,h⟩:=h
      refine TL.run al [0,1] Z Z ?_
      replace c31:0≤y18∧y18.toNat≤a0.length:=c31
      refine TL.q Z .u (Ba (p:=y18.toNat) (q:=a0.length) (m:=(a0.drop y18.toNat)) Z CZ (.some Z ((Int.toNat_of_nonneg c31.1).symm)) .none (by first | omega | (dsimp only; omega)) (dY _ _)) Z ?_
      obtain⟨x32,hx33,h⟩:=CM h
      refine Ax Z .u (.fn Tryz.call170 Z) (fb (a0.drop y18.toNat) _ hx33) (fun _ hs=>(RX.reads_triv _ _)) Z (TL.alloc Z .u Tryz.zeroValue119 Z (fun b34=>(Ay (cs':= #[.bool x32.blob.null,jS x32.blob.data,jI x32.many,jI x32.err]) Z .u Z Z Ep Z Z Z Z (TL.nil (X.seq (T.seq (T.seq (T.region Z (TL.run al [0] Z Z (TL.q Z .u (Ai 0 Z CV Z Z) Z (TL.run al [2] Z Z ?_)))))))))))
      rcases jF h with⟨c35,h⟩ | ⟨c35,h⟩
      ·refine TL.nil (X.seq (Ap Z (az (CN c35)) (T.skip (X.seq (T.seq (T.seq (T.region Z (TL.run al [0,1] Z Z (TL.q Z .u (Ai 0 Z Dd Z Z) Z ?_)))))))))
       rcases jF h with⟨c36,h⟩ | ⟨c36,h⟩
       ·refine TL.nil (X.seq (Am Z c36 (T.seq (T.region Z (TL.run al [0,1,2] Z Z ?_)))))
        obtain rfl:=CP h
        replace h:=hO25
        clear hO25
        try dsimp only at h
        obtain rfl:=CP h
        exact TL.nil (X.seq (T.ret (Al (At (Al (Al (At (Al (AO 3 bf (AX [4,0] Er (Aj Z) (Aj Z) (Aj Z) ⟨_,_,Z,Z,Z⟩ (by rfl) (.inl Z)))))))))))
       ·replace c36:=CX c36
        refine TL.nil (X.seq (Ap Z c36 (T.skip (X.seq (T.seq (T.region Z (TL.run al [0,1,2] Z Z (TL.q Z .u (Ai 0 Z CV Z Z) Z ?_))))))))
        replace h:=ak h
        obtain⟨c37,h⟩:=h
        refine TL.q Z .u (Ex.add Z Z c37) Z ?_
        replace h:=ak h
        obtain⟨c38,h⟩:=h
        replace c38:0≤(y18+x32.many)∧(y18+x32.many).toNat≤a0.length:=c38
        refine TL.q Z .u (Ba (p:=(y18+x32.many).toNat) (q:=a0.length) (m:=(a0.drop ((y18+x32.many).toNat))) Z CZ (.some Z ((Int.toNat_of_nonneg c38.1).symm)) .none (by first | omega | (dsimp only; omega)) (dY _ _)) Z ?_
        obtain⟨x39,hx40,h⟩:=CM h
        refine Ax Z .u (.fn Tryz.call170 Z) (fb (a0.drop ((y18+x32.many).toNat)) _ hx40) (fun _ hs=>(RX.reads_triv _ _)) Z (TL.alloc Z .u Tryz.zeroValue119 Z (fun b41=>(Ay (cs':= #[.bool x39.blob.null,jS x39.blob.data,jI x39.many,jI x39.err]) Z .u Z Z Ep Z Z Z Z (TL.nil (X.seq (T.seq (T.seq (T.region Z (TL.run al [0] Z Z (TL.q Z .u (Ai 0 Z CV Z Z) Z (TL.run al [2] Z Z ?_)))))))))))
        rcases jF h with⟨c42,h⟩ | ⟨c42,h⟩
        ·refine TL.nil (X.seq (Ap Z (az (CN c42)) (T.skip (X.seq (T.seq (T.region Z (TL.run al [0,1,2] Z Z (TL.q Z .u (Ai 1 Z Dp Z Z) Z (TL.run al [4] Z Z (TL.q Z .u (Av (us := [.bool x39.blob.null,jS x39.blob.data]) 0 Z Dw C7 Z Z Z) Z ?_))))))))))
         refine TL.q Z .u (AD (cells:= #[jS x32.blob.data,.bool x39.blob.null,jS x39.blob.data]) kS Z (by kernel_rfl)) Z ?_
         refine Bk (cells:= #[jS x32.blob.data,.bool x39.blob.null,jS x39.blob.data]) Z .u kz Z (by kernel_rfl) Z (fun b43=> ?_)
         replace h:=ak h
         obtain⟨c44,h⟩:=h
         refine TL.app1 3 Z .u (us := [jS x32.blob.data,.bool x39.blob.null,jS x39.blob.data]) (u:=(⟨x32.blob.data,x39.blob⟩:Hd)) (l:=y19) (E:=bf) Tryz.underlying36 kT Z (by decide) Z Z Z Z Z Z (fun _ _=>Z) (by have hq:=c44; omega) (by have hq:=c44; omega) Z (fun A45 c46=> ?_)
         refine AC [0,0,0,0,0] Z (TL.run al [9] Z Z (TL.nil (X.seq (T.region Z (TL.run al [0,1] Z Z (TL.q Z .u (Ai 1 Z CV Z Z) Z ?_))))))
         replace h:=ak h
         obtain⟨c47,h⟩:=h
         refine TL.q Z .u (Ex.add Z Z c47) Z (TL.run al [4] Z Z (TL.q Z .u (Ai 0 Z CV Z Z) Z ?_))
         replace h:=ak h
         obtain⟨c48,h⟩:=h
         refine TL.q Z .u (Ex.add Z Z c48) Z (TL.run al [7] Z Z (TL.nil (Az (X.seq (T.region Z ?_)))))
         replace h:=ak h
         obtain⟨c49,h⟩:=h
         exact TL.run al [0] Z Z (TL.q Z .u (Ex.add Z Z c49) Z (TL.run al [2] Z Z (TL.nil (X.back (m':=m26) [2,2,2] (by omega) ⟨y13,A14,c15,y16,y17,((y18+x32.many)+x39.many),(y19 ++ [(⟨x32.blob.data,x39.blob⟩:Hd)]),A45,c46,k22+1,Z,Z,h⟩ (by rfl) (by rfl)))))
        ·refine TL.nil (X.seq (Am Z (aD (CO c42)) ?_))
         refine T.seq (AH (.q 0 (.q 1 (.q 2 (.q 3 (.q 4 .nil))))) [0,0,0,0,0] Z eY (NoP.seq (NoP.seq (NoP.blk (NoP.seq (NoP.seq (NoP.blk (NoP.seq aM))))))) (by kernel_rfl) ?_)
         refine TD.run al [0] Z Z (TD.q Z .u (Ai 0 Z CV Z Z) Z (TD.run al [2,3,4] Z Z ?_))
         obtain rfl:=CP h
         replace h:=hO25
         clear hO25
         try dsimp only at h
         obtain rfl:=CP h
         exact TD.nil (X.seq (T.ret (Al (At (Al (Al (At (Al (AO 3 bf (AX [5,0] Er (Aj Z) (Aj Z) (Aj Z) ⟨_,_,Z,Z,Z⟩ (by rfl) (.inl Z)))))))))))
      ·refine TL.nil (X.seq (Am Z (aD (CO c35)) ?_))
       refine T.seq (AH (.q 0 (.q 1 (.q 2 (.q 3 (.q 4 .nil))))) [0,0,0,0] Z eY (NoP.seq (NoP.seq (NoP.blk (NoP.seq (NoP.seq (NoP.blk (NoP.seq aM))))))) (by kernel_rfl) ?_)
       refine TD.run al [0] Z Z (TD.q Z .u (Ai 0 Z CV Z Z) Z (TD.run al [2,3,4] Z Z ?_))
       obtain rfl:=CP h
       replace h:=hO25
       clear hO25
       try dsimp only at h
       obtain rfl:=CP h
       exact TD.nil (X.seq (T.ret (Al (At (Al (Al (At (Al (AO 3 bf (AX [4,0] Er (Aj Z) (Aj Z) (Aj Z) ⟨_,_,Z,Z,Z⟩ (by rfl) (.inl Z)))))))))))
     ·refine TL.nil (X.seq (Ap Z (CO c30) ?_))
      obtain rfl:=CP h
      replace h:=hO25
      clear hO25
      try dsimp only at h
      refine T.exit (Au (Au (AS (X.seq (T.seq (T.region Z (TL.run al [0,1,2,3,4] Z Z ?_)))))))
      obtain rfl:=CP h
      exact TL.nil (X.seq (T.ret (Bu (by decide) 1 Z (AQ [0,0,0] Z (AX [2,1] Er (Aj Z) (Aj Z) (Aj Z) ⟨_,_,Z,Z,Z⟩ (by rfl) (.inl Z))))))
 ·refine TL.nil (X.seq (Am Z (aD (CO c5)) (T.seq (T.region Z (TL.run al [0,1,2,3] Z Z ?_)))))
  obtain rfl:=CP h
  exact TL.nil (X.seq (T.ret (Al (AO 3 bf (AX [1,0] Er (Aj Z) (Aj Z) (Aj Z) ⟨_,_,Z,Z,Z⟩ (by rfl) (.inl Z))))))
def nU:fv := [(35,0,0),(35,1,1),(38,0,0),(38,1,1),(38,2,2),(38,3,4),(38,4,6),(119,0,0),(119,1,2),(119,2,3),(220,1,7)]
theorem ag:(nU).OK Tryz.prog:=⟨FOK.mk DD rfl DK rfl,FOK.mk DD rfl DT rfl,FOK.mk Dj rfl CY rfl,FOK.mk Dj rfl CY rfl,FOK.mk Dj rfl C7 rfl,FOK.mk Dj rfl C7 rfl,FOK.mk Dj rfl En rfl,FOK.mk DZ rfl C7 rfl,FOK.mk DZ rfl CY rfl,FOK.mk DZ rfl CY rfl,FOK.mk Es rfl CY rfl,trivial⟩
theorem nj:Tryz.prog.follows .mixedOrders=true:=by kernel_rfl
theorem co:io Tryz.prog 2 35 [.bool,.string] true:=(io.struct Dw C7 rfl Tryz.underlying35 Tryz.stoodInHeld35 ⟨by decide,rfl,[.bool],[.string],false,rfl,(BG Dd DK Tryz.underlying4),⟨by decide,rfl,[.string],[],false,rfl,(BG Dp DT Tryz.underlying9),rfl⟩⟩)
theorem lA:BOK Tryz.prog 38 #[.int .i64 0,.int .i64 0,.bool false,.string ⟨#[]⟩,.bool false,.string ⟨#[]⟩,.slice none 0 0] [(0,1),(1,1),(2,2),(4,2),(6,1)]:=BOK.mk Tryz.zeroValue38 Dj (by intro w; simp)
theorem gB:BOK Tryz.prog 220 #[.int .i64 0,.int .i64 0,.bool false,.string ⟨#[]⟩,.bool false,.string ⟨#[]⟩,.slice none 0 0,.int .i64 0,.int .i64 0] [(0,7),(7,1),(8,1)]:=BOK.mk Tryz.zeroValue220 Es (by intro w; simp)
theorem bW:SOK Tryz.prog 64 5 1 1 #[.int .u8 0]:=SOK.mk Eb Tryz.sizeOf5 Tryz.zeroValue5 (by decide) (by kernel_rfl)
def iI (a0:Bl):Option (Bool):=if a0.null=true then (if a0.data = [] then some false else some true) else some false
theorem lB (a0:Bl) (r:Bool) (h:iI a0=some r):ay Tryz.prog 102 #[.agg #[.bool a0.null,jS a0.data]] .triv (aB) (fun v A' N=>v= .bool r∧A'=aB∧N = []):=by
 refine aL Tryz.func102 Z Tryz.ntmps102 Z ?_
 intro F w hX
 unfold iI at h
 refine T.seq (T.region Z (TL.box Z .u Z Z (fun b1=>(TL.run ag [1] Z Z (TL.nil (X.seq (T.seq (T.region Z (TL.run ag [0] Z Z (TL.q Z .u (Ai 0 Z Dd Z Z) Z ?_))))))))))
 rcases jF h with⟨c2,h⟩ | ⟨c2,h⟩
 ·refine TL.run ag [2] Z Z (TL.q Z (.g Z Z c2) (Ao ag Z) Z (TL.q Z (.g Z Z c2) (Ai 0 Z Dp Z Z) Z (TL.q Z (.g Z Z c2) (Ex.sNe Z (m := []) Z) Z (TL.q Z .u (Aq Z c2 Z) Z (TL.run ag [7] Z Z ?_)))))
  rcases jF h with⟨c3,h⟩ | ⟨c3,h⟩
  ·obtain rfl:=CP h
   exact TL.nil (X.seq (T.ret (Ak [1] Tryz.results102 (Aj (v:= .bool false) (congrArg (fun b=>some (Value.bool b)) (az (CN c3)))) ⟨Z,Z,Z⟩ (by rfl) (.inl Z))))
  ·obtain rfl:=CP h
   exact TL.nil (X.seq (T.ret (Ak [1] Tryz.results102 (Aj (v:= .bool true) (congrArg (fun b=>some (Value.bool b)) (aD (CO c3)))) ⟨Z,Z,Z⟩ (by rfl) (.inl Z))))
 ·replace c2:=CX c2
  refine TL.run ag [2] Z Z ?_
  iterate 3 refine An Z (.gn Z Z c2) Z ?_
  refine TL.q Z .u (Ar Z c2 Z) Z (TL.run ag [7] Z Z ?_)
  obtain rfl:=CP h
  exact TL.nil (X.seq (T.ret (Ak [1] Tryz.results102 (Aj Z) ⟨Z,Z,Z⟩ (by rfl) (.inl Z))))
def fY (a0:Rec):Option (Int):=if a0.Cv<0 then some 11 else (if a0.Cv>2147483647 then some 11 else ((iI a0.Cs).bind fun x6=>if x6=true then some 4 else ((iI a0.Cg).bind fun x9=>if x9=true then some 4 else ((g6 a0.Cn).bind fun x12=>if x12=true then some 0 else some 4))))
theorem jZ (a0:Rec) (A1:Option Addr) (c2:Nat) (r:Int) (h:fY a0=some r):ay Tryz.prog 45 #[.agg #[jI a0.CC,jI a0.Cv,.bool a0.Cs.null,jS a0.Cs.data,.bool a0.Cg.null,jS a0.Cg.data,.slice A1 a0.Cn.length c2]] (RX.of (av 3 bf) [.slice A1 a0.Cn.length c2] a0.Cn) (aB) (fun v A' N=>v=jI r∧A'=aB∧N = []):=by
 refine aL Tryz.func45 Z Tryz.ntmps45 Z ?_
 intro F w hX
 unfold fY at h
 refine T.seq (T.region Z (TL.box Z .u Z Z (fun b3=>(TL.run ag [1] Z Z (TL.nil (X.seq (T.seq (T.seq (T.region Z (TL.run ag [0] Z Z (TL.q Z .u (Ai 0 Z CV Z Z) Z ?_)))))))))))
 rcases jF h with⟨c4,h⟩ | ⟨c4,h⟩
 ·refine TL.run ag [2,3] Z Z ?_
  iterate 3 refine An Z (.gn Z Z (CN c4)) Z ?_
  refine TL.q Z .u (Aq Z (CN c4) Z) Z (TL.nil (X.seq (Am Z Z (T.seq (T.region Z (TL.run ag [0] Z Z ?_))))))
  obtain rfl:=CP h
  exact TL.nil (X.seq (T.ret (Al (Ak [1] EI (Aj Z) ⟨Z,Z,Z⟩ (by rfl) (.inl Z)))))
 ·refine TL.run ag [2,3] Z Z (TL.q Z (.g Z Z (CO c4)) (Ao ag Z) Z (TL.q Z (.g Z Z (CO c4)) (Ai 0 Z CV Z Z) Z (TL.q Z (.g Z Z (CO c4)) (Ao ag Z) Z (TL.q Z .u (Ar Z (CO c4) Z) Z ?_))))
  rcases jF h with⟨c5,h⟩ | ⟨c5,h⟩
  ·refine TL.nil (X.seq (Am Z (CN c5) (T.seq (T.region Z (TL.run ag [0] Z Z ?_)))))
   obtain rfl:=CP h
   exact TL.nil (X.seq (T.ret (Al (Ak [1] EI (Aj Z) ⟨Z,Z,Z⟩ (by rfl) (.inl Z)))))
  ·refine TL.nil (X.seq (Ap Z (CO c5) (T.skip (X.seq (T.seq (T.seq (T.region Z (TL.run ag [0] Z Z (TL.q Z .u (Av (us := [.bool a0.Cs.null,jS a0.Cs.data]) 0 Z Dw C7 Z Z Z) Z ?_)))))))))
   obtain⟨x6,hx7,h⟩:=CM h
   refine Ax Z .u (.fn Tryz.call102 Z) (lB a0.Cs _ hx7) (fun _ hs=>(RX.reads_triv _ _)) Z ?_
   rcases jF h with⟨c8,h⟩ | ⟨c8,h⟩
   ·refine TL.run ag [3] Z Z ?_
    iterate 3 refine An Z (.gn Z Z c8) Z ?_
    refine TL.q Z .u (Aq Z c8 Z) Z (TL.run ag [8] Z Z ?_)
    iterate 4 refine An Z (.gn Z Z Z) Z ?_
    refine TL.q Z .u (Aq Z Z Z) Z (TL.nil (X.seq (Am Z Z (T.seq (T.region Z (TL.run ag [0] Z Z ?_))))))
    obtain rfl:=CP h
    exact TL.nil (X.seq (T.ret (Al (Ak [1] EI (Aj Z) ⟨Z,Z,Z⟩ (by rfl) (.inl Z)))))
   ·replace c8:=CX c8
    refine TL.run ag [3] Z Z (TL.q Z (.g Z Z c8) (Ao ag Z) Z (TL.q Z (.g Z Z c8) (Av (us := [.bool a0.Cg.null,jS a0.Cg.data]) 0 Z Dw C7 Z Z Z) Z ?_))
    obtain⟨x9,hx10,h⟩:=CM h
    refine Ax Z (.g Z Z c8) (.fn Tryz.call102 Z) (lB a0.Cg _ hx10) (fun _ hs=>(RX.reads_triv _ _)) Z (TL.q Z .u (Ar Z c8 Z) Z ?_)
    rcases jF h with⟨c11,h⟩ | ⟨c11,h⟩
    ·refine TL.run ag [8] Z Z ?_
     iterate 4 refine An Z (.gn Z Z c11) Z ?_
     refine TL.q Z .u (Aq Z c11 Z) Z (TL.nil (X.seq (Am Z Z (T.seq (T.region Z (TL.run ag [0] Z Z ?_))))))
     obtain rfl:=CP h
     exact TL.nil (X.seq (T.ret (Al (Ak [1] EI (Aj Z) ⟨Z,Z,Z⟩ (by rfl) (.inl Z)))))
    ·replace c11:=CX c11
     refine TL.run ag [8] Z Z (TL.q Z (.g Z Z c11) (Ao ag Z) Z (TL.q Z (.g Z Z c11) (Ai 0 Z EB Z Z) Z ?_))
     obtain⟨x12,hx13,h⟩:=CM h
     refine Ax Z (.g Z Z c11) (.fn Tryz.call103 Z) (nT a0.Cn _ _ _ hx13) (fun _ hs=>(AE hs hX)) Z (TL.q Z (.g Z Z c11) (Ao ag Z) Z (TL.q Z .u (Ar Z c11 Z) Z ?_))
     rcases jF h with⟨c14,h⟩ | ⟨c14,h⟩
     ·refine TL.nil (X.seq (Ap Z (az c14) (T.skip (X.seq (T.seq (T.region Z (TL.run ag [0] Z Z ?_)))))))
      obtain rfl:=CP h
      exact TL.nil (X.seq (T.ret (Ak [1] EI (Aj Z) ⟨Z,Z,Z⟩ (by rfl) (.inl Z))))
     ·replace c14:=CX c14
      refine TL.nil (X.seq (Am Z (aD c14) (T.seq (T.region Z (TL.run ag [0] Z Z ?_)))))
      obtain rfl:=CP h
      exact TL.nil (X.seq (T.ret (Al (Ak [1] EI (Aj Z) ⟨Z,Z,Z⟩ (by rfl) (.inl Z)))))
def ja (a0:Rec) (a1:Rec):Option (Bool):=if a0.CC=a1.CC then (if a0.Cv=a1.Cv then (if a0.Cs.null=a1.Cs.null then (if a0.Cs.data=a1.Cs.data then (if a0.Cg.null=a1.Cg.null then (if a0.Cg.data=a1.Cg.data then ((iY a0.Cn a1.Cn).bind fun x13=>some x13) else some false) else some false) else some false) else some false) else some false) else some false
theorem pf (a0:Rec) (A1:Option Addr) (c2:Nat) (a1:Rec) (A3:Option Addr) (c4:Nat) (r:Bool) (h:ja a0 a1=some r):ay Tryz.prog 48 #[.agg #[jI a0.CC,jI a0.Cv,.bool a0.Cs.null,jS a0.Cs.data,.bool a0.Cg.null,jS a0.Cg.data,.slice A1 a0.Cn.length c2],.agg #[jI a1.CC,jI a1.Cv,.bool a1.Cs.null,jS a1.Cs.data,.bool a1.Cg.null,jS a1.Cg.data,.slice A3 a1.Cn.length c4]] (RX.and (RX.of (av 3 bf) [.slice A1 a0.Cn.length c2] a0.Cn) (RX.of (av 3 bf) [.slice A3 a1.Cn.length c4] a1.Cn)) (aB) (fun v A' N=>v= .bool r∧A'=aB∧N = []):=by
 refine aL Tryz.func48 Z Tryz.ntmps48 Z ?_
 intro F w hX
 unfold ja at h
 refine T.seq (T.region Z (TL.box Z .u Z Z (fun b5=>(TL.box Z .u Z Z (fun b6=>(TL.run ag [2] Z Z (TL.nil (X.seq (T.seq (T.region Z (TL.run ag [0] Z Z (TL.q Z .u (Ai 1 Z CV Z Z) Z (TL.run ag [2] Z Z ?_)))))))))))))
 refine TL.q Z .u (Ai 0 Z CV Z Z) Z ?_
 rcases jF h with⟨c7,h⟩ | ⟨c7,h⟩
 ·refine TL.run ag [4,5] Z Z (TL.q Z (.g Z Z (CN c7)) (Ao ag Z) Z (TL.q Z (.g Z Z (CN c7)) (Ai 1 Z CV Z Z) Z (TL.q Z (.g Z Z (CN c7)) (Ao ag Z) Z (TL.q Z (.g Z Z (CN c7)) (Ai 0 Z CV Z Z) Z (TL.q Z (.g Z Z (CN c7)) (Ao ag Z) Z (TL.q Z .u (Aq Z (CN c7) Z) Z ?_))))))
  rcases jF h with⟨c8,h⟩ | ⟨c8,h⟩
  ·refine TL.run ag [12] Z Z (TL.q Z (.g Z Z (CN c8)) (Ao ag Z) Z (TL.q Z (.g Z Z (CN c8)) (Av (us := [.bool a0.Cs.null,jS a0.Cs.data]) 1 Z Dw C7 Z Z Z) Z (TL.q Z (.g Z Z (CN c8)) (Ao ag Z) Z (TL.q Z (.g Z Z (CN c8)) (Av (us := [.bool a1.Cs.null,jS a1.Cs.data]) 0 Z Dw C7 Z Z Z) Z ?_))))
   rcases jF h with⟨c9,h⟩ | ⟨c9,h⟩
   ·rcases jF h with⟨c10,h⟩ | ⟨c10,h⟩
    ·refine TL.q Z (.g Z Z (CN c8)) (Ex.aEq (us := [.bool a0.Cs.null,jS a0.Cs.data]) (vs := [.bool a1.Cs.null,jS a1.Cs.data]) co Z D5 Z Z Z Z (iU (oU c9) (iU (qa (l:=a0.Cs.data) (m:=a1.Cs.data) c10) Z))) Z (TL.q Z .u (Aq Z (CN c8) Z) Z (TL.run ag [19] Z Z (TL.q Z (.g Z Z Z) (Ao ag Z) Z (TL.q Z (.g Z Z Z) (Av (us := [.bool a0.Cg.null,jS a0.Cg.data]) 1 Z Dw C7 Z Z Z) Z (TL.q Z (.g Z Z Z) (Ao ag Z) Z (TL.q Z (.g Z Z Z) (Av (us := [.bool a1.Cg.null,jS a1.Cg.data]) 0 Z Dw C7 Z Z Z) Z ?_))))))
     rcases jF h with⟨c11,h⟩ | ⟨c11,h⟩
     ·rcases jF h with⟨c12,h⟩ | ⟨c12,h⟩
      ·refine TL.q Z (.g Z Z Z) (Ex.aEq (us := [.bool a0.Cg.null,jS a0.Cg.data]) (vs := [.bool a1.Cg.null,jS a1.Cg.data]) co Z D5 Z Z Z Z (iU (oU c11) (iU (qa (l:=a0.Cg.data) (m:=a1.Cg.data) c12) Z))) Z (TL.q Z .u (Aq Z Z Z) Z (TL.run ag [26] Z Z (TL.q Z (.g Z Z Z) (Ao ag Z) Z (TL.q Z (.g Z Z Z) (Ai 1 Z EB Z Z) Z (TL.q Z (.g Z Z Z) (Ao ag Z) Z (TL.q Z (.g Z Z Z) (Ai 0 Z EB Z Z) Z ?_))))))
       obtain⟨x13,hx14,h⟩:=CM h
       refine Ax Z (.g Z Z Z) (.fn Tryz.call107 Z) (pd a0.Cn _ _ a1.Cn _ _ _ hx14) (fun _ hs=>(BB (AE hs (BD hX)) (AE hs (Br hX)))) Z (TL.q Z .u (Aq Z Z Z) Z (TL.run ag [33] Z Z ?_))
       obtain rfl:=CP h
       exact TL.nil (X.seq (T.ret (Ak [2] Ew (Aj Z) ⟨Z,Z,Z⟩ (by rfl) (.inl Z))))
      ·refine TL.q Z (.g Z Z Z) (Ex.aEq (us := [.bool a0.Cg.null,jS a0.Cg.data]) (vs := [.bool a1.Cg.null,jS a1.Cg.data]) co Z D5 Z Z Z Z (iU (oU c11) (ng (qb (l:=a0.Cg.data) (m:=a1.Cg.data) c12)))) Z (TL.q Z .u (Aq Z Z Z) Z (TL.run ag [26] Z Z ?_))
       iterate 5 refine An Z (.gn Z Z Z) Z ?_
       refine TL.q Z .u (Ar Z Z Z) Z (TL.run ag [33] Z Z ?_)
       obtain rfl:=CP h
       exact TL.nil (X.seq (T.ret (Ak [2] Ew (Aj Z) ⟨Z,Z,Z⟩ (by rfl) (.inl Z))))
     ·refine TL.q Z (.g Z Z Z) (Ex.aEq (us := [.bool a0.Cg.null,jS a0.Cg.data]) (vs := [.bool a1.Cg.null,jS a1.Cg.data]) co Z D5 Z Z Z Z (ng (sE c11))) Z (TL.q Z .u (Aq Z Z Z) Z (TL.run ag [26] Z Z ?_))
      iterate 5 refine An Z (.gn Z Z Z) Z ?_
      refine TL.q Z .u (Ar Z Z Z) Z (TL.run ag [33] Z Z ?_)
      obtain rfl:=CP h
      exact TL.nil (X.seq (T.ret (Ak [2] Ew (Aj Z) ⟨Z,Z,Z⟩ (by rfl) (.inl Z))))
    ·refine TL.q Z (.g Z Z (CN c8)) (Ex.aEq (us := [.bool a0.Cs.null,jS a0.Cs.data]) (vs := [.bool a1.Cs.null,jS a1.Cs.data]) co Z D5 Z Z Z Z (iU (oU c9) (ng (qb (l:=a0.Cs.data) (m:=a1.Cs.data) c10)))) Z (TL.q Z .u (Aq Z (CN c8) Z) Z (TL.run ag [19] Z Z ?_))
     iterate 5 refine An Z (.gn Z Z Z) Z ?_
     refine TL.q Z .u (Ar Z Z Z) Z (TL.run ag [26] Z Z ?_)
     iterate 5 refine An Z (.gn Z Z Z) Z ?_
     refine TL.q Z .u (Ar Z Z Z) Z (TL.run ag [33] Z Z ?_)
     obtain rfl:=CP h
     exact TL.nil (X.seq (T.ret (Ak [2] Ew (Aj Z) ⟨Z,Z,Z⟩ (by rfl) (.inl Z))))
   ·refine TL.q Z (.g Z Z (CN c8)) (Ex.aEq (us := [.bool a0.Cs.null,jS a0.Cs.data]) (vs := [.bool a1.Cs.null,jS a1.Cs.data]) co Z D5 Z Z Z Z (ng (sE c9))) Z (TL.q Z .u (Aq Z (CN c8) Z) Z (TL.run ag [19] Z Z ?_))
    iterate 5 refine An Z (.gn Z Z Z) Z ?_
    refine TL.q Z .u (Ar Z Z Z) Z (TL.run ag [26] Z Z ?_)
    iterate 5 refine An Z (.gn Z Z Z) Z ?_
    refine TL.q Z .u (Ar Z Z Z) Z (TL.run ag [33] Z Z ?_)
    obtain rfl:=CP h
    exact TL.nil (X.seq (T.ret (Ak [2] Ew (Aj Z) ⟨Z,Z,Z⟩ (by rfl) (.inl Z))))
  ·refine TL.run ag [12] Z Z ?_
   iterate 5 refine An Z (.gn Z Z (CO c8)) Z ?_
   refine TL.q Z .u (Ar Z (CO c8) Z) Z (TL.run ag [19] Z Z ?_)
   iterate 5 refine An Z (.gn Z Z Z) Z ?_
   refine TL.q Z .u (Ar Z Z Z) Z (TL.run ag [26] Z Z ?_)
   iterate 5 refine An Z (.gn Z Z Z) Z ?_
   refine TL.q Z .u (Ar Z Z Z) Z (TL.run ag [33] Z Z ?_)
   obtain rfl:=CP h
   exact TL.nil (X.seq (T.ret (Ak [2] Ew (Aj Z) ⟨Z,Z,Z⟩ (by rfl) (.inl Z))))
 ·refine TL.run ag [4,5] Z Z ?_
  iterate 5 refine An Z (.gn Z Z (CO c7)) Z ?_
  refine TL.q Z .u (Ar Z (CO c7) Z) Z (TL.run ag [12] Z Z ?_)
  iterate 5 refine An Z (.gn Z Z Z) Z ?_
  refine TL.q Z .u (Ar Z Z Z) Z (TL.run ag [19] Z Z ?_)
  iterate 5 refine An Z (.gn Z Z Z) Z ?_
  refine TL.q Z .u (Ar Z Z Z) Z (TL.run ag [26] Z Z ?_)
  iterate 5 refine An Z (.gn Z Z Z) Z ?_
  refine TL.q Z .u (Ar Z Z Z) Z (TL.run ag [33] Z Z ?_)
  obtain rfl:=CP h
  exact TL.nil (X.seq (T.ret (Ak [2] Ew (Aj Z) ⟨Z,Z,Z⟩ (by rfl) (.inl Z))))
def g8 (a0:Rec):Option (List UInt8):=(fX a0.CC).bind fun x5=>if (mc [0]).length+x5.length≤9223372036854775807 then ((fX a0.Cv).bind fun x8=>if ((mc [0])++x5).length+x8.length≤9223372036854775807 then ((gJ a0.Cs).bind fun x11=>if (((mc [0])++x5)++x8).length+x11.length≤9223372036854775807 then ((gJ a0.Cg).bind fun x14=>if ((((mc [0])++x5)++x8)++x11).length+x14.length≤9223372036854775807 then ((g7 a0.Cn).bind fun x17=>if (((((mc [0])++x5)++x8)++x11)++x14).length+x17.length≤9223372036854775807 then ((fX (((((((mc [0])++x5)++x8)++x11)++x14)++x17).length:Int)).bind fun x20=>if x20.length+((((((mc [0])++x5)++x8)++x11)++x14)++x17).length≤9223372036854775807 then (some (x20++((((((mc [0])++x5)++x8)++x11)++x14)++x17))) else none) else none) else none) else none) else none) else none
theorem nV (a0:Rec) (A1:Option Addr) (c2:Nat) (r:List UInt8) (h:g8 a0=some r):ay Tryz.prog 51 #[.agg #[jI a0.CC,jI a0.Cv,.bool a0.Cs.null,jS a0.Cs.data,.bool a0.Cg.null,jS a0.Cg.data,.slice A1 a0.Cn.length c2]] (RX.of (av 3 bf) [.slice A1 a0.Cn.length c2] a0.Cn) (aB) (fun v A' N=>v=jS r∧A'=aB∧N = []):=by
 refine aL Tryz.func51 Z Tryz.ntmps51 Z ?_
 intro F w hX
 unfold g8 at h
 refine T.seq (T.region Z (TL.box Z .u Z Z (fun b3=>(TL.run ag [1] Z Z ?_))))
 obtain⟨x5,hx6,h⟩:=CM h
 replace h:=ak h
 obtain⟨c7,h⟩:=h
 obtain⟨x8,hx9,h⟩:=CM h
 replace h:=ak h
 obtain⟨c10,h⟩:=h
 obtain⟨x11,hx12,h⟩:=CM h
 replace h:=ak h
 obtain⟨c13,h⟩:=h
 obtain⟨x14,hx15,h⟩:=CM h
 replace h:=ak h
 obtain⟨c16,h⟩:=h
 obtain⟨x17,hx18,h⟩:=CM h
 replace h:=ak h
 obtain⟨c19,h⟩:=h
 refine TL.nil (X.seq (T.seq ?_))
 refine BR (fun e Rs=> ∃ (b4:Nat),e = [(0,.agg #[jI a0.CC,jI a0.Cv,.bool a0.Cs.null,jS a0.Cs.data,.bool a0.Cg.null,jS a0.Cg.data,.slice A1 a0.Cn.length c2]),(2,.string ⟨#[]⟩),(3,.string (aF ((((((mc [0])++x5)++x8)++x11)++x14)++x17)))]∧Rs = [aC b4 5 #[.int .u8 0],aC b3 38 #[jI a0.CC,jI a0.Cv,.bool a0.Cs.null,jS a0.Cs.data,.bool a0.Cg.null,jS a0.Cg.data,.slice A1 a0.Cn.length c2],aB]) ?_ ?_
 ·refine AH (.q 2 (.q 3 (.q 6 (.q 7 (.q 10 (.q 11 (.q 14 (.q 15 (.q 18 (.q 19 (.br 0 (.q 1 (.e 4 (.q 5 (.e 8 (.q 9 (.e 12 (.q 13 (.e 16 (.q 17 (.e 20 (.q 21 (.q 22 .nil)))))))))))) (.e 4 (.br 0 (.q 1 (.q 5 (.e 8 (.q 9 (.e 12 (.q 13 (.e 16 (.q 17 (.e 20 (.q 21 (.q 22 .nil))))))))))) (.e 8 (.br 0 (.q 1 (.q 5 (.q 9 (.e 12 (.q 13 (.e 16 (.q 17 (.e 20 (.q 21 (.q 22 .nil)))))))))) (.e 12 (.br 0 (.q 1 (.q 5 (.q 9 (.q 13 (.e 16 (.q 17 (.e 20 (.q 21 (.q 22 .nil))))))))) (.e 16 (.br 0 (.q 1 (.q 5 (.q 9 (.q 13 (.q 17 (.e 20 (.q 21 (.q 22 .nil)))))))) (.e 20 (.e 0 (.q 1 (.q 5 (.q 9 (.q 13 (.q 17 (.q 21 (.q 22 .nil)))))))))))))))))))))))))))) [0,0] Z nj nd (by kernel_rfl) ?_
  refine TD.run ag [2] Z Z (TD.q Z .u (Ai 0 Z CV Z Z) Z (TD.run ag [6] Z Z (TD.q Z .u (Ai 0 Z CV Z Z) Z (TD.run ag [10] Z Z (TD.q Z .u (Av (us := [.bool a0.Cs.null,jS a0.Cs.data]) 0 Z Dw C7 Z Z Z) Z (TD.run ag [14] Z Z (TD.q Z .u (Av (us := [.bool a0.Cg.null,jS a0.Cg.data]) 0 Z Dw C7 Z Z Z) Z ?_)))))))
  refine TD.run ag [18] Z Z (TD.q Z .u (Ai 0 Z EB Z Z) Z ?_)
  refine TD.br ?_ ?_
  ·refine Ca (cells:= #[.int .u8 0]) Z .u bW Z (by rfl) Z [0,0,0] (fun _=>Z) (fun b4=>(TD.q Z .u (BQ (xs := [0]) 0 Z Z Z Z Eb CZ D0) Z (AR Z .u (.fn Tryz.call113 Z) (dO a0.CC _ hx6) (fun _ hs=>(RX.reads_triv _ _)) Z [0,0,0] (Z) (TD.q Z .u (AM Z Z c7) Z (AR Z .u (.fn Tryz.call113 Z) (dO a0.Cv _ hx9) (fun _ hs=>(RX.reads_triv _ _)) Z [0,0,0] (Z) (TD.q Z .u (AM Z Z c10) Z (AR Z .u (.fn Tryz.call114 Z) (bQ a0.Cs _ hx12) (fun _ hs=>(RX.reads_triv _ _)) Z [0,0,0] (Z) (TD.q Z .u (AM Z Z c13) Z ?_))))))))
   exact AR Z .u (.fn Tryz.call114 Z) (bQ a0.Cg _ hx15) (fun _ hs=>(RX.reads_triv _ _)) Z [0,0,0] (Z) (TD.q Z .u (AM Z Z c16) Z (AR Z .u (.fn Tryz.call115 Z) (dI a0.Cn _ _ _ hx18) (fun _ hs=>(AE hs hX)) Z [0,0,0] (Z) (TD.q Z .u (AM Z Z c19) Z (TD.run ag [22] Z Z (TD.nil (Bw [0,0,0] ⟨b4,Z,Z⟩ (by rfl) (by rfl)))))))
  ·refine AR Z .u (.fn Tryz.call113 Z) (dO a0.CC _ hx6) (fun _ hs=>(RX.reads_triv _ _)) Z [0,0] (Z) ?_
   refine TD.br ?_ ?_
   ·refine Ca (cells:= #[.int .u8 0]) Z .u bW Z (by rfl) Z [0,0,0] (fun _=>Z) (fun b4=>(TD.q Z .u (BQ (xs := [0]) 0 Z Z Z Z Eb CZ D0) Z (TD.q Z .u (AM Z Z c7) Z (AR Z .u (.fn Tryz.call113 Z) (dO a0.Cv _ hx9) (fun _ hs=>(RX.reads_triv _ _)) Z [0,0,0] (Z) (TD.q Z .u (AM Z Z c10) Z (AR Z .u (.fn Tryz.call114 Z) (bQ a0.Cs _ hx12) (fun _ hs=>(RX.reads_triv _ _)) Z [0,0,0] (Z) (TD.q Z .u (AM Z Z c13) Z (AR Z .u (.fn Tryz.call114 Z) (bQ a0.Cg _ hx15) (fun _ hs=>(RX.reads_triv _ _)) Z [0,0,0] (Z) ?_))))))))
    exact TD.q Z .u (AM Z Z c16) Z (AR Z .u (.fn Tryz.call115 Z) (dI a0.Cn _ _ _ hx18) (fun _ hs=>(AE hs hX)) Z [0,0,0] (Z) (TD.q Z .u (AM Z Z c19) Z (TD.run ag [22] Z Z (TD.nil (Bw [0,0,0] ⟨b4,Z,Z⟩ (by rfl) (by rfl))))))
   ·refine AR Z .u (.fn Tryz.call113 Z) (dO a0.Cv _ hx9) (fun _ hs=>(RX.reads_triv _ _)) Z [0,0] (Z) ?_
    refine TD.br ?_ ?_
    ·refine Ca (cells:= #[.int .u8 0]) Z .u bW Z (by rfl) Z [0,0,0] (fun _=>Z) (fun b4=>(TD.q Z .u (BQ (xs := [0]) 0 Z Z Z Z Eb CZ D0) Z (TD.q Z .u (AM Z Z c7) Z (TD.q Z .u (AM Z Z c10) Z (AR Z .u (.fn Tryz.call114 Z) (bQ a0.Cs _ hx12) (fun _ hs=>(RX.reads_triv _ _)) Z [0,0,0] (Z) (TD.q Z .u (AM Z Z c13) Z (AR Z .u (.fn Tryz.call114 Z) (bQ a0.Cg _ hx15) (fun _ hs=>(RX.reads_triv _ _)) Z [0,0,0] (Z) (TD.q Z .u (AM Z Z c16) Z ?_))))))))
     exact AR Z .u (.fn Tryz.call115 Z) (dI a0.Cn _ _ _ hx18) (fun _ hs=>(AE hs hX)) Z [0,0,0] (Z) (TD.q Z .u (AM Z Z c19) Z (TD.run ag [22] Z Z (TD.nil (Bw [0,0,0] ⟨b4,Z,Z⟩ (by rfl) (by rfl)))))
    ·refine AR Z .u (.fn Tryz.call114 Z) (bQ a0.Cs _ hx12) (fun _ hs=>(RX.reads_triv _ _)) Z [0,0] (Z) ?_
     refine TD.br ?_ ?_
     ·refine Ca (cells:= #[.int .u8 0]) Z .u bW Z (by rfl) Z [0,0,0] (fun _=>Z) (fun b4=>(TD.q Z .u (BQ (xs := [0]) 0 Z Z Z Z Eb CZ D0) Z (TD.q Z .u (AM Z Z c7) Z (TD.q Z .u (AM Z Z c10) Z (TD.q Z .u (AM Z Z c13) Z (AR Z .u (.fn Tryz.call114 Z) (bQ a0.Cg _ hx15) (fun _ hs=>(RX.reads_triv _ _)) Z [0,0,0] (Z) (TD.q Z .u (AM Z Z c16) Z (AR Z .u (.fn Tryz.call115 Z) (dI a0.Cn _ _ _ hx18) (fun _ hs=>(AE hs hX)) Z [0,0,0] (Z) ?_))))))))
      exact TD.q Z .u (AM Z Z c19) Z (TD.run ag [22] Z Z (TD.nil (Bw [0,0,0] ⟨b4,Z,Z⟩ (by rfl) (by rfl))))
     ·refine AR Z .u (.fn Tryz.call114 Z) (bQ a0.Cg _ hx15) (fun _ hs=>(RX.reads_triv _ _)) Z [0,0] (Z) ?_
      refine TD.br ?_ ?_
      ·refine Ca (cells:= #[.int .u8 0]) Z .u bW Z (by rfl) Z [0,0,0] (fun _=>Z) (fun b4=>(TD.q Z .u (BQ (xs := [0]) 0 Z Z Z Z Eb CZ D0) Z (TD.q Z .u (AM Z Z c7) Z (TD.q Z .u (AM Z Z c10) Z (TD.q Z .u (AM Z Z c13) Z (TD.q Z .u (AM Z Z c16) Z (AR Z .u (.fn Tryz.call115 Z) (dI a0.Cn _ _ _ hx18) (fun _ hs=>(AE hs hX)) Z [0,0,0] (Z) (TD.q Z .u (AM Z Z c19) Z ?_))))))))
       exact TD.run ag [22] Z Z (TD.nil (Bw [0,0,0] ⟨b4,Z,Z⟩ (by rfl) (by rfl)))
      ·refine AR Z .u (.fn Tryz.call115 Z) (dI a0.Cn _ _ _ hx18) (fun _ hs=>(AE hs hX)) Z [0,0] (Z) (Ca (cells:= #[.int .u8 0]) Z .u bW Z (by rfl) Z [0,0,0] (fun _=>Z) (fun b4=>(TD.q Z .u (BQ (xs := [0]) 0 Z Z Z Z Eb CZ D0) Z (TD.q Z .u (AM Z Z c7) Z (TD.q Z .u (AM Z Z c10) Z (TD.q Z .u (AM Z Z c13) Z (TD.q Z .u (AM Z Z c16) Z (TD.q Z .u (AM Z Z c19) Z ?_))))))))
       exact TD.run ag [22] Z Z (TD.nil (Bw [0,0,0] ⟨b4,Z,Z⟩ (by rfl) (by rfl)))
 ·rintro _ _ ⟨b4,rfl,rfl⟩
  refine X.seq (T.seq (T.region Z (TL.run ag [0] Z Z (TL.q Z .u (AW Z CZ) Z ?_))))
  obtain⟨x20,hx21,h⟩:=CM h
  refine Ax Z .u (.fn Tryz.call113 Z) (dO (((((((mc [0])++x5)++x8)++x11)++x14)++x17).length:Int) _ hx21) (fun _ hs=>(RX.reads_triv _ _)) Z ?_
  replace h:=ak h
  obtain⟨c22,h⟩:=h
  refine TL.run ag [3] Z Z (TL.q Z .u (AM Z Z c22) Z (TL.run ag [5] Z Z ?_))
  obtain rfl:=CP h
  exact TL.nil (X.seq (T.ret (Ak [2] Tryz.results51 (Aj Z) ⟨Z,Z,Z⟩ (by rfl) (.inl Z))))
def cj (a0:Int):Option (jB):=some (⟨(⟨0,0,(⟨false,[]⟩:Bl),(⟨false,[]⟩:Bl),[]⟩:Rec),0,a0⟩:jB)
theorem bz (a0:Int) (r:jB) (h:cj a0=some r):ay Tryz.prog 171 #[jI a0] .triv (aB) (fun v A' N=> ∃ (A2:Option Addr) (c3:Nat),v= .agg #[jI r.Ck.CC,jI r.Ck.Cv,.bool r.Ck.Cs.null,jS r.Ck.Cs.data,.bool r.Ck.Cg.null,jS r.Ck.Cg.data,.slice A2 r.Ck.Cn.length c3,jI r.CH,jI r.CI]∧A'=aB∧N = [RdR (av 3 bf) [.slice A2 r.Ck.Cn.length c3] r.Ck.Cn]):=by
 refine aL Tryz.func171 Z Tryz.ntmps171 Z ?_
 intro F w hX
 unfold cj at h
 refine T.seq (T.region Z (TL.alloc Z .u Tryz.zeroValue220 Z (fun b1=>(TL.nil (X.seq (T.seq (T.region Z (TL.run ag [0] Z Z ?_))))))))
 refine TL.q Z .u (AD (cells:= #[jI 0,jI 0,.bool false,.string ⟨#[]⟩,.bool false,.string ⟨#[]⟩,.slice none 0 0,jI 0,jI a0]) gB Z (by kernel_rfl)) Z ?_
 refine Ay (cs':= #[jI 0,jI 0,.bool false,.string ⟨#[]⟩,.bool false,.string ⟨#[]⟩,.slice none 0 0,jI 0,jI a0]) Z .u Z Z Dm Z Z Z Z ?_
 obtain rfl:=CP h
 exact TL.nil (X.seq (T.ret (AO 3 bf (Ak [2,0] Tryz.results171 (AF (us:= #[jI 0,jI 0,.bool false,.string ⟨#[]⟩,.bool false,.string ⟨#[]⟩,.slice none 0 0,jI 0,jI a0]) 1 Z DY Dm Z Z) ⟨_,_,Z,Z,Z⟩ (by rfl) (.inl Z)))))
def g9 (a0:List UInt8):Option (jB):=if (a0.length:Int)<1 then ((cj 1).bind fun x3=>some x3) else ((a0[0]?).bind fun ch7=>if (ch7.toNat:Int)=0 then (if 1≤a0.length then ((oQ (a0.drop 1) 64).bind fun (x11,x12,x13)=>if x13=0 then (if -9223372036854775808≤(1+x12)∧(1+x12)≤9223372036854775807 then (if 0≤(1+x12)∧(1+x12).toNat≤a0.length then ((oQ (a0.drop ((1+x12).toNat)) 32).bind fun (x18,x19,x20)=>if x20=0 then ((nL x11).bind fun x23=>(nL x18).bind fun x25=>if x25<0 then ((cj 11).bind fun x29=>some x29) else (if 0≤x19∧x19.toNat≤(a0.drop ((1+x12).toNat)).length then ((fW ((a0.drop ((1+x12).toNat)).drop x19.toNat)).bind fun x34=>if x34.err=0 then (if 0≤x34.many∧x34.many.toNat≤((a0.drop ((1+x12).toNat)).drop x19.toNat).length then ((fW (((a0.drop ((1+x12).toNat)).drop x19.toNat).drop x34.many.toNat)).bind fun x39=>if x39.err=0 then (if 0≤x39.many∧x39.many.toNat≤(((a0.drop ((1+x12).toNat)).drop x19.toNat).drop x34.many.toNat).length then ((iZ ((((a0.drop ((1+x12).toNat)).drop x19.toNat).drop x34.many.toNat).drop x39.many.toNat)).bind fun (x44,x47,x48)=>if x48=0 then (if x47=(((((a0.drop ((1+x12).toNat)).drop x19.toNat).drop x34.many.toNat).drop x39.many.toNat).length:Int) then (some (⟨(⟨x23,x25,x34.blob,x39.blob,x44⟩:Rec),0,0⟩:jB)) else ((cj 2).bind fun x52=>some x52)) else ((cj x48).bind fun x56=>some x56)) else none) else ((cj x39.err).bind fun x60=>some x60)) else none) else ((cj x34.err).bind fun x64=>some x64)) else none)) else ((cj x20).bind fun x68=>some x68)) else none) else none) else ((cj x13).bind fun x72=>some x72)) else none) else ((cj 8).bind fun x76=>some x76))
theorem nW (a0:List UInt8) (r:jB) (h:g9 a0=some r):ay Tryz.prog 172 #[jS a0] .triv (aB) (fun v A' N=> ∃ (A80:Option Addr) (c81:Nat),v= .agg #[jI r.Ck.CC,jI r.Ck.Cv,.bool r.Ck.Cs.null,jS r.Ck.Cs.data,.bool r.Ck.Cg.null,jS r.Ck.Cg.data,.slice A80 r.Ck.Cn.length c81,jI r.CH,jI r.CI]∧A'=aB∧N = [RdR (av 3 bf) [.slice A80 r.Ck.Cn.length c81] r.Ck.Cn]):=by
 refine aL Tryz.func172 Z Tryz.ntmps172 Z ?_
 intro F w hX
 unfold g9 at h
 refine T.seq (T.region Z (TL.alloc Z .u Tryz.zeroValue220 Z (fun b1=>(TL.nil (X.seq (T.seq (T.seq (T.region Z (TL.run ag [0] Z Z (TL.q Z .u (AW Z CZ) Z (TL.run ag [2] Z Z ?_)))))))))))
 rcases jF h with⟨c2,h⟩ | ⟨c2,h⟩
 ·refine TL.nil (X.seq (Am Z (CN c2) ?_))
  obtain⟨x3,hx6,h⟩:=CM h
  refine T.seq (T.region Z (AP Z .u (.fn Tryz.call171 Z) (bz 1 _ hx6) (fun _ hs=>(RX.reads_triv _ _)) Z ?_))
  rintro _ _ _ ⟨A4,c5,rfl,rfl,rfl⟩
  refine AC [0,0,0] Z (BL (cs':= #[jI x3.Ck.CC,jI x3.Ck.Cv,.bool x3.Ck.Cs.null,jS x3.Ck.Cs.data,.bool x3.Ck.Cg.null,jS x3.Ck.Cg.data,.slice A4 x3.Ck.Cn.length c5,jI x3.CH,jI x3.CI]) Z .u Z Z Dm Z Z Z Z ?_)
  obtain rfl:=CP h
  exact TL.nil (X.seq (T.ret (Al (Ak [2,0] D8 (AF (us:= #[jI x3.Ck.CC,jI x3.Ck.Cv,.bool x3.Ck.Cs.null,jS x3.Ck.Cs.data,.bool x3.Ck.Cg.null,jS x3.Ck.Cg.data,.slice A4 x3.Ck.Cn.length c5,jI x3.CH,jI x3.CI]) 1 Z DY Dm Z Z) ⟨_,_,Z,Z,Z⟩ (by rfl) (.inl Z)))))
 ·refine TL.nil (X.seq (Ap Z (CO c2) (T.skip (X.seq (T.seq (T.seq (T.region Z ?_)))))))
  obtain⟨ch7,hc8,h⟩:=CM h
  refine TL.run ag [0] Z Z (TL.q Z .u (B6 Z Z Z Tryz.underlying9 hc8) Z (TL.run ag [2] Z Z ?_))
  rcases jF h with⟨c9,h⟩ | ⟨c9,h⟩
  ·refine TL.nil (X.seq (Ap Z (az (CN c9)) (T.skip (X.seq (T.seq (T.region Z ?_))))))
   replace h:=ak h
   obtain⟨c10,h⟩:=h
   refine TL.run ag [0] Z Z ?_
   replace c10:1≤a0.length:=c10
   refine TL.q Z .u (Ba (p:=1) (q:=a0.length) (m:=(a0.drop 1)) Z CZ (.some Z Z) .none (by first | omega | (dsimp only; omega)) (dY _ _)) Z ?_
   obtain⟨⟨x11,x12,x13⟩,hx14,h⟩:=CM h
   try dsimp only at h
   refine Ax Z .u (.fn Tryz.call179 Z) (AN (fun w=>mL (a0.drop 1) 64 _ hx14 w)) (fun _ _=>RX.reads_triv _ _) Z (TL.run ag [3,4,5,6,7,8,9] Z Z (TL.nil (X.seq (T.seq (T.seq (T.region Z (TL.run ag [0,1] Z Z ?_)))))))
   rcases jF h with⟨c15,h⟩ | ⟨c15,h⟩
   ·refine TL.nil (X.seq (Ap Z (az (CN c15)) (T.skip (X.seq (T.seq (T.region Z ?_))))))
    replace h:=ak h
    obtain⟨c16,h⟩:=h
    refine TL.run ag [0,1] Z Z (TL.q Z .u (Ex.add Z Z c16) Z ?_)
    replace h:=ak h
    obtain⟨c17,h⟩:=h
    replace c17:0≤(1+x12)∧(1+x12).toNat≤a0.length:=c17
    refine TL.q Z .u (Ba (p:=(1+x12).toNat) (q:=a0.length) (m:=(a0.drop ((1+x12).toNat))) Z CZ (.some Z ((Int.toNat_of_nonneg c17.1).symm)) .none (by first | omega | (dsimp only; omega)) (dY _ _)) Z ?_
    refine TL.run ag [4] Z Z (TL.nil (X.seq (T.seq (T.region Z ?_))))
    obtain⟨⟨x18,x19,x20⟩,hx21,h⟩:=CM h
    try dsimp only at h
    refine TL.run ag [0] Z Z (Ax Z .u (.fn Tryz.call179 Z) (AN (fun w=>mL (a0.drop ((1+x12).toNat)) 32 _ hx21 w)) (fun _ _=>RX.reads_triv _ _) Z (TL.run ag [2,3,4,5,6,7,8] Z Z (TL.nil (X.seq (T.seq (T.seq (T.region Z (TL.run ag [0,1] Z Z ?_))))))))
    rcases jF h with⟨c22,h⟩ | ⟨c22,h⟩
    ·refine TL.nil (X.seq (Ap Z (az (CN c22)) (T.skip (X.seq (T.seq (T.region Z ?_))))))
     obtain⟨x23,hx24,h⟩:=CM h
     refine TL.run ag [0] Z Z (Ax Z .u (.fn Tryz.call180 Z) (AN (fun w=>lu x11 _ hx24 w)) (fun _ _=>RX.reads_triv _ _) Z ?_)
     obtain⟨x25,hx26,h⟩:=CM h
     refine TL.run ag [2] Z Z (Ax Z .u (.fn Tryz.call180 Z) (AN (fun w=>lu x18 _ hx26 w)) (fun _ _=>RX.reads_triv _ _) Z ?_)
     refine TL.q Z .u (AD (cells:= #[jI x23,jI x25,.bool false,.string ⟨#[]⟩,.bool false,.string ⟨#[]⟩,.slice none 0 0]) lA Z (by kernel_rfl)) Z ?_
     refine TL.alloc Z .u Tryz.zeroValue38 Z (fun b27=>(Ay (cs':= #[jI x23,jI x25,.bool false,.string ⟨#[]⟩,.bool false,.string ⟨#[]⟩,.slice none 0 0]) Z .u Z Z C4 Z Z Z Z (TL.nil (X.seq (T.seq (T.seq (T.region Z (TL.run ag [0] Z Z (TL.q Z .u (Ai 0 Z CV Z Z) Z (TL.run ag [2] Z Z ?_))))))))))
     rcases jF h with⟨c28,h⟩ | ⟨c28,h⟩
     ·refine TL.nil (X.seq (Am Z (CN c28) ?_))
      obtain⟨x29,hx32,h⟩:=CM h
      refine T.seq (T.region Z (AP Z .u (.fn Tryz.call171 Z) (bz 11 _ hx32) (fun _ hs=>(RX.reads_triv _ _)) Z ?_))
      rintro _ _ _ ⟨A30,c31,rfl,rfl,rfl⟩
      refine AC [0,0,0,0] Z (Bq (cs':= #[jI x29.Ck.CC,jI x29.Ck.Cv,.bool x29.Ck.Cs.null,jS x29.Ck.Cs.data,.bool x29.Ck.Cg.null,jS x29.Ck.Cg.data,.slice A30 x29.Ck.Cn.length c31,jI x29.CH,jI x29.CI]) Z .u Z Z Dm Z Z Z Z ?_)
      obtain rfl:=CP h
      exact TL.nil (X.seq (T.ret (Al (Ak [3,0] D8 (AF (us:= #[jI x29.Ck.CC,jI x29.Ck.Cv,.bool x29.Ck.Cs.null,jS x29.Ck.Cs.data,.bool x29.Ck.Cg.null,jS x29.Ck.Cg.data,.slice A30 x29.Ck.Cn.length c31,jI x29.CH,jI x29.CI]) 2 Z DY Dm Z Z) ⟨_,_,Z,Z,Z⟩ (by rfl) (.inl Z)))))
     ·refine TL.nil (X.seq (Ap Z (CO c28) (T.skip (X.seq (T.seq (T.region Z ?_))))))
      replace h:=ak h
      obtain⟨c33,h⟩:=h
      refine TL.run ag [0,1] Z Z ?_
      replace c33:0≤x19∧x19.toNat≤(a0.drop ((1+x12).toNat)).length:=c33
      refine TL.q Z .u (Ba (p:=x19.toNat) (q:=(a0.drop ((1+x12).toNat)).length) (m:=((a0.drop ((1+x12).toNat)).drop x19.toNat)) Z CZ (.some Z ((Int.toNat_of_nonneg c33.1).symm)) .none (by first | omega | (dsimp only; omega)) (dY _ _)) Z ?_
      refine TL.run ag [3] Z Z (TL.nil (X.seq (T.seq (T.region Z ?_))))
      obtain⟨x34,hx35,h⟩:=CM h
      refine TL.run ag [0] Z Z (Ax Z .u (.fn Tryz.call170 Z) (fb ((a0.drop ((1+x12).toNat)).drop x19.toNat) _ hx35) (fun _ hs=>(RX.reads_triv _ _)) Z (TL.alloc Z .u Tryz.zeroValue119 Z (fun b36=>(Ay (cs':= #[.bool x34.blob.null,jS x34.blob.data,jI x34.many,jI x34.err]) Z .u Z Z Ep Z Z Z Z (TL.nil (X.seq (T.seq (T.seq (T.region Z (TL.run ag [0] Z Z (TL.q Z .u (Ai 0 Z CV Z Z) Z (TL.run ag [2] Z Z ?_))))))))))))
      rcases jF h with⟨c37,h⟩ | ⟨c37,h⟩
      ·refine TL.nil (X.seq (Ap Z (az (CN c37)) (T.skip (X.seq (T.seq (T.region Z (TL.run ag [0,1] Z Z (TL.q Z .u (Ai 0 Z CV Z Z) Z ?_))))))))
       replace h:=ak h
       obtain⟨c38,h⟩:=h
       replace c38:0≤x34.many∧x34.many.toNat≤((a0.drop ((1+x12).toNat)).drop x19.toNat).length:=c38
       refine TL.q Z .u (Ba (p:=x34.many.toNat) (q:=((a0.drop ((1+x12).toNat)).drop x19.toNat).length) (m:=(((a0.drop ((1+x12).toNat)).drop x19.toNat).drop x34.many.toNat)) Z CZ (.some Z ((Int.toNat_of_nonneg c38.1).symm)) .none (by first | omega | (dsimp only; omega)) (dY _ _)) Z ?_
       refine TL.run ag [4] Z Z (TL.nil (X.seq (T.seq (T.region Z ?_))))
       obtain⟨x39,hx40,h⟩:=CM h
       refine TL.run ag [0] Z Z (Ax Z .u (.fn Tryz.call170 Z) (fb (((a0.drop ((1+x12).toNat)).drop x19.toNat).drop x34.many.toNat) _ hx40) (fun _ hs=>(RX.reads_triv _ _)) Z (TL.alloc Z .u Tryz.zeroValue119 Z (fun b41=>(Ay (cs':= #[.bool x39.blob.null,jS x39.blob.data,jI x39.many,jI x39.err]) Z .u Z Z Ep Z Z Z Z (TL.nil (X.seq (T.seq (T.seq (T.region Z (TL.run ag [0] Z Z (TL.q Z .u (Ai 0 Z CV Z Z) Z (TL.run ag [2] Z Z ?_))))))))))))
       rcases jF h with⟨c42,h⟩ | ⟨c42,h⟩
       ·refine TL.nil (X.seq (Ap Z (az (CN c42)) (T.skip (X.seq (T.seq (T.region Z (TL.run ag [0,1] Z Z (TL.q Z .u (Ai 0 Z CV Z Z) Z ?_))))))))
        replace h:=ak h
        obtain⟨c43,h⟩:=h
        replace c43:0≤x39.many∧x39.many.toNat≤(((a0.drop ((1+x12).toNat)).drop x19.toNat).drop x34.many.toNat).length:=c43
        refine TL.q Z .u (Ba (p:=x39.many.toNat) (q:=(((a0.drop ((1+x12).toNat)).drop x19.toNat).drop x34.many.toNat).length) (m:=((((a0.drop ((1+x12).toNat)).drop x19.toNat).drop x34.many.toNat).drop x39.many.toNat)) Z CZ (.some Z ((Int.toNat_of_nonneg c43.1).symm)) .none (by first | omega | (dsimp only; omega)) (dY _ _)) Z ?_
        refine TL.run ag [4] Z Z (TL.nil (X.seq (T.seq (T.region Z ?_))))
        obtain⟨⟨x44,x47,x48⟩,hx49,h⟩:=CM h
        try dsimp only at h
        refine TL.run ag [0] Z Z (AP Z .u (.fn Tryz.call181 Z) (pe ((((a0.drop ((1+x12).toNat)).drop x19.toNat).drop x34.many.toNat).drop x39.many.toNat) _ hx49) (fun _ hs=>(RX.reads_triv _ _)) Z ?_)
        rintro _ _ _ ⟨A45,c46,rfl,rfl,rfl⟩
        refine AC [0,0,0,0,0,0] Z (TL.run ag [2,3,4,5,6,7,8] Z Z (TL.nil (X.seq (T.seq (T.seq (T.region Z (TL.run ag [0,1] Z Z ?_)))))))
        rcases jF h with⟨c50,h⟩ | ⟨c50,h⟩
        ·refine TL.nil (X.seq (Ap Z (az (CN c50)) (T.skip (X.seq (T.seq (T.seq (T.region Z (TL.run ag [0,1] Z Z (TL.q Z .u (AW Z CZ) Z (TL.run ag [3] Z Z ?_))))))))))
         rcases jF h with⟨c51,h⟩ | ⟨c51,h⟩
         ·refine TL.nil (X.seq (Ap Z (az (CN c51)) (T.skip (X.seq (T.seq (T.region Z (TL.run ag [0] Z Z (TL.q Z .u (Av (us := [.bool x34.blob.null,jS x34.blob.data]) 2 Z Dw C7 Z Z Z) Z (TL.run ag [2] Z Z (A5 (cs':= #[jI x23,jI x25,.bool x34.blob.null,jS x34.blob.data,.bool false,.string ⟨#[]⟩,.slice none 0 0]) Z .u Z Z C7 Z Z Z Z (TL.nil (X.seq (T.seq (T.region Z ?_))))))))))))))
          refine TL.run ag [0] Z Z (TL.q Z .u (Av (us := [.bool x39.blob.null,jS x39.blob.data]) 1 Z Dw C7 Z Z Z) Z (TL.run ag [2] Z Z (A5 (cs':= #[jI x23,jI x25,.bool x34.blob.null,jS x34.blob.data,.bool x39.blob.null,jS x39.blob.data,.slice none 0 0]) Z .u Z Z C7 Z Z Z Z (TL.nil (X.seq (T.seq (T.region Z (TL.run ag [0,1] Z Z (A5 (cs':= #[jI x23,jI x25,.bool x34.blob.null,jS x34.blob.data,.bool x39.blob.null,jS x39.blob.data,.slice A45 x44.length c46]) Z .u Z Z En Z Z Z Z (TL.nil (X.seq (T.seq (T.region Z ?_)))))))))))))
          refine TL.q Z .u (Av (us := [jI x23,jI x25,.bool x34.blob.null,jS x34.blob.data,.bool x39.blob.null,jS x39.blob.data,.slice A45 x44.length c46]) 3 Z Dr C4 Z Z Z) Z ?_
          refine TL.q Z .u (AD (cells:= #[jI x23,jI x25,.bool x34.blob.null,jS x34.blob.data,.bool x39.blob.null,jS x39.blob.data,.slice A45 x44.length c46,jI 0,jI 0]) gB Z (by kernel_rfl)) Z ?_
          refine Bn (cs':= #[jI x23,jI x25,.bool x34.blob.null,jS x34.blob.data,.bool x39.blob.null,jS x39.blob.data,.slice A45 x44.length c46,jI 0,jI 0]) Z .u Z Z Dm Z Z Z Z ?_
          obtain rfl:=CP h
          exact TL.nil (X.seq (T.ret (Ak [5,0] D8 (AF (us:= #[jI x23,jI x25,.bool x34.blob.null,jS x34.blob.data,.bool x39.blob.null,jS x39.blob.data,.slice A45 x44.length c46,jI 0,jI 0]) 4 Z DY Dm Z Z) ⟨_,_,Z,Z,Z⟩ (by rfl) (.inl Z))))
         ·refine TL.nil (X.seq (Am Z (aD (CO c51)) ?_))
          obtain⟨x52,hx55,h⟩:=CM h
          refine T.seq (T.region Z (AP Z .u (.fn Tryz.call171 Z) (bz 2 _ hx55) (fun _ hs=>(RX.reads_triv _ _)) Z ?_))
          rintro _ _ _ ⟨A53,c54,rfl,rfl,rfl⟩
          refine AC [0,0,0,0,0,0,0] Z (TL.st5 (cs':= #[jI x52.Ck.CC,jI x52.Ck.Cv,.bool x52.Ck.Cs.null,jS x52.Ck.Cs.data,.bool x52.Ck.Cg.null,jS x52.Ck.Cg.data,.slice A53 x52.Ck.Cn.length c54,jI x52.CH,jI x52.CI]) Z .u Z Z Dm Z Z Z Z ?_)
          obtain rfl:=CP h
          exact TL.nil (X.seq (T.ret (Al (Ak [6,0] D8 (AF (us:= #[jI x52.Ck.CC,jI x52.Ck.Cv,.bool x52.Ck.Cs.null,jS x52.Ck.Cs.data,.bool x52.Ck.Cg.null,jS x52.Ck.Cg.data,.slice A53 x52.Ck.Cn.length c54,jI x52.CH,jI x52.CI]) 5 Z DY Dm Z Z) ⟨_,_,Z,Z,Z⟩ (by rfl) (.inl Z)))))
        ·refine TL.nil (X.seq (Am Z (aD (CO c50)) (T.seq (T.region Z ?_))))
         obtain⟨x56,hx59,h⟩:=CM h
         refine TL.run ag [0] Z Z (AP Z .u (.fn Tryz.call171 Z) (bz x48 _ hx59) (fun _ hs=>(RX.reads_triv _ _)) Z ?_)
         rintro _ _ _ ⟨A57,c58,rfl,rfl,rfl⟩
         refine AC [0,0,0,0,0,0,0] Z (TL.st5 (cs':= #[jI x56.Ck.CC,jI x56.Ck.Cv,.bool x56.Ck.Cs.null,jS x56.Ck.Cs.data,.bool x56.Ck.Cg.null,jS x56.Ck.Cg.data,.slice A57 x56.Ck.Cn.length c58,jI x56.CH,jI x56.CI]) Z .u Z Z Dm Z Z Z Z ?_)
         obtain rfl:=CP h
         exact TL.nil (X.seq (T.ret (Al (Ak [6,0] D8 (AF (us:= #[jI x56.Ck.CC,jI x56.Ck.Cv,.bool x56.Ck.Cs.null,jS x56.Ck.Cs.data,.bool x56.Ck.Cg.null,jS x56.Ck.Cg.data,.slice A57 x56.Ck.Cn.length c58,jI x56.CH,jI x56.CI]) 5 Z DY Dm Z Z) ⟨_,_,Z,Z,Z⟩ (by rfl) (.inl Z)))))
       ·refine TL.nil (X.seq (Am Z (aD (CO c42)) (T.seq (T.region Z (TL.run ag [0] Z Z (TL.q Z .u (Ai 0 Z CV Z Z) Z ?_))))))
        obtain⟨x60,hx63,h⟩:=CM h
        refine AP Z .u (.fn Tryz.call171 Z) (bz x39.err _ hx63) (fun _ hs=>(RX.reads_triv _ _)) Z ?_
        rintro _ _ _ ⟨A61,c62,rfl,rfl,rfl⟩
        refine AC [0,0,0,0,0,0] Z (Bn (cs':= #[jI x60.Ck.CC,jI x60.Ck.Cv,.bool x60.Ck.Cs.null,jS x60.Ck.Cs.data,.bool x60.Ck.Cg.null,jS x60.Ck.Cg.data,.slice A61 x60.Ck.Cn.length c62,jI x60.CH,jI x60.CI]) Z .u Z Z Dm Z Z Z Z ?_)
        obtain rfl:=CP h
        exact TL.nil (X.seq (T.ret (Al (Ak [5,0] D8 (AF (us:= #[jI x60.Ck.CC,jI x60.Ck.Cv,.bool x60.Ck.Cs.null,jS x60.Ck.Cs.data,.bool x60.Ck.Cg.null,jS x60.Ck.Cg.data,.slice A61 x60.Ck.Cn.length c62,jI x60.CH,jI x60.CI]) 4 Z DY Dm Z Z) ⟨_,_,Z,Z,Z⟩ (by rfl) (.inl Z)))))
      ·refine TL.nil (X.seq (Am Z (aD (CO c37)) (T.seq (T.region Z (TL.run ag [0] Z Z (TL.q Z .u (Ai 0 Z CV Z Z) Z ?_))))))
       obtain⟨x64,hx67,h⟩:=CM h
       refine AP Z .u (.fn Tryz.call171 Z) (bz x34.err _ hx67) (fun _ hs=>(RX.reads_triv _ _)) Z ?_
       rintro _ _ _ ⟨A65,c66,rfl,rfl,rfl⟩
       refine AC [0,0,0,0,0] Z (A5 (cs':= #[jI x64.Ck.CC,jI x64.Ck.Cv,.bool x64.Ck.Cs.null,jS x64.Ck.Cs.data,.bool x64.Ck.Cg.null,jS x64.Ck.Cg.data,.slice A65 x64.Ck.Cn.length c66,jI x64.CH,jI x64.CI]) Z .u Z Z Dm Z Z Z Z ?_)
       obtain rfl:=CP h
       exact TL.nil (X.seq (T.ret (Al (Ak [4,0] D8 (AF (us:= #[jI x64.Ck.CC,jI x64.Ck.Cv,.bool x64.Ck.Cs.null,jS x64.Ck.Cs.data,.bool x64.Ck.Cg.null,jS x64.Ck.Cg.data,.slice A65 x64.Ck.Cn.length c66,jI x64.CH,jI x64.CI]) 3 Z DY Dm Z Z) ⟨_,_,Z,Z,Z⟩ (by rfl) (.inl Z)))))
    ·refine TL.nil (X.seq (Am Z (aD (CO c22)) (T.seq (T.region Z ?_))))
     obtain⟨x68,hx71,h⟩:=CM h
     refine TL.run ag [0] Z Z (AP Z .u (.fn Tryz.call171 Z) (bz x20 _ hx71) (fun _ hs=>(RX.reads_triv _ _)) Z ?_)
     rintro _ _ _ ⟨A69,c70,rfl,rfl,rfl⟩
     refine AC [0,0,0] Z (BL (cs':= #[jI x68.Ck.CC,jI x68.Ck.Cv,.bool x68.Ck.Cs.null,jS x68.Ck.Cs.data,.bool x68.Ck.Cg.null,jS x68.Ck.Cg.data,.slice A69 x68.Ck.Cn.length c70,jI x68.CH,jI x68.CI]) Z .u Z Z Dm Z Z Z Z ?_)
     obtain rfl:=CP h
     exact TL.nil (X.seq (T.ret (Al (Ak [2,0] D8 (AF (us:= #[jI x68.Ck.CC,jI x68.Ck.Cv,.bool x68.Ck.Cs.null,jS x68.Ck.Cs.data,.bool x68.Ck.Cg.null,jS x68.Ck.Cg.data,.slice A69 x68.Ck.Cn.length c70,jI x68.CH,jI x68.CI]) 1 Z DY Dm Z Z) ⟨_,_,Z,Z,Z⟩ (by rfl) (.inl Z)))))
   ·refine TL.nil (X.seq (Am Z (aD (CO c15)) (T.seq (T.region Z ?_))))
    obtain⟨x72,hx75,h⟩:=CM h
    refine TL.run ag [0] Z Z (AP Z .u (.fn Tryz.call171 Z) (bz x13 _ hx75) (fun _ hs=>(RX.reads_triv _ _)) Z ?_)
    rintro _ _ _ ⟨A73,c74,rfl,rfl,rfl⟩
    refine AC [0,0,0] Z (BL (cs':= #[jI x72.Ck.CC,jI x72.Ck.Cv,.bool x72.Ck.Cs.null,jS x72.Ck.Cs.data,.bool x72.Ck.Cg.null,jS x72.Ck.Cg.data,.slice A73 x72.Ck.Cn.length c74,jI x72.CH,jI x72.CI]) Z .u Z Z Dm Z Z Z Z ?_)
    obtain rfl:=CP h
    exact TL.nil (X.seq (T.ret (Al (Ak [2,0] D8 (AF (us:= #[jI x72.Ck.CC,jI x72.Ck.Cv,.bool x72.Ck.Cs.null,jS x72.Ck.Cs.data,.bool x72.Ck.Cg.null,jS x72.Ck.Cg.data,.slice A73 x72.Ck.Cn.length c74,jI x72.CH,jI x72.CI]) 1 Z DY Dm Z Z) ⟨_,_,Z,Z,Z⟩ (by rfl) (.inl Z)))))
  ·refine TL.nil (X.seq (Am Z (aD (CO c9)) ?_))
   obtain⟨x76,hx79,h⟩:=CM h
   refine T.seq (T.region Z (AP Z .u (.fn Tryz.call171 Z) (bz 8 _ hx79) (fun _ hs=>(RX.reads_triv _ _)) Z ?_))
   rintro _ _ _ ⟨A77,c78,rfl,rfl,rfl⟩
   refine AC [0,0,0] Z (BL (cs':= #[jI x76.Ck.CC,jI x76.Ck.Cv,.bool x76.Ck.Cs.null,jS x76.Ck.Cs.data,.bool x76.Ck.Cg.null,jS x76.Ck.Cg.data,.slice A77 x76.Ck.Cn.length c78,jI x76.CH,jI x76.CI]) Z .u Z Z Dm Z Z Z Z ?_)
   obtain rfl:=CP h
   exact TL.nil (X.seq (T.ret (Al (Ak [2,0] D8 (AF (us:= #[jI x76.Ck.CC,jI x76.Ck.Cv,.bool x76.Ck.Cs.null,jS x76.Ck.Cs.data,.bool x76.Ck.Cg.null,jS x76.Ck.Cg.data,.slice A77 x76.Ck.Cn.length c78,jI x76.CH,jI x76.CI]) 1 Z DY Dm Z Z) ⟨_,_,Z,Z,Z⟩ (by rfl) (.inl Z)))))
def gK (a0:List UInt8):Option (jB):=(fW a0).bind fun x2=>if x2.err=0 then (if x2.blob.null=true then ((cj 4).bind fun x7=>some x7) else ((g9 x2.blob.data).bind fun x11=>some (⟨x11.Ck,x2.many,x11.CI⟩:jB))) else ((cj x2.err).bind fun x16=>some x16)
theorem pg (a0:List UInt8) (r:jB) (h:gK a0=some r):ay Tryz.prog 152 #[jS a0] .triv (aB) (fun v A' N=> ∃ (A20:Option Addr) (c21:Nat),v= .agg #[jI r.Ck.CC,jI r.Ck.Cv,.bool r.Ck.Cs.null,jS r.Ck.Cs.data,.bool r.Ck.Cg.null,jS r.Ck.Cg.data,.slice A20 r.Ck.Cn.length c21,jI r.CH,jI r.CI]∧A'=aB∧N = [RdR (av 3 bf) [.slice A20 r.Ck.Cn.length c21] r.Ck.Cn]):=by
 refine aL Tryz.func152 Z Tryz.ntmps152 Z ?_
 intro F w hX
 unfold gK at h
 refine T.seq (T.region Z (TL.alloc Z .u Tryz.zeroValue220 Z (fun b1=>(TL.nil (X.seq (T.seq (T.region Z ?_)))))))
 obtain⟨x2,hx3,h⟩:=CM h
 refine TL.run ag [0] Z Z (Ax Z .u (.fn Tryz.call170 Z) (fb a0 _ hx3) (fun _ hs=>(RX.reads_triv _ _)) Z (TL.alloc Z .u Tryz.zeroValue119 Z (fun b4=>(Ay (cs':= #[.bool x2.blob.null,jS x2.blob.data,jI x2.many,jI x2.err]) Z .u Z Z Ep Z Z Z Z (TL.nil (X.seq (T.seq (T.seq (T.region Z (TL.run ag [0] Z Z (TL.q Z .u (Ai 0 Z CV Z Z) Z (TL.run ag [2] Z Z ?_))))))))))))
 rcases jF h with⟨c5,h⟩ | ⟨c5,h⟩
 ·refine TL.nil (X.seq (Ap Z (az (CN c5)) (T.skip (X.seq (T.seq (T.seq (T.region Z (TL.run ag [0,1] Z Z (TL.q Z .u (Ai 0 Z Dd Z Z) Z ?_)))))))))
  rcases jF h with⟨c6,h⟩ | ⟨c6,h⟩
  ·refine TL.nil (X.seq (Am Z c6 ?_))
   obtain⟨x7,hx10,h⟩:=CM h
   refine T.seq (T.region Z (AP Z .u (.fn Tryz.call171 Z) (bz 4 _ hx10) (fun _ hs=>(RX.reads_triv _ _)) Z ?_))
   rintro _ _ _ ⟨A8,c9,rfl,rfl,rfl⟩
   refine AC [0,0,0,0] Z (Bq (cs':= #[jI x7.Ck.CC,jI x7.Ck.Cv,.bool x7.Ck.Cs.null,jS x7.Ck.Cs.data,.bool x7.Ck.Cg.null,jS x7.Ck.Cg.data,.slice A8 x7.Ck.Cn.length c9,jI x7.CH,jI x7.CI]) Z .u Z Z Dm Z Z Z Z ?_)
   obtain rfl:=CP h
   exact TL.nil (X.seq (T.ret (Al (Ak [3,0] Tryz.results152 (AF (us:= #[jI x7.Ck.CC,jI x7.Ck.Cv,.bool x7.Ck.Cs.null,jS x7.Ck.Cs.data,.bool x7.Ck.Cg.null,jS x7.Ck.Cg.data,.slice A8 x7.Ck.Cn.length c9,jI x7.CH,jI x7.CI]) 2 Z DY Dm Z Z) ⟨_,_,Z,Z,Z⟩ (by rfl) (.inl Z)))))
  ·replace c6:=CX c6
   refine TL.nil (X.seq (Ap Z c6 (T.skip (X.seq (T.seq (T.region Z (TL.run ag [0,1] Z Z (TL.q Z .u (Ai 0 Z Dp Z Z) Z ?_))))))))
   obtain⟨x11,hx14,h⟩:=CM h
   refine AP Z .u (.fn Tryz.call172 Z) (nW x2.blob.data _ hx14) (fun _ hs=>(RX.reads_triv _ _)) Z ?_
   rintro _ _ _ ⟨A12,c13,rfl,rfl,rfl⟩
   refine AC [0,0,0,0] Z (TL.alloc Z .u Tryz.zeroValue220 Z (fun b15=>(Ay (cs':= #[jI x11.Ck.CC,jI x11.Ck.Cv,.bool x11.Ck.Cs.null,jS x11.Ck.Cs.data,.bool x11.Ck.Cg.null,jS x11.Ck.Cg.data,.slice A12 x11.Ck.Cn.length c13,jI x11.CH,jI x11.CI]) Z .u Z Z Dm Z Z Z Z (TL.nil (X.seq (T.seq (T.region Z (TL.run ag [0] Z Z (TL.q Z .u (Ai 2 Z CV Z Z) Z (TL.run ag [2] Z Z (Ay (cs':= #[jI x11.Ck.CC,jI x11.Ck.Cv,.bool x11.Ck.Cs.null,jS x11.Ck.Cs.data,.bool x11.Ck.Cg.null,jS x11.Ck.Cg.data,.slice A12 x11.Ck.Cn.length c13,jI x2.many,jI x11.CI]) Z .u Z Z CY Z Z Z Z ?_)))))))))))
   refine TL.nil (X.seq (T.seq (T.region Z (TL.q Z .u (Av (us := [jI x11.Ck.CC,jI x11.Ck.Cv,.bool x11.Ck.Cs.null,jS x11.Ck.Cs.data,.bool x11.Ck.Cg.null,jS x11.Ck.Cg.data,.slice A12 x11.Ck.Cn.length c13,jI x2.many,jI x11.CI]) 0 Z DY Dm Z Z Z) Z (A5 (cs':= #[jI x11.Ck.CC,jI x11.Ck.Cv,.bool x11.Ck.Cs.null,jS x11.Ck.Cs.data,.bool x11.Ck.Cg.null,jS x11.Ck.Cg.data,.slice A12 x11.Ck.Cn.length c13,jI x2.many,jI x11.CI]) Z .u Z Z Dm Z Z Z Z ?_)))))
   obtain rfl:=CP h
   exact TL.nil (X.seq (T.ret (Ak [4,1] Tryz.results152 (AF (us:= #[jI x11.Ck.CC,jI x11.Ck.Cv,.bool x11.Ck.Cs.null,jS x11.Ck.Cs.data,.bool x11.Ck.Cg.null,jS x11.Ck.Cg.data,.slice A12 x11.Ck.Cn.length c13,jI x2.many,jI x11.CI]) 3 Z DY Dm Z Z) ⟨_,_,Z,Z,Z⟩ (by rfl) (.inl Z))))
 ·refine TL.nil (X.seq (Am Z (aD (CO c5)) (T.seq (T.region Z (TL.run ag [0] Z Z (TL.q Z .u (Ai 0 Z CV Z Z) Z ?_))))))
  obtain⟨x16,hx19,h⟩:=CM h
  refine AP Z .u (.fn Tryz.call171 Z) (bz x2.err _ hx19) (fun _ hs=>(RX.reads_triv _ _)) Z ?_
  rintro _ _ _ ⟨A17,c18,rfl,rfl,rfl⟩
  refine AC [0,0,0,0] Z (Bq (cs':= #[jI x16.Ck.CC,jI x16.Ck.Cv,.bool x16.Ck.Cs.null,jS x16.Ck.Cs.data,.bool x16.Ck.Cg.null,jS x16.Ck.Cg.data,.slice A17 x16.Ck.Cn.length c18,jI x16.CH,jI x16.CI]) Z .u Z Z Dm Z Z Z Z ?_)
  obtain rfl:=CP h
  exact TL.nil (X.seq (T.ret (Al (Ak [3,0] Tryz.results152 (AF (us:= #[jI x16.Ck.CC,jI x16.Ck.Cv,.bool x16.Ck.Cs.null,jS x16.Ck.Cs.data,.bool x16.Ck.Cg.null,jS x16.Ck.Cg.data,.slice A17 x16.Ck.Cn.length c18,jI x16.CH,jI x16.CI]) 2 Z DY Dm Z Z) ⟨_,_,Z,Z,Z⟩ (by rfl) (.inl Z)))))
theorem bl {α:Type} {l:List α} {k:Nat} {x:α} {t:List α} (h:l.drop k=x::t):l[k]? = some x∧l.drop (k+1)=t∧l.length=k+1+t.length:=by
 have hl:=congrArg List.length h
 rw[C0,C5] at hl
 refine⟨?_,?_,by omega⟩
 ·have:=congrArg (fun z=>z[0]?) h
  simpa using this
 ·rw[← Dq,h]
  rfl
theorem bL {α:Type} {l:List α} {k:Nat} (h:l.drop k = []):l.length≤k:=List.drop_eq_nil_iff.1 h
def lC (l:List Hd):Bool:=l.all fun h=>bh h.Cg
def gj (r:Rec):Int:=if r.Cv<0∨r.Cv>2147483647 then 11 else if (bh r.Cs && bh r.Cg && lC r.Cn)=true then 0 else 4
theorem oV (y:Bool): ∀ l:List Bl,cG l y=some (if l.all bh=true then .go y else .ret false)
 | []=>rfl
 | b::l=>by
  rw[cG,rB,CS,List.all_cons,oV y l]
  cases bh b <;> rfl
theorem rG (l:List Bl):dW l=some (l.all bh):=by
 unfold dW
 rw[oV]
 cases l.all bh <;> rfl
theorem oW (y:Int): ∀ l:List Hd,cO l y=some (if lC l=true then .go y else .ret 4)
 | []=>rfl
 | h::l=>by
  rw[cO,rG,CS,oW y l]
  unfold lC
  rw[List.all_cons,List.all_cons,List.all_nil,Bool.and_true]
  cases bh h.Cg <;> rfl
theorem nk (r:Rec) (hw:wI r.Cv):dN r=some (gj r):=by
 unfold dN gj
 by_cases h:r.Cv<0
 ·rw[if_pos h,if_pos (.inl h)]
 rw[if_neg h,iP _ _ hw,ik,CS]
 by_cases h2:r.Cv>2147483647
 ·rw[if_neg (by simp; omega),if_pos (.inr h2)]
 rw[if_pos (by simp; omega),if_neg (by omega),rG,CS,oW]
 simp only[List.all_cons,List.all_nil,Bool.and_true]
 cases bh r.Cs <;> cases bh r.Cg <;> cases lC r.Cn <;> rfl
theorem yj (b:Bl):iI b=some (!bh b):=by
 unfold iI bh
 obtain⟨n,d⟩:=b
 cases n
 ·rfl
 ·cases d <;> simp
theorem tL (a0:List Hd) (hb:a0.length≤1000000) (y:Bool): ∀ (l:List Hd) (k fuel:Nat),a0.drop k=l→l.length<fuel→ ∃ z,cP a0 fuel y k=some (if lC l=true then .go (y,z) else .ret false)
 | [],k,fuel+1,h,hf=>by
  have:=bL h
  exact⟨k,by rw[cP,if_neg (by omega)]; rfl⟩
 | x::l,k,fuel+1,h,hf=>by
  obtain⟨h1,h2,h3⟩:=bl h
  rw[C5] at hf
  obtain⟨z,hz⟩:=tL a0 hb y l (k+1) fuel h2 (by omega)
  rw[cP,if_pos (by omega),h1,CS]
  have e:lC (x::l)=(bh x.Cg && lC l):=rfl
  rw[e]
  by_cases hn:x.Cg.null=true
  ·rw[if_pos hn]
   by_cases hd:x.Cg.data = []
   ·rw[if_pos hd,if_pos (by omega),hz]
    have:bh x.Cg=true:=by unfold bh; rw[hd]; simp
    rw[this,Bool.true_and]
    exact⟨z,rfl⟩
   ·rw[if_neg hd]
    have:bh x.Cg=false:=by unfold bh; rw[hn]; simp[hd]
    rw[this]
    exact⟨0,rfl⟩
  ·rw[if_neg hn,if_pos (by omega),hz]
   have:bh x.Cg=true:=by unfold bh; simp[hn]
   rw[this,Bool.true_and]
   exact⟨z,rfl⟩
theorem xj (a0:List Hd) (hb:a0.length≤1000000):g6 a0=some (lC a0):=by
 unfold g6
 obtain⟨z,hz⟩:=tL a0 hb false a0 0 (((a0.length:Int)).toNat+1) rfl (by omega)
 rw[hz]
 cases lC a0 <;> rfl
theorem xk (r:Rec) (hb:r.Cn.length≤1000000):fY r=some (gj r):=by
 unfold fY gj
 by_cases h:r.Cv<0
 ·rw[if_pos h,if_pos (.inl h)]
 rw[if_neg h]
 by_cases h2:r.Cv>2147483647
 ·rw[if_pos h2,if_pos (.inr h2)]
 rw[if_neg h2,if_neg (by omega),yj,yj,xj _ hb]
 cases bh r.Cs <;> cases bh r.Cg <;> cases lC r.Cn <;> rfl
def cL (n:Int) (i:Nat):Bool:=decide (n / 2 ^ i % 2=1)
theorem sH (n:Int) (m:Nat) (hm:m<9223372036854775808):bits .and .i64 n m=(((n % 18446744073709551616).toNat &&& m:Nat):Int):=by
 have e1:(BitVec.ofInt 64 n).toNat=(n % 18446744073709551616).toNat:=by simp[BitVec.toNat_ofInt]
 have e2:(BitVec.ofInt 64 (m:Int)).toNat=m:=by
  rw[BitVec.ofInt_natCast,BitVec.toNat_ofNat,Nat.mod_eq_of_lt (by omega)]
 show IntKind.i64.wrap (((BitVec.ofInt 64 n) &&& (BitVec.ofInt 64 (m:Int))).toNat:Int)= _
 rw[BitVec.toNat_and,e1,e2]
 have h:(n % 18446744073709551616).toNat &&& m≤m:=Nat.and_le_right
 rw[IntKind.wrap_i64]
 omega
theorem zN (n:Int) (i:Nat) (hi:i<64):(n % 18446744073709551616).toNat.testBit i=cL n i:=by
 have hs:(18446744073709551616:Int)=2 ^ i*2 ^ (64 - i):=by
  rw[← Int.pow_add,show i+(64 - i)=64 by omega]
  rfl
 have h2:(2:Int) ^ (64 - i)=2*2 ^ (63 - i):=by
  rw[show 64 - i=1+(63 - i) by omega,Int.pow_add]
  rfl
 rw[Nat.testBit_eq_decide_div_mod_eq,cL]
 have hp:(0:Int)<2 ^ i:=Int.pow_pos (by decide)
 have h4:n % 18446744073709551616 / 2 ^ i=n / 2 ^ i % 2 ^ (64 - i):=by
  have e:n % 18446744073709551616=n - 2 ^ i*(2 ^ (64 - i)*(n / 18446744073709551616)):=by
   have:=Int.emod_def n 18446744073709551616
   rw[this,hs,Int.mul_assoc]
  rw[e,Int.sub_mul_ediv_left _ _ (by omega),Int.emod_def,Int.ediv_ediv_of_nonneg (Int.le_of_lt hp),← hs]
 have h5:n / 2 ^ i % 2 ^ (64 - i) % 2=n / 2 ^ i % 2:=by
  rw[h2]
  exact Int.emod_emod_of_dvd _ ⟨_,rfl⟩
 have h6:(((n % 18446744073709551616).toNat / 2 ^ i % 2:Nat):Int)=n / 2 ^ i % 2:=by
  have e:((n % 18446744073709551616).toNat:Int)=n % 18446744073709551616:=by omega
  rw[Int.natCast_emod,Int.natCast_ediv,e,Int.natCast_pow]
  show n % 18446744073709551616 / 2 ^ i % 2= _
  rw[h4,h5]
 congr 1
 apply propext
 omega
theorem sI (n:Int) (i:Nat) (hi:i<63):(bits .and .i64 n ((2 ^ i:Nat):Int) != 0)=cL n i:=by
 have hm:2 ^ i<9223372036854775808:=Nat.lt_of_lt_of_eq (Nat.pow_lt_pow_right (by decide) hi) (show 2 ^ 63=9223372036854775808 by decide)
 rw[sH n _ hm,← zN n i (by omega)]
 generalize (n % 18446744073709551616).toNat=a
 cases h:a.testBit i with
 | true =>
  have:(a &&& 2 ^ i)≠0:=by
   intro h0
   have:=congrArg (fun x=>Nat.testBit x i) h0
   simp[h,Nat.testBit_two_pow_self] at this
  simp; omega
 | false =>
  have:(a &&& 2 ^ i)=0:=by
   apply Nat.eq_of_testBit_eq
   intro j
   rw[Nat.testBit_and,Nat.testBit_two_pow]
   by_cases hj:i=j
   ·subst hj; simp[h]
   ·simp[hj]
  simp[this]
theorem xl (n:Int):(bits .and .i64 n 7 != 0)=decide (n % 8≠0):=by
 have h:=sH n 7 (by decide)
 rw[show ((7:Nat):Int)=7 from rfl] at h
 rw[h,Nat.and_two_pow_sub_one_eq_mod _ 3]
 rw[Bool.eq_iff_iff]
 simp
 omega
theorem xm (n:Int) (h8:n % 8=0) (h0: -9223372036854775808≤n) (h1:n≤9223372036854775807):(bits .andNot .i64 n 56 != 0)=decide (n<0∨63<n):=by
 have e1:(BitVec.ofInt 64 n).toNat=(n % 18446744073709551616).toNat:=by simp[BitVec.toNat_ofInt]
 have e2:(~~~ BitVec.ofInt 64 (56:Int)).toNat=18446744073709551559:=by decide
 have e3:bits .andNot .i64 n 56=IntKind.i64.wrap (((BitVec.ofInt 64 n) &&& ~~~ (BitVec.ofInt 64 (56:Int))).toNat:Int):=rfl
 rw[e3,BitVec.toNat_and,e1,e2]
 have ha:(n % 18446744073709551616).toNat % 8=0:=by omega
 have hb:(n % 18446744073709551616).toNat<64 ↔ ¬ (n<0∨63<n):=by omega
 have hc:(n % 18446744073709551616).toNat<18446744073709551616:=by omega
 generalize (n % 18446744073709551616).toNat=a at *
 have hw: ∀ x:Nat,x<18446744073709551616→((IntKind.i64.wrap (x:Int) != 0)=decide (x≠0)):=by
  intro x hx
  rw[IntKind.wrap_i64,Bool.eq_iff_iff]
  simp
  omega
 rw[hw _ (Nat.lt_of_le_of_lt Nat.and_le_left hc)]
 by_cases h:a<64
 ·have:a=0∨a=8∨a=16∨a=24∨a=32∨a=40∨a=48∨a=56:=by omega
  have hz:a &&& 18446744073709551559=0:=by rcases this with rfl | rfl | rfl | rfl | rfl | rfl | rfl | rfl <;> decide
  simp[hz,hb.1 h]
 ·have hz:a &&& 18446744073709551559≠0:=by
   intro h0
   have h2:=congrArg (fun x=>x >>> 6) h0
   simp only[Nat.shiftRight_and_distrib] at h2
   rw[show 18446744073709551559 >>> 6=2 ^ 58 - 1 from rfl,Nat.and_two_pow_sub_one_eq_mod,Nat.shiftRight_eq_div_pow] at h2
   simp at h2
   omega
  have:n<0∨63<n:=by
   rcases Classical.em (n<0∨63<n) with h2 | h2
   ·exact h2
   ·exact absurd (hb.2 h2) h
  simp[hz,this]
theorem and_8 (n:Int):(bits .and .i64 n 8 != 0)=cL n 3:=sI n 3 (by decide)
theorem yk (n:Int):(bits .and .i64 n 16 != 0)=cL n 4:=sI n 4 (by decide)
theorem yl (n:Int):(bits .and .i64 n 32 != 0)=cL n 5:=sI n 5 (by decide)
theorem ym {a b:Int} {c:Bool} (h:(a != b)=c):(a == b)= !c:=by rw[← h,bne,Bool.not_not]
theorem xn (n:Int) (w:World) :
 Calls Tryz.prog 144 #[.int .i64 n] w fun e w'=>e= .returned (.tuple #[.bool (cL n 3),.bool (cL n 4),.bool (cL n 5)])∧w=w':=by
 have H1:=Lib.hid (and_8 n)
 have H2:=Lib.hid (yk n)
 have H3:=Lib.hid (yl n)
 go_enter Tryz.func144,Tryz.ntmps144
 go_wp2
 go_ret3
 exact⟨congrArg Ending.returned (show (Value.tuple #[.bool (bits .and .i64 n 8 != 0),.bool (bits .and .i64 n 16 != 0),.bool (bits .and .i64 n 32 != 0)])= _ by rw[H1.out,H2.out,H3.out]),rfl⟩
def bX (n:Int):Int:=if n % 8≠0 then 9 else if n<0∨63<n∨(cL n 5=true∧cL n 4=false) then 8 else 0
theorem vc (n:Int) (h0: -9223372036854775808≤n) (h1:n≤9223372036854775807) (w:World) :
 Calls Tryz.prog 143 #[.int .i64 n] w fun e w'=>e= .returned (.int .i64 (bX n))∧w=w':=by
 have h7:=xl n
 by_cases h8:n % 8=0
 ·have ha:=xm n h8 h0 h1
  have h32:=yl n
  have h16:=ym (yk n)
  have H8:=Lib.hid h8
  simp only[h8] at h7
  by_cases hr:n<0∨63<n
  ·have HA:=Lib.hid (show bX n=8 by simp only[bX,h8]; rcases hr with h | h <;> simp[h])
   simp only[hr] at ha
   clear hr h8 h32 h16
   go_enter Fh,Fa
   go_wp2
   go_ret
   exact⟨fu (by rw[HA.out]),rfl⟩
  ·simp only[hr] at ha
   have HR:=Lib.hid hr
   clear hr h8
   cases b5:cL n 5 with
   | true =>
    cases b4:cL n 4 with
    | true =>
     have HA:=Lib.hid (show bX n=0 by have:=HR.out; simp[bX,H8.out,b5,b4]; omega)
     rw[b5] at h32
     rw[b4] at h16
     clear b5 b4
     go_enter Fh,Fa
     go_wp2
     go_ret
     exact⟨fu (by rw[HA.out]),rfl⟩
    | false =>
     have HA:=Lib.hid (show bX n=8 by simp[bX,H8.out,b5,b4])
     rw[b5] at h32
     rw[b4] at h16
     clear b5 b4
     go_enter Fh,Fa
     go_wp2
     go_ret
     exact⟨fu (by rw[HA.out]),rfl⟩
   | false =>
    have HA:=Lib.hid (show bX n=0 by have:=HR.out; simp[bX,H8.out,b5]; omega)
    rw[b5] at h32
    clear b5 h16
    go_enter Fh,Fa
    go_wp2
    go_ret
    exact⟨fu (by rw[HA.out]),rfl⟩
 ·have HA:=Lib.hid (show bX n=9 by simp[bX,h8])
  simp only[ne_eq,h8] at h7
  clear h8
  go_enter Fh,Fa
  go_wp2
  go_ret
  exact⟨fu (by rw[HA.out]),rfl⟩
def fR (a t c:Bool):Int:=(if a then 8 else 0)+(if t then 16 else 0)+(if c then 32 else 0)
theorem tM {w W:World} (h:Below w.heap.size w W) (o:Obj):Below w.heap.size w (W.alloc o):=h.alloc h.size o
theorem Of_any (i0 i1 i5 i6 i7 i8 i9 i10:Int) (a t c:Bool) (A:Option Addr) (n k:Nat) (w:World) :
 Calls Tryz.prog 97 #[.agg #[.int .i64 i0,.int .i64 i1,.bool a,.bool t,.bool c,.int .i64 i5,.int .i64 i6,.int .i64 i7,.int .i64 i8,.int .i64 i9,.int .i64 i10,.slice A n k]] w fun e w' =>
  e= .returned (.int .i64 (fR a t c))∧Below w.heap.size w w':=by
 have ix: ∀ (x0 x1 x2 x3 x4 x5: Value),(∀ w:World,(Instr.index 198 (.agg #[x0,x1,x2,x3,x4,x5]) (.int .i64 0)).run Tryz.prog w= .ok (.agg #[x0,x1]) w)∧(∀ w:World,(Instr.index 198 (.agg #[x0,x1,x2,x3,x4,x5]) (.int .i64 1)).run Tryz.prog w= .ok (.agg #[x2,x3]) w)∧(∀ w:World,(Instr.index 198 (.agg #[x0,x1,x2,x3,x4,x5]) (.int .i64 2)).run Tryz.prog w= .ok (.agg #[x4,x5]) w):=fun _ _ _ _ _ _=>⟨fun _=>by kernel_rfl,fun _=>by kernel_rfl,fun _=>by kernel_rfl⟩
 cases a <;> cases t <;> cases c <;>
 ·go_enter Tryz.func97,Tryz.ntmps97
  go_wp2_with fail
  refine wp_loop_rounds 4 ?_
  rw[rounds_succ]
  go_wp2_with fail
  rw[rounds_succ]
  go_wp2_with fail
  rw[rounds_succ]
  go_wp2_with fail
  rw[rounds_succ]
  go_wp2_with fail
  go_ret
  exact⟨rfl,by repeat (first | exact Below.refl _ _ | refine tM ?_ _)⟩
theorem zO (i0 i1 i5 i6 i7 i8 i9 i10:Int) (a t c:Bool) (A:Option Addr) (n k:Nat) :
 e8 Tryz.prog 97 #[.agg #[.int .i64 i0,.int .i64 i1,.bool a,.bool t,.bool c,.int .i64 i5,.int .i64 i6,.int .i64 i7,.int .i64 i8,.int .i64 i9,.int .i64 i10,.slice A n k]] (fun v N=>v= .int .i64 (fR a t c)∧N = []):=by
 intro w
 refine (Of_any i0 i1 i5 i6 i7 i8 i9 i10 a t c A n k w).mono ?_
 rintro e w' ⟨rfl,hb⟩
 exact⟨_,_,rfl,⟨rfl,rfl⟩,BJ hb,trivial⟩
def vd (n:Int):Option (Bool×Bool×Bool):=some (cL n 3,cL n 4,cL n 5)
theorem xo (n:Int):vd n=some (cL n 3,cL n 4,cL n 5):=rfl
theorem tN (n:Int) (r:Bool×Bool×Bool) (h:vd n=some r) (w:World):Calls Tryz.prog 144 #[.int .i64 n] w fun e w'=>e= .returned (.tuple #[.bool r.1,.bool r.2.1,.bool r.2.2])∧w=w':=by
 obtain rfl:=CP h
 exact xn n w
def sJ (n:Int):Option Int:=if -9223372036854775808≤n∧n≤9223372036854775807 then some (bX n) else none
theorem ve (n:Int) (h: -9223372036854775808≤n∧n≤9223372036854775807):sJ n=some (bX n):=if_pos h
theorem sK (n:Int) (r:Int) (h:sJ n=some r) (w:World):Calls Tryz.prog 143 #[.int .i64 n] w fun e w'=>e= .returned (.int .i64 r)∧w=w':=by
 obtain⟨h1,h⟩:=ak h
 obtain rfl:=CP h
 exact vc n h1.1 h1.2 w
def gAOf (b:Bat):Option Int:=some (fR b.Cw b.CE b.Cq)
theorem rH (b:Bat) (A:Option Addr) (c:Nat) (r:Int) (h:gAOf b=some r):ay Tryz.prog 97 #[.agg #[.int .i64 b.Cu,.int .i64 b.Co,.bool b.Cw,.bool b.CE,.bool b.Cq,.int .i64 b.Cr,.int .i64 b.Cl,.int .i64 b.Cy,.int .i64 b.Ci,.int .i64 b.Cp,.int .i64 b.Ch,.slice A b.Ce.length c]]
 (RX.of (av 7 aU) [.slice A b.Ce.length c] b.Ce) aB (fun u A' N=>u= .int .i64 r∧A'=aB∧N = []):=by
 obtain rfl:=CP h
 exact Bc (zO _ _ _ _ _ _ _ _ _ _ _ _ _ _)
end Go.Proofs.YtcoppaggpbfcmaaGreat.Sl
