/- frameEncodes_holds: part 10. -/
import Derived.Test.YtheikonlgjdopaaGreatK9
set_option maxRecDepth 100000
set_option maxHeartbeats 4000000
set_option linter.defProp false
namespace Go.Proofs.YtheikonlgjdopaaGreat.Sl
open Go.RowKit Go.Deep Go.ChangeShapes
set_option linter.unusedVariables false
def ij {α:Type} (E:Rd α) (W:α→Prop):Rd α:=⟨fun w S cs a=>E.P w S cs a∧W a,fun h k=>⟨E.mono h.1 k,h.2⟩,fun h k=>⟨E.move h.1 k,h.2⟩⟩
section
variable {H:Type} (enc:TypeId×Value→H) (P:Program) {α β:Type}
def eP (t:TypeId) (E:Rd α):Prop :=
 ∀ (w:World) (fuel:Nat) (cs:List Value) (x:DataW H×List MemPlace),DataW.trod enc P w 0 (fun _=>true) true fuel t cs=some x→(∀ m,m∈x.1.weights P t→m≤reachBytes)→ ∃ a,E.P w (fun k=>k<w.heap.size) cs a
def tq (off:Nat) (fs:List Field) (n:Nat) (E:Rd α):Prop :=
 ∀ (w:World) (fuel:Nat) (cs:List Value) (xs:List (DataW H×List MemPlace)),cs.length=off+n→xs.length=fs.length →
  (∀ (i:Nat) (f:Field),fs[i]? = some f→DataW.trod enc P w 0 (fun _=>true) true fuel f.type ((cs.drop f.offset).take (P.cellsOf f.type))=xs[i]?) →
  (∀ m,m∈DataW.weightsEach P (fs.map (·.type)) (xs.map (·.1))→m≤reachBytes)→ ∃ a,E.P w (fun k=>k<w.heap.size) (cs.drop off) a
variable {enc P}
theorem dN {t:TypeId} {E:Rd α} {E':Rd β} (f:α→β) (h:eP enc P t E) (hf: ∀ w S cs a,E.P w S cs a→E'.P w S cs (f a)):eP enc P t E':=by
 intro w fuel cs x hx hw
 obtain⟨a,ha⟩:=h w fuel cs x hx hw
 exact⟨f a,hf _ _ _ _ ha⟩
theorem zw {t:TypeId} {E:Rd α} {E':Rd β} (f:α→β) (h:Hg enc P t E) (hf: ∀ w S cs a,E.P w S cs a→E'.P w S cs (f a)):eP enc P t E':=by
 intro w fuel cs x hx hw
 obtain⟨a,ha⟩:=h w fuel cs x hx
 exact⟨f a,hf _ _ _ _ ha⟩
def wI (n:Int):Prop:= -9223372036854775808≤n∧n≤9223372036854775807
def wB (_:Bool):Prop:=True
def wS (l:List UInt8):Prop:=l.length≤140737488351232
def wL (W:α→Prop) (l:List α):Prop:=l.length≤140737488351232∧ ∀ x,x∈l→W x
def wLb (bytes:Nat) (W:α→Prop) (l:List α):Prop:=l.length*bytes≤140737488351232∧ ∀ x,x∈l→W x
theorem eQ {t:TypeId} (ht:P.underlying t=some (.int .i64)):eP enc P t (ij fh wI):=zw id (FR ht) (fun w S cs a h=>⟨h.1,Go.bounds_i64 h.2⟩)
theorem rf {t:TypeId} (ht:P.underlying t=some .bool):eP enc P t (ij boolE wB):=zw id (Db ht) (fun w S cs a h=>⟨h,trivial⟩)
theorem u4 {t:TypeId} (ht:P.underlying t=some .string):eP enc P t (ij tX wS):=by
 intro w fuel cs x h hw
 obtain⟨s,rfl,rfl,hs⟩:=DataW.trod_string ht h
 have:=hw s.data.toList.length (by simp[DataW.weights])
 exact⟨s.data.toList,by cases s; simp[tX,bsOf],this⟩
theorem zx {size:Nat} {E:Rd α} {W:α→Prop} {w:World} {S:Nat→Prop} {cs:List Value} {l:List α} (h:(aq size (ij E W)).P w S cs l):(aq size E).P w S cs l∧ ∀ x,x∈l→W x:=by
 rcases h with⟨h,rfl⟩ | ⟨a,cap,h1,h2,h3,h4,h5⟩
 ·exact⟨.inl ⟨h,rfl⟩,fun x hx=>by simp at hx⟩
 ·refine⟨.inr ⟨a,cap,h1,h2,h3,h4,fun i x hx=> ?_⟩,fun x hx=> ?_⟩
  ·obtain⟨cs,k1,k2,k3⟩:=h5 i x hx
   exact⟨cs,k1,k2,k3.1⟩
  ·obtain⟨i,hi⟩:=List.getElem?_of_mem hx
   obtain⟨cs,k1,k2,k3⟩:=h5 i x hi
   exact k3.2
theorem qI {e:TypeId} {l:List (DataW H)} {d:DataW H} {m:Nat} (hd:d∈l) (hm:m∈d.weights P e):m∈DataW.weightsAll P e l:=by
 induction l with
 | nil=>simp at hd
 | cons x l ih =>
  simp only[DataW.weightsAll,List.mem_append]
  rcases List.mem_cons.1 hd with rfl | h
  ·exact .inl hm
  ·exact .inr (ih h)
theorem nw {t e:TypeId} {E:Rd α} {W:α→Prop} (size bytes:Nat) (ht:P.underlying t=some (.slice e)) (hc:P.cellsOf e=size) (hb:P.bytesOf e=bytes) (hp:0<size) (hpb:0<bytes) (he:eP enc P e (ij E W)):eP enc P t (ij (aq size E) (wL W)):=by
 intro w fuel cs x h hw
 rcases open_slice ht h with⟨rfl,_⟩ | ⟨a,len,cap,m,n,D,Pl,rfl,_,hl,hm,hmm,rfl,hx⟩
 ·exact⟨[],.inl ⟨rfl,rfl⟩,by simp,fun x hx=>by simp at hx⟩
 have hlm:len≤m:=by rw[hmm]; split <;> omega
 have hlen:len≤140737488351232:=by
  have h1:=hw ((((List.range len).map D).length+((List.range (m - len)).map fun j=>D (len+j)).length)*P.bytesOf e) (by simp only[DataW.weights,ht]; exact List.mem_cons_self)
  rw[hb] at h1
  simp only[NN,List.length_range] at h1
  have h2:(len+(m - len))*1≤(len+(m - len))*bytes:=Nat.mul_le_mul_left _ hpb
  have h3:reachBytes=140737488351232:=rfl
  omega
 have hwe: ∀ i,i<len→ ∀ z,z∈(D i).weights P e→z≤reachBytes:=by
  intro i hi z hz
  apply hw
  simp only[DataW.weights,ht]
  exact List.mem_cons_of_mem _ (List.mem_append.2 (.inl (qI (d:=D i) (List.mem_map.2 ⟨i,List.mem_range.2 hi,rfl⟩) hz)))
 rw[hc] at hx
 have each: ∀ i:Fin len,∃ y:α,∃ cs,cs.length=size∧(∀ j,j<size→w.cell? (a.add (i.val*size+j))=cs[j]?)∧(ij E W).P w (fun k=>k<w.heap.size) cs y:=by
  intro i
  obtain⟨cs',h1,h2⟩:=hx i.val (by have:=i.isLt; omega)
  obtain⟨_,h3,h4⟩:=World.cells?_some h1
  obtain⟨y,hy⟩:=he _ _ _ _ h2 (hwe i.val i.isLt)
  refine⟨y,cs',h3,fun j hj=> ?_,hy⟩
  rw[← h4 j hj,add_add]
 obtain⟨f,hf⟩:=Classical.axiomOfChoice each
 have hs:(aq size (ij E W)).P w (fun k=>k<w.heap.size) [.slice (some a) len cap] ((List.finRange len).map f):=by
  refine .inr ⟨a,cap,by simp,by simpa using hl,hm,fun hz=> ?_,?_⟩
  ·simp at hz
   obtain⟨cs',k1,k2,k3⟩:=hf ⟨0,by omega⟩
   have:=k2 0 hp
   rw[List.getElem?_eq_getElem QG] at this
   simp only[World.cell?] at this
   rw[block_add] at this
   rcases Nat.lt_or_ge a.block w.heap.size with h | h
   ·exact h
   ·rw[Array.getElem?_eq_none h] at this
    simp at this
  ·intro i x hx
   rw[List.getElem?_map,Option.map_eq_some_iff] at hx
   obtain⟨j,hj,rfl⟩:=hx
   have e:j.val=i:=by
    obtain⟨h1,h2⟩:=Nw hj
    rw[← h2]
    simp
   rw[← e]
   exact hf j
 obtain⟨k1,k2⟩:=zx hs
 exact⟨_,k1,by simpa using hlen,k2⟩
theorem zy {t e:TypeId} {E:Rd α} {W:α→Prop} (size bytes:Nat) (ht:P.underlying t=some (.slice e)) (hc:P.cellsOf e=size) (hb:P.bytesOf e=bytes) (hp:0<size) (hpb:0<bytes) (he:eP enc P e (ij E W)):eP enc P t (ij (aq size E) (wLb bytes W)):=by
 intro w fuel cs x h hw
 rcases open_slice ht h with⟨rfl,_⟩ | ⟨a,len,cap,m,n,D,Pl,rfl,_,hl,hm,hmm,rfl,hx⟩
 ·exact⟨[],.inl ⟨rfl,rfl⟩,by rw[Ov,Nat.zero_mul]; exact NX _,fun x hx=>by simp at hx⟩
 have hlm:len≤m:=by rw[hmm]; split <;> omega
 have hlen:len*bytes≤140737488351232:=by
  have h1:=hw ((((List.range len).map D).length+((List.range (m - len)).map fun j=>D (len+j)).length)*P.bytesOf e) (by simp only[DataW.weights,ht]; exact List.mem_cons_self)
  rw[hb] at h1
  simp only[NN,List.length_range] at h1
  have h2:len*bytes≤(len+(m - len))*bytes:=Nat.mul_le_mul_right _ QG
  have h3:reachBytes=140737488351232:=rfl
  omega
 have hwe: ∀ i,i<len→ ∀ z,z∈(D i).weights P e→z≤reachBytes:=by
  intro i hi z hz
  apply hw
  simp only[DataW.weights,ht]
  exact List.mem_cons_of_mem _ (List.mem_append.2 (.inl (qI (d:=D i) (List.mem_map.2 ⟨i,List.mem_range.2 hi,rfl⟩) hz)))
 rw[hc] at hx
 have each: ∀ i:Fin len,∃ y:α,∃ cs,cs.length=size∧(∀ j,j<size→w.cell? (a.add (i.val*size+j))=cs[j]?)∧(ij E W).P w (fun k=>k<w.heap.size) cs y:=by
  intro i
  obtain⟨cs',h1,h2⟩:=hx i.val (by have:=i.isLt; omega)
  obtain⟨_,h3,h4⟩:=World.cells?_some h1
  obtain⟨y,hy⟩:=he _ _ _ _ h2 (hwe i.val i.isLt)
  refine⟨y,cs',h3,fun j hj=> ?_,hy⟩
  rw[← h4 j hj,add_add]
 obtain⟨f,hf⟩:=Classical.axiomOfChoice each
 have hs:(aq size (ij E W)).P w (fun k=>k<w.heap.size) [.slice (some a) len cap] ((List.finRange len).map f):=by
  refine .inr ⟨a,cap,by simp,by simpa using hl,hm,fun hz=> ?_,?_⟩
  ·simp at hz
   obtain⟨cs',k1,k2,k3⟩:=hf ⟨0,by omega⟩
   have:=k2 0 hp
   rw[List.getElem?_eq_getElem QG] at this
   simp only[World.cell?] at this
   rw[block_add] at this
   rcases Nat.lt_or_ge a.block w.heap.size with h | h
   ·exact h
   ·rw[Array.getElem?_eq_none h] at this
    simp at this
  ·intro i x hx
   rw[List.getElem?_map,Option.map_eq_some_iff] at hx
   obtain⟨j,hj,rfl⟩:=hx
   have e:j.val=i:=by
    obtain⟨h1,h2⟩:=Nw hj
    rw[← h2]
    simp
   rw[← e]
   exact hf j
 obtain⟨k1,k2⟩:=zx hs
 exact⟨_,k1,by simpa using hlen,k2⟩
theorem dm (off:Nat):tq enc P off [] 0 unitRd:=by
 intro w fuel cs xs hl _ _ _
 exact⟨(),List.drop_of_length_le QG⟩
theorem aN {off n:Nat} (m:Nat) {f:Field} {fs:List Field} {A:Rd α} {B:Rd β} (ho:f.offset=off) (hc:P.cellsOf f.type=m) (hA:eP enc P f.type A) (hB:tq enc P (off+m) fs n B) :
 tq enc P off (f::fs) (m+n) (pairRd A B):=by
 intro w fuel cs xs hl hx h hw
 cases xs with
 | nil=>simp at hx
 | cons x xs =>
  have h0:=h 0 f rfl
  rw[ho,hc] at h0
  simp only[List.map_cons,DataW.weightsEach,List.mem_append] at hw
  obtain⟨a,ha⟩:=hA _ _ _ _ h0 (fun m hm=>hw m (.inl hm))
  obtain⟨b,hb⟩:=hB w fuel cs xs QG (by simpa using hx) (fun i f' hf=>by simpa using h (i+1) f' (by simpa using hf)) (fun m hm=>hw m (.inr hm))
  refine⟨(a,b),(cs.drop off).take m,cs.drop (off+m),?_,ha,hb⟩
  rw[← Ol,List.take_append_drop]
theorem cR {t:TypeId} {fs:Array Field} {n:Nat} {E:Rd α} (ht:P.underlying t=some (.struct fs)) (hc:P.cellsOf t=n) (h:tq enc P 0 fs.toList n E):eP enc P t E:=by
 intro w fuel cs x hx hw
 obtain⟨xs,k,rfl,rfl,hl,hxl,hf⟩:=DataW.trod_struct ht hx
 simp only[DataW.weights,ht] at hw
 obtain⟨a,ha⟩:=h w k cs xs QG (by simpa using hxl) (fun i f hi=>hf i f (by simpa using hi)) hw
 exact⟨a,by simpa using ha⟩
theorem weights_in: ∀ {ts:List TypeId} {ds:List (DataW H)} (j:Nat) {t:TypeId} {d:DataW H} {m:Nat},ts[j]? = some t→ds[j]? = some d→m∈d.weights P t→m∈DataW.weightsEach P ts ds
 | [],_,j,_,_,_,ht,_,_=>by simp at ht
 | _ :: _,[],j,_,_,_,_,hd,_=>by simp at hd
 | t::ts,d::ds,0,_,_,_,ht,hd,hm=>by
  obtain rfl:t= _:=by simpa using ht
  obtain rfl:d= _:=by simpa using hd
  simp only[DataW.weightsEach,List.mem_append]
  exact .inl hm
 | t::ts,d::ds,j+1,_,_,_,ht,hd,hm=>by
  simp only[DataW.weightsEach,List.mem_append]
  exact .inr (weights_in j (by simpa using ht) (by simpa using hd) hm)
theorem gG {size:Nat} {E:Rd α} {w:World} {S:Nat→Prop} {cs:List Value} {l:List α} (h:(aq size E).P w S cs l): ∃ A c,cs = [.slice A l.length c]:=by
 rcases h with⟨h,rfl⟩ | ⟨a,cap,h,_⟩
 ·exact⟨none,0,h⟩
 ·exact⟨_,_,h⟩
theorem opens_arg2 {t:TypeId} {fs:Array Field} {E:Rd α} {r:Reach} {b0:Nat} {w:World} {v:Value} {d:DataW H} {p:List MemPlace} (ht:P.underlying t=some (.struct fs)) (hval:Value.okWide P w r b0 t v) (h:eP enc P t E)
 (hv:DataW.Trod enc P w 0 (fun _=>true) true t v d p) (hw: ∀ m,m∈d.weights P t→m≤reachBytes): ∃ a cs,v= .agg cs∧E.P w (fun k=>k<w.heap.size) cs.toList a:=by
 obtain⟨cs,rfl,_⟩:=Go.WideShapes.okWide_struct ht hval
 obtain⟨fuel,hf⟩:=hv
 obtain⟨a,ha⟩:=h _ _ _ _ hf hw
 exact⟨a,cs,rfl,ha⟩
theorem RX.reads_all {E:Rd α} {w:World} {cs:List Value} {a:α} (h:E.P w (fun k=>k<w.heap.size) cs a):(RX.of E cs a).reads w (fun _=>False):=⟨_,h,fun k hk=>⟨fun h=>h,hk⟩⟩
end
open Go.RowKit
def xw (x:Bl):Prop:=wB x.null∧wS x.data
def Ii (x:Hd):Prop:=wS x.M4∧xw x.MV
def xx (x:Rec):Prop:=wI x.Nb∧wI x.M1∧xw x.M4∧xw x.MV∧(wL Ii) x.MU
def EO (x:fx):Prop:=wI x.MS∧wI x.MR∧wI x.MY∧xw x.MQ
def kV (x:Top):Prop:=wS x.MO∧(wL wI) x.MH
def wf_Val (x:Val):Prop:=wI x.MG∧wI x.MJ∧wI x.ML∧wI x.Nl∧(wL kV) x.MF∧wI x.Nn∧wI x.Nm
def ol (x:Bat):Prop:=wI x.Na∧wI x.M3∧wB x.Nh∧wB x.Nd∧wB x.Nc∧wI x.M7∧wI x.MW∧wI x.Ng∧wI x.MG∧wI x.MJ∧wI x.MX∧(wL xx) x.MK
def zz (x:bR):Prop:=wS x.MM∧wI x.MG∧wI x.MJ∧wB x.MZ
def ob (x:aQ):Prop:=wI x.MG∧wI x.MJ∧wB x.MZ∧(wL kV) x.MF∧wI x.MT
def qJ (x:bb):Prop:=xw x.MM∧wI x.ML∧wI x.MG∧wI x.MJ
def nz (x:aV):Prop:=wI x.M2∧(wL ol) x.MP
def mp (x:aI):Prop:=wS x.MO∧(wLb 32 nz) x.MH
def gH (x:aA):Prop:=xw x.MM∧wI x.M5∧wI x.ML∧(wLb 40 mp) x.MF
def zC (x:bT):Prop:=wS x.MM∧wI x.MG∧wI x.MJ∧(wL kV) x.MF
def j3 (x:aE):Prop:=EO x.MI∧qJ x.M6∧zC x.M9∧zz x.M8∧(wL ob) x.M0∧gH x.MN
set_option linter.unusedSimpArgs false
theorem J6 (k v:Int):ji k v=some (gO k v):=by
 unfold ji gO hC
 by_cases h0:k=0
 ·subst h0
  by_cases h3:v=3
  ·simp[h3]
  ·by_cases h4:v=4
   ·simp[h4]
   ·simp[h3,h4]
    omega
 rw[QL h0,QL h0]
 by_cases h1:k=22
 ·subst h1
  by_cases h3:v=0
  ·simp[h3]
  ·by_cases h4:v=1
   ·simp[h4]
   ·simp[h3,h4]
    omega
 rw[QL h1,QL h1]
 by_cases h2:k=27
 ·subst h2
  by_cases h3:v=0
  ·simp[h3]
  ·by_cases h4:v=1
   ·simp[h4]
   ·simp[h3,h4]
    omega
 rw[QL h2]
 by_cases h5:k=24
 ·subst h5
  by_cases h3:v=0
  ·simp[h3]
  ·simp[h3]
   omega
 rw[QL h5,QL h5]
 by_cases h6:k=26
 ·subst h6
  by_cases h3:v=0
  ·simp[h3]
  ·simp[h3]
   omega
 rw[QL h6,QL h6,QL h2]
 simp
theorem qK {k v:Int} (h:gO k v=0):bm k 2=true∧bm v 2=true:=by
 unfold gO hC at h
 have e:(2:Int) ^ (8*(2:Int).toNat - 1)=32768:=by decide
 have hv: ∀ n:Int,-100≤n→n≤100→bm n 2=true:=fun n h1 h2=>by
  unfold bm
  simp only[Bool.and_eq_true,decide_eq_true_eq]
  omega
 by_cases h0:k=0
 ·simp[h0] at h
  exact⟨hv _ QG QG,hv _ QG QG⟩
 by_cases h1:k=22
 ·simp[h1] at h
  exact⟨hv _ QG QG,hv _ QG QG⟩
 by_cases h2:k=24
 ·simp[h2] at h
  exact⟨hv _ QG QG,hv _ QG QG⟩
 by_cases h3:k=26
 ·simp[h3] at h
  exact⟨hv _ QG QG,hv _ QG QG⟩
 by_cases h4:k=27
 ·simp[h4] at h
  exact⟨hv _ QG QG,hv _ QG QG⟩
 simp[h0,h1,h2,h3,h4] at h
def nA (h:fx):List UInt8:=be h.MS 2++(be h.MR 2++(be h.MY 4++(be (co h.MQ) 2++h.MQ.data)))
def okH (h:fx):Prop:=gO h.MS h.MR=0∧bm h.MY 4=true∧bm (co h.MQ) 2=true∧bw h.MQ=true
def Cd:Pr fx:=(fC 2).bind fun k=>(fC 2).bind fun v=>if gO k v=0 then (fC 4).bind fun n=>(og 2).bind fun c=> .ret ⟨k,v,n,c⟩ else .err (gO k v)
theorem J7:Sp Cd nA okH:=by
 refine⟨fun s q a r hq h=> ?_,fun s t q a hq ha h=> ?_⟩
 ·obtain⟨k,q1,h1,h⟩:=Pr.bind_ok h
  obtain⟨v,q2,h2,h⟩:=Pr.bind_ok h
  split at h
  ·rename_i hv
   obtain⟨n,q3,h3,h⟩:=Pr.bind_ok h
   obtain⟨c,q4,h4,h⟩:=Pr.bind_ok h
   injection h with h
   obtain⟨rfl,rfl⟩:=N2 h
   obtain⟨a1,a2,a3,a4,a5⟩:=(eA 2 QH QH).spell _ _ _ _ hq h1
   obtain⟨b1,b2,b3,b4,b5⟩:=(eA 2 QH QH).spell _ _ _ _ a2 h2
   obtain⟨c1,c2,c3,c4,c5⟩:=(eA 4 QH QH).spell _ _ _ _ b2 h3
   obtain⟨d1,d2,d3,d4,d5⟩:=(iK 2 QH QH).spell _ _ _ _ c2 h4
   refine⟨by omega,d2,?_,?_,hv,c5,d5.1,d5.2⟩
   ·simp only[nA,Nv] at *
    omega
   ·rw[d4,c4,b4,a4]
    simp only[nA,NA]
  ·exact nomatch h
 ·obtain⟨a1,a2,a3,a4⟩:=ha
  obtain⟨f1,f2⟩:=qK a1
  have hl:=congrArg List.length h
  simp only[nA,NI,Nv,av] at hl
  simp only[nA,NA] at h
  have g1:=(eA 2 QH QH).back _ _ _ _ hq f1 h
  have h:=cz h
  have g2:=(eA 2 QH QH).back _ _ _ _ (by rw[av]; omega) f2 h
  have h:=cz h
  have g3:=(eA 4 QH QH).back _ _ _ _ (by simp only[av]; omega) a2 h
  have h:=cz h
  rw[← NA] at h
  have g4:=(iK 2 QH QH).back _ _ _ _ (by simp only[av]; omega) ⟨a3,a4⟩ h
  rw[Cd,Pr.bind_of g1,Pr.bind_of g2,QK a1,Pr.bind_of g3,Pr.bind_of g4]
  simp only[Pr.ret,nA,Nv,Nat.add_assoc]
def zHead:fx:=⟨0,0,0,⟨false,[]⟩⟩
theorem Q_head:CQ hM Cd zHead:=by
 refine⟨fun st h=> ?_,fun s q hq=> ?_⟩
 ·unfold hM
  simp only[lz h,mb h,bz,Nr,QL h]
  rfl
 ·unfold hM Cd
  rcases Q2.run s q hq with⟨e,st,p1,g1,x1,y1⟩ | ⟨k,q1,p1,g1,n1,l1⟩
  ·refine .inl ⟨e,st,Pr.bind_err p1,?_,x1,y1⟩
   simp only[g1,lz y1,mb y1,bz,Nr,QL y1]
   rfl
  simp only[g1,Nr,Pr.bind_of p1]
  rcases Q2.run s q1 l1 with⟨e,st,p2,g2,x2,y2⟩ | ⟨v,q2,p2,g2,n2,l2⟩
  ·refine .inl ⟨e,st,Pr.bind_err p2,?_,x2,y2⟩
   simp only[g2,lz y2,mb y2,bz,Nr,QL y2]
   rfl
  simp only[g2,Nr,Pr.bind_of p2,bz,xp,if_true]
  by_cases hv:gO k v=0
  ·simp only[QK hv]
   rcases Q4.run s q2 l2 with⟨e,st,p3,g3,x3,y3⟩ | ⟨n,q3,p3,g3,n3,l3⟩
   ·refine .inl ⟨e,st,Pr.bind_err p3,?_,x3,y3⟩
    simp only[g3,lz y3,mb y3,bz,Nr,QL y3]
    rfl
   simp only[g3,Nr,Pr.bind_of p3]
   rcases QF2.run s q3 l3 with⟨e,st,p4,g4,x4,y4⟩ | ⟨c,q4,p4,g4,n4,l4⟩
   ·refine .inl ⟨e,st,Pr.bind_err p4,?_,x4,y4⟩
    simp only[g4,lz y4,mb y4,bz,Nr,QL y4]
    rfl
   refine .inr ⟨⟨k,v,n,c⟩,q4,by rw[Pr.bind_of p4]; rfl,?_,by omega,l4⟩
   simp only[g4,Nr,if_true]
  ·simp only[QL hv]
   have y:(⟨s.drop q2,q2,gO k v⟩:I).err≠0:=hv
   refine .inl ⟨gO k v,⟨s.drop q2,q2,gO k v⟩,rfl,?_,rfl,hv⟩
   simp only[dz,tp,Nr,lz y,mb y,bz,QL hv]
   rfl
theorem Gt (h:iV) (hk: -9223372036854775808≤h.MS∧h.MS≤9223372036854775807) (hv: -9223372036854775808≤h.MR∧h.MR≤9223372036854775807) (hn: -9223372036854775808≤h.MY∧h.MY≤9223372036854775807) (hc:h.MQ.data.length≤140737488355328):lY h=some (nA ⟨h.MS,h.MR,h.MY,h.MQ⟩):=by
 unfold lY
 rw[bO _ _ ⟨hk,by decide,by decide⟩,bO _ _ ⟨hv,by decide,by decide⟩]
 simp only[Nr]
 rw[QK (by simp only[av]; omega),bO _ _ ⟨hn,by decide,by decide⟩]
 simp only[Nr]
 rw[QK (by simp only[av,Nv]; omega),kh _ _ ⟨by decide,by decide,hc⟩]
 simp only[Nr]
 rw[QK (by simp only[av,Nv]; omega)]
 simp only[nA,NA]
 rfl
def mK (h:fx):Int:=if gO h.MS h.MR=0 then (if bm h.MY 4=true then (if bw h.MQ=true then (if (h.MQ.data.length:Int)>32767 then 4 else 0) else 4) else 11) else gO h.MS h.MR
theorem Ij (h:fx) (hn:wI h.MY):iI h=some (mK h):=by
 unfold iI mK
 rw[xp,Nr]
 by_cases h1:gO h.MS h.MR=0
 ·rw[QK h1,QK h1,gi _ _ hn,Nr]
  by_cases h2:bm h.MY 4=true
  ·rw[QK h2,QK h2,qZ,Nr]
   by_cases h3:bw h.MQ=true
   ·rw[QK h3,QK h3]
    split <;> rfl
   ·rw[QL h3,QL h3]
  ·rw[QL h2,QL h2]
 ·rw[QL h1,QL h1]
theorem Gu (h:iV):lX h=some (mK ⟨h.MS,h.MR,h.MY,h.MQ⟩):=by
 unfold lX mK
 rw[J6,Nr]
 simp only[eL,decide_eq_true_eq]
 by_cases h1:gO h.MS h.MR=0
 ·rw[QK h1,QK h1]
  by_cases h2: -2147483648≤h.MY∧h.MY≤2147483647
  ·rw[QK h2,QL QG,QL QG]
   obtain⟨k,v,n,nu,d⟩:=h
   simp only
   unfold bw
   cases nu
   ·simp
    split <;> rfl
   ·by_cases hd:d = []
    ·subst hd
     simp
    ·simp[hd]
  ·rw[QL h2]
   by_cases h3:h.MY < -2147483648
   ·rw[QK h3]
   ·rw[QL h3,QK QG]
 ·rw[QL h1,QL h1]
theorem DW {h:fx} (hc:mK h=0):okH h:=by
 unfold mK at hc
 split at hc
 ·rename_i h1
  split at hc
  ·rename_i h2
   split at hc
   ·rename_i h3
    split at hc
    ·exact absurd hc QH
    ·exact⟨h1,h2,fY (.inl rfl) (by unfold co; split <;> omega) (by unfold co; split <;> omega),h3⟩
   ·exact absurd hc QH
  ·exact absurd hc QH
 ·rename_i h1
  exact absurd hc h1
theorem xy (h:fx) (t:List UInt8) (ht:t.length≤140737488000000) (hn:wI h.MY) (hl:h.MQ.data.length≤40000):iJ (t,0) h=some (if mK h=0 then (t++nA h,0) else (t,mK h)):=by
 unfold iJ
 rw[Ij h hn,Nr]
 by_cases hc:mK h=0
 ·rw[QK hc,QK hc]
  obtain⟨o1,o2,o3,o4⟩:=DW hc
  rw[ec (qK o1).1 QG,Nr,ec (qK o1).2 (by simp only[Nv,av]; omega),Nr]
  rw[ec o2 (by simp only[Nv,av]; omega),Nr,kw o3 o4 (by simp only[Nv,av]; omega),Nr]
  simp only[nA,NA]
  rfl
 ·rw[QL hc,QL hc,oF,EN]
  rfl
def tr (each:Nat) (n:Int):Pr Int:=fun s q=>if n<0 then .error 4 else if 0<each∧((s.length - q:Nat):Int) / each<n then .error 1 else .ok (n,q)
def qL (k each:Nat):Pr Int:=(fC k).bind (tr each)
theorem mS {k each:Nat} (h1:1≤k) (h8:k≤8) {s:List UInt8} {q r:Nat} {n:Int} (hq:q≤s.length) (h:qL k each s q= .ok (n,r)):0≤n∧(0<each→n*each≤((s.length - r:Nat):Int))∧r=q+k∧r≤s.length∧s.take r=s.take q++be n k∧bm n k=true:=by
 obtain⟨m,r',h2,h⟩:=Pr.bind_ok h
 obtain⟨a1,a2,a3,a4,a5⟩:=(eA k h1 h8).spell _ _ _ _ hq h2
 unfold tr at h
 split at h
 ·exact nomatch h
 ·rename_i hn
  split at h
  ·exact nomatch h
  ·rename_i he
   injection h with h
   obtain⟨rfl,rfl⟩:=N2 h
   rw[av] at a3
   refine⟨by omega,fun hz=> ?_,a3,a2,a4,a5⟩
   have:m≤((s.length - r':Nat):Int) / each:=by
    rcases Int.lt_or_le (((s.length - r':Nat):Int) / each) m with g | g
    ·exact absurd ⟨hz,g⟩ he
    ·exact g
   exact (Int.le_ediv_iff_mul_le QG).1 this
theorem Gv {k each:Nat} (h1:1≤k) (h8:k≤8) {s t:List UInt8} {q:Nat} {n:Int} (hq:q≤s.length) (hf:bm n k=true) (hn:0≤n) (h:s.drop q=be n k++t) (hl:0<each→n*each≤t.length):qL k each s q= .ok (n,q+k):=by
 have g:=(eA k h1 h8).back s t q n hq hf h
 rw[av] at g
 rw[qL,Pr.bind_of g]
 unfold tr
 have hlen:=congrArg List.length h
 rw[NI,Nv,av] at hlen
 rw[QL QG,QL]
 rintro⟨hz,hc⟩
 have:=(Int.le_ediv_iff_mul_le (show (0:Int)<each by omega)).2 (hl hz)
 rw[show s.length - (q+k)=t.length by omega] at hc
 omega
theorem tt (k each:Nat) (h1:1≤k) (h8:k≤8) (kk ee:Int) (hk:kk=(k:Int)) (he:ee=(each:Int)) (h9:ee≤1000):CQ (fun st=>jO st kk ee) (qL k each) 0:=by
 subst hk
 refine⟨fun st h=> ?_,fun s q hq=> ?_⟩
 ·show jO st k ee= _
  rw[tU _ _ _ ⟨by omega,by omega⟩]
  unfold mh
  rw[oE h]
  simp only
  rw[QK h]
 ·show (∃ e st,qL k each s q= .error e∧jO ⟨s.drop q,q,0⟩ k ee=some (0,st)∧ _∧ _)∨(∃ a r,qL k each s q= .ok (a,r)∧jO ⟨s.drop q,q,0⟩ k ee=some (a,⟨s.drop r,r,0⟩)∧q≤r∧r≤s.length)
  rw[tU _ _ _ ⟨by omega,by omega⟩]
  unfold mh
  rcases (Cc k h1 h8 k rfl).run s q hq with⟨e,st,p1,g1,x1,y1⟩ | ⟨n,r,p1,g1,n1,l1⟩
  ·rw[kA] at g1
   have g1:=Nq g1
   obtain⟨u1,u2⟩:=N2 g1
   rw[u2]
   exact .inl ⟨e,st,Pr.bind_err p1,by rw[QK y1],x1,y1⟩
  ·rw[kA] at g1
   have g1:=Nq g1
   have u3:fp ⟨s.drop q,q,0⟩ k=(n,⟨s.drop r,r,0⟩):=g1
   rw[u3,qL,Pr.bind_of p1]
   simp only
   rw[QL (by simp)]
   unfold tr
   by_cases hn:n<0
   ·rw[QK hn,QK hn]
    exact .inl ⟨4,_,rfl,rfl,rfl,by simp[dx]⟩
   ·rw[QL hn,QL hn,NI,he]
    by_cases hc:0<each∧((s.length - r:Nat):Int) / each<n
    ·rw[QK hc,QK ⟨by omega,hc.2⟩]
     exact .inl ⟨1,_,rfl,rfl,rfl,by simp[dx]⟩
    ·rw[QL hc,QL (fun h=>hc ⟨by omega,h.2⟩)]
     exact .inr ⟨n,r,rfl,rfl,n1,l1⟩
theorem nB {st:I} {k e:Int} (h:st.err≠0) (hk:0≤k∧k≤1000) (he:0≤e∧e≤1000):jO st k e=some (0,st):=by
 rw[tU _ _ _ ⟨by omega,by omega⟩]
 unfold mh
 rw[oE h]
 simp only
 rw[QK h]
def jU {α:Type} (p:Pr α):Nat→Pr (List α)
 | 0=> .ret []
 | n+1=>p.bind fun a=>(jU p n).bind fun l=> .ret (a::l)
def bd {α:Type} (enc:α→List UInt8):List α→List UInt8
 | [] => []
 | a::l=>enc a++bd enc l
theorem xz {α:Type} {p:Pr α} {enc:α→List UInt8} {ok:α→Prop} (hp:Sp p enc ok): ∀ n:Nat,Sp (jU p n) (bd enc) (fun l=>l.length=n∧ ∀ x,x∈l→ok x)
 | 0=>by
  refine⟨fun s q a r hq h=> ?_,fun s t q a hq ha h=> ?_⟩
  ·injection h with h
   obtain⟨rfl,rfl⟩:=N2 h
   exact⟨NW _,hq,rfl,by simp[bd],rfl,fun x h=>nomatch h⟩
  ·obtain rfl:=List.length_eq_zero_iff.1 ha.1
   rfl
 | n+1=>by
  have ih:=xz hp n
  refine⟨fun s q a r hq h=> ?_,fun s t q a hq ha h=> ?_⟩
  ·obtain⟨x,q1,h1,h⟩:=Pr.bind_ok h
   obtain⟨l,q2,h2,h⟩:=Pr.bind_ok h
   injection h with h
   obtain⟨rfl,rfl⟩:=N2 h
   obtain⟨a1,a2,a3,a4,a5⟩:=hp.spell _ _ _ _ hq h1
   obtain⟨b1,b2,b3,b4,b5,b6⟩:=ih.spell _ _ _ _ a2 h2
   refine⟨by omega,b2,by rw[bd,Nv]; omega,by rw[b4,a4,bd,NA],by rw[NB,b5],fun y hy=> ?_⟩
   rcases List.mem_cons.1 hy with rfl | hy
   ·exact a5
   ·exact b6 y hy
  ·obtain⟨ha1,ha2⟩:=ha
   cases a with
   | nil=>exact absurd ha1 (by simp)
   | cons x l =>
    rw[bd,NA] at h
    have hl:=congrArg List.length h
    rw[NI,Nv] at hl
    have g1:=hp.back _ _ _ _ hq (ha2 x (.head _)) h
    have g2:=ih.back _ _ _ _ QG ⟨by simpa using ha1,fun y hy=>ha2 y (.tail _ hy)⟩ (cz h)
    rw[jU,Pr.bind_of g1,Pr.bind_of g2]
    simp only[Pr.ret,bd,Nv,Nat.add_assoc]
theorem oc {α:Type} {enc:α→List UInt8} {ok:α→Prop} {each:Nat} (he: ∀ x,ok x→each≤(enc x).length): ∀ l:List α,(∀ x,x∈l→ok x)→l.length*each≤(bd enc l).length
 | [],h=>by simp
 | x::l,h=>by
  have:=oc he l (fun y hy=>h y (.tail _ hy))
  have:=he x (h x (.head _))
  rw[bd,Nv,NB,Nat.add_mul]
  omega
def mq {α:Type} (k each:Nat) (p:Pr α):Pr (List α):=(qL k each).bind fun n=>jU p n.toNat
theorem xA {α:Type} {p:Pr α} {enc:α→List UInt8} {ok:α→Prop} (k each:Nat) (h1:1≤k) (h8:k≤8) (hp:Sp p enc ok) (he: ∀ x,ok x→each≤(enc x).length):Sp (mq k each p) (fun l=>be (l.length:Int) k++bd enc l) (fun l=>bm (l.length:Int) k=true∧ ∀ x,x∈l→ok x):=by
 refine⟨fun s q a r hq h=> ?_,fun s t q a hq ha h=> ?_⟩
 ·obtain⟨n,q1,g1,h⟩:=Pr.bind_ok h
  obtain⟨a1,a2,a3,a4,a5,a6⟩:=mS h1 h8 hq g1
  obtain⟨b1,b2,b3,b4,b5,b6⟩:=(xz hp n.toNat).spell _ _ _ _ a4 h
  have hn:(a.length:Int)=n:=by omega
  refine⟨by omega,b2,by rw[Nv,av]; omega,by rw[b4,a5,hn,NA],by rw[hn]; exact a6,b6⟩
 ·rw[NA] at h
  have hl:=congrArg List.length h
  rw[NI,Nv,Nv,av] at hl
  have g1:=Gv (each:=each) h1 h8 hq ha.1 QG h (fun _=>by
   have:=oc he a ha.2
   rw[Nv,Int.natCast_add,← Int.natCast_mul]
   omega)
  have h2:=cz h
  rw[av] at h2
  have g2:=(xz hp a.length).back _ _ _ _ QG ⟨rfl,ha.2⟩ h2
  rw[mq,Pr.bind_of g1,Oz,g2,Nv,av]
  simp only[Nat.add_assoc]
structure CB {α:Type} (op:I→Option (α×I)) (p:Pr α) (z:α):Prop where
 dead: ∀ st:I,st.err≠0→op st=some (z,st)
 run: ∀ (s:List UInt8) (q:Nat),s.length≤1000000→q≤s.length→(∃ (e:Int) (st:I),p s q= .error e∧op ⟨s.drop q,q,0⟩=some (z,st)∧st.err=e∧st.err≠0)∨(∃ (a:α) (r:Nat),p s q= .ok (a,r)∧op ⟨s.drop q,q,0⟩=some (a,⟨s.drop r,r,0⟩)∧q≤r∧r≤s.length)
theorem CQ.cb {α:Type} {op:I→Option (α×I)} {p:Pr α} {z:α} (h:CQ op p z):CB op p z:=⟨h.dead,fun s q _ hq=>h.run s q hq⟩
theorem Sp.congr {α:Type} {p:Pr α} {enc enc':α→List UInt8} {ok ok':α→Prop} (h:Sp p enc ok) (hok: ∀ a,ok a↔ok' a) (he: ∀ a,ok a→enc a=enc' a):Sp p enc' ok':=by
 refine⟨fun s q a r hq hp=> ?_,fun s t q a hq ha hd=> ?_⟩
 ·obtain⟨h1,h2,h3,h4,h5⟩:=h.spell s q a r hq hp
  rw[← he a h5]
  exact⟨h1,h2,h3,h4,(hok a).1 h5⟩
 ·have ha':=(hok a).2 ha
  rw[← he a ha'] at hd ⊢
  exact h.back s t q a hq ha' hd
theorem Sp.seq {α β:Type} {p:Pr α} {f:α→Pr β} {π:β→α} {enc1:α→List UInt8} {enc2:β→List UInt8} {ok1:α→Prop} {ok2:β→Prop} (hp:Sp p enc1 ok1) (hf: ∀ a,Sp (f a) enc2 (fun x=>ok2 x∧π x=a)) :
 Sp (p.bind f) (fun x=>enc1 (π x)++enc2 x) (fun x=>ok1 (π x)∧ok2 x):=by
 refine⟨fun s q x r hq h=> ?_,fun s t q x hq hx hd=> ?_⟩
 ·obtain⟨a,m,h1,h2⟩:=Pr.bind_ok h
  obtain⟨a1,a2,a3,a4,a5⟩:=hp.spell s q a m hq h1
  obtain⟨b1,b2,b3,b4,b5,b6⟩:=(hf a).spell s m x r a2 h2
  subst b6
  exact⟨by omega,b2,by rw[Nv]; omega,by rw[b4,a4,NA],a5,b5⟩
 ·rw[NA] at hd
  have h1:=hp.back s _ q (π x) hq hx.1 hd
  have hl:=congrArg List.length hd
  rw[NI,Nv] at hl
  have h2:=(hf (π x)).back s t _ x QG ⟨hx.2,rfl⟩ (cz hd)
  rw[Pr.bind_of h1,h2,Nv,Nat.add_assoc]
theorem xB {β:Type} (x0:β) (c:Prop) [Decidable c] (e:Int):Sp (if c then Pr.ret x0 else Pr.err e) (fun _ => []) (fun x=>c∧x=x0):=by
 refine⟨fun s q x r hq h=> ?_,fun s t q x hq hx hd=> ?_⟩
 ·by_cases hc:c
  ·rw[QK hc] at h
   injection h with h
   obtain⟨rfl,rfl⟩:=N2 h
   exact⟨NW _,hq,rfl,by simp,hc,rfl⟩
  ·rw[QL hc] at h
   exact nomatch h
 ·rw[QK hx.1,hx.2]
  rfl
theorem Ik {β:Type} (x0:β):Sp (Pr.ret x0) (fun _ => []) (fun x=>x=x0):=by
 refine⟨fun s q x r hq h=> ?_,fun s t q x hq hx hd=> ?_⟩
 ·injection h with h
  obtain⟨rfl,rfl⟩:=N2 h
  exact⟨NW _,hq,rfl,by simp,rfl⟩
 ·rw[hx]
  rfl
theorem CB.bind {α β:Type} {op1:I→Option (α×I)} {p:Pr α} {z1:α} {op2:α→I→Option (β×I)} {f:α→Pr β} {z:β} (W:α→Prop) (h:CB op1 p z1)
 (hs: ∀ s q a r,s.length≤1000000→q≤s.length→p s q= .ok (a,r)→W a) (hz:W z1) (hf: ∀ a,W a→CB (op2 a) (f a) z):CB (fun st=>(op1 st).bind fun (a,st1)=>op2 a st1) (p.bind f) z:=by
 refine⟨fun st hd=> ?_,fun s q hl hq=> ?_⟩
 ·show (op1 st).bind _= _
  rw[h.dead st hd,Nr]
  exact (hf z1 hz).dead st hd
 ·rcases h.run s q hl hq with⟨e,st,p1,g1,x1,y1⟩ | ⟨a,r,p1,g1,n1,l1⟩
  ·refine .inl ⟨e,st,Pr.bind_err p1,?_,x1,y1⟩
   show (op1 _).bind _= _
   rw[g1,Nr]
   exact (hf z1 hz).dead st y1
  ·have g2:((op1 ⟨s.drop q,q,0⟩).bind fun (a,st1)=>op2 a st1)=op2 a ⟨s.drop r,r,0⟩:=by rw[g1,Nr]
   show (∃ e st,p.bind f s q= _∧((op1 ⟨s.drop q,q,0⟩).bind fun (a,st1)=>op2 a st1)= _∧ _∧ _)∨(∃ x m,p.bind f s q= _∧((op1 ⟨s.drop q,q,0⟩).bind fun (a,st1)=>op2 a st1)= _∧ _∧ _)
   rw[g2,Pr.bind_of p1]
   rcases (hf a (hs s q a r hl hq p1)).run s r hl l1 with⟨e,st,p2,k2,x2,y2⟩ | ⟨b,m,p2,k2,n2,l2⟩
   ·exact .inl ⟨e,st,p2,k2,x2,y2⟩
   ·exact .inr ⟨b,m,p2,k2,by omega,l2⟩
theorem CB.congr {α:Type} {op op':I→Option (α×I)} {p:Pr α} {z:α} (h:CB op p z) (he: ∀ st,op' st=op st):CB op' p z:=⟨fun st hd=>(he st).trans (h.dead st hd),fun s q hl hq=>by rw[he]; exact h.run s q hl hq⟩
theorem CB.pr {α:Type} {op:I→Option (α×I)} {p p':Pr α} {z:α} (h:CB op p z) (he:p=p'):CB op p' z:=he ▸ h
theorem qM {k:Nat} (h1:1≤k) (h8:k≤8): ∀ (s:List UInt8) (q:Nat) (a:Int) (r:Nat),s.length≤1000000→q≤s.length→fC k s q= .ok (a,r)→ -9223372036854775808≤a∧a≤9223372036854775807 :=
 fun s q a r _ hq h=>dY ((eA k h1 h8).spell s q a r hq h).2.2.2.2
def tu:Pr Bool:=(fC 1).bind fun n=>if n=0 then .ret false else if n=1 then .ret true else .err 11
def gI (b:Bool):List UInt8:=be (if b=true then 1 else 0) 1
theorem EP:Sp tu gI (fun _=>True):=by
 refine⟨fun s q x r hq h=> ?_,fun s t q x hq hx hd=> ?_⟩
 ·obtain⟨n,m,h1,h⟩:=Pr.bind_ok h
  obtain⟨a1,a2,a3,a4,a5⟩:=(eA 1 QH QH).spell s q n m hq h1
  by_cases h0:n=0
  ·rw[QK h0] at h
   injection h with h
   obtain⟨rfl,rfl⟩:=N2 h
   subst h0
   exact⟨a1,a2,a3,a4,trivial⟩
  ·rw[QL h0] at h
   by_cases h1:n=1
   ·rw[QK h1] at h
    injection h with h
    obtain⟨rfl,rfl⟩:=N2 h
    subst h1
    exact⟨a1,a2,a3,a4,trivial⟩
   ·rw[QL h1] at h
    exact nomatch h
 ·cases x with
  | true =>
   have:=(eA 1 QH QH).back s t q 1 hq QH hd
   rw[tu,Pr.bind_of this]
   rfl
  | false =>
   have:=(eA 1 QH QH).back s t q 0 hq QH hd
   rw[tu,Pr.bind_of this]
   rfl
theorem AS {α:Type} {op:I→Option (α×I)} {x0 z:α} {e:Int} (h: ∀ st:I,st.err≠0→op st=some (z,st)) (h0: ∀ st:I,st.err=0→op st=some (if e=0 then (x0,st) else (z,dx st e))):CB op (if e=0 then .ret x0 else .err e) z:=by
 refine⟨h,fun s q hl hq=> ?_⟩
 by_cases he:e=0
 ·rw[QK he,h0 _ rfl,QK he]
  exact .inr ⟨x0,q,rfl,rfl,NW _,hq⟩
 ·rw[QL he,h0 _ rfl,QL he]
  exact .inl ⟨e,_,rfl,rfl,rfl,he⟩
def nC:Pr Top:=xu.bind fun nm=>(mq 4 4 (fC 4)).bind fun ps=> .ret ⟨nm,ps⟩
def kW (t:Top):List UInt8:=(be (t.MO.length:Int) 2++t.MO)++(be (t.MH.length:Int) 4++bd (fun n=>be n 4) t.MH)
def okT (t:Top):Prop:=bm (t.MO.length:Int) 2=true∧bm (t.MH.length:Int) 4=true∧ ∀ n,n∈t.MH→bm n 4=true
theorem Ce:Sp (mq 4 4 (fC 4)) (fun l=>be (l.length:Int) 4++bd (fun n=>be n 4) l) (fun l=>bm (l.length:Int) 4=true∧ ∀ n,n∈l→bm n 4=true):=xA 4 4 QH QH (eA 4 QH QH) (fun x _=>by rw[av]; decide)
theorem Il:Sp nC kW okT:=by
 refine⟨fun s q a r hq h=> ?_,fun s t q a hq ha h=> ?_⟩
 ·obtain⟨k,q1,h1,h⟩:=Pr.bind_ok h
  obtain⟨v,q2,h2,h⟩:=Pr.bind_ok h
  injection h with h
  obtain⟨rfl,rfl⟩:=N2 h
  obtain⟨a1,a2,a3,a4,a5⟩:=pA.spell _ _ _ _ hq h1
  obtain⟨b1,b2,b3,b4,b5⟩:=Ce.spell _ _ _ _ a2 h2
  exact⟨by omega,b2,by simp only[kW,Nv] at *; omega,by rw[b4,a4]; simp only[kW,NA],a5.1,b5⟩
 ·obtain⟨a1,a2,a3⟩:=ha
  have hl:=congrArg List.length h
  rw[kW,NA] at h
  have g1:=pA.back _ _ _ _ hq ⟨a1,rfl⟩ h
  have h:=cz h
  have g2:=Ce.back _ _ _ _ (by simp only[kW,NI,Nv,av] at *; omega) ⟨a2,a3⟩ h
  rw[nC,Pr.bind_of g1,Pr.bind_of g2]
  simp only[Pr.ret,kW,Nv,Nat.add_assoc]
theorem EQ (t:Top) (h:okT t):6≤(kW t).length:=by simp only[kW,Nv,av]; omega
theorem va:Sp (mq 4 6 nC) (fun l=>be (l.length:Int) 4++bd kW l) (fun l=>bm (l.length:Int) 4=true∧ ∀ t,t∈l→okT t):=xA 4 6 QH QH Il EQ
theorem zD (n:Int) (s:List UInt8) (hn:n≤1000000): ∀ (m fuel k:Nat) (acc:List Int) (q:Nat),((k+m:Nat):Int)=n→m<fuel→q+4*m≤s.length→acc.length=k →
 ∃ l,jU (fC 4) m s q= .ok (l,q+4*m)∧cP n fuel k acc ⟨s.drop q,q,0⟩=some (k+m,acc++l,⟨s.drop (q+4*m),q+4*m,0⟩)
 | 0,fuel+1,k,acc,q,h1,h2,h3,h4=>⟨[],rfl,by rw[cP,QL QG,NP]; rfl⟩
 | m+1,fuel+1,k,acc,q,h1,h2,h3,h4=>by
  rw[cP,QK QG]
  rcases Q4.run s q QG with⟨e,st,p1,g1,x1,y1⟩ | ⟨a,r,p1,g1,n1,l1⟩
  ·unfold fC at p1
   rw[QL QG] at p1
   exact nomatch p1
  ·have hr:r=q+4:=by
    unfold fC at p1
    rw[QL QG] at p1
    injection p1 with p1
    exact (N2 p1).2.symm
   subst hr
   rw[g1]
   simp only[Nr]
   rw[QK QG,QK QG]
   obtain⟨l,e1,e2⟩:=zD n s hn m fuel (k+1) (acc ++ [a]) (q+4) QG QG QG (by rw[Nv,h4]; rfl)
   have eq:q+4+4*m=q+4*(m+1):=by omega
   rw[eq] at e1 e2
   refine⟨a::l,?_,?_⟩
   ·rw[jU,Pr.bind_of p1,Pr.bind_of e1]
    rfl
   ·rw[e2,NA]
    rw[show k+1+m=k+(m+1) by omega]
    rfl
theorem zG (n:Int) (s:List UInt8) (hs:s.length≤1000000) (hn:n≤1000000): ∀ (m fuel k:Nat) (acc:List Top) (q:Nat),((k+m:Nat):Int)=n→m<fuel→q≤s.length→acc.length=k →
 (∃ (e:Int) (st:I),jU nC m s q= .error e∧cg n fuel [] acc k ⟨s.drop q,q,0⟩=some (.ret ([],st))∧st.err=e∧st.err≠0) ∨
 (∃ l r,jU nC m s q= .ok (l,r)∧cg n fuel [] acc k ⟨s.drop q,q,0⟩=some (.go ([],acc++l,k+m,⟨s.drop r,r,0⟩))∧q≤r∧r≤s.length)
 | 0,fuel+1,k,acc,q,h1,h2,h3,h4=> .inr ⟨[],q,rfl,by rw[cg,QL QG,NP]; rfl,NW _,h3⟩
 | m+1,fuel+1,k,acc,q,h1,h2,h3,h4=>by
  rw[cg,QK QG]
  have died: ∀ (st:I) (t:List UInt8),st.err≠0→((jO st 4 4).bind fun (x24,st25)=>(cP x24 ((x24).toNat+1) 0 [] st25).bind fun (k57,y58,st61)=>if (acc.length+1)*40≤140737488355328 then ((iQ st61).bind fun (x66,st67)=>if x66=0 then (if -9223372036854775808≤((k:Int)+1)∧((k:Int)+1)≤9223372036854775807 then (cg n fuel [] (acc ++ [(⟨t,y58⟩:Top)]) (k+1) st67) else none) else (some (Lp.ret ([],st67)))) else none)=some (Lp.ret ([],st)):=by
   intro st t h
   rw[nB h QH QH]
   simp only[Nr]
   rw[show (0:Int).toNat+1=1 from rfl,cP,QL QH]
   simp only[Nr,bz]
   rw[QK QG,QL h]
  rcases QT.run s q h3 with⟨e,st,p1,g1,x1,y1⟩ | ⟨nm,q1,p1,g1,n1,l1⟩
  ·left
   refine⟨e,st,by rw[jU,Pr.bind_err (show nC s q= .error e from Pr.bind_err p1)],?_,x1,y1⟩
   rw[g1]
   simp only[Nr]
   exact died st [] y1
  rw[g1]
  simp only[Nr]
  rcases (tt 4 4 QH QH 4 4 rfl rfl QH).run s q1 l1 with⟨e,st,p2,g2,x2,y2⟩ | ⟨c,q2,p2,g2,n2,l2⟩
  ·left
   refine⟨e,st,by rw[jU,Pr.bind_err]; rw[nC,Pr.bind_of p1,Pr.bind_err]; rw[mq,Pr.bind_err p2],?_,x2,y2⟩
   have:=died st nm y2
   rw[nB y2 QH QH] at this
   rw[g2]
   exact this
  obtain⟨c1,c2,c3,c4,c5,c6⟩:=mS QH QH l1 p2
  have c2:=c2 QH
  rw[g2]
  simp only[Nr]
  obtain⟨ps,e1,e2⟩:=zD c s QG c.toNat (c.toNat+1) 0 [] q2 QG QG QG rfl
  rw[e2]
  simp only[Nr,bz,if_true]
  rw[QK QG,QK QG,NM]
  have ht:nC s q= .ok (⟨nm,ps⟩,q2+4*c.toNat):=by
   rw[nC,Pr.bind_of p1,Pr.bind_of (a:=ps) (r:=q2+4*c.toNat) (by rw[mq,Pr.bind_of p2,e1])]
   rfl
  rw[jU,Pr.bind_of ht]
  rcases zG n s hs hn m fuel (k+1) (acc ++ [⟨nm,ps⟩]) (q2+4*c.toNat) QG QG QG (by rw[Nv,h4]; rfl) with⟨e,st,r1,r2,r3,r4⟩ | ⟨l,r,r1,r2,r3,r4⟩
  ·exact .inl ⟨e,st,by rw[Pr.bind_err r1],r2,r3,r4⟩
  ·refine .inr ⟨⟨nm,ps⟩::l,r,by rw[Pr.bind_of r1]; rfl,?_,by omega,r4⟩
   rw[r2,NA,show k+1+m=k+(m+1) by omega]
   rfl
theorem Cf:CB dU (mq 4 6 nC) []:=by
 refine⟨fun st h=> ?_,fun s q hs hq=> ?_⟩
 ·unfold dU
  rw[nB h QH QH]
  simp only[Nr]
  rw[show (0:Int).toNat+1=1 from rfl,cg,QL QH]
  rfl
 ·unfold dU
  rcases (tt 4 6 QH QH 4 6 rfl rfl QH).run s q hq with⟨e,st,p1,g1,x1,y1⟩ | ⟨c,q1,p1,g1,n1,l1⟩
  ·refine .inl ⟨e,st,Pr.bind_err p1,?_,x1,y1⟩
   rw[g1]
   simp only[Nr]
   rw[show (0:Int).toNat+1=1 from rfl,cg,QL QH]
   rfl
  ·obtain⟨c1,c2,c3,c4,c5,c6⟩:=mS QH QH hq p1
   have c2:=c2 QH
   rw[g1,mq,Pr.bind_of p1]
   simp only[Nr]
   rcases zG c s hs QG c.toNat (c.toNat+1) 0 [] q1 QG QG l1 rfl with⟨e,st,r1,r2,r3,r4⟩ | ⟨l,r,r1,r2,r3,r4⟩
   ·exact .inl ⟨e,st,r1,by rw[r2]; rfl,r3,r4⟩
   ·refine .inr ⟨l,r,r1,?_,by omega,r4⟩
    rw[r2,NM]
    rfl
theorem dr {α:Type} {l:List α} {k:Nat} {x:α} {t:List α} (h:l.drop k=x::t):l[k]? = some x∧l.drop (k+1)=t∧l.length=k+1+t.length:=by
 have hl:=congrArg List.length h
 rw[NI,NB] at hl
 refine⟨?_,?_,by omega⟩
 ·have:=congrArg (fun z=>z[0]?) h
  simpa using this
 ·rw[← Ol,h]
  rfl
theorem ff {α:Type} {l:List α} {k:Nat} (h:l.drop k = []):l.length≤k:=List.drop_eq_nil_iff.1 h
def up {α:Type} (lt:α→α→Bool):Option α→List α→Bool
 | _,[]=>true
 | none,x::t=>up lt (some x) t
 | some p,x::t=>lt p x && up lt (some x) t
def ltI (a b:Int):Bool:=decide (a<b)
theorem zH (a0:List Int) (hb:a0.length≤140737488355328): ∀ (t:List Int) (p:Int) (k fuel:Nat) (y:Bool),a0.drop k=p::t→t.length<fuel→ ∃ z,cV a0 fuel y ((k:Int)+1)=some (if up ltI (some p) t=true then .go (y,z) else .ret false)
 | [],p,k,fuel+1,y,h,hf=>by
  obtain⟨h1,h2,h3⟩:=dr h
  refine⟨(k:Int)+1,?_⟩
  rw[cV,QL (by simp only[Ov] at h3; omega)]
  rfl
 | x::t,p,k,fuel+1,y,h,hf=>by
  obtain⟨h1,h2,h3⟩:=dr h
  obtain⟨g1,g2,g3⟩:=dr h2
  rw[NB] at hf h3
  obtain⟨z,hz⟩:=zH a0 hb t x (k+1) fuel y h2 QG
  rw[cV,QK QG,QK QG,QK QG,show ((k:Int)+1 - 1).toNat=k by omega,h1]
  rw[Nr]
  rw[QK QG,show ((k:Int)+1).toNat=k+1 by omega,g1]
  rw[Nr]
  by_cases hc:p<x
  ·rw[QL QG,QK QG]
   refine⟨z,?_⟩
   rw[show ((k:Int)+1+1)=((k+1:Nat):Int)+1 by omega,hz]
   simp only[up,ltI,hc,decide_true,Bool.true_and]
  ·rw[QK QG]
   refine⟨0,?_⟩
   simp only[up,ltI,hc,decide_false,Bool.false_and,Bool.false_eq_true,if_false]
theorem J8 (a0:List Int) (hb:a0.length≤140737488355328):gx a0=some (up ltI none a0):=by
 unfold gx
 cases a0 with
 | nil=>rfl
 | cons x t =>
  obtain⟨z,hz⟩:=zH (x::t) hb t x 0 ((((x::t).length:Int) - 1).toNat+1) false rfl (by simp only[NB]; omega)
  rw[show (((0:Nat):Int)+1)=1 from rfl] at hz
  rw[hz]
  simp only[up]
  cases up ltI (some x) t <;> rfl
theorem zI (a0:List (List UInt8)) (hb:a0.length≤140737488355328): ∀ (t:List (List UInt8)) (p:List UInt8) (k fuel:Nat) (y:Bool),a0.drop k=p::t→t.length<fuel→ ∃ z,cn a0 fuel y ((k:Int)+1)=some (if up Op.bytesLess (some p) t=true then .go (y,z) else .ret false)
 | [],p,k,fuel+1,y,h,hf=>by
  obtain⟨h1,h2,h3⟩:=dr h
  refine⟨(k:Int)+1,?_⟩
  rw[cn,QL (by simp only[Ov] at h3; omega)]
  rfl
 | x::t,p,k,fuel+1,y,h,hf=>by
  obtain⟨h1,h2,h3⟩:=dr h
  obtain⟨g1,g2,g3⟩:=dr h2
  rw[NB] at hf h3
  obtain⟨z,hz⟩:=zI a0 hb t x (k+1) fuel y h2 QG
  rw[cn,QK QG,QK QG,QK QG,show ((k:Int)+1 - 1).toNat=k by omega,h1]
  simp only[Nr]
  rw[QK QG,show ((k:Int)+1).toNat=k+1 by omega,g1]
  simp only[Nr]
  by_cases hc:Op.bytesLess p x=true
  ·rw[QK hc,QK QG]
   refine⟨z,?_⟩
   rw[show ((k:Int)+1+1)=((k+1:Nat):Int)+1 by omega,hz]
   simp only[up,hc,Bool.true_and]
  ·rw[QL hc]
   refine⟨0,?_⟩
   simp only[up,hc,Bool.false_and,Bool.false_eq_true,if_false]
theorem J9 (a0:List (List UInt8)) (hb:a0.length≤140737488355328):fc a0=some (up Op.bytesLess none a0):=by
 unfold fc
 cases a0 with
 | nil=>rfl
 | cons x t =>
  obtain⟨z,hz⟩:=zI (x::t) hb t x 0 ((((x::t).length:Int) - 1).toNat+1) false rfl (by simp only[NB]; omega)
  rw[show (((0:Nat):Int)+1)=1 from rfl] at hz
  rw[hz]
  simp only[up]
  cases up Op.bytesLess (some x) t <;> rfl
def okn (n:Int):Bool:=decide (0≤n) && decide (n≤2147483647)
def xC (l:List Int):Bool:=l.all okn && up ltI none l && !l.isEmpty
def mc (t:Top):Bool:= !t.MO.isEmpty && decide (t.MO.length≤32767) && xC t.MH
def pC (l:List Top):Bool:=l.all mc && up Op.bytesLess none (l.map (·.MO))
theorem xD (y:Bool): ∀ l:List Int,(∀ n,n∈l→wI n)→eM l y=some (if l.all okn=true then .go y else .ret false)
 | [],h=>rfl
 | n::l,h=>by
  have hn:=h n (.head _)
  rw[eM,gi _ _ hn,eL,List.all_cons]
  by_cases h1:n<0
  ·have:okn n=false:=by unfold okn; simp; omega
   rw[QK h1,this]
   rfl
  ·rw[QL h1,Nr]
   by_cases h2:n≤2147483647
   ·have:okn n=true:=by unfold okn; simp; omega
    rw[QK (by simp; omega),xD y l (fun m hm=>h m (.tail _ hm)),this,Bool.true_and]
   ·have:okn n=false:=by unfold okn; simp; omega
    rw[QL (by simp; omega),this]
    rfl
theorem Im (l:List Int) (hw:wL wI l):jZ l=some (xC l):=by
 unfold jZ xC
 rw[xD false l hw.2]
 cases hall:l.all okn with
 | false=>rfl
 | true =>
  simp only[if_true,Nr,Bool.true_and]
  cases l with
  | nil=>rfl
  | cons x t =>
   rw[QK (by simp only[NB]; omega),J8 _ (by have:=hw.1; omega)]
   simp
theorem tv (y:Bool): ∀ (l:List Top) (acc:List (List UInt8)),(∀ t,t∈l→kV t)→acc.length+l.length≤1000000→dI l y acc=some (if l.all mc=true then .go (y,acc++l.map (·.MO)) else .ret false)
 | [],acc,h,hl=>by simp[dI]
 | t::l,acc,h,hl=>by
  have ht:=h t (.head _)
  rw[NB] at hl
  rw[dI,Im _ ht.2,List.all_cons]
  by_cases h1:t.MO = []
  ·have:mc t=false:=by simp[mc,h1]
   rw[QK h1,this]
   rfl
  ·rw[QL h1]
   by_cases h2:(t.MO.length:Int)>32767
   ·have:mc t=false:=by simp[mc,show ¬ t.MO.length≤32767 by omega]
    rw[QK h2,this]
    rfl
   ·rw[QL h2,Nr]
    have hne:t.MO.isEmpty=false:=by cases hh:t.MO with | nil=>exact absurd hh h1 | cons c u=>rfl
    have ho:mc t=xC t.MH:=by simp[mc,hne,show t.MO.length≤32767 by omega]
    rw[ho]
    cases hp:xC t.MH with
    | false=>rfl
    | true =>
     rw[QK rfl,QK QG,tv y l _ (fun u hu=>h u (.tail _ hu)) (by rw[Nv]; simp only[NB,Ov]; omega),Bool.true_and,List.map_cons,NA]
     rfl
theorem DX (l:List Top) (hw: ∀ t,t∈l→kV t) (hl:l.length≤1000000):fd l=some (pC l):=by
 unfold fd pC
 rw[tv false l [] hw (by simpa using hl)]
 cases hall:l.all mc with
 | false=>rfl
 | true =>
  simp only[if_true,Nr,Bool.true_and,NM]
  rw[J9 _ (by rw[NN]; omega)]
  rfl
theorem zJ (a b:List UInt8) (ha:a.length≤1000000) (y:Bool): ∀ (u v:List UInt8) (k fuel:Nat),a.drop k=u→b.drop k=v→v.length<fuel→k≤a.length→k≤b.length→(∃ r,cF a b fuel y k=some (.ret r)∧r=Op.bytesLess u v)∨(∃ z,cF a b fuel y k=some (.go z)∧Op.bytesLess u v=decide (a.length<b.length))
 | [],v,k,fuel+1,hu,hv,hf,h1,h2=>by
  have:=ff hu
  right
  refine⟨(y,k),by rw[cF,QL QG],?_⟩
  cases v with
  | nil =>
   have:=ff hv
   simp[Op.bytesLess]
   omega
  | cons c v =>
   have:=(dr hv).2.2
   simp[Op.bytesLess]
   omega
 | c::u,[],k,fuel+1,hu,hv,hf,h1,h2=>by
  have g1:=ff hv
  have g2:=(dr hu).2.2
  right
  refine⟨(y,k),by rw[cF,QK QG,QL QG],?_⟩
  simp[Op.bytesLess]
  omega
 | c::u,d::v,k,fuel+1,hu,hv,hf,h1,h2=>by
  obtain⟨u1,u2,u3⟩:=dr hu
  obtain⟨v1,v2,v3⟩:=dr hv
  rw[NB] at hf
  rw[cF,QK QG,QK QG,u1,v1]
  simp only[Nr]
  by_cases hc:(c.toNat:Int)=(d.toNat:Int)
  ·have hcd:c=d:=UInt8.toNat_inj.1 QG
   rw[QK hc,QK QG]
   have:=zJ a b ha y u v (k+1) fuel u2 v2 QG QG QG
   have hb:Op.bytesLess (c::u) (d::v)=Op.bytesLess u v:=by
    rw[hcd]
    simp[Op.bytesLess]
   rw[hb]
   exact this
  ·rw[QL hc]
   left
   have hcd:c≠d:=fun h=>hc (by rw[h])
   by_cases hl:(c.toNat:Int)<(d.toNat:Int)
   ·refine⟨true,by rw[QK hl],?_⟩
    have:c<d:=UInt8.lt_iff_toNat_lt.2 QG
    simp[Op.bytesLess,this]
   ·refine⟨false,by rw[QL hl],?_⟩
    have: ¬ c<d:=fun h=>hl (by have:=UInt8.lt_iff_toNat_lt.1 h; omega)
    simp[Op.bytesLess,this,hcd]
theorem Ka (a b:List UInt8) (ha:a.length≤1000000):jg a b=some (Op.bytesLess a b):=by
 unfold jg
 rcases zJ a b ha false a b 0 (((b.length:Int)).toNat+1) rfl rfl QG (NX _) (NX _) with⟨r,h1,h2⟩ | ⟨z,h1,h2⟩
 ·rw[show ((0:Nat))=0 from rfl] at h1
  rw[h1,h2]
  rfl
 ·rw[h1,h2]
  simp only[Nr]
  by_cases h:a.length<b.length
  ·rw[QK QG]
   simp[h]
  ·rw[QL QG]
   simp[h]
theorem AU (x:Top): ∀ (fuel:Nat) (y:Bool) (k:Nat),eT x fuel y k=cG x fuel y k
 | 0,y,k=>rfl
 | fuel+1,y,k=>by
  rw[eT,cG]
  simp only[AU x fuel]
theorem ER (x:Top) (hb:x.MH.length≤1000000) (y:Bool): ∀ (t:List Int) (p:Option Int) (k fuel:Nat),x.MH.drop k=t→t.length<fuel→(k=0→p=none)→(0<k→x.MH[k - 1]? = p∧p≠none)→ ∃ z,cG x fuel y k=some (if (t.all okn && up ltI p t)=true then .go (y,z) else .ret false)
 | [],p,k,fuel+1,h,hf,h0,h1=>by
  have:=ff h
  refine⟨k,?_⟩
  rw[cG,QL QG]
  cases p <;> rfl
 | n::t,p,k,fuel+1,h,hf,h0,h1=>by
  obtain⟨g1,g2,g3⟩:=dr h
  rw[NB] at hf
  obtain⟨z,hz⟩:=ER x hb y t (some n) (k+1) fuel g2 QG (fun h=>absurd h QG) (fun _=>⟨g1,by simp⟩)
  rw[cG,QK QG,g1]
  simp only[Nr]
  rw[List.all_cons]
  by_cases c1:n<0
  ·refine⟨0,?_⟩
   rw[QK c1,QL]
   simp only[okn,Bool.and_eq_true,decide_eq_true_eq]
   omega
  by_cases c2:n>2147483647
  ·refine⟨0,?_⟩
   rw[QL c1,QK c2,QL]
   simp only[okn,Bool.and_eq_true,decide_eq_true_eq]
   omega
  rw[QL c1,QL c2]
  have ho:okn n=true:=by simp only[okn,Bool.and_eq_true,decide_eq_true_eq]; omega
  rcases Nat.eq_zero_or_pos k with hk | hk
  ·obtain rfl:=h0 hk
   refine⟨z,?_⟩
   rw[QL QG,QK QG,hz,ho,Bool.true_and,show up ltI none (n::t)=up ltI (some n) t from rfl]
  ·obtain⟨e1,e2⟩:=h1 hk
   rw[QK QG,QK QG,QK QG,show ((k:Int) - 1).toNat=k - 1 by omega,e1]
   cases p with
   | none=>exact absurd rfl e2
   | some q =>
    simp only[Nr]
    by_cases hc:q<n
    ·refine⟨z,?_⟩
     rw[QL QG,QK QG,hz,ho,Bool.true_and]
     simp only[up,ltI,hc,decide_true,Bool.true_and]
    ·refine⟨0,?_⟩
     rw[QK QG,QL]
     simp only[up,ltI,hc,decide_false,Bool.false_and,Bool.and_false,Bool.false_eq_true,not_false_eq_true]
theorem ES (a0:List Top) (hb:a0.length≤1000000) (hw: ∀ t,t∈a0→t.MH.length≤1000000∧t.MO.length≤1000000) (y:Bool): ∀ (t:List Top) (p:Option Top) (k fuel:Nat),a0.drop k=t→t.length<fuel→(k=0→p=none)→(0<k→a0[k - 1]? = p∧p≠none)→ ∃ z,cO a0 fuel y k=some (if (t.all mc && up Op.bytesLess (p.map (·.MO)) (t.map (·.MO)))=true then .go (y,z) else .ret false)
 | [],p,k,fuel+1,h,hf,h0,h1=>by
  have:=ff h
  refine⟨k,?_⟩
  rw[cO,QL QG]
  cases p <;> rfl
 | x::t,p,k,fuel+1,h,hf,h0,h1=>by
  obtain⟨g1,g2,g3⟩:=dr h
  have hx:=hw x (List.mem_of_getElem? g1)
  rw[NB] at hf
  obtain⟨z,hz⟩:=ES a0 hb hw y t (some x) (k+1) fuel g2 QG (fun h=>absurd h QG) (fun _=>⟨g1,by simp⟩)
  rw[cO,QK QG,g1,Nr]
  rw[List.all_cons,List.map_cons]
  by_cases c1:(x.MO.length:Int)<1
  ·refine⟨0,?_⟩
   have:x.MO = []:=List.length_eq_zero_iff.1 QG
   rw[QK c1,QL]
   simp[mc,this]
  by_cases c2:(x.MO.length:Int)>32767
  ·refine⟨0,?_⟩
   rw[QL c1,QK c2,QL]
   simp[mc,show ¬ x.MO.length≤32767 by omega]
  by_cases c3:(x.MH.length:Int)<1
  ·refine⟨0,?_⟩
   have:x.MH = []:=List.length_eq_zero_iff.1 QG
   rw[QL c1,QL c2,QK c3,QL]
   simp[mc,xC,this]
  rw[QL c1,QL c2,QL c3]
  have hne:x.MO.isEmpty=false:=by cases hh:x.MO with | nil=>rw[hh] at c1; simp at c1 | cons c u=>rfl
  have hnp:x.MH.isEmpty=false:=by cases hh:x.MH with | nil=>rw[hh] at c3; simp at c3 | cons c u=>rfl
  have ho:mc x=(x.MH.all okn && up ltI none x.MH):=by
   simp[mc,xC,hne,hnp,show x.MO.length≤32767 by omega]
  obtain⟨z2,hz2⟩:=ER x hx.1 y x.MH none 0 (((x.MH.length:Int)).toNat+1) rfl QG (fun _=>rfl) (fun h=>absurd h QG)
  rw[ho]
  rcases Nat.eq_zero_or_pos k with hk | hk
  ·obtain rfl:=h0 hk
   rw[QL QG,AU,hz2]
   cases hq:(x.MH.all okn && up ltI none x.MH) with
   | false=>exact⟨0,by simp⟩
   | true =>
    refine⟨z,?_⟩
    rw[QK rfl,Nr,Bool.true_and]
    simp only
    rw[QK QG,hz,show (none:Option Top).map (·.MO)=none from rfl,show up Op.bytesLess none (x.MO::t.map (·.MO))=up Op.bytesLess (some x.MO) (t.map (·.MO)) from rfl]
    rfl
  ·obtain⟨e1,e2⟩:=h1 hk
   rw[QK QG,QK QG,QK QG,show ((k:Int) - 1).toNat=k - 1 by omega,e1]
   cases p with
   | none=>exact absurd rfl e2
   | some q =>
    rw[Nr]
    rw[Ka _ _ (hw q (List.mem_of_getElem? e1)).2]
    rw[Nr,show (some q).map (·.MO)=some q.MO from rfl,show up Op.bytesLess (some q.MO) (x.MO::t.map (·.MO))=(Op.bytesLess q.MO x.MO && up Op.bytesLess (some x.MO) (t.map (·.MO))) from rfl]
    cases hc:Op.bytesLess q.MO x.MO with
    | false=>exact⟨0,by simp⟩
    | true =>
     rw[QK rfl,hz2]
     cases hq:(x.MH.all okn && up ltI none x.MH) with
     | false=>exact⟨0,by simp⟩
     | true =>
      refine⟨z,?_⟩
      rw[QK rfl,Nr,Bool.true_and]
      simp only
      rw[QK QG,hz]
      rfl
theorem ET (a0:List Top) (hb:a0.length≤1000000) (hw: ∀ t,t∈a0→t.MH.length≤1000000∧t.MO.length≤1000000):iu a0=some (pC a0):=by
 unfold iu pC
 obtain⟨z,hz⟩:=ES a0 hb hw false a0 none 0 (((a0.length:Int)).toNat+1) rfl QG (fun _=>rfl) (fun h=>absurd h QG)
 rw[show (none:Option Top).map (·.MO)=none from rfl] at hz
 rw[hz]
 cases (a0.all mc && up Op.bytesLess none (a0.map (·.MO))) <;> rfl
theorem zK (a b:List Int) (ha:a.length≤140737488355328) (y:Bool): ∀ (t u:List Int) (k fuel:Nat),a.drop k=t→b.drop k=u→t.length=u.length→t.length<fuel→ ∃ z,fI a b fuel y k=some (if t=u then .go (y,z) else .ret false)
 | [],[],k,fuel+1,ht,hu,hl,hf=>by
  have:=ff ht
  exact⟨k,by rw[fI,QL QG,QK rfl]⟩
 | [],d::u,k,fuel,ht,hu,hl,hf=>by simp at hl
 | c::t,[],k,fuel,ht,hu,hl,hf=>by simp at hl
 | c::t,d::u,k,fuel+1,ht,hu,hl,hf=>by
  obtain⟨t1,t2,t3⟩:=dr ht
  obtain⟨u1,u2,u3⟩:=dr hu
  simp only[NB] at hl hf
  obtain⟨z,hz⟩:=zK a b ha y t u (k+1) fuel t2 u2 QG QG
  rw[fI,QK QG,t1,Nr,u1,Nr]
  by_cases hc:c=d
  ·rw[QK hc,QK QG,hz]
   subst hc
   refine⟨z,?_⟩
   by_cases h:t=u
   ·rw[QK h,QK (by rw[h])]
   ·rw[QL h,QL (by simpa using h)]
  ·rw[QL hc]
   exact⟨0,by rw[QL (fun h=>hc (List.cons.inj h).1)]⟩
theorem Kb (a b:List Int) (ha:a.length≤140737488355328):ni a b=some (decide (a=b)):=by
 unfold ni
 by_cases hl:(a.length:Int)=(b.length:Int)
 ·rw[QK hl]
  obtain⟨z,hz⟩:=zK a b ha false a b 0 (((a.length:Int)).toNat+1) rfl rfl QG QG
  rw[hz]
  by_cases h:a=b
  ·rw[QK h,Nt h]
   rfl
  ·rw[QL h,Nu h]
   rfl
 ·rw[QL hl,Nu (fun h=>hl (by rw[h]))]
def Cg (a b:Top):Bool:=decide (a.MO=b.MO) && decide (a.MH=b.MH)
def kc:List Top→List Top→Bool
 | [],[]=>true
 | a::l,b::m=>Cg a b && kc l m
 | _,_=>false
theorem DY (a:Top):Cg a a=true:=by simp[Cg]
theorem vA: ∀ l:List Top,kc l l=true
 | []=>rfl
 | a::l=>by rw[kc,DY,vA l]; rfl
theorem xE: ∀ (l m:List Top),kc l m=true→l.length=m.length
 | [],[],h=>rfl
 | [],b::m,h=>nomatch h
 | a::l,[],h=>nomatch h
 | a::l,b::m,h=>by
  rw[kc,Bool.and_eq_true] at h
  rw[NB,NB,xE l m h.2]
theorem xF (a0 a1:List Top) (h0:a0.length≤1000000) (y:Bool): ∀ (l u:List Top) (k fuel:Nat),(∀ t,t∈l→t.MH.length≤140737488355328)→a0.drop k=l→a1.drop k=u→l.length=u.length→l.length<fuel→ ∃ z,dh a0 a1 fuel y k=some (if kc l u=true then .go (y,z) else .ret false)
 | [],[],k,fuel+1,hw,ht,hu,hl,hf=>by
  have:=ff ht
  exact⟨k,by rw[dh,QL QG]; rfl⟩
 | [],d::u,k,fuel,hw,ht,hu,hl,hf=>by simp at hl
 | c::l,[],k,fuel,hw,ht,hu,hl,hf=>by simp at hl
 | c::l,d::u,k,fuel+1,hw,ht,hu,hl,hf=>by
  obtain⟨t1,t2,t3⟩:=dr ht
  obtain⟨u1,u2,u3⟩:=dr hu
  simp only[NB] at hl hf
  obtain⟨z,hz⟩:=xF a0 a1 h0 y l u (k+1) fuel (fun t ht=>hw t (.tail _ ht)) t2 u2 QG QG
  rw[dh,QK QG,t1,Nr,u1,Nr,kc,Cg,Kb _ _ (hw c (.head _))]
  by_cases hc:c.MO=d.MO
  ·rw[QK hc,Nt hc,Nr,Bool.true_and]
   cases decide (c.MH=d.MH) with
   | false=>exact⟨0,rfl⟩
   | true =>
    rw[QK rfl,QK QG,Bool.true_and]
    exact⟨z,hz⟩
  ·rw[QL hc,Nu hc]
   exact⟨0,rfl⟩
theorem Ch (a b:List Top) (h0:a.length≤1000000) (ha: ∀ t,t∈a→t.MH.length≤140737488355328):dc a b=some (kc a b):=by
 unfold dc
 by_cases hl:(a.length:Int)=(b.length:Int)
 ·obtain⟨z,hz⟩:=xF a b h0 false a b 0 (((a.length:Int)).toNat+1) ha rfl rfl QG QG
  rw[QK hl,hz]
  cases kc a b <;> rfl
 ·rw[QL hl]
  have:kc a b=false:=by
   cases h:kc a b with
   | false=>rfl
   | true=>exact absurd (congrArg Int.ofNat (xE a b h)) hl
  rw[this]
def wT (t:Top):Nat:=t.MO.length+4*t.MH.length+6
def wTs:List Top→Nat
 | []=>0
 | t::l=>wT t+wTs l
theorem Ci (y:Int): ∀ (l:List Top) (acc:Int),(∀ t,t∈l→kV t)→0≤acc→acc≤1000→(gk l y acc=some (.ret 0))∨(∃ z,gk l y acc=some (.go z)∧acc+wTs l≤1000)
 | [],acc,hw,h0,h1=> .inr ⟨_,rfl,by simp[wTs]; omega⟩
 | t::l,acc,hw,h0,h1=>by
  have ht:=hw t (.head _)
  have ht1:t.MO.length≤140737488351232:=ht.1
  have ht2:t.MH.length≤140737488351232:=ht.2.1
  rw[gk,QK QG,QK QG,QK QG,QK QG]
  by_cases hc:(acc+(((t.MO.length:Int)+(4*(t.MH.length:Int)))+6))>1000
  ·rw[QK hc]
   exact .inl rfl
  ·rw[QL hc]
   rcases Ci y l _ (fun u hu=>hw u (.tail _ hu)) QG (show acc+(((t.MO.length:Int)+(4*(t.MH.length:Int)))+6)≤1000 by omega) with h | ⟨z,h,h2⟩
   ·exact .inl h
   ·exact .inr ⟨z,h,by simp only[wTs,wT]; omega⟩
theorem In (l:List Top) (hw: ∀ t,t∈l→kV t):(ln l=some 0)∨(ln l=some 1∧wTs l≤1000):=by
 unfold ln
 rcases Ci 0 l 0 hw QH QH with h | ⟨z,h,h2⟩
 ·exact .inl (by rw[h]; rfl)
 ·exact .inr ⟨by rw[h]; rfl,by omega⟩
theorem kX: ∀ l:List Top,l.length*6≤wTs l
 | []=>by simp[wTs]
 | t::l=>by have:=kX l; simp only[wTs,wT,NB]; omega
theorem tw: ∀ (l:List Top) (t:Top),t∈l→wT t≤wTs l
 | u::l,t,h=>by
  rcases List.mem_cons.1 h with rfl | h
  ·simp only[wTs]; omega
  ·have:=tw l t h; simp only[wTs]; omega
theorem vb: ∀ l:List Int,(bd (fun n=>be n 4) l).length=4*l.length
 | []=>rfl
 | n::l=>by rw[bd,Nv,av,vb l,NB]; omega
theorem xG (t:Top):(kW t).length=wT t:=by
 simp only[kW,Nv,av,vb,wT]
 omega
theorem hO: ∀ l:List Top,(bd kW l).length=wTs l
 | []=>rfl
 | t::l=>by rw[bd,Nv,xG,hO l,wTs]
theorem Io: ∀ (l:List Int) (t:List UInt8),(∀ n,n∈l→bm n 4=true)→t.length+4*l.length≤1000000000→cT l (t,0)=some (t++bd (fun n=>be n 4) l,0)
 | [],t,h,hl=>by rw[cT,bd,NP]
 | n::l,t,h,hl=>by
  rw[NB] at hl
  rw[cT,ec (h n (.head _)) QG,Nr,Io l _ (fun m hm=>h m (.tail _ hm)) (by rw[Nv,av]; show t.length+4+4*l.length≤ _; omega),bd,NA]
  rfl
theorem si {t d:List UInt8} (hf:d.length≤32767) (ht:t.length≤1000000000):kC (t,0) d=some (t++(be (d.length:Int) 2++d),0):=by
 rw[vz _ _ (by simp only; omega)]
 have:=kw (t:=t) (b:=⟨false,d⟩) (k:=2) (fY (.inl rfl) (show -32768≤(d.length:Int) by omega) (show (d.length:Int)≤32767 by omega)) rfl (by simp only; omega)
 rw[pk _ _ _ ⟨by decide,by simp only; omega⟩] at this
 exact this
theorem Ip: ∀ (l:List Top) (t:List UInt8),(∀ x,x∈l→okT x)→t.length+wTs l≤1000000→wTs l≤2000→cU l (t,0)=some (t++bd kW l,0)
 | [],t,h,hl,hw=>by rw[cU,bd,NP]
 | x::l,t,h,hl,hw=>by
  obtain⟨h1,h2,h3⟩:=h x (.head _)
  simp only[wTs,wT] at hl hw
  rw[cU,si QG QG,Nr,ec h2 (by simp only[Nv,av]; omega),Nr,Io _ _ h3 (by simp only[Nv,av]; show _+(4:Int).toNat + _≤ _; omega),Nr,Ip l _ (fun y hy=>h y (.tail _ hy)) (by simp only[Nv,av,vb]; show _+(4:Int).toNat + _ + _≤ _; omega) QG]
  simp only[bd,kW,NA]
  rfl
theorem xH (l:List Top) (t:List UInt8) (h: ∀ x,x∈l→okT x) (ht:t.length≤900000) (hw:wTs l≤2000):fk (t,0) l=some (t++(be (l.length:Int) 4++bd kW l),0):=by
 have:=kX l
 unfold fk
 rw[ec (fY (.inr (.inl rfl)) QG QG) QG,Nr,Ip l _ h (by simp only[Nv,av]; show _+(4:Int).toNat + _≤ _; omega) hw,NA]
 rfl
theorem EU (x:Top) (hb:x.MH.length≤1000000) (hx: ∀ n,n∈x.MH→wI n): ∀ (l:List Int) (t:List UInt8) (k fuel:Nat),x.MH.drop k=l→l.length<fuel→t.length+4*l.length≤1000000000→ ∃ z,eF x fuel t k=some (t++bd (fun n=>be n 4) l,z)
 | [],t,k,fuel+1,h,hf,hl=>by
  have:=ff h
  exact⟨k,by rw[eF,QL QG,bd,NP]⟩
 | n::l,t,k,fuel+1,h,hf,hl=>by
  obtain⟨g1,g2,g3⟩:=dr h
  rw[NB] at hf hl
  obtain⟨z,hz⟩:=EU x hb hx l (t++be n 4) (k+1) fuel g2 QG (by rw[Nv,av]; omega)
  rw[eF,QK QG,g1,Nr,bO _ _ ⟨hx n (List.mem_of_getElem? g1),by decide,by decide⟩,Nr,QK (by rw[av]; show t.length+(4:Int).toNat≤ _; omega),QK QG]
  refine⟨z,?_⟩
  rw[bd,← NA]
  exact hz
theorem EV (a0:List Top) (hb:a0.length≤1000000) (hx: ∀ x,x∈a0→kV x): ∀ (l:List Top) (t:List UInt8) (k fuel:Nat),a0.drop k=l→l.length<fuel→t.length+wTs l≤1000000→ ∃ z,eG a0 fuel t k=some (t++bd kW l,z)
 | [],t,k,fuel+1,h,hf,hl=>by
  have:=ff h
  exact⟨k,by rw[eG,QL QG,bd,NP]⟩
 | x::l,t,k,fuel+1,h,hf,hl=>by
  obtain⟨g1,g2,g3⟩:=dr h
  have hw:=hx x (List.mem_of_getElem? g1)
  rw[NB] at hf
  simp only[wTs,wT] at hl
  obtain⟨z2,hz2⟩:=EU x QG hw.2.2 x.MH ((t++(be (co ⟨false,x.MO⟩) (2:Int).toNat++x.MO))++be (x.MH.length:Int) (4:Int).toNat) 0 (((x.MH.length:Int)).toNat+1) rfl QG (by simp only[Nv,av]; show _+(((2:Int).toNat + _)+(4:Int).toNat) + _≤ _; omega)
  obtain⟨z,hz⟩:=EV a0 hb hx l (t++kW x) (k+1) fuel g2 QG (by rw[Nv,xG,wT]; omega)
  rw[eG,QK QG,g1,Nr,kh _ _ ⟨by decide,by decide,by simp only; omega⟩,Nr,QK (by simp only[Nv,av]; show _+((2:Int).toNat + _)≤ _; omega),bO _ _ ⟨by omega,by decide,by decide⟩,Nr,QK (by simp only[Nv,av]; show _+((2:Int).toNat + _)+(4:Int).toNat≤ _; omega),hz2,Nr]
  simp only
  rw[QK QG]
  refine⟨z,?_⟩
  have e:t++kW x=((t++(be (co ⟨false,x.MO⟩) (2:Int).toNat++x.MO))++be (x.MH.length:Int) (4:Int).toNat)++bd (fun n=>be n 4) x.MH:=by
   simp only[kW,NA]
   rfl
  rw[bd,(NA t (kW x) (bd kW l)).symm,e]
  rw[e] at hz
  exact hz
theorem EW (l:List Top) (hx: ∀ x,x∈l→kV x) (hw:wTs l≤2000):jB l=some (be (l.length:Int) 4++bd kW l):=by
 have:=kX l
 unfold jB
 rw[bO _ _ ⟨by omega,by decide,by decide⟩,Nr]
 obtain⟨z,hz⟩:=EV l QG hx l (be (l.length:Int) (4:Int).toNat) 0 (((l.length:Int)).toNat+1) rfl QG (by rw[av]; show (4:Int).toNat + _≤ _; omega)
 rw[hz]
 rfl
theorem vc (n:Int):bm n 2=decide (-32768≤n∧n≤32767):=by
 rw[Bool.eq_iff_iff]
 unfold bm
 simp only[Bool.and_eq_true,decide_eq_true_eq]
 have:(2:Int) ^ (8*(2:Int).toNat - 1)=32768:=by decide
 omega
theorem Iq (n:Int):bm n 8=decide (-9223372036854775808≤n∧n≤9223372036854775807):=by
 rw[Bool.eq_iff_iff]
 unfold bm
 simp only[Bool.and_eq_true,decide_eq_true_eq]
 have:(2:Int) ^ (8*(8:Int).toNat - 1)=9223372036854775808:=by decide
 omega
def badR (v:Val):Prop:=v.MG<0∨v.MJ<0∨v.MJ>32767∨v.ML<0∨v.ML>2147483647∨v.Nn<0∨v.Nm < -1
def badC (v:Val):Prop:= ¬ ((1≤v.Nl∧v.Nl≤3)↔0<(v.MF.length:Int))∨ ¬ (v.Nl=0↔v.Nm= -1)
open Classical in
noncomputable def chkV (v:Val):Int:=if badR v then 11 else if v.Nl<0∨v.Nl>6 then 12 else if badC v then 10 else if pC v.MF=true then 0 else 13
theorem Gw (v:Val) (hw:wf_Val v) (hl:v.MF.length≤1000000):j0 v=some (chkV v):=by
 unfold j0 chkV
 rw[DX _ hw.2.2.2.2.1.2 hl,gi _ _ hw.2.1,gi _ _ hw.2.2.1,vc,eL]
 generalize pC v.MF=b
 by_cases hr:badR v
 ·rw[QK hr]
  unfold badR at hr
  by_cases c1:v.MG<0
  ·rw[QK c1]
  rw[QL c1]
  by_cases c2:v.MJ<0
  ·rw[QK c2]
  rw[QL c2,Nr]
  by_cases c3: -32768≤v.MJ∧v.MJ≤32767
  ·rw[QK (Nt c3)]
   by_cases c4:v.ML<0
   ·rw[QK c4]
   rw[QL c4,Nr]
   by_cases c5: -2147483648≤v.ML∧v.ML≤2147483647
   ·rw[QK (Nt c5)]
    by_cases c6:v.Nn<0
    ·rw[QK c6]
    rw[QL c6,QK QG]
   ·rw[QL (by simp only[decide_eq_true_eq]; exact c5)]
  ·rw[QL (by simp only[decide_eq_true_eq]; exact c3)]
 rw[QL hr]
 unfold badR at hr
 rw[QL QG,QL QG,Nr,QK (Nt QG),QL QG,Nr,QK (Nt QG),QL QG,QL QG]
 unfold mG
 by_cases hs:v.Nl<0∨v.Nl>6
 ·rw[QK hs]
  by_cases c1:v.Nl<0
  ·rw[QK c1]
  ·rw[QL c1,QK QG]
 rw[QL hs,QL QG,QL QG]
 by_cases hc:badC v
 ·rw[QK hc]
  unfold badC at hc
  by_cases c0:v.Nl=0
  ·rw[QK c0,Nr,QK rfl]
   by_cases c1:(v.MF.length:Int)=0
   ·rw[QK c1,QK c0,QL QG]
   ·rw[QL c1]
  ·rw[QL c0]
   by_cases c4:v.Nl≥4
   ·rw[QK c4,Nr,QK rfl]
    by_cases c1:(v.MF.length:Int)=0
    ·rw[QK c1,QL c0,QK QG]
    ·rw[QL c1]
   ·rw[QL c4,Nr,QL QH]
    by_cases c1:(v.MF.length:Int)=0
    ·rw[QK c1]
    ·rw[QL c1,QL c0,QK QG]
 rw[QL hc]
 unfold badC at hc
 by_cases c0:v.Nl=0
 ·rw[QK c0,Nr,QK rfl,QK QG,QK c0,QK QG]
  cases b <;> rfl
 ·rw[QL c0]
  by_cases c4:v.Nl≥4
  ·rw[QK c4,Nr,QK rfl,QK QG,QL c0,QL QG]
   cases b <;> rfl
  ·rw[QL c4,Nr,QL QH,QL QG,QL c0,QL QG]
   cases b <;> rfl
theorem AV {l:List Top} (h:pC l=true) (hw:wTs l≤2000): ∀ t,t∈l→okT t:=by
 intro t ht
 unfold pC at h
 rw[Bool.and_eq_true] at h
 have h1:=List.all_eq_true.1 h.1 t ht
 unfold mc xC at h1
 simp only[Bool.and_eq_true,decide_eq_true_eq,List.all_eq_true] at h1
 have h2:=tw l t ht
 unfold wT at h2
 refine⟨fY (.inl rfl) QG QG,fY (.inr (.inl rfl)) QG QG,fun n hn=> ?_⟩
 have h3:=h1.2.1.1 n hn
 unfold okn at h3
 simp only[Bool.and_eq_true,decide_eq_true_eq] at h3
 rw[eL]
 exact Nt QG
theorem wi0:wI 0:=⟨by decide,by decide⟩
theorem wi1:wI 1:=⟨by decide,by decide⟩
theorem wim:wI (-1):=⟨by decide,by decide⟩
def who (p e:Int):Bool:=decide (0≤p∧0≤e∧e≤32767)
theorem AW (p e:Int) (he:wI e):ku p e=some (who p e):=by
 unfold ku who
 by_cases h1:p≥0
 ·rw[QK h1]
  by_cases h2:e≥0
  ·rw[QK h2,gi _ _ he,vc]
   simp only[Nr]
   congr 1
   by_cases h3:e≤32767
   ·rw[Nt QG,Nt QG]
   ·rw[Nu QG,Nu QG]
  ·rw[QL h2,Nu QG]
   rfl
 ·rw[QL h1,Nu QG]
  rfl
def rM (l:List Top):Int:=if l.length=0 then 10 else if pC l=true then 0 else 13
def wTl (l:List Top):Prop:=(∀ t,t∈l→kV t)∧l.length≤1000000
theorem Cj (l:List Top) (hw:wTl l):lw l=some (rM l):=by
 unfold lw rM
 by_cases h:l.length=0
 ·rw[QK QG,QK h]
 ·rw[QL QG,QL h,Gw _ ⟨wi0,wi0,wi0,wi1,⟨by have:=hw.2; simp only; omega,hw.1⟩,wi0,wi0⟩ hw.2,Nr]
  unfold chkV
  rw[QL (by unfold badR; simp),QL (by simp),QL (by
   unfold badC
   simp only
   rintro (h1 | h1)
   ·exact h1 ⟨fun _=>by omega,fun _=>by omega⟩
   ·exact h1 ⟨fun h=>absurd h QH,fun h=>absurd h QH⟩)]
def nD (d:List UInt8) (p e:Int):Int:=if dE d=true then (if who p e=true then 0 else 11) else 4
def om (d:List UInt8) (p e:Int) (l:List Top):Int:=if dE d=true then (if who p e=true then rM l else 11) else 4
def tmB (t:Int):Bool:=decide (0≤t∧t≤2147483647)
def Ck (p e:Int):Bool:=decide (p= -1∧e= -1)
def fZ (b:Bl) (t p e v:Int):Int:=if (bw b && (b.null || dE b.data))=true then (if (tmB t && (Ck p e || (decide (v>0) && who p e)))=true then 0 else 11) else 4
theorem Cl (x:bR) (he:wI x.MJ):g6 x=some (nD x.MM x.MG x.MJ):=by
 unfold g6 nD
 rw[po,Nr,AW _ _ he,Nr]
 cases dE x.MM <;> cases who x.MG x.MJ <;> rfl
theorem Cm (x:bT) (he:wI x.MJ) (hl:wTl x.MF):gZ x=some (om x.MM x.MG x.MJ x.MF):=by
 unfold gZ om
 rw[po,Nr,AW _ _ he,Nr,Cj _ hl,Nr]
 cases dE x.MM <;> cases who x.MG x.MJ <;> rfl
theorem xI (x:bb) (v:Int) (he:wI x.MJ) (ht:wI x.ML):fP x v=some (fZ x.MM x.ML x.MG x.MJ v):=by
 unfold fP fZ
 have h1:(if x.MG=(-1) then (if x.MJ=(-1) then some true else some false) else some false)=some (Ck x.MG x.MJ):=by
  unfold Ck
  by_cases a:x.MG= -1 <;> by_cases b:x.MJ= -1 <;> simp[a,b]
 have h3:(if x.ML<0 then some true else ((jM x.ML 4).bind fun x29=>if x29=true then some false else some true))=some (!tmB x.ML):=by
  unfold tmB
  by_cases a:x.ML<0
  ·rw[QK a,Nu QG]
   rfl
  ·rw[QL a,gi _ _ ht,eL,Nr]
   by_cases b:x.ML≤2147483647
   ·rw[QK (Nt QG),Nt QG]
    rfl
   ·rw[QL (by simp; omega),Nu QG]
    rfl
 have h4:(if v>0 then ((some (who x.MG x.MJ)).bind fun x55=>if x55=true then some false else some true) else some true)=some (!(decide (v>0) && who x.MG x.MJ)):=by
  by_cases d:v>0
  ·rw[QK d,Nt d]
   cases who x.MG x.MJ <;> rfl
  ·rw[QL d,Nu d]
   rfl
 rw[h1,Nr,h3,AW _ _ he,h4,qZ,po]
 cases bw x.MM <;> cases x.MM.null <;> cases dE x.MM.data <;> cases tmB x.ML <;> cases Ck x.MG x.MJ <;> cases (decide (v>0) && who x.MG x.MJ) <;> rfl
theorem Ir:CB gM tu false:=by
 refine⟨fun st h=> ?_,fun s q hl hq=> ?_⟩
 ·unfold gM
  rw[lz h,Nr]
  rfl
 ·unfold gM tu
  rcases Q1.run s q hq with⟨e,st,p1,g1,x1,y1⟩ | ⟨n,r,p1,g1,n1,l1⟩
  ·refine .inl ⟨e,st,Pr.bind_err p1,?_,x1,y1⟩
   rw[g1,Nr]
   rfl
  ·rw[g1,Nr,Pr.bind_of p1]
   simp only
   by_cases h0:n=0
   ·rw[QK h0,QK h0,Nr,QL QH,Nr,QL QG]
    exact .inr ⟨false,r,rfl,rfl,n1,l1⟩
   ·by_cases h1:n=1
    ·rw[QL h0,QK h1,QL h0,QK h1,Nr,QL QH,Nr,QK h1]
     exact .inr ⟨true,r,rfl,rfl,n1,l1⟩
    ·rw[QL h0,QL h1,QL h0,QL h1,Nr,QK rfl,dz,Nr,Nr,QL h1]
     exact .inl ⟨11,_,rfl,rfl,rfl,by simp[dx]⟩
abbrev Cn:Pr (List Top):=mq 4 6 nC
theorem pD {α:Type} {enc:α→List UInt8}: ∀ (l:List α) (x:α),x∈l→(enc x).length≤(bd enc l).length
 | y::l,x,h=>by
  rw[bd,Nv]
  rcases List.mem_cons.1 h with rfl | h
  ·omega
  ·have:=pD (enc:=enc) l x h
   omega
theorem Is (s:List UInt8) (q:Nat) (l:List Top) (r:Nat) (hl:s.length≤1000000) (hq:q≤s.length) (h:Cn s q= .ok (l,r)):wTl l:=by
 obtain⟨a1,a2,a3,a4,a5,a6⟩:=va.spell s q l r hq h
 rw[Nv,av] at a3
 have hlen:=oc EQ l a6
 refine⟨fun t ht=> ?_,by omega⟩
 have h1:=pD (enc:=kW) l t ht
 obtain⟨b1,b2,b3⟩:=a6 t ht
 have h2:(kW t).length=wT t:=xG t
 unfold wT at h2
 exact⟨by show t.MO.length≤ _; omega,by show t.MH.length≤ _; omega,fun n hn=>dY (b3 n hn)⟩
def zE:bR:=⟨[],0,0,false⟩
def zA:bT:=⟨[],0,0,[]⟩
def zB:bb:=⟨⟨false,[]⟩,0,0,0⟩
def It:Pr bR:=xu.bind fun d=>(fC 8).bind fun p=>(fC 2).bind fun e=>tu.bind fun c=>if nD d p e=0 then .ret ⟨d,p,e,c⟩ else .err (nD d p e)
def Iu:Pr bT:=xu.bind fun d=>(fC 8).bind fun p=>(fC 2).bind fun e=>Cn.bind fun l=>if om d p e l=0 then .ret ⟨d,p,e,l⟩ else .err (om d p e l)
def Iv (v:Int):Pr bb:=(og 2).bind fun b=>(fC 4).bind fun t=>if fZ b t (-1) (-1) v=0 then .ret ⟨b,t,-1,-1⟩ else .err (fZ b t (-1) (-1) v)
def Iw (v:Int):Pr bb:=(og 2).bind fun b=>(fC 4).bind fun t=>(fC 8).bind fun p=>(fC 2).bind fun e=>if fZ b t p e v=0 then .ret ⟨b,t,p,e⟩ else .err (fZ b t p e v)
theorem B_end:CB lI It zE:=by
 refine CB.congr (CB.bind (fun _=>True) QT.cb (fun _ _ _ _ _ _ _=>trivial) trivial fun d _=>CB.bind wI Q8.cb (qM QH QH) wi0 fun p hp=>CB.bind wI Q2.cb (qM QH QH) wi0 fun e he=>CB.bind (fun _=>True) Ir (fun _ _ _ _ _ _ _=>trivial) trivial fun c _ =>
  AS (op:=fun st=>(cX st ⟨d,p,e,c⟩).bind fun (x15,st16)=>if x15=true then some (⟨d,p,e,c⟩,st16) else some (zE,st16)) (fun st h=> ?_) (fun st h=> ?_)) (fun st=>rfl)
 ·unfold cX
  rw[bz,Nr]
  simp only
  rw[QL h]
  rfl
 ·unfold cX
  rw[bz,Nr]
  simp only
  rw[QK h,Cl _ he,Nr]
  by_cases hc:nD d p e=0
  ·rw[QK hc,QK hc]
   rfl
  ·rw[QL hc,QL hc,dz]
   rfl
theorem B_add:CB lH Iu zA:=by
 refine CB.congr (CB.bind (fun _=>True) QT.cb (fun _ _ _ _ _ _ _=>trivial) trivial fun d _=>CB.bind wI Q8.cb (qM QH QH) wi0 fun p hp=>CB.bind wI Q2.cb (qM QH QH) wi0 fun e he=>CB.bind wTl Cf Is ⟨(fun t h=>nomatch h),by decide⟩ fun l hl =>
  AS (op:=fun st=>(cW st ⟨d,p,e,l⟩).bind fun (x15,st16)=>if x15=true then some (⟨d,p,e,l⟩,st16) else some (zA,st16)) (fun st h=> ?_) (fun st h=> ?_)) (fun st=>rfl)
 ·unfold cW
  rw[bz,Nr]
  simp only
  rw[QL h]
  rfl
 ·unfold cW
  rw[bz,Nr]
  simp only
  rw[QK h,Cm _ he hl,Nr]
  by_cases hc:om d p e l=0
  ·rw[QK hc,QK hc]
   rfl
  ·rw[QL hc,QL hc,dz]
   rfl
theorem EX (b:Bl) (t p e v:Int) (ht:wI t) (he:wI e):CB (fun st=>(cH st ⟨b,t,p,e⟩ v).bind fun (x15,st16)=>if x15=true then some ((⟨b,t,p,e⟩:bb),st16) else some (zB,st16)) (if fZ b t p e v=0 then .ret ⟨b,t,p,e⟩ else .err (fZ b t p e v)) zB:=by
 refine AS (fun st h=> ?_) (fun st h=> ?_)
 ·unfold cH
  rw[bz,Nr]
  simp only
  rw[QL h]
  rfl
 ·unfold cH iz
  rw[bz,Nr]
  simp only
  rw[QK h,xI _ _ he ht,Nr,Nr]
  by_cases hc:fZ b t p e v=0
  ·rw[QK hc,QK hc]
   rfl
  ·rw[QL hc,QL hc,dz]
   rfl
theorem B_beg0 (v:Int) (hv: ¬ v>0):CB (fun st=>eH st v) (Iv v) zB:=by
 refine CB.congr (CB.bind (fun _=>True) QF2.cb (fun _ _ _ _ _ _ _=>trivial) trivial fun b _=>CB.bind wI Q4.cb (qM QH QH) wi0 fun t ht=>EX b t (-1) (-1) v ht wim) (fun st=> ?_)
 unfold eH
 simp only[QL hv,Nr]
 rfl
theorem B_beg1 (v:Int) (hv:v>0):CB (fun st=>eH st v) (Iw v) zB:=by
 refine CB.congr (CB.bind (fun _=>True) QF2.cb (fun _ _ _ _ _ _ _=>trivial) trivial fun b _=>CB.bind wI Q4.cb (qM QH QH) wi0 fun t ht=>CB.bind wI Q8.cb (qM QH QH) wi0 fun p hp=>CB.bind wI Q2.cb (qM QH QH) wi0 fun e he=>EX b t p e v ht he) (fun st=> ?_)
 unfold eH
 simp only[QK hv,Option.bind_assoc,Nr]
 rfl
def qN (d:List UInt8):List UInt8:=be (d.length:Int) 2++d
def j4 (l:List Top):List UInt8:=be (l.length:Int) 4++bd kW l
def AX (x:bR):List UInt8:=qN x.MM++(be x.MG 8++(be x.MJ 2++gI x.MZ))
def AY (x:bT):List UInt8:=qN x.MM++(be x.MG 8++(be x.MJ 2++j4 x.MF))
def vB (b:Bl):List UInt8:=be (co b) 2++b.data
def Co (x:bb):List UInt8:=vB x.MM++be x.ML 4
def zL (x:bb):List UInt8:=vB x.MM++(be x.ML 4++(be x.MG 8++be x.MJ 2))
def okTx (d:List UInt8):Prop:=bm (d.length:Int) 2=true∧bw ⟨false,d⟩=true
def okFx (b:Bl):Prop:=bm (co b) 2=true∧bw b=true
def yV (l:List Top):Prop:=bm (l.length:Int) 4=true∧ ∀ t,t∈l→okT t
abbrev spI (k:Nat) (h1:1≤k:=by decide) (h8:k≤8:=by decide):=eA k h1 h8
theorem Sp_end:Sp It AX (fun x=>okTx x.MM∧bm x.MG 8=true∧bm x.MJ 2=true∧nD x.MM x.MG x.MJ=0):=by
 refine Sp.congr (Sp.seq (β:=bR) (π:=(·.MM)) (ok2:=fun x:bR=>bm x.MG 8=true∧bm x.MJ 2=true∧nD x.MM x.MG x.MJ=0) pA fun d =>
  Sp.congr (Sp.seq (β:=bR) (π:=(·.MG)) (ok2:=fun x:bR=>bm x.MJ 2=true∧nD d x.MG x.MJ=0∧x.MM=d) (spI 8) fun p =>
  Sp.congr (Sp.seq (β:=bR) (π:=(·.MJ)) (ok2:=fun x:bR=>nD d p x.MJ=0∧x.MM=d∧x.MG=p) (spI 2) fun e =>
  Sp.congr (Sp.seq (β:=bR) (π:=(·.MZ)) (ok2:=fun x:bR=>nD d p e=0∧x.MM=d∧x.MG=p∧x.MJ=e) EP fun c =>
  (xB (β:=bR) _ _ _).congr (ok':=fun x:bR=>(nD d p e=0∧x.MM=d∧x.MG=p∧x.MJ=e)∧x.MZ=c) (fun x=> ?_) (fun _ _=>rfl)) (fun x=> ?_) (fun _ _=>rfl)) (fun x=> ?_) (fun _ _=>rfl)) (fun x=> ?_) (fun _ _=>rfl)) (fun x=> ?_) (fun x _=>by simp only[AX,qN,NP])
 ·obtain⟨a1,a2,a3,a4⟩:=x
  simp only[bR.mk.injEq]
  exact⟨fun ⟨h,h1,h2,h3,h4⟩=>⟨⟨h,h1,h2,h3⟩,h4⟩,fun ⟨⟨h,h1,h2,h3⟩,h4⟩=>⟨h,h1,h2,h3,h4⟩⟩
 ·exact⟨fun ⟨_,h,h1,h2,h3⟩=>⟨⟨by rw[h3]; exact h,h1,h2⟩,h3⟩,fun ⟨⟨h,h1,h2⟩,h3⟩=>⟨trivial,by rw[← h3]; exact h,h1,h2,h3⟩⟩
 ·exact⟨fun ⟨h0,h,h1,h2⟩=>⟨⟨h0,by rw[h2]; exact h,h1⟩,h2⟩,fun ⟨⟨h0,h,h1⟩,h2⟩=>⟨h0,by rw[← h2]; exact h,h1,h2⟩⟩
 ·exact⟨fun ⟨h0,h,h1,h2⟩=>⟨⟨h0,h,by rw[h2]; exact h1⟩,h2⟩,fun ⟨⟨h0,h,h1⟩,h2⟩=>⟨h0,h,by rw[← h2]; exact h1,h2⟩⟩
 ·exact Iff.rfl
theorem Sp_add:Sp Iu AY (fun x=>okTx x.MM∧bm x.MG 8=true∧bm x.MJ 2=true∧yV x.MF∧om x.MM x.MG x.MJ x.MF=0):=by
 refine Sp.congr (Sp.seq (β:=bT) (π:=(·.MM)) (ok2:=fun x:bT=>bm x.MG 8=true∧bm x.MJ 2=true∧yV x.MF∧om x.MM x.MG x.MJ x.MF=0) pA fun d =>
  Sp.congr (Sp.seq (β:=bT) (π:=(·.MG)) (ok2:=fun x:bT=>bm x.MJ 2=true∧yV x.MF∧om d x.MG x.MJ x.MF=0∧x.MM=d) (spI 8) fun p =>
  Sp.congr (Sp.seq (β:=bT) (π:=(·.MJ)) (ok2:=fun x:bT=>yV x.MF∧om d p x.MJ x.MF=0∧x.MM=d∧x.MG=p) (spI 2) fun e =>
  Sp.congr (Sp.seq (β:=bT) (π:=(·.MF)) (ok2:=fun x:bT=>om d p e x.MF=0∧x.MM=d∧x.MG=p∧x.MJ=e) va fun l =>
  (xB (β:=bT) _ _ _).congr (ok':=fun x:bT=>(om d p e x.MF=0∧x.MM=d∧x.MG=p∧x.MJ=e)∧x.MF=l) (fun x=> ?_) (fun _ _=>rfl)) (fun x=> ?_) (fun _ _=>rfl)) (fun x=> ?_) (fun _ _=>rfl)) (fun x=> ?_) (fun _ _=>rfl)) (fun x=> ?_) (fun x _=>by simp only[AY,qN,j4,NP])
 ·obtain⟨a1,a2,a3,a4⟩:=x
  simp only[bT.mk.injEq]
  exact⟨fun ⟨h,h1,h2,h3,h4⟩=>⟨⟨by rw[h4]; exact h,h1,h2,h3⟩,h4⟩,fun ⟨⟨h,h1,h2,h3⟩,h4⟩=>⟨by rw[← h4]; exact h,h1,h2,h3,h4⟩⟩
 ·exact⟨fun ⟨h0,h,h1,h2,h3⟩=>⟨⟨h0,by rw[h3]; exact h,h1,h2⟩,h3⟩,fun ⟨⟨h0,h,h1,h2⟩,h3⟩=>⟨h0,by rw[← h3]; exact h,h1,h2,h3⟩⟩
 ·exact⟨fun ⟨h0,hk,h,h1,h2⟩=>⟨⟨h0,hk,by rw[h2]; exact h,h1⟩,h2⟩,fun ⟨⟨h0,hk,h,h1⟩,h2⟩=>⟨h0,hk,by rw[← h2]; exact h,h1,h2⟩⟩
 ·exact⟨fun ⟨h0,h,hk,h1,h2⟩=>⟨⟨h0,h,hk,by rw[h2]; exact h1⟩,h2⟩,fun ⟨⟨h0,h,hk,h1⟩,h2⟩=>⟨h0,h,hk,by rw[← h2]; exact h1,h2⟩⟩
 ·exact Iff.rfl
theorem Kc (v:Int):Sp (Iw v) zL (fun x=>okFx x.MM∧bm x.ML 4=true∧bm x.MG 8=true∧bm x.MJ 2=true∧fZ x.MM x.ML x.MG x.MJ v=0):=by
 refine Sp.congr (Sp.seq (β:=bb) (π:=(·.MM)) (ok2:=fun x:bb=>bm x.ML 4=true∧bm x.MG 8=true∧bm x.MJ 2=true∧fZ x.MM x.ML x.MG x.MJ v=0) (iK 2 QH QH) fun b =>
  Sp.congr (Sp.seq (β:=bb) (π:=(·.ML)) (ok2:=fun x:bb=>bm x.MG 8=true∧bm x.MJ 2=true∧fZ b x.ML x.MG x.MJ v=0∧x.MM=b) (spI 4) fun t =>
  Sp.congr (Sp.seq (β:=bb) (π:=(·.MG)) (ok2:=fun x:bb=>bm x.MJ 2=true∧fZ b t x.MG x.MJ v=0∧x.MM=b∧x.ML=t) (spI 8) fun p =>
  Sp.congr (Sp.seq (β:=bb) (π:=(·.MJ)) (ok2:=fun x:bb=>fZ b t p x.MJ v=0∧x.MM=b∧x.ML=t∧x.MG=p) (spI 2) fun e =>
  (xB (β:=bb) _ _ _).congr (ok':=fun x:bb=>(fZ b t p x.MJ v=0∧x.MM=b∧x.ML=t∧x.MG=p)∧x.MJ=e) (fun x=> ?_) (fun _ _=>rfl)) (fun x=> ?_) (fun _ _=>rfl)) (fun x=> ?_) (fun _ _=>rfl)) (fun x=> ?_) (fun _ _=>rfl)) (fun x=> ?_) (fun x _=>by simp only[zL,vB,NP])
 ·obtain⟨a1,a2,a3,a4⟩:=x
  simp only[bb.mk.injEq]
  exact⟨fun ⟨h,h1,h2,h3,h4⟩=>⟨⟨by rw[h4]; exact h,h1,h2,h3⟩,h4⟩,fun ⟨⟨h,h1,h2,h3⟩,h4⟩=>⟨by rw[← h4]; exact h,h1,h2,h3,h4⟩⟩
 ·exact⟨fun ⟨h0,h,h1,h2,h3⟩=>⟨⟨h0,by rw[h3]; exact h,h1,h2⟩,h3⟩,fun ⟨⟨h0,h,h1,h2⟩,h3⟩=>⟨h0,by rw[← h3]; exact h,h1,h2,h3⟩⟩
 ·exact⟨fun ⟨h0,hk,h,h1,h2⟩=>⟨⟨h0,hk,by rw[h2]; exact h,h1⟩,h2⟩,fun ⟨⟨h0,hk,h,h1⟩,h2⟩=>⟨h0,hk,by rw[← h2]; exact h,h1,h2⟩⟩
 ·exact⟨fun ⟨h0,h,hk,h1,h2⟩=>⟨⟨h0,h,hk,by rw[h2]; exact h1⟩,h2⟩,fun ⟨⟨h0,h,hk,h1⟩,h2⟩=>⟨h0,h,hk,by rw[← h2]; exact h1,h2⟩⟩
 ·exact Iff.rfl
theorem Kd (v:Int):Sp (Iv v) Co (fun x=>okFx x.MM∧bm x.ML 4=true∧fZ x.MM x.ML x.MG x.MJ v=0∧x.MG= -1∧x.MJ= -1):=by
 refine Sp.congr (Sp.seq (β:=bb) (π:=(·.MM)) (ok2:=fun x:bb=>bm x.ML 4=true∧fZ x.MM x.ML (-1) (-1) v=0∧x.MG= -1∧x.MJ= -1) (iK 2 QH QH) fun b =>
  Sp.congr (Sp.seq (β:=bb) (π:=(·.ML)) (ok2:=fun x:bb=>fZ b x.ML (-1) (-1) v=0∧x.MM=b∧x.MG= -1∧x.MJ= -1) (spI 4) fun t =>
  (xB (β:=bb) _ _ _).congr (ok':=fun x:bb=>(fZ b x.ML (-1) (-1) v=0∧x.MM=b∧x.MG= -1∧x.MJ= -1)∧x.ML=t) (fun x=> ?_) (fun _ _=>rfl)) (fun x=> ?_) (fun _ _=>rfl)) (fun x=> ?_) (fun x _=>by simp only[Co,vB,NP])
 ·obtain⟨a1,a2,a3,a4⟩:=x
  simp only[bb.mk.injEq]
  exact⟨fun ⟨h,h1,h2,h3,h4⟩=>⟨⟨by rw[h2]; exact h,h1,h3,h4⟩,h2⟩,fun ⟨⟨h,h1,h3,h4⟩,h2⟩=>⟨by rw[← h2]; exact h,h1,h2,h3,h4⟩⟩
 ·exact⟨fun ⟨h0,h,h1,h2,h3⟩=>⟨⟨h0,by rw[h1]; exact h,h2,h3⟩,h1⟩,fun ⟨⟨h0,h,h2,h3⟩,h1⟩=>⟨h0,by rw[← h1]; exact h,h1,h2,h3⟩⟩
 ·exact⟨fun ⟨h0,h,h1,h2,h3⟩=>⟨h0,h,by rw[h2,h3]; exact h1,h2,h3⟩,fun ⟨h0,h,h1,h2,h3⟩=>⟨h0,h,by rw[h2,h3] at h1; exact h1,h2,h3⟩⟩
theorem pE {d:List UInt8} (h:dE d=true):d.length≤32767∧d ≠ []:=by
 unfold dE at h
 simp only[Bool.and_eq_true,decide_eq_true_eq,Bool.not_eq_true'] at h
 refine⟨by omega,fun h0=> ?_⟩
 rw[h0] at h
 exact absurd h.1 QH
theorem nE {p e:Int} (h:who p e=true) (hp:wI p):bm p 8=true∧bm e 2=true:=by
 unfold who at h
 have h:=of_decide_eq_true h
 exact⟨by rw[Iq]; exact Nt hp,by rw[vc]; exact Nt QG⟩
theorem EY (t:List UInt8) (b:Bool) (ht:t.length≤1000000):iO (t,0) b=some (t++gI b,0):=by
 unfold iO
 cases b with
 | true =>
  rw[QK rfl,tT _ _ ⟨by decide,by decide,by simp only; omega⟩]
  rfl
 | false =>
  rw[QL QH,tT _ _ ⟨by decide,by decide,by simp only; omega⟩]
  rfl
theorem AZ (t:List UInt8) (e:Int):ka (t,0) e=some (if e=0 then (false,(t,0)) else (true,(t,e))):=by
 unfold ka
 by_cases h:e=0
 ·rw[QK h,QK h,Nr,QK h]
 ·rw[QL h,QL h,oF,Nr,Nr,QL h]
  rfl
theorem Cp (x:bR) (t:List UInt8) (hp:wI x.MG) (he:wI x.MJ) (ht:t.length≤900000):jo (t,0) x=some (if nD x.MM x.MG x.MJ=0 then (t++AX x,0) else (t,nD x.MM x.MG x.MJ)):=by
 unfold jo iy
 rw[Cl x he,Nr,AZ,Nr]
 by_cases hc:nD x.MM x.MG x.MJ=0
 ·rw[QK hc,QK hc,Nr]
  simp only
  have hk:dE x.MM=true:=by
   unfold nD at hc
   split at hc
   ·rename_i h; exact h
   ·exact absurd hc QH
  have hw:who x.MG x.MJ=true:=by
   unfold nD at hc
   rw[QK hk] at hc
   split at hc
   ·rename_i h; exact h
   ·exact absurd hc QH
  obtain⟨k1,_⟩:=pE hk
  obtain⟨f1,f2⟩:=nE hw hp
  rw[QL QH,si k1 QG,Nr,ec f1 (by simp only[Nv,av]; omega),Nr,ec f2 (by simp only[Nv,av]; omega),Nr,EY _ _ (by simp only[Nv,av]; omega),Nr]
  simp only[AX,qN,NA]
  rfl
 ·rw[QL hc,QL hc,Nr]
  rfl
theorem vd {l:List Top} (h:rM l=0):l ≠ []∧pC l=true:=by
 unfold rM at h
 split at h
 ·exact absurd h QH
 ·rename_i h1
  split at h
  ·rename_i h2
   exact⟨fun h0=>h1 (by rw[h0]; rfl),h2⟩
  ·exact absurd h QH
theorem zM {d:List UInt8} {p e:Int} {l:List Top} (hc:om d p e l=0):dE d=true∧who p e=true∧rM l=0:=by
 unfold om at hc
 split at hc
 ·rename_i h1
  split at hc
  ·rename_i h2; exact⟨h1,h2,hc⟩
  ·exact absurd hc QH
 ·exact absurd hc QH
theorem Cq (x:bT) (t:List UInt8) (hp:wI x.MG) (he:wI x.MJ) (hl:wTl x.MF) (hw2:wTs x.MF≤2000) (ht:t.length≤700000):jm (t,0) x=some (if om x.MM x.MG x.MJ x.MF=0 then (t++AY x,0) else (t,om x.MM x.MG x.MJ x.MF)):=by
 unfold jm iw
 rw[Cm x he hl,Nr,AZ,Nr]
 by_cases hc:om x.MM x.MG x.MJ x.MF=0
 ·rw[QK hc,QK hc,Nr]
  simp only
  obtain⟨hk,hw,hr⟩:=zM hc
  obtain⟨k1,_⟩:=pE hk
  obtain⟨f1,f2⟩:=nE hw hp
  rw[QL QH,si k1 QG,Nr,ec f1 (by simp only[Nv,av]; omega),Nr,ec f2 (by simp only[Nv,av]; omega),Nr,
   xH x.MF _ (AV (vd hr).2 hw2) (by simp only[Nv,av]; omega) hw2,Nr]
  simp only[AY,qN,j4,NA]
  rfl
 ·rw[QL hc,QL hc,Nr]
  rfl
theorem xJ {b:Bl} {t p e v:Int} (hc:fZ b t p e v=0):bw b=true∧(b.null=true∨dE b.data=true)∧(0≤t∧t≤2147483647)∧(p= -1∧e= -1∨v>0∧who p e=true):=by
 unfold fZ at hc
 split at hc
 ·rename_i h1
  split at hc
  ·rename_i h2
   simp only[Bool.and_eq_true,Bool.or_eq_true,tmB,Ck,decide_eq_true_eq] at h1 h2
   exact⟨h1.1,h1.2,h2.1,h2.2⟩
  ·exact absurd hc QH
 ·exact absurd hc QH
theorem EZ {b:Bl} (hb:bw b=true) (h:b.null=true∨dE b.data=true):bm (co b) 2=true∧b.data.length≤32767:=by
 unfold co
 rcases h with h | h
 ·have:b.data = []:=by unfold bw at hb; rw[h] at hb; simpa using hb
  rw[QK h,this]
  exact⟨by decide,by decide⟩
 ·obtain⟨k1,_⟩:=pE h
  refine⟨?_,k1⟩
  split
  ·decide
  ·rw[vc]; exact Nt QG
def yW (v:Int) (x:bb):List UInt8:=if v>0 then zL x else Co x
theorem sj (x:bb) (v:Int) (t:List UInt8) (hp:wI x.MG) (he:wI x.MJ) (hm:wI x.ML) (ht:t.length≤900000):gY (t,0) x v=some (if fZ x.MM x.ML x.MG x.MJ v=0 then (t++yW v x,0) else (t,fZ x.MM x.ML x.MG x.MJ v)):=by
 unfold gY
 rw[xI x v he hm,Nr,AZ,Nr]
 by_cases hc:fZ x.MM x.ML x.MG x.MJ v=0
 ·rw[QK hc,QK hc]
  simp only
  obtain⟨h1,h2,h3,h4⟩:=xJ hc
  obtain⟨f0,k1⟩:=EZ h1 h2
  have f4:bm x.ML 4=true:=by rw[eL]; exact Nt QG
  have f1:bm x.MG 8=true:=by rw[Iq]; exact Nt hp
  have f2:bm x.MJ 2=true:=by
   rcases h4 with h4 | h4
   ·rw[h4.2]; decide
   ·exact (nE h4.2 hp).2
  rw[QL QH,kw f0 h1 QG,Nr,ec f4 (by simp only[Nv,av]; omega),Nr]
  unfold yW
  by_cases hv:v>0
  ·rw[QK hv,QK hv,ec f1 (by simp only[Nv,av]; omega),Nr,ec f2 (by simp only[Nv,av]; omega),Nr,Nr]
   simp only[zL,vB,NA]
   rfl
  ·rw[QL hv,QL hv,Nr]
   simp only[Co,vB,NA]
   rfl
 ·rw[QL hc,QL hc]
  rfl
theorem zN (b:Bl):kq b=some (!b.null && dE b.data):=by
 unfold kq
 cases hb:b.null with
 | true=>rfl
 | false =>
  rw[QL QH]
  unfold dE
  by_cases h1:(b.data.length:Int)≥1
  ·rw[QK h1]
   have:b.data.isEmpty=false:=by cases hd:b.data with | nil=>rw[hd] at h1; exact absurd h1 QH | cons c l=>rfl
   by_cases h2:(b.data.length:Int)≤32767
   ·rw[QK h2,this,Nt h2]
    rfl
   ·rw[QL h2,this,Nu h2]
    rfl
  ·rw[QL h1]
   have:b.data = []:=List.eq_nil_of_length_eq_zero QG
   rw[this]
   rfl
theorem E0 (r:bF):lu r=some (who r.MG r.MJ):=by
 unfold lu who
 by_cases h1:r.MG≥0
 ·rw[QK h1]
  by_cases h2:r.MJ≥0
  ·rw[QK h2]
   by_cases h3:r.MJ≤32767
   ·rw[QK h3,Nt QG]
    rfl
   ·rw[QL h3,Nu QG]
    rfl
  ·rw[QL h2,Nu QG]
   rfl
 ·rw[QL h1,Nu QG]
  rfl
def chkR (k v:Int) (r:bF):Int:=if k=22 then fZ r.MM r.ML r.MG r.MJ v else if k=24 then om r.MM.data r.MG r.MJ r.MF else nD r.MM.data r.MG r.MJ
theorem ve (k v:Int) (hv:v=0∨v=1) (r:bF) (hn:k≠22→r.MM.null=false) (hl:r.MF.length≤1000000) (hx: ∀ t,t∈r.MF→t.MH.length≤1000000∧t.MO.length≤1000000):kr k v r=some (chkR k v r):=by
 unfold kr chkR
 by_cases hk:k=22
 ·rw[QK hk,QK hk,zN,E0]
  unfold fZ
  have h1:(if r.MM.null=true then (if r.MM.data = [] then some false else some true) else ((some (!r.MM.null && dE r.MM.data)).bind fun x13=>if x13=true then some false else some true))=some (!(bw r.MM && (r.MM.null || dE r.MM.data))):=by
   unfold bw
   cases r.MM.null with
   | true =>
    rw[QK rfl]
    by_cases hd:r.MM.data = []
    ·rw[QK hd,hd]; rfl
    ·rw[QL hd]
     simp[hd]
   | false=>cases dE r.MM.data <;> rfl
  have h2:(if r.ML<0 then some true else (if r.ML>2147483647 then some true else some false))=some (!tmB r.ML):=by
   unfold tmB
   by_cases a:r.ML<0
   ·rw[QK a,Nu QG]; rfl
   ·rw[QL a]
    by_cases b:r.ML>2147483647
    ·rw[QK b,Nu QG]; rfl
    ·rw[QL b,Nt QG]; rfl
  have h3:(if r.MG=(-1) then (if r.MJ=(-1) then some true else (if v=1 then ((some (who r.MG r.MJ)).bind fun x36=>some x36) else some false)) else (if v=1 then ((some (who r.MG r.MJ)).bind fun x39=>some x39) else some false))=some (Ck r.MG r.MJ || (decide (v>0) && who r.MG r.MJ)):=by
   unfold Ck
   rcases hv with rfl | rfl
   ·by_cases a:r.MG= -1 <;> by_cases b:r.MJ= -1 <;> simp[a,b]
   ·by_cases a:r.MG= -1 <;> by_cases b:r.MJ= -1 <;> simp[a,b]
  rw[h1,h2,h3]
  cases (bw r.MM && (r.MM.null || dE r.MM.data)) <;> cases tmB r.ML <;> cases (Ck r.MG r.MJ || (decide (v>0) && who r.MG r.MJ)) <;> rfl
 ·rw[QL hk,QL hk,zN,E0,hn hk]
  simp only[Bool.not_false,Bool.true_and]
  by_cases h4:k=24
  ·rw[QK h4,QK h4,QK h4,ET _ hl hx]
   unfold om rM
   by_cases h0:r.MF.length=0
   ·rw[QK QG,QK h0]
    cases dE r.MM.data <;> cases who r.MG r.MJ <;> rfl
   ·rw[QL QG,QL h0]
    cases dE r.MM.data <;> cases who r.MG r.MJ <;> cases pC r.MF <;> rfl
  ·rw[QL h4,QL h4,QL h4]
   unfold nD
   cases dE r.MM.data <;> cases who r.MG r.MJ <;> rfl
def gE (x:bR):bF:=⟨⟨false,x.MM⟩,0,x.MG,x.MJ,[],x.MZ⟩
def gA (x:bT):bF:=⟨⟨false,x.MM⟩,0,x.MG,x.MJ,x.MF,false⟩
def gB (x:bb):bF:=⟨x.MM,x.ML,x.MG,x.MJ,[],false⟩
def toE (r:bF):bR:=⟨r.MM.data,r.MG,r.MJ,r.MZ⟩
def toA (r:bF):bT:=⟨r.MM.data,r.MG,r.MJ,r.MF⟩
def toB (r:bF):bb:=⟨r.MM,r.ML,r.MG,r.MJ⟩
def Pr.map {α β:Type} (g:α→β) (p:Pr α):Pr β:=p.bind fun x=> .ret (g x)
theorem Sp.map {α β:Type} {p:Pr α} {enc:α→List UInt8} {ok:α→Prop} (g:α→β) (g':β→α) (hg: ∀ x,g' (g x)=x) (h:Sp p enc ok):Sp (p.map g) (fun y=>enc (g' y)) (fun y=>ok (g' y)∧g (g' y)=y):=by
 refine⟨fun s q y r hq hp=> ?_,fun s t q y hq hy hd=> ?_⟩
 ·obtain⟨x,m,h1,h2⟩:=Pr.bind_ok hp
  injection h2 with h2
  obtain⟨rfl,rfl⟩:=N2 h2
  obtain⟨a1,a2,a3,a4,a5⟩:=h.spell s q x m hq h1
  rw[hg x]
  exact⟨a1,a2,a3,a4,a5,rfl⟩
 ·have:=h.back s t q (g' y) hq hy.1 hd
  rw[Pr.map,Pr.bind_of this,hy.2]
  rfl
def encR (k v:Int) (r:bF):List UInt8:=if k=22 then yW v (toB r) else if k=24 then AY (toA r) else AX (toE r)
def zR:bF:=⟨⟨false,[]⟩,0,0,0,[],false⟩
noncomputable instance decTop:DecidableEq Top:=fun a b=>Classical.propDecidable (a=b)
theorem xK: ∀ (l m:List Top),kc l m=decide (l=m)
 | [],[]=>rfl
 | [],b::m=>by simp[kc]
 | a::l,[]=>by simp[kc]
 | a::l,b::m=>by
  rw[kc,xK l m]
  obtain⟨a1,a2⟩:=a
  obtain⟨b1,b2⟩:=b
  unfold Cg
  simp only
  by_cases h1:a1=b1 <;> by_cases h2:a2=b2 <;> by_cases h3:l=m <;> simp[h1,h2,h3]
noncomputable instance decMark:DecidableEq aQ:=fun a b=>Classical.propDecidable (a=b)
def toR (m:aQ):dj:=⟨m.MG,m.MJ,m.MZ,m.MF,m.MT⟩
theorem Fa: ∀ (l:List aQ) (acc:List dj),acc.length+l.length≤1000000→ic l acc=some (acc++l.map toR)
 | [],acc,_=>by rw[ic]; simp
 | m::l,acc,h=>by
  rw[NB] at h
  rw[ic,QK QG,Fa l _ (by rw[Nv,OI]; omega),List.map_cons,NA]
  rfl
theorem of_eq (l:List aQ) (h:l.length≤1000000):qo l=some (l.map toR):=by
 unfold qo
 rw[Fa l [] (by simpa using h)]
 rfl
def vf (v:Int) (m:aQ):Int:=if (who m.MG m.MJ && (tmB m.MT && !(decide (v=0) && decide (m.MT≠0))))=true then rM m.MF else 11
def lA (v:Int):List aQ→Int
 | []=>0
 | m::l=>if vf v m=0 then lA v l else vf v m
def nG (v:Int) (l:List aQ):Int:=if l.length=0 then 10 else lA v l
def okW (m:aQ):Prop:=wI m.MJ∧wI m.MT∧wTl m.MF
theorem Gx (v:Int) (m:aQ) (h:okW m):g7 m v=some (vf v m):=by
 obtain⟨h1,h2,h3⟩:=h
 unfold g7 vf
 rw[AW _ _ h1,Cj _ h3,Nr]
 have hc:(if m.MT<0 then some true else ((jM m.MT 4).bind fun x18=>if x18=true then (if v=0 then (if m.MT>0 then some true else some false) else some false) else some true))=some (!(tmB m.MT && !(decide (v=0) && decide (m.MT≠0)))):=by
  unfold tmB
  by_cases a:m.MT<0
  ·rw[QK a,Nu QG]; rfl
  ·rw[QL a,gi _ _ h2,eL,Nr]
   by_cases b:m.MT≤2147483647
   ·rw[QK (Nt QG),Nt QG]
    by_cases c:v=0
    ·rw[QK c,Nt c]
     by_cases d:m.MT>0
     ·rw[QK d,Nt QG]; rfl
     ·rw[QL d,Nu QG]; rfl
    ·rw[QL c,Nu c]; rfl
   ·rw[QL (by simp; omega),Nu QG]; rfl
 rw[hc]
 cases who m.MG m.MJ <;> cases (tmB m.MT && !(decide (v=0) && decide (m.MT≠0))) <;> rfl
theorem vC (v:Int) (y:Int): ∀ l:List aQ,(∀ m,m∈l→okW m)→fv v l y=some (if lA v l=0 then .go y else .ret (lA v l))
 | [],_=>rfl
 | m::l,h=>by
  rw[fv,Gx v m (h m (.head _)),Nr,lA]
  by_cases hc:vf v m=0
  ·rw[QK hc,QK hc,vC v y l (fun z hz=>h z (.tail _ hz))]
  ·rw[QL hc,QL hc,QL hc]
theorem DZ (v:Int) (l:List aQ) (h: ∀ m,m∈l→okW m):jC l v=some (nG v l):=by
 unfold jC nG
 by_cases h0:l.length=0
 ·rw[QK QG,QK h0]
 ·rw[QL QG,QL h0,vC v 0 l h]
  by_cases hc:lA v l=0
  ·rw[QK hc,hc]; rfl
  ·rw[QL hc]; rfl
theorem Ke (v:Int) (m:aQ) (hl:m.MF.length≤1000000) (hx: ∀ t,t∈m.MF→t.MH.length≤1000000∧t.MO.length≤1000000):oX (toR m) v=some (vf v m):=by
 unfold oX vf
 rw[ET (toR m).MF hl hx]
 have hc0:(if m.MG<0 then some true else (if m.MJ<0 then some true else (if m.MJ>32767 then some true else (if m.MT<0 then some true else (if m.MT>2147483647 then some true else (if v=0 then (if m.MT=0 then some false else some true) else some false))))))=some (!(who m.MG m.MJ && (tmB m.MT && !(decide (v=0) && decide (m.MT≠0))))):=by
  unfold who tmB
  by_cases a:m.MG<0
  ·rw[QK a,Nu (p:=0≤m.MG∧ _) QG]; rfl
  rw[QL a]
  by_cases b:m.MJ<0
  ·rw[QK b,Nu (p:=0≤m.MG∧ _) QG]; rfl
  rw[QL b]
  by_cases c:m.MJ>32767
  ·rw[QK c,Nu (p:=0≤m.MG∧ _) QG]; rfl
  rw[QL c,Nt (p:=0≤m.MG∧ _) QG]
  by_cases d:m.MT<0
  ·rw[QK d,Nu (p:=0≤m.MT∧ _) QG]; rfl
  rw[QL d]
  by_cases e:m.MT>2147483647
  ·rw[QK e,Nu (p:=0≤m.MT∧ _) QG]; rfl
  rw[QL e,Nt (p:=0≤m.MT∧ _) QG]
  by_cases f:v=0
  ·by_cases g:m.MT=0
   ·simp[f,g]
   ·simp[f,g]
  ·simp[f]
 have hc:(if (toR m).MG<0 then some true else (if (toR m).MJ<0 then some true else (if (toR m).MJ>32767 then some true else (if (toR m).MT<0 then some true else (if (toR m).MT>2147483647 then some true else (if v=0 then (if (toR m).MT=0 then some false else some true) else some false))))))=some (!(who m.MG m.MJ && (tmB m.MT && !(decide (v=0) && decide (m.MT≠0))))):=hc0
 rw[hc]
 have ht:(toR m).MF=m.MF:=rfl
 rw[ht]
 unfold rM
 by_cases h0:m.MF.length=0
 ·rw[QK h0,QK (show (m.MF.length:Int)=0 by omega)]
  cases (who m.MG m.MJ && (tmB m.MT && !(decide (v=0) && decide (m.MT≠0)))) <;> rfl
 ·rw[QL h0,QL (show ¬ (m.MF.length:Int)=0 by omega)]
  cases (who m.MG m.MJ && (tmB m.MT && !(decide (v=0) && decide (m.MT≠0)))) <;> cases pC m.MF <;> rfl
def okL (m:aQ):Prop:=m.MF.length≤1000000∧ ∀ t,t∈m.MF→t.MH.length≤1000000∧t.MO.length≤1000000
theorem rN (a:List dj) (v:Int) (hb:a.length≤1000000) (y:Int): ∀ (l:List aQ) (k fuel:Nat),a.drop k=l.map toR→l.length<fuel→(∀ m,m∈l→okL m)→ ∃ z,fa a v fuel y k=some (if lA v l=0 then .go (y,z) else .ret (lA v l))
 | [],k,fuel+1,h,_,_=>by
  have:=ff h
  exact⟨k,by rw[fa,QL QG]; rfl⟩
 | m::l,k,fuel+1,h,hf,ho=>by
  obtain⟨h1,h2,h3⟩:=dr h
  rw[NB] at hf
  have hm:=ho m (.head _)
  obtain⟨z,hz⟩:=rN a v hb y l (k+1) fuel h2 QG (fun z hz=>ho z (.tail _ hz))
  rw[fa,QK QG,h1,Nr,Ke v m hm.1 hm.2,Nr,lA]
  by_cases hc:vf v m=0
  ·rw[QK hc,QK QG,QK hc]
   exact⟨z,hz⟩
  ·rw[QL hc,QL hc]
   exact⟨0,by rw[QL hc]⟩
theorem Gy (v:Int) (l:List aQ) (hb:l.length≤1000000) (ho: ∀ m,m∈l→okL m):kt (l.map toR) v=some (nG v l):=by
 unfold kt nG
 rw[NN]
 by_cases h0:l.length=0
 ·rw[QK QG,QK h0]
 ·obtain⟨z,hz⟩:=rN (l.map toR) v (by rw[NN]; omega) 0 l 0 ((l.length:Int).toNat+1) (List.drop_zero) QG ho
  rw[QL QG,QL h0,hz]
  by_cases hc:lA v l=0
  ·rw[QK hc,hc]; rfl
  ·rw[QL hc]; rfl
def zO (v:Int):Pr aQ:=(fC 8).bind fun p=>(fC 2).bind fun e=>tu.bind fun c=>Cn.bind fun l=>(if v>0 then fC 4 else .ret 0).bind fun k=> .ret ⟨p,e,c,l,k⟩
def jJ (v:Int) (m:aQ):List UInt8:=be m.MG 8++(be m.MJ 2++(gI m.MZ++(j4 m.MF++(if v>0 then be m.MT 4 else []))))
def okM (v:Int) (m:aQ):Prop:=bm m.MG 8=true∧bm m.MJ 2=true∧yV m.MF∧(if v>0 then bm m.MT 4=true else m.MT=0)
theorem Sp_co (v:Int):Sp (if v>0 then fC 4 else Pr.ret 0) (fun k=>if v>0 then be k 4 else []) (fun k=>if v>0 then bm k 4=true else k=0):=by
 by_cases hv:v>0
 ·simp only[QK hv]
  exact spI 4
 ·simp only[QL hv]
  exact Ik 0
theorem Kf (v:Int):Sp (zO v) (jJ v) (okM v):=by
 refine Sp.congr (Sp.seq (β:=aQ) (π:=(·.MG)) (ok2:=fun x:aQ=>bm x.MJ 2=true∧yV x.MF∧(if v>0 then bm x.MT 4=true else x.MT=0)) (spI 8) fun p =>
  Sp.congr (Sp.seq (β:=aQ) (π:=(·.MJ)) (ok2:=fun x:aQ=>yV x.MF∧(if v>0 then bm x.MT 4=true else x.MT=0)∧x.MG=p) (spI 2) fun e =>
  Sp.congr (Sp.seq (β:=aQ) (π:=(·.MZ)) (ok2:=fun x:aQ=>yV x.MF∧(if v>0 then bm x.MT 4=true else x.MT=0)∧x.MG=p∧x.MJ=e) EP fun c =>
  Sp.congr (Sp.seq (β:=aQ) (π:=(·.MF)) (ok2:=fun x:aQ=>(if v>0 then bm x.MT 4=true else x.MT=0)∧x.MG=p∧x.MJ=e∧x.MZ=c) va fun l =>
  Sp.congr (Sp.seq (β:=aQ) (π:=(·.MT)) (ok2:=fun x:aQ=>x.MG=p∧x.MJ=e∧x.MZ=c∧x.MF=l) (Sp_co v) fun k =>
  (Ik (β:=aQ) _).congr (ok':=fun x:aQ=>(x.MG=p∧x.MJ=e∧x.MZ=c∧x.MF=l)∧x.MT=k) (fun x=> ?_) (fun _ _=>rfl)) (fun x=> ?_) (fun _ _=>rfl)) (fun x=> ?_) (fun _ _=>rfl)) (fun x=> ?_) (fun _ _=>rfl)) (fun x=> ?_) (fun _ _=>rfl)) (fun x=> ?_) (fun x _=>by simp only[jJ,j4,NP])
 ·obtain⟨a1,a2,a3,a4,a5⟩:=x
  simp only[aQ.mk.injEq]
  exact⟨fun ⟨h,h1,h2,h3,h4⟩=>⟨⟨h,h1,h2,h3⟩,h4⟩,fun ⟨⟨h,h1,h2,h3⟩,h4⟩=>⟨h,h1,h2,h3,h4⟩⟩
 ·exact⟨fun ⟨h,h1,h2,h3,h4⟩=>⟨⟨h,h1,h2,h3⟩,h4⟩,fun ⟨⟨h,h1,h2,h3⟩,h4⟩=>⟨h,h1,h2,h3,h4⟩⟩
 ·exact⟨fun ⟨h,h1,h2,h3,h4⟩=>⟨⟨h,h1,h2,h3⟩,h4⟩,fun ⟨⟨h,h1,h2,h3⟩,h4⟩=>⟨h,h1,h2,h3,h4⟩⟩
 ·exact⟨fun ⟨_,h,h1,h2,h3⟩=>⟨⟨h,h1,h2⟩,h3⟩,fun ⟨⟨h,h1,h2⟩,h3⟩=>⟨trivial,h,h1,h2,h3⟩⟩
 ·exact⟨fun ⟨h,h1,h2,h3⟩=>⟨⟨h,h1,h2⟩,h3⟩,fun ⟨⟨h,h1,h2⟩,h3⟩=>⟨h,h1,h2,h3⟩⟩
 ·exact Iff.rfl
theorem Kg (v:Int) (m:aQ) (h:okM v m):15≤(jJ v m).length:=by
 have:(gI m.MZ).length=1:=av _ _
 simp only[jJ,j4,Nv,av]
 omega
theorem tz (v:Int) (m:aQ):15+wTs m.MF≤(jJ v m).length∧(jJ v m).length≤19+wTs m.MF:=by
 have:(gI m.MZ).length=1:=av _ _
 have h2:=hO m.MF
 simp only[jJ,j4,Nv,av,h2]
 split <;> simp only[av,Ov] <;> omega
def zS (v:Int) (st11:I):Option (Option aQ×I):=(ed st11 8).bind fun (x20,st21)=>(ed st21 2).bind fun (x23,st24)=>(gM st24).bind fun (x26,st27)=>(dU st27).bind fun (x30,st33)=>(if v>0 then ((ed st33 4).bind fun (x43,st44)=>some (x43,st44)) else some (0,st33)).bind fun (y39,st40)=>if st40.err=0 then some (some ⟨x20,x23,x26,x30,y39⟩,st40) else some (none,st40)
theorem B_co (v:Int):CB (fun st33=>if v>0 then ((ed st33 4).bind fun (x43,st44)=>some (x43,st44)) else some (0,st33)) (if v>0 then fC 4 else Pr.ret 0) 0:=by
 by_cases hv:v>0
 ·simp only[QK hv]
  refine CB.congr Q4.cb (fun st=> ?_)
  cases ed st 4 <;> rfl
 ·simp only[QL hv]
  exact⟨fun _ _=>rfl,fun s q _ hq=> .inr ⟨0,q,rfl,rfl,NW _,hq⟩⟩
theorem w_co (v:Int): ∀ (s:List UInt8) (q:Nat) (a:Int) (r:Nat),s.length≤1000000→q≤s.length→(if v>0 then fC 4 else Pr.ret 0) s q= .ok (a,r)→wI a:=by
 intro s q a r hl hq h
 by_cases hv:v>0
 ·rw[QK hv] at h
  exact qM QH QH s q a r hl hq h
 ·rw[QL hv] at h
  injection h with h
  rw[← (N2 h).1]
  exact wi0
theorem Kh (v:Int):CB (zS v) ((zO v).map some) none:=by
 have h:CB (zS v) ((fC 8).bind fun p=>(fC 2).bind fun e=>tu.bind fun c=>Cn.bind fun l=>(if v>0 then fC 4 else .ret 0).bind fun k=> .ret (some ⟨p,e,c,l,k⟩)) none:=by
  refine CB.congr (CB.bind wI Q8.cb (qM QH QH) wi0 fun p hp=>CB.bind wI Q2.cb (qM QH QH) wi0 fun e he=>CB.bind (fun _=>True) Ir (fun _ _ _ _ _ _ _=>trivial) trivial fun c _=>CB.bind wTl Cf Is ⟨(fun t h=>nomatch h),by decide⟩ fun l hl=>CB.bind wI (B_co v) (w_co v) wi0 fun k hk =>
   (?_:CB (fun st40:I=>if st40.err=0 then some (some (⟨p,e,c,l,k⟩:aQ),st40) else some ((none:Option aQ),st40)) (Pr.ret (some (⟨p,e,c,l,k⟩:aQ))) none)) (fun st=>rfl)
  exact⟨fun st h=>QL h,fun s q _ hq=> .inr ⟨_,q,rfl,rfl,NW _,hq⟩⟩
 refine h.pr ?_
 funext s q
 unfold zO Pr.map Pr.bind
 cases fC 8 s q with
 | error e=>rfl
 | ok x =>
  simp only
  cases fC 2 s x.2 with
  | error e=>rfl
  | ok x =>
   simp only
   cases tu s x.2 with
   | error e=>rfl
   | ok x =>
    simp only
    cases Cn s x.2 with
    | error e=>rfl
    | ok x =>
     simp only
     cases (if v>0 then fC 4 else Pr.ret 0) s x.2 <;> rfl
theorem Pr.map_err {α β:Type} {p:Pr α} {g:α→β} {s:List UInt8} {q:Nat} {e:Int} (h:p.map g s q= .error e):p s q= .error e:=by
 unfold Pr.map Pr.bind at h
 cases hp:p s q with
 | error e' =>
  rw[hp] at h
  injection h with h
  rw[h]
 | ok x=>rw[hp] at h; exact nomatch h
theorem Pr.map_ok {α β:Type} {p:Pr α} {g:α→β} {s:List UInt8} {q r:Nat} {y:β} (h:p.map g s q= .ok (y,r)): ∃ a,p s q= .ok (a,r)∧y=g a:=by
 unfold Pr.map Pr.bind at h
 cases hp:p s q with
 | error e'=>rw[hp] at h; exact nomatch h
 | ok x =>
  rw[hp] at h
  injection h with h
  obtain⟨rfl,rfl⟩:=N2 h
  exact⟨x.1,rfl,rfl⟩
theorem D0 {γ:Type} (K:aQ→I→Option γ) (D:I→Option γ) (v:Int) (st:I) :
 ((ed st 8).bind fun (x20,st21)=>(ed st21 2).bind fun (x23,st24)=>(gM st24).bind fun (x26,st27)=>(dU st27).bind fun (x30,st33)=>(if v>0 then ((ed st33 4).bind fun (x43,st44)=>some (x43,st44)) else some (0,st33)).bind fun (y39,st40)=>(iQ st40).bind fun (x46,st47)=>if x46=0 then K ⟨x20,x23,x26,x30,y39⟩ st47 else D st47) =
 (zS v st).bind fun (o,st47)=>match o with
  | some m=>K m st47
  | none=>D st47:=by
 unfold zS
 cases ed st 8 with
 | none=>rfl
 | some x =>
  obtain⟨a1,s1⟩:=x
  simp only[Nr]
  cases ed s1 2 with
  | none=>rfl
  | some x =>
   obtain⟨a2,s2⟩:=x
   simp only[Nr]
   cases gM s2 with
   | none=>rfl
   | some x =>
    obtain⟨a3,s3⟩:=x
    simp only[Nr]
    cases dU s3 with
    | none=>rfl
    | some x =>
     obtain⟨a4,s4⟩:=x
     simp only[Nr]
     cases (if v>0 then ((ed s4 4).bind fun (x43,st44)=>some (x43,st44)) else some (0,s4)) with
     | none=>rfl
     | some x =>
      obtain⟨a5,s5⟩:=x
      simp only[Nr,bz]
      by_cases he:s5.err=0
      ·rw[QK he,QK he,Nr]
      ·rw[QL he,QL he,Nr]
theorem pF (v n:Int) (fuel:Nat) (y4 acc:List aQ) (k:Nat) (st:I) (hk:k≤1000000) (ha:acc.length≤1000000) :
 dv v n (fuel+1) y4 acc k st=if (k:Int)<n then (zS v st).bind fun (o,st47)=>match o with
  | some m=>dv v n fuel y4 (acc ++ [m]) (k+1) st47
  | none=>some (.ret ([],st47)) else some (.go (y4,acc,k,st)):=by
 rw[dv]
 by_cases h:(k:Int)<n
 case neg=>rw[QL h,QL h]
 rw[QK h,QK h]
 refine (D0 (fun m st47=>if (acc.length+1)*56≤140737488355328 then (if -9223372036854775808≤((k:Int)+1)∧((k:Int)+1)≤9223372036854775807 then dv v n fuel y4 (acc ++ [m]) (k+1) st47 else none) else none) (fun st47=>some (.ret ([],st47))) v st).trans ?_
 cases zS v st with
 | none=>rfl
 | some x =>
  obtain⟨o,s⟩:=x
  rw[Nr,Nr]
  cases o with
  | none=>rfl
  | some m =>
   show (if (acc.length+1)*56≤140737488355328 then _ else _)= _
   rw[QK QG,QK QG]
theorem xL (v n:Int) (s:List UInt8) (hs:s.length≤1000000) (y:List aQ): ∀ (m fuel k:Nat) (acc:List aQ) (q:Nat),((k+m:Nat):Int)=n→m<fuel→q≤s.length→acc.length=k→k+m≤1000000 →
 (∃ e st,jU (zO v) m s q= .error e∧e≠0∧st.err=e∧dv v n fuel y acc k ⟨s.drop q,q,0⟩=some (.ret ([],st)))∨(∃ l r,jU (zO v) m s q= .ok (l,r)∧dv v n fuel y acc k ⟨s.drop q,q,0⟩=some (.go (y,acc++l,k+m,⟨s.drop r,r,0⟩))∧q≤r∧r≤s.length)
 | 0,fuel+1,k,acc,q,hn,hf,hq,ha,hk=>by
  refine .inr ⟨[],q,rfl,?_,NW _,hq⟩
  rw[pF _ _ _ _ _ _ _ QG QG,QL QG,NP,Nat.add_zero]
 | m+1,fuel+1,k,acc,q,hn,hf,hq,ha,hk=>by
  rw[pF _ _ _ _ _ _ _ QG QG,QK QG]
  rcases (Kh v).run s q hs hq with⟨e,st,p1,g1,x1,y1⟩ | ⟨o,r,p1,g1,n1,l1⟩
  ·refine .inl ⟨e,st,?_,by rw[← x1]; exact y1,x1,?_⟩
   ·rw[jU,Pr.bind_err (Pr.map_err p1)]
   ·rw[g1]
    rfl
  ·obtain⟨a,p2,rfl⟩:=Pr.map_ok p1
   have ih:=xL v n s hs y m fuel (k+1) (acc ++ [a]) r QG QG l1 (by rw[Nv,OI,ha]) QG
   rw[g1,Nr]
   simp only
   rcases ih with⟨e,st,h1,h2,h3,h4⟩ | ⟨l,r',h1,h2,h3,h4⟩
   ·exact .inl ⟨e,st,by rw[jU,Pr.bind_of p2,Pr.bind_err h1],h2,h3,h4⟩
   ·refine .inr ⟨a::l,r',by rw[jU,Pr.bind_of p2,Pr.bind_of h1]; rfl,?_,by omega,h4⟩
    rw[h2,NA,show k+1+m=k+(m+1) by omega]
    rfl
def pMs (v:Int):Pr (List aQ):=mq 4 15 (zO v)
def tA (v:Int) (l:List aQ):List UInt8:=be (l.length:Int) 4++bd (jJ v) l
theorem Sp_ms (v:Int):Sp (pMs v) (tA v) (fun l=>bm (l.length:Int) 4=true∧ ∀ m,m∈l→okM v m):=xA 4 15 QH QH (Kf v) (Kg v)
def qO (v:Int):Pr (List aQ):=(pMs v).bind fun l=>if nG v l=0 then .ret l else .err (nG v l)
theorem Ix (v:Int):Sp (qO v) (tA v) (fun l=>(bm (l.length:Int) 4=true∧ ∀ m,m∈l→okM v m)∧nG v l=0):=by
 refine Sp.congr (Sp.seq (β:=List aQ) (π:=id) (ok2:=fun l:List aQ=>nG v l=0) (Sp_ms v) fun l=>(xB (β:=List aQ) _ _ _).congr (ok':=fun x:List aQ=>nG v x=0∧id x=l) (fun x=> ?_) (fun _ _=>rfl)) (fun x=>Iff.rfl) (fun x _=>by rw[NP]; rfl)
 exact⟨fun ⟨h1,h2⟩=>⟨by rw[h2]; exact h1,h2⟩,fun ⟨h1,h2⟩=>⟨by have h2:x=l:=h2; rw[← h2]; exact h1,h2⟩⟩
theorem Cr {l:List Top} (h:yV l) (hw:wTs l≤1000000):wTl l:=by
 have hn:=kX l
 refine⟨fun t ht=> ?_,by omega⟩
 have hm:=tw _ _ ht
 unfold wT at hm
 obtain⟨b1,b2,b3⟩:=h.2 t ht
 exact⟨by show t.MO.length≤ _; omega,by show t.MH.length≤ _; omega,fun n hn=>dY (b3 n hn)⟩
theorem okM_co {v:Int} {m:aQ} (h:okM v m):wI m.MT:=by
 have:=h.2.2.2
 split at this
 ·exact dY this
 ·rw[this]; exact wi0
theorem okM_W {v:Int} {m:aQ} (h:okM v m) (hw:wTs m.MF≤1000000):okW m:=⟨dY h.2.1,okM_co h,Cr h.2.2.1 hw⟩
theorem Gz (v:Int) (l:List aQ) (m:aQ) (hm:m∈l):wTs m.MF≤(tA v l).length:=by
 have h1:=pD (enc:=jJ v) l m hm
 have h2:=(tz v m).1
 rw[tA,Nv]
 omega
theorem Iy (l:List UInt8) (q:Nat) (e:Int):cj ⟨l,q,0⟩ e=some (⟨l,q,e⟩:I):=by rw[dz]; rfl
theorem Ki (v:Int):CB (fun st=>gy st v) (qO v) []:=by
 refine⟨fun st h=> ?_,fun s q hs hq=> ?_⟩
 ·show gy st v= _
  unfold gy
  rw[nB h ⟨by decide,by decide⟩ ⟨by decide,by decide⟩,Nr]
  simp only
  rw[show ((0:Int).toNat+1)=0+1 from rfl,pF _ _ _ _ _ _ _ QH QH,QL QH,Nr]
  simp only
  rw[bz,Nr]
  simp only
  rw[QL h]
 ·show (∃ e st,qO v s q= _∧gy _ v= _∧ _∧ _)∨(∃ a r,qO v s q= _∧gy _ v= _∧ _∧ _)
  unfold gy
  rcases (tt 4 15 QH QH 4 15 rfl rfl QH).run s q hq with⟨e,st,p1,g1,x1,y1⟩ | ⟨n,r,p1,g1,n1,l1⟩
  ·refine .inl ⟨e,st,?_,?_,x1,y1⟩
   ·rw[qO,Pr.bind_err (by rw[pMs,mq,Pr.bind_err p1])]
   ·rw[g1,Nr]
    simp only
    rw[show ((0:Int).toNat+1)=0+1 from rfl,pF _ _ _ _ _ _ _ QH QH,QL QH,Nr]
    simp only
    rw[bz,Nr]
    simp only
    rw[QL y1]
  ·obtain⟨c1,c2,c3,c4,c5,c6⟩:=mS QH QH hq p1
   have c2:=c2 QH
   rw[g1,Nr]
   simp only
   rcases xL v n s hs [] n.toNat (n.toNat+1) 0 [] r QG QG l1 rfl QG with⟨e,st,h1,h2,h3,h4⟩ | ⟨l,r',h1,h2,h3,h4⟩
   ·refine .inl ⟨e,st,?_,?_,h3,by rw[h3]; exact h2⟩
    ·rw[qO,Pr.bind_err (by rw[pMs,mq,Pr.bind_of p1,h1])]
    ·rw[h4]
     rfl
   ·have hms:pMs v s q= .ok (l,r'):=by rw[pMs,mq,Pr.bind_of p1,h1]
    obtain⟨b1,b2,b3,b4,b5,b6⟩:=(Sp_ms v).spell s q l r' hq hms
    have hW: ∀ m,m∈l→okW m:=fun m hm=>okM_W (b6 m hm) (by have:=Gz v l m hm; omega)
    rw[h2,Nr]
    simp only[NM]
    rw[bz,Nr]
    simp only[if_true]
    rw[DZ v l hW,Nr,qO,Pr.bind_of hms]
    by_cases hc:nG v l=0
    ·rw[QK hc,QK hc]
     exact .inr ⟨l,r',rfl,rfl,by omega,h4⟩
    ·rw[QL hc,QL hc,Iy]
     exact .inl ⟨nG v l,_,rfl,rfl,rfl,hc⟩
theorem vD (v:Int): ∀ (l:List aQ) (t:List UInt8),(∀ m,m∈l→okM v m∧wTs m.MF≤2000)→t.length+(bd (jJ v) l).length≤800000→eI v l (t,0)=some (t++bd (jJ v) l,0)
 | [],t,_,_=>by rw[eI,bd,NP]
 | m::l,t,h,ht=>by
  obtain⟨⟨o1,o2,o3,o4⟩,hw⟩:=h m (.head _)
  rw[bd,Nv] at ht
  have hl:=(tz v m).1
  have hb:(gI m.MZ).length=1:=av _ _
  rw[eI,ec o1 QG,Nr,ec o2 (by rw[Nv,av]; omega),Nr,EY _ _ (by rw[Nv,Nv,av,av]; omega),Nr,
   xH m.MF _ o3.2 (by rw[Nv,Nv,Nv,av,av,hb]; omega) hw,Nr]
  have ih:=fun t' (h':t'.length+(bd (jJ v) l).length≤800000)=>vD v l t' (fun z hz=>h z (.tail _ hz)) h'
  have htl:(j4 m.MF).length=4+wTs m.MF:=by rw[j4,Nv,av,hO]
  by_cases hv:v>0
  ·rw[QK hv] at o4
   have e:jJ v m=be m.MG 8++(be m.MJ 2++(gI m.MZ++(j4 m.MF++be m.MT 4))):=by rw[jJ,QK hv]
   have el:(jJ v m).length=8+(2+(1+(4+wTs m.MF+4))):=by rw[e]; simp only[Nv,av,hb,htl]
   rw[QK hv,ec o4 (by simp only[Nv,av,hb,hO]; omega),Nr,Nr,ih _ (by simp only[Nv,av,hb,hO,show (8:Int).toNat=8 from rfl,show (2:Int).toNat=2 from rfl,show (4:Int).toNat=4 from rfl]; omega),bd,e]
   simp only[j4,NA]
   rfl
  ·have e:jJ v m=be m.MG 8++(be m.MJ 2++(gI m.MZ++j4 m.MF)):=by rw[jJ,QL hv,NP]
   have el:(jJ v m).length=8+(2+(1+(4+wTs m.MF))):=by rw[e]; simp only[Nv,av,hb,htl]
   rw[QL hv,Nr,ih _ (by simp only[Nv,av,hb,hO,show (8:Int).toNat=8 from rfl,show (2:Int).toNat=2 from rfl]; omega),bd,e]
   simp only[j4,NA]
   rfl
theorem GA {v:Int} {m:aQ} (h:vf v m=0):who m.MG m.MJ=true∧(0≤m.MT∧m.MT≤2147483647)∧(v=0→m.MT=0)∧rM m.MF=0:=by
 unfold vf at h
 split at h
 ·rename_i h1
  simp only[Bool.and_eq_true,tmB,decide_eq_true_eq,Bool.not_eq_true',Bool.and_eq_false_iff,decide_eq_false_iff_not] at h1
  refine⟨h1.1,h1.2.1,fun hv=> ?_,h⟩
  rcases h1.2.2 with h2 | h2
  ·exact absurd hv h2
  ·exact Classical.byContradiction h2
 ·exact absurd h QH
theorem vE {v:Int}: ∀ {l:List aQ},lA v l=0→ ∀ m,m∈l→vf v m=0
 | a::l,h,m,hm=>by
  rw[lA] at h
  by_cases hc:vf v a=0
  ·rw[QK hc] at h
   rcases List.mem_cons.1 hm with rfl | hm
   ·exact hc
   ·exact vE h m hm
  ·rw[QL hc] at h
   exact absurd h hc
theorem Kj {v:Int} (hv:v=0∨v=1) {m:aQ} (h:vf v m=0) (hp:wI m.MG) (hw:wTs m.MF≤2000):okM v m:=by
 obtain⟨h1,h2,h3,h4⟩:=GA h
 obtain⟨f1,f2⟩:=nE h1 hp
 refine⟨f1,f2,⟨by rw[eL]; exact Nt (by have:=kX m.MF; omega),AV (vd h4).2 hw⟩,?_⟩
 rcases hv with rfl | rfl
 ·rw[QL QH]; exact h3 rfl
 ·rw[QK QH,eL]; exact Nt QG
theorem vg (v:Int): ∀ (l:List aQ) (b:Nat),(∀ m,m∈l→wTs m.MF≤b)→(bd (jJ v) l).length≤l.length*(19+b)
 | [],_,_=>by simp[bd]
 | m::l,b,h=>by
  have h1:=(tz v m).2
  have h2:=h m (.head _)
  have h3:=vg v l b (fun z hz=>h z (.tail _ hz))
  rw[bd,Nv,NB,Nat.add_mul]
  omega
theorem zT (v:Int) (hv:v=0∨v=1) (a:List dj) (hb:a.length≤1000000): ∀ (l:List aQ) (t:List UInt8) (k fuel:Nat),a.drop k=l.map toR→l.length<fuel→(∀ m,m∈l→wI m.MG∧wI m.MJ∧wI m.MT∧(∀ x,x∈m.MF→kV x)∧wTs m.MF≤2000)→t.length+(bd (jJ v) l).length≤900000→ ∃ z,fb a v fuel t k=some (t++bd (jJ v) l,z)
 | [],t,k,fuel+1,h,_,_,_=>by
  have:=ff h
  exact⟨k,by rw[fb,QL QG,bd,NP]⟩
 | m::l,t,k,fuel+1,h,hf,hw,ht=>by
  obtain⟨h1,h2,h3⟩:=dr h
  rw[NB] at hf
  obtain⟨w1,w2,w3,w4,w5⟩:=hw m (.head _)
  rw[bd,Nv] at ht
  have hl:=tz v m
  have hb1: ∀ n,(be n 1).length=1:=fun n=>av n 1
  have hb8: ∀ n,(be n 8).length=8:=fun n=>av n 8
  have hb2: ∀ n,(be n 2).length=2:=fun n=>av n 2
  have hb4: ∀ n,(be n 4).length=4:=fun n=>av n 4
  have htl:(be (m.MF.length:Int) 4++bd kW m.MF).length=4+wTs m.MF:=by rw[Nv,av,hO]
  have ih:=fun t' (h':t'.length+(bd (jJ v) l).length≤900000)=>zT v hv a hb l t' (k+1) fuel h2 QG (fun z hz=>hw z (.tail _ hz)) h'
  have hcm:(if (toR m).MZ=true then some (1:Int) else some 0)=some (if m.MZ=true then 1 else 0):=by
   show (if m.MZ=true then some (1:Int) else some 0)= _
   cases m.MZ <;> rfl
  have hci: -9223372036854775808≤(if m.MZ=true then (1:Int) else 0)∧(if m.MZ=true then (1:Int) else 0)≤9223372036854775807:=by cases m.MZ <;> decide
  rw[fb,QK QG,h1,Nr,hcm,Nr,bO (toR m).MG _ ⟨w1,by decide,by decide⟩,Nr,show (8:Int).toNat=8 from rfl,QK (by rw[hb8]; omega),bO (toR m).MJ _ ⟨w2,by decide,by decide⟩,Nr,show (2:Int).toNat=2 from rfl,QK (by rw[Nv,hb8,hb2]; omega),
   bO _ _ ⟨hci,by decide,by decide⟩,Nr,show (1:Int).toNat=1 from rfl,QK (by rw[Nv,Nv,hb8,hb2,hb1]; omega),show (toR m).MF=m.MF from rfl,EW _ w4 w5,Nr,QK (by rw[Nv,Nv,Nv,hb8,hb2,hb1,htl]; omega)]
  rcases hv with rfl | rfl
  ·have e:jJ 0 m=be m.MG 8++(be m.MJ 2++(gI m.MZ++j4 m.MF)):=by rw[jJ,QL QH,NP]
   have el:(jJ 0 m).length=8+(2+(1+(4+wTs m.MF))):=by rw[e,j4,gI]; simp only[Nv,hb8,hb2,hb1,hb4,hO]
   obtain⟨z,hz⟩:=ih ((((t++be (toR m).MG 8)++be (toR m).MJ 2)++be (if m.MZ=true then 1 else 0) 1)++(be (m.MF.length:Int) 4++bd kW m.MF)) (by rw[Nv,Nv,Nv,Nv,hb8,hb2,hb1,htl]; omega)
   rw[QL QH,Nr,QK QG]
   refine⟨z,hz.trans ?_⟩
   rw[bd,e,j4,gI]
   simp only[NA]
   rfl
  ·have e:jJ 1 m=be m.MG 8++(be m.MJ 2++(gI m.MZ++(j4 m.MF++be m.MT 4))):=by rw[jJ,QK QH]
   have el:(jJ 1 m).length=8+(2+(1+(4+wTs m.MF+4))):=by rw[e,j4,gI]; simp only[Nv,hb8,hb2,hb1,hb4,hO]
   obtain⟨z,hz⟩:=ih (((((t++be (toR m).MG 8)++be (toR m).MJ 2)++be (if m.MZ=true then 1 else 0) 1)++(be (m.MF.length:Int) 4++bd kW m.MF))++be (toR m).MT 4) (by rw[Nv,Nv,Nv,Nv,Nv,hb8,hb2,hb1,htl,hb4]; omega)
   rw[QK rfl,bO (toR m).MT _ ⟨w3,by decide,by decide⟩,Nr,show (4:Int).toNat=4 from rfl,QK (by rw[Nv,Nv,Nv,Nv,hb8,hb2,hb1,htl,hb4]; omega),Nr,QK QG]
   refine⟨z,hz.trans ?_⟩
   rw[bd,e,j4,gI]
   simp only[NA]
   rfl
theorem GB (v:Int) (hv:v=0∨v=1) (l:List aQ) (hl:l.length≤100000) (hw: ∀ m,m∈l→wI m.MG∧wI m.MJ∧wI m.MT∧(∀ x,x∈m.MF→kV x)∧wTs m.MF≤2000) (ht:(bd (jJ v) l).length≤800000):jl (l.map toR) v=some (tA v l):=by
 unfold jl
 obtain⟨z,hz⟩:=zT v hv (l.map toR) (by rw[NN]; omega) l (be (l.length:Int) 4) 0 ((l.length:Int).toNat+1) List.drop_zero QG hw (by rw[av]; omega)
 rw[NN,bO _ _ ⟨by omega,by decide,by decide⟩,Nr,show (4:Int).toNat=4 from rfl,hz]
 rfl
theorem tB (a b:List dj) (h0:a.length≤1000000) (y:Bool): ∀ (l u:List aQ) (k fuel:Nat),(∀ m,m∈l→m.MF.length≤1000000∧ ∀ t,t∈m.MF→t.MH.length≤140737488355328)→a.drop k=l.map toR→b.drop k=u.map toR→l.length=u.length→l.length<fuel→ ∃ z,fL a b fuel y k=some (if l=u then .go (y,z) else .ret false)
 | [],[],k,fuel+1,_,ha,_,_,_=>by
  have:=ff ha
  exact⟨k,by rw[fL,QL QG,QK rfl]⟩
 | [],d::u,k,fuel,_,_,_,hl,_=>by simp at hl
 | c::l,[],k,fuel,_,_,_,hl,_=>by simp at hl
 | c::l,d::u,k,fuel+1,hx,ha,hb,hl,hf=>by
  obtain⟨t1,t2,t3⟩:=dr ha
  obtain⟨u1,u2,u3⟩:=dr hb
  simp only[NB] at hl hf
  obtain⟨z,hz⟩:=tB a b h0 y l u (k+1) fuel (fun m hm=>hx m (.tail _ hm)) t2 u2 QG QG
  have hc:=hx c (.head _)
  rw[fL,QK QG,t1,Nr,u1,Nr]
  have hq:(if (toR c).MG=(toR d).MG then (if (toR c).MJ=(toR d).MJ then (if (toR c).MZ=true then (if (toR d).MZ=true then (if (toR c).MT=(toR d).MT then ((dc (toR c).MF (toR d).MF).bind fun x58=>if x58=true then some false else some true) else some true) else some true) else (if (toR d).MZ=true then some true else (if (toR c).MT=(toR d).MT then ((dc (toR c).MF (toR d).MF).bind fun x63=>if x63=true then some false else some true) else some true))) else some true) else some true)=some (!decide (c=d)):=by
   rw[Ch (toR c).MF _ hc.1 hc.2,xK]
   obtain⟨a1,a2,a3,a4,a5⟩:=c
   obtain⟨b1,b2,b3,b4,b5⟩:=d
   simp only[aQ.mk.injEq,Nr,toR]
   by_cases h1:a1=b1 <;> by_cases h2:a2=b2 <;> by_cases h4:a4=b4 <;> by_cases h5:a5=b5 <;> cases a3 <;> cases b3 <;> simp[h1,h2,h4,h5]
  rw[hq,Nr]
  by_cases hcd:c=d
  ·rw[Nt hcd,QL QH,QK QG]
   refine⟨z,hz.trans ?_⟩
   by_cases hlu:l=u
   ·rw[QK hlu,QK (by rw[hcd,hlu])]
   ·rw[QL hlu,QL (fun h=>hlu (List.cons.inj h).2)]
  ·rw[Nu hcd,QK QH]
   exact⟨0,by rw[QL (fun h=>hcd (List.cons.inj h).1)]⟩
theorem Cs (l u:List aQ) (h0:l.length≤1000000) (hx: ∀ m,m∈l→m.MF.length≤1000000∧ ∀ t,t∈m.MF→t.MH.length≤140737488355328):j9 (l.map toR) (u.map toR)=some (decide (l=u)):=by
 unfold j9
 rw[NN,NN]
 by_cases hl:(l.length:Int)=(u.length:Int)
 ·obtain⟨z,hz⟩:=tB (l.map toR) (u.map toR) (by rw[NN]; omega) false l u 0 ((l.length:Int).toNat+1) hx List.drop_zero List.drop_zero QG QG
  rw[QK hl,hz]
  by_cases h:l=u
  ·rw[QK h,Nt h]; rfl
  ·rw[QL h,Nu h]; rfl
 ·rw[QL hl,Nu (fun h=>hl (by rw[h]))]
theorem xM (y:Int): ∀ l:List aQ,(∀ m,m∈l→ob m)→gl l y=some (.ret 0)∨(gl l y=some (.go y)∧ ∀ m,m∈l→wTs m.MF≤1000)
 | [],_=> .inr ⟨rfl,fun m h=>nomatch h⟩
 | a::l,h=>by
  rw[gl]
  rcases In a.MF (h a (.head _)).2.2.2.1.2 with g | ⟨g,hw⟩
  ·rw[g]; exact .inl rfl
  ·rw[g,Nr,QL QH]
   rcases xM y l (fun m hm=>h m (.tail _ hm)) with k | ⟨k,hk⟩
   ·exact .inl k
   ·refine .inr ⟨k,fun m hm=> ?_⟩
    rcases List.mem_cons.1 hm with rfl | hm
    ·exact hw
    ·exact hk m hm
theorem few19 (l:List aQ) (h: ∀ m,m∈l→ob m):mM l=some 0∨(mM l=some 1∧l.length≤20∧ ∀ m,m∈l→wTs m.MF≤1000):=by
 unfold mM
 by_cases hl:(l.length:Int)>20
 ·rw[QK hl]; exact .inl rfl
 rw[QL hl]
 rcases xM 0 l h with k | ⟨k,hk⟩
 ·rw[k]; exact .inl rfl
 ·rw[k]; exact .inr ⟨rfl,by omega,hk⟩
theorem cA {α:Type} {l:List α} {k:Nat} {x:α} {t:List α} (h:l.drop k=x::t):l[k]? = some x∧l.drop (k+1)=t∧l.length=k+1+t.length:=by
 have hl:=congrArg List.length h
 rw[NI,NB] at hl
 refine⟨?_,?_,by omega⟩
 ·have:=congrArg (fun z=>z[0]?) h
  simpa using this
 ·rw[← Ol,h]
  rfl
theorem di {α:Type} {l:List α} {k:Nat} (h:l.drop k = []):l.length≤k:=List.drop_eq_nil_iff.1 h
def qP (l:List Hd):Bool:=l.all fun h=>bw h.MV
def gb (r:Rec):Int:=if r.M1<0∨r.M1>2147483647 then 11 else if (bw r.M4 && bw r.MV && qP r.MU)=true then 0 else 4
theorem vF (y:Bool): ∀ l:List Bl,ea l y=some (if l.all bw=true then .go y else .ret false)
 | []=>rfl
 | b::l=>by
  rw[ea,qZ,Nr,List.all_cons,vF y l]
  cases bw b <;> rfl
theorem zU (l:List Bl):gf l=some (l.all bw):=by
 unfold gf
 rw[vF]
 cases l.all bw <;> rfl
theorem vG (y:Int): ∀ l:List Hd,ew l y=some (if qP l=true then .go y else .ret 4)
 | []=>rfl
 | h::l=>by
  rw[ew,zU,Nr,vG y l]
  unfold qP
  rw[List.all_cons,List.all_cons,List.all_nil,Bool.and_true]
  cases bw h.MV <;> rfl
theorem pG (r:Rec) (hw:wI r.M1):fV r=some (gb r):=by
 unfold fV gb
 by_cases h:r.M1<0
 ·rw[QK h,QK (.inl h)]
 rw[QL h,gi _ _ hw,eL,Nr]
 by_cases h2:r.M1>2147483647
 ·rw[QL (by simp; omega),QK (.inr h2)]
 rw[QK (by simp; omega),QL QG,zU,Nr,vG]
 simp only[List.all_cons,List.all_nil,Bool.and_true]
 cases bw r.M4 <;> cases bw r.MV <;> cases qP r.MU <;> rfl
theorem Iz (b:Bl):mO b=some (!bw b):=by
 unfold mO bw
 obtain⟨n,d⟩:=b
 cases n
 ·rfl
 ·cases d <;> simp
theorem Ct (a0:List Hd) (hb:a0.length≤1000000) (y:Bool): ∀ (l:List Hd) (k fuel:Nat),a0.drop k=l→l.length<fuel→ ∃ z,ek a0 fuel y k=some (if qP l=true then .go (y,z) else .ret false)
 | [],k,fuel+1,h,hf=>by
  have:=di h
  exact⟨k,by rw[ek,QL QG]; rfl⟩
 | x::l,k,fuel+1,h,hf=>by
  obtain⟨h1,h2,h3⟩:=cA h
  rw[NB] at hf
  obtain⟨z,hz⟩:=Ct a0 hb y l (k+1) fuel h2 QG
  rw[ek,QK QG,h1,Nr]
  have e:qP (x::l)=(bw x.MV && qP l):=rfl
  rw[e]
  by_cases hn:x.MV.null=true
  ·rw[QK hn]
   by_cases hd:x.MV.data = []
   ·rw[QK hd,QK QG,hz]
    have:bw x.MV=true:=by unfold bw; rw[hd]; simp
    rw[this,Bool.true_and]
    exact⟨z,rfl⟩
   ·rw[QL hd]
    have:bw x.MV=false:=by unfold bw; rw[hn]; simp[hd]
    rw[this]
    exact⟨0,rfl⟩
  ·rw[QL hn,QK QG,hz]
   have:bw x.MV=true:=by unfold bw; simp[hn]
   rw[this,Bool.true_and]
   exact⟨z,rfl⟩
theorem GC (a0:List Hd) (hb:a0.length≤1000000):lS a0=some (qP a0):=by
 unfold lS
 obtain⟨z,hz⟩:=Ct a0 hb false a0 0 (((a0.length:Int)).toNat+1) rfl QG
 rw[hz]
 cases qP a0 <;> rfl
theorem GD (r:Rec) (hb:r.MU.length≤1000000):kn r=some (gb r):=by
 unfold kn gb
 by_cases h:r.M1<0
 ·rw[QK h,QK (.inl h)]
 rw[QL h]
 by_cases h2:r.M1>2147483647
 ·rw[QK h2,QK (.inr h2)]
 rw[QL h2,QL QG,Iz,Iz,GC _ hb]
 cases bw r.M4 <;> cases bw r.MV <;> cases qP r.MU <;> rfl
theorem xN (l:List UInt8) (p:Nat) (h:2≤l.length):fp ⟨l,p,0⟩ 2=(eh (l.take 2),⟨l.drop 2,p+2,0⟩):=As l p 2 QH QH h
theorem IA (l:List UInt8) (p:Nat) (h:4≤l.length):fp ⟨l,p,0⟩ 4=(eh (l.take 4),⟨l.drop 4,p+4,0⟩):=As l p 4 QH QH h
theorem qQ (l:List UInt8) (p:Nat) (h:l.length<2):fp ⟨l,p,0⟩ 2=(0,⟨l,p,1⟩):=rW l p 2 QH QH QG
theorem Cu (l:List UInt8) (p:Nat) (h:l.length<4):fp ⟨l,p,0⟩ 4=(0,⟨l,p,1⟩):=rW l p 4 QH QH QG
theorem Ba (l:List UInt8) (p:Nat) (e n:Int) (h:e≠0):fp ⟨l,p,e⟩ n=(0,⟨l,p,e⟩):=oE (st:=⟨l,p,e⟩) h n
theorem iL (l:List UInt8) (p:Nat) (e:Int) (h:e≠0):fR ⟨l,p,e⟩=⟨l,p,e⟩:=wz (st:=⟨l,p,e⟩) h
theorem Fb (l:List UInt8) (p:Nat) (e f:Int) (h:e≠0):dx ⟨l,p,e⟩ f=⟨l,p,e⟩:=tQ (st:=⟨l,p,e⟩) h f
theorem wj (l:List UInt8) (p:Nat) (f:Int):dx ⟨l,p,0⟩ f=⟨l,p,f⟩:=by simp[dx]
theorem Cv (l:List UInt8) (p:Nat):fR ⟨l,p,0⟩=⟨l,p,if l = [] then 0 else 2⟩:=by unfold fR; split <;> simp_all [dx]
theorem tC {l:List UInt8} {n:Nat} (h:n≤l.length):l.drop n = [] ↔ ¬ (l.length:Int)>n:=by rw[List.drop_eq_nil_iff]; omega
theorem IB (l:List UInt8) (hl:l.length≤9223372036854775807):eu l=jY l:=by
 unfold eu jY dJ
 simp only[lF l QG,kA,gU,dz,Nr]
 by_cases h2:l.length<2
 ·have h2i:(l.length:Int)<2:=by omega
  simp[qQ l 0 h2,Ba,iL,Fb,h2i]
 have h2i: ¬ (l.length:Int)<2:=by omega
 have h2j:2≤(l.length:Int):=by omega
 rw[xN l 0 QG,QL h2i,QK (show 2≤l.length by omega),sN _ (by simp; omega)]
 simp only[Nr]
 by_cases h0:eh (l.take 2)=0
 ·rw[QK h0,QK h0]
  simp only[Nr]
  by_cases h4:l.length<4
  ·have h4i:(l.length:Int)<4:=by omega
   simp[qQ (l.drop 2) (0+2) (by simp; omega),iL,h4i]
  have h4i: ¬ (l.length:Int)<4:=by omega
  rw[xN _ _ (by simp; omega),QL h4i,QK (show 4≤l.length by omega),sN _ (by simp; omega)]
  simp only[Nr,Ol,Cv,wj]
  have hd:=tC (l:=l) (n:=4) QG
  generalize eh ((l.drop 2).take 2)=k
  by_cases h5:(l.length:Int)>4
  ·have hd2: ¬ l.drop (2+2) = []:=fun h=>(hd.1 h) h5
   by_cases k0:k=0
   ·simp[hd2,h5,iL,k0]
   ·by_cases k1:k=1 <;> simp[hd2,h5,iL,k0,k1]
  ·have hd2:l.drop (2+2) = []:=hd.2 h5
   by_cases k0:k=0
   ·simp[hd2,h5,iL,k0]
   ·by_cases k1:k=1 <;> simp[hd2,h5,iL,k0,k1]
 ·rw[QL h0,QL h0]
  simp[wj,Ba,iL]
theorem D1 (l:List UInt8) (hl:l.length≤9223372036854775807):dH l=iF l:=by
 unfold dH iF dJ
 simp only[lF l QG,kA,gU,dz,Nr]
 by_cases h2:l.length<2
 ·have h2i:(l.length:Int)<2:=by omega
  simp[qQ l 0 h2,Ba,iL,Fb,h2i]
 have h2i: ¬ (l.length:Int)<2:=by omega
 have h2j:2≤(l.length:Int):=by omega
 rw[xN l 0 QG,QL h2i,QK (show 2≤l.length by omega),sN _ (by simp; omega)]
 simp only[Nr]
 by_cases h0:eh (l.take 2)=0
 ·rw[QK h0,QK h0]
  simp only[Nr]
  by_cases h4:l.length<6
  ·have h4i:(l.length:Int)<6:=by omega
   simp[Cu (l.drop 2) (0+2) (by simp; omega),iL,h4i]
  have h4i: ¬ (l.length:Int)<6:=by omega
  rw[IA _ _ (by simp; omega),QL h4i,QK (show 6≤l.length by omega),sN _ (by simp; omega)]
  simp only[Nr,Ol,Cv,wj]
  have hd:=tC (l:=l) (n:=6) QG
  generalize eh ((l.drop 2).take 4)=k
  by_cases h5:(l.length:Int)>6
  ·have hd2: ¬ l.drop (2+4) = []:=fun h=>(hd.1 h) h5
   by_cases k0:k<0 <;> simp[hd2,h5,iL,k0]
  ·have hd2:l.drop (2+4) = []:=hd.2 h5
   by_cases k0:k<0 <;> simp[hd2,h5,iL,k0]
 ·rw[QL h0,QL h0]
  simp[wj,Ba,iL]
theorem Bb (r:Rec) (h1:r.M4.data.length≤9223372036854775807) (h2:r.MV.data.length≤9223372036854775807):dV r=je r:=by
 unfold dV je
 rw[IB _ h1,D1 _ h2]
def gc:List Rec→Int
 | []=>0
 | r::l=>if gb r=0 then gc l else gb r
theorem zV (y:Int): ∀ l:List Rec,(∀ r,r∈l→wI r.M1)→eN l y=some (if gc l=0 then .go y else .ret (gc l))
 | [],h=>rfl
 | r::l,h=>by
  rw[eN,pG _ (h r (.head _)),Nr,zV y l (fun x hx=>h x (.tail _ hx)),gc]
  by_cases hr:gb r=0
  ·rw[QK hr,QK hr]
  ·rw[QL hr,QL hr,QL hr]
theorem zW (y:Int): ∀ l:List Rec,(∀ r,r∈l→wI r.M1)→eO l y=some (if gc l=0 then .go y else .ret (gc l))
 | [],h=>rfl
 | r::l,h=>by
  rw[eO,pG _ (h r (.head _)),Nr,zW y l (fun x hx=>h x (.tail _ hx)),gc]
  by_cases hr:gb r=0
  ·rw[QK hr,QK hr]
  ·rw[QL hr,QL hr,QL hr]
theorem zX (a:Bat) (hb:a.MK.length≤1000000) (hh: ∀ r,r∈a.MK→r.MU.length≤1000000) (y:Int): ∀ (l:List Rec) (k fuel:Nat),a.MK.drop k=l→l.length<fuel→ ∃ z,dR a fuel y k=some (if gc l=0 then .go (y,z) else .ret (gc l))
 | [],k,fuel+1,h,hf=>by
  have:=di h
  exact⟨k,by rw[dR,QL QG]; rfl⟩
 | r::l,k,fuel+1,h,hf=>by
  obtain⟨h1,h2,h3⟩:=cA h
  rw[NB] at hf
  obtain⟨z,hz⟩:=zX a hb hh y l (k+1) fuel h2 QG
  rw[dR,QK QG,h1,Nr,GD _ (hh r (List.mem_of_getElem? h1)),Nr,gc]
  by_cases hr:gb r=0
  ·rw[QK hr,QK hr,QK QG]
   exact⟨z,hz⟩
  ·rw[QL hr,QL hr]
   exact⟨0,by rw[QL hr]⟩
theorem zY (a:Bat): ∀ (fuel:Nat) (y:Int) (k:Nat),fT a fuel y k=dR a fuel y k
 | 0,y,k=>rfl
 | fuel+1,y,k=>by
  rw[fT,dR]
  simp only[zY a fuel]
def sk (F t:Int):Prop:=t>9223372036854775807 - F∨t < -F
instance (F t:Int):Decidable (sk F t):=by unfold sk; infer_instance
def Bc (F L:Int):Int→Int→List Rec→Except Int Int
 | p,m,[]=> .ok m
 | p,m,r::l=>if r.M1≤p∨r.M1>L then .error 13 else if sk F r.Nb then .error 11 else Bc F L r.M1 (if m<F+r.Nb then F+r.Nb else m) l
theorem GE {F t:Int} (h0:0≤F) (h1:F≤9223372036854775807) (ht:wI t):(sk F t→(IntKind.i64.wrap (F+t)<0))∧(¬ sk F t→IntKind.i64.wrap (F+t)=F+t∧0≤F+t):=by
 obtain⟨t0,t1⟩:=ht
 unfold sk
 rw[IntKind.wrap_i64]
 constructor
 ·intro h
  omega
 ·intro h
  omega
theorem Fc (a:Bat) (h0:0≤a.MW) (h1:a.MW≤9223372036854775807) (y:Int): ∀ (l:List Rec) (p m:Int),(∀ r,r∈l→wI r.Nb)→(∃ e,Bc a.MW a.M7 p m l= .error e∧ck a l y p m=some (.ret e))∨(∃ p' m',Bc a.MW a.M7 p m l= .ok m'∧ck a l y p m=some (.go (y,p',m')))
 | [],p,m,h=> .inr ⟨p,m,rfl,rfl⟩
 | r::l,p,m,h=>by
  have ih:=fun p m=>Fc a h0 h1 y l p m (fun x hx=>h x (.tail _ hx))
  obtain⟨w1,w2⟩:=GE h0 h1 (h r (.head _))
  rw[ck,Bc]
  by_cases c1:r.M1≤p
  ·rw[QK c1,QK (.inl c1)]
   exact .inl ⟨_,rfl,rfl⟩
  rw[QL c1]
  by_cases c2:r.M1>a.M7
  ·rw[QK c2,QK (.inr c2)]
   exact .inl ⟨_,rfl,rfl⟩
  rw[QL c2,QL QG]
  by_cases c3:sk a.MW r.Nb
  ·rw[QK c3,QK (w1 c3)]
   exact .inl ⟨_,rfl,rfl⟩
  obtain⟨w3,w4⟩:=w2 c3
  rw[QL c3,w3,QL (show ¬ a.MW+r.Nb<0 by omega),QL (show ¬ a.MW+r.Nb<r.Nb by omega),ite_self]
  by_cases c4:m<a.MW+r.Nb
  ·rw[QK c4,QK c4]
   exact ih _ _
  ·rw[QL c4,QL c4]
   exact ih _ _
theorem Bd (a:Bat) (h0:0≤a.MW) (h1:a.MW≤9223372036854775807) (hb:a.MK.length≤1000000) (y:Int): ∀ (l:List Rec) (p m:Int) (k fuel:Nat),a.MK.drop k=l→l.length<fuel→(k=0→p= -1)→(0<k→ ∃ r,a.MK[k - 1]? = some r∧r.M1=p∧0≤p) →
 (∃ e,Bc a.MW a.M7 p m l= .error e∧cL a fuel y k=some (.ret e))∨(∃ m' z,Bc a.MW a.M7 p m l= .ok m'∧cL a fuel y k=some (.go (y,z)))
 | [],p,m,k,fuel+1,h,hf,hk0,hk1=>by
  have:=di h
  exact .inr ⟨m,k,rfl,by rw[cL,QL QG]⟩
 | r::l,p,m,k,fuel+1,h,hf,hk0,hk1=>by
  obtain⟨g1,g2,g3⟩:=cA h
  rw[NB] at hf
  rw[cL,QK QG,g1,Nr,Bc]
  have hp: -1≤p:=by
   rcases Nat.eq_zero_or_pos k with hk | hk
   ·have:=hk0 hk; omega
   ·obtain⟨_,_,_,h5⟩:=hk1 hk; omega
  have ih:=fun (hge:0≤r.M1) m=>Bd a h0 h1 hb y l r.M1 m (k+1) fuel g2 QG (fun h=>absurd h QG) (fun _=>⟨r,g1,rfl,hge⟩)
  have tail:0≤r.M1→((if -9223372036854775808≤(9223372036854775807 - a.MW)∧(9223372036854775807 - a.MW)≤9223372036854775807 then (if r.Nb>(9223372036854775807 - a.MW) then some (Lp.ret (11:Int)) else (if -9223372036854775808≤(-a.MW)∧(-a.MW)≤9223372036854775807 then (if r.Nb<(-a.MW) then some (Lp.ret 11) else (if -9223372036854775808≤((k:Int)+1)∧((k:Int)+1)≤9223372036854775807 then (cL a fuel y (k+1)) else none)) else none)) else none))=if sk a.MW r.Nb then some (.ret 11) else cL a fuel y (k+1):=by
   intro hge
   rw[QK QG]
   by_cases c1:r.Nb>9223372036854775807 - a.MW
   ·rw[QK c1,QK (show sk a.MW r.Nb from .inl c1)]
   rw[QL c1,QK QG]
   by_cases c2:r.Nb < -a.MW
   ·rw[QK c2,QK (show sk a.MW r.Nb from .inr c2)]
   rw[QL c2,QL (show ¬ sk a.MW r.Nb by unfold sk; omega),QK QG]
  by_cases c2:r.M1>a.M7
  ·rw[QK c2,QK (.inr c2)]
   exact .inl ⟨_,rfl,rfl⟩
  rw[QL c2]
  rcases Nat.eq_zero_or_pos k with hk | hk
  ·have hp1:=hk0 hk
   rw[QL (show ¬ (k:Int)>0 by omega)]
   by_cases c3:r.M1<0
   ·rw[QK c3,QK (show r.M1≤p∨r.M1>a.M7 by omega)]
    exact .inl ⟨_,rfl,rfl⟩
   rw[QL c3,QL (show ¬ (r.M1≤p∨r.M1>a.M7) by omega),tail QG]
   by_cases c4:sk a.MW r.Nb
   ·rw[QK c4,QK c4]
    exact .inl ⟨_,rfl,rfl⟩
   ·rw[QL c4,QL c4]
    exact ih QG _
  ·obtain⟨q,q1,q2,q3⟩:=hk1 hk
   rw[QK (show (k:Int)>0 by omega),QK (show -9223372036854775808≤(k:Int) - 1∧(k:Int) - 1≤9223372036854775807 by omega),QK (show 0≤(k:Int) - 1 by omega),show ((k:Int) - 1).toNat=k - 1 by omega,q1,Nr,q2]
   by_cases c1:r.M1≤p
   ·rw[QK c1,QK (.inl c1)]
    exact .inl ⟨_,rfl,rfl⟩
   rw[QL c1,QL (show ¬ r.M1<0 by omega),QL (show ¬ (r.M1≤p∨r.M1>a.M7) by omega),tail QG]
   by_cases c4:sk a.MW r.Nb
   ·rw[QK c4,QK c4]
    exact .inl ⟨_,rfl,rfl⟩
   ·rw[QL c4,QL c4]
    exact ih QG _
theorem Fd (a:Bat) (h0:0≤a.MW) (h1:a.MW≤9223372036854775807) (hb:a.MK.length≤1000000) (y:Int): ∀ (l:List Rec) (p m m':Int) (k fuel:Nat),a.MK.drop k=l→l.length<fuel→Bc a.MW a.M7 p m l= .ok m'→(∀ r,r∈l→wI r.Nb)→ ∃ z,eo a fuel y m k=some (.go (y,m',z))
 | [],p,m,m',k,fuel+1,h,hf,ho,hw=>by
  have:=di h
  injection ho with ho
  subst ho
  exact⟨k,by rw[eo,QL QG]⟩
 | r::l,p,m,m',k,fuel+1,h,hf,ho,hw=>by
  obtain⟨g1,g2,g3⟩:=cA h
  rw[NB] at hf
  rw[Bc] at ho
  split at ho
  ·exact nomatch ho
  split at ho
  ·exact nomatch ho
  rename_i hb2
  have ht:=hw r (.head _)
  have ht0:=ht.1
  have ht1:=ht.2
  unfold sk at hb2
  rw[eo,QK QG,g1,Nr,QK QG,QL QG,QK QG,QL QG,QK QG]
  obtain⟨z,hz⟩:=Fd a h0 h1 hb y l r.M1 _ m' (k+1) fuel g2 QG ho (fun x hx=>hw x (.tail _ hx))
  by_cases c:m<a.MW+r.Nb
  ·rw[QK c] at hz
   rw[QK c,QK QG,QK QG]
   exact⟨z,hz⟩
  ·rw[QL c] at hz
   rw[QL c,QK QG]
   exact⟨z,hz⟩
theorem xO (a:Bat) (h0:0≤a.MW) (h1:a.MW≤9223372036854775807) (hb:a.MK.length≤1000000) (hw: ∀ r,r∈a.MK→wI r.Nb): ∃ e,dZ a=some e∧gt a=some e:=by
 unfold dZ gt nU
 rcases Fc a h0 h1 0 a.MK (-1) a.MW hw with⟨e,g1,g2⟩ | ⟨p',m',g1,g2⟩
 ·rcases Bd a h0 h1 hb 0 a.MK (-1) a.MW 0 (((a.MK.length:Int)).toNat+1) rfl QG (fun _=>rfl) (fun h=>absurd h QG) with⟨e2,k1,k2⟩ | ⟨m2,z,k1,k2⟩
  ·rw[g1] at k1
   injection k1 with k1
   subst k1
   exact⟨e,by rw[g2]; rfl,by rw[k2]; rfl⟩
  ·rw[g1] at k1
   exact nomatch k1
 ·rcases Bd a h0 h1 hb 0 a.MK (-1) a.MW 0 (((a.MK.length:Int)).toNat+1) rfl QG (fun _=>rfl) (fun h=>absurd h QG) with⟨e2,k1,k2⟩ | ⟨m2,z,k1,k2⟩
  ·rw[g1] at k1
   exact nomatch k1
  ·obtain⟨z2,hz2⟩:=Fd a h0 h1 hb 0 a.MK (-1) a.MW m' 0 (((a.MK.length:Int)).toNat+1) rfl QG g1 hw
   rw[g2,k2,hz2]
   simp only[Nr]
   by_cases ha:a.Nh=true
   ·exact⟨0,by rw[QK ha],by rw[QK ha]⟩
   ·rw[QL ha]
    by_cases hm:m'=a.Ng
    ·exact⟨0,by rw[QK hm],by rw[QK hm]⟩
    ·exact⟨11,by rw[QL hm],by rw[QL hm]⟩
def md (a:Bat):Prop:=0≤a.Na∧(-1≤a.M3∧a.M3≤2147483647)∧(0≤a.M7∧a.M7≤2147483647)∧a.Na+a.M7≤9223372036854775807∧0≤a.MW∧0≤a.Ng
instance (a:Bat):Decidable (md a):=by unfold md; infer_instance
theorem D2 (a:Bat) (h1:wI a.Na) (h2:wI a.M3) (h3:wI a.M7):iH a=some (decide (md a)):=by
 obtain⟨u1,u2⟩:=h1
 unfold iH
 rw[gi _ _ h2,gi _ _ h3,eL,eL,IntKind.wrap_i64]
 have no: ∀ {b:Bool},¬ md a→b=false→some b=some (decide (md a)):=fun h hb=>by rw[Nu h,hb]
 by_cases c1:a.Na≥0
 ·rw[QK c1]
  by_cases c2:a.M3≥ -1
  ·rw[QK c2,Nr]
   by_cases c3: -2147483648≤a.M3∧a.M3≤2147483647
   ·rw[QK (Nt c3)]
    by_cases c4:a.M7≥0
    ·rw[QK c4,Nr]
     by_cases c5: -2147483648≤a.M7∧a.M7≤2147483647
     ·rw[QK (Nt c5)]
      by_cases c6:a.Na+a.M7≤9223372036854775807
      ·rw[QK QG]
       by_cases c7:a.MW≥0
       ·rw[QK c7]
        by_cases c8:a.Ng≥0
        ·rw[QK c8,Nt (show md a from ⟨c1,⟨c2,by omega⟩,⟨c4,by omega⟩,c6,c7,c8⟩)]
        ·rw[QL c8]; exact no (fun h=>c8 h.2.2.2.2.2) rfl
       ·rw[QL c7]; exact no (fun h=>c7 h.2.2.2.2.1) rfl
      ·rw[QL QG]; exact no (fun h=>c6 h.2.2.2.1) rfl
     ·rw[QL (by rw[decide_eq_true_eq]; exact c5)]; exact no (fun h=>by have:=h.2.2.1; omega) rfl
    ·rw[QL c4]; exact no (fun h=>c4 h.2.2.1.1) rfl
   ·rw[QL (by rw[decide_eq_true_eq]; exact c3)]; exact no (fun h=>by have:=h.2.1; omega) rfl
  ·rw[QL c2]; exact no (fun h=>c2 h.2.1.1) rfl
 ·rw[QL c1]; exact no (fun h=>c1 h.1) rfl
theorem vh (n k:Int):ir n k=some (decide (k≤n∧n≤2147483647)):=by
 unfold ir
 by_cases h1:n≥k
 ·rw[QK h1]
  by_cases h2:n≤2147483647
  ·rw[QK h2,Nt ⟨h1,h2⟩]
  ·rw[QL h2,Nu (fun h=>h2 h.2)]
 ·rw[QL h1,Nu (fun h=>h1 h.1)]
def jV (a:Bat):Prop:=if a.MG= -1 then a.MJ= -1∧a.MX= -1∧a.Nd=false else 0≤a.MG∧(0≤a.MJ∧a.MJ≤32767)∧(if a.Nc=true then a.MX= -1 else 0≤a.MX∧a.MX≤2147483647)
instance (a:Bat):Decidable (jV a):=by unfold jV; infer_instance
theorem xP (n:Int):bm n 2=decide (-32768≤n∧n≤32767):=by
 rw[Bool.eq_iff_iff]
 unfold bm
 simp only[Bool.and_eq_true,decide_eq_true_eq]
 have:(2:Int) ^ (8*(2:Int).toNat - 1)=32768:=by decide
 omega
theorem vH (a:Bat) (h1:wI a.MJ) (h2:wI a.MX):fQ a=some (decide (jV a))∧gX a=some (decide (jV a)):=by
 unfold fQ gX
 rw[gi _ _ h1,gi _ _ h2,eL,xP,vh]
 unfold jV
 obtain⟨b0,b1,b2,tx,ct,b5,b6,b7,P,E,S,rs⟩:=a
 simp only
 clear h1 h2
 by_cases c1:P= -1
 ·simp only[QK c1]
  by_cases c2:E= -1
  ·simp only[QK c2]
   by_cases c3:S= -1
   ·simp only[QK c3]
    cases tx <;> simp[c2,c3]
   ·simp[c3]
  ·simp[c2]
 ·simp only[QL c1,Nr]
  cases ct
  ·simp only[Bool.false_eq_true,if_false]
   constructor
   ·by_cases d1:P≥0
    ·by_cases d2:E≥0
     ·by_cases d3: -32768≤E∧E≤32767
      ·by_cases d4:S≥0
       ·by_cases d5: -2147483648≤S∧S≤2147483647
        ·rw[QK d1,QK d2,QK (Nt d3),QK d4,QK (Nt d5),Nt QG]
        ·rw[QK d1,QK d2,QK (Nt d3),QK d4,QL (by rw[decide_eq_true_eq]; exact d5),Nu QG]
       ·rw[QK d1,QK d2,QK (Nt d3),QL d4,Nu QG]
      ·rw[QK d1,QK d2,QL (by rw[decide_eq_true_eq]; exact d3),Nu QG]
     ·rw[QK d1,QL d2,Nu QG]
    ·rw[QL d1,Nu QG]
   ·by_cases d1:P<0
    ·rw[QK d1,Nu QG]
    rw[QL d1]
    by_cases d2:E<0
    ·rw[QK d2,Nu QG]
    rw[QL d2]
    by_cases d3:E>32767
    ·rw[QK d3,Nu QG]
    rw[QL d3]
    by_cases d4:0≤S∧S≤2147483647
    ·rw[Nt d4,Nt QG]
    ·rw[Nu d4,Nu QG]
  ·simp only[if_true]
   constructor
   ·by_cases d1:P≥0
    ·by_cases d2:E≥0
     ·by_cases d3: -32768≤E∧E≤32767
      ·by_cases d4:S≥ -1
       ·by_cases d5: -2147483648≤S∧S≤2147483647
        ·by_cases d6:S= -1
         ·rw[QK d1,QK d2,QK (Nt d3),QK d4,QK (Nt d5),QK d6,Nt QG]
         ·rw[QK d1,QK d2,QK (Nt d3),QK d4,QK (Nt d5),QL d6,Nu QG]
        ·rw[QK d1,QK d2,QK (Nt d3),QK d4,QL (by rw[decide_eq_true_eq]; exact d5),Nu QG]
       ·rw[QK d1,QK d2,QK (Nt d3),QL d4,Nu QG]
      ·rw[QK d1,QK d2,QL (by rw[decide_eq_true_eq]; exact d3),Nu QG]
     ·rw[QK d1,QL d2,Nu QG]
    ·rw[QL d1,Nu QG]
   ·by_cases d1:P<0
    ·rw[QK d1,Nu QG]
    rw[QL d1]
    by_cases d2:E<0
    ·rw[QK d2,Nu QG]
    rw[QL d2]
    by_cases d3:E>32767
    ·rw[QK d3,Nu QG]
    rw[QL d3]
    by_cases d4:S= -1
    ·rw[QK d4,Nt QG]
    ·rw[QL d4,Nu QG]
theorem IC (l:List UInt8) (hl:l.length≤1000000): ∃ x,eu l=some x:=by
 unfold eu dJ
 simp only[lF l QG,kA,gU,dz,Nr]
 generalize fp ⟨l,0,0⟩ 2=x
 by_cases h:x.1=0
 ·simp only[QK h,Nr]
  generalize fp x.2 2=y
  split
  ·split <;> exact⟨_,rfl⟩
  ·split
   ·split <;> exact⟨_,rfl⟩
   ·split <;> exact⟨_,rfl⟩
 ·simp only[QL h,Nr]
  generalize fp (dx x.2 7) 2=y
  split
  ·split <;> exact⟨_,rfl⟩
  ·split
   ·split <;> exact⟨_,rfl⟩
   ·split <;> exact⟨_,rfl⟩
theorem D3 (l:List UInt8) (hl:l.length≤1000000): ∃ x,dH l=some x:=by
 unfold dH dJ
 simp only[lF l QG,kA,gU,dz,Nr]
 generalize fp ⟨l,0,0⟩ 2=x
 by_cases h:x.1=0
 ·simp only[QK h,Nr]
  generalize fp x.2 4=y
  split
  ·split <;> exact⟨_,rfl⟩
  ·split <;> exact⟨_,rfl⟩
 ·simp only[QL h,Nr]
  generalize fp (dx x.2 7) 4=y
  split
  ·split <;> exact⟨_,rfl⟩
  ·split <;> exact⟨_,rfl⟩
theorem Be (r:Rec) (h1:r.M4.data.length≤1000000) (h2:r.MV.data.length≤1000000): ∃ x1 x2 x3,dV r=some (x1,x2,x3):=by
 obtain⟨⟨k1,k2⟩,hk⟩:=IC _ h1
 obtain⟨⟨v1,v2⟩,hv⟩:=D3 _ h2
 unfold dV
 rw[hk,hv]
 simp only[Nr]
 split
 ·exact⟨_,_,_,rfl⟩
 split
 ·exact⟨_,_,_,rfl⟩
 split
 ·exact⟨_,_,_,rfl⟩
 split
 ·split
  ·split
   ·exact⟨_,_,_,rfl⟩
   ·exact⟨_,_,_,rfl⟩
  ·exact⟨_,_,_,rfl⟩
 ·exact⟨_,_,_,rfl⟩
def Bf (a:Bat) (cr e0:Int):Int:=if md a then (if a.Nc=true then (if a.Nd=true then (if jV a then (if (a.MK.length:Int)=1 then (if gc a.MK=0 then (if cr=0 then e0 else cr) else gc a.MK) else 10) else 11) else 8) else (if jV a then (if gc a.MK=0 then e0 else gc a.MK) else 11)) else 11
theorem bchk (a:Bat) (hw:ol a) (cr e0:Int) (hc:md a→dZ a=some e0) (hr:(a.MK.length:Int)=1→ ∃ r x1 x2,a.MK[0]? = some r∧dV r=some (x1,x2,cr)):dW a=some (Bf a cr e0):=by
 obtain⟨w1,w2,w3,w4,w5,w6,w7,w8,w9,w10,w11,w12⟩:=hw
 have hoff: ∀ r,r∈a.MK→wI r.M1:=fun r h=>(w12.2 r h).2.1
 unfold dW Bf
 rw[D2 a w1 w2 w6,(vH a w10 w11).1,zV _ _ hoff,zW _ _ hoff]
 by_cases hn:md a
 ·rw[Nt hn,Nr,QK rfl,QK hn,hc hn]
  by_cases hct:a.Nc=true
  ·rw[QK hct,QK hct]
   by_cases ht:a.Nd=true
   ·rw[QK ht,QK ht,Nr]
    by_cases hp:jV a
    ·rw[Nt hp,QK rfl,QK hp]
     by_cases hl:(a.MK.length:Int)=1
     ·obtain⟨r,x1,x2,r1,r2⟩:=hr hl
      rw[QK hl,QK hl,r1]
      by_cases hf:gc a.MK=0
      ·simp only[QK hf,Nr,r2]
       split <;> rfl
      ·simp only[QL hf,Nr]
     ·rw[QL hl,QL hl]
    ·rw[Nu hp,QL QH,QL hp]
   ·rw[QL ht,QL ht]
  ·rw[QL hct,QL hct,Nr]
   by_cases hp:jV a
   ·rw[Nt hp,QK rfl,QK hp]
    by_cases hf:gc a.MK=0
    ·simp only[QK hf,Nr]
    ·simp only[QL hf,Nr]
   ·rw[Nu hp,QL QH,QL hp]
 ·rw[Nu hn,Nr,QL QH,QL hn]
theorem rchk (a:Bat) (hw:ol a) (hb:a.MK.length≤1000000) (hh: ∀ r,r∈a.MK→r.MU.length≤1000000) (cr e0:Int) (hc:md a→gt a=some e0) (hr:(a.MK.length:Int)=1→ ∃ r x1 x2,a.MK[0]? = some r∧je r=some (x1,x2,cr)):jf a=some (Bf a cr e0):=by
 obtain⟨w1,w2,w3,w4,w5,w6,w7,w8,w9,w10,w11,w12⟩:=hw
 obtain⟨z,hz⟩:=zX a hb hh 0 a.MK 0 (((a.MK.length:Int)).toNat+1) rfl QG
 have b1:=w1.1
 have b2:=w1.2
 unfold jf Bf
 rw[vh,vh,(vH a w10 w11).2]
 simp only[zY]
 rw[hz]
 by_cases hn:md a
 ·obtain⟨n1,n2,n3,n4,n5,n6⟩:=id hn
  rw[QL (show ¬ a.Na<0 by omega),Nt n2,Nr,QK rfl,Nt n3,Nr,QK rfl,QK (show -9223372036854775808≤9223372036854775807 - a.Na∧9223372036854775807 - a.Na≤9223372036854775807 by omega),QL (show ¬ a.M7>9223372036854775807 - a.Na by omega),QL (show ¬ a.MW<0 by omega),QL (show ¬ a.Ng<0 by omega),QK hn,hc hn]
  by_cases hct:a.Nc=true
  ·rw[QK hct,QK hct]
   by_cases ht:a.Nd=true
   ·rw[QK ht,QK ht,Nr]
    by_cases hp:jV a
    ·rw[Nt hp,QK rfl,QK hp]
     by_cases hl:(a.MK.length:Int)=1
     ·obtain⟨r,x1,x2,r1,r2⟩:=hr hl
      rw[QK hl,QK hl,r1]
      by_cases hf:gc a.MK=0
      ·simp only[QK hf,Nr,r2]
       split <;> rfl
      ·simp only[QL hf,Nr]
     ·rw[QL hl,QL hl]
    ·rw[Nu hp,QL QH,QL hp]
   ·rw[QL ht,QL ht]
  ·rw[QL hct,QL hct,Nr]
   by_cases hp:jV a
   ·rw[Nt hp,QK rfl,QK hp]
    by_cases hf:gc a.MK=0
    ·simp only[QK hf,Nr]
    ·simp only[QL hf,Nr]
   ·rw[Nu hp,QL QH,QL hp]
 ·rw[QL hn]
  unfold md at hn
  by_cases c1:a.Na<0
  ·rw[QK c1]
  rw[QL c1,Nr]
  by_cases c2: -1≤a.M3∧a.M3≤2147483647
  ·rw[Nt c2,QK rfl,Nr]
   by_cases c3:0≤a.M7∧a.M7≤2147483647
   ·rw[Nt c3,QK rfl,QK (show -9223372036854775808≤9223372036854775807 - a.Na∧9223372036854775807 - a.Na≤9223372036854775807 by omega)]
    by_cases c4:a.M7>9223372036854775807 - a.Na
    ·rw[QK c4]
    rw[QL c4]
    by_cases c5:a.MW<0
    ·rw[QK c5]
    rw[QL c5,QK (show a.Ng<0 by omega)]
   ·rw[Nu c3,QL QH]
  ·rw[Nu c2,QL QH]
theorem xQ (a:Bat) (hw:ol a) (hb:a.MK.length≤1000000) (hr: ∀ r,r∈a.MK→r.MU.length≤1000000∧r.M4.data.length≤1000000∧r.MV.data.length≤1000000): ∃ cr e0,dW a=some (Bf a cr e0)∧jf a=some (Bf a cr e0)∧(md a→dZ a=some e0)∧((a.MK.length:Int)=1→ ∃ r x1 x2,a.MK[0]? = some r∧dV r=some (x1,x2,cr)∧je r=some (x1,x2,cr)):=by
 have htim: ∀ r,r∈a.MK→wI r.Nb:=fun r h=>(hw.2.2.2.2.2.2.2.2.2.2.2.2 r h).1
 have hF:=hw.2.2.2.2.2.2.1
 obtain⟨e0,he⟩: ∃ e0,md a→dZ a=some e0∧gt a=some e0:=by
  by_cases hn:md a
  ·obtain⟨e0,h1,h2⟩:=xO a hn.2.2.2.2.1 hF.2 hb htim
   exact⟨e0,fun _=>⟨h1,h2⟩⟩
  ·exact⟨0,fun h=>absurd h hn⟩
 obtain⟨cr,hcr⟩: ∃ cr,(a.MK.length:Int)=1→ ∃ r x1 x2,a.MK[0]? = some r∧dV r=some (x1,x2,cr)∧je r=some (x1,x2,cr):=by
  by_cases hl:(a.MK.length:Int)=1
  ·obtain⟨r,hrec⟩: ∃ r,a.MK = [r]:=List.length_eq_one_iff.1 QG
   have h3:=hr r (by rw[hrec]; exact .head _)
   obtain⟨x1,x2,x3,h4⟩:=Be r h3.2.1 h3.2.2
   have h5:=Bb r QG QG
   exact⟨x3,fun _=>⟨r,x1,x2,by rw[hrec]; rfl,h4,by rw[← h5]; exact h4⟩⟩
  ·exact⟨0,fun h=>absurd h hl⟩
 refine⟨cr,e0,bchk a hw cr e0 (fun h=>(he h).1) (fun h=> ?_),rchk a hw hb (fun r h=>(hr r h).1) cr e0 (fun h=>(he h).2) (fun h=> ?_),fun h=>(he h).1,hcr⟩
 ·obtain⟨r,x1,x2,h1,h2,h3⟩:=hcr h
  exact⟨r,x1,x2,h1,h2⟩
 ·obtain⟨r,x1,x2,h1,h2,h3⟩:=hcr h
  exact⟨r,x1,x2,h1,h3⟩
theorem Pr.bind_assoc {α β γ:Type} (p:Pr α) (f:α→Pr β) (g:β→Pr γ):(p.bind f).bind g=p.bind fun a=>(f a).bind g:=by
 funext s q
 unfold Pr.bind
 cases p s q with
 | error e=>rfl
 | ok x=>rfl
theorem Pr.ret_bind {α β:Type} (a:α) (f:α→Pr β):(Pr.ret a).bind f=f a:=by
 funext s q
 rfl
def Cw:List Nat→Pr (List Int)
 | []=> .ret []
 | k::ks=>(fC k).bind fun a=>(Cw ks).bind fun l=> .ret (a::l)
def rF:List Nat→List Int→List UInt8
 | k::ks,x::xs=>be x k++rF ks xs
 | _,_ => []
def okI:List Nat→List Int→Prop
 | [],[]=>True
 | k::ks,x::xs=>bm x k=true∧okI ks xs
 | _,_=>False
theorem Bg: ∀ ks:List Nat,(∀ k,k∈ks→1≤k∧k≤8)→Sp (Cw ks) (rF ks) (okI ks)
 | [],_=>by
  refine⟨fun s q l r hq h=> ?_,fun s t q l hq hl hd=> ?_⟩
  ·injection h with h
   obtain⟨rfl,rfl⟩:=N2 h
   exact⟨NW _,hq,rfl,by simp[rF],trivial⟩
  ·cases l with
   | nil=>rfl
   | cons x xs=>exact nomatch hl
 | k::ks,hk=>by
  have hp:=eA k (hk k (List.mem_cons_self ..)).1 (hk k (List.mem_cons_self ..)).2
  have ih:=Bg ks (fun j hj=>hk j (List.mem_cons_of_mem _ hj))
  refine⟨fun s q l r hq h=> ?_,fun s t q l hq hl hd=> ?_⟩
  ·obtain⟨a,m,h1,h2⟩:=Pr.bind_ok h
   obtain⟨xs,m2,h3,h4⟩:=Pr.bind_ok h2
   injection h4 with h4
   obtain⟨rfl,rfl⟩:=N2 h4
   obtain⟨a1,a2,a3,a4,a5⟩:=hp.spell s q a m hq h1
   obtain⟨b1,b2,b3,b4,b5⟩:=ih.spell s m xs m2 a2 h3
   exact⟨by omega,b2,by simp only[rF,Nv]; omega,by rw[b4,a4,rF,NA],a5,b5⟩
  ·cases l with
   | nil=>exact nomatch hl
   | cons x xs =>
    rw[rF,NA] at hd
    have h1:=hp.back s _ q x hq hl.1 hd
    have hl2:=congrArg List.length hd
    rw[NI,Nv] at hl2
    have h2:=ih.back s t _ xs QG hl.2 (cz hd)
    rw[Cw,Pr.bind_of h1,Pr.bind_of h2,rF,Nv,← Nat.add_assoc]
    rfl
def KS:List Nat := [8,4,4,1,4,2,4,8,8,8,2,4,4]
theorem KS_ok: ∀ k,k∈KS→1≤k∧k≤8:=by decide
def s32 (n:Int):Int:=if n>2147483647 then n - 4294967296 else n
def toL (p:Pfx):List Int := [p.Na,p.Nf,p.M3,2,s32 p.Ni,p.Nk,p.M7,p.MW,p.Ng,p.MG,p.MJ,p.MX,p.Nj]
def ckE (b m ct:Int):Int:=if m=2 then (if b<49 then 4 else if ct<0 then 10 else 0) else 6
def chkP:List Int→Pr Pfx
 | [a,b,c,m,s,at',la,fi,mx,pr,ep,sq,ct]=>if ckE b m ct=0 then .ret ⟨a,b,c,s % 4294967296,at',la,fi,mx,pr,ep,sq,ct⟩ else .err (ckE b m ct)
 | _=> .err 1
def GF:Pr Pfx:=(Cw KS).bind chkP
def nH (p:Pfx):List UInt8:=rF KS (toL p)
def okP (p:Pfx):Prop:=okI KS (toL p)∧(0≤p.Ni∧p.Ni≤4294967295)∧49≤p.Nf∧0≤p.Nj
theorem Fe: ∀ {ks:List Nat} {l:List Int},okI ks l→l.length=ks.length
 | [],[],_=>rfl
 | k::ks,x::xs,h=>by rw[NB,NB,Fe h.2]
 | [],_ :: _,h=>nomatch h
 | _ :: _,[],h=>nomatch h
theorem Cx: ∀ {ks:List Nat} {l:List Int},okI ks l→(rF ks l).length=ks.sum
 | [],[],_=>rfl
 | k::ks,x::xs,h=>by rw[rF,Nv,av,Cx h.2,List.sum_cons]
 | [],_ :: _,h=>nomatch h
 | _ :: _,[],h=>nomatch h
theorem len13 {l:List Int} (h:l.length=13): ∃ a b c m s t la fi mx pr ep sq ct,l = [a,b,c,m,s,t,la,fi,mx,pr,ep,sq,ct]:=by
 match l,h with
 | [a,b,c,m,s,t,la,fi,mx,pr,ep,sq,ct],_=>exact⟨a,b,c,m,s,t,la,fi,mx,pr,ep,sq,ct,rfl⟩
theorem ID {s:Int} (h:bm s 4=true):s32 (s % 4294967296)=s:=by
 rw[eL] at h
 have:=of_decide_eq_true h
 unfold s32
 split <;> omega
theorem Kk {s:Int} (h:0≤s∧s≤4294967295):s32 s % 4294967296=s:=by
 unfold s32
 split <;> omega
theorem IE {b m ct:Int} (h:ckE b m ct=0):m=2∧49≤b∧0≤ct:=by
 unfold ckE at h
 by_cases h1:m=2
 ·rw[QK h1] at h
  by_cases h2:b<49
  ·rw[QK h2] at h; cases h
  ·rw[QL h2] at h
   by_cases h3:ct<0
   ·rw[QK h3] at h; cases h
   ·exact⟨h1,by omega,by omega⟩
 ·rw[QL h1] at h; cases h
theorem ckE_of {b ct:Int} (h1:49≤b) (h2:0≤ct):ckE b 2 ct=0:=by
 unfold ckE
 rw[QK rfl,QL QG,QL QG]
theorem D4:Sp GF nH okP:=by
 refine⟨fun s q p r hq h=> ?_,fun s t q p hq hp hd=> ?_⟩
 ·obtain⟨l,m,h1,h2⟩:=Pr.bind_ok h
  obtain⟨a1,a2,a3,a4,a5⟩:=(Bg KS KS_ok).spell s q l m hq h1
  obtain⟨a,b,c,mg,sm,t,la,fi,mx,pr,ep,sq,ct,rfl⟩:=len13 (Fe a5)
  have hs:bm sm 4=true:=a5.2.2.2.2.1
  unfold chkP at h2
  dsimp only at h2
  by_cases hc:ckE b mg ct=0
  ·rw[QK hc] at h2
   injection h2 with h2
   obtain⟨rfl,rfl⟩:=N2 h2
   obtain⟨rfl,c2,c3⟩:=IE hc
   have e:toL ⟨a,b,c,sm % 4294967296,t,la,fi,mx,pr,ep,sq,ct⟩ = [a,b,c,2,sm,t,la,fi,mx,pr,ep,sq,ct]:=by
    unfold toL
    rw[ID hs]
   unfold nH okP
   rw[e]
   exact⟨a1,a2,a3,a4,a5,by show 0≤sm % 4294967296∧sm % 4294967296≤4294967295; omega,c2,c3⟩
  ·rw[QL hc] at h2
   exact nomatch h2
 ·have h1:=(Bg KS KS_ok).back s t q (toL p) hq hp.1 hd
  rw[GF,Pr.bind_of h1]
  unfold toL chkP
  dsimp only
  rw[QK (ckE_of hp.2.2.1 hp.2.2.2),Kk hp.2.1]
  rfl
theorem and32 (n:Int):Go.bits .and .i64 n 4294967295=n % 4294967296:=by
 rw[show (4294967295:Int)=((4294967295:Nat):Int) from rfl,AK n _ QH,show (4294967295:Nat)=2 ^ 32 - 1 from rfl,Nat.and_two_pow_sub_one_eq_mod]
 omega
def zP:Pfx:=⟨0,0,0,0,0,0,0,0,0,0,0,0⟩
def IF (a b c m s t la fi mx pr ep sq ct:Int) (st:I):Option (Pfx×I):=(iQ st).bind fun (x57,st58)=>(if x57=0 then ((if m=2 then ((if b<49 then ((cj st58 4).bind fun st164=>some st164) else ((if ct<0 then ((cj st58 10).bind fun st172=>some st172) else some st58).bind fun st169=>some st169)).bind fun st161=>some st161) else ((cj st58 6).bind fun st174=>some st174)).bind fun st147=>some st147) else some st58).bind fun st117=>(iQ st117).bind fun (x176,st177)=>if x176=0 then (some ((⟨a,b,c,(Go.bits .and .i64 s 4294967295),t,la,fi,mx,pr,ep,sq,ct⟩:Pfx),st177)) else (some ((⟨0,0,0,0,0,0,0,0,0,0,0,0⟩:Pfx),st177))
theorem B_tail (a b c m s t la fi mx pr ep sq ct:Int):CB (IF a b c m s t la fi mx pr ep sq ct) (chkP [a,b,c,m,s,t,la,fi,mx,pr,ep,sq,ct]) zP:=by
 refine AS (fun st h=> ?_) (fun st h=> ?_)
 ·unfold IF
  rw[bz,Nr]
  dsimp only
  rw[QL h,Nr,bz,Nr]
  dsimp only
  rw[QL h]
  rfl
 ·obtain⟨l,q,e⟩:=st
  obtain rfl:e=0:=h
  unfold IF ckE
  rw[bz,Nr]
  dsimp only
  rw[QK rfl,and32]
  by_cases h1:m=2
  ·rw[QK h1,QK h1]
   by_cases h2:b<49
   ·rw[QK h2,QK h2,QL QH]; rfl
   ·rw[QL h2,QL h2]
    by_cases h3:ct<0
    ·rw[QK h3,QK h3,QL QH]; rfl
    ·rw[QL h3,QL h3,QK rfl]; rfl
  ·rw[QL h1,QL h1,QL QH]; rfl
theorem B_pfx:CB (fun st=>lJ st) GF zP:=by
 have w: ∀ {p:Pr Int} (s:List UInt8) (q:Nat) (a:Int) (r:Nat),s.length≤1000000→q≤s.length→p s q= .ok (a,r)→(fun _:Int=>True) a:=fun _ _ _ _ _ _ _=>trivial
 have h:=CB.bind (fun _=>True) Q8.cb w trivial fun a _=>CB.bind (fun _=>True) Q4.cb w trivial fun b _=>CB.bind (fun _=>True) Q4.cb w trivial fun c _=>CB.bind (fun _=>True) Q1.cb w trivial fun m _=>CB.bind (fun _=>True) Q4.cb w trivial fun s _ =>
  CB.bind (fun _=>True) Q2.cb w trivial fun t _=>CB.bind (fun _=>True) Q4.cb w trivial fun la _=>CB.bind (fun _=>True) Q8.cb w trivial fun fi _=>CB.bind (fun _=>True) Q8.cb w trivial fun mx _=>CB.bind (fun _=>True) Q8.cb w trivial fun pr _ =>
  CB.bind (fun _=>True) Q2.cb w trivial fun ep _=>CB.bind (fun _=>True) Q4.cb w trivial fun sq _=>CB.bind (fun _=>True) Q4.cb w trivial fun ct _=>B_tail a b c m s t la fi mx pr ep sq ct
 refine (h.congr (fun st=>rfl)).pr ?_
 unfold GF KS
 simp only[Cw,Pr.bind_assoc,Pr.ret_bind]
def r64 (n:Int):Prop:= -9223372036854775808≤n∧n≤9223372036854775807
def wrI:List Nat→List Int→List UInt8×Int→Option (List UInt8×Int)
 | k::ks,x::xs,st=>(d8 st x (k:Int)).bind fun st=>wrI ks xs st
 | _,_,st=>some st
theorem IG: ∀ (ks:List Nat) (l:List Int) (t:List UInt8),okI ks l→t.length+ks.sum≤1000000→wrI ks l (t,0)=some (t++rF ks l,0)
 | [],[],t,_,_=>by unfold wrI rF; rw[NP]
 | [],_ :: _,_,h,_=>nomatch h
 | _ :: _,[],_,h,_=>nomatch h
 | k::ks,x::xs,t,h,hl=>by
  rw[List.sum_cons] at hl
  rw[wrI,ec h.1 QG,Nr,Oz,IG ks xs _ h.2 (by rw[Nv,av]; omega),rF,NA]
def w32 (n:Int):Int:=IntKind.i32.wrap (IntKind.u32.wrap n)
theorem Kl (n:Int): -2147483648≤w32 n∧w32 n≤2147483647:=by
 unfold w32
 rw[IntKind.wrap_i32]
 omega
theorem w32_s {n:Int} (h:0≤n∧n≤4294967295):w32 n=s32 n:=by
 unfold w32 s32
 rw[IntKind.wrap_i32,IntKind.wrap_u32]
 split <;> omega
def toW (p:Pfx):List Int := [p.Na,p.Nf,p.M3,2,w32 p.Ni,p.Nk,p.M7,p.MW,p.Ng,p.MG,p.MJ,p.MX,p.Nj]
def wP (p:Pfx):Prop:=r64 p.Na∧r64 p.Nf∧r64 p.M3∧r64 p.Ni∧r64 p.Nk∧r64 p.M7∧r64 p.MW∧r64 p.Ng∧r64 p.MG∧r64 p.MJ∧r64 p.MX∧r64 p.Nj
theorem IH (st:List UInt8×Int) (p:Pfx):dw st p=wrI KS (toW p) (if p.Ni<0∨p.Ni>4294967295 then lM st 11 else st):=by
 have hw:=Kl p.Ni
 unfold dw
 have e:((if p.Ni<0 then some true else (if p.Ni>4294967295 then some true else some false)).bind fun y4=>(if y4=true then ((li st 11).bind fun st14=>some st14) else some st))=some (if p.Ni<0∨p.Ni>4294967295 then lM st 11 else st):=by
  by_cases h1:p.Ni<0
  ·rw[QK h1,Nr,QK rfl,QK (.inl h1)]; rfl
  ·rw[QL h1]
   by_cases h2:p.Ni>4294967295
   ·rw[QK h2,Nr,QK rfl,QK (.inr h2)]; rfl
   ·rw[QL h2,Nr,QL QH,QL QG]
 have e2: ∀ (K:List UInt8×Int→Option (List UInt8×Int)),((if p.Ni<0 then some true else (if p.Ni>4294967295 then some true else some false)).bind fun y4=>(if y4=true then ((li st 11).bind fun st14=>some st14) else some st).bind K)=K (if p.Ni<0∨p.Ni>4294967295 then lM st 11 else st):=by
  intro K
  rw[← Option.bind_assoc,e,Nr]
 rw[e2]
 show (if -9223372036854775808≤w32 p.Ni∧w32 p.Ni≤9223372036854775807 then _ else _)= _
 rw[QK QG]
 rfl
def okWp (p:Pfx):Prop:=okI KS (toL p)∧0≤p.Ni∧p.Ni≤4294967295
theorem o7 {p:Pfx} (h:okI KS (toL p)):(nH p).length=61:=by
 unfold nH
 rw[Cx h]
 rfl
theorem xR {p:Pfx} (t:List UInt8) (h:okWp p) (ht:t.length≤900000):dw (t,0) p=some (t++nH p,0):=by
 have e:toW p=toL p:=by
  unfold toW toL
  rw[w32_s h.2]
 have h2:=h.2
 rw[IH,QL QG,e]
 exact IG KS (toL p) t h.1 (by show t.length+61≤ _; omega)
def kY (p:Pfx):List Int := [p.Na,p.Nf,p.M3,p.Ni,p.Nk,p.M7,p.MW,p.Ng,p.MG,p.MJ,p.MX,p.Nj]
theorem gJ (l:List Int) (m:Nat) (y4 acc:List UInt8) (y5:Bool) (k:Nat) (x:Int) (z:Nat) (hk:k<12) (h3:k≠3) (hx:l[k]? = some x) (hz : [(8:Int),4,4,4,2,4,8,8,8,2,4,4][k]? = some (z:Int)) (h8:z≤8) (hr:r64 x) (ha:acc.length≤1000) :
 cB l (m+1) y4 y5 acc k=if bm x z=true then cB l m y4 y5 (acc++be x z) (k+1) else some (.ret ([],false)):=by
 rw[cB,QK QG,hx,Nr,QL QG,hz,Nr,zk _ _ hr,Nr]
 by_cases h:bm x z=true
 ·rw[QK h,QK h,bO _ _ ⟨hr,by omega,by omega⟩,Nr,Oz,QK (by rw[av]; omega),QK QG]
 ·rw[QL h,QL h]
theorem II (l:List Int) (m:Nat) (y4 acc:List UInt8) (y5:Bool) (x:Int) (hx:l[3]? = some x) (hr:r64 x) (ha:acc.length≤1000) :
 cB l (m+1) y4 y5 acc 3=if (0≤x∧x≤4294967295) then (if bm (s32 x) 4=true then cB l m y4 y5 (acc++be 2 1++be (s32 x) 4) 4 else some (.ret ([],false))) else some (.ret ([],false)):=by
 obtain⟨r1,r2⟩:=hr
 rw[cB,QK QH,hx,Nr,QK QH]
 by_cases h:0≤x∧x≤4294967295
 ·have e1:(if x<0 then some true else (if x>4294967295 then some true else some false))=some false:=by rw[QL QG,QL QG]
  have e2:(if x>2147483647 then (if -9223372036854775808≤(x - 4294967296)∧(x - 4294967296)≤9223372036854775807 then some (x - 4294967296) else none) else some x)=some (s32 x):=by
   unfold s32
   by_cases q:x>2147483647
   ·rw[QK q,QK q,QK QG]
   ·rw[QL q,QL q]
  have e3:r64 (s32 x):=by unfold s32 r64; split <;> omega
  rw[e1,Nr,QL QH,e2,Nr,bO _ _ ⟨by decide,by decide,by decide⟩,Nr,QK (by rw[av]; show _+1≤ _; omega),QK h]
  show ((some (4:Int)).bind _)= _
  rw[Nr,zk _ _ e3,Nr]
  by_cases hf:bm (s32 x) 4=true
  ·rw[QK hf,QK hf,bO _ _ ⟨e3,by decide,by decide⟩,Nr,QK (by rw[Nv,av,av]; show _+1+4≤ _; omega),QK QH]
   rfl
  ·rw[QL hf,QL hf]
 ·have e1:(if x<0 then some true else (if x>4294967295 then some true else some false))=some true:=by
   by_cases q:x<0
   ·rw[QK q]
   ·rw[QL q,QK QG]
  rw[e1,Nr,QK rfl,QL h]
theorem rb_end (l:List Int) (m:Nat) (y4 acc:List UInt8) (y5:Bool):cB l (m+1) y4 y5 acc 12=some (.go (y4,y5,acc,12)):=by
 rw[cB,QL QH]
open Classical in
theorem zZ (p:Pfx) (hw:wP p):ie (kY p)=some (if okWp p then (nH p,true) else ([],false)):=by
 obtain⟨h1,h2,h3,h4,h5,h6,h7,h8,h9,h10,h11,h12⟩:=hw
 unfold ie
 rw[show (12:Int).toNat+1=12+1 from rfl]
 have no: ¬ okWp p→ ∀ (o:Option (Lp (List UInt8×Bool) (List UInt8×Bool×List UInt8×Nat))),o=some (.ret ([],false))→(o.bind fun e=>match e with | .ret r=>some r | .go (y55,y56,y57,k58)=>some (y57,true))=some (if okWp p then (nH p,true) else ([],false)):=by
  intro h o ho
  rw[ho,QL h]
  rfl
 by_cases f1:bm p.Na (8:Nat)=true
 rotate_left
 ·exact no (fun h=>f1 h.1.1) _ (by rw[gJ (kY p) 12 [] [] false 0 p.Na 8 QH QH rfl rfl QH h1 QH,QL f1])
 by_cases f2:bm p.Nf (4:Nat)=true
 rotate_left
 ·exact no (fun h=>f2 h.1.2.1) _ (by rw[gJ (kY p) 12 [] [] false 0 p.Na 8 QH QH rfl rfl QH h1 QH,QK f1,gJ (kY p) 11 [] _ false 1 p.Nf 4 QH QH rfl rfl QH h2 (by simp[av]),QL f2])
 by_cases f3:bm p.M3 (4:Nat)=true
 rotate_left
 ·exact no (fun h=>f3 h.1.2.2.1) _ (by rw[gJ (kY p) 12 [] [] false 0 p.Na 8 QH QH rfl rfl QH h1 QH,QK f1,gJ (kY p) 11 [] _ false 1 p.Nf 4 QH QH rfl rfl QH h2 (by simp[av]),QK f2,
   gJ (kY p) 10 [] _ false 2 p.M3 4 QH QH rfl rfl QH h3 (by simp[av]),QL f3])
 rw[gJ (kY p) 12 [] [] false 0 p.Na 8 QH QH rfl rfl QH h1 QH,QK f1,gJ (kY p) 11 [] _ false 1 p.Nf 4 QH QH rfl rfl QH h2 (by simp[av]),QK f2,
  gJ (kY p) 10 [] _ false 2 p.M3 4 QH QH rfl rfl QH h3 (by simp[av]),QK f3,II (kY p) 9 [] _ false p.Ni rfl h4 (by simp[av])]
 by_cases g4:0≤p.Ni∧p.Ni≤4294967295
 rotate_left
 ·exact no (fun h=>g4 h.2) _ (by rw[QL g4])
 rw[QK g4]
 by_cases f4:bm (s32 p.Ni) 4=true
 rotate_left
 ·exact no (fun h=>f4 h.1.2.2.2.2.1) _ (by rw[QL f4])
 rw[QK f4,gJ (kY p) 8 [] _ false 4 p.Nk 2 QH QH rfl rfl QH h5 (by simp[av])]
 by_cases f5:bm p.Nk (2:Nat)=true
 rotate_left
 ·exact no (fun h=>f5 h.1.2.2.2.2.2.1) _ (by rw[QL f5])
 rw[QK f5,gJ (kY p) 7 [] _ false 5 p.M7 4 QH QH rfl rfl QH h6 (by simp[av])]
 by_cases f6:bm p.M7 (4:Nat)=true
 rotate_left
 ·exact no (fun h=>f6 h.1.2.2.2.2.2.2.1) _ (by rw[QL f6])
 rw[QK f6,gJ (kY p) 6 [] _ false 6 p.MW 8 QH QH rfl rfl QH h7 (by simp[av])]
 by_cases f7:bm p.MW (8:Nat)=true
 rotate_left
 ·exact no (fun h=>f7 h.1.2.2.2.2.2.2.2.1) _ (by rw[QL f7])
 rw[QK f7,gJ (kY p) 5 [] _ false 7 p.Ng 8 QH QH rfl rfl QH h8 (by simp[av])]
 by_cases f8:bm p.Ng (8:Nat)=true
 rotate_left
 ·exact no (fun h=>f8 h.1.2.2.2.2.2.2.2.2.1) _ (by rw[QL f8])
 rw[QK f8,gJ (kY p) 4 [] _ false 8 p.MG 8 QH QH rfl rfl QH h9 (by simp[av])]
 by_cases f9:bm p.MG (8:Nat)=true
 rotate_left
 ·exact no (fun h=>f9 h.1.2.2.2.2.2.2.2.2.2.1) _ (by rw[QL f9])
 rw[QK f9,gJ (kY p) 3 [] _ false 9 p.MJ 2 QH QH rfl rfl QH h10 (by simp[av])]
 by_cases f10:bm p.MJ (2:Nat)=true
 rotate_left
 ·exact no (fun h=>f10 h.1.2.2.2.2.2.2.2.2.2.2.1) _ (by rw[QL f10])
 rw[QK f10,gJ (kY p) 2 [] _ false 10 p.MX 4 QH QH rfl rfl QH h11 (by simp[av])]
 by_cases f11:bm p.MX (4:Nat)=true
 rotate_left
 ·exact no (fun h=>f11 h.1.2.2.2.2.2.2.2.2.2.2.2.1) _ (by rw[QL f11])
 rw[QK f11,gJ (kY p) 1 [] _ false 11 p.Nj 4 QH QH rfl rfl QH h12 (by simp[av])]
 by_cases f12:bm p.Nj (4:Nat)=true
 rotate_left
 ·exact no (fun h=>f12 h.1.2.2.2.2.2.2.2.2.2.2.2.2.1) _ (by rw[QL f12])
 have hok:okWp p:=⟨⟨f1,f2,f3,rfl,f4,f5,f6,f7,f8,f9,f10,f11,f12,trivial⟩,g4⟩
 rw[QK f12,rb_end,Nr,QK hok]
 dsimp only
 unfold nH KS toL
 simp only[rF,NA,NM,NP]
theorem lB {st:I} (h:st.err≠0):cY st=some (⟨false,[]⟩,st):=QV.dead st h
theorem Km {st:I} (h:st.err≠0):wN st=some ([],st):=QN.dead st h
theorem D5:CQ pL (qG 32) 0:=(AQ 32 (.inl rfl)).cq (lL 32 (.inl rfl))
theorem wk {st:I} (h:st.err≠0):pL st=some (0,st):=D5.dead st h
def tD (each:Nat):Pr Int:=(qG 32).bind (tr each)
theorem D6 {each:Nat} {s:List UInt8} {q r:Nat} {n:Int} (hq:q≤s.length) (h:tD each s q= .ok (n,r)):0≤n∧(0<each→n*each≤((s.length - r:Nat):Int))∧q≤r∧r=q+(bY (bj n)).length∧r≤s.length∧s.take r=s.take q++bY (bj n)∧bj n<2 ^ (32:Int).toNat:=by
 obtain⟨m,r',h2,h⟩:=Pr.bind_ok h
 obtain⟨a1,a2,a3,a4,a5⟩:=(lL 32 (.inl rfl)).spell _ _ _ _ hq h2
 unfold tr at h
 split at h
 ·exact nomatch h
 ·rename_i hn
  split at h
  ·exact nomatch h
  ·rename_i he
   injection h with h
   obtain⟨rfl,rfl⟩:=N2 h
   refine⟨by omega,fun hz=> ?_,a1,a3,a2,a4,a5⟩
   have:m≤((s.length - r':Nat):Int) / each:=by
    rcases Int.lt_or_le (((s.length - r':Nat):Int) / each) m with g | g
    ·exact absurd ⟨hz,g⟩ he
    ·exact g
   exact (Int.le_ediv_iff_mul_le QG).1 this
theorem D7 {each:Nat} {s t:List UInt8} {q:Nat} {n:Int} (hq:q≤s.length) (hf:bj n<2 ^ (32:Int).toNat) (hn:0≤n) (h:s.drop q=bY (bj n)++t) (hl:0<each→n*each≤t.length):tD each s q= .ok (n,q+(bY (bj n)).length):=by
 have g:=(lL 32 (.inl rfl)).back s t q n hq hf h
 rw[tD,Pr.bind_of g]
 unfold tr
 have hlen:=congrArg List.length h
 rw[NI,Nv] at hlen
 rw[QL QG,QL]
 rintro⟨hz,hc⟩
 have:=(Int.le_ediv_iff_mul_le (show (0:Int)<each by omega)).2 (hl hz)
 rw[show s.length - (q+(bY (bj n)).length)=t.length by omega] at hc
 omega
def Ff {α:Type} (each:Nat) (p:Pr α):Pr (List α):=(tD each).bind fun n=>jU p n.toNat
theorem Kn {α:Type} {p:Pr α} {enc:α→List UInt8} {ok:α→Prop} (each:Nat) (hp:Sp p enc ok) (he: ∀ x,ok x→each≤(enc x).length):Sp (Ff each p) (fun l=>bY (bj (l.length:Int))++bd enc l) (fun l=>bj (l.length:Int)<2 ^ (32:Int).toNat∧ ∀ x,x∈l→ok x):=by
 refine⟨fun s q a r hq h=> ?_,fun s t q a hq ha h=> ?_⟩
 ·obtain⟨n,q1,g1,h⟩:=Pr.bind_ok h
  obtain⟨a1,a2,a3,a4,a5,a6,a7⟩:=D6 hq g1
  obtain⟨b1,b2,b3,b4,b5,b6⟩:=(xz hp n.toNat).spell _ _ _ _ a5 h
  have hn:(a.length:Int)=n:=by omega
  refine⟨by omega,b2,by rw[Nv,hn]; omega,by rw[b4,a6,hn,NA],by rw[hn]; exact a7,b6⟩
 ·rw[NA] at h
  have hl:=congrArg List.length h
  rw[NI,Nv,Nv] at hl
  have g1:=D7 (each:=each) hq ha.1 QG h (fun _=>by
   have:=oc he a ha.2
   rw[Nv,Int.natCast_add,← Int.natCast_mul]
   omega)
  have h2:=cz h
  have g2:=(xz hp a.length).back _ _ _ _ QG ⟨rfl,ha.2⟩ h2
  rw[Ff,Pr.bind_of g1,Oz,g2,Nv]
  simp only[Nat.add_assoc]
def pHd:Pr Hd:=zu.bind fun k=>oa.bind fun v=> .ret ⟨k,v⟩
def fo (h:Hd):List UInt8:=(bY (bj (h.M4.length:Int))++h.M4)++(bY (bj (co h.MV))++h.MV.data)
def okHd (h:Hd):Prop:=bj (h.M4.length:Int)<2 ^ (32:Int).toNat∧bj (co h.MV)<2 ^ (32:Int).toNat∧bw h.MV=true
theorem Sp_hd:Sp pHd fo okHd:=by
 refine⟨fun s q a r hq h=> ?_,fun s t q a hq ha h=> ?_⟩
 ·obtain⟨k,q1,h1,h⟩:=Pr.bind_ok h
  obtain⟨v,q2,h2,h⟩:=Pr.bind_ok h
  injection h with h
  obtain⟨rfl,rfl⟩:=N2 h
  obtain⟨a1,a2,a3,a4,a5⟩:=re.spell _ _ _ _ hq h1
  obtain⟨b1,b2,b3,b4,b5⟩:=kv.spell _ _ _ _ a2 h2
  exact⟨by omega,b2,by simp only[fo,Nv] at *; omega,by rw[b4,a4]; simp only[fo,NA],a5.1,b5⟩
 ·obtain⟨a1,a2,a3⟩:=ha
  have hl:=congrArg List.length h
  rw[fo,NA] at h
  have g1:=re.back _ _ _ _ hq ⟨a1,rfl⟩ h
  have h:=cz h
  have g2:=kv.back _ _ _ _ (by simp only[fo,NI,Nv] at *; omega) ⟨a2,a3⟩ h
  rw[pHd,Pr.bind_of g1,Pr.bind_of g2]
  simp only[Pr.ret,fo,Nv,Nat.add_assoc]
theorem IJ (h:Hd) (ho:okHd h):2≤(fo h).length:=by
 have h1:=qg (bj (h.M4.length:Int))
 have h2:=qg (bj (co h.MV))
 simp only[fo,Nv]
 omega
def GG:Pr (List Hd):=Ff 2 pHd
theorem IK:Sp GG (fun l=>bY (bj (l.length:Int))++bd fo l) (fun l=>bj (l.length:Int)<2 ^ (32:Int).toNat∧ ∀ h,h∈l→okHd h):=Kn 2 Sp_hd IJ
theorem Fg (n:Int) (s:List UInt8) (hs:s.length≤1000000) (hn:n≤1000000): ∀ (m fuel k:Nat) (acc:List Hd) (q:Nat),((k+m:Nat):Int)=n→m<fuel→q≤s.length→acc.length=k →
 (∃ (e:Int) (st:I),jU pHd m s q= .error e∧dB n fuel [] acc k ⟨s.drop q,q,0⟩=some (.ret ([],st))∧st.err=e∧st.err≠0) ∨
 (∃ l r,jU pHd m s q= .ok (l,r)∧dB n fuel [] acc k ⟨s.drop q,q,0⟩=some (.go ([],acc++l,k+m,⟨s.drop r,r,0⟩))∧q≤r∧r≤s.length)
 | 0,fuel+1,k,acc,q,h1,h2,h3,h4=> .inr ⟨[],q,rfl,by rw[dB,QL QG,NP]; rfl,NW _,h3⟩
 | m+1,fuel+1,k,acc,q,h1,h2,h3,h4=>by
  rw[dB,QK QG]
  rcases QN.run s q h3 with⟨e,st,p1,g1,x1,y1⟩ | ⟨nm,q1,p1,g1,n1,l1⟩
  ·left
   refine⟨e,st,by rw[jU,Pr.bind_err (show pHd s q= .error e from Pr.bind_err p1)],?_,x1,y1⟩
   rw[g1,Nr]
   simp only
   rw[lB y1,Nr]
   simp only
   rw[QK QG,bz,Nr]
   simp only
   rw[QL y1]
  rw[g1,Nr]
  simp only
  rcases QV.run s q1 l1 with⟨e,st,p2,g2,x2,y2⟩ | ⟨v,q2,p2,g2,n2,l2⟩
  ·left
   have ht:pHd s q= .error e:=by rw[pHd,Pr.bind_of p1,Pr.bind_err p2]
   refine⟨e,st,by rw[jU,Pr.bind_err ht],?_,x2,y2⟩
   rw[g2,Nr]
   simp only
   rw[QK QG,bz,Nr]
   simp only
   rw[QL y2]
  rw[g2,Nr]
  simp only
  rw[QK QG,bz,Nr]
  simp only[if_true]
  rw[QK QG]
  have ht:pHd s q= .ok (⟨nm,v⟩,q2):=by rw[pHd,Pr.bind_of p1,Pr.bind_of p2]; rfl
  rw[jU,Pr.bind_of ht]
  rcases Fg n s hs hn m fuel (k+1) (acc ++ [(⟨nm,v⟩:Hd)]) q2 QG QG l2 (by rw[Nv,h4]; rfl) with⟨e,st,r1,r2,r3,r4⟩ | ⟨l,r,r1,r2,r3,r4⟩
  ·exact .inl ⟨e,st,by rw[Pr.bind_err r1],r2,r3,r4⟩
  ·refine .inr ⟨⟨nm,v⟩::l,r,by rw[Pr.bind_of r1]; rfl,?_,by omega,r4⟩
   rw[r2,NA,show k+1+m=k+(m+1) by omega]
   rfl
theorem B_hds:CB cc GG []:=by
 refine⟨fun st h=> ?_,fun s q hs hq=> ?_⟩
 ·unfold cc
  rw[wk h,Nr]
  simp only
  rw[bz,Nr]
  simp only
  rw[QL h]
 ·unfold cc
  rcases D5.run s q hq with⟨e,st,p1,g1,x1,y1⟩ | ⟨c,q1,p1,g1,n1,l1⟩
  ·refine .inl ⟨e,st,Pr.bind_err (Pr.bind_err p1),?_,x1,y1⟩
   rw[g1,Nr]
   simp only
   rw[bz,Nr]
   simp only
   rw[QL y1]
  ·rw[g1,Nr]
   simp only
   rw[bz,Nr]
   simp only[if_true]
   have hd:(s.drop q1).length=s.length - q1:=NI
   have hE:GG s q=((tr 2 c).bind fun n=>jU pHd n.toNat) s q1:=by
    unfold GG Ff tD Pr.bind
    rw[p1]
   rw[hE]
   unfold Pr.bind tr
   by_cases hn:c<0
   ·rw[QK hn,QK hn]
    exact .inl ⟨4,_,rfl,rfl,rfl,by simp[dx]⟩
   rw[QL hn,QL hn,sJ,Nr]
   simp only
   rw[hd,QK (show 0≤((s.length - q1:Nat):Int)∧((s.length - q1:Nat):Int)≤9223372036854775807 by omega)]
   by_cases hc:0<2∧((s.length - q1:Nat):Int) / ((2:Nat):Int)<c
   ·have hc2:c>((s.length - q1:Nat):Int) / 2:=hc.2
    rw[QK hc,QK hc2]
    exact .inl ⟨1,_,rfl,rfl,rfl,by simp[dx]⟩
   ·have hc2: ¬ c>((s.length - q1:Nat):Int) / 2:=fun h=>hc ⟨by decide,h⟩
    rw[QL hc,QL hc2]
    simp only
    rcases Fg c s hs QG c.toNat (c.toNat+1) 0 [] q1 QG QG l1 rfl with⟨e,st,r1,r2,r3,r4⟩ | ⟨l,r,r1,r2,r3,r4⟩
    ·exact .inl ⟨e,st,r1,by rw[r2]; rfl,r3,r4⟩
    ·refine .inr ⟨l,r,r1,?_,by omega,r4⟩
     rw[r2,NM]
     rfl
def hwt (h:Hd):Nat:=20+h.M4.length+h.MV.data.length
def lC:List Hd→Nat
 | []=>0
 | h::l=>hwt h+lC l
theorem jK (n:Int) (h: -1≤n) (h2:n≤2147483647):(bY (bj n)).length≤10:=gh _ (eX n QG QG)
theorem nI (n:Int) (h: -1≤n) (h2:n≤2147483647):bj n<2 ^ (32:Int).toNat:=by
 rw[show 2 ^ (32:Int).toNat=4294967296 by decide]
 exact Dm n ⟨by omega,h2⟩
theorem nJ (b:Bl) (h:b.data.length≤2147483647): -1≤co b∧co b≤2147483647:=by unfold co; split <;> omega
theorem vi (h:Hd) (hk:h.M4.length≤1000000) (hv:h.MV.data.length≤1000000):(fo h).length≤hwt h:=by
 have h1:=jK (h.M4.length:Int) QG QG
 have hb:=nJ h.MV QG
 have h2:=jK (co h.MV) hb.1 hb.2
 simp only[fo,Nv,hwt]
 omega
theorem xS: ∀ l:List Hd,lC l≤1000000→(bd fo l).length≤lC l
 | [],h=>NW _
 | x::l,h=>by
  have h1:hwt x≤lC (x::l):=by rw[lC]; omega
  have h2:=xS l (by rw[lC] at h; omega)
  have h3:=vi x (by unfold hwt at h1; omega) (by unfold hwt at h1; omega)
  rw[bd,Nv,lC]
  omega
theorem xT {t d:List UInt8} (hf:d.length≤1000000) (ht:t.length≤1000000000):oH (t,0) d=some (t++(bY (bj (d.length:Int))++d),0):=by
 have:=mJ (t:=t) (b:=⟨false,d⟩) rfl (by simp only; omega) (by simp only; omega)
 rw[BQ _ _ (by simp only; omega)]
 rw[rI _ _ (by simp only; omega)] at this
 exact this
theorem hw_l1: ∀ (l:List Hd) (t:List UInt8),(∀ h,h∈l→bw h.MV=true)→t.length+lC l≤1000000→dL l (t,0)=some (t++bd fo l,0)
 | [],t,h,hl=>by rw[dL,bd,NP]
 | x::l,t,h,hl=>by
  have hx:t.length+(hwt x+lC l)≤1000000:=hl
  have h1:=vi x (by unfold hwt at hx; omega) (by unfold hwt at hx; omega)
  have h2:(bY (bj (x.M4.length:Int))++x.M4).length≤(fo x).length:=by simp only[fo,Nv]; omega
  have e:t++(bY (bj (x.M4.length:Int))++x.M4)++(bY (bj (co x.MV))++x.MV.data)=t++fo x:=by simp only[fo,NA]
  have h3:(t++(bY (bj (x.M4.length:Int))++x.M4)).length=t.length+(bY (bj (x.M4.length:Int))++x.M4).length:=Nv
  rw[dL,xT (by unfold hwt at hx; omega) QG,Nr,mJ (h x (.head _)) (by unfold hwt at hx; omega) (by rw[h3]; unfold hwt at hx h1; omega),Nr,e,hw_l1 l _ (fun y hy=>h y (.tail _ hy)) (by rw[Nv]; omega),bd,NA]
theorem o8: ∀ l:List Hd,l.length*20≤lC l
 | []=>by simp[lC]
 | h::l=>by have:=o8 l; simp only[lC,hwt,NB]; omega
theorem Cy: ∀ (l:List Hd) (h:Hd),h∈l→hwt h≤lC l
 | x::l,h,hm=>by
  rcases List.mem_cons.1 hm with rfl | hm
  ·simp only[lC]; omega
  ·have:=Cy l h hm; simp only[lC]; omega
theorem IL (l:List Hd) (t:List UInt8) (h: ∀ x,x∈l→bw x.MV=true) (ht:t.length+10+lC l≤1000000):jr (t,0) l=some (t++(bY (bj (l.length:Int))++bd fo l),0):=by
 have hn:=o8 l
 have h1:=jK (l.length:Int) QG QG
 unfold jr
 rw[wJ _ _ ⟨by omega,by simp only; omega⟩]
 unfold jz
 rw[QK QG,oh,Nr,hw_l1 l _ h (by rw[Nv]; omega),NA]
 rfl
theorem wl (n:Int) (h: -9223372036854775808≤n∧n≤9223372036854775807):km n=some (bY (bj n)):=by
 have:=eX n h.1 h.2
 unfold km
 rw[F3 _ h,Nr,Hq _ QG,Nr,Oz]
theorem z0 (a0:List Hd) (hb:lC a0≤1000000): ∀ (l:List Hd) (t:List UInt8) (k fuel:Nat),a0.drop k=l→l.length<fuel→t.length+lC l≤2000000→lC l≤1000000→ ∃ z,eY a0 fuel t k=some (t++bd fo l,z)
 | [],t,k,fuel+1,h,hf,hl,hl2=>by
  have:a0.length≤k:=List.drop_eq_nil_iff.1 h
  exact⟨k,by rw[eY,QL QG,bd,NP]⟩
 | x::l,t,k,fuel+1,h,hf,hl,hl2=>by
  have hlen:=congrArg List.length h
  rw[NI,NB] at hlen
  have g1:a0[k]? = some x:=by have:=congrArg (fun z=>z[0]?) h; simpa using this
  have g2:a0.drop (k+1)=l:=by rw[← Ol,h]; rfl
  have hn:=o8 a0
  rw[NB] at hf
  have hx:t.length+(hwt x+lC l)≤2000000:=hl
  have hx2:hwt x+lC l≤1000000:=hl2
  have h1:=vi x (by unfold hwt at hx2; omega) (by unfold hwt at hx2; omega)
  have e:t++(bY (bj (co ⟨false,x.M4⟩))++x.M4)++(bY (bj (co x.MV))++x.MV.data)=t++fo x:=by
   simp only[fo,NA]
   rfl
  have e1:(bY (bj (co ⟨false,x.M4⟩))++x.M4).length≤(fo x).length∧(bY (bj (co x.MV))++x.MV.data).length≤(fo x).length:=by
   simp only[fo,Nv]
   have:co ⟨false,x.M4⟩=(x.M4.length:Int):=rfl
   rw[this]
   omega
  obtain⟨z,hz⟩:=z0 a0 hb l (t++fo x) (k+1) fuel g2 QG (by rw[Nv]; omega) QG
  rw[eY,QK QG,g1,Nr,mE _ (by unfold hwt at hx2; simp only; omega),Nr,QK (by simp only; omega),mE _ (by unfold hwt at hx2; omega),Nr,QK (by rw[Nv]; simp only; omega),QK QG]
  refine⟨z,?_⟩
  simp only
  rw[e,hz,bd,NA]
theorem GH (l:List Hd) (hb:lC l≤1000000):lT l=some (bY (bj (l.length:Int))++bd fo l):=by
 have hn:=o8 l
 have h1:=jK (l.length:Int) QG QG
 unfold lT
 rw[wl _ QG,Nr]
 obtain⟨z,hz⟩:=z0 l hb l (bY (bj (l.length:Int))) 0 (((l.length:Int)).toNat+1) rfl QG QG hb
 rw[hz]
 rfl
end Go.Proofs.YtheikonlgjdopaaGreat.Sl
