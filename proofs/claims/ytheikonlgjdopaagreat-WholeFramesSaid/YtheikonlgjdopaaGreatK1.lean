/- wholeFrames_holds: part 1. -/
import Derived.Laws.BytesString
import Derived.Laws.Cells
import Derived.Laws.MakeOwn
import Derived.Laws.CopyRow
import Derived.Lib.Builder
import Derived.Lib.UnsafeStr
import Derived.Laws.IdiomCopy
import Derived.ChangeKeysEq
import Derived.Test.YtheikonlgjdopaaGreatK0
set_option maxRecDepth 100000
set_option maxHeartbeats 4000000
set_option linter.defProp false
namespace Go.Proofs.YtheikonlgjdopaaGreat.Sl
open Go.RowKit
set_option linter.unusedVariables false
set_option linter.unusedSimpArgs false
theorem Jn {α β : Type} {o : Option α} {f : α -> Option β} {b : β} (h : o.bind f = some b) : ∃ a, o = some a /\ f a = some b := Option.bind_eq_some_iff.1 h
def Jq := @decide_eq_true
def Jr := @decide_eq_false
def JE := @List.append_nil
def JJ := @Tryz.runUnderlying9
def JO := @Tryz.sizeOf9
def JZ := @Tryz.isAgg9
def J0 := @Tryz.runUnderlying28
def J5 := @Tryz.runUnderlying74
def Kn := @List.length_map
def Ko := @Tryz.sizeOf171
def Kt := @List.length_singleton
def KC := @Tryz.runUnderlying171
def Ld := @Tryz.sizeOf74
def Lk := @Tryz.isAgg74
section
variable {P:Program} {n:Nat} {F0:Nat->Prop} {w0:World} {e:Env} {Rs:List Res} {S:World->Prop} {d:Option Tmp} {ty:TypeId} {pos:String} {af:Array Edge} {gd:Option (Nat×Bool)} {v:Value} {x y ix:Operand} {t t' el:TypeId}
theorem G7 {ft:ey} {op:Op} (hft:ft.OK P) (h:yi ft e op=some v):Ex P n e S ⟨d,op,ty,pos,af,gd⟩ v:=me hft h
theorem GK {A:Option Addr} {m c:Nat} (hx:e.ev x=some (.slice A m c)) (hu: ∀ w,(underlying t).run P w= .ok (.slice el) w):Ex P n e S ⟨d,.call ⟨.builtin .len,#[x],#[t]⟩,ty,pos,af,gd⟩ (.int .i64 (m:Int)):=by
 intro a w ha _;simp[execOp,resolve,invoke,builtin,ha.ev hx,Builtin.len_,hu,goInt]
theorem Hv {l:List UInt8} (hx:e.ev x=some (.string (bsOf l))) (hu: ∀ w,(underlying t).run P w= .ok .string w):Ex P n e S ⟨d,.call ⟨.builtin .len,#[x],#[t]⟩,ty,pos,af,gd⟩ (.int .i64 (l.length:Int)):=by
 intro a w ha _;simp[execOp,resolve,invoke,builtin,ha.ev hx,Builtin.len_,hu,goInt,ck]
theorem Ex.add {p q:Int} (hx:e.ev x=some (.int .i64 p)) (hy:e.ev y=some (.int .i64 q)) (h: -9223372036854775808<=p+q/\p+q<=9223372036854775807):Ex P n e S ⟨d,.binOp .add t x y t',ty,pos,af,gd⟩ (.int .i64 (p+q)):=by
 intro a w ha _;simp[execOp,ha.ev hx,ha.ev hy,eqGuard,binOp,Op.intArith,IntWalk.i64_in _ h]
theorem Ex.sub {p q:Int} (hx:e.ev x=some (.int .i64 p)) (hy:e.ev y=some (.int .i64 q)) (h: -9223372036854775808<=p - q/\p - q<=9223372036854775807):Ex P n e S ⟨d,.binOp .sub t x y t',ty,pos,af,gd⟩ (.int .i64 (p - q)):=by
 intro a w ha _;simp[execOp,ha.ev hx,ha.ev hy,eqGuard,binOp,Op.intArith,IntWalk.i64_in _ h]
theorem Ex.mul {p q:Int} (hx:e.ev x=some (.int .i64 p)) (hy:e.ev y=some (.int .i64 q)) (h: -9223372036854775808<=p*q/\p*q<=9223372036854775807):Ex P n e S ⟨d,.binOp .mul t x y t',ty,pos,af,gd⟩ (.int .i64 (p*q)):=by
 intro a w ha _;simp[execOp,ha.ev hx,ha.ev hy,eqGuard,binOp,Op.intArith,IntWalk.i64_in _ h]
theorem Ex.addw {k:IntKind} {p q:Int} (hx:e.ev x=some (.int k p)) (hy:e.ev y=some (.int k q)):Ex P n e S ⟨d,.binOp .add t x y t',ty,pos,af,gd⟩ (.int k (k.wrap (p+q))):=by
 intro a w ha _;simp[execOp,ha.ev hx,ha.ev hy,eqGuard,binOp,Op.intArith]
theorem Ex.quo {p q:Int} (hx:e.ev x=some (.int .i64 p)) (hy:e.ev y=some (.int .i64 q)) (hq:1<=q) (h:0<=p/\p<=9223372036854775807):Ex P n e S ⟨d,.binOp .quo t x y t',ty,pos,af,gd⟩ (.int .i64 (p / q)):=by
 intro a w ha _;have h0: ¬ q=0:=by omega
 simp[execOp,ha.ev hx,ha.ev hy,eqGuard,binOp,Op.intDiv,h0,IntWalk.i64_quo _ _ ⟨h.1,h.2,hq⟩]
theorem Ex.conv {k k':IntKind} {p:Int} (hx:e.ev x=some (.int k' p)) (hs: ∀ w,(underlying t).run P w= .ok (.int k') w) (hu: ∀ w,(underlying t').run P w= .ok (.int k) w):Ex P n e S ⟨d,.convert t t' x,ty,pos,af,gd⟩ (.int k (k.wrap p)):=by
 intro a w ha _;simp[execOp,ha.ev hx,convert,hs,hu,Conv.intToInt]
theorem In {p:Int} {k':IntKind} (hx:e.ev x=some (.int k' p)) (hs: ∀ w,(underlying t).run P w= .ok (.int k') w) (hu: ∀ w,(underlying t').run P w= .ok (.int .i64) w) (h: -9223372036854775808<=p/\p<=9223372036854775807):Ex P n e S ⟨d,.convert t t' x,ty,pos,af,gd⟩ (.int .i64 p):=by
 have:=Ex.conv (P:=P) (n:=n) (S:=S) (d:=d) (ty:=ty) (pos:=pos) (af:=af) (gd:=gd) hx hs hu
 rwa [IntWalk.i64_in _ h] at this
theorem Ex.maxy {p q:Int} {k k':IntKind} {ts:Array TypeId} (hx:e.ev x=some (.int k p)) (hy:e.ev y=some (.int k' q)) (h:p<q):Ex P n e S ⟨d,.call ⟨.builtin .max,#[x,y],ts⟩,ty,pos,af,gd⟩ (.int k q):=by
 intro a w ha _;simp[execOp,resolve,invoke,builtin,ha.ev hx,ha.ev hy,Builtin.max_,Builtin.max2,h]
theorem Ex.maxx {p q:Int} {k k':IntKind} {ts:Array TypeId} (hx:e.ev x=some (.int k p)) (hy:e.ev y=some (.int k' q)) (h: ¬ p<q):Ex P n e S ⟨d,.call ⟨.builtin .max,#[x,y],ts⟩,ty,pos,af,gd⟩ (.int k p):=by
 intro a w ha _;simp[execOp,resolve,invoke,builtin,ha.ev hx,ha.ev hy,Builtin.max_,Builtin.max2,h]
theorem Ex.miny {p q:Int} {k k':IntKind} {ts:Array TypeId} (hx:e.ev x=some (.int k p)) (hy:e.ev y=some (.int k' q)) (h:q<p):Ex P n e S ⟨d,.call ⟨.builtin .min,#[x,y],ts⟩,ty,pos,af,gd⟩ (.int k q):=by
 intro a w ha _;simp[execOp,resolve,invoke,builtin,ha.ev hx,ha.ev hy,Builtin.min_,Builtin.min2,h]
theorem Ex.minx {p q:Int} {k k':IntKind} {ts:Array TypeId} (hx:e.ev x=some (.int k p)) (hy:e.ev y=some (.int k' q)) (h: ¬ q<p):Ex P n e S ⟨d,.call ⟨.builtin .min,#[x,y],ts⟩,ty,pos,af,gd⟩ (.int k p):=by
 intro a w ha _;simp[execOp,resolve,invoke,builtin,ha.ev hx,ha.ev hy,Builtin.min_,Builtin.min2,h]
theorem Hy {c:Operand} {b:Bool} (hc:e.ev c=some (.bool b)) (hb:b=true) (hx:e.ev x=some v):Ex P n e S ⟨d,.pick c x y,ty,pos,af,gd⟩ v:=by
 intro a w ha _;subst hb;simp[execOp,ha.ev hc,ha.ev hx,asBool]
theorem Hq {c:Operand} {b:Bool} (hc:e.ev c=some (.bool b)) (hb:b=false) (hy:e.ev y=some v):Ex P n e S ⟨d,.pick c x y,ty,pos,af,gd⟩ v:=by
 intro a w ha _;subst hb;simp[execOp,ha.ev hc,ha.ev hy,asBool]
theorem Ex.sEq {l m:List UInt8} (hx:e.ev x=some (.string (bsOf l))) (hy:e.ev y=some (.string (bsOf m))):Ex P n e S ⟨d,.binOp .eql t x y t',ty,pos,af,gd⟩ (.bool (decide (l=m))):=by
 intro a w ha _;have:(l == m)=decide (l=m):=by by_cases h:l=m <;> simp[h]
 simp[execOp,ha.ev hx,ha.ev hy,eqGuard,binOp_string_eql,eJ,this]
theorem Ex.sNe {l m:List UInt8} (hx:e.ev x=some (.string (bsOf l))) (hy:e.ev y=some (.string (bsOf m))):Ex P n e S ⟨d,.binOp .neq t x y t',ty,pos,af,gd⟩ (.bool (!decide (l=m))):=by
 intro a w ha _;have:(l == m)=decide (l=m):=by by_cases h:l=m <;> simp[h]
 simp[execOp,ha.ev hx,ha.ev hy,eqGuard,binOp_string_neq,eJ,this]
theorem Ex.sGe {l m:List UInt8} (hx:e.ev x=some (.string (bsOf l))) (hy:e.ev y=some (.string (bsOf m))):Ex P n e S ⟨d,.binOp .geq t x y t',ty,pos,af,gd⟩ (.bool (!Op.bytesLess l m)):=by
 intro a w ha _;simp[execOp,ha.ev hx,ha.ev hy,eqGuard,binOp,Op.stringOp,eJ]
theorem Ex.sAdd {l m:List UInt8} (hx:e.ev x=some (.string (bsOf l))) (hy:e.ev y=some (.string (bsOf m))) (h:l.length+m.length<=9223372036854775807):Ex P n e S ⟨d,.binOp .add t x y t',ty,pos,af,gd⟩ (.string (bsOf (l++m))):=by
 intro a w ha _;have h2: ¬ (((bsOf l).size+(bsOf m).size:Nat):Int)>IntKind.i64.max:=by
  have e1:IntKind.i64.max=9223372036854775807:=by decide
  rw[e1,ck,ck];omega
 have h3:bsOf l++bsOf m=bsOf (l++m):=by
  apply ByteArray.ext;apply Array.ext';simp[bsOf]
 simp only[execOp,ha.ev hx,ha.ev hy,eqGuard,binOp_string_add,Op.stringOp,h2,if_false,h3];rfl
theorem Ex.sIx {l:List UInt8} {k:Nat} {i:Int} {c:UInt8} {q:IntKind} (hx:e.ev x=some (.string (bsOf l))) (hi:e.ev ix=some (.int q i)) (hik:i=(k:Int)) (hu:P.underlying t=some .string) (hc:l[k]? = some c):Ex P n e S ⟨d,.index t x ix,ty,pos,af,gd⟩ (.int .u8 (c.toNat:Int)):=by
 intro a w ha _;subst hik;have hk:=(Jt hc).1;have h1:(0:Int)<=(k:Int)/\(k:Int)<((bsOf l).size:Int):=by rw[ck]; omega
 have h2:(bsOf l)[k]'(by rw[ck]; exact hk)=c:=by
  have:l[k]=c:=(Jt hc).2;show (bsOf l).data[k]=c;simpa [bsOf] using this
 simp only[execOp,ha.ev hx,ha.ev hi,Sem.run_bind,run_index_string w t (bsOf l) q k hu];rw[dif_pos h1];simp[h2]
inductive LoOK (e:Env):Option Operand->Nat->Prop where
 | none:LoOK e none 0
 | some {o:Operand} {k:IntKind} {i:Int} {p:Nat} (h:e.ev o=some (.int k i)) (hi:i=(p:Int)):LoOK e (some o) p
inductive HiOK (e:Env) (n:Nat):Option Operand->Nat->Prop where
 | none:HiOK e n none n
 | some {o:Operand} {k:IntKind} {i:Int} {p:Nat} (h:e.ev o=some (.int k i)) (hi:i=(p:Int)):HiOK e n (some o) p
theorem Is {l:List UInt8} {lo hi:Option Operand} {p q:Nat} (hx:e.ev x=some (.string (bsOf l))) (hu: ∀ w,(underlying t).run P w= .ok .string w)
 (hlo:LoOK e lo p) (hhi:HiOK e l.length hi q) (h:p<=q/\q<=l.length) {m:List UInt8} (hm:(l.drop p).take (q - p)=m) :
 Ex P n e S ⟨d,.slice t x lo hi none,ty,pos,af,gd⟩ (.string (bsOf m)):=by
 intro a w ha _;have e1:(bsOf l).extract p q=bsOf m:=by rw[nD,cP,hm]
 have b1: ∀ k cd,(Instr.sliceBound (.int k (q:Int)) l.length cd).run P w= .ok q w:=by
  intro k cd;have:(0:Int)<=(q:Int)/\(q:Int)<=(l.length:Int):=by omega
  simp[Instr.sliceBound,asIntOf,this]
 have b2: ∀ k cd,(Instr.sliceBound (.int k (p:Int)) q cd).run P w= .ok p w:=by
  intro k cd;have:(0:Int)<=(p:Int)/\(p:Int)<=(q:Int):=by omega
  simp[Instr.sliceBound,asIntOf,this]
 cases hlo with
 | none =>
  cases hhi with
  | none =>
   obtain rfl:l=m:=by simpa using hm
   have e2:(bsOf l).extract 0 l.length=bsOf l:=by simpa using e1
   simp[execOp,ha.ev hx,Instr.sliceAt,Instr.slice,hu,Instr.sliceBounds,ck,e2]
  | some ho hi =>
   subst hi;simp[execOp,ha.ev hx,ha.ev ho,Instr.sliceAt,Instr.slice,hu,Instr.sliceBounds,ck,b1,e1]
 | some ho hi =>
  subst hi
  cases hhi with
  | none =>
   simp[execOp,ha.ev hx,ha.ev ho,Instr.sliceAt,Instr.slice,hu,Instr.sliceBounds,ck,b2,e1]
  | some ho' hi' =>
   subst hi';simp[execOp,ha.ev hx,ha.ev ho,ha.ev ho',Instr.sliceAt,Instr.slice,hu,Instr.sliceBounds,ck,b1,b2,e1]
theorem GS {g o m c z k:Nat} {i:Int} {q:IntKind} (hx:e.ev x=some (.slice (some ⟨g,o,none⟩) m c)) (hi:e.ev ix=some (.int q i)) (hik:i=(k:Int)) (hu: ∀ w,(underlying t).run P w= .ok (.slice el) w) (hz: ∀ w,(sizeOf el).run P w= .ok z w) (hk:k<m) :
 Ex P n e S ⟨d,.indexAddr t x ix,ty,pos,af,gd⟩ (.pointer (some ⟨g,o+k*z,none⟩)):=by
 intro a w ha _;subst hik;have h1:(0:Int)<=(k:Int)/\(k:Int)<(m:Int):=by omega
 have h2:(⟨g,o,none⟩:Addr).add (k*z)=⟨g,o+k*z,none⟩:=by unfold Addr.add; split <;> simp_all
 have h3:(Instr.indexAt t (.slice (some ⟨g,o,none⟩) m c) (.int q (k:Int))).run P w= .ok (.pointer (some ⟨g,o+k*z,none⟩)) w:=by
  simp only[Instr.indexAt,asIntOf,Sem.run_bind,Sem.run_pure,Result.andThen_ok,hu];rw[Mg h1];simp[hz,h2]
 simp[execOp,ha.ev hx,ha.ev hi,h3]
theorem xb {w:World} {ad:Addr} (ha: ∀ w,(isAgg t).run P w= .ok false w) (hc:w.cell? ad=some v):(loadVar t ad).run P w= .ok v w:=by
 simp[loadVar,ha,hc]
theorem qh {w:World} {ad:Addr} {cs:List Value} (ha: ∀ w,(isAgg t).run P w= .ok true w) (hz: ∀ w,(sizeOf t).run P w= .ok cs.length w) (hc: ∀ j u,cs[j]? = some u->w.cell? (ad.add j)=some u):(loadVar t ad).run P w= .ok (.agg cs.toArray) w:=by
 simp[loadVar,ha,hz,run_loadCells_list w ad cs hc]
theorem Ex.ld1 {ad:Addr} (hx:e.ev x=some (.pointer (some ad))) (ha: ∀ w,(isAgg t).run P w= .ok false w) (hc: ∀ w,S w->w.cell? ad=some v):Ex P n e S ⟨d,.load t x,ty,pos,af,gd⟩ v:=by
 intro a w h hs;simp[execOp,h.ev hx,Instr.loadAt,Instr.sureAddr,xb ha (hc w hs)]
theorem Ex.ldS {ad:Addr} {cs:List Value} {z:Nat} (hx:e.ev x=some (.pointer (some ad))) (ha: ∀ w,(isAgg t).run P w= .ok true w) (hz: ∀ w,(sizeOf t).run P w= .ok z w) (hl:cs.length=z) (hc: ∀ w,S w-> ∀ j u,cs[j]? = some u->w.cell? (ad.add j)=some u):Ex P n e S ⟨d,.load t x,ty,pos,af,gd⟩ (.agg cs.toArray):=by
 intro a w h hs;subst hl;simp[execOp,h.ev hx,Instr.loadAt,Instr.sureAddr,qh ha hz (hc w hs)]
theorem GM (i:Nat) {b o:Nat} {T:TypeId} {cs:Array Value} (hx:e.ev x=some (.pointer (some ⟨b,o,none⟩))) (ha: ∀ w,(isAgg t).run P w= .ok false w) (hi:Rs[i]? = some (aN b T cs)) (hv:cs[o]? = some v):Ex P n e (St F0 w0 Rs) ⟨d,.load t x,ty,pos,af,gd⟩ v :=
 Ex.ld1 hx ha (fun w hw=>(bt (hw.blk i hi) o).trans hv)
theorem GH (i:Nat) {b o z:Nat} {T:TypeId} {cs:Array Value} {us:List Value} (hx:e.ev x=some (.pointer (some ⟨b,o,none⟩))) (ha: ∀ w,(isAgg t).run P w= .ok true w) (hz: ∀ w,(sizeOf t).run P w= .ok z w) (hi:Rs[i]? = some (aN b T cs))
 (hv:(cs.toList.drop o).take z=us) (hl:Nat.beq us.length z=true):Ex P n e (St F0 w0 Rs) ⟨d,.load t x,ty,pos,af,gd⟩ (.agg us.toArray):=by
 refine Ex.ldS hx ha hz (Nat.eq_of_beq_eq_true hl) (fun w hw j u hj=> ?_);have h2:(⟨b,o,none⟩:Addr).add j=⟨b,o+j,none⟩:=by unfold Addr.add; split <;> simp_all
 rw[h2,bt (hw.blk i hi)];subst hv;rw[List.getElem?_take] at hj;split at hj
 ·rw[List.getElem?_drop] at hj;simpa using hj
 ·cases hj
theorem Hr {g q z:Nat} (j:Nat) {cs:List Value} (hx:e.ev x=some (.pointer (some ⟨g,q+j,none⟩))) (ha: ∀ w,(isAgg t).run P w= .ok false w) (nf: ¬ F0 g/\g<w0.heap.size) (hc: ∀ j,j<z->w0.cell? ⟨g,q+j,none⟩=cs[j]?) (hj:Nat.blt j z=true) (hv:cs[j]? = some v) :
 Ex P n e (St F0 w0 Rs) ⟨d,.load t x,ty,pos,af,gd⟩ v :=
 Ex.ld1 hx ha (fun w hw=>hw.old2 nf ((hc j (by simpa [Nat.blt_eq] using hj)).trans hv))
theorem Ho {g q z z':Nat} (k:Nat) {cs us:List Value} (hx:e.ev x=some (.pointer (some ⟨g,q+k,none⟩))) (ha: ∀ w,(isAgg t).run P w= .ok true w) (hz: ∀ w,(sizeOf t).run P w= .ok z' w) (nf: ¬ F0 g/\g<w0.heap.size) (hc: ∀ j,j<z->w0.cell? ⟨g,q+j,none⟩=cs[j]?) (hcl:cs.length=z)
 (hv:(cs.drop k).take z'=us) (hl:Nat.beq us.length z'=true):Ex P n e (St F0 w0 Rs) ⟨d,.load t x,ty,pos,af,gd⟩ (.agg us.toArray):=by
 refine Ex.ldS hx ha hz (Nat.eq_of_beq_eq_true hl) (fun w hw j u hj=> ?_);have h2:(⟨g,q+k,none⟩:Addr).add j=⟨g,q+(k+j),none⟩:=by unfold Addr.add; split <;> simp_all [Nat.add_assoc]
 rw[h2];subst hv;rw[List.getElem?_take] at hj;split at hj
 ·rw[List.getElem?_drop] at hj;have hlt:=(Jt hj).1;exact hw.old2 nf ((hc (k+j) Mc).trans hj)
 ·cases hj
def BOK (P:Program) (t:TypeId) (zs:Array Value) (pl:List (Nat×Nat)):Prop:= ∀ (parts:Array (Nat×Value)) (cells:Array Value) (w:World),Instr.fill (pl[·]?) zs parts.toList=some cells->(Instr.build t parts).run P w= .ok (.agg cells) w
theorem GW {zs cells:Array Value} {pl:List (Nat×Nat)} {ps:List (Nat×Operand)} {vs:List Value} (hB:BOK P t zs pl) (hv:e.evs (ps.map (·.2))=some vs) (hf:Instr.fill (pl[·]?) zs ((ps.map (·.1)).zip vs)=some cells):Ex P n e S ⟨d,.build t ps.toArray,ty,pos,af,gd⟩ (.agg cells):=by
 intro a w ha _;have h1:=ha.evs hv;have h2:ps.map (fun p=>(p.1,a.eval p.2))=(ps.map (·.1)).zip vs:=by
  rw[<- h1];clear h1 hf hv
  induction ps with
  | nil=>rfl
  | cons p ps ih=>simp[ih]
 have h3:=hB (ps.map (fun p=>(p.1,a.eval p.2))).toArray cells w (by simpa [h2] using hf);simp only[execOp,List.map_toArray,Sem.run_bind];rw[h3];rfl
theorem Ex.mkF {fn:Fn} {fs cs:List Operand} {us vs:List Value} (hf:e.evs fs=some us) (hc:e.evs cs=some vs) (h: ∀ w,(Instr.makeFunc fn us.toArray vs.toArray).run P w= .ok v w):Ex P n e S ⟨d,.makeFunc fn fs.toArray cs.toArray,ty,pos,af,gd⟩ v:=by
 intro a w ha _;simp[execOp,List.map_toArray,ha.evs hf,ha.evs hc,h]
end
def kV:Option Nat->Value->Env->Env
 | none,_,e=>e
 | some d,v,e=>(d,v)::e
def okd:Option Nat->Nat->Bool
 | none,_=>true
 | some d,n=>Nat.blt d n
section
variable {P:Program} {n:Nat} {F0:Nat->Prop} {w0:World} {e:Env} {Rs:List Res} {d:Option Tmp} {ty:TypeId} {pos:String} {af:Array Edge} {gd:Option (Nat×Bool)} {v:Value} {x y:Operand} {t t' el:TypeId}
theorem Has.putd {a:Act} (h:Has n e a) (hd:okd d n=true):Has n (kV d v e) (a.put d v):=by
 cases d with
 | none=>exact h
 | some d=>exact h.put hd
theorem St.setRowS {b:Nat} {T:TypeId} {cs cs':Array Value} {w:World} (i:Nat) (h:St F0 w0 Rs w) (hi:Rs[i]? = some (aN b T cs)):St F0 w0 (Rs.set i (aN b T cs')) (w.setRow b cs'):=by
 refine h.step i hi (Ns := []) (fun G hG=>⟨⟨rfl,rfl,rfl,by simp[World.setRow],fun k hk hn=>setRow_other w b k cs' (fun e=>hn (e ▸ (hG.2 b).2 rfl))⟩,G,⟨setRow_heap w b cs cs' T (0,0) hG.1,hG.2⟩,fun k hk=> .inl hk,trivial⟩)
theorem Ef.alloc {zv:Value} (hz: ∀ w,(zeroValue t).run P w= .ok zv w) (hd:okd d n=true):Ef P n F0 w0 e Rs ⟨d,.alloc t,ty,pos,af,gd⟩ (fun e' Rs'=> ∃ b,e'=kV d (.pointer (some ⟨b,0,none⟩)) e/\Rs'=aN b t zv.cells::Rs):=by
 intro a w K Q ha hs hk;have h1:(execOp a.eval ⟨d,.alloc t,ty,pos,af,gd⟩).run P w= .ok (.value (.pointer (some ⟨w.heap.size,0,none⟩))) (w.alloc (.cells zv.cells t)):=by
  simp[execOp,Instr.alloc,hz,newVar,newRow,newObj];rfl
 unfold Oper.wp;rw[h1];exact hk _ _ ⟨_,rfl,rfl⟩ _ _ (ha.putd hd) (hs.alloc _ _)
theorem Ef.box (hx:e.ev x=some v) (hd:okd d n=true):Ef P n F0 w0 e Rs ⟨d,.box t x,ty,pos,af,gd⟩ (fun e' Rs'=> ∃ b,e'=kV d (.pointer (some ⟨b,0,none⟩)) e/\Rs'=aN b t v.cells::Rs):=by
 intro a w K Q ha hs hk;have h1:(execOp a.eval ⟨d,.box t x,ty,pos,af,gd⟩).run P w= .ok (.value (.pointer (some ⟨w.heap.size,0,none⟩))) (w.alloc (.cells v.cells t)):=by
  simp[execOp,ha.ev hx,Instr.box,newVar,newRow,newObj];rfl
 unfold Oper.wp;rw[h1];exact hk _ _ ⟨_,rfl,rfl⟩ _ _ (ha.putd hd) (hs.alloc _ _)
theorem Ef.st (i:Nat) {b o z:Nat} {T:TypeId} {cs cs':Array Value} (hx:e.ev x=some (.pointer (some ⟨b,o,none⟩))) (hy:e.ev y=some v) (hz: ∀ w,(sizeOf t).run P w= .ok z w) (hi:Rs[i]? = some (aN b T cs))
 (hvz:Nat.beq v.cells.size z=true) (hf:Nat.ble (o+v.cells.size) cs.size=true) (ho:v.cells.toList.all (·.oneCell')=true) (hc:(cs.toList.take o++v.cells.toList++cs.toList.drop (o+v.cells.size)).toArray=cs') :
 Ef P n F0 w0 e Rs ⟨none,.store t x y,ty,pos,af,gd⟩ (fun e' Rs'=>e'=e/\Rs'=Rs.set i (aN b T cs')):=by
 intro a w K Q ha hs hk;have hb:=hs.blk i hi;have hvz':=Nat.eq_of_beq_eq_true hvz;have hf':=Nat.le_of_ble_eq_true hf;have h2:=run_storeCells_at (P:=P) b o T v.cells.toList 0 cs w hb (by simpa using hf') (List.all_eq_true.1 ho);have h1:(execOp a.eval ⟨none,.store t x y,ty,pos,af,gd⟩).run P w= .ok .skip (w.setRow b cs'):=by
  simp only[Nat.add_zero,Array.length_toList] at h2;rw[hc] at h2;simp[execOp,ha.ev hx,ha.ev hy,Instr.storeAt,Instr.sureAddr,storeVar,hz,hvz',h2]
 unfold Oper.wp;rw[h1];exact hk _ _ ⟨rfl,rfl⟩ _ _ (ha.put0) (hs.setRowS i hi)
def CT (P:Program) (n:Nat) (e:Env) (o:Oper) (f:FuncId) (us:List Value):Prop:= ∀ a w,Has n e a->(execOp a.eval o).run P w= .ok (.enter f us.toArray) w
theorem CT.fn {f:FuncId} {xs:List Operand} {vs:List Value} {ts:Array TypeId} (hc: ∀ args w,(callFunc f args).run P w= .ok (.enter f args) w) (hv:e.evs xs=some vs):CT P n e ⟨d,.call ⟨.value (.func f),xs.toArray,ts⟩,ty,pos,af,gd⟩ f vs:=by
 intro a w ha;simp[execOp,resolve,Act.eval,Deferred.ofValue,invoke,List.map_toArray,ha.evs hv,hc]
theorem CT.val {f:FuncId} {x:Operand} {xs:List Operand} {vs us fs cs:List Value} {ts:Array TypeId} (hx:e.ev x=some (.func (.func f) fs.toArray cs.toArray)) (hc: ∀ args w,(callFunc f args).run P w= .ok (.enter f args) w) (hv:e.evs xs=some vs) (hu:fs++vs++cs=us):CT P n e ⟨d,.call ⟨.value x,xs.toArray,ts⟩,ty,pos,af,gd⟩ f us:=by
 intro a w ha;subst hu;simp[execOp,resolve,ha.ev hx,Deferred.ofValue,invoke,List.map_toArray,ha.evs hv,hc]
theorem CT.inv {f:FuncId} {x:Operand} {nm:String} {xs:List Operand} {u u':Value} {vs:List Value} {ts:Array TypeId} (hx:e.ev x=some (.iface t u)) (hm: ∀ w,(method (P.types.size+Made.depth) t u nm).run P w= .ok (f,u') w) (hc: ∀ args w,(callFunc f args).run P w= .ok (.enter f args) w) (hv:e.evs xs=some vs):CT P n e ⟨d,.call ⟨.invoke x nm,xs.toArray,ts⟩,ty,pos,af,gd⟩ f (u'::vs):=by
 intro a w ha;simp[execOp,resolve,ha.ev hx,invoke,callMethod,List.map_toArray,ha.evs hv,hm,hc]
theorem Ef.call (i:Nat) {op:Op} {f:FuncId} {vs:List Value} {A:Res} {Y:RX} {R:Value->Res->List Res->Prop} (hc:CT P n e ⟨d,op,ty,pos,af,gd⟩ f vs) (hi:Rs[i]? = some A)
 (hs:aC P f vs.toArray Y A R) (hr: ∀ w,St F0 w0 Rs w->Src F0 w0 Rs w i Y) (hd:okd d n=true) :
 Ef P n F0 w0 e Rs ⟨d,op,ty,pos,af,gd⟩ (fun e' Rs'=> ∃ v A' N,R v A' N/\e'=kV d v e/\Rs'=N++Rs.set i A'):=by
 intro a w K Q ha hst hk;unfold Oper.wp;rw[hc a w ha];refine (hst.callX i hi hs (hr w hst)).mono ?_;rintro x w' ⟨v,A',N,rfl,hq,hst'⟩;exact hk _ _ ⟨v,A',N,hq,rfl,rfl⟩ _ _ (ha.putd hd) hst'
theorem Ef.callE {op:Op} {f:FuncId} {vs:List Value} {Y:RX} {R:Value->Res->List Res->Prop} (hc:CT P n e ⟨d,op,ty,pos,af,gd⟩ f vs)
 (hs:aC P f vs.toArray Y aO R) (hr: ∀ w,St F0 w0 Rs w->Y.reads w (fun _=>False)) (hd:okd d n=true) :
 Ef P n F0 w0 e Rs ⟨d,op,ty,pos,af,gd⟩ (fun e' Rs'=> ∃ v A' N,R v A' N/\e'=kV d v e/\Rs'=N++Rs):=by
 intro a w K Q ha hst hk;unfold Oper.wp;rw[hc a w ha];refine (hst.callE hs (hr w hst)).mono ?_;rintro x w' ⟨v,A',N,rfl,hq,hst'⟩;exact hk _ _ ⟨v,A',N,hq,rfl,rfl⟩ _ _ (ha.putd hd) hst'
theorem Bw {a:Act} {w:World} {sl x:Operand} {T:TypeId} {z bytes g:Nat} {zv:Value} {us cells:List Value} {q:Value} {m:Nat} (ha:Has n e a) (hu:P.underlying t=some (.slice T)) (hinfo:(P.info? T).map (fun i=>(i.zero,i.size,i.bytes))=some (some zv,z,bytes)) (hzv:zv.cells.size=z) (hp:0<z)
 (hs:e.ev sl=some q) (hx:e.ev x=some (.slice (some ⟨g,0,none⟩) 1 1)) (hown:w.ownsRow 0 T z q m cells) (hl:us.length=z) (hg:w.heap[g]? = some (.cells us.toArray T (0,0))) (ho:us.all (·.oneCell')=true) (hb:(m+1)*bytes<=140737488355328) (hm:m+1<=140737488355328) :
 ∃ q' w',(execOp a.eval ⟨d,.call ⟨.builtin .append,#[sl,x],#[t,t]⟩,ty,pos,af,gd⟩).run P w= .ok (.value q') w'/\w'.ownsRow 0 T z q' (m+1) (cells++us)/\w.grownBy w' q.ownBlock/\(q'.ownBlock=q.ownBlock\/ ∃ k,q'.ownBlock=some k/\w.heap.size<=k):=by
 obtain⟨i,hi,hzz⟩:=Option.map_eq_some_iff.1 hinfo;simp only[Prod.mk.injEq] at hzz;obtain⟨h0,h1,h2⟩:=hzz;obtain⟨q',w',hr,k2,k3,_,k5⟩:=run_append_own_at (P:=P) w 0 t ty T i zv z bytes hu hi h0 h1 h2 hzv hp q m cells hown ⟨g,0,none⟩ 1 1 us Mc (fun j u hj=>by
  have e1:(⟨g,0,none⟩:Addr).add j=⟨g,j,none⟩:=by unfold Addr.add; split <;> simp_all
  rw[e1,bt hg];simpa using hj) (by simpa using ho) (by simp only[maxLen]; omega) hb (JM _)
 refine⟨q',w',?_,k2,k3,k5.imp id (fun h=>⟨_,h,JN _⟩)⟩;simp[execOp,resolve,invoke,builtin,ha.ev hs,ha.ev hx,hr]
theorem Ef.app1 (i:Nat) {α:Type} {E:Rd α} {sl x:Operand} {T:TypeId} {z bytes g:Nat} {zv:Value} {us:List Value} {A:Option Addr} {c:Nat} {l:List α} {u:α} {Rs':List Res} (hu:P.underlying t=some (.slice T)) (hinfo:(P.info? T).map (fun i=>(i.zero,i.size,i.bytes))=some (some zv,z,bytes)) (hzv:zv.cells.size=z) (hp:0<z)
 (hs:e.ev sl=some (.slice A l.length c)) (hx:e.ev x=some (.slice (some ⟨g,0,none⟩) 1 1)) (hR:Rs=aN g T us.toArray::Rs') (hi:Rs'[i]? = some (ci T z E (.slice A l.length c) l)) (hl:us.length=z) (ho:us.all (·.oneCell')=true) (hE: ∀ w S,E.P w S us u) (hb:(l.length+1)*bytes<=140737488355328) (hm:l.length+1<=140737488355328) (hd:okd d n=true) :
 Ef P n F0 w0 e Rs ⟨d,.call ⟨.builtin .append,#[sl,x],#[t,t]⟩,ty,pos,af,gd⟩ (fun e' R=> ∃ A' c',e'=kV d (.slice A' (l ++ [u]).length c') e/\R=Rs'.set i (ci T z E (.slice A' (l ++ [u]).length c') (l ++ [u]))):=by
 subst hR;intro a w K Q ha hst hk;obtain⟨cells,k1,k2⟩:=ci.open_ (i+1) hst (by simpa using hi);obtain⟨q',w',r1,r2,r3,r4⟩:=Bw (d:=d) (ty:=ty) (pos:=pos) (af:=af) (gd:=gd) ha hu hinfo hzv hp hs hx k1 hl (hst.blk 0 rfl) ho hb hm;have h3:=k2 q' w' us u r2 r3 r4 hl hE;have hlen:l.length+1=(l ++ [u]).length:=by simp
 rw[hlen] at r2;obtain⟨A',c',rfl⟩:=kK r2;unfold Oper.wp;rw[r1];exact hk _ _ ⟨A',c',rfl,rfl⟩ _ _ (ha.putd hd) (h3.drop_)
theorem Ef.app2 (i j:Nat) {α:Type} {E:Rd α} {sl x:Operand} {T:TypeId} {z bytes g:Nat} {zv:Value} {us:List Value} {A:Option Addr} {c:Nat} {l:List α} {u:α} {Rs':List Res} {B:Res} (hu:P.underlying t=some (.slice T)) (hinfo:(P.info? T).map (fun i=>(i.zero,i.size,i.bytes))=some (some zv,z,bytes)) (hzv:zv.cells.size=z) (hp:0<z)
 (hs:e.ev sl=some (.slice A l.length c)) (hx:e.ev x=some (.slice (some ⟨g,0,none⟩) 1 1)) (hR:Rs=aN g T us.toArray::Rs') (hi:Rs'[i]? = some (ci T z E (.slice A l.length c) l)) (hj:(Rs'.eraseIdx i)[j]? = some B) (hl:us.length=z) (ho:us.all (·.oneCell')=true) (hE: ∀ w G,B.P w G->E.P w G us u) (hb:(l.length+1)*bytes<=140737488355328) (hm:l.length+1<=140737488355328) (hd:okd d n=true) :
 Ef P n F0 w0 e Rs ⟨d,.call ⟨.builtin .append,#[sl,x],#[t,t]⟩,ty,pos,af,gd⟩ (fun e' R=> ∃ A' c',e'=kV d (.slice A' (l ++ [u]).length c') e/\R=ci T z E (.slice A' (l ++ [u]).length c') (l ++ [u])::(Rs'.eraseIdx i).eraseIdx j):=by
 subst hR;intro a w K Q ha hst hk;obtain⟨cells,k1,k2⟩:=ci.open2 (B:=B) (i+1) (j+1) hst (by simpa using hi) (by simpa using hj);obtain⟨q',w',r1,r2,r3,r4⟩:=Bw (d:=d) (ty:=ty) (pos:=pos) (af:=af) (gd:=gd) ha hu hinfo hzv hp hs hx k1 hl (hst.blk 0 rfl) ho hb hm;have h3:=k2 q' w' us u r2 r3 r4 hl hE;have hlen:l.length+1=(l ++ [u]).length:=by simp
 rw[hlen] at r2;obtain⟨A',c',rfl⟩:=kK r2;unfold Oper.wp;rw[r1];have h4:=h3.del 1 (A:=aN g T us.toArray) rfl;exact hk _ _ ⟨A',c',rfl,rfl⟩ _ _ (ha.putd hd) h4
def SOK (P:Program) (t T:TypeId) (m z:Nat) (zs:Array Value):Prop:= ∀ (parts:Array (Nat×Value)) (cells:Array Value) (w:World),Instr.fill (fun i=>some (i*z,z)) zs parts.toList=some cells->(Instr.buildSlice t m parts).run P w= .ok (.slice (some ⟨w.heap.size,0,none⟩) m m) (w.alloc (.cells cells T))
theorem Ef.lit {T m z:Nat} {zs cells:Array Value} {ps:List (Nat×Operand)} {vs:List Value} (hB:SOK P t T m z zs) (hv:e.evs (ps.map (·.2))=some vs) (hf:Instr.fill (fun i=>some (i*z,z)) zs ((ps.map (·.1)).zip vs)=some cells) (hd:okd d n=true) :
 Ef P n F0 w0 e Rs ⟨d,.buildSlice t m ps.toArray,ty,pos,af,gd⟩ (fun e' Rs'=> ∃ b,e'=kV d (.slice (some ⟨b,0,none⟩) m m) e/\Rs'=aN b T cells::Rs):=by
 intro a w K Q ha hs hk;have h1:=ha.evs hv;have h2:ps.map (fun p=>(p.1,a.eval p.2))=(ps.map (·.1)).zip vs:=by
  rw[<- h1];clear h1 hf hv
  induction ps with
  | nil=>rfl
  | cons p ps ih=>simp[ih]
 have h3:=hB (ps.map (fun p=>(p.1,a.eval p.2))).toArray cells w (by simpa [h2] using hf);unfold Oper.wp;simp only[execOp,List.map_toArray,Sem.run_bind];rw[h3];exact hk _ _ ⟨_,rfl,rfl⟩ _ _ (ha.putd hd) (hs.alloc _ _)
theorem St.rowOf {α:Type} {E:Rd α} {b T z m:Nat} {us:List Value} {l:List α} {w:World} (h:St F0 w0 (aN b T us.toArray::Rs) w) (hm:l.length=m) (hmm:m<=maxLen) (he: ∀ w,gJ z E w (fun _=>False) us l) :
 St F0 w0 (ci T z E (.slice (some ⟨b,0,none⟩) m m) l::Rs) w:=by
 subst hm;refine h.weaken 0 rfl (fun G hG=> ?_);have hl:=mG (he w);refine⟨us,fun _=>False,⟨hl,.inr ⟨b,l.length,us.toArray,rfl,JM _,hG.1,JN _,hmm,by simpa using hl,?_⟩⟩,he w,fun _ h=>h.elim,fun _ _ h=>h,fun k=> ?_⟩
 ·simp[<- hl]
 ·rw[hG.2 k];simp[Value.ownBlock,eq_comm]
end
section
variable {P:Program} {n:Nat} {F0:Nat->Prop} {w0:World} {e:Env} {Rs Rf:List Res} {Q:Exit->Act->World->Prop} {ops:Array Oper} {i d b o z f T:Nat} {ty t el:TypeId} {pos:String} {af:Array Edge} {gd:Option (Nat×Bool)} {v zv:Value} {x y:Operand} {l:List Nat} {xs:List Operand} {vs:List Value} {ts:Array TypeId} {Y:RX} {A B:Res} {R:Value->Res->List Res->Prop} {c:Code} {cl:Call}
theorem TL.rowOf {α:Type} {E:Rd α} {m:Nat} {us:List Value} {xs:List α} (hm:xs.length=m) (hmm:m<=maxLen) (he: ∀ w,gJ z E w (fun _=>False) us xs) (h:TL P n F0 w0 ops l e (ci T z E (.slice (some ⟨b,0,none⟩) m m) xs::Rs) Q):TL P n F0 w0 ops l e (aN b T us.toArray::Rs) Q:=fun a w ha hs=>h a w ha (hs.rowOf hm hmm he)
theorem TD.rowOf {α:Type} {E:Rd α} {m:Nat} {us:List Value} {xs:List α} {l:Sch} (hm:xs.length=m) (hmm:m<=maxLen) (he: ∀ w,gJ z E w (fun _=>False) us xs) (h:TD P n F0 w0 ops l Rf e (ci T z E (.slice (some ⟨b,0,none⟩) m m) xs::Rs) Q):TD P n F0 w0 ops l Rf e (aN b T us.toArray::Rs) Q:=fun a w ha hs=>h a w ha (hs.rowOf hm hmm he)
theorem TL.alloc  (ho:ops[i]? = some ⟨some d,.alloc t,ty,pos,af,gd⟩) (hw:Wd n ops e ⟨some d,.alloc t,ty,pos,af,gd⟩ true) (hz: ∀ w,(zeroValue t).run P w= .ok zv w) (hd:Nat.blt d n=true) (h: ∀ b,TL P n F0 w0 ops l ((d,.pointer (some ⟨b,0,none⟩))::e) (aN b t zv.cells::Rs) Q):TL P n F0 w0 ops (i::l) e Rs Q:=by
 refine H9 ho hw (Ef.alloc hz hd) ?_;rintro _ _ ⟨b,rfl,rfl⟩;exact h b
theorem TD.alloc  {l:Sch} (ho:ops[i]? = some ⟨some d,.alloc t,ty,pos,af,gd⟩) (hw:Wd n ops e ⟨some d,.alloc t,ty,pos,af,gd⟩ true) (hz: ∀ w,(zeroValue t).run P w= .ok zv w) (hd:Nat.blt d n=true) (is:List Nat) (hf: ∀ b,Sel (aN b t zv.cells::Rs) is Rf) (h: ∀ b,TD P n F0 w0 ops l Rf ((d,.pointer (some ⟨b,0,none⟩))::e) (aN b t zv.cells::Rs) Q):TD P n F0 w0 ops (.e i l) Rf e Rs Q:=by
 refine Il ho hw (Ef.alloc hz hd) ?_;rintro _ _ ⟨b,rfl,rfl⟩;exact⟨Rf,fun w hw=>hw.sel is (hf b),fun _ h=>h,h b⟩
theorem TL.box  (ho:ops[i]? = some ⟨some d,.box t x,ty,pos,af,gd⟩) (hw:Wd n ops e ⟨some d,.box t x,ty,pos,af,gd⟩ true) (hx:e.ev x=some v) (hd:Nat.blt d n=true) (h: ∀ b,TL P n F0 w0 ops l ((d,.pointer (some ⟨b,0,none⟩))::e) (aN b t v.cells::Rs) Q):TL P n F0 w0 ops (i::l) e Rs Q:=by
 refine H9 ho hw (Ef.box hx hd) ?_;rintro _ _ ⟨b,rfl,rfl⟩;exact h b
theorem Ib {m:Nat} {zs cells:Array Value} {ps:List (Nat×Operand)} (ho:ops[i]? = some ⟨some d,.buildSlice t m ps.toArray,ty,pos,af,gd⟩) (hw:Wd n ops e ⟨some d,.buildSlice t m ps.toArray,ty,pos,af,gd⟩ true) (hB:SOK P t T m z zs) (hv:e.evs (ps.map (·.2))=some vs) (hf':Instr.fill (fun i=>some (i*z,z)) zs ((ps.map (·.1)).zip vs)=some cells) (hd:Nat.blt d n=true) (h: ∀ b,TL P n F0 w0 ops l ((d,.slice (some ⟨b,0,none⟩) m m)::e) (aN b T cells::Rs) Q):TL P n F0 w0 ops (i::l) e Rs Q:=by
 refine H9 ho hw (Ef.lit hB hv hf' hd) ?_;rintro _ _ ⟨b,rfl,rfl⟩;exact h b
theorem H6 {m:Nat} {zs cells:Array Value} {ps:List (Nat×Operand)} {l:Sch} (ho:ops[i]? = some ⟨some d,.buildSlice t m ps.toArray,ty,pos,af,gd⟩) (hw:Wd n ops e ⟨some d,.buildSlice t m ps.toArray,ty,pos,af,gd⟩ true) (hB:SOK P t T m z zs) (hv:e.evs (ps.map (·.2))=some vs) (hf':Instr.fill (fun i=>some (i*z,z)) zs ((ps.map (·.1)).zip vs)=some cells) (hd:Nat.blt d n=true) (is:List Nat) (hf: ∀ b,Sel (aN b T cells::Rs) is Rf) (h: ∀ b,TD P n F0 w0 ops l Rf ((d,.slice (some ⟨b,0,none⟩) m m)::e) (aN b T cells::Rs) Q):TD P n F0 w0 ops (.e i l) Rf e Rs Q:=by
 refine Il ho hw (Ef.lit hB hv hf' hd) ?_;rintro _ _ ⟨b,rfl,rfl⟩;exact⟨Rf,fun w hw=>hw.sel is (hf b),fun _ h=>h,h b⟩
theorem TL.cg0  (ho:ops[i]? = some ⟨some d,.call cl,ty,pos,af,gd⟩) (hw:Wd n ops e ⟨some d,.call cl,ty,pos,af,gd⟩ true) (hc:CT P n e ⟨some d,.call cl,ty,pos,af,gd⟩ f vs) (hs:aC P f vs.toArray Y A R) (hr: ∀ w,St F0 w0 (A::Rs) w->Src F0 w0 (A::Rs) w 0 Y) (hd:Nat.blt d n=true) (h: ∀ v A' N,R v A' N->TL P n F0 w0 ops l ((d,v)::e) (N++A'::Rs) Q):TL P n F0 w0 ops (i::l) e (A::Rs) Q:=by
 refine H9 ho hw (Ef.call 0 hc rfl hs hr hd) ?_;rintro _ _ ⟨v,A',N,hR,rfl,rfl⟩;exact h v A' N hR
theorem It {R0:Res} (ho:ops[i]? = some ⟨some d,.call cl,ty,pos,af,gd⟩) (hw:Wd n ops e ⟨some d,.call cl,ty,pos,af,gd⟩ true) (hc:CT P n e ⟨some d,.call cl,ty,pos,af,gd⟩ f vs) (hs:aC P f vs.toArray Y A R) (hr: ∀ w,St F0 w0 (R0::A::Rs) w->Src F0 w0 (R0::A::Rs) w 1 Y) (hd:Nat.blt d n=true) (h: ∀ v A' N,R v A' N->TL P n F0 w0 ops l ((d,v)::e) (N++R0::A'::Rs) Q):TL P n F0 w0 ops (i::l) e (R0::A::Rs) Q:=by
 refine H9 ho hw (Ef.call 1 hc rfl hs hr hd) ?_;rintro _ _ ⟨v,A',N,hR,rfl,rfl⟩;exact h v A' N hR
theorem TD.cg1 {R0:Res} {l:Sch} (ho:ops[i]? = some ⟨some d,.call cl,ty,pos,af,gd⟩) (hw:Wd n ops e ⟨some d,.call cl,ty,pos,af,gd⟩ true) (hc:CT P n e ⟨some d,.call cl,ty,pos,af,gd⟩ f vs) (hs:aC P f vs.toArray Y A R) (hr: ∀ w,St F0 w0 (R0::A::Rs) w->Src F0 w0 (R0::A::Rs) w 1 Y) (hd:Nat.blt d n=true) (is:List Nat) (hf: ∀ v A' N,R v A' N->Sel (N++R0::A'::Rs) is Rf) (h: ∀ v A' N,R v A' N->TD P n F0 w0 ops l Rf ((d,v)::e) (N++R0::A'::Rs) Q):TD P n F0 w0 ops (.e i l) Rf e (R0::A::Rs) Q:=by
 refine Il ho hw (Ef.call 1 hc rfl hs hr hd) ?_;rintro _ _ ⟨v,A',N,hR,rfl,rfl⟩;exact⟨Rf,fun w hw=>hw.sel is (hf v A' N hR),fun _ h=>h,h v A' N hR⟩
theorem TL.cg2 {R0 R1:Res} (ho:ops[i]? = some ⟨some d,.call cl,ty,pos,af,gd⟩) (hw:Wd n ops e ⟨some d,.call cl,ty,pos,af,gd⟩ true) (hc:CT P n e ⟨some d,.call cl,ty,pos,af,gd⟩ f vs) (hs:aC P f vs.toArray Y A R) (hr: ∀ w,St F0 w0 (R0::R1::A::Rs) w->Src F0 w0 (R0::R1::A::Rs) w 2 Y) (hd:Nat.blt d n=true) (h: ∀ v A' N,R v A' N->TL P n F0 w0 ops l ((d,v)::e) (N++R0::R1::A'::Rs) Q):TL P n F0 w0 ops (i::l) e (R0::R1::A::Rs) Q:=by
 refine H9 ho hw (Ef.call 2 hc rfl hs hr hd) ?_;rintro _ _ ⟨v,A',N,hR,rfl,rfl⟩;exact h v A' N hR
theorem TL.cg3 {R0 R1 R2:Res} (ho:ops[i]? = some ⟨some d,.call cl,ty,pos,af,gd⟩) (hw:Wd n ops e ⟨some d,.call cl,ty,pos,af,gd⟩ true) (hc:CT P n e ⟨some d,.call cl,ty,pos,af,gd⟩ f vs) (hs:aC P f vs.toArray Y A R) (hr: ∀ w,St F0 w0 (R0::R1::R2::A::Rs) w->Src F0 w0 (R0::R1::R2::A::Rs) w 3 Y) (hd:Nat.blt d n=true) (h: ∀ v A' N,R v A' N->TL P n F0 w0 ops l ((d,v)::e) (N++R0::R1::R2::A'::Rs) Q):TL P n F0 w0 ops (i::l) e (R0::R1::R2::A::Rs) Q:=by
 refine H9 ho hw (Ef.call 3 hc rfl hs hr hd) ?_;rintro _ _ ⟨v,A',N,hR,rfl,rfl⟩;exact h v A' N hR
theorem TD.cg5 {R0 R1 R2 R3 R4:Res} {l:Sch} (ho:ops[i]? = some ⟨some d,.call cl,ty,pos,af,gd⟩) (hw:Wd n ops e ⟨some d,.call cl,ty,pos,af,gd⟩ true) (hc:CT P n e ⟨some d,.call cl,ty,pos,af,gd⟩ f vs) (hs:aC P f vs.toArray Y A R) (hr: ∀ w,St F0 w0 (R0::R1::R2::R3::R4::A::Rs) w->Src F0 w0 (R0::R1::R2::R3::R4::A::Rs) w 5 Y) (hd:Nat.blt d n=true) (is:List Nat) (hf: ∀ v A' N,R v A' N->Sel (N++R0::R1::R2::R3::R4::A'::Rs) is Rf) (h: ∀ v A' N,R v A' N->TD P n F0 w0 ops l Rf ((d,v)::e) (N++R0::R1::R2::R3::R4::A'::Rs) Q):TD P n F0 w0 ops (.e i l) Rf e (R0::R1::R2::R3::R4::A::Rs) Q:=by
 refine Il ho hw (Ef.call 5 hc rfl hs hr hd) ?_;rintro _ _ ⟨v,A',N,hR,rfl,rfl⟩;exact⟨Rf,fun w hw=>hw.sel is (hf v A' N hR),fun _ h=>h,h v A' N hR⟩
theorem HZ  (ho:ops[i]? = some ⟨some d,.call cl,ty,pos,af,gd⟩) (hw:Wd n ops e ⟨some d,.call cl,ty,pos,af,gd⟩ true) (hc:CT P n e ⟨some d,.call cl,ty,pos,af,gd⟩ f vs) (hs:aC P f vs.toArray Y aO R) (hr: ∀ w,St F0 w0 Rs w->Y.reads w (fun _=>False)) (hd:Nat.blt d n=true) (h: ∀ v A' N,R v A' N->TL P n F0 w0 ops l ((d,v)::e) (N++Rs) Q):TL P n F0 w0 ops (i::l) e Rs Q:=by
 refine H9 ho hw (Ef.callE hc hs hr hd) ?_;rintro _ _ ⟨v,A',N,hR,rfl,rfl⟩;exact h v A' N hR
theorem TD.cge  {l:Sch} (ho:ops[i]? = some ⟨some d,.call cl,ty,pos,af,gd⟩) (hw:Wd n ops e ⟨some d,.call cl,ty,pos,af,gd⟩ true) (hc:CT P n e ⟨some d,.call cl,ty,pos,af,gd⟩ f vs) (hs:aC P f vs.toArray Y aO R) (hr: ∀ w,St F0 w0 Rs w->Y.reads w (fun _=>False)) (hd:Nat.blt d n=true) (is:List Nat) (hf: ∀ v A' N,R v A' N->Sel (N++Rs) is Rf) (h: ∀ v A' N,R v A' N->TD P n F0 w0 ops l Rf ((d,v)::e) (N++Rs) Q):TD P n F0 w0 ops (.e i l) Rf e Rs Q:=by
 refine Il ho hw (Ef.callE hc hs hr hd) ?_;rintro _ _ ⟨v,A',N,hR,rfl,rfl⟩;exact⟨Rf,fun w hw=>hw.sel is (hf v A' N hR),fun _ h=>h,h v A' N hR⟩
theorem GT  (ho:ops[i]? = some ⟨some d,.call cl,ty,pos,af,gd⟩) (hw:Wd n ops e ⟨some d,.call cl,ty,pos,af,gd⟩ true) (hc:CT P n e ⟨some d,.call cl,ty,pos,af,gd⟩ f vs) (hs:aC P f vs.toArray Y aO (fun v' A' N=>v'=v/\A'=aO/\N = [])) (hr: ∀ w,St F0 w0 Rs w->Y.reads w (fun _=>False)) (hd:Nat.blt d n=true) (h:TL P n F0 w0 ops l ((d,v)::e) Rs Q):TL P n F0 w0 ops (i::l) e Rs Q:=by
 refine H9 ho hw (Ef.callE hc hs hr hd) ?_;rintro _ _ ⟨_,_,_,⟨rfl,rfl,rfl⟩,rfl,rfl⟩;exact h
theorem Ih  {l:Sch} (ho:ops[i]? = some ⟨some d,.call cl,ty,pos,af,gd⟩) (hw:Wd n ops e ⟨some d,.call cl,ty,pos,af,gd⟩ true) (hc:CT P n e ⟨some d,.call cl,ty,pos,af,gd⟩ f vs) (hs:aC P f vs.toArray Y aO (fun v' A' N=>v'=v/\A'=aO/\N = [])) (hr: ∀ w,St F0 w0 Rs w->Y.reads w (fun _=>False)) (hd:Nat.blt d n=true) (is:List Nat) (hf:Sel Rs is Rf) (h:TD P n F0 w0 ops l Rf ((d,v)::e) Rs Q):TD P n F0 w0 ops (.e i l) Rf e Rs Q:=by
 refine Il ho hw (Ef.callE hc hs hr hd) ?_;rintro _ _ ⟨_,_,_,⟨rfl,rfl,rfl⟩,rfl,rfl⟩;exact⟨Rf,fun w hw=>hw.sel is (hf),fun _ h=>h,h⟩
end
def mH:Rd Int:=⟨fun _ _ cs n=>cs = [.int .i64 n],fun h _=>h,fun h _=>h⟩
def u8E:Rd Int:=⟨fun _ _ cs n=>cs = [.int .u8 n],fun h _=>h,fun h _=>h⟩
def boolE:Rd Bool:=⟨fun _ _ cs n=>cs = [.bool n],fun h _=>h,fun h _=>h⟩
def lx:Rd (List UInt8):=⟨fun _ _ cs l=>cs = [.string (bsOf l)],fun h _=>h,fun h _=>h⟩
def yk:Rd Bl:=⟨fun _ _ cs x=>cs = [.bool x.null,.string (bsOf x.data)],fun h _=>h,fun h _=>h⟩
structure Pfx where
 I9:Int
 Jd:Int
 I5:Int
 Jh:Int
 Jj:Int
 I7:Int
 IV:Int
 Je:Int
 ID:Int
 IF:Int
 IX:Int
 Ji:Int
structure Hd where
 I3:List UInt8
 IQ:Bl
def ec:Rd Hd where
 P:=fun _ _ cs x=>cs = [.string (bsOf x.I3),.bool x.IQ.null,.string (bsOf x.IQ.data)]
 mono:=fun h _=>h
 move:=fun h _=>h
structure Rec where
 Ja:Int
 IZ:Int
 I3:Bl
 IQ:Bl
 IR:List Hd
def dK:Rd Rec where
 P:=fun w S cs x=> ∃ (A0:Option Addr) (c0:Nat),cs = [.int .i64 x.Ja,.int .i64 x.IZ,.bool x.I3.null,.string (bsOf x.I3.data),.bool x.IQ.null,.string (bsOf x.IQ.data),.slice A0 x.IR.length c0]/\(ai 3 ec).P w S [.slice A0 x.IR.length c0] x.IR
 mono:=fun ⟨A0,c0,e,h0⟩ k=>⟨A0,c0,e,(ai 3 ec).mono h0 k⟩
 move:=fun ⟨A0,c0,e,h0⟩ k=>⟨A0,c0,e,(ai 3 ec).move h0 k⟩
structure e7 where
 IP:Int
 IO:Int
 IY:Int
 IK:Bl
def FC:Rd e7 where
 P:=fun _ _ cs x=>cs = [.int .i64 x.IP,.int .i64 x.IO,.int .i64 x.IY,.bool x.IK.null,.string (bsOf x.IK.data)]
 mono:=fun h _=>h
 move:=fun h _=>h
structure lG where
 IP:Int
 IO:Int
 IY:Int
 IK:Bl
structure Top where
 IW:List UInt8
 IH:List Int
def aZ:Rd Top where
 P:=fun w S cs x=> ∃ (A0:Option Addr) (c0:Nat),cs = [.string (bsOf x.IW),.slice A0 x.IH.length c0]/\(ai 1 mH).P w S [.slice A0 x.IH.length c0] x.IH
 mono:=fun ⟨A0,c0,e,h0⟩ k=>⟨A0,c0,e,(ai 1 mH).mono h0 k⟩
 move:=fun ⟨A0,c0,e,h0⟩ k=>⟨A0,c0,e,(ai 1 mH).move h0 k⟩
structure Val where
 ID:Int
 IF:Int
 II:Int
 Jk:Int
 IC:List Top
 Jm:Int
 Jl:Int
structure Bat where
 I9:Int
 I5:Int
 Jg:Bool
 Jf:Bool
 Jc:Bool
 I7:Int
 IV:Int
 Je:Int
 ID:Int
 IF:Int
 IX:Int
 IG:List Rec
def dY:Rd Bat where
 P:=fun w S cs x=> ∃ (A0:Option Addr) (c0:Nat),cs = [.int .i64 x.I9,.int .i64 x.I5,.bool x.Jg,.bool x.Jf,.bool x.Jc,.int .i64 x.I7,.int .i64 x.IV,.int .i64 x.Je,.int .i64 x.ID,.int .i64 x.IF,.int .i64 x.IX,.slice A0 x.IG.length c0]/\(ai 7 dK).P w S [.slice A0 x.IG.length c0] x.IG
 mono:=fun ⟨A0,c0,e,h0⟩ k=>⟨A0,c0,e,(ai 7 dK).mono h0 k⟩
 move:=fun ⟨A0,c0,e,h0⟩ k=>⟨A0,c0,e,(ai 7 dK).move h0 k⟩
structure bH where
 IJ:List UInt8
 ID:Int
 IF:Int
 I2:Bool
def CA:Rd bH where
 P:=fun _ _ cs x=>cs = [.string (bsOf x.IJ),.int .i64 x.ID,.int .i64 x.IF,.bool x.I2]
 mono:=fun h _=>h
 move:=fun h _=>h
structure aH where
 ID:Int
 IF:Int
 I2:Bool
 IC:List Top
 IU:Int
def aP:Rd aH where
 P:=fun w S cs x=> ∃ (A0:Option Addr) (c0:Nat),cs = [.int .i64 x.ID,.int .i64 x.IF,.bool x.I2,.slice A0 x.IC.length c0,.int .i64 x.IU]/\(ai 2 aZ).P w S [.slice A0 x.IC.length c0] x.IC
 mono:=fun ⟨A0,c0,e,h0⟩ k=>⟨A0,c0,e,(ai 2 aZ).mono h0 k⟩
 move:=fun ⟨A0,c0,e,h0⟩ k=>⟨A0,c0,e,(ai 2 aZ).move h0 k⟩
structure cG where
 IJ:Bl
 II:Int
 ID:Int
 IF:Int
 IC:List Top
 I2:Bool
structure aT where
 IJ:Bl
 II:Int
 ID:Int
 IF:Int
def yl:Rd aT where
 P:=fun _ _ cs x=>cs = [.bool x.IJ.null,.string (bsOf x.IJ.data),.int .i64 x.II,.int .i64 x.ID,.int .i64 x.IF]
 mono:=fun h _=>h
 move:=fun h _=>h
structure aL where
 I8:Int
 IM:List Bat
def bL:Rd aL where
 P:=fun w S cs x=> ∃ (A0:Option Addr) (c0:Nat),cs = [.int .i64 x.I8,.slice A0 x.IM.length c0]/\(ai 12 dY).P w S [.slice A0 x.IM.length c0] x.IM
 mono:=fun ⟨A0,c0,e,h0⟩ k=>⟨A0,c0,e,(ai 12 dY).mono h0 k⟩
 move:=fun ⟨A0,c0,e,h0⟩ k=>⟨A0,c0,e,(ai 12 dY).move h0 k⟩
structure az where
 IW:List UInt8
 IH:List aL
def ay:Rd az where
 P:=fun w S cs x=> ∃ (A0:Option Addr) (c0:Nat),cs = [.string (bsOf x.IW),.slice A0 x.IH.length c0]/\(ai 2 bL).P w S [.slice A0 x.IH.length c0] x.IH
 mono:=fun ⟨A0,c0,e,h0⟩ k=>⟨A0,c0,e,(ai 2 bL).mono h0 k⟩
 move:=fun ⟨A0,c0,e,h0⟩ k=>⟨A0,c0,e,(ai 2 bL).move h0 k⟩
structure ao where
 IJ:Bl
 I6:Int
 II:Int
 IC:List az
def qi:Rd ao where
 P:=fun w S cs x=> ∃ (A0:Option Addr) (c0:Nat),cs = [.bool x.IJ.null,.string (bsOf x.IJ.data),.int .i64 x.I6,.int .i64 x.II,.slice A0 x.IC.length c0]/\(ai 2 ay).P w S [.slice A0 x.IC.length c0] x.IC
 mono:=fun ⟨A0,c0,e,h0⟩ k=>⟨A0,c0,e,(ai 2 ay).mono h0 k⟩
 move:=fun ⟨A0,c0,e,h0⟩ k=>⟨A0,c0,e,(ai 2 ay).move h0 k⟩
structure iP where
 I8:Int
 IM:List Bat
def gK:Rd iP where
 P:=fun w S cs x=> ∃ (A0:Option Addr) (c0:Nat),cs = [.int .i64 x.I8,.slice A0 x.IM.length c0]/\(ai 12 dY).P w S [.slice A0 x.IM.length c0] x.IM
 mono:=fun ⟨A0,c0,e,h0⟩ k=>⟨A0,c0,e,(ai 12 dY).mono h0 k⟩
 move:=fun ⟨A0,c0,e,h0⟩ k=>⟨A0,c0,e,(ai 12 dY).move h0 k⟩
structure fI where
 IW:List UInt8
 IH:List iP
def cT:Rd fI where
 P:=fun w S cs x=> ∃ (A0:Option Addr) (c0:Nat),cs = [.string (bsOf x.IW),.slice A0 x.IH.length c0]/\(ai 2 gK).P w S [.slice A0 x.IH.length c0] x.IH
 mono:=fun ⟨A0,c0,e,h0⟩ k=>⟨A0,c0,e,(ai 2 gK).mono h0 k⟩
 move:=fun ⟨A0,c0,e,h0⟩ k=>⟨A0,c0,e,(ai 2 gK).move h0 k⟩
structure cj where
 IJ:Bl
 I6:Int
 II:Int
 IC:List fI
structure eF where
 ID:Int
 IF:Int
 I2:Bool
 IC:List Top
 IU:Int
def dM:Rd eF where
 P:=fun w S cs x=> ∃ (A0:Option Addr) (c0:Nat),cs = [.int .i64 x.ID,.int .i64 x.IF,.bool x.I2,.slice A0 x.IC.length c0,.int .i64 x.IU]/\(ai 2 aZ).P w S [.slice A0 x.IC.length c0] x.IC
 mono:=fun ⟨A0,c0,e,h0⟩ k=>⟨A0,c0,e,(ai 2 aZ).mono h0 k⟩
 move:=fun ⟨A0,c0,e,h0⟩ k=>⟨A0,c0,e,(ai 2 aZ).move h0 k⟩
structure bI where
 IJ:List UInt8
 ID:Int
 IF:Int
 IC:List Top
def CC:Rd bI where
 P:=fun w S cs x=> ∃ (A0:Option Addr) (c0:Nat),cs = [.string (bsOf x.IJ),.int .i64 x.ID,.int .i64 x.IF,.slice A0 x.IC.length c0]/\(ai 2 aZ).P w S [.slice A0 x.IC.length c0] x.IC
 mono:=fun ⟨A0,c0,e,h0⟩ k=>⟨A0,c0,e,(ai 2 aZ).mono h0 k⟩
 move:=fun ⟨A0,c0,e,h0⟩ k=>⟨A0,c0,e,(ai 2 aZ).move h0 k⟩
structure al where
 IE:e7
 I0:aT
 I4:bI
 Jb:bH
 I1:List aH
 IL:ao
def cu:Rd al where
 P:=fun w S cs x=> ∃ (A0:Option Addr) (c0:Nat) (A1:Option Addr) (c1:Nat) (A2:Option Addr) (c2:Nat),cs = [.int .i64 x.IE.IP,.int .i64 x.IE.IO,.int .i64 x.IE.IY,.bool x.IE.IK.null,.string (bsOf x.IE.IK.data),.bool x.I0.IJ.null,.string (bsOf x.I0.IJ.data),.int .i64 x.I0.II,.int .i64 x.I0.ID,.int .i64 x.I0.IF,.string (bsOf x.I4.IJ),.int .i64 x.I4.ID,.int .i64 x.I4.IF,.slice A0 x.I4.IC.length c0,.string (bsOf x.Jb.IJ),.int .i64 x.Jb.ID,.int .i64 x.Jb.IF,.bool x.Jb.I2,.slice A1 x.I1.length c1,.bool x.IL.IJ.null,.string (bsOf x.IL.IJ.data),.int .i64 x.IL.I6,.int .i64 x.IL.II,.slice A2 x.IL.IC.length c2]/\(ai 2 aZ).P w S [.slice A0 x.I4.IC.length c0] x.I4.IC/\(ai 5 aP).P w S [.slice A1 x.I1.length c1] x.I1/\(ai 2 ay).P w S [.slice A2 x.IL.IC.length c2] x.IL.IC
 mono:=fun ⟨A0,c0,A1,c1,A2,c2,e,h0,h1,h2⟩ k=>⟨A0,c0,A1,c1,A2,c2,e,(ai 2 aZ).mono h0 k,(ai 5 aP).mono h1 k,(ai 2 ay).mono h2 k⟩
 move:=fun ⟨A0,c0,A1,c1,A2,c2,e,h0,h1,h2⟩ k=>⟨A0,c0,A1,c1,A2,c2,e,(ai 2 aZ).move h0 k,(ai 5 aP).move h1 k,(ai 2 ay).move h2 k⟩
structure ff where
 IE:lG
 Jf:cG
 I1:List eF
 IL:cj
structure dC where
 fmany:Int
 fat:Int
structure aM where
 fcount:dC
 fheld:List UInt8
 ferr:Int
theorem bM {b:Bool} (h:b=false):(!b)=true:=by rw[h]; rfl
theorem bd {b:Bool} (h:b=true):(!b)=false:=by rw[h]; rfl
theorem ifT {α:Type} {c:Prop} [Decidable c] {x y z:α} (hc:c) (h:(if c then x else y)=z):x=z:=by rwa [Mg hc] at h
theorem ifF {α:Type} {c:Prop} [Decidable c] {x y z:α} (hc: ¬ c) (h:(if c then x else y)=z):y=z:=by rwa [Mh hc] at h
theorem tr {α:Type} (l:List α) (p:Nat):(l.drop p).take (l.length - p)=l.drop p:=by rw[<- JA,List.take_length]
section
variable {P:Program} {n:Nat} {F0:Nat->Prop} {w0:World} {e:Env} {Rs Rf:List Res} {Q:Exit->Act->World->Prop} {ops:Array Oper} {i d:Nat} {ty t t' el:TypeId} {pos:String} {af:Array Edge} {gd:Option (Nat×Bool)} {v v':Value} {x y:Operand} {l:List Nat} {lo:Sch} {c:Code} {S:World->Prop}
theorem Ex.bEq {d:Option Tmp} {a b p q:Bool} (hx:e.ev x=some (.bool a)) (ha:a=p) (hy:e.ev y=some (.bool b)) (hb:b=q) (hu: ∀ w,(underlying t).run P w= .ok .bool w):Ex P n e S ⟨d,.binOp .eql t x y t',ty,pos,af,gd⟩ (.bool (p == q)):=by
 intro A w h _;subst ha hb;have h1: ∀ k,(Op.equalIn (k+1) t (.bool a) (.bool b)).run P w= .ok (a == b) w:=by
  intro k;simp only[Op.equalIn,Sem.run_bind,hu,Result.andThen_ok];rfl
 have h2:(Op.equal t (.bool a) (.bool b)).run P w= .ok (a == b) w:=h1 9999;have h4:(binOp .eql t (.bool a) (.bool b)).run P w= .ok (.bool (a == b)) w:=by
  simp only[binOp,Sem.run_bind,h2,Result.andThen_ok,Sem.run_pure]
 simp only[execOp,h.ev hx,h.ev hy,eqGuard];simp[h4]
theorem HM {d:Option Tmp} {a b p q:Bool} (hx:e.ev x=some (.bool a)) (ha:a=p) (hy:e.ev y=some (.bool b)) (hb:b=q) (hu: ∀ w,(underlying t).run P w= .ok .bool w):Ex P n e S ⟨d,.binOp .neq t x y t',ty,pos,af,gd⟩ (.bool (!(p == q))):=by
 intro A w h _;subst ha hb;have h1: ∀ k,(Op.equalIn (k+1) t (.bool a) (.bool b)).run P w= .ok (a == b) w:=by
  intro k;simp only[Op.equalIn,Sem.run_bind,hu,Result.andThen_ok];rfl
 have h2:(Op.equal t (.bool a) (.bool b)).run P w= .ok (a == b) w:=h1 9999;have h4:(binOp .neq t (.bool a) (.bool b)).run P w= .ok (.bool (!(a == b))) w:=by
  simp only[binOp,Sem.run_bind,h2,Result.andThen_ok,Sem.run_pure]
 simp only[execOp,h.ev hx,h.ev hy,eqGuard];simp[h4]
theorem Hc (is:List Nat) {Rs':List Res} (hr:Sel Rs is Rs') (h:TL P n F0 w0 ops l e Rs' Q):TL P n F0 w0 ops l e Rs Q:=fun a w ha hs=>h a w ha (hs.sel is hr)
theorem Hx (is:List Nat) {Rs':List Res} (hr:Sel Rs is Rs') (h:TD P n F0 w0 ops lo Rf e Rs' Q):TD P n F0 w0 ops lo Rf e Rs Q:=fun a w ha hs=>h a w ha (hs.sel is hr)
theorem T.sel (is:List Nat) {Rs':List Res} (hr:Sel Rs is Rs') (h:T P n F0 w0 e Rs' c Q):T P n F0 w0 e Rs c Q:=fun a w ha hs=>h a w ha (hs.sel is hr)
theorem G8 {z:Exit} (is:List Nat) {Rs':List Res} (hr:Sel Rs is Rs') (h:X n F0 w0 e Rs' z Q):X n F0 w0 e Rs z Q:=fun a w ha hs=>h a w ha (hs.sel is hr)
theorem Has.as {a:Act} (ha:Has n e a) (hv:e.get d=some v) (h:v=v'):Has n ((d,v')::e) a:=ha.sub (fun t u hu=>by
 simp only[Env.get] at hu
 cases hb:Nat.beq d t with
 | true =>
  rw[hb] at hu;obtain rfl:=Nat.eq_of_beq_eq_true hb;injection hu with hu;rw[hv,h,hu]
 | false=>rw[hb] at hu; exact hu)
theorem GO {α:Type} {z:Exit} (size:Nat) (E:Rd α) (h:X n F0 w0 e (RdR (ai size E) [.slice none 0 0] []::Rs) z Q):X n F0 w0 e Rs z Q:=fun a w ha hs=>h a w ha (RdR.nil size E hs)
theorem Ip {α:Type} {z:Exit} {E:Rd α} {size:Nat} {T:TypeId} {u:Value} {xs:List α} (hp:0<size) (i:Nat) (hi:Rs[i]? = some (ci T size E u xs)) (h:X n F0 w0 e (Rs.set i (RdR (ai size E) [u] xs)) z Q):X n F0 w0 e Rs z Q:=fun a w ha hs=>h a w ha (ci.shut hp i hs hi)
theorem bp.of_blk {b:Nat} {w:World} {G:Nat->Prop} (h:(aN b 112 #[.slice none 0 0,.int .i64 0]).P w G):(bp b ([],0)).P w G:=by
 obtain⟨h1,h2⟩:=h;exact⟨_,h1,World.ownsRow_nil _ _ _ _,fun k=>by simp[h2 k,Value.ownBlock]⟩
theorem Io {zv:Value} (ho:ops[i]? = some ⟨some d,.alloc t,ty,pos,af,gd⟩) (hw:Wd n ops e ⟨some d,.alloc t,ty,pos,af,gd⟩ true) (hz: ∀ w,(zeroValue t).run P w= .ok zv w) (hd:Nat.blt d n=true)
 (h: ∀ b,TL P n F0 w0 ops l ((d,.pointer (some ⟨b,0,none⟩))::e) (bp b ([],0)::Rs) Q) (ht:t=112:=by rfl) (hzv:zv= .agg #[.slice none 0 0,.int .i64 0]:=by rfl):TL P n F0 w0 ops (i::l) e Rs Q:=by
 refine TL.alloc ho hw hz hd (fun b=> ?_);intro a w ha hs;subst ht hzv;exact h b a w ha (hs.weaken 0 rfl (fun G hG=>bp.of_blk hG))
section
variable {α:Type} {E:Rd α} {sl:Operand} {T z bytes g ii jj:Nat} {zv:Value} {A:Option Addr} {cp:Nat} {Rs':List Res} {B:Res}
theorem TL.app1 (ii:Nat) {us:List Value} {u:α} {l:List α} {lr:List Nat} (ho:ops[i]? = some ⟨some d,.call ⟨.builtin .append,#[sl,x],#[t,t]⟩,ty,pos,af,gd⟩) (hw:Wd n ops e ⟨some d,.call ⟨.builtin .append,#[sl,x],#[t,t]⟩,ty,pos,af,gd⟩ true)
 (hu:P.underlying t=some (.slice T)) (hinfo:(P.info? T).map (fun i=>(i.zero,i.size,i.bytes))=some (some zv,z,bytes)) (hzv:zv.cells.size=z) (hp:0<z)
 (hs:e.ev sl=some (.slice A l.length cp)) (hx:e.ev x=some (.slice (some ⟨g,0,none⟩) 1 1)) (hR:Rs=aN g T us.toArray::Rs') (hi:Rs'[ii]? = some (ci T z E (.slice A l.length cp) l)) (hl:us.length=z) (hq:us.all (·.oneCell')=true) (hE: ∀ w S,E.P w S us u) (hb:(l.length+1)*bytes<=140737488355328) (hm:l.length+1<=140737488355328) (hd:Nat.blt d n=true)
 (h: ∀ A' c',TL P n F0 w0 ops lr ((d,.slice A' (l ++ [u]).length c')::e) (Rs'.set ii (ci T z E (.slice A' (l ++ [u]).length c') (l ++ [u]))) Q):TL P n F0 w0 ops (i::lr) e Rs Q:=by
 refine H9 ho hw (Ef.app1 ii hu hinfo hzv hp hs hx hR hi hl hq hE hb hm hd) ?_;rintro _ _ ⟨A',c',rfl,rfl⟩;exact h A' c'
theorem Iu (ii jj:Nat) {us:List Value} {u:α} {l:List α} {lr:List Nat} (ho:ops[i]? = some ⟨some d,.call ⟨.builtin .append,#[sl,x],#[t,t]⟩,ty,pos,af,gd⟩) (hw:Wd n ops e ⟨some d,.call ⟨.builtin .append,#[sl,x],#[t,t]⟩,ty,pos,af,gd⟩ true)
 (hu:P.underlying t=some (.slice T)) (hinfo:(P.info? T).map (fun i=>(i.zero,i.size,i.bytes))=some (some zv,z,bytes)) (hzv:zv.cells.size=z) (hp:0<z)
 (hs:e.ev sl=some (.slice A l.length cp)) (hx:e.ev x=some (.slice (some ⟨g,0,none⟩) 1 1)) (hR:Rs=aN g T us.toArray::Rs') (hi:Rs'[ii]? = some (ci T z E (.slice A l.length cp) l)) (hj:(Rs'.eraseIdx ii)[jj]? = some B) (hl:us.length=z) (hq:us.all (·.oneCell')=true) (hE: ∀ w G,B.P w G->E.P w G us u) (hb:(l.length+1)*bytes<=140737488355328) (hm:l.length+1<=140737488355328) (hd:Nat.blt d n=true)
 (h: ∀ A' c',TL P n F0 w0 ops lr ((d,.slice A' (l ++ [u]).length c')::e) (ci T z E (.slice A' (l ++ [u]).length c') (l ++ [u])::(Rs'.eraseIdx ii).eraseIdx jj) Q):TL P n F0 w0 ops (i::lr) e Rs Q:=by
 refine H9 ho hw (Ef.app2 ii jj hu hinfo hzv hp hs hx hR hi hj hl hq hE hb hm hd) ?_;rintro _ _ ⟨A',c',rfl,rfl⟩;exact h A' c'
theorem TD.app1 (ii:Nat) {us:List Value} {u:α} {l:List α} {lr:Sch} (ho:ops[i]? = some ⟨some d,.call ⟨.builtin .append,#[sl,x],#[t,t]⟩,ty,pos,af,gd⟩) (hw:Wd n ops e ⟨some d,.call ⟨.builtin .append,#[sl,x],#[t,t]⟩,ty,pos,af,gd⟩ true)
 (hu:P.underlying t=some (.slice T)) (hinfo:(P.info? T).map (fun i=>(i.zero,i.size,i.bytes))=some (some zv,z,bytes)) (hzv:zv.cells.size=z) (hp:0<z)
 (hs:e.ev sl=some (.slice A l.length cp)) (hx:e.ev x=some (.slice (some ⟨g,0,none⟩) 1 1)) (hR:Rs=aN g T us.toArray::Rs') (hi:Rs'[ii]? = some (ci T z E (.slice A l.length cp) l)) (hl:us.length=z) (hq:us.all (·.oneCell')=true) (hE: ∀ w S,E.P w S us u) (hb:(l.length+1)*bytes<=140737488355328) (hm:l.length+1<=140737488355328) (hd:Nat.blt d n=true)
 (is:List Nat) (hf: ∀ A' c',Sel (Rs'.set ii (ci T z E (.slice A' (l ++ [u]).length c') (l ++ [u]))) is Rf)
 (h: ∀ A' c',TD P n F0 w0 ops lr Rf ((d,.slice A' (l ++ [u]).length c')::e) (Rs'.set ii (ci T z E (.slice A' (l ++ [u]).length c') (l ++ [u]))) Q):TD P n F0 w0 ops (.e i lr) Rf e Rs Q:=by
 refine Il ho hw (Ef.app1 ii hu hinfo hzv hp hs hx hR hi hl hq hE hb hm hd) ?_;rintro _ _ ⟨A',c',rfl,rfl⟩;exact⟨Rf,fun w hw=>hw.sel is (hf A' c'),fun _ h=>h,h A' c'⟩
theorem Iv (ii jj:Nat) {us:List Value} {u:α} {l:List α} {lr:Sch} (ho:ops[i]? = some ⟨some d,.call ⟨.builtin .append,#[sl,x],#[t,t]⟩,ty,pos,af,gd⟩) (hw:Wd n ops e ⟨some d,.call ⟨.builtin .append,#[sl,x],#[t,t]⟩,ty,pos,af,gd⟩ true)
 (hu:P.underlying t=some (.slice T)) (hinfo:(P.info? T).map (fun i=>(i.zero,i.size,i.bytes))=some (some zv,z,bytes)) (hzv:zv.cells.size=z) (hp:0<z)
 (hs:e.ev sl=some (.slice A l.length cp)) (hx:e.ev x=some (.slice (some ⟨g,0,none⟩) 1 1)) (hR:Rs=aN g T us.toArray::Rs') (hi:Rs'[ii]? = some (ci T z E (.slice A l.length cp) l)) (hj:(Rs'.eraseIdx ii)[jj]? = some B) (hl:us.length=z) (hq:us.all (·.oneCell')=true) (hE: ∀ w G,B.P w G->E.P w G us u) (hb:(l.length+1)*bytes<=140737488355328) (hm:l.length+1<=140737488355328) (hd:Nat.blt d n=true)
 (is:List Nat) (hf: ∀ A' c',Sel (ci T z E (.slice A' (l ++ [u]).length c') (l ++ [u])::(Rs'.eraseIdx ii).eraseIdx jj) is Rf)
 (h: ∀ A' c',TD P n F0 w0 ops lr Rf ((d,.slice A' (l ++ [u]).length c')::e) (ci T z E (.slice A' (l ++ [u]).length c') (l ++ [u])::(Rs'.eraseIdx ii).eraseIdx jj) Q):TD P n F0 w0 ops (.e i lr) Rf e Rs Q:=by
 refine Il ho hw (Ef.app2 ii jj hu hinfo hzv hp hs hx hR hi hj hl hq hE hb hm hd) ?_;rintro _ _ ⟨A',c',rfl,rfl⟩;exact⟨Rf,fun w hw=>hw.sel is (hf A' c'),fun _ h=>h,h A' c'⟩
end
variable (P n F0 w0) in
def RV (e:Env) (Rs:List Res) (r:ResultVar) (v:Value):Prop:= ∀ a w,Has n e a->St F0 w0 Rs w->(resv a.tmps r).run P w= .ok v w
theorem Gu {k:Nat} (hv:e.get k=some v):RV P n F0 w0 e Rs (.tmp k) v:=by
 intro a w ha hs;have h2:=ha.at_ k v hv;simp[resv,h2]
theorem Hb (i:Nat) {k b T:Nat} {us:Array Value} {z:Nat} (hk:e.get k=some (.pointer (some ⟨b,0,none⟩))) (ha: ∀ w,(isAgg t).run P w= .ok true w) (hz: ∀ w,(sizeOf t).run P w= .ok z w) (hi:Rs[i]? = some (aN b T us)) (hl:us.size=z):RV P n F0 w0 e Rs (.cell k t) (.agg us):=by
 intro a w h hs;have h2:=h.at_ k _ hk;have hb:=hs.blk i hi;have h3:=qh (P:=P) (t:=t) (w:=w) (ad:=⟨b,0,none⟩) (cs:=us.toList) ha (by intro w; rw[hz]; simp[hl]) (fun j u hj=>by
  have e1:(⟨b,0,none⟩:Addr).add j=⟨b,j,none⟩:=by unfold Addr.add; split <;> simp_all
  rw[e1,bt hb];simpa using hj)
 simp[resv,h2,asAddr,h3]
section
variable {f:Func} {R:Value->Res->List Res->Prop} {A':Res} {Ns:List Res} {r1 r2 r3 r4:ResultVar} {v1 v2 v3 v4:Value} {z:Exit}
theorem X.fin (hR:R v A' Ns) (is:List Nat) (hr:Sel Rs is (A'::Ns)) (hx:z= .ret\/z= .normal) (h: ∀ a w,Has n e a->St F0 w0 Rs w->(results f a.tmps).run P w= .ok v w):X n F0 w0 e Rs z (bodyPost P f (pk R F0 w0)):=by
 intro a w ha hs;have h:bodyPost P f (pk R F0 w0) .ret a w:=⟨ha.df,v,h a w ha hs,v,A',Ns,rfl,hR,hs.sel is hr⟩;rcases hx with rfl | rfl <;> exact h
theorem GV (is:List Nat) (hf:f.results= #[r1]) (h1:RV P n F0 w0 e Rs r1 v1) (hR:R v1 A' Ns) (hr:Sel Rs is (A'::Ns)) (hx:z= .ret\/z= .normal):X n F0 w0 e Rs z (bodyPost P f (pk R F0 w0)) :=
 X.fin hR is hr hx (fun a w ha hs=>by rw[my,hf]; simp[h1 a w ha hs])
theorem G9 (is:List Nat) (hf:f.results= #[r1,r2]) (h1:RV P n F0 w0 e Rs r1 v1) (h2:RV P n F0 w0 e Rs r2 v2) (hR:R (.tuple #[v1,v2]) A' Ns) (hr:Sel Rs is (A'::Ns)) (hx:z= .ret\/z= .normal):X n F0 w0 e Rs z (bodyPost P f (pk R F0 w0)) :=
 X.fin hR is hr hx (fun a w ha hs=>by rw[my,hf]; simp[h1 a w ha hs,h2 a w ha hs])
theorem Iq (is:List Nat) (hf:f.results= #[r1,r2,r3]) (h1:RV P n F0 w0 e Rs r1 v1) (h2:RV P n F0 w0 e Rs r2 v2) (h3:RV P n F0 w0 e Rs r3 v3) (hR:R (.tuple #[v1,v2,v3]) A' Ns) (hr:Sel Rs is (A'::Ns)) (hx:z= .ret\/z= .normal):X n F0 w0 e Rs z (bodyPost P f (pk R F0 w0)) :=
 X.fin hR is hr hx (fun a w ha hs=>by rw[my,hf]; simp[h1 a w ha hs,h2 a w ha hs,h3 a w ha hs])
end
theorem BOK.mk {zv:Value} {fs:Array Field} {pl:List (Nat×Nat)} {zs:Array Value} (hz: ∀ w,(zeroValue t).run P w= .ok zv w) (hu: ∀ w,(underlying t).run P w= .ok (.struct fs) w) (hp: ∀ w,(fs.mapM (fun f=>do pure (f.offset,<- sizeOf f.type)):Sem (Array (Nat×Nat))).run P w= .ok pl.toArray w) (hzs:zv.cells=zs:=by rfl):BOK P t zs pl:=by
 intro parts cells w h;subst hzs;simp only[Instr.build,Sem.run_bind,hz,Result.andThen_ok,hu,hp];have h2:(fun (i:Nat)=>(pl.toArray)[i]?)=(fun (i:Nat)=>pl[i]?):=by funext i; simp
 simp[h2,h]
theorem SOK.mk {T m z:Nat} {zv:Value} {zs:Array Value} (hu: ∀ w,(underlying t).run P w= .ok (.slice T) w) (hz: ∀ w,(sizeOf T).run P w= .ok z w) (hzv: ∀ w,(zeroValue T).run P w= .ok zv w) (hm:0<m*z/\m*z<=16777216) (hzs:(Array.range (m*z)).map (fun i=>zv.cells[i % zv.cells.size]!)=zs):SOK P t T m z zs:=by
 intro parts cells w h;have h1: ¬ (m*z>2 ^ 24):=by omega
 have h2: ¬ (m*z=0):=by omega
 subst hzs;simp only[Instr.buildSlice,Sem.run_bind,hu,hz,Result.andThen_ok,h1,if_false,h2,hzv,Sem.run_pure];simp[h,newRow]
end
def eqV:Value->Value->Option Bool
 | .int k a,.int k' b=>if k=k' then some (decide (a=b)) else none
 | .bool a,.bool b=>some (decide (a=b))
 | .string a,.string b=>some (decide (a.toList=b.toList))
 | _,_=>none
def eqL:List Value->List Value->Option Bool
 | [],[]=>some true
 | x::xs,y::ys=>match eqV x y with
  | some true=>eqL xs ys
  | some false=>some false
  | none=>none
 | _,_=>none
theorem nc {k:IntKind} {a b:Int} (h:a=b):eqV (.int k a) (.int k b)=some true:=by simp[eqV,h]
theorem Ab {k:IntKind} {a b:Int} (h: ¬ a=b):eqV (.int k a) (.int k b)=some false:=by simp[eqV,h]
theorem ne {a b:Bool} (h:a=b):eqV (.bool a) (.bool b)=some true:=by simp[eqV,h]
theorem rp {a b:Bool} (h: ¬ a=b):eqV (.bool a) (.bool b)=some false:=by simp[eqV,h]
theorem qj {l m:List UInt8} (h:l=m):eqV (.string (bsOf l)) (.string (bsOf m))=some true:=by simp[eqV,h]
theorem pv {l m:List UInt8} (h: ¬ l=m):eqV (.string (bsOf l)) (.string (bsOf m))=some false:=by simp[eqV,eJ,h]
theorem eC {x y:Value} {xs ys:List Value} {b:Bool} (h:eqV x y=some true) (r:eqL xs ys=some b):eqL (x::xs) (y::ys)=some b:=by simp[eqL,h,r]
theorem kr {x y:Value} {xs ys:List Value} (h:eqV x y=some false):eqL (x::xs) (y::ys)=some false:=by simp[eqL,h]
theorem tW: ∀ {xs ys xs' ys':List Value} {b:Bool},xs.length=ys.length->eqL (xs++xs') (ys++ys')=some b-> ∃ c,eqL xs ys=some c/\(if c then eqL xs' ys' else some false)=some b
 | [],[],xs',ys',b,_,h=>⟨true,rfl,by simpa using h⟩
 | x::xs,y::ys,xs',ys',b,hl,h=>by
  simp only[List.cons_append,eqL] at h ⊢
  cases hv:eqV x y with
  | none=>rw[hv] at h; cases h
  | some c =>
   cases c with
   | true =>
    rw[hv] at h;exact tW (by simpa using hl) h
   | false =>
    rw[hv] at h;exact⟨false,rfl,by simpa using h⟩
def okD:TypeDesc->Value->Bool
 | .int _,.int _ _=>true
 | .bool,.bool _=>true
 | .string,.string _=>true
 | _,_=>false
def mf:List TypeDesc->List Value->Bool
 | [],[]=>true
 | d::ds,v::vs=>okD d v && mf ds vs
 | _,_=>false
theorem jZ: ∀ {ds:List TypeDesc} {vs:List Value},mf ds vs=true->vs.length=ds.length
 | [],[],_=>rfl
 | d::ds,v::vs,h=>by
  simp only[mf,Bool.and_eq_true] at h;simp[jZ h.2]
theorem tX: ∀ {ds ds':List TypeDesc} {vs:List Value},mf (ds++ds') vs=true->mf ds (vs.take ds.length)=true/\mf ds' (vs.drop ds.length)=true
 | [],ds',vs,h=>by simpa [mf] using h
 | d::ds,ds',[],h=>by simp[mf] at h
 | d::ds,ds',v::vs,h=>by
  simp only[List.cons_append,mf,Bool.and_eq_true] at h;have:=tX h.2;simp[mf,h.1,this]
def mkV (agg:Bool) (xs:List Value):Value:=if agg then .agg xs.toArray else xs.headD undef
structure gv (P:Program) (k:Nat) (t:TypeId) (ds:List TypeDesc) (agg:Bool):Prop where
 ia: ∀ w,(isAgg t).run P w= .ok agg w
 sz: ∀ w,(sizeOf t).run P w= .ok ds.length w
 one:agg=false->ds.length=1
 eq: ∀ (d:Nat) (xs ys:List Value) (b:Bool) (w:World),k<=d->mf ds xs=true->mf ds ys=true->eqL xs ys=some b->(Op.equalIn d t (mkV agg xs) (mkV agg ys)).run P w= .ok b w
section
variable {P:Program} {t:TypeId}
theorem FD {x y:Value} {b:Bool} (h:eqL [x] [y]=some b):eqV x y=some b:=by
 simp only[eqL] at h
 cases hv:eqV x y with
 | none=>rw[hv] at h; cases h
 | some c=>cases c <;> (rw[hv] at h; exact h)
theorem len1 {xs:List Value} (h:xs.length=1): ∃ x,xs = [x]:=by
 match xs,h with
 | [x],_=>exact⟨x,rfl⟩
theorem CD {d0:TypeDesc} (hu:P.underlying t=some d0) (d:Nat) (x y:Value) (b:Bool) (w:World) (hx:okD d0 x=true) (hy:okD d0 y=true) (h:eqV x y=some b):(Op.equalIn (d+1) t x y).run P w= .ok b w:=by
 cases d0 <;> cases x <;> first | (simp[okD] at hx; done) | skip;all_goals cases y <;> first | (simp[okD] at hy; done) | skip
 ·simp only[eqV,Option.some.injEq] at h;subst h;rw[run_equalIn_bool' w d t _ _ hu];rfl
 ·rename_i q k a k' b';simp only[eqV] at h;split at h
  ·rename_i hk;subst hk;injection h with h;subst h;rw[run_equalIn_int w d t k _ a b' hu];rfl
  ·cases h
 ·simp only[eqV,Option.some.injEq] at h;subst h;rw[run_equalIn_string w d t _ _ hu];congr 1;rename_i p q;by_cases hpq:p.toList=q.toList <;> simp[hpq]
theorem HJ {d0:TypeDesc} (ia: ∀ w,(isAgg t).run P w= .ok false w) (sz: ∀ w,(sizeOf t).run P w= .ok 1 w) (hu:P.underlying t=some d0):gv P 1 t [d0] false:=by
 refine⟨ia,sz,fun _=>rfl,?_⟩;intro d xs ys b w hd hx hy h;obtain⟨x,rfl⟩:=len1 (by simpa using jZ hx);obtain⟨y,rfl⟩:=len1 (by simpa using jZ hy);obtain⟨d,rfl⟩: ∃ d',d=d'+1:=⟨d - 1,by omega⟩;exact CD hu d x y b w (by simpa [mf] using hx) (by simpa [mf] using hy) (FD h)
def Ac (P:Program) (k:Nat):Nat->List Field->List TypeDesc->Prop
 | _,[],ds=>ds = []
 | off, f :: fs, ds => f.name ≠ "_" /\ f.offset = off /\ ∃ d1 d2 agg, ds = d1 ++ d2 /\ gv P k f.type d1 agg /\ Ac P k (off + d1.length) fs d2
theorem ym {ty:TypeId} {ds:List TypeDesc} {agg:Bool} {k:Nat} (hf:gv P k ty ds agg) (xs:List Value) (off:Nat) (w:World) (hl:off+ds.length<=xs.length):(part ty xs.toArray off).run P w= .ok (mkV agg ((xs.drop off).take ds.length)) w:=by
 cases agg with
 | true =>
  have h1:=hf.ia w;simp only[part,Sem.run_bind,h1,Result.andThen_ok,if_true,hf.sz w,Sem.run_pure,mkV];congr 2;apply Array.ext';simp[List.extract_eq_take_drop]
 | false =>
  have h1:=hf.ia w;have h2:=hf.one rfl;have h3:off<xs.length:=by omega
  have h4:((xs.drop off).take 1).headD undef=xs[off]:=by
   rw[List.drop_eq_getElem_cons h3];rfl
  simp only[part,Sem.run_bind,h1,Result.andThen_ok,Bool.false_eq_true,if_false,mkV,h2,h4];simp[h3]
theorem tY {k:Nat}: ∀ {fs:List Field} {ds:List TypeDesc} {off:Nat},Ac P k off fs ds-> ∀ (d:Nat) (xs ys:List Value) (b:Bool) (w:World),k<=d->xs.length=off+ds.length->ys.length=off+ds.length ->
 mf ds (xs.drop off)=true->mf ds (ys.drop off)=true->eqL (xs.drop off) (ys.drop off)=some b->(Op.eqFields d xs.toArray ys.toArray fs).run P w= .ok b w
 | [],ds,off,hf,d,xs,ys,b,w,hd,hx,hy,ox,oy,h=>by
  obtain rfl:ds = []:=hf;rw[List.drop_of_length_le (by simp at hx; omega),List.drop_of_length_le (by simp at hy; omega)] at h;injection h with h;subst h;rfl
 | f::fs,ds,off,hf,d,xs,ys,b,w,hd,hx,hy,ox,oy,h=>by
  obtain⟨hn,ho,d1,d2,agg,rfl,hF,hr⟩:=hf;rw[Js] at hx hy;have ox':=tX ox;have oy':=tX oy;have e1:xs.drop off=(xs.drop off).take d1.length++xs.drop (off+d1.length):=by rw[<- Kf,List.take_append_drop]
  have e2:ys.drop off=(ys.drop off).take d1.length++ys.drop (off+d1.length):=by rw[<- Kf,List.take_append_drop]
  rw[e1,e2] at h;obtain⟨c,h1,h2⟩:=tW (by simp; omega) h;have p1:=ym hF xs off w Mc;have p2:=ym hF ys off w Mc;have q1:=hF.eq d _ _ c w hd ox'.1 oy'.1 h1;simp only[Op.eqFields,hn,ne_eq,not_false_eq_true,if_true,Sem.run_bind,ho,p1,Result.andThen_ok,p2,q1,Sem.run_ite]
  cases c with
  | false =>
   simp only[Bool.false_eq_true,if_false] at h2;injection h2 with h2;subst h2;rfl
  | true =>
   simp only[if_true] at h2;have h3:=tY hr d xs ys b w hd Mc Mc (by rw[<- Kf]; exact ox'.2) (by rw[<- Kf]; exact oy'.2) h2;simpa using h3
theorem gv.struct {k:Nat} {fs:Array Field} {ds:List TypeDesc} (ia: ∀ w,(isAgg t).run P w= .ok true w) {z:Nat} (sz: ∀ w,(sizeOf t).run P w= .ok z w) (hz:ds.length=z) (hu:P.underlying t=some (.struct fs)) (hp:P.stoodInHeld t=false) (hf:Ac P k 0 fs.toList ds):gv P (k+1) t ds true:=by
 subst hz;refine⟨ia,sz,fun h=>(by cases h),?_⟩;intro d xs ys b w hd hx hy h;obtain⟨d,rfl⟩: ∃ d',d=d'+1:=⟨d - 1,by omega⟩;have e:P.fieldsOf t=fs:=by simp[Program.fieldsOf,hu]
 simp only[mkV,if_true];rw[run_equalIn_agg w d t _ _ (by rw[e]; exact hu) hp,e];exact tY hf d xs ys b w Mc (by simpa using jZ hx) (by simpa using jZ hy) hx hy h
theorem gv.mono {k k':Nat} {ds:List TypeDesc} {agg:Bool} (h:gv P k t ds agg) (hk:k<=k'):gv P k' t ds agg:=⟨h.ia,h.sz,h.one,fun d xs ys b w hd=>h.eq d xs ys b w Mc⟩
end
section
variable {P:Program} {n:Nat} {F0:Nat->Prop} {w0:World} {e:Env} {Rs Rf:List Res} {Q:Exit->Act->World->Prop} {ops:Array Oper} {d:Option Tmp} {i:Nat} {ty t t' el:TypeId} {pos:String} {af:Array Edge} {gd:Option (Nat×Bool)} {v v':Value} {x y:Operand} {l:List Nat} {lo:Sch} {c:Code} {S:World->Prop}
theorem H7 {k:Nat} {ds:List TypeDesc} {us vs:List Value} {b:Bool} (hF:gv P k t ds true) (hk:Nat.ble k 10000=true) (hG:P.eqGuardType P.depth t=false) (hx:e.ev x=some (.agg us.toArray)) (hy:e.ev y=some (.agg vs.toArray)) (ou:mf ds us=true) (ov:mf ds vs=true) (h:eqL us vs=some b) :
 Ex P n e S ⟨d,.binOp .eql t x y t',ty,pos,af,gd⟩ (.bool b):=by
 intro a w ha _;have h1:=hF.eq 10000 us vs b w (Nat.le_of_ble_eq_true hk) ou ov h;simp only[mkV,if_true] at h1;simp only[execOp,ha.ev hx,ha.ev hy,Sem.run_bind];rw[run_eqGuard_agg w .eql t x y _ _ hG];simp only[Result.andThen_ok];rw[run_eql_struct w t _ _,h1];rfl
theorem Iy {k:Nat} {ds:List TypeDesc} {us vs:List Value} {b:Bool} (hF:gv P k t ds true) (hk:Nat.ble k 10000=true) (hG:P.eqGuardType P.depth t=false) (hx:e.ev x=some (.agg us.toArray)) (hy:e.ev y=some (.agg vs.toArray)) (ou:mf ds us=true) (ov:mf ds vs=true) (h:eqL us vs=some b) :
 Ex P n e S ⟨d,.binOp .neq t x y t',ty,pos,af,gd⟩ (.bool (!b)):=by
 intro a w ha _;have h1:=hF.eq 10000 us vs b w (Nat.le_of_ble_eq_true hk) ou ov h;simp only[mkV,if_true] at h1;simp only[execOp,ha.ev hx,ha.ev hy,Sem.run_bind];rw[run_eqGuard_agg w .neq t x y _ _ hG];simp only[Result.andThen_ok];rw[run_neq_struct w t _ _,h1];rfl
theorem Wd.gu {op:Op} {j k:Nat} {want:Bool} (hj:(ops[j]?).bind (·.dst)=some k) (hv:e.get k=some undef):Wd n ops e ⟨d,op,ty,pos,af,some (j,want)⟩ false:=by
 intro a h;simp only[Region.wanted,yielded,hj,Jo,h.at_ k _ hv];rfl
end
def CE {α:Type} (B:Res) (E:Rd α) (g q:Nat) (cs:List Value) (x:α):Res where
 P:=fun w G=>B.P w G/\G g/\(∀ j,j<cs.length->w.cell? ⟨g,q+j,none⟩=cs[j]?)/\E.P w G cs x
 lt:=fun h=>B.lt h.1
 move:=fun {w w' G} h hm=>⟨B.move h.1 hm,h.2.1,fun j hj=>by
  rw[<- h.2.2.1 j hj];simp only[World.cell?,hm g h.2.1],E.move h.2.2.2 hm⟩
section
variable {P:Program} {n:Nat} {F0:Nat->Prop} {w0 w:World} {e:Env} {Rs Rf:List Res} {Q:Exit->Act->World->Prop} {ops:Array Oper} {d:Option Tmp} {i:Nat} {ty t t' el:TypeId} {pos:String} {af:Array Edge} {gd:Option (Nat×Bool)} {v v':Value} {y z:Operand} {l:List Nat} {lo:Sch} {c:Code} {S:World->Prop}
variable {α:Type} {E:Rd α} {B:Res} {A:Option Addr} {m cp size k:Nat} {xs:List α} {x:α}
theorem foc_P {G:Nat->Prop} (hG:B.P w G) (hB:(RX.of (ai size E) [.slice A m cp] xs).P w G) (hp:0<size) (hx:xs[k]? = some x): ∃ g o cs,A=some ⟨g,o,none⟩/\cs.length=size/\(∃ S,E.P w S cs x)/\(CE B E g (o+k*size) cs x).P w G:=by
 rcases hB with⟨h,rfl⟩ | ⟨a,cap,h,_,_,hb,h2⟩
 ·simp at hx
 ·injection h with h;injection h with h3 h4 h5;subst h3;have hl:0<xs.length:=by have:=(Jt hx).1; omega
  obtain⟨cs0,k1,k2,_⟩:=h2 0 xs[0] (List.getElem?_eq_getElem hl);have k3:=k2 0 hp;rw[List.getElem?_eq_getElem Mc] at k3;have k4:a.add (0*size+0)=a:=by simp[Addr.add]
  rw[k4] at k3;have k5:=rf k3;obtain⟨cs,k6,k7,k8⟩:=h2 k x hx;refine⟨a.block,a.off,cs,by rw[<- k5],k6,⟨G,k8⟩,hG,hb hl,fun j hj=> ?_,k8⟩;rw[<- k7 j Mc,k5,WideShapes.add_plain,Nat.add_assoc]
theorem St.foc (i:Nat) (h:St F0 w0 Rs w) (hi:Rs[i]? = some B) (hB: ∀ w G,B.P w G->(RX.of (ai size E) [.slice A m cp] xs).P w G) (hp:0<size) (hx:xs[k]? = some x) :
 ∃ g o cs,A=some ⟨g,o,none⟩/\cs.length=size/\(∃ w S,E.P w S cs x)/\St F0 w0 (Rs.set i (CE B E g (o+k*size) cs x)) w:=by
 obtain⟨f,hs⟩:=h;obtain⟨G,h1,h2,h3⟩:=Sep.pick i hi hs;obtain⟨g,o,cs,k1,k2,⟨S,k3⟩,k4⟩:=foc_P h1 (hB w G h1) hp hx;exact⟨g,o,cs,k1,k2,⟨w,S,k3⟩,f,Sep.back i hi k4 h2 h3⟩
theorem T.foc (i:Nat) (hi:Rs[i]? = some B) (hB: ∀ w G,B.P w G->(RX.of (ai size E) [.slice A m cp] xs).P w G) (hp:0<size) (hx:xs[k]? = some x)
 (h: ∀ g o cs,A=some ⟨g,o,none⟩->cs.length=size->(∃ w S,E.P w S cs x)->T P n F0 w0 e (Rs.set i (CE B E g (o+k*size) cs x)) c Q):T P n F0 w0 e Rs c Q:=by
 intro a w ha hs;obtain⟨g,o,cs,k1,k2,k3,k4⟩:=hs.foc i hi hB hp hx;exact h g o cs k1 k2 k3 a w ha k4
theorem TL.foc (i:Nat) (hi:Rs[i]? = some B) (hB: ∀ w G,B.P w G->(RX.of (ai size E) [.slice A m cp] xs).P w G) (hp:0<size) (hx:xs[k]? = some x)
 (h: ∀ g o cs,A=some ⟨g,o,none⟩->cs.length=size->(∃ w S,E.P w S cs x)->TL P n F0 w0 ops l e (Rs.set i (CE B E g (o+k*size) cs x)) Q):TL P n F0 w0 ops l e Rs Q:=by
 intro a w ha hs;obtain⟨g,o,cs,k1,k2,k3,k4⟩:=hs.foc i hi hB hp hx;exact h g o cs k1 k2 k3 a w ha k4
theorem St.unf {q g:Nat} {cs:List Value} (i:Nat) (h:St F0 w0 Rs w) (hi:Rs[i]? = some (CE B E g q cs x)):St F0 w0 (Rs.set i B) w:=h.weaken i hi (fun G hG=>hG.1)
theorem X.unf {q g:Nat} {cs:List Value} {o:Exit} (i:Nat) (hi:Rs[i]? = some (CE B E g q cs x)) (h:X n F0 w0 e (Rs.set i B) o Q):X n F0 w0 e Rs o Q:=fun a w ha hs=>h a w ha (hs.unf i hi)
theorem Ex.k1 {q g:Nat} {cs:List Value} (i j:Nat) (hy:e.ev y=some (.pointer (some ⟨g,q+j,none⟩))) (ha: ∀ w,(isAgg t).run P w= .ok false w) (hi:Rs[i]? = some B) (hB: ∀ w G,B.P w G-> ∀ j,j<cs.length->w.cell? ⟨g,q+j,none⟩=cs[j]?) (hv:cs[j]? = some v):Ex P n e (St F0 w0 Rs) ⟨d,.load t y,ty,pos,af,gd⟩ v :=
 Ex.ld1 hy ha (fun w hw=>by
  obtain⟨G,h1,_⟩:=hw.get i hi;exact (hB w G h1 j (Jt hv).1).trans hv)
theorem Ex.kS {q g z':Nat} {cs us:List Value} (i kk:Nat) (hy:e.ev y=some (.pointer (some ⟨g,q+kk,none⟩))) (ha: ∀ w,(isAgg t).run P w= .ok true w) (hz: ∀ w,(sizeOf t).run P w= .ok z' w) (hi:Rs[i]? = some B) (hB: ∀ w G,B.P w G-> ∀ j,j<cs.length->w.cell? ⟨g,q+j,none⟩=cs[j]?)
 (hv:(cs.drop kk).take z'=us) (hl:Nat.beq us.length z'=true):Ex P n e (St F0 w0 Rs) ⟨d,.load t y,ty,pos,af,gd⟩ (.agg us.toArray):=by
 refine Ex.ldS hy ha hz (Nat.eq_of_beq_eq_true hl) (fun w hw j u hj=> ?_);obtain⟨G,h1,_⟩:=hw.get i hi;have h2:(⟨g,q+kk,none⟩:Addr).add j=⟨g,q+(kk+j),none⟩:=by unfold Addr.add; split <;> simp_all [Nat.add_assoc]
 rw[h2];subst hv;rw[List.getElem?_take] at hj;split at hj
 ·rw[List.getElem?_drop] at hj;exact (hB w G h1 (kk+j) (Jt hj).1).trans hj
 ·cases hj
end
def RX.blk (b:Nat) (T:TypeId) (cs:Array Value):RX:=⟨fun w S=>w.heap[b]? = some (.cells cs T (0,0))/\S b,fun h k=>⟨h.1,k _ h.2⟩,fun h k=>⟨(k _ h.2).trans h.1,h.2⟩⟩
theorem vX {b:Nat} {T:TypeId} {cs:Array Value}: ∀ w G,(aN b T cs).P w G->(RX.blk b T cs).P w G:=fun _ _ h=>⟨h.1,(h.2 _).2 rfl⟩
section
variable {P:Program} {n:Nat} {F0:Nat->Prop} {w0 w:World} {e:Env} {Rs Rf:List Res} {Q:Exit->Act->World->Prop} {ops:Array Oper} {d:Option Tmp} {i:Nat} {ty t t' el:TypeId} {pos:String} {af:Array Edge} {gd:Option (Nat×Bool)} {v v':Value} {x y z:Operand} {l:List Nat} {lo:Sch} {c:Code} {S:World->Prop}
theorem Bx {b:Nat} {T:TypeId} {cs:Array Value} (hX:(RX.blk b T cs).reads w0 F0) (h:St F0 w0 Rs w):w.heap[b]? = some (.cells cs T (0,0)):=by
 obtain⟨S,⟨h1,h2⟩,h3⟩:=hX;exact (h.fr.block b (h3 b h2).2 (h3 b h2).1).trans h1
theorem Ex.xb1 {b o:Nat} {T:TypeId} {cs:Array Value} (hX:(RX.blk b T cs).reads w0 F0) (hx:e.ev x=some (.pointer (some ⟨b,o,none⟩))) (ha: ∀ w,(isAgg t).run P w= .ok false w) (hv:cs[o]? = some v):Ex P n e (St F0 w0 Rs) ⟨d,.load t x,ty,pos,af,gd⟩ v :=
 Ex.ld1 hx ha (fun w hw=>(bt (Bx hX hw) o).trans hv)
theorem Ex.xbS {b o z:Nat} {T:TypeId} {cs:Array Value} {us:List Value} (hX:(RX.blk b T cs).reads w0 F0) (hx:e.ev x=some (.pointer (some ⟨b,o,none⟩))) (ha: ∀ w,(isAgg t).run P w= .ok true w) (hz: ∀ w,(sizeOf t).run P w= .ok z w)
 (hv:(cs.toList.drop o).take z=us) (hl:Nat.beq us.length z=true):Ex P n e (St F0 w0 Rs) ⟨d,.load t x,ty,pos,af,gd⟩ (.agg us.toArray):=by
 refine Ex.ldS hx ha hz (Nat.eq_of_beq_eq_true hl) (fun w hw j u hj=> ?_);have h2:(⟨b,o,none⟩:Addr).add j=⟨b,o+j,none⟩:=by unfold Addr.add; split <;> simp_all
 rw[h2,bt (Bx hX hw)];subst hv;rw[List.getElem?_take] at hj;split at hj
 ·rw[List.getElem?_drop] at hj;simpa using hj
 ·cases hj
theorem Ex.mkI {fs:Array Field} (hx:e.ev x=some v) (hu: ∀ w,(underlying t).run P w= .ok (.struct fs) w):Ex P n e S ⟨d,.makeInterface t x,ty,pos,af,gd⟩ (.iface t v):=by
 intro a w ha _;simp[execOp,ha.ev hx,Instr.makeInterface,hu]
theorem tZ {nm:String} {f:FuncId} {fs:Array Field} {k:Nat} (hn:P.types.size+Made.depth=k+1) (hm:((P.info? t).bind fun i=>i.methods.find? (·.name == nm)).map (fun m=>(m.path.isEmpty,m.func))=some (true,some (f,false))) (hu: ∀ w,(underlying t).run P w= .ok (.struct fs) w) (u:Value) (w:World) :
 (method (P.types.size+Made.depth) t u nm).run P w= .ok (f,u) w:=by
 obtain⟨m,h1,h2⟩:=Option.map_eq_some_iff.1 hm;obtain⟨ti,h3,h4⟩:=Jn h1;simp only[Prod.mk.injEq] at h2;obtain⟨h5,h6⟩:=h2;have h7:m.path.toList = []:=by
  have:m.path= #[]:=by simpa using h5
  simp[this]
 rw[hn];simp only[method,Sem.run_bind,typeInfo];simp[h3,h4,h7,follow,h6,receiverAt,hu,Place.get]
end
section
variable {P:Program} {n:Nat} {F0:Nat->Prop} {w0 w:World} {e:Env} {Rs:List Res} {d:Option Tmp} {ty t t' el:TypeId} {pos:String} {af:Array Edge} {gd:Option (Nat×Bool)} {x y:Operand} {S:World->Prop}
theorem Ex.mulw {k:IntKind} {p q:Int} (hx:e.ev x=some (.int k p)) (hy:e.ev y=some (.int k q)):Ex P n e S ⟨d,.binOp .mul t x y t',ty,pos,af,gd⟩ (.int k (k.wrap (p*q))):=by
 intro a w ha _;simp[execOp,ha.ev hx,ha.ev hy,eqGuard,binOp,Op.intArith]
end
section
variable {P:Program} {n:Nat} {F0:Nat->Prop} {w0:World} {e e':Env} {Rs Rs':List Res} {Q:Exit->Act->World->Prop} {c:Code} {d:Nat} {v v':Value}
def JK (n:Nat) (F0:Nat->Prop) (w0:World) (R:Env->List Res->Prop) (a:Act) (w:World):Prop:= ∃ e Rs,R e Rs/\Has n e a/\St F0 w0 Rs w
theorem Hj (R:Env->List Res->Prop) (h:T P n F0 w0 e Rs c (Exit.then (JK n F0 w0 R) Q)) (k: ∀ e' Rs',R e' Rs'->X n F0 w0 e' Rs' .normal Q):T P n F0 w0 e Rs c Q:=by
 intro a w ha hs;refine wp_mono (h a w ha hs) ?_;intro x a' w' hx;cases x <;> first | exact hx | skip;obtain⟨e',Rs',hR,ha',hs'⟩:=hx;exact k e' Rs' hR a' w' ha' hs'
theorem X.jq {R:Env->List Res->Prop} (is:List Nat) (hR:R e' Rs') (he:Sub e' e) (hr:Sel Rs is Rs'):X n F0 w0 e Rs .normal (Exit.then (JK n F0 w0 R) Q):=fun a w ha hs=>⟨e',Rs',hR,ha.sub he.get,hs.sel is hr⟩
theorem Hn {z:Exit} (hv:e.get d=some v) (h:v=v') (k:X n F0 w0 ((d,v')::e) Rs z Q):X n F0 w0 e Rs z Q:=fun a w ha hs=>k a w (ha.as hv h) hs
end
section
variable {P:Program} {n:Nat} {F0:Nat->Prop} {w0:World} {e:Env} {Rs:List Res} {S:World->Prop} {d:Option Tmp} {ty:TypeId} {pos:String} {af:Array Edge} {gd:Option (Nat×Bool)} {v:Value} {x y ix:Operand} {t t' el:TypeId}
theorem Ex.ixP {g o m z k:Nat} {i:Int} {q:IntKind} (hx:e.ev x=some (.pointer (some ⟨g,o,none⟩))) (hi:e.ev ix=some (.int q i)) (hik:i=(k:Int)) (hu: ∀ w,(underlying t).run P w= .ok (.array m el) w) (hz: ∀ w,(sizeOf el).run P w= .ok z w) (hk:k<m) :
 Ex P n e S ⟨d,.indexAddr t x ix,ty,pos,af,gd⟩ (.pointer (some ⟨g,o+k*z,none⟩)):=by
 intro a w ha _;subst hik;have h1:(0:Int)<=(k:Int)/\(k:Int)<(m:Int):=by omega
 have h2:(⟨g,o,none⟩:Addr).add (k*z)=⟨g,o+k*z,none⟩:=by unfold Addr.add; split <;> simp_all
 have h3:(Instr.indexAt t (.pointer (some ⟨g,o,none⟩)) (.int q (k:Int))).run P w= .ok (.pointer (some ⟨g,o+k*z,none⟩)) w:=by
  simp only[Instr.indexAt,asIntOf,Sem.run_bind,Sem.run_pure,Result.andThen_ok,hu,Instr.sureAddr];rw[Mg h1];simp only[Sem.run_bind,hz,Result.andThen_ok,Kp,h2,Sem.run_pure]
 simp[execOp,ha.ev hx,ha.ev hi,h3]
theorem Hu {g o m c z k:Nat} {i:Int} {q:IntKind} (hx:e.ev x=some (.slice (some ⟨g,o,none⟩) m c)) (hi:e.ev ix=some (.int q i)) (hik:i=(k:Int)) (hu: ∀ w,(underlying t).run P w= .ok (.slice el) w) (hz: ∀ w,(sizeOf el).run P w= .ok z w) (hk:k<m) {r:Nat} (hr:o+k*z=r) :
 Ex P n e S ⟨d,.indexAddr t x ix,ty,pos,af,gd⟩ (.pointer (some ⟨g,r,none⟩)):=by
 subst hr;exact GS hx hi hik hu hz hk
end
open Go.RowKit Go.Deep Go.ChangeShapes
def fg {α:Type} (w0:World) (S:Nat->Prop) (E:Rd α):Rd α where
 P:=fun w G cs x=> ∀ W:World,(∀ k,G k->W.heap[k]? = w.heap[k]?)->(∀ k,S k->W.heap[k]? = w0.heap[k]?)->E.P W (fun k=>G k\/S k) cs x
 mono:=fun h hS W h1 h2=>E.mono (h W (fun k hk=>h1 k (hS k hk)) h2) (fun k hk=>hk.imp (hS k) id)
 move:=fun h hm W h1 h2=>h W (fun k hk=>(h1 k hk).trans (hm k hk)) h2
def RX.old (w0:World) (S:Nat->Prop) (X:RX):RX where
 P:=fun w G=> ∀ W:World,(∀ k,G k->W.heap[k]? = w.heap[k]?)->(∀ k,S k->W.heap[k]? = w0.heap[k]?)->X.P W (fun k=>G k\/S k)
 mono:=fun h hS W h1 h2=>X.mono (h W (fun k hk=>h1 k (hS k hk)) h2) (fun k hk=>hk.imp (hS k) id)
 move:=fun h hm W h1 h2=>h W (fun k hk=>(h1 k hk).trans (hm k hk)) h2
section
variable {α:Type} {w0 w w1:World} {S G F:Nat->Prop} {E:Rd α} {cs:List Value} {x:α} {X Y:RX} {size:Nat}
theorem Ad (h:E.P w0 S cs x):(fg w0 S E).P w G cs x:=fun W _ h2=>E.mono (E.move h h2) (fun k hk=> .inr hk)
theorem FE (h:E.P w G cs x):(fg w0 S E).P w G cs x:=fun W h1 _=>E.mono (E.move h h1) (fun k hk=> .inl hk)
theorem vY {xs:List α} (h:(ai size (fg w0 S E)).P w G cs xs):(fg w0 S (ai size E)).P w G cs xs:=by
 intro W h1 h2;rcases h with h | ⟨a,cap,e1,e2,e3,hb,hr⟩
 ·exact .inl h
 ·refine .inr ⟨a,cap,e1,e2,e3,fun hl=> .inl (hb hl),fun i x hx=> ?_⟩;obtain⟨cs,k1,k2,k3⟩:=hr i x hx;refine⟨cs,k1,fun j hj=> ?_,k3 W h1 h2⟩;have hl:0<xs.length:=by have:=(Jt hx).1; omega
  rw[<- k2 j hj];have e:(a.add (i*size+j)).block=a.block:=block_add _ _;simp only[World.cell?,e,h1 _ (hb hl)]
theorem DR (h: ∀ k,S k->w1.heap[k]? = w0.heap[k]?):fg w1 S E=fg w0 S E:=by
 unfold fg;congr 1;funext w G cs x;apply propext;constructor
 ·exact fun hp W h1 h2=>hp W h1 (fun k hk=>(h2 k hk).trans (h k hk).symm)
 ·exact fun hp W h1 h2=>hp W h1 (fun k hk=>(h2 k hk).trans (h k hk))
theorem qk (h:(RX.old w0 S X).P w G) (k:(RX.old w0 S Y).P w G):(RX.old w0 S (X.and Y)).P w G:=fun W h1 h2=>⟨h W h1 h2,k W h1 h2⟩
theorem mh {B:Res} (hB: ∀ w G,B.P w G->X.P w G): ∀ w G,B.P w G->(RX.old w0 S X).P w G:=fun w G h W h1 _=>X.mono (X.move (hB w G h) h1) (fun k hk=> .inl hk)
theorem DS {T:TypeId} {v:Value} {xs:List α} (hp:0<size): ∀ w G,(ci T size (fg w0 S E) v xs).P w G->(RX.old w0 S (RX.of (ai size E) [v] xs)).P w G:=fun w G h=>vY (dG hp w G h)
theorem iv: ∀ w G,(RdR (fg w0 S E) cs x).P w G->(RX.old w0 S (RX.of E cs x)).P w G:=fun w G h=>h.1
theorem RX.elemS {A:Option Addr} {n c i:Nat} {l:List α} (hp:0<size) (h:(RX.of (ai size E) [.slice A n c] l).P w S) (hF: ∀ k,S k-> ¬ F k/\k<w.heap.size) (hx:l[i]? = some x) :
 ∃ g o:Nat,A=some ⟨g,o,none⟩/\ ∃ cs,cs.length=size/\(∀ j,j<size->w.cell? ⟨g,o+i*size+j,none⟩=cs[j]?)/\(¬ F g/\g<w.heap.size)/\(RX.of E cs x).P w S:=by
 rcases h with⟨h,rfl⟩ | ⟨a,cap,h,_,_,hb,h2⟩
 ·simp at hx
 ·injection h with h;injection h with h3 h4 h5;subst h3;have hl:0<l.length:=by have:=(Jt hx).1; omega
  obtain⟨cs0,k1,k2,_⟩:=h2 0 l[0] (List.getElem?_eq_getElem hl);have k3:=k2 0 hp;rw[List.getElem?_eq_getElem Mc] at k3;have k4:a.add (0*size+0)=a:=by simp[Addr.add]
  rw[k4] at k3;have k5:=rf k3;obtain⟨cs,k6,k7,k8⟩:=h2 i x hx;refine⟨a.block,a.off,by rw[<- k5],cs,k6,fun j hj=> ?_,hF _ (hb hl),k8⟩;rw[<- k7 j hj,k5,WideShapes.add_plain,Nat.add_assoc]
end
structure RO where
 α:Type
 E:Rd α
 cs:List Value
 x:α
def RO.res (w0:World) (S:Nat->Prop) (o:RO):Res:=RdR (fg w0 S o.E) o.cs o.x
def ph (P:Program) (f:FuncId) (args:Array Value) (X:RX) (A:Res) (R:Value->Res->List RO->Prop):Prop :=
 ∀ F w S,A.P w F->X.P w S->(∀ k,S k-> ¬ F k/\k<w.heap.size)->Calls P f args w (pk (fun v A' N=> ∃ L,R v A' L/\N=L.map (RO.res w S)) F w)
def xc (w0:World) (S:Nat->Prop) (Bs:List Res) (L:List RO):Res where
 P:=fun w G=>Sep Bs w G/\(∀ k,G k->k<w.heap.size)/\ ∀ o,o∈L->(fg w0 S o.E).P w G o.cs o.x
 lt:=fun h k hk=>h.2.1 k hk
 move:=fun {w w' G} h hm=>⟨h.1.move_ hm,fun k hk=>by
  have h1:=h.2.1 k hk;have h2:=hm k hk;rw[Array.getElem?_eq_getElem h1] at h2;exact (Array.getElem?_eq_some_iff.1 h2).1,fun o ho=>(fg w0 S o.E).move (h.2.2 o ho) hm⟩
section
variable {P:Program} {n:Nat} {F0:Nat->Prop} {w0 w:World} {S:Nat->Prop} {e:Env} {Rs Rs' Rf Bs:List Res} {L:List RO} {B:Res} {Xr Y:RX}
theorem Iw {G:Nat->Prop} (i:Nat) (hi:Bs[i]? = some B) (h:Sep Bs w G) (hB: ∀ w G,B.P w G->(RX.old w0 S Xr).P w G):(RX.old w0 S Xr).P w G:=by
 obtain⟨G',h1,h2,_⟩:=Sep.pick i hi h;exact (RX.old w0 S Xr).mono (hB w G' h1) h2
theorem mi {α:Type} {E:Rd α} {cs:List Value} {x:α} (i:Nat) (hi:L[i]? = some ⟨α,E,cs,x⟩): ∀ w G,(xc w0 S Bs L).P w G->(RX.old w0 S (RX.of E cs x)).P w G:=fun w G h=>h.2.2 ⟨α,E,cs,x⟩ (List.mem_of_getElem? hi)
theorem Hm (j:Nat) (hs:St F0 w0 Rs w) (hj:Rs[j]? = some B) (hB: ∀ w G,B.P w G->(RX.old w0 S Xr).P w G) (hF: ∀ k,S k-> ¬ F0 k/\k<w0.heap.size):Xr.reads w (fun _=>False):=by
 obtain⟨G2,k1,k2⟩:=hs.get j hj;have hfr:=hs.fr;refine⟨fun k=>G2 k\/S k,hB w G2 k1 w (fun _ _=>rfl) (fun k hk=>hfr.block k (hF k hk).2 (hF k hk).1),fun k hk=>⟨fun h=>h,?_⟩⟩;rcases hk with hk | hk
 ·exact B.lt k1 k hk
 ·exact Nat.lt_of_lt_of_le (hF k hk).2 hfr.size
theorem Sep.split: ∀ {Bs Rs:List Res} {w:World} {F:Nat->Prop},Sep (Bs++Rs) w F-> ∃ G,Sep Bs w G/\(∀ k,G k->F k)/\(∀ k,G k->k<w.heap.size)/\Sep Rs w (fun k=>F k/\ ¬ G k)
 | [],Rs,w,F,h=>⟨fun _=>False,trivial,fun _ h=>h.elim,fun _ h=>h.elim,h.mono (fun k hk=>⟨hk,fun h=>h⟩)⟩
 | B::Bs,Rs,w,F,⟨G1,h1,h2,h3⟩=>by
  obtain⟨G,k1,k2,k3,k4⟩:=Sep.split h3;refine⟨fun k=>G1 k\/G k,⟨G1,h1,fun k hk=> .inl hk,k1.mono (fun k hk=>⟨.inr hk,(k2 k hk).2⟩)⟩,fun k hk=>hk.elim (h2 k) (fun h=>(k2 k h).1),fun k hk=>hk.elim (B.lt h1 k) (k3 k),k4.mono (fun k hk=>⟨hk.1.1,fun h=>h.elim hk.1.2 hk.2⟩)⟩
theorem Sep.each: ∀ {L:List RO} {w1:World} {S1 F:Nat->Prop},Sep (L.map (RO.res w1 S1)) w F-> ∀ o,o∈L-> ∃ G,(RdR (fg w1 S1 o.E) o.cs o.x).P w G/\ ∀ k,G k->F k
 | a::L,w1,S1,F,⟨G,h1,h2,h3⟩,o,ho=>by
  rcases List.mem_cons.1 ho with rfl | ho
  ·exact⟨G,h1,h2⟩
  ·obtain⟨G',k1,k2⟩:=Sep.each h3 o ho;exact⟨G',k1,fun k hk=>(k2 k hk).1⟩
variable {d:Option Tmp} {ty:TypeId} {pos:String} {af:Array Edge} {gd:Option (Nat×Bool)} {R:Value->Res->List RO->Prop}
theorem Ef.callSo {op:Op} {f:FuncId} {vs:List Value} (hc:CT P n e ⟨d,op,ty,pos,af,gd⟩ f vs) (hs:ph P f vs.toArray Y aO R) (hY:Y.P w0 S) (hF: ∀ k,S k-> ¬ F0 k/\k<w0.heap.size) (hd:okd d n=true) :
 Ef P n F0 w0 e Rs ⟨d,op,ty,pos,af,gd⟩ (fun e' Rs'=> ∃ v A' L,R v A' L/\e'=kV d v e/\Rs'=L.map (RO.res w0 S)++Rs):=by
 intro a w K Q ha hst hk;unfold Oper.wp;rw[hc a w ha];have hfr:=hst.fr;have hag: ∀ k,S k->w.heap[k]? = w0.heap[k]? := fun k hk=>hfr.block k (hF k hk).2 (hF k hk).1;refine (hs (fun _=>False) w S (fun _ h=>h) (Y.move hY hag) (fun k hk=>⟨fun h=>h,Nat.lt_of_lt_of_le (hF k hk).2 hfr.size⟩)).mono ?_;rintro x w' ⟨v,A',N,rfl,⟨L,hq,rfl⟩,hst'⟩;have e1:L.map (RO.res w S)=L.map (RO.res w0 S):=List.map_congr_left (fun o _=>by unfold RO.res; rw[DR hag]);have h1:=hst'.drop_;rw[e1] at h1;exact hk _ _ ⟨v,A',L,hq,rfl,rfl⟩ _ _ (ha.putd hd) (hst.grow h1.fr (h1.sep.mono (fun k hk=>hk.elim (fun h=>h.elim) id)))
theorem Ef.callSr {op:Op} {f:FuncId} {vs:List Value} (Bs:List Res) {Rs':List Res} (hR:Rs=Bs++Rs') (hc:CT P n e ⟨d,op,ty,pos,af,gd⟩ f vs) (hs:ph P f vs.toArray Y aO R) (hB: ∀ w G,Sep Bs w G->(RX.old w0 S Y).P w G) (hF: ∀ k,S k-> ¬ F0 k/\k<w0.heap.size) (hd:okd d n=true) :
 Ef P n F0 w0 e Rs ⟨d,op,ty,pos,af,gd⟩ (fun e' Rs''=> ∃ v A' L,R v A' L/\e'=kV d v e/\Rs''=xc w0 S Bs L::Rs'):=by
 subst hR;intro a w K Q ha hst hk;unfold Oper.wp;rw[hc a w ha];have hfr:=hst.fr;have hag: ∀ k,S k->w.heap[k]? = w0.heap[k]? := fun k hk=>hfr.block k (hF k hk).2 (hF k hk).1;obtain⟨G,h1,h2,h3,h4⟩:=Sep.split hst.sep;refine (hs (fun _=>False) w (fun k=>G k\/S k) (fun _ h=>h) (hB w G h1 w (fun _ _=>rfl) hag) (fun k hk=>⟨fun h=>h,hk.elim (h3 k) (fun h=>Nat.lt_of_lt_of_le (hF k h).2 hfr.size)⟩)).mono ?_;rintro x w' ⟨v,A',N,rfl,⟨L,hq,rfl⟩,hst'⟩;have k1:=hst'.drop_;have f2:=k1.fr;have hsep:Sep (L.map (RO.res w (fun k=>G k\/S k))) w' (fun k=>w.heap.size<=k):=k1.sep.mono (fun k hk=>hk.elim (fun h=>h.elim) id);have hle:=f2.size;have hle0:=hfr.size;refine hk _ _ ⟨v,A',L,hq,rfl,rfl⟩ _ _ (ha.putd hd) ⟨hfr.trans f2 (fun _ h=>h.elim),?_⟩;have hmv: ∀ k,k<w.heap.size->w'.heap[k]? = w.heap[k]? := fun k hk=>f2.block k hk (fun h=>h);refine⟨fun k=>G k\/(w.heap.size<=k/\k<w'.heap.size),⟨(h1.move_ (fun k hk=>hmv k (h3 k hk))).mono (fun k hk=> .inl hk),fun k hk=> ?_,fun o ho=> ?_⟩,fun k hk=> ?_,?_⟩
 ·rcases hk with hk | hk
  ·have:=h3 k hk; omega
  ·exact hk.2
 ·obtain⟨Go,g1,g2⟩:=Sep.each hsep o ho;intro W w1 w2;have g3:=g1.1 W (fun k hk=>w1 k (.inr ⟨g2 k hk,g1.2 k hk⟩)) (fun k hk=> ?_)
  ·refine o.E.mono g3 (fun k hk=> ?_);rcases hk with hk | hk | hk
   ·exact .inl (.inr ⟨g2 k hk,g1.2 k hk⟩)
   ·exact .inl (.inl hk)
   ·exact .inr hk
  ·rcases hk with hk | hk
   ·exact (w1 k (.inl hk)).trans (hmv k (h3 k hk))
   ·exact (w2 k hk).trans (hag k hk).symm
 ·rcases hk with hk | hk
  ·exact h2 k hk
  ·exact .inr Mc
 ·refine (h4.inside.move (fun k hk _=>hmv k hk.2)).mono (fun k hk=>⟨hk.1.1,?_⟩);rintro (h | h)
  ·exact hk.1.2 h
  ·have:=hk.2; omega
variable {Q:Exit->Act->World->Prop} {ops:Array Oper} {i dd:Nat} {cl:Call} {f:FuncId} {vs:List Value}
theorem TL.cso {l:List Nat} (ho:ops[i]? = some ⟨some dd,.call cl,ty,pos,af,gd⟩) (hw:Wd n ops e ⟨some dd,.call cl,ty,pos,af,gd⟩ true) (hc:CT P n e ⟨some dd,.call cl,ty,pos,af,gd⟩ f vs) (hs:ph P f vs.toArray Y aO R) (hY:Y.P w0 S) (hF: ∀ k,S k-> ¬ F0 k/\k<w0.heap.size) (hd:Nat.blt dd n=true)
 (h: ∀ v A' L,R v A' L->TL P n F0 w0 ops l ((dd,v)::e) (L.map (RO.res w0 S)++Rs) Q):TL P n F0 w0 ops (i::l) e Rs Q:=by
 refine H9 ho hw (Ef.callSo hc hs hY hF hd) ?_;rintro _ _ ⟨v,A',L,hR,rfl,rfl⟩;exact h v A' L hR
theorem TD.cso {l:Sch} (ho:ops[i]? = some ⟨some dd,.call cl,ty,pos,af,gd⟩) (hw:Wd n ops e ⟨some dd,.call cl,ty,pos,af,gd⟩ true) (hc:CT P n e ⟨some dd,.call cl,ty,pos,af,gd⟩ f vs) (hs:ph P f vs.toArray Y aO R) (hY:Y.P w0 S) (hF: ∀ k,S k-> ¬ F0 k/\k<w0.heap.size) (hd:Nat.blt dd n=true)
 (is:List Nat) (hf: ∀ v A' L,R v A' L->Sel (L.map (RO.res w0 S)++Rs) is Rf) (h: ∀ v A' L,R v A' L->TD P n F0 w0 ops l Rf ((dd,v)::e) (L.map (RO.res w0 S)++Rs) Q):TD P n F0 w0 ops (.e i l) Rf e Rs Q:=by
 refine Il ho hw (Ef.callSo hc hs hY hF hd) ?_;rintro _ _ ⟨v,A',L,hR,rfl,rfl⟩;exact⟨Rf,fun w hw=>hw.sel is (hf v A' L hR),fun _ h=>h,h v A' L hR⟩
theorem TD.csr {l:Sch} (Bs:List Res) {Rs':List Res} (ho:ops[i]? = some ⟨some dd,.call cl,ty,pos,af,gd⟩) (hw:Wd n ops e ⟨some dd,.call cl,ty,pos,af,gd⟩ true) (hR:Rs=Bs++Rs') (hc:CT P n e ⟨some dd,.call cl,ty,pos,af,gd⟩ f vs) (hs:ph P f vs.toArray Y aO R) (hB: ∀ w G,Sep Bs w G->(RX.old w0 S Y).P w G) (hF: ∀ k,S k-> ¬ F0 k/\k<w0.heap.size) (hd:Nat.blt dd n=true)
 (is:List Nat) (hf: ∀ v A' L,R v A' L->Sel (xc w0 S Bs L::Rs') is Rf) (h: ∀ v A' L,R v A' L->TD P n F0 w0 ops l Rf ((dd,v)::e) (xc w0 S Bs L::Rs') Q):TD P n F0 w0 ops (.e i l) Rf e Rs Q:=by
 refine Il ho hw (Ef.callSr Bs hR hc hs hB hF hd) ?_;rintro _ _ ⟨v,A',L,hR',rfl,rfl⟩;exact⟨Rf,fun w hw=>hw.sel is (hf v A' L hR'),fun _ h=>h,h v A' L hR'⟩
theorem TD.csn {l:Sch} (m:Nat) (ho:ops[i]? = some ⟨some dd,.call cl,ty,pos,af,gd⟩) (hw:Wd n ops e ⟨some dd,.call cl,ty,pos,af,gd⟩ true) (hc:CT P n e ⟨some dd,.call cl,ty,pos,af,gd⟩ f vs) (hs:ph P f vs.toArray Y aO R) (hB: ∀ w G,Sep (Rs.take m) w G->(RX.old w0 S Y).P w G) (hF: ∀ k,S k-> ¬ F0 k/\k<w0.heap.size) (hd:Nat.blt dd n=true)
 (is:List Nat) (hf: ∀ v A' L,R v A' L->Sel (xc w0 S (Rs.take m) L::Rs.drop m) is Rf) (h: ∀ v A' L,R v A' L->TD P n F0 w0 ops l Rf ((dd,v)::e) (xc w0 S (Rs.take m) L::Rs.drop m) Q):TD P n F0 w0 ops (.e i l) Rf e Rs Q:=TD.csr (Rs.take m) ho hw (List.take_append_drop m Rs).symm hc hs hB hF hd is hf h
theorem St.ungrp (i:Nat) (h:St F0 w0 Rs w) (hi:Rs[i]? = some (xc w0 S Bs L)):St F0 w0 (Bs++Rs.eraseIdx i) w:=by
 obtain⟨f,hs⟩:=h;obtain⟨G,h1,h2,h3⟩:=Sep.pick i hi hs;exact⟨f,Sep.append h1.1 h3 h2⟩
theorem TD.ungrp {l:Sch} (i:Nat) (hi:Rs[i]? = some (xc w0 S Bs L)) (h:TD P n F0 w0 ops l Rf e (Bs++Rs.eraseIdx i) Q):TD P n F0 w0 ops l Rf e Rs Q:=fun a w ha hs=>h a w ha (hs.ungrp i hi)
theorem X.ungrp {z:Exit} (i:Nat) (hi:Rs[i]? = some (xc w0 S Bs L)) (h:X n F0 w0 e (Bs++Rs.eraseIdx i) z Q):X n F0 w0 e Rs z Q:=fun a w ha hs=>h a w ha (hs.ungrp i hi)
variable {α:Type} {E:Rd α} {size:Nat} {T:TypeId} {u:Value} {xs:List α}
theorem X.shutO {z:Exit} (hp:0<size) (i:Nat) (hi:Rs[i]? = some (ci T size (fg w0 S E) u xs)) (h:X n F0 w0 e (Rs.set i (RdR (fg w0 S (ai size E)) [u] xs)) z Q):X n F0 w0 e Rs z Q:=fun a w ha hs =>
 h a w ha (hs.weaken i hi (fun G hG=>⟨vY (dG hp _ _ hG),fun k hk=>(ci T size (fg w0 S E) u xs).lt hG k hk⟩))
theorem HU {z:Exit} {cs:List Value} {x:α} (i:Nat) (hi:Rs[i]? = some (RdR E cs x)) (h:X n F0 w0 e (Rs.set i (RdR (fg w0 S E) cs x)) z Q):X n F0 w0 e Rs z Q:=fun a w ha hs =>
 h a w ha (hs.weaken i hi (fun G hG=>⟨FE hG.1,hG.2⟩))
theorem X.oldrd {z:Exit} {cs:List Value} {x:α} (hX:(RX.of E cs x).P w0 S) (h:X n F0 w0 e (RdR (fg w0 S E) cs x::Rs) z Q):X n F0 w0 e Rs z Q:=fun a w ha hs =>
 h a w ha (hs.grow (Ns := [RdR (fg w0 S E) cs x]) (Fr.refl _ _) ⟨fun _=>False,⟨Ad hX,fun _ h=>h.elim⟩,fun _ h=>h.elim,trivial⟩)
end
theorem Ae {P:Program} {f n:Nat} {fn:Func} {c:Code} {args:List Value} {Xr:RX} {A:Res} {R:Value->Res->List RO->Prop} (hf:P.funcs[f]? = some fn) (hb:fn.body=some c) (hn:fn.ntmps=n)
 (hl:Nat.ble args.length n=true) (h: ∀ F w S,Xr.P w S->(∀ k,S k-> ¬ F k/\k<w.heap.size)->T P n F w (vW 0 args) [A] c (bodyPost P fn (pk (fun v A' N=> ∃ L,R v A' L/\N=L.map (RO.res w S)) F w))):ph P f args.toArray Xr A R:=by
 intro F w S hA hX hSF;refine calls_of_wp hf hb ?_;have hl':args.length<=n:=Nat.le_of_ble_eq_true hl;refine h F w S hX hSF _ w ⟨rfl,?_,fun t v hv=> ?_⟩ (aC.start hA)
 ·simp only[Array.size_append,Array.size_replicate,hn,List.size_toArray];omega
 ·have h1:args.toArray[t]? = some v:=by simpa using (ro args 0 t v hv).2
  have h2:=(Array.getElem?_eq_some_iff.1 h1).1;rw[Array.getElem?_append_left h2];exact h1
section
variable {α:Type} {size:Nat} {E:Rd α} {w:World} {S:Nat->Prop}
end
section
variable {P:Program} {n:Nat} {F0:Nat->Prop} {w0:World} {e:Env} {Rs Rf:List Res} {Q:Exit->Act->World->Prop} {ops:Array Oper} {d:Option Tmp} {i:Nat} {ty t t' el:TypeId} {pos:String} {af:Array Edge} {gd:Option (Nat×Bool)} {v v':Value} {x y:Operand} {l:List Nat} {lo:Sch} {c:Code} {S:World->Prop}
section
variable {α:Type} {E:Rd α} {T m cp size g o k off q z:Nat} {xs:List α} {u u':α}
end
section
variable {α:Type} {E:Rd α} {T bytes k:Nat} {zv:Value} {u:α} {m:Int} {kl:IntKind} {d':Nat}
end
def bitOp:BinOp->Bool
 | .and | .or | .xor | .andNot=>true
 | _=>false
theorem Ex.bitw {bo:BinOp} {k:IntKind} {p q:Int} (hb:bitOp bo=true) (hx:e.ev x=some (.int k p)) (hy:e.ev y=some (.int k q)):Ex P n e S ⟨d,.binOp bo t x y t',ty,pos,af,gd⟩ (.int k (Go.bits bo k p q)):=by
 intro a w ha _;have h1:Op.intBits bo k p q=pure (.int k (Go.bits bo k p q)):=by cases bo <;> first | rfl | exact absurd hb Md
 have h2:(binOp bo t (.int k p) (.int k q)).run P w= .ok (.int k (Go.bits bo k p q)) w:=by
  cases bo <;> first | exact absurd hb Md | simp only[binOp,h1,ne_eq,not_true,if_false,Sem.run_pure]
 have h3:eqGuard bo t x y (.int k p) (.int k q)=pure ():=by cases bo <;> first | exact absurd hb Md | rfl
 simp only[execOp,ha.ev hx,ha.ev hy,h3,Sem.run_bind,Sem.run_pure,Result.andThen_ok,h2]
def vA (k:IntKind) (p q:Int):Int:=p.fdiv (2 ^ min q.toNat k.bits)
theorem Ex.shr {k k':IntKind} {p q:Int} (hx:e.ev x=some (.int k p)) (hy:e.ev y=some (.int k' q)) (hq:0<=q):Ex P n e S ⟨d,.binOp .shr t x y t',ty,pos,af,gd⟩ (.int k (vA k p q)):=by
 intro a w ha _;have h0: ¬ q<0:=by omega
 simp[execOp,ha.ev hx,ha.ev hy,eqGuard,binOp,Op.shift,h0,vA]
theorem Ex.notK {k:IntKind} {p:Int} (hx:e.ev x=some (.int k p)):Ex P n e S ⟨d,.unOp .xor t x,ty,pos,af,gd⟩ (.int k (Go.bits .xor k (if k.signed then -1 else k.max) p)):=by
 intro a w ha _;have h1:Op.intBits .xor k (if k.signed then -1 else k.max) p=pure (.int k (Go.bits .xor k (if k.signed then -1 else k.max) p)):=rfl;simp[execOp,ha.ev hx,Op.unary,h1]
theorem T.blen {α:Type} {E:Rd α} {A:Option Addr} {m cp size:Nat} {xs:List α} {B:Res} (i:Nat) (hi:Rs[i]? = some B) (hB: ∀ w G,B.P w G->(RX.of (ai size E) [.slice A m cp] xs).P w G) (h:xs.length<=9223372036854775807->T P n F0 w0 e Rs c Q):T P n F0 w0 e Rs c Q:=by
 intro a w ha hs;refine h ?_ a w ha hs;obtain⟨G,hG,_⟩:=hs.get i hi;rcases hB w G hG with⟨_,rfl⟩ | ⟨_,cap,_,h1,h2,_⟩
 ·simp
 ·have:maxLen=9223372036854775807:=rfl;omega
end
def ql (l:List Int):Array Value:=(l.map (Value.int .u32)).toArray
def ly (T g:Nat) (l:List Int):Res where
 P:=fun w G=>(aN g T (ql l)).P w G/\l.length=256
 lt:=fun h=>(aN g T (ql l)).lt h.1
 move:=fun h hm=>⟨(aN g T (ql l)).move h.1 hm,h.2⟩
theorem DT {l:List Int} {k:Nat} {u:Int} (h:l[k]? = some u):(ql l)[k]? = some (.int .u32 u):=by
 unfold ql;simp[h]
section
variable {P:Program} {n:Nat} {F0:Nat->Prop} {w0 w:World} {e:Env} {Rs Rf:List Res} {Q:Exit->Act->World->Prop} {ops:Array Oper} {d:Option Tmp} {i:Nat} {ty t t' el:TypeId} {pos:String} {af:Array Edge} {gd:Option (Nat×Bool)} {v v':Value} {x y ix:Operand} {L:List Nat} {lo:Sch} {c:Code} {S:World->Prop}
variable {T g k:Nat} {l:List Int} {u u':Int}
theorem Bz (j:Nat) (h:St F0 w0 Rs w) (hj:Rs[j]? = some (ly T g l)):l.length=256:=by
 obtain⟨G,hG,_⟩:=h.get j hj;exact hG.2
theorem BA (j:Nat) (h:St F0 w0 Rs w) (hj:Rs[j]? = some (ly T g l)):w.heap[g]? = some (.cells (ql l) T (0,0)):=by
 obtain⟨G,hG,_⟩:=h.get j hj;exact hG.1.1
theorem Ex.tIx (j:Nat) {a:Int} {q:IntKind} (hx:e.ev x=some (.pointer (some ⟨g,0,none⟩))) (hi:e.ev ix=some (.int q a)) (hik:a=(k:Int)) (hu: ∀ w,(underlying t).run P w= .ok (.array 256 el) w) (hz: ∀ w,(sizeOf el).run P w= .ok 1 w) (hj:Rs[j]? = some (ly T g l)) (hk:l[k]? = some u) :
 Ex P n e (St F0 w0 Rs) ⟨d,.indexAddr t x ix,ty,pos,af,gd⟩ (.pointer (some ⟨g,k,none⟩)):=by
 intro A w ha hs;have h1:=Bz j hs hj;have h2:k<256:=by rw[<- h1]; exact (Jt hk).1
 have h3:=Ex.ixP (S:=fun _=>True) (d:=d) (ty:=ty) (pos:=pos) (af:=af) (gd:=gd) hx hi hik hu hz h2 A w ha trivial
 rwa [show 0+k*1=k by omega] at h3
theorem Ex.tLd (j:Nat) (hx:e.ev x=some (.pointer (some ⟨g,k,none⟩))) (ha: ∀ w,(isAgg t).run P w= .ok false w) (hj:Rs[j]? = some (ly T g l)) (hk:l[k]? = some u) :
 Ex P n e (St F0 w0 Rs) ⟨d,.load t x,ty,pos,af,gd⟩ (.int .u32 u) :=
 Ex.ld1 hx ha (fun w hw=>(bt (BA j hw hj) k).trans (DT hk))
theorem Ef.tSt (j:Nat) (hx:e.ev x=some (.pointer (some ⟨g,k,none⟩))) (hy:e.ev y=some (.int .u32 u')) (hz: ∀ w,(sizeOf t).run P w= .ok 1 w) (hj:Rs[j]? = some (ly T g l)) (hk:l[k]? = some u) :
 Ef P n F0 w0 e Rs ⟨none,.store t x y,ty,pos,af,gd⟩ (fun e' Rs'=>e'=e/\Rs'=Rs.set j (ly T g (l.set k u'))):=by
 intro a w K Q ha hs hk';have hb:=BA j hs hj;have hl:=Bz j hs hj;have hkl:k<l.length:=(Jt hk).1;have hc:((ql l).toList.take k ++ [Value.int .u32 u']++(ql l).toList.drop (k+1)).toArray=ql (l.set k u'):=by
  unfold ql;rw[List.map_set,List.set_eq_take_append_cons_drop,Mg (by rw[Kn]; exact hkl)];simp
 have h2:=run_storeCells_at (P:=P) g k T [Value.int .u32 u'] 0 (ql l) w hb (by simp[ql]; omega) (by simp[Value.oneCell']);simp only[Nat.add_zero,Kt] at h2;rw[hc] at h2;have h1:(execOp a.eval ⟨none,.store t x y,ty,pos,af,gd⟩).run P w= .ok .skip (w.setRow g (ql (l.set k u'))):=by
  simp[execOp,ha.ev hx,ha.ev hy,Instr.storeAt,Instr.sureAddr,storeVar,hz,Value.cells,h2]
 unfold Oper.wp;rw[h1];refine hk' _ _ ⟨rfl,rfl⟩ _ _ ha.put0 (hs.step j hj (Ns := []) (fun G hG=> ?_));exact⟨⟨rfl,rfl,rfl,by simp[World.setRow],fun k hk hn=>setRow_other w g k _ (fun e=>hn (e ▸ (hG.1.2 g).2 rfl))⟩,G,⟨⟨setRow_heap w g _ _ T (0,0) hG.1.1,hG.1.2⟩,by rw[List.length_set]; exact hG.2⟩,fun k hk=> .inl hk,trivial⟩
theorem TL.tSt (j:Nat) (ho:ops[i]? = some ⟨none,.store t x y,ty,pos,af,gd⟩) (hw:Wd n ops e ⟨none,.store t x y,ty,pos,af,gd⟩ true) (hx:e.ev x=some (.pointer (some ⟨g,k,none⟩))) (hy:e.ev y=some (.int .u32 u')) (hz: ∀ w,(sizeOf t).run P w= .ok 1 w) (hj:Rs[j]? = some (ly T g l)) (hk:l[k]? = some u)
 (h:TL P n F0 w0 ops L e (Rs.set j (ly T g (l.set k u'))) Q):TL P n F0 w0 ops (i::L) e Rs Q:=by
 refine H9 ho hw (Ef.tSt j hx hy hz hj hk) ?_;rintro _ _ ⟨rfl,rfl⟩;exact h
theorem Ex.bldZ {m:Nat} {zs:Array Value} (hz: ∀ w,(zeroValue t).run P w= .ok (.agg zs) w) (hu: ∀ w,(underlying t).run P w= .ok (.array m el) w) (hs: ∀ w,(sizeOf el).run P w= .ok 1 w):Ex P n e S ⟨d,.build t #[],ty,pos,af,gd⟩ (.agg zs):=by
 intro a w ha _;have h1:(Instr.build t #[]).run P w= .ok (.agg zs) w:=by
  simp only[Instr.build,Sem.run_bind,hz,hu,hs,Result.andThen_ok];rfl
 simp only[execOp,Sem.run_bind];simp[h1]
theorem TL.tNew {zs:Array Value} {d:Nat} (ho:ops[i]? = some ⟨some d,.box t x,ty,pos,af,gd⟩) (hw:Wd n ops e ⟨some d,.box t x,ty,pos,af,gd⟩ true) (hx:e.ev x=some (.agg zs)) (hzs:zs=ql (List.replicate 256 0)) (hd:Nat.blt d n=true)
 (h: ∀ b,TL P n F0 w0 ops L ((d,.pointer (some ⟨b,0,none⟩))::e) (ly t b (List.replicate 256 0)::Rs) Q):TL P n F0 w0 ops (i::L) e Rs Q:=by
 refine TL.box ho hw hx hd (fun b=> ?_);intro a w ha hs;subst hzs;exact h b a w ha (hs.weaken 0 rfl (fun G hG=>⟨hG,List.length_replicate ..⟩))
end
def LW (P:Program) (c:Code) (Q:Exit->Act->World->Prop) (a:Act) (w:World):Prop:= ∀ b k cs,∃ x a' w',Q x a' w'/\Arrives P (lone (b.at a (.code c :: .inLoop c::k)) cs w) b k cs x a' w'
def TW (P:Program) (n:Nat) (F0:Nat->Prop) (w0:World) (e:Env) (Rs:List Res) (c:Code) (Q:Exit->Act->World->Prop):Prop:= ∀ a w,Has n e a->St F0 w0 Rs w->LW P c Q a w
section
variable {P:Program} {n:Nat} {F0:Nat->Prop} {w0:World} {e:Env} {Rs:List Res} {Q:Exit->Act->World->Prop} {c:Code}
theorem T.unroll0 (h:TW P n F0 w0 e Rs c Q):T P n F0 w0 e Rs (.loop c) Q:=by
 intro a w ha hs b k cs;obtain⟨x,a',w',hq,harr⟩:=h a w ha hs b k cs;exact⟨x,a',w',hq,.of_steps (.one step_loop) harr⟩
theorem TW.step (h:T P n F0 w0 e Rs c (Exit.then (LW P c Q) Q)):TW P n F0 w0 e Rs c Q:=by
 intro a w ha hs b k cs;obtain⟨x,a₁,w₁,hq,harr⟩:=h a w ha hs b (.inLoop c::k) cs
 cases x with
 | normal =>
  obtain⟨x₂,a₂,w₂,hq₂,harr₂⟩:=hq b k cs;exact⟨x₂,a₂,w₂,hq₂,.of_steps (Steps.trans harr (.one step_inLoop)) harr₂⟩
 | exit id=>exact⟨_,a₁,w₁,hq,.pass (x:= .inLoop c) rfl (fun _ _=> .inl (by simp)) harr⟩
 | goto l=>exact⟨_,a₁,w₁,hq,.pass (x:= .inLoop c) rfl (fun _ _=> .inl (by simp)) harr⟩
 | ret=>exact⟨_,a₁,w₁,hq,.pass (x:= .inLoop c) rfl (fun _ _=> .inl (by simp)) harr⟩
 | panic ch=>exact⟨_,a₁,w₁,hq,.pass (x:= .inLoop c) rfl (fun _ _=> .inl (by simp)) harr⟩
 | outgrown=>exact⟨_,a₁,w₁,hq,.pass (x:= .inLoop c) rfl (fun _ _=> .inl (by simp)) harr⟩
theorem HW (h:TW P n F0 w0 e Rs c Q):X n F0 w0 e Rs .normal (Exit.then (LW P c Q) Q):=h
end
section
variable {P:Program} {n:Nat} {F0:Nat->Prop} {w0:World} {e:Env} {Rs Rf:List Res} {Q:Exit->Act->World->Prop} {ops:Array Oper} {i:Nat} {ty t:TypeId} {pos:String} {af:Array Edge} {gd:Option (Nat×Bool)} {x y:Operand} {L:List Nat} {lo:Sch} {b:Nat} {s:List UInt8×Int}
theorem Ef.outZ (j:Nat) (hx:e.ev x=some (.pointer (some ⟨b,0,none⟩))) (hy:e.ev y=some (.agg #[.slice none 0 0,.int .i64 0])) (hz: ∀ w,(sizeOf t).run P w= .ok 2 w) (hj:Rs[j]? = some (bp b s)) :
 Ef P n F0 w0 e Rs ⟨none,.store t x y,ty,pos,af,gd⟩ (fun e' Rs'=>e'=e/\Rs'=Rs.set j (bp b ([],0))):=by
 intro a w K Q ha hs hk;obtain⟨G,⟨v,h1,_,_⟩,_⟩:=hs.get j hj;have h2:=run_storeCells_at (P:=P) b 0 112 [Value.slice none 0 0,.int .i64 0] 0 _ w h1 (by simp) (by intro v hv; simp at hv; rcases hv with rfl | rfl <;> rfl);have h3:(execOp a.eval ⟨none,.store t x y,ty,pos,af,gd⟩).run P w= .ok .skip (w.setRow b #[.slice none 0 0,.int .i64 0]):=by
  simp at h2;simp[execOp,ha.ev hx,ha.ev hy,Instr.storeAt,Instr.sureAddr,storeVar,hz,Value.cells,h2]
 unfold Oper.wp;rw[h3];refine hk _ _ ⟨rfl,rfl⟩ _ _ ha.put0 (hs.step j hj (Ns := []) (fun G hG=> ?_));obtain⟨v',k1,k2,k3⟩:=hG;refine⟨⟨rfl,rfl,rfl,by simp[World.setRow],fun q hq hn=>setRow_other w b q _ (fun e=>hn (e ▸ (k3 b).2 (.inl rfl)))⟩,fun q=>q=b,⟨_,setRow_heap w b _ _ _ (0,0) k1,World.ownsRow_nil _ _ _ _,fun q=>by simp[Value.ownBlock]⟩,fun q hq=> .inl ((k3 q).2 (.inl hq)),trivial⟩
theorem TL.outZ (j:Nat) (ho:ops[i]? = some ⟨none,.store t x y,ty,pos,af,gd⟩) (hw:Wd n ops e ⟨none,.store t x y,ty,pos,af,gd⟩ true) (hx:e.ev x=some (.pointer (some ⟨b,0,none⟩))) (hy:e.ev y=some (.agg #[.slice none 0 0,.int .i64 0])) (hz: ∀ w,(sizeOf t).run P w= .ok 2 w) (hj:Rs[j]? = some (bp b s))
 (h:TL P n F0 w0 ops L e (Rs.set j (bp b ([],0))) Q):TL P n F0 w0 ops (i::L) e Rs Q:=by
 refine H9 ho hw (Ef.outZ j hx hy hz hj) ?_;rintro _ _ ⟨rfl,rfl⟩;exact h
end
def qm (b:Nat) (l:List UInt8):Res where
 P:=fun w G=> ∃ p v,(p= .pointer none\/p= .pointer (some ⟨b,0,none⟩))/\w.heap[b]? = some (.cells #[p,v] 292 (0,0))/\w.ownsRow 0 5 1 v l.length (cC l)/\ ∀ k,G k↔k=b\/v.ownBlock=some k
 lt:=by
  rintro w G ⟨p,v,_,h1,h2,h3⟩ k hk;rcases (h3 k).1 hk with rfl | h
  ·exact jN h1
  ·exact wV h2 k h
 move:=by
  rintro w w' G ⟨p,v,hp,h1,h2,h3⟩ hm;exact⟨p,v,hp,(hm _ ((h3 _).2 (.inl rfl))).trans h1,pV h2 (fun k hk=>hm k ((h3 k).2 (.inr hk))),h3⟩
theorem CF {F:Nat->Prop} {w w':World} (h:Fr F w w') {p:Addr} (hp:F p.block) (n:Nat):Fr F w (w'.freeze p n):=by
 refine h.trans (G:=F) ?_ (fun _ h=> .inl h);unfold World.freeze;split
 ·exact Fr.refl _ _
 ·exact⟨rfl,rfl,rfl,by simp,fun k hk hn=>by
   simp only[Array.getElem?_modify];rw[Mh (fun h:p.block=k=>hn (by rw[<- h]; exact hp))]⟩
theorem DU:(Tryz.prog.info? 292).map (·.size)=some 2:=by kernel_rfl
theorem DV:liesAt Tryz.prog Tryz.prog.depth 292 (2 / Tryz.prog.cellsOf 292) 0 292 1=true:=by kernel_rfl
theorem CG {w:World} {b:Nat} {p v:Value} (hb:w.heap[b]? = some (.cells #[p,v] 292 (0,0))):w.shape? b=some (292,2):=by simp[World.shape?,hb]
theorem CH (b:Nat) (w:World) (p v:Value) (hp:p= .pointer none\/p= .pointer (some ⟨b,0,none⟩)) (hb:w.heap[b]? = some (.cells #[p,v] 292 (0,0))) :
 Calls Tryz.prog 220 #[.pointer (some ⟨b,0,none⟩)] w fun e w'=>e= .returned (.tuple #[])/\w'.heap[b]? = some (.cells #[.pointer (some ⟨b,0,none⟩),v] 292 (0,0))/\Fr (fun k=>k=b) w w':=by
 obtain⟨j,hj,hjs⟩:=Option.map_eq_some_iff.1 DU;have h0:w.cell? ⟨b,0,none⟩=some p:=(bt hb 0).trans rfl;have f0:w.frozen? ⟨b,0,none⟩=false:=dm hb 0;have hsh:=CG hb;have HB:=Lib.hid hb;clear hb;rcases hp with rfl | rfl
 ·go_enter Tryz.func220,Tryz.ntmps220
  go_wp2
  rw[Lib.run_to_unsafe w ⟨b,0,none⟩ Tryz.underlying290 Tryz.underlying327 hj (by rw[hjs]; decide) hsh (Nat.zero_lt_succ 1)];simp only[Result.andThen];rw[Oper.upon_value];go_wp2
  rw[run_callFunc_extern Tryz.func233 Me Me Me (e:=Extern.AbiNoEscape.same) Me];rw[Lib.run_noEscape];simp only[Result.andThen];rw[Oper.upon_value];go_wp2
  rw[Lib.run_from_unsafe w ⟨b,0,none⟩ Tryz.underlying327 Tryz.underlying290 hj hsh DV];simp only[Result.andThen];rw[Oper.upon_value];go_wp2
  go_end0
  exact⟨rfl,by simpa using lY HB.out 0 (.pointer (some ⟨b,0,none⟩)),(Fr.refl (fun k=>k=b) w).set (p:=⟨b,0,none⟩) (.inl rfl) _⟩
 ·go_enter Tryz.func220,Tryz.ntmps220
  go_wp2
  rw[Lib.run_neq_ptr_same w _ Tryz.underlying290 hj];go_wp2
  go_end0
  exact⟨rfl,HB.out,Fr.refl _ _⟩
theorem qm.stored {b:Nat} {l m:List UInt8} {w w1 w2:World} {v v1:Value} {F:Nat->Prop} (hw:Fr (fun k=>k=b) w w1) (hF: ∀ k,F k↔k=b\/v.ownBlock=some k) (hb:w1.heap[b]? = some (.cells #[.pointer (some ⟨b,0,none⟩),v] 292 (0,0))) (ho:w1.ownsRow 0 5 1 v l.length (cC l))
 {n:Nat} (ho1:w2.ownsRow 0 5 1 v1 n (cC m)) (hg:w1.grownBy w2 v.ownBlock) (hat:v1.ownBlock=v.ownBlock\/ ∃ k,v1.ownBlock=some k/\w1.heap.size<=k) (hlt:b<w.heap.size) :
 St F w [qm b m] (w2.setCell ⟨b,1,none⟩ v1):=by
 have hn:n=m.length:=by have:=ho1.1; simpa [cC] using this.symm
 subst hn;have hne:=mw ho hb Md;have hb1:w2.heap[b]? = some (.cells #[.pointer (some ⟨b,0,none⟩),v] 292 (0,0)):=(hg.block b (jN hb) hne).trans hb;have hne1:=mw ho1 hb1 Md;have f1:Fr F w w1:=hw.mono (fun k hk=>(hF k).2 (.inl hk));have f2:Fr F w w2:=f1.trans (Ik (F:=F) hg (fun k hk=>(hF k).2 (.inr hk))) (fun k hk=> .inl hk);refine⟨f2.set (p:=⟨b,1,none⟩) (.inl ((hF b).2 (.inl rfl))) v1,?_⟩;refine⟨fun k=>k=b\/v1.ownBlock=some k,⟨_,v1,.inr rfl,by simpa using lY hb1 1 v1,wU ho1 hne1 v1,fun _=>Iff.rfl⟩,?_,trivial⟩;rintro k (rfl | hk)
 ·exact .inl ((hF k).2 (.inl rfl))
 ·rcases hat with h | ⟨k',h,h'⟩
  ·rw[h] at hk;exact .inl ((hF k).2 (.inr hk))
  ·rw[h] at hk;injection hk with hk;subst hk;exact .inr (Nat.le_trans hw.size h')
theorem Af (b:Nat) (l:List UInt8) (s:ByteArray) (hl:l.length+s.size<=140737488355328) :
 fW Tryz.prog 196 #[.pointer (some ⟨b,0,none⟩),.string s] (qm b l) (fun v A' N=>v= .tuple #[.int .i64 s.size,.nilIface]/\A'=qm b (l++s.data.toList)/\N = []):=by
 rintro F w ⟨p,v,hp,hb,ho,hF⟩;have hne:=mw ho hb Md;have HB:=Lib.hid hb;have HO:=Lib.hid ho;have HP:=Lib.hid hp;clear hb ho hp;go_enter Tryz.func196,Tryz.ntmps196
 go_wp2_with (go_at_call 220; refine (CH b _ p v HP.out HB.out).mono ?_)
 rintro e w1 ⟨rfl,hb1,hfr⟩;have ho1:w1.ownsRow 0 5 1 v l.length (cC l):=pV HO.out (fun k hk=>hfr.block k (wV HO.out k hk) (fun h=>hne (h ▸ hk.symm)));have c0:w1.cell? ⟨b,0,none⟩=some (.pointer (some ⟨b,0,none⟩)):=(bt hb1 0).trans rfl;have c1:w1.cell? ⟨b,1,none⟩=some v:=(bt hb1 1).trans rfl;have HB1:=Lib.hid hb1;have HO1:=Lib.hid ho1;have HF:=Lib.hid hfr;clear hb1 ho1 hfr;go_wp2_with (at_builtin; refine lZ w1 rfl _ _ _ _ rfl 5 Tryz.underlying72 Tryz.underlying9 tC v l.length (cC l) rfl HO1.out s rfl hl ?_; intro v1 w2 ho2 hg hat; obtain⟨a1,k1,rfl⟩:=kK ho2; have HO2:=Lib.hid ho2; clear ho2; have HN:=Lib.hid (mw HO1.out HB1.out Md); have HB2:=Lib.hid (show w2.heap[b]? = _ from (hg.block b (jN HB1.out) HN.out).trans HB1.out); have d0:w2.cell? ⟨b,0,none⟩=some (.pointer (some ⟨b,0,none⟩)):=(bt HB2.out 0).trans rfl; have d1:w2.cell? ⟨b,1,none⟩=some v:=(bt HB2.out 1).trans rfl; have e1:w2.frozen? ⟨b,1,none⟩=false:=dm HB2.out 1; have HG:=Lib.hid hg; have HAT:=Lib.hid hat; clear hg hat)
 go_ret2
 have ho2:=HO2.out;rw[pe,<- jv] at ho2;refine⟨_,_,_,rfl,⟨rfl,rfl,rfl⟩,?_⟩;exact qm.stored HF.out hF HB1.out HO1.out ho2 HG.out (by rcases HAT.out with h | h; exact .inl h; exact .inr ⟨_,h,JN _⟩) (jN HB.out)
theorem yo (b:Nat) (l:List UInt8):fW Tryz.prog 197 #[.pointer (some ⟨b,0,none⟩)] (qm b l) (fun v A' N=>v= .string (bsOf l)/\A'=aO/\N = []):=by
 rintro F w ⟨p,v,hp,hb,ho,hF⟩;have done: ∀ w',Fr F w w'->St F w [aO] w':=fun w' h=>⟨h,fun _=>False,fun _ h=>h,fun _ h=>h.elim,trivial⟩;have DONE:=Lib.hid done;clear done;have hUS0: ∀ (W:World) (q:Option Addr),(Builtin.unsafeString_ #[319,3] 9 #[.pointer q,.int .i64 0]).run Tryz.prog W= .ok (.string .empty) W:=fun W q=>Lib.run_unsafeString_none W _ _ _ q;have hl0:l = []\/l ≠ []:=by cases l; exact .inl rfl; exact .inr (by simp)
 rcases ho.2 with⟨rfl,hz⟩ | ⟨g,cap,cur,rfl,_,hg,hnc,hcm,hcs,htake⟩
 ·obtain rfl:l = []:=List.length_eq_zero_iff.1 hz;have c1:w.drew.cell? ⟨b,1,none⟩=some (.slice none 0 0):=(bt (w:=w.drew) hb 1).trans rfl;have hSD:(Builtin.unsafeSliceData_ #[72] 319 #[.slice none 0 0]).run Tryz.prog w.drew= .ok (.pointer none) w.drew:=rfl;clear hb ho hp;go_enter Tryz.func197,Tryz.ntmps197
  go_wp2
  go_region
  all_goals (go_wp2; go_ret; exact⟨_,_,_,rfl,⟨rfl,rfl,rfl⟩,DONE.out _ (Fr.refl F w).drew⟩)
 ·have hgF:F g:=(hF g).2 (.inr rfl);have HGF:=Lib.hid hgF;clear hgF;rcases hl0 with rfl | hl1
  ·by_cases hc0:cap=0
   ·subst hc0;have hb':w.drew.heap[b]? = some (.cells #[p,.slice (some ⟨g,0,none⟩) 0 0] 292 (0,0)):=hb;have c1:w.drew.cell? ⟨b,1,none⟩=some (.slice (some ⟨g,0,none⟩) 0 0):=(bt hb' 1).trans rfl
    have hSD:(Builtin.unsafeSliceData_ #[72] 319 #[.slice (some ⟨g,0,none⟩) 0 0]).run Tryz.prog w.drew= .ok (.pointer (some ⟨w.drew.heap.size,0,none⟩)) (w.drew.alloc (.view ⟨g,0,none⟩ 5)) :=
     Lib.run_unsafeSliceData_zero w.drew _ _ 5 Tryz.underlying319 ⟨g,0,none⟩ 0 (5,cur.size) (by have hg':w.drew.heap[g]? = some (.cells cur 5 (0,0)):=hg; simp[World.shape?,hg'])
    have c2:(w.drew.alloc (.view ⟨g,0,none⟩ 5)).cell? ⟨b,1,none⟩=some (.slice (some ⟨g,0,none⟩) 0 0):=by
     have h:=(Lib.alloc_old w.drew (.view ⟨g,0,none⟩ 5) b (jN hb')).trans hb';exact (bt h 1).trans rfl
    have c3:(w.alloc (.view ⟨g,0,none⟩ 5)).drew.cell? ⟨b,1,none⟩=some (.slice (some ⟨g,0,none⟩) 0 0):=c2;have c0:w.cell? ⟨b,1,none⟩=some (.slice (some ⟨g,0,none⟩) 0 0):=c1;clear hb hb' ho hp hg htake hcs;go_enter Tryz.func197,Tryz.ntmps197
    go_wp2
    go_region
    all_goals (go_wp2; go_ret; exact⟨_,_,_,rfl,⟨rfl,rfl,rfl⟩,DONE.out _ ((Fr.refl F w).drew.alloc _)⟩)
   ·have c1:w.drew.cell? ⟨b,1,none⟩=some (.slice (some ⟨g,0,none⟩) 0 cap):=(bt (w:=w.drew) hb 1).trans rfl;have hSD:(Builtin.unsafeSliceData_ #[72] 319 #[.slice (some ⟨g,0,none⟩) 0 cap]).run Tryz.prog w.drew= .ok (.pointer (some ⟨g,0,none⟩)) w.drew:=Lib.run_unsafeSliceData_row _ _ _ _ _ _ hc0;clear hb ho hp hg htake hcs hc0;go_enter Tryz.func197,Tryz.ntmps197
    go_wp2
    go_region
    all_goals (go_wp2; go_ret; exact⟨_,_,_,rfl,⟨rfl,rfl,rfl⟩,DONE.out _ (Fr.refl F w).drew⟩)
  ·have hlen:l.length≠0:=by simpa using hl1
   have c1:w.drew.cell? ⟨b,1,none⟩=some (.slice (some ⟨g,0,none⟩) l.length cap):=(bt (w:=w.drew) hb 1).trans rfl;have hSD:(Builtin.unsafeSliceData_ #[72] 319 #[.slice (some ⟨g,0,none⟩) l.length cap]).run Tryz.prog w.drew= .ok (.pointer (some ⟨g,0,none⟩)) w.drew:=Lib.run_unsafeSliceData_row _ _ _ _ _ _ Mc;have hUS:(Builtin.unsafeString_ #[319,3] 9 #[.pointer (some ⟨g,0,none⟩),.int .i64 l.length]).run Tryz.prog w.drew= .ok (.string ⟨l.toArray⟩) (w.drew.freeze ⟨g,0,none⟩ l.length):=by
    refine Lib.run_unsafeString_row w.drew 319 3 9 5 Tryz.underlying319 Me g cur.size (by have hg':w.drew.heap[g]? = some (.cells cur 5 (0,0)):=hg; simp[World.shape?,hg']) l hl1 Mc (by unfold maxLen at hcm; omega) ?_;intro j x hx;have:=ho.cells (g:=g) rfl j (.int .u8 x.toNat) (by simp[cC,hx]);exact this
   clear hb ho hp hg htake hcs hl1 hlen hUS0;go_enter Tryz.func197,Tryz.ntmps197
   go_wp2
   go_region
   all_goals (go_wp2; go_ret; exact⟨_,_,_,rfl,⟨rfl,rfl,rfl⟩,DONE.out _ (CF (Fr.refl F w).drew (p:=⟨g,0,none⟩) HGF.out _)⟩)
def tt (st:List UInt8) (s:List UInt8):Option (List UInt8):=if st.length+s.length<=140737488355328 then some (st++s) else none
theorem Ag (st:List UInt8) (s:List UInt8) (h:st.length+s.length<=140737488355328):tt st s=some (st++s):=Mg h
theorem xd (g:Nat) (st:List UInt8) (s:List UInt8) (r:List UInt8) (h:tt st s=some r):aC Tryz.prog 196 #[.pointer (some ⟨g,0,none⟩),.string (bsOf s)] .triv (qm g st) (fun v A' N=>v= .tuple #[.int .i64 (bsOf s).size,.nilIface]/\A'=qm g r/\N = []):=by
 unfold tt at h;split at h
 ·rename_i h1;obtain rfl:=Jp h;have k:=Af g st (bsOf s) (by rw[ck]; exact h1);rw[cP] at k;exact GZ k
 ·simp at h
def BB (st:List UInt8):Option (List UInt8):=some st
theorem DW (st:List UInt8):BB st=some st:=rfl
theorem Ah (g:Nat) (st:List UInt8) (r:List UInt8) (h:BB st=some r):aC Tryz.prog 197 #[.pointer (some ⟨g,0,none⟩)] .triv (qm g st) (fun v A' N=>v= .string (bsOf r)/\A'=aO/\N = []):=by
 unfold BB at h;obtain rfl:=Jp h;exact GZ (yo g _)
section
variable {P:Program} {n:Nat} {F0:Nat->Prop} {w0:World} {e:Env} {Rs Rf:List Res} {Q:Exit->Act->World->Prop} {ops:Array Oper} {i d:Nat} {ty t:TypeId} {pos:String} {af:Array Edge} {gd:Option (Nat×Bool)} {l:List Nat} {lo:Sch}
theorem qm.of_blk {b:Nat} {w:World} {G:Nat->Prop} (h:(aN b 292 #[.pointer none,.slice none 0 0]).P w G):(qm b []).P w G:=by
 obtain⟨h1,h2⟩:=h;exact⟨_,_,.inl rfl,h1,World.ownsRow_nil _ _ _ _,fun k=>by simp[h2 k,Value.ownBlock]⟩
theorem TL.newbld {zv:Value} (ho:ops[i]? = some ⟨some d,.alloc t,ty,pos,af,gd⟩) (hw:Wd n ops e ⟨some d,.alloc t,ty,pos,af,gd⟩ true) (hz: ∀ w,(zeroValue t).run P w= .ok zv w) (hd:Nat.blt d n=true)
 (h: ∀ b,TL P n F0 w0 ops l ((d,.pointer (some ⟨b,0,none⟩))::e) (qm b []::Rs) Q) (ht:t=292:=by rfl) (hzv:zv= .agg #[.pointer none,.slice none 0 0]:=by rfl):TL P n F0 w0 ops (i::l) e Rs Q:=by
 refine TL.alloc ho hw hz hd (fun b=> ?_);intro a w ha hs;subst ht hzv;exact h b a w ha (hs.weaken 0 rfl (fun G hG=>qm.of_blk hG))
end
section
variable {α:Type} {P:Program} {n:Nat} {F0:Nat->Prop} {w0:World} {e:Env} {Rs:List Res} {Q:Exit->Act->World->Prop} {ops:Array Oper} {l:List Nat} {c:Code} {S:Nat->Prop} {E:Rd α} {size m cp k:Nat} {A:Option Addr} {xs:List α} {x:α} {B:Res}
end
def PakR {ι:Type} (f:ι->List Res):Res where
 P:=fun w G=>(∃ i,Sep (f i) w G)/\ ∀ k,G k->k<w.heap.size
 lt:=fun h k hk=>h.2 k hk
 move:=fun {w w' G} h hm=>⟨let ⟨i,hi⟩:=h.1; ⟨i,hi.move_ hm⟩,fun k hk=>by
  have h1:=h.2 k hk;have h2:=hm k hk;rw[Array.getElem?_eq_getElem h1] at h2;exact (Array.getElem?_eq_some_iff.1 h2).1⟩
section
variable {P:Program} {n:Nat} {F0:Nat->Prop} {w0 w:World} {e:Env} {Rs Rs' Rf:List Res} {Q:Exit->Act->World->Prop} {ops:Array Oper} {l:List Nat} {c:Code} {x:Exit} {ι:Type} {f:ι->List Res}
theorem Sep.splitA: ∀ {As Bs:List Res} {w:World} {F:Nat->Prop},Sep (As++Bs) w F-> ∃ G,Sep As w G/\(∀ k,G k->F k)/\(∀ k,G k->k<w.heap.size)/\Sep Bs w (fun k=>F k/\ ¬ G k)
 | [],Bs,w,F,h=>⟨fun _=>False,trivial,fun _ h=>h.elim,fun _ h=>h.elim,h.mono (fun k hk=>⟨hk,fun h=>h⟩)⟩
 | A::As,Bs,w,F,⟨H,h1,h2,h3⟩=>by
  obtain⟨G,k1,k2,k3,k4⟩:=Sep.splitA h3;refine⟨fun k=>H k\/G k,⟨H,h1,fun k hk=> .inl hk,k1.mono (fun k hk=>⟨.inr hk,(k2 k hk).2⟩)⟩,?_,?_,k4.mono (fun k hk=>⟨hk.1.1,fun h=>h.elim hk.1.2 hk.2⟩)⟩
  ·rintro k (hk | hk)
   ·exact h2 k hk
   ·exact (k2 k hk).1
  ·rintro k (hk | hk)
   ·exact A.lt h1 k hk
   ·exact k3 k hk
theorem St.pakShut (i:ι) (h:St F0 w0 (f i++Rs) w):St F0 w0 (PakR f::Rs) w:=by
 obtain⟨fr,hs⟩:=h;obtain⟨G,k1,k2,k3,k4⟩:=Sep.splitA hs;exact⟨fr,G,⟨⟨i,k1⟩,k3⟩,k2,k4⟩
theorem TL.pakShut (i:ι) (hR:Rs=f i++Rs') (h:TL P n F0 w0 ops l e (PakR f::Rs') Q):TL P n F0 w0 ops l e Rs Q:=fun a w ha hs=>h a w ha (by rw[hR] at hs; exact hs.pakShut i)
end
theorem vZ {α:Type} {size:Nat} {E:Rd α} {w:World} {S:Nat->Prop}: ∀ {xs ys:List α} {cs ds:List Value},gJ size E w S cs xs->gJ size E w S ds ys->gJ size E w S (cs++ds) (xs++ys)
 | [],ys,cs,ds,h,k=>by
  obtain rfl:cs = []:=h;exact k
 | x::xs,ys,cs,ds,⟨h0,h1,h2⟩,k=>by
  have hle:size<=cs.length:=by rw[Kw] at h0; omega
  refine⟨?_,?_,?_⟩
  ·rw[List.take_append_of_le_length hle]; exact h0
  ·rw[List.take_append_of_le_length hle]; exact h1
  ·rw[List.drop_append_of_le_length hle]; exact vZ h2 k
section
variable {P:Program} {n:Nat} {F0:Nat->Prop} {w0 w:World} {e:Env} {Rs Rf:List Res} {Q:Exit->Act->World->Prop} {ops:Array Oper} {d:Option Tmp} {i:Nat} {ty t t' el:TypeId} {pos:String} {af:Array Edge} {gd:Option (Nat×Bool)} {v:Value} {x y:Operand} {L:List Nat} {lo:Sch} {cd:Code}
variable {U c m k:Nat} {A:Option Addr}
variable {α:Type} {E:Rd α} {z:Nat} {xs ys:List α}
end
section
variable {P:Program} {n:Nat} {F0:Nat->Prop} {w0:World} {e:Env} {Rs:List Res} {Q:Exit->Act->World->Prop}
end
section
variable {P:Program} {n:Nat} {F0:Nat->Prop} {w0 w:World} {e e':Env} {Rs Rs' Rf:List Res} {Q:Exit->Act->World->Prop} {ops:Array Oper} {L:List Nat} {lo:Sch} {cd:Code} {K:Act->World->Prop} {l id:Nat} {J:Nat->Nat->Env->List Res->Prop} {J':Nat->Act->World->Prop}
variable {d:Option Tmp} {i:Nat} {ty t t' el:TypeId} {pos:String} {af:Array Edge} {gd:Option (Nat×Bool)} {v:Value} {x y:Operand}
variable {α:Type} {E:Rd α} {z:Nat} {xs ys:List α} {A A2:Option Addr} {m c c2 k:Nat} {U bytes:Nat} {zv:Value}
def Ones (E:Rd α):Prop:= ∀ w S cs x,E.P w S cs x->cs.all (·.oneCell')=true
theorem sD {S:Nat->Prop} {a:Addr}: ∀ (l:List α) (off:Nat),(∀ i x,l[i]? = some x-> ∃ cs,cs.length=z/\(∀ j,j<z->w.cell? (a.add ((off+i)*z+j))=cs[j]?)/\E.P w S cs x)->Ones E ->
 ∃ us:List Value,gJ z E w S us l/\(∀ q u,us[q]? = some u->w.cell? (a.add (off*z+q))=some u)/\ ∀ u∈us,u.oneCell'=true
 | [],off,h,ho=>⟨[],rfl,fun q u hq=>by simp at hq,fun u hu=>by simp at hu⟩
 | x::l,off,h,ho=>by
  obtain⟨cs,h1,h2,h3⟩:=h 0 x rfl;obtain⟨us,k1,k2,k3⟩:=sD l (off+1) (fun i y hy=>by
   obtain⟨cs,g1,g2,g3⟩:=h (i+1) y (by simpa using hy);exact⟨cs,g1,fun j hj=>by rw[<- g2 j hj,show off+1+i=off+(i+1) by omega],g3⟩) ho
  refine⟨cs++us,⟨?_,?_,?_⟩,fun q u hq=> ?_,fun u hu=> ?_⟩
  ·rw[List.take_append_of_le_length Mc,List.take_of_length_le Mc]; exact h1
  ·rw[List.take_append_of_le_length Mc,List.take_of_length_le Mc]; exact h3
  ·rw[List.drop_append_of_le_length Mc,List.drop_of_length_le Mc]; exact k1
  ·by_cases hl:q<z
   ·rw[List.getElem?_append_left Mc] at hq;have:=h2 q hl;rw[Nat.add_zero] at this;rw[this,hq]
   ·rw[List.getElem?_append_right Mc,h1] at hq;have:=k2 _ u hq;rw[<- this];congr 2;rw[Nat.add_mul];omega
  ·rcases List.mem_append.1 hu with hu | hu
   ·exact List.all_eq_true.1 (ho _ _ _ _ h3) u hu
   ·exact k3 u hu
theorem ci.openB (i j:Nat) {T:TypeId} {v:Value} {B:Res} (h:St F0 w0 Rs w) (hi:Rs[i]? = some (ci T z E v xs)) (hj:(Rs.eraseIdx i)[j]? = some B) :
 ∃ cells H,B.P w H/\w.ownsRow 0 T z v xs.length cells/\ ∀ v1 w1 news l,w1.ownsRow 0 T z v1 (xs.length+l.length) (cells++news)->w.grownBy w1 v.ownBlock->(v1.ownBlock=v.ownBlock\/ ∃ k,v1.ownBlock=some k/\w.heap.size<=k) ->
  gJ z E w H news l->St F0 w0 (ci T z E v1 (xs++l)::(Rs.eraseIdx i).eraseIdx j) w1:=by
 obtain⟨f,hs⟩:=h;obtain⟨G,⟨cells,S,h1,h2,h3,h4,h5⟩,hG,hr⟩:=Sep.pick i hi hs;obtain⟨H,hB,hH,hr2⟩:=Sep.pick j hj hr;refine⟨cells,H,hB,h1,fun v1 w1 news l ho hg hat hx=> ?_⟩;have hne: ∀ k,S k->k<w.heap.size/\some k≠v.ownBlock:=fun k hk=>⟨h3 k hk,fun e=>h4 k e.symm hk⟩;have hS1:gJ z E w1 S cells xs:=jy h2 (fun k hk=>hg.block k (hne k hk).1 (hne k hk).2);have hle:=hg.size;have f2:Fr G w w1:=Ik hg (fun k hk=>(h5 k).2 (.inl hk));have hfs:=f.size;have hlt1:=B.lt hB;have hH1:gJ z E w1 H news l:=jy hx (fun k hk=>f2.block k (hlt1 k hk) (hH k hk).2);refine⟨f.trans f2 hG,?_⟩;have hR:Sep ((Rs.eraseIdx i).eraseIdx j) w1 (fun k=>(((F0 k\/w0.heap.size<=k)/\ ¬ G k)/\ ¬ H k)/\k<w.heap.size):=hr2.inside.move (fun k hk _=>f2.block k hk.2 hk.1.1.2);refine⟨fun k=>v1.ownBlock=some k\/(S k\/H k),⟨cells++news,fun k=>S k\/H k,?_,vZ (mF hS1 (fun _ h=> .inl h)) (mF hH1 (fun _ h=> .inr h)),?_,?_,fun _=>Iff.rfl⟩,?_,hR.mono (fun k hk=>⟨hk.1.1.1,?_⟩)⟩
 ·rw[Js]; exact ho
 ·rintro k (hk | hk)
  ·exact Nat.lt_of_lt_of_le (h3 k hk) hle
  ·exact Nat.lt_of_lt_of_le (hlt1 k hk) hle
 ·intro k hk;rcases hat with e | ⟨k',e,hk'⟩
  ·rw[e] at hk;rintro (h6 | h6)
   ·exact h4 k hk h6
   ·exact (hH k h6).2 ((h5 k).2 (.inl hk))
  ·rw[e] at hk;injection hk with hk;subst hk;rintro (h6 | h6)
   ·have:=h3 _ h6; omega
   ·have:=hlt1 _ h6; omega
 ·rintro k (hk | hk | hk)
  ·rcases hat with e | ⟨k',e,hk'⟩
   ·rw[e] at hk; exact hG k ((h5 k).2 (.inl hk))
   ·rw[e] at hk;injection hk with hk;subst hk;exact .inr Mc
  ·exact hG k ((h5 k).2 (.inr hk))
  ·exact (hH k hk).1
 ·rintro (h6 | h6 | h6)
  ·rcases hat with e | ⟨k',e,hk'⟩
   ·rw[e] at h6; exact hk.1.1.2 ((h5 k).2 (.inl h6))
   ·rw[e] at h6;injection h6 with h6;subst h6;have:=hk.2;omega
  ·exact hk.1.1.2 ((h5 k).2 (.inr h6))
  ·exact hk.1.2 h6
theorem Ef.appB (i j:Nat) (hO:Ones E) (hu:P.underlying t=some (.slice U)) (hinfo:(P.info? U).map (fun i=>(i.zero,i.size,i.bytes))=some (some zv,z,bytes)) (hzv:zv.cells.size=z) (hp:0<z)
 (hs:e.ev x=some (.slice A xs.length c)) (hx:e.ev y=some (.slice A2 ys.length c2)) (hi:Rs[i]? = some (ci U z E (.slice A xs.length c) xs)) (hj:(Rs.eraseIdx i)[j]? = some (RdR (ai z E) [.slice A2 ys.length c2] ys))
 (hb:(xs.length+ys.length)*bytes<=140737488355328) (hm:xs.length+ys.length<=140737488355328) (hd:okd d n=true) :
 Ef P n F0 w0 e Rs ⟨d,.call ⟨.builtin .append,#[x,y],#[t,t]⟩,ty,pos,af,gd⟩ (fun e' Rs'=> ∃ A' c',e'=kV d (.slice A' (xs++ys).length c') e/\Rs'=ci U z E (.slice A' (xs++ys).length c') (xs++ys)::(Rs.eraseIdx i).eraseIdx j):=by
 intro a w K Q ha hst hk;obtain⟨ti,hti,hzz⟩:=Option.map_eq_some_iff.1 hinfo;simp only[Prod.mk.injEq] at hzz;obtain⟨h0,h1,h2⟩:=hzz;obtain⟨cells,H,hB,hown,hgo⟩:=ci.openB i j hst hi hj;have fin: ∀ q' w' news,(execOp a.eval ⟨d,.call ⟨.builtin .append,#[x,y],#[t,t]⟩,ty,pos,af,gd⟩).run P w= .ok (.value q') w'->w'.ownsRow 0 U z q' (xs.length+ys.length) (cells++news)->w.grownBy w' (Value.slice A xs.length c).ownBlock->(q'.ownBlock=(Value.slice A xs.length c).ownBlock\/ ∃ k,q'.ownBlock=some k/\w.heap.size<=k)->gJ z E w H news ys->Oper.wp P ⟨d,.call ⟨.builtin .append,#[x,y],#[t,t]⟩,ty,pos,af,gd⟩ a w K Q:=by
  intro q' w' news r1 r2 r3 r4 r5;have hst':=hgo q' w' news ys r2 r3 r4 r5;obtain⟨A',c',rfl⟩:=kK r2;rw[<- Js] at hst' r1;unfold Oper.wp;rw[r1];exact hk _ _ ⟨A',c',rfl,rfl⟩ _ _ (ha.putd hd) hst'
 obtain⟨hB1,hB2⟩:=hB;rcases hB1 with⟨hv,rfl⟩ | ⟨ad,cap,hv,_,_,hbk,hel⟩
 ·injection hv with hv _;injection hv with hv1 hv2 hv3;subst hv1 hv3;have hr:=run_append_owned_none (P:=P) (w:=w) 0 t ty U ti z hu hti _ _ _ hown;refine fin (.slice A xs.length c) w [] ?_ (by rw[J6,Nat.add_zero,JE]; exact hown) ⟨rfl,rfl,rfl,JN _,fun _ _ _=>rfl⟩ (.inl rfl) rfl;rw[J6] at hx;simp[execOp,resolve,invoke,builtin,ha.ev hs,ha.ev hx,hr]
 ·injection hv with hv _;injection hv with hv1 hv2 hv3;subst hv1 hv3;obtain⟨us,g1,g2,g3⟩:=sD (a:=ad) ys 0 (fun i x hx=>by
   obtain⟨cs,q1,q2,q3⟩:=hel i x hx;exact⟨cs,q1,fun j hj=>by rw[Nat.zero_add]; exact q2 j hj,q3⟩) hO
  have hlen:=mG g1;obtain⟨q',w',hr,k2,k3,_,k5⟩:=run_append_own_at (P:=P) w 0 t ty U ti zv z bytes hu hti h0 h1 h2 hzv hp _ xs.length cells hown ad ys.length c2 us hlen (fun q u hq=>by have:=g2 q u hq; rwa [Nat.zero_mul,Nat.zero_add] at this) g3 (by simp only[maxLen]; omega) hb (JM _);refine fin q' w' us ?_ k2 k3 (k5.imp id (fun h=>⟨_,h,JN _⟩)) g1;simp[execOp,resolve,invoke,builtin,ha.ev hs,ha.ev hx,hr]
theorem TL.appB {d i:Nat} (i' j:Nat) (ho:ops[i]? = some ⟨some d,.call ⟨.builtin .append,#[x,y],#[t,t]⟩,ty,pos,af,gd⟩) (hw:Wd n ops e ⟨some d,.call ⟨.builtin .append,#[x,y],#[t,t]⟩,ty,pos,af,gd⟩ true) (hO:Ones E) (hu:P.underlying t=some (.slice U)) (hinfo:(P.info? U).map (fun i=>(i.zero,i.size,i.bytes))=some (some zv,z,bytes)) (hzv:zv.cells.size=z) (hp:0<z)
 (hs:e.ev x=some (.slice A xs.length c)) (hx:e.ev y=some (.slice A2 ys.length c2)) (hi:Rs[i']? = some (ci U z E (.slice A xs.length c) xs)) (hj:(Rs.eraseIdx i')[j]? = some (RdR (ai z E) [.slice A2 ys.length c2] ys))
 (hb:(xs.length+ys.length)*bytes<=140737488355328) (hm:xs.length+ys.length<=140737488355328) (hd:Nat.blt d n=true)
 (h: ∀ A' c',TL P n F0 w0 ops L ((d,.slice A' (xs++ys).length c')::e) (ci U z E (.slice A' (xs++ys).length c') (xs++ys)::(Rs.eraseIdx i').eraseIdx j) Q):TL P n F0 w0 ops (i::L) e Rs Q:=by
 refine H9 ho hw (Ef.appB i' j hO hu hinfo hzv hp hs hx hi hj hb hm hd) ?_;rintro _ _ ⟨A',c',rfl,rfl⟩;exact h A' c'
end
section
variable {P:Program} {t el:TypeId}
end
def DX (ops:Array Oper) (e:Env):Option (Nat×Bool)->Option Bool
 | none=>some true
 | some (j,want)=>match (ops[j]?).bind (·.dst) with
  | some t=>match e.get t with
   | some (.bool b)=>some (match b with | true=>want | false=> !want)
   | some _=>some false
   | none=>none
  | none=>none
theorem mj {n:Nat} {ops:Array Oper} {e:Env} {d:Option Tmp} {op:Op} {ty:TypeId} {pos:String} {af:Array Edge} {g:Option (Nat×Bool)} {b:Bool} (h:DX ops e g=some b):Wd n ops e ⟨d,op,ty,pos,af,g⟩ b:=by
 intro a ha
 cases g with
 | none =>
  cases h;rfl
 | some g =>
  obtain⟨j,want⟩:=g;simp only[DX] at h;split at h
  ·rename_i t hj;split at h
   ·rename_i b' hv;injection h with h;subst h;simp only[Region.wanted,yielded,hj,Jo,ha.at_ t _ hv];cases b' <;> cases want <;> rfl
   ·rename_i v hne hv;injection h with h;subst h;simp only[Region.wanted,yielded,hj,Jo,ha.at_ t _ hv];cases v <;> first | rfl | exact absurd rfl (hne _)
   ·cases h
  ·cases h
def CI:List Nat->Nat->Bool
 | [],_=>false
 | a::r,t=>match Nat.beq a t with
  | true=>true
  | false=>CI r t
def NOK (P:Program):List Nat->Prop
 | []=>True
 | a::r=>(∀ w,(isAgg a).run P w= .ok false w)/\NOK P r
theorem NOK.get {P:Program}: ∀ {l:List Nat},NOK P l-> ∀ {t:Nat},CI l t=true-> ∀ w,(isAgg t).run P w= .ok false w
 | [],_,t,h=>by simp[CI] at h
 | a::r,⟨h1,h2⟩,t,h=>by
  simp only[CI] at h
  cases hb:Nat.beq a t with
  | true =>
   obtain rfl:=Nat.eq_of_beq_eq_true hb;exact h1
  | false=>rw[hb] at h; exact NOK.get h2 h
def v5 (ft:ey) (nt:List Nat) (cs:Array Value) (e:Env) (L:List Nat):Op->Option (Value×List Nat)
 | .pick c x y=>match e.ev c with
  | some (.bool b)=>match b with
   | true=>match e.ev x with
    | some v=>some (v,L)
    | none=>none
   | false=>match e.ev y with
    | some v=>some (v,L)
    | none=>none
  | _=>none
 | .load t x=>match CI nt t with
  | true=>match e.ev x with
   | some (.pointer (some ⟨b,o,none⟩))=>match cs[o]? with
    | some v=>some (v,b::L)
    | none=>none
   | _=>none
  | false=>none
 | op=>match yi ft e op with
  | some v=>some (v,L)
  | none=>none
def rq (ft:ey) (nt:List Nat) (cs:Array Value) (n:Nat) (ops:Array Oper):Env->List Nat->List Nat->Option (Env×List Nat)
 | e,L,[]=>some (e,L)
 | e,L,i::is=>match ops[i]? with
  | some ⟨d,op,_,_,_,g⟩=>match DX ops e g with
   | some true=>match d with
    | some d=>match Nat.blt d n with
     | true=>match v5 ft nt cs e L op with
      | some (v,L')=>rq ft nt cs n ops ((d,v)::e) L' is
      | none=>none
     | false=>none
    | none=>none
   | some false=>match d with
    | some d=>match Nat.blt d n with
     | true=>rq ft nt cs n ops ((d,undef)::e) L is
     | false=>none
    | none=>rq ft nt cs n ops e L is
   | none=>none
  | none=>none
section
variable {P:Program} {n:Nat} {F0:Nat->Prop} {w0:World} {e e':Env} {Rs:List Res} {Q:Exit->Act->World->Prop} {ops:Array Oper} {ft:ey} {nt:List Nat} {cs:Array Value} {b T j:Nat} {L L' l:List Nat}
theorem CJ {op:Op} {v:Value} (h:v5 ft nt cs e L op=some (v,L')): ∀ x∈L,x∈L':=by
 unfold v5 at h
 repeat' split at h
 all_goals first | cases h | skip
 all_goals first | exact fun x hx=>hx | exact fun x hx=>List.mem_cons_of_mem _ hx
theorem qn: ∀ (is:List Nat) {e e':Env} {L L':List Nat},rq ft nt cs n ops e L is=some (e',L')-> ∀ x∈L,x∈L'
 | [],e,e',L,L',h=>by
  cases h;exact fun x hx=>hx
 | i::is,e,e',L,L',h=>by
  simp only[rq] at h
  repeat' split at h
  all_goals first | cases h | skip
  all_goals first | exact qn is h | (rename_i hp; exact fun x hx=>qn is h x (CJ hp x hx))
theorem CK {d:Option Tmp} {op:Op} {ty:TypeId} {pos:String} {af:Array Edge} {g:Option (Nat×Bool)} {v:Value} (hft:ft.OK P) (hnt:NOK P nt) (hi:Rs[j]? = some (aN b T cs)) (h:v5 ft nt cs e L op=some (v,L')) (hL: ∀ x∈L',x=b) :
 Ex P n e (St F0 w0 Rs) ⟨d,op,ty,pos,af,g⟩ v:=by
 unfold v5 at h;split at h
 ·split at h
  ·rename_i hc;split at h
   ·split at h
    ·rename_i hx;cases h;exact Hy hc rfl hx
    ·cases h
   ·split at h
    ·rename_i hx;cases h;exact Hq hc rfl hx
    ·cases h
  ·cases h
 ·split at h
  ·rename_i ht;split at h
   ·rename_i b' o hx;split at h
    ·rename_i hv;cases h;obtain rfl:=hL b' (List.mem_cons_self ..);exact GM j hx (hnt.get ht) hi hv
    ·cases h
   ·cases h
  ·cases h
 ·split at h
  ·rename_i hv;cases h;exact me hft hv
  ·cases h
theorem TL.runB_ (hft:ft.OK P) (hnt:NOK P nt) (hi:Rs[j]? = some (aN b T cs)): ∀ (is:List Nat) {e e':Env} {L L' l:List Nat},rq ft nt cs n ops e L is=some (e',L')->(∀ x∈L',x=b)->TL P n F0 w0 ops l e' Rs Q->TL P n F0 w0 ops (is++l) e Rs Q
 | [],e,e',L,L',l,h,_,k=>by
  cases h;exact k
 | i::is,e,e',L,L',l,h,hL,k=>by
  simp only[rq] at h;split at h
  ·rename_i d op ty pos af g ho;split at h
   ·rename_i hw;split at h
    ·rename_i d;split at h
     ·rename_i hd;split at h
      ·rename_i v L1 hv;exact TL.q ho (mj hw) (CK hft hnt hi hv (fun x hx=>hL x (qn is h x hx))) hd (TL.runB_ hft hnt hi is h hL k)
      ·cases h
     ·cases h
    ·cases h
   ·rename_i hw;split at h
    ·rename_i d;split at h
     ·rename_i hd;exact TL.no ho (mj hw) hd (TL.runB_ hft hnt hi is h hL k)
     ·cases h
    ·exact TL.no0 ho (mj hw) (TL.runB_ hft hnt hi is h hL k)
   ·cases h
  ·cases h
theorem Gt (hft:ft.OK P) (hnt:NOK P nt) (j:Nat) (hi:Rs[j]? = some (aN b T cs)) (k:Nat) (h:rq ft nt cs n ops e [] (l.take k)=some (e',L)) (hL:L=L.map fun _=>b) (K:TL P n F0 w0 ops (l.drop k) e' Rs Q):TL P n F0 w0 ops l e Rs Q:=by
 have h2: ∀ x∈L,x=b:=fun x hx=>by
  rw[hL] at hx;obtain⟨_,_,rfl⟩:=List.mem_map.1 hx;rfl
 have h3:=TL.runB_ hft hnt hi (l.take k) h h2 K
 rwa [List.take_append_drop] at h3
theorem Iz (hft:ft.OK P): ∀ (is:List Nat) {e e':Env} {l:List Nat},rq ft [] #[] n ops e [] is=some (e',[])->TL P n F0 w0 ops l e' Rs Q->TL P n F0 w0 ops (is++l) e Rs Q
 | [],e,e',l,h,k=>by
  cases h;exact k
 | i::is,e,e',l,h,k=>by
  simp only[rq] at h;split at h
  ·rename_i d op ty pos af g ho;split at h
   ·rename_i hw;split at h
    ·rename_i d;split at h
     ·rename_i hd;split at h
      ·rename_i v L1 hv;have hL1:L1 = []:=by
        cases L1 with
        | nil=>rfl
        | cons x r=>exact absurd (qn is h x (List.mem_cons_self ..)) (by simp)
       subst hL1;have hx:Ex P n e (St F0 w0 Rs) ⟨some d,op,ty,pos,af,g⟩ v:=by
        unfold v5 at hv;split at hv
        ·split at hv
         ·rename_i hc;split at hv
          ·split at hv
           ·rename_i hx;cases hv;exact Hy hc rfl hx
           ·cases hv
          ·split at hv
           ·rename_i hx;cases hv;exact Hq hc rfl hx
           ·cases hv
         ·cases hv
        ·simp[CI] at hv
        ·split at hv
         ·rename_i hv';cases hv;exact me hft hv'
         ·cases hv
       exact TL.q ho (mj hw) hx hd (Iz hft is h k)
      ·cases h
     ·cases h
    ·cases h
   ·rename_i hw;split at h
    ·rename_i d;split at h
     ·rename_i hd;exact TL.no ho (mj hw) hd (Iz hft is h k)
     ·cases h
    ·exact TL.no0 ho (mj hw) (Iz hft is h k)
   ·cases h
  ·cases h
theorem GB (hft:ft.OK P) (k:Nat) (h:rq ft [] #[] n ops e [] (l.take k)=some (e',[])) (K:TL P n F0 w0 ops (l.drop k) e' Rs Q):TL P n F0 w0 ops l e Rs Q:=by
 have h3:=Iz hft (l.take k) h K
 rwa [List.take_append_drop] at h3
theorem GA (d:Nat) {x y:Bool} (hv:e.get d=some (.bool x)) (h:x=y) (K:TL P n F0 w0 ops l ((d,.bool y)::e) Rs Q):TL P n F0 w0 ops l e Rs Q:=fun a w ha hs=>by
 refine K a w (ha.sub (fun t u hu=> ?_)) hs;simp only[Env.get] at hu
 cases hb:Nat.beq d t with
 | true =>
  rw[hb] at hu;obtain rfl:=Nat.eq_of_beq_eq_true hb;injection hu with hu;rw[hv,h,hu]
 | false=>rw[hb] at hu; exact hu
end
def AndR (A B:Res):Res:=PakR (fun _:Unit => [A,B])
theorem TL.pair {P:Program} {n:Nat} {F0:Nat->Prop} {w0:World} {e:Env} {Rs:List Res} {Q:Exit->Act->World->Prop} {ops:Array Oper} {l:List Nat} {A B:Res} (h:TL P n F0 w0 ops l e (AndR A B::Rs) Q):TL P n F0 w0 ops l e (A::B::Rs) Q:=TL.pakShut (f:=fun _:Unit => [A,B]) () rfl h
theorem and2 {α β:Type} {E1:Rd α} {E2:Rd β} {v1 v2:List Value} {x1:α} {x2:β} {w:World} {G:Nat->Prop} (h:(AndR (RdR E1 v1 x1) (RdR E2 v2 x2)).P w G):E1.P w G v1 x1/\E2.P w G v2 x2:=by
 obtain⟨⟨_,G1,h1,k1,G2,h2,k2,_⟩,_⟩:=h;exact⟨E1.mono h1.1 k1,E2.mono h2.1 (fun k hk=>(k2 k hk).1)⟩
theorem and3 {α β γ:Type} {E1:Rd α} {E2:Rd β} {E3:Rd γ} {v1 v2 v3:List Value} {x1:α} {x2:β} {x3:γ} {w:World} {G:Nat->Prop} (h:(AndR (AndR (RdR E1 v1 x1) (RdR E2 v2 x2)) (RdR E3 v3 x3)).P w G):E1.P w G v1 x1/\E2.P w G v2 x2/\E3.P w G v3 x3:=by
 obtain⟨⟨_,G1,h1,k1,G2,h2,k2,_⟩,_⟩:=h;have h3:=and2 h1;exact⟨E1.mono h3.1 k1,E2.mono h3.2 k1,E3.mono h2.1 (fun k hk=>(k2 k hk).1)⟩
def wA0 (x:Bat) (A0:Option Addr) (c0:Nat):Array Value:= #[.int .i64 x.I9,.int .i64 x.I5,.bool x.Jg,.bool x.Jf,.bool x.Jc,.int .i64 x.I7,.int .i64 x.IV,.int .i64 x.Je,.int .i64 x.ID,.int .i64 x.IF,.int .i64 x.IX,.slice A0 x.IG.length c0]
def wL1 (x:Rec) (A0:Option Addr) (c0:Nat):List Value := [.int .i64 x.Ja,.int .i64 x.IZ,.bool x.I3.null,.string (bsOf x.I3.data),.bool x.IQ.null,.string (bsOf x.IQ.data),.slice A0 x.IR.length c0]
def wA2 (x:Rec) (A0:Option Addr) (c0:Nat):Array Value:= #[.int .i64 x.Ja,.int .i64 x.IZ,.bool x.I3.null,.string (bsOf x.I3.data),.bool x.IQ.null,.string (bsOf x.IQ.data),.slice A0 x.IR.length c0]
def wL3 (x:Hd):List Value := [.string (bsOf x.I3),.bool x.IQ.null,.string (bsOf x.IQ.data)]
def wA4 (x:Hd):Array Value:= #[.string (bsOf x.I3),.bool x.IQ.null,.string (bsOf x.IQ.data)]
def wL5 (x:Bat) (A0:Option Addr) (c0:Nat):List Value := [.int .i64 x.I9,.int .i64 x.I5,.bool x.Jg,.bool x.Jf,.bool x.Jc,.int .i64 x.I7,.int .i64 x.IV,.int .i64 x.Je,.int .i64 x.ID,.int .i64 x.IF,.int .i64 x.IX,.slice A0 x.IG.length c0]
def wL6 (x:Bl):List Value := [.bool x.null,.string (bsOf x.data)]
def wA7 (x:cG) (A0:Option Addr) (c0:Nat):Array Value:= #[.bool x.IJ.null,.string (bsOf x.IJ.data),.int .i64 x.II,.int .i64 x.ID,.int .i64 x.IF,.slice A0 x.IC.length c0,.bool x.I2]
def wA8 (x:ff) (A0:Option Addr) (A1:Option Addr) (A2:Option Addr) (c0:Nat) (c1:Nat) (c2:Nat):Array Value:= #[.int .i64 x.IE.IP,.int .i64 x.IE.IO,.int .i64 x.IE.IY,.bool x.IE.IK.null,.string (bsOf x.IE.IK.data),.bool x.Jf.IJ.null,.string (bsOf x.Jf.IJ.data),.int .i64 x.Jf.II,.int .i64 x.Jf.ID,.int .i64 x.Jf.IF,.slice A0 x.Jf.IC.length c0,.bool x.Jf.I2,.slice A1 x.I1.length c1,.bool x.IL.IJ.null,.string (bsOf x.IL.IJ.data),.int .i64 x.IL.I6,.int .i64 x.IL.II,.slice A2 x.IL.IC.length c2]
def wL9 (x:cG) (A0:Option Addr) (c0:Nat):List Value := [.bool x.IJ.null,.string (bsOf x.IJ.data),.int .i64 x.II,.int .i64 x.ID,.int .i64 x.IF,.slice A0 x.IC.length c0,.bool x.I2]
def wA10 (x:bI) (A0:Option Addr) (c0:Nat):Array Value:= #[.string (bsOf x.IJ),.int .i64 x.ID,.int .i64 x.IF,.slice A0 x.IC.length c0]
def wL11 (x:bI) (A0:Option Addr) (c0:Nat):List Value := [.string (bsOf x.IJ),.int .i64 x.ID,.int .i64 x.IF,.slice A0 x.IC.length c0]
def wA12 (x:bH):Array Value:= #[.string (bsOf x.IJ),.int .i64 x.ID,.int .i64 x.IF,.bool x.I2]
def wL13 (x:bH):List Value := [.string (bsOf x.IJ),.int .i64 x.ID,.int .i64 x.IF,.bool x.I2]
def xe (x:Pfx):Array Value:= #[.int .i64 x.I9,.int .i64 x.Jd,.int .i64 x.I5,.int .i64 x.Jh,.int .i64 x.Jj,.int .i64 x.I7,.int .i64 x.IV,.int .i64 x.Je,.int .i64 x.ID,.int .i64 x.IF,.int .i64 x.IX,.int .i64 x.Ji]
def yp (x:Bl):Array Value:= #[.bool x.null,.string (bsOf x.data)]
def wL16 (x:Pfx):List Value := [.int .i64 x.I9,.int .i64 x.Jd,.int .i64 x.I5,.int .i64 x.Jh,.int .i64 x.Jj,.int .i64 x.I7,.int .i64 x.IV,.int .i64 x.Je,.int .i64 x.ID,.int .i64 x.IF,.int .i64 x.IX,.int .i64 x.Ji]
def g7 (x:al) (A0:Option Addr) (A1:Option Addr) (A2:Option Addr) (c0:Nat) (c1:Nat) (c2:Nat):Array Value:= #[.int .i64 x.IE.IP,.int .i64 x.IE.IO,.int .i64 x.IE.IY,.bool x.IE.IK.null,.string (bsOf x.IE.IK.data),.bool x.I0.IJ.null,.string (bsOf x.I0.IJ.data),.int .i64 x.I0.II,.int .i64 x.I0.ID,.int .i64 x.I0.IF,.string (bsOf x.I4.IJ),.int .i64 x.I4.ID,.int .i64 x.I4.IF,.slice A0 x.I4.IC.length c0,.string (bsOf x.Jb.IJ),.int .i64 x.Jb.ID,.int .i64 x.Jb.IF,.bool x.Jb.I2,.slice A1 x.I1.length c1,.bool x.IL.IJ.null,.string (bsOf x.IL.IJ.data),.int .i64 x.IL.I6,.int .i64 x.IL.II,.slice A2 x.IL.IC.length c2]
def nM (x:al) (A0:Option Addr) (A1:Option Addr) (A2:Option Addr) (c0:Nat) (c1:Nat) (c2:Nat):List Value := [.int .i64 x.IE.IP,.int .i64 x.IE.IO,.int .i64 x.IE.IY,.bool x.IE.IK.null,.string (bsOf x.IE.IK.data),.bool x.I0.IJ.null,.string (bsOf x.I0.IJ.data),.int .i64 x.I0.II,.int .i64 x.I0.ID,.int .i64 x.I0.IF,.string (bsOf x.I4.IJ),.int .i64 x.I4.ID,.int .i64 x.I4.IF,.slice A0 x.I4.IC.length c0,.string (bsOf x.Jb.IJ),.int .i64 x.Jb.ID,.int .i64 x.Jb.IF,.bool x.Jb.I2,.slice A1 x.I1.length c1,.bool x.IL.IJ.null,.string (bsOf x.IL.IJ.data),.int .i64 x.IL.I6,.int .i64 x.IL.II,.slice A2 x.IL.IC.length c2]
def wA19 (x:al):Array Value:= #[.int .i64 x.IE.IP,.int .i64 x.IE.IO,.int .i64 x.IE.IY,.bool x.IE.IK.null,.string (bsOf x.IE.IK.data),.bool x.I0.IJ.null,.string (bsOf x.I0.IJ.data),.int .i64 x.I0.II,.int .i64 x.I0.ID,.int .i64 x.I0.IF,.slice none 0 0,.bool false,.slice none 0 0,.bool false,.string ⟨#[]⟩,.int .i64 0,.int .i64 0,.slice none 0 0]
def wA20 (x:al) (A0:Option Addr) (c0:Nat):Array Value:= #[.int .i64 x.IE.IP,.int .i64 x.IE.IO,.int .i64 x.IE.IY,.bool x.IE.IK.null,.string (bsOf x.IE.IK.data),.bool false,.string (bsOf x.I4.IJ),.int .i64 0,.int .i64 x.I4.ID,.int .i64 x.I4.IF,.slice A0 x.I4.IC.length c0,.bool false,.slice none 0 0,.bool false,.string ⟨#[]⟩,.int .i64 0,.int .i64 0,.slice none 0 0]
def wA21 (x:al):Array Value:= #[.int .i64 x.IE.IP,.int .i64 x.IE.IO,.int .i64 x.IE.IY,.bool x.IE.IK.null,.string (bsOf x.IE.IK.data),.bool false,.string (bsOf x.Jb.IJ),.int .i64 0,.int .i64 x.Jb.ID,.int .i64 x.Jb.IF,.slice none 0 0,.bool x.Jb.I2,.slice none 0 0,.bool false,.string ⟨#[]⟩,.int .i64 0,.int .i64 0,.slice none 0 0]
def yq (x:aM):Array Value:= #[.int .i64 x.fcount.fmany,.int .i64 x.fcount.fat,.string (bsOf x.fheld),.int .i64 x.ferr]
def vA0:Array Value:= #[.bool false,.string ⟨#[]⟩,.int .i64 0,.int .i64 0,.slice none 0 0]
def vA1 (p0:Int) (p1:Int) (p2:Int) (p3:Bl):Array Value:= #[.bool p3.null,.string (bsOf p3.data),.int .i64 p0,.int .i64 p1,.int .i64 p2]
def vA2:Array Value:= #[.bool false,.string ⟨#[]⟩,.int .i64 0,.int .i64 0,.int .i64 0]
def vA3:Array Value:= #[.string ⟨#[]⟩,.int .i64 0,.int .i64 0,.slice none 0 0]
def vA4:Array Value:= #[.string ⟨#[]⟩,.int .i64 0,.int .i64 0,.bool false]
def vA5 (p0:Nat) (p1:Nat):Array Value:= #[.pointer (some ⟨p0,0,none⟩),.int .i64 8,.pointer (some ⟨p0,1,none⟩),.int .i64 4,.pointer (some ⟨p0,2,none⟩),.int .i64 4,.pointer (some ⟨p1,0,none⟩),.int .i64 1,.pointer (some ⟨p0,3,none⟩),.int .i64 4,.pointer (some ⟨p0,4,none⟩),.int .i64 2,.pointer (some ⟨p0,5,none⟩),.int .i64 4,.pointer (some ⟨p0,6,none⟩),.int .i64 8,.pointer (some ⟨p0,7,none⟩),.int .i64 8,.pointer (some ⟨p0,8,none⟩),.int .i64 8,.pointer (some ⟨p0,9,none⟩),.int .i64 2,.pointer (some ⟨p0,10,none⟩),.int .i64 4,.pointer (some ⟨p0,11,none⟩),.int .i64 4]
def vA6:Array Value:= #[.int .i64 0,.int .i64 0,.int .i64 0,.int .i64 0,.int .i64 0,.int .i64 0,.int .i64 0,.int .i64 0,.int .i64 0,.int .i64 0,.int .i64 0,.int .i64 0]
def vA7 (p0:Int) (p1:Int):Array Value:= #[.int .i64 p0,.int .i64 p1,.bool false,.string ⟨#[]⟩,.bool false,.string ⟨#[]⟩,.slice none 0 0]
def vA8 (p0:Int) (p1:Int) (p2:Bl):Array Value:= #[.int .i64 p0,.int .i64 p1,.bool p2.null,.string (bsOf p2.data),.bool false,.string ⟨#[]⟩,.slice none 0 0]
def vA9 (p0:Int) (p1:Int) (p2:Bl) (p3:Bl):Array Value:= #[.int .i64 p0,.int .i64 p1,.bool p2.null,.string (bsOf p2.data),.bool p3.null,.string (bsOf p3.data),.slice none 0 0]
def s6 (p0:Int) (p1:Int) (p2:Option Addr) (p3:Nat) (p4:Nat) (p5:Bl) (p6:Bl):Array Value:= #[.int .i64 p0,.int .i64 p1,.bool p5.null,.string (bsOf p5.data),.bool p6.null,.string (bsOf p6.data),.slice p2 p4 p3]
def vL11 (p0:Int) (p1:Int) (p2:Option Addr) (p3:Nat) (p4:Nat) (p5:Bl) (p6:Bl):List Value := [.int .i64 p0,.int .i64 p1,.bool p5.null,.string (bsOf p5.data),.bool p6.null,.string (bsOf p6.data),.slice p2 p4 p3]
def pw:Array Value:= #[.int .i64 0,.int .i64 0,.bool false,.string ⟨#[]⟩,.bool false,.string ⟨#[]⟩,.slice none 0 0]
def kW:Array Value:= #[.int .i64 0,.int .i64 0,.bool false,.bool false,.bool false,.int .i64 0,.int .i64 0,.int .i64 0,.int .i64 0,.int .i64 0,.int .i64 0,.slice none 0 0]
def Ai (p0:Int) (p1:Int) (p2:Option Addr) (p3:Nat) (p4:Nat) (p5:Bl):Array Value:= #[.bool p5.null,.string (bsOf p5.data),.int .i64 p0,.int .i64 p1,.slice p2 p4 p3]
def xf (p0:Int) (p1:Int) (p2:Int) (p3:Bl):Array Value:= #[.int .i64 p0,.int .i64 p1,.int .i64 p2,.bool p3.null,.string (bsOf p3.data)]
def xg:Array Value:= #[.int .i64 0,.int .i64 0,.int .i64 0,.bool false,.string ⟨#[]⟩]
def jz:Array Value:= #[.int .i64 0,.int .i64 0,.int .i64 0,.bool false,.string ⟨#[]⟩,.bool false,.string ⟨#[]⟩,.int .i64 0,.int .i64 0,.int .i64 0,.string ⟨#[]⟩,.int .i64 0,.int .i64 0,.slice none 0 0,.string ⟨#[]⟩,.int .i64 0,.int .i64 0,.bool false,.slice none 0 0,.bool false,.string ⟨#[]⟩,.int .i64 0,.int .i64 0,.slice none 0 0]
def vA18 (p0:Int) (p1:aM):Array Value:= #[.int .i64 (p1.fcount.fmany+1),.int .i64 (p1.fcount.fat+p0),.string (bsOf p1.fheld),.int .i64 p1.ferr]
def vA19 (p0:aM):Array Value:= #[.int .i64 (p0.fcount.fmany+1),.int .i64 p0.fcount.fat,.string (bsOf p0.fheld),.int .i64 p0.ferr]
section
variable {P:Program} {n:Nat} {F0:Nat->Prop} {w0:World} {e e':Env} {Rs Rs' Rf:List Res} {Q:Exit->Act->World->Prop} {K:Act->World->Prop} {ops:Array Oper} {ft:ey} {x y z:Code} {c:Operand} {id:Nat} {os:List Oper} {l:List Nat}
theorem rT {S:World->Prop} {G:World->Nat->Prop}: ∀ w,S w->RX.triv.reads w (G w):=fun w _=>G5 w (G w)
theorem sT {S:World->Prop} {F0:Nat->Prop} {w0:World} {Rs:List Res} {i:Nat}: ∀ w,S w->Src F0 w0 Rs w i .triv:=fun _ _=>Src.triv i
theorem Gq (hl:List.range os.toArray.size=l) (h:TL P n F0 w0 os.toArray l e Rs (Exit.then (y.wp P Q) Q)):T P n F0 w0 e Rs (.seq (.region id os.toArray false) y) Q:=T.seq (T.region hl h)
theorem Ig (h:T P n F0 w0 e Rs x (Exit.then (z.wp P (Exit.then (y.wp P Q) Q)) (Exit.then (y.wp P Q) Q))):T P n F0 w0 e Rs (.seq (.seq x z) y) Q:=T.seq (T.seq h)
theorem Gs (h:T P n F0 w0 e Rs y Q):TL P n F0 w0 ops [] e Rs (Exit.then (y.wp P Q) Q):=TL.nil (X.seq h)
theorem Hp (h:T P n F0 w0 e Rs y Q):TD P n F0 w0 ops .nil Rf e Rs (Exit.then (y.wp P Q) Q):=TD.nil (X.seq h)
theorem GQ (h:T P n F0 w0 e Rs y Q):T P n F0 w0 e Rs .skip (Exit.then (y.wp P Q) Q):=T.skip (X.seq h)
theorem HX {p:Prop} [Decidable p] (hc:e.ev c=some (.bool (decide p))) (hb:p) (h:T P n F0 w0 e Rs x Q):T P n F0 w0 e Rs (.cond c x y) Q:=GF hc (Jq hb) h
theorem HY {p:Prop} [Decidable p] (hc:e.ev c=some (.bool (decide p))) (hb: ¬p) (h:T P n F0 w0 e Rs y Q):T P n F0 w0 e Rs (.cond c x y) Q:=GU hc (Jr hb) h
theorem T.yn {p:Prop} [Decidable p] (hc:e.ev c=some (.bool (!decide p))) (hb: ¬p) (h:T P n F0 w0 e Rs x Q):T P n F0 w0 e Rs (.cond c x y) Q:=GF hc (by simp[hb]) h
theorem T.nn {p:Prop} [Decidable p] (hc:e.ev c=some (.bool (!decide p))) (hb:p) (h:T P n F0 w0 e Rs y Q):T P n F0 w0 e Rs (.cond c x y) Q:=GU hc (by simp[hb]) h
theorem Hg {p:Prop} [Decidable p] (hc:e.ev c=some (.bool (decide p))) (hb:p) (h:T P n F0 w0 e Rs x Q):TL P n F0 w0 ops [] e Rs (Exit.then ((Code.cond c x y).wp P Q) Q):=Gs (HX hc hb h)
theorem Hh {p:Prop} [Decidable p] (hc:e.ev c=some (.bool (decide p))) (hb: ¬p) (h:T P n F0 w0 e Rs y Q):TL P n F0 w0 ops [] e Rs (Exit.then ((Code.cond c x y).wp P Q) Q):=Gs (HY hc hb h)
theorem GX {p:Prop} [Decidable p] (hc:e.ev c=some (.bool (!decide p))) (hb: ¬p) (h:T P n F0 w0 e Rs x Q):TL P n F0 w0 ops [] e Rs (Exit.then ((Code.cond c x y).wp P Q) Q):=Gs (T.yn hc hb h)
theorem GY {p:Prop} [Decidable p] (hc:e.ev c=some (.bool (!decide p))) (hb:p) (h:T P n F0 w0 e Rs y Q):TL P n F0 w0 ops [] e Rs (Exit.then ((Code.cond c x y).wp P Q) Q):=Gs (T.nn hc hb h)
theorem GG (hl:List.range os.toArray.size=l) (h:TL P n F0 w0 os.toArray l e Rs (Exit.then (y.wp P Q) Q)):TL P n F0 w0 ops [] e Rs (Exit.then ((Code.seq (.region id os.toArray false) y).wp P Q) Q):=Gs (Gq hl h)
theorem G3 (hl:List.range os.toArray.size=l) (h:TL P n F0 w0 os.toArray l e Rs (Exit.then (y.wp P Q) Q)):T P n F0 w0 e Rs .skip (Exit.then ((Code.seq (.region id os.toArray false) y).wp P Q) Q):=GQ (Gq hl h)
theorem Gp (hft:ft.OK P) (k:Nat) (h:vz ft n ops e (l.take k)=some e') (K:TL P n F0 w0 ops (l.drop k) e' Rs Q):TL P n F0 w0 ops l e Rs Q:=TL.run hft (l.take k) (List.take_append_drop k l).symm h K
theorem Gx (hft:ft.OK P) (h:vz ft n ops e l=some e') (K:T P n F0 w0 e' Rs y Q):TL P n F0 w0 ops l e Rs (Exit.then (y.wp P Q) Q):=TL.run hft l (JE l).symm h (Gs K)
theorem GP (hft:ft.OK P) (h:vz ft n ops e l=some e') {l':List Nat} (hl:List.range os.toArray.size=l') (K:TL P n F0 w0 os.toArray l' e' Rs (Exit.then (y.wp P Q) Q)):TL P n F0 w0 ops l e Rs (Exit.then ((Code.seq (.region id os.toArray false) y).wp P Q) Q):=Gx hft h (Gq hl K)
theorem Hz (hft:ft.OK P) (h:rq ft [] #[] n ops e [] l=some (e',[])) (K:T P n F0 w0 e' Rs y Q):TL P n F0 w0 ops l e Rs (Exit.then (y.wp P Q) Q):=by have h3:=Iz (l := []) hft l h (Gs K); rwa [JE] at h3
theorem Ie {nt:List Nat} {cs:Array Value} {b T':Nat} {L:List Nat} (hft:ft.OK P) (hnt:NOK P nt) (j:Nat) (hi:Rs[j]? = some (aN b T' cs)) (h:rq ft nt cs n ops e [] l=some (e',L)) (hL:L=L.map fun _=>b) (K:T P n F0 w0 e' Rs y Q):TL P n F0 w0 ops l e Rs (Exit.then (y.wp P Q) Q):=Gt hft hnt j hi l.length (by rw[List.take_length]; exact h) hL (by rw[List.drop_length]; exact Gs K)
theorem Gr {i d:Nat} {op:Op} {ty:TypeId} {pos:String} {af:Array Edge} {v:Value} (ho:ops[i]? = some ⟨some d,op,ty,pos,af,none⟩) (hx:Ex P n e (St F0 w0 Rs) ⟨some d,op,ty,pos,af,none⟩ v) (hd:Nat.blt d n=true) (h:TL P n F0 w0 ops l ((d,v)::e) Rs Q):TL P n F0 w0 ops (i::l) e Rs Q:=TL.q ho .u hx hd h
theorem Gw {i d:Nat} {op:Op} {ty:TypeId} {pos:String} {af:Array Edge} {v:Value} {lo:Sch} (ho:ops[i]? = some ⟨some d,op,ty,pos,af,none⟩) (hx:Ex P n e (St F0 w0 Rf) ⟨some d,op,ty,pos,af,none⟩ v) (hd:Nat.blt d n=true) (h:TD P n F0 w0 ops lo Rf ((d,v)::e) Rs Q):TD P n F0 w0 ops (.q i lo) Rf e Rs Q:=TD.q ho .u hx hd h
theorem GE {n:Nat} {F0:Nat->Prop} {w0:World} {e e':Env} {Rs Rs':List Res} {Q:Exit->Act->World->Prop} {R:Env->List Res->Prop} (is:List Nat) (hR:R e' Rs':=by exact⟨rfl,rfl⟩) (he:Sub e' e:=by rfl) (hr:Sel Rs is Rs':=by rfl):X n F0 w0 e Rs .normal (Exit.then (JK n F0 w0 R) Q):=X.jq is hR he hr
theorem GD {P:Program} {n:Nat} {F0:Nat->Prop} {w0:World} {e:Env} {Rs Ns:List Res} {A':Res} {f:Func} {r1:ResultVar} {v1:Value} {z:Exit} {R:Value->Res->List Res->Prop} (is:List Nat) (hf:f.results= #[r1]) (h1:RV P n F0 w0 e Rs r1 v1) (hR:R v1 A' Ns:=by exact⟨rfl,rfl,rfl⟩) (hr:Sel Rs is (A'::Ns):=by rfl) (hx:z= .ret\/z= .normal:=by exact .inl rfl):X n F0 w0 e Rs z (bodyPost P f (pk R F0 w0)):=GV is hf h1 hR hr hx
def Aj:List Res->Nat->Res->Option (List Res)
 | [],_,_=>none
 | _::r,0,b=>some (b::r)
 | a::r,k+1,b=>match Aj r k b with
  | some l=>some (a::l)
  | none=>none
theorem qo: ∀ {Rs:List Res} {k:Nat} {b:Res} {l:List Res},Aj Rs k b=some l->Rs.set k b=l
 | [],_,_,_,h=>by cases h
 | _::r,0,b,l,h=>by cases h; rfl
 | a::r,k+1,b,l,h=>by
  simp only[Aj] at h;split at h
  · rename_i l' h';cases h;rw[List.set_cons_succ,qo h']
  · cases h
theorem Gy {i d:Nat} {cl:Call} {ty:TypeId} {pos:String} {af:Array Edge} {gd:Option (Nat×Bool)} {f:FuncId} {vs:List Value} {A B:Res} {Y:RX} {v:Value} (k:Nat) (hi:Rs[k]? = some A) (ho:ops[i]? = some ⟨some d,.call cl,ty,pos,af,gd⟩) (hw:Wd n ops e ⟨some d,.call cl,ty,pos,af,gd⟩ true) (hc:CT P n e ⟨some d,.call cl,ty,pos,af,gd⟩ f vs) (hs:aC P f vs.toArray Y A (fun v' A' N=>v'=v/\A'=B/\N = [])) (hr: ∀ w,St F0 w0 Rs w->Src F0 w0 Rs w k Y) (hd:Nat.blt d n=true) (hR:Aj Rs k B=some Rs') (h:TL P n F0 w0 ops l ((d,v)::e) Rs' Q):TL P n F0 w0 ops (i::l) e Rs Q:=by
 refine H9 ho hw (Ef.call k hc hi hs hr hd) ?_;rintro _ _ ⟨_,_,_,⟨rfl,rfl,rfl⟩,rfl,rfl⟩;rw[qo hR];exact h
theorem Hs {lo:Sch} {i d:Nat} {cl:Call} {ty:TypeId} {pos:String} {af:Array Edge} {gd:Option (Nat×Bool)} {f:FuncId} {vs:List Value} {A B:Res} {Y:RX} {v:Value} (k:Nat) (hi:Rs[k]? = some A) (ho:ops[i]? = some ⟨some d,.call cl,ty,pos,af,gd⟩) (hw:Wd n ops e ⟨some d,.call cl,ty,pos,af,gd⟩ true) (hc:CT P n e ⟨some d,.call cl,ty,pos,af,gd⟩ f vs) (hs:aC P f vs.toArray Y A (fun v' A' N=>v'=v/\A'=B/\N = [])) (hr: ∀ w,St F0 w0 Rs w->Src F0 w0 Rs w k Y) (hd:Nat.blt d n=true) (hR:Aj Rs k B=some Rs') (is:List Nat) (hf:Sel Rs' is Rf) (h:TD P n F0 w0 ops lo Rf ((d,v)::e) Rs' Q):TD P n F0 w0 ops (.e i lo) Rf e Rs Q:=by
 refine Il ho hw (Ef.call k hc hi hs hr hd) ?_;rintro _ _ ⟨_,_,_,⟨rfl,rfl,rfl⟩,rfl,rfl⟩;rw[qo hR];exact⟨Rf,fun w hw=>hw.sel is hf,fun _ h=>h,h⟩
theorem GC {i o z:Nat} {b T':Nat} {t ty:TypeId} {x y:Operand} {v:Value} {pos:String} {af:Array Edge} {gd:Option (Nat×Bool)} {cs cs':Array Value} (k:Nat) (hi:Rs[k]? = some (aN b T' cs)) (ho:ops[i]? = some ⟨none,.store t x y,ty,pos,af,gd⟩) (hw:Wd n ops e ⟨none,.store t x y,ty,pos,af,gd⟩ true) (hx:e.ev x=some (.pointer (some ⟨b,o,none⟩))) (hy:e.ev y=some v) (hz: ∀ w,(sizeOf t).run P w= .ok z w) (hvz:Nat.beq v.cells.size z=true) (hf':Nat.ble (o+v.cells.size) cs.size=true) (ho':v.cells.toList.all (·.oneCell')=true) (hc:(cs.toList.take o++v.cells.toList++cs.toList.drop (o+v.cells.size)).toArray=cs') (hR:Aj Rs k (aN b T' cs')=some Rs') (h:TL P n F0 w0 ops l e Rs' Q):TL P n F0 w0 ops (i::l) e Rs Q:=by
 refine H9 ho hw (Ef.st k hx hy hz hi hvz hf' ho' hc) ?_;rintro _ _ ⟨rfl,rfl⟩;rw[qo hR];exact h
theorem Hw {lo:Sch} {i o z:Nat} {b T':Nat} {t ty:TypeId} {x y:Operand} {v:Value} {pos:String} {af:Array Edge} {gd:Option (Nat×Bool)} {cs cs':Array Value} (k:Nat) (hi:Rs[k]? = some (aN b T' cs)) (ho:ops[i]? = some ⟨none,.store t x y,ty,pos,af,gd⟩) (hw:Wd n ops e ⟨none,.store t x y,ty,pos,af,gd⟩ true) (hx:e.ev x=some (.pointer (some ⟨b,o,none⟩))) (hy:e.ev y=some v) (hz: ∀ w,(sizeOf t).run P w= .ok z w) (hvz:Nat.beq v.cells.size z=true) (hf':Nat.ble (o+v.cells.size) cs.size=true) (ho':v.cells.toList.all (·.oneCell')=true) (hc:(cs.toList.take o++v.cells.toList++cs.toList.drop (o+v.cells.size)).toArray=cs') (hR:Aj Rs k (aN b T' cs')=some Rs') (is:List Nat) (hf:Sel Rs' is Rf) (h:TD P n F0 w0 ops lo Rf e Rs' Q):TD P n F0 w0 ops (.e i lo) Rf e Rs Q:=by
 refine Il ho hw (Ef.st k hx hy hz hi hvz hf' ho' hc) ?_;rintro _ _ ⟨rfl,rfl⟩;rw[qo hR];exact⟨Rf,fun w hw=>hw.sel is hf,fun _ h=>h,h⟩
end
def rr:ey := [(171,0,0),(171,1,1)]
theorem bB:(rr).OK Tryz.prog:=⟨FOK.mk KC rfl JO rfl,FOK.mk KC rfl Ld rfl,trivial⟩
def rt:List Nat := [9,74]
theorem kt:NOK Tryz.prog rt:=⟨JZ,Lk,trivial⟩
def fh:List Top->Int->Int->Option (Lp Int (Int×Int))
 | [],y3,y4=>some (Lp.go (y3,y4))
 | x10::xs,y3,y4=>if -9223372036854775808<=(4*(x10.IH.length:Int))/\(4*(x10.IH.length:Int))<=9223372036854775807 then (if -9223372036854775808<=((x10.IW.length:Int)+(4*(x10.IH.length:Int)))/\((x10.IW.length:Int)+(4*(x10.IH.length:Int)))<=9223372036854775807 then (if -9223372036854775808<=(((x10.IW.length:Int)+(4*(x10.IH.length:Int)))+6)/\(((x10.IW.length:Int)+(4*(x10.IH.length:Int)))+6)<=9223372036854775807 then (if -9223372036854775808<=(y4+(((x10.IW.length:Int)+(4*(x10.IH.length:Int)))+6))/\(y4+(((x10.IW.length:Int)+(4*(x10.IH.length:Int)))+6))<=9223372036854775807 then (if (y4+(((x10.IW.length:Int)+(4*(x10.IH.length:Int)))+6))>1000 then some (Lp.ret 0) else (fh xs y3 (y4+(((x10.IW.length:Int)+(4*(x10.IH.length:Int)))+6)))) else none) else none) else none) else none
def jA (a0:List Top):Option (Int):=(fh a0 0 0).bind fun e=>match e with | .ret r=>some r | .go (y23,y24)=>some 1
theorem nN (a0:List Top) (A1:Option Addr) (c2:Nat) (r:Int) (h:jA a0=some r):aC Tryz.prog 44 #[.slice A1 a0.length c2] (RX.of (ai 2 aZ) [.slice A1 a0.length c2] a0) (aO) (fun v A' N=>v=jI r/\A'=aO/\N = []):=by
 refine aU Tryz.func44 Z Tryz.ntmps44 Z ?_;intro F w hX;unfold jA at h;refine Gq Z (GP bB Z Z (Gx bB Z (T.seq (Gq Z (Gp bB 1 Z (Gr Z (GK Z J0) Z (Gp bB 1 Z ?_)))))));refine Gs (T.block ?_);obtain⟨E6,hE7,hO8⟩:=Jn h;have hk12len:=Ha hX;refine Hl (fun m e Rs=> ∃ (y3:Int) (y4:Int) (k5:Nat),k5+m=a0.length/\e = [(2,jI y3),(3,jI y4),(6,.slice A1 a0.length c2),(7,jI (a0.length:Int)),(8,jI (k5:Int))]/\Rs = [aO]/\fh (a0.drop k5) y3 y4=some E6) (a0.length) [0] ⟨0,0,0,by simp,Z,Z,by rw[List.drop_zero]; exact hE7⟩ Mf Mf ?_;clear hE7 h;rintro m9 _ _ ⟨y3,y4,k5,hk12,rfl,rfl,h⟩
 cases m9 with
 | zero =>
  rw[List.drop_of_length_le Mc,fh] at h;have hk12ge: ¬ ((k5:Int)<(a0.length:Int)):=by omega
  refine Gq Z (Gx bB Z (T.seq (GU Z (Jr hk12ge) ?_)));obtain rfl:=Jp h;replace h:=hO8;clear hO8;refine T.exit (GL (GL (Hi (X.seq (Gq Z (Gp bB 1 Z ?_))))));obtain rfl:=Jp h;exact Gs (T.ret (GD [0] Tryz.results44 (Gu Z)))
 | succ m9 =>
  obtain⟨x10,hxx10⟩: ∃ x,a0[k5]? = some x:=⟨_,List.getElem?_eq_getElem Mc⟩;rw[bz hxx10,fh] at h;have hk12lt:(k5:Int)<(a0.length:Int):=by omega
  refine Gq Z (Gx bB Z (T.seq (GF Z (Jq hk12lt) ?_)));obtain⟨gz13,oz13,rfl,z13cs,z13cl,z13cc,z13nf,z13r⟩:=G4 Md hX hxx10;obtain⟨z13S,z13r,z13rr⟩:=z13r;obtain⟨A14,c15,rfl,z13s0⟩:=z13r;have hX16:(RX.of (ai 1 mH) [.slice A14 x10.IH.length c15] x10.IH).reads w F:=⟨z13S,z13s0,z13rr⟩;refine GQ (T.seq (T.block (Gq Z ?_)));refine Gr Z (GS (k:=k5) Z Z Z J0 Ko (Jt hxx10).1) Z ?_;refine Gr Z (Ho (us := [jS x10.IW,.slice A14 x10.IH.length c15]) 0 Z Tryz.isAgg171 Ko z13nf z13cc Z Z Z) Z (TL.alloc Z .u Tryz.zeroValue171 Z (fun b17=>(GC 0 Z (cs':= #[jS x10.IW,.slice A14 x10.IH.length c15]) Z .u Z Z Ko Z Z Z Z Z (GG Z (Gt bB kt 0 Z 3 Z Z (Gr Z (Hv Z JJ) Z (Gt bB kt 0 Z 2 Z Z (Gr Z (GK Z J5) Z ?_))))))));obtain⟨c18,h⟩:=aE h;refine Gr Z (Ex.mul Z Z c18) Z ?_;obtain⟨c19,h⟩:=aE h;refine Gr Z (Ex.add Z Z c19) Z ?_;obtain⟨c20,h⟩:=aE h;refine Gr Z (Ex.add Z Z c20) Z ?_;obtain⟨c21,h⟩:=aE h;refine Gr Z (Ex.add Z Z c21) Z (GP bB Z Z (Gp bB 2 Z ?_));rcases jF h with⟨c22,h⟩ | ⟨c22,h⟩
  ·refine Hg Z c22 (Gq Z (Gp bB 1 Z ?_));obtain rfl:=Jp h;obtain rfl:=Jp hO8;exact Gs (T.ret (GI (Gv (Gv (GI (Gv (GD [1] Tryz.results44 (Gu Z))))))))
  exact Hh Z c22 (T.skip (GN (X.seq (T.region Z (Gr Z (Ex.add Z Z Mc) Z (Gp bB 1 Z (TL.nil (X.back (m':=m9) [1] Mc ⟨y3,(y4+(((x10.IW.length:Int)+(4*(x10.IH.length:Int)))+6)),k5+1,by omega,Z,Z,h⟩ Mf Mf))))))))
end Go.Proofs.YtheikonlgjdopaaGreat.Sl
