/- splitFeeds_holds: part 0. -/
import Derived.WalkKit
import Derived.Below
import Derived.Laws.OwnMore
import Derived.Deep.Draws
import Derived.Laws.Rows
import Derived.Lib.Hide
import Derived.Lib.AppendStr
import Derived.Maps.AppendAt
import Derived.OwnWalk
import Derived.Deep.AppendLies
import Derived.Laws.BytesArg
import Derived.Deep.WholeRow
import Derived.ChangeArms
import Derived.ChangeSlices
import Derived.Deep.Slices
import Derived.OpenShut
import Derived.WideShapes
import Derived.Test.YtheikonlgjdopaaGreatProg
import Derived.KernelRfl
import Derived.Deep.QuietTactic
import Derived.BigQuiet
import Derived.LoopN
import Derived.WalkSpells
import Derived.WalkLawsBesides
import Derived.Lib.Strings
import Derived.Laws.BitsLemmas
import Derived.Scope
import Derived.ScopeJumps
import Derived.WalkMore
set_option maxRecDepth 100000
set_option maxHeartbeats 4000000
set_option linter.defProp false
namespace Go.Proofs.YtheikonlgjdopaaGreat.Sl
open Go.RowKit
set_option linter.unusedVariables false
abbrev AI:=List UInt8
abbrev AT:=Option Addr
abbrev A0 (n:Int):Prop:=-9223372036854775808<=n/\n<=9223372036854775807
abbrev A5:Value:=.slice none 0 0
abbrev A7:Value:=.string ⟨#[]⟩
abbrev jI (n : Int) : Value := .int .i64 n
abbrev jP (n : Nat) : Value := .pointer (some ⟨n, 0, none⟩)
theorem jF {α : Sort _} {P : Prop} [Decidable P] {a b c : α} (h : (if P then a else b) = c) : (P /\ a = c) \/ (¬P /\ b = c) := by by_cases p : P; exact .inl ⟨p, (if_pos p).symm.trans h⟩; exact .inr ⟨p, (if_neg p).symm.trans h⟩
theorem QI {p : Prop} (h : p := by omega) : p := h
theorem QJ {p : Prop} (h : p := by decide) : p := h
theorem QK {p : Prop} (h : p := by kernel_rfl) : p := h
theorem QL {p : Prop} (h : p := by rfl) : p := h
theorem Z {α : Sort _} {a : α} : a = a := rfl
def M2 := @Option.some.inj
theorem M6 {α : Type} {l : List α} {i : Nat} {a : α} (h : l[i]? = some a) : ∃ w : i < l.length, l[i] = a := List.getElem?_eq_some_iff.1 h
def M8 := @List.length_append
def Nb := @List.length_drop
def Nd := @List.append_assoc
def Ng := @List.length_cons
def Nm := @List.nil_append
def Nn := @Nat.zero_le
def Np := @List.length_take
def Nu := @Int.toNat_natCast
def Nx := @List.append_nil
def NA := @Nat.le_refl
def NM := @List.drop_drop
def N8 := @List.length_nil
def Qe := @Tryz.ntmps144
def Qm := @Tryz.func144
def QM := @if_pos
def QO := @if_neg
structure Fr (F:Nat->Prop) (w w':World):Prop where
 os:w'.os=w.os
 tape:w'.tape=w.tape
 output:w'.output=w.output
 size:w.heap.size<=w'.heap.size
 block: ∀ k,k<w.heap.size-> ¬ F k->w'.heap[k]? = w.heap[k]?
theorem Fr.refl (F:Nat->Prop) (w:World):Fr F w w:=⟨rfl,rfl,rfl,NA _,fun _ _ _=>rfl⟩
theorem Fr.trans {F G:Nat->Prop} {a b c:World} (h:Fr F a b) (k:Fr G b c) (hg: ∀ k,G k->F k\/a.heap.size<=k):Fr F a c :=
 ⟨k.os.trans h.os,k.tape.trans h.tape,k.output.trans h.output,Nat.le_trans h.size k.size,fun i hi hn =>
  (k.block i (Nat.lt_of_lt_of_le hi h.size) (fun d=>(hg i d).elim hn (fun e=>by omega))).trans (h.block i hi hn)⟩
theorem LQ {F:Nat->Prop} {w w':World} (h:Below w.heap.size w w'):Fr F w w':=⟨h.os,h.tape,h.output,h.size,fun k hk _=>h.block k hk⟩
theorem Fr.below {w w':World} (h:Fr (fun _=>False) w w'):Below w.heap.size w w':=⟨h.os,h.tape,h.output,h.size,fun k hk=>h.block k hk (fun h=>h)⟩
theorem LY {F:Nat->Prop} {w w':World} {row:Option Nat} (h:w.grownBy w' row) (hr: ∀ k,row=some k->F k):Fr F w w' :=
 ⟨h.os,h.tape,h.output,h.size,fun k hk hn=>h.block k hk (fun e=>hn (hr k e.symm))⟩
theorem Fr.mono {F G:Nat->Prop} {w w':World} (h:Fr F w w') (hg: ∀ k,F k->G k):Fr G w w':=⟨h.os,h.tape,h.output,h.size,fun k hk hn=>h.block k hk (fun a=>hn (hg k a))⟩
theorem Fr.alloc {F:Nat->Prop} {w w':World} (h:Fr F w w') (o:Obj):Fr F w (w'.alloc o) :=
 h.trans (LQ (F:=fun _=>False) ((Below.refl _ _).alloc (NA _) o)) (fun _ h=>h.elim)
theorem Fr.drew {F:Nat->Prop} {w w':World} (h:Fr F w w'):Fr F w w'.drew:=⟨h.os,h.tape,h.output,h.size,h.block⟩
theorem Fr.drewN {F:Nat->Prop} {w w':World} (h:Fr F w w') (n:Nat):Fr F w (w'.drewN n):=⟨h.os,h.tape,h.output,h.size,h.block⟩
theorem Fr.set {F:Nat->Prop} {w w':World} (h:Fr F w w') {p:Addr} (hp:F p.block\/w.heap.size<=p.block) (u:Value):Fr F w (w'.setCell p u) :=
 h.trans (G:=fun k=>k=p.block) ⟨rfl,rfl,rfl,by simp[World.setCell],fun k _ hn=>Below.heap_setCell _ _ _ _ hn⟩ (fun k hk=>by rw[hk]; exact hp)
structure Res where
 P:World->(Nat->Prop)->Prop
 lt: ∀ {w:World} {G:Nat->Prop},P w G-> ∀ k,G k->k<w.heap.size
 move: ∀ {w w':World} {G:Nat->Prop},P w G->(∀ k,G k->w'.heap[k]? = w.heap[k]?)->P w' G
def Sep:List Res->World->(Nat->Prop)->Prop
 | [],_,_=>True
 | R::Rs,w,F=> ∃ G,R.P w G/\(∀ k,G k->F k)/\Sep Rs w (fun k=>F k/\ ¬ G k)
theorem Sep.mono: ∀ {Rs:List Res} {w:World} {F F':Nat->Prop},Sep Rs w F->(∀ k,F k->F' k)->Sep Rs w F'
 | [],_,_,_,_,_=>trivial
 | _ :: _,_,_,_,⟨G,a,b,c⟩,hf=>⟨G,a,fun k hk=>hf k (b k hk),c.mono (fun k hk=>⟨hf k hk.1,hk.2⟩)⟩
theorem Sep.inside: ∀ {Rs:List Res} {w:World} {F:Nat->Prop},Sep Rs w F->Sep Rs w (fun k=>F k/\k<w.heap.size)
 | [],_,_,_=>trivial
 | R :: _,_,_,⟨G,a,b,c⟩=>⟨G,a,fun k hk=>⟨b k hk,R.lt a k hk⟩,c.inside.mono (fun k hk=>⟨⟨hk.1.1,hk.2⟩,hk.1.2⟩)⟩
theorem Sep.move_: ∀ {Rs:List Res} {w w':World} {F:Nat->Prop},Sep Rs w F->(∀ k,F k->w'.heap[k]? = w.heap[k]?)->Sep Rs w' F
 | [],_,_,_,_,_=>trivial
 | R :: _,_,_,_,⟨G,b,a,c⟩,hm=>⟨G,R.move b (fun k hk=>hm k (a k hk)),a,c.move_ (fun k hk=>hm k hk.1)⟩
theorem Sep.move {Rs:List Res} {w w':World} {F:Nat->Prop} (h:Sep Rs w F) (hm: ∀ k,F k->k<w.heap.size->w'.heap[k]? = w.heap[k]?):Sep Rs w' F :=
 (h.inside.move_ (fun k hk=>hm k hk.1 hk.2)).mono (fun _ hk=>hk.1)
theorem Sep.pick: ∀ {Rs:List Res} (i:Nat) {A:Res} {w:World} {F:Nat->Prop},Rs[i]? = some A->Sep Rs w F-> ∃ G,A.P w G/\(∀ k,G k->F k)/\Sep (Rs.eraseIdx i) w (fun k=>F k/\ ¬ G k)
 | [],i,_,_,_,hi,_=>by simp at hi
 | R::Rs,0,A,w,F,hi,h=>by
  have e:R=A:=by simpa using hi
  subst e;exact h
 | R::Rs,i+1,A,w,F,hi,⟨G,b,c,d⟩=>by
  obtain⟨G',f,a,g⟩:=Sep.pick i (by simpa using hi) d;exact⟨G',f,fun k hk=>(a k hk).1,G,b,fun k hk=>⟨c k hk,fun h=>(a k h).2 hk⟩,g.mono (fun k hk=>⟨⟨hk.1.1,hk.2⟩,hk.1.2⟩)⟩
theorem Sep.back: ∀ {Rs:List Res} (i:Nat) {A A':Res} {w:World} {F G:Nat->Prop},Rs[i]? = some A->A'.P w G->(∀ k,G k->F k)->Sep (Rs.eraseIdx i) w (fun k=>F k/\ ¬ G k)->Sep (Rs.set i A') w F
 | [],i,_,_,_,_,_,hi,_,_,_=>by simp at hi
 | R::Rs,0,A,A',w,F,G,hi,a,b,d=>⟨G,a,b,d⟩
 | R::Rs,i+1,A,A',w,F,G,hi,a,b,⟨G',e,c,f⟩ =>
  ⟨G',e,fun k hk=>(c k hk).1,Sep.back i (by simpa using hi) a (fun k hk=>⟨b k hk,fun h=>(c k h).2 hk⟩) (f.mono (fun k hk=>⟨⟨hk.1.1,hk.2⟩,hk.1.2⟩))⟩
theorem Sep.append: ∀ {Ns Rs:List Res} {w:World} {F G:Nat->Prop},Sep Ns w G->Sep Rs w (fun k=>F k/\ ¬ G k)->(∀ k,G k->F k)->Sep (Ns++Rs) w F
 | [],_,_,_,_,_,h,_=>h.mono (fun _ hk=>hk.1)
 | N::Ns,Rs,w,F,G,⟨H,c,b,d⟩,h,hg =>
  ⟨H,c,fun k hk=>hg k (b k hk),Sep.append d (h.mono (fun k hk=>⟨⟨hk.1,fun a=>hk.2 (b k a)⟩,fun a=>hk.2 a.1⟩)) (fun k hk=>⟨hg k hk.1,hk.2⟩)⟩
theorem Sep.one {R:Res} {w:World} {F:Nat->Prop} (h:R.P w F):Sep [R] w F:=⟨F,h,fun _ h=>h,trivial⟩
structure St (F0:Nat->Prop) (w0:World) (Rs:List Res) (w:World):Prop where
 fr:Fr F0 w0 w
 sep:Sep Rs w (fun k=>F0 k\/w0.heap.size<=k)
section
variable {F0:Nat->Prop} {w0 w w':World} {Rs:List Res} {A A':Res}
theorem Lc (F0:Nat->Prop) (w:World) (h:Sep Rs w F0):St F0 w Rs w:=⟨Fr.refl _ _,h.mono (fun _ hk=> .inl hk)⟩
theorem LH (w:World):St (fun _=>False) w [] w:=⟨Fr.refl _ _,trivial⟩
theorem St.drew (h:St F0 w0 Rs w):St F0 w0 Rs w.drew:=⟨h.fr.drew,h.sep.move (fun _ _ _=>rfl)⟩
theorem St.drewN (h:St F0 w0 Rs w) (n:Nat):St F0 w0 Rs (w.drewN n):=⟨h.fr.drewN n,h.sep.move (fun _ _ _=>rfl)⟩
theorem St.drop_ (h:St F0 w0 (A::Rs) w):St F0 w0 Rs w:=by
 obtain⟨f,G,_,_,a⟩:=h;exact⟨f,a.mono (fun _ hk=>hk.1)⟩
theorem St.del (i:Nat) (h:St F0 w0 Rs w) (hi:Rs[i]? = some A):St F0 w0 (Rs.eraseIdx i) w:=by
 obtain⟨f,hs⟩:=h;obtain⟨G,_,_,a⟩:=Sep.pick i hi hs;exact⟨f,a.mono (fun _ hk=>hk.1)⟩
theorem St.weaken (i:Nat) (h:St F0 w0 Rs w) (hi:Rs[i]? = some A) (hA: ∀ G,A.P w G->A'.P w G):St F0 w0 (Rs.set i A') w:=by
 obtain⟨f,hs⟩:=h;obtain⟨G,a,b,c⟩:=Sep.pick i hi hs;exact⟨f,Sep.back i hi (hA _ a) b c⟩
theorem St.get (i:Nat) (h:St F0 w0 Rs w) (hi:Rs[i]? = some A): ∃ G,A.P w G/\(∀ k,G k->F0 k\/w0.heap.size<=k):=by
 obtain⟨G,a,b,_⟩:=Sep.pick i hi h.sep;exact⟨G,a,b⟩
theorem St.step (i:Nat) (h:St F0 w0 Rs w) (hi:Rs[i]? = some A) {Ns:List Res}
 (hs: ∀ G,A.P w G->Fr G w w'/\Sep (A'::Ns) w' (fun k=>G k\/w.heap.size<=k)):St F0 w0 (Ns++Rs.set i A') w':=by
 obtain⟨f,hp⟩:=h;obtain⟨G,g,b,j⟩:=Sep.pick i hi hp;obtain⟨c,n,l,d,m⟩:=hs G g;refine⟨f.trans c b,?_⟩;have hle:=f.size;have hR:Sep (Rs.eraseIdx i) w' (fun k=>((F0 k\/w0.heap.size<=k)/\ ¬ G k)/\k<w.heap.size):=j.inside.move (fun k hk _=>c.block k hk.2 hk.1.2);refine Sep.append m (F:=fun k=>F0 k\/w0.heap.size<=k) (Sep.back i hi l (fun k hk=>⟨?_,fun hn=>hn.2 hk⟩) (hR.mono (fun k hk=>⟨⟨hk.1.1,?_⟩,?_⟩))) ?_
 ·rcases d k hk with a | a
  ·exact b k a
  ·exact .inr QI
 ·rintro⟨a | a,_⟩
  ·exact hk.1.2 a
  ·have:=hk.2; omega
 ·intro a;rcases d k a with e | e
  ·exact hk.1.2 e
  ·have:=hk.2; omega
 ·rintro k ⟨a | a,_⟩
  ·exact b k a
  ·exact .inr QI
theorem St.grow (h:St F0 w0 Rs w) {Ns:List Res} (a:Fr (fun _=>False) w w') (b:Sep Ns w' (fun k=>w.heap.size<=k)):St F0 w0 (Ns++Rs) w':=by
 obtain⟨f,hp⟩:=h;have hle:=f.size;refine⟨f.trans a (fun _ h=>h.elim),Sep.append b ((hp.inside.move (fun k hk _=>a.block k hk.2 (fun h=>h))).mono (fun k hk=>⟨hk.1,by have:=hk.2; omega⟩)) (fun k hk=> .inr QI)⟩
theorem St.below (h:St (fun _=>False) w0 Rs w):Below w0.heap.size w0 w:=h.fr.below
end
def aR (b:Nat) (T:TypeId) (cs:Array Value):Res where
 P:=fun w G=>w.heap[b]? = some (.cells cs T (0,0))/\ ∀ k,G k↔k=b
 lt:=fun h k hk=>by
  rw[(h.2 k).1 hk];exact (Array.getElem?_eq_some_iff.1 h.1).1
 move:=fun h hm=>⟨(hm _ ((h.2 _).2 rfl)).trans h.1,h.2⟩
section
variable {F0:Nat->Prop} {w0 w w':World} {Rs:List Res} {b:Nat} {T:TypeId} {cs:Array Value}
theorem bp (h:w.heap[b]? = some (.cells cs T (0,0))) (i:Nat):w.cell? ⟨b,i,none⟩=cs[i]? := cell_of_row w b i cs T (0,0) h
theorem bZ (h:w.heap[b]? = some (.cells cs T (0,0))) (i:Nat):w.frozen? ⟨b,i,none⟩=false:=by simp[World.frozen?,h]
theorem oa (h:w.heap[b]? = some (.cells cs T (0,0))) (i:Nat) (u:Value):(w.setCell ⟨b,i,none⟩ u).heap[b]? = some (.cells (cs.setIfInBounds i u) T (0,0)):=by
 simp[World.setCell,Array.getElem?_modify,h]
theorem lx {o:Obj} (h:w.heap[b]? = some o):b<w.heap.size:=(Array.getElem?_eq_some_iff.1 h).1
theorem St.blk (i:Nat) (h:St F0 w0 Rs w) (hi:Rs[i]? = some (aR b T cs)):w.heap[b]? = some (.cells cs T (0,0)):=by
 obtain⟨G,a,_⟩:=h.get i hi;exact a.1
theorem St.alloc (h:St F0 w0 Rs w) (cs:Array Value) (T:TypeId):St F0 w0 (aR w.heap.size T cs::Rs) (w.alloc (.cells cs T)) :=
 h.grow (Ns := [aR w.heap.size T cs]) (LQ ((Below.refl _ _).alloc (NA _) _)) ⟨fun k=>k=w.heap.size,⟨heap_alloc_new w _,fun _=>Iff.rfl⟩,fun k hk=>by omega,trivial⟩
theorem St.set (i:Nat) (h:St F0 w0 Rs w) (hi:Rs[i]? = some (aR b T cs)) (j:Nat) (u:Value):St F0 w0 (Rs.set i (aR b T (cs.setIfInBounds j u))) (w.setCell ⟨b,j,none⟩ u):=by
 refine h.step i hi (Ns := []) (fun G hG=>⟨?_,G,⟨oa hG.1 j u,hG.2⟩,fun k hk=> .inl hk,trivial⟩);exact (Fr.refl G w).set (p:=⟨b,j,none⟩) (.inl ((hG.2 b).2 rfl)) u
end
def rY (Q:Value->Res->List Res->Prop) (F:Nat->Prop) (w:World) (e:Ending) (w':World):Prop:= ∃ v A' Ns,e= .returned v/\Q v A' Ns/\St F w (A'::Ns) w'
def Post0 (Q:Value->List Res->Prop) (w:World) (e:Ending) (w':World):Prop:= ∃ v Ns,e= .returned v/\Q v Ns/\St (fun _=>False) w Ns w'
def hN (P:Program) (f:FuncId) (args:Array Value) (A:Res) (Q:Value->Res->List Res->Prop):Prop :=
 ∀ F w,A.P w F->Calls P f args w (rY Q F w)
def mf (P:Program) (f:FuncId) (args:Array Value) (Q:Value->List Res->Prop):Prop :=
 ∀ w,Calls P f args w (Post0 Q w)
section
variable {P:Program} {f:FuncId} {args:Array Value} {F0:Nat->Prop} {w0 w:World} {Rs:List Res} {A:Res}
theorem St.call {Q:Value->Res->List Res->Prop} (i:Nat) (h:St F0 w0 Rs w) (hi:Rs[i]? = some A) (hs:hN P f args A Q) :
 Calls P f args w fun e w'=> ∃ v A' Ns,e= .returned v/\Q v A' Ns/\St F0 w0 (Ns++Rs.set i A') w':=by
 obtain⟨o,hG0,hsub⟩:=h.get i hi;obtain⟨G,j,b,l⟩:=Sep.pick i hi h.sep;refine (hs G w j).mono ?_;rintro e w' ⟨v,A',Ns,rfl,hq,hst⟩;refine⟨v,A',Ns,rfl,hq,?_⟩;obtain⟨c,p,m,d,n⟩:=hst;have f:=h.fr;refine⟨f.trans c b,?_⟩;have hle:=f.size;have hR:Sep (Rs.eraseIdx i) w' (fun k=>((F0 k\/w0.heap.size<=k)/\ ¬ G k)/\k<w.heap.size):=l.inside.move (fun k hk _=>c.block k hk.2 hk.1.2);refine Sep.append n (F:=fun k=>F0 k\/w0.heap.size<=k) (Sep.back i hi m (fun k hk=>⟨?_,fun hn=>hn.2 hk⟩) (hR.mono (fun k hk=>⟨⟨hk.1.1,?_⟩,?_⟩))) ?_
 ·rcases d k hk with a | a
  ·exact b k a
  ·exact .inr QI
 ·rintro⟨a | a,_⟩
  ·exact hk.1.2 a
  ·have:=hk.2; omega
 ·intro a;rcases d k a with g | g
  ·exact hk.1.2 g
  ·have:=hk.2; omega
 ·rintro k ⟨a | a,_⟩
  ·exact b k a
  ·exact .inr QI
theorem LG {Q:Value->List Res->Prop} (h:St F0 w0 Rs w) (hs:mf P f args Q) :
 Calls P f args w fun e w'=> ∃ v Ns,e= .returned v/\Q v Ns/\St F0 w0 (Ns++Rs) w':=by
 refine (hs w).mono ?_;rintro e w' ⟨v,Ns,rfl,hq,hst⟩;refine⟨v,Ns,rfl,hq,h.grow hst.fr (hst.sep.mono (fun k hk=>hk.elim (fun h=>h.elim) id))⟩
end
def bR (l:AI):List Value:=l.map fun b=>Value.int .u8 b.toNat
theorem kZ (l m:AI):bR (l++m)=bR l++bR m:=by simp[bR]
theorem rJ (s:ByteArray):Lib.strCells s=bR s.data.toList:=rfl
section
variable {P:Program} (w:World)
theorem yp (t u ty e:TypeId) (i:TypeInfo) (ht:P.underlying t=some (.slice e)) (hu:P.underlying u=some .string) (hi:P.info? e=some i) (hz:i.zero=some (.int .u8 0))
 (hsize:i.size=1) (hby:i.bytes=1)
 (v:Value) (n:Nat) (xs:List Value) (hown:w.ownsRow 0 e 1 v n xs) (s:ByteArray) (hbytes:n+s.size<=140737488355328) :
 ∃ v' w',(Builtin.append_ #[t,u] ty #[v,.string s]).run P w= .ok v' w'/\w'.ownsRow 0 e 1 v' (n+s.size) (xs++Lib.strCells s)/\w.grownBy w' v.ownBlock /\
  (v'.ownBlock=v.ownBlock\/v'.ownBlock=some w.heap.size):=by
 obtain⟨v',w',hr,a,b,c⟩:=Lib.run_append_own_string (P:=P) w 0 t u ty e i ht hu hi hz hsize hby v n xs hown s (by simp only[maxLen]; omega) hbytes (Nn _);refine⟨v',w',hr,a,b,?_⟩;rcases hown.2 with⟨rfl,rfl⟩ | ⟨g,cap,cur,rfl,hbg,hg,hnc,hcm,hcs,htake⟩
 ·by_cases hm:s.size=0
  ·left;rw[c.2 ⟨rfl,hm⟩]
  ·right;have hr2:=run_append_nil_string (P:=P) w t u ty e i (.int .u8 0) ht hu hi hz s QI QI (by rw[hby]; omega);rw[hr] at hr2;injection hr2 with hv _;rw[hv];rfl
 ·by_cases hroom:n+s.size<=cap
  ·left;have hcs':cur.size=cap:=by simpa using hcs
   have hr2:=Lib.run_append_room_string (P:=P) w t u ty e i ht hu hi hsize g n cap cur hg s hroom QI;rw[hr] at hr2;injection hr2 with hv _;rw[hv];rfl
  ·right;have hxl:xs.length=n:=by simpa using hown.1
   have holds: ∀ j u,xs[j]? = some u->w.cell? ((⟨g,0,none⟩:Addr).add j)=some u:=hown.cells (g:=g) rfl;have hr2:=Lib.run_append_grow_string (P:=P) w t u ty e i (.int .u8 0) ht hu hi hz ⟨g,0,none⟩ n cap xs (by rw[hsize]; simpa using hxl) holds s QI QI (by rw[hby]; exact growslice_fits QI QI);rw[hr] at hr2;injection hr2 with hv _;rw[hv];rfl
theorem ob {ops:Array Oper} {rest:List Oper} {o:Oper} {a:Act} {Q:Exit->Act->World->Prop} (hgd:o.guard=none) (sl x:Operand) (t u:TypeId)
 (ho:o.op= .call { callee:= .builtin .append,args:= #[sl,x],argTypes:= #[t,u] })
 (e:TypeId) (ht:P.underlying t=some (.slice e)) (hu:P.underlying u=some .string) (hinfo:(P.info? e).map (fun i=>(i.zero,i.size,i.bytes))=some (some (.int .u8 0),1,1))
 (v:Value) (n:Nat) (xs:List Value) (hs:a.eval sl=v) (hown:w.ownsRow 0 e 1 v n xs) (s:ByteArray) (hx:a.eval x= .string s) (hbytes:n+s.size<=140737488355328)
 (h: ∀ v' w',w'.ownsRow 0 e 1 v' (n+s.size) (xs++Lib.strCells s)->w.grownBy w' v.ownBlock->(v'.ownBlock=v.ownBlock\/v'.ownBlock=some w.heap.size)->wpList P ops Q rest (a.put o.dst v') w'):wpList P ops Q (o::rest) a w:=by
 obtain⟨i,hi,hzz⟩:=Option.map_eq_some_iff.1 hinfo;simp only[Prod.mk.injEq] at hzz;refine wpList_plain hgd fun K hK=> ?_;obtain⟨v',w',hr,b,c,d⟩:=yp (P:=P) w t u o.type e i ht hu hi hzz.1 hzz.2.1 hzz.2.2 v n xs hown s hbytes;unfold Oper.wp execOp;simp only[ho,resolve,invoke,builtin,Sem.run_bind,Sem.run_pure,Result.andThen_ok,List.map_toArray,List.map_cons,List.map_nil,hs,hx,hr];exact hK _ _ (h v' w' b c d)
theorem tE {ops:Array Oper} {rest:List Oper} {o:Oper} {a:Act} {Q:Exit->Act->World->Prop} (hgd:o.guard=none) (sl x:Operand) (t:TypeId)
 (ho:o.op= .call { callee:= .builtin .append,args:= #[sl,x],argTypes:= #[t,t] })
 (e:TypeId) (z:Value) (bytes:Nat) (ht:P.underlying t=some (.slice e)) (hinfo:(P.info? e).map (fun i=>(i.zero,i.size,i.bytes))=some (some z,1,bytes)) (hz:z.cells.size=1)
 (v:Value) (n:Nat) (xs:List Value) (hs:a.eval sl=v) (hown:w.ownsRow 0 e 1 v n xs) (y:Value) (hy:y.oneCell'=true) (hx:a.eval x= .slice (some ⟨w.heap.size,0,none⟩) 1 1)
 (hbytes:(n+1)*bytes<=140737488355328) (hmax:n+1<=140737488355328)
 (h: ∀ v' w',w'.ownsRow 0 e 1 v' (n+1) (xs ++ [y])->w.grownBy w' v.ownBlock->(v'.ownBlock=v.ownBlock\/ ∃ k,v'.ownBlock=some k/\w.heap.size<=k)->wpList P ops Q rest (a.put o.dst v') w') :
 wpList P ops Q (o::rest) a (w.alloc (.cells #[y] e)):=by
 obtain⟨i,hi,hzz⟩:=Option.map_eq_some_iff.1 hinfo;simp only[Prod.mk.injEq] at hzz;obtain⟨b,c,d⟩:=hzz;refine wpList_append_own_at (w.alloc (.cells #[y] e)) hgd sl x t ho 0 e i z 1 bytes ht hi b c d hz QI v n xs hs (hown.alloc _) ⟨w.heap.size,0,none⟩ 1 1 [y] hx rfl
  (by simpa using World.news_of_block (cs:= #[y]) (t:=e) (fr:=(0,0)) (heap_alloc_new w (.cells #[y] e))) (by simpa using hy) (by simp only[maxLen]; omega) hbytes (Nn _) ?_
 intro v' w' hown' hg _ hat;refine h v' w' hown' (World.grownBy.trans (World.grownBy_alloc w _ _) hg) ?_;rcases hat with hat | hat
 ·exact .inl hat
 ·exact .inr ⟨_,hat,by simp⟩
theorem wA (w:World) {src dst e:TypeId} {v:Value} {l:AI} {n:Nat} (hs:P.underlying src=some (.slice e)) (he:P.underlying e=some (.int .u8)) (hd:P.underlying dst=some .string)
 (h:w.ownsRow 0 e 1 v n (bR l)):(convert src dst v).run P w= .ok (.string ⟨l.toArray⟩) w:=by
 have hl:l.length=n:=by have:=h.1; simp[bR] at this; exact this
 have hstr:strOfNums (l.map fun b=>(b.toNat:Int))=⟨l.toArray⟩:=by
  unfold strOfNums;congr 1;simp[List.map_map,Function.comp_def]
 rcases h.2 with⟨rfl,rfl⟩ | ⟨g,cap,cur,rfl,_⟩
 ·obtain rfl:l = []:=List.eq_nil_of_length_eq_zero hl;exact run_convert_bytes_nil w src e hs he 0 0 dst hd
 ·rw[<- hstr];refine run_convert_bytes_arg w src e hs he g 0 n cap _ (by simpa using hl) (fun i hi=> ?_) dst hd;have hc:=h.cells (g:=g) rfl i (.int .u8 ((l.map fun b=>(b.toNat:Int)).getD i 0)) (by simp[bR,List.getElem?_eq_getElem (show i<l.length by omega),List.getD_eq_getElem?_getD]);have ha:(⟨g,0,none⟩:Addr).add i=⟨g,0+i,none⟩:=by unfold Addr.add; split <;> simp_all
  rwa [ha] at hc
theorem o5 {w:World} {e t:TypeId} {size n b:Nat} {v:Value} {xs:List Value} {cs:Array Value} (h:w.ownsRow 0 e size v n xs) (hg:w.heap[b]? = some (.cells cs t (0,0))) (hne:e≠t):some b≠v.ownBlock:=by
 rcases h.2 with⟨rfl,_⟩ | ⟨g',cap,cur,rfl,_,hh,_⟩
 ·simp[Value.ownBlock]
 ·intro he;have:b=g':=by simpa [Value.ownBlock] using he
  subst this;rw[hg] at hh;injection hh with hh;injection hh with _ ht;exact hne ht.symm
theorem zX {w:World} {e:TypeId} {size n:Nat} {v:Value} {xs:List Value} (h:w.ownsRow 0 e size v n xs) {p:Addr} (hne:some p.block≠v.ownBlock) (u:Value):(w.setCell p u).ownsRow 0 e size v n xs:=by
 obtain⟨b,a⟩:=h;refine⟨b,?_⟩;rcases a with a | ⟨g,cap,cur,rfl,hg,hh,r⟩
 ·exact .inl a
 ·exact .inr ⟨g,cap,cur,rfl,hg,by rw[Below.heap_setCell _ _ _ _ (fun e=>hne (by rw[e]; rfl))]; exact hh,r⟩
theorem sH {w w':World} {e:TypeId} {size n:Nat} {v:Value} {xs:List Value} (h:w.ownsRow 0 e size v n xs) (hm: ∀ k,v.ownBlock=some k->w'.heap[k]? = w.heap[k]?):w'.ownsRow 0 e size v n xs:=by
 obtain⟨b,a⟩:=h;refine⟨b,?_⟩;rcases a with a | ⟨g,cap,cur,rfl,hg,hh,r⟩
 ·exact .inl a
 ·exact .inr ⟨g,cap,cur,rfl,hg,(hm g rfl).trans hh,r⟩
theorem oc {w:World} {e:TypeId} {size n:Nat} {v:Value} {xs:List Value} (h:w.ownsRow 0 e size v n xs): ∃ a c,v= .slice a n c:=by
 rcases h.2 with⟨rfl,rfl⟩ | ⟨g,cap,cur,rfl,_⟩
 ·exact⟨none,0,rfl⟩
 ·exact⟨_,cap,rfl⟩
theorem zY {w:World} {e:TypeId} {size n:Nat} {v:Value} {xs:List Value} (h:w.ownsRow 0 e size v n xs): ∀ k,v.ownBlock=some k->k<w.heap.size:=fun k hk=>(h.lt k hk).2
end
section
variable {P:Program}
theorem tF {ops:Array Oper} {rest:List Oper} {o:Oper} {a:Act} {w:World} {Q:Exit->Act->World->Prop} (hgd:o.guard=none) (ty:TypeId) (x y:Operand) (ho:o.op= .store ty x y)
 (t:TypeId) (c c':Array Value) (hx:a.eval x= .pointer (some ⟨w.heap.size,0,none⟩)) (hy:a.eval y= .agg c')
 (hi:(P.info? ty).map (·.size)=some c'.size) (hs:c.size=c'.size) (b:c'.all (·.oneCell')=true)
 (h:wpList P ops Q rest (a.put o.dst undef) (w.alloc (.cells c' t))):wpList P ops Q (o::rest) a (w.alloc (.cells c t)):=by
 refine wpList_plain hgd fun K hK=> ?_;have hr:(Instr.storeAt ty (.pointer (some ⟨w.heap.size,0,none⟩)) (.agg c')).run P (w.alloc (.cells c t))= .ok () (w.alloc (.cells c' t)):=by
  simp only[Instr.storeAt,Instr.sureAddr,Sem.run_bind,Sem.run_pure,Result.andThen];rw[run_storeVar_row _ _ t ty c c' (heap_alloc_last w _) hi hs b,World.setRow_alloc_new]
 unfold Oper.wp execOp;simp only[ho,hx,hy,hr,Sem.run_bind,Sem.run_pure,Result.andThen_ok];exact hK _ _ h
end
section
variable {F0:Nat->Prop} {w0 w w1:World} {Rs:List Res} {T:TypeId} {size n:Nat} {v v1:Value} {xs ys:List Value}
end
open Go.RowKit Go.Deep Go.ChangeShapes
structure Rd (α:Type) where
 P:World->(Nat->Prop)->List Value->α->Prop
 mono: ∀ {w:World} {S S':Nat->Prop} {cs:List Value} {a:α},P w S cs a->(∀ k,S k->S' k)->P w S' cs a
 move: ∀ {w w':World} {S:Nat->Prop} {cs:List Value} {a:α},P w S cs a->(∀ k,S k->w'.heap[k]? = w.heap[k]?)->P w' S cs a
def intRd (q:IntKind):Rd Int where
 P:=fun _ _ cs n=>cs = [.int q n]/\(Lit.int q n).wf=true
 mono:=fun h _=>h
 move:=fun h _=>h
def rowAt {α:Type} (size:Nat) (E:Rd α) (w:World) (S:Nat->Prop) (a:Addr) (l:List α):Prop :=
 ∀ i x,l[i]? = some x-> ∃ cs,cs.length=size/\(∀ j,j<size->w.cell? (a.add (i*size+j))=cs[j]?)/\E.P w S cs x
def ar {α:Type} (size:Nat) (E:Rd α):Rd (List α) where
 P:=fun w S cs l=>(cs = [.slice none 0 0]/\l = [])\/ ∃ a cap,cs = [.slice (some a) l.length cap]/\l.length<=cap/\cap<=maxLen/\(0<l.length->S a.block)/\rowAt size E w S a l
 mono:=by
  rintro w S S' cs l (h | ⟨a,cap,c,d,e,b,f⟩) hS
  ·exact .inl h
  ·refine .inr ⟨a,cap,c,d,e,fun h=>hS _ (b h),fun i x hx=> ?_⟩;obtain⟨cs,g,k,m⟩:=f i x hx;exact⟨cs,g,k,E.mono m hS⟩
 move:=by
  rintro w w' S cs l (h | ⟨a,cap,c,d,e,b,f⟩) hS
  ·exact .inl h
  ·refine .inr ⟨a,cap,c,d,e,b,fun i x hx=> ?_⟩;obtain⟨cs,g,k,m⟩:=f i x hx;refine⟨cs,g,fun j hj=> ?_,E.move m hS⟩;rw[<- k j hj];have hb:(a.add (i*size+j)).block=a.block:=block_add _ _;have hl:0<l.length:=by have:=(M6 hx).1; omega
   simp only[World.cell?,hb,hS _ (b hl)]
theorem tG {w:World} {b:Addr} {v:Value} (h:w.cell? b=some v):b=⟨b.block,b.off,none⟩:=by
 obtain⟨g,o,s⟩:=b
 cases s with
 | none=>rfl
 | some s =>
  simp only[World.cell?] at h;split at h <;> simp at h
section
variable {H:Type} (enc:TypeId×Value->H) (P:Program)
def Opens {α:Type} (t:TypeId) (E:Rd α):Prop :=
 ∀ (w:World) (fuel:Nat) (cs:List Value) (x:DataW H×List MemPlace),DataW.trod enc P w 0 (fun _=>true) true fuel t cs=some x-> ∃ a,E.P w (fun k=>k<w.heap.size) cs a
variable {enc P}
theorem Fi {t:TypeId} {q:IntKind} (ht:P.underlying t=some (.int q)):Opens enc P t (intRd q):=by
 intro w fuel cs x h;obtain⟨n,rfl,_,hw⟩:=DataW.trod_int ht h;exact⟨n,rfl,hw⟩
variable (enc P) in
end
structure RX where
 P:World->(Nat->Prop)->Prop
 mono: ∀ {w:World} {S S':Nat->Prop},P w S->(∀ k,S k->S' k)->P w S'
 move: ∀ {w w':World} {S:Nat->Prop},P w S->(∀ k,S k->w'.heap[k]? = w.heap[k]?)->P w' S
def RX.triv:RX:=⟨fun _ _=>True,fun _ _=>trivial,fun _ _=>trivial⟩
def RX.and (X Y:RX):RX:=⟨fun w S=>X.P w S/\Y.P w S,fun h k=>⟨X.mono h.1 k,Y.mono h.2 k⟩,fun h k=>⟨X.move h.1 k,Y.move h.2 k⟩⟩
def RX.of {α:Type} (E:Rd α) (cs:List Value) (a:α):RX:=⟨fun w S=>E.P w S cs a,fun h k=>E.mono h k,fun h k=>E.move h k⟩
def RX.reads (X:RX) (w:World) (F:Nat->Prop):Prop:= ∃ S,X.P w S/\ ∀ k,S k-> ¬ F k/\k<w.heap.size
theorem Ku (w:World) (F:Nat->Prop):RX.triv.reads w F:=⟨fun _=>False,trivial,fun _ h=>h.elim⟩
theorem La {X Y:RX} {w:World} {F:Nat->Prop} (h:X.reads w F) (k:Y.reads w F):(X.and Y).reads w F:=by
 obtain⟨S,a,b⟩:=h;obtain⟨T,c,d⟩:=k;exact⟨fun k=>S k\/T k,⟨X.mono a (fun _ h=> .inl h),Y.mono c (fun _ h=> .inr h)⟩,fun k hk=>hk.elim (b k) (d k)⟩
theorem K8 {X Y:RX} {w:World} {F:Nat->Prop} (h:(X.and Y).reads w F):X.reads w F:=let ⟨S,a,b⟩:=h; ⟨S,a.1,b⟩
theorem KP {X Y:RX} {w:World} {F:Nat->Prop} (h:(X.and Y).reads w F):Y.reads w F:=let ⟨S,a,b⟩:=h; ⟨S,a.2,b⟩
theorem RX.reads_weaken {X:RX} {w:World} {F G:Nat->Prop} (h:X.reads w F) (hg: ∀ k,k<w.heap.size->G k->F k):X.reads w G:=let ⟨S,b,a⟩:=h; ⟨S,b,fun k hk=>⟨fun g=>(a k hk).1 (hg k (a k hk).2 g),(a k hk).2⟩⟩
def aI:Res where
 P:=fun _ G=> ∀ k,¬ G k
 lt:=fun h k hk=>(h k hk).elim
 move:=fun h _=>h
def RdR {α:Type} (E:Rd α) (cs:List Value) (a:α):Res where
 P:=fun w G=>E.P w G cs a/\ ∀ k,G k->k<w.heap.size
 lt:=fun h k hk=>h.2 k hk
 move:=fun {w w'} {G} h hm=>⟨E.move h.1 hm,fun k hk=>by
  have c:=h.2 k hk;have b:=hm k hk;rw[Array.getElem?_eq_getElem c] at b;exact (Array.getElem?_eq_some_iff.1 b).1⟩
def aB (P:Program) (f:FuncId) (args:Array Value) (X:RX) (A:Res) (Q:Value->Res->List Res->Prop):Prop :=
 ∀ F w,A.P w F->X.reads w F->Calls P f args w (rY Q F w)
section
variable {P:Program} {f:FuncId} {args:Array Value} {F0:Nat->Prop} {w0 w:World} {Rs:List Res} {A B:Res} {X Y:RX}
theorem KY {Q:Value->Res->List Res->Prop} (h:hN P f args A Q):aB P f args X A Q:=fun F w hA _=>h F w hA
theorem L9 {Q:Value->List Res->Prop} (h:mf P f args Q):aB P f args X aI (fun v A' N=>A'=aI/\Q v N):=by
 intro F w hA _;refine (h w).mono ?_;rintro e w' ⟨v,Ns,rfl,hq,hst⟩;refine⟨v,aI,Ns,rfl,⟨rfl,hq⟩,⟨hst.fr.mono (fun k h=>h.elim),fun _=>False,fun k h=>h,fun k h=>h.elim,hst.sep.mono (fun k hk=> ?_)⟩⟩;exact⟨hk.elim (fun h=>h.elim) .inr,fun h=>h⟩
theorem Lt {v:Value} (h:mf P f args (fun u N=>u=v/\N = [])):aB P f args X aI (fun u A' N=>u=v/\A'=aI/\N = []):=by
 intro F w hA hX;refine ((L9 (X:=X) h) F w hA hX).mono ?_;rintro e w' ⟨v,A',Ns,rfl,⟨rfl,rfl,rfl⟩,hst⟩;exact⟨_,_,_,rfl,⟨rfl,rfl,rfl⟩,hst⟩
theorem KM {v:Value} (h: ∀ w,Calls P f args w fun e w'=>e= .returned v/\w=w'):aB P f args X aI (fun v' A' N=>v'=v/\A'=aI/\N = []):=by
 intro F w hA _;refine (h w).mono ?_;rintro e w' ⟨rfl,rfl⟩;exact⟨v,aI,[],rfl,⟨rfl,rfl,rfl⟩,Fr.refl _ _,fun _=>False,fun k h=>h,fun k h=>h.elim,trivial⟩
def Src (F0:Nat->Prop) (w0:World) (Rs:List Res) (w:World) (i:Nat) (X:RX):Prop :=
 ∀ A G,Rs[i]? = some A->A.P w G->(∀ k,G k->F0 k\/w0.heap.size<=k)->Sep (Rs.eraseIdx i) w (fun k=>(F0 k\/w0.heap.size<=k)/\ ¬ G k)->X.reads w G
theorem Src.triv (i:Nat):Src F0 w0 Rs w i .triv:=fun _ _ _ _ _ _=>Ku _ _
theorem Src.and {i:Nat} (h:Src F0 w0 Rs w i X) (k:Src F0 w0 Rs w i Y):Src F0 w0 Rs w i (X.and Y):=fun A G a b c d=>La (h A G a b c d) (k A G a b c d)
theorem Ma (h:St F0 w0 Rs w) (hX:X.reads w0 F0): ∃ S,X.P w S/\ ∀ k,S k-> ¬ F0 k/\k<w0.heap.size:=by
 obtain⟨S,b,a⟩:=hX;exact⟨S,X.move b (fun k hk=>h.fr.block k (a k hk).2 (a k hk).1),a⟩
theorem LI {i:Nat} (h:St F0 w0 Rs w) (hX:X.reads w0 F0):Src F0 w0 Rs w i X:=by
 intro A G _ _ c _;obtain⟨S,d,a⟩:=Ma h hX;refine⟨S,d,fun k hk=>⟨fun hg=> ?_,Nat.lt_of_lt_of_le (a k hk).2 h.fr.size⟩⟩;rcases c k hg with b | b
 ·exact (a k hk).1 b
 ·have:=(a k hk).2; omega
theorem Src.res {i:Nat} (j:Nat) (hj:(Rs.eraseIdx i)[j]? = some B) (hB: ∀ w G,B.P w G->X.P w G):Src F0 w0 Rs w i X:=by
 intro A G _ _ _ c;obtain⟨a,b,d,_⟩:=Sep.pick j hj c;exact⟨a,hB w a b,fun k hk=>⟨(d k hk).2,B.lt b k hk⟩⟩
theorem KL (h:St F0 w0 Rs w) (hX:X.reads w0 F0):X.reads w (fun _=>False):=by
 obtain⟨S,a,b⟩:=Ma h hX;exact⟨S,a,fun k hk=>⟨fun h=>h,Nat.lt_of_lt_of_le (b k hk).2 h.fr.size⟩⟩
theorem SrcE.res (j:Nat) (h:St F0 w0 Rs w) (hj:Rs[j]? = some B) (hB: ∀ w G,B.P w G->X.P w G):X.reads w (fun _=>False):=by
 obtain⟨G,a,_⟩:=h.get j hj;exact⟨G,hB w G a,fun k hk=>⟨fun h=>h,B.lt a k hk⟩⟩
theorem St.callX {Q:Value->Res->List Res->Prop} (i:Nat) (h:St F0 w0 Rs w) (hi:Rs[i]? = some A) (hs:aB P f args X A Q) (hr:Src F0 w0 Rs w i X) :
 Calls P f args w fun e w'=> ∃ v A' Ns,e= .returned v/\Q v A' Ns/\St F0 w0 (Ns++Rs.set i A') w':=by
 obtain⟨G,c,b,d⟩:=Sep.pick i hi h.sep;refine (hs G w c (hr A G hi c b d)).mono ?_;rintro e w' ⟨v,A',Ns,rfl,hq,hst⟩;refine⟨v,A',Ns,rfl,hq,?_⟩;obtain⟨g,o,m,j,n⟩:=hst;have f:=h.fr;refine⟨f.trans g b,?_⟩;have hle:=f.size;have hR:Sep (Rs.eraseIdx i) w' (fun k=>((F0 k\/w0.heap.size<=k)/\ ¬ G k)/\k<w.heap.size):=d.inside.move (fun k hk _=>g.block k hk.2 hk.1.2);refine Sep.append n (F:=fun k=>F0 k\/w0.heap.size<=k) (Sep.back i hi m (fun k hk=>⟨?_,fun hn=>hn.2 hk⟩) (hR.mono (fun k hk=>⟨⟨hk.1.1,?_⟩,?_⟩))) ?_
 ·rcases j k hk with a | a
  ·exact b k a
  ·exact .inr QI
 ·rintro⟨a | a,_⟩
  ·exact hk.1.2 a
  ·have:=hk.2; omega
 ·intro a;rcases j k a with l | l
  ·exact hk.1.2 l
  ·have:=hk.2; omega
 ·rintro k ⟨a | a,_⟩
  ·exact b k a
  ·exact .inr QI
theorem St.emp (h:St F0 w0 Rs w):St F0 w0 (aI::Rs) w:=h.grow (Ns := [aI]) (Fr.refl _ _) ⟨fun _=>False,fun _ h=>h,fun _ h=>h.elim,trivial⟩
theorem St.callE {Q:Value->Res->List Res->Prop} (h:St F0 w0 Rs w) (hs:aB P f args X aI Q) (hr:X.reads w (fun _=>False)) :
 Calls P f args w fun e w'=> ∃ v A' Ns,e= .returned v/\Q v A' Ns/\St F0 w0 (Ns++Rs) w':=by
 have h':St F0 w0 (aI::Rs) w:=h.emp;refine (h'.callX 0 rfl hs ?_).mono ?_
 ·intro A G hA hG _ _;have e:aI=A:=by simpa using hA
  subst e;exact RX.reads_weaken hr (fun k _ hk=>(hG k hk).elim)
 ·rintro e w' ⟨v,A',Ns,rfl,hq,hst⟩;refine⟨v,A',Ns,rfl,hq,?_⟩;have:=hst.del Ns.length (A:=A') (by simp)
  rwa [List.eraseIdx_append_of_length_le (NA _),Nat.sub_self] at this
theorem aj {α:Type} {c:Prop} [Decidable c] {T:Option α} {r:α} (h:(if c then T else none)=some r):c/\T=some r:=by
 by_cases hc:c
 ·rw[QM hc] at h; exact⟨hc,h⟩
 ·rw[QO hc] at h; cases h
theorem aB.start (h:A.P w F0):St F0 w [A] w:=Lc F0 w (Sep.one h)
end
def resv (tmps:Array Value):ResultVar->Sem Value
 | .tmp t=>pure (tmps.getD t undef)
 | .cell a t=>do loadVar t (<- asAddr (tmps.getD a undef))
section
variable {P:Program} {fn:Func} {tmps:Array Value} {w:World} {r1 r2 r3:ResultVar} {v1 v2 v3:Value}
theorem o6 (fn:Func) (tmps:Array Value):results fn tmps=(do let vs <- fn.results.mapM (resv tmps); pure (if h:vs.size=1 then vs[0] else .tuple vs)):=by
 unfold results;rfl
end
set_option linter.unusedSimpArgs false
def bz (b:Nat) (st:AI×Int):Res where
 P:=fun w G=> ∃ v,w.heap[b]? = some (.cells #[v,.int .i64 st.2] 112 (0,0))/\w.ownsRow 0 5 1 v st.1.length (bR st.1)/\ ∀ k,G k↔k=b\/v.ownBlock=some k
 lt:=by
  rintro w G ⟨v,c,d,a⟩ k hk;rcases (a k).1 hk with rfl | h
  ·exact lx c
  ·exact zY d k h
 move:=by
  rintro w w' G ⟨v,c,d,a⟩ hm;exact⟨v,(hm _ ((a _).2 (.inl rfl))).trans c,sH d (fun k hk=>hm k ((a k).2 (.inr hk))),a⟩
theorem sI:(Tryz.prog.info? 5).map (fun i=>(i.zero,i.size,i.bytes))=some (some (.int .u8 0),1,1):=by kernel_rfl
theorem bz.stored {b:Nat} {l m:AI} {w w1:World} {v v1:Value} {F:Nat->Prop} (hb:w.heap[b]? = some (.cells #[v,.int .i64 0] 112 (0,0))) (ho:w.ownsRow 0 5 1 v l.length (bR l)) (hF: ∀ k,F k↔k=b\/v.ownBlock=some k)
 {n:Nat} (ho1:w1.ownsRow 0 5 1 v1 n (bR m)) (hg:w.grownBy w1 v.ownBlock) (hat:v1.ownBlock=v.ownBlock\/ ∃ k,v1.ownBlock=some k/\w.heap.size<=k) :
 St F w [bz b (m,0)] (w1.setCell ⟨b,0,none⟩ v1):=by
 have hn:n=m.length:=by have:=ho1.1; simpa [bR] using this.symm
 subst hn;have hne:=o5 ho hb QJ;have hb1:w1.heap[b]? = some (.cells #[v,.int .i64 0] 112 (0,0)):=(hg.block b (lx hb) hne).trans hb;have hne1:=o5 ho1 hb1 QJ;refine⟨((Fr.refl F w).trans (LY (F:=F) hg (fun k hk=>(hF k).2 (.inr hk))) (fun k hk=> .inl hk)).set (p:=⟨b,0,none⟩) (.inl ((hF b).2 (.inl rfl))) v1,?_⟩;refine⟨fun k=>k=b\/v1.ownBlock=some k,⟨v1,by simpa using oa hb1 0 v1,zX ho1 hne1 v1,fun _=>Iff.rfl⟩,?_,trivial⟩;rintro k (rfl | hk)
 ·exact .inl ((hF k).2 (.inl rfl))
 ·rcases hat with h | ⟨k',h,h'⟩
  ·rw[h] at hk;exact .inl ((hF k).2 (.inr hk))
  ·rw[h] at hk;injection hk with hk;subst hk;exact .inr h'
theorem LT {b:Nat} {st:AI×Int} {w w':World} {F:Nat->Prop} (h:(bz b st).P w F) (n:Nat) (hw:w'=w.drewN n):St F w [bz b st] w':=by
 subst hw;exact (Lc F w (Sep.one h)).drewN n
def jJ (st:AI×Int) (l:AI):AI×Int:=if st.2=0 then (st.1++l,0) else st
def mH (st:AI×Int) (e:Int):AI×Int:=if st.2=0 then (st.1,e) else st
theorem rd (b:Nat) (st:AI×Int) (e:Int):hN Tryz.prog 94 #[.pointer (some ⟨b,0,none⟩),.int .i64 e] (bz b st) (fun v A' N=>v= .tuple #[]/\A'=bz b (mH st e)/\N = []):=by
 rintro F w ⟨v,hb,ho,hF⟩;obtain⟨l,er⟩:=st;have c:w.cell? ⟨b,1,none⟩=some (.int .i64 er):=(bp hb 1).trans rfl;have d:w.frozen? ⟨b,1,none⟩=false:=bZ hb 1;by_cases a:er=0
 ·subst a;have HB:=Lib.hid hb;have HO:=Lib.hid ho;clear hb ho;go_enter Tryz.func94,Tryz.ntmps94
  go_wp2
  go_end0
  refine⟨_,_,_,rfl,⟨rfl,rfl,rfl⟩,(Fr.refl F w).set (.inl ((hF b).2 (.inl rfl))) _,F,?_,fun k hk=> .inl hk,trivial⟩;have hne:=o5 HO.out HB.out QJ;exact⟨v,by simpa [mH] using oa HB.out 1 (.int .i64 e),zX HO.out hne _,hF⟩
 ·have HB:=Lib.hid hb;have HO:=Lib.hid ho;have f:(er == 0)=false:=beq_eq_false_iff_ne.2 a;clear hb ho;go_enter Tryz.func94,Tryz.ntmps94
  go_wp2
  go_end0
  exact⟨_,_,_,rfl,⟨rfl,rfl,rfl⟩,LT ⟨v,by simpa [mH,a] using HB.out,by simpa [mH,a] using HO.out,hF⟩ 0 rfl⟩
theorem Bb (b:Nat) (st:AI×Int) (s:ByteArray) (hl:st.1.length+s.size<=140737488355328) :
 hN Tryz.prog 52 #[.pointer (some ⟨b,0,none⟩),.string s] (bz b st) (fun v A' N=>v= .tuple #[]/\A'=bz b (jJ st s.data.toList)/\N = []):=by
 rintro F w ⟨v,hb,ho,hF⟩;obtain⟨l,er⟩:=st;have c:w.cell? ⟨b,0,none⟩=some v:=(bp hb 0).trans rfl;have d:w.cell? ⟨b,1,none⟩=some (.int .i64 er):=(bp hb 1).trans rfl;by_cases a:er=0
 ·subst a;have HB:=Lib.hid hb;have HO:=Lib.hid ho;clear hb ho;go_enter Tryz.func52,Tryz.ntmps52
  go_wp2_with (at_builtin; refine ob w rfl _ _ _ _ rfl 5 Tryz.underlying72 Tryz.underlying9 sI v l.length (bR l) rfl HO.out s rfl hl ?_; intro v1 w1 ho1 hg hat; obtain⟨a1,e,rfl⟩:=oc ho1; have HO1:=Lib.hid ho1; clear ho1; have HN:=Lib.hid (o5 HO.out HB.out QJ); have HB1:=Lib.hid (show w1.heap[b]? = _ from (hg.block b (lx HB.out) HN.out).trans HB.out); have f:w1.cell? ⟨b,0,none⟩=some v:=(bp HB1.out 0).trans rfl; have g:w1.frozen? ⟨b,0,none⟩=false:=bZ HB1.out 0; have HG:=Lib.hid hg; have HAT:=Lib.hid hat; clear hg hat)
  go_end0
  have ho1:=HO1.out;rw[rJ,<- kZ] at ho1;refine⟨_,_,_,rfl,⟨rfl,rfl,rfl⟩,?_⟩;have:=bz.stored HB.out HO.out hF ho1 HG.out (by rcases HAT.out with h | h; exact .inl h; exact .inr ⟨_,h,NA _⟩);simpa [jJ] using this
 ·have HB:=Lib.hid hb;have HO:=Lib.hid ho;have i:(er == 0)=false:=beq_eq_false_iff_ne.2 a;clear hb ho;go_enter Tryz.func52,Tryz.ntmps52
  go_wp2_with fail
  go_end0
  exact⟨_,_,_,rfl,⟨rfl,rfl,rfl⟩,LT ⟨v,by simpa [jJ,a] using HB.out,by simpa [jJ,a] using HO.out,hF⟩ 0 rfl⟩
theorem Fj (b:Nat) (st:AI×Int) (c:UInt8) (hl:st.1.length+1<=140737488355328) :
 hN Tryz.prog 102 #[.pointer (some ⟨b,0,none⟩),.int .u8 c.toNat] (bz b st) (fun v A' N=>v= .tuple #[]/\A'=bz b (jJ st [c])/\N = []):=by
 rintro F w ⟨v,hb,ho,hF⟩;obtain⟨l,er⟩:=st;have d:w.cell? ⟨b,0,none⟩=some v:=(bp hb 0).trans rfl;have e:w.cell? ⟨b,1,none⟩=some (.int .i64 er):=(bp hb 1).trans rfl;by_cases a:er=0
 ·subst a;have HB:=Lib.hid hb;have HO:=Lib.hid ho;clear hb ho;go_enter Tryz.func102,Tryz.ntmps102
  go_wp2_with (at_builtin; refine tE w rfl _ _ _ rfl 5 (.int .u8 0) 1 Tryz.underlying72 sI rfl v l.length (bR l) rfl HO.out (.int .u8 c.toNat) rfl rfl (by simpa using hl) hl ?_; intro v1 w1 ho1 hg hat; obtain⟨a1,f,rfl⟩:=oc ho1; have HO1:=Lib.hid ho1; clear ho1; have HN:=Lib.hid (o5 HO.out HB.out QJ); have HB1:=Lib.hid (show w1.heap[b]? = _ from (hg.block b (lx HB.out) HN.out).trans HB.out); have g:w1.cell? ⟨b,0,none⟩=some v:=(bp HB1.out 0).trans rfl; have h:w1.frozen? ⟨b,0,none⟩=false:=bZ HB1.out 0; have HG:=Lib.hid hg; have HAT:=Lib.hid hat; clear hg hat)
  go_end0
  have ho1:=HO1.out;rw[show ([Value.int .u8 c.toNat]:List Value)=bR [c] from rfl,<- kZ] at ho1;refine⟨_,_,_,rfl,⟨rfl,rfl,rfl⟩,?_⟩;have:=bz.stored HB.out HO.out hF ho1 HG.out HAT.out;simpa [jJ] using this
 ·have HB:=Lib.hid hb;have HO:=Lib.hid ho;have i:(er == 0)=false:=beq_eq_false_iff_ne.2 a;clear hb ho;go_enter Tryz.func102,Tryz.ntmps102
  go_wp2_with fail
  go_end0
  exact⟨_,_,_,rfl,⟨rfl,rfl,rfl⟩,LT ⟨v,by simpa [jJ,a] using HB.out,by simpa [jJ,a] using HO.out,hF⟩ 0 rfl⟩
theorem Gq (b:Nat) (st:AI×Int):hN Tryz.prog 48 #[.pointer (some ⟨b,0,none⟩)] (bz b st) (fun v A' N=>v= .int .i64 st.2/\A'=bz b st/\N = []):=by
 rintro F w ⟨v,hb,ho,hF⟩;obtain⟨l,er⟩:=st;have a:w.cell? ⟨b,1,none⟩=some (.int .i64 er):=(bp hb 1).trans rfl;have HB:=Lib.hid hb;have HO:=Lib.hid ho;clear hb ho;go_enter Tryz.func48,Tryz.ntmps48
 go_wp2
 go_ret
 exact⟨_,_,_,rfl,⟨rfl,rfl,rfl⟩,LT ⟨_,HB.out,HO.out,hF⟩ 0 rfl⟩
def Bc (st:AI×Int):Value:=if st.2=0 then .tuple #[.string ⟨st.1.toArray⟩,.int .i64 0] else .tuple #[.string ⟨#[]⟩,.int .i64 st.2]
theorem Fk (b:Nat) (st:AI×Int):hN Tryz.prog 50 #[.pointer (some ⟨b,0,none⟩)] (bz b st) (fun v A' N=>v=Bc st/\A'=bz b st/\N = []):=by
 rintro F w ⟨v,hb,ho,hF⟩;obtain⟨l,er⟩:=st;have c:w.cell? ⟨b,0,none⟩=some v:=(bp hb 0).trans rfl;have d:w.cell? ⟨b,1,none⟩=some (.int .i64 er):=(bp hb 1).trans rfl;have hc:=wA (P:=Tryz.prog) w (src:=72) (dst:=9) Tryz.underlying72 Tryz.underlying5 Tryz.underlying9 ho;have HB:=Lib.hid hb;have HO:=Lib.hid ho;clear hb ho;by_cases a:er=0
 ·subst a;go_enter Tryz.func50,Tryz.ntmps50
  go_wp2
  go_ret2
  exact⟨_,_,_,rfl,⟨by simp[Bc],rfl,rfl⟩,LT ⟨_,HB.out,HO.out,hF⟩ 0 rfl⟩
 ·have e:(er != 0)=true:=bne_iff_ne.2 a;go_enter Tryz.func50,Tryz.ntmps50
  go_wp2
  go_quiet (fail)
  go_wp2
  go_ret2
  exact⟨_,_,_,rfl,⟨by simp[Bc,a],rfl,rfl⟩,LT ⟨_,HB.out,HO.out,hF⟩ _ rfl⟩
def bG (n size:Int):Bool:=decide (1<=size) && decide (size<=8) && decide (-(2 ^ (8*size.toNat - 1):Int)<=n) && decide (n<=(2 ^ (8*size.toNat - 1):Int) - 1)
theorem w64max:wrap64 (wrap64 9223372036854775808 - 1)=9223372036854775807:=by unfold wrap64; omega
theorem km {k:IntKind} {a b:Int} (h:a=b):Ending.returned (.int k a)= .returned (.int k b):=by rw[h]
theorem qf {a b:Bool} (h:a=b):Ending.returned (.bool a)= .returned (.bool b):=by rw[h]
theorem qg (n size:Int) (w:World) (a: -9223372036854775808<=n) (b:n<=9223372036854775807) :
 Calls Tryz.prog 101 #[.int .i64 n,.int .i64 size] w fun e w'=>e= .returned (.bool (bG n size))/\w=w':=by
 by_cases hs:1<=size/\size<=8
 ·have hk:size=1\/size=2\/size=3\/size=4\/size=5\/size=6\/size=7\/size=8:=by omega
  rcases hk with rfl | rfl | rfl | rfl | rfl | rfl | rfl | rfl;all_goals
   clear hs
   go_enter Tryz.func101,Tryz.ntmps101
   go_wp2
   all_goals (go_ret; exact⟨qf (by have:=w64max; rw[Bool.eq_iff_iff]; simp[bG,wrap64]; omega),rfl⟩)
 ·by_cases c:size<1
  ·go_enter Tryz.func101,Tryz.ntmps101
   go_wp2
   go_ret
   exact⟨qf (by simp[bG]; omega),rfl⟩
  ·have d:8<size:=by omega
   go_enter Tryz.func101,Tryz.ntmps101
   go_wp2
   go_ret
   exact⟨qf (by simp[bG]; omega),rfl⟩
def be (n:Int) (size:Nat):AI:=(List.range size).map fun i=>UInt8.ofNat ((n / (2 ^ (8*(size - 1 - i)):Int)) % 256).toNat
def zZ (st:AI×Int) (n size:Int):AI×Int:=if bG n size then jJ st (be n size.toNat) else mH st 11
theorem Bd (st:AI×Int):jJ st []=st:=by
 obtain⟨l,e⟩:=st;by_cases h:e=0 <;> simp[jJ,h]
theorem tH (st:AI×Int) (a b:AI):jJ (jJ st a) b=jJ st (a++b):=by
 obtain⟨l,e⟩:=st;by_cases h:e=0 <;> simp[jJ,h]
theorem o7 (b:Nat) (st:AI×Int) (c:Int) (a:0<=c) (d:c<256) (hl:st.1.length+1<=140737488355328) :
 hN Tryz.prog 102 #[.pointer (some ⟨b,0,none⟩),.int .u8 c] (bz b st) (fun v A' N=>v= .tuple #[]/\A'=bz b (jJ st [UInt8.ofNat c.toNat])/\N = []):=by
 have h:=Fj b st (UInt8.ofNat c.toNat) hl
 rwa [show ((UInt8.ofNat c.toNat).toNat:Int)=c from by simp[UInt8.toNat_ofNat']; omega] at h
theorem sJ (st:AI×Int) (a:AI):(jJ st a).1.length<=st.1.length+a.length:=by
 unfold jJ; split <;> simp
theorem ve (b:Nat) (st:AI×Int) (n size:Int) (d: -9223372036854775808<=n) (f:n<=9223372036854775807) (hl:st.1.length+8<=140737488355328) :
 hN Tryz.prog 51 #[.pointer (some ⟨b,0,none⟩),.int .i64 n,.int .i64 size] (bz b st) (fun v A' N=>v= .tuple #[]/\A'=bz b (zZ st n size)/\N = []):=by
 intro F w hA;by_cases hf:bG n size=true
 ·have hs:1<=size/\size<=8:=by simp[bG] at hf; omega
  obtain⟨k,rfl⟩: ∃ k:Nat,size=k:=⟨size.toNat,by omega⟩;have HF:=Lib.hid hf;clear hf;have HA:=Lib.hid (Lc F w (Sep.one hA));clear hA;go_enter Tryz.func51,Tryz.ntmps51
  go_wp2_with fail
  refine (qg n k w d f).mono ?_;rintro e w' ⟨rfl,rfl⟩;rw[HF.out];go_wp2_with fail
  go_loopw [6,14] (fun _ i wr=> ∃ j:Nat,j<=k/\i= .int .i64 j/\St F w [bz b (jJ st ((be n k).take j))] wr) (fun _ i _=>k - (intOf i).toNat)
  case atStart=>exact⟨0,by omega,rfl,by simpa [Bd] using HA.out⟩
  case round =>
   obtain⟨j,hj,rfl,hst⟩:=hrel;have HS:=Lib.hid hst;clear hst;by_cases hlt:j<k
   ·go_wp2_with fail
    have hle:((be n k).take j).length=j:=by simp[be]; omega
    have g:=sJ st ((be n k).take j);refine (HS.out.call 0 rfl (o7 b _ _ QI QI QI)).mono ?_;rintro e w1 ⟨v,A',N,rfl,⟨rfl,rfl,rfl⟩,a⟩;have HS1:=Lib.hid a;clear a hle g;go_wp2_with fail
    go_roundw
    case rel =>
     refine⟨j+1,by omega,by go_num,?_⟩;have:=HS1.out;rw[tH] at this;have c:(be n k).take (j+1)=(be n k).take j ++ [UInt8.ofNat ((n / (2 ^ (8*(k - 1 - j)):Int)) % 256).toNat]:=by
      rw[List.take_succ_eq_append_getElem (by simp[be]; omega)];simp[be]
     rw[c];exact this
    case measure=>simp[intOf]; omega
   ·have c:j=k:=by omega
    have h:(be n k).take k=be n k:=List.take_of_length_le (by simp[be]);go_wp2_with fail
    go_end0
    refine⟨_,_,_,rfl,⟨rfl,rfl,rfl⟩,?_⟩;have:=HS.out;rw[c,h] at this;simpa [zZ,HF.out] using this
 ·have HF:=Lib.hid (show bG n size=false by simpa using hf);clear hf;have HA:=Lib.hid (Lc F w (Sep.one hA));clear hA;go_enter Tryz.func51,Tryz.ntmps51
  go_wp2_with fail
  refine (qg n size w d f).mono ?_;rintro e w' ⟨rfl,rfl⟩;rw[HF.out];go_wp2_with fail
  refine (HA.out.call 0 rfl (rd b _ 11)).mono ?_;rintro e w1 ⟨v,A',N,rfl,⟨rfl,rfl,rfl⟩,a⟩;have HS1:=Lib.hid a;clear a;go_wp2_with fail
  go_end0
  refine⟨_,_,_,rfl,⟨rfl,rfl,rfl⟩,?_⟩;simpa [zZ,HF.out] using HS1.out
structure I where
 rest:AI
 pos:Nat
 err:Int
def aW (l:AI):ByteArray:=⟨l.toArray⟩
abbrev jS (l:AI):Value:= .string (aW l)
theorem bsOf_size (l:AI):(aW l).size=l.length:=by simp[aW,ByteArray.size]
theorem cZ (l:AI):(aW l).data.toList=l:=by simp[aW]
theorem fy (l:AI):(aW l).toList=l:=ByteArray.toList_mk l
theorem Fl (s:ByteArray):aW s.data.toList=s:=by cases s; simp[aW]
theorem nF (s:ByteArray) (a b:Nat):s.extract a b=aW ((s.data.toList.drop a).take (b - a)):=by
 apply ByteArray.ext;apply Array.ext';simp[aW,ByteArray.data_extract,List.extract_eq_take_drop]
def InR (b:Nat) (st:I):Res where
 P:=fun w G=> ∃ s:ByteArray,w.heap[b]? = some (.cells #[.string s,.int .i64 st.pos,.int .i64 st.err] 134 (0,0))/\st.pos+st.rest.length=s.size/\s.size<=9223372036854775807/\s.data.toList.drop st.pos=st.rest/\ ∀ k,G k↔k=b
 lt:=by
  rintro w G ⟨s,a,_,_,_,c⟩ k hk;rw[(c k).1 hk];exact lx a
 move:=by
  rintro w w' G ⟨s,a,e,c,f,d⟩ hm;exact⟨s,(hm _ ((d _).2 rfl)).trans a,e,c,f,d⟩
theorem InR.kept {b:Nat} {st:I} {w w':World} {F:Nat->Prop} (h:(InR b st).P w F) (n:Nat) (hw:w'=w.drewN n):St F w [InR b st] w':=by
 subst hw;exact (Lc F w (Sep.one h)).drewN n
def dw (st:I) (e:Int):I:=if st.err=0 then { st with err:=e } else st
def cy (st:I) (n:Int):AI×I :=
 if st.err≠0 then ([],st) else if n<0 then ([],{ st with err:=4 }) else if st.rest.length<n then ([],{ st with err:=1 })
 else (st.rest.take n.toNat,{ st with rest:=st.rest.drop n.toNat,pos:=st.pos+n.toNat })
theorem Gr (s:ByteArray) (hs:s.size<=9223372036854775807) :
 mf Tryz.prog 19 #[.string s] (fun v N=> ∃ b,v= .pointer (some ⟨b,0,none⟩)/\N = [InR b ⟨s.data.toList,0,0⟩]):=by
 intro w;go_enter Tryz.func19,Tryz.ntmps19
 go_wp2
 go_ret
 refine⟨_,_,rfl,⟨_,rfl,rfl⟩,?_⟩;refine (((LH w).alloc #[.string s,.int .i64 0,.int .i64 0] 134).weaken 0 rfl (A':=InR w.heap.size ⟨s.data.toList,0,0⟩) ?_);rintro G ⟨a,c⟩;exact⟨s,a,by simp,hs,rfl,c⟩
theorem hO (b:Nat) (st:I) (e:Int):hN Tryz.prog 70 #[.pointer (some ⟨b,0,none⟩),.int .i64 e] (InR b st) (fun v A' N=>v= .tuple #[]/\A'=InR b (dw st e)/\N = []):=by
 rintro F w ⟨s,hb,c,d,f,hF⟩;have c2:w.cell? ⟨b,2,none⟩=some (.int .i64 st.err):=(bp hb 2).trans rfl;have j:w.frozen? ⟨b,2,none⟩=false:=bZ hb 2;have HB:=Lib.hid hb;have g:=Lib.hid f;have h:=Lib.hid c;clear hb f c;by_cases a:st.err=0
 ·have i:(st.err == 0)=true:=beq_iff_eq.2 a;have HH:=Lib.hid a;clear a;go_enter Tryz.func70,Tryz.ntmps70
  go_wp2
  go_end0
  refine⟨_,_,_,rfl,⟨rfl,rfl,rfl⟩,(Fr.refl F w).set (.inl ((hF b).2 rfl)) _,F,?_,fun k hk=> .inl hk,trivial⟩;exact⟨s,by simpa [dw,HH.out] using oa HB.out 2 (.int .i64 e),by simpa [dw,HH.out] using h.out,d,by simpa [dw,HH.out] using g.out,hF⟩
 ·have i:(st.err == 0)=false:=beq_eq_false_iff_ne.2 a;have HH:=Lib.hid a;clear a;go_enter Tryz.func70,Tryz.ntmps70
  go_wp2
  go_end0
  refine⟨_,_,_,rfl,⟨rfl,rfl,rfl⟩,InR.kept (st:=dw st e) ?_ 0 rfl⟩;rw[show dw st e=st by simp[dw,HH.out]];exact⟨s,HB.out,h.out,d,g.out,hF⟩
theorem od (b:Nat) (st:I):hN Tryz.prog 71 #[.pointer (some ⟨b,0,none⟩)] (InR b st) (fun v A' N=>v= .int .i64 st.rest.length/\A'=InR b st/\N = []):=by
 rintro F w ⟨s,hb,a,e,c,hF⟩;have h:w.cell? ⟨b,0,none⟩=some (.string s):=(bp hb 0).trans rfl;have i:w.cell? ⟨b,1,none⟩=some (.int .i64 st.pos):=(bp hb 1).trans rfl;have HB:=Lib.hid hb;have f:=Lib.hid c;have d:=Lib.hid a;have h2a:st.pos<=s.size:=by omega
 clear hb c a;go_enter Tryz.func71,Tryz.ntmps71
 go_wp2
 go_quiet (fail)
 go_wp2
 go_ret
 have g:(s.size:Int) - st.pos=st.rest.length:=by have:=d.out; omega
 exact⟨_,_,_,km g,⟨rfl,rfl,rfl⟩,InR.kept ⟨s,HB.out,d.out,e,f.out,hF⟩ _ rfl⟩
theorem eH (b:Nat) (st:I) (n:Int) (p: -9223372036854775808<=n) (q:n<=9223372036854775807) :
 hN Tryz.prog 67 #[.pointer (some ⟨b,0,none⟩),.int .i64 n] (InR b st) (fun v A' N=>v= .string (aW (cy st n).1)/\A'=InR b (cy st n).2/\N = []):=by
 rintro F w ⟨s,hb,d,h,f,hF⟩;have hA:(InR b st).P w F:=⟨s,hb,d,h,f,hF⟩;have t:w.cell? ⟨b,0,none⟩=some (.string s):=(bp hb 0).trans rfl;have u:w.cell? ⟨b,1,none⟩=some (.int .i64 st.pos):=(bp hb 1).trans rfl;have c2:w.cell? ⟨b,2,none⟩=some (.int .i64 st.err):=(bp hb 2).trans rfl;have x:w.frozen? ⟨b,1,none⟩=false:=bZ hb 1;have HB:=Lib.hid hb;have i:=Lib.hid f;have g:=Lib.hid d;have HA:=Lib.hid (Lc F w (Sep.one hA));have h2a:st.pos<=s.size:=by omega
 have h2b: ¬ ((s.size:Int) - st.pos<n)↔n<=st.rest.length:=by omega
 have H2b:=Lib.hid h2b;clear hb f d hA h2b;by_cases a:st.err=0
 ·have k:(st.err != 0)=false:=by simp[a]
  have HH:=Lib.hid a;clear a;by_cases hn:n<0
  ·have HT:=Lib.hid (show cy st n=([],dw st 4) by simp[cy,HH.out,hn,dw]);go_enter Tryz.func67,Tryz.ntmps67
   go_wp2_with fail
   refine (HA.out.call 0 rfl (hO b st 4)).mono ?_;rintro e w1 ⟨v,A',N,rfl,⟨rfl,rfl,rfl⟩,c⟩;have HS1:=Lib.hid c;clear c;go_wp2_with fail
   go_ret
   exact⟨_,_,_,rfl,⟨by rw[HT.out]; rfl,rfl,rfl⟩,by rw[HT.out]; exact HS1.out⟩
  ·by_cases hl:(st.rest.length:Int)<n
   ·have j:(s.size:Int) - st.pos<n:=by have:=g.out; omega
    have HT:=Lib.hid (show cy st n=([],dw st 1) by simp[cy,HH.out,hn,dw,hl]);go_enter Tryz.func67,Tryz.ntmps67
    go_wp2_with fail
    go_quiet (fail)
    go_wp2_with fail
    refine ((HA.out.drewN _).call 0 rfl (hO b st 1)).mono ?_;rintro e w1 ⟨v,A',N,rfl,⟨rfl,rfl,rfl⟩,c⟩;have HS1:=Lib.hid c;clear c;go_wp2_with fail
    go_ret
    exact⟨_,_,_,rfl,⟨by rw[HT.out]; rfl,rfl,rfl⟩,by rw[HT.out]; exact HS1.out⟩
   ·have j: ¬ ((s.size:Int) - st.pos<n):=by have:=g.out; omega
    obtain⟨m,rfl⟩: ∃ m:Nat,n=m:=⟨n.toNat,by omega⟩;have r:st.pos+m<=s.size:=by omega
    have HT:=Lib.hid (show cy st m=(st.rest.take m,{ st with rest:=st.rest.drop m,pos:=st.pos+m }) by
     have: ¬ (st.rest.length<m):=by omega
     simp[cy,HH.out,this])
    go_enter Tryz.func67,Tryz.ntmps67
    go_wp2_with fail
    go_quiet (fail)
    go_wp2_with fail
    go_quiet (fail)
    go_wp2_with fail
    go_ret
    refine⟨.string (s.extract st.pos (st.pos+m)),_,_,rfl,⟨?_,rfl,rfl⟩,?_⟩
    ·rw[HT.out,nF,Nat.add_sub_cancel_left,i.out]
    ·rw[HT.out];refine ((((Lc F w (Sep.one (R:=aR b 134 #[.string s,.int .i64 st.pos,.int .i64 st.err]) ⟨HB.out,hF⟩)).drewN _).set 0 rfl 1 (.int .i64 (st.pos+m))).drewN _).weaken 0 rfl (A':=InR b { st with rest:=st.rest.drop m,pos:=st.pos+m }) ?_;rintro G ⟨l,o⟩;have d:=g.out;refine⟨s,l,?_,h,?_,o⟩
     ·simp only[Nb]; omega
     ·simp only; rw[<- i.out,NM]
 ·have k:(st.err != 0)=true:=bne_iff_ne.2 a;have HH:=Lib.hid a;clear a;go_enter Tryz.func67,Tryz.ntmps67
  go_wp2_with fail
  go_ret
  refine⟨_,_,_,rfl,⟨?_,rfl,rfl⟩,?_⟩
  ·simp[cy,HH.out,aW]
  ·simpa [cy,HH.out] using HA.out
theorem I3 (x d:Int) (e: -9223372036854775808<=x) (f:x<=9223372036854775807) (hx:x % 256=0) (hd0:0<=d) (hd1:d<256):bits .or .i64 x d=x+d:=by
 have b:(BitVec.ofInt 64 x).toNat=(x % 18446744073709551616).toNat:=by simp[BitVec.toNat_ofInt]
 have c:(BitVec.ofInt 64 d).toNat=d.toNat:=by simp[BitVec.toNat_ofInt]; omega
 show IntKind.i64.wrap (((BitVec.ofInt 64 x) ||| (BitVec.ofInt 64 d)).toNat:Int)=x+d;rw[BitVec.toNat_or,b,c];generalize ha:(x % 18446744073709551616).toNat=a;have ha2:a % 256=0:=by omega
 have hq:a=2 ^ 8*(a / 256):=by omega
 have hb:d.toNat<2 ^ 8:=by omega
 have ho:a ||| d.toNat=a+d.toNat:=by
  rw[hq,<- Nat.two_pow_add_eq_or_of_lt hb (a / 256)]
 rw[ho,IntKind.wrap_i64];omega
def sgn (c:UInt8):Int:=if c.toNat<128 then c.toNat else (c.toNat:Int) - 256
theorem Gu (c:UInt8):wrap64 (IntKind.i8.wrap (c.toNat:Int))=sgn c:=by
 have:=c.toNat_lt;have e:IntKind.i8.wrap (c.toNat:Int)=sgn c:=by
  unfold sgn;simp[IntKind.wrap,IntKind.bits,IntKind.signed];split <;> split <;> omega
 rw[e];unfold sgn wrap64;split <;> omega
def bb:AI->Int
 | []=>0
 | c::cs=>cs.foldl (fun n d=>n*256+d.toNat) (sgn c)
theorem rZ (l:AI) (d:UInt8) (h:l ≠ []):bb (l ++ [d])=bb l*256+d.toNat:=by
 cases l with
 | nil=>exact absurd rfl h
 | cons c cs=>simp[bb]
theorem CA (cs:AI): ∀ (n:Int) (m:Nat),1<=m-> -(2 ^ (m - 1):Int)<=n->n<(2 ^ (m - 1):Int) ->
 -(2 ^ (m+8*cs.length - 1):Int)<=cs.foldl (fun n d=>n*256+(d.toNat:Int)) n/\cs.foldl (fun n d=>n*256+(d.toNat:Int)) n<(2 ^ (m+8*cs.length - 1):Int):=by
 induction cs with
 | nil=>intro n m _ a b; exact⟨a,b⟩
 | cons c cs ih =>
  intro n m hm a b;have:=c.toNat_lt;have e:(2 ^ (m+8 - 1):Int)=256*2 ^ (m - 1):=by
   rw[show m+8 - 1=8+(m - 1) by omega,Int.pow_add];rfl
  have f:=ih (n*256+c.toNat) (m+8) QI (by rw[e]; omega) (by rw[e]; omega);rw[show m+8*(c::cs).length - 1=m+8+8*cs.length - 1 by simp; omega];exact f
theorem qh (l:AI) (h:l ≠ []): -(2 ^ (8*l.length - 1):Int)<=bb l/\bb l<(2 ^ (8*l.length - 1):Int):=by
 cases l with
 | nil=>exact absurd rfl h
 | cons c cs =>
  have hc:=c.toNat_lt;have:=CA cs (sgn c) 8 QI (by unfold sgn; split <;> omega) (by unfold sgn; split <;> omega);rw[show 8*(c::cs).length - 1=8+8*cs.length - 1 by simp; omega];exact this
theorem sK (l:AI) (h:l ≠ []) (c:l.length<=7): -36028797018963968<=bb l/\bb l<36028797018963968:=by
 have hr:=qh l h;have hp:(2 ^ (8*l.length - 1):Int)<=36028797018963968:=by
  have b:(2 ^ (8*l.length - 1):Nat)<=2 ^ 55:=Nat.pow_le_pow_right QJ QI;have a:((2 ^ (8*l.length - 1):Nat):Int)<=((2 ^ 55:Nat):Int):=Int.ofNat_le.2 b;rw[Int.natCast_pow,Int.natCast_pow] at a;exact a
 generalize (2 ^ (8*l.length - 1):Int)=z at *;omega
theorem CC (q d:Int) (c: -36028797018963968<=q) (e:q<36028797018963968) (hd0:0<=d) (hd1:d<256):bits .or .i64 (wrap64 (q*256)) (wrap64 d)=q*256+d:=by
 have a:wrap64 (q*256)=q*256:=by unfold wrap64; omega
 have b:wrap64 d=d:=by unfold wrap64; omega
 rw[a,b,I3 _ _ QI QI QI hd0 hd1]
theorem CD (l:AI):(aW l).toList.isEmpty=l.isEmpty:=by
 have e:(aW l).toList=l:=ByteArray.toList_mk l;rw[e]
theorem qi (l:AI) (i:Nat) (h:i<(aW l).size):(aW l)[i]=l[i]'(by simpa [bsOf_size] using h):=by
 simp[aW]; rfl
def eX (st:I) (size:Int):Int×I:=if 1<=size/\size<=8 then (bb (cy st size).1,(cy st size).2) else (0,dw st 4)
theorem yL (st:I) (n:Int):(cy st n).1.length<=n.toNat:=by
 unfold cy;split
 ·simp
 ·split
  ·simp
  ·split
   ·simp
   ·simp; omega
theorem tI (b:Nat) (st:I) (size:Int) :
 hN Tryz.prog 68 #[.pointer (some ⟨b,0,none⟩),.int .i64 size] (InR b st) (fun v A' N=>v= .int .i64 (eX st size).1/\A'=InR b (eX st size).2/\N = []):=by
 intro F w hA;by_cases hs:1<=size/\size<=8
 ·obtain⟨k,rfl⟩: ∃ k:Nat,size=k:=⟨size.toNat,by omega⟩;have HI:=Lib.hid (show eX st k=(bb (cy st k).1,(cy st k).2) by simp only[eX,hs]; simp);have HA:=Lib.hid (Lc F w (Sep.one hA));clear hA;go_enter Tryz.func68,Tryz.ntmps68
  go_wp2_with fail
  refine (HA.out.call 0 rfl (eH b st k QI QI)).mono ?_;rintro e w1 ⟨v,A',N,rfl,⟨rfl,rfl,rfl⟩,a⟩;have HS1:=Lib.hid a;have hlen:=yL st k;clear a;generalize hl:(cy st k).1=l at *;have hne:=CD l;have HL:=Lib.hid hl;clear hl
  cases l with
  | nil =>
   simp only[List.isEmpty_nil] at hne;go_wp2_with fail
   go_ret
   exact⟨_,_,_,rfl,⟨by rw[HI.out]; rfl,rfl,rfl⟩,by rw[HI.out]; exact HS1.out⟩
  | cons c cs =>
   have hsz:=bsOf_size (c::cs);have f:=qi (c::cs) 0 (by simp[bsOf_size]);have HG:=Lib.hid (qi (c::cs));have hsg:=Gu c;have m:cs.length<=7:=by simp at hlen; omega
   simp only[List.getElem_cons_zero,List.isEmpty_cons] at f hne;go_wp2_with fail
   go_loopw [6,7] (fun n i wr=>wr=w1/\ ∃ j:Nat,1<=j/\j<=cs.length+1/\i= .int .i64 j/\n= .int .i64 (bb ((c::cs).take j))) (fun _ i _=>cs.length+1 - (intOf i).toNat)
   case atStart=>exact⟨rfl,1,by omega,by omega,rfl,by simp[bb,hsg]⟩
   case round =>
    obtain⟨rfl,j,hj1,hj2,rfl,rfl⟩:=hrel;by_cases hlt:j<cs.length+1
    ·have hgj:=HG.out j (by rw[hsz]; simpa using hlt);have hb:j<=9223372036854775806:=by omega
     have hnn:(c::cs).take j ≠ []:=by intro h; have:=congrArg List.length h; simp at this; omega
     have hr:=sK ((c::cs).take j) hnn (by simp; omega);generalize hq:bb ((c::cs).take j)=q at *;have HQ:=Lib.hid hq;have HR:=Lib.hid hr;clear hq hr;go_wp2_with fail
     go_roundw
     case rel =>
      refine⟨trivial,j+1,by omega,by omega,by go_num,?_⟩;have hd:=((c::cs)[j]'(by simpa using hlt)).toNat_lt;have d:(c::cs).take (j+1)=(c::cs).take j ++ [(c::cs)[j]'(by simpa using hlt)]:=by
       rw[List.take_succ_eq_append_getElem (by simpa using hlt)]
      rw[d,rZ _ _ hnn,HQ.out,CC q _ HR.out.1 HR.out.2 QI QI]
     case measure=>simp[intOf]; omega
    ·have d:j=cs.length+1:=by omega
     have g:(c::cs).take (cs.length+1)=c::cs:=List.take_of_length_le (by simp);have hb:(c::cs).length=cs.length+1:=rfl;go_wp2_with fail
     go_ret
     exact⟨_,_,_,rfl,⟨by rw[HI.out,d,g]; rfl,rfl,rfl⟩,by rw[HI.out]; exact HS1.out⟩
 ·have HI:=Lib.hid (show eX st size=(0,dw st 4) by simp only[eX,hs]; simp);have HA:=Lib.hid (Lc F w (Sep.one hA));clear hA;by_cases o:size<1;all_goals
   go_enter Tryz.func68,Tryz.ntmps68
   go_wp2_with fail
   refine (HA.out.call 0 rfl (hO b st 4)).mono ?_
   rintro e w1 ⟨v,A',N,rfl,⟨rfl,rfl,rfl⟩,a⟩
   have HS1:=Lib.hid a
   clear a
   go_wp2_with fail
   go_ret
   exact⟨_,_,_,rfl,⟨by rw[HI.out]; rfl,rfl,rfl⟩,by rw[HI.out]; exact HS1.out⟩
theorem InR.err {b:Nat} {st:I} {w:World} {F0:Nat->Prop} {w0:World} {Rs:List Res} (i:Nat) (h:St F0 w0 Rs w) (hi:Rs[i]? = some (InR b st)) :
 w.cell? ⟨b,2,none⟩=some (.int .i64 st.err)/\w.cell? ⟨b,1,none⟩=some (.int .i64 st.pos):=by
 obtain⟨G,⟨s,a,_⟩,_⟩:=h.get i hi;exact⟨(bp a 2).trans rfl,(bp a 1).trans rfl⟩
theorem InR.len {b:Nat} {st:I} {w:World} {F0:Nat->Prop} {w0:World} {Rs:List Res} (i:Nat) (h:St F0 w0 Rs w) (hi:Rs[i]? = some (InR b st)):st.rest.length<=9223372036854775807:=by
 obtain⟨G,⟨s,a,c,d,_⟩,_⟩:=h.get i hi;omega
theorem re (b:Nat) (st:I):hN Tryz.prog 23 #[.pointer (some ⟨b,0,none⟩)] (InR b st) (fun v A' N=>v= .int .i64 st.err/\A'=InR b st/\N = []):=by
 intro F w hA;have hs:=Lc F w (Sep.one hA);have c2:=(InR.err 0 hs rfl).1;have HS:=Lib.hid hs;clear hs hA;go_enter Tryz.func23,Tryz.ntmps23
 go_wp2
 go_ret
 exact⟨_,_,_,rfl,⟨rfl,rfl,rfl⟩,HS.out⟩
def fP (st:I):I:=if st.rest = [] then st else dw st 2
theorem CE (b:Nat) (st:I):hN Tryz.prog 21 #[.pointer (some ⟨b,0,none⟩)] (InR b st) (fun v A' N=>v= .int .i64 (fP st).err/\A'=InR b (fP st)/\N = []):=by
 intro F w hA;have HS:=Lib.hid (Lc F w (Sep.one hA));clear hA;by_cases h:st.rest = []
 ·have HC:=Lib.hid (show fP st=st by simp[fP,h]);have hl:st.rest.length=0:=by simp[h]
  have HL:=Lib.hid hl;have d: ¬ ((0:Int)<st.rest.length):=by omega
  clear h hl;go_enter Tryz.func21,Tryz.ntmps21
  go_wp2_with fail
  refine (HS.out.call 0 rfl (od b st)).mono ?_;rintro e w1 ⟨v,A',N,rfl,⟨rfl,rfl,rfl⟩,a⟩;have c2:=(InR.err 0 a rfl).1;have HS1:=Lib.hid a;clear a;go_wp2_with fail
  go_ret
  exact⟨_,_,_,rfl,⟨by rw[HC.out]; rfl,rfl,rfl⟩,by rw[HC.out]; exact HS1.out⟩
 ·have HC:=Lib.hid (show fP st=dw st 2 by simp[fP,h]);have d:(0:Int)<st.rest.length:=by
   have:=List.length_pos_iff.2 h;omega
  clear h;go_enter Tryz.func21,Tryz.ntmps21
  go_wp2_with fail
  refine (HS.out.call 0 rfl (od b st)).mono ?_;rintro e w1 ⟨v,A',N,rfl,⟨rfl,rfl,rfl⟩,a⟩;have HS1:=Lib.hid a;clear a;go_wp2_with fail
  refine (HS1.out.call 0 rfl (hO b st 2)).mono ?_;rintro e f ⟨v,A',N,rfl,⟨rfl,rfl,rfl⟩,c⟩;have c2:=(InR.err 0 c rfl).1;have HS2:=Lib.hid c;clear c;go_wp2_with fail
  go_ret
  exact⟨_,_,_,rfl,⟨by rw[HC.out]; rfl,rfl,rfl⟩,by rw[HC.out]; exact HS2.out⟩
def lW (st:I) (size each:Int):Int×I :=
 if (eX st size).2.err≠0 then (0,(eX st size).2)
 else if (eX st size).1<0 then (0,dw (eX st size).2 4)
 else if 0<each/\((eX st size).2.rest.length:Int) / each<(eX st size).1 then (0,dw (eX st size).2 1)
 else eX st size
theorem CF (b:Nat) (st:I) (size each:Int) :
 hN Tryz.prog 144 #[.pointer (some ⟨b,0,none⟩),.int .i64 size,.int .i64 each] (InR b st) (fun v A' N=>v= .int .i64 (lW st size each).1/\A'=InR b (lW st size each).2/\N = []):=by
 intro F w hA;have HS:=Lib.hid (Lc F w (Sep.one hA));clear hA;have HC:=Lib.hid (show lW st size each= _ from rfl);generalize hq:lW st size each=q at HC ⊢;have HC2:=Lib.hid (show q=lW st size each from hq.symm);clear hq HC;have HC3:=Lib.hid (show q=(if (eX st size).2.err≠0 then (0,(eX st size).2)
  else if (eX st size).1<0 then (0,dw (eX st size).2 4)
  else if 0<each/\((eX st size).2.rest.length:Int) / each<(eX st size).1 then (0,dw (eX st size).2 1)
  else eX st size) from HC2.out)
 clear HC2;have h:=tI b st size;generalize eX st size=r at *;obtain⟨n,a⟩:=r;have HN:=Lib.hid h;clear h;by_cases f:a.err=0
 ·have j:(a.err != 0)=false:=by simp[f]
  have HH:=Lib.hid f;clear f;by_cases hn:n<0
  ·have HQ:=Lib.hid (show q=(0,dw a 4) by rw[HC3.out]; simp[HH.out,hn]);go_enter Qm,Qe
   go_wp2_with fail
   refine (HS.out.call 0 rfl HN.out).mono ?_;rintro e w1 ⟨v,A',N,rfl,⟨rfl,rfl,rfl⟩,c⟩;have c2:=(InR.err 0 c rfl).1;have HS1:=Lib.hid c;clear c;go_wp2_with fail
   refine (HS1.out.call 0 rfl (hO b a 4)).mono ?_;rintro e g ⟨v,A',N,rfl,⟨rfl,rfl,rfl⟩,d⟩;have HS2:=Lib.hid d;clear d;go_wp2_with fail
   go_ret
   exact⟨_,_,_,rfl,⟨by rw[HQ.out]; rfl,rfl,rfl⟩,by rw[HQ.out]; exact HS2.out⟩
  ·by_cases he:0<each
   ·have hd0:0<=(a.rest.length:Int):=by omega
    by_cases hc:(a.rest.length:Int) / each<n
    ·have HQ:=Lib.hid (show q=(0,dw a 1) by rw[HC3.out]; simp[HH.out,hn,he,hc]);go_enter Qm,Qe
     go_wp2_with fail
     refine (HS.out.call 0 rfl HN.out).mono ?_;rintro e w1 ⟨v,A',N,rfl,⟨rfl,rfl,rfl⟩,c⟩;have c2:=(InR.err 0 c rfl).1;have hb:=InR.len 0 c rfl;have hq1:0<=(a.rest.length:Int) / each:=Int.ediv_nonneg hd0 QI;have hq2:(a.rest.length:Int) / each<=9223372036854775807:=Int.le_trans (Int.ediv_le_self each hd0) QI;have HS1:=Lib.hid c;clear c;go_wp2_with fail
     refine (HS1.out.call 0 rfl (od b a)).mono ?_;rintro e g ⟨v,A',N,rfl,⟨rfl,rfl,rfl⟩,d⟩;have HS2:=Lib.hid d;clear d;go_wp2_with fail
     refine (HS2.out.call 0 rfl (hO b a 1)).mono ?_;rintro e g ⟨v,A',N,rfl,⟨rfl,rfl,rfl⟩,i⟩;have HS3:=Lib.hid i;clear i;go_wp2_with fail
     go_ret
     exact⟨_,_,_,rfl,⟨by rw[HQ.out]; rfl,rfl,rfl⟩,by rw[HQ.out]; exact HS3.out⟩
    ·have HQ:=Lib.hid (show q=(n,a) by rw[HC3.out]; simp[HH.out,hn,hc]);go_enter Qm,Qe
     go_wp2_with fail
     refine (HS.out.call 0 rfl HN.out).mono ?_;rintro e w1 ⟨v,A',N,rfl,⟨rfl,rfl,rfl⟩,c⟩;have c2:=(InR.err 0 c rfl).1;have hb:=InR.len 0 c rfl;have hq1:0<=(a.rest.length:Int) / each:=Int.ediv_nonneg hd0 QI;have hq2:(a.rest.length:Int) / each<=9223372036854775807:=Int.le_trans (Int.ediv_le_self each hd0) QI;have HS1:=Lib.hid c;clear c;go_wp2_with fail
     refine (HS1.out.call 0 rfl (od b a)).mono ?_;rintro e g ⟨v,A',N,rfl,⟨rfl,rfl,rfl⟩,d⟩;have HS2:=Lib.hid d;clear d;go_wp2_with fail
     go_ret
     exact⟨_,_,_,rfl,⟨by rw[HQ.out]; rfl,rfl,rfl⟩,by rw[HQ.out]; exact HS2.out⟩
   ·have HQ:=Lib.hid (show q=(n,a) by rw[HC3.out]; simp[HH.out,hn,he]);go_enter Qm,Qe
    go_wp2_with fail
    refine (HS.out.call 0 rfl HN.out).mono ?_;rintro e w1 ⟨v,A',N,rfl,⟨rfl,rfl,rfl⟩,c⟩;have c2:=(InR.err 0 c rfl).1;have HS1:=Lib.hid c;clear c;go_wp2_with fail
    go_ret
    exact⟨_,_,_,rfl,⟨by rw[HQ.out]; rfl,rfl,rfl⟩,by rw[HQ.out]; exact HS1.out⟩
 ·have j:(a.err != 0)=true:=bne_iff_ne.2 f;have HQ:=Lib.hid (show q=(0,a) by rw[HC3.out]; simp[f]);clear f;go_enter Qm,Qe
  go_wp2_with fail
  refine (HS.out.call 0 rfl HN.out).mono ?_;rintro e w1 ⟨v,A',N,rfl,⟨rfl,rfl,rfl⟩,c⟩;have c2:=(InR.err 0 c rfl).1;have HS1:=Lib.hid c;clear c;go_wp2_with fail
  go_ret
  exact⟨_,_,_,rfl,⟨by rw[HQ.out]; rfl,rfl,rfl⟩,by rw[HQ.out]; exact HS1.out⟩
theorem Gv (l:AI) (p:Nat) (a:1<=l.length) (b:l.length<=8) (m:AI):eX ⟨l++m,p,0⟩ l.length=(bb l,⟨m,p+l.length,0⟩):=by
 have e:cy ⟨l++m,p,0⟩ l.length=(l,⟨m,p+l.length,0⟩):=by
  unfold cy;rw[QO (by simp),QO QI,QO (by simp only[M8]; omega)];simp
 have hc:(1:Int)<=l.length/\(l.length:Int)<=8:=by omega
 simp only[eX,hc,e];simp
theorem bsOf_of (s:ByteArray): ∃ l,s=aW l:=⟨s.data.toList,(Fl s).symm⟩
theorem z4 (l:AI) (j:Nat) (h:j<l.length):l.take (j+1)=l.take j ++ [l[j]]:=List.take_succ_eq_append_getElem h
theorem rK {l:AI} {j:Nat} (h:j<l.length) (a:0<j):l.take j ≠ []:=by
 intro he;have:=congrArg List.length he;rw[Np,N8] at this;omega
theorem Be (l:AI) (k:l.length<=8) (w:World) :
 Calls Tryz.prog 25 #[.string (aW l)] w fun e w'=>e= .returned (.int .i64 (bb l))/\w=w':=by
 have hsz:=bsOf_size l;have h:(aW l).size<=8:=by omega
 have HG:=Lib.hid (qi l);go_enter Tryz.func25,Tryz.ntmps25
 go_wp2_with fail
 go_loop [3,4] (fun n i=> ∃ j:Nat,j<=l.length/\i= .int .i64 j/\n= .int .i64 (bb (l.take j))) (fun _ i=>l.length - (intOf i).toNat)
 case atStart=>exact⟨0,by omega,rfl,by simp[bb]⟩
 case round =>
  obtain⟨j,hj,rfl,rfl⟩:=hrel;by_cases hlt:j<l.length
  ·have hgj:=HG.out j QI;have hs:j<(aW l).size:=by omega
   have HT:=Lib.hid (z4 l j hlt);have hc:=l[j].toNat_lt;generalize l[j]=c at *;by_cases hj0:j=0
   ·subst hj0;have HE:=Lib.hid (show bb (l.take (0+1))=sgn c by rw[HT.out]; simp[bb]);have hb0:bb (l.take 0)=0:=by simp[bb]
    clear HT;rw[hb0];clear hb0;by_cases d:c.toNat<128;all_goals
     go_wp2_with fail
     go_round
     case rel=>exact⟨0+1,by omega,by go_num,by rw[HE.out]; simp[sgn]; first | done | omega⟩
     case measure=>simp[intOf]; omega
   ·have hne:=rK hlt QI;have hr:=sK (l.take j) hne (by simp; omega);have HE:=Lib.hid (show bb (l.take (j+1))=bb (l.take j)*256+c.toNat by rw[HT.out,rZ _ _ hne]);clear HT;have HN:=Lib.hid hne;clear hne;generalize bb (l.take j)=q at *;have m:((j:Int) == 0)=false:=by simp; omega
    have hr1:=hr.1;have hr2:=hr.2;go_wp2_with fail
    go_round
    case rel=>exact⟨j+1,by omega,by go_num,by rw[HE.out]⟩
    case measure=>simp[intOf]; omega
  ·have a:j=l.length:=by omega
   have b:=List.take_of_length_le (l:=l) (i:=l.length) (NA _);have f:=Lib.hid a;have g:=Lib.hid b;clear a b;go_wp2_with fail
   go_ret
   exact⟨km (by rw[f.out,g.out]),rfl⟩
def iM (l:AI):Array Value:=(bR l).toArray
theorem Bf (l:AI) (i:Nat):(iM l)[i]? = l[i]?.map fun b=>Value.int .u8 b.toNat:=by simp[iM,bR]
theorem Bg (l:AI) (i:Nat) (c:UInt8):(iM l).setIfInBounds i (.int .u8 c.toNat)=iM (l.set i c):=by
 simp[iM,bR]
theorem aZ (n:Int) (k:Nat):(be n k).length=k:=by simp[be]
theorem CG (k:Nat) (hk:k<=140737488355328) (w:World):(Instr.makeSlice 72 (.int .i64 k) (.int .i64 k)).run Tryz.prog w =
 .ok (.slice (some ⟨w.heap.size,0,none⟩) k k) (w.alloc (.cells (iM (List.replicate k 0)) 5)):=by
 obtain⟨i,hi,hzz⟩:=Option.map_eq_some_iff.1 sI;simp only[Prod.mk.injEq] at hzz;rw[run_make w 72 5 i (.int .u8 0) Tryz.underlying72 hi hzz.1 .i64 .i64 k k QI QI (by rw[hzz.2.2]; omega) QI];have e:madeCells (Value.int .u8 0).cells ((k:Int).toNat*i.size)=iM (List.replicate k 0):=by
  rw[hzz.2.1];simp[madeCells,iM,bR,Value.cells];apply Array.ext
  ·simp
  ·intro j a b;simp[Nat.mod_one]
 rw[e];rfl
theorem I4 (n:Int) (k m:Nat) (h:m<k):(be n k).drop m=UInt8.ofNat ((n / (2 ^ (8*(k - 1 - m)):Int)) % 256).toNat::(be n k).drop (m+1):=by
 rw[List.drop_eq_getElem_cons (by simpa [be] using h)];simp[be]
theorem Gw (n:Int) (a:Nat):n / 2 ^ (8*a) / 256=n / (2 ^ (8*(a+1)):Int):=by
 have hp:(0:Int)<2 ^ (8*a):=Int.pow_pos QJ;rw[show 8*(a+1)=8*a+8 by omega,Int.pow_add,<- Int.ediv_ediv_of_nonneg (Int.le_of_lt hp)];rfl
theorem I5 (q:Int):(q.tmod 256=q % 256/\0<=q.tmod 256)\/(q.tmod 256=q % 256 - 256/\q.tmod 256<0):=by
 rw[Int.tmod_eq_emod];split
 ·left; omega
 ·rename_i h;right;have: ¬ (256 ∣ q):=fun hd=>h (.inr hd);omega
theorem I6 (q:Int):(q - q % 256).tdiv 256=q / 256:=by
 have e:q - q % 256=q / 256*256:=by omega
 rw[e,Int.mul_tdiv_cancel _ QJ]
theorem I7 (n:Int) (a:Nat) (b: -9223372036854775808<=n) (c:n<=9223372036854775807): -9223372036854775808<=n / 2 ^ a/\n / 2 ^ a<=9223372036854775807:=by
 have hp:(0:Int)<2 ^ a:=Int.pow_pos QJ;generalize (2 ^ a:Int)=p at *;constructor
 ·rcases Int.lt_or_le n 0 with h | h
  ·have:n<=n / p:=by
    rw[Int.le_ediv_iff_mul_le hp];have:n*p<=n*1:=Int.mul_le_mul_of_nonpos_left QI QI;omega
   omega
  ·have:=Int.ediv_nonneg h (Int.le_of_lt hp);omega
 ·rcases Int.lt_or_le n 0 with h | h
  ·have:=Int.ediv_neg_of_neg_of_pos h hp;omega
  ·have:=Int.ediv_le_self p h;omega
theorem vf {w wr:World} {g k m:Nat} {n q d:Int} (hm:m+1<=k) (hs:St (fun _=>False) w [aR g 5 (iM (List.replicate (m+1) 0++(be n k).drop (m+1)))] wr)
 (hd:(be n k).drop m=UInt8.ofNat ((n / (2 ^ (8*(k - 1 - m)):Int)) % 256).toNat::(be n k).drop (m+1)) (hq:q=n / 2 ^ (8*(k - 1 - m))) (he:d=q % 256) :
 St (fun _=>False) w [aR g 5 (iM (List.replicate m 0++(be n k).drop m))] (wr.setCell ⟨g,m,none⟩ (.int .u8 d)):=by
 have h:=hs.set 0 rfl m (.int .u8 d);have e:(.int .u8 d:Value)= .int .u8 (UInt8.ofNat (q % 256).toNat).toNat:=by
  congr 1;simp[UInt8.toNat_ofNat'];omega
 have a:(List.replicate (m+1) (0:UInt8)++(be n k).drop (m+1)).set m (UInt8.ofNat (q % 256).toNat)=List.replicate m 0++(be n k).drop m:=by
  rw[hd,<- hq,List.replicate_succ',Nd,List.set_append_right _ _ (by simp)];simp
 rw[e,Bg,a,<- e] at h;exact h
theorem CH (n:Int) (k:Nat) (a: -9223372036854775808<=n) (b:n<=9223372036854775807) (hk:k<=8) :
 mf Tryz.prog 63 #[.int .i64 n,.int .i64 k] (fun v N=>v= .string (aW (be n k))/\N = []):=by
 intro w;have hmk:=CG k QI;go_enter Tryz.func63,Tryz.ntmps63
 go_wp2_with fail
 have HW:=Lib.hid ((LH w).alloc (iM (List.replicate k 0)) 5);clear hmk
 go_loopw [0,6] (fun q i wr=> ∃ j:Nat,j<=k/\i= .int .i64 ((j:Int) - 1)/\q= .int .i64 (n / 2 ^ (8*(k - j)))/\St (fun _=>False) w [aR w.heap.size 5 (iM (List.replicate j 0++(be n k).drop j))] wr) (fun _ i _=>(intOf i+1).toNat)
 case atStart=>exact⟨k,by omega,rfl,by simp,by
  have e:(be n k).drop k = []:=List.drop_of_length_le (by simp[be]);rw[e,Nx];exact HW.out⟩
 case round =>
  obtain⟨j,hj,rfl,rfl,hst⟩:=hrel;have hr:=I7 n (8*(k - j)) a b
  cases j with
  | zero =>
   have hs:=hst.blk 0 rfl;have HS:=Lib.hid hst;clear hst hr;have hrow:wr.ownsRow 0 5 1 (.slice (some ⟨w.heap.size,0,none⟩) k k) k (bR (be n k)):=by
    refine⟨by simp[bR,be],.inr ⟨w.heap.size,k,_,rfl,Nn _,hs,NA _,by simp[maxLen]; omega,?_,?_⟩⟩
    ·simp[iM,bR,be]
    ·simp only[iM,List.replicate_zero,Nm,List.drop_zero,Nat.mul_one];exact List.take_of_length_le (by simp[bR,be])
   have hc:=wA (P:=Tryz.prog) wr (src:=72) (dst:=9) Tryz.underlying72 Tryz.underlying5 Tryz.underlying9 hrow;have HR:=Lib.hid hrow;clear hrow hs;go_wp2_with fail
   go_ret
   exact⟨_,_,rfl,⟨rfl,rfl⟩,HS.out.drop_⟩
  | succ m =>
   rw[show ((m+1:Nat):Int) - 1=m by omega];have hs:=hst.blk 0 rfl;have hcell:wr.cell? ⟨w.heap.size,m,none⟩=some (.int .u8 0):=by
    rw[bp hs m,Bf,List.getElem?_append_left (by simp)];simp
   have hfree:wr.frozen? ⟨w.heap.size,m,none⟩=false:=bZ hs m;have HN:=Lib.hid (Gw n (k - (m+1)));have HQ:=Lib.hid (show n / 2 ^ (8*(k - (m+1)))=n / 2 ^ (8*(k - 1 - m)) by rw[show k - (m+1)=k - 1 - m by omega]);have HS:=Lib.hid hst;clear hst hs;have hr1:=hr.1;have hr2:=hr.2;clear hr;have HD:=Lib.hid (I4 n k m QI);generalize hq:n / 2 ^ (8*(k - (m+1)))=q at *;clear hq;have hd:=I6 q;rcases I5 q with⟨hm,hneg⟩ | ⟨hm,hneg⟩
   ·have hb1:q.tmod 256<256:=by omega
    have hb2: -9223372036854775808<=q - q.tmod 256:=by omega
    have hb3:q - q.tmod 256<=9223372036854775807:=by omega
    have HM:=Lib.hid hm;have HDV:=Lib.hid hd;clear hm hd;go_wp2_with fail
    go_roundw
    case rel =>
     refine⟨m,by omega,rfl,?_,vf hj HS.out HD.out HQ.out HM.out⟩;rw[HM.out,HDV.out,HN.out,show k - (m+1)+1=k - m by omega]
    case measure=>simp[intOf]
   ·have hb1: -256<=q.tmod 256:=by omega
    have hb2: -9223372036854775808<=q - (q.tmod 256+256):=by omega
    have hb3:q - (q.tmod 256+256)<=9223372036854775807:=by omega
    have HM:=Lib.hid (show q.tmod 256+256=q % 256 by omega);have HDV:=Lib.hid hd;clear hm hd;go_wp2_with fail
    go_roundw
    case rel =>
     refine⟨m,by omega,rfl,?_,vf hj HS.out HD.out HQ.out HM.out⟩;rw[HM.out,HDV.out,HN.out,show k - (m+1)+1=k - m by omega]
    case measure=>simp[intOf]
theorem Ec (n:Int) (k j:Nat) (h:j<k):(be n k).take (j+1)=(be n k).take j ++ [UInt8.ofNat ((n / (2 ^ (8*(k - 1 - j)):Int)) % 256).toNat]:=by
 rw[List.take_succ_eq_append_getElem (by simpa [be] using h)];simp[be]
theorem Bh (n:Int) (k:Nat) (a:1<=k) (b:k<=8):bG n k=true ↔ -(2 ^ (8*k - 1):Int)<=n/\n<(2 ^ (8*k - 1):Int):=by
 simp[bG];generalize (2 ^ (8*k - 1):Int)=z;omega
theorem Bi (q:Int):((UInt8.ofNat (q % 256).toNat).toNat:Int)=q % 256:=by
 simp[UInt8.toNat_ofNat'];omega
theorem Fm (n:Int) (k:Nat) (a:k<=8) (hf:bG n k=true): ∀ j:Nat,j+1<=k->bb ((be n k).take (j+1))=n / 2 ^ (8*(k - 1 - j)):=by
 intro j
 induction j with
 | zero =>
  intro h;have hb:=(Bh n k QI a).1 hf;rw[Ec n k 0 QI];have b:(2 ^ (8*k - 1):Int)=128*2 ^ (8*(k - 1 - 0)):=by
   rw[show 8*k - 1=7+8*(k - 1 - 0) by omega,Int.pow_add];rfl
  rw[b] at hb;have hp:(0:Int)<2 ^ (8*(k - 1 - 0)):=Int.pow_pos QJ;have hl: -128<=n / 2 ^ (8*(k - 1 - 0)):=by
   rw[Int.le_ediv_iff_mul_le hp]; omega
  have hu:n / 2 ^ (8*(k - 1 - 0))<128:=by
   rw[Int.ediv_lt_iff_lt_mul hp]; omega
  generalize n / 2 ^ (8*(k - 1 - 0))=q at *;have hv:=Bi q;generalize (UInt8.ofNat (q % 256).toNat)=c at *;simp[bb,sgn];split <;> omega
 | succ j ih =>
  intro h;have d:=ih QI;rw[Ec n k (j+1) QI,rZ _ _ (rK (by simp[be]; omega) QI),d,Bi];have e:=Gw n (k - 1 - (j+1));rw[show k - 1 - (j+1)+1=k - 1 - j by omega] at e;omega
theorem Bj (n:Int) (k:Nat) (b:1<=k) (a:k<=8) (hf:bG n k=true):bb (be n k)=n:=by
 have h:=Fm n k a hf (k - 1) QI;rw[show k - 1+1=k by omega,List.take_of_length_le (by simp[be])] at h;rw[h,show k - 1 - (k - 1)=0 by omega];simp
theorem I8 (n:Int) (k:Nat) (a:1<=k) (b:k<=8):(bb (be n k)=n)↔bG n k=true:=by
 constructor
 ·intro h;rw[Bh n k a b,<- h];have:=qh (be n k) (by intro he; have:=congrArg List.length he; simp[be] at this; omega);rw[aZ] at this;rw[h] at this ⊢;exact this
 ·exact Bj n k a b
def Exit.jumps (J:Nat->Act->World->Prop) (Q:Exit->Act->World->Prop):Exit->Act->World->Prop
 | .goto l,a,w=>J l a w
 | e,a,w=>Q e a w
section
variable {J:Nat->Act->World->Prop} {Q:Exit->Act->World->Prop} {a:Act} {w:World}
end
section
variable {P:Program} {a:Act} {w:World} {Q:Exit->Act->World->Prop}
theorem vD {c:Code} (J:Nat->Act->World->Prop) (μ:Nat->Act->World->Nat)
 (pass: ∀ l a w,J l a w-> ∃ rest,findLabel c l=some (Code.skip.seq rest)/\rest.wp P (Exit.jumps (fun l' a' w'=>J l' a' w'/\μ l' a' w'<μ l a w) Q) a w)
 (first:(∀ l rest a w,findLabel c l=some (Code.skip.seq rest)->J l a w->rest.wp P (Exit.jumps J Q) a w)->c.wp P (Exit.jumps J Q) a w):(Code.scope c).wp P Q a w:=by
 intro b k cs;have hg: ∀ l rest,findLabel c l=some rest->gotoIn l (.inScope c::k)=some (.code rest :: .inScope c::k):=fun l rest hf=>by simp[gotoIn,hf]
 have key: ∀ n l rest a w,findLabel c l=some (Code.skip.seq rest)->μ l a w=n->J l a w-> ∃ e a' w',Q e a' w'/\Arrives P (lone (b.at a (.code (Code.skip.seq rest) :: .inScope c::k)) cs w) b k cs e a' w':=by
  intro n
  induction n using Nat.strongRecOn with
  | _ n ih =>
   intro l rest a w hf hn hJ;obtain⟨rest',hf',hp⟩:=pass l a w hJ;rw[hf] at hf';injection hf' with hf';injection hf' with _ hf';subst hf';obtain⟨e,a₁,w₁,hq,harr⟩:=wp_seq (wp_skip (Q:=Exit.then _ _) hp) b (.inScope c::k) cs
   cases e with
   | normal=>exact⟨.normal,a₁,w₁,hq,Steps.trans harr (.one step_inScope)⟩
   | exit id=>exact⟨.exit id,a₁,w₁,hq,fun k' hk=>harr k' (by simp[exitTo,hk])⟩
   | goto l' =>
    obtain⟨hJ',hlt⟩:=hq;obtain⟨rest₂,hf₂,_⟩:=pass l' a₁ w₁ hJ';obtain⟨e₂,a₂,w₂,hq₂,harr₂⟩:=ih _ QI l' rest₂ a₁ w₁ hf₂ rfl hJ';exact⟨e₂,a₂,w₂,hq₂,.of_steps (harr _ (hg _ _ hf₂)) harr₂⟩
   | ret=>exact⟨_,a₁,w₁,hq,harr⟩
   | panic ch=>exact⟨_,a₁,w₁,hq,harr⟩
   | outgrown=>exact⟨_,a₁,w₁,hq,harr⟩
 obtain⟨e,a₁,w₁,hq,harr⟩:=first (fun l rest a w hf hJ=>by
  obtain⟨rest',hf',hp⟩:=pass l a w hJ;rw[hf] at hf';injection hf' with hf';injection hf' with _ hf';subst hf';refine wp_mono hp ?_;intro e a' w' h;cases e <;> first | exact h | exact h.1) b (.inScope c::k) cs
 cases e with
 | normal=>exact⟨.normal,a₁,w₁,hq,.head step_scope (Steps.trans harr (.one step_inScope))⟩
 | exit id=>exact⟨.exit id,a₁,w₁,hq,fun k' hk=> .head step_scope (harr k' (by simp[exitTo,hk]))⟩
 | goto l' =>
  obtain⟨rest₂,hf₂,_⟩:=pass l' a₁ w₁ hq;obtain⟨e₂,a₂,w₂,hq₂,harr₂⟩:=key _ l' rest₂ a₁ w₁ hf₂ rfl hq;exact⟨e₂,a₂,w₂,hq₂,.of_steps (.head step_scope (harr _ (hg _ _ hf₂))) harr₂⟩
 | ret=>exact⟨_,a₁,w₁,hq,.of_steps (.one step_scope) harr⟩
 | panic ch=>exact⟨_,a₁,w₁,hq,.of_steps (.one step_scope) harr⟩
 | outgrown=>exact⟨_,a₁,w₁,hq,.of_steps (.one step_scope) harr⟩
end
def eR (n:Nat):AI:=if n<128 then [UInt8.ofNat n] else UInt8.ofNat (n % 128+128)::eR (n / 128)
termination_by n
decreasing_by omega
def bX (n:Int):Nat:=if n<0 then (-(n+1)).toNat*2+1 else n.toNat*2
def eN (n:Nat):Int:=if n % 2=1 then -((n / 2:Nat):Int) - 1 else ((n / 2:Nat):Int)
theorem Bk (k:Nat): ∀ n:Nat,n<128 ^ (k+1)->(eR n).length<=k+1:=by
 induction k with
 | zero=>intro n h; rw[eR,QM (by simpa using h)]; simp
 | succ k ih =>
  intro n h;rw[eR];split
  ·simp
  ·have:=ih (n / 128) (by rw[Nat.div_lt_iff_lt_mul QJ]; rwa [Nat.pow_succ] at h);simp; omega
theorem mI (n:Nat):1<=(eR n).length:=by rw[eR]; split <;> simp
theorem Bm (n:Nat) (h:n<18446744073709551616):(eR n).length<=10:=Bk 9 n QI
theorem wC (n:Int) (a: -9223372036854775808<=n) (b:n<=9223372036854775807):bX n<18446744073709551616:=by unfold bX; split <;> omega
theorem CI (n:Int):eN (bX n)=n:=by unfold eN bX; split <;> split <;> omega
theorem CJ (n:Nat):bX (eN n)=n:=by unfold eN bX; split <;> split <;> omega
theorem I9 (n:Int) (c: -9223372036854775808<=n) (d:n<=9223372036854775807) :
 bits .xor .u64 (IntKind.u64.wrap (wrap64 (n*2))) (IntKind.u64.wrap (n / 9223372036854775808))=(bX n:Int):=by
 have b:IntKind.u64.wrap (wrap64 (n*2))=(n*2) % 18446744073709551616:=by rw[IntKind.wrap_u64]; unfold wrap64; omega
 rw[b];show IntKind.u64.wrap ((BitVec.ofInt 64 _ ^^^ BitVec.ofInt 64 _).toNat:Int)= _;rcases Int.lt_or_le n 0 with h | h
 ·have a:IntKind.u64.wrap (n / 9223372036854775808)=18446744073709551615:=by rw[IntKind.wrap_u64]; omega
  rw[a,show BitVec.ofInt 64 18446744073709551615=BitVec.allOnes 64 by decide,BitVec.xor_allOnes,BitVec.toNat_not,BitVec.toNat_ofInt,IntKind.wrap_u64];simp only[bX,QM h];omega
 ·have a:IntKind.u64.wrap (n / 9223372036854775808)=0:=by rw[IntKind.wrap_u64]; omega
  rw[a,show BitVec.ofInt 64 0=0#64 by decide,BitVec.xor_zero,BitVec.toNat_ofInt,IntKind.wrap_u64];simp only[bX,QO (show ¬ n<0 by omega)];omega
theorem Ed (n m:Nat) (hn:n<18446744073709551616) (hm:m<18446744073709551616):bits .and .u64 n m=((n &&& m:Nat):Int):=by
 show IntKind.u64.wrap ((BitVec.ofInt 64 _ &&& BitVec.ofInt 64 _).toNat:Int)= _;rw[BitVec.toNat_and,BitVec.toNat_ofInt,BitVec.toNat_ofInt,IntKind.wrap_u64];have a:((n:Int) % (2 ^ 64:Nat)).toNat=n:=by omega
 have b:((m:Int) % (2 ^ 64:Nat)).toNat=m:=by omega
 rw[a,b];have:n &&& m<=m:=Nat.and_le_right;omega
theorem Fo (n:Nat) (hn:n<18446744073709551616):bits .and .u64 n 1=((n % 2:Nat):Int):=by
 have h:=Ed n 1 hn QJ;rw[Nat.and_one_is_mod] at h;exact h
theorem Ja (n:Nat) (hn:n<18446744073709551616):bits .xor .i64 ((n:Int) / 2) (wrap64 (-wrap64 (bits .and .u64 n 1)))=eN n:=by
 rw[Fo n hn];show IntKind.i64.wrap ((BitVec.ofInt 64 _ ^^^ BitVec.ofInt 64 _).toNat:Int)= _;rcases Nat.mod_two_eq_zero_or_one n with h | h
 ·rw[h];have a:wrap64 (-wrap64 ((0:Nat):Int))=0:=by unfold wrap64; omega
  rw[a,show BitVec.ofInt 64 0=0#64 by decide,BitVec.xor_zero,BitVec.toNat_ofInt,IntKind.wrap_i64];simp only[eN,h];simp;omega
 ·rw[h];have a:wrap64 (-wrap64 ((1:Nat):Int))= -1:=by unfold wrap64; omega
  rw[a,show BitVec.ofInt 64 (-1)=BitVec.allOnes 64 by decide,BitVec.xor_allOnes,BitVec.toNat_not,BitVec.toNat_ofInt,IntKind.wrap_i64];simp only[eN,h];simp;omega
theorem Jb: ∀ x:Fin 256,bits .or .u8 ((x.val:Nat):Int) 128=((x.val % 128+128:Nat):Int):=by decide
theorem or_128 (x:Nat) (h:x<256):bits .or .u8 (x:Int) 128=((x % 128+128:Nat):Int):=Jb ⟨x,h⟩
theorem yM (n:Int) (a: -9223372036854775808<=n) (b:n<=9223372036854775807) (w:World) :
 Calls Tryz.prog 216 #[.int .i64 n] w fun e w'=>e= .returned (.int .u64 (bX n))/\w=w':=by
 have H:=Lib.hid (I9 n a b);go_enter Tryz.func216,Tryz.ntmps216
 go_wp2_with fail
 go_ret
 exact⟨km H.out,rfl⟩
theorem yN (n:Nat) (hn:n<18446744073709551616) (w:World) :
 Calls Tryz.prog 177 #[.int .u64 n] w fun e w'=>e= .returned (.int .i64 (eN n))/\w=w':=by
 have H:=Lib.hid (Ja n hn);go_enter Tryz.func177,Tryz.ntmps177
 go_wp2_with fail
 go_ret
 exact⟨km H.out,rfl⟩
theorem yO (b:Nat) (st:AI×Int) (n:Nat) (hn:n<18446744073709551616) (hl:st.1.length+10<=140737488355328) :
 hN Tryz.prog 215 #[.pointer (some ⟨b,0,none⟩),.int .u64 n] (bz b st) (fun v A' N=>v= .tuple #[]/\A'=bz b (jJ st (eR n))/\N = []):=by
 intro F w hA;have HA:=Lib.hid (Lc F w (Sep.one hA));clear hA;have HT:=Lib.hid (Bm n hn);go_enter Tryz.func215,Tryz.ntmps215
 go_wp2_with fail
 go_loopw [1] (fun i wr=> ∃ (m:Nat) (p:AI),m<=n/\p++eR m=eR n/\i= .int .u64 m/\St F w [bz b (jJ st p)] wr) (fun i _=>(intOf i).toNat)
 case atStart=>exact⟨n,[],NA _,rfl,rfl,by rw[Bd]; exact HA.out⟩
 case round =>
  obtain⟨m,p,hm,hp,rfl,hst⟩:=hrel;have hlen:(jJ st p).1.length+1<=140737488355328:=by
   have g:=sJ st p;have f:=HT.out;have h:=mI m;rw[<- hp,M8] at f;omega
  have HS:=Lib.hid hst;clear hst;by_cases hlt:128<=m
  ·have ho:=or_128 (m % 256) QI;have c:(m:Int) % 256=((m % 256:Nat):Int):=by omega
   rw[<- c] at ho;have d:m % 256 % 128=m % 128:=by omega
   rw[d] at ho;have HO:=Lib.hid ho;have HP:=Lib.hid (show p ++ [UInt8.ofNat (m % 128+128)]++eR (m / 128)=eR n by rw[<- hp,eR.eq_1 m,QO QI]; simp);clear hp ho c d;go_wp2_with fail
   rw[HO.out];refine (HS.out.call 0 rfl (o7 b _ ((m % 128+128:Nat):Int) QI QI hlen)).mono ?_;rintro e w1 ⟨v,A',N,rfl,⟨rfl,rfl,rfl⟩,a⟩;rw[tH,Nu] at a;have HS1:=Lib.hid a;clear a;go_wp2_with fail
   go_roundw
   case rel=>exact⟨m / 128,_,by omega,HP.out,by go_num,HS1.out⟩
   case measure=>simp[intOf]; omega
  ·have c:(m:Int) % 256=((m:Nat):Int):=by omega
   have HO:=Lib.hid c;have HP:=Lib.hid (show p ++ [UInt8.ofNat m]=eR n by rw[<- hp,eR.eq_1 m,QM QI]);clear hp c;go_wp2_with fail
   refine (HS.out.call 0 rfl (o7 b _ (m:Int) QI QI hlen)).mono ?_;rintro e w1 ⟨v,A',N,rfl,⟨rfl,rfl,rfl⟩,a⟩;rw[tH,Nu,HP.out] at a;have HS1:=Lib.hid a;clear a;go_wp2_with fail
   go_end0
   exact⟨_,_,_,rfl,⟨rfl,rfl,rfl⟩,HS1.out⟩
theorem yq (b:Nat) (st:AI×Int) (n:Int) (a: -9223372036854775808<=n) (c:n<=9223372036854775807) (hl:st.1.length+10<=140737488355328) :
 hN Tryz.prog 181 #[.pointer (some ⟨b,0,none⟩),.int .i64 n] (bz b st) (fun v A' N=>v= .tuple #[]/\A'=bz b (jJ st (eR (bX n)))/\N = []):=by
 intro F w hA;have HA:=Lib.hid (Lc F w (Sep.one hA));clear hA;go_enter Tryz.func181,Tryz.ntmps181
 go_wp2_with fail
 refine (yM n a c w).mono ?_;rintro e w' ⟨rfl,rfl⟩;go_wp2_with fail
 refine (HA.out.call 0 rfl (yO b _ (bX n) (wC n a c) hl)).mono ?_;rintro e w1 ⟨v,A',N,rfl,⟨rfl,rfl,rfl⟩,d⟩;have HS1:=Lib.hid d;clear d;go_wp2_with fail
 go_end0
 exact⟨_,_,_,rfl,⟨rfl,rfl,rfl⟩,HS1.out⟩
def mt (st:AI×Int) (n:Int):AI×Int:=if -2147483648<=n/\n<=2147483647 then jJ st (eR (bX n)) else mH st 11
theorem jX (n:Int):bG n 4=decide (-2147483648<=n/\n<=2147483647):=by
 have a:(2 ^ (8*(4:Int).toNat - 1):Int)=2147483648:=by decide
 unfold bG;rw[a,Bool.eq_iff_iff];simp
theorem sL (b:Nat) (st:AI×Int) (n:Int) (c: -9223372036854775808<=n) (d:n<=9223372036854775807) (hl:st.1.length+10<=140737488355328) :
 hN Tryz.prog 182 #[.pointer (some ⟨b,0,none⟩),.int .i64 n] (bz b st) (fun v A' N=>v= .tuple #[]/\A'=bz b (mt st n)/\N = []):=by
 intro F w hA;have HA:=Lib.hid (Lc F w (Sep.one hA));clear hA;by_cases hf: -2147483648<=n/\n<=2147483647
 ·have HF:=Lib.hid (show bG n 4=true by rw[jX]; simp[hf]);have HE:=Lib.hid (show mt st n=jJ st (eR (bX n)) by simp[mt,hf]);go_enter Tryz.func182,Tryz.ntmps182
  go_wp2_with fail
  refine (qg n 4 w c d).mono ?_;rintro e w' ⟨rfl,rfl⟩;rw[HF.out];go_wp2_with fail
  refine (yM n c d w).mono ?_;rintro e w' ⟨rfl,rfl⟩;go_wp2_with fail
  refine (HA.out.call 0 rfl (yO b _ (bX n) (wC n c d) hl)).mono ?_;rintro e w1 ⟨v,A',N,rfl,⟨rfl,rfl,rfl⟩,a⟩;have HS1:=Lib.hid a;clear a;go_wp2_with fail
  go_end0
  exact⟨_,_,_,rfl,⟨rfl,by rw[HE.out],rfl⟩,HS1.out⟩
 ·have HF:=Lib.hid (show bG n 4=false by rw[jX]; simp; omega);have HE:=Lib.hid (show mt st n=mH st 11 by simp[mt,hf]);clear hf;go_enter Tryz.func182,Tryz.ntmps182
  go_wp2_with fail
  refine (qg n 4 w c d).mono ?_;rintro e w' ⟨rfl,rfl⟩;rw[HF.out];go_wp2_with fail
  refine (HA.out.call 0 rfl (rd b st 11)).mono ?_;rintro e w1 ⟨v,A',N,rfl,⟨rfl,rfl,rfl⟩,a⟩;have HS1:=Lib.hid a;clear a;go_wp2_with fail
  go_end0
  exact⟨_,_,_,rfl,⟨rfl,by rw[HE.out],rfl⟩,HS1.out⟩
def vgo (bits:Int):AI->Nat->Nat->Nat->Nat×I
 | [],pos,acc,i=>(0,⟨[],pos,1⟩)
 | c::l,pos,acc,i =>
  if bits - 7*i<=0\/(bits - 7*i<7/\c.toNat % 128 / 2 ^ (bits - 7*i).toNat≠0) then (0,⟨l,pos+1,3⟩)
  else if 128<=c.toNat then vgo bits l (pos+1) (acc+c.toNat % 128*2 ^ (7*i)) (i+1)
  else if c.toNat=0/\0<i then (0,⟨l,pos+1,3⟩)
  else (acc+c.toNat % 128*2 ^ (7*i),⟨l,pos+1,0⟩)
def fh (bits:Int) (st:I):Nat×I:=if st.err≠0 then (0,st) else vgo bits st.rest st.pos 0 0
theorem Fp (c:UInt8) (l:AI) (pos:Nat):cy ⟨c::l,pos,0⟩ 1=([c],⟨l,pos+1,0⟩):=by
 unfold cy;rw[QO (by simp),QO QI,QO (by simp only[Ng]; omega)];simp
theorem CK (pos:Nat):cy ⟨[],pos,0⟩ 1=([],⟨[],pos,1⟩):=by
 unfold cy;rw[QO (by simp),QO QI,QM (by simp)]
 done
theorem vg (d:Nat) (hd:d<256):bits .and .u64 d 127=((d % 128:Nat):Int):=by
 have h:=Ed d 127 QI QJ;rw[Nat.and_two_pow_sub_one_eq_mod d 7] at h;exact h
theorem yP (k:Nat) {d:Nat} (hd:d<256):(bits .and .u64 d 127 / 2 ^ k != 0)=decide (d % 128 / 2 ^ k≠0):=by
 rw[vg d hd,show ((d % 128:Nat):Int) / 2 ^ k=((d % 128 / 2 ^ k:Nat):Int) by rw[Int.natCast_ediv,Int.natCast_pow]; rfl];generalize d % 128 / 2 ^ k=z;rw[Bool.eq_iff_iff];simp
theorem z5: ∀ d:Fin 256,(bits .and .u64 ((d.val:Nat):Int) 128 != 0)=decide (128<=d.val):=by decide
theorem nG (d:Nat) (hd:d<256):(bits .and .u64 d 128 != 0)=decide (128<=d):=z5 ⟨d,hd⟩
theorem nH (bs:Int) (hb:bs=32\/bs=64) (acc x i:Nat) (hacc:acc<2 ^ (7*i)) (hl:0<bs - 7*i) (hx:x<128) (hd: ¬ (bs - 7*i<7/\x / 2 ^ (bs - 7*i).toNat≠0)) :
 acc+x*2 ^ (7*i)<2 ^ (7*(i+1))/\acc+x*2 ^ (7*i)<2 ^ bs.toNat:=by
 have a:2 ^ (7*(i+1))=128*2 ^ (7*i):=by rw[show 7*(i+1)=7+7*i by omega,Nat.pow_add]
 have b:2 ^ bs.toNat=2 ^ (bs - 7*i).toNat*2 ^ (7*i):=by rw[<- Nat.pow_add]; congr 1; omega
 have c:x<2 ^ (bs - 7*i).toNat:=by
  by_cases d:bs - 7*i<7
  ·have e:x / 2 ^ (bs - 7*i).toNat=0:=by
    rcases Nat.eq_zero_or_pos (x / 2 ^ (bs - 7*i).toNat) with h | h
    ·exact h
    ·exact absurd ⟨d,by omega⟩ hd
   exact (Nat.div_eq_zero_iff.1 e).resolve_left (by have:=Nat.two_pow_pos (bs - 7*i).toNat; omega)
  ·have:2 ^ 7<=2 ^ (bs - 7*i).toNat:=Nat.pow_le_pow_right QJ QI;omega
 have f:(x+1)*2 ^ (7*i)<=2 ^ (bs - 7*i).toNat*2 ^ (7*i):=Nat.mul_le_mul_right _ c;have g:(x+1)*2 ^ (7*i)<=128*2 ^ (7*i):=Nat.mul_le_mul_right _ hx;rw[Nat.add_mul] at f g;rw[a,b];omega
theorem Ee (bs:Int) (hb:bs=32\/bs=64) (acc d i:Nat) (hacc:acc<2 ^ (7*i)) (hdd:d<256) (hl:0<bs - 7*i) (hd: ¬ (bs - 7*i<7/\d % 128 / 2 ^ (bs - 7*i).toNat≠0)) :
 bits .or .u64 acc (IntKind.u64.wrap (bits .and .u64 d 127*2 ^ (7*i)))=((acc+d % 128*2 ^ (7*i):Nat):Int):=by
 obtain⟨_,g⟩:=nH bs hb acc (d % 128) i hacc hl QI hd;have h:2 ^ bs.toNat<=18446744073709551616:=by rcases hb with rfl | rfl <;> decide
 have hlt:acc+d % 128*2 ^ (7*i)<18446744073709551616:=by omega
 rw[vg d hdd];have b:((d % 128:Nat):Int)*2 ^ (7*i)=((d % 128*2 ^ (7*i):Nat):Int):=by rw[Int.natCast_mul,Int.natCast_pow]; rfl
 have a:=Nat.two_pow_add_eq_or_of_lt hacc (d % 128);rw[Nat.mul_comm] at a;rw[b];generalize d % 128*2 ^ (7*i)=y at *;have c:IntKind.u64.wrap (y:Int)=y:=by rw[IntKind.wrap_u64]; omega
 rw[c];show IntKind.u64.wrap ((BitVec.ofInt 64 _ ||| BitVec.ofInt 64 _).toNat:Int)= _;rw[BitVec.toNat_or,BitVec.toNat_ofInt,BitVec.toNat_ofInt];have e:((acc:Int) % (2 ^ 64:Nat)).toNat=acc:=by omega
 have f:((y:Int) % (2 ^ 64:Nat)).toNat=y:=by omega
 rw[e,f,Nat.or_comm,<- a,IntKind.wrap_u64];omega
attribute [local go_sem] fy bsOf_size
theorem Gx (b:Nat) (st:I) (bs:Int) (c:st.err≠0) :
 hN Tryz.prog 178 #[.pointer (some ⟨b,0,none⟩),.int .i64 bs] (InR b st) (fun v A' N=>v= .int .u64 0/\A'=InR b st/\N = []):=by
 intro F w hA;have HA:=Lib.hid (Lc F w (Sep.one hA));clear hA;have HT:=Lib.hid (show cy st 1=([],st) by simp[cy,c]);go_enter Tryz.func178,Tryz.ntmps178
 go_wp2_with fail
 go_step3
 go_wp2_with fail
 go_step3
 go_wp2_with fail
 refine (HA.out.call 0 rfl (eH b st 1 QI QI)).mono ?_;rintro e w1 ⟨v,A',N,rfl,⟨rfl,rfl,rfl⟩,a⟩;rw[HT.out] at a ⊢;have HS1:=Lib.hid a;clear a;go_wp2_with fail
 go_ret
 exact⟨_,_,_,rfl,⟨rfl,rfl,rfl⟩,HS1.out⟩
def VJ (F:Nat->Prop) (w:World) (b:Nat) (bs:Int) (res:Nat×I) (lab:Nat) (a':Act) (w':World):Prop :=
 (lab=0/\ ∃ (a:AI) (pos1 acc i:Nat),St F w [InR b ⟨a,pos1,0⟩] w'/\acc<2 ^ (7*i)/\7*i<bs+7/\vgo bs a pos1 acc i=res /\
  ∃ Y u8 u9 c d e f g h u16 j k l m n o p q r s t u v x y u32 z A B C D E G H J K L M N O P Q R S T U V W X,a' = { tmps:= #[.pointer (some ⟨b,0,none⟩),.int .i64 bs,undef,undef,.int .u64 0,.int .u64 acc,.int .i64 (7*i),Y,u8,u9,c,d,e,f,g,h,u16,j,k,l,m,n,o,p,q,r,s,t,u,v,x,y,u32,z,A,B,C,D,E,G,H,J,K,L,M,N,O,P,Q,R,S,T,U,V,W,X],defers := [] }) \/
 (lab=1/\ ∃ (a:AI) (pos1:Nat),St F w [InR b ⟨a,pos1,0⟩] w'/\(0,⟨a,pos1,3⟩)=res /\
  ∃ u5 u6 Y u8 u9 c d e f g h u16 j k l m n o p q r s t u v x y u32 z A B C D E G H J K L M N O P Q R S T U V W X,a' = { tmps:= #[.pointer (some ⟨b,0,none⟩),.int .i64 bs,undef,undef,.int .u64 0,u5,u6,Y,u8,u9,c,d,e,f,g,h,u16,j,k,l,m,n,o,p,q,r,s,t,u,v,x,y,u32,z,A,B,C,D,E,G,H,J,K,L,M,N,O,P,Q,R,S,T,U,V,W,X],defers := [] })
def VM (lab:Nat) (a':Act) (_:World):Nat:=if lab=1 then 0 else 100 - (intOf (a'.tmps.getD 6 undef)).toNat
theorem Uns_go (b:Nat) (l:AI) (pos:Nat) (bs:Int) (hb:bs=32\/bs=64) :
 hN Tryz.prog 178 #[.pointer (some ⟨b,0,none⟩),.int .i64 bs] (InR b ⟨l,pos,0⟩) (fun v A' N=>v= .int .u64 (vgo bs l pos 0 0).1/\A'=InR b (vgo bs l pos 0 0).2/\N = []):=by
 intro F w hA;have HA:=Lib.hid (Lc F w (Sep.one hA));clear hA;generalize hres:vgo bs l pos 0 0=res;go_enter Tryz.func178,Tryz.ntmps178
 go_wp2_with fail
 refine vD (VJ F w b bs res) VM ?_ ?_
 ·rintro lab a' w1 (⟨rfl,m,pos1,acc,i,hst,hacc,hi,hg,u7,u8,u9,n,o,p,q,r,s,u16,t,u,x,y,z,A,B,C,D,E,G,H,I,J,K,u32,L,M,O,P,Q,R,S,T,U,V,W,X,Y,aa,ab,ad,ae,af,ag,ah,ai,aj,ak,rfl⟩ | ⟨rfl,m,pos1,hst,hg,u5,u6,u7,u8,u9,n,o,p,q,r,s,u16,t,u,x,y,z,A,B,C,D,E,G,H,I,J,K,u32,L,M,O,P,Q,R,S,T,U,V,W,X,Y,aa,ab,ad,ae,af,ag,ah,ai,aj,ak,rfl⟩)
  ·refine⟨_,rfl,?_⟩;have HS:=Lib.hid hst;have HG:=Lib.hid hg;have HACC:=Lib.hid hacc;have hb1:bs<=64:=by omega
   clear hst hg hacc
   cases m with
   | nil =>
    have HT:=Lib.hid (CK pos1);go_wp2_with fail
    refine (HS.out.call 0 rfl (eH b _ 1 QI QI)).mono ?_;rintro e j ⟨v,A',N,rfl,⟨rfl,rfl,rfl⟩,a⟩;rw[HT.out] at a ⊢;have HS1:=Lib.hid a;clear a;go_wp2_with fail
    go_ret
    exact⟨_,_,_,rfl,⟨by rw[<- HG.out]; rfl,by rw[<- HG.out]; rfl,rfl⟩,HS1.out⟩
   | cons c g =>
    have HT:=Lib.hid (Fp c g pos1);have hsz:=bsOf_size [c];have h0:=qi [c] 0 (by simp[bsOf_size]);simp only[List.getElem_cons_zero] at h0;have hc:c.toNat<256:=c.toNat_lt;by_cases hl:bs - 7*i<=0
    ·have HV:=Lib.hid (show (0,⟨g,pos1+1,3⟩)=res by rw[<- HG.out,vgo,QM (by first | exact .inl hl | exact .inr ⟨by omega,hq⟩)]);by_cases hz:(bits .and .u64 c.toNat 127 != 0)=true
     ·go_wp2_with fail
      refine (HS.out.call 0 rfl (eH b _ 1 QI QI)).mono ?_;rintro e j ⟨v,A',N,rfl,⟨rfl,rfl,rfl⟩,a⟩;rw[HT.out] at a ⊢;have HS1:=Lib.hid a;clear a;go_wp2_with fail
      go_step3
      exact⟨.inr ⟨rfl,g,pos1+1,HS1.out,HV.out,_,_,_,_,_,_,_,_,_,_,_,_,_,_,_,_,_,_,_,_,_,_,_,_,_,_,_,_,_,_,_,_,_,_,_,_,_,_,_,_,_,_,_,_,_,_,_,_,_,_,_,rfl⟩,by simp[VM,intOf]; omega⟩
     ·have hz':(bits .and .u64 c.toNat 127 != 0)=false:=by simpa using hz
      go_wp2_with fail
      refine (HS.out.call 0 rfl (eH b _ 1 QI QI)).mono ?_;rintro e j ⟨v,A',N,rfl,⟨rfl,rfl,rfl⟩,a⟩;rw[HT.out] at a ⊢;have HS1:=Lib.hid a;clear a;go_wp2_with fail
      go_step3
      exact⟨.inr ⟨rfl,g,pos1+1,HS1.out,HV.out,_,_,_,_,_,_,_,_,_,_,_,_,_,_,_,_,_,_,_,_,_,_,_,_,_,_,_,_,_,_,_,_,_,_,_,_,_,_,_,_,_,_,_,_,_,_,_,_,_,_,_,rfl⟩,by simp[VM,intOf]; omega⟩
    ·have hl':0<bs - 7*i:=by omega
     by_cases am:7<=bs - 7*i
     ·have HD:=Lib.hid (show ¬ (bs - 7*i<7/\c.toNat % 128 / 2 ^ (bs - 7*i).toNat≠0) by omega);have HA2:=Lib.hid (Ee bs hb acc c.toNat i HACC.out QI hl' HD.out);have HLT:=Lib.hid (nH bs hb acc (c.toNat % 128) i HACC.out hl' QI HD.out);have HN:=Lib.hid (show ¬ (bs - 7*i<=0\/(bs - 7*i<7/\c.toNat % 128 / 2 ^ (bs - 7*i).toNat≠0)) from fun h=>h.elim (fun h=>by omega) HD.out);by_cases d:128<=c.toNat
      ·have HV:=Lib.hid (show vgo bs g (pos1+1) (acc+c.toNat % 128*2 ^ (7*i)) (i+1)=res by rw[<- HG.out,vgo,QO HN.out,QM d]);have hbt:(bits .and .u64 c.toNat 128 != 0)=true:=by rw[nG _ hc]; simpa using d
       go_wp2_with fail
       refine (HS.out.call 0 rfl (eH b _ 1 QI QI)).mono ?_;rintro e j ⟨v,A',N,rfl,⟨rfl,rfl,rfl⟩,a⟩;rw[HT.out] at a ⊢;have HS1:=Lib.hid a;clear a;go_wp2_with fail
       go_step3
       rw[HA2.out,show (7*(i:Int)+7)=7*((i+1:Nat):Int) by omega];exact⟨.inl ⟨rfl,g,pos1+1,_,i+1,HS1.out,HLT.out.1,by omega,HV.out,_,_,_,_,_,_,_,_,_,_,_,_,_,_,_,_,_,_,_,_,_,_,_,_,_,_,_,_,_,_,_,_,_,_,_,_,_,_,_,_,_,_,_,_,_,_,_,_,_,rfl⟩,by simp[VM,intOf]; omega⟩
      ·have hbt:(bits .and .u64 c.toNat 128 != 0)=false:=by rw[nG _ hc]; simpa using d
       by_cases hz:c.toNat=0/\0<i
       ·have HV:=Lib.hid (show (0,⟨g,pos1+1,3⟩)=res by rw[<- HG.out,vgo,QO HN.out,QO d,QM hz]);obtain⟨f,al⟩:=hz;have k:((c.toNat:Int) == 0)=true:=by simp[f]
        try (have hq0:(bits .and .u64 0 127 / 2 ^ (bs - 7*i).toNat != 0)=false:=by (rw[<- hqb,f]; rfl))
        have hi0:0<7*(i:Int):=by omega
        go_wp2_with fail
        refine (HS.out.call 0 rfl (eH b _ 1 QI QI)).mono ?_;rintro e j ⟨v,A',N,rfl,⟨rfl,rfl,rfl⟩,a⟩;rw[HT.out] at a ⊢;have HS1:=Lib.hid a;clear a;go_wp2_with fail
        go_step3
        exact⟨.inr ⟨rfl,g,pos1+1,HS1.out,HV.out,_,_,_,_,_,_,_,_,_,_,_,_,_,_,_,_,_,_,_,_,_,_,_,_,_,_,_,_,_,_,_,_,_,_,_,_,_,_,_,_,_,_,_,_,_,_,_,_,_,_,_,rfl⟩,by simp[VM,intOf]; omega⟩
       ·have HV:=Lib.hid (show (acc+c.toNat % 128*2 ^ (7*i),⟨g,pos1+1,0⟩)=res by rw[<- HG.out,vgo,QO HN.out,QO d,QO hz]);by_cases f:c.toNat=0
        ·have k:((c.toNat:Int) == 0)=true:=by simp[f]
         try (have hq0:(bits .and .u64 0 127 / 2 ^ (bs - 7*i).toNat != 0)=false:=by (rw[<- hqb,f]; rfl))
         have HA3:=Lib.hid (show bits .or .u64 acc (IntKind.u64.wrap (bits .and .u64 0 127*2 ^ (7*i)))=((acc+c.toNat % 128*2 ^ (7*i):Nat):Int) by rw[<- HA2.out,f]; rfl);have hi0: ¬ (0<7*(i:Int)):=by omega
         go_wp2_with fail
         refine (HS.out.call 0 rfl (eH b _ 1 QI QI)).mono ?_;rintro e j ⟨v,A',N,rfl,⟨rfl,rfl,rfl⟩,a⟩;rw[HT.out] at a ⊢;have HS1:=Lib.hid a;clear a;go_wp2_with fail
         all_goals
          go_ret
          exact⟨_,_,_,rfl,⟨by rw[<- HV.out]; exact congrArg (Value.int IntKind.u64) HA3.out,by rw[<- HV.out],rfl⟩,HS1.out⟩
        ·have k:((c.toNat:Int) == 0)=false:=by simp; omega
         go_wp2_with fail
         refine (HS.out.call 0 rfl (eH b _ 1 QI QI)).mono ?_;rintro e j ⟨v,A',N,rfl,⟨rfl,rfl,rfl⟩,a⟩;rw[HT.out] at a ⊢;have HS1:=Lib.hid a;clear a;go_wp2_with fail
         go_ret
         exact⟨_,_,_,rfl,⟨by rw[<- HV.out]; exact congrArg (Value.int IntKind.u64) HA2.out,by rw[<- HV.out],rfl⟩,HS1.out⟩
     ·by_cases hq:c.toNat % 128 / 2 ^ (bs - 7*i).toNat≠0
      ·have HV:=Lib.hid (show (0,⟨g,pos1+1,3⟩)=res by rw[<- HG.out,vgo,QM (by first | exact .inl hl | exact .inr ⟨by omega,hq⟩)]);have hqb:(bits .and .u64 c.toNat 127 / 2 ^ (bs - 7*i).toNat != 0)=true:=by rw[yP _ hc]; simpa using hq
       go_wp2_with fail
       refine (HS.out.call 0 rfl (eH b _ 1 QI QI)).mono ?_;rintro e j ⟨v,A',N,rfl,⟨rfl,rfl,rfl⟩,a⟩;rw[HT.out] at a ⊢;have HS1:=Lib.hid a;clear a;go_wp2_with fail
       go_step3
       exact⟨.inr ⟨rfl,g,pos1+1,HS1.out,HV.out,_,_,_,_,_,_,_,_,_,_,_,_,_,_,_,_,_,_,_,_,_,_,_,_,_,_,_,_,_,_,_,_,_,_,_,_,_,_,_,_,_,_,_,_,_,_,_,_,_,_,_,rfl⟩,by simp[VM,intOf]; omega⟩
      ·have hqb:(bits .and .u64 c.toNat 127 / 2 ^ (bs - 7*i).toNat != 0)=false:=by rw[yP _ hc]; simpa using hq
       have HD:=Lib.hid (show ¬ (bs - 7*i<7/\c.toNat % 128 / 2 ^ (bs - 7*i).toNat≠0) by omega);have HA2:=Lib.hid (Ee bs hb acc c.toNat i HACC.out QI hl' HD.out);have HLT:=Lib.hid (nH bs hb acc (c.toNat % 128) i HACC.out hl' QI HD.out);have HN:=Lib.hid (show ¬ (bs - 7*i<=0\/(bs - 7*i<7/\c.toNat % 128 / 2 ^ (bs - 7*i).toNat≠0)) from fun h=>h.elim (fun h=>by omega) HD.out);by_cases d:128<=c.toNat
       ·have HV:=Lib.hid (show vgo bs g (pos1+1) (acc+c.toNat % 128*2 ^ (7*i)) (i+1)=res by rw[<- HG.out,vgo,QO HN.out,QM d]);have hbt:(bits .and .u64 c.toNat 128 != 0)=true:=by rw[nG _ hc]; simpa using d
        go_wp2_with fail
        refine (HS.out.call 0 rfl (eH b _ 1 QI QI)).mono ?_;rintro e j ⟨v,A',N,rfl,⟨rfl,rfl,rfl⟩,a⟩;rw[HT.out] at a ⊢;have HS1:=Lib.hid a;clear a;go_wp2_with fail
        go_step3
        rw[HA2.out,show (7*(i:Int)+7)=7*((i+1:Nat):Int) by omega];exact⟨.inl ⟨rfl,g,pos1+1,_,i+1,HS1.out,HLT.out.1,by omega,HV.out,_,_,_,_,_,_,_,_,_,_,_,_,_,_,_,_,_,_,_,_,_,_,_,_,_,_,_,_,_,_,_,_,_,_,_,_,_,_,_,_,_,_,_,_,_,_,_,_,_,rfl⟩,by simp[VM,intOf]; omega⟩
       ·have hbt:(bits .and .u64 c.toNat 128 != 0)=false:=by rw[nG _ hc]; simpa using d
        by_cases hz:c.toNat=0/\0<i
        ·have HV:=Lib.hid (show (0,⟨g,pos1+1,3⟩)=res by rw[<- HG.out,vgo,QO HN.out,QO d,QM hz]);obtain⟨f,al⟩:=hz;have k:((c.toNat:Int) == 0)=true:=by simp[f]
         try (have hq0:(bits .and .u64 0 127 / 2 ^ (bs - 7*i).toNat != 0)=false:=by (rw[<- hqb,f]; rfl))
         have hi0:0<7*(i:Int):=by omega
         go_wp2_with fail
         refine (HS.out.call 0 rfl (eH b _ 1 QI QI)).mono ?_;rintro e j ⟨v,A',N,rfl,⟨rfl,rfl,rfl⟩,a⟩;rw[HT.out] at a ⊢;have HS1:=Lib.hid a;clear a;go_wp2_with fail
         go_step3
         exact⟨.inr ⟨rfl,g,pos1+1,HS1.out,HV.out,_,_,_,_,_,_,_,_,_,_,_,_,_,_,_,_,_,_,_,_,_,_,_,_,_,_,_,_,_,_,_,_,_,_,_,_,_,_,_,_,_,_,_,_,_,_,_,_,_,_,_,rfl⟩,by simp[VM,intOf]; omega⟩
        ·have HV:=Lib.hid (show (acc+c.toNat % 128*2 ^ (7*i),⟨g,pos1+1,0⟩)=res by rw[<- HG.out,vgo,QO HN.out,QO d,QO hz]);by_cases f:c.toNat=0
         ·have k:((c.toNat:Int) == 0)=true:=by simp[f]
          try (have hq0:(bits .and .u64 0 127 / 2 ^ (bs - 7*i).toNat != 0)=false:=by (rw[<- hqb,f]; rfl))
          have HA3:=Lib.hid (show bits .or .u64 acc (IntKind.u64.wrap (bits .and .u64 0 127*2 ^ (7*i)))=((acc+c.toNat % 128*2 ^ (7*i):Nat):Int) by rw[<- HA2.out,f]; rfl);have hi0: ¬ (0<7*(i:Int)):=by omega
          go_wp2_with fail
          refine (HS.out.call 0 rfl (eH b _ 1 QI QI)).mono ?_;rintro e j ⟨v,A',N,rfl,⟨rfl,rfl,rfl⟩,a⟩;rw[HT.out] at a ⊢;have HS1:=Lib.hid a;clear a;go_wp2_with fail
          all_goals
           go_ret
           exact⟨_,_,_,rfl,⟨by rw[<- HV.out]; exact congrArg (Value.int IntKind.u64) HA3.out,by rw[<- HV.out],rfl⟩,HS1.out⟩
         ·have k:((c.toNat:Int) == 0)=false:=by simp; omega
          go_wp2_with fail
          refine (HS.out.call 0 rfl (eH b _ 1 QI QI)).mono ?_;rintro e j ⟨v,A',N,rfl,⟨rfl,rfl,rfl⟩,a⟩;rw[HT.out] at a ⊢;have HS1:=Lib.hid a;clear a;go_wp2_with fail
          go_ret
          exact⟨_,_,_,rfl,⟨by rw[<- HV.out]; exact congrArg (Value.int IntKind.u64) HA2.out,by rw[<- HV.out],rfl⟩,HS1.out⟩
  ·refine⟨_,rfl,?_⟩;have HS:=Lib.hid hst;have HG:=Lib.hid hg;clear hst hg;go_wp2_with fail
   refine (HS.out.call 0 rfl (hO b _ 3)).mono ?_;rintro e j ⟨v,A',N,rfl,⟨rfl,rfl,rfl⟩,a⟩;have HS1:=Lib.hid a;clear a;go_wp2_with fail
   go_ret
   exact⟨_,_,_,rfl,⟨by rw[<- HG.out]; rfl,by rw[<- HG.out]; rfl,rfl⟩,HS1.out⟩
 ·intro again;have AG:=Lib.hid again;clear again;go_wp2_with fail
  go_step3
  rename_i hK;exact hK _ _ (AG.out 0 _ _ _ rfl (.inl ⟨rfl,l,pos,0,0,HA.out,by omega,by omega,hres,_,_,_,_,_,_,_,_,_,_,_,_,_,_,_,_,_,_,_,_,_,_,_,_,_,_,_,_,_,_,_,_,_,_,_,_,_,_,_,_,_,_,_,_,_,_,_,_,_,rfl⟩))
theorem Bn (b:Nat) (st:I) (bs:Int) (hb:bs=32\/bs=64) :
 hN Tryz.prog 178 #[.pointer (some ⟨b,0,none⟩),.int .i64 bs] (InR b st) (fun v A' N=>v= .int .u64 (fh bs st).1/\A'=InR b (fh bs st).2/\N = []):=by
 obtain⟨l,pos,er⟩:=st;by_cases a:er=0
 ·subst a;exact Uns_go b l pos bs hb
 ·have h:=Gx b ⟨l,pos,er⟩ bs a;have e:fh bs ⟨l,pos,er⟩=(0,⟨l,pos,er⟩):=by simp[fh,a]
  rw[e];exact h
theorem Gy (bs:Int) (hb:bs=32\/bs=64): ∀ (l:AI) (pos acc i:Nat),acc<2 ^ (7*i)->(vgo bs l pos acc i).1<2 ^ bs.toNat:=by
 have hp:0<2 ^ bs.toNat:=Nat.two_pow_pos _;intro l
 induction l with
 | nil=>intro pos acc i _; exact hp
 | cons c l ih =>
  intro pos acc i hacc;unfold vgo;split
  ·exact hp
  ·rename_i hn;have h:=nH bs hb acc (c.toNat % 128) i hacc QI QI (fun h=>hn (.inr h));split
   ·exact ih _ _ _ h.1
   ·split
    ·exact hp
    ·exact h.2
theorem Gz (bs:Int) (hb:bs=32\/bs=64) (st:I):(fh bs st).1<2 ^ bs.toNat:=by
 unfold fh;split
 ·exact Nat.two_pow_pos _
 ·exact Gy bs hb _ _ _ _ (by simp)
theorem r6 (bs:Int) (hb:bs=32\/bs=64) (st:I):(fh bs st).1<18446744073709551616:=by
 have h:=Gz bs hb st;rcases hb with rfl | rfl
 ·have e:2 ^ (32:Int).toNat=4294967296:=by decide
  omega
 ·have e:2 ^ (64:Int).toNat=18446744073709551616:=by decide
  omega
def gq (r:Nat×I):Int×I:=(eN r.1,r.2)
theorem yQ (b:Nat) (st:I) :
 hN Tryz.prog 127 #[.pointer (some ⟨b,0,none⟩)] (InR b st) (fun v A' N=>v= .int .i64 (gq (fh 32 st)).1/\A'=InR b (gq (fh 32 st)).2/\N = []):=by
 intro F w hA;have HA:=Lib.hid (Lc F w (Sep.one hA));clear hA;have hs:=Bn b st 32 (.inl rfl);have hlt:=r6 32 (.inl rfl) st;generalize fh 32 st=r at *;have HS:=Lib.hid hs;clear hs;go_enter Tryz.func127,Tryz.ntmps127
 go_wp2_with fail
 refine (HA.out.call 0 rfl HS.out).mono ?_;rintro e w1 ⟨v,A',N,rfl,⟨rfl,rfl,rfl⟩,a⟩;have HS1:=Lib.hid a;clear a;go_wp2_with fail
 refine (yN r.1 hlt w1).mono ?_;rintro e w' ⟨rfl,rfl⟩;go_wp2_with fail
 go_ret
 exact⟨_,_,_,rfl,⟨rfl,rfl,rfl⟩,HS1.out⟩
theorem CL (b:Nat) (st:I) :
 hN Tryz.prog 126 #[.pointer (some ⟨b,0,none⟩)] (InR b st) (fun v A' N=>v= .int .i64 (gq (fh 64 st)).1/\A'=InR b (gq (fh 64 st)).2/\N = []):=by
 intro F w hA;have HA:=Lib.hid (Lc F w (Sep.one hA));clear hA;have hs:=Bn b st 64 (.inr rfl);have hlt:=r6 64 (.inr rfl) st;generalize fh 64 st=r at *;have HS:=Lib.hid hs;clear hs;go_enter Tryz.func126,Tryz.ntmps126
 go_wp2_with fail
 refine (HA.out.call 0 rfl HS.out).mono ?_;rintro e w1 ⟨v,A',N,rfl,⟨rfl,rfl,rfl⟩,a⟩;have HS1:=Lib.hid a;clear a;go_wp2_with fail
 refine (yN r.1 hlt w1).mono ?_;rintro e w' ⟨rfl,rfl⟩;go_wp2_with fail
 go_ret
 exact⟨_,_,_,rfl,⟨rfl,rfl,rfl⟩,HS1.out⟩
theorem yr {a b:Nat} (h:2 ^ a<2 ^ b):a<b:=(Nat.pow_lt_pow_iff_right QJ).1 h
theorem Jc (bs:Int) (hb:0<bs): ∀ (v pos acc i:Nat) (r:AI),acc+v*2 ^ (7*i)<2 ^ bs.toNat->(0<i->0<v) ->
 vgo bs (eR v++r) pos acc i=(acc+v*2 ^ (7*i),⟨r,pos+(eR v).length,0⟩):=by
 intro v
 induction v using Nat.strongRecOn with
 | _ v ih =>
  intro pos acc i r h hi;have l:(7*i:Int)<bs:=by
   rcases Nat.eq_zero_or_pos i with b | b
   ·subst b; omega
   ·have hv:=hi b;have c:1*2 ^ (7*i)<=v*2 ^ (7*i):=Nat.mul_le_mul_right _ hv;have f:=yr (show 2 ^ (7*i)<2 ^ bs.toNat by omega);omega
  have hleft: ∀ d:Nat,d<=v->d / 2 ^ (bs - 7*i).toNat=0:=by
   intro d hd;have e:2 ^ bs.toNat=2 ^ (bs - 7*i).toNat*2 ^ (7*i):=by rw[<- Nat.pow_add]; congr 1; omega
   have c:d*2 ^ (7*i)<=v*2 ^ (7*i):=Nat.mul_le_mul_right _ hd;have f:d<2 ^ (bs - 7*i).toNat:=by
    apply Nat.lt_of_mul_lt_mul_right (a:=2 ^ (7*i));omega
   exact Nat.div_eq_of_lt f
  rw[eR];split
  ·rename_i hlt;have hc:(UInt8.ofNat v).toNat=v:=by simp[UInt8.toNat_ofNat']; omega
   simp only[List.cons_append,Nm,vgo,hc,Nat.mod_eq_of_lt hlt,hleft v (NA _)];rw[QO (by simp; omega),QO QI,QO (by rintro⟨g,c⟩; have:=hi c; omega)];simp
  ·rename_i hge;have hc:(UInt8.ofNat (v % 128+128)).toNat=v % 128+128:=by simp[UInt8.toNat_ofNat']; omega
   have k:2 ^ (7*(i+1))=128*2 ^ (7*i):=by rw[show 7*(i+1)=7+7*i by omega,Nat.pow_add]
   have j:acc+v % 128*2 ^ (7*i)+v / 128*2 ^ (7*(i+1))=acc+v*2 ^ (7*i):=by
    rw[k];generalize 2 ^ (7*i)=z;have g:v / 128*(128*z)=v / 128*128*z:=by rw[Nat.mul_assoc]
    rw[g,Nat.add_assoc,<- Nat.add_mul];congr 2;omega
   simp only[List.cons_append,vgo,hc];rw[show (v % 128+128) % 128=v % 128 by omega,hleft (v % 128) (Nat.mod_le _ _),QO (by simp; omega),QM QI,ih (v / 128) QI _ _ _ _ (by rw[j]; exact h) QI,j];simp; omega
theorem vgo_ok (bs:Int): ∀ (l:AI) (pos acc i u:Nat) (s:I),vgo bs l pos acc i=(u,s)->s.err=0 ->
 ∃ k v,s=⟨l.drop k,pos+k,0⟩/\k<=l.length/\u=acc+v*2 ^ (7*i)/\eR v=l.take k/\(0<i->0<v):=by
 intro l
 induction l with
 | nil=>intro pos acc i u s h a; simp only[vgo,Prod.mk.injEq] at h; rw[<- h.2] at a; simp at a
 | cons c l ih =>
  intro pos acc i u s h a;unfold vgo at h;split at h
  ·simp only[Prod.mk.injEq] at h; rw[<- h.2] at a; simp at a
  ·split at h
   ·rename_i b;obtain⟨k,v,f,g,j,m,n⟩:=ih _ _ _ _ _ h a;have hv:=n QI;have hc:=c.toNat_lt;refine⟨k+1,c.toNat % 128+128*v,?_,by simpa using g,?_,?_,by omega⟩
    ·rw[f]; simp; omega
    ·have e:2 ^ (7*(i+1))=128*2 ^ (7*i):=by rw[show 7*(i+1)=7+7*i by omega,Nat.pow_add]
     rw[j,e,Nat.add_mul];generalize 2 ^ (7*i)=z;have:v*(128*z)=128*v*z:=by rw[Nat.mul_comm 128 v,Nat.mul_assoc]
     omega
    ·rw[eR,QO QI,show (c.toNat % 128+128*v) / 128=v by omega,m,List.take_succ_cons];congr 1;rw[show (c.toNat % 128+128*v) % 128+128=c.toNat by omega];exact UInt8.ofNat_toNat
   ·rename_i b;split at h
    ·simp only[Prod.mk.injEq] at h; rw[<- h.2] at a; simp at a
    ·rename_i hz;have hc:=c.toNat_lt;simp only[Prod.mk.injEq] at h;refine⟨1,c.toNat,by rw[<- h.2]; simp,by simp,by rw[<- h.1,Nat.mod_eq_of_lt QI],?_,?_⟩
     ·rw[eR,QM QI]; simp
     ·intro hi;rcases Nat.eq_zero_or_pos c.toNat with d | d
      ·exact absurd ⟨d,hi⟩ hz
      ·exact d
attribute [local go_sem] fy bsOf_size
structure Bl where
 null:Bool
 data:AI
@[go_sem] def blV (b:Bl):Value:= .agg #[.bool b.null,.string (aW b.data)]
theorem r7:(Tryz.prog.info? 23).map (·.size)=some 2:=by kernel_rfl
theorem sM (l:AI):mf Tryz.prog 143 #[.string (aW l)] (fun v N=>v=blV ⟨false,l⟩/\N = []):=by
 intro w;have HS:=Lib.hid (LH w);go_enter Tryz.func143,Tryz.ntmps143
 go_wp2_with fail
 refine bodyPost_ret (v:=blV ⟨false,l⟩) (results_cell_row QL _ _ w.heap.size 23 #[.bool false,.string (aW l)] (0,0) _ rfl (heap_alloc_new w _) Tryz.underlying23 rfl r7) rfl ?_;exact⟨_,_,rfl,⟨rfl,rfl⟩,(HS.out.alloc _ _).drop_⟩
theorem CM:mf Tryz.prog 214 #[] (fun v N=>v=blV ⟨true,[]⟩/\N = []):=by
 intro w;have HS:=Lib.hid (LH w);go_enter Tryz.func214,Tryz.ntmps214
 go_wp2_with fail
 refine bodyPost_ret (v:=blV ⟨true,[]⟩) (results_cell_row QL _ _ w.heap.size 23 #[.bool true,.string (aW [])] (0,0) _ rfl (heap_alloc_new w _) Tryz.underlying23 rfl r7) rfl ?_;exact⟨_,_,rfl,⟨rfl,rfl⟩,(HS.out.alloc _ _).drop_⟩
def bM (b:Bl):Bool:= !b.null || b.data.isEmpty
theorem qj (b:Bl):mf Tryz.prog 148 #[blV b] (fun v N=>v= .bool (bM b)/\N = []):=by
 intro w;have HS:=Lib.hid (LH w);obtain⟨n,l⟩:=b;have HB:=Lib.hid (show (l == [])=l.isEmpty by cases l <;> rfl);cases n
 ·go_enter Tryz.func148,Tryz.ntmps148
  go_wp2_with fail
  go_ret
  exact⟨_,_,rfl,⟨rfl,rfl⟩,(HS.out.alloc _ _).drop_⟩
 ·go_enter Tryz.func148,Tryz.ntmps148
  go_wp2_with fail
  go_ret
  exact⟨_,_,rfl,⟨congrArg Value.bool (by simp[bM]),rfl⟩,(HS.out.alloc _ _).drop_⟩
def blen (b:Bl):Int:=if b.null then -1 else b.data.length
theorem yR (b:Bl):mf Tryz.prog 149 #[blV b] (fun v N=>v= .int .i64 (blen b)/\N = []):=by
 intro w;have HS:=Lib.hid (LH w);obtain⟨n,l⟩:=b;cases n;all_goals
  go_enter Tryz.func149,Tryz.ntmps149
  go_wp2_with fail
  go_ret
  exact⟨_,_,rfl,⟨rfl,rfl⟩,(HS.out.alloc _ _).drop_⟩
def mh (st:I) (n:Int):Bl×I:=if st.err≠0 then (⟨false,[]⟩,st) else if n= -1 then (⟨true,[]⟩,st) else (⟨false,(cy st n).1⟩,(cy st n).2)
theorem wD (g:Nat) (st:I) (n:Int) (j: -9223372036854775808<=n) (k:n<=9223372036854775807) :
 hN Tryz.prog 179 #[.pointer (some ⟨g,0,none⟩),.int .i64 n] (InR g st) (fun v A' N=>v=blV (mh st n).1/\A'=InR g (mh st n).2/\N = []):=by
 intro F w hA;have HA:=Lib.hid (Lc F w (Sep.one hA));clear hA;have HB:=Lib.hid (HA.out.alloc #[.bool false,.string ⟨#[]⟩] 23);by_cases he:st.err=0
 ·by_cases hn:n= -1
  ·subst hn;have HQ:=Lib.hid (show mh st (-1)=(⟨true,[]⟩,st) by simp[mh,he]);have hb:(st.err != 0)=false:=by simp[he]
   clear he;go_enter Tryz.func179,Tryz.ntmps179
   go_wp2_with fail
   refine (St.call 1 (HB).out rfl (re g _)).mono ?_;rintro e w1 ⟨v,A',N,rfl,⟨rfl,rfl,rfl⟩,c⟩;try simp only[List.cons_append,Nm,List.set_cons_zero,List.set_cons_succ,cZ] at c
   have HC:=Lib.hid c;clear c;go_wp2_with fail
   refine (LG HC.out CM).mono ?_;rintro e b ⟨v,N,rfl,⟨rfl,rfl⟩,a⟩;have d:b.cell? ⟨w.heap.size,0,none⟩=some (.bool false):=bp (St.blk 0 a rfl) 0;have f:b.cell? ⟨w.heap.size,1,none⟩=some (.string ⟨#[]⟩):=bp (St.blk 0 a rfl) 1;have h:b.frozen? ⟨w.heap.size,0,none⟩=false:=bZ (St.blk 0 a rfl) 0;have i:b.frozen? ⟨w.heap.size,1,none⟩=false:=bZ (St.blk 0 a rfl) 1;have HD:=Lib.hid a;clear a;go_wp2_with fail
   have HE:=((HD.out.set 0 rfl 0 (.bool true)).set 0 rfl 1 (.string (aW [])));refine bodyPost_ret (v:=blV ⟨true,[]⟩) (results_cell_row QL _ _ w.heap.size 23 #[.bool true,.string (aW [])] (0,0) _ rfl (St.blk 0 HE rfl) Tryz.underlying23 rfl r7) rfl ?_;exact⟨_,_,_,rfl,⟨by rw[HQ.out],by rw[HQ.out],rfl⟩,HE.drop_⟩
  ·have HQ:=Lib.hid (show mh st n=(⟨false,(cy st n).1⟩,(cy st n).2) by simp[mh,he,hn]);have hb:(st.err != 0)=false:=by simp[he]
   have hnb:(n == -1)=false:=beq_eq_false_iff_ne.2 hn;clear he hn;go_enter Tryz.func179,Tryz.ntmps179
   go_wp2_with fail
   refine (St.call 1 (HB).out rfl (re g _)).mono ?_;rintro e w1 ⟨v,A',N,rfl,⟨rfl,rfl,rfl⟩,c⟩;try simp only[List.cons_append,Nm,List.set_cons_zero,List.set_cons_succ,cZ] at c
   have HC:=Lib.hid c;clear c;go_wp2_with fail
   refine (St.call 1 (HC).out rfl (eH g st n j k)).mono ?_;rintro e w1 ⟨v,A',N,rfl,⟨rfl,rfl,rfl⟩,c⟩;try simp only[List.cons_append,Nm,List.set_cons_zero,List.set_cons_succ,cZ] at c
   have HC2:=Lib.hid c;clear c;go_wp2_with fail
   refine (LG HC2.out (sM (cy st n).1)).mono ?_;rintro e b ⟨v,N,rfl,⟨rfl,rfl⟩,a⟩;have d:b.cell? ⟨w.heap.size,0,none⟩=some (.bool false):=bp (St.blk 0 a rfl) 0;have f:b.cell? ⟨w.heap.size,1,none⟩=some (.string ⟨#[]⟩):=bp (St.blk 0 a rfl) 1;have h:b.frozen? ⟨w.heap.size,0,none⟩=false:=bZ (St.blk 0 a rfl) 0;have i:b.frozen? ⟨w.heap.size,1,none⟩=false:=bZ (St.blk 0 a rfl) 1;have HD:=Lib.hid a;clear a;go_wp2_with fail
   have HE:=((HD.out.set 0 rfl 0 (.bool false)).set 0 rfl 1 (.string (aW (cy st n).1)));refine bodyPost_ret (v:=blV ⟨false,(cy st n).1⟩) (results_cell_row QL _ _ w.heap.size 23 #[.bool false,.string (aW (cy st n).1)] (0,0) _ rfl (St.blk 0 HE rfl) Tryz.underlying23 rfl r7) rfl ?_;exact⟨_,_,_,rfl,⟨by rw[HQ.out],by rw[HQ.out],rfl⟩,HE.drop_⟩
 ·have HQ:=Lib.hid (show mh st n=(⟨false,[]⟩,st) by simp[mh,he]);have hb:(st.err != 0)=true:=bne_iff_ne.2 he;clear he;go_enter Tryz.func179,Tryz.ntmps179
  go_wp2_with fail
  refine (St.call 1 HB.out rfl (re g _)).mono ?_;rintro e b ⟨v,A',N,rfl,⟨rfl,rfl,rfl⟩,a⟩;have d:b.cell? ⟨w.heap.size,0,none⟩=some (.bool false):=bp (St.blk 0 a rfl) 0;have f:b.cell? ⟨w.heap.size,1,none⟩=some (.string ⟨#[]⟩):=bp (St.blk 0 a rfl) 1;have h:b.frozen? ⟨w.heap.size,0,none⟩=false:=bZ (St.blk 0 a rfl) 0;have i:b.frozen? ⟨w.heap.size,1,none⟩=false:=bZ (St.blk 0 a rfl) 1;have HD:=Lib.hid a;clear a;go_wp2_with fail
  have HE:=((HD.out.set 0 rfl 0 (.bool false)).set 0 rfl 1 (.string (aW [])));refine bodyPost_ret (v:=blV ⟨false,[]⟩) (results_cell_row QL _ _ w.heap.size 23 #[.bool false,.string (aW [])] (0,0) _ rfl (St.blk 0 HE rfl) Tryz.underlying23 rfl r7) rfl ?_;exact⟨_,_,_,rfl,⟨by rw[HQ.out],by rw[HQ.out],rfl⟩,HE.drop_⟩
theorem r8 (st:I) (size:Int): -9223372036854775808<=(eX st size).1/\(eX st size).1<=9223372036854775807:=by
 unfold eX;split
 ·rename_i hs;have hl:=yL st size;simp only;generalize (cy st size).1=l at *;by_cases hn:l = []
  ·subst hn; simp[bb]
  ·have hr:=qh l hn;have hp:(2 ^ (8*l.length - 1):Int)<=9223372036854775808:=by
    have b:(2 ^ (8*l.length - 1):Nat)<=2 ^ 63:=Nat.pow_le_pow_right QJ QI;have a:((2 ^ (8*l.length - 1):Nat):Int)<=((2 ^ 63:Nat):Int):=Int.ofNat_le.2 b;rw[Int.natCast_pow,Int.natCast_pow] at a;exact a
   generalize (2 ^ (8*l.length - 1):Int)=z at *;omega
 ·simp
theorem yS (st:I): -9223372036854775808<=(gq (fh 32 st)).1/\(gq (fh 32 st)).1<=9223372036854775807:=by
 have h:=r6 32 (.inl rfl) st;unfold gq eN;simp only;split <;> omega
theorem wE (b:Bl) (h:b.data.length<=9223372036854775807): -9223372036854775808<=blen b/\blen b<=9223372036854775807:=by unfold blen; split <;> omega
def r9 (st:AI×Int) (b:Bl):AI×Int:=if bM b then jJ st b.data else mH st 4
def tJ (st:AI×Int) (b:Bl) (size:Int):AI×Int:=r9 (zZ st (blen b) size) b
def sa (st:AI×Int) (b:Bl):AI×Int:=r9 (mt st (blen b)) b
def jA (st:I) (size:Int):Bl×I:=mh (eX st size).2 (eX st size).1
def iN (st:I):Bl×I:=mh (gq (fh 32 st)).2 (gq (fh 32 st)).1
def wF (r:Bl×I):AI×I:=(r.1.data,if r.1.null then dw r.2 4 else r.2)
theorem vh (g:Nat) (st:AI×Int) (b:Bl) (hl:st.1.length+b.data.length<=140737488355328) :
 hN Tryz.prog 150 #[.pointer (some ⟨g,0,none⟩),blV b] (bz g st) (fun v A' N=>v= .tuple #[]/\A'=bz g (r9 st b)/\N = []):=by
 intro F w hA;have HA:=Lib.hid (Lc F w (Sep.one hA));clear hA;have HB:=Lib.hid (HA.out.alloc #[.bool b.null,.string (aW b.data)] 23);by_cases hr:bM b=true
 ·have HQ:=Lib.hid (show r9 st b=jJ st b.data by simp[r9,hr]);have HR:=Lib.hid hr;clear hr;go_enter Tryz.func150,Tryz.ntmps150
  go_wp2_with fail
  refine (LG HB.out (qj b)).mono ?_;rintro e c ⟨v,N,rfl,⟨rfl,rfl⟩,a⟩;rw[HR.out];have h:c.cell? ⟨w.heap.size,0,none⟩=some (.bool b.null):=bp (St.blk 0 a rfl) 0;have i:c.cell? ⟨w.heap.size,1,none⟩=some (.string (aW b.data)):=bp (St.blk 0 a rfl) 1;have HD:=Lib.hid a;clear a;go_wp2_with fail
  refine (St.call 1 HD.out rfl (Bb g st (aW b.data) (by rw[bsOf_size]; exact hl))).mono ?_;rintro e j ⟨v,A',N,rfl,⟨rfl,rfl,rfl⟩,d⟩;rw[cZ] at d;have HE:=Lib.hid d;clear d;go_wp2_with fail
  go_end0
  exact⟨_,_,_,rfl,⟨rfl,by rw[HQ.out],rfl⟩,HE.out.drop_⟩
 ·have HQ:=Lib.hid (show r9 st b=mH st 4 by simp[r9,hr]);have HR:=Lib.hid (show bM b=false by simpa using hr);clear hr;go_enter Tryz.func150,Tryz.ntmps150
  go_wp2_with fail
  refine (LG HB.out (qj b)).mono ?_;rintro e c ⟨v,N,rfl,⟨rfl,rfl⟩,a⟩;rw[HR.out];have HD:=Lib.hid a;clear a;go_wp2_with fail
  refine (St.call 1 (HD).out rfl (rd g st 4)).mono ?_;rintro e w1 ⟨v,A',N,rfl,⟨rfl,rfl,rfl⟩,f⟩;try simp only[List.cons_append,Nm,List.set_cons_zero,List.set_cons_succ,cZ] at f
  have HE:=Lib.hid f;clear f;go_wp2_with fail
  go_end0
  exact⟨_,_,_,rfl,⟨rfl,by rw[HQ.out],rfl⟩,HE.out.drop_⟩
theorem GA (st:AI×Int) (n size:Int):(zZ st n size).1.length<=st.1.length+8:=by
 unfold zZ;split
 ·rename_i h;have a:=sJ st (be n size.toNat);rw[aZ] at a;simp[bG] at h;omega
 ·unfold mH; split <;> simp
theorem qk (g:Nat) (st:AI×Int) (b:Bl) (size:Int) (h: -9223372036854775808<=size) (i:size<=9223372036854775807) (hl:st.1.length+8+b.data.length<=140737488355328) :
 hN Tryz.prog 95 #[.pointer (some ⟨g,0,none⟩),blV b,.int .i64 size] (bz g st) (fun v A' N=>v= .tuple #[]/\A'=bz g (tJ st b size)/\N = []):=by
 intro F w hA;have HA:=Lib.hid (Lc F w (Sep.one hA));clear hA;have HB:=Lib.hid (HA.out.alloc #[.bool b.null,.string (aW b.data)] 23);have hbl:=wE b QI;have hb1:=hbl.1;have hb2:=hbl.2;clear hbl;go_enter Tryz.func95,Tryz.ntmps95
 go_wp2_with fail
 refine (LG HB.out (yR b)).mono ?_;rintro e j ⟨v,N,rfl,⟨rfl,rfl⟩,c⟩;have HC:=Lib.hid c;clear c;go_wp2_with fail
 refine (St.call 1 HC.out rfl (ve g st (blen b) size hb1 hb2 QI)).mono ?_;rintro e d ⟨v,A',N,rfl,⟨rfl,rfl,rfl⟩,a⟩;have k:d.cell? ⟨w.heap.size,0,none⟩=some (.bool b.null):=bp (St.blk 0 a rfl) 0;have l:d.cell? ⟨w.heap.size,1,none⟩=some (.string (aW b.data)):=bp (St.blk 0 a rfl) 1;have HD:=Lib.hid a;clear a;go_wp2_with fail
 refine (St.call 1 HD.out rfl (vh g _ b (by have:=GA st (blen b) size; omega))).mono ?_;rintro e m ⟨v,A',N,rfl,⟨rfl,rfl,rfl⟩,f⟩;have HE:=Lib.hid f;clear f;go_wp2_with fail
 go_end0
 exact⟨_,_,_,rfl,⟨rfl,rfl,rfl⟩,HE.out.drop_⟩
theorem Bo (st:AI×Int) (n:Int):(mt st n).1.length<=st.1.length+10:=by
 unfold mt;split
 ·rename_i h;have a:=sJ st (eR (bX n));have b:=Bm (bX n) (wC n QI QI);omega
 ·unfold mH; split <;> simp
theorem pD (g:Nat) (st:AI×Int) (b:Bl) (hl:st.1.length+10+b.data.length<=140737488355328) :
 hN Tryz.prog 183 #[.pointer (some ⟨g,0,none⟩),blV b] (bz g st) (fun v A' N=>v= .tuple #[]/\A'=bz g (sa st b)/\N = []):=by
 intro F w hA;have HA:=Lib.hid (Lc F w (Sep.one hA));clear hA;have HB:=Lib.hid (HA.out.alloc #[.bool b.null,.string (aW b.data)] 23);have hbl:=wE b QI;have hb1:=hbl.1;have hb2:=hbl.2;clear hbl;go_enter Tryz.func183,Tryz.ntmps183
 go_wp2_with fail
 refine (LG HB.out (yR b)).mono ?_;rintro e h ⟨v,N,rfl,⟨rfl,rfl⟩,c⟩;have HC:=Lib.hid c;clear c;go_wp2_with fail
 refine (St.call 1 HC.out rfl (sL g st (blen b) hb1 hb2 QI)).mono ?_;rintro e d ⟨v,A',N,rfl,⟨rfl,rfl,rfl⟩,a⟩;have i:d.cell? ⟨w.heap.size,0,none⟩=some (.bool b.null):=bp (St.blk 0 a rfl) 0;have j:d.cell? ⟨w.heap.size,1,none⟩=some (.string (aW b.data)):=bp (St.blk 0 a rfl) 1;have HD:=Lib.hid a;clear a;go_wp2_with fail
 refine (St.call 1 HD.out rfl (vh g _ b (by have:=Bo st (blen b); omega))).mono ?_;rintro e k ⟨v,A',N,rfl,⟨rfl,rfl,rfl⟩,f⟩;have HE:=Lib.hid f;clear f;go_wp2_with fail
 go_end0
 exact⟨_,_,_,rfl,⟨rfl,rfl,rfl⟩,HE.out.drop_⟩
def Bp (st:AI×Int) (l:AI):AI×Int:=tJ st ⟨false,l⟩ 2
theorem yt (g:Nat) (st:AI×Int) (l:AI) (hl:st.1.length+8+l.length<=140737488355328) :
 hN Tryz.prog 88 #[.pointer (some ⟨g,0,none⟩),.string (aW l)] (bz g st) (fun v A' N=>v= .tuple #[]/\A'=bz g (Bp st l)/\N = []):=by
 intro F w hA;have HA:=Lib.hid (Lc F w (Sep.one hA));clear hA;go_enter Tryz.func88,Tryz.ntmps88
 go_wp2_with fail
 refine (LG (HA).out (sM l)).mono ?_;rintro e w1 ⟨v,N,rfl,⟨rfl,rfl⟩,a⟩;try simp only[List.cons_append,Nm,List.set_cons_zero,List.set_cons_succ,cZ] at a
 have HB:=Lib.hid a;clear a;go_wp2_with fail
 refine (St.call 0 (HB).out rfl (qk g st ⟨false,l⟩ 2 QI QI hl)).mono ?_;rintro e w1 ⟨v,A',N,rfl,⟨rfl,rfl,rfl⟩,a⟩;try simp only[List.cons_append,Nm,List.set_cons_zero,List.set_cons_succ,cZ] at a
 have HC:=Lib.hid a;clear a;go_wp2_with fail
 go_end0
 exact⟨_,_,_,rfl,⟨rfl,rfl,rfl⟩,HC.out⟩
def Bq (st:AI×Int) (l:AI):AI×Int:=sa st ⟨false,l⟩
theorem yu (g:Nat) (st:AI×Int) (l:AI) (hl:st.1.length+10+l.length<=140737488355328) :
 hN Tryz.prog 132 #[.pointer (some ⟨g,0,none⟩),.string (aW l)] (bz g st) (fun v A' N=>v= .tuple #[]/\A'=bz g (Bq st l)/\N = []):=by
 intro F w hA;have HA:=Lib.hid (Lc F w (Sep.one hA));clear hA;go_enter Tryz.func132,Tryz.ntmps132
 go_wp2_with fail
 refine (LG (HA).out (sM l)).mono ?_;rintro e w1 ⟨v,N,rfl,⟨rfl,rfl⟩,a⟩;try simp only[List.cons_append,Nm,List.set_cons_zero,List.set_cons_succ,cZ] at a
 have HB:=Lib.hid a;clear a;go_wp2_with fail
 refine (St.call 0 (HB).out rfl (pD g st ⟨false,l⟩ hl)).mono ?_;rintro e w1 ⟨v,A',N,rfl,⟨rfl,rfl,rfl⟩,a⟩;try simp only[List.cons_append,Nm,List.set_cons_zero,List.set_cons_succ,cZ] at a
 have HC:=Lib.hid a;clear a;go_wp2_with fail
 go_end0
 exact⟨_,_,_,rfl,⟨rfl,rfl,rfl⟩,HC.out⟩
theorem vi (g:Nat) (st:I) (size:Int) :
 hN Tryz.prog 142 #[.pointer (some ⟨g,0,none⟩),.int .i64 size] (InR g st) (fun v A' N=>v=blV (jA st size).1/\A'=InR g (jA st size).2/\N = []):=by
 intro F w hA;have HA:=Lib.hid (Lc F w (Sep.one hA));clear hA;have HB:=Lib.hid (HA.out.alloc #[.bool false,.string ⟨#[]⟩] 23);go_enter Tryz.func142,Tryz.ntmps142
 go_wp2_with fail
 refine (St.call 1 (HB).out rfl (tI g st size)).mono ?_;rintro e w1 ⟨v,A',N,rfl,⟨rfl,rfl,rfl⟩,c⟩;try simp only[List.cons_append,Nm,List.set_cons_zero,List.set_cons_succ,cZ] at c
 have HC:=Lib.hid c;clear c;go_wp2_with fail
 refine (St.call 1 HC.out rfl (wD g _ _ (r8 st size).1 (r8 st size).2)).mono ?_;rintro e b ⟨v,A',N,rfl,⟨rfl,rfl,rfl⟩,a⟩;have d:b.cell? ⟨w.heap.size,0,none⟩=some (.bool false):=bp (St.blk 0 a rfl) 0;have f:b.cell? ⟨w.heap.size,1,none⟩=some (.string ⟨#[]⟩):=bp (St.blk 0 a rfl) 1;have h:b.frozen? ⟨w.heap.size,0,none⟩=false:=bZ (St.blk 0 a rfl) 0;have i:b.frozen? ⟨w.heap.size,1,none⟩=false:=bZ (St.blk 0 a rfl) 1;have HD:=Lib.hid a;clear a;go_wp2_with fail
 have HE:=((HD.out.set 0 rfl 0 (.bool (jA st size).1.null)).set 0 rfl 1 (.string (aW (jA st size).1.data)));refine bodyPost_ret (v:=blV (jA st size).1) (results_cell_row QL _ _ w.heap.size 23 #[.bool (jA st size).1.null,.string (aW (jA st size).1.data)] (0,0) _ rfl (St.blk 0 HE rfl) Tryz.underlying23 rfl r7) rfl ?_;exact⟨_,_,_,rfl,⟨rfl,rfl,rfl⟩,HE.drop_⟩
theorem sN (g:Nat) (st:I) :
 hN Tryz.prog 128 #[.pointer (some ⟨g,0,none⟩)] (InR g st) (fun v A' N=>v=blV (iN st).1/\A'=InR g (iN st).2/\N = []):=by
 intro F w hA;have HA:=Lib.hid (Lc F w (Sep.one hA));clear hA;have HB:=Lib.hid (HA.out.alloc #[.bool false,.string ⟨#[]⟩] 23);go_enter Tryz.func128,Tryz.ntmps128
 go_wp2_with fail
 refine (St.call 1 (HB).out rfl (yQ g st)).mono ?_;rintro e w1 ⟨v,A',N,rfl,⟨rfl,rfl,rfl⟩,c⟩;try simp only[List.cons_append,Nm,List.set_cons_zero,List.set_cons_succ,cZ] at c
 have HC:=Lib.hid c;clear c;go_wp2_with fail
 refine (St.call 1 HC.out rfl (wD g _ _ (yS st).1 (yS st).2)).mono ?_;rintro e b ⟨v,A',N,rfl,⟨rfl,rfl,rfl⟩,a⟩;have d:b.cell? ⟨w.heap.size,0,none⟩=some (.bool false):=bp (St.blk 0 a rfl) 0;have f:b.cell? ⟨w.heap.size,1,none⟩=some (.string ⟨#[]⟩):=bp (St.blk 0 a rfl) 1;have h:b.frozen? ⟨w.heap.size,0,none⟩=false:=bZ (St.blk 0 a rfl) 0;have i:b.frozen? ⟨w.heap.size,1,none⟩=false:=bZ (St.blk 0 a rfl) 1;have HD:=Lib.hid a;clear a;go_wp2_with fail
 have HE:=((HD.out.set 0 rfl 0 (.bool (iN st).1.null)).set 0 rfl 1 (.string (aW (iN st).1.data)));refine bodyPost_ret (v:=blV (iN st).1) (results_cell_row QL _ _ w.heap.size 23 #[.bool (iN st).1.null,.string (aW (iN st).1.data)] (0,0) _ rfl (St.blk 0 HE rfl) Tryz.underlying23 rfl r7) rfl ?_;exact⟨_,_,_,rfl,⟨rfl,rfl,rfl⟩,HE.drop_⟩
theorem wG (g:Nat) (r:Bl×I) :
 hN Tryz.prog 141 #[.pointer (some ⟨g,0,none⟩),blV r.1] (InR g r.2) (fun v A' N=>v= .string (aW (wF r).1)/\A'=InR g (wF r).2/\N = []):=by
 intro F w hA;obtain⟨b,st⟩:=r;obtain⟨n,l⟩:=b;have HA:=Lib.hid (Lc F w (Sep.one hA));clear hA;have HB:=Lib.hid (HA.out.alloc #[.bool n,.string (aW l)] 23);cases n
 ·go_enter Tryz.func141,Tryz.ntmps141
  go_wp2_with fail
  go_ret
  exact⟨_,_,_,rfl,⟨rfl,rfl,rfl⟩,HB.out.drop_⟩
 ·go_enter Tryz.func141,Tryz.ntmps141
  go_wp2_with fail
  refine (St.call 1 HB.out rfl (hO g st 4)).mono ?_;rintro e c ⟨v,A',N,rfl,⟨rfl,rfl,rfl⟩,a⟩;have d:c.cell? ⟨w.heap.size,1,none⟩=some (.string (aW l)):=bp (St.blk 0 a rfl) 1;have HD:=Lib.hid a;clear a;go_wp2_with fail
  go_ret
  exact⟨_,_,_,rfl,⟨rfl,rfl,rfl⟩,HD.out.drop_⟩
def Eg (st:I):AI×I:=wF (jA st 2)
theorem CN (g:Nat) (st:I) :
 hN Tryz.prog 86 #[.pointer (some ⟨g,0,none⟩)] (InR g st) (fun v A' N=>v= .string (aW (Eg st).1)/\A'=InR g (Eg st).2/\N = []):=by
 intro F w hA;have HA:=Lib.hid (Lc F w (Sep.one hA));clear hA;go_enter Tryz.func86,Tryz.ntmps86
 go_wp2_with fail
 refine (St.call 0 (HA).out rfl (vi g st 2)).mono ?_;rintro e w1 ⟨v,A',N,rfl,⟨rfl,rfl,rfl⟩,a⟩;try simp only[List.cons_append,Nm,List.set_cons_zero,List.set_cons_succ,cZ] at a
 have HB:=Lib.hid a;clear a;go_wp2_with fail
 refine (St.call 0 (HB).out rfl (wG g (jA st 2))).mono ?_;rintro e w1 ⟨v,A',N,rfl,⟨rfl,rfl,rfl⟩,a⟩;try simp only[List.cons_append,Nm,List.set_cons_zero,List.set_cons_succ,cZ] at a
 have HC:=Lib.hid a;clear a;go_wp2_with fail
 go_ret
 exact⟨_,_,_,rfl,⟨rfl,rfl,rfl⟩,HC.out⟩
def Eh (st:I):AI×I:=wF (iN st)
theorem CO (g:Nat) (st:I) :
 hN Tryz.prog 125 #[.pointer (some ⟨g,0,none⟩)] (InR g st) (fun v A' N=>v= .string (aW (Eh st).1)/\A'=InR g (Eh st).2/\N = []):=by
 intro F w hA;have HA:=Lib.hid (Lc F w (Sep.one hA));clear hA;go_enter Tryz.func125,Tryz.ntmps125
 go_wp2_with fail
 refine (St.call 0 (HA).out rfl (sN g st)).mono ?_;rintro e w1 ⟨v,A',N,rfl,⟨rfl,rfl,rfl⟩,a⟩;try simp only[List.cons_append,Nm,List.set_cons_zero,List.set_cons_succ,cZ] at a
 have HB:=Lib.hid a;clear a;go_wp2_with fail
 refine (St.call 0 (HB).out rfl (wG g (iN st))).mono ?_;rintro e w1 ⟨v,A',N,rfl,⟨rfl,rfl,rfl⟩,a⟩;try simp only[List.cons_append,Nm,List.set_cons_zero,List.set_cons_succ,cZ] at a
 have HC:=Lib.hid a;clear a;go_wp2_with fail
 go_ret
 exact⟨_,_,_,rfl,⟨rfl,rfl,rfl⟩,HC.out⟩
attribute [local go_sem] fy bsOf_size
@[go_sem] def strErr (x:AI×Int):Value:= .tuple #[.string (aW x.1),.int .i64 x.2]
def otx (st:AI×Int):AI×Int:=if st.2=0 then (st.1,0) else ([],st.2)
theorem z6 (st:AI×Int):Bc st=strErr (otx st):=by unfold Bc otx; split <;> rfl
theorem tK {st:I} (h:st.err≠0) (e:Int):dw st e=st:=by simp[dw,h]
theorem Fq {st:I} (h:st.err≠0) (n:Int):cy st n=([],st):=by simp[cy,h]
theorem oe {st:I} (h:st.err≠0) (n:Int):eX st n=(0,st):=by
 unfold eX;split
 ·rw[Fq h]; rfl
 ·rw[tK h]
theorem tL {st:I} (h:st.err≠0) (n:Int):mh st n=(⟨false,[]⟩,st):=by simp[mh,h]
theorem CP {st:I} (h:st.err≠0) (n:Int):jA st n=(⟨false,[]⟩,st):=by unfold jA; rw[oe h,tL h]
theorem wH {st:I} (h:st.err≠0):fP st=st:=by unfold fP; split; rfl; exact tK h 2
theorem Br (l:AI) (p:Nat) (n:Nat) (h:n<=l.length):cy ⟨l,p,0⟩ n=(l.take n,⟨l.drop n,p+n,0⟩):=by
 unfold cy;rw[QO (by simp),QO QI,QO (by simp only; omega)];simp
theorem vj (l:AI) (p:Nat) (n:Int) (h:(l.length:Int)<n):cy ⟨l,p,0⟩ n=([],⟨l,p,1⟩):=by
 unfold cy;rw[QO (by simp),QO QI,QM (by simp only; omega)]
theorem Fs (l:AI) (p:Nat) (n:Int) (h:n<0):cy ⟨l,p,0⟩ n=([],⟨l,p,4⟩):=by
 unfold cy;rw[QO (by simp),QM h]
theorem z7 (l:AI) (p:Nat) (n:Nat) (a:1<=n) (b:n<=8) (h:n<=l.length):eX ⟨l,p,0⟩ n=(bb (l.take n),⟨l.drop n,p+n,0⟩):=by
 unfold eX;rw[QM QI,Br l p n h]
theorem sb (l:AI) (p:Nat) (n:Int) (a:1<=n) (b:n<=8) (h:(l.length:Int)<n):eX ⟨l,p,0⟩ n=(0,⟨l,p,1⟩):=by
 unfold eX;rw[QM QI,vj l p n h];rfl
def fo (l:AI):Bool:= !l.isEmpty && decide ((l.length:Int)<=32767)
theorem CS (l:AI) (w:World):Calls Tryz.prog 87 #[.string (aW l)] w fun e w'=>e= .returned (.bool (fo l))/\w=w':=by
 cases l with
 | nil =>
  go_enter Tryz.func87,Tryz.ntmps87
  go_wp2_with fail
  go_ret
  exact⟨qf (by simp[fo]),rfl⟩
 | cons c l =>
  go_enter Tryz.func87,Tryz.ntmps87
  go_wp2_with fail
  go_ret
  exact⟨qf (by simp[fo]),rfl⟩
attribute [local go_sem] fy bsOf_size
theorem yT (n:Nat) (hn:n<18446744073709551616) (w:World) :
 Calls Tryz.prog 236 #[.int .u64 n] w fun e w'=>e= .returned (.int .i64 (eN n))/\w=w':=by
 by_cases h:n % 2=1
 ·have HV:=Lib.hid (show eN n= -((n:Int) / 2) - 1 by unfold eN; rw[QM h]; omega);have hb:((n:Int) % 2 == 1)=true:=by simp; omega
  go_enter Tryz.func236,Tryz.ntmps236
  go_wp2_with fail
  go_ret
  exact⟨km (by rw[HV.out]),rfl⟩
 ·have HV:=Lib.hid (show eN n=(n:Int) / 2 by unfold eN; rw[QO h]; omega);have hb:((n:Int) % 2 == 1)=false:=by simp; omega
  go_enter Tryz.func236,Tryz.ntmps236
  go_wp2_with fail
  go_ret
  exact⟨km (by rw[HV.out]),rfl⟩
def jY (r:Nat×I):Nat×Nat×Int:=if r.2.err=0 then (r.1,r.2.pos,0) else (0,0,r.2.err)
def Bt (x:Nat×Nat×Int):Value:= .tuple #[.int .u64 x.1,.int .i64 x.2.1,.int .i64 x.2.2]
theorem Bu (l:AI) (bs:Int) (hb:bs=32\/bs=64) (hl:l.length<=140737488355328) (w:World) :
 Calls Tryz.prog 235 #[.string (aW l),.int .i64 bs] w fun e w'=>e= .returned (Bt (jY (vgo bs l 0 0 0)))/\w=w':=by
 generalize hr:vgo bs l 0 0 0=r;have HR:=Lib.hid hr;have hb1:32<=bs:=by omega
 have hb2:bs<=64:=by omega
 have HB:=Lib.hid hb;have HG:=Lib.hid (qi l);clear hr hb;go_enter Tryz.func235,Tryz.ntmps235
 go_wp2_with fail
 go_loop [7,8,9,10] (fun nv ov uv iv=> ∃ (i acc o:Nat),i<=l.length/\iv= .int .i64 i/\nv= .int .u64 acc/\ov= .int .u64 o/\uv= .int .i64 (7*i)/\7*i<bs+7/\(7*i<bs->o=2 ^ (7*i))/\acc<2 ^ (7*i)/\vgo bs (l.drop i) i acc i=r) (fun _ _ _ i=>l.length - (intOf i).toNat)
 case atStart=>exact⟨0,0,1,by omega,rfl,rfl,rfl,rfl,by omega,by simp,by simp,HR.out⟩
 case round =>
  obtain⟨i,acc,o,hi,rfl,rfl,rfl,rfl,n,ho,hacc,hv⟩:=hrel;by_cases hlt:i<l.length
  ·rw[List.drop_eq_getElem_cons hlt] at hv;have hgi:=HG.out i (by rw[bsOf_size]; exact hlt);have hs:i<(aW l).size:=by rw[bsOf_size]; exact hlt
   have hc:=l[i].toNat_lt;generalize l[i]=c at *;have HV:=Lib.hid hv;have HO:=Lib.hid ho;have HACC:=Lib.hid hacc;clear hv ho hacc;by_cases hroom:7<bs - 7*i
   ·have hnb: ¬ (bs - 7*(i:Nat)<=0\/(bs - 7*(i:Nat)<7/\c.toNat % 128 / 2 ^ (bs - 7*(i:Nat)).toNat≠0)):=by omega
    have hz:=HO.out QI;obtain⟨hA1,hA2⟩:=nH bs HB.out acc (c.toNat % 128) i HACC.out QI QI (fun h=>hnb (.inr h));have f:2 ^ bs.toNat<=18446744073709551616:=by rcases HB.out with h | h <;> rw[h] <;> decide
    have b:2 ^ (7*(i+1))=2 ^ (7*i)*128:=by rw[show 7*(i+1)=7*i+7 by omega,Nat.pow_add]
    rw[<- hz] at hA1 hA2 b;have hA3:acc+c.toNat % 128*o<18446744073709551616:=by omega
    have HA1:=Lib.hid hA1;have HP2:=Lib.hid b;have hmul:((c.toNat:Int) % 128*o)=((c.toNat % 128*o:Nat):Int):=by rw[Int.natCast_mul,Int.natCast_emod]; rfl
    have HMUL:=Lib.hid hmul;have HVV:=HV.out;rw[vgo,QO hnb,<- hz] at HVV;generalize hy:c.toNat % 128*o=y at *;have hy0:(0:Int)<=(c.toNat:Int) % 128*o:=by rw[hmul]; omega
    have hy1:(c.toNat:Int) % 128*o<=18446744073709551615:=by rw[hmul]; omega
    have hy2:(acc:Int)+(c.toNat:Int) % 128*o<=18446744073709551615:=by rw[hmul]; omega
    have HY:=Lib.hid hy;have HZ:=Lib.hid hz;clear hy hz hA1 hA2 b hmul f hnb;by_cases d:128<=c.toNat
    ·have HN:=Lib.hid (show vgo bs (l.drop (i+1)) (i+1) (acc+y) (i+1)=r by rw[QM d] at HVV; exact HVV);clear HVV;go_wp2_with fail
     refine wp_loop_rounds 8 ?_;repeat (rw[rounds_succ]; go_wp2_with fail)
     go_round
     case rel =>
      refine⟨i+1,acc+y,(o*128) % 18446744073709551616,by omega,by go_num,?_,?_,by go_num,by omega,?_,HA1.out,HN.out⟩
      ·rw[HMUL.out]; simp
      ·first | rfl | simp
      ·intro h;have g:=HP2.out;have j:2 ^ (7*(i+1))<=2 ^ 63:=Nat.pow_le_pow_right QJ QI;rw[g] at j ⊢;have k:(2:Nat) ^ 63=9223372036854775808:=by decide
       omega
     case measure=>simp[intOf]; omega
    ·rw[QO d] at HVV;by_cases a:c.toNat=0/\0<i
     ·have HE:=Lib.hid (show jY r=(0,0,3) by rw[QM a] at HVV; rw[<- HVV]; rfl);clear HVV;obtain⟨hc0,hi0⟩:=a;have hcz:((c.toNat:Int) == 0)=true:=by simp[hc0]
      go_wp2_with fail
      refine wp_loop_rounds 8 ?_;repeat (rw[rounds_succ]; go_wp2_with fail)
      go_ret3
      exact⟨congrArg Ending.returned (by rw[HE.out]; rfl),rfl⟩
     ·have HE:=Lib.hid (show jY r=(acc+y,i+1,0) by rw[QO a] at HVV; rw[<- HVV]; rfl);clear HVV;by_cases hc0:c.toNat=0
      ·have hi0: ¬ (0<(i:Int)):=by omega
       have hcz:((c.toNat:Int) == 0)=true:=by simp[hc0]
       have HE2:=Lib.hid (show jY r=(acc,i+1,0) by rw[HE.out,<- HY.out,hc0]; simp);go_wp2_with fail
       refine wp_loop_rounds 8 ?_;repeat (rw[rounds_succ]; go_wp2_with fail)
       all_goals
        go_ret3
        exact⟨congrArg Ending.returned (by rw[HE2.out]; rfl),rfl⟩
      ·have hcz:((c.toNat:Int) == 0)=false:=by simp; omega
       go_wp2_with fail
       refine wp_loop_rounds 8 ?_;repeat (rw[rounds_succ]; go_wp2_with fail)
       go_ret3
       exact⟨congrArg Ending.returned (by rw[HE.out]; simp only[Bt]; rw[Int.natCast_add,<- HMUL.out]; rfl),rfl⟩
   ·have hcase:(bs=32/\i=4)\/(bs=32/\i=5)\/(bs=64/\i=9)\/(bs=64/\i=10):=by
     have:=HB.out;omega
    clear hroom;rcases hcase with⟨rfl,rfl⟩ | ⟨rfl,rfl⟩ | ⟨rfl,rfl⟩ | ⟨rfl,rfl⟩
    ·by_cases hd:c.toNat % 128<16
     ·have hdd:(c.toNat:Int) % 128<=15:=by omega
      have hnb: ¬ ((32:Int) - 7*(4:Nat)<=0\/((32:Int) - 7*(4:Nat)<7/\c.toNat % 128 / 2 ^ ((32:Int) - 7*(4:Nat)).toNat≠0)):=by
       have e:c.toNat % 128 / 2 ^ ((32:Int) - 7*(4:Nat)).toNat=0:=Nat.div_eq_of_lt hd;rw[e]; omega
      have hz:=HO.out QI;obtain⟨hA1,hA2⟩:=nH (32:Int) HB.out acc (c.toNat % 128) 4 HACC.out QI QI (fun h=>hnb (.inr h));have f:2 ^ (32:Int).toNat<=18446744073709551616:=by rcases HB.out with h | h <;> rw[h] <;> decide
      have b:2 ^ (7*(4+1))=2 ^ (7*4)*128:=by rw[show 7*(4+1)=7*4+7 by omega,Nat.pow_add]
      rw[<- hz] at hA1 hA2 b;have hA3:acc+c.toNat % 128*o<18446744073709551616:=by omega
      have HA1:=Lib.hid hA1;have HP2:=Lib.hid b;have hmul:((c.toNat:Int) % 128*o)=((c.toNat % 128*o:Nat):Int):=by rw[Int.natCast_mul,Int.natCast_emod]; rfl
      have HMUL:=Lib.hid hmul;have HVV:=HV.out;rw[vgo,QO hnb,<- hz] at HVV;generalize hy:c.toNat % 128*o=y at *;have hy0:(0:Int)<=(c.toNat:Int) % 128*o:=by rw[hmul]; omega
      have hy1:(c.toNat:Int) % 128*o<=18446744073709551615:=by rw[hmul]; omega
      have hy2:(acc:Int)+(c.toNat:Int) % 128*o<=18446744073709551615:=by rw[hmul]; omega
      have HY:=Lib.hid hy;have HZ:=Lib.hid hz;clear hy hz hA1 hA2 b hmul f hnb;by_cases d:128<=c.toNat
      ·have HN:=Lib.hid (show vgo (32:Int) (l.drop (4+1)) (4+1) (acc+y) (4+1)=r by rw[QM d] at HVV; exact HVV);clear HVV;go_wp2_with fail
       refine wp_loop_rounds 5 ?_;repeat (rw[rounds_succ]; go_wp2_with fail)
       go_round
       case rel =>
        refine⟨4+1,acc+y,(o*128) % 18446744073709551616,by omega,by go_num,?_,?_,by go_num,by omega,?_,HA1.out,HN.out⟩
        ·rw[HMUL.out]; simp
        ·first | rfl | simp
        ·intro h;have g:=HP2.out;have j:2 ^ (7*(4+1))<=2 ^ 63:=Nat.pow_le_pow_right QJ QI;rw[g] at j ⊢;have k:(2:Nat) ^ 63=9223372036854775808:=by decide
         omega
       case measure=>simp[intOf]; omega
      ·rw[QO d] at HVV;by_cases a:c.toNat=0/\0<4
       ·have HE:=Lib.hid (show jY r=(0,0,3) by rw[QM a] at HVV; rw[<- HVV]; rfl);clear HVV;obtain⟨hc0,hi0⟩:=a;have hcz:((c.toNat:Int) == 0)=true:=by simp[hc0]
        go_wp2_with fail
        refine wp_loop_rounds 5 ?_;repeat (rw[rounds_succ]; go_wp2_with fail)
        go_ret3
        exact⟨congrArg Ending.returned (by rw[HE.out]; rfl),rfl⟩
       ·have HE:=Lib.hid (show jY r=(acc+y,4+1,0) by rw[QO a] at HVV; rw[<- HVV]; rfl);clear HVV;by_cases hc0:c.toNat=0
        ·exact absurd ⟨hc0,by omega⟩ a
        ·have hcz:((c.toNat:Int) == 0)=false:=by simp; omega
         go_wp2_with fail
         refine wp_loop_rounds 5 ?_;repeat (rw[rounds_succ]; go_wp2_with fail)
         go_ret3
         exact⟨congrArg Ending.returned (by rw[HE.out]; simp only[Bt]; rw[Int.natCast_add,<- HMUL.out]; rfl),rfl⟩
     ·have HE:=Lib.hid (show jY r=(0,0,3) by rw[<- HV.out,vgo,QM (by exact .inr ⟨by omega,by rw[show ((32:Int) - 7*((4:Nat):Int)).toNat=4 by decide]; omega⟩)]; rfl);have hdd:15<(c.toNat:Int) % 128:=by omega
      go_wp2_with fail
      refine wp_loop_rounds 5 ?_;repeat (rw[rounds_succ]; go_wp2_with fail)
      go_ret3
      exact⟨congrArg Ending.returned (by rw[HE.out]; rfl),rfl⟩
    ·have HE:=Lib.hid (show jY r=(0,0,3) by rw[<- HV.out,vgo,QM (by left; omega)]; rfl);go_wp2_with fail
     refine wp_loop_rounds 1 ?_;repeat (rw[rounds_succ]; go_wp2_with fail)
     go_ret3
     exact⟨congrArg Ending.returned (by rw[HE.out]; rfl),rfl⟩
    ·by_cases hd:c.toNat % 128<2
     ·have hdd:(c.toNat:Int) % 128<=1:=by omega
      have hnb: ¬ ((64:Int) - 7*(9:Nat)<=0\/((64:Int) - 7*(9:Nat)<7/\c.toNat % 128 / 2 ^ ((64:Int) - 7*(9:Nat)).toNat≠0)):=by
       have e:c.toNat % 128 / 2 ^ ((64:Int) - 7*(9:Nat)).toNat=0:=Nat.div_eq_of_lt hd;rw[e]; omega
      have hz:=HO.out QI;obtain⟨hA1,hA2⟩:=nH (64:Int) HB.out acc (c.toNat % 128) 9 HACC.out QI QI (fun h=>hnb (.inr h));have f:2 ^ (64:Int).toNat<=18446744073709551616:=by rcases HB.out with h | h <;> rw[h] <;> decide
      have b:2 ^ (7*(9+1))=2 ^ (7*9)*128:=by rw[show 7*(9+1)=7*9+7 by omega,Nat.pow_add]
      rw[<- hz] at hA1 hA2 b;have hA3:acc+c.toNat % 128*o<18446744073709551616:=by omega
      have HA1:=Lib.hid hA1;have HP2:=Lib.hid b;have hmul:((c.toNat:Int) % 128*o)=((c.toNat % 128*o:Nat):Int):=by rw[Int.natCast_mul,Int.natCast_emod]; rfl
      have HMUL:=Lib.hid hmul;have HVV:=HV.out;rw[vgo,QO hnb,<- hz] at HVV;generalize hy:c.toNat % 128*o=y at *;have hy0:(0:Int)<=(c.toNat:Int) % 128*o:=by rw[hmul]; omega
      have hy1:(c.toNat:Int) % 128*o<=18446744073709551615:=by rw[hmul]; omega
      have hy2:(acc:Int)+(c.toNat:Int) % 128*o<=18446744073709551615:=by rw[hmul]; omega
      have HY:=Lib.hid hy;have HZ:=Lib.hid hz;clear hy hz hA1 hA2 b hmul f hnb;by_cases d:128<=c.toNat
      ·have HN:=Lib.hid (show vgo (64:Int) (l.drop (9+1)) (9+1) (acc+y) (9+1)=r by rw[QM d] at HVV; exact HVV);clear HVV;go_wp2_with fail
       refine wp_loop_rounds 2 ?_;repeat (rw[rounds_succ]; go_wp2_with fail)
       go_round
       case rel =>
        refine⟨9+1,acc+y,(o*128) % 18446744073709551616,by omega,by go_num,?_,?_,by go_num,by omega,?_,HA1.out,HN.out⟩
        ·rw[HMUL.out]; simp
        ·first | rfl | simp
        ·intro h;have g:=HP2.out;have j:2 ^ (7*(9+1))<=2 ^ 63:=Nat.pow_le_pow_right QJ QI;rw[g] at j ⊢;have k:(2:Nat) ^ 63=9223372036854775808:=by decide
         omega
       case measure=>simp[intOf]; omega
      ·rw[QO d] at HVV;by_cases a:c.toNat=0/\0<9
       ·have HE:=Lib.hid (show jY r=(0,0,3) by rw[QM a] at HVV; rw[<- HVV]; rfl);clear HVV;obtain⟨hc0,hi0⟩:=a;have hcz:((c.toNat:Int) == 0)=true:=by simp[hc0]
        go_wp2_with fail
        refine wp_loop_rounds 2 ?_;repeat (rw[rounds_succ]; go_wp2_with fail)
        go_ret3
        exact⟨congrArg Ending.returned (by rw[HE.out]; rfl),rfl⟩
       ·have HE:=Lib.hid (show jY r=(acc+y,9+1,0) by rw[QO a] at HVV; rw[<- HVV]; rfl);clear HVV;by_cases hc0:c.toNat=0
        ·exact absurd ⟨hc0,by omega⟩ a
        ·have hcz:((c.toNat:Int) == 0)=false:=by simp; omega
         go_wp2_with fail
         refine wp_loop_rounds 2 ?_;repeat (rw[rounds_succ]; go_wp2_with fail)
         go_ret3
         exact⟨congrArg Ending.returned (by rw[HE.out]; simp only[Bt]; rw[Int.natCast_add,<- HMUL.out]; rfl),rfl⟩
     ·have HE:=Lib.hid (show jY r=(0,0,3) by rw[<- HV.out,vgo,QM (by exact .inr ⟨by omega,by rw[show ((64:Int) - 7*((9:Nat):Int)).toNat=1 by decide]; omega⟩)]; rfl);have hdd:1<(c.toNat:Int) % 128:=by omega
      go_wp2_with fail
      refine wp_loop_rounds 2 ?_;repeat (rw[rounds_succ]; go_wp2_with fail)
      go_ret3
      exact⟨congrArg Ending.returned (by rw[HE.out]; rfl),rfl⟩
    ·have HE:=Lib.hid (show jY r=(0,0,3) by rw[<- HV.out,vgo,QM (by left; omega)]; rfl);go_wp2_with fail
     refine wp_loop_rounds 1 ?_;repeat (rw[rounds_succ]; go_wp2_with fail)
     go_ret3
     exact⟨congrArg Ending.returned (by rw[HE.out]; rfl),rfl⟩
  ·have m:i=l.length:=by omega
   have HE:=Lib.hid (show jY r=(0,0,1) by rw[m,List.drop_length] at hv; rw[<- hv]; rfl);clear hv ho hacc;go_wp2_with fail
   go_ret3
   exact⟨congrArg Ending.returned (by rw[HE.out]; rfl),rfl⟩
theorem vk (a b:AI):aW a++aW b=aW (a++b):=by
 apply ByteArray.ext;simp[aW]
attribute [local go_sem] fy bsOf_size vk
attribute [local go_sem] fy bsOf_size vk
structure Gt where
 blob:Bl
 many:Int
 err:Int
@[go_sem] def gtV (x:Gt):Value:= .agg #[.bool x.blob.null,.string (aW x.blob.data),.int .i64 x.many,.int .i64 x.err]
theorem ql:(Tryz.prog.info? 212).map (·.size)=some 4:=by kernel_rfl
def pL (l:AI) (head:Nat) (n:Int):Gt :=
 if n= -1 then ⟨⟨true,[]⟩,head,0⟩ else if n<0 then ⟨⟨false,[]⟩,0,4⟩ else if (l.length:Int) - head<n then ⟨⟨false,[]⟩,0,1⟩ else ⟨⟨false,(l.drop head).take n.toNat⟩,head+n,0⟩
theorem GB (l:AI) (a:Nat) (n:Nat):(aW l).extract a (a+n)=aW ((l.drop a).take n):=by rw[nF,cZ,Nat.add_sub_cancel_left]
theorem yU (l:AI) (head:Nat) (n:Int) (hh:head<=l.length) (hl:l.length<=140737488355328) (a: -9223372036854775808<=n) (b:n<=9223372036854775807) :
 mf Tryz.prog 174 #[.string (aW l),.int .i64 head,.int .i64 n] (fun v N=>v=gtV (pL l head n)/\N = []):=by
 intro w;have HS:=Lib.hid (LH w);by_cases a1:n= -1
 ·have HQ:=Lib.hid (show pL l head n=⟨⟨true,[]⟩,head,0⟩ by unfold pL; rw[QM a1]);have hb:(n == -1)=true:=by simp[a1]
  clear a1;go_enter Tryz.func174,Tryz.ntmps174
  go_wp2_with fail
  refine bodyPost_ret (v:=gtV ⟨⟨true,[]⟩,head,0⟩) (results_cell_row QL _ _ w.heap.size 212 #[.bool true,.string (aW []),.int .i64 head,.int .i64 0] (0,0) _ rfl (heap_alloc_new w _) Tryz.underlying212 rfl ql) rfl ?_;exact⟨_,_,rfl,⟨congrArg gtV HQ.out.symm,rfl⟩,(HS.out.alloc _ _).drop_⟩
 have hb:(n == -1)=false:=beq_eq_false_iff_ne.2 a1;by_cases a2:n<0
 ·have HQ:=Lib.hid (show pL l head n=⟨⟨false,[]⟩,0,4⟩ by unfold pL; rw[QO a1,QM a2]);clear a1;go_enter Tryz.func174,Tryz.ntmps174
  go_wp2_with fail
  refine bodyPost_ret (v:=gtV ⟨⟨false,[]⟩,0,4⟩) (results_cell_row QL _ _ w.heap.size 212 #[.bool false,.string (aW []),.int .i64 0,.int .i64 4] (0,0) _ rfl (heap_alloc_new w _) Tryz.underlying212 rfl ql) rfl ?_;exact⟨_,_,rfl,⟨congrArg gtV HQ.out.symm,rfl⟩,(HS.out.alloc _ _).drop_⟩
 by_cases a3:(l.length:Int) - head<n
 ·have HQ:=Lib.hid (show pL l head n=⟨⟨false,[]⟩,0,1⟩ by unfold pL; rw[QO a1,QO a2,QM a3]);clear a1;go_enter Tryz.func174,Tryz.ntmps174
  go_wp2_with fail
  refine bodyPost_ret (v:=gtV ⟨⟨false,[]⟩,0,1⟩) (results_cell_row QL _ _ w.heap.size 212 #[.bool false,.string (aW []),.int .i64 0,.int .i64 1] (0,0) _ rfl (heap_alloc_new w _) Tryz.underlying212 rfl ql) rfl ?_;exact⟨_,_,rfl,⟨congrArg gtV HQ.out.symm,rfl⟩,(HS.out.alloc _ _).drop_⟩
 ·obtain⟨k,rfl⟩: ∃ k:Nat,n=k:=⟨n.toNat,by omega⟩;have HQ:=Lib.hid (show pL l head k=⟨⟨false,(l.drop head).take k⟩,head+k,0⟩ by unfold pL; rw[QO a1,QO a2,QO a3]; rfl);have hx:=GB l head k;clear a1 a2;go_enter Tryz.func174,Tryz.ntmps174
  go_wp2_with fail
  refine bodyPost_ret (v:=gtV ⟨⟨false,(l.drop head).take k⟩,head+k,0⟩) (results_cell_row QL _ _ w.heap.size 212 #[.bool false,.string (aW ((l.drop head).take k)),.int .i64 (head+k),.int .i64 0] (0,0) _ rfl ?_ Tryz.underlying212 rfl ql) rfl ?_
  ·simp only[heap_alloc_new,hx]
  ·exact⟨_,_,rfl,⟨congrArg gtV HQ.out.symm,rfl⟩,(HS.out.alloc _ _).drop_⟩
def mJ (l:AI) (k:Nat):Gt:=if l.length<k then ⟨⟨false,[]⟩,0,1⟩ else pL l k (bb (l.take k))
theorem CU (l:AI) (k:Nat):(aW l).extract 0 k=aW (l.take k):=by rw[nF,cZ]; simp
theorem Ft (l:AI) (h:l.length<=8): -9223372036854775808<=bb l/\bb l<=9223372036854775807:=by
 have a:=r8 ⟨l,0,0⟩ l.length;by_cases hl:1<=l.length
 ·have b:=Gv l 0 hl h [];rw[Nx] at b;rw[b] at a;exact a
 ·have:l = []:=List.eq_nil_of_length_eq_zero QI;subst this;simp[bb]
attribute [local go_sem] CU
theorem Bw (l:AI) (k:Nat) (hk:k<=8) (hl:l.length<=140737488355328) :
 mf Tryz.prog 121 #[.string (aW l),.int .i64 k] (fun v N=>v=gtV (mJ l k)/\N = []):=by
 intro w;have HS:=Lib.hid ((LH w).alloc #[.bool false,.string ⟨#[]⟩,.int .i64 0,.int .i64 0] 212);by_cases h:l.length<k
 ·have HQ:=Lib.hid (show mJ l k=⟨⟨false,[]⟩,0,1⟩ by unfold mJ; rw[QM h]);go_enter Tryz.func121,Tryz.ntmps121
  go_wp2_with fail
  refine bodyPost_ret (v:=gtV ⟨⟨false,[]⟩,0,1⟩) (results_cell_row QL _ _ w.heap.size 212 #[.bool false,.string (aW []),.int .i64 0,.int .i64 1] (0,0) _ rfl (heap_alloc_new w _) Tryz.underlying212 rfl ql) rfl ?_;exact⟨_,_,rfl,⟨congrArg gtV HQ.out.symm,rfl⟩,((LH w).alloc _ _).drop_⟩
 ·have HQ:=Lib.hid (show mJ l k=pL l k (bb (l.take k)) by unfold mJ; rw[QO h]);have hb:=Ft (l.take k) (by rw[Np]; omega);have c:k<=l.length:=by omega
  go_enter Tryz.func121,Tryz.ntmps121
  go_wp2_with fail
  refine ((Be (l.take k) (by rw[Np]; omega) _)).mono ?_;rintro e w1 ⟨rfl,rfl⟩;go_wp2_with fail
  refine (LG HS.out (yU l k (bb (l.take k)) c hl hb.1 hb.2)).mono ?_;rintro e b ⟨v,N,rfl,⟨rfl,rfl⟩,a⟩;generalize hq:pL l k (bb (l.take k))=q at *;have d:b.cell? ⟨w.heap.size,0,none⟩=some (.bool false):=bp (St.blk 0 a rfl) 0;have f:b.frozen? ⟨w.heap.size,0,none⟩=false:=bZ (St.blk 0 a rfl) 0;have g:b.cell? ⟨w.heap.size,1,none⟩=some (.string ⟨#[]⟩):=bp (St.blk 0 a rfl) 1;have i:b.frozen? ⟨w.heap.size,1,none⟩=false:=bZ (St.blk 0 a rfl) 1;have j:b.cell? ⟨w.heap.size,2,none⟩=some (.int .i64 0):=bp (St.blk 0 a rfl) 2;have m:b.frozen? ⟨w.heap.size,2,none⟩=false:=bZ (St.blk 0 a rfl) 2;have n:b.cell? ⟨w.heap.size,3,none⟩=some (.int .i64 0):=bp (St.blk 0 a rfl) 3;have o:b.frozen? ⟨w.heap.size,3,none⟩=false:=bZ (St.blk 0 a rfl) 3;have HD:=Lib.hid a;have HQ2:=Lib.hid hq;clear a hq;go_wp2_with fail
  have HE:=(((HD.out.set 0 rfl 0 (.bool q.blob.null)).set 0 rfl 1 (.string (aW q.blob.data))).set 0 rfl 2 (.int .i64 q.many)).set 0 rfl 3 (.int .i64 q.err);refine bodyPost_ret (v:=gtV q) (results_cell_row QL _ _ w.heap.size 212 #[.bool q.blob.null,.string (aW q.blob.data),.int .i64 q.many,.int .i64 q.err] (0,0) _ rfl (St.blk 0 HE rfl) Tryz.underlying212 rfl ql) rfl ?_;exact⟨_,_,rfl,⟨congrArg gtV HQ.out.symm,rfl⟩,HE.drop_⟩
def qm (l:AI) (x:Nat×Nat×Int):Gt:=if x.2.2≠0 then ⟨⟨false,[]⟩,0,x.2.2⟩ else pL l x.2.1 (eN x.1)
def mu (l:AI):Gt:=qm l (jY (vgo 32 l 0 0 0))
theorem Jd (bs:Int): ∀ (l:AI) (pos acc i:Nat),(vgo bs l pos acc i).2.pos<=pos+l.length:=by
 intro l
 induction l with
 | nil=>intro pos acc i; simp[vgo]
 | cons c l ih =>
  intro pos acc i;unfold vgo;have h:=ih (pos+1) (acc+c.toNat % 128*2 ^ (7*i)) (i+1);simp only[Ng];split
  ·simp only; omega
  ·split
   ·omega
   ·split
    ·simp only; omega
    ·simp only; omega
attribute [local go_sem] Bt
theorem z8 (l:AI) (hl:l.length<=140737488355328) :
 mf Tryz.prog 230 #[.string (aW l)] (fun v N=>v=gtV (mu l)/\N = []):=by
 intro w;have HS:=Lib.hid ((LH w).alloc #[.bool false,.string ⟨#[]⟩,.int .i64 0,.int .i64 0] 212);have hq0:mu l=qm l (jY (vgo 32 l 0 0 0)):=rfl;have hp:=Jd 32 l 0 0 0;have hlt:=Gy 32 (.inl rfl) l 0 0 0 (by simp);rw[show 2 ^ (32:Int).toNat=4294967296 by decide] at hlt;have d:(jY (vgo 32 l 0 0 0)).1<4294967296:=by unfold jY; split; exact hlt; simp
 have c:(jY (vgo 32 l 0 0 0)).2.1<=l.length:=by unfold jY; split; (simp only; omega); simp
 have HG:=Lib.hid (Bu l 32 (.inl rfl) hl);generalize jY (vgo 32 l 0 0 0)=x at *;obtain⟨n,many,er⟩:=x;simp only at d c;clear hp hlt;by_cases h:er≠0
 ·have HQ:=Lib.hid (show mu l=⟨⟨false,[]⟩,0,er⟩ by rw[hq0]; unfold qm; rw[QM h]);have hb:(er != 0)=true:=bne_iff_ne.2 h;clear h hq0;go_enter Tryz.func230,Tryz.ntmps230
  go_wp2_with fail
  refine ((HG.out _)).mono ?_;rintro e w1 ⟨rfl,rfl⟩;go_wp2_with fail
  refine bodyPost_ret (v:=gtV ⟨⟨false,[]⟩,0,er⟩) (results_cell_row QL _ _ w.heap.size 212 #[.bool false,.string (aW []),.int .i64 0,.int .i64 er] (0,0) _ rfl (heap_alloc_new w _) Tryz.underlying212 rfl ql) rfl ?_;exact⟨_,_,rfl,⟨congrArg gtV HQ.out.symm,rfl⟩,((LH w).alloc _ _).drop_⟩
 ·have f:er=0:=by simpa using h
  have HQ:=Lib.hid (show mu l=pL l many (eN n) by rw[hq0]; unfold qm; rw[QO h]);have hb:(er != 0)=false:=by simp[f]
  have hvr: -9223372036854775808<=eN n/\eN n<=9223372036854775807:=by unfold eN; split <;> omega
  clear h f hq0;go_enter Tryz.func230,Tryz.ntmps230
  go_wp2_with fail
  refine ((HG.out _)).mono ?_;rintro e w1 ⟨rfl,rfl⟩;go_wp2_with fail
  refine ((yT n QI _)).mono ?_;rintro e w1 ⟨rfl,rfl⟩;go_wp2_with fail
  refine (LG HS.out (yU l many (eN n) c hl hvr.1 hvr.2)).mono ?_;rintro e b ⟨v,N,rfl,⟨rfl,rfl⟩,a⟩;generalize hq:pL l many (eN n)=q at *;have g:b.cell? ⟨w.heap.size,0,none⟩=some (.bool false):=bp (St.blk 0 a rfl) 0;have i:b.frozen? ⟨w.heap.size,0,none⟩=false:=bZ (St.blk 0 a rfl) 0;have j:b.cell? ⟨w.heap.size,1,none⟩=some (.string ⟨#[]⟩):=bp (St.blk 0 a rfl) 1;have k:b.frozen? ⟨w.heap.size,1,none⟩=false:=bZ (St.blk 0 a rfl) 1;have m:b.cell? ⟨w.heap.size,2,none⟩=some (.int .i64 0):=bp (St.blk 0 a rfl) 2;have o:b.frozen? ⟨w.heap.size,2,none⟩=false:=bZ (St.blk 0 a rfl) 2;have p:b.cell? ⟨w.heap.size,3,none⟩=some (.int .i64 0):=bp (St.blk 0 a rfl) 3;have r:b.frozen? ⟨w.heap.size,3,none⟩=false:=bZ (St.blk 0 a rfl) 3;have HD:=Lib.hid a;have HQ2:=Lib.hid hq;clear a hq;go_wp2_with fail
  have HE:=(((HD.out.set 0 rfl 0 (.bool q.blob.null)).set 0 rfl 1 (.string (aW q.blob.data))).set 0 rfl 2 (.int .i64 q.many)).set 0 rfl 3 (.int .i64 q.err);refine bodyPost_ret (v:=gtV q) (results_cell_row QL _ _ w.heap.size 212 #[.bool q.blob.null,.string (aW q.blob.data),.int .i64 q.many,.int .i64 q.err] (0,0) _ rfl (St.blk 0 HE rfl) Tryz.underlying212 rfl ql) rfl ?_;exact⟨_,_,rfl,⟨congrArg gtV HQ.out.symm,rfl⟩,HE.drop_⟩
theorem CV (b:Nat) (st:AI×Int) (s:AI) (hl:st.1.length+s.length<=140737488355328) :
 hN Tryz.prog 52 #[.pointer (some ⟨b,0,none⟩),.string (aW s)] (bz b st) (fun v A' N=>v= .tuple #[]/\A'=bz b (jJ st s)/\N = []):=by
 have h:=Bb b st (aW s) (by rw[bsOf_size]; exact hl)
 rwa [cZ] at h
theorem Bx (b:Nat) (st:AI×Int):hN Tryz.prog 50 #[.pointer (some ⟨b,0,none⟩)] (bz b st) (fun v A' N=>v= .tuple #[.string (aW (otx st).1),.int .i64 (otx st).2]/\A'=bz b st/\N = []):=by
 have h:=Fk b st
 rwa [z6] at h
theorem Bz (n k:Int) (a: -9223372036854775808<=n) (b:n<=9223372036854775807) (c:0<=k) (hk:k<=8) :
 mf Tryz.prog 63 #[.int .i64 n,.int .i64 k] (fun v N=>v= .string (aW (be n k.toNat))/\N = []):=by
 have h:=CH n k.toNat a b QI
 rwa [show ((k.toNat:Nat):Int)=k by omega] at h
theorem CW (n:Int) (a:0<=n) (hn:n<18446744073709551616) (w:World):Calls Tryz.prog 236 #[.int .u64 n] w fun e w'=>e= .returned (.int .i64 (eN n.toNat))/\w=w':=by
 have h:=yT n.toNat QI w
 rwa [show ((n.toNat:Nat):Int)=n by omega] at h
theorem Fu (l:AI) (bs:Int) (hb:bs=32\/bs=64) (hl:l.length<=140737488355328) (w:World) :
 Calls Tryz.prog 235 #[.string (aW l),.int .i64 bs] w fun e w'=>e= .returned (.tuple #[.int .u64 ((jY (vgo bs l 0 0 0)).1:Int),.int .i64 ((jY (vgo bs l 0 0 0)).2.1:Int),.int .i64 (jY (vgo bs l 0 0 0)).2.2])/\w=w':=Bu l bs hb hl w
theorem z9 (l:AI) (k:Int) (a:0<=k) (hk:k<=8) (hl:l.length<=140737488355328):mf Tryz.prog 121 #[.string (aW l),.int .i64 k] (fun v N=>v=gtV (mJ l k.toNat)/\N = []):=by
 have h:=Bw l k.toNat QI hl
 rwa [show ((k.toNat:Nat):Int)=k by omega] at h
def lX (st:AI×Int) (e:Int):Option (AI×Int):=some (mH st e)
theorem g6 (g:Nat) (st:AI×Int) (e:Int) (r:AI×Int) (h:lX st e=some r):aB Tryz.prog 94 #[.pointer (some ⟨g,0,none⟩),.int .i64 e] .triv (bz g st) (fun v A' N=>v= .tuple #[]/\A'=bz g r/\N = []):=by
 unfold lX at h;obtain rfl:=M2 h;exact KY (rd g st e)
def Ei (st:AI×Int) (s:AI):Option (AI×Int):=if st.1.length+s.length<=140737488355328 then some (jJ st s) else none
theorem wJ (g:Nat) (st:AI×Int) (s:AI) (r:AI×Int) (h:Ei st s=some r):aB Tryz.prog 52 #[.pointer (some ⟨g,0,none⟩),.string (aW s)] .triv (bz g st) (fun v A' N=>v= .tuple #[]/\A'=bz g r/\N = []):=by
 unfold Ei at h;split at h
 ·rename_i a;obtain rfl:=M2 h;exact KY (CV g st s a)
 ·simp at h
def wK (st:AI×Int) (c:Int):Option (AI×Int):=if 0<=c/\c<256/\st.1.length+1<=140737488355328 then some (jJ st [UInt8.ofNat c.toNat]) else none
theorem qn (g:Nat) (st:AI×Int) (c:Int) (r:AI×Int) (h:wK st c=some r):aB Tryz.prog 102 #[.pointer (some ⟨g,0,none⟩),.int .u8 c] .triv (bz g st) (fun v A' N=>v= .tuple #[]/\A'=bz g r/\N = []):=by
 unfold wK at h;split at h
 ·rename_i a;obtain rfl:=M2 h;exact KY (o7 g st c a.1 a.2.1 a.2.2)
 ·simp at h
def GC (st:AI×Int)  : Option (Int×(AI×Int)):=some (st.2,st)
theorem CX (g:Nat) (st:AI×Int)  (r:Int×(AI×Int)) (h:GC st  = some r):aB Tryz.prog 48 #[.pointer (some ⟨g,0,none⟩)] .triv (bz g st) (fun v A' N=>v= .int .i64 r.1/\A'=bz g r.2/\N = []):=by
 unfold GC at h;obtain rfl:=M2 h;exact KY (Gq g st)
def nV (st:AI×Int)  : Option (AI×Int×(AI×Int)):=some ((otx st).1,(otx st).2,st)
theorem Fv (st:AI×Int)  : nV st  = some ((otx st).1,(otx st).2,st):=rfl
theorem iT (g:Nat) (st:AI×Int)  (r:AI×Int×(AI×Int)) (h:nV st  = some r):aB Tryz.prog 50 #[.pointer (some ⟨g,0,none⟩)] .triv (bz g st) (fun v A' N=>v= .tuple #[.string (aW r.1),.int .i64 r.2.1]/\A'=bz g r.2.2/\N = []):=by
 unfold nV at h;obtain rfl:=M2 h;exact KY (Bx g st)
def ed (st:AI×Int) (n:Int) (size:Int):Option (AI×Int):=if (-9223372036854775808<=n/\n<=9223372036854775807)/\st.1.length+8<=140737488355328 then some (zZ st n size) else none
theorem GD (st:AI×Int) (n:Int) (size:Int) (h:(-9223372036854775808<=n/\n<=9223372036854775807)/\st.1.length+8<=140737488355328):ed st n size=some (zZ st n size):=QM h
theorem bu (g:Nat) (st:AI×Int) (n:Int) (size:Int) (r:AI×Int) (h:ed st n size=some r):aB Tryz.prog 51 #[.pointer (some ⟨g,0,none⟩),.int .i64 n,.int .i64 size] .triv (bz g st) (fun v A' N=>v= .tuple #[]/\A'=bz g r/\N = []):=by
 unfold ed at h;split at h
 ·rename_i a;obtain rfl:=M2 h;exact KY (ve g st n size a.1.1 a.1.2 a.2)
 ·simp at h
def jy  (n:Int) (size:Int):Option (Bool):=if (-9223372036854775808<=n/\n<=9223372036854775807) then some (bG n size) else none
theorem gG  (n:Int) (size:Int) (h:(-9223372036854775808<=n/\n<=9223372036854775807)):jy  n size=some (bG n size):=QM h
theorem dG (n:Int) (size:Int) (r:Bool) (h:jy  n size=some r) (w:World):Calls Tryz.prog 101 #[.int .i64 n,.int .i64 size] w fun e w'=>e= .returned (.bool r)/\w=w':=by
 unfold jy at h;split at h
 ·rename_i a;obtain rfl:=M2 h;exact qg n size w a.1 a.2
 ·simp at h
def vE  (s:AI):Option (I):=if s.length<=9223372036854775807 then some (⟨s,0,0⟩:I) else none
theorem kn  (s:AI) (h:s.length<=9223372036854775807):vE  s=some (⟨s,0,0⟩:I):=QM h
theorem j7 (s:AI) (r:I) (h:vE  s=some r):aB Tryz.prog 19 #[.string (aW s)] .triv aI (fun v A' N=> ∃ g,v= .pointer (some ⟨g,0,none⟩)/\A'=aI/\N = [InR g r]):=by
 unfold vE at h;split at h
 ·rename_i a;obtain rfl:=M2 h;have k:=L9 (X:= .triv) (Gr (aW s) (by rw[bsOf_size]; omega));intro F w hA hX;refine (k F w hA hX).mono ?_;rintro e w' ⟨v,A',Ns,rfl,⟨rfl,b,rfl,rfl⟩,hst⟩;rw[cZ] at hst;exact⟨_,_,_,rfl,⟨b,rfl,rfl,rfl⟩,hst⟩
 ·simp at h
def ci (st:I) (e:Int):Option (I):=some (dw st e)
theorem dx (st:I) (e:Int):ci st e=some (dw st e):=rfl
theorem bD (g:Nat) (st:I) (e:Int) (r:I) (h:ci st e=some r):aB Tryz.prog 70 #[.pointer (some ⟨g,0,none⟩),.int .i64 e] .triv (InR g st) (fun v A' N=>v= .tuple #[]/\A'=InR g r/\N = []):=by
 unfold ci at h;obtain rfl:=M2 h;exact KY (hO g st e)
def wM (st:I)  : Option (Int×I):=some ((st.rest.length:Int),st)
theorem sO (st:I)  : wM st  = some ((st.rest.length:Int),st):=rfl
theorem o8 (g:Nat) (st:I)  (r:Int×I) (h:wM st  = some r):aB Tryz.prog 71 #[.pointer (some ⟨g,0,none⟩)] .triv (InR g st) (fun v A' N=>v= .int .i64 r.1/\A'=InR g r.2/\N = []):=by
 unfold wM at h;obtain rfl:=M2 h;exact KY (od g st)
def BA (st:I) (n:Int):Option (AI×I):=if (-9223372036854775808<=n/\n<=9223372036854775807) then some ((cy st n).1,(cy st n).2) else none
theorem og (st:I) (n:Int) (h:(-9223372036854775808<=n/\n<=9223372036854775807)):BA st n=some ((cy st n).1,(cy st n).2):=QM h
theorem wN (g:Nat) (st:I) (n:Int) (r:AI×I) (h:BA st n=some r):aB Tryz.prog 67 #[.pointer (some ⟨g,0,none⟩),.int .i64 n] .triv (InR g st) (fun v A' N=>v= .string (aW r.1)/\A'=InR g r.2/\N = []):=by
 unfold BA at h;split at h
 ·rename_i a;obtain rfl:=M2 h;exact KY (eH g st n a.1 a.2)
 ·simp at h
def ea (st:I) (size:Int):Option (Int×I):=some ((eX st size).1,(eX st size).2)
theorem ko (st:I) (size:Int):ea st size=some ((eX st size).1,(eX st size).2):=rfl
theorem bw (g:Nat) (st:I) (size:Int) (r:Int×I) (h:ea st size=some r):aB Tryz.prog 68 #[.pointer (some ⟨g,0,none⟩),.int .i64 size] .triv (InR g st) (fun v A' N=>v= .int .i64 r.1/\A'=InR g r.2/\N = []):=by
 unfold ea at h;obtain rfl:=M2 h;exact KY (tI g st size)
def iG (st:I)  : Option (Int×I):=some (st.err,st)
theorem bx (st:I)  : iG st  = some (st.err,st):=rfl
theorem cz (g:Nat) (st:I)  (r:Int×I) (h:iG st  = some r):aB Tryz.prog 23 #[.pointer (some ⟨g,0,none⟩)] .triv (InR g st) (fun v A' N=>v= .int .i64 r.1/\A'=InR g r.2/\N = []):=by
 unfold iG at h;obtain rfl:=M2 h;exact KY (re g st)
def en (st:I)  : Option (Int×I):=some ((fP st).err,fP st)
theorem gH (st:I)  : en st  = some ((fP st).err,fP st):=rfl
theorem dp (g:Nat) (st:I)  (r:Int×I) (h:en st  = some r):aB Tryz.prog 21 #[.pointer (some ⟨g,0,none⟩)] .triv (InR g st) (fun v A' N=>v= .int .i64 r.1/\A'=InR g r.2/\N = []):=by
 unfold en at h;obtain rfl:=M2 h;exact KY (CE g st)
def jB (st:I) (size:Int) (each:Int):Option (Int×I):=if (-9223372036854775808<=size/\size<=9223372036854775807)/\(-9223372036854775808<=each/\each<=9223372036854775807) then some ((lW st size each).1,(lW st size each).2) else none
theorem tM (st:I) (size:Int) (each:Int) (h:(-9223372036854775808<=size/\size<=9223372036854775807)/\(-9223372036854775808<=each/\each<=9223372036854775807)):jB st size each=some ((lW st size each).1,(lW st size each).2):=QM h
theorem lE (g:Nat) (st:I) (size:Int) (each:Int) (r:Int×I) (h:jB st size each=some r):aB Tryz.prog 144 #[.pointer (some ⟨g,0,none⟩),.int .i64 size,.int .i64 each] .triv (InR g st) (fun v A' N=>v= .int .i64 r.1/\A'=InR g r.2/\N = []):=by
 unfold jB at h;split at h
 ·rename_i a;obtain rfl:=M2 h;exact KY (CF g st size each)
 ·simp at h
def pE (st:I)  : Option (Int×I):=some ((gq (fh 32 st)).1,(gq (fh 32 st)).2)
theorem GE (st:I)  : pE st  = some ((gq (fh 32 st)).1,(gq (fh 32 st)).2):=rfl
theorem sc (g:Nat) (st:I)  (r:Int×I) (h:pE st  = some r):aB Tryz.prog 127 #[.pointer (some ⟨g,0,none⟩)] .triv (InR g st) (fun v A' N=>v= .int .i64 r.1/\A'=InR g r.2/\N = []):=by
 unfold pE at h;obtain rfl:=M2 h;exact KY (yQ g st)
def mK (st:I)  : Option (Int×I):=some ((gq (fh 64 st)).1,(gq (fh 64 st)).2)
theorem Fw (st:I)  : mK st  = some ((gq (fh 64 st)).1,(gq (fh 64 st)).2):=rfl
theorem vl (g:Nat) (st:I)  (r:Int×I) (h:mK st  = some r):aB Tryz.prog 126 #[.pointer (some ⟨g,0,none⟩)] .triv (InR g st) (fun v A' N=>v= .int .i64 r.1/\A'=InR g r.2/\N = []):=by
 unfold mK at h;obtain rfl:=M2 h;exact KY (CL g st)
def wO (st:AI×Int) (n:Int):Option (AI×Int):=if (-9223372036854775808<=n/\n<=9223372036854775807)/\st.1.length+10<=140737488355328 then some (jJ st (eR (bX n))) else none
theorem yv (g:Nat) (st:AI×Int) (n:Int) (r:AI×Int) (h:wO st n=some r):aB Tryz.prog 181 #[.pointer (some ⟨g,0,none⟩),.int .i64 n] .triv (bz g st) (fun v A' N=>v= .tuple #[]/\A'=bz g r/\N = []):=by
 unfold wO at h;split at h
 ·rename_i a;obtain rfl:=M2 h;exact KY (yq g st n a.1.1 a.1.2 a.2)
 ·simp at h
def wm (st:AI×Int) (n:Int):Option (AI×Int):=if (-9223372036854775808<=n/\n<=9223372036854775807)/\st.1.length+10<=140737488355328 then some (mt st n) else none
theorem sP (g:Nat) (st:AI×Int) (n:Int) (r:AI×Int) (h:wm st n=some r):aB Tryz.prog 182 #[.pointer (some ⟨g,0,none⟩),.int .i64 n] .triv (bz g st) (fun v A' N=>v= .tuple #[]/\A'=bz g r/\N = []):=by
 unfold wm at h;split at h
 ·rename_i a;obtain rfl:=M2 h;exact KY (sL g st n a.1.1 a.1.2 a.2)
 ·simp at h
def gy  (s:AI):Option (Int):=if s.length<=8 then some (bb s) else none
theorem cX  (s:AI) (h:s.length<=8):gy  s=some (bb s):=QM h
theorem bv (s:AI) (r:Int) (h:gy  s=some r) (w:World):Calls Tryz.prog 25 #[.string (aW s)] w fun e w'=>e= .returned (.int .i64 r)/\w=w':=by
 unfold gy at h;split at h
 ·rename_i a;obtain rfl:=M2 h;exact Be s a w
 ·simp at h
def wn  (n:Int) (k:Int):Option AI:=if (-9223372036854775808<=n/\n<=9223372036854775807)/\0<=k/\k<=8 then some (be n k.toNat) else none
theorem CY  (n:Int) (k:Int) (h:(-9223372036854775808<=n/\n<=9223372036854775807)/\0<=k/\k<=8):wn  n k=some (be n k.toNat):=QM h
theorem Aa (n:Int) (k:Int) (r:AI) (h:wn  n k=some r):aB Tryz.prog 63 #[.int .i64 n,.int .i64 k] .triv aI (fun v A' N=>v= .string (aW r)/\A'=aI/\N = []):=by
 unfold wn at h;split at h
 ·rename_i a;obtain rfl:=M2 h;exact Lt (Bz n k a.1.1 a.1.2 a.2.1 a.2.2)
 ·simp at h
def tN  (n:Int):Option (Int):=if 0<=n/\n<18446744073709551616 then some (eN n.toNat) else none
theorem tO  (n:Int) (h:0<=n/\n<18446744073709551616):tN  n=some (eN n.toNat):=QM h
theorem qo (n:Int) (r:Int) (h:tN  n=some r) (w:World):Calls Tryz.prog 236 #[.int .u64 n] w fun e w'=>e= .returned (.int .i64 r)/\w=w':=by
 unfold tN at h;split at h
 ·rename_i a;obtain rfl:=M2 h;exact CW n a.1 a.2 w
 ·simp at h
def vm  (s:AI) (bits:Int):Option (Int×Int×Int):=if (bits=32\/bits=64)/\s.length<=140737488355328 then some (((jY (vgo bits s 0 0 0)).1:Int),((jY (vgo bits s 0 0 0)).2.1:Int),(jY (vgo bits s 0 0 0)).2.2) else none
theorem GF  (s:AI) (bits:Int) (h:(bits=32\/bits=64)/\s.length<=140737488355328):vm  s bits=some (((jY (vgo bits s 0 0 0)).1:Int),((jY (vgo bits s 0 0 0)).2.1:Int),(jY (vgo bits s 0 0 0)).2.2):=QM h
theorem sd (s:AI) (bits:Int) (r:Int×Int×Int) (h:vm  s bits=some r) (w:World):Calls Tryz.prog 235 #[.string (aW s),.int .i64 bits] w fun e w'=>e= .returned (.tuple #[.int .u64 r.1,.int .i64 r.2.1,.int .i64 r.2.2])/\w=w':=by
 unfold vm at h;split at h
 ·rename_i a;obtain rfl:=M2 h;exact Fu s bits a.1 a.2 w
 ·simp at h
def gOf  (s:AI):Option (Bl):=some (⟨false,s⟩:Bl)
theorem GG (s:AI) (r:Bl) (h:gOf  s=some r):aB Tryz.prog 143 #[.string (aW s)] .triv aI (fun v A' N=>v= .agg #[.bool r.null,.string (aW r.data)]/\A'=aI/\N = []):=by
 unfold gOf at h;obtain rfl:=M2 h;exact Lt (sM s)
def qp  (b:Bl):Option (Bool):=some (bM b)
theorem tP  (b:Bl):qp  b=some (bM b):=rfl
theorem nI (b:Bl) (r:Bool) (h:qp  b=some r):aB Tryz.prog 148 #[.agg #[.bool b.null,.string (aW b.data)]] .triv aI (fun v A' N=>v= .bool r/\A'=aI/\N = []):=by
 unfold qp at h;obtain rfl:=M2 h;exact Lt (qj b)
def mC (st:AI×Int) (b:Bl) (size:Int):Option (AI×Int):=if (-9223372036854775808<=size/\size<=9223372036854775807)/\st.1.length+8+b.data.length<=140737488355328 then some (tJ st b size) else none
theorem kp (g:Nat) (st:AI×Int) (b:Bl) (size:Int) (r:AI×Int) (h:mC st b size=some r):aB Tryz.prog 95 #[.pointer (some ⟨g,0,none⟩),.agg #[.bool b.null,.string (aW b.data)],.int .i64 size] .triv (bz g st) (fun v A' N=>v= .tuple #[]/\A'=bz g r/\N = []):=by
 unfold mC at h;split at h
 ·rename_i a;obtain rfl:=M2 h;exact KY (qk g st b size a.1.1 a.1.2 a.2)
 ·simp at h
def mL (st:AI×Int) (b:Bl):Option (AI×Int):=if st.1.length+10+b.data.length<=140737488355328 then some (sa st b) else none
theorem lY (g:Nat) (st:AI×Int) (b:Bl) (r:AI×Int) (h:mL st b=some r):aB Tryz.prog 183 #[.pointer (some ⟨g,0,none⟩),.agg #[.bool b.null,.string (aW b.data)]] .triv (bz g st) (fun v A' N=>v= .tuple #[]/\A'=bz g r/\N = []):=by
 unfold mL at h;split at h
 ·rename_i a;obtain rfl:=M2 h;exact KY (pD g st b a)
 ·simp at h
def oh (st:AI×Int) (s:AI):Option (AI×Int):=if st.1.length+8+s.length<=140737488355328 then some (Bp st s) else none
theorem ly (g:Nat) (st:AI×Int) (s:AI) (r:AI×Int) (h:oh st s=some r):aB Tryz.prog 88 #[.pointer (some ⟨g,0,none⟩),.string (aW s)] .triv (bz g st) (fun v A' N=>v= .tuple #[]/\A'=bz g r/\N = []):=by
 unfold oh at h;split at h
 ·rename_i a;obtain rfl:=M2 h;exact KY (yt g st s a)
 ·simp at h
def sQ (st:AI×Int) (s:AI):Option (AI×Int):=if st.1.length+10+s.length<=140737488355328 then some (Bq st s) else none
theorem rL (g:Nat) (st:AI×Int) (s:AI) (r:AI×Int) (h:sQ st s=some r):aB Tryz.prog 132 #[.pointer (some ⟨g,0,none⟩),.string (aW s)] .triv (bz g st) (fun v A' N=>v= .tuple #[]/\A'=bz g r/\N = []):=by
 unfold sQ at h;split at h
 ·rename_i a;obtain rfl:=M2 h;exact KY (yu g st s a)
 ·simp at h
def lc (st:I) (size:Int):Option (Bl×I):=some ((jA st size).1,(jA st size).2)
theorem Fx (st:I) (size:Int):lc st size=some ((jA st size).1,(jA st size).2):=rfl
theorem j8 (g:Nat) (st:I) (size:Int) (r:Bl×I) (h:lc st size=some r):aB Tryz.prog 142 #[.pointer (some ⟨g,0,none⟩),.int .i64 size] .triv (InR g st) (fun v A' N=>v= .agg #[.bool r.1.null,.string (aW r.1.data)]/\A'=InR g r.2/\N = []):=by
 unfold lc at h;obtain rfl:=M2 h;exact KY (vi g st size)
def cW (st:I)  : Option (Bl×I):=some ((iN st).1,(iN st).2)
theorem CZ (st:I)  : cW st  = some ((iN st).1,(iN st).2):=rfl
theorem fp (g:Nat) (st:I)  (r:Bl×I) (h:cW st  = some r):aB Tryz.prog 128 #[.pointer (some ⟨g,0,none⟩)] .triv (InR g st) (fun v A' N=>v= .agg #[.bool r.1.null,.string (aW r.1.data)]/\A'=InR g r.2/\N = []):=by
 unfold cW at h;obtain rfl:=M2 h;exact KY (sN g st)
def sR (st:I)  : Option (AI×I):=some ((Eg st).1,(Eg st).2)
theorem o9 (g:Nat) (st:I)  (r:AI×I) (h:sR st  = some r):aB Tryz.prog 86 #[.pointer (some ⟨g,0,none⟩)] .triv (InR g st) (fun v A' N=>v= .string (aW r.1)/\A'=InR g r.2/\N = []):=by
 unfold sR at h;obtain rfl:=M2 h;exact KY (CN g st)
def wP (st:I)  : Option (AI×I):=some ((Eh st).1,(Eh st).2)
theorem wQ (g:Nat) (st:I)  (r:AI×I) (h:wP st  = some r):aB Tryz.prog 125 #[.pointer (some ⟨g,0,none⟩)] .triv (InR g st) (fun v A' N=>v= .string (aW r.1)/\A'=InR g r.2/\N = []):=by
 unfold wP at h;obtain rfl:=M2 h;exact KY (CO g st)
def nJ  (s:AI):Option (Bool):=some (fo s)
theorem pa  (s:AI):nJ  s=some (fo s):=rfl
theorem mv (s:AI) (r:Bool) (h:nJ  s=some r) (w:World):Calls Tryz.prog 87 #[.string (aW s)] w fun e w'=>e= .returned (.bool r)/\w=w':=by
 unfold nJ at h;obtain rfl:=M2 h;exact CS s w
def jK  (s:AI) (k:Int):Option (Gt):=if 0<=k/\k<=8/\s.length<=140737488355328 then some (mJ s k.toNat) else none
theorem iU  (s:AI) (k:Int) (h:0<=k/\k<=8/\s.length<=140737488355328):jK  s k=some (mJ s k.toNat):=QM h
theorem iE (s:AI) (k:Int) (r:Gt) (h:jK  s k=some r):aB Tryz.prog 121 #[.string (aW s),.int .i64 k] .triv aI (fun v A' N=>v= .agg #[.bool r.blob.null,.string (aW r.blob.data),.int .i64 r.many,.int .i64 r.err]/\A'=aI/\N = []):=by
 unfold jK at h;split at h
 ·rename_i a;obtain rfl:=M2 h;exact Lt (z9 s k a.1 a.2.1 a.2.2)
 ·simp at h
def j9  (s:AI):Option (Gt):=if s.length<=140737488355328 then some (mu s) else none
theorem kq  (s:AI) (h:s.length<=140737488355328):j9  s=some (mu s):=QM h
theorem iV (s:AI) (r:Gt) (h:j9  s=some r):aB Tryz.prog 230 #[.string (aW s)] .triv aI (fun v A' N=>v= .agg #[.bool r.blob.null,.string (aW r.blob.data),.int .i64 r.many,.int .i64 r.err]/\A'=aI/\N = []):=by
 unfold j9 at h;split at h
 ·rename_i a;obtain rfl:=M2 h;exact Lt (z8 s a)
 ·simp at h
inductive Lp (R S:Type) where
 | ret (r:R)
 | go (s:S)
section
variable {α:Type}
def ka (size:Nat) (E:Rd α) (w:World) (S:Nat->Prop):List Value->List α->Prop
 | cs,[]=>cs = []
 | cs,x::xs=>(cs.take size).length=size/\E.P w S (cs.take size) x/\ka size E w S (cs.drop size) xs
variable {size:Nat} {E:Rd α} {w w':World} {S S':Nat->Prop}
theorem wR: ∀ {xs:List α} {cs:List Value},ka size E w S cs xs->(∀ k,S k->S' k)->ka size E w S' cs xs
 | [],_,h,_=>h
 | _ :: _,_,⟨a,b,c⟩,k=>⟨a,E.mono b k,wR c k⟩
theorem mM: ∀ {xs:List α} {cs:List Value},ka size E w S cs xs->(∀ k,S k->w'.heap[k]? = w.heap[k]?)->ka size E w' S cs xs
 | [],_,h,_=>h
 | _ :: _,_,⟨a,b,c⟩,k=>⟨a,E.move b k,mM c k⟩
theorem mw: ∀ {xs:List α} {cs:List Value},ka size E w S cs xs->cs.length=xs.length*size
 | [],cs,h=>by simp[show cs = [] from h]
 | x::xs,cs,⟨a,_,b⟩=>by
  have c:=mw b;rw[Np] at a;rw[Nb] at c;rw[Ng,Nat.add_mul,Nat.one_mul];omega
theorem se: ∀ {xs:List α} {cs news:List Value} {x:α},ka size E w S cs xs->news.length=size->E.P w S news x->ka size E w S (cs++news) (xs ++ [x])
 | [],cs,news,x,h,hl,hx=>by
  obtain rfl:cs = []:=h;exact⟨by simp[hl],by rw[Nm,List.take_of_length_le QI]; exact hx,by rw[Nm,List.drop_of_length_le QI]; exact rfl⟩
 | y::ys,cs,news,x,⟨a,b,c⟩,hl,hx=>by
  have hle:size<=cs.length:=by rw[Np] at a; omega
  refine⟨?_,?_,?_⟩
  ·rw[List.take_append_of_le_length hle]; exact a
  ·rw[List.take_append_of_le_length hle]; exact b
  ·rw[List.drop_append_of_le_length hle]; exact se c hl hx
theorem tQ: ∀ {xs:List α} {cs:List Value} {i:Nat} {x:α},ka size E w S cs xs->xs[i]? = some x->((cs.drop (i*size)).take size).length=size/\E.P w S ((cs.drop (i*size)).take size) x
 | [],_,i,_,_,hi=>by simp at hi
 | y::ys,cs,0,x,⟨b,c,_⟩,hi=>by
  obtain rfl:y=x:=by simpa using hi
  rw[Nat.zero_mul,List.drop_zero];exact⟨b,c⟩
 | y::ys,cs,i+1,x,⟨_,_,d⟩,hi=>by
  have a:=tQ (i:=i) d (by simpa using hi);rw[NM] at a
  rwa [show size+i*size=(i+1)*size by rw[Nat.add_mul]; omega] at a
def bC (T:TypeId) (size:Nat) (E:Rd α) (v:Value) (xs:List α):Res where
 P:=fun w G=> ∃ cells S,w.ownsRow 0 T size v xs.length cells/\ka size E w S cells xs/\(∀ k,S k->k<w.heap.size)/\(∀ k,v.ownBlock=some k-> ¬ S k)/\ ∀ k,G k↔v.ownBlock=some k\/S k
 lt:=by
  rintro w G ⟨cells,S,b,d,c,e,a⟩ k hk;rcases (a k).1 hk with h | h
  ·exact zY b k h
  ·exact c k h
 move:=by
  rintro w w' G ⟨cells,S,b,d,c,e,a⟩ hm;refine⟨cells,S,sH b (fun k hk=>hm k ((a k).2 (.inl hk))),mM d (fun k hk=>hm k ((a k).2 (.inr hk))),fun k hk=> ?_,e,a⟩;have g:=c k hk;have f:=hm k ((a k).2 (.inr hk));rw[Array.getElem?_eq_getElem g] at f;exact (Array.getElem?_eq_some_iff.1 f).1
theorem bB {T:TypeId} {v:Value} {xs:List α} (hp:0<size): ∀ w G,(bC T size E v xs).P w G->(RX.of (ar size E) [v] xs).P w G:=by
 rintro w G ⟨cells,S,a,c,f,h,b⟩;have hb:=a;rcases a.2 with⟨rfl,hn⟩ | ⟨g,cap,cur,rfl,hbg,hg,hnc,hcm,hcs,htake⟩
 ·exact .inl ⟨rfl,List.eq_nil_of_length_eq_zero hn⟩
 ·refine .inr ⟨⟨g,0,none⟩,cap,rfl,hnc,hcm,fun _=>(b g).2 (.inl rfl),fun i x hx=> ?_⟩;obtain⟨d,e⟩:=tQ c hx;have hi:i<xs.length:=(M6 hx).1;refine⟨_,d,fun j hj=> ?_,E.mono e (fun k hk=>(b k).2 (.inr hk))⟩;have hadd:(⟨g,0,none⟩:Addr).add (i*size+j)=⟨g,i*size+j,none⟩:=by unfold Addr.add; split <;> simp_all
  have hlt:i*size+j<xs.length*size:=by
   have:(i+1)*size<=xs.length*size:=Nat.mul_le_mul_right _ QI;rw[Nat.add_mul] at this;omega
  rw[hadd,hb.cellAt _ hlt,List.getElem?_take,QM hj,List.getElem?_drop]
theorem et {cs:List Value} {a:α}: ∀ w G,(RdR E cs a).P w G->(RX.of E cs a).P w G:=fun _ _ h=>h.1
theorem eJ {F:Nat->Prop}:(RX.of (ar size E) [.slice none 0 0] []).reads w F:=⟨fun _=>False,.inl ⟨rfl,rfl⟩,fun _ h=>h.elim⟩
theorem KU {F:Nat->Prop} {A:AT} {n c i:Nat} {l:List α} {x:α} (hp:0<size) (h:(RX.of (ar size E) [.slice A n c] l).reads w F) (hx:l[i]? = some x) :
 ∃ g o:Nat,A=some ⟨g,o,none⟩/\ ∃ cs,cs.length=size/\(∀ j,j<size->w.cell? ⟨g,o+i*size+j,none⟩=cs[j]?)/\(¬ F g/\g<w.heap.size)/\(RX.of E cs x).reads w F:=by
 obtain⟨S,h,hS⟩:=h;rcases h with⟨h,rfl⟩ | ⟨a,cap,h,_,_,hb,d⟩
 ·simp at hx
 ·injection h with h;injection h with f s t;subst f;have hl:0<l.length:=by have:=(M6 hx).1; omega
  obtain⟨cs0,u,k,_⟩:=d 0 l[0] (List.getElem?_eq_getElem hl);have b:=k 0 hp;rw[List.getElem?_eq_getElem QI] at b;have m:a.add (0*size+0)=a:=by simp[Addr.add]
  rw[m] at b;have e:=tG b;obtain⟨cs,p,q,r⟩:=d i x hx;refine⟨a.block,a.off,by rw[<- e],cs,p,fun j hj=> ?_,hS _ (hb hl),S,r,hS⟩;rw[<- q j hj,e,WideShapes.add_plain,Nat.add_assoc]
theorem LM {F:Nat->Prop} {g o n c i:Nat} {l:List α} {x:α} (hp:0<size) (h:(RX.of (ar size E) [.slice (some ⟨g,o,none⟩) n c] l).reads w F) (hx:l[i]? = some x) :
 ∃ cs,cs.length=size/\(∀ j,j<size->w.cell? ⟨g,o+i*size+j,none⟩=cs[j]?)/\(¬ F g/\g<w.heap.size)/\(RX.of E cs x).reads w F:=by
 obtain⟨g',o',a,cs,b⟩:=KU hp h hx;injection a with a;injection a with d e;subst d e;exact⟨cs,b⟩
theorem Lb {F:Nat->Prop} {A:AT} {n c:Nat} {l:List α} (h:(RX.of (ar size E) [.slice A n c] l).reads w F):l.length<=9223372036854775807:=by
 obtain⟨S,h,hS⟩:=h;rcases h with⟨h,rfl⟩ | ⟨a,cap,h,b,d,_⟩
 ·simp
 ·have:maxLen=9223372036854775807:=rfl;omega
theorem St.old2 {F0:Nat->Prop} {w wr:World} {Rs:List Res} {v:Option Value} {g o:Nat} (h:St F0 w Rs wr) (hb: ¬ F0 g/\g<w.heap.size) (hc:w.cell? ⟨g,o,none⟩=v):wr.cell? ⟨g,o,none⟩=v:=by
 rw[<- hc];have e:=h.fr.block g hb.2 hb.1;simp only[World.cell?,e]
theorem bN {l:List α} {k:Nat} {x:α} (h:l[k]? = some x):l.drop k=x::l.drop (k+1):=by
 obtain⟨hk,rfl⟩:=M6 h;exact List.drop_eq_getElem_cons hk
theorem RdR.nil {F0:Nat->Prop} {w0:World} {Rs:List Res} (size:Nat) (E:Rd α) (h:St F0 w0 Rs w):St F0 w0 (RdR (ar size E) [.slice none 0 0] []::Rs) w :=
 h.grow (Ns := [RdR (ar size E) [.slice none 0 0] []]) (Fr.refl _ _) ⟨fun _=>False,⟨.inl ⟨rfl,rfl⟩,fun _ h=>h.elim⟩,fun _ h=>h.elim,trivial⟩
theorem bC.shut {F0:Nat->Prop} {w0:World} {Rs:List Res} {T:TypeId} {v:Value} {xs:List α} (hp:0<size) (i:Nat) (h:St F0 w0 Rs w) (hi:Rs[i]? = some (bC T size E v xs)):St F0 w0 (Rs.set i (RdR (ar size E) [v] xs)) w :=
 h.weaken i hi (fun G hG=>⟨bB hp _ _ hG,fun k hk=>(bC T size E v xs).lt hG k hk⟩)
section
variable {F0:Nat->Prop} {w0 w1:World} {Rs:List Res} {T:TypeId} {v v1:Value} {xs:List α} {B:Res}
theorem bC.nil (T:TypeId) (size:Nat) (E:Rd α) (h:St F0 w0 Rs w):St F0 w0 (bC T size E (.slice none 0 0) []::Rs) w :=
 h.grow (Ns := [bC T size E (.slice none 0 0) []]) (Fr.refl _ _) ⟨fun _=>False,⟨[],fun _=>False,World.ownsRow_nil _ _ _ _,rfl,fun _ h=>h.elim,fun _ _ h=>h,fun k=>by simp[Value.ownBlock]⟩,fun _ h=>h.elim,trivial⟩
theorem bC.lit (E:Rd α) (h:St F0 w0 Rs w) (cs:Array Value) (xs:List α) (hm:xs.length<=maxLen) (he:ka size E (w.alloc (.cells cs T)) (fun _=>False) cs.toList xs) :
 St F0 w0 (bC T size E (.slice (some ⟨w.heap.size,0,none⟩) xs.length xs.length) xs::Rs) (w.alloc (.cells cs T)) :=
 h.grow (Ns := [bC T size E (.slice (some ⟨w.heap.size,0,none⟩) xs.length xs.length) xs]) (LQ ((Below.refl _ _).alloc (NA _) _))
  ⟨fun k=>k=w.heap.size,⟨cs.toList,fun _=>False,World.ownsRow_lit w cs xs.length (Nn _) hm (by have:=mw he; simpa using this),he,fun _ h=>h.elim,fun _ _ h=>h,fun k=>by simp[Value.ownBlock,eq_comm]⟩,fun k hk=>by omega,trivial⟩
theorem bC.open_ (i:Nat) (h:St F0 w0 Rs w) (hi:Rs[i]? = some (bC T size E v xs)) :
 ∃ cells,w.ownsRow 0 T size v xs.length cells/\ ∀ v1 w1 news x,w1.ownsRow 0 T size v1 (xs.length+1) (cells++news)->w.grownBy w1 v.ownBlock->(v1.ownBlock=v.ownBlock\/ ∃ k,v1.ownBlock=some k/\w.heap.size<=k)->news.length=size ->
  (∀ w S,E.P w S news x)->St F0 w0 (Rs.set i (bC T size E v1 (xs ++ [x]))) w1:=by
 obtain⟨f,hs⟩:=h;obtain⟨G,⟨cells,S,j,l,c,d,b⟩,hG,hr⟩:=Sep.pick i hi hs;refine⟨cells,j,fun v1 w1 news x ho hg hat hl hx=> ?_⟩;have hst:St F0 w0 Rs w:=⟨f,hs⟩;have hne: ∀ k,S k->k<w.heap.size/\some k≠v.ownBlock:=fun k hk=>⟨c k hk,fun e=>d k e.symm hk⟩;have hS1:ka size E w1 S cells xs:=mM l (fun k hk=>hg.block k (hne k hk).1 (hne k hk).2);have hle:=hg.size;have g:Fr G w w1:=LY hg (fun k hk=>(b k).2 (.inl hk));refine⟨f.trans g hG,?_⟩;have hfs:=f.size;have hR:Sep (Rs.eraseIdx i) w1 (fun k=>((F0 k\/w0.heap.size<=k)/\ ¬ G k)/\k<w.heap.size):=hr.inside.move (fun k hk _=>g.block k hk.2 hk.1.2);refine Sep.back (G:=fun k=>v1.ownBlock=some k\/S k) i hi ⟨cells++news,S,?_,se hS1 hl (hx _ _),fun k hk=>Nat.lt_of_lt_of_le (c k hk) hle,?_,fun _=>Iff.rfl⟩ ?_ (hR.mono (fun k hk=>⟨hk.1.1,?_⟩))
 ·rw[M8]; exact ho
 ·intro k hk;rcases hat with e | ⟨k',e,hk'⟩
  ·rw[e] at hk; exact d k hk
  ·rw[e] at hk;injection hk with hk;subst hk;intro hs';have:=c _ hs';omega
 ·rintro k (hk | hk)
  ·rcases hat with e | ⟨k',e,hk'⟩
   ·rw[e] at hk; exact hG k ((b k).2 (.inl hk))
   ·rw[e] at hk;injection hk with hk;subst hk;exact .inr QI
  ·exact hG k ((b k).2 (.inr hk))
 ·rintro (a | a)
  ·rcases hat with e | ⟨k',e,hk'⟩
   ·rw[e] at a; exact hk.1.2 ((b k).2 (.inl a))
   ·rw[e] at a;injection a with a;subst a;have:=hk.2;omega
  ·exact hk.1.2 ((b k).2 (.inr a))
theorem bC.open2 (i j:Nat) (h:St F0 w0 Rs w) (hi:Rs[i]? = some (bC T size E v xs)) (hj:(Rs.eraseIdx i)[j]? = some B) :
 ∃ cells,w.ownsRow 0 T size v xs.length cells/\ ∀ v1 w1 news x,w1.ownsRow 0 T size v1 (xs.length+1) (cells++news)->w.grownBy w1 v.ownBlock->(v1.ownBlock=v.ownBlock\/ ∃ k,v1.ownBlock=some k/\w.heap.size<=k)->news.length=size ->
  (∀ w G,B.P w G->E.P w G news x)->St F0 w0 (bC T size E v1 (xs ++ [x])::(Rs.eraseIdx i).eraseIdx j) w1:=by
 obtain⟨f,hs⟩:=h;obtain⟨G,⟨cells,S,l,m,c,g,b⟩,hG,hr⟩:=Sep.pick i hi hs;obtain⟨H,hB,hH,hr2⟩:=Sep.pick j hj hr;refine⟨cells,l,fun v1 w1 news x ho hg hat hl hx=> ?_⟩;have hne: ∀ k,S k->k<w.heap.size/\some k≠v.ownBlock:=fun k hk=>⟨c k hk,fun e=>g k e.symm hk⟩;have hS1:ka size E w1 S cells xs:=mM m (fun k hk=>hg.block k (hne k hk).1 (hne k hk).2);have hle:=hg.size;have d:Fr G w w1:=LY hg (fun k hk=>(b k).2 (.inl hk));have hfs:=f.size;have hB1:B.P w1 H:=B.move hB (fun k hk=>d.block k (B.lt hB k hk) (hH k hk).2);refine⟨f.trans d hG,?_⟩;have hR:Sep ((Rs.eraseIdx i).eraseIdx j) w1 (fun k=>(((F0 k\/w0.heap.size<=k)/\ ¬ G k)/\ ¬ H k)/\k<w.heap.size):=hr2.inside.move (fun k hk _=>d.block k hk.2 hk.1.1.2);have hlt1:=B.lt hB;refine⟨fun k=>v1.ownBlock=some k\/(S k\/H k),⟨cells++news,fun k=>S k\/H k,?_,se (wR hS1 (fun _ h=> .inl h)) hl (E.mono (hx _ _ hB1) (fun _ h=> .inr h)),?_,?_,fun _=>Iff.rfl⟩,?_,hR.mono (fun k hk=>⟨hk.1.1.1,?_⟩)⟩
 ·rw[M8]; exact ho
 ·rintro k (hk | hk)
  ·exact Nat.lt_of_lt_of_le (c k hk) hle
  ·exact Nat.lt_of_lt_of_le (hlt1 k hk) hle
 ·intro k hk;rcases hat with e | ⟨k',e,hk'⟩
  ·rw[e] at hk;rintro (a | a)
   ·exact g k hk a
   ·exact (hH k a).2 ((b k).2 (.inl hk))
  ·rw[e] at hk;injection hk with hk;subst hk;rintro (a | a)
   ·have:=c _ a; omega
   ·have:=hlt1 _ a; omega
 ·rintro k (hk | hk | hk)
  ·rcases hat with e | ⟨k',e,hk'⟩
   ·rw[e] at hk; exact hG k ((b k).2 (.inl hk))
   ·rw[e] at hk;injection hk with hk;subst hk;exact .inr QI
  ·exact hG k ((b k).2 (.inr hk))
  ·exact (hH k hk).1
 ·rintro (a | a | a)
  ·rcases hat with e | ⟨k',e,hk'⟩
   ·rw[e] at a; exact hk.1.1.2 ((b k).2 (.inl a))
   ·rw[e] at a;injection a with a;subst a;have:=hk.2;omega
  ·exact hk.1.1.2 ((b k).2 (.inr a))
  ·exact hk.1.2 a
end
end
section
variable {P:Program} (w:World)
end
end Go.Proofs.YtheikonlgjdopaaGreat.Sl
