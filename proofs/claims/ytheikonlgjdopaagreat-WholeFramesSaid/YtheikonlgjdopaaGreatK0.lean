/- wholeFrames_holds: part 0. -/
import Derived.WalkKit
import Derived.Below
import Derived.Laws.OwnMore
import Derived.Deep.Draws
import Derived.Laws.Rows
import Derived.Lib.Hide
import Derived.Lib.AppendStr
import Derived.Maps.AppendAt
import Derived.OwnWalk
import Derived.Deep.AppendLies
import Derived.Laws.BytesArg
import Derived.Deep.WholeRow
import Derived.ChangeArms
import Derived.ChangeSlices
import Derived.Deep.Slices
import Derived.OpenShut
import Derived.WideShapes
import Derived.Test.YtheikonlgjdopaaGreatProg
import Derived.KernelRfl
import Derived.Deep.QuietTactic
import Derived.BigQuiet
import Derived.LoopN
import Derived.WalkSpells
import Derived.WalkLawsBesides
import Derived.Lib.Strings
import Derived.Laws.BitsLemmas
import Derived.Scope
import Derived.ScopeJumps
import Derived.WalkMore
import Derived.OrdersHeld
import Derived.Laws.Cells
import Derived.Laws.CopyRow
import Derived.Laws.StructEq
import Derived.IntWalk
import Derived.Laws.Strings
set_option maxRecDepth 100000
set_option maxHeartbeats 4000000
set_option linter.defProp false
namespace Go.Proofs.YtheikonlgjdopaaGreat.Sl
open Go.RowKit
set_option linter.unusedVariables false
abbrev jI (n : Int) : Value := .int .i64 n
abbrev jP (n : Nat) : Value := .pointer (some ⟨n, 0, none⟩)
theorem jF {α : Sort _} {P : Prop} [Decidable P] {a b c : α} (h : (if P then a else b) = c) : (P /\ a = c) \/ (¬P /\ b = c) := by by_cases p : P; exact .inl ⟨p, (if_pos p).symm.trans h⟩; exact .inr ⟨p, (if_neg p).symm.trans h⟩
theorem Mc {p : Prop} (h : p := by omega) : p := h
theorem Md {p : Prop} (h : p := by decide) : p := h
theorem Me {p : Prop} (h : p := by kernel_rfl) : p := h
theorem Mf {p : Prop} (h : p := by rfl) : p := h
theorem Z {α : Sort _} {a : α} : a = a := rfl
def Jo := @Option.bind_some
def Jp := @Option.some.inj
def Js := @List.length_append
theorem Jt {α : Type} {l : List α} {i : Nat} {a : α} (h : l[i]? = some a) : ∃ w : i < l.length, l[i] = a := List.getElem?_eq_some_iff.1 h
def Jz := @List.length_cons
def JA := @List.length_drop
def JI := @List.nil_append
def JM := @Nat.zero_le
def JN := @Nat.le_refl
def J6 := @List.length_nil
def Kf := @List.drop_drop
def Kp := @Int.toNat_natCast
def Kw := @List.length_take
def LQ := @Tryz.ntmps144
def LV := @Tryz.func144
def Mg := @if_pos
def Mh := @if_neg
structure Fr (F:Nat->Prop) (w w':World):Prop where
 os:w'.os=w.os
 tape:w'.tape=w.tape
 output:w'.output=w.output
 size:w.heap.size<=w'.heap.size
 block: ∀ k,k<w.heap.size-> ¬ F k->w'.heap[k]? = w.heap[k]?
theorem Fr.refl (F:Nat->Prop) (w:World):Fr F w w:=⟨rfl,rfl,rfl,JN _,fun _ _ _=>rfl⟩
theorem Fr.trans {F G:Nat->Prop} {a b c:World} (h:Fr F a b) (k:Fr G b c) (hg: ∀ k,G k->F k\/a.heap.size<=k):Fr F a c :=
 ⟨k.os.trans h.os,k.tape.trans h.tape,k.output.trans h.output,Nat.le_trans h.size k.size,fun i hi hn =>
  (k.block i (Nat.lt_of_lt_of_le hi h.size) (fun h2=>(hg i h2).elim hn (fun h3=>by omega))).trans (h.block i hi hn)⟩
theorem Ir {F:Nat->Prop} {w w':World} (h:Below w.heap.size w w'):Fr F w w':=⟨h.os,h.tape,h.output,h.size,fun k hk _=>h.block k hk⟩
theorem Fr.below {w w':World} (h:Fr (fun _=>False) w w'):Below w.heap.size w w':=⟨h.os,h.tape,h.output,h.size,fun k hk=>h.block k hk (fun h=>h)⟩
theorem Ik {F:Nat->Prop} {w w':World} {row:Option Nat} (h:w.grownBy w' row) (hr: ∀ k,row=some k->F k):Fr F w w' :=
 ⟨h.os,h.tape,h.output,h.size,fun k hk hn=>h.block k hk (fun e=>hn (hr k e.symm))⟩
theorem Fr.mono {F G:Nat->Prop} {w w':World} (h:Fr F w w') (hg: ∀ k,F k->G k):Fr G w w':=⟨h.os,h.tape,h.output,h.size,fun k hk hn=>h.block k hk (fun h2=>hn (hg k h2))⟩
theorem Fr.alloc {F:Nat->Prop} {w w':World} (h:Fr F w w') (o:Obj):Fr F w (w'.alloc o) :=
 h.trans (Ir (F:=fun _=>False) ((Below.refl _ _).alloc (JN _) o)) (fun _ h=>h.elim)
theorem Fr.drew {F:Nat->Prop} {w w':World} (h:Fr F w w'):Fr F w w'.drew:=⟨h.os,h.tape,h.output,h.size,h.block⟩
theorem Fr.drewN {F:Nat->Prop} {w w':World} (h:Fr F w w') (n:Nat):Fr F w (w'.drewN n):=⟨h.os,h.tape,h.output,h.size,h.block⟩
theorem Fr.set {F:Nat->Prop} {w w':World} (h:Fr F w w') {p:Addr} (hp:F p.block\/w.heap.size<=p.block) (u:Value):Fr F w (w'.setCell p u) :=
 h.trans (G:=fun k=>k=p.block) ⟨rfl,rfl,rfl,by simp[World.setCell],fun k _ hn=>Below.heap_setCell _ _ _ _ hn⟩ (fun k hk=>by rw[hk]; exact hp)
structure Res where
 P:World->(Nat->Prop)->Prop
 lt: ∀ {w:World} {G:Nat->Prop},P w G-> ∀ k,G k->k<w.heap.size
 move: ∀ {w w':World} {G:Nat->Prop},P w G->(∀ k,G k->w'.heap[k]? = w.heap[k]?)->P w' G
def Sep:List Res->World->(Nat->Prop)->Prop
 | [],_,_=>True
 | R::Rs,w,F=> ∃ G,R.P w G/\(∀ k,G k->F k)/\Sep Rs w (fun k=>F k/\ ¬ G k)
theorem Sep.mono: ∀ {Rs:List Res} {w:World} {F F':Nat->Prop},Sep Rs w F->(∀ k,F k->F' k)->Sep Rs w F'
 | [],_,_,_,_,_=>trivial
 | _ :: _,_,_,_,⟨G,h1,h2,h3⟩,hf=>⟨G,h1,fun k hk=>hf k (h2 k hk),h3.mono (fun k hk=>⟨hf k hk.1,hk.2⟩)⟩
theorem Sep.inside: ∀ {Rs:List Res} {w:World} {F:Nat->Prop},Sep Rs w F->Sep Rs w (fun k=>F k/\k<w.heap.size)
 | [],_,_,_=>trivial
 | R :: _,_,_,⟨G,h1,h2,h3⟩=>⟨G,h1,fun k hk=>⟨h2 k hk,R.lt h1 k hk⟩,h3.inside.mono (fun k hk=>⟨⟨hk.1.1,hk.2⟩,hk.1.2⟩)⟩
theorem Sep.move_: ∀ {Rs:List Res} {w w':World} {F:Nat->Prop},Sep Rs w F->(∀ k,F k->w'.heap[k]? = w.heap[k]?)->Sep Rs w' F
 | [],_,_,_,_,_=>trivial
 | R :: _,_,_,_,⟨G,h1,h2,h3⟩,hm=>⟨G,R.move h1 (fun k hk=>hm k (h2 k hk)),h2,h3.move_ (fun k hk=>hm k hk.1)⟩
theorem Sep.move {Rs:List Res} {w w':World} {F:Nat->Prop} (h:Sep Rs w F) (hm: ∀ k,F k->k<w.heap.size->w'.heap[k]? = w.heap[k]?):Sep Rs w' F :=
 (h.inside.move_ (fun k hk=>hm k hk.1 hk.2)).mono (fun _ hk=>hk.1)
theorem Sep.pick: ∀ {Rs:List Res} (i:Nat) {A:Res} {w:World} {F:Nat->Prop},Rs[i]? = some A->Sep Rs w F-> ∃ G,A.P w G/\(∀ k,G k->F k)/\Sep (Rs.eraseIdx i) w (fun k=>F k/\ ¬ G k)
 | [],i,_,_,_,hi,_=>by simp at hi
 | R::Rs,0,A,w,F,hi,h=>by
  have e:R=A:=by simpa using hi
  subst e;exact h
 | R::Rs,i+1,A,w,F,hi,⟨G,h1,h2,h3⟩=>by
  obtain⟨G',k1,k2,k3⟩:=Sep.pick i (by simpa using hi) h3;exact⟨G',k1,fun k hk=>(k2 k hk).1,G,h1,fun k hk=>⟨h2 k hk,fun h=>(k2 k h).2 hk⟩,k3.mono (fun k hk=>⟨⟨hk.1.1,hk.2⟩,hk.1.2⟩)⟩
theorem Sep.back: ∀ {Rs:List Res} (i:Nat) {A A':Res} {w:World} {F G:Nat->Prop},Rs[i]? = some A->A'.P w G->(∀ k,G k->F k)->Sep (Rs.eraseIdx i) w (fun k=>F k/\ ¬ G k)->Sep (Rs.set i A') w F
 | [],i,_,_,_,_,_,hi,_,_,_=>by simp at hi
 | R::Rs,0,A,A',w,F,G,hi,h1,h2,h3=>⟨G,h1,h2,h3⟩
 | R::Rs,i+1,A,A',w,F,G,hi,h1,h2,⟨G',k1,k2,k3⟩ =>
  ⟨G',k1,fun k hk=>(k2 k hk).1,Sep.back i (by simpa using hi) h1 (fun k hk=>⟨h2 k hk,fun h=>(k2 k h).2 hk⟩) (k3.mono (fun k hk=>⟨⟨hk.1.1,hk.2⟩,hk.1.2⟩))⟩
theorem Sep.append: ∀ {Ns Rs:List Res} {w:World} {F G:Nat->Prop},Sep Ns w G->Sep Rs w (fun k=>F k/\ ¬ G k)->(∀ k,G k->F k)->Sep (Ns++Rs) w F
 | [],_,_,_,_,_,h,_=>h.mono (fun _ hk=>hk.1)
 | N::Ns,Rs,w,F,G,⟨H,h1,h2,h3⟩,h,hg =>
  ⟨H,h1,fun k hk=>hg k (h2 k hk),Sep.append h3 (h.mono (fun k hk=>⟨⟨hk.1,fun h4=>hk.2 (h2 k h4)⟩,fun h4=>hk.2 h4.1⟩)) (fun k hk=>⟨hg k hk.1,hk.2⟩)⟩
theorem Sep.one {R:Res} {w:World} {F:Nat->Prop} (h:R.P w F):Sep [R] w F:=⟨F,h,fun _ h=>h,trivial⟩
structure St (F0:Nat->Prop) (w0:World) (Rs:List Res) (w:World):Prop where
 fr:Fr F0 w0 w
 sep:Sep Rs w (fun k=>F0 k\/w0.heap.size<=k)
section
variable {F0:Nat->Prop} {w0 w w':World} {Rs:List Res} {A A':Res}
theorem Hf (F0:Nat->Prop) (w:World) (h:Sep Rs w F0):St F0 w Rs w:=⟨Fr.refl _ _,h.mono (fun _ hk=> .inl hk)⟩
theorem St.nil_ (w:World):St (fun _=>False) w [] w:=⟨Fr.refl _ _,trivial⟩
theorem St.drew (h:St F0 w0 Rs w):St F0 w0 Rs w.drew:=⟨h.fr.drew,h.sep.move (fun _ _ _=>rfl)⟩
theorem St.drewN (h:St F0 w0 Rs w) (n:Nat):St F0 w0 Rs (w.drewN n):=⟨h.fr.drewN n,h.sep.move (fun _ _ _=>rfl)⟩
theorem St.drop_ (h:St F0 w0 (A::Rs) w):St F0 w0 Rs w:=by
 obtain⟨f,G,_,_,h3⟩:=h;exact⟨f,h3.mono (fun _ hk=>hk.1)⟩
theorem St.del (i:Nat) (h:St F0 w0 Rs w) (hi:Rs[i]? = some A):St F0 w0 (Rs.eraseIdx i) w:=by
 obtain⟨f,hs⟩:=h;obtain⟨G,_,_,h3⟩:=Sep.pick i hi hs;exact⟨f,h3.mono (fun _ hk=>hk.1)⟩
theorem St.weaken (i:Nat) (h:St F0 w0 Rs w) (hi:Rs[i]? = some A) (hA: ∀ G,A.P w G->A'.P w G):St F0 w0 (Rs.set i A') w:=by
 obtain⟨f,hs⟩:=h;obtain⟨G,h1,h2,h3⟩:=Sep.pick i hi hs;exact⟨f,Sep.back i hi (hA _ h1) h2 h3⟩
theorem St.get (i:Nat) (h:St F0 w0 Rs w) (hi:Rs[i]? = some A): ∃ G,A.P w G/\(∀ k,G k->F0 k\/w0.heap.size<=k):=by
 obtain⟨G,h1,h2,_⟩:=Sep.pick i hi h.sep;exact⟨G,h1,h2⟩
theorem St.step (i:Nat) (h:St F0 w0 Rs w) (hi:Rs[i]? = some A) {Ns:List Res}
 (hs: ∀ G,A.P w G->Fr G w w'/\Sep (A'::Ns) w' (fun k=>G k\/w.heap.size<=k)):St F0 w0 (Ns++Rs.set i A') w':=by
 obtain⟨f,hp⟩:=h;obtain⟨G,h1,h2,h3⟩:=Sep.pick i hi hp;obtain⟨f2,G2,k1,k2,k3⟩:=hs G h1;refine⟨f.trans f2 h2,?_⟩;have hle:=f.size;have hR:Sep (Rs.eraseIdx i) w' (fun k=>((F0 k\/w0.heap.size<=k)/\ ¬ G k)/\k<w.heap.size):=h3.inside.move (fun k hk _=>f2.block k hk.2 hk.1.2);refine Sep.append k3 (F:=fun k=>F0 k\/w0.heap.size<=k) (Sep.back i hi k1 (fun k hk=>⟨?_,fun hn=>hn.2 hk⟩) (hR.mono (fun k hk=>⟨⟨hk.1.1,?_⟩,?_⟩))) ?_
 ·rcases k2 k hk with h4 | h4
  ·exact h2 k h4
  ·exact .inr Mc
 ·rintro⟨h4 | h4,_⟩
  ·exact hk.1.2 h4
  ·have:=hk.2; omega
 ·intro h4;rcases k2 k h4 with h5 | h5
  ·exact hk.1.2 h5
  ·have:=hk.2; omega
 ·rintro k ⟨h4 | h4,_⟩
  ·exact h2 k h4
  ·exact .inr Mc
theorem St.grow (h:St F0 w0 Rs w) {Ns:List Res} (f2:Fr (fun _=>False) w w') (k3:Sep Ns w' (fun k=>w.heap.size<=k)):St F0 w0 (Ns++Rs) w':=by
 obtain⟨f,hp⟩:=h;have hle:=f.size;refine⟨f.trans f2 (fun _ h=>h.elim),Sep.append k3 ((hp.inside.move (fun k hk _=>f2.block k hk.2 (fun h=>h))).mono (fun k hk=>⟨hk.1,by have:=hk.2; omega⟩)) (fun k hk=> .inr Mc)⟩
theorem St.below (h:St (fun _=>False) w0 Rs w):Below w0.heap.size w0 w:=h.fr.below
end
def aN (b:Nat) (T:TypeId) (cs:Array Value):Res where
 P:=fun w G=>w.heap[b]? = some (.cells cs T (0,0))/\ ∀ k,G k↔k=b
 lt:=fun h k hk=>by
  rw[(h.2 k).1 hk];exact (Array.getElem?_eq_some_iff.1 h.1).1
 move:=fun h hm=>⟨(hm _ ((h.2 _).2 rfl)).trans h.1,h.2⟩
section
variable {F0:Nat->Prop} {w0 w w':World} {Rs:List Res} {b:Nat} {T:TypeId} {cs:Array Value}
theorem bt (h:w.heap[b]? = some (.cells cs T (0,0))) (i:Nat):w.cell? ⟨b,i,none⟩=cs[i]? := cell_of_row w b i cs T (0,0) h
theorem dm (h:w.heap[b]? = some (.cells cs T (0,0))) (i:Nat):w.frozen? ⟨b,i,none⟩=false:=by simp[World.frozen?,h]
theorem lY (h:w.heap[b]? = some (.cells cs T (0,0))) (i:Nat) (u:Value):(w.setCell ⟨b,i,none⟩ u).heap[b]? = some (.cells (cs.setIfInBounds i u) T (0,0)):=by
 simp[World.setCell,Array.getElem?_modify,h]
theorem jN {o:Obj} (h:w.heap[b]? = some o):b<w.heap.size:=(Array.getElem?_eq_some_iff.1 h).1
theorem St.blk (i:Nat) (h:St F0 w0 Rs w) (hi:Rs[i]? = some (aN b T cs)):w.heap[b]? = some (.cells cs T (0,0)):=by
 obtain⟨G,h1,_⟩:=h.get i hi;exact h1.1
theorem St.alloc (h:St F0 w0 Rs w) (cs:Array Value) (T:TypeId):St F0 w0 (aN w.heap.size T cs::Rs) (w.alloc (.cells cs T)) :=
 h.grow (Ns := [aN w.heap.size T cs]) (Ir ((Below.refl _ _).alloc (JN _) _)) ⟨fun k=>k=w.heap.size,⟨heap_alloc_new w _,fun _=>Iff.rfl⟩,fun k hk=>by omega,trivial⟩
theorem St.set (i:Nat) (h:St F0 w0 Rs w) (hi:Rs[i]? = some (aN b T cs)) (j:Nat) (u:Value):St F0 w0 (Rs.set i (aN b T (cs.setIfInBounds j u))) (w.setCell ⟨b,j,none⟩ u):=by
 refine h.step i hi (Ns := []) (fun G hG=>⟨?_,G,⟨lY hG.1 j u,hG.2⟩,fun k hk=> .inl hk,trivial⟩);exact (Fr.refl G w).set (p:=⟨b,j,none⟩) (.inl ((hG.2 b).2 rfl)) u
end
def pk (Q:Value->Res->List Res->Prop) (F:Nat->Prop) (w:World) (e:Ending) (w':World):Prop:= ∃ v A' Ns,e= .returned v/\Q v A' Ns/\St F w (A'::Ns) w'
def Post0 (Q:Value->List Res->Prop) (w:World) (e:Ending) (w':World):Prop:= ∃ v Ns,e= .returned v/\Q v Ns/\St (fun _=>False) w Ns w'
def fW (P:Program) (f:FuncId) (args:Array Value) (A:Res) (Q:Value->Res->List Res->Prop):Prop :=
 ∀ F w,A.P w F->Calls P f args w (pk Q F w)
def pd (P:Program) (f:FuncId) (args:Array Value) (Q:Value->List Res->Prop):Prop :=
 ∀ w,Calls P f args w (Post0 Q w)
section
variable {P:Program} {f:FuncId} {args:Array Value} {F0:Nat->Prop} {w0 w:World} {Rs:List Res} {A:Res}
theorem St.call {Q:Value->Res->List Res->Prop} (i:Nat) (h:St F0 w0 Rs w) (hi:Rs[i]? = some A) (hs:fW P f args A Q) :
 Calls P f args w fun e w'=> ∃ v A' Ns,e= .returned v/\Q v A' Ns/\St F0 w0 (Ns++Rs.set i A') w':=by
 obtain⟨G0,hG0,hsub⟩:=h.get i hi;obtain⟨G,h1,h2,h3⟩:=Sep.pick i hi h.sep;refine (hs G w h1).mono ?_;rintro e w' ⟨v,A',Ns,rfl,hq,hst⟩;refine⟨v,A',Ns,rfl,hq,?_⟩;obtain⟨f2,G2,k1,k2,k3⟩:=hst;have f:=h.fr;refine⟨f.trans f2 h2,?_⟩;have hle:=f.size;have hR:Sep (Rs.eraseIdx i) w' (fun k=>((F0 k\/w0.heap.size<=k)/\ ¬ G k)/\k<w.heap.size):=h3.inside.move (fun k hk _=>f2.block k hk.2 hk.1.2);refine Sep.append k3 (F:=fun k=>F0 k\/w0.heap.size<=k) (Sep.back i hi k1 (fun k hk=>⟨?_,fun hn=>hn.2 hk⟩) (hR.mono (fun k hk=>⟨⟨hk.1.1,?_⟩,?_⟩))) ?_
 ·rcases k2 k hk with h4 | h4
  ·exact h2 k h4
  ·exact .inr Mc
 ·rintro⟨h4 | h4,_⟩
  ·exact hk.1.2 h4
  ·have:=hk.2; omega
 ·intro h4;rcases k2 k h4 with h5 | h5
  ·exact hk.1.2 h5
  ·have:=hk.2; omega
 ·rintro k ⟨h4 | h4,_⟩
  ·exact h2 k h4
  ·exact .inr Mc
theorem Ii {Q:Value->List Res->Prop} (h:St F0 w0 Rs w) (hs:pd P f args Q) :
 Calls P f args w fun e w'=> ∃ v Ns,e= .returned v/\Q v Ns/\St F0 w0 (Ns++Rs) w':=by
 refine (hs w).mono ?_;rintro e w' ⟨v,Ns,rfl,hq,hst⟩;refine⟨v,Ns,rfl,hq,h.grow hst.fr (hst.sep.mono (fun k hk=>hk.elim (fun h=>h.elim) id))⟩
end
def cC (l:List UInt8):List Value:=l.map fun b=>Value.int .u8 b.toNat
theorem jv (l m:List UInt8):cC (l++m)=cC l++cC m:=by simp[cC]
theorem pe (s:ByteArray):Lib.strCells s=cC s.data.toList:=rfl
section
variable {P:Program} (w:World)
theorem vp (t u ty e:TypeId) (i:TypeInfo) (ht:P.underlying t=some (.slice e)) (hu:P.underlying u=some .string) (hi:P.info? e=some i) (hz:i.zero=some (.int .u8 0))
 (hsize:i.size=1) (hby:i.bytes=1)
 (v:Value) (n:Nat) (xs:List Value) (hown:w.ownsRow 0 e 1 v n xs) (s:ByteArray) (hbytes:n+s.size<=140737488355328) :
 ∃ v' w',(Builtin.append_ #[t,u] ty #[v,.string s]).run P w= .ok v' w'/\w'.ownsRow 0 e 1 v' (n+s.size) (xs++Lib.strCells s)/\w.grownBy w' v.ownBlock /\
  (v'.ownBlock=v.ownBlock\/v'.ownBlock=some w.heap.size):=by
 obtain⟨v',w',hr,h2,h3,h4⟩:=Lib.run_append_own_string (P:=P) w 0 t u ty e i ht hu hi hz hsize hby v n xs hown s (by simp only[maxLen]; omega) hbytes (JM _);refine⟨v',w',hr,h2,h3,?_⟩;rcases hown.2 with⟨rfl,rfl⟩ | ⟨g,cap,cur,rfl,hbg,hg,hnc,hcm,hcs,htake⟩
 ·by_cases hm:s.size=0
  ·left;rw[h4.2 ⟨rfl,hm⟩]
  ·right;have hr2:=run_append_nil_string (P:=P) w t u ty e i (.int .u8 0) ht hu hi hz s Mc Mc (by rw[hby]; omega);rw[hr] at hr2;injection hr2 with hv _;rw[hv];rfl
 ·by_cases hroom:n+s.size<=cap
  ·left;have hcs':cur.size=cap:=by simpa using hcs
   have hr2:=Lib.run_append_room_string (P:=P) w t u ty e i ht hu hi hsize g n cap cur hg s hroom Mc;rw[hr] at hr2;injection hr2 with hv _;rw[hv];rfl
  ·right;have hxl:xs.length=n:=by simpa using hown.1
   have holds: ∀ j u,xs[j]? = some u->w.cell? ((⟨g,0,none⟩:Addr).add j)=some u:=hown.cells (g:=g) rfl;have hr2:=Lib.run_append_grow_string (P:=P) w t u ty e i (.int .u8 0) ht hu hi hz ⟨g,0,none⟩ n cap xs (by rw[hsize]; simpa using hxl) holds s Mc Mc (by rw[hby]; exact growslice_fits Mc Mc);rw[hr] at hr2;injection hr2 with hv _;rw[hv];rfl
theorem lZ {ops:Array Oper} {rest:List Oper} {o:Oper} {a:Act} {Q:Exit->Act->World->Prop} (hgd:o.guard=none) (sl x:Operand) (t u:TypeId)
 (ho:o.op= .call { callee:= .builtin .append,args:= #[sl,x],argTypes:= #[t,u] })
 (e:TypeId) (ht:P.underlying t=some (.slice e)) (hu:P.underlying u=some .string) (hinfo:(P.info? e).map (fun i=>(i.zero,i.size,i.bytes))=some (some (.int .u8 0),1,1))
 (v:Value) (n:Nat) (xs:List Value) (hs:a.eval sl=v) (hown:w.ownsRow 0 e 1 v n xs) (s:ByteArray) (hx:a.eval x= .string s) (hbytes:n+s.size<=140737488355328)
 (h: ∀ v' w',w'.ownsRow 0 e 1 v' (n+s.size) (xs++Lib.strCells s)->w.grownBy w' v.ownBlock->(v'.ownBlock=v.ownBlock\/v'.ownBlock=some w.heap.size)->wpList P ops Q rest (a.put o.dst v') w'):wpList P ops Q (o::rest) a w:=by
 obtain⟨i,hi,hzz⟩:=Option.map_eq_some_iff.1 hinfo;simp only[Prod.mk.injEq] at hzz;refine wpList_plain hgd fun K hK=> ?_;obtain⟨v',w',hr,h2,h3,h4⟩:=vp (P:=P) w t u o.type e i ht hu hi hzz.1 hzz.2.1 hzz.2.2 v n xs hown s hbytes;unfold Oper.wp execOp;simp only[ho,resolve,invoke,builtin,Sem.run_bind,Sem.run_pure,Result.andThen_ok,List.map_toArray,List.map_cons,List.map_nil,hs,hx,hr];exact hK _ _ (h v' w' h2 h3 h4)
theorem rd {ops:Array Oper} {rest:List Oper} {o:Oper} {a:Act} {Q:Exit->Act->World->Prop} (hgd:o.guard=none) (sl x:Operand) (t:TypeId)
 (ho:o.op= .call { callee:= .builtin .append,args:= #[sl,x],argTypes:= #[t,t] })
 (e:TypeId) (z:Value) (bytes:Nat) (ht:P.underlying t=some (.slice e)) (hinfo:(P.info? e).map (fun i=>(i.zero,i.size,i.bytes))=some (some z,1,bytes)) (hz:z.cells.size=1)
 (v:Value) (n:Nat) (xs:List Value) (hs:a.eval sl=v) (hown:w.ownsRow 0 e 1 v n xs) (y:Value) (hy:y.oneCell'=true) (hx:a.eval x= .slice (some ⟨w.heap.size,0,none⟩) 1 1)
 (hbytes:(n+1)*bytes<=140737488355328) (hmax:n+1<=140737488355328)
 (h: ∀ v' w',w'.ownsRow 0 e 1 v' (n+1) (xs ++ [y])->w.grownBy w' v.ownBlock->(v'.ownBlock=v.ownBlock\/ ∃ k,v'.ownBlock=some k/\w.heap.size<=k)->wpList P ops Q rest (a.put o.dst v') w') :
 wpList P ops Q (o::rest) a (w.alloc (.cells #[y] e)):=by
 obtain⟨i,hi,hzz⟩:=Option.map_eq_some_iff.1 hinfo;simp only[Prod.mk.injEq] at hzz;obtain⟨hz0,hz1,hz2⟩:=hzz;refine wpList_append_own_at (w.alloc (.cells #[y] e)) hgd sl x t ho 0 e i z 1 bytes ht hi hz0 hz1 hz2 hz Mc v n xs hs (hown.alloc _) ⟨w.heap.size,0,none⟩ 1 1 [y] hx rfl
  (by simpa using World.news_of_block (cs:= #[y]) (t:=e) (fr:=(0,0)) (heap_alloc_new w (.cells #[y] e))) (by simpa using hy) (by simp only[maxLen]; omega) hbytes (JM _) ?_
 intro v' w' hown' hg _ hat;refine h v' w' hown' (World.grownBy.trans (World.grownBy_alloc w _ _) hg) ?_;rcases hat with hat | hat
 ·exact .inl hat
 ·exact .inr ⟨_,hat,by simp⟩
theorem zL (w:World) {src dst e:TypeId} {v:Value} {l:List UInt8} {n:Nat} (hs:P.underlying src=some (.slice e)) (he:P.underlying e=some (.int .u8)) (hd:P.underlying dst=some .string)
 (h:w.ownsRow 0 e 1 v n (cC l)):(convert src dst v).run P w= .ok (.string ⟨l.toArray⟩) w:=by
 have hl:l.length=n:=by have:=h.1; simp[cC] at this; exact this
 have hstr:strOfNums (l.map fun b=>(b.toNat:Int))=⟨l.toArray⟩:=by
  unfold strOfNums;congr 1;simp[List.map_map,Function.comp_def]
 rcases h.2 with⟨rfl,rfl⟩ | ⟨g,cap,cur,rfl,_⟩
 ·obtain rfl:l = []:=List.eq_nil_of_length_eq_zero hl;exact run_convert_bytes_nil w src e hs he 0 0 dst hd
 ·rw[<- hstr];refine run_convert_bytes_arg w src e hs he g 0 n cap _ (by simpa using hl) (fun i hi=> ?_) dst hd;have hc:=h.cells (g:=g) rfl i (.int .u8 ((l.map fun b=>(b.toNat:Int)).getD i 0)) (by simp[cC,List.getElem?_eq_getElem (show i<l.length by omega),List.getD_eq_getElem?_getD]);have ha:(⟨g,0,none⟩:Addr).add i=⟨g,0+i,none⟩:=by unfold Addr.add; split <;> simp_all
  rwa [ha] at hc
theorem mw {w:World} {e t:TypeId} {size n b:Nat} {v:Value} {xs:List Value} {cs:Array Value} (h:w.ownsRow 0 e size v n xs) (hg:w.heap[b]? = some (.cells cs t (0,0))) (hne:e≠t):some b≠v.ownBlock:=by
 rcases h.2 with⟨rfl,_⟩ | ⟨g',cap,cur,rfl,_,hh,_⟩
 ·simp[Value.ownBlock]
 ·intro he;have:b=g':=by simpa [Value.ownBlock] using he
  subst this;rw[hg] at hh;injection hh with hh;injection hh with _ ht;exact hne ht.symm
theorem wU {w:World} {e:TypeId} {size n:Nat} {v:Value} {xs:List Value} (h:w.ownsRow 0 e size v n xs) {p:Addr} (hne:some p.block≠v.ownBlock) (u:Value):(w.setCell p u).ownsRow 0 e size v n xs:=by
 obtain⟨h1,h2⟩:=h;refine⟨h1,?_⟩;rcases h2 with h2 | ⟨g,cap,cur,rfl,hg,hh,r⟩
 ·exact .inl h2
 ·exact .inr ⟨g,cap,cur,rfl,hg,by rw[Below.heap_setCell _ _ _ _ (fun e=>hne (by rw[e]; rfl))]; exact hh,r⟩
theorem pV {w w':World} {e:TypeId} {size n:Nat} {v:Value} {xs:List Value} (h:w.ownsRow 0 e size v n xs) (hm: ∀ k,v.ownBlock=some k->w'.heap[k]? = w.heap[k]?):w'.ownsRow 0 e size v n xs:=by
 obtain⟨h1,h2⟩:=h;refine⟨h1,?_⟩;rcases h2 with h2 | ⟨g,cap,cur,rfl,hg,hh,r⟩
 ·exact .inl h2
 ·exact .inr ⟨g,cap,cur,rfl,hg,(hm g rfl).trans hh,r⟩
theorem kK {w:World} {e:TypeId} {size n:Nat} {v:Value} {xs:List Value} (h:w.ownsRow 0 e size v n xs): ∃ a c,v= .slice a n c:=by
 rcases h.2 with⟨rfl,rfl⟩ | ⟨g,cap,cur,rfl,_⟩
 ·exact⟨none,0,rfl⟩
 ·exact⟨_,cap,rfl⟩
theorem wV {w:World} {e:TypeId} {size n:Nat} {v:Value} {xs:List Value} (h:w.ownsRow 0 e size v n xs): ∀ k,v.ownBlock=some k->k<w.heap.size:=fun k hk=>(h.lt k hk).2
end
section
variable {P:Program}
theorem re {ops:Array Oper} {rest:List Oper} {o:Oper} {a:Act} {w:World} {Q:Exit->Act->World->Prop} (hgd:o.guard=none) (ty:TypeId) (x y:Operand) (ho:o.op= .store ty x y)
 (t:TypeId) (c c':Array Value) (hx:a.eval x= .pointer (some ⟨w.heap.size,0,none⟩)) (hy:a.eval y= .agg c')
 (hi:(P.info? ty).map (·.size)=some c'.size) (hs:c.size=c'.size) (h1:c'.all (·.oneCell')=true)
 (h:wpList P ops Q rest (a.put o.dst undef) (w.alloc (.cells c' t))):wpList P ops Q (o::rest) a (w.alloc (.cells c t)):=by
 refine wpList_plain hgd fun K hK=> ?_;have hr:(Instr.storeAt ty (.pointer (some ⟨w.heap.size,0,none⟩)) (.agg c')).run P (w.alloc (.cells c t))= .ok () (w.alloc (.cells c' t)):=by
  simp only[Instr.storeAt,Instr.sureAddr,Sem.run_bind,Sem.run_pure,Result.andThen];rw[run_storeVar_row _ _ t ty c c' (heap_alloc_last w _) hi hs h1,World.setRow_alloc_new]
 unfold Oper.wp execOp;simp only[ho,hx,hy,hr,Sem.run_bind,Sem.run_pure,Result.andThen_ok];exact hK _ _ h
end
section
variable {F0:Nat->Prop} {w0 w w1:World} {Rs:List Res} {T:TypeId} {size n:Nat} {v v1:Value} {xs ys:List Value}
end
open Go.RowKit Go.Deep Go.ChangeShapes
structure Rd (α:Type) where
 P:World->(Nat->Prop)->List Value->α->Prop
 mono: ∀ {w:World} {S S':Nat->Prop} {cs:List Value} {a:α},P w S cs a->(∀ k,S k->S' k)->P w S' cs a
 move: ∀ {w w':World} {S:Nat->Prop} {cs:List Value} {a:α},P w S cs a->(∀ k,S k->w'.heap[k]? = w.heap[k]?)->P w' S cs a
def intRd (q:IntKind):Rd Int where
 P:=fun _ _ cs n=>cs = [.int q n]/\(Lit.int q n).wf=true
 mono:=fun h _=>h
 move:=fun h _=>h
def boolRd:Rd Bool where
 P:=fun _ _ cs b=>cs = [.bool b]
 mono:=fun h _=>h
 move:=fun h _=>h
def unitRd:Rd Unit where
 P:=fun _ _ cs _=>cs = []
 mono:=fun h _=>h
 move:=fun h _=>h
def pairRd {α β:Type} (A:Rd α) (B:Rd β):Rd (α×β) where
 P:=fun w S cs x=> ∃ c d,cs=c++d/\A.P w S c x.1/\B.P w S d x.2
 mono:=fun ⟨c,d,h1,h2,h3⟩ hS=>⟨c,d,h1,A.mono h2 hS,B.mono h3 hS⟩
 move:=fun ⟨c,d,h1,h2,h3⟩ hS=>⟨c,d,h1,A.move h2 hS,B.move h3 hS⟩
def rowAt {α:Type} (size:Nat) (E:Rd α) (w:World) (S:Nat->Prop) (a:Addr) (l:List α):Prop :=
 ∀ i x,l[i]? = some x-> ∃ cs,cs.length=size/\(∀ j,j<size->w.cell? (a.add (i*size+j))=cs[j]?)/\E.P w S cs x
def ai {α:Type} (size:Nat) (E:Rd α):Rd (List α) where
 P:=fun w S cs l=>(cs = [.slice none 0 0]/\l = [])\/ ∃ a cap,cs = [.slice (some a) l.length cap]/\l.length<=cap/\cap<=maxLen/\(0<l.length->S a.block)/\rowAt size E w S a l
 mono:=by
  rintro w S S' cs l (h | ⟨a,cap,h1,h2,h3,h4,h5⟩) hS
  ·exact .inl h
  ·refine .inr ⟨a,cap,h1,h2,h3,fun h=>hS _ (h4 h),fun i x hx=> ?_⟩;obtain⟨cs,k1,k2,k3⟩:=h5 i x hx;exact⟨cs,k1,k2,E.mono k3 hS⟩
 move:=by
  rintro w w' S cs l (h | ⟨a,cap,h1,h2,h3,h4,h5⟩) hS
  ·exact .inl h
  ·refine .inr ⟨a,cap,h1,h2,h3,h4,fun i x hx=> ?_⟩;obtain⟨cs,k1,k2,k3⟩:=h5 i x hx;refine⟨cs,k1,fun j hj=> ?_,E.move k3 hS⟩;rw[<- k2 j hj];have hb:(a.add (i*size+j)).block=a.block:=block_add _ _;have hl:0<l.length:=by have:=(Jt hx).1; omega
   simp only[World.cell?,hb,hS _ (h4 hl)]
theorem rf {w:World} {b:Addr} {v:Value} (h:w.cell? b=some v):b=⟨b.block,b.off,none⟩:=by
 obtain⟨g,o,s⟩:=b
 cases s with
 | none=>rfl
 | some s =>
  simp only[World.cell?] at h;split at h <;> simp at h
section
variable {H:Type} (enc:TypeId×Value->H) (P:Program)
def DE {α:Type} (t:TypeId) (E:Rd α):Prop :=
 ∀ (w:World) (fuel:Nat) (cs:List Value) (x:DataW H×List MemPlace),DataW.trod enc P w 0 (fun _=>true) true fuel t cs=some x-> ∃ a,E.P w (fun k=>k<w.heap.size) cs a
variable {enc P}
theorem vL {t:TypeId} {q:IntKind} (ht:P.underlying t=some (.int q)):DE enc P t (intRd q):=by
 intro w fuel cs x h;obtain⟨n,rfl,_,hw⟩:=DataW.trod_int ht h;exact⟨n,rfl,hw⟩
theorem zM {t:TypeId} (ht:P.underlying t=some .bool):DE enc P t boolRd:=by
 intro w fuel cs x h;obtain⟨b,rfl,_⟩:=DataW.trod_bool ht h;exact⟨b,rfl⟩
variable (enc P) in
end
structure RX where
 P:World->(Nat->Prop)->Prop
 mono: ∀ {w:World} {S S':Nat->Prop},P w S->(∀ k,S k->S' k)->P w S'
 move: ∀ {w w':World} {S:Nat->Prop},P w S->(∀ k,S k->w'.heap[k]? = w.heap[k]?)->P w' S
def RX.triv:RX:=⟨fun _ _=>True,fun _ _=>trivial,fun _ _=>trivial⟩
def RX.and (X Y:RX):RX:=⟨fun w S=>X.P w S/\Y.P w S,fun h k=>⟨X.mono h.1 k,Y.mono h.2 k⟩,fun h k=>⟨X.move h.1 k,Y.move h.2 k⟩⟩
def RX.of {α:Type} (E:Rd α) (cs:List Value) (a:α):RX:=⟨fun w S=>E.P w S cs a,fun h k=>E.mono h k,fun h k=>E.move h k⟩
def RX.reads (X:RX) (w:World) (F:Nat->Prop):Prop:= ∃ S,X.P w S/\ ∀ k,S k-> ¬ F k/\k<w.heap.size
theorem G5 (w:World) (F:Nat->Prop):RX.triv.reads w F:=⟨fun _=>False,trivial,fun _ h=>h.elim⟩
theorem RX.reads_and {X Y:RX} {w:World} {F:Nat->Prop} (h:X.reads w F) (k:Y.reads w F):(X.and Y).reads w F:=by
 obtain⟨S,h1,h2⟩:=h;obtain⟨T,k1,k2⟩:=k;exact⟨fun k=>S k\/T k,⟨X.mono h1 (fun _ h=> .inl h),Y.mono k1 (fun _ h=> .inr h)⟩,fun k hk=>hk.elim (h2 k) (k2 k)⟩
theorem GR {X Y:RX} {w:World} {F:Nat->Prop} (h:(X.and Y).reads w F):X.reads w F:=let ⟨S,h1,h2⟩:=h; ⟨S,h1.1,h2⟩
theorem Gz {X Y:RX} {w:World} {F:Nat->Prop} (h:(X.and Y).reads w F):Y.reads w F:=let ⟨S,h1,h2⟩:=h; ⟨S,h1.2,h2⟩
theorem RX.reads_weaken {X:RX} {w:World} {F G:Nat->Prop} (h:X.reads w F) (hg: ∀ k,k<w.heap.size->G k->F k):X.reads w G:=let ⟨S,h1,h2⟩:=h; ⟨S,h1,fun k hk=>⟨fun g=>(h2 k hk).1 (hg k (h2 k hk).2 g),(h2 k hk).2⟩⟩
def aO:Res where
 P:=fun _ G=> ∀ k,¬ G k
 lt:=fun h k hk=>(h k hk).elim
 move:=fun h _=>h
def RdR {α:Type} (E:Rd α) (cs:List Value) (a:α):Res where
 P:=fun w G=>E.P w G cs a/\ ∀ k,G k->k<w.heap.size
 lt:=fun h k hk=>h.2 k hk
 move:=fun {w w'} {G} h hm=>⟨E.move h.1 hm,fun k hk=>by
  have h1:=h.2 k hk;have h2:=hm k hk;rw[Array.getElem?_eq_getElem h1] at h2;exact (Array.getElem?_eq_some_iff.1 h2).1⟩
def aC (P:Program) (f:FuncId) (args:Array Value) (X:RX) (A:Res) (Q:Value->Res->List Res->Prop):Prop :=
 ∀ F w,A.P w F->X.reads w F->Calls P f args w (pk Q F w)
section
variable {P:Program} {f:FuncId} {args:Array Value} {F0:Nat->Prop} {w0 w:World} {Rs:List Res} {A B:Res} {X Y:RX}
theorem GZ {Q:Value->Res->List Res->Prop} (h:fW P f args A Q):aC P f args X A Q:=fun F w hA _=>h F w hA
theorem IA {Q:Value->List Res->Prop} (h:pd P f args Q):aC P f args X aO (fun v A' N=>A'=aO/\Q v N):=by
 intro F w hA _;refine (h w).mono ?_;rintro e w' ⟨v,Ns,rfl,hq,hst⟩;refine⟨v,aO,Ns,rfl,⟨rfl,hq⟩,⟨hst.fr.mono (fun k h=>h.elim),fun _=>False,fun k h=>h,fun k h=>h.elim,hst.sep.mono (fun k hk=> ?_)⟩⟩;exact⟨hk.elim (fun h=>h.elim) .inr,fun h=>h⟩
theorem Ic {v:Value} (h:pd P f args (fun u N=>u=v/\N = [])):aC P f args X aO (fun u A' N=>u=v/\A'=aO/\N = []):=by
 intro F w hA hX;refine ((IA (X:=X) h) F w hA hX).mono ?_;rintro e w' ⟨v,A',Ns,rfl,⟨rfl,rfl,rfl⟩,hst⟩;exact⟨_,_,_,rfl,⟨rfl,rfl,rfl⟩,hst⟩
theorem Hk {v:Value} (h: ∀ w,Calls P f args w fun e w'=>e= .returned v/\w=w'):aC P f args X aO (fun v' A' N=>v'=v/\A'=aO/\N = []):=by
 intro F w hA _;refine (h w).mono ?_;rintro e w' ⟨rfl,rfl⟩;exact⟨v,aO,[],rfl,⟨rfl,rfl,rfl⟩,Fr.refl _ _,fun _=>False,fun k h=>h,fun k h=>h.elim,trivial⟩
def Src (F0:Nat->Prop) (w0:World) (Rs:List Res) (w:World) (i:Nat) (X:RX):Prop :=
 ∀ A G,Rs[i]? = some A->A.P w G->(∀ k,G k->F0 k\/w0.heap.size<=k)->Sep (Rs.eraseIdx i) w (fun k=>(F0 k\/w0.heap.size<=k)/\ ¬ G k)->X.reads w G
theorem Src.triv (i:Nat):Src F0 w0 Rs w i .triv:=fun _ _ _ _ _ _=>G5 _ _
theorem Src.and {i:Nat} (h:Src F0 w0 Rs w i X) (k:Src F0 w0 Rs w i Y):Src F0 w0 Rs w i (X.and Y):=fun A G h1 h2 h3 h4=>RX.reads_and (h A G h1 h2 h3 h4) (k A G h1 h2 h3 h4)
theorem IB (h:St F0 w0 Rs w) (hX:X.reads w0 F0): ∃ S,X.P w S/\ ∀ k,S k-> ¬ F0 k/\k<w0.heap.size:=by
 obtain⟨S,h1,h2⟩:=hX;exact⟨S,X.move h1 (fun k hk=>h.fr.block k (h2 k hk).2 (h2 k hk).1),h2⟩
theorem Ia {i:Nat} (h:St F0 w0 Rs w) (hX:X.reads w0 F0):Src F0 w0 Rs w i X:=by
 intro A G _ _ h3 _;obtain⟨S,h1,h2⟩:=IB h hX;refine⟨S,h1,fun k hk=>⟨fun hg=> ?_,Nat.lt_of_lt_of_le (h2 k hk).2 h.fr.size⟩⟩;rcases h3 k hg with h4 | h4
 ·exact (h2 k hk).1 h4
 ·have:=(h2 k hk).2; omega
theorem Src.res {i:Nat} (j:Nat) (hj:(Rs.eraseIdx i)[j]? = some B) (hB: ∀ w G,B.P w G->X.P w G):Src F0 w0 Rs w i X:=by
 intro A G _ _ _ h4;obtain⟨G2,k1,k2,_⟩:=Sep.pick j hj h4;exact⟨G2,hB w G2 k1,fun k hk=>⟨(k2 k hk).2,B.lt k1 k hk⟩⟩
theorem GJ (h:St F0 w0 Rs w) (hX:X.reads w0 F0):X.reads w (fun _=>False):=by
 obtain⟨S,h1,h2⟩:=IB h hX;exact⟨S,h1,fun k hk=>⟨fun h=>h,Nat.lt_of_lt_of_le (h2 k hk).2 h.fr.size⟩⟩
theorem SrcE.res (j:Nat) (h:St F0 w0 Rs w) (hj:Rs[j]? = some B) (hB: ∀ w G,B.P w G->X.P w G):X.reads w (fun _=>False):=by
 obtain⟨G,h1,_⟩:=h.get j hj;exact⟨G,hB w G h1,fun k hk=>⟨fun h=>h,B.lt h1 k hk⟩⟩
theorem St.callX {Q:Value->Res->List Res->Prop} (i:Nat) (h:St F0 w0 Rs w) (hi:Rs[i]? = some A) (hs:aC P f args X A Q) (hr:Src F0 w0 Rs w i X) :
 Calls P f args w fun e w'=> ∃ v A' Ns,e= .returned v/\Q v A' Ns/\St F0 w0 (Ns++Rs.set i A') w':=by
 obtain⟨G,h1,h2,h3⟩:=Sep.pick i hi h.sep;refine (hs G w h1 (hr A G hi h1 h2 h3)).mono ?_;rintro e w' ⟨v,A',Ns,rfl,hq,hst⟩;refine⟨v,A',Ns,rfl,hq,?_⟩;obtain⟨f2,G2,k1,k2,k3⟩:=hst;have f:=h.fr;refine⟨f.trans f2 h2,?_⟩;have hle:=f.size;have hR:Sep (Rs.eraseIdx i) w' (fun k=>((F0 k\/w0.heap.size<=k)/\ ¬ G k)/\k<w.heap.size):=h3.inside.move (fun k hk _=>f2.block k hk.2 hk.1.2);refine Sep.append k3 (F:=fun k=>F0 k\/w0.heap.size<=k) (Sep.back i hi k1 (fun k hk=>⟨?_,fun hn=>hn.2 hk⟩) (hR.mono (fun k hk=>⟨⟨hk.1.1,?_⟩,?_⟩))) ?_
 ·rcases k2 k hk with h4 | h4
  ·exact h2 k h4
  ·exact .inr Mc
 ·rintro⟨h4 | h4,_⟩
  ·exact hk.1.2 h4
  ·have:=hk.2; omega
 ·intro h4;rcases k2 k h4 with h5 | h5
  ·exact hk.1.2 h5
  ·have:=hk.2; omega
 ·rintro k ⟨h4 | h4,_⟩
  ·exact h2 k h4
  ·exact .inr Mc
theorem St.emp (h:St F0 w0 Rs w):St F0 w0 (aO::Rs) w:=h.grow (Ns := [aO]) (Fr.refl _ _) ⟨fun _=>False,fun _ h=>h,fun _ h=>h.elim,trivial⟩
theorem St.callE {Q:Value->Res->List Res->Prop} (h:St F0 w0 Rs w) (hs:aC P f args X aO Q) (hr:X.reads w (fun _=>False)) :
 Calls P f args w fun e w'=> ∃ v A' Ns,e= .returned v/\Q v A' Ns/\St F0 w0 (Ns++Rs) w':=by
 have h':St F0 w0 (aO::Rs) w:=h.emp;refine (h'.callX 0 rfl hs ?_).mono ?_
 ·intro A G hA hG _ _;have e:aO=A:=by simpa using hA
  subst e;exact RX.reads_weaken hr (fun k _ hk=>(hG k hk).elim)
 ·rintro e w' ⟨v,A',Ns,rfl,hq,hst⟩;refine⟨v,A',Ns,rfl,hq,?_⟩;have:=hst.del Ns.length (A:=A') (by simp)
  rwa [List.eraseIdx_append_of_length_le (JN _),Nat.sub_self] at this
theorem aE {α:Type} {c:Prop} [Decidable c] {T:Option α} {r:α} (h:(if c then T else none)=some r):c/\T=some r:=by
 by_cases hc:c
 ·rw[Mg hc] at h; exact⟨hc,h⟩
 ·rw[Mh hc] at h; cases h
theorem aC.start (h:A.P w F0):St F0 w [A] w:=Hf F0 w (Sep.one h)
end
def resv (tmps:Array Value):ResultVar->Sem Value
 | .tmp t=>pure (tmps.getD t undef)
 | .cell a t=>do loadVar t (<- asAddr (tmps.getD a undef))
section
variable {P:Program} {fn:Func} {tmps:Array Value} {w:World} {r1 r2 r3:ResultVar} {v1 v2 v3:Value}
theorem my (fn:Func) (tmps:Array Value):results fn tmps=(do let vs <- fn.results.mapM (resv tmps); pure (if h:vs.size=1 then vs[0] else .tuple vs)):=by
 unfold results;rfl
end
set_option linter.unusedSimpArgs false
def bp (b:Nat) (st:List UInt8×Int):Res where
 P:=fun w G=> ∃ v,w.heap[b]? = some (.cells #[v,.int .i64 st.2] 112 (0,0))/\w.ownsRow 0 5 1 v st.1.length (cC st.1)/\ ∀ k,G k↔k=b\/v.ownBlock=some k
 lt:=by
  rintro w G ⟨v,h1,h2,h3⟩ k hk;rcases (h3 k).1 hk with rfl | h
  ·exact jN h1
  ·exact wV h2 k h
 move:=by
  rintro w w' G ⟨v,h1,h2,h3⟩ hm;exact⟨v,(hm _ ((h3 _).2 (.inl rfl))).trans h1,pV h2 (fun k hk=>hm k ((h3 k).2 (.inr hk))),h3⟩
theorem tC:(Tryz.prog.info? 5).map (fun i=>(i.zero,i.size,i.bytes))=some (some (.int .u8 0),1,1):=by kernel_rfl
theorem bp.stored {b:Nat} {l m:List UInt8} {w w1:World} {v v1:Value} {F:Nat->Prop} (hb:w.heap[b]? = some (.cells #[v,.int .i64 0] 112 (0,0))) (ho:w.ownsRow 0 5 1 v l.length (cC l)) (hF: ∀ k,F k↔k=b\/v.ownBlock=some k)
 {n:Nat} (ho1:w1.ownsRow 0 5 1 v1 n (cC m)) (hg:w.grownBy w1 v.ownBlock) (hat:v1.ownBlock=v.ownBlock\/ ∃ k,v1.ownBlock=some k/\w.heap.size<=k) :
 St F w [bp b (m,0)] (w1.setCell ⟨b,0,none⟩ v1):=by
 have hn:n=m.length:=by have:=ho1.1; simpa [cC] using this.symm
 subst hn;have hne:=mw ho hb Md;have hb1:w1.heap[b]? = some (.cells #[v,.int .i64 0] 112 (0,0)):=(hg.block b (jN hb) hne).trans hb;have hne1:=mw ho1 hb1 Md;refine⟨((Fr.refl F w).trans (Ik (F:=F) hg (fun k hk=>(hF k).2 (.inr hk))) (fun k hk=> .inl hk)).set (p:=⟨b,0,none⟩) (.inl ((hF b).2 (.inl rfl))) v1,?_⟩;refine⟨fun k=>k=b\/v1.ownBlock=some k,⟨v1,by simpa using lY hb1 0 v1,wU ho1 hne1 v1,fun _=>Iff.rfl⟩,?_,trivial⟩;rintro k (rfl | hk)
 ·exact .inl ((hF k).2 (.inl rfl))
 ·rcases hat with h | ⟨k',h,h'⟩
  ·rw[h] at hk;exact .inl ((hF k).2 (.inr hk))
  ·rw[h] at hk;injection hk with hk;subst hk;exact .inr h'
theorem Im {b:Nat} {st:List UInt8×Int} {w w':World} {F:Nat->Prop} (h:(bp b st).P w F) (n:Nat) (hw:w'=w.drewN n):St F w [bp b st] w':=by
 subst hw;exact (Hf F w (Sep.one h)).drewN n
def gH (st:List UInt8×Int) (l:List UInt8):List UInt8×Int:=if st.2=0 then (st.1++l,0) else st
def jW (st:List UInt8×Int) (e:Int):List UInt8×Int:=if st.2=0 then (st.1,e) else st
theorem oC (b:Nat) (st:List UInt8×Int) (e:Int):fW Tryz.prog 94 #[.pointer (some ⟨b,0,none⟩),.int .i64 e] (bp b st) (fun v A' N=>v= .tuple #[]/\A'=bp b (jW st e)/\N = []):=by
 rintro F w ⟨v,hb,ho,hF⟩;obtain⟨l,er⟩:=st;have c1:w.cell? ⟨b,1,none⟩=some (.int .i64 er):=(bt hb 1).trans rfl;have f1:w.frozen? ⟨b,1,none⟩=false:=dm hb 1;by_cases h0:er=0
 ·subst h0;have HB:=Lib.hid hb;have HO:=Lib.hid ho;clear hb ho;go_enter Tryz.func94,Tryz.ntmps94
  go_wp2
  go_end0
  refine⟨_,_,_,rfl,⟨rfl,rfl,rfl⟩,(Fr.refl F w).set (.inl ((hF b).2 (.inl rfl))) _,F,?_,fun k hk=> .inl hk,trivial⟩;have hne:=mw HO.out HB.out Md;exact⟨v,by simpa [jW] using lY HB.out 1 (.int .i64 e),wU HO.out hne _,hF⟩
 ·have HB:=Lib.hid hb;have HO:=Lib.hid ho;have H0:(er == 0)=false:=beq_eq_false_iff_ne.2 h0;clear hb ho;go_enter Tryz.func94,Tryz.ntmps94
  go_wp2
  go_end0
  exact⟨_,_,_,rfl,⟨rfl,rfl,rfl⟩,Im ⟨v,by simpa [jW,h0] using HB.out,by simpa [jW,h0] using HO.out,hF⟩ 0 rfl⟩
theorem xQ (b:Nat) (st:List UInt8×Int) (s:ByteArray) (hl:st.1.length+s.size<=140737488355328) :
 fW Tryz.prog 52 #[.pointer (some ⟨b,0,none⟩),.string s] (bp b st) (fun v A' N=>v= .tuple #[]/\A'=bp b (gH st s.data.toList)/\N = []):=by
 rintro F w ⟨v,hb,ho,hF⟩;obtain⟨l,er⟩:=st;have c0:w.cell? ⟨b,0,none⟩=some v:=(bt hb 0).trans rfl;have c1:w.cell? ⟨b,1,none⟩=some (.int .i64 er):=(bt hb 1).trans rfl;by_cases h0:er=0
 ·subst h0;have HB:=Lib.hid hb;have HO:=Lib.hid ho;clear hb ho;go_enter Tryz.func52,Tryz.ntmps52
  go_wp2_with (at_builtin; refine lZ w rfl _ _ _ _ rfl 5 Tryz.underlying72 Tryz.underlying9 tC v l.length (cC l) rfl HO.out s rfl hl ?_; intro v1 w1 ho1 hg hat; obtain⟨a1,k1,rfl⟩:=kK ho1; have HO1:=Lib.hid ho1; clear ho1; have HN:=Lib.hid (mw HO.out HB.out Md); have HB1:=Lib.hid (show w1.heap[b]? = _ from (hg.block b (jN HB.out) HN.out).trans HB.out); have d0:w1.cell? ⟨b,0,none⟩=some v:=(bt HB1.out 0).trans rfl; have e0:w1.frozen? ⟨b,0,none⟩=false:=dm HB1.out 0; have HG:=Lib.hid hg; have HAT:=Lib.hid hat; clear hg hat)
  go_end0
  have ho1:=HO1.out;rw[pe,<- jv] at ho1;refine⟨_,_,_,rfl,⟨rfl,rfl,rfl⟩,?_⟩;have:=bp.stored HB.out HO.out hF ho1 HG.out (by rcases HAT.out with h | h; exact .inl h; exact .inr ⟨_,h,JN _⟩);simpa [gH] using this
 ·have HB:=Lib.hid hb;have HO:=Lib.hid ho;have H0:(er == 0)=false:=beq_eq_false_iff_ne.2 h0;clear hb ho;go_enter Tryz.func52,Tryz.ntmps52
  go_wp2_with fail
  go_end0
  exact⟨_,_,_,rfl,⟨rfl,rfl,rfl⟩,Im ⟨v,by simpa [gH,h0] using HB.out,by simpa [gH,h0] using HO.out,hF⟩ 0 rfl⟩
theorem Cr (b:Nat) (st:List UInt8×Int) (c:UInt8) (hl:st.1.length+1<=140737488355328) :
 fW Tryz.prog 102 #[.pointer (some ⟨b,0,none⟩),.int .u8 c.toNat] (bp b st) (fun v A' N=>v= .tuple #[]/\A'=bp b (gH st [c])/\N = []):=by
 rintro F w ⟨v,hb,ho,hF⟩;obtain⟨l,er⟩:=st;have c0:w.cell? ⟨b,0,none⟩=some v:=(bt hb 0).trans rfl;have c1:w.cell? ⟨b,1,none⟩=some (.int .i64 er):=(bt hb 1).trans rfl;by_cases h0:er=0
 ·subst h0;have HB:=Lib.hid hb;have HO:=Lib.hid ho;clear hb ho;go_enter Tryz.func102,Tryz.ntmps102
  go_wp2_with (at_builtin; refine rd w rfl _ _ _ rfl 5 (.int .u8 0) 1 Tryz.underlying72 tC rfl v l.length (cC l) rfl HO.out (.int .u8 c.toNat) rfl rfl (by simpa using hl) hl ?_; intro v1 w1 ho1 hg hat; obtain⟨a1,k1,rfl⟩:=kK ho1; have HO1:=Lib.hid ho1; clear ho1; have HN:=Lib.hid (mw HO.out HB.out Md); have HB1:=Lib.hid (show w1.heap[b]? = _ from (hg.block b (jN HB.out) HN.out).trans HB.out); have d0:w1.cell? ⟨b,0,none⟩=some v:=(bt HB1.out 0).trans rfl; have e0:w1.frozen? ⟨b,0,none⟩=false:=dm HB1.out 0; have HG:=Lib.hid hg; have HAT:=Lib.hid hat; clear hg hat)
  go_end0
  have ho1:=HO1.out;rw[show ([Value.int .u8 c.toNat]:List Value)=cC [c] from rfl,<- jv] at ho1;refine⟨_,_,_,rfl,⟨rfl,rfl,rfl⟩,?_⟩;have:=bp.stored HB.out HO.out hF ho1 HG.out HAT.out;simpa [gH] using this
 ·have HB:=Lib.hid hb;have HO:=Lib.hid ho;have H0:(er == 0)=false:=beq_eq_false_iff_ne.2 h0;clear hb ho;go_enter Tryz.func102,Tryz.ntmps102
  go_wp2_with fail
  go_end0
  exact⟨_,_,_,rfl,⟨rfl,rfl,rfl⟩,Im ⟨v,by simpa [gH,h0] using HB.out,by simpa [gH,h0] using HO.out,hF⟩ 0 rfl⟩
theorem DF (b:Nat) (st:List UInt8×Int):fW Tryz.prog 48 #[.pointer (some ⟨b,0,none⟩)] (bp b st) (fun v A' N=>v= .int .i64 st.2/\A'=bp b st/\N = []):=by
 rintro F w ⟨v,hb,ho,hF⟩;obtain⟨l,er⟩:=st;have c1:w.cell? ⟨b,1,none⟩=some (.int .i64 er):=(bt hb 1).trans rfl;have HB:=Lib.hid hb;have HO:=Lib.hid ho;clear hb ho;go_enter Tryz.func48,Tryz.ntmps48
 go_wp2
 go_ret
 exact⟨_,_,_,rfl,⟨rfl,rfl,rfl⟩,Im ⟨_,HB.out,HO.out,hF⟩ 0 rfl⟩
def xR (st:List UInt8×Int):Value:=if st.2=0 then .tuple #[.string ⟨st.1.toArray⟩,.int .i64 0] else .tuple #[.string ⟨#[]⟩,.int .i64 st.2]
theorem Cs (b:Nat) (st:List UInt8×Int):fW Tryz.prog 50 #[.pointer (some ⟨b,0,none⟩)] (bp b st) (fun v A' N=>v=xR st/\A'=bp b st/\N = []):=by
 rintro F w ⟨v,hb,ho,hF⟩;obtain⟨l,er⟩:=st;have c0:w.cell? ⟨b,0,none⟩=some v:=(bt hb 0).trans rfl;have c1:w.cell? ⟨b,1,none⟩=some (.int .i64 er):=(bt hb 1).trans rfl;have hc:=zL (P:=Tryz.prog) w (src:=72) (dst:=9) Tryz.underlying72 Tryz.underlying5 Tryz.underlying9 ho;have HB:=Lib.hid hb;have HO:=Lib.hid ho;clear hb ho;by_cases h0:er=0
 ·subst h0;go_enter Tryz.func50,Tryz.ntmps50
  go_wp2
  go_ret2
  exact⟨_,_,_,rfl,⟨by simp[xR],rfl,rfl⟩,Im ⟨_,HB.out,HO.out,hF⟩ 0 rfl⟩
 ·have H0:(er != 0)=true:=bne_iff_ne.2 h0;go_enter Tryz.func50,Tryz.ntmps50
  go_wp2
  go_quiet (fail)
  go_wp2
  go_ret2
  exact⟨_,_,_,rfl,⟨by simp[xR,h0],rfl,rfl⟩,Im ⟨_,HB.out,HO.out,hF⟩ _ rfl⟩
def bm (n size:Int):Bool:=decide (1<=size) && decide (size<=8) && decide (-(2 ^ (8*size.toNat - 1):Int)<=n) && decide (n<=(2 ^ (8*size.toNat - 1):Int) - 1)
theorem w64max:wrap64 (wrap64 9223372036854775808 - 1)=9223372036854775807:=by unfold wrap64; omega
theorem lC {k:IntKind} {a b:Int} (h:a=b):Ending.returned (.int k a)= .returned (.int k b):=by rw[h]
theorem nB {a b:Bool} (h:a=b):Ending.returned (.bool a)= .returned (.bool b):=by rw[h]
theorem nC (n size:Int) (w:World) (h0: -9223372036854775808<=n) (h1:n<=9223372036854775807) :
 Calls Tryz.prog 101 #[.int .i64 n,.int .i64 size] w fun e w'=>e= .returned (.bool (bm n size))/\w=w':=by
 by_cases hs:1<=size/\size<=8
 ·have hk:size=1\/size=2\/size=3\/size=4\/size=5\/size=6\/size=7\/size=8:=by omega
  rcases hk with rfl | rfl | rfl | rfl | rfl | rfl | rfl | rfl;all_goals
   clear hs
   go_enter Tryz.func101,Tryz.ntmps101
   go_wp2
   all_goals (go_ret; exact⟨nB (by have:=w64max; rw[Bool.eq_iff_iff]; simp[bm,wrap64]; omega),rfl⟩)
 ·by_cases h2:size<1
  ·go_enter Tryz.func101,Tryz.ntmps101
   go_wp2
   go_ret
   exact⟨nB (by simp[bm]; omega),rfl⟩
  ·have h3:8<size:=by omega
   go_enter Tryz.func101,Tryz.ntmps101
   go_wp2
   go_ret
   exact⟨nB (by simp[bm]; omega),rfl⟩
def be (n:Int) (size:Nat):List UInt8:=(List.range size).map fun i=>UInt8.ofNat ((n / (2 ^ (8*(size - 1 - i)):Int)) % 256).toNat
def vq (st:List UInt8×Int) (n size:Int):List UInt8×Int:=if bm n size then gH st (be n size.toNat) else jW st 11
theorem xS (st:List UInt8×Int):gH st []=st:=by
 obtain⟨l,e⟩:=st;by_cases h:e=0 <;> simp[gH,h]
theorem rg (st:List UInt8×Int) (a b:List UInt8):gH (gH st a) b=gH st (a++b):=by
 obtain⟨l,e⟩:=st;by_cases h:e=0 <;> simp[gH,h]
theorem mz (b:Nat) (st:List UInt8×Int) (c:Int) (h0:0<=c) (h1:c<256) (hl:st.1.length+1<=140737488355328) :
 fW Tryz.prog 102 #[.pointer (some ⟨b,0,none⟩),.int .u8 c] (bp b st) (fun v A' N=>v= .tuple #[]/\A'=bp b (gH st [UInt8.ofNat c.toNat])/\N = []):=by
 have h:=Cr b st (UInt8.ofNat c.toNat) hl
 rwa [show ((UInt8.ofNat c.toNat).toNat:Int)=c from by simp[UInt8.toNat_ofNat']; omega] at h
theorem pW (st:List UInt8×Int) (a:List UInt8):(gH st a).1.length<=st.1.length+a.length:=by
 unfold gH; split <;> simp
theorem sp (b:Nat) (st:List UInt8×Int) (n size:Int) (h0: -9223372036854775808<=n) (h1:n<=9223372036854775807) (hl:st.1.length+8<=140737488355328) :
 fW Tryz.prog 51 #[.pointer (some ⟨b,0,none⟩),.int .i64 n,.int .i64 size] (bp b st) (fun v A' N=>v= .tuple #[]/\A'=bp b (vq st n size)/\N = []):=by
 intro F w hA;by_cases hf:bm n size=true
 ·have hs:1<=size/\size<=8:=by simp[bm] at hf; omega
  obtain⟨k,rfl⟩: ∃ k:Nat,size=k:=⟨size.toNat,by omega⟩;have HF:=Lib.hid hf;clear hf;have HA:=Lib.hid (Hf F w (Sep.one hA));clear hA;go_enter Tryz.func51,Tryz.ntmps51
  go_wp2_with fail
  refine (nC n k w h0 h1).mono ?_;rintro e w' ⟨rfl,rfl⟩;rw[HF.out];go_wp2_with fail
  go_loopw [6,14] (fun _ i wr=> ∃ j:Nat,j<=k/\i= .int .i64 j/\St F w [bp b (gH st ((be n k).take j))] wr) (fun _ i _=>k - (intOf i).toNat)
  case atStart=>exact⟨0,by omega,rfl,by simpa [xS] using HA.out⟩
  case round =>
   obtain⟨j,hj,rfl,hst⟩:=hrel;have HS:=Lib.hid hst;clear hst;by_cases hlt:j<k
   ·go_wp2_with fail
    have hle:((be n k).take j).length=j:=by simp[be]; omega
    have hl2:=pW st ((be n k).take j);refine (HS.out.call 0 rfl (mz b _ _ Mc Mc Mc)).mono ?_;rintro e w1 ⟨v,A',N,rfl,⟨rfl,rfl,rfl⟩,H1⟩;have HS1:=Lib.hid H1;clear H1 hle hl2;go_wp2_with fail
    go_roundw
    case rel =>
     refine⟨j+1,by omega,by go_num,?_⟩;have:=HS1.out;rw[rg] at this;have e1:(be n k).take (j+1)=(be n k).take j ++ [UInt8.ofNat ((n / (2 ^ (8*(k - 1 - j)):Int)) % 256).toNat]:=by
      rw[List.take_succ_eq_append_getElem (by simp[be]; omega)];simp[be]
     rw[e1];exact this
    case measure=>simp[intOf]; omega
   ·have e1:j=k:=by omega
    have e2:(be n k).take k=be n k:=List.take_of_length_le (by simp[be]);go_wp2_with fail
    go_end0
    refine⟨_,_,_,rfl,⟨rfl,rfl,rfl⟩,?_⟩;have:=HS.out;rw[e1,e2] at this;simpa [vq,HF.out] using this
 ·have HF:=Lib.hid (show bm n size=false by simpa using hf);clear hf;have HA:=Lib.hid (Hf F w (Sep.one hA));clear hA;go_enter Tryz.func51,Tryz.ntmps51
  go_wp2_with fail
  refine (nC n size w h0 h1).mono ?_;rintro e w' ⟨rfl,rfl⟩;rw[HF.out];go_wp2_with fail
  refine (HA.out.call 0 rfl (oC b _ 11)).mono ?_;rintro e w1 ⟨v,A',N,rfl,⟨rfl,rfl,rfl⟩,H1⟩;have HS1:=Lib.hid H1;clear H1;go_wp2_with fail
  go_end0
  refine⟨_,_,_,rfl,⟨rfl,rfl,rfl⟩,?_⟩;simpa [vq,HF.out] using HS1.out
structure I where
 rest:List UInt8
 pos:Nat
 err:Int
def bsOf (l:List UInt8):ByteArray:=⟨l.toArray⟩
abbrev jS (l:List UInt8):Value:= .string (bsOf l)
theorem ck (l:List UInt8):(bsOf l).size=l.length:=by simp[bsOf,ByteArray.size]
theorem cP (l:List UInt8):(bsOf l).data.toList=l:=by simp[bsOf]
theorem eJ (l:List UInt8):(bsOf l).toList=l:=ByteArray.toList_mk l
theorem nD (s:ByteArray) (a b:Nat):s.extract a b=bsOf ((s.data.toList.drop a).take (b - a)):=by
 apply ByteArray.ext;apply Array.ext';simp[bsOf,ByteArray.data_extract,List.extract_eq_take_drop]
def InR (b:Nat) (st:I):Res where
 P:=fun w G=> ∃ s:ByteArray,w.heap[b]? = some (.cells #[.string s,.int .i64 st.pos,.int .i64 st.err] 134 (0,0))/\st.pos+st.rest.length=s.size/\s.size<=9223372036854775807/\s.data.toList.drop st.pos=st.rest/\ ∀ k,G k↔k=b
 lt:=by
  rintro w G ⟨s,h1,_,_,_,h3⟩ k hk;rw[(h3 k).1 hk];exact jN h1
 move:=by
  rintro w w' G ⟨s,h1,h2,h3,h4,h5⟩ hm;exact⟨s,(hm _ ((h5 _).2 rfl)).trans h1,h2,h3,h4,h5⟩
theorem InR.kept {b:Nat} {st:I} {w w':World} {F:Nat->Prop} (h:(InR b st).P w F) (n:Nat) (hw:w'=w.drewN n):St F w [InR b st] w':=by
 subst hw;exact (Hf F w (Sep.one h)).drewN n
def cX (st:I) (e:Int):I:=if st.err=0 then { st with err:=e } else st
def cg (st:I) (n:Int):List UInt8×I :=
 if st.err≠0 then ([],st) else if n<0 then ([],{ st with err:=4 }) else if st.rest.length<n then ([],{ st with err:=1 })
 else (st.rest.take n.toNat,{ st with rest:=st.rest.drop n.toNat,pos:=st.pos+n.toNat })
theorem DG (s:ByteArray) (hs:s.size<=9223372036854775807) :
 pd Tryz.prog 19 #[.string s] (fun v N=> ∃ b,v= .pointer (some ⟨b,0,none⟩)/\N = [InR b ⟨s.data.toList,0,0⟩]):=by
 intro w;go_enter Tryz.func19,Tryz.ntmps19
 go_wp2
 go_ret
 refine⟨_,_,rfl,⟨_,rfl,rfl⟩,?_⟩;refine (((St.nil_ w).alloc #[.string s,.int .i64 0,.int .i64 0] 134).weaken 0 rfl (A':=InR w.heap.size ⟨s.data.toList,0,0⟩) ?_);rintro G ⟨h1,h2⟩;exact⟨s,h1,by simp,hs,rfl,h2⟩
theorem fX (b:Nat) (st:I) (e:Int):fW Tryz.prog 70 #[.pointer (some ⟨b,0,none⟩),.int .i64 e] (InR b st) (fun v A' N=>v= .tuple #[]/\A'=InR b (cX st e)/\N = []):=by
 rintro F w ⟨s,hb,h2,h3,h4,hF⟩;have c2:w.cell? ⟨b,2,none⟩=some (.int .i64 st.err):=(bt hb 2).trans rfl;have f2:w.frozen? ⟨b,2,none⟩=false:=dm hb 2;have HB:=Lib.hid hb;have H4:=Lib.hid h4;have H2:=Lib.hid h2;clear hb h4 h2;by_cases h0:st.err=0
 ·have H0:(st.err == 0)=true:=beq_iff_eq.2 h0;have HH:=Lib.hid h0;clear h0;go_enter Tryz.func70,Tryz.ntmps70
  go_wp2
  go_end0
  refine⟨_,_,_,rfl,⟨rfl,rfl,rfl⟩,(Fr.refl F w).set (.inl ((hF b).2 rfl)) _,F,?_,fun k hk=> .inl hk,trivial⟩;exact⟨s,by simpa [cX,HH.out] using lY HB.out 2 (.int .i64 e),by simpa [cX,HH.out] using H2.out,h3,by simpa [cX,HH.out] using H4.out,hF⟩
 ·have H0:(st.err == 0)=false:=beq_eq_false_iff_ne.2 h0;have HH:=Lib.hid h0;clear h0;go_enter Tryz.func70,Tryz.ntmps70
  go_wp2
  go_end0
  refine⟨_,_,_,rfl,⟨rfl,rfl,rfl⟩,InR.kept (st:=cX st e) ?_ 0 rfl⟩;rw[show cX st e=st by simp[cX,HH.out]];exact⟨s,HB.out,H2.out,h3,H4.out,hF⟩
theorem l6 (b:Nat) (st:I):fW Tryz.prog 71 #[.pointer (some ⟨b,0,none⟩)] (InR b st) (fun v A' N=>v= .int .i64 st.rest.length/\A'=InR b st/\N = []):=by
 rintro F w ⟨s,hb,h2,h3,h4,hF⟩;have c0:w.cell? ⟨b,0,none⟩=some (.string s):=(bt hb 0).trans rfl;have c1:w.cell? ⟨b,1,none⟩=some (.int .i64 st.pos):=(bt hb 1).trans rfl;have HB:=Lib.hid hb;have H4:=Lib.hid h4;have H2:=Lib.hid h2;have h2a:st.pos<=s.size:=by omega
 clear hb h4 h2;go_enter Tryz.func71,Tryz.ntmps71
 go_wp2
 go_quiet (fail)
 go_wp2
 go_ret
 have e1:(s.size:Int) - st.pos=st.rest.length:=by have:=H2.out; omega
 exact⟨_,_,_,lC e1,⟨rfl,rfl,rfl⟩,InR.kept ⟨s,HB.out,H2.out,h3,H4.out,hF⟩ _ rfl⟩
theorem dU (b:Nat) (st:I) (n:Int) (hn0: -9223372036854775808<=n) (hn1:n<=9223372036854775807) :
 fW Tryz.prog 67 #[.pointer (some ⟨b,0,none⟩),.int .i64 n] (InR b st) (fun v A' N=>v= .string (bsOf (cg st n).1)/\A'=InR b (cg st n).2/\N = []):=by
 rintro F w ⟨s,hb,h2,h3,h4,hF⟩;have hA:(InR b st).P w F:=⟨s,hb,h2,h3,h4,hF⟩;have c0:w.cell? ⟨b,0,none⟩=some (.string s):=(bt hb 0).trans rfl;have c1:w.cell? ⟨b,1,none⟩=some (.int .i64 st.pos):=(bt hb 1).trans rfl;have c2:w.cell? ⟨b,2,none⟩=some (.int .i64 st.err):=(bt hb 2).trans rfl;have f1:w.frozen? ⟨b,1,none⟩=false:=dm hb 1;have HB:=Lib.hid hb;have H4:=Lib.hid h4;have H2:=Lib.hid h2;have HA:=Lib.hid (Hf F w (Sep.one hA));have h2a:st.pos<=s.size:=by omega
 have h2b: ¬ ((s.size:Int) - st.pos<n)↔n<=st.rest.length:=by omega
 have H2b:=Lib.hid h2b;clear hb h4 h2 hA h2b;by_cases h0:st.err=0
 ·have H0:(st.err != 0)=false:=by simp[h0]
  have HH:=Lib.hid h0;clear h0;by_cases hn:n<0
  ·have HT:=Lib.hid (show cg st n=([],cX st 4) by simp[cg,HH.out,hn,cX]);go_enter Tryz.func67,Tryz.ntmps67
   go_wp2_with fail
   refine (HA.out.call 0 rfl (fX b st 4)).mono ?_;rintro e w1 ⟨v,A',N,rfl,⟨rfl,rfl,rfl⟩,H1⟩;have HS1:=Lib.hid H1;clear H1;go_wp2_with fail
   go_ret
   exact⟨_,_,_,rfl,⟨by rw[HT.out]; rfl,rfl,rfl⟩,by rw[HT.out]; exact HS1.out⟩
  ·by_cases hl:(st.rest.length:Int)<n
   ·have hl2:(s.size:Int) - st.pos<n:=by have:=H2.out; omega
    have HT:=Lib.hid (show cg st n=([],cX st 1) by simp[cg,HH.out,hn,cX,hl]);go_enter Tryz.func67,Tryz.ntmps67
    go_wp2_with fail
    go_quiet (fail)
    go_wp2_with fail
    refine ((HA.out.drewN _).call 0 rfl (fX b st 1)).mono ?_;rintro e w1 ⟨v,A',N,rfl,⟨rfl,rfl,rfl⟩,H1⟩;have HS1:=Lib.hid H1;clear H1;go_wp2_with fail
    go_ret
    exact⟨_,_,_,rfl,⟨by rw[HT.out]; rfl,rfl,rfl⟩,by rw[HT.out]; exact HS1.out⟩
   ·have hl2: ¬ ((s.size:Int) - st.pos<n):=by have:=H2.out; omega
    obtain⟨m,rfl⟩: ∃ m:Nat,n=m:=⟨n.toNat,by omega⟩;have hl3:st.pos+m<=s.size:=by omega
    have HT:=Lib.hid (show cg st m=(st.rest.take m,{ st with rest:=st.rest.drop m,pos:=st.pos+m }) by
     have: ¬ (st.rest.length<m):=by omega
     simp[cg,HH.out,this])
    go_enter Tryz.func67,Tryz.ntmps67
    go_wp2_with fail
    go_quiet (fail)
    go_wp2_with fail
    go_quiet (fail)
    go_wp2_with fail
    go_ret
    refine⟨.string (s.extract st.pos (st.pos+m)),_,_,rfl,⟨?_,rfl,rfl⟩,?_⟩
    ·rw[HT.out,nD,Nat.add_sub_cancel_left,H4.out]
    ·rw[HT.out];refine ((((Hf F w (Sep.one (R:=aN b 134 #[.string s,.int .i64 st.pos,.int .i64 st.err]) ⟨HB.out,hF⟩)).drewN _).set 0 rfl 1 (.int .i64 (st.pos+m))).drewN _).weaken 0 rfl (A':=InR b { st with rest:=st.rest.drop m,pos:=st.pos+m }) ?_;rintro G ⟨k1,k2⟩;have h2:=H2.out;refine⟨s,k1,?_,h3,?_,k2⟩
     ·simp only[JA]; omega
     ·simp only; rw[<- H4.out,Kf]
 ·have H0:(st.err != 0)=true:=bne_iff_ne.2 h0;have HH:=Lib.hid h0;clear h0;go_enter Tryz.func67,Tryz.ntmps67
  go_wp2_with fail
  go_ret
  refine⟨_,_,_,rfl,⟨?_,rfl,rfl⟩,?_⟩
  ·simp[cg,HH.out,bsOf]
  ·simpa [cg,HH.out] using HA.out
theorem Fv (x d:Int) (h0: -9223372036854775808<=x) (h1:x<=9223372036854775807) (hx:x % 256=0) (hd0:0<=d) (hd1:d<256):bits .or .i64 x d=x+d:=by
 have e1:(BitVec.ofInt 64 x).toNat=(x % 18446744073709551616).toNat:=by simp[BitVec.toNat_ofInt]
 have e2:(BitVec.ofInt 64 d).toNat=d.toNat:=by simp[BitVec.toNat_ofInt]; omega
 show IntKind.i64.wrap (((BitVec.ofInt 64 x) ||| (BitVec.ofInt 64 d)).toNat:Int)=x+d;rw[BitVec.toNat_or,e1,e2];generalize ha:(x % 18446744073709551616).toNat=a;have ha2:a % 256=0:=by omega
 have hq:a=2 ^ 8*(a / 256):=by omega
 have hb:d.toNat<2 ^ 8:=by omega
 have ho:a ||| d.toNat=a+d.toNat:=by
  rw[hq,<- Nat.two_pow_add_eq_or_of_lt hb (a / 256)]
 rw[ho,IntKind.wrap_i64];omega
def sgn (c:UInt8):Int:=if c.toNat<128 then c.toNat else (c.toNat:Int) - 256
theorem DH (c:UInt8):wrap64 (IntKind.i8.wrap (c.toNat:Int))=sgn c:=by
 have:=c.toNat_lt;have e:IntKind.i8.wrap (c.toNat:Int)=sgn c:=by
  unfold sgn;simp[IntKind.wrap,IntKind.bits,IntKind.signed];split <;> split <;> omega
 rw[e];unfold sgn wrap64;split <;> omega
def fd:List UInt8->Int
 | []=>0
 | c::cs=>cs.foldl (fun n d=>n*256+d.toNat) (sgn c)
theorem tD (l:List UInt8) (d:UInt8) (h:l ≠ []):fd (l ++ [d])=fd l*256+d.toNat:=by
 cases l with
 | nil=>exact absurd rfl h
 | cons c cs=>simp[fd]
theorem zN (cs:List UInt8): ∀ (n:Int) (m:Nat),1<=m-> -(2 ^ (m - 1):Int)<=n->n<(2 ^ (m - 1):Int) ->
 -(2 ^ (m+8*cs.length - 1):Int)<=cs.foldl (fun n d=>n*256+(d.toNat:Int)) n/\cs.foldl (fun n d=>n*256+(d.toNat:Int)) n<(2 ^ (m+8*cs.length - 1):Int):=by
 induction cs with
 | nil=>intro n m _ h1 h2; exact⟨h1,h2⟩
 | cons c cs ih =>
  intro n m hm h1 h2;have:=c.toNat_lt;have e:(2 ^ (m+8 - 1):Int)=256*2 ^ (m - 1):=by
   rw[show m+8 - 1=8+(m - 1) by omega,Int.pow_add];rfl
  have h3:=ih (n*256+c.toNat) (m+8) Mc (by rw[e]; omega) (by rw[e]; omega);rw[show m+8*(c::cs).length - 1=m+8+8*cs.length - 1 by simp; omega];exact h3
theorem nE (l:List UInt8) (h:l ≠ []): -(2 ^ (8*l.length - 1):Int)<=fd l/\fd l<(2 ^ (8*l.length - 1):Int):=by
 cases l with
 | nil=>exact absurd rfl h
 | cons c cs =>
  have hc:=c.toNat_lt;have:=zN cs (sgn c) 8 Mc (by unfold sgn; split <;> omega) (by unfold sgn; split <;> omega);rw[show 8*(c::cs).length - 1=8+8*cs.length - 1 by simp; omega];exact this
theorem wW (l:List UInt8) (h:l ≠ []) (h7:l.length<=7): -36028797018963968<=fd l/\fd l<36028797018963968:=by
 have hr:=nE l h;have hp:(2 ^ (8*l.length - 1):Int)<=36028797018963968:=by
  have h1:(2 ^ (8*l.length - 1):Nat)<=2 ^ 55:=Nat.pow_le_pow_right Md Mc;have h2:((2 ^ (8*l.length - 1):Nat):Int)<=((2 ^ 55:Nat):Int):=Int.ofNat_le.2 h1;rw[Int.natCast_pow,Int.natCast_pow] at h2;exact h2
 generalize (2 ^ (8*l.length - 1):Int)=z at *;omega
theorem zO (q d:Int) (h0: -36028797018963968<=q) (h1:q<36028797018963968) (hd0:0<=d) (hd1:d<256):bits .or .i64 (wrap64 (q*256)) (wrap64 d)=q*256+d:=by
 have e2:wrap64 (q*256)=q*256:=by unfold wrap64; omega
 have e3:wrap64 d=d:=by unfold wrap64; omega
 rw[e2,e3,Fv _ _ Mc Mc Mc hd0 hd1]
theorem zS (l:List UInt8):(bsOf l).toList.isEmpty=l.isEmpty:=by
 have e:(bsOf l).toList=l:=ByteArray.toList_mk l;rw[e]
theorem tE (l:List UInt8) (i:Nat) (h:i<(bsOf l).size):(bsOf l)[i]=l[i]'(by simpa [ck] using h):=by
 simp[bsOf]; rfl
def ew (st:I) (size:Int):Int×I:=if 1<=size/\size<=8 then (fd (cg st size).1,(cg st size).2) else (0,cX st 4)
theorem vM (st:I) (n:Int):(cg st n).1.length<=n.toNat:=by
 unfold cg;split
 ·simp
 ·split
  ·simp
  ·split
   ·simp
   ·simp; omega
theorem rh (b:Nat) (st:I) (size:Int) :
 fW Tryz.prog 68 #[.pointer (some ⟨b,0,none⟩),.int .i64 size] (InR b st) (fun v A' N=>v= .int .i64 (ew st size).1/\A'=InR b (ew st size).2/\N = []):=by
 intro F w hA;by_cases hs:1<=size/\size<=8
 ·obtain⟨k,rfl⟩: ∃ k:Nat,size=k:=⟨size.toNat,by omega⟩;have HI:=Lib.hid (show ew st k=(fd (cg st k).1,(cg st k).2) by simp only[ew,hs]; simp);have HA:=Lib.hid (Hf F w (Sep.one hA));clear hA;go_enter Tryz.func68,Tryz.ntmps68
  go_wp2_with fail
  refine (HA.out.call 0 rfl (dU b st k Mc Mc)).mono ?_;rintro e w1 ⟨v,A',N,rfl,⟨rfl,rfl,rfl⟩,H1⟩;have HS1:=Lib.hid H1;have hlen:=vM st k;clear H1;generalize hl:(cg st k).1=l at *;have hne:=zS l;have HL:=Lib.hid hl;clear hl
  cases l with
  | nil =>
   simp only[List.isEmpty_nil] at hne;go_wp2_with fail
   go_ret
   exact⟨_,_,_,rfl,⟨by rw[HI.out]; rfl,rfl,rfl⟩,by rw[HI.out]; exact HS1.out⟩
  | cons c cs =>
   have hsz:=ck (c::cs);have h0:=tE (c::cs) 0 (by simp[ck]);have HG:=Lib.hid (tE (c::cs));have hsg:=DH c;have hl8:cs.length<=7:=by simp at hlen; omega
   simp only[List.getElem_cons_zero,List.isEmpty_cons] at h0 hne;go_wp2_with fail
   go_loopw [6,7] (fun n i wr=>wr=w1/\ ∃ j:Nat,1<=j/\j<=cs.length+1/\i= .int .i64 j/\n= .int .i64 (fd ((c::cs).take j))) (fun _ i _=>cs.length+1 - (intOf i).toNat)
   case atStart=>exact⟨rfl,1,by omega,by omega,rfl,by simp[fd,hsg]⟩
   case round =>
    obtain⟨rfl,j,hj1,hj2,rfl,rfl⟩:=hrel;by_cases hlt:j<cs.length+1
    ·have hgj:=HG.out j (by rw[hsz]; simpa using hlt);have hb:j<=9223372036854775806:=by omega
     have hnn:(c::cs).take j ≠ []:=by intro h; have:=congrArg List.length h; simp at this; omega
     have hr:=wW ((c::cs).take j) hnn (by simp; omega);generalize hq:fd ((c::cs).take j)=q at *;have HQ:=Lib.hid hq;have HR:=Lib.hid hr;clear hq hr;go_wp2_with fail
     go_roundw
     case rel =>
      refine⟨trivial,j+1,by omega,by omega,by go_num,?_⟩;have hd:=((c::cs)[j]'(by simpa using hlt)).toNat_lt;have e1:(c::cs).take (j+1)=(c::cs).take j ++ [(c::cs)[j]'(by simpa using hlt)]:=by
       rw[List.take_succ_eq_append_getElem (by simpa using hlt)]
      rw[e1,tD _ _ hnn,HQ.out,zO q _ HR.out.1 HR.out.2 Mc Mc]
     case measure=>simp[intOf]; omega
    ·have e1:j=cs.length+1:=by omega
     have e2:(c::cs).take (cs.length+1)=c::cs:=List.take_of_length_le (by simp);have hb:(c::cs).length=cs.length+1:=rfl;go_wp2_with fail
     go_ret
     exact⟨_,_,_,rfl,⟨by rw[HI.out,e1,e2]; rfl,rfl,rfl⟩,by rw[HI.out]; exact HS1.out⟩
 ·have HI:=Lib.hid (show ew st size=(0,cX st 4) by simp only[ew,hs]; simp);have HA:=Lib.hid (Hf F w (Sep.one hA));clear hA;by_cases h1:size<1;all_goals
   go_enter Tryz.func68,Tryz.ntmps68
   go_wp2_with fail
   refine (HA.out.call 0 rfl (fX b st 4)).mono ?_
   rintro e w1 ⟨v,A',N,rfl,⟨rfl,rfl,rfl⟩,H1⟩
   have HS1:=Lib.hid H1
   clear H1
   go_wp2_with fail
   go_ret
   exact⟨_,_,_,rfl,⟨by rw[HI.out]; rfl,rfl,rfl⟩,by rw[HI.out]; exact HS1.out⟩
theorem InR.err {b:Nat} {st:I} {w:World} {F0:Nat->Prop} {w0:World} {Rs:List Res} (i:Nat) (h:St F0 w0 Rs w) (hi:Rs[i]? = some (InR b st)) :
 w.cell? ⟨b,2,none⟩=some (.int .i64 st.err)/\w.cell? ⟨b,1,none⟩=some (.int .i64 st.pos):=by
 obtain⟨G,⟨s,h1,_⟩,_⟩:=h.get i hi;exact⟨(bt h1 2).trans rfl,(bt h1 1).trans rfl⟩
theorem InR.len {b:Nat} {st:I} {w:World} {F0:Nat->Prop} {w0:World} {Rs:List Res} (i:Nat) (h:St F0 w0 Rs w) (hi:Rs[i]? = some (InR b st)):st.rest.length<=9223372036854775807:=by
 obtain⟨G,⟨s,h1,h2,h3,_⟩,_⟩:=h.get i hi;omega
theorem oD (b:Nat) (st:I):fW Tryz.prog 23 #[.pointer (some ⟨b,0,none⟩)] (InR b st) (fun v A' N=>v= .int .i64 st.err/\A'=InR b st/\N = []):=by
 intro F w hA;have hs:=Hf F w (Sep.one hA);have c2:=(InR.err 0 hs rfl).1;have HS:=Lib.hid hs;clear hs hA;go_enter Tryz.func23,Tryz.ntmps23
 go_wp2
 go_ret
 exact⟨_,_,_,rfl,⟨rfl,rfl,rfl⟩,HS.out⟩
def eT (st:I):I:=if st.rest = [] then st else cX st 2
theorem zT (b:Nat) (st:I):fW Tryz.prog 21 #[.pointer (some ⟨b,0,none⟩)] (InR b st) (fun v A' N=>v= .int .i64 (eT st).err/\A'=InR b (eT st)/\N = []):=by
 intro F w hA;have HS:=Lib.hid (Hf F w (Sep.one hA));clear hA;by_cases h:st.rest = []
 ·have HC:=Lib.hid (show eT st=st by simp[eT,h]);have hl:st.rest.length=0:=by simp[h]
  have HL:=Lib.hid hl;have hl2: ¬ ((0:Int)<st.rest.length):=by omega
  clear h hl;go_enter Tryz.func21,Tryz.ntmps21
  go_wp2_with fail
  refine (HS.out.call 0 rfl (l6 b st)).mono ?_;rintro e w1 ⟨v,A',N,rfl,⟨rfl,rfl,rfl⟩,H1⟩;have c2:=(InR.err 0 H1 rfl).1;have HS1:=Lib.hid H1;clear H1;go_wp2_with fail
  go_ret
  exact⟨_,_,_,rfl,⟨by rw[HC.out]; rfl,rfl,rfl⟩,by rw[HC.out]; exact HS1.out⟩
 ·have HC:=Lib.hid (show eT st=cX st 2 by simp[eT,h]);have hl2:(0:Int)<st.rest.length:=by
   have:=List.length_pos_iff.2 h;omega
  clear h;go_enter Tryz.func21,Tryz.ntmps21
  go_wp2_with fail
  refine (HS.out.call 0 rfl (l6 b st)).mono ?_;rintro e w1 ⟨v,A',N,rfl,⟨rfl,rfl,rfl⟩,H1⟩;have HS1:=Lib.hid H1;clear H1;go_wp2_with fail
  refine (HS1.out.call 0 rfl (fX b st 2)).mono ?_;rintro e w2 ⟨v,A',N,rfl,⟨rfl,rfl,rfl⟩,H2⟩;have c2:=(InR.err 0 H2 rfl).1;have HS2:=Lib.hid H2;clear H2;go_wp2_with fail
  go_ret
  exact⟨_,_,_,rfl,⟨by rw[HC.out]; rfl,rfl,rfl⟩,by rw[HC.out]; exact HS2.out⟩
def ke (st:I) (size each:Int):Int×I :=
 if (ew st size).2.err≠0 then (0,(ew st size).2)
 else if (ew st size).1<0 then (0,cX (ew st size).2 4)
 else if 0<each/\((ew st size).2.rest.length:Int) / each<(ew st size).1 then (0,cX (ew st size).2 1)
 else ew st size
theorem zU (b:Nat) (st:I) (size each:Int) :
 fW Tryz.prog 144 #[.pointer (some ⟨b,0,none⟩),.int .i64 size,.int .i64 each] (InR b st) (fun v A' N=>v= .int .i64 (ke st size each).1/\A'=InR b (ke st size each).2/\N = []):=by
 intro F w hA;have HS:=Lib.hid (Hf F w (Sep.one hA));clear hA;have HC:=Lib.hid (show ke st size each= _ from rfl);generalize hq:ke st size each=q at HC ⊢;have HC2:=Lib.hid (show q=ke st size each from hq.symm);clear hq HC;have HC3:=Lib.hid (show q=(if (ew st size).2.err≠0 then (0,(ew st size).2)
  else if (ew st size).1<0 then (0,cX (ew st size).2 4)
  else if 0<each/\((ew st size).2.rest.length:Int) / each<(ew st size).1 then (0,cX (ew st size).2 1)
  else ew st size) from HC2.out)
 clear HC2;have h1:=rh b st size;generalize ew st size=r at *;obtain⟨n,st1⟩:=r;have HN:=Lib.hid h1;clear h1;by_cases h0:st1.err=0
 ·have H0:(st1.err != 0)=false:=by simp[h0]
  have HH:=Lib.hid h0;clear h0;by_cases hn:n<0
  ·have HQ:=Lib.hid (show q=(0,cX st1 4) by rw[HC3.out]; simp[HH.out,hn]);go_enter LV,LQ
   go_wp2_with fail
   refine (HS.out.call 0 rfl HN.out).mono ?_;rintro e w1 ⟨v,A',N,rfl,⟨rfl,rfl,rfl⟩,H1⟩;have c2:=(InR.err 0 H1 rfl).1;have HS1:=Lib.hid H1;clear H1;go_wp2_with fail
   refine (HS1.out.call 0 rfl (fX b st1 4)).mono ?_;rintro e w2 ⟨v,A',N,rfl,⟨rfl,rfl,rfl⟩,H2⟩;have HS2:=Lib.hid H2;clear H2;go_wp2_with fail
   go_ret
   exact⟨_,_,_,rfl,⟨by rw[HQ.out]; rfl,rfl,rfl⟩,by rw[HQ.out]; exact HS2.out⟩
  ·by_cases he:0<each
   ·have hd0:0<=(st1.rest.length:Int):=by omega
    by_cases hc:(st1.rest.length:Int) / each<n
    ·have HQ:=Lib.hid (show q=(0,cX st1 1) by rw[HC3.out]; simp[HH.out,hn,he,hc]);go_enter LV,LQ
     go_wp2_with fail
     refine (HS.out.call 0 rfl HN.out).mono ?_;rintro e w1 ⟨v,A',N,rfl,⟨rfl,rfl,rfl⟩,H1⟩;have c2:=(InR.err 0 H1 rfl).1;have hb:=InR.len 0 H1 rfl;have hq1:0<=(st1.rest.length:Int) / each:=Int.ediv_nonneg hd0 Mc;have hq2:(st1.rest.length:Int) / each<=9223372036854775807:=Int.le_trans (Int.ediv_le_self each hd0) Mc;have HS1:=Lib.hid H1;clear H1;go_wp2_with fail
     refine (HS1.out.call 0 rfl (l6 b st1)).mono ?_;rintro e w2 ⟨v,A',N,rfl,⟨rfl,rfl,rfl⟩,H2⟩;have HS2:=Lib.hid H2;clear H2;go_wp2_with fail
     refine (HS2.out.call 0 rfl (fX b st1 1)).mono ?_;rintro e w2 ⟨v,A',N,rfl,⟨rfl,rfl,rfl⟩,H3⟩;have HS3:=Lib.hid H3;clear H3;go_wp2_with fail
     go_ret
     exact⟨_,_,_,rfl,⟨by rw[HQ.out]; rfl,rfl,rfl⟩,by rw[HQ.out]; exact HS3.out⟩
    ·have HQ:=Lib.hid (show q=(n,st1) by rw[HC3.out]; simp[HH.out,hn,hc]);go_enter LV,LQ
     go_wp2_with fail
     refine (HS.out.call 0 rfl HN.out).mono ?_;rintro e w1 ⟨v,A',N,rfl,⟨rfl,rfl,rfl⟩,H1⟩;have c2:=(InR.err 0 H1 rfl).1;have hb:=InR.len 0 H1 rfl;have hq1:0<=(st1.rest.length:Int) / each:=Int.ediv_nonneg hd0 Mc;have hq2:(st1.rest.length:Int) / each<=9223372036854775807:=Int.le_trans (Int.ediv_le_self each hd0) Mc;have HS1:=Lib.hid H1;clear H1;go_wp2_with fail
     refine (HS1.out.call 0 rfl (l6 b st1)).mono ?_;rintro e w2 ⟨v,A',N,rfl,⟨rfl,rfl,rfl⟩,H2⟩;have HS2:=Lib.hid H2;clear H2;go_wp2_with fail
     go_ret
     exact⟨_,_,_,rfl,⟨by rw[HQ.out]; rfl,rfl,rfl⟩,by rw[HQ.out]; exact HS2.out⟩
   ·have HQ:=Lib.hid (show q=(n,st1) by rw[HC3.out]; simp[HH.out,hn,he]);go_enter LV,LQ
    go_wp2_with fail
    refine (HS.out.call 0 rfl HN.out).mono ?_;rintro e w1 ⟨v,A',N,rfl,⟨rfl,rfl,rfl⟩,H1⟩;have c2:=(InR.err 0 H1 rfl).1;have HS1:=Lib.hid H1;clear H1;go_wp2_with fail
    go_ret
    exact⟨_,_,_,rfl,⟨by rw[HQ.out]; rfl,rfl,rfl⟩,by rw[HQ.out]; exact HS1.out⟩
 ·have H0:(st1.err != 0)=true:=bne_iff_ne.2 h0;have HQ:=Lib.hid (show q=(0,st1) by rw[HC3.out]; simp[h0]);clear h0;go_enter LV,LQ
  go_wp2_with fail
  refine (HS.out.call 0 rfl HN.out).mono ?_;rintro e w1 ⟨v,A',N,rfl,⟨rfl,rfl,rfl⟩,H1⟩;have c2:=(InR.err 0 H1 rfl).1;have HS1:=Lib.hid H1;clear H1;go_wp2_with fail
  go_ret
  exact⟨_,_,_,rfl,⟨by rw[HQ.out]; rfl,rfl,rfl⟩,by rw[HQ.out]; exact HS1.out⟩
theorem vr {l:List UInt8} {j:Nat} (h:j<l.length) (h0:0<j):l.take j ≠ []:=by
 intro he;have:=congrArg List.length he;rw[Kw,J6] at this;omega
theorem ax (n:Int) (k:Nat):(be n k).length=k:=by simp[be]
theorem q_next (n:Int) (a:Nat):n / 2 ^ (8*a) / 256=n / (2 ^ (8*(a+1)):Int):=by
 have hp:(0:Int)<2 ^ (8*a):=Int.pow_pos Md;rw[show 8*(a+1)=8*a+8 by omega,Int.pow_add,<- Int.ediv_ediv_of_nonneg (Int.le_of_lt hp)];rfl
theorem Bo (n:Int) (k j:Nat) (h:j<k):(be n k).take (j+1)=(be n k).take j ++ [UInt8.ofNat ((n / (2 ^ (8*(k - 1 - j)):Int)) % 256).toNat]:=by
 rw[List.take_succ_eq_append_getElem (by simpa [be] using h)];simp[be]
theorem xT (n:Int) (k:Nat) (h1:1<=k) (h8:k<=8):bm n k=true ↔ -(2 ^ (8*k - 1):Int)<=n/\n<(2 ^ (8*k - 1):Int):=by
 simp[bm];generalize (2 ^ (8*k - 1):Int)=z;omega
theorem xU (q:Int):((UInt8.ofNat (q % 256).toNat).toNat:Int)=q % 256:=by
 simp[UInt8.toNat_ofNat'];omega
theorem Ct (n:Int) (k:Nat) (h8:k<=8) (hf:bm n k=true): ∀ j:Nat,j+1<=k->fd ((be n k).take (j+1))=n / 2 ^ (8*(k - 1 - j)):=by
 intro j
 induction j with
 | zero =>
  intro h;have hb:=(xT n k Mc h8).1 hf;rw[Bo n k 0 Mc];have e1:(2 ^ (8*k - 1):Int)=128*2 ^ (8*(k - 1 - 0)):=by
   rw[show 8*k - 1=7+8*(k - 1 - 0) by omega,Int.pow_add];rfl
  rw[e1] at hb;have hp:(0:Int)<2 ^ (8*(k - 1 - 0)):=Int.pow_pos Md;have hl: -128<=n / 2 ^ (8*(k - 1 - 0)):=by
   rw[Int.le_ediv_iff_mul_le hp]; omega
  have hu:n / 2 ^ (8*(k - 1 - 0))<128:=by
   rw[Int.ediv_lt_iff_lt_mul hp]; omega
  generalize n / 2 ^ (8*(k - 1 - 0))=q at *;have hv:=xU q;generalize (UInt8.ofNat (q % 256).toNat)=c at *;simp[fd,sgn];split <;> omega
 | succ j ih =>
  intro h;have h2:=ih Mc;rw[Bo n k (j+1) Mc,tD _ _ (vr (by simp[be]; omega) Mc),h2,xU];have h3:=q_next n (k - 1 - (j+1));rw[show k - 1 - (j+1)+1=k - 1 - j by omega] at h3;omega
theorem xV (n:Int) (k:Nat) (h1:1<=k) (h8:k<=8) (hf:bm n k=true):fd (be n k)=n:=by
 have h:=Ct n k h8 hf (k - 1) Mc;rw[show k - 1+1=k by omega,List.take_of_length_le (by simp[be])] at h;rw[h,show k - 1 - (k - 1)=0 by omega];simp
theorem Fw (n:Int) (k:Nat) (h1:1<=k) (h8:k<=8):(fd (be n k)=n)↔bm n k=true:=by
 constructor
 ·intro h;rw[xT n k h1 h8,<- h];have:=nE (be n k) (by intro he; have:=congrArg List.length he; simp[be] at this; omega);rw[ax] at this;rw[h] at this ⊢;exact this
 ·exact xV n k h1 h8
def Exit.jumps (J:Nat->Act->World->Prop) (Q:Exit->Act->World->Prop):Exit->Act->World->Prop
 | .goto l,a,w=>J l a w
 | e,a,w=>Q e a w
section
variable {J:Nat->Act->World->Prop} {Q:Exit->Act->World->Prop} {a:Act} {w:World}
end
section
variable {P:Program} {a:Act} {w:World} {Q:Exit->Act->World->Prop}
theorem sY {c:Code} (J:Nat->Act->World->Prop) (μ:Nat->Act->World->Nat)
 (pass: ∀ l a w,J l a w-> ∃ rest,findLabel c l=some (Code.skip.seq rest)/\rest.wp P (Exit.jumps (fun l' a' w'=>J l' a' w'/\μ l' a' w'<μ l a w) Q) a w)
 (first:(∀ l rest a w,findLabel c l=some (Code.skip.seq rest)->J l a w->rest.wp P (Exit.jumps J Q) a w)->c.wp P (Exit.jumps J Q) a w):(Code.scope c).wp P Q a w:=by
 intro b k cs;have hg: ∀ l rest,findLabel c l=some rest->gotoIn l (.inScope c::k)=some (.code rest :: .inScope c::k):=fun l rest hf=>by simp[gotoIn,hf]
 have key: ∀ n l rest a w,findLabel c l=some (Code.skip.seq rest)->μ l a w=n->J l a w-> ∃ e a' w',Q e a' w'/\Arrives P (lone (b.at a (.code (Code.skip.seq rest) :: .inScope c::k)) cs w) b k cs e a' w':=by
  intro n
  induction n using Nat.strongRecOn with
  | _ n ih =>
   intro l rest a w hf hn hJ;obtain⟨rest',hf',hp⟩:=pass l a w hJ;rw[hf] at hf';injection hf' with hf';injection hf' with _ hf';subst hf';obtain⟨e,a₁,w₁,hq,harr⟩:=wp_seq (wp_skip (Q:=Exit.then _ _) hp) b (.inScope c::k) cs
   cases e with
   | normal=>exact⟨.normal,a₁,w₁,hq,Steps.trans harr (.one step_inScope)⟩
   | exit id=>exact⟨.exit id,a₁,w₁,hq,fun k' hk=>harr k' (by simp[exitTo,hk])⟩
   | goto l' =>
    obtain⟨hJ',hlt⟩:=hq;obtain⟨rest₂,hf₂,_⟩:=pass l' a₁ w₁ hJ';obtain⟨e₂,a₂,w₂,hq₂,harr₂⟩:=ih _ Mc l' rest₂ a₁ w₁ hf₂ rfl hJ';exact⟨e₂,a₂,w₂,hq₂,.of_steps (harr _ (hg _ _ hf₂)) harr₂⟩
   | ret=>exact⟨_,a₁,w₁,hq,harr⟩
   | panic ch=>exact⟨_,a₁,w₁,hq,harr⟩
   | outgrown=>exact⟨_,a₁,w₁,hq,harr⟩
 obtain⟨e,a₁,w₁,hq,harr⟩:=first (fun l rest a w hf hJ=>by
  obtain⟨rest',hf',hp⟩:=pass l a w hJ;rw[hf] at hf';injection hf' with hf';injection hf' with _ hf';subst hf';refine wp_mono hp ?_;intro e a' w' h;cases e <;> first | exact h | exact h.1) b (.inScope c::k) cs
 cases e with
 | normal=>exact⟨.normal,a₁,w₁,hq,.head step_scope (Steps.trans harr (.one step_inScope))⟩
 | exit id=>exact⟨.exit id,a₁,w₁,hq,fun k' hk=> .head step_scope (harr k' (by simp[exitTo,hk]))⟩
 | goto l' =>
  obtain⟨rest₂,hf₂,_⟩:=pass l' a₁ w₁ hq;obtain⟨e₂,a₂,w₂,hq₂,harr₂⟩:=key _ l' rest₂ a₁ w₁ hf₂ rfl hq;exact⟨e₂,a₂,w₂,hq₂,.of_steps (.head step_scope (harr _ (hg _ _ hf₂))) harr₂⟩
 | ret=>exact⟨_,a₁,w₁,hq,.of_steps (.one step_scope) harr⟩
 | panic ch=>exact⟨_,a₁,w₁,hq,.of_steps (.one step_scope) harr⟩
 | outgrown=>exact⟨_,a₁,w₁,hq,.of_steps (.one step_scope) harr⟩
end
def cQ (n:Nat):List UInt8:=if n<128 then [UInt8.ofNat n] else UInt8.ofNat (n % 128+128)::cQ (n / 128)
termination_by n
decreasing_by omega
def bw (n:Int):Nat:=if n<0 then (-(n+1)).toNat*2+1 else n.toNat*2
def l7 (n:Nat):Int:=if n % 2=1 then -((n / 2:Nat):Int) - 1 else ((n / 2:Nat):Int)
theorem xW (k:Nat): ∀ n:Nat,n<128 ^ (k+1)->(cQ n).length<=k+1:=by
 induction k with
 | zero=>intro n h; rw[cQ,Mg (by simpa using h)]; simp
 | succ k ih =>
  intro n h;rw[cQ];split
  ·simp
  ·have:=ih (n / 128) (by rw[Nat.div_lt_iff_lt_mul Md]; rwa [Nat.pow_succ] at h);simp; omega
theorem nG (n:Nat):1<=(cQ n).length:=by rw[cQ]; split <;> simp
theorem jX (n:Nat) (h:n<18446744073709551616):(cQ n).length<=10:=xW 9 n Mc
theorem io (n:Int) (h0: -9223372036854775808<=n) (h1:n<=9223372036854775807):bw n<18446744073709551616:=by unfold bw; split <;> omega
theorem zV (n:Int):l7 (bw n)=n:=by unfold l7 bw; split <;> split <;> omega
theorem zW (n:Nat):bw (l7 n)=n:=by unfold l7 bw; split <;> split <;> omega
theorem Fx (n:Int) (h0: -9223372036854775808<=n) (h1:n<=9223372036854775807) :
 bits .xor .u64 (IntKind.u64.wrap (wrap64 (n*2))) (IntKind.u64.wrap (n / 9223372036854775808))=(bw n:Int):=by
 have e1:IntKind.u64.wrap (wrap64 (n*2))=(n*2) % 18446744073709551616:=by rw[IntKind.wrap_u64]; unfold wrap64; omega
 rw[e1];show IntKind.u64.wrap ((BitVec.ofInt 64 _ ^^^ BitVec.ofInt 64 _).toNat:Int)= _;rcases Int.lt_or_le n 0 with h | h
 ·have e2:IntKind.u64.wrap (n / 9223372036854775808)=18446744073709551615:=by rw[IntKind.wrap_u64]; omega
  rw[e2,show BitVec.ofInt 64 18446744073709551615=BitVec.allOnes 64 by decide,BitVec.xor_allOnes,BitVec.toNat_not,BitVec.toNat_ofInt,IntKind.wrap_u64];simp only[bw,Mg h];omega
 ·have e2:IntKind.u64.wrap (n / 9223372036854775808)=0:=by rw[IntKind.wrap_u64]; omega
  rw[e2,show BitVec.ofInt 64 0=0#64 by decide,BitVec.xor_zero,BitVec.toNat_ofInt,IntKind.wrap_u64];simp only[bw,Mh (show ¬ n<0 by omega)];omega
theorem Bp (n m:Nat) (hn:n<18446744073709551616) (hm:m<18446744073709551616):bits .and .u64 n m=((n &&& m:Nat):Int):=by
 show IntKind.u64.wrap ((BitVec.ofInt 64 _ &&& BitVec.ofInt 64 _).toNat:Int)= _;rw[BitVec.toNat_and,BitVec.toNat_ofInt,BitVec.toNat_ofInt,IntKind.wrap_u64];have e1:((n:Int) % (2 ^ 64:Nat)).toNat=n:=by omega
 have e2:((m:Int) % (2 ^ 64:Nat)).toNat=m:=by omega
 rw[e1,e2];have:n &&& m<=m:=Nat.and_le_right;omega
theorem Cu (n:Nat) (hn:n<18446744073709551616):bits .and .u64 n 1=((n % 2:Nat):Int):=by
 have h:=Bp n 1 hn Md;rw[Nat.and_one_is_mod] at h;exact h
theorem Fy (n:Nat) (hn:n<18446744073709551616):bits .xor .i64 ((n:Int) / 2) (wrap64 (-wrap64 (bits .and .u64 n 1)))=l7 n:=by
 rw[Cu n hn];show IntKind.i64.wrap ((BitVec.ofInt 64 _ ^^^ BitVec.ofInt 64 _).toNat:Int)= _;rcases Nat.mod_two_eq_zero_or_one n with h | h
 ·rw[h];have e2:wrap64 (-wrap64 ((0:Nat):Int))=0:=by unfold wrap64; omega
  rw[e2,show BitVec.ofInt 64 0=0#64 by decide,BitVec.xor_zero,BitVec.toNat_ofInt,IntKind.wrap_i64];simp only[l7,h];simp;omega
 ·rw[h];have e2:wrap64 (-wrap64 ((1:Nat):Int))= -1:=by unfold wrap64; omega
  rw[e2,show BitVec.ofInt 64 (-1)=BitVec.allOnes 64 by decide,BitVec.xor_allOnes,BitVec.toNat_not,BitVec.toNat_ofInt,IntKind.wrap_i64];simp only[l7,h];simp;omega
theorem Fz: ∀ x:Fin 256,bits .or .u8 ((x.val:Nat):Int) 128=((x.val % 128+128:Nat):Int):=by decide
theorem or_128 (x:Nat) (h:x<256):bits .or .u8 (x:Int) 128=((x % 128+128:Nat):Int):=Fz ⟨x,h⟩
theorem vN (n:Int) (h0: -9223372036854775808<=n) (h1:n<=9223372036854775807) (w:World) :
 Calls Tryz.prog 216 #[.int .i64 n] w fun e w'=>e= .returned (.int .u64 (bw n))/\w=w':=by
 have H:=Lib.hid (Fx n h0 h1);go_enter Tryz.func216,Tryz.ntmps216
 go_wp2_with fail
 go_ret
 exact⟨lC H.out,rfl⟩
theorem vO (n:Nat) (hn:n<18446744073709551616) (w:World) :
 Calls Tryz.prog 177 #[.int .u64 n] w fun e w'=>e= .returned (.int .i64 (l7 n))/\w=w':=by
 have H:=Lib.hid (Fy n hn);go_enter Tryz.func177,Tryz.ntmps177
 go_wp2_with fail
 go_ret
 exact⟨lC H.out,rfl⟩
theorem vP (b:Nat) (st:List UInt8×Int) (n:Nat) (hn:n<18446744073709551616) (hl:st.1.length+10<=140737488355328) :
 fW Tryz.prog 215 #[.pointer (some ⟨b,0,none⟩),.int .u64 n] (bp b st) (fun v A' N=>v= .tuple #[]/\A'=bp b (gH st (cQ n))/\N = []):=by
 intro F w hA;have HA:=Lib.hid (Hf F w (Sep.one hA));clear hA;have HT:=Lib.hid (jX n hn);go_enter Tryz.func215,Tryz.ntmps215
 go_wp2_with fail
 go_loopw [1] (fun i wr=> ∃ (m:Nat) (p:List UInt8),m<=n/\p++cQ m=cQ n/\i= .int .u64 m/\St F w [bp b (gH st p)] wr) (fun i _=>(intOf i).toNat)
 case atStart=>exact⟨n,[],JN _,rfl,rfl,by rw[xS]; exact HA.out⟩
 case round =>
  obtain⟨m,p,hm,hp,rfl,hst⟩:=hrel;have hlen:(gH st p).1.length+1<=140737488355328:=by
   have h1:=pW st p;have h2:=HT.out;have h3:=nG m;rw[<- hp,Js] at h2;omega
  have HS:=Lib.hid hst;clear hst;by_cases hlt:128<=m
  ·have ho:=or_128 (m % 256) Mc;have e1:(m:Int) % 256=((m % 256:Nat):Int):=by omega
   rw[<- e1] at ho;have e2:m % 256 % 128=m % 128:=by omega
   rw[e2] at ho;have HO:=Lib.hid ho;have HP:=Lib.hid (show p ++ [UInt8.ofNat (m % 128+128)]++cQ (m / 128)=cQ n by rw[<- hp,cQ.eq_1 m,Mh Mc]; simp);clear hp ho e1 e2;go_wp2_with fail
   rw[HO.out];refine (HS.out.call 0 rfl (mz b _ ((m % 128+128:Nat):Int) Mc Mc hlen)).mono ?_;rintro e w1 ⟨v,A',N,rfl,⟨rfl,rfl,rfl⟩,H1⟩;rw[rg,Kp] at H1;have HS1:=Lib.hid H1;clear H1;go_wp2_with fail
   go_roundw
   case rel=>exact⟨m / 128,_,by omega,HP.out,by go_num,HS1.out⟩
   case measure=>simp[intOf]; omega
  ·have e1:(m:Int) % 256=((m:Nat):Int):=by omega
   have HO:=Lib.hid e1;have HP:=Lib.hid (show p ++ [UInt8.ofNat m]=cQ n by rw[<- hp,cQ.eq_1 m,Mg Mc]);clear hp e1;go_wp2_with fail
   refine (HS.out.call 0 rfl (mz b _ (m:Int) Mc Mc hlen)).mono ?_;rintro e w1 ⟨v,A',N,rfl,⟨rfl,rfl,rfl⟩,H1⟩;rw[rg,Kp,HP.out] at H1;have HS1:=Lib.hid H1;clear H1;go_wp2_with fail
   go_end0
   exact⟨_,_,_,rfl,⟨rfl,rfl,rfl⟩,HS1.out⟩
theorem vt (b:Nat) (st:List UInt8×Int) (n:Int) (h0: -9223372036854775808<=n) (h1:n<=9223372036854775807) (hl:st.1.length+10<=140737488355328) :
 fW Tryz.prog 181 #[.pointer (some ⟨b,0,none⟩),.int .i64 n] (bp b st) (fun v A' N=>v= .tuple #[]/\A'=bp b (gH st (cQ (bw n)))/\N = []):=by
 intro F w hA;have HA:=Lib.hid (Hf F w (Sep.one hA));clear hA;go_enter Tryz.func181,Tryz.ntmps181
 go_wp2_with fail
 refine (vN n h0 h1 w).mono ?_;rintro e w' ⟨rfl,rfl⟩;go_wp2_with fail
 refine (HA.out.call 0 rfl (vP b _ (bw n) (io n h0 h1) hl)).mono ?_;rintro e w1 ⟨v,A',N,rfl,⟨rfl,rfl,rfl⟩,H1⟩;have HS1:=Lib.hid H1;clear H1;go_wp2_with fail
 go_end0
 exact⟨_,_,_,rfl,⟨rfl,rfl,rfl⟩,HS1.out⟩
def gZ (st:List UInt8×Int) (n:Int):List UInt8×Int:=if -2147483648<=n/\n<=2147483647 then gH st (cQ (bw n)) else jW st 11
theorem ej (n:Int):bm n 4=decide (-2147483648<=n/\n<=2147483647):=by
 have h1:(2 ^ (8*(4:Int).toNat - 1):Int)=2147483648:=by decide
 unfold bm;rw[h1,Bool.eq_iff_iff];simp
theorem pX (b:Nat) (st:List UInt8×Int) (n:Int) (h0: -9223372036854775808<=n) (h1:n<=9223372036854775807) (hl:st.1.length+10<=140737488355328) :
 fW Tryz.prog 182 #[.pointer (some ⟨b,0,none⟩),.int .i64 n] (bp b st) (fun v A' N=>v= .tuple #[]/\A'=bp b (gZ st n)/\N = []):=by
 intro F w hA;have HA:=Lib.hid (Hf F w (Sep.one hA));clear hA;by_cases hf: -2147483648<=n/\n<=2147483647
 ·have HF:=Lib.hid (show bm n 4=true by rw[ej]; simp[hf]);have HE:=Lib.hid (show gZ st n=gH st (cQ (bw n)) by simp[gZ,hf]);go_enter Tryz.func182,Tryz.ntmps182
  go_wp2_with fail
  refine (nC n 4 w h0 h1).mono ?_;rintro e w' ⟨rfl,rfl⟩;rw[HF.out];go_wp2_with fail
  refine (vN n h0 h1 w).mono ?_;rintro e w' ⟨rfl,rfl⟩;go_wp2_with fail
  refine (HA.out.call 0 rfl (vP b _ (bw n) (io n h0 h1) hl)).mono ?_;rintro e w1 ⟨v,A',N,rfl,⟨rfl,rfl,rfl⟩,H1⟩;have HS1:=Lib.hid H1;clear H1;go_wp2_with fail
  go_end0
  exact⟨_,_,_,rfl,⟨rfl,by rw[HE.out],rfl⟩,HS1.out⟩
 ·have HF:=Lib.hid (show bm n 4=false by rw[ej]; simp; omega);have HE:=Lib.hid (show gZ st n=jW st 11 by simp[gZ,hf]);clear hf;go_enter Tryz.func182,Tryz.ntmps182
  go_wp2_with fail
  refine (nC n 4 w h0 h1).mono ?_;rintro e w' ⟨rfl,rfl⟩;rw[HF.out];go_wp2_with fail
  refine (HA.out.call 0 rfl (oC b st 11)).mono ?_;rintro e w1 ⟨v,A',N,rfl,⟨rfl,rfl,rfl⟩,H1⟩;have HS1:=Lib.hid H1;clear H1;go_wp2_with fail
  go_end0
  exact⟨_,_,_,rfl,⟨rfl,by rw[HE.out],rfl⟩,HS1.out⟩
def vgo (bits:Int):List UInt8->Nat->Nat->Nat->Nat×I
 | [],pos,acc,i=>(0,⟨[],pos,1⟩)
 | c::l,pos,acc,i =>
  if bits - 7*i<=0\/(bits - 7*i<7/\c.toNat % 128 / 2 ^ (bits - 7*i).toNat≠0) then (0,⟨l,pos+1,3⟩)
  else if 128<=c.toNat then vgo bits l (pos+1) (acc+c.toNat % 128*2 ^ (7*i)) (i+1)
  else if c.toNat=0/\0<i then (0,⟨l,pos+1,3⟩)
  else (acc+c.toNat % 128*2 ^ (7*i),⟨l,pos+1,0⟩)
def es (bits:Int) (st:I):Nat×I:=if st.err≠0 then (0,st) else vgo bits st.rest st.pos 0 0
theorem Cv (c:UInt8) (l:List UInt8) (pos:Nat):cg ⟨c::l,pos,0⟩ 1=([c],⟨l,pos+1,0⟩):=by
 unfold cg;rw[Mh (by simp),Mh Mc,Mh (by simp only[Jz]; omega)];simp
theorem zX (pos:Nat):cg ⟨[],pos,0⟩ 1=([],⟨[],pos,1⟩):=by
 unfold cg;rw[Mh (by simp),Mh Mc,Mg (by simp)]
 done
theorem su (d:Nat) (hd:d<256):bits .and .u64 d 127=((d % 128:Nat):Int):=by
 have h:=Bp d 127 Mc Md;rw[Nat.and_two_pow_sub_one_eq_mod d 7] at h;exact h
theorem vQ (k:Nat) {d:Nat} (hd:d<256):(bits .and .u64 d 127 / 2 ^ k != 0)=decide (d % 128 / 2 ^ k≠0):=by
 rw[su d hd,show ((d % 128:Nat):Int) / 2 ^ k=((d % 128 / 2 ^ k:Nat):Int) by rw[Int.natCast_ediv,Int.natCast_pow]; rfl];generalize d % 128 / 2 ^ k=z;rw[Bool.eq_iff_iff];simp
theorem wX: ∀ d:Fin 256,(bits .and .u64 ((d.val:Nat):Int) 128 != 0)=decide (128<=d.val):=by decide
theorem lD (d:Nat) (hd:d<256):(bits .and .u64 d 128 != 0)=decide (128<=d):=wX ⟨d,hd⟩
theorem pY (bs:Int) (hb:bs=32\/bs=64) (acc x i:Nat) (hacc:acc<2 ^ (7*i)) (hl:0<bs - 7*i) (hx:x<128) (hd: ¬ (bs - 7*i<7/\x / 2 ^ (bs - 7*i).toNat≠0)) :
 acc+x*2 ^ (7*i)<2 ^ (7*(i+1))/\acc+x*2 ^ (7*i)<2 ^ bs.toNat:=by
 have e1:2 ^ (7*(i+1))=128*2 ^ (7*i):=by rw[show 7*(i+1)=7+7*i by omega,Nat.pow_add]
 have e2:2 ^ bs.toNat=2 ^ (bs - 7*i).toNat*2 ^ (7*i):=by rw[<- Nat.pow_add]; congr 1; omega
 have h1:x<2 ^ (bs - 7*i).toNat:=by
  by_cases h7:bs - 7*i<7
  ·have h2:x / 2 ^ (bs - 7*i).toNat=0:=by
    rcases Nat.eq_zero_or_pos (x / 2 ^ (bs - 7*i).toNat) with h | h
    ·exact h
    ·exact absurd ⟨h7,by omega⟩ hd
   exact (Nat.div_eq_zero_iff.1 h2).resolve_left (by have:=Nat.two_pow_pos (bs - 7*i).toNat; omega)
  ·have:2 ^ 7<=2 ^ (bs - 7*i).toNat:=Nat.pow_le_pow_right Md Mc;omega
 have h3:(x+1)*2 ^ (7*i)<=2 ^ (bs - 7*i).toNat*2 ^ (7*i):=Nat.mul_le_mul_right _ h1;have h4:(x+1)*2 ^ (7*i)<=128*2 ^ (7*i):=Nat.mul_le_mul_right _ hx;rw[Nat.add_mul] at h3 h4;rw[e1,e2];omega
theorem Bq (bs:Int) (hb:bs=32\/bs=64) (acc d i:Nat) (hacc:acc<2 ^ (7*i)) (hdd:d<256) (hl:0<bs - 7*i) (hd: ¬ (bs - 7*i<7/\d % 128 / 2 ^ (bs - 7*i).toNat≠0)) :
 bits .or .u64 acc (IntKind.u64.wrap (bits .and .u64 d 127*2 ^ (7*i)))=((acc+d % 128*2 ^ (7*i):Nat):Int):=by
 obtain⟨_,h2⟩:=pY bs hb acc (d % 128) i hacc hl Mc hd;have h3:2 ^ bs.toNat<=18446744073709551616:=by rcases hb with rfl | rfl <;> decide
 have hlt:acc+d % 128*2 ^ (7*i)<18446744073709551616:=by omega
 rw[su d hdd];have e1:((d % 128:Nat):Int)*2 ^ (7*i)=((d % 128*2 ^ (7*i):Nat):Int):=by rw[Int.natCast_mul,Int.natCast_pow]; rfl
 have e0:=Nat.two_pow_add_eq_or_of_lt hacc (d % 128);rw[Nat.mul_comm] at e0;rw[e1];generalize d % 128*2 ^ (7*i)=y at *;have e2:IntKind.u64.wrap (y:Int)=y:=by rw[IntKind.wrap_u64]; omega
 rw[e2];show IntKind.u64.wrap ((BitVec.ofInt 64 _ ||| BitVec.ofInt 64 _).toNat:Int)= _;rw[BitVec.toNat_or,BitVec.toNat_ofInt,BitVec.toNat_ofInt];have e3:((acc:Int) % (2 ^ 64:Nat)).toNat=acc:=by omega
 have e4:((y:Int) % (2 ^ 64:Nat)).toNat=y:=by omega
 rw[e3,e4,Nat.or_comm,<- e0,IntKind.wrap_u64];omega
attribute [local go_sem] eJ ck
theorem DI (b:Nat) (st:I) (bs:Int) (h0:st.err≠0) :
 fW Tryz.prog 178 #[.pointer (some ⟨b,0,none⟩),.int .i64 bs] (InR b st) (fun v A' N=>v= .int .u64 0/\A'=InR b st/\N = []):=by
 intro F w hA;have HA:=Lib.hid (Hf F w (Sep.one hA));clear hA;have HT:=Lib.hid (show cg st 1=([],st) by simp[cg,h0]);go_enter Tryz.func178,Tryz.ntmps178
 go_wp2_with fail
 go_step3
 go_wp2_with fail
 go_step3
 go_wp2_with fail
 refine (HA.out.call 0 rfl (dU b st 1 Mc Mc)).mono ?_;rintro e w1 ⟨v,A',N,rfl,⟨rfl,rfl,rfl⟩,H1⟩;rw[HT.out] at H1 ⊢;have HS1:=Lib.hid H1;clear H1;go_wp2_with fail
 go_ret
 exact⟨_,_,_,rfl,⟨rfl,rfl,rfl⟩,HS1.out⟩
def VJ (F:Nat->Prop) (w:World) (b:Nat) (bs:Int) (res:Nat×I) (lab:Nat) (a':Act) (w':World):Prop :=
 (lab=0/\ ∃ (l1:List UInt8) (pos1 acc i:Nat),St F w [InR b ⟨l1,pos1,0⟩] w'/\acc<2 ^ (7*i)/\7*i<bs+7/\vgo bs l1 pos1 acc i=res /\
  ∃ u7 u8 u9 u10 u11 u12 u13 u14 u15 u16 u17 u18 u19 u20 u21 u22 u23 u24 u25 u26 u27 u28 u29 u30 u31 u32 u33 u34 u35 u36 u37 u38 u39 u40 u41 u42 u43 u44 u45 u46 u47 u48 u49 u50 u51 u52 u53 u54 u55,a' = { tmps:= #[.pointer (some ⟨b,0,none⟩),.int .i64 bs,undef,undef,.int .u64 0,.int .u64 acc,.int .i64 (7*i),u7,u8,u9,u10,u11,u12,u13,u14,u15,u16,u17,u18,u19,u20,u21,u22,u23,u24,u25,u26,u27,u28,u29,u30,u31,u32,u33,u34,u35,u36,u37,u38,u39,u40,u41,u42,u43,u44,u45,u46,u47,u48,u49,u50,u51,u52,u53,u54,u55],defers := [] }) \/
 (lab=1/\ ∃ (l1:List UInt8) (pos1:Nat),St F w [InR b ⟨l1,pos1,0⟩] w'/\(0,⟨l1,pos1,3⟩)=res /\
  ∃ u5 u6 u7 u8 u9 u10 u11 u12 u13 u14 u15 u16 u17 u18 u19 u20 u21 u22 u23 u24 u25 u26 u27 u28 u29 u30 u31 u32 u33 u34 u35 u36 u37 u38 u39 u40 u41 u42 u43 u44 u45 u46 u47 u48 u49 u50 u51 u52 u53 u54 u55,a' = { tmps:= #[.pointer (some ⟨b,0,none⟩),.int .i64 bs,undef,undef,.int .u64 0,u5,u6,u7,u8,u9,u10,u11,u12,u13,u14,u15,u16,u17,u18,u19,u20,u21,u22,u23,u24,u25,u26,u27,u28,u29,u30,u31,u32,u33,u34,u35,u36,u37,u38,u39,u40,u41,u42,u43,u44,u45,u46,u47,u48,u49,u50,u51,u52,u53,u54,u55],defers := [] })
def VM (lab:Nat) (a':Act) (_:World):Nat:=if lab=1 then 0 else 100 - (intOf (a'.tmps.getD 6 undef)).toNat
theorem Uns_go (b:Nat) (l:List UInt8) (pos:Nat) (bs:Int) (hb:bs=32\/bs=64) :
 fW Tryz.prog 178 #[.pointer (some ⟨b,0,none⟩),.int .i64 bs] (InR b ⟨l,pos,0⟩) (fun v A' N=>v= .int .u64 (vgo bs l pos 0 0).1/\A'=InR b (vgo bs l pos 0 0).2/\N = []):=by
 intro F w hA;have HA:=Lib.hid (Hf F w (Sep.one hA));clear hA;generalize hres:vgo bs l pos 0 0=res;go_enter Tryz.func178,Tryz.ntmps178
 go_wp2_with fail
 refine sY (VJ F w b bs res) VM ?_ ?_
 ·rintro lab a' w1 (⟨rfl,l1,pos1,acc,i,hst,hacc,hi,hg,u7,u8,u9,u10,u11,u12,u13,u14,u15,u16,u17,u18,u19,u20,u21,u22,u23,u24,u25,u26,u27,u28,u29,u30,u31,u32,u33,u34,u35,u36,u37,u38,u39,u40,u41,u42,u43,u44,u45,u46,u47,u48,u49,u50,u51,u52,u53,u54,u55,rfl⟩ | ⟨rfl,l1,pos1,hst,hg,u5,u6,u7,u8,u9,u10,u11,u12,u13,u14,u15,u16,u17,u18,u19,u20,u21,u22,u23,u24,u25,u26,u27,u28,u29,u30,u31,u32,u33,u34,u35,u36,u37,u38,u39,u40,u41,u42,u43,u44,u45,u46,u47,u48,u49,u50,u51,u52,u53,u54,u55,rfl⟩)
  ·refine⟨_,rfl,?_⟩;have HS:=Lib.hid hst;have HG:=Lib.hid hg;have HACC:=Lib.hid hacc;have hb1:bs<=64:=by omega
   clear hst hg hacc
   cases l1 with
   | nil =>
    have HT:=Lib.hid (zX pos1);go_wp2_with fail
    refine (HS.out.call 0 rfl (dU b _ 1 Mc Mc)).mono ?_;rintro e w2 ⟨v,A',N,rfl,⟨rfl,rfl,rfl⟩,H1⟩;rw[HT.out] at H1 ⊢;have HS1:=Lib.hid H1;clear H1;go_wp2_with fail
    go_ret
    exact⟨_,_,_,rfl,⟨by rw[<- HG.out]; rfl,by rw[<- HG.out]; rfl,rfl⟩,HS1.out⟩
   | cons c l2 =>
    have HT:=Lib.hid (Cv c l2 pos1);have hsz:=ck [c];have h0:=tE [c] 0 (by simp[ck]);simp only[List.getElem_cons_zero] at h0;have hc:c.toNat<256:=c.toNat_lt;by_cases hl:bs - 7*i<=0
    ·have HV:=Lib.hid (show (0,⟨l2,pos1+1,3⟩)=res by rw[<- HG.out,vgo,Mg (by first | exact .inl hl | exact .inr ⟨by omega,hq⟩)]);by_cases hz:(bits .and .u64 c.toNat 127 != 0)=true
     ·go_wp2_with fail
      refine (HS.out.call 0 rfl (dU b _ 1 Mc Mc)).mono ?_;rintro e w2 ⟨v,A',N,rfl,⟨rfl,rfl,rfl⟩,H1⟩;rw[HT.out] at H1 ⊢;have HS1:=Lib.hid H1;clear H1;go_wp2_with fail
      go_step3
      exact⟨.inr ⟨rfl,l2,pos1+1,HS1.out,HV.out,_,_,_,_,_,_,_,_,_,_,_,_,_,_,_,_,_,_,_,_,_,_,_,_,_,_,_,_,_,_,_,_,_,_,_,_,_,_,_,_,_,_,_,_,_,_,_,_,_,_,_,rfl⟩,by simp[VM,intOf]; omega⟩
     ·have hz':(bits .and .u64 c.toNat 127 != 0)=false:=by simpa using hz
      go_wp2_with fail
      refine (HS.out.call 0 rfl (dU b _ 1 Mc Mc)).mono ?_;rintro e w2 ⟨v,A',N,rfl,⟨rfl,rfl,rfl⟩,H1⟩;rw[HT.out] at H1 ⊢;have HS1:=Lib.hid H1;clear H1;go_wp2_with fail
      go_step3
      exact⟨.inr ⟨rfl,l2,pos1+1,HS1.out,HV.out,_,_,_,_,_,_,_,_,_,_,_,_,_,_,_,_,_,_,_,_,_,_,_,_,_,_,_,_,_,_,_,_,_,_,_,_,_,_,_,_,_,_,_,_,_,_,_,_,_,_,_,rfl⟩,by simp[VM,intOf]; omega⟩
    ·have hl':0<bs - 7*i:=by omega
     by_cases hl7:7<=bs - 7*i
     ·have HD:=Lib.hid (show ¬ (bs - 7*i<7/\c.toNat % 128 / 2 ^ (bs - 7*i).toNat≠0) by omega);have HA2:=Lib.hid (Bq bs hb acc c.toNat i HACC.out Mc hl' HD.out);have HLT:=Lib.hid (pY bs hb acc (c.toNat % 128) i HACC.out hl' Mc HD.out);have HN:=Lib.hid (show ¬ (bs - 7*i<=0\/(bs - 7*i<7/\c.toNat % 128 / 2 ^ (bs - 7*i).toNat≠0)) from fun h=>h.elim (fun h=>by omega) HD.out);by_cases h128:128<=c.toNat
      ·have HV:=Lib.hid (show vgo bs l2 (pos1+1) (acc+c.toNat % 128*2 ^ (7*i)) (i+1)=res by rw[<- HG.out,vgo,Mh HN.out,Mg h128]);have hbt:(bits .and .u64 c.toNat 128 != 0)=true:=by rw[lD _ hc]; simpa using h128
       go_wp2_with fail
       refine (HS.out.call 0 rfl (dU b _ 1 Mc Mc)).mono ?_;rintro e w2 ⟨v,A',N,rfl,⟨rfl,rfl,rfl⟩,H1⟩;rw[HT.out] at H1 ⊢;have HS1:=Lib.hid H1;clear H1;go_wp2_with fail
       go_step3
       rw[HA2.out,show (7*(i:Int)+7)=7*((i+1:Nat):Int) by omega];exact⟨.inl ⟨rfl,l2,pos1+1,_,i+1,HS1.out,HLT.out.1,by omega,HV.out,_,_,_,_,_,_,_,_,_,_,_,_,_,_,_,_,_,_,_,_,_,_,_,_,_,_,_,_,_,_,_,_,_,_,_,_,_,_,_,_,_,_,_,_,_,_,_,_,_,rfl⟩,by simp[VM,intOf]; omega⟩
      ·have hbt:(bits .and .u64 c.toNat 128 != 0)=false:=by rw[lD _ hc]; simpa using h128
       by_cases hz:c.toNat=0/\0<i
       ·have HV:=Lib.hid (show (0,⟨l2,pos1+1,3⟩)=res by rw[<- HG.out,vgo,Mh HN.out,Mh h128,Mg hz]);obtain⟨hz1,hz2⟩:=hz;have hz0:((c.toNat:Int) == 0)=true:=by simp[hz1]
        try (have hq0:(bits .and .u64 0 127 / 2 ^ (bs - 7*i).toNat != 0)=false:=by (rw[<- hqb,hz1]; rfl))
        have hi0:0<7*(i:Int):=by omega
        go_wp2_with fail
        refine (HS.out.call 0 rfl (dU b _ 1 Mc Mc)).mono ?_;rintro e w2 ⟨v,A',N,rfl,⟨rfl,rfl,rfl⟩,H1⟩;rw[HT.out] at H1 ⊢;have HS1:=Lib.hid H1;clear H1;go_wp2_with fail
        go_step3
        exact⟨.inr ⟨rfl,l2,pos1+1,HS1.out,HV.out,_,_,_,_,_,_,_,_,_,_,_,_,_,_,_,_,_,_,_,_,_,_,_,_,_,_,_,_,_,_,_,_,_,_,_,_,_,_,_,_,_,_,_,_,_,_,_,_,_,_,_,rfl⟩,by simp[VM,intOf]; omega⟩
       ·have HV:=Lib.hid (show (acc+c.toNat % 128*2 ^ (7*i),⟨l2,pos1+1,0⟩)=res by rw[<- HG.out,vgo,Mh HN.out,Mh h128,Mh hz]);by_cases hz1:c.toNat=0
        ·have hz0:((c.toNat:Int) == 0)=true:=by simp[hz1]
         try (have hq0:(bits .and .u64 0 127 / 2 ^ (bs - 7*i).toNat != 0)=false:=by (rw[<- hqb,hz1]; rfl))
         have HA3:=Lib.hid (show bits .or .u64 acc (IntKind.u64.wrap (bits .and .u64 0 127*2 ^ (7*i)))=((acc+c.toNat % 128*2 ^ (7*i):Nat):Int) by rw[<- HA2.out,hz1]; rfl);have hi0: ¬ (0<7*(i:Int)):=by omega
         go_wp2_with fail
         refine (HS.out.call 0 rfl (dU b _ 1 Mc Mc)).mono ?_;rintro e w2 ⟨v,A',N,rfl,⟨rfl,rfl,rfl⟩,H1⟩;rw[HT.out] at H1 ⊢;have HS1:=Lib.hid H1;clear H1;go_wp2_with fail
         all_goals
          go_ret
          exact⟨_,_,_,rfl,⟨by rw[<- HV.out]; exact congrArg (Value.int IntKind.u64) HA3.out,by rw[<- HV.out],rfl⟩,HS1.out⟩
        ·have hz0:((c.toNat:Int) == 0)=false:=by simp; omega
         go_wp2_with fail
         refine (HS.out.call 0 rfl (dU b _ 1 Mc Mc)).mono ?_;rintro e w2 ⟨v,A',N,rfl,⟨rfl,rfl,rfl⟩,H1⟩;rw[HT.out] at H1 ⊢;have HS1:=Lib.hid H1;clear H1;go_wp2_with fail
         go_ret
         exact⟨_,_,_,rfl,⟨by rw[<- HV.out]; exact congrArg (Value.int IntKind.u64) HA2.out,by rw[<- HV.out],rfl⟩,HS1.out⟩
     ·by_cases hq:c.toNat % 128 / 2 ^ (bs - 7*i).toNat≠0
      ·have HV:=Lib.hid (show (0,⟨l2,pos1+1,3⟩)=res by rw[<- HG.out,vgo,Mg (by first | exact .inl hl | exact .inr ⟨by omega,hq⟩)]);have hqb:(bits .and .u64 c.toNat 127 / 2 ^ (bs - 7*i).toNat != 0)=true:=by rw[vQ _ hc]; simpa using hq
       go_wp2_with fail
       refine (HS.out.call 0 rfl (dU b _ 1 Mc Mc)).mono ?_;rintro e w2 ⟨v,A',N,rfl,⟨rfl,rfl,rfl⟩,H1⟩;rw[HT.out] at H1 ⊢;have HS1:=Lib.hid H1;clear H1;go_wp2_with fail
       go_step3
       exact⟨.inr ⟨rfl,l2,pos1+1,HS1.out,HV.out,_,_,_,_,_,_,_,_,_,_,_,_,_,_,_,_,_,_,_,_,_,_,_,_,_,_,_,_,_,_,_,_,_,_,_,_,_,_,_,_,_,_,_,_,_,_,_,_,_,_,_,rfl⟩,by simp[VM,intOf]; omega⟩
      ·have hqb:(bits .and .u64 c.toNat 127 / 2 ^ (bs - 7*i).toNat != 0)=false:=by rw[vQ _ hc]; simpa using hq
       have HD:=Lib.hid (show ¬ (bs - 7*i<7/\c.toNat % 128 / 2 ^ (bs - 7*i).toNat≠0) by omega);have HA2:=Lib.hid (Bq bs hb acc c.toNat i HACC.out Mc hl' HD.out);have HLT:=Lib.hid (pY bs hb acc (c.toNat % 128) i HACC.out hl' Mc HD.out);have HN:=Lib.hid (show ¬ (bs - 7*i<=0\/(bs - 7*i<7/\c.toNat % 128 / 2 ^ (bs - 7*i).toNat≠0)) from fun h=>h.elim (fun h=>by omega) HD.out);by_cases h128:128<=c.toNat
       ·have HV:=Lib.hid (show vgo bs l2 (pos1+1) (acc+c.toNat % 128*2 ^ (7*i)) (i+1)=res by rw[<- HG.out,vgo,Mh HN.out,Mg h128]);have hbt:(bits .and .u64 c.toNat 128 != 0)=true:=by rw[lD _ hc]; simpa using h128
        go_wp2_with fail
        refine (HS.out.call 0 rfl (dU b _ 1 Mc Mc)).mono ?_;rintro e w2 ⟨v,A',N,rfl,⟨rfl,rfl,rfl⟩,H1⟩;rw[HT.out] at H1 ⊢;have HS1:=Lib.hid H1;clear H1;go_wp2_with fail
        go_step3
        rw[HA2.out,show (7*(i:Int)+7)=7*((i+1:Nat):Int) by omega];exact⟨.inl ⟨rfl,l2,pos1+1,_,i+1,HS1.out,HLT.out.1,by omega,HV.out,_,_,_,_,_,_,_,_,_,_,_,_,_,_,_,_,_,_,_,_,_,_,_,_,_,_,_,_,_,_,_,_,_,_,_,_,_,_,_,_,_,_,_,_,_,_,_,_,_,rfl⟩,by simp[VM,intOf]; omega⟩
       ·have hbt:(bits .and .u64 c.toNat 128 != 0)=false:=by rw[lD _ hc]; simpa using h128
        by_cases hz:c.toNat=0/\0<i
        ·have HV:=Lib.hid (show (0,⟨l2,pos1+1,3⟩)=res by rw[<- HG.out,vgo,Mh HN.out,Mh h128,Mg hz]);obtain⟨hz1,hz2⟩:=hz;have hz0:((c.toNat:Int) == 0)=true:=by simp[hz1]
         try (have hq0:(bits .and .u64 0 127 / 2 ^ (bs - 7*i).toNat != 0)=false:=by (rw[<- hqb,hz1]; rfl))
         have hi0:0<7*(i:Int):=by omega
         go_wp2_with fail
         refine (HS.out.call 0 rfl (dU b _ 1 Mc Mc)).mono ?_;rintro e w2 ⟨v,A',N,rfl,⟨rfl,rfl,rfl⟩,H1⟩;rw[HT.out] at H1 ⊢;have HS1:=Lib.hid H1;clear H1;go_wp2_with fail
         go_step3
         exact⟨.inr ⟨rfl,l2,pos1+1,HS1.out,HV.out,_,_,_,_,_,_,_,_,_,_,_,_,_,_,_,_,_,_,_,_,_,_,_,_,_,_,_,_,_,_,_,_,_,_,_,_,_,_,_,_,_,_,_,_,_,_,_,_,_,_,_,rfl⟩,by simp[VM,intOf]; omega⟩
        ·have HV:=Lib.hid (show (acc+c.toNat % 128*2 ^ (7*i),⟨l2,pos1+1,0⟩)=res by rw[<- HG.out,vgo,Mh HN.out,Mh h128,Mh hz]);by_cases hz1:c.toNat=0
         ·have hz0:((c.toNat:Int) == 0)=true:=by simp[hz1]
          try (have hq0:(bits .and .u64 0 127 / 2 ^ (bs - 7*i).toNat != 0)=false:=by (rw[<- hqb,hz1]; rfl))
          have HA3:=Lib.hid (show bits .or .u64 acc (IntKind.u64.wrap (bits .and .u64 0 127*2 ^ (7*i)))=((acc+c.toNat % 128*2 ^ (7*i):Nat):Int) by rw[<- HA2.out,hz1]; rfl);have hi0: ¬ (0<7*(i:Int)):=by omega
          go_wp2_with fail
          refine (HS.out.call 0 rfl (dU b _ 1 Mc Mc)).mono ?_;rintro e w2 ⟨v,A',N,rfl,⟨rfl,rfl,rfl⟩,H1⟩;rw[HT.out] at H1 ⊢;have HS1:=Lib.hid H1;clear H1;go_wp2_with fail
          all_goals
           go_ret
           exact⟨_,_,_,rfl,⟨by rw[<- HV.out]; exact congrArg (Value.int IntKind.u64) HA3.out,by rw[<- HV.out],rfl⟩,HS1.out⟩
         ·have hz0:((c.toNat:Int) == 0)=false:=by simp; omega
          go_wp2_with fail
          refine (HS.out.call 0 rfl (dU b _ 1 Mc Mc)).mono ?_;rintro e w2 ⟨v,A',N,rfl,⟨rfl,rfl,rfl⟩,H1⟩;rw[HT.out] at H1 ⊢;have HS1:=Lib.hid H1;clear H1;go_wp2_with fail
          go_ret
          exact⟨_,_,_,rfl,⟨by rw[<- HV.out]; exact congrArg (Value.int IntKind.u64) HA2.out,by rw[<- HV.out],rfl⟩,HS1.out⟩
  ·refine⟨_,rfl,?_⟩;have HS:=Lib.hid hst;have HG:=Lib.hid hg;clear hst hg;go_wp2_with fail
   refine (HS.out.call 0 rfl (fX b _ 3)).mono ?_;rintro e w2 ⟨v,A',N,rfl,⟨rfl,rfl,rfl⟩,H1⟩;have HS1:=Lib.hid H1;clear H1;go_wp2_with fail
   go_ret
   exact⟨_,_,_,rfl,⟨by rw[<- HG.out]; rfl,by rw[<- HG.out]; rfl,rfl⟩,HS1.out⟩
 ·intro again;have AG:=Lib.hid again;clear again;go_wp2_with fail
  go_step3
  rename_i hK;exact hK _ _ (AG.out 0 _ _ _ rfl (.inl ⟨rfl,l,pos,0,0,HA.out,by omega,by omega,hres,_,_,_,_,_,_,_,_,_,_,_,_,_,_,_,_,_,_,_,_,_,_,_,_,_,_,_,_,_,_,_,_,_,_,_,_,_,_,_,_,_,_,_,_,_,_,_,_,_,rfl⟩))
theorem xX (b:Nat) (st:I) (bs:Int) (hb:bs=32\/bs=64) :
 fW Tryz.prog 178 #[.pointer (some ⟨b,0,none⟩),.int .i64 bs] (InR b st) (fun v A' N=>v= .int .u64 (es bs st).1/\A'=InR b (es bs st).2/\N = []):=by
 obtain⟨l,pos,er⟩:=st;by_cases h0:er=0
 ·subst h0;exact Uns_go b l pos bs hb
 ·have h:=DI b ⟨l,pos,er⟩ bs h0;have e:es bs ⟨l,pos,er⟩=(0,⟨l,pos,er⟩):=by simp[es,h0]
  rw[e];exact h
theorem vgo_lt (bs:Int) (hb:bs=32\/bs=64): ∀ (l:List UInt8) (pos acc i:Nat),acc<2 ^ (7*i)->(vgo bs l pos acc i).1<2 ^ bs.toNat:=by
 have hp:0<2 ^ bs.toNat:=Nat.two_pow_pos _;intro l
 induction l with
 | nil=>intro pos acc i _; exact hp
 | cons c l ih =>
  intro pos acc i hacc;unfold vgo;split
  ·exact hp
  ·rename_i hn;have h:=pY bs hb acc (c.toNat % 128) i hacc Mc Mc (fun h=>hn (.inr h));split
   ·exact ih _ _ _ h.1
   ·split
    ·exact hp
    ·exact h.2
theorem DJ (bs:Int) (hb:bs=32\/bs=64) (st:I):(es bs st).1<2 ^ bs.toNat:=by
 unfold es;split
 ·exact Nat.two_pow_pos _
 ·exact vgo_lt bs hb _ _ _ _ (by simp)
theorem pm (bs:Int) (hb:bs=32\/bs=64) (st:I):(es bs st).1<18446744073709551616:=by
 have h:=DJ bs hb st;rcases hb with rfl | rfl
 ·have e:2 ^ (32:Int).toNat=4294967296:=by decide
  omega
 ·have e:2 ^ (64:Int).toNat=18446744073709551616:=by decide
  omega
def fz (r:Nat×I):Int×I:=(l7 r.1,r.2)
theorem vR (b:Nat) (st:I) :
 fW Tryz.prog 127 #[.pointer (some ⟨b,0,none⟩)] (InR b st) (fun v A' N=>v= .int .i64 (fz (es 32 st)).1/\A'=InR b (fz (es 32 st)).2/\N = []):=by
 intro F w hA;have HA:=Lib.hid (Hf F w (Sep.one hA));clear hA;have hs:=xX b st 32 (.inl rfl);have hlt:=pm 32 (.inl rfl) st;generalize es 32 st=r at *;have HS:=Lib.hid hs;clear hs;go_enter Tryz.func127,Tryz.ntmps127
 go_wp2_with fail
 refine (HA.out.call 0 rfl HS.out).mono ?_;rintro e w1 ⟨v,A',N,rfl,⟨rfl,rfl,rfl⟩,H1⟩;have HS1:=Lib.hid H1;clear H1;go_wp2_with fail
 refine (vO r.1 hlt w1).mono ?_;rintro e w' ⟨rfl,rfl⟩;go_wp2_with fail
 go_ret
 exact⟨_,_,_,rfl,⟨rfl,rfl,rfl⟩,HS1.out⟩
theorem zY (b:Nat) (st:I) :
 fW Tryz.prog 126 #[.pointer (some ⟨b,0,none⟩)] (InR b st) (fun v A' N=>v= .int .i64 (fz (es 64 st)).1/\A'=InR b (fz (es 64 st)).2/\N = []):=by
 intro F w hA;have HA:=Lib.hid (Hf F w (Sep.one hA));clear hA;have hs:=xX b st 64 (.inr rfl);have hlt:=pm 64 (.inr rfl) st;generalize es 64 st=r at *;have HS:=Lib.hid hs;clear hs;go_enter Tryz.func126,Tryz.ntmps126
 go_wp2_with fail
 refine (HA.out.call 0 rfl HS.out).mono ?_;rintro e w1 ⟨v,A',N,rfl,⟨rfl,rfl,rfl⟩,H1⟩;have HS1:=Lib.hid H1;clear H1;go_wp2_with fail
 refine (vO r.1 hlt w1).mono ?_;rintro e w' ⟨rfl,rfl⟩;go_wp2_with fail
 go_ret
 exact⟨_,_,_,rfl,⟨rfl,rfl,rfl⟩,HS1.out⟩
theorem vu {a b:Nat} (h:2 ^ a<2 ^ b):a<b:=(Nat.pow_lt_pow_iff_right Md).1 h
theorem FA (bs:Int) (hb:0<bs): ∀ (v pos acc i:Nat) (r:List UInt8),acc+v*2 ^ (7*i)<2 ^ bs.toNat->(0<i->0<v) ->
 vgo bs (cQ v++r) pos acc i=(acc+v*2 ^ (7*i),⟨r,pos+(cQ v).length,0⟩):=by
 intro v
 induction v using Nat.strongRecOn with
 | _ v ih =>
  intro pos acc i r h hi;have h7:(7*i:Int)<bs:=by
   rcases Nat.eq_zero_or_pos i with h0 | h0
   ·subst h0; omega
   ·have hv:=hi h0;have h2:1*2 ^ (7*i)<=v*2 ^ (7*i):=Nat.mul_le_mul_right _ hv;have h3:=vu (show 2 ^ (7*i)<2 ^ bs.toNat by omega);omega
  have hleft: ∀ d:Nat,d<=v->d / 2 ^ (bs - 7*i).toNat=0:=by
   intro d hd;have e:2 ^ bs.toNat=2 ^ (bs - 7*i).toNat*2 ^ (7*i):=by rw[<- Nat.pow_add]; congr 1; omega
   have h2:d*2 ^ (7*i)<=v*2 ^ (7*i):=Nat.mul_le_mul_right _ hd;have h3:d<2 ^ (bs - 7*i).toNat:=by
    apply Nat.lt_of_mul_lt_mul_right (a:=2 ^ (7*i));omega
   exact Nat.div_eq_of_lt h3
  rw[cQ];split
  ·rename_i hlt;have hc:(UInt8.ofNat v).toNat=v:=by simp[UInt8.toNat_ofNat']; omega
   simp only[List.cons_append,JI,vgo,hc,Nat.mod_eq_of_lt hlt,hleft v (JN _)];rw[Mh (by simp; omega),Mh Mc,Mh (by rintro⟨h1,h2⟩; have:=hi h2; omega)];simp
  ·rename_i hge;have hc:(UInt8.ofNat (v % 128+128)).toNat=v % 128+128:=by simp[UInt8.toNat_ofNat']; omega
   have e2:2 ^ (7*(i+1))=128*2 ^ (7*i):=by rw[show 7*(i+1)=7+7*i by omega,Nat.pow_add]
   have e3:acc+v % 128*2 ^ (7*i)+v / 128*2 ^ (7*(i+1))=acc+v*2 ^ (7*i):=by
    rw[e2];generalize 2 ^ (7*i)=z;have h1:v / 128*(128*z)=v / 128*128*z:=by rw[Nat.mul_assoc]
    rw[h1,Nat.add_assoc,<- Nat.add_mul];congr 2;omega
   simp only[List.cons_append,vgo,hc];rw[show (v % 128+128) % 128=v % 128 by omega,hleft (v % 128) (Nat.mod_le _ _),Mh (by simp; omega),Mg Mc,ih (v / 128) Mc _ _ _ _ (by rw[e3]; exact h) Mc,e3];simp; omega
theorem zZ (n:Int) (h: -2147483648<=n/\n<=2147483647):bw n<4294967296:=by unfold bw; split <;> omega
theorem vgo_ok (bs:Int): ∀ (l:List UInt8) (pos acc i u:Nat) (s:I),vgo bs l pos acc i=(u,s)->s.err=0 ->
 ∃ k v,s=⟨l.drop k,pos+k,0⟩/\k<=l.length/\u=acc+v*2 ^ (7*i)/\cQ v=l.take k/\(0<i->0<v):=by
 intro l
 induction l with
 | nil=>intro pos acc i u s h h0; simp only[vgo,Prod.mk.injEq] at h; rw[<- h.2] at h0; simp at h0
 | cons c l ih =>
  intro pos acc i u s h h0;unfold vgo at h;split at h
  ·simp only[Prod.mk.injEq] at h; rw[<- h.2] at h0; simp at h0
  ·split at h
   ·rename_i h128;obtain⟨k,v,h1,h2,h3,h4,h5⟩:=ih _ _ _ _ _ h h0;have hv:=h5 Mc;have hc:=c.toNat_lt;refine⟨k+1,c.toNat % 128+128*v,?_,by simpa using h2,?_,?_,by omega⟩
    ·rw[h1]; simp; omega
    ·have e:2 ^ (7*(i+1))=128*2 ^ (7*i):=by rw[show 7*(i+1)=7+7*i by omega,Nat.pow_add]
     rw[h3,e,Nat.add_mul];generalize 2 ^ (7*i)=z;have:v*(128*z)=128*v*z:=by rw[Nat.mul_comm 128 v,Nat.mul_assoc]
     omega
    ·rw[cQ,Mh Mc,show (c.toNat % 128+128*v) / 128=v by omega,h4,List.take_succ_cons];congr 1;rw[show (c.toNat % 128+128*v) % 128+128=c.toNat by omega];exact UInt8.ofNat_toNat
   ·rename_i h128;split at h
    ·simp only[Prod.mk.injEq] at h; rw[<- h.2] at h0; simp at h0
    ·rename_i hz;have hc:=c.toNat_lt;simp only[Prod.mk.injEq] at h;refine⟨1,c.toNat,by rw[<- h.2]; simp,by simp,by rw[<- h.1,Nat.mod_eq_of_lt Mc],?_,?_⟩
     ·rw[cQ,Mg Mc]; simp
     ·intro hi;rcases Nat.eq_zero_or_pos c.toNat with h6 | h6
      ·exact absurd ⟨h6,hi⟩ hz
      ·exact h6
attribute [local go_sem] eJ ck
structure Bl where
 null:Bool
 data:List UInt8
@[go_sem] def blV (b:Bl):Value:= .agg #[.bool b.null,.string (bsOf b.data)]
theorem po:(Tryz.prog.info? 23).map (·.size)=some 2:=by kernel_rfl
theorem pZ (l:List UInt8):pd Tryz.prog 143 #[.string (bsOf l)] (fun v N=>v=blV ⟨false,l⟩/\N = []):=by
 intro w;have HS:=Lib.hid (St.nil_ w);go_enter Tryz.func143,Tryz.ntmps143
 go_wp2_with fail
 refine bodyPost_ret (v:=blV ⟨false,l⟩) (results_cell_row Mf _ _ w.heap.size 23 #[.bool false,.string (bsOf l)] (0,0) _ rfl (heap_alloc_new w _) Tryz.underlying23 rfl po) rfl ?_;exact⟨_,_,rfl,⟨rfl,rfl⟩,(HS.out.alloc _ _).drop_⟩
theorem z0:pd Tryz.prog 214 #[] (fun v N=>v=blV ⟨true,[]⟩/\N = []):=by
 intro w;have HS:=Lib.hid (St.nil_ w);go_enter Tryz.func214,Tryz.ntmps214
 go_wp2_with fail
 refine bodyPost_ret (v:=blV ⟨true,[]⟩) (results_cell_row Mf _ _ w.heap.size 23 #[.bool true,.string (bsOf [])] (0,0) _ rfl (heap_alloc_new w _) Tryz.underlying23 rfl po) rfl ?_;exact⟨_,_,rfl,⟨rfl,rfl⟩,(HS.out.alloc _ _).drop_⟩
def bu (b:Bl):Bool:= !b.null || b.data.isEmpty
theorem nH (b:Bl):pd Tryz.prog 148 #[blV b] (fun v N=>v= .bool (bu b)/\N = []):=by
 intro w;have HS:=Lib.hid (St.nil_ w);obtain⟨n,l⟩:=b;have HB:=Lib.hid (show (l == [])=l.isEmpty by cases l <;> rfl);cases n
 ·go_enter Tryz.func148,Tryz.ntmps148
  go_wp2_with fail
  go_ret
  exact⟨_,_,rfl,⟨rfl,rfl⟩,(HS.out.alloc _ _).drop_⟩
 ·go_enter Tryz.func148,Tryz.ntmps148
  go_wp2_with fail
  go_ret
  exact⟨_,_,rfl,⟨congrArg Value.bool (by simp[bu]),rfl⟩,(HS.out.alloc _ _).drop_⟩
def blen (b:Bl):Int:=if b.null then -1 else b.data.length
theorem vS (b:Bl):pd Tryz.prog 149 #[blV b] (fun v N=>v= .int .i64 (blen b)/\N = []):=by
 intro w;have HS:=Lib.hid (St.nil_ w);obtain⟨n,l⟩:=b;cases n;all_goals
  go_enter Tryz.func149,Tryz.ntmps149
  go_wp2_with fail
  go_ret
  exact⟨_,_,rfl,⟨rfl,rfl⟩,(HS.out.alloc _ _).drop_⟩
def kq (st:I) (n:Int):Bl×I:=if st.err≠0 then (⟨false,[]⟩,st) else if n= -1 then (⟨true,[]⟩,st) else (⟨false,(cg st n).1⟩,(cg st n).2)
theorem tF (g:Nat) (st:I) (n:Int) (h0: -9223372036854775808<=n) (h1:n<=9223372036854775807) :
 fW Tryz.prog 179 #[.pointer (some ⟨g,0,none⟩),.int .i64 n] (InR g st) (fun v A' N=>v=blV (kq st n).1/\A'=InR g (kq st n).2/\N = []):=by
 intro F w hA;have HA:=Lib.hid (Hf F w (Sep.one hA));clear hA;have HB:=Lib.hid (HA.out.alloc #[.bool false,.string ⟨#[]⟩] 23);by_cases he:st.err=0
 ·by_cases hn:n= -1
  ·subst hn;have HQ:=Lib.hid (show kq st (-1)=(⟨true,[]⟩,st) by simp[kq,he]);have hb:(st.err != 0)=false:=by simp[he]
   clear he;go_enter Tryz.func179,Tryz.ntmps179
   go_wp2_with fail
   refine (St.call 1 (HB).out rfl (oD g _)).mono ?_;rintro e w1 ⟨v,A',N,rfl,⟨rfl,rfl,rfl⟩,H1⟩;try simp only[List.cons_append,JI,List.set_cons_zero,List.set_cons_succ,cP] at H1
   have HC:=Lib.hid H1;clear H1;go_wp2_with fail
   refine (Ii HC.out z0).mono ?_;rintro e w2 ⟨v,N,rfl,⟨rfl,rfl⟩,H2⟩;have d0:w2.cell? ⟨w.heap.size,0,none⟩=some (.bool false):=bt (St.blk 0 H2 rfl) 0;have d1:w2.cell? ⟨w.heap.size,1,none⟩=some (.string ⟨#[]⟩):=bt (St.blk 0 H2 rfl) 1;have f0:w2.frozen? ⟨w.heap.size,0,none⟩=false:=dm (St.blk 0 H2 rfl) 0;have f1:w2.frozen? ⟨w.heap.size,1,none⟩=false:=dm (St.blk 0 H2 rfl) 1;have HD:=Lib.hid H2;clear H2;go_wp2_with fail
   have HE:=((HD.out.set 0 rfl 0 (.bool true)).set 0 rfl 1 (.string (bsOf [])));refine bodyPost_ret (v:=blV ⟨true,[]⟩) (results_cell_row Mf _ _ w.heap.size 23 #[.bool true,.string (bsOf [])] (0,0) _ rfl (St.blk 0 HE rfl) Tryz.underlying23 rfl po) rfl ?_;exact⟨_,_,_,rfl,⟨by rw[HQ.out],by rw[HQ.out],rfl⟩,HE.drop_⟩
  ·have HQ:=Lib.hid (show kq st n=(⟨false,(cg st n).1⟩,(cg st n).2) by simp[kq,he,hn]);have hb:(st.err != 0)=false:=by simp[he]
   have hnb:(n == -1)=false:=beq_eq_false_iff_ne.2 hn;clear he hn;go_enter Tryz.func179,Tryz.ntmps179
   go_wp2_with fail
   refine (St.call 1 (HB).out rfl (oD g _)).mono ?_;rintro e w1 ⟨v,A',N,rfl,⟨rfl,rfl,rfl⟩,H1⟩;try simp only[List.cons_append,JI,List.set_cons_zero,List.set_cons_succ,cP] at H1
   have HC:=Lib.hid H1;clear H1;go_wp2_with fail
   refine (St.call 1 (HC).out rfl (dU g st n h0 h1)).mono ?_;rintro e w1 ⟨v,A',N,rfl,⟨rfl,rfl,rfl⟩,H1⟩;try simp only[List.cons_append,JI,List.set_cons_zero,List.set_cons_succ,cP] at H1
   have HC2:=Lib.hid H1;clear H1;go_wp2_with fail
   refine (Ii HC2.out (pZ (cg st n).1)).mono ?_;rintro e w2 ⟨v,N,rfl,⟨rfl,rfl⟩,H2⟩;have d0:w2.cell? ⟨w.heap.size,0,none⟩=some (.bool false):=bt (St.blk 0 H2 rfl) 0;have d1:w2.cell? ⟨w.heap.size,1,none⟩=some (.string ⟨#[]⟩):=bt (St.blk 0 H2 rfl) 1;have f0:w2.frozen? ⟨w.heap.size,0,none⟩=false:=dm (St.blk 0 H2 rfl) 0;have f1:w2.frozen? ⟨w.heap.size,1,none⟩=false:=dm (St.blk 0 H2 rfl) 1;have HD:=Lib.hid H2;clear H2;go_wp2_with fail
   have HE:=((HD.out.set 0 rfl 0 (.bool false)).set 0 rfl 1 (.string (bsOf (cg st n).1)));refine bodyPost_ret (v:=blV ⟨false,(cg st n).1⟩) (results_cell_row Mf _ _ w.heap.size 23 #[.bool false,.string (bsOf (cg st n).1)] (0,0) _ rfl (St.blk 0 HE rfl) Tryz.underlying23 rfl po) rfl ?_;exact⟨_,_,_,rfl,⟨by rw[HQ.out],by rw[HQ.out],rfl⟩,HE.drop_⟩
 ·have HQ:=Lib.hid (show kq st n=(⟨false,[]⟩,st) by simp[kq,he]);have hb:(st.err != 0)=true:=bne_iff_ne.2 he;clear he;go_enter Tryz.func179,Tryz.ntmps179
  go_wp2_with fail
  refine (St.call 1 HB.out rfl (oD g _)).mono ?_;rintro e w2 ⟨v,A',N,rfl,⟨rfl,rfl,rfl⟩,H2⟩;have d0:w2.cell? ⟨w.heap.size,0,none⟩=some (.bool false):=bt (St.blk 0 H2 rfl) 0;have d1:w2.cell? ⟨w.heap.size,1,none⟩=some (.string ⟨#[]⟩):=bt (St.blk 0 H2 rfl) 1;have f0:w2.frozen? ⟨w.heap.size,0,none⟩=false:=dm (St.blk 0 H2 rfl) 0;have f1:w2.frozen? ⟨w.heap.size,1,none⟩=false:=dm (St.blk 0 H2 rfl) 1;have HD:=Lib.hid H2;clear H2;go_wp2_with fail
  have HE:=((HD.out.set 0 rfl 0 (.bool false)).set 0 rfl 1 (.string (bsOf [])));refine bodyPost_ret (v:=blV ⟨false,[]⟩) (results_cell_row Mf _ _ w.heap.size 23 #[.bool false,.string (bsOf [])] (0,0) _ rfl (St.blk 0 HE rfl) Tryz.underlying23 rfl po) rfl ?_;exact⟨_,_,_,rfl,⟨by rw[HQ.out],by rw[HQ.out],rfl⟩,HE.drop_⟩
theorem tG (st:I) (size:Int): -9223372036854775808<=(ew st size).1/\(ew st size).1<=9223372036854775807:=by
 unfold ew;split
 ·rename_i hs;have hl:=vM st size;simp only;generalize (cg st size).1=l at *;by_cases hn:l = []
  ·subst hn; simp[fd]
  ·have hr:=nE l hn;have hp:(2 ^ (8*l.length - 1):Int)<=9223372036854775808:=by
    have h1:(2 ^ (8*l.length - 1):Nat)<=2 ^ 63:=Nat.pow_le_pow_right Md Mc;have h2:((2 ^ (8*l.length - 1):Nat):Int)<=((2 ^ 63:Nat):Int):=Int.ofNat_le.2 h1;rw[Int.natCast_pow,Int.natCast_pow] at h2;exact h2
   generalize (2 ^ (8*l.length - 1):Int)=z at *;omega
 ·simp
theorem vT (st:I): -9223372036854775808<=(fz (es 32 st)).1/\(fz (es 32 st)).1<=9223372036854775807:=by
 have h:=pm 32 (.inl rfl) st;unfold fz l7;simp only;split <;> omega
theorem tH (b:Bl) (h:b.data.length<=9223372036854775807): -9223372036854775808<=blen b/\blen b<=9223372036854775807:=by unfold blen; split <;> omega
def mA (st:List UInt8×Int) (b:Bl):List UInt8×Int:=if bu b then gH st b.data else jW st 4
def l8 (st:List UInt8×Int) (b:Bl) (size:Int):List UInt8×Int:=mA (vq st (blen b) size) b
def kR (st:List UInt8×Int) (b:Bl):List UInt8×Int:=mA (gZ st (blen b)) b
def ic (st:I) (size:Int):Bl×I:=kq (ew st size).2 (ew st size).1
def gC (st:I):Bl×I:=kq (fz (es 32 st)).2 (fz (es 32 st)).1
def tI (r:Bl×I):List UInt8×I:=(r.1.data,if r.1.null then cX r.2 4 else r.2)
theorem sv (g:Nat) (st:List UInt8×Int) (b:Bl) (hl:st.1.length+b.data.length<=140737488355328) :
 fW Tryz.prog 150 #[.pointer (some ⟨g,0,none⟩),blV b] (bp g st) (fun v A' N=>v= .tuple #[]/\A'=bp g (mA st b)/\N = []):=by
 intro F w hA;have HA:=Lib.hid (Hf F w (Sep.one hA));clear hA;have HB:=Lib.hid (HA.out.alloc #[.bool b.null,.string (bsOf b.data)] 23);by_cases hr:bu b=true
 ·have HQ:=Lib.hid (show mA st b=gH st b.data by simp[mA,hr]);have HR:=Lib.hid hr;clear hr;go_enter Tryz.func150,Tryz.ntmps150
  go_wp2_with fail
  refine (Ii HB.out (nH b)).mono ?_;rintro e w2 ⟨v,N,rfl,⟨rfl,rfl⟩,H2⟩;rw[HR.out];have d0:w2.cell? ⟨w.heap.size,0,none⟩=some (.bool b.null):=bt (St.blk 0 H2 rfl) 0;have d1:w2.cell? ⟨w.heap.size,1,none⟩=some (.string (bsOf b.data)):=bt (St.blk 0 H2 rfl) 1;have HD:=Lib.hid H2;clear H2;go_wp2_with fail
  refine (St.call 1 HD.out rfl (xQ g st (bsOf b.data) (by rw[ck]; exact hl))).mono ?_;rintro e w3 ⟨v,A',N,rfl,⟨rfl,rfl,rfl⟩,H3⟩;rw[cP] at H3;have HE:=Lib.hid H3;clear H3;go_wp2_with fail
  go_end0
  exact⟨_,_,_,rfl,⟨rfl,by rw[HQ.out],rfl⟩,HE.out.drop_⟩
 ·have HQ:=Lib.hid (show mA st b=jW st 4 by simp[mA,hr]);have HR:=Lib.hid (show bu b=false by simpa using hr);clear hr;go_enter Tryz.func150,Tryz.ntmps150
  go_wp2_with fail
  refine (Ii HB.out (nH b)).mono ?_;rintro e w2 ⟨v,N,rfl,⟨rfl,rfl⟩,H2⟩;rw[HR.out];have HD:=Lib.hid H2;clear H2;go_wp2_with fail
  refine (St.call 1 (HD).out rfl (oC g st 4)).mono ?_;rintro e w1 ⟨v,A',N,rfl,⟨rfl,rfl,rfl⟩,H1⟩;try simp only[List.cons_append,JI,List.set_cons_zero,List.set_cons_succ,cP] at H1
  have HE:=Lib.hid H1;clear H1;go_wp2_with fail
  go_end0
  exact⟨_,_,_,rfl,⟨rfl,by rw[HQ.out],rfl⟩,HE.out.drop_⟩
theorem DK (st:List UInt8×Int) (n size:Int):(vq st n size).1.length<=st.1.length+8:=by
 unfold vq;split
 ·rename_i h;have h1:=pW st (be n size.toNat);rw[ax] at h1;simp[bm] at h;omega
 ·unfold jW; split <;> simp
theorem nI (g:Nat) (st:List UInt8×Int) (b:Bl) (size:Int) (h0: -9223372036854775808<=size) (h1:size<=9223372036854775807) (hl:st.1.length+8+b.data.length<=140737488355328) :
 fW Tryz.prog 95 #[.pointer (some ⟨g,0,none⟩),blV b,.int .i64 size] (bp g st) (fun v A' N=>v= .tuple #[]/\A'=bp g (l8 st b size)/\N = []):=by
 intro F w hA;have HA:=Lib.hid (Hf F w (Sep.one hA));clear hA;have HB:=Lib.hid (HA.out.alloc #[.bool b.null,.string (bsOf b.data)] 23);have hbl:=tH b Mc;have hb1:=hbl.1;have hb2:=hbl.2;clear hbl;go_enter Tryz.func95,Tryz.ntmps95
 go_wp2_with fail
 refine (Ii HB.out (vS b)).mono ?_;rintro e w2 ⟨v,N,rfl,⟨rfl,rfl⟩,H2⟩;have HC:=Lib.hid H2;clear H2;go_wp2_with fail
 refine (St.call 1 HC.out rfl (sp g st (blen b) size hb1 hb2 Mc)).mono ?_;rintro e w3 ⟨v,A',N,rfl,⟨rfl,rfl,rfl⟩,H3⟩;have d0:w3.cell? ⟨w.heap.size,0,none⟩=some (.bool b.null):=bt (St.blk 0 H3 rfl) 0;have d1:w3.cell? ⟨w.heap.size,1,none⟩=some (.string (bsOf b.data)):=bt (St.blk 0 H3 rfl) 1;have HD:=Lib.hid H3;clear H3;go_wp2_with fail
 refine (St.call 1 HD.out rfl (sv g _ b (by have:=DK st (blen b) size; omega))).mono ?_;rintro e w4 ⟨v,A',N,rfl,⟨rfl,rfl,rfl⟩,H4⟩;have HE:=Lib.hid H4;clear H4;go_wp2_with fail
 go_end0
 exact⟨_,_,_,rfl,⟨rfl,rfl,rfl⟩,HE.out.drop_⟩
theorem xY (st:List UInt8×Int) (n:Int):(gZ st n).1.length<=st.1.length+10:=by
 unfold gZ;split
 ·rename_i h;have h1:=pW st (cQ (bw n));have h2:=jX (bw n) (io n Mc Mc);omega
 ·unfold jW; split <;> simp
theorem na (g:Nat) (st:List UInt8×Int) (b:Bl) (hl:st.1.length+10+b.data.length<=140737488355328) :
 fW Tryz.prog 183 #[.pointer (some ⟨g,0,none⟩),blV b] (bp g st) (fun v A' N=>v= .tuple #[]/\A'=bp g (kR st b)/\N = []):=by
 intro F w hA;have HA:=Lib.hid (Hf F w (Sep.one hA));clear hA;have HB:=Lib.hid (HA.out.alloc #[.bool b.null,.string (bsOf b.data)] 23);have hbl:=tH b Mc;have hb1:=hbl.1;have hb2:=hbl.2;clear hbl;go_enter Tryz.func183,Tryz.ntmps183
 go_wp2_with fail
 refine (Ii HB.out (vS b)).mono ?_;rintro e w2 ⟨v,N,rfl,⟨rfl,rfl⟩,H2⟩;have HC:=Lib.hid H2;clear H2;go_wp2_with fail
 refine (St.call 1 HC.out rfl (pX g st (blen b) hb1 hb2 Mc)).mono ?_;rintro e w3 ⟨v,A',N,rfl,⟨rfl,rfl,rfl⟩,H3⟩;have d0:w3.cell? ⟨w.heap.size,0,none⟩=some (.bool b.null):=bt (St.blk 0 H3 rfl) 0;have d1:w3.cell? ⟨w.heap.size,1,none⟩=some (.string (bsOf b.data)):=bt (St.blk 0 H3 rfl) 1;have HD:=Lib.hid H3;clear H3;go_wp2_with fail
 refine (St.call 1 HD.out rfl (sv g _ b (by have:=xY st (blen b); omega))).mono ?_;rintro e w4 ⟨v,A',N,rfl,⟨rfl,rfl,rfl⟩,H4⟩;have HE:=Lib.hid H4;clear H4;go_wp2_with fail
 go_end0
 exact⟨_,_,_,rfl,⟨rfl,rfl,rfl⟩,HE.out.drop_⟩
def tJ (st:List UInt8×Int) (l:List UInt8):List UInt8×Int:=l8 st ⟨false,l⟩ 2
theorem vv (g:Nat) (st:List UInt8×Int) (l:List UInt8) (hl:st.1.length+8+l.length<=140737488355328) :
 fW Tryz.prog 88 #[.pointer (some ⟨g,0,none⟩),.string (bsOf l)] (bp g st) (fun v A' N=>v= .tuple #[]/\A'=bp g (tJ st l)/\N = []):=by
 intro F w hA;have HA:=Lib.hid (Hf F w (Sep.one hA));clear hA;go_enter Tryz.func88,Tryz.ntmps88
 go_wp2_with fail
 refine (Ii (HA).out (pZ l)).mono ?_;rintro e w1 ⟨v,N,rfl,⟨rfl,rfl⟩,H1⟩;try simp only[List.cons_append,JI,List.set_cons_zero,List.set_cons_succ,cP] at H1
 have HB:=Lib.hid H1;clear H1;go_wp2_with fail
 refine (St.call 0 (HB).out rfl (nI g st ⟨false,l⟩ 2 Mc Mc hl)).mono ?_;rintro e w1 ⟨v,A',N,rfl,⟨rfl,rfl,rfl⟩,H1⟩;try simp only[List.cons_append,JI,List.set_cons_zero,List.set_cons_succ,cP] at H1
 have HC:=Lib.hid H1;clear H1;go_wp2_with fail
 go_end0
 exact⟨_,_,_,rfl,⟨rfl,rfl,rfl⟩,HC.out⟩
def tK (st:List UInt8×Int) (l:List UInt8):List UInt8×Int:=kR st ⟨false,l⟩
theorem vw (g:Nat) (st:List UInt8×Int) (l:List UInt8) (hl:st.1.length+10+l.length<=140737488355328) :
 fW Tryz.prog 132 #[.pointer (some ⟨g,0,none⟩),.string (bsOf l)] (bp g st) (fun v A' N=>v= .tuple #[]/\A'=bp g (tK st l)/\N = []):=by
 intro F w hA;have HA:=Lib.hid (Hf F w (Sep.one hA));clear hA;go_enter Tryz.func132,Tryz.ntmps132
 go_wp2_with fail
 refine (Ii (HA).out (pZ l)).mono ?_;rintro e w1 ⟨v,N,rfl,⟨rfl,rfl⟩,H1⟩;try simp only[List.cons_append,JI,List.set_cons_zero,List.set_cons_succ,cP] at H1
 have HB:=Lib.hid H1;clear H1;go_wp2_with fail
 refine (St.call 0 (HB).out rfl (na g st ⟨false,l⟩ hl)).mono ?_;rintro e w1 ⟨v,A',N,rfl,⟨rfl,rfl,rfl⟩,H1⟩;try simp only[List.cons_append,JI,List.set_cons_zero,List.set_cons_succ,cP] at H1
 have HC:=Lib.hid H1;clear H1;go_wp2_with fail
 go_end0
 exact⟨_,_,_,rfl,⟨rfl,rfl,rfl⟩,HC.out⟩
theorem sw (g:Nat) (st:I) (size:Int) :
 fW Tryz.prog 142 #[.pointer (some ⟨g,0,none⟩),.int .i64 size] (InR g st) (fun v A' N=>v=blV (ic st size).1/\A'=InR g (ic st size).2/\N = []):=by
 intro F w hA;have HA:=Lib.hid (Hf F w (Sep.one hA));clear hA;have HB:=Lib.hid (HA.out.alloc #[.bool false,.string ⟨#[]⟩] 23);go_enter Tryz.func142,Tryz.ntmps142
 go_wp2_with fail
 refine (St.call 1 (HB).out rfl (rh g st size)).mono ?_;rintro e w1 ⟨v,A',N,rfl,⟨rfl,rfl,rfl⟩,H1⟩;try simp only[List.cons_append,JI,List.set_cons_zero,List.set_cons_succ,cP] at H1
 have HC:=Lib.hid H1;clear H1;go_wp2_with fail
 refine (St.call 1 HC.out rfl (tF g _ _ (tG st size).1 (tG st size).2)).mono ?_;rintro e w2 ⟨v,A',N,rfl,⟨rfl,rfl,rfl⟩,H2⟩;have d0:w2.cell? ⟨w.heap.size,0,none⟩=some (.bool false):=bt (St.blk 0 H2 rfl) 0;have d1:w2.cell? ⟨w.heap.size,1,none⟩=some (.string ⟨#[]⟩):=bt (St.blk 0 H2 rfl) 1;have f0:w2.frozen? ⟨w.heap.size,0,none⟩=false:=dm (St.blk 0 H2 rfl) 0;have f1:w2.frozen? ⟨w.heap.size,1,none⟩=false:=dm (St.blk 0 H2 rfl) 1;have HD:=Lib.hid H2;clear H2;go_wp2_with fail
 have HE:=((HD.out.set 0 rfl 0 (.bool (ic st size).1.null)).set 0 rfl 1 (.string (bsOf (ic st size).1.data)));refine bodyPost_ret (v:=blV (ic st size).1) (results_cell_row Mf _ _ w.heap.size 23 #[.bool (ic st size).1.null,.string (bsOf (ic st size).1.data)] (0,0) _ rfl (St.blk 0 HE rfl) Tryz.underlying23 rfl po) rfl ?_;exact⟨_,_,_,rfl,⟨rfl,rfl,rfl⟩,HE.drop_⟩
theorem qa (g:Nat) (st:I) :
 fW Tryz.prog 128 #[.pointer (some ⟨g,0,none⟩)] (InR g st) (fun v A' N=>v=blV (gC st).1/\A'=InR g (gC st).2/\N = []):=by
 intro F w hA;have HA:=Lib.hid (Hf F w (Sep.one hA));clear hA;have HB:=Lib.hid (HA.out.alloc #[.bool false,.string ⟨#[]⟩] 23);go_enter Tryz.func128,Tryz.ntmps128
 go_wp2_with fail
 refine (St.call 1 (HB).out rfl (vR g st)).mono ?_;rintro e w1 ⟨v,A',N,rfl,⟨rfl,rfl,rfl⟩,H1⟩;try simp only[List.cons_append,JI,List.set_cons_zero,List.set_cons_succ,cP] at H1
 have HC:=Lib.hid H1;clear H1;go_wp2_with fail
 refine (St.call 1 HC.out rfl (tF g _ _ (vT st).1 (vT st).2)).mono ?_;rintro e w2 ⟨v,A',N,rfl,⟨rfl,rfl,rfl⟩,H2⟩;have d0:w2.cell? ⟨w.heap.size,0,none⟩=some (.bool false):=bt (St.blk 0 H2 rfl) 0;have d1:w2.cell? ⟨w.heap.size,1,none⟩=some (.string ⟨#[]⟩):=bt (St.blk 0 H2 rfl) 1;have f0:w2.frozen? ⟨w.heap.size,0,none⟩=false:=dm (St.blk 0 H2 rfl) 0;have f1:w2.frozen? ⟨w.heap.size,1,none⟩=false:=dm (St.blk 0 H2 rfl) 1;have HD:=Lib.hid H2;clear H2;go_wp2_with fail
 have HE:=((HD.out.set 0 rfl 0 (.bool (gC st).1.null)).set 0 rfl 1 (.string (bsOf (gC st).1.data)));refine bodyPost_ret (v:=blV (gC st).1) (results_cell_row Mf _ _ w.heap.size 23 #[.bool (gC st).1.null,.string (bsOf (gC st).1.data)] (0,0) _ rfl (St.blk 0 HE rfl) Tryz.underlying23 rfl po) rfl ?_;exact⟨_,_,_,rfl,⟨rfl,rfl,rfl⟩,HE.drop_⟩
theorem tL (g:Nat) (r:Bl×I) :
 fW Tryz.prog 141 #[.pointer (some ⟨g,0,none⟩),blV r.1] (InR g r.2) (fun v A' N=>v= .string (bsOf (tI r).1)/\A'=InR g (tI r).2/\N = []):=by
 intro F w hA;obtain⟨b,st⟩:=r;obtain⟨n,l⟩:=b;have HA:=Lib.hid (Hf F w (Sep.one hA));clear hA;have HB:=Lib.hid (HA.out.alloc #[.bool n,.string (bsOf l)] 23);cases n
 ·go_enter Tryz.func141,Tryz.ntmps141
  go_wp2_with fail
  go_ret
  exact⟨_,_,_,rfl,⟨rfl,rfl,rfl⟩,HB.out.drop_⟩
 ·go_enter Tryz.func141,Tryz.ntmps141
  go_wp2_with fail
  refine (St.call 1 HB.out rfl (fX g st 4)).mono ?_;rintro e w2 ⟨v,A',N,rfl,⟨rfl,rfl,rfl⟩,H2⟩;have d1:w2.cell? ⟨w.heap.size,1,none⟩=some (.string (bsOf l)):=bt (St.blk 0 H2 rfl) 1;have HD:=Lib.hid H2;clear H2;go_wp2_with fail
  go_ret
  exact⟨_,_,_,rfl,⟨rfl,rfl,rfl⟩,HD.out.drop_⟩
def Br (st:I):List UInt8×I:=tI (ic st 2)
theorem z3 (g:Nat) (st:I) :
 fW Tryz.prog 86 #[.pointer (some ⟨g,0,none⟩)] (InR g st) (fun v A' N=>v= .string (bsOf (Br st).1)/\A'=InR g (Br st).2/\N = []):=by
 intro F w hA;have HA:=Lib.hid (Hf F w (Sep.one hA));clear hA;go_enter Tryz.func86,Tryz.ntmps86
 go_wp2_with fail
 refine (St.call 0 (HA).out rfl (sw g st 2)).mono ?_;rintro e w1 ⟨v,A',N,rfl,⟨rfl,rfl,rfl⟩,H1⟩;try simp only[List.cons_append,JI,List.set_cons_zero,List.set_cons_succ,cP] at H1
 have HB:=Lib.hid H1;clear H1;go_wp2_with fail
 refine (St.call 0 (HB).out rfl (tL g (ic st 2))).mono ?_;rintro e w1 ⟨v,A',N,rfl,⟨rfl,rfl,rfl⟩,H1⟩;try simp only[List.cons_append,JI,List.set_cons_zero,List.set_cons_succ,cP] at H1
 have HC:=Lib.hid H1;clear H1;go_wp2_with fail
 go_ret
 exact⟨_,_,_,rfl,⟨rfl,rfl,rfl⟩,HC.out⟩
def Bt (st:I):List UInt8×I:=tI (gC st)
theorem z4 (g:Nat) (st:I) :
 fW Tryz.prog 125 #[.pointer (some ⟨g,0,none⟩)] (InR g st) (fun v A' N=>v= .string (bsOf (Bt st).1)/\A'=InR g (Bt st).2/\N = []):=by
 intro F w hA;have HA:=Lib.hid (Hf F w (Sep.one hA));clear hA;go_enter Tryz.func125,Tryz.ntmps125
 go_wp2_with fail
 refine (St.call 0 (HA).out rfl (qa g st)).mono ?_;rintro e w1 ⟨v,A',N,rfl,⟨rfl,rfl,rfl⟩,H1⟩;try simp only[List.cons_append,JI,List.set_cons_zero,List.set_cons_succ,cP] at H1
 have HB:=Lib.hid H1;clear H1;go_wp2_with fail
 refine (St.call 0 (HB).out rfl (tL g (gC st))).mono ?_;rintro e w1 ⟨v,A',N,rfl,⟨rfl,rfl,rfl⟩,H1⟩;try simp only[List.cons_append,JI,List.set_cons_zero,List.set_cons_succ,cP] at H1
 have HC:=Lib.hid H1;clear H1;go_wp2_with fail
 go_ret
 exact⟨_,_,_,rfl,⟨rfl,rfl,rfl⟩,HC.out⟩
attribute [local go_sem] eJ ck
@[go_sem] def strErr (x:List UInt8×Int):Value:= .tuple #[.string (bsOf x.1),.int .i64 x.2]
def otx (st:List UInt8×Int):List UInt8×Int:=if st.2=0 then (st.1,0) else ([],st.2)
theorem wY (st:List UInt8×Int):xR st=strErr (otx st):=by unfold xR otx; split <;> rfl
theorem ri {st:I} (h:st.err≠0) (e:Int):cX st e=st:=by simp[cX,h]
theorem Cw {st:I} (h:st.err≠0) (n:Int):cg st n=([],st):=by simp[cg,h]
theorem l9 {st:I} (h:st.err≠0) (n:Int):ew st n=(0,st):=by
 unfold ew;split
 ·rw[Cw h]; rfl
 ·rw[ri h]
theorem rj {st:I} (h:st.err≠0) (n:Int):kq st n=(⟨false,[]⟩,st):=by simp[kq,h]
theorem z5 {st:I} (h:st.err≠0) (n:Int):ic st n=(⟨false,[]⟩,st):=by unfold ic; rw[l9 h,rj h]
theorem tM {st:I} (h:st.err≠0):eT st=st:=by unfold eT; split; rfl; exact ri h 2
theorem xZ (l:List UInt8) (p:Nat) (n:Nat) (h:n<=l.length):cg ⟨l,p,0⟩ n=(l.take n,⟨l.drop n,p+n,0⟩):=by
 unfold cg;rw[Mh (by simp),Mh Mc,Mh (by simp only; omega)];simp
theorem sy (l:List UInt8) (p:Nat) (n:Int) (h:(l.length:Int)<n):cg ⟨l,p,0⟩ n=([],⟨l,p,1⟩):=by
 unfold cg;rw[Mh (by simp),Mh Mc,Mg (by simp only; omega)]
theorem Cx (l:List UInt8) (p:Nat) (n:Int) (h:n<0):cg ⟨l,p,0⟩ n=([],⟨l,p,4⟩):=by
 unfold cg;rw[Mh (by simp),Mg h]
theorem wZ (l:List UInt8) (p:Nat) (n:Nat) (h1:1<=n) (h8:n<=8) (h:n<=l.length):ew ⟨l,p,0⟩ n=(fd (l.take n),⟨l.drop n,p+n,0⟩):=by
 unfold ew;rw[Mg Mc,xZ l p n h]
theorem pp (l:List UInt8) (p:Nat) (n:Int) (h1:1<=n) (h8:n<=8) (h:(l.length:Int)<n):ew ⟨l,p,0⟩ n=(0,⟨l,p,1⟩):=by
 unfold ew;rw[Mg Mc,sy l p n h];rfl
def eD (l:List UInt8):Bool:= !l.isEmpty && decide ((l.length:Int)<=32767)
theorem z6 (l:List UInt8) (w:World):Calls Tryz.prog 87 #[.string (bsOf l)] w fun e w'=>e= .returned (.bool (eD l))/\w=w':=by
 cases l with
 | nil =>
  go_enter Tryz.func87,Tryz.ntmps87
  go_wp2_with fail
  go_ret
  exact⟨nB (by simp[eD]),rfl⟩
 | cons c l =>
  go_enter Tryz.func87,Tryz.ntmps87
  go_wp2_with fail
  go_ret
  exact⟨nB (by simp[eD]),rfl⟩
attribute [local go_sem] eJ ck
def vgetV (x:Nat×Nat×Int):Value:= .tuple #[.int .u64 x.1,.int .i64 x.2.1,.int .i64 x.2.2]
theorem sA (a b:List UInt8):bsOf a++bsOf b=bsOf (a++b):=by
 apply ByteArray.ext;simp[bsOf]
attribute [local go_sem] eJ ck sA
attribute [local go_sem] eJ ck sA
theorem z7 (l:List UInt8) (k:Nat):(bsOf l).extract 0 k=bsOf (l.take k):=by rw[nD,cP]; simp
attribute [local go_sem] z7
attribute [local go_sem] vgetV
theorem z8 (b:Nat) (st:List UInt8×Int) (s:List UInt8) (hl:st.1.length+s.length<=140737488355328) :
 fW Tryz.prog 52 #[.pointer (some ⟨b,0,none⟩),.string (bsOf s)] (bp b st) (fun v A' N=>v= .tuple #[]/\A'=bp b (gH st s)/\N = []):=by
 have h:=xQ b st (bsOf s) (by rw[ck]; exact hl)
 rwa [cP] at h
theorem ya (b:Nat) (st:List UInt8×Int):fW Tryz.prog 50 #[.pointer (some ⟨b,0,none⟩)] (bp b st) (fun v A' N=>v= .tuple #[.string (bsOf (otx st).1),.int .i64 (otx st).2]/\A'=bp b st/\N = []):=by
 have h:=Cs b st
 rwa [wY] at h
def jw (st:List UInt8×Int) (e:Int):Option (List UInt8×Int):=some (jW st e)
theorem ma (st:List UInt8×Int) (e:Int):jw st e=some (jW st e):=rfl
theorem fT (g:Nat) (st:List UInt8×Int) (e:Int) (r:List UInt8×Int) (h:jw st e=some r):aC Tryz.prog 94 #[.pointer (some ⟨g,0,none⟩),.int .i64 e] .triv (bp g st) (fun v A' N=>v= .tuple #[]/\A'=bp g r/\N = []):=by
 unfold jw at h;obtain rfl:=Jp h;exact GZ (oC g st e)
def vU (st:List UInt8×Int) (s:List UInt8):Option (List UInt8×Int):=if st.1.length+s.length<=140737488355328 then some (gH st s) else none
theorem yb (st:List UInt8×Int) (s:List UInt8) (h:st.1.length+s.length<=140737488355328):vU st s=some (gH st s):=Mg h
theorem tN (g:Nat) (st:List UInt8×Int) (s:List UInt8) (r:List UInt8×Int) (h:vU st s=some r):aC Tryz.prog 52 #[.pointer (some ⟨g,0,none⟩),.string (bsOf s)] .triv (bp g st) (fun v A' N=>v= .tuple #[]/\A'=bp g r/\N = []):=by
 unfold vU at h;split at h
 ·rename_i h1;obtain rfl:=Jp h;exact GZ (z8 g st s h1)
 ·simp at h
def rk (st:List UInt8×Int) (c:Int):Option (List UInt8×Int):=if 0<=c/\c<256/\st.1.length+1<=140737488355328 then some (gH st [UInt8.ofNat c.toNat]) else none
theorem rl (st:List UInt8×Int) (c:Int) (h:0<=c/\c<256/\st.1.length+1<=140737488355328):rk st c=some (gH st [UInt8.ofNat c.toNat]):=Mg h
theorem nJ (g:Nat) (st:List UInt8×Int) (c:Int) (r:List UInt8×Int) (h:rk st c=some r):aC Tryz.prog 102 #[.pointer (some ⟨g,0,none⟩),.int .u8 c] .triv (bp g st) (fun v A' N=>v= .tuple #[]/\A'=bp g r/\N = []):=by
 unfold rk at h;split at h
 ·rename_i h1;obtain rfl:=Jp h;exact GZ (mz g st c h1.1 h1.2.1 h1.2.2)
 ·simp at h
def Bu (st:List UInt8×Int)  : Option (Int×(List UInt8×Int)):=some (st.2,st)
theorem tO (st:List UInt8×Int)  : Bu st  = some (st.2,st):=rfl
theorem z9 (g:Nat) (st:List UInt8×Int)  (r:Int×(List UInt8×Int)) (h:Bu st  = some r):aC Tryz.prog 48 #[.pointer (some ⟨g,0,none⟩)] .triv (bp g st) (fun v A' N=>v= .int .i64 r.1/\A'=bp g r.2/\N = []):=by
 unfold Bu at h;obtain rfl:=Jp h;exact GZ (DF g st)
def kT (st:List UInt8×Int)  : Option (List UInt8×Int×(List UInt8×Int)):=some ((otx st).1,(otx st).2,st)
theorem g6 (st:List UInt8×Int)  : kT st  = some ((otx st).1,(otx st).2,st):=rfl
theorem gI (g:Nat) (st:List UInt8×Int)  (r:List UInt8×Int×(List UInt8×Int)) (h:kT st  = some r):aC Tryz.prog 50 #[.pointer (some ⟨g,0,none⟩)] .triv (bp g st) (fun v A' N=>v= .tuple #[.string (bsOf r.1),.int .i64 r.2.1]/\A'=bp g r.2.2/\N = []):=by
 unfold kT at h;obtain rfl:=Jp h;exact GZ (ya g st)
def dA (st:List UInt8×Int) (n:Int) (size:Int):Option (List UInt8×Int):=if (-9223372036854775808<=n/\n<=9223372036854775807)/\st.1.length+8<=140737488355328 then some (vq st n size) else none
theorem DL (st:List UInt8×Int) (n:Int) (size:Int) (h:(-9223372036854775808<=n/\n<=9223372036854775807)/\st.1.length+8<=140737488355328):dA st n size=some (vq st n size):=Mg h
theorem bh (g:Nat) (st:List UInt8×Int) (n:Int) (size:Int) (r:List UInt8×Int) (h:dA st n size=some r):aC Tryz.prog 51 #[.pointer (some ⟨g,0,none⟩),.int .i64 n,.int .i64 size] .triv (bp g st) (fun v A' N=>v= .tuple #[]/\A'=bp g r/\N = []):=by
 unfold dA at h;split at h
 ·rename_i h1;obtain rfl:=Jp h;exact GZ (sp g st n size h1.1.1 h1.1.2 h1.2)
 ·simp at h
def ib  (n:Int) (size:Int):Option (Bool):=if (-9223372036854775808<=n/\n<=9223372036854775807) then some (bm n size) else none
theorem fe  (n:Int) (size:Int) (h:(-9223372036854775808<=n/\n<=9223372036854775807)):ib  n size=some (bm n size):=Mg h
theorem db (n:Int) (size:Int) (r:Bool) (h:ib  n size=some r) (w:World):Calls Tryz.prog 101 #[.int .i64 n,.int .i64 size] w fun e w'=>e= .returned (.bool r)/\w=w':=by
 unfold ib at h;split at h
 ·rename_i h1;obtain rfl:=Jp h;exact nC n size w h1.1 h1.2
 ·simp at h
def sZ  (s:List UInt8):Option (I):=if s.length<=9223372036854775807 then some (⟨s,0,0⟩:I) else none
theorem iL  (s:List UInt8) (h:s.length<=9223372036854775807):sZ  s=some (⟨s,0,0⟩:I):=Mg h
theorem iE (s:List UInt8) (r:I) (h:sZ  s=some r):aC Tryz.prog 19 #[.string (bsOf s)] .triv aO (fun v A' N=> ∃ g,v= .pointer (some ⟨g,0,none⟩)/\A'=aO/\N = [InR g r]):=by
 unfold sZ at h;split at h
 ·rename_i h1;obtain rfl:=Jp h;have k:=IA (X:= .triv) (DG (bsOf s) (by rw[ck]; omega));intro F w hA hX;refine (k F w hA hX).mono ?_;rintro e w' ⟨v,A',Ns,rfl,⟨rfl,b,rfl,rfl⟩,hst⟩;rw[cP] at hst;exact⟨_,_,_,rfl,⟨b,rfl,rfl,rfl⟩,hst⟩
 ·simp at h
def bT (st:I) (e:Int):Option (I):=some (cX st e)
theorem cY (st:I) (e:Int):bT st e=some (cX st e):=rfl
theorem bx (g:Nat) (st:I) (e:Int) (r:I) (h:bT st e=some r):aC Tryz.prog 70 #[.pointer (some ⟨g,0,none⟩),.int .i64 e] .triv (InR g st) (fun v A' N=>v= .tuple #[]/\A'=InR g r/\N = []):=by
 unfold bT at h;obtain rfl:=Jp h;exact GZ (fX g st e)
def tP (st:I)  : Option (Int×I):=some ((st.rest.length:Int),st)
theorem qb (st:I)  : tP st  = some ((st.rest.length:Int),st):=rfl
theorem mB (g:Nat) (st:I)  (r:Int×I) (h:tP st  = some r):aC Tryz.prog 71 #[.pointer (some ⟨g,0,none⟩)] .triv (InR g st) (fun v A' N=>v= .int .i64 r.1/\A'=InR g r.2/\N = []):=by
 unfold tP at h;obtain rfl:=Jp h;exact GZ (l6 g st)
def yc (st:I) (n:Int):Option (List UInt8×I):=if (-9223372036854775808<=n/\n<=9223372036854775807) then some ((cg st n).1,(cg st n).2) else none
theorem mb (st:I) (n:Int) (h:(-9223372036854775808<=n/\n<=9223372036854775807)):yc st n=some ((cg st n).1,(cg st n).2):=Mg h
theorem tQ (g:Nat) (st:I) (n:Int) (r:List UInt8×I) (h:yc st n=some r):aC Tryz.prog 67 #[.pointer (some ⟨g,0,none⟩),.int .i64 n] .triv (InR g st) (fun v A' N=>v= .string (bsOf r.1)/\A'=InR g r.2/\N = []):=by
 unfold yc at h;split at h
 ·rename_i h1;obtain rfl:=Jp h;exact GZ (dU g st n h1.1 h1.2)
 ·simp at h
def dB (st:I) (size:Int):Option (Int×I):=some ((ew st size).1,(ew st size).2)
theorem iM (st:I) (size:Int):dB st size=some ((ew st size).1,(ew st size).2):=rfl
theorem bl (g:Nat) (st:I) (size:Int) (r:Int×I) (h:dB st size=some r):aC Tryz.prog 68 #[.pointer (some ⟨g,0,none⟩),.int .i64 size] .triv (InR g st) (fun v A' N=>v= .int .i64 r.1/\A'=InR g r.2/\N = []):=by
 unfold dB at h;obtain rfl:=Jp h;exact GZ (rh g st size)
def gt (st:I)  : Option (Int×I):=some (st.err,st)
theorem bn (st:I)  : gt st  = some (st.err,st):=rfl
theorem bY (g:Nat) (st:I)  (r:Int×I) (h:gt st  = some r):aC Tryz.prog 23 #[.pointer (some ⟨g,0,none⟩)] .triv (InR g st) (fun v A' N=>v= .int .i64 r.1/\A'=InR g r.2/\N = []):=by
 unfold gt at h;obtain rfl:=Jp h;exact GZ (oD g st)
def dJ (st:I)  : Option (Int×I):=some ((eT st).err,eT st)
theorem fG (st:I)  : dJ st  = some ((eT st).err,eT st):=rfl
theorem cR (g:Nat) (st:I)  (r:Int×I) (h:dJ st  = some r):aC Tryz.prog 21 #[.pointer (some ⟨g,0,none⟩)] .triv (InR g st) (fun v A' N=>v= .int .i64 r.1/\A'=InR g r.2/\N = []):=by
 unfold dJ at h;obtain rfl:=Jp h;exact GZ (zT g st)
def ie (st:I) (size:Int) (each:Int):Option (Int×I):=if (-9223372036854775808<=size/\size<=9223372036854775807)/\(-9223372036854775808<=each/\each<=9223372036854775807) then some ((ke st size each).1,(ke st size each).2) else none
theorem rm (st:I) (size:Int) (each:Int) (h:(-9223372036854775808<=size/\size<=9223372036854775807)/\(-9223372036854775808<=each/\each<=9223372036854775807)):ie st size each=some ((ke st size each).1,(ke st size each).2):=Mg h
theorem jY (g:Nat) (st:I) (size:Int) (each:Int) (r:Int×I) (h:ie st size each=some r):aC Tryz.prog 144 #[.pointer (some ⟨g,0,none⟩),.int .i64 size,.int .i64 each] .triv (InR g st) (fun v A' N=>v= .int .i64 r.1/\A'=InR g r.2/\N = []):=by
 unfold ie at h;split at h
 ·rename_i h1;obtain rfl:=Jp h;exact GZ (zU g st size each)
 ·simp at h
def nb (st:I)  : Option (Int×I):=some ((fz (es 32 st)).1,(fz (es 32 st)).2)
theorem DM (st:I)  : nb st  = some ((fz (es 32 st)).1,(fz (es 32 st)).2):=rfl
theorem pt (g:Nat) (st:I)  (r:Int×I) (h:nb st  = some r):aC Tryz.prog 127 #[.pointer (some ⟨g,0,none⟩)] .triv (InR g st) (fun v A' N=>v= .int .i64 r.1/\A'=InR g r.2/\N = []):=by
 unfold nb at h;obtain rfl:=Jp h;exact GZ (vR g st)
def kU (st:I)  : Option (Int×I):=some ((fz (es 64 st)).1,(fz (es 64 st)).2)
theorem Cy (st:I)  : kU st  = some ((fz (es 64 st)).1,(fz (es 64 st)).2):=rfl
theorem sB (g:Nat) (st:I)  (r:Int×I) (h:kU st  = some r):aC Tryz.prog 126 #[.pointer (some ⟨g,0,none⟩)] .triv (InR g st) (fun v A' N=>v= .int .i64 r.1/\A'=InR g r.2/\N = []):=by
 unfold kU at h;obtain rfl:=Jp h;exact GZ (zY g st)
def qc (st:List UInt8×Int) (n:Int):Option (List UInt8×Int):=if (-9223372036854775808<=n/\n<=9223372036854775807)/\st.1.length+10<=140737488355328 then some (gH st (cQ (bw n))) else none
theorem ye (st:List UInt8×Int) (n:Int) (h:(-9223372036854775808<=n/\n<=9223372036854775807)/\st.1.length+10<=140737488355328):qc st n=some (gH st (cQ (bw n))):=Mg h
theorem vx (g:Nat) (st:List UInt8×Int) (n:Int) (r:List UInt8×Int) (h:qc st n=some r):aC Tryz.prog 181 #[.pointer (some ⟨g,0,none⟩),.int .i64 n] .triv (bp g st) (fun v A' N=>v= .tuple #[]/\A'=bp g r/\N = []):=by
 unfold qc at h;split at h
 ·rename_i h1;obtain rfl:=Jp h;exact GZ (vt g st n h1.1.1 h1.1.2 h1.2)
 ·simp at h
def qd (st:List UInt8×Int) (n:Int):Option (List UInt8×Int):=if (-9223372036854775808<=n/\n<=9223372036854775807)/\st.1.length+10<=140737488355328 then some (gZ st n) else none
theorem tR (st:List UInt8×Int) (n:Int) (h:(-9223372036854775808<=n/\n<=9223372036854775807)/\st.1.length+10<=140737488355328):qd st n=some (gZ st n):=Mg h
theorem qe (g:Nat) (st:List UInt8×Int) (n:Int) (r:List UInt8×Int) (h:qd st n=some r):aC Tryz.prog 182 #[.pointer (some ⟨g,0,none⟩),.int .i64 n] .triv (bp g st) (fun v A' N=>v= .tuple #[]/\A'=bp g r/\N = []):=by
 unfold qd at h;split at h
 ·rename_i h1;obtain rfl:=Jp h;exact GZ (pX g st n h1.1.1 h1.1.2 h1.2)
 ·simp at h
def yf  (s:List UInt8):Option (Int):=if s.length<=8 then some (fd s) else none
theorem qf  (s:List UInt8) (h:s.length<=8):yf  s=some (fd s):=Mg h
def gOf  (s:List UInt8):Option (Bl):=some (⟨false,s⟩:Bl)
theorem gOf_eq  (s:List UInt8):gOf  s=some (⟨false,s⟩:Bl):=rfl
theorem DN (s:List UInt8) (r:Bl) (h:gOf  s=some r):aC Tryz.prog 143 #[.string (bsOf s)] .triv aO (fun v A' N=>v= .agg #[.bool r.null,.string (bsOf r.data)]/\A'=aO/\N = []):=by
 unfold gOf at h;obtain rfl:=Jp h;exact Ic (pZ s)
def nK  (b:Bl):Option (Bool):=some (bu b)
theorem oE  (b:Bl):nK  b=some (bu b):=rfl
theorem lE (b:Bl) (r:Bool) (h:nK  b=some r):aC Tryz.prog 148 #[.agg #[.bool b.null,.string (bsOf b.data)]] .triv aO (fun v A' N=>v= .bool r/\A'=aO/\N = []):=by
 unfold nK at h;obtain rfl:=Jp h;exact Ic (nH b)
def iF (st:List UInt8×Int) (b:Bl) (size:Int):Option (List UInt8×Int):=if (-9223372036854775808<=size/\size<=9223372036854775807)/\st.1.length+8+b.data.length<=140737488355328 then some (l8 st b size) else none
theorem mC (st:List UInt8×Int) (b:Bl) (size:Int) (h:(-9223372036854775808<=size/\size<=9223372036854775807)/\st.1.length+8+b.data.length<=140737488355328):iF st b size=some (l8 st b size):=Mg h
theorem iN (g:Nat) (st:List UInt8×Int) (b:Bl) (size:Int) (r:List UInt8×Int) (h:iF st b size=some r):aC Tryz.prog 95 #[.pointer (some ⟨g,0,none⟩),.agg #[.bool b.null,.string (bsOf b.data)],.int .i64 size] .triv (bp g st) (fun v A' N=>v= .tuple #[]/\A'=bp g r/\N = []):=by
 unfold iF at h;split at h
 ·rename_i h1;obtain rfl:=Jp h;exact GZ (nI g st b size h1.1.1 h1.1.2 h1.2)
 ·simp at h
def iz (st:List UInt8×Int) (b:Bl):Option (List UInt8×Int):=if st.1.length+10+b.data.length<=140737488355328 then some (kR st b) else none
theorem pf (st:List UInt8×Int) (b:Bl) (h:st.1.length+10+b.data.length<=140737488355328):iz st b=some (kR st b):=Mg h
theorem kf (g:Nat) (st:List UInt8×Int) (b:Bl) (r:List UInt8×Int) (h:iz st b=some r):aC Tryz.prog 183 #[.pointer (some ⟨g,0,none⟩),.agg #[.bool b.null,.string (bsOf b.data)]] .triv (bp g st) (fun v A' N=>v= .tuple #[]/\A'=bp g r/\N = []):=by
 unfold iz at h;split at h
 ·rename_i h1;obtain rfl:=Jp h;exact GZ (na g st b h1)
 ·simp at h
def iO (st:List UInt8×Int) (s:List UInt8):Option (List UInt8×Int):=if st.1.length+8+s.length<=140737488355328 then some (tJ st s) else none
theorem sC (st:List UInt8×Int) (s:List UInt8) (h:st.1.length+8+s.length<=140737488355328):iO st s=some (tJ st s):=Mg h
theorem jO (g:Nat) (st:List UInt8×Int) (s:List UInt8) (r:List UInt8×Int) (h:iO st s=some r):aC Tryz.prog 88 #[.pointer (some ⟨g,0,none⟩),.string (bsOf s)] .triv (bp g st) (fun v A' N=>v= .tuple #[]/\A'=bp g r/\N = []):=by
 unfold iO at h;split at h
 ·rename_i h1;obtain rfl:=Jp h;exact GZ (vv g st s h1)
 ·simp at h
def mc (st:List UInt8×Int) (s:List UInt8):Option (List UInt8×Int):=if st.1.length+10+s.length<=140737488355328 then some (tK st s) else none
theorem yg (st:List UInt8×Int) (s:List UInt8) (h:st.1.length+10+s.length<=140737488355328):mc st s=some (tK st s):=Mg h
theorem pg (g:Nat) (st:List UInt8×Int) (s:List UInt8) (r:List UInt8×Int) (h:mc st s=some r):aC Tryz.prog 132 #[.pointer (some ⟨g,0,none⟩),.string (bsOf s)] .triv (bp g st) (fun v A' N=>v= .tuple #[]/\A'=bp g r/\N = []):=by
 unfold mc at h;split at h
 ·rename_i h1;obtain rfl:=Jp h;exact GZ (vw g st s h1)
 ·simp at h
def jx (st:I) (size:Int):Option (Bl×I):=some ((ic st size).1,(ic st size).2)
theorem Cz (st:I) (size:Int):jx st size=some ((ic st size).1,(ic st size).2):=rfl
theorem iG (g:Nat) (st:I) (size:Int) (r:Bl×I) (h:jx st size=some r):aC Tryz.prog 142 #[.pointer (some ⟨g,0,none⟩),.int .i64 size] .triv (InR g st) (fun v A' N=>v= .agg #[.bool r.1.null,.string (bsOf r.1.data)]/\A'=InR g r.2/\N = []):=by
 unfold jx at h;obtain rfl:=Jp h;exact GZ (sw g st size)
def cF (st:I)  : Option (Bl×I):=some ((gC st).1,(gC st).2)
theorem Aa (st:I)  : cF st  = some ((gC st).1,(gC st).2):=rfl
theorem eE (g:Nat) (st:I)  (r:Bl×I) (h:cF st  = some r):aC Tryz.prog 128 #[.pointer (some ⟨g,0,none⟩)] .triv (InR g st) (fun v A' N=>v= .agg #[.bool r.1.null,.string (bsOf r.1.data)]/\A'=InR g r.2/\N = []):=by
 unfold cF at h;obtain rfl:=Jp h;exact GZ (qa g st)
def qg (st:I)  : Option (List UInt8×I):=some ((Br st).1,(Br st).2)
theorem mD (g:Nat) (st:I)  (r:List UInt8×I) (h:qg st  = some r):aC Tryz.prog 86 #[.pointer (some ⟨g,0,none⟩)] .triv (InR g st) (fun v A' N=>v= .string (bsOf r.1)/\A'=InR g r.2/\N = []):=by
 unfold qg at h;obtain rfl:=Jp h;exact GZ (z3 g st)
def tS (st:I)  : Option (List UInt8×I):=some ((Bt st).1,(Bt st).2)
theorem tT (g:Nat) (st:I)  (r:List UInt8×I) (h:tS st  = some r):aC Tryz.prog 125 #[.pointer (some ⟨g,0,none⟩)] .triv (InR g st) (fun v A' N=>v= .string (bsOf r.1)/\A'=InR g r.2/\N = []):=by
 unfold tS at h;obtain rfl:=Jp h;exact GZ (z4 g st)
def lF  (s:List UInt8):Option (Bool):=some (eD s)
theorem mE  (s:List UInt8):lF  s=some (eD s):=rfl
theorem kE (s:List UInt8) (r:Bool) (h:lF  s=some r) (w:World):Calls Tryz.prog 87 #[.string (bsOf s)] w fun e w'=>e= .returned (.bool r)/\w=w':=by
 unfold lF at h;obtain rfl:=Jp h;exact z6 s w
inductive Lp (R S:Type) where
 | ret (r:R)
 | go (s:S)
section
variable {α:Type}
def gJ (size:Nat) (E:Rd α) (w:World) (S:Nat->Prop):List Value->List α->Prop
 | cs,[]=>cs = []
 | cs,x::xs=>(cs.take size).length=size/\E.P w S (cs.take size) x/\gJ size E w S (cs.drop size) xs
variable {size:Nat} {E:Rd α} {w w':World} {S S':Nat->Prop}
theorem mF: ∀ {xs:List α} {cs:List Value},gJ size E w S cs xs->(∀ k,S k->S' k)->gJ size E w S' cs xs
 | [],_,h,_=>h
 | _ :: _,_,⟨h0,h1,h2⟩,k=>⟨h0,E.mono h1 k,mF h2 k⟩
theorem jy: ∀ {xs:List α} {cs:List Value},gJ size E w S cs xs->(∀ k,S k->w'.heap[k]? = w.heap[k]?)->gJ size E w' S cs xs
 | [],_,h,_=>h
 | _ :: _,_,⟨h0,h1,h2⟩,k=>⟨h0,E.move h1 k,jy h2 k⟩
theorem mG: ∀ {xs:List α} {cs:List Value},gJ size E w S cs xs->cs.length=xs.length*size
 | [],cs,h=>by simp[show cs = [] from h]
 | x::xs,cs,⟨h0,_,h2⟩=>by
  have h3:=mG h2;rw[Kw] at h0;rw[JA] at h3;rw[Jz,Nat.add_mul,Nat.one_mul];omega
theorem pu: ∀ {xs:List α} {cs news:List Value} {x:α},gJ size E w S cs xs->news.length=size->E.P w S news x->gJ size E w S (cs++news) (xs ++ [x])
 | [],cs,news,x,h,hl,hx=>by
  obtain rfl:cs = []:=h;exact⟨by simp[hl],by rw[JI,List.take_of_length_le Mc]; exact hx,by rw[JI,List.drop_of_length_le Mc]; exact rfl⟩
 | y::ys,cs,news,x,⟨h0,h1,h2⟩,hl,hx=>by
  have hle:size<=cs.length:=by rw[Kw] at h0; omega
  refine⟨?_,?_,?_⟩
  ·rw[List.take_append_of_le_length hle]; exact h0
  ·rw[List.take_append_of_le_length hle]; exact h1
  ·rw[List.drop_append_of_le_length hle]; exact pu h2 hl hx
theorem vV: ∀ {xs:List α} {cs:List Value} {i:Nat} {x:α},gJ size E w S cs xs->xs[i]? = some x->((cs.drop (i*size)).take size).length=size/\E.P w S ((cs.drop (i*size)).take size) x
 | [],_,i,_,_,hi=>by simp at hi
 | y::ys,cs,0,x,⟨h0,h1,_⟩,hi=>by
  obtain rfl:y=x:=by simpa using hi
  rw[Nat.zero_mul,List.drop_zero];exact⟨h0,h1⟩
 | y::ys,cs,i+1,x,⟨_,_,h2⟩,hi=>by
  have h3:=vV (i:=i) h2 (by simpa using hi);rw[Kf] at h3
  rwa [show size+i*size=(i+1)*size by rw[Nat.add_mul]; omega] at h3
def ci (T:TypeId) (size:Nat) (E:Rd α) (v:Value) (xs:List α):Res where
 P:=fun w G=> ∃ cells S,w.ownsRow 0 T size v xs.length cells/\gJ size E w S cells xs/\(∀ k,S k->k<w.heap.size)/\(∀ k,v.ownBlock=some k-> ¬ S k)/\ ∀ k,G k↔v.ownBlock=some k\/S k
 lt:=by
  rintro w G ⟨cells,S,h1,h2,h3,h4,h5⟩ k hk;rcases (h5 k).1 hk with h | h
  ·exact wV h1 k h
  ·exact h3 k h
 move:=by
  rintro w w' G ⟨cells,S,h1,h2,h3,h4,h5⟩ hm;refine⟨cells,S,pV h1 (fun k hk=>hm k ((h5 k).2 (.inl hk))),jy h2 (fun k hk=>hm k ((h5 k).2 (.inr hk))),fun k hk=> ?_,h4,h5⟩;have h6:=h3 k hk;have h7:=hm k ((h5 k).2 (.inr hk));rw[Array.getElem?_eq_getElem h6] at h7;exact (Array.getElem?_eq_some_iff.1 h7).1
theorem dG {T:TypeId} {v:Value} {xs:List α} (hp:0<size): ∀ w G,(ci T size E v xs).P w G->(RX.of (ai size E) [v] xs).P w G:=by
 rintro w G ⟨cells,S,h1,h2,h3,h4,h5⟩;have hb:=h1;rcases h1.2 with⟨rfl,hn⟩ | ⟨g,cap,cur,rfl,hbg,hg,hnc,hcm,hcs,htake⟩
 ·exact .inl ⟨rfl,List.eq_nil_of_length_eq_zero hn⟩
 ·refine .inr ⟨⟨g,0,none⟩,cap,rfl,hnc,hcm,fun _=>(h5 g).2 (.inl rfl),fun i x hx=> ?_⟩;obtain⟨k1,k2⟩:=vV h2 hx;have hi:i<xs.length:=(Jt hx).1;refine⟨_,k1,fun j hj=> ?_,E.mono k2 (fun k hk=>(h5 k).2 (.inr hk))⟩;have hadd:(⟨g,0,none⟩:Addr).add (i*size+j)=⟨g,i*size+j,none⟩:=by unfold Addr.add; split <;> simp_all
  have hlt:i*size+j<xs.length*size:=by
   have:(i+1)*size<=xs.length*size:=Nat.mul_le_mul_right _ Mc;rw[Nat.add_mul] at this;omega
  rw[hadd,hb.cellAt _ hlt,List.getElem?_take,Mg hj,List.getElem?_drop]
theorem tU {cs:List Value} {a:α}: ∀ w G,(RdR E cs a).P w G->(RX.of E cs a).P w G:=fun _ _ h=>h.1
theorem G4 {F:Nat->Prop} {A:Option Addr} {n c i:Nat} {l:List α} {x:α} (hp:0<size) (h:(RX.of (ai size E) [.slice A n c] l).reads w F) (hx:l[i]? = some x) :
 ∃ g o:Nat,A=some ⟨g,o,none⟩/\ ∃ cs,cs.length=size/\(∀ j,j<size->w.cell? ⟨g,o+i*size+j,none⟩=cs[j]?)/\(¬ F g/\g<w.heap.size)/\(RX.of E cs x).reads w F:=by
 obtain⟨S,h,hS⟩:=h;rcases h with⟨h,rfl⟩ | ⟨a,cap,h,_,_,hb,h2⟩
 ·simp at hx
 ·injection h with h;injection h with h3 h4 h5;subst h3;have hl:0<l.length:=by have:=(Jt hx).1; omega
  obtain⟨cs0,k1,k2,_⟩:=h2 0 l[0] (List.getElem?_eq_getElem hl);have k3:=k2 0 hp;rw[List.getElem?_eq_getElem Mc] at k3;have k4:a.add (0*size+0)=a:=by simp[Addr.add]
  rw[k4] at k3;have k5:=rf k3;obtain⟨cs,k6,k7,k8⟩:=h2 i x hx;refine⟨a.block,a.off,by rw[<- k5],cs,k6,fun j hj=> ?_,hS _ (hb hl),S,k8,hS⟩;rw[<- k7 j hj,k5,WideShapes.add_plain,Nat.add_assoc]
theorem RX.elem' {F:Nat->Prop} {g o n c i:Nat} {l:List α} {x:α} (hp:0<size) (h:(RX.of (ai size E) [.slice (some ⟨g,o,none⟩) n c] l).reads w F) (hx:l[i]? = some x) :
 ∃ cs,cs.length=size/\(∀ j,j<size->w.cell? ⟨g,o+i*size+j,none⟩=cs[j]?)/\(¬ F g/\g<w.heap.size)/\(RX.of E cs x).reads w F:=by
 obtain⟨g',o',h1,cs,h2⟩:=G4 hp h hx;injection h1 with h1;injection h1 with h3 h4;subst h3 h4;exact⟨cs,h2⟩
theorem Ha {F:Nat->Prop} {A:Option Addr} {n c:Nat} {l:List α} (h:(RX.of (ai size E) [.slice A n c] l).reads w F):l.length<=9223372036854775807:=by
 obtain⟨S,h,hS⟩:=h;rcases h with⟨h,rfl⟩ | ⟨a,cap,h,h1,h2,_⟩
 ·simp
 ·have:maxLen=9223372036854775807:=rfl;omega
theorem St.old2 {F0:Nat->Prop} {w wr:World} {Rs:List Res} {v:Option Value} {g o:Nat} (h:St F0 w Rs wr) (hb: ¬ F0 g/\g<w.heap.size) (hc:w.cell? ⟨g,o,none⟩=v):wr.cell? ⟨g,o,none⟩=v:=by
 rw[<- hc];have e:=h.fr.block g hb.2 hb.1;simp only[World.cell?,e]
theorem bz {l:List α} {k:Nat} {x:α} (h:l[k]? = some x):l.drop k=x::l.drop (k+1):=by
 obtain⟨hk,rfl⟩:=Jt h;exact List.drop_eq_getElem_cons hk
theorem RdR.nil {F0:Nat->Prop} {w0:World} {Rs:List Res} (size:Nat) (E:Rd α) (h:St F0 w0 Rs w):St F0 w0 (RdR (ai size E) [.slice none 0 0] []::Rs) w :=
 h.grow (Ns := [RdR (ai size E) [.slice none 0 0] []]) (Fr.refl _ _) ⟨fun _=>False,⟨.inl ⟨rfl,rfl⟩,fun _ h=>h.elim⟩,fun _ h=>h.elim,trivial⟩
theorem ci.shut {F0:Nat->Prop} {w0:World} {Rs:List Res} {T:TypeId} {v:Value} {xs:List α} (hp:0<size) (i:Nat) (h:St F0 w0 Rs w) (hi:Rs[i]? = some (ci T size E v xs)):St F0 w0 (Rs.set i (RdR (ai size E) [v] xs)) w :=
 h.weaken i hi (fun G hG=>⟨dG hp _ _ hG,fun k hk=>(ci T size E v xs).lt hG k hk⟩)
section
variable {F0:Nat->Prop} {w0 w1:World} {Rs:List Res} {T:TypeId} {v v1:Value} {xs:List α} {B:Res}
theorem ci.nil (T:TypeId) (size:Nat) (E:Rd α) (h:St F0 w0 Rs w):St F0 w0 (ci T size E (.slice none 0 0) []::Rs) w :=
 h.grow (Ns := [ci T size E (.slice none 0 0) []]) (Fr.refl _ _) ⟨fun _=>False,⟨[],fun _=>False,World.ownsRow_nil _ _ _ _,rfl,fun _ h=>h.elim,fun _ _ h=>h,fun k=>by simp[Value.ownBlock]⟩,fun _ h=>h.elim,trivial⟩
theorem ci.open_ (i:Nat) (h:St F0 w0 Rs w) (hi:Rs[i]? = some (ci T size E v xs)) :
 ∃ cells,w.ownsRow 0 T size v xs.length cells/\ ∀ v1 w1 news x,w1.ownsRow 0 T size v1 (xs.length+1) (cells++news)->w.grownBy w1 v.ownBlock->(v1.ownBlock=v.ownBlock\/ ∃ k,v1.ownBlock=some k/\w.heap.size<=k)->news.length=size ->
  (∀ w S,E.P w S news x)->St F0 w0 (Rs.set i (ci T size E v1 (xs ++ [x]))) w1:=by
 obtain⟨f,hs⟩:=h;obtain⟨G,⟨cells,S,h1,h2,h3,h4,h5⟩,hG,hr⟩:=Sep.pick i hi hs;refine⟨cells,h1,fun v1 w1 news x ho hg hat hl hx=> ?_⟩;have hst:St F0 w0 Rs w:=⟨f,hs⟩;have hne: ∀ k,S k->k<w.heap.size/\some k≠v.ownBlock:=fun k hk=>⟨h3 k hk,fun e=>h4 k e.symm hk⟩;have hS1:gJ size E w1 S cells xs:=jy h2 (fun k hk=>hg.block k (hne k hk).1 (hne k hk).2);have hle:=hg.size;have f2:Fr G w w1:=Ik hg (fun k hk=>(h5 k).2 (.inl hk));refine⟨f.trans f2 hG,?_⟩;have hfs:=f.size;have hR:Sep (Rs.eraseIdx i) w1 (fun k=>((F0 k\/w0.heap.size<=k)/\ ¬ G k)/\k<w.heap.size):=hr.inside.move (fun k hk _=>f2.block k hk.2 hk.1.2);refine Sep.back (G:=fun k=>v1.ownBlock=some k\/S k) i hi ⟨cells++news,S,?_,pu hS1 hl (hx _ _),fun k hk=>Nat.lt_of_lt_of_le (h3 k hk) hle,?_,fun _=>Iff.rfl⟩ ?_ (hR.mono (fun k hk=>⟨hk.1.1,?_⟩))
 ·rw[Js]; exact ho
 ·intro k hk;rcases hat with e | ⟨k',e,hk'⟩
  ·rw[e] at hk; exact h4 k hk
  ·rw[e] at hk;injection hk with hk;subst hk;intro hs';have:=h3 _ hs';omega
 ·rintro k (hk | hk)
  ·rcases hat with e | ⟨k',e,hk'⟩
   ·rw[e] at hk; exact hG k ((h5 k).2 (.inl hk))
   ·rw[e] at hk;injection hk with hk;subst hk;exact .inr Mc
  ·exact hG k ((h5 k).2 (.inr hk))
 ·rintro (h6 | h6)
  ·rcases hat with e | ⟨k',e,hk'⟩
   ·rw[e] at h6; exact hk.1.2 ((h5 k).2 (.inl h6))
   ·rw[e] at h6;injection h6 with h6;subst h6;have:=hk.2;omega
  ·exact hk.1.2 ((h5 k).2 (.inr h6))
theorem ci.open2 (i j:Nat) (h:St F0 w0 Rs w) (hi:Rs[i]? = some (ci T size E v xs)) (hj:(Rs.eraseIdx i)[j]? = some B) :
 ∃ cells,w.ownsRow 0 T size v xs.length cells/\ ∀ v1 w1 news x,w1.ownsRow 0 T size v1 (xs.length+1) (cells++news)->w.grownBy w1 v.ownBlock->(v1.ownBlock=v.ownBlock\/ ∃ k,v1.ownBlock=some k/\w.heap.size<=k)->news.length=size ->
  (∀ w G,B.P w G->E.P w G news x)->St F0 w0 (ci T size E v1 (xs ++ [x])::(Rs.eraseIdx i).eraseIdx j) w1:=by
 obtain⟨f,hs⟩:=h;obtain⟨G,⟨cells,S,h1,h2,h3,h4,h5⟩,hG,hr⟩:=Sep.pick i hi hs;obtain⟨H,hB,hH,hr2⟩:=Sep.pick j hj hr;refine⟨cells,h1,fun v1 w1 news x ho hg hat hl hx=> ?_⟩;have hne: ∀ k,S k->k<w.heap.size/\some k≠v.ownBlock:=fun k hk=>⟨h3 k hk,fun e=>h4 k e.symm hk⟩;have hS1:gJ size E w1 S cells xs:=jy h2 (fun k hk=>hg.block k (hne k hk).1 (hne k hk).2);have hle:=hg.size;have f2:Fr G w w1:=Ik hg (fun k hk=>(h5 k).2 (.inl hk));have hfs:=f.size;have hB1:B.P w1 H:=B.move hB (fun k hk=>f2.block k (B.lt hB k hk) (hH k hk).2);refine⟨f.trans f2 hG,?_⟩;have hR:Sep ((Rs.eraseIdx i).eraseIdx j) w1 (fun k=>(((F0 k\/w0.heap.size<=k)/\ ¬ G k)/\ ¬ H k)/\k<w.heap.size):=hr2.inside.move (fun k hk _=>f2.block k hk.2 hk.1.1.2);have hlt1:=B.lt hB;refine⟨fun k=>v1.ownBlock=some k\/(S k\/H k),⟨cells++news,fun k=>S k\/H k,?_,pu (mF hS1 (fun _ h=> .inl h)) hl (E.mono (hx _ _ hB1) (fun _ h=> .inr h)),?_,?_,fun _=>Iff.rfl⟩,?_,hR.mono (fun k hk=>⟨hk.1.1.1,?_⟩)⟩
 ·rw[Js]; exact ho
 ·rintro k (hk | hk)
  ·exact Nat.lt_of_lt_of_le (h3 k hk) hle
  ·exact Nat.lt_of_lt_of_le (hlt1 k hk) hle
 ·intro k hk;rcases hat with e | ⟨k',e,hk'⟩
  ·rw[e] at hk;rintro (h6 | h6)
   ·exact h4 k hk h6
   ·exact (hH k h6).2 ((h5 k).2 (.inl hk))
  ·rw[e] at hk;injection hk with hk;subst hk;rintro (h6 | h6)
   ·have:=h3 _ h6; omega
   ·have:=hlt1 _ h6; omega
 ·rintro k (hk | hk | hk)
  ·rcases hat with e | ⟨k',e,hk'⟩
   ·rw[e] at hk; exact hG k ((h5 k).2 (.inl hk))
   ·rw[e] at hk;injection hk with hk;subst hk;exact .inr Mc
  ·exact hG k ((h5 k).2 (.inr hk))
  ·exact (hH k hk).1
 ·rintro (h6 | h6 | h6)
  ·rcases hat with e | ⟨k',e,hk'⟩
   ·rw[e] at h6; exact hk.1.1.2 ((h5 k).2 (.inl h6))
   ·rw[e] at h6;injection h6 with h6;subst h6;have:=hk.2;omega
  ·exact hk.1.1.2 ((h5 k).2 (.inr h6))
  ·exact hk.1.2 h6
end
end
section
variable {P:Program} (w:World)
end
abbrev Env:=List (Nat×Value)
def Env.get:Env->Nat->Option Value
 | [],_=>none
 | (k,v)::e,t=>match Nat.beq k t with | true=>some v | false=>Env.get e t
def Env.ev (e:Env):Operand->Option Value
 | .tmp t=>e.get t
 | .const v=>some v
 | .func f=>some (.func (.func f) #[] #[])
 | .global g=>some (.pointer (some ⟨g,0,none⟩))
def Env.evs (e:Env):List Operand->Option (List Value)
 | []=>some []
 | x::xs=>match e.ev x with
  | some v=>match Env.evs e xs with
   | some vs=>some (v::vs)
   | none=>none
  | none=>none
structure Has (n:Nat) (e:Env) (a:Act):Prop where
 df:a.defers = []
 sz:a.tmps.size=n
 at_: ∀ t v,e.get t=some v->a.tmps[t]? = some v
section
variable {n:Nat} {e e':Env} {a:Act} {v:Value} {vs:List Value} {x:Operand} {xs:List Operand} {d:Nat}
theorem Has.put (h:Has n e a) (hd:Nat.blt d n=true):Has n ((d,v)::e) (a.put (some d) v):=by
 have hd':d<n:=by simpa [Nat.blt_eq] using hd
 refine⟨h.df,by simp[Act.put,h.sz],fun t u hu=> ?_⟩;simp only[Env.get] at hu
 cases hb:Nat.beq d t with
 | true =>
  rw[hb] at hu;obtain rfl:=Nat.eq_of_beq_eq_true hb;injection hu with hu;subst hu;simp[Act.put,h.sz,hd']
 | false =>
  rw[hb] at hu;have hne:d≠t:=Nat.ne_of_beq_eq_false hb;have h2:=h.at_ t u hu;simp only[Act.put];rw[Array.getElem?_setIfInBounds_ne hne];exact h2
theorem Has.put0 (h:Has n e a):Has n e (a.put none v):=h
theorem Has.ev (h:Has n e a) (hx:e.ev x=some v):a.eval x=v:=by
 cases x with
 | tmp t =>
  have:=h.at_ t v hx;simp[Act.eval,this]
 | const u=>simpa [Env.ev,Act.eval] using hx
 | func f=>simpa [Env.ev,Act.eval] using hx
 | global g=>simpa [Env.ev,Act.eval] using hx
theorem Has.evs (h:Has n e a): ∀ {xs:List Operand} {vs:List Value},e.evs xs=some vs->xs.map a.eval=vs
 | [],vs,hx=>by simpa [Env.evs] using hx
 | x::xs,vs,hx=>by
  simp only[Env.evs] at hx
  cases h1:e.ev x with
  | none=>rw[h1] at hx; cases hx
  | some u =>
   cases h2:e.evs xs with
   | none=>rw[h1,h2] at hx; cases hx
   | some us =>
    rw[h1,h2] at hx;injection hx with hx;subst hx;simp[h.ev h1,h.evs h2]
theorem Has.sub (h:Has n e a) (hs: ∀ t v,Env.get e' t=some v->e.get t=some v):Has n e' a:=⟨h.df,h.sz,fun t v hv=>h.at_ t v (hs t v hv)⟩
end
def Env.gets (e:Env):List Nat->Option (List Value)
 | []=>some []
 | t::ts=>match e.get t with
  | some v=>match Env.gets e ts with
   | some vs=>some (v::vs)
   | none=>none
  | none=>none
def Env.ks:Env->List Nat
 | [] => []
 | (t,_)::r=>t::Env.ks r
def Env.vs:Env->List Value
 | [] => []
 | (_,v)::r=>v::Env.vs r
def Sub (e' e:Env):Prop:=e.gets e'.ks=some e'.vs
theorem Sub.get: ∀ {e' e:Env},Sub e' e-> ∀ t v,Env.get e' t=some v->e.get t=some v
 | [],_,_,t,v,h=>by simp[Env.get] at h
 | (k,u)::r,e,hs,t,v,h=>by
  simp only[Sub,Env.ks,Env.vs,Env.gets] at hs
  cases h1:e.get k with
  | none=>rw[h1] at hs; cases hs
  | some u' =>
   cases h2:e.gets (Env.ks r) with
   | none=>rw[h1,h2] at hs; cases hs
   | some us =>
    rw[h1,h2] at hs;injection hs with hs;injection hs with hs1 hs2;subst hs1 hs2;simp only[Env.get] at h
    cases hb:Nat.beq k t with
    | true =>
     rw[hb] at h;obtain rfl:=Nat.eq_of_beq_eq_true hb;injection h with h;subst h;exact h1
    | false =>
     rw[hb] at h;exact Sub.get (e':=r) h2 t v h
def selR:List Res->List Nat->Option (List Res)
 | _,[]=>some []
 | Rs,i::is=>match Rs[i]? with
  | some A=>match selR (Rs.eraseIdx i) is with
   | some l=>some (A::l)
   | none=>none
  | none=>none
def Sel (Rs:List Res) (is:List Nat) (l:List Res):Prop:=selR Rs is=some l
theorem Sel.sep: ∀ {is:List Nat} {Rs l:List Res} {w:World} {F:Nat->Prop},Sel Rs is l->Sep Rs w F->Sep l w F
 | [],Rs,l,w,F,h,hs=>by
  injection h with h;subst h;exact trivial
 | i::is,Rs,l,w,F,h,hs=>by
  simp only[Sel,selR] at h
  cases h1:Rs[i]? with
  | none=>rw[h1] at h; cases h
  | some A =>
   cases h2:selR (Rs.eraseIdx i) is with
   | none=>rw[h1,h2] at h; cases h
   | some l' =>
    rw[h1,h2] at h;injection h with h;subst h;obtain⟨G,k1,k2,k3⟩:=Sep.pick i h1 hs;exact⟨G,k1,k2,Sel.sep h2 k3⟩
theorem St.sel {F0:Nat->Prop} {w0 w:World} {Rs l:List Res} (is:List Nat) (h:St F0 w0 Rs w) (hl:Sel Rs is l):St F0 w0 l w:=⟨h.fr,hl.sep h.sep⟩
section
variable (P:Program) (n:Nat) (F0:Nat->Prop) (w0:World)
def Ex (e:Env) (S:World->Prop) (o:Oper) (v:Value):Prop:= ∀ a w,Has n e a->S w->(execOp a.eval o).run P w= .ok (.value v) w
def T (e:Env) (Rs:List Res) (c:Code) (Q:Exit->Act->World->Prop):Prop:= ∀ a w,Has n e a->St F0 w0 Rs w->c.wp P Q a w
def X (e:Env) (Rs:List Res) (x:Exit) (Q:Exit->Act->World->Prop):Prop:= ∀ a w,Has n e a->St F0 w0 Rs w->Q x a w
def TL (ops:Array Oper) (l:List Nat) (e:Env) (Rs:List Res) (Q:Exit->Act->World->Prop):Prop:= ∀ a w,Has n e a->St F0 w0 Rs w->wpOps P ops Q l a w
def Ef (e:Env) (Rs:List Res) (o:Oper) (R:Env->List Res->Prop):Prop :=
 ∀ a w K Q,Has n e a->St F0 w0 Rs w->(∀ e' Rs',R e' Rs'-> ∀ a' w',Has n e' a'->St F0 w0 Rs' w'->K a' w')->o.wp P a w K Q
def Wd (ops:Array Oper) (e:Env) (o:Oper) (b:Bool):Prop:= ∀ a,Has n e a->Region.wanted o (yielded ops a.tmps)=b
end
section
variable {P:Program} {n:Nat} {F0:Nat->Prop} {w0:World} {e e':Env} {Rs Rs':List Res} {Q:Exit->Act->World->Prop} {ops:Array Oper} {o:Oper} {v:Value} {l:List Nat}
theorem Wd.u {d:Option Tmp} {op:Op} {ty:TypeId} {pos:String} {af:Array Edge}:Wd n ops e ⟨d,op,ty,pos,af,none⟩ true:=fun _ _=>rfl
theorem Wd.g {d:Option Tmp} {op:Op} {ty:TypeId} {pos:String} {af:Array Edge} {j t:Nat} {b want:Bool} (hj:(ops[j]?).bind (·.dst)=some t) (hv:e.get t=some (.bool b)) (hb:b=want) :
 Wd n ops e ⟨d,op,ty,pos,af,some (j,want)⟩ true:=by
 intro a h;subst hb;simp only[Region.wanted,yielded,hj,Jo,h.at_ t _ hv,beq_self_eq_true]
theorem Wd.gn {d:Option Tmp} {op:Op} {ty:TypeId} {pos:String} {af:Array Edge} {j t:Nat} {b want:Bool} (hj:(ops[j]?).bind (·.dst)=some t) (hv:e.get t=some (.bool b)) (hb:b= !want) :
 Wd n ops e ⟨d,op,ty,pos,af,some (j,want)⟩ false:=by
 intro a h;subst hb;simp only[Region.wanted,yielded,hj,Jo,h.at_ t _ hv];cases want <;> rfl
theorem yh {o:Oper} {v:Value} {a:Act} {w:World} {K:Act->World->Prop} {S:World->Prop} (hx:Ex P n e S o v) (ha:Has n e a) (hw:S w) (hk:K (a.put o.dst v) w):o.wp P a w K Q:=by
 unfold Oper.wp;rw[hx a w ha hw];exact hk
theorem TL.nil (h:X n F0 w0 e Rs .normal Q):TL P n F0 w0 ops [] e Rs Q:=fun a w ha hw=>h a w ha hw
theorem TL.q {i d:Nat} {op:Op} {ty:TypeId} {pos:String} {af:Array Edge} {g:Option (Nat×Bool)} (ho:ops[i]? = some ⟨some d,op,ty,pos,af,g⟩) (hw:Wd n ops e ⟨some d,op,ty,pos,af,g⟩ true)
 (hx:Ex P n e (St F0 w0 Rs) ⟨some d,op,ty,pos,af,g⟩ v) (hd:Nat.blt d n=true) (h:TL P n F0 w0 ops l ((d,v)::e) Rs Q):TL P n F0 w0 ops (i::l) e Rs Q:=by
 intro a w ha hs;rw[wpOps_cons,wpOp,ho];simp only[hw a ha,if_true];exact .inl (yh hx ha hs (h _ _ (ha.put hd) hs))
theorem TL.no {i d:Nat} {op:Op} {ty:TypeId} {pos:String} {af:Array Edge} {g:Option (Nat×Bool)} (ho:ops[i]? = some ⟨some d,op,ty,pos,af,g⟩) (hw:Wd n ops e ⟨some d,op,ty,pos,af,g⟩ false)
 (hd:Nat.blt d n=true) (h:TL P n F0 w0 ops l ((d,undef)::e) Rs Q):TL P n F0 w0 ops (i::l) e Rs Q:=by
 intro a w ha hs;rw[wpOps_cons,wpOp,ho];simp only[hw a ha];exact h _ _ (ha.put hd) hs
theorem TL.no0 {i:Nat} {op:Op} {ty:TypeId} {pos:String} {af:Array Edge} {g:Option (Nat×Bool)} (ho:ops[i]? = some ⟨none,op,ty,pos,af,g⟩) (hw:Wd n ops e ⟨none,op,ty,pos,af,g⟩ false)
 (h:TL P n F0 w0 ops l e Rs Q):TL P n F0 w0 ops (i::l) e Rs Q:=by
 intro a w ha hs;rw[wpOps_cons,wpOp,ho];simp only[hw a ha];exact h _ _ ha hs
theorem H9 {i:Nat} {R:Env->List Res->Prop} (ho:ops[i]? = some o) (hw:Wd n ops e o true) (hx:Ef P n F0 w0 e Rs o R) (h: ∀ e' Rs',R e' Rs'->TL P n F0 w0 ops l e' Rs' Q):TL P n F0 w0 ops (i::l) e Rs Q:=by
 intro a w ha hs;rw[wpOps_cons,wpOp,ho];simp only[hw a ha,if_true];exact .inl (hx a w _ _ ha hs (fun e' Rs' hr a' w' ha' hs'=>h e' Rs' hr a' w' ha' hs'))
theorem T.region {id:Nat} {os:List Oper} (hl:List.range os.toArray.size=l) (h:TL P n F0 w0 os.toArray l e Rs Q):T P n F0 w0 e Rs (.region id os.toArray false) Q:=fun a w ha hs=>wp_region (hl ▸ h a w ha hs)
theorem T.seq {x y:Code} (h:T P n F0 w0 e Rs x (Exit.then (y.wp P Q) Q)):T P n F0 w0 e Rs (.seq x y) Q:=fun a w ha hs=>wp_seq (h a w ha hs)
theorem T.skip (h:X n F0 w0 e Rs .normal Q):T P n F0 w0 e Rs .skip Q:=fun a w ha hs=>wp_skip (h a w ha hs)
theorem T.ret (h:X n F0 w0 e Rs .ret Q):T P n F0 w0 e Rs .ret Q:=fun a w ha hs=>wp_ret (h a w ha hs)
theorem T.exit {i:Nat} (h:X n F0 w0 e Rs (.exit i) Q):T P n F0 w0 e Rs (.exit i) Q:=fun a w ha hs=>wp_exit (h a w ha hs)
theorem GF {c:Operand} {x y:Code} {b:Bool} (hc:e.ev c=some (.bool b)) (hb:b=true) (h:T P n F0 w0 e Rs x Q):T P n F0 w0 e Rs (.cond c x y) Q:=fun a w ha hs=>wp_cond_true (by rw[ha.ev hc,hb]) (h a w ha hs)
theorem GU {c:Operand} {x y:Code} {b:Bool} (hc:e.ev c=some (.bool b)) (hb:b=false) (h:T P n F0 w0 e Rs y Q):T P n F0 w0 e Rs (.cond c x y) Q:=fun a w ha hs=>wp_cond_false (by rw[ha.ev hc,hb]) (h a w ha hs)
theorem T.block {id:Nat} {c:Code} (h:T P n F0 w0 e Rs c (Exit.inBlock id Q)):T P n F0 w0 e Rs (.block id c) Q:=fun a w ha hs=>wp_block (h a w ha hs)
theorem T.loop {c:Code} (I:Nat->Env->List Res->Prop) (m:Nat) (h0:I m e Rs) (h: ∀ m e Rs,I m e Rs->T P n F0 w0 e Rs c (Exit.then (fun a w=> ∃ m' e' Rs',m'<m/\I m' e' Rs'/\Has n e' a/\St F0 w0 Rs' w) Q)):T P n F0 w0 e Rs (.loop c) Q:=by
 intro a w ha hs b k cs;have key: ∀ m e Rs a w,I m e Rs->Has n e a->St F0 w0 Rs w-> ∃ x a' w',Q x a' w'/\Arrives P (lone (b.at a (.code c :: .inLoop c::k)) cs w) b k cs x a' w':=by
  intro m
  induction m using Nat.strongRecOn with
  | _ m ih =>
   intro e Rs a w hI ha hs;obtain⟨x,a₁,w₁,hq,harr⟩:=h m e Rs hI a w ha hs b (.inLoop c::k) cs
   cases x with
   | normal =>
    obtain⟨m',e',Rs',hlt,hI',ha',hs'⟩:=hq;obtain⟨x₂,a₂,w₂,hq₂,harr₂⟩:=ih m' hlt e' Rs' a₁ w₁ hI' ha' hs';exact⟨x₂,a₂,w₂,hq₂,.of_steps (Steps.trans harr (.one step_inLoop)) harr₂⟩
   | exit id=>exact⟨_,a₁,w₁,hq,.pass (x:= .inLoop c) rfl (fun _ _=> .inl (by simp)) harr⟩
   | goto l=>exact⟨_,a₁,w₁,hq,.pass (x:= .inLoop c) rfl (fun _ _=> .inl (by simp)) harr⟩
   | ret=>exact⟨_,a₁,w₁,hq,.pass (x:= .inLoop c) rfl (fun _ _=> .inl (by simp)) harr⟩
   | panic ch=>exact⟨_,a₁,w₁,hq,.pass (x:= .inLoop c) rfl (fun _ _=> .inl (by simp)) harr⟩
   | outgrown=>exact⟨_,a₁,w₁,hq,.pass (x:= .inLoop c) rfl (fun _ _=> .inl (by simp)) harr⟩
 obtain⟨x,a',w',hq,harr⟩:=key m e Rs a w h0 ha hs;exact⟨x,a',w',hq,.of_steps (.one step_loop) harr⟩
theorem Hl {c:Code} (I:Nat->Env->List Res->Prop) (m:Nat) {e0:Env} {Rs0:List Res} (is:List Nat) (h0:I m e0 Rs0) (he:Sub e0 e) (hr:Sel Rs is Rs0) (h: ∀ m e Rs,I m e Rs->T P n F0 w0 e Rs c (Exit.then (fun a w=> ∃ m' e' Rs',m'<m/\I m' e' Rs'/\Has n e' a/\St F0 w0 Rs' w) Q)):T P n F0 w0 e Rs (.loop c) Q :=
 fun a w ha hs=>T.loop I m h0 h a w (ha.sub he.get) (hs.sel is hr)
end
def NoP (Q:Exit->Act->World->Prop):Prop:= ∀ c a w,¬ Q (.panic c) a w
def DO (ops:Array Oper) (i:Nat):List Nat->List Nat->List Nat
 | [],D=>D
 | j::js,D=>DO ops i js (match ops[j]? with
  | some o=>if o.after.any (fun e=>Region.binds .any e && (Nat.beq e.on i || D.contains e.on)) then j::D else D
  | none=>D)
def Bv (ops:Array Oper) (i:Nat):List Nat:=DO ops i (List.range ops.size) []
def DP (ops:Array Oper) (listed:Array Bool) (i:Nat):Bool :=
 match ops[i]? with
 | none=>false
 | some oi=>(Bv ops i).all (fun j=> !listed.getD j true && match ops[j]? with | some o=>o.after.any (fun e=>Region.binds .any e && (Nat.beq e.on i || (Bv ops i).contains e.on)) | none=>false) &&
  (List.range ops.size).all fun j=>j == i || listed.getD j true || (Bv ops i).contains j || match ops[j]? with
   | some oj=>oi.apart ops oj
   | none=>true
inductive Sch where
 | nil
 | q (i:Nat) (s:Sch)
 | e (i:Nat) (s:Sch)
 | br (i:Nat) (s m:Sch)
def Sch.heads:Sch->List Nat
 | .e i _ => [i]
 | .br i _ m=>i::m.heads
 | _ => []
def fH (ops:Array Oper):Bool->Nat->Sch->Array Bool->Bool
 | alt,k,.nil,listed=> !alt && (k == 0) && (Region.ready .any ops listed).isEmpty
 | alt,0,_,_=>false
 | alt,k+1,.q i s,listed=> !alt && (Region.ready .any ops listed).contains i && DP ops listed i && fH ops false k s (listed.setIfInBounds i true)
 | alt,k+1,.e i s,listed=>(alt || Region.ready .any ops listed == [i]) && fH ops false k s (listed.setIfInBounds i true)
 | alt,k+1,.br i s m,listed=>(alt || Region.ready .any ops listed == i::m.heads) && fH ops false k s (listed.setIfInBounds i true) && fH ops true (k+1) m listed
def drawB (ops:Array Oper) (ord:Sch):Bool:=Region.noSelect ops && fH ops false ops.size ord (Array.replicate ops.size false)
section
variable {P:Program} {ops:Array Oper} {Q:Exit->Act->World->Prop} {S:World->Prop}
theorem vy {i:Nat} {oi:Oper} {v:Value} (D:Nat->Prop) (hi:ops[i]? = some oi) (hsel: ∀ (j:Nat) (o:Oper) cs b,ops[j]? = some o->o.op≠ .select cs b)
 (hQ: ∀ c a w,Q (.panic c) (a.put oi.dst v) w->Q (.panic c) a w) (hD: ∀ j oj,ops[j]? = some oj->D j-> ∃ e∈oj.after,Region.binds .any e=true/\(e.on=i\/D e.on)) :
 ∀ (fuel:Nat) (listed:Array Bool) (a:Act) (w:World),(∀ j,D j->listed.getD j true=false) ->
  (∀ j oj,ops[j]? = some oj->j≠i->listed.getD j true=false-> ¬ D j->oi.apart ops oj=true) ->
  i∈Region.ready .any ops listed->YieldsIf P ops S oi v a->S w ->
  wpAnyH P .any ops Q S fuel (listed.setIfInBounds i true) (a.put oi.dst v) w->wpAnyH P .any ops Q S (fuel+1) listed a w:=by
 intro fuel
 induction fuel with
 | zero =>
  intro listed a w _ _ hr hy hS H;refine⟨fun h=>(by rw[h] at hr; cases hr),fun j hj=> ?_⟩;by_cases hji:j=i
  ·subst hji; exact hy.wpOp hi hS ⟨hS,H⟩
  ·have:=ready_mono hj hji;rw[H.1] at this;cases this
 | succ fuel ih =>
  intro listed a w hun hfree hr hy hS H;refine⟨fun h=>(by rw[h] at hr; cases hr),fun j hj=> ?_⟩;by_cases hji:j=i
  ·subst hji; exact hy.wpOp hi hS ⟨hS,H⟩
  ·have h1:=H.2 j (ready_mono hj hji);obtain⟨hjun,oj,hoj,hall⟩:=mem_ready.1 hj;have hiun:=(mem_ready.1 hr).1;have hnot: ¬ D j:=fun hd=>by
    obtain⟨e,he,hb,h2⟩:=hD j oj hoj hd;have h3:=hall e he hb;rcases h2 with h2 | h2
    ·rw[h2] at h3;rcases Nat.lt_or_ge i listed.size with h' | h'
     ·simp[h'] at hiun h3; rw[hiun] at h3; cases h3
     ·simp[Array.getElem?_eq_none h'] at h3
    ·have h4:=hun _ h2;rcases Nat.lt_or_ge e.on listed.size with h' | h'
     ·simp[h'] at h4 h3; rw[h4] at h3; cases h3
     ·simp[Array.getElem?_eq_none h'] at h4
   have h2:=wpOp_putIf hoj (hfree j oj hoj hji hjun hnot) (fun cs b=>hsel i oi cs b hi) (fun cs b=>hsel j oj cs b hoj) hQ hy h1;have hun': ∀ k,D k->(listed.setIfInBounds j true).getD k true=false:=fun k hk=>by
    have hjk:j≠k:=fun e=>hnot (e ▸ hk);rw[getD_set_ne true hjk];exact hun k hk
   have hfree': ∀ k ok,ops[k]? = some ok->k≠i->(listed.setIfInBounds j true).getD k true=false-> ¬ D k->oi.apart ops ok=true:=fun k ok hk hki hu hno=>by
    refine hfree k ok hk hki ?_ hno;by_cases hjk:j=k
    ·subst hjk; exact hjun
    ·rw[getD_set_ne true hjk] at hu; exact hu
   refine wpOp_mono (fun a' w' h3=>⟨h3.2.1,ih (listed.setIfInBounds j true) a' w' hun' hfree' (ready_mono hr (Ne.symm hji)) h3.1 h3.2.1 ?_⟩) h2;rw[Array.setIfInBounds_comm _ _ hji];exact h3.2.2
theorem xa {i:Nat} {oi:Oper} {v:Value} {fuel:Nat} {listed:Array Bool} {a:Act} {w:World} (hi:ops[i]? = some oi)
 (hs:Region.noSelect ops=true) (hf:DP ops listed i=true) (hr:(Region.ready .any ops listed).contains i=true)
 (hQ: ∀ c a w,Q (.panic c) (a.put oi.dst v) w->Q (.panic c) a w) (hy:YieldsIf P ops S oi v a) (hS:S w)
 (h:wpAnyH P .any ops Q S fuel (listed.setIfInBounds i true) (a.put oi.dst v) w):wpAnyH P .any ops Q S (fuel+1) listed a w:=by
 simp only[DP,hi,Bool.and_eq_true,List.all_eq_true] at hf;obtain⟨h1,h2⟩:=hf;refine vy (fun j=>j∈Bv ops i) hi (Region.noSelect_spec hs) hQ ?_ fuel listed a w ?_ ?_ (by simpa using hr) hy hS h
 ·intro j oj hj hd;have h3:=(h1 j hd).2;simp only[hj,Array.any_eq_true] at h3;obtain⟨k,hk,h4⟩:=h3;simp only[Bool.and_eq_true,Bool.or_eq_true,List.contains_iff_mem] at h4;exact⟨_,Array.getElem_mem hk,h4.1,h4.2.imp Nat.eq_of_beq_eq_true id⟩
 ·intro j hd;simpa using (h1 j hd).1
 ·intro j oj hj hne hun hno;have hlt:j<ops.size:=(Array.getElem?_eq_some_iff.1 hj).1;have h3:=h2 j (by simpa using hlt);simp only[hj,Bool.or_eq_true,beq_iff_eq,List.contains_iff_mem] at h3;rcases h3 with ((h3 | h3) | h3) | h3
  ·exact (hne h3).elim
  ·rw[hun] at h3; cases h3
  ·exact (hno h3).elim
  ·exact h3
end
def wpO (P:Program) (ops:Array Oper) (Q:Exit->Act->World->Prop):Sch->(World->Prop)->Act->World->Prop
 | .nil,_,a,w=>Q .normal a w
 | .q i r,S,a,w=> ∃ o v,ops[i]? = some o/\YieldsIf P ops S o v a/\wpO P ops Q r S (a.put o.dst v) w
 | .e i r,S,a,w=>wpOp P ops Q i (fun a' w'=> ∃ S':World->Prop,S' w'/\(∀ w,S' w->S w)/\wpO P ops Q r S' a' w') a w
 | .br i r m,S,a,w=>wpOp P ops Q i (fun a' w'=> ∃ S':World->Prop,S' w'/\(∀ w,S' w->S w)/\wpO P ops Q r S' a' w') a w/\wpO P ops Q m S a w
section
variable {P:Program} {ops:Array Oper} {Q:Exit->Act->World->Prop}
theorem nL {S S':World->Prop} (hS: ∀ w,S' w->S w): ∀ (fuel:Nat) (listed:Array Bool) (a:Act) (w:World),wpAnyH P .any ops Q S' fuel listed a w->wpAnyH P .any ops Q S fuel listed a w
 | 0,_,_,_,h=>h
 | fuel+1,listed,a,w,h=>⟨h.1,fun i hi=>wpOp_mono (fun a' w' h'=>⟨hS _ h'.1,nL hS fuel _ a' w' h'.2⟩) (h.2 i hi)⟩
theorem md (hs:Region.noSelect ops=true) (hQ:NoP Q): ∀ (ord:Sch) (k:Nat) (S:World->Prop) (listed:Array Bool) (a:Act) (w:World),S w->wpO P ops Q ord S a w ->
 (fH ops false k ord listed=true->wpAnyH P .any ops Q S k listed a w) /\
 (∀ k',k=k'+1->fH ops true k ord listed=true-> ∀ j∈ord.heads,wpOp P ops Q j (fun a' w'=>S w'/\wpAnyH P .any ops Q S k' (listed.setIfInBounds j true) a' w') a w)
 | .nil,k,S,listed,a,w,hS,h=>by
  refine⟨fun hk=> ?_,fun k' _ hk=>by cases k <;> simp[fH] at hk⟩;have hk':k=0/\Region.ready .any ops listed = []:=by cases k <;> simp[fH] at hk <;> exact⟨rfl,hk⟩
  rw[hk'.1];exact⟨hk'.2,h⟩
 | .q i r,0,S,listed,a,w,hS,h=>⟨fun hk=>by simp[fH] at hk,fun k' e=>by omega⟩
 | .q i r,k+1,S,listed,a,w,hS,h=>by
  refine⟨fun hk=> ?_,fun k' _ hk=>by simp[fH] at hk⟩;obtain⟨o,v,ho,hy,h⟩:=h;simp only[fH,Bool.and_eq_true] at hk;obtain⟨⟨⟨_,h1⟩,h2⟩,h3⟩:=hk;exact xa ho hs h2 h1 (fun c a' w' h'=>(hQ _ _ _ h').elim) hy hS ((md hs hQ r k S _ _ _ hS h).1 h3)
 | .e i r,0,S,listed,a,w,hS,h=>⟨fun hk=>by simp[fH] at hk,fun k' e=>by omega⟩
 | .e i r,k+1,S,listed,a,w,hS,h=>by
  have key:fH ops false k r (listed.setIfInBounds i true)=true->wpOp P ops Q i (fun a' w'=>S w'/\wpAnyH P .any ops Q S k (listed.setIfInBounds i true) a' w') a w:=by
   intro h3;refine wpOp_mono ?_ h;rintro a' w' ⟨S',k1,k2,k3⟩;exact⟨k2 _ k1,nL k2 _ _ _ _ ((md hs hQ r k S' _ _ _ k1 k3).1 h3)⟩
  refine⟨fun hk=> ?_,fun k' e hk j hj=> ?_⟩
  ·simp only[fH,Bool.false_or,Bool.and_eq_true,beq_iff_eq] at hk;refine wpAnyH_all hk.1 (by simp) (fun j hj=> ?_);obtain rfl:j=i:=by simpa using hj
   exact key hk.2
  ·obtain rfl:k'=k:=by omega
   simp only[fH,Bool.true_or,Bool.true_and] at hk;obtain rfl:j=i:=by simpa [Sch.heads] using hj
   exact key hk
 | .br i r m,0,S,listed,a,w,hS,h=>⟨fun hk=>by simp[fH] at hk,fun k' e=>by omega⟩
 | .br i r m,k+1,S,listed,a,w,hS,h=>by
  have key:fH ops false k r (listed.setIfInBounds i true)=true->wpOp P ops Q i (fun a' w'=>S w'/\wpAnyH P .any ops Q S k (listed.setIfInBounds i true) a' w') a w:=by
   intro h3;refine wpOp_mono ?_ h.1;rintro a' w' ⟨S',k1,k2,k3⟩;exact⟨k2 _ k1,nL k2 _ _ _ _ ((md hs hQ r k S' _ _ _ k1 k3).1 h3)⟩
  have more:=(md hs hQ m (k+1) S listed a w hS h.2).2;refine⟨fun hk=> ?_,fun k' e hk j hj=> ?_⟩
  ·simp only[fH,Bool.false_or,Bool.and_eq_true,beq_iff_eq] at hk;refine wpAnyH_all hk.1.1 (by simp) (fun j hj=> ?_);rcases List.mem_cons.1 hj with rfl | hj
   ·exact key hk.1.2
   ·exact more k rfl hk.2 j hj
  ·obtain rfl:k'=k:=by omega
   simp only[fH,Bool.true_or,Bool.true_and,Bool.and_eq_true] at hk;rcases List.mem_cons.1 (by simpa [Sch.heads] using hj:j∈i::m.heads) with rfl | hj
   ·exact key hk.1
   ·exact more k' rfl hk.2 j hj
end
def TD (P:Program) (n:Nat) (F0:Nat->Prop) (w0:World) (ops:Array Oper) (l:Sch) (Rf:List Res) (e:Env) (Rs:List Res) (Q:Exit->Act->World->Prop):Prop :=
 ∀ a w,Has n e a->St F0 w0 Rs w->wpO P ops Q l (St F0 w0 Rf) a w
section
variable {P:Program} {n:Nat} {F0:Nat->Prop} {w0:World} {e e':Env} {Rs Rs' Rf Rf':List Res} {Q:Exit->Act->World->Prop} {ops:Array Oper} {o:Oper} {v:Value} {l:Sch}
theorem G6 {id:Nat} {os:List Oper} (ord:Sch) (is:List Nat) (hf:Sel Rs is Rf) (hm:P.follows .mixedOrders=true) (hQ:NoP Q) (hk:drawB os.toArray ord=true) (h:TD P n F0 w0 os.toArray ord Rf e Rs Q) :
 T P n F0 w0 e Rs (.region id os.toArray true) Q:=by
 intro a w ha hs;simp only[drawB,Bool.and_eq_true] at hk;obtain⟨h1,h3⟩:=hk;refine wp_region_held (S:=St F0 w0 Rf) hm ?_;have hs':=hs.drew;exact (md h1 hQ ord _ (St F0 w0 Rf) _ a _ (hs'.sel is hf) (h a _ ha hs')).1 h3
theorem TD.br {i:Nat} {r m:Sch} (h:TD P n F0 w0 ops (.e i r) Rf e Rs Q) (k:TD P n F0 w0 ops m Rf e Rs Q):TD P n F0 w0 ops (.br i r m) Rf e Rs Q:=fun a w ha hs=>⟨h a w ha hs,k a w ha hs⟩
theorem TD.nil (h:X n F0 w0 e Rs .normal Q):TD P n F0 w0 ops .nil Rf e Rs Q:=fun a w ha hw=>h a w ha hw
theorem TD.q {i d:Nat} {op:Op} {ty:TypeId} {pos:String} {af:Array Edge} {g:Option (Nat×Bool)} (ho:ops[i]? = some ⟨some d,op,ty,pos,af,g⟩) (hw:Wd n ops e ⟨some d,op,ty,pos,af,g⟩ true)
 (hx:Ex P n e (St F0 w0 Rf) ⟨some d,op,ty,pos,af,g⟩ v) (hd:Nat.blt d n=true) (h:TD P n F0 w0 ops l Rf ((d,v)::e) Rs Q):TD P n F0 w0 ops (.q i l) Rf e Rs Q :=
 fun a w ha hs=>⟨_,v,ho,.inl ⟨hw a ha,fun w' hw'=>hx a w' ha hw'⟩,h _ _ (ha.put hd) hs⟩
theorem He {i d:Nat} {op:Op} {ty:TypeId} {pos:String} {af:Array Edge} {g:Option (Nat×Bool)} (ho:ops[i]? = some ⟨some d,op,ty,pos,af,g⟩) (hw:Wd n ops e ⟨some d,op,ty,pos,af,g⟩ false)
 (hd:Nat.blt d n=true) (h:TD P n F0 w0 ops l Rf ((d,undef)::e) Rs Q):TD P n F0 w0 ops (.q i l) Rf e Rs Q :=
 fun a w ha hs=>⟨_,undef,ho,.inr ⟨hw a ha,rfl⟩,h _ _ (ha.put hd) hs⟩
theorem Il {i:Nat} {R:Env->List Res->Prop} (ho:ops[i]? = some o) (hw:Wd n ops e o true) (hx:Ef P n F0 w0 e Rs o R)
 (h: ∀ e' Rs',R e' Rs'-> ∃ Rf',(∀ w,St F0 w0 Rs' w->St F0 w0 Rf' w)/\(∀ w,St F0 w0 Rf' w->St F0 w0 Rf w)/\TD P n F0 w0 ops l Rf' e' Rs' Q):TD P n F0 w0 ops (.e i l) Rf e Rs Q:=by
 intro a w ha hs;simp only[wpO,wpOp,ho];rw[Mg (hw a ha)];refine .inl (hx a w _ _ ha hs (fun e' Rs' hr a' w' ha' hs'=> ?_));obtain⟨Rf',h1,h2,h3⟩:=h e' Rs' hr;exact⟨St F0 w0 Rf',h1 _ hs',h2,h3 a' w' ha' hs'⟩
theorem H5 {i d:Nat} {op:Op} {ty:TypeId} {pos:String} {af:Array Edge} {g:Option (Nat×Bool)} (ho:ops[i]? = some ⟨some d,op,ty,pos,af,g⟩) (hw:Wd n ops e ⟨some d,op,ty,pos,af,g⟩ false)
 (hd:Nat.blt d n=true) (is:List Nat) (hf:Sel Rs is Rf) (h:TD P n F0 w0 ops l Rf ((d,undef)::e) Rs Q):TD P n F0 w0 ops (.e i l) Rf e Rs Q:=by
 intro a w ha hs;simp only[wpO,wpOp,ho,hw a ha];exact⟨St F0 w0 Rf,hs.sel is hf,fun _ h=>h,h _ _ (ha.put hd) hs⟩
theorem Id {i d:Nat} {op:Op} {ty:TypeId} {pos:String} {af:Array Edge} {g:Option (Nat×Bool)} (ho:ops[i]? = some ⟨some d,op,ty,pos,af,g⟩) (hw:Wd n ops e ⟨some d,op,ty,pos,af,g⟩ true)
 (hx:Ex P n e (St F0 w0 Rs) ⟨some d,op,ty,pos,af,g⟩ v) (hd:Nat.blt d n=true) (is:List Nat) (hf:Sel Rs is Rf) (h:TD P n F0 w0 ops l Rf ((d,v)::e) Rs Q):TD P n F0 w0 ops (.e i l) Rf e Rs Q:=by
 intro a w ha hs;simp only[wpO,wpOp,ho];rw[Mg (hw a ha)];exact .inl (yh hx ha hs ⟨St F0 w0 Rf,hs.sel is hf,fun _ h=>h,h _ _ (ha.put hd) hs⟩)
variable {id j:Nat} {y c:Code} {K:Act->World->Prop}
theorem X.seq (h:T P n F0 w0 e Rs y Q):X n F0 w0 e Rs .normal (Exit.then (y.wp P Q) Q):=h
theorem GN (h:X n F0 w0 e Rs .normal Q):X n F0 w0 e Rs .normal (Exit.inBlock id Q):=h
theorem Hi (h:X n F0 w0 e Rs .normal Q):X n F0 w0 e Rs (.exit id) (Exit.inBlock id Q):=fun a w ha hs=>by
 show (if id=id then Q .normal a w else _);rw[Mg rfl];exact h a w ha hs
theorem Gv (h:X n F0 w0 e Rs .ret Q):X n F0 w0 e Rs .ret (Exit.then K Q):=h
theorem GI (h:X n F0 w0 e Rs .ret Q):X n F0 w0 e Rs .ret (Exit.inBlock id Q):=h
theorem GL (h:X n F0 w0 e Rs (.exit j) Q):X n F0 w0 e Rs (.exit j) (Exit.then K Q):=h
theorem X.back {I:Nat->Env->List Res->Prop} {m m':Nat} (is:List Nat) (hm:m'<m) (hI:I m' e' Rs') (he:Sub e' e) (hr:Sel Rs is Rs') :
 X n F0 w0 e Rs .normal (Exit.then (fun a w=> ∃ m' e' Rs',m'<m/\I m' e' Rs'/\Has n e' a/\St F0 w0 Rs' w) Q) :=
 fun a w ha hs=>⟨m',e',Rs',hm,hI,ha.sub he.get,hs.sel is hr⟩
def JQ (n:Nat) (F0:Nat->Prop) (w0:World) (R:Env->List Res->Prop):Exit->Act->World->Prop
 | .normal,a,w=> ∃ e Rs,R e Rs/\Has n e a/\St F0 w0 Rs w
 | _,_,_=>False
theorem tV {R:Env->List Res->Prop}:NoP (JQ n F0 w0 R):=fun _ _ _ h=>h
theorem Ix (R:Env->List Res->Prop) (h:T P n F0 w0 e Rs c (JQ n F0 w0 R)) (k: ∀ e' Rs',R e' Rs'->X n F0 w0 e' Rs' .normal Q):T P n F0 w0 e Rs c Q:=by
 intro a w ha hs;refine wp_mono (h a w ha hs) ?_;intro x a' w' hx;cases x <;> first | exact hx.elim | skip;obtain⟨e',Rs',hR,ha',hs'⟩:=hx;exact k e' Rs' hR a' w' ha' hs'
theorem Ij {R:Env->List Res->Prop} (is:List Nat) (hR:R e' Rs') (he:Sub e' e) (hr:Sel Rs is Rs'):X n F0 w0 e Rs .normal (JQ n F0 w0 R):=fun a w ha hs=>⟨e',Rs',hR,ha.sub he.get,hs.sel is hr⟩
theorem HK {α:Type} (T':TypeId) (size:Nat) (E:Rd α) (h:T P n F0 w0 e (ci T' size E (.slice none 0 0) []::Rs) c Q):T P n F0 w0 e Rs c Q:=fun a w ha hs=>h a w ha (ci.nil T' size E hs)
theorem Ht {f:Func} {R:Value->Res->List Res->Prop} {A':Res} {Ns:List Res} (is:List Nat) (hf:f.results= #[]) (hR:R (.tuple #[]) A' Ns) (hr:Sel Rs is (A'::Ns)) {x:Exit} (hx:x= .ret\/x= .normal) :
 X n F0 w0 e Rs x (bodyPost P f (pk R F0 w0)):=by
 intro a w ha hs;have h:bodyPost P f (pk R F0 w0) .ret a w:=⟨ha.df,.tuple #[],by
  rw[my,hf];simp,_,A',Ns,rfl,hR,hs.sel is hr⟩
 rcases hx with rfl | rfl <;> exact h
end
theorem NoP.seq {Q:Exit->Act->World->Prop} {K:Act->World->Prop} (h:NoP Q):NoP (Exit.then K Q):=h
theorem NoP.blk {Q:Exit->Act->World->Prop} {i:Nat} (h:NoP Q):NoP (Exit.inBlock i Q):=h
theorem bA {P:Program} {f:Func} {F0:Nat->Prop} {w0:World} {R:Value->Res->List Res->Prop}:NoP (bodyPost P f (pk R F0 w0)):=by
 rintro c a w ⟨_,v,A',Ns,h,_⟩;cases h
theorem enterX {P:Program} {f n:Nat} {fn:Func} {c:Code} {args:Array Value} {Xr:RX} {A:Res} {R:Value->Res->List Res->Prop} {e:Env} (hf:P.funcs[f]? = some fn) (hb:fn.body=some c) (hn:fn.ntmps=n)
 (hl:Nat.ble args.size n=true) (he: ∀ t v,e.get t=some v->args[t]? = some v) (h: ∀ F w,Xr.reads w F->T P n F w e [A] c (bodyPost P fn (pk R F w))):aC P f args Xr A R:=by
 intro F w hA hX;refine calls_of_wp hf hb ?_;have hl':args.size<=n:=Nat.le_of_ble_eq_true hl;refine h F w hX _ w ⟨rfl,?_,fun t v hv=> ?_⟩ (aC.start hA)
 ·simp only[Array.size_append,Array.size_replicate,hn];omega
 ·have h1:=he t v hv;have h2:=(Array.getElem?_eq_some_iff.1 h1).1;rw[Array.getElem?_append_left h2];exact h1
def vW:Nat->List Value->Env
 | _,[] => []
 | k,v::vs=>(k,v)::vW (k+1) vs
theorem ro: ∀ (vs:List Value) (k t:Nat) (v:Value),Env.get (vW k vs) t=some v->k<=t/\vs[t - k]? = some v
 | [],_,_,_,h=>by simp[vW,Env.get] at h
 | u::vs,k,t,v,h=>by
  simp only[vW,Env.get] at h
  cases hb:Nat.beq k t with
  | true =>
   rw[hb] at h;obtain rfl:=Nat.eq_of_beq_eq_true hb;exact⟨JN _,by simpa using h⟩
  | false =>
   rw[hb] at h;obtain⟨h1,h2⟩:=ro vs (k+1) t v h;refine⟨by omega,?_⟩;obtain⟨m,rfl⟩: ∃ m,t=k+1+m:=⟨t - (k+1),by omega⟩;rw[show k+1+m - k=m+1 by omega];rw[show k+1+m - (k+1)=m by omega] at h2;simpa using h2
theorem aU {P:Program} {f n:Nat} {fn:Func} {c:Code} {args:List Value} {Xr:RX} {A:Res} {R:Value->Res->List Res->Prop} (hf:P.funcs[f]? = some fn) (hb:fn.body=some c) (hn:fn.ntmps=n)
 (hl:Nat.ble args.length n=true) (h: ∀ F w,Xr.reads w F->T P n F w (vW 0 args) [A] c (bodyPost P fn (pk R F w))):aC P f args.toArray Xr A R :=
 enterX hf hb hn (by simpa using hl) (fun t v hv=>by simpa using (ro args 0 t v hv).2) h
def ksame:IntKind->IntKind->Bool
 | .i8,.i8 | .i16,.i16 | .i32,.i32 | .i64,.i64 | .u8,.u8 | .u16,.u16 | .u32,.u32 | .u64,.u64=>true
 | _,_=>false
theorem DQ {k k':IntKind} (h:ksame k k'=true):k=k':=by cases k <;> cases k' <;> first | rfl | cases h
def cmpV:BinOp->Int->Int->Option Bool
 | .eql,a,b=>some (decide (a=b))
 | .neq,a,b=>some (!decide (a=b))
 | .lss,a,b=>some (decide (a<b))
 | .leq,a,b=>some (decide (a<=b))
 | .gtr,a,b=>some (decide (a>b))
 | .geq,a,b=>some (decide (a>=b))
 | _,_,_=>none
def ey:=List (Nat×Nat×Nat)
def ey.get:ey->Nat->Nat->Option Nat
 | [],_,_=>none
 | (s,f,o)::r,s',f'=>match Nat.beq s s' with
  | true=>match Nat.beq f f' with
   | true=>some o
   | false=>ey.get r s' f'
  | false=>ey.get r s' f'
def FOK (P:Program) (s f o:Nat):Prop:= ∀ (a:Addr) (w:World),(Instr.fieldAt s (.pointer (some a)) f).run P w= .ok (.pointer (some (a.add o))) w
def ey.OK (P:Program):ey->Prop
 | []=>True
 | (s,f,o)::r=>FOK P s f o/\ey.OK P r
theorem ey.OK.get {P:Program}: ∀ {t:ey},t.OK P-> ∀ {s f o},t.get s f=some o->FOK P s f o
 | [],_,s,f,o,h=>by simp[ey.get] at h
 | (s0,f0,o0)::r,⟨h1,h2⟩,s,f,o,h=>by
  simp only[ey.get] at h
  cases hb:Nat.beq s0 s with
  | true =>
   rw[hb] at h
   cases hc:Nat.beq f0 f with
   | true =>
    rw[hc] at h;obtain rfl:=Nat.eq_of_beq_eq_true hb;obtain rfl:=Nat.eq_of_beq_eq_true hc;injection h with h;subst h;exact h1
   | false=>rw[hc] at h; exact ey.OK.get h2 h
  | false=>rw[hb] at h; exact ey.OK.get h2 h
theorem FOK.mk {P:Program} {s f:Nat} {fs:Array Field} {fl:Field} {k:Nat} (hu: ∀ w,(underlying s).run P w= .ok (.struct fs) w) (hf:fs[f]? = some fl) (hz: ∀ w,(sizeOf fl.type).run P w= .ok (k+1) w) {o:Nat} (ho:fl.offset=o):FOK P s f o:=by
 intro a w;subst ho;simp[Instr.fieldAt,hu,hf,Instr.sureAddr,fieldPlace,hz]
def yi (ft:ey) (e:Env):Op->Option Value
 | .move x=>e.ev x
 | .assign x=>e.ev x
 | .extract x i=>match e.ev x with
  | some (.tuple vs)=>vs[i]?
  | _=>none
 | .unOp .not _ x=>match e.ev x with
  | some (.bool b)=>some (.bool (!b))
  | _=>none
 | .nilCheck x=>match e.ev x with
  | some (.pointer (some a))=>some (.pointer (some a))
  | _=>none
 | .fieldAddr s x f=>match e.ev x with
  | some (.pointer (some ⟨g,o,none⟩))=>match ft.get s f with
   | some k=>some (.pointer (some ⟨g,o+k,none⟩))
   | none=>none
  | _=>none
 | .binOp op _ x y _=>match e.ev x with
  | some (.int k a)=>match e.ev y with
   | some (.int k' b)=>match ksame k k' with
    | true=>match cmpV op a b with
     | some r=>some (.bool r)
     | none=>none
    | false=>none
   | _=>none
  | _=>none
 | _=>none
theorem yj {P:Program} {w:World} {op:BinOp} {a b:Int} {r:Bool} (h:cmpV op a b=some r):(Op.intCmp op a b).run P w= .ok (.bool r) w:=by
 cases op <;> cases h <;> rfl
theorem FB {P:Program} {w:World} {op:BinOp} {k:IntKind} {a b:Int} {r:Bool} {t:TypeId} {x y:Operand} (h:cmpV op a b=some r) :
 (do eqGuard op t x y (.int k a) (.int k b); binOp op t (.int k a) (.int k b):Sem Value).run P w= .ok (.bool r) w:=by
 have h1:=yj (P:=P) (w:=w) h;cases op <;> cases h <;> simpa [eqGuard,binOp] using h1
theorem me {P:Program} {n:Nat} {ft:ey} {e:Env} {S:World->Prop} {d:Option Tmp} {op:Op} {ty:TypeId} {pos:String} {af:Array Edge} {g:Option (Nat×Bool)} {v:Value} (hft:ft.OK P) (h:yi ft e op=some v):Ex P n e S ⟨d,op,ty,pos,af,g⟩ v:=by
 intro a w ha _;unfold yi at h;split at h
 ·simp[execOp,ha.ev h]
 ·simp[execOp,ha.ev h]
 ·split at h
  ·rename_i vs hx;simp[execOp,ha.ev hx,Instr.extract,h]
  ·cases h
 ·split at h
  ·rename_i b hx;injection h with h;subst h;simp[execOp,ha.ev hx,Op.unary]
  ·cases h
 ·split at h
  ·rename_i p hx;injection h with h;subst h;simp[execOp,ha.ev hx]
  ·cases h
 ·split at h
  ·rename_i g' o' hx;split at h
   ·rename_i k hk;injection h with h;subst h;have h1:=hft.get hk ⟨g',o',none⟩ w;have h2:(⟨g',o',none⟩:Addr).add k=⟨g',o'+k,none⟩:=by unfold Addr.add; split <;> simp_all
    simp[execOp,ha.ev hx,h1,h2]
   ·cases h
  ·cases h
 ·split at h
  ·rename_i k x hx;split at h
   ·rename_i k' y hy;split at h
    ·rename_i hk;split at h
     ·rename_i r hr;injection h with h;subst h;obtain rfl:=DQ hk;have h1:=yj (P:=P) (w:=w) hr;simp only[execOp,ha.ev hx,ha.ev hy,Sem.run_bind];have h2:=fun t x y=>FB (P:=P) (w:=w) (k:=k) (t:=t) (x:=x) (y:=y) hr;simp only[Sem.run_bind] at h2;rw[h2];rfl
     ·cases h
    ·cases h
   ·cases h
  ·cases h
 ·cases h
def vz (ft:ey) (n:Nat) (ops:Array Oper):Env->List Nat->Option Env
 | e,[]=>some e
 | e,i::is=>match ops[i]? with
  | some ⟨some d,op,_,_,_,none⟩=>match Nat.blt d n with
   | true=>match yi ft e op with
    | some v=>vz ft n ops ((d,v)::e) is
    | none=>none
   | false=>none
  | _=>none
section
variable {P:Program} {n:Nat} {F0:Nat->Prop} {w0:World} {e e':Env} {Rs Rf:List Res} {Q:Exit->Act->World->Prop} {ops:Array Oper} {ft:ey}
theorem TL.run_ (hft:ft.OK P): ∀ (is:List Nat) {e e':Env} {l:List Nat},vz ft n ops e is=some e'->TL P n F0 w0 ops l e' Rs Q->TL P n F0 w0 ops (is++l) e Rs Q
 | [],e,e',l,h,k=>by
  injection h with h;subst h;exact k
 | i::is,e,e',l,h,k=>by
  unfold vz at h;split at h
  ·rename_i ho;split at h
   ·rename_i hd;split at h
    ·rename_i v hv;exact TL.q ho .u (me hft hv) hd (TL.run_ hft is h k)
    ·cases h
   ·cases h
  ·cases h
def Sch.qs:List Nat->Sch->Sch
 | [],s=>s
 | i::is,s=> .q i (Sch.qs is s)
theorem TD.run_ (hft:ft.OK P): ∀ (is:List Nat) {e e':Env} {l:Sch},vz ft n ops e is=some e'->TD P n F0 w0 ops l Rf e' Rs Q->TD P n F0 w0 ops (Sch.qs is l) Rf e Rs Q
 | [],e,e',l,h,k=>by
  injection h with h;subst h;exact k
 | i::is,e,e',l,h,k=>by
  unfold vz at h;split at h
  ·rename_i ho;split at h
   ·rename_i hd;split at h
    ·rename_i v hv;exact TD.q ho .u (me hft hv) hd (TD.run_ hft is h k)
    ·cases h
   ·cases h
  ·cases h
theorem TL.run (hft:ft.OK P) (is:List Nat) {l l':List Nat} (hl:l=is++l') (h:vz ft n ops e is=some e') (k:TL P n F0 w0 ops l' e' Rs Q):TL P n F0 w0 ops l e Rs Q:=hl ▸ TL.run_ hft is h k
theorem TD.run (hft:ft.OK P) (is:List Nat) {l l':Sch} (hl:l=Sch.qs is l') (h:vz ft n ops e is=some e') (k:TD P n F0 w0 ops l' Rf e' Rs Q):TD P n F0 w0 ops l Rf e Rs Q:=hl ▸ TD.run_ hft is h k
end
end Go.Proofs.YtheikonlgjdopaaGreat.Sl
