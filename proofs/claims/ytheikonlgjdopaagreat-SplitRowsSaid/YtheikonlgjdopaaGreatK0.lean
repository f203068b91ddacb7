/- splitRows_holds: part 0. -/
import Derived.WalkKit
import Derived.Below
import Derived.Laws.OwnMore
import Derived.Deep.Draws
import Derived.Laws.Rows
import Derived.Lib.Hide
import Derived.Lib.AppendStr
import Derived.Maps.AppendAt
import Derived.OwnWalk
import Derived.Deep.AppendLies
import Derived.Laws.BytesArg
import Derived.Deep.WholeRow
import Derived.ChangeArms
import Derived.ChangeSlices
import Derived.Deep.Slices
import Derived.OpenShut
import Derived.WideShapes
import Derived.Test.YtheikonlgjdopaaGreatProg
import Derived.KernelRfl
import Derived.Deep.QuietTactic
import Derived.BigQuiet
import Derived.LoopN
import Derived.WalkSpells
import Derived.WalkLawsBesides
import Derived.Lib.Strings
import Derived.Laws.BitsLemmas
import Derived.Scope
import Derived.ScopeJumps
import Derived.WalkMore
import Derived.Deep.Quiet
import Derived.OrdersHeld
set_option maxRecDepth 100000
set_option maxHeartbeats 4000000
set_option linter.defProp false
namespace Go.Proofs.YtheikonlgjdopaaGreat.Sl
open Go.RowKit
set_option linter.unusedVariables false
abbrev jI (n : Int) : Value := .int .i64 n
abbrev jP (n : Nat) : Value := .pointer (some ⟨n, 0, none⟩)
theorem jF {α : Sort _} {P : Prop} [Decidable P] {a b c : α} (h : (if P then a else b) = c) : (P /\ a = c) \/ (¬P /\ b = c) := by by_cases p : P; exact .inl ⟨p, (if_pos p).symm.trans h⟩; exact .inr ⟨p, (if_neg p).symm.trans h⟩
theorem QR {p : Prop} (h : p := by omega) : p := h
theorem QS {p : Prop} (h : p := by decide) : p := h
theorem QU {p : Prop} (h : p := by kernel_rfl) : p := h
theorem QW {p : Prop} (h : p := by rfl) : p := h
theorem Z {α : Sort _} {a : α} : a = a := rfl
def Nz := @Option.some.inj
def NA := @Option.bind_some
theorem ND {α : Type} {l : List α} {i : Nat} {a : α} (h : l[i]? = some a) : ∃ w : i < l.length, l[i] = a := List.getElem?_eq_some_iff.1 h
def NE := @List.length_append
def NI := @List.append_assoc
def NJ := @List.length_cons
def NO := @List.length_drop
def NU := @List.length_map
def NV := @List.nil_append
def NW := @List.append_nil
def NY := @Nat.zero_le
def N0 := @Nat.le_refl
def Of := @List.length_nil
def Om := @List.drop_drop
def On := @List.length_take
def OB := @Int.toNat_natCast
def Qr := @Tryz.ntmps144
def Qx := @Tryz.func144
def QX := @if_pos
def QY := @if_neg
structure Fr (F:Nat->Prop) (w w':World):Prop where
 os:w'.os=w.os
 tape:w'.tape=w.tape
 output:w'.output=w.output
 size:w.heap.size<=w'.heap.size
 block: ∀ k,k<w.heap.size-> ¬ F k->w'.heap[k]? = w.heap[k]?
theorem Fr.refl (F:Nat->Prop) (w:World):Fr F w w:=⟨rfl,rfl,rfl,N0 _,fun _ _ _=>rfl⟩
theorem Fr.trans {F G:Nat->Prop} {a b c:World} (h:Fr F a b) (k:Fr G b c) (hg: ∀ k,G k->F k\/a.heap.size<=k):Fr F a c :=
 ⟨k.os.trans h.os,k.tape.trans h.tape,k.output.trans h.output,Nat.le_trans h.size k.size,fun i hi hn =>
  (k.block i (Nat.lt_of_lt_of_le hi h.size) (fun h2=>(hg i h2).elim hn (fun h3=>by omega))).trans (h.block i hi hn)⟩
theorem Mm {F:Nat->Prop} {w w':World} (h:Below w.heap.size w w'):Fr F w w':=⟨h.os,h.tape,h.output,h.size,fun k hk _=>h.block k hk⟩
theorem Fr.below {w w':World} (h:Fr (fun _=>False) w w'):Below w.heap.size w w':=⟨h.os,h.tape,h.output,h.size,fun k hk=>h.block k hk (fun h=>h)⟩
theorem Mn {F:Nat->Prop} {w w':World} {row:Option Nat} (h:w.grownBy w' row) (hr: ∀ k,row=some k->F k):Fr F w w' :=
 ⟨h.os,h.tape,h.output,h.size,fun k hk hn=>h.block k hk (fun e=>hn (hr k e.symm))⟩
theorem Fr.mono {F G:Nat->Prop} {w w':World} (h:Fr F w w') (hg: ∀ k,F k->G k):Fr G w w':=⟨h.os,h.tape,h.output,h.size,fun k hk hn=>h.block k hk (fun h2=>hn (hg k h2))⟩
theorem Fr.alloc {F:Nat->Prop} {w w':World} (h:Fr F w w') (o:Obj):Fr F w (w'.alloc o) :=
 h.trans (Mm (F:=fun _=>False) ((Below.refl _ _).alloc (N0 _) o)) (fun _ h=>h.elim)
theorem Fr.drew {F:Nat->Prop} {w w':World} (h:Fr F w w'):Fr F w w'.drew:=⟨h.os,h.tape,h.output,h.size,h.block⟩
theorem Fr.drewN {F:Nat->Prop} {w w':World} (h:Fr F w w') (n:Nat):Fr F w (w'.drewN n):=⟨h.os,h.tape,h.output,h.size,h.block⟩
theorem Fr.set {F:Nat->Prop} {w w':World} (h:Fr F w w') {p:Addr} (hp:F p.block\/w.heap.size<=p.block) (u:Value):Fr F w (w'.setCell p u) :=
 h.trans (G:=fun k=>k=p.block) ⟨rfl,rfl,rfl,by simp[World.setCell],fun k _ hn=>Below.heap_setCell _ _ _ _ hn⟩ (fun k hk=>by rw[hk]; exact hp)
structure Res where
 P:World->(Nat->Prop)->Prop
 lt: ∀ {w:World} {G:Nat->Prop},P w G-> ∀ k,G k->k<w.heap.size
 move: ∀ {w w':World} {G:Nat->Prop},P w G->(∀ k,G k->w'.heap[k]? = w.heap[k]?)->P w' G
def Sep:List Res->World->(Nat->Prop)->Prop
 | [],_,_=>True
 | R::Rs,w,F=> ∃ G,R.P w G/\(∀ k,G k->F k)/\Sep Rs w (fun k=>F k/\ ¬ G k)
theorem Sep.mono: ∀ {Rs:List Res} {w:World} {F F':Nat->Prop},Sep Rs w F->(∀ k,F k->F' k)->Sep Rs w F'
 | [],_,_,_,_,_=>trivial
 | _ :: _,_,_,_,⟨G,h1,h2,h3⟩,hf=>⟨G,h1,fun k hk=>hf k (h2 k hk),h3.mono (fun k hk=>⟨hf k hk.1,hk.2⟩)⟩
theorem Sep.inside: ∀ {Rs:List Res} {w:World} {F:Nat->Prop},Sep Rs w F->Sep Rs w (fun k=>F k/\k<w.heap.size)
 | [],_,_,_=>trivial
 | R :: _,_,_,⟨G,h1,h2,h3⟩=>⟨G,h1,fun k hk=>⟨h2 k hk,R.lt h1 k hk⟩,h3.inside.mono (fun k hk=>⟨⟨hk.1.1,hk.2⟩,hk.1.2⟩)⟩
theorem Sep.move_: ∀ {Rs:List Res} {w w':World} {F:Nat->Prop},Sep Rs w F->(∀ k,F k->w'.heap[k]? = w.heap[k]?)->Sep Rs w' F
 | [],_,_,_,_,_=>trivial
 | R :: _,_,_,_,⟨G,h1,h2,h3⟩,hm=>⟨G,R.move h1 (fun k hk=>hm k (h2 k hk)),h2,h3.move_ (fun k hk=>hm k hk.1)⟩
theorem Sep.move {Rs:List Res} {w w':World} {F:Nat->Prop} (h:Sep Rs w F) (hm: ∀ k,F k->k<w.heap.size->w'.heap[k]? = w.heap[k]?):Sep Rs w' F :=
 (h.inside.move_ (fun k hk=>hm k hk.1 hk.2)).mono (fun _ hk=>hk.1)
theorem Sep.pick: ∀ {Rs:List Res} (i:Nat) {A:Res} {w:World} {F:Nat->Prop},Rs[i]? = some A->Sep Rs w F-> ∃ G,A.P w G/\(∀ k,G k->F k)/\Sep (Rs.eraseIdx i) w (fun k=>F k/\ ¬ G k)
 | [],i,_,_,_,hi,_=>by simp at hi
 | R::Rs,0,A,w,F,hi,h=>by
  have e:R=A:=by simpa using hi
  subst e;exact h
 | R::Rs,i+1,A,w,F,hi,⟨G,h1,h2,h3⟩=>by
  obtain⟨G',k1,k2,k3⟩:=Sep.pick i (by simpa using hi) h3;exact⟨G',k1,fun k hk=>(k2 k hk).1,G,h1,fun k hk=>⟨h2 k hk,fun h=>(k2 k h).2 hk⟩,k3.mono (fun k hk=>⟨⟨hk.1.1,hk.2⟩,hk.1.2⟩)⟩
theorem Sep.back: ∀ {Rs:List Res} (i:Nat) {A A':Res} {w:World} {F G:Nat->Prop},Rs[i]? = some A->A'.P w G->(∀ k,G k->F k)->Sep (Rs.eraseIdx i) w (fun k=>F k/\ ¬ G k)->Sep (Rs.set i A') w F
 | [],i,_,_,_,_,_,hi,_,_,_=>by simp at hi
 | R::Rs,0,A,A',w,F,G,hi,h1,h2,h3=>⟨G,h1,h2,h3⟩
 | R::Rs,i+1,A,A',w,F,G,hi,h1,h2,⟨G',k1,k2,k3⟩ =>
  ⟨G',k1,fun k hk=>(k2 k hk).1,Sep.back i (by simpa using hi) h1 (fun k hk=>⟨h2 k hk,fun h=>(k2 k h).2 hk⟩) (k3.mono (fun k hk=>⟨⟨hk.1.1,hk.2⟩,hk.1.2⟩))⟩
theorem Sep.append: ∀ {Ns Rs:List Res} {w:World} {F G:Nat->Prop},Sep Ns w G->Sep Rs w (fun k=>F k/\ ¬ G k)->(∀ k,G k->F k)->Sep (Ns++Rs) w F
 | [],_,_,_,_,_,h,_=>h.mono (fun _ hk=>hk.1)
 | N::Ns,Rs,w,F,G,⟨H,h1,h2,h3⟩,h,hg =>
  ⟨H,h1,fun k hk=>hg k (h2 k hk),Sep.append h3 (h.mono (fun k hk=>⟨⟨hk.1,fun h4=>hk.2 (h2 k h4)⟩,fun h4=>hk.2 h4.1⟩)) (fun k hk=>⟨hg k hk.1,hk.2⟩)⟩
theorem Sep.one {R:Res} {w:World} {F:Nat->Prop} (h:R.P w F):Sep [R] w F:=⟨F,h,fun _ h=>h,trivial⟩
structure St (F0:Nat->Prop) (w0:World) (Rs:List Res) (w:World):Prop where
 fr:Fr F0 w0 w
 sep:Sep Rs w (fun k=>F0 k\/w0.heap.size<=k)
section
variable {F0:Nat->Prop} {w0 w w':World} {Rs:List Res} {A A':Res}
theorem LN (F0:Nat->Prop) (w:World) (h:Sep Rs w F0):St F0 w Rs w:=⟨Fr.refl _ _,h.mono (fun _ hk=> .inl hk)⟩
theorem Mg (w:World):St (fun _=>False) w [] w:=⟨Fr.refl _ _,trivial⟩
theorem St.drew (h:St F0 w0 Rs w):St F0 w0 Rs w.drew:=⟨h.fr.drew,h.sep.move (fun _ _ _=>rfl)⟩
theorem St.drewN (h:St F0 w0 Rs w) (n:Nat):St F0 w0 Rs (w.drewN n):=⟨h.fr.drewN n,h.sep.move (fun _ _ _=>rfl)⟩
theorem St.drop_ (h:St F0 w0 (A::Rs) w):St F0 w0 Rs w:=by
 obtain⟨f,G,_,_,h3⟩:=h;exact⟨f,h3.mono (fun _ hk=>hk.1)⟩
theorem St.del (i:Nat) (h:St F0 w0 Rs w) (hi:Rs[i]? = some A):St F0 w0 (Rs.eraseIdx i) w:=by
 obtain⟨f,hs⟩:=h;obtain⟨G,_,_,h3⟩:=Sep.pick i hi hs;exact⟨f,h3.mono (fun _ hk=>hk.1)⟩
theorem St.weaken (i:Nat) (h:St F0 w0 Rs w) (hi:Rs[i]? = some A) (hA: ∀ G,A.P w G->A'.P w G):St F0 w0 (Rs.set i A') w:=by
 obtain⟨f,hs⟩:=h;obtain⟨G,h1,h2,h3⟩:=Sep.pick i hi hs;exact⟨f,Sep.back i hi (hA _ h1) h2 h3⟩
theorem St.get (i:Nat) (h:St F0 w0 Rs w) (hi:Rs[i]? = some A): ∃ G,A.P w G/\(∀ k,G k->F0 k\/w0.heap.size<=k):=by
 obtain⟨G,h1,h2,_⟩:=Sep.pick i hi h.sep;exact⟨G,h1,h2⟩
theorem St.step (i:Nat) (h:St F0 w0 Rs w) (hi:Rs[i]? = some A) {Ns:List Res}
 (hs: ∀ G,A.P w G->Fr G w w'/\Sep (A'::Ns) w' (fun k=>G k\/w.heap.size<=k)):St F0 w0 (Ns++Rs.set i A') w':=by
 obtain⟨f,hp⟩:=h;obtain⟨G,h1,h2,h3⟩:=Sep.pick i hi hp;obtain⟨f2,G2,k1,k2,k3⟩:=hs G h1;refine⟨f.trans f2 h2,?_⟩;have hle:=f.size;have hR:Sep (Rs.eraseIdx i) w' (fun k=>((F0 k\/w0.heap.size<=k)/\ ¬ G k)/\k<w.heap.size):=h3.inside.move (fun k hk _=>f2.block k hk.2 hk.1.2);refine Sep.append k3 (F:=fun k=>F0 k\/w0.heap.size<=k) (Sep.back i hi k1 (fun k hk=>⟨?_,fun hn=>hn.2 hk⟩) (hR.mono (fun k hk=>⟨⟨hk.1.1,?_⟩,?_⟩))) ?_
 ·rcases k2 k hk with h4 | h4
  ·exact h2 k h4
  ·exact .inr QR
 ·rintro⟨h4 | h4,_⟩
  ·exact hk.1.2 h4
  ·have:=hk.2; omega
 ·intro h4;rcases k2 k h4 with h5 | h5
  ·exact hk.1.2 h5
  ·have:=hk.2; omega
 ·rintro k ⟨h4 | h4,_⟩
  ·exact h2 k h4
  ·exact .inr QR
theorem St.grow (h:St F0 w0 Rs w) {Ns:List Res} (f2:Fr (fun _=>False) w w') (k3:Sep Ns w' (fun k=>w.heap.size<=k)):St F0 w0 (Ns++Rs) w':=by
 obtain⟨f,hp⟩:=h;have hle:=f.size;refine⟨f.trans f2 (fun _ h=>h.elim),Sep.append k3 ((hp.inside.move (fun k hk _=>f2.block k hk.2 (fun h=>h))).mono (fun k hk=>⟨hk.1,by have:=hk.2; omega⟩)) (fun k hk=> .inr QR)⟩
theorem St.below (h:St (fun _=>False) w0 Rs w):Below w0.heap.size w0 w:=h.fr.below
end
def aV (b:Nat) (T:TypeId) (cs:Array Value):Res where
 P:=fun w G=>w.heap[b]? = some (.cells cs T (0,0))/\ ∀ k,G k↔k=b
 lt:=fun h k hk=>by
  rw[(h.2 k).1 hk];exact (Array.getElem?_eq_some_iff.1 h.1).1
 move:=fun h hm=>⟨(hm _ ((h.2 _).2 rfl)).trans h.1,h.2⟩
section
variable {F0:Nat->Prop} {w0 w w':World} {Rs:List Res} {b:Nat} {T:TypeId} {cs:Array Value}
theorem bt (h:w.heap[b]? = some (.cells cs T (0,0))) (i:Nat):w.cell? ⟨b,i,none⟩=cs[i]? := cell_of_row w b i cs T (0,0) h
theorem dA (h:w.heap[b]? = some (.cells cs T (0,0))) (i:Nat):w.frozen? ⟨b,i,none⟩=false:=by simp[World.frozen?,h]
theorem oz (h:w.heap[b]? = some (.cells cs T (0,0))) (i:Nat) (u:Value):(w.setCell ⟨b,i,none⟩ u).heap[b]? = some (.cells (cs.setIfInBounds i u) T (0,0)):=by
 simp[World.setCell,Array.getElem?_modify,h]
theorem lv {o:Obj} (h:w.heap[b]? = some o):b<w.heap.size:=(Array.getElem?_eq_some_iff.1 h).1
theorem St.blk (i:Nat) (h:St F0 w0 Rs w) (hi:Rs[i]? = some (aV b T cs)):w.heap[b]? = some (.cells cs T (0,0)):=by
 obtain⟨G,h1,_⟩:=h.get i hi;exact h1.1
theorem St.alloc (h:St F0 w0 Rs w) (cs:Array Value) (T:TypeId):St F0 w0 (aV w.heap.size T cs::Rs) (w.alloc (.cells cs T)) :=
 h.grow (Ns := [aV w.heap.size T cs]) (Mm ((Below.refl _ _).alloc (N0 _) _)) ⟨fun k=>k=w.heap.size,⟨heap_alloc_new w _,fun _=>Iff.rfl⟩,fun k hk=>by omega,trivial⟩
theorem St.set (i:Nat) (h:St F0 w0 Rs w) (hi:Rs[i]? = some (aV b T cs)) (j:Nat) (u:Value):St F0 w0 (Rs.set i (aV b T (cs.setIfInBounds j u))) (w.setCell ⟨b,j,none⟩ u):=by
 refine h.step i hi (Ns := []) (fun G hG=>⟨?_,G,⟨oz hG.1 j u,hG.2⟩,fun k hk=> .inl hk,trivial⟩);exact (Fr.refl G w).set (p:=⟨b,j,none⟩) (.inl ((hG.2 b).2 rfl)) u
end
def sd (Q:Value->Res->List Res->Prop) (F:Nat->Prop) (w:World) (e:Ending) (w':World):Prop:= ∃ v A' Ns,e= .returned v/\Q v A' Ns/\St F w (A'::Ns) w'
def Post0 (Q:Value->List Res->Prop) (w:World) (e:Ending) (w':World):Prop:= ∃ v Ns,e= .returned v/\Q v Ns/\St (fun _=>False) w Ns w'
def hC (P:Program) (f:FuncId) (args:Array Value) (A:Res) (Q:Value->Res->List Res->Prop):Prop :=
 ∀ F w,A.P w F->Calls P f args w (sd Q F w)
def j7 (P:Program) (f:FuncId) (args:Array Value) (Q:Value->List Res->Prop):Prop :=
 ∀ w,Calls P f args w (Post0 Q w)
section
variable {P:Program} {f:FuncId} {args:Array Value} {F0:Nat->Prop} {w0 w:World} {Rs:List Res} {A:Res}
theorem St.call {Q:Value->Res->List Res->Prop} (i:Nat) (h:St F0 w0 Rs w) (hi:Rs[i]? = some A) (hs:hC P f args A Q) :
 Calls P f args w fun e w'=> ∃ v A' Ns,e= .returned v/\Q v A' Ns/\St F0 w0 (Ns++Rs.set i A') w':=by
 obtain⟨G0,hG0,hsub⟩:=h.get i hi;obtain⟨G,h1,h2,h3⟩:=Sep.pick i hi h.sep;refine (hs G w h1).mono ?_;rintro e w' ⟨v,A',Ns,rfl,hq,hst⟩;refine⟨v,A',Ns,rfl,hq,?_⟩;obtain⟨f2,G2,k1,k2,k3⟩:=hst;have f:=h.fr;refine⟨f.trans f2 h2,?_⟩;have hle:=f.size;have hR:Sep (Rs.eraseIdx i) w' (fun k=>((F0 k\/w0.heap.size<=k)/\ ¬ G k)/\k<w.heap.size):=h3.inside.move (fun k hk _=>f2.block k hk.2 hk.1.2);refine Sep.append k3 (F:=fun k=>F0 k\/w0.heap.size<=k) (Sep.back i hi k1 (fun k hk=>⟨?_,fun hn=>hn.2 hk⟩) (hR.mono (fun k hk=>⟨⟨hk.1.1,?_⟩,?_⟩))) ?_
 ·rcases k2 k hk with h4 | h4
  ·exact h2 k h4
  ·exact .inr QR
 ·rintro⟨h4 | h4,_⟩
  ·exact hk.1.2 h4
  ·have:=hk.2; omega
 ·intro h4;rcases k2 k h4 with h5 | h5
  ·exact hk.1.2 h5
  ·have:=hk.2; omega
 ·rintro k ⟨h4 | h4,_⟩
  ·exact h2 k h4
  ·exact .inr QR
theorem St.call0 {Q:Value->List Res->Prop} (h:St F0 w0 Rs w) (hs:j7 P f args Q) :
 Calls P f args w fun e w'=> ∃ v Ns,e= .returned v/\Q v Ns/\St F0 w0 (Ns++Rs) w':=by
 refine (hs w).mono ?_;rintro e w' ⟨v,Ns,rfl,hq,hst⟩;refine⟨v,Ns,rfl,hq,h.grow hst.fr (hst.sep.mono (fun k hk=>hk.elim (fun h=>h.elim) id))⟩
end
def bp (l:List UInt8):List Value:=l.map fun b=>Value.int .u8 b.toNat
theorem kV (l m:List UInt8):bp (l++m)=bp l++bp m:=by simp[bp]
theorem rZ (s:ByteArray):Lib.strCells s=bp s.data.toList:=rfl
section
variable {P:Program} (w:World)
theorem yN (t u ty e:TypeId) (i:TypeInfo) (ht:P.underlying t=some (.slice e)) (hu:P.underlying u=some .string) (hi:P.info? e=some i) (hz:i.zero=some (.int .u8 0))
 (hsize:i.size=1) (hby:i.bytes=1)
 (v:Value) (n:Nat) (xs:List Value) (hown:w.ownsRow 0 e 1 v n xs) (s:ByteArray) (hbytes:n+s.size<=140737488355328) :
 ∃ v' w',(Builtin.append_ #[t,u] ty #[v,.string s]).run P w= .ok v' w'/\w'.ownsRow 0 e 1 v' (n+s.size) (xs++Lib.strCells s)/\w.grownBy w' v.ownBlock /\
  (v'.ownBlock=v.ownBlock\/v'.ownBlock=some w.heap.size):=by
 obtain⟨v',w',hr,h2,h3,h4⟩:=Lib.run_append_own_string (P:=P) w 0 t u ty e i ht hu hi hz hsize hby v n xs hown s (by simp only[maxLen]; omega) hbytes (NY _);refine⟨v',w',hr,h2,h3,?_⟩;rcases hown.2 with⟨rfl,rfl⟩ | ⟨g,cap,cur,rfl,hbg,hg,hnc,hcm,hcs,htake⟩
 ·by_cases hm:s.size=0
  ·left;rw[h4.2 ⟨rfl,hm⟩]
  ·right;have hr2:=run_append_nil_string (P:=P) w t u ty e i (.int .u8 0) ht hu hi hz s QR QR (by rw[hby]; omega);rw[hr] at hr2;injection hr2 with hv _;rw[hv];rfl
 ·by_cases hroom:n+s.size<=cap
  ·left;have hcs':cur.size=cap:=by simpa using hcs
   have hr2:=Lib.run_append_room_string (P:=P) w t u ty e i ht hu hi hsize g n cap cur hg s hroom QR;rw[hr] at hr2;injection hr2 with hv _;rw[hv];rfl
  ·right;have hxl:xs.length=n:=by simpa using hown.1
   have holds: ∀ j u,xs[j]? = some u->w.cell? ((⟨g,0,none⟩:Addr).add j)=some u:=hown.cells (g:=g) rfl;have hr2:=Lib.run_append_grow_string (P:=P) w t u ty e i (.int .u8 0) ht hu hi hz ⟨g,0,none⟩ n cap xs (by rw[hsize]; simpa using hxl) holds s QR QR (by rw[hby]; exact growslice_fits QR QR);rw[hr] at hr2;injection hr2 with hv _;rw[hv];rfl
theorem oA {ops:Array Oper} {rest:List Oper} {o:Oper} {a:Act} {Q:Exit->Act->World->Prop} (hgd:o.guard=none) (sl x:Operand) (t u:TypeId)
 (ho:o.op= .call { callee:= .builtin .append,args:= #[sl,x],argTypes:= #[t,u] })
 (e:TypeId) (ht:P.underlying t=some (.slice e)) (hu:P.underlying u=some .string) (hinfo:(P.info? e).map (fun i=>(i.zero,i.size,i.bytes))=some (some (.int .u8 0),1,1))
 (v:Value) (n:Nat) (xs:List Value) (hs:a.eval sl=v) (hown:w.ownsRow 0 e 1 v n xs) (s:ByteArray) (hx:a.eval x= .string s) (hbytes:n+s.size<=140737488355328)
 (h: ∀ v' w',w'.ownsRow 0 e 1 v' (n+s.size) (xs++Lib.strCells s)->w.grownBy w' v.ownBlock->(v'.ownBlock=v.ownBlock\/v'.ownBlock=some w.heap.size)->wpList P ops Q rest (a.put o.dst v') w'):wpList P ops Q (o::rest) a w:=by
 obtain⟨i,hi,hzz⟩:=Option.map_eq_some_iff.1 hinfo;simp only[Prod.mk.injEq] at hzz;refine wpList_plain hgd fun K hK=> ?_;obtain⟨v',w',hr,h2,h3,h4⟩:=yN (P:=P) w t u o.type e i ht hu hi hzz.1 hzz.2.1 hzz.2.2 v n xs hown s hbytes;unfold Oper.wp execOp;simp only[ho,resolve,invoke,builtin,Sem.run_bind,Sem.run_pure,Result.andThen_ok,List.map_toArray,List.map_cons,List.map_nil,hs,hx,hr];exact hK _ _ (h v' w' h2 h3 h4)
theorem oB {ops:Array Oper} {rest:List Oper} {o:Oper} {a:Act} {Q:Exit->Act->World->Prop} (hgd:o.guard=none) (sl x:Operand) (t:TypeId)
 (ho:o.op= .call { callee:= .builtin .append,args:= #[sl,x],argTypes:= #[t,t] })
 (e:TypeId) (z:Value) (bytes:Nat) (ht:P.underlying t=some (.slice e)) (hinfo:(P.info? e).map (fun i=>(i.zero,i.size,i.bytes))=some (some z,1,bytes)) (hz:z.cells.size=1)
 (v:Value) (n:Nat) (xs:List Value) (hs:a.eval sl=v) (hown:w.ownsRow 0 e 1 v n xs) (y:Value) (hy:y.oneCell'=true) (hx:a.eval x= .slice (some ⟨w.heap.size,0,none⟩) 1 1)
 (hbytes:(n+1)*bytes<=140737488355328) (hmax:n+1<=140737488355328)
 (h: ∀ v' w',w'.ownsRow 0 e 1 v' (n+1) (xs ++ [y])->w.grownBy w' v.ownBlock->(v'.ownBlock=v.ownBlock\/ ∃ k,v'.ownBlock=some k/\w.heap.size<=k)->wpList P ops Q rest (a.put o.dst v') w') :
 wpList P ops Q (o::rest) a (w.alloc (.cells #[y] e)):=by
 obtain⟨i,hi,hzz⟩:=Option.map_eq_some_iff.1 hinfo;simp only[Prod.mk.injEq] at hzz;obtain⟨hz0,hz1,hz2⟩:=hzz;refine wpList_append_own_at (w.alloc (.cells #[y] e)) hgd sl x t ho 0 e i z 1 bytes ht hi hz0 hz1 hz2 hz QR v n xs hs (hown.alloc _) ⟨w.heap.size,0,none⟩ 1 1 [y] hx rfl
  (by simpa using World.news_of_block (cs:= #[y]) (t:=e) (fr:=(0,0)) (heap_alloc_new w (.cells #[y] e))) (by simpa using hy) (by simp only[maxLen]; omega) hbytes (NY _) ?_
 intro v' w' hown' hg _ hat;refine h v' w' hown' (World.grownBy.trans (World.grownBy_alloc w _ _) hg) ?_;rcases hat with hat | hat
 ·exact .inl hat
 ·exact .inr ⟨_,hat,by simp⟩
theorem se (w:World) {src dst e:TypeId} {v:Value} {l:List UInt8} {n:Nat} (hs:P.underlying src=some (.slice e)) (he:P.underlying e=some (.int .u8)) (hd:P.underlying dst=some .string)
 (h:w.ownsRow 0 e 1 v n (bp l)):(convert src dst v).run P w= .ok (.string ⟨l.toArray⟩) w:=by
 have hl:l.length=n:=by have:=h.1; simp[bp] at this; exact this
 have hstr:strOfNums (l.map fun b=>(b.toNat:Int))=⟨l.toArray⟩:=by
  unfold strOfNums;congr 1;simp[List.map_map,Function.comp_def]
 rcases h.2 with⟨rfl,rfl⟩ | ⟨g,cap,cur,rfl,_⟩
 ·obtain rfl:l = []:=List.eq_nil_of_length_eq_zero hl;exact run_convert_bytes_nil w src e hs he 0 0 dst hd
 ·rw[<- hstr];refine run_convert_bytes_arg w src e hs he g 0 n cap _ (by simpa using hl) (fun i hi=> ?_) dst hd;have hc:=h.cells (g:=g) rfl i (.int .u8 ((l.map fun b=>(b.toNat:Int)).getD i 0)) (by simp[bp,List.getElem?_eq_getElem (show i<l.length by omega),List.getD_eq_getElem?_getD]);have ha:(⟨g,0,none⟩:Addr).add i=⟨g,0+i,none⟩:=by unfold Addr.add; split <;> simp_all
  rwa [ha] at hc
theorem pa {w:World} {e t:TypeId} {size n b:Nat} {v:Value} {xs:List Value} {cs:Array Value} (h:w.ownsRow 0 e size v n xs) (hg:w.heap[b]? = some (.cells cs t (0,0))) (hne:e≠t):some b≠v.ownBlock:=by
 rcases h.2 with⟨rfl,_⟩ | ⟨g',cap,cur,rfl,_,hh,_⟩
 ·simp[Value.ownBlock]
 ·intro he;have:b=g':=by simpa [Value.ownBlock] using he
  subst this;rw[hg] at hh;injection hh with hh;injection hh with _ ht;exact hne ht.symm
theorem AH {w:World} {e:TypeId} {size n:Nat} {v:Value} {xs:List Value} (h:w.ownsRow 0 e size v n xs) {p:Addr} (hne:some p.block≠v.ownBlock) (u:Value):(w.setCell p u).ownsRow 0 e size v n xs:=by
 obtain⟨h1,h2⟩:=h;refine⟨h1,?_⟩;rcases h2 with h2 | ⟨g,cap,cur,rfl,hg,hh,r⟩
 ·exact .inl h2
 ·exact .inr ⟨g,cap,cur,rfl,hg,by rw[Below.heap_setCell _ _ _ _ (fun e=>hne (by rw[e]; rfl))]; exact hh,r⟩
theorem qd {w w':World} {e:TypeId} {size n:Nat} {v:Value} {xs:List Value} (h:w.ownsRow 0 e size v n xs) (hm: ∀ k,v.ownBlock=some k->w'.heap[k]? = w.heap[k]?):w'.ownsRow 0 e size v n xs:=by
 obtain⟨h1,h2⟩:=h;refine⟨h1,?_⟩;rcases h2 with h2 | ⟨g,cap,cur,rfl,hg,hh,r⟩
 ·exact .inl h2
 ·exact .inr ⟨g,cap,cur,rfl,hg,(hm g rfl).trans hh,r⟩
theorem mJ {w:World} {e:TypeId} {size n:Nat} {v:Value} {xs:List Value} (h:w.ownsRow 0 e size v n xs): ∃ a c,v= .slice a n c:=by
 rcases h.2 with⟨rfl,rfl⟩ | ⟨g,cap,cur,rfl,_⟩
 ·exact⟨none,0,rfl⟩
 ·exact⟨_,cap,rfl⟩
theorem wV {w:World} {e:TypeId} {size n:Nat} {v:Value} {xs:List Value} (h:w.ownsRow 0 e size v n xs): ∀ k,v.ownBlock=some k->k<w.heap.size:=fun k hk=>(h.lt k hk).2
end
section
variable {P:Program}
theorem ua {ops:Array Oper} {rest:List Oper} {o:Oper} {a:Act} {w:World} {Q:Exit->Act->World->Prop} (hgd:o.guard=none) (ty:TypeId) (x y:Operand) (ho:o.op= .store ty x y)
 (t:TypeId) (c c':Array Value) (hx:a.eval x= .pointer (some ⟨w.heap.size,0,none⟩)) (hy:a.eval y= .agg c')
 (hi:(P.info? ty).map (·.size)=some c'.size) (hs:c.size=c'.size) (h1:c'.all (·.oneCell')=true)
 (h:wpList P ops Q rest (a.put o.dst undef) (w.alloc (.cells c' t))):wpList P ops Q (o::rest) a (w.alloc (.cells c t)):=by
 refine wpList_plain hgd fun K hK=> ?_;have hr:(Instr.storeAt ty (.pointer (some ⟨w.heap.size,0,none⟩)) (.agg c')).run P (w.alloc (.cells c t))= .ok () (w.alloc (.cells c' t)):=by
  simp only[Instr.storeAt,Instr.sureAddr,Sem.run_bind,Sem.run_pure,Result.andThen];rw[run_storeVar_row _ _ t ty c c' (heap_alloc_last w _) hi hs h1,World.setRow_alloc_new]
 unfold Oper.wp execOp;simp only[ho,hx,hy,hr,Sem.run_bind,Sem.run_pure,Result.andThen_ok];exact hK _ _ h
end
def jU (T:TypeId) (size:Nat) (v:Value) (n:Nat) (xs:List Value):Res where
 P:=fun w G=>w.ownsRow 0 T size v n xs/\ ∀ k,G k↔v.ownBlock=some k
 lt:=by
  rintro w G ⟨h1,h2⟩ k hk;exact wV h1 k ((h2 k).1 hk)
 move:=by
  rintro w w' G ⟨h1,h2⟩ hm;exact⟨qd h1 (fun k hk=>hm k ((h2 k).2 hk)),h2⟩
section
variable {F0:Nat->Prop} {w0 w w1:World} {Rs:List Res} {T:TypeId} {size n:Nat} {v v1:Value} {xs ys:List Value}
theorem Mz (i:Nat) (h:St F0 w0 Rs w) (hi:Rs[i]? = some (jU T size v n xs)):w.ownsRow 0 T size v n xs:=(h.get i hi).choose_spec.1.1
theorem jU.lit (h:St F0 w0 Rs w) (cs:Array Value) (n:Nat) (hm:n<=maxLen) (hs:cs.size=n*size) :
 St F0 w0 (jU T size (.slice (some ⟨w.heap.size,0,none⟩) n n) n cs.toList::Rs) (w.alloc (.cells cs T)) :=
 h.grow (Ns := [jU T size (.slice (some ⟨w.heap.size,0,none⟩) n n) n cs.toList]) (Mm ((Below.refl _ _).alloc (N0 _) _))
  ⟨fun k=>k=w.heap.size,⟨World.ownsRow_lit w cs n (NY _) hm hs,fun k=>by simp[Value.ownBlock,eq_comm]⟩,fun k hk=>by omega,trivial⟩
theorem jU.grown (i:Nat) (h:St F0 w0 Rs w) (hi:Rs[i]? = some (jU T size v n xs)) {m:Nat} (ho:w1.ownsRow 0 T size v1 m ys) (hg:w.grownBy w1 v.ownBlock)
 (hat:v1.ownBlock=v.ownBlock\/ ∃ k,v1.ownBlock=some k/\w.heap.size<=k):St F0 w0 (Rs.set i (jU T size v1 m ys)) w1:=by
 refine h.step i hi (Ns := []) (fun G hG=>⟨Mn hg (fun k hk=>(hG.2 k).2 hk),fun k=>v1.ownBlock=some k,⟨ho,fun _=>Iff.rfl⟩,fun k hk=> ?_,trivial⟩);rcases hat with h1 | ⟨k',h1,h2⟩
 ·rw[h1] at hk;exact .inl ((hG.2 k).2 hk)
 ·rw[h1] at hk;injection hk with hk;subst hk;exact .inr h2
theorem jU.set {g c:Nat} (i:Nat) (h:St F0 w0 Rs w) (hi:Rs[i]? = some (jU T size (.slice (some ⟨g,0,none⟩) n c) n xs)) (j:Nat) (u:Value) :
 St F0 w0 (Rs.set i (jU T size (.slice (some ⟨g,0,none⟩) n c) n (xs.set j u))) (w.setCell ⟨g,j,none⟩ u):=by
 have hr:=Mz i h hi;obtain⟨h1,h2⟩:=hr.stored j u;exact jU.grown i h hi h1 h2 (.inl rfl)
theorem jU.cell {g c:Nat} (i:Nat) (h:St F0 w0 Rs w) (hi:Rs[i]? = some (jU T size (.slice (some ⟨g,0,none⟩) n c) n xs)) (j:Nat) (hj:j<n*size):w.cell? ⟨g,j,none⟩=xs[j]? /\ w.frozen? ⟨g,j,none⟩=false :=
 ⟨(Mz i h hi).cellAt j hj,(Mz i h hi).frozenAt j⟩
theorem jU.form (i:Nat) (h:St F0 w0 Rs w) (hi:Rs[i]? = some (jU T size v n xs)) (hn:0<n): ∃ g c,v= .slice (some ⟨g,0,none⟩) n c:=by
 rcases (Mz i h hi).2 with⟨_,h2⟩ | ⟨g,cap,cur,rfl,_⟩
 ·omega
 ·exact⟨g,cap,rfl⟩
end
open Go.RowKit Go.Deep Go.ChangeShapes
structure Rd (α:Type) where
 P:World->(Nat->Prop)->List Value->α->Prop
 mono: ∀ {w:World} {S S':Nat->Prop} {cs:List Value} {a:α},P w S cs a->(∀ k,S k->S' k)->P w S' cs a
 move: ∀ {w w':World} {S:Nat->Prop} {cs:List Value} {a:α},P w S cs a->(∀ k,S k->w'.heap[k]? = w.heap[k]?)->P w' S cs a
def intRd (q:IntKind):Rd Int where
 P:=fun _ _ cs n=>cs = [.int q n]/\(Lit.int q n).wf=true
 mono:=fun h _=>h
 move:=fun h _=>h
def boolRd:Rd Bool where
 P:=fun _ _ cs b=>cs = [.bool b]
 mono:=fun h _=>h
 move:=fun h _=>h
def unitRd:Rd Unit where
 P:=fun _ _ cs _=>cs = []
 mono:=fun h _=>h
 move:=fun h _=>h
def pairRd {α β:Type} (A:Rd α) (B:Rd β):Rd (α×β) where
 P:=fun w S cs x=> ∃ c d,cs=c++d/\A.P w S c x.1/\B.P w S d x.2
 mono:=fun ⟨c,d,h1,h2,h3⟩ hS=>⟨c,d,h1,A.mono h2 hS,B.mono h3 hS⟩
 move:=fun ⟨c,d,h1,h2,h3⟩ hS=>⟨c,d,h1,A.move h2 hS,B.move h3 hS⟩
def rowAt {α:Type} (size:Nat) (E:Rd α) (w:World) (S:Nat->Prop) (a:Addr) (l:List α):Prop :=
 ∀ i x,l[i]? = some x-> ∃ cs,cs.length=size/\(∀ j,j<size->w.cell? (a.add (i*size+j))=cs[j]?)/\E.P w S cs x
def aq {α:Type} (size:Nat) (E:Rd α):Rd (List α) where
 P:=fun w S cs l=>(cs = [.slice none 0 0]/\l = [])\/ ∃ a cap,cs = [.slice (some a) l.length cap]/\l.length<=cap/\cap<=maxLen/\(0<l.length->S a.block)/\rowAt size E w S a l
 mono:=by
  rintro w S S' cs l (h | ⟨a,cap,h1,h2,h3,h4,h5⟩) hS
  ·exact .inl h
  ·refine .inr ⟨a,cap,h1,h2,h3,fun h=>hS _ (h4 h),fun i x hx=> ?_⟩;obtain⟨cs,k1,k2,k3⟩:=h5 i x hx;exact⟨cs,k1,k2,E.mono k3 hS⟩
 move:=by
  rintro w w' S cs l (h | ⟨a,cap,h1,h2,h3,h4,h5⟩) hS
  ·exact .inl h
  ·refine .inr ⟨a,cap,h1,h2,h3,h4,fun i x hx=> ?_⟩;obtain⟨cs,k1,k2,k3⟩:=h5 i x hx;refine⟨cs,k1,fun j hj=> ?_,E.move k3 hS⟩;rw[<- k2 j hj];have hb:(a.add (i*size+j)).block=a.block:=block_add _ _;have hl:0<l.length:=by have:=(ND hx).1; omega
   simp only[World.cell?,hb,hS _ (h4 hl)]
theorem ub {w:World} {b:Addr} {v:Value} (h:w.cell? b=some v):b=⟨b.block,b.off,none⟩:=by
 obtain⟨g,o,s⟩:=b
 cases s with
 | none=>rfl
 | some s =>
  simp only[World.cell?] at h;split at h <;> simp at h
section
variable {H:Type} (enc:TypeId×Value->H) (P:Program)
def Hf {α:Type} (t:TypeId) (E:Rd α):Prop :=
 ∀ (w:World) (fuel:Nat) (cs:List Value) (x:DataW H×List MemPlace),DataW.trod enc P w 0 (fun _=>true) true fuel t cs=some x-> ∃ a,E.P w (fun k=>k<w.heap.size) cs a
variable {enc P}
theorem zl {t:TypeId} {q:IntKind} (ht:P.underlying t=some (.int q)):Hf enc P t (intRd q):=by
 intro w fuel cs x h;obtain⟨n,rfl,_,hw⟩:=DataW.trod_int ht h;exact⟨n,rfl,hw⟩
theorem Dj {t:TypeId} (ht:P.underlying t=some .bool):Hf enc P t boolRd:=by
 intro w fuel cs x h;obtain⟨b,rfl,_⟩:=DataW.trod_bool ht h;exact⟨b,rfl⟩
variable (enc P) in
end
structure RX where
 P:World->(Nat->Prop)->Prop
 mono: ∀ {w:World} {S S':Nat->Prop},P w S->(∀ k,S k->S' k)->P w S'
 move: ∀ {w w':World} {S:Nat->Prop},P w S->(∀ k,S k->w'.heap[k]? = w.heap[k]?)->P w' S
def RX.triv:RX:=⟨fun _ _=>True,fun _ _=>trivial,fun _ _=>trivial⟩
def RX.and (X Y:RX):RX:=⟨fun w S=>X.P w S/\Y.P w S,fun h k=>⟨X.mono h.1 k,Y.mono h.2 k⟩,fun h k=>⟨X.move h.1 k,Y.move h.2 k⟩⟩
def RX.of {α:Type} (E:Rd α) (cs:List Value) (a:α):RX:=⟨fun w S=>E.P w S cs a,fun h k=>E.mono h k,fun h k=>E.move h k⟩
def RX.reads (X:RX) (w:World) (F:Nat->Prop):Prop:= ∃ S,X.P w S/\ ∀ k,S k-> ¬ F k/\k<w.heap.size
theorem Lv (w:World) (F:Nat->Prop):RX.triv.reads w F:=⟨fun _=>False,trivial,fun _ h=>h.elim⟩
theorem RX.reads_and {X Y:RX} {w:World} {F:Nat->Prop} (h:X.reads w F) (k:Y.reads w F):(X.and Y).reads w F:=by
 obtain⟨S,h1,h2⟩:=h;obtain⟨T,k1,k2⟩:=k;exact⟨fun k=>S k\/T k,⟨X.mono h1 (fun _ h=> .inl h),Y.mono k1 (fun _ h=> .inr h)⟩,fun k hk=>hk.elim (h2 k) (k2 k)⟩
theorem Lx {X Y:RX} {w:World} {F:Nat->Prop} (h:(X.and Y).reads w F):X.reads w F:=let ⟨S,h1,h2⟩:=h; ⟨S,h1.1,h2⟩
theorem Lf {X Y:RX} {w:World} {F:Nat->Prop} (h:(X.and Y).reads w F):Y.reads w F:=let ⟨S,h1,h2⟩:=h; ⟨S,h1.2,h2⟩
theorem RX.reads_weaken {X:RX} {w:World} {F G:Nat->Prop} (h:X.reads w F) (hg: ∀ k,k<w.heap.size->G k->F k):X.reads w G:=let ⟨S,h1,h2⟩:=h; ⟨S,h1,fun k hk=>⟨fun g=>(h2 k hk).1 (hg k (h2 k hk).2 g),(h2 k hk).2⟩⟩
def aL:Res where
 P:=fun _ G=> ∀ k,¬ G k
 lt:=fun h k hk=>(h k hk).elim
 move:=fun h _=>h
def RdR {α:Type} (E:Rd α) (cs:List Value) (a:α):Res where
 P:=fun w G=>E.P w G cs a/\ ∀ k,G k->k<w.heap.size
 lt:=fun h k hk=>h.2 k hk
 move:=fun {w w'} {G} h hm=>⟨E.move h.1 hm,fun k hk=>by
  have h1:=h.2 k hk;have h2:=hm k hk;rw[Array.getElem?_eq_getElem h1] at h2;exact (Array.getElem?_eq_some_iff.1 h2).1⟩
def aG (P:Program) (f:FuncId) (args:Array Value) (X:RX) (A:Res) (Q:Value->Res->List Res->Prop):Prop :=
 ∀ F w,A.P w F->X.reads w F->Calls P f args w (sd Q F w)
section
variable {P:Program} {f:FuncId} {args:Array Value} {F0:Nat->Prop} {w0 w:World} {Rs:List Res} {A B:Res} {X Y:RX}
theorem LA {Q:Value->Res->List Res->Prop} (h:hC P f args A Q):aG P f args X A Q:=fun F w hA _=>h F w hA
theorem ML {Q:Value->List Res->Prop} (h:j7 P f args Q):aG P f args X aL (fun v A' N=>A'=aL/\Q v N):=by
 intro F w hA _;refine (h w).mono ?_;rintro e w' ⟨v,Ns,rfl,hq,hst⟩;refine⟨v,aL,Ns,rfl,⟨rfl,hq⟩,⟨hst.fr.mono (fun k h=>h.elim),fun _=>False,fun k h=>h,fun k h=>h.elim,hst.sep.mono (fun k hk=> ?_)⟩⟩;exact⟨hk.elim (fun h=>h.elim) .inr,fun h=>h⟩
theorem LT {v:Value} (h:j7 P f args (fun u N=>u=v/\N = [])):aG P f args X aL (fun u A' N=>u=v/\A'=aL/\N = []):=by
 intro F w hA hX;refine ((ML (X:=X) h) F w hA hX).mono ?_;rintro e w' ⟨v,A',Ns,rfl,⟨rfl,rfl,rfl⟩,hst⟩;exact⟨_,_,_,rfl,⟨rfl,rfl,rfl⟩,hst⟩
theorem LL {v:Value} (h: ∀ w,Calls P f args w fun e w'=>e= .returned v/\w=w'):aG P f args X aL (fun v' A' N=>v'=v/\A'=aL/\N = []):=by
 intro F w hA _;refine (h w).mono ?_;rintro e w' ⟨rfl,rfl⟩;exact⟨v,aL,[],rfl,⟨rfl,rfl,rfl⟩,Fr.refl _ _,fun _=>False,fun k h=>h,fun k h=>h.elim,trivial⟩
def Src (F0:Nat->Prop) (w0:World) (Rs:List Res) (w:World) (i:Nat) (X:RX):Prop :=
 ∀ A G,Rs[i]? = some A->A.P w G->(∀ k,G k->F0 k\/w0.heap.size<=k)->Sep (Rs.eraseIdx i) w (fun k=>(F0 k\/w0.heap.size<=k)/\ ¬ G k)->X.reads w G
theorem Src.triv (i:Nat):Src F0 w0 Rs w i .triv:=fun _ _ _ _ _ _=>Lv _ _
theorem Src.and {i:Nat} (h:Src F0 w0 Rs w i X) (k:Src F0 w0 Rs w i Y):Src F0 w0 Rs w i (X.and Y):=fun A G h1 h2 h3 h4=>RX.reads_and (h A G h1 h2 h3 h4) (k A G h1 h2 h3 h4)
theorem MM (h:St F0 w0 Rs w) (hX:X.reads w0 F0): ∃ S,X.P w S/\ ∀ k,S k-> ¬ F0 k/\k<w0.heap.size:=by
 obtain⟨S,h1,h2⟩:=hX;exact⟨S,X.move h1 (fun k hk=>h.fr.block k (h2 k hk).2 (h2 k hk).1),h2⟩
theorem Mk {i:Nat} (h:St F0 w0 Rs w) (hX:X.reads w0 F0):Src F0 w0 Rs w i X:=by
 intro A G _ _ h3 _;obtain⟨S,h1,h2⟩:=MM h hX;refine⟨S,h1,fun k hk=>⟨fun hg=> ?_,Nat.lt_of_lt_of_le (h2 k hk).2 h.fr.size⟩⟩;rcases h3 k hg with h4 | h4
 ·exact (h2 k hk).1 h4
 ·have:=(h2 k hk).2; omega
theorem Src.res {i:Nat} (j:Nat) (hj:(Rs.eraseIdx i)[j]? = some B) (hB: ∀ w G,B.P w G->X.P w G):Src F0 w0 Rs w i X:=by
 intro A G _ _ _ h4;obtain⟨G2,k1,k2,_⟩:=Sep.pick j hj h4;exact⟨G2,hB w G2 k1,fun k hk=>⟨(k2 k hk).2,B.lt k1 k hk⟩⟩
theorem K7 (h:St F0 w0 Rs w) (hX:X.reads w0 F0):X.reads w (fun _=>False):=by
 obtain⟨S,h1,h2⟩:=MM h hX;exact⟨S,h1,fun k hk=>⟨fun h=>h,Nat.lt_of_lt_of_le (h2 k hk).2 h.fr.size⟩⟩
theorem SrcE.res (j:Nat) (h:St F0 w0 Rs w) (hj:Rs[j]? = some B) (hB: ∀ w G,B.P w G->X.P w G):X.reads w (fun _=>False):=by
 obtain⟨G,h1,_⟩:=h.get j hj;exact⟨G,hB w G h1,fun k hk=>⟨fun h=>h,B.lt h1 k hk⟩⟩
theorem St.callX {Q:Value->Res->List Res->Prop} (i:Nat) (h:St F0 w0 Rs w) (hi:Rs[i]? = some A) (hs:aG P f args X A Q) (hr:Src F0 w0 Rs w i X) :
 Calls P f args w fun e w'=> ∃ v A' Ns,e= .returned v/\Q v A' Ns/\St F0 w0 (Ns++Rs.set i A') w':=by
 obtain⟨G,h1,h2,h3⟩:=Sep.pick i hi h.sep;refine (hs G w h1 (hr A G hi h1 h2 h3)).mono ?_;rintro e w' ⟨v,A',Ns,rfl,hq,hst⟩;refine⟨v,A',Ns,rfl,hq,?_⟩;obtain⟨f2,G2,k1,k2,k3⟩:=hst;have f:=h.fr;refine⟨f.trans f2 h2,?_⟩;have hle:=f.size;have hR:Sep (Rs.eraseIdx i) w' (fun k=>((F0 k\/w0.heap.size<=k)/\ ¬ G k)/\k<w.heap.size):=h3.inside.move (fun k hk _=>f2.block k hk.2 hk.1.2);refine Sep.append k3 (F:=fun k=>F0 k\/w0.heap.size<=k) (Sep.back i hi k1 (fun k hk=>⟨?_,fun hn=>hn.2 hk⟩) (hR.mono (fun k hk=>⟨⟨hk.1.1,?_⟩,?_⟩))) ?_
 ·rcases k2 k hk with h4 | h4
  ·exact h2 k h4
  ·exact .inr QR
 ·rintro⟨h4 | h4,_⟩
  ·exact hk.1.2 h4
  ·have:=hk.2; omega
 ·intro h4;rcases k2 k h4 with h5 | h5
  ·exact hk.1.2 h5
  ·have:=hk.2; omega
 ·rintro k ⟨h4 | h4,_⟩
  ·exact h2 k h4
  ·exact .inr QR
theorem St.emp (h:St F0 w0 Rs w):St F0 w0 (aL::Rs) w:=h.grow (Ns := [aL]) (Fr.refl _ _) ⟨fun _=>False,fun _ h=>h,fun _ h=>h.elim,trivial⟩
theorem St.callE {Q:Value->Res->List Res->Prop} (h:St F0 w0 Rs w) (hs:aG P f args X aL Q) (hr:X.reads w (fun _=>False)) :
 Calls P f args w fun e w'=> ∃ v A' Ns,e= .returned v/\Q v A' Ns/\St F0 w0 (Ns++Rs) w':=by
 have h':St F0 w0 (aL::Rs) w:=h.emp;refine (h'.callX 0 rfl hs ?_).mono ?_
 ·intro A G hA hG _ _;have e:aL=A:=by simpa using hA
  subst e;exact RX.reads_weaken hr (fun k _ hk=>(hG k hk).elim)
 ·rintro e w' ⟨v,A',Ns,rfl,hq,hst⟩;refine⟨v,A',Ns,rfl,hq,?_⟩;have:=hst.del Ns.length (A:=A') (by simp)
  rwa [List.eraseIdx_append_of_length_le (N0 _),Nat.sub_self] at this
theorem al {α:Type} {c:Prop} [Decidable c] {T:Option α} {r:α} (h:(if c then T else none)=some r):c/\T=some r:=by
 by_cases hc:c
 ·rw[QX hc] at h; exact⟨hc,h⟩
 ·rw[QY hc] at h; cases h
theorem aG.start (h:A.P w F0):St F0 w [A] w:=LN F0 w (Sep.one h)
end
def resv (tmps:Array Value):ResultVar->Sem Value
 | .tmp t=>pure (tmps.getD t undef)
 | .cell a t=>do loadVar t (<- asAddr (tmps.getD a undef))
section
variable {P:Program} {fn:Func} {tmps:Array Value} {w:World} {r1 r2 r3:ResultVar} {v1 v2 v3:Value}
theorem pb (fn:Func) (tmps:Array Value):results fn tmps=(do let vs <- fn.results.mapM (resv tmps); pure (if h:vs.size=1 then vs[0] else .tuple vs)):=by
 unfold results;rfl
end
set_option linter.unusedSimpArgs false
def bC (b:Nat) (st:List UInt8×Int):Res where
 P:=fun w G=> ∃ v,w.heap[b]? = some (.cells #[v,.int .i64 st.2] 112 (0,0))/\w.ownsRow 0 5 1 v st.1.length (bp st.1)/\ ∀ k,G k↔k=b\/v.ownBlock=some k
 lt:=by
  rintro w G ⟨v,h1,h2,h3⟩ k hk;rcases (h3 k).1 hk with rfl | h
  ·exact lv h1
  ·exact wV h2 k h
 move:=by
  rintro w w' G ⟨v,h1,h2,h3⟩ hm;exact⟨v,(hm _ ((h3 _).2 (.inl rfl))).trans h1,qd h2 (fun k hk=>hm k ((h3 k).2 (.inr hk))),h3⟩
theorem qe:(Tryz.prog.info? 5).map (fun i=>(i.zero,i.size,i.bytes))=some (some (.int .u8 0),1,1):=by kernel_rfl
theorem bC.stored {b:Nat} {l m:List UInt8} {w w1:World} {v v1:Value} {F:Nat->Prop} (hb:w.heap[b]? = some (.cells #[v,.int .i64 0] 112 (0,0))) (ho:w.ownsRow 0 5 1 v l.length (bp l)) (hF: ∀ k,F k↔k=b\/v.ownBlock=some k)
 {n:Nat} (ho1:w1.ownsRow 0 5 1 v1 n (bp m)) (hg:w.grownBy w1 v.ownBlock) (hat:v1.ownBlock=v.ownBlock\/ ∃ k,v1.ownBlock=some k/\w.heap.size<=k) :
 St F w [bC b (m,0)] (w1.setCell ⟨b,0,none⟩ v1):=by
 have hn:n=m.length:=by have:=ho1.1; simpa [bp] using this.symm
 subst hn;have hne:=pa ho hb QS;have hb1:w1.heap[b]? = some (.cells #[v,.int .i64 0] 112 (0,0)):=(hg.block b (lv hb) hne).trans hb;have hne1:=pa ho1 hb1 QS;refine⟨((Fr.refl F w).trans (Mn (F:=F) hg (fun k hk=>(hF k).2 (.inr hk))) (fun k hk=> .inl hk)).set (p:=⟨b,0,none⟩) (.inl ((hF b).2 (.inl rfl))) v1,?_⟩;refine⟨fun k=>k=b\/v1.ownBlock=some k,⟨v1,by simpa using oz hb1 0 v1,AH ho1 hne1 v1,fun _=>Iff.rfl⟩,?_,trivial⟩;rintro k (rfl | hk)
 ·exact .inl ((hF k).2 (.inl rfl))
 ·rcases hat with h | ⟨k',h,h'⟩
  ·rw[h] at hk;exact .inl ((hF k).2 (.inr hk))
  ·rw[h] at hk;injection hk with hk;subst hk;exact .inr h'
theorem Mu {b:Nat} {st:List UInt8×Int} {w w':World} {F:Nat->Prop} (h:(bC b st).P w F) (n:Nat) (hw:w'=w.drewN n):St F w [bC b st] w':=by
 subst hw;exact (LN F w (Sep.one h)).drewN n
def jJ (st:List UInt8×Int) (l:List UInt8):List UInt8×Int:=if st.2=0 then (st.1++l,0) else st
def mS (st:List UInt8×Int) (e:Int):List UInt8×Int:=if st.2=0 then (st.1,e) else st
theorem ri (b:Nat) (st:List UInt8×Int) (e:Int):hC Tryz.prog 94 #[.pointer (some ⟨b,0,none⟩),.int .i64 e] (bC b st) (fun v A' N=>v= .tuple #[]/\A'=bC b (mS st e)/\N = []):=by
 rintro F w ⟨v,hb,ho,hF⟩;obtain⟨l,er⟩:=st;have c1:w.cell? ⟨b,1,none⟩=some (.int .i64 er):=(bt hb 1).trans rfl;have f1:w.frozen? ⟨b,1,none⟩=false:=dA hb 1;by_cases h0:er=0
 ·subst h0;have HB:=Lib.hid hb;have HO:=Lib.hid ho;clear hb ho;go_enter Tryz.func94,Tryz.ntmps94
  go_wp2
  go_end0
  refine⟨_,_,_,rfl,⟨rfl,rfl,rfl⟩,(Fr.refl F w).set (.inl ((hF b).2 (.inl rfl))) _,F,?_,fun k hk=> .inl hk,trivial⟩;have hne:=pa HO.out HB.out QS;exact⟨v,by simpa [mS] using oz HB.out 1 (.int .i64 e),AH HO.out hne _,hF⟩
 ·have HB:=Lib.hid hb;have HO:=Lib.hid ho;have H0:(er == 0)=false:=beq_eq_false_iff_ne.2 h0;clear hb ho;go_enter Tryz.func94,Tryz.ntmps94
  go_wp2
  go_end0
  exact⟨_,_,_,rfl,⟨rfl,rfl,rfl⟩,Mu ⟨v,by simpa [mS,h0] using HB.out,by simpa [mS,h0] using HO.out,hF⟩ 0 rfl⟩
theorem BG (b:Nat) (st:List UInt8×Int) (s:ByteArray) (hl:st.1.length+s.size<=140737488355328) :
 hC Tryz.prog 52 #[.pointer (some ⟨b,0,none⟩),.string s] (bC b st) (fun v A' N=>v= .tuple #[]/\A'=bC b (jJ st s.data.toList)/\N = []):=by
 rintro F w ⟨v,hb,ho,hF⟩;obtain⟨l,er⟩:=st;have c0:w.cell? ⟨b,0,none⟩=some v:=(bt hb 0).trans rfl;have c1:w.cell? ⟨b,1,none⟩=some (.int .i64 er):=(bt hb 1).trans rfl;by_cases h0:er=0
 ·subst h0;have HB:=Lib.hid hb;have HO:=Lib.hid ho;clear hb ho;go_enter Tryz.func52,Tryz.ntmps52
  go_wp2_with (at_builtin; refine oA w rfl _ _ _ _ rfl 5 Tryz.underlying72 Tryz.underlying9 qe v l.length (bp l) rfl HO.out s rfl hl ?_; intro v1 w1 ho1 hg hat; obtain⟨a1,k1,rfl⟩:=mJ ho1; have HO1:=Lib.hid ho1; clear ho1; have HN:=Lib.hid (pa HO.out HB.out QS); have HB1:=Lib.hid (show w1.heap[b]? = _ from (hg.block b (lv HB.out) HN.out).trans HB.out); have d0:w1.cell? ⟨b,0,none⟩=some v:=(bt HB1.out 0).trans rfl; have e0:w1.frozen? ⟨b,0,none⟩=false:=dA HB1.out 0; have HG:=Lib.hid hg; have HAT:=Lib.hid hat; clear hg hat)
  go_end0
  have ho1:=HO1.out;rw[rZ,<- kV] at ho1;refine⟨_,_,_,rfl,⟨rfl,rfl,rfl⟩,?_⟩;have:=bC.stored HB.out HO.out hF ho1 HG.out (by rcases HAT.out with h | h; exact .inl h; exact .inr ⟨_,h,N0 _⟩);simpa [jJ] using this
 ·have HB:=Lib.hid hb;have HO:=Lib.hid ho;have H0:(er == 0)=false:=beq_eq_false_iff_ne.2 h0;clear hb ho;go_enter Tryz.func52,Tryz.ntmps52
  go_wp2_with fail
  go_end0
  exact⟨_,_,_,rfl,⟨rfl,rfl,rfl⟩,Mu ⟨v,by simpa [jJ,h0] using HB.out,by simpa [jJ,h0] using HO.out,hF⟩ 0 rfl⟩
theorem FT (b:Nat) (st:List UInt8×Int) (c:UInt8) (hl:st.1.length+1<=140737488355328) :
 hC Tryz.prog 102 #[.pointer (some ⟨b,0,none⟩),.int .u8 c.toNat] (bC b st) (fun v A' N=>v= .tuple #[]/\A'=bC b (jJ st [c])/\N = []):=by
 rintro F w ⟨v,hb,ho,hF⟩;obtain⟨l,er⟩:=st;have c0:w.cell? ⟨b,0,none⟩=some v:=(bt hb 0).trans rfl;have c1:w.cell? ⟨b,1,none⟩=some (.int .i64 er):=(bt hb 1).trans rfl;by_cases h0:er=0
 ·subst h0;have HB:=Lib.hid hb;have HO:=Lib.hid ho;clear hb ho;go_enter Tryz.func102,Tryz.ntmps102
  go_wp2_with (at_builtin; refine oB w rfl _ _ _ rfl 5 (.int .u8 0) 1 Tryz.underlying72 qe rfl v l.length (bp l) rfl HO.out (.int .u8 c.toNat) rfl rfl (by simpa using hl) hl ?_; intro v1 w1 ho1 hg hat; obtain⟨a1,k1,rfl⟩:=mJ ho1; have HO1:=Lib.hid ho1; clear ho1; have HN:=Lib.hid (pa HO.out HB.out QS); have HB1:=Lib.hid (show w1.heap[b]? = _ from (hg.block b (lv HB.out) HN.out).trans HB.out); have d0:w1.cell? ⟨b,0,none⟩=some v:=(bt HB1.out 0).trans rfl; have e0:w1.frozen? ⟨b,0,none⟩=false:=dA HB1.out 0; have HG:=Lib.hid hg; have HAT:=Lib.hid hat; clear hg hat)
  go_end0
  have ho1:=HO1.out;rw[show ([Value.int .u8 c.toNat]:List Value)=bp [c] from rfl,<- kV] at ho1;refine⟨_,_,_,rfl,⟨rfl,rfl,rfl⟩,?_⟩;have:=bC.stored HB.out HO.out hF ho1 HG.out HAT.out;simpa [jJ] using this
 ·have HB:=Lib.hid hb;have HO:=Lib.hid ho;have H0:(er == 0)=false:=beq_eq_false_iff_ne.2 h0;clear hb ho;go_enter Tryz.func102,Tryz.ntmps102
  go_wp2_with fail
  go_end0
  exact⟨_,_,_,rfl,⟨rfl,rfl,rfl⟩,Mu ⟨v,by simpa [jJ,h0] using HB.out,by simpa [jJ,h0] using HO.out,hF⟩ 0 rfl⟩
theorem Hg (b:Nat) (st:List UInt8×Int):hC Tryz.prog 48 #[.pointer (some ⟨b,0,none⟩)] (bC b st) (fun v A' N=>v= .int .i64 st.2/\A'=bC b st/\N = []):=by
 rintro F w ⟨v,hb,ho,hF⟩;obtain⟨l,er⟩:=st;have c1:w.cell? ⟨b,1,none⟩=some (.int .i64 er):=(bt hb 1).trans rfl;have HB:=Lib.hid hb;have HO:=Lib.hid ho;clear hb ho;go_enter Tryz.func48,Tryz.ntmps48
 go_wp2
 go_ret
 exact⟨_,_,_,rfl,⟨rfl,rfl,rfl⟩,Mu ⟨_,HB.out,HO.out,hF⟩ 0 rfl⟩
def BH (st:List UInt8×Int):Value:=if st.2=0 then .tuple #[.string ⟨st.1.toArray⟩,.int .i64 0] else .tuple #[.string ⟨#[]⟩,.int .i64 st.2]
theorem FU (b:Nat) (st:List UInt8×Int):hC Tryz.prog 50 #[.pointer (some ⟨b,0,none⟩)] (bC b st) (fun v A' N=>v=BH st/\A'=bC b st/\N = []):=by
 rintro F w ⟨v,hb,ho,hF⟩;obtain⟨l,er⟩:=st;have c0:w.cell? ⟨b,0,none⟩=some v:=(bt hb 0).trans rfl;have c1:w.cell? ⟨b,1,none⟩=some (.int .i64 er):=(bt hb 1).trans rfl;have hc:=se (P:=Tryz.prog) w (src:=72) (dst:=9) Tryz.underlying72 Tryz.underlying5 Tryz.underlying9 ho;have HB:=Lib.hid hb;have HO:=Lib.hid ho;clear hb ho;by_cases h0:er=0
 ·subst h0;go_enter Tryz.func50,Tryz.ntmps50
  go_wp2
  go_ret2
  exact⟨_,_,_,rfl,⟨by simp[BH],rfl,rfl⟩,Mu ⟨_,HB.out,HO.out,hF⟩ 0 rfl⟩
 ·have H0:(er != 0)=true:=bne_iff_ne.2 h0;go_enter Tryz.func50,Tryz.ntmps50
  go_wp2
  go_quiet (fail)
  go_wp2
  go_ret2
  exact⟨_,_,_,rfl,⟨by simp[BH,h0],rfl,rfl⟩,Mu ⟨_,HB.out,HO.out,hF⟩ _ rfl⟩
def bn (n size:Int):Bool:=decide (1<=size) && decide (size<=8) && decide (-(2 ^ (8*size.toNat - 1):Int)<=n) && decide (n<=(2 ^ (8*size.toNat - 1):Int) - 1)
theorem w64max:wrap64 (wrap64 9223372036854775808 - 1)=9223372036854775807:=by unfold wrap64; omega
theorem ko {k:IntKind} {a b:Int} (h:a=b):Ending.returned (.int k a)= .returned (.int k b):=by rw[h]
theorem qf {a b:Bool} (h:a=b):Ending.returned (.bool a)= .returned (.bool b):=by rw[h]
theorem qg (n size:Int) (w:World) (h0: -9223372036854775808<=n) (h1:n<=9223372036854775807) :
 Calls Tryz.prog 101 #[.int .i64 n,.int .i64 size] w fun e w'=>e= .returned (.bool (bn n size))/\w=w':=by
 by_cases hs:1<=size/\size<=8
 ·have hk:size=1\/size=2\/size=3\/size=4\/size=5\/size=6\/size=7\/size=8:=by omega
  rcases hk with rfl | rfl | rfl | rfl | rfl | rfl | rfl | rfl;all_goals
   clear hs
   go_enter Tryz.func101,Tryz.ntmps101
   go_wp2
   all_goals (go_ret; exact⟨qf (by have:=w64max; rw[Bool.eq_iff_iff]; simp[bn,wrap64]; omega),rfl⟩)
 ·by_cases h2:size<1
  ·go_enter Tryz.func101,Tryz.ntmps101
   go_wp2
   go_ret
   exact⟨qf (by simp[bn]; omega),rfl⟩
  ·have h3:8<size:=by omega
   go_enter Tryz.func101,Tryz.ntmps101
   go_wp2
   go_ret
   exact⟨qf (by simp[bn]; omega),rfl⟩
def be (n:Int) (size:Nat):List UInt8:=(List.range size).map fun i=>UInt8.ofNat ((n / (2 ^ (8*(size - 1 - i)):Int)) % 256).toNat
def AJ (st:List UInt8×Int) (n size:Int):List UInt8×Int:=if bn n size then jJ st (be n size.toNat) else mS st 11
theorem BI (st:List UInt8×Int):jJ st []=st:=by
 obtain⟨l,e⟩:=st;by_cases h:e=0 <;> simp[jJ,h]
theorem uc (st:List UInt8×Int) (a b:List UInt8):jJ (jJ st a) b=jJ st (a++b):=by
 obtain⟨l,e⟩:=st;by_cases h:e=0 <;> simp[jJ,h]
theorem pc (b:Nat) (st:List UInt8×Int) (c:Int) (h0:0<=c) (h1:c<256) (hl:st.1.length+1<=140737488355328) :
 hC Tryz.prog 102 #[.pointer (some ⟨b,0,none⟩),.int .u8 c] (bC b st) (fun v A' N=>v= .tuple #[]/\A'=bC b (jJ st [UInt8.ofNat c.toNat])/\N = []):=by
 have h:=FT b st (UInt8.ofNat c.toNat) hl
 rwa [show ((UInt8.ofNat c.toNat).toNat:Int)=c from by simp[UInt8.toNat_ofNat']; omega] at h
theorem sS (st:List UInt8×Int) (a:List UInt8):(jJ st a).1.length<=st.1.length+a.length:=by
 unfold jJ; split <;> simp
theorem vI (b:Nat) (st:List UInt8×Int) (n size:Int) (h0: -9223372036854775808<=n) (h1:n<=9223372036854775807) (hl:st.1.length+8<=140737488355328) :
 hC Tryz.prog 51 #[.pointer (some ⟨b,0,none⟩),.int .i64 n,.int .i64 size] (bC b st) (fun v A' N=>v= .tuple #[]/\A'=bC b (AJ st n size)/\N = []):=by
 intro F w hA;by_cases hf:bn n size=true
 ·have hs:1<=size/\size<=8:=by simp[bn] at hf; omega
  obtain⟨k,rfl⟩: ∃ k:Nat,size=k:=⟨size.toNat,by omega⟩;have HF:=Lib.hid hf;clear hf;have HA:=Lib.hid (LN F w (Sep.one hA));clear hA;go_enter Tryz.func51,Tryz.ntmps51
  go_wp2_with fail
  refine (qg n k w h0 h1).mono ?_;rintro e w' ⟨rfl,rfl⟩;rw[HF.out];go_wp2_with fail
  go_loopw [6,14] (fun _ i wr=> ∃ j:Nat,j<=k/\i= .int .i64 j/\St F w [bC b (jJ st ((be n k).take j))] wr) (fun _ i _=>k - (intOf i).toNat)
  case atStart=>exact⟨0,by omega,rfl,by simpa [BI] using HA.out⟩
  case round =>
   obtain⟨j,hj,rfl,hst⟩:=hrel;have HS:=Lib.hid hst;clear hst;by_cases hlt:j<k
   ·go_wp2_with fail
    have hle:((be n k).take j).length=j:=by simp[be]; omega
    have hl2:=sS st ((be n k).take j);refine (HS.out.call 0 rfl (pc b _ _ QR QR QR)).mono ?_;rintro e w1 ⟨v,A',N,rfl,⟨rfl,rfl,rfl⟩,H1⟩;have HS1:=Lib.hid H1;clear H1 hle hl2;go_wp2_with fail
    go_roundw
    case rel =>
     refine⟨j+1,by omega,by go_num,?_⟩;have:=HS1.out;rw[uc] at this;have e1:(be n k).take (j+1)=(be n k).take j ++ [UInt8.ofNat ((n / (2 ^ (8*(k - 1 - j)):Int)) % 256).toNat]:=by
      rw[List.take_succ_eq_append_getElem (by simp[be]; omega)];simp[be]
     rw[e1];exact this
    case measure=>simp[intOf]; omega
   ·have e1:j=k:=by omega
    have e2:(be n k).take k=be n k:=List.take_of_length_le (by simp[be]);go_wp2_with fail
    go_end0
    refine⟨_,_,_,rfl,⟨rfl,rfl,rfl⟩,?_⟩;have:=HS.out;rw[e1,e2] at this;simpa [AJ,HF.out] using this
 ·have HF:=Lib.hid (show bn n size=false by simpa using hf);clear hf;have HA:=Lib.hid (LN F w (Sep.one hA));clear hA;go_enter Tryz.func51,Tryz.ntmps51
  go_wp2_with fail
  refine (qg n size w h0 h1).mono ?_;rintro e w' ⟨rfl,rfl⟩;rw[HF.out];go_wp2_with fail
  refine (HA.out.call 0 rfl (ri b _ 11)).mono ?_;rintro e w1 ⟨v,A',N,rfl,⟨rfl,rfl,rfl⟩,H1⟩;have HS1:=Lib.hid H1;clear H1;go_wp2_with fail
  go_end0
  refine⟨_,_,_,rfl,⟨rfl,rfl,rfl⟩,?_⟩;simpa [AJ,HF.out] using HS1.out
structure I where
 rest:List UInt8
 pos:Nat
 err:Int
def ba (l:List UInt8):ByteArray:=⟨l.toArray⟩
abbrev jS (l:List UInt8):Value:= .string (ba l)
theorem cw (l:List UInt8):(ba l).size=l.length:=by simp[ba,ByteArray.size]
theorem dm (l:List UInt8):(ba l).data.toList=l:=by simp[ba]
theorem fz (l:List UInt8):(ba l).toList=l:=ByteArray.toList_mk l
theorem qh (s:ByteArray) (a b:Nat):s.extract a b=ba ((s.data.toList.drop a).take (b - a)):=by
 apply ByteArray.ext;apply Array.ext';simp[ba,ByteArray.data_extract,List.extract_eq_take_drop]
def InR (b:Nat) (st:I):Res where
 P:=fun w G=> ∃ s:ByteArray,w.heap[b]? = some (.cells #[.string s,.int .i64 st.pos,.int .i64 st.err] 134 (0,0))/\st.pos+st.rest.length=s.size/\s.size<=9223372036854775807/\s.data.toList.drop st.pos=st.rest/\ ∀ k,G k↔k=b
 lt:=by
  rintro w G ⟨s,h1,_,_,_,h3⟩ k hk;rw[(h3 k).1 hk];exact lv h1
 move:=by
  rintro w w' G ⟨s,h1,h2,h3,h4,h5⟩ hm;exact⟨s,(hm _ ((h5 _).2 rfl)).trans h1,h2,h3,h4,h5⟩
theorem InR.kept {b:Nat} {st:I} {w w':World} {F:Nat->Prop} (h:(InR b st).P w F) (n:Nat) (hw:w'=w.drewN n):St F w [InR b st] w':=by
 subst hw;exact (LN F w (Sep.one h)).drewN n
def dz (st:I) (e:Int):I:=if st.err=0 then { st with err:=e } else st
def cE (st:I) (n:Int):List UInt8×I :=
 if st.err≠0 then ([],st) else if n<0 then ([],{ st with err:=4 }) else if st.rest.length<n then ([],{ st with err:=1 })
 else (st.rest.take n.toNat,{ st with rest:=st.rest.drop n.toNat,pos:=st.pos+n.toNat })
theorem Hh (s:ByteArray) (hs:s.size<=9223372036854775807) :
 j7 Tryz.prog 19 #[.string s] (fun v N=> ∃ b,v= .pointer (some ⟨b,0,none⟩)/\N = [InR b ⟨s.data.toList,0,0⟩]):=by
 intro w;go_enter Tryz.func19,Tryz.ntmps19
 go_wp2
 go_ret
 refine⟨_,_,rfl,⟨_,rfl,rfl⟩,?_⟩;refine (((Mg w).alloc #[.string s,.int .i64 0,.int .i64 0] 134).weaken 0 rfl (A':=InR w.heap.size ⟨s.data.toList,0,0⟩) ?_);rintro G ⟨h1,h2⟩;exact⟨s,h1,by simp,hs,rfl,h2⟩
theorem hM (b:Nat) (st:I) (e:Int):hC Tryz.prog 70 #[.pointer (some ⟨b,0,none⟩),.int .i64 e] (InR b st) (fun v A' N=>v= .tuple #[]/\A'=InR b (dz st e)/\N = []):=by
 rintro F w ⟨s,hb,h2,h3,h4,hF⟩;have c2:w.cell? ⟨b,2,none⟩=some (.int .i64 st.err):=(bt hb 2).trans rfl;have f2:w.frozen? ⟨b,2,none⟩=false:=dA hb 2;have HB:=Lib.hid hb;have H4:=Lib.hid h4;have H2:=Lib.hid h2;clear hb h4 h2;by_cases h0:st.err=0
 ·have H0:(st.err == 0)=true:=beq_iff_eq.2 h0;have HH:=Lib.hid h0;clear h0;go_enter Tryz.func70,Tryz.ntmps70
  go_wp2
  go_end0
  refine⟨_,_,_,rfl,⟨rfl,rfl,rfl⟩,(Fr.refl F w).set (.inl ((hF b).2 rfl)) _,F,?_,fun k hk=> .inl hk,trivial⟩;exact⟨s,by simpa [dz,HH.out] using oz HB.out 2 (.int .i64 e),by simpa [dz,HH.out] using H2.out,h3,by simpa [dz,HH.out] using H4.out,hF⟩
 ·have H0:(st.err == 0)=false:=beq_eq_false_iff_ne.2 h0;have HH:=Lib.hid h0;clear h0;go_enter Tryz.func70,Tryz.ntmps70
  go_wp2
  go_end0
  refine⟨_,_,_,rfl,⟨rfl,rfl,rfl⟩,InR.kept (st:=dz st e) ?_ 0 rfl⟩;rw[show dz st e=st by simp[dz,HH.out]];exact⟨s,HB.out,H2.out,h3,H4.out,hF⟩
theorem oC (b:Nat) (st:I):hC Tryz.prog 71 #[.pointer (some ⟨b,0,none⟩)] (InR b st) (fun v A' N=>v= .int .i64 st.rest.length/\A'=InR b st/\N = []):=by
 rintro F w ⟨s,hb,h2,h3,h4,hF⟩;have c0:w.cell? ⟨b,0,none⟩=some (.string s):=(bt hb 0).trans rfl;have c1:w.cell? ⟨b,1,none⟩=some (.int .i64 st.pos):=(bt hb 1).trans rfl;have HB:=Lib.hid hb;have H4:=Lib.hid h4;have H2:=Lib.hid h2;have h2a:st.pos<=s.size:=by omega
 clear hb h4 h2;go_enter Tryz.func71,Tryz.ntmps71
 go_wp2
 go_quiet (fail)
 go_wp2
 go_ret
 have e1:(s.size:Int) - st.pos=st.rest.length:=by have:=H2.out; omega
 exact⟨_,_,_,ko e1,⟨rfl,rfl,rfl⟩,InR.kept ⟨s,HB.out,H2.out,h3,H4.out,hF⟩ _ rfl⟩
theorem eC (b:Nat) (st:I) (n:Int) (hn0: -9223372036854775808<=n) (hn1:n<=9223372036854775807) :
 hC Tryz.prog 67 #[.pointer (some ⟨b,0,none⟩),.int .i64 n] (InR b st) (fun v A' N=>v= .string (ba (cE st n).1)/\A'=InR b (cE st n).2/\N = []):=by
 rintro F w ⟨s,hb,h2,h3,h4,hF⟩;have hA:(InR b st).P w F:=⟨s,hb,h2,h3,h4,hF⟩;have c0:w.cell? ⟨b,0,none⟩=some (.string s):=(bt hb 0).trans rfl;have c1:w.cell? ⟨b,1,none⟩=some (.int .i64 st.pos):=(bt hb 1).trans rfl;have c2:w.cell? ⟨b,2,none⟩=some (.int .i64 st.err):=(bt hb 2).trans rfl;have f1:w.frozen? ⟨b,1,none⟩=false:=dA hb 1;have HB:=Lib.hid hb;have H4:=Lib.hid h4;have H2:=Lib.hid h2;have HA:=Lib.hid (LN F w (Sep.one hA));have h2a:st.pos<=s.size:=by omega
 have h2b: ¬ ((s.size:Int) - st.pos<n)↔n<=st.rest.length:=by omega
 have H2b:=Lib.hid h2b;clear hb h4 h2 hA h2b;by_cases h0:st.err=0
 ·have H0:(st.err != 0)=false:=by simp[h0]
  have HH:=Lib.hid h0;clear h0;by_cases hn:n<0
  ·have HT:=Lib.hid (show cE st n=([],dz st 4) by simp[cE,HH.out,hn,dz]);go_enter Tryz.func67,Tryz.ntmps67
   go_wp2_with fail
   refine (HA.out.call 0 rfl (hM b st 4)).mono ?_;rintro e w1 ⟨v,A',N,rfl,⟨rfl,rfl,rfl⟩,H1⟩;have HS1:=Lib.hid H1;clear H1;go_wp2_with fail
   go_ret
   exact⟨_,_,_,rfl,⟨by rw[HT.out]; rfl,rfl,rfl⟩,by rw[HT.out]; exact HS1.out⟩
  ·by_cases hl:(st.rest.length:Int)<n
   ·have hl2:(s.size:Int) - st.pos<n:=by have:=H2.out; omega
    have HT:=Lib.hid (show cE st n=([],dz st 1) by simp[cE,HH.out,hn,dz,hl]);go_enter Tryz.func67,Tryz.ntmps67
    go_wp2_with fail
    go_quiet (fail)
    go_wp2_with fail
    refine ((HA.out.drewN _).call 0 rfl (hM b st 1)).mono ?_;rintro e w1 ⟨v,A',N,rfl,⟨rfl,rfl,rfl⟩,H1⟩;have HS1:=Lib.hid H1;clear H1;go_wp2_with fail
    go_ret
    exact⟨_,_,_,rfl,⟨by rw[HT.out]; rfl,rfl,rfl⟩,by rw[HT.out]; exact HS1.out⟩
   ·have hl2: ¬ ((s.size:Int) - st.pos<n):=by have:=H2.out; omega
    obtain⟨m,rfl⟩: ∃ m:Nat,n=m:=⟨n.toNat,by omega⟩;have hl3:st.pos+m<=s.size:=by omega
    have HT:=Lib.hid (show cE st m=(st.rest.take m,{ st with rest:=st.rest.drop m,pos:=st.pos+m }) by
     have: ¬ (st.rest.length<m):=by omega
     simp[cE,HH.out,this])
    go_enter Tryz.func67,Tryz.ntmps67
    go_wp2_with fail
    go_quiet (fail)
    go_wp2_with fail
    go_quiet (fail)
    go_wp2_with fail
    go_ret
    refine⟨.string (s.extract st.pos (st.pos+m)),_,_,rfl,⟨?_,rfl,rfl⟩,?_⟩
    ·rw[HT.out,qh,Nat.add_sub_cancel_left,H4.out]
    ·rw[HT.out];refine ((((LN F w (Sep.one (R:=aV b 134 #[.string s,.int .i64 st.pos,.int .i64 st.err]) ⟨HB.out,hF⟩)).drewN _).set 0 rfl 1 (.int .i64 (st.pos+m))).drewN _).weaken 0 rfl (A':=InR b { st with rest:=st.rest.drop m,pos:=st.pos+m }) ?_;rintro G ⟨k1,k2⟩;have h2:=H2.out;refine⟨s,k1,?_,h3,?_,k2⟩
     ·simp only[NO]; omega
     ·simp only; rw[<- H4.out,Om]
 ·have H0:(st.err != 0)=true:=bne_iff_ne.2 h0;have HH:=Lib.hid h0;clear h0;go_enter Tryz.func67,Tryz.ntmps67
  go_wp2_with fail
  go_ret
  refine⟨_,_,_,rfl,⟨?_,rfl,rfl⟩,?_⟩
  ·simp[cE,HH.out,ba]
  ·simpa [cE,HH.out] using HA.out
theorem JJ (x d:Int) (h0: -9223372036854775808<=x) (h1:x<=9223372036854775807) (hx:x % 256=0) (hd0:0<=d) (hd1:d<256):bits .or .i64 x d=x+d:=by
 have e1:(BitVec.ofInt 64 x).toNat=(x % 18446744073709551616).toNat:=by simp[BitVec.toNat_ofInt]
 have e2:(BitVec.ofInt 64 d).toNat=d.toNat:=by simp[BitVec.toNat_ofInt]; omega
 show IntKind.i64.wrap (((BitVec.ofInt 64 x) ||| (BitVec.ofInt 64 d)).toNat:Int)=x+d;rw[BitVec.toNat_or,e1,e2];generalize ha:(x % 18446744073709551616).toNat=a;have ha2:a % 256=0:=by omega
 have hq:a=2 ^ 8*(a / 256):=by omega
 have hb:d.toNat<2 ^ 8:=by omega
 have ho:a ||| d.toNat=a+d.toNat:=by
  rw[hq,<- Nat.two_pow_add_eq_or_of_lt hb (a / 256)]
 rw[ho,IntKind.wrap_i64];omega
def sgn (c:UInt8):Int:=if c.toNat<128 then c.toNat else (c.toNat:Int) - 256
theorem Hi (c:UInt8):wrap64 (IntKind.i8.wrap (c.toNat:Int))=sgn c:=by
 have:=c.toNat_lt;have e:IntKind.i8.wrap (c.toNat:Int)=sgn c:=by
  unfold sgn;simp[IntKind.wrap,IntKind.bits,IntKind.signed];split <;> split <;> omega
 rw[e];unfold sgn wrap64;split <;> omega
def ek:List UInt8->Int
 | []=>0
 | c::cs=>cs.foldl (fun n d=>n*256+d.toNat) (sgn c)
theorem sf (l:List UInt8) (d:UInt8) (h:l ≠ []):ek (l ++ [d])=ek l*256+d.toNat:=by
 cases l with
 | nil=>exact absurd rfl h
 | cons c cs=>simp[ek]
theorem Dk (cs:List UInt8): ∀ (n:Int) (m:Nat),1<=m-> -(2 ^ (m - 1):Int)<=n->n<(2 ^ (m - 1):Int) ->
 -(2 ^ (m+8*cs.length - 1):Int)<=cs.foldl (fun n d=>n*256+(d.toNat:Int)) n/\cs.foldl (fun n d=>n*256+(d.toNat:Int)) n<(2 ^ (m+8*cs.length - 1):Int):=by
 induction cs with
 | nil=>intro n m _ h1 h2; exact⟨h1,h2⟩
 | cons c cs ih =>
  intro n m hm h1 h2;have:=c.toNat_lt;have e:(2 ^ (m+8 - 1):Int)=256*2 ^ (m - 1):=by
   rw[show m+8 - 1=8+(m - 1) by omega,Int.pow_add];rfl
  have h3:=ih (n*256+c.toNat) (m+8) QR (by rw[e]; omega) (by rw[e]; omega);rw[show m+8*(c::cs).length - 1=m+8+8*cs.length - 1 by simp; omega];exact h3
theorem qi (l:List UInt8) (h:l ≠ []): -(2 ^ (8*l.length - 1):Int)<=ek l/\ek l<(2 ^ (8*l.length - 1):Int):=by
 cases l with
 | nil=>exact absurd rfl h
 | cons c cs =>
  have hc:=c.toNat_lt;have:=Dk cs (sgn c) 8 QR (by unfold sgn; split <;> omega) (by unfold sgn; split <;> omega);rw[show 8*(c::cs).length - 1=8+8*cs.length - 1 by simp; omega];exact this
theorem sU (l:List UInt8) (h:l ≠ []) (h7:l.length<=7): -36028797018963968<=ek l/\ek l<36028797018963968:=by
 have hr:=qi l h;have hp:(2 ^ (8*l.length - 1):Int)<=36028797018963968:=by
  have h1:(2 ^ (8*l.length - 1):Nat)<=2 ^ 55:=Nat.pow_le_pow_right QS QR;have h2:((2 ^ (8*l.length - 1):Nat):Int)<=((2 ^ 55:Nat):Int):=Int.ofNat_le.2 h1;rw[Int.natCast_pow,Int.natCast_pow] at h2;exact h2
 generalize (2 ^ (8*l.length - 1):Int)=z at *;omega
theorem Dl (q d:Int) (h0: -36028797018963968<=q) (h1:q<36028797018963968) (hd0:0<=d) (hd1:d<256):bits .or .i64 (wrap64 (q*256)) (wrap64 d)=q*256+d:=by
 have e2:wrap64 (q*256)=q*256:=by unfold wrap64; omega
 have e3:wrap64 d=d:=by unfold wrap64; omega
 rw[e2,e3,JJ _ _ QR QR QR hd0 hd1]
theorem Dm (l:List UInt8):(ba l).toList.isEmpty=l.isEmpty:=by
 have e:(ba l).toList=l:=ByteArray.toList_mk l;rw[e]
theorem sV (l:List UInt8) (i:Nat) (h:i<(ba l).size):(ba l)[i]=l[i]'(by simpa [cw] using h):=by
 simp[ba]; rfl
def fk (st:I) (size:Int):Int×I:=if 1<=size/\size<=8 then (ek (cE st size).1,(cE st size).2) else (0,dz st 4)
theorem zm (st:I) (n:Int):(cE st n).1.length<=n.toNat:=by
 unfold cE;split
 ·simp
 ·split
  ·simp
  ·split
   ·simp
   ·simp; omega
theorem ud (b:Nat) (st:I) (size:Int) :
 hC Tryz.prog 68 #[.pointer (some ⟨b,0,none⟩),.int .i64 size] (InR b st) (fun v A' N=>v= .int .i64 (fk st size).1/\A'=InR b (fk st size).2/\N = []):=by
 intro F w hA;by_cases hs:1<=size/\size<=8
 ·obtain⟨k,rfl⟩: ∃ k:Nat,size=k:=⟨size.toNat,by omega⟩;have HI:=Lib.hid (show fk st k=(ek (cE st k).1,(cE st k).2) by simp only[fk,hs]; simp);have HA:=Lib.hid (LN F w (Sep.one hA));clear hA;go_enter Tryz.func68,Tryz.ntmps68
  go_wp2_with fail
  refine (HA.out.call 0 rfl (eC b st k QR QR)).mono ?_;rintro e w1 ⟨v,A',N,rfl,⟨rfl,rfl,rfl⟩,H1⟩;have HS1:=Lib.hid H1;have hlen:=zm st k;clear H1;generalize hl:(cE st k).1=l at *;have hne:=Dm l;have HL:=Lib.hid hl;clear hl
  cases l with
  | nil =>
   simp only[List.isEmpty_nil] at hne;go_wp2_with fail
   go_ret
   exact⟨_,_,_,rfl,⟨by rw[HI.out]; rfl,rfl,rfl⟩,by rw[HI.out]; exact HS1.out⟩
  | cons c cs =>
   have hsz:=cw (c::cs);have h0:=sV (c::cs) 0 (by simp[cw]);have HG:=Lib.hid (sV (c::cs));have hsg:=Hi c;have hl8:cs.length<=7:=by simp at hlen; omega
   simp only[List.getElem_cons_zero,List.isEmpty_cons] at h0 hne;go_wp2_with fail
   go_loopw [6,7] (fun n i wr=>wr=w1/\ ∃ j:Nat,1<=j/\j<=cs.length+1/\i= .int .i64 j/\n= .int .i64 (ek ((c::cs).take j))) (fun _ i _=>cs.length+1 - (intOf i).toNat)
   case atStart=>exact⟨rfl,1,by omega,by omega,rfl,by simp[ek,hsg]⟩
   case round =>
    obtain⟨rfl,j,hj1,hj2,rfl,rfl⟩:=hrel;by_cases hlt:j<cs.length+1
    ·have hgj:=HG.out j (by rw[hsz]; simpa using hlt);have hb:j<=9223372036854775806:=by omega
     have hnn:(c::cs).take j ≠ []:=by intro h; have:=congrArg List.length h; simp at this; omega
     have hr:=sU ((c::cs).take j) hnn (by simp; omega);generalize hq:ek ((c::cs).take j)=q at *;have HQ:=Lib.hid hq;have HR:=Lib.hid hr;clear hq hr;go_wp2_with fail
     go_roundw
     case rel =>
      refine⟨trivial,j+1,by omega,by omega,by go_num,?_⟩;have hd:=((c::cs)[j]'(by simpa using hlt)).toNat_lt;have e1:(c::cs).take (j+1)=(c::cs).take j ++ [(c::cs)[j]'(by simpa using hlt)]:=by
       rw[List.take_succ_eq_append_getElem (by simpa using hlt)]
      rw[e1,sf _ _ hnn,HQ.out,Dl q _ HR.out.1 HR.out.2 QR QR]
     case measure=>simp[intOf]; omega
    ·have e1:j=cs.length+1:=by omega
     have e2:(c::cs).take (cs.length+1)=c::cs:=List.take_of_length_le (by simp);have hb:(c::cs).length=cs.length+1:=rfl;go_wp2_with fail
     go_ret
     exact⟨_,_,_,rfl,⟨by rw[HI.out,e1,e2]; rfl,rfl,rfl⟩,by rw[HI.out]; exact HS1.out⟩
 ·have HI:=Lib.hid (show fk st size=(0,dz st 4) by simp only[fk,hs]; simp);have HA:=Lib.hid (LN F w (Sep.one hA));clear hA;by_cases h1:size<1;all_goals
   go_enter Tryz.func68,Tryz.ntmps68
   go_wp2_with fail
   refine (HA.out.call 0 rfl (hM b st 4)).mono ?_
   rintro e w1 ⟨v,A',N,rfl,⟨rfl,rfl,rfl⟩,H1⟩
   have HS1:=Lib.hid H1
   clear H1
   go_wp2_with fail
   go_ret
   exact⟨_,_,_,rfl,⟨by rw[HI.out]; rfl,rfl,rfl⟩,by rw[HI.out]; exact HS1.out⟩
theorem InR.err {b:Nat} {st:I} {w:World} {F0:Nat->Prop} {w0:World} {Rs:List Res} (i:Nat) (h:St F0 w0 Rs w) (hi:Rs[i]? = some (InR b st)) :
 w.cell? ⟨b,2,none⟩=some (.int .i64 st.err)/\w.cell? ⟨b,1,none⟩=some (.int .i64 st.pos):=by
 obtain⟨G,⟨s,h1,_⟩,_⟩:=h.get i hi;exact⟨(bt h1 2).trans rfl,(bt h1 1).trans rfl⟩
theorem InR.len {b:Nat} {st:I} {w:World} {F0:Nat->Prop} {w0:World} {Rs:List Res} (i:Nat) (h:St F0 w0 Rs w) (hi:Rs[i]? = some (InR b st)):st.rest.length<=9223372036854775807:=by
 obtain⟨G,⟨s,h1,h2,h3,_⟩,_⟩:=h.get i hi;omega
theorem rj (b:Nat) (st:I):hC Tryz.prog 23 #[.pointer (some ⟨b,0,none⟩)] (InR b st) (fun v A' N=>v= .int .i64 st.err/\A'=InR b st/\N = []):=by
 intro F w hA;have hs:=LN F w (Sep.one hA);have c2:=(InR.err 0 hs rfl).1;have HS:=Lib.hid hs;clear hs hA;go_enter Tryz.func23,Tryz.ntmps23
 go_wp2
 go_ret
 exact⟨_,_,_,rfl,⟨rfl,rfl,rfl⟩,HS.out⟩
def fM (st:I):I:=if st.rest = [] then st else dz st 2
theorem Dn (b:Nat) (st:I):hC Tryz.prog 21 #[.pointer (some ⟨b,0,none⟩)] (InR b st) (fun v A' N=>v= .int .i64 (fM st).err/\A'=InR b (fM st)/\N = []):=by
 intro F w hA;have HS:=Lib.hid (LN F w (Sep.one hA));clear hA;by_cases h:st.rest = []
 ·have HC:=Lib.hid (show fM st=st by simp[fM,h]);have hl:st.rest.length=0:=by simp[h]
  have HL:=Lib.hid hl;have hl2: ¬ ((0:Int)<st.rest.length):=by omega
  clear h hl;go_enter Tryz.func21,Tryz.ntmps21
  go_wp2_with fail
  refine (HS.out.call 0 rfl (oC b st)).mono ?_;rintro e w1 ⟨v,A',N,rfl,⟨rfl,rfl,rfl⟩,H1⟩;have c2:=(InR.err 0 H1 rfl).1;have HS1:=Lib.hid H1;clear H1;go_wp2_with fail
  go_ret
  exact⟨_,_,_,rfl,⟨by rw[HC.out]; rfl,rfl,rfl⟩,by rw[HC.out]; exact HS1.out⟩
 ·have HC:=Lib.hid (show fM st=dz st 2 by simp[fM,h]);have hl2:(0:Int)<st.rest.length:=by
   have:=List.length_pos_iff.2 h;omega
  clear h;go_enter Tryz.func21,Tryz.ntmps21
  go_wp2_with fail
  refine (HS.out.call 0 rfl (oC b st)).mono ?_;rintro e w1 ⟨v,A',N,rfl,⟨rfl,rfl,rfl⟩,H1⟩;have HS1:=Lib.hid H1;clear H1;go_wp2_with fail
  refine (HS1.out.call 0 rfl (hM b st 2)).mono ?_;rintro e w2 ⟨v,A',N,rfl,⟨rfl,rfl,rfl⟩,H2⟩;have c2:=(InR.err 0 H2 rfl).1;have HS2:=Lib.hid H2;clear H2;go_wp2_with fail
  go_ret
  exact⟨_,_,_,rfl,⟨by rw[HC.out]; rfl,rfl,rfl⟩,by rw[HC.out]; exact HS2.out⟩
def l6 (st:I) (size each:Int):Int×I :=
 if (fk st size).2.err≠0 then (0,(fk st size).2)
 else if (fk st size).1<0 then (0,dz (fk st size).2 4)
 else if 0<each/\((fk st size).2.rest.length:Int) / each<(fk st size).1 then (0,dz (fk st size).2 1)
 else fk st size
theorem Do (b:Nat) (st:I) (size each:Int) :
 hC Tryz.prog 144 #[.pointer (some ⟨b,0,none⟩),.int .i64 size,.int .i64 each] (InR b st) (fun v A' N=>v= .int .i64 (l6 st size each).1/\A'=InR b (l6 st size each).2/\N = []):=by
 intro F w hA;have HS:=Lib.hid (LN F w (Sep.one hA));clear hA;have HC:=Lib.hid (show l6 st size each= _ from rfl);generalize hq:l6 st size each=q at HC ⊢;have HC2:=Lib.hid (show q=l6 st size each from hq.symm);clear hq HC;have HC3:=Lib.hid (show q=(if (fk st size).2.err≠0 then (0,(fk st size).2)
  else if (fk st size).1<0 then (0,dz (fk st size).2 4)
  else if 0<each/\((fk st size).2.rest.length:Int) / each<(fk st size).1 then (0,dz (fk st size).2 1)
  else fk st size) from HC2.out)
 clear HC2;have h1:=ud b st size;generalize fk st size=r at *;obtain⟨n,st1⟩:=r;have HN:=Lib.hid h1;clear h1;by_cases h0:st1.err=0
 ·have H0:(st1.err != 0)=false:=by simp[h0]
  have HH:=Lib.hid h0;clear h0;by_cases hn:n<0
  ·have HQ:=Lib.hid (show q=(0,dz st1 4) by rw[HC3.out]; simp[HH.out,hn]);go_enter Qx,Qr
   go_wp2_with fail
   refine (HS.out.call 0 rfl HN.out).mono ?_;rintro e w1 ⟨v,A',N,rfl,⟨rfl,rfl,rfl⟩,H1⟩;have c2:=(InR.err 0 H1 rfl).1;have HS1:=Lib.hid H1;clear H1;go_wp2_with fail
   refine (HS1.out.call 0 rfl (hM b st1 4)).mono ?_;rintro e w2 ⟨v,A',N,rfl,⟨rfl,rfl,rfl⟩,H2⟩;have HS2:=Lib.hid H2;clear H2;go_wp2_with fail
   go_ret
   exact⟨_,_,_,rfl,⟨by rw[HQ.out]; rfl,rfl,rfl⟩,by rw[HQ.out]; exact HS2.out⟩
  ·by_cases he:0<each
   ·have hd0:0<=(st1.rest.length:Int):=by omega
    by_cases hc:(st1.rest.length:Int) / each<n
    ·have HQ:=Lib.hid (show q=(0,dz st1 1) by rw[HC3.out]; simp[HH.out,hn,he,hc]);go_enter Qx,Qr
     go_wp2_with fail
     refine (HS.out.call 0 rfl HN.out).mono ?_;rintro e w1 ⟨v,A',N,rfl,⟨rfl,rfl,rfl⟩,H1⟩;have c2:=(InR.err 0 H1 rfl).1;have hb:=InR.len 0 H1 rfl;have hq1:0<=(st1.rest.length:Int) / each:=Int.ediv_nonneg hd0 QR;have hq2:(st1.rest.length:Int) / each<=9223372036854775807:=Int.le_trans (Int.ediv_le_self each hd0) QR;have HS1:=Lib.hid H1;clear H1;go_wp2_with fail
     refine (HS1.out.call 0 rfl (oC b st1)).mono ?_;rintro e w2 ⟨v,A',N,rfl,⟨rfl,rfl,rfl⟩,H2⟩;have HS2:=Lib.hid H2;clear H2;go_wp2_with fail
     refine (HS2.out.call 0 rfl (hM b st1 1)).mono ?_;rintro e w2 ⟨v,A',N,rfl,⟨rfl,rfl,rfl⟩,H3⟩;have HS3:=Lib.hid H3;clear H3;go_wp2_with fail
     go_ret
     exact⟨_,_,_,rfl,⟨by rw[HQ.out]; rfl,rfl,rfl⟩,by rw[HQ.out]; exact HS3.out⟩
    ·have HQ:=Lib.hid (show q=(n,st1) by rw[HC3.out]; simp[HH.out,hn,hc]);go_enter Qx,Qr
     go_wp2_with fail
     refine (HS.out.call 0 rfl HN.out).mono ?_;rintro e w1 ⟨v,A',N,rfl,⟨rfl,rfl,rfl⟩,H1⟩;have c2:=(InR.err 0 H1 rfl).1;have hb:=InR.len 0 H1 rfl;have hq1:0<=(st1.rest.length:Int) / each:=Int.ediv_nonneg hd0 QR;have hq2:(st1.rest.length:Int) / each<=9223372036854775807:=Int.le_trans (Int.ediv_le_self each hd0) QR;have HS1:=Lib.hid H1;clear H1;go_wp2_with fail
     refine (HS1.out.call 0 rfl (oC b st1)).mono ?_;rintro e w2 ⟨v,A',N,rfl,⟨rfl,rfl,rfl⟩,H2⟩;have HS2:=Lib.hid H2;clear H2;go_wp2_with fail
     go_ret
     exact⟨_,_,_,rfl,⟨by rw[HQ.out]; rfl,rfl,rfl⟩,by rw[HQ.out]; exact HS2.out⟩
   ·have HQ:=Lib.hid (show q=(n,st1) by rw[HC3.out]; simp[HH.out,hn,he]);go_enter Qx,Qr
    go_wp2_with fail
    refine (HS.out.call 0 rfl HN.out).mono ?_;rintro e w1 ⟨v,A',N,rfl,⟨rfl,rfl,rfl⟩,H1⟩;have c2:=(InR.err 0 H1 rfl).1;have HS1:=Lib.hid H1;clear H1;go_wp2_with fail
    go_ret
    exact⟨_,_,_,rfl,⟨by rw[HQ.out]; rfl,rfl,rfl⟩,by rw[HQ.out]; exact HS1.out⟩
 ·have H0:(st1.err != 0)=true:=bne_iff_ne.2 h0;have HQ:=Lib.hid (show q=(0,st1) by rw[HC3.out]; simp[h0]);clear h0;go_enter Qx,Qr
  go_wp2_with fail
  refine (HS.out.call 0 rfl HN.out).mono ?_;rintro e w1 ⟨v,A',N,rfl,⟨rfl,rfl,rfl⟩,H1⟩;have c2:=(InR.err 0 H1 rfl).1;have HS1:=Lib.hid H1;clear H1;go_wp2_with fail
  go_ret
  exact⟨_,_,_,rfl,⟨by rw[HQ.out]; rfl,rfl,rfl⟩,by rw[HQ.out]; exact HS1.out⟩
theorem sW (l:List UInt8) (j:Nat) (h:j<l.length):l.take (j+1)=l.take j ++ [l[j]]:=List.take_succ_eq_append_getElem h
theorem r6 {l:List UInt8} {j:Nat} (h:j<l.length) (h0:0<j):l.take j ≠ []:=by
 intro he;have:=congrArg List.length he;rw[On,Of] at this;omega
theorem BJ (l:List UInt8) (h8:l.length<=8) (w:World) :
 Calls Tryz.prog 25 #[.string (ba l)] w fun e w'=>e= .returned (.int .i64 (ek l))/\w=w':=by
 have hsz:=cw l;have hl8:(ba l).size<=8:=by omega
 have HG:=Lib.hid (sV l);go_enter Tryz.func25,Tryz.ntmps25
 go_wp2_with fail
 go_loop [3,4] (fun n i=> ∃ j:Nat,j<=l.length/\i= .int .i64 j/\n= .int .i64 (ek (l.take j))) (fun _ i=>l.length - (intOf i).toNat)
 case atStart=>exact⟨0,by omega,rfl,by simp[ek]⟩
 case round =>
  obtain⟨j,hj,rfl,rfl⟩:=hrel;by_cases hlt:j<l.length
  ·have hgj:=HG.out j QR;have hs:j<(ba l).size:=by omega
   have HT:=Lib.hid (sW l j hlt);have hc:=l[j].toNat_lt;generalize l[j]=c at *;by_cases hj0:j=0
   ·subst hj0;have HE:=Lib.hid (show ek (l.take (0+1))=sgn c by rw[HT.out]; simp[ek]);have hb0:ek (l.take 0)=0:=by simp[ek]
    clear HT;rw[hb0];clear hb0;by_cases h128:c.toNat<128;all_goals
     go_wp2_with fail
     go_round
     case rel=>exact⟨0+1,by omega,by go_num,by rw[HE.out]; simp[sgn]; first | done | omega⟩
     case measure=>simp[intOf]; omega
   ·have hne:=r6 hlt QR;have hr:=sU (l.take j) hne (by simp; omega);have HE:=Lib.hid (show ek (l.take (j+1))=ek (l.take j)*256+c.toNat by rw[HT.out,sf _ _ hne]);clear HT;have HN:=Lib.hid hne;clear hne;generalize ek (l.take j)=q at *;have h0:((j:Int) == 0)=false:=by simp; omega
    have hr1:=hr.1;have hr2:=hr.2;go_wp2_with fail
    go_round
    case rel=>exact⟨j+1,by omega,by go_num,by rw[HE.out]⟩
    case measure=>simp[intOf]; omega
  ·have e1:j=l.length:=by omega
   have e2:=List.take_of_length_le (l:=l) (i:=l.length) (N0 _);have E1:=Lib.hid e1;have E2:=Lib.hid e2;clear e1 e2;go_wp2_with fail
   go_ret
   exact⟨ko (by rw[E1.out,E2.out]),rfl⟩
def iJ (l:List UInt8):Array Value:=(bp l).toArray
theorem BK (l:List UInt8) (i:Nat):(iJ l)[i]? = l[i]?.map fun b=>Value.int .u8 b.toNat:=by simp[iJ,bp]
theorem BL (l:List UInt8) (i:Nat) (c:UInt8):(iJ l).setIfInBounds i (.int .u8 c.toNat)=iJ (l.set i c):=by
 simp[iJ,bp]
theorem aE (n:Int) (k:Nat):(be n k).length=k:=by simp[be]
theorem Dp (k:Nat) (hk:k<=140737488355328) (w:World):(Instr.makeSlice 72 (.int .i64 k) (.int .i64 k)).run Tryz.prog w =
 .ok (.slice (some ⟨w.heap.size,0,none⟩) k k) (w.alloc (.cells (iJ (List.replicate k 0)) 5)):=by
 obtain⟨i,hi,hzz⟩:=Option.map_eq_some_iff.1 qe;simp only[Prod.mk.injEq] at hzz;rw[run_make w 72 5 i (.int .u8 0) Tryz.underlying72 hi hzz.1 .i64 .i64 k k QR QR (by rw[hzz.2.2]; omega) QR];have e:madeCells (Value.int .u8 0).cells ((k:Int).toNat*i.size)=iJ (List.replicate k 0):=by
  rw[hzz.2.1];simp[madeCells,iJ,bp,Value.cells];apply Array.ext
  ·simp
  ·intro j h1 h2;simp[Nat.mod_one]
 rw[e];rfl
theorem JL (n:Int) (k m:Nat) (h:m<k):(be n k).drop m=UInt8.ofNat ((n / (2 ^ (8*(k - 1 - m)):Int)) % 256).toNat::(be n k).drop (m+1):=by
 rw[List.drop_eq_getElem_cons (by simpa [be] using h)];simp[be]
theorem Hj (n:Int) (a:Nat):n / 2 ^ (8*a) / 256=n / (2 ^ (8*(a+1)):Int):=by
 have hp:(0:Int)<2 ^ (8*a):=Int.pow_pos QS;rw[show 8*(a+1)=8*a+8 by omega,Int.pow_add,<- Int.ediv_ediv_of_nonneg (Int.le_of_lt hp)];rfl
theorem JM (q:Int):(q.tmod 256=q % 256/\0<=q.tmod 256)\/(q.tmod 256=q % 256 - 256/\q.tmod 256<0):=by
 rw[Int.tmod_eq_emod];split
 ·left; omega
 ·rename_i h;right;have: ¬ (256 ∣ q):=fun hd=>h (.inr hd);omega
theorem JN (q:Int):(q - q % 256).tdiv 256=q / 256:=by
 have e:q - q % 256=q / 256*256:=by omega
 rw[e,Int.mul_tdiv_cancel _ QS]
theorem JO (n:Int) (a:Nat) (h0: -9223372036854775808<=n) (h1:n<=9223372036854775807): -9223372036854775808<=n / 2 ^ a/\n / 2 ^ a<=9223372036854775807:=by
 have hp:(0:Int)<2 ^ a:=Int.pow_pos QS;generalize (2 ^ a:Int)=p at *;constructor
 ·rcases Int.lt_or_le n 0 with h | h
  ·have:n<=n / p:=by
    rw[Int.le_ediv_iff_mul_le hp];have:n*p<=n*1:=Int.mul_le_mul_of_nonpos_left QR QR;omega
   omega
  ·have:=Int.ediv_nonneg h (Int.le_of_lt hp);omega
 ·rcases Int.lt_or_le n 0 with h | h
  ·have:=Int.ediv_neg_of_neg_of_pos h hp;omega
  ·have:=Int.ediv_le_self p h;omega
theorem vJ {w wr:World} {g k m:Nat} {n q d:Int} (hm:m+1<=k) (hs:St (fun _=>False) w [aV g 5 (iJ (List.replicate (m+1) 0++(be n k).drop (m+1)))] wr)
 (hd:(be n k).drop m=UInt8.ofNat ((n / (2 ^ (8*(k - 1 - m)):Int)) % 256).toNat::(be n k).drop (m+1)) (hq:q=n / 2 ^ (8*(k - 1 - m))) (he:d=q % 256) :
 St (fun _=>False) w [aV g 5 (iJ (List.replicate m 0++(be n k).drop m))] (wr.setCell ⟨g,m,none⟩ (.int .u8 d)):=by
 have h:=hs.set 0 rfl m (.int .u8 d);have e:(.int .u8 d:Value)= .int .u8 (UInt8.ofNat (q % 256).toNat).toNat:=by
  congr 1;simp[UInt8.toNat_ofNat'];omega
 have e2:(List.replicate (m+1) (0:UInt8)++(be n k).drop (m+1)).set m (UInt8.ofNat (q % 256).toNat)=List.replicate m 0++(be n k).drop m:=by
  rw[hd,<- hq,List.replicate_succ',NI,List.set_append_right _ _ (by simp)];simp
 rw[e,BL,e2,<- e] at h;exact h
theorem sg (n:Int) (k:Nat) (h0: -9223372036854775808<=n) (h1:n<=9223372036854775807) (hk:k<=8) :
 j7 Tryz.prog 63 #[.int .i64 n,.int .i64 k] (fun v N=>v= .string (ba (be n k))/\N = []):=by
 intro w;have hmk:=Dp k QR;go_enter Tryz.func63,Tryz.ntmps63
 go_wp2_with fail
 have HW:=Lib.hid ((Mg w).alloc (iJ (List.replicate k 0)) 5);clear hmk
 go_loopw [0,6] (fun q i wr=> ∃ j:Nat,j<=k/\i= .int .i64 ((j:Int) - 1)/\q= .int .i64 (n / 2 ^ (8*(k - j)))/\St (fun _=>False) w [aV w.heap.size 5 (iJ (List.replicate j 0++(be n k).drop j))] wr) (fun _ i _=>(intOf i+1).toNat)
 case atStart=>exact⟨k,by omega,rfl,by simp,by
  have e:(be n k).drop k = []:=List.drop_of_length_le (by simp[be]);rw[e,NW];exact HW.out⟩
 case round =>
  obtain⟨j,hj,rfl,rfl,hst⟩:=hrel;have hr:=JO n (8*(k - j)) h0 h1
  cases j with
  | zero =>
   have hs:=hst.blk 0 rfl;have HS:=Lib.hid hst;clear hst hr;have hrow:wr.ownsRow 0 5 1 (.slice (some ⟨w.heap.size,0,none⟩) k k) k (bp (be n k)):=by
    refine⟨by simp[bp,be],.inr ⟨w.heap.size,k,_,rfl,NY _,hs,N0 _,by simp[maxLen]; omega,?_,?_⟩⟩
    ·simp[iJ,bp,be]
    ·simp only[iJ,List.replicate_zero,NV,List.drop_zero,Nat.mul_one];exact List.take_of_length_le (by simp[bp,be])
   have hc:=se (P:=Tryz.prog) wr (src:=72) (dst:=9) Tryz.underlying72 Tryz.underlying5 Tryz.underlying9 hrow;have HR:=Lib.hid hrow;clear hrow hs;go_wp2_with fail
   go_ret
   exact⟨_,_,rfl,⟨rfl,rfl⟩,HS.out.drop_⟩
  | succ m =>
   rw[show ((m+1:Nat):Int) - 1=m by omega];have hs:=hst.blk 0 rfl;have hcell:wr.cell? ⟨w.heap.size,m,none⟩=some (.int .u8 0):=by
    rw[bt hs m,BK,List.getElem?_append_left (by simp)];simp
   have hfree:wr.frozen? ⟨w.heap.size,m,none⟩=false:=dA hs m;have HN:=Lib.hid (Hj n (k - (m+1)));have HQ:=Lib.hid (show n / 2 ^ (8*(k - (m+1)))=n / 2 ^ (8*(k - 1 - m)) by rw[show k - (m+1)=k - 1 - m by omega]);have HS:=Lib.hid hst;clear hst hs;have hr1:=hr.1;have hr2:=hr.2;clear hr;have HD:=Lib.hid (JL n k m QR);generalize hq:n / 2 ^ (8*(k - (m+1)))=q at *;clear hq;have hd:=JN q;rcases JM q with⟨hm,hneg⟩ | ⟨hm,hneg⟩
   ·have hb1:q.tmod 256<256:=by omega
    have hb2: -9223372036854775808<=q - q.tmod 256:=by omega
    have hb3:q - q.tmod 256<=9223372036854775807:=by omega
    have HM:=Lib.hid hm;have HDV:=Lib.hid hd;clear hm hd;go_wp2_with fail
    go_roundw
    case rel =>
     refine⟨m,by omega,rfl,?_,vJ hj HS.out HD.out HQ.out HM.out⟩;rw[HM.out,HDV.out,HN.out,show k - (m+1)+1=k - m by omega]
    case measure=>simp[intOf]
   ·have hb1: -256<=q.tmod 256:=by omega
    have hb2: -9223372036854775808<=q - (q.tmod 256+256):=by omega
    have hb3:q - (q.tmod 256+256)<=9223372036854775807:=by omega
    have HM:=Lib.hid (show q.tmod 256+256=q % 256 by omega);have HDV:=Lib.hid hd;clear hm hd;go_wp2_with fail
    go_roundw
    case rel =>
     refine⟨m,by omega,rfl,?_,vJ hj HS.out HD.out HQ.out HM.out⟩;rw[HM.out,HDV.out,HN.out,show k - (m+1)+1=k - m by omega]
    case measure=>simp[intOf]
theorem EH (n:Int) (k j:Nat) (h:j<k):(be n k).take (j+1)=(be n k).take j ++ [UInt8.ofNat ((n / (2 ^ (8*(k - 1 - j)):Int)) % 256).toNat]:=by
 rw[List.take_succ_eq_append_getElem (by simpa [be] using h)];simp[be]
theorem BM (n:Int) (k:Nat) (h1:1<=k) (h8:k<=8):bn n k=true ↔ -(2 ^ (8*k - 1):Int)<=n/\n<(2 ^ (8*k - 1):Int):=by
 simp[bn];generalize (2 ^ (8*k - 1):Int)=z;omega
theorem BN (q:Int):((UInt8.ofNat (q % 256).toNat).toNat:Int)=q % 256:=by
 simp[UInt8.toNat_ofNat'];omega
theorem FV (n:Int) (k:Nat) (h8:k<=8) (hf:bn n k=true): ∀ j:Nat,j+1<=k->ek ((be n k).take (j+1))=n / 2 ^ (8*(k - 1 - j)):=by
 intro j
 induction j with
 | zero =>
  intro h;have hb:=(BM n k QR h8).1 hf;rw[EH n k 0 QR];have e1:(2 ^ (8*k - 1):Int)=128*2 ^ (8*(k - 1 - 0)):=by
   rw[show 8*k - 1=7+8*(k - 1 - 0) by omega,Int.pow_add];rfl
  rw[e1] at hb;have hp:(0:Int)<2 ^ (8*(k - 1 - 0)):=Int.pow_pos QS;have hl: -128<=n / 2 ^ (8*(k - 1 - 0)):=by
   rw[Int.le_ediv_iff_mul_le hp]; omega
  have hu:n / 2 ^ (8*(k - 1 - 0))<128:=by
   rw[Int.ediv_lt_iff_lt_mul hp]; omega
  generalize n / 2 ^ (8*(k - 1 - 0))=q at *;have hv:=BN q;generalize (UInt8.ofNat (q % 256).toNat)=c at *;simp[ek,sgn];split <;> omega
 | succ j ih =>
  intro h;have h2:=ih QR;rw[EH n k (j+1) QR,sf _ _ (r6 (by simp[be]; omega) QR),h2,BN];have h3:=Hj n (k - 1 - (j+1));rw[show k - 1 - (j+1)+1=k - 1 - j by omega] at h3;omega
theorem BO (n:Int) (k:Nat) (h1:1<=k) (h8:k<=8) (hf:bn n k=true):ek (be n k)=n:=by
 have h:=FV n k h8 hf (k - 1) QR;rw[show k - 1+1=k by omega,List.take_of_length_le (by simp[be])] at h;rw[h,show k - 1 - (k - 1)=0 by omega];simp
theorem EI (n:Int) (k:Nat) (h1:1<=k) (h8:k<=8):(ek (be n k)=n)↔bn n k=true:=by
 constructor
 ·intro h;rw[BM n k h1 h8,<- h];have:=qi (be n k) (by intro he; have:=congrArg List.length he; simp[be] at this; omega);rw[aE] at this;rw[h] at this ⊢;exact this
 ·exact BO n k h1 h8
theorem FW (n size:Int) (h0: -9223372036854775808<=n) (h1:n<=9223372036854775807) :
 j7 Tryz.prog 206 #[.int .i64 n,.int .i64 size] (fun v N=>v= .bool (bn n size)/\N = []):=by
 intro w;have HS:=Lib.hid (Mg w);by_cases hs:1<=size/\size<=8
 ·obtain⟨k,rfl⟩: ∃ k:Nat,size=k:=⟨size.toNat,by omega⟩;have HI:=Lib.hid (EI n k QR QR);have hlen:=aE n k;go_enter Tryz.func206,Tryz.ntmps206
  go_wp2_with fail
  refine (HS.out.call0 (sg n k h0 h1 QR)).mono ?_;rintro e w1 ⟨v,N,rfl,⟨rfl,rfl⟩,H1⟩;have HS1:=Lib.hid H1;clear H1;go_wp2_with fail
  refine (BJ (be n k) (by rw[hlen]; omega) w1).mono ?_;rintro e w2 ⟨rfl,rfl⟩;go_wp2_with fail
  go_ret
  exact⟨_,_,rfl,⟨congrArg Value.bool (show (ek (be n k) == n)=bn n k by rw[Bool.eq_iff_iff,beq_iff_eq]; exact HI.out),rfl⟩,HS1.out⟩
 ·have HI:=Lib.hid (show bn n size=false by simp[bn]; omega);by_cases h2:size<1;all_goals
   go_enter Tryz.func206,Tryz.ntmps206
   go_wp2_with fail
   go_ret
   exact⟨_,_,rfl,⟨by rw[HI.out]; rfl,rfl⟩,HS.out⟩
def Exit.jumps (J:Nat->Act->World->Prop) (Q:Exit->Act->World->Prop):Exit->Act->World->Prop
 | .goto l,a,w=>J l a w
 | e,a,w=>Q e a w
section
variable {J:Nat->Act->World->Prop} {Q:Exit->Act->World->Prop} {a:Act} {w:World}
end
section
variable {P:Program} {a:Act} {w:World} {Q:Exit->Act->World->Prop}
theorem wb {c:Code} (J:Nat->Act->World->Prop) (μ:Nat->Act->World->Nat)
 (pass: ∀ l a w,J l a w-> ∃ rest,findLabel c l=some (Code.skip.seq rest)/\rest.wp P (Exit.jumps (fun l' a' w'=>J l' a' w'/\μ l' a' w'<μ l a w) Q) a w)
 (first:(∀ l rest a w,findLabel c l=some (Code.skip.seq rest)->J l a w->rest.wp P (Exit.jumps J Q) a w)->c.wp P (Exit.jumps J Q) a w):(Code.scope c).wp P Q a w:=by
 intro b k cs;have hg: ∀ l rest,findLabel c l=some rest->gotoIn l (.inScope c::k)=some (.code rest :: .inScope c::k):=fun l rest hf=>by simp[gotoIn,hf]
 have key: ∀ n l rest a w,findLabel c l=some (Code.skip.seq rest)->μ l a w=n->J l a w-> ∃ e a' w',Q e a' w'/\Arrives P (lone (b.at a (.code (Code.skip.seq rest) :: .inScope c::k)) cs w) b k cs e a' w':=by
  intro n
  induction n using Nat.strongRecOn with
  | _ n ih =>
   intro l rest a w hf hn hJ;obtain⟨rest',hf',hp⟩:=pass l a w hJ;rw[hf] at hf';injection hf' with hf';injection hf' with _ hf';subst hf';obtain⟨e,a₁,w₁,hq,harr⟩:=wp_seq (wp_skip (Q:=Exit.then _ _) hp) b (.inScope c::k) cs
   cases e with
   | normal=>exact⟨.normal,a₁,w₁,hq,Steps.trans harr (.one step_inScope)⟩
   | exit id=>exact⟨.exit id,a₁,w₁,hq,fun k' hk=>harr k' (by simp[exitTo,hk])⟩
   | goto l' =>
    obtain⟨hJ',hlt⟩:=hq;obtain⟨rest₂,hf₂,_⟩:=pass l' a₁ w₁ hJ';obtain⟨e₂,a₂,w₂,hq₂,harr₂⟩:=ih _ QR l' rest₂ a₁ w₁ hf₂ rfl hJ';exact⟨e₂,a₂,w₂,hq₂,.of_steps (harr _ (hg _ _ hf₂)) harr₂⟩
   | ret=>exact⟨_,a₁,w₁,hq,harr⟩
   | panic ch=>exact⟨_,a₁,w₁,hq,harr⟩
   | outgrown=>exact⟨_,a₁,w₁,hq,harr⟩
 obtain⟨e,a₁,w₁,hq,harr⟩:=first (fun l rest a w hf hJ=>by
  obtain⟨rest',hf',hp⟩:=pass l a w hJ;rw[hf] at hf';injection hf' with hf';injection hf' with _ hf';subst hf';refine wp_mono hp ?_;intro e a' w' h;cases e <;> first | exact h | exact h.1) b (.inScope c::k) cs
 cases e with
 | normal=>exact⟨.normal,a₁,w₁,hq,.head step_scope (Steps.trans harr (.one step_inScope))⟩
 | exit id=>exact⟨.exit id,a₁,w₁,hq,fun k' hk=> .head step_scope (harr k' (by simp[exitTo,hk]))⟩
 | goto l' =>
  obtain⟨rest₂,hf₂,_⟩:=pass l' a₁ w₁ hq;obtain⟨e₂,a₂,w₂,hq₂,harr₂⟩:=key _ l' rest₂ a₁ w₁ hf₂ rfl hq;exact⟨e₂,a₂,w₂,hq₂,.of_steps (.head step_scope (harr _ (hg _ _ hf₂))) harr₂⟩
 | ret=>exact⟨_,a₁,w₁,hq,.of_steps (.one step_scope) harr⟩
 | panic ch=>exact⟨_,a₁,w₁,hq,.of_steps (.one step_scope) harr⟩
 | outgrown=>exact⟨_,a₁,w₁,hq,.of_steps (.one step_scope) harr⟩
end
def cO (n:Nat):List UInt8:=if n<128 then [UInt8.ofNat n] else UInt8.ofNat (n % 128+128)::cO (n / 128)
termination_by n
decreasing_by omega
def bw (n:Int):Nat:=if n<0 then (-(n+1)).toNat*2+1 else n.toNat*2
def oD (n:Nat):Int:=if n % 2=1 then -((n / 2:Nat):Int) - 1 else ((n / 2:Nat):Int)
theorem BP (k:Nat): ∀ n:Nat,n<128 ^ (k+1)->(cO n).length<=k+1:=by
 induction k with
 | zero=>intro n h; rw[cO,QX (by simpa using h)]; simp
 | succ k ih =>
  intro n h;rw[cO];split
  ·simp
  ·have:=ih (n / 128) (by rw[Nat.div_lt_iff_lt_mul QS]; rwa [Nat.pow_succ] at h);simp; omega
theorem qj (n:Nat):1<=(cO n).length:=by rw[cO]; split <;> simp
theorem iq (n:Nat) (h:n<18446744073709551616):(cO n).length<=10:=BP 9 n QR
theorem fN (n:Int) (h0: -9223372036854775808<=n) (h1:n<=9223372036854775807):bw n<18446744073709551616:=by unfold bw; split <;> omega
theorem Dq (n:Int):oD (bw n)=n:=by unfold oD bw; split <;> split <;> omega
theorem Dr (n:Nat):bw (oD n)=n:=by unfold oD bw; split <;> split <;> omega
theorem JP (n:Int) (h0: -9223372036854775808<=n) (h1:n<=9223372036854775807) :
 bits .xor .u64 (IntKind.u64.wrap (wrap64 (n*2))) (IntKind.u64.wrap (n / 9223372036854775808))=(bw n:Int):=by
 have e1:IntKind.u64.wrap (wrap64 (n*2))=(n*2) % 18446744073709551616:=by rw[IntKind.wrap_u64]; unfold wrap64; omega
 rw[e1];show IntKind.u64.wrap ((BitVec.ofInt 64 _ ^^^ BitVec.ofInt 64 _).toNat:Int)= _;rcases Int.lt_or_le n 0 with h | h
 ·have e2:IntKind.u64.wrap (n / 9223372036854775808)=18446744073709551615:=by rw[IntKind.wrap_u64]; omega
  rw[e2,show BitVec.ofInt 64 18446744073709551615=BitVec.allOnes 64 by decide,BitVec.xor_allOnes,BitVec.toNat_not,BitVec.toNat_ofInt,IntKind.wrap_u64];simp only[bw,QX h];omega
 ·have e2:IntKind.u64.wrap (n / 9223372036854775808)=0:=by rw[IntKind.wrap_u64]; omega
  rw[e2,show BitVec.ofInt 64 0=0#64 by decide,BitVec.xor_zero,BitVec.toNat_ofInt,IntKind.wrap_u64];simp only[bw,QY (show ¬ n<0 by omega)];omega
theorem EJ (n m:Nat) (hn:n<18446744073709551616) (hm:m<18446744073709551616):bits .and .u64 n m=((n &&& m:Nat):Int):=by
 show IntKind.u64.wrap ((BitVec.ofInt 64 _ &&& BitVec.ofInt 64 _).toNat:Int)= _;rw[BitVec.toNat_and,BitVec.toNat_ofInt,BitVec.toNat_ofInt,IntKind.wrap_u64];have e1:((n:Int) % (2 ^ 64:Nat)).toNat=n:=by omega
 have e2:((m:Int) % (2 ^ 64:Nat)).toNat=m:=by omega
 rw[e1,e2];have:n &&& m<=m:=Nat.and_le_right;omega
theorem FX (n:Nat) (hn:n<18446744073709551616):bits .and .u64 n 1=((n % 2:Nat):Int):=by
 have h:=EJ n 1 hn QS;rw[Nat.and_one_is_mod] at h;exact h
theorem JR (n:Nat) (hn:n<18446744073709551616):bits .xor .i64 ((n:Int) / 2) (wrap64 (-wrap64 (bits .and .u64 n 1)))=oD n:=by
 rw[FX n hn];show IntKind.i64.wrap ((BitVec.ofInt 64 _ ^^^ BitVec.ofInt 64 _).toNat:Int)= _;rcases Nat.mod_two_eq_zero_or_one n with h | h
 ·rw[h];have e2:wrap64 (-wrap64 ((0:Nat):Int))=0:=by unfold wrap64; omega
  rw[e2,show BitVec.ofInt 64 0=0#64 by decide,BitVec.xor_zero,BitVec.toNat_ofInt,IntKind.wrap_i64];simp only[oD,h];simp;omega
 ·rw[h];have e2:wrap64 (-wrap64 ((1:Nat):Int))= -1:=by unfold wrap64; omega
  rw[e2,show BitVec.ofInt 64 (-1)=BitVec.allOnes 64 by decide,BitVec.xor_allOnes,BitVec.toNat_not,BitVec.toNat_ofInt,IntKind.wrap_i64];simp only[oD,h];simp;omega
theorem JS: ∀ x:Fin 256,bits .or .u8 ((x.val:Nat):Int) 128=((x.val % 128+128:Nat):Int):=by decide
theorem or_128 (x:Nat) (h:x<256):bits .or .u8 (x:Int) 128=((x % 128+128:Nat):Int):=JS ⟨x,h⟩
theorem zn (n:Int) (h0: -9223372036854775808<=n) (h1:n<=9223372036854775807) (w:World) :
 Calls Tryz.prog 216 #[.int .i64 n] w fun e w'=>e= .returned (.int .u64 (bw n))/\w=w':=by
 have H:=Lib.hid (JP n h0 h1);go_enter Tryz.func216,Tryz.ntmps216
 go_wp2_with fail
 go_ret
 exact⟨ko H.out,rfl⟩
theorem zo (n:Nat) (hn:n<18446744073709551616) (w:World) :
 Calls Tryz.prog 177 #[.int .u64 n] w fun e w'=>e= .returned (.int .i64 (oD n))/\w=w':=by
 have H:=Lib.hid (JR n hn);go_enter Tryz.func177,Tryz.ntmps177
 go_wp2_with fail
 go_ret
 exact⟨ko H.out,rfl⟩
theorem zp (b:Nat) (st:List UInt8×Int) (n:Nat) (hn:n<18446744073709551616) (hl:st.1.length+10<=140737488355328) :
 hC Tryz.prog 215 #[.pointer (some ⟨b,0,none⟩),.int .u64 n] (bC b st) (fun v A' N=>v= .tuple #[]/\A'=bC b (jJ st (cO n))/\N = []):=by
 intro F w hA;have HA:=Lib.hid (LN F w (Sep.one hA));clear hA;have HT:=Lib.hid (iq n hn);go_enter Tryz.func215,Tryz.ntmps215
 go_wp2_with fail
 go_loopw [1] (fun i wr=> ∃ (m:Nat) (p:List UInt8),m<=n/\p++cO m=cO n/\i= .int .u64 m/\St F w [bC b (jJ st p)] wr) (fun i _=>(intOf i).toNat)
 case atStart=>exact⟨n,[],N0 _,rfl,rfl,by rw[BI]; exact HA.out⟩
 case round =>
  obtain⟨m,p,hm,hp,rfl,hst⟩:=hrel;have hlen:(jJ st p).1.length+1<=140737488355328:=by
   have h1:=sS st p;have h2:=HT.out;have h3:=qj m;rw[<- hp,NE] at h2;omega
  have HS:=Lib.hid hst;clear hst;by_cases hlt:128<=m
  ·have ho:=or_128 (m % 256) QR;have e1:(m:Int) % 256=((m % 256:Nat):Int):=by omega
   rw[<- e1] at ho;have e2:m % 256 % 128=m % 128:=by omega
   rw[e2] at ho;have HO:=Lib.hid ho;have HP:=Lib.hid (show p ++ [UInt8.ofNat (m % 128+128)]++cO (m / 128)=cO n by rw[<- hp,cO.eq_1 m,QY QR]; simp);clear hp ho e1 e2;go_wp2_with fail
   rw[HO.out];refine (HS.out.call 0 rfl (pc b _ ((m % 128+128:Nat):Int) QR QR hlen)).mono ?_;rintro e w1 ⟨v,A',N,rfl,⟨rfl,rfl,rfl⟩,H1⟩;rw[uc,OB] at H1;have HS1:=Lib.hid H1;clear H1;go_wp2_with fail
   go_roundw
   case rel=>exact⟨m / 128,_,by omega,HP.out,by go_num,HS1.out⟩
   case measure=>simp[intOf]; omega
  ·have e1:(m:Int) % 256=((m:Nat):Int):=by omega
   have HO:=Lib.hid e1;have HP:=Lib.hid (show p ++ [UInt8.ofNat m]=cO n by rw[<- hp,cO.eq_1 m,QX QR]);clear hp e1;go_wp2_with fail
   refine (HS.out.call 0 rfl (pc b _ (m:Int) QR QR hlen)).mono ?_;rintro e w1 ⟨v,A',N,rfl,⟨rfl,rfl,rfl⟩,H1⟩;rw[uc,OB,HP.out] at H1;have HS1:=Lib.hid H1;clear H1;go_wp2_with fail
   go_end0
   exact⟨_,_,_,rfl,⟨rfl,rfl,rfl⟩,HS1.out⟩
theorem yO (b:Nat) (st:List UInt8×Int) (n:Int) (h0: -9223372036854775808<=n) (h1:n<=9223372036854775807) (hl:st.1.length+10<=140737488355328) :
 hC Tryz.prog 181 #[.pointer (some ⟨b,0,none⟩),.int .i64 n] (bC b st) (fun v A' N=>v= .tuple #[]/\A'=bC b (jJ st (cO (bw n)))/\N = []):=by
 intro F w hA;have HA:=Lib.hid (LN F w (Sep.one hA));clear hA;go_enter Tryz.func181,Tryz.ntmps181
 go_wp2_with fail
 refine (zn n h0 h1 w).mono ?_;rintro e w' ⟨rfl,rfl⟩;go_wp2_with fail
 refine (HA.out.call 0 rfl (zp b _ (bw n) (fN n h0 h1) hl)).mono ?_;rintro e w1 ⟨v,A',N,rfl,⟨rfl,rfl,rfl⟩,H1⟩;have HS1:=Lib.hid H1;clear H1;go_wp2_with fail
 go_end0
 exact⟨_,_,_,rfl,⟨rfl,rfl,rfl⟩,HS1.out⟩
def mz (st:List UInt8×Int) (n:Int):List UInt8×Int:=if -2147483648<=n/\n<=2147483647 then jJ st (cO (bw n)) else mS st 11
theorem eU (n:Int):bn n 4=decide (-2147483648<=n/\n<=2147483647):=by
 have h1:(2 ^ (8*(4:Int).toNat - 1):Int)=2147483648:=by decide
 unfold bn;rw[h1,Bool.eq_iff_iff];simp
theorem sX (b:Nat) (st:List UInt8×Int) (n:Int) (h0: -9223372036854775808<=n) (h1:n<=9223372036854775807) (hl:st.1.length+10<=140737488355328) :
 hC Tryz.prog 182 #[.pointer (some ⟨b,0,none⟩),.int .i64 n] (bC b st) (fun v A' N=>v= .tuple #[]/\A'=bC b (mz st n)/\N = []):=by
 intro F w hA;have HA:=Lib.hid (LN F w (Sep.one hA));clear hA;by_cases hf: -2147483648<=n/\n<=2147483647
 ·have HF:=Lib.hid (show bn n 4=true by rw[eU]; simp[hf]);have HE:=Lib.hid (show mz st n=jJ st (cO (bw n)) by simp[mz,hf]);go_enter Tryz.func182,Tryz.ntmps182
  go_wp2_with fail
  refine (qg n 4 w h0 h1).mono ?_;rintro e w' ⟨rfl,rfl⟩;rw[HF.out];go_wp2_with fail
  refine (zn n h0 h1 w).mono ?_;rintro e w' ⟨rfl,rfl⟩;go_wp2_with fail
  refine (HA.out.call 0 rfl (zp b _ (bw n) (fN n h0 h1) hl)).mono ?_;rintro e w1 ⟨v,A',N,rfl,⟨rfl,rfl,rfl⟩,H1⟩;have HS1:=Lib.hid H1;clear H1;go_wp2_with fail
  go_end0
  exact⟨_,_,_,rfl,⟨rfl,by rw[HE.out],rfl⟩,HS1.out⟩
 ·have HF:=Lib.hid (show bn n 4=false by rw[eU]; simp; omega);have HE:=Lib.hid (show mz st n=mS st 11 by simp[mz,hf]);clear hf;go_enter Tryz.func182,Tryz.ntmps182
  go_wp2_with fail
  refine (qg n 4 w h0 h1).mono ?_;rintro e w' ⟨rfl,rfl⟩;rw[HF.out];go_wp2_with fail
  refine (HA.out.call 0 rfl (ri b st 11)).mono ?_;rintro e w1 ⟨v,A',N,rfl,⟨rfl,rfl,rfl⟩,H1⟩;have HS1:=Lib.hid H1;clear H1;go_wp2_with fail
  go_end0
  exact⟨_,_,_,rfl,⟨rfl,by rw[HE.out],rfl⟩,HS1.out⟩
def vgo (bits:Int):List UInt8->Nat->Nat->Nat->Nat×I
 | [],pos,acc,i=>(0,⟨[],pos,1⟩)
 | c::l,pos,acc,i =>
  if bits - 7*i<=0\/(bits - 7*i<7/\c.toNat % 128 / 2 ^ (bits - 7*i).toNat≠0) then (0,⟨l,pos+1,3⟩)
  else if 128<=c.toNat then vgo bits l (pos+1) (acc+c.toNat % 128*2 ^ (7*i)) (i+1)
  else if c.toNat=0/\0<i then (0,⟨l,pos+1,3⟩)
  else (acc+c.toNat % 128*2 ^ (7*i),⟨l,pos+1,0⟩)
def fh (bits:Int) (st:I):Nat×I:=if st.err≠0 then (0,st) else vgo bits st.rest st.pos 0 0
theorem FY (c:UInt8) (l:List UInt8) (pos:Nat):cE ⟨c::l,pos,0⟩ 1=([c],⟨l,pos+1,0⟩):=by
 unfold cE;rw[QY (by simp),QY QR,QY (by simp only[NJ]; omega)];simp
theorem Ds (pos:Nat):cE ⟨[],pos,0⟩ 1=([],⟨[],pos,1⟩):=by
 unfold cE;rw[QY (by simp),QY QR,QX (by simp)]
 done
theorem vK (d:Nat) (hd:d<256):bits .and .u64 d 127=((d % 128:Nat):Int):=by
 have h:=EJ d 127 QR QS;rw[Nat.and_two_pow_sub_one_eq_mod d 7] at h;exact h
theorem zq (k:Nat) {d:Nat} (hd:d<256):(bits .and .u64 d 127 / 2 ^ k != 0)=decide (d % 128 / 2 ^ k≠0):=by
 rw[vK d hd,show ((d % 128:Nat):Int) / 2 ^ k=((d % 128 / 2 ^ k:Nat):Int) by rw[Int.natCast_ediv,Int.natCast_pow]; rfl];generalize d % 128 / 2 ^ k=z;rw[Bool.eq_iff_iff];simp
theorem AK: ∀ d:Fin 256,(bits .and .u64 ((d.val:Nat):Int) 128 != 0)=decide (128<=d.val):=by decide
theorem nN (d:Nat) (hd:d<256):(bits .and .u64 d 128 != 0)=decide (128<=d):=AK ⟨d,hd⟩
theorem sY (bs:Int) (hb:bs=32\/bs=64) (acc x i:Nat) (hacc:acc<2 ^ (7*i)) (hl:0<bs - 7*i) (hx:x<128) (hd: ¬ (bs - 7*i<7/\x / 2 ^ (bs - 7*i).toNat≠0)) :
 acc+x*2 ^ (7*i)<2 ^ (7*(i+1))/\acc+x*2 ^ (7*i)<2 ^ bs.toNat:=by
 have e1:2 ^ (7*(i+1))=128*2 ^ (7*i):=by rw[show 7*(i+1)=7+7*i by omega,Nat.pow_add]
 have e2:2 ^ bs.toNat=2 ^ (bs - 7*i).toNat*2 ^ (7*i):=by rw[<- Nat.pow_add]; congr 1; omega
 have h1:x<2 ^ (bs - 7*i).toNat:=by
  by_cases h7:bs - 7*i<7
  ·have h2:x / 2 ^ (bs - 7*i).toNat=0:=by
    rcases Nat.eq_zero_or_pos (x / 2 ^ (bs - 7*i).toNat) with h | h
    ·exact h
    ·exact absurd ⟨h7,by omega⟩ hd
   exact (Nat.div_eq_zero_iff.1 h2).resolve_left (by have:=Nat.two_pow_pos (bs - 7*i).toNat; omega)
  ·have:2 ^ 7<=2 ^ (bs - 7*i).toNat:=Nat.pow_le_pow_right QS QR;omega
 have h3:(x+1)*2 ^ (7*i)<=2 ^ (bs - 7*i).toNat*2 ^ (7*i):=Nat.mul_le_mul_right _ h1;have h4:(x+1)*2 ^ (7*i)<=128*2 ^ (7*i):=Nat.mul_le_mul_right _ hx;rw[Nat.add_mul] at h3 h4;rw[e1,e2];omega
theorem EK (bs:Int) (hb:bs=32\/bs=64) (acc d i:Nat) (hacc:acc<2 ^ (7*i)) (hdd:d<256) (hl:0<bs - 7*i) (hd: ¬ (bs - 7*i<7/\d % 128 / 2 ^ (bs - 7*i).toNat≠0)) :
 bits .or .u64 acc (IntKind.u64.wrap (bits .and .u64 d 127*2 ^ (7*i)))=((acc+d % 128*2 ^ (7*i):Nat):Int):=by
 obtain⟨_,h2⟩:=sY bs hb acc (d % 128) i hacc hl QR hd;have h3:2 ^ bs.toNat<=18446744073709551616:=by rcases hb with rfl | rfl <;> decide
 have hlt:acc+d % 128*2 ^ (7*i)<18446744073709551616:=by omega
 rw[vK d hdd];have e1:((d % 128:Nat):Int)*2 ^ (7*i)=((d % 128*2 ^ (7*i):Nat):Int):=by rw[Int.natCast_mul,Int.natCast_pow]; rfl
 have e0:=Nat.two_pow_add_eq_or_of_lt hacc (d % 128);rw[Nat.mul_comm] at e0;rw[e1];generalize d % 128*2 ^ (7*i)=y at *;have e2:IntKind.u64.wrap (y:Int)=y:=by rw[IntKind.wrap_u64]; omega
 rw[e2];show IntKind.u64.wrap ((BitVec.ofInt 64 _ ||| BitVec.ofInt 64 _).toNat:Int)= _;rw[BitVec.toNat_or,BitVec.toNat_ofInt,BitVec.toNat_ofInt];have e3:((acc:Int) % (2 ^ 64:Nat)).toNat=acc:=by omega
 have e4:((y:Int) % (2 ^ 64:Nat)).toNat=y:=by omega
 rw[e3,e4,Nat.or_comm,<- e0,IntKind.wrap_u64];omega
attribute [local go_sem] fz cw
theorem Hk (b:Nat) (st:I) (bs:Int) (h0:st.err≠0) :
 hC Tryz.prog 178 #[.pointer (some ⟨b,0,none⟩),.int .i64 bs] (InR b st) (fun v A' N=>v= .int .u64 0/\A'=InR b st/\N = []):=by
 intro F w hA;have HA:=Lib.hid (LN F w (Sep.one hA));clear hA;have HT:=Lib.hid (show cE st 1=([],st) by simp[cE,h0]);go_enter Tryz.func178,Tryz.ntmps178
 go_wp2_with fail
 go_step3
 go_wp2_with fail
 go_step3
 go_wp2_with fail
 refine (HA.out.call 0 rfl (eC b st 1 QR QR)).mono ?_;rintro e w1 ⟨v,A',N,rfl,⟨rfl,rfl,rfl⟩,H1⟩;rw[HT.out] at H1 ⊢;have HS1:=Lib.hid H1;clear H1;go_wp2_with fail
 go_ret
 exact⟨_,_,_,rfl,⟨rfl,rfl,rfl⟩,HS1.out⟩
def VJ (F:Nat->Prop) (w:World) (b:Nat) (bs:Int) (res:Nat×I) (lab:Nat) (a':Act) (w':World):Prop :=
 (lab=0/\ ∃ (l1:List UInt8) (pos1 acc i:Nat),St F w [InR b ⟨l1,pos1,0⟩] w'/\acc<2 ^ (7*i)/\7*i<bs+7/\vgo bs l1 pos1 acc i=res /\
  ∃ u7 u8 u9 u10 u11 u12 u13 u14 u15 u16 u17 u18 u19 u20 u21 u22 u23 u24 u25 u26 u27 u28 u29 u30 u31 u32 u33 u34 u35 u36 u37 u38 u39 u40 u41 u42 u43 u44 u45 u46 u47 u48 u49 u50 u51 u52 u53 u54 u55,a' = { tmps:= #[.pointer (some ⟨b,0,none⟩),.int .i64 bs,undef,undef,.int .u64 0,.int .u64 acc,.int .i64 (7*i),u7,u8,u9,u10,u11,u12,u13,u14,u15,u16,u17,u18,u19,u20,u21,u22,u23,u24,u25,u26,u27,u28,u29,u30,u31,u32,u33,u34,u35,u36,u37,u38,u39,u40,u41,u42,u43,u44,u45,u46,u47,u48,u49,u50,u51,u52,u53,u54,u55],defers := [] }) \/
 (lab=1/\ ∃ (l1:List UInt8) (pos1:Nat),St F w [InR b ⟨l1,pos1,0⟩] w'/\(0,⟨l1,pos1,3⟩)=res /\
  ∃ u5 u6 u7 u8 u9 u10 u11 u12 u13 u14 u15 u16 u17 u18 u19 u20 u21 u22 u23 u24 u25 u26 u27 u28 u29 u30 u31 u32 u33 u34 u35 u36 u37 u38 u39 u40 u41 u42 u43 u44 u45 u46 u47 u48 u49 u50 u51 u52 u53 u54 u55,a' = { tmps:= #[.pointer (some ⟨b,0,none⟩),.int .i64 bs,undef,undef,.int .u64 0,u5,u6,u7,u8,u9,u10,u11,u12,u13,u14,u15,u16,u17,u18,u19,u20,u21,u22,u23,u24,u25,u26,u27,u28,u29,u30,u31,u32,u33,u34,u35,u36,u37,u38,u39,u40,u41,u42,u43,u44,u45,u46,u47,u48,u49,u50,u51,u52,u53,u54,u55],defers := [] })
def VM (lab:Nat) (a':Act) (_:World):Nat:=if lab=1 then 0 else 100 - (intOf (a'.tmps.getD 6 undef)).toNat
theorem Uns_go (b:Nat) (l:List UInt8) (pos:Nat) (bs:Int) (hb:bs=32\/bs=64) :
 hC Tryz.prog 178 #[.pointer (some ⟨b,0,none⟩),.int .i64 bs] (InR b ⟨l,pos,0⟩) (fun v A' N=>v= .int .u64 (vgo bs l pos 0 0).1/\A'=InR b (vgo bs l pos 0 0).2/\N = []):=by
 intro F w hA;have HA:=Lib.hid (LN F w (Sep.one hA));clear hA;generalize hres:vgo bs l pos 0 0=res;go_enter Tryz.func178,Tryz.ntmps178
 go_wp2_with fail
 refine wb (VJ F w b bs res) VM ?_ ?_
 ·rintro lab a' w1 (⟨rfl,l1,pos1,acc,i,hst,hacc,hi,hg,u7,u8,u9,u10,u11,u12,u13,u14,u15,u16,u17,u18,u19,u20,u21,u22,u23,u24,u25,u26,u27,u28,u29,u30,u31,u32,u33,u34,u35,u36,u37,u38,u39,u40,u41,u42,u43,u44,u45,u46,u47,u48,u49,u50,u51,u52,u53,u54,u55,rfl⟩ | ⟨rfl,l1,pos1,hst,hg,u5,u6,u7,u8,u9,u10,u11,u12,u13,u14,u15,u16,u17,u18,u19,u20,u21,u22,u23,u24,u25,u26,u27,u28,u29,u30,u31,u32,u33,u34,u35,u36,u37,u38,u39,u40,u41,u42,u43,u44,u45,u46,u47,u48,u49,u50,u51,u52,u53,u54,u55,rfl⟩)
  ·refine⟨_,rfl,?_⟩;have HS:=Lib.hid hst;have HG:=Lib.hid hg;have HACC:=Lib.hid hacc;have hb1:bs<=64:=by omega
   clear hst hg hacc
   cases l1 with
   | nil =>
    have HT:=Lib.hid (Ds pos1);go_wp2_with fail
    refine (HS.out.call 0 rfl (eC b _ 1 QR QR)).mono ?_;rintro e w2 ⟨v,A',N,rfl,⟨rfl,rfl,rfl⟩,H1⟩;rw[HT.out] at H1 ⊢;have HS1:=Lib.hid H1;clear H1;go_wp2_with fail
    go_ret
    exact⟨_,_,_,rfl,⟨by rw[<- HG.out]; rfl,by rw[<- HG.out]; rfl,rfl⟩,HS1.out⟩
   | cons c l2 =>
    have HT:=Lib.hid (FY c l2 pos1);have hsz:=cw [c];have h0:=sV [c] 0 (by simp[cw]);simp only[List.getElem_cons_zero] at h0;have hc:c.toNat<256:=c.toNat_lt;by_cases hl:bs - 7*i<=0
    ·have HV:=Lib.hid (show (0,⟨l2,pos1+1,3⟩)=res by rw[<- HG.out,vgo,QX (by first | exact .inl hl | exact .inr ⟨by omega,hq⟩)]);by_cases hz:(bits .and .u64 c.toNat 127 != 0)=true
     ·go_wp2_with fail
      refine (HS.out.call 0 rfl (eC b _ 1 QR QR)).mono ?_;rintro e w2 ⟨v,A',N,rfl,⟨rfl,rfl,rfl⟩,H1⟩;rw[HT.out] at H1 ⊢;have HS1:=Lib.hid H1;clear H1;go_wp2_with fail
      go_step3
      exact⟨.inr ⟨rfl,l2,pos1+1,HS1.out,HV.out,_,_,_,_,_,_,_,_,_,_,_,_,_,_,_,_,_,_,_,_,_,_,_,_,_,_,_,_,_,_,_,_,_,_,_,_,_,_,_,_,_,_,_,_,_,_,_,_,_,_,_,rfl⟩,by simp[VM,intOf]; omega⟩
     ·have hz':(bits .and .u64 c.toNat 127 != 0)=false:=by simpa using hz
      go_wp2_with fail
      refine (HS.out.call 0 rfl (eC b _ 1 QR QR)).mono ?_;rintro e w2 ⟨v,A',N,rfl,⟨rfl,rfl,rfl⟩,H1⟩;rw[HT.out] at H1 ⊢;have HS1:=Lib.hid H1;clear H1;go_wp2_with fail
      go_step3
      exact⟨.inr ⟨rfl,l2,pos1+1,HS1.out,HV.out,_,_,_,_,_,_,_,_,_,_,_,_,_,_,_,_,_,_,_,_,_,_,_,_,_,_,_,_,_,_,_,_,_,_,_,_,_,_,_,_,_,_,_,_,_,_,_,_,_,_,_,rfl⟩,by simp[VM,intOf]; omega⟩
    ·have hl':0<bs - 7*i:=by omega
     by_cases hl7:7<=bs - 7*i
     ·have HD:=Lib.hid (show ¬ (bs - 7*i<7/\c.toNat % 128 / 2 ^ (bs - 7*i).toNat≠0) by omega);have HA2:=Lib.hid (EK bs hb acc c.toNat i HACC.out QR hl' HD.out);have HLT:=Lib.hid (sY bs hb acc (c.toNat % 128) i HACC.out hl' QR HD.out);have HN:=Lib.hid (show ¬ (bs - 7*i<=0\/(bs - 7*i<7/\c.toNat % 128 / 2 ^ (bs - 7*i).toNat≠0)) from fun h=>h.elim (fun h=>by omega) HD.out);by_cases h128:128<=c.toNat
      ·have HV:=Lib.hid (show vgo bs l2 (pos1+1) (acc+c.toNat % 128*2 ^ (7*i)) (i+1)=res by rw[<- HG.out,vgo,QY HN.out,QX h128]);have hbt:(bits .and .u64 c.toNat 128 != 0)=true:=by rw[nN _ hc]; simpa using h128
       go_wp2_with fail
       refine (HS.out.call 0 rfl (eC b _ 1 QR QR)).mono ?_;rintro e w2 ⟨v,A',N,rfl,⟨rfl,rfl,rfl⟩,H1⟩;rw[HT.out] at H1 ⊢;have HS1:=Lib.hid H1;clear H1;go_wp2_with fail
       go_step3
       rw[HA2.out,show (7*(i:Int)+7)=7*((i+1:Nat):Int) by omega];exact⟨.inl ⟨rfl,l2,pos1+1,_,i+1,HS1.out,HLT.out.1,by omega,HV.out,_,_,_,_,_,_,_,_,_,_,_,_,_,_,_,_,_,_,_,_,_,_,_,_,_,_,_,_,_,_,_,_,_,_,_,_,_,_,_,_,_,_,_,_,_,_,_,_,_,rfl⟩,by simp[VM,intOf]; omega⟩
      ·have hbt:(bits .and .u64 c.toNat 128 != 0)=false:=by rw[nN _ hc]; simpa using h128
       by_cases hz:c.toNat=0/\0<i
       ·have HV:=Lib.hid (show (0,⟨l2,pos1+1,3⟩)=res by rw[<- HG.out,vgo,QY HN.out,QY h128,QX hz]);obtain⟨hz1,hz2⟩:=hz;have hz0:((c.toNat:Int) == 0)=true:=by simp[hz1]
        try (have hq0:(bits .and .u64 0 127 / 2 ^ (bs - 7*i).toNat != 0)=false:=by (rw[<- hqb,hz1]; rfl))
        have hi0:0<7*(i:Int):=by omega
        go_wp2_with fail
        refine (HS.out.call 0 rfl (eC b _ 1 QR QR)).mono ?_;rintro e w2 ⟨v,A',N,rfl,⟨rfl,rfl,rfl⟩,H1⟩;rw[HT.out] at H1 ⊢;have HS1:=Lib.hid H1;clear H1;go_wp2_with fail
        go_step3
        exact⟨.inr ⟨rfl,l2,pos1+1,HS1.out,HV.out,_,_,_,_,_,_,_,_,_,_,_,_,_,_,_,_,_,_,_,_,_,_,_,_,_,_,_,_,_,_,_,_,_,_,_,_,_,_,_,_,_,_,_,_,_,_,_,_,_,_,_,rfl⟩,by simp[VM,intOf]; omega⟩
       ·have HV:=Lib.hid (show (acc+c.toNat % 128*2 ^ (7*i),⟨l2,pos1+1,0⟩)=res by rw[<- HG.out,vgo,QY HN.out,QY h128,QY hz]);by_cases hz1:c.toNat=0
        ·have hz0:((c.toNat:Int) == 0)=true:=by simp[hz1]
         try (have hq0:(bits .and .u64 0 127 / 2 ^ (bs - 7*i).toNat != 0)=false:=by (rw[<- hqb,hz1]; rfl))
         have HA3:=Lib.hid (show bits .or .u64 acc (IntKind.u64.wrap (bits .and .u64 0 127*2 ^ (7*i)))=((acc+c.toNat % 128*2 ^ (7*i):Nat):Int) by rw[<- HA2.out,hz1]; rfl);have hi0: ¬ (0<7*(i:Int)):=by omega
         go_wp2_with fail
         refine (HS.out.call 0 rfl (eC b _ 1 QR QR)).mono ?_;rintro e w2 ⟨v,A',N,rfl,⟨rfl,rfl,rfl⟩,H1⟩;rw[HT.out] at H1 ⊢;have HS1:=Lib.hid H1;clear H1;go_wp2_with fail
         all_goals
          go_ret
          exact⟨_,_,_,rfl,⟨by rw[<- HV.out]; exact congrArg (Value.int IntKind.u64) HA3.out,by rw[<- HV.out],rfl⟩,HS1.out⟩
        ·have hz0:((c.toNat:Int) == 0)=false:=by simp; omega
         go_wp2_with fail
         refine (HS.out.call 0 rfl (eC b _ 1 QR QR)).mono ?_;rintro e w2 ⟨v,A',N,rfl,⟨rfl,rfl,rfl⟩,H1⟩;rw[HT.out] at H1 ⊢;have HS1:=Lib.hid H1;clear H1;go_wp2_with fail
         go_ret
         exact⟨_,_,_,rfl,⟨by rw[<- HV.out]; exact congrArg (Value.int IntKind.u64) HA2.out,by rw[<- HV.out],rfl⟩,HS1.out⟩
     ·by_cases hq:c.toNat % 128 / 2 ^ (bs - 7*i).toNat≠0
      ·have HV:=Lib.hid (show (0,⟨l2,pos1+1,3⟩)=res by rw[<- HG.out,vgo,QX (by first | exact .inl hl | exact .inr ⟨by omega,hq⟩)]);have hqb:(bits .and .u64 c.toNat 127 / 2 ^ (bs - 7*i).toNat != 0)=true:=by rw[zq _ hc]; simpa using hq
       go_wp2_with fail
       refine (HS.out.call 0 rfl (eC b _ 1 QR QR)).mono ?_;rintro e w2 ⟨v,A',N,rfl,⟨rfl,rfl,rfl⟩,H1⟩;rw[HT.out] at H1 ⊢;have HS1:=Lib.hid H1;clear H1;go_wp2_with fail
       go_step3
       exact⟨.inr ⟨rfl,l2,pos1+1,HS1.out,HV.out,_,_,_,_,_,_,_,_,_,_,_,_,_,_,_,_,_,_,_,_,_,_,_,_,_,_,_,_,_,_,_,_,_,_,_,_,_,_,_,_,_,_,_,_,_,_,_,_,_,_,_,rfl⟩,by simp[VM,intOf]; omega⟩
      ·have hqb:(bits .and .u64 c.toNat 127 / 2 ^ (bs - 7*i).toNat != 0)=false:=by rw[zq _ hc]; simpa using hq
       have HD:=Lib.hid (show ¬ (bs - 7*i<7/\c.toNat % 128 / 2 ^ (bs - 7*i).toNat≠0) by omega);have HA2:=Lib.hid (EK bs hb acc c.toNat i HACC.out QR hl' HD.out);have HLT:=Lib.hid (sY bs hb acc (c.toNat % 128) i HACC.out hl' QR HD.out);have HN:=Lib.hid (show ¬ (bs - 7*i<=0\/(bs - 7*i<7/\c.toNat % 128 / 2 ^ (bs - 7*i).toNat≠0)) from fun h=>h.elim (fun h=>by omega) HD.out);by_cases h128:128<=c.toNat
       ·have HV:=Lib.hid (show vgo bs l2 (pos1+1) (acc+c.toNat % 128*2 ^ (7*i)) (i+1)=res by rw[<- HG.out,vgo,QY HN.out,QX h128]);have hbt:(bits .and .u64 c.toNat 128 != 0)=true:=by rw[nN _ hc]; simpa using h128
        go_wp2_with fail
        refine (HS.out.call 0 rfl (eC b _ 1 QR QR)).mono ?_;rintro e w2 ⟨v,A',N,rfl,⟨rfl,rfl,rfl⟩,H1⟩;rw[HT.out] at H1 ⊢;have HS1:=Lib.hid H1;clear H1;go_wp2_with fail
        go_step3
        rw[HA2.out,show (7*(i:Int)+7)=7*((i+1:Nat):Int) by omega];exact⟨.inl ⟨rfl,l2,pos1+1,_,i+1,HS1.out,HLT.out.1,by omega,HV.out,_,_,_,_,_,_,_,_,_,_,_,_,_,_,_,_,_,_,_,_,_,_,_,_,_,_,_,_,_,_,_,_,_,_,_,_,_,_,_,_,_,_,_,_,_,_,_,_,_,rfl⟩,by simp[VM,intOf]; omega⟩
       ·have hbt:(bits .and .u64 c.toNat 128 != 0)=false:=by rw[nN _ hc]; simpa using h128
        by_cases hz:c.toNat=0/\0<i
        ·have HV:=Lib.hid (show (0,⟨l2,pos1+1,3⟩)=res by rw[<- HG.out,vgo,QY HN.out,QY h128,QX hz]);obtain⟨hz1,hz2⟩:=hz;have hz0:((c.toNat:Int) == 0)=true:=by simp[hz1]
         try (have hq0:(bits .and .u64 0 127 / 2 ^ (bs - 7*i).toNat != 0)=false:=by (rw[<- hqb,hz1]; rfl))
         have hi0:0<7*(i:Int):=by omega
         go_wp2_with fail
         refine (HS.out.call 0 rfl (eC b _ 1 QR QR)).mono ?_;rintro e w2 ⟨v,A',N,rfl,⟨rfl,rfl,rfl⟩,H1⟩;rw[HT.out] at H1 ⊢;have HS1:=Lib.hid H1;clear H1;go_wp2_with fail
         go_step3
         exact⟨.inr ⟨rfl,l2,pos1+1,HS1.out,HV.out,_,_,_,_,_,_,_,_,_,_,_,_,_,_,_,_,_,_,_,_,_,_,_,_,_,_,_,_,_,_,_,_,_,_,_,_,_,_,_,_,_,_,_,_,_,_,_,_,_,_,_,rfl⟩,by simp[VM,intOf]; omega⟩
        ·have HV:=Lib.hid (show (acc+c.toNat % 128*2 ^ (7*i),⟨l2,pos1+1,0⟩)=res by rw[<- HG.out,vgo,QY HN.out,QY h128,QY hz]);by_cases hz1:c.toNat=0
         ·have hz0:((c.toNat:Int) == 0)=true:=by simp[hz1]
          try (have hq0:(bits .and .u64 0 127 / 2 ^ (bs - 7*i).toNat != 0)=false:=by (rw[<- hqb,hz1]; rfl))
          have HA3:=Lib.hid (show bits .or .u64 acc (IntKind.u64.wrap (bits .and .u64 0 127*2 ^ (7*i)))=((acc+c.toNat % 128*2 ^ (7*i):Nat):Int) by rw[<- HA2.out,hz1]; rfl);have hi0: ¬ (0<7*(i:Int)):=by omega
          go_wp2_with fail
          refine (HS.out.call 0 rfl (eC b _ 1 QR QR)).mono ?_;rintro e w2 ⟨v,A',N,rfl,⟨rfl,rfl,rfl⟩,H1⟩;rw[HT.out] at H1 ⊢;have HS1:=Lib.hid H1;clear H1;go_wp2_with fail
          all_goals
           go_ret
           exact⟨_,_,_,rfl,⟨by rw[<- HV.out]; exact congrArg (Value.int IntKind.u64) HA3.out,by rw[<- HV.out],rfl⟩,HS1.out⟩
         ·have hz0:((c.toNat:Int) == 0)=false:=by simp; omega
          go_wp2_with fail
          refine (HS.out.call 0 rfl (eC b _ 1 QR QR)).mono ?_;rintro e w2 ⟨v,A',N,rfl,⟨rfl,rfl,rfl⟩,H1⟩;rw[HT.out] at H1 ⊢;have HS1:=Lib.hid H1;clear H1;go_wp2_with fail
          go_ret
          exact⟨_,_,_,rfl,⟨by rw[<- HV.out]; exact congrArg (Value.int IntKind.u64) HA2.out,by rw[<- HV.out],rfl⟩,HS1.out⟩
  ·refine⟨_,rfl,?_⟩;have HS:=Lib.hid hst;have HG:=Lib.hid hg;clear hst hg;go_wp2_with fail
   refine (HS.out.call 0 rfl (hM b _ 3)).mono ?_;rintro e w2 ⟨v,A',N,rfl,⟨rfl,rfl,rfl⟩,H1⟩;have HS1:=Lib.hid H1;clear H1;go_wp2_with fail
   go_ret
   exact⟨_,_,_,rfl,⟨by rw[<- HG.out]; rfl,by rw[<- HG.out]; rfl,rfl⟩,HS1.out⟩
 ·intro again;have AG:=Lib.hid again;clear again;go_wp2_with fail
  go_step3
  rename_i hK;exact hK _ _ (AG.out 0 _ _ _ rfl (.inl ⟨rfl,l,pos,0,0,HA.out,by omega,by omega,hres,_,_,_,_,_,_,_,_,_,_,_,_,_,_,_,_,_,_,_,_,_,_,_,_,_,_,_,_,_,_,_,_,_,_,_,_,_,_,_,_,_,_,_,_,_,_,_,_,_,rfl⟩))
theorem BQ (b:Nat) (st:I) (bs:Int) (hb:bs=32\/bs=64) :
 hC Tryz.prog 178 #[.pointer (some ⟨b,0,none⟩),.int .i64 bs] (InR b st) (fun v A' N=>v= .int .u64 (fh bs st).1/\A'=InR b (fh bs st).2/\N = []):=by
 obtain⟨l,pos,er⟩:=st;by_cases h0:er=0
 ·subst h0;exact Uns_go b l pos bs hb
 ·have h:=Hk b ⟨l,pos,er⟩ bs h0;have e:fh bs ⟨l,pos,er⟩=(0,⟨l,pos,er⟩):=by simp[fh,h0]
  rw[e];exact h
theorem vgo_lt (bs:Int) (hb:bs=32\/bs=64): ∀ (l:List UInt8) (pos acc i:Nat),acc<2 ^ (7*i)->(vgo bs l pos acc i).1<2 ^ bs.toNat:=by
 have hp:0<2 ^ bs.toNat:=Nat.two_pow_pos _;intro l
 induction l with
 | nil=>intro pos acc i _; exact hp
 | cons c l ih =>
  intro pos acc i hacc;unfold vgo;split
  ·exact hp
  ·rename_i hn;have h:=sY bs hb acc (c.toNat % 128) i hacc QR QR (fun h=>hn (.inr h));split
   ·exact ih _ _ _ h.1
   ·split
    ·exact hp
    ·exact h.2
theorem Hl (bs:Int) (hb:bs=32\/bs=64) (st:I):(fh bs st).1<2 ^ bs.toNat:=by
 unfold fh;split
 ·exact Nat.two_pow_pos _
 ·exact vgo_lt bs hb _ _ _ _ (by simp)
theorem si (bs:Int) (hb:bs=32\/bs=64) (st:I):(fh bs st).1<18446744073709551616:=by
 have h:=Hl bs hb st;rcases hb with rfl | rfl
 ·have e:2 ^ (32:Int).toNat=4294967296:=by decide
  omega
 ·have e:2 ^ (64:Int).toNat=18446744073709551616:=by decide
  omega
def gx (r:Nat×I):Int×I:=(oD r.1,r.2)
theorem zr (b:Nat) (st:I) :
 hC Tryz.prog 127 #[.pointer (some ⟨b,0,none⟩)] (InR b st) (fun v A' N=>v= .int .i64 (gx (fh 32 st)).1/\A'=InR b (gx (fh 32 st)).2/\N = []):=by
 intro F w hA;have HA:=Lib.hid (LN F w (Sep.one hA));clear hA;have hs:=BQ b st 32 (.inl rfl);have hlt:=si 32 (.inl rfl) st;generalize fh 32 st=r at *;have HS:=Lib.hid hs;clear hs;go_enter Tryz.func127,Tryz.ntmps127
 go_wp2_with fail
 refine (HA.out.call 0 rfl HS.out).mono ?_;rintro e w1 ⟨v,A',N,rfl,⟨rfl,rfl,rfl⟩,H1⟩;have HS1:=Lib.hid H1;clear H1;go_wp2_with fail
 refine (zo r.1 hlt w1).mono ?_;rintro e w' ⟨rfl,rfl⟩;go_wp2_with fail
 go_ret
 exact⟨_,_,_,rfl,⟨rfl,rfl,rfl⟩,HS1.out⟩
theorem Dt (b:Nat) (st:I) :
 hC Tryz.prog 126 #[.pointer (some ⟨b,0,none⟩)] (InR b st) (fun v A' N=>v= .int .i64 (gx (fh 64 st)).1/\A'=InR b (gx (fh 64 st)).2/\N = []):=by
 intro F w hA;have HA:=Lib.hid (LN F w (Sep.one hA));clear hA;have hs:=BQ b st 64 (.inr rfl);have hlt:=si 64 (.inr rfl) st;generalize fh 64 st=r at *;have HS:=Lib.hid hs;clear hs;go_enter Tryz.func126,Tryz.ntmps126
 go_wp2_with fail
 refine (HA.out.call 0 rfl HS.out).mono ?_;rintro e w1 ⟨v,A',N,rfl,⟨rfl,rfl,rfl⟩,H1⟩;have HS1:=Lib.hid H1;clear H1;go_wp2_with fail
 refine (zo r.1 hlt w1).mono ?_;rintro e w' ⟨rfl,rfl⟩;go_wp2_with fail
 go_ret
 exact⟨_,_,_,rfl,⟨rfl,rfl,rfl⟩,HS1.out⟩
theorem yP {a b:Nat} (h:2 ^ a<2 ^ b):a<b:=(Nat.pow_lt_pow_iff_right QS).1 h
theorem JT (bs:Int) (hb:0<bs): ∀ (v pos acc i:Nat) (r:List UInt8),acc+v*2 ^ (7*i)<2 ^ bs.toNat->(0<i->0<v) ->
 vgo bs (cO v++r) pos acc i=(acc+v*2 ^ (7*i),⟨r,pos+(cO v).length,0⟩):=by
 intro v
 induction v using Nat.strongRecOn with
 | _ v ih =>
  intro pos acc i r h hi;have h7:(7*i:Int)<bs:=by
   rcases Nat.eq_zero_or_pos i with h0 | h0
   ·subst h0; omega
   ·have hv:=hi h0;have h2:1*2 ^ (7*i)<=v*2 ^ (7*i):=Nat.mul_le_mul_right _ hv;have h3:=yP (show 2 ^ (7*i)<2 ^ bs.toNat by omega);omega
  have hleft: ∀ d:Nat,d<=v->d / 2 ^ (bs - 7*i).toNat=0:=by
   intro d hd;have e:2 ^ bs.toNat=2 ^ (bs - 7*i).toNat*2 ^ (7*i):=by rw[<- Nat.pow_add]; congr 1; omega
   have h2:d*2 ^ (7*i)<=v*2 ^ (7*i):=Nat.mul_le_mul_right _ hd;have h3:d<2 ^ (bs - 7*i).toNat:=by
    apply Nat.lt_of_mul_lt_mul_right (a:=2 ^ (7*i));omega
   exact Nat.div_eq_of_lt h3
  rw[cO];split
  ·rename_i hlt;have hc:(UInt8.ofNat v).toNat=v:=by simp[UInt8.toNat_ofNat']; omega
   simp only[List.cons_append,NV,vgo,hc,Nat.mod_eq_of_lt hlt,hleft v (N0 _)];rw[QY (by simp; omega),QY QR,QY (by rintro⟨h1,h2⟩; have:=hi h2; omega)];simp
  ·rename_i hge;have hc:(UInt8.ofNat (v % 128+128)).toNat=v % 128+128:=by simp[UInt8.toNat_ofNat']; omega
   have e2:2 ^ (7*(i+1))=128*2 ^ (7*i):=by rw[show 7*(i+1)=7+7*i by omega,Nat.pow_add]
   have e3:acc+v % 128*2 ^ (7*i)+v / 128*2 ^ (7*(i+1))=acc+v*2 ^ (7*i):=by
    rw[e2];generalize 2 ^ (7*i)=z;have h1:v / 128*(128*z)=v / 128*128*z:=by rw[Nat.mul_assoc]
    rw[h1,Nat.add_assoc,<- Nat.add_mul];congr 2;omega
   simp only[List.cons_append,vgo,hc];rw[show (v % 128+128) % 128=v % 128 by omega,hleft (v % 128) (Nat.mod_le _ _),QY (by simp; omega),QX QR,ih (v / 128) QR _ _ _ _ (by rw[e3]; exact h) QR,e3];simp; omega
theorem Du (n:Int) (h: -2147483648<=n/\n<=2147483647):bw n<4294967296:=by unfold bw; split <;> omega
theorem vgo_ok (bs:Int): ∀ (l:List UInt8) (pos acc i u:Nat) (s:I),vgo bs l pos acc i=(u,s)->s.err=0 ->
 ∃ k v,s=⟨l.drop k,pos+k,0⟩/\k<=l.length/\u=acc+v*2 ^ (7*i)/\cO v=l.take k/\(0<i->0<v):=by
 intro l
 induction l with
 | nil=>intro pos acc i u s h h0; simp only[vgo,Prod.mk.injEq] at h; rw[<- h.2] at h0; simp at h0
 | cons c l ih =>
  intro pos acc i u s h h0;unfold vgo at h;split at h
  ·simp only[Prod.mk.injEq] at h; rw[<- h.2] at h0; simp at h0
  ·split at h
   ·rename_i h128;obtain⟨k,v,h1,h2,h3,h4,h5⟩:=ih _ _ _ _ _ h h0;have hv:=h5 QR;have hc:=c.toNat_lt;refine⟨k+1,c.toNat % 128+128*v,?_,by simpa using h2,?_,?_,by omega⟩
    ·rw[h1]; simp; omega
    ·have e:2 ^ (7*(i+1))=128*2 ^ (7*i):=by rw[show 7*(i+1)=7+7*i by omega,Nat.pow_add]
     rw[h3,e,Nat.add_mul];generalize 2 ^ (7*i)=z;have:v*(128*z)=128*v*z:=by rw[Nat.mul_comm 128 v,Nat.mul_assoc]
     omega
    ·rw[cO,QY QR,show (c.toNat % 128+128*v) / 128=v by omega,h4,List.take_succ_cons];congr 1;rw[show (c.toNat % 128+128*v) % 128+128=c.toNat by omega];exact UInt8.ofNat_toNat
   ·rename_i h128;split at h
    ·simp only[Prod.mk.injEq] at h; rw[<- h.2] at h0; simp at h0
    ·rename_i hz;have hc:=c.toNat_lt;simp only[Prod.mk.injEq] at h;refine⟨1,c.toNat,by rw[<- h.2]; simp,by simp,by rw[<- h.1,Nat.mod_eq_of_lt QR],?_,?_⟩
     ·rw[cO,QX QR]; simp
     ·intro hi;rcases Nat.eq_zero_or_pos c.toNat with h6 | h6
      ·exact absurd ⟨h6,hi⟩ hz
      ·exact h6
attribute [local go_sem] fz cw
structure Bl where
 null:Bool
 data:List UInt8
@[go_sem] def blV (b:Bl):Value:= .agg #[.bool b.null,.string (ba b.data)]
theorem sj:(Tryz.prog.info? 23).map (·.size)=some 2:=by kernel_rfl
theorem sZ (l:List UInt8):j7 Tryz.prog 143 #[.string (ba l)] (fun v N=>v=blV ⟨false,l⟩/\N = []):=by
 intro w;have HS:=Lib.hid (Mg w);go_enter Tryz.func143,Tryz.ntmps143
 go_wp2_with fail
 refine bodyPost_ret (v:=blV ⟨false,l⟩) (results_cell_row QW _ _ w.heap.size 23 #[.bool false,.string (ba l)] (0,0) _ rfl (heap_alloc_new w _) Tryz.underlying23 rfl sj) rfl ?_;exact⟨_,_,rfl,⟨rfl,rfl⟩,(HS.out.alloc _ _).drop_⟩
theorem Dv:j7 Tryz.prog 214 #[] (fun v N=>v=blV ⟨true,[]⟩/\N = []):=by
 intro w;have HS:=Lib.hid (Mg w);go_enter Tryz.func214,Tryz.ntmps214
 go_wp2_with fail
 refine bodyPost_ret (v:=blV ⟨true,[]⟩) (results_cell_row QW _ _ w.heap.size 23 #[.bool true,.string (ba [])] (0,0) _ rfl (heap_alloc_new w _) Tryz.underlying23 rfl sj) rfl ?_;exact⟨_,_,rfl,⟨rfl,rfl⟩,(HS.out.alloc _ _).drop_⟩
def bL (b:Bl):Bool:= !b.null || b.data.isEmpty
theorem qk (b:Bl):j7 Tryz.prog 148 #[blV b] (fun v N=>v= .bool (bL b)/\N = []):=by
 intro w;have HS:=Lib.hid (Mg w);obtain⟨n,l⟩:=b;have HB:=Lib.hid (show (l == [])=l.isEmpty by cases l <;> rfl);cases n
 ·go_enter Tryz.func148,Tryz.ntmps148
  go_wp2_with fail
  go_ret
  exact⟨_,_,rfl,⟨rfl,rfl⟩,(HS.out.alloc _ _).drop_⟩
 ·go_enter Tryz.func148,Tryz.ntmps148
  go_wp2_with fail
  go_ret
  exact⟨_,_,rfl,⟨congrArg Value.bool (by simp[bL]),rfl⟩,(HS.out.alloc _ _).drop_⟩
def blen (b:Bl):Int:=if b.null then -1 else b.data.length
theorem zt (b:Bl):j7 Tryz.prog 149 #[blV b] (fun v N=>v= .int .i64 (blen b)/\N = []):=by
 intro w;have HS:=Lib.hid (Mg w);obtain⟨n,l⟩:=b;cases n;all_goals
  go_enter Tryz.func149,Tryz.ntmps149
  go_wp2_with fail
  go_ret
  exact⟨_,_,rfl,⟨rfl,rfl⟩,(HS.out.alloc _ _).drop_⟩
def mn (st:I) (n:Int):Bl×I:=if st.err≠0 then (⟨false,[]⟩,st) else if n= -1 then (⟨true,[]⟩,st) else (⟨false,(cE st n).1⟩,(cE st n).2)
theorem wW (g:Nat) (st:I) (n:Int) (h0: -9223372036854775808<=n) (h1:n<=9223372036854775807) :
 hC Tryz.prog 179 #[.pointer (some ⟨g,0,none⟩),.int .i64 n] (InR g st) (fun v A' N=>v=blV (mn st n).1/\A'=InR g (mn st n).2/\N = []):=by
 intro F w hA;have HA:=Lib.hid (LN F w (Sep.one hA));clear hA;have HB:=Lib.hid (HA.out.alloc #[.bool false,.string ⟨#[]⟩] 23);by_cases he:st.err=0
 ·by_cases hn:n= -1
  ·subst hn;have HQ:=Lib.hid (show mn st (-1)=(⟨true,[]⟩,st) by simp[mn,he]);have hb:(st.err != 0)=false:=by simp[he]
   clear he;go_enter Tryz.func179,Tryz.ntmps179
   go_wp2_with fail
   refine (St.call 1 (HB).out rfl (rj g _)).mono ?_;rintro e w1 ⟨v,A',N,rfl,⟨rfl,rfl,rfl⟩,H1⟩;try simp only[List.cons_append,NV,List.set_cons_zero,List.set_cons_succ,dm] at H1
   have HC:=Lib.hid H1;clear H1;go_wp2_with fail
   refine (St.call0 HC.out Dv).mono ?_;rintro e w2 ⟨v,N,rfl,⟨rfl,rfl⟩,H2⟩;have d0:w2.cell? ⟨w.heap.size,0,none⟩=some (.bool false):=bt (St.blk 0 H2 rfl) 0;have d1:w2.cell? ⟨w.heap.size,1,none⟩=some (.string ⟨#[]⟩):=bt (St.blk 0 H2 rfl) 1;have f0:w2.frozen? ⟨w.heap.size,0,none⟩=false:=dA (St.blk 0 H2 rfl) 0;have f1:w2.frozen? ⟨w.heap.size,1,none⟩=false:=dA (St.blk 0 H2 rfl) 1;have HD:=Lib.hid H2;clear H2;go_wp2_with fail
   have HE:=((HD.out.set 0 rfl 0 (.bool true)).set 0 rfl 1 (.string (ba [])));refine bodyPost_ret (v:=blV ⟨true,[]⟩) (results_cell_row QW _ _ w.heap.size 23 #[.bool true,.string (ba [])] (0,0) _ rfl (St.blk 0 HE rfl) Tryz.underlying23 rfl sj) rfl ?_;exact⟨_,_,_,rfl,⟨by rw[HQ.out],by rw[HQ.out],rfl⟩,HE.drop_⟩
  ·have HQ:=Lib.hid (show mn st n=(⟨false,(cE st n).1⟩,(cE st n).2) by simp[mn,he,hn]);have hb:(st.err != 0)=false:=by simp[he]
   have hnb:(n == -1)=false:=beq_eq_false_iff_ne.2 hn;clear he hn;go_enter Tryz.func179,Tryz.ntmps179
   go_wp2_with fail
   refine (St.call 1 (HB).out rfl (rj g _)).mono ?_;rintro e w1 ⟨v,A',N,rfl,⟨rfl,rfl,rfl⟩,H1⟩;try simp only[List.cons_append,NV,List.set_cons_zero,List.set_cons_succ,dm] at H1
   have HC:=Lib.hid H1;clear H1;go_wp2_with fail
   refine (St.call 1 (HC).out rfl (eC g st n h0 h1)).mono ?_;rintro e w1 ⟨v,A',N,rfl,⟨rfl,rfl,rfl⟩,H1⟩;try simp only[List.cons_append,NV,List.set_cons_zero,List.set_cons_succ,dm] at H1
   have HC2:=Lib.hid H1;clear H1;go_wp2_with fail
   refine (St.call0 HC2.out (sZ (cE st n).1)).mono ?_;rintro e w2 ⟨v,N,rfl,⟨rfl,rfl⟩,H2⟩;have d0:w2.cell? ⟨w.heap.size,0,none⟩=some (.bool false):=bt (St.blk 0 H2 rfl) 0;have d1:w2.cell? ⟨w.heap.size,1,none⟩=some (.string ⟨#[]⟩):=bt (St.blk 0 H2 rfl) 1;have f0:w2.frozen? ⟨w.heap.size,0,none⟩=false:=dA (St.blk 0 H2 rfl) 0;have f1:w2.frozen? ⟨w.heap.size,1,none⟩=false:=dA (St.blk 0 H2 rfl) 1;have HD:=Lib.hid H2;clear H2;go_wp2_with fail
   have HE:=((HD.out.set 0 rfl 0 (.bool false)).set 0 rfl 1 (.string (ba (cE st n).1)));refine bodyPost_ret (v:=blV ⟨false,(cE st n).1⟩) (results_cell_row QW _ _ w.heap.size 23 #[.bool false,.string (ba (cE st n).1)] (0,0) _ rfl (St.blk 0 HE rfl) Tryz.underlying23 rfl sj) rfl ?_;exact⟨_,_,_,rfl,⟨by rw[HQ.out],by rw[HQ.out],rfl⟩,HE.drop_⟩
 ·have HQ:=Lib.hid (show mn st n=(⟨false,[]⟩,st) by simp[mn,he]);have hb:(st.err != 0)=true:=bne_iff_ne.2 he;clear he;go_enter Tryz.func179,Tryz.ntmps179
  go_wp2_with fail
  refine (St.call 1 HB.out rfl (rj g _)).mono ?_;rintro e w2 ⟨v,A',N,rfl,⟨rfl,rfl,rfl⟩,H2⟩;have d0:w2.cell? ⟨w.heap.size,0,none⟩=some (.bool false):=bt (St.blk 0 H2 rfl) 0;have d1:w2.cell? ⟨w.heap.size,1,none⟩=some (.string ⟨#[]⟩):=bt (St.blk 0 H2 rfl) 1;have f0:w2.frozen? ⟨w.heap.size,0,none⟩=false:=dA (St.blk 0 H2 rfl) 0;have f1:w2.frozen? ⟨w.heap.size,1,none⟩=false:=dA (St.blk 0 H2 rfl) 1;have HD:=Lib.hid H2;clear H2;go_wp2_with fail
  have HE:=((HD.out.set 0 rfl 0 (.bool false)).set 0 rfl 1 (.string (ba [])));refine bodyPost_ret (v:=blV ⟨false,[]⟩) (results_cell_row QW _ _ w.heap.size 23 #[.bool false,.string (ba [])] (0,0) _ rfl (St.blk 0 HE rfl) Tryz.underlying23 rfl sj) rfl ?_;exact⟨_,_,_,rfl,⟨by rw[HQ.out],by rw[HQ.out],rfl⟩,HE.drop_⟩
theorem wX (st:I) (size:Int): -9223372036854775808<=(fk st size).1/\(fk st size).1<=9223372036854775807:=by
 unfold fk;split
 ·rename_i hs;have hl:=zm st size;simp only;generalize (cE st size).1=l at *;by_cases hn:l = []
  ·subst hn; simp[ek]
  ·have hr:=qi l hn;have hp:(2 ^ (8*l.length - 1):Int)<=9223372036854775808:=by
    have h1:(2 ^ (8*l.length - 1):Nat)<=2 ^ 63:=Nat.pow_le_pow_right QS QR;have h2:((2 ^ (8*l.length - 1):Nat):Int)<=((2 ^ 63:Nat):Int):=Int.ofNat_le.2 h1;rw[Int.natCast_pow,Int.natCast_pow] at h2;exact h2
   generalize (2 ^ (8*l.length - 1):Int)=z at *;omega
 ·simp
theorem zu (st:I): -9223372036854775808<=(gx (fh 32 st)).1/\(gx (fh 32 st)).1<=9223372036854775807:=by
 have h:=si 32 (.inl rfl) st;unfold gx oD;simp only;split <;> omega
theorem pd (b:Bl) (h:b.data.length<=9223372036854775807): -9223372036854775808<=blen b/\blen b<=9223372036854775807:=by unfold blen; split <;> omega
def sk (st:List UInt8×Int) (b:Bl):List UInt8×Int:=if bL b then jJ st b.data else mS st 4
def ue (st:List UInt8×Int) (b:Bl) (size:Int):List UInt8×Int:=sk (AJ st (blen b) size) b
def sn (st:List UInt8×Int) (b:Bl):List UInt8×Int:=sk (mz st (blen b)) b
def jA (st:I) (size:Int):Bl×I:=mn (fk st size).2 (fk st size).1
def iK (st:I):Bl×I:=mn (gx (fh 32 st)).2 (gx (fh 32 st)).1
def wY (r:Bl×I):List UInt8×I:=(r.1.data,if r.1.null then dz r.2 4 else r.2)
theorem vL (g:Nat) (st:List UInt8×Int) (b:Bl) (hl:st.1.length+b.data.length<=140737488355328) :
 hC Tryz.prog 150 #[.pointer (some ⟨g,0,none⟩),blV b] (bC g st) (fun v A' N=>v= .tuple #[]/\A'=bC g (sk st b)/\N = []):=by
 intro F w hA;have HA:=Lib.hid (LN F w (Sep.one hA));clear hA;have HB:=Lib.hid (HA.out.alloc #[.bool b.null,.string (ba b.data)] 23);by_cases hr:bL b=true
 ·have HQ:=Lib.hid (show sk st b=jJ st b.data by simp[sk,hr]);have HR:=Lib.hid hr;clear hr;go_enter Tryz.func150,Tryz.ntmps150
  go_wp2_with fail
  refine (St.call0 HB.out (qk b)).mono ?_;rintro e w2 ⟨v,N,rfl,⟨rfl,rfl⟩,H2⟩;rw[HR.out];have d0:w2.cell? ⟨w.heap.size,0,none⟩=some (.bool b.null):=bt (St.blk 0 H2 rfl) 0;have d1:w2.cell? ⟨w.heap.size,1,none⟩=some (.string (ba b.data)):=bt (St.blk 0 H2 rfl) 1;have HD:=Lib.hid H2;clear H2;go_wp2_with fail
  refine (St.call 1 HD.out rfl (BG g st (ba b.data) (by rw[cw]; exact hl))).mono ?_;rintro e w3 ⟨v,A',N,rfl,⟨rfl,rfl,rfl⟩,H3⟩;rw[dm] at H3;have HE:=Lib.hid H3;clear H3;go_wp2_with fail
  go_end0
  exact⟨_,_,_,rfl,⟨rfl,by rw[HQ.out],rfl⟩,HE.out.drop_⟩
 ·have HQ:=Lib.hid (show sk st b=mS st 4 by simp[sk,hr]);have HR:=Lib.hid (show bL b=false by simpa using hr);clear hr;go_enter Tryz.func150,Tryz.ntmps150
  go_wp2_with fail
  refine (St.call0 HB.out (qk b)).mono ?_;rintro e w2 ⟨v,N,rfl,⟨rfl,rfl⟩,H2⟩;rw[HR.out];have HD:=Lib.hid H2;clear H2;go_wp2_with fail
  refine (St.call 1 (HD).out rfl (ri g st 4)).mono ?_;rintro e w1 ⟨v,A',N,rfl,⟨rfl,rfl,rfl⟩,H1⟩;try simp only[List.cons_append,NV,List.set_cons_zero,List.set_cons_succ,dm] at H1
  have HE:=Lib.hid H1;clear H1;go_wp2_with fail
  go_end0
  exact⟨_,_,_,rfl,⟨rfl,by rw[HQ.out],rfl⟩,HE.out.drop_⟩
theorem Hm (st:List UInt8×Int) (n size:Int):(AJ st n size).1.length<=st.1.length+8:=by
 unfold AJ;split
 ·rename_i h;have h1:=sS st (be n size.toNat);rw[aE] at h1;simp[bn] at h;omega
 ·unfold mS; split <;> simp
theorem ql (g:Nat) (st:List UInt8×Int) (b:Bl) (size:Int) (h0: -9223372036854775808<=size) (h1:size<=9223372036854775807) (hl:st.1.length+8+b.data.length<=140737488355328) :
 hC Tryz.prog 95 #[.pointer (some ⟨g,0,none⟩),blV b,.int .i64 size] (bC g st) (fun v A' N=>v= .tuple #[]/\A'=bC g (ue st b size)/\N = []):=by
 intro F w hA;have HA:=Lib.hid (LN F w (Sep.one hA));clear hA;have HB:=Lib.hid (HA.out.alloc #[.bool b.null,.string (ba b.data)] 23);have hbl:=pd b QR;have hb1:=hbl.1;have hb2:=hbl.2;clear hbl;go_enter Tryz.func95,Tryz.ntmps95
 go_wp2_with fail
 refine (St.call0 HB.out (zt b)).mono ?_;rintro e w2 ⟨v,N,rfl,⟨rfl,rfl⟩,H2⟩;have HC:=Lib.hid H2;clear H2;go_wp2_with fail
 refine (St.call 1 HC.out rfl (vI g st (blen b) size hb1 hb2 QR)).mono ?_;rintro e w3 ⟨v,A',N,rfl,⟨rfl,rfl,rfl⟩,H3⟩;have d0:w3.cell? ⟨w.heap.size,0,none⟩=some (.bool b.null):=bt (St.blk 0 H3 rfl) 0;have d1:w3.cell? ⟨w.heap.size,1,none⟩=some (.string (ba b.data)):=bt (St.blk 0 H3 rfl) 1;have HD:=Lib.hid H3;clear H3;go_wp2_with fail
 refine (St.call 1 HD.out rfl (vL g _ b (by have:=Hm st (blen b) size; omega))).mono ?_;rintro e w4 ⟨v,A',N,rfl,⟨rfl,rfl,rfl⟩,H4⟩;have HE:=Lib.hid H4;clear H4;go_wp2_with fail
 go_end0
 exact⟨_,_,_,rfl,⟨rfl,rfl,rfl⟩,HE.out.drop_⟩
theorem BR (st:List UInt8×Int) (n:Int):(mz st n).1.length<=st.1.length+10:=by
 unfold mz;split
 ·rename_i h;have h1:=sS st (cO (bw n));have h2:=iq (bw n) (fN n QR QR);omega
 ·unfold mS; split <;> simp
theorem pJ (g:Nat) (st:List UInt8×Int) (b:Bl) (hl:st.1.length+10+b.data.length<=140737488355328) :
 hC Tryz.prog 183 #[.pointer (some ⟨g,0,none⟩),blV b] (bC g st) (fun v A' N=>v= .tuple #[]/\A'=bC g (sn st b)/\N = []):=by
 intro F w hA;have HA:=Lib.hid (LN F w (Sep.one hA));clear hA;have HB:=Lib.hid (HA.out.alloc #[.bool b.null,.string (ba b.data)] 23);have hbl:=pd b QR;have hb1:=hbl.1;have hb2:=hbl.2;clear hbl;go_enter Tryz.func183,Tryz.ntmps183
 go_wp2_with fail
 refine (St.call0 HB.out (zt b)).mono ?_;rintro e w2 ⟨v,N,rfl,⟨rfl,rfl⟩,H2⟩;have HC:=Lib.hid H2;clear H2;go_wp2_with fail
 refine (St.call 1 HC.out rfl (sX g st (blen b) hb1 hb2 QR)).mono ?_;rintro e w3 ⟨v,A',N,rfl,⟨rfl,rfl,rfl⟩,H3⟩;have d0:w3.cell? ⟨w.heap.size,0,none⟩=some (.bool b.null):=bt (St.blk 0 H3 rfl) 0;have d1:w3.cell? ⟨w.heap.size,1,none⟩=some (.string (ba b.data)):=bt (St.blk 0 H3 rfl) 1;have HD:=Lib.hid H3;clear H3;go_wp2_with fail
 refine (St.call 1 HD.out rfl (vL g _ b (by have:=BR st (blen b); omega))).mono ?_;rintro e w4 ⟨v,A',N,rfl,⟨rfl,rfl,rfl⟩,H4⟩;have HE:=Lib.hid H4;clear H4;go_wp2_with fail
 go_end0
 exact⟨_,_,_,rfl,⟨rfl,rfl,rfl⟩,HE.out.drop_⟩
def BS (st:List UInt8×Int) (l:List UInt8):List UInt8×Int:=ue st ⟨false,l⟩ 2
theorem yQ (g:Nat) (st:List UInt8×Int) (l:List UInt8) (hl:st.1.length+8+l.length<=140737488355328) :
 hC Tryz.prog 88 #[.pointer (some ⟨g,0,none⟩),.string (ba l)] (bC g st) (fun v A' N=>v= .tuple #[]/\A'=bC g (BS st l)/\N = []):=by
 intro F w hA;have HA:=Lib.hid (LN F w (Sep.one hA));clear hA;go_enter Tryz.func88,Tryz.ntmps88
 go_wp2_with fail
 refine (St.call0 (HA).out (sZ l)).mono ?_;rintro e w1 ⟨v,N,rfl,⟨rfl,rfl⟩,H1⟩;try simp only[List.cons_append,NV,List.set_cons_zero,List.set_cons_succ,dm] at H1
 have HB:=Lib.hid H1;clear H1;go_wp2_with fail
 refine (St.call 0 (HB).out rfl (ql g st ⟨false,l⟩ 2 QR QR hl)).mono ?_;rintro e w1 ⟨v,A',N,rfl,⟨rfl,rfl,rfl⟩,H1⟩;try simp only[List.cons_append,NV,List.set_cons_zero,List.set_cons_succ,dm] at H1
 have HC:=Lib.hid H1;clear H1;go_wp2_with fail
 go_end0
 exact⟨_,_,_,rfl,⟨rfl,rfl,rfl⟩,HC.out⟩
def BT (st:List UInt8×Int) (l:List UInt8):List UInt8×Int:=sn st ⟨false,l⟩
theorem yR (g:Nat) (st:List UInt8×Int) (l:List UInt8) (hl:st.1.length+10+l.length<=140737488355328) :
 hC Tryz.prog 132 #[.pointer (some ⟨g,0,none⟩),.string (ba l)] (bC g st) (fun v A' N=>v= .tuple #[]/\A'=bC g (BT st l)/\N = []):=by
 intro F w hA;have HA:=Lib.hid (LN F w (Sep.one hA));clear hA;go_enter Tryz.func132,Tryz.ntmps132
 go_wp2_with fail
 refine (St.call0 (HA).out (sZ l)).mono ?_;rintro e w1 ⟨v,N,rfl,⟨rfl,rfl⟩,H1⟩;try simp only[List.cons_append,NV,List.set_cons_zero,List.set_cons_succ,dm] at H1
 have HB:=Lib.hid H1;clear H1;go_wp2_with fail
 refine (St.call 0 (HB).out rfl (pJ g st ⟨false,l⟩ hl)).mono ?_;rintro e w1 ⟨v,A',N,rfl,⟨rfl,rfl,rfl⟩,H1⟩;try simp only[List.cons_append,NV,List.set_cons_zero,List.set_cons_succ,dm] at H1
 have HC:=Lib.hid H1;clear H1;go_wp2_with fail
 go_end0
 exact⟨_,_,_,rfl,⟨rfl,rfl,rfl⟩,HC.out⟩
theorem vM (g:Nat) (st:I) (size:Int) :
 hC Tryz.prog 142 #[.pointer (some ⟨g,0,none⟩),.int .i64 size] (InR g st) (fun v A' N=>v=blV (jA st size).1/\A'=InR g (jA st size).2/\N = []):=by
 intro F w hA;have HA:=Lib.hid (LN F w (Sep.one hA));clear hA;have HB:=Lib.hid (HA.out.alloc #[.bool false,.string ⟨#[]⟩] 23);go_enter Tryz.func142,Tryz.ntmps142
 go_wp2_with fail
 refine (St.call 1 (HB).out rfl (ud g st size)).mono ?_;rintro e w1 ⟨v,A',N,rfl,⟨rfl,rfl,rfl⟩,H1⟩;try simp only[List.cons_append,NV,List.set_cons_zero,List.set_cons_succ,dm] at H1
 have HC:=Lib.hid H1;clear H1;go_wp2_with fail
 refine (St.call 1 HC.out rfl (wW g _ _ (wX st size).1 (wX st size).2)).mono ?_;rintro e w2 ⟨v,A',N,rfl,⟨rfl,rfl,rfl⟩,H2⟩;have d0:w2.cell? ⟨w.heap.size,0,none⟩=some (.bool false):=bt (St.blk 0 H2 rfl) 0;have d1:w2.cell? ⟨w.heap.size,1,none⟩=some (.string ⟨#[]⟩):=bt (St.blk 0 H2 rfl) 1;have f0:w2.frozen? ⟨w.heap.size,0,none⟩=false:=dA (St.blk 0 H2 rfl) 0;have f1:w2.frozen? ⟨w.heap.size,1,none⟩=false:=dA (St.blk 0 H2 rfl) 1;have HD:=Lib.hid H2;clear H2;go_wp2_with fail
 have HE:=((HD.out.set 0 rfl 0 (.bool (jA st size).1.null)).set 0 rfl 1 (.string (ba (jA st size).1.data)));refine bodyPost_ret (v:=blV (jA st size).1) (results_cell_row QW _ _ w.heap.size 23 #[.bool (jA st size).1.null,.string (ba (jA st size).1.data)] (0,0) _ rfl (St.blk 0 HE rfl) Tryz.underlying23 rfl sj) rfl ?_;exact⟨_,_,_,rfl,⟨rfl,rfl,rfl⟩,HE.drop_⟩
theorem s6 (g:Nat) (st:I) :
 hC Tryz.prog 128 #[.pointer (some ⟨g,0,none⟩)] (InR g st) (fun v A' N=>v=blV (iK st).1/\A'=InR g (iK st).2/\N = []):=by
 intro F w hA;have HA:=Lib.hid (LN F w (Sep.one hA));clear hA;have HB:=Lib.hid (HA.out.alloc #[.bool false,.string ⟨#[]⟩] 23);go_enter Tryz.func128,Tryz.ntmps128
 go_wp2_with fail
 refine (St.call 1 (HB).out rfl (zr g st)).mono ?_;rintro e w1 ⟨v,A',N,rfl,⟨rfl,rfl,rfl⟩,H1⟩;try simp only[List.cons_append,NV,List.set_cons_zero,List.set_cons_succ,dm] at H1
 have HC:=Lib.hid H1;clear H1;go_wp2_with fail
 refine (St.call 1 HC.out rfl (wW g _ _ (zu st).1 (zu st).2)).mono ?_;rintro e w2 ⟨v,A',N,rfl,⟨rfl,rfl,rfl⟩,H2⟩;have d0:w2.cell? ⟨w.heap.size,0,none⟩=some (.bool false):=bt (St.blk 0 H2 rfl) 0;have d1:w2.cell? ⟨w.heap.size,1,none⟩=some (.string ⟨#[]⟩):=bt (St.blk 0 H2 rfl) 1;have f0:w2.frozen? ⟨w.heap.size,0,none⟩=false:=dA (St.blk 0 H2 rfl) 0;have f1:w2.frozen? ⟨w.heap.size,1,none⟩=false:=dA (St.blk 0 H2 rfl) 1;have HD:=Lib.hid H2;clear H2;go_wp2_with fail
 have HE:=((HD.out.set 0 rfl 0 (.bool (iK st).1.null)).set 0 rfl 1 (.string (ba (iK st).1.data)));refine bodyPost_ret (v:=blV (iK st).1) (results_cell_row QW _ _ w.heap.size 23 #[.bool (iK st).1.null,.string (ba (iK st).1.data)] (0,0) _ rfl (St.blk 0 HE rfl) Tryz.underlying23 rfl sj) rfl ?_;exact⟨_,_,_,rfl,⟨rfl,rfl,rfl⟩,HE.drop_⟩
theorem wZ (g:Nat) (r:Bl×I) :
 hC Tryz.prog 141 #[.pointer (some ⟨g,0,none⟩),blV r.1] (InR g r.2) (fun v A' N=>v= .string (ba (wY r).1)/\A'=InR g (wY r).2/\N = []):=by
 intro F w hA;obtain⟨b,st⟩:=r;obtain⟨n,l⟩:=b;have HA:=Lib.hid (LN F w (Sep.one hA));clear hA;have HB:=Lib.hid (HA.out.alloc #[.bool n,.string (ba l)] 23);cases n
 ·go_enter Tryz.func141,Tryz.ntmps141
  go_wp2_with fail
  go_ret
  exact⟨_,_,_,rfl,⟨rfl,rfl,rfl⟩,HB.out.drop_⟩
 ·go_enter Tryz.func141,Tryz.ntmps141
  go_wp2_with fail
  refine (St.call 1 HB.out rfl (hM g st 4)).mono ?_;rintro e w2 ⟨v,A',N,rfl,⟨rfl,rfl,rfl⟩,H2⟩;have d1:w2.cell? ⟨w.heap.size,1,none⟩=some (.string (ba l)):=bt (St.blk 0 H2 rfl) 1;have HD:=Lib.hid H2;clear H2;go_wp2_with fail
  go_ret
  exact⟨_,_,_,rfl,⟨rfl,rfl,rfl⟩,HD.out.drop_⟩
def EL (st:I):List UInt8×I:=wY (jA st 2)
theorem Dw (g:Nat) (st:I) :
 hC Tryz.prog 86 #[.pointer (some ⟨g,0,none⟩)] (InR g st) (fun v A' N=>v= .string (ba (EL st).1)/\A'=InR g (EL st).2/\N = []):=by
 intro F w hA;have HA:=Lib.hid (LN F w (Sep.one hA));clear hA;go_enter Tryz.func86,Tryz.ntmps86
 go_wp2_with fail
 refine (St.call 0 (HA).out rfl (vM g st 2)).mono ?_;rintro e w1 ⟨v,A',N,rfl,⟨rfl,rfl,rfl⟩,H1⟩;try simp only[List.cons_append,NV,List.set_cons_zero,List.set_cons_succ,dm] at H1
 have HB:=Lib.hid H1;clear H1;go_wp2_with fail
 refine (St.call 0 (HB).out rfl (wZ g (jA st 2))).mono ?_;rintro e w1 ⟨v,A',N,rfl,⟨rfl,rfl,rfl⟩,H1⟩;try simp only[List.cons_append,NV,List.set_cons_zero,List.set_cons_succ,dm] at H1
 have HC:=Lib.hid H1;clear H1;go_wp2_with fail
 go_ret
 exact⟨_,_,_,rfl,⟨rfl,rfl,rfl⟩,HC.out⟩
def EM (st:I):List UInt8×I:=wY (iK st)
theorem Dx (g:Nat) (st:I) :
 hC Tryz.prog 125 #[.pointer (some ⟨g,0,none⟩)] (InR g st) (fun v A' N=>v= .string (ba (EM st).1)/\A'=InR g (EM st).2/\N = []):=by
 intro F w hA;have HA:=Lib.hid (LN F w (Sep.one hA));clear hA;go_enter Tryz.func125,Tryz.ntmps125
 go_wp2_with fail
 refine (St.call 0 (HA).out rfl (s6 g st)).mono ?_;rintro e w1 ⟨v,A',N,rfl,⟨rfl,rfl,rfl⟩,H1⟩;try simp only[List.cons_append,NV,List.set_cons_zero,List.set_cons_succ,dm] at H1
 have HB:=Lib.hid H1;clear H1;go_wp2_with fail
 refine (St.call 0 (HB).out rfl (wZ g (iK st))).mono ?_;rintro e w1 ⟨v,A',N,rfl,⟨rfl,rfl,rfl⟩,H1⟩;try simp only[List.cons_append,NV,List.set_cons_zero,List.set_cons_succ,dm] at H1
 have HC:=Lib.hid H1;clear H1;go_wp2_with fail
 go_ret
 exact⟨_,_,_,rfl,⟨rfl,rfl,rfl⟩,HC.out⟩
attribute [local go_sem] fz cw
@[go_sem] def strErr (x:List UInt8×Int):Value:= .tuple #[.string (ba x.1),.int .i64 x.2]
def otx (st:List UInt8×Int):List UInt8×Int:=if st.2=0 then (st.1,0) else ([],st.2)
theorem AL (st:List UInt8×Int):BH st=strErr (otx st):=by unfold BH otx; split <;> rfl
theorem uf {st:I} (h:st.err≠0) (e:Int):dz st e=st:=by simp[dz,h]
theorem FZ {st:I} (h:st.err≠0) (n:Int):cE st n=([],st):=by simp[cE,h]
theorem oE {st:I} (h:st.err≠0) (n:Int):fk st n=(0,st):=by
 unfold fk;split
 ·rw[FZ h]; rfl
 ·rw[uf h]
theorem ug {st:I} (h:st.err≠0) (n:Int):mn st n=(⟨false,[]⟩,st):=by simp[mn,h]
theorem Dy {st:I} (h:st.err≠0) (n:Int):jA st n=(⟨false,[]⟩,st):=by unfold jA; rw[oE h,ug h]
theorem xa {st:I} (h:st.err≠0):fM st=st:=by unfold fM; split; rfl; exact uf h 2
theorem BU (l:List UInt8) (p:Nat) (n:Nat) (h:n<=l.length):cE ⟨l,p,0⟩ n=(l.take n,⟨l.drop n,p+n,0⟩):=by
 unfold cE;rw[QY (by simp),QY QR,QY (by simp only; omega)];simp
theorem vN (l:List UInt8) (p:Nat) (n:Int) (h:(l.length:Int)<n):cE ⟨l,p,0⟩ n=([],⟨l,p,1⟩):=by
 unfold cE;rw[QY (by simp),QY QR,QX (by simp only; omega)]
theorem F1 (l:List UInt8) (p:Nat) (n:Int) (h:n<0):cE ⟨l,p,0⟩ n=([],⟨l,p,4⟩):=by
 unfold cE;rw[QY (by simp),QX h]
theorem AM (l:List UInt8) (p:Nat) (n:Nat) (h1:1<=n) (h8:n<=8) (h:n<=l.length):fk ⟨l,p,0⟩ n=(ek (l.take n),⟨l.drop n,p+n,0⟩):=by
 unfold fk;rw[QX QR,BU l p n h]
theorem so (l:List UInt8) (p:Nat) (n:Int) (h1:1<=n) (h8:n<=8) (h:(l.length:Int)<n):fk ⟨l,p,0⟩ n=(0,⟨l,p,1⟩):=by
 unfold fk;rw[QX QR,vN l p n h];rfl
def dS (l:List UInt8):Bool:= !l.isEmpty && decide ((l.length:Int)<=32767)
theorem Dz (l:List UInt8) (w:World):Calls Tryz.prog 87 #[.string (ba l)] w fun e w'=>e= .returned (.bool (dS l))/\w=w':=by
 cases l with
 | nil =>
  go_enter Tryz.func87,Tryz.ntmps87
  go_wp2_with fail
  go_ret
  exact⟨qf (by simp[dS]),rfl⟩
 | cons c l =>
  go_enter Tryz.func87,Tryz.ntmps87
  go_wp2_with fail
  go_ret
  exact⟨qf (by simp[dS]),rfl⟩
def nI (n:Nat):List UInt8:=if n<128 then [UInt8.ofNat n] else UInt8.ofNat (n % 128)::nI (n / 128)
termination_by n
decreasing_by omega
theorem xb (n:Nat):1<=(nI n).length:=by rw[nI]; split <;> simp
theorem vO (n:Nat):(nI n).length=(cO n).length:=by
 induction n using Nat.strongRecOn with
 | _ n ih =>
  rw[nI,cO];split
  ·rfl
  ·have:=ih (n / 128) QR;simp[this]
theorem F2 (n:Nat):cO n=((nI n).take ((nI n).length - 1)).map (· + 128)++(nI n).drop ((nI n).length - 1):=by
 induction n using Nat.strongRecOn with
 | _ n ih =>
  rw[nI,cO];split
  ·rfl
  ·have h:=ih (n / 128) QR;have hp:=xb (n / 128);rw[h];obtain⟨k,hk⟩: ∃ k,(nI (n / 128)).length=k+1:=⟨_,(Nat.sub_add_cancel hp).symm⟩;simp only[NJ,hk,Nat.add_sub_cancel,List.take_succ_cons,List.map_cons,List.drop_succ_cons,List.cons_append];congr 1;apply UInt8.toNat_inj.1;simp[UInt8.toNat_ofNat',UInt8.toNat_add]
theorem zw (n:Int) (h0: -9223372036854775808<=n) (h1:n<=9223372036854775807) (w:World) :
 Calls Tryz.prog 227 #[.int .i64 n] w fun e w'=>e= .returned (.int .u64 (bw n))/\w=w':=by
 have H:=fN n h0 h1;by_cases h:n<0
 ·have HV:=Lib.hid (show (bw n:Int)= -(n+1)*2+1 by unfold bw; rw[QX h]; omega);go_enter Tryz.func227,Tryz.ntmps227
  go_wp2_with fail
  go_ret
  exact⟨ko (by rw[HV.out]),rfl⟩
 ·have HV:=Lib.hid (show (bw n:Int)=n*2 by unfold bw; rw[QY h]; omega);go_enter Tryz.func227,Tryz.ntmps227
  go_wp2_with fail
  go_ret
  exact⟨ko (by rw[HV.out]),rfl⟩
theorem AN (n:Nat) (hn:n<18446744073709551616) :
 j7 Tryz.prog 234 #[.int .u64 n] (fun v N=>N = [jU 5 1 v (nI n).length (bp (nI n))]):=by
 intro w;have HS:=Lib.hid (Mg w);have HT:=Lib.hid (vO n ▸ iq n hn);go_enter Tryz.func234,Tryz.ntmps234
 go_wp2_with fail
 go_loopw [0,3] (fun nv ov wr=> ∃ (m:Nat) (p:List UInt8),m<=n/\p++nI m=nI n/\nv= .int .u64 m/\St (fun _=>False) w [jU 5 1 ov (p.length+1) (bp (p ++ [UInt8.ofNat (m % 128)]))] wr) (fun i _ _=>(intOf i).toNat)
 case atStart =>
  refine⟨n,[],N0 _,rfl,rfl,?_⟩;have h:=jU.lit (T:=5) (size:=1) HS.out #[.int .u8 ((n:Int) % 128)] 1 QS rfl;have e:bp ([] ++ [UInt8.ofNat (n % 128)]) = [.int .u8 ((n:Int) % 128)]:=by simp[bp,UInt8.toNat_ofNat']; omega
  rw[e];exact h
 case round =>
  obtain⟨m,p,hm,hp,rfl,hst⟩:=hrel;obtain⟨g1,c1,rfl⟩:=jU.form 0 hst rfl QR;have hrow:=Mz 0 hst rfl;have HST:=Lib.hid hst;by_cases h128:128<=m
  ·have hlen:p.length+1<=10:=by
    have h1:=congrArg List.length hp;have h2:=HT.out;have h3:=xb m;rw[NE] at h1;omega
   have HP:=Lib.hid (show (p ++ [UInt8.ofNat (m % 128)])++nI (m / 128)=nI n by rw[<- hp,nI.eq_1 m,QY QR]; simp);have HE:=Lib.hid (show bp (p ++ [UInt8.ofNat (m % 128)]) ++ [.int .u8 ((m:Int) / 128 % 128)]=bp (p ++ [UInt8.ofNat (m % 128)] ++ [UInt8.ofNat (m / 128 % 128)]) by simp[bp,UInt8.toNat_ofNat']; omega);have HR:=Lib.hid hrow;clear hrow hp hst;go_wp2_with (at_builtin; refine oB wr rfl _ _ _ rfl 5 (.int .u8 0) 1 Tryz.underlying72 qe rfl (.slice (some ⟨g1,0,none⟩) (p.length+1) c1) (p.length+1) (bp (p ++ [UInt8.ofNat (m % 128)])) rfl HR.out (.int .u8 ((m:Int) / 128 % 128)) rfl rfl QR QR ?_; intro v1 w1 ho1 hg hat; have H1:=Lib.hid (jU.grown 0 HST.out rfl ho1 hg hat); clear ho1 hg hat)
   go_roundw
   case rel=>exact⟨m / 128,_,by omega,HP.out,by go_num,by rw[<- HE.out]; simpa using H1.out⟩
   case measure=>simp[intOf]; omega
  ·have HP:=Lib.hid (show p ++ [UInt8.ofNat (m % 128)]=nI n by rw[<- hp,nI.eq_1 m,QX QR,Nat.mod_eq_of_lt QR]);have HL:=Lib.hid (show p.length+1=(nI n).length by rw[<- HP.out]; simp);clear hrow hp hst;go_wp2_with fail
   go_ret
   refine⟨_,_,rfl,rfl,?_⟩;have h:=HST.out;rw[HP.out] at h;rw[<- HL.out];exact h
def qm (l:List UInt8) (i:Nat):List UInt8:=(l.take i).map (· + 128)++l.drop i
theorem DA (l:List UInt8) (i:Nat) (h:i<l.length):(qm l i)[i]? = some l[i]:=by
 unfold qm;rw[List.getElem?_append_right (by simp; omega)];simp only[NU,On,List.getElem?_drop];rw[show i+(i - min i l.length)=i by omega,List.getElem?_eq_getElem h]
theorem DB (l:List UInt8) (i:Nat) (h:i<l.length):(qm l i).set i (l[i]+128)=qm l (i+1):=by
 unfold qm;have hl:((l.take i).map (· + 128)).length=i:=by simp; omega
 rw[List.set_append_right _ _ QR,hl,Nat.sub_self,List.drop_eq_getElem_cons h,List.set_cons_zero,sW l i h,List.map_append,NI];rfl
theorem yS (l:List UInt8) (i:Nat) (c:UInt8):(bp l).set i (.int .u8 c.toNat)=bp (l.set i c):=by simp[bp,List.map_set]
theorem yT (l:List UInt8) (i:Nat):(bp l)[i]? = l[i]?.map fun c=>Value.int .u8 c.toNat:=by simp[bp]
theorem add128 (c:UInt8):((c.toNat:Int)+128) % 256=(c+128).toNat:=by simp[UInt8.toNat_add]
theorem zx (n:Nat) (hn:n<18446744073709551616) :
 j7 Tryz.prog 226 #[.int .u64 n] (fun v N=>v= .string (ba (cO n))/\N = []):=by
 intro w;have HS:=Lib.hid (Mg w);have HT:=Lib.hid (vO n ▸ iq n hn);have HP:=Lib.hid (xb n);have HV:=Lib.hid (F2 n);go_enter Tryz.func226,Tryz.ntmps226
 go_wp2_with fail
 refine (HS.out.call0 (AN n hn)).mono ?_;rintro e w1 ⟨v,N,rfl,rfl,H1⟩;generalize nI n=l at *;obtain⟨g,c,rfl⟩:=jU.form 0 H1 rfl HP.out;have HS1:=Lib.hid H1;clear H1;have hp:=HP.out;have hl:=HT.out;go_wp2_with fail
 go_loopw [4] (fun iv wr=> ∃ i:Nat,i<=l.length - 1/\iv= .int .i64 i/\St (fun _=>False) w [jU 5 1 (.slice (some ⟨g,0,none⟩) l.length c) l.length (bp (qm l i))] wr) (fun i _=>l.length - (intOf i).toNat)
 case atStart=>exact⟨0,by omega,rfl,by simpa [qm] using HS1.out⟩
 case round =>
  obtain⟨i,hi,rfl,hst⟩:=hrel;by_cases hlt:i<l.length - 1
  ·obtain⟨hc,hf⟩:=jU.cell 0 hst rfl i QR;rw[yT,DA l i QR] at hc;have HC:=Lib.hid (DB l i QR);have HA:=Lib.hid (add128 (l[i]'(by omega)));generalize l[i]'(by omega)=b at *;have hb:=b.toNat_lt;simp only[Option.map_some] at hc;have HST:=Lib.hid hst;clear hst;go_wp2_with fail
   go_roundw
   case rel =>
    refine⟨i+1,by omega,by go_num,?_⟩;have h:=jU.set 0 HST.out rfl i (.int .u8 (b+128).toNat);rw[yS,HC.out,<- HA.out] at h;exact h
   case measure=>simp[intOf]; omega
  ·have HE:=Lib.hid (show qm l i=cO n by rw[HV.out,show i=l.length - 1 by omega]; rfl);have hc:=se (P:=Tryz.prog) wr (src:=72) (dst:=9) Tryz.underlying72 Tryz.underlying5 Tryz.underlying9 (Mz 0 hst rfl);have HST:=Lib.hid hst;clear hst;go_wp2_with fail
   go_ret
   exact⟨_,_,rfl,⟨by rw[HE.out]; rfl,rfl⟩,HST.out.drop_⟩
attribute [local go_sem] fz cw
def vgetV (x:Nat×Nat×Int):Value:= .tuple #[.int .u64 x.1,.int .i64 x.2.1,.int .i64 x.2.2]
theorem s7 {P:Program} {id:Nat} {Q:Exit->Act->World->Prop} {a:Act} {w:World} {l:List Oper} {F0:Nat->Prop} {w0:World} {Rs:List Res} (hs:St F0 w0 Rs w)
 (hm:P.follows .mixedOrders=true) (hB:Region.lexB .any l.toArray=true)
 (h:wpQuiet P l.toArray (fun w'=>St F0 w0 Rs w') (fun a'=> ∀ w',St F0 w0 Rs w'->Q .normal a' w') l a):(Code.region id l.toArray true).wp P Q a w:=by
 refine wp_region_quiet (C:=fun w'=>St F0 w0 Rs w') hm hB ?_ (by simpa using h);exact hs.drew
theorem vP (a b:List UInt8):ba a++ba b=ba (a++b):=by
 apply ByteArray.ext;simp[ba]
attribute [local go_sem] fz cw vP
theorem xc (b:Bl):j7 Tryz.prog 161 #[blV b] (fun v N=>v= .int .i64 (blen b)/\N = []):=by
 intro w;have HS:=Lib.hid (Mg w);obtain⟨n,l⟩:=b;cases n;all_goals
  go_enter Tryz.func161,Tryz.ntmps161
  go_wp2_with fail
  go_ret
  exact⟨_,_,rfl,⟨rfl,rfl⟩,(HS.out.alloc _ _).drop_⟩
theorem AO (b:Bl) (k:Nat) (hk:k<=8) (hl:b.data.length<=140737488355328):j7 Tryz.prog 110 #[blV b,.int .i64 k] (fun v N=>v= .string (ba (be (blen b) k++b.data))/\N = []):=by
 intro w;have HS:=Lib.hid ((Mg w).alloc #[.bool b.null,.string (ba b.data)] 23);have hr:=pd b QR;have hsum:(be (blen b) k).length+b.data.length<=9223372036854775807:=by rw[aE]; omega
 go_enter Tryz.func110,Tryz.ntmps110
 go_wp2_with fail
 refine s7 HS.out QU QU ?_;refine wpQuiet_step (fun K hK=> ?_);go_simp
 refine⟨.agg #[.bool b.null,.string (ba b.data)],fun w1 hw1=> ?_,hK _ ?_⟩
 ·have d0:w1.cell? ⟨w.heap.size,0,none⟩=some (.bool b.null):=bt (St.blk 0 hw1 rfl) 0;have d1:w1.cell? ⟨w.heap.size,1,none⟩=some (.string (ba b.data)):=bt (St.blk 0 hw1 rfl) 1;simp[d0,d1,Result.andThen]
 clear hK K;refine wpQuiet_step (fun K hK=> ?_);go_simp
 refine⟨.int .i64 (blen b),fun w1 hw1=> ?_,hK _ ?_⟩
 ·exact (hw1.call0 (xc b)).mono (by rintro e w2 ⟨v,N,rfl,⟨rfl,rfl⟩,H⟩; exact⟨rfl,H⟩)
 clear hK K;refine wpQuiet_step (fun K hK=> ?_);go_simp
 refine⟨_,fun w1 hw1=>rfl,hK _ ?_⟩;clear hK K;refine wpQuiet_step (fun K hK=> ?_);go_simp
 refine⟨.string (ba (be (blen b) k)),fun w1 hw1=> ?_,hK _ ?_⟩
 ·exact (hw1.call0 (sg (blen b) k hr.1 hr.2 hk)).mono (by rintro e w2 ⟨v,N,rfl,⟨rfl,rfl⟩,H⟩; exact⟨rfl,H⟩)
 clear hK K;refine wpQuiet_step (fun K hK=> ?_);go_simp
 refine⟨_,fun w1 hw1=>rfl,hK _ ?_⟩;clear hK K;refine wpQuiet_step (fun K hK=> ?_);go_simp
 refine⟨.string (ba b.data),fun w1 hw1=> ?_,hK _ ?_⟩
 ·have d1:w1.cell? ⟨w.heap.size,1,none⟩=some (.string (ba b.data)):=bt (St.blk 0 hw1 rfl) 1;simp[d1,Result.andThen]
 clear hK K;refine wpQuiet_step (fun K hK=> ?_);go_simp
 refine⟨.string (ba (be (blen b) k++b.data)),fun w1 hw1=> ?_,hK _ ?_⟩
 ·rw[QY QR];exact⟨rfl,rfl⟩
 clear hK K;refine wpQuiet_step (fun K hK=> ?_);go_simp
 refine⟨_,fun w1 hw1=>rfl,hK _ ?_⟩;clear hK K;refine wpQuiet_nil ?_;intro w1 hw1;have HS1:=Lib.hid hw1;clear hw1;go_wp2_with fail
 go_ret
 exact⟨_,_,rfl,⟨rfl,rfl⟩,HS1.out.drop_⟩
theorem yU (b:Bl) (hl:b.data.length<=140737488355328):j7 Tryz.prog 204 #[blV b] (fun v N=>v= .string (ba (cO (bw (blen b))++b.data))/\N = []):=by
 intro w;have HS:=Lib.hid ((Mg w).alloc #[.bool b.null,.string (ba b.data)] 23);have hr:=pd b QR;have hv10:=iq _ (fN (blen b) hr.1 hr.2);have hsum:(cO (bw (blen b))).length+b.data.length<=9223372036854775807:=by omega
 go_enter Tryz.func204,Tryz.ntmps204
 go_wp2_with fail
 refine s7 HS.out QU QU ?_;refine wpQuiet_step (fun K hK=> ?_);go_simp
 refine⟨.agg #[.bool b.null,.string (ba b.data)],fun w1 hw1=> ?_,hK _ ?_⟩
 ·have d0:w1.cell? ⟨w.heap.size,0,none⟩=some (.bool b.null):=bt (St.blk 0 hw1 rfl) 0;have d1:w1.cell? ⟨w.heap.size,1,none⟩=some (.string (ba b.data)):=bt (St.blk 0 hw1 rfl) 1;simp[d0,d1,Result.andThen]
 clear hK K;refine wpQuiet_step (fun K hK=> ?_);go_simp
 refine⟨.int .i64 (blen b),fun w1 hw1=> ?_,hK _ ?_⟩
 ·exact (hw1.call0 (xc b)).mono (by rintro e w2 ⟨v,N,rfl,⟨rfl,rfl⟩,H⟩; exact⟨rfl,H⟩)
 clear hK K;refine wpQuiet_step (fun K hK=> ?_);go_simp
 refine⟨.int .u64 (bw (blen b)),fun w1 hw1=> ?_,hK _ ?_⟩
 ·exact (zw (blen b) hr.1 hr.2 w1).mono (by rintro e w2 ⟨rfl,rfl⟩; exact⟨rfl,hw1⟩)
 clear hK K;refine wpQuiet_step (fun K hK=> ?_);go_simp
 refine⟨.string (ba (cO (bw (blen b)))),fun w1 hw1=> ?_,hK _ ?_⟩
 ·exact (hw1.call0 (zx (bw (blen b)) (fN _ hr.1 hr.2))).mono (by rintro e w2 ⟨v,N,rfl,⟨rfl,rfl⟩,H⟩; exact⟨rfl,H⟩)
 clear hK K;refine wpQuiet_step (fun K hK=> ?_);go_simp
 refine⟨_,fun w1 hw1=>rfl,hK _ ?_⟩;clear hK K;refine wpQuiet_step (fun K hK=> ?_);go_simp
 refine⟨.string (ba b.data),fun w1 hw1=> ?_,hK _ ?_⟩
 ·have d1:w1.cell? ⟨w.heap.size,1,none⟩=some (.string (ba b.data)):=bt (St.blk 0 hw1 rfl) 1;simp[d1,Result.andThen]
 clear hK K;refine wpQuiet_step (fun K hK=> ?_);go_simp
 refine⟨.string (ba (cO (bw (blen b))++b.data)),fun w1 hw1=> ?_,hK _ ?_⟩
 ·rw[QY QR];exact⟨rfl,rfl⟩
 clear hK K;refine wpQuiet_step (fun K hK=> ?_);go_simp
 refine⟨_,fun w1 hw1=>rfl,hK _ ?_⟩;clear hK K;refine wpQuiet_nil ?_;intro w1 hw1;have HS1:=Lib.hid hw1;clear hw1;go_wp2_with fail
 go_ret
 exact⟨_,_,rfl,⟨rfl,rfl⟩,HS1.out.drop_⟩
attribute [local go_sem] fz cw vP
theorem DC (l:List UInt8) (k:Nat):(ba l).extract 0 k=ba (l.take k):=by rw[qh,dm]; simp
attribute [local go_sem] DC
attribute [local go_sem] vgetV
theorem DD (b:Nat) (st:List UInt8×Int) (s:List UInt8) (hl:st.1.length+s.length<=140737488355328) :
 hC Tryz.prog 52 #[.pointer (some ⟨b,0,none⟩),.string (ba s)] (bC b st) (fun v A' N=>v= .tuple #[]/\A'=bC b (jJ st s)/\N = []):=by
 have h:=BG b st (ba s) (by rw[cw]; exact hl)
 rwa [dm] at h
theorem BV (b:Nat) (st:List UInt8×Int):hC Tryz.prog 50 #[.pointer (some ⟨b,0,none⟩)] (bC b st) (fun v A' N=>v= .tuple #[.string (ba (otx st).1),.int .i64 (otx st).2]/\A'=bC b st/\N = []):=by
 have h:=FU b st
 rwa [AL] at h
theorem BW (n k:Int) (h0: -9223372036854775808<=n) (h1:n<=9223372036854775807) (hk0:0<=k) (hk:k<=8) :
 j7 Tryz.prog 63 #[.int .i64 n,.int .i64 k] (fun v N=>v= .string (ba (be n k.toNat))/\N = []):=by
 have h:=sg n k.toNat h0 h1 QR
 rwa [show ((k.toNat:Nat):Int)=k by omega] at h
theorem DE (n:Int) (h0:0<=n) (hn:n<18446744073709551616):j7 Tryz.prog 226 #[.int .u64 n] (fun v N=>v= .string (ba (cO n.toNat))/\N = []):=by
 have h:=zx n.toNat QR
 rwa [show ((n.toNat:Nat):Int)=n by omega] at h
theorem yV (b:Bl) (k:Int) (h0:0<=k) (hk:k<=8) (hl:b.data.length<=140737488355328):j7 Tryz.prog 110 #[blV b,.int .i64 k] (fun v N=>v= .string (ba (be (blen b) k.toNat++b.data))/\N = []):=by
 have h:=AO b k.toNat QR hl
 rwa [show ((k.toNat:Nat):Int)=k by omega] at h
def l7 (st:List UInt8×Int) (e:Int):Option (List UInt8×Int):=some (mS st e)
theorem g6 (g:Nat) (st:List UInt8×Int) (e:Int) (r:List UInt8×Int) (h:l7 st e=some r):aG Tryz.prog 94 #[.pointer (some ⟨g,0,none⟩),.int .i64 e] .triv (bC g st) (fun v A' N=>v= .tuple #[]/\A'=bC g r/\N = []):=by
 unfold l7 at h;obtain rfl:=Nz h;exact LA (ri g st e)
def EN (st:List UInt8×Int) (s:List UInt8):Option (List UInt8×Int):=if st.1.length+s.length<=140737488355328 then some (jJ st s) else none
theorem xd (g:Nat) (st:List UInt8×Int) (s:List UInt8) (r:List UInt8×Int) (h:EN st s=some r):aG Tryz.prog 52 #[.pointer (some ⟨g,0,none⟩),.string (ba s)] .triv (bC g st) (fun v A' N=>v= .tuple #[]/\A'=bC g r/\N = []):=by
 unfold EN at h;split at h
 ·rename_i h1;obtain rfl:=Nz h;exact LA (DD g st s h1)
 ·simp at h
def xe (st:List UInt8×Int) (c:Int):Option (List UInt8×Int):=if 0<=c/\c<256/\st.1.length+1<=140737488355328 then some (jJ st [UInt8.ofNat c.toNat]) else none
theorem qn (g:Nat) (st:List UInt8×Int) (c:Int) (r:List UInt8×Int) (h:xe st c=some r):aG Tryz.prog 102 #[.pointer (some ⟨g,0,none⟩),.int .u8 c] .triv (bC g st) (fun v A' N=>v= .tuple #[]/\A'=bC g r/\N = []):=by
 unfold xe at h;split at h
 ·rename_i h1;obtain rfl:=Nz h;exact LA (pc g st c h1.1 h1.2.1 h1.2.2)
 ·simp at h
def Hn (st:List UInt8×Int)  : Option (Int×(List UInt8×Int)):=some (st.2,st)
theorem DF (g:Nat) (st:List UInt8×Int)  (r:Int×(List UInt8×Int)) (h:Hn st  = some r):aG Tryz.prog 48 #[.pointer (some ⟨g,0,none⟩)] .triv (bC g st) (fun v A' N=>v= .int .i64 r.1/\A'=bC g r.2/\N = []):=by
 unfold Hn at h;obtain rfl:=Nz h;exact LA (Hg g st)
def og (st:List UInt8×Int)  : Option (List UInt8×Int×(List UInt8×Int)):=some ((otx st).1,(otx st).2,st)
theorem F3 (st:List UInt8×Int)  : og st  = some ((otx st).1,(otx st).2,st):=rfl
theorem iP (g:Nat) (st:List UInt8×Int)  (r:List UInt8×Int×(List UInt8×Int)) (h:og st  = some r):aG Tryz.prog 50 #[.pointer (some ⟨g,0,none⟩)] .triv (bC g st) (fun v A' N=>v= .tuple #[.string (ba r.1),.int .i64 r.2.1]/\A'=bC g r.2.2/\N = []):=by
 unfold og at h;obtain rfl:=Nz h;exact LA (BV g st)
def ed (st:List UInt8×Int) (n:Int) (size:Int):Option (List UInt8×Int):=if (-9223372036854775808<=n/\n<=9223372036854775807)/\st.1.length+8<=140737488355328 then some (AJ st n size) else none
theorem Ho (st:List UInt8×Int) (n:Int) (size:Int) (h:(-9223372036854775808<=n/\n<=9223372036854775807)/\st.1.length+8<=140737488355328):ed st n size=some (AJ st n size):=QX h
theorem bu (g:Nat) (st:List UInt8×Int) (n:Int) (size:Int) (r:List UInt8×Int) (h:ed st n size=some r):aG Tryz.prog 51 #[.pointer (some ⟨g,0,none⟩),.int .i64 n,.int .i64 size] .triv (bC g st) (fun v A' N=>v= .tuple #[]/\A'=bC g r/\N = []):=by
 unfold ed at h;split at h
 ·rename_i h1;obtain rfl:=Nz h;exact LA (vI g st n size h1.1.1 h1.1.2 h1.2)
 ·simp at h
def jy  (n:Int) (size:Int):Option (Bool):=if (-9223372036854775808<=n/\n<=9223372036854775807) then some (bn n size) else none
theorem gL  (n:Int) (size:Int) (h:(-9223372036854775808<=n/\n<=9223372036854775807)):jy  n size=some (bn n size):=QX h
theorem dI (n:Int) (size:Int) (r:Bool) (h:jy  n size=some r) (w:World):Calls Tryz.prog 101 #[.int .i64 n,.int .i64 size] w fun e w'=>e= .returned (.bool r)/\w=w':=by
 unfold jy at h;split at h
 ·rename_i h1;obtain rfl:=Nz h;exact qg n size w h1.1 h1.2
 ·simp at h
def wc  (s:List UInt8):Option (I):=if s.length<=9223372036854775807 then some (⟨s,0,0⟩:I) else none
theorem kp  (s:List UInt8) (h:s.length<=9223372036854775807):wc  s=some (⟨s,0,0⟩:I):=QX h
theorem j8 (s:List UInt8) (r:I) (h:wc  s=some r):aG Tryz.prog 19 #[.string (ba s)] .triv aL (fun v A' N=> ∃ g,v= .pointer (some ⟨g,0,none⟩)/\A'=aL/\N = [InR g r]):=by
 unfold wc at h;split at h
 ·rename_i h1;obtain rfl:=Nz h;have k:=ML (X:= .triv) (Hh (ba s) (by rw[cw]; omega));intro F w hA hX;refine (k F w hA hX).mono ?_;rintro e w' ⟨v,A',Ns,rfl,⟨rfl,b,rfl,rfl⟩,hst⟩;rw[dm] at hst;exact⟨_,_,_,rfl,⟨b,rfl,rfl,rfl⟩,hst⟩
 ·simp at h
def ck (st:I) (e:Int):Option (I):=some (dz st e)
theorem dB (st:I) (e:Int):ck st e=some (dz st e):=rfl
theorem bK (g:Nat) (st:I) (e:Int) (r:I) (h:ck st e=some r):aG Tryz.prog 70 #[.pointer (some ⟨g,0,none⟩),.int .i64 e] .triv (InR g st) (fun v A' N=>v= .tuple #[]/\A'=InR g r/\N = []):=by
 unfold ck at h;obtain rfl:=Nz h;exact LA (hM g st e)
def xf (st:I)  : Option (Int×I):=some ((st.rest.length:Int),st)
theorem s8 (st:I)  : xf st  = some ((st.rest.length:Int),st):=rfl
theorem pe (g:Nat) (st:I)  (r:Int×I) (h:xf st  = some r):aG Tryz.prog 71 #[.pointer (some ⟨g,0,none⟩)] .triv (InR g st) (fun v A' N=>v= .int .i64 r.1/\A'=InR g r.2/\N = []):=by
 unfold xf at h;obtain rfl:=Nz h;exact LA (oC g st)
def BX (st:I) (n:Int):Option (List UInt8×I):=if (-9223372036854775808<=n/\n<=9223372036854775807) then some ((cE st n).1,(cE st n).2) else none
theorem oF (st:I) (n:Int) (h:(-9223372036854775808<=n/\n<=9223372036854775807)):BX st n=some ((cE st n).1,(cE st n).2):=QX h
theorem xg (g:Nat) (st:I) (n:Int) (r:List UInt8×I) (h:BX st n=some r):aG Tryz.prog 67 #[.pointer (some ⟨g,0,none⟩),.int .i64 n] .triv (InR g st) (fun v A' N=>v= .string (ba r.1)/\A'=InR g r.2/\N = []):=by
 unfold BX at h;split at h
 ·rename_i h1;obtain rfl:=Nz h;exact LA (eC g st n h1.1 h1.2)
 ·simp at h
def d9 (st:I) (size:Int):Option (Int×I):=some ((fk st size).1,(fk st size).2)
theorem kq (st:I) (size:Int):d9 st size=some ((fk st size).1,(fk st size).2):=rfl
theorem bz (g:Nat) (st:I) (size:Int) (r:Int×I) (h:d9 st size=some r):aG Tryz.prog 68 #[.pointer (some ⟨g,0,none⟩),.int .i64 size] .triv (InR g st) (fun v A' N=>v= .int .i64 r.1/\A'=InR g r.2/\N = []):=by
 unfold d9 at h;obtain rfl:=Nz h;exact LA (ud g st size)
def iF (st:I)  : Option (Int×I):=some (st.err,st)
theorem bA (st:I)  : iF st  = some (st.err,st):=rfl
theorem cy (g:Nat) (st:I)  (r:Int×I) (h:iF st  = some r):aG Tryz.prog 23 #[.pointer (some ⟨g,0,none⟩)] .triv (InR g st) (fun v A' N=>v= .int .i64 r.1/\A'=InR g r.2/\N = []):=by
 unfold iF at h;obtain rfl:=Nz h;exact LA (rj g st)
def eh (st:I)  : Option (Int×I):=some ((fM st).err,fM st)
theorem gM (st:I)  : eh st  = some ((fM st).err,fM st):=rfl
theorem dq (g:Nat) (st:I)  (r:Int×I) (h:eh st  = some r):aG Tryz.prog 21 #[.pointer (some ⟨g,0,none⟩)] .triv (InR g st) (fun v A' N=>v= .int .i64 r.1/\A'=InR g r.2/\N = []):=by
 unfold eh at h;obtain rfl:=Nz h;exact LA (Dn g st)
def jB (st:I) (size:Int) (each:Int):Option (Int×I):=if (-9223372036854775808<=size/\size<=9223372036854775807)/\(-9223372036854775808<=each/\each<=9223372036854775807) then some ((l6 st size each).1,(l6 st size each).2) else none
theorem uh (st:I) (size:Int) (each:Int) (h:(-9223372036854775808<=size/\size<=9223372036854775807)/\(-9223372036854775808<=each/\each<=9223372036854775807)):jB st size each=some ((l6 st size each).1,(l6 st size each).2):=QX h
theorem lE (g:Nat) (st:I) (size:Int) (each:Int) (r:Int×I) (h:jB st size each=some r):aG Tryz.prog 144 #[.pointer (some ⟨g,0,none⟩),.int .i64 size,.int .i64 each] .triv (InR g st) (fun v A' N=>v= .int .i64 r.1/\A'=InR g r.2/\N = []):=by
 unfold jB at h;split at h
 ·rename_i h1;obtain rfl:=Nz h;exact LA (Do g st size each)
 ·simp at h
def pK (st:I)  : Option (Int×I):=some ((gx (fh 32 st)).1,(gx (fh 32 st)).2)
theorem Hp (st:I)  : pK st  = some ((gx (fh 32 st)).1,(gx (fh 32 st)).2):=rfl
theorem sp (g:Nat) (st:I)  (r:Int×I) (h:pK st  = some r):aG Tryz.prog 127 #[.pointer (some ⟨g,0,none⟩)] .triv (InR g st) (fun v A' N=>v= .int .i64 r.1/\A'=InR g r.2/\N = []):=by
 unfold pK at h;obtain rfl:=Nz h;exact LA (zr g st)
def mT (st:I)  : Option (Int×I):=some ((gx (fh 64 st)).1,(gx (fh 64 st)).2)
theorem F4 (st:I)  : mT st  = some ((gx (fh 64 st)).1,(gx (fh 64 st)).2):=rfl
theorem vQ (g:Nat) (st:I)  (r:Int×I) (h:mT st  = some r):aG Tryz.prog 126 #[.pointer (some ⟨g,0,none⟩)] .triv (InR g st) (fun v A' N=>v= .int .i64 r.1/\A'=InR g r.2/\N = []):=by
 unfold mT at h;obtain rfl:=Nz h;exact LA (Dt g st)
def xh (st:List UInt8×Int) (n:Int):Option (List UInt8×Int):=if (-9223372036854775808<=n/\n<=9223372036854775807)/\st.1.length+10<=140737488355328 then some (jJ st (cO (bw n))) else none
theorem yW (g:Nat) (st:List UInt8×Int) (n:Int) (r:List UInt8×Int) (h:xh st n=some r):aG Tryz.prog 181 #[.pointer (some ⟨g,0,none⟩),.int .i64 n] .triv (bC g st) (fun v A' N=>v= .tuple #[]/\A'=bC g r/\N = []):=by
 unfold xh at h;split at h
 ·rename_i h1;obtain rfl:=Nz h;exact LA (yO g st n h1.1.1 h1.1.2 h1.2)
 ·simp at h
def wH (st:List UInt8×Int) (n:Int):Option (List UInt8×Int):=if (-9223372036854775808<=n/\n<=9223372036854775807)/\st.1.length+10<=140737488355328 then some (mz st n) else none
theorem s9 (g:Nat) (st:List UInt8×Int) (n:Int) (r:List UInt8×Int) (h:wH st n=some r):aG Tryz.prog 182 #[.pointer (some ⟨g,0,none⟩),.int .i64 n] .triv (bC g st) (fun v A' N=>v= .tuple #[]/\A'=bC g r/\N = []):=by
 unfold wH at h;split at h
 ·rename_i h1;obtain rfl:=Nz h;exact LA (sX g st n h1.1.1 h1.1.2 h1.2)
 ·simp at h
def xi  (s:List UInt8):Option (Int):=if s.length<=8 then some (ek s) else none
theorem ta  (s:List UInt8) (h:s.length<=8):xi  s=some (ek s):=QX h
theorem pf (s:List UInt8) (r:Int) (h:xi  s=some r) (w:World):Calls Tryz.prog 25 #[.string (ba s)] w fun e w'=>e= .returned (.int .i64 r)/\w=w':=by
 unfold xi at h;split at h
 ·rename_i h1;obtain rfl:=Nz h;exact BJ s h1 w
 ·simp at h
def cP  (n:Int) (k:Int):Option (List UInt8):=if (-9223372036854775808<=n/\n<=9223372036854775807)/\0<=k/\k<=8 then some (be n k.toNat) else none
theorem bT  (n:Int) (k:Int) (h:(-9223372036854775808<=n/\n<=9223372036854775807)/\0<=k/\k<=8):cP  n k=some (be n k.toNat):=QX h
theorem bB (n:Int) (k:Int) (r:List UInt8) (h:cP  n k=some r):aG Tryz.prog 63 #[.int .i64 n,.int .i64 k] .triv aL (fun v A' N=>v= .string (ba r)/\A'=aL/\N = []):=by
 unfold cP at h;split at h
 ·rename_i h1;obtain rfl:=Nz h;exact LT (BW n k h1.1.1 h1.1.2 h1.2.1 h1.2.2)
 ·simp at h
def xj  (n:Int) (size:Int):Option (Bool):=if (-9223372036854775808<=n/\n<=9223372036854775807) then some (bn n size) else none
theorem zy  (n:Int) (size:Int) (h:(-9223372036854775808<=n/\n<=9223372036854775807)):xj  n size=some (bn n size):=QX h
theorem vR (n:Int) (size:Int) (r:Bool) (h:xj  n size=some r):aG Tryz.prog 206 #[.int .i64 n,.int .i64 size] .triv aL (fun v A' N=>v= .bool r/\A'=aL/\N = []):=by
 unfold xj at h;split at h
 ·rename_i h1;obtain rfl:=Nz h;exact LT (FW n size h1.1 h1.2)
 ·simp at h
def AP  (n:Int):Option (Int):=if (-9223372036854775808<=n/\n<=9223372036854775807) then some (bw n:Int) else none
theorem F5  (n:Int) (h:(-9223372036854775808<=n/\n<=9223372036854775807)):AP  n=some (bw n:Int):=QX h
theorem BZ (n:Int) (r:Int) (h:AP  n=some r) (w:World):Calls Tryz.prog 227 #[.int .i64 n] w fun e w'=>e= .returned (.int .u64 r)/\w=w':=by
 unfold AP at h;split at h
 ·rename_i h1;obtain rfl:=Nz h;exact zw n h1.1 h1.2 w
 ·simp at h
def EO  (n:Int):Option (List UInt8):=if 0<=n/\n<18446744073709551616 then some (cO n.toNat) else none
theorem Hq  (n:Int) (h:0<=n/\n<18446744073709551616):EO  n=some (cO n.toNat):=QX h
theorem DG (n:Int) (r:List UInt8) (h:EO  n=some r):aG Tryz.prog 226 #[.int .u64 n] .triv aL (fun v A' N=>v= .string (ba r)/\A'=aL/\N = []):=by
 unfold EO at h;split at h
 ·rename_i h1;obtain rfl:=Nz h;exact LT (DE n h1.1 h1.2)
 ·simp at h
def gOf  (s:List UInt8):Option (Bl):=some (⟨false,s⟩:Bl)
theorem Hr (s:List UInt8) (r:Bl) (h:gOf  s=some r):aG Tryz.prog 143 #[.string (ba s)] .triv aL (fun v A' N=>v= .agg #[.bool r.null,.string (ba r.data)]/\A'=aL/\N = []):=by
 unfold gOf at h;obtain rfl:=Nz h;exact LT (sZ s)
def qo  (b:Bl):Option (Bool):=some (bL b)
theorem ui  (b:Bl):qo  b=some (bL b):=rfl
theorem nO (b:Bl) (r:Bool) (h:qo  b=some r):aG Tryz.prog 148 #[.agg #[.bool b.null,.string (ba b.data)]] .triv aL (fun v A' N=>v= .bool r/\A'=aL/\N = []):=by
 unfold qo at h;obtain rfl:=Nz h;exact LT (qk b)
def mK (st:List UInt8×Int) (b:Bl) (size:Int):Option (List UInt8×Int):=if (-9223372036854775808<=size/\size<=9223372036854775807)/\st.1.length+8+b.data.length<=140737488355328 then some (ue st b size) else none
theorem kr (g:Nat) (st:List UInt8×Int) (b:Bl) (size:Int) (r:List UInt8×Int) (h:mK st b size=some r):aG Tryz.prog 95 #[.pointer (some ⟨g,0,none⟩),.agg #[.bool b.null,.string (ba b.data)],.int .i64 size] .triv (bC g st) (fun v A' N=>v= .tuple #[]/\A'=bC g r/\N = []):=by
 unfold mK at h;split at h
 ·rename_i h1;obtain rfl:=Nz h;exact LA (ql g st b size h1.1.1 h1.1.2 h1.2)
 ·simp at h
def mU (st:List UInt8×Int) (b:Bl):Option (List UInt8×Int):=if st.1.length+10+b.data.length<=140737488355328 then some (sn st b) else none
theorem l9 (g:Nat) (st:List UInt8×Int) (b:Bl) (r:List UInt8×Int) (h:mU st b=some r):aG Tryz.prog 183 #[.pointer (some ⟨g,0,none⟩),.agg #[.bool b.null,.string (ba b.data)]] .triv (bC g st) (fun v A' N=>v= .tuple #[]/\A'=bC g r/\N = []):=by
 unfold mU at h;split at h
 ·rename_i h1;obtain rfl:=Nz h;exact LA (pJ g st b h1)
 ·simp at h
def oG (st:List UInt8×Int) (s:List UInt8):Option (List UInt8×Int):=if st.1.length+8+s.length<=140737488355328 then some (BS st s) else none
theorem lx (g:Nat) (st:List UInt8×Int) (s:List UInt8) (r:List UInt8×Int) (h:oG st s=some r):aG Tryz.prog 88 #[.pointer (some ⟨g,0,none⟩),.string (ba s)] .triv (bC g st) (fun v A' N=>v= .tuple #[]/\A'=bC g r/\N = []):=by
 unfold oG at h;split at h
 ·rename_i h1;obtain rfl:=Nz h;exact LA (yQ g st s h1)
 ·simp at h
def tb (st:List UInt8×Int) (s:List UInt8):Option (List UInt8×Int):=if st.1.length+10+s.length<=140737488355328 then some (BT st s) else none
theorem r7 (g:Nat) (st:List UInt8×Int) (s:List UInt8) (r:List UInt8×Int) (h:tb st s=some r):aG Tryz.prog 132 #[.pointer (some ⟨g,0,none⟩),.string (ba s)] .triv (bC g st) (fun v A' N=>v= .tuple #[]/\A'=bC g r/\N = []):=by
 unfold tb at h;split at h
 ·rename_i h1;obtain rfl:=Nz h;exact LA (yR g st s h1)
 ·simp at h
def kW (st:I) (size:Int):Option (Bl×I):=some ((jA st size).1,(jA st size).2)
theorem F6 (st:I) (size:Int):kW st size=some ((jA st size).1,(jA st size).2):=rfl
theorem j9 (g:Nat) (st:I) (size:Int) (r:Bl×I) (h:kW st size=some r):aG Tryz.prog 142 #[.pointer (some ⟨g,0,none⟩),.int .i64 size] .triv (InR g st) (fun v A' N=>v= .agg #[.bool r.1.null,.string (ba r.1.data)]/\A'=InR g r.2/\N = []):=by
 unfold kW at h;obtain rfl:=Nz h;exact LA (vM g st size)
def cY (st:I)  : Option (Bl×I):=some ((iK st).1,(iK st).2)
theorem DH (st:I)  : cY st  = some ((iK st).1,(iK st).2):=rfl
theorem fu (g:Nat) (st:I)  (r:Bl×I) (h:cY st  = some r):aG Tryz.prog 128 #[.pointer (some ⟨g,0,none⟩)] .triv (InR g st) (fun v A' N=>v= .agg #[.bool r.1.null,.string (ba r.1.data)]/\A'=InR g r.2/\N = []):=by
 unfold cY at h;obtain rfl:=Nz h;exact LA (s6 g st)
def tc (st:I)  : Option (List UInt8×I):=some ((EL st).1,(EL st).2)
theorem pg (g:Nat) (st:I)  (r:List UInt8×I) (h:tc st  = some r):aG Tryz.prog 86 #[.pointer (some ⟨g,0,none⟩)] .triv (InR g st) (fun v A' N=>v= .string (ba r.1)/\A'=InR g r.2/\N = []):=by
 unfold tc at h;obtain rfl:=Nz h;exact LA (Dw g st)
def xk (st:I)  : Option (List UInt8×I):=some ((EM st).1,(EM st).2)
theorem xl (g:Nat) (st:I)  (r:List UInt8×I) (h:xk st  = some r):aG Tryz.prog 125 #[.pointer (some ⟨g,0,none⟩)] .triv (InR g st) (fun v A' N=>v= .string (ba r.1)/\A'=InR g r.2/\N = []):=by
 unfold xk at h;obtain rfl:=Nz h;exact LA (Dx g st)
def nQ  (s:List UInt8):Option (Bool):=some (dS s)
theorem ph  (s:List UInt8):nQ  s=some (dS s):=rfl
theorem mA (s:List UInt8) (r:Bool) (h:nQ  s=some r) (w:World):Calls Tryz.prog 87 #[.string (ba s)] w fun e w'=>e= .returned (.bool r)/\w=w':=by
 unfold nQ at h;obtain rfl:=Nz h;exact Dz s w
def jK  (b:Bl) (k:Int):Option (List UInt8):=if 0<=k/\k<=8/\b.data.length<=140737488355328 then some (be (blen b) k.toNat++b.data) else none
theorem ka  (b:Bl) (k:Int) (h:0<=k/\k<=8/\b.data.length<=140737488355328):jK  b k=some (be (blen b) k.toNat++b.data):=QX h
theorem iC (b:Bl) (k:Int) (r:List UInt8) (h:jK  b k=some r):aG Tryz.prog 110 #[.agg #[.bool b.null,.string (ba b.data)],.int .i64 k] .triv aL (fun v A' N=>v= .string (ba r)/\A'=aL/\N = []):=by
 unfold jK at h;split at h
 ·rename_i h1;obtain rfl:=Nz h;exact LT (yV b k h1.1 h1.2.1 h1.2.2)
 ·simp at h
def kX  (b:Bl):Option (List UInt8):=if b.data.length<=140737488355328 then some (cO (bw (blen b))++b.data) else none
theorem mB  (b:Bl) (h:b.data.length<=140737488355328):kX  b=some (cO (bw (blen b))++b.data):=QX h
theorem dr (b:Bl) (r:List UInt8) (h:kX  b=some r):aG Tryz.prog 204 #[.agg #[.bool b.null,.string (ba b.data)]] .triv aL (fun v A' N=>v= .string (ba r)/\A'=aL/\N = []):=by
 unfold kX at h;split at h
 ·rename_i h1;obtain rfl:=Nz h;exact LT (yU b h1)
 ·simp at h
inductive Lp (R S:Type) where
 | ret (r:R)
 | go (s:S)
section
variable {α:Type}
def gF (size:Nat) (E:Rd α) (w:World) (S:Nat->Prop):List Value->List α->Prop
 | cs,[]=>cs = []
 | cs,x::xs=>(cs.take size).length=size/\E.P w S (cs.take size) x/\gF size E w S (cs.drop size) xs
variable {size:Nat} {E:Rd α} {w w':World} {S S':Nat->Prop}
theorem pi: ∀ {xs:List α} {cs:List Value},gF size E w S cs xs->(∀ k,S k->S' k)->gF size E w S' cs xs
 | [],_,h,_=>h
 | _ :: _,_,⟨h0,h1,h2⟩,k=>⟨h0,E.mono h1 k,pi h2 k⟩
theorem jV: ∀ {xs:List α} {cs:List Value},gF size E w S cs xs->(∀ k,S k->w'.heap[k]? = w.heap[k]?)->gF size E w' S cs xs
 | [],_,h,_=>h
 | _ :: _,_,⟨h0,h1,h2⟩,k=>⟨h0,E.move h1 k,jV h2 k⟩
theorem kt: ∀ {xs:List α} {cs:List Value},gF size E w S cs xs->cs.length=xs.length*size
 | [],cs,h=>by simp[show cs = [] from h]
 | x::xs,cs,⟨h0,_,h2⟩=>by
  have h3:=kt h2;rw[On] at h0;rw[NO] at h3;rw[NJ,Nat.add_mul,Nat.one_mul];omega
theorem su: ∀ {xs:List α} {cs news:List Value} {x:α},gF size E w S cs xs->news.length=size->E.P w S news x->gF size E w S (cs++news) (xs ++ [x])
 | [],cs,news,x,h,hl,hx=>by
  obtain rfl:cs = []:=h;exact⟨by simp[hl],by rw[NV,List.take_of_length_le QR]; exact hx,by rw[NV,List.drop_of_length_le QR]; exact rfl⟩
 | y::ys,cs,news,x,⟨h0,h1,h2⟩,hl,hx=>by
  have hle:size<=cs.length:=by rw[On] at h0; omega
  refine⟨?_,?_,?_⟩
  ·rw[List.take_append_of_le_length hle]; exact h0
  ·rw[List.take_append_of_le_length hle]; exact h1
  ·rw[List.drop_append_of_le_length hle]; exact su h2 hl hx
theorem uj: ∀ {xs:List α} {cs:List Value} {i:Nat} {x:α},gF size E w S cs xs->xs[i]? = some x->((cs.drop (i*size)).take size).length=size/\E.P w S ((cs.drop (i*size)).take size) x
 | [],_,i,_,_,hi=>by simp at hi
 | y::ys,cs,0,x,⟨h0,h1,_⟩,hi=>by
  obtain rfl:y=x:=by simpa using hi
  rw[Nat.zero_mul,List.drop_zero];exact⟨h0,h1⟩
 | y::ys,cs,i+1,x,⟨_,_,h2⟩,hi=>by
  have h3:=uj (i:=i) h2 (by simpa using hi);rw[Om] at h3
  rwa [show size+i*size=(i+1)*size by rw[Nat.add_mul]; omega] at h3
def bG (T:TypeId) (size:Nat) (E:Rd α) (v:Value) (xs:List α):Res where
 P:=fun w G=> ∃ cells S,w.ownsRow 0 T size v xs.length cells/\gF size E w S cells xs/\(∀ k,S k->k<w.heap.size)/\(∀ k,v.ownBlock=some k-> ¬ S k)/\ ∀ k,G k↔v.ownBlock=some k\/S k
 lt:=by
  rintro w G ⟨cells,S,h1,h2,h3,h4,h5⟩ k hk;rcases (h5 k).1 hk with h | h
  ·exact wV h1 k h
  ·exact h3 k h
 move:=by
  rintro w w' G ⟨cells,S,h1,h2,h3,h4,h5⟩ hm;refine⟨cells,S,qd h1 (fun k hk=>hm k ((h5 k).2 (.inl hk))),jV h2 (fun k hk=>hm k ((h5 k).2 (.inr hk))),fun k hk=> ?_,h4,h5⟩;have h6:=h3 k hk;have h7:=hm k ((h5 k).2 (.inr hk));rw[Array.getElem?_eq_getElem h6] at h7;exact (Array.getElem?_eq_some_iff.1 h7).1
theorem bX {T:TypeId} {v:Value} {xs:List α} (hp:0<size): ∀ w G,(bG T size E v xs).P w G->(RX.of (aq size E) [v] xs).P w G:=by
 rintro w G ⟨cells,S,h1,h2,h3,h4,h5⟩;have hb:=h1;rcases h1.2 with⟨rfl,hn⟩ | ⟨g,cap,cur,rfl,hbg,hg,hnc,hcm,hcs,htake⟩
 ·exact .inl ⟨rfl,List.eq_nil_of_length_eq_zero hn⟩
 ·refine .inr ⟨⟨g,0,none⟩,cap,rfl,hnc,hcm,fun _=>(h5 g).2 (.inl rfl),fun i x hx=> ?_⟩;obtain⟨k1,k2⟩:=uj h2 hx;have hi:i<xs.length:=(ND hx).1;refine⟨_,k1,fun j hj=> ?_,E.mono k2 (fun k hk=>(h5 k).2 (.inr hk))⟩;have hadd:(⟨g,0,none⟩:Addr).add (i*size+j)=⟨g,i*size+j,none⟩:=by unfold Addr.add; split <;> simp_all
  have hlt:i*size+j<xs.length*size:=by
   have:(i+1)*size<=xs.length*size:=Nat.mul_le_mul_right _ QR;rw[Nat.add_mul] at this;omega
  rw[hadd,hb.cellAt _ hlt,List.getElem?_take,QX hj,List.getElem?_drop]
theorem xm {cs:List Value} {a:α}: ∀ w G,(RdR E cs a).P w G->(RX.of E cs a).P w G:=fun _ _ h=>h.1
theorem ma {F:Nat->Prop}:(RX.of (aq size E) [.slice none 0 0] []).reads w F:=⟨fun _=>False,.inl ⟨rfl,rfl⟩,fun _ h=>h.elim⟩
theorem Lm {F:Nat->Prop} {A:Option Addr} {n c i:Nat} {l:List α} {x:α} (hp:0<size) (h:(RX.of (aq size E) [.slice A n c] l).reads w F) (hx:l[i]? = some x) :
 ∃ g o:Nat,A=some ⟨g,o,none⟩/\ ∃ cs,cs.length=size/\(∀ j,j<size->w.cell? ⟨g,o+i*size+j,none⟩=cs[j]?)/\(¬ F g/\g<w.heap.size)/\(RX.of E cs x).reads w F:=by
 obtain⟨S,h,hS⟩:=h;rcases h with⟨h,rfl⟩ | ⟨a,cap,h,_,_,hb,h2⟩
 ·simp at hx
 ·injection h with h;injection h with h3 h4 h5;subst h3;have hl:0<l.length:=by have:=(ND hx).1; omega
  obtain⟨cs0,k1,k2,_⟩:=h2 0 l[0] (List.getElem?_eq_getElem hl);have k3:=k2 0 hp;rw[List.getElem?_eq_getElem QR] at k3;have k4:a.add (0*size+0)=a:=by simp[Addr.add]
  rw[k4] at k3;have k5:=ub k3;obtain⟨cs,k6,k7,k8⟩:=h2 i x hx;refine⟨a.block,a.off,by rw[<- k5],cs,k6,fun j hj=> ?_,hS _ (hb hl),S,k8,hS⟩;rw[<- k7 j hj,k5,WideShapes.add_plain,Nat.add_assoc]
theorem Ml {F:Nat->Prop} {g o n c i:Nat} {l:List α} {x:α} (hp:0<size) (h:(RX.of (aq size E) [.slice (some ⟨g,o,none⟩) n c] l).reads w F) (hx:l[i]? = some x) :
 ∃ cs,cs.length=size/\(∀ j,j<size->w.cell? ⟨g,o+i*size+j,none⟩=cs[j]?)/\(¬ F g/\g<w.heap.size)/\(RX.of E cs x).reads w F:=by
 obtain⟨g',o',h1,cs,h2⟩:=Lm hp h hx;injection h1 with h1;injection h1 with h3 h4;subst h3 h4;exact⟨cs,h2⟩
theorem LG {F:Nat->Prop} {A:Option Addr} {n c:Nat} {l:List α} (h:(RX.of (aq size E) [.slice A n c] l).reads w F):l.length<=9223372036854775807:=by
 obtain⟨S,h,hS⟩:=h;rcases h with⟨h,rfl⟩ | ⟨a,cap,h,h1,h2,_⟩
 ·simp
 ·have:maxLen=9223372036854775807:=rfl;omega
theorem St.old2 {F0:Nat->Prop} {w wr:World} {Rs:List Res} {v:Option Value} {g o:Nat} (h:St F0 w Rs wr) (hb: ¬ F0 g/\g<w.heap.size) (hc:w.cell? ⟨g,o,none⟩=v):wr.cell? ⟨g,o,none⟩=v:=by
 rw[<- hc];have e:=h.fr.block g hb.2 hb.1;simp only[World.cell?,e]
theorem bH {l:List α} {k:Nat} {x:α} (h:l[k]? = some x):l.drop k=x::l.drop (k+1):=by
 obtain⟨hk,rfl⟩:=ND h;exact List.drop_eq_getElem_cons hk
theorem RdR.nil {F0:Nat->Prop} {w0:World} {Rs:List Res} (size:Nat) (E:Rd α) (h:St F0 w0 Rs w):St F0 w0 (RdR (aq size E) [.slice none 0 0] []::Rs) w :=
 h.grow (Ns := [RdR (aq size E) [.slice none 0 0] []]) (Fr.refl _ _) ⟨fun _=>False,⟨.inl ⟨rfl,rfl⟩,fun _ h=>h.elim⟩,fun _ h=>h.elim,trivial⟩
theorem bG.shut {F0:Nat->Prop} {w0:World} {Rs:List Res} {T:TypeId} {v:Value} {xs:List α} (hp:0<size) (i:Nat) (h:St F0 w0 Rs w) (hi:Rs[i]? = some (bG T size E v xs)):St F0 w0 (Rs.set i (RdR (aq size E) [v] xs)) w :=
 h.weaken i hi (fun G hG=>⟨bX hp _ _ hG,fun k hk=>(bG T size E v xs).lt hG k hk⟩)
section
variable {F0:Nat->Prop} {w0 w1:World} {Rs:List Res} {T:TypeId} {v v1:Value} {xs:List α} {B:Res}
theorem bG.nil (T:TypeId) (size:Nat) (E:Rd α) (h:St F0 w0 Rs w):St F0 w0 (bG T size E (.slice none 0 0) []::Rs) w :=
 h.grow (Ns := [bG T size E (.slice none 0 0) []]) (Fr.refl _ _) ⟨fun _=>False,⟨[],fun _=>False,World.ownsRow_nil _ _ _ _,rfl,fun _ h=>h.elim,fun _ _ h=>h,fun k=>by simp[Value.ownBlock]⟩,fun _ h=>h.elim,trivial⟩
theorem bG.lit (E:Rd α) (h:St F0 w0 Rs w) (cs:Array Value) (xs:List α) (hm:xs.length<=maxLen) (he:gF size E (w.alloc (.cells cs T)) (fun _=>False) cs.toList xs) :
 St F0 w0 (bG T size E (.slice (some ⟨w.heap.size,0,none⟩) xs.length xs.length) xs::Rs) (w.alloc (.cells cs T)) :=
 h.grow (Ns := [bG T size E (.slice (some ⟨w.heap.size,0,none⟩) xs.length xs.length) xs]) (Mm ((Below.refl _ _).alloc (N0 _) _))
  ⟨fun k=>k=w.heap.size,⟨cs.toList,fun _=>False,World.ownsRow_lit w cs xs.length (NY _) hm (by have:=kt he; simpa using this),he,fun _ h=>h.elim,fun _ _ h=>h,fun k=>by simp[Value.ownBlock,eq_comm]⟩,fun k hk=>by omega,trivial⟩
theorem bG.open_ (i:Nat) (h:St F0 w0 Rs w) (hi:Rs[i]? = some (bG T size E v xs)) :
 ∃ cells,w.ownsRow 0 T size v xs.length cells/\ ∀ v1 w1 news x,w1.ownsRow 0 T size v1 (xs.length+1) (cells++news)->w.grownBy w1 v.ownBlock->(v1.ownBlock=v.ownBlock\/ ∃ k,v1.ownBlock=some k/\w.heap.size<=k)->news.length=size ->
  (∀ w S,E.P w S news x)->St F0 w0 (Rs.set i (bG T size E v1 (xs ++ [x]))) w1:=by
 obtain⟨f,hs⟩:=h;obtain⟨G,⟨cells,S,h1,h2,h3,h4,h5⟩,hG,hr⟩:=Sep.pick i hi hs;refine⟨cells,h1,fun v1 w1 news x ho hg hat hl hx=> ?_⟩;have hst:St F0 w0 Rs w:=⟨f,hs⟩;have hne: ∀ k,S k->k<w.heap.size/\some k≠v.ownBlock:=fun k hk=>⟨h3 k hk,fun e=>h4 k e.symm hk⟩;have hS1:gF size E w1 S cells xs:=jV h2 (fun k hk=>hg.block k (hne k hk).1 (hne k hk).2);have hle:=hg.size;have f2:Fr G w w1:=Mn hg (fun k hk=>(h5 k).2 (.inl hk));refine⟨f.trans f2 hG,?_⟩;have hfs:=f.size;have hR:Sep (Rs.eraseIdx i) w1 (fun k=>((F0 k\/w0.heap.size<=k)/\ ¬ G k)/\k<w.heap.size):=hr.inside.move (fun k hk _=>f2.block k hk.2 hk.1.2);refine Sep.back (G:=fun k=>v1.ownBlock=some k\/S k) i hi ⟨cells++news,S,?_,su hS1 hl (hx _ _),fun k hk=>Nat.lt_of_lt_of_le (h3 k hk) hle,?_,fun _=>Iff.rfl⟩ ?_ (hR.mono (fun k hk=>⟨hk.1.1,?_⟩))
 ·rw[NE]; exact ho
 ·intro k hk;rcases hat with e | ⟨k',e,hk'⟩
  ·rw[e] at hk; exact h4 k hk
  ·rw[e] at hk;injection hk with hk;subst hk;intro hs';have:=h3 _ hs';omega
 ·rintro k (hk | hk)
  ·rcases hat with e | ⟨k',e,hk'⟩
   ·rw[e] at hk; exact hG k ((h5 k).2 (.inl hk))
   ·rw[e] at hk;injection hk with hk;subst hk;exact .inr QR
  ·exact hG k ((h5 k).2 (.inr hk))
 ·rintro (h6 | h6)
  ·rcases hat with e | ⟨k',e,hk'⟩
   ·rw[e] at h6; exact hk.1.2 ((h5 k).2 (.inl h6))
   ·rw[e] at h6;injection h6 with h6;subst h6;have:=hk.2;omega
  ·exact hk.1.2 ((h5 k).2 (.inr h6))
theorem bG.open2 (i j:Nat) (h:St F0 w0 Rs w) (hi:Rs[i]? = some (bG T size E v xs)) (hj:(Rs.eraseIdx i)[j]? = some B) :
 ∃ cells,w.ownsRow 0 T size v xs.length cells/\ ∀ v1 w1 news x,w1.ownsRow 0 T size v1 (xs.length+1) (cells++news)->w.grownBy w1 v.ownBlock->(v1.ownBlock=v.ownBlock\/ ∃ k,v1.ownBlock=some k/\w.heap.size<=k)->news.length=size ->
  (∀ w G,B.P w G->E.P w G news x)->St F0 w0 (bG T size E v1 (xs ++ [x])::(Rs.eraseIdx i).eraseIdx j) w1:=by
 obtain⟨f,hs⟩:=h;obtain⟨G,⟨cells,S,h1,h2,h3,h4,h5⟩,hG,hr⟩:=Sep.pick i hi hs;obtain⟨H,hB,hH,hr2⟩:=Sep.pick j hj hr;refine⟨cells,h1,fun v1 w1 news x ho hg hat hl hx=> ?_⟩;have hne: ∀ k,S k->k<w.heap.size/\some k≠v.ownBlock:=fun k hk=>⟨h3 k hk,fun e=>h4 k e.symm hk⟩;have hS1:gF size E w1 S cells xs:=jV h2 (fun k hk=>hg.block k (hne k hk).1 (hne k hk).2);have hle:=hg.size;have f2:Fr G w w1:=Mn hg (fun k hk=>(h5 k).2 (.inl hk));have hfs:=f.size;have hB1:B.P w1 H:=B.move hB (fun k hk=>f2.block k (B.lt hB k hk) (hH k hk).2);refine⟨f.trans f2 hG,?_⟩;have hR:Sep ((Rs.eraseIdx i).eraseIdx j) w1 (fun k=>(((F0 k\/w0.heap.size<=k)/\ ¬ G k)/\ ¬ H k)/\k<w.heap.size):=hr2.inside.move (fun k hk _=>f2.block k hk.2 hk.1.1.2);have hlt1:=B.lt hB;refine⟨fun k=>v1.ownBlock=some k\/(S k\/H k),⟨cells++news,fun k=>S k\/H k,?_,su (pi hS1 (fun _ h=> .inl h)) hl (E.mono (hx _ _ hB1) (fun _ h=> .inr h)),?_,?_,fun _=>Iff.rfl⟩,?_,hR.mono (fun k hk=>⟨hk.1.1.1,?_⟩)⟩
 ·rw[NE]; exact ho
 ·rintro k (hk | hk)
  ·exact Nat.lt_of_lt_of_le (h3 k hk) hle
  ·exact Nat.lt_of_lt_of_le (hlt1 k hk) hle
 ·intro k hk;rcases hat with e | ⟨k',e,hk'⟩
  ·rw[e] at hk;rintro (h6 | h6)
   ·exact h4 k hk h6
   ·exact (hH k h6).2 ((h5 k).2 (.inl hk))
  ·rw[e] at hk;injection hk with hk;subst hk;rintro (h6 | h6)
   ·have:=h3 _ h6; omega
   ·have:=hlt1 _ h6; omega
 ·rintro k (hk | hk | hk)
  ·rcases hat with e | ⟨k',e,hk'⟩
   ·rw[e] at hk; exact hG k ((h5 k).2 (.inl hk))
   ·rw[e] at hk;injection hk with hk;subst hk;exact .inr QR
  ·exact hG k ((h5 k).2 (.inr hk))
  ·exact (hH k hk).1
 ·rintro (h6 | h6 | h6)
  ·rcases hat with e | ⟨k',e,hk'⟩
   ·rw[e] at h6; exact hk.1.1.2 ((h5 k).2 (.inl h6))
   ·rw[e] at h6;injection h6 with h6;subst h6;have:=hk.2;omega
  ·exact hk.1.1.2 ((h5 k).2 (.inr h6))
  ·exact hk.1.2 h6
end
end
section
variable {P:Program} (w:World)
end
abbrev Env:=List (Nat×Value)
def Env.get:Env->Nat->Option Value
 | [],_=>none
 | (k,v)::e,t=>match Nat.beq k t with | true=>some v | false=>Env.get e t
def Env.ev (e:Env):Operand->Option Value
 | .tmp t=>e.get t
 | .const v=>some v
 | .func f=>some (.func (.func f) #[] #[])
 | .global g=>some (.pointer (some ⟨g,0,none⟩))
def Env.evs (e:Env):List Operand->Option (List Value)
 | []=>some []
 | x::xs=>match e.ev x with
  | some v=>match Env.evs e xs with
   | some vs=>some (v::vs)
   | none=>none
  | none=>none
structure Has (n:Nat) (e:Env) (a:Act):Prop where
 df:a.defers = []
 sz:a.tmps.size=n
 at_: ∀ t v,e.get t=some v->a.tmps[t]? = some v
section
variable {n:Nat} {e e':Env} {a:Act} {v:Value} {vs:List Value} {x:Operand} {xs:List Operand} {d:Nat}
theorem Has.put (h:Has n e a) (hd:Nat.blt d n=true):Has n ((d,v)::e) (a.put (some d) v):=by
 have hd':d<n:=by simpa [Nat.blt_eq] using hd
 refine⟨h.df,by simp[Act.put,h.sz],fun t u hu=> ?_⟩;simp only[Env.get] at hu
 cases hb:Nat.beq d t with
 | true =>
  rw[hb] at hu;obtain rfl:=Nat.eq_of_beq_eq_true hb;injection hu with hu;subst hu;simp[Act.put,h.sz,hd']
 | false =>
  rw[hb] at hu;have hne:d≠t:=Nat.ne_of_beq_eq_false hb;have h2:=h.at_ t u hu;simp only[Act.put];rw[Array.getElem?_setIfInBounds_ne hne];exact h2
theorem Has.put0 (h:Has n e a):Has n e (a.put none v):=h
theorem Has.ev (h:Has n e a) (hx:e.ev x=some v):a.eval x=v:=by
 cases x with
 | tmp t =>
  have:=h.at_ t v hx;simp[Act.eval,this]
 | const u=>simpa [Env.ev,Act.eval] using hx
 | func f=>simpa [Env.ev,Act.eval] using hx
 | global g=>simpa [Env.ev,Act.eval] using hx
theorem Has.evs (h:Has n e a): ∀ {xs:List Operand} {vs:List Value},e.evs xs=some vs->xs.map a.eval=vs
 | [],vs,hx=>by simpa [Env.evs] using hx
 | x::xs,vs,hx=>by
  simp only[Env.evs] at hx
  cases h1:e.ev x with
  | none=>rw[h1] at hx; cases hx
  | some u =>
   cases h2:e.evs xs with
   | none=>rw[h1,h2] at hx; cases hx
   | some us =>
    rw[h1,h2] at hx;injection hx with hx;subst hx;simp[h.ev h1,h.evs h2]
theorem Has.sub (h:Has n e a) (hs: ∀ t v,Env.get e' t=some v->e.get t=some v):Has n e' a:=⟨h.df,h.sz,fun t v hv=>h.at_ t v (hs t v hv)⟩
end
def Env.gets (e:Env):List Nat->Option (List Value)
 | []=>some []
 | t::ts=>match e.get t with
  | some v=>match Env.gets e ts with
   | some vs=>some (v::vs)
   | none=>none
  | none=>none
def Env.ks:Env->List Nat
 | [] => []
 | (t,_)::r=>t::Env.ks r
def Env.vs:Env->List Value
 | [] => []
 | (_,v)::r=>v::Env.vs r
def Sub (e' e:Env):Prop:=e.gets e'.ks=some e'.vs
theorem Sub.get: ∀ {e' e:Env},Sub e' e-> ∀ t v,Env.get e' t=some v->e.get t=some v
 | [],_,_,t,v,h=>by simp[Env.get] at h
 | (k,u)::r,e,hs,t,v,h=>by
  simp only[Sub,Env.ks,Env.vs,Env.gets] at hs
  cases h1:e.get k with
  | none=>rw[h1] at hs; cases hs
  | some u' =>
   cases h2:e.gets (Env.ks r) with
   | none=>rw[h1,h2] at hs; cases hs
   | some us =>
    rw[h1,h2] at hs;injection hs with hs;injection hs with hs1 hs2;subst hs1 hs2;simp only[Env.get] at h
    cases hb:Nat.beq k t with
    | true =>
     rw[hb] at h;obtain rfl:=Nat.eq_of_beq_eq_true hb;injection h with h;subst h;exact h1
    | false =>
     rw[hb] at h;exact Sub.get (e':=r) h2 t v h
def selR:List Res->List Nat->Option (List Res)
 | _,[]=>some []
 | Rs,i::is=>match Rs[i]? with
  | some A=>match selR (Rs.eraseIdx i) is with
   | some l=>some (A::l)
   | none=>none
  | none=>none
def Sel (Rs:List Res) (is:List Nat) (l:List Res):Prop:=selR Rs is=some l
theorem Sel.sep: ∀ {is:List Nat} {Rs l:List Res} {w:World} {F:Nat->Prop},Sel Rs is l->Sep Rs w F->Sep l w F
 | [],Rs,l,w,F,h,hs=>by
  injection h with h;subst h;exact trivial
 | i::is,Rs,l,w,F,h,hs=>by
  simp only[Sel,selR] at h
  cases h1:Rs[i]? with
  | none=>rw[h1] at h; cases h
  | some A =>
   cases h2:selR (Rs.eraseIdx i) is with
   | none=>rw[h1,h2] at h; cases h
   | some l' =>
    rw[h1,h2] at h;injection h with h;subst h;obtain⟨G,k1,k2,k3⟩:=Sep.pick i h1 hs;exact⟨G,k1,k2,Sel.sep h2 k3⟩
theorem St.sel {F0:Nat->Prop} {w0 w:World} {Rs l:List Res} (is:List Nat) (h:St F0 w0 Rs w) (hl:Sel Rs is l):St F0 w0 l w:=⟨h.fr,hl.sep h.sep⟩
section
variable (P:Program) (n:Nat) (F0:Nat->Prop) (w0:World)
def Ex (e:Env) (S:World->Prop) (o:Oper) (v:Value):Prop:= ∀ a w,Has n e a->S w->(execOp a.eval o).run P w= .ok (.value v) w
def T (e:Env) (Rs:List Res) (c:Code) (Q:Exit->Act->World->Prop):Prop:= ∀ a w,Has n e a->St F0 w0 Rs w->c.wp P Q a w
def X (e:Env) (Rs:List Res) (x:Exit) (Q:Exit->Act->World->Prop):Prop:= ∀ a w,Has n e a->St F0 w0 Rs w->Q x a w
def TL (ops:Array Oper) (l:List Nat) (e:Env) (Rs:List Res) (Q:Exit->Act->World->Prop):Prop:= ∀ a w,Has n e a->St F0 w0 Rs w->wpOps P ops Q l a w
def Ef (e:Env) (Rs:List Res) (o:Oper) (R:Env->List Res->Prop):Prop :=
 ∀ a w K Q,Has n e a->St F0 w0 Rs w->(∀ e' Rs',R e' Rs'-> ∀ a' w',Has n e' a'->St F0 w0 Rs' w'->K a' w')->o.wp P a w K Q
def Wd (ops:Array Oper) (e:Env) (o:Oper) (b:Bool):Prop:= ∀ a,Has n e a->Region.wanted o (yielded ops a.tmps)=b
end
section
variable {P:Program} {n:Nat} {F0:Nat->Prop} {w0:World} {e e':Env} {Rs Rs':List Res} {Q:Exit->Act->World->Prop} {ops:Array Oper} {o:Oper} {v:Value} {l:List Nat}
theorem Wd.u {d:Option Tmp} {op:Op} {ty:TypeId} {pos:String} {af:Array Edge}:Wd n ops e ⟨d,op,ty,pos,af,none⟩ true:=fun _ _=>rfl
theorem Wd.g {d:Option Tmp} {op:Op} {ty:TypeId} {pos:String} {af:Array Edge} {j t:Nat} {b want:Bool} (hj:(ops[j]?).bind (·.dst)=some t) (hv:e.get t=some (.bool b)) (hb:b=want) :
 Wd n ops e ⟨d,op,ty,pos,af,some (j,want)⟩ true:=by
 intro a h;subst hb;simp only[Region.wanted,yielded,hj,NA,h.at_ t _ hv,beq_self_eq_true]
theorem Wd.gn {d:Option Tmp} {op:Op} {ty:TypeId} {pos:String} {af:Array Edge} {j t:Nat} {b want:Bool} (hj:(ops[j]?).bind (·.dst)=some t) (hv:e.get t=some (.bool b)) (hb:b= !want) :
 Wd n ops e ⟨d,op,ty,pos,af,some (j,want)⟩ false:=by
 intro a h;subst hb;simp only[Region.wanted,yielded,hj,NA,h.at_ t _ hv];cases want <;> rfl
theorem B0 {o:Oper} {v:Value} {a:Act} {w:World} {K:Act->World->Prop} {S:World->Prop} (hx:Ex P n e S o v) (ha:Has n e a) (hw:S w) (hk:K (a.put o.dst v) w):o.wp P a w K Q:=by
 unfold Oper.wp;rw[hx a w ha hw];exact hk
theorem TL.nil (h:X n F0 w0 e Rs .normal Q):TL P n F0 w0 ops [] e Rs Q:=fun a w ha hw=>h a w ha hw
theorem TL.q {i d:Nat} {op:Op} {ty:TypeId} {pos:String} {af:Array Edge} {g:Option (Nat×Bool)} (ho:ops[i]? = some ⟨some d,op,ty,pos,af,g⟩) (hw:Wd n ops e ⟨some d,op,ty,pos,af,g⟩ true)
 (hx:Ex P n e (St F0 w0 Rs) ⟨some d,op,ty,pos,af,g⟩ v) (hd:Nat.blt d n=true) (h:TL P n F0 w0 ops l ((d,v)::e) Rs Q):TL P n F0 w0 ops (i::l) e Rs Q:=by
 intro a w ha hs;rw[wpOps_cons,wpOp,ho];simp only[hw a ha,if_true];exact .inl (B0 hx ha hs (h _ _ (ha.put hd) hs))
theorem TL.no {i d:Nat} {op:Op} {ty:TypeId} {pos:String} {af:Array Edge} {g:Option (Nat×Bool)} (ho:ops[i]? = some ⟨some d,op,ty,pos,af,g⟩) (hw:Wd n ops e ⟨some d,op,ty,pos,af,g⟩ false)
 (hd:Nat.blt d n=true) (h:TL P n F0 w0 ops l ((d,undef)::e) Rs Q):TL P n F0 w0 ops (i::l) e Rs Q:=by
 intro a w ha hs;rw[wpOps_cons,wpOp,ho];simp only[hw a ha];exact h _ _ (ha.put hd) hs
theorem TL.no0 {i:Nat} {op:Op} {ty:TypeId} {pos:String} {af:Array Edge} {g:Option (Nat×Bool)} (ho:ops[i]? = some ⟨none,op,ty,pos,af,g⟩) (hw:Wd n ops e ⟨none,op,ty,pos,af,g⟩ false)
 (h:TL P n F0 w0 ops l e Rs Q):TL P n F0 w0 ops (i::l) e Rs Q:=by
 intro a w ha hs;rw[wpOps_cons,wpOp,ho];simp only[hw a ha];exact h _ _ ha hs
theorem Me {i:Nat} {R:Env->List Res->Prop} (ho:ops[i]? = some o) (hw:Wd n ops e o true) (hx:Ef P n F0 w0 e Rs o R) (h: ∀ e' Rs',R e' Rs'->TL P n F0 w0 ops l e' Rs' Q):TL P n F0 w0 ops (i::l) e Rs Q:=by
 intro a w ha hs;rw[wpOps_cons,wpOp,ho];simp only[hw a ha,if_true];exact .inl (hx a w _ _ ha hs (fun e' Rs' hr a' w' ha' hs'=>h e' Rs' hr a' w' ha' hs'))
theorem T.region {id:Nat} {os:List Oper} (hl:List.range os.toArray.size=l) (h:TL P n F0 w0 os.toArray l e Rs Q):T P n F0 w0 e Rs (.region id os.toArray false) Q:=fun a w ha hs=>wp_region (hl ▸ h a w ha hs)
theorem T.seq {x y:Code} (h:T P n F0 w0 e Rs x (Exit.then (y.wp P Q) Q)):T P n F0 w0 e Rs (.seq x y) Q:=fun a w ha hs=>wp_seq (h a w ha hs)
theorem T.skip (h:X n F0 w0 e Rs .normal Q):T P n F0 w0 e Rs .skip Q:=fun a w ha hs=>wp_skip (h a w ha hs)
theorem T.ret (h:X n F0 w0 e Rs .ret Q):T P n F0 w0 e Rs .ret Q:=fun a w ha hs=>wp_ret (h a w ha hs)
theorem T.exit {i:Nat} (h:X n F0 w0 e Rs (.exit i) Q):T P n F0 w0 e Rs (.exit i) Q:=fun a w ha hs=>wp_exit (h a w ha hs)
theorem K1 {c:Operand} {x y:Code} {b:Bool} (hc:e.ev c=some (.bool b)) (hb:b=true) (h:T P n F0 w0 e Rs x Q):T P n F0 w0 e Rs (.cond c x y) Q:=fun a w ha hs=>wp_cond_true (by rw[ha.ev hc,hb]) (h a w ha hs)
theorem Li {c:Operand} {x y:Code} {b:Bool} (hc:e.ev c=some (.bool b)) (hb:b=false) (h:T P n F0 w0 e Rs y Q):T P n F0 w0 e Rs (.cond c x y) Q:=fun a w ha hs=>wp_cond_false (by rw[ha.ev hc,hb]) (h a w ha hs)
theorem T.block {id:Nat} {c:Code} (h:T P n F0 w0 e Rs c (Exit.inBlock id Q)):T P n F0 w0 e Rs (.block id c) Q:=fun a w ha hs=>wp_block (h a w ha hs)
theorem T.loop {c:Code} (I:Nat->Env->List Res->Prop) (m:Nat) (h0:I m e Rs) (h: ∀ m e Rs,I m e Rs->T P n F0 w0 e Rs c (Exit.then (fun a w=> ∃ m' e' Rs',m'<m/\I m' e' Rs'/\Has n e' a/\St F0 w0 Rs' w) Q)):T P n F0 w0 e Rs (.loop c) Q:=by
 intro a w ha hs b k cs;have key: ∀ m e Rs a w,I m e Rs->Has n e a->St F0 w0 Rs w-> ∃ x a' w',Q x a' w'/\Arrives P (lone (b.at a (.code c :: .inLoop c::k)) cs w) b k cs x a' w':=by
  intro m
  induction m using Nat.strongRecOn with
  | _ m ih =>
   intro e Rs a w hI ha hs;obtain⟨x,a₁,w₁,hq,harr⟩:=h m e Rs hI a w ha hs b (.inLoop c::k) cs
   cases x with
   | normal =>
    obtain⟨m',e',Rs',hlt,hI',ha',hs'⟩:=hq;obtain⟨x₂,a₂,w₂,hq₂,harr₂⟩:=ih m' hlt e' Rs' a₁ w₁ hI' ha' hs';exact⟨x₂,a₂,w₂,hq₂,.of_steps (Steps.trans harr (.one step_inLoop)) harr₂⟩
   | exit id=>exact⟨_,a₁,w₁,hq,.pass (x:= .inLoop c) rfl (fun _ _=> .inl (by simp)) harr⟩
   | goto l=>exact⟨_,a₁,w₁,hq,.pass (x:= .inLoop c) rfl (fun _ _=> .inl (by simp)) harr⟩
   | ret=>exact⟨_,a₁,w₁,hq,.pass (x:= .inLoop c) rfl (fun _ _=> .inl (by simp)) harr⟩
   | panic ch=>exact⟨_,a₁,w₁,hq,.pass (x:= .inLoop c) rfl (fun _ _=> .inl (by simp)) harr⟩
   | outgrown=>exact⟨_,a₁,w₁,hq,.pass (x:= .inLoop c) rfl (fun _ _=> .inl (by simp)) harr⟩
 obtain⟨x,a',w',hq,harr⟩:=key m e Rs a w h0 ha hs;exact⟨x,a',w',hq,.of_steps (.one step_loop) harr⟩
theorem LB {c:Code} (I:Nat->Env->List Res->Prop) (m:Nat) {e0:Env} {Rs0:List Res} (is:List Nat) (h0:I m e0 Rs0) (he:Sub e0 e) (hr:Sel Rs is Rs0) (h: ∀ m e Rs,I m e Rs->T P n F0 w0 e Rs c (Exit.then (fun a w=> ∃ m' e' Rs',m'<m/\I m' e' Rs'/\Has n e' a/\St F0 w0 Rs' w) Q)):T P n F0 w0 e Rs (.loop c) Q :=
 fun a w ha hs=>T.loop I m h0 h a w (ha.sub he.get) (hs.sel is hr)
end
end Go.Proofs.YtheikonlgjdopaaGreat.Sl
