/- frameDecodes_holds: part 0. -/
import Derived.WalkKit
import Derived.Below
import Derived.Laws.OwnMore
import Derived.Deep.Draws
import Derived.Laws.Rows
import Derived.Lib.Hide
import Derived.Lib.AppendStr
import Derived.Maps.AppendAt
import Derived.OwnWalk
import Derived.Deep.AppendLies
import Derived.Laws.BytesArg
import Derived.Deep.WholeRow
import Derived.ChangeArms
import Derived.ChangeSlices
import Derived.Deep.Slices
import Derived.OpenShut
import Derived.WideShapes
import Derived.Test.YtheikonlgjdopaaGreatProg
import Derived.KernelRfl
import Derived.Deep.QuietTactic
import Derived.BigQuiet
import Derived.LoopN
import Derived.WalkSpells
import Derived.WalkLawsBesides
import Derived.Lib.Strings
import Derived.Laws.BitsLemmas
import Derived.Scope
import Derived.ScopeJumps
import Derived.WalkMore
set_option maxRecDepth 100000
set_option maxHeartbeats 4000000
set_option linter.defProp false
namespace Go.Proofs.YtheikonlgjdopaaGreat.Sl
open Go.RowKit
set_option linter.unusedVariables false
abbrev AI:=List UInt8
abbrev AT:=Option Addr
abbrev A0 (n:Int):Prop:=-9223372036854775808<=n/\n<=9223372036854775807
abbrev jI (n : Int) : Value := .int .i64 n
abbrev jP (n : Nat) : Value := .pointer (some ⟨n, 0, none⟩)
theorem jF {α : Sort _} {P : Prop} [Decidable P] {a b c : α} (h : (if P then a else b) = c) : (P /\ a = c) \/ (¬P /\ b = c) := by by_cases p : P; exact .inl ⟨p, (if_pos p).symm.trans h⟩; exact .inr ⟨p, (if_neg p).symm.trans h⟩
theorem QR {p : Prop} (h : p := by omega) : p := h
theorem QS {p : Prop} (h : p := by decide) : p := h
theorem QU {p : Prop} (h : p := by kernel_rfl) : p := h
theorem QW {p : Prop} (h : p := by rfl) : p := h
theorem Z {α : Sort _} {a : α} : a = a := rfl
def Nl := @Option.some.inj
theorem Nq {α : Type} {l : List α} {i : Nat} {a : α} (h : l[i]? = some a) : ∃ w : i < l.length, l[i] = a := List.getElem?_eq_some_iff.1 h
def Nr := @List.length_append
def Nx := @List.length_drop
def Ny := @List.append_assoc
def NB := @List.length_cons
def NG := @List.nil_append
def NH := @Nat.zero_le
def NL := @List.length_take
def NQ := @List.append_nil
def NR := @Int.toNat_natCast
def N3 := @Nat.le_refl
def Oa := @List.drop_drop
def Ov := @List.length_nil
def Qr := @Tryz.ntmps144
def Qz := @Tryz.func144
def QX := @if_pos
def QY := @if_neg
structure Fr (F:Nat->Prop) (w w':World):Prop where
 os:w'.os=w.os
 tape:w'.tape=w.tape
 output:w'.output=w.output
 size:w.heap.size<=w'.heap.size
 block: ∀ k,k<w.heap.size-> ¬ F k->w'.heap[k]? = w.heap[k]?
theorem Fr.refl (F:Nat->Prop) (w:World):Fr F w w:=⟨rfl,rfl,rfl,N3 _,fun _ _ _=>rfl⟩
theorem Fr.trans {F G:Nat->Prop} {a b c:World} (h:Fr F a b) (k:Fr G b c) (hg: ∀ k,G k->F k\/a.heap.size<=k):Fr F a c :=
 ⟨k.os.trans h.os,k.tape.trans h.tape,k.output.trans h.output,Nat.le_trans h.size k.size,fun i hi hn =>
  (k.block i (Nat.lt_of_lt_of_le hi h.size) (fun d=>(hg i d).elim hn (fun e=>by omega))).trans (h.block i hi hn)⟩
theorem Mc {F:Nat->Prop} {w w':World} (h:Below w.heap.size w w'):Fr F w w':=⟨h.os,h.tape,h.output,h.size,fun k hk _=>h.block k hk⟩
theorem Fr.below {w w':World} (h:Fr (fun _=>False) w w'):Below w.heap.size w w':=⟨h.os,h.tape,h.output,h.size,fun k hk=>h.block k hk (fun h=>h)⟩
theorem Mi {F:Nat->Prop} {w w':World} {row:Option Nat} (h:w.grownBy w' row) (hr: ∀ k,row=some k->F k):Fr F w w' :=
 ⟨h.os,h.tape,h.output,h.size,fun k hk hn=>h.block k hk (fun e=>hn (hr k e.symm))⟩
theorem Fr.mono {F G:Nat->Prop} {w w':World} (h:Fr F w w') (hg: ∀ k,F k->G k):Fr G w w':=⟨h.os,h.tape,h.output,h.size,fun k hk hn=>h.block k hk (fun a=>hn (hg k a))⟩
theorem Fr.alloc {F:Nat->Prop} {w w':World} (h:Fr F w w') (o:Obj):Fr F w (w'.alloc o) :=
 h.trans (Mc (F:=fun _=>False) ((Below.refl _ _).alloc (N3 _) o)) (fun _ h=>h.elim)
theorem Fr.drew {F:Nat->Prop} {w w':World} (h:Fr F w w'):Fr F w w'.drew:=⟨h.os,h.tape,h.output,h.size,h.block⟩
theorem Fr.drewN {F:Nat->Prop} {w w':World} (h:Fr F w w') (n:Nat):Fr F w (w'.drewN n):=⟨h.os,h.tape,h.output,h.size,h.block⟩
theorem Fr.set {F:Nat->Prop} {w w':World} (h:Fr F w w') {p:Addr} (hp:F p.block\/w.heap.size<=p.block) (u:Value):Fr F w (w'.setCell p u) :=
 h.trans (G:=fun k=>k=p.block) ⟨rfl,rfl,rfl,by simp[World.setCell],fun k _ hn=>Below.heap_setCell _ _ _ _ hn⟩ (fun k hk=>by rw[hk]; exact hp)
structure Res where
 P:World->(Nat->Prop)->Prop
 lt: ∀ {w:World} {G:Nat->Prop},P w G-> ∀ k,G k->k<w.heap.size
 move: ∀ {w w':World} {G:Nat->Prop},P w G->(∀ k,G k->w'.heap[k]? = w.heap[k]?)->P w' G
def Sep:List Res->World->(Nat->Prop)->Prop
 | [],_,_=>True
 | R::Rs,w,F=> ∃ G,R.P w G/\(∀ k,G k->F k)/\Sep Rs w (fun k=>F k/\ ¬ G k)
theorem Sep.mono: ∀ {Rs:List Res} {w:World} {F F':Nat->Prop},Sep Rs w F->(∀ k,F k->F' k)->Sep Rs w F'
 | [],_,_,_,_,_=>trivial
 | _ :: _,_,_,_,⟨G,a,b,c⟩,hf=>⟨G,a,fun k hk=>hf k (b k hk),c.mono (fun k hk=>⟨hf k hk.1,hk.2⟩)⟩
theorem Sep.inside: ∀ {Rs:List Res} {w:World} {F:Nat->Prop},Sep Rs w F->Sep Rs w (fun k=>F k/\k<w.heap.size)
 | [],_,_,_=>trivial
 | R :: _,_,_,⟨G,a,b,c⟩=>⟨G,a,fun k hk=>⟨b k hk,R.lt a k hk⟩,c.inside.mono (fun k hk=>⟨⟨hk.1.1,hk.2⟩,hk.1.2⟩)⟩
theorem Sep.move_: ∀ {Rs:List Res} {w w':World} {F:Nat->Prop},Sep Rs w F->(∀ k,F k->w'.heap[k]? = w.heap[k]?)->Sep Rs w' F
 | [],_,_,_,_,_=>trivial
 | R :: _,_,_,_,⟨G,b,a,c⟩,hm=>⟨G,R.move b (fun k hk=>hm k (a k hk)),a,c.move_ (fun k hk=>hm k hk.1)⟩
theorem Sep.move {Rs:List Res} {w w':World} {F:Nat->Prop} (h:Sep Rs w F) (hm: ∀ k,F k->k<w.heap.size->w'.heap[k]? = w.heap[k]?):Sep Rs w' F :=
 (h.inside.move_ (fun k hk=>hm k hk.1 hk.2)).mono (fun _ hk=>hk.1)
theorem Sep.pick: ∀ {Rs:List Res} (i:Nat) {A:Res} {w:World} {F:Nat->Prop},Rs[i]? = some A->Sep Rs w F-> ∃ G,A.P w G/\(∀ k,G k->F k)/\Sep (Rs.eraseIdx i) w (fun k=>F k/\ ¬ G k)
 | [],i,_,_,_,hi,_=>by simp at hi
 | R::Rs,0,A,w,F,hi,h=>by
  have e:R=A:=by simpa using hi
  subst e;exact h
 | R::Rs,i+1,A,w,F,hi,⟨G,b,c,d⟩=>by
  obtain⟨G',f,a,g⟩:=Sep.pick i (by simpa using hi) d;exact⟨G',f,fun k hk=>(a k hk).1,G,b,fun k hk=>⟨c k hk,fun h=>(a k h).2 hk⟩,g.mono (fun k hk=>⟨⟨hk.1.1,hk.2⟩,hk.1.2⟩)⟩
theorem Sep.back: ∀ {Rs:List Res} (i:Nat) {A A':Res} {w:World} {F G:Nat->Prop},Rs[i]? = some A->A'.P w G->(∀ k,G k->F k)->Sep (Rs.eraseIdx i) w (fun k=>F k/\ ¬ G k)->Sep (Rs.set i A') w F
 | [],i,_,_,_,_,_,hi,_,_,_=>by simp at hi
 | R::Rs,0,A,A',w,F,G,hi,a,b,d=>⟨G,a,b,d⟩
 | R::Rs,i+1,A,A',w,F,G,hi,a,b,⟨G',e,c,f⟩ =>
  ⟨G',e,fun k hk=>(c k hk).1,Sep.back i (by simpa using hi) a (fun k hk=>⟨b k hk,fun h=>(c k h).2 hk⟩) (f.mono (fun k hk=>⟨⟨hk.1.1,hk.2⟩,hk.1.2⟩))⟩
theorem Sep.append: ∀ {Ns Rs:List Res} {w:World} {F G:Nat->Prop},Sep Ns w G->Sep Rs w (fun k=>F k/\ ¬ G k)->(∀ k,G k->F k)->Sep (Ns++Rs) w F
 | [],_,_,_,_,_,h,_=>h.mono (fun _ hk=>hk.1)
 | N::Ns,Rs,w,F,G,⟨H,c,b,d⟩,h,hg =>
  ⟨H,c,fun k hk=>hg k (b k hk),Sep.append d (h.mono (fun k hk=>⟨⟨hk.1,fun a=>hk.2 (b k a)⟩,fun a=>hk.2 a.1⟩)) (fun k hk=>⟨hg k hk.1,hk.2⟩)⟩
theorem Sep.one {R:Res} {w:World} {F:Nat->Prop} (h:R.P w F):Sep [R] w F:=⟨F,h,fun _ h=>h,trivial⟩
structure St (F0:Nat->Prop) (w0:World) (Rs:List Res) (w:World):Prop where
 fr:Fr F0 w0 w
 sep:Sep Rs w (fun k=>F0 k\/w0.heap.size<=k)
section
variable {F0:Nat->Prop} {w0 w w':World} {Rs:List Res} {A A':Res}
theorem Lw (F0:Nat->Prop) (w:World) (h:Sep Rs w F0):St F0 w Rs w:=⟨Fr.refl _ _,h.mono (fun _ hk=> .inl hk)⟩
theorem L4 (w:World):St (fun _=>False) w [] w:=⟨Fr.refl _ _,trivial⟩
theorem St.drew (h:St F0 w0 Rs w):St F0 w0 Rs w.drew:=⟨h.fr.drew,h.sep.move (fun _ _ _=>rfl)⟩
theorem St.drewN (h:St F0 w0 Rs w) (n:Nat):St F0 w0 Rs (w.drewN n):=⟨h.fr.drewN n,h.sep.move (fun _ _ _=>rfl)⟩
theorem St.drop_ (h:St F0 w0 (A::Rs) w):St F0 w0 Rs w:=by
 obtain⟨f,G,_,_,a⟩:=h;exact⟨f,a.mono (fun _ hk=>hk.1)⟩
theorem St.del (i:Nat) (h:St F0 w0 Rs w) (hi:Rs[i]? = some A):St F0 w0 (Rs.eraseIdx i) w:=by
 obtain⟨f,hs⟩:=h;obtain⟨G,_,_,a⟩:=Sep.pick i hi hs;exact⟨f,a.mono (fun _ hk=>hk.1)⟩
theorem St.weaken (i:Nat) (h:St F0 w0 Rs w) (hi:Rs[i]? = some A) (hA: ∀ G,A.P w G->A'.P w G):St F0 w0 (Rs.set i A') w:=by
 obtain⟨f,hs⟩:=h;obtain⟨G,a,b,c⟩:=Sep.pick i hi hs;exact⟨f,Sep.back i hi (hA _ a) b c⟩
theorem St.get (i:Nat) (h:St F0 w0 Rs w) (hi:Rs[i]? = some A): ∃ G,A.P w G/\(∀ k,G k->F0 k\/w0.heap.size<=k):=by
 obtain⟨G,a,b,_⟩:=Sep.pick i hi h.sep;exact⟨G,a,b⟩
theorem St.step (i:Nat) (h:St F0 w0 Rs w) (hi:Rs[i]? = some A) {Ns:List Res}
 (hs: ∀ G,A.P w G->Fr G w w'/\Sep (A'::Ns) w' (fun k=>G k\/w.heap.size<=k)):St F0 w0 (Ns++Rs.set i A') w':=by
 obtain⟨f,hp⟩:=h;obtain⟨G,g,b,j⟩:=Sep.pick i hi hp;obtain⟨c,n,l,d,m⟩:=hs G g;refine⟨f.trans c b,?_⟩;have hle:=f.size;have hR:Sep (Rs.eraseIdx i) w' (fun k=>((F0 k\/w0.heap.size<=k)/\ ¬ G k)/\k<w.heap.size):=j.inside.move (fun k hk _=>c.block k hk.2 hk.1.2);refine Sep.append m (F:=fun k=>F0 k\/w0.heap.size<=k) (Sep.back i hi l (fun k hk=>⟨?_,fun hn=>hn.2 hk⟩) (hR.mono (fun k hk=>⟨⟨hk.1.1,?_⟩,?_⟩))) ?_
 ·rcases d k hk with a | a
  ·exact b k a
  ·exact .inr QR
 ·rintro⟨a | a,_⟩
  ·exact hk.1.2 a
  ·have:=hk.2; omega
 ·intro a;rcases d k a with e | e
  ·exact hk.1.2 e
  ·have:=hk.2; omega
 ·rintro k ⟨a | a,_⟩
  ·exact b k a
  ·exact .inr QR
theorem St.grow (h:St F0 w0 Rs w) {Ns:List Res} (a:Fr (fun _=>False) w w') (b:Sep Ns w' (fun k=>w.heap.size<=k)):St F0 w0 (Ns++Rs) w':=by
 obtain⟨f,hp⟩:=h;have hle:=f.size;refine⟨f.trans a (fun _ h=>h.elim),Sep.append b ((hp.inside.move (fun k hk _=>a.block k hk.2 (fun h=>h))).mono (fun k hk=>⟨hk.1,by have:=hk.2; omega⟩)) (fun k hk=> .inr QR)⟩
theorem St.below (h:St (fun _=>False) w0 Rs w):Below w0.heap.size w0 w:=h.fr.below
end
def aV (b:Nat) (T:TypeId) (cs:Array Value):Res where
 P:=fun w G=>w.heap[b]? = some (.cells cs T (0,0))/\ ∀ k,G k↔k=b
 lt:=fun h k hk=>by
  rw[(h.2 k).1 hk];exact (Array.getElem?_eq_some_iff.1 h.1).1
 move:=fun h hm=>⟨(hm _ ((h.2 _).2 rfl)).trans h.1,h.2⟩
section
variable {F0:Nat->Prop} {w0 w w':World} {Rs:List Res} {b:Nat} {T:TypeId} {cs:Array Value}
theorem bm (h:w.heap[b]? = some (.cells cs T (0,0))) (i:Nat):w.cell? ⟨b,i,none⟩=cs[i]? := cell_of_row w b i cs T (0,0) h
theorem cg (h:w.heap[b]? = some (.cells cs T (0,0))) (i:Nat):w.frozen? ⟨b,i,none⟩=false:=by simp[World.frozen?,h]
theorem ow (h:w.heap[b]? = some (.cells cs T (0,0))) (i:Nat) (u:Value):(w.setCell ⟨b,i,none⟩ u).heap[b]? = some (.cells (cs.setIfInBounds i u) T (0,0)):=by
 simp[World.setCell,Array.getElem?_modify,h]
theorem lO {o:Obj} (h:w.heap[b]? = some o):b<w.heap.size:=(Array.getElem?_eq_some_iff.1 h).1
theorem St.blk (i:Nat) (h:St F0 w0 Rs w) (hi:Rs[i]? = some (aV b T cs)):w.heap[b]? = some (.cells cs T (0,0)):=by
 obtain⟨G,a,_⟩:=h.get i hi;exact a.1
theorem St.alloc (h:St F0 w0 Rs w) (cs:Array Value) (T:TypeId):St F0 w0 (aV w.heap.size T cs::Rs) (w.alloc (.cells cs T)) :=
 h.grow (Ns := [aV w.heap.size T cs]) (Mc ((Below.refl _ _).alloc (N3 _) _)) ⟨fun k=>k=w.heap.size,⟨heap_alloc_new w _,fun _=>Iff.rfl⟩,fun k hk=>by omega,trivial⟩
theorem St.set (i:Nat) (h:St F0 w0 Rs w) (hi:Rs[i]? = some (aV b T cs)) (j:Nat) (u:Value):St F0 w0 (Rs.set i (aV b T (cs.setIfInBounds j u))) (w.setCell ⟨b,j,none⟩ u):=by
 refine h.step i hi (Ns := []) (fun G hG=>⟨?_,G,⟨ow hG.1 j u,hG.2⟩,fun k hk=> .inl hk,trivial⟩);exact (Fr.refl G w).set (p:=⟨b,j,none⟩) (.inl ((hG.2 b).2 rfl)) u
end
def sa (Q:Value->Res->List Res->Prop) (F:Nat->Prop) (w:World) (e:Ending) (w':World):Prop:= ∃ v A' Ns,e= .returned v/\Q v A' Ns/\St F w (A'::Ns) w'
def Post0 (Q:Value->List Res->Prop) (w:World) (e:Ending) (w':World):Prop:= ∃ v Ns,e= .returned v/\Q v Ns/\St (fun _=>False) w Ns w'
def hN (P:Program) (f:FuncId) (args:Array Value) (A:Res) (Q:Value->Res->List Res->Prop):Prop :=
 ∀ F w,A.P w F->Calls P f args w (sa Q F w)
def mv (P:Program) (f:FuncId) (args:Array Value) (Q:Value->List Res->Prop):Prop :=
 ∀ w,Calls P f args w (Post0 Q w)
section
variable {P:Program} {f:FuncId} {args:Array Value} {F0:Nat->Prop} {w0 w:World} {Rs:List Res} {A:Res}
theorem St.call {Q:Value->Res->List Res->Prop} (i:Nat) (h:St F0 w0 Rs w) (hi:Rs[i]? = some A) (hs:hN P f args A Q) :
 Calls P f args w fun e w'=> ∃ v A' Ns,e= .returned v/\Q v A' Ns/\St F0 w0 (Ns++Rs.set i A') w':=by
 obtain⟨o,hG0,hsub⟩:=h.get i hi;obtain⟨G,j,b,l⟩:=Sep.pick i hi h.sep;refine (hs G w j).mono ?_;rintro e w' ⟨v,A',Ns,rfl,hq,hst⟩;refine⟨v,A',Ns,rfl,hq,?_⟩;obtain⟨c,p,m,d,n⟩:=hst;have f:=h.fr;refine⟨f.trans c b,?_⟩;have hle:=f.size;have hR:Sep (Rs.eraseIdx i) w' (fun k=>((F0 k\/w0.heap.size<=k)/\ ¬ G k)/\k<w.heap.size):=l.inside.move (fun k hk _=>c.block k hk.2 hk.1.2);refine Sep.append n (F:=fun k=>F0 k\/w0.heap.size<=k) (Sep.back i hi m (fun k hk=>⟨?_,fun hn=>hn.2 hk⟩) (hR.mono (fun k hk=>⟨⟨hk.1.1,?_⟩,?_⟩))) ?_
 ·rcases d k hk with a | a
  ·exact b k a
  ·exact .inr QR
 ·rintro⟨a | a,_⟩
  ·exact hk.1.2 a
  ·have:=hk.2; omega
 ·intro a;rcases d k a with g | g
  ·exact hk.1.2 g
  ·have:=hk.2; omega
 ·rintro k ⟨a | a,_⟩
  ·exact b k a
  ·exact .inr QR
theorem L2 {Q:Value->List Res->Prop} (h:St F0 w0 Rs w) (hs:mv P f args Q) :
 Calls P f args w fun e w'=> ∃ v Ns,e= .returned v/\Q v Ns/\St F0 w0 (Ns++Rs) w':=by
 refine (hs w).mono ?_;rintro e w' ⟨v,Ns,rfl,hq,hst⟩;refine⟨v,Ns,rfl,hq,h.grow hst.fr (hst.sep.mono (fun k hk=>hk.elim (fun h=>h.elim) id))⟩
end
def bU (l:AI):List Value:=l.map fun b=>Value.int .u8 b.toNat
theorem ls (l m:AI):bU (l++m)=bU l++bU m:=by simp[bU]
theorem rO (s:ByteArray):Lib.strCells s=bU s.data.toList:=rfl
section
variable {P:Program} (w:World)
theorem yy (t u ty e:TypeId) (i:TypeInfo) (ht:P.underlying t=some (.slice e)) (hu:P.underlying u=some .string) (hi:P.info? e=some i) (hz:i.zero=some (.int .u8 0))
 (hsize:i.size=1) (hby:i.bytes=1)
 (v:Value) (n:Nat) (xs:List Value) (hown:w.ownsRow 0 e 1 v n xs) (s:ByteArray) (hbytes:n+s.size<=140737488355328) :
 ∃ v' w',(Builtin.append_ #[t,u] ty #[v,.string s]).run P w= .ok v' w'/\w'.ownsRow 0 e 1 v' (n+s.size) (xs++Lib.strCells s)/\w.grownBy w' v.ownBlock /\
  (v'.ownBlock=v.ownBlock\/v'.ownBlock=some w.heap.size):=by
 obtain⟨v',w',hr,a,b,c⟩:=Lib.run_append_own_string (P:=P) w 0 t u ty e i ht hu hi hz hsize hby v n xs hown s (by simp only[maxLen]; omega) hbytes (NH _);refine⟨v',w',hr,a,b,?_⟩;rcases hown.2 with⟨rfl,rfl⟩ | ⟨g,cap,cur,rfl,hbg,hg,hnc,hcm,hcs,htake⟩
 ·by_cases hm:s.size=0
  ·left;rw[c.2 ⟨rfl,hm⟩]
  ·right;have hr2:=run_append_nil_string (P:=P) w t u ty e i (.int .u8 0) ht hu hi hz s QR QR (by rw[hby]; omega);rw[hr] at hr2;injection hr2 with hv _;rw[hv];rfl
 ·by_cases hroom:n+s.size<=cap
  ·left;have hcs':cur.size=cap:=by simpa using hcs
   have hr2:=Lib.run_append_room_string (P:=P) w t u ty e i ht hu hi hsize g n cap cur hg s hroom QR;rw[hr] at hr2;injection hr2 with hv _;rw[hv];rfl
  ·right;have hxl:xs.length=n:=by simpa using hown.1
   have holds: ∀ j u,xs[j]? = some u->w.cell? ((⟨g,0,none⟩:Addr).add j)=some u:=hown.cells (g:=g) rfl;have hr2:=Lib.run_append_grow_string (P:=P) w t u ty e i (.int .u8 0) ht hu hi hz ⟨g,0,none⟩ n cap xs (by rw[hsize]; simpa using hxl) holds s QR QR (by rw[hby]; exact growslice_fits QR QR);rw[hr] at hr2;injection hr2 with hv _;rw[hv];rfl
theorem oz {ops:Array Oper} {rest:List Oper} {o:Oper} {a:Act} {Q:Exit->Act->World->Prop} (hgd:o.guard=none) (sl x:Operand) (t u:TypeId)
 (ho:o.op= .call { callee:= .builtin .append,args:= #[sl,x],argTypes:= #[t,u] })
 (e:TypeId) (ht:P.underlying t=some (.slice e)) (hu:P.underlying u=some .string) (hinfo:(P.info? e).map (fun i=>(i.zero,i.size,i.bytes))=some (some (.int .u8 0),1,1))
 (v:Value) (n:Nat) (xs:List Value) (hs:a.eval sl=v) (hown:w.ownsRow 0 e 1 v n xs) (s:ByteArray) (hx:a.eval x= .string s) (hbytes:n+s.size<=140737488355328)
 (h: ∀ v' w',w'.ownsRow 0 e 1 v' (n+s.size) (xs++Lib.strCells s)->w.grownBy w' v.ownBlock->(v'.ownBlock=v.ownBlock\/v'.ownBlock=some w.heap.size)->wpList P ops Q rest (a.put o.dst v') w'):wpList P ops Q (o::rest) a w:=by
 obtain⟨i,hi,hzz⟩:=Option.map_eq_some_iff.1 hinfo;simp only[Prod.mk.injEq] at hzz;refine wpList_plain hgd fun K hK=> ?_;obtain⟨v',w',hr,b,c,d⟩:=yy (P:=P) w t u o.type e i ht hu hi hzz.1 hzz.2.1 hzz.2.2 v n xs hown s hbytes;unfold Oper.wp execOp;simp only[ho,resolve,invoke,builtin,Sem.run_bind,Sem.run_pure,Result.andThen_ok,List.map_toArray,List.map_cons,List.map_nil,hs,hx,hr];exact hK _ _ (h v' w' b c d)
theorem tN {ops:Array Oper} {rest:List Oper} {o:Oper} {a:Act} {Q:Exit->Act->World->Prop} (hgd:o.guard=none) (sl x:Operand) (t:TypeId)
 (ho:o.op= .call { callee:= .builtin .append,args:= #[sl,x],argTypes:= #[t,t] })
 (e:TypeId) (z:Value) (bytes:Nat) (ht:P.underlying t=some (.slice e)) (hinfo:(P.info? e).map (fun i=>(i.zero,i.size,i.bytes))=some (some z,1,bytes)) (hz:z.cells.size=1)
 (v:Value) (n:Nat) (xs:List Value) (hs:a.eval sl=v) (hown:w.ownsRow 0 e 1 v n xs) (y:Value) (hy:y.oneCell'=true) (hx:a.eval x= .slice (some ⟨w.heap.size,0,none⟩) 1 1)
 (hbytes:(n+1)*bytes<=140737488355328) (hmax:n+1<=140737488355328)
 (h: ∀ v' w',w'.ownsRow 0 e 1 v' (n+1) (xs ++ [y])->w.grownBy w' v.ownBlock->(v'.ownBlock=v.ownBlock\/ ∃ k,v'.ownBlock=some k/\w.heap.size<=k)->wpList P ops Q rest (a.put o.dst v') w') :
 wpList P ops Q (o::rest) a (w.alloc (.cells #[y] e)):=by
 obtain⟨i,hi,hzz⟩:=Option.map_eq_some_iff.1 hinfo;simp only[Prod.mk.injEq] at hzz;obtain⟨b,c,d⟩:=hzz;refine wpList_append_own_at (w.alloc (.cells #[y] e)) hgd sl x t ho 0 e i z 1 bytes ht hi b c d hz QR v n xs hs (hown.alloc _) ⟨w.heap.size,0,none⟩ 1 1 [y] hx rfl
  (by simpa using World.news_of_block (cs:= #[y]) (t:=e) (fr:=(0,0)) (heap_alloc_new w (.cells #[y] e))) (by simpa using hy) (by simp only[maxLen]; omega) hbytes (NH _) ?_
 intro v' w' hown' hg _ hat;refine h v' w' hown' (World.grownBy.trans (World.grownBy_alloc w _ _) hg) ?_;rcases hat with hat | hat
 ·exact .inl hat
 ·exact .inr ⟨_,hat,by simp⟩
theorem wC (w:World) {src dst e:TypeId} {v:Value} {l:AI} {n:Nat} (hs:P.underlying src=some (.slice e)) (he:P.underlying e=some (.int .u8)) (hd:P.underlying dst=some .string)
 (h:w.ownsRow 0 e 1 v n (bU l)):(convert src dst v).run P w= .ok (.string ⟨l.toArray⟩) w:=by
 have hl:l.length=n:=by have:=h.1; simp[bU] at this; exact this
 have hstr:strOfNums (l.map fun b=>(b.toNat:Int))=⟨l.toArray⟩:=by
  unfold strOfNums;congr 1;simp[List.map_map,Function.comp_def]
 rcases h.2 with⟨rfl,rfl⟩ | ⟨g,cap,cur,rfl,_⟩
 ·obtain rfl:l = []:=List.eq_nil_of_length_eq_zero hl;exact run_convert_bytes_nil w src e hs he 0 0 dst hd
 ·rw[<- hstr];refine run_convert_bytes_arg w src e hs he g 0 n cap _ (by simpa using hl) (fun i hi=> ?_) dst hd;have hc:=h.cells (g:=g) rfl i (.int .u8 ((l.map fun b=>(b.toNat:Int)).getD i 0)) (by simp[bU,List.getElem?_eq_getElem (show i<l.length by omega),List.getD_eq_getElem?_getD]);have ha:(⟨g,0,none⟩:Addr).add i=⟨g,0+i,none⟩:=by unfold Addr.add; split <;> simp_all
  rwa [ha] at hc
theorem pk {w:World} {e t:TypeId} {size n b:Nat} {v:Value} {xs:List Value} {cs:Array Value} (h:w.ownsRow 0 e size v n xs) (hg:w.heap[b]? = some (.cells cs t (0,0))) (hne:e≠t):some b≠v.ownBlock:=by
 rcases h.2 with⟨rfl,_⟩ | ⟨g',cap,cur,rfl,_,hh,_⟩
 ·simp[Value.ownBlock]
 ·intro he;have:b=g':=by simpa [Value.ownBlock] using he
  subst this;rw[hg] at hh;injection hh with hh;injection hh with _ ht;exact hne ht.symm
theorem Ab {w:World} {e:TypeId} {size n:Nat} {v:Value} {xs:List Value} (h:w.ownsRow 0 e size v n xs) {p:Addr} (hne:some p.block≠v.ownBlock) (u:Value):(w.setCell p u).ownsRow 0 e size v n xs:=by
 obtain⟨b,a⟩:=h;refine⟨b,?_⟩;rcases a with a | ⟨g,cap,cur,rfl,hg,hh,r⟩
 ·exact .inl a
 ·exact .inr ⟨g,cap,cur,rfl,hg,by rw[Below.heap_setCell _ _ _ _ (fun e=>hne (by rw[e]; rfl))]; exact hh,r⟩
theorem sN {w w':World} {e:TypeId} {size n:Nat} {v:Value} {xs:List Value} (h:w.ownsRow 0 e size v n xs) (hm: ∀ k,v.ownBlock=some k->w'.heap[k]? = w.heap[k]?):w'.ownsRow 0 e size v n xs:=by
 obtain⟨b,a⟩:=h;refine⟨b,?_⟩;rcases a with a | ⟨g,cap,cur,rfl,hg,hh,r⟩
 ·exact .inl a
 ·exact .inr ⟨g,cap,cur,rfl,hg,(hm g rfl).trans hh,r⟩
theorem oA {w:World} {e:TypeId} {size n:Nat} {v:Value} {xs:List Value} (h:w.ownsRow 0 e size v n xs): ∃ a c,v= .slice a n c:=by
 rcases h.2 with⟨rfl,rfl⟩ | ⟨g,cap,cur,rfl,_⟩
 ·exact⟨none,0,rfl⟩
 ·exact⟨_,cap,rfl⟩
theorem Ac {w:World} {e:TypeId} {size n:Nat} {v:Value} {xs:List Value} (h:w.ownsRow 0 e size v n xs): ∀ k,v.ownBlock=some k->k<w.heap.size:=fun k hk=>(h.lt k hk).2
end
section
variable {P:Program}
theorem tO {ops:Array Oper} {rest:List Oper} {o:Oper} {a:Act} {w:World} {Q:Exit->Act->World->Prop} (hgd:o.guard=none) (ty:TypeId) (x y:Operand) (ho:o.op= .store ty x y)
 (t:TypeId) (c c':Array Value) (hx:a.eval x= .pointer (some ⟨w.heap.size,0,none⟩)) (hy:a.eval y= .agg c')
 (hi:(P.info? ty).map (·.size)=some c'.size) (hs:c.size=c'.size) (b:c'.all (·.oneCell')=true)
 (h:wpList P ops Q rest (a.put o.dst undef) (w.alloc (.cells c' t))):wpList P ops Q (o::rest) a (w.alloc (.cells c t)):=by
 refine wpList_plain hgd fun K hK=> ?_;have hr:(Instr.storeAt ty (.pointer (some ⟨w.heap.size,0,none⟩)) (.agg c')).run P (w.alloc (.cells c t))= .ok () (w.alloc (.cells c' t)):=by
  simp only[Instr.storeAt,Instr.sureAddr,Sem.run_bind,Sem.run_pure,Result.andThen];rw[run_storeVar_row _ _ t ty c c' (heap_alloc_last w _) hi hs b,World.setRow_alloc_new]
 unfold Oper.wp execOp;simp only[ho,hx,hy,hr,Sem.run_bind,Sem.run_pure,Result.andThen_ok];exact hK _ _ h
end
section
variable {F0:Nat->Prop} {w0 w w1:World} {Rs:List Res} {T:TypeId} {size n:Nat} {v v1:Value} {xs ys:List Value}
end
open Go.RowKit Go.Deep Go.ChangeShapes
structure Rd (α:Type) where
 P:World->(Nat->Prop)->List Value->α->Prop
 mono: ∀ {w:World} {S S':Nat->Prop} {cs:List Value} {a:α},P w S cs a->(∀ k,S k->S' k)->P w S' cs a
 move: ∀ {w w':World} {S:Nat->Prop} {cs:List Value} {a:α},P w S cs a->(∀ k,S k->w'.heap[k]? = w.heap[k]?)->P w' S cs a
def rowAt {α:Type} (size:Nat) (E:Rd α) (w:World) (S:Nat->Prop) (a:Addr) (l:List α):Prop :=
 ∀ i x,l[i]? = some x-> ∃ cs,cs.length=size/\(∀ j,j<size->w.cell? (a.add (i*size+j))=cs[j]?)/\E.P w S cs x
def ar {α:Type} (size:Nat) (E:Rd α):Rd (List α) where
 P:=fun w S cs l=>(cs = [.slice none 0 0]/\l = [])\/ ∃ a cap,cs = [.slice (some a) l.length cap]/\l.length<=cap/\cap<=maxLen/\(0<l.length->S a.block)/\rowAt size E w S a l
 mono:=by
  rintro w S S' cs l (h | ⟨a,cap,c,d,e,b,f⟩) hS
  ·exact .inl h
  ·refine .inr ⟨a,cap,c,d,e,fun h=>hS _ (b h),fun i x hx=> ?_⟩;obtain⟨cs,g,k,m⟩:=f i x hx;exact⟨cs,g,k,E.mono m hS⟩
 move:=by
  rintro w w' S cs l (h | ⟨a,cap,c,d,e,b,f⟩) hS
  ·exact .inl h
  ·refine .inr ⟨a,cap,c,d,e,b,fun i x hx=> ?_⟩;obtain⟨cs,g,k,m⟩:=f i x hx;refine⟨cs,g,fun j hj=> ?_,E.move m hS⟩;rw[<- k j hj];have hb:(a.add (i*size+j)).block=a.block:=block_add _ _;have hl:0<l.length:=by have:=(Nq hx).1; omega
   simp only[World.cell?,hb,hS _ (b hl)]
theorem tP {w:World} {b:Addr} {v:Value} (h:w.cell? b=some v):b=⟨b.block,b.off,none⟩:=by
 obtain⟨g,o,s⟩:=b
 cases s with
 | none=>rfl
 | some s =>
  simp only[World.cell?] at h;split at h <;> simp at h
section
variable {H:Type} (enc:TypeId×Value->H) (P:Program)
variable {enc P}
variable (enc P) in
end
structure RX where
 P:World->(Nat->Prop)->Prop
 mono: ∀ {w:World} {S S':Nat->Prop},P w S->(∀ k,S k->S' k)->P w S'
 move: ∀ {w w':World} {S:Nat->Prop},P w S->(∀ k,S k->w'.heap[k]? = w.heap[k]?)->P w' S
def RX.triv:RX:=⟨fun _ _=>True,fun _ _=>trivial,fun _ _=>trivial⟩
def RX.and (X Y:RX):RX:=⟨fun w S=>X.P w S/\Y.P w S,fun h k=>⟨X.mono h.1 k,Y.mono h.2 k⟩,fun h k=>⟨X.move h.1 k,Y.move h.2 k⟩⟩
def RX.of {α:Type} (E:Rd α) (cs:List Value) (a:α):RX:=⟨fun w S=>E.P w S cs a,fun h k=>E.mono h k,fun h k=>E.move h k⟩
def RX.reads (X:RX) (w:World) (F:Nat->Prop):Prop:= ∃ S,X.P w S/\ ∀ k,S k-> ¬ F k/\k<w.heap.size
theorem RX.reads_triv (w:World) (F:Nat->Prop):RX.triv.reads w F:=⟨fun _=>False,trivial,fun _ h=>h.elim⟩
theorem Lb {X Y:RX} {w:World} {F:Nat->Prop} (h:X.reads w F) (k:Y.reads w F):(X.and Y).reads w F:=by
 obtain⟨S,a,b⟩:=h;obtain⟨T,c,d⟩:=k;exact⟨fun k=>S k\/T k,⟨X.mono a (fun _ h=> .inl h),Y.mono c (fun _ h=> .inr h)⟩,fun k hk=>hk.elim (b k) (d k)⟩
theorem Ls {X Y:RX} {w:World} {F:Nat->Prop} (h:(X.and Y).reads w F):X.reads w F:=let ⟨S,a,b⟩:=h; ⟨S,a.1,b⟩
theorem La {X Y:RX} {w:World} {F:Nat->Prop} (h:(X.and Y).reads w F):Y.reads w F:=let ⟨S,a,b⟩:=h; ⟨S,a.2,b⟩
theorem RX.reads_weaken {X:RX} {w:World} {F G:Nat->Prop} (h:X.reads w F) (hg: ∀ k,k<w.heap.size->G k->F k):X.reads w G:=let ⟨S,b,a⟩:=h; ⟨S,b,fun k hk=>⟨fun g=>(a k hk).1 (hg k (a k hk).2 g),(a k hk).2⟩⟩
def aJ:Res where
 P:=fun _ G=> ∀ k,¬ G k
 lt:=fun h k hk=>(h k hk).elim
 move:=fun h _=>h
def RdR {α:Type} (E:Rd α) (cs:List Value) (a:α):Res where
 P:=fun w G=>E.P w G cs a/\ ∀ k,G k->k<w.heap.size
 lt:=fun h k hk=>h.2 k hk
 move:=fun {w w'} {G} h hm=>⟨E.move h.1 hm,fun k hk=>by
  have c:=h.2 k hk;have b:=hm k hk;rw[Array.getElem?_eq_getElem c] at b;exact (Array.getElem?_eq_some_iff.1 b).1⟩
def aC (P:Program) (f:FuncId) (args:Array Value) (X:RX) (A:Res) (Q:Value->Res->List Res->Prop):Prop :=
 ∀ F w,A.P w F->X.reads w F->Calls P f args w (sa Q F w)
section
variable {P:Program} {f:FuncId} {args:Array Value} {F0:Nat->Prop} {w0 w:World} {Rs:List Res} {A B:Res} {X Y:RX}
theorem Li {Q:Value->Res->List Res->Prop} (h:hN P f args A Q):aC P f args X A Q:=fun F w hA _=>h F w hA
theorem Mt {Q:Value->List Res->Prop} (h:mv P f args Q):aC P f args X aJ (fun v A' N=>A'=aJ/\Q v N):=by
 intro F w hA _;refine (h w).mono ?_;rintro e w' ⟨v,Ns,rfl,hq,hst⟩;refine⟨v,aJ,Ns,rfl,⟨rfl,hq⟩,⟨hst.fr.mono (fun k h=>h.elim),fun _=>False,fun k h=>h,fun k h=>h.elim,hst.sep.mono (fun k hk=> ?_)⟩⟩;exact⟨hk.elim (fun h=>h.elim) .inr,fun h=>h⟩
theorem LN {v:Value} (h:mv P f args (fun u N=>u=v/\N = [])):aC P f args X aJ (fun u A' N=>u=v/\A'=aJ/\N = []):=by
 intro F w hA hX;refine ((Mt (X:=X) h) F w hA hX).mono ?_;rintro e w' ⟨v,A',Ns,rfl,⟨rfl,rfl,rfl⟩,hst⟩;exact⟨_,_,_,rfl,⟨rfl,rfl,rfl⟩,hst⟩
theorem K6 {v:Value} (h: ∀ w,Calls P f args w fun e w'=>e= .returned v/\w=w'):aC P f args X aJ (fun v' A' N=>v'=v/\A'=aJ/\N = []):=by
 intro F w hA _;refine (h w).mono ?_;rintro e w' ⟨rfl,rfl⟩;exact⟨v,aJ,[],rfl,⟨rfl,rfl,rfl⟩,Fr.refl _ _,fun _=>False,fun k h=>h,fun k h=>h.elim,trivial⟩
def Src (F0:Nat->Prop) (w0:World) (Rs:List Res) (w:World) (i:Nat) (X:RX):Prop :=
 ∀ A G,Rs[i]? = some A->A.P w G->(∀ k,G k->F0 k\/w0.heap.size<=k)->Sep (Rs.eraseIdx i) w (fun k=>(F0 k\/w0.heap.size<=k)/\ ¬ G k)->X.reads w G
theorem Src.triv (i:Nat):Src F0 w0 Rs w i .triv:=fun _ _ _ _ _ _=>RX.reads_triv _ _
theorem Src.and {i:Nat} (h:Src F0 w0 Rs w i X) (k:Src F0 w0 Rs w i Y):Src F0 w0 Rs w i (X.and Y):=fun A G a b c d=>Lb (h A G a b c d) (k A G a b c d)
theorem Mu (h:St F0 w0 Rs w) (hX:X.reads w0 F0): ∃ S,X.P w S/\ ∀ k,S k-> ¬ F0 k/\k<w0.heap.size:=by
 obtain⟨S,b,a⟩:=hX;exact⟨S,X.move b (fun k hk=>h.fr.block k (a k hk).2 (a k hk).1),a⟩
theorem L5 {i:Nat} (h:St F0 w0 Rs w) (hX:X.reads w0 F0):Src F0 w0 Rs w i X:=by
 intro A G _ _ c _;obtain⟨S,d,a⟩:=Mu h hX;refine⟨S,d,fun k hk=>⟨fun hg=> ?_,Nat.lt_of_lt_of_le (a k hk).2 h.fr.size⟩⟩;rcases c k hg with b | b
 ·exact (a k hk).1 b
 ·have:=(a k hk).2; omega
theorem Src.res {i:Nat} (j:Nat) (hj:(Rs.eraseIdx i)[j]? = some B) (hB: ∀ w G,B.P w G->X.P w G):Src F0 w0 Rs w i X:=by
 intro A G _ _ _ c;obtain⟨a,b,d,_⟩:=Sep.pick j hj c;exact⟨a,hB w a b,fun k hk=>⟨(d k hk).2,B.lt b k hk⟩⟩
theorem K7 (h:St F0 w0 Rs w) (hX:X.reads w0 F0):X.reads w (fun _=>False):=by
 obtain⟨S,a,b⟩:=Mu h hX;exact⟨S,a,fun k hk=>⟨fun h=>h,Nat.lt_of_lt_of_le (b k hk).2 h.fr.size⟩⟩
theorem SrcE.res (j:Nat) (h:St F0 w0 Rs w) (hj:Rs[j]? = some B) (hB: ∀ w G,B.P w G->X.P w G):X.reads w (fun _=>False):=by
 obtain⟨G,a,_⟩:=h.get j hj;exact⟨G,hB w G a,fun k hk=>⟨fun h=>h,B.lt a k hk⟩⟩
theorem St.callX {Q:Value->Res->List Res->Prop} (i:Nat) (h:St F0 w0 Rs w) (hi:Rs[i]? = some A) (hs:aC P f args X A Q) (hr:Src F0 w0 Rs w i X) :
 Calls P f args w fun e w'=> ∃ v A' Ns,e= .returned v/\Q v A' Ns/\St F0 w0 (Ns++Rs.set i A') w':=by
 obtain⟨G,c,b,d⟩:=Sep.pick i hi h.sep;refine (hs G w c (hr A G hi c b d)).mono ?_;rintro e w' ⟨v,A',Ns,rfl,hq,hst⟩;refine⟨v,A',Ns,rfl,hq,?_⟩;obtain⟨g,o,m,j,n⟩:=hst;have f:=h.fr;refine⟨f.trans g b,?_⟩;have hle:=f.size;have hR:Sep (Rs.eraseIdx i) w' (fun k=>((F0 k\/w0.heap.size<=k)/\ ¬ G k)/\k<w.heap.size):=d.inside.move (fun k hk _=>g.block k hk.2 hk.1.2);refine Sep.append n (F:=fun k=>F0 k\/w0.heap.size<=k) (Sep.back i hi m (fun k hk=>⟨?_,fun hn=>hn.2 hk⟩) (hR.mono (fun k hk=>⟨⟨hk.1.1,?_⟩,?_⟩))) ?_
 ·rcases j k hk with a | a
  ·exact b k a
  ·exact .inr QR
 ·rintro⟨a | a,_⟩
  ·exact hk.1.2 a
  ·have:=hk.2; omega
 ·intro a;rcases j k a with l | l
  ·exact hk.1.2 l
  ·have:=hk.2; omega
 ·rintro k ⟨a | a,_⟩
  ·exact b k a
  ·exact .inr QR
theorem St.emp (h:St F0 w0 Rs w):St F0 w0 (aJ::Rs) w:=h.grow (Ns := [aJ]) (Fr.refl _ _) ⟨fun _=>False,fun _ h=>h,fun _ h=>h.elim,trivial⟩
theorem St.callE {Q:Value->Res->List Res->Prop} (h:St F0 w0 Rs w) (hs:aC P f args X aJ Q) (hr:X.reads w (fun _=>False)) :
 Calls P f args w fun e w'=> ∃ v A' Ns,e= .returned v/\Q v A' Ns/\St F0 w0 (Ns++Rs) w':=by
 have h':St F0 w0 (aJ::Rs) w:=h.emp;refine (h'.callX 0 rfl hs ?_).mono ?_
 ·intro A G hA hG _ _;have e:aJ=A:=by simpa using hA
  subst e;exact RX.reads_weaken hr (fun k _ hk=>(hG k hk).elim)
 ·rintro e w' ⟨v,A',Ns,rfl,hq,hst⟩;refine⟨v,A',Ns,rfl,hq,?_⟩;have:=hst.del Ns.length (A:=A') (by simp)
  rwa [List.eraseIdx_append_of_length_le (N3 _),Nat.sub_self] at this
theorem al {α:Type} {c:Prop} [Decidable c] {T:Option α} {r:α} (h:(if c then T else none)=some r):c/\T=some r:=by
 by_cases hc:c
 ·rw[QX hc] at h; exact⟨hc,h⟩
 ·rw[QY hc] at h; cases h
theorem aC.start (h:A.P w F0):St F0 w [A] w:=Lw F0 w (Sep.one h)
end
def resv (tmps:Array Value):ResultVar->Sem Value
 | .tmp t=>pure (tmps.getD t undef)
 | .cell a t=>do loadVar t (<- asAddr (tmps.getD a undef))
section
variable {P:Program} {fn:Func} {tmps:Array Value} {w:World} {r1 r2 r3:ResultVar} {v1 v2 v3:Value}
theorem pm (fn:Func) (tmps:Array Value):results fn tmps=(do let vs <- fn.results.mapM (resv tmps); pure (if h:vs.size=1 then vs[0] else .tuple vs)):=by
 unfold results;rfl
end
set_option linter.unusedSimpArgs false
def bz (b:Nat) (st:AI×Int):Res where
 P:=fun w G=> ∃ v,w.heap[b]? = some (.cells #[v,.int .i64 st.2] 112 (0,0))/\w.ownsRow 0 5 1 v st.1.length (bU st.1)/\ ∀ k,G k↔k=b\/v.ownBlock=some k
 lt:=by
  rintro w G ⟨v,c,d,a⟩ k hk;rcases (a k).1 hk with rfl | h
  ·exact lO c
  ·exact Ac d k h
 move:=by
  rintro w w' G ⟨v,c,d,a⟩ hm;exact⟨v,(hm _ ((a _).2 (.inl rfl))).trans c,sN d (fun k hk=>hm k ((a k).2 (.inr hk))),a⟩
theorem sO:(Tryz.prog.info? 5).map (fun i=>(i.zero,i.size,i.bytes))=some (some (.int .u8 0),1,1):=by kernel_rfl
theorem bz.stored {b:Nat} {l m:AI} {w w1:World} {v v1:Value} {F:Nat->Prop} (hb:w.heap[b]? = some (.cells #[v,.int .i64 0] 112 (0,0))) (ho:w.ownsRow 0 5 1 v l.length (bU l)) (hF: ∀ k,F k↔k=b\/v.ownBlock=some k)
 {n:Nat} (ho1:w1.ownsRow 0 5 1 v1 n (bU m)) (hg:w.grownBy w1 v.ownBlock) (hat:v1.ownBlock=v.ownBlock\/ ∃ k,v1.ownBlock=some k/\w.heap.size<=k) :
 St F w [bz b (m,0)] (w1.setCell ⟨b,0,none⟩ v1):=by
 have hn:n=m.length:=by have:=ho1.1; simpa [bU] using this.symm
 subst hn;have hne:=pk ho hb QS;have hb1:w1.heap[b]? = some (.cells #[v,.int .i64 0] 112 (0,0)):=(hg.block b (lO hb) hne).trans hb;have hne1:=pk ho1 hb1 QS;refine⟨((Fr.refl F w).trans (Mi (F:=F) hg (fun k hk=>(hF k).2 (.inr hk))) (fun k hk=> .inl hk)).set (p:=⟨b,0,none⟩) (.inl ((hF b).2 (.inl rfl))) v1,?_⟩;refine⟨fun k=>k=b\/v1.ownBlock=some k,⟨v1,by simpa using ow hb1 0 v1,Ab ho1 hne1 v1,fun _=>Iff.rfl⟩,?_,trivial⟩;rintro k (rfl | hk)
 ·exact .inl ((hF k).2 (.inl rfl))
 ·rcases hat with h | ⟨k',h,h'⟩
  ·rw[h] at hk;exact .inl ((hF k).2 (.inr hk))
  ·rw[h] at hk;injection hk with hk;subst hk;exact .inr h'
theorem Me {b:Nat} {st:AI×Int} {w w':World} {F:Nat->Prop} (h:(bz b st).P w F) (n:Nat) (hw:w'=w.drewN n):St F w [bz b st] w':=by
 subst hw;exact (Lw F w (Sep.one h)).drewN n
def iW (st:AI×Int) (l:AI):AI×Int:=if st.2=0 then (st.1++l,0) else st
def lU (st:AI×Int) (e:Int):AI×Int:=if st.2=0 then (st.1,e) else st
theorem rk (b:Nat) (st:AI×Int) (e:Int):hN Tryz.prog 94 #[.pointer (some ⟨b,0,none⟩),.int .i64 e] (bz b st) (fun v A' N=>v= .tuple #[]/\A'=bz b (lU st e)/\N = []):=by
 rintro F w ⟨v,hb,ho,hF⟩;obtain⟨l,er⟩:=st;have c:w.cell? ⟨b,1,none⟩=some (.int .i64 er):=(bm hb 1).trans rfl;have d:w.frozen? ⟨b,1,none⟩=false:=cg hb 1;by_cases a:er=0
 ·subst a;have HB:=Lib.hid hb;have HO:=Lib.hid ho;clear hb ho;go_enter Tryz.func94,Tryz.ntmps94
  go_wp2
  go_end0
  refine⟨_,_,_,rfl,⟨rfl,rfl,rfl⟩,(Fr.refl F w).set (.inl ((hF b).2 (.inl rfl))) _,F,?_,fun k hk=> .inl hk,trivial⟩;have hne:=pk HO.out HB.out QS;exact⟨v,by simpa [lU] using ow HB.out 1 (.int .i64 e),Ab HO.out hne _,hF⟩
 ·have HB:=Lib.hid hb;have HO:=Lib.hid ho;have f:(er == 0)=false:=beq_eq_false_iff_ne.2 a;clear hb ho;go_enter Tryz.func94,Tryz.ntmps94
  go_wp2
  go_end0
  exact⟨_,_,_,rfl,⟨rfl,rfl,rfl⟩,Me ⟨v,by simpa [lU,a] using HB.out,by simpa [lU,a] using HO.out,hF⟩ 0 rfl⟩
theorem Bf (b:Nat) (st:AI×Int) (s:ByteArray) (hl:st.1.length+s.size<=140737488355328) :
 hN Tryz.prog 52 #[.pointer (some ⟨b,0,none⟩),.string s] (bz b st) (fun v A' N=>v= .tuple #[]/\A'=bz b (iW st s.data.toList)/\N = []):=by
 rintro F w ⟨v,hb,ho,hF⟩;obtain⟨l,er⟩:=st;have c:w.cell? ⟨b,0,none⟩=some v:=(bm hb 0).trans rfl;have d:w.cell? ⟨b,1,none⟩=some (.int .i64 er):=(bm hb 1).trans rfl;by_cases a:er=0
 ·subst a;have HB:=Lib.hid hb;have HO:=Lib.hid ho;clear hb ho;go_enter Tryz.func52,Tryz.ntmps52
  go_wp2_with (at_builtin; refine oz w rfl _ _ _ _ rfl 5 Tryz.underlying72 Tryz.underlying9 sO v l.length (bU l) rfl HO.out s rfl hl ?_; intro v1 w1 ho1 hg hat; obtain⟨a1,e,rfl⟩:=oA ho1; have HO1:=Lib.hid ho1; clear ho1; have HN:=Lib.hid (pk HO.out HB.out QS); have HB1:=Lib.hid (show w1.heap[b]? = _ from (hg.block b (lO HB.out) HN.out).trans HB.out); have f:w1.cell? ⟨b,0,none⟩=some v:=(bm HB1.out 0).trans rfl; have g:w1.frozen? ⟨b,0,none⟩=false:=cg HB1.out 0; have HG:=Lib.hid hg; have HAT:=Lib.hid hat; clear hg hat)
  go_end0
  have ho1:=HO1.out;rw[rO,<- ls] at ho1;refine⟨_,_,_,rfl,⟨rfl,rfl,rfl⟩,?_⟩;have:=bz.stored HB.out HO.out hF ho1 HG.out (by rcases HAT.out with h | h; exact .inl h; exact .inr ⟨_,h,N3 _⟩);simpa [iW] using this
 ·have HB:=Lib.hid hb;have HO:=Lib.hid ho;have i:(er == 0)=false:=beq_eq_false_iff_ne.2 a;clear hb ho;go_enter Tryz.func52,Tryz.ntmps52
  go_wp2_with fail
  go_end0
  exact⟨_,_,_,rfl,⟨rfl,rfl,rfl⟩,Me ⟨v,by simpa [iW,a] using HB.out,by simpa [iW,a] using HO.out,hF⟩ 0 rfl⟩
theorem Fw (b:Nat) (st:AI×Int) (c:UInt8) (hl:st.1.length+1<=140737488355328) :
 hN Tryz.prog 102 #[.pointer (some ⟨b,0,none⟩),.int .u8 c.toNat] (bz b st) (fun v A' N=>v= .tuple #[]/\A'=bz b (iW st [c])/\N = []):=by
 rintro F w ⟨v,hb,ho,hF⟩;obtain⟨l,er⟩:=st;have d:w.cell? ⟨b,0,none⟩=some v:=(bm hb 0).trans rfl;have e:w.cell? ⟨b,1,none⟩=some (.int .i64 er):=(bm hb 1).trans rfl;by_cases a:er=0
 ·subst a;have HB:=Lib.hid hb;have HO:=Lib.hid ho;clear hb ho;go_enter Tryz.func102,Tryz.ntmps102
  go_wp2_with (at_builtin; refine tN w rfl _ _ _ rfl 5 (.int .u8 0) 1 Tryz.underlying72 sO rfl v l.length (bU l) rfl HO.out (.int .u8 c.toNat) rfl rfl (by simpa using hl) hl ?_; intro v1 w1 ho1 hg hat; obtain⟨a1,f,rfl⟩:=oA ho1; have HO1:=Lib.hid ho1; clear ho1; have HN:=Lib.hid (pk HO.out HB.out QS); have HB1:=Lib.hid (show w1.heap[b]? = _ from (hg.block b (lO HB.out) HN.out).trans HB.out); have g:w1.cell? ⟨b,0,none⟩=some v:=(bm HB1.out 0).trans rfl; have h:w1.frozen? ⟨b,0,none⟩=false:=cg HB1.out 0; have HG:=Lib.hid hg; have HAT:=Lib.hid hat; clear hg hat)
  go_end0
  have ho1:=HO1.out;rw[show ([Value.int .u8 c.toNat]:List Value)=bU [c] from rfl,<- ls] at ho1;refine⟨_,_,_,rfl,⟨rfl,rfl,rfl⟩,?_⟩;have:=bz.stored HB.out HO.out hF ho1 HG.out HAT.out;simpa [iW] using this
 ·have HB:=Lib.hid hb;have HO:=Lib.hid ho;have i:(er == 0)=false:=beq_eq_false_iff_ne.2 a;clear hb ho;go_enter Tryz.func102,Tryz.ntmps102
  go_wp2_with fail
  go_end0
  exact⟨_,_,_,rfl,⟨rfl,rfl,rfl⟩,Me ⟨v,by simpa [iW,a] using HB.out,by simpa [iW,a] using HO.out,hF⟩ 0 rfl⟩
theorem GH (b:Nat) (st:AI×Int):hN Tryz.prog 48 #[.pointer (some ⟨b,0,none⟩)] (bz b st) (fun v A' N=>v= .int .i64 st.2/\A'=bz b st/\N = []):=by
 rintro F w ⟨v,hb,ho,hF⟩;obtain⟨l,er⟩:=st;have a:w.cell? ⟨b,1,none⟩=some (.int .i64 er):=(bm hb 1).trans rfl;have HB:=Lib.hid hb;have HO:=Lib.hid ho;clear hb ho;go_enter Tryz.func48,Tryz.ntmps48
 go_wp2
 go_ret
 exact⟨_,_,_,rfl,⟨rfl,rfl,rfl⟩,Me ⟨_,HB.out,HO.out,hF⟩ 0 rfl⟩
def Bg (st:AI×Int):Value:=if st.2=0 then .tuple #[.string ⟨st.1.toArray⟩,.int .i64 0] else .tuple #[.string ⟨#[]⟩,.int .i64 st.2]
theorem Fx (b:Nat) (st:AI×Int):hN Tryz.prog 50 #[.pointer (some ⟨b,0,none⟩)] (bz b st) (fun v A' N=>v=Bg st/\A'=bz b st/\N = []):=by
 rintro F w ⟨v,hb,ho,hF⟩;obtain⟨l,er⟩:=st;have c:w.cell? ⟨b,0,none⟩=some v:=(bm hb 0).trans rfl;have d:w.cell? ⟨b,1,none⟩=some (.int .i64 er):=(bm hb 1).trans rfl;have hc:=wC (P:=Tryz.prog) w (src:=72) (dst:=9) Tryz.underlying72 Tryz.underlying5 Tryz.underlying9 ho;have HB:=Lib.hid hb;have HO:=Lib.hid ho;clear hb ho;by_cases a:er=0
 ·subst a;go_enter Tryz.func50,Tryz.ntmps50
  go_wp2
  go_ret2
  exact⟨_,_,_,rfl,⟨by simp[Bg],rfl,rfl⟩,Me ⟨_,HB.out,HO.out,hF⟩ 0 rfl⟩
 ·have e:(er != 0)=true:=bne_iff_ne.2 a;go_enter Tryz.func50,Tryz.ntmps50
  go_wp2
  go_quiet (fail)
  go_wp2
  go_ret2
  exact⟨_,_,_,rfl,⟨by simp[Bg,a],rfl,rfl⟩,Me ⟨_,HB.out,HO.out,hF⟩ _ rfl⟩
def bA (n size:Int):Bool:=decide (1<=size) && decide (size<=8) && decide (-(2 ^ (8*size.toNat - 1):Int)<=n) && decide (n<=(2 ^ (8*size.toNat - 1):Int) - 1)
theorem w64max:wrap64 (wrap64 9223372036854775808 - 1)=9223372036854775807:=by unfold wrap64; omega
theorem kA {k:IntKind} {a b:Int} (h:a=b):Ending.returned (.int k a)= .returned (.int k b):=by rw[h]
theorem qx {a b:Bool} (h:a=b):Ending.returned (.bool a)= .returned (.bool b):=by rw[h]
theorem qy (n size:Int) (w:World) (a: -9223372036854775808<=n) (b:n<=9223372036854775807) :
 Calls Tryz.prog 101 #[.int .i64 n,.int .i64 size] w fun e w'=>e= .returned (.bool (bA n size))/\w=w':=by
 by_cases hs:1<=size/\size<=8
 ·have hk:size=1\/size=2\/size=3\/size=4\/size=5\/size=6\/size=7\/size=8:=by omega
  rcases hk with rfl | rfl | rfl | rfl | rfl | rfl | rfl | rfl;all_goals
   clear hs
   go_enter Tryz.func101,Tryz.ntmps101
   go_wp2
   all_goals (go_ret; exact⟨qx (by have:=w64max; rw[Bool.eq_iff_iff]; simp[bA,wrap64]; omega),rfl⟩)
 ·by_cases c:size<1
  ·go_enter Tryz.func101,Tryz.ntmps101
   go_wp2
   go_ret
   exact⟨qx (by simp[bA]; omega),rfl⟩
  ·have d:8<size:=by omega
   go_enter Tryz.func101,Tryz.ntmps101
   go_wp2
   go_ret
   exact⟨qx (by simp[bA]; omega),rfl⟩
def be (n:Int) (size:Nat):AI:=(List.range size).map fun i=>UInt8.ofNat ((n / (2 ^ (8*(size - 1 - i)):Int)) % 256).toNat
def yz (st:AI×Int) (n size:Int):AI×Int:=if bA n size then iW st (be n size.toNat) else lU st 11
theorem Bh (st:AI×Int):iW st []=st:=by
 obtain⟨l,e⟩:=st;by_cases h:e=0 <;> simp[iW,h]
theorem tQ (st:AI×Int) (a b:AI):iW (iW st a) b=iW st (a++b):=by
 obtain⟨l,e⟩:=st;by_cases h:e=0 <;> simp[iW,h]
theorem po (b:Nat) (st:AI×Int) (c:Int) (a:0<=c) (d:c<256) (hl:st.1.length+1<=140737488355328) :
 hN Tryz.prog 102 #[.pointer (some ⟨b,0,none⟩),.int .u8 c] (bz b st) (fun v A' N=>v= .tuple #[]/\A'=bz b (iW st [UInt8.ofNat c.toNat])/\N = []):=by
 have h:=Fw b st (UInt8.ofNat c.toNat) hl
 rwa [show ((UInt8.ofNat c.toNat).toNat:Int)=c from by simp[UInt8.toNat_ofNat']; omega] at h
theorem sP (st:AI×Int) (a:AI):(iW st a).1.length<=st.1.length+a.length:=by
 unfold iW; split <;> simp
theorem vh (b:Nat) (st:AI×Int) (n size:Int) (d: -9223372036854775808<=n) (f:n<=9223372036854775807) (hl:st.1.length+8<=140737488355328) :
 hN Tryz.prog 51 #[.pointer (some ⟨b,0,none⟩),.int .i64 n,.int .i64 size] (bz b st) (fun v A' N=>v= .tuple #[]/\A'=bz b (yz st n size)/\N = []):=by
 intro F w hA;by_cases hf:bA n size=true
 ·have hs:1<=size/\size<=8:=by simp[bA] at hf; omega
  obtain⟨k,rfl⟩: ∃ k:Nat,size=k:=⟨size.toNat,by omega⟩;have HF:=Lib.hid hf;clear hf;have HA:=Lib.hid (Lw F w (Sep.one hA));clear hA;go_enter Tryz.func51,Tryz.ntmps51
  go_wp2_with fail
  refine (qy n k w d f).mono ?_;rintro e w' ⟨rfl,rfl⟩;rw[HF.out];go_wp2_with fail
  go_loopw [6,14] (fun _ i wr=> ∃ j:Nat,j<=k/\i= .int .i64 j/\St F w [bz b (iW st ((be n k).take j))] wr) (fun _ i _=>k - (intOf i).toNat)
  case atStart=>exact⟨0,by omega,rfl,by simpa [Bh] using HA.out⟩
  case round =>
   obtain⟨j,hj,rfl,hst⟩:=hrel;have HS:=Lib.hid hst;clear hst;by_cases hlt:j<k
   ·go_wp2_with fail
    have hle:((be n k).take j).length=j:=by simp[be]; omega
    have g:=sP st ((be n k).take j);refine (HS.out.call 0 rfl (po b _ _ QR QR QR)).mono ?_;rintro e w1 ⟨v,A',N,rfl,⟨rfl,rfl,rfl⟩,a⟩;have HS1:=Lib.hid a;clear a hle g;go_wp2_with fail
    go_roundw
    case rel =>
     refine⟨j+1,by omega,by go_num,?_⟩;have:=HS1.out;rw[tQ] at this;have c:(be n k).take (j+1)=(be n k).take j ++ [UInt8.ofNat ((n / (2 ^ (8*(k - 1 - j)):Int)) % 256).toNat]:=by
      rw[List.take_succ_eq_append_getElem (by simp[be]; omega)];simp[be]
     rw[c];exact this
    case measure=>simp[intOf]; omega
   ·have c:j=k:=by omega
    have h:(be n k).take k=be n k:=List.take_of_length_le (by simp[be]);go_wp2_with fail
    go_end0
    refine⟨_,_,_,rfl,⟨rfl,rfl,rfl⟩,?_⟩;have:=HS.out;rw[c,h] at this;simpa [yz,HF.out] using this
 ·have HF:=Lib.hid (show bA n size=false by simpa using hf);clear hf;have HA:=Lib.hid (Lw F w (Sep.one hA));clear hA;go_enter Tryz.func51,Tryz.ntmps51
  go_wp2_with fail
  refine (qy n size w d f).mono ?_;rintro e w' ⟨rfl,rfl⟩;rw[HF.out];go_wp2_with fail
  refine (HA.out.call 0 rfl (rk b _ 11)).mono ?_;rintro e w1 ⟨v,A',N,rfl,⟨rfl,rfl,rfl⟩,a⟩;have HS1:=Lib.hid a;clear a;go_wp2_with fail
  go_end0
  refine⟨_,_,_,rfl,⟨rfl,rfl,rfl⟩,?_⟩;simpa [yz,HF.out] using HS1.out
structure I where
 rest:AI
 pos:Nat
 err:Int
def aY (l:AI):ByteArray:=⟨l.toArray⟩
abbrev jS (l:AI):Value:= .string (aY l)
theorem bsOf_size (l:AI):(aY l).size=l.length:=by simp[aY,ByteArray.size]
theorem dg (l:AI):(aY l).data.toList=l:=by simp[aY]
theorem fB (l:AI):(aY l).toList=l:=ByteArray.toList_mk l
theorem Fy (s:ByteArray):aY s.data.toList=s:=by cases s; simp[aY]
theorem nL (s:ByteArray) (a b:Nat):s.extract a b=aY ((s.data.toList.drop a).take (b - a)):=by
 apply ByteArray.ext;apply Array.ext';simp[aY,ByteArray.data_extract,List.extract_eq_take_drop]
def InR (b:Nat) (st:I):Res where
 P:=fun w G=> ∃ s:ByteArray,w.heap[b]? = some (.cells #[.string s,.int .i64 st.pos,.int .i64 st.err] 134 (0,0))/\st.pos+st.rest.length=s.size/\s.size<=9223372036854775807/\s.data.toList.drop st.pos=st.rest/\ ∀ k,G k↔k=b
 lt:=by
  rintro w G ⟨s,a,_,_,_,c⟩ k hk;rw[(c k).1 hk];exact lO a
 move:=by
  rintro w w' G ⟨s,a,e,c,f,d⟩ hm;exact⟨s,(hm _ ((d _).2 rfl)).trans a,e,c,f,d⟩
theorem InR.kept {b:Nat} {st:I} {w w':World} {F:Nat->Prop} (h:(InR b st).P w F) (n:Nat) (hw:w'=w.drewN n):St F w [InR b st] w':=by
 subst hw;exact (Lw F w (Sep.one h)).drewN n
def dC (st:I) (e:Int):I:=if st.err=0 then { st with err:=e } else st
def cD (st:I) (n:Int):AI×I :=
 if st.err≠0 then ([],st) else if n<0 then ([],{ st with err:=4 }) else if st.rest.length<n then ([],{ st with err:=1 })
 else (st.rest.take n.toNat,{ st with rest:=st.rest.drop n.toNat,pos:=st.pos+n.toNat })
theorem GI (s:ByteArray) (hs:s.size<=9223372036854775807) :
 mv Tryz.prog 19 #[.string s] (fun v N=> ∃ b,v= .pointer (some ⟨b,0,none⟩)/\N = [InR b ⟨s.data.toList,0,0⟩]):=by
 intro w;go_enter Tryz.func19,Tryz.ntmps19
 go_wp2
 go_ret
 refine⟨_,_,rfl,⟨_,rfl,rfl⟩,?_⟩;refine (((L4 w).alloc #[.string s,.int .i64 0,.int .i64 0] 134).weaken 0 rfl (A':=InR w.heap.size ⟨s.data.toList,0,0⟩) ?_);rintro G ⟨a,c⟩;exact⟨s,a,by simp,hs,rfl,c⟩
theorem ib (b:Nat) (st:I) (e:Int):hN Tryz.prog 70 #[.pointer (some ⟨b,0,none⟩),.int .i64 e] (InR b st) (fun v A' N=>v= .tuple #[]/\A'=InR b (dC st e)/\N = []):=by
 rintro F w ⟨s,hb,c,d,f,hF⟩;have c2:w.cell? ⟨b,2,none⟩=some (.int .i64 st.err):=(bm hb 2).trans rfl;have j:w.frozen? ⟨b,2,none⟩=false:=cg hb 2;have HB:=Lib.hid hb;have g:=Lib.hid f;have h:=Lib.hid c;clear hb f c;by_cases a:st.err=0
 ·have i:(st.err == 0)=true:=beq_iff_eq.2 a;have HH:=Lib.hid a;clear a;go_enter Tryz.func70,Tryz.ntmps70
  go_wp2
  go_end0
  refine⟨_,_,_,rfl,⟨rfl,rfl,rfl⟩,(Fr.refl F w).set (.inl ((hF b).2 rfl)) _,F,?_,fun k hk=> .inl hk,trivial⟩;exact⟨s,by simpa [dC,HH.out] using ow HB.out 2 (.int .i64 e),by simpa [dC,HH.out] using h.out,d,by simpa [dC,HH.out] using g.out,hF⟩
 ·have i:(st.err == 0)=false:=beq_eq_false_iff_ne.2 a;have HH:=Lib.hid a;clear a;go_enter Tryz.func70,Tryz.ntmps70
  go_wp2
  go_end0
  refine⟨_,_,_,rfl,⟨rfl,rfl,rfl⟩,InR.kept (st:=dC st e) ?_ 0 rfl⟩;rw[show dC st e=st by simp[dC,HH.out]];exact⟨s,HB.out,h.out,d,g.out,hF⟩
theorem oB (b:Nat) (st:I):hN Tryz.prog 71 #[.pointer (some ⟨b,0,none⟩)] (InR b st) (fun v A' N=>v= .int .i64 st.rest.length/\A'=InR b st/\N = []):=by
 rintro F w ⟨s,hb,a,e,c,hF⟩;have h:w.cell? ⟨b,0,none⟩=some (.string s):=(bm hb 0).trans rfl;have i:w.cell? ⟨b,1,none⟩=some (.int .i64 st.pos):=(bm hb 1).trans rfl;have HB:=Lib.hid hb;have f:=Lib.hid c;have d:=Lib.hid a;have h2a:st.pos<=s.size:=by omega
 clear hb c a;go_enter Tryz.func71,Tryz.ntmps71
 go_wp2
 go_quiet (fail)
 go_wp2
 go_ret
 have g:(s.size:Int) - st.pos=st.rest.length:=by have:=d.out; omega
 exact⟨_,_,_,kA g,⟨rfl,rfl,rfl⟩,InR.kept ⟨s,HB.out,d.out,e,f.out,hF⟩ _ rfl⟩
theorem eL (b:Nat) (st:I) (n:Int) (p: -9223372036854775808<=n) (q:n<=9223372036854775807) :
 hN Tryz.prog 67 #[.pointer (some ⟨b,0,none⟩),.int .i64 n] (InR b st) (fun v A' N=>v= .string (aY (cD st n).1)/\A'=InR b (cD st n).2/\N = []):=by
 rintro F w ⟨s,hb,d,h,f,hF⟩;have hA:(InR b st).P w F:=⟨s,hb,d,h,f,hF⟩;have t:w.cell? ⟨b,0,none⟩=some (.string s):=(bm hb 0).trans rfl;have u:w.cell? ⟨b,1,none⟩=some (.int .i64 st.pos):=(bm hb 1).trans rfl;have c2:w.cell? ⟨b,2,none⟩=some (.int .i64 st.err):=(bm hb 2).trans rfl;have x:w.frozen? ⟨b,1,none⟩=false:=cg hb 1;have HB:=Lib.hid hb;have i:=Lib.hid f;have g:=Lib.hid d;have HA:=Lib.hid (Lw F w (Sep.one hA));have h2a:st.pos<=s.size:=by omega
 have h2b: ¬ ((s.size:Int) - st.pos<n)↔n<=st.rest.length:=by omega
 have H2b:=Lib.hid h2b;clear hb f d hA h2b;by_cases a:st.err=0
 ·have k:(st.err != 0)=false:=by simp[a]
  have HH:=Lib.hid a;clear a;by_cases hn:n<0
  ·have HT:=Lib.hid (show cD st n=([],dC st 4) by simp[cD,HH.out,hn,dC]);go_enter Tryz.func67,Tryz.ntmps67
   go_wp2_with fail
   refine (HA.out.call 0 rfl (ib b st 4)).mono ?_;rintro e w1 ⟨v,A',N,rfl,⟨rfl,rfl,rfl⟩,c⟩;have HS1:=Lib.hid c;clear c;go_wp2_with fail
   go_ret
   exact⟨_,_,_,rfl,⟨by rw[HT.out]; rfl,rfl,rfl⟩,by rw[HT.out]; exact HS1.out⟩
  ·by_cases hl:(st.rest.length:Int)<n
   ·have j:(s.size:Int) - st.pos<n:=by have:=g.out; omega
    have HT:=Lib.hid (show cD st n=([],dC st 1) by simp[cD,HH.out,hn,dC,hl]);go_enter Tryz.func67,Tryz.ntmps67
    go_wp2_with fail
    go_quiet (fail)
    go_wp2_with fail
    refine ((HA.out.drewN _).call 0 rfl (ib b st 1)).mono ?_;rintro e w1 ⟨v,A',N,rfl,⟨rfl,rfl,rfl⟩,c⟩;have HS1:=Lib.hid c;clear c;go_wp2_with fail
    go_ret
    exact⟨_,_,_,rfl,⟨by rw[HT.out]; rfl,rfl,rfl⟩,by rw[HT.out]; exact HS1.out⟩
   ·have j: ¬ ((s.size:Int) - st.pos<n):=by have:=g.out; omega
    obtain⟨m,rfl⟩: ∃ m:Nat,n=m:=⟨n.toNat,by omega⟩;have r:st.pos+m<=s.size:=by omega
    have HT:=Lib.hid (show cD st m=(st.rest.take m,{ st with rest:=st.rest.drop m,pos:=st.pos+m }) by
     have: ¬ (st.rest.length<m):=by omega
     simp[cD,HH.out,this])
    go_enter Tryz.func67,Tryz.ntmps67
    go_wp2_with fail
    go_quiet (fail)
    go_wp2_with fail
    go_quiet (fail)
    go_wp2_with fail
    go_ret
    refine⟨.string (s.extract st.pos (st.pos+m)),_,_,rfl,⟨?_,rfl,rfl⟩,?_⟩
    ·rw[HT.out,nL,Nat.add_sub_cancel_left,i.out]
    ·rw[HT.out];refine ((((Lw F w (Sep.one (R:=aV b 134 #[.string s,.int .i64 st.pos,.int .i64 st.err]) ⟨HB.out,hF⟩)).drewN _).set 0 rfl 1 (.int .i64 (st.pos+m))).drewN _).weaken 0 rfl (A':=InR b { st with rest:=st.rest.drop m,pos:=st.pos+m }) ?_;rintro G ⟨l,o⟩;have d:=g.out;refine⟨s,l,?_,h,?_,o⟩
     ·simp only[Nx]; omega
     ·simp only; rw[<- i.out,Oa]
 ·have k:(st.err != 0)=true:=bne_iff_ne.2 a;have HH:=Lib.hid a;clear a;go_enter Tryz.func67,Tryz.ntmps67
  go_wp2_with fail
  go_ret
  refine⟨_,_,_,rfl,⟨?_,rfl,rfl⟩,?_⟩
  ·simp[cD,HH.out,aY]
  ·simpa [cD,HH.out] using HA.out
theorem Jq (x d:Int) (e: -9223372036854775808<=x) (f:x<=9223372036854775807) (hx:x % 256=0) (hd0:0<=d) (hd1:d<256):bits .or .i64 x d=x+d:=by
 have b:(BitVec.ofInt 64 x).toNat=(x % 18446744073709551616).toNat:=by simp[BitVec.toNat_ofInt]
 have c:(BitVec.ofInt 64 d).toNat=d.toNat:=by simp[BitVec.toNat_ofInt]; omega
 show IntKind.i64.wrap (((BitVec.ofInt 64 x) ||| (BitVec.ofInt 64 d)).toNat:Int)=x+d;rw[BitVec.toNat_or,b,c];generalize ha:(x % 18446744073709551616).toNat=a;have ha2:a % 256=0:=by omega
 have hq:a=2 ^ 8*(a / 256):=by omega
 have hb:d.toNat<2 ^ 8:=by omega
 have ho:a ||| d.toNat=a+d.toNat:=by
  rw[hq,<- Nat.two_pow_add_eq_or_of_lt hb (a / 256)]
 rw[ho,IntKind.wrap_i64];omega
def sgn (c:UInt8):Int:=if c.toNat<128 then c.toNat else (c.toNat:Int) - 256
theorem GJ (c:UInt8):wrap64 (IntKind.i8.wrap (c.toNat:Int))=sgn c:=by
 have:=c.toNat_lt;have e:IntKind.i8.wrap (c.toNat:Int)=sgn c:=by
  unfold sgn;simp[IntKind.wrap,IntKind.bits,IntKind.signed];split <;> split <;> omega
 rw[e];unfold sgn wrap64;split <;> omega
def bC:AI->Int
 | []=>0
 | c::cs=>cs.foldl (fun n d=>n*256+d.toNat) (sgn c)
theorem sb (l:AI) (d:UInt8) (h:l ≠ []):bC (l ++ [d])=bC l*256+d.toNat:=by
 cases l with
 | nil=>exact absurd rfl h
 | cons c cs=>simp[bC]
theorem CJ (cs:AI): ∀ (n:Int) (m:Nat),1<=m-> -(2 ^ (m - 1):Int)<=n->n<(2 ^ (m - 1):Int) ->
 -(2 ^ (m+8*cs.length - 1):Int)<=cs.foldl (fun n d=>n*256+(d.toNat:Int)) n/\cs.foldl (fun n d=>n*256+(d.toNat:Int)) n<(2 ^ (m+8*cs.length - 1):Int):=by
 induction cs with
 | nil=>intro n m _ a b; exact⟨a,b⟩
 | cons c cs ih =>
  intro n m hm a b;have:=c.toNat_lt;have e:(2 ^ (m+8 - 1):Int)=256*2 ^ (m - 1):=by
   rw[show m+8 - 1=8+(m - 1) by omega,Int.pow_add];rfl
  have f:=ih (n*256+c.toNat) (m+8) QR (by rw[e]; omega) (by rw[e]; omega);rw[show m+8*(c::cs).length - 1=m+8+8*cs.length - 1 by simp; omega];exact f
theorem qz (l:AI) (h:l ≠ []): -(2 ^ (8*l.length - 1):Int)<=bC l/\bC l<(2 ^ (8*l.length - 1):Int):=by
 cases l with
 | nil=>exact absurd rfl h
 | cons c cs =>
  have hc:=c.toNat_lt;have:=CJ cs (sgn c) 8 QR (by unfold sgn; split <;> omega) (by unfold sgn; split <;> omega);rw[show 8*(c::cs).length - 1=8+8*cs.length - 1 by simp; omega];exact this
theorem sQ (l:AI) (h:l ≠ []) (c:l.length<=7): -36028797018963968<=bC l/\bC l<36028797018963968:=by
 have hr:=qz l h;have hp:(2 ^ (8*l.length - 1):Int)<=36028797018963968:=by
  have b:(2 ^ (8*l.length - 1):Nat)<=2 ^ 55:=Nat.pow_le_pow_right QS QR;have a:((2 ^ (8*l.length - 1):Nat):Int)<=((2 ^ 55:Nat):Int):=Int.ofNat_le.2 b;rw[Int.natCast_pow,Int.natCast_pow] at a;exact a
 generalize (2 ^ (8*l.length - 1):Int)=z at *;omega
theorem CK (q d:Int) (c: -36028797018963968<=q) (e:q<36028797018963968) (hd0:0<=d) (hd1:d<256):bits .or .i64 (wrap64 (q*256)) (wrap64 d)=q*256+d:=by
 have a:wrap64 (q*256)=q*256:=by unfold wrap64; omega
 have b:wrap64 d=d:=by unfold wrap64; omega
 rw[a,b,Jq _ _ QR QR QR hd0 hd1]
theorem CL (l:AI):(aY l).toList.isEmpty=l.isEmpty:=by
 have e:(aY l).toList=l:=ByteArray.toList_mk l;rw[e]
theorem qA (l:AI) (i:Nat) (h:i<(aY l).size):(aY l)[i]=l[i]'(by simpa [bsOf_size] using h):=by
 simp[aY]; rfl
def fc (st:I) (size:Int):Int×I:=if 1<=size/\size<=8 then (bC (cD st size).1,(cD st size).2) else (0,dC st 4)
theorem yS (st:I) (n:Int):(cD st n).1.length<=n.toNat:=by
 unfold cD;split
 ·simp
 ·split
  ·simp
  ·split
   ·simp
   ·simp; omega
theorem tR (b:Nat) (st:I) (size:Int) :
 hN Tryz.prog 68 #[.pointer (some ⟨b,0,none⟩),.int .i64 size] (InR b st) (fun v A' N=>v= .int .i64 (fc st size).1/\A'=InR b (fc st size).2/\N = []):=by
 intro F w hA;by_cases hs:1<=size/\size<=8
 ·obtain⟨k,rfl⟩: ∃ k:Nat,size=k:=⟨size.toNat,by omega⟩;have HI:=Lib.hid (show fc st k=(bC (cD st k).1,(cD st k).2) by simp only[fc,hs]; simp);have HA:=Lib.hid (Lw F w (Sep.one hA));clear hA;go_enter Tryz.func68,Tryz.ntmps68
  go_wp2_with fail
  refine (HA.out.call 0 rfl (eL b st k QR QR)).mono ?_;rintro e w1 ⟨v,A',N,rfl,⟨rfl,rfl,rfl⟩,a⟩;have HS1:=Lib.hid a;have hlen:=yS st k;clear a;generalize hl:(cD st k).1=l at *;have hne:=CL l;have HL:=Lib.hid hl;clear hl
  cases l with
  | nil =>
   simp only[List.isEmpty_nil] at hne;go_wp2_with fail
   go_ret
   exact⟨_,_,_,rfl,⟨by rw[HI.out]; rfl,rfl,rfl⟩,by rw[HI.out]; exact HS1.out⟩
  | cons c cs =>
   have hsz:=bsOf_size (c::cs);have f:=qA (c::cs) 0 (by simp[bsOf_size]);have HG:=Lib.hid (qA (c::cs));have hsg:=GJ c;have m:cs.length<=7:=by simp at hlen; omega
   simp only[List.getElem_cons_zero,List.isEmpty_cons] at f hne;go_wp2_with fail
   go_loopw [6,7] (fun n i wr=>wr=w1/\ ∃ j:Nat,1<=j/\j<=cs.length+1/\i= .int .i64 j/\n= .int .i64 (bC ((c::cs).take j))) (fun _ i _=>cs.length+1 - (intOf i).toNat)
   case atStart=>exact⟨rfl,1,by omega,by omega,rfl,by simp[bC,hsg]⟩
   case round =>
    obtain⟨rfl,j,hj1,hj2,rfl,rfl⟩:=hrel;by_cases hlt:j<cs.length+1
    ·have hgj:=HG.out j (by rw[hsz]; simpa using hlt);have hb:j<=9223372036854775806:=by omega
     have hnn:(c::cs).take j ≠ []:=by intro h; have:=congrArg List.length h; simp at this; omega
     have hr:=sQ ((c::cs).take j) hnn (by simp; omega);generalize hq:bC ((c::cs).take j)=q at *;have HQ:=Lib.hid hq;have HR:=Lib.hid hr;clear hq hr;go_wp2_with fail
     go_roundw
     case rel =>
      refine⟨trivial,j+1,by omega,by omega,by go_num,?_⟩;have hd:=((c::cs)[j]'(by simpa using hlt)).toNat_lt;have d:(c::cs).take (j+1)=(c::cs).take j ++ [(c::cs)[j]'(by simpa using hlt)]:=by
       rw[List.take_succ_eq_append_getElem (by simpa using hlt)]
      rw[d,sb _ _ hnn,HQ.out,CK q _ HR.out.1 HR.out.2 QR QR]
     case measure=>simp[intOf]; omega
    ·have d:j=cs.length+1:=by omega
     have g:(c::cs).take (cs.length+1)=c::cs:=List.take_of_length_le (by simp);have hb:(c::cs).length=cs.length+1:=rfl;go_wp2_with fail
     go_ret
     exact⟨_,_,_,rfl,⟨by rw[HI.out,d,g]; rfl,rfl,rfl⟩,by rw[HI.out]; exact HS1.out⟩
 ·have HI:=Lib.hid (show fc st size=(0,dC st 4) by simp only[fc,hs]; simp);have HA:=Lib.hid (Lw F w (Sep.one hA));clear hA;by_cases o:size<1;all_goals
   go_enter Tryz.func68,Tryz.ntmps68
   go_wp2_with fail
   refine (HA.out.call 0 rfl (ib b st 4)).mono ?_
   rintro e w1 ⟨v,A',N,rfl,⟨rfl,rfl,rfl⟩,a⟩
   have HS1:=Lib.hid a
   clear a
   go_wp2_with fail
   go_ret
   exact⟨_,_,_,rfl,⟨by rw[HI.out]; rfl,rfl,rfl⟩,by rw[HI.out]; exact HS1.out⟩
theorem InR.err {b:Nat} {st:I} {w:World} {F0:Nat->Prop} {w0:World} {Rs:List Res} (i:Nat) (h:St F0 w0 Rs w) (hi:Rs[i]? = some (InR b st)) :
 w.cell? ⟨b,2,none⟩=some (.int .i64 st.err)/\w.cell? ⟨b,1,none⟩=some (.int .i64 st.pos):=by
 obtain⟨G,⟨s,a,_⟩,_⟩:=h.get i hi;exact⟨(bm a 2).trans rfl,(bm a 1).trans rfl⟩
theorem InR.len {b:Nat} {st:I} {w:World} {F0:Nat->Prop} {w0:World} {Rs:List Res} (i:Nat) (h:St F0 w0 Rs w) (hi:Rs[i]? = some (InR b st)):st.rest.length<=9223372036854775807:=by
 obtain⟨G,⟨s,a,c,d,_⟩,_⟩:=h.get i hi;omega
theorem rl (b:Nat) (st:I):hN Tryz.prog 23 #[.pointer (some ⟨b,0,none⟩)] (InR b st) (fun v A' N=>v= .int .i64 st.err/\A'=InR b st/\N = []):=by
 intro F w hA;have hs:=Lw F w (Sep.one hA);have c2:=(InR.err 0 hs rfl).1;have HS:=Lib.hid hs;clear hs hA;go_enter Tryz.func23,Tryz.ntmps23
 go_wp2
 go_ret
 exact⟨_,_,_,rfl,⟨rfl,rfl,rfl⟩,HS.out⟩
theorem Jr (b:Nat) (st:I):hN Tryz.prog 24 #[.pointer (some ⟨b,0,none⟩)] (InR b st) (fun v A' N=>v= .int .i64 st.pos/\A'=InR b st/\N = []):=by
 intro F w hA;have hs:=Lw F w (Sep.one hA);have c2:=(InR.err 0 hs rfl).2;have HS:=Lib.hid hs;clear hs hA;go_enter Tryz.func24,Tryz.ntmps24
 go_wp2
 go_ret
 exact⟨_,_,_,rfl,⟨rfl,rfl,rfl⟩,HS.out⟩
def fS (st:I):I:=if st.rest = [] then st else dC st 2
theorem CM (b:Nat) (st:I):hN Tryz.prog 21 #[.pointer (some ⟨b,0,none⟩)] (InR b st) (fun v A' N=>v= .int .i64 (fS st).err/\A'=InR b (fS st)/\N = []):=by
 intro F w hA;have HS:=Lib.hid (Lw F w (Sep.one hA));clear hA;by_cases h:st.rest = []
 ·have HC:=Lib.hid (show fS st=st by simp[fS,h]);have hl:st.rest.length=0:=by simp[h]
  have HL:=Lib.hid hl;have d: ¬ ((0:Int)<st.rest.length):=by omega
  clear h hl;go_enter Tryz.func21,Tryz.ntmps21
  go_wp2_with fail
  refine (HS.out.call 0 rfl (oB b st)).mono ?_;rintro e w1 ⟨v,A',N,rfl,⟨rfl,rfl,rfl⟩,a⟩;have c2:=(InR.err 0 a rfl).1;have HS1:=Lib.hid a;clear a;go_wp2_with fail
  go_ret
  exact⟨_,_,_,rfl,⟨by rw[HC.out]; rfl,rfl,rfl⟩,by rw[HC.out]; exact HS1.out⟩
 ·have HC:=Lib.hid (show fS st=dC st 2 by simp[fS,h]);have d:(0:Int)<st.rest.length:=by
   have:=List.length_pos_iff.2 h;omega
  clear h;go_enter Tryz.func21,Tryz.ntmps21
  go_wp2_with fail
  refine (HS.out.call 0 rfl (oB b st)).mono ?_;rintro e w1 ⟨v,A',N,rfl,⟨rfl,rfl,rfl⟩,a⟩;have HS1:=Lib.hid a;clear a;go_wp2_with fail
  refine (HS1.out.call 0 rfl (ib b st 2)).mono ?_;rintro e f ⟨v,A',N,rfl,⟨rfl,rfl,rfl⟩,c⟩;have c2:=(InR.err 0 c rfl).1;have HS2:=Lib.hid c;clear c;go_wp2_with fail
  go_ret
  exact⟨_,_,_,rfl,⟨by rw[HC.out]; rfl,rfl,rfl⟩,by rw[HC.out]; exact HS2.out⟩
def mm (st:I) (size each:Int):Int×I :=
 if (fc st size).2.err≠0 then (0,(fc st size).2)
 else if (fc st size).1<0 then (0,dC (fc st size).2 4)
 else if 0<each/\((fc st size).2.rest.length:Int) / each<(fc st size).1 then (0,dC (fc st size).2 1)
 else fc st size
theorem CN (b:Nat) (st:I) (size each:Int) :
 hN Tryz.prog 144 #[.pointer (some ⟨b,0,none⟩),.int .i64 size,.int .i64 each] (InR b st) (fun v A' N=>v= .int .i64 (mm st size each).1/\A'=InR b (mm st size each).2/\N = []):=by
 intro F w hA;have HS:=Lib.hid (Lw F w (Sep.one hA));clear hA;have HC:=Lib.hid (show mm st size each= _ from rfl);generalize hq:mm st size each=q at HC ⊢;have HC2:=Lib.hid (show q=mm st size each from hq.symm);clear hq HC;have HC3:=Lib.hid (show q=(if (fc st size).2.err≠0 then (0,(fc st size).2)
  else if (fc st size).1<0 then (0,dC (fc st size).2 4)
  else if 0<each/\((fc st size).2.rest.length:Int) / each<(fc st size).1 then (0,dC (fc st size).2 1)
  else fc st size) from HC2.out)
 clear HC2;have h:=tR b st size;generalize fc st size=r at *;obtain⟨n,a⟩:=r;have HN:=Lib.hid h;clear h;by_cases f:a.err=0
 ·have j:(a.err != 0)=false:=by simp[f]
  have HH:=Lib.hid f;clear f;by_cases hn:n<0
  ·have HQ:=Lib.hid (show q=(0,dC a 4) by rw[HC3.out]; simp[HH.out,hn]);go_enter Qz,Qr
   go_wp2_with fail
   refine (HS.out.call 0 rfl HN.out).mono ?_;rintro e w1 ⟨v,A',N,rfl,⟨rfl,rfl,rfl⟩,c⟩;have c2:=(InR.err 0 c rfl).1;have HS1:=Lib.hid c;clear c;go_wp2_with fail
   refine (HS1.out.call 0 rfl (ib b a 4)).mono ?_;rintro e g ⟨v,A',N,rfl,⟨rfl,rfl,rfl⟩,d⟩;have HS2:=Lib.hid d;clear d;go_wp2_with fail
   go_ret
   exact⟨_,_,_,rfl,⟨by rw[HQ.out]; rfl,rfl,rfl⟩,by rw[HQ.out]; exact HS2.out⟩
  ·by_cases he:0<each
   ·have hd0:0<=(a.rest.length:Int):=by omega
    by_cases hc:(a.rest.length:Int) / each<n
    ·have HQ:=Lib.hid (show q=(0,dC a 1) by rw[HC3.out]; simp[HH.out,hn,he,hc]);go_enter Qz,Qr
     go_wp2_with fail
     refine (HS.out.call 0 rfl HN.out).mono ?_;rintro e w1 ⟨v,A',N,rfl,⟨rfl,rfl,rfl⟩,c⟩;have c2:=(InR.err 0 c rfl).1;have hb:=InR.len 0 c rfl;have hq1:0<=(a.rest.length:Int) / each:=Int.ediv_nonneg hd0 QR;have hq2:(a.rest.length:Int) / each<=9223372036854775807:=Int.le_trans (Int.ediv_le_self each hd0) QR;have HS1:=Lib.hid c;clear c;go_wp2_with fail
     refine (HS1.out.call 0 rfl (oB b a)).mono ?_;rintro e g ⟨v,A',N,rfl,⟨rfl,rfl,rfl⟩,d⟩;have HS2:=Lib.hid d;clear d;go_wp2_with fail
     refine (HS2.out.call 0 rfl (ib b a 1)).mono ?_;rintro e g ⟨v,A',N,rfl,⟨rfl,rfl,rfl⟩,i⟩;have HS3:=Lib.hid i;clear i;go_wp2_with fail
     go_ret
     exact⟨_,_,_,rfl,⟨by rw[HQ.out]; rfl,rfl,rfl⟩,by rw[HQ.out]; exact HS3.out⟩
    ·have HQ:=Lib.hid (show q=(n,a) by rw[HC3.out]; simp[HH.out,hn,hc]);go_enter Qz,Qr
     go_wp2_with fail
     refine (HS.out.call 0 rfl HN.out).mono ?_;rintro e w1 ⟨v,A',N,rfl,⟨rfl,rfl,rfl⟩,c⟩;have c2:=(InR.err 0 c rfl).1;have hb:=InR.len 0 c rfl;have hq1:0<=(a.rest.length:Int) / each:=Int.ediv_nonneg hd0 QR;have hq2:(a.rest.length:Int) / each<=9223372036854775807:=Int.le_trans (Int.ediv_le_self each hd0) QR;have HS1:=Lib.hid c;clear c;go_wp2_with fail
     refine (HS1.out.call 0 rfl (oB b a)).mono ?_;rintro e g ⟨v,A',N,rfl,⟨rfl,rfl,rfl⟩,d⟩;have HS2:=Lib.hid d;clear d;go_wp2_with fail
     go_ret
     exact⟨_,_,_,rfl,⟨by rw[HQ.out]; rfl,rfl,rfl⟩,by rw[HQ.out]; exact HS2.out⟩
   ·have HQ:=Lib.hid (show q=(n,a) by rw[HC3.out]; simp[HH.out,hn,he]);go_enter Qz,Qr
    go_wp2_with fail
    refine (HS.out.call 0 rfl HN.out).mono ?_;rintro e w1 ⟨v,A',N,rfl,⟨rfl,rfl,rfl⟩,c⟩;have c2:=(InR.err 0 c rfl).1;have HS1:=Lib.hid c;clear c;go_wp2_with fail
    go_ret
    exact⟨_,_,_,rfl,⟨by rw[HQ.out]; rfl,rfl,rfl⟩,by rw[HQ.out]; exact HS1.out⟩
 ·have j:(a.err != 0)=true:=bne_iff_ne.2 f;have HQ:=Lib.hid (show q=(0,a) by rw[HC3.out]; simp[f]);clear f;go_enter Qz,Qr
  go_wp2_with fail
  refine (HS.out.call 0 rfl HN.out).mono ?_;rintro e w1 ⟨v,A',N,rfl,⟨rfl,rfl,rfl⟩,c⟩;have c2:=(InR.err 0 c rfl).1;have HS1:=Lib.hid c;clear c;go_wp2_with fail
  go_ret
  exact⟨_,_,_,rfl,⟨by rw[HQ.out]; rfl,rfl,rfl⟩,by rw[HQ.out]; exact HS1.out⟩
theorem GK (l:AI) (p:Nat) (a:1<=l.length) (b:l.length<=8) (m:AI):fc ⟨l++m,p,0⟩ l.length=(bC l,⟨m,p+l.length,0⟩):=by
 have e:cD ⟨l++m,p,0⟩ l.length=(l,⟨m,p+l.length,0⟩):=by
  unfold cD;rw[QY (by simp),QY QR,QY (by simp only[Nr]; omega)];simp
 have hc:(1:Int)<=l.length/\(l.length:Int)<=8:=by omega
 simp only[fc,hc,e];simp
theorem bsOf_of (s:ByteArray): ∃ l,s=aY l:=⟨s.data.toList,(Fy s).symm⟩
theorem Ad (l:AI) (j:Nat) (h:j<l.length):l.take (j+1)=l.take j ++ [l[j]]:=List.take_succ_eq_append_getElem h
theorem rP {l:AI} {j:Nat} (h:j<l.length) (a:0<j):l.take j ≠ []:=by
 intro he;have:=congrArg List.length he;rw[NL,Ov] at this;omega
theorem Bi (l:AI) (k:l.length<=8) (w:World) :
 Calls Tryz.prog 25 #[.string (aY l)] w fun e w'=>e= .returned (.int .i64 (bC l))/\w=w':=by
 have hsz:=bsOf_size l;have h:(aY l).size<=8:=by omega
 have HG:=Lib.hid (qA l);go_enter Tryz.func25,Tryz.ntmps25
 go_wp2_with fail
 go_loop [3,4] (fun n i=> ∃ j:Nat,j<=l.length/\i= .int .i64 j/\n= .int .i64 (bC (l.take j))) (fun _ i=>l.length - (intOf i).toNat)
 case atStart=>exact⟨0,by omega,rfl,by simp[bC]⟩
 case round =>
  obtain⟨j,hj,rfl,rfl⟩:=hrel;by_cases hlt:j<l.length
  ·have hgj:=HG.out j QR;have hs:j<(aY l).size:=by omega
   have HT:=Lib.hid (Ad l j hlt);have hc:=l[j].toNat_lt;generalize l[j]=c at *;by_cases hj0:j=0
   ·subst hj0;have HE:=Lib.hid (show bC (l.take (0+1))=sgn c by rw[HT.out]; simp[bC]);have hb0:bC (l.take 0)=0:=by simp[bC]
    clear HT;rw[hb0];clear hb0;by_cases d:c.toNat<128;all_goals
     go_wp2_with fail
     go_round
     case rel=>exact⟨0+1,by omega,by go_num,by rw[HE.out]; simp[sgn]; first | done | omega⟩
     case measure=>simp[intOf]; omega
   ·have hne:=rP hlt QR;have hr:=sQ (l.take j) hne (by simp; omega);have HE:=Lib.hid (show bC (l.take (j+1))=bC (l.take j)*256+c.toNat by rw[HT.out,sb _ _ hne]);clear HT;have HN:=Lib.hid hne;clear hne;generalize bC (l.take j)=q at *;have m:((j:Int) == 0)=false:=by simp; omega
    have hr1:=hr.1;have hr2:=hr.2;go_wp2_with fail
    go_round
    case rel=>exact⟨j+1,by omega,by go_num,by rw[HE.out]⟩
    case measure=>simp[intOf]; omega
  ·have a:j=l.length:=by omega
   have b:=List.take_of_length_le (l:=l) (i:=l.length) (N3 _);have f:=Lib.hid a;have g:=Lib.hid b;clear a b;go_wp2_with fail
   go_ret
   exact⟨kA (by rw[f.out,g.out]),rfl⟩
def iS (l:AI):Array Value:=(bU l).toArray
theorem Bj (l:AI) (i:Nat):(iS l)[i]? = l[i]?.map fun b=>Value.int .u8 b.toNat:=by simp[iS,bU]
theorem Bk (l:AI) (i:Nat) (c:UInt8):(iS l).setIfInBounds i (.int .u8 c.toNat)=iS (l.set i c):=by
 simp[iS,bU]
theorem aH (n:Int) (k:Nat):(be n k).length=k:=by simp[be]
theorem CO (k:Nat) (hk:k<=140737488355328) (w:World):(Instr.makeSlice 72 (.int .i64 k) (.int .i64 k)).run Tryz.prog w =
 .ok (.slice (some ⟨w.heap.size,0,none⟩) k k) (w.alloc (.cells (iS (List.replicate k 0)) 5)):=by
 obtain⟨i,hi,hzz⟩:=Option.map_eq_some_iff.1 sO;simp only[Prod.mk.injEq] at hzz;rw[run_make w 72 5 i (.int .u8 0) Tryz.underlying72 hi hzz.1 .i64 .i64 k k QR QR (by rw[hzz.2.2]; omega) QR];have e:madeCells (Value.int .u8 0).cells ((k:Int).toNat*i.size)=iS (List.replicate k 0):=by
  rw[hzz.2.1];simp[madeCells,iS,bU,Value.cells];apply Array.ext
  ·simp
  ·intro j a b;simp[Nat.mod_one]
 rw[e];rfl
theorem Js (n:Int) (k m:Nat) (h:m<k):(be n k).drop m=UInt8.ofNat ((n / (2 ^ (8*(k - 1 - m)):Int)) % 256).toNat::(be n k).drop (m+1):=by
 rw[List.drop_eq_getElem_cons (by simpa [be] using h)];simp[be]
theorem GL (n:Int) (a:Nat):n / 2 ^ (8*a) / 256=n / (2 ^ (8*(a+1)):Int):=by
 have hp:(0:Int)<2 ^ (8*a):=Int.pow_pos QS;rw[show 8*(a+1)=8*a+8 by omega,Int.pow_add,<- Int.ediv_ediv_of_nonneg (Int.le_of_lt hp)];rfl
theorem Jt (q:Int):(q.tmod 256=q % 256/\0<=q.tmod 256)\/(q.tmod 256=q % 256 - 256/\q.tmod 256<0):=by
 rw[Int.tmod_eq_emod];split
 ·left; omega
 ·rename_i h;right;have: ¬ (256 ∣ q):=fun hd=>h (.inr hd);omega
theorem Ju (q:Int):(q - q % 256).tdiv 256=q / 256:=by
 have e:q - q % 256=q / 256*256:=by omega
 rw[e,Int.mul_tdiv_cancel _ QS]
theorem Jv (n:Int) (a:Nat) (b: -9223372036854775808<=n) (c:n<=9223372036854775807): -9223372036854775808<=n / 2 ^ a/\n / 2 ^ a<=9223372036854775807:=by
 have hp:(0:Int)<2 ^ a:=Int.pow_pos QS;generalize (2 ^ a:Int)=p at *;constructor
 ·rcases Int.lt_or_le n 0 with h | h
  ·have:n<=n / p:=by
    rw[Int.le_ediv_iff_mul_le hp];have:n*p<=n*1:=Int.mul_le_mul_of_nonpos_left QR QR;omega
   omega
  ·have:=Int.ediv_nonneg h (Int.le_of_lt hp);omega
 ·rcases Int.lt_or_le n 0 with h | h
  ·have:=Int.ediv_neg_of_neg_of_pos h hp;omega
  ·have:=Int.ediv_le_self p h;omega
theorem vi {w wr:World} {g k m:Nat} {n q d:Int} (hm:m+1<=k) (hs:St (fun _=>False) w [aV g 5 (iS (List.replicate (m+1) 0++(be n k).drop (m+1)))] wr)
 (hd:(be n k).drop m=UInt8.ofNat ((n / (2 ^ (8*(k - 1 - m)):Int)) % 256).toNat::(be n k).drop (m+1)) (hq:q=n / 2 ^ (8*(k - 1 - m))) (he:d=q % 256) :
 St (fun _=>False) w [aV g 5 (iS (List.replicate m 0++(be n k).drop m))] (wr.setCell ⟨g,m,none⟩ (.int .u8 d)):=by
 have h:=hs.set 0 rfl m (.int .u8 d);have e:(.int .u8 d:Value)= .int .u8 (UInt8.ofNat (q % 256).toNat).toNat:=by
  congr 1;simp[UInt8.toNat_ofNat'];omega
 have a:(List.replicate (m+1) (0:UInt8)++(be n k).drop (m+1)).set m (UInt8.ofNat (q % 256).toNat)=List.replicate m 0++(be n k).drop m:=by
  rw[hd,<- hq,List.replicate_succ',Ny,List.set_append_right _ _ (by simp)];simp
 rw[e,Bk,a,<- e] at h;exact h
theorem CP (n:Int) (k:Nat) (a: -9223372036854775808<=n) (b:n<=9223372036854775807) (hk:k<=8) :
 mv Tryz.prog 63 #[.int .i64 n,.int .i64 k] (fun v N=>v= .string (aY (be n k))/\N = []):=by
 intro w;have hmk:=CO k QR;go_enter Tryz.func63,Tryz.ntmps63
 go_wp2_with fail
 have HW:=Lib.hid ((L4 w).alloc (iS (List.replicate k 0)) 5);clear hmk
 go_loopw [0,6] (fun q i wr=> ∃ j:Nat,j<=k/\i= .int .i64 ((j:Int) - 1)/\q= .int .i64 (n / 2 ^ (8*(k - j)))/\St (fun _=>False) w [aV w.heap.size 5 (iS (List.replicate j 0++(be n k).drop j))] wr) (fun _ i _=>(intOf i+1).toNat)
 case atStart=>exact⟨k,by omega,rfl,by simp,by
  have e:(be n k).drop k = []:=List.drop_of_length_le (by simp[be]);rw[e,NQ];exact HW.out⟩
 case round =>
  obtain⟨j,hj,rfl,rfl,hst⟩:=hrel;have hr:=Jv n (8*(k - j)) a b
  cases j with
  | zero =>
   have hs:=hst.blk 0 rfl;have HS:=Lib.hid hst;clear hst hr;have hrow:wr.ownsRow 0 5 1 (.slice (some ⟨w.heap.size,0,none⟩) k k) k (bU (be n k)):=by
    refine⟨by simp[bU,be],.inr ⟨w.heap.size,k,_,rfl,NH _,hs,N3 _,by simp[maxLen]; omega,?_,?_⟩⟩
    ·simp[iS,bU,be]
    ·simp only[iS,List.replicate_zero,NG,List.drop_zero,Nat.mul_one];exact List.take_of_length_le (by simp[bU,be])
   have hc:=wC (P:=Tryz.prog) wr (src:=72) (dst:=9) Tryz.underlying72 Tryz.underlying5 Tryz.underlying9 hrow;have HR:=Lib.hid hrow;clear hrow hs;go_wp2_with fail
   go_ret
   exact⟨_,_,rfl,⟨rfl,rfl⟩,HS.out.drop_⟩
  | succ m =>
   rw[show ((m+1:Nat):Int) - 1=m by omega];have hs:=hst.blk 0 rfl;have hcell:wr.cell? ⟨w.heap.size,m,none⟩=some (.int .u8 0):=by
    rw[bm hs m,Bj,List.getElem?_append_left (by simp)];simp
   have hfree:wr.frozen? ⟨w.heap.size,m,none⟩=false:=cg hs m;have HN:=Lib.hid (GL n (k - (m+1)));have HQ:=Lib.hid (show n / 2 ^ (8*(k - (m+1)))=n / 2 ^ (8*(k - 1 - m)) by rw[show k - (m+1)=k - 1 - m by omega]);have HS:=Lib.hid hst;clear hst hs;have hr1:=hr.1;have hr2:=hr.2;clear hr;have HD:=Lib.hid (Js n k m QR);generalize hq:n / 2 ^ (8*(k - (m+1)))=q at *;clear hq;have hd:=Ju q;rcases Jt q with⟨hm,hneg⟩ | ⟨hm,hneg⟩
   ·have hb1:q.tmod 256<256:=by omega
    have hb2: -9223372036854775808<=q - q.tmod 256:=by omega
    have hb3:q - q.tmod 256<=9223372036854775807:=by omega
    have HM:=Lib.hid hm;have HDV:=Lib.hid hd;clear hm hd;go_wp2_with fail
    go_roundw
    case rel =>
     refine⟨m,by omega,rfl,?_,vi hj HS.out HD.out HQ.out HM.out⟩;rw[HM.out,HDV.out,HN.out,show k - (m+1)+1=k - m by omega]
    case measure=>simp[intOf]
   ·have hb1: -256<=q.tmod 256:=by omega
    have hb2: -9223372036854775808<=q - (q.tmod 256+256):=by omega
    have hb3:q - (q.tmod 256+256)<=9223372036854775807:=by omega
    have HM:=Lib.hid (show q.tmod 256+256=q % 256 by omega);have HDV:=Lib.hid hd;clear hm hd;go_wp2_with fail
    go_roundw
    case rel =>
     refine⟨m,by omega,rfl,?_,vi hj HS.out HD.out HQ.out HM.out⟩;rw[HM.out,HDV.out,HN.out,show k - (m+1)+1=k - m by omega]
    case measure=>simp[intOf]
theorem Ei (n:Int) (k j:Nat) (h:j<k):(be n k).take (j+1)=(be n k).take j ++ [UInt8.ofNat ((n / (2 ^ (8*(k - 1 - j)):Int)) % 256).toNat]:=by
 rw[List.take_succ_eq_append_getElem (by simpa [be] using h)];simp[be]
theorem Bm (n:Int) (k:Nat) (a:1<=k) (b:k<=8):bA n k=true ↔ -(2 ^ (8*k - 1):Int)<=n/\n<(2 ^ (8*k - 1):Int):=by
 simp[bA];generalize (2 ^ (8*k - 1):Int)=z;omega
theorem Bn (q:Int):((UInt8.ofNat (q % 256).toNat).toNat:Int)=q % 256:=by
 simp[UInt8.toNat_ofNat'];omega
theorem Fz (n:Int) (k:Nat) (a:k<=8) (hf:bA n k=true): ∀ j:Nat,j+1<=k->bC ((be n k).take (j+1))=n / 2 ^ (8*(k - 1 - j)):=by
 intro j
 induction j with
 | zero =>
  intro h;have hb:=(Bm n k QR a).1 hf;rw[Ei n k 0 QR];have b:(2 ^ (8*k - 1):Int)=128*2 ^ (8*(k - 1 - 0)):=by
   rw[show 8*k - 1=7+8*(k - 1 - 0) by omega,Int.pow_add];rfl
  rw[b] at hb;have hp:(0:Int)<2 ^ (8*(k - 1 - 0)):=Int.pow_pos QS;have hl: -128<=n / 2 ^ (8*(k - 1 - 0)):=by
   rw[Int.le_ediv_iff_mul_le hp]; omega
  have hu:n / 2 ^ (8*(k - 1 - 0))<128:=by
   rw[Int.ediv_lt_iff_lt_mul hp]; omega
  generalize n / 2 ^ (8*(k - 1 - 0))=q at *;have hv:=Bn q;generalize (UInt8.ofNat (q % 256).toNat)=c at *;simp[bC,sgn];split <;> omega
 | succ j ih =>
  intro h;have d:=ih QR;rw[Ei n k (j+1) QR,sb _ _ (rP (by simp[be]; omega) QR),d,Bn];have e:=GL n (k - 1 - (j+1));rw[show k - 1 - (j+1)+1=k - 1 - j by omega] at e;omega
theorem Bo (n:Int) (k:Nat) (b:1<=k) (a:k<=8) (hf:bA n k=true):bC (be n k)=n:=by
 have h:=Fz n k a hf (k - 1) QR;rw[show k - 1+1=k by omega,List.take_of_length_le (by simp[be])] at h;rw[h,show k - 1 - (k - 1)=0 by omega];simp
theorem Jw (n:Int) (k:Nat) (a:1<=k) (b:k<=8):(bC (be n k)=n)↔bA n k=true:=by
 constructor
 ·intro h;rw[Bm n k a b,<- h];have:=qz (be n k) (by intro he; have:=congrArg List.length he; simp[be] at this; omega);rw[aH] at this;rw[h] at this ⊢;exact this
 ·exact Bo n k a b
def Exit.jumps (J:Nat->Act->World->Prop) (Q:Exit->Act->World->Prop):Exit->Act->World->Prop
 | .goto l,a,w=>J l a w
 | e,a,w=>Q e a w
section
variable {J:Nat->Act->World->Prop} {Q:Exit->Act->World->Prop} {a:Act} {w:World}
end
section
variable {P:Program} {a:Act} {w:World} {Q:Exit->Act->World->Prop}
theorem vJ {c:Code} (J:Nat->Act->World->Prop) (μ:Nat->Act->World->Nat)
 (pass: ∀ l a w,J l a w-> ∃ rest,findLabel c l=some (Code.skip.seq rest)/\rest.wp P (Exit.jumps (fun l' a' w'=>J l' a' w'/\μ l' a' w'<μ l a w) Q) a w)
 (first:(∀ l rest a w,findLabel c l=some (Code.skip.seq rest)->J l a w->rest.wp P (Exit.jumps J Q) a w)->c.wp P (Exit.jumps J Q) a w):(Code.scope c).wp P Q a w:=by
 intro b k cs;have hg: ∀ l rest,findLabel c l=some rest->gotoIn l (.inScope c::k)=some (.code rest :: .inScope c::k):=fun l rest hf=>by simp[gotoIn,hf]
 have key: ∀ n l rest a w,findLabel c l=some (Code.skip.seq rest)->μ l a w=n->J l a w-> ∃ e a' w',Q e a' w'/\Arrives P (lone (b.at a (.code (Code.skip.seq rest) :: .inScope c::k)) cs w) b k cs e a' w':=by
  intro n
  induction n using Nat.strongRecOn with
  | _ n ih =>
   intro l rest a w hf hn hJ;obtain⟨rest',hf',hp⟩:=pass l a w hJ;rw[hf] at hf';injection hf' with hf';injection hf' with _ hf';subst hf';obtain⟨e,a₁,w₁,hq,harr⟩:=wp_seq (wp_skip (Q:=Exit.then _ _) hp) b (.inScope c::k) cs
   cases e with
   | normal=>exact⟨.normal,a₁,w₁,hq,Steps.trans harr (.one step_inScope)⟩
   | exit id=>exact⟨.exit id,a₁,w₁,hq,fun k' hk=>harr k' (by simp[exitTo,hk])⟩
   | goto l' =>
    obtain⟨hJ',hlt⟩:=hq;obtain⟨rest₂,hf₂,_⟩:=pass l' a₁ w₁ hJ';obtain⟨e₂,a₂,w₂,hq₂,harr₂⟩:=ih _ QR l' rest₂ a₁ w₁ hf₂ rfl hJ';exact⟨e₂,a₂,w₂,hq₂,.of_steps (harr _ (hg _ _ hf₂)) harr₂⟩
   | ret=>exact⟨_,a₁,w₁,hq,harr⟩
   | panic ch=>exact⟨_,a₁,w₁,hq,harr⟩
   | outgrown=>exact⟨_,a₁,w₁,hq,harr⟩
 obtain⟨e,a₁,w₁,hq,harr⟩:=first (fun l rest a w hf hJ=>by
  obtain⟨rest',hf',hp⟩:=pass l a w hJ;rw[hf] at hf';injection hf' with hf';injection hf' with _ hf';subst hf';refine wp_mono hp ?_;intro e a' w' h;cases e <;> first | exact h | exact h.1) b (.inScope c::k) cs
 cases e with
 | normal=>exact⟨.normal,a₁,w₁,hq,.head step_scope (Steps.trans harr (.one step_inScope))⟩
 | exit id=>exact⟨.exit id,a₁,w₁,hq,fun k' hk=> .head step_scope (harr k' (by simp[exitTo,hk]))⟩
 | goto l' =>
  obtain⟨rest₂,hf₂,_⟩:=pass l' a₁ w₁ hq;obtain⟨e₂,a₂,w₂,hq₂,harr₂⟩:=key _ l' rest₂ a₁ w₁ hf₂ rfl hq;exact⟨e₂,a₂,w₂,hq₂,.of_steps (.head step_scope (harr _ (hg _ _ hf₂))) harr₂⟩
 | ret=>exact⟨_,a₁,w₁,hq,.of_steps (.one step_scope) harr⟩
 | panic ch=>exact⟨_,a₁,w₁,hq,.of_steps (.one step_scope) harr⟩
 | outgrown=>exact⟨_,a₁,w₁,hq,.of_steps (.one step_scope) harr⟩
end
def du (n:Nat):AI:=if n<128 then [UInt8.ofNat n] else UInt8.ofNat (n % 128+128)::du (n / 128)
termination_by n
decreasing_by omega
def bE (n:Int):Nat:=if n<0 then (-(n+1)).toNat*2+1 else n.toNat*2
def eS (n:Nat):Int:=if n % 2=1 then -((n / 2:Nat):Int) - 1 else ((n / 2:Nat):Int)
theorem Bp (k:Nat): ∀ n:Nat,n<128 ^ (k+1)->(du n).length<=k+1:=by
 induction k with
 | zero=>intro n h; rw[du,QX (by simpa using h)]; simp
 | succ k ih =>
  intro n h;rw[du];split
  ·simp
  ·have:=ih (n / 128) (by rw[Nat.div_lt_iff_lt_mul QS]; rwa [Nat.pow_succ] at h);simp; omega
theorem mT (n:Nat):1<=(du n).length:=by rw[du]; split <;> simp
theorem mU (n:Nat) (h:n<18446744073709551616):(du n).length<=10:=Bp 9 n QR
theorem kB (n:Int) (a: -9223372036854775808<=n) (b:n<=9223372036854775807):bE n<18446744073709551616:=by unfold bE; split <;> omega
theorem CS (n:Int):eS (bE n)=n:=by unfold eS bE; split <;> split <;> omega
theorem CU (n:Nat):bE (eS n)=n:=by unfold eS bE; split <;> split <;> omega
theorem Jx (n:Int) (c: -9223372036854775808<=n) (d:n<=9223372036854775807) :
 bits .xor .u64 (IntKind.u64.wrap (wrap64 (n*2))) (IntKind.u64.wrap (n / 9223372036854775808))=(bE n:Int):=by
 have b:IntKind.u64.wrap (wrap64 (n*2))=(n*2) % 18446744073709551616:=by rw[IntKind.wrap_u64]; unfold wrap64; omega
 rw[b];show IntKind.u64.wrap ((BitVec.ofInt 64 _ ^^^ BitVec.ofInt 64 _).toNat:Int)= _;rcases Int.lt_or_le n 0 with h | h
 ·have a:IntKind.u64.wrap (n / 9223372036854775808)=18446744073709551615:=by rw[IntKind.wrap_u64]; omega
  rw[a,show BitVec.ofInt 64 18446744073709551615=BitVec.allOnes 64 by decide,BitVec.xor_allOnes,BitVec.toNat_not,BitVec.toNat_ofInt,IntKind.wrap_u64];simp only[bE,QX h];omega
 ·have a:IntKind.u64.wrap (n / 9223372036854775808)=0:=by rw[IntKind.wrap_u64]; omega
  rw[a,show BitVec.ofInt 64 0=0#64 by decide,BitVec.xor_zero,BitVec.toNat_ofInt,IntKind.wrap_u64];simp only[bE,QY (show ¬ n<0 by omega)];omega
theorem Ej (n m:Nat) (hn:n<18446744073709551616) (hm:m<18446744073709551616):bits .and .u64 n m=((n &&& m:Nat):Int):=by
 show IntKind.u64.wrap ((BitVec.ofInt 64 _ &&& BitVec.ofInt 64 _).toNat:Int)= _;rw[BitVec.toNat_and,BitVec.toNat_ofInt,BitVec.toNat_ofInt,IntKind.wrap_u64];have a:((n:Int) % (2 ^ 64:Nat)).toNat=n:=by omega
 have b:((m:Int) % (2 ^ 64:Nat)).toNat=m:=by omega
 rw[a,b];have:n &&& m<=m:=Nat.and_le_right;omega
theorem FA (n:Nat) (hn:n<18446744073709551616):bits .and .u64 n 1=((n % 2:Nat):Int):=by
 have h:=Ej n 1 hn QS;rw[Nat.and_one_is_mod] at h;exact h
theorem Jy (n:Nat) (hn:n<18446744073709551616):bits .xor .i64 ((n:Int) / 2) (wrap64 (-wrap64 (bits .and .u64 n 1)))=eS n:=by
 rw[FA n hn];show IntKind.i64.wrap ((BitVec.ofInt 64 _ ^^^ BitVec.ofInt 64 _).toNat:Int)= _;rcases Nat.mod_two_eq_zero_or_one n with h | h
 ·rw[h];have a:wrap64 (-wrap64 ((0:Nat):Int))=0:=by unfold wrap64; omega
  rw[a,show BitVec.ofInt 64 0=0#64 by decide,BitVec.xor_zero,BitVec.toNat_ofInt,IntKind.wrap_i64];simp only[eS,h];simp;omega
 ·rw[h];have a:wrap64 (-wrap64 ((1:Nat):Int))= -1:=by unfold wrap64; omega
  rw[a,show BitVec.ofInt 64 (-1)=BitVec.allOnes 64 by decide,BitVec.xor_allOnes,BitVec.toNat_not,BitVec.toNat_ofInt,IntKind.wrap_i64];simp only[eS,h];simp;omega
theorem Jz: ∀ x:Fin 256,bits .or .u8 ((x.val:Nat):Int) 128=((x.val % 128+128:Nat):Int):=by decide
theorem or_128 (x:Nat) (h:x<256):bits .or .u8 (x:Int) 128=((x % 128+128:Nat):Int):=Jz ⟨x,h⟩
theorem yT (n:Int) (a: -9223372036854775808<=n) (b:n<=9223372036854775807) (w:World) :
 Calls Tryz.prog 216 #[.int .i64 n] w fun e w'=>e= .returned (.int .u64 (bE n))/\w=w':=by
 have H:=Lib.hid (Jx n a b);go_enter Tryz.func216,Tryz.ntmps216
 go_wp2_with fail
 go_ret
 exact⟨kA H.out,rfl⟩
theorem yU (n:Nat) (hn:n<18446744073709551616) (w:World) :
 Calls Tryz.prog 177 #[.int .u64 n] w fun e w'=>e= .returned (.int .i64 (eS n))/\w=w':=by
 have H:=Lib.hid (Jy n hn);go_enter Tryz.func177,Tryz.ntmps177
 go_wp2_with fail
 go_ret
 exact⟨kA H.out,rfl⟩
theorem yV (b:Nat) (st:AI×Int) (n:Nat) (hn:n<18446744073709551616) (hl:st.1.length+10<=140737488355328) :
 hN Tryz.prog 215 #[.pointer (some ⟨b,0,none⟩),.int .u64 n] (bz b st) (fun v A' N=>v= .tuple #[]/\A'=bz b (iW st (du n))/\N = []):=by
 intro F w hA;have HA:=Lib.hid (Lw F w (Sep.one hA));clear hA;have HT:=Lib.hid (mU n hn);go_enter Tryz.func215,Tryz.ntmps215
 go_wp2_with fail
 go_loopw [1] (fun i wr=> ∃ (m:Nat) (p:AI),m<=n/\p++du m=du n/\i= .int .u64 m/\St F w [bz b (iW st p)] wr) (fun i _=>(intOf i).toNat)
 case atStart=>exact⟨n,[],N3 _,rfl,rfl,by rw[Bh]; exact HA.out⟩
 case round =>
  obtain⟨m,p,hm,hp,rfl,hst⟩:=hrel;have hlen:(iW st p).1.length+1<=140737488355328:=by
   have g:=sP st p;have f:=HT.out;have h:=mT m;rw[<- hp,Nr] at f;omega
  have HS:=Lib.hid hst;clear hst;by_cases hlt:128<=m
  ·have ho:=or_128 (m % 256) QR;have c:(m:Int) % 256=((m % 256:Nat):Int):=by omega
   rw[<- c] at ho;have d:m % 256 % 128=m % 128:=by omega
   rw[d] at ho;have HO:=Lib.hid ho;have HP:=Lib.hid (show p ++ [UInt8.ofNat (m % 128+128)]++du (m / 128)=du n by rw[<- hp,du.eq_1 m,QY QR]; simp);clear hp ho c d;go_wp2_with fail
   rw[HO.out];refine (HS.out.call 0 rfl (po b _ ((m % 128+128:Nat):Int) QR QR hlen)).mono ?_;rintro e w1 ⟨v,A',N,rfl,⟨rfl,rfl,rfl⟩,a⟩;rw[tQ,NR] at a;have HS1:=Lib.hid a;clear a;go_wp2_with fail
   go_roundw
   case rel=>exact⟨m / 128,_,by omega,HP.out,by go_num,HS1.out⟩
   case measure=>simp[intOf]; omega
  ·have c:(m:Int) % 256=((m:Nat):Int):=by omega
   have HO:=Lib.hid c;have HP:=Lib.hid (show p ++ [UInt8.ofNat m]=du n by rw[<- hp,du.eq_1 m,QX QR]);clear hp c;go_wp2_with fail
   refine (HS.out.call 0 rfl (po b _ (m:Int) QR QR hlen)).mono ?_;rintro e w1 ⟨v,A',N,rfl,⟨rfl,rfl,rfl⟩,a⟩;rw[tQ,NR,HP.out] at a;have HS1:=Lib.hid a;clear a;go_wp2_with fail
   go_end0
   exact⟨_,_,_,rfl,⟨rfl,rfl,rfl⟩,HS1.out⟩
theorem yA (b:Nat) (st:AI×Int) (n:Int) (a: -9223372036854775808<=n) (c:n<=9223372036854775807) (hl:st.1.length+10<=140737488355328) :
 hN Tryz.prog 181 #[.pointer (some ⟨b,0,none⟩),.int .i64 n] (bz b st) (fun v A' N=>v= .tuple #[]/\A'=bz b (iW st (du (bE n)))/\N = []):=by
 intro F w hA;have HA:=Lib.hid (Lw F w (Sep.one hA));clear hA;go_enter Tryz.func181,Tryz.ntmps181
 go_wp2_with fail
 refine (yT n a c w).mono ?_;rintro e w' ⟨rfl,rfl⟩;go_wp2_with fail
 refine (HA.out.call 0 rfl (yV b _ (bE n) (kB n a c) hl)).mono ?_;rintro e w1 ⟨v,A',N,rfl,⟨rfl,rfl,rfl⟩,d⟩;have HS1:=Lib.hid d;clear d;go_wp2_with fail
 go_end0
 exact⟨_,_,_,rfl,⟨rfl,rfl,rfl⟩,HS1.out⟩
def jB (st:AI×Int) (n:Int):AI×Int:=if -2147483648<=n/\n<=2147483647 then iW st (du (bE n)) else lU st 11
theorem iO (n:Int):bA n 4=decide (-2147483648<=n/\n<=2147483647):=by
 have a:(2 ^ (8*(4:Int).toNat - 1):Int)=2147483648:=by decide
 unfold bA;rw[a,Bool.eq_iff_iff];simp
theorem sR (b:Nat) (st:AI×Int) (n:Int) (c: -9223372036854775808<=n) (d:n<=9223372036854775807) (hl:st.1.length+10<=140737488355328) :
 hN Tryz.prog 182 #[.pointer (some ⟨b,0,none⟩),.int .i64 n] (bz b st) (fun v A' N=>v= .tuple #[]/\A'=bz b (jB st n)/\N = []):=by
 intro F w hA;have HA:=Lib.hid (Lw F w (Sep.one hA));clear hA;by_cases hf: -2147483648<=n/\n<=2147483647
 ·have HF:=Lib.hid (show bA n 4=true by rw[iO]; simp[hf]);have HE:=Lib.hid (show jB st n=iW st (du (bE n)) by simp[jB,hf]);go_enter Tryz.func182,Tryz.ntmps182
  go_wp2_with fail
  refine (qy n 4 w c d).mono ?_;rintro e w' ⟨rfl,rfl⟩;rw[HF.out];go_wp2_with fail
  refine (yT n c d w).mono ?_;rintro e w' ⟨rfl,rfl⟩;go_wp2_with fail
  refine (HA.out.call 0 rfl (yV b _ (bE n) (kB n c d) hl)).mono ?_;rintro e w1 ⟨v,A',N,rfl,⟨rfl,rfl,rfl⟩,a⟩;have HS1:=Lib.hid a;clear a;go_wp2_with fail
  go_end0
  exact⟨_,_,_,rfl,⟨rfl,by rw[HE.out],rfl⟩,HS1.out⟩
 ·have HF:=Lib.hid (show bA n 4=false by rw[iO]; simp; omega);have HE:=Lib.hid (show jB st n=lU st 11 by simp[jB,hf]);clear hf;go_enter Tryz.func182,Tryz.ntmps182
  go_wp2_with fail
  refine (qy n 4 w c d).mono ?_;rintro e w' ⟨rfl,rfl⟩;rw[HF.out];go_wp2_with fail
  refine (HA.out.call 0 rfl (rk b st 11)).mono ?_;rintro e w1 ⟨v,A',N,rfl,⟨rfl,rfl,rfl⟩,a⟩;have HS1:=Lib.hid a;clear a;go_wp2_with fail
  go_end0
  exact⟨_,_,_,rfl,⟨rfl,by rw[HE.out],rfl⟩,HS1.out⟩
def vgo (bits:Int):AI->Nat->Nat->Nat->Nat×I
 | [],pos,acc,i=>(0,⟨[],pos,1⟩)
 | c::l,pos,acc,i =>
  if bits - 7*i<=0\/(bits - 7*i<7/\c.toNat % 128 / 2 ^ (bits - 7*i).toNat≠0) then (0,⟨l,pos+1,3⟩)
  else if 128<=c.toNat then vgo bits l (pos+1) (acc+c.toNat % 128*2 ^ (7*i)) (i+1)
  else if c.toNat=0/\0<i then (0,⟨l,pos+1,3⟩)
  else (acc+c.toNat % 128*2 ^ (7*i),⟨l,pos+1,0⟩)
def fm (bits:Int) (st:I):Nat×I:=if st.err≠0 then (0,st) else vgo bits st.rest st.pos 0 0
theorem FB (c:UInt8) (l:AI) (pos:Nat):cD ⟨c::l,pos,0⟩ 1=([c],⟨l,pos+1,0⟩):=by
 unfold cD;rw[QY (by simp),QY QR,QY (by simp only[NB]; omega)];simp
theorem CV (pos:Nat):cD ⟨[],pos,0⟩ 1=([],⟨[],pos,1⟩):=by
 unfold cD;rw[QY (by simp),QY QR,QX (by simp)]
 done
theorem vj (d:Nat) (hd:d<256):bits .and .u64 d 127=((d % 128:Nat):Int):=by
 have h:=Ej d 127 QR QS;rw[Nat.and_two_pow_sub_one_eq_mod d 7] at h;exact h
theorem yW (k:Nat) {d:Nat} (hd:d<256):(bits .and .u64 d 127 / 2 ^ k != 0)=decide (d % 128 / 2 ^ k≠0):=by
 rw[vj d hd,show ((d % 128:Nat):Int) / 2 ^ k=((d % 128 / 2 ^ k:Nat):Int) by rw[Int.natCast_ediv,Int.natCast_pow]; rfl];generalize d % 128 / 2 ^ k=z;rw[Bool.eq_iff_iff];simp
theorem Ae: ∀ d:Fin 256,(bits .and .u64 ((d.val:Nat):Int) 128 != 0)=decide (128<=d.val):=by decide
theorem nM (d:Nat) (hd:d<256):(bits .and .u64 d 128 != 0)=decide (128<=d):=Ae ⟨d,hd⟩
theorem nN (bs:Int) (hb:bs=32\/bs=64) (acc x i:Nat) (hacc:acc<2 ^ (7*i)) (hl:0<bs - 7*i) (hx:x<128) (hd: ¬ (bs - 7*i<7/\x / 2 ^ (bs - 7*i).toNat≠0)) :
 acc+x*2 ^ (7*i)<2 ^ (7*(i+1))/\acc+x*2 ^ (7*i)<2 ^ bs.toNat:=by
 have a:2 ^ (7*(i+1))=128*2 ^ (7*i):=by rw[show 7*(i+1)=7+7*i by omega,Nat.pow_add]
 have b:2 ^ bs.toNat=2 ^ (bs - 7*i).toNat*2 ^ (7*i):=by rw[<- Nat.pow_add]; congr 1; omega
 have c:x<2 ^ (bs - 7*i).toNat:=by
  by_cases d:bs - 7*i<7
  ·have e:x / 2 ^ (bs - 7*i).toNat=0:=by
    rcases Nat.eq_zero_or_pos (x / 2 ^ (bs - 7*i).toNat) with h | h
    ·exact h
    ·exact absurd ⟨d,by omega⟩ hd
   exact (Nat.div_eq_zero_iff.1 e).resolve_left (by have:=Nat.two_pow_pos (bs - 7*i).toNat; omega)
  ·have:2 ^ 7<=2 ^ (bs - 7*i).toNat:=Nat.pow_le_pow_right QS QR;omega
 have f:(x+1)*2 ^ (7*i)<=2 ^ (bs - 7*i).toNat*2 ^ (7*i):=Nat.mul_le_mul_right _ c;have g:(x+1)*2 ^ (7*i)<=128*2 ^ (7*i):=Nat.mul_le_mul_right _ hx;rw[Nat.add_mul] at f g;rw[a,b];omega
theorem Ek (bs:Int) (hb:bs=32\/bs=64) (acc d i:Nat) (hacc:acc<2 ^ (7*i)) (hdd:d<256) (hl:0<bs - 7*i) (hd: ¬ (bs - 7*i<7/\d % 128 / 2 ^ (bs - 7*i).toNat≠0)) :
 bits .or .u64 acc (IntKind.u64.wrap (bits .and .u64 d 127*2 ^ (7*i)))=((acc+d % 128*2 ^ (7*i):Nat):Int):=by
 obtain⟨_,g⟩:=nN bs hb acc (d % 128) i hacc hl QR hd;have h:2 ^ bs.toNat<=18446744073709551616:=by rcases hb with rfl | rfl <;> decide
 have hlt:acc+d % 128*2 ^ (7*i)<18446744073709551616:=by omega
 rw[vj d hdd];have b:((d % 128:Nat):Int)*2 ^ (7*i)=((d % 128*2 ^ (7*i):Nat):Int):=by rw[Int.natCast_mul,Int.natCast_pow]; rfl
 have a:=Nat.two_pow_add_eq_or_of_lt hacc (d % 128);rw[Nat.mul_comm] at a;rw[b];generalize d % 128*2 ^ (7*i)=y at *;have c:IntKind.u64.wrap (y:Int)=y:=by rw[IntKind.wrap_u64]; omega
 rw[c];show IntKind.u64.wrap ((BitVec.ofInt 64 _ ||| BitVec.ofInt 64 _).toNat:Int)= _;rw[BitVec.toNat_or,BitVec.toNat_ofInt,BitVec.toNat_ofInt];have e:((acc:Int) % (2 ^ 64:Nat)).toNat=acc:=by omega
 have f:((y:Int) % (2 ^ 64:Nat)).toNat=y:=by omega
 rw[e,f,Nat.or_comm,<- a,IntKind.wrap_u64];omega
attribute [local go_sem] fB bsOf_size
theorem GM (b:Nat) (st:I) (bs:Int) (c:st.err≠0) :
 hN Tryz.prog 178 #[.pointer (some ⟨b,0,none⟩),.int .i64 bs] (InR b st) (fun v A' N=>v= .int .u64 0/\A'=InR b st/\N = []):=by
 intro F w hA;have HA:=Lib.hid (Lw F w (Sep.one hA));clear hA;have HT:=Lib.hid (show cD st 1=([],st) by simp[cD,c]);go_enter Tryz.func178,Tryz.ntmps178
 go_wp2_with fail
 go_step3
 go_wp2_with fail
 go_step3
 go_wp2_with fail
 refine (HA.out.call 0 rfl (eL b st 1 QR QR)).mono ?_;rintro e w1 ⟨v,A',N,rfl,⟨rfl,rfl,rfl⟩,a⟩;rw[HT.out] at a ⊢;have HS1:=Lib.hid a;clear a;go_wp2_with fail
 go_ret
 exact⟨_,_,_,rfl,⟨rfl,rfl,rfl⟩,HS1.out⟩
def VJ (F:Nat->Prop) (w:World) (b:Nat) (bs:Int) (res:Nat×I) (lab:Nat) (a':Act) (w':World):Prop :=
 (lab=0/\ ∃ (a:AI) (pos1 acc i:Nat),St F w [InR b ⟨a,pos1,0⟩] w'/\acc<2 ^ (7*i)/\7*i<bs+7/\vgo bs a pos1 acc i=res /\
  ∃ Y u8 u9 c d e f g h u16 j k l m n o p q r s t u v x y u32 z A B C D E G H J K L M N O P Q R S T U V W X,a' = { tmps:= #[.pointer (some ⟨b,0,none⟩),.int .i64 bs,undef,undef,.int .u64 0,.int .u64 acc,.int .i64 (7*i),Y,u8,u9,c,d,e,f,g,h,u16,j,k,l,m,n,o,p,q,r,s,t,u,v,x,y,u32,z,A,B,C,D,E,G,H,J,K,L,M,N,O,P,Q,R,S,T,U,V,W,X],defers := [] }) \/
 (lab=1/\ ∃ (a:AI) (pos1:Nat),St F w [InR b ⟨a,pos1,0⟩] w'/\(0,⟨a,pos1,3⟩)=res /\
  ∃ u5 u6 Y u8 u9 c d e f g h u16 j k l m n o p q r s t u v x y u32 z A B C D E G H J K L M N O P Q R S T U V W X,a' = { tmps:= #[.pointer (some ⟨b,0,none⟩),.int .i64 bs,undef,undef,.int .u64 0,u5,u6,Y,u8,u9,c,d,e,f,g,h,u16,j,k,l,m,n,o,p,q,r,s,t,u,v,x,y,u32,z,A,B,C,D,E,G,H,J,K,L,M,N,O,P,Q,R,S,T,U,V,W,X],defers := [] })
def VM (lab:Nat) (a':Act) (_:World):Nat:=if lab=1 then 0 else 100 - (intOf (a'.tmps.getD 6 undef)).toNat
theorem Uns_go (b:Nat) (l:AI) (pos:Nat) (bs:Int) (hb:bs=32\/bs=64) :
 hN Tryz.prog 178 #[.pointer (some ⟨b,0,none⟩),.int .i64 bs] (InR b ⟨l,pos,0⟩) (fun v A' N=>v= .int .u64 (vgo bs l pos 0 0).1/\A'=InR b (vgo bs l pos 0 0).2/\N = []):=by
 intro F w hA;have HA:=Lib.hid (Lw F w (Sep.one hA));clear hA;generalize hres:vgo bs l pos 0 0=res;go_enter Tryz.func178,Tryz.ntmps178
 go_wp2_with fail
 refine vJ (VJ F w b bs res) VM ?_ ?_
 ·rintro lab a' w1 (⟨rfl,m,pos1,acc,i,hst,hacc,hi,hg,u7,u8,u9,n,o,p,q,r,s,u16,t,u,x,y,z,A,B,C,D,E,G,H,I,J,K,u32,L,M,O,P,Q,R,S,T,U,V,W,X,Y,aa,ab,ad,ae,af,ag,ah,ai,aj,ak,rfl⟩ | ⟨rfl,m,pos1,hst,hg,u5,u6,u7,u8,u9,n,o,p,q,r,s,u16,t,u,x,y,z,A,B,C,D,E,G,H,I,J,K,u32,L,M,O,P,Q,R,S,T,U,V,W,X,Y,aa,ab,ad,ae,af,ag,ah,ai,aj,ak,rfl⟩)
  ·refine⟨_,rfl,?_⟩;have HS:=Lib.hid hst;have HG:=Lib.hid hg;have HACC:=Lib.hid hacc;have hb1:bs<=64:=by omega
   clear hst hg hacc
   cases m with
   | nil =>
    have HT:=Lib.hid (CV pos1);go_wp2_with fail
    refine (HS.out.call 0 rfl (eL b _ 1 QR QR)).mono ?_;rintro e j ⟨v,A',N,rfl,⟨rfl,rfl,rfl⟩,a⟩;rw[HT.out] at a ⊢;have HS1:=Lib.hid a;clear a;go_wp2_with fail
    go_ret
    exact⟨_,_,_,rfl,⟨by rw[<- HG.out]; rfl,by rw[<- HG.out]; rfl,rfl⟩,HS1.out⟩
   | cons c g =>
    have HT:=Lib.hid (FB c g pos1);have hsz:=bsOf_size [c];have h0:=qA [c] 0 (by simp[bsOf_size]);simp only[List.getElem_cons_zero] at h0;have hc:c.toNat<256:=c.toNat_lt;by_cases hl:bs - 7*i<=0
    ·have HV:=Lib.hid (show (0,⟨g,pos1+1,3⟩)=res by rw[<- HG.out,vgo,QX (by first | exact .inl hl | exact .inr ⟨by omega,hq⟩)]);by_cases hz:(bits .and .u64 c.toNat 127 != 0)=true
     ·go_wp2_with fail
      refine (HS.out.call 0 rfl (eL b _ 1 QR QR)).mono ?_;rintro e j ⟨v,A',N,rfl,⟨rfl,rfl,rfl⟩,a⟩;rw[HT.out] at a ⊢;have HS1:=Lib.hid a;clear a;go_wp2_with fail
      go_step3
      exact⟨.inr ⟨rfl,g,pos1+1,HS1.out,HV.out,_,_,_,_,_,_,_,_,_,_,_,_,_,_,_,_,_,_,_,_,_,_,_,_,_,_,_,_,_,_,_,_,_,_,_,_,_,_,_,_,_,_,_,_,_,_,_,_,_,_,_,rfl⟩,by simp[VM,intOf]; omega⟩
     ·have hz':(bits .and .u64 c.toNat 127 != 0)=false:=by simpa using hz
      go_wp2_with fail
      refine (HS.out.call 0 rfl (eL b _ 1 QR QR)).mono ?_;rintro e j ⟨v,A',N,rfl,⟨rfl,rfl,rfl⟩,a⟩;rw[HT.out] at a ⊢;have HS1:=Lib.hid a;clear a;go_wp2_with fail
      go_step3
      exact⟨.inr ⟨rfl,g,pos1+1,HS1.out,HV.out,_,_,_,_,_,_,_,_,_,_,_,_,_,_,_,_,_,_,_,_,_,_,_,_,_,_,_,_,_,_,_,_,_,_,_,_,_,_,_,_,_,_,_,_,_,_,_,_,_,_,_,rfl⟩,by simp[VM,intOf]; omega⟩
    ·have hl':0<bs - 7*i:=by omega
     by_cases am:7<=bs - 7*i
     ·have HD:=Lib.hid (show ¬ (bs - 7*i<7/\c.toNat % 128 / 2 ^ (bs - 7*i).toNat≠0) by omega);have HA2:=Lib.hid (Ek bs hb acc c.toNat i HACC.out QR hl' HD.out);have HLT:=Lib.hid (nN bs hb acc (c.toNat % 128) i HACC.out hl' QR HD.out);have HN:=Lib.hid (show ¬ (bs - 7*i<=0\/(bs - 7*i<7/\c.toNat % 128 / 2 ^ (bs - 7*i).toNat≠0)) from fun h=>h.elim (fun h=>by omega) HD.out);by_cases d:128<=c.toNat
      ·have HV:=Lib.hid (show vgo bs g (pos1+1) (acc+c.toNat % 128*2 ^ (7*i)) (i+1)=res by rw[<- HG.out,vgo,QY HN.out,QX d]);have hbt:(bits .and .u64 c.toNat 128 != 0)=true:=by rw[nM _ hc]; simpa using d
       go_wp2_with fail
       refine (HS.out.call 0 rfl (eL b _ 1 QR QR)).mono ?_;rintro e j ⟨v,A',N,rfl,⟨rfl,rfl,rfl⟩,a⟩;rw[HT.out] at a ⊢;have HS1:=Lib.hid a;clear a;go_wp2_with fail
       go_step3
       rw[HA2.out,show (7*(i:Int)+7)=7*((i+1:Nat):Int) by omega];exact⟨.inl ⟨rfl,g,pos1+1,_,i+1,HS1.out,HLT.out.1,by omega,HV.out,_,_,_,_,_,_,_,_,_,_,_,_,_,_,_,_,_,_,_,_,_,_,_,_,_,_,_,_,_,_,_,_,_,_,_,_,_,_,_,_,_,_,_,_,_,_,_,_,_,rfl⟩,by simp[VM,intOf]; omega⟩
      ·have hbt:(bits .and .u64 c.toNat 128 != 0)=false:=by rw[nM _ hc]; simpa using d
       by_cases hz:c.toNat=0/\0<i
       ·have HV:=Lib.hid (show (0,⟨g,pos1+1,3⟩)=res by rw[<- HG.out,vgo,QY HN.out,QY d,QX hz]);obtain⟨f,al⟩:=hz;have k:((c.toNat:Int) == 0)=true:=by simp[f]
        try (have hq0:(bits .and .u64 0 127 / 2 ^ (bs - 7*i).toNat != 0)=false:=by (rw[<- hqb,f]; rfl))
        have hi0:0<7*(i:Int):=by omega
        go_wp2_with fail
        refine (HS.out.call 0 rfl (eL b _ 1 QR QR)).mono ?_;rintro e j ⟨v,A',N,rfl,⟨rfl,rfl,rfl⟩,a⟩;rw[HT.out] at a ⊢;have HS1:=Lib.hid a;clear a;go_wp2_with fail
        go_step3
        exact⟨.inr ⟨rfl,g,pos1+1,HS1.out,HV.out,_,_,_,_,_,_,_,_,_,_,_,_,_,_,_,_,_,_,_,_,_,_,_,_,_,_,_,_,_,_,_,_,_,_,_,_,_,_,_,_,_,_,_,_,_,_,_,_,_,_,_,rfl⟩,by simp[VM,intOf]; omega⟩
       ·have HV:=Lib.hid (show (acc+c.toNat % 128*2 ^ (7*i),⟨g,pos1+1,0⟩)=res by rw[<- HG.out,vgo,QY HN.out,QY d,QY hz]);by_cases f:c.toNat=0
        ·have k:((c.toNat:Int) == 0)=true:=by simp[f]
         try (have hq0:(bits .and .u64 0 127 / 2 ^ (bs - 7*i).toNat != 0)=false:=by (rw[<- hqb,f]; rfl))
         have HA3:=Lib.hid (show bits .or .u64 acc (IntKind.u64.wrap (bits .and .u64 0 127*2 ^ (7*i)))=((acc+c.toNat % 128*2 ^ (7*i):Nat):Int) by rw[<- HA2.out,f]; rfl);have hi0: ¬ (0<7*(i:Int)):=by omega
         go_wp2_with fail
         refine (HS.out.call 0 rfl (eL b _ 1 QR QR)).mono ?_;rintro e j ⟨v,A',N,rfl,⟨rfl,rfl,rfl⟩,a⟩;rw[HT.out] at a ⊢;have HS1:=Lib.hid a;clear a;go_wp2_with fail
         all_goals
          go_ret
          exact⟨_,_,_,rfl,⟨by rw[<- HV.out]; exact congrArg (Value.int IntKind.u64) HA3.out,by rw[<- HV.out],rfl⟩,HS1.out⟩
        ·have k:((c.toNat:Int) == 0)=false:=by simp; omega
         go_wp2_with fail
         refine (HS.out.call 0 rfl (eL b _ 1 QR QR)).mono ?_;rintro e j ⟨v,A',N,rfl,⟨rfl,rfl,rfl⟩,a⟩;rw[HT.out] at a ⊢;have HS1:=Lib.hid a;clear a;go_wp2_with fail
         go_ret
         exact⟨_,_,_,rfl,⟨by rw[<- HV.out]; exact congrArg (Value.int IntKind.u64) HA2.out,by rw[<- HV.out],rfl⟩,HS1.out⟩
     ·by_cases hq:c.toNat % 128 / 2 ^ (bs - 7*i).toNat≠0
      ·have HV:=Lib.hid (show (0,⟨g,pos1+1,3⟩)=res by rw[<- HG.out,vgo,QX (by first | exact .inl hl | exact .inr ⟨by omega,hq⟩)]);have hqb:(bits .and .u64 c.toNat 127 / 2 ^ (bs - 7*i).toNat != 0)=true:=by rw[yW _ hc]; simpa using hq
       go_wp2_with fail
       refine (HS.out.call 0 rfl (eL b _ 1 QR QR)).mono ?_;rintro e j ⟨v,A',N,rfl,⟨rfl,rfl,rfl⟩,a⟩;rw[HT.out] at a ⊢;have HS1:=Lib.hid a;clear a;go_wp2_with fail
       go_step3
       exact⟨.inr ⟨rfl,g,pos1+1,HS1.out,HV.out,_,_,_,_,_,_,_,_,_,_,_,_,_,_,_,_,_,_,_,_,_,_,_,_,_,_,_,_,_,_,_,_,_,_,_,_,_,_,_,_,_,_,_,_,_,_,_,_,_,_,_,rfl⟩,by simp[VM,intOf]; omega⟩
      ·have hqb:(bits .and .u64 c.toNat 127 / 2 ^ (bs - 7*i).toNat != 0)=false:=by rw[yW _ hc]; simpa using hq
       have HD:=Lib.hid (show ¬ (bs - 7*i<7/\c.toNat % 128 / 2 ^ (bs - 7*i).toNat≠0) by omega);have HA2:=Lib.hid (Ek bs hb acc c.toNat i HACC.out QR hl' HD.out);have HLT:=Lib.hid (nN bs hb acc (c.toNat % 128) i HACC.out hl' QR HD.out);have HN:=Lib.hid (show ¬ (bs - 7*i<=0\/(bs - 7*i<7/\c.toNat % 128 / 2 ^ (bs - 7*i).toNat≠0)) from fun h=>h.elim (fun h=>by omega) HD.out);by_cases d:128<=c.toNat
       ·have HV:=Lib.hid (show vgo bs g (pos1+1) (acc+c.toNat % 128*2 ^ (7*i)) (i+1)=res by rw[<- HG.out,vgo,QY HN.out,QX d]);have hbt:(bits .and .u64 c.toNat 128 != 0)=true:=by rw[nM _ hc]; simpa using d
        go_wp2_with fail
        refine (HS.out.call 0 rfl (eL b _ 1 QR QR)).mono ?_;rintro e j ⟨v,A',N,rfl,⟨rfl,rfl,rfl⟩,a⟩;rw[HT.out] at a ⊢;have HS1:=Lib.hid a;clear a;go_wp2_with fail
        go_step3
        rw[HA2.out,show (7*(i:Int)+7)=7*((i+1:Nat):Int) by omega];exact⟨.inl ⟨rfl,g,pos1+1,_,i+1,HS1.out,HLT.out.1,by omega,HV.out,_,_,_,_,_,_,_,_,_,_,_,_,_,_,_,_,_,_,_,_,_,_,_,_,_,_,_,_,_,_,_,_,_,_,_,_,_,_,_,_,_,_,_,_,_,_,_,_,_,rfl⟩,by simp[VM,intOf]; omega⟩
       ·have hbt:(bits .and .u64 c.toNat 128 != 0)=false:=by rw[nM _ hc]; simpa using d
        by_cases hz:c.toNat=0/\0<i
        ·have HV:=Lib.hid (show (0,⟨g,pos1+1,3⟩)=res by rw[<- HG.out,vgo,QY HN.out,QY d,QX hz]);obtain⟨f,al⟩:=hz;have k:((c.toNat:Int) == 0)=true:=by simp[f]
         try (have hq0:(bits .and .u64 0 127 / 2 ^ (bs - 7*i).toNat != 0)=false:=by (rw[<- hqb,f]; rfl))
         have hi0:0<7*(i:Int):=by omega
         go_wp2_with fail
         refine (HS.out.call 0 rfl (eL b _ 1 QR QR)).mono ?_;rintro e j ⟨v,A',N,rfl,⟨rfl,rfl,rfl⟩,a⟩;rw[HT.out] at a ⊢;have HS1:=Lib.hid a;clear a;go_wp2_with fail
         go_step3
         exact⟨.inr ⟨rfl,g,pos1+1,HS1.out,HV.out,_,_,_,_,_,_,_,_,_,_,_,_,_,_,_,_,_,_,_,_,_,_,_,_,_,_,_,_,_,_,_,_,_,_,_,_,_,_,_,_,_,_,_,_,_,_,_,_,_,_,_,rfl⟩,by simp[VM,intOf]; omega⟩
        ·have HV:=Lib.hid (show (acc+c.toNat % 128*2 ^ (7*i),⟨g,pos1+1,0⟩)=res by rw[<- HG.out,vgo,QY HN.out,QY d,QY hz]);by_cases f:c.toNat=0
         ·have k:((c.toNat:Int) == 0)=true:=by simp[f]
          try (have hq0:(bits .and .u64 0 127 / 2 ^ (bs - 7*i).toNat != 0)=false:=by (rw[<- hqb,f]; rfl))
          have HA3:=Lib.hid (show bits .or .u64 acc (IntKind.u64.wrap (bits .and .u64 0 127*2 ^ (7*i)))=((acc+c.toNat % 128*2 ^ (7*i):Nat):Int) by rw[<- HA2.out,f]; rfl);have hi0: ¬ (0<7*(i:Int)):=by omega
          go_wp2_with fail
          refine (HS.out.call 0 rfl (eL b _ 1 QR QR)).mono ?_;rintro e j ⟨v,A',N,rfl,⟨rfl,rfl,rfl⟩,a⟩;rw[HT.out] at a ⊢;have HS1:=Lib.hid a;clear a;go_wp2_with fail
          all_goals
           go_ret
           exact⟨_,_,_,rfl,⟨by rw[<- HV.out]; exact congrArg (Value.int IntKind.u64) HA3.out,by rw[<- HV.out],rfl⟩,HS1.out⟩
         ·have k:((c.toNat:Int) == 0)=false:=by simp; omega
          go_wp2_with fail
          refine (HS.out.call 0 rfl (eL b _ 1 QR QR)).mono ?_;rintro e j ⟨v,A',N,rfl,⟨rfl,rfl,rfl⟩,a⟩;rw[HT.out] at a ⊢;have HS1:=Lib.hid a;clear a;go_wp2_with fail
          go_ret
          exact⟨_,_,_,rfl,⟨by rw[<- HV.out]; exact congrArg (Value.int IntKind.u64) HA2.out,by rw[<- HV.out],rfl⟩,HS1.out⟩
  ·refine⟨_,rfl,?_⟩;have HS:=Lib.hid hst;have HG:=Lib.hid hg;clear hst hg;go_wp2_with fail
   refine (HS.out.call 0 rfl (ib b _ 3)).mono ?_;rintro e j ⟨v,A',N,rfl,⟨rfl,rfl,rfl⟩,a⟩;have HS1:=Lib.hid a;clear a;go_wp2_with fail
   go_ret
   exact⟨_,_,_,rfl,⟨by rw[<- HG.out]; rfl,by rw[<- HG.out]; rfl,rfl⟩,HS1.out⟩
 ·intro again;have AG:=Lib.hid again;clear again;go_wp2_with fail
  go_step3
  rename_i hK;exact hK _ _ (AG.out 0 _ _ _ rfl (.inl ⟨rfl,l,pos,0,0,HA.out,by omega,by omega,hres,_,_,_,_,_,_,_,_,_,_,_,_,_,_,_,_,_,_,_,_,_,_,_,_,_,_,_,_,_,_,_,_,_,_,_,_,_,_,_,_,_,_,_,_,_,_,_,_,_,rfl⟩))
theorem Bq (b:Nat) (st:I) (bs:Int) (hb:bs=32\/bs=64) :
 hN Tryz.prog 178 #[.pointer (some ⟨b,0,none⟩),.int .i64 bs] (InR b st) (fun v A' N=>v= .int .u64 (fm bs st).1/\A'=InR b (fm bs st).2/\N = []):=by
 obtain⟨l,pos,er⟩:=st;by_cases a:er=0
 ·subst a;exact Uns_go b l pos bs hb
 ·have h:=GM b ⟨l,pos,er⟩ bs a;have e:fm bs ⟨l,pos,er⟩=(0,⟨l,pos,er⟩):=by simp[fm,a]
  rw[e];exact h
theorem GN (bs:Int) (hb:bs=32\/bs=64): ∀ (l:AI) (pos acc i:Nat),acc<2 ^ (7*i)->(vgo bs l pos acc i).1<2 ^ bs.toNat:=by
 have hp:0<2 ^ bs.toNat:=Nat.two_pow_pos _;intro l
 induction l with
 | nil=>intro pos acc i _; exact hp
 | cons c l ih =>
  intro pos acc i hacc;unfold vgo;split
  ·exact hp
  ·rename_i hn;have h:=nN bs hb acc (c.toNat % 128) i hacc QR QR (fun h=>hn (.inr h));split
   ·exact ih _ _ _ h.1
   ·split
    ·exact hp
    ·exact h.2
theorem GO (bs:Int) (hb:bs=32\/bs=64) (st:I):(fm bs st).1<2 ^ bs.toNat:=by
 unfold fm;split
 ·exact Nat.two_pow_pos _
 ·exact GN bs hb _ _ _ _ (by simp)
theorem sc (bs:Int) (hb:bs=32\/bs=64) (st:I):(fm bs st).1<18446744073709551616:=by
 have h:=GO bs hb st;rcases hb with rfl | rfl
 ·have e:2 ^ (32:Int).toNat=4294967296:=by decide
  omega
 ·have e:2 ^ (64:Int).toNat=18446744073709551616:=by decide
  omega
def gz (r:Nat×I):Int×I:=(eS r.1,r.2)
theorem yX (b:Nat) (st:I) :
 hN Tryz.prog 127 #[.pointer (some ⟨b,0,none⟩)] (InR b st) (fun v A' N=>v= .int .i64 (gz (fm 32 st)).1/\A'=InR b (gz (fm 32 st)).2/\N = []):=by
 intro F w hA;have HA:=Lib.hid (Lw F w (Sep.one hA));clear hA;have hs:=Bq b st 32 (.inl rfl);have hlt:=sc 32 (.inl rfl) st;generalize fm 32 st=r at *;have HS:=Lib.hid hs;clear hs;go_enter Tryz.func127,Tryz.ntmps127
 go_wp2_with fail
 refine (HA.out.call 0 rfl HS.out).mono ?_;rintro e w1 ⟨v,A',N,rfl,⟨rfl,rfl,rfl⟩,a⟩;have HS1:=Lib.hid a;clear a;go_wp2_with fail
 refine (yU r.1 hlt w1).mono ?_;rintro e w' ⟨rfl,rfl⟩;go_wp2_with fail
 go_ret
 exact⟨_,_,_,rfl,⟨rfl,rfl,rfl⟩,HS1.out⟩
theorem CW (b:Nat) (st:I) :
 hN Tryz.prog 126 #[.pointer (some ⟨b,0,none⟩)] (InR b st) (fun v A' N=>v= .int .i64 (gz (fm 64 st)).1/\A'=InR b (gz (fm 64 st)).2/\N = []):=by
 intro F w hA;have HA:=Lib.hid (Lw F w (Sep.one hA));clear hA;have hs:=Bq b st 64 (.inr rfl);have hlt:=sc 64 (.inr rfl) st;generalize fm 64 st=r at *;have HS:=Lib.hid hs;clear hs;go_enter Tryz.func126,Tryz.ntmps126
 go_wp2_with fail
 refine (HA.out.call 0 rfl HS.out).mono ?_;rintro e w1 ⟨v,A',N,rfl,⟨rfl,rfl,rfl⟩,a⟩;have HS1:=Lib.hid a;clear a;go_wp2_with fail
 refine (yU r.1 hlt w1).mono ?_;rintro e w' ⟨rfl,rfl⟩;go_wp2_with fail
 go_ret
 exact⟨_,_,_,rfl,⟨rfl,rfl,rfl⟩,HS1.out⟩
theorem yB {a b:Nat} (h:2 ^ a<2 ^ b):a<b:=(Nat.pow_lt_pow_iff_right QS).1 h
theorem JA (bs:Int) (hb:0<bs): ∀ (v pos acc i:Nat) (r:AI),acc+v*2 ^ (7*i)<2 ^ bs.toNat->(0<i->0<v) ->
 vgo bs (du v++r) pos acc i=(acc+v*2 ^ (7*i),⟨r,pos+(du v).length,0⟩):=by
 intro v
 induction v using Nat.strongRecOn with
 | _ v ih =>
  intro pos acc i r h hi;have l:(7*i:Int)<bs:=by
   rcases Nat.eq_zero_or_pos i with b | b
   ·subst b; omega
   ·have hv:=hi b;have c:1*2 ^ (7*i)<=v*2 ^ (7*i):=Nat.mul_le_mul_right _ hv;have f:=yB (show 2 ^ (7*i)<2 ^ bs.toNat by omega);omega
  have hleft: ∀ d:Nat,d<=v->d / 2 ^ (bs - 7*i).toNat=0:=by
   intro d hd;have e:2 ^ bs.toNat=2 ^ (bs - 7*i).toNat*2 ^ (7*i):=by rw[<- Nat.pow_add]; congr 1; omega
   have c:d*2 ^ (7*i)<=v*2 ^ (7*i):=Nat.mul_le_mul_right _ hd;have f:d<2 ^ (bs - 7*i).toNat:=by
    apply Nat.lt_of_mul_lt_mul_right (a:=2 ^ (7*i));omega
   exact Nat.div_eq_of_lt f
  rw[du];split
  ·rename_i hlt;have hc:(UInt8.ofNat v).toNat=v:=by simp[UInt8.toNat_ofNat']; omega
   simp only[List.cons_append,NG,vgo,hc,Nat.mod_eq_of_lt hlt,hleft v (N3 _)];rw[QY (by simp; omega),QY QR,QY (by rintro⟨g,c⟩; have:=hi c; omega)];simp
  ·rename_i hge;have hc:(UInt8.ofNat (v % 128+128)).toNat=v % 128+128:=by simp[UInt8.toNat_ofNat']; omega
   have k:2 ^ (7*(i+1))=128*2 ^ (7*i):=by rw[show 7*(i+1)=7+7*i by omega,Nat.pow_add]
   have j:acc+v % 128*2 ^ (7*i)+v / 128*2 ^ (7*(i+1))=acc+v*2 ^ (7*i):=by
    rw[k];generalize 2 ^ (7*i)=z;have g:v / 128*(128*z)=v / 128*128*z:=by rw[Nat.mul_assoc]
    rw[g,Nat.add_assoc,<- Nat.add_mul];congr 2;omega
   simp only[List.cons_append,vgo,hc];rw[show (v % 128+128) % 128=v % 128 by omega,hleft (v % 128) (Nat.mod_le _ _),QY (by simp; omega),QX QR,ih (v / 128) QR _ _ _ _ (by rw[j]; exact h) QR,j];simp; omega
theorem CX (n:Int) (h: -2147483648<=n/\n<=2147483647):bE n<4294967296:=by unfold bE; split <;> omega
theorem vgo_ok (bs:Int): ∀ (l:AI) (pos acc i u:Nat) (s:I),vgo bs l pos acc i=(u,s)->s.err=0 ->
 ∃ k v,s=⟨l.drop k,pos+k,0⟩/\k<=l.length/\u=acc+v*2 ^ (7*i)/\du v=l.take k/\(0<i->0<v):=by
 intro l
 induction l with
 | nil=>intro pos acc i u s h a; simp only[vgo,Prod.mk.injEq] at h; rw[<- h.2] at a; simp at a
 | cons c l ih =>
  intro pos acc i u s h a;unfold vgo at h;split at h
  ·simp only[Prod.mk.injEq] at h; rw[<- h.2] at a; simp at a
  ·split at h
   ·rename_i b;obtain⟨k,v,f,g,j,m,n⟩:=ih _ _ _ _ _ h a;have hv:=n QR;have hc:=c.toNat_lt;refine⟨k+1,c.toNat % 128+128*v,?_,by simpa using g,?_,?_,by omega⟩
    ·rw[f]; simp; omega
    ·have e:2 ^ (7*(i+1))=128*2 ^ (7*i):=by rw[show 7*(i+1)=7+7*i by omega,Nat.pow_add]
     rw[j,e,Nat.add_mul];generalize 2 ^ (7*i)=z;have:v*(128*z)=128*v*z:=by rw[Nat.mul_comm 128 v,Nat.mul_assoc]
     omega
    ·rw[du,QY QR,show (c.toNat % 128+128*v) / 128=v by omega,m,List.take_succ_cons];congr 1;rw[show (c.toNat % 128+128*v) % 128+128=c.toNat by omega];exact UInt8.ofNat_toNat
   ·rename_i b;split at h
    ·simp only[Prod.mk.injEq] at h; rw[<- h.2] at a; simp at a
    ·rename_i hz;have hc:=c.toNat_lt;simp only[Prod.mk.injEq] at h;refine⟨1,c.toNat,by rw[<- h.2]; simp,by simp,by rw[<- h.1,Nat.mod_eq_of_lt QR],?_,?_⟩
     ·rw[du,QX QR]; simp
     ·intro hi;rcases Nat.eq_zero_or_pos c.toNat with d | d
      ·exact absurd ⟨d,hi⟩ hz
      ·exact d
attribute [local go_sem] fB bsOf_size
structure Bl where
 null:Bool
 data:AI
@[go_sem] def blV (b:Bl):Value:= .agg #[.bool b.null,.string (aY b.data)]
theorem sd:(Tryz.prog.info? 23).map (·.size)=some 2:=by kernel_rfl
theorem sS (l:AI):mv Tryz.prog 143 #[.string (aY l)] (fun v N=>v=blV ⟨false,l⟩/\N = []):=by
 intro w;have HS:=Lib.hid (L4 w);go_enter Tryz.func143,Tryz.ntmps143
 go_wp2_with fail
 refine bodyPost_ret (v:=blV ⟨false,l⟩) (results_cell_row QW _ _ w.heap.size 23 #[.bool false,.string (aY l)] (0,0) _ rfl (heap_alloc_new w _) Tryz.underlying23 rfl sd) rfl ?_;exact⟨_,_,rfl,⟨rfl,rfl⟩,(HS.out.alloc _ _).drop_⟩
theorem CY:mv Tryz.prog 214 #[] (fun v N=>v=blV ⟨true,[]⟩/\N = []):=by
 intro w;have HS:=Lib.hid (L4 w);go_enter Tryz.func214,Tryz.ntmps214
 go_wp2_with fail
 refine bodyPost_ret (v:=blV ⟨true,[]⟩) (results_cell_row QW _ _ w.heap.size 23 #[.bool true,.string (aY [])] (0,0) _ rfl (heap_alloc_new w _) Tryz.underlying23 rfl sd) rfl ?_;exact⟨_,_,rfl,⟨rfl,rfl⟩,(HS.out.alloc _ _).drop_⟩
def bw (b:Bl):Bool:= !b.null || b.data.isEmpty
theorem qB (b:Bl):mv Tryz.prog 148 #[blV b] (fun v N=>v= .bool (bw b)/\N = []):=by
 intro w;have HS:=Lib.hid (L4 w);obtain⟨n,l⟩:=b;have HB:=Lib.hid (show (l == [])=l.isEmpty by cases l <;> rfl);cases n
 ·go_enter Tryz.func148,Tryz.ntmps148
  go_wp2_with fail
  go_ret
  exact⟨_,_,rfl,⟨rfl,rfl⟩,(HS.out.alloc _ _).drop_⟩
 ·go_enter Tryz.func148,Tryz.ntmps148
  go_wp2_with fail
  go_ret
  exact⟨_,_,rfl,⟨congrArg Value.bool (by simp[bw]),rfl⟩,(HS.out.alloc _ _).drop_⟩
def fd (b:Bl):Int:=if b.null then -1 else b.data.length
theorem yY (b:Bl):mv Tryz.prog 149 #[blV b] (fun v N=>v= .int .i64 (fd b)/\N = []):=by
 intro w;have HS:=Lib.hid (L4 w);obtain⟨n,l⟩:=b;cases n;all_goals
  go_enter Tryz.func149,Tryz.ntmps149
  go_wp2_with fail
  go_ret
  exact⟨_,_,rfl,⟨rfl,rfl⟩,(HS.out.alloc _ _).drop_⟩
def mw (st:I) (n:Int):Bl×I:=if st.err≠0 then (⟨false,[]⟩,st) else if n= -1 then (⟨true,[]⟩,st) else (⟨false,(cD st n).1⟩,(cD st n).2)
theorem wD (g:Nat) (st:I) (n:Int) (j: -9223372036854775808<=n) (k:n<=9223372036854775807) :
 hN Tryz.prog 179 #[.pointer (some ⟨g,0,none⟩),.int .i64 n] (InR g st) (fun v A' N=>v=blV (mw st n).1/\A'=InR g (mw st n).2/\N = []):=by
 intro F w hA;have HA:=Lib.hid (Lw F w (Sep.one hA));clear hA;have HB:=Lib.hid (HA.out.alloc #[.bool false,.string ⟨#[]⟩] 23);by_cases he:st.err=0
 ·by_cases hn:n= -1
  ·subst hn;have HQ:=Lib.hid (show mw st (-1)=(⟨true,[]⟩,st) by simp[mw,he]);have hb:(st.err != 0)=false:=by simp[he]
   clear he;go_enter Tryz.func179,Tryz.ntmps179
   go_wp2_with fail
   refine (St.call 1 (HB).out rfl (rl g _)).mono ?_;rintro e w1 ⟨v,A',N,rfl,⟨rfl,rfl,rfl⟩,c⟩;try simp only[List.cons_append,NG,List.set_cons_zero,List.set_cons_succ,dg] at c
   have HC:=Lib.hid c;clear c;go_wp2_with fail
   refine (L2 HC.out CY).mono ?_;rintro e b ⟨v,N,rfl,⟨rfl,rfl⟩,a⟩;have d:b.cell? ⟨w.heap.size,0,none⟩=some (.bool false):=bm (St.blk 0 a rfl) 0;have f:b.cell? ⟨w.heap.size,1,none⟩=some (.string ⟨#[]⟩):=bm (St.blk 0 a rfl) 1;have h:b.frozen? ⟨w.heap.size,0,none⟩=false:=cg (St.blk 0 a rfl) 0;have i:b.frozen? ⟨w.heap.size,1,none⟩=false:=cg (St.blk 0 a rfl) 1;have HD:=Lib.hid a;clear a;go_wp2_with fail
   have HE:=((HD.out.set 0 rfl 0 (.bool true)).set 0 rfl 1 (.string (aY [])));refine bodyPost_ret (v:=blV ⟨true,[]⟩) (results_cell_row QW _ _ w.heap.size 23 #[.bool true,.string (aY [])] (0,0) _ rfl (St.blk 0 HE rfl) Tryz.underlying23 rfl sd) rfl ?_;exact⟨_,_,_,rfl,⟨by rw[HQ.out],by rw[HQ.out],rfl⟩,HE.drop_⟩
  ·have HQ:=Lib.hid (show mw st n=(⟨false,(cD st n).1⟩,(cD st n).2) by simp[mw,he,hn]);have hb:(st.err != 0)=false:=by simp[he]
   have hnb:(n == -1)=false:=beq_eq_false_iff_ne.2 hn;clear he hn;go_enter Tryz.func179,Tryz.ntmps179
   go_wp2_with fail
   refine (St.call 1 (HB).out rfl (rl g _)).mono ?_;rintro e w1 ⟨v,A',N,rfl,⟨rfl,rfl,rfl⟩,c⟩;try simp only[List.cons_append,NG,List.set_cons_zero,List.set_cons_succ,dg] at c
   have HC:=Lib.hid c;clear c;go_wp2_with fail
   refine (St.call 1 (HC).out rfl (eL g st n j k)).mono ?_;rintro e w1 ⟨v,A',N,rfl,⟨rfl,rfl,rfl⟩,c⟩;try simp only[List.cons_append,NG,List.set_cons_zero,List.set_cons_succ,dg] at c
   have HC2:=Lib.hid c;clear c;go_wp2_with fail
   refine (L2 HC2.out (sS (cD st n).1)).mono ?_;rintro e b ⟨v,N,rfl,⟨rfl,rfl⟩,a⟩;have d:b.cell? ⟨w.heap.size,0,none⟩=some (.bool false):=bm (St.blk 0 a rfl) 0;have f:b.cell? ⟨w.heap.size,1,none⟩=some (.string ⟨#[]⟩):=bm (St.blk 0 a rfl) 1;have h:b.frozen? ⟨w.heap.size,0,none⟩=false:=cg (St.blk 0 a rfl) 0;have i:b.frozen? ⟨w.heap.size,1,none⟩=false:=cg (St.blk 0 a rfl) 1;have HD:=Lib.hid a;clear a;go_wp2_with fail
   have HE:=((HD.out.set 0 rfl 0 (.bool false)).set 0 rfl 1 (.string (aY (cD st n).1)));refine bodyPost_ret (v:=blV ⟨false,(cD st n).1⟩) (results_cell_row QW _ _ w.heap.size 23 #[.bool false,.string (aY (cD st n).1)] (0,0) _ rfl (St.blk 0 HE rfl) Tryz.underlying23 rfl sd) rfl ?_;exact⟨_,_,_,rfl,⟨by rw[HQ.out],by rw[HQ.out],rfl⟩,HE.drop_⟩
 ·have HQ:=Lib.hid (show mw st n=(⟨false,[]⟩,st) by simp[mw,he]);have hb:(st.err != 0)=true:=bne_iff_ne.2 he;clear he;go_enter Tryz.func179,Tryz.ntmps179
  go_wp2_with fail
  refine (St.call 1 HB.out rfl (rl g _)).mono ?_;rintro e b ⟨v,A',N,rfl,⟨rfl,rfl,rfl⟩,a⟩;have d:b.cell? ⟨w.heap.size,0,none⟩=some (.bool false):=bm (St.blk 0 a rfl) 0;have f:b.cell? ⟨w.heap.size,1,none⟩=some (.string ⟨#[]⟩):=bm (St.blk 0 a rfl) 1;have h:b.frozen? ⟨w.heap.size,0,none⟩=false:=cg (St.blk 0 a rfl) 0;have i:b.frozen? ⟨w.heap.size,1,none⟩=false:=cg (St.blk 0 a rfl) 1;have HD:=Lib.hid a;clear a;go_wp2_with fail
  have HE:=((HD.out.set 0 rfl 0 (.bool false)).set 0 rfl 1 (.string (aY [])));refine bodyPost_ret (v:=blV ⟨false,[]⟩) (results_cell_row QW _ _ w.heap.size 23 #[.bool false,.string (aY [])] (0,0) _ rfl (St.blk 0 HE rfl) Tryz.underlying23 rfl sd) rfl ?_;exact⟨_,_,_,rfl,⟨by rw[HQ.out],by rw[HQ.out],rfl⟩,HE.drop_⟩
theorem se (st:I) (size:Int): -9223372036854775808<=(fc st size).1/\(fc st size).1<=9223372036854775807:=by
 unfold fc;split
 ·rename_i hs;have hl:=yS st size;simp only;generalize (cD st size).1=l at *;by_cases hn:l = []
  ·subst hn; simp[bC]
  ·have hr:=qz l hn;have hp:(2 ^ (8*l.length - 1):Int)<=9223372036854775808:=by
    have b:(2 ^ (8*l.length - 1):Nat)<=2 ^ 63:=Nat.pow_le_pow_right QS QR;have a:((2 ^ (8*l.length - 1):Nat):Int)<=((2 ^ 63:Nat):Int):=Int.ofNat_le.2 b;rw[Int.natCast_pow,Int.natCast_pow] at a;exact a
   generalize (2 ^ (8*l.length - 1):Int)=z at *;omega
 ·simp
theorem yZ (st:I): -9223372036854775808<=(gz (fm 32 st)).1/\(gz (fm 32 st)).1<=9223372036854775807:=by
 have h:=sc 32 (.inl rfl) st;unfold gz eS;simp only;split <;> omega
theorem wE (b:Bl) (h:b.data.length<=9223372036854775807): -9223372036854775808<=fd b/\fd b<=9223372036854775807:=by unfold fd; split <;> omega
def pp (st:AI×Int) (b:Bl):AI×Int:=if bw b then iW st b.data else lU st 4
def oC (st:AI×Int) (b:Bl) (size:Int):AI×Int:=pp (yz st (fd b) size) b
def mV (st:AI×Int) (b:Bl):AI×Int:=pp (jB st (fd b)) b
def jJ (st:I) (size:Int):Bl×I:=mw (fc st size).2 (fc st size).1
def iT (st:I):Bl×I:=mw (gz (fm 32 st)).2 (gz (fm 32 st)).1
def wF (r:Bl×I):AI×I:=(r.1.data,if r.1.null then dC r.2 4 else r.2)
theorem vk (g:Nat) (st:AI×Int) (b:Bl) (hl:st.1.length+b.data.length<=140737488355328) :
 hN Tryz.prog 150 #[.pointer (some ⟨g,0,none⟩),blV b] (bz g st) (fun v A' N=>v= .tuple #[]/\A'=bz g (pp st b)/\N = []):=by
 intro F w hA;have HA:=Lib.hid (Lw F w (Sep.one hA));clear hA;have HB:=Lib.hid (HA.out.alloc #[.bool b.null,.string (aY b.data)] 23);by_cases hr:bw b=true
 ·have HQ:=Lib.hid (show pp st b=iW st b.data by simp[pp,hr]);have HR:=Lib.hid hr;clear hr;go_enter Tryz.func150,Tryz.ntmps150
  go_wp2_with fail
  refine (L2 HB.out (qB b)).mono ?_;rintro e c ⟨v,N,rfl,⟨rfl,rfl⟩,a⟩;rw[HR.out];have h:c.cell? ⟨w.heap.size,0,none⟩=some (.bool b.null):=bm (St.blk 0 a rfl) 0;have i:c.cell? ⟨w.heap.size,1,none⟩=some (.string (aY b.data)):=bm (St.blk 0 a rfl) 1;have HD:=Lib.hid a;clear a;go_wp2_with fail
  refine (St.call 1 HD.out rfl (Bf g st (aY b.data) (by rw[bsOf_size]; exact hl))).mono ?_;rintro e j ⟨v,A',N,rfl,⟨rfl,rfl,rfl⟩,d⟩;rw[dg] at d;have HE:=Lib.hid d;clear d;go_wp2_with fail
  go_end0
  exact⟨_,_,_,rfl,⟨rfl,by rw[HQ.out],rfl⟩,HE.out.drop_⟩
 ·have HQ:=Lib.hid (show pp st b=lU st 4 by simp[pp,hr]);have HR:=Lib.hid (show bw b=false by simpa using hr);clear hr;go_enter Tryz.func150,Tryz.ntmps150
  go_wp2_with fail
  refine (L2 HB.out (qB b)).mono ?_;rintro e c ⟨v,N,rfl,⟨rfl,rfl⟩,a⟩;rw[HR.out];have HD:=Lib.hid a;clear a;go_wp2_with fail
  refine (St.call 1 (HD).out rfl (rk g st 4)).mono ?_;rintro e w1 ⟨v,A',N,rfl,⟨rfl,rfl,rfl⟩,f⟩;try simp only[List.cons_append,NG,List.set_cons_zero,List.set_cons_succ,dg] at f
  have HE:=Lib.hid f;clear f;go_wp2_with fail
  go_end0
  exact⟨_,_,_,rfl,⟨rfl,by rw[HQ.out],rfl⟩,HE.out.drop_⟩
theorem GP (st:AI×Int) (n size:Int):(yz st n size).1.length<=st.1.length+8:=by
 unfold yz;split
 ·rename_i h;have a:=sP st (be n size.toNat);rw[aH] at a;simp[bA] at h;omega
 ·unfold lU; split <;> simp
theorem qC (g:Nat) (st:AI×Int) (b:Bl) (size:Int) (h: -9223372036854775808<=size) (i:size<=9223372036854775807) (hl:st.1.length+8+b.data.length<=140737488355328) :
 hN Tryz.prog 95 #[.pointer (some ⟨g,0,none⟩),blV b,.int .i64 size] (bz g st) (fun v A' N=>v= .tuple #[]/\A'=bz g (oC st b size)/\N = []):=by
 intro F w hA;have HA:=Lib.hid (Lw F w (Sep.one hA));clear hA;have HB:=Lib.hid (HA.out.alloc #[.bool b.null,.string (aY b.data)] 23);have hbl:=wE b QR;have hb1:=hbl.1;have hb2:=hbl.2;clear hbl;go_enter Tryz.func95,Tryz.ntmps95
 go_wp2_with fail
 refine (L2 HB.out (yY b)).mono ?_;rintro e j ⟨v,N,rfl,⟨rfl,rfl⟩,c⟩;have HC:=Lib.hid c;clear c;go_wp2_with fail
 refine (St.call 1 HC.out rfl (vh g st (fd b) size hb1 hb2 QR)).mono ?_;rintro e d ⟨v,A',N,rfl,⟨rfl,rfl,rfl⟩,a⟩;have k:d.cell? ⟨w.heap.size,0,none⟩=some (.bool b.null):=bm (St.blk 0 a rfl) 0;have l:d.cell? ⟨w.heap.size,1,none⟩=some (.string (aY b.data)):=bm (St.blk 0 a rfl) 1;have HD:=Lib.hid a;clear a;go_wp2_with fail
 refine (St.call 1 HD.out rfl (vk g _ b (by have:=GP st (fd b) size; omega))).mono ?_;rintro e m ⟨v,A',N,rfl,⟨rfl,rfl,rfl⟩,f⟩;have HE:=Lib.hid f;clear f;go_wp2_with fail
 go_end0
 exact⟨_,_,_,rfl,⟨rfl,rfl,rfl⟩,HE.out.drop_⟩
theorem Br (st:AI×Int) (n:Int):(jB st n).1.length<=st.1.length+10:=by
 unfold jB;split
 ·rename_i h;have a:=sP st (du (bE n));have b:=mU (bE n) (kB n QR QR);omega
 ·unfold lU; split <;> simp
theorem pV (g:Nat) (st:AI×Int) (b:Bl) (hl:st.1.length+10+b.data.length<=140737488355328) :
 hN Tryz.prog 183 #[.pointer (some ⟨g,0,none⟩),blV b] (bz g st) (fun v A' N=>v= .tuple #[]/\A'=bz g (mV st b)/\N = []):=by
 intro F w hA;have HA:=Lib.hid (Lw F w (Sep.one hA));clear hA;have HB:=Lib.hid (HA.out.alloc #[.bool b.null,.string (aY b.data)] 23);have hbl:=wE b QR;have hb1:=hbl.1;have hb2:=hbl.2;clear hbl;go_enter Tryz.func183,Tryz.ntmps183
 go_wp2_with fail
 refine (L2 HB.out (yY b)).mono ?_;rintro e h ⟨v,N,rfl,⟨rfl,rfl⟩,c⟩;have HC:=Lib.hid c;clear c;go_wp2_with fail
 refine (St.call 1 HC.out rfl (sR g st (fd b) hb1 hb2 QR)).mono ?_;rintro e d ⟨v,A',N,rfl,⟨rfl,rfl,rfl⟩,a⟩;have i:d.cell? ⟨w.heap.size,0,none⟩=some (.bool b.null):=bm (St.blk 0 a rfl) 0;have j:d.cell? ⟨w.heap.size,1,none⟩=some (.string (aY b.data)):=bm (St.blk 0 a rfl) 1;have HD:=Lib.hid a;clear a;go_wp2_with fail
 refine (St.call 1 HD.out rfl (vk g _ b (by have:=Br st (fd b); omega))).mono ?_;rintro e k ⟨v,A',N,rfl,⟨rfl,rfl,rfl⟩,f⟩;have HE:=Lib.hid f;clear f;go_wp2_with fail
 go_end0
 exact⟨_,_,_,rfl,⟨rfl,rfl,rfl⟩,HE.out.drop_⟩
def wG (st:AI×Int) (l:AI):AI×Int:=oC st ⟨false,l⟩ 2
theorem yC (g:Nat) (st:AI×Int) (l:AI) (hl:st.1.length+8+l.length<=140737488355328) :
 hN Tryz.prog 88 #[.pointer (some ⟨g,0,none⟩),.string (aY l)] (bz g st) (fun v A' N=>v= .tuple #[]/\A'=bz g (wG st l)/\N = []):=by
 intro F w hA;have HA:=Lib.hid (Lw F w (Sep.one hA));clear hA;go_enter Tryz.func88,Tryz.ntmps88
 go_wp2_with fail
 refine (L2 (HA).out (sS l)).mono ?_;rintro e w1 ⟨v,N,rfl,⟨rfl,rfl⟩,a⟩;try simp only[List.cons_append,NG,List.set_cons_zero,List.set_cons_succ,dg] at a
 have HB:=Lib.hid a;clear a;go_wp2_with fail
 refine (St.call 0 (HB).out rfl (qC g st ⟨false,l⟩ 2 QR QR hl)).mono ?_;rintro e w1 ⟨v,A',N,rfl,⟨rfl,rfl,rfl⟩,a⟩;try simp only[List.cons_append,NG,List.set_cons_zero,List.set_cons_succ,dg] at a
 have HC:=Lib.hid a;clear a;go_wp2_with fail
 go_end0
 exact⟨_,_,_,rfl,⟨rfl,rfl,rfl⟩,HC.out⟩
def wH (st:AI×Int) (l:AI):AI×Int:=mV st ⟨false,l⟩
theorem yD (g:Nat) (st:AI×Int) (l:AI) (hl:st.1.length+10+l.length<=140737488355328) :
 hN Tryz.prog 132 #[.pointer (some ⟨g,0,none⟩),.string (aY l)] (bz g st) (fun v A' N=>v= .tuple #[]/\A'=bz g (wH st l)/\N = []):=by
 intro F w hA;have HA:=Lib.hid (Lw F w (Sep.one hA));clear hA;go_enter Tryz.func132,Tryz.ntmps132
 go_wp2_with fail
 refine (L2 (HA).out (sS l)).mono ?_;rintro e w1 ⟨v,N,rfl,⟨rfl,rfl⟩,a⟩;try simp only[List.cons_append,NG,List.set_cons_zero,List.set_cons_succ,dg] at a
 have HB:=Lib.hid a;clear a;go_wp2_with fail
 refine (St.call 0 (HB).out rfl (pV g st ⟨false,l⟩ hl)).mono ?_;rintro e w1 ⟨v,A',N,rfl,⟨rfl,rfl,rfl⟩,a⟩;try simp only[List.cons_append,NG,List.set_cons_zero,List.set_cons_succ,dg] at a
 have HC:=Lib.hid a;clear a;go_wp2_with fail
 go_end0
 exact⟨_,_,_,rfl,⟨rfl,rfl,rfl⟩,HC.out⟩
theorem vl (g:Nat) (st:I) (size:Int) :
 hN Tryz.prog 142 #[.pointer (some ⟨g,0,none⟩),.int .i64 size] (InR g st) (fun v A' N=>v=blV (jJ st size).1/\A'=InR g (jJ st size).2/\N = []):=by
 intro F w hA;have HA:=Lib.hid (Lw F w (Sep.one hA));clear hA;have HB:=Lib.hid (HA.out.alloc #[.bool false,.string ⟨#[]⟩] 23);go_enter Tryz.func142,Tryz.ntmps142
 go_wp2_with fail
 refine (St.call 1 (HB).out rfl (tR g st size)).mono ?_;rintro e w1 ⟨v,A',N,rfl,⟨rfl,rfl,rfl⟩,c⟩;try simp only[List.cons_append,NG,List.set_cons_zero,List.set_cons_succ,dg] at c
 have HC:=Lib.hid c;clear c;go_wp2_with fail
 refine (St.call 1 HC.out rfl (wD g _ _ (se st size).1 (se st size).2)).mono ?_;rintro e b ⟨v,A',N,rfl,⟨rfl,rfl,rfl⟩,a⟩;have d:b.cell? ⟨w.heap.size,0,none⟩=some (.bool false):=bm (St.blk 0 a rfl) 0;have f:b.cell? ⟨w.heap.size,1,none⟩=some (.string ⟨#[]⟩):=bm (St.blk 0 a rfl) 1;have h:b.frozen? ⟨w.heap.size,0,none⟩=false:=cg (St.blk 0 a rfl) 0;have i:b.frozen? ⟨w.heap.size,1,none⟩=false:=cg (St.blk 0 a rfl) 1;have HD:=Lib.hid a;clear a;go_wp2_with fail
 have HE:=((HD.out.set 0 rfl 0 (.bool (jJ st size).1.null)).set 0 rfl 1 (.string (aY (jJ st size).1.data)));refine bodyPost_ret (v:=blV (jJ st size).1) (results_cell_row QW _ _ w.heap.size 23 #[.bool (jJ st size).1.null,.string (aY (jJ st size).1.data)] (0,0) _ rfl (St.blk 0 HE rfl) Tryz.underlying23 rfl sd) rfl ?_;exact⟨_,_,_,rfl,⟨rfl,rfl,rfl⟩,HE.drop_⟩
theorem sU (g:Nat) (st:I) :
 hN Tryz.prog 128 #[.pointer (some ⟨g,0,none⟩)] (InR g st) (fun v A' N=>v=blV (iT st).1/\A'=InR g (iT st).2/\N = []):=by
 intro F w hA;have HA:=Lib.hid (Lw F w (Sep.one hA));clear hA;have HB:=Lib.hid (HA.out.alloc #[.bool false,.string ⟨#[]⟩] 23);go_enter Tryz.func128,Tryz.ntmps128
 go_wp2_with fail
 refine (St.call 1 (HB).out rfl (yX g st)).mono ?_;rintro e w1 ⟨v,A',N,rfl,⟨rfl,rfl,rfl⟩,c⟩;try simp only[List.cons_append,NG,List.set_cons_zero,List.set_cons_succ,dg] at c
 have HC:=Lib.hid c;clear c;go_wp2_with fail
 refine (St.call 1 HC.out rfl (wD g _ _ (yZ st).1 (yZ st).2)).mono ?_;rintro e b ⟨v,A',N,rfl,⟨rfl,rfl,rfl⟩,a⟩;have d:b.cell? ⟨w.heap.size,0,none⟩=some (.bool false):=bm (St.blk 0 a rfl) 0;have f:b.cell? ⟨w.heap.size,1,none⟩=some (.string ⟨#[]⟩):=bm (St.blk 0 a rfl) 1;have h:b.frozen? ⟨w.heap.size,0,none⟩=false:=cg (St.blk 0 a rfl) 0;have i:b.frozen? ⟨w.heap.size,1,none⟩=false:=cg (St.blk 0 a rfl) 1;have HD:=Lib.hid a;clear a;go_wp2_with fail
 have HE:=((HD.out.set 0 rfl 0 (.bool (iT st).1.null)).set 0 rfl 1 (.string (aY (iT st).1.data)));refine bodyPost_ret (v:=blV (iT st).1) (results_cell_row QW _ _ w.heap.size 23 #[.bool (iT st).1.null,.string (aY (iT st).1.data)] (0,0) _ rfl (St.blk 0 HE rfl) Tryz.underlying23 rfl sd) rfl ?_;exact⟨_,_,_,rfl,⟨rfl,rfl,rfl⟩,HE.drop_⟩
theorem wJ (g:Nat) (r:Bl×I) :
 hN Tryz.prog 141 #[.pointer (some ⟨g,0,none⟩),blV r.1] (InR g r.2) (fun v A' N=>v= .string (aY (wF r).1)/\A'=InR g (wF r).2/\N = []):=by
 intro F w hA;obtain⟨b,st⟩:=r;obtain⟨n,l⟩:=b;have HA:=Lib.hid (Lw F w (Sep.one hA));clear hA;have HB:=Lib.hid (HA.out.alloc #[.bool n,.string (aY l)] 23);cases n
 ·go_enter Tryz.func141,Tryz.ntmps141
  go_wp2_with fail
  go_ret
  exact⟨_,_,_,rfl,⟨rfl,rfl,rfl⟩,HB.out.drop_⟩
 ·go_enter Tryz.func141,Tryz.ntmps141
  go_wp2_with fail
  refine (St.call 1 HB.out rfl (ib g st 4)).mono ?_;rintro e c ⟨v,A',N,rfl,⟨rfl,rfl,rfl⟩,a⟩;have d:c.cell? ⟨w.heap.size,1,none⟩=some (.string (aY l)):=bm (St.blk 0 a rfl) 1;have HD:=Lib.hid a;clear a;go_wp2_with fail
  go_ret
  exact⟨_,_,_,rfl,⟨rfl,rfl,rfl⟩,HD.out.drop_⟩
def El (st:I):AI×I:=wF (jJ st 2)
theorem CZ (g:Nat) (st:I) :
 hN Tryz.prog 86 #[.pointer (some ⟨g,0,none⟩)] (InR g st) (fun v A' N=>v= .string (aY (El st).1)/\A'=InR g (El st).2/\N = []):=by
 intro F w hA;have HA:=Lib.hid (Lw F w (Sep.one hA));clear hA;go_enter Tryz.func86,Tryz.ntmps86
 go_wp2_with fail
 refine (St.call 0 (HA).out rfl (vl g st 2)).mono ?_;rintro e w1 ⟨v,A',N,rfl,⟨rfl,rfl,rfl⟩,a⟩;try simp only[List.cons_append,NG,List.set_cons_zero,List.set_cons_succ,dg] at a
 have HB:=Lib.hid a;clear a;go_wp2_with fail
 refine (St.call 0 (HB).out rfl (wJ g (jJ st 2))).mono ?_;rintro e w1 ⟨v,A',N,rfl,⟨rfl,rfl,rfl⟩,a⟩;try simp only[List.cons_append,NG,List.set_cons_zero,List.set_cons_succ,dg] at a
 have HC:=Lib.hid a;clear a;go_wp2_with fail
 go_ret
 exact⟨_,_,_,rfl,⟨rfl,rfl,rfl⟩,HC.out⟩
def Em (st:I):AI×I:=wF (iT st)
theorem C0 (g:Nat) (st:I) :
 hN Tryz.prog 125 #[.pointer (some ⟨g,0,none⟩)] (InR g st) (fun v A' N=>v= .string (aY (Em st).1)/\A'=InR g (Em st).2/\N = []):=by
 intro F w hA;have HA:=Lib.hid (Lw F w (Sep.one hA));clear hA;go_enter Tryz.func125,Tryz.ntmps125
 go_wp2_with fail
 refine (St.call 0 (HA).out rfl (sU g st)).mono ?_;rintro e w1 ⟨v,A',N,rfl,⟨rfl,rfl,rfl⟩,a⟩;try simp only[List.cons_append,NG,List.set_cons_zero,List.set_cons_succ,dg] at a
 have HB:=Lib.hid a;clear a;go_wp2_with fail
 refine (St.call 0 (HB).out rfl (wJ g (iT st))).mono ?_;rintro e w1 ⟨v,A',N,rfl,⟨rfl,rfl,rfl⟩,a⟩;try simp only[List.cons_append,NG,List.set_cons_zero,List.set_cons_succ,dg] at a
 have HC:=Lib.hid a;clear a;go_wp2_with fail
 go_ret
 exact⟨_,_,_,rfl,⟨rfl,rfl,rfl⟩,HC.out⟩
attribute [local go_sem] fB bsOf_size
@[go_sem] def strErr (x:AI×Int):Value:= .tuple #[.string (aY x.1),.int .i64 x.2]
def otx (st:AI×Int):AI×Int:=if st.2=0 then (st.1,0) else ([],st.2)
theorem Af (st:AI×Int):Bg st=strErr (otx st):=by unfold Bg otx; split <;> rfl
theorem tS {st:I} (h:st.err≠0) (e:Int):dC st e=st:=by simp[dC,h]
theorem FC {st:I} (h:st.err≠0) (n:Int):cD st n=([],st):=by simp[cD,h]
theorem oD {st:I} (h:st.err≠0) (n:Int):fc st n=(0,st):=by
 unfold fc;split
 ·rw[FC h]; rfl
 ·rw[tS h]
theorem tT {st:I} (h:st.err≠0) (n:Int):mw st n=(⟨false,[]⟩,st):=by simp[mw,h]
theorem C1 {st:I} (h:st.err≠0) (n:Int):jJ st n=(⟨false,[]⟩,st):=by unfold jJ; rw[oD h,tT h]
theorem wK {st:I} (h:st.err≠0):fS st=st:=by unfold fS; split; rfl; exact tS h 2
theorem Bt (l:AI) (p:Nat) (n:Nat) (h:n<=l.length):cD ⟨l,p,0⟩ n=(l.take n,⟨l.drop n,p+n,0⟩):=by
 unfold cD;rw[QY (by simp),QY QR,QY (by simp only; omega)];simp
theorem vm (l:AI) (p:Nat) (n:Int) (h:(l.length:Int)<n):cD ⟨l,p,0⟩ n=([],⟨l,p,1⟩):=by
 unfold cD;rw[QY (by simp),QY QR,QX (by simp only; omega)]
theorem FD (l:AI) (p:Nat) (n:Int) (h:n<0):cD ⟨l,p,0⟩ n=([],⟨l,p,4⟩):=by
 unfold cD;rw[QY (by simp),QX h]
theorem Ag (l:AI) (p:Nat) (n:Nat) (a:1<=n) (b:n<=8) (h:n<=l.length):fc ⟨l,p,0⟩ n=(bC (l.take n),⟨l.drop n,p+n,0⟩):=by
 unfold fc;rw[QX QR,Bt l p n h]
theorem sf (l:AI) (p:Nat) (n:Int) (a:1<=n) (b:n<=8) (h:(l.length:Int)<n):fc ⟨l,p,0⟩ n=(0,⟨l,p,1⟩):=by
 unfold fc;rw[QX QR,vm l p n h];rfl
def et (l:AI):Bool:= !l.isEmpty && decide ((l.length:Int)<=32767)
theorem C2 (l:AI) (w:World):Calls Tryz.prog 87 #[.string (aY l)] w fun e w'=>e= .returned (.bool (et l))/\w=w':=by
 cases l with
 | nil =>
  go_enter Tryz.func87,Tryz.ntmps87
  go_wp2_with fail
  go_ret
  exact⟨qx (by simp[et]),rfl⟩
 | cons c l =>
  go_enter Tryz.func87,Tryz.ntmps87
  go_wp2_with fail
  go_ret
  exact⟨qx (by simp[et]),rfl⟩
attribute [local go_sem] fB bsOf_size
theorem za (n:Nat) (hn:n<18446744073709551616) (w:World) :
 Calls Tryz.prog 236 #[.int .u64 n] w fun e w'=>e= .returned (.int .i64 (eS n))/\w=w':=by
 by_cases h:n % 2=1
 ·have HV:=Lib.hid (show eS n= -((n:Int) / 2) - 1 by unfold eS; rw[QX h]; omega);have hb:((n:Int) % 2 == 1)=true:=by simp; omega
  go_enter Tryz.func236,Tryz.ntmps236
  go_wp2_with fail
  go_ret
  exact⟨kA (by rw[HV.out]),rfl⟩
 ·have HV:=Lib.hid (show eS n=(n:Int) / 2 by unfold eS; rw[QY h]; omega);have hb:((n:Int) % 2 == 1)=false:=by simp; omega
  go_enter Tryz.func236,Tryz.ntmps236
  go_wp2_with fail
  go_ret
  exact⟨kA (by rw[HV.out]),rfl⟩
def j9 (r:Nat×I):Nat×Nat×Int:=if r.2.err=0 then (r.1,r.2.pos,0) else (0,0,r.2.err)
def Bu (x:Nat×Nat×Int):Value:= .tuple #[.int .u64 x.1,.int .i64 x.2.1,.int .i64 x.2.2]
theorem Bw (l:AI) (bs:Int) (hb:bs=32\/bs=64) (hl:l.length<=140737488355328) (w:World) :
 Calls Tryz.prog 235 #[.string (aY l),.int .i64 bs] w fun e w'=>e= .returned (Bu (j9 (vgo bs l 0 0 0)))/\w=w':=by
 generalize hr:vgo bs l 0 0 0=r;have HR:=Lib.hid hr;have hb1:32<=bs:=by omega
 have hb2:bs<=64:=by omega
 have HB:=Lib.hid hb;have HG:=Lib.hid (qA l);clear hr hb;go_enter Tryz.func235,Tryz.ntmps235
 go_wp2_with fail
 go_loop [7,8,9,10] (fun nv ov uv iv=> ∃ (i acc o:Nat),i<=l.length/\iv= .int .i64 i/\nv= .int .u64 acc/\ov= .int .u64 o/\uv= .int .i64 (7*i)/\7*i<bs+7/\(7*i<bs->o=2 ^ (7*i))/\acc<2 ^ (7*i)/\vgo bs (l.drop i) i acc i=r) (fun _ _ _ i=>l.length - (intOf i).toNat)
 case atStart=>exact⟨0,0,1,by omega,rfl,rfl,rfl,rfl,by omega,by simp,by simp,HR.out⟩
 case round =>
  obtain⟨i,acc,o,hi,rfl,rfl,rfl,rfl,n,ho,hacc,hv⟩:=hrel;by_cases hlt:i<l.length
  ·rw[List.drop_eq_getElem_cons hlt] at hv;have hgi:=HG.out i (by rw[bsOf_size]; exact hlt);have hs:i<(aY l).size:=by rw[bsOf_size]; exact hlt
   have hc:=l[i].toNat_lt;generalize l[i]=c at *;have HV:=Lib.hid hv;have HO:=Lib.hid ho;have HACC:=Lib.hid hacc;clear hv ho hacc;by_cases hroom:7<bs - 7*i
   ·have hnb: ¬ (bs - 7*(i:Nat)<=0\/(bs - 7*(i:Nat)<7/\c.toNat % 128 / 2 ^ (bs - 7*(i:Nat)).toNat≠0)):=by omega
    have hz:=HO.out QR;obtain⟨hA1,hA2⟩:=nN bs HB.out acc (c.toNat % 128) i HACC.out QR QR (fun h=>hnb (.inr h));have f:2 ^ bs.toNat<=18446744073709551616:=by rcases HB.out with h | h <;> rw[h] <;> decide
    have b:2 ^ (7*(i+1))=2 ^ (7*i)*128:=by rw[show 7*(i+1)=7*i+7 by omega,Nat.pow_add]
    rw[<- hz] at hA1 hA2 b;have hA3:acc+c.toNat % 128*o<18446744073709551616:=by omega
    have HA1:=Lib.hid hA1;have HP2:=Lib.hid b;have hmul:((c.toNat:Int) % 128*o)=((c.toNat % 128*o:Nat):Int):=by rw[Int.natCast_mul,Int.natCast_emod]; rfl
    have HMUL:=Lib.hid hmul;have HVV:=HV.out;rw[vgo,QY hnb,<- hz] at HVV;generalize hy:c.toNat % 128*o=y at *;have hy0:(0:Int)<=(c.toNat:Int) % 128*o:=by rw[hmul]; omega
    have hy1:(c.toNat:Int) % 128*o<=18446744073709551615:=by rw[hmul]; omega
    have hy2:(acc:Int)+(c.toNat:Int) % 128*o<=18446744073709551615:=by rw[hmul]; omega
    have HY:=Lib.hid hy;have HZ:=Lib.hid hz;clear hy hz hA1 hA2 b hmul f hnb;by_cases d:128<=c.toNat
    ·have HN:=Lib.hid (show vgo bs (l.drop (i+1)) (i+1) (acc+y) (i+1)=r by rw[QX d] at HVV; exact HVV);clear HVV;go_wp2_with fail
     refine wp_loop_rounds 8 ?_;repeat (rw[rounds_succ]; go_wp2_with fail)
     go_round
     case rel =>
      refine⟨i+1,acc+y,(o*128) % 18446744073709551616,by omega,by go_num,?_,?_,by go_num,by omega,?_,HA1.out,HN.out⟩
      ·rw[HMUL.out]; simp
      ·first | rfl | simp
      ·intro h;have g:=HP2.out;have j:2 ^ (7*(i+1))<=2 ^ 63:=Nat.pow_le_pow_right QS QR;rw[g] at j ⊢;have k:(2:Nat) ^ 63=9223372036854775808:=by decide
       omega
     case measure=>simp[intOf]; omega
    ·rw[QY d] at HVV;by_cases a:c.toNat=0/\0<i
     ·have HE:=Lib.hid (show j9 r=(0,0,3) by rw[QX a] at HVV; rw[<- HVV]; rfl);clear HVV;obtain⟨hc0,hi0⟩:=a;have hcz:((c.toNat:Int) == 0)=true:=by simp[hc0]
      go_wp2_with fail
      refine wp_loop_rounds 8 ?_;repeat (rw[rounds_succ]; go_wp2_with fail)
      go_ret3
      exact⟨congrArg Ending.returned (by rw[HE.out]; rfl),rfl⟩
     ·have HE:=Lib.hid (show j9 r=(acc+y,i+1,0) by rw[QY a] at HVV; rw[<- HVV]; rfl);clear HVV;by_cases hc0:c.toNat=0
      ·have hi0: ¬ (0<(i:Int)):=by omega
       have hcz:((c.toNat:Int) == 0)=true:=by simp[hc0]
       have HE2:=Lib.hid (show j9 r=(acc,i+1,0) by rw[HE.out,<- HY.out,hc0]; simp);go_wp2_with fail
       refine wp_loop_rounds 8 ?_;repeat (rw[rounds_succ]; go_wp2_with fail)
       all_goals
        go_ret3
        exact⟨congrArg Ending.returned (by rw[HE2.out]; rfl),rfl⟩
      ·have hcz:((c.toNat:Int) == 0)=false:=by simp; omega
       go_wp2_with fail
       refine wp_loop_rounds 8 ?_;repeat (rw[rounds_succ]; go_wp2_with fail)
       go_ret3
       exact⟨congrArg Ending.returned (by rw[HE.out]; simp only[Bu]; rw[Int.natCast_add,<- HMUL.out]; rfl),rfl⟩
   ·have hcase:(bs=32/\i=4)\/(bs=32/\i=5)\/(bs=64/\i=9)\/(bs=64/\i=10):=by
     have:=HB.out;omega
    clear hroom;rcases hcase with⟨rfl,rfl⟩ | ⟨rfl,rfl⟩ | ⟨rfl,rfl⟩ | ⟨rfl,rfl⟩
    ·by_cases hd:c.toNat % 128<16
     ·have hdd:(c.toNat:Int) % 128<=15:=by omega
      have hnb: ¬ ((32:Int) - 7*(4:Nat)<=0\/((32:Int) - 7*(4:Nat)<7/\c.toNat % 128 / 2 ^ ((32:Int) - 7*(4:Nat)).toNat≠0)):=by
       have e:c.toNat % 128 / 2 ^ ((32:Int) - 7*(4:Nat)).toNat=0:=Nat.div_eq_of_lt hd;rw[e]; omega
      have hz:=HO.out QR;obtain⟨hA1,hA2⟩:=nN (32:Int) HB.out acc (c.toNat % 128) 4 HACC.out QR QR (fun h=>hnb (.inr h));have f:2 ^ (32:Int).toNat<=18446744073709551616:=by rcases HB.out with h | h <;> rw[h] <;> decide
      have b:2 ^ (7*(4+1))=2 ^ (7*4)*128:=by rw[show 7*(4+1)=7*4+7 by omega,Nat.pow_add]
      rw[<- hz] at hA1 hA2 b;have hA3:acc+c.toNat % 128*o<18446744073709551616:=by omega
      have HA1:=Lib.hid hA1;have HP2:=Lib.hid b;have hmul:((c.toNat:Int) % 128*o)=((c.toNat % 128*o:Nat):Int):=by rw[Int.natCast_mul,Int.natCast_emod]; rfl
      have HMUL:=Lib.hid hmul;have HVV:=HV.out;rw[vgo,QY hnb,<- hz] at HVV;generalize hy:c.toNat % 128*o=y at *;have hy0:(0:Int)<=(c.toNat:Int) % 128*o:=by rw[hmul]; omega
      have hy1:(c.toNat:Int) % 128*o<=18446744073709551615:=by rw[hmul]; omega
      have hy2:(acc:Int)+(c.toNat:Int) % 128*o<=18446744073709551615:=by rw[hmul]; omega
      have HY:=Lib.hid hy;have HZ:=Lib.hid hz;clear hy hz hA1 hA2 b hmul f hnb;by_cases d:128<=c.toNat
      ·have HN:=Lib.hid (show vgo (32:Int) (l.drop (4+1)) (4+1) (acc+y) (4+1)=r by rw[QX d] at HVV; exact HVV);clear HVV;go_wp2_with fail
       refine wp_loop_rounds 5 ?_;repeat (rw[rounds_succ]; go_wp2_with fail)
       go_round
       case rel =>
        refine⟨4+1,acc+y,(o*128) % 18446744073709551616,by omega,by go_num,?_,?_,by go_num,by omega,?_,HA1.out,HN.out⟩
        ·rw[HMUL.out]; simp
        ·first | rfl | simp
        ·intro h;have g:=HP2.out;have j:2 ^ (7*(4+1))<=2 ^ 63:=Nat.pow_le_pow_right QS QR;rw[g] at j ⊢;have k:(2:Nat) ^ 63=9223372036854775808:=by decide
         omega
       case measure=>simp[intOf]; omega
      ·rw[QY d] at HVV;by_cases a:c.toNat=0/\0<4
       ·have HE:=Lib.hid (show j9 r=(0,0,3) by rw[QX a] at HVV; rw[<- HVV]; rfl);clear HVV;obtain⟨hc0,hi0⟩:=a;have hcz:((c.toNat:Int) == 0)=true:=by simp[hc0]
        go_wp2_with fail
        refine wp_loop_rounds 5 ?_;repeat (rw[rounds_succ]; go_wp2_with fail)
        go_ret3
        exact⟨congrArg Ending.returned (by rw[HE.out]; rfl),rfl⟩
       ·have HE:=Lib.hid (show j9 r=(acc+y,4+1,0) by rw[QY a] at HVV; rw[<- HVV]; rfl);clear HVV;by_cases hc0:c.toNat=0
        ·exact absurd ⟨hc0,by omega⟩ a
        ·have hcz:((c.toNat:Int) == 0)=false:=by simp; omega
         go_wp2_with fail
         refine wp_loop_rounds 5 ?_;repeat (rw[rounds_succ]; go_wp2_with fail)
         go_ret3
         exact⟨congrArg Ending.returned (by rw[HE.out]; simp only[Bu]; rw[Int.natCast_add,<- HMUL.out]; rfl),rfl⟩
     ·have HE:=Lib.hid (show j9 r=(0,0,3) by rw[<- HV.out,vgo,QX (by exact .inr ⟨by omega,by rw[show ((32:Int) - 7*((4:Nat):Int)).toNat=4 by decide]; omega⟩)]; rfl);have hdd:15<(c.toNat:Int) % 128:=by omega
      go_wp2_with fail
      refine wp_loop_rounds 5 ?_;repeat (rw[rounds_succ]; go_wp2_with fail)
      go_ret3
      exact⟨congrArg Ending.returned (by rw[HE.out]; rfl),rfl⟩
    ·have HE:=Lib.hid (show j9 r=(0,0,3) by rw[<- HV.out,vgo,QX (by left; omega)]; rfl);go_wp2_with fail
     refine wp_loop_rounds 1 ?_;repeat (rw[rounds_succ]; go_wp2_with fail)
     go_ret3
     exact⟨congrArg Ending.returned (by rw[HE.out]; rfl),rfl⟩
    ·by_cases hd:c.toNat % 128<2
     ·have hdd:(c.toNat:Int) % 128<=1:=by omega
      have hnb: ¬ ((64:Int) - 7*(9:Nat)<=0\/((64:Int) - 7*(9:Nat)<7/\c.toNat % 128 / 2 ^ ((64:Int) - 7*(9:Nat)).toNat≠0)):=by
       have e:c.toNat % 128 / 2 ^ ((64:Int) - 7*(9:Nat)).toNat=0:=Nat.div_eq_of_lt hd;rw[e]; omega
      have hz:=HO.out QR;obtain⟨hA1,hA2⟩:=nN (64:Int) HB.out acc (c.toNat % 128) 9 HACC.out QR QR (fun h=>hnb (.inr h));have f:2 ^ (64:Int).toNat<=18446744073709551616:=by rcases HB.out with h | h <;> rw[h] <;> decide
      have b:2 ^ (7*(9+1))=2 ^ (7*9)*128:=by rw[show 7*(9+1)=7*9+7 by omega,Nat.pow_add]
      rw[<- hz] at hA1 hA2 b;have hA3:acc+c.toNat % 128*o<18446744073709551616:=by omega
      have HA1:=Lib.hid hA1;have HP2:=Lib.hid b;have hmul:((c.toNat:Int) % 128*o)=((c.toNat % 128*o:Nat):Int):=by rw[Int.natCast_mul,Int.natCast_emod]; rfl
      have HMUL:=Lib.hid hmul;have HVV:=HV.out;rw[vgo,QY hnb,<- hz] at HVV;generalize hy:c.toNat % 128*o=y at *;have hy0:(0:Int)<=(c.toNat:Int) % 128*o:=by rw[hmul]; omega
      have hy1:(c.toNat:Int) % 128*o<=18446744073709551615:=by rw[hmul]; omega
      have hy2:(acc:Int)+(c.toNat:Int) % 128*o<=18446744073709551615:=by rw[hmul]; omega
      have HY:=Lib.hid hy;have HZ:=Lib.hid hz;clear hy hz hA1 hA2 b hmul f hnb;by_cases d:128<=c.toNat
      ·have HN:=Lib.hid (show vgo (64:Int) (l.drop (9+1)) (9+1) (acc+y) (9+1)=r by rw[QX d] at HVV; exact HVV);clear HVV;go_wp2_with fail
       refine wp_loop_rounds 2 ?_;repeat (rw[rounds_succ]; go_wp2_with fail)
       go_round
       case rel =>
        refine⟨9+1,acc+y,(o*128) % 18446744073709551616,by omega,by go_num,?_,?_,by go_num,by omega,?_,HA1.out,HN.out⟩
        ·rw[HMUL.out]; simp
        ·first | rfl | simp
        ·intro h;have g:=HP2.out;have j:2 ^ (7*(9+1))<=2 ^ 63:=Nat.pow_le_pow_right QS QR;rw[g] at j ⊢;have k:(2:Nat) ^ 63=9223372036854775808:=by decide
         omega
       case measure=>simp[intOf]; omega
      ·rw[QY d] at HVV;by_cases a:c.toNat=0/\0<9
       ·have HE:=Lib.hid (show j9 r=(0,0,3) by rw[QX a] at HVV; rw[<- HVV]; rfl);clear HVV;obtain⟨hc0,hi0⟩:=a;have hcz:((c.toNat:Int) == 0)=true:=by simp[hc0]
        go_wp2_with fail
        refine wp_loop_rounds 2 ?_;repeat (rw[rounds_succ]; go_wp2_with fail)
        go_ret3
        exact⟨congrArg Ending.returned (by rw[HE.out]; rfl),rfl⟩
       ·have HE:=Lib.hid (show j9 r=(acc+y,9+1,0) by rw[QY a] at HVV; rw[<- HVV]; rfl);clear HVV;by_cases hc0:c.toNat=0
        ·exact absurd ⟨hc0,by omega⟩ a
        ·have hcz:((c.toNat:Int) == 0)=false:=by simp; omega
         go_wp2_with fail
         refine wp_loop_rounds 2 ?_;repeat (rw[rounds_succ]; go_wp2_with fail)
         go_ret3
         exact⟨congrArg Ending.returned (by rw[HE.out]; simp only[Bu]; rw[Int.natCast_add,<- HMUL.out]; rfl),rfl⟩
     ·have HE:=Lib.hid (show j9 r=(0,0,3) by rw[<- HV.out,vgo,QX (by exact .inr ⟨by omega,by rw[show ((64:Int) - 7*((9:Nat):Int)).toNat=1 by decide]; omega⟩)]; rfl);have hdd:1<(c.toNat:Int) % 128:=by omega
      go_wp2_with fail
      refine wp_loop_rounds 2 ?_;repeat (rw[rounds_succ]; go_wp2_with fail)
      go_ret3
      exact⟨congrArg Ending.returned (by rw[HE.out]; rfl),rfl⟩
    ·have HE:=Lib.hid (show j9 r=(0,0,3) by rw[<- HV.out,vgo,QX (by left; omega)]; rfl);go_wp2_with fail
     refine wp_loop_rounds 1 ?_;repeat (rw[rounds_succ]; go_wp2_with fail)
     go_ret3
     exact⟨congrArg Ending.returned (by rw[HE.out]; rfl),rfl⟩
  ·have m:i=l.length:=by omega
   have HE:=Lib.hid (show j9 r=(0,0,1) by rw[m,List.drop_length] at hv; rw[<- hv]; rfl);clear hv ho hacc;go_wp2_with fail
   go_ret3
   exact⟨congrArg Ending.returned (by rw[HE.out]; rfl),rfl⟩
theorem vn (a b:AI):aY a++aY b=aY (a++b):=by
 apply ByteArray.ext;simp[aY]
attribute [local go_sem] fB bsOf_size vn
attribute [local go_sem] fB bsOf_size vn
structure Gt where
 blob:Bl
 many:Int
 err:Int
@[go_sem] def gtV (x:Gt):Value:= .agg #[.bool x.blob.null,.string (aY x.blob.data),.int .i64 x.many,.int .i64 x.err]
theorem qD:(Tryz.prog.info? 212).map (·.size)=some 4:=by kernel_rfl
def qc (l:AI) (head:Nat) (n:Int):Gt :=
 if n= -1 then ⟨⟨true,[]⟩,head,0⟩ else if n<0 then ⟨⟨false,[]⟩,0,4⟩ else if (l.length:Int) - head<n then ⟨⟨false,[]⟩,0,1⟩ else ⟨⟨false,(l.drop head).take n.toNat⟩,head+n,0⟩
theorem GQ (l:AI) (a:Nat) (n:Nat):(aY l).extract a (a+n)=aY ((l.drop a).take n):=by rw[nL,dg,Nat.add_sub_cancel_left]
theorem zb (l:AI) (head:Nat) (n:Int) (hh:head<=l.length) (hl:l.length<=140737488355328) (a: -9223372036854775808<=n) (b:n<=9223372036854775807) :
 mv Tryz.prog 174 #[.string (aY l),.int .i64 head,.int .i64 n] (fun v N=>v=gtV (qc l head n)/\N = []):=by
 intro w;have HS:=Lib.hid (L4 w);by_cases a1:n= -1
 ·have HQ:=Lib.hid (show qc l head n=⟨⟨true,[]⟩,head,0⟩ by unfold qc; rw[QX a1]);have hb:(n == -1)=true:=by simp[a1]
  clear a1;go_enter Tryz.func174,Tryz.ntmps174
  go_wp2_with fail
  refine bodyPost_ret (v:=gtV ⟨⟨true,[]⟩,head,0⟩) (results_cell_row QW _ _ w.heap.size 212 #[.bool true,.string (aY []),.int .i64 head,.int .i64 0] (0,0) _ rfl (heap_alloc_new w _) Tryz.underlying212 rfl qD) rfl ?_;exact⟨_,_,rfl,⟨congrArg gtV HQ.out.symm,rfl⟩,(HS.out.alloc _ _).drop_⟩
 have hb:(n == -1)=false:=beq_eq_false_iff_ne.2 a1;by_cases a2:n<0
 ·have HQ:=Lib.hid (show qc l head n=⟨⟨false,[]⟩,0,4⟩ by unfold qc; rw[QY a1,QX a2]);clear a1;go_enter Tryz.func174,Tryz.ntmps174
  go_wp2_with fail
  refine bodyPost_ret (v:=gtV ⟨⟨false,[]⟩,0,4⟩) (results_cell_row QW _ _ w.heap.size 212 #[.bool false,.string (aY []),.int .i64 0,.int .i64 4] (0,0) _ rfl (heap_alloc_new w _) Tryz.underlying212 rfl qD) rfl ?_;exact⟨_,_,rfl,⟨congrArg gtV HQ.out.symm,rfl⟩,(HS.out.alloc _ _).drop_⟩
 by_cases a3:(l.length:Int) - head<n
 ·have HQ:=Lib.hid (show qc l head n=⟨⟨false,[]⟩,0,1⟩ by unfold qc; rw[QY a1,QY a2,QX a3]);clear a1;go_enter Tryz.func174,Tryz.ntmps174
  go_wp2_with fail
  refine bodyPost_ret (v:=gtV ⟨⟨false,[]⟩,0,1⟩) (results_cell_row QW _ _ w.heap.size 212 #[.bool false,.string (aY []),.int .i64 0,.int .i64 1] (0,0) _ rfl (heap_alloc_new w _) Tryz.underlying212 rfl qD) rfl ?_;exact⟨_,_,rfl,⟨congrArg gtV HQ.out.symm,rfl⟩,(HS.out.alloc _ _).drop_⟩
 ·obtain⟨k,rfl⟩: ∃ k:Nat,n=k:=⟨n.toNat,by omega⟩;have HQ:=Lib.hid (show qc l head k=⟨⟨false,(l.drop head).take k⟩,head+k,0⟩ by unfold qc; rw[QY a1,QY a2,QY a3]; rfl);have hx:=GQ l head k;clear a1 a2;go_enter Tryz.func174,Tryz.ntmps174
  go_wp2_with fail
  refine bodyPost_ret (v:=gtV ⟨⟨false,(l.drop head).take k⟩,head+k,0⟩) (results_cell_row QW _ _ w.heap.size 212 #[.bool false,.string (aY ((l.drop head).take k)),.int .i64 (head+k),.int .i64 0] (0,0) _ rfl ?_ Tryz.underlying212 rfl qD) rfl ?_
  ·simp only[heap_alloc_new,hx]
  ·exact⟨_,_,rfl,⟨congrArg gtV HQ.out.symm,rfl⟩,(HS.out.alloc _ _).drop_⟩
def mW (l:AI) (k:Nat):Gt:=if l.length<k then ⟨⟨false,[]⟩,0,1⟩ else qc l k (bC (l.take k))
theorem C3 (l:AI) (k:Nat):(aY l).extract 0 k=aY (l.take k):=by rw[nL,dg]; simp
theorem FE (l:AI) (h:l.length<=8): -9223372036854775808<=bC l/\bC l<=9223372036854775807:=by
 have a:=se ⟨l,0,0⟩ l.length;by_cases hl:1<=l.length
 ·have b:=GK l 0 hl h [];rw[NQ] at b;rw[b] at a;exact a
 ·have:l = []:=List.eq_nil_of_length_eq_zero QR;subst this;simp[bC]
attribute [local go_sem] C3
theorem Bx (l:AI) (k:Nat) (hk:k<=8) (hl:l.length<=140737488355328) :
 mv Tryz.prog 121 #[.string (aY l),.int .i64 k] (fun v N=>v=gtV (mW l k)/\N = []):=by
 intro w;have HS:=Lib.hid ((L4 w).alloc #[.bool false,.string ⟨#[]⟩,.int .i64 0,.int .i64 0] 212);by_cases h:l.length<k
 ·have HQ:=Lib.hid (show mW l k=⟨⟨false,[]⟩,0,1⟩ by unfold mW; rw[QX h]);go_enter Tryz.func121,Tryz.ntmps121
  go_wp2_with fail
  refine bodyPost_ret (v:=gtV ⟨⟨false,[]⟩,0,1⟩) (results_cell_row QW _ _ w.heap.size 212 #[.bool false,.string (aY []),.int .i64 0,.int .i64 1] (0,0) _ rfl (heap_alloc_new w _) Tryz.underlying212 rfl qD) rfl ?_;exact⟨_,_,rfl,⟨congrArg gtV HQ.out.symm,rfl⟩,((L4 w).alloc _ _).drop_⟩
 ·have HQ:=Lib.hid (show mW l k=qc l k (bC (l.take k)) by unfold mW; rw[QY h]);have hb:=FE (l.take k) (by rw[NL]; omega);have c:k<=l.length:=by omega
  go_enter Tryz.func121,Tryz.ntmps121
  go_wp2_with fail
  refine ((Bi (l.take k) (by rw[NL]; omega) _)).mono ?_;rintro e w1 ⟨rfl,rfl⟩;go_wp2_with fail
  refine (L2 HS.out (zb l k (bC (l.take k)) c hl hb.1 hb.2)).mono ?_;rintro e b ⟨v,N,rfl,⟨rfl,rfl⟩,a⟩;generalize hq:qc l k (bC (l.take k))=q at *;have d:b.cell? ⟨w.heap.size,0,none⟩=some (.bool false):=bm (St.blk 0 a rfl) 0;have f:b.frozen? ⟨w.heap.size,0,none⟩=false:=cg (St.blk 0 a rfl) 0;have g:b.cell? ⟨w.heap.size,1,none⟩=some (.string ⟨#[]⟩):=bm (St.blk 0 a rfl) 1;have i:b.frozen? ⟨w.heap.size,1,none⟩=false:=cg (St.blk 0 a rfl) 1;have j:b.cell? ⟨w.heap.size,2,none⟩=some (.int .i64 0):=bm (St.blk 0 a rfl) 2;have m:b.frozen? ⟨w.heap.size,2,none⟩=false:=cg (St.blk 0 a rfl) 2;have n:b.cell? ⟨w.heap.size,3,none⟩=some (.int .i64 0):=bm (St.blk 0 a rfl) 3;have o:b.frozen? ⟨w.heap.size,3,none⟩=false:=cg (St.blk 0 a rfl) 3;have HD:=Lib.hid a;have HQ2:=Lib.hid hq;clear a hq;go_wp2_with fail
  have HE:=(((HD.out.set 0 rfl 0 (.bool q.blob.null)).set 0 rfl 1 (.string (aY q.blob.data))).set 0 rfl 2 (.int .i64 q.many)).set 0 rfl 3 (.int .i64 q.err);refine bodyPost_ret (v:=gtV q) (results_cell_row QW _ _ w.heap.size 212 #[.bool q.blob.null,.string (aY q.blob.data),.int .i64 q.many,.int .i64 q.err] (0,0) _ rfl (St.blk 0 HE rfl) Tryz.underlying212 rfl qD) rfl ?_;exact⟨_,_,rfl,⟨congrArg gtV HQ.out.symm,rfl⟩,HE.drop_⟩
def qE (l:AI) (x:Nat×Nat×Int):Gt:=if x.2.2≠0 then ⟨⟨false,[]⟩,0,x.2.2⟩ else qc l x.2.1 (eS x.1)
def mH (l:AI):Gt:=qE l (j9 (vgo 32 l 0 0 0))
theorem JB (bs:Int): ∀ (l:AI) (pos acc i:Nat),(vgo bs l pos acc i).2.pos<=pos+l.length:=by
 intro l
 induction l with
 | nil=>intro pos acc i; simp[vgo]
 | cons c l ih =>
  intro pos acc i;unfold vgo;have h:=ih (pos+1) (acc+c.toNat % 128*2 ^ (7*i)) (i+1);simp only[NB];split
  ·simp only; omega
  ·split
   ·omega
   ·split
    ·simp only; omega
    ·simp only; omega
attribute [local go_sem] Bu
theorem Ah (l:AI) (hl:l.length<=140737488355328) :
 mv Tryz.prog 230 #[.string (aY l)] (fun v N=>v=gtV (mH l)/\N = []):=by
 intro w;have HS:=Lib.hid ((L4 w).alloc #[.bool false,.string ⟨#[]⟩,.int .i64 0,.int .i64 0] 212);have hq0:mH l=qE l (j9 (vgo 32 l 0 0 0)):=rfl;have hp:=JB 32 l 0 0 0;have hlt:=GN 32 (.inl rfl) l 0 0 0 (by simp);rw[show 2 ^ (32:Int).toNat=4294967296 by decide] at hlt;have d:(j9 (vgo 32 l 0 0 0)).1<4294967296:=by unfold j9; split; exact hlt; simp
 have c:(j9 (vgo 32 l 0 0 0)).2.1<=l.length:=by unfold j9; split; (simp only; omega); simp
 have HG:=Lib.hid (Bw l 32 (.inl rfl) hl);generalize j9 (vgo 32 l 0 0 0)=x at *;obtain⟨n,many,er⟩:=x;simp only at d c;clear hp hlt;by_cases h:er≠0
 ·have HQ:=Lib.hid (show mH l=⟨⟨false,[]⟩,0,er⟩ by rw[hq0]; unfold qE; rw[QX h]);have hb:(er != 0)=true:=bne_iff_ne.2 h;clear h hq0;go_enter Tryz.func230,Tryz.ntmps230
  go_wp2_with fail
  refine ((HG.out _)).mono ?_;rintro e w1 ⟨rfl,rfl⟩;go_wp2_with fail
  refine bodyPost_ret (v:=gtV ⟨⟨false,[]⟩,0,er⟩) (results_cell_row QW _ _ w.heap.size 212 #[.bool false,.string (aY []),.int .i64 0,.int .i64 er] (0,0) _ rfl (heap_alloc_new w _) Tryz.underlying212 rfl qD) rfl ?_;exact⟨_,_,rfl,⟨congrArg gtV HQ.out.symm,rfl⟩,((L4 w).alloc _ _).drop_⟩
 ·have f:er=0:=by simpa using h
  have HQ:=Lib.hid (show mH l=qc l many (eS n) by rw[hq0]; unfold qE; rw[QY h]);have hb:(er != 0)=false:=by simp[f]
  have hvr: -9223372036854775808<=eS n/\eS n<=9223372036854775807:=by unfold eS; split <;> omega
  clear h f hq0;go_enter Tryz.func230,Tryz.ntmps230
  go_wp2_with fail
  refine ((HG.out _)).mono ?_;rintro e w1 ⟨rfl,rfl⟩;go_wp2_with fail
  refine ((za n QR _)).mono ?_;rintro e w1 ⟨rfl,rfl⟩;go_wp2_with fail
  refine (L2 HS.out (zb l many (eS n) c hl hvr.1 hvr.2)).mono ?_;rintro e b ⟨v,N,rfl,⟨rfl,rfl⟩,a⟩;generalize hq:qc l many (eS n)=q at *;have g:b.cell? ⟨w.heap.size,0,none⟩=some (.bool false):=bm (St.blk 0 a rfl) 0;have i:b.frozen? ⟨w.heap.size,0,none⟩=false:=cg (St.blk 0 a rfl) 0;have j:b.cell? ⟨w.heap.size,1,none⟩=some (.string ⟨#[]⟩):=bm (St.blk 0 a rfl) 1;have k:b.frozen? ⟨w.heap.size,1,none⟩=false:=cg (St.blk 0 a rfl) 1;have m:b.cell? ⟨w.heap.size,2,none⟩=some (.int .i64 0):=bm (St.blk 0 a rfl) 2;have o:b.frozen? ⟨w.heap.size,2,none⟩=false:=cg (St.blk 0 a rfl) 2;have p:b.cell? ⟨w.heap.size,3,none⟩=some (.int .i64 0):=bm (St.blk 0 a rfl) 3;have r:b.frozen? ⟨w.heap.size,3,none⟩=false:=cg (St.blk 0 a rfl) 3;have HD:=Lib.hid a;have HQ2:=Lib.hid hq;clear a hq;go_wp2_with fail
  have HE:=(((HD.out.set 0 rfl 0 (.bool q.blob.null)).set 0 rfl 1 (.string (aY q.blob.data))).set 0 rfl 2 (.int .i64 q.many)).set 0 rfl 3 (.int .i64 q.err);refine bodyPost_ret (v:=gtV q) (results_cell_row QW _ _ w.heap.size 212 #[.bool q.blob.null,.string (aY q.blob.data),.int .i64 q.many,.int .i64 q.err] (0,0) _ rfl (St.blk 0 HE rfl) Tryz.underlying212 rfl qD) rfl ?_;exact⟨_,_,rfl,⟨congrArg gtV HQ.out.symm,rfl⟩,HE.drop_⟩
theorem C4 (b:Nat) (st:AI×Int) (s:AI) (hl:st.1.length+s.length<=140737488355328) :
 hN Tryz.prog 52 #[.pointer (some ⟨b,0,none⟩),.string (aY s)] (bz b st) (fun v A' N=>v= .tuple #[]/\A'=bz b (iW st s)/\N = []):=by
 have h:=Bf b st (aY s) (by rw[bsOf_size]; exact hl)
 rwa [dg] at h
theorem Bz (b:Nat) (st:AI×Int):hN Tryz.prog 50 #[.pointer (some ⟨b,0,none⟩)] (bz b st) (fun v A' N=>v= .tuple #[.string (aY (otx st).1),.int .i64 (otx st).2]/\A'=bz b st/\N = []):=by
 have h:=Fx b st
 rwa [Af] at h
theorem BA (n k:Int) (a: -9223372036854775808<=n) (b:n<=9223372036854775807) (c:0<=k) (hk:k<=8) :
 mv Tryz.prog 63 #[.int .i64 n,.int .i64 k] (fun v N=>v= .string (aY (be n k.toNat))/\N = []):=by
 have h:=CP n k.toNat a b QR
 rwa [show ((k.toNat:Nat):Int)=k by omega] at h
theorem C5 (n:Int) (a:0<=n) (hn:n<18446744073709551616) (w:World):Calls Tryz.prog 236 #[.int .u64 n] w fun e w'=>e= .returned (.int .i64 (eS n.toNat))/\w=w':=by
 have h:=za n.toNat QR w
 rwa [show ((n.toNat:Nat):Int)=n by omega] at h
theorem FF (l:AI) (bs:Int) (hb:bs=32\/bs=64) (hl:l.length<=140737488355328) (w:World) :
 Calls Tryz.prog 235 #[.string (aY l),.int .i64 bs] w fun e w'=>e= .returned (.tuple #[.int .u64 ((j9 (vgo bs l 0 0 0)).1:Int),.int .i64 ((j9 (vgo bs l 0 0 0)).2.1:Int),.int .i64 (j9 (vgo bs l 0 0 0)).2.2])/\w=w':=Bw l bs hb hl w
theorem Ai (l:AI) (k:Int) (a:0<=k) (hk:k<=8) (hl:l.length<=140737488355328):mv Tryz.prog 121 #[.string (aY l),.int .i64 k] (fun v N=>v=gtV (mW l k.toNat)/\N = []):=by
 have h:=Bx l k.toNat QR hl
 rwa [show ((k.toNat:Nat):Int)=k by omega] at h
def lu (st:AI×Int) (e:Int):Option (AI×Int):=some (lU st e)
theorem tU (st:AI×Int) (e:Int):lu st e=some (lU st e):=rfl
theorem hO (g:Nat) (st:AI×Int) (e:Int) (r:AI×Int) (h:lu st e=some r):aC Tryz.prog 94 #[.pointer (some ⟨g,0,none⟩),.int .i64 e] .triv (bz g st) (fun v A' N=>v= .tuple #[]/\A'=bz g r/\N = []):=by
 unfold lu at h;obtain rfl:=Nl h;exact Li (rk g st e)
def zc (st:AI×Int) (s:AI):Option (AI×Int):=if st.1.length+s.length<=140737488355328 then some (iW st s) else none
theorem BB (st:AI×Int) (s:AI) (h:st.1.length+s.length<=140737488355328):zc st s=some (iW st s):=QX h
theorem wM (g:Nat) (st:AI×Int) (s:AI) (r:AI×Int) (h:zc st s=some r):aC Tryz.prog 52 #[.pointer (some ⟨g,0,none⟩),.string (aY s)] .triv (bz g st) (fun v A' N=>v= .tuple #[]/\A'=bz g r/\N = []):=by
 unfold zc at h;split at h
 ·rename_i a;obtain rfl:=Nl h;exact Li (C4 g st s a)
 ·simp at h
def tV (st:AI×Int) (c:Int):Option (AI×Int):=if 0<=c/\c<256/\st.1.length+1<=140737488355328 then some (iW st [UInt8.ofNat c.toNat]) else none
theorem tW (st:AI×Int) (c:Int) (h:0<=c/\c<256/\st.1.length+1<=140737488355328):tV st c=some (iW st [UInt8.ofNat c.toNat]):=QX h
theorem qF (g:Nat) (st:AI×Int) (c:Int) (r:AI×Int) (h:tV st c=some r):aC Tryz.prog 102 #[.pointer (some ⟨g,0,none⟩),.int .u8 c] .triv (bz g st) (fun v A' N=>v= .tuple #[]/\A'=bz g r/\N = []):=by
 unfold tV at h;split at h
 ·rename_i a;obtain rfl:=Nl h;exact Li (po g st c a.1 a.2.1 a.2.2)
 ·simp at h
def En (st:AI×Int)  : Option (Int×(AI×Int)):=some (st.2,st)
theorem GR (st:AI×Int)  : En st  = some (st.2,st):=rfl
theorem C6 (g:Nat) (st:AI×Int)  (r:Int×(AI×Int)) (h:En st  = some r):aC Tryz.prog 48 #[.pointer (some ⟨g,0,none⟩)] .triv (bz g st) (fun v A' N=>v= .int .i64 r.1/\A'=bz g r.2/\N = []):=by
 unfold En at h;obtain rfl:=Nl h;exact Li (GH g st)
def mX (st:AI×Int)  : Option (AI×Int×(AI×Int)):=some ((otx st).1,(otx st).2,st)
theorem lv (st:AI×Int)  : mX st  = some ((otx st).1,(otx st).2,st):=rfl
theorem iX (g:Nat) (st:AI×Int)  (r:AI×Int×(AI×Int)) (h:mX st  = some r):aC Tryz.prog 50 #[.pointer (some ⟨g,0,none⟩)] .triv (bz g st) (fun v A' N=>v= .tuple #[.string (aY r.1),.int .i64 r.2.1]/\A'=bz g r.2.2/\N = []):=by
 unfold mX at h;obtain rfl:=Nl h;exact Li (Bz g st)
def ed (st:AI×Int) (n:Int) (size:Int):Option (AI×Int):=if (-9223372036854775808<=n/\n<=9223372036854775807)/\st.1.length+8<=140737488355328 then some (yz st n size) else none
theorem GS (st:AI×Int) (n:Int) (size:Int) (h:(-9223372036854775808<=n/\n<=9223372036854775807)/\st.1.length+8<=140737488355328):ed st n size=some (yz st n size):=QX h
theorem bq (g:Nat) (st:AI×Int) (n:Int) (size:Int) (r:AI×Int) (h:ed st n size=some r):aC Tryz.prog 51 #[.pointer (some ⟨g,0,none⟩),.int .i64 n,.int .i64 size] .triv (bz g st) (fun v A' N=>v= .tuple #[]/\A'=bz g r/\N = []):=by
 unfold ed at h;split at h
 ·rename_i a;obtain rfl:=Nl h;exact Li (vh g st n size a.1.1 a.1.2 a.2)
 ·simp at h
def jG  (n:Int) (size:Int):Option (Bool):=if (-9223372036854775808<=n/\n<=9223372036854775807) then some (bA n size) else none
theorem gb  (n:Int) (size:Int) (h:(-9223372036854775808<=n/\n<=9223372036854775807)):jG  n size=some (bA n size):=QX h
theorem dH (n:Int) (size:Int) (r:Bool) (h:jG  n size=some r) (w:World):Calls Tryz.prog 101 #[.int .i64 n,.int .i64 size] w fun e w'=>e= .returned (.bool r)/\w=w':=by
 unfold jG at h;split at h
 ·rename_i a;obtain rfl:=Nl h;exact qy n size w a.1 a.2
 ·simp at h
def vK  (s:AI):Option (I):=if s.length<=9223372036854775807 then some (⟨s,0,0⟩:I) else none
theorem kC  (s:AI) (h:s.length<=9223372036854775807):vK  s=some (⟨s,0,0⟩:I):=QX h
theorem kj (s:AI) (r:I) (h:vK  s=some r):aC Tryz.prog 19 #[.string (aY s)] .triv aJ (fun v A' N=> ∃ g,v= .pointer (some ⟨g,0,none⟩)/\A'=aJ/\N = [InR g r]):=by
 unfold vK at h;split at h
 ·rename_i a;obtain rfl:=Nl h;have k:=Mt (X:= .triv) (GI (aY s) (by rw[bsOf_size]; omega));intro F w hA hX;refine (k F w hA hX).mono ?_;rintro e w' ⟨v,A',Ns,rfl,⟨rfl,b,rfl,rfl⟩,hst⟩;rw[dg] at hst;exact⟨_,_,_,rfl,⟨b,rfl,rfl,rfl⟩,hst⟩
 ·simp at h
def cm (st:I) (e:Int):Option (I):=some (dC st e)
theorem dD (st:I) (e:Int):cm st e=some (dC st e):=rfl
theorem bG (g:Nat) (st:I) (e:Int) (r:I) (h:cm st e=some r):aC Tryz.prog 70 #[.pointer (some ⟨g,0,none⟩),.int .i64 e] .triv (InR g st) (fun v A' N=>v= .tuple #[]/\A'=InR g r/\N = []):=by
 unfold cm at h;obtain rfl:=Nl h;exact Li (ib g st e)
def wN (st:I)  : Option (Int×I):=some ((st.rest.length:Int),st)
theorem sV (st:I)  : wN st  = some ((st.rest.length:Int),st):=rfl
theorem pq (g:Nat) (st:I)  (r:Int×I) (h:wN st  = some r):aC Tryz.prog 71 #[.pointer (some ⟨g,0,none⟩)] .triv (InR g st) (fun v A' N=>v= .int .i64 r.1/\A'=InR g r.2/\N = []):=by
 unfold wN at h;obtain rfl:=Nl h;exact Li (oB g st)
def BC (st:I) (n:Int):Option (AI×I):=if (-9223372036854775808<=n/\n<=9223372036854775807) then some ((cD st n).1,(cD st n).2) else none
theorem oE (st:I) (n:Int) (h:(-9223372036854775808<=n/\n<=9223372036854775807)):BC st n=some ((cD st n).1,(cD st n).2):=QX h
theorem wO (g:Nat) (st:I) (n:Int) (r:AI×I) (h:BC st n=some r):aC Tryz.prog 67 #[.pointer (some ⟨g,0,none⟩),.int .i64 n] .triv (InR g st) (fun v A' N=>v= .string (aY r.1)/\A'=InR g r.2/\N = []):=by
 unfold BC at h;split at h
 ·rename_i a;obtain rfl:=Nl h;exact Li (eL g st n a.1 a.2)
 ·simp at h
def eu (st:I) (size:Int):Option (Int×I):=some ((fc st size).1,(fc st size).2)
theorem kD (st:I) (size:Int):eu st size=some ((fc st size).1,(fc st size).2):=rfl
theorem bx (g:Nat) (st:I) (size:Int) (r:Int×I) (h:eu st size=some r):aC Tryz.prog 68 #[.pointer (some ⟨g,0,none⟩),.int .i64 size] .triv (InR g st) (fun v A' N=>v= .int .i64 r.1/\A'=InR g r.2/\N = []):=by
 unfold eu at h;obtain rfl:=Nl h;exact Li (tR g st size)
def iC (st:I)  : Option (Int×I):=some (st.err,st)
theorem bt (st:I)  : iC st  = some (st.err,st):=rfl
theorem cu (g:Nat) (st:I)  (r:Int×I) (h:iC st  = some r):aC Tryz.prog 23 #[.pointer (some ⟨g,0,none⟩)] .triv (InR g st) (fun v A' N=>v= .int .i64 r.1/\A'=InR g r.2/\N = []):=by
 unfold iC at h;obtain rfl:=Nl h;exact Li (rl g st)
def gAt (st:I)  : Option (Int×I):=some ((st.pos:Int),st)
theorem gAt_eq (st:I)  : gAt st  = some ((st.pos:Int),st):=rfl
theorem GT (g:Nat) (st:I)  (r:Int×I) (h:gAt st  = some r):aC Tryz.prog 24 #[.pointer (some ⟨g,0,none⟩)] .triv (InR g st) (fun v A' N=>v= .int .i64 r.1/\A'=InR g r.2/\N = []):=by
 unfold gAt at h;obtain rfl:=Nl h;exact Li (Jr g st)
def ew (st:I)  : Option (Int×I):=some ((fS st).err,fS st)
theorem gP (st:I)  : ew st  = some ((fS st).err,fS st):=rfl
theorem dw (g:Nat) (st:I)  (r:Int×I) (h:ew st  = some r):aC Tryz.prog 21 #[.pointer (some ⟨g,0,none⟩)] .triv (InR g st) (fun v A' N=>v= .int .i64 r.1/\A'=InR g r.2/\N = []):=by
 unfold ew at h;obtain rfl:=Nl h;exact Li (CM g st)
def jK (st:I) (size:Int) (each:Int):Option (Int×I):=if (-9223372036854775808<=size/\size<=9223372036854775807)/\(-9223372036854775808<=each/\each<=9223372036854775807) then some ((mm st size each).1,(mm st size each).2) else none
theorem tX (st:I) (size:Int) (each:Int) (h:(-9223372036854775808<=size/\size<=9223372036854775807)/\(-9223372036854775808<=each/\each<=9223372036854775807)):jK st size each=some ((mm st size each).1,(mm st size each).2):=QX h
theorem lV (g:Nat) (st:I) (size:Int) (each:Int) (r:Int×I) (h:jK st size each=some r):aC Tryz.prog 144 #[.pointer (some ⟨g,0,none⟩),.int .i64 size,.int .i64 each] .triv (InR g st) (fun v A' N=>v= .int .i64 r.1/\A'=InR g r.2/\N = []):=by
 unfold jK at h;split at h
 ·rename_i a;obtain rfl:=Nl h;exact Li (CN g st size each)
 ·simp at h
def pW (st:I)  : Option (Int×I):=some ((gz (fm 32 st)).1,(gz (fm 32 st)).2)
theorem GU (st:I)  : pW st  = some ((gz (fm 32 st)).1,(gz (fm 32 st)).2):=rfl
theorem sg (g:Nat) (st:I)  (r:Int×I) (h:pW st  = some r):aC Tryz.prog 127 #[.pointer (some ⟨g,0,none⟩)] .triv (InR g st) (fun v A' N=>v= .int .i64 r.1/\A'=InR g r.2/\N = []):=by
 unfold pW at h;obtain rfl:=Nl h;exact Li (yX g st)
def mY (st:I)  : Option (Int×I):=some ((gz (fm 64 st)).1,(gz (fm 64 st)).2)
theorem FG (st:I)  : mY st  = some ((gz (fm 64 st)).1,(gz (fm 64 st)).2):=rfl
theorem vo (g:Nat) (st:I)  (r:Int×I) (h:mY st  = some r):aC Tryz.prog 126 #[.pointer (some ⟨g,0,none⟩)] .triv (InR g st) (fun v A' N=>v= .int .i64 r.1/\A'=InR g r.2/\N = []):=by
 unfold mY at h;obtain rfl:=Nl h;exact Li (CW g st)
def sW (st:AI×Int) (n:Int):Option (AI×Int):=if (-9223372036854775808<=n/\n<=9223372036854775807)/\st.1.length+10<=140737488355328 then some (iW st (du (bE n))) else none
theorem BD (st:AI×Int) (n:Int) (h:(-9223372036854775808<=n/\n<=9223372036854775807)/\st.1.length+10<=140737488355328):sW st n=some (iW st (du (bE n))):=QX h
theorem yE (g:Nat) (st:AI×Int) (n:Int) (r:AI×Int) (h:sW st n=some r):aC Tryz.prog 181 #[.pointer (some ⟨g,0,none⟩),.int .i64 n] .triv (bz g st) (fun v A' N=>v= .tuple #[]/\A'=bz g r/\N = []):=by
 unfold sW at h;split at h
 ·rename_i a;obtain rfl:=Nl h;exact Li (yA g st n a.1.1 a.1.2 a.2)
 ·simp at h
def sX (st:AI×Int) (n:Int):Option (AI×Int):=if (-9223372036854775808<=n/\n<=9223372036854775807)/\st.1.length+10<=140737488355328 then some (jB st n) else none
theorem wP (st:AI×Int) (n:Int) (h:(-9223372036854775808<=n/\n<=9223372036854775807)/\st.1.length+10<=140737488355328):sX st n=some (jB st n):=QX h
theorem sY (g:Nat) (st:AI×Int) (n:Int) (r:AI×Int) (h:sX st n=some r):aC Tryz.prog 182 #[.pointer (some ⟨g,0,none⟩),.int .i64 n] .triv (bz g st) (fun v A' N=>v= .tuple #[]/\A'=bz g r/\N = []):=by
 unfold sX at h;split at h
 ·rename_i a;obtain rfl:=Nl h;exact Li (sR g st n a.1.1 a.1.2 a.2)
 ·simp at h
def gK  (s:AI):Option (Int):=if s.length<=8 then some (bC s) else none
theorem dc  (s:AI) (h:s.length<=8):gK  s=some (bC s):=QX h
theorem bu (s:AI) (r:Int) (h:gK  s=some r) (w:World):Calls Tryz.prog 25 #[.string (aY s)] w fun e w'=>e= .returned (.int .i64 r)/\w=w':=by
 unfold gK at h;split at h
 ·rename_i a;obtain rfl:=Nl h;exact Bi s a w
 ·simp at h
def wn  (n:Int) (k:Int):Option AI:=if (-9223372036854775808<=n/\n<=9223372036854775807)/\0<=k/\k<=8 then some (be n k.toNat) else none
theorem C7  (n:Int) (k:Int) (h:(-9223372036854775808<=n/\n<=9223372036854775807)/\0<=k/\k<=8):wn  n k=some (be n k.toNat):=QX h
theorem Aj (n:Int) (k:Int) (r:AI) (h:wn  n k=some r):aC Tryz.prog 63 #[.int .i64 n,.int .i64 k] .triv aJ (fun v A' N=>v= .string (aY r)/\A'=aJ/\N = []):=by
 unfold wn at h;split at h
 ·rename_i a;obtain rfl:=Nl h;exact LN (BA n k a.1.1 a.1.2 a.2.1 a.2.2)
 ·simp at h
def tY  (n:Int):Option (Int):=if 0<=n/\n<18446744073709551616 then some (eS n.toNat) else none
theorem tZ  (n:Int) (h:0<=n/\n<18446744073709551616):tY  n=some (eS n.toNat):=QX h
theorem qG (n:Int) (r:Int) (h:tY  n=some r) (w:World):Calls Tryz.prog 236 #[.int .u64 n] w fun e w'=>e= .returned (.int .i64 r)/\w=w':=by
 unfold tY at h;split at h
 ·rename_i a;obtain rfl:=Nl h;exact C5 n a.1 a.2 w
 ·simp at h
def vp  (s:AI) (bits:Int):Option (Int×Int×Int):=if (bits=32\/bits=64)/\s.length<=140737488355328 then some (((j9 (vgo bits s 0 0 0)).1:Int),((j9 (vgo bits s 0 0 0)).2.1:Int),(j9 (vgo bits s 0 0 0)).2.2) else none
theorem GV  (s:AI) (bits:Int) (h:(bits=32\/bits=64)/\s.length<=140737488355328):vp  s bits=some (((j9 (vgo bits s 0 0 0)).1:Int),((j9 (vgo bits s 0 0 0)).2.1:Int),(j9 (vgo bits s 0 0 0)).2.2):=QX h
theorem si (s:AI) (bits:Int) (r:Int×Int×Int) (h:vp  s bits=some r) (w:World):Calls Tryz.prog 235 #[.string (aY s),.int .i64 bits] w fun e w'=>e= .returned (.tuple #[.int .u64 r.1,.int .i64 r.2.1,.int .i64 r.2.2])/\w=w':=by
 unfold vp at h;split at h
 ·rename_i a;obtain rfl:=Nl h;exact FF s bits a.1 a.2 w
 ·simp at h
def gOf  (s:AI):Option (Bl):=some (⟨false,s⟩:Bl)
theorem gOf_eq  (s:AI):gOf  s=some (⟨false,s⟩:Bl):=rfl
theorem GW (s:AI) (r:Bl) (h:gOf  s=some r):aC Tryz.prog 143 #[.string (aY s)] .triv aJ (fun v A' N=>v= .agg #[.bool r.null,.string (aY r.data)]/\A'=aJ/\N = []):=by
 unfold gOf at h;obtain rfl:=Nl h;exact LN (sS s)
def qH  (b:Bl):Option (Bool):=some (bw b)
theorem rm  (b:Bl):qH  b=some (bw b):=rfl
theorem nO (b:Bl) (r:Bool) (h:qH  b=some r):aC Tryz.prog 148 #[.agg #[.bool b.null,.string (aY b.data)]] .triv aJ (fun v A' N=>v= .bool r/\A'=aJ/\N = []):=by
 unfold qH at h;obtain rfl:=Nl h;exact LN (qB b)
def km (st:AI×Int) (b:Bl) (size:Int):Option (AI×Int):=if (-9223372036854775808<=size/\size<=9223372036854775807)/\st.1.length+8+b.data.length<=140737488355328 then some (oC st b size) else none
theorem pu (st:AI×Int) (b:Bl) (size:Int) (h:(-9223372036854775808<=size/\size<=9223372036854775807)/\st.1.length+8+b.data.length<=140737488355328):km st b size=some (oC st b size):=QX h
theorem kE (g:Nat) (st:AI×Int) (b:Bl) (size:Int) (r:AI×Int) (h:km st b size=some r):aC Tryz.prog 95 #[.pointer (some ⟨g,0,none⟩),.agg #[.bool b.null,.string (aY b.data)],.int .i64 size] .triv (bz g st) (fun v A' N=>v= .tuple #[]/\A'=bz g r/\N = []):=by
 unfold km at h;split at h
 ·rename_i a;obtain rfl:=Nl h;exact Li (qC g st b size a.1.1 a.1.2 a.2)
 ·simp at h
def ka (st:AI×Int) (b:Bl):Option (AI×Int):=if st.1.length+10+b.data.length<=140737488355328 then some (mV st b) else none
theorem rQ (st:AI×Int) (b:Bl) (h:st.1.length+10+b.data.length<=140737488355328):ka st b=some (mV st b):=QX h
theorem mn (g:Nat) (st:AI×Int) (b:Bl) (r:AI×Int) (h:ka st b=some r):aC Tryz.prog 183 #[.pointer (some ⟨g,0,none⟩),.agg #[.bool b.null,.string (aY b.data)]] .triv (bz g st) (fun v A' N=>v= .tuple #[]/\A'=bz g r/\N = []):=by
 unfold ka at h;split at h
 ·rename_i a;obtain rfl:=Nl h;exact Li (pV g st b a)
 ·simp at h
def kF (st:AI×Int) (s:AI):Option (AI×Int):=if st.1.length+8+s.length<=140737488355328 then some (wG st s) else none
theorem vq (st:AI×Int) (s:AI) (h:st.1.length+8+s.length<=140737488355328):kF st s=some (wG st s):=QX h
theorem lP (g:Nat) (st:AI×Int) (s:AI) (r:AI×Int) (h:kF st s=some r):aC Tryz.prog 88 #[.pointer (some ⟨g,0,none⟩),.string (aY s)] .triv (bz g st) (fun v A' N=>v= .tuple #[]/\A'=bz g r/\N = []):=by
 unfold kF at h;split at h
 ·rename_i a;obtain rfl:=Nl h;exact Li (yC g st s a)
 ·simp at h
def oF (st:AI×Int) (s:AI):Option (AI×Int):=if st.1.length+10+s.length<=140737488355328 then some (wH st s) else none
theorem BE (st:AI×Int) (s:AI) (h:st.1.length+10+s.length<=140737488355328):oF st s=some (wH st s):=QX h
theorem rR (g:Nat) (st:AI×Int) (s:AI) (r:AI×Int) (h:oF st s=some r):aC Tryz.prog 132 #[.pointer (some ⟨g,0,none⟩),.string (aY s)] .triv (bz g st) (fun v A' N=>v= .tuple #[]/\A'=bz g r/\N = []):=by
 unfold oF at h;split at h
 ·rename_i a;obtain rfl:=Nl h;exact Li (yD g st s a)
 ·simp at h
def lw (st:I) (size:Int):Option (Bl×I):=some ((jJ st size).1,(jJ st size).2)
theorem FH (st:I) (size:Int):lw st size=some ((jJ st size).1,(jJ st size).2):=rfl
theorem kn (g:Nat) (st:I) (size:Int) (r:Bl×I) (h:lw st size=some r):aC Tryz.prog 142 #[.pointer (some ⟨g,0,none⟩),.int .i64 size] .triv (InR g st) (fun v A' N=>v= .agg #[.bool r.1.null,.string (aY r.1.data)]/\A'=InR g r.2/\N = []):=by
 unfold lw at h;obtain rfl:=Nl h;exact Li (vl g st size)
def db (st:I)  : Option (Bl×I):=some ((iT st).1,(iT st).2)
theorem C8 (st:I)  : db st  = some ((iT st).1,(iT st).2):=rfl
theorem fx (g:Nat) (st:I)  (r:Bl×I) (h:db st  = some r):aC Tryz.prog 128 #[.pointer (some ⟨g,0,none⟩)] .triv (InR g st) (fun v A' N=>v= .agg #[.bool r.1.null,.string (aY r.1.data)]/\A'=InR g r.2/\N = []):=by
 unfold db at h;obtain rfl:=Nl h;exact Li (sU g st)
def sZ (st:I)  : Option (AI×I):=some ((El st).1,(El st).2)
theorem pv (g:Nat) (st:I)  (r:AI×I) (h:sZ st  = some r):aC Tryz.prog 86 #[.pointer (some ⟨g,0,none⟩)] .triv (InR g st) (fun v A' N=>v= .string (aY r.1)/\A'=InR g r.2/\N = []):=by
 unfold sZ at h;obtain rfl:=Nl h;exact Li (CZ g st)
def wQ (st:I)  : Option (AI×I):=some ((Em st).1,(Em st).2)
theorem wR (g:Nat) (st:I)  (r:AI×I) (h:wQ st  = some r):aC Tryz.prog 125 #[.pointer (some ⟨g,0,none⟩)] .triv (InR g st) (fun v A' N=>v= .string (aY r.1)/\A'=InR g r.2/\N = []):=by
 unfold wQ at h;obtain rfl:=Nl h;exact Li (C0 g st)
def nP  (s:AI):Option (Bool):=some (et s)
theorem pw  (s:AI):nP  s=some (et s):=rfl
theorem mI (s:AI) (r:Bool) (h:nP  s=some r) (w:World):Calls Tryz.prog 87 #[.string (aY s)] w fun e w'=>e= .returned (.bool r)/\w=w':=by
 unfold nP at h;obtain rfl:=Nl h;exact C2 s w
def jV  (s:AI) (k:Int):Option (Gt):=if 0<=k/\k<=8/\s.length<=140737488355328 then some (mW s k.toNat) else none
theorem iY  (s:AI) (k:Int) (h:0<=k/\k<=8/\s.length<=140737488355328):jV  s k=some (mW s k.toNat):=QX h
theorem iK (s:AI) (k:Int) (r:Gt) (h:jV  s k=some r):aC Tryz.prog 121 #[.string (aY s),.int .i64 k] .triv aJ (fun v A' N=>v= .agg #[.bool r.blob.null,.string (aY r.blob.data),.int .i64 r.many,.int .i64 r.err]/\A'=aJ/\N = []):=by
 unfold jV at h;split at h
 ·rename_i a;obtain rfl:=Nl h;exact LN (Ai s k a.1 a.2.1 a.2.2)
 ·simp at h
def ko  (s:AI):Option (Gt):=if s.length<=140737488355328 then some (mH s) else none
theorem kG  (s:AI) (h:s.length<=140737488355328):ko  s=some (mH s):=QX h
theorem iZ (s:AI) (r:Gt) (h:ko  s=some r):aC Tryz.prog 230 #[.string (aY s)] .triv aJ (fun v A' N=>v= .agg #[.bool r.blob.null,.string (aY r.blob.data),.int .i64 r.many,.int .i64 r.err]/\A'=aJ/\N = []):=by
 unfold ko at h;split at h
 ·rename_i a;obtain rfl:=Nl h;exact LN (Ah s a)
 ·simp at h
inductive Lp (R S:Type) where
 | ret (r:R)
 | go (s:S)
section
variable {α:Type}
def kp (size:Nat) (E:Rd α) (w:World) (S:Nat->Prop):List Value->List α->Prop
 | cs,[]=>cs = []
 | cs,x::xs=>(cs.take size).length=size/\E.P w S (cs.take size) x/\kp size E w S (cs.drop size) xs
variable {size:Nat} {E:Rd α} {w w':World} {S S':Nat->Prop}
theorem wU: ∀ {xs:List α} {cs:List Value},kp size E w S cs xs->(∀ k,S k->S' k)->kp size E w S' cs xs
 | [],_,h,_=>h
 | _ :: _,_,⟨a,b,c⟩,k=>⟨a,E.mono b k,wU c k⟩
theorem mZ: ∀ {xs:List α} {cs:List Value},kp size E w S cs xs->(∀ k,S k->w'.heap[k]? = w.heap[k]?)->kp size E w' S cs xs
 | [],_,h,_=>h
 | _ :: _,_,⟨a,b,c⟩,k=>⟨a,E.move b k,mZ c k⟩
theorem mJ: ∀ {xs:List α} {cs:List Value},kp size E w S cs xs->cs.length=xs.length*size
 | [],cs,h=>by simp[show cs = [] from h]
 | x::xs,cs,⟨a,_,b⟩=>by
  have c:=mJ b;rw[NL] at a;rw[Nx] at c;rw[NB,Nat.add_mul,Nat.one_mul];omega
theorem sj: ∀ {xs:List α} {cs news:List Value} {x:α},kp size E w S cs xs->news.length=size->E.P w S news x->kp size E w S (cs++news) (xs ++ [x])
 | [],cs,news,x,h,hl,hx=>by
  obtain rfl:cs = []:=h;exact⟨by simp[hl],by rw[NG,List.take_of_length_le QR]; exact hx,by rw[NG,List.drop_of_length_le QR]; exact rfl⟩
 | y::ys,cs,news,x,⟨a,b,c⟩,hl,hx=>by
  have hle:size<=cs.length:=by rw[NL] at a; omega
  refine⟨?_,?_,?_⟩
  ·rw[List.take_append_of_le_length hle]; exact a
  ·rw[List.take_append_of_le_length hle]; exact b
  ·rw[List.drop_append_of_le_length hle]; exact sj c hl hx
theorem t6: ∀ {xs:List α} {cs:List Value} {i:Nat} {x:α},kp size E w S cs xs->xs[i]? = some x->((cs.drop (i*size)).take size).length=size/\E.P w S ((cs.drop (i*size)).take size) x
 | [],_,i,_,_,hi=>by simp at hi
 | y::ys,cs,0,x,⟨b,c,_⟩,hi=>by
  obtain rfl:y=x:=by simpa using hi
  rw[Nat.zero_mul,List.drop_zero];exact⟨b,c⟩
 | y::ys,cs,i+1,x,⟨_,_,d⟩,hi=>by
  have a:=t6 (i:=i) d (by simpa using hi);rw[Oa] at a
  rwa [show size+i*size=(i+1)*size by rw[Nat.add_mul]; omega] at a
def bK (T:TypeId) (size:Nat) (E:Rd α) (v:Value) (xs:List α):Res where
 P:=fun w G=> ∃ cells S,w.ownsRow 0 T size v xs.length cells/\kp size E w S cells xs/\(∀ k,S k->k<w.heap.size)/\(∀ k,v.ownBlock=some k-> ¬ S k)/\ ∀ k,G k↔v.ownBlock=some k\/S k
 lt:=by
  rintro w G ⟨cells,S,b,d,c,e,a⟩ k hk;rcases (a k).1 hk with h | h
  ·exact Ac b k h
  ·exact c k h
 move:=by
  rintro w w' G ⟨cells,S,b,d,c,e,a⟩ hm;refine⟨cells,S,sN b (fun k hk=>hm k ((a k).2 (.inl hk))),mZ d (fun k hk=>hm k ((a k).2 (.inr hk))),fun k hk=> ?_,e,a⟩;have g:=c k hk;have f:=hm k ((a k).2 (.inr hk));rw[Array.getElem?_eq_getElem g] at f;exact (Array.getElem?_eq_some_iff.1 f).1
theorem bF {T:TypeId} {v:Value} {xs:List α} (hp:0<size): ∀ w G,(bK T size E v xs).P w G->(RX.of (ar size E) [v] xs).P w G:=by
 rintro w G ⟨cells,S,a,c,f,h,b⟩;have hb:=a;rcases a.2 with⟨rfl,hn⟩ | ⟨g,cap,cur,rfl,hbg,hg,hnc,hcm,hcs,htake⟩
 ·exact .inl ⟨rfl,List.eq_nil_of_length_eq_zero hn⟩
 ·refine .inr ⟨⟨g,0,none⟩,cap,rfl,hnc,hcm,fun _=>(b g).2 (.inl rfl),fun i x hx=> ?_⟩;obtain⟨d,e⟩:=t6 c hx;have hi:i<xs.length:=(Nq hx).1;refine⟨_,d,fun j hj=> ?_,E.mono e (fun k hk=>(b k).2 (.inr hk))⟩;have hadd:(⟨g,0,none⟩:Addr).add (i*size+j)=⟨g,i*size+j,none⟩:=by unfold Addr.add; split <;> simp_all
  have hlt:i*size+j<xs.length*size:=by
   have:(i+1)*size<=xs.length*size:=Nat.mul_le_mul_right _ QR;rw[Nat.add_mul] at this;omega
  rw[hadd,hb.cellAt _ hlt,List.getElem?_take,QX hj,List.getElem?_drop]
theorem cc {cs:List Value} {a:α}: ∀ w G,(RdR E cs a).P w G->(RX.of E cs a).P w G:=fun _ _ h=>h.1
theorem t7: ∀ w S,(RX.of (ar size E) [.slice none 0 0] []).P w S:=fun _ _=> .inl ⟨rfl,rfl⟩
theorem cE {F:Nat->Prop}:(RX.of (ar size E) [.slice none 0 0] []).reads w F:=⟨fun _=>False,.inl ⟨rfl,rfl⟩,fun _ h=>h.elim⟩
theorem Lg {F:Nat->Prop} {A:AT} {n c i:Nat} {l:List α} {x:α} (hp:0<size) (h:(RX.of (ar size E) [.slice A n c] l).reads w F) (hx:l[i]? = some x) :
 ∃ g o:Nat,A=some ⟨g,o,none⟩/\ ∃ cs,cs.length=size/\(∀ j,j<size->w.cell? ⟨g,o+i*size+j,none⟩=cs[j]?)/\(¬ F g/\g<w.heap.size)/\(RX.of E cs x).reads w F:=by
 obtain⟨S,h,hS⟩:=h;rcases h with⟨h,rfl⟩ | ⟨a,cap,h,_,_,hb,d⟩
 ·simp at hx
 ·injection h with h;injection h with f s t;subst f;have hl:0<l.length:=by have:=(Nq hx).1; omega
  obtain⟨cs0,u,k,_⟩:=d 0 l[0] (List.getElem?_eq_getElem hl);have b:=k 0 hp;rw[List.getElem?_eq_getElem QR] at b;have m:a.add (0*size+0)=a:=by simp[Addr.add]
  rw[m] at b;have e:=tP b;obtain⟨cs,p,q,r⟩:=d i x hx;refine⟨a.block,a.off,by rw[<- e],cs,p,fun j hj=> ?_,hS _ (hb hl),S,r,hS⟩;rw[<- q j hj,e,WideShapes.add_plain,Nat.add_assoc]
theorem L8 {F:Nat->Prop} {g o n c i:Nat} {l:List α} {x:α} (hp:0<size) (h:(RX.of (ar size E) [.slice (some ⟨g,o,none⟩) n c] l).reads w F) (hx:l[i]? = some x) :
 ∃ cs,cs.length=size/\(∀ j,j<size->w.cell? ⟨g,o+i*size+j,none⟩=cs[j]?)/\(¬ F g/\g<w.heap.size)/\(RX.of E cs x).reads w F:=by
 obtain⟨g',o',a,cs,b⟩:=Lg hp h hx;injection a with a;injection a with d e;subst d e;exact⟨cs,b⟩
theorem Ly {F:Nat->Prop} {A:AT} {n c:Nat} {l:List α} (h:(RX.of (ar size E) [.slice A n c] l).reads w F):l.length<=9223372036854775807:=by
 obtain⟨S,h,hS⟩:=h;rcases h with⟨h,rfl⟩ | ⟨a,cap,h,b,d,_⟩
 ·simp
 ·have:maxLen=9223372036854775807:=rfl;omega
theorem St.old2 {F0:Nat->Prop} {w wr:World} {Rs:List Res} {v:Option Value} {g o:Nat} (h:St F0 w Rs wr) (hb: ¬ F0 g/\g<w.heap.size) (hc:w.cell? ⟨g,o,none⟩=v):wr.cell? ⟨g,o,none⟩=v:=by
 rw[<- hc];have e:=h.fr.block g hb.2 hb.1;simp only[World.cell?,e]
theorem bY {l:List α} {k:Nat} {x:α} (h:l[k]? = some x):l.drop k=x::l.drop (k+1):=by
 obtain⟨hk,rfl⟩:=Nq h;exact List.drop_eq_getElem_cons hk
theorem RdR.nil {F0:Nat->Prop} {w0:World} {Rs:List Res} (size:Nat) (E:Rd α) (h:St F0 w0 Rs w):St F0 w0 (RdR (ar size E) [.slice none 0 0] []::Rs) w :=
 h.grow (Ns := [RdR (ar size E) [.slice none 0 0] []]) (Fr.refl _ _) ⟨fun _=>False,⟨.inl ⟨rfl,rfl⟩,fun _ h=>h.elim⟩,fun _ h=>h.elim,trivial⟩
theorem bK.shut {F0:Nat->Prop} {w0:World} {Rs:List Res} {T:TypeId} {v:Value} {xs:List α} (hp:0<size) (i:Nat) (h:St F0 w0 Rs w) (hi:Rs[i]? = some (bK T size E v xs)):St F0 w0 (Rs.set i (RdR (ar size E) [v] xs)) w :=
 h.weaken i hi (fun G hG=>⟨bF hp _ _ hG,fun k hk=>(bK T size E v xs).lt hG k hk⟩)
section
variable {F0:Nat->Prop} {w0 w1:World} {Rs:List Res} {T:TypeId} {v v1:Value} {xs:List α} {B:Res}
theorem bK.nil (T:TypeId) (size:Nat) (E:Rd α) (h:St F0 w0 Rs w):St F0 w0 (bK T size E (.slice none 0 0) []::Rs) w :=
 h.grow (Ns := [bK T size E (.slice none 0 0) []]) (Fr.refl _ _) ⟨fun _=>False,⟨[],fun _=>False,World.ownsRow_nil _ _ _ _,rfl,fun _ h=>h.elim,fun _ _ h=>h,fun k=>by simp[Value.ownBlock]⟩,fun _ h=>h.elim,trivial⟩
theorem bK.lit (E:Rd α) (h:St F0 w0 Rs w) (cs:Array Value) (xs:List α) (hm:xs.length<=maxLen) (he:kp size E (w.alloc (.cells cs T)) (fun _=>False) cs.toList xs) :
 St F0 w0 (bK T size E (.slice (some ⟨w.heap.size,0,none⟩) xs.length xs.length) xs::Rs) (w.alloc (.cells cs T)) :=
 h.grow (Ns := [bK T size E (.slice (some ⟨w.heap.size,0,none⟩) xs.length xs.length) xs]) (Mc ((Below.refl _ _).alloc (N3 _) _))
  ⟨fun k=>k=w.heap.size,⟨cs.toList,fun _=>False,World.ownsRow_lit w cs xs.length (NH _) hm (by have:=mJ he; simpa using this),he,fun _ h=>h.elim,fun _ _ h=>h,fun k=>by simp[Value.ownBlock,eq_comm]⟩,fun k hk=>by omega,trivial⟩
theorem bK.open_ (i:Nat) (h:St F0 w0 Rs w) (hi:Rs[i]? = some (bK T size E v xs)) :
 ∃ cells,w.ownsRow 0 T size v xs.length cells/\ ∀ v1 w1 news x,w1.ownsRow 0 T size v1 (xs.length+1) (cells++news)->w.grownBy w1 v.ownBlock->(v1.ownBlock=v.ownBlock\/ ∃ k,v1.ownBlock=some k/\w.heap.size<=k)->news.length=size ->
  (∀ w S,E.P w S news x)->St F0 w0 (Rs.set i (bK T size E v1 (xs ++ [x]))) w1:=by
 obtain⟨f,hs⟩:=h;obtain⟨G,⟨cells,S,j,l,c,d,b⟩,hG,hr⟩:=Sep.pick i hi hs;refine⟨cells,j,fun v1 w1 news x ho hg hat hl hx=> ?_⟩;have hst:St F0 w0 Rs w:=⟨f,hs⟩;have hne: ∀ k,S k->k<w.heap.size/\some k≠v.ownBlock:=fun k hk=>⟨c k hk,fun e=>d k e.symm hk⟩;have hS1:kp size E w1 S cells xs:=mZ l (fun k hk=>hg.block k (hne k hk).1 (hne k hk).2);have hle:=hg.size;have g:Fr G w w1:=Mi hg (fun k hk=>(b k).2 (.inl hk));refine⟨f.trans g hG,?_⟩;have hfs:=f.size;have hR:Sep (Rs.eraseIdx i) w1 (fun k=>((F0 k\/w0.heap.size<=k)/\ ¬ G k)/\k<w.heap.size):=hr.inside.move (fun k hk _=>g.block k hk.2 hk.1.2);refine Sep.back (G:=fun k=>v1.ownBlock=some k\/S k) i hi ⟨cells++news,S,?_,sj hS1 hl (hx _ _),fun k hk=>Nat.lt_of_lt_of_le (c k hk) hle,?_,fun _=>Iff.rfl⟩ ?_ (hR.mono (fun k hk=>⟨hk.1.1,?_⟩))
 ·rw[Nr]; exact ho
 ·intro k hk;rcases hat with e | ⟨k',e,hk'⟩
  ·rw[e] at hk; exact d k hk
  ·rw[e] at hk;injection hk with hk;subst hk;intro hs';have:=c _ hs';omega
 ·rintro k (hk | hk)
  ·rcases hat with e | ⟨k',e,hk'⟩
   ·rw[e] at hk; exact hG k ((b k).2 (.inl hk))
   ·rw[e] at hk;injection hk with hk;subst hk;exact .inr QR
  ·exact hG k ((b k).2 (.inr hk))
 ·rintro (a | a)
  ·rcases hat with e | ⟨k',e,hk'⟩
   ·rw[e] at a; exact hk.1.2 ((b k).2 (.inl a))
   ·rw[e] at a;injection a with a;subst a;have:=hk.2;omega
  ·exact hk.1.2 ((b k).2 (.inr a))
theorem bK.open2 (i j:Nat) (h:St F0 w0 Rs w) (hi:Rs[i]? = some (bK T size E v xs)) (hj:(Rs.eraseIdx i)[j]? = some B) :
 ∃ cells,w.ownsRow 0 T size v xs.length cells/\ ∀ v1 w1 news x,w1.ownsRow 0 T size v1 (xs.length+1) (cells++news)->w.grownBy w1 v.ownBlock->(v1.ownBlock=v.ownBlock\/ ∃ k,v1.ownBlock=some k/\w.heap.size<=k)->news.length=size ->
  (∀ w G,B.P w G->E.P w G news x)->St F0 w0 (bK T size E v1 (xs ++ [x])::(Rs.eraseIdx i).eraseIdx j) w1:=by
 obtain⟨f,hs⟩:=h;obtain⟨G,⟨cells,S,l,m,c,g,b⟩,hG,hr⟩:=Sep.pick i hi hs;obtain⟨H,hB,hH,hr2⟩:=Sep.pick j hj hr;refine⟨cells,l,fun v1 w1 news x ho hg hat hl hx=> ?_⟩;have hne: ∀ k,S k->k<w.heap.size/\some k≠v.ownBlock:=fun k hk=>⟨c k hk,fun e=>g k e.symm hk⟩;have hS1:kp size E w1 S cells xs:=mZ m (fun k hk=>hg.block k (hne k hk).1 (hne k hk).2);have hle:=hg.size;have d:Fr G w w1:=Mi hg (fun k hk=>(b k).2 (.inl hk));have hfs:=f.size;have hB1:B.P w1 H:=B.move hB (fun k hk=>d.block k (B.lt hB k hk) (hH k hk).2);refine⟨f.trans d hG,?_⟩;have hR:Sep ((Rs.eraseIdx i).eraseIdx j) w1 (fun k=>(((F0 k\/w0.heap.size<=k)/\ ¬ G k)/\ ¬ H k)/\k<w.heap.size):=hr2.inside.move (fun k hk _=>d.block k hk.2 hk.1.1.2);have hlt1:=B.lt hB;refine⟨fun k=>v1.ownBlock=some k\/(S k\/H k),⟨cells++news,fun k=>S k\/H k,?_,sj (wU hS1 (fun _ h=> .inl h)) hl (E.mono (hx _ _ hB1) (fun _ h=> .inr h)),?_,?_,fun _=>Iff.rfl⟩,?_,hR.mono (fun k hk=>⟨hk.1.1.1,?_⟩)⟩
 ·rw[Nr]; exact ho
 ·rintro k (hk | hk)
  ·exact Nat.lt_of_lt_of_le (c k hk) hle
  ·exact Nat.lt_of_lt_of_le (hlt1 k hk) hle
 ·intro k hk;rcases hat with e | ⟨k',e,hk'⟩
  ·rw[e] at hk;rintro (a | a)
   ·exact g k hk a
   ·exact (hH k a).2 ((b k).2 (.inl hk))
  ·rw[e] at hk;injection hk with hk;subst hk;rintro (a | a)
   ·have:=c _ a; omega
   ·have:=hlt1 _ a; omega
 ·rintro k (hk | hk | hk)
  ·rcases hat with e | ⟨k',e,hk'⟩
   ·rw[e] at hk; exact hG k ((b k).2 (.inl hk))
   ·rw[e] at hk;injection hk with hk;subst hk;exact .inr QR
  ·exact hG k ((b k).2 (.inr hk))
  ·exact (hH k hk).1
 ·rintro (a | a | a)
  ·rcases hat with e | ⟨k',e,hk'⟩
   ·rw[e] at a; exact hk.1.1.2 ((b k).2 (.inl a))
   ·rw[e] at a;injection a with a;subst a;have:=hk.2;omega
  ·exact hk.1.1.2 ((b k).2 (.inr a))
  ·exact hk.1.2 a
end
end
section
variable {P:Program} (w:World)
end
end Go.Proofs.YtheikonlgjdopaaGreat.Sl
