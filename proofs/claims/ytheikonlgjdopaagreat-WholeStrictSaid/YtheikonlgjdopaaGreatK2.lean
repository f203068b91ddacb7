/- wholeStrict_holds: part 2. -/
import Derived.Test.YtheikonlgjdopaaGreatK1
set_option maxRecDepth 100000
set_option maxHeartbeats 4000000
set_option linter.defProp false
namespace Go.Proofs.YtheikonlgjdopaaGreat.Sl
open Go.RowKit
set_option linter.unusedVariables false
set_option linter.unusedSimpArgs false
def CP := @decide_eq_true
def CS := @decide_eq_false
def CU := @eq_false_of_ne_true
def CX := @Tryz.sizeOf3
def CY := @Tryz.sizeOf236
def C0 := @Tryz.isAgg3
def C2 := @Tryz.sizeOf91
def C4 := @Tryz.runUnderlying232
def C7 := @Tryz.runUnderlying159
def C8 := @Tryz.sizeOf23
def Db := @List.append_nil
def Dd := @Tryz.isAgg91
def De := @Tryz.isAgg236
def Df := @Tryz.isAgg234
def Do := @Tryz.runUnderlying91
def Dv := @Tryz.runUnderlying9
def DC := @Tryz.sizeOf4
def DD := @Tryz.sizeOf9
def DE := @Tryz.runUnderlying161
def DF := @Tryz.sizeOf159
def DG := @Tryz.isAgg23
def DL := @Tryz.isAgg9
def DP := @Tryz.runUnderlying23
def DQ := @Tryz.runUnderlying89
def DR := @Tryz.runUnderlying78
def D1 := @Tryz.runUnderlying3
def D3 := @Tryz.results78
def D7 := @Tryz.results137
def Eb := @Tryz.sizeOf245
def Ed := @Tryz.isAgg159
def Eg := @Tryz.results187
def El := @Tryz.runUnderlying245
def Em := @Tryz.runUnderlying313
def Eo := @Tryz.sizeOf89
def Er := @Tryz.results129
def Es := @Tryz.results130
def EH := @Tryz.runUnderlying238
def EI := @Tryz.runUnderlying236
def EO := @Tryz.results188
def ET := @Tryz.sizeOf161
def wA0 (x:Rec) (A0:Option Addr) (c0:Nat):Array Value:= #[.int .i64 x.Co,.int .i64 x.Cd,.bool x.Cq.null,.string (aC x.Cq.data),.bool x.Cb.null,.string (aC x.Cb.data),.slice A0 x.B6.length c0]
def wA1 (x:Pfx):Array Value:= #[.int .i64 x.Cn,.int .i64 x.Cr,.int .i64 x.Ch,.int .i64 x.CC,.int .i64 x.CE,.int .i64 x.Cl,.int .i64 x.B9,.int .i64 x.Cu,.int .i64 x.BX,.int .i64 x.B5,.int .i64 x.Ca,.int .i64 x.CD]
def wL2 (x:Hd):List Value := [.string (aC x.Cq),.bool x.Cb.null,.string (aC x.Cb.data)]
def wA3 (x:Hd):Array Value:= #[.string (aC x.Cq),.bool x.Cb.null,.string (aC x.Cb.data)]
def wL4 (x:Rec) (A0:Option Addr) (c0:Nat):List Value := [.int .i64 x.Co,.int .i64 x.Cd,.bool x.Cq.null,.string (aC x.Cq.data),.bool x.Cb.null,.string (aC x.Cb.data),.slice A0 x.B6.length c0]
def wA5 (x:Bat) (A0:Option Addr) (c0:Nat):Array Value:= #[.int .i64 x.Cn,.int .i64 x.Ch,.bool x.CF,.bool x.CI,.bool x.Ct,.int .i64 x.Cl,.int .i64 x.B9,.int .i64 x.Cu,.int .i64 x.BX,.int .i64 x.B5,.int .i64 x.Ca,.slice A0 x.B0.length c0]
def wL6 (x:Bat) (A0:Option Addr) (c0:Nat):List Value := [.int .i64 x.Cn,.int .i64 x.Ch,.bool x.CF,.bool x.CI,.bool x.Ct,.int .i64 x.Cl,.int .i64 x.B9,.int .i64 x.Cu,.int .i64 x.BX,.int .i64 x.B5,.int .i64 x.Ca,.slice A0 x.B0.length c0]
def wL7 (x:Pfx):List Value := [.int .i64 x.Cn,.int .i64 x.Cr,.int .i64 x.Ch,.int .i64 x.CC,.int .i64 x.CE,.int .i64 x.Cl,.int .i64 x.B9,.int .i64 x.Cu,.int .i64 x.BX,.int .i64 x.B5,.int .i64 x.Ca,.int .i64 x.CD]
def wA8 (x:Val) (A0:Option Addr) (c0:Nat):Array Value:= #[.int .i64 x.BX,.int .i64 x.B5,.int .i64 x.B8,.int .i64 x.CA,.slice A0 x.BZ.length c0,.int .i64 x.CK,.int .i64 x.CH]
def wL9 (x:Val) (A0:Option Addr) (c0:Nat):List Value := [.int .i64 x.BX,.int .i64 x.B5,.int .i64 x.B8,.int .i64 x.CA,.slice A0 x.BZ.length c0,.int .i64 x.CK,.int .i64 x.CH]
def qd (x:aD):Array Value:= #[.bool x.Cc.null,.string (aC x.Cc.data),.int .i64 x.B8,.int .i64 x.BX,.int .i64 x.B5]
def wL11 (x:aD):List Value := [.bool x.Cc.null,.string (aC x.Cc.data),.int .i64 x.B8,.int .i64 x.BX,.int .i64 x.B5]
def wA12 (x:bh) (A0:Option Addr) (c0:Nat):Array Value:= #[.string (aC x.Cc),.int .i64 x.BX,.int .i64 x.B5,.slice A0 x.BZ.length c0]
def wL13 (x:bh) (A0:Option Addr) (c0:Nat):List Value := [.string (aC x.Cc),.int .i64 x.BX,.int .i64 x.B5,.slice A0 x.BZ.length c0]
def wA14 (x:bc):Array Value:= #[.string (aC x.Cc),.int .i64 x.BX,.int .i64 x.B5,.bool x.Cw]
def wL15 (x:bc):List Value := [.string (aC x.Cc),.int .i64 x.BX,.int .i64 x.B5,.bool x.Cw]
def wA16 (x:aA) (A0:Option Addr) (c0:Nat):Array Value:= #[.int .i64 x.BX,.int .i64 x.B5,.bool x.Cw,.slice A0 x.BZ.length c0,.int .i64 x.Ci]
def wL17 (x:aA) (A0:Option Addr) (c0:Nat):List Value := [.int .i64 x.BX,.int .i64 x.B5,.bool x.Cw,.slice A0 x.BZ.length c0,.int .i64 x.Ci]
def qe (x:ao) (A0:Option Addr) (c0:Nat):Array Value:= #[.bool x.Cc.null,.string (aC x.Cc.data),.int .i64 x.CG,.int .i64 x.B8,.slice A0 x.BZ.length c0]
def wL19 (x:ao) (A0:Option Addr) (c0:Nat):List Value := [.bool x.Cc.null,.string (aC x.Cc.data),.int .i64 x.CG,.int .i64 x.B8,.slice A0 x.BZ.length c0]
def wA20 (x:dv):Array Value:= #[.int .i64 x.Cm,.int .i64 x.Ce,.int .i64 x.Cv,.bool x.Cg.null,.string (aC x.Cg.data)]
def wL21 (x:dv):List Value := [.int .i64 x.Cm,.int .i64 x.Ce,.int .i64 x.Cv,.bool x.Cg.null,.string (aC x.Cg.data)]
def kh (x:ax) (A0:Option Addr) (A1:Option Addr) (A2:Option Addr) (c0:Nat) (c1:Nat) (c2:Nat):Array Value:= #[.int .i64 x.Cp.Cm,.int .i64 x.Cp.Ce,.int .i64 x.Cp.Cv,.bool x.Cp.Cg.null,.string (aC x.Cp.Cg.data),.bool x.Cx.Cc.null,.string (aC x.Cx.Cc.data),.int .i64 x.Cx.B8,.int .i64 x.Cx.BX,.int .i64 x.Cx.B5,.string (aC x.Cy.Cc),.int .i64 x.Cy.BX,.int .i64 x.Cy.B5,.slice A0 x.Cy.BZ.length c0,.string (aC x.CJ.Cc),.int .i64 x.CJ.BX,.int .i64 x.CJ.B5,.bool x.CJ.Cw,.slice A1 x.Cz.length c1,.bool x.Cj.Cc.null,.string (aC x.Cj.Cc.data),.int .i64 x.Cj.CG,.int .i64 x.Cj.B8,.slice A2 x.Cj.BZ.length c2]
def wL23 (x:ax) (A0:Option Addr) (A1:Option Addr) (A2:Option Addr) (c0:Nat) (c1:Nat) (c2:Nat):List Value := [.int .i64 x.Cp.Cm,.int .i64 x.Cp.Ce,.int .i64 x.Cp.Cv,.bool x.Cp.Cg.null,.string (aC x.Cp.Cg.data),.bool x.Cx.Cc.null,.string (aC x.Cx.Cc.data),.int .i64 x.Cx.B8,.int .i64 x.Cx.BX,.int .i64 x.Cx.B5,.string (aC x.Cy.Cc),.int .i64 x.Cy.BX,.int .i64 x.Cy.B5,.slice A0 x.Cy.BZ.length c0,.string (aC x.CJ.Cc),.int .i64 x.CJ.BX,.int .i64 x.CJ.B5,.bool x.CJ.Cw,.slice A1 x.Cz.length c1,.bool x.Cj.Cc.null,.string (aC x.Cj.Cc.data),.int .i64 x.Cj.CG,.int .i64 x.Cj.B8,.slice A2 x.Cj.BZ.length c2]
def wA24 (x:dv):Array Value:= #[.int .i64 x.Cm,.int .i64 x.Ce,.int .i64 x.Cv,.bool x.Cg.null,.string (aC x.Cg.data),.bool false,.string ⟨#[]⟩,.int .i64 0,.int .i64 0,.int .i64 0,.string ⟨#[]⟩,.int .i64 0,.int .i64 0,.slice none 0 0,.string ⟨#[]⟩,.int .i64 0,.int .i64 0,.bool false,.slice none 0 0,.bool false,.string ⟨#[]⟩,.int .i64 0,.int .i64 0,.slice none 0 0]
def vA0 (p0:Nat) (p1:Nat):Array Value:= #[.pointer (some ⟨p0,0,none⟩),.int .i64 8,.pointer (some ⟨p0,1,none⟩),.int .i64 4,.pointer (some ⟨p0,2,none⟩),.int .i64 4,.pointer (some ⟨p1,0,none⟩),.int .i64 1,.pointer (some ⟨p0,3,none⟩),.int .i64 4,.pointer (some ⟨p0,4,none⟩),.int .i64 2,.pointer (some ⟨p0,5,none⟩),.int .i64 4,.pointer (some ⟨p0,6,none⟩),.int .i64 8,.pointer (some ⟨p0,7,none⟩),.int .i64 8,.pointer (some ⟨p0,8,none⟩),.int .i64 8,.pointer (some ⟨p0,9,none⟩),.int .i64 2,.pointer (some ⟨p0,10,none⟩),.int .i64 4,.pointer (some ⟨p0,11,none⟩),.int .i64 4]
def vA1 (p0:Int) (p1:Int):Array Value:= #[.int .i64 p0,.int .i64 p1,.bool false,.string ⟨#[]⟩,.bool false,.string ⟨#[]⟩,.slice none 0 0]
def vA2 (p0:Int) (p1:Int) (p2:Bl):Array Value:= #[.int .i64 p0,.int .i64 p1,.bool p2.null,.string (aC p2.data),.bool false,.string ⟨#[]⟩,.slice none 0 0]
def vA3 (p0:Int) (p1:Int) (p2:Bl) (p3:Bl):Array Value:= #[.int .i64 p0,.int .i64 p1,.bool p2.null,.string (aC p2.data),.bool p3.null,.string (aC p3.data),.slice none 0 0]
def vA4 (p0:Int) (p1:Int) (p2:Option Addr) (p3:Nat) (p4:Nat) (p5:Bl) (p6:Bl):Array Value:= #[.int .i64 p0,.int .i64 p1,.bool p5.null,.string (aC p5.data),.bool p6.null,.string (aC p6.data),.slice p2 p4 p3]
def vL5 (p0:Int) (p1:Int) (p2:Option Addr) (p3:Nat) (p4:Nat) (p5:Bl) (p6:Bl):List Value := [.int .i64 p0,.int .i64 p1,.bool p5.null,.string (aC p5.data),.bool p6.null,.string (aC p6.data),.slice p2 p4 p3]
def vA6 (p0:Int) (p1:Int) (p2:Int) (p3:Int):Array Value:= #[.int .i64 p0,.int .i64 p1,.int .i64 p2,.int .i64 p3,.slice none 0 0,.int .i64 0,.int .i64 0]
def vA7 (p0:Int) (p1:Int) (p2:Int) (p3:Int) (p4:Option Addr) (p5:Nat) (p6:Nat) (p7:Int) (p8:Int):Array Value:= #[.int .i64 p0,.int .i64 p1,.int .i64 p2,.int .i64 p3,.slice p4 p6 p5,.int .i64 p7,.int .i64 p8]
def vA8 (p0:Int) (p1:Int) (p2:Int) (p3:Bl):Array Value:= #[.bool p3.null,.string (aC p3.data),.int .i64 p0,.int .i64 p1,.int .i64 p2]
def vA9 (p0:Int) (p1:Int) (p2:Option Addr) (p3:Nat) (p4:Nat) (p5:Bl):Array Value:= #[.bool p5.null,.string (aC p5.data),.int .i64 p0,.int .i64 p1,.slice p2 p4 p3]
def rG (p0:Int) (p1:Int) (p2:Int) (p3:Bl):Array Value:= #[.int .i64 p0,.int .i64 p1,.int .i64 p2,.bool p3.null,.string (aC p3.data)]
def vA11 (p0:dv) (p1:aD):Array Value:= #[.int .i64 p0.Cm,.int .i64 p0.Ce,.int .i64 p0.Cv,.bool p0.Cg.null,.string (aC p0.Cg.data),.bool p1.Cc.null,.string (aC p1.Cc.data),.int .i64 p1.B8,.int .i64 p1.BX,.int .i64 p1.B5,.string ⟨#[]⟩,.int .i64 0,.int .i64 0,.slice none 0 0,.string ⟨#[]⟩,.int .i64 0,.int .i64 0,.bool false,.slice none 0 0,.bool false,.string ⟨#[]⟩,.int .i64 0,.int .i64 0,.slice none 0 0]
def vA12 (p0:dv) (p1:bc):Array Value:= #[.int .i64 p0.Cm,.int .i64 p0.Ce,.int .i64 p0.Cv,.bool p0.Cg.null,.string (aC p0.Cg.data),.bool false,.string ⟨#[]⟩,.int .i64 0,.int .i64 0,.int .i64 0,.string ⟨#[]⟩,.int .i64 0,.int .i64 0,.slice none 0 0,.string (aC p1.Cc),.int .i64 p1.BX,.int .i64 p1.B5,.bool p1.Cw,.slice none 0 0,.bool false,.string ⟨#[]⟩,.int .i64 0,.int .i64 0,.slice none 0 0]
def vA13 (p0:Option Addr) (p1:Nat) (p2:Nat) (p3:dv):Array Value:= #[.int .i64 p3.Cm,.int .i64 p3.Ce,.int .i64 p3.Cv,.bool p3.Cg.null,.string (aC p3.Cg.data),.bool false,.string ⟨#[]⟩,.int .i64 0,.int .i64 0,.int .i64 0,.string ⟨#[]⟩,.int .i64 0,.int .i64 0,.slice none 0 0,.string ⟨#[]⟩,.int .i64 0,.int .i64 0,.bool false,.slice p0 p2 p1,.bool false,.string ⟨#[]⟩,.int .i64 0,.int .i64 0,.slice none 0 0]
def vA14 (p0:Option Addr) (p1:Nat) (p2:Nat) (p3:dv) (p4:ao):Array Value:= #[.int .i64 p3.Cm,.int .i64 p3.Ce,.int .i64 p3.Cv,.bool p3.Cg.null,.string (aC p3.Cg.data),.bool false,.string ⟨#[]⟩,.int .i64 0,.int .i64 0,.int .i64 0,.string ⟨#[]⟩,.int .i64 0,.int .i64 0,.slice none 0 0,.string ⟨#[]⟩,.int .i64 0,.int .i64 0,.bool false,.slice none 0 0,.bool p4.Cc.null,.string (aC p4.Cc.data),.int .i64 p4.CG,.int .i64 p4.B8,.slice p0 p2 p1]
section
variable {P:Program} {n:Nat} {F0:Nat→Prop} {w0:World} {e e':Env} {Rs Rs' Rf:List Res} {Q:Exit→Act→World→Prop} {K:Act→World→Prop} {ops:Array Oper} {ft:fj} {x y z:Code} {c:Operand} {id:Nat} {os:List Oper} {l:List Nat}
theorem rT {S:World→Prop} {G:World→Nat→Prop}: ∀ w,S w→RX.triv.reads w (G w):=fun w _=>RX.reads_triv w (G w)
theorem sT {S:World→Prop} {F0:Nat→Prop} {w0:World} {Rs:List Res} {i:Nat}: ∀ w,S w→Src F0 w0 Rs w i .triv:=fun _ _=>Src.triv i
theorem zY (hl:List.range os.toArray.size=l) (h:TL P n F0 w0 os.toArray l e Rs (Exit.then (y.wp P Q) Q)):T P n F0 w0 e Rs (.seq (.region id os.toArray false) y) Q:=T.seq (T.region hl h)
theorem T.ss (h:T P n F0 w0 e Rs x (Exit.then (z.wp P (Exit.then (y.wp P Q) Q)) (Exit.then (y.wp P Q) Q))):T P n F0 w0 e Rs (.seq (.seq x z) y) Q:=T.seq (T.seq h)
theorem zZ (h:T P n F0 w0 e Rs y Q):TL P n F0 w0 ops [] e Rs (Exit.then (y.wp P Q) Q):=TL.nil (X.seq h)
theorem Br (h:T P n F0 w0 e Rs y Q):TD P n F0 w0 ops .nil Rf e Rs (Exit.then (y.wp P Q) Q):=TD.nil (X.seq h)
theorem Ar (h:T P n F0 w0 e Rs y Q):T P n F0 w0 e Rs .skip (Exit.then (y.wp P Q) Q):=T.skip (X.seq h)
theorem Bb {p:Prop} [Decidable p] (hc:e.ev c=some (.bool (decide p))) (hb:p) (h:T P n F0 w0 e Rs x Q):T P n F0 w0 e Rs (.cond c x y) Q:=Ae hc (CP hb) h
theorem Bc {p:Prop} [Decidable p] (hc:e.ev c=some (.bool (decide p))) (hb: ¬p) (h:T P n F0 w0 e Rs y Q):T P n F0 w0 e Rs (.cond c x y) Q:=Ay hc (CS hb) h
theorem T.yn {p:Prop} [Decidable p] (hc:e.ev c=some (.bool (!decide p))) (hb: ¬p) (h:T P n F0 w0 e Rs x Q):T P n F0 w0 e Rs (.cond c x y) Q:=Ae hc (by simp[hb]) h
theorem T.nn {p:Prop} [Decidable p] (hc:e.ev c=some (.bool (!decide p))) (hb:p) (h:T P n F0 w0 e Rs y Q):T P n F0 w0 e Rs (.cond c x y) Q:=Ay hc (by simp[hb]) h
theorem A4 {p:Prop} [Decidable p] (hc:e.ev c=some (.bool (decide p))) (hb:p) (h:T P n F0 w0 e Rs x Q):TL P n F0 w0 ops [] e Rs (Exit.then ((Code.cond c x y).wp P Q) Q):=zZ (Bb hc hb h)
theorem A7 {p:Prop} [Decidable p] (hc:e.ev c=some (.bool (decide p))) (hb: ¬p) (h:T P n F0 w0 e Rs y Q):TL P n F0 w0 ops [] e Rs (Exit.then ((Code.cond c x y).wp P Q) Q):=zZ (Bc hc hb h)
theorem At {p:Prop} [Decidable p] (hc:e.ev c=some (.bool (!decide p))) (hb: ¬p) (h:T P n F0 w0 e Rs x Q):TL P n F0 w0 ops [] e Rs (Exit.then ((Code.cond c x y).wp P Q) Q):=zZ (T.yn hc hb h)
theorem Au {p:Prop} [Decidable p] (hc:e.ev c=some (.bool (!decide p))) (hb:p) (h:T P n F0 w0 e Rs y Q):TL P n F0 w0 ops [] e Rs (Exit.then ((Code.cond c x y).wp P Q) Q):=zZ (T.nn hc hb h)
theorem Ab (hl:List.range os.toArray.size=l) (h:TL P n F0 w0 os.toArray l e Rs (Exit.then (y.wp P Q) Q)):TL P n F0 w0 ops [] e Rs (Exit.then ((Code.seq (.region id os.toArray false) y).wp P Q) Q):=zZ (zY hl h)
theorem Az (hl:List.range os.toArray.size=l) (h:TL P n F0 w0 os.toArray l e Rs (Exit.then (y.wp P Q) Q)):T P n F0 w0 e Rs .skip (Exit.then ((Code.seq (.region id os.toArray false) y).wp P Q) Q):=Ar (zY hl h)
theorem zX (hft:ft.OK P) (k:Nat) (h:qb ft n ops e (l.take k)=some e') (K:TL P n F0 w0 ops (l.drop k) e' Rs Q):TL P n F0 w0 ops l e Rs Q:=TL.run hft (l.take k) (List.take_append_drop k l).symm h K
theorem z8 (hft:ft.OK P) (h:qb ft n ops e l=some e') (K:T P n F0 w0 e' Rs y Q):TL P n F0 w0 ops l e Rs (Exit.then (y.wp P Q) Q):=TL.run hft l (Db l).symm h (zZ K)
theorem Ai (hft:ft.OK P) (h:qb ft n ops e l=some e') {l':List Nat} (hl:List.range os.toArray.size=l') (K:TL P n F0 w0 os.toArray l' e' Rs (Exit.then (y.wp P Q) Q)):TL P n F0 w0 ops l e Rs (Exit.then ((Code.seq (.region id os.toArray false) y).wp P Q) Q):=z8 hft h (zY hl K)
theorem A9 (hft:ft.OK P) (h:nw ft [] #[] n ops e [] l=some (e',[])) (K:T P n F0 w0 e' Rs y Q):TL P n F0 w0 ops l e Rs (Exit.then (y.wp P Q) Q):=by have h3:=BU (l := []) hft l h (zZ K); rwa [Db] at h3
theorem BA {nt:List Nat} {cs:Array Value} {b T':Nat} {L:List Nat} (hft:ft.OK P) (hnt:NOK P nt) (j:Nat) (hi:Rs[j]? = some (ay b T' cs)) (h:nw ft nt cs n ops e [] l=some (e',L)) (hL:L=L.map fun _=>b) (K:T P n F0 w0 e' Rs y Q):TL P n F0 w0 ops l e Rs (Exit.then (y.wp P Q) Q):=z6 hft hnt j hi l.length (by rw[List.take_length]; exact h) hL (by rw[List.drop_length]; exact zZ K)
theorem z4 {i d:Nat} {op:Op} {ty:TypeId} {pos:String} {af:Array Edge} {v:Value} (ho:ops[i]? = some ⟨some d,op,ty,pos,af,none⟩) (hx:Ex P n e (St F0 w0 Rs) ⟨some d,op,ty,pos,af,none⟩ v) (hd:Nat.blt d n=true) (h:TL P n F0 w0 ops l ((d,v)::e) Rs Q):TL P n F0 w0 ops (i::l) e Rs Q:=TL.q ho .u hx hd h
theorem Aa {i d:Nat} {op:Op} {ty:TypeId} {pos:String} {af:Array Edge} {v:Value} {lo:Sch} (ho:ops[i]? = some ⟨some d,op,ty,pos,af,none⟩) (hx:Ex P n e (St F0 w0 Rf) ⟨some d,op,ty,pos,af,none⟩ v) (hd:Nat.blt d n=true) (h:TD P n F0 w0 ops lo Rf ((d,v)::e) Rs Q):TD P n F0 w0 ops (.q i lo) Rf e Rs Q:=TD.q ho .u hx hd h
theorem Ah {n:Nat} {F0:Nat→Prop} {w0:World} {e e':Env} {Rs Rs':List Res} {Q:Exit→Act→World→Prop} {R:Env→List Res→Prop} (is:List Nat) (hR:R e' Rs':=by exact⟨rfl,rfl⟩) (he:Sub e' e:=by rfl) (hr:Sel Rs is Rs':=by rfl):X n F0 w0 e Rs .normal (Exit.then (JK n F0 w0 R) Q):=X.jq is hR he hr
theorem Af {P:Program} {n:Nat} {F0:Nat→Prop} {w0:World} {e:Env} {Rs Ns:List Res} {A':Res} {f:Func} {r1:ResultVar} {v1:Value} {z:Exit} {R:Value→Res→List Res→Prop} (is:List Nat) (hf:f.results= #[r1]) (h1:RV P n F0 w0 e Rs r1 v1) (hR:R v1 A' Ns:=by exact⟨rfl,rfl,rfl⟩) (hr:Sel Rs is (A'::Ns):=by rfl) (hx:z= .ret∨z= .normal:=by exact .inl rfl):X n F0 w0 e Rs z (bodyPost P f (ng R F0 w0)):=Aw is hf h1 hR hr hx
end
def ub:fj := [(23,0,0),(23,1,1),(91,1,1),(91,2,2),(91,3,4),(91,4,6)]
theorem am:(ub).OK Tryz.prog:=⟨FOK.mk DP rfl DC rfl,FOK.mk DP rfl DD rfl,FOK.mk Do rfl CX rfl,FOK.mk Do rfl C8 rfl,FOK.mk Do rfl C8 rfl,FOK.mk Do rfl Eo rfl,trivial⟩
def uc:List Nat := [3,4,9,89]
theorem dy:NOK Tryz.prog uc:=⟨C0,Tryz.isAgg4,DL,Tryz.isAgg89,trivial⟩
def cy (st:I)  : Option (I):=(bW st 2).bind fun (x1,st2)=>if x1=0 then some st2 else ((bg st2 7).bind fun st5=>some st5)
theorem gb (g:Nat) (st:I)  (r:I) (h:cy st  = some r):au Tryz.prog 217 #[jP g] .triv (InR g st) (fun v A' N=>v= .tuple #[]∧A'=InR g r∧N = []):=by
 refine aL Tryz.func217 Z Tryz.ntmps217 Z ?_
 intro F w hX
 unfold cy at h
 refine zY Z ?_
 obtain⟨⟨x1,st2⟩,hx3,h⟩:=CL h
 try dsimp only at h
 refine zX am 1 Z (Aq Z .u (.fn Tryz.call68 Z) (aE g st 2 _ hx3) sT Z (zX am 1 Z ?_))
 rcases jF h with⟨c4,h⟩ | ⟨c4,h⟩
 ·refine Au Z c4 ?_
  obtain rfl:=CN h
  exact T.skip (AR [0] Tryz.results217 ⟨Z,Z,Z⟩ (by rfl) (.inr Z))
 refine At Z c4 (T.region Z ?_)
 obtain⟨st5,hx6,h⟩:=CL h
 refine zX am 1 Z (Aq Z .u (.fn Tryz.call70 Z) (aU g st2 7 _ hx6) sT Z ?_)
 obtain rfl:=CN h
 exact TL.nil (AR [0] Tryz.results217 ⟨Z,Z,Z⟩ (by rfl) (.inr Z))
def cQ (a0:List UInt8):Option (Int×Int):=(mw a0).bind fun st1=>(cy st1).bind fun st4=>(bW st4 2).bind fun (x6,st7)=>if x6=0 then ((cc st7).bind fun (x10,st11)=>if x10=0 then some (x6,0) else some (0,x10)) else (if x6=1 then ((cc st7).bind fun (x15,st16)=>if x15=0 then some (x6,0) else some (0,x15)) else ((bg st7 12).bind fun st19=>(cc st19).bind fun (x21,st22)=>if x21=0 then some (x6,0) else some (0,x21)))
theorem j0 (a0:List UInt8) (r:Int×Int) (h:cQ a0=some r):au Tryz.prog 187 #[jS a0] .triv (aI) (fun v A' N=>v= .tuple #[jI r.1,jI r.2]∧A'=aI∧N = []):=by
 refine aL Tryz.func187 Z Tryz.ntmps187 Z ?_
 intro F w hX
 unfold cQ at h
 refine zY Z (Ai am Z Z ?_)
 obtain⟨st1,hx2,h⟩:=CL h
 refine zX am 1 Z (AY Z .u (.fn Tryz.call19 Z) (eY a0 _ hx2) rT Z ?_)
 rintro _ _ _ ⟨b3,rfl,rfl,rfl⟩
 refine AD [0,0] Z (Ai am Z Z ?_)
 obtain⟨st4,hx5,h⟩:=CL h
 refine zX am 1 Z (Aq Z .u (.fn Tryz.call217 Z) (gb b3 st1 _ hx5) sT Z (Ab Z ?_))
 obtain⟨⟨x6,st7⟩,hx8,h⟩:=CL h
 try dsimp only at h
 refine zX am 1 Z (Aq Z .u (.fn Tryz.call68 Z) (aE b3 st4 2 _ hx8) sT Z (z8 am Z (T.seq (zY Z ?_))))
 rcases jF h with⟨c9,h⟩ | ⟨c9,h⟩
 ·refine zX am 3 Z (z9 15 Z (cv (CP c9)) (A9 am Z (Ay Z Z (Ar (T.seq (zY Z ?_))))))
  obtain⟨⟨x10,st11⟩,hx12,h⟩:=CL h
  try dsimp only at h
  refine zX am 1 Z (Aq Z .u (.fn Tryz.call21 Z) (bw b3 st7 _ hx12) sT Z (Ai am Z Z (zX am 2 Z ?_)))
  rcases jF h with⟨c13,h⟩ | ⟨c13,h⟩
  ·refine Au Z c13 (Az Z (zX am 3 Z ?_))
   obtain rfl:=CN h
   exact zZ (T.ret (Ax [1] Eg (z5 Z) (z5 Z) ⟨Z,Z,Z⟩ (by rfl) (.inl Z)))
  refine At Z c13 (zY Z (zX am 3 Z ?_))
  obtain rfl:=CN h
  exact zZ (T.ret (z7 (Ax [1] Eg (z5 Z) (z5 Z) ⟨Z,Z,Z⟩ (by rfl) (.inl Z))))
 refine zX am 3 Z (z9 15 Z (cE (CS c9)) (Ac am 3 Z ?_))
 rcases jF h with⟨c14,h⟩ | ⟨c14,h⟩
 ·refine Au Z c14 (Ar (T.seq (zY Z ?_)))
  obtain⟨⟨x15,st16⟩,hx17,h⟩:=CL h
  try dsimp only at h
  refine zX am 1 Z (Aq Z .u (.fn Tryz.call21 Z) (bw b3 st7 _ hx17) sT Z (Ai am Z Z (zX am 2 Z ?_)))
  rcases jF h with⟨c18,h⟩ | ⟨c18,h⟩
  ·refine Au Z c18 (Az Z (zX am 3 Z ?_))
   obtain rfl:=CN h
   exact zZ (T.ret (Ax [1] Eg (z5 Z) (z5 Z) ⟨Z,Z,Z⟩ (by rfl) (.inl Z)))
  refine At Z c18 (zY Z (zX am 3 Z ?_))
  obtain rfl:=CN h
  exact zZ (T.ret (z7 (Ax [1] Eg (z5 Z) (z5 Z) ⟨Z,Z,Z⟩ (by rfl) (.inl Z))))
 refine At Z c14 (T.region Z ?_)
 obtain⟨st19,hx20,h⟩:=CL h
 refine zX am 1 Z (Aq Z .u (.fn Tryz.call70 Z) (aU b3 st7 12 _ hx20) sT Z (zZ (T.seq (zY Z ?_))))
 obtain⟨⟨x21,st22⟩,hx23,h⟩:=CL h
 try dsimp only at h
 refine zX am 1 Z (Aq Z .u (.fn Tryz.call21 Z) (bw b3 st19 _ hx23) sT Z (Ai am Z Z (zX am 2 Z ?_)))
 rcases jF h with⟨c24,h⟩ | ⟨c24,h⟩
 ·refine Au Z c24 (Az Z (zX am 3 Z ?_))
  obtain rfl:=CN h
  exact zZ (T.ret (Ax [1] Eg (z5 Z) (z5 Z) ⟨Z,Z,Z⟩ (by rfl) (.inl Z)))
 refine At Z c24 (zY Z (zX am 3 Z ?_))
 obtain rfl:=CN h
 exact zZ (T.ret (z7 (Ax [1] Eg (z5 Z) (z5 Z) ⟨Z,Z,Z⟩ (by rfl) (.inl Z))))
def cx (a0:List UInt8):Option (Int×Int):=(mw a0).bind fun st1=>(cy st1).bind fun st4=>(bW st4 4).bind fun (x6,st7)=>if x6<0 then ((bg st7 11).bind fun st10=>(cc st10).bind fun (x12,st13)=>if x12=0 then some (x6,0) else some (0,x12)) else ((cc st7).bind fun (x16,st17)=>if x16=0 then some (x6,0) else some (0,x16))
theorem jk (a0:List UInt8) (r:Int×Int) (h:cx a0=some r):au Tryz.prog 188 #[jS a0] .triv (aI) (fun v A' N=>v= .tuple #[jI r.1,jI r.2]∧A'=aI∧N = []):=by
 refine aL Tryz.func188 Z Tryz.ntmps188 Z ?_
 intro F w hX
 unfold cx at h
 refine zY Z (Ai am Z Z ?_)
 obtain⟨st1,hx2,h⟩:=CL h
 refine zX am 1 Z (AY Z .u (.fn Tryz.call19 Z) (eY a0 _ hx2) rT Z ?_)
 rintro _ _ _ ⟨b3,rfl,rfl,rfl⟩
 refine AD [0,0] Z (Ai am Z Z ?_)
 obtain⟨st4,hx5,h⟩:=CL h
 refine zX am 1 Z (Aq Z .u (.fn Tryz.call217 Z) (gb b3 st1 _ hx5) sT Z (Ab Z ?_))
 obtain⟨⟨x6,st7⟩,hx8,h⟩:=CL h
 try dsimp only at h
 refine zX am 1 Z (Aq Z .u (.fn Tryz.call68 Z) (aE b3 st4 4 _ hx8) sT Z (z8 am Z (T.seq (zY Z (zX am 2 Z ?_)))))
 rcases jF h with⟨c9,h⟩ | ⟨c9,h⟩
 ·refine A4 Z c9 (T.region Z ?_)
  obtain⟨st10,hx11,h⟩:=CL h
  refine zX am 1 Z (Aq Z .u (.fn Tryz.call70 Z) (aU b3 st7 11 _ hx11) sT Z (zZ (T.seq (zY Z ?_))))
  obtain⟨⟨x12,st13⟩,hx14,h⟩:=CL h
  try dsimp only at h
  refine zX am 1 Z (Aq Z .u (.fn Tryz.call21 Z) (bw b3 st10 _ hx14) sT Z (Ai am Z Z (zX am 2 Z ?_)))
  rcases jF h with⟨c15,h⟩ | ⟨c15,h⟩
  ·refine Au Z c15 (Az Z (zX am 3 Z ?_))
   obtain rfl:=CN h
   exact zZ (T.ret (Ax [1] EO (z5 Z) (z5 Z) ⟨Z,Z,Z⟩ (by rfl) (.inl Z)))
  refine At Z c15 (zY Z (zX am 3 Z ?_))
  obtain rfl:=CN h
  exact zZ (T.ret (z7 (Ax [1] EO (z5 Z) (z5 Z) ⟨Z,Z,Z⟩ (by rfl) (.inl Z))))
 refine A7 Z c9 (Ar (T.seq (zY Z ?_)))
 obtain⟨⟨x16,st17⟩,hx18,h⟩:=CL h
 try dsimp only at h
 refine zX am 1 Z (Aq Z .u (.fn Tryz.call21 Z) (bw b3 st7 _ hx18) sT Z (Ai am Z Z (zX am 2 Z ?_)))
 rcases jF h with⟨c19,h⟩ | ⟨c19,h⟩
 ·refine Au Z c19 (Az Z (zX am 3 Z ?_))
  obtain rfl:=CN h
  exact zZ (T.ret (Ax [1] EO (z5 Z) (z5 Z) ⟨Z,Z,Z⟩ (by rfl) (.inl Z)))
 refine At Z c19 (zY Z (zX am 3 Z ?_))
 obtain rfl:=CN h
 exact zZ (T.ret (z7 (Ax [1] EO (z5 Z) (z5 Z) ⟨Z,Z,Z⟩ (by rfl) (.inl Z))))
def cG (a0:Rec):Option (Int×Int×Int):=if a0.Cq.null=true then some (0,0,12) else (if a0.Cb.null=true then some (0,0,12) else (if (a0.B6.length:Int)>0 then some (0,0,12) else (if a0.Cd=0 then ((cQ a0.Cq.data).bind fun (x8,x9)=>if x9=0 then ((cx a0.Cb.data).bind fun (x12,x13)=>if x13=0 then some (x8,x12,0) else some (0,0,x13)) else some (0,0,x9)) else some (0,0,12))))
theorem ls (a0:Rec) (A1:Option Addr) (c2:Nat) (r:Int×Int×Int) (h:cG a0=some r):au Tryz.prog 137 #[.agg (wA0 a0 A1 c2)] (RX.of (an 3 bT) [.slice A1 a0.B6.length c2] a0.B6) (aI) (fun v A' N=>v= .tuple #[jI r.1,jI r.2.1,jI r.2.2]∧A'=aI∧N = []):=by
 refine aL Tryz.func137 Z Tryz.ntmps137 Z ?_
 intro F w hX
 unfold cG at h
 refine zY Z (TL.box Z .u Z Z (fun b3=>(z8 am Z (T.seq (zY Z ?_)))))
 rcases jF h with⟨c4,h⟩ | ⟨c4,h⟩
 ·refine z6 am dy 0 Z 4 Z Z (z9 8 Z c4 (A9 am Z (Ae Z Z (zY Z (zX am 3 Z ?_)))))
  obtain rfl:=CN h
  exact zZ (T.ret (z7 (BN [1] D7 (z5 Z) (z5 Z) (z5 Z) ⟨Z,Z,Z⟩ (by rfl) (.inl Z))))
 replace c4:=CU c4
 refine z6 am dy 0 Z 4 Z Z (z9 8 Z c4 ?_)
 rcases jF h with⟨c5,h⟩ | ⟨c5,h⟩
 ·refine z6 am dy 0 Z 5 Z Z (z9 13 Z c5 (A9 am Z (Ae Z Z (zY Z (zX am 3 Z ?_)))))
  obtain rfl:=CN h
  exact zZ (T.ret (z7 (BN [1] D7 (z5 Z) (z5 Z) (z5 Z) ⟨Z,Z,Z⟩ (by rfl) (.inl Z))))
 replace c5:=CU c5
 refine z6 am dy 0 Z 5 Z Z (z9 13 Z c5 (z6 am dy 0 Z 2 Z Z (TL.q Z (.g Z Z Z) (AB Z DQ) Z ?_)))
 rcases jF h with⟨c6,h⟩ | ⟨c6,h⟩
 ·refine Ac am 3 Z (z9 19 Z (CP c6) (A9 am Z (Ae Z Z (zY Z (zX am 3 Z ?_)))))
  obtain rfl:=CN h
  exact zZ (T.ret (z7 (BN [1] D7 (z5 Z) (z5 Z) (z5 Z) ⟨Z,Z,Z⟩ (by rfl) (.inl Z))))
 refine Ac am 3 Z (z9 19 Z (CS c6) (z6 am dy 0 Z 4 Z Z ?_))
 rcases jF h with⟨c7,h⟩ | ⟨c7,h⟩
 ·refine Au Z c7 (Ar (T.seq (zY Z ?_)))
  obtain⟨⟨x8,x9⟩,hx10,h⟩:=CL h
  try dsimp only at h
  refine z6 am dy 0 Z 3 Z Z (An Z .u (.fn Tryz.call187 Z) (j0 a0.Cq.data _ hx10) rT Z (Ai am Z Z (zX am 2 Z ?_)))
  rcases jF h with⟨c11,h⟩ | ⟨c11,h⟩
  ·refine Au Z c11 (Ar (T.seq (zY Z ?_)))
   obtain⟨⟨x12,x13⟩,hx14,h⟩:=CL h
   try dsimp only at h
   refine z6 am dy 0 Z 3 Z Z (An Z .u (.fn Tryz.call188 Z) (jk a0.Cb.data _ hx14) rT Z (Ai am Z Z (zX am 2 Z ?_)))
   rcases jF h with⟨c15,h⟩ | ⟨c15,h⟩
   ·refine Au Z c15 (Az Z (zX am 5 Z ?_))
    obtain rfl:=CN h
    exact zZ (T.ret (BN [1] D7 (z5 Z) (z5 Z) (z5 Z) ⟨Z,Z,Z⟩ (by rfl) (.inl Z)))
   refine At Z c15 (zY Z (zX am 4 Z ?_))
   obtain rfl:=CN h
   exact zZ (T.ret (z7 (BN [1] D7 (z5 Z) (z5 Z) (z5 Z) ⟨Z,Z,Z⟩ (by rfl) (.inl Z))))
  refine At Z c11 (zY Z (zX am 4 Z ?_))
  obtain rfl:=CN h
  exact zZ (T.ret (z7 (BN [1] D7 (z5 Z) (z5 Z) (z5 Z) ⟨Z,Z,Z⟩ (by rfl) (.inl Z))))
 refine At Z c7 (zY Z (zX am 3 Z ?_))
 obtain rfl:=CN h
 exact zZ (T.ret (z7 (BN [1] D7 (z5 Z) (z5 Z) (z5 Z) ⟨Z,Z,Z⟩ (by rfl) (.inl Z))))
def ft_crc:fj := []
theorem aK:(ft_crc).OK Tryz.prog:=trivial
theorem ze:Tryz.prog.follows .mixedOrders=true:=by kernel_rfl
def dT:Nat→Int→Nat→Option (Int×Nat)
 | 0,_,_=>none
 | m40+1,y35,k36=>if (k36:Int)<8 then ((if (Go.bits .and .u32 y35 1)=1 then (some (Go.bits .xor .u32 (qc .u32 y35 1) 2197175160)) else some (qc .u32 y35 1)).bind fun y46=>if -9223372036854775808≤((k36:Int)+1)∧((k36:Int)+1)≤9223372036854775807 then (dT m40 y46 (k36+1)) else none) else some (y35,k36)
def eI:Nat→Nat→List Int→Option (Nat×List Int)
 | 0,_,_=>none
 | m7+1,k2,st3=>if (k2:Int)<256 then (((dT ((8:Int).toNat+1) (IntKind.u32.wrap (k2:Int)) 0).bind fun (y52,k53)=>(st3[k2]?).bind fun x54=>some (st3.set k2 y52)).bind fun st33=>if -9223372036854775808≤((k2:Int)+1)∧((k2:Int)+1)≤9223372036854775807 then (eI m7 (k2+1) st33) else none) else some (k2,st3)
def iB  : Option (List Int):=(eI ((256:Int).toNat+1) 0 (List.replicate 256 (0:Int))).bind fun (k57,st58)=>some st58
theorem gc  (r:List Int) (h:iB  = some r):au Tryz.prog 84 #[] .triv (aI) (fun v A' N=> ∃ q:Nat,v=jP q∧A'=aI∧N = [iU 238 q r]):=by
 refine aL Tryz.func84 Z Tryz.ntmps84 Z ?_
 intro F w hX
 unfold iB at h
 refine zY Z (Ai aK Z Z (z4 Z (Ex.bldZ Tryz.zeroValue238 EH ET) Z ?_))
 refine TL.tNew Z .u Z (by kernel_rfl) Z (fun b1=> ?_)
 refine z8 aK Z (T.seq (zY Z (z8 aK Z (T.block ?_))))
 obtain⟨E4,hE5,hO6⟩:=CL h
 refine AX (fun m e Rs=> ∃ (k2:Nat) (st3:List Int),e = [(0,.pointer none),(1,jP b1),(6,jI (k2:Int))]∧Rs = [iU 238 b1 st3,aI]∧eI m k2 st3=some E4) ((256:Int).toNat+1) [0,0] ⟨0,(List.replicate 256 (0:Int)),Z,Z,by exact hE5⟩ (by rfl) (by rfl) ?_
 clear hE5 h
 rintro m7 _ _ ⟨k2,st3,rfl,rfl,h⟩
 cases m7 with
 | zero =>
  rw[eI] at h
  cases h
 | succ m7 =>
  rw[eI] at h
  refine zY Z (zX aK 1 Z ?_)
  rcases jF h with⟨c11,h⟩ | ⟨c11,h⟩
  ·refine zZ (T.seq (Bb Z c11 (Ar (T.seq ?_))))
   obtain⟨st33,h,hk34⟩:=CL h
   refine AK (fun e Rs=>e = [(0,.pointer none),(1,jP b1),(6,jI (k2:Int))]∧Rs = [iU 238 b1 st33,aI]) ?_ ?_
   ·clear hk34
    refine T.block (zY Z (Ai aK Z Z (zX aK 1 Z (z4 Z (Ex.conv Z D1 DE) Z (z8 aK Z (T.seq (zY Z (zX aK 1 Z ?_))))))))
    refine zZ (T.block ?_)
    obtain⟨E37,hE38,hO39⟩:=CL h
    refine AX (fun m e Rs=> ∃ (y35:Int) (k36:Nat),e = [(0,.pointer none),(1,jP b1),(2,jI (k2:Int)),(3,.int .u32 y35),(6,jI (k2:Int)),(11,jI (k36:Int))]∧Rs = [iU 238 b1 st3,aI]∧dT m y35 k36=some E37) ((8:Int).toNat+1) [0,0] ⟨(IntKind.u32.wrap (k2:Int)),0,Z,Z,by exact hE38⟩ (by rfl) (by rfl) ?_
    clear hE38 h
    rintro m40 _ _ ⟨y35,k36,rfl,rfl,h⟩
    cases m40 with
    | zero =>
     rw[dT] at h
     cases h
    | succ m40 =>
     rw[dT] at h
     refine zY Z (zX aK 1 Z ?_)
     rcases jF h with⟨c44,h⟩ | ⟨c44,h⟩
     ·refine zZ (T.seq (Bb Z c44 (Ar (T.seq (T.block (zY Z (zX aK 1 Z (z4 Z (Ex.bitw Z Z Z) Z (z8 aK Z ?_)))))))))
      obtain⟨y46,h,hk47⟩:=CL h
      refine AK (fun e Rs=>e = [(0,.pointer none),(1,jP b1),(2,jI (k2:Int)),(3,.int .u32 y46),(6,jI (k2:Int)),(11,jI (k36:Int))]∧Rs = [iU 238 b1 st3,aI]) ?_ ?_
      ·clear hk47
       rcases jF h with⟨c48,h⟩ | ⟨c48,h⟩
       ·refine Bb Z c48 (T.region Z (zX aK 1 Z (z4 Z (Ex.shr Z Z (by decide)) Z (z4 Z (Ex.bitw Z Z Z) Z (zX aK 1 Z ?_)))))
        cases h
        exact TL.nil (Ah [0,0])
       refine Bc Z c48 (T.region Z (zX aK 1 Z (z4 Z (Ex.shr Z Z (by decide)) Z (zX aK 1 Z ?_))))
       cases h
       exact TL.nil (Ah [0,0])
      rintro _ _ ⟨rfl,rfl⟩
      clear h
      have h:=hk47
      clear hk47
      try dsimp only at h
      obtain⟨c49,h⟩:=aH h
      exact Ap (X.seq (T.region Z (z4 Z (Ex.add Z Z c49) Z (zX aK 1 Z (TL.nil (X.back (m':=m40) [0,0] (by omega) ⟨y46,k36+1,Z,Z,h⟩ (by rfl) (by rfl)))))))
     refine zZ (T.seq (Bc Z c44 ?_))
     obtain rfl:=CN h
     replace h:=hO39
     clear hO39
     try dsimp only at h
     refine T.exit (As (As (AW (X.seq (T.region Z ?_)))))
     obtain⟨x50,hx51,h⟩:=CL h
     refine zX aK 4 Z (z4 Z (Ex.tIx (k:=k2) 0 Z Z Z EH ET Z hx51) Z (TL.tSt (k:=k2) 0 Z .u Z Z ET Z hx51 (AD [0,0] Z ?_)))
     cases h
     exact TL.nil (Ap (Ah [0,0]))
   rintro _ _ ⟨rfl,rfl⟩
   clear h
   have h:=hk34
   clear hk34
   try dsimp only at h
   obtain⟨c56,h⟩:=aH h
   exact X.seq (T.region Z (z4 Z (Ex.add Z Z c56) Z (zX aK 1 Z (TL.nil (X.back (m':=m7) [0,0] (by omega) ⟨k2+1,st33,Z,Z,h⟩ (by rfl) (by rfl))))))
  refine zZ (T.seq (Bc Z c11 ?_))
  obtain rfl:=CN h
  replace h:=hO6
  clear hO6
  try dsimp only at h
  refine T.exit (As (As (AW (X.seq (zY Z (zX aK 2 Z ?_))))))
  obtain rfl:=CN h
  exact zZ (T.ret (Aw [1,0] Tryz.results84 (z5 Z) ⟨_,Z,Z,Z⟩ (by rfl) (.inl Z)))
def cO (a2:List UInt8):Nat→Int→Nat→List Int→Option (Int×Nat×List Int)
 | 0,_,_,_=>none
 | m7+1,y1,k2,st3=>if (k2:Int)<(a2.length:Int) then ((a2[k2]?).bind fun ch12=>if 0≤(Go.bits .xor .u8 (IntKind.u8.wrap y1) (ch12.toNat:Int)) then ((st3[(Go.bits .xor .u8 (IntKind.u8.wrap y1) (ch12.toNat:Int)).toNat]?).bind fun x15=>if -9223372036854775808≤((k2:Int)+1)∧((k2:Int)+1)≤9223372036854775807 then (cO a2 m7 (Go.bits .xor .u32 x15 (qc .u32 y1 8)) (k2+1) st3) else none) else none) else some (y1,k2,st3)
def eS (st:List Int) (a1:Int) (a2:List UInt8):Option (Int×List Int):=(cO a2 (((a2.length:Int)).toNat+1) (Go.bits .xor .u32 4294967295 a1) 0 st).bind fun (y18,k19,st20)=>some ((Go.bits .xor .u32 4294967295 y18),st20)
theorem kA (g:Nat) (st:List Int) (a1:Int) (a2:List UInt8) (r:Int×List Int) (h:eS st a1 a2=some r):au Tryz.prog 140 #[jP g,.int .u32 a1,jS a2] .triv (iU 238 g st) (fun v A' N=>v= .int .u32 r.1∧A'=iU 238 g r.2∧N = []):=by
 refine aL Tryz.func140 Z Tryz.ntmps140 Z ?_
 intro F w hX
 unfold eS at h
 refine zY Z (Ai aK Z Z (zX aK 1 Z (z4 Z (Ex.notK Z) Z (z8 aK Z (T.seq (zY Z (zX aK 1 Z ?_)))))))
 refine z4 Z (BM Z Dv) Z (z8 aK Z (T.block ?_))
 obtain⟨E4,hE5,hO6⟩:=CL h
 refine AX (fun m e Rs=> ∃ (y1:Int) (k2:Nat) (st3:List Int),e = [(0,jP g),(2,jS a2),(6,.int .u32 0),(7,.int .u32 y1),(12,jI (a2.length:Int)),(13,jI (k2:Int))]∧Rs = [iU 238 g st3]∧cO a2 m y1 k2 st3=some E4) (((a2.length:Int)).toNat+1) [0] ⟨(Go.bits .xor .u32 4294967295 a1),0,st,Z,Z,by exact hE5⟩ (by rfl) (by rfl) ?_
 clear hE5 h
 rintro m7 _ _ ⟨y1,k2,st3,rfl,rfl,h⟩
 cases m7 with
 | zero =>
  rw[cO] at h
  cases h
 | succ m7 =>
  rw[cO] at h
  refine zY Z (zX aK 1 Z ?_)
  rcases jF h with⟨c11,h⟩ | ⟨c11,h⟩
  ·refine zZ (T.seq (Bb Z c11 (Ar (T.seq (T.block (zY Z (zX aK 2 Z ?_)))))))
   refine zZ (AE (.q 0 (.q 1 (.q 2 (.q 3 (.q 4 (.q 5 (.q 6 (.q 7 (.q 8 (.q 9 (.q 10 (.q 11 (.q 12 (.q 13 .nil)))))))))))))) [0] Z ze (NoP.blk (NoP.seq (NoP.seq (NoP.blk (NoP.seq bx))))) (by kernel_rfl) ?_)
   refine TD.run aK [0,1] Z Z (Aa Z (Ex.conv Z DE Tryz.runUnderlying5) Z ?_)
   obtain⟨ch12,hc13,h⟩:=CL h
   refine TD.run aK [3,4] Z Z (Aa Z (Ex.sIx Z Z Z Tryz.underlying9 hc13) Z (Aa Z (Ex.bitw Z Z Z) Z ?_))
   obtain⟨c14,h⟩:=aH h
   obtain⟨x15,hx16,h⟩:=CL h
   refine TD.run aK [7] Z Z (Aa Z (Ex.tIx (k:=(Go.bits .xor .u8 (IntKind.u8.wrap y1) (ch12.toNat:Int)).toNat) 0 Z Z ((Int.toNat_of_nonneg c14).symm) EH ET Z hx16) Z (Aa Z (Ex.tLd (k:=(Go.bits .xor .u8 (IntKind.u8.wrap y1) (ch12.toNat:Int)).toNat) 0 Z Tryz.isAgg161 Z hx16) Z (TD.run aK [10] Z Z (Aa Z (Ex.shr Z Z (by decide)) Z (Aa Z (Ex.bitw Z Z Z) Z (TD.run aK [13] Z Z ?_))))))
   obtain⟨c17,h⟩:=aH h
   exact TD.nil (Ap (X.seq (T.region Z (z4 Z (Ex.add Z Z c17) Z (zX aK 1 Z (TL.nil (X.back (m':=m7) [0] (by omega) ⟨(Go.bits .xor .u32 x15 (qc .u32 y1 8)),k2+1,st3,Z,Z,h⟩ (by rfl) (by rfl))))))))
  refine zZ (T.seq (Bc Z c11 ?_))
  obtain rfl:=CN h
  replace h:=hO6
  clear hO6
  try dsimp only at h
  refine T.exit (As (As (AW (X.seq (zY Z (zX aK 1 Z (z4 Z (Ex.notK Z) Z (zX aK 1 Z ?_))))))))
  obtain rfl:=CN h
  exact zZ (T.ret (Af [0] Tryz.results140 (z5 Z)))
def cz:List (List UInt8)→Int→List Int→Option (Int×List Int)
 | [],y3,st5=>some (y3,st5)
 | x10::xs,y3,st5=>(eS st5 y3 x10).bind fun (x14,st15)=>cz xs x14 st15
def ei (st:List Int) (a1:List (List UInt8)):Option (Int×List Int):=(cz a1 0 st).bind fun (y17,st19)=>some (y17,st19)
theorem ea (g:Nat) (st:List Int) (a1:List (List UInt8)) (A1:Option Addr) (c2:Nat) (r:Int×List Int) (h:ei st a1=some r):au Tryz.prog 85 #[jP g,.slice A1 a1.length c2] (RX.of (an 1 oR) [.slice A1 a1.length c2] a1) (iU 238 g st) (fun v A' N=>v= .int .u32 r.1∧A'=iU 238 g r.2∧N = []):=by
 refine aL Tryz.func85 Z Tryz.ntmps85 Z ?_
 intro F w hX
 unfold ei at h
 refine zY Z (Ai aK Z Z (z8 aK Z (T.seq (zY Z (zX aK 1 Z (z4 Z (AB Z DR) Z (zX aK 1 Z ?_)))))))
 refine zZ (T.block ?_)
 obtain⟨E6,hE7,hO8⟩:=CL h
 have hk12len:=AL hX
 refine AX (fun m e Rs=> ∃ (y3:Int) (k4:Nat) (st5:List Int),k4+m=a1.length∧e = [(0,jP g),(4,.int .u32 0),(5,.int .u32 y3),(8,.slice A1 a1.length c2),(9,jI (a1.length:Int)),(10,jI (k4:Int))]∧Rs = [iU 238 g st5]∧cz (a1.drop k4) y3 st5=some E6) (a1.length) [0] ⟨0,0,st,by simp,Z,Z,by rw[List.drop_zero]; exact hE7⟩ (by rfl) (by rfl) ?_
 clear hE7 h
 rintro m9 _ _ ⟨y3,k4,st5,hk12,rfl,rfl,h⟩
 cases m9 with
 | zero =>
  rw[List.drop_of_length_le (by omega),cz] at h
  have hk12ge: ¬ ((k4:Int)<(a1.length:Int)):=by omega
  refine zY Z (z8 aK Z (T.seq (Ay Z (CS hk12ge) ?_)))
  obtain rfl:=CN h
  replace h:=hO8
  clear hO8
  try dsimp only at h
  refine T.exit (As (As (AW (X.seq (zY Z (zX aK 2 Z ?_))))))
  obtain rfl:=CN h
  exact zZ (T.ret (Af [0] Tryz.results85 (z5 Z)))
 | succ m9 =>
  obtain⟨x10,hxx10⟩: ∃ x,a1[k4]? = some x:=⟨_,List.getElem?_eq_getElem (by omega)⟩
  rw[bF hxx10,cz] at h
  have hk12lt:(k4:Int)<(a1.length:Int):=by omega
  refine zY Z (z8 aK Z (T.seq (Ae Z (CP hk12lt) ?_)))
  obtain⟨gz13,oz13,rfl,z13cs,z13cl,z13cc,z13nf,z13r⟩:=AM (by decide) hX hxx10
  obtain⟨z13S,z13r,z13rr⟩:=z13r
  obtain rfl:z13cs = [jS x10]:=z13r
  refine Ar (T.seq (T.block (zY Z ?_)))
  refine z4 Z (AN (k:=k4) Z Z Z DR DD (CZ hxx10).1) Z ?_
  refine z4 Z (Ex.o1 0 Z DL z13nf z13cc Z Z) Z (z8 aK Z (T.region Z ?_))
  obtain⟨⟨x14,st15⟩,hx16,h⟩:=CL h
  try dsimp only at h
  exact zX aK 3 Z (Aq Z .u (.fn Tryz.call140 Z) (kA g st5 y3 x10 _ hx16) sT Z (zX aK 1 Z (TL.nil (Ap (X.seq (T.region Z (z4 Z (Ex.add Z Z (by omega)) Z (zX aK 1 Z (TL.nil (X.back (m':=m9) [0] (by omega) ⟨x14,k4+1,st15,by omega,Z,Z,h⟩ (by rfl) (by rfl)))))))))))
def v9:fj := [(159,0,0),(159,1,1),(159,2,2),(159,3,3),(159,4,4),(159,5,5),(159,6,6),(159,7,7),(159,8,8),(159,9,9),(159,10,10),(159,11,11),(236,0,0),(236,1,1)]
theorem ag:(v9).OK Tryz.prog:=⟨FOK.mk C7 rfl CX rfl,FOK.mk C7 rfl CX rfl,FOK.mk C7 rfl CX rfl,FOK.mk C7 rfl CX rfl,FOK.mk C7 rfl CX rfl,FOK.mk C7 rfl CX rfl,FOK.mk C7 rfl CX rfl,FOK.mk C7 rfl CX rfl,FOK.mk C7 rfl CX rfl,FOK.mk C7 rfl CX rfl,FOK.mk C7 rfl CX rfl,FOK.mk C7 rfl CX rfl,FOK.mk EI rfl Tryz.sizeOf234 rfl,FOK.mk EI rfl CX rfl,trivial⟩
def wa:List Nat := [3]
theorem dU:NOK Tryz.prog wa:=⟨C0,trivial⟩
theorem aZ:Tryz.prog.follows .mixedOrders=true:=by kernel_rfl
theorem oV:BOK Tryz.prog 159 #[.int .i64 0,.int .i64 0,.int .i64 0,.int .i64 0,.int .i64 0,.int .i64 0,.int .i64 0,.int .i64 0,.int .i64 0,.int .i64 0,.int .i64 0,.int .i64 0] [(0,1),(1,1),(2,1),(3,1),(4,1),(5,1),(6,1),(7,1),(8,1),(9,1),(10,1),(11,1)]:=BOK.mk Tryz.zeroValue159 C7 (by intro w; simp)
theorem bH:BOK Tryz.prog 236 #[.pointer none,.int .i64 0] [(0,1),(1,1)]:=BOK.mk Tryz.zeroValue236 EI (by intro w; simp)
theorem mI:SOK Tryz.prog 232 236 13 2 #[.pointer none,.int .i64 0,.pointer none,.int .i64 0,.pointer none,.int .i64 0,.pointer none,.int .i64 0,.pointer none,.int .i64 0,.pointer none,.int .i64 0,.pointer none,.int .i64 0,.pointer none,.int .i64 0,.pointer none,.int .i64 0,.pointer none,.int .i64 0,.pointer none,.int .i64 0,.pointer none,.int .i64 0,.pointer none,.int .i64 0]:=SOK.mk C4 CY Tryz.zeroValue236 (by decide) (by kernel_rfl)
def gz (p0:Nat) (p1:Nat):Option (Unit):=some ()
theorem fk (p0:Nat) (p1:Nat) (r:Unit) (h:gz p0 p1=some r):au Tryz.prog 139 #[jP p0,jP p1] .triv (aI) (fun v A' N=> ∃ q:Nat,v= .slice (some ⟨q,0,none⟩) 13 13∧A'=aI∧N = [ay q 236 (vA0 p0 p1)]):=by
 refine aL Tryz.func139 Z Tryz.ntmps139 Z ?_
 intro F w hX
 unfold gz at h
 refine zY Z (zX ag 1 Z ?_)
 refine zZ (T.seq (AE (.q 0 (.q 1 (.q 2 (.q 3 (.q 4 (.q 5 (.q 6 (.q 7 (.q 8 (.q 9 (.q 10 (.q 11 (.q 12 (.q 13 (.q 14 (.q 15 (.q 16 (.q 17 (.q 18 (.q 19 (.q 20 (.q 21 (.q 22 (.q 23 (.q 24 (.q 25 (.q 26 (.q 27 (.q 28 (.q 29 (.q 30 (.q 31 (.q 32 (.q 33 (.q 34 (.q 35 (.q 36 (.q 37 (.q 38 (.q 39 (.q 40 (.q 41 (.q 42 (.q 43 (.q 44 (.q 45 (.q 46 (.q 47 (.q 48 (.q 49 (.e 50 (.q 51 .nil)))))))))))))))))))))))))))))))))))))))))))))))))))) [0] Z aZ (NoP.seq bx) (by kernel_rfl) ?_))
 refine TD.run ag [0,1,2] Z Z ?_
 refine Aa Z (Ao (cells:= #[jP p0,jI 8]) bH Z (by kernel_rfl)) Z ?_
 refine TD.run ag [4,5,6] Z Z ?_
 refine Aa Z (Ao (cells:= #[.pointer (some ⟨p0,1,none⟩),jI 4]) bH Z (by kernel_rfl)) Z ?_
 refine TD.run ag [8,9,10] Z Z ?_
 refine Aa Z (Ao (cells:= #[.pointer (some ⟨p0,2,none⟩),jI 4]) bH Z (by kernel_rfl)) Z ?_
 refine TD.run ag [12] Z Z ?_
 refine Aa Z (Ao (cells:= #[jP p1,jI 1]) bH Z (by kernel_rfl)) Z ?_
 refine TD.run ag [14,15,16] Z Z ?_
 refine Aa Z (Ao (cells:= #[.pointer (some ⟨p0,3,none⟩),jI 4]) bH Z (by kernel_rfl)) Z ?_
 refine TD.run ag [18,19,20] Z Z ?_
 refine Aa Z (Ao (cells:= #[.pointer (some ⟨p0,4,none⟩),jI 2]) bH Z (by kernel_rfl)) Z ?_
 refine TD.run ag [22,23,24] Z Z ?_
 refine Aa Z (Ao (cells:= #[.pointer (some ⟨p0,5,none⟩),jI 4]) bH Z (by kernel_rfl)) Z ?_
 refine TD.run ag [26,27,28] Z Z ?_
 refine Aa Z (Ao (cells:= #[.pointer (some ⟨p0,6,none⟩),jI 8]) bH Z (by kernel_rfl)) Z ?_
 refine TD.run ag [30,31,32] Z Z ?_
 refine Aa Z (Ao (cells:= #[.pointer (some ⟨p0,7,none⟩),jI 8]) bH Z (by kernel_rfl)) Z ?_
 refine TD.run ag [34,35,36] Z Z ?_
 refine Aa Z (Ao (cells:= #[.pointer (some ⟨p0,8,none⟩),jI 8]) bH Z (by kernel_rfl)) Z ?_
 refine TD.run ag [38,39,40] Z Z ?_
 refine Aa Z (Ao (cells:= #[.pointer (some ⟨p0,9,none⟩),jI 2]) bH Z (by kernel_rfl)) Z ?_
 refine TD.run ag [42,43,44] Z Z ?_
 refine Aa Z (Ao (cells:= #[.pointer (some ⟨p0,10,none⟩),jI 4]) bH Z (by kernel_rfl)) Z ?_
 refine TD.run ag [46,47,48] Z Z ?_
 refine Aa Z (Ao (cells:= #[.pointer (some ⟨p0,11,none⟩),jI 4]) bH Z (by kernel_rfl)) Z ?_
 refine Bp (cells:=vA0 p0 p1) Z .u mI Z (by kernel_rfl) Z [1] (fun _=>Z) (fun b1=> ?_)
 refine TD.run ag [51] Z Z ?_
 obtain rfl:=CN h
 exact Br (T.ret (Aw [1,0] Tryz.results139 (z5 Z) ⟨_,Z,Z,Z⟩ (by rfl) (.inl Z)))
def ck (st:List UInt8×Int) (a1:Pfx):Option (List UInt8×Int):=(if a1.CC<0 then some true else (if a1.CC>4294967295 then some true else some false)).bind fun y4=>(if y4=true then ((gE st 11).bind fun st14=>some st14) else some st).bind fun st11=>if -9223372036854775808≤(IntKind.i32.wrap (IntKind.u32.wrap a1.CC))∧(IntKind.i32.wrap (IntKind.u32.wrap a1.CC))≤9223372036854775807 then ((bY st11 a1.Cn 8).bind fun st19=>(bY st19 a1.Cr 4).bind fun st22=>(bY st22 a1.Ch 4).bind fun st25=>(bY st25 2 1).bind fun st28=>(bY st28 (IntKind.i32.wrap (IntKind.u32.wrap a1.CC)) 4).bind fun st31=>(bY st31 a1.CE 2).bind fun st34=>(bY st34 a1.Cl 4).bind fun st37=>(bY st37 a1.B9 8).bind fun st40=>(bY st40 a1.Cu 8).bind fun st43=>(bY st43 a1.BX 8).bind fun st46=>(bY st46 a1.B5 2).bind fun st49=>(bY st49 a1.Ca 4).bind fun st52=>(bY st52 a1.CD 4).bind fun st55=>some st55) else none
theorem fK (g:Nat) (st:List UInt8×Int) (a1:Pfx) (r:List UInt8×Int) (h:ck st a1=some r):au Tryz.prog 83 #[jP g,.agg (wA1 a1)] .triv (aP g st) (fun v A' N=>v= .tuple #[]∧A'=aP g r∧N = []):=by
 refine aL Tryz.func83 Z Tryz.ntmps83 Z ?_
 intro F w hX
 unfold ck at h
 refine zY Z (TL.box Z .u Z Z (fun b1=>(Ab Z (TL.alloc Z .u Tryz.zeroValue3 Z (fun b2=>(Ad (cs':= #[jI 2]) Z .u Z Z CX Z Z Z Z (zZ (T.ss ?_))))))))
 obtain⟨y4,h,hk5⟩:=CL h
 refine AK (fun e Rs=>e = [(0,jP g),(3,jP b1),(4,jP b2),(14,.bool y4)]∧Rs = [ay b2 3 #[jI 2],ay b1 159 (wA1 a1),aP g st]) ?_ ?_
 ·clear hk5
  refine T.region Z ?_
  rcases jF h with⟨c6,h⟩ | ⟨c6,h⟩
  ·refine z6 ag dU 1 Z 4 Z Z (z9 10 Z (CP c6) (Ac ag 4 Z ?_))
   cases h
   exact TL.nil (Ah [0,0,0])
  refine z6 ag dU 1 Z 4 Z Z (z9 10 Z (CS c6) (z6 ag dU 1 Z 4 Z Z ?_))
  rcases jF h with⟨c7,h⟩ | ⟨c7,h⟩
  ·cases h
   exact TL.nil (AS (d:=14) (v':= .bool true) Z (congrArg Value.bool (CP c7)) (Ah [0,0,0]))
  cases h
  exact TL.nil (AS (d:=14) (v':= .bool false) Z (congrArg Value.bool (CS c7)) (Ah [0,0,0]))
 rintro _ _ ⟨rfl,rfl⟩
 clear h
 have h:=hk5
 clear hk5
 try dsimp only at h
 refine X.seq ?_
 obtain⟨st11,h,hk12⟩:=CL h
 refine AK (fun e Rs=>e = [(0,jP g),(3,jP b1),(4,jP b2)]∧Rs = [ay b2 3 #[jI 2],ay b1 159 (wA1 a1),aP g st11]) ?_ ?_
 ·clear hk12
  rcases jF h with⟨c13,h⟩ | ⟨c13,h⟩
  ·refine Ae Z c13 (T.region Z ?_)
   obtain⟨st14,hx15,h⟩:=CL h
   refine zX ag 1 Z (AH Z .u (.fn Tryz.call94 Z) (eC g st 11 _ hx15) sT Z ?_)
   cases h
   exact TL.nil (Ah [0,0,0])
  replace c13:=CU c13
  refine Ay Z c13 ?_
  cases h
  exact T.skip (Ah [0,0,0])
 rintro _ _ ⟨rfl,rfl⟩
 clear h
 have h:=hk12
 clear hk12
 try dsimp only at h
 refine X.seq (zY Z (z6 ag dU 1 Z 2 Z Z (z4 Z (Ex.conv Z D1 DE) Z (z4 Z (Ex.conv Z DE Tryz.runUnderlying21) Z ?_))))
 obtain⟨c16,h⟩:=aH h
 refine z4 Z (BQ Z Tryz.runUnderlying21 D1 c16) Z (zX ag 1 Z (AP (cs':= #[jI a1.Cn,jI a1.Cr,jI a1.Ch,jI (IntKind.i32.wrap (IntKind.u32.wrap a1.CC)),jI a1.CE,jI a1.Cl,jI a1.B9,jI a1.Cu,jI a1.BX,jI a1.B5,jI a1.Ca,jI a1.CD]) Z .u Z Z CX Z Z Z Z (Ab Z (AY Z .u (.fn Tryz.call139 Z) (fk b1 b2 () Z) (fun _ hs=>RX.reads_triv _ _) Z ?_))))
 rintro _ _ _ ⟨b17,rfl,rfl,rfl⟩
 refine AD [0,0,0,0] rfl (z4 rfl (AB rfl C4) rfl (z8 ag rfl (T.block (T.unroll0 (TW.step (zY rfl (z8 ag rfl (T.seq (Ae rfl (CP (show 0<13 by omega)) ?_)))))))))
 refine Ar (T.seq (T.block (zY Z (z4 Z (AQ (k:=0) (r:=0) Z Z Z C4 CY (by decide) Z) Z (z4 Z (Ag (us := [jP b1,jI 8]) 0 Z De CY Z Z Z) Z (TL.alloc Z .u Tryz.zeroValue236 Z (fun b18=>(Ad (cs':= #[jP b1,jI 8]) Z .u Z Z CY Z Z Z Z ?_))))))))
 refine zZ (AE (.q 0 (.q 1 (.q 2 (.q 3 (.q 4 (.q 5 (.q 6 (.e 7 .nil)))))))) [0,0,0,0] Z aZ (NoP.blk (NoP.seq (NoP.seq (NoP.blk bx)))) (by kernel_rfl) ?_)
 refine TD.run ag [0,1] Z Z (Aa Z (Aj 0 Z Df Z Z) Z (TD.run ag [3] Z Z (Aa Z (Aj 3 Z C0 Z Z) Z (TD.run ag [5] Z Z (Aa Z (Aj 0 Z C0 Z Z) Z ?_)))))
 obtain⟨st19,hx20,h⟩:=CL h
 refine TD.c4 rfl .u (.fn Tryz.call51 rfl) (aF g st11 a1.Cn 8 _ hx20) sT rfl [0,0,0,0] (rfl) (TD.nil (Ap (X.seq (T.region rfl (z4 rfl (Ex.add rfl rfl (by omega)) rfl (zX ag 1 rfl (TL.nil (Bi (TW.step (zY rfl (z8 ag rfl (T.seq (Ae rfl (CP (show 1<13 by omega)) ?_)))))))))))))
 refine Ar (T.seq (T.block (zY Z (z4 Z (AQ (k:=1) (r:=2) Z Z Z C4 CY (by decide) Z) Z (z4 Z (Ag (us := [.pointer (some ⟨b1,1,none⟩),jI 4]) 1 Z De CY Z Z Z) Z (TL.alloc Z .u Tryz.zeroValue236 Z (fun b21=>(Ad (cs':= #[.pointer (some ⟨b1,1,none⟩),jI 4]) Z .u Z Z CY Z Z Z Z ?_))))))))
 refine zZ (AE (.q 0 (.q 1 (.q 2 (.q 3 (.q 4 (.q 5 (.q 6 (.e 7 .nil)))))))) [0,0,0,0,0] Z aZ (NoP.blk (NoP.seq (NoP.seq (NoP.blk bx)))) (by kernel_rfl) ?_)
 refine TD.run ag [0,1] Z Z (Aa Z (Aj 0 Z Df Z Z) Z (TD.run ag [3] Z Z (Aa Z (Aj 4 Z C0 Z Z) Z (TD.run ag [5] Z Z (Aa Z (Aj 0 Z C0 Z Z) Z ?_)))))
 obtain⟨st22,hx23,h⟩:=CL h
 refine BB Z .u (.fn Tryz.call51 Z) (aF g st19 a1.Cr 4 _ hx23) sT Z [0,0,0,0,0] (Z) (TD.nil (Ap (X.seq (T.region Z (z4 Z (Ex.add Z Z (by omega)) Z (zX ag 1 Z (TL.nil (AU [0,1,1,1,1] Z (Bi (TW.step (zY Z (zX ag 1 Z ?_))))))))))))
 refine zZ (T.seq (Ae rfl (CP (show 2<13 by omega)) (Ar (T.seq (T.block (zY rfl (z4 rfl (AQ (k:=2) (r:=4) rfl rfl rfl C4 CY (by decide) rfl) rfl (z4 rfl (Ag (us := [.pointer (some ⟨b1,2,none⟩),jI 4]) 1 rfl De CY rfl rfl rfl) rfl (TL.alloc rfl .u Tryz.zeroValue236 rfl (fun b24=>(Ad (cs':= #[.pointer (some ⟨b1,2,none⟩),jI 4]) rfl .u rfl rfl CY rfl rfl rfl rfl ?_)))))))))))
 refine zZ (AE (.q 0 (.q 1 (.q 2 (.q 3 (.q 4 (.q 5 (.q 6 (.e 7 .nil)))))))) [0,0,0,0,0] Z aZ (NoP.blk (NoP.seq (NoP.seq (NoP.blk bx)))) (by kernel_rfl) ?_)
 refine TD.run ag [0,1] Z Z (Aa Z (Aj 0 Z Df Z Z) Z (TD.run ag [3] Z Z (Aa Z (Aj 4 Z C0 Z Z) Z (TD.run ag [5] Z Z (Aa Z (Aj 0 Z C0 Z Z) Z ?_)))))
 obtain⟨st25,hx26,h⟩:=CL h
 refine BB Z .u (.fn Tryz.call51 Z) (aF g st22 a1.Ch 4 _ hx26) sT Z [0,0,0,0,0] (Z) (TD.nil (Ap (X.seq (T.region Z (z4 Z (Ex.add Z Z (by omega)) Z (zX ag 1 Z (TL.nil (AU [0,1,1,1,1] Z (Bi (TW.step (zY Z (zX ag 1 Z ?_))))))))))))
 refine zZ (T.seq (Ae rfl (CP (show 3<13 by omega)) (Ar (T.seq (T.block (zY rfl (z4 rfl (AQ (k:=3) (r:=6) rfl rfl rfl C4 CY (by decide) rfl) rfl (z4 rfl (Ag (us := [jP b2,jI 1]) 1 rfl De CY rfl rfl rfl) rfl (TL.alloc rfl .u Tryz.zeroValue236 rfl (fun b27=>(Ad (cs':= #[jP b2,jI 1]) rfl .u rfl rfl CY rfl rfl rfl rfl ?_)))))))))))
 refine zZ (AE (.q 0 (.q 1 (.q 2 (.q 3 (.q 4 (.q 5 (.q 6 (.e 7 .nil)))))))) [0,0,0,0,0] Z aZ (NoP.blk (NoP.seq (NoP.seq (NoP.blk bx)))) (by kernel_rfl) ?_)
 refine TD.run ag [0,1] Z Z (Aa Z (Aj 0 Z Df Z Z) Z (TD.run ag [3] Z Z (Aa Z (Aj 3 Z C0 Z Z) Z (TD.run ag [5] Z Z (Aa Z (Aj 0 Z C0 Z Z) Z ?_)))))
 obtain⟨st28,hx29,h⟩:=CL h
 refine BB Z .u (.fn Tryz.call51 Z) (aF g st25 2 1 _ hx29) sT Z [0,0,0,0,0] (Z) (TD.nil (Ap (X.seq (T.region Z (z4 Z (Ex.add Z Z (by omega)) Z (zX ag 1 Z (TL.nil (AU [0,1,1,1,1] Z (Bi (TW.step (zY Z (zX ag 1 Z ?_))))))))))))
 refine zZ (T.seq (Ae rfl (CP (show 4<13 by omega)) (Ar (T.seq (T.block (zY rfl (z4 rfl (AQ (k:=4) (r:=8) rfl rfl rfl C4 CY (by decide) rfl) rfl (z4 rfl (Ag (us := [.pointer (some ⟨b1,3,none⟩),jI 4]) 1 rfl De CY rfl rfl rfl) rfl (TL.alloc rfl .u Tryz.zeroValue236 rfl (fun b30=>(Ad (cs':= #[.pointer (some ⟨b1,3,none⟩),jI 4]) rfl .u rfl rfl CY rfl rfl rfl rfl ?_)))))))))))
 refine zZ (AE (.q 0 (.q 1 (.q 2 (.q 3 (.q 4 (.q 5 (.q 6 (.e 7 .nil)))))))) [0,0,0,0,0] Z aZ (NoP.blk (NoP.seq (NoP.seq (NoP.blk bx)))) (by kernel_rfl) ?_)
 refine TD.run ag [0,1] Z Z (Aa Z (Aj 0 Z Df Z Z) Z (TD.run ag [3] Z Z (Aa Z (Aj 4 Z C0 Z Z) Z (TD.run ag [5] Z Z (Aa Z (Aj 0 Z C0 Z Z) Z ?_)))))
 obtain⟨st31,hx32,h⟩:=CL h
 refine BB Z .u (.fn Tryz.call51 Z) (aF g st28 (IntKind.i32.wrap (IntKind.u32.wrap a1.CC)) 4 _ hx32) sT Z [0,0,0,0,0] (Z) (TD.nil (Ap (X.seq (T.region Z (z4 Z (Ex.add Z Z (by omega)) Z (zX ag 1 Z (TL.nil (AU [0,1,1,1,1] Z (Bi (TW.step (zY Z (zX ag 1 Z ?_))))))))))))
 refine zZ (T.seq (Ae rfl (CP (show 5<13 by omega)) (Ar (T.seq (T.block (zY rfl (z4 rfl (AQ (k:=5) (r:=10) rfl rfl rfl C4 CY (by decide) rfl) rfl (z4 rfl (Ag (us := [.pointer (some ⟨b1,4,none⟩),jI 2]) 1 rfl De CY rfl rfl rfl) rfl (TL.alloc rfl .u Tryz.zeroValue236 rfl (fun b33=>(Ad (cs':= #[.pointer (some ⟨b1,4,none⟩),jI 2]) rfl .u rfl rfl CY rfl rfl rfl rfl ?_)))))))))))
 refine zZ (AE (.q 0 (.q 1 (.q 2 (.q 3 (.q 4 (.q 5 (.q 6 (.e 7 .nil)))))))) [0,0,0,0,0] Z aZ (NoP.blk (NoP.seq (NoP.seq (NoP.blk bx)))) (by kernel_rfl) ?_)
 refine TD.run ag [0,1] Z Z (Aa Z (Aj 0 Z Df Z Z) Z (TD.run ag [3] Z Z (Aa Z (Aj 4 Z C0 Z Z) Z (TD.run ag [5] Z Z (Aa Z (Aj 0 Z C0 Z Z) Z ?_)))))
 obtain⟨st34,hx35,h⟩:=CL h
 refine BB Z .u (.fn Tryz.call51 Z) (aF g st31 a1.CE 2 _ hx35) sT Z [0,0,0,0,0] (Z) (TD.nil (Ap (X.seq (T.region Z (z4 Z (Ex.add Z Z (by omega)) Z (zX ag 1 Z (TL.nil (AU [0,1,1,1,1] Z (Bi (TW.step (zY Z (zX ag 1 Z ?_))))))))))))
 refine zZ (T.seq (Ae rfl (CP (show 6<13 by omega)) (Ar (T.seq (T.block (zY rfl (z4 rfl (AQ (k:=6) (r:=12) rfl rfl rfl C4 CY (by decide) rfl) rfl (z4 rfl (Ag (us := [.pointer (some ⟨b1,5,none⟩),jI 4]) 1 rfl De CY rfl rfl rfl) rfl (TL.alloc rfl .u Tryz.zeroValue236 rfl (fun b36=>(Ad (cs':= #[.pointer (some ⟨b1,5,none⟩),jI 4]) rfl .u rfl rfl CY rfl rfl rfl rfl ?_)))))))))))
 refine zZ (AE (.q 0 (.q 1 (.q 2 (.q 3 (.q 4 (.q 5 (.q 6 (.e 7 .nil)))))))) [0,0,0,0,0] Z aZ (NoP.blk (NoP.seq (NoP.seq (NoP.blk bx)))) (by kernel_rfl) ?_)
 refine TD.run ag [0,1] Z Z (Aa Z (Aj 0 Z Df Z Z) Z (TD.run ag [3] Z Z (Aa Z (Aj 4 Z C0 Z Z) Z (TD.run ag [5] Z Z (Aa Z (Aj 0 Z C0 Z Z) Z ?_)))))
 obtain⟨st37,hx38,h⟩:=CL h
 refine BB Z .u (.fn Tryz.call51 Z) (aF g st34 a1.Cl 4 _ hx38) sT Z [0,0,0,0,0] (Z) (TD.nil (Ap (X.seq (T.region Z (z4 Z (Ex.add Z Z (by omega)) Z (zX ag 1 Z (TL.nil (AU [0,1,1,1,1] Z (Bi (TW.step (zY Z (zX ag 1 Z ?_))))))))))))
 refine zZ (T.seq (Ae rfl (CP (show 7<13 by omega)) (Ar (T.seq (T.block (zY rfl (z4 rfl (AQ (k:=7) (r:=14) rfl rfl rfl C4 CY (by decide) rfl) rfl (z4 rfl (Ag (us := [.pointer (some ⟨b1,6,none⟩),jI 8]) 1 rfl De CY rfl rfl rfl) rfl (TL.alloc rfl .u Tryz.zeroValue236 rfl (fun b39=>(Ad (cs':= #[.pointer (some ⟨b1,6,none⟩),jI 8]) rfl .u rfl rfl CY rfl rfl rfl rfl ?_)))))))))))
 refine zZ (AE (.q 0 (.q 1 (.q 2 (.q 3 (.q 4 (.q 5 (.q 6 (.e 7 .nil)))))))) [0,0,0,0,0] Z aZ (NoP.blk (NoP.seq (NoP.seq (NoP.blk bx)))) (by kernel_rfl) ?_)
 refine TD.run ag [0,1] Z Z (Aa Z (Aj 0 Z Df Z Z) Z (TD.run ag [3] Z Z (Aa Z (Aj 4 Z C0 Z Z) Z (TD.run ag [5] Z Z (Aa Z (Aj 0 Z C0 Z Z) Z ?_)))))
 obtain⟨st40,hx41,h⟩:=CL h
 refine BB Z .u (.fn Tryz.call51 Z) (aF g st37 a1.B9 8 _ hx41) sT Z [0,0,0,0,0] (Z) (TD.nil (Ap (X.seq (T.region Z (z4 Z (Ex.add Z Z (by omega)) Z (zX ag 1 Z (TL.nil (AU [0,1,1,1,1] Z (Bi (TW.step (zY Z (zX ag 1 Z ?_))))))))))))
 refine zZ (T.seq (Ae rfl (CP (show 8<13 by omega)) (Ar (T.seq (T.block (zY rfl (z4 rfl (AQ (k:=8) (r:=16) rfl rfl rfl C4 CY (by decide) rfl) rfl (z4 rfl (Ag (us := [.pointer (some ⟨b1,7,none⟩),jI 8]) 1 rfl De CY rfl rfl rfl) rfl (TL.alloc rfl .u Tryz.zeroValue236 rfl (fun b42=>(Ad (cs':= #[.pointer (some ⟨b1,7,none⟩),jI 8]) rfl .u rfl rfl CY rfl rfl rfl rfl ?_)))))))))))
 refine zZ (AE (.q 0 (.q 1 (.q 2 (.q 3 (.q 4 (.q 5 (.q 6 (.e 7 .nil)))))))) [0,0,0,0,0] Z aZ (NoP.blk (NoP.seq (NoP.seq (NoP.blk bx)))) (by kernel_rfl) ?_)
 refine TD.run ag [0,1] Z Z (Aa Z (Aj 0 Z Df Z Z) Z (TD.run ag [3] Z Z (Aa Z (Aj 4 Z C0 Z Z) Z (TD.run ag [5] Z Z (Aa Z (Aj 0 Z C0 Z Z) Z ?_)))))
 obtain⟨st43,hx44,h⟩:=CL h
 refine BB Z .u (.fn Tryz.call51 Z) (aF g st40 a1.Cu 8 _ hx44) sT Z [0,0,0,0,0] (Z) (TD.nil (Ap (X.seq (T.region Z (z4 Z (Ex.add Z Z (by omega)) Z (zX ag 1 Z (TL.nil (AU [0,1,1,1,1] Z (Bi (TW.step (zY Z (zX ag 1 Z ?_))))))))))))
 refine zZ (T.seq (Ae rfl (CP (show 9<13 by omega)) (Ar (T.seq (T.block (zY rfl (z4 rfl (AQ (k:=9) (r:=18) rfl rfl rfl C4 CY (by decide) rfl) rfl (z4 rfl (Ag (us := [.pointer (some ⟨b1,8,none⟩),jI 8]) 1 rfl De CY rfl rfl rfl) rfl (TL.alloc rfl .u Tryz.zeroValue236 rfl (fun b45=>(Ad (cs':= #[.pointer (some ⟨b1,8,none⟩),jI 8]) rfl .u rfl rfl CY rfl rfl rfl rfl ?_)))))))))))
 refine zZ (AE (.q 0 (.q 1 (.q 2 (.q 3 (.q 4 (.q 5 (.q 6 (.e 7 .nil)))))))) [0,0,0,0,0] Z aZ (NoP.blk (NoP.seq (NoP.seq (NoP.blk bx)))) (by kernel_rfl) ?_)
 refine TD.run ag [0,1] Z Z (Aa Z (Aj 0 Z Df Z Z) Z (TD.run ag [3] Z Z (Aa Z (Aj 4 Z C0 Z Z) Z (TD.run ag [5] Z Z (Aa Z (Aj 0 Z C0 Z Z) Z ?_)))))
 obtain⟨st46,hx47,h⟩:=CL h
 refine BB Z .u (.fn Tryz.call51 Z) (aF g st43 a1.BX 8 _ hx47) sT Z [0,0,0,0,0] (Z) (TD.nil (Ap (X.seq (T.region Z (z4 Z (Ex.add Z Z (by omega)) Z (zX ag 1 Z (TL.nil (AU [0,1,1,1,1] Z (Bi (TW.step (zY Z (zX ag 1 Z ?_))))))))))))
 refine zZ (T.seq (Ae rfl (CP (show 10<13 by omega)) (Ar (T.seq (T.block (zY rfl (z4 rfl (AQ (k:=10) (r:=20) rfl rfl rfl C4 CY (by decide) rfl) rfl (z4 rfl (Ag (us := [.pointer (some ⟨b1,9,none⟩),jI 2]) 1 rfl De CY rfl rfl rfl) rfl (TL.alloc rfl .u Tryz.zeroValue236 rfl (fun b48=>(Ad (cs':= #[.pointer (some ⟨b1,9,none⟩),jI 2]) rfl .u rfl rfl CY rfl rfl rfl rfl ?_)))))))))))
 refine zZ (AE (.q 0 (.q 1 (.q 2 (.q 3 (.q 4 (.q 5 (.q 6 (.e 7 .nil)))))))) [0,0,0,0,0] Z aZ (NoP.blk (NoP.seq (NoP.seq (NoP.blk bx)))) (by kernel_rfl) ?_)
 refine TD.run ag [0,1] Z Z (Aa Z (Aj 0 Z Df Z Z) Z (TD.run ag [3] Z Z (Aa Z (Aj 4 Z C0 Z Z) Z (TD.run ag [5] Z Z (Aa Z (Aj 0 Z C0 Z Z) Z ?_)))))
 obtain⟨st49,hx50,h⟩:=CL h
 refine BB Z .u (.fn Tryz.call51 Z) (aF g st46 a1.B5 2 _ hx50) sT Z [0,0,0,0,0] (Z) (TD.nil (Ap (X.seq (T.region Z (z4 Z (Ex.add Z Z (by omega)) Z (zX ag 1 Z (TL.nil (AU [0,1,1,1,1] Z (Bi (TW.step (zY Z (zX ag 1 Z ?_))))))))))))
 refine zZ (T.seq (Ae rfl (CP (show 11<13 by omega)) (Ar (T.seq (T.block (zY rfl (z4 rfl (AQ (k:=11) (r:=22) rfl rfl rfl C4 CY (by decide) rfl) rfl (z4 rfl (Ag (us := [.pointer (some ⟨b1,10,none⟩),jI 4]) 1 rfl De CY rfl rfl rfl) rfl (TL.alloc rfl .u Tryz.zeroValue236 rfl (fun b51=>(Ad (cs':= #[.pointer (some ⟨b1,10,none⟩),jI 4]) rfl .u rfl rfl CY rfl rfl rfl rfl ?_)))))))))))
 refine zZ (AE (.q 0 (.q 1 (.q 2 (.q 3 (.q 4 (.q 5 (.q 6 (.e 7 .nil)))))))) [0,0,0,0,0] Z aZ (NoP.blk (NoP.seq (NoP.seq (NoP.blk bx)))) (by kernel_rfl) ?_)
 refine TD.run ag [0,1] Z Z (Aa Z (Aj 0 Z Df Z Z) Z (TD.run ag [3] Z Z (Aa Z (Aj 4 Z C0 Z Z) Z (TD.run ag [5] Z Z (Aa Z (Aj 0 Z C0 Z Z) Z ?_)))))
 obtain⟨st52,hx53,h⟩:=CL h
 refine BB Z .u (.fn Tryz.call51 Z) (aF g st49 a1.Ca 4 _ hx53) sT Z [0,0,0,0,0] (Z) (TD.nil (Ap (X.seq (T.region Z (z4 Z (Ex.add Z Z (by omega)) Z (zX ag 1 Z (TL.nil (AU [0,1,1,1,1] Z (Bi (TW.step (zY Z (zX ag 1 Z ?_))))))))))))
 refine zZ (T.seq (Ae rfl (CP (show 12<13 by omega)) (Ar (T.seq (T.block (zY rfl (z4 rfl (AQ (k:=12) (r:=24) rfl rfl rfl C4 CY (by decide) rfl) rfl (z4 rfl (Ag (us := [.pointer (some ⟨b1,11,none⟩),jI 4]) 1 rfl De CY rfl rfl rfl) rfl (TL.alloc rfl .u Tryz.zeroValue236 rfl (fun b54=>(Ad (cs':= #[.pointer (some ⟨b1,11,none⟩),jI 4]) rfl .u rfl rfl CY rfl rfl rfl rfl ?_)))))))))))
 refine zZ (AE (.q 0 (.q 1 (.q 2 (.q 3 (.q 4 (.q 5 (.q 6 (.e 7 .nil)))))))) [0,0,0,0,0] Z aZ (NoP.blk (NoP.seq (NoP.seq (NoP.blk bx)))) (by kernel_rfl) ?_)
 refine TD.run ag [0,1] Z Z (Aa Z (Aj 0 Z Df Z Z) Z (TD.run ag [3] Z Z (Aa Z (Aj 4 Z C0 Z Z) Z (TD.run ag [5] Z Z (Aa Z (Aj 0 Z C0 Z Z) Z ?_)))))
 obtain⟨st55,hx56,h⟩:=CL h
 refine BB Z .u (.fn Tryz.call51 Z) (aF g st52 a1.CD 4 _ hx56) sT Z [0,0,0,0,0] (Z) (TD.nil (Ap (X.seq (T.region Z (z4 Z (Ex.add Z Z (by omega)) Z (zX ag 1 Z (TL.nil (AU [0,1,1,1,1] Z (Bi (TW.step (zY Z (zX ag 1 Z ?_))))))))))))
 refine zZ (T.seq (Ay rfl (CS (show ¬ (13<13) by omega)) ?_))
 obtain rfl:=CN h
 exact T.exit (As (As (AW (AR [4] Tryz.results83 ⟨Z,Z,Z⟩ (by rfl) (.inr Z)))))
def gT (st:I)  : Option (Pfx×I):=(bW st 8).bind fun (x6,st7)=>(bW st7 4).bind fun (x10,st11)=>(bW st11 4).bind fun (x14,st15)=>(bW st15 1).bind fun (x18,st19)=>(bW st19 4).bind fun (x22,st23)=>(bW st23 2).bind fun (x26,st27)=>(bW st27 4).bind fun (x30,st31)=>(bW st31 8).bind fun (x34,st35)=>(bW st35 8).bind fun (x38,st39)=>(bW st39 8).bind fun (x42,st43)=>(bW st43 2).bind fun (x46,st47)=>(bW st47 4).bind fun (x50,st51)=>(bW st51 4).bind fun (x54,st55)=>(fa st55).bind fun (x57,st58)=>(if x57=0 then ((if x18=2 then ((if x10<49 then ((bg st58 4).bind fun st164=>some st164) else ((if x54<0 then ((bg st58 10).bind fun st172=>some st172) else some st58).bind fun st169=>some st169)).bind fun st161=>some st161) else ((bg st58 6).bind fun st174=>some st174)).bind fun st147=>some st147) else some st58).bind fun st117=>(fa st117).bind fun (x176,st177)=>if x176=0 then (some ((⟨x6,x10,x14,(Go.bits .and .i64 x22 4294967295),x26,x30,x34,x38,x42,x46,x50,x54⟩:Pfx),st177)) else (some ((⟨0,0,0,0,0,0,0,0,0,0,0,0⟩:Pfx),st177))
theorem lX (g:Nat) (st:I)  (r:Pfx×I) (h:gT st  = some r):au Tryz.prog 133 #[jP g] .triv (InR g st) (fun v A' N=>v= .agg #[jI r.1.Cn,jI r.1.Cr,jI r.1.Ch,jI r.1.CC,jI r.1.CE,jI r.1.Cl,jI r.1.B9,jI r.1.Cu,jI r.1.BX,jI r.1.B5,jI r.1.Ca,jI r.1.CD]∧A'=InR g r.2∧N = []):=by
 refine aL Tryz.func133 Z Tryz.ntmps133 Z ?_
 intro F w hX
 unfold gT at h
 refine zY Z (TL.alloc Z .u Tryz.zeroValue159 Z (fun b1=>(Ab Z (TL.alloc Z .u Tryz.zeroValue159 Z (fun b2=>(Ab Z (TL.alloc Z .u Tryz.zeroValue3 Z (fun b3=>(Ad (cs':= #[jI 0]) Z .u Z Z CX Z Z Z Z (zZ (T.seq (zY Z ?_))))))))))))
 refine AY Z .u (.fn Tryz.call139 Z) (fk b2 b3 () Z) (fun _ hs=>RX.reads_triv _ _) Z ?_
 rintro _ _ _ ⟨b4,rfl,rfl,rfl⟩
 refine AD [0,0,0,0,0] rfl (z4 rfl (AB rfl C4) rfl (z8 ag rfl (T.block (T.unroll0 (TW.step (zY rfl (z8 ag rfl (T.seq (Ae rfl (CP (show 0<13 by omega)) ?_)))))))))
 refine Ar (T.seq (T.block (zY Z (z4 Z (AQ (k:=0) (r:=0) Z Z Z C4 CY (by decide) Z) Z (z4 Z (Ag (us := [jP b2,jI 8]) 0 Z De CY Z Z Z) Z (TL.alloc Z .u Tryz.zeroValue236 Z (fun b5=>(Ad (cs':= #[jP b2,jI 8]) Z .u Z Z CY Z Z Z Z ?_))))))))
 refine zZ (AE (.q 0 (.q 1 (.q 2 (.q 3 (.q 4 (.e 5 (.q 6 (.e 7 .nil)))))))) [0,0,0,1] Z aZ (NoP.blk (NoP.seq (NoP.seq (NoP.blk (NoP.seq bx))))) (by kernel_rfl) ?_)
 refine TD.run ag [0] Z Z (Aa Z (Aj 0 Z Df Z Z) Z (TD.run ag [2,3] Z Z (Aa Z (Aj 0 Z C0 Z Z) Z ?_)))
 obtain⟨⟨x6,st7⟩,hx8,h⟩:=CL h
 try dsimp only at h
 refine BB Z .u (.fn Tryz.call68 Z) (aE g st 8 _ hx8) sT Z [0,0,0,1] (Z) (TD.run ag [6] Z Z (BR (cs':= #[jI x6,jI 0,jI 0,jI 0,jI 0,jI 0,jI 0,jI 0,jI 0,jI 0,jI 0,jI 0]) Z .u Z Z CX Z Z Z Z [0,0,0,1] (Z) (TD.nil (Ap (X.seq (T.region Z (z4 Z (Ex.add Z Z (by omega)) Z (zX ag 1 Z (TL.nil (Bi (TW.step (zY Z (zX ag 1 Z ?_)))))))))))))
 refine zZ (T.seq (Ae rfl (CP (show 1<13 by omega)) (Ar (T.seq (T.block (zY rfl (z4 rfl (AQ (k:=1) (r:=2) rfl rfl rfl C4 CY (by decide) rfl) rfl (z4 rfl (Ag (us := [.pointer (some ⟨b2,1,none⟩),jI 4]) 1 rfl De CY rfl rfl rfl) rfl (TL.alloc rfl .u Tryz.zeroValue236 rfl (fun b9=>(Ad (cs':= #[.pointer (some ⟨b2,1,none⟩),jI 4]) rfl .u rfl rfl CY rfl rfl rfl rfl ?_)))))))))))
 refine zZ (AE (.q 0 (.q 1 (.q 2 (.q 3 (.q 4 (.e 5 (.q 6 (.e 7 .nil)))))))) [0,0,0,0,1] Z aZ (NoP.blk (NoP.seq (NoP.seq (NoP.blk (NoP.seq bx))))) (by kernel_rfl) ?_)
 refine TD.run ag [0] Z Z (Aa Z (Aj 0 Z Df Z Z) Z (TD.run ag [2,3] Z Z (Aa Z (Aj 0 Z C0 Z Z) Z ?_)))
 obtain⟨⟨x10,st11⟩,hx12,h⟩:=CL h
 try dsimp only at h
 refine BE Z .u (.fn Tryz.call68 Z) (aE g st7 4 _ hx12) sT Z [0,0,0,0,1] (Z) (TD.run ag [6] Z Z (Bz (cs':= #[jI x6,jI x10,jI 0,jI 0,jI 0,jI 0,jI 0,jI 0,jI 0,jI 0,jI 0,jI 0]) Z .u Z Z CX Z Z Z Z [0,0,0,0,1] (Z) (TD.nil (Ap (X.seq (T.region Z (z4 Z (Ex.add Z Z (by omega)) Z (zX ag 1 Z (TL.nil (AU [0,1,1,1,1,1] Z ?_))))))))))
 refine Bi (TW.step (zY rfl (z8 ag rfl (T.seq (Ae rfl (CP (show 2<13 by omega)) (Ar (T.seq (T.block (zY rfl (z4 rfl (AQ (k:=2) (r:=4) rfl rfl rfl C4 CY (by decide) rfl) rfl (z4 rfl (Ag (us := [.pointer (some ⟨b2,2,none⟩),jI 4]) 1 rfl De CY rfl rfl rfl) rfl (TL.alloc rfl .u Tryz.zeroValue236 rfl (fun b13=> ?_)))))))))))))
 refine Ad (cs':= #[.pointer (some ⟨b2,2,none⟩),jI 4]) Z .u Z Z CY Z Z Z Z ?_
 refine zZ (AE (.q 0 (.q 1 (.q 2 (.q 3 (.q 4 (.e 5 (.q 6 (.e 7 .nil)))))))) [0,0,0,0,1] Z aZ (NoP.blk (NoP.seq (NoP.seq (NoP.blk (NoP.seq bx))))) (by kernel_rfl) ?_)
 refine TD.run ag [0] Z Z (Aa Z (Aj 0 Z Df Z Z) Z (TD.run ag [2,3] Z Z (Aa Z (Aj 0 Z C0 Z Z) Z ?_)))
 obtain⟨⟨x14,st15⟩,hx16,h⟩:=CL h
 try dsimp only at h
 refine BE Z .u (.fn Tryz.call68 Z) (aE g st11 4 _ hx16) sT Z [0,0,0,0,1] (Z) (TD.run ag [6] Z Z (Bz (cs':= #[jI x6,jI x10,jI x14,jI 0,jI 0,jI 0,jI 0,jI 0,jI 0,jI 0,jI 0,jI 0]) Z .u Z Z CX Z Z Z Z [0,0,0,0,1] (Z) (TD.nil (Ap (X.seq (T.region Z (z4 Z (Ex.add Z Z (by omega)) Z (zX ag 1 Z (TL.nil (AU [0,1,1,1,1,1] Z ?_))))))))))
 refine Bi (TW.step (zY rfl (z8 ag rfl (T.seq (Ae rfl (CP (show 3<13 by omega)) (Ar (T.seq (T.block (zY rfl (z4 rfl (AQ (k:=3) (r:=6) rfl rfl rfl C4 CY (by decide) rfl) rfl (z4 rfl (Ag (us := [jP b3,jI 1]) 1 rfl De CY rfl rfl rfl) rfl (TL.alloc rfl .u Tryz.zeroValue236 rfl (fun b17=> ?_)))))))))))))
 refine Ad (cs':= #[jP b3,jI 1]) Z .u Z Z CY Z Z Z Z ?_
 refine zZ (AE (.q 0 (.q 1 (.q 2 (.q 3 (.q 4 (.e 5 (.q 6 (.e 7 .nil)))))))) [0,0,0,1,1] Z aZ (NoP.blk (NoP.seq (NoP.seq (NoP.blk (NoP.seq bx))))) (by kernel_rfl) ?_)
 refine TD.run ag [0] Z Z (Aa Z (Aj 0 Z Df Z Z) Z (TD.run ag [2,3] Z Z (Aa Z (Aj 0 Z C0 Z Z) Z ?_)))
 obtain⟨⟨x18,st19⟩,hx20,h⟩:=CL h
 try dsimp only at h
 refine BE Z .u (.fn Tryz.call68 Z) (aE g st15 1 _ hx20) sT Z [0,0,0,1,1] (Z) (TD.run ag [6] Z Z (BR (cs':= #[jI x18]) Z .u Z Z CX Z Z Z Z [0,0,0,1,1] (Z) (TD.nil (Ap (X.seq (T.region Z (z4 Z (Ex.add Z Z (by omega)) Z (zX ag 1 Z (TL.nil (AU [0,1,1,1,1,1] Z ?_))))))))))
 refine Bi (TW.step (zY rfl (z8 ag rfl (T.seq (Ae rfl (CP (show 4<13 by omega)) (Ar (T.seq (T.block (zY rfl (z4 rfl (AQ (k:=4) (r:=8) rfl rfl rfl C4 CY (by decide) rfl) rfl (z4 rfl (Ag (us := [.pointer (some ⟨b2,3,none⟩),jI 4]) 1 rfl De CY rfl rfl rfl) rfl (TL.alloc rfl .u Tryz.zeroValue236 rfl (fun b21=> ?_)))))))))))))
 refine Ad (cs':= #[.pointer (some ⟨b2,3,none⟩),jI 4]) Z .u Z Z CY Z Z Z Z ?_
 refine zZ (AE (.q 0 (.q 1 (.q 2 (.q 3 (.q 4 (.e 5 (.q 6 (.e 7 .nil)))))))) [0,0,0,0,1] Z aZ (NoP.blk (NoP.seq (NoP.seq (NoP.blk (NoP.seq bx))))) (by kernel_rfl) ?_)
 refine TD.run ag [0] Z Z (Aa Z (Aj 0 Z Df Z Z) Z (TD.run ag [2,3] Z Z (Aa Z (Aj 0 Z C0 Z Z) Z ?_)))
 obtain⟨⟨x22,st23⟩,hx24,h⟩:=CL h
 try dsimp only at h
 refine BE Z .u (.fn Tryz.call68 Z) (aE g st19 4 _ hx24) sT Z [0,0,0,0,1] (Z) (TD.run ag [6] Z Z (Bz (cs':= #[jI x6,jI x10,jI x14,jI x22,jI 0,jI 0,jI 0,jI 0,jI 0,jI 0,jI 0,jI 0]) Z .u Z Z CX Z Z Z Z [0,0,0,0,1] (Z) (TD.nil (Ap (X.seq (T.region Z (z4 Z (Ex.add Z Z (by omega)) Z (zX ag 1 Z (TL.nil (AU [0,1,1,1,1,1] Z ?_))))))))))
 refine Bi (TW.step (zY rfl (z8 ag rfl (T.seq (Ae rfl (CP (show 5<13 by omega)) (Ar (T.seq (T.block (zY rfl (z4 rfl (AQ (k:=5) (r:=10) rfl rfl rfl C4 CY (by decide) rfl) rfl (z4 rfl (Ag (us := [.pointer (some ⟨b2,4,none⟩),jI 2]) 1 rfl De CY rfl rfl rfl) rfl (TL.alloc rfl .u Tryz.zeroValue236 rfl (fun b25=> ?_)))))))))))))
 refine Ad (cs':= #[.pointer (some ⟨b2,4,none⟩),jI 2]) Z .u Z Z CY Z Z Z Z ?_
 refine zZ (AE (.q 0 (.q 1 (.q 2 (.q 3 (.q 4 (.e 5 (.q 6 (.e 7 .nil)))))))) [0,0,0,0,1] Z aZ (NoP.blk (NoP.seq (NoP.seq (NoP.blk (NoP.seq bx))))) (by kernel_rfl) ?_)
 refine TD.run ag [0] Z Z (Aa Z (Aj 0 Z Df Z Z) Z (TD.run ag [2,3] Z Z (Aa Z (Aj 0 Z C0 Z Z) Z ?_)))
 obtain⟨⟨x26,st27⟩,hx28,h⟩:=CL h
 try dsimp only at h
 refine BE Z .u (.fn Tryz.call68 Z) (aE g st23 2 _ hx28) sT Z [0,0,0,0,1] (Z) (TD.run ag [6] Z Z (Bz (cs':= #[jI x6,jI x10,jI x14,jI x22,jI x26,jI 0,jI 0,jI 0,jI 0,jI 0,jI 0,jI 0]) Z .u Z Z CX Z Z Z Z [0,0,0,0,1] (Z) (TD.nil (Ap (X.seq (T.region Z (z4 Z (Ex.add Z Z (by omega)) Z (zX ag 1 Z (TL.nil (AU [0,1,1,1,1,1] Z ?_))))))))))
 refine Bi (TW.step (zY rfl (z8 ag rfl (T.seq (Ae rfl (CP (show 6<13 by omega)) (Ar (T.seq (T.block (zY rfl (z4 rfl (AQ (k:=6) (r:=12) rfl rfl rfl C4 CY (by decide) rfl) rfl (z4 rfl (Ag (us := [.pointer (some ⟨b2,5,none⟩),jI 4]) 1 rfl De CY rfl rfl rfl) rfl (TL.alloc rfl .u Tryz.zeroValue236 rfl (fun b29=> ?_)))))))))))))
 refine Ad (cs':= #[.pointer (some ⟨b2,5,none⟩),jI 4]) Z .u Z Z CY Z Z Z Z ?_
 refine zZ (AE (.q 0 (.q 1 (.q 2 (.q 3 (.q 4 (.e 5 (.q 6 (.e 7 .nil)))))))) [0,0,0,0,1] Z aZ (NoP.blk (NoP.seq (NoP.seq (NoP.blk (NoP.seq bx))))) (by kernel_rfl) ?_)
 refine TD.run ag [0] Z Z (Aa Z (Aj 0 Z Df Z Z) Z (TD.run ag [2,3] Z Z (Aa Z (Aj 0 Z C0 Z Z) Z ?_)))
 obtain⟨⟨x30,st31⟩,hx32,h⟩:=CL h
 try dsimp only at h
 refine BE Z .u (.fn Tryz.call68 Z) (aE g st27 4 _ hx32) sT Z [0,0,0,0,1] (Z) (TD.run ag [6] Z Z (Bz (cs':= #[jI x6,jI x10,jI x14,jI x22,jI x26,jI x30,jI 0,jI 0,jI 0,jI 0,jI 0,jI 0]) Z .u Z Z CX Z Z Z Z [0,0,0,0,1] (Z) (TD.nil (Ap (X.seq (T.region Z (z4 Z (Ex.add Z Z (by omega)) Z (zX ag 1 Z (TL.nil (AU [0,1,1,1,1,1] Z ?_))))))))))
 refine Bi (TW.step (zY rfl (z8 ag rfl (T.seq (Ae rfl (CP (show 7<13 by omega)) (Ar (T.seq (T.block (zY rfl (z4 rfl (AQ (k:=7) (r:=14) rfl rfl rfl C4 CY (by decide) rfl) rfl (z4 rfl (Ag (us := [.pointer (some ⟨b2,6,none⟩),jI 8]) 1 rfl De CY rfl rfl rfl) rfl (TL.alloc rfl .u Tryz.zeroValue236 rfl (fun b33=> ?_)))))))))))))
 refine Ad (cs':= #[.pointer (some ⟨b2,6,none⟩),jI 8]) Z .u Z Z CY Z Z Z Z ?_
 refine zZ (AE (.q 0 (.q 1 (.q 2 (.q 3 (.q 4 (.e 5 (.q 6 (.e 7 .nil)))))))) [0,0,0,0,1] Z aZ (NoP.blk (NoP.seq (NoP.seq (NoP.blk (NoP.seq bx))))) (by kernel_rfl) ?_)
 refine TD.run ag [0] Z Z (Aa Z (Aj 0 Z Df Z Z) Z (TD.run ag [2,3] Z Z (Aa Z (Aj 0 Z C0 Z Z) Z ?_)))
 obtain⟨⟨x34,st35⟩,hx36,h⟩:=CL h
 try dsimp only at h
 refine BE Z .u (.fn Tryz.call68 Z) (aE g st31 8 _ hx36) sT Z [0,0,0,0,1] (Z) (TD.run ag [6] Z Z (Bz (cs':= #[jI x6,jI x10,jI x14,jI x22,jI x26,jI x30,jI x34,jI 0,jI 0,jI 0,jI 0,jI 0]) Z .u Z Z CX Z Z Z Z [0,0,0,0,1] (Z) (TD.nil (Ap (X.seq (T.region Z (z4 Z (Ex.add Z Z (by omega)) Z (zX ag 1 Z (TL.nil (AU [0,1,1,1,1,1] Z ?_))))))))))
 refine Bi (TW.step (zY rfl (z8 ag rfl (T.seq (Ae rfl (CP (show 8<13 by omega)) (Ar (T.seq (T.block (zY rfl (z4 rfl (AQ (k:=8) (r:=16) rfl rfl rfl C4 CY (by decide) rfl) rfl (z4 rfl (Ag (us := [.pointer (some ⟨b2,7,none⟩),jI 8]) 1 rfl De CY rfl rfl rfl) rfl (TL.alloc rfl .u Tryz.zeroValue236 rfl (fun b37=> ?_)))))))))))))
 refine Ad (cs':= #[.pointer (some ⟨b2,7,none⟩),jI 8]) Z .u Z Z CY Z Z Z Z ?_
 refine zZ (AE (.q 0 (.q 1 (.q 2 (.q 3 (.q 4 (.e 5 (.q 6 (.e 7 .nil)))))))) [0,0,0,0,1] Z aZ (NoP.blk (NoP.seq (NoP.seq (NoP.blk (NoP.seq bx))))) (by kernel_rfl) ?_)
 refine TD.run ag [0] Z Z (Aa Z (Aj 0 Z Df Z Z) Z (TD.run ag [2,3] Z Z (Aa Z (Aj 0 Z C0 Z Z) Z ?_)))
 obtain⟨⟨x38,st39⟩,hx40,h⟩:=CL h
 try dsimp only at h
 refine BE Z .u (.fn Tryz.call68 Z) (aE g st35 8 _ hx40) sT Z [0,0,0,0,1] (Z) (TD.run ag [6] Z Z (Bz (cs':= #[jI x6,jI x10,jI x14,jI x22,jI x26,jI x30,jI x34,jI x38,jI 0,jI 0,jI 0,jI 0]) Z .u Z Z CX Z Z Z Z [0,0,0,0,1] (Z) (TD.nil (Ap (X.seq (T.region Z (z4 Z (Ex.add Z Z (by omega)) Z (zX ag 1 Z (TL.nil (AU [0,1,1,1,1,1] Z ?_))))))))))
 refine Bi (TW.step (zY rfl (z8 ag rfl (T.seq (Ae rfl (CP (show 9<13 by omega)) (Ar (T.seq (T.block (zY rfl (z4 rfl (AQ (k:=9) (r:=18) rfl rfl rfl C4 CY (by decide) rfl) rfl (z4 rfl (Ag (us := [.pointer (some ⟨b2,8,none⟩),jI 8]) 1 rfl De CY rfl rfl rfl) rfl (TL.alloc rfl .u Tryz.zeroValue236 rfl (fun b41=> ?_)))))))))))))
 refine Ad (cs':= #[.pointer (some ⟨b2,8,none⟩),jI 8]) Z .u Z Z CY Z Z Z Z ?_
 refine zZ (AE (.q 0 (.q 1 (.q 2 (.q 3 (.q 4 (.e 5 (.q 6 (.e 7 .nil)))))))) [0,0,0,0,1] Z aZ (NoP.blk (NoP.seq (NoP.seq (NoP.blk (NoP.seq bx))))) (by kernel_rfl) ?_)
 refine TD.run ag [0] Z Z (Aa Z (Aj 0 Z Df Z Z) Z (TD.run ag [2,3] Z Z (Aa Z (Aj 0 Z C0 Z Z) Z ?_)))
 obtain⟨⟨x42,st43⟩,hx44,h⟩:=CL h
 try dsimp only at h
 refine BE Z .u (.fn Tryz.call68 Z) (aE g st39 8 _ hx44) sT Z [0,0,0,0,1] (Z) (TD.run ag [6] Z Z (Bz (cs':= #[jI x6,jI x10,jI x14,jI x22,jI x26,jI x30,jI x34,jI x38,jI x42,jI 0,jI 0,jI 0]) Z .u Z Z CX Z Z Z Z [0,0,0,0,1] (Z) (TD.nil (Ap (X.seq (T.region Z (z4 Z (Ex.add Z Z (by omega)) Z (zX ag 1 Z (TL.nil (AU [0,1,1,1,1,1] Z ?_))))))))))
 refine Bi (TW.step (zY rfl (z8 ag rfl (T.seq (Ae rfl (CP (show 10<13 by omega)) (Ar (T.seq (T.block (zY rfl (z4 rfl (AQ (k:=10) (r:=20) rfl rfl rfl C4 CY (by decide) rfl) rfl (z4 rfl (Ag (us := [.pointer (some ⟨b2,9,none⟩),jI 2]) 1 rfl De CY rfl rfl rfl) rfl (TL.alloc rfl .u Tryz.zeroValue236 rfl (fun b45=> ?_)))))))))))))
 refine Ad (cs':= #[.pointer (some ⟨b2,9,none⟩),jI 2]) Z .u Z Z CY Z Z Z Z ?_
 refine zZ (AE (.q 0 (.q 1 (.q 2 (.q 3 (.q 4 (.e 5 (.q 6 (.e 7 .nil)))))))) [0,0,0,0,1] Z aZ (NoP.blk (NoP.seq (NoP.seq (NoP.blk (NoP.seq bx))))) (by kernel_rfl) ?_)
 refine TD.run ag [0] Z Z (Aa Z (Aj 0 Z Df Z Z) Z (TD.run ag [2,3] Z Z (Aa Z (Aj 0 Z C0 Z Z) Z ?_)))
 obtain⟨⟨x46,st47⟩,hx48,h⟩:=CL h
 try dsimp only at h
 refine BE Z .u (.fn Tryz.call68 Z) (aE g st43 2 _ hx48) sT Z [0,0,0,0,1] (Z) (TD.run ag [6] Z Z (Bz (cs':= #[jI x6,jI x10,jI x14,jI x22,jI x26,jI x30,jI x34,jI x38,jI x42,jI x46,jI 0,jI 0]) Z .u Z Z CX Z Z Z Z [0,0,0,0,1] (Z) (TD.nil (Ap (X.seq (T.region Z (z4 Z (Ex.add Z Z (by omega)) Z (zX ag 1 Z (TL.nil (AU [0,1,1,1,1,1] Z ?_))))))))))
 refine Bi (TW.step (zY rfl (z8 ag rfl (T.seq (Ae rfl (CP (show 11<13 by omega)) (Ar (T.seq (T.block (zY rfl (z4 rfl (AQ (k:=11) (r:=22) rfl rfl rfl C4 CY (by decide) rfl) rfl (z4 rfl (Ag (us := [.pointer (some ⟨b2,10,none⟩),jI 4]) 1 rfl De CY rfl rfl rfl) rfl (TL.alloc rfl .u Tryz.zeroValue236 rfl (fun b49=> ?_)))))))))))))
 refine Ad (cs':= #[.pointer (some ⟨b2,10,none⟩),jI 4]) Z .u Z Z CY Z Z Z Z ?_
 refine zZ (AE (.q 0 (.q 1 (.q 2 (.q 3 (.q 4 (.e 5 (.q 6 (.e 7 .nil)))))))) [0,0,0,0,1] Z aZ (NoP.blk (NoP.seq (NoP.seq (NoP.blk (NoP.seq bx))))) (by kernel_rfl) ?_)
 refine TD.run ag [0] Z Z (Aa Z (Aj 0 Z Df Z Z) Z (TD.run ag [2,3] Z Z (Aa Z (Aj 0 Z C0 Z Z) Z ?_)))
 obtain⟨⟨x50,st51⟩,hx52,h⟩:=CL h
 try dsimp only at h
 refine BE Z .u (.fn Tryz.call68 Z) (aE g st47 4 _ hx52) sT Z [0,0,0,0,1] (Z) (TD.run ag [6] Z Z (Bz (cs':= #[jI x6,jI x10,jI x14,jI x22,jI x26,jI x30,jI x34,jI x38,jI x42,jI x46,jI x50,jI 0]) Z .u Z Z CX Z Z Z Z [0,0,0,0,1] (Z) (TD.nil (Ap (X.seq (T.region Z (z4 Z (Ex.add Z Z (by omega)) Z (zX ag 1 Z (TL.nil (AU [0,1,1,1,1,1] Z ?_))))))))))
 refine Bi (TW.step (zY rfl (z8 ag rfl (T.seq (Ae rfl (CP (show 12<13 by omega)) (Ar (T.seq (T.block (zY rfl (z4 rfl (AQ (k:=12) (r:=24) rfl rfl rfl C4 CY (by decide) rfl) rfl (z4 rfl (Ag (us := [.pointer (some ⟨b2,11,none⟩),jI 4]) 1 rfl De CY rfl rfl rfl) rfl (TL.alloc rfl .u Tryz.zeroValue236 rfl (fun b53=> ?_)))))))))))))
 refine Ad (cs':= #[.pointer (some ⟨b2,11,none⟩),jI 4]) Z .u Z Z CY Z Z Z Z ?_
 refine zZ (AE (.q 0 (.q 1 (.q 2 (.q 3 (.q 4 (.e 5 (.q 6 (.e 7 .nil)))))))) [0,0,0,0,1] Z aZ (NoP.blk (NoP.seq (NoP.seq (NoP.blk (NoP.seq bx))))) (by kernel_rfl) ?_)
 refine TD.run ag [0] Z Z (Aa Z (Aj 0 Z Df Z Z) Z (TD.run ag [2,3] Z Z (Aa Z (Aj 0 Z C0 Z Z) Z ?_)))
 obtain⟨⟨x54,st55⟩,hx56,h⟩:=CL h
 try dsimp only at h
 refine BE Z .u (.fn Tryz.call68 Z) (aE g st51 4 _ hx56) sT Z [0,0,0,0,1] (Z) (TD.run ag [6] Z Z (Bz (cs':= #[jI x6,jI x10,jI x14,jI x22,jI x26,jI x30,jI x34,jI x38,jI x42,jI x46,jI x50,jI x54]) Z .u Z Z CX Z Z Z Z [0,0,0,0,1] (Z) (TD.nil (Ap (X.seq (T.region Z (z4 Z (Ex.add Z Z (by omega)) Z (zX ag 1 Z (TL.nil (AU [0,1,1,1,1,1] Z ?_))))))))))
 refine Bi (TW.step (zY rfl (z8 ag rfl (T.seq (Ay rfl (CS (show ¬ (13<13) by omega)) (T.exit (As (As (AW (X.seq (zY rfl (z6 ag dU 3 rfl 2 rfl rfl (z4 rfl (Ex.bitw rfl rfl rfl) rfl (zX ag 1 rfl ?_))))))))))))))
 refine AO (cs':= #[jI x6,jI x10,jI x14,jI (Go.bits .and .i64 x22 4294967295),jI x26,jI x30,jI x34,jI x38,jI x42,jI x46,jI x50,jI x54]) Z .u Z Z CX Z Z Z Z (zZ (T.seq (T.block (zY Z ?_))))
 obtain⟨⟨x57,st58⟩,hx59,h⟩:=CL h
 try dsimp only at h
 refine zX ag 1 Z (BJ Z .u (.fn Tryz.call23 Z) (bu g st55 _ hx59) sT Z (z8 ag Z ?_))
 obtain⟨st117,h,hk118⟩:=CL h
 refine AK (fun e Rs=>e = [(0,jP g),(2,jP b1),(3,jP b2)]∧Rs = [ay b53 236 #[.pointer (some ⟨b2,11,none⟩),jI 4],ay b4 236 (vA0 b2 b3),ay b3 3 #[jI x18],ay b2 159 #[jI x6,jI x10,jI x14,jI (Go.bits .and .i64 x22 4294967295),jI x26,jI x30,jI x34,jI x38,jI x42,jI x46,jI x50,jI x54],ay b1 159 #[jI 0,jI 0,jI 0,jI 0,jI 0,jI 0,jI 0,jI 0,jI 0,jI 0,jI 0,jI 0],InR g st117]) ?_ ?_
 ·clear hk118
  rcases jF h with⟨c119,h⟩ | ⟨c119,h⟩
  ·refine T.nn Z c119 (zY Z (BA ag dU 2 Z Z Z ?_))
   obtain⟨st147,h,hk148⟩:=CL h
   refine AK (fun e Rs=>e = [(0,jP g),(2,jP b1),(3,jP b2)]∧Rs = [ay b53 236 #[.pointer (some ⟨b2,11,none⟩),jI 4],ay b4 236 (vA0 b2 b3),ay b3 3 #[jI x18],ay b2 159 #[jI x6,jI x10,jI x14,jI (Go.bits .and .i64 x22 4294967295),jI x26,jI x30,jI x34,jI x38,jI x42,jI x46,jI x50,jI x54],ay b1 159 #[jI 0,jI 0,jI 0,jI 0,jI 0,jI 0,jI 0,jI 0,jI 0,jI 0,jI 0,jI 0],InR g st147]) ?_ ?_
   ·clear hk148
    rcases jF h with⟨c149,h⟩ | ⟨c149,h⟩
    ·refine T.nn Z c149 (zY Z (BA ag dU 3 Z Z Z ?_))
     obtain⟨st161,h,hk162⟩:=CL h
     refine AK (fun e Rs=>e = [(0,jP g),(2,jP b1),(3,jP b2)]∧Rs = [ay b53 236 #[.pointer (some ⟨b2,11,none⟩),jI 4],ay b4 236 (vA0 b2 b3),ay b3 3 #[jI x18],ay b2 159 #[jI x6,jI x10,jI x14,jI (Go.bits .and .i64 x22 4294967295),jI x26,jI x30,jI x34,jI x38,jI x42,jI x46,jI x50,jI x54],ay b1 159 #[jI 0,jI 0,jI 0,jI 0,jI 0,jI 0,jI 0,jI 0,jI 0,jI 0,jI 0,jI 0],InR g st161]) ?_ ?_
     ·clear hk162
      rcases jF h with⟨c163,h⟩ | ⟨c163,h⟩
      ·refine Bb Z c163 (T.region Z ?_)
       obtain⟨st164,hx165,h⟩:=CL h
       refine zX ag 1 Z (BJ Z .u (.fn Tryz.call70 Z) (aU g st58 4 _ hx165) sT Z ?_)
       cases h
       exact TL.nil (Ah [0,0,0,0,0,0])
      refine Bc Z c163 (zY Z (BA ag dU 3 Z Z Z ?_))
      obtain⟨st169,h,hk170⟩:=CL h
      refine AK (fun e Rs=>e = [(0,jP g),(2,jP b1),(3,jP b2)]∧Rs = [ay b53 236 #[.pointer (some ⟨b2,11,none⟩),jI 4],ay b4 236 (vA0 b2 b3),ay b3 3 #[jI x18],ay b2 159 #[jI x6,jI x10,jI x14,jI (Go.bits .and .i64 x22 4294967295),jI x26,jI x30,jI x34,jI x38,jI x42,jI x46,jI x50,jI x54],ay b1 159 #[jI 0,jI 0,jI 0,jI 0,jI 0,jI 0,jI 0,jI 0,jI 0,jI 0,jI 0,jI 0],InR g st169]) ?_ ?_
      ·clear hk170
       rcases jF h with⟨c171,h⟩ | ⟨c171,h⟩
       ·refine Bb Z c171 (T.region Z ?_)
        obtain⟨st172,hx173,h⟩:=CL h
        refine zX ag 1 Z (BJ Z .u (.fn Tryz.call70 Z) (aU g st58 10 _ hx173) sT Z ?_)
        cases h
        exact TL.nil (Ah [0,0,0,0,0,0])
       refine Bc Z c171 ?_
       cases h
       exact T.skip (Ah [0,0,0,0,0,0])
      rintro _ _ ⟨rfl,rfl⟩
      clear h
      have h:=hk170
      clear hk170
      try dsimp only at h
      cases h
      exact Ah [0,0,0,0,0,0]
     rintro _ _ ⟨rfl,rfl⟩
     clear h
     have h:=hk162
     clear hk162
     try dsimp only at h
     cases h
     exact Ah [0,0,0,0,0,0]
    refine T.yn Z c149 (T.region Z ?_)
    obtain⟨st174,hx175,h⟩:=CL h
    refine zX ag 1 Z (BJ Z .u (.fn Tryz.call70 Z) (aU g st58 6 _ hx175) sT Z ?_)
    cases h
    exact TL.nil (Ah [0,0,0,0,0,0])
   rintro _ _ ⟨rfl,rfl⟩
   clear h
   have h:=hk148
   clear hk148
   try dsimp only at h
   cases h
   exact Ah [0,0,0,0,0,0]
  refine T.yn Z c119 ?_
  cases h
  exact T.skip (Ah [0,0,0,0,0,0])
 rintro _ _ ⟨rfl,rfl⟩
 clear h
 have h:=hk118
 clear hk118
 try dsimp only at h
 refine Ap (X.seq (T.seq (zY Z ?_)))
 obtain⟨⟨x176,st177⟩,hx178,h⟩:=CL h
 try dsimp only at h
 refine zX ag 1 Z (BJ Z .u (.fn Tryz.call23 Z) (bu g st117 _ hx178) sT Z (zX ag 1 Z ?_))
 rcases jF h with⟨c179,h⟩ | ⟨c179,h⟩
 ·refine Au Z c179 (Az Z (z4 Z (Ag (us := [jI x6,jI x10,jI x14,jI (Go.bits .and .i64 x22 4294967295),jI x26,jI x30,jI x34,jI x38,jI x42,jI x46,jI x50,jI x54]) 3 Z Ed DF Z Z Z) Z (BS (cs':= #[jI x6,jI x10,jI x14,jI (Go.bits .and .i64 x22 4294967295),jI x26,jI x30,jI x34,jI x38,jI x42,jI x46,jI x50,jI x54]) Z .u Z Z DF Z Z Z Z ?_)))
  obtain rfl:=CN h
  exact zZ (T.ret (Aw [5] Tryz.results133 (AA (us:= #[jI x6,jI x10,jI x14,jI (Go.bits .and .i64 x22 4294967295),jI x26,jI x30,jI x34,jI x38,jI x42,jI x46,jI x50,jI x54]) 4 Z Ed DF Z Z) ⟨Z,Z,Z⟩ (by rfl) (.inl Z)))
 refine At Z c179 (zY Z ?_)
 refine z4 Z (Ao (cells:= #[jI 0,jI 0,jI 0,jI 0,jI 0,jI 0,jI 0,jI 0,jI 0,jI 0,jI 0,jI 0]) oV Z (by kernel_rfl)) Z ?_
 refine BS (cs':= #[jI 0,jI 0,jI 0,jI 0,jI 0,jI 0,jI 0,jI 0,jI 0,jI 0,jI 0,jI 0]) Z .u Z Z DF Z Z Z Z ?_
 obtain rfl:=CN h
 exact zZ (T.ret (z7 (Af [5] Tryz.results133 (AA (us:= #[jI 0,jI 0,jI 0,jI 0,jI 0,jI 0,jI 0,jI 0,jI 0,jI 0,jI 0,jI 0]) 4 Z Ed DF Z Z))))
def wb:fj := [(245,0,0),(245,1,1)]
theorem aJ:(wb).OK Tryz.prog:=⟨FOK.mk El rfl DD rfl,FOK.mk El rfl C8 rfl,trivial⟩
def wc:List Nat := [9]
theorem rH:NOK Tryz.prog wc:=⟨DL,trivial⟩
theorem oW:BOK Tryz.prog 245 #[.string ⟨#[]⟩,.bool false,.string ⟨#[]⟩] [(0,1),(1,2)]:=BOK.mk Tryz.zeroValue245 El (by intro w; simp)
theorem oh:SOK Tryz.prog 89 245 1 3 #[.string ⟨#[]⟩,.bool false,.string ⟨#[]⟩]:=SOK.mk DQ Eb Tryz.zeroValue245 (by decide) (by kernel_rfl)
theorem oX:(Tryz.prog.info? 245).map (fun i=>(i.zero,i.size,i.bytes))=some (some (.agg #[.string ⟨#[]⟩,.bool false,.string ⟨#[]⟩]),3,40):=by kernel_rfl
def cA:List Hd→(List UInt8×Int)→Option (List UInt8×Int)
 | [],st6=>some st6
 | x11::xs,st6=>(jA st6 x11.Cq).bind fun st16=>(fR st16 x11.Cb).bind fun st18=>cA xs st18
def fm (st:List UInt8×Int) (a1:List Hd):Option (List UInt8×Int):=(mA st (a1.length:Int)).bind fun st3=>(cA a1 st3).bind fun st21=>some st21
theorem lu (g:Nat) (st:List UInt8×Int) (a1:List Hd) (A1:Option Addr) (c2:Nat) (r:List UInt8×Int) (h:fm st a1=some r):au Tryz.prog 184 #[jP g,.slice A1 a1.length c2] (RX.of (an 3 bT) [.slice A1 a1.length c2] a1) (aP g st) (fun v A' N=>v= .tuple #[]∧A'=aP g r∧N = []):=by
 refine aL Tryz.func184 Z Tryz.ntmps184 Z ?_
 intro F w hX
 unfold fm at h
 refine zY Z (zX aJ 2 Z (z4 Z (AB Z DQ) Z ?_))
 obtain⟨st3,hx4,h⟩:=CL h
 refine Aq Z .u (.fn Tryz.call182 Z) (mB g st (a1.length:Int) _ hx4) sT Z (Ab Z (zX aJ 1 Z (z4 Z (AB Z DQ) Z (z8 aJ Z (T.block ?_)))))
 obtain⟨E7,hE8,hO9⟩:=CL h
 have hk13len:=AL hX
 refine AX (fun m e Rs=> ∃ (k5:Nat) (st6:List UInt8×Int),k5+m=a1.length∧e = [(0,jP g),(10,.slice A1 a1.length c2),(11,jI (a1.length:Int)),(12,jI (k5:Int))]∧Rs = [aP g st6]∧cA (a1.drop k5) st6=some E7) (a1.length) [0] ⟨0,st3,by simp,Z,Z,by rw[List.drop_zero]; exact hE8⟩ (by rfl) (by rfl) ?_
 clear hE8 h
 rintro m10 _ _ ⟨k5,st6,hk13,rfl,rfl,h⟩
 cases m10 with
 | zero =>
  rw[List.drop_of_length_le (by omega),cA] at h
  have hk13ge: ¬ ((k5:Int)<(a1.length:Int)):=by omega
  refine zY Z (z8 aJ Z (T.seq (Ay Z (CS hk13ge) ?_)))
  obtain rfl:=CN h
  obtain rfl:=CN hO9
  exact T.exit (As (As (AW (AR [0] Tryz.results184 ⟨Z,Z,Z⟩ (by rfl) (.inr Z)))))
 | succ m10 =>
  obtain⟨x11,hxx11⟩: ∃ x,a1[k5]? = some x:=⟨_,List.getElem?_eq_getElem (by omega)⟩
  rw[bF hxx11,cA] at h
  have hk13lt:(k5:Int)<(a1.length:Int):=by omega
  refine zY Z (z8 aJ Z (T.seq (Ae Z (CP hk13lt) ?_)))
  obtain⟨gz14,oz14,rfl,z14cs,z14cl,z14cc,z14nf,z14r⟩:=AM (by decide) hX hxx11
  obtain⟨z14S,z14r,z14rr⟩:=z14r
  obtain rfl:z14cs=(wL2 x11):=z14r
  refine Ar (T.seq (T.block (zY Z ?_)))
  refine z4 Z (AN (k:=k5) Z Z Z DQ Eb (CZ hxx11).1) Z ?_
  refine z4 Z (Bj (us:=wL2 x11) 0 Z Tryz.isAgg245 Eb z14nf z14cc Z Z Z) Z (TL.alloc Z .u Tryz.zeroValue245 Z (fun b15=>(Ad (cs':=wA3 x11) Z .u Z Z Eb Z Z Z Z (Ab Z ?_))))
  obtain⟨st16,hx17,h⟩:=CL h
  refine z6 aJ rH 0 Z 3 Z Z (Al Z .u (.fn Tryz.call132 Z) (lJ g st6 x11.Cq _ hx17) sT Z (zZ (T.region Z (zX aJ 2 Z (z4 Z (Ag (us := [.bool x11.Cb.null,jS x11.Cb.data]) 0 Z DG C8 Z Z Z) Z ?_)))))
  obtain⟨st18,hx19,h⟩:=CL h
  exact Al Z .u (.fn Tryz.call183 Z) (hY g st16 x11.Cb _ hx19) sT Z (TL.nil (Ap (X.seq (T.region Z (z4 Z (Ex.add Z Z (by omega)) Z (zX aJ 1 Z (TL.nil (X.back (m':=m10) [1] (by omega) ⟨k5+1,st18,by omega,Z,Z,h⟩ (by rfl) (by rfl)))))))))
def co (x1:Int):Nat→List Hd→List Hd→Nat→I→Option (Lp (List Hd×I) (List Hd×List Hd×Nat×I))
 | 0,_,_,_,_=>none
 | m29+1,y18,y21,k24,st25=>if (k24:Int)<x1 then ((oO st25).bind fun (x34,st35)=>(bQ st35).bind fun (x37,st38)=>if (y21.length+1)*40≤140737488355328 then ((fa st38).bind fun (x44,st45)=>if x44=0 then (if -9223372036854775808≤((k24:Int)+1)∧((k24:Int)+1)≤9223372036854775807 then (co x1 m29 y18 (y21 ++ [(⟨x34,x37⟩:Hd)]) (k24+1) st45) else none) else (some (Lp.ret ([],st45)))) else none) else (some (Lp.go (y18,y21,k24,st25)))
def bf (st:I)  : Option (List Hd×I):=(kc st).bind fun (x1,st2)=>(fa st2).bind fun (x4,st5)=>if x4=0 then (if x1<0 then ((bg st5 4).bind fun st9=>some ([],st9)) else ((oK st5).bind fun (x11,st12)=>if 0≤x11∧x11≤9223372036854775807 then (if x1>(x11 / 2) then ((bg st12 1).bind fun st16=>some ([],st16)) else ((co x1 ((x1).toNat+1) [] [] 0 st12).bind fun e=>match e with | .ret r=>some r | .go (y49,y52,k55,st56)=>some (y52,st56))) else none)) else some ([],st5)
theorem eJ (g:Nat) (st:I)  (r:List Hd×I) (h:bf st  = some r):au Tryz.prog 129 #[jP g] .triv (InR g st) (fun v A' N=> ∃ (A57:Option Addr) (c58:Nat),v= .slice A57 r.1.length c58∧A'=InR g r.2∧N = [RdR (an 3 bT) [.slice A57 r.1.length c58] r.1]):=by
 refine aL Tryz.func129 Z Tryz.ntmps129 Z ?_
 intro F w hX
 unfold bf at h
 refine zY Z (Ai aJ Z Z ?_)
 obtain⟨⟨x1,st2⟩,hx3,h⟩:=CL h
 try dsimp only at h
 refine zX aJ 1 Z (Aq Z .u (.fn Tryz.call127 Z) (lV g st _ hx3) sT Z (z8 aJ Z (T.seq (T.block (zY Z ?_)))))
 obtain⟨⟨x4,st5⟩,hx6,h⟩:=CL h
 try dsimp only at h
 refine zX aJ 1 Z (Aq Z .u (.fn Tryz.call23 Z) (bu g st2 _ hx6) sT Z (zX aJ 2 Z ?_))
 rcases jF h with⟨c7,h⟩ | ⟨c7,h⟩
 ·refine Au Z c7 (zY Z (zX aJ 3 Z ?_))
  rcases jF h with⟨c8,h⟩ | ⟨c8,h⟩
  ·refine A4 Z c8 (zY Z ?_)
   obtain⟨st9,hx10,h⟩:=CL h
   refine zX aJ 1 Z (Aq Z .u (.fn Tryz.call70 Z) (aU g st5 4 _ hx10) sT Z (Ab Z (zX aJ 1 Z ?_)))
   obtain rfl:=CN h
   exact zZ (T.ret (Am (z7 (Ak 3 bT (Aw [1,0] Er (z5 Z) ⟨_,_,Z,Z,Z⟩ (by rfl) (.inl Z))))))
  refine A7 Z c8 (zY Z ?_)
  obtain⟨⟨x11,st12⟩,hx13,h⟩:=CL h
  try dsimp only at h
  refine zX aJ 2 Z (Aq Z .u (.fn Tryz.call71 Z) (jV g st5 _ hx13) sT Z ?_)
  obtain⟨c14,h⟩:=aH h
  refine z4 Z (Ex.quo Z Z (by omega) c14) Z (zX aJ 2 Z ?_)
  rcases jF h with⟨c15,h⟩ | ⟨c15,h⟩
  ·refine A4 Z c15 (zY Z ?_)
   obtain⟨st16,hx17,h⟩:=CL h
   refine zX aJ 1 Z (Aq Z .u (.fn Tryz.call70 Z) (aU g st12 1 _ hx17) sT Z (Ab Z (zX aJ 1 Z ?_)))
   obtain rfl:=CN h
   exact zZ (T.ret (Am (z7 (Ak 3 bT (Aw [1,0] Er (z5 Z) ⟨_,_,Z,Z,Z⟩ (by rfl) (.inl Z))))))
  refine A7 Z c15 (T.skip (Ap (X.seq (zY Z (z8 aJ Z (T.seq (zY Z (z8 aJ Z (T.block ?_)))))))))
  iterate 2 refine Bu 245 3 bT ?_
  obtain⟨E26,hE27,hO28⟩:=CL h
  refine AX (fun m e Rs=> ∃ (y18:List Hd) (A19:Option Addr) (c20:Nat) (y21:List Hd) (A22:Option Addr) (c23:Nat) (k24:Nat) (st25:I),e = [(0,jP g),(2,.slice A19 y18.length c20),(4,.slice A22 y21.length c23),(25,jI x1),(26,jI (k24:Int))]∧Rs = [cD 245 3 bT (.slice A19 y18.length c20) y18,cD 245 3 bT (.slice A22 y21.length c23) y21,InR g st25]∧co x1 m y18 y21 k24 st25=some E26) ((x1).toNat+1) [0,0,0] ⟨[],none,0,[],none,0,0,st12,Z,Z,by exact hE27⟩ (by rfl) (by rfl) ?_
  clear hE27 h
  rintro m29 _ _ ⟨y18,A19,c20,y21,A22,c23,k24,st25,rfl,rfl,h⟩
  cases m29 with
  | zero =>
   rw[co] at h
   cases h
  | succ m29 =>
   rw[co] at h
   refine zY Z (zX aJ 1 Z ?_)
   rcases jF h with⟨c33,h⟩ | ⟨c33,h⟩
   ·refine zZ (T.seq (Bb Z c33 (Ar (T.seq (T.block (zY Z ?_))))))
    obtain⟨⟨x34,st35⟩,hx36,h⟩:=CL h
    try dsimp only at h
    refine zX aJ 1 Z (AH Z .u (.fn Tryz.call125 Z) (oP g st25 _ hx36) sT Z (Ai aJ Z Z ?_))
    obtain⟨⟨x37,st38⟩,hx39,h⟩:=CL h
    try dsimp only at h
    refine zX aJ 3 Z (AH Z .u (.fn Tryz.call128 Z) (du g st35 _ hx39) sT Z ?_)
    refine z4 Z (Ao (cells:= #[jS x34,.bool x37.null,jS x37.data]) oW Z (by kernel_rfl)) Z ?_
    refine BI (cells:= #[jS x34,.bool x37.null,jS x37.data]) Z .u oh Z (by kernel_rfl) Z (fun b40=> ?_)
    obtain⟨c41,h⟩:=aH h
    refine TL.app1 1 Z .u (us := [jS x34,.bool x37.null,jS x37.data]) (u:=(⟨x34,x37⟩:Hd)) (l:=y21) (E:=bT) Tryz.underlying89 oX Z (by decide) Z Z Z Z Z Z (fun _ _=>Z) (by have hq:=c41; omega) (by have hq:=c41; omega) Z (fun A42 c43=> ?_)
    refine AD [0,0,0] Z (Ai aJ Z Z ?_)
    obtain⟨⟨x44,st45⟩,hx46,h⟩:=CL h
    try dsimp only at h
    refine zX aJ 1 Z (AH Z .u (.fn Tryz.call23 Z) (bu g st38 _ hx46) sT Z (zX aJ 1 Z ?_))
    rcases jF h with⟨c47,h⟩ | ⟨c47,h⟩
    ·refine Au Z c47 ?_
     obtain⟨c48,h⟩:=aH h
     exact T.skip (Ap (X.seq (T.region Z (z4 Z (Ex.add Z Z c48) Z (zX aJ 1 Z (TL.nil (X.back (m':=m29) [0,0,0] (by omega) ⟨y18,A19,c20,(y21 ++ [(⟨x34,x37⟩:Hd)]),A42,c43,k24+1,st45,Z,Z,h⟩ (by rfl) (by rfl))))))))
    refine At Z c47 (zY Z (zX aJ 1 Z ?_))
    obtain rfl:=CN h
    obtain rfl:=CN hO28
    exact zZ (T.ret (Am (z7 (z7 (Am (z7 (Ak 3 bT (Aw [3,0] Er (z5 Z) ⟨_,_,Z,Z,Z⟩ (by rfl) (.inl Z)))))))))
   refine zZ (T.seq (Bc Z c33 ?_))
   obtain rfl:=CN h
   replace h:=hO28
   clear hO28
   try dsimp only at h
   refine T.exit (As (As (AW (X.seq (zY Z (zX aJ 2 Z ?_))))))
   obtain rfl:=CN h
   exact zZ (T.ret (X.shut (by decide) 1 Z (AU [0,0,0] Z (Aw [2,1] Er (z5 Z) ⟨_,_,Z,Z,Z⟩ (by rfl) (.inl Z)))))
 refine At Z c7 (zY Z (zX aJ 1 Z ?_))
 obtain rfl:=CN h
 exact zZ (T.ret (Am (z7 (Ak 3 bT (Aw [1,0] Er (z5 Z) ⟨_,_,Z,Z,Z⟩ (by rfl) (.inl Z))))))
def wd:fj := [(91,0,0),(91,1,1),(91,2,2),(91,3,4),(91,4,6),(245,1,1)]
theorem ai:(wd).OK Tryz.prog:=⟨FOK.mk Do rfl CX rfl,FOK.mk Do rfl CX rfl,FOK.mk Do rfl C8 rfl,FOK.mk Do rfl C8 rfl,FOK.mk Do rfl Eo rfl,FOK.mk El rfl C8 rfl,trivial⟩
def we:List Nat := [3,89]
theorem dw:NOK Tryz.prog we:=⟨C0,Tryz.isAgg89,trivial⟩
theorem dz:BOK Tryz.prog 91 #[.int .i64 0,.int .i64 0,.bool false,.string ⟨#[]⟩,.bool false,.string ⟨#[]⟩,.slice none 0 0] [(0,1),(1,1),(2,2),(4,2),(6,1)]:=BOK.mk Tryz.zeroValue91 Do (by intro w; simp)
theorem nA:SOK Tryz.prog 313 23 1 2 #[.bool false,.string ⟨#[]⟩]:=SOK.mk Em C8 Tryz.zeroValue23 (by decide) (by kernel_rfl)
theorem nB:SOK Tryz.prog 313 23 2 2 #[.bool false,.string ⟨#[]⟩,.bool false,.string ⟨#[]⟩]:=SOK.mk Em C8 Tryz.zeroValue23 (by decide) (by kernel_rfl)
def cP:List Bl→Bool→Option (Lp Bool Bool)
 | [],y3=>some (Lp.go y3)
 | x9::xs,y3=>(kv x9).bind fun x14=>if x14=true then (cP xs y3) else some (Lp.ret false)
def dN (a0:List Bl):Option (Bool):=(cP a0 false).bind fun e=>match e with | .ret r=>some r | .go y17=>some true
theorem g8 (a0:List Bl) (A1:Option Addr) (c2:Nat) (r:Bool) (h:dN a0=some r):au Tryz.prog 180 #[.slice A1 a0.length c2] (RX.of (an 2 uX) [.slice A1 a0.length c2] a0) (aI) (fun v A' N=>v= .bool r∧A'=aI∧N = []):=by
 refine aL Tryz.func180 Z Tryz.ntmps180 Z ?_
 intro F w hX
 unfold dN at h
 refine zY Z (z8 ai Z (T.seq (zY Z (zX ai 1 Z (z4 Z (AB Z Em) Z (z8 ai Z (T.block ?_)))))))
 obtain⟨E5,hE6,hO7⟩:=CL h
 have hk11len:=AL hX
 refine AX (fun m e Rs=> ∃ (y3:Bool) (k4:Nat),k4+m=a0.length∧e = [(2,.bool y3),(5,.slice A1 a0.length c2),(6,jI (a0.length:Int)),(7,jI (k4:Int))]∧Rs = [aI]∧cP (a0.drop k4) y3=some E5) (a0.length) [0] ⟨false,0,by simp,Z,Z,by rw[List.drop_zero]; exact hE6⟩ (by rfl) (by rfl) ?_
 clear hE6 h
 rintro m8 _ _ ⟨y3,k4,hk11,rfl,rfl,h⟩
 cases m8 with
 | zero =>
  rw[List.drop_of_length_le (by omega),cP] at h
  have hk11ge: ¬ ((k4:Int)<(a0.length:Int)):=by omega
  refine zY Z (z8 ai Z (T.seq (Ay Z (CS hk11ge) ?_)))
  obtain rfl:=CN h
  replace h:=hO7
  clear hO7
  try dsimp only at h
  refine T.exit (As (As (AW (X.seq (zY Z (zX ai 1 Z ?_))))))
  obtain rfl:=CN h
  exact zZ (T.ret (Af [0] Tryz.results180 (z5 Z)))
 | succ m8 =>
  obtain⟨x9,hxx9⟩: ∃ x,a0[k4]? = some x:=⟨_,List.getElem?_eq_getElem (by omega)⟩
  rw[bF hxx9,cP] at h
  have hk11lt:(k4:Int)<(a0.length:Int):=by omega
  refine zY Z (z8 ai Z (T.seq (Ae Z (CP hk11lt) ?_)))
  obtain⟨gz12,oz12,rfl,z12cs,z12cl,z12cc,z12nf,z12r⟩:=AM (by decide) hX hxx9
  obtain⟨z12S,z12r,z12rr⟩:=z12r
  obtain rfl:z12cs = [.bool x9.null,jS x9.data]:=z12r
  refine Ar (T.seq (T.block (zY Z ?_)))
  refine z4 Z (AN (k:=k4) Z Z Z Em C8 (CZ hxx9).1) Z ?_
  refine z4 Z (Bj (us := [.bool x9.null,jS x9.data]) 0 Z DG C8 z12nf z12cc Z Z Z) Z (TL.alloc Z .u Tryz.zeroValue23 Z (fun b13=>(Ad (cs':= #[.bool x9.null,jS x9.data]) Z .u Z Z C8 Z Z Z Z (Ab Z (z4 Z (Ag (us := [.bool x9.null,jS x9.data]) 0 Z DG C8 Z Z Z) Z ?_)))))
  obtain⟨x14,hx15,h⟩:=CL h
  refine An Z .u (.fn Tryz.call148 Z) (iY x9 _ hx15) rT Z (zX ai 1 Z ?_)
  rcases jF h with⟨c16,h⟩ | ⟨c16,h⟩
  ·exact zZ (Ay Z (cv c16) (T.skip (Ap (X.seq (T.region Z (z4 Z (Ex.add Z Z (by omega)) Z (zX ai 1 Z (TL.nil (X.back (m':=m8) [1] (by omega) ⟨y3,k4+1,by omega,Z,Z,h⟩ (by rfl) (by rfl))))))))))
  replace c16:=CU c16
  refine zZ (Ae Z (cE c16) (zY Z (zX ai 1 Z ?_)))
  obtain rfl:=CN h
  obtain rfl:=CN hO7
  exact zZ (T.ret (Am (z7 (z7 (Am (z7 (Af [1] Tryz.results180 (z5 Z))))))))
def cR:List Hd→Int→Option (Lp Int Int)
 | [],y12=>some (Lp.go y12)
 | x18::xs,y12=>(dN [x18.Cb]).bind fun x24=>if x24=true then (cR xs y12) else some (Lp.ret 4)
def dE (a0:Rec):Option (Int):=if a0.Cd<0 then some 11 else ((fF a0.Cd 4).bind fun x5=>if x5=true then ((dN [a0.Cq,a0.Cb]).bind fun x9=>if x9=true then ((cR a0.B6 0).bind fun e=>match e with | .ret r=>some r | .go y27=>some 0) else some 4) else some 11)
theorem fL (a0:Rec) (A1:Option Addr) (c2:Nat) (r:Int) (h:dE a0=some r):au Tryz.prog 130 #[.agg (wA0 a0 A1 c2)] (RX.of (an 3 bT) [.slice A1 a0.B6.length c2] a0.B6) (aI) (fun v A' N=>v=jI r∧A'=aI∧N = []):=by
 refine aL Tryz.func130 Z Tryz.ntmps130 Z ?_
 intro F w hX
 unfold dE at h
 refine zY Z (TL.box Z .u Z Z (fun b3=>(z8 ai Z (T.seq (zY Z ?_)))))
 rcases jF h with⟨c4,h⟩ | ⟨c4,h⟩
 ·refine z6 ai dw 0 Z 4 Z Z (z9 8 Z (CP c4) (A9 ai Z (Ae Z Z (zY Z (zX ai 1 Z ?_)))))
  obtain rfl:=CN h
  exact zZ (T.ret (z7 (Af [1] Es (z5 Z))))
 refine z6 ai dw 0 Z 4 Z Z (z9 8 Z (CS c4) ?_)
 obtain⟨x5,hx6,h⟩:=CL h
 refine z6 ai dw 0 Z 2 Z Z (An Z (.g Z Z Z) (.fn Tryz.call101 Z) (AJ (fun w=>cw a0.Cd 4 _ hx6 w)) (fun _ _=>RX.reads_triv _ _) Z (Ac ai 2 Z ?_))
 rcases jF h with⟨c7,h⟩ | ⟨c7,h⟩
 ·refine zZ (Ay Z (cv c7) (Ar (T.seq (zY Z (zX ai 1 Z (z4 Z (Ag (us := [.bool a0.Cq.null,jS a0.Cq.data]) 0 Z DG C8 Z Z Z) Z (zX ai 1 Z (z4 Z (Ag (us := [.bool a0.Cb.null,jS a0.Cb.data]) 0 Z DG C8 Z Z Z) Z ?_))))))))
  refine BI (cells:= #[.bool a0.Cq.null,jS a0.Cq.data,.bool a0.Cb.null,jS a0.Cb.data]) Z .u nB Z (by kernel_rfl) Z (fun b8=> ?_)
  refine TL.rowOf (us := [.bool a0.Cq.null,jS a0.Cq.data,.bool a0.Cb.null,jS a0.Cb.data]) (xs := [a0.Cq,a0.Cb]) (E:=uX) (z:=2) Z (Nat.le_of_ble_eq_true Z) (fun _=>⟨Z,Z,⟨Z,Z,Z⟩⟩) ?_
  obtain⟨x9,hx10,h⟩:=CL h
  refine An Z .u (.fn Tryz.call180 Z) (g8 [a0.Cq,a0.Cb] _ _ _ hx10) (fun _ hs=>(Bd 0 hs Z (fun w G h=>dB (by decide) w G h))) Z (zX ai 1 Z ?_)
  rcases jF h with⟨c11,h⟩ | ⟨c11,h⟩
  ·refine zZ (Ay Z (cv c11) (Ar (T.seq (zY Z (z6 ai dw 1 Z 2 Z Z (z4 Z (AB Z DQ) Z (z8 ai Z (T.block ?_))))))))
   obtain⟨E14,hE15,hO16⟩:=CL h
   have hk20len:=AL hX
   refine AX (fun m e Rs=> ∃ (y12:Int) (k13:Nat),k13+m=a0.B6.length∧e = [(2,jI y12),(22,.slice A1 a0.B6.length c2),(23,jI (a0.B6.length:Int)),(24,jI (k13:Int))]∧Rs = [cD 23 2 uX (.slice (some ⟨b8,0,none⟩) 2 2) [a0.Cq,a0.Cb],ay b3 91 (wA0 a0 A1 c2),aI]∧cR (a0.B6.drop k13) y12=some E14) (a0.B6.length) [0,0,0] ⟨0,0,by simp,Z,Z,by rw[List.drop_zero]; exact hE15⟩ (by rfl) (by rfl) ?_
   clear hE15 h
   rintro m17 _ _ ⟨y12,k13,hk20,rfl,rfl,h⟩
   cases m17 with
   | zero =>
    rw[List.drop_of_length_le (by omega),cR] at h
    have hk20ge: ¬ ((k13:Int)<(a0.B6.length:Int)):=by omega
    refine zY Z (z8 ai Z (T.seq (Ay Z (CS hk20ge) ?_)))
    obtain rfl:=CN h
    replace h:=hO16
    clear hO16
    try dsimp only at h
    refine T.exit (As (As (AW (X.seq (zY Z (zX ai 1 Z ?_))))))
    obtain rfl:=CN h
    exact zZ (T.ret (Af [2] Es (z5 Z)))
   | succ m17 =>
    obtain⟨x18,hxx18⟩: ∃ x,a0.B6[k13]? = some x:=⟨_,List.getElem?_eq_getElem (by omega)⟩
    rw[bF hxx18,cR] at h
    have hk20lt:(k13:Int)<(a0.B6.length:Int):=by omega
    refine zY Z (z8 ai Z (T.seq (Ae Z (CP hk20lt) ?_)))
    obtain⟨gz21,oz21,rfl,z21cs,z21cl,z21cc,z21nf,z21r⟩:=AM (by decide) hX hxx18
    obtain⟨z21S,z21r,z21rr⟩:=z21r
    obtain rfl:z21cs=(wL2 x18):=z21r
    refine Ar (T.seq (T.block (zY Z ?_)))
    refine z4 Z (AN (k:=k13) Z Z Z DQ Eb (CZ hxx18).1) Z ?_
    refine z4 Z (Bj (us:=wL2 x18) 0 Z Tryz.isAgg245 Eb z21nf z21cc Z Z Z) Z (TL.alloc Z .u Tryz.zeroValue245 Z (fun b22=>(Ad (cs':=wA3 x18) Z .u Z Z Eb Z Z Z Z (Ab Z (zX ai 1 Z (z4 Z (Ag (us := [.bool x18.Cb.null,jS x18.Cb.data]) 0 Z DG C8 Z Z Z) Z (BI (cells:= #[.bool x18.Cb.null,jS x18.Cb.data]) Z .u nA Z (by rfl) Z (fun b23=>(TL.rowOf (us := [.bool x18.Cb.null,jS x18.Cb.data]) (xs := [x18.Cb]) (E:=uX) (z:=2) Z (Nat.le_of_ble_eq_true Z) (fun _=>⟨Z,Z,Z⟩) ?_)))))))))
    obtain⟨x24,hx25,h⟩:=CL h
    refine An Z .u (.fn Tryz.call180 Z) (g8 [x18.Cb] _ _ _ hx25) (fun _ hs=>(Bd 0 hs Z (fun w G h=>dB (by decide) w G h))) Z (zX ai 1 Z ?_)
    rcases jF h with⟨c26,h⟩ | ⟨c26,h⟩
    ·exact zZ (Ay Z (cv c26) (T.skip (Ap (X.seq (T.region Z (z4 Z (Ex.add Z Z (by omega)) Z (zX ai 1 Z (TL.nil (X.back (m':=m17) [2,2,2] (by omega) ⟨y12,k13+1,by omega,Z,Z,h⟩ (by rfl) (by rfl))))))))))
    replace c26:=CU c26
    refine zZ (Ae Z (cE c26) (zY Z (zX ai 1 Z ?_)))
    obtain rfl:=CN h
    obtain rfl:=CN hO16
    exact zZ (T.ret (Am (z7 (z7 (Am (z7 (Af [4] Es (z5 Z))))))))
  replace c11:=CU c11
  refine zZ (Ae Z (cE c11) (zY Z (zX ai 1 Z ?_)))
  obtain rfl:=CN h
  exact zZ (T.ret (z7 (Af [2] Es (z5 Z))))
 replace c7:=CU c7
 refine zZ (Ae Z (cE c7) (zY Z (zX ai 1 Z ?_)))
 obtain rfl:=CN h
 exact zZ (T.ret (z7 (Af [1] Es (z5 Z))))
def fO (a0:Rec):Option (List UInt8×Int):=(nq ([],0) 0).bind fun st5=>(mz st5 a0.Co).bind fun st7=>(mA st7 a0.Cd).bind fun st9=>(fR st9 a0.Cq).bind fun st11=>(fR st11 a0.Cb).bind fun st13=>(fm st13 a0.B6).bind fun st15=>(gF st15).bind fun (x17,x18,st19)=>some (x17,x18)
theorem lY (a0:Rec) (A1:Option Addr) (c2:Nat) (r:List UInt8×Int) (h:fO a0=some r):au Tryz.prog 131 #[.agg (wA0 a0 A1 c2)] (RX.of (an 3 bT) [.slice A1 a0.B6.length c2] a0.B6) (aI) (fun v A' N=>v= .tuple #[jS r.1,jI r.2]∧A'=aI∧N = []):=by
 refine aL Tryz.func131 Z Tryz.ntmps131 Z ?_
 intro F w hX
 unfold fO at h
 refine zY Z (TL.box Z .u Z Z (fun b3=>(Ai ai Z Z (Bt Z .u Tryz.zeroValue112 Z (fun b4=> ?_)))))
 obtain⟨st5,hx6,h⟩:=CL h
 refine Ab Z (Aq Z .u (.fn Tryz.call102 Z) (ku b4 ([],0) 0 _ hx6) sT Z (Ab Z ?_))
 obtain⟨st7,hx8,h⟩:=CL h
 refine z6 ai dw 1 Z 2 Z Z (Aq Z .u (.fn Tryz.call181 Z) (pZ b4 st5 a0.Co _ hx8) sT Z (Ab Z ?_))
 obtain⟨st9,hx10,h⟩:=CL h
 refine z6 ai dw 1 Z 2 Z Z (Aq Z .u (.fn Tryz.call182 Z) (mB b4 st7 a0.Cd _ hx10) sT Z (Ab Z (zX ai 1 Z (z4 Z (Ag (us := [.bool a0.Cq.null,jS a0.Cq.data]) 1 Z DG C8 Z Z Z) Z ?_))))
 obtain⟨st11,hx12,h⟩:=CL h
 refine Aq Z .u (.fn Tryz.call183 Z) (hY b4 st9 a0.Cq _ hx12) sT Z (Ab Z (zX ai 1 Z (z4 Z (Ag (us := [.bool a0.Cb.null,jS a0.Cb.data]) 1 Z DG C8 Z Z Z) Z ?_)))
 obtain⟨st13,hx14,h⟩:=CL h
 refine Aq Z .u (.fn Tryz.call183 Z) (hY b4 st11 a0.Cb _ hx14) sT Z (Ab Z ?_)
 obtain⟨st15,hx16,h⟩:=CL h
 refine z6 ai dw 1 Z 2 Z Z (Aq Z .u (.fn Tryz.call184 Z) (lu b4 st13 a0.B6 _ _ _ hx16) (fun _ hs=>(Bk hs hX)) Z ?_)
 obtain⟨⟨x17,x18,st19⟩,hx20,h⟩:=CL h
 try dsimp only at h
 refine Ab Z (Aq Z .u (.fn Tryz.call50 Z) (dR b4 st15 _ hx20) sT Z (zX ai 4 Z ?_))
 obtain rfl:=CN h
 exact zZ (T.ret (Ax [2] Tryz.results131 (z5 Z) (z5 Z) ⟨Z,Z,Z⟩ (by rfl) (.inl Z)))
def ej (st:List UInt8×Int) (a1:Rec):Option (List UInt8×Int):=(dE a1).bind fun x4=>if x4=0 then ((fO a1).bind fun (x7,x8)=>if x8=0 then ((jA st x7).bind fun st11=>some st11) else ((gE st x8).bind fun st13=>some st13)) else ((gE st x4).bind fun st15=>some st15)
theorem ig (g:Nat) (st:List UInt8×Int) (a1:Rec) (A1:Option Addr) (c2:Nat) (r:List UInt8×Int) (h:ej st a1=some r):au Tryz.prog 79 #[jP g,.agg (wA0 a1 A1 c2)] (RX.of (an 3 bT) [.slice A1 a1.B6.length c2] a1.B6) (aP g st) (fun v A' N=>v= .tuple #[]∧A'=aP g r∧N = []):=by
 refine aL Tryz.func79 Z Tryz.ntmps79 Z ?_
 intro F w hX
 unfold ej at h
 refine zY Z (TL.box Z .u Z Z (fun b3=>(zZ (T.seq (zY Z (z4 Z (Ag (us:=wL4 a1 A1 c2) 0 Z Dd C2 Z Z Z) Z ?_))))))
 obtain⟨x4,hx5,h⟩:=CL h
 refine An Z .u (.fn Tryz.call130 Z) (fL a1 _ _ _ hx5) (fun _ hs=>(AC hs hX)) Z (Ai ai Z Z (zX ai 2 Z ?_))
 rcases jF h with⟨c6,h⟩ | ⟨c6,h⟩
 ·refine Au Z c6 (Az Z (z4 Z (Ag (us:=wL4 a1 A1 c2) 0 Z Dd C2 Z Z Z) Z ?_))
  obtain⟨⟨x7,x8⟩,hx9,h⟩:=CL h
  try dsimp only at h
  refine An Z .u (.fn Tryz.call131 Z) (lY a1 _ _ _ hx9) (fun _ hs=>(AC hs hX)) Z (z8 ai Z (T.seq (zY Z (zX ai 2 Z ?_))))
  rcases jF h with⟨c10,h⟩ | ⟨c10,h⟩
  ·refine Au Z c10 (Ar (T.region Z ?_))
   obtain⟨st11,hx12,h⟩:=CL h
   refine zX ai 2 Z (Al Z .u (.fn Tryz.call132 Z) (lJ g st x7 _ hx12) sT Z ?_)
   obtain rfl:=CN h
   exact TL.nil (AR [1] Tryz.results79 ⟨Z,Z,Z⟩ (by rfl) (.inr Z))
  refine At Z c10 (zY Z ?_)
  obtain⟨st13,hx14,h⟩:=CL h
  refine zX ai 2 Z (Al Z .u (.fn Tryz.call94 Z) (eC g st x8 _ hx14) sT Z ?_)
  obtain rfl:=CN h
  exact zZ (T.ret (z7 (AR [1] Tryz.results79 ⟨Z,Z,Z⟩ (by rfl) (.inl Z))))
 refine At Z c6 (zY Z ?_)
 obtain⟨st15,hx16,h⟩:=CL h
 refine zX ai 2 Z (Al Z .u (.fn Tryz.call94 Z) (eC g st x4 _ hx16) sT Z ?_)
 obtain rfl:=CN h
 exact zZ (T.ret (z7 (AR [1] Tryz.results79 ⟨Z,Z,Z⟩ (by rfl) (.inl Z))))
def dZ (st:I)  : Option (Rec×I):=(oO st).bind fun (x2,st3)=>(fa st3).bind fun (x5,st6)=>if x5=0 then ((mw x2).bind fun st9=>(bW st9 1).bind fun (x12,st13)=>if x12=0 then ((iJ st13).bind fun (x16,st17)=>(kc st17).bind fun (x19,st20)=>if x19<0 then ((bg st20 11).bind fun st24=>(bQ st24).bind fun (x26,st27)=>(bQ st27).bind fun (x29,st30)=>(bf st30).bind fun (x32,st35)=>(cc st35).bind fun (x37,st38)=>if x37=0 then (some ((⟨x16,x19,x26,x29,x32⟩:Rec),st6)) else ((bg st6 x37).bind fun st41=>some ((⟨0,0,(⟨false,[]⟩:Bl),(⟨false,[]⟩:Bl),[]⟩:Rec),st41))) else ((bQ st20).bind fun (x43,st44)=>(bQ st44).bind fun (x46,st47)=>(bf st47).bind fun (x49,st52)=>(cc st52).bind fun (x54,st55)=>if x54=0 then (some ((⟨x16,x19,x43,x46,x49⟩:Rec),st6)) else ((bg st6 x54).bind fun st58=>some ((⟨0,0,(⟨false,[]⟩:Bl),(⟨false,[]⟩:Bl),[]⟩:Rec),st58)))) else ((bg st13 8).bind fun st60=>(iJ st60).bind fun (x62,st63)=>(kc st63).bind fun (x65,st66)=>if x65<0 then ((bg st66 11).bind fun st70=>(bQ st70).bind fun (x72,st73)=>(bQ st73).bind fun (x75,st76)=>(bf st76).bind fun (x78,st81)=>(cc st81).bind fun (x83,st84)=>if x83=0 then (some ((⟨x62,x65,x72,x75,x78⟩:Rec),st6)) else ((bg st6 x83).bind fun st87=>some ((⟨0,0,(⟨false,[]⟩:Bl),(⟨false,[]⟩:Bl),[]⟩:Rec),st87))) else ((bQ st66).bind fun (x89,st90)=>(bQ st90).bind fun (x92,st93)=>(bf st93).bind fun (x95,st98)=>(cc st98).bind fun (x100,st101)=>if x100=0 then (some ((⟨x62,x65,x89,x92,x95⟩:Rec),st6)) else ((bg st6 x100).bind fun st104=>some ((⟨0,0,(⟨false,[]⟩:Bl),(⟨false,[]⟩:Bl),[]⟩:Rec),st104))))) else (some ((⟨0,0,(⟨false,[]⟩:Bl),(⟨false,[]⟩:Bl),[]⟩:Rec),st6))
theorem iL (g:Nat) (st:I)  (r:Rec×I) (h:dZ st  = some r):au Tryz.prog 78 #[jP g] .triv (InR g st) (fun v A' N=> ∃ (A106:Option Addr) (c107:Nat),v= .agg #[jI r.1.Co,jI r.1.Cd,.bool r.1.Cq.null,jS r.1.Cq.data,.bool r.1.Cb.null,jS r.1.Cb.data,.slice A106 r.1.B6.length c107]∧A'=InR g r.2∧N = [RdR (an 3 bT) [.slice A106 r.1.B6.length c107] r.1.B6]):=by
 refine aL Tryz.func78 Z Tryz.ntmps78 Z ?_
 intro F w hX
 unfold dZ at h
 refine zY Z (TL.alloc Z .u Tryz.zeroValue91 Z (fun b1=>(Ab Z ?_)))
 obtain⟨⟨x2,st3⟩,hx4,h⟩:=CL h
 try dsimp only at h
 refine zX ai 1 Z (Al Z .u (.fn Tryz.call125 Z) (oP g st _ hx4) sT Z (z8 ai Z (T.seq (zY Z ?_))))
 obtain⟨⟨x5,st6⟩,hx7,h⟩:=CL h
 try dsimp only at h
 refine zX ai 1 Z (Al Z .u (.fn Tryz.call23 Z) (bu g st3 _ hx7) sT Z (zX ai 1 Z ?_))
 rcases jF h with⟨c8,h⟩ | ⟨c8,h⟩
 ·refine Au Z c8 (Az Z ?_)
  obtain⟨st9,hx10,h⟩:=CL h
  refine zX ai 1 Z (AY Z .u (.fn Tryz.call19 Z) (eY x2 _ hx10) rT Z ?_)
  rintro _ _ _ ⟨b11,rfl,rfl,rfl⟩
  refine AD [0,0,0] Z (z8 ai Z (T.seq (zY Z ?_)))
  obtain⟨⟨x12,st13⟩,hx14,h⟩:=CL h
  try dsimp only at h
  refine zX ai 1 Z (Aq Z .u (.fn Tryz.call68 Z) (aE b11 st9 1 _ hx14) sT Z (zX ai 1 Z ?_))
  rcases jF h with⟨c15,h⟩ | ⟨c15,h⟩
  ·refine Au Z c15 (Az Z ?_)
   obtain⟨⟨x16,st17⟩,hx18,h⟩:=CL h
   try dsimp only at h
   refine zX ai 1 Z (Aq Z .u (.fn Tryz.call126 Z) (nU b11 st13 _ hx18) sT Z ?_)
   obtain⟨⟨x19,st20⟩,hx21,h⟩:=CL h
   try dsimp only at h
   refine zX ai 1 Z (Aq Z .u (.fn Tryz.call127 Z) (lV b11 st17 _ hx21) sT Z ?_)
   refine z4 Z (Ao (cells:=vA1 x16 x19) dz Z (by kernel_rfl)) Z ?_
   refine TL.alloc Z .u Tryz.zeroValue91 Z (fun b22=>(Ad (cs':=vA1 x16 x19) Z .u Z Z C2 Z Z Z Z (zZ (T.seq (zY Z (z6 ai dw 0 Z 3 Z Z ?_))))))
   rcases jF h with⟨c23,h⟩ | ⟨c23,h⟩
   ·refine A4 Z c23 (T.region Z ?_)
    obtain⟨st24,hx25,h⟩:=CL h
    refine zX ai 1 Z (Al Z .u (.fn Tryz.call70 Z) (aU b11 st20 11 _ hx25) sT Z (Ab Z ?_))
    obtain⟨⟨x26,st27⟩,hx28,h⟩:=CL h
    try dsimp only at h
    refine zX ai 1 Z (Al Z .u (.fn Tryz.call128 Z) (du b11 st24 _ hx28) sT Z (zX ai 1 Z (Ad (cs':=vA2 x16 x19 x26) Z .u Z Z C8 Z Z Z Z (Ab Z ?_))))
    obtain⟨⟨x29,st30⟩,hx31,h⟩:=CL h
    try dsimp only at h
    refine zX ai 1 Z (Al Z .u (.fn Tryz.call128 Z) (du b11 st27 _ hx31) sT Z (zX ai 1 Z (Ad (cs':=vA3 x16 x19 x26 x29) Z .u Z Z C8 Z Z Z Z (Ab Z ?_))))
    obtain⟨⟨x32,st35⟩,hx36,h⟩:=CL h
    try dsimp only at h
    refine zX ai 1 Z (BC Z .u (.fn Tryz.call129 Z) (eJ b11 st30 _ hx36) sT Z ?_)
    rintro _ _ _ ⟨A33,c34,rfl,rfl,rfl⟩
    refine AD [0,0,0,0,0] Z (zX ai 1 Z (AP (cs':=vA4 x16 x19 A33 c34 (x32).length x26 x29) Z .u Z Z Eo Z Z Z Z (zZ (T.seq (zY Z ?_)))))
    obtain⟨⟨x37,st38⟩,hx39,h⟩:=CL h
    try dsimp only at h
    refine zX ai 1 Z (AH Z .u (.fn Tryz.call21 Z) (bw b11 st35 _ hx39) sT Z (Ai ai Z Z (zX ai 2 Z ?_)))
    rcases jF h with⟨c40,h⟩ | ⟨c40,h⟩
    ·refine Au Z c40 (Az Z (z4 Z (Ag (us:=vL5 x16 x19 A33 c34 (x32).length x26 x29) 1 Z Dd C2 Z Z Z) Z (AO (cs':=vA4 x16 x19 A33 c34 (x32).length x26 x29) Z .u Z Z C2 Z Z Z Z ?_)))
     obtain rfl:=CN h
     exact zZ (T.ret (Aw [4,0] D3 (AA (us:=vA4 x16 x19 A33 c34 (x32).length x26 x29) 3 Z Dd C2 Z Z) ⟨_,_,Z,Z,Z⟩ (by rfl) (.inl Z)))
    refine At Z c40 (zY Z ?_)
    obtain⟨st41,hx42,h⟩:=CL h
    refine zX ai 2 Z (TL.c4 Z .u (.fn Tryz.call70 Z) (aU g st6 x37 _ hx42) sT Z (Ab Z ?_))
    refine z4 Z (Ao (cells:= #[jI 0,jI 0,.bool false,.string ⟨#[]⟩,.bool false,.string ⟨#[]⟩,.slice none 0 0]) dz Z (by kernel_rfl)) Z ?_
    refine AO (cs':= #[jI 0,jI 0,.bool false,.string ⟨#[]⟩,.bool false,.string ⟨#[]⟩,.slice none 0 0]) Z .u Z Z C2 Z Z Z Z ?_
    obtain rfl:=CN h
    exact zZ (T.ret (z7 (Ak 3 bT (Aw [5,0] D3 (AA (us:= #[jI 0,jI 0,.bool false,.string ⟨#[]⟩,.bool false,.string ⟨#[]⟩,.slice none 0 0]) 4 Z Dd C2 Z Z) ⟨_,_,Z,Z,Z⟩ (by rfl) (.inl Z)))))
   refine A7 Z c23 (Az Z ?_)
   obtain⟨⟨x43,st44⟩,hx45,h⟩:=CL h
   try dsimp only at h
   refine zX ai 1 Z (Al Z .u (.fn Tryz.call128 Z) (du b11 st20 _ hx45) sT Z (zX ai 1 Z (Ad (cs':=vA2 x16 x19 x43) Z .u Z Z C8 Z Z Z Z (Ab Z ?_))))
   obtain⟨⟨x46,st47⟩,hx48,h⟩:=CL h
   try dsimp only at h
   refine zX ai 1 Z (Al Z .u (.fn Tryz.call128 Z) (du b11 st44 _ hx48) sT Z (zX ai 1 Z (Ad (cs':=vA3 x16 x19 x43 x46) Z .u Z Z C8 Z Z Z Z (Ab Z ?_))))
   obtain⟨⟨x49,st52⟩,hx53,h⟩:=CL h
   try dsimp only at h
   refine zX ai 1 Z (BC Z .u (.fn Tryz.call129 Z) (eJ b11 st47 _ hx53) sT Z ?_)
   rintro _ _ _ ⟨A50,c51,rfl,rfl,rfl⟩
   refine AD [0,0,0,0,0] Z (zX ai 1 Z (AP (cs':=vA4 x16 x19 A50 c51 (x49).length x43 x46) Z .u Z Z Eo Z Z Z Z (zZ (T.seq (zY Z ?_)))))
   obtain⟨⟨x54,st55⟩,hx56,h⟩:=CL h
   try dsimp only at h
   refine zX ai 1 Z (AH Z .u (.fn Tryz.call21 Z) (bw b11 st52 _ hx56) sT Z (Ai ai Z Z (zX ai 2 Z ?_)))
   rcases jF h with⟨c57,h⟩ | ⟨c57,h⟩
   ·refine Au Z c57 (Az Z (z4 Z (Ag (us:=vL5 x16 x19 A50 c51 (x49).length x43 x46) 1 Z Dd C2 Z Z Z) Z (AO (cs':=vA4 x16 x19 A50 c51 (x49).length x43 x46) Z .u Z Z C2 Z Z Z Z ?_)))
    obtain rfl:=CN h
    exact zZ (T.ret (Aw [4,0] D3 (AA (us:=vA4 x16 x19 A50 c51 (x49).length x43 x46) 3 Z Dd C2 Z Z) ⟨_,_,Z,Z,Z⟩ (by rfl) (.inl Z)))
   refine At Z c57 (zY Z ?_)
   obtain⟨st58,hx59,h⟩:=CL h
   refine zX ai 2 Z (TL.c4 Z .u (.fn Tryz.call70 Z) (aU g st6 x54 _ hx59) sT Z (Ab Z ?_))
   refine z4 Z (Ao (cells:= #[jI 0,jI 0,.bool false,.string ⟨#[]⟩,.bool false,.string ⟨#[]⟩,.slice none 0 0]) dz Z (by kernel_rfl)) Z ?_
   refine AO (cs':= #[jI 0,jI 0,.bool false,.string ⟨#[]⟩,.bool false,.string ⟨#[]⟩,.slice none 0 0]) Z .u Z Z C2 Z Z Z Z ?_
   obtain rfl:=CN h
   exact zZ (T.ret (z7 (Ak 3 bT (Aw [5,0] D3 (AA (us:= #[jI 0,jI 0,.bool false,.string ⟨#[]⟩,.bool false,.string ⟨#[]⟩,.slice none 0 0]) 4 Z Dd C2 Z Z) ⟨_,_,Z,Z,Z⟩ (by rfl) (.inl Z)))))
  refine At Z c15 (T.region Z ?_)
  obtain⟨st60,hx61,h⟩:=CL h
  refine zX ai 1 Z (Aq Z .u (.fn Tryz.call70 Z) (aU b11 st13 8 _ hx61) sT Z (Ab Z ?_))
  obtain⟨⟨x62,st63⟩,hx64,h⟩:=CL h
  try dsimp only at h
  refine zX ai 1 Z (Aq Z .u (.fn Tryz.call126 Z) (nU b11 st60 _ hx64) sT Z ?_)
  obtain⟨⟨x65,st66⟩,hx67,h⟩:=CL h
  try dsimp only at h
  refine zX ai 1 Z (Aq Z .u (.fn Tryz.call127 Z) (lV b11 st63 _ hx67) sT Z ?_)
  refine z4 Z (Ao (cells:=vA1 x62 x65) dz Z (by kernel_rfl)) Z ?_
  refine TL.alloc Z .u Tryz.zeroValue91 Z (fun b68=>(Ad (cs':=vA1 x62 x65) Z .u Z Z C2 Z Z Z Z (zZ (T.seq (zY Z (z6 ai dw 0 Z 3 Z Z ?_))))))
  rcases jF h with⟨c69,h⟩ | ⟨c69,h⟩
  ·refine A4 Z c69 (T.region Z ?_)
   obtain⟨st70,hx71,h⟩:=CL h
   refine zX ai 1 Z (Al Z .u (.fn Tryz.call70 Z) (aU b11 st66 11 _ hx71) sT Z (Ab Z ?_))
   obtain⟨⟨x72,st73⟩,hx74,h⟩:=CL h
   try dsimp only at h
   refine zX ai 1 Z (Al Z .u (.fn Tryz.call128 Z) (du b11 st70 _ hx74) sT Z (zX ai 1 Z (Ad (cs':=vA2 x62 x65 x72) Z .u Z Z C8 Z Z Z Z (Ab Z ?_))))
   obtain⟨⟨x75,st76⟩,hx77,h⟩:=CL h
   try dsimp only at h
   refine zX ai 1 Z (Al Z .u (.fn Tryz.call128 Z) (du b11 st73 _ hx77) sT Z (zX ai 1 Z (Ad (cs':=vA3 x62 x65 x72 x75) Z .u Z Z C8 Z Z Z Z (Ab Z ?_))))
   obtain⟨⟨x78,st81⟩,hx82,h⟩:=CL h
   try dsimp only at h
   refine zX ai 1 Z (BC Z .u (.fn Tryz.call129 Z) (eJ b11 st76 _ hx82) sT Z ?_)
   rintro _ _ _ ⟨A79,c80,rfl,rfl,rfl⟩
   refine AD [0,0,0,0,0] Z (zX ai 1 Z (AP (cs':=vA4 x62 x65 A79 c80 (x78).length x72 x75) Z .u Z Z Eo Z Z Z Z (zZ (T.seq (zY Z ?_)))))
   obtain⟨⟨x83,st84⟩,hx85,h⟩:=CL h
   try dsimp only at h
   refine zX ai 1 Z (AH Z .u (.fn Tryz.call21 Z) (bw b11 st81 _ hx85) sT Z (Ai ai Z Z (zX ai 2 Z ?_)))
   rcases jF h with⟨c86,h⟩ | ⟨c86,h⟩
   ·refine Au Z c86 (Az Z (z4 Z (Ag (us:=vL5 x62 x65 A79 c80 (x78).length x72 x75) 1 Z Dd C2 Z Z Z) Z (AO (cs':=vA4 x62 x65 A79 c80 (x78).length x72 x75) Z .u Z Z C2 Z Z Z Z ?_)))
    obtain rfl:=CN h
    exact zZ (T.ret (Aw [4,0] D3 (AA (us:=vA4 x62 x65 A79 c80 (x78).length x72 x75) 3 Z Dd C2 Z Z) ⟨_,_,Z,Z,Z⟩ (by rfl) (.inl Z)))
   refine At Z c86 (zY Z ?_)
   obtain⟨st87,hx88,h⟩:=CL h
   refine zX ai 2 Z (TL.c4 Z .u (.fn Tryz.call70 Z) (aU g st6 x83 _ hx88) sT Z (Ab Z ?_))
   refine z4 Z (Ao (cells:= #[jI 0,jI 0,.bool false,.string ⟨#[]⟩,.bool false,.string ⟨#[]⟩,.slice none 0 0]) dz Z (by kernel_rfl)) Z ?_
   refine AO (cs':= #[jI 0,jI 0,.bool false,.string ⟨#[]⟩,.bool false,.string ⟨#[]⟩,.slice none 0 0]) Z .u Z Z C2 Z Z Z Z ?_
   obtain rfl:=CN h
   exact zZ (T.ret (z7 (Ak 3 bT (Aw [5,0] D3 (AA (us:= #[jI 0,jI 0,.bool false,.string ⟨#[]⟩,.bool false,.string ⟨#[]⟩,.slice none 0 0]) 4 Z Dd C2 Z Z) ⟨_,_,Z,Z,Z⟩ (by rfl) (.inl Z)))))
  refine A7 Z c69 (Az Z ?_)
  obtain⟨⟨x89,st90⟩,hx91,h⟩:=CL h
  try dsimp only at h
  refine zX ai 1 Z (Al Z .u (.fn Tryz.call128 Z) (du b11 st66 _ hx91) sT Z (zX ai 1 Z (Ad (cs':=vA2 x62 x65 x89) Z .u Z Z C8 Z Z Z Z (Ab Z ?_))))
  obtain⟨⟨x92,st93⟩,hx94,h⟩:=CL h
  try dsimp only at h
  refine zX ai 1 Z (Al Z .u (.fn Tryz.call128 Z) (du b11 st90 _ hx94) sT Z (zX ai 1 Z (Ad (cs':=vA3 x62 x65 x89 x92) Z .u Z Z C8 Z Z Z Z (Ab Z ?_))))
  obtain⟨⟨x95,st98⟩,hx99,h⟩:=CL h
  try dsimp only at h
  refine zX ai 1 Z (BC Z .u (.fn Tryz.call129 Z) (eJ b11 st93 _ hx99) sT Z ?_)
  rintro _ _ _ ⟨A96,c97,rfl,rfl,rfl⟩
  refine AD [0,0,0,0,0] Z (zX ai 1 Z (AP (cs':=vA4 x62 x65 A96 c97 (x95).length x89 x92) Z .u Z Z Eo Z Z Z Z (zZ (T.seq (zY Z ?_)))))
  obtain⟨⟨x100,st101⟩,hx102,h⟩:=CL h
  try dsimp only at h
  refine zX ai 1 Z (AH Z .u (.fn Tryz.call21 Z) (bw b11 st98 _ hx102) sT Z (Ai ai Z Z (zX ai 2 Z ?_)))
  rcases jF h with⟨c103,h⟩ | ⟨c103,h⟩
  ·refine Au Z c103 (Az Z (z4 Z (Ag (us:=vL5 x62 x65 A96 c97 (x95).length x89 x92) 1 Z Dd C2 Z Z Z) Z (AO (cs':=vA4 x62 x65 A96 c97 (x95).length x89 x92) Z .u Z Z C2 Z Z Z Z ?_)))
   obtain rfl:=CN h
   exact zZ (T.ret (Aw [4,0] D3 (AA (us:=vA4 x62 x65 A96 c97 (x95).length x89 x92) 3 Z Dd C2 Z Z) ⟨_,_,Z,Z,Z⟩ (by rfl) (.inl Z)))
  refine At Z c103 (zY Z ?_)
  obtain⟨st104,hx105,h⟩:=CL h
  refine zX ai 2 Z (TL.c4 Z .u (.fn Tryz.call70 Z) (aU g st6 x100 _ hx105) sT Z (Ab Z ?_))
  refine z4 Z (Ao (cells:= #[jI 0,jI 0,.bool false,.string ⟨#[]⟩,.bool false,.string ⟨#[]⟩,.slice none 0 0]) dz Z (by kernel_rfl)) Z ?_
  refine AO (cs':= #[jI 0,jI 0,.bool false,.string ⟨#[]⟩,.bool false,.string ⟨#[]⟩,.slice none 0 0]) Z .u Z Z C2 Z Z Z Z ?_
  obtain rfl:=CN h
  exact zZ (T.ret (z7 (Ak 3 bT (Aw [5,0] D3 (AA (us:= #[jI 0,jI 0,.bool false,.string ⟨#[]⟩,.bool false,.string ⟨#[]⟩,.slice none 0 0]) 4 Z Dd C2 Z Z) ⟨_,_,Z,Z,Z⟩ (by rfl) (.inl Z)))))
 refine At Z c8 (zY Z ?_)
 refine z4 Z (Ao (cells:= #[jI 0,jI 0,.bool false,.string ⟨#[]⟩,.bool false,.string ⟨#[]⟩,.slice none 0 0]) dz Z (by kernel_rfl)) Z ?_
 refine Ad (cs':= #[jI 0,jI 0,.bool false,.string ⟨#[]⟩,.bool false,.string ⟨#[]⟩,.slice none 0 0]) Z .u Z Z C2 Z Z Z Z ?_
 obtain rfl:=CN h
 exact zZ (T.ret (z7 (Ak 3 bT (Aw [2,0] D3 (AA (us:= #[jI 0,jI 0,.bool false,.string ⟨#[]⟩,.bool false,.string ⟨#[]⟩,.slice none 0 0]) 1 Z Dd C2 Z Z) ⟨_,_,Z,Z,Z⟩ (by rfl) (.inl Z)))))
def cJ (a0:List UInt8):Option (Rec×Int):=(mw a0).bind fun st2=>(dZ st2).bind fun (x5,st8)=>(cc st8).bind fun (x11,st12)=>if x11=0 then some (x5,0) else (some ((⟨0,0,(⟨false,[]⟩:Bl),(⟨false,[]⟩:Bl),[]⟩:Rec),x11))
theorem fo (a0:List UInt8) (r:Rec×Int) (h:cJ a0=some r):au Tryz.prog 36 #[jS a0] .triv (aI) (fun v A' N=> ∃ (A15:Option Addr) (c16:Nat),v= .tuple #[.agg #[jI r.1.Co,jI r.1.Cd,.bool r.1.Cq.null,jS r.1.Cq.data,.bool r.1.Cb.null,jS r.1.Cb.data,.slice A15 r.1.B6.length c16],jI r.2]∧A'=aI∧N = [RdR (an 3 bT) [.slice A15 r.1.B6.length c16] r.1.B6]):=by
 refine aL Tryz.func36 Z Tryz.ntmps36 Z ?_
 intro F w hX
 unfold cJ at h
 refine zY Z (TL.alloc Z .u Tryz.zeroValue91 Z (fun b1=>(Ai ai Z Z ?_)))
 obtain⟨st2,hx3,h⟩:=CL h
 refine zX ai 1 Z (AY Z .u (.fn Tryz.call19 Z) (eY a0 _ hx3) rT Z ?_)
 rintro _ _ _ ⟨b4,rfl,rfl,rfl⟩
 refine AD [0,0,0] Z (Ai ai Z Z ?_)
 obtain⟨⟨x5,st8⟩,hx9,h⟩:=CL h
 try dsimp only at h
 refine zX ai 1 Z (TL.cg0 Z .u (.fn Tryz.call78 Z) (iL b4 st2 _ hx9) sT Z ?_)
 rintro _ _ _ ⟨A6,c7,rfl,rfl,rfl⟩
 refine AD [0,0,0,0] Z (TL.alloc Z .u Tryz.zeroValue91 Z (fun b10=>(Ad (cs':=wA0 x5 A6 c7) Z .u Z Z C2 Z Z Z Z (zZ (T.seq (zY Z ?_))))))
 obtain⟨⟨x11,st12⟩,hx13,h⟩:=CL h
 try dsimp only at h
 refine zX ai 1 Z (AH Z .u (.fn Tryz.call21 Z) (bw b4 st8 _ hx13) sT Z (Ai ai Z Z (zX ai 2 Z ?_)))
 rcases jF h with⟨c14,h⟩ | ⟨c14,h⟩
 ·refine Au Z c14 (Az Z (z4 Z (Ag (us:=wL4 x5 A6 c7) 0 Z Dd C2 Z Z Z) Z (AO (cs':=wA0 x5 A6 c7) Z .u Z Z C2 Z Z Z Z (zX ai 1 Z ?_))))
  obtain rfl:=CN h
  exact zZ (T.ret (Ax [4,1] Tryz.results36 (AA (us:=wA0 x5 A6 c7) 3 Z Dd C2 Z Z) (z5 Z) ⟨_,_,Z,Z,Z⟩ (by rfl) (.inl Z)))
 refine At Z c14 (zY Z ?_)
 refine z4 Z (Ao (cells:= #[jI 0,jI 0,.bool false,.string ⟨#[]⟩,.bool false,.string ⟨#[]⟩,.slice none 0 0]) dz Z (by kernel_rfl)) Z ?_
 refine zX ai 1 Z (AO (cs':= #[jI 0,jI 0,.bool false,.string ⟨#[]⟩,.bool false,.string ⟨#[]⟩,.slice none 0 0]) Z .u Z Z C2 Z Z Z Z (zX ai 1 Z ?_))
 obtain rfl:=CN h
 exact zZ (T.ret (z7 (Ak 3 bT (Ax [5,0] Tryz.results36 (AA (us:= #[jI 0,jI 0,.bool false,.string ⟨#[]⟩,.bool false,.string ⟨#[]⟩,.slice none 0 0]) 4 Z Dd C2 Z Z) (z5 Z) ⟨_,_,Z,Z,Z⟩ (by rfl) (.inl Z)))))
def dO (a0:Rec):Option (List UInt8×Int):=(ej ([],0) a0).bind fun st5=>(gF st5).bind fun (x7,x8,st9)=>some (x7,x8)
theorem kB (a0:Rec) (A1:Option Addr) (c2:Nat) (r:List UInt8×Int) (h:dO a0=some r):au Tryz.prog 37 #[.agg (wA0 a0 A1 c2)] (RX.of (an 3 bT) [.slice A1 a0.B6.length c2] a0.B6) (aI) (fun v A' N=>v= .tuple #[jS r.1,jI r.2]∧A'=aI∧N = []):=by
 refine aL Tryz.func37 Z Tryz.ntmps37 Z ?_
 intro F w hX
 unfold dO at h
 refine zY Z (TL.box Z .u Z Z (fun b3=>(Ai ai Z Z (Bt Z .u Tryz.zeroValue112 Z (fun b4=>(Ab Z (z4 Z (Ag (us:=wL4 a0 A1 c2) 1 Z Dd C2 Z Z Z) Z ?_)))))))
 obtain⟨st5,hx6,h⟩:=CL h
 refine Aq Z .u (.fn Tryz.call79 Z) (ig b4 ([],0) a0 _ _ _ hx6) (fun _ hs=>(Bk hs hX)) Z ?_
 obtain⟨⟨x7,x8,st9⟩,hx10,h⟩:=CL h
 try dsimp only at h
 refine Ab Z (Aq Z .u (.fn Tryz.call50 Z) (dR b4 st5 _ hx10) sT Z (zX ai 4 Z ?_))
 obtain rfl:=CN h
 exact zZ (T.ret (Ax [2] Tryz.results37 (z5 Z) (z5 Z) ⟨Z,Z,Z⟩ (by rfl) (.inl Z)))
end Go.Proofs.YtheikonlgjdopaaGreat.Sl
