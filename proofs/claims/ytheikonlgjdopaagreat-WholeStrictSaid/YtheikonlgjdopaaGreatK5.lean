/- wholeStrict_holds: part 5. -/
import Derived.Test.YtheikonlgjdopaaGreatK4
set_option maxRecDepth 100000
set_option maxHeartbeats 4000000
set_option linter.defProp false
namespace Go.Proofs.YtheikonlgjdopaaGreat.Sl
open Go.RowKit
set_option linter.unusedVariables false
set_option linter.unusedSimpArgs false
def CV := @List.append_assoc
def C5 := @Tryz.sizeOf38
def C6 := @Prod.mk.inj
def Dk := @Tryz.isAgg38
def Dn := @Tryz.sizeOf25
def DI := @Tryz.results69
def DX := @Tryz.runUnderlying25
def DY := @Tryz.runUnderlying38
def D2 := @Tryz.isAgg25
def Eh := @Tryz.results191
def Ei := @Tryz.results115
def Ep := @Tryz.ntmps191
def EB := @Tryz.func191
def EC := @Tryz.results93
theorem ma {w W:World} (h:Below w.heap.size w W) (o:Obj):Below w.heap.size w (W.alloc o):=h.alloc h.size o
theorem wf {w W:World} (h:Below w.heap.size w W) (i:Nat) (u:Value):Below w.heap.size w (W.setCell ⟨w.heap.size,i,none⟩ u):=h.setCell (p:=⟨w.heap.size,i,none⟩) (Dc _) u
def iP:Array Value:= #[.int .i64 0,.string ⟨#[112,114,111,100,117,99,101]⟩,.int .i64 3,.int .i64 4,.int .i64 22,.string ⟨#[98,101,103,105,110]⟩,.int .i64 0,.int .i64 1,
 .int .i64 24,.string ⟨#[97,100,100]⟩,.int .i64 0,.int .i64 0,.int .i64 26,.string ⟨#[101,110,100]⟩,.int .i64 0,.int .i64 0,.int .i64 27,.string ⟨#[109,97,114,107]⟩,.int .i64 0,.int .i64 1]
theorem uf:iP.all (·.oneCell')=true:=by simp[iP,Value.oneCell']
theorem ug:(Tryz.prog.info? 317).map (·.size)=some 20:=by kernel_rfl
theorem iC (w:World) :
 Calls Tryz.prog 219 #[] w fun e w'=>e= .returned (.agg iP)∧Below w.heap.size w w':=by
 have hi:=ug
 go_enter Tryz.func219,Tryz.ntmps219
 go_wp2_with (refine ni (w:=w) rfl 317 _ _ rfl 317 _ iP rfl rfl ug rfl uf ?_)
 refine bodyPost_ret (v:= .agg iP) ?_ rfl ?_
 ·exact results_cell_row (by rfl) _ _ w.heap.size 317 iP (0,0) _ rfl (heap_alloc_new w _) Tryz.underlying317 rfl ug
 ·exact⟨rfl,(Below.refl _ _).alloc (Dc _) _⟩
def gm (k:Int):Value×Bool :=
 if k=0 then (.agg #[.int .i64 0,.string ⟨#[112,114,111,100,117,99,101]⟩,.int .i64 3,.int .i64 4],true)
 else if k=22 then (.agg #[.int .i64 22,.string ⟨#[98,101,103,105,110]⟩,.int .i64 0,.int .i64 1],true)
 else if k=24 then (.agg #[.int .i64 24,.string ⟨#[97,100,100]⟩,.int .i64 0,.int .i64 0],true)
 else if k=26 then (.agg #[.int .i64 26,.string ⟨#[101,110,100]⟩,.int .i64 0,.int .i64 0],true)
 else if k=27 then (.agg #[.int .i64 27,.string ⟨#[109,97,114,107]⟩,.int .i64 0,.int .i64 1],true)
 else (.agg #[.int .i64 0,.string ⟨#[]⟩,.int .i64 0,.int .i64 0],false)
theorem ca {w w1:World} {c:Array Value} {t:TypeId} (hb:Below (w.alloc (.cells c t)).heap.size (w.alloc (.cells c t)) w1) (i:Nat):w1.cell? ⟨w.heap.size,i,none⟩=c[i]? ∧ w1.frozen? ⟨w.heap.size,i,none⟩=false:=by
 have h:w1.heap[w.heap.size]? = some (.cells c t (0,0)):=(hb.block w.heap.size (by simp)).trans (heap_alloc_new w _)
 exact⟨aR h i,cF h i⟩
theorem ld {w w1:World} {o:Obj} (hb:Below (w.alloc o).heap.size (w.alloc o) w1):w.heap.size<w1.heap.size:=by
 have:=hb.size
 simp at this
 omega
theorem xq (k:Int) (w:World) :
 Calls Tryz.prog 191 #[.int .i64 k] w fun e w'=>e= .returned (.tuple #[(gm k).1,.bool (gm k).2])∧Below w.heap.size w w':=by
 have i0: ∀ w:World,(Instr.index 317 (.agg iP) (.int .i64 0)).run Tryz.prog w= .ok (.agg #[.int .i64 0,.string ⟨#[112,114,111,100,117,99,101]⟩,.int .i64 3,.int .i64 4]) w:=fun _=>by kernel_rfl
 have i1: ∀ w:World,(Instr.index 317 (.agg iP) (.int .i64 1)).run Tryz.prog w= .ok (.agg #[.int .i64 22,.string ⟨#[98,101,103,105,110]⟩,.int .i64 0,.int .i64 1]) w:=fun _=>by kernel_rfl
 have i2: ∀ w:World,(Instr.index 317 (.agg iP) (.int .i64 2)).run Tryz.prog w= .ok (.agg #[.int .i64 24,.string ⟨#[97,100,100]⟩,.int .i64 0,.int .i64 0]) w:=fun _=>by kernel_rfl
 have i3: ∀ w:World,(Instr.index 317 (.agg iP) (.int .i64 3)).run Tryz.prog w= .ok (.agg #[.int .i64 26,.string ⟨#[101,110,100]⟩,.int .i64 0,.int .i64 0]) w:=fun _=>by kernel_rfl
 have i4: ∀ w:World,(Instr.index 317 (.agg iP) (.int .i64 4)).run Tryz.prog w= .ok (.agg #[.int .i64 27,.string ⟨#[109,97,114,107]⟩,.int .i64 0,.int .i64 1]) w:=fun _=>by kernel_rfl
 have way:k=0∨k=22∨k=24∨k=26∨k=27∨((0 == k)=false∧(22 == k)=false∧(24 == k)=false∧(26 == k)=false∧(27 == k)=false∧gm k=(.agg #[.int .i64 0,.string ⟨#[]⟩,.int .i64 0,.int .i64 0],false)):=by
  by_cases h0:k=0
  ·simp[h0]
  by_cases h1:k=22
  ·simp[h1]
  by_cases h2:k=24
  ·simp[h2]
  by_cases h3:k=26
  ·simp[h3]
  by_cases h4:k=27
  ·simp[h4]
  refine .inr (.inr (.inr (.inr (.inr ⟨?_,?_,?_,?_,?_,by simp[gm,h0,h1,h2,h3,h4]⟩))))
  all_goals (rw[beq_eq_false_iff_ne]; omega)
 rcases way with rfl | rfl | rfl | rfl | rfl | ⟨h0,h1,h2,h3,h4,hv⟩
 ·go_enter EB,Ep
  go_wp2_with (go_at_call 219; refine (iC _).mono ?_; rintro e w1 ⟨rfl,hb⟩; obtain⟨d0,e0⟩:=ca hb 0; obtain⟨d1,e1⟩:=ca hb 1; obtain⟨d2,e2⟩:=ca hb 2; obtain⟨d3,e3⟩:=ca hb 3; simp at d0 d1 d2 d3; have HB:=Lib.hid hb; have hz:=ld hb; have hz1:w.heap.size<w1.heap.size+1:=(by omega); have hz2:w.heap.size<w1.heap.size+1+1:=(by omega); have hz3:w.heap.size<w1.heap.size+1+1+1:=(by omega); have hz4:w.heap.size<w1.heap.size+1+1+1+1:=(by omega); have hz5:w.heap.size<w1.heap.size+1+1+1+1+1:=(by omega); clear hb)
  refine wp_loop_rounds 6 ?_
  repeat (rw[rounds_succ]; go_wp2_with fail)
  have hbel:Below w.heap.size w w1:=((Below.refl _ _).alloc (Dc _) _).trans (HB.out.mono (by simp))
  refine bodyPost_ret (v:= .tuple #[(gm 0).1,.bool (gm 0).2]) ?_ rfl ⟨rfl,?_⟩
  ·simp[results,Eh,go_sem,d0,d1,d2,d3,hz,hz1,hz2,hz3,hz4,hz5,gm]
  ·repeat (first | (with_reducible exact hbel) | (with_reducible refine wf ?_ _ _) | (with_reducible refine ma ?_ _))
 ·go_enter EB,Ep
  go_wp2_with (go_at_call 219; refine (iC _).mono ?_; rintro e w1 ⟨rfl,hb⟩; obtain⟨d0,e0⟩:=ca hb 0; obtain⟨d1,e1⟩:=ca hb 1; obtain⟨d2,e2⟩:=ca hb 2; obtain⟨d3,e3⟩:=ca hb 3; simp at d0 d1 d2 d3; have HB:=Lib.hid hb; have hz:=ld hb; have hz1:w.heap.size<w1.heap.size+1:=(by omega); have hz2:w.heap.size<w1.heap.size+1+1:=(by omega); have hz3:w.heap.size<w1.heap.size+1+1+1:=(by omega); have hz4:w.heap.size<w1.heap.size+1+1+1+1:=(by omega); have hz5:w.heap.size<w1.heap.size+1+1+1+1+1:=(by omega); clear hb)
  refine wp_loop_rounds 6 ?_
  repeat (rw[rounds_succ]; go_wp2_with fail)
  have hbel:Below w.heap.size w w1:=((Below.refl _ _).alloc (Dc _) _).trans (HB.out.mono (by simp))
  refine bodyPost_ret (v:= .tuple #[(gm 22).1,.bool (gm 22).2]) ?_ rfl ⟨rfl,?_⟩
  ·simp[results,Eh,go_sem,d0,d1,d2,d3,hz,hz1,hz2,hz3,hz4,hz5,gm]
  ·repeat (first | (with_reducible exact hbel) | (with_reducible refine wf ?_ _ _) | (with_reducible refine ma ?_ _))
 ·go_enter EB,Ep
  go_wp2_with (go_at_call 219; refine (iC _).mono ?_; rintro e w1 ⟨rfl,hb⟩; obtain⟨d0,e0⟩:=ca hb 0; obtain⟨d1,e1⟩:=ca hb 1; obtain⟨d2,e2⟩:=ca hb 2; obtain⟨d3,e3⟩:=ca hb 3; simp at d0 d1 d2 d3; have HB:=Lib.hid hb; have hz:=ld hb; have hz1:w.heap.size<w1.heap.size+1:=(by omega); have hz2:w.heap.size<w1.heap.size+1+1:=(by omega); have hz3:w.heap.size<w1.heap.size+1+1+1:=(by omega); have hz4:w.heap.size<w1.heap.size+1+1+1+1:=(by omega); have hz5:w.heap.size<w1.heap.size+1+1+1+1+1:=(by omega); clear hb)
  refine wp_loop_rounds 6 ?_
  repeat (rw[rounds_succ]; go_wp2_with fail)
  have hbel:Below w.heap.size w w1:=((Below.refl _ _).alloc (Dc _) _).trans (HB.out.mono (by simp))
  refine bodyPost_ret (v:= .tuple #[(gm 24).1,.bool (gm 24).2]) ?_ rfl ⟨rfl,?_⟩
  ·simp[results,Eh,go_sem,d0,d1,d2,d3,hz,hz1,hz2,hz3,hz4,hz5,gm]
  ·repeat (first | (with_reducible exact hbel) | (with_reducible refine wf ?_ _ _) | (with_reducible refine ma ?_ _))
 ·go_enter EB,Ep
  go_wp2_with (go_at_call 219; refine (iC _).mono ?_; rintro e w1 ⟨rfl,hb⟩; obtain⟨d0,e0⟩:=ca hb 0; obtain⟨d1,e1⟩:=ca hb 1; obtain⟨d2,e2⟩:=ca hb 2; obtain⟨d3,e3⟩:=ca hb 3; simp at d0 d1 d2 d3; have HB:=Lib.hid hb; have hz:=ld hb; have hz1:w.heap.size<w1.heap.size+1:=(by omega); have hz2:w.heap.size<w1.heap.size+1+1:=(by omega); have hz3:w.heap.size<w1.heap.size+1+1+1:=(by omega); have hz4:w.heap.size<w1.heap.size+1+1+1+1:=(by omega); have hz5:w.heap.size<w1.heap.size+1+1+1+1+1:=(by omega); clear hb)
  refine wp_loop_rounds 6 ?_
  repeat (rw[rounds_succ]; go_wp2_with fail)
  have hbel:Below w.heap.size w w1:=((Below.refl _ _).alloc (Dc _) _).trans (HB.out.mono (by simp))
  refine bodyPost_ret (v:= .tuple #[(gm 26).1,.bool (gm 26).2]) ?_ rfl ⟨rfl,?_⟩
  ·simp[results,Eh,go_sem,d0,d1,d2,d3,hz,hz1,hz2,hz3,hz4,hz5,gm]
  ·repeat (first | (with_reducible exact hbel) | (with_reducible refine wf ?_ _ _) | (with_reducible refine ma ?_ _))
 ·go_enter EB,Ep
  go_wp2_with (go_at_call 219; refine (iC _).mono ?_; rintro e w1 ⟨rfl,hb⟩; obtain⟨d0,e0⟩:=ca hb 0; obtain⟨d1,e1⟩:=ca hb 1; obtain⟨d2,e2⟩:=ca hb 2; obtain⟨d3,e3⟩:=ca hb 3; simp at d0 d1 d2 d3; have HB:=Lib.hid hb; have hz:=ld hb; have hz1:w.heap.size<w1.heap.size+1:=(by omega); have hz2:w.heap.size<w1.heap.size+1+1:=(by omega); have hz3:w.heap.size<w1.heap.size+1+1+1:=(by omega); have hz4:w.heap.size<w1.heap.size+1+1+1+1:=(by omega); have hz5:w.heap.size<w1.heap.size+1+1+1+1+1:=(by omega); clear hb)
  refine wp_loop_rounds 6 ?_
  repeat (rw[rounds_succ]; go_wp2_with fail)
  have hbel:Below w.heap.size w w1:=((Below.refl _ _).alloc (Dc _) _).trans (HB.out.mono (by simp))
  refine bodyPost_ret (v:= .tuple #[(gm 27).1,.bool (gm 27).2]) ?_ rfl ⟨rfl,?_⟩
  ·simp[results,Eh,go_sem,d0,d1,d2,d3,hz,hz1,hz2,hz3,hz4,hz5,gm]
  ·repeat (first | (with_reducible exact hbel) | (with_reducible refine wf ?_ _ _) | (with_reducible refine ma ?_ _))
 ·go_enter EB,Ep
  go_wp2_with (go_at_call 219; refine (iC _).mono ?_; rintro e w1 ⟨rfl,hb⟩; obtain⟨d0,e0⟩:=ca hb 0; obtain⟨d1,e1⟩:=ca hb 1; obtain⟨d2,e2⟩:=ca hb 2; obtain⟨d3,e3⟩:=ca hb 3; simp at d0 d1 d2 d3; have HB:=Lib.hid hb; have hz:=ld hb; have hz1:w.heap.size<w1.heap.size+1:=(by omega); have hz2:w.heap.size<w1.heap.size+1+1:=(by omega); have hz3:w.heap.size<w1.heap.size+1+1+1:=(by omega); have hz4:w.heap.size<w1.heap.size+1+1+1+1:=(by omega); have hz5:w.heap.size<w1.heap.size+1+1+1+1+1:=(by omega); clear hb)
  refine wp_loop_rounds 6 ?_
  repeat (rw[rounds_succ]; go_wp2_with fail)
  have hbel:Below w.heap.size w w1:=((Below.refl _ _).alloc (Dc _) _).trans (HB.out.mono (by simp))
  refine bodyPost_ret (v:= .tuple #[(gm k).1,.bool (gm k).2]) ?_ rfl ⟨rfl,?_⟩
  ·rw[hv]
   simp[results,Eh,go_sem,d0,d1,d2,d3,hz,hz1,hz2,hz3,hz4,hz5]
  ·repeat (first | (with_reducible exact hbel) | (with_reducible refine wf ?_ _ _) | (with_reducible refine ma ?_ _))
theorem zh (k:Int) (r:Value) (b:Bool) (h:gm k=(r,b)) (w:World) :
 Calls Tryz.prog 191 #[.int .i64 k] w fun e w'=>e= .returned (.tuple #[r,.bool b])∧Below w.heap.size w w':=by
 have:=xq k w
 rwa [h] at this
def fc (k:Int):Int×Int×ByteArray×Bool :=
 if k=0 then (3,4,⟨#[112,114,111,100,117,99,101]⟩,true) else if k=22 then (0,1,⟨#[98,101,103,105,110]⟩,true)
 else if k=24 then (0,0,⟨#[97,100,100]⟩,true) else if k=26 then (0,0,⟨#[101,110,100]⟩,true) else if k=27 then (0,1,⟨#[109,97,114,107]⟩,true) else (0,0,⟨#[]⟩,false)
theorem uh (k:Int): ∃ k2,gm k=(.agg #[.int .i64 k2,.string (fc k).2.2.1,.int .i64 (fc k).1,.int .i64 (fc k).2.1],(fc k).2.2.2):=by
 by_cases h0:k=0
 ·exact⟨0,by simp[gm,fc,h0]⟩
 by_cases h1:k=22
 ·exact⟨22,by simp[gm,fc,h1]⟩
 by_cases h2:k=24
 ·exact⟨24,by simp[gm,fc,h2]⟩
 by_cases h3:k=26
 ·exact⟨26,by simp[gm,fc,h3]⟩
 by_cases h4:k=27
 ·exact⟨27,by simp[gm,fc,h4]⟩
 exact⟨0,by simp[gm,fc,h0,h1,h2,h3,h4]⟩
def fv (k v:Int):Int:=if (fc k).2.2.2=false then 12 else if v<(fc k).1∨(fc k).2.1<v then 7 else 0
theorem sU (k v:Int):ka Tryz.prog 147 #[.int .i64 k,.int .i64 v] (fun r N=>r= .int .i64 (fv k v)∧N = []):=by
 intro w
 obtain⟨k2,hr⟩:=uh k
 have HC:=Lib.hid (show fv k v=if (fc k).2.2.2=false then 12 else if v<(fc k).1∨(fc k).2.1<v then 7 else 0 from rfl)
 generalize fv k v=c at *
 generalize fc k=q at *
 obtain⟨lo,hi,nm,ok⟩:=q
 simp only at hr
 have HF:=Lib.hid (zh k _ _ hr)
 clear hr
 have way:(ok=false∧c=12)∨(ok=true∧v<lo∧c=7)∨(ok=true∧ ¬ v<lo∧hi<v∧c=7)∨(ok=true∧ ¬ v<lo∧ ¬ hi<v∧c=0):=by
  rw[HC.out]
  cases ok
  ·simp
  ·by_cases h1:v<lo <;> by_cases h2:hi<v <;> simp[h1,h2]
 clear HC
 rcases way with⟨rfl,rfl⟩ | ⟨rfl,h1,rfl⟩ | ⟨rfl,h1,h2,rfl⟩ | ⟨rfl,h1,h2,rfl⟩
 all_goals
  go_enter Tryz.func147,Tryz.ntmps147
  go_wp2_with (go_at_call 191; refine (HF.out _).mono ?_; rintro e w1 ⟨rfl,hb⟩; have HB:=Lib.hid hb; clear hb)
  go_ret
  exact⟨_,_,rfl,⟨rfl,rfl⟩,BO (ma HB.out _),trivial⟩
def ot (k v:Int):Option Int:=some (fv k v)
theorem o9 (k v:Int):ot k v=some (fv k v):=rfl
theorem mO (k v:Int) (r:Int) (h:ot k v=some r):au Tryz.prog 147 #[.int .i64 k,.int .i64 v] .triv aI (fun u A' N=>u= .int .i64 r∧A'=aI∧N = []):=by
 obtain rfl:=CN h
 exact Be (sU k v)
def ui:fj := [(23,1,1),(25,0,0),(25,1,1),(25,2,2),(25,3,3)]
theorem av:(ui).OK Tryz.prog:=⟨FOK.mk DP rfl DD rfl,FOK.mk DX rfl CX rfl,FOK.mk DX rfl CX rfl,FOK.mk DX rfl CX rfl,FOK.mk DX rfl C8 rfl,trivial⟩
def uj:List Nat := [3,9]
theorem d8:NOK Tryz.prog uj:=⟨C0,DL,trivial⟩
theorem gp:BOK Tryz.prog 25 #[.int .i64 0,.int .i64 0,.int .i64 0,.bool false,.string ⟨#[]⟩] [(0,1),(1,1),(2,1),(3,2)]:=BOK.mk Tryz.zeroValue25 DX (by intro w; simp)
def eU (a0:dv):Option (Int):=(ot a0.Cm a0.Ce).bind fun x2=>if x2=0 then ((fF a0.Cv 4).bind fun x5=>if x5=true then ((kv a0.Cg).bind fun x8=>if x8=true then (if (a0.Cg.data.length:Int)>32767 then some 4 else some 0) else some 4) else some 11) else some x2
theorem kF (a0:dv) (r:Int) (h:eU a0=some r):au Tryz.prog 93 #[.agg (wA20 a0)] .triv (aI) (fun v A' N=>v=jI r∧A'=aI∧N = []):=by
 refine aL Tryz.func93 Z Tryz.ntmps93 Z ?_
 intro F w hX
 unfold eU at h
 refine zY Z (TL.box Z .u Z Z (fun b1=>(z8 av Z (T.seq (zY Z ?_)))))
 obtain⟨x2,hx3,h⟩:=CL h
 refine z6 av d8 0 Z 4 Z Z (An Z .u (.fn Tryz.call147 Z) (mO a0.Cm a0.Ce _ hx3) rT Z (Ai av Z Z (zX av 2 Z ?_)))
 rcases jF h with⟨c4,h⟩ | ⟨c4,h⟩
 ·refine Au Z c4 (Ar (T.seq (T.block (zY Z ?_))))
  obtain⟨x5,hx6,h⟩:=CL h
  refine z6 av d8 0 Z 2 Z Z (An Z .u (.fn Tryz.call101 Z) (AJ (fun w=>cw a0.Cv 4 _ hx6 w)) (fun _ _=>RX.reads_triv _ _) Z (zX av 2 Z ?_))
  rcases jF h with⟨c7,h⟩ | ⟨c7,h⟩
  ·refine zZ (Ay Z (cv c7) (zY Z (zX av 1 Z (z4 Z (Ag (us := [.bool a0.Cg.null,jS a0.Cg.data]) 0 Z DG C8 Z Z Z) Z ?_))))
   obtain⟨x8,hx9,h⟩:=CL h
   refine An Z .u (.fn Tryz.call148 Z) (iY a0.Cg _ hx9) rT Z ?_
   rcases jF h with⟨c10,h⟩ | ⟨c10,h⟩
   ·refine zX av 2 Z (z9 22 Z (cv c10) (z6 av d8 0 Z 3 Z Z (TL.q Z (.g Z Z Z) (BM Z Dv) Z (Ac av 3 Z ?_))))
    rcases jF h with⟨c11,h⟩ | ⟨c11,h⟩
    ·refine A4 Z c11 (zY Z (zX av 1 Z ?_))
     obtain rfl:=CN h
     exact zZ (T.ret (Am (z7 (Af [1] EC (z5 Z)))))
    refine A7 Z c11 (T.skip (Ap (X.seq (zY Z (zX av 1 Z ?_)))))
    obtain rfl:=CN h
    exact zZ (T.ret (Af [1] EC (z5 Z)))
   replace c10:=CU c10
   refine zX av 2 Z (z9 22 Z (cE c10) (A9 av Z (Ae Z Z (zY Z (zX av 1 Z ?_)))))
   obtain rfl:=CN h
   exact zZ (T.ret (Am (z7 (Af [1] EC (z5 Z)))))
  replace c7:=CU c7
  refine zZ (Ae Z (cE c7) (zY Z (zX av 1 Z ?_)))
  obtain rfl:=CN h
  exact zZ (T.ret (Am (z7 (Af [1] EC (z5 Z)))))
 refine At Z c4 (zY Z (zX av 2 Z ?_))
 obtain rfl:=CN h
 exact zZ (T.ret (z7 (Af [1] EC (z5 Z))))
def eV (st:List UInt8×Int) (a1:dv):Option (List UInt8×Int):=(eU a1).bind fun x2=>if x2=0 then ((bY st a1.Cm 2).bind fun st5=>(bY st5 a1.Ce 2).bind fun st7=>(bY st7 a1.Cv 4).bind fun st9=>(fU st9 a1.Cg 2).bind fun st11=>some st11) else ((gE st x2).bind fun st13=>some st13)
theorem kG (g:Nat) (st:List UInt8×Int) (a1:dv) (r:List UInt8×Int) (h:eV st a1=some r):au Tryz.prog 47 #[jP g,.agg (wA20 a1)] .triv (aP g st) (fun v A' N=>v= .tuple #[]∧A'=aP g r∧N = []):=by
 refine aL Tryz.func47 Z Tryz.ntmps47 Z ?_
 intro F w hX
 unfold eV at h
 refine zY Z (TL.box Z .u Z Z (fun b1=>(zZ (T.seq (zY Z (z4 Z (Ag (us:=wL21 a1) 0 Z D2 Dn Z Z Z) Z ?_))))))
 obtain⟨x2,hx3,h⟩:=CL h
 refine An Z .u (.fn Tryz.call93 Z) (kF a1 _ hx3) rT Z (Ai av Z Z (zX av 2 Z ?_))
 rcases jF h with⟨c4,h⟩ | ⟨c4,h⟩
 ·refine Au Z c4 (Az Z ?_)
  obtain⟨st5,hx6,h⟩:=CL h
  refine z6 av d8 0 Z 3 Z Z (Al Z .u (.fn Tryz.call51 Z) (aF g st a1.Cm 2 _ hx6) sT Z (Ab Z ?_))
  obtain⟨st7,hx8,h⟩:=CL h
  refine z6 av d8 0 Z 3 Z Z (Al Z .u (.fn Tryz.call51 Z) (aF g st5 a1.Ce 2 _ hx8) sT Z (Ab Z ?_))
  obtain⟨st9,hx10,h⟩:=CL h
  refine z6 av d8 0 Z 3 Z Z (Al Z .u (.fn Tryz.call51 Z) (aF g st7 a1.Cv 4 _ hx10) sT Z (zZ (T.region Z (zX av 2 Z (z4 Z (Ag (us := [.bool a1.Cg.null,jS a1.Cg.data]) 0 Z DG C8 Z Z Z) Z ?_)))))
  obtain⟨st11,hx12,h⟩:=CL h
  refine Al Z .u (.fn Tryz.call95 Z) (f6 g st9 a1.Cg 2 _ hx12) sT Z ?_
  obtain rfl:=CN h
  exact TL.nil (AR [1] Tryz.results47 ⟨Z,Z,Z⟩ (by rfl) (.inr Z))
 refine At Z c4 (zY Z ?_)
 obtain⟨st13,hx14,h⟩:=CL h
 refine zX av 2 Z (Al Z .u (.fn Tryz.call94 Z) (eC g st x2 _ hx14) sT Z ?_)
 obtain rfl:=CN h
 exact zZ (T.ret (z7 (AR [1] Tryz.results47 ⟨Z,Z,Z⟩ (by rfl) (.inl Z))))
def ew (st:I)  : Option (dv×I):=(bW st 2).bind fun (x2,st3)=>(bW st3 2).bind fun (x5,st6)=>(fa st6).bind fun (x9,st10)=>if x9=0 then ((ot x2 x5).bind fun x13=>if x13=0 then ((bW st10 4).bind fun (x16,st17)=>(gG st17 2).bind fun (x19,st20)=>(fa st20).bind fun (x22,st23)=>if x22=0 then (some ((⟨x2,x5,x16,x19⟩:dv),st23)) else (some ((⟨0,0,0,(⟨false,[]⟩:Bl)⟩:dv),st23))) else ((bg st10 x13).bind fun st26=>(bW st26 4).bind fun (x28,st29)=>(gG st29 2).bind fun (x31,st32)=>(fa st32).bind fun (x34,st35)=>if x34=0 then (some ((⟨x2,x5,x28,x31⟩:dv),st35)) else (some ((⟨0,0,0,(⟨false,[]⟩:Bl)⟩:dv),st35)))) else ((bW st10 4).bind fun (x38,st39)=>(gG st39 2).bind fun (x41,st42)=>(fa st42).bind fun (x44,st45)=>if x44=0 then (some ((⟨x2,x5,x38,x41⟩:dv),st45)) else (some ((⟨0,0,0,(⟨false,[]⟩:Bl)⟩:dv),st45)))
theorem lD (g:Nat) (st:I)  (r:dv×I) (h:ew st  = some r):au Tryz.prog 115 #[jP g] .triv (InR g st) (fun v A' N=>v= .agg #[jI r.1.Cm,jI r.1.Ce,jI r.1.Cv,.bool r.1.Cg.null,jS r.1.Cg.data]∧A'=InR g r.2∧N = []):=by
 refine aL Tryz.func115 Z Tryz.ntmps115 Z ?_
 intro F w hX
 unfold ew at h
 refine zY Z (TL.alloc Z .u Tryz.zeroValue25 Z (fun b1=>(Ab Z ?_)))
 obtain⟨⟨x2,st3⟩,hx4,h⟩:=CL h
 try dsimp only at h
 refine zX av 1 Z (Al Z .u (.fn Tryz.call68 Z) (aE g st 2 _ hx4) sT Z ?_)
 obtain⟨⟨x5,st6⟩,hx7,h⟩:=CL h
 try dsimp only at h
 refine zX av 1 Z (Al Z .u (.fn Tryz.call68 Z) (aE g st3 2 _ hx7) sT Z ?_)
 refine z4 Z (Ao (cells:= #[jI x2,jI x5,jI 0,.bool false,.string ⟨#[]⟩]) gp Z (by kernel_rfl)) Z ?_
 refine TL.alloc Z .u Tryz.zeroValue25 Z (fun b8=>(Ad (cs':= #[jI x2,jI x5,jI 0,.bool false,.string ⟨#[]⟩]) Z .u Z Z Dn Z Z Z Z (zZ (T.seq (zY Z ?_)))))
 obtain⟨⟨x9,st10⟩,hx11,h⟩:=CL h
 try dsimp only at h
 refine zX av 1 Z (AH Z .u (.fn Tryz.call23 Z) (bu g st6 _ hx11) sT Z (zX av 1 Z ?_))
 rcases jF h with⟨c12,h⟩ | ⟨c12,h⟩
 ·refine A4 Z c12 (zY Z ?_)
  obtain⟨x13,hx14,h⟩:=CL h
  refine z6 av d8 0 Z 4 Z Z (An Z .u (.fn Tryz.call147 Z) (mO x2 x5 _ hx14) rT Z (Ai av Z Z (zX av 2 Z ?_)))
  rcases jF h with⟨c15,h⟩ | ⟨c15,h⟩
  ·refine Au Z c15 (Az Z ?_)
   obtain⟨⟨x16,st17⟩,hx18,h⟩:=CL h
   try dsimp only at h
   refine zX av 1 Z (AH Z .u (.fn Tryz.call68 Z) (aE g st10 4 _ hx18) sT Z (zX av 1 Z (Ad (cs':= #[jI x2,jI x5,jI x16,.bool false,.string ⟨#[]⟩]) Z .u Z Z CX Z Z Z Z (Ab Z ?_))))
   obtain⟨⟨x19,st20⟩,hx21,h⟩:=CL h
   try dsimp only at h
   refine zX av 1 Z (AH Z .u (.fn Tryz.call142 Z) (fV g st17 2 _ hx21) sT Z (zX av 1 Z (Ad (cs':=rG x2 x5 x16 x19) Z .u Z Z C8 Z Z Z Z (zZ (T.seq (zY Z ?_))))))
   obtain⟨⟨x22,st23⟩,hx24,h⟩:=CL h
   try dsimp only at h
   refine zX av 1 Z (AH Z .u (.fn Tryz.call23 Z) (bu g st20 _ hx24) sT Z (zX av 1 Z ?_))
   rcases jF h with⟨c25,h⟩ | ⟨c25,h⟩
   ·refine Au Z c25 (Az Z (z4 Z (Ag (us := [jI x2,jI x5,jI x16,.bool x19.null,jS x19.data]) 0 Z D2 Dn Z Z Z) Z (AP (cs':=rG x2 x5 x16 x19) Z .u Z Z Dn Z Z Z Z ?_)))
    obtain rfl:=CN h
    exact zZ (T.ret (Af [2] Ei (AA (us:=rG x2 x5 x16 x19) 1 Z D2 Dn Z Z)))
   refine At Z c25 (zY Z ?_)
   refine z4 Z (Ao (cells:= #[jI 0,jI 0,jI 0,.bool false,.string ⟨#[]⟩]) gp Z (by kernel_rfl)) Z ?_
   refine AP (cs':= #[jI 0,jI 0,jI 0,.bool false,.string ⟨#[]⟩]) Z .u Z Z Dn Z Z Z Z ?_
   obtain rfl:=CN h
   exact zZ (T.ret (z7 (Af [2] Ei (AA (us:= #[jI 0,jI 0,jI 0,.bool false,.string ⟨#[]⟩]) 1 Z D2 Dn Z Z))))
  refine At Z c15 (T.region Z ?_)
  obtain⟨st26,hx27,h⟩:=CL h
  refine zX av 2 Z (AH Z .u (.fn Tryz.call70 Z) (aU g st10 x13 _ hx27) sT Z (Ab Z ?_))
  obtain⟨⟨x28,st29⟩,hx30,h⟩:=CL h
  try dsimp only at h
  refine zX av 1 Z (AH Z .u (.fn Tryz.call68 Z) (aE g st26 4 _ hx30) sT Z (zX av 1 Z (Ad (cs':= #[jI x2,jI x5,jI x28,.bool false,.string ⟨#[]⟩]) Z .u Z Z CX Z Z Z Z (Ab Z ?_))))
  obtain⟨⟨x31,st32⟩,hx33,h⟩:=CL h
  try dsimp only at h
  refine zX av 1 Z (AH Z .u (.fn Tryz.call142 Z) (fV g st29 2 _ hx33) sT Z (zX av 1 Z (Ad (cs':=rG x2 x5 x28 x31) Z .u Z Z C8 Z Z Z Z (zZ (T.seq (zY Z ?_))))))
  obtain⟨⟨x34,st35⟩,hx36,h⟩:=CL h
  try dsimp only at h
  refine zX av 1 Z (AH Z .u (.fn Tryz.call23 Z) (bu g st32 _ hx36) sT Z (zX av 1 Z ?_))
  rcases jF h with⟨c37,h⟩ | ⟨c37,h⟩
  ·refine Au Z c37 (Az Z (z4 Z (Ag (us := [jI x2,jI x5,jI x28,.bool x31.null,jS x31.data]) 0 Z D2 Dn Z Z Z) Z (AP (cs':=rG x2 x5 x28 x31) Z .u Z Z Dn Z Z Z Z ?_)))
   obtain rfl:=CN h
   exact zZ (T.ret (Af [2] Ei (AA (us:=rG x2 x5 x28 x31) 1 Z D2 Dn Z Z)))
  refine At Z c37 (zY Z ?_)
  refine z4 Z (Ao (cells:= #[jI 0,jI 0,jI 0,.bool false,.string ⟨#[]⟩]) gp Z (by kernel_rfl)) Z ?_
  refine AP (cs':= #[jI 0,jI 0,jI 0,.bool false,.string ⟨#[]⟩]) Z .u Z Z Dn Z Z Z Z ?_
  obtain rfl:=CN h
  exact zZ (T.ret (z7 (Af [2] Ei (AA (us:= #[jI 0,jI 0,jI 0,.bool false,.string ⟨#[]⟩]) 1 Z D2 Dn Z Z))))
 refine A7 Z c12 (Az Z ?_)
 obtain⟨⟨x38,st39⟩,hx40,h⟩:=CL h
 try dsimp only at h
 refine zX av 1 Z (AH Z .u (.fn Tryz.call68 Z) (aE g st10 4 _ hx40) sT Z (zX av 1 Z (Ad (cs':= #[jI x2,jI x5,jI x38,.bool false,.string ⟨#[]⟩]) Z .u Z Z CX Z Z Z Z (Ab Z ?_))))
 obtain⟨⟨x41,st42⟩,hx43,h⟩:=CL h
 try dsimp only at h
 refine zX av 1 Z (AH Z .u (.fn Tryz.call142 Z) (fV g st39 2 _ hx43) sT Z (zX av 1 Z (Ad (cs':=rG x2 x5 x38 x41) Z .u Z Z C8 Z Z Z Z (zZ (T.seq (zY Z ?_))))))
 obtain⟨⟨x44,st45⟩,hx46,h⟩:=CL h
 try dsimp only at h
 refine zX av 1 Z (AH Z .u (.fn Tryz.call23 Z) (bu g st42 _ hx46) sT Z (zX av 1 Z ?_))
 rcases jF h with⟨c47,h⟩ | ⟨c47,h⟩
 ·refine Au Z c47 (Az Z (z4 Z (Ag (us := [jI x2,jI x5,jI x38,.bool x41.null,jS x41.data]) 0 Z D2 Dn Z Z Z) Z (AP (cs':=rG x2 x5 x38 x41) Z .u Z Z Dn Z Z Z Z ?_)))
  obtain rfl:=CN h
  exact zZ (T.ret (Af [2] Ei (AA (us:=rG x2 x5 x38 x41) 1 Z D2 Dn Z Z)))
 refine At Z c47 (zY Z ?_)
 refine z4 Z (Ao (cells:= #[jI 0,jI 0,jI 0,.bool false,.string ⟨#[]⟩]) gp Z (by kernel_rfl)) Z ?_
 refine AP (cs':= #[jI 0,jI 0,jI 0,.bool false,.string ⟨#[]⟩]) Z .u Z Z Dn Z Z Z Z ?_
 obtain rfl:=CN h
 exact zZ (T.ret (z7 (Af [2] Ei (AA (us:= #[jI 0,jI 0,jI 0,.bool false,.string ⟨#[]⟩]) 1 Z D2 Dn Z Z))))
def xr:fj := [(25,0,0),(25,1,1),(38,0,0),(38,1,5),(38,2,10),(38,3,14),(38,4,18),(38,5,19)]
theorem ak:(xr).OK Tryz.prog:=⟨FOK.mk DX rfl CX rfl,FOK.mk DX rfl CX rfl,FOK.mk DY rfl Dn rfl,FOK.mk DY rfl DM rfl,FOK.mk DY rfl DN rfl,FOK.mk DY rfl DO rfl,FOK.mk DY rfl Tryz.sizeOf33 rfl,FOK.mk DY rfl Ds rfl,trivial⟩
def xt:List Nat := [3,33]
theorem eD:NOK Tryz.prog xt:=⟨C0,Tryz.isAgg33,trivial⟩
theorem dj:BOK Tryz.prog 38 #[.int .i64 0,.int .i64 0,.int .i64 0,.bool false,.string ⟨#[]⟩,.bool false,.string ⟨#[]⟩,.int .i64 0,.int .i64 0,.int .i64 0,.string ⟨#[]⟩,.int .i64 0,.int .i64 0,.slice none 0 0,.string ⟨#[]⟩,.int .i64 0,.int .i64 0,.bool false,.slice none 0 0,.bool false,.string ⟨#[]⟩,.int .i64 0,.int .i64 0,.slice none 0 0] [(0,5),(5,5),(10,4),(14,4),(18,1),(19,5)]:=BOK.mk Tryz.zeroValue38 DY (by intro w; simp)
def dX (st:List UInt8×Int) (a0:ax):Option (List UInt8×Int):=(if a0.Cp.Cm=22 then ((en st a0.Cx a0.Cp.Ce).bind fun st86=>some st86) else ((if a0.Cp.Cm=24 then ((fp st a0.Cy).bind fun st126=>some st126) else ((if a0.Cp.Cm=26 then ((fq st a0.CJ).bind fun st146=>some st146) else ((if a0.Cp.Cm=27 then ((gi st a0.Cz a0.Cp.Ce).bind fun st156=>some st156) else ((cW st a0.Cj a0.Cp.Ce).bind fun st158=>some st158)).bind fun st153=>some st153)).bind fun st143=>some st143)).bind fun st123=>some st123)).bind fun st83=>some st83
theorem j2 (g:Nat) (st:List UInt8×Int) (a0:ax) (A1:Option Addr) (c2:Nat) (A3:Option Addr) (c4:Nat) (A5:Option Addr) (c6:Nat) (r:List UInt8×Int) (h:dX st a0=some r):au Tryz.prog 49 #[.agg (kh a0 A1 A3 A5 c2 c4 c6),jP g] (RX.and (RX.of (an 2 aX) [.slice A1 a0.Cy.BZ.length c2] a0.Cy.BZ) (RX.and (RX.of (an 5 aM) [.slice A3 a0.Cz.length c4] a0.Cz) (RX.of (an 2 aw) [.slice A5 a0.Cj.BZ.length c6] a0.Cj.BZ))) (aP g st) (fun v A' N=>v= .tuple #[]∧A'=aP g r∧N = []):=by
 refine aL Tryz.func49 Z Tryz.ntmps49 Z ?_
 intro F w hX
 unfold dX at h
 refine zY Z (TL.box Z .u Z Z (fun b7=>(Ab Z (BA ak eD 0 Z Z Z (T.block (zY Z (z8 ak Z ?_)))))))
 obtain⟨st83,h,hk84⟩:=CL h
 refine AK (fun e Rs=>e = []∧Rs = [ay b7 38 (kh a0 A1 A3 A5 c2 c4 c6),aP g st83]) ?_ ?_
 ·clear hk84
  rcases jF h with⟨c85,h⟩ | ⟨c85,h⟩
  ·refine Bb Z c85 (T.region Z (zX ak 1 Z (z4 Z (Ag (us:=wL11 a0.Cx) 0 Z Ey DM Z Z Z) Z ?_)))
   obtain⟨st86,hx87,h⟩:=CL h
   refine z6 ak eD 0 Z 4 Z Z (Al Z .u (.fn Tryz.call96 Z) (ki g st a0.Cx a0.Cp.Ce _ hx87) sT Z ?_)
   cases h
   exact TL.nil (Ah [0,0])
  refine Bc Z c85 (zY Z (z8 ak Z ?_))
  obtain⟨st123,h,hk124⟩:=CL h
  refine AK (fun e Rs=>e = []∧Rs = [ay b7 38 (kh a0 A1 A3 A5 c2 c4 c6),aP g st123]) ?_ ?_
  ·clear hk124
   rcases jF h with⟨c125,h⟩ | ⟨c125,h⟩
   ·refine Bb Z c125 (T.region Z (zX ak 1 Z (z4 Z (Ag (us:=wL13 a0.Cy A1 c2) 0 Z Ez DN Z Z Z) Z ?_)))
    obtain⟨st126,hx127,h⟩:=CL h
    refine zX ak 1 Z (Al Z .u (.fn Tryz.call97 Z) (lw g st a0.Cy _ _ _ hx127) (fun _ hs=>(Bk hs (Bn hX))) Z ?_)
    cases h
    exact TL.nil (Ah [0,0])
   refine Bc Z c125 (zY Z (z8 ak Z ?_))
   obtain⟨st143,h,hk144⟩:=CL h
   refine AK (fun e Rs=>e = []∧Rs = [ay b7 38 (kh a0 A1 A3 A5 c2 c4 c6),aP g st143]) ?_ ?_
   ·clear hk144
    rcases jF h with⟨c145,h⟩ | ⟨c145,h⟩
    ·refine Bb Z c145 (T.region Z (zX ak 1 Z (z4 Z (Ag (us:=wL15 a0.CJ) 0 Z EA DO Z Z Z) Z ?_)))
     obtain⟨st146,hx147,h⟩:=CL h
     refine zX ak 1 Z (Al Z .u (.fn Tryz.call98 Z) (lx g st a0.CJ _ hx147) sT Z ?_)
     cases h
     exact TL.nil (Ah [0,0])
    refine Bc Z c145 (zY Z (z8 ak Z ?_))
    obtain⟨st153,h,hk154⟩:=CL h
    refine AK (fun e Rs=>e = []∧Rs = [ay b7 38 (kh a0 A1 A3 A5 c2 c4 c6),aP g st153]) ?_ ?_
    ·clear hk154
     rcases jF h with⟨c155,h⟩ | ⟨c155,h⟩
     ·refine Bb Z c155 (T.region Z ?_)
      obtain⟨st156,hx157,h⟩:=CL h
      refine z6 ak eD 0 Z 6 Z Z (Al Z .u (.fn Tryz.call99 Z) (mN g st a0.Cz _ _ a0.Cp.Ce _ hx157) (fun _ hs=>(Bk hs (Bn (AV hX)))) Z ?_)
      cases h
      exact TL.nil (Ah [0,0])
     refine Bc Z c155 (T.region Z (zX ak 1 Z (z4 Z (Ag (us:=wL19 a0.Cj A5 c6) 0 Z D6 Ds Z Z Z) Z ?_)))
     obtain⟨st158,hx159,h⟩:=CL h
     refine z6 ak eD 0 Z 4 Z Z (Al Z .u (.fn Tryz.call100 Z) (iw g st a0.Cj _ _ a0.Cp.Ce _ hx159) (fun _ hs=>(Bk hs (AV (AV hX)))) Z ?_)
     cases h
     exact TL.nil (Ah [0,0])
    rintro _ _ ⟨rfl,rfl⟩
    clear h
    have h:=hk154
    clear hk154
    try dsimp only at h
    cases h
    exact Ah [0,0]
   rintro _ _ ⟨rfl,rfl⟩
   clear h
   have h:=hk144
   clear hk144
   try dsimp only at h
   cases h
   exact Ah [0,0]
  rintro _ _ ⟨rfl,rfl⟩
  clear h
  have h:=hk124
  clear hk124
  try dsimp only at h
  cases h
  exact Ah [0,0]
 rintro _ _ ⟨rfl,rfl⟩
 clear h
 have h:=hk84
 clear hk84
 try dsimp only at h
 obtain rfl:=CN h
 exact Ap (AR [1] Tryz.results49 ⟨Z,Z,Z⟩ (by rfl) (.inr Z))
def ey (a0:ax):Option (List UInt8×Int):=(eV ([],0) a0.Cp).bind fun st10=>(uU st10).bind fun (x12,st13)=>(if x12=0 then ((dX st13 a0).bind fun st21=>some st21) else some st13).bind fun st18=>(gF st18).bind fun (x23,x24,st25)=>if x24=0 then ((bY ([],0) (x23.length:Int) 4).bind fun st28=>(qC st28 x23).bind fun st30=>(gF st30).bind fun (x32,x33,st34)=>some (x32,x33)) else some ([],x24)
theorem lE (a0:ax) (A1:Option Addr) (c2:Nat) (A3:Option Addr) (c4:Nat) (A5:Option Addr) (c6:Nat) (r:List UInt8×Int) (h:ey a0=some r):au Tryz.prog 12 #[.agg (kh a0 A1 A3 A5 c2 c4 c6)] (RX.and (RX.of (an 2 aX) [.slice A1 a0.Cy.BZ.length c2] a0.Cy.BZ) (RX.and (RX.of (an 5 aM) [.slice A3 a0.Cz.length c4] a0.Cz) (RX.of (an 2 aw) [.slice A5 a0.Cj.BZ.length c6] a0.Cj.BZ))) (aI) (fun v A' N=>v= .tuple #[jS r.1,jI r.2]∧A'=aI∧N = []):=by
 refine aL Tryz.func12 Z Tryz.ntmps12 Z ?_
 intro F w hX
 unfold ey at h
 refine zY Z (TL.box Z .u Z Z (fun b7=>(Ai ak Z Z (Bt Z .u Tryz.zeroValue112 Z (fun b8=>(Bt Z .u Tryz.zeroValue112 Z (fun b9=>(Ab Z (zX ak 1 Z ?_)))))))))
 refine z4 Z (Ag (us:=wL21 a0.Cp) 2 Z D2 Dn Z Z Z) Z ?_
 obtain⟨st10,hx11,h⟩:=CL h
 refine Al Z .u (.fn Tryz.call47 Z) (kG b8 ([],0) a0.Cp _ hx11) sT Z ?_
 obtain⟨⟨x12,st13⟩,hx14,h⟩:=CL h
 try dsimp only at h
 refine zZ (T.seq (zY Z (Al Z .u (.fn Tryz.call48 Z) (tX b8 st10 _ hx14) sT Z (z8 ak Z ?_))))
 obtain⟨st18,h,hk19⟩:=CL h
 refine AK (fun e Rs=>e = [(2,.string ⟨#[]⟩),(3,jI 0),(4,jP b8),(5,jP b9)]∧Rs = [aP b9 ([],0),aP b8 st18,ay b7 38 (kh a0 A1 A3 A5 c2 c4 c6),aI]) ?_ ?_
 ·clear hk19
  rcases jF h with⟨c20,h⟩ | ⟨c20,h⟩
  ·refine Bb Z c20 (T.region Z (z4 Z (Ag (us:=wL23 a0 A1 A3 A5 c2 c4 c6) 2 Z Dk C5 Z Z Z) Z ?_))
   obtain⟨st21,hx22,h⟩:=CL h
   refine Al Z .u (.fn Tryz.call49 Z) (j2 b8 st13 a0 _ _ _ _ _ _ _ hx22) (fun _ hs=>(Src.and (Bk hs (Bn hX)) (Src.and (Bk hs (Bn (AV hX))) (Bk hs (AV (AV hX)))))) Z ?_
   cases h
   exact TL.nil (Ah [0,0,0,0])
  refine Bc Z c20 ?_
  cases h
  exact T.skip (Ah [0,0,0,0])
 rintro _ _ ⟨rfl,rfl⟩
 clear h
 have h:=hk19
 clear hk19
 try dsimp only at h
 obtain⟨⟨x23,x24,st25⟩,hx26,h⟩:=CL h
 try dsimp only at h
 refine X.seq (zY Z (Al Z .u (.fn Tryz.call50 Z) (dR b8 st18 _ hx26) sT Z (z8 ak Z (T.seq (zY Z (zX ak 2 Z ?_))))))
 rcases jF h with⟨c27,h⟩ | ⟨c27,h⟩
 ·refine Au Z c27 (Az Z (zX ak 1 Z (z4 Z (BM Z Dv) Z ?_)))
  obtain⟨st28,hx29,h⟩:=CL h
  refine Aq Z .u (.fn Tryz.call51 Z) (aF b9 ([],0) (x23.length:Int) 4 _ hx29) sT Z (Ab Z ?_)
  obtain⟨st30,hx31,h⟩:=CL h
  refine zX ak 1 Z (Aq Z .u (.fn Tryz.call52 Z) (oJ b9 st28 x23 _ hx31) sT Z ?_)
  obtain⟨⟨x32,x33,st34⟩,hx35,h⟩:=CL h
  try dsimp only at h
  refine Ab Z (Aq Z .u (.fn Tryz.call50 Z) (dR b9 st30 _ hx35) sT Z (zX ak 4 Z ?_))
  obtain rfl:=CN h
  exact zZ (T.ret (Ax [3] Tryz.results12 (z5 Z) (z5 Z) ⟨Z,Z,Z⟩ (by rfl) (.inl Z)))
 refine At Z c27 (zY Z (zX ak 3 Z ?_))
 obtain rfl:=CN h
 exact zZ (T.ret (z7 (Ax [3] Tryz.results12 (z5 Z) (z5 Z) ⟨Z,Z,Z⟩ (by rfl) (.inl Z))))
def gq (a0:List UInt8):Option (ax×Int):=(mw a0).bind fun st2=>(ew st2).bind fun (x5,st6)=>(fa st6).bind fun (x9,st10)=>if x9=0 then (if x5.Cm=22 then ((da st10 x5.Ce).bind fun (x14,st15)=>(cc st15).bind fun (x17,st18)=>if x17=0 then (some ((⟨x5,x14,(⟨[],0,0,[]⟩:bh),(⟨[],0,0,false⟩:bc),[],(⟨(⟨false,[]⟩:Bl),0,0,[]⟩:ao)⟩:ax),0)) else (some ((⟨(⟨0,0,0,(⟨false,[]⟩:Bl)⟩:dv),(⟨(⟨false,[]⟩:Bl),0,0,0⟩:aD),(⟨[],0,0,[]⟩:bh),(⟨[],0,0,false⟩:bc),[],(⟨(⟨false,[]⟩:Bl),0,0,[]⟩:ao)⟩:ax),x17))) else (if x5.Cm=24 then ((gU st10).bind fun (x22,st25)=>(cc st25).bind fun (x27,st28)=>if x27=0 then (some ((⟨x5,(⟨(⟨false,[]⟩:Bl),0,0,0⟩:aD),x22,(⟨[],0,0,false⟩:bc),[],(⟨(⟨false,[]⟩:Bl),0,0,[]⟩:ao)⟩:ax),0)) else (some ((⟨(⟨0,0,0,(⟨false,[]⟩:Bl)⟩:dv),(⟨(⟨false,[]⟩:Bl),0,0,0⟩:aD),(⟨[],0,0,[]⟩:bh),(⟨[],0,0,false⟩:bc),[],(⟨(⟨false,[]⟩:Bl),0,0,[]⟩:ao)⟩:ax),x27))) else (if x5.Cm=26 then ((gV st10).bind fun (x32,st33)=>(cc st33).bind fun (x35,st36)=>if x35=0 then (some ((⟨x5,(⟨(⟨false,[]⟩:Bl),0,0,0⟩:aD),(⟨[],0,0,[]⟩:bh),x32,[],(⟨(⟨false,[]⟩:Bl),0,0,[]⟩:ao)⟩:ax),0)) else (some ((⟨(⟨0,0,0,(⟨false,[]⟩:Bl)⟩:dv),(⟨(⟨false,[]⟩:Bl),0,0,0⟩:aD),(⟨[],0,0,[]⟩:bh),(⟨[],0,0,false⟩:bc),[],(⟨(⟨false,[]⟩:Bl),0,0,[]⟩:ao)⟩:ax),x35))) else (if x5.Cm=27 then ((dW st10 x5.Ce).bind fun (x40,st43)=>(cc st43).bind fun (x45,st46)=>if x45=0 then (some ((⟨x5,(⟨(⟨false,[]⟩:Bl),0,0,0⟩:aD),(⟨[],0,0,[]⟩:bh),(⟨[],0,0,false⟩:bc),x40,(⟨(⟨false,[]⟩:Bl),0,0,[]⟩:ao)⟩:ax),0)) else (some ((⟨(⟨0,0,0,(⟨false,[]⟩:Bl)⟩:dv),(⟨(⟨false,[]⟩:Bl),0,0,0⟩:aD),(⟨[],0,0,[]⟩:bh),(⟨[],0,0,false⟩:bc),[],(⟨(⟨false,[]⟩:Bl),0,0,[]⟩:ao)⟩:ax),x45))) else ((cX st10 x5.Ce).bind fun (x49,st52)=>(cc st52).bind fun (x54,st55)=>if x54=0 then (some ((⟨x5,(⟨(⟨false,[]⟩:Bl),0,0,0⟩:aD),(⟨[],0,0,[]⟩:bh),(⟨[],0,0,false⟩:bc),[],x49⟩:ax),0)) else (some ((⟨(⟨0,0,0,(⟨false,[]⟩:Bl)⟩:dv),(⟨(⟨false,[]⟩:Bl),0,0,0⟩:aD),(⟨[],0,0,[]⟩:bh),(⟨[],0,0,false⟩:bc),[],(⟨(⟨false,[]⟩:Bl),0,0,[]⟩:ao)⟩:ax),x54))))))) else (some ((⟨(⟨0,0,0,(⟨false,[]⟩:Bl)⟩:dv),(⟨(⟨false,[]⟩:Bl),0,0,0⟩:aD),(⟨[],0,0,[]⟩:bh),(⟨[],0,0,false⟩:bc),[],(⟨(⟨false,[]⟩:Bl),0,0,[]⟩:ao)⟩:ax),x9))
theorem mP (a0:List UInt8) (r:ax×Int) (h:gq a0=some r):au Tryz.prog 69 #[jS a0] .triv (aI) (fun v A' N=> ∃ (A58:Option Addr) (c59:Nat) (A60:Option Addr) (c61:Nat) (A62:Option Addr) (c63:Nat),v= .tuple #[.agg #[jI r.1.Cp.Cm,jI r.1.Cp.Ce,jI r.1.Cp.Cv,.bool r.1.Cp.Cg.null,jS r.1.Cp.Cg.data,.bool r.1.Cx.Cc.null,jS r.1.Cx.Cc.data,jI r.1.Cx.B8,jI r.1.Cx.BX,jI r.1.Cx.B5,jS r.1.Cy.Cc,jI r.1.Cy.BX,jI r.1.Cy.B5,.slice A58 r.1.Cy.BZ.length c59,jS r.1.CJ.Cc,jI r.1.CJ.BX,jI r.1.CJ.B5,.bool r.1.CJ.Cw,.slice A60 r.1.Cz.length c61,.bool r.1.Cj.Cc.null,jS r.1.Cj.Cc.data,jI r.1.Cj.CG,jI r.1.Cj.B8,.slice A62 r.1.Cj.BZ.length c63],jI r.2]∧A'=aI∧N = [RdR (an 2 aX) [.slice A58 r.1.Cy.BZ.length c59] r.1.Cy.BZ,RdR (an 5 aM) [.slice A60 r.1.Cz.length c61] r.1.Cz,RdR (an 2 aw) [.slice A62 r.1.Cj.BZ.length c63] r.1.Cj.BZ]):=by
 refine aL Tryz.func69 Z Tryz.ntmps69 Z ?_
 intro F w hX
 unfold gq at h
 refine zY Z (TL.alloc Z .u Tryz.zeroValue38 Z (fun b1=>(Ai ak Z Z ?_)))
 obtain⟨st2,hx3,h⟩:=CL h
 refine zX ak 1 Z (AY Z .u (.fn Tryz.call19 Z) (eY a0 _ hx3) rT Z ?_)
 rintro _ _ _ ⟨b4,rfl,rfl,rfl⟩
 refine AD [0,0,0] Z (Ai ak Z Z ?_)
 obtain⟨⟨x5,st6⟩,hx7,h⟩:=CL h
 try dsimp only at h
 refine zX ak 1 Z (Aq Z .u (.fn Tryz.call115 Z) (lD b4 st2 _ hx7) sT Z ?_)
 refine z4 Z (Ao (cells:=wA24 x5) dj Z (by kernel_rfl)) Z ?_
 refine TL.alloc Z .u Tryz.zeroValue38 Z (fun b8=>(Ad (cs':=wA24 x5) Z .u Z Z C5 Z Z Z Z (zZ (T.seq (zY Z ?_)))))
 obtain⟨⟨x9,st10⟩,hx11,h⟩:=CL h
 try dsimp only at h
 refine zX ak 1 Z (Al Z .u (.fn Tryz.call23 Z) (bu b4 st6 _ hx11) sT Z (Ai ak Z Z (zX ak 2 Z ?_)))
 rcases jF h with⟨c12,h⟩ | ⟨c12,h⟩
 ·refine Au Z c12 (Ar (T.seq (zY Z (BA ak eD 0 Z Z Z (T.block (zY Z (zX ak 2 Z ?_)))))))
  rcases jF h with⟨c13,h⟩ | ⟨c13,h⟩
  ·refine A4 Z c13 (T.region Z ?_)
   obtain⟨⟨x14,st15⟩,hx16,h⟩:=CL h
   try dsimp only at h
   refine z6 ak eD 0 Z 4 Z Z (Al Z .u (.fn Tryz.call116 Z) (kE b4 st10 x5.Ce _ hx16) sT Z (zX ak 1 Z (Ad (cs':=vA11 x5 x14) Z .u Z Z DM Z Z Z Z (TL.nil (Ap (X.seq (T.seq (zY Z ?_))))))))
   obtain⟨⟨x17,st18⟩,hx19,h⟩:=CL h
   try dsimp only at h
   refine zX ak 1 Z (Al Z .u (.fn Tryz.call21 Z) (bw b4 st15 _ hx19) sT Z (Ai ak Z Z (zX ak 2 Z ?_)))
   rcases jF h with⟨c20,h⟩ | ⟨c20,h⟩
   ·refine Au Z c20 (Az Z (z4 Z (Ag (us := [jI x5.Cm,jI x5.Ce,jI x5.Cv,.bool x5.Cg.null,jS x5.Cg.data,.bool x14.Cc.null,jS x14.Cc.data,jI x14.B8,jI x14.BX,jI x14.B5,.string ⟨#[]⟩,jI 0,jI 0,.slice none 0 0,.string ⟨#[]⟩,jI 0,jI 0,.bool false,.slice none 0 0,.bool false,.string ⟨#[]⟩,jI 0,jI 0,.slice none 0 0]) 0 Z Dk C5 Z Z Z) Z (Bx (cs':=vA11 x5 x14) Z .u Z Z C5 Z Z Z Z (zX ak 1 Z ?_))))
    obtain rfl:=CN h
    exact zZ (T.ret (Ak 2 aX (Ak 5 aM (Ak 2 aw (Ax [6,2,1,0] DI (AA (us:=vA11 x5 x14) 5 Z Dk C5 Z Z) (z5 Z) ⟨_,_,_,_,_,_,Z,Z,Z⟩ (by rfl) (.inl Z))))))
   refine At Z c20 (zY Z ?_)
   refine z4 Z (Ao (cells:= #[jI 0,jI 0,jI 0,.bool false,.string ⟨#[]⟩,.bool false,.string ⟨#[]⟩,jI 0,jI 0,jI 0,.string ⟨#[]⟩,jI 0,jI 0,.slice none 0 0,.string ⟨#[]⟩,jI 0,jI 0,.bool false,.slice none 0 0,.bool false,.string ⟨#[]⟩,jI 0,jI 0,.slice none 0 0]) dj Z (by kernel_rfl)) Z ?_
   refine zX ak 1 Z (Bx (cs':= #[jI 0,jI 0,jI 0,.bool false,.string ⟨#[]⟩,.bool false,.string ⟨#[]⟩,jI 0,jI 0,jI 0,.string ⟨#[]⟩,jI 0,jI 0,.slice none 0 0,.string ⟨#[]⟩,jI 0,jI 0,.bool false,.slice none 0 0,.bool false,.string ⟨#[]⟩,jI 0,jI 0,.slice none 0 0]) Z .u Z Z C5 Z Z Z Z (zX ak 1 Z ?_))
   obtain rfl:=CN h
   exact zZ (T.ret (z7 (Ak 2 aX (Ak 5 aM (Ak 2 aw (Ax [6,2,1,0] DI (AA (us:= #[jI 0,jI 0,jI 0,.bool false,.string ⟨#[]⟩,.bool false,.string ⟨#[]⟩,jI 0,jI 0,jI 0,.string ⟨#[]⟩,jI 0,jI 0,.slice none 0 0,.string ⟨#[]⟩,jI 0,jI 0,.bool false,.slice none 0 0,.bool false,.string ⟨#[]⟩,jI 0,jI 0,.slice none 0 0]) 5 Z Dk C5 Z Z) (z5 Z) ⟨_,_,_,_,_,_,Z,Z,Z⟩ (by rfl) (.inl Z)))))))
  refine A7 Z c13 (zY Z (zX ak 2 Z ?_))
  rcases jF h with⟨c21,h⟩ | ⟨c21,h⟩
  ·refine A4 Z c21 (T.region Z ?_)
   obtain⟨⟨x22,st25⟩,hx26,h⟩:=CL h
   try dsimp only at h
   refine zX ak 1 Z (BC Z .u (.fn Tryz.call117 Z) (l8 b4 st10 _ hx26) sT Z ?_)
   rintro _ _ _ ⟨A23,c24,rfl,rfl,rfl⟩
   refine AD [0,0,0,0,0] Z (zX ak 1 Z (AP (cs':= #[jI x5.Cm,jI x5.Ce,jI x5.Cv,.bool x5.Cg.null,jS x5.Cg.data,.bool false,.string ⟨#[]⟩,jI 0,jI 0,jI 0,jS x22.Cc,jI x22.BX,jI x22.B5,.slice A23 x22.BZ.length c24,.string ⟨#[]⟩,jI 0,jI 0,.bool false,.slice none 0 0,.bool false,.string ⟨#[]⟩,jI 0,jI 0,.slice none 0 0]) Z .u Z Z DN Z Z Z Z (TL.nil (Ap (X.seq (T.seq (zY Z ?_)))))))
   obtain⟨⟨x27,st28⟩,hx29,h⟩:=CL h
   try dsimp only at h
   refine zX ak 1 Z (AH Z .u (.fn Tryz.call21 Z) (bw b4 st25 _ hx29) sT Z (Ai ak Z Z (zX ak 2 Z ?_)))
   rcases jF h with⟨c30,h⟩ | ⟨c30,h⟩
   ·refine Au Z c30 (Az Z (z4 Z (Ag (us := [jI x5.Cm,jI x5.Ce,jI x5.Cv,.bool x5.Cg.null,jS x5.Cg.data,.bool false,.string ⟨#[]⟩,jI 0,jI 0,jI 0,jS x22.Cc,jI x22.BX,jI x22.B5,.slice A23 x22.BZ.length c24,.string ⟨#[]⟩,jI 0,jI 0,.bool false,.slice none 0 0,.bool false,.string ⟨#[]⟩,jI 0,jI 0,.slice none 0 0]) 1 Z Dk C5 Z Z Z) Z (AO (cs':= #[jI x5.Cm,jI x5.Ce,jI x5.Cv,.bool x5.Cg.null,jS x5.Cg.data,.bool false,.string ⟨#[]⟩,jI 0,jI 0,jI 0,jS x22.Cc,jI x22.BX,jI x22.B5,.slice A23 x22.BZ.length c24,.string ⟨#[]⟩,jI 0,jI 0,.bool false,.slice none 0 0,.bool false,.string ⟨#[]⟩,jI 0,jI 0,.slice none 0 0]) Z .u Z Z C5 Z Z Z Z (zX ak 1 Z ?_))))
    obtain rfl:=CN h
    exact zZ (T.ret (Ak 5 aM (Ak 2 aw (Ax [6,2,1,0] DI (AA (us:= #[jI x5.Cm,jI x5.Ce,jI x5.Cv,.bool x5.Cg.null,jS x5.Cg.data,.bool false,.string ⟨#[]⟩,jI 0,jI 0,jI 0,jS x22.Cc,jI x22.BX,jI x22.B5,.slice A23 x22.BZ.length c24,.string ⟨#[]⟩,jI 0,jI 0,.bool false,.slice none 0 0,.bool false,.string ⟨#[]⟩,jI 0,jI 0,.slice none 0 0]) 5 Z Dk C5 Z Z) (z5 Z) ⟨_,_,_,_,_,_,Z,Z,Z⟩ (by rfl) (.inl Z)))))
   refine At Z c30 (zY Z ?_)
   refine z4 Z (Ao (cells:= #[jI 0,jI 0,jI 0,.bool false,.string ⟨#[]⟩,.bool false,.string ⟨#[]⟩,jI 0,jI 0,jI 0,.string ⟨#[]⟩,jI 0,jI 0,.slice none 0 0,.string ⟨#[]⟩,jI 0,jI 0,.bool false,.slice none 0 0,.bool false,.string ⟨#[]⟩,jI 0,jI 0,.slice none 0 0]) dj Z (by kernel_rfl)) Z ?_
   refine zX ak 1 Z (AO (cs':= #[jI 0,jI 0,jI 0,.bool false,.string ⟨#[]⟩,.bool false,.string ⟨#[]⟩,jI 0,jI 0,jI 0,.string ⟨#[]⟩,jI 0,jI 0,.slice none 0 0,.string ⟨#[]⟩,jI 0,jI 0,.bool false,.slice none 0 0,.bool false,.string ⟨#[]⟩,jI 0,jI 0,.slice none 0 0]) Z .u Z Z C5 Z Z Z Z (zX ak 1 Z ?_))
   obtain rfl:=CN h
   exact zZ (T.ret (z7 (Ak 2 aX (Ak 5 aM (Ak 2 aw (Ax [7,2,1,0] DI (AA (us:= #[jI 0,jI 0,jI 0,.bool false,.string ⟨#[]⟩,.bool false,.string ⟨#[]⟩,jI 0,jI 0,jI 0,.string ⟨#[]⟩,jI 0,jI 0,.slice none 0 0,.string ⟨#[]⟩,jI 0,jI 0,.bool false,.slice none 0 0,.bool false,.string ⟨#[]⟩,jI 0,jI 0,.slice none 0 0]) 6 Z Dk C5 Z Z) (z5 Z) ⟨_,_,_,_,_,_,Z,Z,Z⟩ (by rfl) (.inl Z)))))))
  refine A7 Z c21 (zY Z (zX ak 2 Z ?_))
  rcases jF h with⟨c31,h⟩ | ⟨c31,h⟩
  ·refine A4 Z c31 (T.region Z ?_)
   obtain⟨⟨x32,st33⟩,hx34,h⟩:=CL h
   try dsimp only at h
   refine zX ak 1 Z (Al Z .u (.fn Tryz.call118 Z) (l9 b4 st10 _ hx34) sT Z (zX ak 1 Z (Ad (cs':=vA12 x5 x32) Z .u Z Z DO Z Z Z Z (TL.nil (Ap (X.seq (T.seq (zY Z ?_))))))))
   obtain⟨⟨x35,st36⟩,hx37,h⟩:=CL h
   try dsimp only at h
   refine zX ak 1 Z (Al Z .u (.fn Tryz.call21 Z) (bw b4 st33 _ hx37) sT Z (Ai ak Z Z (zX ak 2 Z ?_)))
   rcases jF h with⟨c38,h⟩ | ⟨c38,h⟩
   ·refine Au Z c38 (Az Z (z4 Z (Ag (us := [jI x5.Cm,jI x5.Ce,jI x5.Cv,.bool x5.Cg.null,jS x5.Cg.data,.bool false,.string ⟨#[]⟩,jI 0,jI 0,jI 0,.string ⟨#[]⟩,jI 0,jI 0,.slice none 0 0,jS x32.Cc,jI x32.BX,jI x32.B5,.bool x32.Cw,.slice none 0 0,.bool false,.string ⟨#[]⟩,jI 0,jI 0,.slice none 0 0]) 0 Z Dk C5 Z Z Z) Z (Bx (cs':=vA12 x5 x32) Z .u Z Z C5 Z Z Z Z (zX ak 1 Z ?_))))
    obtain rfl:=CN h
    exact zZ (T.ret (Ak 2 aX (Ak 5 aM (Ak 2 aw (Ax [6,2,1,0] DI (AA (us:=vA12 x5 x32) 5 Z Dk C5 Z Z) (z5 Z) ⟨_,_,_,_,_,_,Z,Z,Z⟩ (by rfl) (.inl Z))))))
   refine At Z c38 (zY Z ?_)
   refine z4 Z (Ao (cells:= #[jI 0,jI 0,jI 0,.bool false,.string ⟨#[]⟩,.bool false,.string ⟨#[]⟩,jI 0,jI 0,jI 0,.string ⟨#[]⟩,jI 0,jI 0,.slice none 0 0,.string ⟨#[]⟩,jI 0,jI 0,.bool false,.slice none 0 0,.bool false,.string ⟨#[]⟩,jI 0,jI 0,.slice none 0 0]) dj Z (by kernel_rfl)) Z ?_
   refine zX ak 1 Z (Bx (cs':= #[jI 0,jI 0,jI 0,.bool false,.string ⟨#[]⟩,.bool false,.string ⟨#[]⟩,jI 0,jI 0,jI 0,.string ⟨#[]⟩,jI 0,jI 0,.slice none 0 0,.string ⟨#[]⟩,jI 0,jI 0,.bool false,.slice none 0 0,.bool false,.string ⟨#[]⟩,jI 0,jI 0,.slice none 0 0]) Z .u Z Z C5 Z Z Z Z (zX ak 1 Z ?_))
   obtain rfl:=CN h
   exact zZ (T.ret (z7 (Ak 2 aX (Ak 5 aM (Ak 2 aw (Ax [6,2,1,0] DI (AA (us:= #[jI 0,jI 0,jI 0,.bool false,.string ⟨#[]⟩,.bool false,.string ⟨#[]⟩,jI 0,jI 0,jI 0,.string ⟨#[]⟩,jI 0,jI 0,.slice none 0 0,.string ⟨#[]⟩,jI 0,jI 0,.bool false,.slice none 0 0,.bool false,.string ⟨#[]⟩,jI 0,jI 0,.slice none 0 0]) 5 Z Dk C5 Z Z) (z5 Z) ⟨_,_,_,_,_,_,Z,Z,Z⟩ (by rfl) (.inl Z)))))))
  refine A7 Z c31 (zY Z (zX ak 2 Z ?_))
  rcases jF h with⟨c39,h⟩ | ⟨c39,h⟩
  ·refine A4 Z c39 (T.region Z ?_)
   obtain⟨⟨x40,st43⟩,hx44,h⟩:=CL h
   try dsimp only at h
   refine z6 ak eD 0 Z 4 Z Z (BC Z .u (.fn Tryz.call119 Z) (nD b4 st10 x5.Ce _ hx44) sT Z ?_)
   rintro _ _ _ ⟨A41,c42,rfl,rfl,rfl⟩
   refine AD [0,0,0,0,0] Z (zX ak 1 Z (AP (cs':=vA13 A41 c42 (x40).length x5) Z .u Z Z Tryz.sizeOf33 Z Z Z Z (TL.nil (Ap (X.seq (T.seq (zY Z ?_)))))))
   obtain⟨⟨x45,st46⟩,hx47,h⟩:=CL h
   try dsimp only at h
   refine zX ak 1 Z (AH Z .u (.fn Tryz.call21 Z) (bw b4 st43 _ hx47) sT Z (Ai ak Z Z (zX ak 2 Z ?_)))
   rcases jF h with⟨c48,h⟩ | ⟨c48,h⟩
   ·refine Au Z c48 (Az Z (z4 Z (Ag (us := [jI x5.Cm,jI x5.Ce,jI x5.Cv,.bool x5.Cg.null,jS x5.Cg.data,.bool false,.string ⟨#[]⟩,jI 0,jI 0,jI 0,.string ⟨#[]⟩,jI 0,jI 0,.slice none 0 0,.string ⟨#[]⟩,jI 0,jI 0,.bool false,.slice A41 x40.length c42,.bool false,.string ⟨#[]⟩,jI 0,jI 0,.slice none 0 0]) 1 Z Dk C5 Z Z Z) Z (AO (cs':=vA13 A41 c42 (x40).length x5) Z .u Z Z C5 Z Z Z Z (zX ak 1 Z ?_))))
    obtain rfl:=CN h
    exact zZ (T.ret (Ak 2 aX (Ak 2 aw (Ax [6,1,1,0] DI (AA (us:=vA13 A41 c42 (x40).length x5) 5 Z Dk C5 Z Z) (z5 Z) ⟨_,_,_,_,_,_,Z,Z,Z⟩ (by rfl) (.inl Z)))))
   refine At Z c48 (zY Z ?_)
   refine z4 Z (Ao (cells:= #[jI 0,jI 0,jI 0,.bool false,.string ⟨#[]⟩,.bool false,.string ⟨#[]⟩,jI 0,jI 0,jI 0,.string ⟨#[]⟩,jI 0,jI 0,.slice none 0 0,.string ⟨#[]⟩,jI 0,jI 0,.bool false,.slice none 0 0,.bool false,.string ⟨#[]⟩,jI 0,jI 0,.slice none 0 0]) dj Z (by kernel_rfl)) Z ?_
   refine zX ak 1 Z (AO (cs':= #[jI 0,jI 0,jI 0,.bool false,.string ⟨#[]⟩,.bool false,.string ⟨#[]⟩,jI 0,jI 0,jI 0,.string ⟨#[]⟩,jI 0,jI 0,.slice none 0 0,.string ⟨#[]⟩,jI 0,jI 0,.bool false,.slice none 0 0,.bool false,.string ⟨#[]⟩,jI 0,jI 0,.slice none 0 0]) Z .u Z Z C5 Z Z Z Z (zX ak 1 Z ?_))
   obtain rfl:=CN h
   exact zZ (T.ret (z7 (Ak 2 aX (Ak 5 aM (Ak 2 aw (Ax [7,2,1,0] DI (AA (us:= #[jI 0,jI 0,jI 0,.bool false,.string ⟨#[]⟩,.bool false,.string ⟨#[]⟩,jI 0,jI 0,jI 0,.string ⟨#[]⟩,jI 0,jI 0,.slice none 0 0,.string ⟨#[]⟩,jI 0,jI 0,.bool false,.slice none 0 0,.bool false,.string ⟨#[]⟩,jI 0,jI 0,.slice none 0 0]) 6 Z Dk C5 Z Z) (z5 Z) ⟨_,_,_,_,_,_,Z,Z,Z⟩ (by rfl) (.inl Z)))))))
  refine A7 Z c39 (T.region Z ?_)
  obtain⟨⟨x49,st52⟩,hx53,h⟩:=CL h
  try dsimp only at h
  refine z6 ak eD 0 Z 4 Z Z (BC Z .u (.fn Tryz.call120 Z) (lC b4 st10 x5.Ce _ hx53) sT Z ?_)
  rintro _ _ _ ⟨A50,c51,rfl,rfl,rfl⟩
  refine AD [0,0,0,0,0] Z (zX ak 1 Z (AP (cs':=vA14 A50 c51 (x49.BZ).length x5 x49) Z .u Z Z Ds Z Z Z Z (TL.nil (Ap (X.seq (T.seq (zY Z ?_)))))))
  obtain⟨⟨x54,st55⟩,hx56,h⟩:=CL h
  try dsimp only at h
  refine zX ak 1 Z (AH Z .u (.fn Tryz.call21 Z) (bw b4 st52 _ hx56) sT Z (Ai ak Z Z (zX ak 2 Z ?_)))
  rcases jF h with⟨c57,h⟩ | ⟨c57,h⟩
  ·refine Au Z c57 (Az Z (z4 Z (Ag (us := [jI x5.Cm,jI x5.Ce,jI x5.Cv,.bool x5.Cg.null,jS x5.Cg.data,.bool false,.string ⟨#[]⟩,jI 0,jI 0,jI 0,.string ⟨#[]⟩,jI 0,jI 0,.slice none 0 0,.string ⟨#[]⟩,jI 0,jI 0,.bool false,.slice none 0 0,.bool x49.Cc.null,jS x49.Cc.data,jI x49.CG,jI x49.B8,.slice A50 x49.BZ.length c51]) 1 Z Dk C5 Z Z Z) Z (AO (cs':=vA14 A50 c51 (x49.BZ).length x5 x49) Z .u Z Z C5 Z Z Z Z (zX ak 1 Z ?_))))
   obtain rfl:=CN h
   exact zZ (T.ret (Ak 2 aX (Ak 5 aM (Ax [6,1,0,0] DI (AA (us:=vA14 A50 c51 (x49.BZ).length x5 x49) 5 Z Dk C5 Z Z) (z5 Z) ⟨_,_,_,_,_,_,Z,Z,Z⟩ (by rfl) (.inl Z)))))
  refine At Z c57 (zY Z ?_)
  refine z4 Z (Ao (cells:= #[jI 0,jI 0,jI 0,.bool false,.string ⟨#[]⟩,.bool false,.string ⟨#[]⟩,jI 0,jI 0,jI 0,.string ⟨#[]⟩,jI 0,jI 0,.slice none 0 0,.string ⟨#[]⟩,jI 0,jI 0,.bool false,.slice none 0 0,.bool false,.string ⟨#[]⟩,jI 0,jI 0,.slice none 0 0]) dj Z (by kernel_rfl)) Z ?_
  refine zX ak 1 Z (AO (cs':= #[jI 0,jI 0,jI 0,.bool false,.string ⟨#[]⟩,.bool false,.string ⟨#[]⟩,jI 0,jI 0,jI 0,.string ⟨#[]⟩,jI 0,jI 0,.slice none 0 0,.string ⟨#[]⟩,jI 0,jI 0,.bool false,.slice none 0 0,.bool false,.string ⟨#[]⟩,jI 0,jI 0,.slice none 0 0]) Z .u Z Z C5 Z Z Z Z (zX ak 1 Z ?_))
  obtain rfl:=CN h
  exact zZ (T.ret (z7 (Ak 2 aX (Ak 5 aM (Ak 2 aw (Ax [7,2,1,0] DI (AA (us:= #[jI 0,jI 0,jI 0,.bool false,.string ⟨#[]⟩,.bool false,.string ⟨#[]⟩,jI 0,jI 0,jI 0,.string ⟨#[]⟩,jI 0,jI 0,.slice none 0 0,.string ⟨#[]⟩,jI 0,jI 0,.bool false,.slice none 0 0,.bool false,.string ⟨#[]⟩,jI 0,jI 0,.slice none 0 0]) 6 Z Dk C5 Z Z) (z5 Z) ⟨_,_,_,_,_,_,Z,Z,Z⟩ (by rfl) (.inl Z)))))))
 refine At Z c12 (zY Z ?_)
 refine z4 Z (Ao (cells:= #[jI 0,jI 0,jI 0,.bool false,.string ⟨#[]⟩,.bool false,.string ⟨#[]⟩,jI 0,jI 0,jI 0,.string ⟨#[]⟩,jI 0,jI 0,.slice none 0 0,.string ⟨#[]⟩,jI 0,jI 0,.bool false,.slice none 0 0,.bool false,.string ⟨#[]⟩,jI 0,jI 0,.slice none 0 0]) dj Z (by kernel_rfl)) Z ?_
 refine zX ak 1 Z (Bx (cs':= #[jI 0,jI 0,jI 0,.bool false,.string ⟨#[]⟩,.bool false,.string ⟨#[]⟩,jI 0,jI 0,jI 0,.string ⟨#[]⟩,jI 0,jI 0,.slice none 0 0,.string ⟨#[]⟩,jI 0,jI 0,.bool false,.slice none 0 0,.bool false,.string ⟨#[]⟩,jI 0,jI 0,.slice none 0 0]) Z .u Z Z C5 Z Z Z Z (zX ak 1 Z ?_))
 obtain rfl:=CN h
 exact zZ (T.ret (z7 (Ak 2 aX (Ak 5 aM (Ak 2 aw (Ax [6,2,1,0] DI (AA (us:= #[jI 0,jI 0,jI 0,.bool false,.string ⟨#[]⟩,.bool false,.string ⟨#[]⟩,jI 0,jI 0,jI 0,.string ⟨#[]⟩,jI 0,jI 0,.slice none 0 0,.string ⟨#[]⟩,jI 0,jI 0,.bool false,.slice none 0 0,.bool false,.string ⟨#[]⟩,jI 0,jI 0,.slice none 0 0]) 5 Z Dk C5 Z Z) (z5 Z) ⟨_,_,_,_,_,_,Z,Z,Z⟩ (by rfl) (.inl Z)))))))
def fD (st:I)  : Option (ax×I):=(bW st 4).bind fun (x2,st3)=>(sE st3 x2).bind fun (x5,st6)=>(fa st6).bind fun (x8,st9)=>if x8=0 then ((gq x5).bind fun (x12,x19)=>if x19=0 then some (x12,st9) else ((bg st9 x19).bind fun st23=>some ((⟨(⟨0,0,0,(⟨false,[]⟩:Bl)⟩:dv),(⟨(⟨false,[]⟩:Bl),0,0,0⟩:aD),(⟨[],0,0,[]⟩:bh),(⟨[],0,0,false⟩:bc),[],(⟨(⟨false,[]⟩:Bl),0,0,[]⟩:ao)⟩:ax),st23))) else (some ((⟨(⟨0,0,0,(⟨false,[]⟩:Bl)⟩:dv),(⟨(⟨false,[]⟩:Bl),0,0,0⟩:aD),(⟨[],0,0,[]⟩:bh),(⟨[],0,0,false⟩:bc),[],(⟨(⟨false,[]⟩:Bl),0,0,[]⟩:ao)⟩:ax),st9))
theorem mQ (g:Nat) (st:I)  (r:ax×I) (h:fD st  = some r):au Tryz.prog 20 #[jP g] .triv (InR g st) (fun v A' N=> ∃ (A25:Option Addr) (c26:Nat) (A27:Option Addr) (c28:Nat) (A29:Option Addr) (c30:Nat),v= .agg #[jI r.1.Cp.Cm,jI r.1.Cp.Ce,jI r.1.Cp.Cv,.bool r.1.Cp.Cg.null,jS r.1.Cp.Cg.data,.bool r.1.Cx.Cc.null,jS r.1.Cx.Cc.data,jI r.1.Cx.B8,jI r.1.Cx.BX,jI r.1.Cx.B5,jS r.1.Cy.Cc,jI r.1.Cy.BX,jI r.1.Cy.B5,.slice A25 r.1.Cy.BZ.length c26,jS r.1.CJ.Cc,jI r.1.CJ.BX,jI r.1.CJ.B5,.bool r.1.CJ.Cw,.slice A27 r.1.Cz.length c28,.bool r.1.Cj.Cc.null,jS r.1.Cj.Cc.data,jI r.1.Cj.CG,jI r.1.Cj.B8,.slice A29 r.1.Cj.BZ.length c30]∧A'=InR g r.2∧N = [RdR (an 2 aX) [.slice A25 r.1.Cy.BZ.length c26] r.1.Cy.BZ,RdR (an 5 aM) [.slice A27 r.1.Cz.length c28] r.1.Cz,RdR (an 2 aw) [.slice A29 r.1.Cj.BZ.length c30] r.1.Cj.BZ]):=by
 refine aL Tryz.func20 Z Tryz.ntmps20 Z ?_
 intro F w hX
 unfold fD at h
 refine zY Z (TL.alloc Z .u Tryz.zeroValue38 Z (fun b1=>(Ab Z ?_)))
 obtain⟨⟨x2,st3⟩,hx4,h⟩:=CL h
 try dsimp only at h
 refine zX ak 2 Z (Al Z .u (.fn Tryz.call68 Z) (aE g st 4 _ hx4) sT Z ?_)
 obtain⟨⟨x5,st6⟩,hx7,h⟩:=CL h
 try dsimp only at h
 refine Al Z .u (.fn Tryz.call67 Z) (oL g st3 x2 _ hx7) sT Z (z8 ak Z (T.seq (zY Z ?_)))
 obtain⟨⟨x8,st9⟩,hx10,h⟩:=CL h
 try dsimp only at h
 refine zX ak 1 Z (Al Z .u (.fn Tryz.call23 Z) (bu g st6 _ hx10) sT Z (zX ak 1 Z ?_))
 rcases jF h with⟨c11,h⟩ | ⟨c11,h⟩
 ·refine Au Z c11 (Az Z ?_)
  obtain⟨⟨x12,x19⟩,hx20,h⟩:=CL h
  try dsimp only at h
  refine zX ak 1 Z (AY Z .u (.fn Tryz.call69 Z) (mP x5 _ hx20) rT Z ?_)
  rintro _ _ _ ⟨A13,c14,A15,c16,A17,c18,rfl,rfl,rfl⟩
  refine AD [0,0,0,0,0] Z (zX ak 3 Z (TL.alloc Z .u Tryz.zeroValue38 Z (fun b21=>(Ad (cs':=kh x12 A13 A15 A17 c14 c16 c18) Z .u Z Z C5 Z Z Z Z (z8 ak Z (T.seq (zY Z (zX ak 2 Z ?_))))))))
  rcases jF h with⟨c22,h⟩ | ⟨c22,h⟩
  ·refine Au Z c22 (Az Z (z4 Z (Ag (us:=wL23 x12 A13 A15 A17 c14 c16 c18) 0 Z Dk C5 Z Z Z) Z (BS (cs':=kh x12 A13 A15 A17 c14 c16 c18) Z .u Z Z C5 Z Z Z Z ?_)))
   obtain rfl:=CN h
   exact zZ (T.ret (Aw [5,1,1,1] Tryz.results20 (AA (us:=kh x12 A13 A15 A17 c14 c16 c18) 4 Z Dk C5 Z Z) ⟨_,_,_,_,_,_,Z,Z,Z⟩ (by rfl) (.inl Z)))
  refine At Z c22 (zY Z ?_)
  obtain⟨st23,hx24,h⟩:=CL h
  refine zX ak 2 Z (BJ Z .u (.fn Tryz.call70 Z) (aU g st9 x19 _ hx24) sT Z (Ab Z ?_))
  refine z4 Z (Ao (cells:= #[jI 0,jI 0,jI 0,.bool false,.string ⟨#[]⟩,.bool false,.string ⟨#[]⟩,jI 0,jI 0,jI 0,.string ⟨#[]⟩,jI 0,jI 0,.slice none 0 0,.string ⟨#[]⟩,jI 0,jI 0,.bool false,.slice none 0 0,.bool false,.string ⟨#[]⟩,jI 0,jI 0,.slice none 0 0]) dj Z (by kernel_rfl)) Z ?_
  refine BS (cs':= #[jI 0,jI 0,jI 0,.bool false,.string ⟨#[]⟩,.bool false,.string ⟨#[]⟩,jI 0,jI 0,jI 0,.string ⟨#[]⟩,jI 0,jI 0,.slice none 0 0,.string ⟨#[]⟩,jI 0,jI 0,.bool false,.slice none 0 0,.bool false,.string ⟨#[]⟩,jI 0,jI 0,.slice none 0 0]) Z .u Z Z C5 Z Z Z Z ?_
  obtain rfl:=CN h
  exact zZ (T.ret (z7 (Ak 2 aX (Ak 5 aM (Ak 2 aw (Aw [8,2,1,0] Tryz.results20 (AA (us:= #[jI 0,jI 0,jI 0,.bool false,.string ⟨#[]⟩,.bool false,.string ⟨#[]⟩,jI 0,jI 0,jI 0,.string ⟨#[]⟩,jI 0,jI 0,.slice none 0 0,.string ⟨#[]⟩,jI 0,jI 0,.bool false,.slice none 0 0,.bool false,.string ⟨#[]⟩,jI 0,jI 0,.slice none 0 0]) 7 Z Dk C5 Z Z) ⟨_,_,_,_,_,_,Z,Z,Z⟩ (by rfl) (.inl Z)))))))
 refine At Z c11 (zY Z ?_)
 refine z4 Z (Ao (cells:= #[jI 0,jI 0,jI 0,.bool false,.string ⟨#[]⟩,.bool false,.string ⟨#[]⟩,jI 0,jI 0,jI 0,.string ⟨#[]⟩,jI 0,jI 0,.slice none 0 0,.string ⟨#[]⟩,jI 0,jI 0,.bool false,.slice none 0 0,.bool false,.string ⟨#[]⟩,jI 0,jI 0,.slice none 0 0]) dj Z (by kernel_rfl)) Z ?_
 refine Ad (cs':= #[jI 0,jI 0,jI 0,.bool false,.string ⟨#[]⟩,.bool false,.string ⟨#[]⟩,jI 0,jI 0,jI 0,.string ⟨#[]⟩,jI 0,jI 0,.slice none 0 0,.string ⟨#[]⟩,jI 0,jI 0,.bool false,.slice none 0 0,.bool false,.string ⟨#[]⟩,jI 0,jI 0,.slice none 0 0]) Z .u Z Z C5 Z Z Z Z ?_
 obtain rfl:=CN h
 exact zZ (T.ret (z7 (Ak 2 aX (Ak 5 aM (Ak 2 aw (Aw [4,2,1,0] Tryz.results20 (AA (us:= #[jI 0,jI 0,jI 0,.bool false,.string ⟨#[]⟩,.bool false,.string ⟨#[]⟩,jI 0,jI 0,jI 0,.string ⟨#[]⟩,jI 0,jI 0,.slice none 0 0,.string ⟨#[]⟩,jI 0,jI 0,.bool false,.slice none 0 0,.bool false,.string ⟨#[]⟩,jI 0,jI 0,.slice none 0 0]) 3 Z Dk C5 Z Z) ⟨_,_,_,_,_,_,Z,Z,Z⟩ (by rfl) (.inl Z)))))))
def dI (a0:List UInt8):Option (ax×Int):=(mw a0).bind fun st2=>(fD st2).bind fun (x5,st12)=>(cc st12).bind fun (x15,st16)=>if x15=0 then some (x5,0) else (some ((⟨(⟨0,0,0,(⟨false,[]⟩:Bl)⟩:dv),(⟨(⟨false,[]⟩:Bl),0,0,0⟩:aD),(⟨[],0,0,[]⟩:bh),(⟨[],0,0,false⟩:bc),[],(⟨(⟨false,[]⟩:Bl),0,0,[]⟩:ao)⟩:ax),x15))
theorem iq (a0:List UInt8) (r:ax×Int) (h:dI a0=some r):au Tryz.prog 15 #[jS a0] .triv (aI) (fun v A' N=> ∃ (A19:Option Addr) (c20:Nat) (A21:Option Addr) (c22:Nat) (A23:Option Addr) (c24:Nat),v= .tuple #[.agg #[jI r.1.Cp.Cm,jI r.1.Cp.Ce,jI r.1.Cp.Cv,.bool r.1.Cp.Cg.null,jS r.1.Cp.Cg.data,.bool r.1.Cx.Cc.null,jS r.1.Cx.Cc.data,jI r.1.Cx.B8,jI r.1.Cx.BX,jI r.1.Cx.B5,jS r.1.Cy.Cc,jI r.1.Cy.BX,jI r.1.Cy.B5,.slice A19 r.1.Cy.BZ.length c20,jS r.1.CJ.Cc,jI r.1.CJ.BX,jI r.1.CJ.B5,.bool r.1.CJ.Cw,.slice A21 r.1.Cz.length c22,.bool r.1.Cj.Cc.null,jS r.1.Cj.Cc.data,jI r.1.Cj.CG,jI r.1.Cj.B8,.slice A23 r.1.Cj.BZ.length c24],jI r.2]∧A'=aI∧N = [RdR (an 2 aX) [.slice A19 r.1.Cy.BZ.length c20] r.1.Cy.BZ,RdR (an 5 aM) [.slice A21 r.1.Cz.length c22] r.1.Cz,RdR (an 2 aw) [.slice A23 r.1.Cj.BZ.length c24] r.1.Cj.BZ]):=by
 refine aL Tryz.func15 Z Tryz.ntmps15 Z ?_
 intro F w hX
 unfold dI at h
 refine zY Z (TL.alloc Z .u Tryz.zeroValue38 Z (fun b1=>(Ai ak Z Z ?_)))
 obtain⟨st2,hx3,h⟩:=CL h
 refine zX ak 1 Z (AY Z .u (.fn Tryz.call19 Z) (eY a0 _ hx3) rT Z ?_)
 rintro _ _ _ ⟨b4,rfl,rfl,rfl⟩
 refine AD [0,0,0] Z (Ai ak Z Z ?_)
 obtain⟨⟨x5,st12⟩,hx13,h⟩:=CL h
 try dsimp only at h
 refine zX ak 1 Z (TL.cg0 Z .u (.fn Tryz.call20 Z) (mQ b4 st2 _ hx13) sT Z ?_)
 rintro _ _ _ ⟨A6,c7,A8,c9,A10,c11,rfl,rfl,rfl⟩
 refine AD [0,0,0,0,0,0] Z (TL.alloc Z .u Tryz.zeroValue38 Z (fun b14=>(Ad (cs':=kh x5 A6 A8 A10 c7 c9 c11) Z .u Z Z C5 Z Z Z Z (zZ (T.seq (zY Z ?_))))))
 obtain⟨⟨x15,st16⟩,hx17,h⟩:=CL h
 try dsimp only at h
 refine zX ak 1 Z (TL.c4 Z .u (.fn Tryz.call21 Z) (bw b4 st12 _ hx17) sT Z (Ai ak Z Z (zX ak 2 Z ?_)))
 rcases jF h with⟨c18,h⟩ | ⟨c18,h⟩
 ·refine Au Z c18 (Az Z (z4 Z (Ag (us:=wL23 x5 A6 A8 A10 c7 c9 c11) 0 Z Dk C5 Z Z Z) Z (TL.st5 (cs':=kh x5 A6 A8 A10 c7 c9 c11) Z .u Z Z C5 Z Z Z Z (zX ak 1 Z ?_))))
  obtain rfl:=CN h
  exact zZ (T.ret (Ax [6,1,1,1] Tryz.results15 (AA (us:=kh x5 A6 A8 A10 c7 c9 c11) 5 Z Dk C5 Z Z) (z5 Z) ⟨_,_,_,_,_,_,Z,Z,Z⟩ (by rfl) (.inl Z)))
 refine At Z c18 (zY Z ?_)
 refine z4 Z (Ao (cells:= #[jI 0,jI 0,jI 0,.bool false,.string ⟨#[]⟩,.bool false,.string ⟨#[]⟩,jI 0,jI 0,jI 0,.string ⟨#[]⟩,jI 0,jI 0,.slice none 0 0,.string ⟨#[]⟩,jI 0,jI 0,.bool false,.slice none 0 0,.bool false,.string ⟨#[]⟩,jI 0,jI 0,.slice none 0 0]) dj Z (by kernel_rfl)) Z ?_
 refine zX ak 1 Z (TL.st5 (cs':= #[jI 0,jI 0,jI 0,.bool false,.string ⟨#[]⟩,.bool false,.string ⟨#[]⟩,jI 0,jI 0,jI 0,.string ⟨#[]⟩,jI 0,jI 0,.slice none 0 0,.string ⟨#[]⟩,jI 0,jI 0,.bool false,.slice none 0 0,.bool false,.string ⟨#[]⟩,jI 0,jI 0,.slice none 0 0]) Z .u Z Z C5 Z Z Z Z (zX ak 1 Z ?_))
 obtain rfl:=CN h
 exact zZ (T.ret (z7 (Ak 2 aX (Ak 5 aM (Ak 2 aw (Ax [9,2,1,0] Tryz.results15 (AA (us:= #[jI 0,jI 0,jI 0,.bool false,.string ⟨#[]⟩,.bool false,.string ⟨#[]⟩,jI 0,jI 0,jI 0,.string ⟨#[]⟩,jI 0,jI 0,.slice none 0 0,.string ⟨#[]⟩,jI 0,jI 0,.bool false,.slice none 0 0,.bool false,.string ⟨#[]⟩,jI 0,jI 0,.slice none 0 0]) 8 Z Dk C5 Z Z) (z5 Z) ⟨_,_,_,_,_,_,Z,Z,Z⟩ (by rfl) (.inl Z)))))))
def pa:fj := []
theorem ah:(pa).OK Tryz.prog:=trivial
theorem kH:SOK Tryz.prog 72 5 1 1 #[.int .u8 0]:=SOK.mk Tryz.runUnderlying72 Tryz.sizeOf5 Tryz.zeroValue5 (by decide) (by kernel_rfl)
def fg (a0:List UInt8) (a1:Int):Option (Bool):=(cJ []).bind fun (x1,x4)=>if x4=1 then (if (a0.length:Int)>1500 then some true else (if a0.length+(gH [a1]).length≤9223372036854775807 then ((cJ a0).bind fun (x11,x14)=>(if x14=0 then ((dO x11).bind fun (x37,x38)=>(cJ (a0++(gH [a1]))).bind fun (x40,x43)=>(if x38=0 then (if x37=a0 then (if x43=2 then some false else some true) else some true) else some true).bind fun y48=>if y48=true then none else some ()) else some ()).bind fun _=>(cU a0).bind fun (x54,x57)=>(if x57=0 then ((dF x54).bind fun (x80,x81)=>(cU (a0++(gH [a1]))).bind fun (x83,x86)=>(if x81=0 then (if x80=a0 then (if x86=2 then some false else some true) else some true) else some true).bind fun y91=>if y91=true then none else some ()) else some ()).bind fun _=>(jB a0).bind fun (x97,x98)=>(if x98=0 then ((kw x97).bind fun (x117,x118)=>(jB (a0++(gH [a1]))).bind fun (x120,x121)=>(if x118=0 then (if x117=a0 then (if x121=2 then some false else some true) else some true) else some true).bind fun y125=>if y125=true then none else some ()) else some ()).bind fun _=>(dm a0).bind fun (x131,x134)=>(if x134=0 then ((ek x131).bind fun (x157,x158)=>(dm (a0++(gH [a1]))).bind fun (x160,x163)=>(if x158=0 then (if x157=a0 then (if x163=2 then some false else some true) else some true) else some true).bind fun y168=>if y168=true then none else some ()) else some ()).bind fun _=>(dI a0).bind fun (x174,x181)=>(if x181=0 then ((ey x174).bind fun (x208,x209)=>(dI (a0++(gH [a1]))).bind fun (x211,x218)=>(if x209=0 then (if x208=a0 then (if x218=2 then some false else some true) else some true) else some true).bind fun y223=>if y223=true then none else some ()) else some ()).bind fun _=>some true) else none)) else none
theorem f_top_WholeStrict_spec (a0:List UInt8) (a1:Int) (r:Bool) (h:fg a0 a1=some r):au Tryz.prog 9 #[jS a0,.int .u8 a1] .triv (aI) (fun v A' N=>v= .bool r∧A'=aI∧N = []):=by
 refine aL Tryz.func9 Z Tryz.ntmps9 Z ?_
 intro F w hX
 unfold fg at h
 refine zY Z (zX ah 1 Z ?_)
 obtain⟨⟨x1,x4⟩,hx5,h⟩:=CL h
 try dsimp only at h
 refine zZ (T.seq (zY Z (AY Z .u (.fn Tryz.call36 Z) (fo [] _ hx5) rT Z ?_)))
 rintro _ _ _ ⟨A2,c3,rfl,rfl,rfl⟩
 refine AD [0,0] Z (zX ah 3 Z (TL.alloc Z .u Tryz.zeroValue91 Z (fun b6=>(Ad (cs':=wA0 x1 A2 c3) Z .u Z Z C2 Z Z Z Z (Ai ah Z Z (zX ah 2 Z ?_))))))
 rcases jF h with⟨c7,h⟩ | ⟨c7,h⟩
 ·refine Au Z c7 (Ar (T.seq (zY Z (zX ah 1 Z (z4 Z (BM Z Dv) Z (zX ah 1 Z ?_))))))
  rcases jF h with⟨c8,h⟩ | ⟨c8,h⟩
  ·refine A4 Z c8 (zY Z (zX ah 1 Z ?_))
   obtain rfl:=CN h
   exact zZ (T.ret (z7 (Af [2] Tryz.results9 (z5 Z))))
  refine A7 Z c8 (Az Z (zX ah 2 Z (BI (cells:= #[.int .u8 a1]) Z .u kH Z (by rfl) Z (fun b9=>(z4 Z (Ex.blkStr (xs := [a1]) 0 Z Z Z Z Tryz.runUnderlying72 Dv Tryz.runUnderlying5) Z ?_)))))
  obtain⟨c10,h⟩:=aH h
  refine z4 Z (Ex.sAdd Z Z c10) Z (z8 ah Z (T.seq (zY Z ?_)))
  obtain⟨⟨x11,x14⟩,hx15,h⟩:=CL h
  try dsimp only at h
  refine zX ah 1 Z (AY Z .u (.fn Tryz.call36 Z) (fo a0 _ hx15) rT Z ?_)
  rintro _ _ _ ⟨A12,c13,rfl,rfl,rfl⟩
  refine AD [0,0,0,0,0] Z (zX ah 3 Z (TL.alloc Z .u Tryz.zeroValue91 Z (fun b16=>(Ad (cs':=wA0 x11 A12 c13) Z .u Z Z C2 Z Z Z Z (Ai ah Z Z (z8 ah Z ?_))))))
  obtain⟨⟨⟩,h,hk35⟩:=CL h
  refine AK (fun e Rs=>e = [(0,jS a0),(4,.bool false),(7,.string (aC (a0++(gH [a1]))))]∧Rs = [ay b16 91 (wA0 x11 A12 c13),RdR (an 3 bT) [.slice A12 x11.B6.length c13] x11.B6,ay b9 5 #[.int .u8 a1],ay b6 91 (wA0 x1 A2 c3),RdR (an 3 bT) [.slice A2 x1.B6.length c3] x1.B6,aI]) ?_ ?_
  ·clear hk35
   rcases jF h with⟨c36,h⟩ | ⟨c36,h⟩
   ·refine Bb Z c36 (zY Z (z4 Z (Ag (us:=wL4 x11 A12 c13) 0 Z Dd C2 Z Z Z) Z ?_))
    obtain⟨⟨x37,x38⟩,hx39,h⟩:=CL h
    try dsimp only at h
    refine An Z .u (.fn Tryz.call37 Z) (kB x11 _ _ _ hx39) (fun _ hs=>(Bd 1 hs Z (fun w G h=>ga w G h))) Z (Ai ah Z Z ?_)
    obtain⟨⟨x40,x43⟩,hx44,h⟩:=CL h
    try dsimp only at h
    refine zX ah 1 Z (AY Z .u (.fn Tryz.call36 Z) (fo (a0++(gH [a1])) _ hx44) rT Z ?_)
    rintro _ _ _ ⟨A41,c42,rfl,rfl,rfl⟩
    refine AD [0,0,0,0,0,0,0] Z (zX ah 3 Z (TL.alloc Z .u Tryz.zeroValue91 Z (fun b45=>(Ad (cs':=wA0 x40 A41 c42) Z .u Z Z C2 Z Z Z Z (z8 ah Z (T.seq ?_))))))
    obtain⟨y48,h,hk49⟩:=CL h
    refine AK (fun e Rs=>e = [(0,jS a0),(4,.bool false),(7,.string (aC (a0++(gH [a1])))),(79,.bool y48)]∧Rs = [ay b45 91 (wA0 x40 A41 c42),RdR (an 3 bT) [.slice A41 x40.B6.length c42] x40.B6,ay b16 91 (wA0 x11 A12 c13),RdR (an 3 bT) [.slice A12 x11.B6.length c13] x11.B6,ay b9 5 #[.int .u8 a1],ay b6 91 (wA0 x1 A2 c3),RdR (an 3 bT) [.slice A2 x1.B6.length c3] x1.B6,aI]) ?_ ?_
    ·clear hk49
     refine T.region Z ?_
     rcases jF h with⟨c50,h⟩ | ⟨c50,h⟩
     ·refine zX ah 3 Z (z9 71 Z (cv (CP c50)) (Ac ah 2 Z (TL.q Z (.g Z Z Z) (Ex.sNe Z Z) Z ?_)))
      rcases jF h with⟨c51,h⟩ | ⟨c51,h⟩
      ·refine Ac ah 2 Z (z9 76 Z (cv (CP c51)) (Ac ah 3 Z ?_))
       rcases jF h with⟨c52,h⟩ | ⟨c52,h⟩
       ·cases h
        exact TL.nil (AS (d:=79) (v':= .bool false) Z (congrArg Value.bool (cv (CP c52))) (Ah [0,0,0,0,0,0,0,0]))
       cases h
       exact TL.nil (AS (d:=79) (v':= .bool true) Z (congrArg Value.bool (cE (CS c52))) (Ah [0,0,0,0,0,0,0,0]))
      refine Ac ah 2 Z (z9 76 Z (cE (CS c51)) (Ac ah 3 Z ?_))
      cases h
      exact TL.nil (Ah [0,0,0,0,0,0,0,0])
     refine zX ah 3 Z (z9 71 Z (cE (CS c50)) (Ac ah 8 Z ?_))
     cases h
     exact TL.nil (Ah [0,0,0,0,0,0,0,0])
    rintro _ _ ⟨rfl,rfl⟩
    clear h
    have h:=hk49
    clear hk49
    try dsimp only at h
    rcases jF h with⟨c53,h⟩ | ⟨c53,h⟩
    ·exact X.seq (Ae rfl c53 (nomatch h))
    replace c53:=CU c53
    refine X.seq (Ay Z c53 ?_)
    cases h
    exact T.skip (Ah [2,2,2,2,2,2])
   refine Bc Z c36 ?_
   cases h
   exact T.skip (Ah [0,0,0,0,0,0])
  rintro _ _ ⟨rfl,rfl⟩
  clear h
  have h:=hk35
  clear hk35
  try dsimp only at h
  refine X.seq (T.seq (zY Z ?_))
  obtain⟨⟨x54,x57⟩,hx58,h⟩:=CL h
  try dsimp only at h
  refine zX ah 1 Z (AY Z .u (.fn Tryz.call38 Z) (ik a0 _ hx58) rT Z ?_)
  rintro _ _ _ ⟨A55,c56,rfl,rfl,rfl⟩
  refine AD [0,0,0,0,0,0,0] Z (zX ah 3 Z (TL.alloc Z .u Tryz.zeroValue97 Z (fun b59=>(Ad (cs':=wA5 x54 A55 c56) Z .u Z Z C3 Z Z Z Z (Ai ah Z Z (z8 ah Z ?_))))))
  obtain⟨⟨⟩,h,hk78⟩:=CL h
  refine AK (fun e Rs=>e = [(0,jS a0),(4,.bool false),(7,.string (aC (a0++(gH [a1]))))]∧Rs = [ay b59 97 (wA5 x54 A55 c56),RdR (an 7 cn) [.slice A55 x54.B0.length c56] x54.B0,ay b16 91 (wA0 x11 A12 c13),RdR (an 3 bT) [.slice A12 x11.B6.length c13] x11.B6,ay b9 5 #[.int .u8 a1],ay b6 91 (wA0 x1 A2 c3),RdR (an 3 bT) [.slice A2 x1.B6.length c3] x1.B6,aI]) ?_ ?_
  ·clear hk78
   rcases jF h with⟨c79,h⟩ | ⟨c79,h⟩
   ·refine Bb Z c79 (zY Z (z4 Z (Ag (us:=wL6 x54 A55 c56) 0 Z Di C3 Z Z Z) Z ?_))
    obtain⟨⟨x80,x81⟩,hx82,h⟩:=CL h
    try dsimp only at h
    refine An Z .u (.fn Tryz.call39 Z) (ij x54 _ _ _ hx82) (fun _ hs=>(Bd 1 hs Z (fun w G h=>ga w G h))) Z (Ai ah Z Z ?_)
    obtain⟨⟨x83,x86⟩,hx87,h⟩:=CL h
    try dsimp only at h
    refine zX ah 1 Z (AY Z .u (.fn Tryz.call38 Z) (ik (a0++(gH [a1])) _ hx87) rT Z ?_)
    rintro _ _ _ ⟨A84,c85,rfl,rfl,rfl⟩
    refine AD [0,0,0,0,0,0,0,0,0] Z (zX ah 3 Z (TL.alloc Z .u Tryz.zeroValue97 Z (fun b88=>(Ad (cs':=wA5 x83 A84 c85) Z .u Z Z C3 Z Z Z Z (z8 ah Z (T.seq ?_))))))
    obtain⟨y91,h,hk92⟩:=CL h
    refine AK (fun e Rs=>e = [(0,jS a0),(4,.bool false),(7,.string (aC (a0++(gH [a1])))),(107,.bool y91)]∧Rs = [ay b88 97 (wA5 x83 A84 c85),RdR (an 7 cn) [.slice A84 x83.B0.length c85] x83.B0,ay b59 97 (wA5 x54 A55 c56),RdR (an 7 cn) [.slice A55 x54.B0.length c56] x54.B0,ay b16 91 (wA0 x11 A12 c13),RdR (an 3 bT) [.slice A12 x11.B6.length c13] x11.B6,ay b9 5 #[.int .u8 a1],ay b6 91 (wA0 x1 A2 c3),RdR (an 3 bT) [.slice A2 x1.B6.length c3] x1.B6,aI]) ?_ ?_
    ·clear hk92
     refine T.region Z ?_
     rcases jF h with⟨c93,h⟩ | ⟨c93,h⟩
     ·refine zX ah 3 Z (z9 99 Z (cv (CP c93)) (Ac ah 2 Z (TL.q Z (.g Z Z Z) (Ex.sNe Z Z) Z ?_)))
      rcases jF h with⟨c94,h⟩ | ⟨c94,h⟩
      ·refine Ac ah 2 Z (z9 104 Z (cv (CP c94)) (Ac ah 3 Z ?_))
       rcases jF h with⟨c95,h⟩ | ⟨c95,h⟩
       ·cases h
        exact TL.nil (AS (d:=107) (v':= .bool false) Z (congrArg Value.bool (cv (CP c95))) (Ah [0,0,0,0,0,0,0,0,0,0]))
       cases h
       exact TL.nil (AS (d:=107) (v':= .bool true) Z (congrArg Value.bool (cE (CS c95))) (Ah [0,0,0,0,0,0,0,0,0,0]))
      refine Ac ah 2 Z (z9 104 Z (cE (CS c94)) (Ac ah 3 Z ?_))
      cases h
      exact TL.nil (Ah [0,0,0,0,0,0,0,0,0,0])
     refine zX ah 3 Z (z9 99 Z (cE (CS c93)) (Ac ah 8 Z ?_))
     cases h
     exact TL.nil (Ah [0,0,0,0,0,0,0,0,0,0])
    rintro _ _ ⟨rfl,rfl⟩
    clear h
    have h:=hk92
    clear hk92
    try dsimp only at h
    rcases jF h with⟨c96,h⟩ | ⟨c96,h⟩
    ·exact X.seq (Ae rfl c96 (nomatch h))
    replace c96:=CU c96
    refine X.seq (Ay Z c96 ?_)
    cases h
    exact T.skip (Ah [2,2,2,2,2,2,2,2])
   refine Bc Z c79 ?_
   cases h
   exact T.skip (Ah [0,0,0,0,0,0,0,0])
  rintro _ _ ⟨rfl,rfl⟩
  clear h
  have h:=hk78
  clear hk78
  try dsimp only at h
  refine X.seq (T.seq (zY Z ?_))
  obtain⟨⟨x97,x98⟩,hx99,h⟩:=CL h
  try dsimp only at h
  refine zX ah 1 Z (An Z .u (.fn Tryz.call40 Z) (lL a0 _ hx99) rT Z (Ai ah Z Z (z8 ah Z ?_)))
  obtain⟨⟨⟩,h,hk115⟩:=CL h
  refine AK (fun e Rs=>e = [(0,jS a0),(4,.bool false),(7,.string (aC (a0++(gH [a1]))))]∧Rs = [ay b59 97 (wA5 x54 A55 c56),RdR (an 7 cn) [.slice A55 x54.B0.length c56] x54.B0,ay b16 91 (wA0 x11 A12 c13),RdR (an 3 bT) [.slice A12 x11.B6.length c13] x11.B6,ay b9 5 #[.int .u8 a1],ay b6 91 (wA0 x1 A2 c3),RdR (an 3 bT) [.slice A2 x1.B6.length c3] x1.B6,aI]) ?_ ?_
  ·clear hk115
   rcases jF h with⟨c116,h⟩ | ⟨c116,h⟩
   ·refine Bb Z c116 (zY Z ?_)
    obtain⟨⟨x117,x118⟩,hx119,h⟩:=CL h
    try dsimp only at h
    refine zX ah 1 Z (An Z .u (.fn Tryz.call41 Z) (p9 x97 _ hx119) rT Z (Ai ah Z Z ?_))
    obtain⟨⟨x120,x121⟩,hx122,h⟩:=CL h
    try dsimp only at h
    refine zX ah 1 Z (An Z .u (.fn Tryz.call40 Z) (lL (a0++(gH [a1])) _ hx122) rT Z (z8 ah Z (T.seq ?_)))
    obtain⟨y125,h,hk126⟩:=CL h
    refine AK (fun e Rs=>e = [(0,jS a0),(4,.bool false),(7,.string (aC (a0++(gH [a1])))),(135,.bool y125)]∧Rs = [ay b59 97 (wA5 x54 A55 c56),RdR (an 7 cn) [.slice A55 x54.B0.length c56] x54.B0,ay b16 91 (wA0 x11 A12 c13),RdR (an 3 bT) [.slice A12 x11.B6.length c13] x11.B6,ay b9 5 #[.int .u8 a1],ay b6 91 (wA0 x1 A2 c3),RdR (an 3 bT) [.slice A2 x1.B6.length c3] x1.B6,aI]) ?_ ?_
    ·clear hk126
     refine T.region Z ?_
     rcases jF h with⟨c127,h⟩ | ⟨c127,h⟩
     ·refine zX ah 3 Z (z9 127 Z (cv (CP c127)) (Ac ah 2 Z (TL.q Z (.g Z Z Z) (Ex.sNe Z Z) Z ?_)))
      rcases jF h with⟨c128,h⟩ | ⟨c128,h⟩
      ·refine Ac ah 2 Z (z9 132 Z (cv (CP c128)) (Ac ah 3 Z ?_))
       rcases jF h with⟨c129,h⟩ | ⟨c129,h⟩
       ·cases h
        exact TL.nil (AS (d:=135) (v':= .bool false) Z (congrArg Value.bool (cv (CP c129))) (Ah [0,0,0,0,0,0,0,0]))
       cases h
       exact TL.nil (AS (d:=135) (v':= .bool true) Z (congrArg Value.bool (cE (CS c129))) (Ah [0,0,0,0,0,0,0,0]))
      refine Ac ah 2 Z (z9 132 Z (cE (CS c128)) (Ac ah 3 Z ?_))
      cases h
      exact TL.nil (Ah [0,0,0,0,0,0,0,0])
     refine zX ah 3 Z (z9 127 Z (cE (CS c127)) (Ac ah 8 Z ?_))
     cases h
     exact TL.nil (Ah [0,0,0,0,0,0,0,0])
    rintro _ _ ⟨rfl,rfl⟩
    clear h
    have h:=hk126
    clear hk126
    try dsimp only at h
    rcases jF h with⟨c130,h⟩ | ⟨c130,h⟩
    ·exact X.seq (Ae rfl c130 (nomatch h))
    replace c130:=CU c130
    refine X.seq (Ay Z c130 ?_)
    cases h
    exact T.skip (Ah [0,0,0,0,0,0,0,0])
   refine Bc Z c116 ?_
   cases h
   exact T.skip (Ah [0,0,0,0,0,0,0,0])
  rintro _ _ ⟨rfl,rfl⟩
  clear h
  have h:=hk115
  clear hk115
  try dsimp only at h
  refine X.seq (T.seq (zY Z ?_))
  obtain⟨⟨x131,x134⟩,hx135,h⟩:=CL h
  try dsimp only at h
  refine zX ah 1 Z (AY Z .u (.fn Tryz.call42 Z) (il a0 _ hx135) rT Z ?_)
  rintro _ _ _ ⟨A132,c133,rfl,rfl,rfl⟩
  refine AD [0,0,0,0,0,0,0,0,0] Z (zX ah 3 Z (TL.alloc Z .u Tryz.zeroValue103 Z (fun b136=>(Ad (cs':=wA8 x131 A132 c133) Z .u Z Z Dg Z Z Z Z (Ai ah Z Z (z8 ah Z ?_))))))
  obtain⟨⟨⟩,h,hk155⟩:=CL h
  refine AK (fun e Rs=>e = [(0,jS a0),(4,.bool false),(7,.string (aC (a0++(gH [a1]))))]∧Rs = [ay b136 103 (wA8 x131 A132 c133),RdR (an 2 aX) [.slice A132 x131.BZ.length c133] x131.BZ,ay b59 97 (wA5 x54 A55 c56),RdR (an 7 cn) [.slice A55 x54.B0.length c56] x54.B0,ay b16 91 (wA0 x11 A12 c13),RdR (an 3 bT) [.slice A12 x11.B6.length c13] x11.B6,ay b9 5 #[.int .u8 a1],ay b6 91 (wA0 x1 A2 c3),RdR (an 3 bT) [.slice A2 x1.B6.length c3] x1.B6,aI]) ?_ ?_
  ·clear hk155
   rcases jF h with⟨c156,h⟩ | ⟨c156,h⟩
   ·refine Bb Z c156 (zY Z (z4 Z (Ag (us:=wL9 x131 A132 c133) 0 Z DA Dg Z Z Z) Z ?_))
    obtain⟨⟨x157,x158⟩,hx159,h⟩:=CL h
    try dsimp only at h
    refine An Z .u (.fn Tryz.call43 Z) (lv x131 _ _ _ hx159) (fun _ hs=>(Bd 1 hs Z (fun w G h=>ga w G h))) Z (Ai ah Z Z ?_)
    obtain⟨⟨x160,x163⟩,hx164,h⟩:=CL h
    try dsimp only at h
    refine zX ah 1 Z (AY Z .u (.fn Tryz.call42 Z) (il (a0++(gH [a1])) _ hx164) rT Z ?_)
    rintro _ _ _ ⟨A161,c162,rfl,rfl,rfl⟩
    refine AD [0,0,0,0,0,0,0,0,0,0,0] Z (zX ah 3 Z (TL.alloc Z .u Tryz.zeroValue103 Z (fun b165=>(Ad (cs':=wA8 x160 A161 c162) Z .u Z Z Dg Z Z Z Z (z8 ah Z (T.seq ?_))))))
    obtain⟨y168,h,hk169⟩:=CL h
    refine AK (fun e Rs=>e = [(0,jS a0),(4,.bool false),(7,.string (aC (a0++(gH [a1])))),(163,.bool y168)]∧Rs = [ay b165 103 (wA8 x160 A161 c162),RdR (an 2 aX) [.slice A161 x160.BZ.length c162] x160.BZ,ay b136 103 (wA8 x131 A132 c133),RdR (an 2 aX) [.slice A132 x131.BZ.length c133] x131.BZ,ay b59 97 (wA5 x54 A55 c56),RdR (an 7 cn) [.slice A55 x54.B0.length c56] x54.B0,ay b16 91 (wA0 x11 A12 c13),RdR (an 3 bT) [.slice A12 x11.B6.length c13] x11.B6,ay b9 5 #[.int .u8 a1],ay b6 91 (wA0 x1 A2 c3),RdR (an 3 bT) [.slice A2 x1.B6.length c3] x1.B6,aI]) ?_ ?_
    ·clear hk169
     refine T.region Z ?_
     rcases jF h with⟨c170,h⟩ | ⟨c170,h⟩
     ·refine zX ah 3 Z (z9 155 Z (cv (CP c170)) (Ac ah 2 Z (TL.q Z (.g Z Z Z) (Ex.sNe Z Z) Z ?_)))
      rcases jF h with⟨c171,h⟩ | ⟨c171,h⟩
      ·refine Ac ah 2 Z (z9 160 Z (cv (CP c171)) (Ac ah 3 Z ?_))
       rcases jF h with⟨c172,h⟩ | ⟨c172,h⟩
       ·cases h
        exact TL.nil (AS (d:=163) (v':= .bool false) Z (congrArg Value.bool (cv (CP c172))) (Ah [0,0,0,0,0,0,0,0,0,0,0,0]))
       cases h
       exact TL.nil (AS (d:=163) (v':= .bool true) Z (congrArg Value.bool (cE (CS c172))) (Ah [0,0,0,0,0,0,0,0,0,0,0,0]))
      refine Ac ah 2 Z (z9 160 Z (cE (CS c171)) (Ac ah 3 Z ?_))
      cases h
      exact TL.nil (Ah [0,0,0,0,0,0,0,0,0,0,0,0])
     refine zX ah 3 Z (z9 155 Z (cE (CS c170)) (Ac ah 8 Z ?_))
     cases h
     exact TL.nil (Ah [0,0,0,0,0,0,0,0,0,0,0,0])
    rintro _ _ ⟨rfl,rfl⟩
    clear h
    have h:=hk169
    clear hk169
    try dsimp only at h
    rcases jF h with⟨c173,h⟩ | ⟨c173,h⟩
    ·exact X.seq (Ae rfl c173 (nomatch h))
    replace c173:=CU c173
    refine X.seq (Ay Z c173 ?_)
    cases h
    exact T.skip (Ah [2,2,2,2,2,2,2,2,2,2])
   refine Bc Z c156 ?_
   cases h
   exact T.skip (Ah [0,0,0,0,0,0,0,0,0,0])
  rintro _ _ ⟨rfl,rfl⟩
  clear h
  have h:=hk155
  clear hk155
  try dsimp only at h
  refine X.seq (T.seq (zY Z ?_))
  obtain⟨⟨x174,x181⟩,hx182,h⟩:=CL h
  try dsimp only at h
  refine zX ah 1 Z (AY Z .u (.fn Tryz.call15 Z) (iq a0 _ hx182) rT Z ?_)
  rintro _ _ _ ⟨A175,c176,A177,c178,A179,c180,rfl,rfl,rfl⟩
  refine AD [0,0,0,0,0,0,0,0,0,0,0,0,0] Z (zX ah 3 Z (TL.alloc Z .u Tryz.zeroValue38 Z (fun b183=>(Ad (cs':=kh x174 A175 A177 A179 c176 c178 c180) Z .u Z Z C5 Z Z Z Z (Ai ah Z Z (z8 ah Z ?_))))))
  obtain⟨⟨⟩,h,hk206⟩:=CL h
  refine AK (fun e Rs=>e = [(4,.bool false)]∧Rs = [ay b183 38 (kh x174 A175 A177 A179 c176 c178 c180),RdR (an 2 aX) [.slice A175 x174.Cy.BZ.length c176] x174.Cy.BZ,RdR (an 5 aM) [.slice A177 x174.Cz.length c178] x174.Cz,RdR (an 2 aw) [.slice A179 x174.Cj.BZ.length c180] x174.Cj.BZ,ay b136 103 (wA8 x131 A132 c133),RdR (an 2 aX) [.slice A132 x131.BZ.length c133] x131.BZ,ay b59 97 (wA5 x54 A55 c56),RdR (an 7 cn) [.slice A55 x54.B0.length c56] x54.B0,ay b16 91 (wA0 x11 A12 c13),RdR (an 3 bT) [.slice A12 x11.B6.length c13] x11.B6,ay b9 5 #[.int .u8 a1],ay b6 91 (wA0 x1 A2 c3),RdR (an 3 bT) [.slice A2 x1.B6.length c3] x1.B6,aI]) ?_ ?_
  ·clear hk206
   rcases jF h with⟨c207,h⟩ | ⟨c207,h⟩
   ·refine Bb Z c207 (zY Z (z4 Z (Ag (us:=wL23 x174 A175 A177 A179 c176 c178 c180) 0 Z Dk C5 Z Z Z) Z ?_))
    obtain⟨⟨x208,x209⟩,hx210,h⟩:=CL h
    try dsimp only at h
    refine An Z .u (.fn Tryz.call12 Z) (lE x174 _ _ _ _ _ _ _ hx210) (fun _ hs=>(Bw (Bd 1 hs Z (fun w G h=>ga w G h)) (Bw (Bd 2 hs Z (fun w G h=>ga w G h)) (Bd 3 hs Z (fun w G h=>ga w G h))))) Z (Ai ah Z Z ?_)
    obtain⟨⟨x211,x218⟩,hx219,h⟩:=CL h
    try dsimp only at h
    refine zX ah 1 Z (AY Z .u (.fn Tryz.call15 Z) (iq (a0++(gH [a1])) _ hx219) rT Z ?_)
    rintro _ _ _ ⟨A212,c213,A214,c215,A216,c217,rfl,rfl,rfl⟩
    refine AD [0,0,0,0,0,0,0,0,0,0,0,0,0,0,0,0,0] Z (zX ah 3 Z (TL.alloc Z .u Tryz.zeroValue38 Z (fun b220=>(Ad (cs':=kh x211 A212 A214 A216 c213 c215 c217) Z .u Z Z C5 Z Z Z Z (z8 ah Z (T.seq ?_))))))
    obtain⟨y223,h,hk224⟩:=CL h
    refine AK (fun e Rs=>e = [(4,.bool false),(191,.bool y223)]∧Rs = [ay b220 38 (kh x211 A212 A214 A216 c213 c215 c217),RdR (an 2 aX) [.slice A212 x211.Cy.BZ.length c213] x211.Cy.BZ,RdR (an 5 aM) [.slice A214 x211.Cz.length c215] x211.Cz,RdR (an 2 aw) [.slice A216 x211.Cj.BZ.length c217] x211.Cj.BZ,ay b183 38 (kh x174 A175 A177 A179 c176 c178 c180),RdR (an 2 aX) [.slice A175 x174.Cy.BZ.length c176] x174.Cy.BZ,RdR (an 5 aM) [.slice A177 x174.Cz.length c178] x174.Cz,RdR (an 2 aw) [.slice A179 x174.Cj.BZ.length c180] x174.Cj.BZ,ay b136 103 (wA8 x131 A132 c133),RdR (an 2 aX) [.slice A132 x131.BZ.length c133] x131.BZ,ay b59 97 (wA5 x54 A55 c56),RdR (an 7 cn) [.slice A55 x54.B0.length c56] x54.B0,ay b16 91 (wA0 x11 A12 c13),RdR (an 3 bT) [.slice A12 x11.B6.length c13] x11.B6,ay b9 5 #[.int .u8 a1],ay b6 91 (wA0 x1 A2 c3),RdR (an 3 bT) [.slice A2 x1.B6.length c3] x1.B6,aI]) ?_ ?_
    ·clear hk224
     refine T.region Z ?_
     rcases jF h with⟨c225,h⟩ | ⟨c225,h⟩
     ·refine zX ah 3 Z (z9 183 Z (cv (CP c225)) (Ac ah 2 Z (TL.q Z (.g Z Z Z) (Ex.sNe Z Z) Z ?_)))
      rcases jF h with⟨c226,h⟩ | ⟨c226,h⟩
      ·refine Ac ah 2 Z (z9 188 Z (cv (CP c226)) (Ac ah 3 Z ?_))
       rcases jF h with⟨c227,h⟩ | ⟨c227,h⟩
       ·cases h
        exact TL.nil (AS (d:=191) (v':= .bool false) Z (congrArg Value.bool (cv (CP c227))) (Ah [0,0,0,0,0,0,0,0,0,0,0,0,0,0,0,0,0,0]))
       cases h
       exact TL.nil (AS (d:=191) (v':= .bool true) Z (congrArg Value.bool (cE (CS c227))) (Ah [0,0,0,0,0,0,0,0,0,0,0,0,0,0,0,0,0,0]))
      refine Ac ah 2 Z (z9 188 Z (cE (CS c226)) (Ac ah 3 Z ?_))
      cases h
      exact TL.nil (Ah [0,0,0,0,0,0,0,0,0,0,0,0,0,0,0,0,0,0])
     refine zX ah 3 Z (z9 183 Z (cE (CS c225)) (Ac ah 8 Z ?_))
     cases h
     exact TL.nil (Ah [0,0,0,0,0,0,0,0,0,0,0,0,0,0,0,0,0,0])
    rintro _ _ ⟨rfl,rfl⟩
    clear h
    have h:=hk224
    clear hk224
    try dsimp only at h
    rcases jF h with⟨c228,h⟩ | ⟨c228,h⟩
    ·exact X.seq (Ae rfl c228 (nomatch h))
    replace c228:=CU c228
    refine X.seq (Ay Z c228 ?_)
    cases h
    exact T.skip (Ah [4,4,4,4,4,4,4,4,4,4,4,4,4,4])
   refine Bc Z c207 ?_
   cases h
   exact T.skip (Ah [0,0,0,0,0,0,0,0,0,0,0,0,0,0])
  rintro _ _ ⟨rfl,rfl⟩
  clear h
  have h:=hk206
  clear hk206
  try dsimp only at h
  refine X.seq (zY Z (zX ah 1 Z ?_))
  obtain rfl:=CN h
  exact zZ (T.ret (Af [13] Tryz.results9 (z5 Z)))
 exact At rfl c7 (nomatch h)
abbrev Pr (α:Type):=List UInt8→Nat→Except Int (α×Nat)
namespace Pr
variable {α β:Type}
def ret (a:α):Pr α:=fun _ q=> .ok (a,q)
def err (e:Int):Pr α:=fun _ _=> .error e
def bind (p:Pr α) (f:α→Pr β):Pr β:=fun s q=>match p s q with | .error e=> .error e | .ok (a,r)=>f a s r
theorem bind_ok {p:Pr α} {f:α→Pr β} {s:List UInt8} {q:Nat} {x:β×Nat} (h:p.bind f s q= .ok x): ∃ a r,p s q= .ok (a,r)∧f a s r= .ok x:=by
 unfold bind at h
 cases hp:p s q with
 | error e=>rw[hp] at h; exact nomatch h
 | ok y=>rw[hp] at h; exact⟨_,_,rfl,h⟩
theorem bind_of {p:Pr α} {f:α→Pr β} {s:List UInt8} {q r:Nat} {a:α} (h:p s q= .ok (a,r)):p.bind f s q=f a s r:=by unfold bind; rw[h]
theorem bind_err {p:Pr α} {f:α→Pr β} {s:List UInt8} {q:Nat} {e:Int} (h:p s q= .error e):p.bind f s q= .error e:=by unfold bind; rw[h]
end Pr
structure CR {α:Type} (op:I→Option (α×I)) (p:Pr α) (z:α):Prop where
 dead: ∀ st:I,st.err≠0→op st=some (z,st)
 bad: ∀ (s:List UInt8) (q:Nat) (e:Int),q≤s.length→p s q= .error e→ ∃ st:I,op ⟨s.drop q,q,0⟩=some (z,st)∧st.err=e∧e≠0
 good: ∀ (s:List UInt8) (q:Nat) (a:α) (r:Nat),q≤s.length→p s q= .ok (a,r)→op ⟨s.drop q,q,0⟩=some (a,⟨s.drop r,r,0⟩)
structure Sp {α:Type} (p:Pr α) (enc:α→List UInt8) (ok:α→Prop):Prop where
 spell: ∀ (s:List UInt8) (q:Nat) (a:α) (r:Nat),q≤s.length→p s q= .ok (a,r)→q≤r∧r≤s.length∧r=q+(enc a).length∧s.take r=s.take q++enc a∧ok a
 back: ∀ (s t:List UInt8) (q:Nat) (a:α),q≤s.length→ok a→s.drop q=enc a++t→p s q= .ok (a,q+(enc a).length)
theorem aY {s x t:List UInt8} {q:Nat} (h:s.drop q=x++t):s.drop (q+x.length)=t:=by rw[← DB,h,List.drop_left]
theorem jL (s:List UInt8) (q k:Nat):s.take (q+k)=s.take q++(s.drop q).take k:=List.take_add
theorem wg (q:Int) (c:UInt8) (k:Nat):be (q*256+c.toNat) (k+1)=be q k ++ [c]:=by
 have hc:=c.toNat_lt
 unfold be
 rw[List.range_succ,List.map_append]
 congr 1
 ·apply List.map_congr_left
  intro i hi
  have hi:=List.mem_range.1 hi
  have e:k+1 - 1 - i=(k - 1 - i)+1:=by omega
  have e2:(q*256+(c.toNat:Int)) / 256=q:=by omega
  rw[e,show 8*(k - 1 - i+1)=8+8*(k - 1 - i) by omega,Int.pow_add,← Int.ediv_ediv_of_nonneg (by decide),show (2 ^ 8:Int)=256 from rfl,e2]
 ·simp only[List.map_cons,List.map_nil,Nat.add_sub_cancel,Nat.sub_self,Nat.mul_zero,Int.pow_zero,Int.ediv_one]
  congr 1
  apply UInt8.toNat_inj.1
  simp[UInt8.toNat_ofNat']
  omega
theorem wh (cs:List UInt8): ∀ (q:Int) (k:Nat),be (cs.foldl (fun n d=>n*256+(d.toNat:Int)) q) (k+cs.length)=be q k++cs:=by
 induction cs with
 | nil=>intro q k; simp
 | cons c cs ih =>
  intro q k
  have h:=ih (q*256+c.toNat) (k+1)
  rw[wg] at h
  rw[List.foldl_cons,C9,show k+(cs.length+1)=k+1+cs.length by omega,h]
  simp
theorem xu (c:UInt8):be (sgn c) 1 = [c]:=by
 have hc:=c.toNat_lt
 unfold be
 simp only[List.range_one,List.map_cons,List.map_nil,Nat.sub_self,Nat.mul_zero,Int.pow_zero,Int.ediv_one]
 congr 1
 apply UInt8.toNat_inj.1
 unfold sgn
 simp[UInt8.toNat_ofNat']
 split <;> omega
theorem uk (l:List UInt8) (h:l ≠ []):be (dQ l) l.length=l:=by
 cases l with
 | nil=>exact absurd rfl h
 | cons c cs =>
  have h:=wh cs (sgn c) 1
  rw[xu] at h
  rw[C9,Nat.add_comm]
  exact h
def cM (k:Nat):Pr Int:=fun s q=>if s.length<q+k then .error 1 else .ok (dQ ((s.drop q).take k),q+k)
theorem xv (k:Nat) (h1:1≤k) (h8:k≤8) (kk:Int) (hk:kk=(k:Int)):CR (fun st=>bW st kk) (cM k) 0:=by
 subst hk
 refine⟨fun st h=> ?_,fun s q e hq h=> ?_,fun s q a r hq h=> ?_⟩
 ·rw[fA,jy h]
 ·unfold cM at h
  split at h
  ·rename_i hl
   injection h with h
   subst h
   refine⟨⟨s.drop q,q,1⟩,?_,rfl,by decide⟩
   simp only[fA]
   rw[lT _ _ _ (by omega) (by omega) (by rw[C1]; omega)]
  ·exact nomatch h
 ·unfold cM at h
  split at h
  ·exact nomatch h
  ·rename_i hl
   injection h with h
   obtain⟨rfl,rfl⟩:=C6 h
   simp only[fA]
   rw[ru _ _ _ h1 h8 (by rw[C1]; omega),DB]
theorem bB (k:Nat) (h1:1≤k) (h8:k≤8):Sp (cM k) (fun n=>be n k) (fun n=>aN n k=true):=by
 refine⟨fun s q a r hq h=> ?_,fun s t q a hq ha h=> ?_⟩
 ·unfold cM at h
  split at h
  ·exact nomatch h
  ·rename_i hl
   injection h with h
   obtain⟨rfl,rfl⟩:=C6 h
   have hn:((s.drop q).take k).length=k:=by rw[Dz,C1]; omega
   have hne:(s.drop q).take k ≠ []:=fun h0=>by rw[h0] at hn; simp at hn; omega
   have hb:be (dQ ((s.drop q).take k)) k=(s.drop q).take k:=by
    have:=uk _ hne
    rwa [hn] at this
   refine⟨by omega,by omega,by rw[al],by rw[hb,jL],?_⟩
   rw[← yW _ _ h1 h8,hb]
 ·have hl:=congrArg List.length h
  rw[C1,CO,al] at hl
  unfold cM
  rw[if_neg (by omega),h,List.take_append_of_le_length (by rw[al]; omega),List.take_of_length_le (by rw[al]; omega),al,sv _ _ h1 h8 ha]
def sV (n:Int):Pr Bl:=fun s q=>if n= -1 then .ok (⟨true,[]⟩,q) else if n<0 then .error 4 else if (s.length:Int)<q+n then .error 1 else .ok (⟨false,(s.drop q).take n.toNat⟩,q+n.toNat)
theorem mb (n:Int) (s:List UInt8) (q:Nat) (hq:q≤s.length) :
 (∃ e st,sV n s q= .error e∧ic ⟨s.drop q,q,0⟩ n=(⟨false,[]⟩,st)∧st.err=e∧e≠0)∨(∃ b r,sV n s q= .ok (b,r)∧ic ⟨s.drop q,q,0⟩ n=(b,⟨s.drop r,r,0⟩)∧q≤r∧r≤s.length∧de b=n∧aT b=true∧s.take r=s.take q++b.data∧r=q+b.data.length):=by
 have hd:(s.drop q).length=s.length - q:=C1
 unfold sV ic
 rw[if_neg (show ¬ ((⟨s.drop q,q,0⟩:I).err≠0) by simp)]
 by_cases h1:n= -1
 ·rw[if_pos h1,if_pos h1]
  exact .inr ⟨_,_,rfl,rfl,Dc _,hq,h1.symm,rfl,by simp,rfl⟩
 rw[if_neg h1,if_neg h1]
 by_cases h2:n<0
 ·rw[if_pos h2,vR _ _ _ h2]
  exact .inl ⟨_,_,rfl,rfl,rfl,by decide⟩
 rw[if_neg h2]
 by_cases h3:(s.length:Int)<q+n
 ·rw[if_pos h3,nS _ _ _ (by omega)]
  exact .inl ⟨_,_,rfl,rfl,rfl,by decide⟩
 rw[if_neg h3]
 obtain⟨m,rfl⟩: ∃ m:Nat,n=(m:Int):=⟨n.toNat,by omega⟩
 rw[Dx,sB _ _ _ (by omega),DB]
 have hl:((s.drop q).take m).length=m:=by rw[Dz]; omega
 exact .inr ⟨_,_,rfl,rfl,by omega,by omega,by unfold de; simp only[Bool.false_eq_true,if_false]; rw[hl],rfl,jL s q m,by rw[hl]⟩
def jl (k:Nat):Pr Bl:=(cM k).bind sV
theorem xw {lenop:I→Int×I} {p:Pr Int} (hl:CR (fun st=>some (lenop st)) p 0) (hs: ∀ s q a r,q≤s.length→p s q= .ok (a,r)→r≤s.length):CR (fun st=>some (ic (lenop st).2 (lenop st).1)) (p.bind sV) (⟨false,[]⟩:Bl):=by
 refine⟨fun st h=> ?_,fun s q e hq h=> ?_,fun s q a r hq h=> ?_⟩
 ·have h0:=CN (hl.dead st h)
  rw[h0,nl h]
 ·cases hp:p s q with
  | error e' =>
   rw[Pr.bind_err hp] at h
   injection h with h
   subst h
   obtain⟨st,h1,h2,h3⟩:=hl.bad s q e' hq hp
   have h0:=CN h1
   rw[h0,nl (by simp only[h2]; exact h3)]
   exact⟨st,rfl,h2,h3⟩
  | ok x =>
   obtain⟨n,m⟩:=x
   rw[Pr.bind_of hp] at h
   have h0:=CN (hl.good s q n m hq hp)
   rw[h0]
   rcases mb n s m (hs _ _ _ _ hq hp) with⟨e',st,g1,g2,g3,g4⟩ | ⟨b,r,g1,g2,_⟩
   ·rw[g1] at h
    injection h with h
    subst h
    exact⟨st,by rw[g2],g3,g4⟩
   ·rw[g1] at h
    exact nomatch h
 ·obtain⟨n,m,hp,h⟩:=Pr.bind_ok h
  have h0:=CN (hl.good s q n m hq hp)
  rw[h0]
  rcases mb n s m (hs _ _ _ _ hq hp) with⟨e',st,g1,g2,g3,g4⟩ | ⟨b,r',g1,g2,_⟩
  ·rw[g1] at h
   exact nomatch h
  ·rw[g1] at h
   injection h with h
   obtain⟨rfl,rfl⟩:=C6 h
   rw[g2]
theorem xx {p:Pr Int} {enc:Int→List UInt8} {ok:Int→Prop} (hp:Sp p enc ok):Sp (p.bind sV) (fun b=>enc (de b)++b.data) (fun b=>ok (de b)∧aT b=true):=by
 refine⟨fun s q a r hq h=> ?_,fun s t q a hq ha h=> ?_⟩
 ·obtain⟨n,m,h1,h⟩:=Pr.bind_ok h
  obtain⟨a1,a2,a3,a4,a5⟩:=hp.spell _ _ _ _ hq h1
  rcases mb n s m a2 with⟨e',st,g1,g2,g3,g4⟩ | ⟨b,r',g1,g2,b1,b2,b3,b4,b5,b6⟩
  ·rw[g1] at h
   exact nomatch h
  ·rw[g1] at h
   injection h with h
   obtain⟨rfl,rfl⟩:=C6 h
   refine⟨by omega,b2,by rw[CO,b3]; omega,by rw[b5,a4,b3,CV],by rw[b3]; exact a5,b4⟩
 ·rw[CV] at h
  have h1:=hp.back s _ q _ hq ha.1 h
  rw[Pr.bind_of h1,CO,← Nat.add_assoc]
  have h2:=aY h
  have hl:=congrArg List.length h
  rw[C1,CO,CO] at hl
  generalize (enc (de a)).length=m at h2 hl ⊢
  obtain⟨nu,d⟩:=a
  unfold sV de
  cases nu with
  | true =>
   have:d = []:=by have:=ha.2; unfold aT at this; simpa using this
   subst this
   rw[if_pos rfl,if_pos rfl]
   rfl
  | false =>
   simp only[Bool.false_eq_true,if_false]
   simp only at h2 hl
   rw[if_neg (by omega),if_neg (by omega),h2,if_neg (by omega),Dx,List.take_left]
theorem pb (k:Nat) (h1:1≤k) (h8:k≤8) (kk:Int) (hk:kk=(k:Int)):CR (fun st=>gG st kk) (jl k) (⟨false,[]⟩:Bl) :=
 xw (lenop:=fun st=>bX st kk) (xv k h1 h8 kk hk) (fun s q a r hq h=>((bB k h1 h8).spell s q a r hq h).2.1)
theorem eW (k:Nat) (h1:1≤k) (h8:k≤8):Sp (jl k) (fun b=>be (de b) k++b.data) (fun b=>aN (de b) k=true∧aT b=true):=xx (bB k h1 h8)
theorem jd (bs:Int) (a:Nat): ∀ (l:List UInt8) (b acc i:Nat),vgo bs l (a+b) acc i=((vgo bs l b acc i).1,⟨(vgo bs l b acc i).2.rest,a+(vgo bs l b acc i).2.pos,(vgo bs l b acc i).2.err⟩)
 | [],b,acc,i=>rfl
 | c::l,b,acc,i=>by
  have ih:=jd bs a l (b+1) (acc+c.toNat % 128*2 ^ (7*i)) (i+1)
  unfold vgo
  split
  ·rfl
  ·split
   ·rw[Nat.add_assoc,ih]
   ·split
    ·rfl
    ·rfl
theorem pc (bs:Int): ∀ (l:List UInt8) (b acc i:Nat),(vgo bs l b acc i).2.err≠0→(vgo bs l b acc i).1=0
 | [],b,acc,i,h=>rfl
 | c::l,b,acc,i,h=>by
  have ih:=pc bs l (b+1) (acc+c.toNat % 128*2 ^ (7*i)) (i+1)
  revert h
  unfold vgo
  split
  ·exact fun _=>rfl
  ·split
   ·exact ih
   ·split
    ·exact fun _=>rfl
    ·exact fun h=>absurd rfl h
def mR (bs:Int):Pr Nat:=fun s q=>if (vgo bs (s.drop q) 0 0 0).2.err=0 then .ok ((vgo bs (s.drop q) 0 0 0).1,q+(vgo bs (s.drop q) 0 0 0).2.pos) else .error (vgo bs (s.drop q) 0 0 0).2.err
theorem qJ {bs:Int} {s:List UInt8} {q n r:Nat} (hq:q≤s.length) (h:mR bs s q= .ok (n,r)):dn bs ⟨s.drop q,q,0⟩=(n,⟨s.drop r,r,0⟩)∧q≤r∧r≤s.length∧r=q+(cg n).length∧s.take r=s.take q++cg n:=by
 have hd:(s.drop q).length=s.length - q:=C1
 unfold mR at h
 split at h
 ·rename_i he
  injection h with h
  obtain⟨h1,h2⟩:=C6 h
  obtain⟨k,v,g1,g2,g3,g4,_⟩:=vgo_ok bs (s.drop q) 0 0 0 _ _ (rfl: _=((vgo bs (s.drop q) 0 0 0).1,(vgo bs (s.drop q) 0 0 0).2)) he
  have g3':(vgo bs (s.drop q) 0 0 0).1=v:=by rw[g3]; simp
  rw[g3'] at h1
  subst h1
  rw[g1] at h2
  simp only[Nat.zero_add] at h2
  have hlk:(cg v).length=k:=by rw[g4,Dz]; omega
  refine⟨?_,by omega,by omega,by omega,?_⟩
  ·unfold dn
   rw[if_neg (by simp)]
   have:=jd bs q (s.drop q) 0 0 0
   rw[Nat.add_zero] at this
   simp only
   rw[this,g3',g1,← h2,DB]
   simp
  ·rw[← h2,jL,g4]
 ·exact nomatch h
theorem xy {bs:Int} {s:List UInt8} {q:Nat} {e:Int} (h:mR bs s q= .error e): ∃ st,dn bs ⟨s.drop q,q,0⟩=(0,st)∧st.err=e∧e≠0:=by
 unfold mR at h
 split at h
 ·exact nomatch h
 ·rename_i he
  injection h with h
  subst h
  have h0:=pc bs (s.drop q) 0 0 0 he
  refine⟨(dn bs ⟨s.drop q,q,0⟩).2,?_,?_,he⟩
  ·unfold dn
   rw[if_neg (by simp)]
   have:=jd bs q (s.drop q) 0 0 0
   rw[Nat.add_zero] at this
   simp only
   rw[this,h0]
  ·unfold dn
   rw[if_neg (by simp)]
   have:=jd bs q (s.drop q) 0 0 0
   rw[Nat.add_zero] at this
   simp only
   rw[this]
theorem ul {bs:Int} {st:I} (h:st.err≠0):dn bs st=(0,st):=if_pos h
theorem sW (bs:Int) (hb:bs=32∨bs=64): ∀ (l:List UInt8) (b acc i:Nat),acc<2 ^ (7*i)→(vgo bs l b acc i).2.err=0→(vgo bs l b acc i).1<2 ^ bs.toNat
 | [],b,acc,i,ha,h=>by simp[vgo] at h
 | c::l,b,acc,i,ha,h=>by
  have ih:=sW bs hb l (b+1) (acc+c.toNat % 128*2 ^ (7*i)) (i+1)
  revert h
  unfold vgo
  split
  ·exact fun h=>absurd h (by simp)
  ·rename_i hc
   obtain⟨h1,h2⟩:=ms bs hb acc (c.toNat % 128) i ha (by omega) (Nat.mod_lt _ (by decide)) (fun h=>hc (.inr h))
   split
   ·exact ih h1
   ·split
    ·exact fun h=>absurd h (by simp)
    ·exact fun _=>h2
theorem vb (bs:Int) (hb:bs=32∨bs=64):Sp (mR bs) cg (fun n=>n<2 ^ bs.toNat):=by
 refine⟨fun s q a r hq h=> ?_,fun s t q a hq ha h=> ?_⟩
 ·obtain⟨h1,h2,h3,h4,h5⟩:=qJ hq h
  refine⟨h2,h3,h4,h5,?_⟩
  unfold mR at h
  split at h
  ·rename_i he
   injection h with h
   rw[← (C6 h).1]
   exact sW bs hb _ _ _ _ (by simp) he
  ·exact nomatch h
 ·unfold mR
  rw[h,y9 bs (by omega) a 0 0 0 t (by simpa using ha) (by omega)]
  simp
def kI (bs:Int):Pr Int:=(mR bs).bind fun n=> .ret (jw n)
theorem rL (bs:Int) (hb:bs=32∨bs=64):CR (fun st=>some (dY (dn bs st))) (kI bs) 0:=by
 refine⟨fun st h=> ?_,fun s q e hq h=> ?_,fun s q a r hq h=> ?_⟩
 ·rw[ul h]
  simp[dY,jw]
 ·cases hp:mR bs s q with
  | error e' =>
   rw[kI,Pr.bind_err hp] at h
   injection h with h
   subst h
   obtain⟨st,h1,h2,h3⟩:=xy hp
   exact⟨st,by rw[h1]; simp[dY,jw],h2,h3⟩
  | ok x =>
   rw[kI,Pr.bind_of (a:=x.1) (r:=x.2) hp] at h
   exact nomatch h
 ·obtain⟨n,m,hp,h⟩:=Pr.bind_ok h
  injection h with h
  obtain⟨rfl,rfl⟩:=C6 h
  rw[(qJ hq hp).1]
  rfl
theorem gW (bs:Int) (hb:bs=32∨bs=64):Sp (kI bs) (fun n=>cg (aS n)) (fun n=>aS n<2 ^ bs.toNat):=by
 refine⟨fun s q a r hq h=> ?_,fun s t q a hq ha h=> ?_⟩
 ·obtain⟨n,m,hp,h⟩:=Pr.bind_ok h
  injection h with h
  obtain⟨rfl,rfl⟩:=C6 h
  have:=(vb bs hb).spell _ _ _ _ hq hp
  rwa [tO]
 ·rw[kI,Pr.bind_of ((vb bs hb).back s t q _ hq ha h)]
  simp only[Pr.ret,tN]
def je:Pr Bl:=(kI 32).bind sV
theorem qK:CR bQ je (⟨false,[]⟩:Bl) :=
 xw (lenop:=fun st=>dY (dn 32 st)) (rL 32 (.inl rfl)) (fun s q a r hq h=>((gW 32 (.inl rfl)).spell s q a r hq h).2.1)
theorem fX:Sp je (fun b=>cg (aS (de b))++b.data) (fun b=>aS (de b)<2 ^ (32:Int).toNat∧aT b=true):=xx (gW 32 (.inl rfl))
def kJ (p:Pr Bl):Pr (List UInt8):=p.bind fun b=>if b.null then .err 4 else .ret b.data
theorem vc {op:I→Bl×I} {p:Pr Bl} (h:CR (fun st=>some (op st)) p (⟨false,[]⟩:Bl)) (hb: ∀ s q a r,q≤s.length→p s q= .ok (a,r)→aT a=true):CR (fun st=>some (oF (op st))) (kJ p) []:=by
 refine⟨fun st hs=> ?_,fun s q e hq he=> ?_,fun s q a r hq hg=> ?_⟩
 ·have h0:=CN (h.dead st hs)
  rw[h0]
  rfl
 ·cases hp:p s q with
  | error e' =>
   rw[kJ,Pr.bind_err hp] at he
   injection he with he
   subst he
   obtain⟨st,h1,h2,h3⟩:=h.bad s q _ hq hp
   have h0:=CN h1
   rw[h0]
   exact⟨st,rfl,h2,h3⟩
  | ok x =>
   obtain⟨b,r⟩:=x
   rw[kJ,Pr.bind_of hp] at he
   have h0:=CN (h.good s q b r hq hp)
   rw[h0]
   have hbr:=hb _ _ _ _ hq hp
   split at he
   ·rename_i hn
    injection he with he
    subst he
    have:b.data = []:=by unfold aT at hbr; rw[hn] at hbr; simpa using hbr
    refine⟨⟨s.drop r,r,4⟩,?_,rfl,by decide⟩
    unfold oF
    simp only[hn,if_true,this]
    rfl
   ·exact nomatch he
 ·obtain⟨b,m,hp,hg⟩:=Pr.bind_ok hg
  have h0:=CN (h.good s q b m hq hp)
  rw[h0]
  split at hg
  ·exact nomatch hg
  ·rename_i hn
   injection hg with hg
   obtain⟨rfl,rfl⟩:=C6 hg
   unfold oF
   simp only[hn,Bool.false_eq_true,if_false]
theorem rM {p:Pr Bl} {enc:Bl→List UInt8} {ok:Bl→Prop} (hp:Sp p enc ok):Sp (kJ p) (fun d=>enc ⟨false,d⟩) (fun d=>ok ⟨false,d⟩):=by
 refine⟨fun s q a r hq h=> ?_,fun s t q a hq ha h=> ?_⟩
 ·obtain⟨b,m,h1,h⟩:=Pr.bind_ok h
  have h2:=hp.spell _ _ _ _ hq h1
  split at h
  ·exact nomatch h
  ·rename_i hn
   injection h with h
   obtain⟨rfl,rfl⟩:=C6 h
   obtain⟨nu,d⟩:=b
   simp only[Bool.not_eq_true] at hn
   subst hn
   exact h2
 ·rw[kJ,Pr.bind_of (hp.back s t q _ hq ha h)]
  rfl
def nW:Pr (List UInt8):=kJ (jl 2)
def qL:Pr (List UInt8):=kJ je
theorem zi:CR lK nW []:=vc (op:=fun st=>fH st 2) (pb 2 (by decide) (by decide) 2 rfl) (fun s q a r hq h=>((eW 2 (by decide) (by decide)).spell s q a r hq h).2.2.2.2.2)
theorem gX:Sp nW (fun d=>be (d.length:Int) 2++d) (fun d=>aN (d.length:Int) 2=true∧aT ⟨false,d⟩=true):=rM (eW 2 (by decide) (by decide))
theorem zj:CR oO qL []:=vc (op:=fe) qK (fun s q a r hq h=>(fX.spell s q a r hq h).2.2.2.2.2)
theorem le:Sp qL (fun d=>cg (aS (d.length:Int))++d) (fun d=>aS (d.length:Int)<2 ^ (32:Int).toNat∧aT ⟨false,d⟩=true):=rM fX
theorem gL (t l:List UInt8):fh (t,0) l=(t++l,0):=rfl
theorem vd (t:List UInt8) (e:Int):gY (t,0) e=(t,e):=rfl
theorem bE {n k:Int} (h:aN n k=true): -9223372036854775808≤n∧n≤9223372036854775807:=by
 unfold aN at h
 simp only[Bool.and_eq_true,decide_eq_true_eq] at h
 obtain⟨⟨⟨h1,h2⟩,h3⟩,h4⟩:=h
 have:(2:Nat) ^ (8*k.toNat - 1)≤2 ^ 63:=Nat.pow_le_pow_right (by decide) (by omega)
 have h5:((2:Int) ^ (8*k.toNat - 1))=((2 ^ (8*k.toNat - 1):Nat):Int):=by simp
 have h6:(2:Nat) ^ 63=9223372036854775808:=by decide
 omega
theorem bR {t:List UInt8} {n k:Int} (hf:aN n k=true) (ht:t.length≤140737488355320):bY (t,0) n k=some (t++be n k.toNat,0):=by
 rw[wY _ _ _ ⟨bE hf,by simp only; omega⟩]
 unfold mp
 rw[if_pos hf,gL]
theorem fY {t:List UInt8} {b:Bl} {k:Int} (hf:aN (de b) k=true) (hb:aT b=true) (ht:t.length+b.data.length≤140737488355320):fU (t,0) b k=some (t++(be (de b) k.toNat++b.data),0):=by
 have h8:1≤k∧k≤8:=by unfold aN at hf; simp only[Bool.and_eq_true,decide_eq_true_eq] at hf; exact⟨hf.1.1.1,hf.1.1.2⟩
 rw[jW _ _ _ ⟨by omega,by simp only; omega⟩]
 unfold iA ji mp
 rw[if_pos hb,if_pos hf,gL,gL,CV]
theorem iy {t:List UInt8} {b:Bl} (hb:aT b=true) (hl:b.data.length≤2147483647) (ht:t.length+b.data.length≤140737488355310):fR (t,0) b=some (t++(cg (aS (de b))++b.data),0):=by
 rw[lI _ _ (by simp only; omega)]
 unfold iI ji fx
 rw[if_pos hb,if_pos (by unfold de; split <;> omega),gL,gL,CV]
structure CQ {α:Type} (op:I→Option (α×I)) (p:Pr α) (z:α):Prop where
 dead: ∀ st:I,st.err≠0→op st=some (z,st)
 run: ∀ (s:List UInt8) (q:Nat),q≤s.length→(∃ (e:Int) (st:I),p s q= .error e∧op ⟨s.drop q,q,0⟩=some (z,st)∧st.err=e∧st.err≠0)∨(∃ (a:α) (r:Nat),p s q= .ok (a,r)∧op ⟨s.drop q,q,0⟩=some (a,⟨s.drop r,r,0⟩)∧q≤r∧r≤s.length)
theorem CR.cq {α:Type} {op:I→Option (α×I)} {p:Pr α} {z:α} {enc:α→List UInt8} {ok:α→Prop} (h:CR op p z) (hs:Sp p enc ok):CQ op p z:=by
 refine⟨h.dead,fun s q hq=> ?_⟩
 cases hp:p s q with
 | error e =>
  obtain⟨st,h1,h2,h3⟩:=h.bad s q e hq hp
  exact .inl ⟨e,st,rfl,h1,h2,by rw[h2]; exact h3⟩
 | ok x =>
  have:=hs.spell s q x.1 x.2 hq hp
  exact .inr ⟨x.1,x.2,rfl,h.good s q x.1 x.2 hq hp,this.1,this.2.1⟩
theorem sX (k:Nat) (h1:1≤k) (h8:k≤8) (kk:Int) (hk:kk=(k:Int)):CQ (fun st=>bW st kk) (cM k) 0:=(xv k h1 h8 kk hk).cq (bB k h1 h8)
theorem Q1:CQ (fun st=>bW st 1) (cM 1) 0:=sX 1 (by decide) (by decide) 1 rfl
theorem Q2:CQ (fun st=>bW st 2) (cM 2) 0:=sX 2 (by decide) (by decide) 2 rfl
theorem Q4:CQ (fun st=>bW st 4) (cM 4) 0:=sX 4 (by decide) (by decide) 4 rfl
theorem Q8:CQ (fun st=>bW st 8) (cM 8) 0:=sX 8 (by decide) (by decide) 8 rfl
theorem dL {st:I} {k:Int} (h:st.err≠0):bW st k=some (0,st):=by rw[fA,jy h]
theorem lf (l:List UInt8) (q:Nat) (e:Int):bt ⟨l,q,0⟩ e=⟨l,q,e⟩:=rfl
theorem QF2:CQ (fun st=>gG st 2) (jl 2) (⟨false,[]⟩:Bl):=(pb 2 (by decide) (by decide) 2 rfl).cq (eW 2 (by decide) (by decide))
theorem QF4:CQ (fun st=>gG st 4) (jl 4) (⟨false,[]⟩:Bl):=(pb 4 (by decide) (by decide) 4 rfl).cq (eW 4 (by decide) (by decide))
theorem hN {st:I} {k:Int} (h:st.err≠0):gG st k=some (⟨false,[]⟩,st):=by rw[vT,tU h]
theorem QV:CQ bQ je (⟨false,[]⟩:Bl):=qK.cq fX
theorem QT:CQ lK nW []:=zi.cq gX
theorem QN:CQ oO qL []:=zj.cq le
theorem xz (q:Nat):cc ⟨[],q,0⟩=some (0,⟨[],q,0⟩):=rfl
theorem lN (t:List UInt8):otx (t,0)=(t,0):=by simp[otx]
theorem otx_e (t:List UInt8) (e:Int) (h:e≠0):otx (t,e)=([],e):=by simp[otx,h]
theorem eQ {n:Int} {k:Int} (h:k=2∨k=4∨k=8) (h1: -32768≤n) (h2:n≤32767):aN n k=true:=by
 have e2:(2:Int) ^ (8*(2:Int).toNat - 1)=32768:=by decide
 have e4:(2:Int) ^ (8*(4:Int).toNat - 1)=2147483648:=by decide
 have e8:(2:Int) ^ (8*(8:Int).toNat - 1)=9223372036854775808:=by decide
 unfold aN
 simp only[Bool.and_eq_true,decide_eq_true_eq]
 rcases h with rfl | rfl | rfl <;> omega
open Go.RowKit Go.Deep Go.ChangeShapes
set_option linter.unusedVariables false
section
variable {H:Type} (enc:TypeId×Value→H) (P:Program) {α β:Type}
variable {enc P}
def wI (n:Int):Prop:= -9223372036854775808≤n∧n≤9223372036854775807
def wB (_:Bool):Prop:=True
def wS (l:List UInt8):Prop:=l.length≤140737488351232
def wL (W:α→Prop) (l:List α):Prop:=l.length≤140737488351232∧ ∀ x,x∈l→W x
end
open Go.RowKit
def xA (x:Bl):Prop:=wB x.null∧wS x.data
def wf_Hd (x:Hd):Prop:=wS x.Cq∧xA x.Cb
def um (x:Rec):Prop:=wI x.Co∧wI x.Cd∧xA x.Cq∧xA x.Cb∧(wL wf_Hd) x.B6
def rN (x:Top):Prop:=wS x.Ck∧(wL wI) x.B7
def uo (x:Val):Prop:=wI x.BX∧wI x.B5∧wI x.B8∧wI x.CA∧(wL rN) x.BZ∧wI x.CK∧wI x.CH
def rO (x:Bat):Prop:=wI x.Cn∧wI x.Ch∧wB x.CF∧wB x.CI∧wB x.Ct∧wI x.Cl∧wI x.B9∧wI x.Cu∧wI x.BX∧wI x.B5∧wI x.Ca∧(wL um) x.B0
set_option linter.unusedSimpArgs false
theorem kK {k v:Int} (h:fv k v=0):aN k 2=true∧aN v 2=true:=by
 unfold fv fc at h
 have e:(2:Int) ^ (8*(2:Int).toNat - 1)=32768:=by decide
 have hv: ∀ n:Int,-100≤n→n≤100→aN n 2=true:=fun n h1 h2=>by
  unfold aN
  simp only[Bool.and_eq_true,decide_eq_true_eq]
  omega
 by_cases h0:k=0
 ·simp[h0] at h
  exact⟨hv _ (by omega) (by omega),hv _ (by omega) (by omega)⟩
 by_cases h1:k=22
 ·simp[h1] at h
  exact⟨hv _ (by omega) (by omega),hv _ (by omega) (by omega)⟩
 by_cases h2:k=24
 ·simp[h2] at h
  exact⟨hv _ (by omega) (by omega),hv _ (by omega) (by omega)⟩
 by_cases h3:k=26
 ·simp[h3] at h
  exact⟨hv _ (by omega) (by omega),hv _ (by omega) (by omega)⟩
 by_cases h4:k=27
 ·simp[h4] at h
  exact⟨hv _ (by omega) (by omega),hv _ (by omega) (by omega)⟩
 simp[h0,h1,h2,h3,h4] at h
def nF (h:dv):List UInt8:=be h.Cm 2++(be h.Ce 2++(be h.Cv 4++(be (de h.Cg) 2++h.Cg.data)))
def okH (h:dv):Prop:=fv h.Cm h.Ce=0∧aN h.Cv 4=true∧aN (de h.Cg) 2=true∧aT h.Cg=true
def sY:Pr dv:=(cM 2).bind fun k=>(cM 2).bind fun v=>if fv k v=0 then (cM 4).bind fun n=>(jl 2).bind fun c=> .ret ⟨k,v,n,c⟩ else .err (fv k v)
theorem ve:Sp sY nF okH:=by
 refine⟨fun s q a r hq h=> ?_,fun s t q a hq ha h=> ?_⟩
 ·obtain⟨k,q1,h1,h⟩:=Pr.bind_ok h
  obtain⟨v,q2,h2,h⟩:=Pr.bind_ok h
  split at h
  ·rename_i hv
   obtain⟨n,q3,h3,h⟩:=Pr.bind_ok h
   obtain⟨c,q4,h4,h⟩:=Pr.bind_ok h
   injection h with h
   obtain⟨rfl,rfl⟩:=C6 h
   obtain⟨a1,a2,a3,a4,a5⟩:=(bB 2 (by decide) (by decide)).spell _ _ _ _ hq h1
   obtain⟨b1,b2,b3,b4,b5⟩:=(bB 2 (by decide) (by decide)).spell _ _ _ _ a2 h2
   obtain⟨c1,c2,c3,c4,c5⟩:=(bB 4 (by decide) (by decide)).spell _ _ _ _ b2 h3
   obtain⟨d1,d2,d3,d4,d5⟩:=(eW 2 (by decide) (by decide)).spell _ _ _ _ c2 h4
   refine⟨by omega,d2,?_,?_,hv,c5,d5.1,d5.2⟩
   ·simp only[nF,CO] at *
    omega
   ·rw[d4,c4,b4,a4]
    simp only[nF,CV]
  ·exact nomatch h
 ·obtain⟨a1,a2,a3,a4⟩:=ha
  obtain⟨f1,f2⟩:=kK a1
  have hl:=congrArg List.length h
  simp only[nF,C1,CO,al] at hl
  simp only[nF,CV] at h
  have g1:=(bB 2 (by decide) (by decide)).back _ _ _ _ hq f1 h
  have h:=aY h
  have g2:=(bB 2 (by decide) (by decide)).back _ _ _ _ (by rw[al]; omega) f2 h
  have h:=aY h
  have g3:=(bB 4 (by decide) (by decide)).back _ _ _ _ (by simp only[al]; omega) a2 h
  have h:=aY h
  rw[← CV] at h
  have g4:=(eW 2 (by decide) (by decide)).back _ _ _ _ (by simp only[al]; omega) ⟨a3,a4⟩ h
  rw[sY,Pr.bind_of g1,Pr.bind_of g2,if_pos a1,Pr.bind_of g3,Pr.bind_of g4]
  simp only[Pr.ret,nF,CO,Nat.add_assoc]
def zHead:dv:=⟨0,0,0,⟨false,[]⟩⟩
theorem xB:CQ ew sY zHead:=by
 refine⟨fun st h=> ?_,fun s q hq=> ?_⟩
 ·unfold ew
  simp only[dL h,hN h,aQ,CM,if_neg h]
  rfl
 ·unfold ew sY
  rcases Q2.run s q hq with⟨e,st,p1,g1,x1,y1⟩ | ⟨k,q1,p1,g1,n1,l1⟩
  ·refine .inl ⟨e,st,Pr.bind_err p1,?_,x1,y1⟩
   simp only[g1,dL y1,hN y1,aQ,CM,if_neg y1]
   rfl
  simp only[g1,CM,Pr.bind_of p1]
  rcases Q2.run s q1 l1 with⟨e,st,p2,g2,x2,y2⟩ | ⟨v,q2,p2,g2,n2,l2⟩
  ·refine .inl ⟨e,st,Pr.bind_err p2,?_,x2,y2⟩
   simp only[g2,dL y2,hN y2,aQ,CM,if_neg y2]
   rfl
  simp only[g2,CM,Pr.bind_of p2,aQ,o9,if_true]
  by_cases hv:fv k v=0
  ·simp only[if_pos hv]
   rcases Q4.run s q2 l2 with⟨e,st,p3,g3,x3,y3⟩ | ⟨n,q3,p3,g3,n3,l3⟩
   ·refine .inl ⟨e,st,Pr.bind_err p3,?_,x3,y3⟩
    simp only[g3,dL y3,hN y3,aQ,CM,if_neg y3]
    rfl
   simp only[g3,CM,Pr.bind_of p3]
   rcases QF2.run s q3 l3 with⟨e,st,p4,g4,x4,y4⟩ | ⟨c,q4,p4,g4,n4,l4⟩
   ·refine .inl ⟨e,st,Pr.bind_err p4,?_,x4,y4⟩
    simp only[g4,dL y4,hN y4,aQ,CM,if_neg y4]
    rfl
   refine .inr ⟨⟨k,v,n,c⟩,q4,by rw[Pr.bind_of p4]; rfl,?_,by omega,l4⟩
   simp only[g4,CM,if_true]
  ·simp only[if_neg hv]
   have y:(⟨s.drop q2,q2,fv k v⟩:I).err≠0:=hv
   refine .inl ⟨fv k v,⟨s.drop q2,q2,fv k v⟩,rfl,?_,rfl,hv⟩
   simp only[cf,lf,CM,dL y,hN y,aQ,if_neg hv]
   rfl
def rP (h:dv):Int:=if fv h.Cm h.Ce=0 then (if aN h.Cv 4=true then (if aT h.Cg=true then (if (h.Cg.data.length:Int)>32767 then 4 else 0) else 4) else 11) else fv h.Cm h.Ce
theorem xC (h:dv) (hn:wI h.Cv):eU h=some (rP h):=by
 unfold eU rP
 rw[o9,CM]
 by_cases h1:fv h.Cm h.Ce=0
 ·rw[if_pos h1,if_pos h1,dS _ _ hn,CM]
  by_cases h2:aN h.Cv 4=true
  ·rw[if_pos h2,if_pos h2,lb,CM]
   by_cases h3:aT h.Cg=true
   ·rw[if_pos h3,if_pos h3]
    split <;> rfl
   ·rw[if_neg h3,if_neg h3]
  ·rw[if_neg h2,if_neg h2]
 ·rw[if_neg h1,if_neg h1]
theorem chk_ok {h:dv} (hc:rP h=0):okH h:=by
 unfold rP at hc
 split at hc
 ·rename_i h1
  split at hc
  ·rename_i h2
   split at hc
   ·rename_i h3
    split at hc
    ·exact absurd hc (by decide)
    ·exact⟨h1,h2,eQ (.inl rfl) (by unfold de; split <;> omega) (by unfold de; split <;> omega),h3⟩
   ·exact absurd hc (by decide)
  ·exact absurd hc (by decide)
 ·rename_i h1
  exact absurd hc h1
theorem uq (h:dv) (t:List UInt8) (ht:t.length≤140737488000000) (hn:wI h.Cv) (hl:h.Cg.data.length≤40000):eV (t,0) h=some (if rP h=0 then (t++nF h,0) else (t,rP h)):=by
 unfold eV
 rw[xC h hn,CM]
 by_cases hc:rP h=0
 ·rw[if_pos hc,if_pos hc]
  obtain⟨o1,o2,o3,o4⟩:=chk_ok hc
  rw[bR (kK o1).1 (by omega),CM,bR (kK o1).2 (by simp only[CO,al]; omega),CM]
  rw[bR o2 (by simp only[CO,al]; omega),CM,fY o3 o4 (by simp only[CO,al]; omega),CM]
  simp only[nF,CV]
  rfl
 ·rw[if_neg hc,if_neg hc,np,vd]
  rfl
def mS (each:Nat) (n:Int):Pr Int:=fun s q=>if n<0 then .error 4 else if 0<each∧((s.length - q:Nat):Int) / each<n then .error 1 else .ok (n,q)
def kL (k each:Nat):Pr Int:=(cM k).bind (mS each)
theorem iD {k each:Nat} (h1:1≤k) (h8:k≤8) {s:List UInt8} {q r:Nat} {n:Int} (hq:q≤s.length) (h:kL k each s q= .ok (n,r)):0≤n∧(0<each→n*each≤((s.length - r:Nat):Int))∧r=q+k∧r≤s.length∧s.take r=s.take q++be n k∧aN n k=true:=by
 obtain⟨m,r',h2,h⟩:=Pr.bind_ok h
 obtain⟨a1,a2,a3,a4,a5⟩:=(bB k h1 h8).spell _ _ _ _ hq h2
 unfold mS at h
 split at h
 ·exact nomatch h
 ·rename_i hn
  split at h
  ·exact nomatch h
  ·rename_i he
   injection h with h
   obtain⟨rfl,rfl⟩:=C6 h
   rw[al] at a3
   refine⟨by omega,fun hz=> ?_,a3,a2,a4,a5⟩
   have:m≤((s.length - r':Nat):Int) / each:=by
    rcases Int.lt_or_le (((s.length - r':Nat):Int) / each) m with g | g
    ·exact absurd ⟨hz,g⟩ he
    ·exact g
   exact (Int.le_ediv_iff_mul_le (by omega)).1 this
theorem wi {k each:Nat} (h1:1≤k) (h8:k≤8) {s t:List UInt8} {q:Nat} {n:Int} (hq:q≤s.length) (hf:aN n k=true) (hn:0≤n) (h:s.drop q=be n k++t) (hl:0<each→n*each≤t.length):kL k each s q= .ok (n,q+k):=by
 have g:=(bB k h1 h8).back s t q n hq hf h
 rw[al] at g
 rw[kL,Pr.bind_of g]
 unfold mS
 have hlen:=congrArg List.length h
 rw[C1,CO,al] at hlen
 rw[if_neg (by omega),if_neg]
 rintro⟨hz,hc⟩
 have:=(Int.le_ediv_iff_mul_le (show (0:Int)<each by omega)).2 (hl hz)
 rw[show s.length - (q+k)=t.length by omega] at hc
 omega
theorem mT (k each:Nat) (h1:1≤k) (h8:k≤8) (kk ee:Int) (hk:kk=(k:Int)) (he:ee=(each:Int)) (h9:ee≤1000):CQ (fun st=>fI st kk ee) (kL k each) 0:=by
 subst hk
 refine⟨fun st h=> ?_,fun s q hq=> ?_⟩
 ·show fI st k ee= _
  rw[ns _ _ _ ⟨by omega,by omega⟩]
  unfold hU
  rw[jy h]
  simp only
  rw[if_pos h]
 ·show (∃ e st,kL k each s q= .error e∧fI ⟨s.drop q,q,0⟩ k ee=some (0,st)∧ _∧ _)∨(∃ a r,kL k each s q= .ok (a,r)∧fI ⟨s.drop q,q,0⟩ k ee=some (a,⟨s.drop r,r,0⟩)∧q≤r∧r≤s.length)
  rw[ns _ _ _ ⟨by omega,by omega⟩]
  unfold hU
  rcases (sX k h1 h8 k rfl).run s q hq with⟨e,st,p1,g1,x1,y1⟩ | ⟨n,r,p1,g1,n1,l1⟩
  ·rw[fA] at g1
   have g1:=CN g1
   obtain⟨u1,u2⟩:=C6 g1
   rw[u2]
   exact .inl ⟨e,st,Pr.bind_err p1,by rw[if_pos y1],x1,y1⟩
  ·rw[fA] at g1
   have g1:=CN g1
   have u3:bX ⟨s.drop q,q,0⟩ k=(n,⟨s.drop r,r,0⟩):=g1
   rw[u3,kL,Pr.bind_of p1]
   simp only
   rw[if_neg (by simp)]
   unfold mS
   by_cases hn:n<0
   ·rw[if_pos hn,if_pos hn]
    exact .inl ⟨4,_,rfl,rfl,rfl,by simp[bt]⟩
   ·rw[if_neg hn,if_neg hn,C1,he]
    by_cases hc:0<each∧((s.length - r:Nat):Int) / each<n
    ·rw[if_pos hc,if_pos ⟨by omega,hc.2⟩]
     exact .inl ⟨1,_,rfl,rfl,rfl,by simp[bt]⟩
    ·rw[if_neg hc,if_neg (fun h=>hc ⟨by omega,h.2⟩)]
     exact .inr ⟨n,r,rfl,rfl,n1,l1⟩
theorem iQ {st:I} {k e:Int} (h:st.err≠0) (hk:0≤k∧k≤1000) (he:0≤e∧e≤1000):fI st k e=some (0,st):=by
 rw[ns _ _ _ ⟨by omega,by omega⟩]
 unfold hU
 rw[jy h]
 simp only
 rw[if_pos h]
def fM {α:Type} (p:Pr α):Nat→Pr (List α)
 | 0=> .ret []
 | n+1=>p.bind fun a=>(fM p n).bind fun l=> .ret (a::l)
def aV {α:Type} (enc:α→List UInt8):List α→List UInt8
 | [] => []
 | a::l=>enc a++aV enc l
theorem pd {α:Type} {p:Pr α} {enc:α→List UInt8} {ok:α→Prop} (hp:Sp p enc ok): ∀ n:Nat,Sp (fM p n) (aV enc) (fun l=>l.length=n∧ ∀ x,x∈l→ok x)
 | 0=>by
  refine⟨fun s q a r hq h=> ?_,fun s t q a hq ha h=> ?_⟩
  ·injection h with h
   obtain⟨rfl,rfl⟩:=C6 h
   exact⟨Dc _,hq,rfl,by simp[aV],rfl,fun x h=>nomatch h⟩
  ·obtain rfl:=List.length_eq_zero_iff.1 ha.1
   rfl
 | n+1=>by
  have ih:=pd hp n
  refine⟨fun s q a r hq h=> ?_,fun s t q a hq ha h=> ?_⟩
  ·obtain⟨x,q1,h1,h⟩:=Pr.bind_ok h
   obtain⟨l,q2,h2,h⟩:=Pr.bind_ok h
   injection h with h
   obtain⟨rfl,rfl⟩:=C6 h
   obtain⟨a1,a2,a3,a4,a5⟩:=hp.spell _ _ _ _ hq h1
   obtain⟨b1,b2,b3,b4,b5,b6⟩:=ih.spell _ _ _ _ a2 h2
   refine⟨by omega,b2,by rw[aV,CO]; omega,by rw[b4,a4,aV,CV],by rw[C9,b5],fun y hy=> ?_⟩
   rcases List.mem_cons.1 hy with rfl | hy
   ·exact a5
   ·exact b6 y hy
  ·obtain⟨ha1,ha2⟩:=ha
   cases a with
   | nil=>exact absurd ha1 (by simp)
   | cons x l =>
    rw[aV,CV] at h
    have hl:=congrArg List.length h
    rw[C1,CO] at hl
    have g1:=hp.back _ _ _ _ hq (ha2 x (.head _)) h
    have g2:=ih.back _ _ _ _ (by omega) ⟨by simpa using ha1,fun y hy=>ha2 y (.tail _ hy)⟩ (aY h)
    rw[fM,Pr.bind_of g1,Pr.bind_of g2]
    simp only[Pr.ret,aV,CO,Nat.add_assoc]
theorem gr {α:Type} {enc:α→List UInt8} {ok:α→Prop} {each:Nat} (he: ∀ x,ok x→each≤(enc x).length): ∀ l:List α,(∀ x,x∈l→ok x)→l.length*each≤(aV enc l).length
 | [],h=>by simp
 | x::l,h=>by
  have:=gr he l (fun y hy=>h y (.tail _ hy))
  have:=he x (h x (.head _))
  rw[aV,CO,C9,Nat.add_mul]
  omega
def gM {α:Type} (k each:Nat) (p:Pr α):Pr (List α):=(kL k each).bind fun n=>fM p n.toNat
theorem pe {α:Type} {p:Pr α} {enc:α→List UInt8} {ok:α→Prop} (k each:Nat) (h1:1≤k) (h8:k≤8) (hp:Sp p enc ok) (he: ∀ x,ok x→each≤(enc x).length):Sp (gM k each p) (fun l=>be (l.length:Int) k++aV enc l) (fun l=>aN (l.length:Int) k=true∧ ∀ x,x∈l→ok x):=by
 refine⟨fun s q a r hq h=> ?_,fun s t q a hq ha h=> ?_⟩
 ·obtain⟨n,q1,g1,h⟩:=Pr.bind_ok h
  obtain⟨a1,a2,a3,a4,a5,a6⟩:=iD h1 h8 hq g1
  obtain⟨b1,b2,b3,b4,b5,b6⟩:=(pd hp n.toNat).spell _ _ _ _ a4 h
  have hn:(a.length:Int)=n:=by omega
  refine⟨by omega,b2,by rw[CO,al]; omega,by rw[b4,a5,hn,CV],by rw[hn]; exact a6,b6⟩
 ·rw[CV] at h
  have hl:=congrArg List.length h
  rw[C1,CO,CO,al] at hl
  have g1:=wi (each:=each) h1 h8 hq ha.1 (by omega) h (fun _=>by
   have:=gr he a ha.2
   rw[CO,Int.natCast_add,← Int.natCast_mul]
   omega)
  have h2:=aY h
  rw[al] at h2
  have g2:=(pd hp a.length).back _ _ _ _ (by omega) ⟨rfl,ha.2⟩ h2
  rw[gM,Pr.bind_of g1,Dx,g2,CO,al]
  simp only[Nat.add_assoc]
structure CB {α:Type} (op:I→Option (α×I)) (p:Pr α) (z:α):Prop where
 dead: ∀ st:I,st.err≠0→op st=some (z,st)
 run: ∀ (s:List UInt8) (q:Nat),s.length≤1000000→q≤s.length→(∃ (e:Int) (st:I),p s q= .error e∧op ⟨s.drop q,q,0⟩=some (z,st)∧st.err=e∧st.err≠0)∨(∃ (a:α) (r:Nat),p s q= .ok (a,r)∧op ⟨s.drop q,q,0⟩=some (a,⟨s.drop r,r,0⟩)∧q≤r∧r≤s.length)
theorem CQ.cb {α:Type} {op:I→Option (α×I)} {p:Pr α} {z:α} (h:CQ op p z):CB op p z:=⟨h.dead,fun s q _ hq=>h.run s q hq⟩
def NZ {α:Type} (p:Pr α):Prop:= ∀ (s:List UInt8) (q:Nat) (e:Int),s.length≤1000000→q≤s.length→p s q= .error e→e≠0
theorem CB.nz {α:Type} {op:I→Option (α×I)} {p:Pr α} {z:α} (h:CB op p z):NZ p:=by
 intro s q e hs hq hp
 rcases h.run s q hs hq with⟨e',st,p1,g,x,y⟩ | ⟨a,r,p1,g,n,l⟩
 ·rw[hp] at p1
  injection p1 with p1
  rw[p1,← x]
  exact y
 ·rw[hp] at p1
  exact nomatch p1
theorem NZ.ret {α:Type} (a:α):NZ (Pr.ret a):=fun s q e _ _ h=>nomatch h
theorem NZ.err {α:Type} {e:Int} (he:e≠0):NZ (Pr.err e:Pr α):=fun s q e' _ _ h=>by injection h with h; rw[← h]; exact he
theorem NZ.bind {α β:Type} {p:Pr α} {f:α→Pr β} {enc:α→List UInt8} {ok:α→Prop} (hp:NZ p) (hs:Sp p enc ok) (hf: ∀ a,NZ (f a)):NZ (p.bind f):=by
 intro s q e hl hq h
 cases hx:p s q with
 | error e' =>
  rw[Pr.bind_err hx] at h
  injection h with h
  rw[← h]
  exact hp s q e' hl hq hx
 | ok x =>
  rw[Pr.bind_of (a:=x.1) (r:=x.2) hx] at h
  exact hf x.1 s x.2 e hl (hs.spell s q x.1 x.2 hq hx).2.1 h
theorem Sp.congr {α:Type} {p:Pr α} {enc enc':α→List UInt8} {ok ok':α→Prop} (h:Sp p enc ok) (hok: ∀ a,ok a↔ok' a) (he: ∀ a,ok a→enc a=enc' a):Sp p enc' ok':=by
 refine⟨fun s q a r hq hp=> ?_,fun s t q a hq ha hd=> ?_⟩
 ·obtain⟨h1,h2,h3,h4,h5⟩:=h.spell s q a r hq hp
  rw[← he a h5]
  exact⟨h1,h2,h3,h4,(hok a).1 h5⟩
 ·have ha':=(hok a).2 ha
  rw[← he a ha'] at hd ⊢
  exact h.back s t q a hq ha' hd
theorem Sp.seq {α β:Type} {p:Pr α} {f:α→Pr β} {π:β→α} {enc1:α→List UInt8} {enc2:β→List UInt8} {ok1:α→Prop} {ok2:β→Prop} (hp:Sp p enc1 ok1) (hf: ∀ a,Sp (f a) enc2 (fun x=>ok2 x∧π x=a)) :
 Sp (p.bind f) (fun x=>enc1 (π x)++enc2 x) (fun x=>ok1 (π x)∧ok2 x):=by
 refine⟨fun s q x r hq h=> ?_,fun s t q x hq hx hd=> ?_⟩
 ·obtain⟨a,m,h1,h2⟩:=Pr.bind_ok h
  obtain⟨a1,a2,a3,a4,a5⟩:=hp.spell s q a m hq h1
  obtain⟨b1,b2,b3,b4,b5,b6⟩:=(hf a).spell s m x r a2 h2
  subst b6
  exact⟨by omega,b2,by rw[CO]; omega,by rw[b4,a4,CV],a5,b5⟩
 ·rw[CV] at hd
  have h1:=hp.back s _ q (π x) hq hx.1 hd
  have hl:=congrArg List.length hd
  rw[C1,CO] at hl
  have h2:=(hf (π x)).back s t _ x (by omega) ⟨hx.2,rfl⟩ (aY hd)
  rw[Pr.bind_of h1,h2,CO,Nat.add_assoc]
theorem pf {β:Type} (x0:β) (c:Prop) [Decidable c] (e:Int):Sp (if c then Pr.ret x0 else Pr.err e) (fun _ => []) (fun x=>c∧x=x0):=by
 refine⟨fun s q x r hq h=> ?_,fun s t q x hq hx hd=> ?_⟩
 ·by_cases hc:c
  ·rw[if_pos hc] at h
   injection h with h
   obtain⟨rfl,rfl⟩:=C6 h
   exact⟨Dc _,hq,rfl,by simp,hc,rfl⟩
  ·rw[if_neg hc] at h
   exact nomatch h
 ·rw[if_pos hx.1,hx.2]
  rfl
theorem xD {β:Type} (x0:β):Sp (Pr.ret x0) (fun _ => []) (fun x=>x=x0):=by
 refine⟨fun s q x r hq h=> ?_,fun s t q x hq hx hd=> ?_⟩
 ·injection h with h
  obtain⟨rfl,rfl⟩:=C6 h
  exact⟨Dc _,hq,rfl,by simp,rfl⟩
 ·rw[hx]
  rfl
theorem CB.bind {α β:Type} {op1:I→Option (α×I)} {p:Pr α} {z1:α} {op2:α→I→Option (β×I)} {f:α→Pr β} {z:β} (W:α→Prop) (h:CB op1 p z1)
 (hs: ∀ s q a r,s.length≤1000000→q≤s.length→p s q= .ok (a,r)→W a) (hz:W z1) (hf: ∀ a,W a→CB (op2 a) (f a) z):CB (fun st=>(op1 st).bind fun (a,st1)=>op2 a st1) (p.bind f) z:=by
 refine⟨fun st hd=> ?_,fun s q hl hq=> ?_⟩
 ·show (op1 st).bind _= _
  rw[h.dead st hd,CM]
  exact (hf z1 hz).dead st hd
 ·rcases h.run s q hl hq with⟨e,st,p1,g1,x1,y1⟩ | ⟨a,r,p1,g1,n1,l1⟩
  ·refine .inl ⟨e,st,Pr.bind_err p1,?_,x1,y1⟩
   show (op1 _).bind _= _
   rw[g1,CM]
   exact (hf z1 hz).dead st y1
  ·have g2:((op1 ⟨s.drop q,q,0⟩).bind fun (a,st1)=>op2 a st1)=op2 a ⟨s.drop r,r,0⟩:=by rw[g1,CM]
   show (∃ e st,p.bind f s q= _∧((op1 ⟨s.drop q,q,0⟩).bind fun (a,st1)=>op2 a st1)= _∧ _∧ _)∨(∃ x m,p.bind f s q= _∧((op1 ⟨s.drop q,q,0⟩).bind fun (a,st1)=>op2 a st1)= _∧ _∧ _)
   rw[g2,Pr.bind_of p1]
   rcases (hf a (hs s q a r hl hq p1)).run s r hl l1 with⟨e,st,p2,k2,x2,y2⟩ | ⟨b,m,p2,k2,n2,l2⟩
   ·exact .inl ⟨e,st,p2,k2,x2,y2⟩
   ·exact .inr ⟨b,m,p2,k2,by omega,l2⟩
theorem CB.congr {α:Type} {op op':I→Option (α×I)} {p:Pr α} {z:α} (h:CB op p z) (he: ∀ st,op' st=op st):CB op' p z:=⟨fun st hd=>(he st).trans (h.dead st hd),fun s q hl hq=>by rw[he]; exact h.run s q hl hq⟩
theorem CB.pr {α:Type} {op:I→Option (α×I)} {p p':Pr α} {z:α} (h:CB op p z) (he:p=p'):CB op p' z:=he ▸ h
theorem kM {k:Nat} (h1:1≤k) (h8:k≤8): ∀ (s:List UInt8) (q:Nat) (a:Int) (r:Nat),s.length≤1000000→q≤s.length→cM k s q= .ok (a,r)→ -9223372036854775808≤a∧a≤9223372036854775807 :=
 fun s q a r _ hq h=>bE ((bB k h1 h8).spell s q a r hq h).2.2.2.2
def mU:Pr Bool:=(cM 1).bind fun n=>if n=0 then .ret false else if n=1 then .ret true else .err 11
def iz (b:Bool):List UInt8:=be (if b=true then 1 else 0) 1
theorem vf:Sp mU iz (fun _=>True):=by
 refine⟨fun s q x r hq h=> ?_,fun s t q x hq hx hd=> ?_⟩
 ·obtain⟨n,m,h1,h⟩:=Pr.bind_ok h
  obtain⟨a1,a2,a3,a4,a5⟩:=(bB 1 (by decide) (by decide)).spell s q n m hq h1
  by_cases h0:n=0
  ·rw[if_pos h0] at h
   injection h with h
   obtain⟨rfl,rfl⟩:=C6 h
   subst h0
   exact⟨a1,a2,a3,a4,trivial⟩
  ·rw[if_neg h0] at h
   by_cases h1:n=1
   ·rw[if_pos h1] at h
    injection h with h
    obtain⟨rfl,rfl⟩:=C6 h
    subst h1
    exact⟨a1,a2,a3,a4,trivial⟩
   ·rw[if_neg h1] at h
    exact nomatch h
 ·cases x with
  | true =>
   have:=(bB 1 (by decide) (by decide)).back s t q 1 hq (by decide) hd
   rw[mU,Pr.bind_of this]
   rfl
  | false =>
   have:=(bB 1 (by decide) (by decide)).back s t q 0 hq (by decide) hd
   rw[mU,Pr.bind_of this]
   rfl
theorem rQ {α:Type} {op:I→Option (α×I)} {x0 z:α} {e:Int} (h: ∀ st:I,st.err≠0→op st=some (z,st)) (h0: ∀ st:I,st.err=0→op st=some (if e=0 then (x0,st) else (z,bt st e))):CB op (if e=0 then .ret x0 else .err e) z:=by
 refine⟨h,fun s q hl hq=> ?_⟩
 by_cases he:e=0
 ·rw[if_pos he,h0 _ rfl,if_pos he]
  exact .inr ⟨x0,q,rfl,rfl,Dc _,hq⟩
 ·rw[if_neg he,h0 _ rfl,if_neg he]
  exact .inl ⟨e,_,rfl,rfl,rfl,he⟩
def gN:Pr Top:=nW.bind fun nm=>(gM 4 4 (cM 4)).bind fun ps=> .ret ⟨nm,ps⟩
def jm (t:Top):List UInt8:=(be (t.Ck.length:Int) 2++t.Ck)++(be (t.B7.length:Int) 4++aV (fun n=>be n 4) t.B7)
def okT (t:Top):Prop:=aN (t.Ck.length:Int) 2=true∧aN (t.B7.length:Int) 4=true∧ ∀ n,n∈t.B7→aN n 4=true
theorem sZ:Sp (gM 4 4 (cM 4)) (fun l=>be (l.length:Int) 4++aV (fun n=>be n 4) l) (fun l=>aN (l.length:Int) 4=true∧ ∀ n,n∈l→aN n 4=true):=pe 4 4 (by decide) (by decide) (bB 4 (by decide) (by decide)) (fun x _=>by rw[al]; decide)
theorem xE:Sp gN jm okT:=by
 refine⟨fun s q a r hq h=> ?_,fun s t q a hq ha h=> ?_⟩
 ·obtain⟨k,q1,h1,h⟩:=Pr.bind_ok h
  obtain⟨v,q2,h2,h⟩:=Pr.bind_ok h
  injection h with h
  obtain⟨rfl,rfl⟩:=C6 h
  obtain⟨a1,a2,a3,a4,a5⟩:=gX.spell _ _ _ _ hq h1
  obtain⟨b1,b2,b3,b4,b5⟩:=sZ.spell _ _ _ _ a2 h2
  exact⟨by omega,b2,by simp only[jm,CO] at *; omega,by rw[b4,a4]; simp only[jm,CV],a5.1,b5⟩
 ·obtain⟨a1,a2,a3⟩:=ha
  have hl:=congrArg List.length h
  rw[jm,CV] at h
  have g1:=gX.back _ _ _ _ hq ⟨a1,rfl⟩ h
  have h:=aY h
  have g2:=sZ.back _ _ _ _ (by simp only[jm,C1,CO,al] at *; omega) ⟨a2,a3⟩ h
  rw[gN,Pr.bind_of g1,Pr.bind_of g2]
  simp only[Pr.ret,jm,CO,Nat.add_assoc]
theorem vg (t:Top) (h:okT t):6≤(jm t).length:=by simp only[jm,CO,al]; omega
theorem iE:Sp (gM 4 6 gN) (fun l=>be (l.length:Int) 4++aV jm l) (fun l=>aN (l.length:Int) 4=true∧ ∀ t,t∈l→okT t):=pe 4 6 (by decide) (by decide) xE vg
theorem qM (n:Int) (s:List UInt8) (hn:n≤1000000): ∀ (m fuel k:Nat) (acc:List Int) (q:Nat),((k+m:Nat):Int)=n→m<fuel→q+4*m≤s.length→acc.length=k →
 ∃ l,fM (cM 4) m s q= .ok (l,q+4*m)∧bI n fuel k acc ⟨s.drop q,q,0⟩=some (k+m,acc++l,⟨s.drop (q+4*m),q+4*m,0⟩)
 | 0,fuel+1,k,acc,q,h1,h2,h3,h4=>⟨[],rfl,by rw[bI,if_neg (by omega),Db]; rfl⟩
 | m+1,fuel+1,k,acc,q,h1,h2,h3,h4=>by
  rw[bI,if_pos (by omega)]
  rcases Q4.run s q (by omega) with⟨e,st,p1,g1,x1,y1⟩ | ⟨a,r,p1,g1,n1,l1⟩
  ·unfold cM at p1
   rw[if_neg (by omega)] at p1
   exact nomatch p1
  ·have hr:r=q+4:=by
    unfold cM at p1
    rw[if_neg (by omega)] at p1
    injection p1 with p1
    exact (C6 p1).2.symm
   subst hr
   rw[g1]
   simp only[CM]
   rw[if_pos (by omega),if_pos (by omega)]
   obtain⟨l,e1,e2⟩:=qM n s hn m fuel (k+1) (acc ++ [a]) (q+4) (by omega) (by omega) (by omega) (by rw[CO,h4]; rfl)
   have eq:q+4+4*m=q+4*(m+1):=by omega
   rw[eq] at e1 e2
   refine⟨a::l,?_,?_⟩
   ·rw[fM,Pr.bind_of p1,Pr.bind_of e1]
    rfl
   ·rw[e2,CV]
    rw[show k+1+m=k+(m+1) by omega]
    rfl
theorem qN (n:Int) (s:List UInt8) (hs:s.length≤1000000) (hn:n≤1000000): ∀ (m fuel k:Nat) (acc:List Top) (q:Nat),((k+m:Nat):Int)=n→m<fuel→q≤s.length→acc.length=k →
 (∃ (e:Int) (st:I),fM gN m s q= .error e∧bj n fuel [] acc k ⟨s.drop q,q,0⟩=some (.ret ([],st))∧st.err=e∧st.err≠0) ∨
 (∃ l r,fM gN m s q= .ok (l,r)∧bj n fuel [] acc k ⟨s.drop q,q,0⟩=some (.go ([],acc++l,k+m,⟨s.drop r,r,0⟩))∧q≤r∧r≤s.length)
 | 0,fuel+1,k,acc,q,h1,h2,h3,h4=> .inr ⟨[],q,rfl,by rw[bj,if_neg (by omega),Db]; rfl,Dc _,h3⟩
 | m+1,fuel+1,k,acc,q,h1,h2,h3,h4=>by
  rw[bj,if_pos (by omega)]
  have died: ∀ (st:I) (t:List UInt8),st.err≠0→((fI st 4 4).bind fun (x24,st25)=>(bI x24 ((x24).toNat+1) 0 [] st25).bind fun (k57,y58,st61)=>if (acc.length+1)*40≤140737488355328 then ((fa st61).bind fun (x66,st67)=>if x66=0 then (if -9223372036854775808≤((k:Int)+1)∧((k:Int)+1)≤9223372036854775807 then (bj n fuel [] (acc ++ [(⟨t,y58⟩:Top)]) (k+1) st67) else none) else (some (Lp.ret ([],st67)))) else none)=some (Lp.ret ([],st)):=by
   intro st t h
   rw[iQ h (by decide) (by decide)]
   simp only[CM]
   rw[show (0:Int).toNat+1=1 from rfl,bI,if_neg (by decide)]
   simp only[CM,aQ]
   rw[if_pos (by omega),if_neg h]
  rcases QT.run s q h3 with⟨e,st,p1,g1,x1,y1⟩ | ⟨nm,q1,p1,g1,n1,l1⟩
  ·left
   refine⟨e,st,by rw[fM,Pr.bind_err (show gN s q= .error e from Pr.bind_err p1)],?_,x1,y1⟩
   rw[g1]
   simp only[CM]
   exact died st [] y1
  rw[g1]
  simp only[CM]
  rcases (mT 4 4 (by decide) (by decide) 4 4 rfl rfl (by decide)).run s q1 l1 with⟨e,st,p2,g2,x2,y2⟩ | ⟨c,q2,p2,g2,n2,l2⟩
  ·left
   refine⟨e,st,by rw[fM,Pr.bind_err]; rw[gN,Pr.bind_of p1,Pr.bind_err]; rw[gM,Pr.bind_err p2],?_,x2,y2⟩
   have:=died st nm y2
   rw[iQ y2 (by decide) (by decide)] at this
   rw[g2]
   exact this
  obtain⟨c1,c2,c3,c4,c5,c6⟩:=iD (by decide) (by decide) l1 p2
  have c2:=c2 (by decide)
  rw[g2]
  simp only[CM]
  obtain⟨ps,e1,e2⟩:=qM c s (by omega) c.toNat (c.toNat+1) 0 [] q2 (by omega) (by omega) (by omega) rfl
  rw[e2]
  simp only[CM,aQ,if_true]
  rw[if_pos (by omega),if_pos (by omega),CW]
  have ht:gN s q= .ok (⟨nm,ps⟩,q2+4*c.toNat):=by
   rw[gN,Pr.bind_of p1,Pr.bind_of (a:=ps) (r:=q2+4*c.toNat) (by rw[gM,Pr.bind_of p2,e1])]
   rfl
  rw[fM,Pr.bind_of ht]
  rcases qN n s hs hn m fuel (k+1) (acc ++ [⟨nm,ps⟩]) (q2+4*c.toNat) (by omega) (by omega) (by omega) (by rw[CO,h4]; rfl) with⟨e,st,r1,r2,r3,r4⟩ | ⟨l,r,r1,r2,r3,r4⟩
  ·exact .inl ⟨e,st,by rw[Pr.bind_err r1],r2,r3,r4⟩
  ·refine .inr ⟨⟨nm,ps⟩::l,r,by rw[Pr.bind_of r1]; rfl,?_,by omega,r4⟩
   rw[r2,CV,show k+1+m=k+(m+1) by omega]
   rfl
theorem mV:CB bV (gM 4 6 gN) []:=by
 refine⟨fun st h=> ?_,fun s q hs hq=> ?_⟩
 ·unfold bV
  rw[iQ h (by decide) (by decide)]
  simp only[CM]
  rw[show (0:Int).toNat+1=1 from rfl,bj,if_neg (by decide)]
  rfl
 ·unfold bV
  rcases (mT 4 6 (by decide) (by decide) 4 6 rfl rfl (by decide)).run s q hq with⟨e,st,p1,g1,x1,y1⟩ | ⟨c,q1,p1,g1,n1,l1⟩
  ·refine .inl ⟨e,st,Pr.bind_err p1,?_,x1,y1⟩
   rw[g1]
   simp only[CM]
   rw[show (0:Int).toNat+1=1 from rfl,bj,if_neg (by decide)]
   rfl
  ·obtain⟨c1,c2,c3,c4,c5,c6⟩:=iD (by decide) (by decide) hq p1
   have c2:=c2 (by decide)
   rw[g1,gM,Pr.bind_of p1]
   simp only[CM]
   rcases qN c s hs (by omega) c.toNat (c.toNat+1) 0 [] q1 (by omega) (by omega) l1 rfl with⟨e,st,r1,r2,r3,r4⟩ | ⟨l,r,r1,r2,r3,r4⟩
   ·exact .inl ⟨e,st,r1,by rw[r2]; rfl,r3,r4⟩
   ·refine .inr ⟨l,r,r1,?_,by omega,r4⟩
    rw[r2,CW]
    rfl
theorem lg {α:Type} {l:List α} {k:Nat} {x:α} {t:List α} (h:l.drop k=x::t):l[k]? = some x∧l.drop (k+1)=t∧l.length=k+1+t.length:=by
 have hl:=congrArg List.length h
 rw[C1,C9] at hl
 refine⟨?_,?_,by omega⟩
 ·have:=congrArg (fun z=>z[0]?) h
  simpa using this
 ·rw[← DB,h]
  rfl
def up {α:Type} (lt:α→α→Bool):Option α→List α→Bool
 | _,[]=>true
 | none,x::t=>up lt (some x) t
 | some p,x::t=>lt p x && up lt (some x) t
def ltI (a b:Int):Bool:=decide (a<b)
theorem qO (a0:List Int) (hb:a0.length≤140737488355328): ∀ (t:List Int) (p:Int) (k fuel:Nat) (y:Bool),a0.drop k=p::t→t.length<fuel→ ∃ z,bM a0 fuel y ((k:Int)+1)=some (if up ltI (some p) t=true then .go (y,z) else .ret false)
 | [],p,k,fuel+1,y,h,hf=>by
  obtain⟨h1,h2,h3⟩:=lg h
  refine⟨(k:Int)+1,?_⟩
  rw[bM,if_neg (by simp only[DJ] at h3; omega)]
  rfl
 | x::t,p,k,fuel+1,y,h,hf=>by
  obtain⟨h1,h2,h3⟩:=lg h
  obtain⟨g1,g2,g3⟩:=lg h2
  rw[C9] at hf h3
  obtain⟨z,hz⟩:=qO a0 hb t x (k+1) fuel y h2 (by omega)
  rw[bM,if_pos (by omega),if_pos (by omega),if_pos (by omega),show ((k:Int)+1 - 1).toNat=k by omega,h1]
  rw[CM]
  rw[if_pos (by omega),show ((k:Int)+1).toNat=k+1 by omega,g1]
  rw[CM]
  by_cases hc:p<x
  ·rw[if_neg (by omega),if_pos (by omega)]
   refine⟨z,?_⟩
   rw[show ((k:Int)+1+1)=((k+1:Nat):Int)+1 by omega,hz]
   simp only[up,ltI,hc,decide_true,Bool.true_and]
  ·rw[if_pos (by omega)]
   refine⟨0,?_⟩
   simp only[up,ltI,hc,decide_false,Bool.false_and,Bool.false_eq_true,if_false]
theorem zk (a0:List Int) (hb:a0.length≤140737488355328):dV a0=some (up ltI none a0):=by
 unfold dV
 cases a0 with
 | nil=>rfl
 | cons x t =>
  obtain⟨z,hz⟩:=qO (x::t) hb t x 0 ((((x::t).length:Int) - 1).toNat+1) false rfl (by simp only[C9]; omega)
  rw[show (((0:Nat):Int)+1)=1 from rfl] at hz
  rw[hz]
  simp only[up]
  cases up ltI (some x) t <;> rfl
theorem qP (a0:List (List UInt8)) (hb:a0.length≤140737488355328): ∀ (t:List (List UInt8)) (p:List UInt8) (k fuel:Nat) (y:Bool),a0.drop k=p::t→t.length<fuel→ ∃ z,bn a0 fuel y ((k:Int)+1)=some (if up Op.bytesLess (some p) t=true then .go (y,z) else .ret false)
 | [],p,k,fuel+1,y,h,hf=>by
  obtain⟨h1,h2,h3⟩:=lg h
  refine⟨(k:Int)+1,?_⟩
  rw[bn,if_neg (by simp only[DJ] at h3; omega)]
  rfl
 | x::t,p,k,fuel+1,y,h,hf=>by
  obtain⟨h1,h2,h3⟩:=lg h
  obtain⟨g1,g2,g3⟩:=lg h2
  rw[C9] at hf h3
  obtain⟨z,hz⟩:=qP a0 hb t x (k+1) fuel y h2 (by omega)
  rw[bn,if_pos (by omega),if_pos (by omega),if_pos (by omega),show ((k:Int)+1 - 1).toNat=k by omega,h1]
  simp only[CM]
  rw[if_pos (by omega),show ((k:Int)+1).toNat=k+1 by omega,g1]
  simp only[CM]
  by_cases hc:Op.bytesLess p x=true
  ·rw[if_pos hc,if_pos (by omega)]
   refine⟨z,?_⟩
   rw[show ((k:Int)+1+1)=((k+1:Nat):Int)+1 by omega,hz]
   simp only[up,hc,Bool.true_and]
  ·rw[if_neg hc]
   refine⟨0,?_⟩
   simp only[up,hc,Bool.false_and,Bool.false_eq_true,if_false]
theorem zl (a0:List (List UInt8)) (hb:a0.length≤140737488355328):dk a0=some (up Op.bytesLess none a0):=by
 unfold dk
 cases a0 with
 | nil=>rfl
 | cons x t =>
  obtain⟨z,hz⟩:=qP (x::t) hb t x 0 ((((x::t).length:Int) - 1).toNat+1) false rfl (by simp only[C9]; omega)
  rw[show (((0:Nat):Int)+1)=1 from rfl] at hz
  rw[hz]
  simp only[up]
  cases up Op.bytesLess (some x) t <;> rfl
def okn (n:Int):Bool:=decide (0≤n) && decide (n≤2147483647)
def wj (l:List Int):Bool:=l.all okn && up ltI none l && !l.isEmpty
def qj (t:Top):Bool:= !t.Ck.isEmpty && decide (t.Ck.length≤32767) && wj t.B7
def rR (l:List Top):Bool:=l.all qj && up Op.bytesLess none (l.map (·.Ck))
theorem pg (y:Bool): ∀ l:List Int,(∀ n,n∈l→wI n)→di l y=some (if l.all okn=true then .go y else .ret false)
 | [],h=>rfl
 | n::l,h=>by
  have hn:=h n (.head _)
  rw[di,dS _ _ hn,e9,List.all_cons]
  by_cases h1:n<0
  ·have:okn n=false:=by unfold okn; simp; omega
   rw[if_pos h1,this]
   rfl
  ·rw[if_neg h1,CM]
   by_cases h2:n≤2147483647
   ·have:okn n=true:=by unfold okn; simp; omega
    rw[if_pos (by simp; omega),pg y l (fun m hm=>h m (.tail _ hm)),this,Bool.true_and]
   ·have:okn n=false:=by unfold okn; simp; omega
    rw[if_neg (by simp; omega),this]
    rfl
theorem xF (l:List Int) (hw:wL wI l):fP l=some (wj l):=by
 unfold fP wj
 rw[pg false l hw.2]
 cases hall:l.all okn with
 | false=>rfl
 | true =>
  simp only[if_true,CM,Bool.true_and]
  cases l with
  | nil=>rfl
  | cons x t =>
   rw[if_pos (by simp only[C9]; omega),zk _ (by have:=hw.1; omega)]
   simp
theorem mW (y:Bool): ∀ (l:List Top) (acc:List (List UInt8)),(∀ t,t∈l→rN t)→acc.length+l.length≤1000000→cB l y acc=some (if l.all qj=true then .go (y,acc++l.map (·.Ck)) else .ret false)
 | [],acc,h,hl=>by simp[cB]
 | t::l,acc,h,hl=>by
  have ht:=h t (.head _)
  rw[C9] at hl
  rw[cB,xF _ ht.2,List.all_cons]
  by_cases h1:t.Ck = []
  ·have:qj t=false:=by simp[qj,h1]
   rw[if_pos h1,this]
   rfl
  ·rw[if_neg h1]
   by_cases h2:(t.Ck.length:Int)>32767
   ·have:qj t=false:=by simp[qj,show ¬ t.Ck.length≤32767 by omega]
    rw[if_pos h2,this]
    rfl
   ·rw[if_neg h2,CM]
    have hne:t.Ck.isEmpty=false:=by cases hh:t.Ck with | nil=>exact absurd hh h1 | cons c u=>rfl
    have ho:qj t=wj t.B7:=by simp[qj,hne,show t.Ck.length≤32767 by omega]
    rw[ho]
    cases hp:wj t.B7 with
    | false=>rfl
    | true =>
     rw[if_pos rfl,if_pos (by omega),mW y l _ (fun u hu=>h u (.tail _ hu)) (by rw[CO]; simp only[C9,DJ]; omega),Bool.true_and,List.map_cons,CV]
     rfl
theorem ur (l:List Top) (hw: ∀ t,t∈l→rN t) (hl:l.length≤1000000):dl l=some (rR l):=by
 unfold dl rR
 rw[mW false l [] hw (by simpa using hl)]
 cases hall:l.all qj with
 | false=>rfl
 | true =>
  simp only[if_true,CM,Bool.true_and,CW]
  rw[zl _ (by rw[List.length_map]; omega)]
  rfl
end Go.Proofs.YtheikonlgjdopaaGreat.Sl
