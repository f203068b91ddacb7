/- FrameEncodes: for every input the law returns true, and its arguments read behind the call as they did before. -/
import Derived.Test.YtheikonlgjdopaaGreatRows
import Derived.WalkKit
import Derived.ProofKit
import Derived.OpenShut
import Derived.ShutString
import Derived.ChangeOld
import Derived.Below
import Derived.SizedLaws
import Derived.Test.YtheikonlgjdopaaGreatK11
set_option maxRecDepth 100000
set_option maxHeartbeats 4000000
set_option linter.defProp false
namespace Go.Proofs.YtheikonlgjdopaaGreat.Sl
open Go.RowKit
set_option linter.unusedVariables false
set_option linter.unusedSimpArgs false
theorem KB (st:List UInt8×Int) (f:aE):bN st f=bN st (nF f):=by
 unfold bN
 rw[mL]
 unfold nF
 by_cases h22:f.MI.MS=22
 ·rw[QK h22,QK h22,QK h22]; rfl
 rw[QL h22,QL h22,QL h22]
 by_cases h24:f.MI.MS=24
 ·rw[QK h24,QK h24,QK h24]; rfl
 rw[QL h24,QL h24,QL h24]
 by_cases h26:f.MI.MS=26
 ·rw[QK h26,QK h26,QK h26]; rfl
 rw[QL h26,QL h26,QL h26]
 by_cases h27:f.MI.MS=27
 ·rw[QK h27,QK h27,QK h27]; rfl
 rw[QL h27,QL h27,QL h27]
 rfl
theorem G5 (f:aE):db f=db (nF f):=by
 unfold db
 rw[mL]
 simp only[KB _ f]
theorem G6 {d:List UInt8} {p e:Int} (h:nD d p e=0):dE d=true∧who p e=true:=by
 unfold nD at h
 by_cases h1:dE d=true
 ·rw[QK h1] at h
  by_cases h2:who p e=true
  ·exact⟨h1,h2⟩
  ·rw[QL h2] at h; exact absurd h QH
 ·rw[QL h1] at h; exact absurd h QH
theorem FM {d:List UInt8} (h:dE d=true):okTx d:=⟨by have:=pE h; rw[vc]; exact Nt QG,rfl⟩
theorem FN {f:aE} (h:f.MI.MS=22):nF f=frB f.MI f.M6:=by unfold nF; rw[QK h]
theorem FO {f:aE} (h:f.MI.MS=24):nF f=frA f.MI f.M9:=by unfold nF; rw[QL QG,QK h]
theorem FP {f:aE} (h:f.MI.MS=26):nF f=frE f.MI f.M8:=by unfold nF; rw[QL QG,QL QG,QK h]
theorem FQ {f:aE} (h:f.MI.MS=27):nF f=frM f.MI f.M0:=by unfold nF; rw[QL QG,QL QG,QL QG,QK h]
theorem nF_0 {f:aE} (h:f.MI.MS=0):nF f=frP f.MI f.MN:=by unfold nF; rw[QL QG,QL QG,QL QG,QL QG]
theorem KC {v:Int} (hv:v=0∨v=1) {x:bb} (hw:qJ x) (h:fZ x.MM x.ML x.MG x.MJ v=0):Es v x:=by
 obtain⟨c1,c2,c3,c4⟩:=xJ h
 have f1:=EZ c1 c2
 have ft:bm x.ML 4=true:=by rw[eL]; exact Nt QG
 unfold Es
 rcases hv with rfl | rfl
 ·rw[QL QH]
  rcases c4 with c4 | c4
  ·exact⟨⟨f1.1,c1⟩,ft,h,c4⟩
  ·exact absurd c4.1 QH
 ·rw[QK QH]
  rcases c4 with c4 | c4
  ·exact⟨⟨f1.1,c1⟩,ft,by rw[c4.1]; decide,by rw[c4.2]; decide,h⟩
  ·have:=nE c4.2 hw.2.2.1
   exact⟨⟨f1.1,c1⟩,ft,this.1,this.2,h⟩
theorem rk {f:aE} (h:tK f) (hc:kd f=0):okFr (nF f)∧smF (nF f)∧(lc (nF f)).length≤302000∧ofF (nF f)=ofF f:=by
 have hh:mK f.MI=0:=by
  unfold kd at hc
  by_cases hh:mK f.MI=0
  ·exact hh
  ·rw[QL hh] at hc; exact absurd hc hh
 unfold kd at hc
 rw[QK hh] at hc
 have hv:=pb hh
 have hof:ofF (nF f)=ofF f:=of_nF f QG
 have hkey:pZ f.MI (nF f)∧smF (nF f)∧(ky f.MI (nF f)).length≤300010:=by
  obtain⟨w1,w2,w3,w4,w5,w6⟩:=h.wf
  have em: ∀ m:aQ,m∈([]:List aQ)→wTs m.MF≤2000:=fun m hm=>absurd hm List.not_mem_nil
  rcases hv with⟨h0,hv⟩ | ⟨hk,hv⟩
  ·rw[QK h0] at hc
   rw[nF_0 h0]
   obtain⟨q1,q2,q3⟩:=Jw w6 h.pq h.pn hc
   refine⟨?_,⟨NX _,em,by simp[frP,bd],fun _ _ _ _=>(⟨An h,q2,q3⟩:gdQ f.MN∧ _)⟩,?_⟩
   ·unfold pZ; rw[QL QG,QL QG,QL QG,QL QG]; exact⟨q1,rfl⟩
   ·unfold ky; rw[QL QG,QL QG,QL QG,QL QG]; show (pa f.MN).length≤ _; omega
  ·have h0:f.MI.MS≠0:=by omega
   rw[QL h0] at hc
   by_cases h27:f.MI.MS=27
   ·rw[QK h27] at hc
    rw[FQ h27]
    have hf:lA f.MI.MR f.M0=0:=by
     unfold nG at hc
     split at hc
     ·exact absurd hc QH
     ·exact hc
    have hl:=vg f.MI.MR f.M0 1000 h.mt
    have hml:=h.ml
    have hl2:(bd (jJ f.MI.MR) f.M0).length≤20380:=Nat.le_trans hl (Nat.le_trans (Nat.mul_le_mul_right _ hml) QH)
    refine⟨?_,⟨NX _,fun m hm=>by have:=h.mt m hm; omega,?_,fun _ _ _ k=>absurd h27 k⟩,?_⟩
    ·unfold pZ
     rw[QL QG,QL QG,QL QG,QK h27]
     exact⟨⟨⟨by rw[show (frM f.MI f.M0).M0=f.M0 from rfl,eL]; exact Nt QG,fun m hm=>Kj hv (vE hf m hm) (w5.2 m hm).1 (by have:=h.mt m hm; omega)⟩,hc⟩,rfl⟩
    ·show (bd (jJ f.MI.MR) f.M0).length≤ _; omega
    ·unfold ky
     rw[QL QG,QL QG,QL QG,QK h27]
     show (tA f.MI.MR f.M0).length≤ _
     rw[tA,Nv,av]
     omega
   rw[QL h27] at hc
   by_cases h22:f.MI.MS=22
   ·rw[QK h22] at hc
    rw[FN h22]
    refine⟨?_,⟨NX _,em,by simp[frB,bd],fun k=>absurd h22 k⟩,?_⟩
    ·unfold pZ; rw[QK h22]; exact⟨KC hv w2 hc,rfl⟩
    ·unfold ky; rw[QK h22]
     show (yW f.MI.MR f.M6).length≤ _
     have:=h.bg
     unfold yW Co zL vB
     split
     ·simp only[Nv,av]; omega
     ·simp only[Nv,av]; omega
   rw[QL h22] at hc
   by_cases h24:f.MI.MS=24
   ·rw[QK h24] at hc
    rw[FO h24]
    obtain⟨c1,c2,c3⟩:=zM hc
    have hw:=nE c2 w3.2.1
    have hts:=h.ts
    have hn:=kX f.M9.MF
    refine⟨?_,⟨by show wTs f.M9.MF≤ _; omega,em,by simp[frA,bd],fun _ k=>absurd h24 k⟩,?_⟩
    ·unfold pZ; rw[QL h22,QK h24]
     exact⟨⟨FM c1,hw.1,hw.2,⟨by rw[show (frA f.MI f.M9).M9.MF=f.M9.MF from rfl,eL]; exact Nt QG,AV (vd c3).2 (by show wTs f.M9.MF≤ _; omega)⟩,hc⟩,rfl⟩
    ·unfold ky; rw[QL h22,QK h24]
     show (AY f.M9).length≤ _
     have:=h.ad
     simp only[AY,qN,j4,Nv,av,hO]
     omega
   rw[QL h24] at hc
   have h26:f.MI.MS=26:=by omega
   rw[FP h26]
   obtain⟨c1,c2⟩:=G6 hc
   have hw:=nE c2 w4.2.1
   refine⟨?_,⟨NX _,em,by simp[frE,bd],fun _ _ k=>absurd h26 k⟩,?_⟩
   ·unfold pZ; rw[QL h22,QL h24,QK h26]; exact⟨⟨FM c1,hw.1,hw.2,hc⟩,rfl⟩
   ·unfold ky; rw[QL h22,QL h24,QK h26]
    show (AX f.M8).length≤ _
    have:=h.en
    have hb:(gI f.M8.MZ).length≤1:=by cases f.M8.MZ <;> decide
    simp only[AX,qN,Nv,av]
    omega
 obtain⟨k1,k2,k3⟩:=hkey
 have hcl:=h.cl
 have hl:(lc (nF f)).length≤302000:=by
  rw[lc,mL,Nv,yx]
  omega
 refine⟨⟨⟨by rw[mL]; exact DW hh,by rw[mL]; exact k1⟩,by rw[eL]; exact Nt QG⟩,k2,hl,hof⟩
theorem vm (k v:Int) (hk:k=22∨k=24∨k=26) (hv:v=0∨v=1) (r:bF) (hn:k≠22→r.MM.null=false) (hm:wI r.ML) (hp:wI r.MG) (he:wI r.MJ) (hl: ∀ t,t∈r.MF→kV t) (hw2:wTs r.MF≤2000) (hd:r.MM.data.length≤100000):jk k v r=some (encR k v r):=by
 unfold jk encR
 have l8:=av r.MG 8
 have l2:=av r.MJ 2
 have l4:=av r.ML 4
 have l1: ∀ n,(be n 1).length=1:=fun n=>av n 1
 have lb:(be (co r.MM) 2++r.MM.data).length≤100002:=by rw[Nv,av]; omega
 rw[kh _ _ ⟨by decide,by decide,by omega⟩,Nr,show (2:Int).toNat=2 from rfl]
 by_cases h22:k=22
 ·rw[QK h22,QK h22,bO _ _ ⟨hm,by decide,by decide⟩,Nr,show (4:Int).toNat=4 from rfl,QK QG]
  unfold yW
  rcases hv with rfl | rfl
  ·rw[QK rfl,QL QH]
   rfl
  ·rw[QL QH,QK QH,bO _ _ ⟨hp,by decide,by decide⟩,Nr,show (8:Int).toNat=8 from rfl,QK (by rw[Nv]; omega),bO _ _ ⟨he,by decide,by decide⟩,Nr,show (2:Int).toNat=2 from rfl,QK (by rw[Nv,Nv]; omega)]
   simp only[zL,vB,toB,NA]
 ·have hnull:=hn h22
  have hbl:co r.MM=(r.MM.data.length:Int):=by unfold co; rw[QL (by simp[hnull])]
  rw[QL h22,QL h22,bO _ _ ⟨hp,by decide,by decide⟩,Nr,show (8:Int).toNat=8 from rfl,QK QG,bO _ _ ⟨he,by decide,by decide⟩,Nr,show (2:Int).toNat=2 from rfl,QK (by rw[Nv]; omega),hbl]
  rcases hk with rfl | rfl | rfl
  ·exact absurd rfl h22
  ·have hts:(be (r.MF.length:Int) 4++bd kW r.MF).length≤2004:=by rw[Nv,av,hO]; omega
   rw[QK rfl,QK rfl,EW _ hl hw2,Nr,QK (by rw[Nv,Nv,← hbl]; omega)]
   simp only[AY,qN,j4,toA,NA]
  ·rw[QL (show ¬ (26:Int)=24 by decide),QK rfl,Nr,QL (show ¬ (26:Int)=24 by decide)]
   unfold AX gI
   cases hc:(toE r).MZ with
   | true =>
    have hc:r.MZ=true:=hc
    rw[hc,QK rfl,QK rfl,bO _ _ ⟨by decide,by decide,by decide⟩,Nr,show (1:Int).toNat=1 from rfl,QK (by rw[Nv,Nv,l1,← hbl]; omega)]
    simp only[qN,toE,NA]
   | false =>
    have hc:r.MZ=false:=hc
    rw[hc,QL QH,QK rfl,bO _ _ ⟨by decide,by decide,by decide⟩,Nr,show (1:Int).toNat=1 from rfl,QK (by rw[Nv,Nv,l1,← hbl]; omega)]
    simp only[qN,toE,NA]
    rfl
theorem vn (r:bF) (h1:r.MF.length≤1000000) (h2: ∀ t,t∈r.MF→t.MH.length≤140737488355328):lv r r=some true:=by
 unfold lv
 rw[QK rfl,QK rfl,QK rfl,QK rfl,QK rfl,Ch _ _ h1 h2,vA]
 cases r.MZ <;> rfl
theorem JB:mI=some true:=by kernel_rfl
theorem G7 {f:aE} (h:tK f) (hk:f.MI.MS=0∨f.MI.MS=22∨f.MI.MS=24∨f.MI.MS=26∨f.MI.MS=27):j2 (nF f)=some (ofF f):=by
 rw[← of_nF f hk]
 refine of21 (nF f) ?_ ?_
 ·have:=h.ml
  rcases hk with k | k | k | k | k
  ·rw[nF_0 k]; exact NX _
  ·rw[FN k]; exact NX _
  ·rw[FO k]; exact NX _
  ·rw[FP k]; exact NX _
  ·rw[FQ k]; show f.M0.length≤ _; omega
 ·rw[mL]
  intro k
  rw[nF_0 k]
  show gW f.MN=some (ofQ f.MN)
  exact Bt (An h)
theorem pc:et z20 z20=some true:=by
 have:=vN (b:=zQ) zQ_gd
 rw[yi] at this
 exact this
theorem qW:j9 [] []=some true:=by
 have:=Cs [] [] QH (fun m hm=>absurd hm List.not_mem_nil)
 exact this
theorem JC {f:aE} (h:tK f):nl (ofF f) (ofF f)=some true:=by
 have hb: ∀ {t:Top} {l:List Top},wTs l≤1000→t∈l→t.MH.length≤140737488355328:=fun {t l} hw ht=>by
  have:=tw _ _ ht
  unfold wT at this
  omega
 have h18:lv (ofF f).Nd (ofF f).Nd=some true:=by
  have hn:=kX f.M9.MF
  have hts:=h.ts
  unfold ofF
  split
  ·exact vn zR QH (fun t ht=>absurd ht List.not_mem_nil)
  split
  ·exact vn (gB f.M6) (NX _) (fun t ht=>absurd ht List.not_mem_nil)
  split
  ·exact vn (gA f.M9) (by show f.M9.MF.length≤ _; omega) (fun t ht=>hb hts ht)
  split
  ·exact vn (gE f.M8) (NX _) (fun t ht=>absurd ht List.not_mem_nil)
  split
  ·exact vn zR QH (fun t ht=>absurd ht List.not_mem_nil)
  ·exact vn zR QH (fun t ht=>absurd ht List.not_mem_nil)
 have h19:j9 (ofF f).M0 (ofF f).M0=some true:=by
  unfold ofF
  split
  ·exact qW
  split
  ·exact qW
  split
  ·exact qW
  split
  ·exact qW
  split
  ·have:=Cs f.M0 f.M0 (by have:=h.ml; omega) (fun m hm=>⟨by have:=kX m.MF; have:=h.mt m hm; omega,fun t ht=>hb (h.mt m hm) ht⟩)
   rw[Nt rfl] at this
   exact this
  ·exact qW
 have h20:et (ofF f).MN (ofF f).MN=some true:=by
  unfold ofF
  split
  ·have:=vN (b:=f.MN) (An h)
   rw[yi] at this
   exact this
  split
  ·exact pc
  split
  ·exact pc
  split
  ·exact pc
  split
  ·exact pc
  ·exact pc
 unfold nl
 rw[QK rfl,QK rfl,QK rfl,QK rfl,QK rfl,h18,Nr,QK rfl,h19,Nr,QK rfl,h20]
 rfl
theorem JD {f:aE} (hc:kd f=0):f.MI.MS=0∨f.MI.MS=22∨f.MI.MS=24∨f.MI.MS=26∨f.MI.MS=27:=by
 have hh:mK f.MI=0:=by
  unfold kd at hc
  by_cases hh:mK f.MI=0
  ·exact hh
  ·rw[QL hh] at hc; exact absurd hc hh
 have:=pb hh
 omega
theorem Ev {f:aE} (h:tK f) (hc:kd f=0):db f=some (qV (nF f),0):=by
 obtain⟨k1,k2,k3,k4⟩:=rk h hc
 rw[G5 f,Et k1 k2 QG]
theorem G8 {f:aE} (h:tK f) (hc:kd f=0):(qV (nF f)).length≤302004:=by
 obtain⟨k1,k2,k3,k4⟩:=rk h hc
 rw[qV,Nv,av]
 omega
theorem JE (f:aE):(ofF f).MI=pJ f.MI:=by
 unfold ofF
 repeat' split
 all_goals rfl
theorem chkF_H {f:aE} (hc:kd f=0):mK f.MI=0:=by
 unfold kd at hc
 by_cases hh:mK f.MI=0
 ·exact hh
 ·rw[QL hh] at hc; exact absurd hc hh
theorem JF {f:aE} (h:tK f) (hc:kd f=0):(if f.MI.MS=0 then jh (ofF f).MN else if f.MI.MS=27 then jl (ofF f).M0 f.MI.MR else jk f.MI.MS f.MI.MR (ofF f).Nd)=some (ky f.MI (nF f)):=by
 have hh:=chkF_H hc
 have hc':=hc
 unfold kd at hc
 rw[QK hh] at hc
 obtain⟨w1,w2,w3,w4,w5,w6⟩:=h.wf
 unfold ky
 rcases pb hh with⟨h0,hv⟩ | ⟨hk,hv⟩
 ·rw[QK h0] at hc ⊢
  rw[QL QG,QL QG,QL QG,QL QG,nF_0 h0]
  have e:(ofF f).MN=ofQ f.MN:=by unfold ofF; rw[QK h0]
  obtain⟨q1,q2,q3⟩:=Jw w6 h.pq h.pn hc
  have n1:=oc (ok:=Br) yu f.MN.MF q1.2.2.2.1.2
  have hl:=q2
  simp only[pa,Nv,av] at hl
  rw[e,GZ ⟨dY q1.2.1,dY q1.2.2.1⟩ QG (fun t ht=>⟨by have:=(q3 t ht).2.1; omega,fun p hp=>⟨dY ((q1.2.2.2.1.2 t ht).2.2 p hp).1,by have:=((q3 t ht).2.2 p hp).1; omega,((q3 t ht).2.2 p hp).2⟩⟩) QG]
  rfl
 ·have h0:f.MI.MS≠0:=by omega
  rw[QL h0] at hc ⊢
  by_cases h27:f.MI.MS=27
  ·rw[QK h27] at hc ⊢
   rw[QL QG,QL QG,QL QG,QK h27,FQ h27]
   have e:(ofF f).M0=f.M0.map toR:=by unfold ofF; rw[QL h0,QL QG,QL QG,QL QG,QK h27]
   have hl:=vg f.MI.MR f.M0 1000 h.mt
   have hml:=h.ml
   have hl2:(bd (jJ f.MI.MR) f.M0).length≤20380:=Nat.le_trans hl (Nat.le_trans (Nat.mul_le_mul_right _ hml) QH)
   rw[e,GB _ hv f.M0 QG (fun m hm=>⟨(w5.2 m hm).1,(w5.2 m hm).2.1,(w5.2 m hm).2.2.2.2,(w5.2 m hm).2.2.2.1.2,by have:=h.mt m hm; omega⟩) QG]
   rfl
  rw[QL h27] at hc ⊢
  by_cases h22:f.MI.MS=22
  ·rw[QK h22,FN h22]
   have e:(ofF f).Nd=gB f.M6:=by unfold ofF; rw[QL h0,QK h22]
   rw[e,vm _ _ (.inl h22) hv _ (fun k=>absurd h22 k) w2.2.1 w2.2.2.1 w2.2.2.2 (fun t ht=>absurd ht List.not_mem_nil) (NX _) (by show f.M6.MM.data.length≤ _; have:=h.bg; omega)]
   unfold encR
   rw[QK h22]
   rfl
  by_cases h24:f.MI.MS=24
  ·rw[QL h22,QK h24,FO h24]
   have e:(ofF f).Nd=gA f.M9:=by unfold ofF; rw[QL h0,QL h22,QK h24]
   rw[e,vm _ _ (.inr (.inl h24)) hv _ (fun _=>rfl) wi0 w3.2.1 w3.2.2.1 w3.2.2.2.2 (by show wTs f.M9.MF≤ _; have:=h.ts; omega) (by show f.M9.MM.length≤ _; have:=h.ad; omega)]
   unfold encR
   rw[QL h22,QK h24]
   rfl
  ·have h26:f.MI.MS=26:=by omega
   rw[QL h22,QL h24,QK h26,FP h26]
   have e:(ofF f).Nd=gE f.M8:=by unfold ofF; rw[QL h0,QL h22,QL h24,QK h26]
   rw[e,vm _ _ (.inr (.inr h26)) hv _ (fun _=>rfl) wi0 w4.2.1 w4.2.2.1 (fun t ht=>absurd ht List.not_mem_nil) (NX _) (by show f.M8.MM.length≤ _; have:=h.en; omega)]
   unfold encR
   rw[QL h22,QL h24]
   rfl
theorem KD {f:aE} (h:tK f) (hc:kd f=0):kH (ofF f)=some (qV (nF f)):=by
 have hb:=JF h hc
 obtain⟨k1,k2,k3,k4⟩:=rk h hc
 have hin:lc (nF f)=nA f.MI++ky f.MI (nF f):=by rw[lc,mL]
 have hl:(nA f.MI).length+(ky f.MI (nF f)).length≤302000:=by rw[← Nv,← hin]; exact k3
 have hw:=h.wf.1
 unfold kH
 rw[JE,Gt (pJ f.MI) hw.1 hw.2.1 hw.2.2.1 (by show f.MI.MQ.data.length≤ _; have:=h.cl; omega),Nr]
 have e:(⟨(pJ f.MI).MS,(pJ f.MI).MR,(pJ f.MI).MY,(pJ f.MI).MQ⟩:fx)=f.MI:=rfl
 have e0:(pJ f.MI).MS=f.MI.MS:=rfl
 have e1:(pJ f.MI).MR=f.MI.MR:=rfl
 rw[e,e0,e1]
 have key:((if f.MI.MS=0 then ((jh (ofF f).MN).bind fun x33=>if (nA f.MI).length+x33.length≤9223372036854775807 then some (nA f.MI++x33) else none) else ((if f.MI.MS=27 then ((jl (ofF f).M0 f.MI.MR).bind fun x46=>if (nA f.MI).length+x46.length≤9223372036854775807 then some (nA f.MI++x46) else none) else ((jk f.MI.MS f.MI.MR (ofF f).Nd).bind fun x49=>if (nA f.MI).length+x49.length≤9223372036854775807 then some (nA f.MI++x49) else none)).bind fun y43=>some y43)):Option (List UInt8))=some (lc (nF f)):=by
  rw[hin]
  by_cases h0:f.MI.MS=0
  ·rw[QK h0] at hb ⊢
   rw[hb,Nr,QK QG]
  ·rw[QL h0] at hb ⊢
   by_cases h27:f.MI.MS=27
   ·rw[QK h27] at hb ⊢
    rw[hb,Nr,QK QG]
    rfl
   ·rw[QL h27] at hb ⊢
    rw[hb,Nr,QK QG]
    rfl
 rw[key,Nr]
 have hf4:bm ((lc (nF f)).length:Int) 4=true:=k1.2
 rw[bO _ _ ⟨⟨by omega,by omega⟩,by decide,by decide⟩,Nr,QK (by rw[av]; show 4 + _≤ _; omega)]
 rfl
theorem G9 {f:aE} (h:tK f) (hh:mK f.MI=0) (hc:kd f≠0) {t:List UInt8} (ht:t.length≤100000):bN (t,0) f=some (t,kd f):=by
 obtain⟨w1,w2,w3,w4,w5,w6⟩:=h.wf
 rcases pb hh with⟨h0,hv⟩ | ⟨hk,hv⟩
 ·have e:kd f=sw f.MI.MR f.MN:=by unfold kd; rw[QK hh,QK h0]
  rw[e] at hc ⊢
  unfold bN
  rw[QL QG,QL QG,QL QG,QL QG]
  unfold dC
  rw[Eo f.MN _ (An h),Nr,QL hc,oF]
  rfl
 ·have h0:f.MI.MS≠0:=by omega
  by_cases h27:f.MI.MS=27
  ·have e:kd f=nG f.MI.MR f.M0:=by unfold kd; rw[QK hh,QL h0,QK h27]
   rw[e] at hc ⊢
   unfold bN
   rw[QL QG,QL QG,QL QG,QK h27]
   unfold jD
   rw[DZ _ f.M0 (fun m hm=>⟨(w5.2 m hm).2.1,(w5.2 m hm).2.2.2.2,(w5.2 m hm).2.2.2.1.2,by have:=kX m.MF; have:=h.mt m hm; omega⟩),Nr,QL hc,oF]
   rfl
  by_cases h22:f.MI.MS=22
  ·have e:kd f=fZ f.M6.MM f.M6.ML f.M6.MG f.M6.MJ f.MI.MR:=by unfold kd; rw[QK hh,QL h0,QL h27,QK h22]
   rw[e] at hc ⊢
   unfold bN
   rw[QK h22,sj f.M6 _ t w2.2.2.1 w2.2.2.2 w2.2.1 QG,QL hc]
   rfl
  by_cases h24:f.MI.MS=24
  ·have e:kd f=om f.M9.MM f.M9.MG f.M9.MJ f.M9.MF:=by unfold kd; rw[QK hh,QL h0,QL h27,QL h22,QK h24]
   rw[e] at hc ⊢
   unfold bN
   rw[QL h22,QK h24,Cq f.M9 t w3.2.1 w3.2.2.1 (FK h) (by have:=h.ts; omega) QG,QL hc]
   rfl
  ·have e:kd f=nD f.M8.MM f.M8.MG f.M8.MJ:=by unfold kd; rw[QK hh,QL h0,QL h27,QL h22,QL h24]
   rw[e] at hc ⊢
   unfold bN
   rw[QL h22,QL h24,QK QG,Cp f.M8 t w4.2.1 w4.2.2.1 QG,QL hc]
   rfl
theorem JG {f:aE} (h:tK f) (hc:kd f≠0):db f=some ([],kd f):=by
 unfold db
 rw[xy f.MI [] (NX _) h.wf.1.2.2.1 (by have:=h.cl; omega),Nr,NM]
 by_cases hh:mK f.MI=0
 ·have hb:=G9 h hh hc (t:=nA f.MI) (by rw[yx]; have:=h.cl; omega)
  rw[QK hh,wE,Nr]
  dsimp only
  rw[QK rfl,hb,Nr,Nr,jA,otx_e _ _ hc,Nr]
  dsimp only
  rw[QL hc]
 ·have e:kd f=mK f.MI:=by unfold kd; rw[QL hh]
  rw[QL hh,wE,Nr]
  dsimp only
  rw[QL hh,Nr,jA,otx_e _ _ hh,Nr]
  dsimp only
  rw[QL hh,e]
theorem of20_z:gW zQ=some z20:=Bt zQ_gd
theorem Ha:et z20 (⟨(⟨false,[]⟩:Bl),0,0,[]⟩:bl)=some true:=pc
theorem Hb {f:aE} (hk:f.MI.MS=0∨f.MI.MS=22∨f.MI.MS=24∨f.MI.MS=26∨f.MI.MS=27):kU (nF f)=some true:=by
 unfold kU
 rw[mL]
 have o:=of20_z
 have s:=Ha
 rcases hk with k | k | k | k | k
 ·rw[nF_0 k]
  simp[k,frP,zB,zA,zE]
 ·rw[FN k]
  simp only[k,frB,zA,zE,o,s,Nr,if_true,if_false,Ov]
  simp
 ·rw[FO k]
  simp only[k,frA,zB,zE,o,s,Nr,if_true,if_false,Ov]
  simp
 ·rw[FP k]
  simp only[k,frE,zB,zA,o,s,Nr,if_true,if_false,Ov]
  simp
 ·rw[FQ k]
  simp only[k,frM,zB,zA,zE,o,s,Nr,if_true,if_false,Ov]
  simp
theorem Hc {f:aE} (h:okFr f):FJ (qV f)=(f,0):=by
 have hb:=Jx (s:=qV f) (t := []) (NX _) h (by rw[List.drop_zero,NP])
 unfold FJ
 rw[hb,Nat.zero_add]
 simp only[C6]
 rw[QL QG]
theorem pure_FrameEncodes (a0:aE) (w0:j3 a0):iD a0=some true:=by
 unfold iD
 rw[JB,Nr,QK rfl]
 rcases few21 a0 w0 with h1 | ⟨h1,hF⟩
 ·rw[h1,Nr,QK rfl]
 rw[h1,Nr,QL QH]
 by_cases hc:kd a0=0
 ·obtain⟨k1,k2,k3,k4⟩:=rk hF hc
  have hk:=JD hc
  have hl:=G8 hF hc
  rw[Ev hF hc,Nr]
  dsimp only
  rw[JA hF,Nr,FL hF,Nr,QK hc.symm,QK hc,Eu _ QG,Hc k1,Nr]
  dsimp only
  rw[Nr,KD hF hc,Nr,QK rfl,QK rfl,G7 hF hk,Nr,Nr,JC hF,Nr,QK rfl,Hb hk]
  rfl
 ·rw[JG hF hc,Nr]
  dsimp only
  rw[JA hF,Nr,FL hF,Nr,QK rfl,QL hc,QK rfl]
open Go.RowKit Go.Deep Go.ChangeShapes
theorem Ao {H:Type} {enc:TypeId×Value→H}:eP enc Tryz.prog 23 (ij BU xw) :=
 dN (fun x=>⟨x.1,x.2.1⟩) (cR Tryz.underlying23 QI (aN 1 QI QI (rf Tryz.underlying4) (aN 1 QI QI (u4 Tryz.underlying9) (dm _)))) (by
  rintro w S cs ⟨x0,x1,_⟩ ⟨_,_,rfl,⟨p0,q0⟩,_,_,rfl,⟨p1,q1⟩,rfl⟩
  obtain rfl:=p0
  obtain rfl:=p1
  exact⟨rfl,q0,q1⟩)
theorem KE {H:Type} {enc:TypeId×Value→H}:eP enc Tryz.prog 25 (ij JU EO) :=
 dN (fun x=>⟨x.1,x.2.1,x.2.2.1,x.2.2.2.1⟩) (cR Tryz.underlying25 QI (aN 1 QI QI (eQ Tryz.underlying3) (aN 1 QI QI (eQ Tryz.underlying3) (aN 1 QI QI (eQ Tryz.underlying3) (aN 2 QI QI Ao (dm _)))))) (by
  rintro w S cs ⟨x0,x1,x2,x3,_⟩ ⟨_,_,rfl,⟨p0,q0⟩,_,_,rfl,⟨p1,q1⟩,_,_,rfl,⟨p2,q2⟩,_,_,rfl,⟨p3,q3⟩,rfl⟩
  obtain rfl:=p0
  obtain rfl:=p1
  obtain rfl:=p2
  obtain rfl:=p3
  exact⟨rfl,q0,q1,q2,q3⟩)
theorem C9 {H:Type} {enc:TypeId×Value→H}:eP enc Tryz.prog 27 (ij BV qJ) :=
 dN (fun x=>⟨x.1,x.2.1,x.2.2.1,x.2.2.2.1⟩) (cR Tryz.underlying27 QI (aN 2 QI QI Ao (aN 1 QI QI (eQ Tryz.underlying3) (aN 1 QI QI (eQ Tryz.underlying3) (aN 1 QI QI (eQ Tryz.underlying3) (dm _)))))) (by
  rintro w S cs ⟨x0,x1,x2,x3,_⟩ ⟨_,_,rfl,⟨p0,q0⟩,_,_,rfl,⟨p1,q1⟩,_,_,rfl,⟨p2,q2⟩,_,_,rfl,⟨p3,q3⟩,rfl⟩
  obtain rfl:=p0
  obtain rfl:=p1
  obtain rfl:=p2
  obtain rfl:=p3
  exact⟨rfl,q0,q1,q2,q3⟩)
theorem JH {H:Type} {enc:TypeId×Value→H}:eP enc Tryz.prog 171 (ij bc kV) :=
 dN (fun x=>⟨x.1,x.2.1⟩) (cR Tryz.underlying171 QI (aN 1 QI QI (u4 Tryz.underlying9) (aN 1 QI QI (nw 1 8 Tryz.underlying74 QI QI QH QH (eQ Tryz.underlying3)) (dm _)))) (by
  rintro w S cs ⟨x0,x1,_⟩ ⟨_,_,rfl,⟨p0,q0⟩,_,_,rfl,⟨p1,q1⟩,rfl⟩
  obtain rfl:=p0
  obtain⟨A1,c1,rfl⟩:=gG p1
  exact⟨⟨A1,c1,rfl,p1⟩,q0,q1⟩)
theorem He {H:Type} {enc:TypeId×Value→H}:eP enc Tryz.prog 30 (ij F6 zC) :=
 dN (fun x=>⟨x.1,x.2.1,x.2.2.1,x.2.2.2.1⟩) (cR Tryz.underlying30 QI (aN 1 QI QI (u4 Tryz.underlying9) (aN 1 QI QI (eQ Tryz.underlying3) (aN 1 QI QI (eQ Tryz.underlying3) (aN 1 QI QI (nw 2 40 Tryz.underlying28 QI QI QH QH JH) (dm _)))))) (by
  rintro w S cs ⟨x0,x1,x2,x3,_⟩ ⟨_,_,rfl,⟨p0,q0⟩,_,_,rfl,⟨p1,q1⟩,_,_,rfl,⟨p2,q2⟩,_,_,rfl,⟨p3,q3⟩,rfl⟩
  obtain rfl:=p0
  obtain rfl:=p1
  obtain rfl:=p2
  obtain⟨A3,c3,rfl⟩:=gG p3
  exact⟨⟨A3,c3,rfl,p3⟩,q0,q1,q2,q3⟩)
theorem Hf {H:Type} {enc:TypeId×Value→H}:eP enc Tryz.prog 32 (ij F5 zz) :=
 dN (fun x=>⟨x.1,x.2.1,x.2.2.1,x.2.2.2.1⟩) (cR Tryz.underlying32 QI (aN 1 QI QI (u4 Tryz.underlying9) (aN 1 QI QI (eQ Tryz.underlying3) (aN 1 QI QI (eQ Tryz.underlying3) (aN 1 QI QI (rf Tryz.underlying4) (dm _)))))) (by
  rintro w S cs ⟨x0,x1,x2,x3,_⟩ ⟨_,_,rfl,⟨p0,q0⟩,_,_,rfl,⟨p1,q1⟩,_,_,rfl,⟨p2,q2⟩,_,_,rfl,⟨p3,q3⟩,rfl⟩
  obtain rfl:=p0
  obtain rfl:=p1
  obtain rfl:=p2
  obtain rfl:=p3
  exact⟨rfl,q0,q1,q2,q3⟩)
theorem Da {H:Type} {enc:TypeId×Value→H}:eP enc Tryz.prog 173 (ij aY ob) :=
 dN (fun x=>⟨x.1,x.2.1,x.2.2.1,x.2.2.2.1,x.2.2.2.2.1⟩) (cR Tryz.underlying173 QI (aN 1 QI QI (eQ Tryz.underlying3) (aN 1 QI QI (eQ Tryz.underlying3) (aN 1 QI QI (rf Tryz.underlying4) (aN 1 QI QI (nw 2 40 Tryz.underlying28 QI QI QH QH JH) (aN 1 QI QI (eQ Tryz.underlying3) (dm _))))))) (by
  rintro w S cs ⟨x0,x1,x2,x3,x4,_⟩ ⟨_,_,rfl,⟨p0,q0⟩,_,_,rfl,⟨p1,q1⟩,_,_,rfl,⟨p2,q2⟩,_,_,rfl,⟨p3,q3⟩,_,_,rfl,⟨p4,q4⟩,rfl⟩
  obtain rfl:=p0
  obtain rfl:=p1
  obtain rfl:=p2
  obtain⟨A3,c3,rfl⟩:=gG p3
  obtain rfl:=p4
  exact⟨⟨A3,c3,rfl,p3⟩,q0,q1,q2,q3,q4⟩)
theorem op_Hd {H:Type} {enc:TypeId×Value→H}:eP enc Tryz.prog 245 (ij dq Ii) :=
 dN (fun x=>⟨x.1,x.2.1⟩) (cR Tryz.underlying245 QI (aN 1 QI QI (u4 Tryz.underlying9) (aN 2 QI QI Ao (dm _)))) (by
  rintro w S cs ⟨x0,x1,_⟩ ⟨_,_,rfl,⟨p0,q0⟩,_,_,rfl,⟨p1,q1⟩,rfl⟩
  obtain rfl:=p0
  obtain rfl:=p1
  exact⟨rfl,q0,q1⟩)
theorem op_Rec {H:Type} {enc:TypeId×Value→H}:eP enc Tryz.prog 91 (ij da xx) :=
 dN (fun x=>⟨x.1,x.2.1,x.2.2.1,x.2.2.2.1,x.2.2.2.2.1⟩) (cR Tryz.underlying91 QI (aN 1 QI QI (eQ Tryz.underlying3) (aN 1 QI QI (eQ Tryz.underlying3) (aN 2 QI QI Ao (aN 2 QI QI Ao (aN 1 QI QI (nw 3 40 Tryz.underlying89 QI QI QH QH op_Hd) (dm _))))))) (by
  rintro w S cs ⟨x0,x1,x2,x3,x4,_⟩ ⟨_,_,rfl,⟨p0,q0⟩,_,_,rfl,⟨p1,q1⟩,_,_,rfl,⟨p2,q2⟩,_,_,rfl,⟨p3,q3⟩,_,_,rfl,⟨p4,q4⟩,rfl⟩
  obtain rfl:=p0
  obtain rfl:=p1
  obtain rfl:=p2
  obtain rfl:=p3
  obtain⟨A4,c4,rfl⟩:=gG p4
  exact⟨⟨A4,c4,rfl,p4⟩,q0,q1,q2,q3,q4⟩)
theorem op_Bat {H:Type} {enc:TypeId×Value→H}:eP enc Tryz.prog 97 (ij dG ol) :=
 dN (fun x=>⟨x.1,x.2.1,x.2.2.1,x.2.2.2.1,x.2.2.2.2.1,x.2.2.2.2.2.1,x.2.2.2.2.2.2.1,x.2.2.2.2.2.2.2.1,x.2.2.2.2.2.2.2.2.1,x.2.2.2.2.2.2.2.2.2.1,x.2.2.2.2.2.2.2.2.2.2.1,x.2.2.2.2.2.2.2.2.2.2.2.1⟩) (cR Tryz.underlying97 QI (aN 1 QI QI (eQ Tryz.underlying3) (aN 1 QI QI (eQ Tryz.underlying3) (aN 1 QI QI (rf Tryz.underlying4) (aN 1 QI QI (rf Tryz.underlying4) (aN 1 QI QI (rf Tryz.underlying4) (aN 1 QI QI (eQ Tryz.underlying3) (aN 1 QI QI (eQ Tryz.underlying3) (aN 1 QI QI (eQ Tryz.underlying3) (aN 1 QI QI (eQ Tryz.underlying3) (aN 1 QI QI (eQ Tryz.underlying3) (aN 1 QI QI (eQ Tryz.underlying3) (aN 1 QI QI (nw 7 88 Tryz.underlying95 QI QI QH QH op_Rec) (dm _)))))))))))))) (by
  rintro w S cs ⟨x0,x1,x2,x3,x4,x5,x6,x7,x8,x9,x10,x11,_⟩ ⟨_,_,rfl,⟨p0,q0⟩,_,_,rfl,⟨p1,q1⟩,_,_,rfl,⟨p2,q2⟩,_,_,rfl,⟨p3,q3⟩,_,_,rfl,⟨p4,q4⟩,_,_,rfl,⟨p5,q5⟩,_,_,rfl,⟨p6,q6⟩,_,_,rfl,⟨p7,q7⟩,_,_,rfl,⟨p8,q8⟩,_,_,rfl,⟨p9,q9⟩,_,_,rfl,⟨p10,q10⟩,_,_,rfl,⟨p11,q11⟩,rfl⟩
  obtain rfl:=p0
  obtain rfl:=p1
  obtain rfl:=p2
  obtain rfl:=p3
  obtain rfl:=p4
  obtain rfl:=p5
  obtain rfl:=p6
  obtain rfl:=p7
  obtain rfl:=p8
  obtain rfl:=p9
  obtain rfl:=p10
  obtain⟨A11,c11,rfl⟩:=gG p11
  exact⟨⟨A11,c11,rfl,p11⟩,q0,q1,q2,q3,q4,q5,q6,q7,q8,q9,q10,q11⟩)
theorem yy {H:Type} {enc:TypeId×Value→H}:eP enc Tryz.prog 179 (ij bX nz) :=
 dN (fun x=>⟨x.1,x.2.1⟩) (cR Tryz.underlying179 QI (aN 1 QI QI (eQ Tryz.underlying3) (aN 1 QI QI (nw 12 96 Tryz.underlying177 QI QI QH QH op_Bat) (dm _)))) (by
  rintro w S cs ⟨x0,x1,_⟩ ⟨_,_,rfl,⟨p0,q0⟩,_,_,rfl,⟨p1,q1⟩,rfl⟩
  obtain rfl:=p0
  obtain⟨A1,c1,rfl⟩:=gG p1
  exact⟨⟨A1,c1,rfl,p1⟩,q0,q1⟩)
theorem wg {H:Type} {enc:TypeId×Value→H}:eP enc Tryz.prog 176 (ij aM mp) :=
 dN (fun x=>⟨x.1,x.2.1⟩) (cR Tryz.underlying176 QI (aN 1 QI QI (u4 Tryz.underlying9) (aN 1 QI QI (zy 2 32 Tryz.underlying174 QI QI QH QH yy) (dm _)))) (by
  rintro w S cs ⟨x0,x1,_⟩ ⟨_,_,rfl,⟨p0,q0⟩,_,_,rfl,⟨p1,q1⟩,rfl⟩
  obtain rfl:=p0
  obtain⟨A1,c1,rfl⟩:=gG p1
  exact⟨⟨A1,c1,rfl,p1⟩,q0,q1⟩)
theorem tL {H:Type} {enc:TypeId×Value→H}:eP enc Tryz.prog 36 (ij sR gH) :=
 dN (fun x=>⟨x.1,x.2.1,x.2.2.1,x.2.2.2.1⟩) (cR Tryz.underlying36 QI (aN 2 QI QI Ao (aN 1 QI QI (eQ Tryz.underlying3) (aN 1 QI QI (eQ Tryz.underlying3) (aN 1 QI QI (zy 2 40 Tryz.underlying34 QI QI QH QH wg) (dm _)))))) (by
  rintro w S cs ⟨x0,x1,x2,x3,_⟩ ⟨_,_,rfl,⟨p0,q0⟩,_,_,rfl,⟨p1,q1⟩,_,_,rfl,⟨p2,q2⟩,_,_,rfl,⟨p3,q3⟩,rfl⟩
  obtain rfl:=p0
  obtain rfl:=p1
  obtain rfl:=p2
  obtain⟨A3,c3,rfl⟩:=gG p3
  exact⟨⟨A3,c3,rfl,p3⟩,q0,q1,q2,q3⟩)
theorem op_FrameFrame {H:Type} {enc:TypeId×Value→H}:eP enc Tryz.prog 38 (ij yM j3) :=
 dN (fun x=>⟨x.1,x.2.1,x.2.2.1,x.2.2.2.1,x.2.2.2.2.1,x.2.2.2.2.2.1⟩) (cR Tryz.underlying38 QI (aN 5 QI QI KE (aN 5 QI QI C9 (aN 4 QI QI He (aN 4 QI QI Hf (aN 1 QI QI (nw 5 56 Tryz.underlying33 QI QI QH QH Da) (aN 5 QI QI tL (dm _)))))))) (by
  rintro w S cs ⟨x0,x1,x2,x3,x4,x5,_⟩ ⟨_,_,rfl,⟨p0,q0⟩,_,_,rfl,⟨p1,q1⟩,_,_,rfl,⟨p2,q2⟩,_,_,rfl,⟨p3,q3⟩,_,_,rfl,⟨p4,q4⟩,_,_,rfl,⟨p5,q5⟩,rfl⟩
  obtain rfl:=p0
  obtain rfl:=p1
  obtain⟨A2_0,c2_0,rfl,p2_0⟩:=p2
  obtain rfl:=p3
  obtain⟨A4,c4,rfl⟩:=gG p4
  obtain⟨A5_0,c5_0,rfl,p5_0⟩:=p5
  exact⟨⟨A2_0,c2_0,A4,c4,A5_0,c5_0,rfl,p2_0,p4,p5_0⟩,q0,q1,q2,q3,q4,q5⟩)
end Go.Proofs.YtheikonlgjdopaaGreat.Sl
namespace Go.Proofs.YtheikonlgjdopaaGreat.frameEncodes
open Go.ChangeShapes Go.WideShapes Go.ChangeAt Go.RowKit
open Go.ChangeMaps (open_string shut_string)
set_option linter.unusedVariables false
theorem own:ownKnob Tryz.prog.godebug=none:=by kernel_rfl
theorem laidOut:laidOutB Tryz.prog=true:=by kernel_rfl
theorem lifted (os:Os) (started:os.Started) (H:Type) (enc:TypeId×Value→H) :
 ReturnsInHanded {} Tryz.checked os 3 .any (Rows.frameEncodesSpec.pre6 enc Tryz.prog Tryz.f3 Rows.frameEncodesRow.domain false) (Rows.frameEncodesSpec.post enc Tryz.prog Tryz.f3 false true false false):=by
 refine returnsInHanded_of_change_sized (C:=Tryz.checked) own started (by kernel_rfl) Tryz.func3
  (ChangeSpec.witness6 (enc:=enc) (C:=Tryz.checked) false ⟨#[],#[.agg #[.int .i64 0,.int .i64 0,.int .i64 0,.bool false,.string ⟨#[]⟩,.bool false,.string ⟨#[]⟩,.int .i64 0,.int .i64 0,.int .i64 0,.string ⟨#[]⟩,.int .i64 0,.int .i64 0,.slice none 0 0,.string ⟨#[]⟩,.int .i64 0,.int .i64 0,.bool false,.slice none 0 0,.bool false,.string ⟨#[]⟩,.int .i64 0,.int .i64 0,.slice none 0 0]],[]⟩ 8 (by kernel_rfl) (by kernel_rfl) (by kernel_rfl) (by kernel_rfl)) ?_
 intro W base args ds gs before hval0 hW hcnd hsz0 _
 have hsz:(DataW.weightsEach Tryz.prog (Tryz.f3.params.toList++Rows.frameEncodesSpec.plain.varTypes Tryz.prog) (ds++gs)).all (· ≤ reachBytes)=true:=hsz0
 have hval: ∀ (j:Nat) t v,Tryz.f3.params[j]? = some t→args[j]? = some v→Value.okWide Tryz.prog W .any base t v:=hval0
 have hW':=hW
 obtain⟨p,q,hA0,hV,rfl,hfz,hnd⟩:=hW
 have hA:DataW.TrodAll enc Tryz.prog W 0 (fun _=>true) true Tryz.f3.params.toList args.toList ds p:=hA0
 rw[Tryz.params3] at hA hval hsz
 obtain⟨v0,vs0,d0,ds0,p0,q0,hargs,rfl,rfl,h0,r0⟩:=trodAll_cons hA
 obtain⟨rfl,rfl,rfl⟩:=trodAll_nil r0
 obtain rfl:args= #[v0]:=by cases args; simp_all
 obtain⟨rfl,rfl⟩:=trodVars_none hV
 have k0:=h0
 have lt0: ∀ x∈p0,x.block<W.heap.size:=by obtain⟨m,hm⟩:=k0; exact DataW.trod_lt m _ _ _ hm
 obtain⟨a0,cs0,rfl,r_0,w0⟩:=Sl.opens_arg2 Tryz.underlying38 (hval 0 38 v0 rfl rfl) Sl.op_FrameFrame h0 (fun x hx=>of_decide_eq_true (List.all_eq_true.1 hsz x (Sl.weights_in 0 rfl rfl hx)))
 obtain⟨A0_0,c0_0,A0_1,c0_1,A0_2,c0_2,e0,r0_0,r0_1,r0_2⟩:=r_0
 obtain rfl:cs0= #[.int .i64 a0.MI.MS,.int .i64 a0.MI.MR,.int .i64 a0.MI.MY,.bool a0.MI.MQ.null,.string (Sl.bsOf a0.MI.MQ.data),.bool a0.M6.MM.null,.string (Sl.bsOf a0.M6.MM.data),.int .i64 a0.M6.ML,.int .i64 a0.M6.MG,.int .i64 a0.M6.MJ,.string (Sl.bsOf a0.M9.MM),.int .i64 a0.M9.MG,.int .i64 a0.M9.MJ,.slice A0_0 a0.M9.MF.length c0_0,.string (Sl.bsOf a0.M8.MM),.int .i64 a0.M8.MG,.int .i64 a0.M8.MJ,.bool a0.M8.MZ,.slice A0_1 a0.M0.length c0_1,.bool a0.MN.MM.null,.string (Sl.bsOf a0.MN.MM.data),.int .i64 a0.MN.M5,.int .i64 a0.MN.ML,.slice A0_2 a0.MN.MF.length c0_2]:=by apply Array.toList_inj.1; exact e0
 clear hA0 hval0 hsz0 hsz
 refine (Sl.f_l21_FrameEncodes_spec a0 A0_0 c0_0 A0_1 c0_1 A0_2 c0_2 true (Sl.pure_FrameEncodes a0 w0) (fun _=>False) W (fun _ h=>h) (Sl.RX.reads_and (Sl.RX.reads_all r0_0) (Sl.RX.reads_and (Sl.RX.reads_all r0_1) (Sl.RX.reads_all r0_2)))).mono fun e W' hP=> ?_
 obtain⟨v,A',Ns,rfl,⟨rfl,rfl,rfl⟩,hst⟩:=hP
 have bel:=Sl.St.below hst
 exact⟨_,rfl,_,_,_,[],_,[],hW',trodAll_mk1 (shut_bool Tryz.underlying4 _),(trodAll_cons_mk (Below.trod laidOut (by kernel_rfl) (of_decide_eq_true (by kernel_rfl)) k0 bel lt0) trodAll_mk0),rfl,bel.frame _,fun h=>by cases h⟩
theorem loopsF:(Tryz.f3.params.toList++Rows.frameEncodesSpec.plain.varTypes Tryz.prog).any (Tryz.prog.loopsFrom ·)=Rows.frameEncodesRow.loops:=by kernel_rfl
theorem closedF:joinedFacts Tryz.prog 3 Tryz.f3 Rows.frameEncodesSpec Rows.frameEncodesRow=true:=by
 unfold joinedFacts
 rw[loopsF]
 kernel_rfl
theorem over:Rows.frameEncodesRow.holds Tryz.pinned (OpenSpec.ofChange Rows.frameEncodesSpec) :=
 OpenClaim.holds_of_wide 3 Tryz.f3 rfl rfl rfl rfl rfl rfl rfl ⟨rfl,rfl,rfl,rfl,rfl⟩ rfl rfl rfl rfl rfl (by kernel_rfl) Tryz.func3 closedF
  (of_decide_eq_true (by kernel_rfl)) (by unfold Func.isWrapper; first | (rw[if_pos (by decide +kernel)]; kernel_rfl) | (rw[if_neg (by decide +kernel)]; exact⟨rfl,rfl⟩))
  (fun os started H enc _=>lifted os started H enc)
theorem proved:Rows.FrameEncodesSaid:=over
end Go.Proofs.YtheikonlgjdopaaGreat.frameEncodes
namespace Go.Proofs.YtheikonlgjdopaaGreat
theorem frameEncodes_holds:Rows.FrameEncodesSaid:=frameEncodes.proved
end Go.Proofs.YtheikonlgjdopaaGreat
