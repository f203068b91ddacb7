/- InputReads: for every input the law returns true, and its arguments read behind the call as they did before. -/
import Derived.Test.YtpiiopppbgpbpaaRows
import Derived.WalkKit
import Derived.ProofKit
import Derived.OpenShut
import Derived.ShutString
import Derived.ChangeOld
import Derived.Below
import Derived.SizedLaws
import Derived.Test.YtpiiopppbgpbpaaK0
namespace Go.Proofs.Ytpiiopppbgpbpaa.Sl
open Go.RowKit
set_option linter.unusedVariables false
set_option linter.unusedSimpArgs false
set_option maxRecDepth 100000
def ft_cursitorlaw01 : FTab := [(95, 0, 0), (95, 1, 1), (95, 2, 2)]
theorem ft_cursitorlaw01_ok : (ft_cursitorlaw01).OK Try.prog := ⟨FOK.mk Try.runUnderlying95 rfl Try.sizeOf5 rfl, FOK.mk Try.runUnderlying95 rfl Try.sizeOf3 rfl, FOK.mk Try.runUnderlying95 rfl Try.sizeOf3 rfl, trivial⟩
def f_l01_speaks  : Option (Bool) := (gNew [255, 254]).bind fun st1 => ((gInt st1 2).bind fun (x27, st28) => if x27 = (-2) then ((gLeft st28).bind fun (x31, st32) => if x31 = 0 then ((gClose st32).bind fun (x35, st36) => if x35 = 0 then ((gInt st36 1).bind fun (x39, st40) => if x39 = 0 then ((gErr st40).bind fun (x43, st44) => if x43 = 1 then some (true, st44) else some (false, st44)) else some (false, st40)) else some (false, st36)) else some (false, st32)) else some (false, st28)).bind fun (y24, st25) => some y24
set_option maxRecDepth 100000 in
set_option maxHeartbeats 4000000 in
theorem f_l01_speaks_spec  (r : Bool) (h : f_l01_speaks  = some r) : SpecX Try.prog 57 #[] .triv (EmpR) (fun v A' N => v = .bool r ∧ A' = EmpR ∧ N = []) := by
  refine enterA Try.func57 rfl Try.ntmps57 rfl ?_
  intro F w hX
  unfold f_l01_speaks at h
  refine T.seq (T.region rfl ?_)
  refine TL.run ft_cursitorlaw01_ok [0] rfl rfl ?_
  obtain ⟨st1, hx2, h⟩ := Option.bind_eq_some_iff.1 h
  refine TL.nil (X.seq (T.seq (T.region rfl ?_)))
  refine TL.cge rfl .u (.fn Try.call27 rfl) (gNew_spec [255, 254] _ hx2) (fun _ hs => (RX.reads_triv _ _)) rfl ?_
  rintro _ _ _ ⟨b3, rfl, rfl, rfl⟩
  refine TL.sel [0, 0] rfl ?_
  refine TL.run ft_cursitorlaw01_ok [1] rfl rfl ?_
  refine TL.nil (X.seq (T.seq ?_))
  obtain ⟨⟨y24, st25⟩, h, hk26⟩ := Option.bind_eq_some_iff.1 h
  refine T.jq (fun e Rs => e = [(0, .bool y24)] ∧ Rs = [InR b3 st25, EmpR]) ?_ ?_
  · clear hk26
    refine T.region rfl ?_
    refine TL.run ft_cursitorlaw01_ok [0] rfl rfl ?_
    refine TL.q rfl .u (Ex.pNe (.inr ⟨rfl, rfl⟩) rfl rfl Try.runUnderlying50) rfl ?_
    refine TL.run ft_cursitorlaw01_ok [2] rfl rfl ?_
    refine TL.q rfl (.g rfl rfl rfl) (Ex.ft ft_cursitorlaw01_ok rfl) rfl ?_
    obtain ⟨⟨x27, st28⟩, hx29, h⟩ := Option.bind_eq_some_iff.1 h
    try dsimp only at h
    refine TL.c0 rfl (.g rfl rfl rfl) (.fn Try.call37 rfl) (gInt_spec b3 st1 2 _ hx29) (fun _ hs => (Src.triv _)) rfl ?_
    refine TL.q rfl (.g rfl rfl rfl) (Ex.ft ft_cursitorlaw01_ok rfl) rfl ?_
    refine TL.q rfl .u (Ex.py rfl rfl rfl) rfl ?_
    by_cases c30 : x27 = (-2)
    · replace h := ifT c30 h
      refine TL.run ft_cursitorlaw01_ok [7] rfl rfl ?_
      refine TL.q rfl (.g rfl rfl (decide_eq_true c30)) (Ex.ft ft_cursitorlaw01_ok rfl) rfl ?_
      obtain ⟨⟨x31, st32⟩, hx33, h⟩ := Option.bind_eq_some_iff.1 h
      try dsimp only at h
      refine TL.c0 rfl (.g rfl rfl (decide_eq_true c30)) (.fn Try.call38 rfl) (gLeft_spec b3 st28 _ hx33) (fun _ hs => (Src.triv _)) rfl ?_
      refine TL.q rfl (.g rfl rfl (decide_eq_true c30)) (Ex.ft ft_cursitorlaw01_ok rfl) rfl ?_
      refine TL.q rfl .u (Ex.py rfl (decide_eq_true c30) rfl) rfl ?_
      by_cases c34 : x31 = 0
      · replace h := ifT c34 h
        refine TL.run ft_cursitorlaw01_ok [12] rfl rfl ?_
        refine TL.q rfl (.g rfl rfl (decide_eq_true c34)) (Ex.ft ft_cursitorlaw01_ok rfl) rfl ?_
        obtain ⟨⟨x35, st36⟩, hx37, h⟩ := Option.bind_eq_some_iff.1 h
        try dsimp only at h
        refine TL.c0 rfl (.g rfl rfl (decide_eq_true c34)) (.fn Try.call30 rfl) (gClose_spec b3 st32 _ hx37) (fun _ hs => (Src.triv _)) rfl ?_
        refine TL.q rfl (.g rfl rfl (decide_eq_true c34)) (Ex.ft ft_cursitorlaw01_ok rfl) rfl ?_
        refine TL.q rfl .u (Ex.py rfl (decide_eq_true c34) rfl) rfl ?_
        by_cases c38 : x35 = 0
        · replace h := ifT c38 h
          refine TL.run ft_cursitorlaw01_ok [17] rfl rfl ?_
          refine TL.q rfl (.g rfl rfl (decide_eq_true c38)) (Ex.ft ft_cursitorlaw01_ok rfl) rfl ?_
          obtain ⟨⟨x39, st40⟩, hx41, h⟩ := Option.bind_eq_some_iff.1 h
          try dsimp only at h
          refine TL.c0 rfl (.g rfl rfl (decide_eq_true c38)) (.fn Try.call37 rfl) (gInt_spec b3 st36 1 _ hx41) (fun _ hs => (Src.triv _)) rfl ?_
          refine TL.q rfl (.g rfl rfl (decide_eq_true c38)) (Ex.ft ft_cursitorlaw01_ok rfl) rfl ?_
          refine TL.q rfl .u (Ex.py rfl (decide_eq_true c38) rfl) rfl ?_
          by_cases c42 : x39 = 0
          · replace h := ifT c42 h
            refine TL.run ft_cursitorlaw01_ok [22] rfl rfl ?_
            refine TL.q rfl (.g rfl rfl (decide_eq_true c42)) (Ex.ft ft_cursitorlaw01_ok rfl) rfl ?_
            obtain ⟨⟨x43, st44⟩, hx45, h⟩ := Option.bind_eq_some_iff.1 h
            try dsimp only at h
            refine TL.c0 rfl (.g rfl rfl (decide_eq_true c42)) (.fn Try.call29 rfl) (gErr_spec b3 st40 _ hx45) (fun _ hs => (Src.triv _)) rfl ?_
            refine TL.q rfl (.g rfl rfl (decide_eq_true c42)) (Ex.ft ft_cursitorlaw01_ok rfl) rfl ?_
            refine TL.q rfl .u (Ex.py rfl (decide_eq_true c42) rfl) rfl ?_
            by_cases c46 : x43 = 1
            · replace h := ifT c46 h
              refine TL.run ft_cursitorlaw01_ok [27] rfl rfl ?_
              refine TL.q rfl .u (Ex.py rfl (decide_eq_true c46) rfl) rfl ?_
              refine TL.run ft_cursitorlaw01_ok [29] rfl rfl ?_
              cases h
              exact TL.nil (X.jq [0, 0] ⟨rfl, rfl⟩ (by rfl) (by rfl))
            · replace h := ifF c46 h
              refine TL.run ft_cursitorlaw01_ok [27] rfl rfl ?_
              refine TL.q rfl .u (Ex.pn rfl (decide_eq_false c46) rfl) rfl ?_
              refine TL.run ft_cursitorlaw01_ok [29] rfl rfl ?_
              cases h
              exact TL.nil (X.jq [0, 0] ⟨rfl, rfl⟩ (by rfl) (by rfl))
          · replace h := ifF c42 h
            refine TL.run ft_cursitorlaw01_ok [22] rfl rfl ?_
            refine TL.no rfl (.gn rfl rfl (decide_eq_false c42)) rfl ?_
            refine TL.no rfl (.gn rfl rfl (decide_eq_false c42)) rfl ?_
            refine TL.no rfl (.gn rfl rfl (decide_eq_false c42)) rfl ?_
            refine TL.q rfl .u (Ex.pn rfl (decide_eq_false c42) rfl) rfl ?_
            refine TL.run ft_cursitorlaw01_ok [27] rfl rfl ?_
            refine TL.q rfl .u (Ex.pn rfl rfl rfl) rfl ?_
            refine TL.run ft_cursitorlaw01_ok [29] rfl rfl ?_
            cases h
            exact TL.nil (X.jq [0, 0] ⟨rfl, rfl⟩ (by rfl) (by rfl))
        · replace h := ifF c38 h
          refine TL.run ft_cursitorlaw01_ok [17] rfl rfl ?_
          refine TL.no rfl (.gn rfl rfl (decide_eq_false c38)) rfl ?_
          refine TL.no rfl (.gn rfl rfl (decide_eq_false c38)) rfl ?_
          refine TL.no rfl (.gn rfl rfl (decide_eq_false c38)) rfl ?_
          refine TL.q rfl .u (Ex.pn rfl (decide_eq_false c38) rfl) rfl ?_
          refine TL.run ft_cursitorlaw01_ok [22] rfl rfl ?_
          refine TL.no rfl (.gn rfl rfl rfl) rfl ?_
          refine TL.no rfl (.gn rfl rfl rfl) rfl ?_
          refine TL.no rfl (.gn rfl rfl rfl) rfl ?_
          refine TL.q rfl .u (Ex.pn rfl rfl rfl) rfl ?_
          refine TL.run ft_cursitorlaw01_ok [27] rfl rfl ?_
          refine TL.q rfl .u (Ex.pn rfl rfl rfl) rfl ?_
          refine TL.run ft_cursitorlaw01_ok [29] rfl rfl ?_
          cases h
          exact TL.nil (X.jq [0, 0] ⟨rfl, rfl⟩ (by rfl) (by rfl))
      · replace h := ifF c34 h
        refine TL.run ft_cursitorlaw01_ok [12] rfl rfl ?_
        refine TL.no rfl (.gn rfl rfl (decide_eq_false c34)) rfl ?_
        refine TL.no rfl (.gn rfl rfl (decide_eq_false c34)) rfl ?_
        refine TL.no rfl (.gn rfl rfl (decide_eq_false c34)) rfl ?_
        refine TL.q rfl .u (Ex.pn rfl (decide_eq_false c34) rfl) rfl ?_
        refine TL.run ft_cursitorlaw01_ok [17] rfl rfl ?_
        refine TL.no rfl (.gn rfl rfl rfl) rfl ?_
        refine TL.no rfl (.gn rfl rfl rfl) rfl ?_
        refine TL.no rfl (.gn rfl rfl rfl) rfl ?_
        refine TL.q rfl .u (Ex.pn rfl rfl rfl) rfl ?_
        refine TL.run ft_cursitorlaw01_ok [22] rfl rfl ?_
        refine TL.no rfl (.gn rfl rfl rfl) rfl ?_
        refine TL.no rfl (.gn rfl rfl rfl) rfl ?_
        refine TL.no rfl (.gn rfl rfl rfl) rfl ?_
        refine TL.q rfl .u (Ex.pn rfl rfl rfl) rfl ?_
        refine TL.run ft_cursitorlaw01_ok [27] rfl rfl ?_
        refine TL.q rfl .u (Ex.pn rfl rfl rfl) rfl ?_
        refine TL.run ft_cursitorlaw01_ok [29] rfl rfl ?_
        cases h
        exact TL.nil (X.jq [0, 0] ⟨rfl, rfl⟩ (by rfl) (by rfl))
    · replace h := ifF c30 h
      refine TL.run ft_cursitorlaw01_ok [7] rfl rfl ?_
      refine TL.no rfl (.gn rfl rfl (decide_eq_false c30)) rfl ?_
      refine TL.no rfl (.gn rfl rfl (decide_eq_false c30)) rfl ?_
      refine TL.no rfl (.gn rfl rfl (decide_eq_false c30)) rfl ?_
      refine TL.q rfl .u (Ex.pn rfl (decide_eq_false c30) rfl) rfl ?_
      refine TL.run ft_cursitorlaw01_ok [12] rfl rfl ?_
      refine TL.no rfl (.gn rfl rfl rfl) rfl ?_
      refine TL.no rfl (.gn rfl rfl rfl) rfl ?_
      refine TL.no rfl (.gn rfl rfl rfl) rfl ?_
      refine TL.q rfl .u (Ex.pn rfl rfl rfl) rfl ?_
      refine TL.run ft_cursitorlaw01_ok [17] rfl rfl ?_
      refine TL.no rfl (.gn rfl rfl rfl) rfl ?_
      refine TL.no rfl (.gn rfl rfl rfl) rfl ?_
      refine TL.no rfl (.gn rfl rfl rfl) rfl ?_
      refine TL.q rfl .u (Ex.pn rfl rfl rfl) rfl ?_
      refine TL.run ft_cursitorlaw01_ok [22] rfl rfl ?_
      refine TL.no rfl (.gn rfl rfl rfl) rfl ?_
      refine TL.no rfl (.gn rfl rfl rfl) rfl ?_
      refine TL.no rfl (.gn rfl rfl rfl) rfl ?_
      refine TL.q rfl .u (Ex.pn rfl rfl rfl) rfl ?_
      refine TL.run ft_cursitorlaw01_ok [27] rfl rfl ?_
      refine TL.q rfl .u (Ex.pn rfl rfl rfl) rfl ?_
      refine TL.run ft_cursitorlaw01_ok [29] rfl rfl ?_
      cases h
      exact TL.nil (X.jq [0, 0] ⟨rfl, rfl⟩ (by rfl) (by rfl))
  · rintro _ _ ⟨rfl, rfl⟩
    clear h
    have h := hk26
    clear hk26
    try dsimp only at h
    obtain rfl := Option.some.inj h
    exact X.seq (T.ret (X.done1 [1] Try.results57 (RV.tm rfl) ⟨rfl, rfl, rfl⟩ (by rfl) (.inl rfl)))
def f_l01_InputReads_l1 (a0 : List UInt8) : List L01Act → Bool → Int → Int → I → Option (Lp Bool (Bool × Int × Int × I))
  | [], y15, y16, y17, st19 => some (Lp.go (y15, y16, y17, st19))
  | x24 :: xs, y15, y16, y17, st19 => if 0 ≤ x24.fKind then (if (x24.fKind % 4) = 0 then ((if y17 = 0 then ((if x24.fN < 0 then some (y16, 4, []) else (if -9223372036854775808 ≤ ((a0.length : Int) - y16) ∧ ((a0.length : Int) - y16) ≤ 9223372036854775807 then ((if x24.fN > ((a0.length : Int) - y16) then some (y16, 1, []) else (if -9223372036854775808 ≤ (y16 + x24.fN) ∧ (y16 + x24.fN) ≤ 9223372036854775807 then (if 0 ≤ y16 ∧ 0 ≤ (y16 + x24.fN) ∧ y16.toNat ≤ (y16 + x24.fN).toNat ∧ (y16 + x24.fN).toNat ≤ a0.length then (if -9223372036854775808 ≤ (y16 + x24.fN) ∧ (y16 + x24.fN) ≤ 9223372036854775807 then (some ((y16 + x24.fN), y17, ((a0.drop y16.toNat).take (((y16 + x24.fN).toNat) - y16.toNat)))) else none) else none) else none)).bind fun (y93, y94, y95) => some (y93, y94, y95)) else none)).bind fun (y83, y84, y85) => some (y83, y84, y85)) else some (y16, y17, [])).bind fun (y64, y65, y66) => (gTake st19 x24.fN).bind fun (x101, st102) => if x101 = y66 then (((gLeft st102).bind fun (x122, st123) => if -9223372036854775808 ≤ ((a0.length : Int) - y64) ∧ ((a0.length : Int) - y64) ≤ 9223372036854775807 then (if x122 = ((a0.length : Int) - y64) then ((gAt st123).bind fun (x127, st128) => if x127 = y64 then ((gErr st128).bind fun (x131, st132) => if x131 = y65 then (if y17 = 0 then some (false, st132) else (if y65 = y17 then some (false, st132) else some (true, st132))) else some (true, st132)) else some (true, st128)) else some (true, st123)) else none).bind fun (y119, st120) => if y119 = true then none else (f_l01_InputReads_l1 a0 xs y15 y64 y65 st120)) else none) else ((if (x24.fKind % 4) = 1 then some true else (if (x24.fKind % 4) = 2 then some true else some false)).bind fun y139 => if y139 = true then ((if y17 = 0 then ((if x24.fN < 1 then some true else (if x24.fN > 8 then some true else some false)).bind fun y196 => (if y196 = true then some (y16, 4, 0) else (if -9223372036854775808 ≤ ((a0.length : Int) - y16) ∧ ((a0.length : Int) - y16) ≤ 9223372036854775807 then ((if x24.fN > ((a0.length : Int) - y16) then some (y16, 1, 0) else (if -9223372036854775808 ≤ (y16 + x24.fN) ∧ (y16 + x24.fN) ≤ 9223372036854775807 then (if 0 ≤ y16 ∧ 0 ≤ (y16 + x24.fN) ∧ y16.toNat ≤ (y16 + x24.fN).toNat ∧ (y16 + x24.fN).toNat ≤ a0.length then ((gRInt ((a0.drop y16.toNat).take (((y16 + x24.fN).toNat) - y16.toNat))).bind fun x237 => if -9223372036854775808 ≤ (y16 + x24.fN) ∧ (y16 + x24.fN) ≤ 9223372036854775807 then (some ((y16 + x24.fN), y17, x237)) else none) else none) else none)).bind fun (y230, y231, y232) => some (y230, y231, y232)) else none)).bind fun (y218, y219, y220) => some (y218, y219, y220)) else some (y16, y17, 0)).bind fun (y190, y191, y192) => (if 0 ≤ x24.fKind then (if (x24.fKind % 4) = 2 then (if y191 = 0 then (if y192 < 0 then some true else some false) else some false) else some false) else none).bind fun y243 => (if y243 = true then some (4, 0) else some (y191, y192)).bind fun (y250, y251) => (if 0 ≤ x24.fKind then (if (x24.fKind % 4) = 2 then (if y250 = 0 then (if x24.fK > 0 then (if -9223372036854775808 ≤ ((a0.length : Int) - y190) ∧ ((a0.length : Int) - y190) ≤ 9223372036854775807 then (if 1 ≤ x24.fK ∧ 0 ≤ ((a0.length : Int) - y190) ∧ ((a0.length : Int) - y190) ≤ 9223372036854775807 then (if y251 > (((a0.length : Int) - y190) / x24.fK) then some true else some false) else none) else none) else some false) else some false) else some false) else none).bind fun y260 => (if y260 = true then some (1, 0) else some (y250, y251)).bind fun (y270, y271) => if 0 ≤ x24.fKind then ((if (x24.fKind % 4) = 1 then ((gInt st19 x24.fN).bind fun (x286, st287) => some (x286, st287)) else ((gCount st19 x24.fN x24.fK).bind fun (x289, st290) => some (x289, st290))).bind fun (y282, st283) => if y282 = y271 then (((gLeft st283).bind fun (x310, st311) => if -9223372036854775808 ≤ ((a0.length : Int) - y190) ∧ ((a0.length : Int) - y190) ≤ 9223372036854775807 then (if x310 = ((a0.length : Int) - y190) then ((gAt st311).bind fun (x315, st316) => if x315 = y190 then ((gErr st316).bind fun (x319, st320) => if x319 = y270 then (if y17 = 0 then some (false, st320) else (if y270 = y17 then some (false, st320) else some (true, st320))) else some (true, st320)) else some (true, st316)) else some (true, st311)) else none).bind fun (y307, st308) => if y307 = true then none else (f_l01_InputReads_l1 a0 xs y15 y190 y270 st308)) else none) else none) else (if x24.fN = 0 then some (Lp.ret true) else ((gIFail st19 x24.fN).bind fun st327 => (if y17 = 0 then some x24.fN else some y17).bind fun y330 => ((gLeft st327).bind fun (x350, st351) => if -9223372036854775808 ≤ ((a0.length : Int) - y16) ∧ ((a0.length : Int) - y16) ≤ 9223372036854775807 then (if x350 = ((a0.length : Int) - y16) then ((gAt st351).bind fun (x355, st356) => if x355 = y16 then ((gErr st356).bind fun (x359, st360) => if x359 = y330 then (if y17 = 0 then some (false, st360) else (if y330 = y17 then some (false, st360) else some (true, st360))) else some (true, st360)) else some (true, st356)) else some (true, st351)) else none).bind fun (y347, st348) => if y347 = true then none else (f_l01_InputReads_l1 a0 xs y15 y16 y330 st348))))) else none
def f_l01_InputReads (a0 : List UInt8) (a1 : List L01Act) : Option (Bool) := (f_l01_speaks).bind fun x3 => if x3 = true then ((if (a0.length : Int) > 2000 then some true else (if (a1.length : Int) > 100 then some true else some false)).bind fun y7 => if y7 = true then some true else ((gNew a0).bind fun st12 => (f_l01_InputReads_l1 a0 a1 false 0 0 st12).bind fun e => match e with | .ret r => some r | .go (y366, y367, y368, st370) => ((if y368 = 0 then (if y367 < (a0.length : Int) then some true else some false) else some false).bind fun y372 => (if y372 = true then some 2 else some y368).bind fun y377 => ((gClose st370).bind fun (x390, st391) => if x390 = y377 then ((gErr st391).bind fun (x394, st395) => if x394 = y377 then some (true, st395) else some (false, st395)) else some (false, st391)).bind fun (y387, st388) => some y387))) else none
set_option maxRecDepth 100000 in
set_option maxHeartbeats 4000000 in
theorem f_l01_InputReads_spec (a0 : List UInt8) (a1 : List L01Act) (A1 : Option Addr) (c2 : Nat) (r : Bool) (h : f_l01_InputReads a0 a1 = some r) : SpecX Try.prog 11 #[.string (bsOf a0), .slice A1 a1.length c2] (RX.of (sliceRd 3 L01Act_rd) [.slice A1 a1.length c2] a1) (EmpR) (fun v A' N => v = .bool r ∧ A' = EmpR ∧ N = []) := by
  refine enterA Try.func11 rfl Try.ntmps11 rfl ?_
  intro F w hX
  unfold f_l01_InputReads at h
  refine T.seq (T.region rfl ?_)
  refine TL.run ft_cursitorlaw01_ok [0] rfl rfl ?_
  obtain ⟨x3, hx4, h⟩ := Option.bind_eq_some_iff.1 h
  refine TL.nil (X.seq (T.seq (T.seq (T.region rfl ?_))))
  refine TL.ce rfl .u (.fn Try.call57 rfl) (f_l01_speaks_spec _ hx4) (fun _ hs => (RX.reads_triv _ _)) rfl ?_
  refine TL.run ft_cursitorlaw01_ok [1] rfl rfl ?_
  by_cases c5 : x3 = true
  · replace h := ifT c5 h
    refine TL.nil (X.seq ?_)
    refine T.no rfl (bn_f c5) ?_
    refine T.skip (X.seq (T.seq (T.seq ?_)))
    obtain ⟨y7, h, hk8⟩ := Option.bind_eq_some_iff.1 h
    refine T.jq (fun e Rs => e = [(0, .string (bsOf a0)), (1, .slice A1 a1.length c2), (4, .bool false), (23, .bool y7)] ∧ Rs = [EmpR]) ?_ ?_
    · clear hk8
      refine T.region rfl ?_
      refine TL.run ft_cursitorlaw01_ok [0] rfl rfl ?_
      refine TL.q rfl .u (Ex.lenB rfl Try.runUnderlying9) rfl ?_
      by_cases c9 : (a0.length : Int) > 2000
      · replace h := ifT c9 h
        refine TL.run ft_cursitorlaw01_ok [2, 3] rfl rfl ?_
        refine TL.no rfl (.gn rfl rfl (decide_eq_true c9)) rfl ?_
        refine TL.no rfl (.gn rfl rfl (decide_eq_true c9)) rfl ?_
        refine TL.no rfl (.gn rfl rfl (decide_eq_true c9)) rfl ?_
        refine TL.q rfl .u (Ex.py rfl (decide_eq_true c9) rfl) rfl ?_
        cases h
        exact TL.nil (X.jq [0] ⟨rfl, rfl⟩ (by rfl) (by rfl))
      · replace h := ifF c9 h
        refine TL.run ft_cursitorlaw01_ok [2, 3] rfl rfl ?_
        refine TL.q rfl (.g rfl rfl (decide_eq_false c9)) (Ex.ft ft_cursitorlaw01_ok rfl) rfl ?_
        refine TL.q rfl (.g rfl rfl (decide_eq_false c9)) (Ex.lenS rfl Try.runUnderlying93) rfl ?_
        refine TL.q rfl (.g rfl rfl (decide_eq_false c9)) (Ex.ft ft_cursitorlaw01_ok rfl) rfl ?_
        refine TL.q rfl .u (Ex.pn rfl (decide_eq_false c9) rfl) rfl ?_
        by_cases c10 : (a1.length : Int) > 100
        · replace h := ifT c10 h
          cases h
          exact TL.nil (X.as (d := 23) (v' := .bool true) rfl (congrArg Value.bool (decide_eq_true c10)) (X.jq [0] ⟨rfl, rfl⟩ (by rfl) (by rfl)))
        · replace h := ifF c10 h
          cases h
          exact TL.nil (X.as (d := 23) (v' := .bool false) rfl (congrArg Value.bool (decide_eq_false c10)) (X.jq [0] ⟨rfl, rfl⟩ (by rfl) (by rfl)))
    · rintro _ _ ⟨rfl, rfl⟩
      clear h
      have h := hk8
      clear hk8
      try dsimp only at h
      by_cases c11 : y7 = true
      · replace h := ifT c11 h
        refine X.seq ?_
        refine T.yes rfl c11 ?_
        refine T.seq (T.region rfl ?_)
        refine TL.run ft_cursitorlaw01_ok [0] rfl rfl ?_
        obtain rfl := Option.some.inj h
        exact TL.nil (X.seq (T.ret (X.rs (X.done1 [0] Try.results11 (RV.tm rfl) ⟨rfl, rfl, rfl⟩ (by rfl) (.inl rfl)))))
      · replace h := ifF c11 h
        replace c11 := eq_false_of_ne_true c11
        refine X.seq ?_
        refine T.no rfl c11 ?_
        refine T.skip (X.seq (T.seq (T.region rfl ?_)))
        obtain ⟨st12, hx13, h⟩ := Option.bind_eq_some_iff.1 h
        refine TL.run ft_cursitorlaw01_ok [0] rfl rfl ?_
        refine TL.cge rfl .u (.fn Try.call27 rfl) (gNew_spec a0 _ hx13) (fun _ hs => (RX.reads_triv _ _)) rfl ?_
        rintro _ _ _ ⟨b14, rfl, rfl, rfl⟩
        refine TL.sel [0, 0] rfl ?_
        refine TL.run ft_cursitorlaw01_ok [2, 3, 4] rfl rfl ?_
        refine TL.nil (X.seq (T.seq (T.seq (T.region rfl ?_))))
        refine TL.run ft_cursitorlaw01_ok [0] rfl rfl ?_
        refine TL.q rfl .u (Ex.lenS rfl Try.runUnderlying93) rfl ?_
        refine TL.run ft_cursitorlaw01_ok [2] rfl rfl ?_
        refine TL.nil (X.seq (T.block ?_))
        obtain ⟨E20, hE21, hO22⟩ := Option.bind_eq_some_iff.1 h
        have hk26len := RX.len_le hX
        refine T.lp (fun m e Rs => ∃ (y15 : Bool) (y16 : Int) (y17 : Int) (k18 : Nat) (st19 : I), k18 + m = a1.length ∧ e = [(0, .string (bsOf a0)), (4, .bool y15), (5, .pointer (some ⟨b14, 0, none⟩)), (6, .int .i64 y16), (7, .int .i64 y17), (26, .slice A1 a1.length c2), (27, .int .i64 (a1.length : Int)), (28, .int .i64 (k18 : Int))] ∧ Rs = [InR b14 st19, EmpR] ∧ f_l01_InputReads_l1 a0 (a1.drop k18) y15 y16 y17 st19 = some E20) (a1.length) [0, 0] ⟨false, 0, 0, 0, st12, by simp, rfl, rfl, by rw [List.drop_zero]; exact hE21⟩ (by rfl) (by rfl) ?_
        rintro m23 _ _ ⟨y15, y16, y17, k18, st19, hk26, rfl, rfl, hl25⟩
        clear hE21 h
        cases m23 with
        | zero =>
          have h := hl25
          clear hl25
          rw [List.drop_of_length_le (by omega), f_l01_InputReads_l1] at h
          have hk26ge : ¬ ((k18 : Int) < (a1.length : Int)) := by omega
          refine T.seq (T.region rfl ?_)
          refine TL.run ft_cursitorlaw01_ok [0] rfl rfl ?_
          refine TL.nil (X.seq (T.seq ?_))
          refine T.no rfl (decide_eq_false hk26ge) ?_
          obtain rfl := Option.some.inj h
          replace h := hO22
          clear hO22
          try dsimp only at h
          refine T.exit (X.exs (X.exs (X.ex (X.seq (T.seq (T.seq ?_))))))
          obtain ⟨y399, h, hk400⟩ := Option.bind_eq_some_iff.1 h
          refine T.jq (fun e Rs => e = [(4, .bool y15), (5, .pointer (some ⟨b14, 0, none⟩)), (7, .int .i64 y17), (204, .bool y399)] ∧ Rs = [InR b14 st19, EmpR]) ?_ ?_
          · clear hk400
            refine T.region rfl ?_
            by_cases c401 : y17 = 0
            · replace h := ifT c401 h
              refine TL.run ft_cursitorlaw01_ok [0, 1, 2] rfl rfl ?_
              refine TL.q rfl (.g rfl rfl (decide_eq_true c401)) (Ex.ft ft_cursitorlaw01_ok rfl) rfl ?_
              refine TL.q rfl (.g rfl rfl (decide_eq_true c401)) (Ex.ft ft_cursitorlaw01_ok rfl) rfl ?_
              refine TL.q rfl (.g rfl rfl (decide_eq_true c401)) (Ex.lenB rfl Try.runUnderlying9) rfl ?_
              refine TL.q rfl (.g rfl rfl (decide_eq_true c401)) (Ex.ft ft_cursitorlaw01_ok rfl) rfl ?_
              refine TL.q rfl .u (Ex.py rfl (decide_eq_true c401) rfl) rfl ?_
              by_cases c402 : y16 < (a0.length : Int)
              · replace h := ifT c402 h
                cases h
                exact TL.nil (X.as (d := 204) (v' := .bool true) rfl (congrArg Value.bool (decide_eq_true c402)) (X.jq [0, 0] ⟨rfl, rfl⟩ (by rfl) (by rfl)))
              · replace h := ifF c402 h
                cases h
                exact TL.nil (X.as (d := 204) (v' := .bool false) rfl (congrArg Value.bool (decide_eq_false c402)) (X.jq [0, 0] ⟨rfl, rfl⟩ (by rfl) (by rfl)))
            · replace h := ifF c401 h
              refine TL.run ft_cursitorlaw01_ok [0, 1, 2] rfl rfl ?_
              refine TL.no rfl (.gn rfl rfl (decide_eq_false c401)) rfl ?_
              refine TL.no rfl (.gn rfl rfl (decide_eq_false c401)) rfl ?_
              refine TL.no rfl (.gn rfl rfl (decide_eq_false c401)) rfl ?_
              refine TL.no rfl (.gn rfl rfl (decide_eq_false c401)) rfl ?_
              refine TL.q rfl .u (Ex.pn rfl (decide_eq_false c401) rfl) rfl ?_
              cases h
              exact TL.nil (X.jq [0, 0] ⟨rfl, rfl⟩ (by rfl) (by rfl))
          · rintro _ _ ⟨rfl, rfl⟩
            clear h
            have h := hk400
            clear hk400
            try dsimp only at h
            refine X.seq ?_
            obtain ⟨y404, h, hk405⟩ := Option.bind_eq_some_iff.1 h
            refine T.jq (fun e Rs => e = [(4, .bool y15), (5, .pointer (some ⟨b14, 0, none⟩)), (7, .int .i64 y404)] ∧ Rs = [InR b14 st19, EmpR]) ?_ ?_
            · clear hk405
              by_cases c406 : y399 = true
              · replace h := ifT c406 h
                refine T.yes rfl c406 ?_
                refine T.region rfl ?_
                refine TL.run ft_cursitorlaw01_ok [0] rfl rfl ?_
                cases h
                exact TL.nil (X.jq [0, 0] ⟨rfl, rfl⟩ (by rfl) (by rfl))
              · replace h := ifF c406 h
                replace c406 := eq_false_of_ne_true c406
                refine T.no rfl c406 ?_
                cases h
                exact T.skip (X.jq [0, 0] ⟨rfl, rfl⟩ (by rfl) (by rfl))
            · rintro _ _ ⟨rfl, rfl⟩
              clear h
              have h := hk405
              clear hk405
              try dsimp only at h
              refine X.seq (T.seq ?_)
              obtain ⟨⟨y414, st415⟩, h, hk416⟩ := Option.bind_eq_some_iff.1 h
              refine T.jq (fun e Rs => e = [(4, .bool y414)] ∧ Rs = [InR b14 st415, EmpR]) ?_ ?_
              · clear hk416
                refine T.region rfl ?_
                obtain ⟨⟨x417, st418⟩, hx419, h⟩ := Option.bind_eq_some_iff.1 h
                try dsimp only at h
                refine TL.run ft_cursitorlaw01_ok [0] rfl rfl ?_
                refine TL.c0 rfl .u (.fn Try.call30 rfl) (gClose_spec b14 st19 _ hx419) (fun _ hs => (Src.triv _)) rfl ?_
                by_cases c420 : x417 = y404
                · replace h := ifT c420 h
                  refine TL.run ft_cursitorlaw01_ok [2, 3, 4] rfl rfl ?_
                  refine TL.q rfl (.g rfl rfl (decide_eq_true c420)) (Ex.ft ft_cursitorlaw01_ok rfl) rfl ?_
                  obtain ⟨⟨x421, st422⟩, hx423, h⟩ := Option.bind_eq_some_iff.1 h
                  try dsimp only at h
                  refine TL.c0 rfl (.g rfl rfl (decide_eq_true c420)) (.fn Try.call29 rfl) (gErr_spec b14 st418 _ hx423) (fun _ hs => (Src.triv _)) rfl ?_
                  refine TL.q rfl (.g rfl rfl (decide_eq_true c420)) (Ex.ft ft_cursitorlaw01_ok rfl) rfl ?_
                  refine TL.q rfl (.g rfl rfl (decide_eq_true c420)) (Ex.ft ft_cursitorlaw01_ok rfl) rfl ?_
                  refine TL.q rfl .u (Ex.py rfl (decide_eq_true c420) rfl) rfl ?_
                  refine TL.run ft_cursitorlaw01_ok [10] rfl rfl ?_
                  by_cases c424 : x421 = y404
                  · replace h := ifT c424 h
                    cases h
                    exact TL.nil (X.as (d := 4) (v' := .bool true) rfl (congrArg Value.bool (decide_eq_true c424)) (X.jq [0, 0] ⟨rfl, rfl⟩ (by rfl) (by rfl)))
                  · replace h := ifF c424 h
                    cases h
                    exact TL.nil (X.as (d := 4) (v' := .bool false) rfl (congrArg Value.bool (decide_eq_false c424)) (X.jq [0, 0] ⟨rfl, rfl⟩ (by rfl) (by rfl)))
                · replace h := ifF c420 h
                  refine TL.run ft_cursitorlaw01_ok [2, 3, 4] rfl rfl ?_
                  refine TL.no rfl (.gn rfl rfl (decide_eq_false c420)) rfl ?_
                  refine TL.no rfl (.gn rfl rfl (decide_eq_false c420)) rfl ?_
                  refine TL.no rfl (.gn rfl rfl (decide_eq_false c420)) rfl ?_
                  refine TL.no rfl (.gn rfl rfl (decide_eq_false c420)) rfl ?_
                  refine TL.q rfl .u (Ex.pn rfl (decide_eq_false c420) rfl) rfl ?_
                  refine TL.run ft_cursitorlaw01_ok [10] rfl rfl ?_
                  cases h
                  exact TL.nil (X.jq [0, 0] ⟨rfl, rfl⟩ (by rfl) (by rfl))
              · rintro _ _ ⟨rfl, rfl⟩
                clear h
                have h := hk416
                clear hk416
                try dsimp only at h
                obtain rfl := Option.some.inj h
                exact X.seq (T.ret (X.done1 [1] Try.results11 (RV.tm rfl) ⟨rfl, rfl, rfl⟩ (by rfl) (.inl rfl)))
        | succ m23 =>
          have h := hl25
          clear hl25
          obtain ⟨x24, hxx24⟩ : ∃ x, a1[k18]? = some x := ⟨_, List.getElem?_eq_getElem (by omega)⟩
          rw [drop_cons hxx24, f_l01_InputReads_l1] at h
          have hk26lt : (k18 : Int) < (a1.length : Int) := by omega
          refine T.seq (T.region rfl ?_)
          refine TL.run ft_cursitorlaw01_ok [0] rfl rfl ?_
          refine TL.nil (X.seq (T.seq ?_))
          refine T.yes rfl (decide_eq_true hk26lt) ?_
          obtain ⟨gz27, oz27, rfl, z27cs, z27cl, z27cc, z27nf, z27r⟩ := RX.elem (by decide) hX hxx24
          obtain ⟨z27S, z27r, z27rr⟩ := z27r
          obtain rfl : z27cs = [.int .u8 x24.fKind, .int .i64 x24.fN, .int .i64 x24.fK] := z27r
          refine T.skip (X.seq (T.seq (T.block (T.seq (T.region rfl ?_)))))
          refine TL.q rfl .u (Ex.ixS (k := k18) rfl rfl rfl Try.runUnderlying93 Try.sizeOf95 (List.getElem?_eq_some_iff.1 hxx24).1) rfl ?_
          refine TL.q rfl .u (Ex.oS (us := [.int .u8 x24.fKind, .int .i64 x24.fN, .int .i64 x24.fK]) 0 rfl Try.isAgg95 Try.sizeOf95 z27nf z27cc rfl rfl rfl) rfl ?_
          refine TL.alloc rfl .u Try.zeroValue95 rfl (fun b28 => ?_)
          refine TL.st0 (cs' := #[.int .u8 x24.fKind, .int .i64 x24.fN, .int .i64 x24.fK]) rfl .u rfl rfl Try.sizeOf95 rfl rfl rfl rfl ?_
          refine TL.nil (X.seq (T.seq (T.region rfl ?_)))
          refine TL.run ft_cursitorlaw01_ok [0, 1] rfl rfl ?_
          refine TL.nil (X.seq (T.seq (T.seq (T.region rfl ?_))))
          refine TL.run ft_cursitorlaw01_ok [0] rfl rfl ?_
          refine TL.q rfl .u (Ex.b1 0 rfl Try.isAgg5 rfl rfl) rfl ?_
          replace h := guard_some h
          obtain ⟨c29, h⟩ := h
          refine TL.q rfl .u (Ex.remK rfl rfl (by omega) c29) rfl ?_
          refine TL.nil (X.seq (T.block (T.seq (T.region rfl ?_))))
          refine TL.run ft_cursitorlaw01_ok [0, 1] rfl rfl ?_
          by_cases c30 : (x24.fKind % 4) = 0
          · replace h := ifT c30 h
            refine TL.nil (X.seq ?_)
            refine T.yes rfl (decide_eq_true c30) ?_
            refine T.seq (T.region rfl ?_)
            refine TL.run ft_cursitorlaw01_ok [0] rfl rfl ?_
            refine TL.nil (X.seq (T.seq (T.seq (T.region rfl ?_))))
            refine TL.run ft_cursitorlaw01_ok [0, 1] rfl rfl ?_
            refine TL.nil (X.seq ?_)
            obtain ⟨⟨y64, y65, y66⟩, h, hk67⟩ := Option.bind_eq_some_iff.1 h
            refine T.jq (fun e Rs => e = [(0, .string (bsOf a0)), (4, .bool y15), (5, .pointer (some ⟨b14, 0, none⟩)), (6, .int .i64 y64), (7, .int .i64 y65), (9, .pointer (some ⟨b28, 0, none⟩)), (10, .int .i64 y17), (11, .string (bsOf y66)), (26, .slice (some ⟨gz27, oz27, none⟩) a1.length c2), (27, .int .i64 (a1.length : Int)), (28, .int .i64 (k18 : Int)), (35, .int .u8 (x24.fKind % 4))] ∧ Rs = [BlkR b28 95 #[.int .u8 x24.fKind, .int .i64 x24.fN, .int .i64 x24.fK], InR b14 st19, EmpR]) ?_ ?_
            · clear hk67
              by_cases c68 : y17 = 0
              · replace h := ifT c68 h
                refine T.yes rfl (decide_eq_true c68) ?_
                refine T.block (T.seq (T.region rfl ?_))
                refine TL.run ft_cursitorlaw01_ok [0] rfl rfl ?_
                refine TL.q rfl .u (Ex.b1 0 rfl Try.isAgg3 rfl rfl) rfl ?_
                refine TL.run ft_cursitorlaw01_ok [2, 3] rfl rfl ?_
                refine TL.nil (X.seq ?_)
                obtain ⟨⟨y83, y84, y85⟩, h, hk86⟩ := Option.bind_eq_some_iff.1 h
                refine T.jq (fun e Rs => e = [(0, .string (bsOf a0)), (4, .bool y15), (5, .pointer (some ⟨b14, 0, none⟩)), (6, .int .i64 y83), (7, .int .i64 y84), (9, .pointer (some ⟨b28, 0, none⟩)), (10, .int .i64 y17), (11, .string (bsOf y85)), (26, .slice (some ⟨gz27, oz27, none⟩) a1.length c2), (27, .int .i64 (a1.length : Int)), (28, .int .i64 (k18 : Int)), (35, .int .u8 (x24.fKind % 4))] ∧ Rs = [BlkR b28 95 #[.int .u8 x24.fKind, .int .i64 x24.fN, .int .i64 x24.fK], InR b14 st19, EmpR]) ?_ ?_
                · clear hk86
                  by_cases c87 : x24.fN < 0
                  · replace h := ifT c87 h
                    refine T.yes rfl (decide_eq_true c87) ?_
                    refine T.region rfl ?_
                    refine TL.run ft_cursitorlaw01_ok [0] rfl rfl ?_
                    cases h
                    exact TL.nil (X.jq [0, 0, 0] ⟨rfl, rfl⟩ (by rfl) (by rfl))
                  · replace h := ifF c87 h
                    refine T.no rfl (decide_eq_false c87) ?_
                    refine T.seq (T.region rfl ?_)
                    refine TL.run ft_cursitorlaw01_ok [0] rfl rfl ?_
                    refine TL.q rfl .u (Ex.b1 0 rfl Try.isAgg3 rfl rfl) rfl ?_
                    refine TL.run ft_cursitorlaw01_ok [2] rfl rfl ?_
                    refine TL.q rfl .u (Ex.lenB rfl Try.runUnderlying9) rfl ?_
                    replace h := guard_some h
                    obtain ⟨c88, h⟩ := h
                    refine TL.run ft_cursitorlaw01_ok [4] rfl rfl ?_
                    refine TL.q rfl .u (Ex.sub rfl rfl c88) rfl ?_
                    refine TL.run ft_cursitorlaw01_ok [6, 7] rfl rfl ?_
                    refine TL.nil (X.seq ?_)
                    obtain ⟨⟨y93, y94, y95⟩, h, hk96⟩ := Option.bind_eq_some_iff.1 h
                    refine T.jq (fun e Rs => e = [(0, .string (bsOf a0)), (4, .bool y15), (5, .pointer (some ⟨b14, 0, none⟩)), (6, .int .i64 y93), (7, .int .i64 y94), (9, .pointer (some ⟨b28, 0, none⟩)), (10, .int .i64 y17), (11, .string (bsOf y95)), (26, .slice (some ⟨gz27, oz27, none⟩) a1.length c2), (27, .int .i64 (a1.length : Int)), (28, .int .i64 (k18 : Int)), (35, .int .u8 (x24.fKind % 4))] ∧ Rs = [BlkR b28 95 #[.int .u8 x24.fKind, .int .i64 x24.fN, .int .i64 x24.fK], InR b14 st19, EmpR]) ?_ ?_
                    · clear hk96
                      by_cases c97 : x24.fN > ((a0.length : Int) - y16)
                      · replace h := ifT c97 h
                        refine T.yes rfl (decide_eq_true c97) ?_
                        refine T.region rfl ?_
                        refine TL.run ft_cursitorlaw01_ok [0] rfl rfl ?_
                        cases h
                        exact TL.nil (X.jq [0, 0, 0] ⟨rfl, rfl⟩ (by rfl) (by rfl))
                      · replace h := ifF c97 h
                        refine T.no rfl (decide_eq_false c97) ?_
                        refine T.seq (T.region rfl ?_)
                        refine TL.run ft_cursitorlaw01_ok [0, 1, 2, 3] rfl rfl ?_
                        refine TL.q rfl .u (Ex.b1 0 rfl Try.isAgg3 rfl rfl) rfl ?_
                        replace h := guard_some h
                        obtain ⟨c98, h⟩ := h
                        refine TL.q rfl .u (Ex.add rfl rfl c98) rfl ?_
                        replace h := guard_some h
                        obtain ⟨c99, h⟩ := h
                        replace c99 : 0 ≤ y16 ∧ 0 ≤ (y16 + x24.fN) ∧ y16.toNat ≤ (y16 + x24.fN).toNat ∧ (y16 + x24.fN).toNat ≤ a0.length := c99
                        refine TL.q rfl .u (Ex.sSl (p := y16.toNat) (q := (y16 + x24.fN).toNat) (m := ((a0.drop y16.toNat).take (((y16 + x24.fN).toNat) - y16.toNat))) rfl Try.runUnderlying9 (.some rfl ((Int.toNat_of_nonneg c99.1).symm)) (.some rfl ((Int.toNat_of_nonneg c99.2.1).symm)) (by first | omega | (dsimp only; omega)) rfl) rfl ?_
                        refine TL.run ft_cursitorlaw01_ok [7] rfl rfl ?_
                        refine TL.nil (X.seq (T.region rfl ?_))
                        refine TL.run ft_cursitorlaw01_ok [0, 1] rfl rfl ?_
                        refine TL.q rfl .u (Ex.b1 0 rfl Try.isAgg3 rfl rfl) rfl ?_
                        replace h := guard_some h
                        obtain ⟨c100, h⟩ := h
                        refine TL.q rfl .u (Ex.add rfl rfl c100) rfl ?_
                        refine TL.run ft_cursitorlaw01_ok [4] rfl rfl ?_
                        cases h
                        exact TL.nil (X.jq [0, 0, 0] ⟨rfl, rfl⟩ (by rfl) (by rfl))
                    · rintro _ _ ⟨rfl, rfl⟩
                      clear h
                      have h := hk96
                      clear hk96
                      try dsimp only at h
                      cases h
                      exact X.jq [0, 0, 0] ⟨rfl, rfl⟩ (by rfl) (by rfl)
                · rintro _ _ ⟨rfl, rfl⟩
                  clear h
                  have h := hk86
                  clear hk86
                  try dsimp only at h
                  cases h
                  exact X.blk (X.jq [0, 0, 0] ⟨rfl, rfl⟩ (by rfl) (by rfl))
              · replace h := ifF c68 h
                refine T.no rfl (decide_eq_false c68) ?_
                cases h
                exact T.skip (X.jq [0, 0, 0] ⟨rfl, rfl⟩ (by rfl) (by rfl))
            · rintro _ _ ⟨rfl, rfl⟩
              clear h
              have h := hk67
              clear hk67
              try dsimp only at h
              refine X.seq (T.seq (T.region rfl ?_))
              refine TL.run ft_cursitorlaw01_ok [0, 1] rfl rfl ?_
              refine TL.q rfl .u (Ex.b1 0 rfl Try.isAgg3 rfl rfl) rfl ?_
              obtain ⟨⟨x101, st102⟩, hx103, h⟩ := Option.bind_eq_some_iff.1 h
              try dsimp only at h
              refine TL.c1 rfl .u (.fn Try.call58 rfl) (gTake_spec b14 st19 x24.fN _ hx103) (fun _ hs => (Src.triv _)) rfl ?_
              refine TL.run ft_cursitorlaw01_ok [4] rfl rfl ?_
              refine TL.q rfl .u (Ex.sNe rfl rfl) rfl ?_
              by_cases c104 : x101 = y66
              · replace h := ifT c104 h
                refine TL.nil (X.seq ?_)
                refine T.no rfl (bn_f (decide_eq_true c104)) ?_
                refine T.skip (X.blk (X.seq (T.seq ?_)))
                obtain ⟨⟨y119, st120⟩, h, hk121⟩ := Option.bind_eq_some_iff.1 h
                refine T.jq (fun e Rs => e = [(0, .string (bsOf a0)), (4, .bool y15), (5, .pointer (some ⟨b14, 0, none⟩)), (6, .int .i64 y64), (7, .int .i64 y65), (26, .slice (some ⟨gz27, oz27, none⟩) a1.length c2), (27, .int .i64 (a1.length : Int)), (28, .int .i64 (k18 : Int)), (195, .bool y119)] ∧ Rs = [BlkR b28 95 #[.int .u8 x24.fKind, .int .i64 x24.fN, .int .i64 x24.fK], InR b14 st120, EmpR]) ?_ ?_
                · clear hk121
                  refine T.region rfl ?_
                  obtain ⟨⟨x122, st123⟩, hx124, h⟩ := Option.bind_eq_some_iff.1 h
                  try dsimp only at h
                  refine TL.run ft_cursitorlaw01_ok [0] rfl rfl ?_
                  refine TL.c1 rfl .u (.fn Try.call38 rfl) (gLeft_spec b14 st102 _ hx124) (fun _ hs => (Src.triv _)) rfl ?_
                  refine TL.run ft_cursitorlaw01_ok [2] rfl rfl ?_
                  refine TL.q rfl .u (Ex.lenB rfl Try.runUnderlying9) rfl ?_
                  replace h := guard_some h
                  obtain ⟨c125, h⟩ := h
                  refine TL.run ft_cursitorlaw01_ok [4] rfl rfl ?_
                  refine TL.q rfl .u (Ex.sub rfl rfl c125) rfl ?_
                  by_cases c126 : x122 = ((a0.length : Int) - y64)
                  · replace h := ifT c126 h
                    refine TL.run ft_cursitorlaw01_ok [6, 7] rfl rfl ?_
                    refine TL.q rfl (.g rfl rfl (bn_f (decide_eq_true c126))) (Ex.ft ft_cursitorlaw01_ok rfl) rfl ?_
                    obtain ⟨⟨x127, st128⟩, hx129, h⟩ := Option.bind_eq_some_iff.1 h
                    try dsimp only at h
                    refine TL.c1 rfl (.g rfl rfl (bn_f (decide_eq_true c126))) (.fn Try.call33 rfl) (gAt_spec b14 st123 _ hx129) (fun _ hs => (Src.triv _)) rfl ?_
                    refine TL.q rfl (.g rfl rfl (bn_f (decide_eq_true c126))) (Ex.ft ft_cursitorlaw01_ok rfl) rfl ?_
                    refine TL.q rfl (.g rfl rfl (bn_f (decide_eq_true c126))) (Ex.ft ft_cursitorlaw01_ok rfl) rfl ?_
                    refine TL.q rfl .u (Ex.pn rfl (bn_f (decide_eq_true c126)) rfl) rfl ?_
                    by_cases c130 : x127 = y64
                    · replace h := ifT c130 h
                      refine TL.run ft_cursitorlaw01_ok [13] rfl rfl ?_
                      refine TL.q rfl (.g rfl rfl (bn_f (decide_eq_true c130))) (Ex.ft ft_cursitorlaw01_ok rfl) rfl ?_
                      obtain ⟨⟨x131, st132⟩, hx133, h⟩ := Option.bind_eq_some_iff.1 h
                      try dsimp only at h
                      refine TL.c1 rfl (.g rfl rfl (bn_f (decide_eq_true c130))) (.fn Try.call29 rfl) (gErr_spec b14 st128 _ hx133) (fun _ hs => (Src.triv _)) rfl ?_
                      refine TL.q rfl (.g rfl rfl (bn_f (decide_eq_true c130))) (Ex.ft ft_cursitorlaw01_ok rfl) rfl ?_
                      refine TL.q rfl (.g rfl rfl (bn_f (decide_eq_true c130))) (Ex.ft ft_cursitorlaw01_ok rfl) rfl ?_
                      refine TL.q rfl .u (Ex.pn rfl (bn_f (decide_eq_true c130)) rfl) rfl ?_
                      by_cases c134 : x131 = y65
                      · replace h := ifT c134 h
                        refine TL.run ft_cursitorlaw01_ok [19] rfl rfl ?_
                        refine TL.q rfl (.g rfl rfl (bn_f (decide_eq_true c134))) (Ex.ft ft_cursitorlaw01_ok rfl) rfl ?_
                        refine TL.q rfl (.g rfl rfl (bn_f (decide_eq_true c134))) (Ex.ft ft_cursitorlaw01_ok rfl) rfl ?_
                        refine TL.q rfl (.g rfl rfl (bn_f (decide_eq_true c134))) (Ex.ft ft_cursitorlaw01_ok rfl) rfl ?_
                        by_cases c135 : y17 = 0
                        · replace h := ifT c135 h
                          refine TL.no rfl (.gn rfl rfl (bn_f (decide_eq_true c135))) rfl ?_
                          refine TL.no rfl (.gn rfl rfl (bn_f (decide_eq_true c135))) rfl ?_
                          refine TL.no rfl (.gn rfl rfl (bn_f (decide_eq_true c135))) rfl ?_
                          refine TL.q rfl (.g rfl rfl (bn_f (decide_eq_true c134))) (Ex.pn rfl (bn_f (decide_eq_true c135)) rfl) rfl ?_
                          refine TL.q rfl .u (Ex.pn rfl (bn_f (decide_eq_true c134)) rfl) rfl ?_
                          cases h
                          exact TL.nil (X.jq [0, 0, 0] ⟨rfl, rfl⟩ (by rfl) (by rfl))
                        · replace h := ifF c135 h
                          refine TL.q rfl (.g rfl rfl (bn_t (decide_eq_false c135))) (Ex.ft ft_cursitorlaw01_ok rfl) rfl ?_
                          refine TL.q rfl (.g rfl rfl (bn_t (decide_eq_false c135))) (Ex.ft ft_cursitorlaw01_ok rfl) rfl ?_
                          refine TL.q rfl (.g rfl rfl (bn_t (decide_eq_false c135))) (Ex.ft ft_cursitorlaw01_ok rfl) rfl ?_
                          refine TL.q rfl (.g rfl rfl (bn_f (decide_eq_true c134))) (Ex.py rfl (bn_t (decide_eq_false c135)) rfl) rfl ?_
                          refine TL.q rfl .u (Ex.pn rfl (bn_f (decide_eq_true c134)) rfl) rfl ?_
                          by_cases c136 : y65 = y17
                          · replace h := ifT c136 h
                            cases h
                            exact TL.nil (X.as (d := 195) (v' := .bool false) rfl (congrArg Value.bool (bn_f (decide_eq_true c136))) (X.jq [0, 0, 0] ⟨rfl, rfl⟩ (by rfl) (by rfl)))
                          · replace h := ifF c136 h
                            cases h
                            exact TL.nil (X.as (d := 195) (v' := .bool true) rfl (congrArg Value.bool (bn_t (decide_eq_false c136))) (X.jq [0, 0, 0] ⟨rfl, rfl⟩ (by rfl) (by rfl)))
                      · replace h := ifF c134 h
                        refine TL.run ft_cursitorlaw01_ok [19] rfl rfl ?_
                        refine TL.no rfl (.gn rfl rfl (bn_t (decide_eq_false c134))) rfl ?_
                        refine TL.no rfl (.gn rfl rfl (bn_t (decide_eq_false c134))) rfl ?_
                        refine TL.no rfl (.gn rfl rfl (bn_t (decide_eq_false c134))) rfl ?_
                        refine TL.no rfl (.gu rfl rfl) rfl ?_
                        refine TL.no rfl (.gu rfl rfl) rfl ?_
                        refine TL.no rfl (.gu rfl rfl) rfl ?_
                        refine TL.no rfl (.gn rfl rfl (bn_t (decide_eq_false c134))) rfl ?_
                        refine TL.q rfl .u (Ex.py rfl (bn_t (decide_eq_false c134)) rfl) rfl ?_
                        cases h
                        exact TL.nil (X.jq [0, 0, 0] ⟨rfl, rfl⟩ (by rfl) (by rfl))
                    · replace h := ifF c130 h
                      refine TL.run ft_cursitorlaw01_ok [13] rfl rfl ?_
                      refine TL.no rfl (.gn rfl rfl (bn_t (decide_eq_false c130))) rfl ?_
                      refine TL.no rfl (.gn rfl rfl (bn_t (decide_eq_false c130))) rfl ?_
                      refine TL.no rfl (.gn rfl rfl (bn_t (decide_eq_false c130))) rfl ?_
                      refine TL.no rfl (.gn rfl rfl (bn_t (decide_eq_false c130))) rfl ?_
                      refine TL.q rfl .u (Ex.py rfl (bn_t (decide_eq_false c130)) rfl) rfl ?_
                      refine TL.run ft_cursitorlaw01_ok [19] rfl rfl ?_
                      refine TL.no rfl (.gn rfl rfl rfl) rfl ?_
                      refine TL.no rfl (.gn rfl rfl rfl) rfl ?_
                      refine TL.no rfl (.gn rfl rfl rfl) rfl ?_
                      refine TL.no rfl (.gu rfl rfl) rfl ?_
                      refine TL.no rfl (.gu rfl rfl) rfl ?_
                      refine TL.no rfl (.gu rfl rfl) rfl ?_
                      refine TL.no rfl (.gn rfl rfl rfl) rfl ?_
                      refine TL.q rfl .u (Ex.py rfl rfl rfl) rfl ?_
                      cases h
                      exact TL.nil (X.jq [0, 0, 0] ⟨rfl, rfl⟩ (by rfl) (by rfl))
                  · replace h := ifF c126 h
                    refine TL.run ft_cursitorlaw01_ok [6, 7] rfl rfl ?_
                    refine TL.no rfl (.gn rfl rfl (bn_t (decide_eq_false c126))) rfl ?_
                    refine TL.no rfl (.gn rfl rfl (bn_t (decide_eq_false c126))) rfl ?_
                    refine TL.no rfl (.gn rfl rfl (bn_t (decide_eq_false c126))) rfl ?_
                    refine TL.no rfl (.gn rfl rfl (bn_t (decide_eq_false c126))) rfl ?_
                    refine TL.q rfl .u (Ex.py rfl (bn_t (decide_eq_false c126)) rfl) rfl ?_
                    refine TL.run ft_cursitorlaw01_ok [13] rfl rfl ?_
                    refine TL.no rfl (.gn rfl rfl rfl) rfl ?_
                    refine TL.no rfl (.gn rfl rfl rfl) rfl ?_
                    refine TL.no rfl (.gn rfl rfl rfl) rfl ?_
                    refine TL.no rfl (.gn rfl rfl rfl) rfl ?_
                    refine TL.q rfl .u (Ex.py rfl rfl rfl) rfl ?_
                    refine TL.run ft_cursitorlaw01_ok [19] rfl rfl ?_
                    refine TL.no rfl (.gn rfl rfl rfl) rfl ?_
                    refine TL.no rfl (.gn rfl rfl rfl) rfl ?_
                    refine TL.no rfl (.gn rfl rfl rfl) rfl ?_
                    refine TL.no rfl (.gu rfl rfl) rfl ?_
                    refine TL.no rfl (.gu rfl rfl) rfl ?_
                    refine TL.no rfl (.gu rfl rfl) rfl ?_
                    refine TL.no rfl (.gn rfl rfl rfl) rfl ?_
                    refine TL.q rfl .u (Ex.py rfl rfl rfl) rfl ?_
                    cases h
                    exact TL.nil (X.jq [0, 0, 0] ⟨rfl, rfl⟩ (by rfl) (by rfl))
                · rintro _ _ ⟨rfl, rfl⟩
                  clear h
                  have h := hk121
                  clear hk121
                  try dsimp only at h
                  by_cases c137 : y119 = true
                  · replace h := ifT c137 h
                    refine X.seq ?_
                    refine T.yes rfl c137 ?_
                    exact nomatch h
                  · replace h := ifF c137 h
                    replace c137 := eq_false_of_ne_true c137
                    refine X.seq ?_
                    refine T.no rfl c137 ?_
                    refine T.skip (X.blk (X.seq (T.region rfl ?_)))
                    refine TL.q rfl .u (Ex.add rfl rfl (by omega)) rfl ?_
                    refine TL.run ft_cursitorlaw01_ok [1] rfl rfl ?_
                    exact TL.nil (X.back (m' := m23) [1, 1] (by omega) ⟨y15, y64, y65, k18 + 1, st120, by omega, rfl, rfl, h⟩ (by rfl) (by rfl))
              · replace h := ifF c104 h
                refine TL.nil (X.seq ?_)
                refine T.yes rfl (bn_t (decide_eq_false c104)) ?_
                exact nomatch h
          · replace h := ifF c30 h
            refine TL.nil (X.seq ?_)
            refine T.no rfl (decide_eq_false c30) ?_
            refine T.seq (T.seq (T.region rfl ?_))
            refine TL.run ft_cursitorlaw01_ok [0, 1] rfl rfl ?_
            refine TL.nil (X.seq ?_)
            obtain ⟨y139, h, hk140⟩ := Option.bind_eq_some_iff.1 h
            refine T.jq (fun e Rs => e = [(0, .string (bsOf a0)), (4, .bool y15), (5, .pointer (some ⟨b14, 0, none⟩)), (6, .int .i64 y16), (7, .int .i64 y17), (9, .pointer (some ⟨b28, 0, none⟩)), (10, .int .i64 y17), (26, .slice (some ⟨gz27, oz27, none⟩) a1.length c2), (27, .int .i64 (a1.length : Int)), (28, .int .i64 (k18 : Int)), (80, .bool y139)] ∧ Rs = [BlkR b28 95 #[.int .u8 x24.fKind, .int .i64 x24.fN, .int .i64 x24.fK], InR b14 st19, EmpR]) ?_ ?_
            · clear hk140
              by_cases c141 : (x24.fKind % 4) = 1
              · replace h := ifT c141 h
                refine T.yes rfl (decide_eq_true c141) ?_
                cases h
                exact T.skip (X.as (d := 80) (v' := .bool true) rfl (congrArg Value.bool (decide_eq_true c141)) (X.jq [0, 0, 0] ⟨rfl, rfl⟩ (by rfl) (by rfl)))
              · replace h := ifF c141 h
                refine T.no rfl (decide_eq_false c141) ?_
                refine T.region rfl ?_
                refine TL.run ft_cursitorlaw01_ok [0, 1] rfl rfl ?_
                by_cases c142 : (x24.fKind % 4) = 2
                · replace h := ifT c142 h
                  cases h
                  exact TL.nil (X.as (d := 80) (v' := .bool true) rfl (congrArg Value.bool (decide_eq_true c142)) (X.jq [0, 0, 0] ⟨rfl, rfl⟩ (by rfl) (by rfl)))
                · replace h := ifF c142 h
                  cases h
                  exact TL.nil (X.as (d := 80) (v' := .bool false) rfl (congrArg Value.bool (decide_eq_false c142)) (X.jq [0, 0, 0] ⟨rfl, rfl⟩ (by rfl) (by rfl)))
            · rintro _ _ ⟨rfl, rfl⟩
              clear h
              have h := hk140
              clear hk140
              try dsimp only at h
              by_cases c143 : y139 = true
              · replace h := ifT c143 h
                refine X.seq ?_
                refine T.yes rfl c143 ?_
                refine T.seq (T.region rfl ?_)
                refine TL.run ft_cursitorlaw01_ok [0] rfl rfl ?_
                refine TL.nil (X.seq (T.seq (T.block (T.seq (T.region rfl ?_)))))
                refine TL.run ft_cursitorlaw01_ok [0, 1, 2] rfl rfl ?_
                refine TL.nil (X.seq ?_)
                obtain ⟨⟨y190, y191, y192⟩, h, hk193⟩ := Option.bind_eq_some_iff.1 h
                refine T.jq (fun e Rs => e = [(0, .string (bsOf a0)), (4, .bool y15), (5, .pointer (some ⟨b14, 0, none⟩)), (6, .int .i64 y190), (7, .int .i64 y191), (9, .pointer (some ⟨b28, 0, none⟩)), (10, .int .i64 y17), (12, .int .i64 y192), (26, .slice (some ⟨gz27, oz27, none⟩) a1.length c2), (27, .int .i64 (a1.length : Int)), (28, .int .i64 (k18 : Int))] ∧ Rs = [BlkR b28 95 #[.int .u8 x24.fKind, .int .i64 x24.fN, .int .i64 x24.fK], InR b14 st19, EmpR]) ?_ ?_
                · clear hk193
                  by_cases c194 : y17 = 0
                  · replace h := ifT c194 h
                    refine T.no rfl (bn_f (decide_eq_true c194)) ?_
                    refine T.seq ?_
                    obtain ⟨y196, h, hk197⟩ := Option.bind_eq_some_iff.1 h
                    refine T.jq (fun e Rs => e = [(0, .string (bsOf a0)), (4, .bool y15), (5, .pointer (some ⟨b14, 0, none⟩)), (6, .int .i64 y16), (7, .int .i64 y17), (9, .pointer (some ⟨b28, 0, none⟩)), (10, .int .i64 y17), (12, .int .i64 0), (26, .slice (some ⟨gz27, oz27, none⟩) a1.length c2), (27, .int .i64 (a1.length : Int)), (28, .int .i64 (k18 : Int)), (98, .bool y196)] ∧ Rs = [BlkR b28 95 #[.int .u8 x24.fKind, .int .i64 x24.fN, .int .i64 x24.fK], InR b14 st19, EmpR]) ?_ ?_
                    · clear hk197
                      refine T.region rfl ?_
                      refine TL.run ft_cursitorlaw01_ok [0] rfl rfl ?_
                      refine TL.q rfl .u (Ex.b1 0 rfl Try.isAgg3 rfl rfl) rfl ?_
                      by_cases c198 : x24.fN < 1
                      · replace h := ifT c198 h
                        refine TL.run ft_cursitorlaw01_ok [2, 3] rfl rfl ?_
                        refine TL.no rfl (.gn rfl rfl (decide_eq_true c198)) rfl ?_
                        refine TL.no rfl (.gn rfl rfl (decide_eq_true c198)) rfl ?_
                        refine TL.no rfl (.gn rfl rfl (decide_eq_true c198)) rfl ?_
                        refine TL.q rfl .u (Ex.py rfl (decide_eq_true c198) rfl) rfl ?_
                        refine TL.run ft_cursitorlaw01_ok [8] rfl rfl ?_
                        cases h
                        exact TL.nil (X.jq [0, 0, 0] ⟨rfl, rfl⟩ (by rfl) (by rfl))
                      · replace h := ifF c198 h
                        refine TL.run ft_cursitorlaw01_ok [2, 3] rfl rfl ?_
                        refine TL.q rfl (.g rfl rfl (decide_eq_false c198)) (Ex.ft ft_cursitorlaw01_ok rfl) rfl ?_
                        refine TL.q rfl (.g rfl rfl (decide_eq_false c198)) (Ex.b1 0 rfl Try.isAgg3 rfl rfl) rfl ?_
                        refine TL.q rfl (.g rfl rfl (decide_eq_false c198)) (Ex.ft ft_cursitorlaw01_ok rfl) rfl ?_
                        refine TL.q rfl .u (Ex.pn rfl (decide_eq_false c198) rfl) rfl ?_
                        refine TL.run ft_cursitorlaw01_ok [8] rfl rfl ?_
                        by_cases c199 : x24.fN > 8
                        · replace h := ifT c199 h
                          cases h
                          exact TL.nil (X.as (d := 98) (v' := .bool true) rfl (congrArg Value.bool (decide_eq_true c199)) (X.jq [0, 0, 0] ⟨rfl, rfl⟩ (by rfl) (by rfl)))
                        · replace h := ifF c199 h
                          cases h
                          exact TL.nil (X.as (d := 98) (v' := .bool false) rfl (congrArg Value.bool (decide_eq_false c199)) (X.jq [0, 0, 0] ⟨rfl, rfl⟩ (by rfl) (by rfl)))
                    · rintro _ _ ⟨rfl, rfl⟩
                      clear h
                      have h := hk197
                      clear hk197
                      try dsimp only at h
                      refine X.seq ?_
                      obtain ⟨⟨y218, y219, y220⟩, h, hk221⟩ := Option.bind_eq_some_iff.1 h
                      refine T.jq (fun e Rs => e = [(0, .string (bsOf a0)), (4, .bool y15), (5, .pointer (some ⟨b14, 0, none⟩)), (6, .int .i64 y218), (7, .int .i64 y219), (9, .pointer (some ⟨b28, 0, none⟩)), (10, .int .i64 y17), (12, .int .i64 y220), (26, .slice (some ⟨gz27, oz27, none⟩) a1.length c2), (27, .int .i64 (a1.length : Int)), (28, .int .i64 (k18 : Int))] ∧ Rs = [BlkR b28 95 #[.int .u8 x24.fKind, .int .i64 x24.fN, .int .i64 x24.fK], InR b14 st19, EmpR]) ?_ ?_
                      · clear hk221
                        by_cases c222 : y196 = true
                        · replace h := ifT c222 h
                          refine T.yes rfl c222 ?_
                          refine T.region rfl ?_
                          refine TL.run ft_cursitorlaw01_ok [0] rfl rfl ?_
                          cases h
                          exact TL.nil (X.jq [0, 0, 0] ⟨rfl, rfl⟩ (by rfl) (by rfl))
                        · replace h := ifF c222 h
                          replace c222 := eq_false_of_ne_true c222
                          refine T.no rfl c222 ?_
                          refine T.seq (T.region rfl ?_)
                          refine TL.run ft_cursitorlaw01_ok [0] rfl rfl ?_
                          refine TL.q rfl .u (Ex.b1 0 rfl Try.isAgg3 rfl rfl) rfl ?_
                          refine TL.run ft_cursitorlaw01_ok [2] rfl rfl ?_
                          refine TL.q rfl .u (Ex.lenB rfl Try.runUnderlying9) rfl ?_
                          replace h := guard_some h
                          obtain ⟨c223, h⟩ := h
                          refine TL.run ft_cursitorlaw01_ok [4] rfl rfl ?_
                          refine TL.q rfl .u (Ex.sub rfl rfl c223) rfl ?_
                          refine TL.run ft_cursitorlaw01_ok [6, 7] rfl rfl ?_
                          refine TL.nil (X.seq ?_)
                          obtain ⟨⟨y230, y231, y232⟩, h, hk233⟩ := Option.bind_eq_some_iff.1 h
                          refine T.jq (fun e Rs => e = [(0, .string (bsOf a0)), (4, .bool y15), (5, .pointer (some ⟨b14, 0, none⟩)), (6, .int .i64 y230), (7, .int .i64 y231), (9, .pointer (some ⟨b28, 0, none⟩)), (10, .int .i64 y17), (12, .int .i64 y232), (26, .slice (some ⟨gz27, oz27, none⟩) a1.length c2), (27, .int .i64 (a1.length : Int)), (28, .int .i64 (k18 : Int))] ∧ Rs = [BlkR b28 95 #[.int .u8 x24.fKind, .int .i64 x24.fN, .int .i64 x24.fK], InR b14 st19, EmpR]) ?_ ?_
                          · clear hk233
                            by_cases c234 : x24.fN > ((a0.length : Int) - y16)
                            · replace h := ifT c234 h
                              refine T.yes rfl (decide_eq_true c234) ?_
                              refine T.region rfl ?_
                              refine TL.run ft_cursitorlaw01_ok [0] rfl rfl ?_
                              cases h
                              exact TL.nil (X.jq [0, 0, 0] ⟨rfl, rfl⟩ (by rfl) (by rfl))
                            · replace h := ifF c234 h
                              refine T.no rfl (decide_eq_false c234) ?_
                              refine T.seq (T.region rfl ?_)
                              refine TL.run ft_cursitorlaw01_ok [0, 1, 2, 3] rfl rfl ?_
                              refine TL.q rfl .u (Ex.b1 0 rfl Try.isAgg3 rfl rfl) rfl ?_
                              replace h := guard_some h
                              obtain ⟨c235, h⟩ := h
                              refine TL.q rfl .u (Ex.add rfl rfl c235) rfl ?_
                              replace h := guard_some h
                              obtain ⟨c236, h⟩ := h
                              replace c236 : 0 ≤ y16 ∧ 0 ≤ (y16 + x24.fN) ∧ y16.toNat ≤ (y16 + x24.fN).toNat ∧ (y16 + x24.fN).toNat ≤ a0.length := c236
                              refine TL.q rfl .u (Ex.sSl (p := y16.toNat) (q := (y16 + x24.fN).toNat) (m := ((a0.drop y16.toNat).take (((y16 + x24.fN).toNat) - y16.toNat))) rfl Try.runUnderlying9 (.some rfl ((Int.toNat_of_nonneg c236.1).symm)) (.some rfl ((Int.toNat_of_nonneg c236.2.1).symm)) (by first | omega | (dsimp only; omega)) rfl) rfl ?_
                              obtain ⟨x237, hx238, h⟩ := Option.bind_eq_some_iff.1 h
                              refine TL.ce rfl .u (.fn Try.call59 rfl) (SpecX.pure (fun w => gRInt_spec ((a0.drop y16.toNat).take (((y16 + x24.fN).toNat) - y16.toNat)) _ hx238 w)) (fun _ _ => RX.reads_triv _ _) rfl ?_
                              refine TL.run ft_cursitorlaw01_ok [8] rfl rfl ?_
                              refine TL.nil (X.seq (T.region rfl ?_))
                              refine TL.run ft_cursitorlaw01_ok [0, 1] rfl rfl ?_
                              refine TL.q rfl .u (Ex.b1 0 rfl Try.isAgg3 rfl rfl) rfl ?_
                              replace h := guard_some h
                              obtain ⟨c239, h⟩ := h
                              refine TL.q rfl .u (Ex.add rfl rfl c239) rfl ?_
                              refine TL.run ft_cursitorlaw01_ok [4] rfl rfl ?_
                              cases h
                              exact TL.nil (X.jq [0, 0, 0] ⟨rfl, rfl⟩ (by rfl) (by rfl))
                          · rintro _ _ ⟨rfl, rfl⟩
                            clear h
                            have h := hk233
                            clear hk233
                            try dsimp only at h
                            cases h
                            exact X.jq [0, 0, 0] ⟨rfl, rfl⟩ (by rfl) (by rfl)
                      · rintro _ _ ⟨rfl, rfl⟩
                        clear h
                        have h := hk221
                        clear hk221
                        try dsimp only at h
                        cases h
                        exact X.jq [0, 0, 0] ⟨rfl, rfl⟩ (by rfl) (by rfl)
                  · replace h := ifF c194 h
                    refine T.yes rfl (bn_t (decide_eq_false c194)) ?_
                    cases h
                    exact T.skip (X.jq [0, 0, 0] ⟨rfl, rfl⟩ (by rfl) (by rfl))
                · rintro _ _ ⟨rfl, rfl⟩
                  clear h
                  have h := hk193
                  clear hk193
                  try dsimp only at h
                  refine X.blk (X.seq (T.seq (T.seq ?_)))
                  obtain ⟨y243, h, hk244⟩ := Option.bind_eq_some_iff.1 h
                  refine T.jq (fun e Rs => e = [(0, .string (bsOf a0)), (4, .bool y15), (5, .pointer (some ⟨b14, 0, none⟩)), (6, .int .i64 y190), (7, .int .i64 y191), (9, .pointer (some ⟨b28, 0, none⟩)), (10, .int .i64 y17), (12, .int .i64 y192), (26, .slice (some ⟨gz27, oz27, none⟩) a1.length c2), (27, .int .i64 (a1.length : Int)), (28, .int .i64 (k18 : Int)), (126, .bool y243)] ∧ Rs = [BlkR b28 95 #[.int .u8 x24.fKind, .int .i64 x24.fN, .int .i64 x24.fK], InR b14 st19, EmpR]) ?_ ?_
                  · clear hk244
                    refine T.region rfl ?_
                    refine TL.run ft_cursitorlaw01_ok [0] rfl rfl ?_
                    refine TL.q rfl .u (Ex.b1 0 rfl Try.isAgg5 rfl rfl) rfl ?_
                    replace h := guard_some h
                    obtain ⟨c245, h⟩ := h
                    refine TL.q rfl .u (Ex.remK rfl rfl (by omega) c245) rfl ?_
                    by_cases c246 : (x24.fKind % 4) = 2
                    · replace h := ifT c246 h
                      refine TL.run ft_cursitorlaw01_ok [3, 4] rfl rfl ?_
                      refine TL.q rfl (.g rfl rfl (decide_eq_true c246)) (Ex.ft ft_cursitorlaw01_ok rfl) rfl ?_
                      refine TL.q rfl (.g rfl rfl (decide_eq_true c246)) (Ex.ft ft_cursitorlaw01_ok rfl) rfl ?_
                      refine TL.q rfl .u (Ex.py rfl (decide_eq_true c246) rfl) rfl ?_
                      by_cases c247 : y191 = 0
                      · replace h := ifT c247 h
                        refine TL.run ft_cursitorlaw01_ok [8] rfl rfl ?_
                        refine TL.q rfl (.g rfl rfl (decide_eq_true c247)) (Ex.ft ft_cursitorlaw01_ok rfl) rfl ?_
                        refine TL.q rfl (.g rfl rfl (decide_eq_true c247)) (Ex.ft ft_cursitorlaw01_ok rfl) rfl ?_
                        refine TL.q rfl .u (Ex.py rfl (decide_eq_true c247) rfl) rfl ?_
                        by_cases c248 : y192 < 0
                        · replace h := ifT c248 h
                          cases h
                          exact TL.nil (X.as (d := 126) (v' := .bool true) rfl (congrArg Value.bool (decide_eq_true c248)) (X.jq [0, 0, 0] ⟨rfl, rfl⟩ (by rfl) (by rfl)))
                        · replace h := ifF c248 h
                          cases h
                          exact TL.nil (X.as (d := 126) (v' := .bool false) rfl (congrArg Value.bool (decide_eq_false c248)) (X.jq [0, 0, 0] ⟨rfl, rfl⟩ (by rfl) (by rfl)))
                      · replace h := ifF c247 h
                        refine TL.run ft_cursitorlaw01_ok [8] rfl rfl ?_
                        refine TL.no rfl (.gn rfl rfl (decide_eq_false c247)) rfl ?_
                        refine TL.no rfl (.gn rfl rfl (decide_eq_false c247)) rfl ?_
                        refine TL.q rfl .u (Ex.pn rfl (decide_eq_false c247) rfl) rfl ?_
                        cases h
                        exact TL.nil (X.jq [0, 0, 0] ⟨rfl, rfl⟩ (by rfl) (by rfl))
                    · replace h := ifF c246 h
                      refine TL.run ft_cursitorlaw01_ok [3, 4] rfl rfl ?_
                      refine TL.no rfl (.gn rfl rfl (decide_eq_false c246)) rfl ?_
                      refine TL.no rfl (.gn rfl rfl (decide_eq_false c246)) rfl ?_
                      refine TL.q rfl .u (Ex.pn rfl (decide_eq_false c246) rfl) rfl ?_
                      refine TL.run ft_cursitorlaw01_ok [8] rfl rfl ?_
                      refine TL.no rfl (.gn rfl rfl rfl) rfl ?_
                      refine TL.no rfl (.gn rfl rfl rfl) rfl ?_
                      refine TL.q rfl .u (Ex.pn rfl rfl rfl) rfl ?_
                      cases h
                      exact TL.nil (X.jq [0, 0, 0] ⟨rfl, rfl⟩ (by rfl) (by rfl))
                  · rintro _ _ ⟨rfl, rfl⟩
                    clear h
                    have h := hk244
                    clear hk244
                    try dsimp only at h
                    refine X.seq ?_
                    obtain ⟨⟨y250, y251⟩, h, hk252⟩ := Option.bind_eq_some_iff.1 h
                    refine T.jq (fun e Rs => e = [(0, .string (bsOf a0)), (4, .bool y15), (5, .pointer (some ⟨b14, 0, none⟩)), (6, .int .i64 y190), (7, .int .i64 y250), (9, .pointer (some ⟨b28, 0, none⟩)), (10, .int .i64 y17), (12, .int .i64 y251), (26, .slice (some ⟨gz27, oz27, none⟩) a1.length c2), (27, .int .i64 (a1.length : Int)), (28, .int .i64 (k18 : Int))] ∧ Rs = [BlkR b28 95 #[.int .u8 x24.fKind, .int .i64 x24.fN, .int .i64 x24.fK], InR b14 st19, EmpR]) ?_ ?_
                    · clear hk252
                      by_cases c253 : y243 = true
                      · replace h := ifT c253 h
                        refine T.yes rfl c253 ?_
                        refine T.region rfl ?_
                        refine TL.run ft_cursitorlaw01_ok [0, 1] rfl rfl ?_
                        cases h
                        exact TL.nil (X.jq [0, 0, 0] ⟨rfl, rfl⟩ (by rfl) (by rfl))
                      · replace h := ifF c253 h
                        replace c253 := eq_false_of_ne_true c253
                        refine T.no rfl c253 ?_
                        cases h
                        exact T.skip (X.jq [0, 0, 0] ⟨rfl, rfl⟩ (by rfl) (by rfl))
                    · rintro _ _ ⟨rfl, rfl⟩
                      clear h
                      have h := hk252
                      clear hk252
                      try dsimp only at h
                      refine X.seq (T.seq (T.seq ?_))
                      obtain ⟨y260, h, hk261⟩ := Option.bind_eq_some_iff.1 h
                      refine T.jq (fun e Rs => e = [(0, .string (bsOf a0)), (4, .bool y15), (5, .pointer (some ⟨b14, 0, none⟩)), (6, .int .i64 y190), (7, .int .i64 y250), (9, .pointer (some ⟨b28, 0, none⟩)), (10, .int .i64 y17), (12, .int .i64 y251), (26, .slice (some ⟨gz27, oz27, none⟩) a1.length c2), (27, .int .i64 (a1.length : Int)), (28, .int .i64 (k18 : Int)), (150, .bool y260)] ∧ Rs = [BlkR b28 95 #[.int .u8 x24.fKind, .int .i64 x24.fN, .int .i64 x24.fK], InR b14 st19, EmpR]) ?_ ?_
                      · clear hk261
                        refine T.region rfl ?_
                        refine TL.run ft_cursitorlaw01_ok [0] rfl rfl ?_
                        refine TL.q rfl .u (Ex.b1 0 rfl Try.isAgg5 rfl rfl) rfl ?_
                        replace h := guard_some h
                        obtain ⟨c262, h⟩ := h
                        refine TL.q rfl .u (Ex.remK rfl rfl (by omega) c262) rfl ?_
                        by_cases c263 : (x24.fKind % 4) = 2
                        · replace h := ifT c263 h
                          refine TL.run ft_cursitorlaw01_ok [3, 4] rfl rfl ?_
                          refine TL.q rfl (.g rfl rfl (decide_eq_true c263)) (Ex.ft ft_cursitorlaw01_ok rfl) rfl ?_
                          refine TL.q rfl (.g rfl rfl (decide_eq_true c263)) (Ex.ft ft_cursitorlaw01_ok rfl) rfl ?_
                          refine TL.q rfl .u (Ex.py rfl (decide_eq_true c263) rfl) rfl ?_
                          by_cases c264 : y250 = 0
                          · replace h := ifT c264 h
                            refine TL.run ft_cursitorlaw01_ok [8] rfl rfl ?_
                            refine TL.q rfl (.g rfl rfl (decide_eq_true c264)) (Ex.ft ft_cursitorlaw01_ok rfl) rfl ?_
                            refine TL.q rfl (.g rfl rfl (decide_eq_true c264)) (Ex.b1 0 rfl Try.isAgg3 rfl rfl) rfl ?_
                            refine TL.q rfl (.g rfl rfl (decide_eq_true c264)) (Ex.ft ft_cursitorlaw01_ok rfl) rfl ?_
                            refine TL.q rfl .u (Ex.py rfl (decide_eq_true c264) rfl) rfl ?_
                            by_cases c265 : x24.fK > 0
                            · replace h := ifT c265 h
                              refine TL.run ft_cursitorlaw01_ok [13] rfl rfl ?_
                              refine TL.q rfl (.g rfl rfl (decide_eq_true c265)) (Ex.ft ft_cursitorlaw01_ok rfl) rfl ?_
                              refine TL.q rfl (.g rfl rfl (decide_eq_true c265)) (Ex.ft ft_cursitorlaw01_ok rfl) rfl ?_
                              refine TL.q rfl (.g rfl rfl (decide_eq_true c265)) (Ex.lenB rfl Try.runUnderlying9) rfl ?_
                              refine TL.q rfl (.g rfl rfl (decide_eq_true c265)) (Ex.ft ft_cursitorlaw01_ok rfl) rfl ?_
                              replace h := guard_some h
                              obtain ⟨c266, h⟩ := h
                              refine TL.q rfl (.g rfl rfl (decide_eq_true c265)) (Ex.sub rfl rfl c266) rfl ?_
                              refine TL.q rfl (.g rfl rfl (decide_eq_true c265)) (Ex.ft ft_cursitorlaw01_ok rfl) rfl ?_
                              refine TL.q rfl (.g rfl rfl (decide_eq_true c265)) (Ex.b1 0 rfl Try.isAgg3 rfl rfl) rfl ?_
                              replace h := guard_some h
                              obtain ⟨c267, h⟩ := h
                              refine TL.q rfl (.g rfl rfl (decide_eq_true c265)) (Ex.quo rfl rfl c267.1 c267.2) rfl ?_
                              refine TL.q rfl (.g rfl rfl (decide_eq_true c265)) (Ex.ft ft_cursitorlaw01_ok rfl) rfl ?_
                              refine TL.q rfl .u (Ex.py rfl (decide_eq_true c265) rfl) rfl ?_
                              by_cases c268 : y251 > (((a0.length : Int) - y190) / x24.fK)
                              · replace h := ifT c268 h
                                cases h
                                exact TL.nil (X.as (d := 150) (v' := .bool true) rfl (congrArg Value.bool (decide_eq_true c268)) (X.jq [0, 0, 0] ⟨rfl, rfl⟩ (by rfl) (by rfl)))
                              · replace h := ifF c268 h
                                cases h
                                exact TL.nil (X.as (d := 150) (v' := .bool false) rfl (congrArg Value.bool (decide_eq_false c268)) (X.jq [0, 0, 0] ⟨rfl, rfl⟩ (by rfl) (by rfl)))
                            · replace h := ifF c265 h
                              refine TL.run ft_cursitorlaw01_ok [13] rfl rfl ?_
                              refine TL.no rfl (.gn rfl rfl (decide_eq_false c265)) rfl ?_
                              refine TL.no rfl (.gn rfl rfl (decide_eq_false c265)) rfl ?_
                              refine TL.no rfl (.gn rfl rfl (decide_eq_false c265)) rfl ?_
                              refine TL.no rfl (.gn rfl rfl (decide_eq_false c265)) rfl ?_
                              refine TL.no rfl (.gn rfl rfl (decide_eq_false c265)) rfl ?_
                              refine TL.no rfl (.gn rfl rfl (decide_eq_false c265)) rfl ?_
                              refine TL.no rfl (.gn rfl rfl (decide_eq_false c265)) rfl ?_
                              refine TL.no rfl (.gn rfl rfl (decide_eq_false c265)) rfl ?_
                              refine TL.no rfl (.gn rfl rfl (decide_eq_false c265)) rfl ?_
                              refine TL.q rfl .u (Ex.pn rfl (decide_eq_false c265) rfl) rfl ?_
                              cases h
                              exact TL.nil (X.jq [0, 0, 0] ⟨rfl, rfl⟩ (by rfl) (by rfl))
                          · replace h := ifF c264 h
                            refine TL.run ft_cursitorlaw01_ok [8] rfl rfl ?_
                            refine TL.no rfl (.gn rfl rfl (decide_eq_false c264)) rfl ?_
                            refine TL.no rfl (.gn rfl rfl (decide_eq_false c264)) rfl ?_
                            refine TL.no rfl (.gn rfl rfl (decide_eq_false c264)) rfl ?_
                            refine TL.q rfl .u (Ex.pn rfl (decide_eq_false c264) rfl) rfl ?_
                            refine TL.run ft_cursitorlaw01_ok [13] rfl rfl ?_
                            refine TL.no rfl (.gn rfl rfl rfl) rfl ?_
                            refine TL.no rfl (.gn rfl rfl rfl) rfl ?_
                            refine TL.no rfl (.gn rfl rfl rfl) rfl ?_
                            refine TL.no rfl (.gn rfl rfl rfl) rfl ?_
                            refine TL.no rfl (.gn rfl rfl rfl) rfl ?_
                            refine TL.no rfl (.gn rfl rfl rfl) rfl ?_
                            refine TL.no rfl (.gn rfl rfl rfl) rfl ?_
                            refine TL.no rfl (.gn rfl rfl rfl) rfl ?_
                            refine TL.no rfl (.gn rfl rfl rfl) rfl ?_
                            refine TL.q rfl .u (Ex.pn rfl rfl rfl) rfl ?_
                            cases h
                            exact TL.nil (X.jq [0, 0, 0] ⟨rfl, rfl⟩ (by rfl) (by rfl))
                        · replace h := ifF c263 h
                          refine TL.run ft_cursitorlaw01_ok [3, 4] rfl rfl ?_
                          refine TL.no rfl (.gn rfl rfl (decide_eq_false c263)) rfl ?_
                          refine TL.no rfl (.gn rfl rfl (decide_eq_false c263)) rfl ?_
                          refine TL.q rfl .u (Ex.pn rfl (decide_eq_false c263) rfl) rfl ?_
                          refine TL.run ft_cursitorlaw01_ok [8] rfl rfl ?_
                          refine TL.no rfl (.gn rfl rfl rfl) rfl ?_
                          refine TL.no rfl (.gn rfl rfl rfl) rfl ?_
                          refine TL.no rfl (.gn rfl rfl rfl) rfl ?_
                          refine TL.q rfl .u (Ex.pn rfl rfl rfl) rfl ?_
                          refine TL.run ft_cursitorlaw01_ok [13] rfl rfl ?_
                          refine TL.no rfl (.gn rfl rfl rfl) rfl ?_
                          refine TL.no rfl (.gn rfl rfl rfl) rfl ?_
                          refine TL.no rfl (.gn rfl rfl rfl) rfl ?_
                          refine TL.no rfl (.gn rfl rfl rfl) rfl ?_
                          refine TL.no rfl (.gn rfl rfl rfl) rfl ?_
                          refine TL.no rfl (.gn rfl rfl rfl) rfl ?_
                          refine TL.no rfl (.gn rfl rfl rfl) rfl ?_
                          refine TL.no rfl (.gn rfl rfl rfl) rfl ?_
                          refine TL.no rfl (.gn rfl rfl rfl) rfl ?_
                          refine TL.q rfl .u (Ex.pn rfl rfl rfl) rfl ?_
                          cases h
                          exact TL.nil (X.jq [0, 0, 0] ⟨rfl, rfl⟩ (by rfl) (by rfl))
                      · rintro _ _ ⟨rfl, rfl⟩
                        clear h
                        have h := hk261
                        clear hk261
                        try dsimp only at h
                        refine X.seq ?_
                        obtain ⟨⟨y270, y271⟩, h, hk272⟩ := Option.bind_eq_some_iff.1 h
                        refine T.jq (fun e Rs => e = [(0, .string (bsOf a0)), (4, .bool y15), (5, .pointer (some ⟨b14, 0, none⟩)), (6, .int .i64 y190), (7, .int .i64 y270), (9, .pointer (some ⟨b28, 0, none⟩)), (10, .int .i64 y17), (12, .int .i64 y271), (26, .slice (some ⟨gz27, oz27, none⟩) a1.length c2), (27, .int .i64 (a1.length : Int)), (28, .int .i64 (k18 : Int))] ∧ Rs = [BlkR b28 95 #[.int .u8 x24.fKind, .int .i64 x24.fN, .int .i64 x24.fK], InR b14 st19, EmpR]) ?_ ?_
                        · clear hk272
                          by_cases c273 : y260 = true
                          · replace h := ifT c273 h
                            refine T.yes rfl c273 ?_
                            refine T.region rfl ?_
                            refine TL.run ft_cursitorlaw01_ok [0, 1] rfl rfl ?_
                            cases h
                            exact TL.nil (X.jq [0, 0, 0] ⟨rfl, rfl⟩ (by rfl) (by rfl))
                          · replace h := ifF c273 h
                            replace c273 := eq_false_of_ne_true c273
                            refine T.no rfl c273 ?_
                            cases h
                            exact T.skip (X.jq [0, 0, 0] ⟨rfl, rfl⟩ (by rfl) (by rfl))
                        · rintro _ _ ⟨rfl, rfl⟩
                          clear h
                          have h := hk272
                          clear hk272
                          try dsimp only at h
                          refine X.seq (T.seq (T.region rfl ?_))
                          refine TL.run ft_cursitorlaw01_ok [0] rfl rfl ?_
                          refine TL.nil (X.seq (T.seq (T.seq (T.region rfl ?_))))
                          refine TL.run ft_cursitorlaw01_ok [0] rfl rfl ?_
                          refine TL.q rfl .u (Ex.b1 0 rfl Try.isAgg5 rfl rfl) rfl ?_
                          replace h := guard_some h
                          obtain ⟨c274, h⟩ := h
                          refine TL.q rfl .u (Ex.remK rfl rfl (by omega) c274) rfl ?_
                          refine TL.run ft_cursitorlaw01_ok [3] rfl rfl ?_
                          refine TL.nil (X.seq ?_)
                          obtain ⟨⟨y282, st283⟩, h, hk284⟩ := Option.bind_eq_some_iff.1 h
                          refine T.jq (fun e Rs => e = [(0, .string (bsOf a0)), (4, .bool y15), (5, .pointer (some ⟨b14, 0, none⟩)), (6, .int .i64 y190), (7, .int .i64 y270), (9, .pointer (some ⟨b28, 0, none⟩)), (10, .int .i64 y17), (12, .int .i64 y271), (13, .int .i64 y282), (26, .slice (some ⟨gz27, oz27, none⟩) a1.length c2), (27, .int .i64 (a1.length : Int)), (28, .int .i64 (k18 : Int))] ∧ Rs = [BlkR b28 95 #[.int .u8 x24.fKind, .int .i64 x24.fN, .int .i64 x24.fK], InR b14 st283, EmpR]) ?_ ?_
                          · clear hk284
                            by_cases c285 : (x24.fKind % 4) = 1
                            · replace h := ifT c285 h
                              refine T.yes rfl (decide_eq_true c285) ?_
                              refine T.region rfl ?_
                              refine TL.run ft_cursitorlaw01_ok [0, 1] rfl rfl ?_
                              refine TL.q rfl .u (Ex.b1 0 rfl Try.isAgg3 rfl rfl) rfl ?_
                              obtain ⟨⟨x286, st287⟩, hx288, h⟩ := Option.bind_eq_some_iff.1 h
                              try dsimp only at h
                              refine TL.c1 rfl .u (.fn Try.call37 rfl) (gInt_spec b14 st19 x24.fN _ hx288) (fun _ hs => (Src.triv _)) rfl ?_
                              refine TL.run ft_cursitorlaw01_ok [4] rfl rfl ?_
                              cases h
                              exact TL.nil (X.jq [0, 0, 0] ⟨rfl, rfl⟩ (by rfl) (by rfl))
                            · replace h := ifF c285 h
                              refine T.no rfl (decide_eq_false c285) ?_
                              refine T.region rfl ?_
                              refine TL.run ft_cursitorlaw01_ok [0, 1] rfl rfl ?_
                              refine TL.q rfl .u (Ex.b1 0 rfl Try.isAgg3 rfl rfl) rfl ?_
                              refine TL.run ft_cursitorlaw01_ok [3] rfl rfl ?_
                              refine TL.q rfl .u (Ex.b1 0 rfl Try.isAgg3 rfl rfl) rfl ?_
                              obtain ⟨⟨x289, st290⟩, hx291, h⟩ := Option.bind_eq_some_iff.1 h
                              try dsimp only at h
                              refine TL.c1 rfl .u (.fn Try.call60 rfl) (gCount_spec b14 st19 x24.fN x24.fK _ hx291) (fun _ hs => (Src.triv _)) rfl ?_
                              refine TL.run ft_cursitorlaw01_ok [6] rfl rfl ?_
                              cases h
                              exact TL.nil (X.jq [0, 0, 0] ⟨rfl, rfl⟩ (by rfl) (by rfl))
                          · rintro _ _ ⟨rfl, rfl⟩
                            clear h
                            have h := hk284
                            clear hk284
                            try dsimp only at h
                            refine X.seq (T.seq (T.region rfl ?_))
                            refine TL.run ft_cursitorlaw01_ok [0, 1, 2] rfl rfl ?_
                            by_cases c292 : y282 = y271
                            · replace h := ifT c292 h
                              refine TL.nil (X.seq ?_)
                              refine T.no rfl (bn_f (decide_eq_true c292)) ?_
                              refine T.skip (X.blk (X.seq (T.seq ?_)))
                              obtain ⟨⟨y307, st308⟩, h, hk309⟩ := Option.bind_eq_some_iff.1 h
                              refine T.jq (fun e Rs => e = [(0, .string (bsOf a0)), (4, .bool y15), (5, .pointer (some ⟨b14, 0, none⟩)), (6, .int .i64 y190), (7, .int .i64 y270), (26, .slice (some ⟨gz27, oz27, none⟩) a1.length c2), (27, .int .i64 (a1.length : Int)), (28, .int .i64 (k18 : Int)), (195, .bool y307)] ∧ Rs = [BlkR b28 95 #[.int .u8 x24.fKind, .int .i64 x24.fN, .int .i64 x24.fK], InR b14 st308, EmpR]) ?_ ?_
                              · clear hk309
                                refine T.region rfl ?_
                                obtain ⟨⟨x310, st311⟩, hx312, h⟩ := Option.bind_eq_some_iff.1 h
                                try dsimp only at h
                                refine TL.run ft_cursitorlaw01_ok [0] rfl rfl ?_
                                refine TL.c1 rfl .u (.fn Try.call38 rfl) (gLeft_spec b14 st283 _ hx312) (fun _ hs => (Src.triv _)) rfl ?_
                                refine TL.run ft_cursitorlaw01_ok [2] rfl rfl ?_
                                refine TL.q rfl .u (Ex.lenB rfl Try.runUnderlying9) rfl ?_
                                replace h := guard_some h
                                obtain ⟨c313, h⟩ := h
                                refine TL.run ft_cursitorlaw01_ok [4] rfl rfl ?_
                                refine TL.q rfl .u (Ex.sub rfl rfl c313) rfl ?_
                                by_cases c314 : x310 = ((a0.length : Int) - y190)
                                · replace h := ifT c314 h
                                  refine TL.run ft_cursitorlaw01_ok [6, 7] rfl rfl ?_
                                  refine TL.q rfl (.g rfl rfl (bn_f (decide_eq_true c314))) (Ex.ft ft_cursitorlaw01_ok rfl) rfl ?_
                                  obtain ⟨⟨x315, st316⟩, hx317, h⟩ := Option.bind_eq_some_iff.1 h
                                  try dsimp only at h
                                  refine TL.c1 rfl (.g rfl rfl (bn_f (decide_eq_true c314))) (.fn Try.call33 rfl) (gAt_spec b14 st311 _ hx317) (fun _ hs => (Src.triv _)) rfl ?_
                                  refine TL.q rfl (.g rfl rfl (bn_f (decide_eq_true c314))) (Ex.ft ft_cursitorlaw01_ok rfl) rfl ?_
                                  refine TL.q rfl (.g rfl rfl (bn_f (decide_eq_true c314))) (Ex.ft ft_cursitorlaw01_ok rfl) rfl ?_
                                  refine TL.q rfl .u (Ex.pn rfl (bn_f (decide_eq_true c314)) rfl) rfl ?_
                                  by_cases c318 : x315 = y190
                                  · replace h := ifT c318 h
                                    refine TL.run ft_cursitorlaw01_ok [13] rfl rfl ?_
                                    refine TL.q rfl (.g rfl rfl (bn_f (decide_eq_true c318))) (Ex.ft ft_cursitorlaw01_ok rfl) rfl ?_
                                    obtain ⟨⟨x319, st320⟩, hx321, h⟩ := Option.bind_eq_some_iff.1 h
                                    try dsimp only at h
                                    refine TL.c1 rfl (.g rfl rfl (bn_f (decide_eq_true c318))) (.fn Try.call29 rfl) (gErr_spec b14 st316 _ hx321) (fun _ hs => (Src.triv _)) rfl ?_
                                    refine TL.q rfl (.g rfl rfl (bn_f (decide_eq_true c318))) (Ex.ft ft_cursitorlaw01_ok rfl) rfl ?_
                                    refine TL.q rfl (.g rfl rfl (bn_f (decide_eq_true c318))) (Ex.ft ft_cursitorlaw01_ok rfl) rfl ?_
                                    refine TL.q rfl .u (Ex.pn rfl (bn_f (decide_eq_true c318)) rfl) rfl ?_
                                    by_cases c322 : x319 = y270
                                    · replace h := ifT c322 h
                                      refine TL.run ft_cursitorlaw01_ok [19] rfl rfl ?_
                                      refine TL.q rfl (.g rfl rfl (bn_f (decide_eq_true c322))) (Ex.ft ft_cursitorlaw01_ok rfl) rfl ?_
                                      refine TL.q rfl (.g rfl rfl (bn_f (decide_eq_true c322))) (Ex.ft ft_cursitorlaw01_ok rfl) rfl ?_
                                      refine TL.q rfl (.g rfl rfl (bn_f (decide_eq_true c322))) (Ex.ft ft_cursitorlaw01_ok rfl) rfl ?_
                                      by_cases c323 : y17 = 0
                                      · replace h := ifT c323 h
                                        refine TL.no rfl (.gn rfl rfl (bn_f (decide_eq_true c323))) rfl ?_
                                        refine TL.no rfl (.gn rfl rfl (bn_f (decide_eq_true c323))) rfl ?_
                                        refine TL.no rfl (.gn rfl rfl (bn_f (decide_eq_true c323))) rfl ?_
                                        refine TL.q rfl (.g rfl rfl (bn_f (decide_eq_true c322))) (Ex.pn rfl (bn_f (decide_eq_true c323)) rfl) rfl ?_
                                        refine TL.q rfl .u (Ex.pn rfl (bn_f (decide_eq_true c322)) rfl) rfl ?_
                                        cases h
                                        exact TL.nil (X.jq [0, 0, 0] ⟨rfl, rfl⟩ (by rfl) (by rfl))
                                      · replace h := ifF c323 h
                                        refine TL.q rfl (.g rfl rfl (bn_t (decide_eq_false c323))) (Ex.ft ft_cursitorlaw01_ok rfl) rfl ?_
                                        refine TL.q rfl (.g rfl rfl (bn_t (decide_eq_false c323))) (Ex.ft ft_cursitorlaw01_ok rfl) rfl ?_
                                        refine TL.q rfl (.g rfl rfl (bn_t (decide_eq_false c323))) (Ex.ft ft_cursitorlaw01_ok rfl) rfl ?_
                                        refine TL.q rfl (.g rfl rfl (bn_f (decide_eq_true c322))) (Ex.py rfl (bn_t (decide_eq_false c323)) rfl) rfl ?_
                                        refine TL.q rfl .u (Ex.pn rfl (bn_f (decide_eq_true c322)) rfl) rfl ?_
                                        by_cases c324 : y270 = y17
                                        · replace h := ifT c324 h
                                          cases h
                                          exact TL.nil (X.as (d := 195) (v' := .bool false) rfl (congrArg Value.bool (bn_f (decide_eq_true c324))) (X.jq [0, 0, 0] ⟨rfl, rfl⟩ (by rfl) (by rfl)))
                                        · replace h := ifF c324 h
                                          cases h
                                          exact TL.nil (X.as (d := 195) (v' := .bool true) rfl (congrArg Value.bool (bn_t (decide_eq_false c324))) (X.jq [0, 0, 0] ⟨rfl, rfl⟩ (by rfl) (by rfl)))
                                    · replace h := ifF c322 h
                                      refine TL.run ft_cursitorlaw01_ok [19] rfl rfl ?_
                                      refine TL.no rfl (.gn rfl rfl (bn_t (decide_eq_false c322))) rfl ?_
                                      refine TL.no rfl (.gn rfl rfl (bn_t (decide_eq_false c322))) rfl ?_
                                      refine TL.no rfl (.gn rfl rfl (bn_t (decide_eq_false c322))) rfl ?_
                                      refine TL.no rfl (.gu rfl rfl) rfl ?_
                                      refine TL.no rfl (.gu rfl rfl) rfl ?_
                                      refine TL.no rfl (.gu rfl rfl) rfl ?_
                                      refine TL.no rfl (.gn rfl rfl (bn_t (decide_eq_false c322))) rfl ?_
                                      refine TL.q rfl .u (Ex.py rfl (bn_t (decide_eq_false c322)) rfl) rfl ?_
                                      cases h
                                      exact TL.nil (X.jq [0, 0, 0] ⟨rfl, rfl⟩ (by rfl) (by rfl))
                                  · replace h := ifF c318 h
                                    refine TL.run ft_cursitorlaw01_ok [13] rfl rfl ?_
                                    refine TL.no rfl (.gn rfl rfl (bn_t (decide_eq_false c318))) rfl ?_
                                    refine TL.no rfl (.gn rfl rfl (bn_t (decide_eq_false c318))) rfl ?_
                                    refine TL.no rfl (.gn rfl rfl (bn_t (decide_eq_false c318))) rfl ?_
                                    refine TL.no rfl (.gn rfl rfl (bn_t (decide_eq_false c318))) rfl ?_
                                    refine TL.q rfl .u (Ex.py rfl (bn_t (decide_eq_false c318)) rfl) rfl ?_
                                    refine TL.run ft_cursitorlaw01_ok [19] rfl rfl ?_
                                    refine TL.no rfl (.gn rfl rfl rfl) rfl ?_
                                    refine TL.no rfl (.gn rfl rfl rfl) rfl ?_
                                    refine TL.no rfl (.gn rfl rfl rfl) rfl ?_
                                    refine TL.no rfl (.gu rfl rfl) rfl ?_
                                    refine TL.no rfl (.gu rfl rfl) rfl ?_
                                    refine TL.no rfl (.gu rfl rfl) rfl ?_
                                    refine TL.no rfl (.gn rfl rfl rfl) rfl ?_
                                    refine TL.q rfl .u (Ex.py rfl rfl rfl) rfl ?_
                                    cases h
                                    exact TL.nil (X.jq [0, 0, 0] ⟨rfl, rfl⟩ (by rfl) (by rfl))
                                · replace h := ifF c314 h
                                  refine TL.run ft_cursitorlaw01_ok [6, 7] rfl rfl ?_
                                  refine TL.no rfl (.gn rfl rfl (bn_t (decide_eq_false c314))) rfl ?_
                                  refine TL.no rfl (.gn rfl rfl (bn_t (decide_eq_false c314))) rfl ?_
                                  refine TL.no rfl (.gn rfl rfl (bn_t (decide_eq_false c314))) rfl ?_
                                  refine TL.no rfl (.gn rfl rfl (bn_t (decide_eq_false c314))) rfl ?_
                                  refine TL.q rfl .u (Ex.py rfl (bn_t (decide_eq_false c314)) rfl) rfl ?_
                                  refine TL.run ft_cursitorlaw01_ok [13] rfl rfl ?_
                                  refine TL.no rfl (.gn rfl rfl rfl) rfl ?_
                                  refine TL.no rfl (.gn rfl rfl rfl) rfl ?_
                                  refine TL.no rfl (.gn rfl rfl rfl) rfl ?_
                                  refine TL.no rfl (.gn rfl rfl rfl) rfl ?_
                                  refine TL.q rfl .u (Ex.py rfl rfl rfl) rfl ?_
                                  refine TL.run ft_cursitorlaw01_ok [19] rfl rfl ?_
                                  refine TL.no rfl (.gn rfl rfl rfl) rfl ?_
                                  refine TL.no rfl (.gn rfl rfl rfl) rfl ?_
                                  refine TL.no rfl (.gn rfl rfl rfl) rfl ?_
                                  refine TL.no rfl (.gu rfl rfl) rfl ?_
                                  refine TL.no rfl (.gu rfl rfl) rfl ?_
                                  refine TL.no rfl (.gu rfl rfl) rfl ?_
                                  refine TL.no rfl (.gn rfl rfl rfl) rfl ?_
                                  refine TL.q rfl .u (Ex.py rfl rfl rfl) rfl ?_
                                  cases h
                                  exact TL.nil (X.jq [0, 0, 0] ⟨rfl, rfl⟩ (by rfl) (by rfl))
                              · rintro _ _ ⟨rfl, rfl⟩
                                clear h
                                have h := hk309
                                clear hk309
                                try dsimp only at h
                                by_cases c325 : y307 = true
                                · replace h := ifT c325 h
                                  refine X.seq ?_
                                  refine T.yes rfl c325 ?_
                                  exact nomatch h
                                · replace h := ifF c325 h
                                  replace c325 := eq_false_of_ne_true c325
                                  refine X.seq ?_
                                  refine T.no rfl c325 ?_
                                  refine T.skip (X.blk (X.seq (T.region rfl ?_)))
                                  refine TL.q rfl .u (Ex.add rfl rfl (by omega)) rfl ?_
                                  refine TL.run ft_cursitorlaw01_ok [1] rfl rfl ?_
                                  exact TL.nil (X.back (m' := m23) [1, 1] (by omega) ⟨y15, y190, y270, k18 + 1, st308, by omega, rfl, rfl, h⟩ (by rfl) (by rfl))
                            · replace h := ifF c292 h
                              refine TL.nil (X.seq ?_)
                              refine T.yes rfl (bn_t (decide_eq_false c292)) ?_
                              exact nomatch h
              · replace h := ifF c143 h
                replace c143 := eq_false_of_ne_true c143
                refine X.seq ?_
                refine T.no rfl c143 ?_
                refine T.seq (T.seq (T.region rfl ?_))
                refine TL.run ft_cursitorlaw01_ok [0] rfl rfl ?_
                refine TL.q rfl .u (Ex.b1 0 rfl Try.isAgg3 rfl rfl) rfl ?_
                refine TL.run ft_cursitorlaw01_ok [2] rfl rfl ?_
                by_cases c326 : x24.fN = 0
                · replace h := ifT c326 h
                  refine TL.nil (X.seq ?_)
                  refine T.yes rfl (decide_eq_true c326) ?_
                  refine T.seq (T.region rfl ?_)
                  refine TL.run ft_cursitorlaw01_ok [0] rfl rfl ?_
                  obtain rfl := Option.some.inj h
                  replace h := hO22
                  clear hO22
                  try dsimp only at h
                  obtain rfl := Option.some.inj h
                  exact TL.nil (X.seq (T.ret (X.rs (X.rb (X.rs (X.rb (X.rs (X.rs (X.rb (X.rs (X.done1 [2] Try.results11 (RV.tm rfl) ⟨rfl, rfl, rfl⟩ (by rfl) (.inl rfl))))))))))))
                · replace h := ifF c326 h
                  refine TL.nil (X.seq ?_)
                  refine T.no rfl (decide_eq_false c326) ?_
                  refine T.skip (X.seq (T.seq (T.region rfl ?_)))
                  refine TL.run ft_cursitorlaw01_ok [0, 1] rfl rfl ?_
                  refine TL.q rfl .u (Ex.b1 0 rfl Try.isAgg3 rfl rfl) rfl ?_
                  obtain ⟨st327, hx328, h⟩ := Option.bind_eq_some_iff.1 h
                  refine TL.c1 rfl .u (.fn Try.call61 rfl) (gIFail_spec b14 st19 x24.fN _ hx328) (fun _ hs => (Src.triv _)) rfl ?_
                  refine TL.nil (X.seq (T.seq (T.region rfl ?_)))
                  refine TL.run ft_cursitorlaw01_ok [0, 1] rfl rfl ?_
                  refine TL.nil (X.seq ?_)
                  obtain ⟨y330, h, hk331⟩ := Option.bind_eq_some_iff.1 h
                  refine T.jq (fun e Rs => e = [(0, .string (bsOf a0)), (4, .bool y15), (5, .pointer (some ⟨b14, 0, none⟩)), (6, .int .i64 y16), (7, .int .i64 y330), (10, .int .i64 y17), (26, .slice (some ⟨gz27, oz27, none⟩) a1.length c2), (27, .int .i64 (a1.length : Int)), (28, .int .i64 (k18 : Int))] ∧ Rs = [BlkR b28 95 #[.int .u8 x24.fKind, .int .i64 x24.fN, .int .i64 x24.fK], InR b14 st327, EmpR]) ?_ ?_
                  · clear hk331
                    by_cases c332 : y17 = 0
                    · replace h := ifT c332 h
                      refine T.yes rfl (decide_eq_true c332) ?_
                      refine T.region rfl ?_
                      refine TL.run ft_cursitorlaw01_ok [0] rfl rfl ?_
                      refine TL.q rfl .u (Ex.b1 0 rfl Try.isAgg3 rfl rfl) rfl ?_
                      refine TL.run ft_cursitorlaw01_ok [2] rfl rfl ?_
                      cases h
                      exact TL.nil (X.jq [0, 0, 0] ⟨rfl, rfl⟩ (by rfl) (by rfl))
                    · replace h := ifF c332 h
                      refine T.no rfl (decide_eq_false c332) ?_
                      cases h
                      exact T.skip (X.jq [0, 0, 0] ⟨rfl, rfl⟩ (by rfl) (by rfl))
                  · rintro _ _ ⟨rfl, rfl⟩
                    clear h
                    have h := hk331
                    clear hk331
                    try dsimp only at h
                    refine X.blk (X.seq (T.seq ?_))
                    obtain ⟨⟨y347, st348⟩, h, hk349⟩ := Option.bind_eq_some_iff.1 h
                    refine T.jq (fun e Rs => e = [(0, .string (bsOf a0)), (4, .bool y15), (5, .pointer (some ⟨b14, 0, none⟩)), (6, .int .i64 y16), (7, .int .i64 y330), (26, .slice (some ⟨gz27, oz27, none⟩) a1.length c2), (27, .int .i64 (a1.length : Int)), (28, .int .i64 (k18 : Int)), (195, .bool y347)] ∧ Rs = [BlkR b28 95 #[.int .u8 x24.fKind, .int .i64 x24.fN, .int .i64 x24.fK], InR b14 st348, EmpR]) ?_ ?_
                    · clear hk349
                      refine T.region rfl ?_
                      obtain ⟨⟨x350, st351⟩, hx352, h⟩ := Option.bind_eq_some_iff.1 h
                      try dsimp only at h
                      refine TL.run ft_cursitorlaw01_ok [0] rfl rfl ?_
                      refine TL.c1 rfl .u (.fn Try.call38 rfl) (gLeft_spec b14 st327 _ hx352) (fun _ hs => (Src.triv _)) rfl ?_
                      refine TL.run ft_cursitorlaw01_ok [2] rfl rfl ?_
                      refine TL.q rfl .u (Ex.lenB rfl Try.runUnderlying9) rfl ?_
                      replace h := guard_some h
                      obtain ⟨c353, h⟩ := h
                      refine TL.run ft_cursitorlaw01_ok [4] rfl rfl ?_
                      refine TL.q rfl .u (Ex.sub rfl rfl c353) rfl ?_
                      by_cases c354 : x350 = ((a0.length : Int) - y16)
                      · replace h := ifT c354 h
                        refine TL.run ft_cursitorlaw01_ok [6, 7] rfl rfl ?_
                        refine TL.q rfl (.g rfl rfl (bn_f (decide_eq_true c354))) (Ex.ft ft_cursitorlaw01_ok rfl) rfl ?_
                        obtain ⟨⟨x355, st356⟩, hx357, h⟩ := Option.bind_eq_some_iff.1 h
                        try dsimp only at h
                        refine TL.c1 rfl (.g rfl rfl (bn_f (decide_eq_true c354))) (.fn Try.call33 rfl) (gAt_spec b14 st351 _ hx357) (fun _ hs => (Src.triv _)) rfl ?_
                        refine TL.q rfl (.g rfl rfl (bn_f (decide_eq_true c354))) (Ex.ft ft_cursitorlaw01_ok rfl) rfl ?_
                        refine TL.q rfl (.g rfl rfl (bn_f (decide_eq_true c354))) (Ex.ft ft_cursitorlaw01_ok rfl) rfl ?_
                        refine TL.q rfl .u (Ex.pn rfl (bn_f (decide_eq_true c354)) rfl) rfl ?_
                        by_cases c358 : x355 = y16
                        · replace h := ifT c358 h
                          refine TL.run ft_cursitorlaw01_ok [13] rfl rfl ?_
                          refine TL.q rfl (.g rfl rfl (bn_f (decide_eq_true c358))) (Ex.ft ft_cursitorlaw01_ok rfl) rfl ?_
                          obtain ⟨⟨x359, st360⟩, hx361, h⟩ := Option.bind_eq_some_iff.1 h
                          try dsimp only at h
                          refine TL.c1 rfl (.g rfl rfl (bn_f (decide_eq_true c358))) (.fn Try.call29 rfl) (gErr_spec b14 st356 _ hx361) (fun _ hs => (Src.triv _)) rfl ?_
                          refine TL.q rfl (.g rfl rfl (bn_f (decide_eq_true c358))) (Ex.ft ft_cursitorlaw01_ok rfl) rfl ?_
                          refine TL.q rfl (.g rfl rfl (bn_f (decide_eq_true c358))) (Ex.ft ft_cursitorlaw01_ok rfl) rfl ?_
                          refine TL.q rfl .u (Ex.pn rfl (bn_f (decide_eq_true c358)) rfl) rfl ?_
                          by_cases c362 : x359 = y330
                          · replace h := ifT c362 h
                            refine TL.run ft_cursitorlaw01_ok [19] rfl rfl ?_
                            refine TL.q rfl (.g rfl rfl (bn_f (decide_eq_true c362))) (Ex.ft ft_cursitorlaw01_ok rfl) rfl ?_
                            refine TL.q rfl (.g rfl rfl (bn_f (decide_eq_true c362))) (Ex.ft ft_cursitorlaw01_ok rfl) rfl ?_
                            refine TL.q rfl (.g rfl rfl (bn_f (decide_eq_true c362))) (Ex.ft ft_cursitorlaw01_ok rfl) rfl ?_
                            by_cases c363 : y17 = 0
                            · replace h := ifT c363 h
                              refine TL.no rfl (.gn rfl rfl (bn_f (decide_eq_true c363))) rfl ?_
                              refine TL.no rfl (.gn rfl rfl (bn_f (decide_eq_true c363))) rfl ?_
                              refine TL.no rfl (.gn rfl rfl (bn_f (decide_eq_true c363))) rfl ?_
                              refine TL.q rfl (.g rfl rfl (bn_f (decide_eq_true c362))) (Ex.pn rfl (bn_f (decide_eq_true c363)) rfl) rfl ?_
                              refine TL.q rfl .u (Ex.pn rfl (bn_f (decide_eq_true c362)) rfl) rfl ?_
                              cases h
                              exact TL.nil (X.jq [0, 0, 0] ⟨rfl, rfl⟩ (by rfl) (by rfl))
                            · replace h := ifF c363 h
                              refine TL.q rfl (.g rfl rfl (bn_t (decide_eq_false c363))) (Ex.ft ft_cursitorlaw01_ok rfl) rfl ?_
                              refine TL.q rfl (.g rfl rfl (bn_t (decide_eq_false c363))) (Ex.ft ft_cursitorlaw01_ok rfl) rfl ?_
                              refine TL.q rfl (.g rfl rfl (bn_t (decide_eq_false c363))) (Ex.ft ft_cursitorlaw01_ok rfl) rfl ?_
                              refine TL.q rfl (.g rfl rfl (bn_f (decide_eq_true c362))) (Ex.py rfl (bn_t (decide_eq_false c363)) rfl) rfl ?_
                              refine TL.q rfl .u (Ex.pn rfl (bn_f (decide_eq_true c362)) rfl) rfl ?_
                              by_cases c364 : y330 = y17
                              · replace h := ifT c364 h
                                cases h
                                exact TL.nil (X.as (d := 195) (v' := .bool false) rfl (congrArg Value.bool (bn_f (decide_eq_true c364))) (X.jq [0, 0, 0] ⟨rfl, rfl⟩ (by rfl) (by rfl)))
                              · replace h := ifF c364 h
                                cases h
                                exact TL.nil (X.as (d := 195) (v' := .bool true) rfl (congrArg Value.bool (bn_t (decide_eq_false c364))) (X.jq [0, 0, 0] ⟨rfl, rfl⟩ (by rfl) (by rfl)))
                          · replace h := ifF c362 h
                            refine TL.run ft_cursitorlaw01_ok [19] rfl rfl ?_
                            refine TL.no rfl (.gn rfl rfl (bn_t (decide_eq_false c362))) rfl ?_
                            refine TL.no rfl (.gn rfl rfl (bn_t (decide_eq_false c362))) rfl ?_
                            refine TL.no rfl (.gn rfl rfl (bn_t (decide_eq_false c362))) rfl ?_
                            refine TL.no rfl (.gu rfl rfl) rfl ?_
                            refine TL.no rfl (.gu rfl rfl) rfl ?_
                            refine TL.no rfl (.gu rfl rfl) rfl ?_
                            refine TL.no rfl (.gn rfl rfl (bn_t (decide_eq_false c362))) rfl ?_
                            refine TL.q rfl .u (Ex.py rfl (bn_t (decide_eq_false c362)) rfl) rfl ?_
                            cases h
                            exact TL.nil (X.jq [0, 0, 0] ⟨rfl, rfl⟩ (by rfl) (by rfl))
                        · replace h := ifF c358 h
                          refine TL.run ft_cursitorlaw01_ok [13] rfl rfl ?_
                          refine TL.no rfl (.gn rfl rfl (bn_t (decide_eq_false c358))) rfl ?_
                          refine TL.no rfl (.gn rfl rfl (bn_t (decide_eq_false c358))) rfl ?_
                          refine TL.no rfl (.gn rfl rfl (bn_t (decide_eq_false c358))) rfl ?_
                          refine TL.no rfl (.gn rfl rfl (bn_t (decide_eq_false c358))) rfl ?_
                          refine TL.q rfl .u (Ex.py rfl (bn_t (decide_eq_false c358)) rfl) rfl ?_
                          refine TL.run ft_cursitorlaw01_ok [19] rfl rfl ?_
                          refine TL.no rfl (.gn rfl rfl rfl) rfl ?_
                          refine TL.no rfl (.gn rfl rfl rfl) rfl ?_
                          refine TL.no rfl (.gn rfl rfl rfl) rfl ?_
                          refine TL.no rfl (.gu rfl rfl) rfl ?_
                          refine TL.no rfl (.gu rfl rfl) rfl ?_
                          refine TL.no rfl (.gu rfl rfl) rfl ?_
                          refine TL.no rfl (.gn rfl rfl rfl) rfl ?_
                          refine TL.q rfl .u (Ex.py rfl rfl rfl) rfl ?_
                          cases h
                          exact TL.nil (X.jq [0, 0, 0] ⟨rfl, rfl⟩ (by rfl) (by rfl))
                      · replace h := ifF c354 h
                        refine TL.run ft_cursitorlaw01_ok [6, 7] rfl rfl ?_
                        refine TL.no rfl (.gn rfl rfl (bn_t (decide_eq_false c354))) rfl ?_
                        refine TL.no rfl (.gn rfl rfl (bn_t (decide_eq_false c354))) rfl ?_
                        refine TL.no rfl (.gn rfl rfl (bn_t (decide_eq_false c354))) rfl ?_
                        refine TL.no rfl (.gn rfl rfl (bn_t (decide_eq_false c354))) rfl ?_
                        refine TL.q rfl .u (Ex.py rfl (bn_t (decide_eq_false c354)) rfl) rfl ?_
                        refine TL.run ft_cursitorlaw01_ok [13] rfl rfl ?_
                        refine TL.no rfl (.gn rfl rfl rfl) rfl ?_
                        refine TL.no rfl (.gn rfl rfl rfl) rfl ?_
                        refine TL.no rfl (.gn rfl rfl rfl) rfl ?_
                        refine TL.no rfl (.gn rfl rfl rfl) rfl ?_
                        refine TL.q rfl .u (Ex.py rfl rfl rfl) rfl ?_
                        refine TL.run ft_cursitorlaw01_ok [19] rfl rfl ?_
                        refine TL.no rfl (.gn rfl rfl rfl) rfl ?_
                        refine TL.no rfl (.gn rfl rfl rfl) rfl ?_
                        refine TL.no rfl (.gn rfl rfl rfl) rfl ?_
                        refine TL.no rfl (.gu rfl rfl) rfl ?_
                        refine TL.no rfl (.gu rfl rfl) rfl ?_
                        refine TL.no rfl (.gu rfl rfl) rfl ?_
                        refine TL.no rfl (.gn rfl rfl rfl) rfl ?_
                        refine TL.q rfl .u (Ex.py rfl rfl rfl) rfl ?_
                        cases h
                        exact TL.nil (X.jq [0, 0, 0] ⟨rfl, rfl⟩ (by rfl) (by rfl))
                    · rintro _ _ ⟨rfl, rfl⟩
                      clear h
                      have h := hk349
                      clear hk349
                      try dsimp only at h
                      by_cases c365 : y347 = true
                      · replace h := ifT c365 h
                        refine X.seq ?_
                        refine T.yes rfl c365 ?_
                        exact nomatch h
                      · replace h := ifF c365 h
                        replace c365 := eq_false_of_ne_true c365
                        refine X.seq ?_
                        refine T.no rfl c365 ?_
                        refine T.skip (X.blk (X.seq (T.region rfl ?_)))
                        refine TL.q rfl .u (Ex.add rfl rfl (by omega)) rfl ?_
                        refine TL.run ft_cursitorlaw01_ok [1] rfl rfl ?_
                        exact TL.nil (X.back (m' := m23) [1, 1] (by omega) ⟨y15, y16, y330, k18 + 1, st348, by omega, rfl, rfl, h⟩ (by rfl) (by rfl))
  · replace h := ifF c5 h
    replace c5 := eq_false_of_ne_true c5
    refine TL.nil (X.seq ?_)
    refine T.yes rfl (bn_t c5) ?_
    exact nomatch h
end Go.Proofs.Ytpiiopppbgpbpaa.Sl
namespace Go.Proofs.Ytpiiopppbgpbpaa.Sl
open Go.RowKit Go.Deep Go.ChangeShapes
set_option linter.unusedVariables false
def andRd {α : Type} (E : Rd α) (W : α → Prop) : Rd α := ⟨fun w S cs a => E.P w S cs a ∧ W a, fun h k => ⟨E.mono h.1 k, h.2⟩, fun h k => ⟨E.move h.1 k, h.2⟩⟩
section
variable {H : Type} (enc : TypeId × Value → H) (P : Program) {α β : Type}
def OpensW (t : TypeId) (E : Rd α) : Prop :=
  ∀ (w : World) (fuel : Nat) (cs : List Value) (x : DataW H × List MemPlace), DataW.trod enc P w 0 (fun _ => true) true fuel t cs = some x → (∀ m, m ∈ x.1.weights P t → m ≤ reachBytes) → ∃ a, E.P w (fun k => k < w.heap.size) cs a
def OpensWFs (off : Nat) (fs : List Field) (n : Nat) (E : Rd α) : Prop :=
  ∀ (w : World) (fuel : Nat) (cs : List Value) (xs : List (DataW H × List MemPlace)), cs.length = off + n → xs.length = fs.length →
    (∀ (i : Nat) (f : Field), fs[i]? = some f → DataW.trod enc P w 0 (fun _ => true) true fuel f.type ((cs.drop f.offset).take (P.cellsOf f.type)) = xs[i]?) →
    (∀ m, m ∈ DataW.weightsEach P (fs.map (·.type)) (xs.map (·.1)) → m ≤ reachBytes) → ∃ a, E.P w (fun k => k < w.heap.size) (cs.drop off) a
variable {enc P}
theorem opensW_weak {t : TypeId} {E : Rd α} {E' : Rd β} (f : α → β) (h : OpensW enc P t E) (hf : ∀ w S cs a, E.P w S cs a → E'.P w S cs (f a)) : OpensW enc P t E' := by
  intro w fuel cs x hx hw
  obtain ⟨a, ha⟩ := h w fuel cs x hx hw
  exact ⟨f a, hf _ _ _ _ ha⟩
theorem opensW_of {t : TypeId} {E : Rd α} {E' : Rd β} (f : α → β) (h : Opens enc P t E) (hf : ∀ w S cs a, E.P w S cs a → E'.P w S cs (f a)) : OpensW enc P t E' := by
  intro w fuel cs x hx hw
  obtain ⟨a, ha⟩ := h w fuel cs x hx
  exact ⟨f a, hf _ _ _ _ ha⟩
def wI (n : Int) : Prop := -9223372036854775808 ≤ n ∧ n ≤ 9223372036854775807
def wU8 (n : Int) : Prop := 0 ≤ n ∧ n ≤ 255
def wL (W : α → Prop) (l : List α) : Prop := l.length ≤ 140737488351232 ∧ ∀ x, x ∈ l → W x
theorem op_i64 {t : TypeId} (ht : P.underlying t = some (.int .i64)) : OpensW enc P t (andRd intE wI) := opensW_of id (opens_int ht) (fun w S cs a h => ⟨h.1, Go.bounds_i64 h.2⟩)
theorem op_u8 {t : TypeId} (ht : P.underlying t = some (.int .u8)) : OpensW enc P t (andRd u8E wU8) := opensW_of id (opens_int ht) (fun w S cs a h => ⟨h.1, Go.bounds_u8 h.2⟩)
theorem slice_and {size : Nat} {E : Rd α} {W : α → Prop} {w : World} {S : Nat → Prop} {cs : List Value} {l : List α} (h : (sliceRd size (andRd E W)).P w S cs l) : (sliceRd size E).P w S cs l ∧ ∀ x, x ∈ l → W x := by
  rcases h with ⟨h, rfl⟩ | ⟨a, cap, h1, h2, h3, h4, h5⟩
  · exact ⟨.inl ⟨h, rfl⟩, fun x hx => by simp at hx⟩
  · refine ⟨.inr ⟨a, cap, h1, h2, h3, h4, fun i x hx => ?_⟩, fun x hx => ?_⟩
    · obtain ⟨cs, k1, k2, k3⟩ := h5 i x hx
      exact ⟨cs, k1, k2, k3.1⟩
    · obtain ⟨i, hi⟩ := List.getElem?_of_mem hx
      obtain ⟨cs, k1, k2, k3⟩ := h5 i x hi
      exact k3.2
theorem weightsAll_mem {e : TypeId} {l : List (DataW H)} {d : DataW H} {m : Nat} (hd : d ∈ l) (hm : m ∈ d.weights P e) : m ∈ DataW.weightsAll P e l := by
  induction l with
  | nil => simp at hd
  | cons x l ih =>
    simp only [DataW.weightsAll, List.mem_append]
    rcases List.mem_cons.1 hd with rfl | h
    · exact .inl hm
    · exact .inr (ih h)
theorem op_slice {t e : TypeId} {E : Rd α} {W : α → Prop} (size bytes : Nat) (ht : P.underlying t = some (.slice e)) (hc : P.cellsOf e = size) (hb : P.bytesOf e = bytes) (hp : 0 < size) (hpb : 0 < bytes) (he : OpensW enc P e (andRd E W)) : OpensW enc P t (andRd (sliceRd size E) (wL W)) := by
  intro w fuel cs x h hw
  rcases open_slice ht h with ⟨rfl, _⟩ | ⟨a, len, cap, m, n, D, Pl, rfl, _, hl, hm, hmm, rfl, hx⟩
  · exact ⟨[], .inl ⟨rfl, rfl⟩, by simp, fun x hx => by simp at hx⟩
  have hlm : len ≤ m := by rw [hmm]; split <;> omega
  have hlen : len ≤ 140737488351232 := by
    have h1 := hw ((((List.range len).map D).length + ((List.range (m - len)).map fun j => D (len + j)).length) * P.bytesOf e) (by simp only [DataW.weights, ht]; exact List.mem_cons_self)
    rw [hb] at h1
    simp only [List.length_map, List.length_range] at h1
    have h2 : (len + (m - len)) * 1 ≤ (len + (m - len)) * bytes := Nat.mul_le_mul_left _ hpb
    have h3 : reachBytes = 140737488351232 := rfl
    omega
  have hwe : ∀ i, i < len → ∀ z, z ∈ (D i).weights P e → z ≤ reachBytes := by
    intro i hi z hz
    apply hw
    simp only [DataW.weights, ht]
    exact List.mem_cons_of_mem _ (List.mem_append.2 (.inl (weightsAll_mem (d := D i) (List.mem_map.2 ⟨i, List.mem_range.2 hi, rfl⟩) hz)))
  rw [hc] at hx
  have each : ∀ i : Fin len, ∃ y : α, ∃ cs, cs.length = size ∧ (∀ j, j < size → w.cell? (a.add (i.val * size + j)) = cs[j]?) ∧ (andRd E W).P w (fun k => k < w.heap.size) cs y := by
    intro i
    obtain ⟨cs', h1, h2⟩ := hx i.val (by have := i.isLt; omega)
    obtain ⟨_, h3, h4⟩ := World.cells?_some h1
    obtain ⟨y, hy⟩ := he _ _ _ _ h2 (hwe i.val i.isLt)
    refine ⟨y, cs', h3, fun j hj => ?_, hy⟩
    rw [← h4 j hj, add_add]
  obtain ⟨f, hf⟩ := Classical.axiomOfChoice each
  have hs : (sliceRd size (andRd E W)).P w (fun k => k < w.heap.size) [.slice (some a) len cap] ((List.finRange len).map f) := by
    refine .inr ⟨a, cap, by simp, by simpa using hl, hm, fun hz => ?_, ?_⟩
    · simp at hz
      obtain ⟨cs', k1, k2, k3⟩ := hf ⟨0, by omega⟩
      have := k2 0 hp
      rw [List.getElem?_eq_getElem (by omega)] at this
      simp only [World.cell?] at this
      rw [block_add] at this
      rcases Nat.lt_or_ge a.block w.heap.size with h | h
      · exact h
      · rw [Array.getElem?_eq_none h] at this
        simp at this
    · intro i x hx
      rw [List.getElem?_map, Option.map_eq_some_iff] at hx
      obtain ⟨j, hj, rfl⟩ := hx
      have e : j.val = i := by
        obtain ⟨h1, h2⟩ := List.getElem?_eq_some_iff.1 hj
        rw [← h2]
        simp
      rw [← e]
      exact hf j
  obtain ⟨k1, k2⟩ := slice_and hs
  exact ⟨_, k1, by simpa using hlen, k2⟩
theorem opensWFs_nil (off : Nat) : OpensWFs enc P off [] 0 unitRd := by
  intro w fuel cs xs hl _ _ _
  exact ⟨(), List.drop_of_length_le (by omega)⟩
theorem opensWFs_cons {off n : Nat} (m : Nat) {f : Field} {fs : List Field} {A : Rd α} {B : Rd β} (ho : f.offset = off) (hc : P.cellsOf f.type = m) (hA : OpensW enc P f.type A) (hB : OpensWFs enc P (off + m) fs n B) :
    OpensWFs enc P off (f :: fs) (m + n) (pairRd A B) := by
  intro w fuel cs xs hl hx h hw
  cases xs with
  | nil => simp at hx
  | cons x xs =>
    have h0 := h 0 f rfl
    rw [ho, hc] at h0
    simp only [List.map_cons, DataW.weightsEach, List.mem_append] at hw
    obtain ⟨a, ha⟩ := hA _ _ _ _ h0 (fun m hm => hw m (.inl hm))
    obtain ⟨b, hb⟩ := hB w fuel cs xs (by omega) (by simpa using hx) (fun i f' hf => by simpa using h (i + 1) f' (by simpa using hf)) (fun m hm => hw m (.inr hm))
    refine ⟨(a, b), (cs.drop off).take m, cs.drop (off + m), ?_, ha, hb⟩
    rw [← List.drop_drop, List.take_append_drop]
theorem opensW_struct {t : TypeId} {fs : Array Field} {n : Nat} {E : Rd α} (ht : P.underlying t = some (.struct fs)) (hc : P.cellsOf t = n) (h : OpensWFs enc P 0 fs.toList n E) : OpensW enc P t E := by
  intro w fuel cs x hx hw
  obtain ⟨xs, k, rfl, rfl, hl, hxl, hf⟩ := DataW.trod_struct ht hx
  simp only [DataW.weights, ht] at hw
  obtain ⟨a, ha⟩ := h w k cs xs (by omega) (by simpa using hxl) (fun i f hi => hf i f (by simpa using hi)) hw
  exact ⟨a, by simpa using ha⟩
theorem weights_in : ∀ {ts : List TypeId} {ds : List (DataW H)} (j : Nat) {t : TypeId} {d : DataW H} {m : Nat}, ts[j]? = some t → ds[j]? = some d → m ∈ d.weights P t → m ∈ DataW.weightsEach P ts ds
  | [], _, j, _, _, _, ht, _, _ => by simp at ht
  | _ :: _, [], j, _, _, _, _, hd, _ => by simp at hd
  | t :: ts, d :: ds, 0, _, _, _, ht, hd, hm => by
    obtain rfl : t = _ := by simpa using ht
    obtain rfl : d = _ := by simpa using hd
    simp only [DataW.weightsEach, List.mem_append]
    exact .inl hm
  | t :: ts, d :: ds, j + 1, _, _, _, ht, hd, hm => by
    simp only [DataW.weightsEach, List.mem_append]
    exact .inr (weights_in j (by simpa using ht) (by simpa using hd) hm)
theorem slice_cells {size : Nat} {E : Rd α} {w : World} {S : Nat → Prop} {cs : List Value} {l : List α} (h : (sliceRd size E).P w S cs l) : ∃ A c, cs = [.slice A l.length c] := by
  rcases h with ⟨h, rfl⟩ | ⟨a, cap, h, _⟩
  · exact ⟨none, 0, h⟩
  · exact ⟨_, _, h⟩
theorem opens_arg1 {t e : TypeId} {E : Rd α} {r : Reach} {b0 : Nat} {w : World} {v : Value} {d : DataW H} {p : List MemPlace} (ht : P.underlying t = some (.slice e)) (hval : Value.okWide P w r b0 t v) (h : OpensW enc P t E)
    (hv : DataW.Trod enc P w 0 (fun _ => true) true t v d p) (hw : ∀ m, m ∈ d.weights P t → m ≤ reachBytes) : ∃ a, E.P w (fun k => k < w.heap.size) [v] a := by
  obtain ⟨a0, len, cap, rfl⟩ := Go.WideShapes.okWide_slice ht hval
  obtain ⟨fuel, hf⟩ := hv
  exact h _ _ _ _ hf hw
theorem RX.reads_all {E : Rd α} {w : World} {cs : List Value} {a : α} (h : E.P w (fun k => k < w.heap.size) cs a) : (RX.of E cs a).reads w (fun _ => False) := ⟨_, h, fun k hk => ⟨fun h => h, hk⟩⟩
end
end Go.Proofs.Ytpiiopppbgpbpaa.Sl
namespace Go.Proofs.Ytpiiopppbgpbpaa.Sl
open Go.RowKit
set_option linter.unusedVariables false
def wf_L01Act (x : L01Act) : Prop := wU8 x.fKind ∧ wI x.fN ∧ wI x.fK
end Go.Proofs.Ytpiiopppbgpbpaa.Sl
namespace Go.Proofs.Ytpiiopppbgpbpaa.Sl
open Go.RowKit
set_option linter.unusedVariables false
set_option linter.unusedSimpArgs false
theorem l01_speaks : f_l01_speaks = some true := by decide +kernel
def atI (a : List UInt8) (n : Nat) (e : Int) : I := ⟨a.drop n, n, e⟩
theorem ir_tail {γ : Type} (a0 : List UInt8) (n : Nat) (e e' : Int) (hn : n ≤ a0.length) (hl : a0.length ≤ 2000) (h : e = 0 ∨ e' = e) (K : Bool × I → Option γ) :
    (((gLeft (atI a0 n e')).bind fun (x122, st123) => if -9223372036854775808 ≤ ((a0.length : Int) - (n : Int)) ∧ ((a0.length : Int) - (n : Int)) ≤ 9223372036854775807 then (if x122 = ((a0.length : Int) - (n : Int)) then ((gAt st123).bind fun (x127, st128) => if x127 = (n : Int) then ((gErr st128).bind fun (x131, st132) => if x131 = e' then (if e = 0 then some (false, st132) else (if e' = e then some (false, st132) else some (true, st132))) else some (true, st132)) else some (true, st128)) else some (true, st123)) else none).bind K) = K (false, atI a0 n e') := by
  have h1 : ((a0.drop n).length : Int) = (a0.length : Int) - (n : Int) := by rw [List.length_drop]; omega
  rw [gLeft_eq, Option.bind_some]
  dsimp only [atI]
  rw [if_pos (by omega), if_pos h1, gAt_eq, Option.bind_some]
  dsimp only
  rw [if_pos rfl, gErr_eq, Option.bind_some]
  dsimp only
  rw [if_pos rfl]
  by_cases he : e = 0
  · rw [if_pos he, Option.bind_some]
  · rw [if_neg he, if_pos (h.resolve_left he), Option.bind_some]
theorem ir_take (a0 : List UInt8) (n : Nat) (e N : Int) (hn : n ≤ a0.length) (hl : a0.length ≤ 2000) (hN : -9223372036854775808 ≤ N ∧ N ≤ 9223372036854775807) : ∃ (n' : Nat) (e' : Int) (v : List UInt8), n' ≤ a0.length ∧ (e = 0 ∨ e' = e) ∧ itake (atI a0 n e) N = (v, atI a0 n' e') ∧
    (if e = 0 then ((if N < 0 then some ((n : Int), (4 : Int), ([] : List UInt8)) else (if -9223372036854775808 ≤ ((a0.length : Int) - (n : Int)) ∧ ((a0.length : Int) - (n : Int)) ≤ 9223372036854775807 then ((if N > ((a0.length : Int) - (n : Int)) then some ((n : Int), (1 : Int), ([] : List UInt8)) else (if -9223372036854775808 ≤ ((n : Int) + N) ∧ ((n : Int) + N) ≤ 9223372036854775807 then (if 0 ≤ (n : Int) ∧ 0 ≤ ((n : Int) + N) ∧ (n : Int).toNat ≤ ((n : Int) + N).toNat ∧ ((n : Int) + N).toNat ≤ a0.length then (if -9223372036854775808 ≤ ((n : Int) + N) ∧ ((n : Int) + N) ≤ 9223372036854775807 then (some (((n : Int) + N), e, ((a0.drop (n : Int).toNat).take ((((n : Int) + N).toNat) - (n : Int).toNat)))) else none) else none) else none)).bind fun (y93, y94, y95) => some (y93, y94, y95)) else none)).bind fun (y83, y84, y85) => some (y83, y84, y85)) else some ((n : Int), e, [])) = some ((n' : Int), e', v) := by
  by_cases he : e = 0
  · subst he
    have h1 : ((a0.drop n).length : Int) = (a0.length : Int) - (n : Int) := by rw [List.length_drop]; omega
    rw [if_pos rfl]
    by_cases c1 : N < 0
    · refine ⟨n, 4, [], hn, .inl rfl, ?_, by rw [if_pos c1]; rfl⟩
      unfold itake atI
      rw [if_neg (by simp), if_pos c1]
    · rw [if_neg c1, if_pos (by omega)]
      by_cases c2 : N > (a0.length : Int) - (n : Int)
      · refine ⟨n, 1, [], hn, .inl rfl, ?_, by rw [if_pos c2]; rfl⟩
        unfold itake atI
        rw [if_neg (by simp), if_neg c1, if_pos (by dsimp only; omega)]
      · refine ⟨n + N.toNat, 0, (a0.drop n).take N.toNat, by omega, .inl rfl, ?_, ?_⟩
        · unfold itake atI
          rw [if_neg (by simp), if_neg c1, if_neg (by dsimp only; omega), List.drop_drop]
        · rw [if_neg c2, if_pos (by omega), if_pos (by omega), if_pos (by omega), Option.bind_some, Option.bind_some, Int.toNat_natCast, show ((n : Int) + N).toNat - n = N.toNat by omega, show (n : Int) + N = ((n + N.toNat : Nat) : Int) by omega]
  · refine ⟨n, e, [], hn, .inr rfl, ?_, by rw [if_neg he]⟩
    unfold itake atI
    rw [if_pos he]
theorem ir_int (a0 : List UInt8) (n : Nat) (e N : Int) (hn : n ≤ a0.length) (hl : a0.length ≤ 2000) (hN : -9223372036854775808 ≤ N ∧ N ≤ 9223372036854775807) : ∃ (n' : Nat) (e' v : Int), n' ≤ a0.length ∧ (e = 0 ∨ e' = e) ∧ iint (atI a0 n e) N = (v, atI a0 n' e') ∧ (e' ≠ 0 → v = 0) ∧
    (if e = 0 then ((if N < 1 then some true else (if N > 8 then some true else some false)).bind fun y196 => (if y196 = true then some ((n : Int), (4 : Int), (0 : Int)) else (if -9223372036854775808 ≤ ((a0.length : Int) - (n : Int)) ∧ ((a0.length : Int) - (n : Int)) ≤ 9223372036854775807 then ((if N > ((a0.length : Int) - (n : Int)) then some ((n : Int), (1 : Int), (0 : Int)) else (if -9223372036854775808 ≤ ((n : Int) + N) ∧ ((n : Int) + N) ≤ 9223372036854775807 then (if 0 ≤ (n : Int) ∧ 0 ≤ ((n : Int) + N) ∧ (n : Int).toNat ≤ ((n : Int) + N).toNat ∧ ((n : Int) + N).toNat ≤ a0.length then ((gRInt ((a0.drop (n : Int).toNat).take ((((n : Int) + N).toNat) - (n : Int).toNat))).bind fun x237 => if -9223372036854775808 ≤ ((n : Int) + N) ∧ ((n : Int) + N) ≤ 9223372036854775807 then (some (((n : Int) + N), e, x237)) else none) else none) else none)).bind fun (y230, y231, y232) => some (y230, y231, y232)) else none)).bind fun (y218, y219, y220) => some (y218, y219, y220)) else some ((n : Int), e, 0)) = some ((n' : Int), e', v) := by
  have hz : beInt [] = 0 := by decide
  by_cases he : e = 0
  · subst he
    have h1 : ((a0.drop n).length : Int) = (a0.length : Int) - (n : Int) := by rw [List.length_drop]; omega
    rw [if_pos rfl]
    by_cases c0 : 1 ≤ N ∧ N ≤ 8
    · have e1 : (if N < 1 then some true else (if N > 8 then some true else some false)) = some false := by rw [if_neg (by omega), if_neg (by omega)]
      rw [e1, Option.bind_some, if_neg (by decide), if_pos (by omega)]
      by_cases c2 : N > (a0.length : Int) - (n : Int)
      · refine ⟨n, 1, 0, hn, .inl rfl, ?_, fun _ => rfl, by rw [if_pos c2]; rfl⟩
        unfold iint itake atI
        rw [if_pos c0, if_neg (by simp), if_neg (by omega), if_pos (by dsimp only; omega), hz]
      · refine ⟨n + N.toNat, 0, beInt ((a0.drop n).take N.toNat), by omega, .inl rfl, ?_, fun h => absurd rfl h, ?_⟩
        · unfold iint itake atI
          rw [if_pos c0, if_neg (by simp), if_neg (by omega), if_neg (by dsimp only; omega), List.drop_drop]
        · rw [if_neg c2, if_pos (by omega), if_pos (by omega), Int.toNat_natCast, show ((n : Int) + N).toNat - n = N.toNat by omega, gRInt_eq _ (by rw [List.length_take]; omega), Option.bind_some, if_pos (by omega), Option.bind_some, Option.bind_some, show (n : Int) + N = ((n + N.toNat : Nat) : Int) by omega]
    · have e1 : (if N < 1 then some true else (if N > 8 then some true else some false)) = some true := by
        by_cases q : N < 1
        · rw [if_pos q]
        · rw [if_neg q, if_pos (by omega)]
      refine ⟨n, 4, 0, hn, .inl rfl, ?_, fun _ => rfl, by rw [e1]; rfl⟩
      unfold iint ifail atI
      rw [if_neg c0, if_pos rfl]
  · refine ⟨n, e, 0, hn, .inr rfl, ?_, fun _ => rfl, by rw [if_neg he]⟩
    unfold iint itake ifail atI
    by_cases c0 : 1 ≤ N ∧ N ≤ 8
    · rw [if_pos c0, if_pos he, hz]
    · rw [if_neg c0, if_neg he]
theorem ir_l1 (a0 : List UInt8) (hl : a0.length ≤ 2000) : ∀ (l : List L01Act) (b : Bool) (n : Nat) (e : Int), (∀ x, x ∈ l → wf_L01Act x) → n ≤ a0.length →
    f_l01_InputReads_l1 a0 l b (n : Int) e (atI a0 n e) = some (.ret true) ∨ ∃ (n' : Nat) (e' : Int), n' ≤ a0.length ∧ f_l01_InputReads_l1 a0 l b (n : Int) e (atI a0 n e) = some (.go (b, (n' : Int), e', atI a0 n' e'))
  | [], b, n, e, _, hn => .inr ⟨n, e, hn, by rw [f_l01_InputReads_l1]⟩
  | x :: l, b, n, e, hw, hn => by
    obtain ⟨⟨hk0, hk1⟩, hN, hK⟩ := hw x (List.mem_cons_self ..)
    have hw' : ∀ y, y ∈ l → wf_L01Act y := fun y hy => hw y (List.mem_cons_of_mem _ hy)
    rw [f_l01_InputReads_l1, if_pos hk0]
    by_cases k0 : x.fKind % 4 = 0
    · obtain ⟨n', e', v, h1, h2, h3, h4⟩ := ir_take a0 n e x.fN hn hl hN
      rw [if_pos k0, h4, Option.bind_some]
      dsimp only
      rw [gTake_eq _ _ hN, Option.bind_some, h3]
      dsimp only
      rw [if_pos rfl, ir_tail a0 n' e e' h1 hl h2]
      dsimp only
      rw [if_neg (by decide)]
      exact ir_l1 a0 hl l b n' e' hw' h1
    rw [if_neg k0]
    by_cases k12 : x.fKind % 4 = 1 ∨ x.fKind % 4 = 2
    · have e1 : (if x.fKind % 4 = 1 then some true else (if x.fKind % 4 = 2 then some true else some false)) = some true := by
        rcases k12 with q | q
        · rw [if_pos q]
        · rw [if_neg (by omega), if_pos q]
      obtain ⟨n', e', v, h1, h2, h3, h5, h4⟩ := ir_int a0 n e x.fN hn hl hN
      rw [e1, Option.bind_some, if_pos rfl, h4, Option.bind_some]
      dsimp only
      rw [if_pos hk0]
      rcases k12 with k1 | k2
      · rw [if_neg (by omega), Option.bind_some, if_neg (by decide), Option.bind_some]
        dsimp only
        rw [if_pos hk0, if_neg (by omega), Option.bind_some, if_neg (by decide), Option.bind_some]
        dsimp only
        rw [if_pos hk0, if_pos k1, gInt_eq, Option.bind_some, h3]
        dsimp only
        rw [Option.bind_some]
        dsimp only
        rw [if_pos rfl, ir_tail a0 n' e e' h1 hl h2]
        dsimp only
        rw [if_neg (by decide)]
        exact ir_l1 a0 hl l b n' e' hw' h1
      · have hd : ((a0.drop n').length : Int) = (a0.length : Int) - (n' : Int) := by rw [List.length_drop]; omega
        rw [if_pos k2]
        by_cases z : e' = 0
        · subst z
          rw [if_pos rfl]
          by_cases q : v < 0
          · have hc : icount (atI a0 n e) x.fN x.fK = (0, atI a0 n' 4) := by
              unfold icount
              rw [h3]
              dsimp only [atI]
              simp only [ne_eq, not_true_eq_false, if_false]
              rw [if_pos q]
              rfl
            have h2' : e = 0 ∨ (4 : Int) = e := .inl (h2.elim id Eq.symm)
            rw [if_pos q, Option.bind_some, if_pos rfl, Option.bind_some]
            dsimp only
            rw [if_pos hk0, if_pos k2, if_neg (by decide), Option.bind_some, if_neg (by decide), Option.bind_some]
            dsimp only
            rw [if_pos hk0, if_neg (by omega), gCount_eq _ _ _ ⟨hN, hK⟩, Option.bind_some, hc]
            dsimp only
            rw [Option.bind_some]
            dsimp only
            rw [if_pos rfl, ir_tail a0 n' e 4 h1 hl h2']
            dsimp only
            rw [if_neg (by decide)]
            exact ir_l1 a0 hl l b n' 4 hw' h1
          · rw [if_neg q, Option.bind_some, if_neg (by decide), Option.bind_some]
            dsimp only
            rw [if_pos hk0, if_pos k2, if_pos rfl]
            have h2' : ∀ y : Int, e = 0 ∨ y = e := fun y => .inl (h2.elim id Eq.symm)
            have good : ¬ (0 < x.fK ∧ ((a0.length : Int) - (n' : Int)) / x.fK < v) → icount (atI a0 n e) x.fN x.fK = (v, atI a0 n' 0) := by
              intro hno
              unfold icount
              rw [h3]
              dsimp only [atI]
              simp only [ne_eq, not_true_eq_false, if_false]
              rw [if_neg q]
              exact if_neg (by show ¬ (0 < x.fK ∧ ((a0.drop n').length : Int) / x.fK < v); rw [hd]; exact hno)
            have bad : (0 < x.fK ∧ ((a0.length : Int) - (n' : Int)) / x.fK < v) → icount (atI a0 n e) x.fN x.fK = (0, atI a0 n' 1) := by
              intro hno
              unfold icount
              rw [h3]
              dsimp only [atI]
              simp only [ne_eq, not_true_eq_false, if_false]
              rw [if_neg q]
              exact (if_pos (by show 0 < x.fK ∧ ((a0.drop n').length : Int) / x.fK < v; rw [hd]; exact hno)).trans rfl
            by_cases c1 : x.fK > 0
            · rw [if_pos c1, if_pos (by omega), if_pos ⟨by omega, by omega, by omega⟩]
              by_cases c2 : v > ((a0.length : Int) - (n' : Int)) / x.fK
              · rw [if_pos c2, Option.bind_some, if_pos rfl, Option.bind_some]
                dsimp only
                rw [if_pos hk0, if_neg (by omega), gCount_eq _ _ _ ⟨hN, hK⟩, Option.bind_some, bad ⟨c1, c2⟩]
                dsimp only
                rw [Option.bind_some]
                dsimp only
                rw [if_pos rfl, ir_tail a0 n' e 1 h1 hl (h2' 1)]
                dsimp only
                rw [if_neg (by decide)]
                exact ir_l1 a0 hl l b n' 1 hw' h1
              · rw [if_neg c2, Option.bind_some, if_neg (by decide), Option.bind_some]
                dsimp only
                rw [if_pos hk0, if_neg (by omega), gCount_eq _ _ _ ⟨hN, hK⟩, Option.bind_some, good (fun h => c2 h.2)]
                dsimp only
                rw [Option.bind_some]
                dsimp only
                rw [if_pos rfl, ir_tail a0 n' e 0 h1 hl (h2' 0)]
                dsimp only
                rw [if_neg (by decide)]
                exact ir_l1 a0 hl l b n' 0 hw' h1
            · rw [if_neg c1, Option.bind_some, if_neg (by decide), Option.bind_some]
              dsimp only
              rw [if_pos hk0, if_neg (by omega), gCount_eq _ _ _ ⟨hN, hK⟩, Option.bind_some, good (fun h => c1 h.1)]
              dsimp only
              rw [Option.bind_some]
              dsimp only
              rw [if_pos rfl, ir_tail a0 n' e 0 h1 hl (h2' 0)]
              dsimp only
              rw [if_neg (by decide)]
              exact ir_l1 a0 hl l b n' 0 hw' h1
        · have hc : icount (atI a0 n e) x.fN x.fK = (v, atI a0 n' e') := by
            unfold icount
            rw [h3]
            dsimp only [atI]
            rw [h5 z]
            exact if_pos z
          rw [if_neg z, Option.bind_some, if_neg (by decide), Option.bind_some]
          dsimp only
          rw [if_pos hk0, if_pos k2, if_neg z, Option.bind_some, if_neg (by decide), Option.bind_some]
          dsimp only
          rw [if_pos hk0, if_neg (by omega), gCount_eq _ _ _ ⟨hN, hK⟩, Option.bind_some, hc]
          dsimp only
          rw [Option.bind_some]
          dsimp only
          rw [if_pos rfl, ir_tail a0 n' e e' h1 hl h2]
          dsimp only
          rw [if_neg (by decide)]
          exact ir_l1 a0 hl l b n' e' hw' h1
    · have e1 : (if x.fKind % 4 = 1 then some true else (if x.fKind % 4 = 2 then some true else some false)) = some false := by rw [if_neg (by omega), if_neg (by omega)]
      rw [e1, Option.bind_some, if_neg (by decide)]
      by_cases c : x.fN = 0
      · rw [if_pos c]; exact .inl rfl
      · have e2 : ∃ e' : Int, (e = 0 ∨ e' = e) ∧ (if e = 0 then some x.fN else some e) = some e' ∧ ifail (atI a0 n e) x.fN = atI a0 n e' := by
          by_cases he : e = 0
          · exact ⟨x.fN, .inl he, by rw [if_pos he], by unfold ifail atI; dsimp only; rw [if_pos he]⟩
          · exact ⟨e, .inr rfl, by rw [if_neg he], by unfold ifail atI; dsimp only; rw [if_neg he]⟩
        obtain ⟨e', h2, h3, h4⟩ := e2
        rw [if_neg c, gIFail_eq, Option.bind_some, h4, h3, Option.bind_some, ir_tail a0 n e e' hn hl h2]
        dsimp only
        rw [if_neg (by decide)]
        exact ir_l1 a0 hl l b n e' hw' hn
theorem pure_InputReads (a0 : List UInt8) (a1 : List L01Act) (w0 : a0.length ≤ 140737488351232) (w1 : (wL wf_L01Act) a1) : f_l01_InputReads a0 a1 = some true := by
  unfold f_l01_InputReads
  rw [l01_speaks, Option.bind_some, if_pos rfl]
  by_cases c1 : (a0.length : Int) > 2000
  · rw [if_pos c1, Option.bind_some, if_pos rfl]
  rw [if_neg c1]
  by_cases c2 : (a1.length : Int) > 100
  · rw [if_pos c2, Option.bind_some, if_pos rfl]
  rw [if_neg c2, Option.bind_some, if_neg (by decide), gNew_eq _ (by omega), Option.bind_some]
  have h := ir_l1 a0 (by omega) a1 false 0 0 w1.2 (Nat.zero_le _)
  rw [show atI a0 0 0 = ⟨a0, 0, 0⟩ by unfold atI; rw [List.drop_zero], show ((0 : Nat) : Int) = 0 from rfl] at h
  rcases h with h | ⟨n, e, hn, h⟩
  · rw [h, Option.bind_some]
  · rw [h, Option.bind_some]
    dsimp only
    have hz : (iclose (atI a0 n e)).err = if e = 0 ∧ (n : Int) < (a0.length : Int) then 2 else e := by
      unfold iclose ifail atI
      dsimp only
      by_cases q : a0.drop n = []
      · have := congrArg List.length q
        rw [List.length_drop] at this
        rw [if_pos q, if_neg (by simp at this; omega)]
      · have : n < a0.length := by
          apply Nat.lt_of_not_le
          intro hle
          exact q (List.drop_of_length_le hle)
        rw [if_neg q]
        by_cases he : e = 0
        · rw [if_pos he, if_pos ⟨he, by omega⟩]
        · rw [if_neg he, if_neg (fun h => he h.1)]
    have e1 : ((if e = 0 then (if (n : Int) < (a0.length : Int) then some true else some false) else some false).bind fun y372 => (if y372 = true then some 2 else some e)) = some (iclose (atI a0 n e)).err := by
      rw [hz]
      by_cases he : e = 0
      · rw [if_pos he]
        by_cases q : (n : Int) < (a0.length : Int)
        · rw [if_pos q, Option.bind_some, if_pos rfl, if_pos ⟨he, q⟩]
        · rw [if_neg q, Option.bind_some, if_neg (by decide), if_neg (fun h => q h.2)]
      · rw [if_neg he, Option.bind_some, if_neg (by decide), if_neg (fun h => he h.1)]
    have e2 : ∀ (K : Int → Option Bool), ((if e = 0 then (if (n : Int) < (a0.length : Int) then some true else some false) else some false).bind fun y372 => (if y372 = true then some 2 else some e).bind K) = K (iclose (atI a0 n e)).err := by
      intro K
      rw [← Option.bind_assoc, e1, Option.bind_some]
    rw [e2, gClose_eq, Option.bind_some]
    dsimp only
    rw [if_pos rfl, gErr_eq, Option.bind_some]
    dsimp only
    rw [if_pos rfl]
    rfl
end Go.Proofs.Ytpiiopppbgpbpaa.Sl
namespace Go.Proofs.Ytpiiopppbgpbpaa.Sl
open Go.RowKit Go.Deep Go.ChangeShapes
set_option linter.unusedVariables false
theorem op_L01Act {H : Type} {enc : TypeId × Value → H} : OpensW enc Try.prog 95 (andRd L01Act_rd wf_L01Act) :=
  opensW_weak (fun x => ⟨x.1, x.2.1, x.2.2.1⟩) (opensW_struct Try.underlying95 (by kernel_rfl) (opensWFs_cons 1 (by kernel_rfl) (by kernel_rfl) (op_u8 Try.underlying5) (opensWFs_cons 1 (by kernel_rfl) (by kernel_rfl) (op_i64 Try.underlying3) (opensWFs_cons 1 (by kernel_rfl) (by kernel_rfl) (op_i64 Try.underlying3) (opensWFs_nil _))))) (by
    rintro w S cs ⟨x0, x1, x2, _⟩ ⟨_, _, rfl, ⟨p0, q0⟩, _, _, rfl, ⟨p1, q1⟩, _, _, rfl, ⟨p2, q2⟩, rfl⟩
    obtain rfl := p0
    obtain rfl := p1
    obtain rfl := p2
    exact ⟨rfl, q0, q1, q2⟩)
end Go.Proofs.Ytpiiopppbgpbpaa.Sl
namespace Go.Proofs.Ytpiiopppbgpbpaa.inputReads
open Go.ChangeShapes Go.WideShapes Go.ChangeAt Go.RowKit
open Go.ChangeMaps (open_string shut_string)
set_option linter.unusedVariables false
theorem own : ownKnob Try.prog.godebug = none := by kernel_rfl
theorem laidOut : laidOutB Try.prog = true := by kernel_rfl
set_option maxRecDepth 100000 in
set_option maxHeartbeats 1000000 in
theorem lifted (os : Os) (started : os.Started) (H : Type) (enc : TypeId × Value → H) :
    ReturnsInHanded {} Try.checked os 11 .any (Rows.inputReadsSpec.pre6 enc Try.prog Try.f11 Rows.inputReadsRow.domain false) (Rows.inputReadsSpec.post enc Try.prog Try.f11 false true false false) := by
  refine returnsInHanded_of_change_sized (C := Try.checked) own started (by kernel_rfl) Try.func11
    (ChangeSpec.witness6 (enc := enc) (C := Try.checked) false ⟨#[], #[.string ByteArray.empty, .slice none 0 0], []⟩ 8 (by kernel_rfl) (by kernel_rfl) (by kernel_rfl) (by kernel_rfl)) ?_
  intro W base args ds gs before hval0 hW hcnd hsz0 _
  have hsz : (DataW.weightsEach Try.prog (Try.f11.params.toList ++ Rows.inputReadsSpec.plain.varTypes Try.prog) (ds ++ gs)).all (· ≤ reachBytes) = true := hsz0
  have hval : ∀ (j : Nat) t v, Try.f11.params[j]? = some t → args[j]? = some v → Value.okWide Try.prog W .any base t v := hval0
  have hW' := hW
  obtain ⟨p, q, hA0, hV, rfl, hfz, hnd⟩ := hW
  have hA : DataW.TrodAll enc Try.prog W 0 (fun _ => true) true Try.f11.params.toList args.toList ds p := hA0
  rw [Try.params11] at hA hval hsz
  obtain ⟨v0, vs0, d0, ds0, p0, q0, hargs, rfl, rfl, h0, r0⟩ := trodAll_cons hA
  obtain ⟨v1, vs1, d1, ds1, p1, q1, rfl, rfl, rfl, h1, r1⟩ := trodAll_cons r0
  obtain ⟨rfl, rfl, rfl⟩ := trodAll_nil r1
  obtain rfl : args = #[v0, v1] := by cases args; simp_all
  obtain ⟨rfl, rfl⟩ := trodVars_none hV
  obtain ⟨s0, rfl, rfl, rfl, y0⟩ := open_string Try.underlying9 (hval 0 9 v0 rfl rfl) h0
  have z0 : s0.size ≤ 140737488351232 := by
    have z := sized_string hsz (j := 0) (t := 9) rfl rfl
    rw [Array.length_toList] at z
    exact z
  obtain ⟨a0, rfl⟩ := Sl.bsOf_of s0
  have w0 : a0.length ≤ 140737488351232 := by rwa [Sl.bsOf_size] at z0
  have k1 := h1
  have lt1 : ∀ x ∈ p1, x.block < W.heap.size := by obtain ⟨m, hm⟩ := k1; exact DataW.trod_lt m _ _ _ hm
  obtain ⟨a1, r_1, w1⟩ := Sl.opens_arg1 Try.underlying93 (hval 1 93 v1 rfl rfl) (Sl.op_slice 3 24 Try.underlying93 (by kernel_rfl) (by kernel_rfl) (by decide) (by decide) Sl.op_L01Act) h1 (fun x hx => of_decide_eq_true (List.all_eq_true.1 hsz x (Sl.weights_in 1 rfl rfl hx)))
  obtain ⟨A1, c1, e1⟩ := Sl.slice_cells r_1
  injection e1 with e1
  subst e1
  clear hA0 hval0 hsz0 hsz
  refine (Sl.f_l01_InputReads_spec a0 a1 A1 c1 true (Sl.pure_InputReads a0 a1 w0 w1) (fun _ => False) W (fun _ h => h) (Sl.RX.reads_all r_1)).mono fun e W' hP => ?_
  obtain ⟨v, A', Ns, rfl, ⟨rfl, rfl, rfl⟩, hst⟩ := hP
  have bel := Sl.St.below hst
  exact ⟨_, rfl, _, _, _, [], _, [], hW', trodAll_mk1 (shut_bool Try.underlying4 _), (trodAll_cons_mk (shut_string Try.underlying9 y0) (trodAll_cons_mk (Below.trod laidOut (by kernel_rfl) (of_decide_eq_true (by kernel_rfl)) k1 bel lt1) trodAll_mk0)), rfl, bel.frame _, fun h => by cases h⟩
theorem over : Rows.inputReadsRow.holds Try.pinned (OpenSpec.ofChange Rows.inputReadsSpec) :=
  OpenClaim.holds_of_wide 11 Try.f11 rfl rfl rfl rfl rfl rfl rfl ⟨rfl, rfl, rfl, rfl, rfl⟩ rfl rfl rfl rfl rfl (by kernel_rfl) Try.func11 (by kernel_rfl)
    (of_decide_eq_true (by kernel_rfl)) (by unfold Func.isWrapper; first | (rw [if_pos (by decide +kernel)]; kernel_rfl) | (rw [if_neg (by decide +kernel)]; exact ⟨rfl, rfl⟩))
    (fun os started H enc _ => lifted os started H enc)
theorem proved : Rows.InputReadsSaid := over
end Go.Proofs.Ytpiiopppbgpbpaa.inputReads
namespace Go.Proofs.Ytpiiopppbgpbpaa
theorem inputReads_holds : Rows.InputReadsSaid := inputReads.proved
end Go.Proofs.Ytpiiopppbgpbpaa
