/- txnWrites_holds: part 2. -/
import Derived.Test.YtagbblaegdedpaaK1
namespace Go.Proofs.Ytagbblaegdedpaa.Sl
open Go.RowKit
set_option linter.unusedVariables false
set_option linter.unusedSimpArgs false
set_option maxRecDepth 100000
def ft_cursitorref14 : FTab := [(26, 0, 0), (26, 1, 1), (97, 0, 0), (97, 1, 1), (97, 2, 2), (97, 3, 3), (97, 4, 4), (97, 5, 5), (97, 6, 6), (147, 0, 0), (147, 1, 2), (147, 2, 3), (162, 0, 0), (162, 1, 1)]
theorem ft_cursitorref14_ok : (ft_cursitorref14).OK Try.prog := ⟨FOK.mk Try.runUnderlying26 rfl Try.sizeOf4 rfl, FOK.mk Try.runUnderlying26 rfl Try.sizeOf9 rfl, FOK.mk Try.runUnderlying97 rfl Try.sizeOf3 rfl, FOK.mk Try.runUnderlying97 rfl Try.sizeOf3 rfl, FOK.mk Try.runUnderlying97 rfl Try.sizeOf3 rfl, FOK.mk Try.runUnderlying97 rfl Try.sizeOf3 rfl, FOK.mk Try.runUnderlying97 rfl Try.sizeOf68 rfl, FOK.mk Try.runUnderlying97 rfl Try.sizeOf3 rfl, FOK.mk Try.runUnderlying97 rfl Try.sizeOf3 rfl, FOK.mk Try.runUnderlying147 rfl Try.sizeOf26 rfl, FOK.mk Try.runUnderlying147 rfl Try.sizeOf3 rfl, FOK.mk Try.runUnderlying147 rfl Try.sizeOf3 rfl, FOK.mk Try.runUnderlying162 rfl Try.sizeOf9 rfl, FOK.mk Try.runUnderlying162 rfl Try.sizeOf160 rfl, trivial⟩
theorem mix_cursitorref14 : Try.prog.follows .mixedOrders = true := by kernel_rfl
theorem bok_cursitorref14_26 : BOK Try.prog 26 #[.bool false, .string ⟨#[]⟩] [(0, 1), (1, 1)] := BOK.mk Try.zeroValue26 Try.runUnderlying26 (by intro w; simp)
def f_r14_less_l1 (a0 : List UInt8) (a1 : List UInt8) : Nat → Bool → Nat → Option (Lp Bool (Bool × Nat))
  | 0, _, _ => none
  | m6 + 1, y1, k2 => if (k2 : Int) < (a0.length : Int) then (if (k2 : Int) < (a1.length : Int) then ((a0[k2]?).bind fun ch12 => (a1[k2]?).bind fun ch14 => if (ch12.toNat : Int) = (ch14.toNat : Int) then (if -9223372036854775808 ≤ ((k2 : Int) + 1) ∧ ((k2 : Int) + 1) ≤ 9223372036854775807 then (f_r14_less_l1 a0 a1 m6 y1 (k2 + 1)) else none) else (if (ch12.toNat : Int) < (ch14.toNat : Int) then some (Lp.ret true) else some (Lp.ret false))) else (some (Lp.go (y1, k2)))) else (some (Lp.go (y1, k2)))
def f_r14_less (a0 : List UInt8) (a1 : List UInt8) : Option (Bool) := (f_r14_less_l1 a0 a1 (((a1.length : Int)).toNat + 1) false 0).bind fun e => match e with | .ret r => some r | .go (y21, k22) => (if (a0.length : Int) < (a1.length : Int) then some true else some false)
set_option maxRecDepth 100000 in
set_option maxHeartbeats 4000000 in
theorem f_r14_less_spec (a0 : List UInt8) (a1 : List UInt8) (r : Bool) (h : f_r14_less a0 a1 = some r) : SpecX Try.prog 184 #[.string (bsOf a0), .string (bsOf a1)] .triv (EmpR) (fun v A' N => v = .bool r ∧ A' = EmpR ∧ N = []) := by
  refine enterA Try.func184 rfl Try.ntmps184 rfl ?_
  intro F w hX
  unfold f_r14_less at h
  refine T.seq (T.region rfl ?_)
  refine TL.run ft_cursitorref14_ok [0] rfl rfl ?_
  refine TL.nil (X.seq (T.seq (T.seq (T.region rfl ?_))))
  refine TL.run ft_cursitorref14_ok [0] rfl rfl ?_
  refine TL.nil (X.seq (T.block ?_))
  obtain ⟨E3, hE4, hO5⟩ := Option.bind_eq_some_iff.1 h
  refine T.lp (fun m e Rs => ∃ (y1 : Bool) (k2 : Nat), e = [(0, .string (bsOf a0)), (1, .string (bsOf a1)), (4, .bool y1), (5, .int .i64 (k2 : Int))] ∧ Rs = [EmpR] ∧ f_r14_less_l1 a0 a1 m y1 k2 = some E3) (((a1.length : Int)).toNat + 1) [0] ⟨false, 0, rfl, rfl, by exact hE4⟩ (by rfl) (by rfl) ?_
  rintro m6 _ _ ⟨y1, k2, rfl, rfl, hl8⟩
  clear hE4 h
  cases m6 with
  | zero =>
    rw [f_r14_less_l1] at hl8
    cases hl8
  | succ m6 =>
    have h := hl8
    clear hl8
    rw [f_r14_less_l1] at h
    refine T.seq (T.seq (T.region rfl ?_))
    refine TL.run ft_cursitorref14_ok [0, 1] rfl rfl ?_
    refine TL.q rfl .u (Ex.lenB rfl Try.runUnderlying9) rfl ?_
    by_cases c10 : (k2 : Int) < (a0.length : Int)
    · replace h := ifT c10 h
      refine TL.run ft_cursitorref14_ok [3, 4] rfl rfl ?_
      refine TL.q rfl (.g rfl rfl (decide_eq_true c10)) (Ex.ft ft_cursitorref14_ok rfl) rfl ?_
      refine TL.q rfl (.g rfl rfl (decide_eq_true c10)) (Ex.ft ft_cursitorref14_ok rfl) rfl ?_
      refine TL.q rfl (.g rfl rfl (decide_eq_true c10)) (Ex.lenB rfl Try.runUnderlying9) rfl ?_
      refine TL.q rfl (.g rfl rfl (decide_eq_true c10)) (Ex.ft ft_cursitorref14_ok rfl) rfl ?_
      refine TL.q rfl .u (Ex.py rfl (decide_eq_true c10) rfl) rfl ?_
      by_cases c11 : (k2 : Int) < (a1.length : Int)
      · replace h := ifT c11 h
        refine TL.nil (X.seq ?_)
        refine T.yes rfl (decide_eq_true c11) ?_
        refine T.skip (X.seq (T.seq (T.block (T.seq (T.draw (.q 0 (.q 1 (.q 2 (.q 3 (.q 4 (.q 5 (.q 6 .nil))))))) [0] rfl mix_cursitorref14 (NoP.seq (NoP.blk (NoP.seq (NoP.seq (NoP.blk (NoP.seq np_post)))))) (by kernel_rfl) ?_)))))
        obtain ⟨ch12, hc13, h⟩ := Option.bind_eq_some_iff.1 h
        refine TD.run ft_cursitorref14_ok [0, 1] rfl rfl ?_
        refine TD.q rfl .u (Ex.sIx rfl rfl rfl Try.underlying9 hc13) rfl ?_
        obtain ⟨ch14, hc15, h⟩ := Option.bind_eq_some_iff.1 h
        refine TD.run ft_cursitorref14_ok [3, 4] rfl rfl ?_
        refine TD.q rfl .u (Ex.sIx rfl rfl rfl Try.underlying9 hc15) rfl ?_
        refine TD.run ft_cursitorref14_ok [6] rfl rfl ?_
        by_cases c16 : (ch12.toNat : Int) = (ch14.toNat : Int)
        · replace h := ifT c16 h
          refine TD.nil (X.seq ?_)
          refine T.no rfl (bn_f (decide_eq_true c16)) ?_
          refine T.skip (X.blk (X.seq (T.region rfl ?_)))
          replace h := guard_some h
          obtain ⟨c17, h⟩ := h
          refine TL.run ft_cursitorref14_ok [0] rfl rfl ?_
          refine TL.q rfl .u (Ex.add rfl rfl c17) rfl ?_
          refine TL.run ft_cursitorref14_ok [2] rfl rfl ?_
          exact TL.nil (X.back (m' := m6) [0] (by omega) ⟨y1, k2 + 1, rfl, rfl, h⟩ (by rfl) (by rfl))
        · replace h := ifF c16 h
          refine TD.nil (X.seq ?_)
          refine T.yes rfl (bn_t (decide_eq_false c16)) ?_
          refine T.seq (T.draw (.q 0 (.q 1 (.q 2 (.q 3 (.q 4 (.q 5 (.q 6 (.q 7 .nil)))))))) [0] rfl mix_cursitorref14 (NoP.seq (NoP.blk (NoP.seq (NoP.seq (NoP.blk (NoP.seq np_post)))))) (by kernel_rfl) ?_)
          refine TD.run ft_cursitorref14_ok [0, 1] rfl rfl ?_
          refine TD.q rfl .u (Ex.sIx rfl rfl rfl Try.underlying9 hc13) rfl ?_
          refine TD.run ft_cursitorref14_ok [3, 4] rfl rfl ?_
          refine TD.q rfl .u (Ex.sIx rfl rfl rfl Try.underlying9 hc15) rfl ?_
          refine TD.run ft_cursitorref14_ok [6, 7] rfl rfl ?_
          by_cases c18 : (ch12.toNat : Int) < (ch14.toNat : Int)
          · replace h := ifT c18 h
            obtain rfl := Option.some.inj h
            replace h := hO5
            clear hO5
            try dsimp only at h
            obtain rfl := Option.some.inj h
            exact TD.nil (X.seq (T.ret (X.rb (X.rs (X.rs (X.rb (X.rs (X.done1 [0] Try.results184 (RV.tm (v := .bool true) (congrArg (fun b => some (Value.bool b)) (decide_eq_true c18))) ⟨rfl, rfl, rfl⟩ (by rfl) (.inl rfl)))))))))
          · replace h := ifF c18 h
            obtain rfl := Option.some.inj h
            replace h := hO5
            clear hO5
            try dsimp only at h
            obtain rfl := Option.some.inj h
            exact TD.nil (X.seq (T.ret (X.rb (X.rs (X.rs (X.rb (X.rs (X.done1 [0] Try.results184 (RV.tm (v := .bool false) (congrArg (fun b => some (Value.bool b)) (decide_eq_false c18))) ⟨rfl, rfl, rfl⟩ (by rfl) (.inl rfl)))))))))
      · replace h := ifF c11 h
        refine TL.nil (X.seq ?_)
        refine T.no rfl (decide_eq_false c11) ?_
        obtain rfl := Option.some.inj h
        replace h := hO5
        clear hO5
        try dsimp only at h
        refine T.exit (X.exs (X.exs (X.ex (X.seq (T.seq (T.region rfl ?_))))))
        refine TL.run ft_cursitorref14_ok [0] rfl rfl ?_
        refine TL.q rfl .u (Ex.lenB rfl Try.runUnderlying9) rfl ?_
        refine TL.run ft_cursitorref14_ok [2] rfl rfl ?_
        refine TL.q rfl .u (Ex.lenB rfl Try.runUnderlying9) rfl ?_
        refine TL.run ft_cursitorref14_ok [4, 5] rfl rfl ?_
        by_cases c19 : (a0.length : Int) < (a1.length : Int)
        · replace h := ifT c19 h
          obtain rfl := Option.some.inj h
          exact TL.nil (X.seq (T.ret (X.done1 [0] Try.results184 (RV.tm (v := .bool true) (congrArg (fun b => some (Value.bool b)) (decide_eq_true c19))) ⟨rfl, rfl, rfl⟩ (by rfl) (.inl rfl))))
        · replace h := ifF c19 h
          obtain rfl := Option.some.inj h
          exact TL.nil (X.seq (T.ret (X.done1 [0] Try.results184 (RV.tm (v := .bool false) (congrArg (fun b => some (Value.bool b)) (decide_eq_false c19))) ⟨rfl, rfl, rfl⟩ (by rfl) (.inl rfl))))
    · replace h := ifF c10 h
      refine TL.run ft_cursitorref14_ok [3, 4] rfl rfl ?_
      refine TL.no rfl (.gn rfl rfl (decide_eq_false c10)) rfl ?_
      refine TL.no rfl (.gn rfl rfl (decide_eq_false c10)) rfl ?_
      refine TL.no rfl (.gn rfl rfl (decide_eq_false c10)) rfl ?_
      refine TL.no rfl (.gn rfl rfl (decide_eq_false c10)) rfl ?_
      refine TL.q rfl .u (Ex.pn rfl (decide_eq_false c10) rfl) rfl ?_
      refine TL.nil (X.seq ?_)
      refine T.no rfl rfl ?_
      obtain rfl := Option.some.inj h
      replace h := hO5
      clear hO5
      try dsimp only at h
      refine T.exit (X.exs (X.exs (X.ex (X.seq (T.seq (T.region rfl ?_))))))
      refine TL.run ft_cursitorref14_ok [0] rfl rfl ?_
      refine TL.q rfl .u (Ex.lenB rfl Try.runUnderlying9) rfl ?_
      refine TL.run ft_cursitorref14_ok [2] rfl rfl ?_
      refine TL.q rfl .u (Ex.lenB rfl Try.runUnderlying9) rfl ?_
      refine TL.run ft_cursitorref14_ok [4, 5] rfl rfl ?_
      by_cases c20 : (a0.length : Int) < (a1.length : Int)
      · replace h := ifT c20 h
        obtain rfl := Option.some.inj h
        exact TL.nil (X.seq (T.ret (X.done1 [0] Try.results184 (RV.tm (v := .bool true) (congrArg (fun b => some (Value.bool b)) (decide_eq_true c20))) ⟨rfl, rfl, rfl⟩ (by rfl) (.inl rfl))))
      · replace h := ifF c20 h
        obtain rfl := Option.some.inj h
        exact TL.nil (X.seq (T.ret (X.done1 [0] Try.results184 (RV.tm (v := .bool false) (congrArg (fun b => some (Value.bool b)) (decide_eq_false c20))) ⟨rfl, rfl, rfl⟩ (by rfl) (.inl rfl))))
def f_r14_Rise_l2 (x13 : Top) : Nat → Bool → Nat → Option (Lp Bool (Bool × Nat))
  | 0, _, _ => none
  | m39 + 1, y34, k35 => if (k35 : Int) < (x13.fParts.length : Int) then ((x13.fParts[k35]?).bind fun x44 => if x44 < 0 then some (Lp.ret false) else (if x44 > 2147483647 then some (Lp.ret false) else (if (k35 : Int) > 0 then (if -9223372036854775808 ≤ ((k35 : Int) - 1) ∧ ((k35 : Int) - 1) ≤ 9223372036854775807 then (if 0 ≤ ((k35 : Int) - 1) then ((x13.fParts[((k35 : Int) - 1).toNat]?).bind fun x52 => if x52 ≥ x44 then some (Lp.ret false) else (if -9223372036854775808 ≤ ((k35 : Int) + 1) ∧ ((k35 : Int) + 1) ≤ 9223372036854775807 then (f_r14_Rise_l2 x13 m39 y34 (k35 + 1)) else none)) else none) else none) else (if -9223372036854775808 ≤ ((k35 : Int) + 1) ∧ ((k35 : Int) + 1) ≤ 9223372036854775807 then (f_r14_Rise_l2 x13 m39 y34 (k35 + 1)) else none)))) else (some (Lp.go (y34, k35)))
def f_r14_Rise_l3 (x13 : Top) : Nat → Bool → Nat → Option (Lp Bool (Bool × Nat))
  | 0, _, _ => none
  | m67 + 1, y62, k63 => if (k63 : Int) < (x13.fParts.length : Int) then ((x13.fParts[k63]?).bind fun x72 => if x72 < 0 then some (Lp.ret false) else (if x72 > 2147483647 then some (Lp.ret false) else (if (k63 : Int) > 0 then (if -9223372036854775808 ≤ ((k63 : Int) - 1) ∧ ((k63 : Int) - 1) ≤ 9223372036854775807 then (if 0 ≤ ((k63 : Int) - 1) then ((x13.fParts[((k63 : Int) - 1).toNat]?).bind fun x80 => if x80 ≥ x72 then some (Lp.ret false) else (if -9223372036854775808 ≤ ((k63 : Int) + 1) ∧ ((k63 : Int) + 1) ≤ 9223372036854775807 then (f_r14_Rise_l3 x13 m67 y62 (k63 + 1)) else none)) else none) else none) else (if -9223372036854775808 ≤ ((k63 : Int) + 1) ∧ ((k63 : Int) + 1) ≤ 9223372036854775807 then (f_r14_Rise_l3 x13 m67 y62 (k63 + 1)) else none)))) else (some (Lp.go (y62, k63)))
def f_r14_Rise_l1 (a0 : List Top) : Nat → Bool → Nat → Option (Lp Bool (Bool × Nat))
  | 0, _, _ => none
  | m8 + 1, y3, k4 => if (k4 : Int) < (a0.length : Int) then ((a0[k4]?).bind fun x13 => if (x13.fName.length : Int) < 1 then some (Lp.ret false) else (if (x13.fName.length : Int) > 32767 then some (Lp.ret false) else (if (x13.fParts.length : Int) < 1 then some (Lp.ret false) else (if (k4 : Int) > 0 then (if -9223372036854775808 ≤ ((k4 : Int) - 1) ∧ ((k4 : Int) - 1) ≤ 9223372036854775807 then (if 0 ≤ ((k4 : Int) - 1) then ((a0[((k4 : Int) - 1).toNat]?).bind fun x25 => (f_r14_less x25.fName x13.fName).bind fun x31 => if x31 = true then ((f_r14_Rise_l2 x13 (((x13.fParts.length : Int)).toNat + 1) y3 0).bind fun e => match e with | .ret r => some (Lp.ret r) | .go (y59, k60) => (if -9223372036854775808 ≤ ((k4 : Int) + 1) ∧ ((k4 : Int) + 1) ≤ 9223372036854775807 then (f_r14_Rise_l1 a0 m8 y59 (k4 + 1)) else none)) else some (Lp.ret false)) else none) else none) else ((f_r14_Rise_l3 x13 (((x13.fParts.length : Int)).toNat + 1) y3 0).bind fun e => match e with | .ret r => some (Lp.ret r) | .go (y87, k88) => (if -9223372036854775808 ≤ ((k4 : Int) + 1) ∧ ((k4 : Int) + 1) ≤ 9223372036854775807 then (f_r14_Rise_l1 a0 m8 y87 (k4 + 1)) else none)))))) else (some (Lp.go (y3, k4)))
theorem f_r14_Rise_l1_z (a0 : List Top) (u1 : Bool) (u2 : Nat) : f_r14_Rise_l1 a0 0 u1 u2 = none := rfl
theorem f_r14_Rise_l1_s (a0 : List Top) (m8 : Nat) (y3 : Bool) (k4 : Nat) : f_r14_Rise_l1 a0 (m8 + 1) y3 k4 = (if (k4 : Int) < (a0.length : Int) then ((a0[k4]?).bind fun x13 => if (x13.fName.length : Int) < 1 then some (Lp.ret false) else (if (x13.fName.length : Int) > 32767 then some (Lp.ret false) else (if (x13.fParts.length : Int) < 1 then some (Lp.ret false) else (if (k4 : Int) > 0 then (if -9223372036854775808 ≤ ((k4 : Int) - 1) ∧ ((k4 : Int) - 1) ≤ 9223372036854775807 then (if 0 ≤ ((k4 : Int) - 1) then ((a0[((k4 : Int) - 1).toNat]?).bind fun x25 => (f_r14_less x25.fName x13.fName).bind fun x31 => if x31 = true then ((f_r14_Rise_l2 x13 (((x13.fParts.length : Int)).toNat + 1) y3 0).bind fun e => match e with | .ret r => some (Lp.ret r) | .go (y59, k60) => (if -9223372036854775808 ≤ ((k4 : Int) + 1) ∧ ((k4 : Int) + 1) ≤ 9223372036854775807 then (f_r14_Rise_l1 a0 m8 y59 (k4 + 1)) else none)) else some (Lp.ret false)) else none) else none) else ((f_r14_Rise_l3 x13 (((x13.fParts.length : Int)).toNat + 1) y3 0).bind fun e => match e with | .ret r => some (Lp.ret r) | .go (y87, k88) => (if -9223372036854775808 ≤ ((k4 : Int) + 1) ∧ ((k4 : Int) + 1) ≤ 9223372036854775807 then (f_r14_Rise_l1 a0 m8 y87 (k4 + 1)) else none)))))) else (some (Lp.go (y3, k4)))) := rfl
def f_r14_Rise (a0 : List Top) : Option (Bool) := (f_r14_Rise_l1 a0 (((a0.length : Int)).toNat + 1) false 0).bind fun e => match e with | .ret r => some r | .go (y90, k91) => some true
set_option maxRecDepth 100000 in
set_option maxHeartbeats 4000000 in
theorem f_r14_Rise_spec (a0 : List Top) (A1 : Option Addr) (c2 : Nat) (r : Bool) (h : f_r14_Rise a0 = some r) : SpecX Try.prog 127 #[.slice A1 a0.length c2] (RX.of (sliceRd 2 Top_rd) [.slice A1 a0.length c2] a0) (EmpR) (fun v A' N => v = .bool r ∧ A' = EmpR ∧ N = []) := by
  refine enterA Try.func127 rfl Try.ntmps127 rfl ?_
  intro F w hX
  unfold f_r14_Rise at h
  refine T.seq (T.region rfl ?_)
  refine TL.run ft_cursitorref14_ok [0] rfl rfl ?_
  refine TL.nil (X.seq (T.seq (T.seq (T.region rfl ?_))))
  refine TL.run ft_cursitorref14_ok [0] rfl rfl ?_
  refine TL.nil (X.seq (T.block ?_))
  obtain ⟨E5, hE6, hO7⟩ := Option.bind_eq_some_iff.1 h
  refine T.lp (fun m e Rs => ∃ (y3 : Bool) (k4 : Nat), e = [(0, .slice A1 a0.length c2), (2, .bool y3), (3, .int .i64 (k4 : Int))] ∧ Rs = [EmpR] ∧ f_r14_Rise_l1 a0 m y3 k4 = some E5) (((a0.length : Int)).toNat + 1) [0] ⟨false, 0, rfl, rfl, by exact hE6⟩ (by rfl) (by rfl) ?_
  rintro m8 _ _ ⟨y3, k4, rfl, rfl, hl10⟩
  clear hE6 h
  cases m8 with
  | zero =>
    rw [f_r14_Rise_l1_z] at hl10
    cases hl10
  | succ m8 =>
    have h := hl10
    clear hl10
    rw [f_r14_Rise_l1_s] at h
    refine T.seq (T.seq (T.region rfl ?_))
    refine TL.run ft_cursitorref14_ok [0, 1] rfl rfl ?_
    refine TL.q rfl .u (Ex.lenS rfl Try.runUnderlying68) rfl ?_
    refine TL.run ft_cursitorref14_ok [3] rfl rfl ?_
    by_cases c12 : (k4 : Int) < (a0.length : Int)
    · replace h := ifT c12 h
      refine TL.nil (X.seq ?_)
      refine T.yes rfl (decide_eq_true c12) ?_
      refine T.skip (X.seq (T.seq (T.block (T.seq (T.seq (T.region rfl ?_))))))
      obtain ⟨x13, hx14, h⟩ := Option.bind_eq_some_iff.1 h
      obtain ⟨gz15, oz15, rfl, z15cs, z15cl, z15cc, z15nf, z15r⟩ := RX.elem (by decide) hX hx14
      obtain ⟨z15S, z15r, z15rr⟩ := z15r
      obtain ⟨A16, c17, rfl, z15s0⟩ := z15r
      have hX18 : (RX.of (sliceRd 1 intE) [.slice A16 x13.fParts.length c17] x13.fParts).reads w F := ⟨z15S, z15s0, z15rr⟩
      refine TL.run ft_cursitorref14_ok [0, 1] rfl rfl ?_
      refine TL.q rfl .u (Ex.ixS (k := k4) rfl rfl rfl Try.runUnderlying68 Try.sizeOf162 (List.getElem?_eq_some_iff.1 hx14).1) rfl ?_
      refine TL.run ft_cursitorref14_ok [3] rfl rfl ?_
      refine TL.q rfl .u (Ex.o1 0 rfl Try.isAgg9 z15nf z15cc rfl rfl) rfl ?_
      refine TL.q rfl .u (Ex.lenB rfl Try.runUnderlying9) rfl ?_
      by_cases c19 : (x13.fName.length : Int) < 1
      · replace h := ifT c19 h
        refine TL.run ft_cursitorref14_ok [6, 7] rfl rfl ?_
        refine TL.no rfl (.gn rfl rfl (decide_eq_true c19)) rfl ?_
        refine TL.no rfl (.gn rfl rfl (decide_eq_true c19)) rfl ?_
        refine TL.no rfl (.gn rfl rfl (decide_eq_true c19)) rfl ?_
        refine TL.no rfl (.gn rfl rfl (decide_eq_true c19)) rfl ?_
        refine TL.no rfl (.gn rfl rfl (decide_eq_true c19)) rfl ?_
        refine TL.no rfl (.gn rfl rfl (decide_eq_true c19)) rfl ?_
        refine TL.no rfl (.gn rfl rfl (decide_eq_true c19)) rfl ?_
        refine TL.q rfl .u (Ex.py rfl (decide_eq_true c19) rfl) rfl ?_
        refine TL.run ft_cursitorref14_ok [16] rfl rfl ?_
        refine TL.no rfl (.gn rfl rfl rfl) rfl ?_
        refine TL.no rfl (.gn rfl rfl rfl) rfl ?_
        refine TL.no rfl (.gn rfl rfl rfl) rfl ?_
        refine TL.no rfl (.gn rfl rfl rfl) rfl ?_
        refine TL.no rfl (.gn rfl rfl rfl) rfl ?_
        refine TL.no rfl (.gn rfl rfl rfl) rfl ?_
        refine TL.no rfl (.gn rfl rfl rfl) rfl ?_
        refine TL.q rfl .u (Ex.py rfl rfl rfl) rfl ?_
        refine TL.nil (X.seq ?_)
        refine T.yes rfl rfl ?_
        refine T.seq (T.region rfl ?_)
        refine TL.run ft_cursitorref14_ok [0] rfl rfl ?_
        obtain rfl := Option.some.inj h
        replace h := hO7
        clear hO7
        try dsimp only at h
        obtain rfl := Option.some.inj h
        exact TL.nil (X.seq (T.ret (X.rs (X.rb (X.rs (X.rs (X.rb (X.rs (X.done1 [0] Try.results127 (RV.tm rfl) ⟨rfl, rfl, rfl⟩ (by rfl) (.inl rfl))))))))))
      · replace h := ifF c19 h
        refine TL.run ft_cursitorref14_ok [6, 7] rfl rfl ?_
        refine TL.q rfl (.g rfl rfl (decide_eq_false c19)) (Ex.ft ft_cursitorref14_ok rfl) rfl ?_
        refine TL.q rfl (.g rfl rfl (decide_eq_false c19)) (Ex.ft ft_cursitorref14_ok rfl) rfl ?_
        refine TL.q rfl (.g rfl rfl (decide_eq_false c19)) (Ex.ixS (k := k4) rfl rfl rfl Try.runUnderlying68 Try.sizeOf162 (List.getElem?_eq_some_iff.1 hx14).1) rfl ?_
        refine TL.q rfl (.g rfl rfl (decide_eq_false c19)) (Ex.ft ft_cursitorref14_ok rfl) rfl ?_
        refine TL.q rfl (.g rfl rfl (decide_eq_false c19)) (Ex.o1 0 rfl Try.isAgg9 z15nf z15cc rfl rfl) rfl ?_
        refine TL.q rfl (.g rfl rfl (decide_eq_false c19)) (Ex.lenB rfl Try.runUnderlying9) rfl ?_
        refine TL.q rfl (.g rfl rfl (decide_eq_false c19)) (Ex.ft ft_cursitorref14_ok rfl) rfl ?_
        refine TL.q rfl .u (Ex.pn rfl (decide_eq_false c19) rfl) rfl ?_
        by_cases c20 : (x13.fName.length : Int) > 32767
        · replace h := ifT c20 h
          refine TL.run ft_cursitorref14_ok [16] rfl rfl ?_
          refine TL.no rfl (.gn rfl rfl (decide_eq_true c20)) rfl ?_
          refine TL.no rfl (.gn rfl rfl (decide_eq_true c20)) rfl ?_
          refine TL.no rfl (.gn rfl rfl (decide_eq_true c20)) rfl ?_
          refine TL.no rfl (.gn rfl rfl (decide_eq_true c20)) rfl ?_
          refine TL.no rfl (.gn rfl rfl (decide_eq_true c20)) rfl ?_
          refine TL.no rfl (.gn rfl rfl (decide_eq_true c20)) rfl ?_
          refine TL.no rfl (.gn rfl rfl (decide_eq_true c20)) rfl ?_
          refine TL.q rfl .u (Ex.py rfl (decide_eq_true c20) rfl) rfl ?_
          refine TL.nil (X.seq ?_)
          refine T.yes rfl rfl ?_
          refine T.seq (T.region rfl ?_)
          refine TL.run ft_cursitorref14_ok [0] rfl rfl ?_
          obtain rfl := Option.some.inj h
          replace h := hO7
          clear hO7
          try dsimp only at h
          obtain rfl := Option.some.inj h
          exact TL.nil (X.seq (T.ret (X.rs (X.rb (X.rs (X.rs (X.rb (X.rs (X.done1 [0] Try.results127 (RV.tm rfl) ⟨rfl, rfl, rfl⟩ (by rfl) (.inl rfl))))))))))
        · replace h := ifF c20 h
          refine TL.run ft_cursitorref14_ok [16] rfl rfl ?_
          refine TL.q rfl (.g rfl rfl (decide_eq_false c20)) (Ex.ft ft_cursitorref14_ok rfl) rfl ?_
          refine TL.q rfl (.g rfl rfl (decide_eq_false c20)) (Ex.ft ft_cursitorref14_ok rfl) rfl ?_
          refine TL.q rfl (.g rfl rfl (decide_eq_false c20)) (Ex.ixS (k := k4) rfl rfl rfl Try.runUnderlying68 Try.sizeOf162 (List.getElem?_eq_some_iff.1 hx14).1) rfl ?_
          refine TL.q rfl (.g rfl rfl (decide_eq_false c20)) (Ex.ft ft_cursitorref14_ok rfl) rfl ?_
          refine TL.q rfl (.g rfl rfl (decide_eq_false c20)) (Ex.o1 1 rfl Try.isAgg160 z15nf z15cc rfl rfl) rfl ?_
          refine TL.q rfl (.g rfl rfl (decide_eq_false c20)) (Ex.lenS rfl Try.runUnderlying160) rfl ?_
          refine TL.q rfl (.g rfl rfl (decide_eq_false c20)) (Ex.ft ft_cursitorref14_ok rfl) rfl ?_
          refine TL.q rfl .u (Ex.pn rfl (decide_eq_false c20) rfl) rfl ?_
          by_cases c21 : (x13.fParts.length : Int) < 1
          · replace h := ifT c21 h
            refine TL.nil (X.seq ?_)
            refine T.yes rfl (decide_eq_true c21) ?_
            refine T.seq (T.region rfl ?_)
            refine TL.run ft_cursitorref14_ok [0] rfl rfl ?_
            obtain rfl := Option.some.inj h
            replace h := hO7
            clear hO7
            try dsimp only at h
            obtain rfl := Option.some.inj h
            exact TL.nil (X.seq (T.ret (X.rs (X.rb (X.rs (X.rs (X.rb (X.rs (X.done1 [0] Try.results127 (RV.tm rfl) ⟨rfl, rfl, rfl⟩ (by rfl) (.inl rfl))))))))))
          · replace h := ifF c21 h
            refine TL.nil (X.seq ?_)
            refine T.no rfl (decide_eq_false c21) ?_
            refine T.skip (X.seq (T.seq (T.seq (T.draw (.q 0 (.q 1 (.q 2 (.q 3 (.q 4 (.q 5 (.q 6 (.q 7 (.q 8 (.q 9 (.q 10 (.q 11 (.q 12 (.q 13 (.e 14 (.q 15 (.q 16 .nil))))))))))))))))) [0] rfl mix_cursitorref14 (NoP.seq (NoP.seq (NoP.blk (NoP.seq (NoP.seq (NoP.blk (NoP.seq np_post))))))) (by kernel_rfl) ?_))))
            by_cases c22 : (k4 : Int) > 0
            · replace h := ifT c22 h
              refine TD.run ft_cursitorref14_ok [0, 1, 2] rfl rfl ?_
              refine TD.q rfl (.g rfl rfl (decide_eq_true c22)) (Ex.ft ft_cursitorref14_ok rfl) rfl ?_
              refine TD.q rfl (.g rfl rfl (decide_eq_true c22)) (Ex.ft ft_cursitorref14_ok rfl) rfl ?_
              replace h := guard_some h
              obtain ⟨c23, h⟩ := h
              refine TD.q rfl (.g rfl rfl (decide_eq_true c22)) (Ex.sub rfl rfl c23) rfl ?_
              replace h := guard_some h
              obtain ⟨c24, h⟩ := h
              obtain ⟨x25, hx26, h⟩ := Option.bind_eq_some_iff.1 h
              obtain ⟨z27cs, z27cl, z27cc, z27nf, z27r⟩ := RX.elem' (by decide) hX hx26
              obtain ⟨z27S, z27r, z27rr⟩ := z27r
              obtain ⟨A28, c29, rfl, z27s0⟩ := z27r
              have hX30 : (RX.of (sliceRd 1 intE) [.slice A28 x25.fParts.length c29] x25.fParts).reads w F := ⟨z27S, z27s0, z27rr⟩
              refine TD.q rfl (.g rfl rfl (decide_eq_true c22)) (Ex.ixS (k := ((k4 : Int) - 1).toNat) rfl rfl ((Int.toNat_of_nonneg c24).symm) Try.runUnderlying68 Try.sizeOf162 (List.getElem?_eq_some_iff.1 hx26).1) rfl ?_
              refine TD.q rfl (.g rfl rfl (decide_eq_true c22)) (Ex.ft ft_cursitorref14_ok rfl) rfl ?_
              refine TD.q rfl (.g rfl rfl (decide_eq_true c22)) (Ex.o1 0 rfl Try.isAgg9 z27nf z27cc rfl rfl) rfl ?_
              refine TD.q rfl (.g rfl rfl (decide_eq_true c22)) (Ex.ft ft_cursitorref14_ok rfl) rfl ?_
              refine TD.q rfl (.g rfl rfl (decide_eq_true c22)) (Ex.ft ft_cursitorref14_ok rfl) rfl ?_
              refine TD.q rfl (.g rfl rfl (decide_eq_true c22)) (Ex.ixS (k := k4) rfl rfl rfl Try.runUnderlying68 Try.sizeOf162 (List.getElem?_eq_some_iff.1 hx14).1) rfl ?_
              refine TD.q rfl (.g rfl rfl (decide_eq_true c22)) (Ex.ft ft_cursitorref14_ok rfl) rfl ?_
              refine TD.q rfl (.g rfl rfl (decide_eq_true c22)) (Ex.o1 0 rfl Try.isAgg9 z15nf z15cc rfl rfl) rfl ?_
              obtain ⟨x31, hx32, h⟩ := Option.bind_eq_some_iff.1 h
              refine TD.ce rfl (.g rfl rfl (decide_eq_true c22)) (.fn Try.call184 rfl) (f_r14_less_spec x25.fName x13.fName _ hx32) (fun _ hs => (RX.reads_triv _ _)) rfl [0] (rfl) ?_
              refine TD.q rfl (.g rfl rfl (decide_eq_true c22)) (Ex.ft ft_cursitorref14_ok rfl) rfl ?_
              refine TD.q rfl .u (Ex.py rfl (decide_eq_true c22) rfl) rfl ?_
              by_cases c33 : x31 = true
              · replace h := ifT c33 h
                refine TD.nil (X.seq ?_)
                refine T.no rfl (bn_f c33) ?_
                refine T.skip (X.seq (T.seq (T.region rfl ?_)))
                refine TL.run ft_cursitorref14_ok [0] rfl rfl ?_
                refine TL.nil (X.seq (T.block ?_))
                obtain ⟨E36, hE37, hO38⟩ := Option.bind_eq_some_iff.1 h
                refine T.lp (fun m e Rs => ∃ (y34 : Bool) (k35 : Nat), e = [(0, .slice (some ⟨gz15, oz15, none⟩) a0.length c2), (2, .bool y34), (3, .int .i64 (k4 : Int)), (4, .int .i64 (k35 : Int))] ∧ Rs = [EmpR] ∧ f_r14_Rise_l2 x13 m y34 k35 = some E36) (((x13.fParts.length : Int)).toNat + 1) [0] ⟨y3, 0, rfl, rfl, by exact hE37⟩ (by rfl) (by rfl) ?_
                rintro m39 _ _ ⟨y34, k35, rfl, rfl, hl41⟩
                clear hE37 h
                cases m39 with
                | zero =>
                  rw [f_r14_Rise_l2] at hl41
                  cases hl41
                | succ m39 =>
                  have h := hl41
                  clear hl41
                  rw [f_r14_Rise_l2] at h
                  refine T.seq (T.seq (T.region rfl ?_))
                  refine TL.run ft_cursitorref14_ok [0, 1, 2] rfl rfl ?_
                  refine TL.q rfl .u (Ex.ixS (k := k4) rfl rfl rfl Try.runUnderlying68 Try.sizeOf162 (List.getElem?_eq_some_iff.1 hx14).1) rfl ?_
                  refine TL.run ft_cursitorref14_ok [4] rfl rfl ?_
                  refine TL.q rfl .u (Ex.o1 1 rfl Try.isAgg160 z15nf z15cc rfl rfl) rfl ?_
                  refine TL.q rfl .u (Ex.lenS rfl Try.runUnderlying160) rfl ?_
                  refine TL.run ft_cursitorref14_ok [7] rfl rfl ?_
                  by_cases c43 : (k35 : Int) < (x13.fParts.length : Int)
                  · replace h := ifT c43 h
                    refine TL.nil (X.seq ?_)
                    refine T.yes rfl (decide_eq_true c43) ?_
                    refine T.skip (X.seq (T.seq (T.block (T.seq (T.region rfl ?_)))))
                    refine TL.run ft_cursitorref14_ok [0, 1] rfl rfl ?_
                    refine TL.q rfl .u (Ex.ixS (k := k4) rfl rfl rfl Try.runUnderlying68 Try.sizeOf162 (List.getElem?_eq_some_iff.1 hx14).1) rfl ?_
                    refine TL.run ft_cursitorref14_ok [3] rfl rfl ?_
                    refine TL.q rfl .u (Ex.o1 1 rfl Try.isAgg160 z15nf z15cc rfl rfl) rfl ?_
                    obtain ⟨x44, hx45, h⟩ := Option.bind_eq_some_iff.1 h
                    obtain ⟨gz46, oz46, rfl, z46cs, z46cl, z46cc, z46nf, z46r⟩ := RX.elem (by decide) hX18 hx45
                    obtain ⟨z46S, z46r, z46rr⟩ := z46r
                    obtain rfl : z46cs = [.int .i64 x44] := z46r
                    refine TL.run ft_cursitorref14_ok [5] rfl rfl ?_
                    refine TL.q rfl .u (Ex.ixS (k := k35) rfl rfl rfl Try.runUnderlying160 Try.sizeOf3 (List.getElem?_eq_some_iff.1 hx45).1) rfl ?_
                    refine TL.q rfl .u (Ex.o1 0 rfl Try.isAgg3 z46nf z46cc rfl rfl) rfl ?_
                    refine TL.run ft_cursitorref14_ok [8] rfl rfl ?_
                    refine TL.nil (X.seq (T.seq (T.region rfl ?_)))
                    by_cases c47 : x44 < 0
                    · replace h := ifT c47 h
                      refine TL.run ft_cursitorref14_ok [0, 1, 2] rfl rfl ?_
                      refine TL.no rfl (.gn rfl rfl (decide_eq_true c47)) rfl ?_
                      refine TL.no rfl (.gn rfl rfl (decide_eq_true c47)) rfl ?_
                      refine TL.q rfl .u (Ex.py rfl (decide_eq_true c47) rfl) rfl ?_
                      refine TL.run ft_cursitorref14_ok [6] rfl rfl ?_
                      refine TL.no rfl (.gn rfl rfl rfl) rfl ?_
                      refine TL.no rfl (.gn rfl rfl rfl) rfl ?_
                      refine TL.no rfl (.gn rfl rfl rfl) rfl ?_
                      refine TL.no rfl (.gu rfl rfl) rfl ?_
                      refine TL.no rfl (.gu rfl rfl) rfl ?_
                      refine TL.no rfl (.gu rfl rfl) rfl ?_
                      refine TL.no rfl (.gu rfl rfl) rfl ?_
                      refine TL.no rfl (.gu rfl rfl) rfl ?_
                      refine TL.no rfl (.gu rfl rfl) rfl ?_
                      refine TL.no rfl (.gu rfl rfl) rfl ?_
                      refine TL.no rfl (.gu rfl rfl) rfl ?_
                      refine TL.no rfl (.gu rfl rfl) rfl ?_
                      refine TL.no rfl (.gu rfl rfl) rfl ?_
                      refine TL.no rfl (.gu rfl rfl) rfl ?_
                      refine TL.no rfl (.gn rfl rfl rfl) rfl ?_
                      refine TL.q rfl .u (Ex.py rfl rfl rfl) rfl ?_
                      refine TL.nil (X.seq ?_)
                      refine T.yes rfl rfl ?_
                      refine T.seq (T.region rfl ?_)
                      refine TL.run ft_cursitorref14_ok [0] rfl rfl ?_
                      obtain rfl := Option.some.inj h
                      replace h := hO38
                      clear hO38
                      try dsimp only at h
                      obtain rfl := Option.some.inj h
                      replace h := hO7
                      clear hO7
                      try dsimp only at h
                      obtain rfl := Option.some.inj h
                      exact TL.nil (X.seq (T.ret (X.rb (X.rs (X.rs (X.rb (X.rb (X.rs (X.rs (X.rb (X.rs (X.done1 [0] Try.results127 (RV.tm rfl) ⟨rfl, rfl, rfl⟩ (by rfl) (.inl rfl)))))))))))))
                    · replace h := ifF c47 h
                      refine TL.run ft_cursitorref14_ok [0, 1, 2] rfl rfl ?_
                      refine TL.q rfl (.g rfl rfl (decide_eq_false c47)) (Ex.ft ft_cursitorref14_ok rfl) rfl ?_
                      refine TL.q rfl (.g rfl rfl (decide_eq_false c47)) (Ex.ft ft_cursitorref14_ok rfl) rfl ?_
                      refine TL.q rfl .u (Ex.pn rfl (decide_eq_false c47) rfl) rfl ?_
                      by_cases c48 : x44 > 2147483647
                      · replace h := ifT c48 h
                        refine TL.run ft_cursitorref14_ok [6] rfl rfl ?_
                        refine TL.no rfl (.gn rfl rfl (decide_eq_true c48)) rfl ?_
                        refine TL.no rfl (.gn rfl rfl (decide_eq_true c48)) rfl ?_
                        refine TL.no rfl (.gn rfl rfl (decide_eq_true c48)) rfl ?_
                        refine TL.no rfl (.gu rfl rfl) rfl ?_
                        refine TL.no rfl (.gu rfl rfl) rfl ?_
                        refine TL.no rfl (.gu rfl rfl) rfl ?_
                        refine TL.no rfl (.gu rfl rfl) rfl ?_
                        refine TL.no rfl (.gu rfl rfl) rfl ?_
                        refine TL.no rfl (.gu rfl rfl) rfl ?_
                        refine TL.no rfl (.gu rfl rfl) rfl ?_
                        refine TL.no rfl (.gu rfl rfl) rfl ?_
                        refine TL.no rfl (.gu rfl rfl) rfl ?_
                        refine TL.no rfl (.gu rfl rfl) rfl ?_
                        refine TL.no rfl (.gu rfl rfl) rfl ?_
                        refine TL.no rfl (.gn rfl rfl (decide_eq_true c48)) rfl ?_
                        refine TL.q rfl .u (Ex.py rfl (decide_eq_true c48) rfl) rfl ?_
                        refine TL.nil (X.seq ?_)
                        refine T.yes rfl rfl ?_
                        refine T.seq (T.region rfl ?_)
                        refine TL.run ft_cursitorref14_ok [0] rfl rfl ?_
                        obtain rfl := Option.some.inj h
                        replace h := hO38
                        clear hO38
                        try dsimp only at h
                        obtain rfl := Option.some.inj h
                        replace h := hO7
                        clear hO7
                        try dsimp only at h
                        obtain rfl := Option.some.inj h
                        exact TL.nil (X.seq (T.ret (X.rb (X.rs (X.rs (X.rb (X.rb (X.rs (X.rs (X.rb (X.rs (X.done1 [0] Try.results127 (RV.tm rfl) ⟨rfl, rfl, rfl⟩ (by rfl) (.inl rfl)))))))))))))
                      · replace h := ifF c48 h
                        refine TL.run ft_cursitorref14_ok [6] rfl rfl ?_
                        refine TL.q rfl (.g rfl rfl (decide_eq_false c48)) (Ex.ft ft_cursitorref14_ok rfl) rfl ?_
                        refine TL.q rfl (.g rfl rfl (decide_eq_false c48)) (Ex.ft ft_cursitorref14_ok rfl) rfl ?_
                        refine TL.q rfl (.g rfl rfl (decide_eq_false c48)) (Ex.ft ft_cursitorref14_ok rfl) rfl ?_
                        by_cases c49 : (k35 : Int) > 0
                        · replace h := ifT c49 h
                          refine TL.q rfl (.g rfl rfl (decide_eq_true c49)) (Ex.ft ft_cursitorref14_ok rfl) rfl ?_
                          refine TL.q rfl (.g rfl rfl (decide_eq_true c49)) (Ex.ft ft_cursitorref14_ok rfl) rfl ?_
                          refine TL.q rfl (.g rfl rfl (decide_eq_true c49)) (Ex.ixS (k := k4) rfl rfl rfl Try.runUnderlying68 Try.sizeOf162 (List.getElem?_eq_some_iff.1 hx14).1) rfl ?_
                          refine TL.q rfl (.g rfl rfl (decide_eq_true c49)) (Ex.ft ft_cursitorref14_ok rfl) rfl ?_
                          refine TL.q rfl (.g rfl rfl (decide_eq_true c49)) (Ex.o1 1 rfl Try.isAgg160 z15nf z15cc rfl rfl) rfl ?_
                          refine TL.q rfl (.g rfl rfl (decide_eq_true c49)) (Ex.ft ft_cursitorref14_ok rfl) rfl ?_
                          replace h := guard_some h
                          obtain ⟨c50, h⟩ := h
                          refine TL.q rfl (.g rfl rfl (decide_eq_true c49)) (Ex.sub rfl rfl c50) rfl ?_
                          replace h := guard_some h
                          obtain ⟨c51, h⟩ := h
                          obtain ⟨x52, hx53, h⟩ := Option.bind_eq_some_iff.1 h
                          obtain ⟨z54cs, z54cl, z54cc, z54nf, z54r⟩ := RX.elem' (by decide) hX18 hx53
                          obtain ⟨z54S, z54r, z54rr⟩ := z54r
                          obtain rfl : z54cs = [.int .i64 x52] := z54r
                          refine TL.q rfl (.g rfl rfl (decide_eq_true c49)) (Ex.ixS (k := ((k35 : Int) - 1).toNat) rfl rfl ((Int.toNat_of_nonneg c51).symm) Try.runUnderlying160 Try.sizeOf3 (List.getElem?_eq_some_iff.1 hx53).1) rfl ?_
                          refine TL.q rfl (.g rfl rfl (decide_eq_true c49)) (Ex.o1 0 rfl Try.isAgg3 z54nf z54cc rfl rfl) rfl ?_
                          refine TL.q rfl (.g rfl rfl (decide_eq_true c49)) (Ex.ft ft_cursitorref14_ok rfl) rfl ?_
                          refine TL.q rfl (.g rfl rfl (decide_eq_true c49)) (Ex.ft ft_cursitorref14_ok rfl) rfl ?_
                          refine TL.q rfl (.g rfl rfl (decide_eq_false c48)) (Ex.py rfl (decide_eq_true c49) rfl) rfl ?_
                          refine TL.q rfl .u (Ex.pn rfl (decide_eq_false c48) rfl) rfl ?_
                          by_cases c55 : x52 ≥ x44
                          · replace h := ifT c55 h
                            refine TL.nil (X.seq ?_)
                            refine T.yes rfl (decide_eq_true c55) ?_
                            refine T.seq (T.region rfl ?_)
                            refine TL.run ft_cursitorref14_ok [0] rfl rfl ?_
                            obtain rfl := Option.some.inj h
                            replace h := hO38
                            clear hO38
                            try dsimp only at h
                            obtain rfl := Option.some.inj h
                            replace h := hO7
                            clear hO7
                            try dsimp only at h
                            obtain rfl := Option.some.inj h
                            exact TL.nil (X.seq (T.ret (X.rb (X.rs (X.rs (X.rb (X.rb (X.rs (X.rs (X.rb (X.rs (X.done1 [0] Try.results127 (RV.tm rfl) ⟨rfl, rfl, rfl⟩ (by rfl) (.inl rfl)))))))))))))
                          · replace h := ifF c55 h
                            refine TL.nil (X.seq ?_)
                            refine T.no rfl (decide_eq_false c55) ?_
                            refine T.skip (X.blk (X.seq (T.region rfl ?_)))
                            replace h := guard_some h
                            obtain ⟨c56, h⟩ := h
                            refine TL.run ft_cursitorref14_ok [0] rfl rfl ?_
                            refine TL.q rfl .u (Ex.add rfl rfl c56) rfl ?_
                            refine TL.run ft_cursitorref14_ok [2] rfl rfl ?_
                            exact TL.nil (X.back (m' := m39) [0] (by omega) ⟨y34, k35 + 1, rfl, rfl, h⟩ (by rfl) (by rfl))
                        · replace h := ifF c49 h
                          refine TL.no rfl (.gn rfl rfl (decide_eq_false c49)) rfl ?_
                          refine TL.no rfl (.gn rfl rfl (decide_eq_false c49)) rfl ?_
                          refine TL.no rfl (.gn rfl rfl (decide_eq_false c49)) rfl ?_
                          refine TL.no rfl (.gn rfl rfl (decide_eq_false c49)) rfl ?_
                          refine TL.no rfl (.gn rfl rfl (decide_eq_false c49)) rfl ?_
                          refine TL.no rfl (.gn rfl rfl (decide_eq_false c49)) rfl ?_
                          refine TL.no rfl (.gn rfl rfl (decide_eq_false c49)) rfl ?_
                          refine TL.no rfl (.gn rfl rfl (decide_eq_false c49)) rfl ?_
                          refine TL.no rfl (.gn rfl rfl (decide_eq_false c49)) rfl ?_
                          refine TL.no rfl (.gn rfl rfl (decide_eq_false c49)) rfl ?_
                          refine TL.no rfl (.gn rfl rfl (decide_eq_false c49)) rfl ?_
                          refine TL.q rfl (.g rfl rfl (decide_eq_false c48)) (Ex.pn rfl (decide_eq_false c49) rfl) rfl ?_
                          refine TL.q rfl .u (Ex.pn rfl (decide_eq_false c48) rfl) rfl ?_
                          refine TL.nil (X.seq ?_)
                          refine T.no rfl rfl ?_
                          refine T.skip (X.blk (X.seq (T.region rfl ?_)))
                          replace h := guard_some h
                          obtain ⟨c57, h⟩ := h
                          refine TL.run ft_cursitorref14_ok [0] rfl rfl ?_
                          refine TL.q rfl .u (Ex.add rfl rfl c57) rfl ?_
                          refine TL.run ft_cursitorref14_ok [2] rfl rfl ?_
                          exact TL.nil (X.back (m' := m39) [0] (by omega) ⟨y34, k35 + 1, rfl, rfl, h⟩ (by rfl) (by rfl))
                  · replace h := ifF c43 h
                    refine TL.nil (X.seq ?_)
                    refine T.no rfl (decide_eq_false c43) ?_
                    obtain rfl := Option.some.inj h
                    replace h := hO38
                    clear hO38
                    try dsimp only at h
                    refine T.exit (X.exs (X.exs (X.ex (X.blk (X.seq (T.region rfl ?_))))))
                    replace h := guard_some h
                    obtain ⟨c58, h⟩ := h
                    refine TL.run ft_cursitorref14_ok [0] rfl rfl ?_
                    refine TL.q rfl .u (Ex.add rfl rfl c58) rfl ?_
                    refine TL.run ft_cursitorref14_ok [2] rfl rfl ?_
                    exact TL.nil (X.back (m' := m8) [0] (by omega) ⟨y34, k4 + 1, rfl, rfl, h⟩ (by rfl) (by rfl))
              · replace h := ifF c33 h
                replace c33 := eq_false_of_ne_true c33
                refine TD.nil (X.seq ?_)
                refine T.yes rfl (bn_t c33) ?_
                refine T.seq (T.region rfl ?_)
                refine TL.run ft_cursitorref14_ok [0] rfl rfl ?_
                obtain rfl := Option.some.inj h
                replace h := hO7
                clear hO7
                try dsimp only at h
                obtain rfl := Option.some.inj h
                exact TL.nil (X.seq (T.ret (X.rs (X.rb (X.rs (X.rs (X.rb (X.rs (X.done1 [0] Try.results127 (RV.tm rfl) ⟨rfl, rfl, rfl⟩ (by rfl) (.inl rfl))))))))))
            · replace h := ifF c22 h
              refine TD.run ft_cursitorref14_ok [0, 1, 2] rfl rfl ?_
              refine TD.no rfl (.gn rfl rfl (decide_eq_false c22)) rfl ?_
              refine TD.no rfl (.gn rfl rfl (decide_eq_false c22)) rfl ?_
              refine TD.no rfl (.gn rfl rfl (decide_eq_false c22)) rfl ?_
              refine TD.no rfl (.gn rfl rfl (decide_eq_false c22)) rfl ?_
              refine TD.no rfl (.gn rfl rfl (decide_eq_false c22)) rfl ?_
              refine TD.no rfl (.gn rfl rfl (decide_eq_false c22)) rfl ?_
              refine TD.no rfl (.gn rfl rfl (decide_eq_false c22)) rfl ?_
              refine TD.no rfl (.gn rfl rfl (decide_eq_false c22)) rfl ?_
              refine TD.no rfl (.gn rfl rfl (decide_eq_false c22)) rfl ?_
              refine TD.no rfl (.gn rfl rfl (decide_eq_false c22)) rfl ?_
              refine TD.no rfl (.gn rfl rfl (decide_eq_false c22)) rfl ?_
              refine TD.noe rfl (.gn rfl rfl (decide_eq_false c22)) rfl [0] rfl ?_
              refine TD.no rfl (.gn rfl rfl (decide_eq_false c22)) rfl ?_
              refine TD.q rfl .u (Ex.pn rfl (decide_eq_false c22) rfl) rfl ?_
              refine TD.nil (X.seq ?_)
              refine T.no rfl rfl ?_
              refine T.skip (X.seq (T.seq (T.region rfl ?_)))
              refine TL.run ft_cursitorref14_ok [0] rfl rfl ?_
              refine TL.nil (X.seq (T.block ?_))
              obtain ⟨E64, hE65, hO66⟩ := Option.bind_eq_some_iff.1 h
              refine T.lp (fun m e Rs => ∃ (y62 : Bool) (k63 : Nat), e = [(0, .slice (some ⟨gz15, oz15, none⟩) a0.length c2), (2, .bool y62), (3, .int .i64 (k4 : Int)), (4, .int .i64 (k63 : Int))] ∧ Rs = [EmpR] ∧ f_r14_Rise_l3 x13 m y62 k63 = some E64) (((x13.fParts.length : Int)).toNat + 1) [0] ⟨y3, 0, rfl, rfl, by exact hE65⟩ (by rfl) (by rfl) ?_
              rintro m67 _ _ ⟨y62, k63, rfl, rfl, hl69⟩
              clear hE65 h
              cases m67 with
              | zero =>
                rw [f_r14_Rise_l3] at hl69
                cases hl69
              | succ m67 =>
                have h := hl69
                clear hl69
                rw [f_r14_Rise_l3] at h
                refine T.seq (T.seq (T.region rfl ?_))
                refine TL.run ft_cursitorref14_ok [0, 1, 2] rfl rfl ?_
                refine TL.q rfl .u (Ex.ixS (k := k4) rfl rfl rfl Try.runUnderlying68 Try.sizeOf162 (List.getElem?_eq_some_iff.1 hx14).1) rfl ?_
                refine TL.run ft_cursitorref14_ok [4] rfl rfl ?_
                refine TL.q rfl .u (Ex.o1 1 rfl Try.isAgg160 z15nf z15cc rfl rfl) rfl ?_
                refine TL.q rfl .u (Ex.lenS rfl Try.runUnderlying160) rfl ?_
                refine TL.run ft_cursitorref14_ok [7] rfl rfl ?_
                by_cases c71 : (k63 : Int) < (x13.fParts.length : Int)
                · replace h := ifT c71 h
                  refine TL.nil (X.seq ?_)
                  refine T.yes rfl (decide_eq_true c71) ?_
                  refine T.skip (X.seq (T.seq (T.block (T.seq (T.region rfl ?_)))))
                  refine TL.run ft_cursitorref14_ok [0, 1] rfl rfl ?_
                  refine TL.q rfl .u (Ex.ixS (k := k4) rfl rfl rfl Try.runUnderlying68 Try.sizeOf162 (List.getElem?_eq_some_iff.1 hx14).1) rfl ?_
                  refine TL.run ft_cursitorref14_ok [3] rfl rfl ?_
                  refine TL.q rfl .u (Ex.o1 1 rfl Try.isAgg160 z15nf z15cc rfl rfl) rfl ?_
                  obtain ⟨x72, hx73, h⟩ := Option.bind_eq_some_iff.1 h
                  obtain ⟨gz74, oz74, rfl, z74cs, z74cl, z74cc, z74nf, z74r⟩ := RX.elem (by decide) hX18 hx73
                  obtain ⟨z74S, z74r, z74rr⟩ := z74r
                  obtain rfl : z74cs = [.int .i64 x72] := z74r
                  refine TL.run ft_cursitorref14_ok [5] rfl rfl ?_
                  refine TL.q rfl .u (Ex.ixS (k := k63) rfl rfl rfl Try.runUnderlying160 Try.sizeOf3 (List.getElem?_eq_some_iff.1 hx73).1) rfl ?_
                  refine TL.q rfl .u (Ex.o1 0 rfl Try.isAgg3 z74nf z74cc rfl rfl) rfl ?_
                  refine TL.run ft_cursitorref14_ok [8] rfl rfl ?_
                  refine TL.nil (X.seq (T.seq (T.region rfl ?_)))
                  by_cases c75 : x72 < 0
                  · replace h := ifT c75 h
                    refine TL.run ft_cursitorref14_ok [0, 1, 2] rfl rfl ?_
                    refine TL.no rfl (.gn rfl rfl (decide_eq_true c75)) rfl ?_
                    refine TL.no rfl (.gn rfl rfl (decide_eq_true c75)) rfl ?_
                    refine TL.q rfl .u (Ex.py rfl (decide_eq_true c75) rfl) rfl ?_
                    refine TL.run ft_cursitorref14_ok [6] rfl rfl ?_
                    refine TL.no rfl (.gn rfl rfl rfl) rfl ?_
                    refine TL.no rfl (.gn rfl rfl rfl) rfl ?_
                    refine TL.no rfl (.gn rfl rfl rfl) rfl ?_
                    refine TL.no rfl (.gu rfl rfl) rfl ?_
                    refine TL.no rfl (.gu rfl rfl) rfl ?_
                    refine TL.no rfl (.gu rfl rfl) rfl ?_
                    refine TL.no rfl (.gu rfl rfl) rfl ?_
                    refine TL.no rfl (.gu rfl rfl) rfl ?_
                    refine TL.no rfl (.gu rfl rfl) rfl ?_
                    refine TL.no rfl (.gu rfl rfl) rfl ?_
                    refine TL.no rfl (.gu rfl rfl) rfl ?_
                    refine TL.no rfl (.gu rfl rfl) rfl ?_
                    refine TL.no rfl (.gu rfl rfl) rfl ?_
                    refine TL.no rfl (.gu rfl rfl) rfl ?_
                    refine TL.no rfl (.gn rfl rfl rfl) rfl ?_
                    refine TL.q rfl .u (Ex.py rfl rfl rfl) rfl ?_
                    refine TL.nil (X.seq ?_)
                    refine T.yes rfl rfl ?_
                    refine T.seq (T.region rfl ?_)
                    refine TL.run ft_cursitorref14_ok [0] rfl rfl ?_
                    obtain rfl := Option.some.inj h
                    replace h := hO66
                    clear hO66
                    try dsimp only at h
                    obtain rfl := Option.some.inj h
                    replace h := hO7
                    clear hO7
                    try dsimp only at h
                    obtain rfl := Option.some.inj h
                    exact TL.nil (X.seq (T.ret (X.rb (X.rs (X.rs (X.rb (X.rb (X.rs (X.rs (X.rb (X.rs (X.done1 [0] Try.results127 (RV.tm rfl) ⟨rfl, rfl, rfl⟩ (by rfl) (.inl rfl)))))))))))))
                  · replace h := ifF c75 h
                    refine TL.run ft_cursitorref14_ok [0, 1, 2] rfl rfl ?_
                    refine TL.q rfl (.g rfl rfl (decide_eq_false c75)) (Ex.ft ft_cursitorref14_ok rfl) rfl ?_
                    refine TL.q rfl (.g rfl rfl (decide_eq_false c75)) (Ex.ft ft_cursitorref14_ok rfl) rfl ?_
                    refine TL.q rfl .u (Ex.pn rfl (decide_eq_false c75) rfl) rfl ?_
                    by_cases c76 : x72 > 2147483647
                    · replace h := ifT c76 h
                      refine TL.run ft_cursitorref14_ok [6] rfl rfl ?_
                      refine TL.no rfl (.gn rfl rfl (decide_eq_true c76)) rfl ?_
                      refine TL.no rfl (.gn rfl rfl (decide_eq_true c76)) rfl ?_
                      refine TL.no rfl (.gn rfl rfl (decide_eq_true c76)) rfl ?_
                      refine TL.no rfl (.gu rfl rfl) rfl ?_
                      refine TL.no rfl (.gu rfl rfl) rfl ?_
                      refine TL.no rfl (.gu rfl rfl) rfl ?_
                      refine TL.no rfl (.gu rfl rfl) rfl ?_
                      refine TL.no rfl (.gu rfl rfl) rfl ?_
                      refine TL.no rfl (.gu rfl rfl) rfl ?_
                      refine TL.no rfl (.gu rfl rfl) rfl ?_
                      refine TL.no rfl (.gu rfl rfl) rfl ?_
                      refine TL.no rfl (.gu rfl rfl) rfl ?_
                      refine TL.no rfl (.gu rfl rfl) rfl ?_
                      refine TL.no rfl (.gu rfl rfl) rfl ?_
                      refine TL.no rfl (.gn rfl rfl (decide_eq_true c76)) rfl ?_
                      refine TL.q rfl .u (Ex.py rfl (decide_eq_true c76) rfl) rfl ?_
                      refine TL.nil (X.seq ?_)
                      refine T.yes rfl rfl ?_
                      refine T.seq (T.region rfl ?_)
                      refine TL.run ft_cursitorref14_ok [0] rfl rfl ?_
                      obtain rfl := Option.some.inj h
                      replace h := hO66
                      clear hO66
                      try dsimp only at h
                      obtain rfl := Option.some.inj h
                      replace h := hO7
                      clear hO7
                      try dsimp only at h
                      obtain rfl := Option.some.inj h
                      exact TL.nil (X.seq (T.ret (X.rb (X.rs (X.rs (X.rb (X.rb (X.rs (X.rs (X.rb (X.rs (X.done1 [0] Try.results127 (RV.tm rfl) ⟨rfl, rfl, rfl⟩ (by rfl) (.inl rfl)))))))))))))
                    · replace h := ifF c76 h
                      refine TL.run ft_cursitorref14_ok [6] rfl rfl ?_
                      refine TL.q rfl (.g rfl rfl (decide_eq_false c76)) (Ex.ft ft_cursitorref14_ok rfl) rfl ?_
                      refine TL.q rfl (.g rfl rfl (decide_eq_false c76)) (Ex.ft ft_cursitorref14_ok rfl) rfl ?_
                      refine TL.q rfl (.g rfl rfl (decide_eq_false c76)) (Ex.ft ft_cursitorref14_ok rfl) rfl ?_
                      by_cases c77 : (k63 : Int) > 0
                      · replace h := ifT c77 h
                        refine TL.q rfl (.g rfl rfl (decide_eq_true c77)) (Ex.ft ft_cursitorref14_ok rfl) rfl ?_
                        refine TL.q rfl (.g rfl rfl (decide_eq_true c77)) (Ex.ft ft_cursitorref14_ok rfl) rfl ?_
                        refine TL.q rfl (.g rfl rfl (decide_eq_true c77)) (Ex.ixS (k := k4) rfl rfl rfl Try.runUnderlying68 Try.sizeOf162 (List.getElem?_eq_some_iff.1 hx14).1) rfl ?_
                        refine TL.q rfl (.g rfl rfl (decide_eq_true c77)) (Ex.ft ft_cursitorref14_ok rfl) rfl ?_
                        refine TL.q rfl (.g rfl rfl (decide_eq_true c77)) (Ex.o1 1 rfl Try.isAgg160 z15nf z15cc rfl rfl) rfl ?_
                        refine TL.q rfl (.g rfl rfl (decide_eq_true c77)) (Ex.ft ft_cursitorref14_ok rfl) rfl ?_
                        replace h := guard_some h
                        obtain ⟨c78, h⟩ := h
                        refine TL.q rfl (.g rfl rfl (decide_eq_true c77)) (Ex.sub rfl rfl c78) rfl ?_
                        replace h := guard_some h
                        obtain ⟨c79, h⟩ := h
                        obtain ⟨x80, hx81, h⟩ := Option.bind_eq_some_iff.1 h
                        obtain ⟨z82cs, z82cl, z82cc, z82nf, z82r⟩ := RX.elem' (by decide) hX18 hx81
                        obtain ⟨z82S, z82r, z82rr⟩ := z82r
                        obtain rfl : z82cs = [.int .i64 x80] := z82r
                        refine TL.q rfl (.g rfl rfl (decide_eq_true c77)) (Ex.ixS (k := ((k63 : Int) - 1).toNat) rfl rfl ((Int.toNat_of_nonneg c79).symm) Try.runUnderlying160 Try.sizeOf3 (List.getElem?_eq_some_iff.1 hx81).1) rfl ?_
                        refine TL.q rfl (.g rfl rfl (decide_eq_true c77)) (Ex.o1 0 rfl Try.isAgg3 z82nf z82cc rfl rfl) rfl ?_
                        refine TL.q rfl (.g rfl rfl (decide_eq_true c77)) (Ex.ft ft_cursitorref14_ok rfl) rfl ?_
                        refine TL.q rfl (.g rfl rfl (decide_eq_true c77)) (Ex.ft ft_cursitorref14_ok rfl) rfl ?_
                        refine TL.q rfl (.g rfl rfl (decide_eq_false c76)) (Ex.py rfl (decide_eq_true c77) rfl) rfl ?_
                        refine TL.q rfl .u (Ex.pn rfl (decide_eq_false c76) rfl) rfl ?_
                        by_cases c83 : x80 ≥ x72
                        · replace h := ifT c83 h
                          refine TL.nil (X.seq ?_)
                          refine T.yes rfl (decide_eq_true c83) ?_
                          refine T.seq (T.region rfl ?_)
                          refine TL.run ft_cursitorref14_ok [0] rfl rfl ?_
                          obtain rfl := Option.some.inj h
                          replace h := hO66
                          clear hO66
                          try dsimp only at h
                          obtain rfl := Option.some.inj h
                          replace h := hO7
                          clear hO7
                          try dsimp only at h
                          obtain rfl := Option.some.inj h
                          exact TL.nil (X.seq (T.ret (X.rb (X.rs (X.rs (X.rb (X.rb (X.rs (X.rs (X.rb (X.rs (X.done1 [0] Try.results127 (RV.tm rfl) ⟨rfl, rfl, rfl⟩ (by rfl) (.inl rfl)))))))))))))
                        · replace h := ifF c83 h
                          refine TL.nil (X.seq ?_)
                          refine T.no rfl (decide_eq_false c83) ?_
                          refine T.skip (X.blk (X.seq (T.region rfl ?_)))
                          replace h := guard_some h
                          obtain ⟨c84, h⟩ := h
                          refine TL.run ft_cursitorref14_ok [0] rfl rfl ?_
                          refine TL.q rfl .u (Ex.add rfl rfl c84) rfl ?_
                          refine TL.run ft_cursitorref14_ok [2] rfl rfl ?_
                          exact TL.nil (X.back (m' := m67) [0] (by omega) ⟨y62, k63 + 1, rfl, rfl, h⟩ (by rfl) (by rfl))
                      · replace h := ifF c77 h
                        refine TL.no rfl (.gn rfl rfl (decide_eq_false c77)) rfl ?_
                        refine TL.no rfl (.gn rfl rfl (decide_eq_false c77)) rfl ?_
                        refine TL.no rfl (.gn rfl rfl (decide_eq_false c77)) rfl ?_
                        refine TL.no rfl (.gn rfl rfl (decide_eq_false c77)) rfl ?_
                        refine TL.no rfl (.gn rfl rfl (decide_eq_false c77)) rfl ?_
                        refine TL.no rfl (.gn rfl rfl (decide_eq_false c77)) rfl ?_
                        refine TL.no rfl (.gn rfl rfl (decide_eq_false c77)) rfl ?_
                        refine TL.no rfl (.gn rfl rfl (decide_eq_false c77)) rfl ?_
                        refine TL.no rfl (.gn rfl rfl (decide_eq_false c77)) rfl ?_
                        refine TL.no rfl (.gn rfl rfl (decide_eq_false c77)) rfl ?_
                        refine TL.no rfl (.gn rfl rfl (decide_eq_false c77)) rfl ?_
                        refine TL.q rfl (.g rfl rfl (decide_eq_false c76)) (Ex.pn rfl (decide_eq_false c77) rfl) rfl ?_
                        refine TL.q rfl .u (Ex.pn rfl (decide_eq_false c76) rfl) rfl ?_
                        refine TL.nil (X.seq ?_)
                        refine T.no rfl rfl ?_
                        refine T.skip (X.blk (X.seq (T.region rfl ?_)))
                        replace h := guard_some h
                        obtain ⟨c85, h⟩ := h
                        refine TL.run ft_cursitorref14_ok [0] rfl rfl ?_
                        refine TL.q rfl .u (Ex.add rfl rfl c85) rfl ?_
                        refine TL.run ft_cursitorref14_ok [2] rfl rfl ?_
                        exact TL.nil (X.back (m' := m67) [0] (by omega) ⟨y62, k63 + 1, rfl, rfl, h⟩ (by rfl) (by rfl))
                · replace h := ifF c71 h
                  refine TL.nil (X.seq ?_)
                  refine T.no rfl (decide_eq_false c71) ?_
                  obtain rfl := Option.some.inj h
                  replace h := hO66
                  clear hO66
                  try dsimp only at h
                  refine T.exit (X.exs (X.exs (X.ex (X.blk (X.seq (T.region rfl ?_))))))
                  replace h := guard_some h
                  obtain ⟨c86, h⟩ := h
                  refine TL.run ft_cursitorref14_ok [0] rfl rfl ?_
                  refine TL.q rfl .u (Ex.add rfl rfl c86) rfl ?_
                  refine TL.run ft_cursitorref14_ok [2] rfl rfl ?_
                  exact TL.nil (X.back (m' := m8) [0] (by omega) ⟨y62, k4 + 1, rfl, rfl, h⟩ (by rfl) (by rfl))
    · replace h := ifF c12 h
      refine TL.nil (X.seq ?_)
      refine T.no rfl (decide_eq_false c12) ?_
      obtain rfl := Option.some.inj h
      replace h := hO7
      clear hO7
      try dsimp only at h
      refine T.exit (X.exs (X.exs (X.ex (X.seq (T.seq (T.region rfl ?_))))))
      refine TL.run ft_cursitorref14_ok [0] rfl rfl ?_
      obtain rfl := Option.some.inj h
      exact TL.nil (X.seq (T.ret (X.done1 [0] Try.results127 (RV.tm rfl) ⟨rfl, rfl, rfl⟩ (by rfl) (.inl rfl))))
def f_r14_SameTopics_l1 (a0 : List Top) (a1 : List Top) : Nat → Bool → Nat → Option (Lp Bool (Bool × Nat))
  | 0, _, _ => none
  | m11 + 1, y6, k7 => if (k7 : Int) < (a0.length : Int) then ((a0[k7]?).bind fun x16 => (a1[k7]?).bind fun x22 => if x16.fName = x22.fName then ((f_r01_Same x16.fParts x22.fParts).bind fun x29 => if x29 = true then (if -9223372036854775808 ≤ ((k7 : Int) + 1) ∧ ((k7 : Int) + 1) ≤ 9223372036854775807 then (f_r14_SameTopics_l1 a0 a1 m11 y6 (k7 + 1)) else none) else some (Lp.ret false)) else some (Lp.ret false)) else (some (Lp.go (y6, k7)))
def f_r14_SameTopics (a0 : List Top) (a1 : List Top) : Option (Bool) := if (a0.length : Int) = (a1.length : Int) then ((f_r14_SameTopics_l1 a0 a1 (((a0.length : Int)).toNat + 1) false 0).bind fun e => match e with | .ret r => some r | .go (y33, k34) => some true) else some false
set_option maxRecDepth 100000 in
set_option maxHeartbeats 4000000 in
theorem f_r14_SameTopics_spec (a0 : List Top) (A1 : Option Addr) (c2 : Nat) (a1 : List Top) (A3 : Option Addr) (c4 : Nat) (r : Bool) (h : f_r14_SameTopics a0 a1 = some r) : SpecX Try.prog 110 #[.slice A1 a0.length c2, .slice A3 a1.length c4] (RX.and (RX.of (sliceRd 2 Top_rd) [.slice A1 a0.length c2] a0) (RX.of (sliceRd 2 Top_rd) [.slice A3 a1.length c4] a1)) (EmpR) (fun v A' N => v = .bool r ∧ A' = EmpR ∧ N = []) := by
  refine enterA Try.func110 rfl Try.ntmps110 rfl ?_
  intro F w hX
  unfold f_r14_SameTopics at h
  refine T.seq (T.region rfl ?_)
  refine TL.run ft_cursitorref14_ok [0] rfl rfl ?_
  refine TL.nil (X.seq (T.seq (T.seq (T.region rfl ?_))))
  refine TL.run ft_cursitorref14_ok [0] rfl rfl ?_
  refine TL.q rfl .u (Ex.lenS rfl Try.runUnderlying68) rfl ?_
  refine TL.run ft_cursitorref14_ok [2] rfl rfl ?_
  refine TL.q rfl .u (Ex.lenS rfl Try.runUnderlying68) rfl ?_
  refine TL.run ft_cursitorref14_ok [4] rfl rfl ?_
  by_cases c5 : (a0.length : Int) = (a1.length : Int)
  · replace h := ifT c5 h
    refine TL.nil (X.seq ?_)
    refine T.no rfl (bn_f (decide_eq_true c5)) ?_
    refine T.skip (X.seq (T.seq (T.seq (T.region rfl ?_))))
    refine TL.run ft_cursitorref14_ok [0] rfl rfl ?_
    refine TL.nil (X.seq (T.block ?_))
    obtain ⟨E8, hE9, hO10⟩ := Option.bind_eq_some_iff.1 h
    refine T.lp (fun m e Rs => ∃ (y6 : Bool) (k7 : Nat), e = [(0, .slice A1 a0.length c2), (1, .slice A3 a1.length c4), (4, .bool y6), (5, .int .i64 (k7 : Int))] ∧ Rs = [EmpR] ∧ f_r14_SameTopics_l1 a0 a1 m y6 k7 = some E8) (((a0.length : Int)).toNat + 1) [0] ⟨false, 0, rfl, rfl, by exact hE9⟩ (by rfl) (by rfl) ?_
    rintro m11 _ _ ⟨y6, k7, rfl, rfl, hl13⟩
    clear hE9 h
    cases m11 with
    | zero =>
      rw [f_r14_SameTopics_l1] at hl13
      cases hl13
    | succ m11 =>
      have h := hl13
      clear hl13
      rw [f_r14_SameTopics_l1] at h
      refine T.seq (T.seq (T.region rfl ?_))
      refine TL.run ft_cursitorref14_ok [0, 1] rfl rfl ?_
      refine TL.q rfl .u (Ex.lenS rfl Try.runUnderlying68) rfl ?_
      refine TL.run ft_cursitorref14_ok [3] rfl rfl ?_
      by_cases c15 : (k7 : Int) < (a0.length : Int)
      · replace h := ifT c15 h
        refine TL.nil (X.seq ?_)
        refine T.yes rfl (decide_eq_true c15) ?_
        refine T.skip (X.seq (T.seq (T.block (T.seq (T.draw (.q 0 (.q 1 (.q 2 (.q 3 (.q 4 (.q 5 (.q 6 (.q 7 (.q 8 (.q 9 (.q 10 (.q 11 (.q 12 (.q 13 (.q 14 (.q 15 (.q 16 (.q 17 (.q 18 (.q 19 (.q 20 (.q 21 (.e 22 (.q 23 (.q 24 .nil))))))))))))))))))))))))) [0] rfl mix_cursitorref14 (NoP.seq (NoP.blk (NoP.seq (NoP.seq (NoP.blk (NoP.seq np_post)))))) (by kernel_rfl) ?_)))))
        obtain ⟨x16, hx17, h⟩ := Option.bind_eq_some_iff.1 h
        obtain ⟨gz18, oz18, rfl, z18cs, z18cl, z18cc, z18nf, z18r⟩ := RX.elem (by decide) (RX.reads_left hX) hx17
        obtain ⟨z18S, z18r, z18rr⟩ := z18r
        obtain ⟨A19, c20, rfl, z18s0⟩ := z18r
        have hX21 : (RX.of (sliceRd 1 intE) [.slice A19 x16.fParts.length c20] x16.fParts).reads w F := ⟨z18S, z18s0, z18rr⟩
        refine TD.run ft_cursitorref14_ok [0, 1] rfl rfl ?_
        refine TD.q rfl .u (Ex.ixS (k := k7) rfl rfl rfl Try.runUnderlying68 Try.sizeOf162 (List.getElem?_eq_some_iff.1 hx17).1) rfl ?_
        refine TD.run ft_cursitorref14_ok [3] rfl rfl ?_
        refine TD.q rfl .u (Ex.o1 0 rfl Try.isAgg9 z18nf z18cc rfl rfl) rfl ?_
        obtain ⟨x22, hx23, h⟩ := Option.bind_eq_some_iff.1 h
        obtain ⟨gz24, oz24, rfl, z24cs, z24cl, z24cc, z24nf, z24r⟩ := RX.elem (by decide) (RX.reads_right hX) hx23
        obtain ⟨z24S, z24r, z24rr⟩ := z24r
        obtain ⟨A25, c26, rfl, z24s0⟩ := z24r
        have hX27 : (RX.of (sliceRd 1 intE) [.slice A25 x22.fParts.length c26] x22.fParts).reads w F := ⟨z24S, z24s0, z24rr⟩
        refine TD.run ft_cursitorref14_ok [5, 6] rfl rfl ?_
        refine TD.q rfl .u (Ex.ixS (k := k7) rfl rfl rfl Try.runUnderlying68 Try.sizeOf162 (List.getElem?_eq_some_iff.1 hx23).1) rfl ?_
        refine TD.run ft_cursitorref14_ok [8] rfl rfl ?_
        refine TD.q rfl .u (Ex.o1 0 rfl Try.isAgg9 z24nf z24cc rfl rfl) rfl ?_
        refine TD.q rfl .u (Ex.sNe rfl rfl) rfl ?_
        by_cases c28 : x16.fName = x22.fName
        · replace h := ifT c28 h
          refine TD.run ft_cursitorref14_ok [11] rfl rfl ?_
          refine TD.q rfl (.g rfl rfl (bn_f (decide_eq_true c28))) (Ex.ft ft_cursitorref14_ok rfl) rfl ?_
          refine TD.q rfl (.g rfl rfl (bn_f (decide_eq_true c28))) (Ex.ft ft_cursitorref14_ok rfl) rfl ?_
          refine TD.q rfl (.g rfl rfl (bn_f (decide_eq_true c28))) (Ex.ixS (k := k7) rfl rfl rfl Try.runUnderlying68 Try.sizeOf162 (List.getElem?_eq_some_iff.1 hx17).1) rfl ?_
          refine TD.q rfl (.g rfl rfl (bn_f (decide_eq_true c28))) (Ex.ft ft_cursitorref14_ok rfl) rfl ?_
          refine TD.q rfl (.g rfl rfl (bn_f (decide_eq_true c28))) (Ex.o1 1 rfl Try.isAgg160 z18nf z18cc rfl rfl) rfl ?_
          refine TD.q rfl (.g rfl rfl (bn_f (decide_eq_true c28))) (Ex.ft ft_cursitorref14_ok rfl) rfl ?_
          refine TD.q rfl (.g rfl rfl (bn_f (decide_eq_true c28))) (Ex.ft ft_cursitorref14_ok rfl) rfl ?_
          refine TD.q rfl (.g rfl rfl (bn_f (decide_eq_true c28))) (Ex.ixS (k := k7) rfl rfl rfl Try.runUnderlying68 Try.sizeOf162 (List.getElem?_eq_some_iff.1 hx23).1) rfl ?_
          refine TD.q rfl (.g rfl rfl (bn_f (decide_eq_true c28))) (Ex.ft ft_cursitorref14_ok rfl) rfl ?_
          refine TD.q rfl (.g rfl rfl (bn_f (decide_eq_true c28))) (Ex.o1 1 rfl Try.isAgg160 z24nf z24cc rfl rfl) rfl ?_
          obtain ⟨x29, hx30, h⟩ := Option.bind_eq_some_iff.1 h
          refine TD.ce rfl (.g rfl rfl (bn_f (decide_eq_true c28))) (.fn Try.call180 rfl) (f_r01_Same_spec x16.fParts _ _ x22.fParts _ _ _ hx30) (fun _ hs => (RX.reads_and (SrcE.old hs hX21) (SrcE.old hs hX27))) rfl [0] (rfl) ?_
          refine TD.q rfl (.g rfl rfl (bn_f (decide_eq_true c28))) (Ex.ft ft_cursitorref14_ok rfl) rfl ?_
          refine TD.q rfl .u (Ex.pn rfl (bn_f (decide_eq_true c28)) rfl) rfl ?_
          by_cases c31 : x29 = true
          · replace h := ifT c31 h
            refine TD.nil (X.seq ?_)
            refine T.no rfl (bn_f c31) ?_
            refine T.skip (X.blk (X.seq (T.region rfl ?_)))
            replace h := guard_some h
            obtain ⟨c32, h⟩ := h
            refine TL.run ft_cursitorref14_ok [0] rfl rfl ?_
            refine TL.q rfl .u (Ex.add rfl rfl c32) rfl ?_
            refine TL.run ft_cursitorref14_ok [2] rfl rfl ?_
            exact TL.nil (X.back (m' := m11) [0] (by omega) ⟨y6, k7 + 1, rfl, rfl, h⟩ (by rfl) (by rfl))
          · replace h := ifF c31 h
            replace c31 := eq_false_of_ne_true c31
            refine TD.nil (X.seq ?_)
            refine T.yes rfl (bn_t c31) ?_
            refine T.seq (T.region rfl ?_)
            refine TL.run ft_cursitorref14_ok [0] rfl rfl ?_
            obtain rfl := Option.some.inj h
            replace h := hO10
            clear hO10
            try dsimp only at h
            obtain rfl := Option.some.inj h
            exact TL.nil (X.seq (T.ret (X.rb (X.rs (X.rs (X.rb (X.rs (X.done1 [0] Try.results110 (RV.tm rfl) ⟨rfl, rfl, rfl⟩ (by rfl) (.inl rfl)))))))))
        · replace h := ifF c28 h
          refine TD.run ft_cursitorref14_ok [11] rfl rfl ?_
          refine TD.no rfl (.gn rfl rfl (bn_t (decide_eq_false c28))) rfl ?_
          refine TD.no rfl (.gn rfl rfl (bn_t (decide_eq_false c28))) rfl ?_
          refine TD.no rfl (.gn rfl rfl (bn_t (decide_eq_false c28))) rfl ?_
          refine TD.no rfl (.gn rfl rfl (bn_t (decide_eq_false c28))) rfl ?_
          refine TD.no rfl (.gn rfl rfl (bn_t (decide_eq_false c28))) rfl ?_
          refine TD.no rfl (.gn rfl rfl (bn_t (decide_eq_false c28))) rfl ?_
          refine TD.no rfl (.gn rfl rfl (bn_t (decide_eq_false c28))) rfl ?_
          refine TD.no rfl (.gn rfl rfl (bn_t (decide_eq_false c28))) rfl ?_
          refine TD.no rfl (.gn rfl rfl (bn_t (decide_eq_false c28))) rfl ?_
          refine TD.no rfl (.gn rfl rfl (bn_t (decide_eq_false c28))) rfl ?_
          refine TD.noe rfl (.gn rfl rfl (bn_t (decide_eq_false c28))) rfl [0] rfl ?_
          refine TD.no rfl (.gn rfl rfl (bn_t (decide_eq_false c28))) rfl ?_
          refine TD.q rfl .u (Ex.py rfl (bn_t (decide_eq_false c28)) rfl) rfl ?_
          refine TD.nil (X.seq ?_)
          refine T.yes rfl rfl ?_
          refine T.seq (T.region rfl ?_)
          refine TL.run ft_cursitorref14_ok [0] rfl rfl ?_
          obtain rfl := Option.some.inj h
          replace h := hO10
          clear hO10
          try dsimp only at h
          obtain rfl := Option.some.inj h
          exact TL.nil (X.seq (T.ret (X.rb (X.rs (X.rs (X.rb (X.rs (X.done1 [0] Try.results110 (RV.tm rfl) ⟨rfl, rfl, rfl⟩ (by rfl) (.inl rfl)))))))))
      · replace h := ifF c15 h
        refine TL.nil (X.seq ?_)
        refine T.no rfl (decide_eq_false c15) ?_
        obtain rfl := Option.some.inj h
        replace h := hO10
        clear hO10
        try dsimp only at h
        refine T.exit (X.exs (X.exs (X.ex (X.seq (T.seq (T.region rfl ?_))))))
        refine TL.run ft_cursitorref14_ok [0] rfl rfl ?_
        obtain rfl := Option.some.inj h
        exact TL.nil (X.seq (T.ret (X.done1 [0] Try.results110 (RV.tm rfl) ⟨rfl, rfl, rfl⟩ (by rfl) (.inl rfl))))
  · replace h := ifF c5 h
    refine TL.nil (X.seq ?_)
    refine T.yes rfl (bn_t (decide_eq_false c5)) ?_
    refine T.seq (T.region rfl ?_)
    refine TL.run ft_cursitorref14_ok [0] rfl rfl ?_
    obtain rfl := Option.some.inj h
    exact TL.nil (X.seq (T.ret (X.rs (X.done1 [0] Try.results110 (RV.tm rfl) ⟨rfl, rfl, rfl⟩ (by rfl) (.inl rfl)))))
def f_r14_Topics_l2 (x15 : Top) : Nat → List UInt8 → Nat → Option (List UInt8 × Nat)
  | 0, _, _ => none
  | m32 + 1, y27, k28 => if (k28 : Int) < (x15.fParts.length : Int) then ((x15.fParts[k28]?).bind fun x37 => (gRBytes x37 4).bind fun x40 => if y27.length + x40.length ≤ 9223372036854775807 then (if -9223372036854775808 ≤ ((k28 : Int) + 1) ∧ ((k28 : Int) + 1) ≤ 9223372036854775807 then (f_r14_Topics_l2 x15 m32 (y27 ++ x40) (k28 + 1)) else none) else none) else some (y27, k28)
def f_r14_Topics_l1 (a0 : List Top) : Nat → List UInt8 → Nat → Option (List UInt8 × Nat)
  | 0, _, _ => none
  | m10 + 1, y5, k6 => if (k6 : Int) < (a0.length : Int) then ((a0[k6]?).bind fun x15 => (gRBFixed (⟨false, x15.fName⟩ : Bl) 2).bind fun x21 => if y5.length + x21.length ≤ 9223372036854775807 then ((gRBytes (x15.fParts.length : Int) 4).bind fun x24 => if (y5 ++ x21).length + x24.length ≤ 9223372036854775807 then ((f_r14_Topics_l2 x15 (((x15.fParts.length : Int)).toNat + 1) ((y5 ++ x21) ++ x24) 0).bind fun (y45, k46) => if -9223372036854775808 ≤ ((k6 : Int) + 1) ∧ ((k6 : Int) + 1) ≤ 9223372036854775807 then (f_r14_Topics_l1 a0 m10 y45 (k6 + 1)) else none) else none) else none) else some (y5, k6)
def f_r14_Topics (a0 : List Top) : Option (List UInt8) := (gRBytes (a0.length : Int) 4).bind fun x3 => (f_r14_Topics_l1 a0 (((a0.length : Int)).toNat + 1) x3 0).bind fun (y48, k49) => some y48
set_option maxRecDepth 100000 in
set_option maxHeartbeats 4000000 in
theorem f_r14_Topics_spec (a0 : List Top) (A1 : Option Addr) (c2 : Nat) (r : List UInt8) (h : f_r14_Topics a0 = some r) : SpecX Try.prog 112 #[.slice A1 a0.length c2] (RX.of (sliceRd 2 Top_rd) [.slice A1 a0.length c2] a0) (EmpR) (fun v A' N => v = .string (bsOf r) ∧ A' = EmpR ∧ N = []) := by
  refine enterA Try.func112 rfl Try.ntmps112 rfl ?_
  intro F w hX
  unfold f_r14_Topics at h
  refine T.seq (T.region rfl ?_)
  refine TL.run ft_cursitorref14_ok [0] rfl rfl ?_
  refine TL.nil (X.seq (T.seq (T.region rfl ?_)))
  refine TL.run ft_cursitorref14_ok [0] rfl rfl ?_
  refine TL.q rfl .u (Ex.lenS rfl Try.runUnderlying68) rfl ?_
  obtain ⟨x3, hx4, h⟩ := Option.bind_eq_some_iff.1 h
  refine TL.ce rfl .u (.fn Try.call111 rfl) (gRBytes_spec (a0.length : Int) 4 _ hx4) (fun _ hs => (RX.reads_triv _ _)) rfl ?_
  refine TL.run ft_cursitorref14_ok [3] rfl rfl ?_
  refine TL.nil (X.seq (T.seq (T.seq (T.region rfl ?_))))
  refine TL.run ft_cursitorref14_ok [0] rfl rfl ?_
  refine TL.nil (X.seq (T.block ?_))
  obtain ⟨E7, hE8, hO9⟩ := Option.bind_eq_some_iff.1 h
  refine T.lp (fun m e Rs => ∃ (y5 : List UInt8) (k6 : Nat), e = [(0, .slice A1 a0.length c2), (2, .string ⟨#[]⟩), (3, .string (bsOf y5)), (4, .int .i64 (k6 : Int))] ∧ Rs = [EmpR] ∧ f_r14_Topics_l1 a0 m y5 k6 = some E7) (((a0.length : Int)).toNat + 1) [0] ⟨x3, 0, rfl, rfl, by exact hE8⟩ (by rfl) (by rfl) ?_
  rintro m10 _ _ ⟨y5, k6, rfl, rfl, hl12⟩
  clear hE8 h
  cases m10 with
  | zero =>
    rw [f_r14_Topics_l1] at hl12
    cases hl12
  | succ m10 =>
    have h := hl12
    clear hl12
    rw [f_r14_Topics_l1] at h
    refine T.seq (T.seq (T.region rfl ?_))
    refine TL.run ft_cursitorref14_ok [0, 1] rfl rfl ?_
    refine TL.q rfl .u (Ex.lenS rfl Try.runUnderlying68) rfl ?_
    refine TL.run ft_cursitorref14_ok [3] rfl rfl ?_
    by_cases c14 : (k6 : Int) < (a0.length : Int)
    · replace h := ifT c14 h
      refine TL.nil (X.seq ?_)
      refine T.yes rfl (decide_eq_true c14) ?_
      refine T.skip (X.seq (T.seq (T.block (T.seq (T.draw (.q 0 (.q 1 (.q 2 (.q 3 (.q 4 (.q 5 (.q 6 (.q 9 (.q 10 (.q 11 (.q 12 (.q 13 (.q 14 (.e 7 (.q 8 (.e 15 (.q 16 (.q 17 .nil)))))))))))))))))) [0] rfl mix_cursitorref14 (NoP.seq (NoP.blk (NoP.seq (NoP.seq (NoP.blk (NoP.seq np_post)))))) (by kernel_rfl) ?_)))))
      obtain ⟨x15, hx16, h⟩ := Option.bind_eq_some_iff.1 h
      obtain ⟨gz17, oz17, rfl, z17cs, z17cl, z17cc, z17nf, z17r⟩ := RX.elem (by decide) hX hx16
      obtain ⟨z17S, z17r, z17rr⟩ := z17r
      obtain ⟨A18, c19, rfl, z17s0⟩ := z17r
      have hX20 : (RX.of (sliceRd 1 intE) [.slice A18 x15.fParts.length c19] x15.fParts).reads w F := ⟨z17S, z17s0, z17rr⟩
      refine TD.run ft_cursitorref14_ok [0, 1, 2] rfl rfl ?_
      refine TD.q rfl .u (Ex.ixS (k := k6) rfl rfl rfl Try.runUnderlying68 Try.sizeOf162 (List.getElem?_eq_some_iff.1 hx16).1) rfl ?_
      refine TD.run ft_cursitorref14_ok [4] rfl rfl ?_
      refine TD.q rfl .u (Ex.o1 0 rfl Try.isAgg9 z17nf z17cc rfl rfl) rfl ?_
      refine TD.q rfl .u (Ex.bld (cells := #[.bool false, .string (bsOf x15.fName)]) bok_cursitorref14_26 rfl (by kernel_rfl)) rfl ?_
      refine TD.run ft_cursitorref14_ok [9, 10] rfl rfl ?_
      refine TD.q rfl .u (Ex.ixS (k := k6) rfl rfl rfl Try.runUnderlying68 Try.sizeOf162 (List.getElem?_eq_some_iff.1 hx16).1) rfl ?_
      refine TD.run ft_cursitorref14_ok [12] rfl rfl ?_
      refine TD.q rfl .u (Ex.o1 1 rfl Try.isAgg160 z17nf z17cc rfl rfl) rfl ?_
      refine TD.q rfl .u (Ex.lenS rfl Try.runUnderlying160) rfl ?_
      obtain ⟨x21, hx22, h⟩ := Option.bind_eq_some_iff.1 h
      refine TD.ce rfl .u (.fn Try.call122 rfl) (gRBFixed_spec (⟨false, x15.fName⟩ : Bl) 2 _ hx22) (fun _ hs => (RX.reads_triv _ _)) rfl [0] (rfl) ?_
      replace h := guard_some h
      obtain ⟨c23, h⟩ := h
      refine TD.q rfl .u (Ex.sAdd rfl rfl c23) rfl ?_
      obtain ⟨x24, hx25, h⟩ := Option.bind_eq_some_iff.1 h
      refine TD.ce rfl .u (.fn Try.call111 rfl) (gRBytes_spec (x15.fParts.length : Int) 4 _ hx25) (fun _ hs => (RX.reads_triv _ _)) rfl [0] (rfl) ?_
      replace h := guard_some h
      obtain ⟨c26, h⟩ := h
      refine TD.q rfl .u (Ex.sAdd rfl rfl c26) rfl ?_
      refine TD.run ft_cursitorref14_ok [17] rfl rfl ?_
      refine TD.nil (X.seq (T.seq (T.region rfl ?_)))
      refine TL.run ft_cursitorref14_ok [0] rfl rfl ?_
      refine TL.nil (X.seq (T.block ?_))
      obtain ⟨E29, hE30, hO31⟩ := Option.bind_eq_some_iff.1 h
      refine T.lp (fun m e Rs => ∃ (y27 : List UInt8) (k28 : Nat), e = [(0, .slice (some ⟨gz17, oz17, none⟩) a0.length c2), (2, .string ⟨#[]⟩), (3, .string (bsOf y27)), (4, .int .i64 (k6 : Int)), (5, .int .i64 (k28 : Int))] ∧ Rs = [EmpR] ∧ f_r14_Topics_l2 x15 m y27 k28 = some E29) (((x15.fParts.length : Int)).toNat + 1) [0] ⟨((y5 ++ x21) ++ x24), 0, rfl, rfl, by exact hE30⟩ (by rfl) (by rfl) ?_
      rintro m32 _ _ ⟨y27, k28, rfl, rfl, hl34⟩
      clear hE30 h
      cases m32 with
      | zero =>
        rw [f_r14_Topics_l2] at hl34
        cases hl34
      | succ m32 =>
        have h := hl34
        clear hl34
        rw [f_r14_Topics_l2] at h
        refine T.seq (T.seq (T.region rfl ?_))
        refine TL.run ft_cursitorref14_ok [0, 1, 2] rfl rfl ?_
        refine TL.q rfl .u (Ex.ixS (k := k6) rfl rfl rfl Try.runUnderlying68 Try.sizeOf162 (List.getElem?_eq_some_iff.1 hx16).1) rfl ?_
        refine TL.run ft_cursitorref14_ok [4] rfl rfl ?_
        refine TL.q rfl .u (Ex.o1 1 rfl Try.isAgg160 z17nf z17cc rfl rfl) rfl ?_
        refine TL.q rfl .u (Ex.lenS rfl Try.runUnderlying160) rfl ?_
        refine TL.run ft_cursitorref14_ok [7] rfl rfl ?_
        by_cases c36 : (k28 : Int) < (x15.fParts.length : Int)
        · replace h := ifT c36 h
          refine TL.nil (X.seq ?_)
          refine T.yes rfl (decide_eq_true c36) ?_
          refine T.skip (X.seq (T.seq (T.block (T.region rfl ?_))))
          refine TL.run ft_cursitorref14_ok [0, 1, 2] rfl rfl ?_
          refine TL.q rfl .u (Ex.ixS (k := k6) rfl rfl rfl Try.runUnderlying68 Try.sizeOf162 (List.getElem?_eq_some_iff.1 hx16).1) rfl ?_
          refine TL.run ft_cursitorref14_ok [4] rfl rfl ?_
          refine TL.q rfl .u (Ex.o1 1 rfl Try.isAgg160 z17nf z17cc rfl rfl) rfl ?_
          obtain ⟨x37, hx38, h⟩ := Option.bind_eq_some_iff.1 h
          obtain ⟨gz39, oz39, rfl, z39cs, z39cl, z39cc, z39nf, z39r⟩ := RX.elem (by decide) hX20 hx38
          obtain ⟨z39S, z39r, z39rr⟩ := z39r
          obtain rfl : z39cs = [.int .i64 x37] := z39r
          refine TL.run ft_cursitorref14_ok [6] rfl rfl ?_
          refine TL.q rfl .u (Ex.ixS (k := k28) rfl rfl rfl Try.runUnderlying160 Try.sizeOf3 (List.getElem?_eq_some_iff.1 hx38).1) rfl ?_
          refine TL.q rfl .u (Ex.o1 0 rfl Try.isAgg3 z39nf z39cc rfl rfl) rfl ?_
          obtain ⟨x40, hx41, h⟩ := Option.bind_eq_some_iff.1 h
          refine TL.ce rfl .u (.fn Try.call111 rfl) (gRBytes_spec x37 4 _ hx41) (fun _ hs => (RX.reads_triv _ _)) rfl ?_
          replace h := guard_some h
          obtain ⟨c42, h⟩ := h
          refine TL.q rfl .u (Ex.sAdd rfl rfl c42) rfl ?_
          refine TL.run ft_cursitorref14_ok [11] rfl rfl ?_
          refine TL.nil (X.blk (X.seq (T.region rfl ?_)))
          replace h := guard_some h
          obtain ⟨c43, h⟩ := h
          refine TL.run ft_cursitorref14_ok [0] rfl rfl ?_
          refine TL.q rfl .u (Ex.add rfl rfl c43) rfl ?_
          refine TL.run ft_cursitorref14_ok [2] rfl rfl ?_
          exact TL.nil (X.back (m' := m32) [0] (by omega) ⟨(y27 ++ x40), k28 + 1, rfl, rfl, h⟩ (by rfl) (by rfl))
        · replace h := ifF c36 h
          refine TL.nil (X.seq ?_)
          refine T.no rfl (decide_eq_false c36) ?_
          obtain rfl := Option.some.inj h
          replace h := hO31
          clear hO31
          try dsimp only at h
          refine T.exit (X.exs (X.exs (X.ex (X.blk (X.seq (T.region rfl ?_))))))
          replace h := guard_some h
          obtain ⟨c44, h⟩ := h
          refine TL.run ft_cursitorref14_ok [0] rfl rfl ?_
          refine TL.q rfl .u (Ex.add rfl rfl c44) rfl ?_
          refine TL.run ft_cursitorref14_ok [2] rfl rfl ?_
          exact TL.nil (X.back (m' := m10) [0] (by omega) ⟨y27, k6 + 1, rfl, rfl, h⟩ (by rfl) (by rfl))
    · replace h := ifF c14 h
      refine TL.nil (X.seq ?_)
      refine T.no rfl (decide_eq_false c14) ?_
      obtain rfl := Option.some.inj h
      replace h := hO9
      clear hO9
      try dsimp only at h
      refine T.exit (X.exs (X.exs (X.ex (X.seq (T.seq (T.region rfl ?_))))))
      refine TL.run ft_cursitorref14_ok [0, 1] rfl rfl ?_
      obtain rfl := Option.some.inj h
      exact TL.nil (X.seq (T.ret (X.done1 [0] Try.results112 (RV.tm rfl) ⟨rfl, rfl, rfl⟩ (by rfl) (.inl rfl))))
end Go.Proofs.Ytagbblaegdedpaa.Sl
namespace Go.Proofs.Ytagbblaegdedpaa.Sl
open Go.RowKit
set_option linter.unusedVariables false
set_option linter.unusedSimpArgs false
def pTopic : Pr Top := pText.bind fun nm => (pRow 4 4 (pInt 4)).bind fun ps => .ret ⟨nm, ps⟩
def encT (t : Top) : List UInt8 := (be (t.fName.length : Int) 2 ++ t.fName) ++ (be (t.fParts.length : Int) 4 ++ encs (fun n => be n 4) t.fParts)
def okT (t : Top) : Prop := fits (t.fName.length : Int) 2 = true ∧ fits (t.fParts.length : Int) 4 = true ∧ ∀ n, n ∈ t.fParts → fits n 4 = true
theorem Sp_parts : Sp (pRow 4 4 (pInt 4)) (fun l => be (l.length : Int) 4 ++ encs (fun n => be n 4) l) (fun l => fits (l.length : Int) 4 = true ∧ ∀ n, n ∈ l → fits n 4 = true) := Sp_row 4 4 (by decide) (by decide) (Sp_int 4 (by decide) (by decide)) (fun x _ => by rw [be_length]; decide)
theorem Sp_topic : Sp pTopic encT okT := by
  refine ⟨fun s q a r hq h => ?_, fun s t q a hq ha h => ?_⟩
  · obtain ⟨k, q1, h1, h⟩ := Pr.bind_ok h
    obtain ⟨v, q2, h2, h⟩ := Pr.bind_ok h
    injection h with h
    obtain ⟨rfl, rfl⟩ := Prod.mk.inj h
    obtain ⟨a1, a2, a3, a4, a5⟩ := Sp_text.spell _ _ _ _ hq h1
    obtain ⟨b1, b2, b3, b4, b5⟩ := Sp_parts.spell _ _ _ _ a2 h2
    exact ⟨by omega, b2, by simp only [encT, List.length_append] at *; omega, by rw [b4, a4]; simp only [encT, List.append_assoc], a5.1, b5⟩
  · obtain ⟨a1, a2, a3⟩ := ha
    have hl := congrArg List.length h
    rw [encT, List.append_assoc] at h
    have g1 := Sp_text.back _ _ _ _ hq ⟨a1, rfl⟩ h
    have h := drop_step h
    have g2 := Sp_parts.back _ _ _ _ (by simp only [encT, List.length_drop, List.length_append, be_length] at *; omega) ⟨a2, a3⟩ h
    rw [pTopic, Pr.bind_of g1, Pr.bind_of g2]
    simp only [Pr.ret, encT, List.length_append, Nat.add_assoc]
theorem encT_ge (t : Top) (h : okT t) : 6 ≤ (encT t).length := by simp only [encT, List.length_append, be_length]; omega
theorem Sp_topics : Sp (pRow 4 6 pTopic) (fun l => be (l.length : Int) 4 ++ encs encT l) (fun l => fits (l.length : Int) 4 = true ∧ ∀ t, t ∈ l → okT t) := Sp_row 4 6 (by decide) (by decide) Sp_topic encT_ge
theorem topics_l2 (n : Int) (s : List UInt8) (hn : n ≤ 1000000) : ∀ (m fuel k : Nat) (acc : List Int) (q : Nat), ((k + m : Nat) : Int) = n → m < fuel → q + 4 * m ≤ s.length → acc.length = k →
    ∃ l, pRep (pInt 4) m s q = .ok (l, q + 4 * m) ∧ f_value_Topics_l2 n fuel k acc ⟨s.drop q, q, 0⟩ = some (k + m, acc ++ l, ⟨s.drop (q + 4 * m), q + 4 * m, 0⟩)
  | 0, fuel + 1, k, acc, q, h1, h2, h3, h4 => ⟨[], rfl, by rw [f_value_Topics_l2, if_neg (by omega), List.append_nil]; rfl⟩
  | m + 1, fuel + 1, k, acc, q, h1, h2, h3, h4 => by
    rw [f_value_Topics_l2, if_pos (by omega)]
    rcases Q4.run s q (by omega) with ⟨e, st, p1, g1, x1, y1⟩ | ⟨a, r, p1, g1, n1, l1⟩
    · unfold pInt at p1
      rw [if_neg (by omega)] at p1
      exact nomatch p1
    · have hr : r = q + 4 := by
        unfold pInt at p1
        rw [if_neg (by omega)] at p1
        injection p1 with p1
        exact (Prod.mk.inj p1).2.symm
      subst hr
      rw [g1]
      simp only [Option.bind_some]
      rw [if_pos (by omega), if_pos (by omega)]
      obtain ⟨l, e1, e2⟩ := topics_l2 n s hn m fuel (k + 1) (acc ++ [a]) (q + 4) (by omega) (by omega) (by omega) (by rw [List.length_append, h4]; rfl)
      have eq : q + 4 + 4 * m = q + 4 * (m + 1) := by omega
      rw [eq] at e1 e2
      refine ⟨a :: l, ?_, ?_⟩
      · rw [pRep, Pr.bind_of p1, Pr.bind_of e1]
        rfl
      · rw [e2, List.append_assoc]
        rw [show k + 1 + m = k + (m + 1) by omega]
        rfl
theorem topics_l1 (n : Int) (s : List UInt8) (hs : s.length ≤ 1000000) (hn : n ≤ 1000000) : ∀ (m fuel k : Nat) (acc : List Top) (q : Nat), ((k + m : Nat) : Int) = n → m < fuel → q ≤ s.length → acc.length = k →
    (∃ (e : Int) (st : I), pRep pTopic m s q = .error e ∧ f_value_Topics_l1 n fuel [] acc k ⟨s.drop q, q, 0⟩ = some (.ret ([], st)) ∧ st.err = e ∧ st.err ≠ 0) ∨
    (∃ l r, pRep pTopic m s q = .ok (l, r) ∧ f_value_Topics_l1 n fuel [] acc k ⟨s.drop q, q, 0⟩ = some (.go ([], acc ++ l, k + m, ⟨s.drop r, r, 0⟩)) ∧ q ≤ r ∧ r ≤ s.length)
  | 0, fuel + 1, k, acc, q, h1, h2, h3, h4 => .inr ⟨[], q, rfl, by rw [f_value_Topics_l1, if_neg (by omega), List.append_nil]; rfl, Nat.le_refl _, h3⟩
  | m + 1, fuel + 1, k, acc, q, h1, h2, h3, h4 => by
    rw [f_value_Topics_l1, if_pos (by omega)]
    have died : ∀ (st : I) (t : List UInt8), st.err ≠ 0 → ((gCount st 4 4).bind fun (x24, st25) => (f_value_Topics_l2 x24 ((x24).toNat + 1) 0 [] st25).bind fun (k57, y58, st61) => if (acc.length + 1) * 40 ≤ 140737488355328 then ((gErr st61).bind fun (x66, st67) => if x66 = 0 then (if -9223372036854775808 ≤ ((k : Int) + 1) ∧ ((k : Int) + 1) ≤ 9223372036854775807 then (f_value_Topics_l1 n fuel [] (acc ++ [(⟨t, y58⟩ : Top)]) (k + 1) st67) else none) else (some (Lp.ret ([], st67)))) else none) = some (Lp.ret ([], st)) := by
      intro st t h
      rw [gCount_d h (by decide) (by decide)]
      simp only [Option.bind_some]
      rw [show (0 : Int).toNat + 1 = 1 from rfl, f_value_Topics_l2, if_neg (by decide)]
      simp only [Option.bind_some, gErr_eq]
      rw [if_pos (by omega), if_neg h]
    rcases QT.run s q h3 with ⟨e, st, p1, g1, x1, y1⟩ | ⟨nm, q1, p1, g1, n1, l1⟩
    · left
      refine ⟨e, st, by rw [pRep, Pr.bind_err (show pTopic s q = .error e from Pr.bind_err p1)], ?_, x1, y1⟩
      rw [g1]
      simp only [Option.bind_some]
      exact died st [] y1
    rw [g1]
    simp only [Option.bind_some]
    rcases (Q_count 4 4 (by decide) (by decide) 4 4 rfl rfl (by decide)).run s q1 l1 with ⟨e, st, p2, g2, x2, y2⟩ | ⟨c, q2, p2, g2, n2, l2⟩
    · left
      refine ⟨e, st, by rw [pRep, Pr.bind_err]; rw [pTopic, Pr.bind_of p1, Pr.bind_err]; rw [pRow, Pr.bind_err p2], ?_, x2, y2⟩
      have := died st nm y2
      rw [gCount_d y2 (by decide) (by decide)] at this
      rw [g2]
      exact this
    obtain ⟨c1, c2, c3, c4, c5, c6⟩ := pCount_ok (by decide) (by decide) l1 p2
    have c2 := c2 (by decide)
    rw [g2]
    simp only [Option.bind_some]
    obtain ⟨ps, e1, e2⟩ := topics_l2 c s (by omega) c.toNat (c.toNat + 1) 0 [] q2 (by omega) (by omega) (by omega) rfl
    rw [e2]
    simp only [Option.bind_some, gErr_eq, if_true]
    rw [if_pos (by omega), if_pos (by omega), List.nil_append]
    have ht : pTopic s q = .ok (⟨nm, ps⟩, q2 + 4 * c.toNat) := by
      rw [pTopic, Pr.bind_of p1, Pr.bind_of (a := ps) (r := q2 + 4 * c.toNat) (by rw [pRow, Pr.bind_of p2, e1])]
      rfl
    rw [pRep, Pr.bind_of ht]
    rcases topics_l1 n s hs hn m fuel (k + 1) (acc ++ [⟨nm, ps⟩]) (q2 + 4 * c.toNat) (by omega) (by omega) (by omega) (by rw [List.length_append, h4]; rfl) with ⟨e, st, r1, r2, r3, r4⟩ | ⟨l, r, r1, r2, r3, r4⟩
    · exact .inl ⟨e, st, by rw [Pr.bind_err r1], r2, r3, r4⟩
    · refine .inr ⟨⟨nm, ps⟩ :: l, r, by rw [Pr.bind_of r1]; rfl, ?_, by omega, r4⟩
      rw [r2, List.append_assoc, show k + 1 + m = k + (m + 1) by omega]
      rfl
theorem B_topics : CB f_value_Topics (pRow 4 6 pTopic) [] := by
  refine ⟨fun st h => ?_, fun s q hs hq => ?_⟩
  · unfold f_value_Topics
    rw [gCount_d h (by decide) (by decide)]
    simp only [Option.bind_some]
    rw [show (0 : Int).toNat + 1 = 1 from rfl, f_value_Topics_l1, if_neg (by decide)]
    rfl
  · unfold f_value_Topics
    rcases (Q_count 4 6 (by decide) (by decide) 4 6 rfl rfl (by decide)).run s q hq with ⟨e, st, p1, g1, x1, y1⟩ | ⟨c, q1, p1, g1, n1, l1⟩
    · refine .inl ⟨e, st, Pr.bind_err p1, ?_, x1, y1⟩
      rw [g1]
      simp only [Option.bind_some]
      rw [show (0 : Int).toNat + 1 = 1 from rfl, f_value_Topics_l1, if_neg (by decide)]
      rfl
    · obtain ⟨c1, c2, c3, c4, c5, c6⟩ := pCount_ok (by decide) (by decide) hq p1
      have c2 := c2 (by decide)
      rw [g1, pRow, Pr.bind_of p1]
      simp only [Option.bind_some]
      rcases topics_l1 c s hs (by omega) c.toNat (c.toNat + 1) 0 [] q1 (by omega) (by omega) l1 rfl with ⟨e, st, r1, r2, r3, r4⟩ | ⟨l, r, r1, r2, r3, r4⟩
      · exact .inl ⟨e, st, r1, by rw [r2]; rfl, r3, r4⟩
      · refine .inr ⟨l, r, r1, ?_, by omega, r4⟩
        rw [r2, List.nil_append]
        rfl
end Go.Proofs.Ytagbblaegdedpaa.Sl
namespace Go.Proofs.Ytagbblaegdedpaa.Sl
open Go.RowKit
set_option linter.unusedVariables false
set_option linter.unusedSimpArgs false
theorem at_drop {α : Type} {l : List α} {k : Nat} {x : α} {t : List α} (h : l.drop k = x :: t) : l[k]? = some x ∧ l.drop (k + 1) = t ∧ l.length = k + 1 + t.length := by
  have hl := congrArg List.length h
  rw [List.length_drop, List.length_cons] at hl
  refine ⟨?_, ?_, by omega⟩
  · have := congrArg (fun z => z[0]?) h
    simpa using this
  · rw [← List.drop_drop, h]
    rfl
theorem nil_drop {α : Type} {l : List α} {k : Nat} (h : l.drop k = []) : l.length ≤ k := List.drop_eq_nil_iff.1 h
def up {α : Type} (lt : α → α → Bool) : Option α → List α → Bool
  | _, [] => true
  | none, x :: t => up lt (some x) t
  | some p, x :: t => lt p x && up lt (some x) t
def ltI (a b : Int) : Bool := decide (a < b)
theorem rint_loop (a0 : List Int) (hb : a0.length ≤ 140737488355328) : ∀ (t : List Int) (p : Int) (k fuel : Nat) (y : Bool), a0.drop k = p :: t → t.length < fuel → ∃ z, f_value_risingint_l1 a0 fuel y ((k : Int) + 1) = some (if up ltI (some p) t = true then .go (y, z) else .ret false)
  | [], p, k, fuel + 1, y, h, hf => by
    obtain ⟨h1, h2, h3⟩ := at_drop h
    refine ⟨(k : Int) + 1, ?_⟩
    rw [f_value_risingint_l1, if_neg (by simp only [List.length_nil] at h3; omega)]
    rfl
  | x :: t, p, k, fuel + 1, y, h, hf => by
    obtain ⟨h1, h2, h3⟩ := at_drop h
    obtain ⟨g1, g2, g3⟩ := at_drop h2
    rw [List.length_cons] at hf h3
    obtain ⟨z, hz⟩ := rint_loop a0 hb t x (k + 1) fuel y h2 (by omega)
    rw [f_value_risingint_l1, if_pos (by omega), if_pos (by omega), if_pos (by omega), show ((k : Int) + 1 - 1).toNat = k by omega, h1]
    rw [Option.bind_some]
    rw [if_pos (by omega), show ((k : Int) + 1).toNat = k + 1 by omega, g1]
    rw [Option.bind_some]
    by_cases hc : p < x
    · rw [if_neg (by omega), if_pos (by omega)]
      refine ⟨z, ?_⟩
      rw [show ((k : Int) + 1 + 1) = ((k + 1 : Nat) : Int) + 1 by omega, hz]
      simp only [up, ltI, hc, decide_true, Bool.true_and]
    · rw [if_pos (by omega)]
      refine ⟨0, ?_⟩
      simp only [up, ltI, hc, decide_false, Bool.false_and, Bool.false_eq_true, if_false]
theorem rint_eq (a0 : List Int) (hb : a0.length ≤ 140737488355328) : f_value_risingint a0 = some (up ltI none a0) := by
  unfold f_value_risingint
  cases a0 with
  | nil => rfl
  | cons x t =>
    obtain ⟨z, hz⟩ := rint_loop (x :: t) hb t x 0 ((((x :: t).length : Int) - 1).toNat + 1) false rfl (by simp only [List.length_cons]; omega)
    rw [show (((0 : Nat) : Int) + 1) = 1 from rfl] at hz
    rw [hz]
    simp only [up]
    cases up ltI (some x) t <;> rfl
theorem rstr_loop (a0 : List (List UInt8)) (hb : a0.length ≤ 140737488355328) : ∀ (t : List (List UInt8)) (p : List UInt8) (k fuel : Nat) (y : Bool), a0.drop k = p :: t → t.length < fuel → ∃ z, f_value_risingstring_l1 a0 fuel y ((k : Int) + 1) = some (if up Op.bytesLess (some p) t = true then .go (y, z) else .ret false)
  | [], p, k, fuel + 1, y, h, hf => by
    obtain ⟨h1, h2, h3⟩ := at_drop h
    refine ⟨(k : Int) + 1, ?_⟩
    rw [f_value_risingstring_l1, if_neg (by simp only [List.length_nil] at h3; omega)]
    rfl
  | x :: t, p, k, fuel + 1, y, h, hf => by
    obtain ⟨h1, h2, h3⟩ := at_drop h
    obtain ⟨g1, g2, g3⟩ := at_drop h2
    rw [List.length_cons] at hf h3
    obtain ⟨z, hz⟩ := rstr_loop a0 hb t x (k + 1) fuel y h2 (by omega)
    rw [f_value_risingstring_l1, if_pos (by omega), if_pos (by omega), if_pos (by omega), show ((k : Int) + 1 - 1).toNat = k by omega, h1]
    simp only [Option.bind_some]
    rw [if_pos (by omega), show ((k : Int) + 1).toNat = k + 1 by omega, g1]
    simp only [Option.bind_some]
    by_cases hc : Op.bytesLess p x = true
    · rw [if_pos hc, if_pos (by omega)]
      refine ⟨z, ?_⟩
      rw [show ((k : Int) + 1 + 1) = ((k + 1 : Nat) : Int) + 1 by omega, hz]
      simp only [up, hc, Bool.true_and]
    · rw [if_neg hc]
      refine ⟨0, ?_⟩
      simp only [up, hc, Bool.false_and, Bool.false_eq_true, if_false]
theorem rstr_eq (a0 : List (List UInt8)) (hb : a0.length ≤ 140737488355328) : f_value_risingstring a0 = some (up Op.bytesLess none a0) := by
  unfold f_value_risingstring
  cases a0 with
  | nil => rfl
  | cons x t =>
    obtain ⟨z, hz⟩ := rstr_loop (x :: t) hb t x 0 ((((x :: t).length : Int) - 1).toNat + 1) false rfl (by simp only [List.length_cons]; omega)
    rw [show (((0 : Nat) : Int) + 1) = 1 from rfl] at hz
    rw [hz]
    simp only [up]
    cases up Op.bytesLess (some x) t <;> rfl
def okn (n : Int) : Bool := decide (0 ≤ n) && decide (n ≤ 2147483647)
def okps (l : List Int) : Bool := l.all okn && up ltI none l && !l.isEmpty
def oktB (t : Top) : Bool := !t.fName.isEmpty && decide (t.fName.length ≤ 32767) && okps t.fParts
def okts (l : List Top) : Bool := l.all oktB && up Op.bytesLess none (l.map (·.fName))
theorem parts_loop (y : Bool) : ∀ l : List Int, (∀ n, n ∈ l → wI n) → f_value_parts_l1 l y = some (if l.all okn = true then .go y else .ret false)
  | [], h => rfl
  | n :: l, h => by
    have hn := h n (.head _)
    rw [f_value_parts_l1, gFits_eq _ _ hn, fits_4, List.all_cons]
    by_cases h1 : n < 0
    · have : okn n = false := by unfold okn; simp; omega
      rw [if_pos h1, this]
      rfl
    · rw [if_neg h1, Option.bind_some]
      by_cases h2 : n ≤ 2147483647
      · have : okn n = true := by unfold okn; simp; omega
        rw [if_pos (by simp; omega), parts_loop y l (fun m hm => h m (.tail _ hm)), this, Bool.true_and]
      · have : okn n = false := by unfold okn; simp; omega
        rw [if_neg (by simp; omega), this]
        rfl
theorem parts_eq (l : List Int) (hw : wL wI l) : f_value_parts l = some (okps l) := by
  unfold f_value_parts okps
  rw [parts_loop false l hw.2]
  cases hall : l.all okn with
  | false => rfl
  | true =>
    simp only [if_true, Option.bind_some, Bool.true_and]
    cases l with
    | nil => rfl
    | cons x t =>
      rw [if_pos (by simp only [List.length_cons]; omega), rint_eq _ (by have := hw.1; omega)]
      simp
theorem vtopics_loop (y : Bool) : ∀ (l : List Top) (acc : List (List UInt8)), (∀ t, t ∈ l → wf_Top t) → acc.length + l.length ≤ 1000000 → f_value_topics_l1 l y acc = some (if l.all oktB = true then .go (y, acc ++ l.map (·.fName)) else .ret false)
  | [], acc, h, hl => by simp [f_value_topics_l1]
  | t :: l, acc, h, hl => by
    have ht := h t (.head _)
    rw [List.length_cons] at hl
    rw [f_value_topics_l1, parts_eq _ ht.2, List.all_cons]
    by_cases h1 : t.fName = []
    · have : oktB t = false := by simp [oktB, h1]
      rw [if_pos h1, this]
      rfl
    · rw [if_neg h1]
      by_cases h2 : (t.fName.length : Int) > 32767
      · have : oktB t = false := by simp [oktB, show ¬ t.fName.length ≤ 32767 by omega]
        rw [if_pos h2, this]
        rfl
      · rw [if_neg h2, Option.bind_some]
        have hne : t.fName.isEmpty = false := by cases hh : t.fName with | nil => exact absurd hh h1 | cons c u => rfl
        have ho : oktB t = okps t.fParts := by simp [oktB, hne, show t.fName.length ≤ 32767 by omega]
        rw [ho]
        cases hp : okps t.fParts with
        | false => rfl
        | true =>
          rw [if_pos rfl, if_pos (by omega), vtopics_loop y l _ (fun u hu => h u (.tail _ hu)) (by rw [List.length_append]; simp only [List.length_cons, List.length_nil]; omega), Bool.true_and, List.map_cons, List.append_assoc]
          rfl
theorem vtopics_eq (l : List Top) (hw : ∀ t, t ∈ l → wf_Top t) (hl : l.length ≤ 1000000) : f_value_topics l = some (okts l) := by
  unfold f_value_topics okts
  rw [vtopics_loop false l [] hw (by simpa using hl)]
  cases hall : l.all oktB with
  | false => rfl
  | true =>
    simp only [if_true, Option.bind_some, Bool.true_and, List.nil_append]
    rw [rstr_eq _ (by rw [List.length_map]; omega)]
    rfl
theorem less_loop (a b : List UInt8) (ha : a.length ≤ 1000000) (y : Bool) : ∀ (u v : List UInt8) (k fuel : Nat), a.drop k = u → b.drop k = v → v.length < fuel → k ≤ a.length → k ≤ b.length → (∃ r, f_r14_less_l1 a b fuel y k = some (.ret r) ∧ r = Op.bytesLess u v) ∨ (∃ z, f_r14_less_l1 a b fuel y k = some (.go z) ∧ Op.bytesLess u v = decide (a.length < b.length))
  | [], v, k, fuel + 1, hu, hv, hf, h1, h2 => by
    have := nil_drop hu
    right
    refine ⟨(y, k), by rw [f_r14_less_l1, if_neg (by omega)], ?_⟩
    cases v with
    | nil =>
      have := nil_drop hv
      simp [Op.bytesLess]
      omega
    | cons c v =>
      have := (at_drop hv).2.2
      simp [Op.bytesLess]
      omega
  | c :: u, [], k, fuel + 1, hu, hv, hf, h1, h2 => by
    have g1 := nil_drop hv
    have g2 := (at_drop hu).2.2
    right
    refine ⟨(y, k), by rw [f_r14_less_l1, if_pos (by omega), if_neg (by omega)], ?_⟩
    simp [Op.bytesLess]
    omega
  | c :: u, d :: v, k, fuel + 1, hu, hv, hf, h1, h2 => by
    obtain ⟨u1, u2, u3⟩ := at_drop hu
    obtain ⟨v1, v2, v3⟩ := at_drop hv
    rw [List.length_cons] at hf
    rw [f_r14_less_l1, if_pos (by omega), if_pos (by omega), u1, v1]
    simp only [Option.bind_some]
    by_cases hc : (c.toNat : Int) = (d.toNat : Int)
    · have hcd : c = d := UInt8.toNat_inj.1 (by omega)
      rw [if_pos hc, if_pos (by omega)]
      have := less_loop a b ha y u v (k + 1) fuel u2 v2 (by omega) (by omega) (by omega)
      have hb : Op.bytesLess (c :: u) (d :: v) = Op.bytesLess u v := by
        rw [hcd]
        simp [Op.bytesLess]
      rw [hb]
      exact this
    · rw [if_neg hc]
      left
      have hcd : c ≠ d := fun h => hc (by rw [h])
      by_cases hl : (c.toNat : Int) < (d.toNat : Int)
      · refine ⟨true, by rw [if_pos hl], ?_⟩
        have : c < d := UInt8.lt_iff_toNat_lt.2 (by omega)
        simp [Op.bytesLess, this]
      · refine ⟨false, by rw [if_neg hl], ?_⟩
        have : ¬ c < d := fun h => hl (by have := UInt8.lt_iff_toNat_lt.1 h; omega)
        simp [Op.bytesLess, this, hcd]
theorem less_eq (a b : List UInt8) (ha : a.length ≤ 1000000) : f_r14_less a b = some (Op.bytesLess a b) := by
  unfold f_r14_less
  rcases less_loop a b ha false a b 0 (((b.length : Int)).toNat + 1) rfl rfl (by omega) (Nat.zero_le _) (Nat.zero_le _) with ⟨r, h1, h2⟩ | ⟨z, h1, h2⟩
  · rw [show ((0 : Nat)) = 0 from rfl] at h1
    rw [h1, h2]
    rfl
  · rw [h1, h2]
    simp only [Option.bind_some]
    by_cases h : a.length < b.length
    · rw [if_pos (by omega)]
      simp [h]
    · rw [if_neg (by omega)]
      simp [h]
theorem rise_l3 (x : Top) : ∀ (fuel : Nat) (y : Bool) (k : Nat), f_r14_Rise_l3 x fuel y k = f_r14_Rise_l2 x fuel y k
  | 0, y, k => rfl
  | fuel + 1, y, k => by
    rw [f_r14_Rise_l3, f_r14_Rise_l2]
    simp only [rise_l3 x fuel]
theorem rise_l2 (x : Top) (hb : x.fParts.length ≤ 1000000) (y : Bool) : ∀ (t : List Int) (p : Option Int) (k fuel : Nat), x.fParts.drop k = t → t.length < fuel → (k = 0 → p = none) → (0 < k → x.fParts[k - 1]? = p ∧ p ≠ none) → ∃ z, f_r14_Rise_l2 x fuel y k = some (if (t.all okn && up ltI p t) = true then .go (y, z) else .ret false)
  | [], p, k, fuel + 1, h, hf, h0, h1 => by
    have := nil_drop h
    refine ⟨k, ?_⟩
    rw [f_r14_Rise_l2, if_neg (by omega)]
    cases p <;> rfl
  | n :: t, p, k, fuel + 1, h, hf, h0, h1 => by
    obtain ⟨g1, g2, g3⟩ := at_drop h
    rw [List.length_cons] at hf
    obtain ⟨z, hz⟩ := rise_l2 x hb y t (some n) (k + 1) fuel g2 (by omega) (fun h => absurd h (by omega)) (fun _ => ⟨g1, by simp⟩)
    rw [f_r14_Rise_l2, if_pos (by omega), g1]
    simp only [Option.bind_some]
    rw [List.all_cons]
    by_cases c1 : n < 0
    · refine ⟨0, ?_⟩
      rw [if_pos c1, if_neg]
      simp only [okn, Bool.and_eq_true, decide_eq_true_eq]
      omega
    by_cases c2 : n > 2147483647
    · refine ⟨0, ?_⟩
      rw [if_neg c1, if_pos c2, if_neg]
      simp only [okn, Bool.and_eq_true, decide_eq_true_eq]
      omega
    rw [if_neg c1, if_neg c2]
    have ho : okn n = true := by simp only [okn, Bool.and_eq_true, decide_eq_true_eq]; omega
    rcases Nat.eq_zero_or_pos k with hk | hk
    · obtain rfl := h0 hk
      refine ⟨z, ?_⟩
      rw [if_neg (by omega), if_pos (by omega), hz, ho, Bool.true_and, show up ltI none (n :: t) = up ltI (some n) t from rfl]
    · obtain ⟨e1, e2⟩ := h1 hk
      rw [if_pos (by omega), if_pos (by omega), if_pos (by omega), show ((k : Int) - 1).toNat = k - 1 by omega, e1]
      cases p with
      | none => exact absurd rfl e2
      | some q =>
        simp only [Option.bind_some]
        by_cases hc : q < n
        · refine ⟨z, ?_⟩
          rw [if_neg (by omega), if_pos (by omega), hz, ho, Bool.true_and]
          simp only [up, ltI, hc, decide_true, Bool.true_and]
        · refine ⟨0, ?_⟩
          rw [if_pos (by omega), if_neg]
          simp only [up, ltI, hc, decide_false, Bool.false_and, Bool.and_false, Bool.false_eq_true, not_false_eq_true]
theorem rise_l1 (a0 : List Top) (hb : a0.length ≤ 1000000) (hw : ∀ t, t ∈ a0 → t.fParts.length ≤ 1000000 ∧ t.fName.length ≤ 1000000) (y : Bool) : ∀ (t : List Top) (p : Option Top) (k fuel : Nat), a0.drop k = t → t.length < fuel → (k = 0 → p = none) → (0 < k → a0[k - 1]? = p ∧ p ≠ none) → ∃ z, f_r14_Rise_l1 a0 fuel y k = some (if (t.all oktB && up Op.bytesLess (p.map (·.fName)) (t.map (·.fName))) = true then .go (y, z) else .ret false)
  | [], p, k, fuel + 1, h, hf, h0, h1 => by
    have := nil_drop h
    refine ⟨k, ?_⟩
    rw [f_r14_Rise_l1, if_neg (by omega)]
    cases p <;> rfl
  | x :: t, p, k, fuel + 1, h, hf, h0, h1 => by
    obtain ⟨g1, g2, g3⟩ := at_drop h
    have hx := hw x (List.mem_of_getElem? g1)
    rw [List.length_cons] at hf
    obtain ⟨z, hz⟩ := rise_l1 a0 hb hw y t (some x) (k + 1) fuel g2 (by omega) (fun h => absurd h (by omega)) (fun _ => ⟨g1, by simp⟩)
    rw [f_r14_Rise_l1, if_pos (by omega), g1, Option.bind_some]
    rw [List.all_cons, List.map_cons]
    by_cases c1 : (x.fName.length : Int) < 1
    · refine ⟨0, ?_⟩
      have : x.fName = [] := List.length_eq_zero_iff.1 (by omega)
      rw [if_pos c1, if_neg]
      simp [oktB, this]
    by_cases c2 : (x.fName.length : Int) > 32767
    · refine ⟨0, ?_⟩
      rw [if_neg c1, if_pos c2, if_neg]
      simp [oktB, show ¬ x.fName.length ≤ 32767 by omega]
    by_cases c3 : (x.fParts.length : Int) < 1
    · refine ⟨0, ?_⟩
      have : x.fParts = [] := List.length_eq_zero_iff.1 (by omega)
      rw [if_neg c1, if_neg c2, if_pos c3, if_neg]
      simp [oktB, okps, this]
    rw [if_neg c1, if_neg c2, if_neg c3]
    have hne : x.fName.isEmpty = false := by cases hh : x.fName with | nil => rw [hh] at c1; simp at c1 | cons c u => rfl
    have hnp : x.fParts.isEmpty = false := by cases hh : x.fParts with | nil => rw [hh] at c3; simp at c3 | cons c u => rfl
    have ho : oktB x = (x.fParts.all okn && up ltI none x.fParts) := by
      simp [oktB, okps, hne, hnp, show x.fName.length ≤ 32767 by omega]
    obtain ⟨z2, hz2⟩ := rise_l2 x hx.1 y x.fParts none 0 (((x.fParts.length : Int)).toNat + 1) rfl (by omega) (fun _ => rfl) (fun h => absurd h (by omega))
    rw [ho]
    rcases Nat.eq_zero_or_pos k with hk | hk
    · obtain rfl := h0 hk
      rw [if_neg (by omega), rise_l3, hz2]
      cases hq : (x.fParts.all okn && up ltI none x.fParts) with
      | false => exact ⟨0, by simp⟩
      | true =>
        refine ⟨z, ?_⟩
        rw [if_pos rfl, Option.bind_some, Bool.true_and]
        simp only
        rw [if_pos (by omega), hz, show (none : Option Top).map (·.fName) = none from rfl, show up Op.bytesLess none (x.fName :: t.map (·.fName)) = up Op.bytesLess (some x.fName) (t.map (·.fName)) from rfl]
        rfl
    · obtain ⟨e1, e2⟩ := h1 hk
      rw [if_pos (by omega), if_pos (by omega), if_pos (by omega), show ((k : Int) - 1).toNat = k - 1 by omega, e1]
      cases p with
      | none => exact absurd rfl e2
      | some q =>
        rw [Option.bind_some]
        rw [less_eq _ _ (hw q (List.mem_of_getElem? e1)).2]
        rw [Option.bind_some, show (some q).map (·.fName) = some q.fName from rfl, show up Op.bytesLess (some q.fName) (x.fName :: t.map (·.fName)) = (Op.bytesLess q.fName x.fName && up Op.bytesLess (some x.fName) (t.map (·.fName))) from rfl]
        cases hc : Op.bytesLess q.fName x.fName with
        | false => exact ⟨0, by simp⟩
        | true =>
          rw [if_pos rfl, hz2]
          cases hq : (x.fParts.all okn && up ltI none x.fParts) with
          | false => exact ⟨0, by simp⟩
          | true =>
            refine ⟨z, ?_⟩
            rw [if_pos rfl, Option.bind_some, Bool.true_and]
            simp only
            rw [if_pos (by omega), hz]
            rfl
theorem rise_eq (a0 : List Top) (hb : a0.length ≤ 1000000) (hw : ∀ t, t ∈ a0 → t.fParts.length ≤ 1000000 ∧ t.fName.length ≤ 1000000) : f_r14_Rise a0 = some (okts a0) := by
  unfold f_r14_Rise okts
  obtain ⟨z, hz⟩ := rise_l1 a0 hb hw false a0 none 0 (((a0.length : Int)).toNat + 1) rfl (by omega) (fun _ => rfl) (fun h => absurd h (by omega))
  rw [show (none : Option Top).map (·.fName) = none from rfl] at hz
  rw [hz]
  cases (a0.all oktB && up Op.bytesLess none (a0.map (·.fName))) <;> rfl
end Go.Proofs.Ytagbblaegdedpaa.Sl
namespace Go.Proofs.Ytagbblaegdedpaa.Sl
open Go.RowKit
set_option linter.unusedVariables false
set_option linter.unusedSimpArgs false
theorem same_loop (a b : List Int) (ha : a.length ≤ 140737488355328) (y : Bool) : ∀ (t u : List Int) (k fuel : Nat), a.drop k = t → b.drop k = u → t.length = u.length → t.length < fuel → ∃ z, f_r01_Same_l1 a b fuel y k = some (if t = u then .go (y, z) else .ret false)
  | [], [], k, fuel + 1, ht, hu, hl, hf => by
    have := nil_drop ht
    exact ⟨k, by rw [f_r01_Same_l1, if_neg (by omega), if_pos rfl]⟩
  | [], d :: u, k, fuel, ht, hu, hl, hf => by simp at hl
  | c :: t, [], k, fuel, ht, hu, hl, hf => by simp at hl
  | c :: t, d :: u, k, fuel + 1, ht, hu, hl, hf => by
    obtain ⟨t1, t2, t3⟩ := at_drop ht
    obtain ⟨u1, u2, u3⟩ := at_drop hu
    simp only [List.length_cons] at hl hf
    obtain ⟨z, hz⟩ := same_loop a b ha y t u (k + 1) fuel t2 u2 (by omega) (by omega)
    rw [f_r01_Same_l1, if_pos (by omega), t1, Option.bind_some, u1, Option.bind_some]
    by_cases hc : c = d
    · rw [if_pos hc, if_pos (by omega), hz]
      subst hc
      refine ⟨z, ?_⟩
      by_cases h : t = u
      · rw [if_pos h, if_pos (by rw [h])]
      · rw [if_neg h, if_neg (by simpa using h)]
    · rw [if_neg hc]
      exact ⟨0, by rw [if_neg (fun h => hc (List.cons.inj h).1)]⟩
theorem same_eq (a b : List Int) (ha : a.length ≤ 140737488355328) : f_r01_Same a b = some (decide (a = b)) := by
  unfold f_r01_Same
  by_cases hl : (a.length : Int) = (b.length : Int)
  · rw [if_pos hl]
    obtain ⟨z, hz⟩ := same_loop a b ha false a b 0 (((a.length : Int)).toNat + 1) rfl rfl (by omega) (by omega)
    rw [hz]
    by_cases h : a = b
    · rw [if_pos h, decide_eq_true h]
      rfl
    · rw [if_neg h, decide_eq_false h]
      rfl
  · rw [if_neg hl, decide_eq_false (fun h => hl (by rw [h]))]
def sameT (a b : Top) : Bool := decide (a.fName = b.fName) && decide (a.fParts = b.fParts)
def sameTs : List Top → List Top → Bool
  | [], [] => true
  | a :: l, b :: m => sameT a b && sameTs l m
  | _, _ => false
theorem sameT_refl (a : Top) : sameT a a = true := by simp [sameT]
theorem sameTs_refl : ∀ l : List Top, sameTs l l = true
  | [] => rfl
  | a :: l => by rw [sameTs, sameT_refl, sameTs_refl l]; rfl
theorem sameTs_len : ∀ (l m : List Top), sameTs l m = true → l.length = m.length
  | [], [], h => rfl
  | [], b :: m, h => nomatch h
  | a :: l, [], h => nomatch h
  | a :: l, b :: m, h => by
    rw [sameTs, Bool.and_eq_true] at h
    rw [List.length_cons, List.length_cons, sameTs_len l m h.2]
theorem rsame_loop (a0 a1 : List Top) (h0 : a0.length ≤ 1000000) (y : Bool) : ∀ (l u : List Top) (k fuel : Nat), (∀ t, t ∈ l → t.fParts.length ≤ 140737488355328) → a0.drop k = l → a1.drop k = u → l.length = u.length → l.length < fuel → ∃ z, f_r14_SameTopics_l1 a0 a1 fuel y k = some (if sameTs l u = true then .go (y, z) else .ret false)
  | [], [], k, fuel + 1, hw, ht, hu, hl, hf => by
    have := nil_drop ht
    exact ⟨k, by rw [f_r14_SameTopics_l1, if_neg (by omega)]; rfl⟩
  | [], d :: u, k, fuel, hw, ht, hu, hl, hf => by simp at hl
  | c :: l, [], k, fuel, hw, ht, hu, hl, hf => by simp at hl
  | c :: l, d :: u, k, fuel + 1, hw, ht, hu, hl, hf => by
    obtain ⟨t1, t2, t3⟩ := at_drop ht
    obtain ⟨u1, u2, u3⟩ := at_drop hu
    simp only [List.length_cons] at hl hf
    obtain ⟨z, hz⟩ := rsame_loop a0 a1 h0 y l u (k + 1) fuel (fun t ht => hw t (.tail _ ht)) t2 u2 (by omega) (by omega)
    rw [f_r14_SameTopics_l1, if_pos (by omega), t1, Option.bind_some, u1, Option.bind_some, sameTs, sameT, same_eq _ _ (hw c (.head _))]
    by_cases hc : c.fName = d.fName
    · rw [if_pos hc, decide_eq_true hc, Option.bind_some, Bool.true_and]
      cases decide (c.fParts = d.fParts) with
      | false => exact ⟨0, rfl⟩
      | true =>
        rw [if_pos rfl, if_pos (by omega), Bool.true_and]
        exact ⟨z, hz⟩
    · rw [if_neg hc, decide_eq_false hc]
      exact ⟨0, rfl⟩
theorem rsame_eq (a b : List Top) (h0 : a.length ≤ 1000000) (ha : ∀ t, t ∈ a → t.fParts.length ≤ 140737488355328) : f_r14_SameTopics a b = some (sameTs a b) := by
  unfold f_r14_SameTopics
  by_cases hl : (a.length : Int) = (b.length : Int)
  · obtain ⟨z, hz⟩ := rsame_loop a b h0 false a b 0 (((a.length : Int)).toNat + 1) ha rfl rfl (by omega) (by omega)
    rw [if_pos hl, hz]
    cases sameTs a b <;> rfl
  · rw [if_neg hl]
    have : sameTs a b = false := by
      cases h : sameTs a b with
      | false => rfl
      | true => exact absurd (congrArg Int.ofNat (sameTs_len a b h)) hl
    rw [this]
def wT (t : Top) : Nat := t.fName.length + 4 * t.fParts.length + 6
def wTs : List Top → Nat
  | [] => 0
  | t :: l => wT t + wTs l
theorem few_loop (y : Int) : ∀ (l : List Top) (acc : Int), (∀ t, t ∈ l → wf_Top t) → 0 ≤ acc → acc ≤ 1000 → (f_l14_Few_l1 l y acc = some (.ret 0)) ∨ (∃ z, f_l14_Few_l1 l y acc = some (.go z) ∧ acc + wTs l ≤ 1000)
  | [], acc, hw, h0, h1 => .inr ⟨_, rfl, by simp [wTs]; omega⟩
  | t :: l, acc, hw, h0, h1 => by
    have ht := hw t (.head _)
    have ht1 : t.fName.length ≤ 140737488351232 := ht.1
    have ht2 : t.fParts.length ≤ 140737488351232 := ht.2.1
    rw [f_l14_Few_l1, if_pos (by omega), if_pos (by omega), if_pos (by omega), if_pos (by omega)]
    by_cases hc : (acc + (((t.fName.length : Int) + (4 * (t.fParts.length : Int))) + 6)) > 1000
    · rw [if_pos hc]
      exact .inl rfl
    · rw [if_neg hc]
      rcases few_loop y l _ (fun u hu => hw u (.tail _ hu)) (by omega) (show acc + (((t.fName.length : Int) + (4 * (t.fParts.length : Int))) + 6) ≤ 1000 by omega) with h | ⟨z, h, h2⟩
      · exact .inl h
      · exact .inr ⟨z, h, by simp only [wTs, wT]; omega⟩
theorem few_eq (l : List Top) (hw : ∀ t, t ∈ l → wf_Top t) : (f_l14_Few l = some 0) ∨ (f_l14_Few l = some 1 ∧ wTs l ≤ 1000) := by
  unfold f_l14_Few
  rcases few_loop 0 l 0 hw (by decide) (by decide) with h | ⟨z, h, h2⟩
  · exact .inl (by rw [h]; rfl)
  · exact .inr ⟨by rw [h]; rfl, by omega⟩
theorem wTs_len : ∀ l : List Top, l.length * 6 ≤ wTs l
  | [] => by simp [wTs]
  | t :: l => by have := wTs_len l; simp only [wTs, wT, List.length_cons]; omega
theorem wTs_mem : ∀ (l : List Top) (t : Top), t ∈ l → wT t ≤ wTs l
  | u :: l, t, h => by
    rcases List.mem_cons.1 h with rfl | h
    · simp only [wTs]; omega
    · have := wTs_mem l t h; simp only [wTs]; omega
theorem encs_len4 : ∀ l : List Int, (encs (fun n => be n 4) l).length = 4 * l.length
  | [] => rfl
  | n :: l => by rw [encs, List.length_append, be_length, encs_len4 l, List.length_cons]; omega
theorem encT_len (t : Top) : (encT t).length = wT t := by
  simp only [encT, List.length_append, be_length, encs_len4, wT]
  omega
theorem encTs_len : ∀ l : List Top, (encs encT l).length = wTs l
  | [] => rfl
  | t :: l => by rw [encs, List.length_append, encT_len, encTs_len l, wTs]
theorem put_l2 : ∀ (l : List Int) (t : List UInt8), (∀ n, n ∈ l → fits n 4 = true) → t.length + 4 * l.length ≤ 1000000000 → f_value_PutTopics_l2 l (t, 0) = some (t ++ encs (fun n => be n 4) l, 0)
  | [], t, h, hl => by rw [f_value_PutTopics_l2, encs, List.append_nil]
  | n :: l, t, h, hl => by
    rw [List.length_cons] at hl
    rw [f_value_PutTopics_l2, gOInt_z (h n (.head _)) (by omega), Option.bind_some, put_l2 l _ (fun m hm => h m (.tail _ hm)) (by rw [List.length_append, be_length]; show t.length + 4 + 4 * l.length ≤ _; omega), encs, List.append_assoc]
    rfl
theorem gPutText_z {t d : List UInt8} (hf : d.length ≤ 32767) (ht : t.length ≤ 1000000000) : gPutText (t, 0) d = some (t ++ (be (d.length : Int) 2 ++ d), 0) := by
  rw [gPutText_eq _ _ (by simp only; omega)]
  have := gPutFixed_z (t := t) (b := ⟨false, d⟩) (k := 2) (fits_small (.inl rfl) (show -32768 ≤ (d.length : Int) by omega) (show (d.length : Int) ≤ 32767 by omega)) rfl (by simp only; omega)
  rw [gPutFixed_eq _ _ _ ⟨by decide, by simp only; omega⟩] at this
  exact this
theorem put_l1 : ∀ (l : List Top) (t : List UInt8), (∀ x, x ∈ l → okT x) → t.length + wTs l ≤ 1000000 → wTs l ≤ 2000 → f_value_PutTopics_l1 l (t, 0) = some (t ++ encs encT l, 0)
  | [], t, h, hl, hw => by rw [f_value_PutTopics_l1, encs, List.append_nil]
  | x :: l, t, h, hl, hw => by
    obtain ⟨h1, h2, h3⟩ := h x (.head _)
    simp only [wTs, wT] at hl hw
    rw [f_value_PutTopics_l1, gPutText_z (by omega) (by omega), Option.bind_some, gOInt_z h2 (by simp only [List.length_append, be_length]; omega), Option.bind_some, put_l2 _ _ h3 (by simp only [List.length_append, be_length]; show _ + (4 : Int).toNat + _ ≤ _; omega), Option.bind_some, put_l1 l _ (fun y hy => h y (.tail _ hy)) (by simp only [List.length_append, be_length, encs_len4]; show _ + (4 : Int).toNat + _ + _ ≤ _; omega) (by omega)]
    simp only [encs, encT, List.append_assoc]
    rfl
theorem put_topics (l : List Top) (t : List UInt8) (h : ∀ x, x ∈ l → okT x) (ht : t.length ≤ 900000) (hw : wTs l ≤ 2000) : f_value_PutTopics (t, 0) l = some (t ++ (be (l.length : Int) 4 ++ encs encT l), 0) := by
  have := wTs_len l
  unfold f_value_PutTopics
  rw [gOInt_z (fits_small (.inr (.inl rfl)) (by omega) (by omega)) (by omega), Option.bind_some, put_l1 l _ h (by simp only [List.length_append, be_length]; show _ + (4 : Int).toNat + _ ≤ _; omega) hw, List.append_assoc]
  rfl
theorem r14t_l2 (x : Top) (hb : x.fParts.length ≤ 1000000) (hx : ∀ n, n ∈ x.fParts → wI n) : ∀ (l : List Int) (t : List UInt8) (k fuel : Nat), x.fParts.drop k = l → l.length < fuel → t.length + 4 * l.length ≤ 1000000000 → ∃ z, f_r14_Topics_l2 x fuel t k = some (t ++ encs (fun n => be n 4) l, z)
  | [], t, k, fuel + 1, h, hf, hl => by
    have := nil_drop h
    exact ⟨k, by rw [f_r14_Topics_l2, if_neg (by omega), encs, List.append_nil]⟩
  | n :: l, t, k, fuel + 1, h, hf, hl => by
    obtain ⟨g1, g2, g3⟩ := at_drop h
    rw [List.length_cons] at hf hl
    obtain ⟨z, hz⟩ := r14t_l2 x hb hx l (t ++ be n 4) (k + 1) fuel g2 (by omega) (by rw [List.length_append, be_length]; omega)
    rw [f_r14_Topics_l2, if_pos (by omega), g1, Option.bind_some, gRBytes_eq _ _ ⟨hx n (List.mem_of_getElem? g1), by decide, by decide⟩, Option.bind_some, if_pos (by rw [be_length]; show t.length + (4 : Int).toNat ≤ _; omega), if_pos (by omega)]
    refine ⟨z, ?_⟩
    rw [encs, ← List.append_assoc]
    exact hz
theorem r14t_l1 (a0 : List Top) (hb : a0.length ≤ 1000000) (hx : ∀ x, x ∈ a0 → wf_Top x) : ∀ (l : List Top) (t : List UInt8) (k fuel : Nat), a0.drop k = l → l.length < fuel → t.length + wTs l ≤ 1000000 → ∃ z, f_r14_Topics_l1 a0 fuel t k = some (t ++ encs encT l, z)
  | [], t, k, fuel + 1, h, hf, hl => by
    have := nil_drop h
    exact ⟨k, by rw [f_r14_Topics_l1, if_neg (by omega), encs, List.append_nil]⟩
  | x :: l, t, k, fuel + 1, h, hf, hl => by
    obtain ⟨g1, g2, g3⟩ := at_drop h
    have hw := hx x (List.mem_of_getElem? g1)
    rw [List.length_cons] at hf
    simp only [wTs, wT] at hl
    obtain ⟨z2, hz2⟩ := r14t_l2 x (by omega) hw.2.2 x.fParts ((t ++ (be (blen ⟨false, x.fName⟩) (2 : Int).toNat ++ x.fName)) ++ be (x.fParts.length : Int) (4 : Int).toNat) 0 (((x.fParts.length : Int)).toNat + 1) rfl (by omega) (by simp only [List.length_append, be_length]; show _ + (((2 : Int).toNat + _) + (4 : Int).toNat) + _ ≤ _; omega)
    obtain ⟨z, hz⟩ := r14t_l1 a0 hb hx l (t ++ encT x) (k + 1) fuel g2 (by omega) (by rw [List.length_append, encT_len, wT]; omega)
    rw [f_r14_Topics_l1, if_pos (by omega), g1, Option.bind_some, gRBFixed_eq _ _ ⟨by decide, by decide, by simp only; omega⟩, Option.bind_some, if_pos (by simp only [List.length_append, be_length]; show _ + ((2 : Int).toNat + _) ≤ _; omega), gRBytes_eq _ _ ⟨by omega, by decide, by decide⟩, Option.bind_some, if_pos (by simp only [List.length_append, be_length]; show _ + ((2 : Int).toNat + _) + (4 : Int).toNat ≤ _; omega), hz2, Option.bind_some]
    simp only
    rw [if_pos (by omega)]
    refine ⟨z, ?_⟩
    have e : t ++ encT x = ((t ++ (be (blen ⟨false, x.fName⟩) (2 : Int).toNat ++ x.fName)) ++ be (x.fParts.length : Int) (4 : Int).toNat) ++ encs (fun n => be n 4) x.fParts := by
      simp only [encT, List.append_assoc]
      rfl
    rw [encs, (List.append_assoc t (encT x) (encs encT l)).symm, e]
    rw [e] at hz
    exact hz
theorem r14t_eq (l : List Top) (hx : ∀ x, x ∈ l → wf_Top x) (hw : wTs l ≤ 2000) : f_r14_Topics l = some (be (l.length : Int) 4 ++ encs encT l) := by
  have := wTs_len l
  unfold f_r14_Topics
  rw [gRBytes_eq _ _ ⟨by omega, by decide, by decide⟩, Option.bind_some]
  obtain ⟨z, hz⟩ := r14t_l1 l (by omega) hx l (be (l.length : Int) (4 : Int).toNat) 0 (((l.length : Int)).toNat + 1) rfl (by omega) (by rw [be_length]; show (4 : Int).toNat + _ ≤ _; omega)
  rw [hz]
  rfl
end Go.Proofs.Ytagbblaegdedpaa.Sl
namespace Go.Proofs.Ytagbblaegdedpaa.Sl
open Go.RowKit
set_option linter.unusedVariables false
set_option linter.unusedSimpArgs false
theorem fits_2 (n : Int) : fits n 2 = decide (-32768 ≤ n ∧ n ≤ 32767) := by
  rw [Bool.eq_iff_iff]
  unfold fits
  simp only [Bool.and_eq_true, decide_eq_true_eq]
  have : (2 : Int) ^ (8 * (2 : Int).toNat - 1) = 32768 := by decide
  omega
theorem fits_8 (n : Int) : fits n 8 = decide (-9223372036854775808 ≤ n ∧ n ≤ 9223372036854775807) := by
  rw [Bool.eq_iff_iff]
  unfold fits
  simp only [Bool.and_eq_true, decide_eq_true_eq]
  have : (2 : Int) ^ (8 * (8 : Int).toNat - 1) = 9223372036854775808 := by decide
  omega
def badR (v : Val) : Prop := v.fProducer < 0 ∨ v.fEpoch < 0 ∨ v.fEpoch > 32767 ∨ v.fTimeout < 0 ∨ v.fTimeout > 2147483647 ∨ v.fUpdated < 0 ∨ v.fStarted < -1
def badC (v : Val) : Prop := ¬ ((1 ≤ v.fState ∧ v.fState ≤ 3) ↔ 0 < (v.fTopics.length : Int)) ∨ ¬ (v.fState = 0 ↔ v.fStarted = -1)
open Classical in
noncomputable def chkV (v : Val) : Int := if badR v then 11 else if v.fState < 0 ∨ v.fState > 6 then 12 else if badC v then 10 else if okts v.fTopics = true then 0 else 13
set_option maxHeartbeats 4000000 in
theorem vcheck_eq (v : Val) (hw : wf_Val v) (hl : v.fTopics.length ≤ 1000000) : f_value_Check v = some (chkV v) := by
  unfold f_value_Check chkV
  rw [vtopics_eq _ hw.2.2.2.2.1.2 hl, gFits_eq _ _ hw.2.1, gFits_eq _ _ hw.2.2.1, fits_2, fits_4]
  generalize okts v.fTopics = b
  by_cases hr : badR v
  · rw [if_pos hr]
    unfold badR at hr
    by_cases c1 : v.fProducer < 0
    · rw [if_pos c1]
    rw [if_neg c1]
    by_cases c2 : v.fEpoch < 0
    · rw [if_pos c2]
    rw [if_neg c2, Option.bind_some]
    by_cases c3 : -32768 ≤ v.fEpoch ∧ v.fEpoch ≤ 32767
    · rw [if_pos (decide_eq_true c3)]
      by_cases c4 : v.fTimeout < 0
      · rw [if_pos c4]
      rw [if_neg c4, Option.bind_some]
      by_cases c5 : -2147483648 ≤ v.fTimeout ∧ v.fTimeout ≤ 2147483647
      · rw [if_pos (decide_eq_true c5)]
        by_cases c6 : v.fUpdated < 0
        · rw [if_pos c6]
        rw [if_neg c6, if_pos (by omega)]
      · rw [if_neg (by simp only [decide_eq_true_eq]; exact c5)]
    · rw [if_neg (by simp only [decide_eq_true_eq]; exact c3)]
  rw [if_neg hr]
  unfold badR at hr
  rw [if_neg (by omega), if_neg (by omega), Option.bind_some, if_pos (decide_eq_true (by omega)), if_neg (by omega), Option.bind_some, if_pos (decide_eq_true (by omega)), if_neg (by omega), if_neg (by omega)]
  unfold f_value_Idle
  by_cases hs : v.fState < 0 ∨ v.fState > 6
  · rw [if_pos hs]
    by_cases c1 : v.fState < 0
    · rw [if_pos c1]
    · rw [if_neg c1, if_pos (by omega)]
  rw [if_neg hs, if_neg (by omega), if_neg (by omega)]
  by_cases hc : badC v
  · rw [if_pos hc]
    unfold badC at hc
    by_cases c0 : v.fState = 0
    · rw [if_pos c0, Option.bind_some, if_pos rfl]
      by_cases c1 : (v.fTopics.length : Int) = 0
      · rw [if_pos c1, if_pos c0, if_neg (by omega)]
      · rw [if_neg c1]
    · rw [if_neg c0]
      by_cases c4 : v.fState ≥ 4
      · rw [if_pos c4, Option.bind_some, if_pos rfl]
        by_cases c1 : (v.fTopics.length : Int) = 0
        · rw [if_pos c1, if_neg c0, if_pos (by omega)]
        · rw [if_neg c1]
      · rw [if_neg c4, Option.bind_some, if_neg (by decide)]
        by_cases c1 : (v.fTopics.length : Int) = 0
        · rw [if_pos c1]
        · rw [if_neg c1, if_neg c0, if_pos (by omega)]
  rw [if_neg hc]
  unfold badC at hc
  by_cases c0 : v.fState = 0
  · rw [if_pos c0, Option.bind_some, if_pos rfl, if_pos (by omega), if_pos c0, if_pos (by omega)]
    cases b <;> rfl
  · rw [if_neg c0]
    by_cases c4 : v.fState ≥ 4
    · rw [if_pos c4, Option.bind_some, if_pos rfl, if_pos (by omega), if_neg c0, if_neg (by omega)]
      cases b <;> rfl
    · rw [if_neg c4, Option.bind_some, if_neg (by decide), if_neg (by omega), if_neg c0, if_neg (by omega)]
      cases b <;> rfl
theorem okts_ok {l : List Top} (h : okts l = true) (hw : wTs l ≤ 2000) : ∀ t, t ∈ l → okT t := by
  intro t ht
  unfold okts at h
  rw [Bool.and_eq_true] at h
  have h1 := List.all_eq_true.1 h.1 t ht
  unfold oktB okps at h1
  simp only [Bool.and_eq_true, decide_eq_true_eq, List.all_eq_true] at h1
  have h2 := wTs_mem l t ht
  unfold wT at h2
  refine ⟨fits_small (.inl rfl) (by omega) (by omega), fits_small (.inr (.inl rfl)) (by omega) (by omega), fun n hn => ?_⟩
  have h3 := h1.2.1.1 n hn
  unfold okn at h3
  simp only [Bool.and_eq_true, decide_eq_true_eq] at h3
  rw [fits_4]
  exact decide_eq_true (by omega)
open Classical in
end Go.Proofs.Ytagbblaegdedpaa.Sl
namespace Go.Proofs.Ytagbblaegdedpaa.Sl
open Go.RowKit
set_option linter.unusedVariables false
set_option linter.unusedSimpArgs false
set_option maxRecDepth 100000
def ft_txn : FTab := [(26, 0, 0), (26, 1, 1), (107, 0, 0), (107, 1, 2), (107, 2, 3), (107, 3, 4), (109, 0, 0), (109, 1, 1), (109, 2, 2), (109, 3, 3), (180, 0, 0), (180, 1, 1), (180, 2, 2), (180, 3, 3)]
theorem ft_txn_ok : (ft_txn).OK Try.prog := ⟨FOK.mk Try.runUnderlying26 rfl Try.sizeOf4 rfl, FOK.mk Try.runUnderlying26 rfl Try.sizeOf9 rfl, FOK.mk Try.runUnderlying107 rfl Try.sizeOf26 rfl, FOK.mk Try.runUnderlying107 rfl Try.sizeOf3 rfl, FOK.mk Try.runUnderlying107 rfl Try.sizeOf3 rfl, FOK.mk Try.runUnderlying107 rfl Try.sizeOf3 rfl, FOK.mk Try.runUnderlying109 rfl Try.sizeOf9 rfl, FOK.mk Try.runUnderlying109 rfl Try.sizeOf3 rfl, FOK.mk Try.runUnderlying109 rfl Try.sizeOf3 rfl, FOK.mk Try.runUnderlying109 rfl Try.sizeOf4 rfl, FOK.mk Try.runUnderlying180 rfl Try.sizeOf9 rfl, FOK.mk Try.runUnderlying180 rfl Try.sizeOf3 rfl, FOK.mk Try.runUnderlying180 rfl Try.sizeOf3 rfl, FOK.mk Try.runUnderlying180 rfl Try.sizeOf68 rfl, trivial⟩
theorem meth_txn_109_Check (v : Value) (w : World) : (method (Try.prog.types.size + Made.depth) 109 v "Check").run Try.prog w = .ok (63, v) w := method_val (k := Try.prog.types.size + Made.depth - 1) (by kernel_rfl) (by kernel_rfl) Try.runUnderlying109 v w
theorem meth_txn_180_Check (v : Value) (w : World) : (method (Try.prog.types.size + Made.depth) 180 v "Check").run Try.prog w = .ok (124, v) w := method_val (k := Try.prog.types.size + Made.depth - 1) (by kernel_rfl) (by kernel_rfl) Try.runUnderlying180 v w
theorem bok_txn_97 : BOK Try.prog 97 #[.int .i64 0, .int .i64 0, .int .i64 0, .int .i64 0, .slice none 0 0, .int .i64 0, .int .i64 0] [(0, 1), (1, 1), (2, 1), (3, 1), (4, 1), (5, 1), (6, 1)] := BOK.mk Try.zeroValue97 Try.runUnderlying97 (by intro w; simp)
theorem bok_txn_107 : BOK Try.prog 107 #[.bool false, .string ⟨#[]⟩, .int .i64 0, .int .i64 0, .int .i64 0] [(0, 2), (2, 1), (3, 1), (4, 1)] := BOK.mk Try.zeroValue107 Try.runUnderlying107 (by intro w; simp)
theorem bok_txn_109 : BOK Try.prog 109 #[.string ⟨#[]⟩, .int .i64 0, .int .i64 0, .bool false] [(0, 1), (1, 1), (2, 1), (3, 1)] := BOK.mk Try.zeroValue109 Try.runUnderlying109 (by intro w; simp)
theorem bok_txn_180 : BOK Try.prog 180 #[.string ⟨#[]⟩, .int .i64 0, .int .i64 0, .slice none 0 0] [(0, 1), (1, 1), (2, 1), (3, 1)] := BOK.mk Try.zeroValue180 Try.runUnderlying180 (by intro w; simp)
def f_txn_Who (a0 : Int) (a1 : Int) : Option (Bool) := (if a0 ≥ 0 then (if a1 ≥ 0 then ((gFits a1 2).bind fun x9 => some x9) else some false) else some false).bind fun y5 => some y5
set_option maxRecDepth 100000 in
set_option maxHeartbeats 4000000 in
theorem f_txn_Who_spec (a0 : Int) (a1 : Int) (r : Bool) (h : f_txn_Who a0 a1 = some r) : SpecX Try.prog 117 #[.int .i64 a0, .int .i64 a1] .triv (EmpR) (fun v A' N => v = .bool r ∧ A' = EmpR ∧ N = []) := by
  refine enterA Try.func117 rfl Try.ntmps117 rfl ?_
  intro F w hX
  unfold f_txn_Who at h
  refine T.seq (T.region rfl ?_)
  refine TL.run ft_txn_ok [0] rfl rfl ?_
  refine TL.nil (X.seq (T.seq ?_))
  obtain ⟨y5, h, hk6⟩ := Option.bind_eq_some_iff.1 h
  refine T.jq (fun e Rs => e = [(4, .bool y5)] ∧ Rs = [EmpR]) ?_ ?_
  · clear hk6
    refine T.region rfl ?_
    by_cases c7 : a0 ≥ 0
    · replace h := ifT c7 h
      refine TL.run ft_txn_ok [0, 1, 2] rfl rfl ?_
      refine TL.q rfl (.g rfl rfl (decide_eq_true c7)) (Ex.ft ft_txn_ok rfl) rfl ?_
      refine TL.q rfl (.g rfl rfl (decide_eq_true c7)) (Ex.ft ft_txn_ok rfl) rfl ?_
      refine TL.q rfl .u (Ex.py rfl (decide_eq_true c7) rfl) rfl ?_
      by_cases c8 : a1 ≥ 0
      · replace h := ifT c8 h
        refine TL.run ft_txn_ok [6] rfl rfl ?_
        refine TL.q rfl (.g rfl rfl (decide_eq_true c8)) (Ex.ft ft_txn_ok rfl) rfl ?_
        obtain ⟨x9, hx10, h⟩ := Option.bind_eq_some_iff.1 h
        refine TL.ce rfl (.g rfl rfl (decide_eq_true c8)) (.fn Try.call96 rfl) (SpecX.pure (fun w => gFits_spec a1 2 _ hx10 w)) (fun _ _ => RX.reads_triv _ _) rfl ?_
        refine TL.q rfl .u (Ex.py rfl (decide_eq_true c8) rfl) rfl ?_
        refine TL.run ft_txn_ok [10] rfl rfl ?_
        cases h
        exact TL.nil (X.jq [0] ⟨rfl, rfl⟩ (by rfl) (by rfl))
      · replace h := ifF c8 h
        refine TL.run ft_txn_ok [6] rfl rfl ?_
        refine TL.no rfl (.gn rfl rfl (decide_eq_false c8)) rfl ?_
        refine TL.no rfl (.gn rfl rfl (decide_eq_false c8)) rfl ?_
        refine TL.q rfl .u (Ex.pn rfl (decide_eq_false c8) rfl) rfl ?_
        refine TL.run ft_txn_ok [10] rfl rfl ?_
        cases h
        exact TL.nil (X.jq [0] ⟨rfl, rfl⟩ (by rfl) (by rfl))
    · replace h := ifF c7 h
      refine TL.run ft_txn_ok [0, 1, 2] rfl rfl ?_
      refine TL.no rfl (.gn rfl rfl (decide_eq_false c7)) rfl ?_
      refine TL.no rfl (.gn rfl rfl (decide_eq_false c7)) rfl ?_
      refine TL.q rfl .u (Ex.pn rfl (decide_eq_false c7) rfl) rfl ?_
      refine TL.run ft_txn_ok [6] rfl rfl ?_
      refine TL.no rfl (.gn rfl rfl rfl) rfl ?_
      refine TL.no rfl (.gn rfl rfl rfl) rfl ?_
      refine TL.q rfl .u (Ex.pn rfl rfl rfl) rfl ?_
      refine TL.run ft_txn_ok [10] rfl rfl ?_
      cases h
      exact TL.nil (X.jq [0] ⟨rfl, rfl⟩ (by rfl) (by rfl))
  · rintro _ _ ⟨rfl, rfl⟩
    clear h
    have h := hk6
    clear hk6
    try dsimp only at h
    obtain rfl := Option.some.inj h
    exact X.seq (T.ret (X.done1 [0] Try.results117 (RV.tm rfl) ⟨rfl, rfl, rfl⟩ (by rfl) (.inl rfl)))
def f_txn_Rise (a0 : List Top) : Option (Int) := if (a0.length : Int) = 0 then some 10 else ((f_value_Check (⟨0, 0, 0, 1, a0, 0, 0⟩ : Val)).bind fun x5 => some x5)
set_option maxRecDepth 100000 in
set_option maxHeartbeats 4000000 in
theorem f_txn_Rise_spec (a0 : List Top) (A1 : Option Addr) (c2 : Nat) (r : Int) (h : f_txn_Rise a0 = some r) : SpecX Try.prog 118 #[.slice A1 a0.length c2] (RX.of (sliceRd 2 Top_rd) [.slice A1 a0.length c2] a0) (EmpR) (fun v A' N => v = .int .i64 r ∧ A' = EmpR ∧ N = []) := by
  refine enterA Try.func118 rfl Try.ntmps118 rfl ?_
  intro F w hX
  unfold f_txn_Rise at h
  refine T.seq (T.region rfl ?_)
  refine TL.run ft_txn_ok [0] rfl rfl ?_
  refine TL.nil (X.seq (T.seq (T.seq (T.region rfl ?_))))
  refine TL.run ft_txn_ok [0] rfl rfl ?_
  refine TL.q rfl .u (Ex.lenS rfl Try.runUnderlying68) rfl ?_
  refine TL.run ft_txn_ok [2] rfl rfl ?_
  by_cases c3 : (a0.length : Int) = 0
  · replace h := ifT c3 h
    refine TL.nil (X.seq ?_)
    refine T.yes rfl (decide_eq_true c3) ?_
    refine T.seq (T.region rfl ?_)
    refine TL.run ft_txn_ok [0] rfl rfl ?_
    obtain rfl := Option.some.inj h
    exact TL.nil (X.seq (T.ret (X.rs (X.done1 [0] Try.results118 (RV.tm rfl) ⟨rfl, rfl, rfl⟩ (by rfl) (.inl rfl)))))
  · replace h := ifF c3 h
    refine TL.nil (X.seq ?_)
    refine T.no rfl (decide_eq_false c3) ?_
    refine T.skip (X.seq (T.seq (T.region rfl ?_)))
    refine TL.run ft_txn_ok [0] rfl rfl ?_
    refine TL.q rfl .u (Ex.bld (cells := #[.int .i64 0, .int .i64 0, .int .i64 0, .int .i64 1, .slice A1 a0.length c2, .int .i64 0, .int .i64 0]) bok_txn_97 rfl (by kernel_rfl)) rfl ?_
    refine TL.alloc rfl .u Try.zeroValue97 rfl (fun b4 => ?_)
    refine TL.st0 (cs' := #[.int .i64 0, .int .i64 0, .int .i64 0, .int .i64 1, .slice A1 a0.length c2, .int .i64 0, .int .i64 0]) rfl .u rfl rfl Try.sizeOf97 rfl rfl rfl rfl ?_
    refine TL.nil (X.seq (T.seq (T.region rfl ?_)))
    refine TL.q rfl .u (Ex.bS (us := [.int .i64 0, .int .i64 0, .int .i64 0, .int .i64 1, .slice A1 a0.length c2, .int .i64 0, .int .i64 0]) 0 rfl Try.isAgg97 Try.sizeOf97 rfl rfl rfl) rfl ?_
    obtain ⟨x5, hx6, h⟩ := Option.bind_eq_some_iff.1 h
    refine TL.ce rfl .u (.fn Try.call135 rfl) (f_value_Check_spec (⟨0, 0, 0, 1, a0, 0, 0⟩ : Val) _ _ _ hx6) (fun _ hs => (SrcE.old hs hX)) rfl ?_
    refine TL.run ft_txn_ok [2] rfl rfl ?_
    obtain rfl := Option.some.inj h
    exact TL.nil (X.seq (T.ret (X.done1 [1] Try.results118 (RV.tm rfl) ⟨rfl, rfl, rfl⟩ (by rfl) (.inl rfl))))
def f_txn_PutBool (st : List UInt8 × Int) (a1 : Bool) : Option (List UInt8 × Int) := (if a1 = true then ((gOByte st 1).bind fun st9 => some st9) else ((gOByte st 0).bind fun st11 => some st11)).bind fun st6 => some st6
set_option maxRecDepth 100000 in
set_option maxHeartbeats 4000000 in
theorem f_txn_PutBool_spec (g : Nat) (st : List UInt8 × Int) (a1 : Bool) (r : List UInt8 × Int) (h : f_txn_PutBool st a1 = some r) : SpecX Try.prog 114 #[.pointer (some ⟨g, 0, none⟩), .bool a1] .triv (OutR g st) (fun v A' N => v = .tuple #[] ∧ A' = OutR g r ∧ N = []) := by
  refine enterA Try.func114 rfl Try.ntmps114 rfl ?_
  intro F w hX
  unfold f_txn_PutBool at h
  refine T.seq (T.region rfl ?_)
  refine TL.run ft_txn_ok [0] rfl rfl ?_
  refine TL.nil (X.seq ?_)
  obtain ⟨st6, h, hk7⟩ := Option.bind_eq_some_iff.1 h
  refine T.jq (fun e Rs => e = [] ∧ Rs = [OutR g st6]) ?_ ?_
  · clear hk7
    by_cases c8 : a1 = true
    · replace h := ifT c8 h
      refine T.yes rfl c8 ?_
      refine T.region rfl ?_
      obtain ⟨st9, hx10, h⟩ := Option.bind_eq_some_iff.1 h
      refine TL.run ft_txn_ok [0] rfl rfl ?_
      refine TL.c0 rfl .u (.fn Try.call174 rfl) (gOByte_spec g st 1 _ hx10) (fun _ hs => (Src.triv _)) rfl ?_
      cases h
      exact TL.nil (X.jq [0] ⟨rfl, rfl⟩ (by rfl) (by rfl))
    · replace h := ifF c8 h
      replace c8 := eq_false_of_ne_true c8
      refine T.no rfl c8 ?_
      refine T.region rfl ?_
      obtain ⟨st11, hx12, h⟩ := Option.bind_eq_some_iff.1 h
      refine TL.run ft_txn_ok [0] rfl rfl ?_
      refine TL.c0 rfl .u (.fn Try.call174 rfl) (gOByte_spec g st 0 _ hx12) (fun _ hs => (Src.triv _)) rfl ?_
      cases h
      exact TL.nil (X.jq [0] ⟨rfl, rfl⟩ (by rfl) (by rfl))
  · rintro _ _ ⟨rfl, rfl⟩
    clear h
    have h := hk7
    clear hk7
    try dsimp only at h
    obtain rfl := Option.some.inj h
    exact X.done0 [0] Try.results114 ⟨rfl, rfl, rfl⟩ (by rfl) (.inr rfl)
def f_txn_Bool (st : I)  : Option (Bool × I) := (gInt st 1).bind fun (x1, st2) => (if x1 = 0 then some false else (if x1 = 1 then some false else some true)).bind fun y5 => (if y5 = true then ((gIFail st2 11).bind fun st15 => some st15) else some st2).bind fun st12 => if x1 = 1 then some (true, st12) else some (false, st12)
set_option maxRecDepth 100000 in
set_option maxHeartbeats 4000000 in
theorem f_txn_Bool_spec (g : Nat) (st : I)  (r : Bool × I) (h : f_txn_Bool st  = some r) : SpecX Try.prog 106 #[.pointer (some ⟨g, 0, none⟩)] .triv (InR g st) (fun v A' N => v = .bool r.1 ∧ A' = InR g r.2 ∧ N = []) := by
  refine enterA Try.func106 rfl Try.ntmps106 rfl ?_
  intro F w hX
  unfold f_txn_Bool at h
  refine T.seq (T.region rfl ?_)
  refine TL.run ft_txn_ok [0] rfl rfl ?_
  refine TL.nil (X.seq (T.seq (T.region rfl ?_)))
  obtain ⟨⟨x1, st2⟩, hx3, h⟩ := Option.bind_eq_some_iff.1 h
  try dsimp only at h
  refine TL.run ft_txn_ok [0] rfl rfl ?_
  refine TL.c0 rfl .u (.fn Try.call83 rfl) (gInt_spec g st 1 _ hx3) (fun _ hs => (Src.triv _)) rfl ?_
  refine TL.run ft_txn_ok [2] rfl rfl ?_
  refine TL.nil (X.seq (T.seq (T.seq ?_)))
  obtain ⟨y5, h, hk6⟩ := Option.bind_eq_some_iff.1 h
  refine T.jq (fun e Rs => e = [(0, .pointer (some ⟨g, 0, none⟩)), (2, .bool false), (3, .int .i64 x1), (11, .bool y5)] ∧ Rs = [InR g st2]) ?_ ?_
  · clear hk6
    refine T.region rfl ?_
    by_cases c7 : x1 = 0
    · replace h := ifT c7 h
      refine TL.run ft_txn_ok [0, 1, 2] rfl rfl ?_
      refine TL.no rfl (.gn rfl rfl (bn_f (decide_eq_true c7))) rfl ?_
      refine TL.no rfl (.gn rfl rfl (bn_f (decide_eq_true c7))) rfl ?_
      refine TL.q rfl .u (Ex.pn rfl (bn_f (decide_eq_true c7)) rfl) rfl ?_
      cases h
      exact TL.nil (X.jq [0] ⟨rfl, rfl⟩ (by rfl) (by rfl))
    · replace h := ifF c7 h
      refine TL.run ft_txn_ok [0, 1, 2] rfl rfl ?_
      refine TL.q rfl (.g rfl rfl (bn_t (decide_eq_false c7))) (Ex.ft ft_txn_ok rfl) rfl ?_
      refine TL.q rfl (.g rfl rfl (bn_t (decide_eq_false c7))) (Ex.ft ft_txn_ok rfl) rfl ?_
      refine TL.q rfl .u (Ex.py rfl (bn_t (decide_eq_false c7)) rfl) rfl ?_
      by_cases c8 : x1 = 1
      · replace h := ifT c8 h
        cases h
        exact TL.nil (X.as (d := 11) (v' := .bool false) rfl (congrArg Value.bool (bn_f (decide_eq_true c8))) (X.jq [0] ⟨rfl, rfl⟩ (by rfl) (by rfl)))
      · replace h := ifF c8 h
        cases h
        exact TL.nil (X.as (d := 11) (v' := .bool true) rfl (congrArg Value.bool (bn_t (decide_eq_false c8))) (X.jq [0] ⟨rfl, rfl⟩ (by rfl) (by rfl)))
  · rintro _ _ ⟨rfl, rfl⟩
    clear h
    have h := hk6
    clear hk6
    try dsimp only at h
    refine X.seq ?_
    obtain ⟨st12, h, hk13⟩ := Option.bind_eq_some_iff.1 h
    refine T.jq (fun e Rs => e = [(2, .bool false), (3, .int .i64 x1)] ∧ Rs = [InR g st12]) ?_ ?_
    · clear hk13
      by_cases c14 : y5 = true
      · replace h := ifT c14 h
        refine T.yes rfl c14 ?_
        refine T.region rfl ?_
        obtain ⟨st15, hx16, h⟩ := Option.bind_eq_some_iff.1 h
        refine TL.run ft_txn_ok [0] rfl rfl ?_
        refine TL.c0 rfl .u (.fn Try.call84 rfl) (gIFail_spec g st2 11 _ hx16) (fun _ hs => (Src.triv _)) rfl ?_
        cases h
        exact TL.nil (X.jq [0] ⟨rfl, rfl⟩ (by rfl) (by rfl))
      · replace h := ifF c14 h
        replace c14 := eq_false_of_ne_true c14
        refine T.no rfl c14 ?_
        cases h
        exact T.skip (X.jq [0] ⟨rfl, rfl⟩ (by rfl) (by rfl))
    · rintro _ _ ⟨rfl, rfl⟩
      clear h
      have h := hk13
      clear hk13
      try dsimp only at h
      refine X.seq (T.seq (T.region rfl ?_))
      refine TL.run ft_txn_ok [0, 1, 2] rfl rfl ?_
      by_cases c17 : x1 = 1
      · replace h := ifT c17 h
        obtain rfl := Option.some.inj h
        exact TL.nil (X.seq (T.ret (X.done1 [0] Try.results106 (RV.tm (v := .bool true) (congrArg (fun b => some (Value.bool b)) (decide_eq_true c17))) ⟨rfl, rfl, rfl⟩ (by rfl) (.inl rfl))))
      · replace h := ifF c17 h
        obtain rfl := Option.some.inj h
        exact TL.nil (X.seq (T.ret (X.done1 [0] Try.results106 (RV.tm (v := .bool false) (congrArg (fun b => some (Value.bool b)) (decide_eq_false c17))) ⟨rfl, rfl, rfl⟩ (by rfl) (.inl rfl))))
def f_txn_EndCheck (a0 : TxnEnd) : Option (Int) := (gKRight a0.fID).bind fun x2 => if x2 = true then ((f_txn_Who a0.fProducer a0.fEpoch).bind fun x5 => if x5 = true then some 0 else some 11) else some 4
set_option maxRecDepth 100000 in
set_option maxHeartbeats 4000000 in
theorem f_txn_EndCheck_spec (a0 : TxnEnd) (r : Int) (h : f_txn_EndCheck a0 = some r) : SpecX Try.prog 63 #[.agg #[.string (bsOf a0.fID), .int .i64 a0.fProducer, .int .i64 a0.fEpoch, .bool a0.fCommit]] .triv (EmpR) (fun v A' N => v = .int .i64 r ∧ A' = EmpR ∧ N = []) := by
  refine enterA Try.func63 rfl Try.ntmps63 rfl ?_
  intro F w hX
  unfold f_txn_EndCheck at h
  refine T.seq (T.region rfl ?_)
  refine TL.box rfl .u rfl rfl (fun b1 => ?_)
  refine TL.run ft_txn_ok [1] rfl rfl ?_
  refine TL.nil (X.seq (T.seq (T.block (T.seq (T.region rfl ?_)))))
  refine TL.run ft_txn_ok [0] rfl rfl ?_
  refine TL.q rfl .u (Ex.b1 0 rfl Try.isAgg9 rfl rfl) rfl ?_
  obtain ⟨x2, hx3, h⟩ := Option.bind_eq_some_iff.1 h
  refine TL.ce rfl .u (.fn Try.call133 rfl) (SpecX.pure (fun w => gKRight_spec a0.fID _ hx3 w)) (fun _ _ => RX.reads_triv _ _) rfl ?_
  refine TL.run ft_txn_ok [3, 4] rfl rfl ?_
  by_cases c4 : x2 = true
  · replace h := ifT c4 h
    refine TL.nil (X.seq ?_)
    refine T.no rfl (bn_f c4) ?_
    refine T.seq (T.region rfl ?_)
    refine TL.run ft_txn_ok [0] rfl rfl ?_
    refine TL.q rfl .u (Ex.b1 0 rfl Try.isAgg3 rfl rfl) rfl ?_
    refine TL.run ft_txn_ok [2] rfl rfl ?_
    refine TL.q rfl .u (Ex.b1 0 rfl Try.isAgg3 rfl rfl) rfl ?_
    obtain ⟨x5, hx6, h⟩ := Option.bind_eq_some_iff.1 h
    refine TL.ce rfl .u (.fn Try.call117 rfl) (f_txn_Who_spec a0.fProducer a0.fEpoch _ hx6) (fun _ hs => (RX.reads_triv _ _)) rfl ?_
    refine TL.run ft_txn_ok [5, 6] rfl rfl ?_
    by_cases c7 : x5 = true
    · replace h := ifT c7 h
      refine TL.nil (X.seq ?_)
      refine T.no rfl (bn_f c7) ?_
      refine T.skip (X.blk (X.seq (T.seq (T.region rfl ?_))))
      refine TL.run ft_txn_ok [0] rfl rfl ?_
      obtain rfl := Option.some.inj h
      exact TL.nil (X.seq (T.ret (X.done1 [1] Try.results63 (RV.tm rfl) ⟨rfl, rfl, rfl⟩ (by rfl) (.inl rfl))))
    · replace h := ifF c7 h
      replace c7 := eq_false_of_ne_true c7
      refine TL.nil (X.seq ?_)
      refine T.yes rfl (bn_t c7) ?_
      refine T.seq (T.region rfl ?_)
      refine TL.run ft_txn_ok [0] rfl rfl ?_
      obtain rfl := Option.some.inj h
      exact TL.nil (X.seq (T.ret (X.rb (X.rs (X.done1 [1] Try.results63 (RV.tm rfl) ⟨rfl, rfl, rfl⟩ (by rfl) (.inl rfl))))))
  · replace h := ifF c4 h
    replace c4 := eq_false_of_ne_true c4
    refine TL.nil (X.seq ?_)
    refine T.yes rfl (bn_t c4) ?_
    refine T.seq (T.region rfl ?_)
    refine TL.run ft_txn_ok [0] rfl rfl ?_
    obtain rfl := Option.some.inj h
    exact TL.nil (X.seq (T.ret (X.rb (X.rs (X.done1 [1] Try.results63 (RV.tm rfl) ⟨rfl, rfl, rfl⟩ (by rfl) (.inl rfl))))))
def f_txn_fail (st : List UInt8 × Int) (a1 : Int) : Option (Bool × (List UInt8 × Int)) := (if a1 = 0 then some st else ((gOFail st a1).bind fun st7 => some st7)).bind fun st4 => if a1 = 0 then some (false, st4) else some (true, st4)
set_option maxRecDepth 100000 in
set_option maxHeartbeats 4000000 in
theorem f_txn_fail_spec (g : Nat) (st : List UInt8 × Int) (a1 : Int) (r : Bool × (List UInt8 × Int)) (h : f_txn_fail st a1 = some r) : SpecX Try.prog 140 #[.pointer (some ⟨g, 0, none⟩), .int .i64 a1] .triv (OutR g st) (fun v A' N => v = .bool r.1 ∧ A' = OutR g r.2 ∧ N = []) := by
  refine enterA Try.func140 rfl Try.ntmps140 rfl ?_
  intro F w hX
  unfold f_txn_fail at h
  refine T.seq (T.region rfl ?_)
  refine TL.run ft_txn_ok [0] rfl rfl ?_
  refine TL.nil (X.seq (T.seq (T.seq (T.region rfl ?_))))
  refine TL.run ft_txn_ok [0, 1] rfl rfl ?_
  refine TL.nil (X.seq ?_)
  obtain ⟨st4, h, hk5⟩ := Option.bind_eq_some_iff.1 h
  refine T.jq (fun e Rs => e = [(1, .int .i64 a1), (4, .bool false)] ∧ Rs = [OutR g st4]) ?_ ?_
  · clear hk5
    by_cases c6 : a1 = 0
    · replace h := ifT c6 h
      refine T.no rfl (bn_f (decide_eq_true c6)) ?_
      cases h
      exact T.skip (X.jq [0] ⟨rfl, rfl⟩ (by rfl) (by rfl))
    · replace h := ifF c6 h
      refine T.yes rfl (bn_t (decide_eq_false c6)) ?_
      refine T.region rfl ?_
      obtain ⟨st7, hx8, h⟩ := Option.bind_eq_some_iff.1 h
      refine TL.run ft_txn_ok [0, 1] rfl rfl ?_
      refine TL.c0 rfl .u (.fn Try.call101 rfl) (gOFail_spec g st a1 _ hx8) (fun _ hs => (Src.triv _)) rfl ?_
      cases h
      exact TL.nil (X.jq [0] ⟨rfl, rfl⟩ (by rfl) (by rfl))
  · rintro _ _ ⟨rfl, rfl⟩
    clear h
    have h := hk5
    clear hk5
    try dsimp only at h
    refine X.seq (T.seq (T.region rfl ?_))
    refine TL.run ft_txn_ok [0, 1, 2] rfl rfl ?_
    by_cases c9 : a1 = 0
    · replace h := ifT c9 h
      obtain rfl := Option.some.inj h
      exact TL.nil (X.seq (T.ret (X.done1 [0] Try.results140 (RV.tm (v := .bool false) (congrArg (fun b => some (Value.bool b)) (bn_f (decide_eq_true c9)))) ⟨rfl, rfl, rfl⟩ (by rfl) (.inl rfl))))
    · replace h := ifF c9 h
      obtain rfl := Option.some.inj h
      exact TL.nil (X.seq (T.ret (X.done1 [0] Try.results140 (RV.tm (v := .bool true) (congrArg (fun b => some (Value.bool b)) (bn_t (decide_eq_false c9)))) ⟨rfl, rfl, rfl⟩ (by rfl) (.inl rfl))))
def f_txn_wrong_TxnEnd (st : List UInt8 × Int) (a1 : TxnEnd) : Option (Bool × (List UInt8 × Int)) := (f_txn_EndCheck a1).bind fun x1 => (f_txn_fail st x1).bind fun (x3, st4) => some (x3, st4)
set_option maxRecDepth 100000 in
set_option maxHeartbeats 4000000 in
theorem f_txn_wrong_TxnEnd_spec (g : Nat) (st : List UInt8 × Int) (a1 : TxnEnd) (r : Bool × (List UInt8 × Int)) (h : f_txn_wrong_TxnEnd st a1 = some r) : SpecX Try.prog 141 #[.pointer (some ⟨g, 0, none⟩), .iface 109 (.agg #[.string (bsOf a1.fID), .int .i64 a1.fProducer, .int .i64 a1.fEpoch, .bool a1.fCommit])] .triv (OutR g st) (fun v A' N => v = .bool r.1 ∧ A' = OutR g r.2 ∧ N = []) := by
  refine enterA Try.func141 rfl Try.ntmps141 rfl ?_
  intro F w hX
  unfold f_txn_wrong_TxnEnd at h
  refine T.seq (T.region rfl ?_)
  refine TL.run ft_txn_ok [0] rfl rfl ?_
  refine TL.nil (X.seq (T.seq (T.region rfl ?_)))
  obtain ⟨x1, hx2, h⟩ := Option.bind_eq_some_iff.1 h
  refine TL.run ft_txn_ok [0, 1] rfl rfl ?_
  refine TL.ce rfl .u (.inv rfl (meth_txn_109_Check _) Try.call63 rfl) (f_txn_EndCheck_spec a1 _ hx2) (fun _ hs => (RX.reads_triv _ _)) rfl ?_
  obtain ⟨⟨x3, st4⟩, hx5, h⟩ := Option.bind_eq_some_iff.1 h
  try dsimp only at h
  refine TL.c0 rfl .u (.fn Try.call140 rfl) (f_txn_fail_spec g st x1 _ hx5) (fun _ hs => (Src.triv _)) rfl ?_
  refine TL.run ft_txn_ok [4] rfl rfl ?_
  obtain rfl := Option.some.inj h
  exact TL.nil (X.seq (T.ret (X.done1 [0] Try.results141 (RV.tm rfl) ⟨rfl, rfl, rfl⟩ (by rfl) (.inl rfl))))
def f_txn_EndWrite (st : List UInt8 × Int) (a0 : TxnEnd) : Option (List UInt8 × Int) := (f_txn_wrong_TxnEnd st a0).bind fun (x2, st3) => if x2 = true then some st3 else ((gPutText st3 a0.fID).bind fun st6 => (gOInt st6 a0.fProducer 8).bind fun st8 => (gOInt st8 a0.fEpoch 2).bind fun st10 => (f_txn_PutBool st10 a0.fCommit).bind fun st12 => some st12)
set_option maxRecDepth 100000 in
set_option maxHeartbeats 4000000 in
theorem f_txn_EndWrite_spec (g : Nat) (st : List UInt8 × Int) (a0 : TxnEnd) (r : List UInt8 × Int) (h : f_txn_EndWrite st a0 = some r) : SpecX Try.prog 66 #[.agg #[.string (bsOf a0.fID), .int .i64 a0.fProducer, .int .i64 a0.fEpoch, .bool a0.fCommit], .pointer (some ⟨g, 0, none⟩)] .triv (OutR g st) (fun v A' N => v = .tuple #[] ∧ A' = OutR g r ∧ N = []) := by
  refine enterA Try.func66 rfl Try.ntmps66 rfl ?_
  intro F w hX
  unfold f_txn_EndWrite at h
  refine T.seq (T.region rfl ?_)
  refine TL.box rfl .u rfl rfl (fun b1 => ?_)
  refine TL.nil (X.seq (T.seq (T.seq (T.region rfl ?_))))
  refine TL.run ft_txn_ok [0] rfl rfl ?_
  refine TL.q rfl .u (Ex.bS (us := [.string (bsOf a0.fID), .int .i64 a0.fProducer, .int .i64 a0.fEpoch, .bool a0.fCommit]) 0 rfl Try.isAgg109 Try.sizeOf109 rfl rfl rfl) rfl ?_
  refine TL.q rfl .u (Ex.mkI rfl Try.runUnderlying109) rfl ?_
  obtain ⟨⟨x2, st3⟩, hx4, h⟩ := Option.bind_eq_some_iff.1 h
  try dsimp only at h
  refine TL.c1 rfl .u (.fn Try.call141 rfl) (f_txn_wrong_TxnEnd_spec g st a0 _ hx4) (fun _ hs => (Src.triv _)) rfl ?_
  by_cases c5 : x2 = true
  · replace h := ifT c5 h
    refine TL.nil (X.seq ?_)
    refine T.yes rfl c5 ?_
    obtain rfl := Option.some.inj h
    exact T.ret (X.rs (X.done0 [1] Try.results66 ⟨rfl, rfl, rfl⟩ (by rfl) (.inl rfl)))
  · replace h := ifF c5 h
    replace c5 := eq_false_of_ne_true c5
    refine TL.nil (X.seq ?_)
    refine T.no rfl c5 ?_
    refine T.skip (X.seq (T.seq (T.region rfl ?_)))
    refine TL.run ft_txn_ok [0, 1] rfl rfl ?_
    refine TL.q rfl .u (Ex.b1 0 rfl Try.isAgg9 rfl rfl) rfl ?_
    obtain ⟨st6, hx7, h⟩ := Option.bind_eq_some_iff.1 h
    refine TL.c1 rfl .u (.fn Try.call134 rfl) (gPutText_spec g st3 a0.fID _ hx7) (fun _ hs => (Src.triv _)) rfl ?_
    refine TL.nil (X.seq (T.seq (T.region rfl ?_)))
    refine TL.run ft_txn_ok [0, 1] rfl rfl ?_
    refine TL.q rfl .u (Ex.b1 0 rfl Try.isAgg3 rfl rfl) rfl ?_
    obtain ⟨st8, hx9, h⟩ := Option.bind_eq_some_iff.1 h
    refine TL.c1 rfl .u (.fn Try.call113 rfl) (gOInt_spec g st6 a0.fProducer 8 _ hx9) (fun _ hs => (Src.triv _)) rfl ?_
    refine TL.nil (X.seq (T.seq (T.region rfl ?_)))
    refine TL.run ft_txn_ok [0, 1] rfl rfl ?_
    refine TL.q rfl .u (Ex.b1 0 rfl Try.isAgg3 rfl rfl) rfl ?_
    obtain ⟨st10, hx11, h⟩ := Option.bind_eq_some_iff.1 h
    refine TL.c1 rfl .u (.fn Try.call113 rfl) (gOInt_spec g st8 a0.fEpoch 2 _ hx11) (fun _ hs => (Src.triv _)) rfl ?_
    refine TL.nil (X.seq (T.region rfl ?_))
    refine TL.run ft_txn_ok [0, 1] rfl rfl ?_
    refine TL.q rfl .u (Ex.b1 0 rfl Try.isAgg4 rfl rfl) rfl ?_
    obtain ⟨st12, hx13, h⟩ := Option.bind_eq_some_iff.1 h
    refine TL.c1 rfl .u (.fn Try.call114 rfl) (f_txn_PutBool_spec g st10 a0.fCommit _ hx13) (fun _ hs => (Src.triv _)) rfl ?_
    obtain rfl := Option.some.inj h
    exact TL.nil (X.done0 [1] Try.results66 ⟨rfl, rfl, rfl⟩ (by rfl) (.inr rfl))
def f_txn_closed_txn_EndCheck (st : I) (a1_0 : TxnEnd) : Option (Bool × I) := (gErr st).bind fun (x1, st2) => if x1 = 0 then ((f_txn_EndCheck a1_0).bind fun x5 => if x5 = 0 then some (true, st2) else ((gIFail st2 x5).bind fun st8 => some (false, st8))) else some (false, st2)
set_option maxRecDepth 100000 in
set_option maxHeartbeats 4000000 in
theorem f_txn_closed_txn_EndCheck_spec (g : Nat) (st : I) (a1_0 : TxnEnd) (r : Bool × I) (h : f_txn_closed_txn_EndCheck st a1_0 = some r) : SpecX Try.prog 143 #[.pointer (some ⟨g, 0, none⟩), .func (.func 63) #[.agg #[.string (bsOf a1_0.fID), .int .i64 a1_0.fProducer, .int .i64 a1_0.fEpoch, .bool a1_0.fCommit]] #[]] .triv (InR g st) (fun v A' N => v = .bool r.1 ∧ A' = InR g r.2 ∧ N = []) := by
  refine enterA Try.func143 rfl Try.ntmps143 rfl ?_
  intro F w hX
  unfold f_txn_closed_txn_EndCheck at h
  refine T.seq (T.region rfl ?_)
  refine TL.run ft_txn_ok [0] rfl rfl ?_
  refine TL.nil (X.seq (T.seq (T.seq (T.region rfl ?_))))
  obtain ⟨⟨x1, st2⟩, hx3, h⟩ := Option.bind_eq_some_iff.1 h
  try dsimp only at h
  refine TL.run ft_txn_ok [0] rfl rfl ?_
  refine TL.c0 rfl .u (.fn Try.call19 rfl) (gErr_spec g st _ hx3) (fun _ hs => (Src.triv _)) rfl ?_
  refine TL.run ft_txn_ok [2] rfl rfl ?_
  by_cases c4 : x1 = 0
  · replace h := ifT c4 h
    refine TL.nil (X.seq ?_)
    refine T.no rfl (bn_f (decide_eq_true c4)) ?_
    refine T.skip (X.seq (T.seq (T.seq (T.region rfl ?_))))
    obtain ⟨x5, hx6, h⟩ := Option.bind_eq_some_iff.1 h
    refine TL.run ft_txn_ok [0] rfl rfl ?_
    refine TL.ce rfl .u (.val rfl Try.call63 rfl rfl) (f_txn_EndCheck_spec a1_0 _ hx6) (fun _ hs => (RX.reads_triv _ _)) rfl ?_
    refine TL.run ft_txn_ok [2] rfl rfl ?_
    refine TL.nil (X.seq (T.seq (T.region rfl ?_)))
    refine TL.run ft_txn_ok [0, 1] rfl rfl ?_
    by_cases c7 : x5 = 0
    · replace h := ifT c7 h
      refine TL.nil (X.seq ?_)
      refine T.no rfl (bn_f (decide_eq_true c7)) ?_
      refine T.skip (X.seq (T.seq (T.region rfl ?_)))
      refine TL.run ft_txn_ok [0] rfl rfl ?_
      obtain rfl := Option.some.inj h
      exact TL.nil (X.seq (T.ret (X.done1 [0] Try.results143 (RV.tm rfl) ⟨rfl, rfl, rfl⟩ (by rfl) (.inl rfl))))
    · replace h := ifF c7 h
      refine TL.nil (X.seq ?_)
      refine T.yes rfl (bn_t (decide_eq_false c7)) ?_
      refine T.seq (T.region rfl ?_)
      obtain ⟨st8, hx9, h⟩ := Option.bind_eq_some_iff.1 h
      refine TL.run ft_txn_ok [0, 1] rfl rfl ?_
      refine TL.c0 rfl .u (.fn Try.call84 rfl) (gIFail_spec g st2 x5 _ hx9) (fun _ hs => (Src.triv _)) rfl ?_
      refine TL.nil (X.seq (T.seq (T.region rfl ?_)))
      refine TL.run ft_txn_ok [0] rfl rfl ?_
      obtain rfl := Option.some.inj h
      exact TL.nil (X.seq (T.ret (X.rs (X.done1 [0] Try.results143 (RV.tm rfl) ⟨rfl, rfl, rfl⟩ (by rfl) (.inl rfl)))))
  · replace h := ifF c4 h
    refine TL.nil (X.seq ?_)
    refine T.yes rfl (bn_t (decide_eq_false c4)) ?_
    refine T.seq (T.region rfl ?_)
    refine TL.run ft_txn_ok [0] rfl rfl ?_
    obtain rfl := Option.some.inj h
    exact TL.nil (X.seq (T.ret (X.rs (X.done1 [0] Try.results143 (RV.tm rfl) ⟨rfl, rfl, rfl⟩ (by rfl) (.inl rfl)))))
def f_txn_ReadEnd (st : I)  : Option (TxnEnd × I) := (gText st).bind fun (x2, st3) => (gInt st3 8).bind fun (x5, st6) => (gInt st6 2).bind fun (x8, st9) => (f_txn_Bool st9).bind fun (x12, st13) => (f_txn_closed_txn_EndCheck st13 (⟨x2, x5, x8, x12⟩ : TxnEnd)).bind fun (x15, st16) => if x15 = true then (some ((⟨x2, x5, x8, x12⟩ : TxnEnd), st16)) else (some ((⟨[], 0, 0, false⟩ : TxnEnd), st16))
set_option maxRecDepth 100000 in
set_option maxHeartbeats 4000000 in
theorem f_txn_ReadEnd_spec (g : Nat) (st : I)  (r : TxnEnd × I) (h : f_txn_ReadEnd st  = some r) : SpecX Try.prog 69 #[.pointer (some ⟨g, 0, none⟩)] .triv (InR g st) (fun v A' N => v = .agg #[.string (bsOf r.1.fID), .int .i64 r.1.fProducer, .int .i64 r.1.fEpoch, .bool r.1.fCommit] ∧ A' = InR g r.2 ∧ N = []) := by
  refine enterA Try.func69 rfl Try.ntmps69 rfl ?_
  intro F w hX
  unfold f_txn_ReadEnd at h
  refine T.seq (T.region rfl ?_)
  refine TL.alloc rfl .u Try.zeroValue109 rfl (fun b1 => ?_)
  refine TL.nil (X.seq (T.seq (T.region rfl ?_)))
  obtain ⟨⟨x2, st3⟩, hx4, h⟩ := Option.bind_eq_some_iff.1 h
  try dsimp only at h
  refine TL.run ft_txn_ok [0] rfl rfl ?_
  refine TL.c1 rfl .u (.fn Try.call136 rfl) (gText_spec g st _ hx4) (fun _ hs => (Src.triv _)) rfl ?_
  obtain ⟨⟨x5, st6⟩, hx7, h⟩ := Option.bind_eq_some_iff.1 h
  try dsimp only at h
  refine TL.run ft_txn_ok [2] rfl rfl ?_
  refine TL.c1 rfl .u (.fn Try.call83 rfl) (gInt_spec g st3 8 _ hx7) (fun _ hs => (Src.triv _)) rfl ?_
  obtain ⟨⟨x8, st9⟩, hx10, h⟩ := Option.bind_eq_some_iff.1 h
  try dsimp only at h
  refine TL.run ft_txn_ok [4] rfl rfl ?_
  refine TL.c1 rfl .u (.fn Try.call83 rfl) (gInt_spec g st6 2 _ hx10) (fun _ hs => (Src.triv _)) rfl ?_
  refine TL.q rfl .u (Ex.bld (cells := #[.string (bsOf x2), .int .i64 x5, .int .i64 x8, .bool false]) bok_txn_109 rfl (by kernel_rfl)) rfl ?_
  refine TL.alloc rfl .u Try.zeroValue109 rfl (fun b11 => ?_)
  refine TL.st0 (cs' := #[.string (bsOf x2), .int .i64 x5, .int .i64 x8, .bool false]) rfl .u rfl rfl Try.sizeOf109 rfl rfl rfl rfl ?_
  refine TL.nil (X.seq (T.seq (T.region rfl ?_)))
  obtain ⟨⟨x12, st13⟩, hx14, h⟩ := Option.bind_eq_some_iff.1 h
  try dsimp only at h
  refine TL.run ft_txn_ok [0] rfl rfl ?_
  refine TL.c2 rfl .u (.fn Try.call106 rfl) (f_txn_Bool_spec g st9 _ hx14) (fun _ hs => (Src.triv _)) rfl ?_
  refine TL.run ft_txn_ok [2] rfl rfl ?_
  refine TL.st0 (cs' := #[.string (bsOf x2), .int .i64 x5, .int .i64 x8, .bool x12]) rfl .u rfl rfl Try.sizeOf4 rfl rfl rfl rfl ?_
  refine TL.nil (X.seq (T.seq (T.seq (T.region rfl ?_))))
  refine TL.run ft_txn_ok [0] rfl rfl ?_
  refine TL.q rfl .u (Ex.bS (us := [.string (bsOf x2), .int .i64 x5, .int .i64 x8, .bool x12]) 0 rfl Try.isAgg109 Try.sizeOf109 rfl rfl rfl) rfl ?_
  refine TL.q rfl .u (Ex.mkF rfl rfl (fun _ => rfl)) rfl ?_
  obtain ⟨⟨x15, st16⟩, hx17, h⟩ := Option.bind_eq_some_iff.1 h
  try dsimp only at h
  refine TL.c2 rfl .u (.fn Try.call143 rfl) (f_txn_closed_txn_EndCheck_spec g st13 (⟨x2, x5, x8, x12⟩ : TxnEnd) _ hx17) (fun _ hs => (Src.triv _)) rfl ?_
  refine TL.run ft_txn_ok [4] rfl rfl ?_
  by_cases c18 : x15 = true
  · replace h := ifT c18 h
    refine TL.nil (X.seq ?_)
    refine T.no rfl (bn_f c18) ?_
    refine T.skip (X.seq (T.seq (T.region rfl ?_)))
    refine TL.q rfl .u (Ex.bS (us := [.string (bsOf x2), .int .i64 x5, .int .i64 x8, .bool x12]) 0 rfl Try.isAgg109 Try.sizeOf109 rfl rfl rfl) rfl ?_
    refine TL.st1 (cs' := #[.string (bsOf x2), .int .i64 x5, .int .i64 x8, .bool x12]) rfl .u rfl rfl Try.sizeOf109 rfl rfl rfl rfl ?_
    obtain rfl := Option.some.inj h
    exact TL.nil (X.seq (T.ret (X.done1 [2] Try.results69 (RV.cS (us := #[.string (bsOf x2), .int .i64 x5, .int .i64 x8, .bool x12]) 1 rfl Try.isAgg109 Try.sizeOf109 rfl rfl) ⟨rfl, rfl, rfl⟩ (by rfl) (.inl rfl))))
  · replace h := ifF c18 h
    replace c18 := eq_false_of_ne_true c18
    refine TL.nil (X.seq ?_)
    refine T.yes rfl (bn_t c18) ?_
    refine T.seq (T.region rfl ?_)
    refine TL.q rfl .u (Ex.bld (cells := #[.string ⟨#[]⟩, .int .i64 0, .int .i64 0, .bool false]) bok_txn_109 rfl (by kernel_rfl)) rfl ?_
    refine TL.st1 (cs' := #[.string ⟨#[]⟩, .int .i64 0, .int .i64 0, .bool false]) rfl .u rfl rfl Try.sizeOf109 rfl rfl rfl rfl ?_
    obtain rfl := Option.some.inj h
    exact TL.nil (X.seq (T.ret (X.rs (X.done1 [2] Try.results69 (RV.cS (us := #[.string ⟨#[]⟩, .int .i64 0, .int .i64 0, .bool false]) 1 rfl Try.isAgg109 Try.sizeOf109 rfl rfl) ⟨rfl, rfl, rfl⟩ (by rfl) (.inl rfl)))))
def f_txn_BeginCheck (a0 : TxnBegin) (a1 : Int) : Option (Int) := (if a0.fProducer = (-1) then (if a0.fEpoch = (-1) then some true else some false) else some false).bind fun y3 => ((gRight a0.fID).bind fun x15 => if x15 = true then (if a0.fID.null = true then some false else ((gKRight a0.fID.data).bind fun x19 => if x19 = true then some false else some true)) else some true).bind fun y13 => if y13 = true then some 4 else ((if a0.fTimeout < 0 then some true else ((gFits a0.fTimeout 4).bind fun x29 => if x29 = true then some false else some true)).bind fun y26 => (if y26 = true then some true else ((if y3 = true then some false else (if a1 > 0 then ((f_txn_Who a0.fProducer a0.fEpoch).bind fun x55 => if x55 = true then some false else some true) else some true)).bind fun y51 => some y51)).bind fun y44 => if y44 = true then some 11 else some 0)
set_option maxRecDepth 100000 in
set_option maxHeartbeats 4000000 in
theorem f_txn_BeginCheck_spec (a0 : TxnBegin) (a1 : Int) (r : Int) (h : f_txn_BeginCheck a0 a1 = some r) : SpecX Try.prog 65 #[.agg #[.bool a0.fID.null, .string (bsOf a0.fID.data), .int .i64 a0.fTimeout, .int .i64 a0.fProducer, .int .i64 a0.fEpoch], .int .i64 a1] .triv (EmpR) (fun v A' N => v = .int .i64 r ∧ A' = EmpR ∧ N = []) := by
  refine enterA Try.func65 rfl Try.ntmps65 rfl ?_
  intro F w hX
  unfold f_txn_BeginCheck at h
  refine T.seq (T.region rfl ?_)
  refine TL.box rfl .u rfl rfl (fun b1 => ?_)
  refine TL.run ft_txn_ok [1] rfl rfl ?_
  refine TL.nil (X.seq (T.seq ?_))
  obtain ⟨y3, h, hk4⟩ := Option.bind_eq_some_iff.1 h
  refine T.jq (fun e Rs => e = [(1, .int .i64 a1), (2, .pointer (some ⟨b1, 0, none⟩)), (4, .int .i64 0), (5, .bool y3)] ∧ Rs = [BlkR b1 107 #[.bool a0.fID.null, .string (bsOf a0.fID.data), .int .i64 a0.fTimeout, .int .i64 a0.fProducer, .int .i64 a0.fEpoch], EmpR]) ?_ ?_
  · clear hk4
    refine T.region rfl ?_
    refine TL.run ft_txn_ok [0] rfl rfl ?_
    refine TL.q rfl .u (Ex.b1 0 rfl Try.isAgg3 rfl rfl) rfl ?_
    by_cases c5 : a0.fProducer = (-1)
    · replace h := ifT c5 h
      refine TL.run ft_txn_ok [2, 3] rfl rfl ?_
      refine TL.q rfl (.g rfl rfl (decide_eq_true c5)) (Ex.ft ft_txn_ok rfl) rfl ?_
      refine TL.q rfl (.g rfl rfl (decide_eq_true c5)) (Ex.b1 0 rfl Try.isAgg3 rfl rfl) rfl ?_
      refine TL.q rfl (.g rfl rfl (decide_eq_true c5)) (Ex.ft ft_txn_ok rfl) rfl ?_
      refine TL.q rfl .u (Ex.py rfl (decide_eq_true c5) rfl) rfl ?_
      refine TL.run ft_txn_ok [8] rfl rfl ?_
      by_cases c6 : a0.fEpoch = (-1)
      · replace h := ifT c6 h
        cases h
        exact TL.nil (X.as (d := 5) (v' := .bool true) rfl (congrArg Value.bool (decide_eq_true c6)) (X.jq [0, 0] ⟨rfl, rfl⟩ (by rfl) (by rfl)))
      · replace h := ifF c6 h
        cases h
        exact TL.nil (X.as (d := 5) (v' := .bool false) rfl (congrArg Value.bool (decide_eq_false c6)) (X.jq [0, 0] ⟨rfl, rfl⟩ (by rfl) (by rfl)))
    · replace h := ifF c5 h
      refine TL.run ft_txn_ok [2, 3] rfl rfl ?_
      refine TL.no rfl (.gn rfl rfl (decide_eq_false c5)) rfl ?_
      refine TL.no rfl (.gn rfl rfl (decide_eq_false c5)) rfl ?_
      refine TL.no rfl (.gn rfl rfl (decide_eq_false c5)) rfl ?_
      refine TL.q rfl .u (Ex.pn rfl (decide_eq_false c5) rfl) rfl ?_
      refine TL.run ft_txn_ok [8] rfl rfl ?_
      cases h
      exact TL.nil (X.jq [0, 0] ⟨rfl, rfl⟩ (by rfl) (by rfl))
  · rintro _ _ ⟨rfl, rfl⟩
    clear h
    have h := hk4
    clear hk4
    try dsimp only at h
    refine X.seq (T.seq (T.block (T.seq ?_)))
    obtain ⟨y13, h, hk14⟩ := Option.bind_eq_some_iff.1 h
    refine T.jq (fun e Rs => e = [(1, .int .i64 a1), (2, .pointer (some ⟨b1, 0, none⟩)), (4, .int .i64 0), (5, .bool y3), (14, .bool y13)] ∧ Rs = [BlkR b1 107 #[.bool a0.fID.null, .string (bsOf a0.fID.data), .int .i64 a0.fTimeout, .int .i64 a0.fProducer, .int .i64 a0.fEpoch], EmpR]) ?_ ?_
    · clear hk14
      refine T.region rfl ?_
      refine TL.run ft_txn_ok [0] rfl rfl ?_
      refine TL.q rfl .u (Ex.bS (us := [.bool a0.fID.null, .string (bsOf a0.fID.data)]) 0 rfl Try.isAgg26 Try.sizeOf26 rfl rfl rfl) rfl ?_
      obtain ⟨x15, hx16, h⟩ := Option.bind_eq_some_iff.1 h
      refine TL.ce rfl .u (.fn Try.call138 rfl) (gRight_spec a0.fID _ hx16) (fun _ hs => (RX.reads_triv _ _)) rfl ?_
      by_cases c17 : x15 = true
      · replace h := ifT c17 h
        refine TL.run ft_txn_ok [3, 4] rfl rfl ?_
        refine TL.q rfl (.g rfl rfl (bn_f c17)) (Ex.ft ft_txn_ok rfl) rfl ?_
        refine TL.q rfl (.g rfl rfl (bn_f c17)) (Ex.ft ft_txn_ok rfl) rfl ?_
        refine TL.q rfl (.g rfl rfl (bn_f c17)) (Ex.b1 0 rfl Try.isAgg4 rfl rfl) rfl ?_
        refine TL.q rfl (.g rfl rfl (bn_f c17)) (Ex.ft ft_txn_ok rfl) rfl ?_
        refine TL.q rfl (.g rfl rfl (bn_f c17)) (Ex.ft ft_txn_ok rfl) rfl ?_
        by_cases c18 : a0.fID.null = true
        · replace h := ifT c18 h
          refine TL.no rfl (.gn rfl rfl (bn_f c18)) rfl ?_
          refine TL.no rfl (.gn rfl rfl (bn_f c18)) rfl ?_
          refine TL.no rfl (.gn rfl rfl (bn_f c18)) rfl ?_
          refine TL.no rfl (.gn rfl rfl (bn_f c18)) rfl ?_
          refine TL.no rfl (.gn rfl rfl (bn_f c18)) rfl ?_
          refine TL.q rfl (.g rfl rfl (bn_f c17)) (Ex.pn rfl (bn_f c18) rfl) rfl ?_
          refine TL.q rfl .u (Ex.pn rfl (bn_f c17) rfl) rfl ?_
          refine TL.run ft_txn_ok [17] rfl rfl ?_
          cases h
          exact TL.nil (X.jq [0, 0] ⟨rfl, rfl⟩ (by rfl) (by rfl))
        · replace h := ifF c18 h
          replace c18 := eq_false_of_ne_true c18
          refine TL.q rfl (.g rfl rfl (bn_t c18)) (Ex.ft ft_txn_ok rfl) rfl ?_
          refine TL.q rfl (.g rfl rfl (bn_t c18)) (Ex.ft ft_txn_ok rfl) rfl ?_
          refine TL.q rfl (.g rfl rfl (bn_t c18)) (Ex.b1 0 rfl Try.isAgg9 rfl rfl) rfl ?_
          obtain ⟨x19, hx20, h⟩ := Option.bind_eq_some_iff.1 h
          refine TL.ce rfl (.g rfl rfl (bn_t c18)) (.fn Try.call133 rfl) (SpecX.pure (fun w => gKRight_spec a0.fID.data _ hx20 w)) (fun _ _ => RX.reads_triv _ _) rfl ?_
          refine TL.q rfl (.g rfl rfl (bn_t c18)) (Ex.ft ft_txn_ok rfl) rfl ?_
          refine TL.q rfl (.g rfl rfl (bn_f c17)) (Ex.py rfl (bn_t c18) rfl) rfl ?_
          refine TL.q rfl .u (Ex.pn rfl (bn_f c17) rfl) rfl ?_
          refine TL.run ft_txn_ok [17] rfl rfl ?_
          by_cases c21 : x19 = true
          · replace h := ifT c21 h
            cases h
            exact TL.nil (X.as (d := 14) (v' := .bool false) rfl (congrArg Value.bool (bn_f c21)) (X.jq [0, 0] ⟨rfl, rfl⟩ (by rfl) (by rfl)))
          · replace h := ifF c21 h
            replace c21 := eq_false_of_ne_true c21
            cases h
            exact TL.nil (X.as (d := 14) (v' := .bool true) rfl (congrArg Value.bool (bn_t c21)) (X.jq [0, 0] ⟨rfl, rfl⟩ (by rfl) (by rfl)))
      · replace h := ifF c17 h
        replace c17 := eq_false_of_ne_true c17
        refine TL.run ft_txn_ok [3, 4] rfl rfl ?_
        refine TL.no rfl (.gn rfl rfl (bn_t c17)) rfl ?_
        refine TL.no rfl (.gn rfl rfl (bn_t c17)) rfl ?_
        refine TL.no rfl (.gn rfl rfl (bn_t c17)) rfl ?_
        refine TL.no rfl (.gn rfl rfl (bn_t c17)) rfl ?_
        refine TL.no rfl (.gn rfl rfl (bn_t c17)) rfl ?_
        refine TL.no rfl (.gu rfl rfl) rfl ?_
        refine TL.no rfl (.gu rfl rfl) rfl ?_
        refine TL.no rfl (.gu rfl rfl) rfl ?_
        refine TL.no rfl (.gu rfl rfl) rfl ?_
        refine TL.no rfl (.gu rfl rfl) rfl ?_
        refine TL.no rfl (.gn rfl rfl (bn_t c17)) rfl ?_
        refine TL.q rfl .u (Ex.py rfl (bn_t c17) rfl) rfl ?_
        refine TL.run ft_txn_ok [17] rfl rfl ?_
        cases h
        exact TL.nil (X.jq [0, 0] ⟨rfl, rfl⟩ (by rfl) (by rfl))
    · rintro _ _ ⟨rfl, rfl⟩
      clear h
      have h := hk14
      clear hk14
      try dsimp only at h
      by_cases c22 : y13 = true
      · replace h := ifT c22 h
        refine X.seq ?_
        refine T.yes rfl c22 ?_
        refine T.seq (T.region rfl ?_)
        refine TL.run ft_txn_ok [0] rfl rfl ?_
        obtain rfl := Option.some.inj h
        exact TL.nil (X.seq (T.ret (X.rb (X.rs (X.done1 [1] Try.results65 (RV.tm rfl) ⟨rfl, rfl, rfl⟩ (by rfl) (.inl rfl))))))
      · replace h := ifF c22 h
        replace c22 := eq_false_of_ne_true c22
        refine X.seq ?_
        refine T.no rfl c22 ?_
        refine T.seq (T.seq ?_)
        obtain ⟨y26, h, hk27⟩ := Option.bind_eq_some_iff.1 h
        refine T.jq (fun e Rs => e = [(1, .int .i64 a1), (2, .pointer (some ⟨b1, 0, none⟩)), (4, .int .i64 0), (5, .bool y3), (32, .bool y26)] ∧ Rs = [BlkR b1 107 #[.bool a0.fID.null, .string (bsOf a0.fID.data), .int .i64 a0.fTimeout, .int .i64 a0.fProducer, .int .i64 a0.fEpoch], EmpR]) ?_ ?_
        · clear hk27
          refine T.region rfl ?_
          refine TL.run ft_txn_ok [0] rfl rfl ?_
          refine TL.q rfl .u (Ex.b1 0 rfl Try.isAgg3 rfl rfl) rfl ?_
          by_cases c28 : a0.fTimeout < 0
          · replace h := ifT c28 h
            refine TL.run ft_txn_ok [2, 3] rfl rfl ?_
            refine TL.no rfl (.gn rfl rfl (decide_eq_true c28)) rfl ?_
            refine TL.no rfl (.gn rfl rfl (decide_eq_true c28)) rfl ?_
            refine TL.no rfl (.gn rfl rfl (decide_eq_true c28)) rfl ?_
            refine TL.no rfl (.gn rfl rfl (decide_eq_true c28)) rfl ?_
            refine TL.q rfl .u (Ex.py rfl (decide_eq_true c28) rfl) rfl ?_
            refine TL.run ft_txn_ok [9] rfl rfl ?_
            cases h
            exact TL.nil (X.jq [0, 0] ⟨rfl, rfl⟩ (by rfl) (by rfl))
          · replace h := ifF c28 h
            refine TL.run ft_txn_ok [2, 3] rfl rfl ?_
            refine TL.q rfl (.g rfl rfl (decide_eq_false c28)) (Ex.ft ft_txn_ok rfl) rfl ?_
            refine TL.q rfl (.g rfl rfl (decide_eq_false c28)) (Ex.b1 0 rfl Try.isAgg3 rfl rfl) rfl ?_
            obtain ⟨x29, hx30, h⟩ := Option.bind_eq_some_iff.1 h
            refine TL.ce rfl (.g rfl rfl (decide_eq_false c28)) (.fn Try.call96 rfl) (SpecX.pure (fun w => gFits_spec a0.fTimeout 4 _ hx30 w)) (fun _ _ => RX.reads_triv _ _) rfl ?_
            refine TL.q rfl (.g rfl rfl (decide_eq_false c28)) (Ex.ft ft_txn_ok rfl) rfl ?_
            refine TL.q rfl .u (Ex.pn rfl (decide_eq_false c28) rfl) rfl ?_
            refine TL.run ft_txn_ok [9] rfl rfl ?_
            by_cases c31 : x29 = true
            · replace h := ifT c31 h
              cases h
              exact TL.nil (X.as (d := 32) (v' := .bool false) rfl (congrArg Value.bool (bn_f c31)) (X.jq [0, 0] ⟨rfl, rfl⟩ (by rfl) (by rfl)))
            · replace h := ifF c31 h
              replace c31 := eq_false_of_ne_true c31
              cases h
              exact TL.nil (X.as (d := 32) (v' := .bool true) rfl (congrArg Value.bool (bn_t c31)) (X.jq [0, 0] ⟨rfl, rfl⟩ (by rfl) (by rfl)))
        · rintro _ _ ⟨rfl, rfl⟩
          clear h
          have h := hk27
          clear hk27
          try dsimp only at h
          refine X.seq ?_
          obtain ⟨y44, h, hk45⟩ := Option.bind_eq_some_iff.1 h
          refine T.jq (fun e Rs => e = [(4, .int .i64 0), (32, .bool y44)] ∧ Rs = [BlkR b1 107 #[.bool a0.fID.null, .string (bsOf a0.fID.data), .int .i64 a0.fTimeout, .int .i64 a0.fProducer, .int .i64 a0.fEpoch], EmpR]) ?_ ?_
          · clear hk45
            by_cases c46 : y26 = true
            · replace h := ifT c46 h
              refine T.yes rfl c46 ?_
              cases h
              exact T.skip (X.as (d := 32) (v' := .bool true) rfl (congrArg Value.bool c46) (X.jq [0, 0] ⟨rfl, rfl⟩ (by rfl) (by rfl)))
            · replace h := ifF c46 h
              replace c46 := eq_false_of_ne_true c46
              refine T.no rfl c46 ?_
              obtain ⟨y51, h, hk52⟩ := Option.bind_eq_some_iff.1 h
              refine T.jq (fun e Rs => e = [(4, .int .i64 0), (32, .bool y51)] ∧ Rs = [BlkR b1 107 #[.bool a0.fID.null, .string (bsOf a0.fID.data), .int .i64 a0.fTimeout, .int .i64 a0.fProducer, .int .i64 a0.fEpoch], EmpR]) ?_ ?_
              · clear hk52
                refine T.region rfl ?_
                by_cases c53 : y3 = true
                · replace h := ifT c53 h
                  refine TL.run ft_txn_ok [0, 1, 2] rfl rfl ?_
                  refine TL.no rfl (.gn rfl rfl (bn_f c53)) rfl ?_
                  refine TL.no rfl (.gn rfl rfl (bn_f c53)) rfl ?_
                  refine TL.no rfl (.gn rfl rfl (bn_f c53)) rfl ?_
                  refine TL.no rfl (.gu rfl rfl) rfl ?_
                  refine TL.no rfl (.gu rfl rfl) rfl ?_
                  refine TL.no rfl (.gu rfl rfl) rfl ?_
                  refine TL.no rfl (.gu rfl rfl) rfl ?_
                  refine TL.no rfl (.gu rfl rfl) rfl ?_
                  refine TL.no rfl (.gn rfl rfl (bn_f c53)) rfl ?_
                  refine TL.no rfl (.gn rfl rfl (bn_f c53)) rfl ?_
                  refine TL.q rfl .u (Ex.pn rfl (bn_f c53) rfl) rfl ?_
                  refine TL.run ft_txn_ok [14] rfl rfl ?_
                  cases h
                  exact TL.nil (X.jq [0, 0] ⟨rfl, rfl⟩ (by rfl) (by rfl))
                · replace h := ifF c53 h
                  replace c53 := eq_false_of_ne_true c53
                  refine TL.run ft_txn_ok [0, 1, 2] rfl rfl ?_
                  refine TL.q rfl (.g rfl rfl (bn_t c53)) (Ex.ft ft_txn_ok rfl) rfl ?_
                  refine TL.q rfl (.g rfl rfl (bn_t c53)) (Ex.ft ft_txn_ok rfl) rfl ?_
                  refine TL.q rfl (.g rfl rfl (bn_t c53)) (Ex.ft ft_txn_ok rfl) rfl ?_
                  by_cases c54 : a1 > 0
                  · replace h := ifT c54 h
                    refine TL.q rfl (.g rfl rfl (decide_eq_true c54)) (Ex.ft ft_txn_ok rfl) rfl ?_
                    refine TL.q rfl (.g rfl rfl (decide_eq_true c54)) (Ex.b1 0 rfl Try.isAgg3 rfl rfl) rfl ?_
                    refine TL.q rfl (.g rfl rfl (decide_eq_true c54)) (Ex.ft ft_txn_ok rfl) rfl ?_
                    refine TL.q rfl (.g rfl rfl (decide_eq_true c54)) (Ex.b1 0 rfl Try.isAgg3 rfl rfl) rfl ?_
                    obtain ⟨x55, hx56, h⟩ := Option.bind_eq_some_iff.1 h
                    refine TL.ce rfl (.g rfl rfl (decide_eq_true c54)) (.fn Try.call117 rfl) (f_txn_Who_spec a0.fProducer a0.fEpoch _ hx56) (fun _ hs => (RX.reads_triv _ _)) rfl ?_
                    refine TL.q rfl (.g rfl rfl (bn_t c53)) (Ex.py rfl (decide_eq_true c54) rfl) rfl ?_
                    refine TL.q rfl (.g rfl rfl (bn_t c53)) (Ex.ft ft_txn_ok rfl) rfl ?_
                    refine TL.q rfl .u (Ex.py rfl (bn_t c53) rfl) rfl ?_
                    refine TL.run ft_txn_ok [14] rfl rfl ?_
                    by_cases c57 : x55 = true
                    · replace h := ifT c57 h
                      cases h
                      exact TL.nil (X.as (d := 32) (v' := .bool false) rfl (congrArg Value.bool (bn_f c57)) (X.jq [0, 0] ⟨rfl, rfl⟩ (by rfl) (by rfl)))
                    · replace h := ifF c57 h
                      replace c57 := eq_false_of_ne_true c57
                      cases h
                      exact TL.nil (X.as (d := 32) (v' := .bool true) rfl (congrArg Value.bool (bn_t c57)) (X.jq [0, 0] ⟨rfl, rfl⟩ (by rfl) (by rfl)))
                  · replace h := ifF c54 h
                    refine TL.no rfl (.gn rfl rfl (decide_eq_false c54)) rfl ?_
                    refine TL.no rfl (.gn rfl rfl (decide_eq_false c54)) rfl ?_
                    refine TL.no rfl (.gn rfl rfl (decide_eq_false c54)) rfl ?_
                    refine TL.no rfl (.gn rfl rfl (decide_eq_false c54)) rfl ?_
                    refine TL.no rfl (.gn rfl rfl (decide_eq_false c54)) rfl ?_
                    refine TL.q rfl (.g rfl rfl (bn_t c53)) (Ex.pn rfl (decide_eq_false c54) rfl) rfl ?_
                    refine TL.q rfl (.g rfl rfl (bn_t c53)) (Ex.ft ft_txn_ok rfl) rfl ?_
                    refine TL.q rfl .u (Ex.py rfl (bn_t c53) rfl) rfl ?_
                    refine TL.run ft_txn_ok [14] rfl rfl ?_
                    cases h
                    exact TL.nil (X.jq [0, 0] ⟨rfl, rfl⟩ (by rfl) (by rfl))
              · rintro _ _ ⟨rfl, rfl⟩
                clear h
                have h := hk52
                clear hk52
                try dsimp only at h
                cases h
                exact X.jq [0, 0] ⟨rfl, rfl⟩ (by rfl) (by rfl)
          · rintro _ _ ⟨rfl, rfl⟩
            clear h
            have h := hk45
            clear hk45
            try dsimp only at h
            by_cases c58 : y44 = true
            · replace h := ifT c58 h
              refine X.seq ?_
              refine T.yes rfl c58 ?_
              refine T.seq (T.region rfl ?_)
              refine TL.run ft_txn_ok [0] rfl rfl ?_
              obtain rfl := Option.some.inj h
              exact TL.nil (X.seq (T.ret (X.rb (X.rs (X.done1 [1] Try.results65 (RV.tm rfl) ⟨rfl, rfl, rfl⟩ (by rfl) (.inl rfl))))))
            · replace h := ifF c58 h
              replace c58 := eq_false_of_ne_true c58
              refine X.seq ?_
              refine T.no rfl c58 ?_
              refine T.skip (X.blk (X.seq (T.seq (T.region rfl ?_))))
              refine TL.run ft_txn_ok [0] rfl rfl ?_
              obtain rfl := Option.some.inj h
              exact TL.nil (X.seq (T.ret (X.done1 [1] Try.results65 (RV.tm rfl) ⟨rfl, rfl, rfl⟩ (by rfl) (.inl rfl))))
def f_txn_ReadBegin1_b (a0 : TxnBegin) (a1 : Int) : Option (Int) := (f_txn_BeginCheck a0 a1).bind fun x1 => some x1
set_option maxRecDepth 100000 in
set_option maxHeartbeats 4000000 in
theorem f_txn_ReadBegin1_b_spec (a0 : TxnBegin) (ba0 : Nat) (a1 : Int) (ba1 : Nat) (r : Int) (h : f_txn_ReadBegin1_b a0 a1 = some r) : SpecX Try.prog 144 #[.pointer (some ⟨ba0, 0, none⟩), .pointer (some ⟨ba1, 0, none⟩)] (RX.and (RX.blk ba0 107 #[.bool a0.fID.null, .string (bsOf a0.fID.data), .int .i64 a0.fTimeout, .int .i64 a0.fProducer, .int .i64 a0.fEpoch]) (RX.blk ba1 3 #[.int .i64 a1])) (EmpR) (fun v A' N => v = .int .i64 r ∧ A' = EmpR ∧ N = []) := by
  refine enterA Try.func144 rfl Try.ntmps144 rfl ?_
  intro F w hX
  unfold f_txn_ReadBegin1_b at h
  refine T.seq (T.region rfl ?_)
  refine TL.run ft_txn_ok [0] rfl rfl ?_
  refine TL.nil (X.seq (T.seq (T.region rfl ?_)))
  refine TL.q rfl .u (Ex.xbS (us := [.bool a0.fID.null, .string (bsOf a0.fID.data), .int .i64 a0.fTimeout, .int .i64 a0.fProducer, .int .i64 a0.fEpoch]) (RX.reads_left hX) rfl Try.isAgg107 Try.sizeOf107 rfl rfl) rfl ?_
  refine TL.q rfl .u (Ex.xb1 (RX.reads_right hX) rfl Try.isAgg3 rfl) rfl ?_
  obtain ⟨x1, hx2, h⟩ := Option.bind_eq_some_iff.1 h
  refine TL.ce rfl .u (.fn Try.call65 rfl) (f_txn_BeginCheck_spec a0 a1 _ hx2) (fun _ hs => (RX.reads_triv _ _)) rfl ?_
  refine TL.run ft_txn_ok [3] rfl rfl ?_
  obtain rfl := Option.some.inj h
  exact TL.nil (X.seq (T.ret (X.done1 [0] Try.results144 (RV.tm rfl) ⟨rfl, rfl, rfl⟩ (by rfl) (.inl rfl))))
def f_txn_closed_txn_ReadBegin1 (st : I) (a1_0 : TxnBegin) (a1_1 : Int) : Option (Bool × I) := (gErr st).bind fun (x1, st2) => if x1 = 0 then ((f_txn_ReadBegin1_b a1_0 a1_1).bind fun x5 => if x5 = 0 then some (true, st2) else ((gIFail st2 x5).bind fun st8 => some (false, st8))) else some (false, st2)
set_option maxRecDepth 100000 in
set_option maxHeartbeats 4000000 in
theorem f_txn_closed_txn_ReadBegin1_spec (g : Nat) (st : I) (a1_0 : TxnBegin) (ba1_0 : Nat) (a1_1 : Int) (ba1_1 : Nat) (r : Bool × I) (h : f_txn_closed_txn_ReadBegin1 st a1_0 a1_1 = some r) : SpecX Try.prog 143 #[.pointer (some ⟨g, 0, none⟩), .func (.func 144) #[] #[.pointer (some ⟨ba1_0, 0, none⟩), .pointer (some ⟨ba1_1, 0, none⟩)]] (RX.and (RX.blk ba1_0 107 #[.bool a1_0.fID.null, .string (bsOf a1_0.fID.data), .int .i64 a1_0.fTimeout, .int .i64 a1_0.fProducer, .int .i64 a1_0.fEpoch]) (RX.blk ba1_1 3 #[.int .i64 a1_1])) (InR g st) (fun v A' N => v = .bool r.1 ∧ A' = InR g r.2 ∧ N = []) := by
  refine enterA Try.func143 rfl Try.ntmps143 rfl ?_
  intro F w hX
  unfold f_txn_closed_txn_ReadBegin1 at h
  refine T.seq (T.region rfl ?_)
  refine TL.run ft_txn_ok [0] rfl rfl ?_
  refine TL.nil (X.seq (T.seq (T.seq (T.region rfl ?_))))
  obtain ⟨⟨x1, st2⟩, hx3, h⟩ := Option.bind_eq_some_iff.1 h
  try dsimp only at h
  refine TL.run ft_txn_ok [0] rfl rfl ?_
  refine TL.c0 rfl .u (.fn Try.call19 rfl) (gErr_spec g st _ hx3) (fun _ hs => (Src.triv _)) rfl ?_
  refine TL.run ft_txn_ok [2] rfl rfl ?_
  by_cases c4 : x1 = 0
  · replace h := ifT c4 h
    refine TL.nil (X.seq ?_)
    refine T.no rfl (bn_f (decide_eq_true c4)) ?_
    refine T.skip (X.seq (T.seq (T.seq (T.region rfl ?_))))
    obtain ⟨x5, hx6, h⟩ := Option.bind_eq_some_iff.1 h
    refine TL.run ft_txn_ok [0] rfl rfl ?_
    refine TL.ce rfl .u (.val rfl Try.call144 rfl rfl) (f_txn_ReadBegin1_b_spec a1_0 ba1_0 a1_1 ba1_1 _ hx6) (fun _ hs => (RX.reads_and (SrcE.old hs (RX.reads_left hX)) (SrcE.old hs (RX.reads_right hX)))) rfl ?_
    refine TL.run ft_txn_ok [2] rfl rfl ?_
    refine TL.nil (X.seq (T.seq (T.region rfl ?_)))
    refine TL.run ft_txn_ok [0, 1] rfl rfl ?_
    by_cases c7 : x5 = 0
    · replace h := ifT c7 h
      refine TL.nil (X.seq ?_)
      refine T.no rfl (bn_f (decide_eq_true c7)) ?_
      refine T.skip (X.seq (T.seq (T.region rfl ?_)))
      refine TL.run ft_txn_ok [0] rfl rfl ?_
      obtain rfl := Option.some.inj h
      exact TL.nil (X.seq (T.ret (X.done1 [0] Try.results143 (RV.tm rfl) ⟨rfl, rfl, rfl⟩ (by rfl) (.inl rfl))))
    · replace h := ifF c7 h
      refine TL.nil (X.seq ?_)
      refine T.yes rfl (bn_t (decide_eq_false c7)) ?_
      refine T.seq (T.region rfl ?_)
      obtain ⟨st8, hx9, h⟩ := Option.bind_eq_some_iff.1 h
      refine TL.run ft_txn_ok [0, 1] rfl rfl ?_
      refine TL.c0 rfl .u (.fn Try.call84 rfl) (gIFail_spec g st2 x5 _ hx9) (fun _ hs => (Src.triv _)) rfl ?_
      refine TL.nil (X.seq (T.seq (T.region rfl ?_)))
      refine TL.run ft_txn_ok [0] rfl rfl ?_
      obtain rfl := Option.some.inj h
      exact TL.nil (X.seq (T.ret (X.rs (X.done1 [0] Try.results143 (RV.tm rfl) ⟨rfl, rfl, rfl⟩ (by rfl) (.inl rfl)))))
  · replace h := ifF c4 h
    refine TL.nil (X.seq ?_)
    refine T.yes rfl (bn_t (decide_eq_false c4)) ?_
    refine T.seq (T.region rfl ?_)
    refine TL.run ft_txn_ok [0] rfl rfl ?_
    obtain rfl := Option.some.inj h
    exact TL.nil (X.seq (T.ret (X.rs (X.done1 [0] Try.results143 (RV.tm rfl) ⟨rfl, rfl, rfl⟩ (by rfl) (.inl rfl)))))
def f_txn_ReadBegin (st : I) (a1 : Int) : Option (TxnBegin × I) := (gFixed st 2).bind fun (x3, st4) => (gInt st4 4).bind fun (x6, st7) => (if a1 > 0 then ((gInt st7 8).bind fun (x22, st23) => (gInt st23 2).bind fun (x25, st26) => some (x22, x25, st26)) else some (-1, -1, st7)).bind fun (y17, y18, st19) => (f_txn_closed_txn_ReadBegin1 st19 (⟨x3, x6, y17, y18⟩ : TxnBegin) a1).bind fun (x28, st29) => if x28 = true then (some ((⟨x3, x6, y17, y18⟩ : TxnBegin), st29)) else (some ((⟨(⟨false, []⟩ : Bl), 0, 0, 0⟩ : TxnBegin), st29))
set_option maxRecDepth 100000 in
set_option maxHeartbeats 4000000 in
theorem f_txn_ReadBegin_spec (g : Nat) (st : I) (a1 : Int) (r : TxnBegin × I) (h : f_txn_ReadBegin st a1 = some r) : SpecX Try.prog 68 #[.pointer (some ⟨g, 0, none⟩), .int .i64 a1] .triv (InR g st) (fun v A' N => v = .agg #[.bool r.1.fID.null, .string (bsOf r.1.fID.data), .int .i64 r.1.fTimeout, .int .i64 r.1.fProducer, .int .i64 r.1.fEpoch] ∧ A' = InR g r.2 ∧ N = []) := by
  refine enterA Try.func68 rfl Try.ntmps68 rfl ?_
  intro F w hX
  unfold f_txn_ReadBegin at h
  refine T.seq (T.region rfl ?_)
  refine TL.box rfl .u rfl rfl (fun b1 => ?_)
  refine TL.alloc rfl .u Try.zeroValue107 rfl (fun b2 => ?_)
  refine TL.nil (X.seq (T.seq (T.region rfl ?_)))
  obtain ⟨⟨x3, st4⟩, hx5, h⟩ := Option.bind_eq_some_iff.1 h
  try dsimp only at h
  refine TL.run ft_txn_ok [0] rfl rfl ?_
  refine TL.c2 rfl .u (.fn Try.call142 rfl) (gFixed_spec g st 2 _ hx5) (fun _ hs => (Src.triv _)) rfl ?_
  obtain ⟨⟨x6, st7⟩, hx8, h⟩ := Option.bind_eq_some_iff.1 h
  try dsimp only at h
  refine TL.run ft_txn_ok [2] rfl rfl ?_
  refine TL.c2 rfl .u (.fn Try.call83 rfl) (gInt_spec g st4 4 _ hx8) (fun _ hs => (Src.triv _)) rfl ?_
  refine TL.q rfl .u (Ex.bld (cells := #[.bool x3.null, .string (bsOf x3.data), .int .i64 x6, .int .i64 (-1), .int .i64 (-1)]) bok_txn_107 rfl (by kernel_rfl)) rfl ?_
  refine TL.alloc rfl .u Try.zeroValue107 rfl (fun b9 => ?_)
  refine TL.st0 (cs' := #[.bool x3.null, .string (bsOf x3.data), .int .i64 x6, .int .i64 (-1), .int .i64 (-1)]) rfl .u rfl rfl Try.sizeOf107 rfl rfl rfl rfl ?_
  refine TL.nil (X.seq (T.seq (T.seq (T.region rfl ?_))))
  refine TL.q rfl .u (Ex.b1 2 rfl Try.isAgg3 rfl rfl) rfl ?_
  refine TL.run ft_txn_ok [1] rfl rfl ?_
  refine TL.nil (X.seq ?_)
  obtain ⟨⟨y17, y18, st19⟩, h, hk20⟩ := Option.bind_eq_some_iff.1 h
  refine T.jq (fun e Rs => e = [(0, .pointer (some ⟨g, 0, none⟩)), (3, .pointer (some ⟨b1, 0, none⟩)), (4, .pointer (some ⟨b2, 0, none⟩)), (5, .pointer (some ⟨b9, 0, none⟩))] ∧ Rs = [BlkR b9 107 #[.bool x3.null, .string (bsOf x3.data), .int .i64 x6, .int .i64 y17, .int .i64 y18], BlkR b2 107 #[.bool false, .string ⟨#[]⟩, .int .i64 0, .int .i64 0, .int .i64 0], BlkR b1 3 #[.int .i64 a1], InR g st19]) ?_ ?_
  · clear hk20
    by_cases c21 : a1 > 0
    · replace h := ifT c21 h
      refine T.yes rfl (decide_eq_true c21) ?_
      refine T.region rfl ?_
      obtain ⟨⟨x22, st23⟩, hx24, h⟩ := Option.bind_eq_some_iff.1 h
      try dsimp only at h
      refine TL.run ft_txn_ok [0] rfl rfl ?_
      refine TL.c3 rfl .u (.fn Try.call83 rfl) (gInt_spec g st7 8 _ hx24) (fun _ hs => (Src.triv _)) rfl ?_
      obtain ⟨⟨x25, st26⟩, hx27, h⟩ := Option.bind_eq_some_iff.1 h
      try dsimp only at h
      refine TL.run ft_txn_ok [2] rfl rfl ?_
      refine TL.c3 rfl .u (.fn Try.call83 rfl) (gInt_spec g st23 2 _ hx27) (fun _ hs => (Src.triv _)) rfl ?_
      refine TL.run ft_txn_ok [4] rfl rfl ?_
      refine TL.st0 (cs' := #[.bool x3.null, .string (bsOf x3.data), .int .i64 x6, .int .i64 x22, .int .i64 (-1)]) rfl .u rfl rfl Try.sizeOf3 rfl rfl rfl rfl ?_
      refine TL.run ft_txn_ok [6] rfl rfl ?_
      refine TL.st0 (cs' := #[.bool x3.null, .string (bsOf x3.data), .int .i64 x6, .int .i64 x22, .int .i64 x25]) rfl .u rfl rfl Try.sizeOf3 rfl rfl rfl rfl ?_
      cases h
      exact TL.nil (X.jq [0, 0, 0, 0] ⟨rfl, rfl⟩ (by rfl) (by rfl))
    · replace h := ifF c21 h
      refine T.no rfl (decide_eq_false c21) ?_
      cases h
      exact T.skip (X.jq [0, 0, 0, 0] ⟨rfl, rfl⟩ (by rfl) (by rfl))
  · rintro _ _ ⟨rfl, rfl⟩
    clear h
    have h := hk20
    clear hk20
    try dsimp only at h
    refine X.seq (T.seq (T.seq (T.region rfl ?_)))
    refine TL.run ft_txn_ok [0] rfl rfl ?_
    refine TL.q rfl .u (Ex.mkF rfl rfl (fun _ => rfl)) rfl ?_
    obtain ⟨⟨x28, st29⟩, hx30, h⟩ := Option.bind_eq_some_iff.1 h
    try dsimp only at h
    refine TL.c3 rfl .u (.fn Try.call143 rfl) (f_txn_closed_txn_ReadBegin1_spec g st19 (⟨x3, x6, y17, y18⟩ : TxnBegin) b9 a1 b1 _ hx30) (fun _ hs => (Src.and (Src.res 0 rfl blk_reads) (Src.res 2 rfl blk_reads))) rfl ?_
    refine TL.run ft_txn_ok [3] rfl rfl ?_
    by_cases c31 : x28 = true
    · replace h := ifT c31 h
      refine TL.nil (X.seq ?_)
      refine T.no rfl (bn_f c31) ?_
      refine T.skip (X.seq (T.seq (T.region rfl ?_)))
      refine TL.q rfl .u (Ex.bS (us := [.bool x3.null, .string (bsOf x3.data), .int .i64 x6, .int .i64 y17, .int .i64 y18]) 0 rfl Try.isAgg107 Try.sizeOf107 rfl rfl rfl) rfl ?_
      refine TL.st1 (cs' := #[.bool x3.null, .string (bsOf x3.data), .int .i64 x6, .int .i64 y17, .int .i64 y18]) rfl .u rfl rfl Try.sizeOf107 rfl rfl rfl rfl ?_
      obtain rfl := Option.some.inj h
      exact TL.nil (X.seq (T.ret (X.done1 [3] Try.results68 (RV.cS (us := #[.bool x3.null, .string (bsOf x3.data), .int .i64 x6, .int .i64 y17, .int .i64 y18]) 1 rfl Try.isAgg107 Try.sizeOf107 rfl rfl) ⟨rfl, rfl, rfl⟩ (by rfl) (.inl rfl))))
    · replace h := ifF c31 h
      replace c31 := eq_false_of_ne_true c31
      refine TL.nil (X.seq ?_)
      refine T.yes rfl (bn_t c31) ?_
      refine T.seq (T.region rfl ?_)
      refine TL.q rfl .u (Ex.bld (cells := #[.bool false, .string ⟨#[]⟩, .int .i64 0, .int .i64 0, .int .i64 0]) bok_txn_107 rfl (by kernel_rfl)) rfl ?_
      refine TL.st1 (cs' := #[.bool false, .string ⟨#[]⟩, .int .i64 0, .int .i64 0, .int .i64 0]) rfl .u rfl rfl Try.sizeOf107 rfl rfl rfl rfl ?_
      obtain rfl := Option.some.inj h
      exact TL.nil (X.seq (T.ret (X.rs (X.done1 [3] Try.results68 (RV.cS (us := #[.bool false, .string ⟨#[]⟩, .int .i64 0, .int .i64 0, .int .i64 0]) 1 rfl Try.isAgg107 Try.sizeOf107 rfl rfl) ⟨rfl, rfl, rfl⟩ (by rfl) (.inl rfl)))))
def f_txn_AddCheck (a0 : TxnAdd) : Option (Int) := (gKRight a0.fID).bind fun x4 => if x4 = true then ((f_txn_Who a0.fProducer a0.fEpoch).bind fun x7 => if x7 = true then ((f_txn_Rise a0.fTopics).bind fun x10 => some x10) else some 11) else some 4
set_option maxRecDepth 100000 in
set_option maxHeartbeats 4000000 in
theorem f_txn_AddCheck_spec (a0 : TxnAdd) (A1 : Option Addr) (c2 : Nat) (r : Int) (h : f_txn_AddCheck a0 = some r) : SpecX Try.prog 124 #[.agg #[.string (bsOf a0.fID), .int .i64 a0.fProducer, .int .i64 a0.fEpoch, .slice A1 a0.fTopics.length c2]] (RX.of (sliceRd 2 Top_rd) [.slice A1 a0.fTopics.length c2] a0.fTopics) (EmpR) (fun v A' N => v = .int .i64 r ∧ A' = EmpR ∧ N = []) := by
  refine enterA Try.func124 rfl Try.ntmps124 rfl ?_
  intro F w hX
  unfold f_txn_AddCheck at h
  refine T.seq (T.region rfl ?_)
  refine TL.box rfl .u rfl rfl (fun b3 => ?_)
  refine TL.run ft_txn_ok [1] rfl rfl ?_
  refine TL.nil (X.seq (T.seq (T.block (T.seq (T.region rfl ?_)))))
  refine TL.run ft_txn_ok [0] rfl rfl ?_
  refine TL.q rfl .u (Ex.b1 0 rfl Try.isAgg9 rfl rfl) rfl ?_
  obtain ⟨x4, hx5, h⟩ := Option.bind_eq_some_iff.1 h
  refine TL.ce rfl .u (.fn Try.call133 rfl) (SpecX.pure (fun w => gKRight_spec a0.fID _ hx5 w)) (fun _ _ => RX.reads_triv _ _) rfl ?_
  refine TL.run ft_txn_ok [3, 4] rfl rfl ?_
  by_cases c6 : x4 = true
  · replace h := ifT c6 h
    refine TL.nil (X.seq ?_)
    refine T.no rfl (bn_f c6) ?_
    refine T.seq (T.region rfl ?_)
    refine TL.run ft_txn_ok [0] rfl rfl ?_
    refine TL.q rfl .u (Ex.b1 0 rfl Try.isAgg3 rfl rfl) rfl ?_
    refine TL.run ft_txn_ok [2] rfl rfl ?_
    refine TL.q rfl .u (Ex.b1 0 rfl Try.isAgg3 rfl rfl) rfl ?_
    obtain ⟨x7, hx8, h⟩ := Option.bind_eq_some_iff.1 h
    refine TL.ce rfl .u (.fn Try.call117 rfl) (f_txn_Who_spec a0.fProducer a0.fEpoch _ hx8) (fun _ hs => (RX.reads_triv _ _)) rfl ?_
    refine TL.run ft_txn_ok [5, 6] rfl rfl ?_
    by_cases c9 : x7 = true
    · replace h := ifT c9 h
      refine TL.nil (X.seq ?_)
      refine T.no rfl (bn_f c9) ?_
      refine T.skip (X.blk (X.seq (T.seq (T.region rfl ?_))))
      refine TL.run ft_txn_ok [0] rfl rfl ?_
      refine TL.q rfl .u (Ex.b1 0 rfl Try.isAgg68 rfl rfl) rfl ?_
      obtain ⟨x10, hx11, h⟩ := Option.bind_eq_some_iff.1 h
      refine TL.ce rfl .u (.fn Try.call118 rfl) (f_txn_Rise_spec a0.fTopics _ _ _ hx11) (fun _ hs => (SrcE.old hs hX)) rfl ?_
      refine TL.run ft_txn_ok [3] rfl rfl ?_
      obtain rfl := Option.some.inj h
      exact TL.nil (X.seq (T.ret (X.done1 [1] Try.results124 (RV.tm rfl) ⟨rfl, rfl, rfl⟩ (by rfl) (.inl rfl))))
    · replace h := ifF c9 h
      replace c9 := eq_false_of_ne_true c9
      refine TL.nil (X.seq ?_)
      refine T.yes rfl (bn_t c9) ?_
      refine T.seq (T.region rfl ?_)
      refine TL.run ft_txn_ok [0] rfl rfl ?_
      obtain rfl := Option.some.inj h
      exact TL.nil (X.seq (T.ret (X.rb (X.rs (X.done1 [1] Try.results124 (RV.tm rfl) ⟨rfl, rfl, rfl⟩ (by rfl) (.inl rfl))))))
  · replace h := ifF c6 h
    replace c6 := eq_false_of_ne_true c6
    refine TL.nil (X.seq ?_)
    refine T.yes rfl (bn_t c6) ?_
    refine T.seq (T.region rfl ?_)
    refine TL.run ft_txn_ok [0] rfl rfl ?_
    obtain rfl := Option.some.inj h
    exact TL.nil (X.seq (T.ret (X.rb (X.rs (X.done1 [1] Try.results124 (RV.tm rfl) ⟨rfl, rfl, rfl⟩ (by rfl) (.inl rfl))))))
def f_txn_closed_txn_AddCheck (st : I) (a1_0 : TxnAdd) : Option (Bool × I) := (gErr st).bind fun (x3, st4) => if x3 = 0 then ((f_txn_AddCheck a1_0).bind fun x7 => if x7 = 0 then some (true, st4) else ((gIFail st4 x7).bind fun st10 => some (false, st10))) else some (false, st4)
set_option maxRecDepth 100000 in
set_option maxHeartbeats 4000000 in
theorem f_txn_closed_txn_AddCheck_spec (g : Nat) (st : I) (a1_0 : TxnAdd) (A1 : Option Addr) (c2 : Nat) (r : Bool × I) (h : f_txn_closed_txn_AddCheck st a1_0 = some r) : SpecX Try.prog 143 #[.pointer (some ⟨g, 0, none⟩), .func (.func 124) #[.agg #[.string (bsOf a1_0.fID), .int .i64 a1_0.fProducer, .int .i64 a1_0.fEpoch, .slice A1 a1_0.fTopics.length c2]] #[]] (RX.of (sliceRd 2 Top_rd) [.slice A1 a1_0.fTopics.length c2] a1_0.fTopics) (InR g st) (fun v A' N => v = .bool r.1 ∧ A' = InR g r.2 ∧ N = []) := by
  refine enterA Try.func143 rfl Try.ntmps143 rfl ?_
  intro F w hX
  unfold f_txn_closed_txn_AddCheck at h
  refine T.seq (T.region rfl ?_)
  refine TL.run ft_txn_ok [0] rfl rfl ?_
  refine TL.nil (X.seq (T.seq (T.seq (T.region rfl ?_))))
  obtain ⟨⟨x3, st4⟩, hx5, h⟩ := Option.bind_eq_some_iff.1 h
  try dsimp only at h
  refine TL.run ft_txn_ok [0] rfl rfl ?_
  refine TL.c0 rfl .u (.fn Try.call19 rfl) (gErr_spec g st _ hx5) (fun _ hs => (Src.triv _)) rfl ?_
  refine TL.run ft_txn_ok [2] rfl rfl ?_
  by_cases c6 : x3 = 0
  · replace h := ifT c6 h
    refine TL.nil (X.seq ?_)
    refine T.no rfl (bn_f (decide_eq_true c6)) ?_
    refine T.skip (X.seq (T.seq (T.seq (T.region rfl ?_))))
    obtain ⟨x7, hx8, h⟩ := Option.bind_eq_some_iff.1 h
    refine TL.run ft_txn_ok [0] rfl rfl ?_
    refine TL.ce rfl .u (.val rfl Try.call124 rfl rfl) (f_txn_AddCheck_spec a1_0 _ _ _ hx8) (fun _ hs => (SrcE.old hs hX)) rfl ?_
    refine TL.run ft_txn_ok [2] rfl rfl ?_
    refine TL.nil (X.seq (T.seq (T.region rfl ?_)))
    refine TL.run ft_txn_ok [0, 1] rfl rfl ?_
    by_cases c9 : x7 = 0
    · replace h := ifT c9 h
      refine TL.nil (X.seq ?_)
      refine T.no rfl (bn_f (decide_eq_true c9)) ?_
      refine T.skip (X.seq (T.seq (T.region rfl ?_)))
      refine TL.run ft_txn_ok [0] rfl rfl ?_
      obtain rfl := Option.some.inj h
      exact TL.nil (X.seq (T.ret (X.done1 [0] Try.results143 (RV.tm rfl) ⟨rfl, rfl, rfl⟩ (by rfl) (.inl rfl))))
    · replace h := ifF c9 h
      refine TL.nil (X.seq ?_)
      refine T.yes rfl (bn_t (decide_eq_false c9)) ?_
      refine T.seq (T.region rfl ?_)
      obtain ⟨st10, hx11, h⟩ := Option.bind_eq_some_iff.1 h
      refine TL.run ft_txn_ok [0, 1] rfl rfl ?_
      refine TL.c0 rfl .u (.fn Try.call84 rfl) (gIFail_spec g st4 x7 _ hx11) (fun _ hs => (Src.triv _)) rfl ?_
      refine TL.nil (X.seq (T.seq (T.region rfl ?_)))
      refine TL.run ft_txn_ok [0] rfl rfl ?_
      obtain rfl := Option.some.inj h
      exact TL.nil (X.seq (T.ret (X.rs (X.done1 [0] Try.results143 (RV.tm rfl) ⟨rfl, rfl, rfl⟩ (by rfl) (.inl rfl)))))
  · replace h := ifF c6 h
    refine TL.nil (X.seq ?_)
    refine T.yes rfl (bn_t (decide_eq_false c6)) ?_
    refine T.seq (T.region rfl ?_)
    refine TL.run ft_txn_ok [0] rfl rfl ?_
    obtain rfl := Option.some.inj h
    exact TL.nil (X.seq (T.ret (X.rs (X.done1 [0] Try.results143 (RV.tm rfl) ⟨rfl, rfl, rfl⟩ (by rfl) (.inl rfl)))))
def f_txn_ReadAdd (st : I)  : Option (TxnAdd × I) := (gText st).bind fun (x2, st3) => (gInt st3 8).bind fun (x5, st6) => (gInt st6 2).bind fun (x8, st9) => (f_value_Topics st9).bind fun (x12, st15) => (f_txn_closed_txn_AddCheck st15 (⟨x2, x5, x8, x12⟩ : TxnAdd)).bind fun (x17, st18) => if x17 = true then (some ((⟨x2, x5, x8, x12⟩ : TxnAdd), st18)) else (some ((⟨[], 0, 0, []⟩ : TxnAdd), st18))
set_option maxRecDepth 100000 in
set_option maxHeartbeats 4000000 in
theorem f_txn_ReadAdd_spec (g : Nat) (st : I)  (r : TxnAdd × I) (h : f_txn_ReadAdd st  = some r) : SpecX Try.prog 120 #[.pointer (some ⟨g, 0, none⟩)] .triv (InR g st) (fun v A' N => ∃ (A21 : Option Addr) (c22 : Nat), v = .agg #[.string (bsOf r.1.fID), .int .i64 r.1.fProducer, .int .i64 r.1.fEpoch, .slice A21 r.1.fTopics.length c22] ∧ A' = InR g r.2 ∧ N = [RdR (sliceRd 2 Top_rd) [.slice A21 r.1.fTopics.length c22] r.1.fTopics]) := by
  refine enterA Try.func120 rfl Try.ntmps120 rfl ?_
  intro F w hX
  unfold f_txn_ReadAdd at h
  refine T.seq (T.region rfl ?_)
  refine TL.alloc rfl .u Try.zeroValue180 rfl (fun b1 => ?_)
  refine TL.nil (X.seq (T.seq (T.region rfl ?_)))
  obtain ⟨⟨x2, st3⟩, hx4, h⟩ := Option.bind_eq_some_iff.1 h
  try dsimp only at h
  refine TL.run ft_txn_ok [0] rfl rfl ?_
  refine TL.c1 rfl .u (.fn Try.call136 rfl) (gText_spec g st _ hx4) (fun _ hs => (Src.triv _)) rfl ?_
  obtain ⟨⟨x5, st6⟩, hx7, h⟩ := Option.bind_eq_some_iff.1 h
  try dsimp only at h
  refine TL.run ft_txn_ok [2] rfl rfl ?_
  refine TL.c1 rfl .u (.fn Try.call83 rfl) (gInt_spec g st3 8 _ hx7) (fun _ hs => (Src.triv _)) rfl ?_
  obtain ⟨⟨x8, st9⟩, hx10, h⟩ := Option.bind_eq_some_iff.1 h
  try dsimp only at h
  refine TL.run ft_txn_ok [4] rfl rfl ?_
  refine TL.c1 rfl .u (.fn Try.call83 rfl) (gInt_spec g st6 2 _ hx10) (fun _ hs => (Src.triv _)) rfl ?_
  refine TL.q rfl .u (Ex.bld (cells := #[.string (bsOf x2), .int .i64 x5, .int .i64 x8, .slice none 0 0]) bok_txn_180 rfl (by kernel_rfl)) rfl ?_
  refine TL.alloc rfl .u Try.zeroValue180 rfl (fun b11 => ?_)
  refine TL.st0 (cs' := #[.string (bsOf x2), .int .i64 x5, .int .i64 x8, .slice none 0 0]) rfl .u rfl rfl Try.sizeOf180 rfl rfl rfl rfl ?_
  refine TL.nil (X.seq (T.seq (T.region rfl ?_)))
  obtain ⟨⟨x12, st15⟩, hx16, h⟩ := Option.bind_eq_some_iff.1 h
  try dsimp only at h
  refine TL.run ft_txn_ok [0] rfl rfl ?_
  refine TL.cg2 rfl .u (.fn Try.call107 rfl) (f_value_Topics_spec g st9 _ hx16) (fun _ hs => (Src.triv _)) rfl ?_
  rintro _ _ _ ⟨A13, c14, rfl, rfl, rfl⟩
  refine TL.sel [0, 0, 0, 0] rfl ?_
  refine TL.run ft_txn_ok [2] rfl rfl ?_
  refine TL.st1 (cs' := #[.string (bsOf x2), .int .i64 x5, .int .i64 x8, .slice A13 x12.length c14]) rfl .u rfl rfl Try.sizeOf68 rfl rfl rfl rfl ?_
  refine TL.nil (X.seq (T.seq (T.seq (T.region rfl ?_))))
  refine TL.run ft_txn_ok [0] rfl rfl ?_
  refine TL.q rfl .u (Ex.bS (us := [.string (bsOf x2), .int .i64 x5, .int .i64 x8, .slice A13 x12.length c14]) 1 rfl Try.isAgg180 Try.sizeOf180 rfl rfl rfl) rfl ?_
  refine TL.q rfl .u (Ex.mkF rfl rfl (fun _ => rfl)) rfl ?_
  obtain ⟨⟨x17, st18⟩, hx19, h⟩ := Option.bind_eq_some_iff.1 h
  try dsimp only at h
  refine TL.c3 rfl .u (.fn Try.call143 rfl) (f_txn_closed_txn_AddCheck_spec g st15 (⟨x2, x5, x8, x12⟩ : TxnAdd) _ _ _ hx19) (fun _ hs => (Src.res 0 rfl (fun w G h => rd_reads w G h))) rfl ?_
  refine TL.run ft_txn_ok [4] rfl rfl ?_
  by_cases c20 : x17 = true
  · replace h := ifT c20 h
    refine TL.nil (X.seq ?_)
    refine T.no rfl (bn_f c20) ?_
    refine T.skip (X.seq (T.seq (T.region rfl ?_)))
    refine TL.q rfl .u (Ex.bS (us := [.string (bsOf x2), .int .i64 x5, .int .i64 x8, .slice A13 x12.length c14]) 1 rfl Try.isAgg180 Try.sizeOf180 rfl rfl rfl) rfl ?_
    refine TL.st2 (cs' := #[.string (bsOf x2), .int .i64 x5, .int .i64 x8, .slice A13 x12.length c14]) rfl .u rfl rfl Try.sizeOf180 rfl rfl rfl rfl ?_
    obtain rfl := Option.some.inj h
    exact TL.nil (X.seq (T.ret (X.done1 [3, 0] Try.results120 (RV.cS (us := #[.string (bsOf x2), .int .i64 x5, .int .i64 x8, .slice A13 x12.length c14]) 2 rfl Try.isAgg180 Try.sizeOf180 rfl rfl) ⟨_, _, rfl, rfl, rfl⟩ (by rfl) (.inl rfl))))
  · replace h := ifF c20 h
    replace c20 := eq_false_of_ne_true c20
    refine TL.nil (X.seq ?_)
    refine T.yes rfl (bn_t c20) ?_
    refine T.seq (T.region rfl ?_)
    refine TL.q rfl .u (Ex.bld (cells := #[.string ⟨#[]⟩, .int .i64 0, .int .i64 0, .slice none 0 0]) bok_txn_180 rfl (by kernel_rfl)) rfl ?_
    refine TL.st2 (cs' := #[.string ⟨#[]⟩, .int .i64 0, .int .i64 0, .slice none 0 0]) rfl .u rfl rfl Try.sizeOf180 rfl rfl rfl rfl ?_
    obtain rfl := Option.some.inj h
    refine TL.nil (X.seq (T.ret (X.rs ?_)))
    refine X.nilrd 2 Top_rd ?_
    exact X.done1 [4, 0] Try.results120 (RV.cS (us := #[.string ⟨#[]⟩, .int .i64 0, .int .i64 0, .slice none 0 0]) 3 rfl Try.isAgg180 Try.sizeOf180 rfl rfl) ⟨_, _, rfl, rfl, rfl⟩ (by rfl) (.inl rfl)
def f_txn_BeginWrite (st : List UInt8 × Int) (a0 : TxnBegin) (a2 : Int) : Option (List UInt8 × Int) := (f_txn_BeginCheck a0 a2).bind fun x2 => (f_txn_fail st x2).bind fun (x4, st5) => if x4 = true then some st5 else ((gPutFixed st5 a0.fID 2).bind fun st8 => (gOInt st8 a0.fTimeout 4).bind fun st10 => (if a2 > 0 then ((gOInt st10 a0.fProducer 8).bind fun st20 => (gOInt st20 a0.fEpoch 2).bind fun st22 => some st22) else some st10).bind fun st17 => some st17)
set_option maxRecDepth 100000 in
set_option maxHeartbeats 4000000 in
theorem f_txn_BeginWrite_spec (g : Nat) (st : List UInt8 × Int) (a0 : TxnBegin) (a2 : Int) (r : List UInt8 × Int) (h : f_txn_BeginWrite st a0 a2 = some r) : SpecX Try.prog 64 #[.agg #[.bool a0.fID.null, .string (bsOf a0.fID.data), .int .i64 a0.fTimeout, .int .i64 a0.fProducer, .int .i64 a0.fEpoch], .pointer (some ⟨g, 0, none⟩), .int .i64 a2] .triv (OutR g st) (fun v A' N => v = .tuple #[] ∧ A' = OutR g r ∧ N = []) := by
  refine enterA Try.func64 rfl Try.ntmps64 rfl ?_
  intro F w hX
  unfold f_txn_BeginWrite at h
  refine T.seq (T.region rfl ?_)
  refine TL.box rfl .u rfl rfl (fun b1 => ?_)
  refine TL.nil (X.seq (T.seq (T.seq (T.region rfl ?_))))
  refine TL.run ft_txn_ok [0] rfl rfl ?_
  refine TL.q rfl .u (Ex.bS (us := [.bool a0.fID.null, .string (bsOf a0.fID.data), .int .i64 a0.fTimeout, .int .i64 a0.fProducer, .int .i64 a0.fEpoch]) 0 rfl Try.isAgg107 Try.sizeOf107 rfl rfl rfl) rfl ?_
  obtain ⟨x2, hx3, h⟩ := Option.bind_eq_some_iff.1 h
  refine TL.run ft_txn_ok [2] rfl rfl ?_
  refine TL.ce rfl .u (.fn Try.call65 rfl) (f_txn_BeginCheck_spec a0 a2 _ hx3) (fun _ hs => (RX.reads_triv _ _)) rfl ?_
  obtain ⟨⟨x4, st5⟩, hx6, h⟩ := Option.bind_eq_some_iff.1 h
  try dsimp only at h
  refine TL.c1 rfl .u (.fn Try.call140 rfl) (f_txn_fail_spec g st x2 _ hx6) (fun _ hs => (Src.triv _)) rfl ?_
  by_cases c7 : x4 = true
  · replace h := ifT c7 h
    refine TL.nil (X.seq ?_)
    refine T.yes rfl c7 ?_
    obtain rfl := Option.some.inj h
    exact T.ret (X.rs (X.done0 [1] Try.results64 ⟨rfl, rfl, rfl⟩ (by rfl) (.inl rfl)))
  · replace h := ifF c7 h
    replace c7 := eq_false_of_ne_true c7
    refine TL.nil (X.seq ?_)
    refine T.no rfl c7 ?_
    refine T.skip (X.seq (T.seq (T.region rfl ?_)))
    refine TL.run ft_txn_ok [0, 1] rfl rfl ?_
    refine TL.q rfl .u (Ex.bS (us := [.bool a0.fID.null, .string (bsOf a0.fID.data)]) 0 rfl Try.isAgg26 Try.sizeOf26 rfl rfl rfl) rfl ?_
    obtain ⟨st8, hx9, h⟩ := Option.bind_eq_some_iff.1 h
    refine TL.c1 rfl .u (.fn Try.call139 rfl) (gPutFixed_spec g st5 a0.fID 2 _ hx9) (fun _ hs => (Src.triv _)) rfl ?_
    refine TL.nil (X.seq (T.seq (T.region rfl ?_)))
    refine TL.run ft_txn_ok [0, 1] rfl rfl ?_
    refine TL.q rfl .u (Ex.b1 0 rfl Try.isAgg3 rfl rfl) rfl ?_
    obtain ⟨st10, hx11, h⟩ := Option.bind_eq_some_iff.1 h
    refine TL.c1 rfl .u (.fn Try.call113 rfl) (gOInt_spec g st8 a0.fTimeout 4 _ hx11) (fun _ hs => (Src.triv _)) rfl ?_
    refine TL.nil (X.seq (T.seq (T.region rfl ?_)))
    refine TL.run ft_txn_ok [0, 1] rfl rfl ?_
    refine TL.nil (X.seq ?_)
    obtain ⟨st17, h, hk18⟩ := Option.bind_eq_some_iff.1 h
    refine T.jq (fun e Rs => e = [] ∧ Rs = [BlkR b1 107 #[.bool a0.fID.null, .string (bsOf a0.fID.data), .int .i64 a0.fTimeout, .int .i64 a0.fProducer, .int .i64 a0.fEpoch], OutR g st17]) ?_ ?_
    · clear hk18
      by_cases c19 : a2 > 0
      · replace h := ifT c19 h
        refine T.yes rfl (decide_eq_true c19) ?_
        refine T.seq (T.region rfl ?_)
        refine TL.run ft_txn_ok [0, 1] rfl rfl ?_
        refine TL.q rfl .u (Ex.b1 0 rfl Try.isAgg3 rfl rfl) rfl ?_
        obtain ⟨st20, hx21, h⟩ := Option.bind_eq_some_iff.1 h
        refine TL.c1 rfl .u (.fn Try.call113 rfl) (gOInt_spec g st10 a0.fProducer 8 _ hx21) (fun _ hs => (Src.triv _)) rfl ?_
        refine TL.nil (X.seq (T.region rfl ?_))
        refine TL.run ft_txn_ok [0, 1] rfl rfl ?_
        refine TL.q rfl .u (Ex.b1 0 rfl Try.isAgg3 rfl rfl) rfl ?_
        obtain ⟨st22, hx23, h⟩ := Option.bind_eq_some_iff.1 h
        refine TL.c1 rfl .u (.fn Try.call113 rfl) (gOInt_spec g st20 a0.fEpoch 2 _ hx23) (fun _ hs => (Src.triv _)) rfl ?_
        cases h
        exact TL.nil (X.jq [0, 0] ⟨rfl, rfl⟩ (by rfl) (by rfl))
      · replace h := ifF c19 h
        refine T.no rfl (decide_eq_false c19) ?_
        cases h
        exact T.skip (X.jq [0, 0] ⟨rfl, rfl⟩ (by rfl) (by rfl))
    · rintro _ _ ⟨rfl, rfl⟩
      clear h
      have h := hk18
      clear hk18
      try dsimp only at h
      obtain rfl := Option.some.inj h
      exact X.done0 [1] Try.results64 ⟨rfl, rfl, rfl⟩ (by rfl) (.inr rfl)
def f_txn_wrong_TxnAdd (st : List UInt8 × Int) (a1 : TxnAdd) : Option (Bool × (List UInt8 × Int)) := (f_txn_AddCheck a1).bind fun x3 => (f_txn_fail st x3).bind fun (x5, st6) => some (x5, st6)
set_option maxRecDepth 100000 in
set_option maxHeartbeats 4000000 in
theorem f_txn_wrong_TxnAdd_spec (g : Nat) (st : List UInt8 × Int) (a1 : TxnAdd) (A1 : Option Addr) (c2 : Nat) (r : Bool × (List UInt8 × Int)) (h : f_txn_wrong_TxnAdd st a1 = some r) : SpecX Try.prog 141 #[.pointer (some ⟨g, 0, none⟩), .iface 180 (.agg #[.string (bsOf a1.fID), .int .i64 a1.fProducer, .int .i64 a1.fEpoch, .slice A1 a1.fTopics.length c2])] (RX.of (sliceRd 2 Top_rd) [.slice A1 a1.fTopics.length c2] a1.fTopics) (OutR g st) (fun v A' N => v = .bool r.1 ∧ A' = OutR g r.2 ∧ N = []) := by
  refine enterA Try.func141 rfl Try.ntmps141 rfl ?_
  intro F w hX
  unfold f_txn_wrong_TxnAdd at h
  refine T.seq (T.region rfl ?_)
  refine TL.run ft_txn_ok [0] rfl rfl ?_
  refine TL.nil (X.seq (T.seq (T.region rfl ?_)))
  obtain ⟨x3, hx4, h⟩ := Option.bind_eq_some_iff.1 h
  refine TL.run ft_txn_ok [0, 1] rfl rfl ?_
  refine TL.ce rfl .u (.inv rfl (meth_txn_180_Check _) Try.call124 rfl) (f_txn_AddCheck_spec a1 _ _ _ hx4) (fun _ hs => (SrcE.old hs hX)) rfl ?_
  obtain ⟨⟨x5, st6⟩, hx7, h⟩ := Option.bind_eq_some_iff.1 h
  try dsimp only at h
  refine TL.c0 rfl .u (.fn Try.call140 rfl) (f_txn_fail_spec g st x3 _ hx7) (fun _ hs => (Src.triv _)) rfl ?_
  refine TL.run ft_txn_ok [4] rfl rfl ?_
  obtain rfl := Option.some.inj h
  exact TL.nil (X.seq (T.ret (X.done1 [0] Try.results141 (RV.tm rfl) ⟨rfl, rfl, rfl⟩ (by rfl) (.inl rfl))))
def f_txn_AddWrite (st : List UInt8 × Int) (a0 : TxnAdd) : Option (List UInt8 × Int) := (f_txn_wrong_TxnAdd st a0).bind fun (x4, st5) => if x4 = true then some st5 else ((gPutText st5 a0.fID).bind fun st8 => (gOInt st8 a0.fProducer 8).bind fun st10 => (gOInt st10 a0.fEpoch 2).bind fun st12 => (f_value_PutTopics st12 a0.fTopics).bind fun st14 => some st14)
set_option maxRecDepth 100000 in
set_option maxHeartbeats 4000000 in
theorem f_txn_AddWrite_spec (g : Nat) (st : List UInt8 × Int) (a0 : TxnAdd) (A1 : Option Addr) (c2 : Nat) (r : List UInt8 × Int) (h : f_txn_AddWrite st a0 = some r) : SpecX Try.prog 123 #[.agg #[.string (bsOf a0.fID), .int .i64 a0.fProducer, .int .i64 a0.fEpoch, .slice A1 a0.fTopics.length c2], .pointer (some ⟨g, 0, none⟩)] (RX.of (sliceRd 2 Top_rd) [.slice A1 a0.fTopics.length c2] a0.fTopics) (OutR g st) (fun v A' N => v = .tuple #[] ∧ A' = OutR g r ∧ N = []) := by
  refine enterA Try.func123 rfl Try.ntmps123 rfl ?_
  intro F w hX
  unfold f_txn_AddWrite at h
  refine T.seq (T.region rfl ?_)
  refine TL.box rfl .u rfl rfl (fun b3 => ?_)
  refine TL.nil (X.seq (T.seq (T.seq (T.region rfl ?_))))
  refine TL.run ft_txn_ok [0] rfl rfl ?_
  refine TL.q rfl .u (Ex.bS (us := [.string (bsOf a0.fID), .int .i64 a0.fProducer, .int .i64 a0.fEpoch, .slice A1 a0.fTopics.length c2]) 0 rfl Try.isAgg180 Try.sizeOf180 rfl rfl rfl) rfl ?_
  refine TL.q rfl .u (Ex.mkI rfl Try.runUnderlying180) rfl ?_
  obtain ⟨⟨x4, st5⟩, hx6, h⟩ := Option.bind_eq_some_iff.1 h
  try dsimp only at h
  refine TL.c1 rfl .u (.fn Try.call141 rfl) (f_txn_wrong_TxnAdd_spec g st a0 _ _ _ hx6) (fun _ hs => (Src.old hs hX)) rfl ?_
  by_cases c7 : x4 = true
  · replace h := ifT c7 h
    refine TL.nil (X.seq ?_)
    refine T.yes rfl c7 ?_
    obtain rfl := Option.some.inj h
    exact T.ret (X.rs (X.done0 [1] Try.results123 ⟨rfl, rfl, rfl⟩ (by rfl) (.inl rfl)))
  · replace h := ifF c7 h
    replace c7 := eq_false_of_ne_true c7
    refine TL.nil (X.seq ?_)
    refine T.no rfl c7 ?_
    refine T.skip (X.seq (T.seq (T.region rfl ?_)))
    refine TL.run ft_txn_ok [0, 1] rfl rfl ?_
    refine TL.q rfl .u (Ex.b1 0 rfl Try.isAgg9 rfl rfl) rfl ?_
    obtain ⟨st8, hx9, h⟩ := Option.bind_eq_some_iff.1 h
    refine TL.c1 rfl .u (.fn Try.call134 rfl) (gPutText_spec g st5 a0.fID _ hx9) (fun _ hs => (Src.triv _)) rfl ?_
    refine TL.nil (X.seq (T.seq (T.region rfl ?_)))
    refine TL.run ft_txn_ok [0, 1] rfl rfl ?_
    refine TL.q rfl .u (Ex.b1 0 rfl Try.isAgg3 rfl rfl) rfl ?_
    obtain ⟨st10, hx11, h⟩ := Option.bind_eq_some_iff.1 h
    refine TL.c1 rfl .u (.fn Try.call113 rfl) (gOInt_spec g st8 a0.fProducer 8 _ hx11) (fun _ hs => (Src.triv _)) rfl ?_
    refine TL.nil (X.seq (T.seq (T.region rfl ?_)))
    refine TL.run ft_txn_ok [0, 1] rfl rfl ?_
    refine TL.q rfl .u (Ex.b1 0 rfl Try.isAgg3 rfl rfl) rfl ?_
    obtain ⟨st12, hx13, h⟩ := Option.bind_eq_some_iff.1 h
    refine TL.c1 rfl .u (.fn Try.call113 rfl) (gOInt_spec g st10 a0.fEpoch 2 _ hx13) (fun _ hs => (Src.triv _)) rfl ?_
    refine TL.nil (X.seq (T.region rfl ?_))
    refine TL.run ft_txn_ok [0, 1] rfl rfl ?_
    refine TL.q rfl .u (Ex.b1 0 rfl Try.isAgg68 rfl rfl) rfl ?_
    obtain ⟨st14, hx15, h⟩ := Option.bind_eq_some_iff.1 h
    refine TL.c1 rfl .u (.fn Try.call115 rfl) (f_value_PutTopics_spec g st12 a0.fTopics _ _ _ hx15) (fun _ hs => (Src.old hs hX)) rfl ?_
    obtain rfl := Option.some.inj h
    exact TL.nil (X.done0 [1] Try.results123 ⟨rfl, rfl, rfl⟩ (by rfl) (.inr rfl))
end Go.Proofs.Ytagbblaegdedpaa.Sl
namespace Go.Proofs.Ytagbblaegdedpaa.Sl
open Go.RowKit
set_option linter.unusedVariables false
set_option linter.unusedSimpArgs false
theorem wi0 : wI 0 := ⟨by decide, by decide⟩
theorem wi1 : wI 1 := ⟨by decide, by decide⟩
theorem wim : wI (-1) := ⟨by decide, by decide⟩
def who (p e : Int) : Bool := decide (0 ≤ p ∧ 0 ≤ e ∧ e ≤ 32767)
theorem who_eq (p e : Int) (he : wI e) : f_txn_Who p e = some (who p e) := by
  unfold f_txn_Who who
  by_cases h1 : p ≥ 0
  · rw [if_pos h1]
    by_cases h2 : e ≥ 0
    · rw [if_pos h2, gFits_eq _ _ he, fits_2]
      simp only [Option.bind_some]
      congr 1
      by_cases h3 : e ≤ 32767
      · rw [decide_eq_true (by omega), decide_eq_true (by omega)]
      · rw [decide_eq_false (by omega), decide_eq_false (by omega)]
    · rw [if_neg h2, decide_eq_false (by omega)]
      rfl
  · rw [if_neg h1, decide_eq_false (by omega)]
    rfl
def riseV (l : List Top) : Int := if l.length = 0 then 10 else if okts l = true then 0 else 13
def wTl (l : List Top) : Prop := (∀ t, t ∈ l → wf_Top t) ∧ l.length ≤ 1000000
theorem rise_txn (l : List Top) (hw : wTl l) : f_txn_Rise l = some (riseV l) := by
  unfold f_txn_Rise riseV
  by_cases h : l.length = 0
  · rw [if_pos (by omega), if_pos h]
  · rw [if_neg (by omega), if_neg h, vcheck_eq _ ⟨wi0, wi0, wi0, wi1, ⟨by have := hw.2; simp only; omega, hw.1⟩, wi0, wi0⟩ hw.2, Option.bind_some]
    unfold chkV
    rw [if_neg (by unfold badR; simp), if_neg (by simp), if_neg (by
      unfold badC
      simp only
      rintro (h1 | h1)
      · exact h1 ⟨fun _ => by omega, fun _ => by omega⟩
      · exact h1 ⟨fun h => absurd h (by decide), fun h => absurd h (by decide)⟩)]
def chkE (d : List UInt8) (p e : Int) : Int := if kright d = true then (if who p e = true then 0 else 11) else 4
def chkA (d : List UInt8) (p e : Int) (l : List Top) : Int := if kright d = true then (if who p e = true then riseV l else 11) else 4
def tmB (t : Int) : Bool := decide (0 ≤ t ∧ t ≤ 2147483647)
def nobB (p e : Int) : Bool := decide (p = -1 ∧ e = -1)
def chkBg (b : Bl) (t p e v : Int) : Int := if (bright b && (b.null || kright b.data)) = true then (if (tmB t && (nobB p e || (decide (v > 0) && who p e))) = true then 0 else 11) else 4
theorem endCheck (x : TxnEnd) (he : wI x.fEpoch) : f_txn_EndCheck x = some (chkE x.fID x.fProducer x.fEpoch) := by
  unfold f_txn_EndCheck chkE
  rw [gKRight_eq, Option.bind_some, who_eq _ _ he, Option.bind_some]
  cases kright x.fID <;> cases who x.fProducer x.fEpoch <;> rfl
theorem addCheck (x : TxnAdd) (he : wI x.fEpoch) (hl : wTl x.fTopics) : f_txn_AddCheck x = some (chkA x.fID x.fProducer x.fEpoch x.fTopics) := by
  unfold f_txn_AddCheck chkA
  rw [gKRight_eq, Option.bind_some, who_eq _ _ he, Option.bind_some, rise_txn _ hl, Option.bind_some]
  cases kright x.fID <;> cases who x.fProducer x.fEpoch <;> rfl
theorem beginCheck (x : TxnBegin) (v : Int) (he : wI x.fEpoch) (ht : wI x.fTimeout) : f_txn_BeginCheck x v = some (chkBg x.fID x.fTimeout x.fProducer x.fEpoch v) := by
  unfold f_txn_BeginCheck chkBg
  have h1 : (if x.fProducer = (-1) then (if x.fEpoch = (-1) then some true else some false) else some false) = some (nobB x.fProducer x.fEpoch) := by
    unfold nobB
    by_cases a : x.fProducer = -1 <;> by_cases b : x.fEpoch = -1 <;> simp [a, b]
  have h3 : (if x.fTimeout < 0 then some true else ((gFits x.fTimeout 4).bind fun x29 => if x29 = true then some false else some true)) = some (!tmB x.fTimeout) := by
    unfold tmB
    by_cases a : x.fTimeout < 0
    · rw [if_pos a, decide_eq_false (by omega)]
      rfl
    · rw [if_neg a, gFits_eq _ _ ht, fits_4, Option.bind_some]
      by_cases b : x.fTimeout ≤ 2147483647
      · rw [if_pos (decide_eq_true (by omega)), decide_eq_true (by omega)]
        rfl
      · rw [if_neg (by simp; omega), decide_eq_false (by omega)]
        rfl
  have h4 : (if v > 0 then ((some (who x.fProducer x.fEpoch)).bind fun x55 => if x55 = true then some false else some true) else some true) = some (!(decide (v > 0) && who x.fProducer x.fEpoch)) := by
    by_cases d : v > 0
    · rw [if_pos d, decide_eq_true d]
      cases who x.fProducer x.fEpoch <;> rfl
    · rw [if_neg d, decide_eq_false d]
      rfl
  rw [h1, Option.bind_some, h3, who_eq _ _ he, h4, gRight_eq, gKRight_eq]
  cases bright x.fID <;> cases x.fID.null <;> cases kright x.fID.data <;> cases tmB x.fTimeout <;> cases nobB x.fProducer x.fEpoch <;> cases (decide (v > 0) && who x.fProducer x.fEpoch) <;> rfl
theorem B_bool : CB f_txn_Bool pBool false := by
  refine ⟨fun st h => ?_, fun s q hl hq => ?_⟩
  · unfold f_txn_Bool
    rw [gInt_d h, Option.bind_some]
    rfl
  · unfold f_txn_Bool pBool
    rcases Q1.run s q hq with ⟨e, st, p1, g1, x1, y1⟩ | ⟨n, r, p1, g1, n1, l1⟩
    · refine .inl ⟨e, st, Pr.bind_err p1, ?_, x1, y1⟩
      rw [g1, Option.bind_some]
      rfl
    · rw [g1, Option.bind_some, Pr.bind_of p1]
      simp only
      by_cases h0 : n = 0
      · rw [if_pos h0, if_pos h0, Option.bind_some, if_neg (by decide), Option.bind_some, if_neg (by omega)]
        exact .inr ⟨false, r, rfl, rfl, n1, l1⟩
      · by_cases h1 : n = 1
        · rw [if_neg h0, if_pos h1, if_neg h0, if_pos h1, Option.bind_some, if_neg (by decide), Option.bind_some, if_pos h1]
          exact .inr ⟨true, r, rfl, rfl, n1, l1⟩
        · rw [if_neg h0, if_neg h1, if_neg h0, if_neg h1, Option.bind_some, if_pos rfl, gIFail_eq, Option.bind_some, Option.bind_some, if_neg h1]
          exact .inl ⟨11, _, rfl, rfl, rfl, by simp [ifail]⟩
abbrev pTops : Pr (List Top) := pRow 4 6 pTopic
theorem encs_mem_len {α : Type} {enc : α → List UInt8} : ∀ (l : List α) (x : α), x ∈ l → (enc x).length ≤ (encs enc l).length
  | y :: l, x, h => by
    rw [encs, List.length_append]
    rcases List.mem_cons.1 h with rfl | h
    · omega
    · have := encs_mem_len (enc := enc) l x h
      omega
theorem w_tops (s : List UInt8) (q : Nat) (l : List Top) (r : Nat) (hl : s.length ≤ 1000000) (hq : q ≤ s.length) (h : pTops s q = .ok (l, r)) : wTl l := by
  obtain ⟨a1, a2, a3, a4, a5, a6⟩ := Sp_topics.spell s q l r hq h
  rw [List.length_append, be_length] at a3
  have hlen := encs_ge encT_ge l a6
  refine ⟨fun t ht => ?_, by omega⟩
  have h1 := encs_mem_len (enc := encT) l t ht
  obtain ⟨b1, b2, b3⟩ := a6 t ht
  have h2 : (encT t).length = wT t := encT_len t
  unfold wT at h2
  exact ⟨by show t.fName.length ≤ _; omega, by show t.fParts.length ≤ _; omega, fun n hn => fits_rng (b3 n hn)⟩
def zE : TxnEnd := ⟨[], 0, 0, false⟩
def zA : TxnAdd := ⟨[], 0, 0, []⟩
def zB : TxnBegin := ⟨⟨false, []⟩, 0, 0, 0⟩
def pEndR : Pr TxnEnd := pText.bind fun d => (pInt 8).bind fun p => (pInt 2).bind fun e => pBool.bind fun c => if chkE d p e = 0 then .ret ⟨d, p, e, c⟩ else .err (chkE d p e)
def pAddR : Pr TxnAdd := pText.bind fun d => (pInt 8).bind fun p => (pInt 2).bind fun e => pTops.bind fun l => if chkA d p e l = 0 then .ret ⟨d, p, e, l⟩ else .err (chkA d p e l)
def pBeg0 (v : Int) : Pr TxnBegin := (pFixed 2).bind fun b => (pInt 4).bind fun t => if chkBg b t (-1) (-1) v = 0 then .ret ⟨b, t, -1, -1⟩ else .err (chkBg b t (-1) (-1) v)
def pBeg1 (v : Int) : Pr TxnBegin := (pFixed 2).bind fun b => (pInt 4).bind fun t => (pInt 8).bind fun p => (pInt 2).bind fun e => if chkBg b t p e v = 0 then .ret ⟨b, t, p, e⟩ else .err (chkBg b t p e v)
theorem B_end : CB f_txn_ReadEnd pEndR zE := by
  refine CB.congr (CB.bind (fun _ => True) QT.cb (fun _ _ _ _ _ _ _ => trivial) trivial fun d _ => CB.bind wI Q8.cb (w_int (by decide) (by decide)) wi0 fun p hp => CB.bind wI Q2.cb (w_int (by decide) (by decide)) wi0 fun e he => CB.bind (fun _ => True) B_bool (fun _ _ _ _ _ _ _ => trivial) trivial fun c _ =>
    CB_chk (op := fun st => (f_txn_closed_txn_EndCheck st ⟨d, p, e, c⟩).bind fun (x15, st16) => if x15 = true then some (⟨d, p, e, c⟩, st16) else some (zE, st16)) (fun st h => ?_) (fun st h => ?_)) (fun st => rfl)
  · unfold f_txn_closed_txn_EndCheck
    rw [gErr_eq, Option.bind_some]
    simp only
    rw [if_neg h]
    rfl
  · unfold f_txn_closed_txn_EndCheck
    rw [gErr_eq, Option.bind_some]
    simp only
    rw [if_pos h, endCheck _ he, Option.bind_some]
    by_cases hc : chkE d p e = 0
    · rw [if_pos hc, if_pos hc]
      rfl
    · rw [if_neg hc, if_neg hc, gIFail_eq]
      rfl
theorem B_add : CB f_txn_ReadAdd pAddR zA := by
  refine CB.congr (CB.bind (fun _ => True) QT.cb (fun _ _ _ _ _ _ _ => trivial) trivial fun d _ => CB.bind wI Q8.cb (w_int (by decide) (by decide)) wi0 fun p hp => CB.bind wI Q2.cb (w_int (by decide) (by decide)) wi0 fun e he => CB.bind wTl B_topics w_tops ⟨(fun t h => nomatch h), by decide⟩ fun l hl =>
    CB_chk (op := fun st => (f_txn_closed_txn_AddCheck st ⟨d, p, e, l⟩).bind fun (x15, st16) => if x15 = true then some (⟨d, p, e, l⟩, st16) else some (zA, st16)) (fun st h => ?_) (fun st h => ?_)) (fun st => rfl)
  · unfold f_txn_closed_txn_AddCheck
    rw [gErr_eq, Option.bind_some]
    simp only
    rw [if_neg h]
    rfl
  · unfold f_txn_closed_txn_AddCheck
    rw [gErr_eq, Option.bind_some]
    simp only
    rw [if_pos h, addCheck _ he hl, Option.bind_some]
    by_cases hc : chkA d p e l = 0
    · rw [if_pos hc, if_pos hc]
      rfl
    · rw [if_neg hc, if_neg hc, gIFail_eq]
      rfl
theorem closedB (b : Bl) (t p e v : Int) (ht : wI t) (he : wI e) : CB (fun st => (f_txn_closed_txn_ReadBegin1 st ⟨b, t, p, e⟩ v).bind fun (x15, st16) => if x15 = true then some ((⟨b, t, p, e⟩ : TxnBegin), st16) else some (zB, st16)) (if chkBg b t p e v = 0 then .ret ⟨b, t, p, e⟩ else .err (chkBg b t p e v)) zB := by
  refine CB_chk (fun st h => ?_) (fun st h => ?_)
  · unfold f_txn_closed_txn_ReadBegin1
    rw [gErr_eq, Option.bind_some]
    simp only
    rw [if_neg h]
    rfl
  · unfold f_txn_closed_txn_ReadBegin1 f_txn_ReadBegin1_b
    rw [gErr_eq, Option.bind_some]
    simp only
    rw [if_pos h, beginCheck _ _ he ht, Option.bind_some, Option.bind_some]
    by_cases hc : chkBg b t p e v = 0
    · rw [if_pos hc, if_pos hc]
      rfl
    · rw [if_neg hc, if_neg hc, gIFail_eq]
      rfl
theorem B_beg0 (v : Int) (hv : ¬ v > 0) : CB (fun st => f_txn_ReadBegin st v) (pBeg0 v) zB := by
  refine CB.congr (CB.bind (fun _ => True) QF2.cb (fun _ _ _ _ _ _ _ => trivial) trivial fun b _ => CB.bind wI Q4.cb (w_int (by decide) (by decide)) wi0 fun t ht => closedB b t (-1) (-1) v ht wim) (fun st => ?_)
  unfold f_txn_ReadBegin
  simp only [if_neg hv, Option.bind_some]
  rfl
theorem B_beg1 (v : Int) (hv : v > 0) : CB (fun st => f_txn_ReadBegin st v) (pBeg1 v) zB := by
  refine CB.congr (CB.bind (fun _ => True) QF2.cb (fun _ _ _ _ _ _ _ => trivial) trivial fun b _ => CB.bind wI Q4.cb (w_int (by decide) (by decide)) wi0 fun t ht => CB.bind wI Q8.cb (w_int (by decide) (by decide)) wi0 fun p hp => CB.bind wI Q2.cb (w_int (by decide) (by decide)) wi0 fun e he => closedB b t p e v ht he) (fun st => ?_)
  unfold f_txn_ReadBegin
  simp only [if_pos hv, Option.bind_assoc, Option.bind_some]
  rfl
def encTx (d : List UInt8) : List UInt8 := be (d.length : Int) 2 ++ d
def encTs (l : List Top) : List UInt8 := be (l.length : Int) 4 ++ encs encT l
def encE (x : TxnEnd) : List UInt8 := encTx x.fID ++ (be x.fProducer 8 ++ (be x.fEpoch 2 ++ encBool x.fCommit))
def encA (x : TxnAdd) : List UInt8 := encTx x.fID ++ (be x.fProducer 8 ++ (be x.fEpoch 2 ++ encTs x.fTopics))
def encFx (b : Bl) : List UInt8 := be (blen b) 2 ++ b.data
def encB0 (x : TxnBegin) : List UInt8 := encFx x.fID ++ be x.fTimeout 4
def encB1 (x : TxnBegin) : List UInt8 := encFx x.fID ++ (be x.fTimeout 4 ++ (be x.fProducer 8 ++ be x.fEpoch 2))
def okTx (d : List UInt8) : Prop := fits (d.length : Int) 2 = true ∧ bright ⟨false, d⟩ = true
def okFx (b : Bl) : Prop := fits (blen b) 2 = true ∧ bright b = true
def okTs (l : List Top) : Prop := fits (l.length : Int) 4 = true ∧ ∀ t, t ∈ l → okT t
abbrev spI (k : Nat) (h1 : 1 ≤ k := by decide) (h8 : k ≤ 8 := by decide) := Sp_int k h1 h8
theorem Sp_end : Sp pEndR encE (fun x => okTx x.fID ∧ fits x.fProducer 8 = true ∧ fits x.fEpoch 2 = true ∧ chkE x.fID x.fProducer x.fEpoch = 0) := by
  refine Sp.congr (Sp.seq (β := TxnEnd) (π := (·.fID)) (ok2 := fun x : TxnEnd => fits x.fProducer 8 = true ∧ fits x.fEpoch 2 = true ∧ chkE x.fID x.fProducer x.fEpoch = 0) Sp_text fun d =>
    Sp.congr (Sp.seq (β := TxnEnd) (π := (·.fProducer)) (ok2 := fun x : TxnEnd => fits x.fEpoch 2 = true ∧ chkE d x.fProducer x.fEpoch = 0 ∧ x.fID = d) (spI 8) fun p =>
    Sp.congr (Sp.seq (β := TxnEnd) (π := (·.fEpoch)) (ok2 := fun x : TxnEnd => chkE d p x.fEpoch = 0 ∧ x.fID = d ∧ x.fProducer = p) (spI 2) fun e =>
    Sp.congr (Sp.seq (β := TxnEnd) (π := (·.fCommit)) (ok2 := fun x : TxnEnd => chkE d p e = 0 ∧ x.fID = d ∧ x.fProducer = p ∧ x.fEpoch = e) Sp_bool fun c =>
    (Sp_chk (β := TxnEnd) _ _ _).congr (ok' := fun x : TxnEnd => (chkE d p e = 0 ∧ x.fID = d ∧ x.fProducer = p ∧ x.fEpoch = e) ∧ x.fCommit = c) (fun x => ?_) (fun _ _ => rfl)) (fun x => ?_) (fun _ _ => rfl)) (fun x => ?_) (fun _ _ => rfl)) (fun x => ?_) (fun _ _ => rfl)) (fun x => ?_) (fun x _ => by simp only [encE, encTx, List.append_nil])
  · obtain ⟨a1, a2, a3, a4⟩ := x
    simp only [TxnEnd.mk.injEq]
    exact ⟨fun ⟨h, h1, h2, h3, h4⟩ => ⟨⟨h, h1, h2, h3⟩, h4⟩, fun ⟨⟨h, h1, h2, h3⟩, h4⟩ => ⟨h, h1, h2, h3, h4⟩⟩
  · exact ⟨fun ⟨_, h, h1, h2, h3⟩ => ⟨⟨by rw [h3]; exact h, h1, h2⟩, h3⟩, fun ⟨⟨h, h1, h2⟩, h3⟩ => ⟨trivial, by rw [← h3]; exact h, h1, h2, h3⟩⟩
  · exact ⟨fun ⟨h0, h, h1, h2⟩ => ⟨⟨h0, by rw [h2]; exact h, h1⟩, h2⟩, fun ⟨⟨h0, h, h1⟩, h2⟩ => ⟨h0, by rw [← h2]; exact h, h1, h2⟩⟩
  · exact ⟨fun ⟨h0, h, h1, h2⟩ => ⟨⟨h0, h, by rw [h2]; exact h1⟩, h2⟩, fun ⟨⟨h0, h, h1⟩, h2⟩ => ⟨h0, h, by rw [← h2]; exact h1, h2⟩⟩
  · exact Iff.rfl
theorem Sp_add : Sp pAddR encA (fun x => okTx x.fID ∧ fits x.fProducer 8 = true ∧ fits x.fEpoch 2 = true ∧ okTs x.fTopics ∧ chkA x.fID x.fProducer x.fEpoch x.fTopics = 0) := by
  refine Sp.congr (Sp.seq (β := TxnAdd) (π := (·.fID)) (ok2 := fun x : TxnAdd => fits x.fProducer 8 = true ∧ fits x.fEpoch 2 = true ∧ okTs x.fTopics ∧ chkA x.fID x.fProducer x.fEpoch x.fTopics = 0) Sp_text fun d =>
    Sp.congr (Sp.seq (β := TxnAdd) (π := (·.fProducer)) (ok2 := fun x : TxnAdd => fits x.fEpoch 2 = true ∧ okTs x.fTopics ∧ chkA d x.fProducer x.fEpoch x.fTopics = 0 ∧ x.fID = d) (spI 8) fun p =>
    Sp.congr (Sp.seq (β := TxnAdd) (π := (·.fEpoch)) (ok2 := fun x : TxnAdd => okTs x.fTopics ∧ chkA d p x.fEpoch x.fTopics = 0 ∧ x.fID = d ∧ x.fProducer = p) (spI 2) fun e =>
    Sp.congr (Sp.seq (β := TxnAdd) (π := (·.fTopics)) (ok2 := fun x : TxnAdd => chkA d p e x.fTopics = 0 ∧ x.fID = d ∧ x.fProducer = p ∧ x.fEpoch = e) Sp_topics fun l =>
    (Sp_chk (β := TxnAdd) _ _ _).congr (ok' := fun x : TxnAdd => (chkA d p e x.fTopics = 0 ∧ x.fID = d ∧ x.fProducer = p ∧ x.fEpoch = e) ∧ x.fTopics = l) (fun x => ?_) (fun _ _ => rfl)) (fun x => ?_) (fun _ _ => rfl)) (fun x => ?_) (fun _ _ => rfl)) (fun x => ?_) (fun _ _ => rfl)) (fun x => ?_) (fun x _ => by simp only [encA, encTx, encTs, List.append_nil])
  · obtain ⟨a1, a2, a3, a4⟩ := x
    simp only [TxnAdd.mk.injEq]
    exact ⟨fun ⟨h, h1, h2, h3, h4⟩ => ⟨⟨by rw [h4]; exact h, h1, h2, h3⟩, h4⟩, fun ⟨⟨h, h1, h2, h3⟩, h4⟩ => ⟨by rw [← h4]; exact h, h1, h2, h3, h4⟩⟩
  · exact ⟨fun ⟨h0, h, h1, h2, h3⟩ => ⟨⟨h0, by rw [h3]; exact h, h1, h2⟩, h3⟩, fun ⟨⟨h0, h, h1, h2⟩, h3⟩ => ⟨h0, by rw [← h3]; exact h, h1, h2, h3⟩⟩
  · exact ⟨fun ⟨h0, hk, h, h1, h2⟩ => ⟨⟨h0, hk, by rw [h2]; exact h, h1⟩, h2⟩, fun ⟨⟨h0, hk, h, h1⟩, h2⟩ => ⟨h0, hk, by rw [← h2]; exact h, h1, h2⟩⟩
  · exact ⟨fun ⟨h0, h, hk, h1, h2⟩ => ⟨⟨h0, h, hk, by rw [h2]; exact h1⟩, h2⟩, fun ⟨⟨h0, h, hk, h1⟩, h2⟩ => ⟨h0, h, hk, by rw [← h2]; exact h1, h2⟩⟩
  · exact Iff.rfl
theorem Sp_beg1 (v : Int) : Sp (pBeg1 v) encB1 (fun x => okFx x.fID ∧ fits x.fTimeout 4 = true ∧ fits x.fProducer 8 = true ∧ fits x.fEpoch 2 = true ∧ chkBg x.fID x.fTimeout x.fProducer x.fEpoch v = 0) := by
  refine Sp.congr (Sp.seq (β := TxnBegin) (π := (·.fID)) (ok2 := fun x : TxnBegin => fits x.fTimeout 4 = true ∧ fits x.fProducer 8 = true ∧ fits x.fEpoch 2 = true ∧ chkBg x.fID x.fTimeout x.fProducer x.fEpoch v = 0) (Sp_fixed 2 (by decide) (by decide)) fun b =>
    Sp.congr (Sp.seq (β := TxnBegin) (π := (·.fTimeout)) (ok2 := fun x : TxnBegin => fits x.fProducer 8 = true ∧ fits x.fEpoch 2 = true ∧ chkBg b x.fTimeout x.fProducer x.fEpoch v = 0 ∧ x.fID = b) (spI 4) fun t =>
    Sp.congr (Sp.seq (β := TxnBegin) (π := (·.fProducer)) (ok2 := fun x : TxnBegin => fits x.fEpoch 2 = true ∧ chkBg b t x.fProducer x.fEpoch v = 0 ∧ x.fID = b ∧ x.fTimeout = t) (spI 8) fun p =>
    Sp.congr (Sp.seq (β := TxnBegin) (π := (·.fEpoch)) (ok2 := fun x : TxnBegin => chkBg b t p x.fEpoch v = 0 ∧ x.fID = b ∧ x.fTimeout = t ∧ x.fProducer = p) (spI 2) fun e =>
    (Sp_chk (β := TxnBegin) _ _ _).congr (ok' := fun x : TxnBegin => (chkBg b t p x.fEpoch v = 0 ∧ x.fID = b ∧ x.fTimeout = t ∧ x.fProducer = p) ∧ x.fEpoch = e) (fun x => ?_) (fun _ _ => rfl)) (fun x => ?_) (fun _ _ => rfl)) (fun x => ?_) (fun _ _ => rfl)) (fun x => ?_) (fun _ _ => rfl)) (fun x => ?_) (fun x _ => by simp only [encB1, encFx, List.append_nil])
  · obtain ⟨a1, a2, a3, a4⟩ := x
    simp only [TxnBegin.mk.injEq]
    exact ⟨fun ⟨h, h1, h2, h3, h4⟩ => ⟨⟨by rw [h4]; exact h, h1, h2, h3⟩, h4⟩, fun ⟨⟨h, h1, h2, h3⟩, h4⟩ => ⟨by rw [← h4]; exact h, h1, h2, h3, h4⟩⟩
  · exact ⟨fun ⟨h0, h, h1, h2, h3⟩ => ⟨⟨h0, by rw [h3]; exact h, h1, h2⟩, h3⟩, fun ⟨⟨h0, h, h1, h2⟩, h3⟩ => ⟨h0, by rw [← h3]; exact h, h1, h2, h3⟩⟩
  · exact ⟨fun ⟨h0, hk, h, h1, h2⟩ => ⟨⟨h0, hk, by rw [h2]; exact h, h1⟩, h2⟩, fun ⟨⟨h0, hk, h, h1⟩, h2⟩ => ⟨h0, hk, by rw [← h2]; exact h, h1, h2⟩⟩
  · exact ⟨fun ⟨h0, h, hk, h1, h2⟩ => ⟨⟨h0, h, hk, by rw [h2]; exact h1⟩, h2⟩, fun ⟨⟨h0, h, hk, h1⟩, h2⟩ => ⟨h0, h, hk, by rw [← h2]; exact h1, h2⟩⟩
  · exact Iff.rfl
theorem Sp_beg0 (v : Int) : Sp (pBeg0 v) encB0 (fun x => okFx x.fID ∧ fits x.fTimeout 4 = true ∧ chkBg x.fID x.fTimeout x.fProducer x.fEpoch v = 0 ∧ x.fProducer = -1 ∧ x.fEpoch = -1) := by
  refine Sp.congr (Sp.seq (β := TxnBegin) (π := (·.fID)) (ok2 := fun x : TxnBegin => fits x.fTimeout 4 = true ∧ chkBg x.fID x.fTimeout (-1) (-1) v = 0 ∧ x.fProducer = -1 ∧ x.fEpoch = -1) (Sp_fixed 2 (by decide) (by decide)) fun b =>
    Sp.congr (Sp.seq (β := TxnBegin) (π := (·.fTimeout)) (ok2 := fun x : TxnBegin => chkBg b x.fTimeout (-1) (-1) v = 0 ∧ x.fID = b ∧ x.fProducer = -1 ∧ x.fEpoch = -1) (spI 4) fun t =>
    (Sp_chk (β := TxnBegin) _ _ _).congr (ok' := fun x : TxnBegin => (chkBg b x.fTimeout (-1) (-1) v = 0 ∧ x.fID = b ∧ x.fProducer = -1 ∧ x.fEpoch = -1) ∧ x.fTimeout = t) (fun x => ?_) (fun _ _ => rfl)) (fun x => ?_) (fun _ _ => rfl)) (fun x => ?_) (fun x _ => by simp only [encB0, encFx, List.append_nil])
  · obtain ⟨a1, a2, a3, a4⟩ := x
    simp only [TxnBegin.mk.injEq]
    exact ⟨fun ⟨h, h1, h2, h3, h4⟩ => ⟨⟨by rw [h2]; exact h, h1, h3, h4⟩, h2⟩, fun ⟨⟨h, h1, h3, h4⟩, h2⟩ => ⟨by rw [← h2]; exact h, h1, h2, h3, h4⟩⟩
  · exact ⟨fun ⟨h0, h, h1, h2, h3⟩ => ⟨⟨h0, by rw [h1]; exact h, h2, h3⟩, h1⟩, fun ⟨⟨h0, h, h2, h3⟩, h1⟩ => ⟨h0, by rw [← h1]; exact h, h1, h2, h3⟩⟩
  · exact ⟨fun ⟨h0, h, h1, h2, h3⟩ => ⟨h0, h, by rw [h2, h3]; exact h1, h2, h3⟩, fun ⟨h0, h, h1, h2, h3⟩ => ⟨h0, h, by rw [h2, h3] at h1; exact h1, h2, h3⟩⟩
end Go.Proofs.Ytagbblaegdedpaa.Sl
