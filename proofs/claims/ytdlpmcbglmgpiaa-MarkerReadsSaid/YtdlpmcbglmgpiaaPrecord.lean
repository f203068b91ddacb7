/- Printed by g2.py: package record. -/
import Derived.Test.YtdlpmcbglmgpiaaGb
import Derived.Test.YtdlpmcbglmgpiaaNg
namespace Go.Proofs.Ytdlpmcbglmgpiaa.Sl
open Go.RowKit
set_option linter.unusedVariables false
set_option linter.unusedSimpArgs false
set_option maxRecDepth 100000
def ft_record : FTab := [(58, 1, 1), (96, 1, 1), (96, 2, 2), (96, 3, 4), (96, 4, 6)]
theorem ft_record_ok : (ft_record).OK Try.prog := ⟨FOK.mk Try.runUnderlying58 rfl Try.sizeOf26 rfl, FOK.mk Try.runUnderlying96 rfl Try.sizeOf3 rfl, FOK.mk Try.runUnderlying96 rfl Try.sizeOf26 rfl, FOK.mk Try.runUnderlying96 rfl Try.sizeOf26 rfl, FOK.mk Try.runUnderlying96 rfl Try.sizeOf48 rfl, trivial⟩
theorem sok_record_214_1 : SOK Try.prog 214 26 1 2 #[.bool false, .string ⟨#[]⟩] := SOK.mk Try.runUnderlying214 Try.sizeOf26 Try.zeroValue26 (by decide) (by kernel_rfl)
theorem sok_record_214_2 : SOK Try.prog 214 26 2 2 #[.bool false, .string ⟨#[]⟩, .bool false, .string ⟨#[]⟩] := SOK.mk Try.runUnderlying214 Try.sizeOf26 Try.zeroValue26 (by decide) (by kernel_rfl)
def f_record_rights_l1 : List Bl → Bool → Option (Lp Bool Bool)
  | [], y3 => some (Lp.go y3)
  | x9 :: xs, y3 => (gRight x9).bind fun x14 => if x14 = true then (f_record_rights_l1 xs y3) else some (Lp.ret false)
def f_record_rights (a0 : List Bl) : Option (Bool) := (f_record_rights_l1 a0 false).bind fun e => match e with | .ret r => some r | .go y17 => some true
set_option maxRecDepth 100000 in
set_option maxHeartbeats 4000000 in
theorem f_record_rights_spec (a0 : List Bl) (A1 : Option Addr) (c2 : Nat) (r : Bool) (h : f_record_rights a0 = some r) : SpecX Try.prog 158 #[.slice A1 a0.length c2] (RX.of (sliceRd 2 Bl_rd) [.slice A1 a0.length c2] a0) (EmpR) (fun v A' N => v = .bool r ∧ A' = EmpR ∧ N = []) := by
  refine enterA Try.func158 rfl Try.ntmps158 rfl ?_
  intro F w hX
  unfold f_record_rights at h
  refine T.seq (T.region rfl ?_)
  refine TL.run ft_record_ok [0] rfl rfl ?_
  refine TL.nil (X.seq (T.seq (T.seq (T.region rfl ?_))))
  refine TL.run ft_record_ok [0] rfl rfl ?_
  refine TL.q rfl .u (Ex.lenS rfl Try.runUnderlying214) rfl ?_
  refine TL.run ft_record_ok [2] rfl rfl ?_
  refine TL.nil (X.seq (T.block ?_))
  obtain ⟨E5, hE6, hO7⟩ := Option.bind_eq_some_iff.1 h
  have hk11len := RX.len_le hX
  refine T.lp (fun m e Rs => ∃ (y3 : Bool) (k4 : Nat), k4 + m = a0.length ∧ e = [(2, .bool y3), (5, .slice A1 a0.length c2), (6, .int .i64 (a0.length : Int)), (7, .int .i64 (k4 : Int))] ∧ Rs = [EmpR] ∧ f_record_rights_l1 (a0.drop k4) y3 = some E5) (a0.length) [0] ⟨false, 0, by simp, rfl, rfl, by rw [List.drop_zero]; exact hE6⟩ (by rfl) (by rfl) ?_
  rintro m8 _ _ ⟨y3, k4, hk11, rfl, rfl, hl10⟩
  clear hE6 h
  cases m8 with
  | zero =>
    have h := hl10
    clear hl10
    rw [List.drop_of_length_le (by omega), f_record_rights_l1] at h
    have hk11ge : ¬ ((k4 : Int) < (a0.length : Int)) := by omega
    refine T.seq (T.region rfl ?_)
    refine TL.run ft_record_ok [0] rfl rfl ?_
    refine TL.nil (X.seq (T.seq ?_))
    refine T.no rfl (decide_eq_false hk11ge) ?_
    obtain rfl := Option.some.inj h
    replace h := hO7
    clear hO7
    try dsimp only at h
    refine T.exit (X.exs (X.exs (X.ex (X.seq (T.seq (T.region rfl ?_))))))
    refine TL.run ft_record_ok [0] rfl rfl ?_
    obtain rfl := Option.some.inj h
    exact TL.nil (X.seq (T.ret (X.done1 [0] Try.results158 (RV.tm rfl) ⟨rfl, rfl, rfl⟩ (by rfl) (.inl rfl))))
  | succ m8 =>
    have h := hl10
    clear hl10
    obtain ⟨x9, hxx9⟩ : ∃ x, a0[k4]? = some x := ⟨_, List.getElem?_eq_getElem (by omega)⟩
    rw [drop_cons hxx9, f_record_rights_l1] at h
    have hk11lt : (k4 : Int) < (a0.length : Int) := by omega
    refine T.seq (T.region rfl ?_)
    refine TL.run ft_record_ok [0] rfl rfl ?_
    refine TL.nil (X.seq (T.seq ?_))
    refine T.yes rfl (decide_eq_true hk11lt) ?_
    obtain ⟨gz12, oz12, rfl, z12cs, z12cl, z12cc, z12nf, z12r⟩ := RX.elem (by decide) hX hxx9
    obtain ⟨z12S, z12r, z12rr⟩ := z12r
    obtain rfl : z12cs = [.bool x9.null, .string (bsOf x9.data)] := z12r
    refine T.skip (X.seq (T.seq (T.block (T.seq (T.region rfl ?_)))))
    refine TL.q rfl .u (Ex.ixS (k := k4) rfl rfl rfl Try.runUnderlying214 Try.sizeOf26 (List.getElem?_eq_some_iff.1 hxx9).1) rfl ?_
    refine TL.q rfl .u (Ex.oS (us := [.bool x9.null, .string (bsOf x9.data)]) 0 rfl Try.isAgg26 Try.sizeOf26 z12nf z12cc rfl rfl rfl) rfl ?_
    refine TL.alloc rfl .u Try.zeroValue26 rfl (fun b13 => ?_)
    refine TL.st0 (cs' := #[.bool x9.null, .string (bsOf x9.data)]) rfl .u rfl rfl Try.sizeOf26 rfl rfl rfl rfl ?_
    refine TL.nil (X.seq (T.seq (T.region rfl ?_)))
    refine TL.q rfl .u (Ex.bS (us := [.bool x9.null, .string (bsOf x9.data)]) 0 rfl Try.isAgg26 Try.sizeOf26 rfl rfl rfl) rfl ?_
    obtain ⟨x14, hx15, h⟩ := Option.bind_eq_some_iff.1 h
    refine TL.ce rfl .u (.fn Try.call85 rfl) (gRight_spec x9 _ hx15) (fun _ hs => (RX.reads_triv _ _)) rfl ?_
    refine TL.run ft_record_ok [2] rfl rfl ?_
    by_cases c16 : x14 = true
    · replace h := ifT c16 h
      refine TL.nil (X.seq ?_)
      refine T.no rfl (bn_f c16) ?_
      refine T.skip (X.blk (X.seq (T.region rfl ?_)))
      refine TL.q rfl .u (Ex.add rfl rfl (by omega)) rfl ?_
      refine TL.run ft_record_ok [1] rfl rfl ?_
      exact TL.nil (X.back (m' := m8) [1] (by omega) ⟨y3, k4 + 1, by omega, rfl, rfl, h⟩ (by rfl) (by rfl))
    · replace h := ifF c16 h
      replace c16 := eq_false_of_ne_true c16
      refine TL.nil (X.seq ?_)
      refine T.yes rfl (bn_t c16) ?_
      refine T.seq (T.region rfl ?_)
      refine TL.run ft_record_ok [0] rfl rfl ?_
      obtain rfl := Option.some.inj h
      replace h := hO7
      clear hO7
      try dsimp only at h
      obtain rfl := Option.some.inj h
      exact TL.nil (X.seq (T.ret (X.rb (X.rs (X.rs (X.rb (X.rs (X.done1 [1] Try.results158 (RV.tm rfl) ⟨rfl, rfl, rfl⟩ (by rfl) (.inl rfl)))))))))
def f_record_Right_l1 : List Hd → Int → Option (Lp Int Int)
  | [], y12 => some (Lp.go y12)
  | x18 :: xs, y12 => (f_record_rights [x18.fValue]).bind fun x24 => if x24 = true then (f_record_Right_l1 xs y12) else some (Lp.ret 4)
def f_record_Right (a0 : Rec) : Option (Int) := if a0.fOffset < 0 then some 11 else ((gFits a0.fOffset 4).bind fun x5 => if x5 = true then ((f_record_rights [a0.fKey, a0.fValue]).bind fun x9 => if x9 = true then ((f_record_Right_l1 a0.fHeaders 0).bind fun e => match e with | .ret r => some r | .go y27 => some 0) else some 4) else some 11)
set_option maxRecDepth 100000 in
set_option maxHeartbeats 4000000 in
theorem f_record_Right_spec (a0 : Rec) (A1 : Option Addr) (c2 : Nat) (r : Int) (h : f_record_Right a0 = some r) : SpecX Try.prog 142 #[.agg #[.int .i64 a0.fTime, .int .i64 a0.fOffset, .bool a0.fKey.null, .string (bsOf a0.fKey.data), .bool a0.fValue.null, .string (bsOf a0.fValue.data), .slice A1 a0.fHeaders.length c2]] (RX.of (sliceRd 3 Hd_rd) [.slice A1 a0.fHeaders.length c2] a0.fHeaders) (EmpR) (fun v A' N => v = .int .i64 r ∧ A' = EmpR ∧ N = []) := by
  refine enterA Try.func142 rfl Try.ntmps142 rfl ?_
  intro F w hX
  unfold f_record_Right at h
  refine T.seq (T.region rfl ?_)
  refine TL.box rfl .u rfl rfl (fun b3 => ?_)
  refine TL.run ft_record_ok [1] rfl rfl ?_
  refine TL.nil (X.seq (T.seq (T.seq (T.region rfl ?_))))
  refine TL.run ft_record_ok [0] rfl rfl ?_
  refine TL.q rfl .u (Ex.b1 0 rfl Try.isAgg3 rfl rfl) rfl ?_
  by_cases c4 : a0.fOffset < 0
  · replace h := ifT c4 h
    refine TL.run ft_record_ok [2, 3] rfl rfl ?_
    refine TL.no rfl (.gn rfl rfl (decide_eq_true c4)) rfl ?_
    refine TL.no rfl (.gn rfl rfl (decide_eq_true c4)) rfl ?_
    refine TL.no rfl (.gn rfl rfl (decide_eq_true c4)) rfl ?_
    refine TL.no rfl (.gn rfl rfl (decide_eq_true c4)) rfl ?_
    refine TL.q rfl .u (Ex.py rfl (decide_eq_true c4) rfl) rfl ?_
    refine TL.nil (X.seq ?_)
    refine T.yes rfl rfl ?_
    refine T.seq (T.region rfl ?_)
    refine TL.run ft_record_ok [0] rfl rfl ?_
    obtain rfl := Option.some.inj h
    exact TL.nil (X.seq (T.ret (X.rs (X.done1 [1] Try.results142 (RV.tm rfl) ⟨rfl, rfl, rfl⟩ (by rfl) (.inl rfl)))))
  · replace h := ifF c4 h
    refine TL.run ft_record_ok [2, 3] rfl rfl ?_
    refine TL.q rfl (.g rfl rfl (decide_eq_false c4)) (Ex.ft ft_record_ok rfl) rfl ?_
    refine TL.q rfl (.g rfl rfl (decide_eq_false c4)) (Ex.b1 0 rfl Try.isAgg3 rfl rfl) rfl ?_
    obtain ⟨x5, hx6, h⟩ := Option.bind_eq_some_iff.1 h
    refine TL.ce rfl (.g rfl rfl (decide_eq_false c4)) (.fn Try.call84 rfl) (SpecX.pure (fun w => gFits_spec a0.fOffset 4 _ hx6 w)) (fun _ _ => RX.reads_triv _ _) rfl ?_
    refine TL.q rfl (.g rfl rfl (decide_eq_false c4)) (Ex.ft ft_record_ok rfl) rfl ?_
    refine TL.q rfl .u (Ex.pn rfl (decide_eq_false c4) rfl) rfl ?_
    by_cases c7 : x5 = true
    · replace h := ifT c7 h
      refine TL.nil (X.seq ?_)
      refine T.no rfl (bn_f c7) ?_
      refine T.skip (X.seq (T.seq (T.seq (T.region rfl ?_))))
      refine TL.run ft_record_ok [0] rfl rfl ?_
      refine TL.q rfl .u (Ex.bS (us := [.bool a0.fKey.null, .string (bsOf a0.fKey.data)]) 0 rfl Try.isAgg26 Try.sizeOf26 rfl rfl rfl) rfl ?_
      refine TL.run ft_record_ok [2] rfl rfl ?_
      refine TL.q rfl .u (Ex.bS (us := [.bool a0.fValue.null, .string (bsOf a0.fValue.data)]) 0 rfl Try.isAgg26 Try.sizeOf26 rfl rfl rfl) rfl ?_
      refine TL.lit (cells := #[.bool a0.fKey.null, .string (bsOf a0.fKey.data), .bool a0.fValue.null, .string (bsOf a0.fValue.data)]) rfl .u sok_record_214_2 rfl (by rfl) rfl (fun b8 => ?_)
      refine TL.rowOf (us := [.bool a0.fKey.null, .string (bsOf a0.fKey.data), .bool a0.fValue.null, .string (bsOf a0.fValue.data)]) (xs := [a0.fKey, a0.fValue]) (E := Bl_rd) (z := 2) rfl (Nat.le_of_ble_eq_true rfl) (fun _ => ⟨rfl, rfl, ⟨rfl, rfl, rfl⟩⟩) ?_
      obtain ⟨x9, hx10, h⟩ := Option.bind_eq_some_iff.1 h
      refine TL.ce rfl .u (.fn Try.call158 rfl) (f_record_rights_spec [a0.fKey, a0.fValue] _ _ _ hx10) (fun _ hs => (SrcE.res 0 hs rfl (fun w G h => own_reads (by decide) w G h))) rfl ?_
      refine TL.run ft_record_ok [6] rfl rfl ?_
      by_cases c11 : x9 = true
      · replace h := ifT c11 h
        refine TL.nil (X.seq ?_)
        refine T.no rfl (bn_f c11) ?_
        refine T.skip (X.seq (T.seq (T.seq (T.region rfl ?_))))
        refine TL.run ft_record_ok [0] rfl rfl ?_
        refine TL.q rfl .u (Ex.b1 1 rfl Try.isAgg48 rfl rfl) rfl ?_
        refine TL.q rfl .u (Ex.lenS rfl Try.runUnderlying48) rfl ?_
        refine TL.run ft_record_ok [3] rfl rfl ?_
        refine TL.nil (X.seq (T.block ?_))
        obtain ⟨E14, hE15, hO16⟩ := Option.bind_eq_some_iff.1 h
        have hk20len := RX.len_le hX
        refine T.lp (fun m e Rs => ∃ (y12 : Int) (k13 : Nat), k13 + m = a0.fHeaders.length ∧ e = [(2, .int .i64 y12), (22, .slice A1 a0.fHeaders.length c2), (23, .int .i64 (a0.fHeaders.length : Int)), (24, .int .i64 (k13 : Int))] ∧ Rs = [OwnR 26 2 Bl_rd (.slice (some ⟨b8, 0, none⟩) 2 2) [a0.fKey, a0.fValue], BlkR b3 96 #[.int .i64 a0.fTime, .int .i64 a0.fOffset, .bool a0.fKey.null, .string (bsOf a0.fKey.data), .bool a0.fValue.null, .string (bsOf a0.fValue.data), .slice A1 a0.fHeaders.length c2], EmpR] ∧ f_record_Right_l1 (a0.fHeaders.drop k13) y12 = some E14) (a0.fHeaders.length) [0, 0, 0] ⟨0, 0, by simp, rfl, rfl, by rw [List.drop_zero]; exact hE15⟩ (by rfl) (by rfl) ?_
        rintro m17 _ _ ⟨y12, k13, hk20, rfl, rfl, hl19⟩
        clear hE15 h
        cases m17 with
        | zero =>
          have h := hl19
          clear hl19
          rw [List.drop_of_length_le (by omega), f_record_Right_l1] at h
          have hk20ge : ¬ ((k13 : Int) < (a0.fHeaders.length : Int)) := by omega
          refine T.seq (T.region rfl ?_)
          refine TL.run ft_record_ok [0] rfl rfl ?_
          refine TL.nil (X.seq (T.seq ?_))
          refine T.no rfl (decide_eq_false hk20ge) ?_
          obtain rfl := Option.some.inj h
          replace h := hO16
          clear hO16
          try dsimp only at h
          refine T.exit (X.exs (X.exs (X.ex (X.seq (T.seq (T.region rfl ?_))))))
          refine TL.run ft_record_ok [0] rfl rfl ?_
          obtain rfl := Option.some.inj h
          exact TL.nil (X.seq (T.ret (X.done1 [2] Try.results142 (RV.tm rfl) ⟨rfl, rfl, rfl⟩ (by rfl) (.inl rfl))))
        | succ m17 =>
          have h := hl19
          clear hl19
          obtain ⟨x18, hxx18⟩ : ∃ x, a0.fHeaders[k13]? = some x := ⟨_, List.getElem?_eq_getElem (by omega)⟩
          rw [drop_cons hxx18, f_record_Right_l1] at h
          have hk20lt : (k13 : Int) < (a0.fHeaders.length : Int) := by omega
          refine T.seq (T.region rfl ?_)
          refine TL.run ft_record_ok [0] rfl rfl ?_
          refine TL.nil (X.seq (T.seq ?_))
          refine T.yes rfl (decide_eq_true hk20lt) ?_
          obtain ⟨gz21, oz21, rfl, z21cs, z21cl, z21cc, z21nf, z21r⟩ := RX.elem (by decide) hX hxx18
          obtain ⟨z21S, z21r, z21rr⟩ := z21r
          obtain rfl : z21cs = [.string (bsOf x18.fKey), .bool x18.fValue.null, .string (bsOf x18.fValue.data)] := z21r
          refine T.skip (X.seq (T.seq (T.block (T.seq (T.region rfl ?_)))))
          refine TL.q rfl .u (Ex.ixS (k := k13) rfl rfl rfl Try.runUnderlying48 Try.sizeOf58 (List.getElem?_eq_some_iff.1 hxx18).1) rfl ?_
          refine TL.q rfl .u (Ex.oS (us := [.string (bsOf x18.fKey), .bool x18.fValue.null, .string (bsOf x18.fValue.data)]) 0 rfl Try.isAgg58 Try.sizeOf58 z21nf z21cc rfl rfl rfl) rfl ?_
          refine TL.alloc rfl .u Try.zeroValue58 rfl (fun b22 => ?_)
          refine TL.st0 (cs' := #[.string (bsOf x18.fKey), .bool x18.fValue.null, .string (bsOf x18.fValue.data)]) rfl .u rfl rfl Try.sizeOf58 rfl rfl rfl rfl ?_
          refine TL.nil (X.seq (T.seq (T.region rfl ?_)))
          refine TL.run ft_record_ok [0] rfl rfl ?_
          refine TL.q rfl .u (Ex.bS (us := [.bool x18.fValue.null, .string (bsOf x18.fValue.data)]) 0 rfl Try.isAgg26 Try.sizeOf26 rfl rfl rfl) rfl ?_
          refine TL.lit (cells := #[.bool x18.fValue.null, .string (bsOf x18.fValue.data)]) rfl .u sok_record_214_1 rfl (by rfl) rfl (fun b23 => ?_)
          refine TL.rowOf (us := [.bool x18.fValue.null, .string (bsOf x18.fValue.data)]) (xs := [x18.fValue]) (E := Bl_rd) (z := 2) rfl (Nat.le_of_ble_eq_true rfl) (fun _ => ⟨rfl, rfl, rfl⟩) ?_
          obtain ⟨x24, hx25, h⟩ := Option.bind_eq_some_iff.1 h
          refine TL.ce rfl .u (.fn Try.call158 rfl) (f_record_rights_spec [x18.fValue] _ _ _ hx25) (fun _ hs => (SrcE.res 0 hs rfl (fun w G h => own_reads (by decide) w G h))) rfl ?_
          refine TL.run ft_record_ok [4] rfl rfl ?_
          by_cases c26 : x24 = true
          · replace h := ifT c26 h
            refine TL.nil (X.seq ?_)
            refine T.no rfl (bn_f c26) ?_
            refine T.skip (X.blk (X.seq (T.region rfl ?_)))
            refine TL.q rfl .u (Ex.add rfl rfl (by omega)) rfl ?_
            refine TL.run ft_record_ok [1] rfl rfl ?_
            exact TL.nil (X.back (m' := m17) [2, 2, 2] (by omega) ⟨y12, k13 + 1, by omega, rfl, rfl, h⟩ (by rfl) (by rfl))
          · replace h := ifF c26 h
            replace c26 := eq_false_of_ne_true c26
            refine TL.nil (X.seq ?_)
            refine T.yes rfl (bn_t c26) ?_
            refine T.seq (T.region rfl ?_)
            refine TL.run ft_record_ok [0] rfl rfl ?_
            obtain rfl := Option.some.inj h
            replace h := hO16
            clear hO16
            try dsimp only at h
            obtain rfl := Option.some.inj h
            exact TL.nil (X.seq (T.ret (X.rb (X.rs (X.rs (X.rb (X.rs (X.done1 [4] Try.results142 (RV.tm rfl) ⟨rfl, rfl, rfl⟩ (by rfl) (.inl rfl)))))))))
      · replace h := ifF c11 h
        replace c11 := eq_false_of_ne_true c11
        refine TL.nil (X.seq ?_)
        refine T.yes rfl (bn_t c11) ?_
        refine T.seq (T.region rfl ?_)
        refine TL.run ft_record_ok [0] rfl rfl ?_
        obtain rfl := Option.some.inj h
        exact TL.nil (X.seq (T.ret (X.rs (X.done1 [2] Try.results142 (RV.tm rfl) ⟨rfl, rfl, rfl⟩ (by rfl) (.inl rfl)))))
    · replace h := ifF c7 h
      replace c7 := eq_false_of_ne_true c7
      refine TL.nil (X.seq ?_)
      refine T.yes rfl (bn_t c7) ?_
      refine T.seq (T.region rfl ?_)
      refine TL.run ft_record_ok [0] rfl rfl ?_
      obtain rfl := Option.some.inj h
      exact TL.nil (X.seq (T.ret (X.rs (X.done1 [1] Try.results142 (RV.tm rfl) ⟨rfl, rfl, rfl⟩ (by rfl) (.inl rfl)))))
end Go.Proofs.Ytdlpmcbglmgpiaa.Sl
