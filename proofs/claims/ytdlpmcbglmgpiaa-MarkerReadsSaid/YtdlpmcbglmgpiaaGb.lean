/- The contracts of the lowest layers, in one form (printed by base.py). -/
import Derived.Test.YtdlpmcbglmgpiaaG
import Derived.Test.YtdlpmcbglmgpiaaKey
import Derived.Test.YtdlpmcbglmgpiaaR04g
namespace Go.Proofs.Ytdlpmcbglmgpiaa.Sl
open Go.RowKit
set_option linter.unusedVariables false
set_option linter.unusedSimpArgs false
theorem bsOf_app (a b : List UInt8) : bsOf a ++ bsOf b = bsOf (a ++ b) := by
  apply ByteArray.ext
  simp [bsOf]
theorem bsOf_extract (l : List UInt8) (a b : Nat) : (bsOf l).extract a b = bsOf ((l.drop a).take (b - a)) := by rw [str_extract, bsOf_list]
theorem bsOf_extract0 (l : List UInt8) (b : Nat) : (bsOf l).extract 0 b = bsOf (l.take b) := by rw [bsOf_extract]; simp
theorem bsOf_at {l : List UInt8} {i : Nat} {c : UInt8} (h : l[i]? = some c) : ∃ hh : i < (bsOf l).size, (bsOf l)[i] = c := by
  obtain ⟨h1, rfl⟩ := List.getElem?_eq_some_iff.1 h
  exact ⟨by rw [bsOf_size]; exact h1, bsOf_get l i (by rw [bsOf_size]; exact h1)⟩
theorem bsOf_extractE (l : List UInt8) (a : Nat) : (bsOf l).extract a l.length = bsOf (l.drop a) := by rw [bsOf_extract, List.take_of_length_le (by simp)]
theorem OPutL_spec (b : Nat) (st : List UInt8 × Int) (s : List UInt8) (hl : st.1.length + s.length ≤ 140737488355328) :
    Spec Try.prog 152 #[.pointer (some ⟨b, 0, none⟩), .string (bsOf s)] (OutR b st) (fun v A' N => v = .tuple #[] ∧ A' = OutR b (oput st s) ∧ N = []) := by
  have h := Put_spec b st (bsOf s) (by rw [bsOf_size]; exact hl)
  rwa [bsOf_list] at h
theorem OTextT_spec (b : Nat) (st : List UInt8 × Int) : Spec Try.prog 23 #[.pointer (some ⟨b, 0, none⟩)] (OutR b st) (fun v A' N => v = .tuple #[.string (bsOf (otx st).1), .int .i64 (otx st).2] ∧ A' = OutR b st ∧ N = []) := by
  have h := Text_spec b st
  rwa [otext_strErr] at h
theorem RBytesI_any (n k : Int) (h0 : -9223372036854775808 ≤ n) (h1 : n ≤ 9223372036854775807) (hk0 : 0 ≤ k) (hk : k ≤ 8) :
    Spec0 Try.prog 79 #[.int .i64 n, .int .i64 k] (fun v N => v = .string (bsOf (be n k.toNat)) ∧ N = []) := by
  have h := RBytes_any n k.toNat h0 h1 (by omega)
  rwa [show ((k.toNat : Nat) : Int) = k by omega] at h
theorem RPutI_spec (n : Int) (h0 : 0 ≤ n) (hn : n < 18446744073709551616) : Spec0 Try.prog 131 #[.int .u64 n] (fun v N => v = .string (bsOf (vput n.toNat)) ∧ N = []) := by
  have h := RPut_spec n.toNat (by omega)
  rwa [show ((n.toNat : Nat) : Int) = n by omega] at h
theorem RBackI_any (n : Int) (h0 : 0 ≤ n) (hn : n < 18446744073709551616) (w : World) : Calls Try.prog 96 #[.int .u64 n] w fun e w' => e = .returned (.int .i64 (vback n.toNat)) ∧ w = w' := by
  have h := RBack_any n.toNat (by omega) w
  rwa [show ((n.toNat : Nat) : Int) = n by omega] at h
theorem RGetT_any (l : List UInt8) (bs : Int) (hb : bs = 32 ∨ bs = 64) (hl : l.length ≤ 140737488355328) (w : World) :
    Calls Try.prog 95 #[.string (bsOf l), .int .i64 bs] w fun e w' => e = .returned (.tuple #[.int .u64 ((vgot (vgo bs l 0 0 0)).1 : Int), .int .i64 ((vgot (vgo bs l 0 0 0)).2.1 : Int), .int .i64 (vgot (vgo bs l 0 0 0)).2.2]) ∧ w = w' := RGet_any l bs hb hl w
theorem RBFixedI_spec (b : Bl) (k : Int) (h0 : 0 ≤ k) (hk : k ≤ 8) (hl : b.data.length ≤ 140737488355328) : Spec0 Try.prog 80 #[blV b, .int .i64 k] (fun v N => v = .string (bsOf (be (blen b) k.toNat ++ b.data)) ∧ N = []) := by
  have h := RBFixed_spec b k.toNat (by omega) hl
  rwa [show ((k.toNat : Nat) : Int) = k by omega] at h
theorem RFixedI_spec (l : List UInt8) (k : Int) (h0 : 0 ≤ k) (hk : k ≤ 8) (hl : l.length ≤ 140737488355328) : Spec0 Try.prog 78 #[.string (bsOf l), .int .i64 k] (fun v N => v = gtV (rfixed l k.toNat) ∧ N = []) := by
  have h := RFixed_spec l k.toNat (by omega) hl
  rwa [show ((k.toNat : Nat) : Int) = k by omega] at h
def gOFail (st : List UInt8 × Int) (e : Int) : Option (List UInt8 × Int) := some (ofail st e)
theorem gOFail_eq (st : List UInt8 × Int) (e : Int) : gOFail st e = some (ofail st e) := rfl
theorem gOFail_spec (g : Nat) (st : List UInt8 × Int) (e : Int) (r : List UInt8 × Int) (h : gOFail st e = some r) : SpecX Try.prog 81 #[.pointer (some ⟨g, 0, none⟩), .int .i64 e] .triv (OutR g st) (fun v A' N => v = .tuple #[] ∧ A' = OutR g r ∧ N = []) := by
  unfold gOFail at h
  obtain rfl := Option.some.inj h
  exact SpecX.of_spec (Fail_spec g st e)
def gOPut (st : List UInt8 × Int) (s : List UInt8) : Option (List UInt8 × Int) := if st.1.length + s.length ≤ 140737488355328 then some (oput st s) else none
theorem gOPut_eq (st : List UInt8 × Int) (s : List UInt8) (h : st.1.length + s.length ≤ 140737488355328) : gOPut st s = some (oput st s) := if_pos h
theorem gOPut_spec (g : Nat) (st : List UInt8 × Int) (s : List UInt8) (r : List UInt8 × Int) (h : gOPut st s = some r) : SpecX Try.prog 152 #[.pointer (some ⟨g, 0, none⟩), .string (bsOf s)] .triv (OutR g st) (fun v A' N => v = .tuple #[] ∧ A' = OutR g r ∧ N = []) := by
  unfold gOPut at h
  split at h
  · rename_i h1
    obtain rfl := Option.some.inj h
    exact SpecX.of_spec (OPutL_spec g st s h1)
  · simp at h
def gOByte (st : List UInt8 × Int) (c : Int) : Option (List UInt8 × Int) := if 0 ≤ c ∧ c < 256 ∧ st.1.length + 1 ≤ 140737488355328 then some (oput st [UInt8.ofNat c.toNat]) else none
theorem gOByte_eq (st : List UInt8 × Int) (c : Int) (h : 0 ≤ c ∧ c < 256 ∧ st.1.length + 1 ≤ 140737488355328) : gOByte st c = some (oput st [UInt8.ofNat c.toNat]) := if_pos h
theorem gOByte_spec (g : Nat) (st : List UInt8 × Int) (c : Int) (r : List UInt8 × Int) (h : gOByte st c = some r) : SpecX Try.prog 101 #[.pointer (some ⟨g, 0, none⟩), .int .u8 c] .triv (OutR g st) (fun v A' N => v = .tuple #[] ∧ A' = OutR g r ∧ N = []) := by
  unfold gOByte at h
  split at h
  · rename_i h1
    obtain rfl := Option.some.inj h
    exact SpecX.of_spec (ByteI_spec g st c h1.1 h1.2.1 h1.2.2)
  · simp at h
def gOText (st : List UInt8 × Int)  : Option (List UInt8 × Int × (List UInt8 × Int)) := some ((otx st).1, (otx st).2, st)
theorem gOText_eq (st : List UInt8 × Int)  : gOText st  = some ((otx st).1, (otx st).2, st) := rfl
theorem gOText_spec (g : Nat) (st : List UInt8 × Int)  (r : List UInt8 × Int × (List UInt8 × Int)) (h : gOText st  = some r) : SpecX Try.prog 23 #[.pointer (some ⟨g, 0, none⟩)] .triv (OutR g st) (fun v A' N => v = .tuple #[.string (bsOf r.1), .int .i64 r.2.1] ∧ A' = OutR g r.2.2 ∧ N = []) := by
  unfold gOText at h
  obtain rfl := Option.some.inj h
  exact SpecX.of_spec (OTextT_spec g st)
def gOInt (st : List UInt8 × Int) (n : Int) (size : Int) : Option (List UInt8 × Int) := if (-9223372036854775808 ≤ n ∧ n ≤ 9223372036854775807) ∧ st.1.length + 8 ≤ 140737488355328 then some (oint st n size) else none
theorem gOInt_eq (st : List UInt8 × Int) (n : Int) (size : Int) (h : (-9223372036854775808 ≤ n ∧ n ≤ 9223372036854775807) ∧ st.1.length + 8 ≤ 140737488355328) : gOInt st n size = some (oint st n size) := if_pos h
theorem gOInt_spec (g : Nat) (st : List UInt8 × Int) (n : Int) (size : Int) (r : List UInt8 × Int) (h : gOInt st n size = some r) : SpecX Try.prog 82 #[.pointer (some ⟨g, 0, none⟩), .int .i64 n, .int .i64 size] .triv (OutR g st) (fun v A' N => v = .tuple #[] ∧ A' = OutR g r ∧ N = []) := by
  unfold gOInt at h
  split at h
  · rename_i h1
    obtain rfl := Option.some.inj h
    exact SpecX.of_spec (OutInt_spec g st n size h1.1.1 h1.1.2 h1.2)
  · simp at h
def gFits  (n : Int) (size : Int) : Option (Bool) := if (-9223372036854775808 ≤ n ∧ n ≤ 9223372036854775807) then some (fits n size) else none
theorem gFits_eq  (n : Int) (size : Int) (h : (-9223372036854775808 ≤ n ∧ n ≤ 9223372036854775807)) : gFits  n size = some (fits n size) := if_pos h
theorem gFits_spec (n : Int) (size : Int) (r : Bool) (h : gFits  n size = some r) (w : World) : Calls Try.prog 84 #[.int .i64 n, .int .i64 size] w fun e w' => e = .returned (.bool r) ∧ w = w' := by
  unfold gFits at h
  split at h
  · rename_i h1
    obtain rfl := Option.some.inj h
    exact Fits_any n size w h1.1 h1.2
  · simp at h
def gNew  (s : List UInt8) : Option (I) := if s.length ≤ 9223372036854775807 then some (⟨s, 0, 0⟩ : I) else none
theorem gNew_eq  (s : List UInt8) (h : s.length ≤ 9223372036854775807) : gNew  s = some (⟨s, 0, 0⟩ : I) := if_pos h
theorem gNew_spec (s : List UInt8) (r : I) (h : gNew  s = some r) : SpecX Try.prog 16 #[.string (bsOf s)] .triv EmpR (fun v A' N => ∃ g, v = .pointer (some ⟨g, 0, none⟩) ∧ A' = EmpR ∧ N = [InR g r]) := by
  unfold gNew at h
  split at h
  · rename_i h1
    obtain rfl := Option.some.inj h
    have k := SpecX.of_spec0 (X := .triv) (New_spec (bsOf s) (by rw [bsOf_size]; omega))
    intro F w hA hX
    refine (k F w hA hX).mono ?_
    rintro e w' ⟨v, A', Ns, rfl, ⟨rfl, b, rfl, rfl⟩, hst⟩
    rw [bsOf_list] at hst
    exact ⟨_, _, _, rfl, ⟨b, rfl, rfl, rfl⟩, hst⟩
  · simp at h
def gIFail (st : I) (e : Int) : Option (I) := some (ifail st e)
theorem gIFail_eq (st : I) (e : Int) : gIFail st e = some (ifail st e) := rfl
theorem gIFail_spec (g : Nat) (st : I) (e : Int) (r : I) (h : gIFail st e = some r) : SpecX Try.prog 74 #[.pointer (some ⟨g, 0, none⟩), .int .i64 e] .triv (InR g st) (fun v A' N => v = .tuple #[] ∧ A' = InR g r ∧ N = []) := by
  unfold gIFail at h
  obtain rfl := Option.some.inj h
  exact SpecX.of_spec (IFail_spec g st e)
def gLeft (st : I)  : Option (Int × I) := some ((st.rest.length : Int), st)
theorem gLeft_eq (st : I)  : gLeft st  = some ((st.rest.length : Int), st) := rfl
theorem gLeft_spec (g : Nat) (st : I)  (r : Int × I) (h : gLeft st  = some r) : SpecX Try.prog 86 #[.pointer (some ⟨g, 0, none⟩)] .triv (InR g st) (fun v A' N => v = .int .i64 r.1 ∧ A' = InR g r.2 ∧ N = []) := by
  unfold gLeft at h
  obtain rfl := Option.some.inj h
  exact SpecX.of_spec (Left_spec g st)
def gTake (st : I) (n : Int) : Option (List UInt8 × I) := if (-9223372036854775808 ≤ n ∧ n ≤ 9223372036854775807) then some ((itake st n).1, (itake st n).2) else none
theorem gTake_eq (st : I) (n : Int) (h : (-9223372036854775808 ≤ n ∧ n ≤ 9223372036854775807)) : gTake st n = some ((itake st n).1, (itake st n).2) := if_pos h
theorem gTake_spec (g : Nat) (st : I) (n : Int) (r : List UInt8 × I) (h : gTake st n = some r) : SpecX Try.prog 121 #[.pointer (some ⟨g, 0, none⟩), .int .i64 n] .triv (InR g st) (fun v A' N => v = .string (bsOf r.1) ∧ A' = InR g r.2 ∧ N = []) := by
  unfold gTake at h
  split at h
  · rename_i h1
    obtain rfl := Option.some.inj h
    exact SpecX.of_spec (Take_spec g st n h1.1 h1.2)
  · simp at h
def gInt (st : I) (size : Int) : Option (Int × I) := some ((iint st size).1, (iint st size).2)
theorem gInt_eq (st : I) (size : Int) : gInt st size = some ((iint st size).1, (iint st size).2) := rfl
theorem gInt_spec (g : Nat) (st : I) (size : Int) (r : Int × I) (h : gInt st size = some r) : SpecX Try.prog 72 #[.pointer (some ⟨g, 0, none⟩), .int .i64 size] .triv (InR g st) (fun v A' N => v = .int .i64 r.1 ∧ A' = InR g r.2 ∧ N = []) := by
  unfold gInt at h
  obtain rfl := Option.some.inj h
  exact SpecX.of_spec (IInt_spec g st size)
def gErr (st : I)  : Option (Int × I) := some (st.err, st)
theorem gErr_eq (st : I)  : gErr st  = some (st.err, st) := rfl
theorem gErr_spec (g : Nat) (st : I)  (r : Int × I) (h : gErr st  = some r) : SpecX Try.prog 19 #[.pointer (some ⟨g, 0, none⟩)] .triv (InR g st) (fun v A' N => v = .int .i64 r.1 ∧ A' = InR g r.2 ∧ N = []) := by
  unfold gErr at h
  obtain rfl := Option.some.inj h
  exact SpecX.of_spec (IErr_spec g st)
def gAt (st : I)  : Option (Int × I) := some ((st.pos : Int), st)
theorem gAt_eq (st : I)  : gAt st  = some ((st.pos : Int), st) := rfl
theorem gAt_spec (g : Nat) (st : I)  (r : Int × I) (h : gAt st  = some r) : SpecX Try.prog 20 #[.pointer (some ⟨g, 0, none⟩)] .triv (InR g st) (fun v A' N => v = .int .i64 r.1 ∧ A' = InR g r.2 ∧ N = []) := by
  unfold gAt at h
  obtain rfl := Option.some.inj h
  exact SpecX.of_spec (At_spec g st)
def gClose (st : I)  : Option (Int × I) := some ((iclose st).err, iclose st)
theorem gClose_eq (st : I)  : gClose st  = some ((iclose st).err, iclose st) := rfl
theorem gClose_spec (g : Nat) (st : I)  (r : Int × I) (h : gClose st  = some r) : SpecX Try.prog 26 #[.pointer (some ⟨g, 0, none⟩)] .triv (InR g st) (fun v A' N => v = .int .i64 r.1 ∧ A' = InR g r.2 ∧ N = []) := by
  unfold gClose at h
  obtain rfl := Option.some.inj h
  exact SpecX.of_spec (Close_spec g st)
def gCount (st : I) (size : Int) (each : Int) : Option (Int × I) := if (-9223372036854775808 ≤ size ∧ size ≤ 9223372036854775807) ∧ (-9223372036854775808 ≤ each ∧ each ≤ 9223372036854775807) then some ((icount st size each).1, (icount st size each).2) else none
theorem gCount_eq (st : I) (size : Int) (each : Int) (h : (-9223372036854775808 ≤ size ∧ size ≤ 9223372036854775807) ∧ (-9223372036854775808 ≤ each ∧ each ≤ 9223372036854775807)) : gCount st size each = some ((icount st size each).1, (icount st size each).2) := if_pos h
theorem gCount_spec (g : Nat) (st : I) (size : Int) (each : Int) (r : Int × I) (h : gCount st size each = some r) : SpecX Try.prog 111 #[.pointer (some ⟨g, 0, none⟩), .int .i64 size, .int .i64 each] .triv (InR g st) (fun v A' N => v = .int .i64 r.1 ∧ A' = InR g r.2 ∧ N = []) := by
  unfold gCount at h
  split at h
  · rename_i h1
    obtain rfl := Option.some.inj h
    exact SpecX.of_spec (Count_spec g st size each)
  · simp at h
def gVInt (st : I)  : Option (Int × I) := some ((vbackI (vread 32 st)).1, (vbackI (vread 32 st)).2)
theorem gVInt_eq (st : I)  : gVInt st  = some ((vbackI (vread 32 st)).1, (vbackI (vread 32 st)).2) := rfl
theorem gVInt_spec (g : Nat) (st : I)  (r : Int × I) (h : gVInt st  = some r) : SpecX Try.prog 92 #[.pointer (some ⟨g, 0, none⟩)] .triv (InR g st) (fun v A' N => v = .int .i64 r.1 ∧ A' = InR g r.2 ∧ N = []) := by
  unfold gVInt at h
  obtain rfl := Option.some.inj h
  exact SpecX.of_spec (VInt_spec g st)
def gPutInt (st : List UInt8 × Int) (n : Int) : Option (List UInt8 × Int) := if (-9223372036854775808 ≤ n ∧ n ≤ 9223372036854775807) ∧ st.1.length + 10 ≤ 140737488355328 then some (vputInt st n) else none
theorem gPutInt_eq (st : List UInt8 × Int) (n : Int) (h : (-9223372036854775808 ≤ n ∧ n ≤ 9223372036854775807) ∧ st.1.length + 10 ≤ 140737488355328) : gPutInt st n = some (vputInt st n) := if_pos h
theorem gPutInt_spec (g : Nat) (st : List UInt8 × Int) (n : Int) (r : List UInt8 × Int) (h : gPutInt st n = some r) : SpecX Try.prog 87 #[.pointer (some ⟨g, 0, none⟩), .int .i64 n] .triv (OutR g st) (fun v A' N => v = .tuple #[] ∧ A' = OutR g r ∧ N = []) := by
  unfold gPutInt at h
  split at h
  · rename_i h1
    obtain rfl := Option.some.inj h
    exact SpecX.of_spec (VPutInt_spec g st n h1.1.1 h1.1.2 h1.2)
  · simp at h
def gRInt  (s : List UInt8) : Option (Int) := if s.length ≤ 8 then some (beInt s) else none
theorem gRInt_eq  (s : List UInt8) (h : s.length ≤ 8) : gRInt  s = some (beInt s) := if_pos h
theorem gRInt_spec (s : List UInt8) (r : Int) (h : gRInt  s = some r) (w : World) : Calls Try.prog 76 #[.string (bsOf s)] w fun e w' => e = .returned (.int .i64 r) ∧ w = w' := by
  unfold gRInt at h
  split at h
  · rename_i h1
    obtain rfl := Option.some.inj h
    exact RInt_any s h1 w
  · simp at h
def gRBytes  (n : Int) (k : Int) : Option (List UInt8) := if (-9223372036854775808 ≤ n ∧ n ≤ 9223372036854775807) ∧ 0 ≤ k ∧ k ≤ 8 then some (be n k.toNat) else none
theorem gRBytes_eq  (n : Int) (k : Int) (h : (-9223372036854775808 ≤ n ∧ n ≤ 9223372036854775807) ∧ 0 ≤ k ∧ k ≤ 8) : gRBytes  n k = some (be n k.toNat) := if_pos h
theorem gRBytes_spec (n : Int) (k : Int) (r : List UInt8) (h : gRBytes  n k = some r) : SpecX Try.prog 79 #[.int .i64 n, .int .i64 k] .triv EmpR (fun v A' N => v = .string (bsOf r) ∧ A' = EmpR ∧ N = []) := by
  unfold gRBytes at h
  split at h
  · rename_i h1
    obtain rfl := Option.some.inj h
    exact SpecX.of_spec0_2 (RBytesI_any n k h1.1.1 h1.1.2 h1.2.1 h1.2.2)
  · simp at h
def gRFold  (n : Int) : Option (Int) := if (-9223372036854775808 ≤ n ∧ n ≤ 9223372036854775807) then some (vfold n : Int) else none
theorem gRFold_eq  (n : Int) (h : (-9223372036854775808 ≤ n ∧ n ≤ 9223372036854775807)) : gRFold  n = some (vfold n : Int) := if_pos h
theorem gRFold_spec (n : Int) (r : Int) (h : gRFold  n = some r) (w : World) : Calls Try.prog 132 #[.int .i64 n] w fun e w' => e = .returned (.int .u64 r) ∧ w = w' := by
  unfold gRFold at h
  split at h
  · rename_i h1
    obtain rfl := Option.some.inj h
    exact RFold_any n h1.1 h1.2 w
  · simp at h
def gRPut  (n : Int) : Option (List UInt8) := if 0 ≤ n ∧ n < 18446744073709551616 then some (vput n.toNat) else none
theorem gRPut_eq  (n : Int) (h : 0 ≤ n ∧ n < 18446744073709551616) : gRPut  n = some (vput n.toNat) := if_pos h
theorem gRPut_spec (n : Int) (r : List UInt8) (h : gRPut  n = some r) : SpecX Try.prog 131 #[.int .u64 n] .triv EmpR (fun v A' N => v = .string (bsOf r) ∧ A' = EmpR ∧ N = []) := by
  unfold gRPut at h
  split at h
  · rename_i h1
    obtain rfl := Option.some.inj h
    exact SpecX.of_spec0_2 (RPutI_spec n h1.1 h1.2)
  · simp at h
def gRBack  (n : Int) : Option (Int) := if 0 ≤ n ∧ n < 18446744073709551616 then some (vback n.toNat) else none
theorem gRBack_eq  (n : Int) (h : 0 ≤ n ∧ n < 18446744073709551616) : gRBack  n = some (vback n.toNat) := if_pos h
theorem gRBack_spec (n : Int) (r : Int) (h : gRBack  n = some r) (w : World) : Calls Try.prog 96 #[.int .u64 n] w fun e w' => e = .returned (.int .i64 r) ∧ w = w' := by
  unfold gRBack at h
  split at h
  · rename_i h1
    obtain rfl := Option.some.inj h
    exact RBackI_any n h1.1 h1.2 w
  · simp at h
def gRGet  (s : List UInt8) (bits : Int) : Option (Int × Int × Int) := if (bits = 32 ∨ bits = 64) ∧ s.length ≤ 140737488355328 then some (((vgot (vgo bits s 0 0 0)).1 : Int), ((vgot (vgo bits s 0 0 0)).2.1 : Int), (vgot (vgo bits s 0 0 0)).2.2) else none
theorem gRGet_eq  (s : List UInt8) (bits : Int) (h : (bits = 32 ∨ bits = 64) ∧ s.length ≤ 140737488355328) : gRGet  s bits = some (((vgot (vgo bits s 0 0 0)).1 : Int), ((vgot (vgo bits s 0 0 0)).2.1 : Int), (vgot (vgo bits s 0 0 0)).2.2) := if_pos h
theorem gRGet_spec (s : List UInt8) (bits : Int) (r : Int × Int × Int) (h : gRGet  s bits = some r) (w : World) : Calls Try.prog 95 #[.string (bsOf s), .int .i64 bits] w fun e w' => e = .returned (.tuple #[.int .u64 r.1, .int .i64 r.2.1, .int .i64 r.2.2]) ∧ w = w' := by
  unfold gRGet at h
  split at h
  · rename_i h1
    obtain rfl := Option.some.inj h
    exact RGetT_any s bits h1.1 h1.2 w
  · simp at h
def gOf  (s : List UInt8) : Option (Bl) := some (⟨false, s⟩ : Bl)
theorem gOf_eq  (s : List UInt8) : gOf  s = some (⟨false, s⟩ : Bl) := rfl
theorem gOf_spec (s : List UInt8) (r : Bl) (h : gOf  s = some r) : SpecX Try.prog 130 #[.string (bsOf s)] .triv EmpR (fun v A' N => v = .agg #[.bool r.null, .string (bsOf r.data)] ∧ A' = EmpR ∧ N = []) := by
  unfold gOf at h
  obtain rfl := Option.some.inj h
  exact SpecX.of_spec0_2 (BOf_spec s)
def gNone   : Option (Bl) := some (⟨true, []⟩ : Bl)
theorem gNone_eq   : gNone   = some (⟨true, []⟩ : Bl) := rfl
theorem gNone_spec  (r : Bl) (h : gNone   = some r) : SpecX Try.prog 151 #[] .triv EmpR (fun v A' N => v = .agg #[.bool r.null, .string (bsOf r.data)] ∧ A' = EmpR ∧ N = []) := by
  unfold gNone at h
  obtain rfl := Option.some.inj h
  exact SpecX.of_spec0_2 (BNone_spec)
def gRight  (b : Bl) : Option (Bool) := some (bright b)
theorem gRight_eq  (b : Bl) : gRight  b = some (bright b) := rfl
theorem gRight_spec (b : Bl) (r : Bool) (h : gRight  b = some r) : SpecX Try.prog 85 #[.agg #[.bool b.null, .string (bsOf b.data)]] .triv EmpR (fun v A' N => v = .bool r ∧ A' = EmpR ∧ N = []) := by
  unfold gRight at h
  obtain rfl := Option.some.inj h
  exact SpecX.of_spec0_2 (BRight_spec b)
def gPutFixed (st : List UInt8 × Int) (b : Bl) (size : Int) : Option (List UInt8 × Int) := if (-9223372036854775808 ≤ size ∧ size ≤ 9223372036854775807) ∧ st.1.length + 8 + b.data.length ≤ 140737488355328 then some (bputFixed st b size) else none
theorem gPutFixed_eq (st : List UInt8 × Int) (b : Bl) (size : Int) (h : (-9223372036854775808 ≤ size ∧ size ≤ 9223372036854775807) ∧ st.1.length + 8 + b.data.length ≤ 140737488355328) : gPutFixed st b size = some (bputFixed st b size) := if_pos h
theorem gPutFixed_spec (g : Nat) (st : List UInt8 × Int) (b : Bl) (size : Int) (r : List UInt8 × Int) (h : gPutFixed st b size = some r) : SpecX Try.prog 83 #[.pointer (some ⟨g, 0, none⟩), .agg #[.bool b.null, .string (bsOf b.data)], .int .i64 size] .triv (OutR g st) (fun v A' N => v = .tuple #[] ∧ A' = OutR g r ∧ N = []) := by
  unfold gPutFixed at h
  split at h
  · rename_i h1
    obtain rfl := Option.some.inj h
    exact SpecX.of_spec (BPutFixed_spec g st b size h1.1.1 h1.1.2 h1.2)
  · simp at h
def gPutVaried (st : List UInt8 × Int) (b : Bl) : Option (List UInt8 × Int) := if st.1.length + 10 + b.data.length ≤ 140737488355328 then some (bputVaried st b) else none
theorem gPutVaried_eq (st : List UInt8 × Int) (b : Bl) (h : st.1.length + 10 + b.data.length ≤ 140737488355328) : gPutVaried st b = some (bputVaried st b) := if_pos h
theorem gPutVaried_spec (g : Nat) (st : List UInt8 × Int) (b : Bl) (r : List UInt8 × Int) (h : gPutVaried st b = some r) : SpecX Try.prog 89 #[.pointer (some ⟨g, 0, none⟩), .agg #[.bool b.null, .string (bsOf b.data)]] .triv (OutR g st) (fun v A' N => v = .tuple #[] ∧ A' = OutR g r ∧ N = []) := by
  unfold gPutVaried at h
  split at h
  · rename_i h1
    obtain rfl := Option.some.inj h
    exact SpecX.of_spec (BPutVaried_spec g st b h1)
  · simp at h
def gPutText (st : List UInt8 × Int) (s : List UInt8) : Option (List UInt8 × Int) := if st.1.length + 8 + s.length ≤ 140737488355328 then some (bputText st s) else none
theorem gPutText_eq (st : List UInt8 × Int) (s : List UInt8) (h : st.1.length + 8 + s.length ≤ 140737488355328) : gPutText st s = some (bputText st s) := if_pos h
theorem gPutText_spec (g : Nat) (st : List UInt8 × Int) (s : List UInt8) (r : List UInt8 × Int) (h : gPutText st s = some r) : SpecX Try.prog 118 #[.pointer (some ⟨g, 0, none⟩), .string (bsOf s)] .triv (OutR g st) (fun v A' N => v = .tuple #[] ∧ A' = OutR g r ∧ N = []) := by
  unfold gPutText at h
  split at h
  · rename_i h1
    obtain rfl := Option.some.inj h
    exact SpecX.of_spec (BPutText_spec g st s h1)
  · simp at h
def gPutName (st : List UInt8 × Int) (s : List UInt8) : Option (List UInt8 × Int) := if st.1.length + 10 + s.length ≤ 140737488355328 then some (bputName st s) else none
theorem gPutName_eq (st : List UInt8 × Int) (s : List UInt8) (h : st.1.length + 10 + s.length ≤ 140737488355328) : gPutName st s = some (bputName st s) := if_pos h
theorem gPutName_spec (g : Nat) (st : List UInt8 × Int) (s : List UInt8) (r : List UInt8 × Int) (h : gPutName st s = some r) : SpecX Try.prog 88 #[.pointer (some ⟨g, 0, none⟩), .string (bsOf s)] .triv (OutR g st) (fun v A' N => v = .tuple #[] ∧ A' = OutR g r ∧ N = []) := by
  unfold gPutName at h
  split at h
  · rename_i h1
    obtain rfl := Option.some.inj h
    exact SpecX.of_spec (BPutName_spec g st s h1)
  · simp at h
def gFixed (st : I) (size : Int) : Option (Bl × I) := some ((bfixed st size).1, (bfixed st size).2)
theorem gFixed_eq (st : I) (size : Int) : gFixed st size = some ((bfixed st size).1, (bfixed st size).2) := rfl
theorem gFixed_spec (g : Nat) (st : I) (size : Int) (r : Bl × I) (h : gFixed st size = some r) : SpecX Try.prog 75 #[.pointer (some ⟨g, 0, none⟩), .int .i64 size] .triv (InR g st) (fun v A' N => v = .agg #[.bool r.1.null, .string (bsOf r.1.data)] ∧ A' = InR g r.2 ∧ N = []) := by
  unfold gFixed at h
  obtain rfl := Option.some.inj h
  exact SpecX.of_spec (BFixed_spec g st size)
def gVaried (st : I)  : Option (Bl × I) := some ((bvaried st).1, (bvaried st).2)
theorem gVaried_eq (st : I)  : gVaried st  = some ((bvaried st).1, (bvaried st).2) := rfl
theorem gVaried_spec (g : Nat) (st : I)  (r : Bl × I) (h : gVaried st  = some r) : SpecX Try.prog 94 #[.pointer (some ⟨g, 0, none⟩)] .triv (InR g st) (fun v A' N => v = .agg #[.bool r.1.null, .string (bsOf r.1.data)] ∧ A' = InR g r.2 ∧ N = []) := by
  unfold gVaried at h
  obtain rfl := Option.some.inj h
  exact SpecX.of_spec (BVaried_spec g st)
def gText (st : I)  : Option (List UInt8 × I) := some ((btext st).1, (btext st).2)
theorem gText_eq (st : I)  : gText st  = some ((btext st).1, (btext st).2) := rfl
theorem gText_spec (g : Nat) (st : I)  (r : List UInt8 × I) (h : gText st  = some r) : SpecX Try.prog 112 #[.pointer (some ⟨g, 0, none⟩)] .triv (InR g st) (fun v A' N => v = .string (bsOf r.1) ∧ A' = InR g r.2 ∧ N = []) := by
  unfold gText at h
  obtain rfl := Option.some.inj h
  exact SpecX.of_spec (BText_spec g st)
def gName (st : I)  : Option (List UInt8 × I) := some ((bname st).1, (bname st).2)
theorem gName_eq (st : I)  : gName st  = some ((bname st).1, (bname st).2) := rfl
theorem gName_spec (g : Nat) (st : I)  (r : List UInt8 × I) (h : gName st  = some r) : SpecX Try.prog 93 #[.pointer (some ⟨g, 0, none⟩)] .triv (InR g st) (fun v A' N => v = .string (bsOf r.1) ∧ A' = InR g r.2 ∧ N = []) := by
  unfold gName at h
  obtain rfl := Option.some.inj h
  exact SpecX.of_spec (BName_spec g st)
def gKRight  (s : List UInt8) : Option (Bool) := some (kright s)
theorem gKRight_eq  (s : List UInt8) : gKRight  s = some (kright s) := rfl
theorem gKRight_spec (s : List UInt8) (r : Bool) (h : gKRight  s = some r) (w : World) : Calls Try.prog 155 #[.string (bsOf s)] w fun e w' => e = .returned (.bool r) ∧ w = w' := by
  unfold gKRight at h
  obtain rfl := Option.some.inj h
  exact KRight_any s w
def gRBLen  (b : Bl) : Option (Int) := some (blen b)
theorem gRBLen_eq  (b : Bl) : gRBLen  b = some (blen b) := rfl
theorem gRBLen_spec (b : Bl) (r : Int) (h : gRBLen  b = some r) : SpecX Try.prog 125 #[.agg #[.bool b.null, .string (bsOf b.data)]] .triv EmpR (fun v A' N => v = .int .i64 r ∧ A' = EmpR ∧ N = []) := by
  unfold gRBLen at h
  obtain rfl := Option.some.inj h
  exact SpecX.of_spec0_2 (RBLen_spec b)
def gRBFixed  (b : Bl) (k : Int) : Option (List UInt8) := if 0 ≤ k ∧ k ≤ 8 ∧ b.data.length ≤ 140737488355328 then some (be (blen b) k.toNat ++ b.data) else none
theorem gRBFixed_eq  (b : Bl) (k : Int) (h : 0 ≤ k ∧ k ≤ 8 ∧ b.data.length ≤ 140737488355328) : gRBFixed  b k = some (be (blen b) k.toNat ++ b.data) := if_pos h
theorem gRBFixed_spec (b : Bl) (k : Int) (r : List UInt8) (h : gRBFixed  b k = some r) : SpecX Try.prog 80 #[.agg #[.bool b.null, .string (bsOf b.data)], .int .i64 k] .triv EmpR (fun v A' N => v = .string (bsOf r) ∧ A' = EmpR ∧ N = []) := by
  unfold gRBFixed at h
  split at h
  · rename_i h1
    obtain rfl := Option.some.inj h
    exact SpecX.of_spec0_2 (RBFixedI_spec b k h1.1 h1.2.1 h1.2.2)
  · simp at h
def gRBVaried  (b : Bl) : Option (List UInt8) := if b.data.length ≤ 140737488355328 then some (vput (vfold (blen b)) ++ b.data) else none
theorem gRBVaried_eq  (b : Bl) (h : b.data.length ≤ 140737488355328) : gRBVaried  b = some (vput (vfold (blen b)) ++ b.data) := if_pos h
theorem gRBVaried_spec (b : Bl) (r : List UInt8) (h : gRBVaried  b = some r) : SpecX Try.prog 91 #[.agg #[.bool b.null, .string (bsOf b.data)]] .triv EmpR (fun v A' N => v = .string (bsOf r) ∧ A' = EmpR ∧ N = []) := by
  unfold gRBVaried at h
  split at h
  · rename_i h1
    obtain rfl := Option.some.inj h
    exact SpecX.of_spec0_2 (RBVaried_spec b h1)
  · simp at h
def gRRFixed  (s : List UInt8) (k : Int) : Option (Gt) := if 0 ≤ k ∧ k ≤ 8 ∧ s.length ≤ 140737488355328 then some (rfixed s k.toNat) else none
theorem gRRFixed_eq  (s : List UInt8) (k : Int) (h : 0 ≤ k ∧ k ≤ 8 ∧ s.length ≤ 140737488355328) : gRRFixed  s k = some (rfixed s k.toNat) := if_pos h
theorem gRRFixed_spec (s : List UInt8) (k : Int) (r : Gt) (h : gRRFixed  s k = some r) : SpecX Try.prog 78 #[.string (bsOf s), .int .i64 k] .triv EmpR (fun v A' N => v = .agg #[.bool r.blob.null, .string (bsOf r.blob.data), .int .i64 r.many, .int .i64 r.err] ∧ A' = EmpR ∧ N = []) := by
  unfold gRRFixed at h
  split at h
  · rename_i h1
    obtain rfl := Option.some.inj h
    exact SpecX.of_spec0_2 (RFixedI_spec s k h1.1 h1.2.1 h1.2.2)
  · simp at h
def gRRVaried  (s : List UInt8) : Option (Gt) := if s.length ≤ 140737488355328 then some (rvaried s) else none
theorem gRRVaried_eq  (s : List UInt8) (h : s.length ≤ 140737488355328) : gRRVaried  s = some (rvaried s) := if_pos h
theorem gRRVaried_spec (s : List UInt8) (r : Gt) (h : gRRVaried  s = some r) : SpecX Try.prog 97 #[.string (bsOf s)] .triv EmpR (fun v A' N => v = .agg #[.bool r.blob.null, .string (bsOf r.blob.data), .int .i64 r.many, .int .i64 r.err] ∧ A' = EmpR ∧ N = []) := by
  unfold gRRVaried at h
  split at h
  · rename_i h1
    obtain rfl := Option.some.inj h
    exact SpecX.of_spec0_2 (RVaried_spec s h1)
  · simp at h
end Go.Proofs.Ytdlpmcbglmgpiaa.Sl
