/- Steps that yield (no program in it). -/
import Derived.Test.YtdlpmcbglmgpiaaNa
import Derived.Test.YtdlpmcbglmgpiaaI
import Derived.IntWalk
import Derived.Laws.Strings
namespace Go.Proofs.Ytdlpmcbglmgpiaa.Sl
open Go.RowKit
set_option linter.unusedVariables false
set_option linter.unusedSimpArgs false

def ksame : IntKind → IntKind → Bool
  | .i8, .i8 | .i16, .i16 | .i32, .i32 | .i64, .i64 | .u8, .u8 | .u16, .u16 | .u32, .u32 | .u64, .u64 => true
  | _, _ => false
theorem ksame_eq {k k' : IntKind} (h : ksame k k' = true) : k = k' := by cases k <;> cases k' <;> first | rfl | cases h
def cmpV : BinOp → Int → Int → Option Bool
  | .eql, a, b => some (decide (a = b))
  | .neq, a, b => some (!decide (a = b))
  | .lss, a, b => some (decide (a < b))
  | .leq, a, b => some (decide (a ≤ b))
  | .gtr, a, b => some (decide (a > b))
  | .geq, a, b => some (decide (a ≥ b))
  | _, _, _ => none
def FTab := List (Nat × Nat × Nat)
def FTab.get : FTab → Nat → Nat → Option Nat
  | [], _, _ => none
  | (s, f, o) :: r, s', f' => match Nat.beq s s' with
    | true => match Nat.beq f f' with
      | true => some o
      | false => FTab.get r s' f'
    | false => FTab.get r s' f'
/-- Where a field lies. -/
def FOK (P : Program) (s f o : Nat) : Prop := ∀ (a : Addr) (w : World), (Instr.fieldAt s (.pointer (some a)) f).run P w = .ok (.pointer (some (a.add o))) w
def FTab.OK (P : Program) : FTab → Prop
  | [] => True
  | (s, f, o) :: r => FOK P s f o ∧ FTab.OK P r
theorem FTab.OK.get {P : Program} : ∀ {t : FTab}, t.OK P → ∀ {s f o}, t.get s f = some o → FOK P s f o
  | [], _, s, f, o, h => by simp [FTab.get] at h
  | (s0, f0, o0) :: r, ⟨h1, h2⟩, s, f, o, h => by
    simp only [FTab.get] at h
    cases hb : Nat.beq s0 s with
    | true =>
      rw [hb] at h
      cases hc : Nat.beq f0 f with
      | true =>
        rw [hc] at h
        obtain rfl := Nat.eq_of_beq_eq_true hb
        obtain rfl := Nat.eq_of_beq_eq_true hc
        injection h with h
        subst h
        exact h1
      | false => rw [hc] at h; exact FTab.OK.get h2 h
    | false => rw [hb] at h; exact FTab.OK.get h2 h
theorem FOK.mk {P : Program} {s f : Nat} {fs : Array Field} {fl : Field} {k : Nat} (hu : ∀ w, (underlying s).run P w = .ok (.struct fs) w) (hf : fs[f]? = some fl) (hz : ∀ w, (sizeOf fl.type).run P w = .ok (k + 1) w) {o : Nat} (ho : fl.offset = o) : FOK P s f o := by
  intro a w
  subst ho
  simp [Instr.fieldAt, hu, hf, Instr.sureAddr, fieldPlace, hz]
def pureV (ft : FTab) (e : Env) : Op → Option Value
  | .move x => e.ev x
  | .assign x => e.ev x
  | .extract x i => match e.ev x with
    | some (.tuple vs) => vs[i]?
    | _ => none
  | .unOp .not _ x => match e.ev x with
    | some (.bool b) => some (.bool (!b))
    | _ => none
  | .nilCheck x => match e.ev x with
    | some (.pointer (some a)) => some (.pointer (some a))
    | _ => none
  | .fieldAddr s x f => match e.ev x with
    | some (.pointer (some ⟨g, o, none⟩)) => match ft.get s f with
      | some k => some (.pointer (some ⟨g, o + k, none⟩))
      | none => none
    | _ => none
  | .binOp op _ x y _ => match e.ev x with
    | some (.int k a) => match e.ev y with
      | some (.int k' b) => match ksame k k' with
        | true => match cmpV op a b with
          | some r => some (.bool r)
          | none => none
        | false => none
      | _ => none
    | _ => none
  | _ => none
theorem cmpV_run {P : Program} {w : World} {op : BinOp} {a b : Int} {r : Bool} (h : cmpV op a b = some r) : (Op.intCmp op a b).run P w = .ok (.bool r) w := by
  cases op <;> cases h <;> rfl
theorem cmp_run {P : Program} {w : World} {op : BinOp} {k : IntKind} {a b : Int} {r : Bool} {t : TypeId} {x y : Operand} (h : cmpV op a b = some r) :
    (do eqGuard op t x y (.int k a) (.int k b); binOp op t (.int k a) (.int k b) : Sem Value).run P w = .ok (.bool r) w := by
  have h1 := cmpV_run (P := P) (w := w) h
  cases op <;> cases h <;> simpa [eqGuard, binOp] using h1
theorem pureV_run {P : Program} {n : Nat} {ft : FTab} {e : Env} {S : World → Prop} {d : Option Tmp} {op : Op} {ty : TypeId} {pos : String} {af : Array Edge} {g : Option (Nat × Bool)} {v : Value} (hft : ft.OK P) (h : pureV ft e op = some v) : Ex P n e S ⟨d, op, ty, pos, af, g⟩ v := by
  intro a w ha _
  unfold pureV at h
  split at h
  · simp [execOp, ha.ev h]
  · simp [execOp, ha.ev h]
  · split at h
    · rename_i vs hx
      simp [execOp, ha.ev hx, Instr.extract, h]
    · cases h
  · split at h
    · rename_i b hx
      injection h with h
      subst h
      simp [execOp, ha.ev hx, Op.unary]
    · cases h
  · split at h
    · rename_i p hx
      injection h with h
      subst h
      simp [execOp, ha.ev hx]
    · cases h
  · split at h
    · rename_i g' o' hx
      split at h
      · rename_i k hk
        injection h with h
        subst h
        have h1 := hft.get hk ⟨g', o', none⟩ w
        have h2 : (⟨g', o', none⟩ : Addr).add k = ⟨g', o' + k, none⟩ := by unfold Addr.add; split <;> simp_all
        simp [execOp, ha.ev hx, h1, h2]
      · cases h
    · cases h
  · split at h
    · rename_i k x hx
      split at h
      · rename_i k' y hy
        split at h
        · rename_i hk
          split at h
          · rename_i r hr
            injection h with h
            subst h
            obtain rfl := ksame_eq hk
            have h1 := cmpV_run (P := P) (w := w) hr
            simp only [execOp, ha.ev hx, ha.ev hy, Sem.run_bind]
            have h2 := fun t x y => cmp_run (P := P) (w := w) (k := k) (t := t) (x := x) (y := y) hr
            simp only [Sem.run_bind] at h2
            rw [h2]
            rfl
          · cases h
        · cases h
      · cases h
    · cases h
  · cases h
/-- Several steps that yield, one behind the other. -/
def runV (ft : FTab) (n : Nat) (ops : Array Oper) : Env → List Nat → Option Env
  | e, [] => some e
  | e, i :: is => match ops[i]? with
    | some ⟨some d, op, _, _, _, none⟩ => match Nat.blt d n with
      | true => match pureV ft e op with
        | some v => runV ft n ops ((d, v) :: e) is
        | none => none
      | false => none
    | _ => none
section
variable {P : Program} {n : Nat} {F0 : Nat → Prop} {w0 : World} {e e' : Env} {Rs Rf : List Res} {Q : Exit → Act → World → Prop} {ops : Array Oper} {ft : FTab}
theorem TL.run_ (hft : ft.OK P) : ∀ (is : List Nat) {e e' : Env} {l : List Nat}, runV ft n ops e is = some e' → TL P n F0 w0 ops l e' Rs Q → TL P n F0 w0 ops (is ++ l) e Rs Q
  | [], e, e', l, h, k => by
    injection h with h
    subst h
    exact k
  | i :: is, e, e', l, h, k => by
    unfold runV at h
    split at h
    · rename_i ho
      split at h
      · rename_i hd
        split at h
        · rename_i v hv
          exact TL.q ho .u (pureV_run hft hv) hd (TL.run_ hft is h k)
        · cases h
      · cases h
    · cases h
def Sch.qs : List Nat → Sch → Sch
  | [], s => s
  | i :: is, s => .q i (Sch.qs is s)
theorem TD.run_ (hft : ft.OK P) : ∀ (is : List Nat) {e e' : Env} {l : Sch}, runV ft n ops e is = some e' → TD P n F0 w0 ops l Rf e' Rs Q → TD P n F0 w0 ops (Sch.qs is l) Rf e Rs Q
  | [], e, e', l, h, k => by
    injection h with h
    subst h
    exact k
  | i :: is, e, e', l, h, k => by
    unfold runV at h
    split at h
    · rename_i ho
      split at h
      · rename_i hd
        split at h
        · rename_i v hv
          exact TD.q ho .u (pureV_run hft hv) hd (TD.run_ hft is h k)
        · cases h
      · cases h
    · cases h
theorem TL.run (hft : ft.OK P) (is : List Nat) {l l' : List Nat} (hl : l = is ++ l') (h : runV ft n ops e is = some e') (k : TL P n F0 w0 ops l' e' Rs Q) : TL P n F0 w0 ops l e Rs Q := hl ▸ TL.run_ hft is h k
theorem TD.run (hft : ft.OK P) (is : List Nat) {l l' : Sch} (hl : l = Sch.qs is l') (h : runV ft n ops e is = some e') (k : TD P n F0 w0 ops l' Rf e' Rs Q) : TD P n F0 w0 ops l Rf e Rs Q := hl ▸ TD.run_ hft is h k
end
end Go.Proofs.Ytdlpmcbglmgpiaa.Sl
