/- A cut: what holds in the middle of a piece of code. -/
import Derived.Test.YtjmnokbbodcaaaaLg25
namespace Go.Proofs.Ytjmnokbbodcaaaa.Lg
set_option linter.unusedVariables false
set_option linter.unusedSimpArgs false
open Go
variable {P : Program}

def cutK (M : TS → Prop) (Q : Exit → TS → Prop) : Exit → TS → Prop
  | .normal, ts => M ts
  | e, ts => Q e ts
@[go_sem] theorem cutK_normal (M : TS → Prop) (Q : Exit → TS → Prop) (ts : TS) : cutK M Q .normal ts = M ts := rfl
@[go_sem] theorem cutK_ret (M : TS → Prop) (Q : Exit → TS → Prop) (ts : TS) : cutK M Q .ret ts = Q .ret ts := rfl
@[go_sem] theorem cutK_exit (M : TS → Prop) (Q : Exit → TS → Prop) (ts : TS) (id : Nat) : cutK M Q (.exit id) ts = Q (.exit id) ts := rfl
/-- The middle is reached. -/
def MidK (keep : List Nat) (ts0 : TS) (M : TS → Prop) (ts : TS) : Prop := Keeps keep ts ts0 ∧ M ts
/-- What is left to do from the middle on. -/
def CutB (P : Program) (keep : List Nat) (M : TS → Prop) (B : Code) (ts0 : TS) (Q : Exit → TS → Prop) : Prop := ∀ ts, Keeps keep ts ts0 → M ts → SpecC P B ts Q
theorem SpecC.cut {A B : Code} {ts : TS} {Q : Exit → TS → Prop} (M : TS → Prop) (h1 : SpecC P A ts (cutK M Q)) (h2 : ∀ ts', M ts' → SpecC P B ts' Q) : SpecC P (.seq A B) ts Q := by
  intro E G a w hr
  refine wp_seq (wp_mono (h1 E G a w hr) ?_)
  rintro e a' w' ⟨ts', G', hq, hr'⟩
  cases e with
  | normal => exact h2 ts' hq E G' a' w' hr'
  | _ => exact ⟨ts', G', hq, hr'⟩
theorem SpecC.cutAt (n : Nat) {A C : Code} {ops : Array Oper} {b : Bool} {ts : TS} {Q : Exit → TS → Prop} (keep : List Nat) (M : TS → Prop) (h1 : SpecC P A ts (cutK (MidK keep ts M) Q))
    (h2 : CutB P keep M (.seq (.region n ops b) C) ts Q) : SpecC P (.seq A (.seq (.region n ops b) C)) ts Q :=
  SpecC.cut (MidK keep ts M) h1 fun ts' h => h2 ts' h.1 h.2
end Go.Proofs.Ytjmnokbbodcaaaa.Lg
