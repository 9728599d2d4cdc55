/- Floats in walks: a quotient, and what is none. No conditions beside those stated. -/
import Derived.Test.YthnbkhggbfnpcaaEvOrd
import Derived.Test.YthnbkhggbfnpcaaProg
import Derived.Test.YthnbkhggbfnpcaaWMore
import Derived.Test.YthnbkhggbfnpcaaWLast
import Derived.Laws.Cover2
namespace Go.Proofs.Ythnbkhggbfnpcaa.Ev
open Go.RowKit Go.Proofs.YthnbkhggbfnpcaaW.PrintWords Go.Proofs.YthnbkhggbfnpcaaW.PrintLast Go.Proofs.YthnbkhggbfnpcaaW.PrintMore
set_option linter.unusedSimpArgs false
set_option linter.unusedVariables false
abbrev F64 := FloatKind.f64.format
/-- What a quotient may be: the one word, or any that is none. -/
def Quo (a b q : Nat) : Prop := F64.div a b = some q ∨ (F64.div a b = none ∧ nanD (F64.read q) = true)
theorem run_quo_some {P : Program} {w : World} {t : TypeId} {a b q : Nat} (h : F64.div a b = some q) : (binOp .quo t (.float .f64 a) (.float .f64 b)).run P w = .ok (.float .f64 q) w := by
  have h' : FloatKind.f64.format.div a b = some q := h
  simp [binOp, Op.floatArith, h']
theorem run_quo_none {P : Program} {w : World} {t : TypeId} {a b : Nat} (h : F64.div a b = none) : ∃ q, nanD (F64.read q) = true ∧ (binOp .quo t (.float .f64 a) (.float .f64 b)).run P w = .ok (.float .f64 q) w.drew := by
  have h' : FloatKind.f64.format.div a b = none := h
  refine ⟨(Question.nanBits .f64 a b).cut (w.tape w.drawn (.nanBits .f64 a b)), ?_, ?_⟩
  · generalize w.tape w.drawn (.nanBits .f64 a b) = t
    show nanD (F64.read ((t % 2) * 9223372036854775808 + 9218868437227405312 + 1 + (t / 2) % 4503599627370495)) = true
    have e1 : F64.signWeight = 9223372036854775808 := by rfl
    have e2 : F64.binade = 4503599627370496 := by rfl
    have e3 : F64.infRung = 9218868437227405312 := by rfl
    have hr : ((t % 2) * 9223372036854775808 + 9218868437227405312 + 1 + (t / 2) % 4503599627370495) % 9223372036854775808 = 9218868437227405313 + (t / 2) % 4503599627370495 := by omega
    unfold Ieee.Format.read
    rw [e1, e2, e3]
    simp only [hr]
    rw [if_neg (by omega), if_neg (by omega), if_neg (by omega)]
    rfl
  · simp only [binOp, Op.floatArith, h']
    rfl
end Go.Proofs.Ythnbkhggbfnpcaa.Ev
