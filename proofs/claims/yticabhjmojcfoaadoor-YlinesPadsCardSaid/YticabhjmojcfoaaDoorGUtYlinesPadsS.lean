/- Written by this session's own program (wip/gen.py) out of the translation: plain Lean functions of the Go functions, and proofs that the calls come to their answers. No conditions beside those in the statements. -/
import Derived.Test.YticabhjmojcfoaaDoorGUtx14
import Derived.Test.YticabhjmojcfoaaDoorOpens
namespace Go.Proofs.YticabhjmojcfoaaDoor.GUt
open Go.RowKit Go.Proofs.YticabhjmojcfoaaDoorW.PrintWords Go.Proofs.YticabhjmojcfoaaDoorW.PrintLast Go.Proofs.YticabhjmojcfoaaDoorW.PrintMore Go.Proofs.YticabhjmojcfoaaDoor.Opens
/-- THE ONE PURE STATEMENT of bosunlaw10_YlinesPads. -/
def bosunlaw10_YlinesPads.Pure : Prop := ∀ (x0 : List ByteArray) (x1 : List Int), (x0.length * 16 ≤ 140737488351232 ∧ x0.length ≤ 9223372036854775807 ∧ ∀ x_ ∈ x0, x_.size ≤ 140737488351232) → (x1.length * 1 ≤ 140737488351232 ∧ x1.length ≤ 9223372036854775807 ∧ ∀ x_ ∈ x1, (Lit.int .u8 x_).wf = true) → ∃ k, bosunlaw10_YlinesPads.f k x0 x1 = some true
end Go.Proofs.YticabhjmojcfoaaDoor.GUt
