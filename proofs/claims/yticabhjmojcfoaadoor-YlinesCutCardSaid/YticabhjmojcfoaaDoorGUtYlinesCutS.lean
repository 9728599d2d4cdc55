/- Written by this session's own program (wip/gen.py) out of the translation: plain Lean functions of the Go functions, and proofs that the calls come to their answers. No conditions beside those in the statements. -/
import Derived.Test.YticabhjmojcfoaaDoorGUtx13
import Derived.Test.YticabhjmojcfoaaDoorOpens
namespace Go.Proofs.YticabhjmojcfoaaDoor.GUt
open Go.RowKit Go.Proofs.YticabhjmojcfoaaDoorW.PrintWords Go.Proofs.YticabhjmojcfoaaDoorW.PrintLast Go.Proofs.YticabhjmojcfoaaDoorW.PrintMore Go.Proofs.YticabhjmojcfoaaDoor.Opens
/-- THE ONE PURE STATEMENT of bosunlaw10_YlinesCut. -/
def bosunlaw10_YlinesCut.Pure : Prop := ∀ (x0 : ByteArray), x0.size ≤ 140737488351232 → ∃ k, bosunlaw10_YlinesCut.f k x0 = some true
end Go.Proofs.YticabhjmojcfoaaDoor.GUt
