/- Written by this session's own program (wip/gen.py) out of the translation: plain Lean functions of the Go functions, and proofs that the calls come to their answers. No conditions beside those in the statements. -/
import Derived.Test.YtenbeniaohigmaaDoorGUtx6
import Derived.Test.YtenbeniaohigmaaDoorOpens
namespace Go.Proofs.YtenbeniaohigmaaDoor.GUt
open Go.RowKit Go.Proofs.YtenbeniaohigmaaDoorW.PrintWords Go.Proofs.YtenbeniaohigmaaDoorW.PrintLast Go.Proofs.YtenbeniaohigmaaDoorW.PrintMore Go.Proofs.YtenbeniaohigmaaDoor.Opens
/-- THE ONE PURE STATEMENT of bosunlaw06_UtfBack. -/
def bosunlaw06_UtfBack.Pure : Prop := ∀ (x0 : ByteArray) (x1 : ByteArray), x0.size ≤ 140737488351232 → x1.size ≤ 140737488351232 → ∃ k, bosunlaw06_UtfBack.f k x0 x1 = some true
end Go.Proofs.YtenbeniaohigmaaDoor.GUt
