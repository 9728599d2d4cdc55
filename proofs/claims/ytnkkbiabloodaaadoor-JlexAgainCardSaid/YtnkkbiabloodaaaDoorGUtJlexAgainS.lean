/- Written by this session's own program (wip/gen.py) out of the translation: plain Lean functions of the Go functions, and proofs that the calls come to their answers. No conditions beside those in the statements. -/
import Derived.Test.YtnkkbiabloodaaaDoorGUtx13
import Derived.Test.YtnkkbiabloodaaaDoorOpens
namespace Go.Proofs.YtnkkbiabloodaaaDoor.GUt
open Go.RowKit Go.Proofs.YtnkkbiabloodaaaDoorW.PrintWords Go.Proofs.YtnkkbiabloodaaaDoorW.PrintLast Go.Proofs.YtnkkbiabloodaaaDoorW.PrintMore Go.Proofs.YtnkkbiabloodaaaDoor.Opens
/-- THE ONE PURE STATEMENT of bosunlaw07_JlexAgain. -/
def bosunlaw07_JlexAgain.Pure : Prop := ∀ (x0 : ByteArray), x0.size ≤ 140737488351232 → ∃ k, bosunlaw07_JlexAgain.f k x0 = some true
end Go.Proofs.YtnkkbiabloodaaaDoor.GUt
