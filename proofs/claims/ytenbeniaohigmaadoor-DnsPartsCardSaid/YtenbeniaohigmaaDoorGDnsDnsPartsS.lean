/- Written by this session's own program (wip/gen.py) out of the translation: plain Lean functions of the Go functions, and proofs that the calls come to their answers. No conditions beside those in the statements. -/
import Derived.Test.YtenbeniaohigmaaDoorGDnsx4
import Derived.Test.YtenbeniaohigmaaDoorOpens
namespace Go.Proofs.YtenbeniaohigmaaDoor.GDns
open Go.RowKit Go.Proofs.YtenbeniaohigmaaDoorW.PrintWords Go.Proofs.YtenbeniaohigmaaDoorW.PrintLast Go.Proofs.YtenbeniaohigmaaDoorW.PrintMore Go.Proofs.YtenbeniaohigmaaDoor.Opens
/-- THE ONE PURE STATEMENT of bosunlaw13_DnsParts. -/
def bosunlaw13_DnsParts.Pure : Prop := ∀ (x0 : ByteArray) (x1 : ByteArray), x0.size ≤ 140737488351232 → x1.size ≤ 140737488351232 → ∃ k, bosunlaw13_DnsParts.f k x0 x1 = some true
end Go.Proofs.YtenbeniaohigmaaDoor.GDns
