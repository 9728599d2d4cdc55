/- Written by this session's own program (wip/gen.py) out of the translation: plain Lean functions of the Go functions, and proofs that the calls come to their answers. No conditions beside those in the statements. -/
import Derived.Test.YtpflenjhmeaeoaaDoorGUtx16
import Derived.Test.YtpflenjhmeaeoaaDoorOpens
namespace Go.Proofs.YtpflenjhmeaeoaaDoor.GUt
open Go.RowKit Go.Proofs.YtpflenjhmeaeoaaDoorW.PrintWords Go.Proofs.YtpflenjhmeaeoaaDoorW.PrintLast Go.Proofs.YtpflenjhmeaeoaaDoorW.PrintMore Go.Proofs.YtpflenjhmeaeoaaDoor.Opens
def aC.Pure : Prop := ∀ (x0 : Int) (x1 : ByteArray), (Lit.int .i64 x0).wf = true → x1.size ≤ 140737488351232 → ∃ k, aC.f k x0 x1 = some true
end Go.Proofs.YtpflenjhmeaeoaaDoor.GUt
