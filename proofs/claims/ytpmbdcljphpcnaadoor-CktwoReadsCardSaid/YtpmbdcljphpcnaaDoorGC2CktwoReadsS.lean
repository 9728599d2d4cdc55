/- Written by this session's own program (wip/gen.py) out of the translation: plain Lean functions of the Go functions, and proofs that the calls come to their answers. No conditions beside those in the statements. -/
import Derived.Test.YtpmbdcljphpcnaaDoorGC2x14
import Derived.Test.YtpmbdcljphpcnaaDoorOpens
namespace Go.Proofs.YtpmbdcljphpcnaaDoor.GC2
open Go.RowKit Go.Proofs.YtpmbdcljphpcnaaDoorW.PrintWords Go.Proofs.YtpmbdcljphpcnaaDoorW.PrintLast Go.Proofs.YtpmbdcljphpcnaaDoorW.PrintMore Go.Proofs.YtpmbdcljphpcnaaDoor.Opens
def bP.Pure : Prop := ∀ (x0 : ByteArray), x0.size ≤ 140737488351232 → ∃ k, bP.f k x0 = some true
end Go.Proofs.YtpmbdcljphpcnaaDoor.GC2
