/- Written by this session's own program (wip/gen.py) out of the translation: plain Lean functions of the Go functions, and proofs that the calls come to their answers. No conditions beside those in the statements. -/
import Derived.Test.YtpmbdcljphpcnaaDoorGCkx17
import Derived.Test.YtpmbdcljphpcnaaDoorOpens
namespace Go.Proofs.YtpmbdcljphpcnaaDoor.GCk
open Go.RowKit Go.Proofs.YtpmbdcljphpcnaaDoorW.PrintWords Go.Proofs.YtpmbdcljphpcnaaDoorW.PrintLast Go.Proofs.YtpmbdcljphpcnaaDoorW.PrintMore Go.Proofs.YtpmbdcljphpcnaaDoor.Opens
/-- THE ONE PURE STATEMENT of bosunlaw17_CkoneReads. -/
def bosunlaw17_CkoneReads.Pure : Prop := ∀ (x0 : ByteArray), x0.size ≤ 140737488351232 → ∃ k, bosunlaw17_CkoneReads.f k x0 = some true
end Go.Proofs.YtpmbdcljphpcnaaDoor.GCk
