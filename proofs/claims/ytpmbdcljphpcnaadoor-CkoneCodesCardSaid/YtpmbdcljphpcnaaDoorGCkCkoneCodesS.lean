/- Written by this session's own program (wip/gen.py) out of the translation: plain Lean functions of the Go functions, and proofs that the calls come to their answers. No conditions beside those in the statements. -/
import Derived.Test.YtpmbdcljphpcnaaDoorGCkx15
import Derived.Test.YtpmbdcljphpcnaaDoorOpens
namespace Go.Proofs.YtpmbdcljphpcnaaDoor.GCk
open Go.RowKit Go.Proofs.YtpmbdcljphpcnaaDoorW.PrintWords Go.Proofs.YtpmbdcljphpcnaaDoorW.PrintLast Go.Proofs.YtpmbdcljphpcnaaDoorW.PrintMore Go.Proofs.YtpmbdcljphpcnaaDoor.Opens
def G66 (x : S66) : Prop := x.f0.size ≤ 140737488351232 ∧ x.f1.size ≤ 140737488351232 ∧ x.f2.size ≤ 140737488351232 ∧ (Lit.int .u8 x.f3).wf = true
theorem o66 : Opens Tryd.prog 66 k66 G66 := opens_iso _ (fun p => ⟨p.1, p.2.1, p.2.2.1, p.2.2.2⟩) (fun _ => rfl) (opens_struct Tryd.underlying66 (by kernel_rfl) (opensF_cons rfl (by kernel_rfl) (opens_string Tryd.underlying9) (opensF_cons rfl (by kernel_rfl) (opens_string Tryd.underlying9) (opensF_cons rfl (by kernel_rfl) (opens_string Tryd.underlying9) (opensF_one rfl (by kernel_rfl) (opens_int Tryd.underlying5))))))
def G25 (x : S25) : Prop := (Lit.int .u32 x.f0).wf = true ∧ (x.f1.length * 56 ≤ 140737488351232 ∧ x.f1.length ≤ 9223372036854775807 ∧ ∀ x_ ∈ x.f1, G66 x_)
theorem o25 : Opens Tryd.prog 25 k25 G25 := opens_iso _ (fun p => ⟨p.1, p.2⟩) (fun _ => rfl) (opens_struct Tryd.underlying25 (by kernel_rfl) (opensF_cons rfl (by kernel_rfl) (opens_int Tryd.underlying22) (opensF_one rfl (by kernel_rfl) (opens_slice (B := 56) Tryd.underlying23 (by kernel_rfl) (by kernel_rfl) o66))))
/-- THE ONE PURE STATEMENT of bosunlaw17_CkoneCodes. -/
def bosunlaw17_CkoneCodes.Pure : Prop := ∀ (x0 : S25) (x1 : S25) (x2 : ByteArray), G25 x0 → G25 x1 → x2.size ≤ 140737488351232 → ∃ k, bosunlaw17_CkoneCodes.f k x0.f0 x0.f1 x1.f0 x1.f1 x2 = some true
end Go.Proofs.YtpmbdcljphpcnaaDoor.GCk
