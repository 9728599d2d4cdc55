/- Written by this session's own program (wip/gen.py) out of the translation: plain Lean functions of the Go functions, and proofs that the calls come to their answers. No conditions beside those in the statements. -/
import Derived.Test.YtenbeniaohigmaaGTakesx4
import Derived.Test.YtenbeniaohigmaaOpens
namespace Go.Proofs.Ytenbeniaohigmaa.GTakes
open Go.RowKit Go.Proofs.YtenbeniaohigmaaW.PrintWords Go.Proofs.YtenbeniaohigmaaW.PrintLast Go.Proofs.YtenbeniaohigmaaW.PrintMore Go.Proofs.Ytenbeniaohigmaa.Opens
def G39 (x : S39) : Prop := (Lit.int .u8 x.f0).wf = true ∧ (Lit.int .i64 x.f1).wf = true
theorem o39 : Opens Try.prog 39 k39 G39 := opens_iso _ (fun p => ⟨p.1, p.2⟩) (fun _ => rfl) (opens_struct Try.underlying39 (by kernel_rfl) (opensF_cons rfl (by kernel_rfl) (opens_int Try.underlying5) (opensF_one rfl (by kernel_rfl) (opens_int Try.underlying3))))
/-- THE ONE PURE STATEMENT of bosunlaw02_PackTakes. -/
def bosunlaw02_PackTakes.Pure : Prop := ∀ (x0 : ByteArray) (x1 : List (S39)), x0.size ≤ 140737488351232 → (x1.length * 16 ≤ 140737488351232 ∧ x1.length ≤ 9223372036854775807 ∧ ∀ x_ ∈ x1, G39 x_) → ∃ k, bosunlaw02_PackTakes.f k x0 x1 = some true
end Go.Proofs.Ytenbeniaohigmaa.GTakes
