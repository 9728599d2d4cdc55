/- Written by this session's own program (wip/gen.py) out of the translation: plain Lean functions of the Go functions, and proofs that the calls come to their answers. No conditions beside those in the statements. -/
import Derived.Test.YtnkkbiabloodaaaDoorVaRun
import Derived.Test.YtnkkbiabloodaaaDoorOpens
namespace Go.Proofs.YtnkkbiabloodaaaDoor.GVa
open Go.RowKit Go.Proofs.YtnkkbiabloodaaaDoorW.PrintWords Go.Proofs.YtnkkbiabloodaaaDoorW.PrintLast Go.Proofs.YtnkkbiabloodaaaDoorW.PrintMore Go.Proofs.YtnkkbiabloodaaaDoor.Opens
def G75 (x : S75) : Prop := (Lit.int .i64 x.f0).wf = true ∧ (Lit.int .i64 x.f1).wf = true ∧ True ∧ (Lit.int .i64 x.f3).wf = true ∧ x.f4.size ≤ 140737488351232
theorem o75 : Opens Tryd.prog 75 k75 G75 := rG _ (fun p => ⟨p.1, p.2.1, p.2.2.1, p.2.2.2.1, p.2.2.2.2⟩) (fun _ => rfl) (oL Tryd.underlying75 (by kernel_rfl) (jo rfl (by kernel_rfl) (lN Tryd.underlying3) (jo rfl (by kernel_rfl) (lN Tryd.underlying3) (jo rfl (by kernel_rfl) (qm Tryd.underlying4) (jo rfl (by kernel_rfl) (lN Tryd.underlying2) (qo rfl (by kernel_rfl) (oJ Tryd.underlying9)))))))
def bA.Pure : Prop := ∀ (x0 : List (S75)) (x1 : ByteArray) (x2 : Int) (x3 : Bool), (x0.length * 48 ≤ 140737488351232 ∧ x0.length ≤ 9223372036854775807 ∧ ∀ x_ ∈ x0, G75 x_) → x1.size ≤ 140737488351232 → (Lit.int .i64 x2).wf = true → ∃ k, bA.f k x0 x1 x2 x3 = some true
end Go.Proofs.YtnkkbiabloodaaaDoor.GVa
