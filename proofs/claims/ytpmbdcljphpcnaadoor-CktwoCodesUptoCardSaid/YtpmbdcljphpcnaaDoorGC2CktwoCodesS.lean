/- Written by this session's own program (wip/gen.py) out of the translation: plain Lean functions of the Go functions, and proofs that the calls come to their answers. No conditions beside those in the statements. -/
import Derived.Test.YtpmbdcljphpcnaaDoorGC2x14
import Derived.Test.YtpmbdcljphpcnaaDoorOpensU
namespace Go.Proofs.YtpmbdcljphpcnaaDoor.GC2
open Go.RowKit Go.Proofs.YtpmbdcljphpcnaaDoorW.PrintWords Go.Proofs.YtpmbdcljphpcnaaDoorW.PrintLast Go.Proofs.YtpmbdcljphpcnaaDoorW.PrintMore Go.Proofs.YtpmbdcljphpcnaaDoor.OpensU
def vU (x : S100) : Prop := x.f0.size ≤ 140737488351232 ∧ x.f1.size ≤ 140737488351232
def oN (x : S100) : Nat := ((x.f0.size + 1) + (x.f1.size + 1)) + 1
theorem xA : Opens Tryd.prog 100 iO vU oN := j4 _ (fun p => ⟨p.1, p.2⟩) (fun _ => rfl) (iQ Tryd.underlying100 (by kernel_rfl) (fZ rfl (by kernel_rfl) (gT Tryd.underlying9) (jF rfl (by kernel_rfl) (gT Tryd.underlying9))))
def G98 (x : S98) : Prop := x.f0.size ≤ 140737488351232 ∧ x.f1.size ≤ 140737488351232 ∧ x.f2.size ≤ 140737488351232 ∧ (Lit.int .u8 x.f3).wf = true ∧ (Lit.int .u16 x.f4).wf = true ∧ (x.f5.length * 32 ≤ 140737488351232 ∧ x.f5.length ≤ 9223372036854775807 ∧ ∀ x_ ∈ x.f5, vU x_)
def U98 (x : S98) : Nat := ((x.f0.size + 1) + ((x.f1.size + 1) + ((x.f2.size + 1) + (1 + (1 + ((x.f5.map oN).sum + 1)))))) + 1
theorem o98 : Opens Tryd.prog 98 k98 G98 U98 := j4 _ (fun p => ⟨p.1, p.2.1, p.2.2.1, p.2.2.2.1, p.2.2.2.2.1, p.2.2.2.2.2⟩) (fun _ => rfl) (iQ Tryd.underlying98 (by kernel_rfl) (fZ rfl (by kernel_rfl) (gT Tryd.underlying9) (fZ rfl (by kernel_rfl) (gT Tryd.underlying9) (fZ rfl (by kernel_rfl) (gT Tryd.underlying9) (fZ rfl (by kernel_rfl) (jZ Tryd.underlying5) (fZ rfl (by kernel_rfl) (jZ Tryd.underlying95) (jF rfl (by kernel_rfl) (kH (B := 32) Tryd.underlying96 (by kernel_rfl) (by kernel_rfl) xA))))))))
def G49 (x : S49) : Prop := (Lit.int .u64 x.f0).wf = true ∧ (x.f1.length * 80 ≤ 140737488351232 ∧ x.f1.length ≤ 9223372036854775807 ∧ ∀ x_ ∈ x.f1, G98 x_)
def U49 (x : S49) : Nat := (1 + ((x.f1.map U98).sum + 1)) + 1
theorem o49 : Opens Tryd.prog 49 k49 G49 U49 := j4 _ (fun p => ⟨p.1, p.2⟩) (fun _ => rfl) (iQ Tryd.underlying49 (by kernel_rfl) (fZ rfl (by kernel_rfl) (jZ Tryd.underlying46) (jF rfl (by kernel_rfl) (kH (B := 80) Tryd.underlying47 (by kernel_rfl) (by kernel_rfl) o98))))
def aI.Pure : Prop := ∀ (x0 : S49) (x1 : S49), G49 x0 → G49 x1 → (U49 x0) + (U49 x1) ≤ 1048576 → ∃ k, aI.f k x0.f0 x0.f1 x1.f0 x1.f1 = some true
end Go.Proofs.YtpmbdcljphpcnaaDoor.GC2
