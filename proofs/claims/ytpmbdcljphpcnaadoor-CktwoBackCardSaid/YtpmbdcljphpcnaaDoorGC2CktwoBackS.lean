/- Written by this session's own program (wip/gen.py) out of the translation: plain Lean functions of the Go functions, and proofs that the calls come to their answers. No conditions beside those in the statements. -/
import Derived.Test.YtpmbdcljphpcnaaDoorGC2x13
import Derived.Test.YtpmbdcljphpcnaaDoorOpens
namespace Go.Proofs.YtpmbdcljphpcnaaDoor.GC2
open Go.RowKit Go.Proofs.YtpmbdcljphpcnaaDoorW.PrintWords Go.Proofs.YtpmbdcljphpcnaaDoorW.PrintLast Go.Proofs.YtpmbdcljphpcnaaDoorW.PrintMore Go.Proofs.YtpmbdcljphpcnaaDoor.Opens
def G100 (x : S100) : Prop := x.f0.size ≤ 140737488351232 ∧ x.f1.size ≤ 140737488351232
theorem o100 : Opens Tryd.prog 100 k100 G100 := opens_iso _ (fun p => ⟨p.1, p.2⟩) (fun _ => rfl) (opens_struct Tryd.underlying100 (by kernel_rfl) (opensF_cons rfl (by kernel_rfl) (opens_string Tryd.underlying9) (opensF_one rfl (by kernel_rfl) (opens_string Tryd.underlying9))))
def G98 (x : S98) : Prop := x.f0.size ≤ 140737488351232 ∧ x.f1.size ≤ 140737488351232 ∧ x.f2.size ≤ 140737488351232 ∧ (Lit.int .u8 x.f3).wf = true ∧ (Lit.int .u16 x.f4).wf = true ∧ (x.f5.length * 32 ≤ 140737488351232 ∧ x.f5.length ≤ 9223372036854775807 ∧ ∀ x_ ∈ x.f5, G100 x_)
theorem o98 : Opens Tryd.prog 98 k98 G98 := opens_iso _ (fun p => ⟨p.1, p.2.1, p.2.2.1, p.2.2.2.1, p.2.2.2.2.1, p.2.2.2.2.2⟩) (fun _ => rfl) (opens_struct Tryd.underlying98 (by kernel_rfl) (opensF_cons rfl (by kernel_rfl) (opens_string Tryd.underlying9) (opensF_cons rfl (by kernel_rfl) (opens_string Tryd.underlying9) (opensF_cons rfl (by kernel_rfl) (opens_string Tryd.underlying9) (opensF_cons rfl (by kernel_rfl) (opens_int Tryd.underlying5) (opensF_cons rfl (by kernel_rfl) (opens_int Tryd.underlying95) (opensF_one rfl (by kernel_rfl) (opens_slice (B := 32) Tryd.underlying96 (by kernel_rfl) (by kernel_rfl) o100))))))))
def G49 (x : S49) : Prop := (Lit.int .u64 x.f0).wf = true ∧ (x.f1.length * 80 ≤ 140737488351232 ∧ x.f1.length ≤ 9223372036854775807 ∧ ∀ x_ ∈ x.f1, G98 x_)
theorem o49 : Opens Tryd.prog 49 k49 G49 := opens_iso _ (fun p => ⟨p.1, p.2⟩) (fun _ => rfl) (opens_struct Tryd.underlying49 (by kernel_rfl) (opensF_cons rfl (by kernel_rfl) (opens_int Tryd.underlying46) (opensF_one rfl (by kernel_rfl) (opens_slice (B := 80) Tryd.underlying47 (by kernel_rfl) (by kernel_rfl) o98))))
/-- THE ONE PURE STATEMENT of bosunlaw18_CktwoBack. -/
def bosunlaw18_CktwoBack.Pure : Prop := ∀ (x0 : S49) (x1 : ByteArray), G49 x0 → x1.size ≤ 140737488351232 → ∃ k, bosunlaw18_CktwoBack.f k x0.f0 x0.f1 x1 = some true
end Go.Proofs.YtpmbdcljphpcnaaDoor.GC2
