/- Written by this session's own program (wip/gen.py) out of the translation: plain Lean functions of the Go functions, and proofs that the calls come to their answers. No conditions beside those in the statements. -/
import Derived.Test.YtpncpefppifgdaaGreatDoorGUtx18
import Derived.Test.YtpncpefppifgdaaGreatDoorOpensU
namespace Go.Proofs.YtpncpefppifgdaaGreatDoor.GUt
open Go.RowKit Go.Proofs.YtpncpefppifgdaaGreatDoorW.PrintWords Go.Proofs.YtpncpefppifgdaaGreatDoorW.PrintLast Go.Proofs.YtpncpefppifgdaaGreatDoorW.PrintMore Go.Proofs.YtpncpefppifgdaaGreatDoor.OpensU
def G67 (x : S67) : Prop := x.f0.size ≤ 140737488351232 ∧ x.f1.size ≤ 140737488351232 ∧ x.f2.size ≤ 140737488351232 ∧ (Lit.int .u8 x.f3).wf = true
def U67 (x : S67) : Nat := ((x.f0.size + 1) + ((x.f1.size + 1) + ((x.f2.size + 1) + 1))) + 1
theorem o67 : Opens Tryz.prog 67 k67 G67 U67 := kC _ (fun p => ⟨p.1, p.2.1, p.2.2.1, p.2.2.2⟩) (fun _ => rfl) (jh Tryz.underlying67 (by kernel_rfl) (gF rfl (by kernel_rfl) (gP Tryz.underlying9) (gF rfl (by kernel_rfl) (gP Tryz.underlying9) (gF rfl (by kernel_rfl) (gP Tryz.underlying9) (jQ rfl (by kernel_rfl) (ku Tryz.underlying5))))))
def G25 (x : S25) : Prop := (Lit.int .u32 x.f0).wf = true ∧ (x.f1.length * 56 ≤ 140737488351232 ∧ x.f1.length ≤ 9223372036854775807 ∧ ∀ x_ ∈ x.f1, G67 x_)
def U25 (x : S25) : Nat := (1 + ((x.f1.map U67).sum + 1)) + 1
theorem o25 : Opens Tryz.prog 25 k25 G25 U25 := kC _ (fun p => ⟨p.1, p.2⟩) (fun _ => rfl) (jh Tryz.underlying25 (by kernel_rfl) (gF rfl (by kernel_rfl) (ku Tryz.underlying22) (jQ rfl (by kernel_rfl) (kW (B := 56) Tryz.underlying23 (by kernel_rfl) (by kernel_rfl) o67))))
def G73 (x : S73) : Prop := x.f0.size ≤ 140737488351232 ∧ x.f1.size ≤ 140737488351232
def U73 (x : S73) : Nat := ((x.f0.size + 1) + (x.f1.size + 1)) + 1
theorem o73 : Opens Tryz.prog 73 k73 G73 U73 := kC _ (fun p => ⟨p.1, p.2⟩) (fun _ => rfl) (jh Tryz.underlying73 (by kernel_rfl) (gF rfl (by kernel_rfl) (gP Tryz.underlying9) (jQ rfl (by kernel_rfl) (gP Tryz.underlying9))))
def G71 (x : S71) : Prop := x.f0.size ≤ 140737488351232 ∧ x.f1.size ≤ 140737488351232 ∧ x.f2.size ≤ 140737488351232 ∧ (Lit.int .u8 x.f3).wf = true ∧ (Lit.int .u16 x.f4).wf = true ∧ (x.f5.length * 32 ≤ 140737488351232 ∧ x.f5.length ≤ 9223372036854775807 ∧ ∀ x_ ∈ x.f5, G73 x_)
def U71 (x : S71) : Nat := ((x.f0.size + 1) + ((x.f1.size + 1) + ((x.f2.size + 1) + (1 + (1 + ((x.f5.map U73).sum + 1)))))) + 1
theorem o71 : Opens Tryz.prog 71 k71 G71 U71 := kC _ (fun p => ⟨p.1, p.2.1, p.2.2.1, p.2.2.2.1, p.2.2.2.2.1, p.2.2.2.2.2⟩) (fun _ => rfl) (jh Tryz.underlying71 (by kernel_rfl) (gF rfl (by kernel_rfl) (gP Tryz.underlying9) (gF rfl (by kernel_rfl) (gP Tryz.underlying9) (gF rfl (by kernel_rfl) (gP Tryz.underlying9) (gF rfl (by kernel_rfl) (ku Tryz.underlying5) (gF rfl (by kernel_rfl) (ku Tryz.underlying68) (jQ rfl (by kernel_rfl) (kW (B := 32) Tryz.underlying69 (by kernel_rfl) (by kernel_rfl) o73))))))))
def G29 (x : S29) : Prop := (Lit.int .u64 x.f0).wf = true ∧ (x.f1.length * 80 ≤ 140737488351232 ∧ x.f1.length ≤ 9223372036854775807 ∧ ∀ x_ ∈ x.f1, G71 x_)
def U29 (x : S29) : Nat := (1 + ((x.f1.map U71).sum + 1)) + 1
theorem o29 : Opens Tryz.prog 29 k29 G29 U29 := kC _ (fun p => ⟨p.1, p.2⟩) (fun _ => rfl) (jh Tryz.underlying29 (by kernel_rfl) (gF rfl (by kernel_rfl) (ku Tryz.underlying26) (jQ rfl (by kernel_rfl) (kW (B := 80) Tryz.underlying27 (by kernel_rfl) (by kernel_rfl) o71))))
def aK.Pure : Prop := ∀ (x0 : S25) (x1 : S29), G25 x0 → G29 x1 → (U25 x0) + (U29 x1) ≤ 1048576 → ∃ k, aK.f k x0.f0 x0.f1 x1.f0 x1.f1 = some true
end Go.Proofs.YtpncpefppifgdaaGreatDoor.GUt
