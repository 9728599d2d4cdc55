/- strings.TrimLeft and strings.TrimRight at a blank: the library's contracts in the printed texts' shape. No conditions beside those stated. -/
import Derived.Test.YticabhjmojcfoaaDoorShelf
import Derived.Test.YticabhjmojcfoaaDoorGUtx0
namespace Go.Proofs.YticabhjmojcfoaaDoor.GUt
open Go.RowKit Go.Shelf Go.Proofs.YticabhjmojcfoaaDoorW.PrintWords Go.Proofs.YticabhjmojcfoaaDoorW.PrintLast Go.Proofs.YticabhjmojcfoaaDoorW.PrintMore

def strings_TrimLeft.f (a0 a1 : ByteArray) : Option ByteArray := if a1.data = #[32] then some ⟨(Lib.trimLeftB a0.data.toList 32).toArray⟩ else none
theorem strings_TrimLeft.calls (a0 a1 r : ByteArray) (w : World) (h : strings_TrimLeft.f a0 a1 = some r) :
    Calls Tryd.prog 20 #[.string a0, .string a1] w fun e w' => e = .returned (.string r) ∧ Drawn0 w w' := by
  by_cases ha : a1.data = #[32]
  · rw [strings_TrimLeft.f, if_pos ha] at h
    obtain rfl := Option.some.inj h
    obtain ⟨d⟩ := a1
    obtain rfl : d = #[32] := ha
    refine (Tryd.strings_TrimLeft_one a0 32 (by decide) w).mono ?_
    rintro e w' ⟨rfl, rfl⟩
    exact ⟨rfl, Drawn0.refl _⟩
  · rw [strings_TrimLeft.f, if_neg ha] at h
    cases h
def strings_TrimRight.f (a0 a1 : ByteArray) : Option ByteArray := if a1.data = #[32] ∧ a0.size ≤ 9223372036854775807 then some ⟨(Lib.trimRightB a0.data.toList 32).toArray⟩ else none
theorem strings_TrimRight.calls (a0 a1 r : ByteArray) (w : World) (h : strings_TrimRight.f a0 a1 = some r) :
    Calls Tryd.prog 13 #[.string a0, .string a1] w fun e w' => e = .returned (.string r) ∧ Drawn0 w w' := by
  by_cases ha : a1.data = #[32] ∧ a0.size ≤ 9223372036854775807
  · rw [strings_TrimRight.f, if_pos ha] at h
    obtain rfl := Option.some.inj h
    obtain ⟨d⟩ := a1
    obtain rfl : d = #[32] := ha.1
    refine (Tryd.strings_TrimRight_one a0 32 (by decide) w ha.2).mono ?_
    rintro e w' ⟨rfl, rfl⟩
    exact ⟨rfl, Drawn0.refl _⟩
  · rw [strings_TrimRight.f, if_neg ha] at h
    cases h
end Go.Proofs.YticabhjmojcfoaaDoor.GUt
