/- strings.Split: the library's contract in the printed texts' shape. No conditions beside those stated. -/
import Derived.Test.YtenbeniaohigmaaDoorShelf
import Derived.Test.YtenbeniaohigmaaDoorGW
import Derived.Test.YtenbeniaohigmaaDoorGDnsx0
import Derived.Lib.SplitLaws
import Derived.RangeFuncKeeps
namespace Go.Proofs.YtenbeniaohigmaaDoor.GDns
open Go.RowKit Go.Shelf Go.Proofs.YtenbeniaohigmaaDoorW.PrintWords Go.Proofs.YtenbeniaohigmaaDoorW.PrintLast Go.Proofs.YtenbeniaohigmaaDoorW.PrintMore

def strings_Split.f (a0 a1 : ByteArray) : Option (List ByteArray) := if a0.size ≤ 4294967280 ∧ 1 ≤ a1.size then some (Lib.splitB a1 0 (Lib.countB a0 a1) a0) else none
theorem strings_Split.calls (a0 a1 : ByteArray) (r : List ByteArray) (w : World) (h : strings_Split.f a0 a1 = some r) (hG : GW.GW w) :
    Calls Tryd.prog 53 #[.string a0, .string a1] w fun e w' => ∃ v0_ : Value, e = .returned v0_ ∧ Kd.R Kd.string 9 w' w.heap.size (fun _ => True) v0_ r ∧ Below w.heap.size w w' := by
  have hc : a0.size ≤ 4294967280 ∧ 1 ≤ a1.size := Decidable.by_contra fun hn => by rw [strings_Split.f, if_neg hn] at h; cases h
  rw [strings_Split.f, if_pos hc] at h
  obtain rfl := Option.some.inj h
  obtain ⟨m, hm⟩ := hG.1
  refine (Tryd.strings_Split a0 a1 m w (by omega) hm hc.2).mono ?_
  rintro e w' ⟨rfl, rfl⟩
  have hle : Lib.countB a0 a1 ≤ a0.size := Lib.countB_le a1 hc.2 a0.size a0 (Nat.le_refl _)
  have hlen := Lib.splitB_all a1 hc.2 0 (Lib.countB a0 a1) a0 rfl
  refine ⟨_, rfl, Kd.R_of_own (enc := Value.string) ⟨by simp [encs], .inr ⟨w.heap.size, Lib.countB a0 a1 + 1, _, by rw [hlen], Nat.le_refl _, World.alloc_heap_new w _, by omega, by unfold maxLen; omega, by simp [hlen], ?_⟩⟩ (fun _ _ => trivial), (Below.refl _ w).alloc (Nat.le_refl _) _⟩
  rw [List.take_of_length_le (by simp)]
  rfl
end Go.Proofs.YtenbeniaohigmaaDoor.GDns
