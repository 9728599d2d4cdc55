/- ValueGets' plain law. No conditions beside those stated. -/
import Derived.Test.YtnkkbiabloodaaaDoorGVaValueGetsS
namespace Go.Proofs.YtnkkbiabloodaaaDoor.Pure
open Go.RowKit Go.Proofs.YtnkkbiabloodaaaDoor.GVa Go.Proofs.YtnkkbiabloodaaaDoorW.PrintWords Go.Proofs.YtnkkbiabloodaaaDoorW.PrintMore
theorem ValueGets : bA.Pure := by
  intro l key n b ⟨hl0, hl1, hl⟩ ha h2
  obtain ⟨k, hk⟩ : ∃ k, l.length + 4000000 ≤ k := ⟨_, Nat.le_refl _⟩
  obtain ⟨c, hc, hc2⟩ := tJ (l := l) (by omega) (fun p hp => (hl p hp).2.2.2.2) (k := k) (by omega)
  refine ⟨k, ?_⟩
  have hg : bA.Good k l key := by
    refine ⟨by omega, ?_⟩
    cases c with
    | false => exact Or.inl ⟨false, hc, Or.inl rfl⟩
    | true =>
      by_cases hs : 5000 < key.size
      · exact Or.inl ⟨true, hc, Or.inr hs⟩
      · obtain ⟨h80, xS⟩ := hc2 rfl
        exact Or.inr ⟨hc, by omega, uM h80 xS⟩
  unfold bA.f
  rw [if_pos hg]
end Go.Proofs.YtnkkbiabloodaaaDoor.Pure
