/- ValueChecks' plain law. No conditions beside those stated. -/
import Derived.Test.YtnkkbiabloodaaaDoorVaRefs
import Derived.Test.YtnkkbiabloodaaaDoorGVaValueChecksS
namespace Go.Proofs.YtnkkbiabloodaaaDoor.Pure
open Go.RowKit Go.Proofs.YtnkkbiabloodaaaDoor.GVa Go.Proofs.YtnkkbiabloodaaaDoorW.PrintWords Go.Proofs.YtnkkbiabloodaaaDoorW.PrintMore
theorem oQ {l : List S75} {x : SV} (h : qN l = some x) : bC.f l = some (x.f0, x.f1, x.f2, x.f3, x.f4, x.f5, x.f0, x.f1, x.f2, x.f3, dK x.f4, dN x.f5) := by rw [bC.f, h]; rfl
theorem ValueChecks : aY.Pure := by
  intro l m ⟨hl0, hl1, hl⟩ ⟨hm0, hm1, hm⟩
  obtain ⟨k, hk⟩ : ∃ k, l.length + m.length + 200000000 ≤ k := ⟨_, Nat.le_refl _⟩
  obtain ⟨b, hb, hb2⟩ := oL (l := l) (by omega) (fun p hp => (hl p hp).2.2.2.2) (k := k + 1) (by omega)
  obtain ⟨c, hc, hc2⟩ := oL (l := m) (by omega) (fun p hp => (hm p hp).2.2.2.2) (k := k + 1) (by omega)
  refine ⟨k + 1, ?_⟩
  rw [aY.f, hb, hc]
  have hA : aY.j0 (k + 1) l m true = some true := by
    rw [aY.j0, if_pos rfl, oI k (by omega)]; rfl
  show (if b = true then aY.j0 (k + 1) l m (!c) else aY.j0 (k + 1) l m true) = some true
  split
  · rename_i hbt
    cases c with
    | false => exact hA
    | true =>
      obtain ⟨h80, xS⟩ := hb2 hbt
      obtain ⟨xU, xV⟩ := hc2 rfl
      obtain ⟨x, hx, hO⟩ := ql h80 xS
      obtain ⟨y, hy, hP⟩ := ql xU xV
      have e1 := oI k (by omega)
      have e2 := uF hO (by omega) (k := k) (by omega)
      have e3 := uK hO (by omega) (k := k) (by omega)
      have e4 := qg 82 x hO (by omega) k (by omega)
      have e5 := qp 82 x hO (by omega) k (by omega)
      have e6 := sK 82 x y hO hP k (by omega)
      have e7 := vR 82 x y hO hP k (by omega)
      have e8 := (sK 82 x x hO hO k (by omega)).trans (congrArg some (qj 82 x hO))
      rw [aY.j0, if_neg (by decide), oQ hx, oQ hy]
      simp [e1, e2, e3, e4, e5, e6, e7, e8]
  · exact hA
end Go.Proofs.YtnkkbiabloodaaaDoor.Pure
