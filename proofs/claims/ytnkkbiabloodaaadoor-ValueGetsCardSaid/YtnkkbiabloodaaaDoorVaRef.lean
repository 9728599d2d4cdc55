/- A value as the document has it (plain). No conditions beside those stated. -/
import Derived.Test.YtnkkbiabloodaaaDoorGVax0
namespace Go.Proofs.YtnkkbiabloodaaaDoor.GVa
mutual
def toR : S29 → S33
 | ⟨a, b, c, d, l, p⟩ => ⟨a, b, c, d, cZ l, dz p⟩
def cZ : List S29 → List S33
 | [] => []
 | x :: l => toR x :: cZ l
def dz : List (Q48 S29) → List (Q50 S33)
 | [] => []
 | ⟨k, v⟩ :: l => ⟨k, toR v⟩ :: dz l
end
theorem gX : ∀ l, cZ l = l.map toR
 | [] => rfl
 | x :: l => by rw [cZ, gX l]; rfl
theorem jd : ∀ l, dz l = l.map (fun p => (⟨p.f0, toR p.f1⟩ : S50))
 | [] => rfl
 | ⟨k, v⟩ :: l => by rw [dz, jd l]; rfl
theorem xC (v : S29) : toR v = ⟨v.f0, v.f1, v.f2, v.f3, v.f4.map toR, v.f5.map (fun p => (⟨p.f0, toR p.f1⟩ : S50))⟩ := by
  cases v; rw [toR, gX, jd]
end Go.Proofs.YtnkkbiabloodaaaDoor.GVa
