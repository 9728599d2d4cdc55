/- A value as the document has it (plain). No conditions beside those stated. -/
import Derived.Test.YtnkkbiabloodaaaDoorGVax0
namespace Go.Proofs.YtnkkbiabloodaaaDoor.GVa
mutual
/-- A value as the document has it. -/
def toR : S29 → S33
| ⟨a,b,c,d,l,p⟩=>⟨a,b,c,d,toRL l,toRP p⟩
def toRL : List S29 → List S33
| []=>[]
| x :: l=>toR x :: toRL l
def toRP : List (Q48 S29) → List (Q50 S33)
| []=>[]
| ⟨k,v⟩ :: l=>⟨k,toR v⟩ :: toRP l
end
theorem toRL_map : ∀ l,toRL l = l.map toR
| []=>rfl
| x :: l=>by rw [toRL,toRL_map l];rfl
theorem toRP_map : ∀ l,toRP l = l.map (fun p=>(⟨p.f0,toR p.f1⟩ : S50))
| []=>rfl
| ⟨k,v⟩ :: l=>by rw [toRP,toRP_map l];rfl
theorem toR_eta (v : S29) : toR v = ⟨v.f0,v.f1,v.f2,v.f3,v.f4.map toR,v.f5.map (fun p=>(⟨p.f0,toR p.f1⟩ : S50))⟩:=by
 cases v;rw [toR,toRL_map,toRP_map]
end Go.Proofs.YtnkkbiabloodaaaDoor.GVa
