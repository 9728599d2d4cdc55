/- The methods of the heap's interface value: how they are reached. No conditions beside those stated. -/
import Derived.Test.YthnbkhggbfnpcaaGEvx0
namespace Go.Proofs.Ythnbkhggbfnpcaa.Ev
open Go.RowKit Go.Proofs.YthnbkhggbfnpcaaW.PrintWords Go.Proofs.YthnbkhggbfnpcaaW.PrintLast Go.Proofs.YthnbkhggbfnpcaaW.PrintMore
set_option linter.unusedVariables false
set_option linter.unusedSimpArgs false
noncomputable def methOf (name : String) : Option (Nat × Option (Nat × Bool)) := (Try.prog.info? 51).bind fun i => (i.methods.find? (·.name == name)).map fun m => (m.path.toList.length, m.func)
theorem mLess : methOf "Less" = some (0, some (43, false)) := by kernel_rfl
theorem mSwap : methOf "Swap" = some (0, some (45, false)) := by kernel_rfl
theorem mLen : methOf "Len" = some (0, some (24, false)) := by kernel_rfl
theorem mPop : methOf "Pop" = some (0, some (44, true)) := by kernel_rfl
theorem info53 : (Try.prog.info? 53).map (fun i => (i.zero, i.size, i.bytes)) = some (some (.slice none 0 0), 1, 24) := by kernel_rfl
theorem under51 : Try.prog.underlying 51 = some (.pointer 53) := by kernel_rfl
theorem meth_any (n : Nat) {name : String} {f : Nat} (hm : methOf name = some (0, some (f, false))) (g : Nat) (v : Value) (w : World) (hl : (loadVar 53 ⟨g, 0, none⟩).run Try.prog w = .ok v w) :
    (method (n + 1) 51 (.pointer (some ⟨g, 0, none⟩)) name).run Try.prog w = .ok (f, v) w := by
  unfold methOf at hm
  obtain ⟨i, hi, hm⟩ := Option.bind_eq_some_iff.1 hm
  obtain ⟨m, hf, hm⟩ := Option.map_eq_some_iff.1 hm
  injection hm with hp hfn
  have hp' : m.path.toList = [] := List.length_eq_zero_iff.1 hp
  have hpe : m.path.isEmpty = true := by rw [← Array.isEmpty_toList, hp']; rfl
  have hw : ∀ (ts : Array TypeId) (t : TypeId) (a : Addr) (s1 s2 : String), Builtin.ssaWrapNilChk_ ts t #[.pointer (some a), strVal s1, strVal s2] = pure (.pointer (some a)) := fun _ _ _ _ _ => rfl
  simp [method, typeInfo, hi, hf, hp', hpe, hfn, follow, receiverAt, under51, underlying, Place.get, asAddr, hl, hw]
  split <;> simp [hl]
theorem meth_ptr (n : Nat) {name : String} {f : Nat} (hm : methOf name = some (0, some (f, true))) (g : Nat) (w : World) :
    (method (n + 1) 51 (.pointer (some ⟨g, 0, none⟩)) name).run Try.prog w = .ok (f, .pointer (some ⟨g, 0, none⟩)) w := by
  unfold methOf at hm
  obtain ⟨i, hi, hm⟩ := Option.bind_eq_some_iff.1 hm
  obtain ⟨m, hf, hm⟩ := Option.map_eq_some_iff.1 hm
  injection hm with hp hfn
  have hp' : m.path.toList = [] := List.length_eq_zero_iff.1 hp
  have hpe : m.path.isEmpty = true := by rw [← Array.isEmpty_toList, hp']; rfl
  simp [method, typeInfo, hi, hf, hp', hpe, hfn, follow, receiverAt, under51, underlying, Place.get, asAddr]
theorem load53 {w : World} {g : Nat} {A : Option Addr} {n c : Nat} (hc : w.cell? ⟨g, 0, none⟩ = some (.slice A n c)) : (loadVar 53 ⟨g, 0, none⟩).run Try.prog w = .ok (.slice A n c) w := by
  have hu53 := Try.underlying53
  go_simp
theorem run_less {w : World} {g : Nat} {A : Option Addr} {n c : Nat} (hc : w.cell? ⟨g, 0, none⟩ = some (.slice A n c)) : (method 182 51 (.pointer (some ⟨g, 0, none⟩)) "Less").run Try.prog w = .ok (43, .slice A n c) w := meth_any 181 mLess g _ w (load53 hc)
theorem run_swap {w : World} {g : Nat} {A : Option Addr} {n c : Nat} (hc : w.cell? ⟨g, 0, none⟩ = some (.slice A n c)) : (method 182 51 (.pointer (some ⟨g, 0, none⟩)) "Swap").run Try.prog w = .ok (45, .slice A n c) w := meth_any 181 mSwap g _ w (load53 hc)
theorem run_len {w : World} {g : Nat} {A : Option Addr} {n c : Nat} (hc : w.cell? ⟨g, 0, none⟩ = some (.slice A n c)) : (method 182 51 (.pointer (some ⟨g, 0, none⟩)) "Len").run Try.prog w = .ok (24, .slice A n c) w := meth_any 181 mLen g _ w (load53 hc)
theorem run_pop {w : World} {g : Nat} : (method 182 51 (.pointer (some ⟨g, 0, none⟩)) "Pop").run Try.prog w = .ok (44, .pointer (some ⟨g, 0, none⟩)) w := meth_ptr 181 mPop g w
end Go.Proofs.Ythnbkhggbfnpcaa.Ev
