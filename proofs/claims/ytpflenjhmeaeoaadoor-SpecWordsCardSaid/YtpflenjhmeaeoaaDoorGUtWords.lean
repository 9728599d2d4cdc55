/- spec.restarts, spec.protos: an array of words, sliced: their contracts, in terms of plain lists. No conditions beside those stated. -/
import Derived.Test.YtpflenjhmeaeoaaDoorGUtx0
namespace Go.Proofs.YtpflenjhmeaeoaaDoor.GUt
open Go.RowKit Go.Proofs.YtpflenjhmeaeoaaDoorW.PrintWords Go.Proofs.YtpflenjhmeaeoaaDoorW.PrintLast Go.Proofs.YtpflenjhmeaeoaaDoorW.PrintMore
set_option linter.unusedVariables false
set_option linter.unusedSimpArgs false
def dL.f : Option (List ByteArray) := some [⟨#[97, 108, 119, 97, 121, 115]⟩, ⟨#[111, 110, 45, 102, 97, 105, 108, 117, 114, 101]⟩, ⟨#[110, 101, 118, 101, 114]⟩]
def dY.f : Option (List ByteArray) := some [⟨#[116, 99, 112]⟩, ⟨#[117, 100, 112]⟩]
theorem kE {w' : World} {b n : Nat} (l : List ByteArray) (t : TypeId) (hb : w'.heap[b]? = some (.cells (l.map Value.string).toArray t (0, 0))) (hn : n ≤ b) (hl : l.length ≤ 9223372036854775807) :
    Kd.V Kd.string 9 w' n (fun k_ => n ≤ k_) (.slice (some ⟨b, 0, none⟩) l.length l.length) l := by
  refine Kd.gZ (Nat.le_refl _) fun W hW => ?_
  have hlt : b < w'.heap.size := (Array.getElem?_eq_some_iff.1 hb).1
  have hb' := (hW b hn hlt).trans hb
  refine ⟨rfl, hl, fun _ => ⟨_, rfl, fun j p hj => ⟨[.string p], rfl, rfl, fun i u hu => ?_⟩⟩⟩
  cases i with
  | succ i => simp at hu
  | zero =>
    obtain rfl : Value.string p = u := by simpa using hu
    have e : (⟨b, 0, none⟩ : Addr).add (j * Kd.string.sz + 0) = ⟨b, j, none⟩ := by simp [Addr.add, Kd.string, Kd.scalar] <;> exact fun h => h.symm
    rw [e]
    refine (ak hb' j).trans ?_
    simp [hj]
set_option maxHeartbeats 4000000 in
set_option maxRecDepth 100000 in
theorem dL.calls (r : List ByteArray) (w : World) (h : dL.f = some r) :
    Calls Tryd.prog 54 #[] w fun e w' => ∃ sD : Value, e = .returned sD ∧ Kd.V Kd.string 9 w' w.heap.size (fun k_ => (w.heap.size ≤ k_)) sD r ∧ Below w.heap.size w w' := by
  obtain rfl := Option.some.inj h
  have sF := Tryd.underlying119
  go_enter Tryd.func54, Tryd.ntmps54
  go_wp2
  go_ret
  exact ⟨_, rfl, kE [⟨#[97, 108, 119, 97, 121, 115]⟩, ⟨#[111, 110, 45, 102, 97, 105, 108, 117, 114, 101]⟩, ⟨#[110, 101, 118, 101, 114]⟩] 119 (heap_alloc_new w _) (Nat.le_refl _) (by decide), (Below.refl _ w).alloc (Nat.le_refl _) _⟩
set_option maxHeartbeats 4000000 in
set_option maxRecDepth 100000 in
theorem dY.calls (r : List ByteArray) (w : World) (h : dY.f = some r) :
    Calls Tryd.prog 55 #[] w fun e w' => ∃ sD : Value, e = .returned sD ∧ Kd.V Kd.string 9 w' w.heap.size (fun k_ => (w.heap.size ≤ k_)) sD r ∧ Below w.heap.size w w' := by
  obtain rfl := Option.some.inj h
  have sG := Tryd.underlying120
  go_enter Tryd.func55, Tryd.ntmps55
  go_wp2
  go_ret
  exact ⟨_, rfl, kE [⟨#[116, 99, 112]⟩, ⟨#[117, 100, 112]⟩] 120 (heap_alloc_new w _) (Nat.le_refl _) (by decide), (Below.refl _ w).alloc (Nat.le_refl _) _⟩
end Go.Proofs.YtpflenjhmeaeoaaDoor.GUt
