/- strings.Builder.String over a builder that lies in a writer's block, of some bytes: what it hands back. No conditions beside those stated. -/
import Derived.Test.YtpncpefppifgdaaGreatDoorBuilderW
import Derived.Test.YtpncpefppifgdaaGreatDoorGUtx3
set_option linter.unusedVariables false
namespace Go.Proofs.YtpncpefppifgdaaGreatDoor.BldW
open Go.RowKit Go.Shelf
set_option maxHeartbeats 2000000 in
set_option maxRecDepth 100000 in
theorem oL (B b : Nat) (p v : Value) (l : List UInt8) (w : World) (hB : B ≤ b) (hbk : w.heap[b]? = some (.cells #[p, v] 150 (0, 0))) (hown : w.ownsRowF B 5 1 v l.length (Lib.byteCells l)) (h0 : l ≠ []) :
    Calls Tryz.prog 69 #[.pointer (some ⟨b, 0, none⟩)] w fun e w' => e = .returned (.string ⟨l.toArray⟩) ∧ Below B w w' := by
  have hn : l.length ≠ 0 := fun e => h0 (List.eq_nil_of_length_eq_zero e)
  rcases hown.2 with ⟨_, hz⟩ | ⟨g, cap, cur, fz, rfl, hbg, hg, hfz, hnc, hcm, hcs, htake⟩
  · exact absurd hz hn
  have e1 : w.drew.heap[g]? = some (.cells cur 5 fz) := hg
  have c1 : w.drew.cell? ⟨b, 1, none⟩ = some (.slice (some ⟨g, 0, none⟩) l.length cap) := by
    have q : w.drew.heap[b]? = some (.cells #[p, .slice (some ⟨g, 0, none⟩) l.length cap] 150 (0, 0)) := hbk
    rw [Lib.cell_of_heap q]; rfl
  have hd := Lib.run_unsafeSliceData_row (P := Tryz.prog) w.drew #[138] 160 ⟨g, 0, none⟩ l.length cap (by omega)
  have hs : (Builtin.unsafeString_ #[160, 3] 9 #[.pointer (some ⟨g, 0, none⟩), .int .i64 l.length]).run Tryz.prog w.drew = .ok (.string ⟨l.toArray⟩) (w.drew.freeze ⟨g, 0, none⟩ l.length) :=
    Lib.run_unsafeString_row w.drew 160 3 9 5 Tryz.underlying160 (by kernel_rfl) g cur.size (by simp [World.shape?, e1]) l h0 (by omega) (by unfold maxLen at hcm; omega) (fun j x hx => hown.cells (g := g) rfl j (.int .u8 x.toNat) (by simp [Lib.byteCells, hx]))
  go_enter Tryz.func69, Tryz.ntmps69
  go_wp2
  go_region
  all_goals (go_wp2; go_ret; exact ⟨rfl, Lib.below_freeze (Below.drew (Below.refl B w)) (p := ⟨g, 0, none⟩) hbg _⟩)
theorem su (B b : Nat) (l : List UInt8) (w : World) (h : Lib.IsBuilderF 150 5 B b (Lib.byteCells l) w) (h0 : l ≠ []) :
    Calls Tryz.prog 69 #[.pointer (some ⟨b, 0, none⟩)] w fun e w' => e = .returned (.string ⟨l.toArray⟩) ∧ Below B w w' := by
  rcases h with h | h
  · obtain ⟨hB, v, hbk, hown, _⟩ := h
    exact oL B b _ v l w hB hbk (by rw [← Lib.byteCells_length l]; exact hown) h0
  · obtain ⟨hB, v, hbk, hown, _⟩ := h
    exact oL B b _ v l w hB hbk (by rw [← Lib.byteCells_length l]; exact hown) h0
end Go.Proofs.YtpncpefppifgdaaGreatDoor.BldW
