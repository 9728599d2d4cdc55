/- evict: the row's Pop behind its pointer. No conditions beside those stated. -/
import Derived.Test.YthnbkhggbfnpcaaEvWalk1
namespace Go.Proofs.Ythnbkhggbfnpcaa.Ev
open Go.RowKit Go.Proofs.YthnbkhggbfnpcaaW.PrintWords Go.Proofs.YthnbkhggbfnpcaaW.PrintLast Go.Proofs.YthnbkhggbfnpcaaW.PrintMore
set_option linter.unusedVariables false
set_option linter.unusedSimpArgs false
/-- What lay below the pointer's block stays so. -/
def Lifts (g : Nat) (w w' : World) : Prop := ∀ w0 : World, Below w0.heap.size w0 w → w0.heap.size ≤ g → Below w0.heap.size w0 w'
set_option maxHeartbeats 4000000 in
theorem RowPop.calls (g : Nat) (ad : Addr) (n c : Nat) (f : ByteArray) (u a : Nat) (i : Int) (w : World) (hg : w.heap[g]? = some (.cells #[.slice (some ad) (n + 1) c] 53 (0, 0))) (hn : n < 4611686018427387904) (hc : n + 1 ≤ c)
    (h0 : w.cell? (ad.add (n * 4)) = some (.string f)) (h1 : w.cell? ⟨(ad.add (n * 4)).block, (ad.add (n * 4)).off + 1, none⟩ = some (.float .f64 u)) (h2 : w.cell? ⟨(ad.add (n * 4)).block, (ad.add (n * 4)).off + 2, none⟩ = some (.float .f64 a)) (h3 : w.cell? ⟨(ad.add (n * 4)).block, (ad.add (n * 4)).off + 3, none⟩ = some (.int .i64 i)) :
    Calls Try.prog 44 #[.pointer (some ⟨g, 0, none⟩)] w fun e w' => e = .returned (.iface 55 (.agg #[.string f, .float .f64 u, .float .f64 a, .int .i64 i])) ∧ w'.heap[g]? = some (.cells #[.slice (some ad) n c] 53 (0, 0)) ∧ KeepBut w w' g none ∧ Lifts g w w' := by
  have hu55 := Try.underlying55
  have hu53 := Try.underlying53
  have HG := Aside0.mk hg
  have hcell : w.cell? ⟨g, 0, none⟩ = some (.slice (some ad) (n + 1) c) := (blk_cell hg 0).trans rfl
  have hfz := blk_frozen hg 0
  have hw1 : wrap64 (((n + 1 : Nat) : Int) - 1) = (n : Int) := by unfold wrap64; omega
  have hgA := blk_alloc hg (.cells #[.string f, .float .f64 u, .float .f64 a, .int .i64 i] 55)
  have hcell2 : (w.alloc (.cells #[.string f, .float .f64 u, .float .f64 a, .int .i64 i] 55)).cell? ⟨g, 0, none⟩ = some (.slice (some ad) (n + 1) c) := (blk_cell hgA 0).trans rfl
  have hfz2 := blk_frozen hgA 0
  have HA := Aside0.mk hgA
  have HL := Aside0.mk (blk_lt hg)
  have hbx : ((w.alloc (.cells #[.string f, .float .f64 u, .float .f64 a, .int .i64 i] 55)).setCell ⟨g, 0, none⟩ (.slice (some ad) n c)).heap[w.heap.size]? = some (.cells #[.string f, .float .f64 u, .float .f64 a, .int .i64 i] 55 (0, 0)) := blk_far (heap_alloc_new w _) (by have := blk_lt hg; simp; omega) _
  have hb0 : ((w.alloc (.cells #[.string f, .float .f64 u, .float .f64 a, .int .i64 i] 55)).setCell ⟨g, 0, none⟩ (.slice (some ad) n c)).cell? ⟨w.heap.size, 0, none⟩ = some (.string f) := (blk_cell hbx 0).trans rfl
  have hb1 : ((w.alloc (.cells #[.string f, .float .f64 u, .float .f64 a, .int .i64 i] 55)).setCell ⟨g, 0, none⟩ (.slice (some ad) n c)).cell? ⟨w.heap.size, 1, none⟩ = some (.float .f64 u) := (blk_cell hbx 1).trans rfl
  have hb2 : ((w.alloc (.cells #[.string f, .float .f64 u, .float .f64 a, .int .i64 i] 55)).setCell ⟨g, 0, none⟩ (.slice (some ad) n c)).cell? ⟨w.heap.size, 2, none⟩ = some (.float .f64 a) := (blk_cell hbx 2).trans rfl
  have hb3 : ((w.alloc (.cells #[.string f, .float .f64 u, .float .f64 a, .int .i64 i] 55)).setCell ⟨g, 0, none⟩ (.slice (some ad) n c)).cell? ⟨w.heap.size, 3, none⟩ = some (.int .i64 i) := (blk_cell hbx 3).trans rfl
  clear hg hgA hbx
  go_enter Try.func44, Try.ntmps44
  have hsf : ∀ (A : Addr) (b : Nat) (W : World), (store A (.float .f64 b)).run Try.prog W = stored Try.prog W A (.float .f64 b) .plain := fun A b W => run_store Try.prog W A _ _ rfl
  go_wp2
  go_ret
  refine ⟨rfl, blk_put HA.out 0 _ rfl, ?_⟩
  exact ⟨(KeepBut.of_below ((Below.refl _ w).alloc (Nat.le_refl _) _) g none).set_ 0 _, fun w0 h hg => below_set (below_alloc h _) hg⟩
end Go.Proofs.Ythnbkhggbfnpcaa.Ev
