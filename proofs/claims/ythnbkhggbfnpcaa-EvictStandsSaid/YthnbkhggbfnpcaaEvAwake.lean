/- bosunlaw24.Awake: it is true. No conditions beside those stated. -/
import Derived.Test.YthnbkhggbfnpcaaEvRUntil
namespace Go.Proofs.Ythnbkhggbfnpcaa.GEv
open Go.RowKit Go.Proofs.YthnbkhggbfnpcaaW.PrintWords Go.Proofs.YthnbkhggbfnpcaaW.PrintLast Go.Proofs.YthnbkhggbfnpcaaW.PrintMore Go.Proofs.Ythnbkhggbfnpcaa.Ev
set_option linter.unusedVariables false
set_option linter.unusedSimpArgs false
def awakeL : List S27 := [⟨⟨#[97]⟩, 4613937818241073152, 4611686018427387904⟩, ⟨⟨#[98]⟩, 4607182418800017408, 0⟩, ⟨⟨#[99]⟩, 0, 0⟩]
theorem awake_first : evict_First.f awakeL 3 = some [⟨#[98]⟩, ⟨#[97]⟩, ⟨#[99]⟩] := by kernel_rfl
set_option maxHeartbeats 4000000 in
set_option maxRecDepth 100000 in
theorem bosunlaw24_Awake.calls (w : World) : Calls Try.prog 5 #[] w fun e w' => e = .returned (.bool true) ∧ Below w.heap.size w w' := by
  have hu27 := Try.underlying27
  go_enter Try.func5, Try.ntmps5
  go_wp2_with (first
    | ((with_reducible refine gate_dst (N:=5) rfl ?_); refine Kd.R_lit k27 (w0 := w) w.heap.size 27 ?hg (N:=5) ?hd (xs:=awakeL) (inner:=[.string ⟨#[97]⟩, .float .f64 4613937818241073152, .float .f64 4611686018427387904, .string ⟨#[98]⟩, .float .f64 4607182418800017408, .float .f64 0, .string ⟨#[99]⟩, .float .f64 0, .float .f64 0]) (ok:=fun _ => True) (okp:=fun _ => True) ?hr ?hp (fun _ hk => hk) trivial (Below.refl _ _) (Nat.le_refl _) (by simp [awakeL]) ?_; (case hd => rfl); (case hg => rfl); (case hr => first | (go_simp; done) | (go_simp; rfl)); (case hp => exact Reps.c3 (k27_mkM _ _ _ (⟨⟨#[97]⟩, 4613937818241073152, 4611686018427387904⟩ : S27)) (Reps.c3 (k27_mkM _ _ _ (⟨⟨#[98]⟩, 4607182418800017408, 0⟩ : S27)) (Reps.c3 (k27_mkM _ _ _ (⟨⟨#[99]⟩, 0, 0⟩ : S27)) (Reps.none _ _)))); intro v1 w1 ho hb _ _; obtain ⟨A, c, rfl⟩ := Kd.R_slice ho; have H1 := Aside0.mk (Kd.R_reads' ho).2; have HB := Aside0.mk hb; clear ho hb)
    | (go_at_call 6; refine (evict_First.calls A c awakeL 3 _ w1 H1.out.2 H1.out.1 (by decide) awake_first).mono ?_; rintro e w2 ⟨v, rfl, hr, hb⟩; obtain ⟨A2, c2, rfl⟩ := Kd.R_slice hr; have HC := (Kd.R_reads' hr).2.2; obtain ⟨d0, e0, x0⟩ := Kd.at_string HC 0 (by decide) (by decide); cases e0; obtain ⟨d1, e1, x1⟩ := Kd.at_string HC 1 (by decide) (by decide); cases e1; obtain ⟨d2, e2, x2⟩ := Kd.at_string HC 2 (by decide) (by decide); cases e2; have y0 : w2.cell? d0 = some (.string ⟨#[98]⟩) := (congrArg w2.cell? (Addr.add_zero' d0)).symm.trans x0; have y1 : w2.cell? ⟨d0.block, d0.off + 1, none⟩ = some (.string ⟨#[97]⟩) := x1; have y2 : w2.cell? ⟨d0.block, d0.off + 2, none⟩ = some (.string ⟨#[99]⟩) := x2; clear x0 x1 x2; have HB2 := Aside0.mk (below_step HB.out hb); clear HC hr hb))
  go_ret
  exact ⟨rfl, HB2.out⟩
end Go.Proofs.Ythnbkhggbfnpcaa.GEv
