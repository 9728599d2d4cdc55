/- evict.Ahead: its contract. No conditions beside those stated. -/
import Derived.Test.YthnbkhggbfnpcaaEvRAhead
namespace Go.Proofs.Ythnbkhggbfnpcaa.GEv
open Go.RowKit Go.Proofs.YthnbkhggbfnpcaaW.PrintWords Go.Proofs.YthnbkhggbfnpcaaW.PrintLast Go.Proofs.YthnbkhggbfnpcaaW.PrintMore Go.Proofs.Ythnbkhggbfnpcaa.Ev
set_option linter.unusedVariables false
set_option linter.unusedSimpArgs false
def evict_Ahead.f (fa : ByteArray) (ua aa : Nat) (fb : ByteArray) (ub ab : Nat) : Option Bool := some (aheadB fa ua aa fb ub ab)
def evict_Ahead.T1 : Bool × List (List Nat × List Nat) := (true, [([], []), ([0], [0]), ([], []), ([2, 1], [2]), ([1, 3, 0, 1], [1]), ([3, 4, 0, 1, 2, 3, 4], [3])])
def evict_Ahead.B1 : List Nat := [0, 1, 0, 7, 15, 31]
theorem evict_Ahead.tab1 : rtab .any (opsOf Try.f8 1) = evict_Ahead.T1 := by kernel_rfl
theorem evict_Ahead.bits1 : waitsOk evict_Ahead.T1.2 evict_Ahead.B1 = true := by kernel_rfl
set_option maxHeartbeats 4000000 in
set_option maxRecDepth 100000 in
theorem evict_Ahead.calls (fa : ByteArray) (ua aa : Nat) (fb : ByteArray) (ub ab : Nat) (r : Bool) (w : World) (h : evict_Ahead.f fa ua aa fb ub ab = some r) :
    Calls Try.prog 8 #[.agg #[.string fa, .float .f64 ua, .float .f64 aa], .agg #[.string fb, .float .f64 ub, .float .f64 ab]] w fun e w' => e = .returned (.bool r) ∧ Below w.heap.size w w' := by
  have hu27 := Try.underlying27
  obtain rfl := Option.some.inj h
  clear h
  have hA : ((w.alloc (.cells #[.string fa, .float .f64 ua, .float .f64 aa] 27)).alloc (.cells #[.string fb, .float .f64 ub, .float .f64 ab] 27)).heap[w.heap.size]? = some (.cells #[.string fa, .float .f64 ua, .float .f64 aa] 27 (0, 0)) := blk_alloc (heap_alloc_new w _) _
  have hB : ((w.alloc (.cells #[.string fa, .float .f64 ua, .float .f64 aa] 27)).alloc (.cells #[.string fb, .float .f64 ub, .float .f64 ab] 27)).heap[w.heap.size + 1]? = some (.cells #[.string fb, .float .f64 ub, .float .f64 ab] 27 (0, 0)) := by
    have := heap_alloc_new (w.alloc (.cells #[.string fa, .float .f64 ua, .float .f64 aa] 27)) (.cells #[.string fb, .float .f64 ub, .float .f64 ab] 27)
    rwa [World.size_alloc] at this
  have HB : Below w.heap.size w ((w.alloc (.cells #[.string fa, .float .f64 ua, .float .f64 aa] 27)).alloc (.cells #[.string fb, .float .f64 ub, .float .f64 ab] 27)) := ((Below.refl _ w).alloc (Nat.le_refl _) _).alloc (by simp) _
  have hgt_ := gtr_float
  have hlt_ := lss_float
  have hle_ := leq_float
  have hne_ := neq_float
  go_enter Try.func8, Try.ntmps8
  go_wp2
  generalize (w.alloc (.cells #[.string fa, .float .f64 ua, .float .f64 aa] 27)).alloc (.cells #[.string fb, .float .f64 ub, .float .f64 ab] 27) = W at hA hB HB ⊢
  have hS : W.cell? ⟨w.heap.size, 0, none⟩ = some (.string fa) ∧ W.cell? ⟨w.heap.size, 1, none⟩ = some (.float .f64 ua) ∧ W.cell? ⟨w.heap.size, 2, none⟩ = some (.float .f64 aa) ∧ W.cell? ⟨w.heap.size + 1, 0, none⟩ = some (.string fb) ∧ W.cell? ⟨w.heap.size + 1, 1, none⟩ = some (.float .f64 ub) ∧ W.cell? ⟨w.heap.size + 1, 2, none⟩ = some (.float .f64 ab) :=
    ⟨(blk_cell hA 0).trans rfl, (blk_cell hA 1).trans rfl, (blk_cell hA 2).trans rfl, (blk_cell hB 0).trans rfl, (blk_cell hB 1).trans rfl, (blk_cell hB 2).trans rfl⟩
  have HB := Aside0.mk (HB.drew)
  have hD : ∀ {A B : World}, Below A.heap.size A B → (A.cell? ⟨w.heap.size, 0, none⟩ = some (.string fa) ∧ A.cell? ⟨w.heap.size, 1, none⟩ = some (.float .f64 ua) ∧ A.cell? ⟨w.heap.size, 2, none⟩ = some (.float .f64 aa) ∧ A.cell? ⟨w.heap.size + 1, 0, none⟩ = some (.string fb) ∧ A.cell? ⟨w.heap.size + 1, 1, none⟩ = some (.float .f64 ub) ∧ A.cell? ⟨w.heap.size + 1, 2, none⟩ = some (.float .f64 ab)) →
    (B.cell? ⟨w.heap.size, 0, none⟩ = some (.string fa) ∧ B.cell? ⟨w.heap.size, 1, none⟩ = some (.float .f64 ua) ∧ B.cell? ⟨w.heap.size, 2, none⟩ = some (.float .f64 aa) ∧ B.cell? ⟨w.heap.size + 1, 0, none⟩ = some (.string fb) ∧ B.cell? ⟨w.heap.size + 1, 1, none⟩ = some (.float .f64 ub) ∧ B.cell? ⟨w.heap.size + 1, 2, none⟩ = some (.float .f64 ab)) :=
    fun h q => ⟨pw_cell_below h q.1, pw_cell_below h q.2.1, pw_cell_below h q.2.2.1, pw_cell_below h q.2.2.2.1, pw_cell_below h q.2.2.2.2.1, pw_cell_below h q.2.2.2.2.2⟩
  have HD := Aside0.mk @hD
  clear hD hA hB
  refine start_ (n:=6) (S:=fun w' => w'.cell? ⟨w.heap.size, 0, none⟩ = some (.string fa) ∧ w'.cell? ⟨w.heap.size, 1, none⟩ = some (.float .f64 ua) ∧ w'.cell? ⟨w.heap.size, 2, none⟩ = some (.float .f64 aa) ∧ w'.cell? ⟨w.heap.size + 1, 0, none⟩ = some (.string fb) ∧ w'.cell? ⟨w.heap.size + 1, 1, none⟩ = some (.float .f64 ub) ∧ w'.cell? ⟨w.heap.size + 1, 2, none⟩ = some (.float .f64 ab)) (ds:=[]) #[O,O,O,O,O,O] (by kernel_rfl) rfl rfl hS (fun hHeld => ?_); refine with_tabW evict_Ahead.tab1 evict_Ahead.bits1 (fun HT_ HW_ => ?_)
  clear hS
  generalize W.drew = W1 at HB hHeld ⊢
  refine ta_ 0 7 #[I,O,O,O,O,O] HT_.out HW_.out hHeld ?_
  refine ta_ 2 9 #[I,O,I,O,O,O] HT_.out HW_.out hHeld ?_
  refine one_ (i:=1) (N:=some 8) #[I,I,I,O,O,O] rfl rfl (one_of HT_.out (by kernel_rfl)) (by decide) (fun K hK => ?_)
  refine goes_ Try.func11 (by kernel_rfl) rfl #[.agg #[.string fa, .float .f64 ua, .float .f64 aa]] (by rfl) rfl rfl (by (try simp only [List.map_toArray, List.map_cons, List.map_nil]); first | done | rfl) ?_
  refine (Score.calls fa ua aa _).mono ?_
  rintro e w2 ⟨q1, rfl, hq1, hb⟩
  refine ⟨_, rfl, hK.out _ _ (HD.out hb hHeld) (fun hHeld => ?_)⟩
  have HQ1 := Aside0.mk hq1
  have n0_ := Aside0.mk (below_step HB.out hb)
  clear HB hK K hb hq1
  have HB := n0_
  clear n0_
  refine nm_ 8 ?_
  refine one_ (i:=3) (N:=some 10) #[I,I,I,I,O,O] rfl rfl (one_of HT_.out (by kernel_rfl)) (by decide) (fun K hK => ?_)
  refine goes_ Try.func11 (by kernel_rfl) rfl #[.agg #[.string fb, .float .f64 ub, .float .f64 ab]] (by rfl) rfl rfl (by (try simp only [List.map_toArray, List.map_cons, List.map_nil]); first | done | rfl) ?_
  refine (Score.calls fb ub ab _).mono ?_
  rintro e w3 ⟨q2, rfl, hq2, hb⟩
  refine ⟨_, rfl, hK.out _ _ (HD.out hb hHeld) (fun hHeld => ?_)⟩
  have HQ2 := Aside0.mk hq2
  have n0_ := Aside0.mk (below_step HB.out hb)
  clear HB hK K hb hq2
  have HB := n0_
  clear n0_
  refine nm_ 10 ?_
  refine pu_ 4 5 #[I,I,I,I,I,O] HT_.out ?_
  refine pu_ 5 6 #[I,I,I,I,I,I] HT_.out ?_
  refine done_ (done_of HT_.out (by kernel_rfl)) ?_
  have HA := Aside0.mk (ahead_of (fa := fa) (fb := fb) HQ1.out HQ2.out)
  obtain ⟨f1, _, _, f2, _, _⟩ := hHeld
  clear HD HQ1 HQ2 HT_ HW_
  cases n1 : nanD (F64.read q1) <;> cases n2 : nanD (F64.read q2)
  · rw [n1, n2] at HA
    cases g : gtF q1 q2
    · cases l : ltF q1 q2
      all_goals (go_wp2_with (go_at_call 18; refine (IsNaN.same _ _).mono ?_; rintro e w' ⟨rfl, rfl⟩); go_ret; exact ⟨by rw [HA.out]; simp [g, l], HB.out⟩)
    · go_wp2_with (go_at_call 18; refine (IsNaN.same _ _).mono ?_; rintro e w' ⟨rfl, rfl⟩)
      go_ret
      exact ⟨by rw [HA.out]; simp [g], HB.out⟩
  all_goals (have g1 : nanD (F64.read q1) = true → gtF q1 q2 = false := fun h => gtF_nan h; have l1 : nanD (F64.read q1) = true → ltF q1 q2 = false := fun h => ltF_nan h; try simp only [n1, true_implies] at g1 l1)
  all_goals (go_wp2_with (go_at_call 18; refine (IsNaN.same _ _).mono ?_; rintro e w' ⟨rfl, rfl⟩); go_ret; exact ⟨by rw [HA.out]; first | (simp [n1, n2]; done) | simp [n1, n2, g1, l1], HB.out⟩)
end Go.Proofs.Ythnbkhggbfnpcaa.GEv
