/- bosunref24.Ahead: its contract. No conditions beside those stated. -/
import Derived.Test.YthnbkhggbfnpcaaEvQuo
namespace Go.Proofs.Ythnbkhggbfnpcaa.Ev
open Go.RowKit Go.Proofs.YthnbkhggbfnpcaaW.PrintWords Go.Proofs.YthnbkhggbfnpcaaW.PrintLast Go.Proofs.YthnbkhggbfnpcaaW.PrintMore
set_option linter.unusedVariables false
set_option linter.unusedSimpArgs false
theorem none.same (x : Nat) (w : World) : Calls Try.prog 20 #[.float .f64 x] w fun e w' => e = .returned (.bool (nanD (F64.read x))) ∧ w = w' := by
  rw [← neF_self]
  have hgt_ := gtr_float
  have hlt_ := lss_float
  have hle_ := leq_float
  have hne_ := neq_float
  go_enter Try.func20, Try.ntmps20
  go_wp2
  go_ret
  exact ⟨rfl, rfl⟩
theorem IsNaN.same (x : Nat) (w : World) : Calls Try.prog 18 #[.float .f64 x] w fun e w' => e = .returned (.bool (nanD (F64.read x))) ∧ w = w' := by
  rw [← neF_self]
  have hgt_ := gtr_float
  have hlt_ := lss_float
  have hle_ := leq_float
  have hne_ := neq_float
  go_enter Try.func18, Try.ntmps18
  go_wp2
  go_ret
  exact ⟨rfl, rfl⟩
end Go.Proofs.Ythnbkhggbfnpcaa.Ev
namespace Go.Proofs.Ythnbkhggbfnpcaa.GEv
open Go.RowKit Go.Proofs.YthnbkhggbfnpcaaW.PrintWords Go.Proofs.YthnbkhggbfnpcaaW.PrintLast Go.Proofs.YthnbkhggbfnpcaaW.PrintMore Go.Proofs.Ythnbkhggbfnpcaa.Ev
set_option linter.unusedVariables false
set_option linter.unusedSimpArgs false
def bosunref24_Ahead.f (fa : ByteArray) (ua aa : Nat) (fb : ByteArray) (ub ab : Nat) : Option Bool := some (aheadB fa ua aa fb ub ab)
def bosunref24_Ahead.T1 : Bool × List (List Nat × List Nat) := (true, [([], []), ([0], [0]), ([], []), ([2], [2]), ([1, 3], [1, 3]), ([], []), ([5], [5]), ([], []), ([7], [7]), ([6, 8], [6, 8]), ([4, 0, 1, 2, 3, 4], [4]), ([9, 10, 0, 1, 2, 3, 4, 5, 6, 7, 8, 9, 10], [9])])
def bosunref24_Ahead.B1 : List Nat := [0, 1, 0, 4, 15, 0, 32, 0, 128, 480, 31, 2047]
theorem bosunref24_Ahead.tab1 : rtab .any (opsOf Try.f12 1) = bosunref24_Ahead.T1 := by kernel_rfl
theorem bosunref24_Ahead.bits1 : waitsOk bosunref24_Ahead.T1.2 bosunref24_Ahead.B1 = true := by kernel_rfl
set_option maxHeartbeats 4000000 in
set_option maxRecDepth 100000 in
theorem bosunref24_Ahead.calls (fa : ByteArray) (ua aa : Nat) (fb : ByteArray) (ub ab : Nat) (r : Bool) (w : World) (h : bosunref24_Ahead.f fa ua aa fb ub ab = some r) :
    Calls Try.prog 12 #[.agg #[.string fa, .float .f64 ua, .float .f64 aa], .agg #[.string fb, .float .f64 ub, .float .f64 ab]] w fun e w' => e = .returned (.bool r) ∧ Below w.heap.size w w' := by
  have hu39 := Try.underlying39
  obtain rfl := Option.some.inj h
  clear h
  have hA : ((w.alloc (.cells #[.string fa, .float .f64 ua, .float .f64 aa] 39)).alloc (.cells #[.string fb, .float .f64 ub, .float .f64 ab] 39)).heap[w.heap.size]? = some (.cells #[.string fa, .float .f64 ua, .float .f64 aa] 39 (0, 0)) := blk_alloc (heap_alloc_new w _) _
  have hB : ((w.alloc (.cells #[.string fa, .float .f64 ua, .float .f64 aa] 39)).alloc (.cells #[.string fb, .float .f64 ub, .float .f64 ab] 39)).heap[w.heap.size + 1]? = some (.cells #[.string fb, .float .f64 ub, .float .f64 ab] 39 (0, 0)) := by
    have := heap_alloc_new (w.alloc (.cells #[.string fa, .float .f64 ua, .float .f64 aa] 39)) (.cells #[.string fb, .float .f64 ub, .float .f64 ab] 39)
    rwa [World.size_alloc] at this
  have HB : Below w.heap.size w ((w.alloc (.cells #[.string fa, .float .f64 ua, .float .f64 aa] 39)).alloc (.cells #[.string fb, .float .f64 ub, .float .f64 ab] 39)) := ((Below.refl _ w).alloc (Nat.le_refl _) _).alloc (by simp) _
  have hgt_ := gtr_float
  have hlt_ := lss_float
  have hle_ := leq_float
  have hne_ := neq_float
  go_enter Try.func12, Try.ntmps12
  go_wp2
  generalize (w.alloc (.cells #[.string fa, .float .f64 ua, .float .f64 aa] 39)).alloc (.cells #[.string fb, .float .f64 ub, .float .f64 ab] 39) = W at hA hB HB ⊢
  have hS : W.cell? ⟨w.heap.size, 0, none⟩ = some (.string fa) ∧ W.cell? ⟨w.heap.size, 1, none⟩ = some (.float .f64 ua) ∧ W.cell? ⟨w.heap.size, 2, none⟩ = some (.float .f64 aa) ∧ W.cell? ⟨w.heap.size + 1, 0, none⟩ = some (.string fb) ∧ W.cell? ⟨w.heap.size + 1, 1, none⟩ = some (.float .f64 ub) ∧ W.cell? ⟨w.heap.size + 1, 2, none⟩ = some (.float .f64 ab) :=
    ⟨(blk_cell hA 0).trans rfl, (blk_cell hA 1).trans rfl, (blk_cell hA 2).trans rfl, (blk_cell hB 0).trans rfl, (blk_cell hB 1).trans rfl, (blk_cell hB 2).trans rfl⟩
  have HB := Aside0.mk (HB.drew)
  have hD : ∀ {A B : World}, Drawn0 A B → (A.cell? ⟨w.heap.size, 0, none⟩ = some (.string fa) ∧ A.cell? ⟨w.heap.size, 1, none⟩ = some (.float .f64 ua) ∧ A.cell? ⟨w.heap.size, 2, none⟩ = some (.float .f64 aa) ∧ A.cell? ⟨w.heap.size + 1, 0, none⟩ = some (.string fb) ∧ A.cell? ⟨w.heap.size + 1, 1, none⟩ = some (.float .f64 ub) ∧ A.cell? ⟨w.heap.size + 1, 2, none⟩ = some (.float .f64 ab)) →
    (B.cell? ⟨w.heap.size, 0, none⟩ = some (.string fa) ∧ B.cell? ⟨w.heap.size, 1, none⟩ = some (.float .f64 ua) ∧ B.cell? ⟨w.heap.size, 2, none⟩ = some (.float .f64 aa) ∧ B.cell? ⟨w.heap.size + 1, 0, none⟩ = some (.string fb) ∧ B.cell? ⟨w.heap.size + 1, 1, none⟩ = some (.float .f64 ub) ∧ B.cell? ⟨w.heap.size + 1, 2, none⟩ = some (.float .f64 ab)) :=
    fun h q => ⟨pw_cell_below h.below q.1, pw_cell_below h.below q.2.1, pw_cell_below h.below q.2.2.1, pw_cell_below h.below q.2.2.2.1, pw_cell_below h.below q.2.2.2.2.1, pw_cell_below h.below q.2.2.2.2.2⟩
  have HD := Aside0.mk @hD
  clear hD hA hB
  refine start_ (n:=12) (S:=fun w' => w'.cell? ⟨w.heap.size, 0, none⟩ = some (.string fa) ∧ w'.cell? ⟨w.heap.size, 1, none⟩ = some (.float .f64 ua) ∧ w'.cell? ⟨w.heap.size, 2, none⟩ = some (.float .f64 aa) ∧ w'.cell? ⟨w.heap.size + 1, 0, none⟩ = some (.string fb) ∧ w'.cell? ⟨w.heap.size + 1, 1, none⟩ = some (.float .f64 ub) ∧ w'.cell? ⟨w.heap.size + 1, 2, none⟩ = some (.float .f64 ab)) (ds:=[]) #[O,O,O,O,O,O,O,O,O,O,O,O] (by kernel_rfl) rfl rfl hS (fun hHeld => ?_); refine with_tabW bosunref24_Ahead.tab1 bosunref24_Ahead.bits1 (fun HT_ HW_ => ?_)
  clear hS
  generalize W.drew = W1 at HB hHeld ⊢
  refine pu_ 0 7 #[I,O,O,O,O,O,O,O,O,O,O,O] HT_.out ?_
  refine pu_ 2 9 #[I,O,I,O,O,O,O,O,O,O,O,O] HT_.out ?_
  refine pu_ 5 12 #[I,O,I,O,O,I,O,O,O,O,O,O] HT_.out ?_
  refine pu_ 7 14 #[I,O,I,O,O,I,O,I,O,O,O,O] HT_.out ?_
  refine ta_ 1 8 #[I,I,I,O,O,I,O,I,O,O,O,O] HT_.out HW_.out hHeld ?_
  refine ta_ 3 10 #[I,I,I,I,O,I,O,I,O,O,O,O] HT_.out HW_.out hHeld ?_
  refine ta_ 6 13 #[I,I,I,I,O,I,I,I,O,O,O,O] HT_.out HW_.out hHeld ?_
  refine ta_ 8 15 #[I,I,I,I,O,I,I,I,I,O,O,O] HT_.out HW_.out hHeld ?_
  refine two_ (i:=4) (j:=9) (Ni:=some 11) (Nj:=some 16) #[I,I,I,I,I,I,I,I,I,O,O,O] #[I,I,I,I,O,I,I,I,I,I,O,O] rfl rfl rfl rfl (by kernel_rfl) (by decide) (by decide) (fun K hK => ?_) (fun K hK => ?_)
  · refine quo_ ua aa (by rfl) rfl rfl (by rfl) (by rfl) (fun q1 w1 hq1 hd1 => hK.out _ _ (HD.out hd1 hHeld) (fun hHeld => ?_))
    have HQ1 := Aside0.mk hq1
    have n0_ := Aside0.mk (below_step HB.out hd1.below)
    clear HB hK K hd1 hq1
    have HB := n0_
    clear n0_
    refine nm_ 11 ?_
    refine pu_ 10 5 #[I,I,I,I,I,I,I,I,I,O,I,O] HT_.out ?_
    refine one_ (i:=9) (N:=some 16) #[I,I,I,I,I,I,I,I,I,I,I,O] rfl rfl (one_of HT_.out (by kernel_rfl)) (by decide) (fun K hK => ?_)
    refine quo_ ub ab (by rfl) rfl rfl (by rfl) (by rfl) (fun q2 w2 hq2 hd2 => hK.out _ _ (HD.out hd2 hHeld) (fun hHeld => ?_))
    have HQ2 := Aside0.mk hq2
    have n0_ := Aside0.mk (below_step HB.out hd2.below)
    clear HB hK K hd2 hq2
    have HB := n0_
    clear n0_
    refine nm_ 16 ?_
    refine pu_ 11 6 #[I,I,I,I,I,I,I,I,I,I,I,I] HT_.out ?_
    refine done_ (done_of HT_.out (by kernel_rfl)) ?_
    have HA := Aside0.mk (ahead_of (fa := fa) (fb := fb) HQ1.out HQ2.out)
    obtain ⟨f1, _, _, f2, _, _⟩ := hHeld
    clear HD HQ1 HQ2 HT_ HW_
    cases n1 : nanD (F64.read q1) <;> cases n2 : nanD (F64.read q2)
    · rw [n1, n2] at HA
      cases g : gtF q1 q2
      · cases l : ltF q1 q2
        all_goals (go_wp2_with (go_at_call 20; refine (none.same _ _).mono ?_; rintro e w' ⟨rfl, rfl⟩); go_ret; exact ⟨by rw [HA.out]; simp [g, l], HB.out⟩)
      · go_wp2_with (go_at_call 20; refine (none.same _ _).mono ?_; rintro e w' ⟨rfl, rfl⟩)
        go_ret
        exact ⟨by rw [HA.out]; simp [g], HB.out⟩
    all_goals (go_wp2_with (go_at_call 20; refine (none.same _ _).mono ?_; rintro e w' ⟨rfl, rfl⟩); go_ret; exact ⟨by rw [HA.out]; first | simp [n1, n2, gtF_nan n1, ltF_nan n1] | simp [n1, n2], HB.out⟩)
  · refine quo_ ub ab (by rfl) rfl rfl (by rfl) (by rfl) (fun q2 w1 hq2 hd1 => hK.out _ _ (HD.out hd1 hHeld) (fun hHeld => ?_))
    have HQ2 := Aside0.mk hq2
    have n0_ := Aside0.mk (below_step HB.out hd1.below)
    clear HB hK K hd1 hq2
    have HB := n0_
    clear n0_
    refine nm_ 16 ?_
    refine one_ (i:=4) (N:=some 11) #[I,I,I,I,I,I,I,I,I,I,O,O] rfl rfl (one_of HT_.out (by kernel_rfl)) (by decide) (fun K hK => ?_)
    refine quo_ ua aa (by rfl) rfl rfl (by rfl) (by rfl) (fun q1 w2 hq1 hd2 => hK.out _ _ (HD.out hd2 hHeld) (fun hHeld => ?_))
    have HQ1 := Aside0.mk hq1
    have n0_ := Aside0.mk (below_step HB.out hd2.below)
    clear HB hK K hd2 hq1
    have HB := n0_
    clear n0_
    refine nm_ 11 ?_
    refine pu_ 10 5 #[I,I,I,I,I,I,I,I,I,I,I,O] HT_.out ?_
    refine pu_ 11 6 #[I,I,I,I,I,I,I,I,I,I,I,I] HT_.out ?_
    refine done_ (done_of HT_.out (by kernel_rfl)) ?_
    have HA := Aside0.mk (ahead_of (fa := fa) (fb := fb) HQ1.out HQ2.out)
    obtain ⟨f1, _, _, f2, _, _⟩ := hHeld
    clear HD HQ1 HQ2 HT_ HW_
    cases n1 : nanD (F64.read q1) <;> cases n2 : nanD (F64.read q2)
    · rw [n1, n2] at HA
      cases g : gtF q1 q2
      · cases l : ltF q1 q2
        all_goals (go_wp2_with (go_at_call 20; refine (none.same _ _).mono ?_; rintro e w' ⟨rfl, rfl⟩); go_ret; exact ⟨by rw [HA.out]; simp [g, l], HB.out⟩)
      · go_wp2_with (go_at_call 20; refine (none.same _ _).mono ?_; rintro e w' ⟨rfl, rfl⟩)
        go_ret
        exact ⟨by rw [HA.out]; simp [g], HB.out⟩
    all_goals (go_wp2_with (go_at_call 20; refine (none.same _ _).mono ?_; rintro e w' ⟨rfl, rfl⟩); go_ret; exact ⟨by rw [HA.out]; first | simp [n1, n2, gtF_nan n1, ltF_nan n1] | simp [n1, n2], HB.out⟩)
end Go.Proofs.Ythnbkhggbfnpcaa.GEv
