/- Written by this session's own program (wip/gen.py) out of the translation: plain Lean functions of the Go functions, and proofs that the calls come to their answers. No conditions beside those in the statements. -/
import Derived.Test.YthnbkhggbfnpcaaGEvx0
import Derived.Test.YthnbkhggbfnpcaaEvAhead
namespace Go.Proofs.Ythnbkhggbfnpcaa.GEv
open Go.RowKit Go.Proofs.YthnbkhggbfnpcaaW.PrintWords Go.Proofs.YthnbkhggbfnpcaaW.PrintLast Go.Proofs.YthnbkhggbfnpcaaW.PrintMore
attribute [local go_sem] max2_int min2_int max_two min_two max_three min_three max_four min_four   -- for this text's walks alone
set_option linter.unusedVariables false
set_option linter.unusedSimpArgs false

/-! ### evict_row_Less: function 43 -/
def evict_row_Less.f (l0 : List (S55)) (a1 : Int) (a2 : Int) : Option (Bool):=if 0 ≤ a1 then (if a1 < (l0.length : Int) then (if 0 ≤ a2 then (if a2 < (l0.length : Int) then ((evict_Ahead.f ((rd_T55 l0 a1).f0.f0) ((rd_T55 l0 a1).f0.f1) ((rd_T55 l0 a1).f0.f2) ((rd_T55 l0 a2).f0.f0) ((rd_T55 l0 a2).f0.f1) ((rd_T55 l0 a2).f0.f2)).bind fun t105=>(if t105 = true then (some true) else ((evict_Ahead.f ((rd_T55 l0 a2).f0.f0) ((rd_T55 l0 a2).f0.f1) ((rd_T55 l0 a2).f0.f2) ((rd_T55 l0 a1).f0.f0) ((rd_T55 l0 a1).f0.f1) ((rd_T55 l0 a1).f0.f2)).bind fun t108=>(if t108 = true then (some false) else (some (decide (((rd_T55 l0 a1).f1) < ((rd_T55 l0 a2).f1)))))))) else (none)) else (none)) else (none)) else (none)
def evict_row_Less.T1 : Bool × List (List Nat × List Nat):=(true,[([],[]),([],[]),([0,1],[0,1]),([2],[2]),([3],[3]),([],[]),([],[]),([5,6],[5,6]),([7],[7]),([8],[8]),([4,9],[4,9])])
def evict_row_Less.B1 : List Nat:=[0,0,3,7,15,0,0,96,224,480,1023]
theorem evict_row_Less.tab1 : rtab .any (opsOf Try.f43 1) = evict_row_Less.T1:=by kernel_rfl
theorem evict_row_Less.bits1 : waitsOk evict_row_Less.T1.2 evict_row_Less.B1 = true:=by kernel_rfl
def evict_row_Less.T3 : Bool × List (List Nat × List Nat):=(true,[([],[]),([],[]),([0,1],[0,1]),([2],[2]),([3],[3]),([],[]),([],[]),([5,6],[5,6]),([7],[7]),([8],[8]),([4,9],[4,9]),([10],[10]),([11,10],[11]),([12],[12]),([12],[12]),([13,14,12],[12,13,14]),([15,12],[12,15]),([16,12],[12,16]),([12],[12]),([12],[12]),([18,19,12],[12,18,19]),([20,12],[12,20]),([21,12],[12,21]),([17,22,12],[12,17,22]),([12,23],[12,23]),([24,12,0,1,2,3,4,5,6,7,8,9,10,11,12,13,14,15,16,17,18,19,20,21,22,23,24],[24])])
def evict_row_Less.B3 : List Nat:=[0,0,3,7,15,0,0,96,224,480,1023,2047,4095,8191,8191,32767,65535,131071,8191,8191,794623,1843199,3940351,8388607,16777215,33554431]
theorem evict_row_Less.tab3 : rtab .any (opsOf Try.f43 3) = evict_row_Less.T3:=by kernel_rfl
theorem evict_row_Less.bits3 : waitsOk evict_row_Less.T3.2 evict_row_Less.B3 = true:=by kernel_rfl
set_option maxHeartbeats 8000000 in
set_option maxRecDepth 100000 in
theorem evict_row_Less.calls (A0 : Option Addr) (c0 : Nat) (l0 : List (S55)) (a1 : Int) (a2 : Int) (r : Bool) (w : World) (hr0 : Kd.C k55 w A0 l0.length l0) (hc0 : l0.length ≤ c0) (h : evict_row_Less.f l0 a1 a2 = some r) :
  Calls Try.prog 43 #[.slice A0 l0.length c0,.int .i64 a1,.int .i64 a2] w fun e w'=>e = .returned (.bool r) ∧ Below w.heap.size w w':=by
 have hu27:=Try.underlying27
 have HR0:=Aside0.mk hr0
 have HC0:=Aside0.mk hc0
 clear hr0 hc0
 have HB:=Aside0.mk (Below.refl w.heap.size w)
 have H : (if 0 ≤ a1 then (if a1 < (l0.length : Int) then (if 0 ≤ a2 then (if a2 < (l0.length : Int) then ((evict_Ahead.f ((rd_T55 l0 a1).f0.f0) ((rd_T55 l0 a1).f0.f1) ((rd_T55 l0 a1).f0.f2) ((rd_T55 l0 a2).f0.f0) ((rd_T55 l0 a2).f0.f1) ((rd_T55 l0 a2).f0.f2)).bind fun t105=>(if t105 = true then (some true) else ((evict_Ahead.f ((rd_T55 l0 a2).f0.f0) ((rd_T55 l0 a2).f0.f1) ((rd_T55 l0 a2).f0.f2) ((rd_T55 l0 a1).f0.f0) ((rd_T55 l0 a1).f0.f1) ((rd_T55 l0 a1).f0.f2)).bind fun t108=>(if t108 = true then (some false) else (some (decide (((rd_T55 l0 a1).f1) < ((rd_T55 l0 a2).f1)))))))) else (none)) else (none)) else (none)) else (none)) = some r:=h
 clear h
 by_cases c4 : 0 ≤ a1
 ·rw [if_pos c4] at H
  have c4b0 : decide (0 ≤ a1) = true:=decide_eq_true c4
  clear c4
  by_cases c5 : a1 < (l0.length : Int)
  ·rw [if_pos c5] at H
   have c5b0 : decide (a1 < (l0.length : Int)) = true:=decide_eq_true c5
   clear c5
   by_cases c6 : 0 ≤ a2
   ·rw [if_pos c6] at H
    have c6b0 : decide (0 ≤ a2) = true:=decide_eq_true c6
    clear c6
    by_cases c7 : a2 < (l0.length : Int)
    ·rw [if_pos c7] at H
     have c7b0 : decide (a2 < (l0.length : Int)) = true:=decide_eq_true c7
     clear c7
     replace H:=Option.bind_eq_some_iff.mp H
     obtain ⟨t105,A80,H⟩:=H
     replace H : (if t105 = true then (some true) else ((evict_Ahead.f ((rd_T55 l0 a2).f0.f0) ((rd_T55 l0 a2).f0.f1) ((rd_T55 l0 a2).f0.f2) ((rd_T55 l0 a1).f0.f0) ((rd_T55 l0 a1).f0.f1) ((rd_T55 l0 a1).f0.f2)).bind fun t108=>(if t108 = true then (some false) else (some (decide (((rd_T55 l0 a1).f1) < ((rd_T55 l0 a2).f1))))))) = some r:=H
     have A8:=Aside0.mk A80
     clear A80
     by_cases c9 : t105 = true
     ·subst c9
      have H1 : (some true) = some r:=by rw [if_pos rfl] at H;exact H
      clear H
      have H:=H1
      clear H1
      obtain rfl:=Option.some.inj H
      go_enter Try.func43,Try.ntmps43
      try go_wp2
      have n0_:=Aside0.mk (below_drew1 HB.out)
      clear HB
      have HB:=n0_
      clear n0_
      have p103 : 0 ≤ (a1 : Int):=of_decide_eq_true (by first|(with_reducible assumption)|assumption)
      have q103 : a1 < (l0.length : Int):=of_decide_eq_true (by first|(with_reducible assumption)|assumption)
      obtain ⟨ad103,e103,hx103_0,hx103_1,hx103_2,hx103_3⟩:=at_T55 HR0.out a1 p103 q103
      have hw103_3:=hx103_3
      have hw103_2:=hx103_2
      have hw103_1:=hx103_1
      have hw103_0:=hx103_0
      cases e103
      replace hx103_0:=(HB.out.cell (World.block_lt_of_cell? w _ hx103_0)).trans hx103_0
      replace hx103_1:=(HB.out.cell (World.block_lt_of_cell? w _ hx103_1)).trans hx103_1
      replace hx103_2:=(HB.out.cell (World.block_lt_of_cell? w _ hx103_2)).trans hx103_2
      replace hx103_3:=(HB.out.cell (World.block_lt_of_cell? w _ hx103_3)).trans hx103_3
      replace p103:=eq_true p103
      replace q103:=eq_true q103
      have p104 : 0 ≤ (a2 : Int):=of_decide_eq_true (by first|(with_reducible assumption)|assumption)
      have q104 : a2 < (l0.length : Int):=of_decide_eq_true (by first|(with_reducible assumption)|assumption)
      obtain ⟨ad104,e104,hx104_0,hx104_1,hx104_2,hx104_3⟩:=at_T55 HR0.out a2 p104 q104
      have hw104_3:=hx104_3
      have hw104_2:=hx104_2
      have hw104_1:=hx104_1
      have hw104_0:=hx104_0
      obtain rfl : ad103 = ad104:=(by injection e104)
      replace hx104_0:=(HB.out.cell (World.block_lt_of_cell? w _ hx104_0)).trans hx104_0
      replace hx104_1:=(HB.out.cell (World.block_lt_of_cell? w _ hx104_1)).trans hx104_1
      replace hx104_2:=(HB.out.cell (World.block_lt_of_cell? w _ hx104_2)).trans hx104_2
      replace hx104_3:=(HB.out.cell (World.block_lt_of_cell? w _ hx104_3)).trans hx104_3
      replace p104:=eq_true p104
      replace q104:=eq_true q104
      refine start_ (n:=11) (S:=fun w'=>w'.cell? (ad103.add ((a1).toNat * 4)) = some (.string ((rd_T55 l0 a1).f0.f0)) ∧ w'.cell? ⟨(ad103.add ((a1).toNat * 4)).block,(ad103.add ((a1).toNat * 4)).off + 1,none⟩ = some (.float .f64 ((rd_T55 l0 a1).f0.f1)) ∧ w'.cell? ⟨(ad103.add ((a1).toNat * 4)).block,(ad103.add ((a1).toNat * 4)).off + 2,none⟩ = some (.float .f64 ((rd_T55 l0 a1).f0.f2)) ∧ w'.cell? ⟨(ad103.add ((a1).toNat * 4)).block,(ad103.add ((a1).toNat * 4)).off + 3,none⟩ = some (.int .i64 ((rd_T55 l0 a1).f1)) ∧ w'.cell? (ad103.add ((a2).toNat * 4)) = some (.string ((rd_T55 l0 a2).f0.f0)) ∧ w'.cell? ⟨(ad103.add ((a2).toNat * 4)).block,(ad103.add ((a2).toNat * 4)).off + 1,none⟩ = some (.float .f64 ((rd_T55 l0 a2).f0.f1)) ∧ w'.cell? ⟨(ad103.add ((a2).toNat * 4)).block,(ad103.add ((a2).toNat * 4)).off + 2,none⟩ = some (.float .f64 ((rd_T55 l0 a2).f0.f2)) ∧ w'.cell? ⟨(ad103.add ((a2).toNat * 4)).block,(ad103.add ((a2).toNat * 4)).off + 3,none⟩ = some (.int .i64 ((rd_T55 l0 a2).f1))) (ds:=[]) #[false,false,false,false,false,false,false,false,false,false,false] (by kernel_rfl) rfl rfl ⟨((HB.out.cell (World.block_lt_of_cell? w _ hw103_0)).trans hw103_0),((HB.out.cell (World.block_lt_of_cell? w _ hw103_1)).trans hw103_1),((HB.out.cell (World.block_lt_of_cell? w _ hw103_2)).trans hw103_2),((HB.out.cell (World.block_lt_of_cell? w _ hw103_3)).trans hw103_3),((HB.out.cell (World.block_lt_of_cell? w _ hw104_0)).trans hw104_0),((HB.out.cell (World.block_lt_of_cell? w _ hw104_1)).trans hw104_1),((HB.out.cell (World.block_lt_of_cell? w _ hw104_2)).trans hw104_2),((HB.out.cell (World.block_lt_of_cell? w _ hw104_3)).trans hw104_3)⟩ (fun hHeld=>?_);refine with_tabW evict_row_Less.tab1 evict_row_Less.bits1 (fun HT_ HW_=>?_)
      generalize w.drew = w10 at HB hx103_0 hx103_1 hx103_2 hx103_3 hx104_0 hx104_1 hx104_2 hx104_3 hHeld ⊢
      refine pure_ (i:=0) (N:=some 7) (v:=?_) (a':=?_) #[true,false,false,false,false,false,false,false,false,false,false] rfl rfl (any_of HT_.out (by kernel_rfl)) (fun _ _ _ h=>h) (Or.inl ⟨by rfl,?_⟩) ?_ ?_
      rotate_left
      ·intro w'
       go_simp
       with_reducible rfl
      rotate_left
      ·simp only [Act.put,List.setIfInBounds_toArray,List.set_cons_zero,List.set_cons_succ,i64_w,i32_w]
       rfl
      refine pure_ (i:=1) (N:=some 8) (v:=?_) (a':=?_) #[true,true,false,false,false,false,false,false,false,false,false] rfl rfl (any_of HT_.out (by kernel_rfl)) (fun _ _ _ h=>h) (Or.inl ⟨by rfl,?_⟩) ?_ ?_
      rotate_left
      ·intro w'
       go_simp
       with_reducible rfl
      rotate_left
      ·simp only [Act.put,List.setIfInBounds_toArray,List.set_cons_zero,List.set_cons_succ,i64_w,i32_w]
       rfl
      refine pure_ (i:=2) (N:=some 9) (v:=?_) (a':=?_) #[true,true,true,false,false,false,false,false,false,false,false] rfl rfl (any_of HT_.out (by kernel_rfl)) (fun _ _ _ h=>h) (Or.inl ⟨by rfl,?_⟩) ?_ ?_
      rotate_left
      ·intro w'
       go_simp
       with_reducible rfl
      rotate_left
      ·simp only [Act.put,List.setIfInBounds_toArray,List.set_cons_zero,List.set_cons_succ,i64_w,i32_w]
       rfl
      refine pure_ (i:=3) (N:=some 10) (v:=?_) (a':=?_) #[true,true,true,true,false,false,false,false,false,false,false] rfl rfl (any_of HT_.out (by kernel_rfl)) (fun _ _ _ h=>h) (Or.inl ⟨by rfl,?_⟩) ?_ ?_
      rotate_left
      ·intro w'
       go_simp
       with_reducible rfl
      rotate_left
      ·simp only [Act.put,List.setIfInBounds_toArray,List.set_cons_zero,List.set_cons_succ,i64_w,i32_w]
       rfl
      refine pure_ (i:=5) (N:=some 12) (v:=?_) (a':=?_) #[true,true,true,true,false,true,false,false,false,false,false] rfl rfl (any_of HT_.out (by kernel_rfl)) (fun _ _ _ h=>h) (Or.inl ⟨by rfl,?_⟩) ?_ ?_
      rotate_left
      ·intro w'
       go_simp
       with_reducible rfl
      rotate_left
      ·simp only [Act.put,List.setIfInBounds_toArray,List.set_cons_zero,List.set_cons_succ,i64_w,i32_w]
       rfl
      refine pure_ (i:=6) (N:=some 13) (v:=?_) (a':=?_) #[true,true,true,true,false,true,true,false,false,false,false] rfl rfl (any_of HT_.out (by kernel_rfl)) (fun _ _ _ h=>h) (Or.inl ⟨by rfl,?_⟩) ?_ ?_
      rotate_left
      ·intro w'
       go_simp
       with_reducible rfl
      rotate_left
      ·simp only [Act.put,List.setIfInBounds_toArray,List.set_cons_zero,List.set_cons_succ,i64_w,i32_w]
       rfl
      refine pure_ (i:=7) (N:=some 14) (v:=?_) (a':=?_) #[true,true,true,true,false,true,true,true,false,false,false] rfl rfl (any_of HT_.out (by kernel_rfl)) (fun _ _ _ h=>h) (Or.inl ⟨by rfl,?_⟩) ?_ ?_
      rotate_left
      ·intro w'
       go_simp
       with_reducible rfl
      rotate_left
      ·simp only [Act.put,List.setIfInBounds_toArray,List.set_cons_zero,List.set_cons_succ,i64_w,i32_w]
       rfl
      refine pure_ (i:=8) (N:=some 15) (v:=?_) (a':=?_) #[true,true,true,true,false,true,true,true,true,false,false] rfl rfl (any_of HT_.out (by kernel_rfl)) (fun _ _ _ h=>h) (Or.inl ⟨by rfl,?_⟩) ?_ ?_
      rotate_left
      ·intro w'
       go_simp
       with_reducible rfl
      rotate_left
      ·simp only [Act.put,List.setIfInBounds_toArray,List.set_cons_zero,List.set_cons_succ,i64_w,i32_w]
       rfl
      refine take_ (i:=4) (N:=some 11) (v:=?_) (a':=?_) #[true,true,true,true,true,true,true,true,true,false,false] rfl rfl (take_ofW HT_.out HW_.out (by kernel_rfl)) (fun _ _ _ h=>h) (Or.inl ⟨by rfl,?_⟩) hHeld ?_ ?_
      rotate_left
      ·rintro w' ⟨s0,s1,s2,s3,s4,s5,s6,s7⟩
       go_simp
       with_reducible rfl
      rotate_left
      ·simp only [Act.put,List.setIfInBounds_toArray,List.set_cons_zero,List.set_cons_succ,i64_w,i32_w]
       rfl
      refine take_ (i:=9) (N:=some 16) (v:=?_) (a':=?_) #[true,true,true,true,true,true,true,true,true,true,false] rfl rfl (take_ofW HT_.out HW_.out (by kernel_rfl)) (fun _ _ _ h=>h) (Or.inl ⟨by rfl,?_⟩) hHeld ?_ ?_
      rotate_left
      ·rintro w' ⟨s0,s1,s2,s3,s4,s5,s6,s7⟩
       go_simp
       with_reducible rfl
      rotate_left
      ·simp only [Act.put,List.setIfInBounds_toArray,List.set_cons_zero,List.set_cons_succ,i64_w,i32_w]
       rfl
      refine one_ (i:=10) (N:=some 17) #[true,true,true,true,true,true,true,true,true,true,true] rfl rfl (one_of HT_.out (by kernel_rfl)) (by decide) (fun K hK=>?_)
      refine goes_ Try.func8 (by kernel_rfl) rfl #[.agg #[.string ((rd_T55 l0 a1).f0.f0),.float .f64 ((rd_T55 l0 a1).f0.f1),.float .f64 ((rd_T55 l0 a1).f0.f2)],.agg #[.string ((rd_T55 l0 a2).f0.f0),.float .f64 ((rd_T55 l0 a2).f0.f1),.float .f64 ((rd_T55 l0 a2).f0.f2)]] (by rfl) rfl rfl (by (try simp only [List.map_toArray,List.map_cons,List.map_nil]);first|done|rfl|(simp only [List.length_drop,List.length_take];rfl)) ?_
      with_reducible refine (evict_Ahead.calls ((rd_T55 l0 a1).f0.f0) ((rd_T55 l0 a1).f0.f1) ((rd_T55 l0 a1).f0.f2) ((rd_T55 l0 a2).f0.f0) ((rd_T55 l0 a2).f0.f1) ((rd_T55 l0 a2).f0.f2) true _ A8.out).mono ?_
      rintro e w11 ⟨rfl,hb⟩
      refine ⟨_,rfl,?_⟩
      have n0_:=Aside0.mk (below_step (by repeat (first|(with_reducible first|exact HB.out|apply below_alloc|apply pw_below_drewN|apply below_drew1)|exact HB.out)) hb)
      clear HB
      have HB:=n0_
      clear n0_
      (try clear hb)
      (try clear hb2)
      (try clear hk)
      (try clear hi)
      refine hK.out _ _ ⟨((HB.out.cell (World.block_lt_of_cell? w _ hw103_0)).trans hw103_0),((HB.out.cell (World.block_lt_of_cell? w _ hw103_1)).trans hw103_1),((HB.out.cell (World.block_lt_of_cell? w _ hw103_2)).trans hw103_2),((HB.out.cell (World.block_lt_of_cell? w _ hw103_3)).trans hw103_3),((HB.out.cell (World.block_lt_of_cell? w _ hw104_0)).trans hw104_0),((HB.out.cell (World.block_lt_of_cell? w _ hw104_1)).trans hw104_1),((HB.out.cell (World.block_lt_of_cell? w _ hw104_2)).trans hw104_2),((HB.out.cell (World.block_lt_of_cell? w _ hw104_3)).trans hw104_3)⟩ (fun hHeld=>?_)
      clear hK K
      refine norm_ (a':=?_) ?_ ?_
      rotate_left
      ·show Act.put _ (some 17) _ = _
       simp only [Act.put,List.setIfInBounds_toArray,List.set_cons_zero,List.set_cons_succ,i64_w,i32_w]
       rfl
      refine done_ (done_of HT_.out (by kernel_rfl)) ?_
      try go_wp2
      go_ret
      exact ⟨by first|rfl|(simp [errW_none,errW_some] <;> rfl)|(simp [*,errW_none,errW_some] <;> rfl),by repeat (first|(with_reducible first|exact HB.out|apply below_alloc|apply pw_below_drewN|apply below_drew1)|exact HB.out)⟩
     ·replace c9:=Bool.eq_false_iff.mpr c9
      subst c9
      have H1 : ((evict_Ahead.f ((rd_T55 l0 a2).f0.f0) ((rd_T55 l0 a2).f0.f1) ((rd_T55 l0 a2).f0.f2) ((rd_T55 l0 a1).f0.f0) ((rd_T55 l0 a1).f0.f1) ((rd_T55 l0 a1).f0.f2)).bind fun t108=>(if t108 = true then (some false) else (some (decide (((rd_T55 l0 a1).f1) < ((rd_T55 l0 a2).f1)))))) = some r:=by rw [if_neg (show ¬ (false = true) by decide)] at H;exact H
      clear H
      have H:=H1
      clear H1
      replace H:=Option.bind_eq_some_iff.mp H
      obtain ⟨t108,A120,H⟩:=H
      replace H : (if t108 = true then (some false) else (some (decide (((rd_T55 l0 a1).f1) < ((rd_T55 l0 a2).f1))))) = some r:=H
      have A12:=Aside0.mk A120
      clear A120
      by_cases c13 : t108 = true
      ·subst c13
       have H1 : (some false) = some r:=by rw [if_pos rfl] at H;exact H
       clear H
       have H:=H1
       clear H1
       obtain rfl:=Option.some.inj H
       go_enter Try.func43,Try.ntmps43
       try go_wp2
       have n0_:=Aside0.mk (below_drew1 HB.out)
       clear HB
       have HB:=n0_
       clear n0_
       have p103 : 0 ≤ (a1 : Int):=of_decide_eq_true (by first|(with_reducible assumption)|assumption)
       have q103 : a1 < (l0.length : Int):=of_decide_eq_true (by first|(with_reducible assumption)|assumption)
       obtain ⟨ad103,e103,hx103_0,hx103_1,hx103_2,hx103_3⟩:=at_T55 HR0.out a1 p103 q103
       have hw103_3:=hx103_3
       have hw103_2:=hx103_2
       have hw103_1:=hx103_1
       have hw103_0:=hx103_0
       cases e103
       replace hx103_0:=(HB.out.cell (World.block_lt_of_cell? w _ hx103_0)).trans hx103_0
       replace hx103_1:=(HB.out.cell (World.block_lt_of_cell? w _ hx103_1)).trans hx103_1
       replace hx103_2:=(HB.out.cell (World.block_lt_of_cell? w _ hx103_2)).trans hx103_2
       replace hx103_3:=(HB.out.cell (World.block_lt_of_cell? w _ hx103_3)).trans hx103_3
       replace p103:=eq_true p103
       replace q103:=eq_true q103
       have p104 : 0 ≤ (a2 : Int):=of_decide_eq_true (by first|(with_reducible assumption)|assumption)
       have q104 : a2 < (l0.length : Int):=of_decide_eq_true (by first|(with_reducible assumption)|assumption)
       obtain ⟨ad104,e104,hx104_0,hx104_1,hx104_2,hx104_3⟩:=at_T55 HR0.out a2 p104 q104
       have hw104_3:=hx104_3
       have hw104_2:=hx104_2
       have hw104_1:=hx104_1
       have hw104_0:=hx104_0
       obtain rfl : ad103 = ad104:=(by injection e104)
       replace hx104_0:=(HB.out.cell (World.block_lt_of_cell? w _ hx104_0)).trans hx104_0
       replace hx104_1:=(HB.out.cell (World.block_lt_of_cell? w _ hx104_1)).trans hx104_1
       replace hx104_2:=(HB.out.cell (World.block_lt_of_cell? w _ hx104_2)).trans hx104_2
       replace hx104_3:=(HB.out.cell (World.block_lt_of_cell? w _ hx104_3)).trans hx104_3
       replace p104:=eq_true p104
       replace q104:=eq_true q104
       refine start_ (n:=11) (S:=fun w'=>w'.cell? (ad103.add ((a1).toNat * 4)) = some (.string ((rd_T55 l0 a1).f0.f0)) ∧ w'.cell? ⟨(ad103.add ((a1).toNat * 4)).block,(ad103.add ((a1).toNat * 4)).off + 1,none⟩ = some (.float .f64 ((rd_T55 l0 a1).f0.f1)) ∧ w'.cell? ⟨(ad103.add ((a1).toNat * 4)).block,(ad103.add ((a1).toNat * 4)).off + 2,none⟩ = some (.float .f64 ((rd_T55 l0 a1).f0.f2)) ∧ w'.cell? ⟨(ad103.add ((a1).toNat * 4)).block,(ad103.add ((a1).toNat * 4)).off + 3,none⟩ = some (.int .i64 ((rd_T55 l0 a1).f1)) ∧ w'.cell? (ad103.add ((a2).toNat * 4)) = some (.string ((rd_T55 l0 a2).f0.f0)) ∧ w'.cell? ⟨(ad103.add ((a2).toNat * 4)).block,(ad103.add ((a2).toNat * 4)).off + 1,none⟩ = some (.float .f64 ((rd_T55 l0 a2).f0.f1)) ∧ w'.cell? ⟨(ad103.add ((a2).toNat * 4)).block,(ad103.add ((a2).toNat * 4)).off + 2,none⟩ = some (.float .f64 ((rd_T55 l0 a2).f0.f2)) ∧ w'.cell? ⟨(ad103.add ((a2).toNat * 4)).block,(ad103.add ((a2).toNat * 4)).off + 3,none⟩ = some (.int .i64 ((rd_T55 l0 a2).f1))) (ds:=[]) #[false,false,false,false,false,false,false,false,false,false,false] (by kernel_rfl) rfl rfl ⟨((HB.out.cell (World.block_lt_of_cell? w _ hw103_0)).trans hw103_0),((HB.out.cell (World.block_lt_of_cell? w _ hw103_1)).trans hw103_1),((HB.out.cell (World.block_lt_of_cell? w _ hw103_2)).trans hw103_2),((HB.out.cell (World.block_lt_of_cell? w _ hw103_3)).trans hw103_3),((HB.out.cell (World.block_lt_of_cell? w _ hw104_0)).trans hw104_0),((HB.out.cell (World.block_lt_of_cell? w _ hw104_1)).trans hw104_1),((HB.out.cell (World.block_lt_of_cell? w _ hw104_2)).trans hw104_2),((HB.out.cell (World.block_lt_of_cell? w _ hw104_3)).trans hw104_3)⟩ (fun hHeld=>?_);refine with_tabW evict_row_Less.tab1 evict_row_Less.bits1 (fun HT_ HW_=>?_)
       generalize w.drew = w14 at HB hx103_0 hx103_1 hx103_2 hx103_3 hx104_0 hx104_1 hx104_2 hx104_3 hHeld ⊢
       refine pure_ (i:=0) (N:=some 7) (v:=?_) (a':=?_) #[true,false,false,false,false,false,false,false,false,false,false] rfl rfl (any_of HT_.out (by kernel_rfl)) (fun _ _ _ h=>h) (Or.inl ⟨by rfl,?_⟩) ?_ ?_
       rotate_left
       ·intro w'
        go_simp
        with_reducible rfl
       rotate_left
       ·simp only [Act.put,List.setIfInBounds_toArray,List.set_cons_zero,List.set_cons_succ,i64_w,i32_w]
        rfl
       refine pure_ (i:=1) (N:=some 8) (v:=?_) (a':=?_) #[true,true,false,false,false,false,false,false,false,false,false] rfl rfl (any_of HT_.out (by kernel_rfl)) (fun _ _ _ h=>h) (Or.inl ⟨by rfl,?_⟩) ?_ ?_
       rotate_left
       ·intro w'
        go_simp
        with_reducible rfl
       rotate_left
       ·simp only [Act.put,List.setIfInBounds_toArray,List.set_cons_zero,List.set_cons_succ,i64_w,i32_w]
        rfl
       refine pure_ (i:=2) (N:=some 9) (v:=?_) (a':=?_) #[true,true,true,false,false,false,false,false,false,false,false] rfl rfl (any_of HT_.out (by kernel_rfl)) (fun _ _ _ h=>h) (Or.inl ⟨by rfl,?_⟩) ?_ ?_
       rotate_left
       ·intro w'
        go_simp
        with_reducible rfl
       rotate_left
       ·simp only [Act.put,List.setIfInBounds_toArray,List.set_cons_zero,List.set_cons_succ,i64_w,i32_w]
        rfl
       refine pure_ (i:=3) (N:=some 10) (v:=?_) (a':=?_) #[true,true,true,true,false,false,false,false,false,false,false] rfl rfl (any_of HT_.out (by kernel_rfl)) (fun _ _ _ h=>h) (Or.inl ⟨by rfl,?_⟩) ?_ ?_
       rotate_left
       ·intro w'
        go_simp
        with_reducible rfl
       rotate_left
       ·simp only [Act.put,List.setIfInBounds_toArray,List.set_cons_zero,List.set_cons_succ,i64_w,i32_w]
        rfl
       refine pure_ (i:=5) (N:=some 12) (v:=?_) (a':=?_) #[true,true,true,true,false,true,false,false,false,false,false] rfl rfl (any_of HT_.out (by kernel_rfl)) (fun _ _ _ h=>h) (Or.inl ⟨by rfl,?_⟩) ?_ ?_
       rotate_left
       ·intro w'
        go_simp
        with_reducible rfl
       rotate_left
       ·simp only [Act.put,List.setIfInBounds_toArray,List.set_cons_zero,List.set_cons_succ,i64_w,i32_w]
        rfl
       refine pure_ (i:=6) (N:=some 13) (v:=?_) (a':=?_) #[true,true,true,true,false,true,true,false,false,false,false] rfl rfl (any_of HT_.out (by kernel_rfl)) (fun _ _ _ h=>h) (Or.inl ⟨by rfl,?_⟩) ?_ ?_
       rotate_left
       ·intro w'
        go_simp
        with_reducible rfl
       rotate_left
       ·simp only [Act.put,List.setIfInBounds_toArray,List.set_cons_zero,List.set_cons_succ,i64_w,i32_w]
        rfl
       refine pure_ (i:=7) (N:=some 14) (v:=?_) (a':=?_) #[true,true,true,true,false,true,true,true,false,false,false] rfl rfl (any_of HT_.out (by kernel_rfl)) (fun _ _ _ h=>h) (Or.inl ⟨by rfl,?_⟩) ?_ ?_
       rotate_left
       ·intro w'
        go_simp
        with_reducible rfl
       rotate_left
       ·simp only [Act.put,List.setIfInBounds_toArray,List.set_cons_zero,List.set_cons_succ,i64_w,i32_w]
        rfl
       refine pure_ (i:=8) (N:=some 15) (v:=?_) (a':=?_) #[true,true,true,true,false,true,true,true,true,false,false] rfl rfl (any_of HT_.out (by kernel_rfl)) (fun _ _ _ h=>h) (Or.inl ⟨by rfl,?_⟩) ?_ ?_
       rotate_left
       ·intro w'
        go_simp
        with_reducible rfl
       rotate_left
       ·simp only [Act.put,List.setIfInBounds_toArray,List.set_cons_zero,List.set_cons_succ,i64_w,i32_w]
        rfl
       refine take_ (i:=4) (N:=some 11) (v:=?_) (a':=?_) #[true,true,true,true,true,true,true,true,true,false,false] rfl rfl (take_ofW HT_.out HW_.out (by kernel_rfl)) (fun _ _ _ h=>h) (Or.inl ⟨by rfl,?_⟩) hHeld ?_ ?_
       rotate_left
       ·rintro w' ⟨s0,s1,s2,s3,s4,s5,s6,s7⟩
        go_simp
        with_reducible rfl
       rotate_left
       ·simp only [Act.put,List.setIfInBounds_toArray,List.set_cons_zero,List.set_cons_succ,i64_w,i32_w]
        rfl
       refine take_ (i:=9) (N:=some 16) (v:=?_) (a':=?_) #[true,true,true,true,true,true,true,true,true,true,false] rfl rfl (take_ofW HT_.out HW_.out (by kernel_rfl)) (fun _ _ _ h=>h) (Or.inl ⟨by rfl,?_⟩) hHeld ?_ ?_
       rotate_left
       ·rintro w' ⟨s0,s1,s2,s3,s4,s5,s6,s7⟩
        go_simp
        with_reducible rfl
       rotate_left
       ·simp only [Act.put,List.setIfInBounds_toArray,List.set_cons_zero,List.set_cons_succ,i64_w,i32_w]
        rfl
       refine one_ (i:=10) (N:=some 17) #[true,true,true,true,true,true,true,true,true,true,true] rfl rfl (one_of HT_.out (by kernel_rfl)) (by decide) (fun K hK=>?_)
       refine goes_ Try.func8 (by kernel_rfl) rfl #[.agg #[.string ((rd_T55 l0 a1).f0.f0),.float .f64 ((rd_T55 l0 a1).f0.f1),.float .f64 ((rd_T55 l0 a1).f0.f2)],.agg #[.string ((rd_T55 l0 a2).f0.f0),.float .f64 ((rd_T55 l0 a2).f0.f1),.float .f64 ((rd_T55 l0 a2).f0.f2)]] (by rfl) rfl rfl (by (try simp only [List.map_toArray,List.map_cons,List.map_nil]);first|done|rfl|(simp only [List.length_drop,List.length_take];rfl)) ?_
       with_reducible refine (evict_Ahead.calls ((rd_T55 l0 a1).f0.f0) ((rd_T55 l0 a1).f0.f1) ((rd_T55 l0 a1).f0.f2) ((rd_T55 l0 a2).f0.f0) ((rd_T55 l0 a2).f0.f1) ((rd_T55 l0 a2).f0.f2) false _ A8.out).mono ?_
       rintro e w15 ⟨rfl,hb⟩
       refine ⟨_,rfl,?_⟩
       have n0_:=Aside0.mk (below_step (by repeat (first|(with_reducible first|exact HB.out|apply below_alloc|apply pw_below_drewN|apply below_drew1)|exact HB.out)) hb)
       clear HB
       have HB:=n0_
       clear n0_
       (try clear hb)
       (try clear hb2)
       (try clear hk)
       (try clear hi)
       refine hK.out _ _ ⟨((HB.out.cell (World.block_lt_of_cell? w _ hw103_0)).trans hw103_0),((HB.out.cell (World.block_lt_of_cell? w _ hw103_1)).trans hw103_1),((HB.out.cell (World.block_lt_of_cell? w _ hw103_2)).trans hw103_2),((HB.out.cell (World.block_lt_of_cell? w _ hw103_3)).trans hw103_3),((HB.out.cell (World.block_lt_of_cell? w _ hw104_0)).trans hw104_0),((HB.out.cell (World.block_lt_of_cell? w _ hw104_1)).trans hw104_1),((HB.out.cell (World.block_lt_of_cell? w _ hw104_2)).trans hw104_2),((HB.out.cell (World.block_lt_of_cell? w _ hw104_3)).trans hw104_3)⟩ (fun hHeld=>?_)
       clear hK K
       refine norm_ (a':=?_) ?_ ?_
       rotate_left
       ·show Act.put _ (some 17) _ = _
        simp only [Act.put,List.setIfInBounds_toArray,List.set_cons_zero,List.set_cons_succ,i64_w,i32_w]
        rfl
       refine done_ (done_of HT_.out (by kernel_rfl)) ?_
       try go_wp2
       have n0_:=Aside0.mk (below_drew1 HB.out)
       clear HB
       have HB:=n0_
       clear n0_
       have p106 : 0 ≤ (a2 : Int):=of_decide_eq_true (by first|(with_reducible assumption)|assumption)
       have q106 : a2 < (l0.length : Int):=of_decide_eq_true (by first|(with_reducible assumption)|assumption)
       obtain ⟨ad106,e106,hx106_0,hx106_1,hx106_2,hx106_3⟩:=at_T55 HR0.out a2 p106 q106
       have hw106_3:=hx106_3
       have hw106_2:=hx106_2
       have hw106_1:=hx106_1
       have hw106_0:=hx106_0
       obtain rfl : ad103 = ad106:=(by injection e106)
       replace hx106_0:=(HB.out.cell (World.block_lt_of_cell? w _ hx106_0)).trans hx106_0
       replace hx106_1:=(HB.out.cell (World.block_lt_of_cell? w _ hx106_1)).trans hx106_1
       replace hx106_2:=(HB.out.cell (World.block_lt_of_cell? w _ hx106_2)).trans hx106_2
       replace hx106_3:=(HB.out.cell (World.block_lt_of_cell? w _ hx106_3)).trans hx106_3
       replace p106:=eq_true p106
       replace q106:=eq_true q106
       have p107 : 0 ≤ (a1 : Int):=of_decide_eq_true (by first|(with_reducible assumption)|assumption)
       have q107 : a1 < (l0.length : Int):=of_decide_eq_true (by first|(with_reducible assumption)|assumption)
       obtain ⟨ad107,e107,hx107_0,hx107_1,hx107_2,hx107_3⟩:=at_T55 HR0.out a1 p107 q107
       have hw107_3:=hx107_3
       have hw107_2:=hx107_2
       have hw107_1:=hx107_1
       have hw107_0:=hx107_0
       obtain rfl : ad103 = ad107:=(by injection e107)
       replace hx107_0:=(HB.out.cell (World.block_lt_of_cell? w _ hx107_0)).trans hx107_0
       replace hx107_1:=(HB.out.cell (World.block_lt_of_cell? w _ hx107_1)).trans hx107_1
       replace hx107_2:=(HB.out.cell (World.block_lt_of_cell? w _ hx107_2)).trans hx107_2
       replace hx107_3:=(HB.out.cell (World.block_lt_of_cell? w _ hx107_3)).trans hx107_3
       replace p107:=eq_true p107
       replace q107:=eq_true q107
       refine start_ (n:=26) (S:=fun w'=>w'.cell? (ad103.add ((a2).toNat * 4)) = some (.string ((rd_T55 l0 a2).f0.f0)) ∧ w'.cell? ⟨(ad103.add ((a2).toNat * 4)).block,(ad103.add ((a2).toNat * 4)).off + 1,none⟩ = some (.float .f64 ((rd_T55 l0 a2).f0.f1)) ∧ w'.cell? ⟨(ad103.add ((a2).toNat * 4)).block,(ad103.add ((a2).toNat * 4)).off + 2,none⟩ = some (.float .f64 ((rd_T55 l0 a2).f0.f2)) ∧ w'.cell? ⟨(ad103.add ((a2).toNat * 4)).block,(ad103.add ((a2).toNat * 4)).off + 3,none⟩ = some (.int .i64 ((rd_T55 l0 a2).f1)) ∧ w'.cell? (ad103.add ((a1).toNat * 4)) = some (.string ((rd_T55 l0 a1).f0.f0)) ∧ w'.cell? ⟨(ad103.add ((a1).toNat * 4)).block,(ad103.add ((a1).toNat * 4)).off + 1,none⟩ = some (.float .f64 ((rd_T55 l0 a1).f0.f1)) ∧ w'.cell? ⟨(ad103.add ((a1).toNat * 4)).block,(ad103.add ((a1).toNat * 4)).off + 2,none⟩ = some (.float .f64 ((rd_T55 l0 a1).f0.f2)) ∧ w'.cell? ⟨(ad103.add ((a1).toNat * 4)).block,(ad103.add ((a1).toNat * 4)).off + 3,none⟩ = some (.int .i64 ((rd_T55 l0 a1).f1))) (ds:=[]) #[false,false,false,false,false,false,false,false,false,false,false,false,false,false,false,false,false,false,false,false,false,false,false,false,false,false] (by kernel_rfl) rfl rfl ⟨((HB.out.cell (World.block_lt_of_cell? w _ hw106_0)).trans hw106_0),((HB.out.cell (World.block_lt_of_cell? w _ hw106_1)).trans hw106_1),((HB.out.cell (World.block_lt_of_cell? w _ hw106_2)).trans hw106_2),((HB.out.cell (World.block_lt_of_cell? w _ hw106_3)).trans hw106_3),((HB.out.cell (World.block_lt_of_cell? w _ hw107_0)).trans hw107_0),((HB.out.cell (World.block_lt_of_cell? w _ hw107_1)).trans hw107_1),((HB.out.cell (World.block_lt_of_cell? w _ hw107_2)).trans hw107_2),((HB.out.cell (World.block_lt_of_cell? w _ hw107_3)).trans hw107_3)⟩ (fun hHeld=>?_);refine with_tabW evict_row_Less.tab3 evict_row_Less.bits3 (fun HT_ HW_=>?_)
       generalize w15.drew = w16 at HB hx106_0 hx106_1 hx106_2 hx106_3 hx107_0 hx107_1 hx107_2 hx107_3 hHeld ⊢
       refine pure_ (i:=0) (N:=some 18) (v:=?_) (a':=?_) #[true,false,false,false,false,false,false,false,false,false,false,false,false,false,false,false,false,false,false,false,false,false,false,false,false,false] rfl rfl (any_of HT_.out (by kernel_rfl)) (fun _ _ _ h=>h) (Or.inl ⟨by rfl,?_⟩) ?_ ?_
       rotate_left
       ·intro w'
        go_simp
        with_reducible rfl
       rotate_left
       ·simp only [Act.put,List.setIfInBounds_toArray,List.set_cons_zero,List.set_cons_succ,i64_w,i32_w]
        rfl
       refine pure_ (i:=1) (N:=some 19) (v:=?_) (a':=?_) #[true,true,false,false,false,false,false,false,false,false,false,false,false,false,false,false,false,false,false,false,false,false,false,false,false,false] rfl rfl (any_of HT_.out (by kernel_rfl)) (fun _ _ _ h=>h) (Or.inl ⟨by rfl,?_⟩) ?_ ?_
       rotate_left
       ·intro w'
        go_simp
        with_reducible rfl
       rotate_left
       ·simp only [Act.put,List.setIfInBounds_toArray,List.set_cons_zero,List.set_cons_succ,i64_w,i32_w]
        rfl
       refine pure_ (i:=2) (N:=some 20) (v:=?_) (a':=?_) #[true,true,true,false,false,false,false,false,false,false,false,false,false,false,false,false,false,false,false,false,false,false,false,false,false,false] rfl rfl (any_of HT_.out (by kernel_rfl)) (fun _ _ _ h=>h) (Or.inl ⟨by rfl,?_⟩) ?_ ?_
       rotate_left
       ·intro w'
        go_simp
        with_reducible rfl
       rotate_left
       ·simp only [Act.put,List.setIfInBounds_toArray,List.set_cons_zero,List.set_cons_succ,i64_w,i32_w]
        rfl
       refine pure_ (i:=3) (N:=some 21) (v:=?_) (a':=?_) #[true,true,true,true,false,false,false,false,false,false,false,false,false,false,false,false,false,false,false,false,false,false,false,false,false,false] rfl rfl (any_of HT_.out (by kernel_rfl)) (fun _ _ _ h=>h) (Or.inl ⟨by rfl,?_⟩) ?_ ?_
       rotate_left
       ·intro w'
        go_simp
        with_reducible rfl
       rotate_left
       ·simp only [Act.put,List.setIfInBounds_toArray,List.set_cons_zero,List.set_cons_succ,i64_w,i32_w]
        rfl
       refine pure_ (i:=5) (N:=some 23) (v:=?_) (a':=?_) #[true,true,true,true,false,true,false,false,false,false,false,false,false,false,false,false,false,false,false,false,false,false,false,false,false,false] rfl rfl (any_of HT_.out (by kernel_rfl)) (fun _ _ _ h=>h) (Or.inl ⟨by rfl,?_⟩) ?_ ?_
       rotate_left
       ·intro w'
        go_simp
        with_reducible rfl
       rotate_left
       ·simp only [Act.put,List.setIfInBounds_toArray,List.set_cons_zero,List.set_cons_succ,i64_w,i32_w]
        rfl
       refine pure_ (i:=6) (N:=some 24) (v:=?_) (a':=?_) #[true,true,true,true,false,true,true,false,false,false,false,false,false,false,false,false,false,false,false,false,false,false,false,false,false,false] rfl rfl (any_of HT_.out (by kernel_rfl)) (fun _ _ _ h=>h) (Or.inl ⟨by rfl,?_⟩) ?_ ?_
       rotate_left
       ·intro w'
        go_simp
        with_reducible rfl
       rotate_left
       ·simp only [Act.put,List.setIfInBounds_toArray,List.set_cons_zero,List.set_cons_succ,i64_w,i32_w]
        rfl
       refine pure_ (i:=7) (N:=some 25) (v:=?_) (a':=?_) #[true,true,true,true,false,true,true,true,false,false,false,false,false,false,false,false,false,false,false,false,false,false,false,false,false,false] rfl rfl (any_of HT_.out (by kernel_rfl)) (fun _ _ _ h=>h) (Or.inl ⟨by rfl,?_⟩) ?_ ?_
       rotate_left
       ·intro w'
        go_simp
        with_reducible rfl
       rotate_left
       ·simp only [Act.put,List.setIfInBounds_toArray,List.set_cons_zero,List.set_cons_succ,i64_w,i32_w]
        rfl
       refine pure_ (i:=8) (N:=some 26) (v:=?_) (a':=?_) #[true,true,true,true,false,true,true,true,true,false,false,false,false,false,false,false,false,false,false,false,false,false,false,false,false,false] rfl rfl (any_of HT_.out (by kernel_rfl)) (fun _ _ _ h=>h) (Or.inl ⟨by rfl,?_⟩) ?_ ?_
       rotate_left
       ·intro w'
        go_simp
        with_reducible rfl
       rotate_left
       ·simp only [Act.put,List.setIfInBounds_toArray,List.set_cons_zero,List.set_cons_succ,i64_w,i32_w]
        rfl
       refine take_ (i:=4) (N:=some 22) (v:=?_) (a':=?_) #[true,true,true,true,true,true,true,true,true,false,false,false,false,false,false,false,false,false,false,false,false,false,false,false,false,false] rfl rfl (take_ofW HT_.out HW_.out (by kernel_rfl)) (fun _ _ _ h=>h) (Or.inl ⟨by rfl,?_⟩) hHeld ?_ ?_
       rotate_left
       ·rintro w' ⟨s0,s1,s2,s3,s4,s5,s6,s7⟩
        go_simp
        with_reducible rfl
       rotate_left
       ·simp only [Act.put,List.setIfInBounds_toArray,List.set_cons_zero,List.set_cons_succ,i64_w,i32_w]
        rfl
       refine take_ (i:=9) (N:=some 27) (v:=?_) (a':=?_) #[true,true,true,true,true,true,true,true,true,true,false,false,false,false,false,false,false,false,false,false,false,false,false,false,false,false] rfl rfl (take_ofW HT_.out HW_.out (by kernel_rfl)) (fun _ _ _ h=>h) (Or.inl ⟨by rfl,?_⟩) hHeld ?_ ?_
       rotate_left
       ·rintro w' ⟨s0,s1,s2,s3,s4,s5,s6,s7⟩
        go_simp
        with_reducible rfl
       rotate_left
       ·simp only [Act.put,List.setIfInBounds_toArray,List.set_cons_zero,List.set_cons_succ,i64_w,i32_w]
        rfl
       refine one_ (i:=10) (N:=some 28) #[true,true,true,true,true,true,true,true,true,true,true,false,false,false,false,false,false,false,false,false,false,false,false,false,false,false] rfl rfl (one_of HT_.out (by kernel_rfl)) (by decide) (fun K hK=>?_)
       refine goes_ Try.func8 (by kernel_rfl) rfl #[.agg #[.string ((rd_T55 l0 a2).f0.f0),.float .f64 ((rd_T55 l0 a2).f0.f1),.float .f64 ((rd_T55 l0 a2).f0.f2)],.agg #[.string ((rd_T55 l0 a1).f0.f0),.float .f64 ((rd_T55 l0 a1).f0.f1),.float .f64 ((rd_T55 l0 a1).f0.f2)]] (by rfl) rfl rfl (by (try simp only [List.map_toArray,List.map_cons,List.map_nil]);first|done|rfl|(simp only [List.length_drop,List.length_take];rfl)) ?_
       with_reducible refine (evict_Ahead.calls ((rd_T55 l0 a2).f0.f0) ((rd_T55 l0 a2).f0.f1) ((rd_T55 l0 a2).f0.f2) ((rd_T55 l0 a1).f0.f0) ((rd_T55 l0 a1).f0.f1) ((rd_T55 l0 a1).f0.f2) true _ A12.out).mono ?_
       rintro e w17 ⟨rfl,hb⟩
       refine ⟨_,rfl,?_⟩
       have n0_:=Aside0.mk (below_step (by repeat (first|(with_reducible first|exact HB.out|apply below_alloc|apply pw_below_drewN|apply below_drew1)|exact HB.out)) hb)
       clear HB
       have HB:=n0_
       clear n0_
       (try clear hb)
       (try clear hb2)
       (try clear hk)
       (try clear hi)
       refine hK.out _ _ ⟨((HB.out.cell (World.block_lt_of_cell? w _ hw106_0)).trans hw106_0),((HB.out.cell (World.block_lt_of_cell? w _ hw106_1)).trans hw106_1),((HB.out.cell (World.block_lt_of_cell? w _ hw106_2)).trans hw106_2),((HB.out.cell (World.block_lt_of_cell? w _ hw106_3)).trans hw106_3),((HB.out.cell (World.block_lt_of_cell? w _ hw107_0)).trans hw107_0),((HB.out.cell (World.block_lt_of_cell? w _ hw107_1)).trans hw107_1),((HB.out.cell (World.block_lt_of_cell? w _ hw107_2)).trans hw107_2),((HB.out.cell (World.block_lt_of_cell? w _ hw107_3)).trans hw107_3)⟩ (fun hHeld=>?_)
       clear hK K
       refine norm_ (a':=?_) ?_ ?_
       rotate_left
       ·show Act.put _ (some 28) _ = _
        simp only [Act.put,List.setIfInBounds_toArray,List.set_cons_zero,List.set_cons_succ,i64_w,i32_w]
        rfl
       refine pure_ (i:=11) (N:=some 29) (v:=?_) (a':=?_) #[true,true,true,true,true,true,true,true,true,true,true,true,false,false,false,false,false,false,false,false,false,false,false,false,false,false] rfl rfl (any_of HT_.out (by kernel_rfl)) (fun _ _ _ h=>h) (Or.inl ⟨by rfl,?_⟩) ?_ ?_
       rotate_left
       ·intro w'
        go_simp
        with_reducible rfl
       rotate_left
       ·simp only [Act.put,List.setIfInBounds_toArray,List.set_cons_zero,List.set_cons_succ,i64_w,i32_w]
        rfl
       refine pure_ (i:=12) (N:=some 30) (v:=?_) (a':=?_) #[true,true,true,true,true,true,true,true,true,true,true,true,true,false,false,false,false,false,false,false,false,false,false,false,false,false] rfl rfl (any_of HT_.out (by kernel_rfl)) (fun _ _ _ h=>h) (Or.inl ⟨by rfl,?_⟩) ?_ ?_
       rotate_left
       ·intro w'
        go_simp
        with_reducible rfl
       rotate_left
       ·simp only [Act.put,List.setIfInBounds_toArray,List.set_cons_zero,List.set_cons_succ,i64_w,i32_w]
        rfl
       refine pure_ (i:=13) (N:=some 31) (v:=undef) (a':=?_) #[true,true,true,true,true,true,true,true,true,true,true,true,true,true,false,false,false,false,false,false,false,false,false,false,false,false] rfl rfl (any_of HT_.out (by kernel_rfl)) (fun _ _ _ h=>h) (Or.inr ⟨by rfl,rfl⟩) ?_ ?_
       rotate_left
       ·simp only [Act.put,List.setIfInBounds_toArray,List.set_cons_zero,List.set_cons_succ,i64_w,i32_w]
        rfl
       refine pure_ (i:=14) (N:=some 32) (v:=undef) (a':=?_) #[true,true,true,true,true,true,true,true,true,true,true,true,true,true,true,false,false,false,false,false,false,false,false,false,false,false] rfl rfl (any_of HT_.out (by kernel_rfl)) (fun _ _ _ h=>h) (Or.inr ⟨by rfl,rfl⟩) ?_ ?_
       rotate_left
       ·simp only [Act.put,List.setIfInBounds_toArray,List.set_cons_zero,List.set_cons_succ,i64_w,i32_w]
        rfl
       refine pure_ (i:=15) (N:=some 33) (v:=undef) (a':=?_) #[true,true,true,true,true,true,true,true,true,true,true,true,true,true,true,true,false,false,false,false,false,false,false,false,false,false] rfl rfl (any_of HT_.out (by kernel_rfl)) (fun _ _ _ h=>h) (Or.inr ⟨by rfl,rfl⟩) ?_ ?_
       rotate_left
       ·simp only [Act.put,List.setIfInBounds_toArray,List.set_cons_zero,List.set_cons_succ,i64_w,i32_w]
        rfl
       refine pure_ (i:=16) (N:=some 34) (v:=undef) (a':=?_) #[true,true,true,true,true,true,true,true,true,true,true,true,true,true,true,true,true,false,false,false,false,false,false,false,false,false] rfl rfl (any_of HT_.out (by kernel_rfl)) (fun _ _ _ h=>h) (Or.inr ⟨by rfl,rfl⟩) ?_ ?_
       rotate_left
       ·simp only [Act.put,List.setIfInBounds_toArray,List.set_cons_zero,List.set_cons_succ,i64_w,i32_w]
        rfl
       refine pure_ (i:=17) (N:=some 35) (v:=undef) (a':=?_) #[true,true,true,true,true,true,true,true,true,true,true,true,true,true,true,true,true,true,false,false,false,false,false,false,false,false] rfl rfl (any_of HT_.out (by kernel_rfl)) (fun _ _ _ h=>h) (Or.inr ⟨by rfl,rfl⟩) ?_ ?_
       rotate_left
       ·simp only [Act.put,List.setIfInBounds_toArray,List.set_cons_zero,List.set_cons_succ,i64_w,i32_w]
        rfl
       refine pure_ (i:=18) (N:=some 36) (v:=undef) (a':=?_) #[true,true,true,true,true,true,true,true,true,true,true,true,true,true,true,true,true,true,true,false,false,false,false,false,false,false] rfl rfl (any_of HT_.out (by kernel_rfl)) (fun _ _ _ h=>h) (Or.inr ⟨by rfl,rfl⟩) ?_ ?_
       rotate_left
       ·simp only [Act.put,List.setIfInBounds_toArray,List.set_cons_zero,List.set_cons_succ,i64_w,i32_w]
        rfl
       refine pure_ (i:=19) (N:=some 37) (v:=undef) (a':=?_) #[true,true,true,true,true,true,true,true,true,true,true,true,true,true,true,true,true,true,true,true,false,false,false,false,false,false] rfl rfl (any_of HT_.out (by kernel_rfl)) (fun _ _ _ h=>h) (Or.inr ⟨by rfl,rfl⟩) ?_ ?_
       rotate_left
       ·simp only [Act.put,List.setIfInBounds_toArray,List.set_cons_zero,List.set_cons_succ,i64_w,i32_w]
        rfl
       refine pure_ (i:=20) (N:=some 38) (v:=undef) (a':=?_) #[true,true,true,true,true,true,true,true,true,true,true,true,true,true,true,true,true,true,true,true,true,false,false,false,false,false] rfl rfl (any_of HT_.out (by kernel_rfl)) (fun _ _ _ h=>h) (Or.inr ⟨by rfl,rfl⟩) ?_ ?_
       rotate_left
       ·simp only [Act.put,List.setIfInBounds_toArray,List.set_cons_zero,List.set_cons_succ,i64_w,i32_w]
        rfl
       refine pure_ (i:=21) (N:=some 39) (v:=undef) (a':=?_) #[true,true,true,true,true,true,true,true,true,true,true,true,true,true,true,true,true,true,true,true,true,true,false,false,false,false] rfl rfl (any_of HT_.out (by kernel_rfl)) (fun _ _ _ h=>h) (Or.inr ⟨by rfl,rfl⟩) ?_ ?_
       rotate_left
       ·simp only [Act.put,List.setIfInBounds_toArray,List.set_cons_zero,List.set_cons_succ,i64_w,i32_w]
        rfl
       refine pure_ (i:=22) (N:=some 40) (v:=undef) (a':=?_) #[true,true,true,true,true,true,true,true,true,true,true,true,true,true,true,true,true,true,true,true,true,true,true,false,false,false] rfl rfl (any_of HT_.out (by kernel_rfl)) (fun _ _ _ h=>h) (Or.inr ⟨by rfl,rfl⟩) ?_ ?_
       rotate_left
       ·simp only [Act.put,List.setIfInBounds_toArray,List.set_cons_zero,List.set_cons_succ,i64_w,i32_w]
        rfl
       refine pure_ (i:=23) (N:=some 41) (v:=undef) (a':=?_) #[true,true,true,true,true,true,true,true,true,true,true,true,true,true,true,true,true,true,true,true,true,true,true,true,false,false] rfl rfl (any_of HT_.out (by kernel_rfl)) (fun _ _ _ h=>h) (Or.inr ⟨by rfl,rfl⟩) ?_ ?_
       rotate_left
       ·simp only [Act.put,List.setIfInBounds_toArray,List.set_cons_zero,List.set_cons_succ,i64_w,i32_w]
        rfl
       refine pure_ (i:=24) (N:=some 42) (v:=?_) (a':=?_) #[true,true,true,true,true,true,true,true,true,true,true,true,true,true,true,true,true,true,true,true,true,true,true,true,true,false] rfl rfl (any_of HT_.out (by kernel_rfl)) (fun _ _ _ h=>h) (Or.inl ⟨by rfl,?_⟩) ?_ ?_
       rotate_left
       ·intro w'
        go_simp
        with_reducible rfl
       rotate_left
       ·simp only [Act.put,List.setIfInBounds_toArray,List.set_cons_zero,List.set_cons_succ,i64_w,i32_w]
        rfl
       refine pure_ (i:=25) (N:=some 6) (v:=?_) (a':=?_) #[true,true,true,true,true,true,true,true,true,true,true,true,true,true,true,true,true,true,true,true,true,true,true,true,true,true] rfl rfl (any_of HT_.out (by kernel_rfl)) (fun _ _ _ h=>h) (Or.inl ⟨by rfl,?_⟩) ?_ ?_
       rotate_left
       ·intro w'
        go_simp
        with_reducible rfl
       rotate_left
       ·simp only [Act.put,List.setIfInBounds_toArray,List.set_cons_zero,List.set_cons_succ,i64_w,i32_w]
        rfl
       refine done_ (done_of HT_.out (by kernel_rfl)) ?_
       try go_wp2
       go_ret
       exact ⟨by first|rfl|(simp [errW_none,errW_some] <;> rfl)|(simp [*,errW_none,errW_some] <;> rfl),by repeat (first|(with_reducible first|exact HB.out|apply below_alloc|apply pw_below_drewN|apply below_drew1)|exact HB.out)⟩
      ·replace c13:=Bool.eq_false_iff.mpr c13
       subst c13
       have H1 : (some (decide (((rd_T55 l0 a1).f1) < ((rd_T55 l0 a2).f1)))) = some r:=by rw [if_neg (show ¬ (false = true) by decide)] at H;exact H
       clear H
       have H:=H1
       clear H1
       obtain rfl:=Option.some.inj H
       go_enter Try.func43,Try.ntmps43
       try go_wp2
       have n0_:=Aside0.mk (below_drew1 HB.out)
       clear HB
       have HB:=n0_
       clear n0_
       have p103 : 0 ≤ (a1 : Int):=of_decide_eq_true (by first|(with_reducible assumption)|assumption)
       have q103 : a1 < (l0.length : Int):=of_decide_eq_true (by first|(with_reducible assumption)|assumption)
       obtain ⟨ad103,e103,hx103_0,hx103_1,hx103_2,hx103_3⟩:=at_T55 HR0.out a1 p103 q103
       have hw103_3:=hx103_3
       have hw103_2:=hx103_2
       have hw103_1:=hx103_1
       have hw103_0:=hx103_0
       cases e103
       replace hx103_0:=(HB.out.cell (World.block_lt_of_cell? w _ hx103_0)).trans hx103_0
       replace hx103_1:=(HB.out.cell (World.block_lt_of_cell? w _ hx103_1)).trans hx103_1
       replace hx103_2:=(HB.out.cell (World.block_lt_of_cell? w _ hx103_2)).trans hx103_2
       replace hx103_3:=(HB.out.cell (World.block_lt_of_cell? w _ hx103_3)).trans hx103_3
       replace p103:=eq_true p103
       replace q103:=eq_true q103
       have p104 : 0 ≤ (a2 : Int):=of_decide_eq_true (by first|(with_reducible assumption)|assumption)
       have q104 : a2 < (l0.length : Int):=of_decide_eq_true (by first|(with_reducible assumption)|assumption)
       obtain ⟨ad104,e104,hx104_0,hx104_1,hx104_2,hx104_3⟩:=at_T55 HR0.out a2 p104 q104
       have hw104_3:=hx104_3
       have hw104_2:=hx104_2
       have hw104_1:=hx104_1
       have hw104_0:=hx104_0
       obtain rfl : ad103 = ad104:=(by injection e104)
       replace hx104_0:=(HB.out.cell (World.block_lt_of_cell? w _ hx104_0)).trans hx104_0
       replace hx104_1:=(HB.out.cell (World.block_lt_of_cell? w _ hx104_1)).trans hx104_1
       replace hx104_2:=(HB.out.cell (World.block_lt_of_cell? w _ hx104_2)).trans hx104_2
       replace hx104_3:=(HB.out.cell (World.block_lt_of_cell? w _ hx104_3)).trans hx104_3
       replace p104:=eq_true p104
       replace q104:=eq_true q104
       refine start_ (n:=11) (S:=fun w'=>w'.cell? (ad103.add ((a1).toNat * 4)) = some (.string ((rd_T55 l0 a1).f0.f0)) ∧ w'.cell? ⟨(ad103.add ((a1).toNat * 4)).block,(ad103.add ((a1).toNat * 4)).off + 1,none⟩ = some (.float .f64 ((rd_T55 l0 a1).f0.f1)) ∧ w'.cell? ⟨(ad103.add ((a1).toNat * 4)).block,(ad103.add ((a1).toNat * 4)).off + 2,none⟩ = some (.float .f64 ((rd_T55 l0 a1).f0.f2)) ∧ w'.cell? ⟨(ad103.add ((a1).toNat * 4)).block,(ad103.add ((a1).toNat * 4)).off + 3,none⟩ = some (.int .i64 ((rd_T55 l0 a1).f1)) ∧ w'.cell? (ad103.add ((a2).toNat * 4)) = some (.string ((rd_T55 l0 a2).f0.f0)) ∧ w'.cell? ⟨(ad103.add ((a2).toNat * 4)).block,(ad103.add ((a2).toNat * 4)).off + 1,none⟩ = some (.float .f64 ((rd_T55 l0 a2).f0.f1)) ∧ w'.cell? ⟨(ad103.add ((a2).toNat * 4)).block,(ad103.add ((a2).toNat * 4)).off + 2,none⟩ = some (.float .f64 ((rd_T55 l0 a2).f0.f2)) ∧ w'.cell? ⟨(ad103.add ((a2).toNat * 4)).block,(ad103.add ((a2).toNat * 4)).off + 3,none⟩ = some (.int .i64 ((rd_T55 l0 a2).f1))) (ds:=[]) #[false,false,false,false,false,false,false,false,false,false,false] (by kernel_rfl) rfl rfl ⟨((HB.out.cell (World.block_lt_of_cell? w _ hw103_0)).trans hw103_0),((HB.out.cell (World.block_lt_of_cell? w _ hw103_1)).trans hw103_1),((HB.out.cell (World.block_lt_of_cell? w _ hw103_2)).trans hw103_2),((HB.out.cell (World.block_lt_of_cell? w _ hw103_3)).trans hw103_3),((HB.out.cell (World.block_lt_of_cell? w _ hw104_0)).trans hw104_0),((HB.out.cell (World.block_lt_of_cell? w _ hw104_1)).trans hw104_1),((HB.out.cell (World.block_lt_of_cell? w _ hw104_2)).trans hw104_2),((HB.out.cell (World.block_lt_of_cell? w _ hw104_3)).trans hw104_3)⟩ (fun hHeld=>?_);refine with_tabW evict_row_Less.tab1 evict_row_Less.bits1 (fun HT_ HW_=>?_)
       generalize w.drew = w18 at HB hx103_0 hx103_1 hx103_2 hx103_3 hx104_0 hx104_1 hx104_2 hx104_3 hHeld ⊢
       refine pure_ (i:=0) (N:=some 7) (v:=?_) (a':=?_) #[true,false,false,false,false,false,false,false,false,false,false] rfl rfl (any_of HT_.out (by kernel_rfl)) (fun _ _ _ h=>h) (Or.inl ⟨by rfl,?_⟩) ?_ ?_
       rotate_left
       ·intro w'
        go_simp
        with_reducible rfl
       rotate_left
       ·simp only [Act.put,List.setIfInBounds_toArray,List.set_cons_zero,List.set_cons_succ,i64_w,i32_w]
        rfl
       refine pure_ (i:=1) (N:=some 8) (v:=?_) (a':=?_) #[true,true,false,false,false,false,false,false,false,false,false] rfl rfl (any_of HT_.out (by kernel_rfl)) (fun _ _ _ h=>h) (Or.inl ⟨by rfl,?_⟩) ?_ ?_
       rotate_left
       ·intro w'
        go_simp
        with_reducible rfl
       rotate_left
       ·simp only [Act.put,List.setIfInBounds_toArray,List.set_cons_zero,List.set_cons_succ,i64_w,i32_w]
        rfl
       refine pure_ (i:=2) (N:=some 9) (v:=?_) (a':=?_) #[true,true,true,false,false,false,false,false,false,false,false] rfl rfl (any_of HT_.out (by kernel_rfl)) (fun _ _ _ h=>h) (Or.inl ⟨by rfl,?_⟩) ?_ ?_
       rotate_left
       ·intro w'
        go_simp
        with_reducible rfl
       rotate_left
       ·simp only [Act.put,List.setIfInBounds_toArray,List.set_cons_zero,List.set_cons_succ,i64_w,i32_w]
        rfl
       refine pure_ (i:=3) (N:=some 10) (v:=?_) (a':=?_) #[true,true,true,true,false,false,false,false,false,false,false] rfl rfl (any_of HT_.out (by kernel_rfl)) (fun _ _ _ h=>h) (Or.inl ⟨by rfl,?_⟩) ?_ ?_
       rotate_left
       ·intro w'
        go_simp
        with_reducible rfl
       rotate_left
       ·simp only [Act.put,List.setIfInBounds_toArray,List.set_cons_zero,List.set_cons_succ,i64_w,i32_w]
        rfl
       refine pure_ (i:=5) (N:=some 12) (v:=?_) (a':=?_) #[true,true,true,true,false,true,false,false,false,false,false] rfl rfl (any_of HT_.out (by kernel_rfl)) (fun _ _ _ h=>h) (Or.inl ⟨by rfl,?_⟩) ?_ ?_
       rotate_left
       ·intro w'
        go_simp
        with_reducible rfl
       rotate_left
       ·simp only [Act.put,List.setIfInBounds_toArray,List.set_cons_zero,List.set_cons_succ,i64_w,i32_w]
        rfl
       refine pure_ (i:=6) (N:=some 13) (v:=?_) (a':=?_) #[true,true,true,true,false,true,true,false,false,false,false] rfl rfl (any_of HT_.out (by kernel_rfl)) (fun _ _ _ h=>h) (Or.inl ⟨by rfl,?_⟩) ?_ ?_
       rotate_left
       ·intro w'
        go_simp
        with_reducible rfl
       rotate_left
       ·simp only [Act.put,List.setIfInBounds_toArray,List.set_cons_zero,List.set_cons_succ,i64_w,i32_w]
        rfl
       refine pure_ (i:=7) (N:=some 14) (v:=?_) (a':=?_) #[true,true,true,true,false,true,true,true,false,false,false] rfl rfl (any_of HT_.out (by kernel_rfl)) (fun _ _ _ h=>h) (Or.inl ⟨by rfl,?_⟩) ?_ ?_
       rotate_left
       ·intro w'
        go_simp
        with_reducible rfl
       rotate_left
       ·simp only [Act.put,List.setIfInBounds_toArray,List.set_cons_zero,List.set_cons_succ,i64_w,i32_w]
        rfl
       refine pure_ (i:=8) (N:=some 15) (v:=?_) (a':=?_) #[true,true,true,true,false,true,true,true,true,false,false] rfl rfl (any_of HT_.out (by kernel_rfl)) (fun _ _ _ h=>h) (Or.inl ⟨by rfl,?_⟩) ?_ ?_
       rotate_left
       ·intro w'
        go_simp
        with_reducible rfl
       rotate_left
       ·simp only [Act.put,List.setIfInBounds_toArray,List.set_cons_zero,List.set_cons_succ,i64_w,i32_w]
        rfl
       refine take_ (i:=4) (N:=some 11) (v:=?_) (a':=?_) #[true,true,true,true,true,true,true,true,true,false,false] rfl rfl (take_ofW HT_.out HW_.out (by kernel_rfl)) (fun _ _ _ h=>h) (Or.inl ⟨by rfl,?_⟩) hHeld ?_ ?_
       rotate_left
       ·rintro w' ⟨s0,s1,s2,s3,s4,s5,s6,s7⟩
        go_simp
        with_reducible rfl
       rotate_left
       ·simp only [Act.put,List.setIfInBounds_toArray,List.set_cons_zero,List.set_cons_succ,i64_w,i32_w]
        rfl
       refine take_ (i:=9) (N:=some 16) (v:=?_) (a':=?_) #[true,true,true,true,true,true,true,true,true,true,false] rfl rfl (take_ofW HT_.out HW_.out (by kernel_rfl)) (fun _ _ _ h=>h) (Or.inl ⟨by rfl,?_⟩) hHeld ?_ ?_
       rotate_left
       ·rintro w' ⟨s0,s1,s2,s3,s4,s5,s6,s7⟩
        go_simp
        with_reducible rfl
       rotate_left
       ·simp only [Act.put,List.setIfInBounds_toArray,List.set_cons_zero,List.set_cons_succ,i64_w,i32_w]
        rfl
       refine one_ (i:=10) (N:=some 17) #[true,true,true,true,true,true,true,true,true,true,true] rfl rfl (one_of HT_.out (by kernel_rfl)) (by decide) (fun K hK=>?_)
       refine goes_ Try.func8 (by kernel_rfl) rfl #[.agg #[.string ((rd_T55 l0 a1).f0.f0),.float .f64 ((rd_T55 l0 a1).f0.f1),.float .f64 ((rd_T55 l0 a1).f0.f2)],.agg #[.string ((rd_T55 l0 a2).f0.f0),.float .f64 ((rd_T55 l0 a2).f0.f1),.float .f64 ((rd_T55 l0 a2).f0.f2)]] (by rfl) rfl rfl (by (try simp only [List.map_toArray,List.map_cons,List.map_nil]);first|done|rfl|(simp only [List.length_drop,List.length_take];rfl)) ?_
       with_reducible refine (evict_Ahead.calls ((rd_T55 l0 a1).f0.f0) ((rd_T55 l0 a1).f0.f1) ((rd_T55 l0 a1).f0.f2) ((rd_T55 l0 a2).f0.f0) ((rd_T55 l0 a2).f0.f1) ((rd_T55 l0 a2).f0.f2) false _ A8.out).mono ?_
       rintro e w19 ⟨rfl,hb⟩
       refine ⟨_,rfl,?_⟩
       have n0_:=Aside0.mk (below_step (by repeat (first|(with_reducible first|exact HB.out|apply below_alloc|apply pw_below_drewN|apply below_drew1)|exact HB.out)) hb)
       clear HB
       have HB:=n0_
       clear n0_
       (try clear hb)
       (try clear hb2)
       (try clear hk)
       (try clear hi)
       refine hK.out _ _ ⟨((HB.out.cell (World.block_lt_of_cell? w _ hw103_0)).trans hw103_0),((HB.out.cell (World.block_lt_of_cell? w _ hw103_1)).trans hw103_1),((HB.out.cell (World.block_lt_of_cell? w _ hw103_2)).trans hw103_2),((HB.out.cell (World.block_lt_of_cell? w _ hw103_3)).trans hw103_3),((HB.out.cell (World.block_lt_of_cell? w _ hw104_0)).trans hw104_0),((HB.out.cell (World.block_lt_of_cell? w _ hw104_1)).trans hw104_1),((HB.out.cell (World.block_lt_of_cell? w _ hw104_2)).trans hw104_2),((HB.out.cell (World.block_lt_of_cell? w _ hw104_3)).trans hw104_3)⟩ (fun hHeld=>?_)
       clear hK K
       refine norm_ (a':=?_) ?_ ?_
       rotate_left
       ·show Act.put _ (some 17) _ = _
        simp only [Act.put,List.setIfInBounds_toArray,List.set_cons_zero,List.set_cons_succ,i64_w,i32_w]
        rfl
       refine done_ (done_of HT_.out (by kernel_rfl)) ?_
       try go_wp2
       have n0_:=Aside0.mk (below_drew1 HB.out)
       clear HB
       have HB:=n0_
       clear n0_
       have p106 : 0 ≤ (a2 : Int):=of_decide_eq_true (by first|(with_reducible assumption)|assumption)
       have q106 : a2 < (l0.length : Int):=of_decide_eq_true (by first|(with_reducible assumption)|assumption)
       obtain ⟨ad106,e106,hx106_0,hx106_1,hx106_2,hx106_3⟩:=at_T55 HR0.out a2 p106 q106
       have hw106_3:=hx106_3
       have hw106_2:=hx106_2
       have hw106_1:=hx106_1
       have hw106_0:=hx106_0
       obtain rfl : ad103 = ad106:=(by injection e106)
       replace hx106_0:=(HB.out.cell (World.block_lt_of_cell? w _ hx106_0)).trans hx106_0
       replace hx106_1:=(HB.out.cell (World.block_lt_of_cell? w _ hx106_1)).trans hx106_1
       replace hx106_2:=(HB.out.cell (World.block_lt_of_cell? w _ hx106_2)).trans hx106_2
       replace hx106_3:=(HB.out.cell (World.block_lt_of_cell? w _ hx106_3)).trans hx106_3
       replace p106:=eq_true p106
       replace q106:=eq_true q106
       have p107 : 0 ≤ (a1 : Int):=of_decide_eq_true (by first|(with_reducible assumption)|assumption)
       have q107 : a1 < (l0.length : Int):=of_decide_eq_true (by first|(with_reducible assumption)|assumption)
       obtain ⟨ad107,e107,hx107_0,hx107_1,hx107_2,hx107_3⟩:=at_T55 HR0.out a1 p107 q107
       have hw107_3:=hx107_3
       have hw107_2:=hx107_2
       have hw107_1:=hx107_1
       have hw107_0:=hx107_0
       obtain rfl : ad103 = ad107:=(by injection e107)
       replace hx107_0:=(HB.out.cell (World.block_lt_of_cell? w _ hx107_0)).trans hx107_0
       replace hx107_1:=(HB.out.cell (World.block_lt_of_cell? w _ hx107_1)).trans hx107_1
       replace hx107_2:=(HB.out.cell (World.block_lt_of_cell? w _ hx107_2)).trans hx107_2
       replace hx107_3:=(HB.out.cell (World.block_lt_of_cell? w _ hx107_3)).trans hx107_3
       replace p107:=eq_true p107
       replace q107:=eq_true q107
       have p109 : 0 ≤ (a1 : Int):=of_decide_eq_true (by first|(with_reducible assumption)|assumption)
       have q109 : a1 < (l0.length : Int):=of_decide_eq_true (by first|(with_reducible assumption)|assumption)
       obtain ⟨ad109,e109,hx109_0,hx109_1,hx109_2,hx109_3⟩:=at_T55 HR0.out a1 p109 q109
       have hw109_3:=hx109_3
       have hw109_2:=hx109_2
       have hw109_1:=hx109_1
       have hw109_0:=hx109_0
       obtain rfl : ad103 = ad109:=(by injection e109)
       replace hx109_0:=(HB.out.cell (World.block_lt_of_cell? w _ hx109_0)).trans hx109_0
       replace hx109_1:=(HB.out.cell (World.block_lt_of_cell? w _ hx109_1)).trans hx109_1
       replace hx109_2:=(HB.out.cell (World.block_lt_of_cell? w _ hx109_2)).trans hx109_2
       replace hx109_3:=(HB.out.cell (World.block_lt_of_cell? w _ hx109_3)).trans hx109_3
       replace p109:=eq_true p109
       replace q109:=eq_true q109
       have p110 : 0 ≤ (a2 : Int):=of_decide_eq_true (by first|(with_reducible assumption)|assumption)
       have q110 : a2 < (l0.length : Int):=of_decide_eq_true (by first|(with_reducible assumption)|assumption)
       obtain ⟨ad110,e110,hx110_0,hx110_1,hx110_2,hx110_3⟩:=at_T55 HR0.out a2 p110 q110
       have hw110_3:=hx110_3
       have hw110_2:=hx110_2
       have hw110_1:=hx110_1
       have hw110_0:=hx110_0
       obtain rfl : ad103 = ad110:=(by injection e110)
       replace hx110_0:=(HB.out.cell (World.block_lt_of_cell? w _ hx110_0)).trans hx110_0
       replace hx110_1:=(HB.out.cell (World.block_lt_of_cell? w _ hx110_1)).trans hx110_1
       replace hx110_2:=(HB.out.cell (World.block_lt_of_cell? w _ hx110_2)).trans hx110_2
       replace hx110_3:=(HB.out.cell (World.block_lt_of_cell? w _ hx110_3)).trans hx110_3
       replace p110:=eq_true p110
       replace q110:=eq_true q110
       refine start_ (n:=26) (S:=fun w'=>w'.cell? (ad103.add ((a2).toNat * 4)) = some (.string ((rd_T55 l0 a2).f0.f0)) ∧ w'.cell? ⟨(ad103.add ((a2).toNat * 4)).block,(ad103.add ((a2).toNat * 4)).off + 1,none⟩ = some (.float .f64 ((rd_T55 l0 a2).f0.f1)) ∧ w'.cell? ⟨(ad103.add ((a2).toNat * 4)).block,(ad103.add ((a2).toNat * 4)).off + 2,none⟩ = some (.float .f64 ((rd_T55 l0 a2).f0.f2)) ∧ w'.cell? ⟨(ad103.add ((a2).toNat * 4)).block,(ad103.add ((a2).toNat * 4)).off + 3,none⟩ = some (.int .i64 ((rd_T55 l0 a2).f1)) ∧ w'.cell? (ad103.add ((a1).toNat * 4)) = some (.string ((rd_T55 l0 a1).f0.f0)) ∧ w'.cell? ⟨(ad103.add ((a1).toNat * 4)).block,(ad103.add ((a1).toNat * 4)).off + 1,none⟩ = some (.float .f64 ((rd_T55 l0 a1).f0.f1)) ∧ w'.cell? ⟨(ad103.add ((a1).toNat * 4)).block,(ad103.add ((a1).toNat * 4)).off + 2,none⟩ = some (.float .f64 ((rd_T55 l0 a1).f0.f2)) ∧ w'.cell? ⟨(ad103.add ((a1).toNat * 4)).block,(ad103.add ((a1).toNat * 4)).off + 3,none⟩ = some (.int .i64 ((rd_T55 l0 a1).f1)) ∧ w'.cell? (ad103.add ((a1).toNat * 4)) = some (.string ((rd_T55 l0 a1).f0.f0)) ∧ w'.cell? ⟨(ad103.add ((a1).toNat * 4)).block,(ad103.add ((a1).toNat * 4)).off + 1,none⟩ = some (.float .f64 ((rd_T55 l0 a1).f0.f1)) ∧ w'.cell? ⟨(ad103.add ((a1).toNat * 4)).block,(ad103.add ((a1).toNat * 4)).off + 2,none⟩ = some (.float .f64 ((rd_T55 l0 a1).f0.f2)) ∧ w'.cell? ⟨(ad103.add ((a1).toNat * 4)).block,(ad103.add ((a1).toNat * 4)).off + 3,none⟩ = some (.int .i64 ((rd_T55 l0 a1).f1)) ∧ w'.cell? (ad103.add ((a2).toNat * 4)) = some (.string ((rd_T55 l0 a2).f0.f0)) ∧ w'.cell? ⟨(ad103.add ((a2).toNat * 4)).block,(ad103.add ((a2).toNat * 4)).off + 1,none⟩ = some (.float .f64 ((rd_T55 l0 a2).f0.f1)) ∧ w'.cell? ⟨(ad103.add ((a2).toNat * 4)).block,(ad103.add ((a2).toNat * 4)).off + 2,none⟩ = some (.float .f64 ((rd_T55 l0 a2).f0.f2)) ∧ w'.cell? ⟨(ad103.add ((a2).toNat * 4)).block,(ad103.add ((a2).toNat * 4)).off + 3,none⟩ = some (.int .i64 ((rd_T55 l0 a2).f1))) (ds:=[]) #[false,false,false,false,false,false,false,false,false,false,false,false,false,false,false,false,false,false,false,false,false,false,false,false,false,false] (by kernel_rfl) rfl rfl ⟨((HB.out.cell (World.block_lt_of_cell? w _ hw106_0)).trans hw106_0),((HB.out.cell (World.block_lt_of_cell? w _ hw106_1)).trans hw106_1),((HB.out.cell (World.block_lt_of_cell? w _ hw106_2)).trans hw106_2),((HB.out.cell (World.block_lt_of_cell? w _ hw106_3)).trans hw106_3),((HB.out.cell (World.block_lt_of_cell? w _ hw107_0)).trans hw107_0),((HB.out.cell (World.block_lt_of_cell? w _ hw107_1)).trans hw107_1),((HB.out.cell (World.block_lt_of_cell? w _ hw107_2)).trans hw107_2),((HB.out.cell (World.block_lt_of_cell? w _ hw107_3)).trans hw107_3),((HB.out.cell (World.block_lt_of_cell? w _ hw109_0)).trans hw109_0),((HB.out.cell (World.block_lt_of_cell? w _ hw109_1)).trans hw109_1),((HB.out.cell (World.block_lt_of_cell? w _ hw109_2)).trans hw109_2),((HB.out.cell (World.block_lt_of_cell? w _ hw109_3)).trans hw109_3),((HB.out.cell (World.block_lt_of_cell? w _ hw110_0)).trans hw110_0),((HB.out.cell (World.block_lt_of_cell? w _ hw110_1)).trans hw110_1),((HB.out.cell (World.block_lt_of_cell? w _ hw110_2)).trans hw110_2),((HB.out.cell (World.block_lt_of_cell? w _ hw110_3)).trans hw110_3)⟩ (fun hHeld=>?_);refine with_tabW evict_row_Less.tab3 evict_row_Less.bits3 (fun HT_ HW_=>?_)
       generalize w19.drew = w20 at HB hx106_0 hx106_1 hx106_2 hx106_3 hx107_0 hx107_1 hx107_2 hx107_3 hx109_0 hx109_1 hx109_2 hx109_3 hx110_0 hx110_1 hx110_2 hx110_3 hHeld ⊢
       refine pure_ (i:=0) (N:=some 18) (v:=?_) (a':=?_) #[true,false,false,false,false,false,false,false,false,false,false,false,false,false,false,false,false,false,false,false,false,false,false,false,false,false] rfl rfl (any_of HT_.out (by kernel_rfl)) (fun _ _ _ h=>h) (Or.inl ⟨by rfl,?_⟩) ?_ ?_
       rotate_left
       ·intro w'
        go_simp
        with_reducible rfl
       rotate_left
       ·simp only [Act.put,List.setIfInBounds_toArray,List.set_cons_zero,List.set_cons_succ,i64_w,i32_w]
        rfl
       refine pure_ (i:=1) (N:=some 19) (v:=?_) (a':=?_) #[true,true,false,false,false,false,false,false,false,false,false,false,false,false,false,false,false,false,false,false,false,false,false,false,false,false] rfl rfl (any_of HT_.out (by kernel_rfl)) (fun _ _ _ h=>h) (Or.inl ⟨by rfl,?_⟩) ?_ ?_
       rotate_left
       ·intro w'
        go_simp
        with_reducible rfl
       rotate_left
       ·simp only [Act.put,List.setIfInBounds_toArray,List.set_cons_zero,List.set_cons_succ,i64_w,i32_w]
        rfl
       refine pure_ (i:=2) (N:=some 20) (v:=?_) (a':=?_) #[true,true,true,false,false,false,false,false,false,false,false,false,false,false,false,false,false,false,false,false,false,false,false,false,false,false] rfl rfl (any_of HT_.out (by kernel_rfl)) (fun _ _ _ h=>h) (Or.inl ⟨by rfl,?_⟩) ?_ ?_
       rotate_left
       ·intro w'
        go_simp
        with_reducible rfl
       rotate_left
       ·simp only [Act.put,List.setIfInBounds_toArray,List.set_cons_zero,List.set_cons_succ,i64_w,i32_w]
        rfl
       refine pure_ (i:=3) (N:=some 21) (v:=?_) (a':=?_) #[true,true,true,true,false,false,false,false,false,false,false,false,false,false,false,false,false,false,false,false,false,false,false,false,false,false] rfl rfl (any_of HT_.out (by kernel_rfl)) (fun _ _ _ h=>h) (Or.inl ⟨by rfl,?_⟩) ?_ ?_
       rotate_left
       ·intro w'
        go_simp
        with_reducible rfl
       rotate_left
       ·simp only [Act.put,List.setIfInBounds_toArray,List.set_cons_zero,List.set_cons_succ,i64_w,i32_w]
        rfl
       refine pure_ (i:=5) (N:=some 23) (v:=?_) (a':=?_) #[true,true,true,true,false,true,false,false,false,false,false,false,false,false,false,false,false,false,false,false,false,false,false,false,false,false] rfl rfl (any_of HT_.out (by kernel_rfl)) (fun _ _ _ h=>h) (Or.inl ⟨by rfl,?_⟩) ?_ ?_
       rotate_left
       ·intro w'
        go_simp
        with_reducible rfl
       rotate_left
       ·simp only [Act.put,List.setIfInBounds_toArray,List.set_cons_zero,List.set_cons_succ,i64_w,i32_w]
        rfl
       refine pure_ (i:=6) (N:=some 24) (v:=?_) (a':=?_) #[true,true,true,true,false,true,true,false,false,false,false,false,false,false,false,false,false,false,false,false,false,false,false,false,false,false] rfl rfl (any_of HT_.out (by kernel_rfl)) (fun _ _ _ h=>h) (Or.inl ⟨by rfl,?_⟩) ?_ ?_
       rotate_left
       ·intro w'
        go_simp
        with_reducible rfl
       rotate_left
       ·simp only [Act.put,List.setIfInBounds_toArray,List.set_cons_zero,List.set_cons_succ,i64_w,i32_w]
        rfl
       refine pure_ (i:=7) (N:=some 25) (v:=?_) (a':=?_) #[true,true,true,true,false,true,true,true,false,false,false,false,false,false,false,false,false,false,false,false,false,false,false,false,false,false] rfl rfl (any_of HT_.out (by kernel_rfl)) (fun _ _ _ h=>h) (Or.inl ⟨by rfl,?_⟩) ?_ ?_
       rotate_left
       ·intro w'
        go_simp
        with_reducible rfl
       rotate_left
       ·simp only [Act.put,List.setIfInBounds_toArray,List.set_cons_zero,List.set_cons_succ,i64_w,i32_w]
        rfl
       refine pure_ (i:=8) (N:=some 26) (v:=?_) (a':=?_) #[true,true,true,true,false,true,true,true,true,false,false,false,false,false,false,false,false,false,false,false,false,false,false,false,false,false] rfl rfl (any_of HT_.out (by kernel_rfl)) (fun _ _ _ h=>h) (Or.inl ⟨by rfl,?_⟩) ?_ ?_
       rotate_left
       ·intro w'
        go_simp
        with_reducible rfl
       rotate_left
       ·simp only [Act.put,List.setIfInBounds_toArray,List.set_cons_zero,List.set_cons_succ,i64_w,i32_w]
        rfl
       refine take_ (i:=4) (N:=some 22) (v:=?_) (a':=?_) #[true,true,true,true,true,true,true,true,true,false,false,false,false,false,false,false,false,false,false,false,false,false,false,false,false,false] rfl rfl (take_ofW HT_.out HW_.out (by kernel_rfl)) (fun _ _ _ h=>h) (Or.inl ⟨by rfl,?_⟩) hHeld ?_ ?_
       rotate_left
       ·rintro w' ⟨s0,s1,s2,s3,s4,s5,s6,s7,s8,s9,s10,s11,s12,s13,s14,s15⟩
        go_simp
        with_reducible rfl
       rotate_left
       ·simp only [Act.put,List.setIfInBounds_toArray,List.set_cons_zero,List.set_cons_succ,i64_w,i32_w]
        rfl
       refine take_ (i:=9) (N:=some 27) (v:=?_) (a':=?_) #[true,true,true,true,true,true,true,true,true,true,false,false,false,false,false,false,false,false,false,false,false,false,false,false,false,false] rfl rfl (take_ofW HT_.out HW_.out (by kernel_rfl)) (fun _ _ _ h=>h) (Or.inl ⟨by rfl,?_⟩) hHeld ?_ ?_
       rotate_left
       ·rintro w' ⟨s0,s1,s2,s3,s4,s5,s6,s7,s8,s9,s10,s11,s12,s13,s14,s15⟩
        go_simp
        with_reducible rfl
       rotate_left
       ·simp only [Act.put,List.setIfInBounds_toArray,List.set_cons_zero,List.set_cons_succ,i64_w,i32_w]
        rfl
       refine one_ (i:=10) (N:=some 28) #[true,true,true,true,true,true,true,true,true,true,true,false,false,false,false,false,false,false,false,false,false,false,false,false,false,false] rfl rfl (one_of HT_.out (by kernel_rfl)) (by decide) (fun K hK=>?_)
       refine goes_ Try.func8 (by kernel_rfl) rfl #[.agg #[.string ((rd_T55 l0 a2).f0.f0),.float .f64 ((rd_T55 l0 a2).f0.f1),.float .f64 ((rd_T55 l0 a2).f0.f2)],.agg #[.string ((rd_T55 l0 a1).f0.f0),.float .f64 ((rd_T55 l0 a1).f0.f1),.float .f64 ((rd_T55 l0 a1).f0.f2)]] (by rfl) rfl rfl (by (try simp only [List.map_toArray,List.map_cons,List.map_nil]);first|done|rfl|(simp only [List.length_drop,List.length_take];rfl)) ?_
       with_reducible refine (evict_Ahead.calls ((rd_T55 l0 a2).f0.f0) ((rd_T55 l0 a2).f0.f1) ((rd_T55 l0 a2).f0.f2) ((rd_T55 l0 a1).f0.f0) ((rd_T55 l0 a1).f0.f1) ((rd_T55 l0 a1).f0.f2) false _ A12.out).mono ?_
       rintro e w21 ⟨rfl,hb⟩
       refine ⟨_,rfl,?_⟩
       have n0_:=Aside0.mk (below_step (by repeat (first|(with_reducible first|exact HB.out|apply below_alloc|apply pw_below_drewN|apply below_drew1)|exact HB.out)) hb)
       clear HB
       have HB:=n0_
       clear n0_
       (try clear hb)
       (try clear hb2)
       (try clear hk)
       (try clear hi)
       refine hK.out _ _ ⟨((HB.out.cell (World.block_lt_of_cell? w _ hw106_0)).trans hw106_0),((HB.out.cell (World.block_lt_of_cell? w _ hw106_1)).trans hw106_1),((HB.out.cell (World.block_lt_of_cell? w _ hw106_2)).trans hw106_2),((HB.out.cell (World.block_lt_of_cell? w _ hw106_3)).trans hw106_3),((HB.out.cell (World.block_lt_of_cell? w _ hw107_0)).trans hw107_0),((HB.out.cell (World.block_lt_of_cell? w _ hw107_1)).trans hw107_1),((HB.out.cell (World.block_lt_of_cell? w _ hw107_2)).trans hw107_2),((HB.out.cell (World.block_lt_of_cell? w _ hw107_3)).trans hw107_3),((HB.out.cell (World.block_lt_of_cell? w _ hw109_0)).trans hw109_0),((HB.out.cell (World.block_lt_of_cell? w _ hw109_1)).trans hw109_1),((HB.out.cell (World.block_lt_of_cell? w _ hw109_2)).trans hw109_2),((HB.out.cell (World.block_lt_of_cell? w _ hw109_3)).trans hw109_3),((HB.out.cell (World.block_lt_of_cell? w _ hw110_0)).trans hw110_0),((HB.out.cell (World.block_lt_of_cell? w _ hw110_1)).trans hw110_1),((HB.out.cell (World.block_lt_of_cell? w _ hw110_2)).trans hw110_2),((HB.out.cell (World.block_lt_of_cell? w _ hw110_3)).trans hw110_3)⟩ (fun hHeld=>?_)
       clear hK K
       refine norm_ (a':=?_) ?_ ?_
       rotate_left
       ·show Act.put _ (some 28) _ = _
        simp only [Act.put,List.setIfInBounds_toArray,List.set_cons_zero,List.set_cons_succ,i64_w,i32_w]
        rfl
       refine pure_ (i:=11) (N:=some 29) (v:=?_) (a':=?_) #[true,true,true,true,true,true,true,true,true,true,true,true,false,false,false,false,false,false,false,false,false,false,false,false,false,false] rfl rfl (any_of HT_.out (by kernel_rfl)) (fun _ _ _ h=>h) (Or.inl ⟨by rfl,?_⟩) ?_ ?_
       rotate_left
       ·intro w'
        go_simp
        with_reducible rfl
       rotate_left
       ·simp only [Act.put,List.setIfInBounds_toArray,List.set_cons_zero,List.set_cons_succ,i64_w,i32_w]
        rfl
       refine pure_ (i:=12) (N:=some 30) (v:=?_) (a':=?_) #[true,true,true,true,true,true,true,true,true,true,true,true,true,false,false,false,false,false,false,false,false,false,false,false,false,false] rfl rfl (any_of HT_.out (by kernel_rfl)) (fun _ _ _ h=>h) (Or.inl ⟨by rfl,?_⟩) ?_ ?_
       rotate_left
       ·intro w'
        go_simp
        with_reducible rfl
       rotate_left
       ·simp only [Act.put,List.setIfInBounds_toArray,List.set_cons_zero,List.set_cons_succ,i64_w,i32_w]
        rfl
       refine pure_ (i:=13) (N:=some 31) (v:=?_) (a':=?_) #[true,true,true,true,true,true,true,true,true,true,true,true,true,true,false,false,false,false,false,false,false,false,false,false,false,false] rfl rfl (any_of HT_.out (by kernel_rfl)) (fun _ _ _ h=>h) (Or.inl ⟨by rfl,?_⟩) ?_ ?_
       rotate_left
       ·intro w'
        go_simp
        with_reducible rfl
       rotate_left
       ·simp only [Act.put,List.setIfInBounds_toArray,List.set_cons_zero,List.set_cons_succ,i64_w,i32_w]
        rfl
       refine pure_ (i:=14) (N:=some 32) (v:=?_) (a':=?_) #[true,true,true,true,true,true,true,true,true,true,true,true,true,true,true,false,false,false,false,false,false,false,false,false,false,false] rfl rfl (any_of HT_.out (by kernel_rfl)) (fun _ _ _ h=>h) (Or.inl ⟨by rfl,?_⟩) ?_ ?_
       rotate_left
       ·intro w'
        go_simp
        with_reducible rfl
       rotate_left
       ·simp only [Act.put,List.setIfInBounds_toArray,List.set_cons_zero,List.set_cons_succ,i64_w,i32_w]
        rfl
       refine pure_ (i:=15) (N:=some 33) (v:=?_) (a':=?_) #[true,true,true,true,true,true,true,true,true,true,true,true,true,true,true,true,false,false,false,false,false,false,false,false,false,false] rfl rfl (any_of HT_.out (by kernel_rfl)) (fun _ _ _ h=>h) (Or.inl ⟨by rfl,?_⟩) ?_ ?_
       rotate_left
       ·intro w'
        go_simp
        with_reducible rfl
       rotate_left
       ·simp only [Act.put,List.setIfInBounds_toArray,List.set_cons_zero,List.set_cons_succ,i64_w,i32_w]
        rfl
       refine pure_ (i:=16) (N:=some 34) (v:=?_) (a':=?_) #[true,true,true,true,true,true,true,true,true,true,true,true,true,true,true,true,true,false,false,false,false,false,false,false,false,false] rfl rfl (any_of HT_.out (by kernel_rfl)) (fun _ _ _ h=>h) (Or.inl ⟨by rfl,?_⟩) ?_ ?_
       rotate_left
       ·intro w'
        go_simp
        with_reducible rfl
       rotate_left
       ·simp only [Act.put,List.setIfInBounds_toArray,List.set_cons_zero,List.set_cons_succ,i64_w,i32_w]
        rfl
       refine pure_ (i:=18) (N:=some 36) (v:=?_) (a':=?_) #[true,true,true,true,true,true,true,true,true,true,true,true,true,true,true,true,true,false,true,false,false,false,false,false,false,false] rfl rfl (any_of HT_.out (by kernel_rfl)) (fun _ _ _ h=>h) (Or.inl ⟨by rfl,?_⟩) ?_ ?_
       rotate_left
       ·intro w'
        go_simp
        with_reducible rfl
       rotate_left
       ·simp only [Act.put,List.setIfInBounds_toArray,List.set_cons_zero,List.set_cons_succ,i64_w,i32_w]
        rfl
       refine pure_ (i:=19) (N:=some 37) (v:=?_) (a':=?_) #[true,true,true,true,true,true,true,true,true,true,true,true,true,true,true,true,true,false,true,true,false,false,false,false,false,false] rfl rfl (any_of HT_.out (by kernel_rfl)) (fun _ _ _ h=>h) (Or.inl ⟨by rfl,?_⟩) ?_ ?_
       rotate_left
       ·intro w'
        go_simp
        with_reducible rfl
       rotate_left
       ·simp only [Act.put,List.setIfInBounds_toArray,List.set_cons_zero,List.set_cons_succ,i64_w,i32_w]
        rfl
       refine pure_ (i:=20) (N:=some 38) (v:=?_) (a':=?_) #[true,true,true,true,true,true,true,true,true,true,true,true,true,true,true,true,true,false,true,true,true,false,false,false,false,false] rfl rfl (any_of HT_.out (by kernel_rfl)) (fun _ _ _ h=>h) (Or.inl ⟨by rfl,?_⟩) ?_ ?_
       rotate_left
       ·intro w'
        go_simp
        with_reducible rfl
       rotate_left
       ·simp only [Act.put,List.setIfInBounds_toArray,List.set_cons_zero,List.set_cons_succ,i64_w,i32_w]
        rfl
       refine pure_ (i:=21) (N:=some 39) (v:=?_) (a':=?_) #[true,true,true,true,true,true,true,true,true,true,true,true,true,true,true,true,true,false,true,true,true,true,false,false,false,false] rfl rfl (any_of HT_.out (by kernel_rfl)) (fun _ _ _ h=>h) (Or.inl ⟨by rfl,?_⟩) ?_ ?_
       rotate_left
       ·intro w'
        go_simp
        with_reducible rfl
       rotate_left
       ·simp only [Act.put,List.setIfInBounds_toArray,List.set_cons_zero,List.set_cons_succ,i64_w,i32_w]
        rfl
       refine take_ (i:=17) (N:=some 35) (v:=?_) (a':=?_) #[true,true,true,true,true,true,true,true,true,true,true,true,true,true,true,true,true,true,true,true,true,true,false,false,false,false] rfl rfl (take_ofW HT_.out HW_.out (by kernel_rfl)) (fun _ _ _ h=>h) (Or.inl ⟨by rfl,?_⟩) hHeld ?_ ?_
       rotate_left
       ·rintro w' ⟨s0,s1,s2,s3,s4,s5,s6,s7,s8,s9,s10,s11,s12,s13,s14,s15⟩
        go_simp
        with_reducible rfl
       rotate_left
       ·simp only [Act.put,List.setIfInBounds_toArray,List.set_cons_zero,List.set_cons_succ,i64_w,i32_w]
        rfl
       refine take_ (i:=22) (N:=some 40) (v:=?_) (a':=?_) #[true,true,true,true,true,true,true,true,true,true,true,true,true,true,true,true,true,true,true,true,true,true,true,false,false,false] rfl rfl (take_ofW HT_.out HW_.out (by kernel_rfl)) (fun _ _ _ h=>h) (Or.inl ⟨by rfl,?_⟩) hHeld ?_ ?_
       rotate_left
       ·rintro w' ⟨s0,s1,s2,s3,s4,s5,s6,s7,s8,s9,s10,s11,s12,s13,s14,s15⟩
        go_simp
        with_reducible rfl
       rotate_left
       ·simp only [Act.put,List.setIfInBounds_toArray,List.set_cons_zero,List.set_cons_succ,i64_w,i32_w]
        rfl
       refine pure_ (i:=23) (N:=some 41) (v:=?_) (a':=?_) #[true,true,true,true,true,true,true,true,true,true,true,true,true,true,true,true,true,true,true,true,true,true,true,true,false,false] rfl rfl (any_of HT_.out (by kernel_rfl)) (fun _ _ _ h=>h) (Or.inl ⟨by rfl,?_⟩) ?_ ?_
       rotate_left
       ·intro w'
        go_simp
        with_reducible rfl
       rotate_left
       ·simp only [Act.put,List.setIfInBounds_toArray,List.set_cons_zero,List.set_cons_succ,i64_w,i32_w]
        rfl
       refine pure_ (i:=24) (N:=some 42) (v:=?_) (a':=?_) #[true,true,true,true,true,true,true,true,true,true,true,true,true,true,true,true,true,true,true,true,true,true,true,true,true,false] rfl rfl (any_of HT_.out (by kernel_rfl)) (fun _ _ _ h=>h) (Or.inl ⟨by rfl,?_⟩) ?_ ?_
       rotate_left
       ·intro w'
        go_simp
        with_reducible rfl
       rotate_left
       ·simp only [Act.put,List.setIfInBounds_toArray,List.set_cons_zero,List.set_cons_succ,i64_w,i32_w]
        rfl
       refine pure_ (i:=25) (N:=some 6) (v:=?_) (a':=?_) #[true,true,true,true,true,true,true,true,true,true,true,true,true,true,true,true,true,true,true,true,true,true,true,true,true,true] rfl rfl (any_of HT_.out (by kernel_rfl)) (fun _ _ _ h=>h) (Or.inl ⟨by rfl,?_⟩) ?_ ?_
       rotate_left
       ·intro w'
        go_simp
        with_reducible rfl
       rotate_left
       ·simp only [Act.put,List.setIfInBounds_toArray,List.set_cons_zero,List.set_cons_succ,i64_w,i32_w]
        rfl
       refine done_ (done_of HT_.out (by kernel_rfl)) ?_
       try go_wp2
       go_ret
       exact ⟨by first|rfl|(simp [errW_none,errW_some] <;> rfl)|(simp [*,errW_none,errW_some] <;> rfl),by repeat (first|(with_reducible first|exact HB.out|apply below_alloc|apply pw_below_drewN|apply below_drew1)|exact HB.out)⟩
    ·rw [if_neg c7] at H
     exact absurd H (by simp)
   ·rw [if_neg c6] at H
    exact absurd H (by simp)
  ·rw [if_neg c5] at H
   exact absurd H (by simp)
 ·rw [if_neg c4] at H
  exact absurd H (by simp)

end Go.Proofs.Ythnbkhggbfnpcaa.GEv
