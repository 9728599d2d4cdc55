/- Written by this session's own program (wip/gen.py) out of the translation: plain Lean functions of the Go functions, and proofs that the calls come to their answers. No conditions beside those in the statements. -/
import Derived.Test.YtpmbdcljphpcnaaDoorGCkx0
import Derived.Test.YtpmbdcljphpcnaaDoorGCkx14
namespace Go.Proofs.YtpmbdcljphpcnaaDoor.GCk
open Go.RowKit Go.Proofs.YtpmbdcljphpcnaaDoorW.PrintWords Go.Proofs.YtpmbdcljphpcnaaDoorW.PrintLast Go.Proofs.YtpmbdcljphpcnaaDoorW.PrintMore
attribute [local go_sem] max2_int min2_int max_two min_two max_three min_three max_four min_four   -- for this text's walks alone
set_option linter.unusedVariables false
set_option linter.unusedSimpArgs false

/-! ### bosunref02_Take: function 51 -/
def bosunref02_Take.j0 : Nat → Int → Bool → ByteArray → Int → Option (ByteArray × Int × Int)
 | 0,_,_,_,_=>none
 | k + 1,x1,x23,x229000,x229001=>if x23 = true then (some (x229000,7,0)) else (if (x229000.size : Int) < x1 then (some (x229000,1,0)) else (if 0 ≤ x1 then (if x1 ≤ (x229000.size : Int) then ((bosunref02_number.f k (x229000.extract 0 (x1 : Int).toNat)).bind fun t230=>(some (x229000.extract (x1 : Int).toNat x229000.size,0,t230))) else (none)) else (none)))
def bosunref02_Take.f (k : Nat) (a0_0 : ByteArray) (a0_1 : Int) (a1 : Int) : Option (ByteArray × Int × Int):=if a0_1 = 0 then (if a1 = 1 then (bosunref02_Take.j0 k a1 false a0_0 a0_1) else (if a1 = 2 then (bosunref02_Take.j0 k a1 false a0_0 a0_1) else (if a1 = 4 then (bosunref02_Take.j0 k a1 false a0_0 a0_1) else (bosunref02_Take.j0 k a1 (a1 != 8) a0_0 a0_1)))) else (some (a0_0,a0_1,0))
theorem bosunref02_Take.mono_l : ∀ k,(∀ y0 y1 y2 y3,LeO (bosunref02_Take.j0 k y0 y1 y2 y3) (bosunref02_Take.j0 (k + 1) y0 y1 y2 y3))
 | 0=>fun _ _ _ _ r h=>by simp [bosunref02_Take.j0] at h
 | k + 1=>by
  have ih0:=bosunref02_Take.mono_l k
  ·intro y0 y1 y2 y3
   unfold bosunref02_Take.j0
   repeat' first
   | (with_reducible exact ih0 _ _ _ _)
   | (with_reducible exact bosunref02_number.mono _ _)
   | (with_reducible exact LeO.refl _)
   | (with_reducible exact LeO.none _)
   | (with_reducible refine LeO.ite ?_ ?_)
   | (with_reducible refine LeO.bind ?_ (fun _=>?_))
   | exact ih0 _ _ _ _
   | exact bosunref02_number.mono _ _
   | exact LeO.none _
   | refine LeO.ite ?_ ?_
   | refine LeO.bind ?_ (fun _=>?_)
theorem bosunref02_Take.mono : ∀ a0 a1 a2 k,LeO (bosunref02_Take.f k a0 a1 a2) (bosunref02_Take.f (k + 1) a0 a1 a2):=by
 intro a0 a1 a2 k
 have ih0:=bosunref02_Take.mono_l k
 unfold bosunref02_Take.f
 repeat' first
   | (with_reducible exact ih0 _ _ _ _)
   | (with_reducible exact bosunref02_number.mono _ _)
   | (with_reducible exact LeO.refl _)
   | (with_reducible exact LeO.none _)
   | (with_reducible refine LeO.ite ?_ ?_)
   | (with_reducible refine LeO.bind ?_ (fun _=>?_))
   | exact ih0 _ _ _ _
   | exact bosunref02_number.mono _ _
   | exact LeO.none _
   | refine LeO.ite ?_ ?_
   | refine LeO.bind ?_ (fun _=>?_)
def bosunref02_Take.T9 : Bool × List (List Nat × List Nat):=(true,[([],[]),([0],[0]),([],[]),([1,2],[1,2]),([3],[3]),([],[]),([5],[5]),([],[]),([6,7],[6,7]),([8],[8]),([4,9,0,1,2,3,4],[4]),([9,10,0,1,2,3,4,5,6,7,8,9,10],[9])])
def bosunref02_Take.B9 : List Nat:=[0,1,0,7,15,0,32,0,224,480,1023,2047]
theorem bosunref02_Take.tab9 : rtab .any (opsOf Tryd.f51 9) = bosunref02_Take.T9:=by kernel_rfl
theorem bosunref02_Take.bits9 : waitsOk bosunref02_Take.T9.2 bosunref02_Take.B9 = true:=by kernel_rfl
set_option maxHeartbeats 8000000 in
set_option maxRecDepth 100000 in
theorem bosunref02_Take.calls (k : Nat) (a0_0 : ByteArray) (a0_1 : Int) (a1 : Int) (r1 : ByteArray) (r2 : Int) (r3 : Int) (w : World) (h : bosunref02_Take.f k a0_0 a0_1 a1 = some (r1,r2,r3)) :
  Calls Tryd.prog 51 #[.agg #[.string a0_0,.int .i64 a0_1],.int .i64 a1] w fun e w'=>e = .returned (.tuple #[.agg #[.string r1,.int .i64 r2],.int .u64 r3]) ∧ Below w.heap.size w w':=by
 have hu89:=Tryd.underlying89
 have HB:=Aside0.mk (Below.refl w.heap.size w)
 have H : (if a0_1 = 0 then (if a1 = 1 then (bosunref02_Take.j0 k a1 false a0_0 a0_1) else (if a1 = 2 then (bosunref02_Take.j0 k a1 false a0_0 a0_1) else (if a1 = 4 then (bosunref02_Take.j0 k a1 false a0_0 a0_1) else (bosunref02_Take.j0 k a1 (a1 != 8) a0_0 a0_1)))) else (some (a0_0,a0_1,0))) = some (r1,r2,r3):=h
 clear h
 by_cases c3 : a0_1 = 0
 ·rw [if_pos c3] at H
  have c3b0 : (a0_1 == 0) = true:=beq_iff_eq.mpr c3
  have c3b1 : (a0_1 != 0) = false:=bne_eq_false_iff_eq.mpr c3
  clear c3
  have HC4:=Aside0.mk H
  clear H
  go_enter Tryd.func51,Tryd.ntmps51
  go_upto_region 3 with (first|((with_reducible refine gate_dst (N:=2) rfl ?_);refine box_event ?hg (N:=2) ?hd (cs:=#[.string a0_0,.int .i64 a0_1]) (t:=89) ?hr ?_;(case hd=>rfl);(case hg=>rfl);(case hr=>first|(go_simp;done)|(go_simp;rfl));intro gb228 hg w5 hbox hb;have n0_:=Aside0.mk (below_step (by repeat (first|(with_reducible first|exact HB.out|apply below_alloc|apply pw_below_drewN|apply below_drew1)|exact HB.out)) hb);have n1_:=Aside0.mk (hbox);have n2_:=Aside0.mk ((by rw [hg];exact (below_size (by repeat (first|(with_reducible first|exact HB.out|apply below_alloc|apply pw_below_drewN|apply below_drew1)|exact HB.out))) : w.heap.size ≤ gb228));have n3_:=Aside0.mk ((by rw [hg];exact (below_size (by repeat (first|(with_reducible first|exact HB.out|apply below_alloc|apply pw_below_drewN|apply below_drew1)|exact HB.out))) : w.heap.size ≤ gb228));clear HB;have HB:=n0_;have BK228:=n1_;have GW228:=n2_;have GE228:=n3_;clear n0_ n1_ n2_ n3_;clear hb hbox hg)|((with_reducible refine gate_dst (N:=4) rfl ?_);refine box_event ?hg (N:=4) ?hd (cs:=#[.string (⟨#[]⟩ : ByteArray),.int .i64 0]) (t:=89) ?hr ?_;(case hd=>rfl);(case hg=>rfl);(case hr=>first|(go_simp;done)|(go_simp;rfl));intro gb229 hg w6 hbox hb;have n0_:=Aside0.mk (blk_below (g:=gb228) (o:=.cells #[.string a0_0,.int .i64 a0_1] 89 (0,0)) (by (with_reducible repeat (first|apply blk_drewN|apply blk_drew|apply blk_alloc));exact BK228.out) hb);have n1_:=Aside0.mk (below_step (by repeat (first|(with_reducible first|exact HB.out|apply below_alloc|apply pw_below_drewN|apply below_drew1|refine below_set ?_ GE228.out)|exact HB.out)) hb);have n2_:=Aside0.mk (hbox);have n3_:=Aside0.mk ((by rw [hg];exact (below_size (by repeat (first|(with_reducible first|exact HB.out|apply below_alloc|apply pw_below_drewN|apply below_drew1|refine below_set ?_ GE228.out)|exact HB.out))) : w.heap.size ≤ gb229));have n4_:=Aside0.mk ((by rw [hg];exact (below_size (by repeat (first|(with_reducible first|exact HB.out|apply below_alloc|apply pw_below_drewN|apply below_drew1|refine below_set ?_ GE228.out)|exact HB.out))) : w.heap.size ≤ gb229));have n5_:=Aside0.mk ((by rw [hg];exact Nat.ne_of_lt (blk_lt (g:=gb228) (o:=.cells #[.string a0_0,.int .i64 a0_1] 89 (0,0)) (by (with_reducible repeat (first|apply blk_drewN|apply blk_drew|apply blk_alloc));exact BK228.out)) : gb228 ≠ gb229));have n6_:=Aside0.mk ((by rw [hg];exact Nat.ne_of_gt (blk_lt (g:=gb228) (o:=.cells #[.string a0_0,.int .i64 a0_1] 89 (0,0)) (by (with_reducible repeat (first|apply blk_drewN|apply blk_drew|apply blk_alloc));exact BK228.out)) : gb229 ≠ gb228));clear BK228;clear HB;have BK228:=n0_;have HB:=n1_;have BK229:=n2_;have GW229:=n3_;have GE229:=n4_;have NB228_229:=n5_;have NB229_228:=n6_;clear n0_ n1_ n2_ n3_ n4_ n5_ n6_;clear hb hbox hg;have hnb7:=NB228_229.out;have hnc7:=NB229_228.out;have hcz8_0 : w6.cell? ⟨gb228,0,none⟩ = some (.string a0_0):=(blk_cell BK228.out 0).trans rfl;have hcz8_1 : w6.cell? ⟨gb228,1,none⟩ = some (.int .i64 a0_1):=(blk_cell BK228.out 1).trans rfl;have hfz8_0:=blk_frozen BK228.out 0;have hfz8_1:=blk_frozen BK228.out 1))
  (try simp only [Act.put,List.setIfInBounds_toArray,List.set_cons_zero,List.set_cons_succ])
  go_cut [23] (fun v23 wc=>∃ (kq : Nat) (x23_3 : Bool),v23 = .bool x23_3 ∧ Aside0 (bosunref02_Take.j0 kq a1 x23_3 a0_0 a0_1 = some (r1,r2,r3)) ∧ Aside0 (kq ≤ k) ∧ Aside0 (wc.heap[gb228]? = some (.cells #[.string a0_0,.int .i64 a0_1] 89 (0,0))) ∧ Aside0 (wc.heap[gb229]? = some (.cells #[.string (⟨#[]⟩ : ByteArray),.int .i64 0] 89 (0,0))) ∧ Aside0 (Below w.heap.size w wc))
  case first =>
   have H:=HC4.out
   clear HC4
   by_cases c9 : a1 = 1
   ·rw [if_pos c9] at H
    have c9b0 : (a1 == 1) = true:=beq_iff_eq.mpr c9
    have c9b1 : (a1 != 1) = false:=bne_eq_false_iff_eq.mpr c9
    clear c9
    (first|rw [c9b0]|(simp only [i64_w,i32_w];rw [c9b0])|skip)
    have H':=Aside0.mk H
    clear H
    go_wp2
    go_meet
    case rel=>exact ⟨_,(false),(by first|rfl|(simp;done)|(simp [*];done)),H',⟨by first|omega|exact Nat.le_refl _⟩,⟨by (with_reducible repeat (first|apply blk_drewN|apply blk_drew|apply blk_alloc));exact BK228.out⟩,⟨by (with_reducible repeat (first|apply blk_drewN|apply blk_drew|apply blk_alloc));exact BK229.out⟩,⟨by repeat (first|(with_reducible first|exact HB.out|apply below_alloc|apply pw_below_drewN|apply below_drew1|refine below_set ?_ GE228.out|refine below_set ?_ GE229.out)|exact HB.out)⟩⟩
   ·rw [if_neg c9] at H
    have c9b0 : (a1 == 1) = false:=beq_eq_false_iff_ne.mpr c9
    have c9b1 : (a1 != 1) = true:=bne_iff_ne.mpr c9
    (first|rw [c9b0]|(simp only [i64_w,i32_w];rw [c9b0])|skip)
    by_cases c10 : a1 = 2
    ·rw [if_pos c10] at H
     have c10b0 : (a1 == 2) = true:=beq_iff_eq.mpr c10
     have c10b1 : (a1 != 2) = false:=bne_eq_false_iff_eq.mpr c10
     clear c10
     have H':=Aside0.mk H
     clear H
     go_wp2
     go_meet
     case rel=>exact ⟨_,(false),(by first|rfl|(simp;done)|(simp [*];done)),H',⟨by first|omega|exact Nat.le_refl _⟩,⟨by (with_reducible repeat (first|apply blk_drewN|apply blk_drew|apply blk_alloc));exact BK228.out⟩,⟨by (with_reducible repeat (first|apply blk_drewN|apply blk_drew|apply blk_alloc));exact BK229.out⟩,⟨by repeat (first|(with_reducible first|exact HB.out|apply below_alloc|apply pw_below_drewN|apply below_drew1|refine below_set ?_ GE228.out|refine below_set ?_ GE229.out)|exact HB.out)⟩⟩
    ·rw [if_neg c10] at H
     have c10b0 : (a1 == 2) = false:=beq_eq_false_iff_ne.mpr c10
     have c10b1 : (a1 != 2) = true:=bne_iff_ne.mpr c10
     by_cases c11 : a1 = 4
     ·rw [if_pos c11] at H
      have c11b0 : (a1 == 4) = true:=beq_iff_eq.mpr c11
      have c11b1 : (a1 != 4) = false:=bne_eq_false_iff_eq.mpr c11
      clear c11
      have H':=Aside0.mk H
      clear H
      go_wp2
      go_meet
      case rel=>exact ⟨_,(false),(by first|rfl|(simp;done)|(simp [*];done)),H',⟨by first|omega|exact Nat.le_refl _⟩,⟨by (with_reducible repeat (first|apply blk_drewN|apply blk_drew|apply blk_alloc));exact BK228.out⟩,⟨by (with_reducible repeat (first|apply blk_drewN|apply blk_drew|apply blk_alloc));exact BK229.out⟩,⟨by repeat (first|(with_reducible first|exact HB.out|apply below_alloc|apply pw_below_drewN|apply below_drew1|refine below_set ?_ GE228.out|refine below_set ?_ GE229.out)|exact HB.out)⟩⟩
     ·rw [if_neg c11] at H
      have c11b0 : (a1 == 4) = false:=beq_eq_false_iff_ne.mpr c11
      have c11b1 : (a1 != 4) = true:=bne_iff_ne.mpr c11
      have H':=Aside0.mk H
      clear H
      go_wp2
      go_meet
      case rel=>exact ⟨_,((a1 != 8)),(by first|rfl|(simp;done)|(simp [*];done)),H',⟨by first|omega|exact Nat.le_refl _⟩,⟨by (with_reducible repeat (first|apply blk_drewN|apply blk_drew|apply blk_alloc));exact BK228.out⟩,⟨by (with_reducible repeat (first|apply blk_drewN|apply blk_drew|apply blk_alloc));exact BK229.out⟩,⟨by repeat (first|(with_reducible first|exact HB.out|apply below_alloc|apply pw_below_drewN|apply below_drew1|refine below_set ?_ GE228.out|refine below_set ?_ GE229.out)|exact HB.out)⟩⟩
  case rest =>
   clear HC4
   try clear c1
   try clear p2
   try clear c3
   try clear c3b0
   try clear c3b1
   try clear c5
   try clear c7
   try clear c9
   try clear c9b0
   try clear c9b1
   try clear c10
   try clear c10b0
   try clear c10b1
   try clear c11
   try clear c11b0
   try clear c11b1
   try clear hcz8_0
   try clear hcz8_1
   try clear hfz8_0
   try clear hfz8_1
   obtain ⟨kq,x23_3,rfl,HA,HJ3,BK228,BK229,HB⟩:=hcut
   cases kq with
   | zero=>exact absurd HA.out (by simp [bosunref02_Take.j0])
   | succ kj3 =>
    have H:=HA.out
    clear HA
    simp only [bosunref02_Take.j0] at H
    by_cases c12 : x23_3 = true
    ·subst c12
     have H1 : (some (a0_0,7,0)) = some (r1,r2,r3):=by rw [if_pos rfl] at H;exact H
     clear H
     have H:=H1
     clear H1
     simp only [Option.some.injEq,Prod.mk.injEq] at H
     obtain ⟨rfl,rfl,rfl⟩:=H
     have hnb13:=NB228_229.out
     have hnc13:=NB229_228.out
     have hcz14_0 : wc.cell? ⟨gb228,0,none⟩ = some (.string a0_0):=(blk_cell BK228.out 0).trans rfl
     have hcz14_1 : wc.cell? ⟨gb228,1,none⟩ = some (.int .i64 a0_1):=(blk_cell BK228.out 1).trans rfl
     have hfz14_0:=blk_frozen BK228.out 0
     have hfz14_1:=blk_frozen BK228.out 1
     have hcz15_0 : wc.cell? ⟨gb229,0,none⟩ = some (.string (⟨#[]⟩ : ByteArray)):=(blk_cell BK229.out 0).trans rfl
     have hcz15_1 : wc.cell? ⟨gb229,1,none⟩ = some (.int .i64 0):=(blk_cell BK229.out 1).trans rfl
     have hfz15_0:=blk_frozen BK229.out 0
     have hfz15_1:=blk_frozen BK229.out 1
     go_wp2
     refine bodyPost_ret (results_ct rfl _ _ gb229 89 #[.string a0_0,.int .i64 7] (0,0) _ rfl (by (with_reducible repeat (first|apply blk_drewN|apply blk_drew|apply blk_alloc));refine blk_put (cs:=#[.string a0_0,.int .i64 0]) ?_ 1 _ rfl;(with_reducible repeat (first|apply blk_drewN|apply blk_drew|apply blk_alloc));refine blk_put (cs:=#[.string (⟨#[]⟩ : ByteArray),.int .i64 0]) ?_ 0 _ rfl;(with_reducible repeat (first|apply blk_drewN|apply blk_drew|apply blk_alloc));refine blk_far ?_ NB229_228.out _;(with_reducible repeat (first|apply blk_drewN|apply blk_drew|apply blk_alloc));exact BK229.out) Tryd.underlying89 rfl (by kernel_rfl)) rfl ?_
     exact ⟨by first|rfl|(simp [errW_none,errW_some] <;> rfl)|(simp [*,errW_none,errW_some] <;> rfl),by repeat (first|(with_reducible first|exact HB.out|apply below_alloc|apply pw_below_drewN|apply below_drew1|refine below_set ?_ GE228.out|refine below_set ?_ GE229.out)|exact HB.out)⟩
    ·replace c12:=Bool.eq_false_iff.mpr c12
     subst c12
     have H1 : (if (a0_0.size : Int) < a1 then (some (a0_0,1,0)) else (if 0 ≤ a1 then (if a1 ≤ (a0_0.size : Int) then ((bosunref02_number.f kj3 (a0_0.extract 0 (a1 : Int).toNat)).bind fun t230=>(some (a0_0.extract (a1 : Int).toNat a0_0.size,0,t230))) else (none)) else (none))) = some (r1,r2,r3):=by rw [if_neg (show ¬ (false = true) by decide)] at H;exact H
     clear H
     have H:=H1
     clear H1
     by_cases c16 : (a0_0.size : Int) < a1
     ·rw [if_pos c16] at H
      have c16b0 : decide ((a0_0.size : Int) < a1) = true:=decide_eq_true c16
      clear c16
      simp only [Option.some.injEq,Prod.mk.injEq] at H
      obtain ⟨rfl,rfl,rfl⟩:=H
      have hnb17:=NB228_229.out
      have hnc17:=NB229_228.out
      have hcz18_0 : wc.cell? ⟨gb228,0,none⟩ = some (.string a0_0):=(blk_cell BK228.out 0).trans rfl
      have hcz18_1 : wc.cell? ⟨gb228,1,none⟩ = some (.int .i64 a0_1):=(blk_cell BK228.out 1).trans rfl
      have hfz18_0:=blk_frozen BK228.out 0
      have hfz18_1:=blk_frozen BK228.out 1
      have hcz19_0 : wc.cell? ⟨gb229,0,none⟩ = some (.string (⟨#[]⟩ : ByteArray)):=(blk_cell BK229.out 0).trans rfl
      have hcz19_1 : wc.cell? ⟨gb229,1,none⟩ = some (.int .i64 0):=(blk_cell BK229.out 1).trans rfl
      have hfz19_0:=blk_frozen BK229.out 0
      have hfz19_1:=blk_frozen BK229.out 1
      go_wp2
      refine bodyPost_ret (results_ct rfl _ _ gb229 89 #[.string a0_0,.int .i64 1] (0,0) _ rfl (by (with_reducible repeat (first|apply blk_drewN|apply blk_drew|apply blk_alloc));refine blk_put (cs:=#[.string a0_0,.int .i64 0]) ?_ 1 _ rfl;(with_reducible repeat (first|apply blk_drewN|apply blk_drew|apply blk_alloc));refine blk_put (cs:=#[.string (⟨#[]⟩ : ByteArray),.int .i64 0]) ?_ 0 _ rfl;(with_reducible repeat (first|apply blk_drewN|apply blk_drew|apply blk_alloc));refine blk_far ?_ NB229_228.out _;(with_reducible repeat (first|apply blk_drewN|apply blk_drew|apply blk_alloc));exact BK229.out) Tryd.underlying89 rfl (by kernel_rfl)) rfl ?_
      exact ⟨by first|rfl|(simp [errW_none,errW_some] <;> rfl)|(simp [*,errW_none,errW_some] <;> rfl),by repeat (first|(with_reducible first|exact HB.out|apply below_alloc|apply pw_below_drewN|apply below_drew1|refine below_set ?_ GE228.out|refine below_set ?_ GE229.out)|exact HB.out)⟩
     ·rw [if_neg c16] at H
      have c16b0 : decide ((a0_0.size : Int) < a1) = false:=decide_eq_false c16
      clear c16
      by_cases c20 : 0 ≤ a1
      ·rw [if_pos c20] at H
       have c20b0:=eq_true c20
       have c20b1 : decide (0 ≤ a1) = true:=decide_eq_true c20
       clear c20
       by_cases c21 : a1 ≤ (a0_0.size : Int)
       ·rw [if_pos c21] at H
        have c21b0:=eq_true c21
        have c21b1 : decide (a1 ≤ (a0_0.size : Int)) = true:=decide_eq_true c21
        clear c21
        have c22b0:=eq_true (of_decide_eq_true (by first|(with_reducible assumption)|assumption) : 0 ≤ a1)
        have c23b0:=eq_true (of_decide_eq_true (by first|(with_reducible assumption)|assumption) : a1 ≤ (a0_0.size : Int))
        replace H:=Option.bind_eq_some_iff.mp H
        obtain ⟨t230,A240,H⟩:=H
        replace H : (some (a0_0.extract (a1 : Int).toNat a0_0.size,0,t230)) = some (r1,r2,r3):=H
        have A24:=Aside0.mk A240
        clear A240
        simp only [Option.some.injEq,Prod.mk.injEq] at H
        obtain ⟨rfl,rfl,rfl⟩:=H
        have hnb25:=NB228_229.out
        have hnc25:=NB229_228.out
        have hcz26_0 : wc.cell? ⟨gb228,0,none⟩ = some (.string a0_0):=(blk_cell BK228.out 0).trans rfl
        have hcz26_1 : wc.cell? ⟨gb228,1,none⟩ = some (.int .i64 a0_1):=(blk_cell BK228.out 1).trans rfl
        have hfz26_0:=blk_frozen BK228.out 0
        have hfz26_1:=blk_frozen BK228.out 1
        try go_wp2
        have n0_:=Aside0.mk (blk_drew BK228.out)
        have n1_:=Aside0.mk (blk_drew BK229.out)
        have n2_:=Aside0.mk (below_drew1 HB.out)
        clear BK228
        clear BK229
        clear HB
        have BK228:=n0_
        have BK229:=n1_
        have HB:=n2_
        clear n0_ n1_ n2_
        refine start_ (n:=12) (S:=fun w'=>w'.cell? ⟨gb228,0,none⟩ = some (.string a0_0) ∧ w'.cell? ⟨gb228,1,none⟩ = some (.int .i64 a0_1)) (ds:=[]) #[false,false,false,false,false,false,false,false,false,false,false,false] (by kernel_rfl) rfl rfl ⟨(blk_cell BK228.out 0).trans rfl,(blk_cell BK228.out 1).trans rfl⟩ (fun hHeld=>?_);refine with_tabW bosunref02_Take.tab9 bosunref02_Take.bits9 (fun HT_ HW_=>?_)
        generalize wc.drew = w27 at BK228 BK229 HB hHeld ⊢
        refine pure_ (i:=0) (N:=some 33) (v:=?_) (a':=?_) #[true,false,false,false,false,false,false,false,false,false,false,false] rfl rfl (any_of HT_.out (by kernel_rfl)) (fun _ _ _ h=>h) (Or.inl ⟨by rfl,?_⟩) ?_ ?_
        rotate_left
        ·intro w'
         go_simp
         with_reducible rfl
        rotate_left
        ·simp only [Act.put,List.setIfInBounds_toArray,List.set_cons_zero,List.set_cons_succ,i64_w,i32_w]
         rfl
        refine pure_ (i:=2) (N:=some 35) (v:=?_) (a':=?_) #[true,false,true,false,false,false,false,false,false,false,false,false] rfl rfl (any_of HT_.out (by kernel_rfl)) (fun _ _ _ h=>h) (Or.inl ⟨by rfl,?_⟩) ?_ ?_
        rotate_left
        ·intro w'
         go_simp
         with_reducible rfl
        rotate_left
        ·simp only [Act.put,List.setIfInBounds_toArray,List.set_cons_zero,List.set_cons_succ,i64_w,i32_w]
         rfl
        refine pure_ (i:=5) (N:=some 38) (v:=?_) (a':=?_) #[true,false,true,false,false,true,false,false,false,false,false,false] rfl rfl (any_of HT_.out (by kernel_rfl)) (fun _ _ _ h=>h) (Or.inl ⟨by rfl,?_⟩) ?_ ?_
        rotate_left
        ·intro w'
         go_simp
         with_reducible rfl
        rotate_left
        ·simp only [Act.put,List.setIfInBounds_toArray,List.set_cons_zero,List.set_cons_succ,i64_w,i32_w]
         rfl
        refine pure_ (i:=7) (N:=some 40) (v:=?_) (a':=?_) #[true,false,true,false,false,true,false,true,false,false,false,false] rfl rfl (any_of HT_.out (by kernel_rfl)) (fun _ _ _ h=>h) (Or.inl ⟨by rfl,?_⟩) ?_ ?_
        rotate_left
        ·intro w'
         go_simp
         with_reducible rfl
        rotate_left
        ·simp only [Act.put,List.setIfInBounds_toArray,List.set_cons_zero,List.set_cons_succ,i64_w,i32_w]
         rfl
        refine take_ (i:=1) (N:=some 34) (v:=?_) (a':=?_) #[true,true,true,false,false,true,false,true,false,false,false,false] rfl rfl (take_ofW HT_.out HW_.out (by kernel_rfl)) (fun _ _ _ h=>h) (Or.inl ⟨by rfl,?_⟩) hHeld ?_ ?_
        rotate_left
        ·rintro w' ⟨s0,s1⟩
         go_simp
         with_reducible rfl
        rotate_left
        ·simp only [Act.put,List.setIfInBounds_toArray,List.set_cons_zero,List.set_cons_succ,i64_w,i32_w]
         rfl
        refine pure_ (i:=3) (N:=some 36) (v:=?_) (a':=?_) #[true,true,true,true,false,true,false,true,false,false,false,false] rfl rfl (any_of HT_.out (by kernel_rfl)) (fun _ _ _ h=>h) (Or.inl ⟨by rfl,?_⟩) ?_ ?_
        rotate_left
        ·intro w'
         go_simp
         with_reducible rfl
        rotate_left
        ·simp only [Act.put,List.setIfInBounds_toArray,List.set_cons_zero,List.set_cons_succ,i64_w,i32_w]
         rfl
        refine pure_ (i:=4) (N:=some 37) (v:=?_) (a':=?_) #[true,true,true,true,true,true,false,true,false,false,false,false] rfl rfl (any_of HT_.out (by kernel_rfl)) (fun _ _ _ h=>h) (Or.inl ⟨by rfl,?_⟩) ?_ ?_
        rotate_left
        ·intro w'
         go_simp
         with_reducible rfl
        rotate_left
        ·simp only [Act.put,List.setIfInBounds_toArray,List.set_cons_zero,List.set_cons_succ,i64_w,i32_w]
         rfl
        refine take_ (i:=6) (N:=some 39) (v:=?_) (a':=?_) #[true,true,true,true,true,true,true,true,false,false,false,false] rfl rfl (take_ofW HT_.out HW_.out (by kernel_rfl)) (fun _ _ _ h=>h) (Or.inl ⟨by rfl,?_⟩) hHeld ?_ ?_
        rotate_left
        ·rintro w' ⟨s0,s1⟩
         go_simp
         with_reducible rfl
        rotate_left
        ·simp only [Act.put,List.setIfInBounds_toArray,List.set_cons_zero,List.set_cons_succ,i64_w,i32_w]
         rfl
        refine pure_ (i:=8) (N:=some 41) (v:=?_) (a':=?_) #[true,true,true,true,true,true,true,true,true,false,false,false] rfl rfl (any_of HT_.out (by kernel_rfl)) (fun _ _ _ h=>h) (Or.inl ⟨by rfl,?_⟩) ?_ ?_
        rotate_left
        ·intro w'
         go_simp
         with_reducible rfl
        rotate_left
        ·simp only [Act.put,List.setIfInBounds_toArray,List.set_cons_zero,List.set_cons_succ,i64_w,i32_w]
         rfl
        refine one_ (i:=9) (N:=some 42) #[true,true,true,true,true,true,true,true,true,true,false,false] rfl rfl (one_of HT_.out (by kernel_rfl)) (by decide) (fun K hK=>?_)
        refine goes_ Tryd.func79 (by kernel_rfl) rfl #[.string (a0_0.extract 0 (a1 : Int).toNat)] (by rfl) rfl rfl (by (try simp only [List.map_toArray,List.map_cons,List.map_nil]);first|done|rfl|(simp only [List.length_drop,List.length_take];rfl)) ?_
        with_reducible refine (bosunref02_number.calls kj3 (a0_0.extract 0 (a1 : Int).toNat) t230 _ A24.out).mono ?_
        rintro e w' ⟨rfl,⟨nd,rfl⟩⟩
        refine ⟨_,rfl,?_⟩
        refine hK.out _ _ ⟨(blk_cell BK228.out 0).trans rfl,(blk_cell BK228.out 1).trans rfl⟩ (fun hHeld=>?_)
        clear hK K
        refine norm_ (a':=?_) ?_ ?_
        rotate_left
        ·show Act.put _ (some 42) _ = _
         simp only [Act.put,List.setIfInBounds_toArray,List.set_cons_zero,List.set_cons_succ,i64_w,i32_w]
         rfl
        refine one_ (i:=10) (N:=none) #[true,true,true,true,true,true,true,true,true,true,true,false] rfl rfl (one_of HT_.out (by kernel_rfl)) (by decide) (fun K hK=>?_)
        have hs28 : w27.cell? ⟨gb229,0,none⟩ = some (.string (⟨#[]⟩ : ByteArray)):=(blk_cell BK229.out 0).trans rfl
        have hfs28:=blk_frozen BK229.out 0
        have hns28_0:=NB228_229.out
        have hms28_0:=NB229_228.out
        have hs29 : w27.cell? ⟨gb229,1,none⟩ = some (.int .i64 0):=(blk_cell BK229.out 1).trans rfl
        have hfs29:=blk_frozen BK229.out 1
        have hns29_0:=NB228_229.out
        have hms29_0:=NB229_228.out
        refine skip_ (w1:=?_) (by rfl) rfl ?_ ?_
        rotate_left
        ·go_simp
         rfl
        refine hK.out _ _ ⟨((cell_far (p:=⟨gb229,_,none⟩) NB228_229.out _).trans (((cell_far (p:=⟨gb229,_,none⟩) NB228_229.out _).trans (hHeld.1)))),((cell_far (p:=⟨gb229,_,none⟩) NB228_229.out _).trans (((cell_far (p:=⟨gb229,_,none⟩) NB228_229.out _).trans (hHeld.2))))⟩ (fun hHeld=>?_)
        clear hK K
        refine pure_ (i:=11) (N:=some 5) (v:=?_) (a':=?_) #[true,true,true,true,true,true,true,true,true,true,true,true] rfl rfl (any_of HT_.out (by kernel_rfl)) (fun _ _ _ h=>h) (Or.inl ⟨by rfl,?_⟩) ?_ ?_
        rotate_left
        ·intro w'
         go_simp
         with_reducible rfl
        rotate_left
        ·simp only [Act.put,List.setIfInBounds_toArray,List.set_cons_zero,List.set_cons_succ,i64_w,i32_w]
         rfl
        refine done_ (done_of HT_.out (by kernel_rfl)) ?_
        try go_wp2
        refine bodyPost_ret (results_ct rfl _ _ gb229 89 #[.string (a0_0.extract (a1 : Int).toNat a0_0.size),.int .i64 0] (0,0) _ rfl (by (with_reducible repeat (first|apply blk_drewN|apply blk_drew|apply blk_alloc));refine blk_put (cs:=#[.string (a0_0.extract (a1 : Int).toNat a0_0.size),.int .i64 0]) ?_ 1 _ rfl;(with_reducible repeat (first|apply blk_drewN|apply blk_drew|apply blk_alloc));refine blk_put (cs:=#[.string (⟨#[]⟩ : ByteArray),.int .i64 0]) ?_ 0 _ rfl;(with_reducible repeat (first|apply blk_drewN|apply blk_drew|apply blk_alloc));exact BK229.out) Tryd.underlying89 rfl (by kernel_rfl)) rfl ?_
        exact ⟨by first|rfl|(simp [errW_none,errW_some] <;> rfl)|(simp [*,errW_none,errW_some] <;> rfl),by repeat (first|(with_reducible first|exact HB.out|apply below_alloc|apply pw_below_drewN|apply below_drew1|refine below_set ?_ GE228.out|refine below_set ?_ GE229.out)|exact HB.out)⟩
       ·rw [if_neg c21] at H
        exact absurd H (by simp)
      ·rw [if_neg c20] at H
       exact absurd H (by simp)
 ·rw [if_neg c3] at H
  have c3b0 : (a0_1 == 0) = false:=beq_eq_false_iff_ne.mpr c3
  have c3b1 : (a0_1 != 0) = true:=bne_iff_ne.mpr c3
  simp only [Option.some.injEq,Prod.mk.injEq] at H
  obtain ⟨rfl,rfl,rfl⟩:=H
  go_enter Tryd.func51,Tryd.ntmps51
  go_wp2_with (first|((with_reducible refine gate_dst (N:=2) rfl ?_);refine box_event ?hg (N:=2) ?hd (cs:=#[.string a0_0,.int .i64 a0_1]) (t:=89) ?hr ?_;(case hd=>rfl);(case hg=>rfl);(case hr=>first|(go_simp;done)|(go_simp;rfl));intro gb228 hg w30 hbox hb;have n0_:=Aside0.mk (below_step (by repeat (first|(with_reducible first|exact HB.out|apply below_alloc|apply pw_below_drewN|apply below_drew1)|exact HB.out)) hb);have n1_:=Aside0.mk (hbox);have n2_:=Aside0.mk ((by rw [hg];exact (below_size (by repeat (first|(with_reducible first|exact HB.out|apply below_alloc|apply pw_below_drewN|apply below_drew1)|exact HB.out))) : w.heap.size ≤ gb228));have n3_:=Aside0.mk ((by rw [hg];exact (below_size (by repeat (first|(with_reducible first|exact HB.out|apply below_alloc|apply pw_below_drewN|apply below_drew1)|exact HB.out))) : w.heap.size ≤ gb228));clear HB;have HB:=n0_;have BK228:=n1_;have GW228:=n2_;have GE228:=n3_;clear n0_ n1_ n2_ n3_;clear hb hbox hg)|((with_reducible refine gate_dst (N:=4) rfl ?_);refine box_event ?hg (N:=4) ?hd (cs:=#[.string (⟨#[]⟩ : ByteArray),.int .i64 0]) (t:=89) ?hr ?_;(case hd=>rfl);(case hg=>rfl);(case hr=>first|(go_simp;done)|(go_simp;rfl));intro gb229 hg w31 hbox hb;have n0_:=Aside0.mk (blk_below (g:=gb228) (o:=.cells #[.string a0_0,.int .i64 a0_1] 89 (0,0)) (by (with_reducible repeat (first|apply blk_drewN|apply blk_drew|apply blk_alloc));exact BK228.out) hb);have n1_:=Aside0.mk (below_step (by repeat (first|(with_reducible first|exact HB.out|apply below_alloc|apply pw_below_drewN|apply below_drew1|refine below_set ?_ GE228.out)|exact HB.out)) hb);have n2_:=Aside0.mk (hbox);have n3_:=Aside0.mk ((by rw [hg];exact (below_size (by repeat (first|(with_reducible first|exact HB.out|apply below_alloc|apply pw_below_drewN|apply below_drew1|refine below_set ?_ GE228.out)|exact HB.out))) : w.heap.size ≤ gb229));have n4_:=Aside0.mk ((by rw [hg];exact (below_size (by repeat (first|(with_reducible first|exact HB.out|apply below_alloc|apply pw_below_drewN|apply below_drew1|refine below_set ?_ GE228.out)|exact HB.out))) : w.heap.size ≤ gb229));have n5_:=Aside0.mk ((by rw [hg];exact Nat.ne_of_lt (blk_lt (g:=gb228) (o:=.cells #[.string a0_0,.int .i64 a0_1] 89 (0,0)) (by (with_reducible repeat (first|apply blk_drewN|apply blk_drew|apply blk_alloc));exact BK228.out)) : gb228 ≠ gb229));have n6_:=Aside0.mk ((by rw [hg];exact Nat.ne_of_gt (blk_lt (g:=gb228) (o:=.cells #[.string a0_0,.int .i64 a0_1] 89 (0,0)) (by (with_reducible repeat (first|apply blk_drewN|apply blk_drew|apply blk_alloc));exact BK228.out)) : gb229 ≠ gb228));clear BK228;clear HB;have BK228:=n0_;have HB:=n1_;have BK229:=n2_;have GW229:=n3_;have GE229:=n4_;have NB228_229:=n5_;have NB229_228:=n6_;clear n0_ n1_ n2_ n3_ n4_ n5_ n6_;clear hb hbox hg;have hnb32:=NB228_229.out;have hnc32:=NB229_228.out;have hcz33_0 : w31.cell? ⟨gb228,0,none⟩ = some (.string a0_0):=(blk_cell BK228.out 0).trans rfl;have hcz33_1 : w31.cell? ⟨gb228,1,none⟩ = some (.int .i64 a0_1):=(blk_cell BK228.out 1).trans rfl;have hfz33_0:=blk_frozen BK228.out 0;have hfz33_1:=blk_frozen BK228.out 1;have hcz34_0 : w31.cell? ⟨gb229,0,none⟩ = some (.string (⟨#[]⟩ : ByteArray)):=(blk_cell BK229.out 0).trans rfl;have hcz34_1 : w31.cell? ⟨gb229,1,none⟩ = some (.int .i64 0):=(blk_cell BK229.out 1).trans rfl;have hfz34_0:=blk_frozen BK229.out 0;have hfz34_1:=blk_frozen BK229.out 1))
  refine bodyPost_ret (results_ct rfl _ _ gb229 89 #[.string a0_0,.int .i64 a0_1] (0,0) _ rfl (by (with_reducible repeat (first|apply blk_drewN|apply blk_drew|apply blk_alloc));refine blk_put (cs:=#[.string a0_0,.int .i64 0]) ?_ 1 _ rfl;(with_reducible repeat (first|apply blk_drewN|apply blk_drew|apply blk_alloc));refine blk_put (cs:=#[.string (⟨#[]⟩ : ByteArray),.int .i64 0]) ?_ 0 _ rfl;(with_reducible repeat (first|apply blk_drewN|apply blk_drew|apply blk_alloc));exact BK229.out) Tryd.underlying89 rfl (by kernel_rfl)) rfl ?_
  exact ⟨by first|rfl|(simp [errW_none,errW_some] <;> rfl)|(simp [*,errW_none,errW_some] <;> rfl),by repeat (first|(with_reducible first|exact HB.out|apply below_alloc|apply pw_below_drewN|apply below_drew1|refine below_set ?_ GE228.out|refine below_set ?_ GE229.out)|exact HB.out)⟩

/-! ### bosunref02_TakeText: function 52 -/
def bosunref02_TakeText.f (k : Nat) (a0_0 : ByteArray) (a0_1 : Int) : Option (ByteArray × Int × ByteArray):=(bosunref02_Take.f k a0_0 a0_1 2).bind fun bt233=>(if bt233.2.1 = 0 then (if bt233.2.2 > 4096 then (some (a0_0,2,(⟨#[]⟩ : ByteArray))) else (if (bt233.1.size : Int) < (wrap64 (bt233.2.2)) then (some (a0_0,1,(⟨#[]⟩ : ByteArray))) else (if 0 ≤ (wrap64 (bt233.2.2)) then (if (wrap64 (bt233.2.2)) ≤ (bt233.1.size : Int) then (some (bt233.1.extract ((wrap64 (bt233.2.2)) : Int).toNat bt233.1.size,0,bt233.1.extract 0 ((wrap64 (bt233.2.2)) : Int).toNat)) else (none)) else (none)))) else (some (bt233.1,bt233.2.1,(⟨#[]⟩ : ByteArray))))
theorem bosunref02_TakeText.mono : ∀ a0 a1 k,LeO (bosunref02_TakeText.f k a0 a1) (bosunref02_TakeText.f (k + 1) a0 a1):=by
 intro a0 a1 k
 unfold bosunref02_TakeText.f
 repeat' first
   | (with_reducible exact bosunref02_Take.mono _ _ _ _)
   | (with_reducible exact LeO.refl _)
   | (with_reducible exact LeO.none _)
   | (with_reducible refine LeO.ite ?_ ?_)
   | (with_reducible refine LeO.bind ?_ (fun _=>?_))
   | exact bosunref02_Take.mono _ _ _ _
   | exact LeO.none _
   | refine LeO.ite ?_ ?_
   | refine LeO.bind ?_ (fun _=>?_)
def bosunref02_TakeText.T11 : Bool × List (List Nat × List Nat):=(true,[([],[]),([0],[0]),([],[]),([1,2],[1,2]),([3],[3]),([],[]),([5],[5]),([],[]),([6,7],[6,7]),([4,0,1,2,3,4],[4]),([8,9,0,1,2,3,4,5,6,7,8,9],[8])])
def bosunref02_TakeText.B11 : List Nat:=[0,1,0,7,15,0,32,0,224,31,1023]
theorem bosunref02_TakeText.tab11 : rtab .any (opsOf Tryd.f52 11) = bosunref02_TakeText.T11:=by kernel_rfl
theorem bosunref02_TakeText.bits11 : waitsOk bosunref02_TakeText.T11.2 bosunref02_TakeText.B11 = true:=by kernel_rfl
set_option maxHeartbeats 8000000 in
set_option maxRecDepth 100000 in
theorem bosunref02_TakeText.calls (k : Nat) (a0_0 : ByteArray) (a0_1 : Int) (r1 : ByteArray) (r2 : Int) (r3 : ByteArray) (w : World) (h : bosunref02_TakeText.f k a0_0 a0_1 = some (r1,r2,r3)) :
  Calls Tryd.prog 52 #[.agg #[.string a0_0,.int .i64 a0_1]] w fun e w'=>e = .returned (.tuple #[.agg #[.string r1,.int .i64 r2],.string r3]) ∧ Below w.heap.size w w':=by
 have hu89:=Tryd.underlying89
 have HB:=Aside0.mk (Below.refl w.heap.size w)
 have H : ((bosunref02_Take.f k a0_0 a0_1 2).bind fun bt233=>(if bt233.2.1 = 0 then (if bt233.2.2 > 4096 then (some (a0_0,2,(⟨#[]⟩ : ByteArray))) else (if (bt233.1.size : Int) < (wrap64 (bt233.2.2)) then (some (a0_0,1,(⟨#[]⟩ : ByteArray))) else (if 0 ≤ (wrap64 (bt233.2.2)) then (if (wrap64 (bt233.2.2)) ≤ (bt233.1.size : Int) then (some (bt233.1.extract ((wrap64 (bt233.2.2)) : Int).toNat bt233.1.size,0,bt233.1.extract 0 ((wrap64 (bt233.2.2)) : Int).toNat)) else (none)) else (none)))) else (some (bt233.1,bt233.2.1,(⟨#[]⟩ : ByteArray))))) = some (r1,r2,r3):=h
 clear h
 replace H:=Option.bind_eq_some_iff.mp H
 obtain ⟨⟨t233,t234,t235⟩,A20,H⟩:=H
 replace H : (if t234 = 0 then (if t235 > 4096 then (some (a0_0,2,(⟨#[]⟩ : ByteArray))) else (if (t233.size : Int) < (wrap64 (t235)) then (some (a0_0,1,(⟨#[]⟩ : ByteArray))) else (if 0 ≤ (wrap64 (t235)) then (if (wrap64 (t235)) ≤ (t233.size : Int) then (some (t233.extract ((wrap64 (t235)) : Int).toNat t233.size,0,t233.extract 0 ((wrap64 (t235)) : Int).toNat)) else (none)) else (none)))) else (some (t233,t234,(⟨#[]⟩ : ByteArray)))) = some (r1,r2,r3):=H
 have A2:=Aside0.mk A20
 clear A20
 by_cases c3 : t234 = 0
 ·rw [if_pos c3] at H
  have c3b0 : (t234 == 0) = true:=beq_iff_eq.mpr c3
  have c3b1 : (t234 != 0) = false:=bne_eq_false_iff_eq.mpr c3
  clear c3
  by_cases c4 : t235 > 4096
  ·rw [if_pos c4] at H
   have c4b0 : decide (4096 < t235) = true:=decide_eq_true c4
   clear c4
   simp only [Option.some.injEq,Prod.mk.injEq] at H
   obtain ⟨rfl,rfl,rfl⟩:=H
   go_enter Tryd.func52,Tryd.ntmps52
   go_wp2_with (first|((with_reducible refine gate_dst (N:=1) rfl ?_);refine box_event ?hg (N:=1) ?hd (cs:=#[.string a0_0,.int .i64 a0_1]) (t:=89) ?hr ?_;(case hd=>rfl);(case hg=>rfl);(case hr=>first|(go_simp;done)|(go_simp;rfl));intro gb231 hg w5 hbox hb;have n0_:=Aside0.mk (below_step (by repeat (first|(with_reducible first|exact HB.out|apply below_alloc|apply pw_below_drewN|apply below_drew1)|exact HB.out)) hb);have n1_:=Aside0.mk (hbox);have n2_:=Aside0.mk ((by rw [hg];exact (below_size (by repeat (first|(with_reducible first|exact HB.out|apply below_alloc|apply pw_below_drewN|apply below_drew1)|exact HB.out))) : w.heap.size ≤ gb231));have n3_:=Aside0.mk ((by rw [hg];exact (below_size (by repeat (first|(with_reducible first|exact HB.out|apply below_alloc|apply pw_below_drewN|apply below_drew1)|exact HB.out))) : w.heap.size ≤ gb231));clear HB;have HB:=n0_;have BK231:=n1_;have GW231:=n2_;have GE231:=n3_;clear n0_ n1_ n2_ n3_;clear hb hbox hg)|((with_reducible refine gate_dst (N:=2) rfl ?_);refine box_event ?hg (N:=2) ?hd (cs:=#[.string (⟨#[]⟩ : ByteArray),.int .i64 0]) (t:=89) ?hr ?_;(case hd=>rfl);(case hg=>rfl);(case hr=>first|(go_simp;done)|(go_simp;rfl));intro gb232 hg w6 hbox hb;have n0_:=Aside0.mk (blk_below (g:=gb231) (o:=.cells #[.string a0_0,.int .i64 a0_1] 89 (0,0)) (by (with_reducible repeat (first|apply blk_drewN|apply blk_drew|apply blk_alloc));exact BK231.out) hb);have n1_:=Aside0.mk (below_step (by repeat (first|(with_reducible first|exact HB.out|apply below_alloc|apply pw_below_drewN|apply below_drew1|refine below_set ?_ GE231.out)|exact HB.out)) hb);have n2_:=Aside0.mk (hbox);have n3_:=Aside0.mk ((by rw [hg];exact (below_size (by repeat (first|(with_reducible first|exact HB.out|apply below_alloc|apply pw_below_drewN|apply below_drew1|refine below_set ?_ GE231.out)|exact HB.out))) : w.heap.size ≤ gb232));have n4_:=Aside0.mk ((by rw [hg];exact (below_size (by repeat (first|(with_reducible first|exact HB.out|apply below_alloc|apply pw_below_drewN|apply below_drew1|refine below_set ?_ GE231.out)|exact HB.out))) : w.heap.size ≤ gb232));have n5_:=Aside0.mk ((by rw [hg];exact Nat.ne_of_lt (blk_lt (g:=gb231) (o:=.cells #[.string a0_0,.int .i64 a0_1] 89 (0,0)) (by (with_reducible repeat (first|apply blk_drewN|apply blk_drew|apply blk_alloc));exact BK231.out)) : gb231 ≠ gb232));have n6_:=Aside0.mk ((by rw [hg];exact Nat.ne_of_gt (blk_lt (g:=gb231) (o:=.cells #[.string a0_0,.int .i64 a0_1] 89 (0,0)) (by (with_reducible repeat (first|apply blk_drewN|apply blk_drew|apply blk_alloc));exact BK231.out)) : gb232 ≠ gb231));clear BK231;clear HB;have BK231:=n0_;have HB:=n1_;have BK232:=n2_;have GW232:=n3_;have GE232:=n4_;have NB231_232:=n5_;have NB232_231:=n6_;clear n0_ n1_ n2_ n3_ n4_ n5_ n6_;clear hb hbox hg;have hnb7:=NB231_232.out;have hnc7:=NB232_231.out;have hcz8_0 : w6.cell? ⟨gb231,0,none⟩ = some (.string a0_0):=(blk_cell BK231.out 0).trans rfl;have hcz8_1 : w6.cell? ⟨gb231,1,none⟩ = some (.int .i64 a0_1):=(blk_cell BK231.out 1).trans rfl;have hfz8_0:=blk_frozen BK231.out 0;have hfz8_1:=blk_frozen BK231.out 1)|((with_reducible refine gate_callee (f:=51) rfl ?_);refine goesL_ (some 9) rfl rfl Tryd.func51 (by kernel_rfl) rfl #[.agg #[.string a0_0,.int .i64 a0_1],.int .i64 2] rfl (by (try simp only [List.map_toArray,List.map_cons,List.map_nil]);first|done|rfl|(simp only [List.length_drop,List.length_take];rfl)|(simp (disch:=first|omega|(simp at *;omega)) only [u64_id,i64_id,u8_id];rfl)) ?_;(with_reducible refine (bosunref02_Take.calls k a0_0 a0_1 2 t233 t234 t235 _ A2.out).mono ?_);rintro e w9 ⟨rfl,hb⟩;refine ⟨_,rfl,?_⟩;have n0_:=Aside0.mk (blk_below (g:=gb231) (o:=.cells #[.string a0_0,.int .i64 a0_1] 89 (0,0)) (by (with_reducible repeat (first|apply blk_drewN|apply blk_drew|apply blk_alloc));exact BK231.out) hb);have n1_:=Aside0.mk (blk_below (g:=gb232) (o:=.cells #[.string (⟨#[]⟩ : ByteArray),.int .i64 0] 89 (0,0)) (by (with_reducible repeat (first|apply blk_drewN|apply blk_drew|apply blk_alloc));exact BK232.out) hb);have n2_:=Aside0.mk (below_step (by repeat (first|(with_reducible first|exact HB.out|apply below_alloc|apply pw_below_drewN|apply below_drew1|refine below_set ?_ GE231.out|refine below_set ?_ GE232.out)|exact HB.out)) hb);clear BK231;clear BK232;clear HB;have BK231:=n0_;have BK232:=n1_;have HB:=n2_;clear n0_ n1_ n2_;(try clear hb);(try clear hb2);(try clear hk);(try clear hi))|((with_reducible refine gate_dst (N:=4) rfl ?_);refine box_event ?hg (N:=4) ?hd (cs:=#[.string (⟨#[]⟩ : ByteArray),.int .i64 0]) (t:=89) ?hr ?_;(case hd=>rfl);(case hg=>rfl);(case hr=>first|(go_simp;done)|(go_simp;rfl));intro gb236 hg w10 hbox hb;have n0_:=Aside0.mk (blk_below (g:=gb231) (o:=.cells #[.string a0_0,.int .i64 a0_1] 89 (0,0)) (by (with_reducible repeat (first|apply blk_drewN|apply blk_drew|apply blk_alloc));exact BK231.out) hb);have n1_:=Aside0.mk (blk_below (g:=gb232) (o:=.cells #[.string (⟨#[]⟩ : ByteArray),.int .i64 0] 89 (0,0)) (by (with_reducible repeat (first|apply blk_drewN|apply blk_drew|apply blk_alloc));exact BK232.out) hb);have n2_:=Aside0.mk (below_step (by repeat (first|(with_reducible first|exact HB.out|apply below_alloc|apply pw_below_drewN|apply below_drew1|refine below_set ?_ GE231.out|refine below_set ?_ GE232.out)|exact HB.out)) hb);have n3_:=Aside0.mk (hbox);have n4_:=Aside0.mk ((by rw [hg];exact (below_size (by repeat (first|(with_reducible first|exact HB.out|apply below_alloc|apply pw_below_drewN|apply below_drew1|refine below_set ?_ GE231.out|refine below_set ?_ GE232.out)|exact HB.out))) : w.heap.size ≤ gb236));have n5_:=Aside0.mk ((by rw [hg];exact (below_size (by repeat (first|(with_reducible first|exact HB.out|apply below_alloc|apply pw_below_drewN|apply below_drew1|refine below_set ?_ GE231.out|refine below_set ?_ GE232.out)|exact HB.out))) : w.heap.size ≤ gb236));have n6_:=Aside0.mk ((by rw [hg];exact Nat.ne_of_lt (blk_lt (g:=gb231) (o:=.cells #[.string a0_0,.int .i64 a0_1] 89 (0,0)) (by (with_reducible repeat (first|apply blk_drewN|apply blk_drew|apply blk_alloc));exact BK231.out)) : gb231 ≠ gb236));have n7_:=Aside0.mk ((by rw [hg];exact Nat.ne_of_gt (blk_lt (g:=gb231) (o:=.cells #[.string a0_0,.int .i64 a0_1] 89 (0,0)) (by (with_reducible repeat (first|apply blk_drewN|apply blk_drew|apply blk_alloc));exact BK231.out)) : gb236 ≠ gb231));have n8_:=Aside0.mk ((by rw [hg];exact Nat.ne_of_lt (blk_lt (g:=gb232) (o:=.cells #[.string (⟨#[]⟩ : ByteArray),.int .i64 0] 89 (0,0)) (by (with_reducible repeat (first|apply blk_drewN|apply blk_drew|apply blk_alloc));exact BK232.out)) : gb232 ≠ gb236));have n9_:=Aside0.mk ((by rw [hg];exact Nat.ne_of_gt (blk_lt (g:=gb232) (o:=.cells #[.string (⟨#[]⟩ : ByteArray),.int .i64 0] 89 (0,0)) (by (with_reducible repeat (first|apply blk_drewN|apply blk_drew|apply blk_alloc));exact BK232.out)) : gb236 ≠ gb232));clear BK231;clear BK232;clear HB;have BK231:=n0_;have BK232:=n1_;have HB:=n2_;have BK236:=n3_;have GW236:=n4_;have GE236:=n5_;have NB231_236:=n6_;have NB236_231:=n7_;have NB232_236:=n8_;have NB236_232:=n9_;clear n0_ n1_ n2_ n3_ n4_ n5_ n6_ n7_ n8_ n9_;clear hb hbox hg;have hnb11:=NB236_231.out;have hnc11:=NB231_236.out;have hnb12:=NB236_232.out;have hnc12:=NB232_236.out;have hcz13_0 : w10.cell? ⟨gb236,0,none⟩ = some (.string (⟨#[]⟩ : ByteArray)):=(blk_cell BK236.out 0).trans rfl;have hcz13_1 : w10.cell? ⟨gb236,1,none⟩ = some (.int .i64 0):=(blk_cell BK236.out 1).trans rfl;have hfz13_0:=blk_frozen BK236.out 0;have hfz13_1:=blk_frozen BK236.out 1;have hcz14_0 : w10.cell? ⟨gb231,0,none⟩ = some (.string a0_0):=(blk_cell BK231.out 0).trans rfl;have hcz14_1 : w10.cell? ⟨gb231,1,none⟩ = some (.int .i64 a0_1):=(blk_cell BK231.out 1).trans rfl;have hfz14_0:=blk_frozen BK231.out 0;have hfz14_1:=blk_frozen BK231.out 1;have hcz15_0 : w10.cell? ⟨gb232,0,none⟩ = some (.string (⟨#[]⟩ : ByteArray)):=(blk_cell BK232.out 0).trans rfl;have hcz15_1 : w10.cell? ⟨gb232,1,none⟩ = some (.int .i64 0):=(blk_cell BK232.out 1).trans rfl;have hfz15_0:=blk_frozen BK232.out 0;have hfz15_1:=blk_frozen BK232.out 1))
   refine bodyPost_ret (results_ct rfl _ _ gb232 89 #[.string a0_0,.int .i64 2] (0,0) _ rfl (by (with_reducible repeat (first|apply blk_drewN|apply blk_drew|apply blk_alloc));refine blk_put (cs:=#[.string a0_0,.int .i64 0]) ?_ 1 _ rfl;(with_reducible repeat (first|apply blk_drewN|apply blk_drew|apply blk_alloc));refine blk_put (cs:=#[.string (⟨#[]⟩ : ByteArray),.int .i64 0]) ?_ 0 _ rfl;(with_reducible repeat (first|apply blk_drewN|apply blk_drew|apply blk_alloc));refine blk_far ?_ NB232_231.out _;(with_reducible repeat (first|apply blk_drewN|apply blk_drew|apply blk_alloc));refine blk_far ?_ NB232_236.out _;(with_reducible repeat (first|apply blk_drewN|apply blk_drew|apply blk_alloc));refine blk_far ?_ NB232_236.out _;(with_reducible repeat (first|apply blk_drewN|apply blk_drew|apply blk_alloc));exact BK232.out) Tryd.underlying89 rfl (by kernel_rfl)) rfl ?_
   exact ⟨by first|rfl|(simp [errW_none,errW_some] <;> rfl)|(simp [*,errW_none,errW_some] <;> rfl),by repeat (first|(with_reducible first|exact HB.out|apply below_alloc|apply pw_below_drewN|apply below_drew1|refine below_set ?_ GE231.out|refine below_set ?_ GE232.out|refine below_set ?_ GE236.out)|exact HB.out)⟩
  ·rw [if_neg c4] at H
   have c4b0 : decide (4096 < t235) = false:=decide_eq_false c4
   clear c4
   by_cases c16 : (t233.size : Int) < (wrap64 (t235))
   ·rw [if_pos c16] at H
    have c16b0 : decide ((t233.size : Int) < (wrap64 (t235))) = true:=decide_eq_true c16
    clear c16
    simp only [Option.some.injEq,Prod.mk.injEq] at H
    obtain ⟨rfl,rfl,rfl⟩:=H
    go_enter Tryd.func52,Tryd.ntmps52
    go_wp2_with (first|((with_reducible refine gate_dst (N:=1) rfl ?_);refine box_event ?hg (N:=1) ?hd (cs:=#[.string a0_0,.int .i64 a0_1]) (t:=89) ?hr ?_;(case hd=>rfl);(case hg=>rfl);(case hr=>first|(go_simp;done)|(go_simp;rfl));intro gb231 hg w17 hbox hb;have n0_:=Aside0.mk (below_step (by repeat (first|(with_reducible first|exact HB.out|apply below_alloc|apply pw_below_drewN|apply below_drew1)|exact HB.out)) hb);have n1_:=Aside0.mk (hbox);have n2_:=Aside0.mk ((by rw [hg];exact (below_size (by repeat (first|(with_reducible first|exact HB.out|apply below_alloc|apply pw_below_drewN|apply below_drew1)|exact HB.out))) : w.heap.size ≤ gb231));have n3_:=Aside0.mk ((by rw [hg];exact (below_size (by repeat (first|(with_reducible first|exact HB.out|apply below_alloc|apply pw_below_drewN|apply below_drew1)|exact HB.out))) : w.heap.size ≤ gb231));clear HB;have HB:=n0_;have BK231:=n1_;have GW231:=n2_;have GE231:=n3_;clear n0_ n1_ n2_ n3_;clear hb hbox hg)|((with_reducible refine gate_dst (N:=2) rfl ?_);refine box_event ?hg (N:=2) ?hd (cs:=#[.string (⟨#[]⟩ : ByteArray),.int .i64 0]) (t:=89) ?hr ?_;(case hd=>rfl);(case hg=>rfl);(case hr=>first|(go_simp;done)|(go_simp;rfl));intro gb232 hg w18 hbox hb;have n0_:=Aside0.mk (blk_below (g:=gb231) (o:=.cells #[.string a0_0,.int .i64 a0_1] 89 (0,0)) (by (with_reducible repeat (first|apply blk_drewN|apply blk_drew|apply blk_alloc));exact BK231.out) hb);have n1_:=Aside0.mk (below_step (by repeat (first|(with_reducible first|exact HB.out|apply below_alloc|apply pw_below_drewN|apply below_drew1|refine below_set ?_ GE231.out)|exact HB.out)) hb);have n2_:=Aside0.mk (hbox);have n3_:=Aside0.mk ((by rw [hg];exact (below_size (by repeat (first|(with_reducible first|exact HB.out|apply below_alloc|apply pw_below_drewN|apply below_drew1|refine below_set ?_ GE231.out)|exact HB.out))) : w.heap.size ≤ gb232));have n4_:=Aside0.mk ((by rw [hg];exact (below_size (by repeat (first|(with_reducible first|exact HB.out|apply below_alloc|apply pw_below_drewN|apply below_drew1|refine below_set ?_ GE231.out)|exact HB.out))) : w.heap.size ≤ gb232));have n5_:=Aside0.mk ((by rw [hg];exact Nat.ne_of_lt (blk_lt (g:=gb231) (o:=.cells #[.string a0_0,.int .i64 a0_1] 89 (0,0)) (by (with_reducible repeat (first|apply blk_drewN|apply blk_drew|apply blk_alloc));exact BK231.out)) : gb231 ≠ gb232));have n6_:=Aside0.mk ((by rw [hg];exact Nat.ne_of_gt (blk_lt (g:=gb231) (o:=.cells #[.string a0_0,.int .i64 a0_1] 89 (0,0)) (by (with_reducible repeat (first|apply blk_drewN|apply blk_drew|apply blk_alloc));exact BK231.out)) : gb232 ≠ gb231));clear BK231;clear HB;have BK231:=n0_;have HB:=n1_;have BK232:=n2_;have GW232:=n3_;have GE232:=n4_;have NB231_232:=n5_;have NB232_231:=n6_;clear n0_ n1_ n2_ n3_ n4_ n5_ n6_;clear hb hbox hg;have hnb19:=NB231_232.out;have hnc19:=NB232_231.out;have hcz20_0 : w18.cell? ⟨gb231,0,none⟩ = some (.string a0_0):=(blk_cell BK231.out 0).trans rfl;have hcz20_1 : w18.cell? ⟨gb231,1,none⟩ = some (.int .i64 a0_1):=(blk_cell BK231.out 1).trans rfl;have hfz20_0:=blk_frozen BK231.out 0;have hfz20_1:=blk_frozen BK231.out 1)|((with_reducible refine gate_callee (f:=51) rfl ?_);refine goesL_ (some 9) rfl rfl Tryd.func51 (by kernel_rfl) rfl #[.agg #[.string a0_0,.int .i64 a0_1],.int .i64 2] rfl (by (try simp only [List.map_toArray,List.map_cons,List.map_nil]);first|done|rfl|(simp only [List.length_drop,List.length_take];rfl)|(simp (disch:=first|omega|(simp at *;omega)) only [u64_id,i64_id,u8_id];rfl)) ?_;(with_reducible refine (bosunref02_Take.calls k a0_0 a0_1 2 t233 t234 t235 _ A2.out).mono ?_);rintro e w21 ⟨rfl,hb⟩;refine ⟨_,rfl,?_⟩;have n0_:=Aside0.mk (blk_below (g:=gb231) (o:=.cells #[.string a0_0,.int .i64 a0_1] 89 (0,0)) (by (with_reducible repeat (first|apply blk_drewN|apply blk_drew|apply blk_alloc));exact BK231.out) hb);have n1_:=Aside0.mk (blk_below (g:=gb232) (o:=.cells #[.string (⟨#[]⟩ : ByteArray),.int .i64 0] 89 (0,0)) (by (with_reducible repeat (first|apply blk_drewN|apply blk_drew|apply blk_alloc));exact BK232.out) hb);have n2_:=Aside0.mk (below_step (by repeat (first|(with_reducible first|exact HB.out|apply below_alloc|apply pw_below_drewN|apply below_drew1|refine below_set ?_ GE231.out|refine below_set ?_ GE232.out)|exact HB.out)) hb);clear BK231;clear BK232;clear HB;have BK231:=n0_;have BK232:=n1_;have HB:=n2_;clear n0_ n1_ n2_;(try clear hb);(try clear hb2);(try clear hk);(try clear hi))|((with_reducible refine gate_dst (N:=4) rfl ?_);refine box_event ?hg (N:=4) ?hd (cs:=#[.string (⟨#[]⟩ : ByteArray),.int .i64 0]) (t:=89) ?hr ?_;(case hd=>rfl);(case hg=>rfl);(case hr=>first|(go_simp;done)|(go_simp;rfl));intro gb236 hg w22 hbox hb;have n0_:=Aside0.mk (blk_below (g:=gb231) (o:=.cells #[.string a0_0,.int .i64 a0_1] 89 (0,0)) (by (with_reducible repeat (first|apply blk_drewN|apply blk_drew|apply blk_alloc));exact BK231.out) hb);have n1_:=Aside0.mk (blk_below (g:=gb232) (o:=.cells #[.string (⟨#[]⟩ : ByteArray),.int .i64 0] 89 (0,0)) (by (with_reducible repeat (first|apply blk_drewN|apply blk_drew|apply blk_alloc));exact BK232.out) hb);have n2_:=Aside0.mk (below_step (by repeat (first|(with_reducible first|exact HB.out|apply below_alloc|apply pw_below_drewN|apply below_drew1|refine below_set ?_ GE231.out|refine below_set ?_ GE232.out)|exact HB.out)) hb);have n3_:=Aside0.mk (hbox);have n4_:=Aside0.mk ((by rw [hg];exact (below_size (by repeat (first|(with_reducible first|exact HB.out|apply below_alloc|apply pw_below_drewN|apply below_drew1|refine below_set ?_ GE231.out|refine below_set ?_ GE232.out)|exact HB.out))) : w.heap.size ≤ gb236));have n5_:=Aside0.mk ((by rw [hg];exact (below_size (by repeat (first|(with_reducible first|exact HB.out|apply below_alloc|apply pw_below_drewN|apply below_drew1|refine below_set ?_ GE231.out|refine below_set ?_ GE232.out)|exact HB.out))) : w.heap.size ≤ gb236));have n6_:=Aside0.mk ((by rw [hg];exact Nat.ne_of_lt (blk_lt (g:=gb231) (o:=.cells #[.string a0_0,.int .i64 a0_1] 89 (0,0)) (by (with_reducible repeat (first|apply blk_drewN|apply blk_drew|apply blk_alloc));exact BK231.out)) : gb231 ≠ gb236));have n7_:=Aside0.mk ((by rw [hg];exact Nat.ne_of_gt (blk_lt (g:=gb231) (o:=.cells #[.string a0_0,.int .i64 a0_1] 89 (0,0)) (by (with_reducible repeat (first|apply blk_drewN|apply blk_drew|apply blk_alloc));exact BK231.out)) : gb236 ≠ gb231));have n8_:=Aside0.mk ((by rw [hg];exact Nat.ne_of_lt (blk_lt (g:=gb232) (o:=.cells #[.string (⟨#[]⟩ : ByteArray),.int .i64 0] 89 (0,0)) (by (with_reducible repeat (first|apply blk_drewN|apply blk_drew|apply blk_alloc));exact BK232.out)) : gb232 ≠ gb236));have n9_:=Aside0.mk ((by rw [hg];exact Nat.ne_of_gt (blk_lt (g:=gb232) (o:=.cells #[.string (⟨#[]⟩ : ByteArray),.int .i64 0] 89 (0,0)) (by (with_reducible repeat (first|apply blk_drewN|apply blk_drew|apply blk_alloc));exact BK232.out)) : gb236 ≠ gb232));clear BK231;clear BK232;clear HB;have BK231:=n0_;have BK232:=n1_;have HB:=n2_;have BK236:=n3_;have GW236:=n4_;have GE236:=n5_;have NB231_236:=n6_;have NB236_231:=n7_;have NB232_236:=n8_;have NB236_232:=n9_;clear n0_ n1_ n2_ n3_ n4_ n5_ n6_ n7_ n8_ n9_;clear hb hbox hg;have hnb23:=NB236_231.out;have hnc23:=NB231_236.out;have hnb24:=NB236_232.out;have hnc24:=NB232_236.out;have hcz25_0 : w22.cell? ⟨gb236,0,none⟩ = some (.string (⟨#[]⟩ : ByteArray)):=(blk_cell BK236.out 0).trans rfl;have hcz25_1 : w22.cell? ⟨gb236,1,none⟩ = some (.int .i64 0):=(blk_cell BK236.out 1).trans rfl;have hfz25_0:=blk_frozen BK236.out 0;have hfz25_1:=blk_frozen BK236.out 1;have hcz26_0 : w22.cell? ⟨gb231,0,none⟩ = some (.string a0_0):=(blk_cell BK231.out 0).trans rfl;have hcz26_1 : w22.cell? ⟨gb231,1,none⟩ = some (.int .i64 a0_1):=(blk_cell BK231.out 1).trans rfl;have hfz26_0:=blk_frozen BK231.out 0;have hfz26_1:=blk_frozen BK231.out 1;have hcz27_0 : w22.cell? ⟨gb232,0,none⟩ = some (.string (⟨#[]⟩ : ByteArray)):=(blk_cell BK232.out 0).trans rfl;have hcz27_1 : w22.cell? ⟨gb232,1,none⟩ = some (.int .i64 0):=(blk_cell BK232.out 1).trans rfl;have hfz27_0:=blk_frozen BK232.out 0;have hfz27_1:=blk_frozen BK232.out 1))
    refine bodyPost_ret (results_ct rfl _ _ gb232 89 #[.string a0_0,.int .i64 1] (0,0) _ rfl (by (with_reducible repeat (first|apply blk_drewN|apply blk_drew|apply blk_alloc));refine blk_put (cs:=#[.string a0_0,.int .i64 0]) ?_ 1 _ rfl;(with_reducible repeat (first|apply blk_drewN|apply blk_drew|apply blk_alloc));refine blk_put (cs:=#[.string (⟨#[]⟩ : ByteArray),.int .i64 0]) ?_ 0 _ rfl;(with_reducible repeat (first|apply blk_drewN|apply blk_drew|apply blk_alloc));refine blk_far ?_ NB232_231.out _;(with_reducible repeat (first|apply blk_drewN|apply blk_drew|apply blk_alloc));refine blk_far ?_ NB232_236.out _;(with_reducible repeat (first|apply blk_drewN|apply blk_drew|apply blk_alloc));refine blk_far ?_ NB232_236.out _;(with_reducible repeat (first|apply blk_drewN|apply blk_drew|apply blk_alloc));exact BK232.out) Tryd.underlying89 rfl (by kernel_rfl)) rfl ?_
    exact ⟨by first|rfl|(simp [errW_none,errW_some] <;> rfl)|(simp [*,errW_none,errW_some] <;> rfl),by repeat (first|(with_reducible first|exact HB.out|apply below_alloc|apply pw_below_drewN|apply below_drew1|refine below_set ?_ GE231.out|refine below_set ?_ GE232.out|refine below_set ?_ GE236.out)|exact HB.out)⟩
   ·rw [if_neg c16] at H
    have c16b0 : decide ((t233.size : Int) < (wrap64 (t235))) = false:=decide_eq_false c16
    clear c16
    obtain ⟨ji28,hji28⟩ : ∃ j_ : Int,(wrap64 (t235)) = j_:=⟨_,rfl⟩
    replace H : (if 0 ≤ (ji28) then (if (ji28) ≤ (t233.size : Int) then (some (t233.extract ((ji28) : Int).toNat t233.size,0,t233.extract 0 ((ji28) : Int).toNat)) else (none)) else (none)) = some (r1,r2,r3):=by first|(rw [hji28] at H;exact H)|(simp only [hji28] at H ⊢;exact H)
    (try rw [hji28] at c16b0)
    (try rw [hji28] at A2)
    have hji28w : (IntKind.i64.wrap (t235)) = ji28:=(i64_w _).trans hji28
    by_cases c29 : 0 ≤ (ji28)
    ·rw [if_pos c29] at H
     have c29b0:=eq_true c29
     have c29b1 : decide (0 ≤ (ji28)) = true:=decide_eq_true c29
     clear c29
     by_cases c30 : (ji28) ≤ (t233.size : Int)
     ·rw [if_pos c30] at H
      have c30b0:=eq_true c30
      have c30b1 : decide ((ji28) ≤ (t233.size : Int)) = true:=decide_eq_true c30
      clear c30
      have c31b0:=eq_true (of_decide_eq_true (by first|(with_reducible assumption)|assumption) : 0 ≤ (ji28))
      have c32b0:=eq_true (of_decide_eq_true (by first|(with_reducible assumption)|assumption) : (ji28) ≤ (t233.size : Int))
      simp only [Option.some.injEq,Prod.mk.injEq] at H
      obtain ⟨rfl,rfl,rfl⟩:=H
      go_enter Tryd.func52,Tryd.ntmps52
      try go_wp2_with (first|((with_reducible refine gate_dst (N:=1) rfl ?_);refine box_event ?hg (N:=1) ?hd (cs:=#[.string a0_0,.int .i64 a0_1]) (t:=89) ?hr ?_;(case hd=>rfl);(case hg=>rfl);(case hr=>first|(go_simp;done)|(go_simp;rfl));intro gb231 hg w33 hbox hb;have n0_:=Aside0.mk (below_step (by repeat (first|(with_reducible first|exact HB.out|apply below_alloc|apply pw_below_drewN|apply below_drew1)|exact HB.out)) hb);have n1_:=Aside0.mk (hbox);have n2_:=Aside0.mk ((by rw [hg];exact (below_size (by repeat (first|(with_reducible first|exact HB.out|apply below_alloc|apply pw_below_drewN|apply below_drew1)|exact HB.out))) : w.heap.size ≤ gb231));have n3_:=Aside0.mk ((by rw [hg];exact (below_size (by repeat (first|(with_reducible first|exact HB.out|apply below_alloc|apply pw_below_drewN|apply below_drew1)|exact HB.out))) : w.heap.size ≤ gb231));clear HB;have HB:=n0_;have BK231:=n1_;have GW231:=n2_;have GE231:=n3_;clear n0_ n1_ n2_ n3_;clear hb hbox hg)|((with_reducible refine gate_dst (N:=2) rfl ?_);refine box_event ?hg (N:=2) ?hd (cs:=#[.string (⟨#[]⟩ : ByteArray),.int .i64 0]) (t:=89) ?hr ?_;(case hd=>rfl);(case hg=>rfl);(case hr=>first|(go_simp;done)|(go_simp;rfl));intro gb232 hg w34 hbox hb;have n0_:=Aside0.mk (blk_below (g:=gb231) (o:=.cells #[.string a0_0,.int .i64 a0_1] 89 (0,0)) (by (with_reducible repeat (first|apply blk_drewN|apply blk_drew|apply blk_alloc));exact BK231.out) hb);have n1_:=Aside0.mk (below_step (by repeat (first|(with_reducible first|exact HB.out|apply below_alloc|apply pw_below_drewN|apply below_drew1|refine below_set ?_ GE231.out)|exact HB.out)) hb);have n2_:=Aside0.mk (hbox);have n3_:=Aside0.mk ((by rw [hg];exact (below_size (by repeat (first|(with_reducible first|exact HB.out|apply below_alloc|apply pw_below_drewN|apply below_drew1|refine below_set ?_ GE231.out)|exact HB.out))) : w.heap.size ≤ gb232));have n4_:=Aside0.mk ((by rw [hg];exact (below_size (by repeat (first|(with_reducible first|exact HB.out|apply below_alloc|apply pw_below_drewN|apply below_drew1|refine below_set ?_ GE231.out)|exact HB.out))) : w.heap.size ≤ gb232));have n5_:=Aside0.mk ((by rw [hg];exact Nat.ne_of_lt (blk_lt (g:=gb231) (o:=.cells #[.string a0_0,.int .i64 a0_1] 89 (0,0)) (by (with_reducible repeat (first|apply blk_drewN|apply blk_drew|apply blk_alloc));exact BK231.out)) : gb231 ≠ gb232));have n6_:=Aside0.mk ((by rw [hg];exact Nat.ne_of_gt (blk_lt (g:=gb231) (o:=.cells #[.string a0_0,.int .i64 a0_1] 89 (0,0)) (by (with_reducible repeat (first|apply blk_drewN|apply blk_drew|apply blk_alloc));exact BK231.out)) : gb232 ≠ gb231));clear BK231;clear HB;have BK231:=n0_;have HB:=n1_;have BK232:=n2_;have GW232:=n3_;have GE232:=n4_;have NB231_232:=n5_;have NB232_231:=n6_;clear n0_ n1_ n2_ n3_ n4_ n5_ n6_;clear hb hbox hg;have hnb35:=NB231_232.out;have hnc35:=NB232_231.out;have hcz36_0 : w34.cell? ⟨gb231,0,none⟩ = some (.string a0_0):=(blk_cell BK231.out 0).trans rfl;have hcz36_1 : w34.cell? ⟨gb231,1,none⟩ = some (.int .i64 a0_1):=(blk_cell BK231.out 1).trans rfl;have hfz36_0:=blk_frozen BK231.out 0;have hfz36_1:=blk_frozen BK231.out 1)|((with_reducible refine gate_callee (f:=51) rfl ?_);refine goesL_ (some 9) rfl rfl Tryd.func51 (by kernel_rfl) rfl #[.agg #[.string a0_0,.int .i64 a0_1],.int .i64 2] rfl (by (try simp only [List.map_toArray,List.map_cons,List.map_nil]);first|done|rfl|(simp only [List.length_drop,List.length_take];rfl)|(simp (disch:=first|omega|(simp at *;omega)) only [u64_id,i64_id,u8_id];rfl)) ?_;(with_reducible refine (bosunref02_Take.calls k a0_0 a0_1 2 t233 t234 t235 _ A2.out).mono ?_);rintro e w37 ⟨rfl,hb⟩;refine ⟨_,rfl,?_⟩;have n0_:=Aside0.mk (blk_below (g:=gb231) (o:=.cells #[.string a0_0,.int .i64 a0_1] 89 (0,0)) (by (with_reducible repeat (first|apply blk_drewN|apply blk_drew|apply blk_alloc));exact BK231.out) hb);have n1_:=Aside0.mk (blk_below (g:=gb232) (o:=.cells #[.string (⟨#[]⟩ : ByteArray),.int .i64 0] 89 (0,0)) (by (with_reducible repeat (first|apply blk_drewN|apply blk_drew|apply blk_alloc));exact BK232.out) hb);have n2_:=Aside0.mk (below_step (by repeat (first|(with_reducible first|exact HB.out|apply below_alloc|apply pw_below_drewN|apply below_drew1|refine below_set ?_ GE231.out|refine below_set ?_ GE232.out)|exact HB.out)) hb);clear BK231;clear BK232;clear HB;have BK231:=n0_;have BK232:=n1_;have HB:=n2_;clear n0_ n1_ n2_;(try clear hb);(try clear hb2);(try clear hk);(try clear hi))|((with_reducible refine gate_dst (N:=4) rfl ?_);refine box_event ?hg (N:=4) ?hd (cs:=#[.string (⟨#[]⟩ : ByteArray),.int .i64 0]) (t:=89) ?hr ?_;(case hd=>rfl);(case hg=>rfl);(case hr=>first|(go_simp;done)|(go_simp;rfl));intro gb236 hg w38 hbox hb;have n0_:=Aside0.mk (blk_below (g:=gb231) (o:=.cells #[.string a0_0,.int .i64 a0_1] 89 (0,0)) (by (with_reducible repeat (first|apply blk_drewN|apply blk_drew|apply blk_alloc));exact BK231.out) hb);have n1_:=Aside0.mk (blk_below (g:=gb232) (o:=.cells #[.string (⟨#[]⟩ : ByteArray),.int .i64 0] 89 (0,0)) (by (with_reducible repeat (first|apply blk_drewN|apply blk_drew|apply blk_alloc));exact BK232.out) hb);have n2_:=Aside0.mk (below_step (by repeat (first|(with_reducible first|exact HB.out|apply below_alloc|apply pw_below_drewN|apply below_drew1|refine below_set ?_ GE231.out|refine below_set ?_ GE232.out)|exact HB.out)) hb);have n3_:=Aside0.mk (hbox);have n4_:=Aside0.mk ((by rw [hg];exact (below_size (by repeat (first|(with_reducible first|exact HB.out|apply below_alloc|apply pw_below_drewN|apply below_drew1|refine below_set ?_ GE231.out|refine below_set ?_ GE232.out)|exact HB.out))) : w.heap.size ≤ gb236));have n5_:=Aside0.mk ((by rw [hg];exact (below_size (by repeat (first|(with_reducible first|exact HB.out|apply below_alloc|apply pw_below_drewN|apply below_drew1|refine below_set ?_ GE231.out|refine below_set ?_ GE232.out)|exact HB.out))) : w.heap.size ≤ gb236));have n6_:=Aside0.mk ((by rw [hg];exact Nat.ne_of_lt (blk_lt (g:=gb231) (o:=.cells #[.string a0_0,.int .i64 a0_1] 89 (0,0)) (by (with_reducible repeat (first|apply blk_drewN|apply blk_drew|apply blk_alloc));exact BK231.out)) : gb231 ≠ gb236));have n7_:=Aside0.mk ((by rw [hg];exact Nat.ne_of_gt (blk_lt (g:=gb231) (o:=.cells #[.string a0_0,.int .i64 a0_1] 89 (0,0)) (by (with_reducible repeat (first|apply blk_drewN|apply blk_drew|apply blk_alloc));exact BK231.out)) : gb236 ≠ gb231));have n8_:=Aside0.mk ((by rw [hg];exact Nat.ne_of_lt (blk_lt (g:=gb232) (o:=.cells #[.string (⟨#[]⟩ : ByteArray),.int .i64 0] 89 (0,0)) (by (with_reducible repeat (first|apply blk_drewN|apply blk_drew|apply blk_alloc));exact BK232.out)) : gb232 ≠ gb236));have n9_:=Aside0.mk ((by rw [hg];exact Nat.ne_of_gt (blk_lt (g:=gb232) (o:=.cells #[.string (⟨#[]⟩ : ByteArray),.int .i64 0] 89 (0,0)) (by (with_reducible repeat (first|apply blk_drewN|apply blk_drew|apply blk_alloc));exact BK232.out)) : gb236 ≠ gb232));clear BK231;clear BK232;clear HB;have BK231:=n0_;have BK232:=n1_;have HB:=n2_;have BK236:=n3_;have GW236:=n4_;have GE236:=n5_;have NB231_236:=n6_;have NB236_231:=n7_;have NB232_236:=n8_;have NB236_232:=n9_;clear n0_ n1_ n2_ n3_ n4_ n5_ n6_ n7_ n8_ n9_;clear hb hbox hg;have hnb39:=NB236_231.out;have hnc39:=NB231_236.out;have hnb40:=NB236_232.out;have hnc40:=NB232_236.out;have hcz41_0 : w38.cell? ⟨gb236,0,none⟩ = some (.string (⟨#[]⟩ : ByteArray)):=(blk_cell BK236.out 0).trans rfl;have hcz41_1 : w38.cell? ⟨gb236,1,none⟩ = some (.int .i64 0):=(blk_cell BK236.out 1).trans rfl;have hfz41_0:=blk_frozen BK236.out 0;have hfz41_1:=blk_frozen BK236.out 1))
      have n0_ : Aside0 (((w38.setCell ⟨gb236,0,none⟩ (.string t233)).setCell ⟨gb236,1,none⟩ (.int .i64 t234)).heap[gb231]? = some (.cells #[.string a0_0,.int .i64 a0_1] 89 (0,0))):=⟨by (with_reducible repeat (first|apply blk_drewN|apply blk_drew|apply blk_alloc));refine blk_far ?_ NB231_236.out _;(with_reducible repeat (first|apply blk_drewN|apply blk_drew|apply blk_alloc));refine blk_far ?_ NB231_236.out _;(with_reducible repeat (first|apply blk_drewN|apply blk_drew|apply blk_alloc));exact BK231.out⟩
      have n1_ : Aside0 (((w38.setCell ⟨gb236,0,none⟩ (.string t233)).setCell ⟨gb236,1,none⟩ (.int .i64 t234)).heap[gb232]? = some (.cells #[.string (⟨#[]⟩ : ByteArray),.int .i64 0] 89 (0,0))):=⟨by (with_reducible repeat (first|apply blk_drewN|apply blk_drew|apply blk_alloc));refine blk_far ?_ NB232_236.out _;(with_reducible repeat (first|apply blk_drewN|apply blk_drew|apply blk_alloc));refine blk_far ?_ NB232_236.out _;(with_reducible repeat (first|apply blk_drewN|apply blk_drew|apply blk_alloc));exact BK232.out⟩
      have n2_ : Aside0 (((w38.setCell ⟨gb236,0,none⟩ (.string t233)).setCell ⟨gb236,1,none⟩ (.int .i64 t234)).heap[gb236]? = some (.cells #[.string t233,.int .i64 t234] 89 (0,0))):=⟨by (with_reducible repeat (first|apply blk_drewN|apply blk_drew|apply blk_alloc));refine blk_put (cs:=#[.string t233,.int .i64 0]) ?_ 1 _ rfl;(with_reducible repeat (first|apply blk_drewN|apply blk_drew|apply blk_alloc));refine blk_put (cs:=#[.string (⟨#[]⟩ : ByteArray),.int .i64 0]) ?_ 0 _ rfl;(with_reducible repeat (first|apply blk_drewN|apply blk_drew|apply blk_alloc));exact BK236.out⟩
      have n3_ : Aside0 (Below w.heap.size w ((w38.setCell ⟨gb236,0,none⟩ (.string t233)).setCell ⟨gb236,1,none⟩ (.int .i64 t234))):=⟨by repeat (first|(with_reducible first|exact HB.out|apply below_alloc|apply pw_below_drewN|apply below_drew1|refine below_set ?_ GE231.out|refine below_set ?_ GE232.out|refine below_set ?_ GE236.out)|exact HB.out)⟩
      (try clear BK231)
      (try clear BK232)
      (try clear BK236)
      (try clear HB)
      generalize ((w38.setCell ⟨gb236,0,none⟩ (.string t233)).setCell ⟨gb236,1,none⟩ (.int .i64 t234)) = w42 at n0_ n1_ n2_ n3_ ⊢
      have BK231:=n0_
      have BK232:=n1_
      have BK236:=n2_
      have HB:=n3_
      clear n0_ n1_ n2_ n3_
      have n0_:=Aside0.mk (blk_drew BK231.out)
      have n1_:=Aside0.mk (blk_drew BK232.out)
      have n2_:=Aside0.mk (blk_drew BK236.out)
      have n3_:=Aside0.mk (below_drew1 HB.out)
      clear BK231
      clear BK232
      clear BK236
      clear HB
      have BK231:=n0_
      have BK232:=n1_
      have BK236:=n2_
      have HB:=n3_
      clear n0_ n1_ n2_ n3_
      refine start_ (n:=11) (S:=fun w'=>w'.cell? ⟨gb236,0,none⟩ = some (.string t233) ∧ w'.cell? ⟨gb236,1,none⟩ = some (.int .i64 t234)) (ds:=[]) #[false,false,false,false,false,false,false,false,false,false,false] (by kernel_rfl) rfl rfl ⟨(blk_cell BK236.out 0).trans rfl,(blk_cell BK236.out 1).trans rfl⟩ (fun hHeld=>?_);refine with_tabW bosunref02_TakeText.tab11 bosunref02_TakeText.bits11 (fun HT_ HW_=>?_)
      generalize w42.drew = w43 at BK231 BK232 BK236 HB hHeld ⊢
      refine pure_ (i:=0) (N:=some 29) (v:=?_) (a':=?_) #[true,false,false,false,false,false,false,false,false,false,false] rfl rfl (any_of HT_.out (by kernel_rfl)) (fun _ _ _ h=>h) (Or.inl ⟨by rfl,?_⟩) ?_ ?_
      rotate_left
      ·intro w'
       go_simp
       with_reducible rfl
      rotate_left
      ·simp only [Act.put,List.setIfInBounds_toArray,List.set_cons_zero,List.set_cons_succ,i64_w,i32_w]
       rfl
      refine pure_ (i:=2) (N:=some 31) (v:=?_) (a':=?_) #[true,false,true,false,false,false,false,false,false,false,false] rfl rfl (any_of HT_.out (by kernel_rfl)) (fun _ _ _ h=>h) (Or.inl ⟨by rfl,?_⟩) ?_ ?_
      rotate_left
      ·intro w'
       go_simp
       with_reducible rfl
      rotate_left
      ·simp only [Act.put,List.setIfInBounds_toArray,List.set_cons_zero,List.set_cons_succ,i64_w,i32_w]
       rfl
      refine pure_ (i:=5) (N:=some 34) (v:=?_) (a':=?_) #[true,false,true,false,false,true,false,false,false,false,false] rfl rfl (any_of HT_.out (by kernel_rfl)) (fun _ _ _ h=>h) (Or.inl ⟨by rfl,?_⟩) ?_ ?_
      rotate_left
      ·intro w'
       go_simp
       with_reducible rfl
      rotate_left
      ·simp only [Act.put,List.setIfInBounds_toArray,List.set_cons_zero,List.set_cons_succ,i64_w,i32_w]
       rfl
      refine pure_ (i:=7) (N:=some 36) (v:=?_) (a':=?_) #[true,false,true,false,false,true,false,true,false,false,false] rfl rfl (any_of HT_.out (by kernel_rfl)) (fun _ _ _ h=>h) (Or.inl ⟨by rfl,?_⟩) ?_ ?_
      rotate_left
      ·intro w'
       go_simp
       with_reducible rfl
      rotate_left
      ·simp only [Act.put,List.setIfInBounds_toArray,List.set_cons_zero,List.set_cons_succ,i64_w,i32_w]
       rfl
      refine take_ (i:=1) (N:=some 30) (v:=?_) (a':=?_) #[true,true,true,false,false,true,false,true,false,false,false] rfl rfl (take_ofW HT_.out HW_.out (by kernel_rfl)) (fun _ _ _ h=>h) (Or.inl ⟨by rfl,?_⟩) hHeld ?_ ?_
      rotate_left
      ·rintro w' ⟨s0,s1⟩
       go_simp
       with_reducible rfl
      rotate_left
      ·simp only [Act.put,List.setIfInBounds_toArray,List.set_cons_zero,List.set_cons_succ,i64_w,i32_w]
       rfl
      refine pure_ (i:=3) (N:=some 32) (v:=?_) (a':=?_) #[true,true,true,true,false,true,false,true,false,false,false] rfl rfl (any_of HT_.out (by kernel_rfl)) (fun _ _ _ h=>h) (Or.inl ⟨by rfl,?_⟩) ?_ ?_
      rotate_left
      ·intro w'
       go_simp
       with_reducible rfl
      rotate_left
      ·simp only [Act.put,List.setIfInBounds_toArray,List.set_cons_zero,List.set_cons_succ,i64_w,i32_w]
       rfl
      refine pure_ (i:=4) (N:=some 33) (v:=?_) (a':=?_) #[true,true,true,true,true,true,false,true,false,false,false] rfl rfl (any_of HT_.out (by kernel_rfl)) (fun _ _ _ h=>h) (Or.inl ⟨by rfl,?_⟩) ?_ ?_
      rotate_left
      ·intro w'
       go_simp
       with_reducible rfl
      rotate_left
      ·simp only [Act.put,List.setIfInBounds_toArray,List.set_cons_zero,List.set_cons_succ,i64_w,i32_w]
       rfl
      refine take_ (i:=6) (N:=some 35) (v:=?_) (a':=?_) #[true,true,true,true,true,true,true,true,false,false,false] rfl rfl (take_ofW HT_.out HW_.out (by kernel_rfl)) (fun _ _ _ h=>h) (Or.inl ⟨by rfl,?_⟩) hHeld ?_ ?_
      rotate_left
      ·rintro w' ⟨s0,s1⟩
       go_simp
       with_reducible rfl
      rotate_left
      ·simp only [Act.put,List.setIfInBounds_toArray,List.set_cons_zero,List.set_cons_succ,i64_w,i32_w]
       rfl
      refine pure_ (i:=8) (N:=some 37) (v:=?_) (a':=?_) #[true,true,true,true,true,true,true,true,true,false,false] rfl rfl (any_of HT_.out (by kernel_rfl)) (fun _ _ _ h=>h) (Or.inl ⟨by rfl,?_⟩) ?_ ?_
      rotate_left
      ·intro w'
       go_simp
       with_reducible rfl
      rotate_left
      ·simp only [Act.put,List.setIfInBounds_toArray,List.set_cons_zero,List.set_cons_succ,i64_w,i32_w]
       rfl
      refine one_ (i:=9) (N:=none) #[true,true,true,true,true,true,true,true,true,true,false] rfl rfl (one_of HT_.out (by kernel_rfl)) (by decide) (fun K hK=>?_)
      have hs44 : w43.cell? ⟨gb232,0,none⟩ = some (.string (⟨#[]⟩ : ByteArray)):=(blk_cell BK232.out 0).trans rfl
      have hfs44:=blk_frozen BK232.out 0
      have hns44_0:=NB231_232.out
      have hns44_2:=NB236_232.out
      have hms44_0:=NB232_231.out
      have hms44_2:=NB232_236.out
      have hs45 : w43.cell? ⟨gb232,1,none⟩ = some (.int .i64 0):=(blk_cell BK232.out 1).trans rfl
      have hfs45:=blk_frozen BK232.out 1
      have hns45_0:=NB231_232.out
      have hns45_2:=NB236_232.out
      have hms45_0:=NB232_231.out
      have hms45_2:=NB232_236.out
      refine skip_ (w1:=?_) (by rfl) rfl ?_ ?_
      rotate_left
      ·go_simp
       rfl
      refine hK.out _ _ ⟨((cell_far (p:=⟨gb232,_,none⟩) NB236_232.out _).trans (((cell_far (p:=⟨gb232,_,none⟩) NB236_232.out _).trans (hHeld.1)))),((cell_far (p:=⟨gb232,_,none⟩) NB236_232.out _).trans (((cell_far (p:=⟨gb232,_,none⟩) NB236_232.out _).trans (hHeld.2))))⟩ (fun hHeld=>?_)
      clear hK K
      refine pure_ (i:=10) (N:=some 3) (v:=?_) (a':=?_) #[true,true,true,true,true,true,true,true,true,true,true] rfl rfl (any_of HT_.out (by kernel_rfl)) (fun _ _ _ h=>h) (Or.inl ⟨by rfl,?_⟩) ?_ ?_
      rotate_left
      ·intro w'
       go_simp
       with_reducible rfl
      rotate_left
      ·simp only [Act.put,List.setIfInBounds_toArray,List.set_cons_zero,List.set_cons_succ,i64_w,i32_w]
       rfl
      refine done_ (done_of HT_.out (by kernel_rfl)) ?_
      try go_wp2
      refine bodyPost_ret (results_ct rfl _ _ gb232 89 #[.string (t233.extract ((ji28) : Int).toNat t233.size),.int .i64 0] (0,0) _ rfl (by (with_reducible repeat (first|apply blk_drewN|apply blk_drew|apply blk_alloc));refine blk_put (cs:=#[.string (t233.extract ((ji28) : Int).toNat t233.size),.int .i64 0]) ?_ 1 _ rfl;(with_reducible repeat (first|apply blk_drewN|apply blk_drew|apply blk_alloc));refine blk_put (cs:=#[.string (⟨#[]⟩ : ByteArray),.int .i64 0]) ?_ 0 _ rfl;(with_reducible repeat (first|apply blk_drewN|apply blk_drew|apply blk_alloc));exact BK232.out) Tryd.underlying89 rfl (by kernel_rfl)) rfl ?_
      exact ⟨by first|rfl|(simp [errW_none,errW_some] <;> rfl)|(simp only [← hji28];first|rfl|(simp [errW_none,errW_some] <;> rfl))|(simp [*,errW_none,errW_some] <;> rfl),by repeat (first|(with_reducible first|exact HB.out|apply below_alloc|apply pw_below_drewN|apply below_drew1|refine below_set ?_ GE231.out|refine below_set ?_ GE232.out|refine below_set ?_ GE236.out)|exact HB.out)⟩
     ·rw [if_neg c30] at H
      exact absurd H (by simp)
    ·rw [if_neg c29] at H
     exact absurd H (by simp)
 ·rw [if_neg c3] at H
  have c3b0 : (t234 == 0) = false:=beq_eq_false_iff_ne.mpr c3
  have c3b1 : (t234 != 0) = true:=bne_iff_ne.mpr c3
  simp only [Option.some.injEq,Prod.mk.injEq] at H
  obtain ⟨rfl,rfl,rfl⟩:=H
  go_enter Tryd.func52,Tryd.ntmps52
  go_wp2_with (first|((with_reducible refine gate_dst (N:=1) rfl ?_);refine box_event ?hg (N:=1) ?hd (cs:=#[.string a0_0,.int .i64 a0_1]) (t:=89) ?hr ?_;(case hd=>rfl);(case hg=>rfl);(case hr=>first|(go_simp;done)|(go_simp;rfl));intro gb231 hg w46 hbox hb;have n0_:=Aside0.mk (below_step (by repeat (first|(with_reducible first|exact HB.out|apply below_alloc|apply pw_below_drewN|apply below_drew1)|exact HB.out)) hb);have n1_:=Aside0.mk (hbox);have n2_:=Aside0.mk ((by rw [hg];exact (below_size (by repeat (first|(with_reducible first|exact HB.out|apply below_alloc|apply pw_below_drewN|apply below_drew1)|exact HB.out))) : w.heap.size ≤ gb231));have n3_:=Aside0.mk ((by rw [hg];exact (below_size (by repeat (first|(with_reducible first|exact HB.out|apply below_alloc|apply pw_below_drewN|apply below_drew1)|exact HB.out))) : w.heap.size ≤ gb231));clear HB;have HB:=n0_;have BK231:=n1_;have GW231:=n2_;have GE231:=n3_;clear n0_ n1_ n2_ n3_;clear hb hbox hg)|((with_reducible refine gate_dst (N:=2) rfl ?_);refine box_event ?hg (N:=2) ?hd (cs:=#[.string (⟨#[]⟩ : ByteArray),.int .i64 0]) (t:=89) ?hr ?_;(case hd=>rfl);(case hg=>rfl);(case hr=>first|(go_simp;done)|(go_simp;rfl));intro gb232 hg w47 hbox hb;have n0_:=Aside0.mk (blk_below (g:=gb231) (o:=.cells #[.string a0_0,.int .i64 a0_1] 89 (0,0)) (by (with_reducible repeat (first|apply blk_drewN|apply blk_drew|apply blk_alloc));exact BK231.out) hb);have n1_:=Aside0.mk (below_step (by repeat (first|(with_reducible first|exact HB.out|apply below_alloc|apply pw_below_drewN|apply below_drew1|refine below_set ?_ GE231.out)|exact HB.out)) hb);have n2_:=Aside0.mk (hbox);have n3_:=Aside0.mk ((by rw [hg];exact (below_size (by repeat (first|(with_reducible first|exact HB.out|apply below_alloc|apply pw_below_drewN|apply below_drew1|refine below_set ?_ GE231.out)|exact HB.out))) : w.heap.size ≤ gb232));have n4_:=Aside0.mk ((by rw [hg];exact (below_size (by repeat (first|(with_reducible first|exact HB.out|apply below_alloc|apply pw_below_drewN|apply below_drew1|refine below_set ?_ GE231.out)|exact HB.out))) : w.heap.size ≤ gb232));have n5_:=Aside0.mk ((by rw [hg];exact Nat.ne_of_lt (blk_lt (g:=gb231) (o:=.cells #[.string a0_0,.int .i64 a0_1] 89 (0,0)) (by (with_reducible repeat (first|apply blk_drewN|apply blk_drew|apply blk_alloc));exact BK231.out)) : gb231 ≠ gb232));have n6_:=Aside0.mk ((by rw [hg];exact Nat.ne_of_gt (blk_lt (g:=gb231) (o:=.cells #[.string a0_0,.int .i64 a0_1] 89 (0,0)) (by (with_reducible repeat (first|apply blk_drewN|apply blk_drew|apply blk_alloc));exact BK231.out)) : gb232 ≠ gb231));clear BK231;clear HB;have BK231:=n0_;have HB:=n1_;have BK232:=n2_;have GW232:=n3_;have GE232:=n4_;have NB231_232:=n5_;have NB232_231:=n6_;clear n0_ n1_ n2_ n3_ n4_ n5_ n6_;clear hb hbox hg;have hnb48:=NB231_232.out;have hnc48:=NB232_231.out;have hcz49_0 : w47.cell? ⟨gb231,0,none⟩ = some (.string a0_0):=(blk_cell BK231.out 0).trans rfl;have hcz49_1 : w47.cell? ⟨gb231,1,none⟩ = some (.int .i64 a0_1):=(blk_cell BK231.out 1).trans rfl;have hfz49_0:=blk_frozen BK231.out 0;have hfz49_1:=blk_frozen BK231.out 1)|((with_reducible refine gate_callee (f:=51) rfl ?_);refine goesL_ (some 9) rfl rfl Tryd.func51 (by kernel_rfl) rfl #[.agg #[.string a0_0,.int .i64 a0_1],.int .i64 2] rfl (by (try simp only [List.map_toArray,List.map_cons,List.map_nil]);first|done|rfl|(simp only [List.length_drop,List.length_take];rfl)|(simp (disch:=first|omega|(simp at *;omega)) only [u64_id,i64_id,u8_id];rfl)) ?_;(with_reducible refine (bosunref02_Take.calls k a0_0 a0_1 2 t233 t234 t235 _ A2.out).mono ?_);rintro e w50 ⟨rfl,hb⟩;refine ⟨_,rfl,?_⟩;have n0_:=Aside0.mk (blk_below (g:=gb231) (o:=.cells #[.string a0_0,.int .i64 a0_1] 89 (0,0)) (by (with_reducible repeat (first|apply blk_drewN|apply blk_drew|apply blk_alloc));exact BK231.out) hb);have n1_:=Aside0.mk (blk_below (g:=gb232) (o:=.cells #[.string (⟨#[]⟩ : ByteArray),.int .i64 0] 89 (0,0)) (by (with_reducible repeat (first|apply blk_drewN|apply blk_drew|apply blk_alloc));exact BK232.out) hb);have n2_:=Aside0.mk (below_step (by repeat (first|(with_reducible first|exact HB.out|apply below_alloc|apply pw_below_drewN|apply below_drew1|refine below_set ?_ GE231.out|refine below_set ?_ GE232.out)|exact HB.out)) hb);clear BK231;clear BK232;clear HB;have BK231:=n0_;have BK232:=n1_;have HB:=n2_;clear n0_ n1_ n2_;(try clear hb);(try clear hb2);(try clear hk);(try clear hi))|((with_reducible refine gate_dst (N:=4) rfl ?_);refine box_event ?hg (N:=4) ?hd (cs:=#[.string (⟨#[]⟩ : ByteArray),.int .i64 0]) (t:=89) ?hr ?_;(case hd=>rfl);(case hg=>rfl);(case hr=>first|(go_simp;done)|(go_simp;rfl));intro gb236 hg w51 hbox hb;have n0_:=Aside0.mk (blk_below (g:=gb231) (o:=.cells #[.string a0_0,.int .i64 a0_1] 89 (0,0)) (by (with_reducible repeat (first|apply blk_drewN|apply blk_drew|apply blk_alloc));exact BK231.out) hb);have n1_:=Aside0.mk (blk_below (g:=gb232) (o:=.cells #[.string (⟨#[]⟩ : ByteArray),.int .i64 0] 89 (0,0)) (by (with_reducible repeat (first|apply blk_drewN|apply blk_drew|apply blk_alloc));exact BK232.out) hb);have n2_:=Aside0.mk (below_step (by repeat (first|(with_reducible first|exact HB.out|apply below_alloc|apply pw_below_drewN|apply below_drew1|refine below_set ?_ GE231.out|refine below_set ?_ GE232.out)|exact HB.out)) hb);have n3_:=Aside0.mk (hbox);have n4_:=Aside0.mk ((by rw [hg];exact (below_size (by repeat (first|(with_reducible first|exact HB.out|apply below_alloc|apply pw_below_drewN|apply below_drew1|refine below_set ?_ GE231.out|refine below_set ?_ GE232.out)|exact HB.out))) : w.heap.size ≤ gb236));have n5_:=Aside0.mk ((by rw [hg];exact (below_size (by repeat (first|(with_reducible first|exact HB.out|apply below_alloc|apply pw_below_drewN|apply below_drew1|refine below_set ?_ GE231.out|refine below_set ?_ GE232.out)|exact HB.out))) : w.heap.size ≤ gb236));have n6_:=Aside0.mk ((by rw [hg];exact Nat.ne_of_lt (blk_lt (g:=gb231) (o:=.cells #[.string a0_0,.int .i64 a0_1] 89 (0,0)) (by (with_reducible repeat (first|apply blk_drewN|apply blk_drew|apply blk_alloc));exact BK231.out)) : gb231 ≠ gb236));have n7_:=Aside0.mk ((by rw [hg];exact Nat.ne_of_gt (blk_lt (g:=gb231) (o:=.cells #[.string a0_0,.int .i64 a0_1] 89 (0,0)) (by (with_reducible repeat (first|apply blk_drewN|apply blk_drew|apply blk_alloc));exact BK231.out)) : gb236 ≠ gb231));have n8_:=Aside0.mk ((by rw [hg];exact Nat.ne_of_lt (blk_lt (g:=gb232) (o:=.cells #[.string (⟨#[]⟩ : ByteArray),.int .i64 0] 89 (0,0)) (by (with_reducible repeat (first|apply blk_drewN|apply blk_drew|apply blk_alloc));exact BK232.out)) : gb232 ≠ gb236));have n9_:=Aside0.mk ((by rw [hg];exact Nat.ne_of_gt (blk_lt (g:=gb232) (o:=.cells #[.string (⟨#[]⟩ : ByteArray),.int .i64 0] 89 (0,0)) (by (with_reducible repeat (first|apply blk_drewN|apply blk_drew|apply blk_alloc));exact BK232.out)) : gb236 ≠ gb232));clear BK231;clear BK232;clear HB;have BK231:=n0_;have BK232:=n1_;have HB:=n2_;have BK236:=n3_;have GW236:=n4_;have GE236:=n5_;have NB231_236:=n6_;have NB236_231:=n7_;have NB232_236:=n8_;have NB236_232:=n9_;clear n0_ n1_ n2_ n3_ n4_ n5_ n6_ n7_ n8_ n9_;clear hb hbox hg;have hnb52:=NB236_231.out;have hnc52:=NB231_236.out;have hnb53:=NB236_232.out;have hnc53:=NB232_236.out;have hcz54_0 : w51.cell? ⟨gb236,0,none⟩ = some (.string (⟨#[]⟩ : ByteArray)):=(blk_cell BK236.out 0).trans rfl;have hcz54_1 : w51.cell? ⟨gb236,1,none⟩ = some (.int .i64 0):=(blk_cell BK236.out 1).trans rfl;have hfz54_0:=blk_frozen BK236.out 0;have hfz54_1:=blk_frozen BK236.out 1;have hcz55_0 : w51.cell? ⟨gb232,0,none⟩ = some (.string (⟨#[]⟩ : ByteArray)):=(blk_cell BK232.out 0).trans rfl;have hcz55_1 : w51.cell? ⟨gb232,1,none⟩ = some (.int .i64 0):=(blk_cell BK232.out 1).trans rfl;have hfz55_0:=blk_frozen BK232.out 0;have hfz55_1:=blk_frozen BK232.out 1))
  refine bodyPost_ret (results_ct rfl _ _ gb232 89 #[.string t233,.int .i64 t234] (0,0) _ rfl (by (with_reducible repeat (first|apply blk_drewN|apply blk_drew|apply blk_alloc));refine blk_put (cs:=#[.string t233,.int .i64 0]) ?_ 1 _ rfl;(with_reducible repeat (first|apply blk_drewN|apply blk_drew|apply blk_alloc));refine blk_put (cs:=#[.string (⟨#[]⟩ : ByteArray),.int .i64 0]) ?_ 0 _ rfl;(with_reducible repeat (first|apply blk_drewN|apply blk_drew|apply blk_alloc));refine blk_far ?_ NB232_236.out _;(with_reducible repeat (first|apply blk_drewN|apply blk_drew|apply blk_alloc));refine blk_far ?_ NB232_236.out _;(with_reducible repeat (first|apply blk_drewN|apply blk_drew|apply blk_alloc));exact BK232.out) Tryd.underlying89 rfl (by kernel_rfl)) rfl ?_
  exact ⟨by first|rfl|(simp [errW_none,errW_some] <;> rfl)|(simp [*,errW_none,errW_some] <;> rfl),by repeat (first|(with_reducible first|exact HB.out|apply below_alloc|apply pw_below_drewN|apply below_drew1|refine below_set ?_ GE231.out|refine below_set ?_ GE232.out|refine below_set ?_ GE236.out)|exact HB.out)⟩

/-! ### bosunref02_End: function 53 -/
def bosunref02_End.f (a0_0 : ByteArray) (a0_1 : Int) : Option (Int):=if a0_1 = 0 then (if a0_0.toList = ([] : List UInt8) then (some a0_1) else (some 6)) else (some a0_1)
set_option maxHeartbeats 8000000 in
set_option maxRecDepth 100000 in
theorem bosunref02_End.calls (a0_0 : ByteArray) (a0_1 : Int) (r : Int) (w : World) (h : bosunref02_End.f a0_0 a0_1 = some r) :
  Calls Tryd.prog 53 #[.agg #[.string a0_0,.int .i64 a0_1]] w fun e w'=>e = .returned (.int .i64 r) ∧ Below w.heap.size w w':=by
 have hu89:=Tryd.underlying89
 have HB:=Aside0.mk (Below.refl w.heap.size w)
 have H : (if a0_1 = 0 then (if a0_0.toList = ([] : List UInt8) then (some a0_1) else (some 6)) else (some a0_1)) = some r:=h
 clear h
 by_cases c2 : a0_1 = 0
 ·rw [if_pos c2] at H
  have c2b0 : (a0_1 == 0) = true:=beq_iff_eq.mpr c2
  have c2b1 : (a0_1 != 0) = false:=bne_eq_false_iff_eq.mpr c2
  clear c2
  by_cases c3 : a0_0.toList = ([] : List UInt8)
  ·rw [if_pos c3] at H
   have c3b0 : (a0_0.toList == ([] : List UInt8)) = true:=beq_iff_eq.mpr c3
   have c3b1 : (a0_0.toList != ([] : List UInt8)) = false:=bne_eq_false_iff_eq.mpr c3
   clear c3
   obtain rfl:=Option.some.inj H
   go_enter Tryd.func53,Tryd.ntmps53
   go_wp2_with (first|((with_reducible refine gate_dst (N:=1) rfl ?_);refine box_event ?hg (N:=1) ?hd (cs:=#[.string a0_0,.int .i64 a0_1]) (t:=89) ?hr ?_;(case hd=>rfl);(case hg=>rfl);(case hr=>first|(go_simp;done)|(go_simp;rfl));intro gb237 hg w4 hbox hb;have n0_:=Aside0.mk (below_step (by repeat (first|(with_reducible first|exact HB.out|apply below_alloc|apply pw_below_drewN|apply below_drew1)|exact HB.out)) hb);have n1_:=Aside0.mk (hbox);have n2_:=Aside0.mk ((by rw [hg];exact (below_size (by repeat (first|(with_reducible first|exact HB.out|apply below_alloc|apply pw_below_drewN|apply below_drew1)|exact HB.out))) : w.heap.size ≤ gb237));have n3_:=Aside0.mk ((by rw [hg];exact (below_size (by repeat (first|(with_reducible first|exact HB.out|apply below_alloc|apply pw_below_drewN|apply below_drew1)|exact HB.out))) : w.heap.size ≤ gb237));clear HB;have HB:=n0_;have BK237:=n1_;have GW237:=n2_;have GE237:=n3_;clear n0_ n1_ n2_ n3_;clear hb hbox hg;have hcz5_0 : w4.cell? ⟨gb237,0,none⟩ = some (.string a0_0):=(blk_cell BK237.out 0).trans rfl;have hcz5_1 : w4.cell? ⟨gb237,1,none⟩ = some (.int .i64 a0_1):=(blk_cell BK237.out 1).trans rfl;have hfz5_0:=blk_frozen BK237.out 0;have hfz5_1:=blk_frozen BK237.out 1))
   go_ret
   exact ⟨by first|rfl|(simp [errW_none,errW_some] <;> rfl)|(simp [*,errW_none,errW_some] <;> rfl),by repeat (first|(with_reducible first|exact HB.out|apply below_alloc|apply pw_below_drewN|apply below_drew1|refine below_set ?_ GE237.out)|exact HB.out)⟩
  ·rw [if_neg c3] at H
   have c3b0 : (a0_0.toList == ([] : List UInt8)) = false:=beq_eq_false_iff_ne.mpr c3
   have c3b1 : (a0_0.toList != ([] : List UInt8)) = true:=bne_iff_ne.mpr c3
   obtain rfl:=Option.some.inj H
   go_enter Tryd.func53,Tryd.ntmps53
   go_wp2_with (first|((with_reducible refine gate_dst (N:=1) rfl ?_);refine box_event ?hg (N:=1) ?hd (cs:=#[.string a0_0,.int .i64 a0_1]) (t:=89) ?hr ?_;(case hd=>rfl);(case hg=>rfl);(case hr=>first|(go_simp;done)|(go_simp;rfl));intro gb237 hg w6 hbox hb;have n0_:=Aside0.mk (below_step (by repeat (first|(with_reducible first|exact HB.out|apply below_alloc|apply pw_below_drewN|apply below_drew1)|exact HB.out)) hb);have n1_:=Aside0.mk (hbox);have n2_:=Aside0.mk ((by rw [hg];exact (below_size (by repeat (first|(with_reducible first|exact HB.out|apply below_alloc|apply pw_below_drewN|apply below_drew1)|exact HB.out))) : w.heap.size ≤ gb237));have n3_:=Aside0.mk ((by rw [hg];exact (below_size (by repeat (first|(with_reducible first|exact HB.out|apply below_alloc|apply pw_below_drewN|apply below_drew1)|exact HB.out))) : w.heap.size ≤ gb237));clear HB;have HB:=n0_;have BK237:=n1_;have GW237:=n2_;have GE237:=n3_;clear n0_ n1_ n2_ n3_;clear hb hbox hg;have hcz7_0 : w6.cell? ⟨gb237,0,none⟩ = some (.string a0_0):=(blk_cell BK237.out 0).trans rfl;have hcz7_1 : w6.cell? ⟨gb237,1,none⟩ = some (.int .i64 a0_1):=(blk_cell BK237.out 1).trans rfl;have hfz7_0:=blk_frozen BK237.out 0;have hfz7_1:=blk_frozen BK237.out 1))
   go_ret
   exact ⟨by first|rfl|(simp [errW_none,errW_some] <;> rfl)|(simp [*,errW_none,errW_some] <;> rfl),by repeat (first|(with_reducible first|exact HB.out|apply below_alloc|apply pw_below_drewN|apply below_drew1|refine below_set ?_ GE237.out)|exact HB.out)⟩
 ·rw [if_neg c2] at H
  have c2b0 : (a0_1 == 0) = false:=beq_eq_false_iff_ne.mpr c2
  have c2b1 : (a0_1 != 0) = true:=bne_iff_ne.mpr c2
  obtain rfl:=Option.some.inj H
  go_enter Tryd.func53,Tryd.ntmps53
  go_wp2_with (first|((with_reducible refine gate_dst (N:=1) rfl ?_);refine box_event ?hg (N:=1) ?hd (cs:=#[.string a0_0,.int .i64 a0_1]) (t:=89) ?hr ?_;(case hd=>rfl);(case hg=>rfl);(case hr=>first|(go_simp;done)|(go_simp;rfl));intro gb237 hg w8 hbox hb;have n0_:=Aside0.mk (below_step (by repeat (first|(with_reducible first|exact HB.out|apply below_alloc|apply pw_below_drewN|apply below_drew1)|exact HB.out)) hb);have n1_:=Aside0.mk (hbox);have n2_:=Aside0.mk ((by rw [hg];exact (below_size (by repeat (first|(with_reducible first|exact HB.out|apply below_alloc|apply pw_below_drewN|apply below_drew1)|exact HB.out))) : w.heap.size ≤ gb237));have n3_:=Aside0.mk ((by rw [hg];exact (below_size (by repeat (first|(with_reducible first|exact HB.out|apply below_alloc|apply pw_below_drewN|apply below_drew1)|exact HB.out))) : w.heap.size ≤ gb237));clear HB;have HB:=n0_;have BK237:=n1_;have GW237:=n2_;have GE237:=n3_;clear n0_ n1_ n2_ n3_;clear hb hbox hg;have hcz9_0 : w8.cell? ⟨gb237,0,none⟩ = some (.string a0_0):=(blk_cell BK237.out 0).trans rfl;have hcz9_1 : w8.cell? ⟨gb237,1,none⟩ = some (.int .i64 a0_1):=(blk_cell BK237.out 1).trans rfl;have hfz9_0:=blk_frozen BK237.out 0;have hfz9_1:=blk_frozen BK237.out 1))
  go_ret
  exact ⟨by first|rfl|(simp [errW_none,errW_some] <;> rfl)|(simp [*,errW_none,errW_some] <;> rfl),by repeat (first|(with_reducible first|exact HB.out|apply below_alloc|apply pw_below_drewN|apply below_drew1|refine below_set ?_ GE237.out)|exact HB.out)⟩

end Go.Proofs.YtpmbdcljphpcnaaDoor.GCk
