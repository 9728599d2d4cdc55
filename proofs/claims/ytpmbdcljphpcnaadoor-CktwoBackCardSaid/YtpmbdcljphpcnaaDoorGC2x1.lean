/- Written by this session's own program (wip/gen.py) out of the translation: plain Lean functions of the Go functions, and proofs that the calls come to their answers. No conditions beside those in the statements. -/
import Derived.Test.YtpmbdcljphpcnaaDoorGC2x0
namespace Go.Proofs.YtpmbdcljphpcnaaDoor.GC2
open Go.RowKit Go.Proofs.YtpmbdcljphpcnaaDoorW.PrintWords Go.Proofs.YtpmbdcljphpcnaaDoorW.PrintLast Go.Proofs.YtpmbdcljphpcnaaDoorW.PrintMore
attribute [local go_sem] max2_int min2_int max_two min_two max_three min_three max_four min_four   -- for this text's walks alone
set_option linter.unusedVariables false
set_option linter.unusedSimpArgs false

/-! ### bosunlaw18_Small: function 22 -/
mutual
def bosunlaw18_Small.l0 : Nat → Int → List (S98) → Int → Int → Option (Bool)
 | 0,_,_,_,_=>none
 | k + 1,x3,x9,x10,x11=>if x11 < x10 then (if 0 ≤ x11 then (if x11 < (x9.length : Int) then (bosunlaw18_Small.l1 k (wrap64 (x3 + (wrap64 ((wrap64 ((wrap64 (1 + (((rd_T98 x9 x11).f0).size : Int))) + (((rd_T98 x9 x11).f1).size : Int))) + (((rd_T98 x9 x11).f2).size : Int))))) x9 x10 x11 ((rd_T98 x9 x11).f5) (((rd_T98 x9 x11).f5).length : Int) 0) else (none)) else (none)) else (some true)
def bosunlaw18_Small.l1 : Nat → Int → List (S98) → Int → Int → List (S100) → Int → Int → Option (Bool)
 | 0,_,_,_,_,_,_,_=>none
 | k + 1,x3,x9,x10,x11,x30,x31,x32=>if x32 < x31 then (if 0 ≤ x32 then (if x32 < (x30.length : Int) then (bosunlaw18_Small.l1 k (wrap64 (x3 + (wrap64 ((wrap64 (1 + (((rd_T100 x30 x32).f0).size : Int))) + (((rd_T100 x30 x32).f1).size : Int))))) x9 x10 x11 x30 x31 (wrap64 (x32 + 1))) else (none)) else (none)) else (if x3 > 20000 then (some false) else (bosunlaw18_Small.l0 k x3 x9 x10 (wrap64 (x11 + 1))))
end
def bosunlaw18_Small.f (k : Nat) (a0_0 : Int) (l0_1 : List (S98)) : Option (Bool):=bosunlaw18_Small.l0 k 0 l0_1 (l0_1.length : Int) 0
theorem bosunlaw18_Small.mono_l : ∀ k,(∀ y0 y1 y2 y3,LeO (bosunlaw18_Small.l0 k y0 y1 y2 y3) (bosunlaw18_Small.l0 (k + 1) y0 y1 y2 y3)) ∧ (∀ y0 y1 y2 y3 y4 y5 y6,LeO (bosunlaw18_Small.l1 k y0 y1 y2 y3 y4 y5 y6) (bosunlaw18_Small.l1 (k + 1) y0 y1 y2 y3 y4 y5 y6))
 | 0=>⟨fun _ _ _ _ r h=>by simp [bosunlaw18_Small.l0] at h,fun _ _ _ _ _ _ _ r h=>by simp [bosunlaw18_Small.l1] at h⟩
 | k + 1=>by
  obtain ⟨ih0,ih1⟩:=bosunlaw18_Small.mono_l k
  refine ⟨?_,?_⟩
  ·intro y0 y1 y2 y3
   unfold bosunlaw18_Small.l0
   repeat' first
   | (with_reducible exact ih0 _ _ _ _)
   | (with_reducible exact ih1 _ _ _ _ _ _ _)
   | (with_reducible exact LeO.refl _)
   | (with_reducible exact LeO.none _)
   | (with_reducible refine LeO.ite ?_ ?_)
   | (with_reducible refine LeO.bind ?_ (fun _=>?_))
   | exact ih0 _ _ _ _
   | exact ih1 _ _ _ _ _ _ _
   | exact LeO.none _
   | refine LeO.ite ?_ ?_
   | refine LeO.bind ?_ (fun _=>?_)
  ·intro y0 y1 y2 y3 y4 y5 y6
   unfold bosunlaw18_Small.l1
   repeat' first
   | (with_reducible exact ih0 _ _ _ _)
   | (with_reducible exact ih1 _ _ _ _ _ _ _)
   | (with_reducible exact LeO.refl _)
   | (with_reducible exact LeO.none _)
   | (with_reducible refine LeO.ite ?_ ?_)
   | (with_reducible refine LeO.bind ?_ (fun _=>?_))
   | exact ih0 _ _ _ _
   | exact ih1 _ _ _ _ _ _ _
   | exact LeO.none _
   | refine LeO.ite ?_ ?_
   | refine LeO.bind ?_ (fun _=>?_)
theorem bosunlaw18_Small.mono : ∀ a0 a1 k,LeO (bosunlaw18_Small.f k a0 a1) (bosunlaw18_Small.f (k + 1) a0 a1):=by
 intro a0 a1 k
 obtain ⟨ih0,ih1⟩:=bosunlaw18_Small.mono_l k
 unfold bosunlaw18_Small.f
 repeat' first
   | (with_reducible exact ih0 _ _ _ _)
   | (with_reducible exact ih1 _ _ _ _ _ _ _)
   | (with_reducible exact LeO.refl _)
   | (with_reducible exact LeO.none _)
   | (with_reducible refine LeO.ite ?_ ?_)
   | (with_reducible refine LeO.bind ?_ (fun _=>?_))
   | exact ih0 _ _ _ _
   | exact ih1 _ _ _ _ _ _ _
   | exact LeO.none _
   | refine LeO.ite ?_ ?_
   | refine LeO.bind ?_ (fun _=>?_)
set_option maxHeartbeats 8000000 in
set_option maxRecDepth 100000 in
theorem bosunlaw18_Small.calls (k : Nat) (a0_0 : Int) (A0_1 : Option Addr) (c0_1 : Nat) (l0_1 : List (S98)) (r : Bool) (w : World) (hr0_1 : Kd.C k98 w A0_1 l0_1.length l0_1) (hc0_1 : l0_1.length ≤ c0_1) (h : bosunlaw18_Small.f k a0_0 l0_1 = some r) :
  Calls Tryd.prog 22 #[.agg #[.int .u64 a0_0,.slice A0_1 l0_1.length c0_1]] w fun e w'=>e = .returned (.bool r) ∧ Below w.heap.size w w':=by
 have hu49:=Tryd.underlying49
 have hu98:=Tryd.underlying98
 have hu100:=Tryd.underlying100
 have HR0_1:=Aside0.mk hr0_1
 have HC0_1:=Aside0.mk hc0_1
 clear hr0_1 hc0_1
 have HB:=Aside0.mk (Below.refl w.heap.size w)
 have H : (bosunlaw18_Small.l0 k 0 l0_1 (l0_1.length : Int) 0) = some r:=h
 clear h
 have H':=Aside0.mk H
 clear H
 go_enter Tryd.func22,Tryd.ntmps22
 go_wp2_with (first|((with_reducible refine gate_dst (N:=1) rfl ?_);refine box_event ?hg (N:=1) ?hd (cs:=#[.int .u64 a0_0,.slice A0_1 l0_1.length c0_1]) (t:=49) ?hr ?_;(case hd=>rfl);(case hg=>rfl);(case hr=>first|(go_simp;done)|(go_simp;rfl));intro gb101 hg w2 hbox hb;have n0_:=Aside0.mk (below_step (by repeat (first|(with_reducible first|exact HB.out|apply below_alloc|apply pw_below_drewN|apply below_drew1)|exact HB.out)) hb);have n1_:=Aside0.mk (hbox);have n2_:=Aside0.mk ((by rw [hg];exact (below_size (by repeat (first|(with_reducible first|exact HB.out|apply below_alloc|apply pw_below_drewN|apply below_drew1)|exact HB.out))) : w.heap.size ≤ gb101));have n3_:=Aside0.mk ((by rw [hg];exact (below_size (by repeat (first|(with_reducible first|exact HB.out|apply below_alloc|apply pw_below_drewN|apply below_drew1)|exact HB.out))) : w.heap.size ≤ gb101));clear HB;have HB:=n0_;have BK101:=n1_;have GW101:=n2_;have GE101:=n3_;clear n0_ n1_ n2_ n3_;clear hb hbox hg;have hcz3_0 : w2.cell? ⟨gb101,0,none⟩ = some (.int .u64 a0_0):=(blk_cell BK101.out 0).trans rfl;have hcz3_1 : w2.cell? ⟨gb101,1,none⟩ = some (.slice A0_1 l0_1.length c0_1):=(blk_cell BK101.out 1).trans rfl;have hfz3_0:=blk_frozen BK101.out 0;have hfz3_1:=blk_frozen BK101.out 1))
 go_loopg [3,11] k (fun kq v3 v11 w'=>∃ (x3_1 : Int) (x11_1 : Int),v3 = .int .i64 x3_1 ∧ v11 = .int .i64 x11_1 ∧ Aside0 (bosunlaw18_Small.l0 kq x3_1 l0_1 (l0_1.length : Int) x11_1 = some r) ∧ Aside0 (kq ≤ k) ∧ Aside0 (w'.heap[gb101]? = some (.cells #[.int .u64 a0_0,(.slice A0_1 l0_1.length c0_1)] 49 (0,0))) ∧ Aside0 (Below w.heap.size w w'))
 case atStart=>exact ⟨(0),(0),(by first|rfl|(simp;done)|(simp [*];done)),(by first|rfl|(simp;done)|(simp [*];done)),H',⟨Nat.le_refl _⟩,⟨by (with_reducible repeat (first|apply blk_drewN|apply blk_drew|apply blk_alloc));exact BK101.out⟩,⟨by repeat (first|(with_reducible first|exact HB.out|apply below_alloc|apply pw_below_drewN|apply below_drew1|refine below_set ?_ GE101.out)|exact HB.out)⟩⟩
 case round =>
  clear H'
  try clear c2
  try clear p2
  try clear hcz3_0
  try clear hcz3_1
  try clear hfz3_0
  try clear hfz3_1
  obtain ⟨x3_1,x11_1,rfl,rfl,HA,HK1,BK101,HB⟩:=hrel
  cases gk with
  | zero=>exact absurd HA.out (by simp [bosunlaw18_Small.l0])
  | succ k1 =>
   have H:=HA.out
   clear HA
   simp only [bosunlaw18_Small.l0] at H
   by_cases c4 : x11_1 < (l0_1.length : Int)
   ·rw [if_pos c4] at H
    have c4b0 : decide (x11_1 < (l0_1.length : Int)) = true:=decide_eq_true c4
    clear c4
    by_cases c5 : 0 ≤ x11_1
    ·rw [if_pos c5] at H
     have c5b0 : decide (0 ≤ x11_1) = true:=decide_eq_true c5
     clear c5
     by_cases c6 : x11_1 < (l0_1.length : Int)
     ·rw [if_pos c6] at H
      have c6b0 : decide (x11_1 < (l0_1.length : Int)) = true:=decide_eq_true c6
      clear c6
      have H':=Aside0.mk H
      clear H
      have p102 : 0 ≤ (x11_1 : Int):=of_decide_eq_true (by first|(with_reducible assumption)|assumption)
      have q102 : x11_1 < (l0_1.length : Int):=of_decide_eq_true (by first|(with_reducible assumption)|assumption)
      obtain ⟨ad102,A102_5,c102_5,e102,hx102_0,hx102_1,hx102_2,hx102_3,hx102_4,hx102_5,hl102_5,hi102_5⟩:=at_T98 HR0_1.out x11_1 p102 q102
      cases e102
      replace hx102_0:=(HB.out.cell (World.block_lt_of_cell? w _ hx102_0)).trans hx102_0
      replace hx102_1:=(HB.out.cell (World.block_lt_of_cell? w _ hx102_1)).trans hx102_1
      replace hx102_2:=(HB.out.cell (World.block_lt_of_cell? w _ hx102_2)).trans hx102_2
      replace hx102_3:=(HB.out.cell (World.block_lt_of_cell? w _ hx102_3)).trans hx102_3
      replace hx102_4:=(HB.out.cell (World.block_lt_of_cell? w _ hx102_4)).trans hx102_4
      replace hx102_5:=(HB.out.cell (World.block_lt_of_cell? w _ hx102_5)).trans hx102_5
      have HR102_5:=Aside0.mk hi102_5
      have HC102_5:=Aside0.mk hl102_5
      clear hi102_5 hl102_5
      replace p102:=eq_true p102
      replace q102:=eq_true q102
      go_wp2_with (first|((with_reducible refine gate_dst (N:=5) rfl ?_);refine box_event ?hg (N:=5) ?hd (cs:=#[.string (⟨#[]⟩ : ByteArray),.string (⟨#[]⟩ : ByteArray),.string (⟨#[]⟩ : ByteArray),.int .u8 0,.int .u16 0,.slice none 0 0]) (t:=98) ?hr ?_;(case hd=>rfl);(case hg=>rfl);(case hr=>first|(go_simp;done)|(go_simp;rfl));intro gb103 hg w7 hbox hb;have n0_:=Aside0.mk (blk_below (g:=gb101) (o:=.cells #[.int .u64 a0_0,.slice (some ad102) l0_1.length c0_1] 49 (0,0)) (by (with_reducible repeat (first|apply blk_drewN|apply blk_drew|apply blk_alloc));exact BK101.out) hb);have n1_:=Aside0.mk (below_step (by repeat (first|(with_reducible first|exact HB.out|apply below_alloc|apply pw_below_drewN|apply below_drew1|refine below_set ?_ GE101.out)|exact HB.out)) hb);have n2_:=Aside0.mk (hbox);have n3_:=Aside0.mk ((by rw [hg];exact (below_size (by repeat (first|(with_reducible first|exact HB.out|apply below_alloc|apply pw_below_drewN|apply below_drew1|refine below_set ?_ GE101.out)|exact HB.out))) : w.heap.size ≤ gb103));have n4_:=Aside0.mk ((by rw [hg];exact (below_size (by repeat (first|(with_reducible first|exact HB.out|apply below_alloc|apply pw_below_drewN|apply below_drew1|refine below_set ?_ GE101.out)|exact HB.out))) : w.heap.size ≤ gb103));have n5_:=Aside0.mk ((by rw [hg];exact Nat.ne_of_lt (blk_lt (g:=gb101) (o:=.cells #[.int .u64 a0_0,.slice (some ad102) l0_1.length c0_1] 49 (0,0)) (by (with_reducible repeat (first|apply blk_drewN|apply blk_drew|apply blk_alloc));exact BK101.out)) : gb101 ≠ gb103));have n6_:=Aside0.mk ((by rw [hg];exact Nat.ne_of_gt (blk_lt (g:=gb101) (o:=.cells #[.int .u64 a0_0,.slice (some ad102) l0_1.length c0_1] 49 (0,0)) (by (with_reducible repeat (first|apply blk_drewN|apply blk_drew|apply blk_alloc));exact BK101.out)) : gb103 ≠ gb101));clear BK101;clear HB;have BK101:=n0_;have HB:=n1_;have BK103:=n2_;have GW103:=n3_;have GE103:=n4_;have NB101_103:=n5_;have NB103_101:=n6_;clear n0_ n1_ n2_ n3_ n4_ n5_ n6_;clear hb hbox hg;have hnb8:=NB103_101.out;have hnc8:=NB101_103.out;have hcz9_0 : w7.cell? ⟨gb103,0,none⟩ = some (.string (⟨#[]⟩ : ByteArray)):=(blk_cell BK103.out 0).trans rfl;have hcz9_1 : w7.cell? ⟨gb103,1,none⟩ = some (.string (⟨#[]⟩ : ByteArray)):=(blk_cell BK103.out 1).trans rfl;have hcz9_2 : w7.cell? ⟨gb103,2,none⟩ = some (.string (⟨#[]⟩ : ByteArray)):=(blk_cell BK103.out 2).trans rfl;have hcz9_3 : w7.cell? ⟨gb103,3,none⟩ = some (.int .u8 0):=(blk_cell BK103.out 3).trans rfl;have hcz9_4 : w7.cell? ⟨gb103,4,none⟩ = some (.int .u16 0):=(blk_cell BK103.out 4).trans rfl;have hcz9_5 : w7.cell? ⟨gb103,5,none⟩ = some (.slice none 0 0):=(blk_cell BK103.out 5).trans rfl;have hfz9_0:=blk_frozen BK103.out 0;have hfz9_1:=blk_frozen BK103.out 1;have hfz9_2:=blk_frozen BK103.out 2;have hfz9_3:=blk_frozen BK103.out 3;have hfz9_4:=blk_frozen BK103.out 4;have hfz9_5:=blk_frozen BK103.out 5))
      go_loopg [3,32] k1 (fun kq v3 v32 w'=>∃ (x3_2 : Int) (x32_2 : Int),v3 = .int .i64 x3_2 ∧ v32 = .int .i64 x32_2 ∧ Aside0 (bosunlaw18_Small.l1 kq x3_2 l0_1 (l0_1.length : Int) x11_1 ((rd_T98 l0_1 x11_1).f5) (((rd_T98 l0_1 x11_1).f5).length : Int) x32_2 = some r) ∧ Aside0 (kq ≤ k1) ∧ Aside0 (w'.heap[gb101]? = some (.cells #[.int .u64 a0_0,(.slice (some ad102) l0_1.length c0_1)] 49 (0,0))) ∧ Aside0 (w'.heap[gb103]? = some (.cells #[.string ((rd_T98 l0_1 x11_1).f0),.string ((rd_T98 l0_1 x11_1).f1),.string ((rd_T98 l0_1 x11_1).f2),.int .u8 ((rd_T98 l0_1 x11_1).f3),.int .u16 ((rd_T98 l0_1 x11_1).f4),(.slice A102_5 ((rd_T98 l0_1 x11_1).f5).length c102_5)] 98 (0,0))) ∧ Aside0 (Below w.heap.size w w'))
      case atStart=>exact ⟨(wrap64 (x3_1 + (wrap64 ((wrap64 ((wrap64 (1 + (((rd_T98 l0_1 x11_1).f0).size : Int))) + (((rd_T98 l0_1 x11_1).f1).size : Int))) + (((rd_T98 l0_1 x11_1).f2).size : Int))))),(0),(by first|rfl|(simp;done)|(simp [*];done)),(by first|rfl|(simp;done)|(simp [*];done)),H',⟨Nat.le_refl _⟩,⟨by (with_reducible repeat (first|apply blk_drewN|apply blk_drew|apply blk_alloc));refine blk_far ?_ NB101_103.out _;(with_reducible repeat (first|apply blk_drewN|apply blk_drew|apply blk_alloc));refine blk_far ?_ NB101_103.out _;(with_reducible repeat (first|apply blk_drewN|apply blk_drew|apply blk_alloc));refine blk_far ?_ NB101_103.out _;(with_reducible repeat (first|apply blk_drewN|apply blk_drew|apply blk_alloc));refine blk_far ?_ NB101_103.out _;(with_reducible repeat (first|apply blk_drewN|apply blk_drew|apply blk_alloc));refine blk_far ?_ NB101_103.out _;(with_reducible repeat (first|apply blk_drewN|apply blk_drew|apply blk_alloc));refine blk_far ?_ NB101_103.out _;(with_reducible repeat (first|apply blk_drewN|apply blk_drew|apply blk_alloc));exact BK101.out⟩,⟨by (with_reducible repeat (first|apply blk_drewN|apply blk_drew|apply blk_alloc));refine blk_put (cs:=#[.string ((rd_T98 l0_1 x11_1).f0),.string ((rd_T98 l0_1 x11_1).f1),.string ((rd_T98 l0_1 x11_1).f2),.int .u8 ((rd_T98 l0_1 x11_1).f3),.int .u16 ((rd_T98 l0_1 x11_1).f4),.slice none 0 0]) ?_ 5 _ rfl;(with_reducible repeat (first|apply blk_drewN|apply blk_drew|apply blk_alloc));refine blk_put (cs:=#[.string ((rd_T98 l0_1 x11_1).f0),.string ((rd_T98 l0_1 x11_1).f1),.string ((rd_T98 l0_1 x11_1).f2),.int .u8 ((rd_T98 l0_1 x11_1).f3),.int .u16 0,.slice none 0 0]) ?_ 4 _ rfl;(with_reducible repeat (first|apply blk_drewN|apply blk_drew|apply blk_alloc));refine blk_put (cs:=#[.string ((rd_T98 l0_1 x11_1).f0),.string ((rd_T98 l0_1 x11_1).f1),.string ((rd_T98 l0_1 x11_1).f2),.int .u8 0,.int .u16 0,.slice none 0 0]) ?_ 3 _ rfl;(with_reducible repeat (first|apply blk_drewN|apply blk_drew|apply blk_alloc));refine blk_put (cs:=#[.string ((rd_T98 l0_1 x11_1).f0),.string ((rd_T98 l0_1 x11_1).f1),.string (⟨#[]⟩ : ByteArray),.int .u8 0,.int .u16 0,.slice none 0 0]) ?_ 2 _ rfl;(with_reducible repeat (first|apply blk_drewN|apply blk_drew|apply blk_alloc));refine blk_put (cs:=#[.string ((rd_T98 l0_1 x11_1).f0),.string (⟨#[]⟩ : ByteArray),.string (⟨#[]⟩ : ByteArray),.int .u8 0,.int .u16 0,.slice none 0 0]) ?_ 1 _ rfl;(with_reducible repeat (first|apply blk_drewN|apply blk_drew|apply blk_alloc));refine blk_put (cs:=#[.string (⟨#[]⟩ : ByteArray),.string (⟨#[]⟩ : ByteArray),.string (⟨#[]⟩ : ByteArray),.int .u8 0,.int .u16 0,.slice none 0 0]) ?_ 0 _ rfl;(with_reducible repeat (first|apply blk_drewN|apply blk_drew|apply blk_alloc));exact BK103.out⟩,⟨by repeat (first|(with_reducible first|exact HB.out|apply below_alloc|apply pw_below_drewN|apply below_drew1|refine below_set ?_ GE101.out|refine below_set ?_ GE103.out)|exact HB.out)⟩⟩
      case round =>
       clear H'
       try clear c1
       try clear p1
       try clear q1
       try clear hx1
       try clear c2
       try clear p2
       try clear c4
       try clear c4b0
       try clear c5
       try clear c5b0
       try clear c6
       try clear c6b0
       try clear p6
       try clear c8
       try clear hcz3_0
       try clear hcz3_1
       try clear hcz9_0
       try clear hcz9_1
       try clear hcz9_2
       try clear hcz9_3
       try clear hcz9_4
       try clear hcz9_5
       try clear hfz3_0
       try clear hfz3_1
       try clear hfz9_0
       try clear hfz9_1
       try clear hfz9_2
       try clear hfz9_3
       try clear hfz9_4
       try clear hfz9_5
       try clear hx102_0
       try clear hx102_1
       try clear hx102_2
       try clear hx102_3
       try clear hx102_4
       try clear hx102_5
       try clear p102
       try clear p2
       try clear q102
       obtain ⟨x3_2,x32_2,rfl,rfl,HA,HK2,BK101,BK103,HB⟩:=hrel
       cases gk with
       | zero=>exact absurd HA.out (by simp [bosunlaw18_Small.l1])
       | succ k2 =>
        have H:=HA.out
        clear HA
        simp only [bosunlaw18_Small.l1] at H
        by_cases c10 : x32_2 < (((rd_T98 l0_1 x11_1).f5).length : Int)
        ·rw [if_pos c10] at H
         have c10b0 : decide (x32_2 < (((rd_T98 l0_1 x11_1).f5).length : Int)) = true:=decide_eq_true c10
         clear c10
         by_cases c11 : 0 ≤ x32_2
         ·rw [if_pos c11] at H
          have c11b0 : decide (0 ≤ x32_2) = true:=decide_eq_true c11
          clear c11
          by_cases c12 : x32_2 < (((rd_T98 l0_1 x11_1).f5).length : Int)
          ·rw [if_pos c12] at H
           have c12b0 : decide (x32_2 < (((rd_T98 l0_1 x11_1).f5).length : Int)) = true:=decide_eq_true c12
           clear c12
           have H':=Aside0.mk H
           clear H
           have p104 : 0 ≤ (x32_2 : Int):=of_decide_eq_true (by first|(with_reducible assumption)|assumption)
           have q104 : x32_2 < (((rd_T98 l0_1 x11_1).f5).length : Int):=of_decide_eq_true (by first|(with_reducible assumption)|assumption)
           obtain ⟨ad104,e104,hx104_0,hx104_1⟩:=at_T100 HR102_5.out x32_2 p104 q104
           cases e104
           replace hx104_0:=(HB.out.cell (World.block_lt_of_cell? w _ hx104_0)).trans hx104_0
           replace hx104_1:=(HB.out.cell (World.block_lt_of_cell? w _ hx104_1)).trans hx104_1
           replace p104:=eq_true p104
           replace q104:=eq_true q104
           go_wp2_with (first|((with_reducible refine gate_dst (N:=7) rfl ?_);refine box_event ?hg (N:=7) ?hd (cs:=#[.string (⟨#[]⟩ : ByteArray),.string (⟨#[]⟩ : ByteArray)]) (t:=100) ?hr ?_;(case hd=>rfl);(case hg=>rfl);(case hr=>first|(go_simp;done)|(go_simp;rfl));intro gb105 hg w13 hbox hb;have n0_:=Aside0.mk (blk_below (g:=gb101) (o:=.cells #[.int .u64 a0_0,.slice (some ad102) l0_1.length c0_1] 49 (0,0)) (by (with_reducible repeat (first|apply blk_drewN|apply blk_drew|apply blk_alloc));exact BK101.out) hb);have n1_:=Aside0.mk (blk_below (g:=gb103) (o:=.cells #[.string ((rd_T98 l0_1 x11_1).f0),.string ((rd_T98 l0_1 x11_1).f1),.string ((rd_T98 l0_1 x11_1).f2),.int .u8 ((rd_T98 l0_1 x11_1).f3),.int .u16 ((rd_T98 l0_1 x11_1).f4),.slice (some ad104) ((rd_T98 l0_1 x11_1).f5).length c102_5] 98 (0,0)) (by (with_reducible repeat (first|apply blk_drewN|apply blk_drew|apply blk_alloc));exact BK103.out) hb);have n2_:=Aside0.mk (below_step (by repeat (first|(with_reducible first|exact HB.out|apply below_alloc|apply pw_below_drewN|apply below_drew1|refine below_set ?_ GE101.out|refine below_set ?_ GE103.out)|exact HB.out)) hb);have n3_:=Aside0.mk (hbox);have n4_:=Aside0.mk ((by rw [hg];exact (below_size (by repeat (first|(with_reducible first|exact HB.out|apply below_alloc|apply pw_below_drewN|apply below_drew1|refine below_set ?_ GE101.out|refine below_set ?_ GE103.out)|exact HB.out))) : w.heap.size ≤ gb105));have n5_:=Aside0.mk ((by rw [hg];exact (below_size (by repeat (first|(with_reducible first|exact HB.out|apply below_alloc|apply pw_below_drewN|apply below_drew1|refine below_set ?_ GE101.out|refine below_set ?_ GE103.out)|exact HB.out))) : w.heap.size ≤ gb105));have n6_:=Aside0.mk ((by rw [hg];exact Nat.ne_of_lt (blk_lt (g:=gb101) (o:=.cells #[.int .u64 a0_0,.slice (some ad102) l0_1.length c0_1] 49 (0,0)) (by (with_reducible repeat (first|apply blk_drewN|apply blk_drew|apply blk_alloc));exact BK101.out)) : gb101 ≠ gb105));have n7_:=Aside0.mk ((by rw [hg];exact Nat.ne_of_gt (blk_lt (g:=gb101) (o:=.cells #[.int .u64 a0_0,.slice (some ad102) l0_1.length c0_1] 49 (0,0)) (by (with_reducible repeat (first|apply blk_drewN|apply blk_drew|apply blk_alloc));exact BK101.out)) : gb105 ≠ gb101));have n8_:=Aside0.mk ((by rw [hg];exact Nat.ne_of_lt (blk_lt (g:=gb103) (o:=.cells #[.string ((rd_T98 l0_1 x11_1).f0),.string ((rd_T98 l0_1 x11_1).f1),.string ((rd_T98 l0_1 x11_1).f2),.int .u8 ((rd_T98 l0_1 x11_1).f3),.int .u16 ((rd_T98 l0_1 x11_1).f4),.slice (some ad104) ((rd_T98 l0_1 x11_1).f5).length c102_5] 98 (0,0)) (by (with_reducible repeat (first|apply blk_drewN|apply blk_drew|apply blk_alloc));exact BK103.out)) : gb103 ≠ gb105));have n9_:=Aside0.mk ((by rw [hg];exact Nat.ne_of_gt (blk_lt (g:=gb103) (o:=.cells #[.string ((rd_T98 l0_1 x11_1).f0),.string ((rd_T98 l0_1 x11_1).f1),.string ((rd_T98 l0_1 x11_1).f2),.int .u8 ((rd_T98 l0_1 x11_1).f3),.int .u16 ((rd_T98 l0_1 x11_1).f4),.slice (some ad104) ((rd_T98 l0_1 x11_1).f5).length c102_5] 98 (0,0)) (by (with_reducible repeat (first|apply blk_drewN|apply blk_drew|apply blk_alloc));exact BK103.out)) : gb105 ≠ gb103));clear BK101;clear BK103;clear HB;have BK101:=n0_;have BK103:=n1_;have HB:=n2_;have BK105:=n3_;have GW105:=n4_;have GE105:=n5_;have NB101_105:=n6_;have NB105_101:=n7_;have NB103_105:=n8_;have NB105_103:=n9_;clear n0_ n1_ n2_ n3_ n4_ n5_ n6_ n7_ n8_ n9_;clear hb hbox hg;have hnb14:=NB105_101.out;have hnc14:=NB101_105.out;have hnb15:=NB105_103.out;have hnc15:=NB103_105.out;have hcz16_0 : w13.cell? ⟨gb105,0,none⟩ = some (.string (⟨#[]⟩ : ByteArray)):=(blk_cell BK105.out 0).trans rfl;have hcz16_1 : w13.cell? ⟨gb105,1,none⟩ = some (.string (⟨#[]⟩ : ByteArray)):=(blk_cell BK105.out 1).trans rfl;have hfz16_0:=blk_frozen BK105.out 0;have hfz16_1:=blk_frozen BK105.out 1))
           go_roundg k2
           case measure=>have:=HK1.out;have:=HK2.out;omega
           case rel=>exact ⟨(wrap64 (x3_2 + (wrap64 ((wrap64 (1 + (((rd_T100 ((rd_T98 l0_1 x11_1).f5) x32_2).f0).size : Int))) + (((rd_T100 ((rd_T98 l0_1 x11_1).f5) x32_2).f1).size : Int))))),(wrap64 (x32_2 + 1)),(by first|rfl|(simp;done)|(simp [*];done)),(by first|rfl|(simp;done)|(simp [*];done)),H',⟨by have:=HK1.out;have:=HK2.out;omega⟩,⟨by (with_reducible repeat (first|apply blk_drewN|apply blk_drew|apply blk_alloc));refine blk_far ?_ NB101_105.out _;(with_reducible repeat (first|apply blk_drewN|apply blk_drew|apply blk_alloc));refine blk_far ?_ NB101_105.out _;(with_reducible repeat (first|apply blk_drewN|apply blk_drew|apply blk_alloc));exact BK101.out⟩,⟨by (with_reducible repeat (first|apply blk_drewN|apply blk_drew|apply blk_alloc));refine blk_far ?_ NB103_105.out _;(with_reducible repeat (first|apply blk_drewN|apply blk_drew|apply blk_alloc));refine blk_far ?_ NB103_105.out _;(with_reducible repeat (first|apply blk_drewN|apply blk_drew|apply blk_alloc));exact BK103.out⟩,⟨by repeat (first|(with_reducible first|exact HB.out|apply below_alloc|apply pw_below_drewN|apply below_drew1|refine below_set ?_ GE101.out|refine below_set ?_ GE103.out|refine below_set ?_ GE105.out)|exact HB.out)⟩⟩
          ·rw [if_neg c12] at H
           exact absurd H (by simp)
         ·rw [if_neg c11] at H
          exact absurd H (by simp)
        ·rw [if_neg c10] at H
         have c10b0 : decide (x32_2 < (((rd_T98 l0_1 x11_1).f5).length : Int)) = false:=decide_eq_false c10
         clear c10
         by_cases c17 : x3_2 > 20000
         ·rw [if_pos c17] at H
          have c17b0 : decide (20000 < x3_2) = true:=decide_eq_true c17
          clear c17
          obtain rfl:=Option.some.inj H
          go_wp2
          go_ret
          exact ⟨by first|rfl|(simp [errW_none,errW_some] <;> rfl)|(simp [*,errW_none,errW_some] <;> rfl),by repeat (first|(with_reducible first|exact HB.out|apply below_alloc|apply pw_below_drewN|apply below_drew1|refine below_set ?_ GE101.out|refine below_set ?_ GE103.out)|exact HB.out)⟩
         ·rw [if_neg c17] at H
          have c17b0 : decide (20000 < x3_2) = false:=decide_eq_false c17
          clear c17
          have H':=Aside0.mk H
          clear H
          go_wp2
          go_roundg k2
          case measure=>have:=HK1.out;have:=HK2.out;omega
          case rel=>exact ⟨(x3_2),(wrap64 (x11_1 + 1)),(by first|rfl|(simp;done)|(simp [*];done)),(by first|rfl|(simp;done)|(simp [*];done)),H',⟨by have:=HK1.out;have:=HK2.out;omega⟩,⟨by (with_reducible repeat (first|apply blk_drewN|apply blk_drew|apply blk_alloc));exact BK101.out⟩,⟨by repeat (first|(with_reducible first|exact HB.out|apply below_alloc|apply pw_below_drewN|apply below_drew1|refine below_set ?_ GE101.out|refine below_set ?_ GE103.out)|exact HB.out)⟩⟩
     ·rw [if_neg c6] at H
      exact absurd H (by simp)
    ·rw [if_neg c5] at H
     exact absurd H (by simp)
   ·rw [if_neg c4] at H
    have c4b0 : decide (x11_1 < (l0_1.length : Int)) = false:=decide_eq_false c4
    clear c4
    obtain rfl:=Option.some.inj H
    go_wp2
    go_ret
    exact ⟨by first|rfl|(simp [errW_none,errW_some] <;> rfl)|(simp [*,errW_none,errW_some] <;> rfl),by repeat (first|(with_reducible first|exact HB.out|apply below_alloc|apply pw_below_drewN|apply below_drew1|refine below_set ?_ GE101.out)|exact HB.out)⟩

end Go.Proofs.YtpmbdcljphpcnaaDoor.GC2
