/- Written by this session's own program (wip/gen.py) out of the translation: plain Lean functions of the Go functions, and proofs that the calls come to their answers. No conditions beside those in the statements. -/
import Derived.Test.YtpmbdcljphpcnaaDoorGC2x0
import Derived.Test.YtpmbdcljphpcnaaDoorGC2x6
namespace Go.Proofs.YtpmbdcljphpcnaaDoor.GC2
open Go.RowKit Go.Proofs.YtpmbdcljphpcnaaDoorW.PrintWords Go.Proofs.YtpmbdcljphpcnaaDoorW.PrintLast Go.Proofs.YtpmbdcljphpcnaaDoorW.PrintMore
attribute [local go_sem] max2_int min2_int max_two min_two max_three min_three max_four min_four   -- for this text's walks alone
set_option linter.unusedVariables false
set_option linter.unusedSimpArgs false

/-! ### bosunlaw18_Of: function 24 -/
mutual
def bosunlaw18_Of.l0 : Nat → List (S98) → Int → Int → Int → List (S103) → Option (Int × (List (S103)))
 | 0,_,_,_,_,_=>none
 | k + 1,x13,x14,x15,x160000,x160001=>if x15 < x14 then (if 0 ≤ x15 then (if x15 < (x13.length : Int) then (bosunlaw18_Of.l1 k x13 x14 x15 ((rd_T98 x13 x15).f5) (((rd_T98 x13 x15).f5).length : Int) 0 x160000 x160001 ((rd_T98 x13 x15).f0) ((rd_T98 x13 x15).f1) ((rd_T98 x13 x15).f2) ((rd_T98 x13 x15).f3) ((rd_T98 x13 x15).f4) ([] : List (S104))) else (none)) else (none)) else (some (x160000,x160001))
def bosunlaw18_Of.l1 : Nat → List (S98) → Int → Int → List (S100) → Int → Int → Int → List (S103) → ByteArray → ByteArray → ByteArray → Int → Int → List (S104) → Option (Int × (List (S103)))
 | 0,_,_,_,_,_,_,_,_,_,_,_,_,_,_=>none
 | k + 1,x13,x14,x15,x31,x32,x33,x160000,x160001,x163000,x163001,x163002,x163003,x163004,x163005=>if x33 < x32 then (if 0 ≤ x33 then (if x33 < (x31.length : Int) then (if x163005.length < 4398046511104 then (bosunlaw18_Of.l1 k x13 x14 x15 x31 x32 (wrap64 (x33 + 1)) x160000 x160001 x163000 x163001 x163002 x163003 x163004 (x163005 ++ [(⟨(rd_T100 x31 x33).f0,(rd_T100 x31 x33).f1⟩ : S104)])) else (none)) else (none)) else (none)) else (if x160001.length < 1759218604441 then (bosunlaw18_Of.l0 k x13 x14 (wrap64 (x15 + 1)) x160000 (x160001 ++ [(⟨x163000,x163001,x163002,x163003,x163004,x163005⟩ : S103)])) else (none))
end
def bosunlaw18_Of.f (k : Nat) (a0_0 : Int) (l0_1 : List (S98)) : Option (Int × (List (S103))):=bosunlaw18_Of.l0 k l0_1 (l0_1.length : Int) 0 a0_0 ([] : List (S103))
theorem bosunlaw18_Of.mono_l : ∀ k,(∀ y0 y1 y2 y3 y4,LeO (bosunlaw18_Of.l0 k y0 y1 y2 y3 y4) (bosunlaw18_Of.l0 (k + 1) y0 y1 y2 y3 y4)) ∧ (∀ y0 y1 y2 y3 y4 y5 y6 y7 y8 y9 y10 y11 y12 y13,LeO (bosunlaw18_Of.l1 k y0 y1 y2 y3 y4 y5 y6 y7 y8 y9 y10 y11 y12 y13) (bosunlaw18_Of.l1 (k + 1) y0 y1 y2 y3 y4 y5 y6 y7 y8 y9 y10 y11 y12 y13))
 | 0=>⟨fun _ _ _ _ _ r h=>by simp [bosunlaw18_Of.l0] at h,fun _ _ _ _ _ _ _ _ _ _ _ _ _ _ r h=>by simp [bosunlaw18_Of.l1] at h⟩
 | k + 1=>by
  obtain ⟨ih0,ih1⟩:=bosunlaw18_Of.mono_l k
  refine ⟨?_,?_⟩
  ·intro y0 y1 y2 y3 y4
   unfold bosunlaw18_Of.l0
   repeat' first
   | (with_reducible exact ih0 _ _ _ _ _)
   | (with_reducible exact ih1 _ _ _ _ _ _ _ _ _ _ _ _ _ _)
   | (with_reducible exact LeO.refl _)
   | (with_reducible exact LeO.none _)
   | (with_reducible refine LeO.ite ?_ ?_)
   | (with_reducible refine LeO.bind ?_ (fun _=>?_))
   | exact ih0 _ _ _ _ _
   | exact ih1 _ _ _ _ _ _ _ _ _ _ _ _ _ _
   | exact LeO.none _
   | refine LeO.ite ?_ ?_
   | refine LeO.bind ?_ (fun _=>?_)
  ·intro y0 y1 y2 y3 y4 y5 y6 y7 y8 y9 y10 y11 y12 y13
   unfold bosunlaw18_Of.l1
   repeat' first
   | (with_reducible exact ih0 _ _ _ _ _)
   | (with_reducible exact ih1 _ _ _ _ _ _ _ _ _ _ _ _ _ _)
   | (with_reducible exact LeO.refl _)
   | (with_reducible exact LeO.none _)
   | (with_reducible refine LeO.ite ?_ ?_)
   | (with_reducible refine LeO.bind ?_ (fun _=>?_))
   | exact ih0 _ _ _ _ _
   | exact ih1 _ _ _ _ _ _ _ _ _ _ _ _ _ _
   | exact LeO.none _
   | refine LeO.ite ?_ ?_
   | refine LeO.bind ?_ (fun _=>?_)
theorem bosunlaw18_Of.mono : ∀ a0 a1 k,LeO (bosunlaw18_Of.f k a0 a1) (bosunlaw18_Of.f (k + 1) a0 a1):=by
 intro a0 a1 k
 obtain ⟨ih0,ih1⟩:=bosunlaw18_Of.mono_l k
 unfold bosunlaw18_Of.f
 repeat' first
   | (with_reducible exact ih0 _ _ _ _ _)
   | (with_reducible exact ih1 _ _ _ _ _ _ _ _ _ _ _ _ _ _)
   | (with_reducible exact LeO.refl _)
   | (with_reducible exact LeO.none _)
   | (with_reducible refine LeO.ite ?_ ?_)
   | (with_reducible refine LeO.bind ?_ (fun _=>?_))
   | exact ih0 _ _ _ _ _
   | exact ih1 _ _ _ _ _ _ _ _ _ _ _ _ _ _
   | exact LeO.none _
   | refine LeO.ite ?_ ?_
   | refine LeO.bind ?_ (fun _=>?_)
set_option maxHeartbeats 8000000 in
set_option maxRecDepth 100000 in
theorem bosunlaw18_Of.calls (k : Nat) (a0_0 : Int) (A0_1 : Option Addr) (c0_1 : Nat) (l0_1 : List (S98)) (r1 : Int) (r2 : List (S103)) (w : World) (hr0_1 : Kd.C k98 w A0_1 l0_1.length l0_1) (hc0_1 : l0_1.length ≤ c0_1) (h : bosunlaw18_Of.f k a0_0 l0_1 = some (r1,r2)) :
  Calls Tryd.prog 24 #[.agg #[.int .u64 a0_0,.slice A0_1 l0_1.length c0_1]] w fun e w'=>∃ v1_ : Value,e = .returned (.agg #[.int .u64 r1,v1_]) ∧ Kd.S k103 103 w' w.heap.size (fun _=>True) v1_ r2 ∧ Below w.heap.size w w':=by
 have hu49:=Tryd.underlying49
 have hu53:=Tryd.underlying53
 have hu98:=Tryd.underlying98
 have hu103:=Tryd.underlying103
 have hu100:=Tryd.underlying100
 have HR0_1:=Aside0.mk hr0_1
 have HC0_1:=Aside0.mk hc0_1
 clear hr0_1 hc0_1
 have HB:=Aside0.mk (Below.refl w.heap.size w)
 have H : (bosunlaw18_Of.l0 k l0_1 (l0_1.length : Int) 0 a0_0 ([] : List (S103))) = some (r1,r2):=h
 clear h
 have H':=Aside0.mk H
 clear H
 go_enter Tryd.func24,Tryd.ntmps24
 go_wp2_with (first|((with_reducible refine gate_dst (N:=1) rfl ?_);refine box_event ?hg (N:=1) ?hd (cs:=#[.int .u64 a0_0,.slice A0_1 l0_1.length c0_1]) (t:=49) ?hr ?_;(case hd=>rfl);(case hg=>rfl);(case hr=>first|(go_simp;done)|(go_simp;rfl));intro gb157 hg w2 hbox hb;have n0_:=Aside0.mk (below_step (by repeat (first|(with_reducible first|exact HB.out|apply below_alloc|apply pw_below_drewN|apply below_drew1)|exact HB.out)) hb);have n1_:=Aside0.mk (hbox);have n2_:=Aside0.mk ((by rw [hg];exact (below_size (by repeat (first|(with_reducible first|exact HB.out|apply below_alloc|apply pw_below_drewN|apply below_drew1)|exact HB.out))) : w.heap.size ≤ gb157));have n3_:=Aside0.mk ((by rw [hg];exact (below_size (by repeat (first|(with_reducible first|exact HB.out|apply below_alloc|apply pw_below_drewN|apply below_drew1)|exact HB.out))) : w.heap.size ≤ gb157));clear HB;have HB:=n0_;have BK157:=n1_;have GW157:=n2_;have GE157:=n3_;clear n0_ n1_ n2_ n3_;clear hb hbox hg)|((with_reducible refine gate_dst (N:=2) rfl ?_);refine box_event ?hg (N:=2) ?hd (cs:=#[.int .u64 0,.slice none 0 0]) (t:=53) ?hr ?_;(case hd=>rfl);(case hg=>rfl);(case hr=>first|(go_simp;done)|(go_simp;rfl));intro gb158 hg w3 hbox hb;have n0_:=Aside0.mk (blk_below (g:=gb157) (o:=.cells #[.int .u64 a0_0,.slice A0_1 l0_1.length c0_1] 49 (0,0)) (by (with_reducible repeat (first|apply blk_drewN|apply blk_drew|apply blk_alloc));exact BK157.out) hb);have n1_:=Aside0.mk (below_step (by repeat (first|(with_reducible first|exact HB.out|apply below_alloc|apply pw_below_drewN|apply below_drew1|refine below_set ?_ GE157.out)|exact HB.out)) hb);have n2_:=Aside0.mk (hbox);have n3_:=Aside0.mk ((by rw [hg];exact (below_size (by repeat (first|(with_reducible first|exact HB.out|apply below_alloc|apply pw_below_drewN|apply below_drew1|refine below_set ?_ GE157.out)|exact HB.out))) : w.heap.size ≤ gb158));have n4_:=Aside0.mk ((by rw [hg];exact (below_size (by repeat (first|(with_reducible first|exact HB.out|apply below_alloc|apply pw_below_drewN|apply below_drew1|refine below_set ?_ GE157.out)|exact HB.out))) : w.heap.size ≤ gb158));have n5_:=Aside0.mk ((by rw [hg];exact Nat.ne_of_lt (blk_lt (g:=gb157) (o:=.cells #[.int .u64 a0_0,.slice A0_1 l0_1.length c0_1] 49 (0,0)) (by (with_reducible repeat (first|apply blk_drewN|apply blk_drew|apply blk_alloc));exact BK157.out)) : gb157 ≠ gb158));have n6_:=Aside0.mk ((by rw [hg];exact Nat.ne_of_gt (blk_lt (g:=gb157) (o:=.cells #[.int .u64 a0_0,.slice A0_1 l0_1.length c0_1] 49 (0,0)) (by (with_reducible repeat (first|apply blk_drewN|apply blk_drew|apply blk_alloc));exact BK157.out)) : gb158 ≠ gb157));clear BK157;clear HB;have BK157:=n0_;have HB:=n1_;have BK158:=n2_;have GW158:=n3_;have GE158:=n4_;have NB157_158:=n5_;have NB158_157:=n6_;clear n0_ n1_ n2_ n3_ n4_ n5_ n6_;clear hb hbox hg;have hnb4:=NB157_158.out;have hnc4:=NB158_157.out;have hcz5_0 : w3.cell? ⟨gb157,0,none⟩ = some (.int .u64 a0_0):=(blk_cell BK157.out 0).trans rfl;have hcz5_1 : w3.cell? ⟨gb157,1,none⟩ = some (.slice A0_1 l0_1.length c0_1):=(blk_cell BK157.out 1).trans rfl;have hfz5_0:=blk_frozen BK157.out 0;have hfz5_1:=blk_frozen BK157.out 1)|((with_reducible refine gate_dst (N:=3) rfl ?_);refine box_event ?hg (N:=3) ?hd (cs:=#[.int .u64 0,.slice none 0 0]) (t:=53) ?hr ?_;(case hd=>rfl);(case hg=>rfl);(case hr=>first|(go_simp;done)|(go_simp;rfl));intro gb159 hg w6 hbox hb;have n0_:=Aside0.mk (blk_below (g:=gb157) (o:=.cells #[.int .u64 a0_0,.slice A0_1 l0_1.length c0_1] 49 (0,0)) (by (with_reducible repeat (first|apply blk_drewN|apply blk_drew|apply blk_alloc));exact BK157.out) hb);have n1_:=Aside0.mk (blk_below (g:=gb158) (o:=.cells #[.int .u64 0,.slice none 0 0] 53 (0,0)) (by (with_reducible repeat (first|apply blk_drewN|apply blk_drew|apply blk_alloc));exact BK158.out) hb);have n2_:=Aside0.mk (below_step (by repeat (first|(with_reducible first|exact HB.out|apply below_alloc|apply pw_below_drewN|apply below_drew1|refine below_set ?_ GE157.out|refine below_set ?_ GE158.out)|exact HB.out)) hb);have n3_:=Aside0.mk (hbox);have n4_:=Aside0.mk ((by rw [hg];exact (below_size (by repeat (first|(with_reducible first|exact HB.out|apply below_alloc|apply pw_below_drewN|apply below_drew1|refine below_set ?_ GE157.out|refine below_set ?_ GE158.out)|exact HB.out))) : w.heap.size ≤ gb159));have n5_:=Aside0.mk ((by rw [hg];exact (below_size (by repeat (first|(with_reducible first|exact HB.out|apply below_alloc|apply pw_below_drewN|apply below_drew1|refine below_set ?_ GE157.out|refine below_set ?_ GE158.out)|exact HB.out))) : w.heap.size ≤ gb159));have n6_:=Aside0.mk ((by rw [hg];exact Nat.ne_of_lt (blk_lt (g:=gb157) (o:=.cells #[.int .u64 a0_0,.slice A0_1 l0_1.length c0_1] 49 (0,0)) (by (with_reducible repeat (first|apply blk_drewN|apply blk_drew|apply blk_alloc));exact BK157.out)) : gb157 ≠ gb159));have n7_:=Aside0.mk ((by rw [hg];exact Nat.ne_of_gt (blk_lt (g:=gb157) (o:=.cells #[.int .u64 a0_0,.slice A0_1 l0_1.length c0_1] 49 (0,0)) (by (with_reducible repeat (first|apply blk_drewN|apply blk_drew|apply blk_alloc));exact BK157.out)) : gb159 ≠ gb157));have n8_:=Aside0.mk ((by rw [hg];exact Nat.ne_of_lt (blk_lt (g:=gb158) (o:=.cells #[.int .u64 0,.slice none 0 0] 53 (0,0)) (by (with_reducible repeat (first|apply blk_drewN|apply blk_drew|apply blk_alloc));exact BK158.out)) : gb158 ≠ gb159));have n9_:=Aside0.mk ((by rw [hg];exact Nat.ne_of_gt (blk_lt (g:=gb158) (o:=.cells #[.int .u64 0,.slice none 0 0] 53 (0,0)) (by (with_reducible repeat (first|apply blk_drewN|apply blk_drew|apply blk_alloc));exact BK158.out)) : gb159 ≠ gb158));clear BK157;clear BK158;clear HB;have BK157:=n0_;have BK158:=n1_;have HB:=n2_;have BK159:=n3_;have GW159:=n4_;have GE159:=n5_;have NB157_159:=n6_;have NB159_157:=n7_;have NB158_159:=n8_;have NB159_158:=n9_;clear n0_ n1_ n2_ n3_ n4_ n5_ n6_ n7_ n8_ n9_;clear hb hbox hg;have hnb7:=NB159_157.out;have hnc7:=NB157_159.out;have hnb8:=NB159_158.out;have hnc8:=NB158_159.out;have hcz9_0 : w6.cell? ⟨gb159,0,none⟩ = some (.int .u64 0):=(blk_cell BK159.out 0).trans rfl;have hcz9_1 : w6.cell? ⟨gb159,1,none⟩ = some (.slice none 0 0):=(blk_cell BK159.out 1).trans rfl;have hfz9_0:=blk_frozen BK159.out 0;have hfz9_1:=blk_frozen BK159.out 1;have hcz10_0 : w6.cell? ⟨gb157,0,none⟩ = some (.int .u64 a0_0):=(blk_cell BK157.out 0).trans rfl;have hcz10_1 : w6.cell? ⟨gb157,1,none⟩ = some (.slice A0_1 l0_1.length c0_1):=(blk_cell BK157.out 1).trans rfl;have hfz10_0:=blk_frozen BK157.out 0;have hfz10_1:=blk_frozen BK157.out 1))
 go_loopg [15] k (fun kq v15 w'=>∃ (x15_1 : Int) (x160001_1 : List (S103)) (u160001 : Value),v15 = .int .i64 x15_1 ∧ Aside0 (bosunlaw18_Of.l0 kq l0_1 (l0_1.length : Int) x15_1 a0_0 x160001_1 = some (r1,r2)) ∧ Aside0 (kq ≤ k) ∧ Aside0 (Kd.S k103 103 w' w.heap.size (fun _=>True) u160001 x160001_1) ∧ Aside0 (w'.heap[gb157]? = some (.cells #[.int .u64 a0_0,(.slice A0_1 l0_1.length c0_1)] 49 (0,0))) ∧ Aside0 (w'.heap[gb158]? = some (.cells #[.int .u64 0,(.slice none 0 0)] 53 (0,0))) ∧ Aside0 (w'.heap[gb159]? = some (.cells #[.int .u64 a0_0,u160001] 53 (0,0))) ∧ Aside0 (Below w.heap.size w w'))
 case atStart=>exact ⟨(0),(([] : List (S103))),(.slice none 0 0),(by first|rfl|(simp;done)|(simp [*];done)),H',⟨Nat.le_refl _⟩,⟨by first|exact Kd.S_nil _ _ _ _ _|exact Kd.N_nil _ _ _ _ _|exact Kd.V_nil _ _ _ _ _|exact Kd.Q_nil _ _ _ _ _|exact Kd.R_nil _ _ _ _ _⟩,⟨by (with_reducible repeat (first|apply blk_drewN|apply blk_drew|apply blk_alloc));refine blk_far ?_ NB157_159.out _;(with_reducible repeat (first|apply blk_drewN|apply blk_drew|apply blk_alloc));refine blk_far ?_ NB157_159.out _;(with_reducible repeat (first|apply blk_drewN|apply blk_drew|apply blk_alloc));exact BK157.out⟩,⟨by (with_reducible repeat (first|apply blk_drewN|apply blk_drew|apply blk_alloc));refine blk_far ?_ NB158_159.out _;(with_reducible repeat (first|apply blk_drewN|apply blk_drew|apply blk_alloc));refine blk_far ?_ NB158_159.out _;(with_reducible repeat (first|apply blk_drewN|apply blk_drew|apply blk_alloc));exact BK158.out⟩,⟨by (with_reducible repeat (first|apply blk_drewN|apply blk_drew|apply blk_alloc));refine blk_put (cs:=#[.int .u64 a0_0,.slice none 0 0]) ?_ 1 _ rfl;(with_reducible repeat (first|apply blk_drewN|apply blk_drew|apply blk_alloc));refine blk_put (cs:=#[.int .u64 0,.slice none 0 0]) ?_ 0 _ rfl;(with_reducible repeat (first|apply blk_drewN|apply blk_drew|apply blk_alloc));exact BK159.out⟩,⟨by repeat (first|(with_reducible first|exact HB.out|apply below_alloc|apply pw_below_drewN|apply below_drew1|refine below_set ?_ GE157.out|refine below_set ?_ GE158.out|refine below_set ?_ GE159.out)|exact HB.out)⟩⟩
 case round =>
  clear H'
  try clear c2
  try clear p2
  try clear c4
  try clear c7
  try clear c8
  try clear hcz10_0
  try clear hcz10_1
  try clear hcz5_0
  try clear hcz5_1
  try clear hcz9_0
  try clear hcz9_1
  try clear hfz10_0
  try clear hfz10_1
  try clear hfz5_0
  try clear hfz5_1
  try clear hfz9_0
  try clear hfz9_1
  obtain ⟨x15_1,x160001_1,u160001,rfl,HA,HK1,HO_160001,BK157,BK158,BK159,HB⟩:=hrel
  cases gk with
  | zero=>exact absurd HA.out (by simp [bosunlaw18_Of.l0])
  | succ k1 =>
   have H:=HA.out
   clear HA
   simp only [bosunlaw18_Of.l0] at H
   by_cases c11 : x15_1 < (l0_1.length : Int)
   ·rw [if_pos c11] at H
    have c11b0 : decide (x15_1 < (l0_1.length : Int)) = true:=decide_eq_true c11
    clear c11
    by_cases c12 : 0 ≤ x15_1
    ·rw [if_pos c12] at H
     have c12b0 : decide (0 ≤ x15_1) = true:=decide_eq_true c12
     clear c12
     by_cases c13 : x15_1 < (l0_1.length : Int)
     ·rw [if_pos c13] at H
      have c13b0 : decide (x15_1 < (l0_1.length : Int)) = true:=decide_eq_true c13
      clear c13
      have H':=Aside0.mk H
      clear H
      have p160 : 0 ≤ (x15_1 : Int):=of_decide_eq_true (by first|(with_reducible assumption)|assumption)
      have q160 : x15_1 < (l0_1.length : Int):=of_decide_eq_true (by first|(with_reducible assumption)|assumption)
      obtain ⟨ad160,A160_5,c160_5,e160,hx160_0,hx160_1,hx160_2,hx160_3,hx160_4,hx160_5,hl160_5,hi160_5⟩:=at_T98 HR0_1.out x15_1 p160 q160
      cases e160
      replace hx160_0:=(HB.out.cell (World.block_lt_of_cell? w _ hx160_0)).trans hx160_0
      replace hx160_1:=(HB.out.cell (World.block_lt_of_cell? w _ hx160_1)).trans hx160_1
      replace hx160_2:=(HB.out.cell (World.block_lt_of_cell? w _ hx160_2)).trans hx160_2
      replace hx160_3:=(HB.out.cell (World.block_lt_of_cell? w _ hx160_3)).trans hx160_3
      replace hx160_4:=(HB.out.cell (World.block_lt_of_cell? w _ hx160_4)).trans hx160_4
      replace hx160_5:=(HB.out.cell (World.block_lt_of_cell? w _ hx160_5)).trans hx160_5
      have HR160_5:=Aside0.mk hi160_5
      have HC160_5:=Aside0.mk hl160_5
      clear hi160_5 hl160_5
      replace p160:=eq_true p160
      replace q160:=eq_true q160
      go_wp2_with (first|((with_reducible refine gate_dst (N:=5) rfl ?_);refine box_event ?hg (N:=5) ?hd (cs:=#[.string (⟨#[]⟩ : ByteArray),.string (⟨#[]⟩ : ByteArray),.string (⟨#[]⟩ : ByteArray),.int .u8 0,.int .u16 0,.slice none 0 0]) (t:=98) ?hr ?_;(case hd=>rfl);(case hg=>rfl);(case hr=>first|(go_simp;done)|(go_simp;rfl));intro gb161 hg w14 hbox hb;have n0_:=Aside0.mk (Kd.S_below (by (with_reducible repeat (first|apply Kd.S_alloc|apply Kd.S_drewN|apply Kd.S_drew));exact HO_160001.out) hb);have n1_:=Aside0.mk (blk_below (g:=gb157) (o:=.cells #[.int .u64 a0_0,.slice (some ad160) l0_1.length c0_1] 49 (0,0)) (by (with_reducible repeat (first|apply blk_drewN|apply blk_drew|apply blk_alloc));exact BK157.out) hb);have n2_:=Aside0.mk (blk_below (g:=gb158) (o:=.cells #[.int .u64 0,.slice none 0 0] 53 (0,0)) (by (with_reducible repeat (first|apply blk_drewN|apply blk_drew|apply blk_alloc));exact BK158.out) hb);have n3_:=Aside0.mk (blk_below (g:=gb159) (o:=.cells #[.int .u64 a0_0,u160001] 53 (0,0)) (by (with_reducible repeat (first|apply blk_drewN|apply blk_drew|apply blk_alloc));exact BK159.out) hb);have n4_:=Aside0.mk (below_step (by repeat (first|(with_reducible first|exact HB.out|apply below_alloc|apply pw_below_drewN|apply below_drew1|refine below_set ?_ GE157.out|refine below_set ?_ GE158.out|refine below_set ?_ GE159.out)|exact HB.out)) hb);have n5_:=Aside0.mk (hbox);have n6_:=Aside0.mk ((by rw [hg];exact (below_size (by repeat (first|(with_reducible first|exact HB.out|apply below_alloc|apply pw_below_drewN|apply below_drew1|refine below_set ?_ GE157.out|refine below_set ?_ GE158.out|refine below_set ?_ GE159.out)|exact HB.out))) : w.heap.size ≤ gb161));have n7_:=Aside0.mk ((by rw [hg];exact (below_size (by repeat (first|(with_reducible first|exact HB.out|apply below_alloc|apply pw_below_drewN|apply below_drew1|refine below_set ?_ GE157.out|refine below_set ?_ GE158.out|refine below_set ?_ GE159.out)|exact HB.out))) : w.heap.size ≤ gb161));have n8_:=Aside0.mk ((by rw [hg];exact Nat.ne_of_lt (blk_lt (g:=gb157) (o:=.cells #[.int .u64 a0_0,.slice (some ad160) l0_1.length c0_1] 49 (0,0)) (by (with_reducible repeat (first|apply blk_drewN|apply blk_drew|apply blk_alloc));exact BK157.out)) : gb157 ≠ gb161));have n9_:=Aside0.mk ((by rw [hg];exact Nat.ne_of_gt (blk_lt (g:=gb157) (o:=.cells #[.int .u64 a0_0,.slice (some ad160) l0_1.length c0_1] 49 (0,0)) (by (with_reducible repeat (first|apply blk_drewN|apply blk_drew|apply blk_alloc));exact BK157.out)) : gb161 ≠ gb157));have n10_:=Aside0.mk ((by rw [hg];exact Nat.ne_of_lt (blk_lt (g:=gb158) (o:=.cells #[.int .u64 0,.slice none 0 0] 53 (0,0)) (by (with_reducible repeat (first|apply blk_drewN|apply blk_drew|apply blk_alloc));exact BK158.out)) : gb158 ≠ gb161));have n11_:=Aside0.mk ((by rw [hg];exact Nat.ne_of_gt (blk_lt (g:=gb158) (o:=.cells #[.int .u64 0,.slice none 0 0] 53 (0,0)) (by (with_reducible repeat (first|apply blk_drewN|apply blk_drew|apply blk_alloc));exact BK158.out)) : gb161 ≠ gb158));have n12_:=Aside0.mk ((by rw [hg];exact Nat.ne_of_lt (blk_lt (g:=gb159) (o:=.cells #[.int .u64 a0_0,u160001] 53 (0,0)) (by (with_reducible repeat (first|apply blk_drewN|apply blk_drew|apply blk_alloc));exact BK159.out)) : gb159 ≠ gb161));have n13_:=Aside0.mk ((by rw [hg];exact Nat.ne_of_gt (blk_lt (g:=gb159) (o:=.cells #[.int .u64 a0_0,u160001] 53 (0,0)) (by (with_reducible repeat (first|apply blk_drewN|apply blk_drew|apply blk_alloc));exact BK159.out)) : gb161 ≠ gb159));clear HO_160001;clear BK157;clear BK158;clear BK159;clear HB;have HO_160001:=n0_;have BK157:=n1_;have BK158:=n2_;have BK159:=n3_;have HB:=n4_;have BK161:=n5_;have GW161:=n6_;have GE161:=n7_;have NB157_161:=n8_;have NB161_157:=n9_;have NB158_161:=n10_;have NB161_158:=n11_;have NB159_161:=n12_;have NB161_159:=n13_;clear n0_ n1_ n2_ n3_ n4_ n5_ n6_ n7_ n8_ n9_ n10_ n11_ n12_ n13_;clear hb hbox hg;have hnb15:=NB161_157.out;have hnc15:=NB157_161.out;have hnb16:=NB161_158.out;have hnc16:=NB158_161.out;have hnb17:=NB161_159.out;have hnc17:=NB159_161.out;have hcz18_0 : w14.cell? ⟨gb161,0,none⟩ = some (.string (⟨#[]⟩ : ByteArray)):=(blk_cell BK161.out 0).trans rfl;have hcz18_1 : w14.cell? ⟨gb161,1,none⟩ = some (.string (⟨#[]⟩ : ByteArray)):=(blk_cell BK161.out 1).trans rfl;have hcz18_2 : w14.cell? ⟨gb161,2,none⟩ = some (.string (⟨#[]⟩ : ByteArray)):=(blk_cell BK161.out 2).trans rfl;have hcz18_3 : w14.cell? ⟨gb161,3,none⟩ = some (.int .u8 0):=(blk_cell BK161.out 3).trans rfl;have hcz18_4 : w14.cell? ⟨gb161,4,none⟩ = some (.int .u16 0):=(blk_cell BK161.out 4).trans rfl;have hcz18_5 : w14.cell? ⟨gb161,5,none⟩ = some (.slice none 0 0):=(blk_cell BK161.out 5).trans rfl;have hfz18_0:=blk_frozen BK161.out 0;have hfz18_1:=blk_frozen BK161.out 1;have hfz18_2:=blk_frozen BK161.out 2;have hfz18_3:=blk_frozen BK161.out 3;have hfz18_4:=blk_frozen BK161.out 4;have hfz18_5:=blk_frozen BK161.out 5)|((with_reducible refine gate_dst (N:=6) rfl ?_);refine box_event ?hg (N:=6) ?hd (cs:=#[.string (⟨#[]⟩ : ByteArray),.string (⟨#[]⟩ : ByteArray),.string (⟨#[]⟩ : ByteArray),.int .u8 0,.int .u16 0,.slice none 0 0]) (t:=103) ?hr ?_;(case hd=>rfl);(case hg=>rfl);(case hr=>first|(go_simp;done)|(go_simp;rfl));intro gb162 hg w19 hbox hb;have n0_:=Aside0.mk (Kd.S_below (Kd.S_elderB (by (with_reducible repeat (first|apply Kd.S_alloc|apply Kd.S_drewN|apply Kd.S_drew));exact (Kd.S_mono (Kd.S_far (p:=⟨gb161,5,none⟩) (Kd.S_far (p:=⟨gb161,4,none⟩) (Kd.S_far (p:=⟨gb161,3,none⟩) (Kd.S_far (p:=⟨gb161,2,none⟩) (Kd.S_far (p:=⟨gb161,1,none⟩) (Kd.S_far (p:=⟨gb161,0,none⟩) (Kd.S_types HO_160001.out BK161.out (by decide)) (fun _ hk=>hk.2) (.string ((rd_T98 l0_1 x15_1).f0))) (fun _ hk=>hk.2) (.string ((rd_T98 l0_1 x15_1).f1))) (fun _ hk=>hk.2) (.string ((rd_T98 l0_1 x15_1).f2))) (fun _ hk=>hk.2) (.int .u8 ((rd_T98 l0_1 x15_1).f3))) (fun _ hk=>hk.2) (.int .u16 ((rd_T98 l0_1 x15_1).f4))) (fun _ hk=>hk.2) (.slice A160_5 ((rd_T98 l0_1 x15_1).f5).length c160_5)) (fun _ h_=>h_.1))) gb162 (Nat.le_of_eq hg.symm)) hb);have n1_:=Aside0.mk (blk_below (g:=gb157) (o:=.cells #[.int .u64 a0_0,.slice (some ad160) l0_1.length c0_1] 49 (0,0)) (by (with_reducible repeat (first|apply blk_drewN|apply blk_drew|apply blk_alloc));refine blk_far ?_ NB157_161.out _;(with_reducible repeat (first|apply blk_drewN|apply blk_drew|apply blk_alloc));refine blk_far ?_ NB157_161.out _;(with_reducible repeat (first|apply blk_drewN|apply blk_drew|apply blk_alloc));refine blk_far ?_ NB157_161.out _;(with_reducible repeat (first|apply blk_drewN|apply blk_drew|apply blk_alloc));refine blk_far ?_ NB157_161.out _;(with_reducible repeat (first|apply blk_drewN|apply blk_drew|apply blk_alloc));refine blk_far ?_ NB157_161.out _;(with_reducible repeat (first|apply blk_drewN|apply blk_drew|apply blk_alloc));refine blk_far ?_ NB157_161.out _;(with_reducible repeat (first|apply blk_drewN|apply blk_drew|apply blk_alloc));exact BK157.out) hb);have n2_:=Aside0.mk (blk_below (g:=gb158) (o:=.cells #[.int .u64 0,.slice none 0 0] 53 (0,0)) (by (with_reducible repeat (first|apply blk_drewN|apply blk_drew|apply blk_alloc));refine blk_far ?_ NB158_161.out _;(with_reducible repeat (first|apply blk_drewN|apply blk_drew|apply blk_alloc));refine blk_far ?_ NB158_161.out _;(with_reducible repeat (first|apply blk_drewN|apply blk_drew|apply blk_alloc));refine blk_far ?_ NB158_161.out _;(with_reducible repeat (first|apply blk_drewN|apply blk_drew|apply blk_alloc));refine blk_far ?_ NB158_161.out _;(with_reducible repeat (first|apply blk_drewN|apply blk_drew|apply blk_alloc));refine blk_far ?_ NB158_161.out _;(with_reducible repeat (first|apply blk_drewN|apply blk_drew|apply blk_alloc));refine blk_far ?_ NB158_161.out _;(with_reducible repeat (first|apply blk_drewN|apply blk_drew|apply blk_alloc));exact BK158.out) hb);have n3_:=Aside0.mk (blk_below (g:=gb159) (o:=.cells #[.int .u64 a0_0,u160001] 53 (0,0)) (by (with_reducible repeat (first|apply blk_drewN|apply blk_drew|apply blk_alloc));refine blk_far ?_ NB159_161.out _;(with_reducible repeat (first|apply blk_drewN|apply blk_drew|apply blk_alloc));refine blk_far ?_ NB159_161.out _;(with_reducible repeat (first|apply blk_drewN|apply blk_drew|apply blk_alloc));refine blk_far ?_ NB159_161.out _;(with_reducible repeat (first|apply blk_drewN|apply blk_drew|apply blk_alloc));refine blk_far ?_ NB159_161.out _;(with_reducible repeat (first|apply blk_drewN|apply blk_drew|apply blk_alloc));refine blk_far ?_ NB159_161.out _;(with_reducible repeat (first|apply blk_drewN|apply blk_drew|apply blk_alloc));refine blk_far ?_ NB159_161.out _;(with_reducible repeat (first|apply blk_drewN|apply blk_drew|apply blk_alloc));exact BK159.out) hb);have n4_:=Aside0.mk (blk_below (g:=gb161) (o:=.cells #[.string ((rd_T98 l0_1 x15_1).f0),.string ((rd_T98 l0_1 x15_1).f1),.string ((rd_T98 l0_1 x15_1).f2),.int .u8 ((rd_T98 l0_1 x15_1).f3),.int .u16 ((rd_T98 l0_1 x15_1).f4),.slice A160_5 ((rd_T98 l0_1 x15_1).f5).length c160_5] 98 (0,0)) (by (with_reducible repeat (first|apply blk_drewN|apply blk_drew|apply blk_alloc));refine blk_put (cs:=#[.string ((rd_T98 l0_1 x15_1).f0),.string ((rd_T98 l0_1 x15_1).f1),.string ((rd_T98 l0_1 x15_1).f2),.int .u8 ((rd_T98 l0_1 x15_1).f3),.int .u16 ((rd_T98 l0_1 x15_1).f4),.slice none 0 0]) ?_ 5 _ rfl;(with_reducible repeat (first|apply blk_drewN|apply blk_drew|apply blk_alloc));refine blk_put (cs:=#[.string ((rd_T98 l0_1 x15_1).f0),.string ((rd_T98 l0_1 x15_1).f1),.string ((rd_T98 l0_1 x15_1).f2),.int .u8 ((rd_T98 l0_1 x15_1).f3),.int .u16 0,.slice none 0 0]) ?_ 4 _ rfl;(with_reducible repeat (first|apply blk_drewN|apply blk_drew|apply blk_alloc));refine blk_put (cs:=#[.string ((rd_T98 l0_1 x15_1).f0),.string ((rd_T98 l0_1 x15_1).f1),.string ((rd_T98 l0_1 x15_1).f2),.int .u8 0,.int .u16 0,.slice none 0 0]) ?_ 3 _ rfl;(with_reducible repeat (first|apply blk_drewN|apply blk_drew|apply blk_alloc));refine blk_put (cs:=#[.string ((rd_T98 l0_1 x15_1).f0),.string ((rd_T98 l0_1 x15_1).f1),.string (⟨#[]⟩ : ByteArray),.int .u8 0,.int .u16 0,.slice none 0 0]) ?_ 2 _ rfl;(with_reducible repeat (first|apply blk_drewN|apply blk_drew|apply blk_alloc));refine blk_put (cs:=#[.string ((rd_T98 l0_1 x15_1).f0),.string (⟨#[]⟩ : ByteArray),.string (⟨#[]⟩ : ByteArray),.int .u8 0,.int .u16 0,.slice none 0 0]) ?_ 1 _ rfl;(with_reducible repeat (first|apply blk_drewN|apply blk_drew|apply blk_alloc));refine blk_put (cs:=#[.string (⟨#[]⟩ : ByteArray),.string (⟨#[]⟩ : ByteArray),.string (⟨#[]⟩ : ByteArray),.int .u8 0,.int .u16 0,.slice none 0 0]) ?_ 0 _ rfl;(with_reducible repeat (first|apply blk_drewN|apply blk_drew|apply blk_alloc));exact BK161.out) hb);have n5_:=Aside0.mk (below_step (by repeat (first|(with_reducible first|exact HB.out|apply below_alloc|apply pw_below_drewN|apply below_drew1|refine below_set ?_ GE157.out|refine below_set ?_ GE158.out|refine below_set ?_ GE159.out|refine below_set ?_ GE161.out)|exact HB.out)) hb);have n6_:=Aside0.mk (hbox);have n7_:=Aside0.mk ((by rw [hg];exact (below_size (by repeat (first|(with_reducible first|exact HB.out|apply below_alloc|apply pw_below_drewN|apply below_drew1|refine below_set ?_ GE157.out|refine below_set ?_ GE158.out|refine below_set ?_ GE159.out|refine below_set ?_ GE161.out)|exact HB.out))) : w.heap.size ≤ gb162));have n8_:=Aside0.mk ((by rw [hg];exact (below_size (by repeat (first|(with_reducible first|exact HB.out|apply below_alloc|apply pw_below_drewN|apply below_drew1|refine below_set ?_ GE157.out|refine below_set ?_ GE158.out|refine below_set ?_ GE159.out|refine below_set ?_ GE161.out)|exact HB.out))) : w.heap.size ≤ gb162));have n9_:=Aside0.mk ((by rw [hg];exact Nat.ne_of_lt (blk_lt (g:=gb157) (o:=.cells #[.int .u64 a0_0,.slice (some ad160) l0_1.length c0_1] 49 (0,0)) (by (with_reducible repeat (first|apply blk_drewN|apply blk_drew|apply blk_alloc));refine blk_far ?_ NB157_161.out _;(with_reducible repeat (first|apply blk_drewN|apply blk_drew|apply blk_alloc));refine blk_far ?_ NB157_161.out _;(with_reducible repeat (first|apply blk_drewN|apply blk_drew|apply blk_alloc));refine blk_far ?_ NB157_161.out _;(with_reducible repeat (first|apply blk_drewN|apply blk_drew|apply blk_alloc));refine blk_far ?_ NB157_161.out _;(with_reducible repeat (first|apply blk_drewN|apply blk_drew|apply blk_alloc));refine blk_far ?_ NB157_161.out _;(with_reducible repeat (first|apply blk_drewN|apply blk_drew|apply blk_alloc));refine blk_far ?_ NB157_161.out _;(with_reducible repeat (first|apply blk_drewN|apply blk_drew|apply blk_alloc));exact BK157.out)) : gb157 ≠ gb162));have n10_:=Aside0.mk ((by rw [hg];exact Nat.ne_of_gt (blk_lt (g:=gb157) (o:=.cells #[.int .u64 a0_0,.slice (some ad160) l0_1.length c0_1] 49 (0,0)) (by (with_reducible repeat (first|apply blk_drewN|apply blk_drew|apply blk_alloc));refine blk_far ?_ NB157_161.out _;(with_reducible repeat (first|apply blk_drewN|apply blk_drew|apply blk_alloc));refine blk_far ?_ NB157_161.out _;(with_reducible repeat (first|apply blk_drewN|apply blk_drew|apply blk_alloc));refine blk_far ?_ NB157_161.out _;(with_reducible repeat (first|apply blk_drewN|apply blk_drew|apply blk_alloc));refine blk_far ?_ NB157_161.out _;(with_reducible repeat (first|apply blk_drewN|apply blk_drew|apply blk_alloc));refine blk_far ?_ NB157_161.out _;(with_reducible repeat (first|apply blk_drewN|apply blk_drew|apply blk_alloc));refine blk_far ?_ NB157_161.out _;(with_reducible repeat (first|apply blk_drewN|apply blk_drew|apply blk_alloc));exact BK157.out)) : gb162 ≠ gb157));have n11_:=Aside0.mk ((by rw [hg];exact Nat.ne_of_lt (blk_lt (g:=gb158) (o:=.cells #[.int .u64 0,.slice none 0 0] 53 (0,0)) (by (with_reducible repeat (first|apply blk_drewN|apply blk_drew|apply blk_alloc));refine blk_far ?_ NB158_161.out _;(with_reducible repeat (first|apply blk_drewN|apply blk_drew|apply blk_alloc));refine blk_far ?_ NB158_161.out _;(with_reducible repeat (first|apply blk_drewN|apply blk_drew|apply blk_alloc));refine blk_far ?_ NB158_161.out _;(with_reducible repeat (first|apply blk_drewN|apply blk_drew|apply blk_alloc));refine blk_far ?_ NB158_161.out _;(with_reducible repeat (first|apply blk_drewN|apply blk_drew|apply blk_alloc));refine blk_far ?_ NB158_161.out _;(with_reducible repeat (first|apply blk_drewN|apply blk_drew|apply blk_alloc));refine blk_far ?_ NB158_161.out _;(with_reducible repeat (first|apply blk_drewN|apply blk_drew|apply blk_alloc));exact BK158.out)) : gb158 ≠ gb162));have n12_:=Aside0.mk ((by rw [hg];exact Nat.ne_of_gt (blk_lt (g:=gb158) (o:=.cells #[.int .u64 0,.slice none 0 0] 53 (0,0)) (by (with_reducible repeat (first|apply blk_drewN|apply blk_drew|apply blk_alloc));refine blk_far ?_ NB158_161.out _;(with_reducible repeat (first|apply blk_drewN|apply blk_drew|apply blk_alloc));refine blk_far ?_ NB158_161.out _;(with_reducible repeat (first|apply blk_drewN|apply blk_drew|apply blk_alloc));refine blk_far ?_ NB158_161.out _;(with_reducible repeat (first|apply blk_drewN|apply blk_drew|apply blk_alloc));refine blk_far ?_ NB158_161.out _;(with_reducible repeat (first|apply blk_drewN|apply blk_drew|apply blk_alloc));refine blk_far ?_ NB158_161.out _;(with_reducible repeat (first|apply blk_drewN|apply blk_drew|apply blk_alloc));refine blk_far ?_ NB158_161.out _;(with_reducible repeat (first|apply blk_drewN|apply blk_drew|apply blk_alloc));exact BK158.out)) : gb162 ≠ gb158));have n13_:=Aside0.mk ((by rw [hg];exact Nat.ne_of_lt (blk_lt (g:=gb159) (o:=.cells #[.int .u64 a0_0,u160001] 53 (0,0)) (by (with_reducible repeat (first|apply blk_drewN|apply blk_drew|apply blk_alloc));refine blk_far ?_ NB159_161.out _;(with_reducible repeat (first|apply blk_drewN|apply blk_drew|apply blk_alloc));refine blk_far ?_ NB159_161.out _;(with_reducible repeat (first|apply blk_drewN|apply blk_drew|apply blk_alloc));refine blk_far ?_ NB159_161.out _;(with_reducible repeat (first|apply blk_drewN|apply blk_drew|apply blk_alloc));refine blk_far ?_ NB159_161.out _;(with_reducible repeat (first|apply blk_drewN|apply blk_drew|apply blk_alloc));refine blk_far ?_ NB159_161.out _;(with_reducible repeat (first|apply blk_drewN|apply blk_drew|apply blk_alloc));refine blk_far ?_ NB159_161.out _;(with_reducible repeat (first|apply blk_drewN|apply blk_drew|apply blk_alloc));exact BK159.out)) : gb159 ≠ gb162));have n14_:=Aside0.mk ((by rw [hg];exact Nat.ne_of_gt (blk_lt (g:=gb159) (o:=.cells #[.int .u64 a0_0,u160001] 53 (0,0)) (by (with_reducible repeat (first|apply blk_drewN|apply blk_drew|apply blk_alloc));refine blk_far ?_ NB159_161.out _;(with_reducible repeat (first|apply blk_drewN|apply blk_drew|apply blk_alloc));refine blk_far ?_ NB159_161.out _;(with_reducible repeat (first|apply blk_drewN|apply blk_drew|apply blk_alloc));refine blk_far ?_ NB159_161.out _;(with_reducible repeat (first|apply blk_drewN|apply blk_drew|apply blk_alloc));refine blk_far ?_ NB159_161.out _;(with_reducible repeat (first|apply blk_drewN|apply blk_drew|apply blk_alloc));refine blk_far ?_ NB159_161.out _;(with_reducible repeat (first|apply blk_drewN|apply blk_drew|apply blk_alloc));refine blk_far ?_ NB159_161.out _;(with_reducible repeat (first|apply blk_drewN|apply blk_drew|apply blk_alloc));exact BK159.out)) : gb162 ≠ gb159));have n15_:=Aside0.mk ((by rw [hg];exact Nat.ne_of_lt (blk_lt (g:=gb161) (o:=.cells #[.string ((rd_T98 l0_1 x15_1).f0),.string ((rd_T98 l0_1 x15_1).f1),.string ((rd_T98 l0_1 x15_1).f2),.int .u8 ((rd_T98 l0_1 x15_1).f3),.int .u16 ((rd_T98 l0_1 x15_1).f4),.slice A160_5 ((rd_T98 l0_1 x15_1).f5).length c160_5] 98 (0,0)) (by (with_reducible repeat (first|apply blk_drewN|apply blk_drew|apply blk_alloc));refine blk_put (cs:=#[.string ((rd_T98 l0_1 x15_1).f0),.string ((rd_T98 l0_1 x15_1).f1),.string ((rd_T98 l0_1 x15_1).f2),.int .u8 ((rd_T98 l0_1 x15_1).f3),.int .u16 ((rd_T98 l0_1 x15_1).f4),.slice none 0 0]) ?_ 5 _ rfl;(with_reducible repeat (first|apply blk_drewN|apply blk_drew|apply blk_alloc));refine blk_put (cs:=#[.string ((rd_T98 l0_1 x15_1).f0),.string ((rd_T98 l0_1 x15_1).f1),.string ((rd_T98 l0_1 x15_1).f2),.int .u8 ((rd_T98 l0_1 x15_1).f3),.int .u16 0,.slice none 0 0]) ?_ 4 _ rfl;(with_reducible repeat (first|apply blk_drewN|apply blk_drew|apply blk_alloc));refine blk_put (cs:=#[.string ((rd_T98 l0_1 x15_1).f0),.string ((rd_T98 l0_1 x15_1).f1),.string ((rd_T98 l0_1 x15_1).f2),.int .u8 0,.int .u16 0,.slice none 0 0]) ?_ 3 _ rfl;(with_reducible repeat (first|apply blk_drewN|apply blk_drew|apply blk_alloc));refine blk_put (cs:=#[.string ((rd_T98 l0_1 x15_1).f0),.string ((rd_T98 l0_1 x15_1).f1),.string (⟨#[]⟩ : ByteArray),.int .u8 0,.int .u16 0,.slice none 0 0]) ?_ 2 _ rfl;(with_reducible repeat (first|apply blk_drewN|apply blk_drew|apply blk_alloc));refine blk_put (cs:=#[.string ((rd_T98 l0_1 x15_1).f0),.string (⟨#[]⟩ : ByteArray),.string (⟨#[]⟩ : ByteArray),.int .u8 0,.int .u16 0,.slice none 0 0]) ?_ 1 _ rfl;(with_reducible repeat (first|apply blk_drewN|apply blk_drew|apply blk_alloc));refine blk_put (cs:=#[.string (⟨#[]⟩ : ByteArray),.string (⟨#[]⟩ : ByteArray),.string (⟨#[]⟩ : ByteArray),.int .u8 0,.int .u16 0,.slice none 0 0]) ?_ 0 _ rfl;(with_reducible repeat (first|apply blk_drewN|apply blk_drew|apply blk_alloc));exact BK161.out)) : gb161 ≠ gb162));have n16_:=Aside0.mk ((by rw [hg];exact Nat.ne_of_gt (blk_lt (g:=gb161) (o:=.cells #[.string ((rd_T98 l0_1 x15_1).f0),.string ((rd_T98 l0_1 x15_1).f1),.string ((rd_T98 l0_1 x15_1).f2),.int .u8 ((rd_T98 l0_1 x15_1).f3),.int .u16 ((rd_T98 l0_1 x15_1).f4),.slice A160_5 ((rd_T98 l0_1 x15_1).f5).length c160_5] 98 (0,0)) (by (with_reducible repeat (first|apply blk_drewN|apply blk_drew|apply blk_alloc));refine blk_put (cs:=#[.string ((rd_T98 l0_1 x15_1).f0),.string ((rd_T98 l0_1 x15_1).f1),.string ((rd_T98 l0_1 x15_1).f2),.int .u8 ((rd_T98 l0_1 x15_1).f3),.int .u16 ((rd_T98 l0_1 x15_1).f4),.slice none 0 0]) ?_ 5 _ rfl;(with_reducible repeat (first|apply blk_drewN|apply blk_drew|apply blk_alloc));refine blk_put (cs:=#[.string ((rd_T98 l0_1 x15_1).f0),.string ((rd_T98 l0_1 x15_1).f1),.string ((rd_T98 l0_1 x15_1).f2),.int .u8 ((rd_T98 l0_1 x15_1).f3),.int .u16 0,.slice none 0 0]) ?_ 4 _ rfl;(with_reducible repeat (first|apply blk_drewN|apply blk_drew|apply blk_alloc));refine blk_put (cs:=#[.string ((rd_T98 l0_1 x15_1).f0),.string ((rd_T98 l0_1 x15_1).f1),.string ((rd_T98 l0_1 x15_1).f2),.int .u8 0,.int .u16 0,.slice none 0 0]) ?_ 3 _ rfl;(with_reducible repeat (first|apply blk_drewN|apply blk_drew|apply blk_alloc));refine blk_put (cs:=#[.string ((rd_T98 l0_1 x15_1).f0),.string ((rd_T98 l0_1 x15_1).f1),.string (⟨#[]⟩ : ByteArray),.int .u8 0,.int .u16 0,.slice none 0 0]) ?_ 2 _ rfl;(with_reducible repeat (first|apply blk_drewN|apply blk_drew|apply blk_alloc));refine blk_put (cs:=#[.string ((rd_T98 l0_1 x15_1).f0),.string (⟨#[]⟩ : ByteArray),.string (⟨#[]⟩ : ByteArray),.int .u8 0,.int .u16 0,.slice none 0 0]) ?_ 1 _ rfl;(with_reducible repeat (first|apply blk_drewN|apply blk_drew|apply blk_alloc));refine blk_put (cs:=#[.string (⟨#[]⟩ : ByteArray),.string (⟨#[]⟩ : ByteArray),.string (⟨#[]⟩ : ByteArray),.int .u8 0,.int .u16 0,.slice none 0 0]) ?_ 0 _ rfl;(with_reducible repeat (first|apply blk_drewN|apply blk_drew|apply blk_alloc));exact BK161.out)) : gb162 ≠ gb161));clear HO_160001;clear BK157;clear BK158;clear BK159;clear BK161;clear HB;have HO_160001:=n0_;have BK157:=n1_;have BK158:=n2_;have BK159:=n3_;have BK161:=n4_;have HB:=n5_;have BK162:=n6_;have GW162:=n7_;have GE162:=n8_;have NB157_162:=n9_;have NB162_157:=n10_;have NB158_162:=n11_;have NB162_158:=n12_;have NB159_162:=n13_;have NB162_159:=n14_;have NB161_162:=n15_;have NB162_161:=n16_;clear n0_ n1_ n2_ n3_ n4_ n5_ n6_ n7_ n8_ n9_ n10_ n11_ n12_ n13_ n14_ n15_ n16_;clear hb hbox hg;have hnb20:=NB162_157.out;have hnc20:=NB157_162.out;have hnb21:=NB162_158.out;have hnc21:=NB158_162.out;have hnb22:=NB162_159.out;have hnc22:=NB159_162.out;have hnb23:=NB162_161.out;have hnc23:=NB161_162.out;have hcz24_0 : w19.cell? ⟨gb162,0,none⟩ = some (.string (⟨#[]⟩ : ByteArray)):=(blk_cell BK162.out 0).trans rfl;have hcz24_1 : w19.cell? ⟨gb162,1,none⟩ = some (.string (⟨#[]⟩ : ByteArray)):=(blk_cell BK162.out 1).trans rfl;have hcz24_2 : w19.cell? ⟨gb162,2,none⟩ = some (.string (⟨#[]⟩ : ByteArray)):=(blk_cell BK162.out 2).trans rfl;have hcz24_3 : w19.cell? ⟨gb162,3,none⟩ = some (.int .u8 0):=(blk_cell BK162.out 3).trans rfl;have hcz24_4 : w19.cell? ⟨gb162,4,none⟩ = some (.int .u16 0):=(blk_cell BK162.out 4).trans rfl;have hcz24_5 : w19.cell? ⟨gb162,5,none⟩ = some (.slice none 0 0):=(blk_cell BK162.out 5).trans rfl;have hfz24_0:=blk_frozen BK162.out 0;have hfz24_1:=blk_frozen BK162.out 1;have hfz24_2:=blk_frozen BK162.out 2;have hfz24_3:=blk_frozen BK162.out 3;have hfz24_4:=blk_frozen BK162.out 4;have hfz24_5:=blk_frozen BK162.out 5;have hcz25_0 : w19.cell? ⟨gb161,0,none⟩ = some (.string ((rd_T98 l0_1 x15_1).f0)):=(blk_cell BK161.out 0).trans rfl;have hcz25_1 : w19.cell? ⟨gb161,1,none⟩ = some (.string ((rd_T98 l0_1 x15_1).f1)):=(blk_cell BK161.out 1).trans rfl;have hcz25_2 : w19.cell? ⟨gb161,2,none⟩ = some (.string ((rd_T98 l0_1 x15_1).f2)):=(blk_cell BK161.out 2).trans rfl;have hcz25_3 : w19.cell? ⟨gb161,3,none⟩ = some (.int .u8 ((rd_T98 l0_1 x15_1).f3)):=(blk_cell BK161.out 3).trans rfl;have hcz25_4 : w19.cell? ⟨gb161,4,none⟩ = some (.int .u16 ((rd_T98 l0_1 x15_1).f4)):=(blk_cell BK161.out 4).trans rfl;have hcz25_5 : w19.cell? ⟨gb161,5,none⟩ = some (.slice A160_5 ((rd_T98 l0_1 x15_1).f5).length c160_5):=(blk_cell BK161.out 5).trans rfl;have hfz25_0:=blk_frozen BK161.out 0;have hfz25_1:=blk_frozen BK161.out 1;have hfz25_2:=blk_frozen BK161.out 2;have hfz25_3:=blk_frozen BK161.out 3;have hfz25_4:=blk_frozen BK161.out 4;have hfz25_5:=blk_frozen BK161.out 5))
      go_loopg [33] k1 (fun kq v33 w'=>∃ (x33_2 : Int) (x163005_2 : List (S104)) (u163005 : Value),v33 = .int .i64 x33_2 ∧ Aside0 (bosunlaw18_Of.l1 kq l0_1 (l0_1.length : Int) x15_1 ((rd_T98 l0_1 x15_1).f5) (((rd_T98 l0_1 x15_1).f5).length : Int) x33_2 a0_0 x160001_1 ((rd_T98 l0_1 x15_1).f0) ((rd_T98 l0_1 x15_1).f1) ((rd_T98 l0_1 x15_1).f2) ((rd_T98 l0_1 x15_1).f3) ((rd_T98 l0_1 x15_1).f4) x163005_2 = some (r1,r2)) ∧ Aside0 (kq ≤ k1) ∧ Aside0 (Kd.S k103 103 w' w.heap.size (fun k_=>some k_ ≠ (u163005 : Value).ownBlock ∧ k_ ≠ gb162) u160001 x160001_1) ∧ Aside0 (Kd.R k104 104 w' w.heap.size (fun _=>True) u163005 x163005_2) ∧ Aside0 (w'.heap[gb157]? = some (.cells #[.int .u64 a0_0,(.slice (some ad160) l0_1.length c0_1)] 49 (0,0))) ∧ Aside0 (w'.heap[gb158]? = some (.cells #[.int .u64 0,(.slice none 0 0)] 53 (0,0))) ∧ Aside0 (w'.heap[gb159]? = some (.cells #[.int .u64 a0_0,u160001] 53 (0,0))) ∧ Aside0 (w'.heap[gb161]? = some (.cells #[.string ((rd_T98 l0_1 x15_1).f0),.string ((rd_T98 l0_1 x15_1).f1),.string ((rd_T98 l0_1 x15_1).f2),.int .u8 ((rd_T98 l0_1 x15_1).f3),.int .u16 ((rd_T98 l0_1 x15_1).f4),(.slice A160_5 ((rd_T98 l0_1 x15_1).f5).length c160_5)] 98 (0,0))) ∧ Aside0 (w'.heap[gb162]? = some (.cells #[.string ((rd_T98 l0_1 x15_1).f0),.string ((rd_T98 l0_1 x15_1).f1),.string ((rd_T98 l0_1 x15_1).f2),.int .u8 ((rd_T98 l0_1 x15_1).f3),.int .u16 ((rd_T98 l0_1 x15_1).f4),u163005] 103 (0,0))) ∧ Aside0 (Below w.heap.size w w'))
      case atStart=>exact ⟨(0),(([] : List (S104))),(.slice none 0 0),(by first|rfl|(simp;done)|(simp [*];done)),H',⟨Nat.le_refl _⟩,⟨by (with_reducible repeat (first|apply Kd.S_alloc|apply Kd.S_drewN|apply Kd.S_drew));exact Kd.S_mono (Kd.S_far (p:=⟨gb162,5,none⟩) (Kd.S_far (p:=⟨gb162,4,none⟩) (Kd.S_far (p:=⟨gb162,3,none⟩) (Kd.S_far (p:=⟨gb162,2,none⟩) (Kd.S_far (p:=⟨gb162,1,none⟩) (Kd.S_far (p:=⟨gb162,0,none⟩) (Kd.S_mono HO_160001.out (fun k_ hk=>(⟨hk,hk.2⟩ : _ ∧ k_ ≠ gb162))) (fun _ hk=>hk.2) (.string ((rd_T98 l0_1 x15_1).f0))) (fun _ hk=>hk.2) (.string ((rd_T98 l0_1 x15_1).f1))) (fun _ hk=>hk.2) (.string ((rd_T98 l0_1 x15_1).f2))) (fun _ hk=>hk.2) (.int .u8 ((rd_T98 l0_1 x15_1).f3))) (fun _ hk=>hk.2) (.int .u16 ((rd_T98 l0_1 x15_1).f4))) (fun _ hk=>hk.2) (.slice none 0 0)) (fun _ hk=>⟨(by simp [Value.ownBlock]),hk.1.2⟩)⟩,⟨by first|exact Kd.R_nil _ _ _ _ _|exact Kd.N_nil _ _ _ _ _|exact Kd.V_nil _ _ _ _ _|exact Kd.Q_nil _ _ _ _ _|exact Kd.S_nil _ _ _ _ _⟩,⟨by (with_reducible repeat (first|apply blk_drewN|apply blk_drew|apply blk_alloc));refine blk_far ?_ NB157_162.out _;(with_reducible repeat (first|apply blk_drewN|apply blk_drew|apply blk_alloc));refine blk_far ?_ NB157_162.out _;(with_reducible repeat (first|apply blk_drewN|apply blk_drew|apply blk_alloc));refine blk_far ?_ NB157_162.out _;(with_reducible repeat (first|apply blk_drewN|apply blk_drew|apply blk_alloc));refine blk_far ?_ NB157_162.out _;(with_reducible repeat (first|apply blk_drewN|apply blk_drew|apply blk_alloc));refine blk_far ?_ NB157_162.out _;(with_reducible repeat (first|apply blk_drewN|apply blk_drew|apply blk_alloc));refine blk_far ?_ NB157_162.out _;(with_reducible repeat (first|apply blk_drewN|apply blk_drew|apply blk_alloc));exact BK157.out⟩,⟨by (with_reducible repeat (first|apply blk_drewN|apply blk_drew|apply blk_alloc));refine blk_far ?_ NB158_162.out _;(with_reducible repeat (first|apply blk_drewN|apply blk_drew|apply blk_alloc));refine blk_far ?_ NB158_162.out _;(with_reducible repeat (first|apply blk_drewN|apply blk_drew|apply blk_alloc));refine blk_far ?_ NB158_162.out _;(with_reducible repeat (first|apply blk_drewN|apply blk_drew|apply blk_alloc));refine blk_far ?_ NB158_162.out _;(with_reducible repeat (first|apply blk_drewN|apply blk_drew|apply blk_alloc));refine blk_far ?_ NB158_162.out _;(with_reducible repeat (first|apply blk_drewN|apply blk_drew|apply blk_alloc));refine blk_far ?_ NB158_162.out _;(with_reducible repeat (first|apply blk_drewN|apply blk_drew|apply blk_alloc));exact BK158.out⟩,⟨by (with_reducible repeat (first|apply blk_drewN|apply blk_drew|apply blk_alloc));refine blk_far ?_ NB159_162.out _;(with_reducible repeat (first|apply blk_drewN|apply blk_drew|apply blk_alloc));refine blk_far ?_ NB159_162.out _;(with_reducible repeat (first|apply blk_drewN|apply blk_drew|apply blk_alloc));refine blk_far ?_ NB159_162.out _;(with_reducible repeat (first|apply blk_drewN|apply blk_drew|apply blk_alloc));refine blk_far ?_ NB159_162.out _;(with_reducible repeat (first|apply blk_drewN|apply blk_drew|apply blk_alloc));refine blk_far ?_ NB159_162.out _;(with_reducible repeat (first|apply blk_drewN|apply blk_drew|apply blk_alloc));refine blk_far ?_ NB159_162.out _;(with_reducible repeat (first|apply blk_drewN|apply blk_drew|apply blk_alloc));exact BK159.out⟩,⟨by (with_reducible repeat (first|apply blk_drewN|apply blk_drew|apply blk_alloc));refine blk_far ?_ NB161_162.out _;(with_reducible repeat (first|apply blk_drewN|apply blk_drew|apply blk_alloc));refine blk_far ?_ NB161_162.out _;(with_reducible repeat (first|apply blk_drewN|apply blk_drew|apply blk_alloc));refine blk_far ?_ NB161_162.out _;(with_reducible repeat (first|apply blk_drewN|apply blk_drew|apply blk_alloc));refine blk_far ?_ NB161_162.out _;(with_reducible repeat (first|apply blk_drewN|apply blk_drew|apply blk_alloc));refine blk_far ?_ NB161_162.out _;(with_reducible repeat (first|apply blk_drewN|apply blk_drew|apply blk_alloc));refine blk_far ?_ NB161_162.out _;(with_reducible repeat (first|apply blk_drewN|apply blk_drew|apply blk_alloc));exact BK161.out⟩,⟨by (with_reducible repeat (first|apply blk_drewN|apply blk_drew|apply blk_alloc));refine blk_put (cs:=#[.string ((rd_T98 l0_1 x15_1).f0),.string ((rd_T98 l0_1 x15_1).f1),.string ((rd_T98 l0_1 x15_1).f2),.int .u8 ((rd_T98 l0_1 x15_1).f3),.int .u16 ((rd_T98 l0_1 x15_1).f4),.slice none 0 0]) ?_ 5 _ rfl;(with_reducible repeat (first|apply blk_drewN|apply blk_drew|apply blk_alloc));refine blk_put (cs:=#[.string ((rd_T98 l0_1 x15_1).f0),.string ((rd_T98 l0_1 x15_1).f1),.string ((rd_T98 l0_1 x15_1).f2),.int .u8 ((rd_T98 l0_1 x15_1).f3),.int .u16 0,.slice none 0 0]) ?_ 4 _ rfl;(with_reducible repeat (first|apply blk_drewN|apply blk_drew|apply blk_alloc));refine blk_put (cs:=#[.string ((rd_T98 l0_1 x15_1).f0),.string ((rd_T98 l0_1 x15_1).f1),.string ((rd_T98 l0_1 x15_1).f2),.int .u8 0,.int .u16 0,.slice none 0 0]) ?_ 3 _ rfl;(with_reducible repeat (first|apply blk_drewN|apply blk_drew|apply blk_alloc));refine blk_put (cs:=#[.string ((rd_T98 l0_1 x15_1).f0),.string ((rd_T98 l0_1 x15_1).f1),.string (⟨#[]⟩ : ByteArray),.int .u8 0,.int .u16 0,.slice none 0 0]) ?_ 2 _ rfl;(with_reducible repeat (first|apply blk_drewN|apply blk_drew|apply blk_alloc));refine blk_put (cs:=#[.string ((rd_T98 l0_1 x15_1).f0),.string (⟨#[]⟩ : ByteArray),.string (⟨#[]⟩ : ByteArray),.int .u8 0,.int .u16 0,.slice none 0 0]) ?_ 1 _ rfl;(with_reducible repeat (first|apply blk_drewN|apply blk_drew|apply blk_alloc));refine blk_put (cs:=#[.string (⟨#[]⟩ : ByteArray),.string (⟨#[]⟩ : ByteArray),.string (⟨#[]⟩ : ByteArray),.int .u8 0,.int .u16 0,.slice none 0 0]) ?_ 0 _ rfl;(with_reducible repeat (first|apply blk_drewN|apply blk_drew|apply blk_alloc));exact BK162.out⟩,⟨by repeat (first|(with_reducible first|exact HB.out|apply below_alloc|apply pw_below_drewN|apply below_drew1|refine below_set ?_ GE157.out|refine below_set ?_ GE158.out|refine below_set ?_ GE159.out|refine below_set ?_ GE161.out|refine below_set ?_ GE162.out)|exact HB.out)⟩⟩
      case round =>
       clear H'
       try clear c1
       try clear p1
       try clear q1
       try clear hx1
       try clear c2
       try clear p2
       try clear c4
       try clear c7
       try clear c8
       try clear c11
       try clear c11b0
       try clear c12
       try clear c12b0
       try clear c13
       try clear c13b0
       try clear c15
       try clear c16
       try clear p16
       try clear q16
       try clear hx16
       try clear c17
       try clear c20
       try clear c21
       try clear c22
       try clear c23
       try clear c24
       try clear hcz10_0
       try clear hcz10_1
       try clear hcz18_0
       try clear hcz18_1
       try clear hcz18_2
       try clear hcz18_3
       try clear hcz18_4
       try clear hcz18_5
       try clear hcz24_0
       try clear hcz24_1
       try clear hcz24_2
       try clear hcz24_3
       try clear hcz24_4
       try clear hcz24_5
       try clear hcz25_0
       try clear hcz25_1
       try clear hcz25_2
       try clear hcz25_3
       try clear hcz25_4
       try clear hcz25_5
       try clear hcz5_0
       try clear hcz5_1
       try clear hcz9_0
       try clear hcz9_1
       try clear hfz10_0
       try clear hfz10_1
       try clear hfz18_0
       try clear hfz18_1
       try clear hfz18_2
       try clear hfz18_3
       try clear hfz18_4
       try clear hfz18_5
       try clear hfz24_0
       try clear hfz24_1
       try clear hfz24_2
       try clear hfz24_3
       try clear hfz24_4
       try clear hfz24_5
       try clear hfz25_0
       try clear hfz25_1
       try clear hfz25_2
       try clear hfz25_3
       try clear hfz25_4
       try clear hfz25_5
       try clear hfz5_0
       try clear hfz5_1
       try clear hfz9_0
       try clear hfz9_1
       try clear hx160_0
       try clear hx160_1
       try clear hx160_2
       try clear hx160_3
       try clear hx160_4
       try clear hx160_5
       try clear p160
       try clear p2
       try clear q160
       obtain ⟨x33_2,x163005_2,u163005,rfl,HA,HK2,HO_160001,HO_163005,BK157,BK158,BK159,BK161,BK162,HB⟩:=hrel
       cases gk with
       | zero=>exact absurd HA.out (by simp [bosunlaw18_Of.l1])
       | succ k2 =>
        have H:=HA.out
        clear HA
        simp only [bosunlaw18_Of.l1] at H
        by_cases c26 : x33_2 < (((rd_T98 l0_1 x15_1).f5).length : Int)
        ·rw [if_pos c26] at H
         have c26b0 : decide (x33_2 < (((rd_T98 l0_1 x15_1).f5).length : Int)) = true:=decide_eq_true c26
         clear c26
         by_cases c27 : 0 ≤ x33_2
         ·rw [if_pos c27] at H
          have c27b0 : decide (0 ≤ x33_2) = true:=decide_eq_true c27
          clear c27
          by_cases c28 : x33_2 < (((rd_T98 l0_1 x15_1).f5).length : Int)
          ·rw [if_pos c28] at H
           have c28b0 : decide (x33_2 < (((rd_T98 l0_1 x15_1).f5).length : Int)) = true:=decide_eq_true c28
           clear c28
           by_cases c29 : x163005_2.length < 4398046511104
           ·rw [if_pos c29] at H
            have LMc29:=Aside0.mk c29
            clear c29
            obtain ⟨y165,hy165⟩ : ∃ y_ : List (S104),y_ = (x163005_2 ++ [(⟨(rd_T100 ((rd_T98 l0_1 x15_1).f5) x33_2).f0,(rd_T100 ((rd_T98 l0_1 x15_1).f5) x33_2).f1⟩ : S104)]):=⟨_,rfl⟩
            replace H : (bosunlaw18_Of.l1 k2 l0_1 (l0_1.length : Int) x15_1 ((rd_T98 l0_1 x15_1).f5) (((rd_T98 l0_1 x15_1).f5).length : Int) (wrap64 (x33_2 + 1)) a0_0 x160001_1 ((rd_T98 l0_1 x15_1).f0) ((rd_T98 l0_1 x15_1).f1) ((rd_T98 l0_1 x15_1).f2) ((rd_T98 l0_1 x15_1).f3) ((rd_T98 l0_1 x15_1).f4) y165) = some (r1,r2):=by first|(rw [hy165];with_reducible exact H)|(have H2_:=(Option.bind_some _ _).symm.trans H;rw [hy165];with_reducible exact H2_)|(have H2_:=(Option.bind_some _ _).symm.trans H;with_reducible exact H2_)|with_reducible exact H|(rw [hy165];exact H)|exact H
            have Ny165:=Aside0.mk hy165
            clear hy165
            have H':=Aside0.mk H
            clear H
            have p163 : 0 ≤ (x33_2 : Int):=of_decide_eq_true (by first|(with_reducible assumption)|assumption)
            have q163 : x33_2 < (((rd_T98 l0_1 x15_1).f5).length : Int):=of_decide_eq_true (by first|(with_reducible assumption)|assumption)
            obtain ⟨ad163,e163,hx163_0,hx163_1⟩:=at_T100 HR160_5.out x33_2 p163 q163
            cases e163
            replace hx163_0:=(HB.out.cell (World.block_lt_of_cell? w _ hx163_0)).trans hx163_0
            replace hx163_1:=(HB.out.cell (World.block_lt_of_cell? w _ hx163_1)).trans hx163_1
            replace p163:=eq_true p163
            replace q163:=eq_true q163
            go_wp2_with (first|((with_reducible refine gate_dst (N:=8) rfl ?_);refine box_event ?hg (N:=8) ?hd (cs:=#[.string (⟨#[]⟩ : ByteArray),.string (⟨#[]⟩ : ByteArray)]) (t:=100) ?hr ?_;(case hd=>rfl);(case hg=>rfl);(case hr=>first|(go_simp;done)|(go_simp;rfl));intro gb164 hg w30 hbox hb;have n0_:=Aside0.mk (Kd.S_below (by (with_reducible repeat (first|apply Kd.S_alloc|apply Kd.S_drewN|apply Kd.S_drew));exact HO_160001.out) hb);have n1_:=Aside0.mk (Kd.R_below (by (with_reducible repeat (first|apply Kd.R_alloc|apply Kd.R_drewN|apply Kd.R_drew));exact HO_163005.out) hb);have n2_:=Aside0.mk (blk_below (g:=gb157) (o:=.cells #[.int .u64 a0_0,.slice (some ad160) l0_1.length c0_1] 49 (0,0)) (by (with_reducible repeat (first|apply blk_drewN|apply blk_drew|apply blk_alloc));exact BK157.out) hb);have n3_:=Aside0.mk (blk_below (g:=gb158) (o:=.cells #[.int .u64 0,.slice none 0 0] 53 (0,0)) (by (with_reducible repeat (first|apply blk_drewN|apply blk_drew|apply blk_alloc));exact BK158.out) hb);have n4_:=Aside0.mk (blk_below (g:=gb159) (o:=.cells #[.int .u64 a0_0,u160001] 53 (0,0)) (by (with_reducible repeat (first|apply blk_drewN|apply blk_drew|apply blk_alloc));exact BK159.out) hb);have n5_:=Aside0.mk (blk_below (g:=gb161) (o:=.cells #[.string ((rd_T98 l0_1 x15_1).f0),.string ((rd_T98 l0_1 x15_1).f1),.string ((rd_T98 l0_1 x15_1).f2),.int .u8 ((rd_T98 l0_1 x15_1).f3),.int .u16 ((rd_T98 l0_1 x15_1).f4),.slice (some ad163) ((rd_T98 l0_1 x15_1).f5).length c160_5] 98 (0,0)) (by (with_reducible repeat (first|apply blk_drewN|apply blk_drew|apply blk_alloc));exact BK161.out) hb);have n6_:=Aside0.mk (blk_below (g:=gb162) (o:=.cells #[.string ((rd_T98 l0_1 x15_1).f0),.string ((rd_T98 l0_1 x15_1).f1),.string ((rd_T98 l0_1 x15_1).f2),.int .u8 ((rd_T98 l0_1 x15_1).f3),.int .u16 ((rd_T98 l0_1 x15_1).f4),u163005] 103 (0,0)) (by (with_reducible repeat (first|apply blk_drewN|apply blk_drew|apply blk_alloc));exact BK162.out) hb);have n7_:=Aside0.mk (below_step (by repeat (first|(with_reducible first|exact HB.out|apply below_alloc|apply pw_below_drewN|apply below_drew1|refine below_set ?_ GE157.out|refine below_set ?_ GE158.out|refine below_set ?_ GE159.out|refine below_set ?_ GE161.out|refine below_set ?_ GE162.out)|exact HB.out)) hb);have n8_:=Aside0.mk (hbox);have n9_:=Aside0.mk ((by rw [hg];exact (below_size (by repeat (first|(with_reducible first|exact HB.out|apply below_alloc|apply pw_below_drewN|apply below_drew1|refine below_set ?_ GE157.out|refine below_set ?_ GE158.out|refine below_set ?_ GE159.out|refine below_set ?_ GE161.out|refine below_set ?_ GE162.out)|exact HB.out))) : w.heap.size ≤ gb164));have n10_:=Aside0.mk ((by rw [hg];exact (below_size (by repeat (first|(with_reducible first|exact HB.out|apply below_alloc|apply pw_below_drewN|apply below_drew1|refine below_set ?_ GE157.out|refine below_set ?_ GE158.out|refine below_set ?_ GE159.out|refine below_set ?_ GE161.out|refine below_set ?_ GE162.out)|exact HB.out))) : w.heap.size ≤ gb164));have n11_:=Aside0.mk ((by rw [hg];exact Nat.ne_of_lt (blk_lt (g:=gb157) (o:=.cells #[.int .u64 a0_0,.slice (some ad160) l0_1.length c0_1] 49 (0,0)) (by (with_reducible repeat (first|apply blk_drewN|apply blk_drew|apply blk_alloc));exact BK157.out)) : gb157 ≠ gb164));have n12_:=Aside0.mk ((by rw [hg];exact Nat.ne_of_gt (blk_lt (g:=gb157) (o:=.cells #[.int .u64 a0_0,.slice (some ad160) l0_1.length c0_1] 49 (0,0)) (by (with_reducible repeat (first|apply blk_drewN|apply blk_drew|apply blk_alloc));exact BK157.out)) : gb164 ≠ gb157));have n13_:=Aside0.mk ((by rw [hg];exact Nat.ne_of_lt (blk_lt (g:=gb158) (o:=.cells #[.int .u64 0,.slice none 0 0] 53 (0,0)) (by (with_reducible repeat (first|apply blk_drewN|apply blk_drew|apply blk_alloc));exact BK158.out)) : gb158 ≠ gb164));have n14_:=Aside0.mk ((by rw [hg];exact Nat.ne_of_gt (blk_lt (g:=gb158) (o:=.cells #[.int .u64 0,.slice none 0 0] 53 (0,0)) (by (with_reducible repeat (first|apply blk_drewN|apply blk_drew|apply blk_alloc));exact BK158.out)) : gb164 ≠ gb158));have n15_:=Aside0.mk ((by rw [hg];exact Nat.ne_of_lt (blk_lt (g:=gb159) (o:=.cells #[.int .u64 a0_0,u160001] 53 (0,0)) (by (with_reducible repeat (first|apply blk_drewN|apply blk_drew|apply blk_alloc));exact BK159.out)) : gb159 ≠ gb164));have n16_:=Aside0.mk ((by rw [hg];exact Nat.ne_of_gt (blk_lt (g:=gb159) (o:=.cells #[.int .u64 a0_0,u160001] 53 (0,0)) (by (with_reducible repeat (first|apply blk_drewN|apply blk_drew|apply blk_alloc));exact BK159.out)) : gb164 ≠ gb159));have n17_:=Aside0.mk ((by rw [hg];exact Nat.ne_of_lt (blk_lt (g:=gb161) (o:=.cells #[.string ((rd_T98 l0_1 x15_1).f0),.string ((rd_T98 l0_1 x15_1).f1),.string ((rd_T98 l0_1 x15_1).f2),.int .u8 ((rd_T98 l0_1 x15_1).f3),.int .u16 ((rd_T98 l0_1 x15_1).f4),.slice (some ad163) ((rd_T98 l0_1 x15_1).f5).length c160_5] 98 (0,0)) (by (with_reducible repeat (first|apply blk_drewN|apply blk_drew|apply blk_alloc));exact BK161.out)) : gb161 ≠ gb164));have n18_:=Aside0.mk ((by rw [hg];exact Nat.ne_of_gt (blk_lt (g:=gb161) (o:=.cells #[.string ((rd_T98 l0_1 x15_1).f0),.string ((rd_T98 l0_1 x15_1).f1),.string ((rd_T98 l0_1 x15_1).f2),.int .u8 ((rd_T98 l0_1 x15_1).f3),.int .u16 ((rd_T98 l0_1 x15_1).f4),.slice (some ad163) ((rd_T98 l0_1 x15_1).f5).length c160_5] 98 (0,0)) (by (with_reducible repeat (first|apply blk_drewN|apply blk_drew|apply blk_alloc));exact BK161.out)) : gb164 ≠ gb161));have n19_:=Aside0.mk ((by rw [hg];exact Nat.ne_of_lt (blk_lt (g:=gb162) (o:=.cells #[.string ((rd_T98 l0_1 x15_1).f0),.string ((rd_T98 l0_1 x15_1).f1),.string ((rd_T98 l0_1 x15_1).f2),.int .u8 ((rd_T98 l0_1 x15_1).f3),.int .u16 ((rd_T98 l0_1 x15_1).f4),u163005] 103 (0,0)) (by (with_reducible repeat (first|apply blk_drewN|apply blk_drew|apply blk_alloc));exact BK162.out)) : gb162 ≠ gb164));have n20_:=Aside0.mk ((by rw [hg];exact Nat.ne_of_gt (blk_lt (g:=gb162) (o:=.cells #[.string ((rd_T98 l0_1 x15_1).f0),.string ((rd_T98 l0_1 x15_1).f1),.string ((rd_T98 l0_1 x15_1).f2),.int .u8 ((rd_T98 l0_1 x15_1).f3),.int .u16 ((rd_T98 l0_1 x15_1).f4),u163005] 103 (0,0)) (by (with_reducible repeat (first|apply blk_drewN|apply blk_drew|apply blk_alloc));exact BK162.out)) : gb164 ≠ gb162));clear HO_160001;clear HO_163005;clear BK157;clear BK158;clear BK159;clear BK161;clear BK162;clear HB;have HO_160001:=n0_;have HO_163005:=n1_;have BK157:=n2_;have BK158:=n3_;have BK159:=n4_;have BK161:=n5_;have BK162:=n6_;have HB:=n7_;have BK164:=n8_;have GW164:=n9_;have GE164:=n10_;have NB157_164:=n11_;have NB164_157:=n12_;have NB158_164:=n13_;have NB164_158:=n14_;have NB159_164:=n15_;have NB164_159:=n16_;have NB161_164:=n17_;have NB164_161:=n18_;have NB162_164:=n19_;have NB164_162:=n20_;clear n0_ n1_ n2_ n3_ n4_ n5_ n6_ n7_ n8_ n9_ n10_ n11_ n12_ n13_ n14_ n15_ n16_ n17_ n18_ n19_ n20_;clear hb hbox hg;have hnb31:=NB164_157.out;have hnc31:=NB157_164.out;have hnb32:=NB164_158.out;have hnc32:=NB158_164.out;have hnb33:=NB164_159.out;have hnc33:=NB159_164.out;have hnb34:=NB164_161.out;have hnc34:=NB161_164.out;have hnb35:=NB164_162.out;have hnc35:=NB162_164.out;have hcz36_0 : w30.cell? ⟨gb164,0,none⟩ = some (.string (⟨#[]⟩ : ByteArray)):=(blk_cell BK164.out 0).trans rfl;have hcz36_1 : w30.cell? ⟨gb164,1,none⟩ = some (.string (⟨#[]⟩ : ByteArray)):=(blk_cell BK164.out 1).trans rfl;have hfz36_0:=blk_frozen BK164.out 0;have hfz36_1:=blk_frozen BK164.out 1;have hnb37:=NB162_157.out;have hnc37:=NB157_162.out;have hnb38:=NB162_158.out;have hnc38:=NB158_162.out;have hnb39:=NB162_159.out;have hnc39:=NB159_162.out;have hnb40:=NB162_161.out;have hnc40:=NB161_162.out;have hcz41_0 : w30.cell? ⟨gb162,0,none⟩ = some (.string ((rd_T98 l0_1 x15_1).f0)):=(blk_cell BK162.out 0).trans rfl;have hcz41_1 : w30.cell? ⟨gb162,1,none⟩ = some (.string ((rd_T98 l0_1 x15_1).f1)):=(blk_cell BK162.out 1).trans rfl;have hcz41_2 : w30.cell? ⟨gb162,2,none⟩ = some (.string ((rd_T98 l0_1 x15_1).f2)):=(blk_cell BK162.out 2).trans rfl;have hcz41_3 : w30.cell? ⟨gb162,3,none⟩ = some (.int .u8 ((rd_T98 l0_1 x15_1).f3)):=(blk_cell BK162.out 3).trans rfl;have hcz41_4 : w30.cell? ⟨gb162,4,none⟩ = some (.int .u16 ((rd_T98 l0_1 x15_1).f4)):=(blk_cell BK162.out 4).trans rfl;have hcz41_5 : w30.cell? ⟨gb162,5,none⟩ = some (u163005):=(blk_cell BK162.out 5).trans rfl;have hfz41_0:=blk_frozen BK162.out 0;have hfz41_1:=blk_frozen BK162.out 1;have hfz41_2:=blk_frozen BK162.out 2;have hfz41_3:=blk_frozen BK162.out 3;have hfz41_4:=blk_frozen BK162.out 4;have hfz41_5:=blk_frozen BK162.out 5)|((with_reducible refine gate_builtin (b:=.append) (xs:=#[.tmp 38,.tmp 40]) rfl ?_);at_builtin;refine Kd.R_append k104 (w0:=w) w.heap.size rfl (.tmp 38) (.tmp 40) 101 104 (.agg #[(.string ⟨#[]⟩),(.string ⟨#[]⟩)]) 32 rfl Tryd.underlying101 info104 rfl (by decide) (by omega) u163005 x163005_2 (⟨(rd_T100 ((rd_T98 l0_1 x15_1).f5) x33_2).f0,(rd_T100 ((rd_T98 l0_1 x15_1).f5) x33_2).f1⟩ : S104) [.string ((rd_T100 ((rd_T98 l0_1 x15_1).f5) x33_2).f0),.string ((rd_T100 ((rd_T98 l0_1 x15_1).f5) x33_2).f1)] (fun _=>True) (fun _=>False) rfl (by first|(go_simp;done)|(go_simp;rfl)) ?aP (fun _ hk=>hk.elim) ?aF ?aO ?aB ?aS ?aL ?_;(case aP=>exact k104_mkM _ _ _ (⟨(rd_T100 ((rd_T98 l0_1 x15_1).f5) x33_2).f0,(rd_T100 ((rd_T98 l0_1 x15_1).f5) x33_2).f1⟩ : S104));(case aB=>exact (by repeat (first|(with_reducible first|exact HB.out|apply below_alloc|apply pw_below_drewN|apply below_drew1|refine below_set ?_ GE157.out|refine below_set ?_ GE158.out|refine below_set ?_ GE159.out|refine below_set ?_ GE161.out|refine below_set ?_ GE162.out|refine below_set ?_ GE164.out)|exact HB.out)));(case aF=>exact (fun _ _=>trivial));(case aO=>exact (by (with_reducible repeat (first|apply Kd.R_alloc|apply Kd.R_drewN|apply Kd.R_drew));exact Kd.R_mono (Kd.R_far (p:=⟨gb164,1,none⟩) (Kd.R_far (p:=⟨gb164,0,none⟩) (Kd.R_types HO_163005.out BK164.out (by decide)) (fun _ hk=>hk.2) (.string ((rd_T100 ((rd_T98 l0_1 x15_1).f5) x33_2).f0))) (fun _ hk=>hk.2) (.string ((rd_T100 ((rd_T98 l0_1 x15_1).f5) x33_2).f1))) (fun _ hk=>trivial)));(case aS=>exact (below_size (by repeat (first|(with_reducible first|exact HB.out|apply below_alloc|apply pw_below_drewN|apply below_drew1|refine below_set ?_ GE157.out|refine below_set ?_ GE158.out|refine below_set ?_ GE159.out|refine below_set ?_ GE161.out|refine below_set ?_ GE162.out|refine below_set ?_ GE164.out)|exact HB.out))));(case aL=>have:=LMc29.out;omega);intro v166 w42 ho hb hg hat;rw [← Ny165.out] at ho;have n0_:=Aside0.mk (Kd.S_after (ok:=(fun k_=>k_ ≠ gb162)) (by (with_reducible repeat (first|apply Kd.S_alloc|apply Kd.S_drewN|apply Kd.S_drew));exact Kd.S_mono (Kd.S_far (p:=⟨gb164,1,none⟩) (Kd.S_far (p:=⟨gb164,0,none⟩) (Kd.S_types HO_160001.out BK164.out (by decide)) (fun _ hk=>hk.2) (.string ((rd_T100 ((rd_T98 l0_1 x15_1).f5) x33_2).f0))) (fun _ hk=>hk.2) (.string ((rd_T100 ((rd_T98 l0_1 x15_1).f5) x33_2).f1))) (fun _ hk=>⟨hk.1.2,hk.1.1⟩)) hg hat);have n1_:=Aside0.mk (blk_grown (g:=gb157) (o:=.cells #[.int .u64 a0_0,.slice (some ad160) l0_1.length c0_1] 49 (0,0)) (by (with_reducible repeat (first|apply blk_drewN|apply blk_drew|apply blk_alloc));refine blk_far ?_ NB157_164.out _;(with_reducible repeat (first|apply blk_drewN|apply blk_drew|apply blk_alloc));refine blk_far ?_ NB157_164.out _;(with_reducible repeat (first|apply blk_drewN|apply blk_drew|apply blk_alloc));exact BK157.out) hg (Kd.R_ne HO_163005.out BK157.out (by decide)));have n2_:=Aside0.mk (blk_grown (g:=gb158) (o:=.cells #[.int .u64 0,.slice none 0 0] 53 (0,0)) (by (with_reducible repeat (first|apply blk_drewN|apply blk_drew|apply blk_alloc));refine blk_far ?_ NB158_164.out _;(with_reducible repeat (first|apply blk_drewN|apply blk_drew|apply blk_alloc));refine blk_far ?_ NB158_164.out _;(with_reducible repeat (first|apply blk_drewN|apply blk_drew|apply blk_alloc));exact BK158.out) hg (Kd.R_ne HO_163005.out BK158.out (by decide)));have n3_:=Aside0.mk (blk_grown (g:=gb159) (o:=.cells #[.int .u64 a0_0,u160001] 53 (0,0)) (by (with_reducible repeat (first|apply blk_drewN|apply blk_drew|apply blk_alloc));refine blk_far ?_ NB159_164.out _;(with_reducible repeat (first|apply blk_drewN|apply blk_drew|apply blk_alloc));refine blk_far ?_ NB159_164.out _;(with_reducible repeat (first|apply blk_drewN|apply blk_drew|apply blk_alloc));exact BK159.out) hg (Kd.R_ne HO_163005.out BK159.out (by decide)));have n4_:=Aside0.mk (blk_grown (g:=gb161) (o:=.cells #[.string ((rd_T98 l0_1 x15_1).f0),.string ((rd_T98 l0_1 x15_1).f1),.string ((rd_T98 l0_1 x15_1).f2),.int .u8 ((rd_T98 l0_1 x15_1).f3),.int .u16 ((rd_T98 l0_1 x15_1).f4),.slice (some ad163) ((rd_T98 l0_1 x15_1).f5).length c160_5] 98 (0,0)) (by (with_reducible repeat (first|apply blk_drewN|apply blk_drew|apply blk_alloc));refine blk_far ?_ NB161_164.out _;(with_reducible repeat (first|apply blk_drewN|apply blk_drew|apply blk_alloc));refine blk_far ?_ NB161_164.out _;(with_reducible repeat (first|apply blk_drewN|apply blk_drew|apply blk_alloc));exact BK161.out) hg (Kd.R_ne HO_163005.out BK161.out (by decide)));have n5_:=Aside0.mk (blk_grown (g:=gb162) (o:=.cells #[.string ((rd_T98 l0_1 x15_1).f0),.string ((rd_T98 l0_1 x15_1).f1),.string ((rd_T98 l0_1 x15_1).f2),.int .u8 ((rd_T98 l0_1 x15_1).f3),.int .u16 ((rd_T98 l0_1 x15_1).f4),u163005] 103 (0,0)) (by (with_reducible repeat (first|apply blk_drewN|apply blk_drew|apply blk_alloc));refine blk_far ?_ NB162_164.out _;(with_reducible repeat (first|apply blk_drewN|apply blk_drew|apply blk_alloc));refine blk_far ?_ NB162_164.out _;(with_reducible repeat (first|apply blk_drewN|apply blk_drew|apply blk_alloc));exact BK162.out) hg (Kd.R_ne HO_163005.out BK162.out (by decide)));have n6_:=Aside0.mk (blk_grown (g:=gb164) (o:=.cells #[.string ((rd_T100 ((rd_T98 l0_1 x15_1).f5) x33_2).f0),.string ((rd_T100 ((rd_T98 l0_1 x15_1).f5) x33_2).f1)] 100 (0,0)) (by (with_reducible repeat (first|apply blk_drewN|apply blk_drew|apply blk_alloc));refine blk_put (cs:=#[.string ((rd_T100 ((rd_T98 l0_1 x15_1).f5) x33_2).f0),.string (⟨#[]⟩ : ByteArray)]) ?_ 1 _ rfl;(with_reducible repeat (first|apply blk_drewN|apply blk_drew|apply blk_alloc));refine blk_put (cs:=#[.string (⟨#[]⟩ : ByteArray),.string (⟨#[]⟩ : ByteArray)]) ?_ 0 _ rfl;(with_reducible repeat (first|apply blk_drewN|apply blk_drew|apply blk_alloc));exact BK164.out) hg (Kd.R_ne HO_163005.out BK164.out (by decide)));have n7_:=Aside0.mk (hb);have n8_:=Aside0.mk (ho);clear HO_160001;clear BK157;clear BK158;clear BK159;clear BK161;clear BK162;clear BK164;clear HB;clear HO_163005;have HO_160001:=n0_;have BK157:=n1_;have BK158:=n2_;have BK159:=n3_;have BK161:=n4_;have BK162:=n5_;have BK164:=n6_;have HB:=n7_;have HO167:=n8_;clear n0_ n1_ n2_ n3_ n4_ n5_ n6_ n7_ n8_;clear ho hb hg hat;obtain ⟨Ao43,co43,eo43⟩:=Kd.R_slice HO167.out;subst eo43;have hcz44_0 : w42.cell? ⟨gb162,0,none⟩ = some (.string ((rd_T98 l0_1 x15_1).f0)):=(blk_cell BK162.out 0).trans rfl;have hcz44_1 : w42.cell? ⟨gb162,1,none⟩ = some (.string ((rd_T98 l0_1 x15_1).f1)):=(blk_cell BK162.out 1).trans rfl;have hcz44_2 : w42.cell? ⟨gb162,2,none⟩ = some (.string ((rd_T98 l0_1 x15_1).f2)):=(blk_cell BK162.out 2).trans rfl;have hcz44_3 : w42.cell? ⟨gb162,3,none⟩ = some (.int .u8 ((rd_T98 l0_1 x15_1).f3)):=(blk_cell BK162.out 3).trans rfl;have hcz44_4 : w42.cell? ⟨gb162,4,none⟩ = some (.int .u16 ((rd_T98 l0_1 x15_1).f4)):=(blk_cell BK162.out 4).trans rfl;have hcz44_5 : w42.cell? ⟨gb162,5,none⟩ = some (u163005):=(blk_cell BK162.out 5).trans rfl;have hfz44_0:=blk_frozen BK162.out 0;have hfz44_1:=blk_frozen BK162.out 1;have hfz44_2:=blk_frozen BK162.out 2;have hfz44_3:=blk_frozen BK162.out 3;have hfz44_4:=blk_frozen BK162.out 4;have hfz44_5:=blk_frozen BK162.out 5))
            go_roundg k2
            case measure=>have:=HK1.out;have:=HK2.out;omega
            case rel=>exact ⟨(wrap64 (x33_2 + 1)),(y165),(.slice Ao43 y165.length co43),(by first|rfl|(simp;done)|(simp [*];done)),H',⟨by have:=HK1.out;have:=HK2.out;omega⟩,⟨by (with_reducible repeat (first|apply Kd.S_alloc|apply Kd.S_drewN|apply Kd.S_drew));exact Kd.S_mono (Kd.S_far (p:=⟨gb162,5,none⟩) (Kd.S_mono HO_160001.out (fun k_ hk=>(⟨hk,hk.1⟩ : _ ∧ k_ ≠ gb162))) (fun _ hk=>hk.2) (.slice Ao43 y165.length co43)) (fun _ hk=>⟨hk.1.2,hk.1.1⟩)⟩,⟨by (with_reducible repeat (first|apply Kd.R_alloc|apply Kd.R_drewN|apply Kd.R_drew));exact Kd.R_mono (Kd.R_far (p:=⟨gb162,5,none⟩) (Kd.R_types HO167.out BK162.out (by decide)) (fun _ hk=>hk.2) (.slice Ao43 y165.length co43)) (fun _ hk=>trivial)⟩,⟨by (with_reducible repeat (first|apply blk_drewN|apply blk_drew|apply blk_alloc));refine blk_far ?_ NB157_162.out _;(with_reducible repeat (first|apply blk_drewN|apply blk_drew|apply blk_alloc));exact BK157.out⟩,⟨by (with_reducible repeat (first|apply blk_drewN|apply blk_drew|apply blk_alloc));refine blk_far ?_ NB158_162.out _;(with_reducible repeat (first|apply blk_drewN|apply blk_drew|apply blk_alloc));exact BK158.out⟩,⟨by (with_reducible repeat (first|apply blk_drewN|apply blk_drew|apply blk_alloc));refine blk_far ?_ NB159_162.out _;(with_reducible repeat (first|apply blk_drewN|apply blk_drew|apply blk_alloc));exact BK159.out⟩,⟨by (with_reducible repeat (first|apply blk_drewN|apply blk_drew|apply blk_alloc));refine blk_far ?_ NB161_162.out _;(with_reducible repeat (first|apply blk_drewN|apply blk_drew|apply blk_alloc));exact BK161.out⟩,⟨by (with_reducible repeat (first|apply blk_drewN|apply blk_drew|apply blk_alloc));refine blk_put (cs:=#[.string ((rd_T98 l0_1 x15_1).f0),.string ((rd_T98 l0_1 x15_1).f1),.string ((rd_T98 l0_1 x15_1).f2),.int .u8 ((rd_T98 l0_1 x15_1).f3),.int .u16 ((rd_T98 l0_1 x15_1).f4),u163005]) ?_ 5 _ rfl;(with_reducible repeat (first|apply blk_drewN|apply blk_drew|apply blk_alloc));exact BK162.out⟩,⟨by repeat (first|(with_reducible first|exact HB.out|apply below_alloc|apply pw_below_drewN|apply below_drew1|refine below_set ?_ GE157.out|refine below_set ?_ GE158.out|refine below_set ?_ GE159.out|refine below_set ?_ GE161.out|refine below_set ?_ GE162.out|refine below_set ?_ GE164.out)|exact HB.out)⟩⟩
           ·rw [if_neg c29] at H
            exact absurd H (by simp)
          ·rw [if_neg c28] at H
           exact absurd H (by simp)
         ·rw [if_neg c27] at H
          exact absurd H (by simp)
        ·rw [if_neg c26] at H
         have c26b0 : decide (x33_2 < (((rd_T98 l0_1 x15_1).f5).length : Int)) = false:=decide_eq_false c26
         clear c26
         by_cases c45 : x160001_1.length < 1759218604441
         ·rw [if_pos c45] at H
          have LMc45:=Aside0.mk c45
          clear c45
          obtain ⟨y168,hy168⟩ : ∃ y_ : List (S103),y_ = (x160001_1 ++ [(⟨((rd_T98 l0_1 x15_1).f0),((rd_T98 l0_1 x15_1).f1),((rd_T98 l0_1 x15_1).f2),((rd_T98 l0_1 x15_1).f3),((rd_T98 l0_1 x15_1).f4),x163005_2⟩ : S103)]):=⟨_,rfl⟩
          replace H : (bosunlaw18_Of.l0 k2 l0_1 (l0_1.length : Int) (wrap64 (x15_1 + 1)) a0_0 y168) = some (r1,r2):=by first|(rw [hy168];with_reducible exact H)|(have H2_:=(Option.bind_some _ _).symm.trans H;rw [hy168];with_reducible exact H2_)|(have H2_:=(Option.bind_some _ _).symm.trans H;with_reducible exact H2_)|with_reducible exact H|(rw [hy168];exact H)|exact H
          have Ny168:=Aside0.mk hy168
          clear hy168
          have H':=Aside0.mk H
          clear H
          have hnb46:=NB159_157.out
          have hnc46:=NB157_159.out
          have hnb47:=NB159_158.out
          have hnc47:=NB158_159.out
          have hnb48:=NB159_161.out
          have hnc48:=NB161_159.out
          have hnb49:=NB159_162.out
          have hnc49:=NB162_159.out
          have hcz50_0 : wr.cell? ⟨gb159,0,none⟩ = some (.int .u64 a0_0):=(blk_cell BK159.out 0).trans rfl
          have hcz50_1 : wr.cell? ⟨gb159,1,none⟩ = some (u160001):=(blk_cell BK159.out 1).trans rfl
          have hfz50_0:=blk_frozen BK159.out 0
          have hfz50_1:=blk_frozen BK159.out 1
          have hnb51:=NB162_157.out
          have hnc51:=NB157_162.out
          have hnb52:=NB162_158.out
          have hnc52:=NB158_162.out
          have hnb53:=NB162_161.out
          have hnc53:=NB161_162.out
          have hcz54_0 : wr.cell? ⟨gb162,0,none⟩ = some (.string ((rd_T98 l0_1 x15_1).f0)):=(blk_cell BK162.out 0).trans rfl
          have hcz54_1 : wr.cell? ⟨gb162,1,none⟩ = some (.string ((rd_T98 l0_1 x15_1).f1)):=(blk_cell BK162.out 1).trans rfl
          have hcz54_2 : wr.cell? ⟨gb162,2,none⟩ = some (.string ((rd_T98 l0_1 x15_1).f2)):=(blk_cell BK162.out 2).trans rfl
          have hcz54_3 : wr.cell? ⟨gb162,3,none⟩ = some (.int .u8 ((rd_T98 l0_1 x15_1).f3)):=(blk_cell BK162.out 3).trans rfl
          have hcz54_4 : wr.cell? ⟨gb162,4,none⟩ = some (.int .u16 ((rd_T98 l0_1 x15_1).f4)):=(blk_cell BK162.out 4).trans rfl
          have hcz54_5 : wr.cell? ⟨gb162,5,none⟩ = some (u163005):=(blk_cell BK162.out 5).trans rfl
          have hfz54_0:=blk_frozen BK162.out 0
          have hfz54_1:=blk_frozen BK162.out 1
          have hfz54_2:=blk_frozen BK162.out 2
          have hfz54_3:=blk_frozen BK162.out 3
          have hfz54_4:=blk_frozen BK162.out 4
          have hfz54_5:=blk_frozen BK162.out 5
          obtain ⟨Ao56,co56,eo56⟩:=Kd.R_slice HO_163005.out
          subst eo56
          go_wp2_with (first|((with_reducible refine gate_builtin (b:=.append) (xs:=#[.tmp 45,.tmp 47]) rfl ?_);at_builtin;refine Kd.S_append k103 (w0:=w) w.heap.size rfl (.tmp 45) (.tmp 47) 51 103 (.agg #[(.string ⟨#[]⟩),(.string ⟨#[]⟩),(.string ⟨#[]⟩),(.int .u8 0),(.int .u16 0),(.slice none 0 0)]) 80 rfl Tryd.underlying51 info103 rfl (by decide) (by omega) u160001 x160001_1 (⟨((rd_T98 l0_1 x15_1).f0),((rd_T98 l0_1 x15_1).f1),((rd_T98 l0_1 x15_1).f2),((rd_T98 l0_1 x15_1).f3),((rd_T98 l0_1 x15_1).f4),x163005_2⟩ : S103) [.string ((rd_T98 l0_1 x15_1).f0),.string ((rd_T98 l0_1 x15_1).f1),.string ((rd_T98 l0_1 x15_1).f2),.int .u8 ((rd_T98 l0_1 x15_1).f3),.int .u16 ((rd_T98 l0_1 x15_1).f4),.slice Ao56 x163005_2.length co56] (fun k_=>k_ ≠ gb162) (fun k_=>some k_ = (.slice Ao56 x163005_2.length co56 : Value).ownBlock) rfl rfl ?aP (fun k_ hk_=>((Kd.R_mono (ok':=fun k_=>((fun k_=>k_ ≠ gb162)) k_ ∧ some k_ ≠ (u160001 : Value).ownBlock) (Kd.R_types (Kd.R_apart' (HO_163005.out) (Kd.S_typed HO_160001.out) (by decide)) BK162.out (by decide)) (fun k_ hk=>⟨hk.2,hk.1.2⟩))).1 k_ hk_.symm) ?aF ?aO ?aB ?aS ?aL ?_;(case aP=>exact k103_mkM _ _ _ (⟨((rd_T98 l0_1 x15_1).f0),((rd_T98 l0_1 x15_1).f1),((rd_T98 l0_1 x15_1).f2),((rd_T98 l0_1 x15_1).f3),((rd_T98 l0_1 x15_1).f4),x163005_2⟩ : S103) (Kd.R_mono (Kd.R_tight rfl (Kd.R_mono (ok':=fun k_=>((fun k_=>k_ ≠ gb162)) k_ ∧ some k_ ≠ (u160001 : Value).ownBlock) (Kd.R_types (Kd.R_apart' (HO_163005.out) (Kd.S_typed HO_160001.out) (by decide)) BK162.out (by decide)) (fun k_ hk=>⟨hk.2,hk.1.2⟩))) (fun _ h_=>h_)));(case aB=>exact (by repeat (first|(with_reducible first|exact HB.out|apply below_alloc|apply pw_below_drewN|apply below_drew1|refine below_set ?_ GE157.out|refine below_set ?_ GE158.out|refine below_set ?_ GE159.out|refine below_set ?_ GE161.out|refine below_set ?_ GE162.out)|exact HB.out)));(case aF=>exact (fun k_ hk=>Kd.freshB (g:=gb162) (o:=.cells #[.string ((rd_T98 l0_1 x15_1).f0),.string ((rd_T98 l0_1 x15_1).f1),.string ((rd_T98 l0_1 x15_1).f2),.int .u8 ((rd_T98 l0_1 x15_1).f3),.int .u16 ((rd_T98 l0_1 x15_1).f4),.slice Ao56 x163005_2.length co56] 103 (0,0)) (by (with_reducible repeat (first|apply blk_drewN|apply blk_drew|apply blk_alloc));exact BK162.out) k_ hk));(case aO=>exact (by (with_reducible repeat (first|apply Kd.S_alloc|apply Kd.S_drewN|apply Kd.S_drew));exact Kd.S_mono HO_160001.out (fun k_ hk=>⟨hk.2,fun e_=>hk.1 e_⟩)));(case aS=>exact (below_size (by repeat (first|(with_reducible first|exact HB.out|apply below_alloc|apply pw_below_drewN|apply below_drew1|refine below_set ?_ GE157.out|refine below_set ?_ GE158.out|refine below_set ?_ GE159.out|refine below_set ?_ GE161.out|refine below_set ?_ GE162.out)|exact HB.out))));(case aL=>have:=LMc45.out;omega);intro v169 w55 ho hb hg hat;rw [← Ny168.out] at ho;have n0_:=Aside0.mk (blk_grown (g:=gb157) (o:=.cells #[.int .u64 a0_0,.slice (some ad160) l0_1.length c0_1] 49 (0,0)) (by (with_reducible repeat (first|apply blk_drewN|apply blk_drew|apply blk_alloc));exact BK157.out) hg (Kd.S_ne HO_160001.out BK157.out (by decide)));have n1_:=Aside0.mk (blk_grown (g:=gb158) (o:=.cells #[.int .u64 0,.slice none 0 0] 53 (0,0)) (by (with_reducible repeat (first|apply blk_drewN|apply blk_drew|apply blk_alloc));exact BK158.out) hg (Kd.S_ne HO_160001.out BK158.out (by decide)));have n2_:=Aside0.mk (blk_grown (g:=gb159) (o:=.cells #[.int .u64 a0_0,u160001] 53 (0,0)) (by (with_reducible repeat (first|apply blk_drewN|apply blk_drew|apply blk_alloc));exact BK159.out) hg (Kd.S_ne HO_160001.out BK159.out (by decide)));have n3_:=Aside0.mk (blk_grown (g:=gb161) (o:=.cells #[.string ((rd_T98 l0_1 x15_1).f0),.string ((rd_T98 l0_1 x15_1).f1),.string ((rd_T98 l0_1 x15_1).f2),.int .u8 ((rd_T98 l0_1 x15_1).f3),.int .u16 ((rd_T98 l0_1 x15_1).f4),.slice A160_5 ((rd_T98 l0_1 x15_1).f5).length c160_5] 98 (0,0)) (by (with_reducible repeat (first|apply blk_drewN|apply blk_drew|apply blk_alloc));exact BK161.out) hg (Kd.S_ne HO_160001.out BK161.out (by decide)));have n4_:=Aside0.mk (blk_grown (g:=gb162) (o:=.cells #[.string ((rd_T98 l0_1 x15_1).f0),.string ((rd_T98 l0_1 x15_1).f1),.string ((rd_T98 l0_1 x15_1).f2),.int .u8 ((rd_T98 l0_1 x15_1).f3),.int .u16 ((rd_T98 l0_1 x15_1).f4),.slice Ao56 x163005_2.length co56] 103 (0,0)) (by (with_reducible repeat (first|apply blk_drewN|apply blk_drew|apply blk_alloc));exact BK162.out) hg (Kd.S_away HO_160001.out (fun _ hk=>hk.2)));have n5_:=Aside0.mk (hb);have n6_:=Aside0.mk (ho);clear BK157;clear BK158;clear BK159;clear BK161;clear BK162;clear HB;clear HO_160001;clear HO_163005;have BK157:=n0_;have BK158:=n1_;have BK159:=n2_;have BK161:=n3_;have BK162:=n4_;have HB:=n5_;have HO170:=n6_;clear n0_ n1_ n2_ n3_ n4_ n5_ n6_;clear ho hb hg hat;obtain ⟨Ao57,co57,eo57⟩:=Kd.S_slice HO170.out;subst eo57;have hcz58_0 : w55.cell? ⟨gb159,0,none⟩ = some (.int .u64 a0_0):=(blk_cell BK159.out 0).trans rfl;have hcz58_1 : w55.cell? ⟨gb159,1,none⟩ = some (u160001):=(blk_cell BK159.out 1).trans rfl;have hfz58_0:=blk_frozen BK159.out 0;have hfz58_1:=blk_frozen BK159.out 1))
          go_roundg k2
          case measure=>have:=HK1.out;have:=HK2.out;omega
          case rel=>exact ⟨(wrap64 (x15_1 + 1)),(y168),(.slice Ao57 y168.length co57),(by first|rfl|(simp;done)|(simp [*];done)),H',⟨by have:=HK1.out;have:=HK2.out;omega⟩,⟨by (with_reducible repeat (first|apply Kd.S_alloc|apply Kd.S_drewN|apply Kd.S_drew));exact Kd.S_mono (Kd.S_far (p:=⟨gb159,1,none⟩) (Kd.S_types HO170.out BK159.out (by decide)) (fun _ hk=>hk.2) (.slice Ao57 y168.length co57)) (fun _ hk=>trivial)⟩,⟨by (with_reducible repeat (first|apply blk_drewN|apply blk_drew|apply blk_alloc));refine blk_far ?_ NB157_159.out _;(with_reducible repeat (first|apply blk_drewN|apply blk_drew|apply blk_alloc));exact BK157.out⟩,⟨by (with_reducible repeat (first|apply blk_drewN|apply blk_drew|apply blk_alloc));refine blk_far ?_ NB158_159.out _;(with_reducible repeat (first|apply blk_drewN|apply blk_drew|apply blk_alloc));exact BK158.out⟩,⟨by (with_reducible repeat (first|apply blk_drewN|apply blk_drew|apply blk_alloc));refine blk_put (cs:=#[.int .u64 a0_0,u160001]) ?_ 1 _ rfl;(with_reducible repeat (first|apply blk_drewN|apply blk_drew|apply blk_alloc));exact BK159.out⟩,⟨by repeat (first|(with_reducible first|exact HB.out|apply below_alloc|apply pw_below_drewN|apply below_drew1|refine below_set ?_ GE157.out|refine below_set ?_ GE158.out|refine below_set ?_ GE159.out|refine below_set ?_ GE161.out|refine below_set ?_ GE162.out)|exact HB.out)⟩⟩
         ·rw [if_neg c45] at H
          exact absurd H (by simp)
     ·rw [if_neg c13] at H
      exact absurd H (by simp)
    ·rw [if_neg c12] at H
     exact absurd H (by simp)
   ·rw [if_neg c11] at H
    have c11b0 : decide (x15_1 < (l0_1.length : Int)) = false:=decide_eq_false c11
    clear c11
    simp only [Option.some.injEq,Prod.mk.injEq] at H
    obtain ⟨rfl,rfl⟩:=H
    have hnb59:=NB159_157.out
    have hnc59:=NB157_159.out
    have hnb60:=NB159_158.out
    have hnc60:=NB158_159.out
    have hcz61_0 : wr.cell? ⟨gb159,0,none⟩ = some (.int .u64 a0_0):=(blk_cell BK159.out 0).trans rfl
    have hcz61_1 : wr.cell? ⟨gb159,1,none⟩ = some (u160001):=(blk_cell BK159.out 1).trans rfl
    have hfz61_0:=blk_frozen BK159.out 0
    have hfz61_1:=blk_frozen BK159.out 1
    have hnb62:=NB158_157.out
    have hnc62:=NB157_158.out
    have hcz63_0 : wr.cell? ⟨gb158,0,none⟩ = some (.int .u64 0):=(blk_cell BK158.out 0).trans rfl
    have hcz63_1 : wr.cell? ⟨gb158,1,none⟩ = some (.slice none 0 0):=(blk_cell BK158.out 1).trans rfl
    have hfz63_0:=blk_frozen BK158.out 0
    have hfz63_1:=blk_frozen BK158.out 1
    obtain ⟨Ao64,co64,eo64⟩:=Kd.S_slice HO_160001.out
    subst eo64
    go_wp2
    refine bodyPost_ret (results_cell_row rfl _ _ gb158 53 #[.int .u64 a0_0,.slice Ao64 x160001_1.length co64] (0,0) _ rfl (by (with_reducible repeat (first|apply blk_drewN|apply blk_drew|apply blk_alloc));refine blk_put (cs:=#[.int .u64 a0_0,.slice none 0 0]) ?_ 1 _ rfl;(with_reducible repeat (first|apply blk_drewN|apply blk_drew|apply blk_alloc));refine blk_put (cs:=#[.int .u64 0,.slice none 0 0]) ?_ 0 _ rfl;(with_reducible repeat (first|apply blk_drewN|apply blk_drew|apply blk_alloc));exact BK158.out) Tryd.underlying53 rfl (by kernel_rfl)) rfl ?_
    exact ⟨_,by first|rfl|(simp [errW_none,errW_some] <;> rfl)|(simp [*,errW_none,errW_some] <;> rfl),by (with_reducible repeat (first|apply Kd.S_alloc|apply Kd.S_drewN|apply Kd.S_drew));exact Kd.S_mono (Kd.S_far (p:=⟨gb158,1,none⟩) (Kd.S_far (p:=⟨gb158,0,none⟩) (Kd.S_types HO_160001.out BK158.out (by decide)) (fun _ hk=>hk.2) (.int .u64 a0_0)) (fun _ hk=>hk.2) (.slice Ao64 x160001_1.length co64)) (fun _ hk=>trivial),by repeat (first|(with_reducible first|exact HB.out|apply below_alloc|apply pw_below_drewN|apply below_drew1|refine below_set ?_ GE157.out|refine below_set ?_ GE158.out|refine below_set ?_ GE159.out)|exact HB.out)⟩

/-- A state of type 86 at block g of W; what its slices lead to came in by w0. -/
def IsS86 (w0 W : World) (g : Nat) (f0 : ByteArray) (f1 : Int) : Prop:=W.heap[g]? = some (.cells #[.string f0,.int .i64 f1] 86 (0,0)) ∧ w0.heap.size ≤ g
theorem IsS86.grown {w0 W : World} {g : Nat} {f0 : ByteArray} {f1 : Int} {W1 : World} {row : Option Nat} (h : IsS86 w0 W g f0 f1) (hw : W.grownBy W1 row) (hne : some g ≠ row) : IsS86 w0 W1 g f0 f1:=by
 obtain ⟨hb,hg⟩:=h
 exact ⟨blk_grown hb hw hne,hg⟩
theorem IsS86.own_neN {w0 W : World} {g : Nat} {f0 : ByteArray} {f1 : Int} {α : Type} {d : Kd α} {e : Nat} {base : Nat} {ok : Nat → Prop} {v : Value} {xs : List α} (h : IsS86 w0 W g f0 f1) (ho : Kd.N d e W base ok v xs) (ht : e ≠ 86) : some g ≠ v.ownBlock:=by
 obtain ⟨hb,hg⟩:=h
 exact Kd.N_ne ho hb ht
theorem IsS86.fresh {w0 W : World} {g : Nat} {f0 : ByteArray} {f1 : Int} (h : IsS86 w0 W g f0 f1) : ∀ k,W.heap.size ≤ k → k ≠ g:=by
 obtain ⟨hb,hg⟩:=h
 exact Kd.freshB hb
theorem IsS86.kept {w0 W : World} {g : Nat} {f0 : ByteArray} {f1 : Int} {W1 : World} {S : Nat → Prop} (h : IsS86 w0 W g f0 f1) (hk : Kept W W1 S) (hne : ¬ S g) : IsS86 w0 W1 g f0 f1:=by
 obtain ⟨hb,hg⟩:=h
 exact ⟨blk_kept hb hk hne,hg⟩
theorem IsS86.below {w0 W : World} {g : Nat} {f0 : ByteArray} {f1 : Int} {W1 : World} (h : IsS86 w0 W g f0 f1) (hw : Below W.heap.size W W1) : IsS86 w0 W1 g f0 f1:=h.grown (grown_of_below hw none) (by simp)
theorem IsS86.alloc {w0 W : World} {g : Nat} {f0 : ByteArray} {f1 : Int} (h : IsS86 w0 W g f0 f1) (o : Obj) : IsS86 w0 (W.alloc o) g f0 f1:=h.below (below_alloc (Below.refl _ _) o)
theorem IsS86.drewN {w0 W : World} {g : Nat} {f0 : ByteArray} {f1 : Int} (h : IsS86 w0 W g f0 f1) (m : Nat) : IsS86 w0 (W.drewN m) g f0 f1:=h
theorem IsS86.drew {w0 W : World} {g : Nat} {f0 : ByteArray} {f1 : Int} (h : IsS86 w0 W g f0 f1) : IsS86 w0 W.drew g f0 f1:=h
theorem IsS86.at_ {w0 W : World} {g : Nat} {f0 : ByteArray} {f1 : Int} {w' : World} {m : Nat} (hq : W.drewN m = w') (h : IsS86 w0 W g f0 f1) : IsS86 w0 w' g f0 f1:=by subst hq;exact IsS86.drewN h m
theorem IsS86.apart {w0 W : World} {g : Nat} {f0 : ByteArray} {f1 : Int} {α : Type} {d : Kd α} {e : Nat} {base : Nat} {ok : Nat → Prop} {v : Value} {xs : List α} (h : IsS86 w0 W g f0 f1) (ho : d.R e W base ok v xs) (ht : ∀ q,q ∈ e :: d.E → q ≠ 86) : d.R e W base (fun k=>ok k ∧ k ≠ g) v xs:=by
 obtain ⟨hb,hg⟩:=h
 exact Kd.R_types ho hb ht
theorem IsS86.own_ne {w0 W : World} {g : Nat} {f0 : ByteArray} {f1 : Int} {α : Type} {d : Kd α} {e : Nat} {base : Nat} {ok : Nat → Prop} {v : Value} {xs : List α} (h : IsS86 w0 W g f0 f1) (ho : d.R e W base ok v xs) (ht : e ≠ 86) : some g ≠ v.ownBlock:=by
 obtain ⟨hb,hg⟩:=h
 exact Kd.R_ne ho hb ht
theorem IsS86.apartQ {w0 W : World} {g : Nat} {f0 : ByteArray} {f1 : Int} {α : Type} {d : Kd α} {e : Nat} {base : Nat} {ok : Nat → Prop} {v : Value} {xs : List α} (h : IsS86 w0 W g f0 f1) (ho : d.Q e W base ok v xs) (ht : ∀ q,q ∈ e :: d.E → q ≠ 86) : d.Q e W base (fun k=>ok k ∧ k ≠ g) v xs:=by
 obtain ⟨hb,hg⟩:=h
 exact Kd.Q_types ho hb ht
theorem IsS86.own_neQ {w0 W : World} {g : Nat} {f0 : ByteArray} {f1 : Int} {α : Type} {d : Kd α} {e : Nat} {base : Nat} {ok : Nat → Prop} {v : Value} {xs : List α} (h : IsS86 w0 W g f0 f1) (ho : d.Q e W base ok v xs) (ht : e ≠ 86) : some g ≠ v.ownBlock:=by
 obtain ⟨hb,hg⟩:=h
 exact Kd.Q_ne ho hb ht
theorem IsS86.apartS {w0 W : World} {g : Nat} {f0 : ByteArray} {f1 : Int} {α : Type} {d : Kd α} {e : Nat} {base : Nat} {ok : Nat → Prop} {v : Value} {xs : List α} (h : IsS86 w0 W g f0 f1) (ho : d.S e W base ok v xs) (ht : ∀ q,q ∈ e :: d.E → q ≠ 86) : d.S e W base (fun k=>ok k ∧ k ≠ g) v xs:=by
 obtain ⟨hb,hg⟩:=h
 exact Kd.S_types ho hb ht
theorem IsS86.own_neS {w0 W : World} {g : Nat} {f0 : ByteArray} {f1 : Int} {α : Type} {d : Kd α} {e : Nat} {base : Nat} {ok : Nat → Prop} {v : Value} {xs : List α} (h : IsS86 w0 W g f0 f1) (ho : d.S e W base ok v xs) (ht : e ≠ 86) : some g ≠ v.ownBlock:=by
 obtain ⟨hb,hg⟩:=h
 exact Kd.S_ne ho hb ht
theorem IsS86.lt {w0 W : World} {g : Nat} {f0 : ByteArray} {f1 : Int} (h : IsS86 w0 W g f0 f1) : g < W.heap.size:=by
 obtain ⟨hb,hg⟩:=h
 exact blk_lt hb
theorem IsS86.ge {w0 W : World} {g : Nat} {f0 : ByteArray} {f1 : Int} (h : IsS86 w0 W g f0 f1) : w0.heap.size ≤ g:=by
 obtain ⟨hb,hg⟩:=h
 exact hg
theorem IsS86.ne_blk {w0 W : World} {g : Nat} {f0 : ByteArray} {f1 : Int} {a : Nat} {cs : Array Value} {t : TypeId} {fr : Nat × Nat} (h : IsS86 w0 W g f0 f1) (hb2 : W.heap[a]? = some (.cells cs t fr)) (ht : t ≠ 86) : g ≠ a:=by
 obtain ⟨hb,hg⟩:=h
 rintro rfl
 rw [hb] at hb2
 injection hb2 with hb2
 injection hb2 with _ ht2
 exact ht ht2.symm
theorem IsS86.far {w0 W : World} {g : Nat} {f0 : ByteArray} {f1 : Int} {p : Addr} (h : IsS86 w0 W g f0 f1) (hne : g ≠ p.block) (u : Value) : IsS86 w0 (W.setCell p u) g f0 f1:=by
 obtain ⟨hb,hg⟩:=h
 exact ⟨blk_far hb hne u,hg⟩
theorem cellS86_0 {W : World} {g : Nat} {f0 : ByteArray} {f1 : Int} (h : W.heap[g]? = some (.cells #[.string f0,.int .i64 f1] 86 (0,0))) : W.cell? ⟨g,0,none⟩ = some (.string f0):=(blk_cell h 0).trans rfl
theorem IsS86.set_0 {w0 W : World} {g : Nat} {f0 : ByteArray} {f1 : Int} (h : IsS86 w0 W g f0 f1) (x : ByteArray) : IsS86 w0 (W.setCell ⟨g,0,none⟩ (.string x)) g x f1:=by
 obtain ⟨hb,hg⟩:=h
 exact ⟨by simpa using blk_set hb 0 (.string x),hg⟩
theorem cellS86_1 {W : World} {g : Nat} {f0 : ByteArray} {f1 : Int} (h : W.heap[g]? = some (.cells #[.string f0,.int .i64 f1] 86 (0,0))) : W.cell? ⟨g,1,none⟩ = some (.int .i64 f1):=(blk_cell h 1).trans rfl
theorem IsS86.set_1 {w0 W : World} {g : Nat} {f0 : ByteArray} {f1 : Int} (h : IsS86 w0 W g f0 f1) (x : Int) : IsS86 w0 (W.setCell ⟨g,1,none⟩ (.int .i64 x)) g f0 x:=by
 obtain ⟨hb,hg⟩:=h
 exact ⟨by simpa using blk_set hb 1 (.int .i64 x),hg⟩
theorem IsS86.new (w0 W : World) (f0 : ByteArray) (f1 : Int) (hB : Below w0.heap.size w0 W) : IsS86 w0 (W.alloc (.cells #[.string f0,.int .i64 f1] 86)) W.heap.size f0 f1:=⟨by simpa using heap_alloc_new W _,hB.size⟩

/-! ### pack_Taker_bytes: function 77 -/
def pack_Taker_bytes.f (s0_0 : ByteArray) (s0_1 : Int) (a1 : Int) : Option (ByteArray × Bool × ByteArray × Int):=if s0_1 = 0 then (if a1 > (s0_0.size : Int) then (some ((⟨#[]⟩ : ByteArray),false,s0_0,1)) else (if 0 ≤ a1 then (if a1 ≤ (s0_0.size : Int) then (some (s0_0.extract 0 (a1 : Int).toNat,true,s0_0.extract (a1 : Int).toNat s0_0.size,s0_1)) else (none)) else (none))) else (some ((⟨#[]⟩ : ByteArray),false,s0_0,s0_1))
set_option maxHeartbeats 8000000 in
set_option maxRecDepth 100000 in
theorem pack_Taker_bytes.calls (g : Nat) (s0_0 : ByteArray) (s0_1 : Int) (a1 : Int) (r1 : ByteArray) (r2 : Bool) (r3 : ByteArray) (r4 : Int) (w0 w : World) (hI : IsS86 w0 w g s0_0 s0_1) (hB : Below w0.heap.size w0 w) (h : pack_Taker_bytes.f s0_0 s0_1 a1 = some (r1,r2,r3,r4)) :
  Calls Tryd.prog 77 #[.pointer (some ⟨g,0,none⟩),.int .i64 a1] w fun e w'=>e = .returned (.tuple #[.string r1,.bool r2]) ∧ IsS86 w0 w' g r3 r4 ∧ Below w0.heap.size w0 w' ∧ KeepBut w w' g none:=by
 have HI0:=Aside0.mk hI
 have HK:=Aside0.mk (KeepBut.refl w g none)
 have HL:=Aside0.mk hB.size
 clear hI
 have HW0:=Aside0.mk hB.size
 have HB:=Aside0.mk hB
 clear hB
 have H : (if s0_1 = 0 then (if a1 > (s0_0.size : Int) then (some ((⟨#[]⟩ : ByteArray),false,s0_0,1)) else (if 0 ≤ a1 then (if a1 ≤ (s0_0.size : Int) then (some (s0_0.extract 0 (a1 : Int).toNat,true,s0_0.extract (a1 : Int).toNat s0_0.size,s0_1)) else (none)) else (none))) else (some ((⟨#[]⟩ : ByteArray),false,s0_0,s0_1))) = some (r1,r2,r3,r4):=h
 clear h
 by_cases c3 : s0_1 = 0
 ·rw [if_pos c3] at H
  have c3b0 : (s0_1 == 0) = true:=beq_iff_eq.mpr c3
  have c3b1 : (s0_1 != 0) = false:=bne_eq_false_iff_eq.mpr c3
  clear c3
  by_cases c4 : a1 > (s0_0.size : Int)
  ·rw [if_pos c4] at H
   have c4b0 : decide ((s0_0.size : Int) < a1) = true:=decide_eq_true c4
   clear c4
   simp only [Option.some.injEq,Prod.mk.injEq] at H
   obtain ⟨rfl,rfl,rfl,rfl⟩:=H
   obtain ⟨HGz5,hgz5⟩:=HI0.out
   have hcz5_0:=cellS86_0 HGz5
   have hcz5_1:=cellS86_1 HGz5
   have hfz5_0:=blk_frozen HGz5 0
   have hfz5_1:=blk_frozen HGz5 1
   clear HGz5 hgz5
   go_enter Tryd.func77,Tryd.ntmps77
   go_wp2
   go_ret2
   exact ⟨by first|rfl|(simp [errW_none,errW_some] <;> rfl)|(simp [*,errW_none,errW_some] <;> rfl),by repeat (first|(with_reducible first|exact HI0.out|apply IsS86.alloc|apply IsS86.drewN|apply IsS86.drew|apply IsS86.set_0|apply IsS86.set_1)|exact HI0.out),by repeat (first|(with_reducible first|exact HB.out|apply below_alloc|apply pw_below_drewN|apply below_drew1|refine below_set ?_ (IsS86.ge HI0.out))|exact HB.out),by repeat (first|(with_reducible first|exact HK.out|apply KeepBut.set_|apply keep_drewN|apply keep_drew|apply keep_alloc)|exact HK.out)⟩
  ·rw [if_neg c4] at H
   have c4b0 : decide ((s0_0.size : Int) < a1) = false:=decide_eq_false c4
   clear c4
   by_cases c6 : 0 ≤ a1
   ·rw [if_pos c6] at H
    have c6b0:=eq_true c6
    have c6b1 : decide (0 ≤ a1) = true:=decide_eq_true c6
    clear c6
    by_cases c7 : a1 ≤ (s0_0.size : Int)
    ·rw [if_pos c7] at H
     have c7b0:=eq_true c7
     have c7b1 : decide (a1 ≤ (s0_0.size : Int)) = true:=decide_eq_true c7
     clear c7
     have c8b0:=eq_true (of_decide_eq_true (by first|(with_reducible assumption)|assumption) : 0 ≤ a1)
     have c9b0:=eq_true (of_decide_eq_true (by first|(with_reducible assumption)|assumption) : a1 ≤ (s0_0.size : Int))
     simp only [Option.some.injEq,Prod.mk.injEq] at H
     obtain ⟨rfl,rfl,rfl,rfl⟩:=H
     obtain ⟨HGz10,hgz10⟩:=HI0.out
     have hcz10_0:=cellS86_0 HGz10
     have hcz10_1:=cellS86_1 HGz10
     have hfz10_0:=blk_frozen HGz10 0
     have hfz10_1:=blk_frozen HGz10 1
     clear HGz10 hgz10
     go_enter Tryd.func77,Tryd.ntmps77
     go_wp2
     go_ret2
     exact ⟨by first|rfl|(simp [errW_none,errW_some] <;> rfl)|(simp [*,errW_none,errW_some] <;> rfl),by repeat (first|(with_reducible first|exact HI0.out|apply IsS86.alloc|apply IsS86.drewN|apply IsS86.drew|apply IsS86.set_0|apply IsS86.set_1)|exact HI0.out),by repeat (first|(with_reducible first|exact HB.out|apply below_alloc|apply pw_below_drewN|apply below_drew1|refine below_set ?_ (IsS86.ge HI0.out))|exact HB.out),by repeat (first|(with_reducible first|exact HK.out|apply KeepBut.set_|apply keep_drewN|apply keep_drew|apply keep_alloc)|exact HK.out)⟩
    ·rw [if_neg c7] at H
     exact absurd H (by simp)
   ·rw [if_neg c6] at H
    exact absurd H (by simp)
 ·rw [if_neg c3] at H
  have c3b0 : (s0_1 == 0) = false:=beq_eq_false_iff_ne.mpr c3
  have c3b1 : (s0_1 != 0) = true:=bne_iff_ne.mpr c3
  simp only [Option.some.injEq,Prod.mk.injEq] at H
  obtain ⟨rfl,rfl,rfl,rfl⟩:=H
  obtain ⟨HGz11,hgz11⟩:=HI0.out
  have hcz11_0:=cellS86_0 HGz11
  have hcz11_1:=cellS86_1 HGz11
  have hfz11_0:=blk_frozen HGz11 0
  have hfz11_1:=blk_frozen HGz11 1
  clear HGz11 hgz11
  go_enter Tryd.func77,Tryd.ntmps77
  go_wp2
  go_ret2
  exact ⟨by first|rfl|(simp [errW_none,errW_some] <;> rfl)|(simp [*,errW_none,errW_some] <;> rfl),by repeat (first|(with_reducible first|exact HI0.out|apply IsS86.alloc|apply IsS86.drewN|apply IsS86.drew|apply IsS86.set_0|apply IsS86.set_1)|exact HI0.out),by repeat (first|(with_reducible first|exact HB.out|apply below_alloc|apply pw_below_drewN|apply below_drew1|refine below_set ?_ (IsS86.ge HI0.out))|exact HB.out),by repeat (first|(with_reducible first|exact HK.out|apply KeepBut.set_|apply keep_drewN|apply keep_drew|apply keep_alloc)|exact HK.out)⟩

/-! ### pack_Taker_Take: function 48 -/
mutual
def pack_Taker_Take.j0 : Nat → Int → Bool → ByteArray → Int → Option (Int × ByteArray × Int)
 | 0,_,_,_,_=>none
 | k + 1,x1,x18,x1000,x1001=>if x18 = true then (pack_Taker_Take.j1 k x1 x1000 7) else (pack_Taker_Take.j1 k x1 x1000 x1001)
def pack_Taker_Take.j1 : Nat → Int → ByteArray → Int → Option (Int × ByteArray × Int)
 | 0,_,_,_=>none
 | k + 1,x1,x1000,x1001=>(pack_Taker_bytes.f x1000 x1001 x1).bind fun bt172=>(if bt172.2.1 = true then (pack_Taker_Take.l0 k bt172.1 0 (bt172.1.size : Int) 0 bt172.2.2.1 bt172.2.2.2) else (some (0,bt172.2.2.1,bt172.2.2.2)))
def pack_Taker_Take.l0 : Nat → ByteArray → Int → Int → Int → ByteArray → Int → Option (Int × ByteArray × Int)
 | 0,_,_,_,_,_,_=>none
 | k + 1,x5,x7,x31,x32,x1000,x1001=>if x32 < x31 then (if 0 ≤ x32 then (if x32 < (x5.size : Int) then (pack_Taker_Take.l0 k x5 (Go.bits .or .u64 (IntKind.u64.wrap (x7 * 256)) (IntKind.u64.wrap (bt x5 x32))) x31 (wrap64 (x32 + 1)) x1000 x1001) else (none)) else (none)) else (some (x7,x1000,x1001))
end
def pack_Taker_Take.f (k : Nat) (s0_0 : ByteArray) (s0_1 : Int) (a1 : Int) : Option (Int × ByteArray × Int):=if s0_1 = 0 then ((pack_size.f a1).bind fun t171=>(pack_Taker_Take.j0 k a1 (!t171) s0_0 s0_1)) else (pack_Taker_Take.j0 k a1 false s0_0 s0_1)
theorem pack_Taker_Take.mono_l : ∀ k,(∀ y0 y1 y2 y3,LeO (pack_Taker_Take.j0 k y0 y1 y2 y3) (pack_Taker_Take.j0 (k + 1) y0 y1 y2 y3)) ∧ (∀ y0 y1 y2,LeO (pack_Taker_Take.j1 k y0 y1 y2) (pack_Taker_Take.j1 (k + 1) y0 y1 y2)) ∧ (∀ y0 y1 y2 y3 y4 y5,LeO (pack_Taker_Take.l0 k y0 y1 y2 y3 y4 y5) (pack_Taker_Take.l0 (k + 1) y0 y1 y2 y3 y4 y5))
 | 0=>⟨fun _ _ _ _ r h=>by simp [pack_Taker_Take.j0] at h,fun _ _ _ r h=>by simp [pack_Taker_Take.j1] at h,fun _ _ _ _ _ _ r h=>by simp [pack_Taker_Take.l0] at h⟩
 | k + 1=>by
  obtain ⟨ih0,ih1,ih2⟩:=pack_Taker_Take.mono_l k
  refine ⟨?_,?_,?_⟩
  ·intro y0 y1 y2 y3
   unfold pack_Taker_Take.j0
   repeat' first
   | (with_reducible exact ih0 _ _ _ _)
   | (with_reducible exact ih1 _ _ _)
   | (with_reducible exact ih2 _ _ _ _ _ _)
   | (with_reducible exact LeO.refl _)
   | (with_reducible exact LeO.none _)
   | (with_reducible refine LeO.ite ?_ ?_)
   | (with_reducible refine LeO.bind ?_ (fun _=>?_))
   | exact ih0 _ _ _ _
   | exact ih1 _ _ _
   | exact ih2 _ _ _ _ _ _
   | exact LeO.none _
   | refine LeO.ite ?_ ?_
   | refine LeO.bind ?_ (fun _=>?_)
  ·intro y0 y1 y2
   unfold pack_Taker_Take.j1
   repeat' first
   | (with_reducible exact ih0 _ _ _ _)
   | (with_reducible exact ih1 _ _ _)
   | (with_reducible exact ih2 _ _ _ _ _ _)
   | (with_reducible exact LeO.refl _)
   | (with_reducible exact LeO.none _)
   | (with_reducible refine LeO.ite ?_ ?_)
   | (with_reducible refine LeO.bind ?_ (fun _=>?_))
   | exact ih0 _ _ _ _
   | exact ih1 _ _ _
   | exact ih2 _ _ _ _ _ _
   | exact LeO.none _
   | refine LeO.ite ?_ ?_
   | refine LeO.bind ?_ (fun _=>?_)
  ·intro y0 y1 y2 y3 y4 y5
   unfold pack_Taker_Take.l0
   repeat' first
   | (with_reducible exact ih0 _ _ _ _)
   | (with_reducible exact ih1 _ _ _)
   | (with_reducible exact ih2 _ _ _ _ _ _)
   | (with_reducible exact LeO.refl _)
   | (with_reducible exact LeO.none _)
   | (with_reducible refine LeO.ite ?_ ?_)
   | (with_reducible refine LeO.bind ?_ (fun _=>?_))
   | exact ih0 _ _ _ _
   | exact ih1 _ _ _
   | exact ih2 _ _ _ _ _ _
   | exact LeO.none _
   | refine LeO.ite ?_ ?_
   | refine LeO.bind ?_ (fun _=>?_)
theorem pack_Taker_Take.mono : ∀ a0 a1 a2 k,LeO (pack_Taker_Take.f k a0 a1 a2) (pack_Taker_Take.f (k + 1) a0 a1 a2):=by
 intro a0 a1 a2 k
 obtain ⟨ih0,ih1,ih2⟩:=pack_Taker_Take.mono_l k
 unfold pack_Taker_Take.f
 repeat' first
   | (with_reducible exact ih0 _ _ _ _)
   | (with_reducible exact ih1 _ _ _)
   | (with_reducible exact ih2 _ _ _ _ _ _)
   | (with_reducible exact LeO.refl _)
   | (with_reducible exact LeO.none _)
   | (with_reducible refine LeO.ite ?_ ?_)
   | (with_reducible refine LeO.bind ?_ (fun _=>?_))
   | exact ih0 _ _ _ _
   | exact ih1 _ _ _
   | exact ih2 _ _ _ _ _ _
   | exact LeO.none _
   | refine LeO.ite ?_ ?_
   | refine LeO.bind ?_ (fun _=>?_)
set_option maxHeartbeats 8000000 in
set_option maxRecDepth 100000 in
theorem pack_Taker_Take.calls (k : Nat) (g : Nat) (s0_0 : ByteArray) (s0_1 : Int) (a1 : Int) (r1 : Int) (r2 : ByteArray) (r3 : Int) (w0 w : World) (hI : IsS86 w0 w g s0_0 s0_1) (hB : Below w0.heap.size w0 w) (h : pack_Taker_Take.f k s0_0 s0_1 a1 = some (r1,r2,r3)) :
  Calls Tryd.prog 48 #[.pointer (some ⟨g,0,none⟩),.int .i64 a1] w fun e w'=>e = .returned (.int .u64 r1) ∧ IsS86 w0 w' g r2 r3 ∧ Below w0.heap.size w0 w' ∧ KeepBut w w' g none:=by
 have HI0:=Aside0.mk hI
 have HK:=Aside0.mk (KeepBut.refl w g none)
 have HL:=Aside0.mk hB.size
 clear hI
 have HW0:=Aside0.mk hB.size
 have HB:=Aside0.mk hB
 clear hB
 have H : (if s0_1 = 0 then ((pack_size.f a1).bind fun t171=>(pack_Taker_Take.j0 k a1 (!t171) s0_0 s0_1)) else (pack_Taker_Take.j0 k a1 false s0_0 s0_1)) = some (r1,r2,r3):=h
 clear h
 have HC3:=Aside0.mk H
 clear H
 go_enter Tryd.func48,Tryd.ntmps48
 go_upto_region 1 with (fail)
 go_cut [18] (fun v18 wc=>∃ (kq : Nat) (x18_2 : Bool),v18 = .bool x18_2 ∧ Aside0 (pack_Taker_Take.j0 kq a1 x18_2 s0_0 s0_1 = some (r1,r2,r3)) ∧ Aside0 (kq ≤ k) ∧ Aside0 (IsS86 w0 wc g s0_0 s0_1) ∧ Aside0 (KeepBut w wc g none) ∧ Aside0 (Below w0.heap.size w0 wc))
 case first =>
  have H:=HC3.out
  clear HC3
  by_cases c4 : s0_1 = 0
  ·rw [if_pos c4] at H
   have c4b0 : (s0_1 == 0) = true:=beq_iff_eq.mpr c4
   have c4b1 : (s0_1 != 0) = false:=bne_eq_false_iff_eq.mpr c4
   clear c4
   (first|rw [c4b0]|(simp only [i64_w,i32_w];rw [c4b0])|skip)
   replace H:=Option.bind_eq_some_iff.mp H
   obtain ⟨t171,A50,H⟩:=H
   replace H : (pack_Taker_Take.j0 k a1 (!t171) s0_0 s0_1) = some (r1,r2,r3):=H
   have A5:=Aside0.mk A50
   clear A50
   have H':=Aside0.mk H
   clear H
   obtain ⟨HGz6,hgz6⟩:=HI0.out
   have hcz6_0:=cellS86_0 HGz6
   have hcz6_1:=cellS86_1 HGz6
   have hfz6_0:=blk_frozen HGz6 0
   have hfz6_1:=blk_frozen HGz6 1
   clear HGz6 hgz6
   go_wp2_with (first|(go_at_call 71;(with_reducible refine (pack_size.calls a1 t171 _ A5.out).mono ?_);rintro e w' ⟨rfl,⟨nd,rfl⟩⟩))
   go_meet
   case rel=>exact ⟨_,(!t171),(by first|rfl|(simp;done)|(simp [*];done)),H',⟨by first|omega|exact Nat.le_refl _⟩,⟨by repeat (first|(with_reducible first|exact HI0.out|apply IsS86.alloc|apply IsS86.drewN|apply IsS86.drew|apply IsS86.set_0|apply IsS86.set_1)|exact HI0.out)⟩,⟨by repeat (first|(with_reducible first|exact HK.out|apply KeepBut.set_|apply keep_drewN|apply keep_drew|apply keep_alloc)|exact HK.out)⟩,⟨by repeat (first|(with_reducible first|exact HB.out|apply below_alloc|apply pw_below_drewN|apply below_drew1|refine below_set ?_ (IsS86.ge HI0.out))|exact HB.out)⟩⟩
  ·rw [if_neg c4] at H
   have c4b0 : (s0_1 == 0) = false:=beq_eq_false_iff_ne.mpr c4
   have c4b1 : (s0_1 != 0) = true:=bne_iff_ne.mpr c4
   (first|rw [c4b0]|(simp only [i64_w,i32_w];rw [c4b0])|skip)
   have H':=Aside0.mk H
   clear H
   obtain ⟨HGz7,hgz7⟩:=HI0.out
   have hcz7_0:=cellS86_0 HGz7
   have hcz7_1:=cellS86_1 HGz7
   have hfz7_0:=blk_frozen HGz7 0
   have hfz7_1:=blk_frozen HGz7 1
   clear HGz7 hgz7
   go_wp2
   go_meet
   case rel=>exact ⟨_,(false),(by first|rfl|(simp;done)|(simp [*];done)),H',⟨by first|omega|exact Nat.le_refl _⟩,⟨by repeat (first|(with_reducible first|exact HI0.out|apply IsS86.alloc|apply IsS86.drewN|apply IsS86.drew|apply IsS86.set_0|apply IsS86.set_1)|exact HI0.out)⟩,⟨by repeat (first|(with_reducible first|exact HK.out|apply KeepBut.set_|apply keep_drewN|apply keep_drew|apply keep_alloc)|exact HK.out)⟩,⟨by repeat (first|(with_reducible first|exact HB.out|apply below_alloc|apply pw_below_drewN|apply below_drew1|refine below_set ?_ (IsS86.ge HI0.out))|exact HB.out)⟩⟩
 case rest =>
  clear HC3
  try clear p2
  try clear c4
  try clear c4b0
  try clear c4b1
  try clear hcz6_0
  try clear hcz6_1
  try clear hcz7_0
  try clear hcz7_1
  try clear hfz6_0
  try clear hfz6_1
  try clear hfz7_0
  try clear hfz7_1
  obtain ⟨kq,x18_2,rfl,HA,HJ2,HI0,HK,HB⟩:=hcut
  cases kq with
  | zero=>exact absurd HA.out (by simp [pack_Taker_Take.j0])
  | succ kj2 =>
   have H:=HA.out
   clear HA
   simp only [pack_Taker_Take.j0] at H
   have HC8:=Aside0.mk H
   clear H
   go_upto_if 18 with (fail)
   go_cut [] (fun wc=>∃ (kq : Nat) (x1001_7 : Int),Aside0 (pack_Taker_Take.j1 kq a1 s0_0 x1001_7 = some (r1,r2,r3)) ∧ Aside0 (kq ≤ kj2) ∧ Aside0 (IsS86 w0 wc g s0_0 x1001_7) ∧ Aside0 (KeepBut w wc g none) ∧ Aside0 (Below w0.heap.size w0 wc))
   case first =>
    have H:=HC8.out
    clear HC8
    by_cases c9 : x18_2 = true
    ·subst c9
     have H1 : (pack_Taker_Take.j1 kj2 a1 s0_0 7) = some (r1,r2,r3):=by rw [if_pos rfl] at H;exact H
     clear H
     have H:=H1
     clear H1
     have H':=Aside0.mk H
     clear H
     obtain ⟨HGz10,hgz10⟩:=HI0.out
     have hcz10_0:=cellS86_0 HGz10
     have hcz10_1:=cellS86_1 HGz10
     have hfz10_0:=blk_frozen HGz10 0
     have hfz10_1:=blk_frozen HGz10 1
     clear HGz10 hgz10
     go_wp2
     go_meet
     case rel=>exact ⟨_,(7),H',⟨by have:=HJ2.out;first|omega|exact Nat.le_refl _⟩,⟨by repeat (first|(with_reducible first|exact HI0.out|apply IsS86.alloc|apply IsS86.drewN|apply IsS86.drew|apply IsS86.set_0|apply IsS86.set_1)|exact HI0.out)⟩,⟨by repeat (first|(with_reducible first|exact HK.out|apply KeepBut.set_|apply keep_drewN|apply keep_drew|apply keep_alloc)|exact HK.out)⟩,⟨by repeat (first|(with_reducible first|exact HB.out|apply below_alloc|apply pw_below_drewN|apply below_drew1|refine below_set ?_ (IsS86.ge HI0.out))|exact HB.out)⟩⟩
    ·replace c9:=Bool.eq_false_iff.mpr c9
     subst c9
     have H1 : (pack_Taker_Take.j1 kj2 a1 s0_0 s0_1) = some (r1,r2,r3):=by rw [if_neg (show ¬ (false = true) by decide)] at H;exact H
     clear H
     have H:=H1
     clear H1
     have H':=Aside0.mk H
     clear H
     go_wp2
     go_meet
     case rel=>exact ⟨_,(s0_1),H',⟨by have:=HJ2.out;first|omega|exact Nat.le_refl _⟩,⟨by repeat (first|(with_reducible first|exact HI0.out|apply IsS86.alloc|apply IsS86.drewN|apply IsS86.drew|apply IsS86.set_0|apply IsS86.set_1)|exact HI0.out)⟩,⟨by repeat (first|(with_reducible first|exact HK.out|apply KeepBut.set_|apply keep_drewN|apply keep_drew|apply keep_alloc)|exact HK.out)⟩,⟨by repeat (first|(with_reducible first|exact HB.out|apply below_alloc|apply pw_below_drewN|apply below_drew1|refine below_set ?_ (IsS86.ge HI0.out))|exact HB.out)⟩⟩
   case rest =>
    clear HC8
    try clear p2
    try clear c4
    try clear c4b0
    try clear c4b1
    try clear c9
    try clear hcz10_0
    try clear hcz10_1
    try clear hcz6_0
    try clear hcz6_1
    try clear hcz7_0
    try clear hcz7_1
    try clear hfz10_0
    try clear hfz10_1
    try clear hfz6_0
    try clear hfz6_1
    try clear hfz7_0
    try clear hfz7_1
    try clear p2
    obtain ⟨kq,x1001_7,HA,HJ7,HI0,HK,HB⟩:=hcut
    cases kq with
    | zero=>exact absurd HA.out (by simp [pack_Taker_Take.j1])
    | succ kj7 =>
     have H:=HA.out
     clear HA
     simp only [pack_Taker_Take.j1] at H
     replace H:=Option.bind_eq_some_iff.mp H
     obtain ⟨⟨t172,t173,t174,t175⟩,A110,H⟩:=H
     replace H : (if t173 = true then (pack_Taker_Take.l0 kj7 t172 0 (t172.size : Int) 0 t174 t175) else (some (0,t174,t175))) = some (r1,r2,r3):=H
     have A11:=Aside0.mk A110
     clear A110
     by_cases c12 : t173 = true
     ·subst c12
      have H1 : (pack_Taker_Take.l0 kj7 t172 0 (t172.size : Int) 0 t174 t175) = some (r1,r2,r3):=by rw [if_pos rfl] at H;exact H
      clear H
      have H:=H1
      clear H1
      have H':=Aside0.mk H
      clear H
      go_wp2_with (first|((with_reducible refine gate_callee (f:=77) rfl ?_);refine goesL_ (some 25) rfl rfl Tryd.func77 (by kernel_rfl) rfl #[.pointer (some ⟨g,0,none⟩),.int .i64 a1] rfl (by (try simp only [List.map_toArray,List.map_cons,List.map_nil]);first|done|rfl|(simp only [List.length_drop,List.length_take];rfl)|(simp (disch:=first|omega|(simp at *;omega)) only [u64_id,i64_id,u8_id];rfl)) ?_;(with_reducible refine (pack_Taker_bytes.calls g s0_0 x1001_7 a1 t172 true t174 t175 w0 _ ?side1 ?side2 A11.out).mono ?_);(case side1=>repeat (first|(with_reducible first|exact HI0.out|apply IsS86.alloc|apply IsS86.drewN|apply IsS86.drew|apply IsS86.set_0|apply IsS86.set_1)|exact HI0.out));(case side2=>repeat (first|(with_reducible first|exact HB.out|apply below_alloc|apply pw_below_drewN|apply below_drew1|refine below_set ?_ (IsS86.ge HI0.out))|exact HB.out));rintro e w13 ⟨rfl,hi,hb,hk⟩;refine ⟨_,rfl,?_⟩;have n0_:=Aside0.mk (KeepBut.trans (by repeat (first|(with_reducible first|exact HK.out|apply KeepBut.set_|apply keep_drewN|apply keep_drew|apply keep_alloc)|exact HK.out)) hk (.inl rfl));have n1_:=Aside0.mk (hb);have n2_:=Aside0.mk (hi);clear HK;clear HB;clear HI0;have HK:=n0_;have HB:=n1_;have HI0:=n2_;clear n0_ n1_ n2_;(try clear hb);(try clear hb2);(try clear hk);(try clear hi)))
      go_loopg [7,32] kj7 (fun kq v7 v32 w'=>∃ (x7_3 : Int) (x32_3 : Int),v7 = .int .u64 x7_3 ∧ v32 = .int .i64 x32_3 ∧ Aside0 (pack_Taker_Take.l0 kq t172 x7_3 (t172.size : Int) x32_3 t174 t175 = some (r1,r2,r3)) ∧ Aside0 (kq ≤ kj7) ∧ Aside0 (IsS86 w0 w' g t174 t175) ∧ Aside0 (KeepBut w w' g none) ∧ Aside0 (Below w0.heap.size w0 w'))
      case atStart=>exact ⟨(0),(0),(by first|rfl|(simp;done)|(simp [*];done)),(by first|rfl|(simp;done)|(simp [*];done)),H',⟨Nat.le_refl _⟩,⟨by repeat (first|(with_reducible first|exact HI0.out|apply IsS86.alloc|apply IsS86.drewN|apply IsS86.drew|apply IsS86.set_0|apply IsS86.set_1)|exact HI0.out)⟩,⟨by repeat (first|(with_reducible first|exact HK.out|apply KeepBut.set_|apply keep_drewN|apply keep_drew|apply keep_alloc)|exact HK.out)⟩,⟨by repeat (first|(with_reducible first|exact HB.out|apply below_alloc|apply pw_below_drewN|apply below_drew1|refine below_set ?_ (IsS86.ge HI0.out))|exact HB.out)⟩⟩
      case round =>
       clear H'
       try clear c1
       try clear p2
       try clear c4
       try clear c4b0
       try clear c4b1
       try clear c7
       try clear c9
       try clear c12
       try clear hcz10_0
       try clear hcz10_1
       try clear hcz6_0
       try clear hcz6_1
       try clear hcz7_0
       try clear hcz7_1
       try clear hfz10_0
       try clear hfz10_1
       try clear hfz6_0
       try clear hfz6_1
       try clear hfz7_0
       try clear hfz7_1
       try clear p2
       obtain ⟨x7_3,x32_3,rfl,rfl,HA,HK3,HI0,HK,HB⟩:=hrel
       cases gk with
       | zero=>exact absurd HA.out (by simp [pack_Taker_Take.l0])
       | succ k3 =>
        have H:=HA.out
        clear HA
        simp only [pack_Taker_Take.l0] at H
        by_cases c14 : x32_3 < (t172.size : Int)
        ·rw [if_pos c14] at H
         have c14b0 : decide (x32_3 < (t172.size : Int)) = true:=decide_eq_true c14
         clear c14
         by_cases c15 : 0 ≤ x32_3
         ·rw [if_pos c15] at H
          have c15b0 : decide (0 ≤ x32_3) = true:=decide_eq_true c15
          clear c15
          by_cases c16 : x32_3 < (t172.size : Int)
          ·rw [if_pos c16] at H
           have c16b0 : decide (x32_3 < (t172.size : Int)) = true:=decide_eq_true c16
           clear c16
           have H':=Aside0.mk H
           clear H
           have p17 : 0 ≤ (x32_3 : Int):=of_decide_eq_true (by first|(with_reducible assumption)|assumption)
           have q17 : x32_3 < (t172.size : Int):=of_decide_eq_true (by first|(with_reducible assumption)|assumption)
           have hx17:=bt_at t172 x32_3
           replace p17:=eq_true p17
           replace q17:=eq_true q17
           go_wp2
           go_roundg k3
           case measure=>have:=HJ2.out;have:=HJ7.out;have:=HK3.out;omega
           case rel=>exact ⟨(Go.bits .or .u64 (IntKind.u64.wrap (x7_3 * 256)) (IntKind.u64.wrap (bt t172 x32_3))),(wrap64 (x32_3 + 1)),(by first|rfl|(simp;done)|(simp [*];done)),(by first|rfl|(simp;done)|(simp [*];done)),H',⟨by have:=HJ2.out;have:=HJ7.out;have:=HK3.out;omega⟩,⟨by repeat (first|(with_reducible first|exact HI0.out|apply IsS86.alloc|apply IsS86.drewN|apply IsS86.drew|apply IsS86.set_0|apply IsS86.set_1)|exact HI0.out)⟩,⟨by repeat (first|(with_reducible first|exact HK.out|apply KeepBut.set_|apply keep_drewN|apply keep_drew|apply keep_alloc)|exact HK.out)⟩,⟨by repeat (first|(with_reducible first|exact HB.out|apply below_alloc|apply pw_below_drewN|apply below_drew1|refine below_set ?_ (IsS86.ge HI0.out))|exact HB.out)⟩⟩
          ·rw [if_neg c16] at H
           exact absurd H (by simp)
         ·rw [if_neg c15] at H
          exact absurd H (by simp)
        ·rw [if_neg c14] at H
         have c14b0 : decide (x32_3 < (t172.size : Int)) = false:=decide_eq_false c14
         clear c14
         simp only [Option.some.injEq,Prod.mk.injEq] at H
         obtain ⟨rfl,rfl,rfl⟩:=H
         go_wp2
         go_ret
         exact ⟨by first|rfl|(simp [errW_none,errW_some] <;> rfl)|(simp [*,errW_none,errW_some] <;> rfl),by repeat (first|(with_reducible first|exact HI0.out|apply IsS86.alloc|apply IsS86.drewN|apply IsS86.drew|apply IsS86.set_0|apply IsS86.set_1)|exact HI0.out),by repeat (first|(with_reducible first|exact HB.out|apply below_alloc|apply pw_below_drewN|apply below_drew1|refine below_set ?_ (IsS86.ge HI0.out))|exact HB.out),by repeat (first|(with_reducible first|exact HK.out|apply KeepBut.set_|apply keep_drewN|apply keep_drew|apply keep_alloc)|exact HK.out)⟩
     ·replace c12:=Bool.eq_false_iff.mpr c12
      subst c12
      have H1 : (some (0,t174,t175)) = some (r1,r2,r3):=by rw [if_neg (show ¬ (false = true) by decide)] at H;exact H
      clear H
      have H:=H1
      clear H1
      simp only [Option.some.injEq,Prod.mk.injEq] at H
      obtain ⟨rfl,rfl,rfl⟩:=H
      go_wp2_with (first|((with_reducible refine gate_callee (f:=77) rfl ?_);refine goesL_ (some 25) rfl rfl Tryd.func77 (by kernel_rfl) rfl #[.pointer (some ⟨g,0,none⟩),.int .i64 a1] rfl (by (try simp only [List.map_toArray,List.map_cons,List.map_nil]);first|done|rfl|(simp only [List.length_drop,List.length_take];rfl)|(simp (disch:=first|omega|(simp at *;omega)) only [u64_id,i64_id,u8_id];rfl)) ?_;(with_reducible refine (pack_Taker_bytes.calls g s0_0 x1001_7 a1 t172 false t174 t175 w0 _ ?side1 ?side2 A11.out).mono ?_);(case side1=>repeat (first|(with_reducible first|exact HI0.out|apply IsS86.alloc|apply IsS86.drewN|apply IsS86.drew|apply IsS86.set_0|apply IsS86.set_1)|exact HI0.out));(case side2=>repeat (first|(with_reducible first|exact HB.out|apply below_alloc|apply pw_below_drewN|apply below_drew1|refine below_set ?_ (IsS86.ge HI0.out))|exact HB.out));rintro e w18 ⟨rfl,hi,hb,hk⟩;refine ⟨_,rfl,?_⟩;have n0_:=Aside0.mk (KeepBut.trans (by repeat (first|(with_reducible first|exact HK.out|apply KeepBut.set_|apply keep_drewN|apply keep_drew|apply keep_alloc)|exact HK.out)) hk (.inl rfl));have n1_:=Aside0.mk (hb);have n2_:=Aside0.mk (hi);clear HK;clear HB;clear HI0;have HK:=n0_;have HB:=n1_;have HI0:=n2_;clear n0_ n1_ n2_;(try clear hb);(try clear hb2);(try clear hk);(try clear hi)))
      go_ret
      exact ⟨by first|rfl|(simp [errW_none,errW_some] <;> rfl)|(simp [*,errW_none,errW_some] <;> rfl),by repeat (first|(with_reducible first|exact HI0.out|apply IsS86.alloc|apply IsS86.drewN|apply IsS86.drew|apply IsS86.set_0|apply IsS86.set_1)|exact HI0.out),by repeat (first|(with_reducible first|exact HB.out|apply below_alloc|apply pw_below_drewN|apply below_drew1|refine below_set ?_ (IsS86.ge HI0.out))|exact HB.out),by repeat (first|(with_reducible first|exact HK.out|apply KeepBut.set_|apply keep_drewN|apply keep_drew|apply keep_alloc)|exact HK.out)⟩

/-! ### pack_Taker_back: function 78 -/
def pack_Taker_back.f (s0_0 : ByteArray) (s0_1 : Int) (a1 : ByteArray) (a2 : Int) : Option (ByteArray × Int):=some (a1,a2)
set_option maxHeartbeats 8000000 in
set_option maxRecDepth 100000 in
theorem pack_Taker_back.calls (g : Nat) (s0_0 : ByteArray) (s0_1 : Int) (a1 : ByteArray) (a2 : Int) (r1 : ByteArray) (r2 : Int) (w0 w : World) (hI : IsS86 w0 w g s0_0 s0_1) (hB : Below w0.heap.size w0 w) (h : pack_Taker_back.f s0_0 s0_1 a1 a2 = some (r1,r2)) :
  Calls Tryd.prog 78 #[.pointer (some ⟨g,0,none⟩),.string a1,.int .i64 a2] w fun e w'=>e = .returned (.tuple #[]) ∧ IsS86 w0 w' g r1 r2 ∧ Below w0.heap.size w0 w' ∧ KeepBut w w' g none:=by
 have HI0:=Aside0.mk hI
 have HK:=Aside0.mk (KeepBut.refl w g none)
 have HL:=Aside0.mk hB.size
 clear hI
 have HW0:=Aside0.mk hB.size
 have HB:=Aside0.mk hB
 clear hB
 have H : (some (a1,a2)) = some (r1,r2):=h
 clear h
 simp only [Option.some.injEq,Prod.mk.injEq] at H
 obtain ⟨rfl,rfl⟩:=H
 obtain ⟨HGz4,hgz4⟩:=HI0.out
 have hcz4_0:=cellS86_0 HGz4
 have hcz4_1:=cellS86_1 HGz4
 have hfz4_0:=blk_frozen HGz4 0
 have hfz4_1:=blk_frozen HGz4 1
 clear HGz4 hgz4
 go_enter Tryd.func78,Tryd.ntmps78
 go_wp2
 first|go_end0|((try simp only [Exit.inBlock,Exit.then]);refine bodyPost_ret (results_none rfl _ _ _) rfl ?_)
 exact ⟨by first|rfl|(simp [errW_none,errW_some] <;> rfl)|(simp [*,errW_none,errW_some] <;> rfl),by repeat (first|(with_reducible first|exact HI0.out|apply IsS86.alloc|apply IsS86.drewN|apply IsS86.drew|apply IsS86.set_0|apply IsS86.set_1)|exact HI0.out),by repeat (first|(with_reducible first|exact HB.out|apply below_alloc|apply pw_below_drewN|apply below_drew1|refine below_set ?_ (IsS86.ge HI0.out))|exact HB.out),by repeat (first|(with_reducible first|exact HK.out|apply KeepBut.set_|apply keep_drewN|apply keep_drew|apply keep_alloc)|exact HK.out)⟩

end Go.Proofs.YtpmbdcljphpcnaaDoor.GC2
