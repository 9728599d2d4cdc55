/- Written by this session's own program (wip/gen.py) out of the translation: plain Lean functions of the Go functions, and proofs that the calls come to their answers. No conditions beside those in the statements. -/
import Derived.Test.YtpmbdcljphpcnaaDoorGCkx0
import Derived.Test.YtpmbdcljphpcnaaDoorGCkx1
namespace Go.Proofs.YtpmbdcljphpcnaaDoor.GCk
open Go.RowKit Go.Proofs.YtpmbdcljphpcnaaDoorW.PrintWords Go.Proofs.YtpmbdcljphpcnaaDoorW.PrintLast Go.Proofs.YtpmbdcljphpcnaaDoorW.PrintMore
attribute [local go_sem] max2_int min2_int max_two min_two max_three min_three max_four min_four   -- for this text's walks alone
set_option linter.unusedVariables false
set_option linter.unusedSimpArgs false

attribute [local go_sem high] eqA67
/-! ### bosunlaw17_Of: function 11 -/
def bosunlaw17_Of.l0 : Nat → List (S66) → Int → Int → Int → List (S67) → Option (Int × (List (S67)))
 | 0,_,_,_,_,_=>none
 | k + 1,x10,x11,x12,x147000,x147001=>if x12 < x11 then (if 0 ≤ x12 then (if x12 < (x10.length : Int) then (if x147001.length < 2513169434916 then (bosunlaw17_Of.l0 k x10 x11 (wrap64 (x12 + 1)) x147000 (x147001 ++ [(⟨(rd_T66 x10 x12).f0,(rd_T66 x10 x12).f1,(rd_T66 x10 x12).f2,(rd_T66 x10 x12).f3⟩ : S67)])) else (none)) else (none)) else (none)) else (some (x147000,x147001))
def bosunlaw17_Of.f (k : Nat) (a0_0 : Int) (l0_1 : List (S66)) : Option (Int × (List (S67))):=bosunlaw17_Of.l0 k l0_1 (l0_1.length : Int) 0 a0_0 ([] : List (S67))
theorem bosunlaw17_Of.mono_l : ∀ k,(∀ y0 y1 y2 y3 y4,LeO (bosunlaw17_Of.l0 k y0 y1 y2 y3 y4) (bosunlaw17_Of.l0 (k + 1) y0 y1 y2 y3 y4))
 | 0=>fun _ _ _ _ _ r h=>by simp [bosunlaw17_Of.l0] at h
 | k + 1=>by
  have ih0:=bosunlaw17_Of.mono_l k
  ·intro y0 y1 y2 y3 y4
   unfold bosunlaw17_Of.l0
   repeat' first
   | (with_reducible exact ih0 _ _ _ _ _)
   | (with_reducible exact LeO.refl _)
   | (with_reducible exact LeO.none _)
   | (with_reducible refine LeO.ite ?_ ?_)
   | (with_reducible refine LeO.bind ?_ (fun _=>?_))
   | exact ih0 _ _ _ _ _
   | exact LeO.none _
   | refine LeO.ite ?_ ?_
   | refine LeO.bind ?_ (fun _=>?_)
theorem bosunlaw17_Of.mono : ∀ a0 a1 k,LeO (bosunlaw17_Of.f k a0 a1) (bosunlaw17_Of.f (k + 1) a0 a1):=by
 intro a0 a1 k
 have ih0:=bosunlaw17_Of.mono_l k
 unfold bosunlaw17_Of.f
 repeat' first
   | (with_reducible exact ih0 _ _ _ _ _)
   | (with_reducible exact LeO.refl _)
   | (with_reducible exact LeO.none _)
   | (with_reducible refine LeO.ite ?_ ?_)
   | (with_reducible refine LeO.bind ?_ (fun _=>?_))
   | exact ih0 _ _ _ _ _
   | exact LeO.none _
   | refine LeO.ite ?_ ?_
   | refine LeO.bind ?_ (fun _=>?_)
set_option maxHeartbeats 8000000 in
set_option maxRecDepth 100000 in
theorem bosunlaw17_Of.calls (k : Nat) (a0_0 : Int) (A0_1 : Option Addr) (c0_1 : Nat) (l0_1 : List (S66)) (r1 : Int) (r2 : List (S67)) (w : World) (hr0_1 : Kd.C k66 w A0_1 l0_1.length l0_1) (hc0_1 : l0_1.length ≤ c0_1) (h : bosunlaw17_Of.f k a0_0 l0_1 = some (r1,r2)) :
  Calls Tryd.prog 11 #[.agg #[.int .u32 a0_0,.slice A0_1 l0_1.length c0_1]] w fun e w'=>∃ v1_ : Value,e = .returned (.agg #[.int .u32 r1,v1_]) ∧ Kd.R k67 67 w' w.heap.size (fun _=>True) v1_ r2 ∧ Below w.heap.size w w':=by
 have hu25:=Tryd.underlying25
 have hu30:=Tryd.underlying30
 have hu66:=Tryd.underlying66
 have HR0_1:=Aside0.mk hr0_1
 have HC0_1:=Aside0.mk hc0_1
 clear hr0_1 hc0_1
 have HB:=Aside0.mk (Below.refl w.heap.size w)
 have H : (bosunlaw17_Of.l0 k l0_1 (l0_1.length : Int) 0 a0_0 ([] : List (S67))) = some (r1,r2):=h
 clear h
 have H':=Aside0.mk H
 clear H
 go_enter Tryd.func11,Tryd.ntmps11
 go_wp2_with (first|((with_reducible refine gate_dst (N:=1) rfl ?_);refine box_event ?hg (N:=1) ?hd (cs:=#[.int .u32 a0_0,.slice A0_1 l0_1.length c0_1]) (t:=25) ?hr ?_;(case hd=>rfl);(case hg=>rfl);(case hr=>first|(go_simp;done)|(go_simp;rfl));intro gb144 hg w2 hbox hb;have n0_:=Aside0.mk (below_step (by repeat (first|(with_reducible first|exact HB.out|apply below_alloc|apply pw_below_drewN|apply below_drew1)|exact HB.out)) hb);have n1_:=Aside0.mk (hbox);have n2_:=Aside0.mk ((by rw [hg];exact (below_size (by repeat (first|(with_reducible first|exact HB.out|apply below_alloc|apply pw_below_drewN|apply below_drew1)|exact HB.out))) : w.heap.size ≤ gb144));have n3_:=Aside0.mk ((by rw [hg];exact (below_size (by repeat (first|(with_reducible first|exact HB.out|apply below_alloc|apply pw_below_drewN|apply below_drew1)|exact HB.out))) : w.heap.size ≤ gb144));clear HB;have HB:=n0_;have BK144:=n1_;have GW144:=n2_;have GE144:=n3_;clear n0_ n1_ n2_ n3_;clear hb hbox hg)|((with_reducible refine gate_dst (N:=2) rfl ?_);refine box_event ?hg (N:=2) ?hd (cs:=#[.int .u32 0,.slice none 0 0]) (t:=30) ?hr ?_;(case hd=>rfl);(case hg=>rfl);(case hr=>first|(go_simp;done)|(go_simp;rfl));intro gb145 hg w3 hbox hb;have n0_:=Aside0.mk (blk_below (g:=gb144) (o:=.cells #[.int .u32 a0_0,.slice A0_1 l0_1.length c0_1] 25 (0,0)) (by (with_reducible repeat (first|apply blk_drewN|apply blk_drew|apply blk_alloc));exact BK144.out) hb);have n1_:=Aside0.mk (below_step (by repeat (first|(with_reducible first|exact HB.out|apply below_alloc|apply pw_below_drewN|apply below_drew1|refine below_set ?_ GE144.out)|exact HB.out)) hb);have n2_:=Aside0.mk (hbox);have n3_:=Aside0.mk ((by rw [hg];exact (below_size (by repeat (first|(with_reducible first|exact HB.out|apply below_alloc|apply pw_below_drewN|apply below_drew1|refine below_set ?_ GE144.out)|exact HB.out))) : w.heap.size ≤ gb145));have n4_:=Aside0.mk ((by rw [hg];exact (below_size (by repeat (first|(with_reducible first|exact HB.out|apply below_alloc|apply pw_below_drewN|apply below_drew1|refine below_set ?_ GE144.out)|exact HB.out))) : w.heap.size ≤ gb145));have n5_:=Aside0.mk ((by rw [hg];exact Nat.ne_of_lt (blk_lt (g:=gb144) (o:=.cells #[.int .u32 a0_0,.slice A0_1 l0_1.length c0_1] 25 (0,0)) (by (with_reducible repeat (first|apply blk_drewN|apply blk_drew|apply blk_alloc));exact BK144.out)) : gb144 ≠ gb145));have n6_:=Aside0.mk ((by rw [hg];exact Nat.ne_of_gt (blk_lt (g:=gb144) (o:=.cells #[.int .u32 a0_0,.slice A0_1 l0_1.length c0_1] 25 (0,0)) (by (with_reducible repeat (first|apply blk_drewN|apply blk_drew|apply blk_alloc));exact BK144.out)) : gb145 ≠ gb144));clear BK144;clear HB;have BK144:=n0_;have HB:=n1_;have BK145:=n2_;have GW145:=n3_;have GE145:=n4_;have NB144_145:=n5_;have NB145_144:=n6_;clear n0_ n1_ n2_ n3_ n4_ n5_ n6_;clear hb hbox hg;have hnb4:=NB144_145.out;have hnc4:=NB145_144.out;have hcz5_0 : w3.cell? ⟨gb144,0,none⟩ = some (.int .u32 a0_0):=(blk_cell BK144.out 0).trans rfl;have hcz5_1 : w3.cell? ⟨gb144,1,none⟩ = some (.slice A0_1 l0_1.length c0_1):=(blk_cell BK144.out 1).trans rfl;have hfz5_0:=blk_frozen BK144.out 0;have hfz5_1:=blk_frozen BK144.out 1)|((with_reducible refine gate_dst (N:=3) rfl ?_);refine box_event ?hg (N:=3) ?hd (cs:=#[.int .u32 0,.slice none 0 0]) (t:=30) ?hr ?_;(case hd=>rfl);(case hg=>rfl);(case hr=>first|(go_simp;done)|(go_simp;rfl));intro gb146 hg w6 hbox hb;have n0_:=Aside0.mk (blk_below (g:=gb144) (o:=.cells #[.int .u32 a0_0,.slice A0_1 l0_1.length c0_1] 25 (0,0)) (by (with_reducible repeat (first|apply blk_drewN|apply blk_drew|apply blk_alloc));exact BK144.out) hb);have n1_:=Aside0.mk (blk_below (g:=gb145) (o:=.cells #[.int .u32 0,.slice none 0 0] 30 (0,0)) (by (with_reducible repeat (first|apply blk_drewN|apply blk_drew|apply blk_alloc));exact BK145.out) hb);have n2_:=Aside0.mk (below_step (by repeat (first|(with_reducible first|exact HB.out|apply below_alloc|apply pw_below_drewN|apply below_drew1|refine below_set ?_ GE144.out|refine below_set ?_ GE145.out)|exact HB.out)) hb);have n3_:=Aside0.mk (hbox);have n4_:=Aside0.mk ((by rw [hg];exact (below_size (by repeat (first|(with_reducible first|exact HB.out|apply below_alloc|apply pw_below_drewN|apply below_drew1|refine below_set ?_ GE144.out|refine below_set ?_ GE145.out)|exact HB.out))) : w.heap.size ≤ gb146));have n5_:=Aside0.mk ((by rw [hg];exact (below_size (by repeat (first|(with_reducible first|exact HB.out|apply below_alloc|apply pw_below_drewN|apply below_drew1|refine below_set ?_ GE144.out|refine below_set ?_ GE145.out)|exact HB.out))) : w.heap.size ≤ gb146));have n6_:=Aside0.mk ((by rw [hg];exact Nat.ne_of_lt (blk_lt (g:=gb144) (o:=.cells #[.int .u32 a0_0,.slice A0_1 l0_1.length c0_1] 25 (0,0)) (by (with_reducible repeat (first|apply blk_drewN|apply blk_drew|apply blk_alloc));exact BK144.out)) : gb144 ≠ gb146));have n7_:=Aside0.mk ((by rw [hg];exact Nat.ne_of_gt (blk_lt (g:=gb144) (o:=.cells #[.int .u32 a0_0,.slice A0_1 l0_1.length c0_1] 25 (0,0)) (by (with_reducible repeat (first|apply blk_drewN|apply blk_drew|apply blk_alloc));exact BK144.out)) : gb146 ≠ gb144));have n8_:=Aside0.mk ((by rw [hg];exact Nat.ne_of_lt (blk_lt (g:=gb145) (o:=.cells #[.int .u32 0,.slice none 0 0] 30 (0,0)) (by (with_reducible repeat (first|apply blk_drewN|apply blk_drew|apply blk_alloc));exact BK145.out)) : gb145 ≠ gb146));have n9_:=Aside0.mk ((by rw [hg];exact Nat.ne_of_gt (blk_lt (g:=gb145) (o:=.cells #[.int .u32 0,.slice none 0 0] 30 (0,0)) (by (with_reducible repeat (first|apply blk_drewN|apply blk_drew|apply blk_alloc));exact BK145.out)) : gb146 ≠ gb145));clear BK144;clear BK145;clear HB;have BK144:=n0_;have BK145:=n1_;have HB:=n2_;have BK146:=n3_;have GW146:=n4_;have GE146:=n5_;have NB144_146:=n6_;have NB146_144:=n7_;have NB145_146:=n8_;have NB146_145:=n9_;clear n0_ n1_ n2_ n3_ n4_ n5_ n6_ n7_ n8_ n9_;clear hb hbox hg;have hnb7:=NB146_144.out;have hnc7:=NB144_146.out;have hnb8:=NB146_145.out;have hnc8:=NB145_146.out;have hcz9_0 : w6.cell? ⟨gb146,0,none⟩ = some (.int .u32 0):=(blk_cell BK146.out 0).trans rfl;have hcz9_1 : w6.cell? ⟨gb146,1,none⟩ = some (.slice none 0 0):=(blk_cell BK146.out 1).trans rfl;have hfz9_0:=blk_frozen BK146.out 0;have hfz9_1:=blk_frozen BK146.out 1;have hcz10_0 : w6.cell? ⟨gb144,0,none⟩ = some (.int .u32 a0_0):=(blk_cell BK144.out 0).trans rfl;have hcz10_1 : w6.cell? ⟨gb144,1,none⟩ = some (.slice A0_1 l0_1.length c0_1):=(blk_cell BK144.out 1).trans rfl;have hfz10_0:=blk_frozen BK144.out 0;have hfz10_1:=blk_frozen BK144.out 1))
 go_loopg [12] k (fun kq v12 w'=>∃ (x12_1 : Int) (x147001_1 : List (S67)) (u147001 : Value),v12 = .int .i64 x12_1 ∧ Aside0 (bosunlaw17_Of.l0 kq l0_1 (l0_1.length : Int) x12_1 a0_0 x147001_1 = some (r1,r2)) ∧ Aside0 (kq ≤ k) ∧ Aside0 (Kd.R k67 67 w' w.heap.size (fun _=>True) u147001 x147001_1) ∧ Aside0 (w'.heap[gb144]? = some (.cells #[.int .u32 a0_0,(.slice A0_1 l0_1.length c0_1)] 25 (0,0))) ∧ Aside0 (w'.heap[gb145]? = some (.cells #[.int .u32 0,(.slice none 0 0)] 30 (0,0))) ∧ Aside0 (w'.heap[gb146]? = some (.cells #[.int .u32 a0_0,u147001] 30 (0,0))) ∧ Aside0 (Below w.heap.size w w'))
 case atStart=>exact ⟨(0),(([] : List (S67))),(.slice none 0 0),(by first|rfl|(simp;done)|(simp [*];done)),H',⟨Nat.le_refl _⟩,⟨by first|exact Kd.R_nil _ _ _ _ _|exact Kd.N_nil _ _ _ _ _|exact Kd.V_nil _ _ _ _ _|exact Kd.Q_nil _ _ _ _ _|exact Kd.S_nil _ _ _ _ _⟩,⟨by (with_reducible repeat (first|apply blk_drewN|apply blk_drew|apply blk_alloc));refine blk_far ?_ NB144_146.out _;(with_reducible repeat (first|apply blk_drewN|apply blk_drew|apply blk_alloc));refine blk_far ?_ NB144_146.out _;(with_reducible repeat (first|apply blk_drewN|apply blk_drew|apply blk_alloc));exact BK144.out⟩,⟨by (with_reducible repeat (first|apply blk_drewN|apply blk_drew|apply blk_alloc));refine blk_far ?_ NB145_146.out _;(with_reducible repeat (first|apply blk_drewN|apply blk_drew|apply blk_alloc));refine blk_far ?_ NB145_146.out _;(with_reducible repeat (first|apply blk_drewN|apply blk_drew|apply blk_alloc));exact BK145.out⟩,⟨by (with_reducible repeat (first|apply blk_drewN|apply blk_drew|apply blk_alloc));refine blk_put (cs:=#[.int .u32 a0_0,.slice none 0 0]) ?_ 1 _ rfl;(with_reducible repeat (first|apply blk_drewN|apply blk_drew|apply blk_alloc));refine blk_put (cs:=#[.int .u32 0,.slice none 0 0]) ?_ 0 _ rfl;(with_reducible repeat (first|apply blk_drewN|apply blk_drew|apply blk_alloc));exact BK146.out⟩,⟨by repeat (first|(with_reducible first|exact HB.out|apply below_alloc|apply pw_below_drewN|apply below_drew1|refine below_set ?_ GE144.out|refine below_set ?_ GE145.out|refine below_set ?_ GE146.out)|exact HB.out)⟩⟩
 case round =>
  clear H'
  try clear c1
  try clear p2
  try clear c4
  try clear c7
  try clear c8
  try clear hcz10_0
  try clear hcz10_1
  try clear hcz5_0
  try clear hcz5_1
  try clear hcz9_0
  try clear hcz9_1
  try clear hfz10_0
  try clear hfz10_1
  try clear hfz5_0
  try clear hfz5_1
  try clear hfz9_0
  try clear hfz9_1
  obtain ⟨x12_1,x147001_1,u147001,rfl,HA,HK1,HO_147001,BK144,BK145,BK146,HB⟩:=hrel
  cases gk with
  | zero=>exact absurd HA.out (by simp [bosunlaw17_Of.l0])
  | succ k1 =>
   have H:=HA.out
   clear HA
   simp only [bosunlaw17_Of.l0] at H
   by_cases c11 : x12_1 < (l0_1.length : Int)
   ·rw [if_pos c11] at H
    have c11b0 : decide (x12_1 < (l0_1.length : Int)) = true:=decide_eq_true c11
    clear c11
    by_cases c12 : 0 ≤ x12_1
    ·rw [if_pos c12] at H
     have c12b0 : decide (0 ≤ x12_1) = true:=decide_eq_true c12
     clear c12
     by_cases c13 : x12_1 < (l0_1.length : Int)
     ·rw [if_pos c13] at H
      have c13b0 : decide (x12_1 < (l0_1.length : Int)) = true:=decide_eq_true c13
      clear c13
      by_cases c14 : x147001_1.length < 2513169434916
      ·rw [if_pos c14] at H
       have LMc14:=Aside0.mk c14
       clear c14
       obtain ⟨y149,hy149⟩ : ∃ y_ : List (S67),y_ = (x147001_1 ++ [(⟨(rd_T66 l0_1 x12_1).f0,(rd_T66 l0_1 x12_1).f1,(rd_T66 l0_1 x12_1).f2,(rd_T66 l0_1 x12_1).f3⟩ : S67)]):=⟨_,rfl⟩
       replace H : (bosunlaw17_Of.l0 k1 l0_1 (l0_1.length : Int) (wrap64 (x12_1 + 1)) a0_0 y149) = some (r1,r2):=by first|(rw [hy149];with_reducible exact H)|(have H2_:=(Option.bind_some _ _).symm.trans H;rw [hy149];with_reducible exact H2_)|(have H2_:=(Option.bind_some _ _).symm.trans H;with_reducible exact H2_)|with_reducible exact H|(rw [hy149];exact H)|exact H
       have Ny149:=Aside0.mk hy149
       clear hy149
       have H':=Aside0.mk H
       clear H
       have p147 : 0 ≤ (x12_1 : Int):=of_decide_eq_true (by first|(with_reducible assumption)|assumption)
       have q147 : x12_1 < (l0_1.length : Int):=of_decide_eq_true (by first|(with_reducible assumption)|assumption)
       obtain ⟨ad147,e147,hx147_0,hx147_1,hx147_2,hx147_3⟩:=at_T66 HR0_1.out x12_1 p147 q147
       cases e147
       replace hx147_0:=(HB.out.cell (World.block_lt_of_cell? w _ hx147_0)).trans hx147_0
       replace hx147_1:=(HB.out.cell (World.block_lt_of_cell? w _ hx147_1)).trans hx147_1
       replace hx147_2:=(HB.out.cell (World.block_lt_of_cell? w _ hx147_2)).trans hx147_2
       replace hx147_3:=(HB.out.cell (World.block_lt_of_cell? w _ hx147_3)).trans hx147_3
       replace p147:=eq_true p147
       replace q147:=eq_true q147
       go_wp2_with (first|((with_reducible refine gate_dst (N:=5) rfl ?_);refine box_event ?hg (N:=5) ?hd (cs:=#[.string (⟨#[]⟩ : ByteArray),.string (⟨#[]⟩ : ByteArray),.string (⟨#[]⟩ : ByteArray),.int .u8 0]) (t:=66) ?hr ?_;(case hd=>rfl);(case hg=>rfl);(case hr=>first|(go_simp;done)|(go_simp;rfl));intro gb148 hg w15 hbox hb;have n0_:=Aside0.mk (Kd.R_below (by (with_reducible repeat (first|apply Kd.R_alloc|apply Kd.R_drewN|apply Kd.R_drew));exact HO_147001.out) hb);have n1_:=Aside0.mk (blk_below (g:=gb144) (o:=.cells #[.int .u32 a0_0,.slice (some ad147) l0_1.length c0_1] 25 (0,0)) (by (with_reducible repeat (first|apply blk_drewN|apply blk_drew|apply blk_alloc));exact BK144.out) hb);have n2_:=Aside0.mk (blk_below (g:=gb145) (o:=.cells #[.int .u32 0,.slice none 0 0] 30 (0,0)) (by (with_reducible repeat (first|apply blk_drewN|apply blk_drew|apply blk_alloc));exact BK145.out) hb);have n3_:=Aside0.mk (blk_below (g:=gb146) (o:=.cells #[.int .u32 a0_0,u147001] 30 (0,0)) (by (with_reducible repeat (first|apply blk_drewN|apply blk_drew|apply blk_alloc));exact BK146.out) hb);have n4_:=Aside0.mk (below_step (by repeat (first|(with_reducible first|exact HB.out|apply below_alloc|apply pw_below_drewN|apply below_drew1|refine below_set ?_ GE144.out|refine below_set ?_ GE145.out|refine below_set ?_ GE146.out)|exact HB.out)) hb);have n5_:=Aside0.mk (hbox);have n6_:=Aside0.mk ((by rw [hg];exact (below_size (by repeat (first|(with_reducible first|exact HB.out|apply below_alloc|apply pw_below_drewN|apply below_drew1|refine below_set ?_ GE144.out|refine below_set ?_ GE145.out|refine below_set ?_ GE146.out)|exact HB.out))) : w.heap.size ≤ gb148));have n7_:=Aside0.mk ((by rw [hg];exact (below_size (by repeat (first|(with_reducible first|exact HB.out|apply below_alloc|apply pw_below_drewN|apply below_drew1|refine below_set ?_ GE144.out|refine below_set ?_ GE145.out|refine below_set ?_ GE146.out)|exact HB.out))) : w.heap.size ≤ gb148));have n8_:=Aside0.mk ((by rw [hg];exact Nat.ne_of_lt (blk_lt (g:=gb144) (o:=.cells #[.int .u32 a0_0,.slice (some ad147) l0_1.length c0_1] 25 (0,0)) (by (with_reducible repeat (first|apply blk_drewN|apply blk_drew|apply blk_alloc));exact BK144.out)) : gb144 ≠ gb148));have n9_:=Aside0.mk ((by rw [hg];exact Nat.ne_of_gt (blk_lt (g:=gb144) (o:=.cells #[.int .u32 a0_0,.slice (some ad147) l0_1.length c0_1] 25 (0,0)) (by (with_reducible repeat (first|apply blk_drewN|apply blk_drew|apply blk_alloc));exact BK144.out)) : gb148 ≠ gb144));have n10_:=Aside0.mk ((by rw [hg];exact Nat.ne_of_lt (blk_lt (g:=gb145) (o:=.cells #[.int .u32 0,.slice none 0 0] 30 (0,0)) (by (with_reducible repeat (first|apply blk_drewN|apply blk_drew|apply blk_alloc));exact BK145.out)) : gb145 ≠ gb148));have n11_:=Aside0.mk ((by rw [hg];exact Nat.ne_of_gt (blk_lt (g:=gb145) (o:=.cells #[.int .u32 0,.slice none 0 0] 30 (0,0)) (by (with_reducible repeat (first|apply blk_drewN|apply blk_drew|apply blk_alloc));exact BK145.out)) : gb148 ≠ gb145));have n12_:=Aside0.mk ((by rw [hg];exact Nat.ne_of_lt (blk_lt (g:=gb146) (o:=.cells #[.int .u32 a0_0,u147001] 30 (0,0)) (by (with_reducible repeat (first|apply blk_drewN|apply blk_drew|apply blk_alloc));exact BK146.out)) : gb146 ≠ gb148));have n13_:=Aside0.mk ((by rw [hg];exact Nat.ne_of_gt (blk_lt (g:=gb146) (o:=.cells #[.int .u32 a0_0,u147001] 30 (0,0)) (by (with_reducible repeat (first|apply blk_drewN|apply blk_drew|apply blk_alloc));exact BK146.out)) : gb148 ≠ gb146));clear HO_147001;clear BK144;clear BK145;clear BK146;clear HB;have HO_147001:=n0_;have BK144:=n1_;have BK145:=n2_;have BK146:=n3_;have HB:=n4_;have BK148:=n5_;have GW148:=n6_;have GE148:=n7_;have NB144_148:=n8_;have NB148_144:=n9_;have NB145_148:=n10_;have NB148_145:=n11_;have NB146_148:=n12_;have NB148_146:=n13_;clear n0_ n1_ n2_ n3_ n4_ n5_ n6_ n7_ n8_ n9_ n10_ n11_ n12_ n13_;clear hb hbox hg;have hnb16:=NB148_144.out;have hnc16:=NB144_148.out;have hnb17:=NB148_145.out;have hnc17:=NB145_148.out;have hnb18:=NB148_146.out;have hnc18:=NB146_148.out;have hcz19_0 : w15.cell? ⟨gb148,0,none⟩ = some (.string (⟨#[]⟩ : ByteArray)):=(blk_cell BK148.out 0).trans rfl;have hcz19_1 : w15.cell? ⟨gb148,1,none⟩ = some (.string (⟨#[]⟩ : ByteArray)):=(blk_cell BK148.out 1).trans rfl;have hcz19_2 : w15.cell? ⟨gb148,2,none⟩ = some (.string (⟨#[]⟩ : ByteArray)):=(blk_cell BK148.out 2).trans rfl;have hcz19_3 : w15.cell? ⟨gb148,3,none⟩ = some (.int .u8 0):=(blk_cell BK148.out 3).trans rfl;have hfz19_0:=blk_frozen BK148.out 0;have hfz19_1:=blk_frozen BK148.out 1;have hfz19_2:=blk_frozen BK148.out 2;have hfz19_3:=blk_frozen BK148.out 3;have hnb20:=NB146_144.out;have hnc20:=NB144_146.out;have hnb21:=NB146_145.out;have hnc21:=NB145_146.out;have hcz22_0 : w15.cell? ⟨gb146,0,none⟩ = some (.int .u32 a0_0):=(blk_cell BK146.out 0).trans rfl;have hcz22_1 : w15.cell? ⟨gb146,1,none⟩ = some (u147001):=(blk_cell BK146.out 1).trans rfl;have hfz22_0:=blk_frozen BK146.out 0;have hfz22_1:=blk_frozen BK146.out 1)|((with_reducible refine gate_builtin (b:=.append) (xs:=#[.tmp 17,.tmp 19]) rfl ?_);at_builtin;refine Kd.R_append k67 (w0:=w) w.heap.size rfl (.tmp 17) (.tmp 19) 28 67 (.agg #[(.string ⟨#[]⟩),(.string ⟨#[]⟩),(.string ⟨#[]⟩),(.int .u8 0)]) 56 rfl Tryd.underlying28 info67 rfl (by decide) (by omega) u147001 x147001_1 (⟨(rd_T66 l0_1 x12_1).f0,(rd_T66 l0_1 x12_1).f1,(rd_T66 l0_1 x12_1).f2,(rd_T66 l0_1 x12_1).f3⟩ : S67) [.string ((rd_T66 l0_1 x12_1).f0),.string ((rd_T66 l0_1 x12_1).f1),.string ((rd_T66 l0_1 x12_1).f2),.int .u8 ((rd_T66 l0_1 x12_1).f3)] (fun _=>True) (fun _=>False) rfl (by first|(go_simp;done)|(go_simp;rfl)) ?aP (fun _ hk=>hk.elim) ?aF ?aO ?aB ?aS ?aL ?_;(case aP=>exact k67_mkM _ _ _ (⟨(rd_T66 l0_1 x12_1).f0,(rd_T66 l0_1 x12_1).f1,(rd_T66 l0_1 x12_1).f2,(rd_T66 l0_1 x12_1).f3⟩ : S67));(case aB=>exact (by repeat (first|(with_reducible first|exact HB.out|apply below_alloc|apply pw_below_drewN|apply below_drew1|refine below_set ?_ GE144.out|refine below_set ?_ GE145.out|refine below_set ?_ GE146.out|refine below_set ?_ GE148.out)|exact HB.out)));(case aF=>exact (fun _ _=>trivial));(case aO=>exact (by (with_reducible repeat (first|apply Kd.R_alloc|apply Kd.R_drewN|apply Kd.R_drew));exact Kd.R_mono (Kd.R_far (p:=⟨gb148,3,none⟩) (Kd.R_far (p:=⟨gb148,2,none⟩) (Kd.R_far (p:=⟨gb148,1,none⟩) (Kd.R_far (p:=⟨gb148,0,none⟩) (Kd.R_types HO_147001.out BK148.out (by decide)) (fun _ hk=>hk.2) (.string ((rd_T66 l0_1 x12_1).f0))) (fun _ hk=>hk.2) (.string ((rd_T66 l0_1 x12_1).f1))) (fun _ hk=>hk.2) (.string ((rd_T66 l0_1 x12_1).f2))) (fun _ hk=>hk.2) (.int .u8 ((rd_T66 l0_1 x12_1).f3))) (fun _ hk=>trivial)));(case aS=>exact (below_size (by repeat (first|(with_reducible first|exact HB.out|apply below_alloc|apply pw_below_drewN|apply below_drew1|refine below_set ?_ GE144.out|refine below_set ?_ GE145.out|refine below_set ?_ GE146.out|refine below_set ?_ GE148.out)|exact HB.out))));(case aL=>have:=LMc14.out;omega);intro v150 w23 ho hb hg hat;rw [← Ny149.out] at ho;have n0_:=Aside0.mk (blk_grown (g:=gb144) (o:=.cells #[.int .u32 a0_0,.slice (some ad147) l0_1.length c0_1] 25 (0,0)) (by (with_reducible repeat (first|apply blk_drewN|apply blk_drew|apply blk_alloc));refine blk_far ?_ NB144_148.out _;(with_reducible repeat (first|apply blk_drewN|apply blk_drew|apply blk_alloc));refine blk_far ?_ NB144_148.out _;(with_reducible repeat (first|apply blk_drewN|apply blk_drew|apply blk_alloc));refine blk_far ?_ NB144_148.out _;(with_reducible repeat (first|apply blk_drewN|apply blk_drew|apply blk_alloc));refine blk_far ?_ NB144_148.out _;(with_reducible repeat (first|apply blk_drewN|apply blk_drew|apply blk_alloc));exact BK144.out) hg (Kd.R_ne HO_147001.out BK144.out (by decide)));have n1_:=Aside0.mk (blk_grown (g:=gb145) (o:=.cells #[.int .u32 0,.slice none 0 0] 30 (0,0)) (by (with_reducible repeat (first|apply blk_drewN|apply blk_drew|apply blk_alloc));refine blk_far ?_ NB145_148.out _;(with_reducible repeat (first|apply blk_drewN|apply blk_drew|apply blk_alloc));refine blk_far ?_ NB145_148.out _;(with_reducible repeat (first|apply blk_drewN|apply blk_drew|apply blk_alloc));refine blk_far ?_ NB145_148.out _;(with_reducible repeat (first|apply blk_drewN|apply blk_drew|apply blk_alloc));refine blk_far ?_ NB145_148.out _;(with_reducible repeat (first|apply blk_drewN|apply blk_drew|apply blk_alloc));exact BK145.out) hg (Kd.R_ne HO_147001.out BK145.out (by decide)));have n2_:=Aside0.mk (blk_grown (g:=gb146) (o:=.cells #[.int .u32 a0_0,u147001] 30 (0,0)) (by (with_reducible repeat (first|apply blk_drewN|apply blk_drew|apply blk_alloc));refine blk_far ?_ NB146_148.out _;(with_reducible repeat (first|apply blk_drewN|apply blk_drew|apply blk_alloc));refine blk_far ?_ NB146_148.out _;(with_reducible repeat (first|apply blk_drewN|apply blk_drew|apply blk_alloc));refine blk_far ?_ NB146_148.out _;(with_reducible repeat (first|apply blk_drewN|apply blk_drew|apply blk_alloc));refine blk_far ?_ NB146_148.out _;(with_reducible repeat (first|apply blk_drewN|apply blk_drew|apply blk_alloc));exact BK146.out) hg (Kd.R_ne HO_147001.out BK146.out (by decide)));have n3_:=Aside0.mk (blk_grown (g:=gb148) (o:=.cells #[.string ((rd_T66 l0_1 x12_1).f0),.string ((rd_T66 l0_1 x12_1).f1),.string ((rd_T66 l0_1 x12_1).f2),.int .u8 ((rd_T66 l0_1 x12_1).f3)] 66 (0,0)) (by (with_reducible repeat (first|apply blk_drewN|apply blk_drew|apply blk_alloc));refine blk_put (cs:=#[.string ((rd_T66 l0_1 x12_1).f0),.string ((rd_T66 l0_1 x12_1).f1),.string ((rd_T66 l0_1 x12_1).f2),.int .u8 0]) ?_ 3 _ rfl;(with_reducible repeat (first|apply blk_drewN|apply blk_drew|apply blk_alloc));refine blk_put (cs:=#[.string ((rd_T66 l0_1 x12_1).f0),.string ((rd_T66 l0_1 x12_1).f1),.string (⟨#[]⟩ : ByteArray),.int .u8 0]) ?_ 2 _ rfl;(with_reducible repeat (first|apply blk_drewN|apply blk_drew|apply blk_alloc));refine blk_put (cs:=#[.string ((rd_T66 l0_1 x12_1).f0),.string (⟨#[]⟩ : ByteArray),.string (⟨#[]⟩ : ByteArray),.int .u8 0]) ?_ 1 _ rfl;(with_reducible repeat (first|apply blk_drewN|apply blk_drew|apply blk_alloc));refine blk_put (cs:=#[.string (⟨#[]⟩ : ByteArray),.string (⟨#[]⟩ : ByteArray),.string (⟨#[]⟩ : ByteArray),.int .u8 0]) ?_ 0 _ rfl;(with_reducible repeat (first|apply blk_drewN|apply blk_drew|apply blk_alloc));exact BK148.out) hg (Kd.R_ne HO_147001.out BK148.out (by decide)));have n4_:=Aside0.mk (hb);have n5_:=Aside0.mk (ho);clear BK144;clear BK145;clear BK146;clear BK148;clear HB;clear HO_147001;have BK144:=n0_;have BK145:=n1_;have BK146:=n2_;have BK148:=n3_;have HB:=n4_;have HO151:=n5_;clear n0_ n1_ n2_ n3_ n4_ n5_;clear ho hb hg hat;obtain ⟨Ao24,co24,eo24⟩:=Kd.R_slice HO151.out;subst eo24;have hcz25_0 : w23.cell? ⟨gb146,0,none⟩ = some (.int .u32 a0_0):=(blk_cell BK146.out 0).trans rfl;have hcz25_1 : w23.cell? ⟨gb146,1,none⟩ = some (u147001):=(blk_cell BK146.out 1).trans rfl;have hfz25_0:=blk_frozen BK146.out 0;have hfz25_1:=blk_frozen BK146.out 1))
       go_roundg k1
       case measure=>have:=HK1.out;omega
       case rel=>exact ⟨(wrap64 (x12_1 + 1)),(y149),(.slice Ao24 y149.length co24),(by first|rfl|(simp;done)|(simp [*];done)),H',⟨by have:=HK1.out;omega⟩,⟨by (with_reducible repeat (first|apply Kd.R_alloc|apply Kd.R_drewN|apply Kd.R_drew));exact Kd.R_mono (Kd.R_far (p:=⟨gb146,1,none⟩) (Kd.R_types HO151.out BK146.out (by decide)) (fun _ hk=>hk.2) (.slice Ao24 y149.length co24)) (fun _ hk=>trivial)⟩,⟨by (with_reducible repeat (first|apply blk_drewN|apply blk_drew|apply blk_alloc));refine blk_far ?_ NB144_146.out _;(with_reducible repeat (first|apply blk_drewN|apply blk_drew|apply blk_alloc));exact BK144.out⟩,⟨by (with_reducible repeat (first|apply blk_drewN|apply blk_drew|apply blk_alloc));refine blk_far ?_ NB145_146.out _;(with_reducible repeat (first|apply blk_drewN|apply blk_drew|apply blk_alloc));exact BK145.out⟩,⟨by (with_reducible repeat (first|apply blk_drewN|apply blk_drew|apply blk_alloc));refine blk_put (cs:=#[.int .u32 a0_0,u147001]) ?_ 1 _ rfl;(with_reducible repeat (first|apply blk_drewN|apply blk_drew|apply blk_alloc));exact BK146.out⟩,⟨by repeat (first|(with_reducible first|exact HB.out|apply below_alloc|apply pw_below_drewN|apply below_drew1|refine below_set ?_ GE144.out|refine below_set ?_ GE145.out|refine below_set ?_ GE146.out|refine below_set ?_ GE148.out)|exact HB.out)⟩⟩
      ·rw [if_neg c14] at H
       exact absurd H (by simp)
     ·rw [if_neg c13] at H
      exact absurd H (by simp)
    ·rw [if_neg c12] at H
     exact absurd H (by simp)
   ·rw [if_neg c11] at H
    have c11b0 : decide (x12_1 < (l0_1.length : Int)) = false:=decide_eq_false c11
    clear c11
    simp only [Option.some.injEq,Prod.mk.injEq] at H
    obtain ⟨rfl,rfl⟩:=H
    have hnb26:=NB146_144.out
    have hnc26:=NB144_146.out
    have hnb27:=NB146_145.out
    have hnc27:=NB145_146.out
    have hcz28_0 : wr.cell? ⟨gb146,0,none⟩ = some (.int .u32 a0_0):=(blk_cell BK146.out 0).trans rfl
    have hcz28_1 : wr.cell? ⟨gb146,1,none⟩ = some (u147001):=(blk_cell BK146.out 1).trans rfl
    have hfz28_0:=blk_frozen BK146.out 0
    have hfz28_1:=blk_frozen BK146.out 1
    have hnb29:=NB145_144.out
    have hnc29:=NB144_145.out
    have hcz30_0 : wr.cell? ⟨gb145,0,none⟩ = some (.int .u32 0):=(blk_cell BK145.out 0).trans rfl
    have hcz30_1 : wr.cell? ⟨gb145,1,none⟩ = some (.slice none 0 0):=(blk_cell BK145.out 1).trans rfl
    have hfz30_0:=blk_frozen BK145.out 0
    have hfz30_1:=blk_frozen BK145.out 1
    obtain ⟨Ao31,co31,eo31⟩:=Kd.R_slice HO_147001.out
    subst eo31
    go_wp2
    refine bodyPost_ret (results_cell_row rfl _ _ gb145 30 #[.int .u32 a0_0,.slice Ao31 x147001_1.length co31] (0,0) _ rfl (by (with_reducible repeat (first|apply blk_drewN|apply blk_drew|apply blk_alloc));refine blk_put (cs:=#[.int .u32 a0_0,.slice none 0 0]) ?_ 1 _ rfl;(with_reducible repeat (first|apply blk_drewN|apply blk_drew|apply blk_alloc));refine blk_put (cs:=#[.int .u32 0,.slice none 0 0]) ?_ 0 _ rfl;(with_reducible repeat (first|apply blk_drewN|apply blk_drew|apply blk_alloc));exact BK145.out) Tryd.underlying30 rfl (by kernel_rfl)) rfl ?_
    exact ⟨_,by first|rfl|(simp [errW_none,errW_some] <;> rfl)|(simp [*,errW_none,errW_some] <;> rfl),by (with_reducible repeat (first|apply Kd.R_alloc|apply Kd.R_drewN|apply Kd.R_drew));exact Kd.R_mono (Kd.R_far (p:=⟨gb145,1,none⟩) (Kd.R_far (p:=⟨gb145,0,none⟩) (Kd.R_types HO_147001.out BK145.out (by decide)) (fun _ hk=>hk.2) (.int .u32 a0_0)) (fun _ hk=>hk.2) (.slice Ao31 x147001_1.length co31)) (fun _ hk=>trivial),by repeat (first|(with_reducible first|exact HB.out|apply below_alloc|apply pw_below_drewN|apply below_drew1|refine below_set ?_ GE144.out|refine below_set ?_ GE145.out|refine below_set ?_ GE146.out)|exact HB.out)⟩

/-! ### bosunref17_Same: function 17 -/
mutual
def bosunref17_Same.j0 : Nat → Bool → Int → List (S67) → Int → List (S67) → Option (Bool)
 | 0,_,_,_,_,_=>none
 | k + 1,x19,x153000,x153001,x154000,x154001=>if x19 = true then (some false) else (bosunref17_Same.l0 k 0 x153000 x153001 x154000 x154001)
def bosunref17_Same.l0 : Nat → Int → Int → List (S67) → Int → List (S67) → Option (Bool)
 | 0,_,_,_,_,_=>none
 | k + 1,x5,x153000,x153001,x154000,x154001=>if x5 < (x153001.length : Int) then (if 0 ≤ x5 then (if x5 < (x154001.length : Int) then (if (!((((rd_T67 x153001 x5).f0).toList) == (((rd_T67 x154001 x5).f0).toList)) || (!((((rd_T67 x153001 x5).f1).toList) == (((rd_T67 x154001 x5).f1).toList)) || (!((((rd_T67 x153001 x5).f2).toList) == (((rd_T67 x154001 x5).f2).toList)) || (!(((rd_T67 x153001 x5).f3) == ((rd_T67 x154001 x5).f3)))))) = true then (some false) else (bosunref17_Same.l0 k (wrap64 (x5 + 1)) x153000 x153001 x154000 x154001)) else (none)) else (none)) else (some true)
end
def bosunref17_Same.f (k : Nat) (a0_0 : Int) (l0_1 : List (S67)) (a1_0 : Int) (l1_1 : List (S67)) : Option (Bool):=if a0_0 = a1_0 then (bosunref17_Same.j0 k ((l0_1.length : Int) != (l1_1.length : Int)) a0_0 l0_1 a1_0 l1_1) else (bosunref17_Same.j0 k true a0_0 l0_1 a1_0 l1_1)
theorem bosunref17_Same.mono_l : ∀ k,(∀ y0 y1 y2 y3 y4,LeO (bosunref17_Same.j0 k y0 y1 y2 y3 y4) (bosunref17_Same.j0 (k + 1) y0 y1 y2 y3 y4)) ∧ (∀ y0 y1 y2 y3 y4,LeO (bosunref17_Same.l0 k y0 y1 y2 y3 y4) (bosunref17_Same.l0 (k + 1) y0 y1 y2 y3 y4))
 | 0=>⟨fun _ _ _ _ _ r h=>by simp [bosunref17_Same.j0] at h,fun _ _ _ _ _ r h=>by simp [bosunref17_Same.l0] at h⟩
 | k + 1=>by
  obtain ⟨ih0,ih1⟩:=bosunref17_Same.mono_l k
  refine ⟨?_,?_⟩
  ·intro y0 y1 y2 y3 y4
   unfold bosunref17_Same.j0
   repeat' first
   | (with_reducible exact ih0 _ _ _ _ _)
   | (with_reducible exact ih1 _ _ _ _ _)
   | (with_reducible exact LeO.refl _)
   | (with_reducible exact LeO.none _)
   | (with_reducible refine LeO.ite ?_ ?_)
   | (with_reducible refine LeO.bind ?_ (fun _=>?_))
   | exact ih0 _ _ _ _ _
   | exact ih1 _ _ _ _ _
   | exact LeO.none _
   | refine LeO.ite ?_ ?_
   | refine LeO.bind ?_ (fun _=>?_)
  ·intro y0 y1 y2 y3 y4
   unfold bosunref17_Same.l0
   repeat' first
   | (with_reducible exact ih0 _ _ _ _ _)
   | (with_reducible exact ih1 _ _ _ _ _)
   | (with_reducible exact LeO.refl _)
   | (with_reducible exact LeO.none _)
   | (with_reducible refine LeO.ite ?_ ?_)
   | (with_reducible refine LeO.bind ?_ (fun _=>?_))
   | exact ih0 _ _ _ _ _
   | exact ih1 _ _ _ _ _
   | exact LeO.none _
   | refine LeO.ite ?_ ?_
   | refine LeO.bind ?_ (fun _=>?_)
theorem bosunref17_Same.mono : ∀ a0 a1 a2 a3 k,LeO (bosunref17_Same.f k a0 a1 a2 a3) (bosunref17_Same.f (k + 1) a0 a1 a2 a3):=by
 intro a0 a1 a2 a3 k
 obtain ⟨ih0,ih1⟩:=bosunref17_Same.mono_l k
 unfold bosunref17_Same.f
 repeat' first
   | (with_reducible exact ih0 _ _ _ _ _)
   | (with_reducible exact ih1 _ _ _ _ _)
   | (with_reducible exact LeO.refl _)
   | (with_reducible exact LeO.none _)
   | (with_reducible refine LeO.ite ?_ ?_)
   | (with_reducible refine LeO.bind ?_ (fun _=>?_))
   | exact ih0 _ _ _ _ _
   | exact ih1 _ _ _ _ _
   | exact LeO.none _
   | refine LeO.ite ?_ ?_
   | refine LeO.bind ?_ (fun _=>?_)
set_option maxHeartbeats 8000000 in
set_option maxRecDepth 100000 in
theorem bosunref17_Same.calls (k : Nat) (a0_0 : Int) (A0_1 : Option Addr) (c0_1 : Nat) (l0_1 : List (S67)) (a1_0 : Int) (A1_1 : Option Addr) (c1_1 : Nat) (l1_1 : List (S67)) (r : Bool) (w : World) (hr0_1 : Kd.C k67 w A0_1 l0_1.length l0_1) (hc0_1 : l0_1.length ≤ c0_1) (hr1_1 : Kd.C k67 w A1_1 l1_1.length l1_1) (hc1_1 : l1_1.length ≤ c1_1) (h : bosunref17_Same.f k a0_0 l0_1 a1_0 l1_1 = some r) :
  Calls Tryd.prog 17 #[.agg #[.int .u32 a0_0,.slice A0_1 l0_1.length c0_1],.agg #[.int .u32 a1_0,.slice A1_1 l1_1.length c1_1]] w fun e w'=>e = .returned (.bool r) ∧ Below w.heap.size w w':=by
 have hu30:=Tryd.underlying30
 have hu67:=Tryd.underlying67
 have HR0_1:=Aside0.mk hr0_1
 have HC0_1:=Aside0.mk hc0_1
 clear hr0_1 hc0_1
 have HR1_1:=Aside0.mk hr1_1
 have HC1_1:=Aside0.mk hc1_1
 clear hr1_1 hc1_1
 have HB:=Aside0.mk (Below.refl w.heap.size w)
 have H : (if a0_0 = a1_0 then (bosunref17_Same.j0 k ((l0_1.length : Int) != (l1_1.length : Int)) a0_0 l0_1 a1_0 l1_1) else (bosunref17_Same.j0 k true a0_0 l0_1 a1_0 l1_1)) = some r:=h
 clear h
 have HC3:=Aside0.mk H
 clear H
 go_enter Tryd.func17,Tryd.ntmps17
 go_upto_region 1 with (first|((with_reducible refine gate_dst (N:=2) rfl ?_);refine box_event ?hg (N:=2) ?hd (cs:=#[.int .u32 a0_0,.slice A0_1 l0_1.length c0_1]) (t:=30) ?hr ?_;(case hd=>rfl);(case hg=>rfl);(case hr=>first|(go_simp;done)|(go_simp;rfl));intro gb152 hg w4 hbox hb;have n0_:=Aside0.mk (below_step (by repeat (first|(with_reducible first|exact HB.out|apply below_alloc|apply pw_below_drewN|apply below_drew1)|exact HB.out)) hb);have n1_:=Aside0.mk (hbox);have n2_:=Aside0.mk ((by rw [hg];exact (below_size (by repeat (first|(with_reducible first|exact HB.out|apply below_alloc|apply pw_below_drewN|apply below_drew1)|exact HB.out))) : w.heap.size ≤ gb152));have n3_:=Aside0.mk ((by rw [hg];exact (below_size (by repeat (first|(with_reducible first|exact HB.out|apply below_alloc|apply pw_below_drewN|apply below_drew1)|exact HB.out))) : w.heap.size ≤ gb152));clear HB;have HB:=n0_;have BK152:=n1_;have GW152:=n2_;have GE152:=n3_;clear n0_ n1_ n2_ n3_;clear hb hbox hg)|((with_reducible refine gate_dst (N:=3) rfl ?_);refine box_event ?hg (N:=3) ?hd (cs:=#[.int .u32 a1_0,.slice A1_1 l1_1.length c1_1]) (t:=30) ?hr ?_;(case hd=>rfl);(case hg=>rfl);(case hr=>first|(go_simp;done)|(go_simp;rfl));intro gb153 hg w5 hbox hb;have n0_:=Aside0.mk (blk_below (g:=gb152) (o:=.cells #[.int .u32 a0_0,.slice A0_1 l0_1.length c0_1] 30 (0,0)) (by (with_reducible repeat (first|apply blk_drewN|apply blk_drew|apply blk_alloc));exact BK152.out) hb);have n1_:=Aside0.mk (below_step (by repeat (first|(with_reducible first|exact HB.out|apply below_alloc|apply pw_below_drewN|apply below_drew1|refine below_set ?_ GE152.out)|exact HB.out)) hb);have n2_:=Aside0.mk (hbox);have n3_:=Aside0.mk ((by rw [hg];exact (below_size (by repeat (first|(with_reducible first|exact HB.out|apply below_alloc|apply pw_below_drewN|apply below_drew1|refine below_set ?_ GE152.out)|exact HB.out))) : w.heap.size ≤ gb153));have n4_:=Aside0.mk ((by rw [hg];exact (below_size (by repeat (first|(with_reducible first|exact HB.out|apply below_alloc|apply pw_below_drewN|apply below_drew1|refine below_set ?_ GE152.out)|exact HB.out))) : w.heap.size ≤ gb153));have n5_:=Aside0.mk ((by rw [hg];exact Nat.ne_of_lt (blk_lt (g:=gb152) (o:=.cells #[.int .u32 a0_0,.slice A0_1 l0_1.length c0_1] 30 (0,0)) (by (with_reducible repeat (first|apply blk_drewN|apply blk_drew|apply blk_alloc));exact BK152.out)) : gb152 ≠ gb153));have n6_:=Aside0.mk ((by rw [hg];exact Nat.ne_of_gt (blk_lt (g:=gb152) (o:=.cells #[.int .u32 a0_0,.slice A0_1 l0_1.length c0_1] 30 (0,0)) (by (with_reducible repeat (first|apply blk_drewN|apply blk_drew|apply blk_alloc));exact BK152.out)) : gb153 ≠ gb152));clear BK152;clear HB;have BK152:=n0_;have HB:=n1_;have BK153:=n2_;have GW153:=n3_;have GE153:=n4_;have NB152_153:=n5_;have NB153_152:=n6_;clear n0_ n1_ n2_ n3_ n4_ n5_ n6_;clear hb hbox hg))
 repeat (go_quiet (first|((with_reducible refine gate_dst (N:=2) rfl ?_);refine box_event ?hg (N:=2) ?hd (cs:=#[.int .u32 a0_0,.slice A0_1 l0_1.length c0_1]) (t:=30) ?hr ?_;(case hd=>rfl);(case hg=>rfl);(case hr=>first|(go_simp;done)|(go_simp;rfl));intro gb152 hg w4 hbox hb;have n0_:=Aside0.mk (below_step (by repeat (first|(with_reducible first|exact HB.out|apply below_alloc|apply pw_below_drewN|apply below_drew1)|exact HB.out)) hb);have n1_:=Aside0.mk (hbox);have n2_:=Aside0.mk ((by rw [hg];exact (below_size (by repeat (first|(with_reducible first|exact HB.out|apply below_alloc|apply pw_below_drewN|apply below_drew1)|exact HB.out))) : w.heap.size ≤ gb152));have n3_:=Aside0.mk ((by rw [hg];exact (below_size (by repeat (first|(with_reducible first|exact HB.out|apply below_alloc|apply pw_below_drewN|apply below_drew1)|exact HB.out))) : w.heap.size ≤ gb152));clear HB;have HB:=n0_;have BK152:=n1_;have GW152:=n2_;have GE152:=n3_;clear n0_ n1_ n2_ n3_;clear hb hbox hg)|((with_reducible refine gate_dst (N:=3) rfl ?_);refine box_event ?hg (N:=3) ?hd (cs:=#[.int .u32 a1_0,.slice A1_1 l1_1.length c1_1]) (t:=30) ?hr ?_;(case hd=>rfl);(case hg=>rfl);(case hr=>first|(go_simp;done)|(go_simp;rfl));intro gb153 hg w5 hbox hb;have n0_:=Aside0.mk (blk_below (g:=gb152) (o:=.cells #[.int .u32 a0_0,.slice A0_1 l0_1.length c0_1] 30 (0,0)) (by (with_reducible repeat (first|apply blk_drewN|apply blk_drew|apply blk_alloc));exact BK152.out) hb);have n1_:=Aside0.mk (below_step (by repeat (first|(with_reducible first|exact HB.out|apply below_alloc|apply pw_below_drewN|apply below_drew1|refine below_set ?_ GE152.out)|exact HB.out)) hb);have n2_:=Aside0.mk (hbox);have n3_:=Aside0.mk ((by rw [hg];exact (below_size (by repeat (first|(with_reducible first|exact HB.out|apply below_alloc|apply pw_below_drewN|apply below_drew1|refine below_set ?_ GE152.out)|exact HB.out))) : w.heap.size ≤ gb153));have n4_:=Aside0.mk ((by rw [hg];exact (below_size (by repeat (first|(with_reducible first|exact HB.out|apply below_alloc|apply pw_below_drewN|apply below_drew1|refine below_set ?_ GE152.out)|exact HB.out))) : w.heap.size ≤ gb153));have n5_:=Aside0.mk ((by rw [hg];exact Nat.ne_of_lt (blk_lt (g:=gb152) (o:=.cells #[.int .u32 a0_0,.slice A0_1 l0_1.length c0_1] 30 (0,0)) (by (with_reducible repeat (first|apply blk_drewN|apply blk_drew|apply blk_alloc));exact BK152.out)) : gb152 ≠ gb153));have n6_:=Aside0.mk ((by rw [hg];exact Nat.ne_of_gt (blk_lt (g:=gb152) (o:=.cells #[.int .u32 a0_0,.slice A0_1 l0_1.length c0_1] 30 (0,0)) (by (with_reducible repeat (first|apply blk_drewN|apply blk_drew|apply blk_alloc));exact BK152.out)) : gb153 ≠ gb152));clear BK152;clear HB;have BK152:=n0_;have HB:=n1_;have BK153:=n2_;have GW153:=n3_;have GE153:=n4_;have NB152_153:=n5_;have NB153_152:=n6_;clear n0_ n1_ n2_ n3_ n4_ n5_ n6_;clear hb hbox hg));go_upto_region 1 with (first|((with_reducible refine gate_dst (N:=2) rfl ?_);refine box_event ?hg (N:=2) ?hd (cs:=#[.int .u32 a0_0,.slice A0_1 l0_1.length c0_1]) (t:=30) ?hr ?_;(case hd=>rfl);(case hg=>rfl);(case hr=>first|(go_simp;done)|(go_simp;rfl));intro gb152 hg w4 hbox hb;have n0_:=Aside0.mk (below_step (by repeat (first|(with_reducible first|exact HB.out|apply below_alloc|apply pw_below_drewN|apply below_drew1)|exact HB.out)) hb);have n1_:=Aside0.mk (hbox);have n2_:=Aside0.mk ((by rw [hg];exact (below_size (by repeat (first|(with_reducible first|exact HB.out|apply below_alloc|apply pw_below_drewN|apply below_drew1)|exact HB.out))) : w.heap.size ≤ gb152));have n3_:=Aside0.mk ((by rw [hg];exact (below_size (by repeat (first|(with_reducible first|exact HB.out|apply below_alloc|apply pw_below_drewN|apply below_drew1)|exact HB.out))) : w.heap.size ≤ gb152));clear HB;have HB:=n0_;have BK152:=n1_;have GW152:=n2_;have GE152:=n3_;clear n0_ n1_ n2_ n3_;clear hb hbox hg)|((with_reducible refine gate_dst (N:=3) rfl ?_);refine box_event ?hg (N:=3) ?hd (cs:=#[.int .u32 a1_0,.slice A1_1 l1_1.length c1_1]) (t:=30) ?hr ?_;(case hd=>rfl);(case hg=>rfl);(case hr=>first|(go_simp;done)|(go_simp;rfl));intro gb153 hg w5 hbox hb;have n0_:=Aside0.mk (blk_below (g:=gb152) (o:=.cells #[.int .u32 a0_0,.slice A0_1 l0_1.length c0_1] 30 (0,0)) (by (with_reducible repeat (first|apply blk_drewN|apply blk_drew|apply blk_alloc));exact BK152.out) hb);have n1_:=Aside0.mk (below_step (by repeat (first|(with_reducible first|exact HB.out|apply below_alloc|apply pw_below_drewN|apply below_drew1|refine below_set ?_ GE152.out)|exact HB.out)) hb);have n2_:=Aside0.mk (hbox);have n3_:=Aside0.mk ((by rw [hg];exact (below_size (by repeat (first|(with_reducible first|exact HB.out|apply below_alloc|apply pw_below_drewN|apply below_drew1|refine below_set ?_ GE152.out)|exact HB.out))) : w.heap.size ≤ gb153));have n4_:=Aside0.mk ((by rw [hg];exact (below_size (by repeat (first|(with_reducible first|exact HB.out|apply below_alloc|apply pw_below_drewN|apply below_drew1|refine below_set ?_ GE152.out)|exact HB.out))) : w.heap.size ≤ gb153));have n5_:=Aside0.mk ((by rw [hg];exact Nat.ne_of_lt (blk_lt (g:=gb152) (o:=.cells #[.int .u32 a0_0,.slice A0_1 l0_1.length c0_1] 30 (0,0)) (by (with_reducible repeat (first|apply blk_drewN|apply blk_drew|apply blk_alloc));exact BK152.out)) : gb152 ≠ gb153));have n6_:=Aside0.mk ((by rw [hg];exact Nat.ne_of_gt (blk_lt (g:=gb152) (o:=.cells #[.int .u32 a0_0,.slice A0_1 l0_1.length c0_1] 30 (0,0)) (by (with_reducible repeat (first|apply blk_drewN|apply blk_drew|apply blk_alloc));exact BK152.out)) : gb153 ≠ gb152));clear BK152;clear HB;have BK152:=n0_;have HB:=n1_;have BK153:=n2_;have GW153:=n3_;have GE153:=n4_;have NB152_153:=n5_;have NB153_152:=n6_;clear n0_ n1_ n2_ n3_ n4_ n5_ n6_;clear hb hbox hg)))
 (try simp only [Act.put,List.setIfInBounds_toArray,List.set_cons_zero,List.set_cons_succ])
 go_cut [19] (fun v19 wc=>∃ (kq : Nat) (x19_2 : Bool),v19 = .bool x19_2 ∧ Aside0 (bosunref17_Same.j0 kq x19_2 a0_0 l0_1 a1_0 l1_1 = some r) ∧ Aside0 (kq ≤ k) ∧ Aside0 (wc.heap[gb152]? = some (.cells #[.int .u32 a0_0,(.slice A0_1 l0_1.length c0_1)] 30 (0,0))) ∧ Aside0 (wc.heap[gb153]? = some (.cells #[.int .u32 a1_0,(.slice A1_1 l1_1.length c1_1)] 30 (0,0))) ∧ Aside0 (Below w.heap.size w wc))
 case first =>
  have H:=HC3.out
  clear HC3
  by_cases c6 : a0_0 = a1_0
  ·rw [if_pos c6] at H
   have c6b0 : (a0_0 == a1_0) = true:=beq_iff_eq.mpr c6
   have c6b1 : (a0_0 != a1_0) = false:=bne_eq_false_iff_eq.mpr c6
   clear c6
   (first|rw [c6b0]|(simp only [i64_w,i32_w];rw [c6b0])|skip)
   have H':=Aside0.mk H
   clear H
   have hnb7:=NB152_153.out
   have hnc7:=NB153_152.out
   have hcz8_0 : w5.cell? ⟨gb152,0,none⟩ = some (.int .u32 a0_0):=(blk_cell BK152.out 0).trans rfl
   have hcz8_1 : w5.cell? ⟨gb152,1,none⟩ = some (.slice A0_1 l0_1.length c0_1):=(blk_cell BK152.out 1).trans rfl
   have hfz8_0:=blk_frozen BK152.out 0
   have hfz8_1:=blk_frozen BK152.out 1
   have hcz9_0 : w5.cell? ⟨gb153,0,none⟩ = some (.int .u32 a1_0):=(blk_cell BK153.out 0).trans rfl
   have hcz9_1 : w5.cell? ⟨gb153,1,none⟩ = some (.slice A1_1 l1_1.length c1_1):=(blk_cell BK153.out 1).trans rfl
   have hfz9_0:=blk_frozen BK153.out 0
   have hfz9_1:=blk_frozen BK153.out 1
   go_wp2
   repeat (go_quiet (fail);try go_wp2)
   go_meet
   case rel=>exact ⟨_,(((l0_1.length : Int) != (l1_1.length : Int))),(by first|rfl|(simp;done)|(simp [*];done)),H',⟨by first|omega|exact Nat.le_refl _⟩,⟨by (with_reducible repeat (first|apply blk_drewN|apply blk_drew|apply blk_alloc));exact BK152.out⟩,⟨by (with_reducible repeat (first|apply blk_drewN|apply blk_drew|apply blk_alloc));exact BK153.out⟩,⟨by repeat (first|(with_reducible first|exact HB.out|apply below_alloc|apply pw_below_drewN|apply below_drew1|refine below_set ?_ GE152.out|refine below_set ?_ GE153.out)|exact HB.out)⟩⟩
  ·rw [if_neg c6] at H
   have c6b0 : (a0_0 == a1_0) = false:=beq_eq_false_iff_ne.mpr c6
   have c6b1 : (a0_0 != a1_0) = true:=bne_iff_ne.mpr c6
   (first|rw [c6b0]|(simp only [i64_w,i32_w];rw [c6b0])|skip)
   have H':=Aside0.mk H
   clear H
   have hnb10:=NB152_153.out
   have hnc10:=NB153_152.out
   have hcz11_0 : w5.cell? ⟨gb152,0,none⟩ = some (.int .u32 a0_0):=(blk_cell BK152.out 0).trans rfl
   have hcz11_1 : w5.cell? ⟨gb152,1,none⟩ = some (.slice A0_1 l0_1.length c0_1):=(blk_cell BK152.out 1).trans rfl
   have hfz11_0:=blk_frozen BK152.out 0
   have hfz11_1:=blk_frozen BK152.out 1
   have hcz12_0 : w5.cell? ⟨gb153,0,none⟩ = some (.int .u32 a1_0):=(blk_cell BK153.out 0).trans rfl
   have hcz12_1 : w5.cell? ⟨gb153,1,none⟩ = some (.slice A1_1 l1_1.length c1_1):=(blk_cell BK153.out 1).trans rfl
   have hfz12_0:=blk_frozen BK153.out 0
   have hfz12_1:=blk_frozen BK153.out 1
   go_wp2
   repeat (go_quiet (fail);try go_wp2)
   go_meet
   case rel=>exact ⟨_,(true),(by first|rfl|(simp;done)|(simp [*];done)),H',⟨by first|omega|exact Nat.le_refl _⟩,⟨by (with_reducible repeat (first|apply blk_drewN|apply blk_drew|apply blk_alloc));exact BK152.out⟩,⟨by (with_reducible repeat (first|apply blk_drewN|apply blk_drew|apply blk_alloc));exact BK153.out⟩,⟨by repeat (first|(with_reducible first|exact HB.out|apply below_alloc|apply pw_below_drewN|apply below_drew1|refine below_set ?_ GE152.out|refine below_set ?_ GE153.out)|exact HB.out)⟩⟩
 case rest =>
  clear HC3
  try clear c1
  try clear p2
  try clear c6
  try clear c6b0
  try clear c6b1
  try clear c7
  try clear c10
  try clear hcz11_0
  try clear hcz11_1
  try clear hcz12_0
  try clear hcz12_1
  try clear hcz8_0
  try clear hcz8_1
  try clear hcz9_0
  try clear hcz9_1
  try clear hfz11_0
  try clear hfz11_1
  try clear hfz12_0
  try clear hfz12_1
  try clear hfz8_0
  try clear hfz8_1
  try clear hfz9_0
  try clear hfz9_1
  obtain ⟨kq,x19_2,rfl,HA,HJ2,BK152,BK153,HB⟩:=hcut
  cases kq with
  | zero=>exact absurd HA.out (by simp [bosunref17_Same.j0])
  | succ kj2 =>
   have H:=HA.out
   clear HA
   simp only [bosunref17_Same.j0] at H
   by_cases c13 : x19_2 = true
   ·subst c13
    have H1 : (some false) = some r:=by rw [if_pos rfl] at H;exact H
    clear H
    have H:=H1
    clear H1
    obtain rfl:=Option.some.inj H
    go_wp2
    repeat (go_quiet (fail);try go_wp2)
    go_ret
    exact ⟨by first|rfl|(simp [errW_none,errW_some] <;> rfl)|(simp [*,errW_none,errW_some] <;> rfl),by repeat (first|(with_reducible first|exact HB.out|apply below_alloc|apply pw_below_drewN|apply below_drew1|refine below_set ?_ GE152.out|refine below_set ?_ GE153.out)|exact HB.out)⟩
   ·replace c13:=Bool.eq_false_iff.mpr c13
    subst c13
    have H1 : (bosunref17_Same.l0 kj2 0 a0_0 l0_1 a1_0 l1_1) = some r:=by rw [if_neg (show ¬ (false = true) by decide)] at H;exact H
    clear H
    have H:=H1
    clear H1
    have H':=Aside0.mk H
    clear H
    go_wp2
    repeat (go_quiet (fail);try go_wp2)
    go_loopg [5] kj2 (fun kq v5 w'=>∃ (x5_2 : Int),v5 = .int .i64 x5_2 ∧ Aside0 (bosunref17_Same.l0 kq x5_2 a0_0 l0_1 a1_0 l1_1 = some r) ∧ Aside0 (kq ≤ kj2) ∧ Aside0 (w'.heap[gb152]? = some (.cells #[.int .u32 a0_0,(.slice A0_1 l0_1.length c0_1)] 30 (0,0))) ∧ Aside0 (w'.heap[gb153]? = some (.cells #[.int .u32 a1_0,(.slice A1_1 l1_1.length c1_1)] 30 (0,0))) ∧ Aside0 (Below w.heap.size w w'))
    case atStart=>exact ⟨(0),(by first|rfl|(simp;done)|(simp [*];done)),H',⟨Nat.le_refl _⟩,⟨by (with_reducible repeat (first|apply blk_drewN|apply blk_drew|apply blk_alloc));exact BK152.out⟩,⟨by (with_reducible repeat (first|apply blk_drewN|apply blk_drew|apply blk_alloc));exact BK153.out⟩,⟨by repeat (first|(with_reducible first|exact HB.out|apply below_alloc|apply pw_below_drewN|apply below_drew1|refine below_set ?_ GE152.out|refine below_set ?_ GE153.out)|exact HB.out)⟩⟩
    case round =>
     clear H'
     try clear c1
     try clear p2
     try clear c6
     try clear c6b0
     try clear c6b1
     try clear c7
     try clear c10
     try clear c13
     try clear hcz11_0
     try clear hcz11_1
     try clear hcz12_0
     try clear hcz12_1
     try clear hcz8_0
     try clear hcz8_1
     try clear hcz9_0
     try clear hcz9_1
     try clear hfz11_0
     try clear hfz11_1
     try clear hfz12_0
     try clear hfz12_1
     try clear hfz8_0
     try clear hfz8_1
     try clear hfz9_0
     try clear hfz9_1
     try clear p2
     obtain ⟨x5_2,rfl,HA,HK2,BK152,BK153,HB⟩:=hrel
     cases gk with
     | zero=>exact absurd HA.out (by simp [bosunref17_Same.l0])
     | succ k2 =>
      have H:=HA.out
      clear HA
      simp only [bosunref17_Same.l0] at H
      by_cases c14 : x5_2 < (l0_1.length : Int)
      ·rw [if_pos c14] at H
       have c14b0 : decide (x5_2 < (l0_1.length : Int)) = true:=decide_eq_true c14
       clear c14
       by_cases c15 : 0 ≤ x5_2
       ·rw [if_pos c15] at H
        have c15b0 : decide (0 ≤ x5_2) = true:=decide_eq_true c15
        clear c15
        by_cases c16 : x5_2 < (l1_1.length : Int)
        ·rw [if_pos c16] at H
         have c16b0 : decide (x5_2 < (l1_1.length : Int)) = true:=decide_eq_true c16
         clear c16
         by_cases c17 : (!((((rd_T67 l0_1 x5_2).f0).toList) == (((rd_T67 l1_1 x5_2).f0).toList)) || (!((((rd_T67 l0_1 x5_2).f1).toList) == (((rd_T67 l1_1 x5_2).f1).toList)) || (!((((rd_T67 l0_1 x5_2).f2).toList) == (((rd_T67 l1_1 x5_2).f2).toList)) || (!(((rd_T67 l0_1 x5_2).f3) == ((rd_T67 l1_1 x5_2).f3)))))) = true
         ·rw [if_pos c17] at H
          have c17b0 : (!((((rd_T67 l0_1 x5_2).f0).toList) == (((rd_T67 l1_1 x5_2).f0).toList)) || (!((((rd_T67 l0_1 x5_2).f1).toList) == (((rd_T67 l1_1 x5_2).f1).toList)) || (!((((rd_T67 l0_1 x5_2).f2).toList) == (((rd_T67 l1_1 x5_2).f2).toList)) || (!(((rd_T67 l0_1 x5_2).f3) == ((rd_T67 l1_1 x5_2).f3)))))) = true:=c17
          clear c17
          obtain rfl:=Option.some.inj H
          have hnb18:=NB152_153.out
          have hnc18:=NB153_152.out
          have hcz19_0 : wr.cell? ⟨gb152,0,none⟩ = some (.int .u32 a0_0):=(blk_cell BK152.out 0).trans rfl
          have hcz19_1 : wr.cell? ⟨gb152,1,none⟩ = some (.slice A0_1 l0_1.length c0_1):=(blk_cell BK152.out 1).trans rfl
          have hfz19_0:=blk_frozen BK152.out 0
          have hfz19_1:=blk_frozen BK152.out 1
          have p154 : 0 ≤ (x5_2 : Int):=of_decide_eq_true (by first|(with_reducible assumption)|assumption)
          have q154 : x5_2 < (l0_1.length : Int):=of_decide_eq_true (by first|(with_reducible assumption)|assumption)
          obtain ⟨ad154,e154,hx154_0,hx154_1,hx154_2,hx154_3⟩:=at_T67 HR0_1.out x5_2 p154 q154
          cases e154
          replace hx154_0:=(HB.out.cell (World.block_lt_of_cell? w _ hx154_0)).trans hx154_0
          replace hx154_1:=(HB.out.cell (World.block_lt_of_cell? w _ hx154_1)).trans hx154_1
          replace hx154_2:=(HB.out.cell (World.block_lt_of_cell? w _ hx154_2)).trans hx154_2
          replace hx154_3:=(HB.out.cell (World.block_lt_of_cell? w _ hx154_3)).trans hx154_3
          replace p154:=eq_true p154
          replace q154:=eq_true q154
          have hcz20_0 : wr.cell? ⟨gb153,0,none⟩ = some (.int .u32 a1_0):=(blk_cell BK153.out 0).trans rfl
          have hcz20_1 : wr.cell? ⟨gb153,1,none⟩ = some (.slice A1_1 l1_1.length c1_1):=(blk_cell BK153.out 1).trans rfl
          have hfz20_0:=blk_frozen BK153.out 0
          have hfz20_1:=blk_frozen BK153.out 1
          have p155 : 0 ≤ (x5_2 : Int):=of_decide_eq_true (by first|(with_reducible assumption)|assumption)
          have q155 : x5_2 < (l1_1.length : Int):=of_decide_eq_true (by first|(with_reducible assumption)|assumption)
          obtain ⟨ad155,e155,hx155_0,hx155_1,hx155_2,hx155_3⟩:=at_T67 HR1_1.out x5_2 p155 q155
          cases e155
          replace hx155_0:=(HB.out.cell (World.block_lt_of_cell? w _ hx155_0)).trans hx155_0
          replace hx155_1:=(HB.out.cell (World.block_lt_of_cell? w _ hx155_1)).trans hx155_1
          replace hx155_2:=(HB.out.cell (World.block_lt_of_cell? w _ hx155_2)).trans hx155_2
          replace hx155_3:=(HB.out.cell (World.block_lt_of_cell? w _ hx155_3)).trans hx155_3
          replace p155:=eq_true p155
          replace q155:=eq_true q155
          go_wp2
          repeat (go_quiet (fail);try go_wp2)
          go_ret
          exact ⟨by first|rfl|(simp [errW_none,errW_some] <;> rfl)|(simp [*,errW_none,errW_some] <;> rfl),by repeat (first|(with_reducible first|exact HB.out|apply below_alloc|apply pw_below_drewN|apply below_drew1|refine below_set ?_ GE152.out|refine below_set ?_ GE153.out)|exact HB.out)⟩
         ·rw [if_neg c17] at H
          have c17b0 : (!((((rd_T67 l0_1 x5_2).f0).toList) == (((rd_T67 l1_1 x5_2).f0).toList)) || (!((((rd_T67 l0_1 x5_2).f1).toList) == (((rd_T67 l1_1 x5_2).f1).toList)) || (!((((rd_T67 l0_1 x5_2).f2).toList) == (((rd_T67 l1_1 x5_2).f2).toList)) || (!(((rd_T67 l0_1 x5_2).f3) == ((rd_T67 l1_1 x5_2).f3)))))) = false:=by simpa using c17
          clear c17
          have H':=Aside0.mk H
          clear H
          have hnb21:=NB152_153.out
          have hnc21:=NB153_152.out
          have hcz22_0 : wr.cell? ⟨gb152,0,none⟩ = some (.int .u32 a0_0):=(blk_cell BK152.out 0).trans rfl
          have hcz22_1 : wr.cell? ⟨gb152,1,none⟩ = some (.slice A0_1 l0_1.length c0_1):=(blk_cell BK152.out 1).trans rfl
          have hfz22_0:=blk_frozen BK152.out 0
          have hfz22_1:=blk_frozen BK152.out 1
          have p154 : 0 ≤ (x5_2 : Int):=of_decide_eq_true (by first|(with_reducible assumption)|assumption)
          have q154 : x5_2 < (l0_1.length : Int):=of_decide_eq_true (by first|(with_reducible assumption)|assumption)
          obtain ⟨ad154,e154,hx154_0,hx154_1,hx154_2,hx154_3⟩:=at_T67 HR0_1.out x5_2 p154 q154
          cases e154
          replace hx154_0:=(HB.out.cell (World.block_lt_of_cell? w _ hx154_0)).trans hx154_0
          replace hx154_1:=(HB.out.cell (World.block_lt_of_cell? w _ hx154_1)).trans hx154_1
          replace hx154_2:=(HB.out.cell (World.block_lt_of_cell? w _ hx154_2)).trans hx154_2
          replace hx154_3:=(HB.out.cell (World.block_lt_of_cell? w _ hx154_3)).trans hx154_3
          replace p154:=eq_true p154
          replace q154:=eq_true q154
          have hcz23_0 : wr.cell? ⟨gb153,0,none⟩ = some (.int .u32 a1_0):=(blk_cell BK153.out 0).trans rfl
          have hcz23_1 : wr.cell? ⟨gb153,1,none⟩ = some (.slice A1_1 l1_1.length c1_1):=(blk_cell BK153.out 1).trans rfl
          have hfz23_0:=blk_frozen BK153.out 0
          have hfz23_1:=blk_frozen BK153.out 1
          have p155 : 0 ≤ (x5_2 : Int):=of_decide_eq_true (by first|(with_reducible assumption)|assumption)
          have q155 : x5_2 < (l1_1.length : Int):=of_decide_eq_true (by first|(with_reducible assumption)|assumption)
          obtain ⟨ad155,e155,hx155_0,hx155_1,hx155_2,hx155_3⟩:=at_T67 HR1_1.out x5_2 p155 q155
          cases e155
          replace hx155_0:=(HB.out.cell (World.block_lt_of_cell? w _ hx155_0)).trans hx155_0
          replace hx155_1:=(HB.out.cell (World.block_lt_of_cell? w _ hx155_1)).trans hx155_1
          replace hx155_2:=(HB.out.cell (World.block_lt_of_cell? w _ hx155_2)).trans hx155_2
          replace hx155_3:=(HB.out.cell (World.block_lt_of_cell? w _ hx155_3)).trans hx155_3
          replace p155:=eq_true p155
          replace q155:=eq_true q155
          go_wp2
          repeat (go_quiet (fail);try go_wp2)
          go_roundg k2
          case measure=>have:=HJ2.out;have:=HK2.out;omega
          case rel=>exact ⟨(wrap64 (x5_2 + 1)),(by first|rfl|(simp;done)|(simp [*];done)),H',⟨by have:=HJ2.out;have:=HK2.out;omega⟩,⟨by (with_reducible repeat (first|apply blk_drewN|apply blk_drew|apply blk_alloc));exact BK152.out⟩,⟨by (with_reducible repeat (first|apply blk_drewN|apply blk_drew|apply blk_alloc));exact BK153.out⟩,⟨by repeat (first|(with_reducible first|exact HB.out|apply below_alloc|apply pw_below_drewN|apply below_drew1|refine below_set ?_ GE152.out|refine below_set ?_ GE153.out)|exact HB.out)⟩⟩
        ·rw [if_neg c16] at H
         exact absurd H (by simp)
       ·rw [if_neg c15] at H
        exact absurd H (by simp)
      ·rw [if_neg c14] at H
       have c14b0 : decide (x5_2 < (l0_1.length : Int)) = false:=decide_eq_false c14
       clear c14
       obtain rfl:=Option.some.inj H
       have hnb24:=NB152_153.out
       have hnc24:=NB153_152.out
       have hcz25_0 : wr.cell? ⟨gb152,0,none⟩ = some (.int .u32 a0_0):=(blk_cell BK152.out 0).trans rfl
       have hcz25_1 : wr.cell? ⟨gb152,1,none⟩ = some (.slice A0_1 l0_1.length c0_1):=(blk_cell BK152.out 1).trans rfl
       have hfz25_0:=blk_frozen BK152.out 0
       have hfz25_1:=blk_frozen BK152.out 1
       go_wp2
       repeat (go_quiet (fail);try go_wp2)
       go_ret
       exact ⟨by first|rfl|(simp [errW_none,errW_some] <;> rfl)|(simp [*,errW_none,errW_some] <;> rfl),by repeat (first|(with_reducible first|exact HB.out|apply below_alloc|apply pw_below_drewN|apply below_drew1|refine below_set ?_ GE152.out|refine below_set ?_ GE153.out)|exact HB.out)⟩

/-- A state of type 86 at block g of W; what its slices lead to came in by w0. -/
def IsS86 (w0 W : World) (g : Nat) (f0 : ByteArray) (f1 : Int) : Prop:=W.heap[g]? = some (.cells #[.string f0,.int .i64 f1] 86 (0,0)) ∧ w0.heap.size ≤ g
theorem IsS86.grown {w0 W : World} {g : Nat} {f0 : ByteArray} {f1 : Int} {W1 : World} {row : Option Nat} (h : IsS86 w0 W g f0 f1) (hw : W.grownBy W1 row) (hne : some g ≠ row) : IsS86 w0 W1 g f0 f1:=by
 obtain ⟨hb,hg⟩:=h
 exact ⟨blk_grown hb hw hne,hg⟩
theorem IsS86.own_neN {w0 W : World} {g : Nat} {f0 : ByteArray} {f1 : Int} {α : Type} {d : Kd α} {e : Nat} {base : Nat} {ok : Nat → Prop} {v : Value} {xs : List α} (h : IsS86 w0 W g f0 f1) (ho : Kd.N d e W base ok v xs) (ht : e ≠ 86) : some g ≠ v.ownBlock:=by
 obtain ⟨hb,hg⟩:=h
 exact Kd.N_ne ho hb ht
theorem IsS86.fresh {w0 W : World} {g : Nat} {f0 : ByteArray} {f1 : Int} (h : IsS86 w0 W g f0 f1) : ∀ k,W.heap.size ≤ k → k ≠ g:=by
 obtain ⟨hb,hg⟩:=h
 exact Kd.freshB hb
theorem IsS86.kept {w0 W : World} {g : Nat} {f0 : ByteArray} {f1 : Int} {W1 : World} {S : Nat → Prop} (h : IsS86 w0 W g f0 f1) (hk : Kept W W1 S) (hne : ¬ S g) : IsS86 w0 W1 g f0 f1:=by
 obtain ⟨hb,hg⟩:=h
 exact ⟨blk_kept hb hk hne,hg⟩
theorem IsS86.below {w0 W : World} {g : Nat} {f0 : ByteArray} {f1 : Int} {W1 : World} (h : IsS86 w0 W g f0 f1) (hw : Below W.heap.size W W1) : IsS86 w0 W1 g f0 f1:=h.grown (grown_of_below hw none) (by simp)
theorem IsS86.alloc {w0 W : World} {g : Nat} {f0 : ByteArray} {f1 : Int} (h : IsS86 w0 W g f0 f1) (o : Obj) : IsS86 w0 (W.alloc o) g f0 f1:=h.below (below_alloc (Below.refl _ _) o)
theorem IsS86.drewN {w0 W : World} {g : Nat} {f0 : ByteArray} {f1 : Int} (h : IsS86 w0 W g f0 f1) (m : Nat) : IsS86 w0 (W.drewN m) g f0 f1:=h
theorem IsS86.drew {w0 W : World} {g : Nat} {f0 : ByteArray} {f1 : Int} (h : IsS86 w0 W g f0 f1) : IsS86 w0 W.drew g f0 f1:=h
theorem IsS86.at_ {w0 W : World} {g : Nat} {f0 : ByteArray} {f1 : Int} {w' : World} {m : Nat} (hq : W.drewN m = w') (h : IsS86 w0 W g f0 f1) : IsS86 w0 w' g f0 f1:=by subst hq;exact IsS86.drewN h m
theorem IsS86.apart {w0 W : World} {g : Nat} {f0 : ByteArray} {f1 : Int} {α : Type} {d : Kd α} {e : Nat} {base : Nat} {ok : Nat → Prop} {v : Value} {xs : List α} (h : IsS86 w0 W g f0 f1) (ho : d.R e W base ok v xs) (ht : ∀ q,q ∈ e :: d.E → q ≠ 86) : d.R e W base (fun k=>ok k ∧ k ≠ g) v xs:=by
 obtain ⟨hb,hg⟩:=h
 exact Kd.R_types ho hb ht
theorem IsS86.own_ne {w0 W : World} {g : Nat} {f0 : ByteArray} {f1 : Int} {α : Type} {d : Kd α} {e : Nat} {base : Nat} {ok : Nat → Prop} {v : Value} {xs : List α} (h : IsS86 w0 W g f0 f1) (ho : d.R e W base ok v xs) (ht : e ≠ 86) : some g ≠ v.ownBlock:=by
 obtain ⟨hb,hg⟩:=h
 exact Kd.R_ne ho hb ht
theorem IsS86.apartQ {w0 W : World} {g : Nat} {f0 : ByteArray} {f1 : Int} {α : Type} {d : Kd α} {e : Nat} {base : Nat} {ok : Nat → Prop} {v : Value} {xs : List α} (h : IsS86 w0 W g f0 f1) (ho : d.Q e W base ok v xs) (ht : ∀ q,q ∈ e :: d.E → q ≠ 86) : d.Q e W base (fun k=>ok k ∧ k ≠ g) v xs:=by
 obtain ⟨hb,hg⟩:=h
 exact Kd.Q_types ho hb ht
theorem IsS86.own_neQ {w0 W : World} {g : Nat} {f0 : ByteArray} {f1 : Int} {α : Type} {d : Kd α} {e : Nat} {base : Nat} {ok : Nat → Prop} {v : Value} {xs : List α} (h : IsS86 w0 W g f0 f1) (ho : d.Q e W base ok v xs) (ht : e ≠ 86) : some g ≠ v.ownBlock:=by
 obtain ⟨hb,hg⟩:=h
 exact Kd.Q_ne ho hb ht
theorem IsS86.apartS {w0 W : World} {g : Nat} {f0 : ByteArray} {f1 : Int} {α : Type} {d : Kd α} {e : Nat} {base : Nat} {ok : Nat → Prop} {v : Value} {xs : List α} (h : IsS86 w0 W g f0 f1) (ho : d.S e W base ok v xs) (ht : ∀ q,q ∈ e :: d.E → q ≠ 86) : d.S e W base (fun k=>ok k ∧ k ≠ g) v xs:=by
 obtain ⟨hb,hg⟩:=h
 exact Kd.S_types ho hb ht
theorem IsS86.own_neS {w0 W : World} {g : Nat} {f0 : ByteArray} {f1 : Int} {α : Type} {d : Kd α} {e : Nat} {base : Nat} {ok : Nat → Prop} {v : Value} {xs : List α} (h : IsS86 w0 W g f0 f1) (ho : d.S e W base ok v xs) (ht : e ≠ 86) : some g ≠ v.ownBlock:=by
 obtain ⟨hb,hg⟩:=h
 exact Kd.S_ne ho hb ht
theorem IsS86.lt {w0 W : World} {g : Nat} {f0 : ByteArray} {f1 : Int} (h : IsS86 w0 W g f0 f1) : g < W.heap.size:=by
 obtain ⟨hb,hg⟩:=h
 exact blk_lt hb
theorem IsS86.ge {w0 W : World} {g : Nat} {f0 : ByteArray} {f1 : Int} (h : IsS86 w0 W g f0 f1) : w0.heap.size ≤ g:=by
 obtain ⟨hb,hg⟩:=h
 exact hg
theorem IsS86.ne_blk {w0 W : World} {g : Nat} {f0 : ByteArray} {f1 : Int} {a : Nat} {cs : Array Value} {t : TypeId} {fr : Nat × Nat} (h : IsS86 w0 W g f0 f1) (hb2 : W.heap[a]? = some (.cells cs t fr)) (ht : t ≠ 86) : g ≠ a:=by
 obtain ⟨hb,hg⟩:=h
 rintro rfl
 rw [hb] at hb2
 injection hb2 with hb2
 injection hb2 with _ ht2
 exact ht ht2.symm
theorem IsS86.far {w0 W : World} {g : Nat} {f0 : ByteArray} {f1 : Int} {p : Addr} (h : IsS86 w0 W g f0 f1) (hne : g ≠ p.block) (u : Value) : IsS86 w0 (W.setCell p u) g f0 f1:=by
 obtain ⟨hb,hg⟩:=h
 exact ⟨blk_far hb hne u,hg⟩
theorem cellS86_0 {W : World} {g : Nat} {f0 : ByteArray} {f1 : Int} (h : W.heap[g]? = some (.cells #[.string f0,.int .i64 f1] 86 (0,0))) : W.cell? ⟨g,0,none⟩ = some (.string f0):=(blk_cell h 0).trans rfl
theorem IsS86.set_0 {w0 W : World} {g : Nat} {f0 : ByteArray} {f1 : Int} (h : IsS86 w0 W g f0 f1) (x : ByteArray) : IsS86 w0 (W.setCell ⟨g,0,none⟩ (.string x)) g x f1:=by
 obtain ⟨hb,hg⟩:=h
 exact ⟨by simpa using blk_set hb 0 (.string x),hg⟩
theorem cellS86_1 {W : World} {g : Nat} {f0 : ByteArray} {f1 : Int} (h : W.heap[g]? = some (.cells #[.string f0,.int .i64 f1] 86 (0,0))) : W.cell? ⟨g,1,none⟩ = some (.int .i64 f1):=(blk_cell h 1).trans rfl
theorem IsS86.set_1 {w0 W : World} {g : Nat} {f0 : ByteArray} {f1 : Int} (h : IsS86 w0 W g f0 f1) (x : Int) : IsS86 w0 (W.setCell ⟨g,1,none⟩ (.int .i64 x)) g f0 x:=by
 obtain ⟨hb,hg⟩:=h
 exact ⟨by simpa using blk_set hb 1 (.int .i64 x),hg⟩
theorem IsS86.new (w0 W : World) (f0 : ByteArray) (f1 : Int) (hB : Below w0.heap.size w0 W) : IsS86 w0 (W.alloc (.cells #[.string f0,.int .i64 f1] 86)) W.heap.size f0 f1:=⟨by simpa using heap_alloc_new W _,hB.size⟩

/-! ### pack_Taker_bytes: function 77 -/
def pack_Taker_bytes.f (s0_0 : ByteArray) (s0_1 : Int) (a1 : Int) : Option (ByteArray × Bool × ByteArray × Int):=if s0_1 = 0 then (if a1 > (s0_0.size : Int) then (some ((⟨#[]⟩ : ByteArray),false,s0_0,1)) else (if 0 ≤ a1 then (if a1 ≤ (s0_0.size : Int) then (some (s0_0.extract 0 (a1 : Int).toNat,true,s0_0.extract (a1 : Int).toNat s0_0.size,s0_1)) else (none)) else (none))) else (some ((⟨#[]⟩ : ByteArray),false,s0_0,s0_1))
set_option maxHeartbeats 8000000 in
set_option maxRecDepth 100000 in
theorem pack_Taker_bytes.calls (g : Nat) (s0_0 : ByteArray) (s0_1 : Int) (a1 : Int) (r1 : ByteArray) (r2 : Bool) (r3 : ByteArray) (r4 : Int) (w0 w : World) (hI : IsS86 w0 w g s0_0 s0_1) (hB : Below w0.heap.size w0 w) (h : pack_Taker_bytes.f s0_0 s0_1 a1 = some (r1,r2,r3,r4)) :
  Calls Tryd.prog 77 #[.pointer (some ⟨g,0,none⟩),.int .i64 a1] w fun e w'=>e = .returned (.tuple #[.string r1,.bool r2]) ∧ IsS86 w0 w' g r3 r4 ∧ Below w0.heap.size w0 w' ∧ KeepBut w w' g none:=by
 have HI0:=Aside0.mk hI
 have HK:=Aside0.mk (KeepBut.refl w g none)
 have HL:=Aside0.mk hB.size
 clear hI
 have HW0:=Aside0.mk hB.size
 have HB:=Aside0.mk hB
 clear hB
 have H : (if s0_1 = 0 then (if a1 > (s0_0.size : Int) then (some ((⟨#[]⟩ : ByteArray),false,s0_0,1)) else (if 0 ≤ a1 then (if a1 ≤ (s0_0.size : Int) then (some (s0_0.extract 0 (a1 : Int).toNat,true,s0_0.extract (a1 : Int).toNat s0_0.size,s0_1)) else (none)) else (none))) else (some ((⟨#[]⟩ : ByteArray),false,s0_0,s0_1))) = some (r1,r2,r3,r4):=h
 clear h
 by_cases c3 : s0_1 = 0
 ·rw [if_pos c3] at H
  have c3b0 : (s0_1 == 0) = true:=beq_iff_eq.mpr c3
  have c3b1 : (s0_1 != 0) = false:=bne_eq_false_iff_eq.mpr c3
  clear c3
  by_cases c4 : a1 > (s0_0.size : Int)
  ·rw [if_pos c4] at H
   have c4b0 : decide ((s0_0.size : Int) < a1) = true:=decide_eq_true c4
   clear c4
   simp only [Option.some.injEq,Prod.mk.injEq] at H
   obtain ⟨rfl,rfl,rfl,rfl⟩:=H
   obtain ⟨HGz5,hgz5⟩:=HI0.out
   have hcz5_0:=cellS86_0 HGz5
   have hcz5_1:=cellS86_1 HGz5
   have hfz5_0:=blk_frozen HGz5 0
   have hfz5_1:=blk_frozen HGz5 1
   clear HGz5 hgz5
   go_enter Tryd.func77,Tryd.ntmps77
   go_wp2
   go_ret2
   exact ⟨by first|rfl|(simp [errW_none,errW_some] <;> rfl)|(simp [*,errW_none,errW_some] <;> rfl),by repeat (first|(with_reducible first|exact HI0.out|apply IsS86.alloc|apply IsS86.drewN|apply IsS86.drew|apply IsS86.set_0|apply IsS86.set_1)|exact HI0.out),by repeat (first|(with_reducible first|exact HB.out|apply below_alloc|apply pw_below_drewN|apply below_drew1|refine below_set ?_ (IsS86.ge HI0.out))|exact HB.out),by repeat (first|(with_reducible first|exact HK.out|apply KeepBut.set_|apply keep_drewN|apply keep_drew|apply keep_alloc)|exact HK.out)⟩
  ·rw [if_neg c4] at H
   have c4b0 : decide ((s0_0.size : Int) < a1) = false:=decide_eq_false c4
   clear c4
   by_cases c6 : 0 ≤ a1
   ·rw [if_pos c6] at H
    have c6b0:=eq_true c6
    have c6b1 : decide (0 ≤ a1) = true:=decide_eq_true c6
    clear c6
    by_cases c7 : a1 ≤ (s0_0.size : Int)
    ·rw [if_pos c7] at H
     have c7b0:=eq_true c7
     have c7b1 : decide (a1 ≤ (s0_0.size : Int)) = true:=decide_eq_true c7
     clear c7
     have c8b0:=eq_true (of_decide_eq_true (by first|(with_reducible assumption)|assumption) : 0 ≤ a1)
     have c9b0:=eq_true (of_decide_eq_true (by first|(with_reducible assumption)|assumption) : a1 ≤ (s0_0.size : Int))
     simp only [Option.some.injEq,Prod.mk.injEq] at H
     obtain ⟨rfl,rfl,rfl,rfl⟩:=H
     obtain ⟨HGz10,hgz10⟩:=HI0.out
     have hcz10_0:=cellS86_0 HGz10
     have hcz10_1:=cellS86_1 HGz10
     have hfz10_0:=blk_frozen HGz10 0
     have hfz10_1:=blk_frozen HGz10 1
     clear HGz10 hgz10
     go_enter Tryd.func77,Tryd.ntmps77
     go_wp2
     go_ret2
     exact ⟨by first|rfl|(simp [errW_none,errW_some] <;> rfl)|(simp [*,errW_none,errW_some] <;> rfl),by repeat (first|(with_reducible first|exact HI0.out|apply IsS86.alloc|apply IsS86.drewN|apply IsS86.drew|apply IsS86.set_0|apply IsS86.set_1)|exact HI0.out),by repeat (first|(with_reducible first|exact HB.out|apply below_alloc|apply pw_below_drewN|apply below_drew1|refine below_set ?_ (IsS86.ge HI0.out))|exact HB.out),by repeat (first|(with_reducible first|exact HK.out|apply KeepBut.set_|apply keep_drewN|apply keep_drew|apply keep_alloc)|exact HK.out)⟩
    ·rw [if_neg c7] at H
     exact absurd H (by simp)
   ·rw [if_neg c6] at H
    exact absurd H (by simp)
 ·rw [if_neg c3] at H
  have c3b0 : (s0_1 == 0) = false:=beq_eq_false_iff_ne.mpr c3
  have c3b1 : (s0_1 != 0) = true:=bne_iff_ne.mpr c3
  simp only [Option.some.injEq,Prod.mk.injEq] at H
  obtain ⟨rfl,rfl,rfl,rfl⟩:=H
  obtain ⟨HGz11,hgz11⟩:=HI0.out
  have hcz11_0:=cellS86_0 HGz11
  have hcz11_1:=cellS86_1 HGz11
  have hfz11_0:=blk_frozen HGz11 0
  have hfz11_1:=blk_frozen HGz11 1
  clear HGz11 hgz11
  go_enter Tryd.func77,Tryd.ntmps77
  go_wp2
  go_ret2
  exact ⟨by first|rfl|(simp [errW_none,errW_some] <;> rfl)|(simp [*,errW_none,errW_some] <;> rfl),by repeat (first|(with_reducible first|exact HI0.out|apply IsS86.alloc|apply IsS86.drewN|apply IsS86.drew|apply IsS86.set_0|apply IsS86.set_1)|exact HI0.out),by repeat (first|(with_reducible first|exact HB.out|apply below_alloc|apply pw_below_drewN|apply below_drew1|refine below_set ?_ (IsS86.ge HI0.out))|exact HB.out),by repeat (first|(with_reducible first|exact HK.out|apply KeepBut.set_|apply keep_drewN|apply keep_drew|apply keep_alloc)|exact HK.out)⟩

end Go.Proofs.YtpmbdcljphpcnaaDoor.GCk
