/- Written by this session's own program (wip/gen.py) out of the translation: plain Lean functions of the Go functions, and proofs that the calls come to their answers. No conditions beside those in the statements. -/
import Derived.Test.YtpmbdcljphpcnaaDoorGCkx0
namespace Go.Proofs.YtpmbdcljphpcnaaDoor.GCk
open Go.RowKit Go.Proofs.YtpmbdcljphpcnaaDoorW.PrintWords Go.Proofs.YtpmbdcljphpcnaaDoorW.PrintLast
set_option linter.unusedVariables false
set_option linter.unusedSimpArgs false

/-! ### bosunlaw17_Of: function 11 -/
def bosunlaw17_Of.l0 : Nat → List (S66) → Int → Int → Int → List (S67) → Option (Int × (List (S67)))
 | 0,_,_,_,_,_=>none
 | k + 1,x10,x11,x12,x147000,x147001=>if x12 < x11 then (if 0 ≤ x12 then (if x12 < (x10.length : Int) then (if x147001.length < 2513169434916 then (bosunlaw17_Of.l0 k x10 x11 (wrap64 (x12 + 1)) x147000 (x147001 ++ [(⟨(rd_T66 x10 x12).f0,(rd_T66 x10 x12).f1,(rd_T66 x10 x12).f2,(rd_T66 x10 x12).f3⟩ : S67)])) else (none)) else (none)) else (none)) else (some (x147000,x147001))
def bosunlaw17_Of.f (k : Nat) (a0_0 : Int) (l0_1 : List (S66)) : Option (Int × (List (S67))):=bosunlaw17_Of.l0 k l0_1 (l0_1.length : Int) 0 a0_0 ([] : List (S67))
theorem bosunlaw17_Of.mono_l : ∀ k,(∀ y0 y1 y2 y3 y4,LeO (bosunlaw17_Of.l0 k y0 y1 y2 y3 y4) (bosunlaw17_Of.l0 (k + 1) y0 y1 y2 y3 y4))
 | 0=>fun _ _ _ _ _ r h=>by simp [bosunlaw17_Of.l0] at h
 | k + 1=>by
  have ih0:=bosunlaw17_Of.mono_l k
  ·intro y0 y1 y2 y3 y4
   unfold bosunlaw17_Of.l0
   repeat' first
   | (with_reducible exact ih0 _ _ _ _ _)
   | (with_reducible exact LeO.refl _)
   | (with_reducible exact LeO.none _)
   | (with_reducible refine LeO.ite ?_ ?_)
   | (with_reducible refine LeO.bind ?_ (fun _=>?_))
   | exact ih0 _ _ _ _ _
   | exact LeO.none _
   | refine LeO.ite ?_ ?_
   | refine LeO.bind ?_ (fun _=>?_)
theorem bosunlaw17_Of.mono : ∀ a0 a1 k,LeO (bosunlaw17_Of.f k a0 a1) (bosunlaw17_Of.f (k + 1) a0 a1):=by
 intro a0 a1 k
 have ih0:=bosunlaw17_Of.mono_l k
 unfold bosunlaw17_Of.f
 repeat' first
   | (with_reducible exact ih0 _ _ _ _ _)
   | (with_reducible exact LeO.refl _)
   | (with_reducible exact LeO.none _)
   | (with_reducible refine LeO.ite ?_ ?_)
   | (with_reducible refine LeO.bind ?_ (fun _=>?_))
   | exact ih0 _ _ _ _ _
   | exact LeO.none _
   | refine LeO.ite ?_ ?_
   | refine LeO.bind ?_ (fun _=>?_)
set_option maxHeartbeats 8000000 in
set_option maxRecDepth 100000 in
theorem bosunlaw17_Of.calls (k : Nat) (a0_0 : Int) (A0_1 : Option Addr) (c0_1 : Nat) (l0_1 : List (S66)) (r1 : Int) (r2 : List (S67)) (w : World) (hr0_1 : Kd.C k66 w A0_1 l0_1.length l0_1) (hc0_1 : l0_1.length ≤ c0_1) (h : bosunlaw17_Of.f k a0_0 l0_1 = some (r1,r2)) :
  Calls Tryd.prog 11 #[.agg #[.int .u32 a0_0,.slice A0_1 l0_1.length c0_1]] w fun e w'=>∃ v1_ : Value,e = .returned (.agg #[.int .u32 r1,v1_]) ∧ Kd.R k67 67 w' w.heap.size (fun _=>True) v1_ r2 ∧ Below w.heap.size w w':=by
 have hu25:=Tryd.underlying25
 have hu30:=Tryd.underlying30
 have hu66:=Tryd.underlying66
 have HR0_1:=Aside0.mk hr0_1
 have HC0_1:=Aside0.mk hc0_1
 clear hr0_1 hc0_1
 have HB:=Aside0.mk (Below.refl w.heap.size w)
 have H : (bosunlaw17_Of.l0 k l0_1 (l0_1.length : Int) 0 a0_0 ([] : List (S67))) = some (r1,r2):=h
 clear h
 have H':=Aside0.mk H
 clear H
 go_enter Tryd.func11,Tryd.ntmps11
 go_wp2_with (first|((with_reducible refine gate_dst (N:=1) rfl ?_);refine box_event ?hg (N:=1) ?hd (cs:=#[.int .u32 a0_0,.slice A0_1 l0_1.length c0_1]) (t:=25) ?hr ?_;(case hd=>rfl);(case hg=>rfl);(case hr=>first|(go_simp;done)|(go_simp;rfl));intro gb144 hg w2 hbox hb;have n0_:=Aside0.mk (below_step (by repeat (first|(with_reducible first|exact HB.out|apply below_alloc|apply pw_below_drewN|apply below_drew1)|exact HB.out)) hb);have n1_:=Aside0.mk (hbox);have n2_:=Aside0.mk ((by rw [hg];exact (below_size (by repeat (first|(with_reducible first|exact HB.out|apply below_alloc|apply pw_below_drewN|apply below_drew1)|exact HB.out))) : w.heap.size ≤ gb144));have n3_:=Aside0.mk ((by rw [hg];exact (below_size (by repeat (first|(with_reducible first|exact HB.out|apply below_alloc|apply pw_below_drewN|apply below_drew1)|exact HB.out))) : w.heap.size ≤ gb144));clear HB;have HB:=n0_;have BK144:=n1_;have GW144:=n2_;have GE144:=n3_;clear n0_ n1_ n2_ n3_;clear hb hbox hg)|((with_reducible refine gate_dst (N:=2) rfl ?_);refine box_event ?hg (N:=2) ?hd (cs:=#[.int .u32 0,.slice none 0 0]) (t:=30) ?hr ?_;(case hd=>rfl);(case hg=>rfl);(case hr=>first|(go_simp;done)|(go_simp;rfl));intro gb145 hg w3 hbox hb;have n0_:=Aside0.mk (blk_below (g:=gb144) (o:=.cells #[.int .u32 a0_0,.slice A0_1 l0_1.length c0_1] 25 (0,0)) (by (with_reducible repeat (first|apply blk_drewN|apply blk_drew|apply blk_alloc));exact BK144.out) hb);have n1_:=Aside0.mk (below_step (by repeat (first|(with_reducible first|exact HB.out|apply below_alloc|apply pw_below_drewN|apply below_drew1|refine below_set ?_ GE144.out)|exact HB.out)) hb);have n2_:=Aside0.mk (hbox);have n3_:=Aside0.mk ((by rw [hg];exact (below_size (by repeat (first|(with_reducible first|exact HB.out|apply below_alloc|apply pw_below_drewN|apply below_drew1|refine below_set ?_ GE144.out)|exact HB.out))) : w.heap.size ≤ gb145));have n4_:=Aside0.mk ((by rw [hg];exact (below_size (by repeat (first|(with_reducible first|exact HB.out|apply below_alloc|apply pw_below_drewN|apply below_drew1|refine below_set ?_ GE144.out)|exact HB.out))) : w.heap.size ≤ gb145));have n5_:=Aside0.mk ((by rw [hg];exact Nat.ne_of_lt (blk_lt (g:=gb144) (o:=.cells #[.int .u32 a0_0,.slice A0_1 l0_1.length c0_1] 25 (0,0)) (by (with_reducible repeat (first|apply blk_drewN|apply blk_drew|apply blk_alloc));exact BK144.out)) : gb144 ≠ gb145));have n6_:=Aside0.mk ((by rw [hg];exact Nat.ne_of_gt (blk_lt (g:=gb144) (o:=.cells #[.int .u32 a0_0,.slice A0_1 l0_1.length c0_1] 25 (0,0)) (by (with_reducible repeat (first|apply blk_drewN|apply blk_drew|apply blk_alloc));exact BK144.out)) : gb145 ≠ gb144));clear BK144;clear HB;have BK144:=n0_;have HB:=n1_;have BK145:=n2_;have GW145:=n3_;have GE145:=n4_;have NB144_145:=n5_;have NB145_144:=n6_;clear n0_ n1_ n2_ n3_ n4_ n5_ n6_;clear hb hbox hg;have hnb4:=NB144_145.out;have hnc4:=NB145_144.out;have hcz5_0 : w3.cell? ⟨gb144,0,none⟩ = some (.int .u32 a0_0):=(blk_cell BK144.out 0).trans rfl;have hcz5_1 : w3.cell? ⟨gb144,1,none⟩ = some (.slice A0_1 l0_1.length c0_1):=(blk_cell BK144.out 1).trans rfl;have hfz5_0:=blk_frozen BK144.out 0;have hfz5_1:=blk_frozen BK144.out 1)|((with_reducible refine gate_dst (N:=3) rfl ?_);refine box_event ?hg (N:=3) ?hd (cs:=#[.int .u32 0,.slice none 0 0]) (t:=30) ?hr ?_;(case hd=>rfl);(case hg=>rfl);(case hr=>first|(go_simp;done)|(go_simp;rfl));intro gb146 hg w6 hbox hb;have n0_:=Aside0.mk (blk_below (g:=gb144) (o:=.cells #[.int .u32 a0_0,.slice A0_1 l0_1.length c0_1] 25 (0,0)) (by (with_reducible repeat (first|apply blk_drewN|apply blk_drew|apply blk_alloc));exact BK144.out) hb);have n1_:=Aside0.mk (blk_below (g:=gb145) (o:=.cells #[.int .u32 0,.slice none 0 0] 30 (0,0)) (by (with_reducible repeat (first|apply blk_drewN|apply blk_drew|apply blk_alloc));exact BK145.out) hb);have n2_:=Aside0.mk (below_step (by repeat (first|(with_reducible first|exact HB.out|apply below_alloc|apply pw_below_drewN|apply below_drew1|refine below_set ?_ GE144.out|refine below_set ?_ GE145.out)|exact HB.out)) hb);have n3_:=Aside0.mk (hbox);have n4_:=Aside0.mk ((by rw [hg];exact (below_size (by repeat (first|(with_reducible first|exact HB.out|apply below_alloc|apply pw_below_drewN|apply below_drew1|refine below_set ?_ GE144.out|refine below_set ?_ GE145.out)|exact HB.out))) : w.heap.size ≤ gb146));have n5_:=Aside0.mk ((by rw [hg];exact (below_size (by repeat (first|(with_reducible first|exact HB.out|apply below_alloc|apply pw_below_drewN|apply below_drew1|refine below_set ?_ GE144.out|refine below_set ?_ GE145.out)|exact HB.out))) : w.heap.size ≤ gb146));have n6_:=Aside0.mk ((by rw [hg];exact Nat.ne_of_lt (blk_lt (g:=gb144) (o:=.cells #[.int .u32 a0_0,.slice A0_1 l0_1.length c0_1] 25 (0,0)) (by (with_reducible repeat (first|apply blk_drewN|apply blk_drew|apply blk_alloc));exact BK144.out)) : gb144 ≠ gb146));have n7_:=Aside0.mk ((by rw [hg];exact Nat.ne_of_gt (blk_lt (g:=gb144) (o:=.cells #[.int .u32 a0_0,.slice A0_1 l0_1.length c0_1] 25 (0,0)) (by (with_reducible repeat (first|apply blk_drewN|apply blk_drew|apply blk_alloc));exact BK144.out)) : gb146 ≠ gb144));have n8_:=Aside0.mk ((by rw [hg];exact Nat.ne_of_lt (blk_lt (g:=gb145) (o:=.cells #[.int .u32 0,.slice none 0 0] 30 (0,0)) (by (with_reducible repeat (first|apply blk_drewN|apply blk_drew|apply blk_alloc));exact BK145.out)) : gb145 ≠ gb146));have n9_:=Aside0.mk ((by rw [hg];exact Nat.ne_of_gt (blk_lt (g:=gb145) (o:=.cells #[.int .u32 0,.slice none 0 0] 30 (0,0)) (by (with_reducible repeat (first|apply blk_drewN|apply blk_drew|apply blk_alloc));exact BK145.out)) : gb146 ≠ gb145));clear BK144;clear BK145;clear HB;have BK144:=n0_;have BK145:=n1_;have HB:=n2_;have BK146:=n3_;have GW146:=n4_;have GE146:=n5_;have NB144_146:=n6_;have NB146_144:=n7_;have NB145_146:=n8_;have NB146_145:=n9_;clear n0_ n1_ n2_ n3_ n4_ n5_ n6_ n7_ n8_ n9_;clear hb hbox hg;have hnb7:=NB146_144.out;have hnc7:=NB144_146.out;have hnb8:=NB146_145.out;have hnc8:=NB145_146.out;have hcz9_0 : w6.cell? ⟨gb146,0,none⟩ = some (.int .u32 0):=(blk_cell BK146.out 0).trans rfl;have hcz9_1 : w6.cell? ⟨gb146,1,none⟩ = some (.slice none 0 0):=(blk_cell BK146.out 1).trans rfl;have hfz9_0:=blk_frozen BK146.out 0;have hfz9_1:=blk_frozen BK146.out 1;have hcz10_0 : w6.cell? ⟨gb144,0,none⟩ = some (.int .u32 a0_0):=(blk_cell BK144.out 0).trans rfl;have hcz10_1 : w6.cell? ⟨gb144,1,none⟩ = some (.slice A0_1 l0_1.length c0_1):=(blk_cell BK144.out 1).trans rfl;have hfz10_0:=blk_frozen BK144.out 0;have hfz10_1:=blk_frozen BK144.out 1))
 go_loopg [12] k (fun kq v12 w'=>∃ (x12_1 : Int) (x147001_1 : List (S67)) (u147001 : Value),v12 = .int .i64 x12_1 ∧ Aside0 (bosunlaw17_Of.l0 kq l0_1 (l0_1.length : Int) x12_1 a0_0 x147001_1 = some (r1,r2)) ∧ Aside0 (kq ≤ k) ∧ Aside0 (Kd.R k67 67 w' w.heap.size (fun _=>True) u147001 x147001_1) ∧ Aside0 (w'.heap[gb144]? = some (.cells #[.int .u32 a0_0,(.slice A0_1 l0_1.length c0_1)] 25 (0,0))) ∧ Aside0 (w'.heap[gb145]? = some (.cells #[.int .u32 0,(.slice none 0 0)] 30 (0,0))) ∧ Aside0 (w'.heap[gb146]? = some (.cells #[.int .u32 a0_0,u147001] 30 (0,0))) ∧ Aside0 (Below w.heap.size w w'))
 case atStart=>exact ⟨(0),(([] : List (S67))),(.slice none 0 0),(by first|rfl|(simp;done)|(simp [*];done)),H',⟨Nat.le_refl _⟩,⟨by first|exact Kd.R_nil _ _ _ _ _|exact Kd.N_nil _ _ _ _ _|exact Kd.V_nil _ _ _ _ _|exact Kd.Q_nil _ _ _ _ _|exact Kd.S_nil _ _ _ _ _⟩,⟨by (with_reducible repeat (first|apply blk_drewN|apply blk_drew|apply blk_alloc));refine blk_far ?_ NB144_146.out _;(with_reducible repeat (first|apply blk_drewN|apply blk_drew|apply blk_alloc));refine blk_far ?_ NB144_146.out _;(with_reducible repeat (first|apply blk_drewN|apply blk_drew|apply blk_alloc));exact BK144.out⟩,⟨by (with_reducible repeat (first|apply blk_drewN|apply blk_drew|apply blk_alloc));refine blk_far ?_ NB145_146.out _;(with_reducible repeat (first|apply blk_drewN|apply blk_drew|apply blk_alloc));refine blk_far ?_ NB145_146.out _;(with_reducible repeat (first|apply blk_drewN|apply blk_drew|apply blk_alloc));exact BK145.out⟩,⟨by (with_reducible repeat (first|apply blk_drewN|apply blk_drew|apply blk_alloc));refine blk_put (cs:=#[.int .u32 a0_0,.slice none 0 0]) ?_ 1 _ rfl;(with_reducible repeat (first|apply blk_drewN|apply blk_drew|apply blk_alloc));refine blk_put (cs:=#[.int .u32 0,.slice none 0 0]) ?_ 0 _ rfl;(with_reducible repeat (first|apply blk_drewN|apply blk_drew|apply blk_alloc));exact BK146.out⟩,⟨by repeat (first|(with_reducible first|exact HB.out|apply below_alloc|apply pw_below_drewN|apply below_drew1|refine below_set ?_ GE144.out|refine below_set ?_ GE145.out|refine below_set ?_ GE146.out)|exact HB.out)⟩⟩
 case round =>
  clear H'
  try clear c1
  try clear p2
  try clear c4
  try clear c7
  try clear c8
  try clear hcz10_0
  try clear hcz10_1
  try clear hcz5_0
  try clear hcz5_1
  try clear hcz9_0
  try clear hcz9_1
  try clear hfz10_0
  try clear hfz10_1
  try clear hfz5_0
  try clear hfz5_1
  try clear hfz9_0
  try clear hfz9_1
  obtain ⟨x12_1,x147001_1,u147001,rfl,HA,HK1,HO_147001,BK144,BK145,BK146,HB⟩:=hrel
  cases gk with
  | zero=>exact absurd HA.out (by simp [bosunlaw17_Of.l0])
  | succ k1 =>
   have H:=HA.out
   clear HA
   simp only [bosunlaw17_Of.l0] at H
   by_cases c11 : x12_1 < (l0_1.length : Int)
   ·rw [if_pos c11] at H
    have c11b0 : decide (x12_1 < (l0_1.length : Int)) = true:=decide_eq_true c11
    clear c11
    by_cases c12 : 0 ≤ x12_1
    ·rw [if_pos c12] at H
     have c12b0 : decide (0 ≤ x12_1) = true:=decide_eq_true c12
     clear c12
     by_cases c13 : x12_1 < (l0_1.length : Int)
     ·rw [if_pos c13] at H
      have c13b0 : decide (x12_1 < (l0_1.length : Int)) = true:=decide_eq_true c13
      clear c13
      by_cases c14 : x147001_1.length < 2513169434916
      ·rw [if_pos c14] at H
       have LMc14:=Aside0.mk c14
       clear c14
       obtain ⟨y149,hy149⟩ : ∃ y_ : List (S67),y_ = (x147001_1 ++ [(⟨(rd_T66 l0_1 x12_1).f0,(rd_T66 l0_1 x12_1).f1,(rd_T66 l0_1 x12_1).f2,(rd_T66 l0_1 x12_1).f3⟩ : S67)]):=⟨_,rfl⟩
       replace H : (bosunlaw17_Of.l0 k1 l0_1 (l0_1.length : Int) (wrap64 (x12_1 + 1)) a0_0 y149) = some (r1,r2):=by first|(rw [hy149];with_reducible exact H)|(have H2_:=(Option.bind_some _ _).symm.trans H;rw [hy149];with_reducible exact H2_)|(have H2_:=(Option.bind_some _ _).symm.trans H;with_reducible exact H2_)|with_reducible exact H|(rw [hy149];exact H)|exact H
       have Ny149:=Aside0.mk hy149
       clear hy149
       have H':=Aside0.mk H
       clear H
       have p147 : 0 ≤ (x12_1 : Int):=of_decide_eq_true (by first|(with_reducible assumption)|assumption)
       have q147 : x12_1 < (l0_1.length : Int):=of_decide_eq_true (by first|(with_reducible assumption)|assumption)
       obtain ⟨ad147,e147,hx147_0,hx147_1,hx147_2,hx147_3⟩:=at_T66 HR0_1.out x12_1 p147 q147
       cases e147
       replace hx147_0:=(HB.out.cell (World.block_lt_of_cell? w _ hx147_0)).trans hx147_0
       replace hx147_1:=(HB.out.cell (World.block_lt_of_cell? w _ hx147_1)).trans hx147_1
       replace hx147_2:=(HB.out.cell (World.block_lt_of_cell? w _ hx147_2)).trans hx147_2
       replace hx147_3:=(HB.out.cell (World.block_lt_of_cell? w _ hx147_3)).trans hx147_3
       replace p147:=eq_true p147
       replace q147:=eq_true q147
       go_wp2_with (first|((with_reducible refine gate_dst (N:=5) rfl ?_);refine box_event ?hg (N:=5) ?hd (cs:=#[.string (⟨#[]⟩ : ByteArray),.string (⟨#[]⟩ : ByteArray),.string (⟨#[]⟩ : ByteArray),.int .u8 0]) (t:=66) ?hr ?_;(case hd=>rfl);(case hg=>rfl);(case hr=>first|(go_simp;done)|(go_simp;rfl));intro gb148 hg w15 hbox hb;have n0_:=Aside0.mk (Kd.R_below (by (with_reducible repeat (first|apply Kd.R_alloc|apply Kd.R_drewN|apply Kd.R_drew));exact HO_147001.out) hb);have n1_:=Aside0.mk (blk_below (g:=gb144) (o:=.cells #[.int .u32 a0_0,.slice (some ad147) l0_1.length c0_1] 25 (0,0)) (by (with_reducible repeat (first|apply blk_drewN|apply blk_drew|apply blk_alloc));exact BK144.out) hb);have n2_:=Aside0.mk (blk_below (g:=gb145) (o:=.cells #[.int .u32 0,.slice none 0 0] 30 (0,0)) (by (with_reducible repeat (first|apply blk_drewN|apply blk_drew|apply blk_alloc));exact BK145.out) hb);have n3_:=Aside0.mk (blk_below (g:=gb146) (o:=.cells #[.int .u32 a0_0,u147001] 30 (0,0)) (by (with_reducible repeat (first|apply blk_drewN|apply blk_drew|apply blk_alloc));exact BK146.out) hb);have n4_:=Aside0.mk (below_step (by repeat (first|(with_reducible first|exact HB.out|apply below_alloc|apply pw_below_drewN|apply below_drew1|refine below_set ?_ GE144.out|refine below_set ?_ GE145.out|refine below_set ?_ GE146.out)|exact HB.out)) hb);have n5_:=Aside0.mk (hbox);have n6_:=Aside0.mk ((by rw [hg];exact (below_size (by repeat (first|(with_reducible first|exact HB.out|apply below_alloc|apply pw_below_drewN|apply below_drew1|refine below_set ?_ GE144.out|refine below_set ?_ GE145.out|refine below_set ?_ GE146.out)|exact HB.out))) : w.heap.size ≤ gb148));have n7_:=Aside0.mk ((by rw [hg];exact (below_size (by repeat (first|(with_reducible first|exact HB.out|apply below_alloc|apply pw_below_drewN|apply below_drew1|refine below_set ?_ GE144.out|refine below_set ?_ GE145.out|refine below_set ?_ GE146.out)|exact HB.out))) : w.heap.size ≤ gb148));have n8_:=Aside0.mk ((by rw [hg];exact Nat.ne_of_lt (blk_lt (g:=gb144) (o:=.cells #[.int .u32 a0_0,.slice (some ad147) l0_1.length c0_1] 25 (0,0)) (by (with_reducible repeat (first|apply blk_drewN|apply blk_drew|apply blk_alloc));exact BK144.out)) : gb144 ≠ gb148));have n9_:=Aside0.mk ((by rw [hg];exact Nat.ne_of_gt (blk_lt (g:=gb144) (o:=.cells #[.int .u32 a0_0,.slice (some ad147) l0_1.length c0_1] 25 (0,0)) (by (with_reducible repeat (first|apply blk_drewN|apply blk_drew|apply blk_alloc));exact BK144.out)) : gb148 ≠ gb144));have n10_:=Aside0.mk ((by rw [hg];exact Nat.ne_of_lt (blk_lt (g:=gb145) (o:=.cells #[.int .u32 0,.slice none 0 0] 30 (0,0)) (by (with_reducible repeat (first|apply blk_drewN|apply blk_drew|apply blk_alloc));exact BK145.out)) : gb145 ≠ gb148));have n11_:=Aside0.mk ((by rw [hg];exact Nat.ne_of_gt (blk_lt (g:=gb145) (o:=.cells #[.int .u32 0,.slice none 0 0] 30 (0,0)) (by (with_reducible repeat (first|apply blk_drewN|apply blk_drew|apply blk_alloc));exact BK145.out)) : gb148 ≠ gb145));have n12_:=Aside0.mk ((by rw [hg];exact Nat.ne_of_lt (blk_lt (g:=gb146) (o:=.cells #[.int .u32 a0_0,u147001] 30 (0,0)) (by (with_reducible repeat (first|apply blk_drewN|apply blk_drew|apply blk_alloc));exact BK146.out)) : gb146 ≠ gb148));have n13_:=Aside0.mk ((by rw [hg];exact Nat.ne_of_gt (blk_lt (g:=gb146) (o:=.cells #[.int .u32 a0_0,u147001] 30 (0,0)) (by (with_reducible repeat (first|apply blk_drewN|apply blk_drew|apply blk_alloc));exact BK146.out)) : gb148 ≠ gb146));clear HO_147001;clear BK144;clear BK145;clear BK146;clear HB;have HO_147001:=n0_;have BK144:=n1_;have BK145:=n2_;have BK146:=n3_;have HB:=n4_;have BK148:=n5_;have GW148:=n6_;have GE148:=n7_;have NB144_148:=n8_;have NB148_144:=n9_;have NB145_148:=n10_;have NB148_145:=n11_;have NB146_148:=n12_;have NB148_146:=n13_;clear n0_ n1_ n2_ n3_ n4_ n5_ n6_ n7_ n8_ n9_ n10_ n11_ n12_ n13_;clear hb hbox hg;have hnb16:=NB148_144.out;have hnc16:=NB144_148.out;have hnb17:=NB148_145.out;have hnc17:=NB145_148.out;have hnb18:=NB148_146.out;have hnc18:=NB146_148.out;have hcz19_0 : w15.cell? ⟨gb148,0,none⟩ = some (.string (⟨#[]⟩ : ByteArray)):=(blk_cell BK148.out 0).trans rfl;have hcz19_1 : w15.cell? ⟨gb148,1,none⟩ = some (.string (⟨#[]⟩ : ByteArray)):=(blk_cell BK148.out 1).trans rfl;have hcz19_2 : w15.cell? ⟨gb148,2,none⟩ = some (.string (⟨#[]⟩ : ByteArray)):=(blk_cell BK148.out 2).trans rfl;have hcz19_3 : w15.cell? ⟨gb148,3,none⟩ = some (.int .u8 0):=(blk_cell BK148.out 3).trans rfl;have hfz19_0:=blk_frozen BK148.out 0;have hfz19_1:=blk_frozen BK148.out 1;have hfz19_2:=blk_frozen BK148.out 2;have hfz19_3:=blk_frozen BK148.out 3;have hnb20:=NB146_144.out;have hnc20:=NB144_146.out;have hnb21:=NB146_145.out;have hnc21:=NB145_146.out;have hcz22_0 : w15.cell? ⟨gb146,0,none⟩ = some (.int .u32 a0_0):=(blk_cell BK146.out 0).trans rfl;have hcz22_1 : w15.cell? ⟨gb146,1,none⟩ = some (u147001):=(blk_cell BK146.out 1).trans rfl;have hfz22_0:=blk_frozen BK146.out 0;have hfz22_1:=blk_frozen BK146.out 1)|((with_reducible refine gate_builtin (b:=.append) (xs:=#[.tmp 17,.tmp 19]) rfl ?_);at_builtin;refine Kd.R_append k67 (w0:=w) w.heap.size rfl (.tmp 17) (.tmp 19) 28 67 (.agg #[(.string ⟨#[]⟩),(.string ⟨#[]⟩),(.string ⟨#[]⟩),(.int .u8 0)]) 56 rfl Tryd.underlying28 info67 rfl (by decide) (by omega) u147001 x147001_1 (⟨(rd_T66 l0_1 x12_1).f0,(rd_T66 l0_1 x12_1).f1,(rd_T66 l0_1 x12_1).f2,(rd_T66 l0_1 x12_1).f3⟩ : S67) [.string ((rd_T66 l0_1 x12_1).f0),.string ((rd_T66 l0_1 x12_1).f1),.string ((rd_T66 l0_1 x12_1).f2),.int .u8 ((rd_T66 l0_1 x12_1).f3)] (fun _=>True) (fun _=>False) rfl (by first|(go_simp;done)|(go_simp;rfl)) ?aP (fun _ hk=>hk.elim) ?aF ?aO ?aB ?aS ?aL ?_;(case aP=>exact k67_mkM _ _ _ (⟨(rd_T66 l0_1 x12_1).f0,(rd_T66 l0_1 x12_1).f1,(rd_T66 l0_1 x12_1).f2,(rd_T66 l0_1 x12_1).f3⟩ : S67));(case aB=>exact (by repeat (first|(with_reducible first|exact HB.out|apply below_alloc|apply pw_below_drewN|apply below_drew1|refine below_set ?_ GE144.out|refine below_set ?_ GE145.out|refine below_set ?_ GE146.out|refine below_set ?_ GE148.out)|exact HB.out)));(case aF=>exact (fun _ _=>trivial));(case aO=>exact (by (with_reducible repeat (first|apply Kd.R_alloc|apply Kd.R_drewN|apply Kd.R_drew));exact Kd.R_mono (Kd.R_far (p:=⟨gb148,3,none⟩) (Kd.R_far (p:=⟨gb148,2,none⟩) (Kd.R_far (p:=⟨gb148,1,none⟩) (Kd.R_far (p:=⟨gb148,0,none⟩) (Kd.R_types HO_147001.out BK148.out (by decide)) (fun _ hk=>hk.2) (.string ((rd_T66 l0_1 x12_1).f0))) (fun _ hk=>hk.2) (.string ((rd_T66 l0_1 x12_1).f1))) (fun _ hk=>hk.2) (.string ((rd_T66 l0_1 x12_1).f2))) (fun _ hk=>hk.2) (.int .u8 ((rd_T66 l0_1 x12_1).f3))) (fun _ hk=>trivial)));(case aS=>exact (below_size (by repeat (first|(with_reducible first|exact HB.out|apply below_alloc|apply pw_below_drewN|apply below_drew1|refine below_set ?_ GE144.out|refine below_set ?_ GE145.out|refine below_set ?_ GE146.out|refine below_set ?_ GE148.out)|exact HB.out))));(case aL=>have:=LMc14.out;omega);intro v150 w23 ho hb hg hat;rw [← Ny149.out] at ho;have n0_:=Aside0.mk (blk_grown (g:=gb144) (o:=.cells #[.int .u32 a0_0,.slice (some ad147) l0_1.length c0_1] 25 (0,0)) (by (with_reducible repeat (first|apply blk_drewN|apply blk_drew|apply blk_alloc));refine blk_far ?_ NB144_148.out _;(with_reducible repeat (first|apply blk_drewN|apply blk_drew|apply blk_alloc));refine blk_far ?_ NB144_148.out _;(with_reducible repeat (first|apply blk_drewN|apply blk_drew|apply blk_alloc));refine blk_far ?_ NB144_148.out _;(with_reducible repeat (first|apply blk_drewN|apply blk_drew|apply blk_alloc));refine blk_far ?_ NB144_148.out _;(with_reducible repeat (first|apply blk_drewN|apply blk_drew|apply blk_alloc));exact BK144.out) hg (Kd.R_ne HO_147001.out BK144.out (by decide)));have n1_:=Aside0.mk (blk_grown (g:=gb145) (o:=.cells #[.int .u32 0,.slice none 0 0] 30 (0,0)) (by (with_reducible repeat (first|apply blk_drewN|apply blk_drew|apply blk_alloc));refine blk_far ?_ NB145_148.out _;(with_reducible repeat (first|apply blk_drewN|apply blk_drew|apply blk_alloc));refine blk_far ?_ NB145_148.out _;(with_reducible repeat (first|apply blk_drewN|apply blk_drew|apply blk_alloc));refine blk_far ?_ NB145_148.out _;(with_reducible repeat (first|apply blk_drewN|apply blk_drew|apply blk_alloc));refine blk_far ?_ NB145_148.out _;(with_reducible repeat (first|apply blk_drewN|apply blk_drew|apply blk_alloc));exact BK145.out) hg (Kd.R_ne HO_147001.out BK145.out (by decide)));have n2_:=Aside0.mk (blk_grown (g:=gb146) (o:=.cells #[.int .u32 a0_0,u147001] 30 (0,0)) (by (with_reducible repeat (first|apply blk_drewN|apply blk_drew|apply blk_alloc));refine blk_far ?_ NB146_148.out _;(with_reducible repeat (first|apply blk_drewN|apply blk_drew|apply blk_alloc));refine blk_far ?_ NB146_148.out _;(with_reducible repeat (first|apply blk_drewN|apply blk_drew|apply blk_alloc));refine blk_far ?_ NB146_148.out _;(with_reducible repeat (first|apply blk_drewN|apply blk_drew|apply blk_alloc));refine blk_far ?_ NB146_148.out _;(with_reducible repeat (first|apply blk_drewN|apply blk_drew|apply blk_alloc));exact BK146.out) hg (Kd.R_ne HO_147001.out BK146.out (by decide)));have n3_:=Aside0.mk (blk_grown (g:=gb148) (o:=.cells #[.string ((rd_T66 l0_1 x12_1).f0),.string ((rd_T66 l0_1 x12_1).f1),.string ((rd_T66 l0_1 x12_1).f2),.int .u8 ((rd_T66 l0_1 x12_1).f3)] 66 (0,0)) (by (with_reducible repeat (first|apply blk_drewN|apply blk_drew|apply blk_alloc));refine blk_put (cs:=#[.string ((rd_T66 l0_1 x12_1).f0),.string ((rd_T66 l0_1 x12_1).f1),.string ((rd_T66 l0_1 x12_1).f2),.int .u8 0]) ?_ 3 _ rfl;(with_reducible repeat (first|apply blk_drewN|apply blk_drew|apply blk_alloc));refine blk_put (cs:=#[.string ((rd_T66 l0_1 x12_1).f0),.string ((rd_T66 l0_1 x12_1).f1),.string (⟨#[]⟩ : ByteArray),.int .u8 0]) ?_ 2 _ rfl;(with_reducible repeat (first|apply blk_drewN|apply blk_drew|apply blk_alloc));refine blk_put (cs:=#[.string ((rd_T66 l0_1 x12_1).f0),.string (⟨#[]⟩ : ByteArray),.string (⟨#[]⟩ : ByteArray),.int .u8 0]) ?_ 1 _ rfl;(with_reducible repeat (first|apply blk_drewN|apply blk_drew|apply blk_alloc));refine blk_put (cs:=#[.string (⟨#[]⟩ : ByteArray),.string (⟨#[]⟩ : ByteArray),.string (⟨#[]⟩ : ByteArray),.int .u8 0]) ?_ 0 _ rfl;(with_reducible repeat (first|apply blk_drewN|apply blk_drew|apply blk_alloc));exact BK148.out) hg (Kd.R_ne HO_147001.out BK148.out (by decide)));have n4_:=Aside0.mk (hb);have n5_:=Aside0.mk (ho);clear BK144;clear BK145;clear BK146;clear BK148;clear HB;clear HO_147001;have BK144:=n0_;have BK145:=n1_;have BK146:=n2_;have BK148:=n3_;have HB:=n4_;have HO151:=n5_;clear n0_ n1_ n2_ n3_ n4_ n5_;clear ho hb hg hat;obtain ⟨Ao24,co24,eo24⟩:=Kd.R_slice HO151.out;subst eo24;have hcz25_0 : w23.cell? ⟨gb146,0,none⟩ = some (.int .u32 a0_0):=(blk_cell BK146.out 0).trans rfl;have hcz25_1 : w23.cell? ⟨gb146,1,none⟩ = some (u147001):=(blk_cell BK146.out 1).trans rfl;have hfz25_0:=blk_frozen BK146.out 0;have hfz25_1:=blk_frozen BK146.out 1))
       go_roundg k1
       case measure=>have:=HK1.out;omega
       case rel=>exact ⟨(wrap64 (x12_1 + 1)),(y149),(.slice Ao24 y149.length co24),(by first|rfl|(simp;done)|(simp [*];done)),H',⟨by have:=HK1.out;omega⟩,⟨by (with_reducible repeat (first|apply Kd.R_alloc|apply Kd.R_drewN|apply Kd.R_drew));exact Kd.R_mono (Kd.R_far (p:=⟨gb146,1,none⟩) (Kd.R_types HO151.out BK146.out (by decide)) (fun _ hk=>hk.2) (.slice Ao24 y149.length co24)) (fun _ hk=>trivial)⟩,⟨by (with_reducible repeat (first|apply blk_drewN|apply blk_drew|apply blk_alloc));refine blk_far ?_ NB144_146.out _;(with_reducible repeat (first|apply blk_drewN|apply blk_drew|apply blk_alloc));exact BK144.out⟩,⟨by (with_reducible repeat (first|apply blk_drewN|apply blk_drew|apply blk_alloc));refine blk_far ?_ NB145_146.out _;(with_reducible repeat (first|apply blk_drewN|apply blk_drew|apply blk_alloc));exact BK145.out⟩,⟨by (with_reducible repeat (first|apply blk_drewN|apply blk_drew|apply blk_alloc));refine blk_put (cs:=#[.int .u32 a0_0,u147001]) ?_ 1 _ rfl;(with_reducible repeat (first|apply blk_drewN|apply blk_drew|apply blk_alloc));exact BK146.out⟩,⟨by repeat (first|(with_reducible first|exact HB.out|apply below_alloc|apply pw_below_drewN|apply below_drew1|refine below_set ?_ GE144.out|refine below_set ?_ GE145.out|refine below_set ?_ GE146.out|refine below_set ?_ GE148.out)|exact HB.out)⟩⟩
      ·rw [if_neg c14] at H
       exact absurd H (by simp)
     ·rw [if_neg c13] at H
      exact absurd H (by simp)
    ·rw [if_neg c12] at H
     exact absurd H (by simp)
   ·rw [if_neg c11] at H
    have c11b0 : decide (x12_1 < (l0_1.length : Int)) = false:=decide_eq_false c11
    clear c11
    simp only [Option.some.injEq,Prod.mk.injEq] at H
    obtain ⟨rfl,rfl⟩:=H
    have hnb26:=NB146_144.out
    have hnc26:=NB144_146.out
    have hnb27:=NB146_145.out
    have hnc27:=NB145_146.out
    have hcz28_0 : wr.cell? ⟨gb146,0,none⟩ = some (.int .u32 a0_0):=(blk_cell BK146.out 0).trans rfl
    have hcz28_1 : wr.cell? ⟨gb146,1,none⟩ = some (u147001):=(blk_cell BK146.out 1).trans rfl
    have hfz28_0:=blk_frozen BK146.out 0
    have hfz28_1:=blk_frozen BK146.out 1
    have hnb29:=NB145_144.out
    have hnc29:=NB144_145.out
    have hcz30_0 : wr.cell? ⟨gb145,0,none⟩ = some (.int .u32 0):=(blk_cell BK145.out 0).trans rfl
    have hcz30_1 : wr.cell? ⟨gb145,1,none⟩ = some (.slice none 0 0):=(blk_cell BK145.out 1).trans rfl
    have hfz30_0:=blk_frozen BK145.out 0
    have hfz30_1:=blk_frozen BK145.out 1
    obtain ⟨Ao31,co31,eo31⟩:=Kd.R_slice HO_147001.out
    subst eo31
    go_wp2
    refine bodyPost_ret (results_cell_row rfl _ _ gb145 30 #[.int .u32 a0_0,.slice Ao31 x147001_1.length co31] (0,0) _ rfl (by (with_reducible repeat (first|apply blk_drewN|apply blk_drew|apply blk_alloc));refine blk_put (cs:=#[.int .u32 a0_0,.slice none 0 0]) ?_ 1 _ rfl;(with_reducible repeat (first|apply blk_drewN|apply blk_drew|apply blk_alloc));refine blk_put (cs:=#[.int .u32 0,.slice none 0 0]) ?_ 0 _ rfl;(with_reducible repeat (first|apply blk_drewN|apply blk_drew|apply blk_alloc));exact BK145.out) Tryd.underlying30 rfl (by kernel_rfl)) rfl ?_
    exact ⟨_,by first|rfl|(simp [errW_none,errW_some] <;> rfl)|(simp [*,errW_none,errW_some] <;> rfl),by (with_reducible repeat (first|apply Kd.R_alloc|apply Kd.R_drewN|apply Kd.R_drew));exact Kd.R_mono (Kd.R_far (p:=⟨gb145,1,none⟩) (Kd.R_far (p:=⟨gb145,0,none⟩) (Kd.R_types HO_147001.out BK145.out (by decide)) (fun _ hk=>hk.2) (.int .u32 a0_0)) (fun _ hk=>hk.2) (.slice Ao31 x147001_1.length co31)) (fun _ hk=>trivial),by repeat (first|(with_reducible first|exact HB.out|apply below_alloc|apply pw_below_drewN|apply below_drew1|refine below_set ?_ GE144.out|refine below_set ?_ GE145.out|refine below_set ?_ GE146.out)|exact HB.out)⟩

/-! ### bosunref04_Name: function 19 -/
mutual
def bosunref04_Name.j0 : Nat → ByteArray → Bool → Option (Bool)
 | 0,_,_=>none
 | k + 1,x0,x12=>if x12 = true then (some false) else (bosunref04_Name.l0 k x0 0)
def bosunref04_Name.l0 : Nat → ByteArray → Int → Option (Bool)
 | 0,_,_=>none
 | k + 1,x0,x3=>if x3 < (x0.size : Int) then (if 0 ≤ x3 then (if (bt x0 x3) ≥ 97 then (if (bt x0 x3) ≤ 122 then (bosunref04_Name.l0 k x0 (wrap64 (x3 + 1))) else (if (bt x0 x3) ≥ 48 then (if (bt x0 x3) ≤ 57 then (bosunref04_Name.l0 k x0 (wrap64 (x3 + 1))) else (if (bt x0 x3) = 46 then (bosunref04_Name.l0 k x0 (wrap64 (x3 + 1))) else (if (bt x0 x3) = 95 then (bosunref04_Name.l0 k x0 (wrap64 (x3 + 1))) else (if (bt x0 x3) = 45 then (bosunref04_Name.l0 k x0 (wrap64 (x3 + 1))) else (if ((bt x0 x3) = 47) then (bosunref04_Name.l0 k x0 (wrap64 (x3 + 1))) else (some false)))))) else (if (bt x0 x3) = 46 then (bosunref04_Name.l0 k x0 (wrap64 (x3 + 1))) else (if (bt x0 x3) = 95 then (bosunref04_Name.l0 k x0 (wrap64 (x3 + 1))) else (if (bt x0 x3) = 45 then (bosunref04_Name.l0 k x0 (wrap64 (x3 + 1))) else (if ((bt x0 x3) = 47) then (bosunref04_Name.l0 k x0 (wrap64 (x3 + 1))) else (some false))))))) else (if (bt x0 x3) ≥ 48 then (if (bt x0 x3) ≤ 57 then (bosunref04_Name.l0 k x0 (wrap64 (x3 + 1))) else (if (bt x0 x3) = 46 then (bosunref04_Name.l0 k x0 (wrap64 (x3 + 1))) else (if (bt x0 x3) = 95 then (bosunref04_Name.l0 k x0 (wrap64 (x3 + 1))) else (if (bt x0 x3) = 45 then (bosunref04_Name.l0 k x0 (wrap64 (x3 + 1))) else (if ((bt x0 x3) = 47) then (bosunref04_Name.l0 k x0 (wrap64 (x3 + 1))) else (some false)))))) else (if (bt x0 x3) = 46 then (bosunref04_Name.l0 k x0 (wrap64 (x3 + 1))) else (if (bt x0 x3) = 95 then (bosunref04_Name.l0 k x0 (wrap64 (x3 + 1))) else (if (bt x0 x3) = 45 then (bosunref04_Name.l0 k x0 (wrap64 (x3 + 1))) else (if ((bt x0 x3) = 47) then (bosunref04_Name.l0 k x0 (wrap64 (x3 + 1))) else (some false))))))) else (none)) else (some true)
end
def bosunref04_Name.f (k : Nat) (a0 : ByteArray) : Option (Bool):=if (a0.size : Int) < 1 then (bosunref04_Name.j0 k a0 true) else (bosunref04_Name.j0 k a0 (decide ((a0.size : Int) > 64)))
theorem bosunref04_Name.mono_l : ∀ k,(∀ y0 y1,LeO (bosunref04_Name.j0 k y0 y1) (bosunref04_Name.j0 (k + 1) y0 y1)) ∧ (∀ y0 y1,LeO (bosunref04_Name.l0 k y0 y1) (bosunref04_Name.l0 (k + 1) y0 y1))
 | 0=>⟨fun _ _ r h=>by simp [bosunref04_Name.j0] at h,fun _ _ r h=>by simp [bosunref04_Name.l0] at h⟩
 | k + 1=>by
  obtain ⟨ih0,ih1⟩:=bosunref04_Name.mono_l k
  refine ⟨?_,?_⟩
  ·intro y0 y1
   unfold bosunref04_Name.j0
   repeat' first
   | (with_reducible exact ih0 _ _)
   | (with_reducible exact ih1 _ _)
   | (with_reducible exact LeO.refl _)
   | (with_reducible exact LeO.none _)
   | (with_reducible refine LeO.ite ?_ ?_)
   | (with_reducible refine LeO.bind ?_ (fun _=>?_))
   | exact ih0 _ _
   | exact ih1 _ _
   | exact LeO.none _
   | refine LeO.ite ?_ ?_
   | refine LeO.bind ?_ (fun _=>?_)
  ·intro y0 y1
   unfold bosunref04_Name.l0
   repeat' first
   | (with_reducible exact ih0 _ _)
   | (with_reducible exact ih1 _ _)
   | (with_reducible exact LeO.refl _)
   | (with_reducible exact LeO.none _)
   | (with_reducible refine LeO.ite ?_ ?_)
   | (with_reducible refine LeO.bind ?_ (fun _=>?_))
   | exact ih0 _ _
   | exact ih1 _ _
   | exact LeO.none _
   | refine LeO.ite ?_ ?_
   | refine LeO.bind ?_ (fun _=>?_)
theorem bosunref04_Name.mono : ∀ a0 k,LeO (bosunref04_Name.f k a0) (bosunref04_Name.f (k + 1) a0):=by
 intro a0 k
 obtain ⟨ih0,ih1⟩:=bosunref04_Name.mono_l k
 unfold bosunref04_Name.f
 repeat' first
   | (with_reducible exact ih0 _ _)
   | (with_reducible exact ih1 _ _)
   | (with_reducible exact LeO.refl _)
   | (with_reducible exact LeO.none _)
   | (with_reducible refine LeO.ite ?_ ?_)
   | (with_reducible refine LeO.bind ?_ (fun _=>?_))
   | exact ih0 _ _
   | exact ih1 _ _
   | exact LeO.none _
   | refine LeO.ite ?_ ?_
   | refine LeO.bind ?_ (fun _=>?_)
set_option maxHeartbeats 8000000 in
set_option maxRecDepth 100000 in
theorem bosunref04_Name.calls (k : Nat) (a0 : ByteArray) (r : Bool) (w : World) (h : bosunref04_Name.f k a0 = some r) :
  Calls Tryd.prog 19 #[.string a0] w fun e w'=>e = .returned (.bool r) ∧ Drawn0 w w':=by
 have H : (if (a0.size : Int) < 1 then (bosunref04_Name.j0 k a0 true) else (bosunref04_Name.j0 k a0 (decide ((a0.size : Int) > 64)))) = some r:=h
 clear h
 have HC2:=Aside0.mk H
 clear H
 go_enter Tryd.func19,Tryd.ntmps19
 go_upto_region 1 with (fail)
 go_cut [12] (fun v12 wc=>∃ (kq : Nat) (x12_1 : Bool),v12 = .bool x12_1 ∧ Aside0 (bosunref04_Name.j0 kq a0 x12_1 = some r) ∧ Aside0 (kq ≤ k) ∧ Drawn0 w wc)
 case first =>
  have H:=HC2.out
  clear HC2
  by_cases c3 : (a0.size : Int) < 1
  ·rw [if_pos c3] at H
   have c3b0 : decide ((a0.size : Int) < 1) = true:=decide_eq_true c3
   have c3b1 : decide (a0.size < 1) = true:=decide_eq_true (by omega)
   clear c3
   (first|rw [c3b0]|(simp only [i64_w,i32_w];rw [c3b0])|skip)
   have H':=Aside0.mk H
   clear H
   go_wp2
   go_meet
   case rel=>exact ⟨_,(true),(by first|rfl|(simp;done)|(simp [*];done)),H',⟨by first|omega|exact Nat.le_refl _⟩,by repeat (first|exact Drawn0.refl _|apply Drawn0.step)⟩
  ·rw [if_neg c3] at H
   have c3b0 : decide ((a0.size : Int) < 1) = false:=decide_eq_false c3
   have c3b1 : decide (a0.size < 1) = false:=decide_eq_false (by omega)
   clear c3
   (first|rw [c3b0]|(simp only [i64_w,i32_w];rw [c3b0])|skip)
   have H':=Aside0.mk H
   clear H
   go_wp2
   go_meet
   case rel=>exact ⟨_,(decide ((a0.size : Int) > 64)),(by first|rfl|(simp;done)|(simp [*];done)),H',⟨by first|omega|exact Nat.le_refl _⟩,by repeat (first|exact Drawn0.refl _|apply Drawn0.step)⟩
 case rest =>
  clear HC2
  try clear c1
  try clear p2
  try clear c3
  try clear c3b0
  try clear c3b1
  obtain ⟨kq,x12_1,rfl,HA,HJ1,⟨mc1,rfl⟩⟩:=hcut
  cases kq with
  | zero=>exact absurd HA.out (by simp [bosunref04_Name.j0])
  | succ kj1 =>
   have H:=HA.out
   clear HA
   simp only [bosunref04_Name.j0] at H
   by_cases c4 : x12_1 = true
   ·subst c4
    have H1 : (some false) = some r:=by rw [if_pos rfl] at H;exact H
    clear H
    have H:=H1
    clear H1
    obtain rfl:=Option.some.inj H
    go_wp2
    go_ret
    exact ⟨by first|rfl|(simp;done)|(simp [*];done),by repeat (first|exact Drawn0.refl _|apply Drawn0.step)⟩
   ·replace c4:=Bool.eq_false_iff.mpr c4
    subst c4
    have H1 : (bosunref04_Name.l0 kj1 a0 0) = some r:=by rw [if_neg (show ¬ (false = true) by decide)] at H;exact H
    clear H
    have H:=H1
    clear H1
    have H':=Aside0.mk H
    clear H
    go_wp2
    go_loopg [3] kj1 (fun kq v3 w'=>∃ (x3_2 : Int),v3 = .int .i64 x3_2 ∧ Aside0 (bosunref04_Name.l0 kq a0 x3_2 = some r) ∧ Aside0 (kq ≤ kj1) ∧ Drawn0 w w')
    case atStart=>exact ⟨(0),(by first|rfl|(simp;done)|(simp [*];done)),H',⟨Nat.le_refl _⟩,by repeat (first|exact Drawn0.refl _|apply Drawn0.step)⟩
    case round =>
     clear H'
     try clear c1
     try clear p2
     try clear c3
     try clear c3b0
     try clear c3b1
     try clear c4
     try clear p2
     obtain ⟨x3_2,rfl,HA,HK2,⟨m2,rfl⟩⟩:=hrel
     cases gk with
     | zero=>exact absurd HA.out (by simp [bosunref04_Name.l0])
     | succ k2 =>
      have H:=HA.out
      clear HA
      simp only [bosunref04_Name.l0] at H
      by_cases c5 : x3_2 < (a0.size : Int)
      ·rw [if_pos c5] at H
       have c5b0 : decide (x3_2 < (a0.size : Int)) = true:=decide_eq_true c5
       clear c5
       by_cases c6 : 0 ≤ x3_2
       ·rw [if_pos c6] at H
        have c6b0 : decide (0 ≤ x3_2) = true:=decide_eq_true c6
        clear c6
        by_cases c8 : (bt a0 x3_2) ≥ 97
        ·rw [if_pos c8] at H
         have c8b0 : decide (97 ≤ (bt a0 x3_2)) = true:=decide_eq_true c8
         clear c8
         by_cases c9 : (bt a0 x3_2) ≤ 122
         ·rw [if_pos c9] at H
          have c9b0 : decide ((bt a0 x3_2) ≤ 122) = true:=decide_eq_true c9
          clear c9
          have H':=Aside0.mk H
          clear H
          have p7 : 0 ≤ (x3_2 : Int):=of_decide_eq_true (by first|(with_reducible assumption)|assumption)
          have q7 : x3_2 < (a0.size : Int):=of_decide_eq_true (by first|(with_reducible assumption)|assumption)
          have hx7:=bt_at a0 x3_2
          replace p7:=eq_true p7
          replace q7:=eq_true q7
          go_wp2
          go_roundg k2
          case measure=>have:=HJ1.out;have:=HK2.out;omega
          case rel=>exact ⟨(wrap64 (x3_2 + 1)),(by first|rfl|(simp;done)|(simp [*];done)),H',⟨by have:=HJ1.out;have:=HK2.out;omega⟩,by repeat (first|exact Drawn0.refl _|apply Drawn0.step)⟩
         ·rw [if_neg c9] at H
          have c9b0 : decide ((bt a0 x3_2) ≤ 122) = false:=decide_eq_false c9
          clear c9
          by_cases c10 : (bt a0 x3_2) ≥ 48
          ·rw [if_pos c10] at H
           have c10b0 : decide (48 ≤ (bt a0 x3_2)) = true:=decide_eq_true c10
           clear c10
           by_cases c11 : (bt a0 x3_2) ≤ 57
           ·rw [if_pos c11] at H
            have c11b0 : decide ((bt a0 x3_2) ≤ 57) = true:=decide_eq_true c11
            clear c11
            have H':=Aside0.mk H
            clear H
            have p7 : 0 ≤ (x3_2 : Int):=of_decide_eq_true (by first|(with_reducible assumption)|assumption)
            have q7 : x3_2 < (a0.size : Int):=of_decide_eq_true (by first|(with_reducible assumption)|assumption)
            have hx7:=bt_at a0 x3_2
            replace p7:=eq_true p7
            replace q7:=eq_true q7
            go_wp2
            go_roundg k2
            case measure=>have:=HJ1.out;have:=HK2.out;omega
            case rel=>exact ⟨(wrap64 (x3_2 + 1)),(by first|rfl|(simp;done)|(simp [*];done)),H',⟨by have:=HJ1.out;have:=HK2.out;omega⟩,by repeat (first|exact Drawn0.refl _|apply Drawn0.step)⟩
           ·rw [if_neg c11] at H
            have c11b0 : decide ((bt a0 x3_2) ≤ 57) = false:=decide_eq_false c11
            clear c11
            by_cases c12 : (bt a0 x3_2) = 46
            ·rw [if_pos c12] at H
             have c12b0 : ((bt a0 x3_2) == 46) = true:=beq_iff_eq.mpr c12
             have c12b1 : ((bt a0 x3_2) != 46) = false:=bne_eq_false_iff_eq.mpr c12
             clear c12
             have H':=Aside0.mk H
             clear H
             have p7 : 0 ≤ (x3_2 : Int):=of_decide_eq_true (by first|(with_reducible assumption)|assumption)
             have q7 : x3_2 < (a0.size : Int):=of_decide_eq_true (by first|(with_reducible assumption)|assumption)
             have hx7:=bt_at a0 x3_2
             replace p7:=eq_true p7
             replace q7:=eq_true q7
             go_wp2
             go_roundg k2
             case measure=>have:=HJ1.out;have:=HK2.out;omega
             case rel=>exact ⟨(wrap64 (x3_2 + 1)),(by first|rfl|(simp;done)|(simp [*];done)),H',⟨by have:=HJ1.out;have:=HK2.out;omega⟩,by repeat (first|exact Drawn0.refl _|apply Drawn0.step)⟩
            ·rw [if_neg c12] at H
             have c12b0 : ((bt a0 x3_2) == 46) = false:=beq_eq_false_iff_ne.mpr c12
             have c12b1 : ((bt a0 x3_2) != 46) = true:=bne_iff_ne.mpr c12
             by_cases c13 : (bt a0 x3_2) = 95
             ·rw [if_pos c13] at H
              have c13b0 : ((bt a0 x3_2) == 95) = true:=beq_iff_eq.mpr c13
              have c13b1 : ((bt a0 x3_2) != 95) = false:=bne_eq_false_iff_eq.mpr c13
              clear c13
              have H':=Aside0.mk H
              clear H
              have p7 : 0 ≤ (x3_2 : Int):=of_decide_eq_true (by first|(with_reducible assumption)|assumption)
              have q7 : x3_2 < (a0.size : Int):=of_decide_eq_true (by first|(with_reducible assumption)|assumption)
              have hx7:=bt_at a0 x3_2
              replace p7:=eq_true p7
              replace q7:=eq_true q7
              go_wp2
              go_roundg k2
              case measure=>have:=HJ1.out;have:=HK2.out;omega
              case rel=>exact ⟨(wrap64 (x3_2 + 1)),(by first|rfl|(simp;done)|(simp [*];done)),H',⟨by have:=HJ1.out;have:=HK2.out;omega⟩,by repeat (first|exact Drawn0.refl _|apply Drawn0.step)⟩
             ·rw [if_neg c13] at H
              have c13b0 : ((bt a0 x3_2) == 95) = false:=beq_eq_false_iff_ne.mpr c13
              have c13b1 : ((bt a0 x3_2) != 95) = true:=bne_iff_ne.mpr c13
              by_cases c14 : (bt a0 x3_2) = 45
              ·rw [if_pos c14] at H
               have c14b0 : ((bt a0 x3_2) == 45) = true:=beq_iff_eq.mpr c14
               have c14b1 : ((bt a0 x3_2) != 45) = false:=bne_eq_false_iff_eq.mpr c14
               clear c14
               have H':=Aside0.mk H
               clear H
               have p7 : 0 ≤ (x3_2 : Int):=of_decide_eq_true (by first|(with_reducible assumption)|assumption)
               have q7 : x3_2 < (a0.size : Int):=of_decide_eq_true (by first|(with_reducible assumption)|assumption)
               have hx7:=bt_at a0 x3_2
               replace p7:=eq_true p7
               replace q7:=eq_true q7
               go_wp2
               go_roundg k2
               case measure=>have:=HJ1.out;have:=HK2.out;omega
               case rel=>exact ⟨(wrap64 (x3_2 + 1)),(by first|rfl|(simp;done)|(simp [*];done)),H',⟨by have:=HJ1.out;have:=HK2.out;omega⟩,by repeat (first|exact Drawn0.refl _|apply Drawn0.step)⟩
              ·rw [if_neg c14] at H
               have c14b0 : ((bt a0 x3_2) == 45) = false:=beq_eq_false_iff_ne.mpr c14
               have c14b1 : ((bt a0 x3_2) != 45) = true:=bne_iff_ne.mpr c14
               by_cases c15 : ((bt a0 x3_2) = 47)
               ·rw [if_pos c15] at H
                have c15b0 : ((bt a0 x3_2) == 47) = true:=beq_iff_eq.mpr c15
                have c15b1 : ((bt a0 x3_2) != 47) = false:=bne_eq_false_iff_eq.mpr c15
                clear c15
                have H':=Aside0.mk H
                clear H
                have p7 : 0 ≤ (x3_2 : Int):=of_decide_eq_true (by first|(with_reducible assumption)|assumption)
                have q7 : x3_2 < (a0.size : Int):=of_decide_eq_true (by first|(with_reducible assumption)|assumption)
                have hx7:=bt_at a0 x3_2
                replace p7:=eq_true p7
                replace q7:=eq_true q7
                go_wp2
                go_roundg k2
                case measure=>have:=HJ1.out;have:=HK2.out;omega
                case rel=>exact ⟨(wrap64 (x3_2 + 1)),(by first|rfl|(simp;done)|(simp [*];done)),H',⟨by have:=HJ1.out;have:=HK2.out;omega⟩,by repeat (first|exact Drawn0.refl _|apply Drawn0.step)⟩
               ·rw [if_neg c15] at H
                have c15b0 : ((bt a0 x3_2) == 47) = false:=beq_eq_false_iff_ne.mpr c15
                have c15b1 : ((bt a0 x3_2) != 47) = true:=bne_iff_ne.mpr c15
                obtain rfl:=Option.some.inj H
                have p7 : 0 ≤ (x3_2 : Int):=of_decide_eq_true (by first|(with_reducible assumption)|assumption)
                have q7 : x3_2 < (a0.size : Int):=of_decide_eq_true (by first|(with_reducible assumption)|assumption)
                have hx7:=bt_at a0 x3_2
                replace p7:=eq_true p7
                replace q7:=eq_true q7
                go_wp2
                go_ret
                exact ⟨by first|rfl|(simp;done)|(simp [*];done),by repeat (first|exact Drawn0.refl _|apply Drawn0.step)⟩
          ·rw [if_neg c10] at H
           have c10b0 : decide (48 ≤ (bt a0 x3_2)) = false:=decide_eq_false c10
           clear c10
           by_cases c16 : (bt a0 x3_2) = 46
           ·rw [if_pos c16] at H
            have c16b0 : ((bt a0 x3_2) == 46) = true:=beq_iff_eq.mpr c16
            have c16b1 : ((bt a0 x3_2) != 46) = false:=bne_eq_false_iff_eq.mpr c16
            clear c16
            have H':=Aside0.mk H
            clear H
            have p7 : 0 ≤ (x3_2 : Int):=of_decide_eq_true (by first|(with_reducible assumption)|assumption)
            have q7 : x3_2 < (a0.size : Int):=of_decide_eq_true (by first|(with_reducible assumption)|assumption)
            have hx7:=bt_at a0 x3_2
            replace p7:=eq_true p7
            replace q7:=eq_true q7
            go_wp2
            go_roundg k2
            case measure=>have:=HJ1.out;have:=HK2.out;omega
            case rel=>exact ⟨(wrap64 (x3_2 + 1)),(by first|rfl|(simp;done)|(simp [*];done)),H',⟨by have:=HJ1.out;have:=HK2.out;omega⟩,by repeat (first|exact Drawn0.refl _|apply Drawn0.step)⟩
           ·rw [if_neg c16] at H
            have c16b0 : ((bt a0 x3_2) == 46) = false:=beq_eq_false_iff_ne.mpr c16
            have c16b1 : ((bt a0 x3_2) != 46) = true:=bne_iff_ne.mpr c16
            by_cases c17 : (bt a0 x3_2) = 95
            ·rw [if_pos c17] at H
             have c17b0 : ((bt a0 x3_2) == 95) = true:=beq_iff_eq.mpr c17
             have c17b1 : ((bt a0 x3_2) != 95) = false:=bne_eq_false_iff_eq.mpr c17
             clear c17
             have H':=Aside0.mk H
             clear H
             have p7 : 0 ≤ (x3_2 : Int):=of_decide_eq_true (by first|(with_reducible assumption)|assumption)
             have q7 : x3_2 < (a0.size : Int):=of_decide_eq_true (by first|(with_reducible assumption)|assumption)
             have hx7:=bt_at a0 x3_2
             replace p7:=eq_true p7
             replace q7:=eq_true q7
             go_wp2
             go_roundg k2
             case measure=>have:=HJ1.out;have:=HK2.out;omega
             case rel=>exact ⟨(wrap64 (x3_2 + 1)),(by first|rfl|(simp;done)|(simp [*];done)),H',⟨by have:=HJ1.out;have:=HK2.out;omega⟩,by repeat (first|exact Drawn0.refl _|apply Drawn0.step)⟩
            ·rw [if_neg c17] at H
             have c17b0 : ((bt a0 x3_2) == 95) = false:=beq_eq_false_iff_ne.mpr c17
             have c17b1 : ((bt a0 x3_2) != 95) = true:=bne_iff_ne.mpr c17
             by_cases c18 : (bt a0 x3_2) = 45
             ·rw [if_pos c18] at H
              have c18b0 : ((bt a0 x3_2) == 45) = true:=beq_iff_eq.mpr c18
              have c18b1 : ((bt a0 x3_2) != 45) = false:=bne_eq_false_iff_eq.mpr c18
              clear c18
              have H':=Aside0.mk H
              clear H
              have p7 : 0 ≤ (x3_2 : Int):=of_decide_eq_true (by first|(with_reducible assumption)|assumption)
              have q7 : x3_2 < (a0.size : Int):=of_decide_eq_true (by first|(with_reducible assumption)|assumption)
              have hx7:=bt_at a0 x3_2
              replace p7:=eq_true p7
              replace q7:=eq_true q7
              go_wp2
              go_roundg k2
              case measure=>have:=HJ1.out;have:=HK2.out;omega
              case rel=>exact ⟨(wrap64 (x3_2 + 1)),(by first|rfl|(simp;done)|(simp [*];done)),H',⟨by have:=HJ1.out;have:=HK2.out;omega⟩,by repeat (first|exact Drawn0.refl _|apply Drawn0.step)⟩
             ·rw [if_neg c18] at H
              have c18b0 : ((bt a0 x3_2) == 45) = false:=beq_eq_false_iff_ne.mpr c18
              have c18b1 : ((bt a0 x3_2) != 45) = true:=bne_iff_ne.mpr c18
              by_cases c19 : ((bt a0 x3_2) = 47)
              ·rw [if_pos c19] at H
               have c19b0 : ((bt a0 x3_2) == 47) = true:=beq_iff_eq.mpr c19
               have c19b1 : ((bt a0 x3_2) != 47) = false:=bne_eq_false_iff_eq.mpr c19
               clear c19
               have H':=Aside0.mk H
               clear H
               have p7 : 0 ≤ (x3_2 : Int):=of_decide_eq_true (by first|(with_reducible assumption)|assumption)
               have q7 : x3_2 < (a0.size : Int):=of_decide_eq_true (by first|(with_reducible assumption)|assumption)
               have hx7:=bt_at a0 x3_2
               replace p7:=eq_true p7
               replace q7:=eq_true q7
               go_wp2
               go_roundg k2
               case measure=>have:=HJ1.out;have:=HK2.out;omega
               case rel=>exact ⟨(wrap64 (x3_2 + 1)),(by first|rfl|(simp;done)|(simp [*];done)),H',⟨by have:=HJ1.out;have:=HK2.out;omega⟩,by repeat (first|exact Drawn0.refl _|apply Drawn0.step)⟩
              ·rw [if_neg c19] at H
               have c19b0 : ((bt a0 x3_2) == 47) = false:=beq_eq_false_iff_ne.mpr c19
               have c19b1 : ((bt a0 x3_2) != 47) = true:=bne_iff_ne.mpr c19
               obtain rfl:=Option.some.inj H
               have p7 : 0 ≤ (x3_2 : Int):=of_decide_eq_true (by first|(with_reducible assumption)|assumption)
               have q7 : x3_2 < (a0.size : Int):=of_decide_eq_true (by first|(with_reducible assumption)|assumption)
               have hx7:=bt_at a0 x3_2
               replace p7:=eq_true p7
               replace q7:=eq_true q7
               go_wp2
               go_ret
               exact ⟨by first|rfl|(simp;done)|(simp [*];done),by repeat (first|exact Drawn0.refl _|apply Drawn0.step)⟩
        ·rw [if_neg c8] at H
         have c8b0 : decide (97 ≤ (bt a0 x3_2)) = false:=decide_eq_false c8
         clear c8
         by_cases c20 : (bt a0 x3_2) ≥ 48
         ·rw [if_pos c20] at H
          have c20b0 : decide (48 ≤ (bt a0 x3_2)) = true:=decide_eq_true c20
          clear c20
          by_cases c21 : (bt a0 x3_2) ≤ 57
          ·rw [if_pos c21] at H
           have c21b0 : decide ((bt a0 x3_2) ≤ 57) = true:=decide_eq_true c21
           clear c21
           have H':=Aside0.mk H
           clear H
           have p7 : 0 ≤ (x3_2 : Int):=of_decide_eq_true (by first|(with_reducible assumption)|assumption)
           have q7 : x3_2 < (a0.size : Int):=of_decide_eq_true (by first|(with_reducible assumption)|assumption)
           have hx7:=bt_at a0 x3_2
           replace p7:=eq_true p7
           replace q7:=eq_true q7
           go_wp2
           go_roundg k2
           case measure=>have:=HJ1.out;have:=HK2.out;omega
           case rel=>exact ⟨(wrap64 (x3_2 + 1)),(by first|rfl|(simp;done)|(simp [*];done)),H',⟨by have:=HJ1.out;have:=HK2.out;omega⟩,by repeat (first|exact Drawn0.refl _|apply Drawn0.step)⟩
          ·rw [if_neg c21] at H
           have c21b0 : decide ((bt a0 x3_2) ≤ 57) = false:=decide_eq_false c21
           clear c21
           by_cases c22 : (bt a0 x3_2) = 46
           ·rw [if_pos c22] at H
            have c22b0 : ((bt a0 x3_2) == 46) = true:=beq_iff_eq.mpr c22
            have c22b1 : ((bt a0 x3_2) != 46) = false:=bne_eq_false_iff_eq.mpr c22
            clear c22
            have H':=Aside0.mk H
            clear H
            have p7 : 0 ≤ (x3_2 : Int):=of_decide_eq_true (by first|(with_reducible assumption)|assumption)
            have q7 : x3_2 < (a0.size : Int):=of_decide_eq_true (by first|(with_reducible assumption)|assumption)
            have hx7:=bt_at a0 x3_2
            replace p7:=eq_true p7
            replace q7:=eq_true q7
            go_wp2
            go_roundg k2
            case measure=>have:=HJ1.out;have:=HK2.out;omega
            case rel=>exact ⟨(wrap64 (x3_2 + 1)),(by first|rfl|(simp;done)|(simp [*];done)),H',⟨by have:=HJ1.out;have:=HK2.out;omega⟩,by repeat (first|exact Drawn0.refl _|apply Drawn0.step)⟩
           ·rw [if_neg c22] at H
            have c22b0 : ((bt a0 x3_2) == 46) = false:=beq_eq_false_iff_ne.mpr c22
            have c22b1 : ((bt a0 x3_2) != 46) = true:=bne_iff_ne.mpr c22
            by_cases c23 : (bt a0 x3_2) = 95
            ·rw [if_pos c23] at H
             have c23b0 : ((bt a0 x3_2) == 95) = true:=beq_iff_eq.mpr c23
             have c23b1 : ((bt a0 x3_2) != 95) = false:=bne_eq_false_iff_eq.mpr c23
             clear c23
             have H':=Aside0.mk H
             clear H
             have p7 : 0 ≤ (x3_2 : Int):=of_decide_eq_true (by first|(with_reducible assumption)|assumption)
             have q7 : x3_2 < (a0.size : Int):=of_decide_eq_true (by first|(with_reducible assumption)|assumption)
             have hx7:=bt_at a0 x3_2
             replace p7:=eq_true p7
             replace q7:=eq_true q7
             go_wp2
             go_roundg k2
             case measure=>have:=HJ1.out;have:=HK2.out;omega
             case rel=>exact ⟨(wrap64 (x3_2 + 1)),(by first|rfl|(simp;done)|(simp [*];done)),H',⟨by have:=HJ1.out;have:=HK2.out;omega⟩,by repeat (first|exact Drawn0.refl _|apply Drawn0.step)⟩
            ·rw [if_neg c23] at H
             have c23b0 : ((bt a0 x3_2) == 95) = false:=beq_eq_false_iff_ne.mpr c23
             have c23b1 : ((bt a0 x3_2) != 95) = true:=bne_iff_ne.mpr c23
             by_cases c24 : (bt a0 x3_2) = 45
             ·rw [if_pos c24] at H
              have c24b0 : ((bt a0 x3_2) == 45) = true:=beq_iff_eq.mpr c24
              have c24b1 : ((bt a0 x3_2) != 45) = false:=bne_eq_false_iff_eq.mpr c24
              clear c24
              have H':=Aside0.mk H
              clear H
              have p7 : 0 ≤ (x3_2 : Int):=of_decide_eq_true (by first|(with_reducible assumption)|assumption)
              have q7 : x3_2 < (a0.size : Int):=of_decide_eq_true (by first|(with_reducible assumption)|assumption)
              have hx7:=bt_at a0 x3_2
              replace p7:=eq_true p7
              replace q7:=eq_true q7
              go_wp2
              go_roundg k2
              case measure=>have:=HJ1.out;have:=HK2.out;omega
              case rel=>exact ⟨(wrap64 (x3_2 + 1)),(by first|rfl|(simp;done)|(simp [*];done)),H',⟨by have:=HJ1.out;have:=HK2.out;omega⟩,by repeat (first|exact Drawn0.refl _|apply Drawn0.step)⟩
             ·rw [if_neg c24] at H
              have c24b0 : ((bt a0 x3_2) == 45) = false:=beq_eq_false_iff_ne.mpr c24
              have c24b1 : ((bt a0 x3_2) != 45) = true:=bne_iff_ne.mpr c24
              by_cases c25 : ((bt a0 x3_2) = 47)
              ·rw [if_pos c25] at H
               have c25b0 : ((bt a0 x3_2) == 47) = true:=beq_iff_eq.mpr c25
               have c25b1 : ((bt a0 x3_2) != 47) = false:=bne_eq_false_iff_eq.mpr c25
               clear c25
               have H':=Aside0.mk H
               clear H
               have p7 : 0 ≤ (x3_2 : Int):=of_decide_eq_true (by first|(with_reducible assumption)|assumption)
               have q7 : x3_2 < (a0.size : Int):=of_decide_eq_true (by first|(with_reducible assumption)|assumption)
               have hx7:=bt_at a0 x3_2
               replace p7:=eq_true p7
               replace q7:=eq_true q7
               go_wp2
               go_roundg k2
               case measure=>have:=HJ1.out;have:=HK2.out;omega
               case rel=>exact ⟨(wrap64 (x3_2 + 1)),(by first|rfl|(simp;done)|(simp [*];done)),H',⟨by have:=HJ1.out;have:=HK2.out;omega⟩,by repeat (first|exact Drawn0.refl _|apply Drawn0.step)⟩
              ·rw [if_neg c25] at H
               have c25b0 : ((bt a0 x3_2) == 47) = false:=beq_eq_false_iff_ne.mpr c25
               have c25b1 : ((bt a0 x3_2) != 47) = true:=bne_iff_ne.mpr c25
               obtain rfl:=Option.some.inj H
               have p7 : 0 ≤ (x3_2 : Int):=of_decide_eq_true (by first|(with_reducible assumption)|assumption)
               have q7 : x3_2 < (a0.size : Int):=of_decide_eq_true (by first|(with_reducible assumption)|assumption)
               have hx7:=bt_at a0 x3_2
               replace p7:=eq_true p7
               replace q7:=eq_true q7
               go_wp2
               go_ret
               exact ⟨by first|rfl|(simp;done)|(simp [*];done),by repeat (first|exact Drawn0.refl _|apply Drawn0.step)⟩
         ·rw [if_neg c20] at H
          have c20b0 : decide (48 ≤ (bt a0 x3_2)) = false:=decide_eq_false c20
          clear c20
          by_cases c26 : (bt a0 x3_2) = 46
          ·rw [if_pos c26] at H
           have c26b0 : ((bt a0 x3_2) == 46) = true:=beq_iff_eq.mpr c26
           have c26b1 : ((bt a0 x3_2) != 46) = false:=bne_eq_false_iff_eq.mpr c26
           clear c26
           have H':=Aside0.mk H
           clear H
           have p7 : 0 ≤ (x3_2 : Int):=of_decide_eq_true (by first|(with_reducible assumption)|assumption)
           have q7 : x3_2 < (a0.size : Int):=of_decide_eq_true (by first|(with_reducible assumption)|assumption)
           have hx7:=bt_at a0 x3_2
           replace p7:=eq_true p7
           replace q7:=eq_true q7
           go_wp2
           go_roundg k2
           case measure=>have:=HJ1.out;have:=HK2.out;omega
           case rel=>exact ⟨(wrap64 (x3_2 + 1)),(by first|rfl|(simp;done)|(simp [*];done)),H',⟨by have:=HJ1.out;have:=HK2.out;omega⟩,by repeat (first|exact Drawn0.refl _|apply Drawn0.step)⟩
          ·rw [if_neg c26] at H
           have c26b0 : ((bt a0 x3_2) == 46) = false:=beq_eq_false_iff_ne.mpr c26
           have c26b1 : ((bt a0 x3_2) != 46) = true:=bne_iff_ne.mpr c26
           by_cases c27 : (bt a0 x3_2) = 95
           ·rw [if_pos c27] at H
            have c27b0 : ((bt a0 x3_2) == 95) = true:=beq_iff_eq.mpr c27
            have c27b1 : ((bt a0 x3_2) != 95) = false:=bne_eq_false_iff_eq.mpr c27
            clear c27
            have H':=Aside0.mk H
            clear H
            have p7 : 0 ≤ (x3_2 : Int):=of_decide_eq_true (by first|(with_reducible assumption)|assumption)
            have q7 : x3_2 < (a0.size : Int):=of_decide_eq_true (by first|(with_reducible assumption)|assumption)
            have hx7:=bt_at a0 x3_2
            replace p7:=eq_true p7
            replace q7:=eq_true q7
            go_wp2
            go_roundg k2
            case measure=>have:=HJ1.out;have:=HK2.out;omega
            case rel=>exact ⟨(wrap64 (x3_2 + 1)),(by first|rfl|(simp;done)|(simp [*];done)),H',⟨by have:=HJ1.out;have:=HK2.out;omega⟩,by repeat (first|exact Drawn0.refl _|apply Drawn0.step)⟩
           ·rw [if_neg c27] at H
            have c27b0 : ((bt a0 x3_2) == 95) = false:=beq_eq_false_iff_ne.mpr c27
            have c27b1 : ((bt a0 x3_2) != 95) = true:=bne_iff_ne.mpr c27
            by_cases c28 : (bt a0 x3_2) = 45
            ·rw [if_pos c28] at H
             have c28b0 : ((bt a0 x3_2) == 45) = true:=beq_iff_eq.mpr c28
             have c28b1 : ((bt a0 x3_2) != 45) = false:=bne_eq_false_iff_eq.mpr c28
             clear c28
             have H':=Aside0.mk H
             clear H
             have p7 : 0 ≤ (x3_2 : Int):=of_decide_eq_true (by first|(with_reducible assumption)|assumption)
             have q7 : x3_2 < (a0.size : Int):=of_decide_eq_true (by first|(with_reducible assumption)|assumption)
             have hx7:=bt_at a0 x3_2
             replace p7:=eq_true p7
             replace q7:=eq_true q7
             go_wp2
             go_roundg k2
             case measure=>have:=HJ1.out;have:=HK2.out;omega
             case rel=>exact ⟨(wrap64 (x3_2 + 1)),(by first|rfl|(simp;done)|(simp [*];done)),H',⟨by have:=HJ1.out;have:=HK2.out;omega⟩,by repeat (first|exact Drawn0.refl _|apply Drawn0.step)⟩
            ·rw [if_neg c28] at H
             have c28b0 : ((bt a0 x3_2) == 45) = false:=beq_eq_false_iff_ne.mpr c28
             have c28b1 : ((bt a0 x3_2) != 45) = true:=bne_iff_ne.mpr c28
             by_cases c29 : ((bt a0 x3_2) = 47)
             ·rw [if_pos c29] at H
              have c29b0 : ((bt a0 x3_2) == 47) = true:=beq_iff_eq.mpr c29
              have c29b1 : ((bt a0 x3_2) != 47) = false:=bne_eq_false_iff_eq.mpr c29
              clear c29
              have H':=Aside0.mk H
              clear H
              have p7 : 0 ≤ (x3_2 : Int):=of_decide_eq_true (by first|(with_reducible assumption)|assumption)
              have q7 : x3_2 < (a0.size : Int):=of_decide_eq_true (by first|(with_reducible assumption)|assumption)
              have hx7:=bt_at a0 x3_2
              replace p7:=eq_true p7
              replace q7:=eq_true q7
              go_wp2
              go_roundg k2
              case measure=>have:=HJ1.out;have:=HK2.out;omega
              case rel=>exact ⟨(wrap64 (x3_2 + 1)),(by first|rfl|(simp;done)|(simp [*];done)),H',⟨by have:=HJ1.out;have:=HK2.out;omega⟩,by repeat (first|exact Drawn0.refl _|apply Drawn0.step)⟩
             ·rw [if_neg c29] at H
              have c29b0 : ((bt a0 x3_2) == 47) = false:=beq_eq_false_iff_ne.mpr c29
              have c29b1 : ((bt a0 x3_2) != 47) = true:=bne_iff_ne.mpr c29
              obtain rfl:=Option.some.inj H
              have p7 : 0 ≤ (x3_2 : Int):=of_decide_eq_true (by first|(with_reducible assumption)|assumption)
              have q7 : x3_2 < (a0.size : Int):=of_decide_eq_true (by first|(with_reducible assumption)|assumption)
              have hx7:=bt_at a0 x3_2
              replace p7:=eq_true p7
              replace q7:=eq_true q7
              go_wp2
              go_ret
              exact ⟨by first|rfl|(simp;done)|(simp [*];done),by repeat (first|exact Drawn0.refl _|apply Drawn0.step)⟩
       ·rw [if_neg c6] at H
        exact absurd H (by simp)
      ·rw [if_neg c5] at H
       have c5b0 : decide (x3_2 < (a0.size : Int)) = false:=decide_eq_false c5
       clear c5
       obtain rfl:=Option.some.inj H
       go_wp2
       go_ret
       exact ⟨by first|rfl|(simp;done)|(simp [*];done),by repeat (first|exact Drawn0.refl _|apply Drawn0.step)⟩

/-! ### bosunref13_in: function 69 -/
def bosunref13_in.l0 : Nat → Int → ByteArray → Int → Option (Bool)
 | 0,_,_,_=>none
 | k + 1,x0,x1,x5=>if x5 < (x1.size : Int) then (if 0 ≤ x5 then (if (bt x1 x5) = x0 then (some true) else (bosunref13_in.l0 k x0 x1 (wrap64 (x5 + 1)))) else (none)) else (some false)
def bosunref13_in.f (k : Nat) (a0 : Int) (a1 : ByteArray) : Option (Bool):=bosunref13_in.l0 k a0 a1 0
theorem bosunref13_in.mono_l : ∀ k,(∀ y0 y1 y2,LeO (bosunref13_in.l0 k y0 y1 y2) (bosunref13_in.l0 (k + 1) y0 y1 y2))
 | 0=>fun _ _ _ r h=>by simp [bosunref13_in.l0] at h
 | k + 1=>by
  have ih0:=bosunref13_in.mono_l k
  ·intro y0 y1 y2
   unfold bosunref13_in.l0
   repeat' first
   | (with_reducible exact ih0 _ _ _)
   | (with_reducible exact LeO.refl _)
   | (with_reducible exact LeO.none _)
   | (with_reducible refine LeO.ite ?_ ?_)
   | (with_reducible refine LeO.bind ?_ (fun _=>?_))
   | exact ih0 _ _ _
   | exact LeO.none _
   | refine LeO.ite ?_ ?_
   | refine LeO.bind ?_ (fun _=>?_)
theorem bosunref13_in.mono : ∀ a0 a1 k,LeO (bosunref13_in.f k a0 a1) (bosunref13_in.f (k + 1) a0 a1):=by
 intro a0 a1 k
 have ih0:=bosunref13_in.mono_l k
 unfold bosunref13_in.f
 repeat' first
   | (with_reducible exact ih0 _ _ _)
   | (with_reducible exact LeO.refl _)
   | (with_reducible exact LeO.none _)
   | (with_reducible refine LeO.ite ?_ ?_)
   | (with_reducible refine LeO.bind ?_ (fun _=>?_))
   | exact ih0 _ _ _
   | exact LeO.none _
   | refine LeO.ite ?_ ?_
   | refine LeO.bind ?_ (fun _=>?_)
set_option maxHeartbeats 8000000 in
set_option maxRecDepth 100000 in
theorem bosunref13_in.calls (k : Nat) (a0 : Int) (a1 : ByteArray) (r : Bool) (w : World) (h : bosunref13_in.f k a0 a1 = some r) :
  Calls Tryd.prog 69 #[.int .u8 a0,.string a1] w fun e w'=>e = .returned (.bool r) ∧ Drawn0 w w':=by
 have H : (bosunref13_in.l0 k a0 a1 0) = some r:=h
 clear h
 have H':=Aside0.mk H
 clear H
 go_enter Tryd.func69,Tryd.ntmps69
 go_wp2
 go_loopg [5] k (fun kq v5 w'=>∃ (x5_1 : Int),v5 = .int .i64 x5_1 ∧ Aside0 (bosunref13_in.l0 kq a0 a1 x5_1 = some r) ∧ Aside0 (kq ≤ k) ∧ Drawn0 w w')
 case atStart=>exact ⟨(0),(by first|rfl|(simp;done)|(simp [*];done)),H',⟨Nat.le_refl _⟩,by repeat (first|exact Drawn0.refl _|apply Drawn0.step)⟩
 case round =>
  clear H'
  try clear p2
  obtain ⟨x5_1,rfl,HA,HK1,⟨m1,rfl⟩⟩:=hrel
  cases gk with
  | zero=>exact absurd HA.out (by simp [bosunref13_in.l0])
  | succ k1 =>
   have H:=HA.out
   clear HA
   simp only [bosunref13_in.l0] at H
   by_cases c3 : x5_1 < (a1.size : Int)
   ·rw [if_pos c3] at H
    have c3b0 : decide (x5_1 < (a1.size : Int)) = true:=decide_eq_true c3
    clear c3
    by_cases c4 : 0 ≤ x5_1
    ·rw [if_pos c4] at H
     have c4b0 : decide (0 ≤ x5_1) = true:=decide_eq_true c4
     clear c4
     by_cases c6 : (bt a1 x5_1) = a0
     ·rw [if_pos c6] at H
      have c6b0 : ((bt a1 x5_1) == a0) = true:=beq_iff_eq.mpr c6
      have c6b1 : ((bt a1 x5_1) != a0) = false:=bne_eq_false_iff_eq.mpr c6
      clear c6
      obtain rfl:=Option.some.inj H
      have p5 : 0 ≤ (x5_1 : Int):=of_decide_eq_true (by first|(with_reducible assumption)|assumption)
      have q5 : x5_1 < (a1.size : Int):=of_decide_eq_true (by first|(with_reducible assumption)|assumption)
      have hx5:=bt_at a1 x5_1
      replace p5:=eq_true p5
      replace q5:=eq_true q5
      go_wp2
      go_ret
      exact ⟨by first|rfl|(simp;done)|(simp [*];done),by repeat (first|exact Drawn0.refl _|apply Drawn0.step)⟩
     ·rw [if_neg c6] at H
      have c6b0 : ((bt a1 x5_1) == a0) = false:=beq_eq_false_iff_ne.mpr c6
      have c6b1 : ((bt a1 x5_1) != a0) = true:=bne_iff_ne.mpr c6
      have H':=Aside0.mk H
      clear H
      have p5 : 0 ≤ (x5_1 : Int):=of_decide_eq_true (by first|(with_reducible assumption)|assumption)
      have q5 : x5_1 < (a1.size : Int):=of_decide_eq_true (by first|(with_reducible assumption)|assumption)
      have hx5:=bt_at a1 x5_1
      replace p5:=eq_true p5
      replace q5:=eq_true q5
      go_wp2
      go_roundg k1
      case measure=>have:=HK1.out;omega
      case rel=>exact ⟨(wrap64 (x5_1 + 1)),(by first|rfl|(simp;done)|(simp [*];done)),H',⟨by have:=HK1.out;omega⟩,by repeat (first|exact Drawn0.refl _|apply Drawn0.step)⟩
    ·rw [if_neg c4] at H
     exact absurd H (by simp)
   ·rw [if_neg c3] at H
    have c3b0 : decide (x5_1 < (a1.size : Int)) = false:=decide_eq_false c3
    clear c3
    obtain rfl:=Option.some.inj H
    go_wp2
    go_ret
    exact ⟨by first|rfl|(simp;done)|(simp [*];done),by repeat (first|exact Drawn0.refl _|apply Drawn0.step)⟩

end Go.Proofs.YtpmbdcljphpcnaaDoor.GCk
