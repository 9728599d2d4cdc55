/- Written by this session's own program (wip/gen.py) out of the translation: plain Lean functions of the Go functions, and proofs that the calls come to their answers. No conditions beside those in the statements. -/
import Derived.Test.YtpmbdcljphpcnaaDoorGCkx0
import Derived.Test.YtpmbdcljphpcnaaDoorGCkx12
import Derived.Test.YtpmbdcljphpcnaaDoorGCkx13
namespace Go.Proofs.YtpmbdcljphpcnaaDoor.GCk
open Go.RowKit Go.Proofs.YtpmbdcljphpcnaaDoorW.PrintWords Go.Proofs.YtpmbdcljphpcnaaDoorW.PrintLast Go.Proofs.YtpmbdcljphpcnaaDoorW.PrintMore
attribute [local go_sem] max2_int min2_int max_two min_two max_three min_three max_four min_four   -- for this text's walks alone
set_option linter.unusedVariables false
set_option linter.unusedSimpArgs false

/-! ### bosunref17_Check: function 12 -/
mutual
def bosunref17_Check.l0 : Nat → Int → Int → List (S67) → Option (Int)
 | 0,_,_,_=>none
 | k + 1,x3,x222000,x222001=>if x3 < (x222001.length : Int) then (if 0 ≤ x3 then ((bosunref04_Name.f k ((rd_T67 x222001 x3).f0)).bind fun t224=>(if t224 = true then ((bosunref13_Name.f k ((rd_T67 x222001 x3).f1)).bind fun t225=>(bosunref17_Check.j1 k x3 (!t225) x222000 x222001 ((rd_T67 x222001 x3).f0) ((rd_T67 x222001 x3).f1) ((rd_T67 x222001 x3).f2) ((rd_T67 x222001 x3).f3))) else (bosunref17_Check.j1 k x3 true x222000 x222001 ((rd_T67 x222001 x3).f0) ((rd_T67 x222001 x3).f1) ((rd_T67 x222001 x3).f2) ((rd_T67 x222001 x3).f3)))) else (none)) else (some 0)
def bosunref17_Check.j1 : Nat → Int → Bool → Int → List (S67) → ByteArray → ByteArray → ByteArray → Int → Option (Int)
 | 0,_,_,_,_,_,_,_,_=>none
 | k + 1,x3,x30,x222000,x222001,x224000,x224001,x224002,x224003=>if x30 = true then (some 13) else ((bosunref13_Image.f k x224002).bind fun t226=>(if t226 = true then (if x3 > 0 then (if 0 ≤ (wrap64 (x3 - 1)) then (if (wrap64 (x3 - 1)) < (x222001.length : Int) then (bosunref17_Check.j2 k x3 (!(Op.bytesLess (((rd_T67 x222001 (wrap64 (x3 - 1))).f0).toList) x224000.toList)) x222000 x222001 x224000 x224001 x224002 x224003) else (none)) else (none)) else (bosunref17_Check.j2 k x3 false x222000 x222001 x224000 x224001 x224002 x224003)) else (bosunref17_Check.j2 k x3 true x222000 x222001 x224000 x224001 x224002 x224003)))
def bosunref17_Check.j2 : Nat → Int → Bool → Int → List (S67) → ByteArray → ByteArray → ByteArray → Int → Option (Int)
 | 0,_,_,_,_,_,_,_,_=>none
 | k + 1,x3,x50,x222000,x222001,x224000,x224001,x224002,x224003=>if x50 = true then (some 6) else (if x224003 > 2 then (some 7) else (bosunref17_Check.l0 k (wrap64 (x3 + 1)) x222000 x222001))
end
def bosunref17_Check.f (k : Nat) (a0_0 : Int) (l0_1 : List (S67)) : Option (Int):=if (l0_1.length : Int) > 1024 then (some 18) else (bosunref17_Check.l0 k 0 a0_0 l0_1)
theorem bosunref17_Check.mono_l : ∀ k,(∀ y0 y1 y2,LeO (bosunref17_Check.l0 k y0 y1 y2) (bosunref17_Check.l0 (k + 1) y0 y1 y2)) ∧ (∀ y0 y1 y2 y3 y4 y5 y6 y7,LeO (bosunref17_Check.j1 k y0 y1 y2 y3 y4 y5 y6 y7) (bosunref17_Check.j1 (k + 1) y0 y1 y2 y3 y4 y5 y6 y7)) ∧ (∀ y0 y1 y2 y3 y4 y5 y6 y7,LeO (bosunref17_Check.j2 k y0 y1 y2 y3 y4 y5 y6 y7) (bosunref17_Check.j2 (k + 1) y0 y1 y2 y3 y4 y5 y6 y7))
 | 0=>⟨fun _ _ _ r h=>by simp [bosunref17_Check.l0] at h,fun _ _ _ _ _ _ _ _ r h=>by simp [bosunref17_Check.j1] at h,fun _ _ _ _ _ _ _ _ r h=>by simp [bosunref17_Check.j2] at h⟩
 | k + 1=>by
  obtain ⟨ih0,ih1,ih2⟩:=bosunref17_Check.mono_l k
  refine ⟨?_,?_,?_⟩
  ·intro y0 y1 y2
   unfold bosunref17_Check.l0
   repeat' first
   | (with_reducible exact ih0 _ _ _)
   | (with_reducible exact ih1 _ _ _ _ _ _ _ _)
   | (with_reducible exact ih2 _ _ _ _ _ _ _ _)
   | (with_reducible exact bosunref04_Name.mono _ _)
   | (with_reducible exact bosunref13_Image.mono _ _)
   | (with_reducible exact bosunref13_Name.mono _ _)
   | (with_reducible exact LeO.refl _)
   | (with_reducible exact LeO.none _)
   | (with_reducible refine LeO.ite ?_ ?_)
   | (with_reducible refine LeO.bind ?_ (fun _=>?_))
   | exact ih0 _ _ _
   | exact ih1 _ _ _ _ _ _ _ _
   | exact ih2 _ _ _ _ _ _ _ _
   | exact bosunref04_Name.mono _ _
   | exact bosunref13_Image.mono _ _
   | exact bosunref13_Name.mono _ _
   | exact LeO.none _
   | refine LeO.ite ?_ ?_
   | refine LeO.bind ?_ (fun _=>?_)
  ·intro y0 y1 y2 y3 y4 y5 y6 y7
   unfold bosunref17_Check.j1
   repeat' first
   | (with_reducible exact ih0 _ _ _)
   | (with_reducible exact ih1 _ _ _ _ _ _ _ _)
   | (with_reducible exact ih2 _ _ _ _ _ _ _ _)
   | (with_reducible exact bosunref04_Name.mono _ _)
   | (with_reducible exact bosunref13_Image.mono _ _)
   | (with_reducible exact bosunref13_Name.mono _ _)
   | (with_reducible exact LeO.refl _)
   | (with_reducible exact LeO.none _)
   | (with_reducible refine LeO.ite ?_ ?_)
   | (with_reducible refine LeO.bind ?_ (fun _=>?_))
   | exact ih0 _ _ _
   | exact ih1 _ _ _ _ _ _ _ _
   | exact ih2 _ _ _ _ _ _ _ _
   | exact bosunref04_Name.mono _ _
   | exact bosunref13_Image.mono _ _
   | exact bosunref13_Name.mono _ _
   | exact LeO.none _
   | refine LeO.ite ?_ ?_
   | refine LeO.bind ?_ (fun _=>?_)
  ·intro y0 y1 y2 y3 y4 y5 y6 y7
   unfold bosunref17_Check.j2
   repeat' first
   | (with_reducible exact ih0 _ _ _)
   | (with_reducible exact ih1 _ _ _ _ _ _ _ _)
   | (with_reducible exact ih2 _ _ _ _ _ _ _ _)
   | (with_reducible exact bosunref04_Name.mono _ _)
   | (with_reducible exact bosunref13_Image.mono _ _)
   | (with_reducible exact bosunref13_Name.mono _ _)
   | (with_reducible exact LeO.refl _)
   | (with_reducible exact LeO.none _)
   | (with_reducible refine LeO.ite ?_ ?_)
   | (with_reducible refine LeO.bind ?_ (fun _=>?_))
   | exact ih0 _ _ _
   | exact ih1 _ _ _ _ _ _ _ _
   | exact ih2 _ _ _ _ _ _ _ _
   | exact bosunref04_Name.mono _ _
   | exact bosunref13_Image.mono _ _
   | exact bosunref13_Name.mono _ _
   | exact LeO.none _
   | refine LeO.ite ?_ ?_
   | refine LeO.bind ?_ (fun _=>?_)
theorem bosunref17_Check.mono : ∀ a0 a1 k,LeO (bosunref17_Check.f k a0 a1) (bosunref17_Check.f (k + 1) a0 a1):=by
 intro a0 a1 k
 obtain ⟨ih0,ih1,ih2⟩:=bosunref17_Check.mono_l k
 unfold bosunref17_Check.f
 repeat' first
   | (with_reducible exact ih0 _ _ _)
   | (with_reducible exact ih1 _ _ _ _ _ _ _ _)
   | (with_reducible exact ih2 _ _ _ _ _ _ _ _)
   | (with_reducible exact bosunref04_Name.mono _ _)
   | (with_reducible exact bosunref13_Image.mono _ _)
   | (with_reducible exact bosunref13_Name.mono _ _)
   | (with_reducible exact LeO.refl _)
   | (with_reducible exact LeO.none _)
   | (with_reducible refine LeO.ite ?_ ?_)
   | (with_reducible refine LeO.bind ?_ (fun _=>?_))
   | exact ih0 _ _ _
   | exact ih1 _ _ _ _ _ _ _ _
   | exact ih2 _ _ _ _ _ _ _ _
   | exact bosunref04_Name.mono _ _
   | exact bosunref13_Image.mono _ _
   | exact bosunref13_Name.mono _ _
   | exact LeO.none _
   | refine LeO.ite ?_ ?_
   | refine LeO.bind ?_ (fun _=>?_)
set_option maxHeartbeats 8000000 in
set_option maxRecDepth 100000 in
theorem bosunref17_Check.calls (k : Nat) (a0_0 : Int) (A0_1 : Option Addr) (c0_1 : Nat) (l0_1 : List (S67)) (r : Int) (w : World) (hr0_1 : Kd.C k67 w A0_1 l0_1.length l0_1) (hc0_1 : l0_1.length ≤ c0_1) (h : bosunref17_Check.f k a0_0 l0_1 = some r) :
  Calls Tryd.prog 12 #[.agg #[.int .u32 a0_0,.slice A0_1 l0_1.length c0_1]] w fun e w'=>e = .returned (.int .i64 r) ∧ Below w.heap.size w w':=by
 have hu30:=Tryd.underlying30
 have hu67:=Tryd.underlying67
 have HR0_1:=Aside0.mk hr0_1
 have HC0_1:=Aside0.mk hc0_1
 clear hr0_1 hc0_1
 have HB:=Aside0.mk (Below.refl w.heap.size w)
 have H : (if (l0_1.length : Int) > 1024 then (some 18) else (bosunref17_Check.l0 k 0 a0_0 l0_1)) = some r:=h
 clear h
 by_cases c2 : (l0_1.length : Int) > 1024
 ·rw [if_pos c2] at H
  have c2b0 : decide (1024 < (l0_1.length : Int)) = true:=decide_eq_true c2
  have c2b1 : decide (1024 < l0_1.length) = true:=decide_eq_true (by omega)
  clear c2
  obtain rfl:=Option.some.inj H
  go_enter Tryd.func12,Tryd.ntmps12
  go_wp2_with (first|((with_reducible refine gate_dst (N:=1) rfl ?_);refine box_event ?hg (N:=1) ?hd (cs:=#[.int .u32 a0_0,.slice A0_1 l0_1.length c0_1]) (t:=30) ?hr ?_;(case hd=>rfl);(case hg=>rfl);(case hr=>first|(go_simp;done)|(go_simp;rfl));intro gb221 hg w3 hbox hb;have n0_:=Aside0.mk (below_step (by repeat (first|(with_reducible first|exact HB.out|apply below_alloc|apply pw_below_drewN|apply below_drew1)|exact HB.out)) hb);have n1_:=Aside0.mk (hbox);have n2_:=Aside0.mk ((by rw [hg];exact (below_size (by repeat (first|(with_reducible first|exact HB.out|apply below_alloc|apply pw_below_drewN|apply below_drew1)|exact HB.out))) : w.heap.size ≤ gb221));have n3_:=Aside0.mk ((by rw [hg];exact (below_size (by repeat (first|(with_reducible first|exact HB.out|apply below_alloc|apply pw_below_drewN|apply below_drew1)|exact HB.out))) : w.heap.size ≤ gb221));clear HB;have HB:=n0_;have BK221:=n1_;have GW221:=n2_;have GE221:=n3_;clear n0_ n1_ n2_ n3_;clear hb hbox hg;have hcz4_0 : w3.cell? ⟨gb221,0,none⟩ = some (.int .u32 a0_0):=(blk_cell BK221.out 0).trans rfl;have hcz4_1 : w3.cell? ⟨gb221,1,none⟩ = some (.slice A0_1 l0_1.length c0_1):=(blk_cell BK221.out 1).trans rfl;have hfz4_0:=blk_frozen BK221.out 0;have hfz4_1:=blk_frozen BK221.out 1))
  repeat (go_quiet (first|((with_reducible refine gate_dst (N:=1) rfl ?_);refine box_event ?hg (N:=1) ?hd (cs:=#[.int .u32 a0_0,.slice A0_1 l0_1.length c0_1]) (t:=30) ?hr ?_;(case hd=>rfl);(case hg=>rfl);(case hr=>first|(go_simp;done)|(go_simp;rfl));intro gb221 hg w3 hbox hb;have n0_:=Aside0.mk (below_step (by repeat (first|(with_reducible first|exact HB.out|apply below_alloc|apply pw_below_drewN|apply below_drew1)|exact HB.out)) hb);have n1_:=Aside0.mk (hbox);have n2_:=Aside0.mk ((by rw [hg];exact (below_size (by repeat (first|(with_reducible first|exact HB.out|apply below_alloc|apply pw_below_drewN|apply below_drew1)|exact HB.out))) : w.heap.size ≤ gb221));have n3_:=Aside0.mk ((by rw [hg];exact (below_size (by repeat (first|(with_reducible first|exact HB.out|apply below_alloc|apply pw_below_drewN|apply below_drew1)|exact HB.out))) : w.heap.size ≤ gb221));clear HB;have HB:=n0_;have BK221:=n1_;have GW221:=n2_;have GE221:=n3_;clear n0_ n1_ n2_ n3_;clear hb hbox hg;have hcz4_0 : w3.cell? ⟨gb221,0,none⟩ = some (.int .u32 a0_0):=(blk_cell BK221.out 0).trans rfl;have hcz4_1 : w3.cell? ⟨gb221,1,none⟩ = some (.slice A0_1 l0_1.length c0_1):=(blk_cell BK221.out 1).trans rfl;have hfz4_0:=blk_frozen BK221.out 0;have hfz4_1:=blk_frozen BK221.out 1));try go_wp2_with (first|((with_reducible refine gate_dst (N:=1) rfl ?_);refine box_event ?hg (N:=1) ?hd (cs:=#[.int .u32 a0_0,.slice A0_1 l0_1.length c0_1]) (t:=30) ?hr ?_;(case hd=>rfl);(case hg=>rfl);(case hr=>first|(go_simp;done)|(go_simp;rfl));intro gb221 hg w3 hbox hb;have n0_:=Aside0.mk (below_step (by repeat (first|(with_reducible first|exact HB.out|apply below_alloc|apply pw_below_drewN|apply below_drew1)|exact HB.out)) hb);have n1_:=Aside0.mk (hbox);have n2_:=Aside0.mk ((by rw [hg];exact (below_size (by repeat (first|(with_reducible first|exact HB.out|apply below_alloc|apply pw_below_drewN|apply below_drew1)|exact HB.out))) : w.heap.size ≤ gb221));have n3_:=Aside0.mk ((by rw [hg];exact (below_size (by repeat (first|(with_reducible first|exact HB.out|apply below_alloc|apply pw_below_drewN|apply below_drew1)|exact HB.out))) : w.heap.size ≤ gb221));clear HB;have HB:=n0_;have BK221:=n1_;have GW221:=n2_;have GE221:=n3_;clear n0_ n1_ n2_ n3_;clear hb hbox hg;have hcz4_0 : w3.cell? ⟨gb221,0,none⟩ = some (.int .u32 a0_0):=(blk_cell BK221.out 0).trans rfl;have hcz4_1 : w3.cell? ⟨gb221,1,none⟩ = some (.slice A0_1 l0_1.length c0_1):=(blk_cell BK221.out 1).trans rfl;have hfz4_0:=blk_frozen BK221.out 0;have hfz4_1:=blk_frozen BK221.out 1)))
  go_ret
  exact ⟨by first|rfl|(simp [errW_none,errW_some] <;> rfl)|(simp [*,errW_none,errW_some] <;> rfl),by repeat (first|(with_reducible first|exact HB.out|apply below_alloc|apply pw_below_drewN|apply below_drew1|refine below_set ?_ GE221.out)|exact HB.out)⟩
 ·rw [if_neg c2] at H
  have c2b0 : decide (1024 < (l0_1.length : Int)) = false:=decide_eq_false c2
  have c2b1 : decide (1024 < l0_1.length) = false:=decide_eq_false (by omega)
  clear c2
  have H':=Aside0.mk H
  clear H
  go_enter Tryd.func12,Tryd.ntmps12
  go_wp2_with (first|((with_reducible refine gate_dst (N:=1) rfl ?_);refine box_event ?hg (N:=1) ?hd (cs:=#[.int .u32 a0_0,.slice A0_1 l0_1.length c0_1]) (t:=30) ?hr ?_;(case hd=>rfl);(case hg=>rfl);(case hr=>first|(go_simp;done)|(go_simp;rfl));intro gb221 hg w5 hbox hb;have n0_:=Aside0.mk (below_step (by repeat (first|(with_reducible first|exact HB.out|apply below_alloc|apply pw_below_drewN|apply below_drew1)|exact HB.out)) hb);have n1_:=Aside0.mk (hbox);have n2_:=Aside0.mk ((by rw [hg];exact (below_size (by repeat (first|(with_reducible first|exact HB.out|apply below_alloc|apply pw_below_drewN|apply below_drew1)|exact HB.out))) : w.heap.size ≤ gb221));have n3_:=Aside0.mk ((by rw [hg];exact (below_size (by repeat (first|(with_reducible first|exact HB.out|apply below_alloc|apply pw_below_drewN|apply below_drew1)|exact HB.out))) : w.heap.size ≤ gb221));clear HB;have HB:=n0_;have BK221:=n1_;have GW221:=n2_;have GE221:=n3_;clear n0_ n1_ n2_ n3_;clear hb hbox hg;have hcz6_0 : w5.cell? ⟨gb221,0,none⟩ = some (.int .u32 a0_0):=(blk_cell BK221.out 0).trans rfl;have hcz6_1 : w5.cell? ⟨gb221,1,none⟩ = some (.slice A0_1 l0_1.length c0_1):=(blk_cell BK221.out 1).trans rfl;have hfz6_0:=blk_frozen BK221.out 0;have hfz6_1:=blk_frozen BK221.out 1))
  repeat (go_quiet (first|((with_reducible refine gate_dst (N:=1) rfl ?_);refine box_event ?hg (N:=1) ?hd (cs:=#[.int .u32 a0_0,.slice A0_1 l0_1.length c0_1]) (t:=30) ?hr ?_;(case hd=>rfl);(case hg=>rfl);(case hr=>first|(go_simp;done)|(go_simp;rfl));intro gb221 hg w5 hbox hb;have n0_:=Aside0.mk (below_step (by repeat (first|(with_reducible first|exact HB.out|apply below_alloc|apply pw_below_drewN|apply below_drew1)|exact HB.out)) hb);have n1_:=Aside0.mk (hbox);have n2_:=Aside0.mk ((by rw [hg];exact (below_size (by repeat (first|(with_reducible first|exact HB.out|apply below_alloc|apply pw_below_drewN|apply below_drew1)|exact HB.out))) : w.heap.size ≤ gb221));have n3_:=Aside0.mk ((by rw [hg];exact (below_size (by repeat (first|(with_reducible first|exact HB.out|apply below_alloc|apply pw_below_drewN|apply below_drew1)|exact HB.out))) : w.heap.size ≤ gb221));clear HB;have HB:=n0_;have BK221:=n1_;have GW221:=n2_;have GE221:=n3_;clear n0_ n1_ n2_ n3_;clear hb hbox hg;have hcz6_0 : w5.cell? ⟨gb221,0,none⟩ = some (.int .u32 a0_0):=(blk_cell BK221.out 0).trans rfl;have hcz6_1 : w5.cell? ⟨gb221,1,none⟩ = some (.slice A0_1 l0_1.length c0_1):=(blk_cell BK221.out 1).trans rfl;have hfz6_0:=blk_frozen BK221.out 0;have hfz6_1:=blk_frozen BK221.out 1));try go_wp2_with (first|((with_reducible refine gate_dst (N:=1) rfl ?_);refine box_event ?hg (N:=1) ?hd (cs:=#[.int .u32 a0_0,.slice A0_1 l0_1.length c0_1]) (t:=30) ?hr ?_;(case hd=>rfl);(case hg=>rfl);(case hr=>first|(go_simp;done)|(go_simp;rfl));intro gb221 hg w5 hbox hb;have n0_:=Aside0.mk (below_step (by repeat (first|(with_reducible first|exact HB.out|apply below_alloc|apply pw_below_drewN|apply below_drew1)|exact HB.out)) hb);have n1_:=Aside0.mk (hbox);have n2_:=Aside0.mk ((by rw [hg];exact (below_size (by repeat (first|(with_reducible first|exact HB.out|apply below_alloc|apply pw_below_drewN|apply below_drew1)|exact HB.out))) : w.heap.size ≤ gb221));have n3_:=Aside0.mk ((by rw [hg];exact (below_size (by repeat (first|(with_reducible first|exact HB.out|apply below_alloc|apply pw_below_drewN|apply below_drew1)|exact HB.out))) : w.heap.size ≤ gb221));clear HB;have HB:=n0_;have BK221:=n1_;have GW221:=n2_;have GE221:=n3_;clear n0_ n1_ n2_ n3_;clear hb hbox hg;have hcz6_0 : w5.cell? ⟨gb221,0,none⟩ = some (.int .u32 a0_0):=(blk_cell BK221.out 0).trans rfl;have hcz6_1 : w5.cell? ⟨gb221,1,none⟩ = some (.slice A0_1 l0_1.length c0_1):=(blk_cell BK221.out 1).trans rfl;have hfz6_0:=blk_frozen BK221.out 0;have hfz6_1:=blk_frozen BK221.out 1)))
  go_loopg [3] k (fun kq v3 w'=>∃ (x3_1 : Int),v3 = .int .i64 x3_1 ∧ Aside0 (bosunref17_Check.l0 kq x3_1 a0_0 l0_1 = some r) ∧ Aside0 (kq ≤ k) ∧ Aside0 (w'.heap[gb221]? = some (.cells #[.int .u32 a0_0,(.slice A0_1 l0_1.length c0_1)] 30 (0,0))) ∧ Aside0 (Below w.heap.size w w'))
  case atStart=>exact ⟨(0),(by first|rfl|(simp;done)|(simp [*];done)),H',⟨Nat.le_refl _⟩,⟨by (with_reducible repeat (first|apply blk_drewN|apply blk_drew|apply blk_alloc));exact BK221.out⟩,⟨by repeat (first|(with_reducible first|exact HB.out|apply below_alloc|apply pw_below_drewN|apply below_drew1|refine below_set ?_ GE221.out)|exact HB.out)⟩⟩
  case round =>
   clear H'
   try clear c1
   try clear c2
   try clear c2b0
   try clear c2b1
   try clear p2
   try clear hcz4_0
   try clear hcz4_1
   try clear hcz6_0
   try clear hcz6_1
   try clear hfz4_0
   try clear hfz4_1
   try clear hfz6_0
   try clear hfz6_1
   obtain ⟨x3_1,rfl,HA,HK1,BK221,HB⟩:=hrel
   cases gk with
   | zero=>exact absurd HA.out (by simp [bosunref17_Check.l0])
   | succ k1 =>
    have H:=HA.out
    clear HA
    simp only [bosunref17_Check.l0] at H
    by_cases c7 : x3_1 < (l0_1.length : Int)
    ·rw [if_pos c7] at H
     have c7b0 : decide (x3_1 < (l0_1.length : Int)) = true:=decide_eq_true c7
     clear c7
     by_cases c8 : 0 ≤ x3_1
     ·rw [if_pos c8] at H
      have c8b0 : decide (0 ≤ x3_1) = true:=decide_eq_true c8
      clear c8
      have HC9:=Aside0.mk H
      clear H
      have hcz10_0 : wr.cell? ⟨gb221,0,none⟩ = some (.int .u32 a0_0):=(blk_cell BK221.out 0).trans rfl
      have hcz10_1 : wr.cell? ⟨gb221,1,none⟩ = some (.slice A0_1 l0_1.length c0_1):=(blk_cell BK221.out 1).trans rfl
      have hfz10_0:=blk_frozen BK221.out 0
      have hfz10_1:=blk_frozen BK221.out 1
      have p222 : 0 ≤ (x3_1 : Int):=of_decide_eq_true (by first|(with_reducible assumption)|assumption)
      have q222 : x3_1 < (l0_1.length : Int):=of_decide_eq_true (by first|(with_reducible assumption)|assumption)
      obtain ⟨ad222,e222,hx222_0,hx222_1,hx222_2,hx222_3⟩:=at_T67 HR0_1.out x3_1 p222 q222
      cases e222
      replace hx222_0:=(HB.out.cell (World.block_lt_of_cell? w _ hx222_0)).trans hx222_0
      replace hx222_1:=(HB.out.cell (World.block_lt_of_cell? w _ hx222_1)).trans hx222_1
      replace hx222_2:=(HB.out.cell (World.block_lt_of_cell? w _ hx222_2)).trans hx222_2
      replace hx222_3:=(HB.out.cell (World.block_lt_of_cell? w _ hx222_3)).trans hx222_3
      replace p222:=eq_true p222
      replace q222:=eq_true q222
      go_upto_region 7 with (first|((with_reducible refine gate_dst (N:=4) rfl ?_);refine box_event ?hg (N:=4) ?hd (cs:=#[.string (⟨#[]⟩ : ByteArray),.string (⟨#[]⟩ : ByteArray),.string (⟨#[]⟩ : ByteArray),.int .u8 0]) (t:=67) ?hr ?_;(case hd=>rfl);(case hg=>rfl);(case hr=>first|(go_simp;done)|(go_simp;rfl));intro gb223 hg w11 hbox hb;have n0_:=Aside0.mk (blk_below (g:=gb221) (o:=.cells #[.int .u32 a0_0,.slice (some ad222) l0_1.length c0_1] 30 (0,0)) (by (with_reducible repeat (first|apply blk_drewN|apply blk_drew|apply blk_alloc));exact BK221.out) hb);have n1_:=Aside0.mk (below_step (by repeat (first|(with_reducible first|exact HB.out|apply below_alloc|apply pw_below_drewN|apply below_drew1|refine below_set ?_ GE221.out)|exact HB.out)) hb);have n2_:=Aside0.mk (hbox);have n3_:=Aside0.mk ((by rw [hg];exact (below_size (by repeat (first|(with_reducible first|exact HB.out|apply below_alloc|apply pw_below_drewN|apply below_drew1|refine below_set ?_ GE221.out)|exact HB.out))) : w.heap.size ≤ gb223));have n4_:=Aside0.mk ((by rw [hg];exact (below_size (by repeat (first|(with_reducible first|exact HB.out|apply below_alloc|apply pw_below_drewN|apply below_drew1|refine below_set ?_ GE221.out)|exact HB.out))) : w.heap.size ≤ gb223));have n5_:=Aside0.mk ((by rw [hg];exact Nat.ne_of_lt (blk_lt (g:=gb221) (o:=.cells #[.int .u32 a0_0,.slice (some ad222) l0_1.length c0_1] 30 (0,0)) (by (with_reducible repeat (first|apply blk_drewN|apply blk_drew|apply blk_alloc));exact BK221.out)) : gb221 ≠ gb223));have n6_:=Aside0.mk ((by rw [hg];exact Nat.ne_of_gt (blk_lt (g:=gb221) (o:=.cells #[.int .u32 a0_0,.slice (some ad222) l0_1.length c0_1] 30 (0,0)) (by (with_reducible repeat (first|apply blk_drewN|apply blk_drew|apply blk_alloc));exact BK221.out)) : gb223 ≠ gb221));clear BK221;clear HB;have BK221:=n0_;have HB:=n1_;have BK223:=n2_;have GW223:=n3_;have GE223:=n4_;have NB221_223:=n5_;have NB223_221:=n6_;clear n0_ n1_ n2_ n3_ n4_ n5_ n6_;clear hb hbox hg;have hnb12:=NB223_221.out;have hnc12:=NB221_223.out;have hcz13_0 : w11.cell? ⟨gb223,0,none⟩ = some (.string (⟨#[]⟩ : ByteArray)):=(blk_cell BK223.out 0).trans rfl;have hcz13_1 : w11.cell? ⟨gb223,1,none⟩ = some (.string (⟨#[]⟩ : ByteArray)):=(blk_cell BK223.out 1).trans rfl;have hcz13_2 : w11.cell? ⟨gb223,2,none⟩ = some (.string (⟨#[]⟩ : ByteArray)):=(blk_cell BK223.out 2).trans rfl;have hcz13_3 : w11.cell? ⟨gb223,3,none⟩ = some (.int .u8 0):=(blk_cell BK223.out 3).trans rfl;have hfz13_0:=blk_frozen BK223.out 0;have hfz13_1:=blk_frozen BK223.out 1;have hfz13_2:=blk_frozen BK223.out 2;have hfz13_3:=blk_frozen BK223.out 3))
      repeat (go_quiet (first|((with_reducible refine gate_dst (N:=4) rfl ?_);refine box_event ?hg (N:=4) ?hd (cs:=#[.string (⟨#[]⟩ : ByteArray),.string (⟨#[]⟩ : ByteArray),.string (⟨#[]⟩ : ByteArray),.int .u8 0]) (t:=67) ?hr ?_;(case hd=>rfl);(case hg=>rfl);(case hr=>first|(go_simp;done)|(go_simp;rfl));intro gb223 hg w11 hbox hb;have n0_:=Aside0.mk (blk_below (g:=gb221) (o:=.cells #[.int .u32 a0_0,.slice (some ad222) l0_1.length c0_1] 30 (0,0)) (by (with_reducible repeat (first|apply blk_drewN|apply blk_drew|apply blk_alloc));exact BK221.out) hb);have n1_:=Aside0.mk (below_step (by repeat (first|(with_reducible first|exact HB.out|apply below_alloc|apply pw_below_drewN|apply below_drew1|refine below_set ?_ GE221.out)|exact HB.out)) hb);have n2_:=Aside0.mk (hbox);have n3_:=Aside0.mk ((by rw [hg];exact (below_size (by repeat (first|(with_reducible first|exact HB.out|apply below_alloc|apply pw_below_drewN|apply below_drew1|refine below_set ?_ GE221.out)|exact HB.out))) : w.heap.size ≤ gb223));have n4_:=Aside0.mk ((by rw [hg];exact (below_size (by repeat (first|(with_reducible first|exact HB.out|apply below_alloc|apply pw_below_drewN|apply below_drew1|refine below_set ?_ GE221.out)|exact HB.out))) : w.heap.size ≤ gb223));have n5_:=Aside0.mk ((by rw [hg];exact Nat.ne_of_lt (blk_lt (g:=gb221) (o:=.cells #[.int .u32 a0_0,.slice (some ad222) l0_1.length c0_1] 30 (0,0)) (by (with_reducible repeat (first|apply blk_drewN|apply blk_drew|apply blk_alloc));exact BK221.out)) : gb221 ≠ gb223));have n6_:=Aside0.mk ((by rw [hg];exact Nat.ne_of_gt (blk_lt (g:=gb221) (o:=.cells #[.int .u32 a0_0,.slice (some ad222) l0_1.length c0_1] 30 (0,0)) (by (with_reducible repeat (first|apply blk_drewN|apply blk_drew|apply blk_alloc));exact BK221.out)) : gb223 ≠ gb221));clear BK221;clear HB;have BK221:=n0_;have HB:=n1_;have BK223:=n2_;have GW223:=n3_;have GE223:=n4_;have NB221_223:=n5_;have NB223_221:=n6_;clear n0_ n1_ n2_ n3_ n4_ n5_ n6_;clear hb hbox hg;have hnb12:=NB223_221.out;have hnc12:=NB221_223.out;have hcz13_0 : w11.cell? ⟨gb223,0,none⟩ = some (.string (⟨#[]⟩ : ByteArray)):=(blk_cell BK223.out 0).trans rfl;have hcz13_1 : w11.cell? ⟨gb223,1,none⟩ = some (.string (⟨#[]⟩ : ByteArray)):=(blk_cell BK223.out 1).trans rfl;have hcz13_2 : w11.cell? ⟨gb223,2,none⟩ = some (.string (⟨#[]⟩ : ByteArray)):=(blk_cell BK223.out 2).trans rfl;have hcz13_3 : w11.cell? ⟨gb223,3,none⟩ = some (.int .u8 0):=(blk_cell BK223.out 3).trans rfl;have hfz13_0:=blk_frozen BK223.out 0;have hfz13_1:=blk_frozen BK223.out 1;have hfz13_2:=blk_frozen BK223.out 2;have hfz13_3:=blk_frozen BK223.out 3));go_upto_region 7 with (first|((with_reducible refine gate_dst (N:=4) rfl ?_);refine box_event ?hg (N:=4) ?hd (cs:=#[.string (⟨#[]⟩ : ByteArray),.string (⟨#[]⟩ : ByteArray),.string (⟨#[]⟩ : ByteArray),.int .u8 0]) (t:=67) ?hr ?_;(case hd=>rfl);(case hg=>rfl);(case hr=>first|(go_simp;done)|(go_simp;rfl));intro gb223 hg w11 hbox hb;have n0_:=Aside0.mk (blk_below (g:=gb221) (o:=.cells #[.int .u32 a0_0,.slice (some ad222) l0_1.length c0_1] 30 (0,0)) (by (with_reducible repeat (first|apply blk_drewN|apply blk_drew|apply blk_alloc));exact BK221.out) hb);have n1_:=Aside0.mk (below_step (by repeat (first|(with_reducible first|exact HB.out|apply below_alloc|apply pw_below_drewN|apply below_drew1|refine below_set ?_ GE221.out)|exact HB.out)) hb);have n2_:=Aside0.mk (hbox);have n3_:=Aside0.mk ((by rw [hg];exact (below_size (by repeat (first|(with_reducible first|exact HB.out|apply below_alloc|apply pw_below_drewN|apply below_drew1|refine below_set ?_ GE221.out)|exact HB.out))) : w.heap.size ≤ gb223));have n4_:=Aside0.mk ((by rw [hg];exact (below_size (by repeat (first|(with_reducible first|exact HB.out|apply below_alloc|apply pw_below_drewN|apply below_drew1|refine below_set ?_ GE221.out)|exact HB.out))) : w.heap.size ≤ gb223));have n5_:=Aside0.mk ((by rw [hg];exact Nat.ne_of_lt (blk_lt (g:=gb221) (o:=.cells #[.int .u32 a0_0,.slice (some ad222) l0_1.length c0_1] 30 (0,0)) (by (with_reducible repeat (first|apply blk_drewN|apply blk_drew|apply blk_alloc));exact BK221.out)) : gb221 ≠ gb223));have n6_:=Aside0.mk ((by rw [hg];exact Nat.ne_of_gt (blk_lt (g:=gb221) (o:=.cells #[.int .u32 a0_0,.slice (some ad222) l0_1.length c0_1] 30 (0,0)) (by (with_reducible repeat (first|apply blk_drewN|apply blk_drew|apply blk_alloc));exact BK221.out)) : gb223 ≠ gb221));clear BK221;clear HB;have BK221:=n0_;have HB:=n1_;have BK223:=n2_;have GW223:=n3_;have GE223:=n4_;have NB221_223:=n5_;have NB223_221:=n6_;clear n0_ n1_ n2_ n3_ n4_ n5_ n6_;clear hb hbox hg;have hnb12:=NB223_221.out;have hnc12:=NB221_223.out;have hcz13_0 : w11.cell? ⟨gb223,0,none⟩ = some (.string (⟨#[]⟩ : ByteArray)):=(blk_cell BK223.out 0).trans rfl;have hcz13_1 : w11.cell? ⟨gb223,1,none⟩ = some (.string (⟨#[]⟩ : ByteArray)):=(blk_cell BK223.out 1).trans rfl;have hcz13_2 : w11.cell? ⟨gb223,2,none⟩ = some (.string (⟨#[]⟩ : ByteArray)):=(blk_cell BK223.out 2).trans rfl;have hcz13_3 : w11.cell? ⟨gb223,3,none⟩ = some (.int .u8 0):=(blk_cell BK223.out 3).trans rfl;have hfz13_0:=blk_frozen BK223.out 0;have hfz13_1:=blk_frozen BK223.out 1;have hfz13_2:=blk_frozen BK223.out 2;have hfz13_3:=blk_frozen BK223.out 3)))
      (try simp only [Act.put,List.setIfInBounds_toArray,List.set_cons_zero,List.set_cons_succ])
      go_cut [30] (fun v30 wc=>∃ (kq : Nat) (x30_8 : Bool),v30 = .bool x30_8 ∧ Aside0 (bosunref17_Check.j1 kq x3_1 x30_8 a0_0 l0_1 ((rd_T67 l0_1 x3_1).f0) ((rd_T67 l0_1 x3_1).f1) ((rd_T67 l0_1 x3_1).f2) ((rd_T67 l0_1 x3_1).f3) = some r) ∧ Aside0 (kq ≤ k1) ∧ Aside0 (wc.heap[gb221]? = some (.cells #[.int .u32 a0_0,(.slice (some ad222) l0_1.length c0_1)] 30 (0,0))) ∧ Aside0 (wc.heap[gb223]? = some (.cells #[.string ((rd_T67 l0_1 x3_1).f0),.string ((rd_T67 l0_1 x3_1).f1),.string ((rd_T67 l0_1 x3_1).f2),.int .u8 ((rd_T67 l0_1 x3_1).f3)] 67 (0,0))) ∧ Aside0 (Below w.heap.size w wc))
      case first =>
       have H:=HC9.out
       clear HC9
       replace H:=Option.bind_eq_some_iff.mp H
       obtain ⟨t224,A140,H⟩:=H
       replace H : (if t224 = true then ((bosunref13_Name.f k1 ((rd_T67 l0_1 x3_1).f1)).bind fun t225=>(bosunref17_Check.j1 k1 x3_1 (!t225) a0_0 l0_1 ((rd_T67 l0_1 x3_1).f0) ((rd_T67 l0_1 x3_1).f1) ((rd_T67 l0_1 x3_1).f2) ((rd_T67 l0_1 x3_1).f3))) else (bosunref17_Check.j1 k1 x3_1 true a0_0 l0_1 ((rd_T67 l0_1 x3_1).f0) ((rd_T67 l0_1 x3_1).f1) ((rd_T67 l0_1 x3_1).f2) ((rd_T67 l0_1 x3_1).f3))) = some r:=H
       have A14:=Aside0.mk A140
       clear A140
       by_cases c15 : t224 = true
       ·subst c15
        have H1 : ((bosunref13_Name.f k1 ((rd_T67 l0_1 x3_1).f1)).bind fun t225=>(bosunref17_Check.j1 k1 x3_1 (!t225) a0_0 l0_1 ((rd_T67 l0_1 x3_1).f0) ((rd_T67 l0_1 x3_1).f1) ((rd_T67 l0_1 x3_1).f2) ((rd_T67 l0_1 x3_1).f3))) = some r:=by rw [if_pos rfl] at H;exact H
        clear H
        have H:=H1
        clear H1
        replace H:=Option.bind_eq_some_iff.mp H
        obtain ⟨t225,A160,H⟩:=H
        replace H : (bosunref17_Check.j1 k1 x3_1 (!t225) a0_0 l0_1 ((rd_T67 l0_1 x3_1).f0) ((rd_T67 l0_1 x3_1).f1) ((rd_T67 l0_1 x3_1).f2) ((rd_T67 l0_1 x3_1).f3)) = some r:=H
        have A16:=Aside0.mk A160
        clear A160
        have H':=Aside0.mk H
        clear H
        have hnb17:=NB223_221.out
        have hnc17:=NB221_223.out
        have hcz18_0 : w11.cell? ⟨gb223,0,none⟩ = some (.string (⟨#[]⟩ : ByteArray)):=(blk_cell BK223.out 0).trans rfl
        have hcz18_1 : w11.cell? ⟨gb223,1,none⟩ = some (.string (⟨#[]⟩ : ByteArray)):=(blk_cell BK223.out 1).trans rfl
        have hcz18_2 : w11.cell? ⟨gb223,2,none⟩ = some (.string (⟨#[]⟩ : ByteArray)):=(blk_cell BK223.out 2).trans rfl
        have hcz18_3 : w11.cell? ⟨gb223,3,none⟩ = some (.int .u8 0):=(blk_cell BK223.out 3).trans rfl
        have hfz18_0:=blk_frozen BK223.out 0
        have hfz18_1:=blk_frozen BK223.out 1
        have hfz18_2:=blk_frozen BK223.out 2
        have hfz18_3:=blk_frozen BK223.out 3
        go_wp2_with (first|(go_at_call 19;(with_reducible refine (bosunref04_Name.calls k1 ((rd_T67 l0_1 x3_1).f0) true _ A14.out).mono ?_);rintro e w' ⟨rfl,⟨nd,rfl⟩⟩;(try first|exact ⟨rfl,_,World.drewN_drewN _ _ _⟩|exact ⟨rfl,_,Eq.trans (World.drewN_drewN _ _ _) (congrArg (World.drewN _) (Nat.add_assoc _ _ _))⟩))|(go_at_call 35;(with_reducible refine (bosunref13_Name.calls k1 ((rd_T67 l0_1 x3_1).f1) t225 _ A16.out).mono ?_);rintro e w19 ⟨rfl,hb⟩;have n0_:=Aside0.mk (blk_below (g:=gb221) (o:=.cells #[.int .u32 a0_0,.slice (some ad222) l0_1.length c0_1] 30 (0,0)) (by (with_reducible repeat (first|apply blk_drewN|apply blk_drew|apply blk_alloc));refine blk_far ?_ NB221_223.out _;(with_reducible repeat (first|apply blk_drewN|apply blk_drew|apply blk_alloc));refine blk_far ?_ NB221_223.out _;(with_reducible repeat (first|apply blk_drewN|apply blk_drew|apply blk_alloc));refine blk_far ?_ NB221_223.out _;(with_reducible repeat (first|apply blk_drewN|apply blk_drew|apply blk_alloc));refine blk_far ?_ NB221_223.out _;(with_reducible repeat (first|apply blk_drewN|apply blk_drew|apply blk_alloc));exact BK221.out) hb);have n1_:=Aside0.mk (blk_below (g:=gb223) (o:=.cells #[.string ((rd_T67 l0_1 x3_1).f0),.string ((rd_T67 l0_1 x3_1).f1),.string ((rd_T67 l0_1 x3_1).f2),.int .u8 ((rd_T67 l0_1 x3_1).f3)] 67 (0,0)) (by (with_reducible repeat (first|apply blk_drewN|apply blk_drew|apply blk_alloc));refine blk_put (cs:=#[.string ((rd_T67 l0_1 x3_1).f0),.string ((rd_T67 l0_1 x3_1).f1),.string ((rd_T67 l0_1 x3_1).f2),.int .u8 0]) ?_ 3 _ rfl;(with_reducible repeat (first|apply blk_drewN|apply blk_drew|apply blk_alloc));refine blk_put (cs:=#[.string ((rd_T67 l0_1 x3_1).f0),.string ((rd_T67 l0_1 x3_1).f1),.string (⟨#[]⟩ : ByteArray),.int .u8 0]) ?_ 2 _ rfl;(with_reducible repeat (first|apply blk_drewN|apply blk_drew|apply blk_alloc));refine blk_put (cs:=#[.string ((rd_T67 l0_1 x3_1).f0),.string (⟨#[]⟩ : ByteArray),.string (⟨#[]⟩ : ByteArray),.int .u8 0]) ?_ 1 _ rfl;(with_reducible repeat (first|apply blk_drewN|apply blk_drew|apply blk_alloc));refine blk_put (cs:=#[.string (⟨#[]⟩ : ByteArray),.string (⟨#[]⟩ : ByteArray),.string (⟨#[]⟩ : ByteArray),.int .u8 0]) ?_ 0 _ rfl;(with_reducible repeat (first|apply blk_drewN|apply blk_drew|apply blk_alloc));exact BK223.out) hb);have n2_:=Aside0.mk (below_step (by repeat (first|(with_reducible first|exact HB.out|apply below_alloc|apply pw_below_drewN|apply below_drew1|refine below_set ?_ GE221.out|refine below_set ?_ GE223.out)|exact HB.out)) hb);clear BK221;clear BK223;clear HB;have BK221:=n0_;have BK223:=n1_;have HB:=n2_;clear n0_ n1_ n2_;(try clear hb);(try clear hb2);(try clear hk);(try clear hi)))
        repeat (go_quiet (first|(go_at_call 19;(with_reducible refine (bosunref04_Name.calls k1 ((rd_T67 l0_1 x3_1).f0) true _ A14.out).mono ?_);rintro e w' ⟨rfl,⟨nd,rfl⟩⟩;(try first|exact ⟨rfl,_,World.drewN_drewN _ _ _⟩|exact ⟨rfl,_,Eq.trans (World.drewN_drewN _ _ _) (congrArg (World.drewN _) (Nat.add_assoc _ _ _))⟩))|(go_at_call 35;(with_reducible refine (bosunref13_Name.calls k1 ((rd_T67 l0_1 x3_1).f1) t225 _ A16.out).mono ?_);rintro e w19 ⟨rfl,hb⟩;have n0_:=Aside0.mk (blk_below (g:=gb221) (o:=.cells #[.int .u32 a0_0,.slice (some ad222) l0_1.length c0_1] 30 (0,0)) (by (with_reducible repeat (first|apply blk_drewN|apply blk_drew|apply blk_alloc));refine blk_far ?_ NB221_223.out _;(with_reducible repeat (first|apply blk_drewN|apply blk_drew|apply blk_alloc));refine blk_far ?_ NB221_223.out _;(with_reducible repeat (first|apply blk_drewN|apply blk_drew|apply blk_alloc));refine blk_far ?_ NB221_223.out _;(with_reducible repeat (first|apply blk_drewN|apply blk_drew|apply blk_alloc));refine blk_far ?_ NB221_223.out _;(with_reducible repeat (first|apply blk_drewN|apply blk_drew|apply blk_alloc));exact BK221.out) hb);have n1_:=Aside0.mk (blk_below (g:=gb223) (o:=.cells #[.string ((rd_T67 l0_1 x3_1).f0),.string ((rd_T67 l0_1 x3_1).f1),.string ((rd_T67 l0_1 x3_1).f2),.int .u8 ((rd_T67 l0_1 x3_1).f3)] 67 (0,0)) (by (with_reducible repeat (first|apply blk_drewN|apply blk_drew|apply blk_alloc));refine blk_put (cs:=#[.string ((rd_T67 l0_1 x3_1).f0),.string ((rd_T67 l0_1 x3_1).f1),.string ((rd_T67 l0_1 x3_1).f2),.int .u8 0]) ?_ 3 _ rfl;(with_reducible repeat (first|apply blk_drewN|apply blk_drew|apply blk_alloc));refine blk_put (cs:=#[.string ((rd_T67 l0_1 x3_1).f0),.string ((rd_T67 l0_1 x3_1).f1),.string (⟨#[]⟩ : ByteArray),.int .u8 0]) ?_ 2 _ rfl;(with_reducible repeat (first|apply blk_drewN|apply blk_drew|apply blk_alloc));refine blk_put (cs:=#[.string ((rd_T67 l0_1 x3_1).f0),.string (⟨#[]⟩ : ByteArray),.string (⟨#[]⟩ : ByteArray),.int .u8 0]) ?_ 1 _ rfl;(with_reducible repeat (first|apply blk_drewN|apply blk_drew|apply blk_alloc));refine blk_put (cs:=#[.string (⟨#[]⟩ : ByteArray),.string (⟨#[]⟩ : ByteArray),.string (⟨#[]⟩ : ByteArray),.int .u8 0]) ?_ 0 _ rfl;(with_reducible repeat (first|apply blk_drewN|apply blk_drew|apply blk_alloc));exact BK223.out) hb);have n2_:=Aside0.mk (below_step (by repeat (first|(with_reducible first|exact HB.out|apply below_alloc|apply pw_below_drewN|apply below_drew1|refine below_set ?_ GE221.out|refine below_set ?_ GE223.out)|exact HB.out)) hb);clear BK221;clear BK223;clear HB;have BK221:=n0_;have BK223:=n1_;have HB:=n2_;clear n0_ n1_ n2_;(try clear hb);(try clear hb2);(try clear hk);(try clear hi)));try go_wp2_with (first|(go_at_call 19;(with_reducible refine (bosunref04_Name.calls k1 ((rd_T67 l0_1 x3_1).f0) true _ A14.out).mono ?_);rintro e w' ⟨rfl,⟨nd,rfl⟩⟩;(try first|exact ⟨rfl,_,World.drewN_drewN _ _ _⟩|exact ⟨rfl,_,Eq.trans (World.drewN_drewN _ _ _) (congrArg (World.drewN _) (Nat.add_assoc _ _ _))⟩))|(go_at_call 35;(with_reducible refine (bosunref13_Name.calls k1 ((rd_T67 l0_1 x3_1).f1) t225 _ A16.out).mono ?_);rintro e w19 ⟨rfl,hb⟩;have n0_:=Aside0.mk (blk_below (g:=gb221) (o:=.cells #[.int .u32 a0_0,.slice (some ad222) l0_1.length c0_1] 30 (0,0)) (by (with_reducible repeat (first|apply blk_drewN|apply blk_drew|apply blk_alloc));refine blk_far ?_ NB221_223.out _;(with_reducible repeat (first|apply blk_drewN|apply blk_drew|apply blk_alloc));refine blk_far ?_ NB221_223.out _;(with_reducible repeat (first|apply blk_drewN|apply blk_drew|apply blk_alloc));refine blk_far ?_ NB221_223.out _;(with_reducible repeat (first|apply blk_drewN|apply blk_drew|apply blk_alloc));refine blk_far ?_ NB221_223.out _;(with_reducible repeat (first|apply blk_drewN|apply blk_drew|apply blk_alloc));exact BK221.out) hb);have n1_:=Aside0.mk (blk_below (g:=gb223) (o:=.cells #[.string ((rd_T67 l0_1 x3_1).f0),.string ((rd_T67 l0_1 x3_1).f1),.string ((rd_T67 l0_1 x3_1).f2),.int .u8 ((rd_T67 l0_1 x3_1).f3)] 67 (0,0)) (by (with_reducible repeat (first|apply blk_drewN|apply blk_drew|apply blk_alloc));refine blk_put (cs:=#[.string ((rd_T67 l0_1 x3_1).f0),.string ((rd_T67 l0_1 x3_1).f1),.string ((rd_T67 l0_1 x3_1).f2),.int .u8 0]) ?_ 3 _ rfl;(with_reducible repeat (first|apply blk_drewN|apply blk_drew|apply blk_alloc));refine blk_put (cs:=#[.string ((rd_T67 l0_1 x3_1).f0),.string ((rd_T67 l0_1 x3_1).f1),.string (⟨#[]⟩ : ByteArray),.int .u8 0]) ?_ 2 _ rfl;(with_reducible repeat (first|apply blk_drewN|apply blk_drew|apply blk_alloc));refine blk_put (cs:=#[.string ((rd_T67 l0_1 x3_1).f0),.string (⟨#[]⟩ : ByteArray),.string (⟨#[]⟩ : ByteArray),.int .u8 0]) ?_ 1 _ rfl;(with_reducible repeat (first|apply blk_drewN|apply blk_drew|apply blk_alloc));refine blk_put (cs:=#[.string (⟨#[]⟩ : ByteArray),.string (⟨#[]⟩ : ByteArray),.string (⟨#[]⟩ : ByteArray),.int .u8 0]) ?_ 0 _ rfl;(with_reducible repeat (first|apply blk_drewN|apply blk_drew|apply blk_alloc));exact BK223.out) hb);have n2_:=Aside0.mk (below_step (by repeat (first|(with_reducible first|exact HB.out|apply below_alloc|apply pw_below_drewN|apply below_drew1|refine below_set ?_ GE221.out|refine below_set ?_ GE223.out)|exact HB.out)) hb);clear BK221;clear BK223;clear HB;have BK221:=n0_;have BK223:=n1_;have HB:=n2_;clear n0_ n1_ n2_;(try clear hb);(try clear hb2);(try clear hk);(try clear hi))))
        go_meet
        case rel=>exact ⟨_,(!t225),(by first|rfl|(simp;done)|(simp [*];done)),H',⟨by have:=HK1.out;first|omega|exact Nat.le_refl _⟩,⟨by (with_reducible repeat (first|apply blk_drewN|apply blk_drew|apply blk_alloc));exact BK221.out⟩,⟨by (with_reducible repeat (first|apply blk_drewN|apply blk_drew|apply blk_alloc));exact BK223.out⟩,⟨by repeat (first|(with_reducible first|exact HB.out|apply below_alloc|apply pw_below_drewN|apply below_drew1|refine below_set ?_ GE221.out|refine below_set ?_ GE223.out)|exact HB.out)⟩⟩
       ·replace c15:=Bool.eq_false_iff.mpr c15
        subst c15
        have H1 : (bosunref17_Check.j1 k1 x3_1 true a0_0 l0_1 ((rd_T67 l0_1 x3_1).f0) ((rd_T67 l0_1 x3_1).f1) ((rd_T67 l0_1 x3_1).f2) ((rd_T67 l0_1 x3_1).f3)) = some r:=by rw [if_neg (show ¬ (false = true) by decide)] at H;exact H
        clear H
        have H:=H1
        clear H1
        have H':=Aside0.mk H
        clear H
        have hnb20:=NB223_221.out
        have hnc20:=NB221_223.out
        have hcz21_0 : w11.cell? ⟨gb223,0,none⟩ = some (.string (⟨#[]⟩ : ByteArray)):=(blk_cell BK223.out 0).trans rfl
        have hcz21_1 : w11.cell? ⟨gb223,1,none⟩ = some (.string (⟨#[]⟩ : ByteArray)):=(blk_cell BK223.out 1).trans rfl
        have hcz21_2 : w11.cell? ⟨gb223,2,none⟩ = some (.string (⟨#[]⟩ : ByteArray)):=(blk_cell BK223.out 2).trans rfl
        have hcz21_3 : w11.cell? ⟨gb223,3,none⟩ = some (.int .u8 0):=(blk_cell BK223.out 3).trans rfl
        have hfz21_0:=blk_frozen BK223.out 0
        have hfz21_1:=blk_frozen BK223.out 1
        have hfz21_2:=blk_frozen BK223.out 2
        have hfz21_3:=blk_frozen BK223.out 3
        go_wp2_with (first|(go_at_call 19;(with_reducible refine (bosunref04_Name.calls k1 ((rd_T67 l0_1 x3_1).f0) false _ A14.out).mono ?_);rintro e w' ⟨rfl,⟨nd,rfl⟩⟩;(try first|exact ⟨rfl,_,World.drewN_drewN _ _ _⟩|exact ⟨rfl,_,Eq.trans (World.drewN_drewN _ _ _) (congrArg (World.drewN _) (Nat.add_assoc _ _ _))⟩)))
        repeat (go_quiet (first|(go_at_call 19;(with_reducible refine (bosunref04_Name.calls k1 ((rd_T67 l0_1 x3_1).f0) false _ A14.out).mono ?_);rintro e w' ⟨rfl,⟨nd,rfl⟩⟩;(try first|exact ⟨rfl,_,World.drewN_drewN _ _ _⟩|exact ⟨rfl,_,Eq.trans (World.drewN_drewN _ _ _) (congrArg (World.drewN _) (Nat.add_assoc _ _ _))⟩)));try go_wp2_with (first|(go_at_call 19;(with_reducible refine (bosunref04_Name.calls k1 ((rd_T67 l0_1 x3_1).f0) false _ A14.out).mono ?_);rintro e w' ⟨rfl,⟨nd,rfl⟩⟩;(try first|exact ⟨rfl,_,World.drewN_drewN _ _ _⟩|exact ⟨rfl,_,Eq.trans (World.drewN_drewN _ _ _) (congrArg (World.drewN _) (Nat.add_assoc _ _ _))⟩))))
        go_meet
        case rel=>exact ⟨_,(true),(by first|rfl|(simp;done)|(simp [*];done)),H',⟨by have:=HK1.out;first|omega|exact Nat.le_refl _⟩,⟨by (with_reducible repeat (first|apply blk_drewN|apply blk_drew|apply blk_alloc));refine blk_far ?_ NB221_223.out _;(with_reducible repeat (first|apply blk_drewN|apply blk_drew|apply blk_alloc));refine blk_far ?_ NB221_223.out _;(with_reducible repeat (first|apply blk_drewN|apply blk_drew|apply blk_alloc));refine blk_far ?_ NB221_223.out _;(with_reducible repeat (first|apply blk_drewN|apply blk_drew|apply blk_alloc));refine blk_far ?_ NB221_223.out _;(with_reducible repeat (first|apply blk_drewN|apply blk_drew|apply blk_alloc));exact BK221.out⟩,⟨by (with_reducible repeat (first|apply blk_drewN|apply blk_drew|apply blk_alloc));refine blk_put (cs:=#[.string ((rd_T67 l0_1 x3_1).f0),.string ((rd_T67 l0_1 x3_1).f1),.string ((rd_T67 l0_1 x3_1).f2),.int .u8 0]) ?_ 3 _ rfl;(with_reducible repeat (first|apply blk_drewN|apply blk_drew|apply blk_alloc));refine blk_put (cs:=#[.string ((rd_T67 l0_1 x3_1).f0),.string ((rd_T67 l0_1 x3_1).f1),.string (⟨#[]⟩ : ByteArray),.int .u8 0]) ?_ 2 _ rfl;(with_reducible repeat (first|apply blk_drewN|apply blk_drew|apply blk_alloc));refine blk_put (cs:=#[.string ((rd_T67 l0_1 x3_1).f0),.string (⟨#[]⟩ : ByteArray),.string (⟨#[]⟩ : ByteArray),.int .u8 0]) ?_ 1 _ rfl;(with_reducible repeat (first|apply blk_drewN|apply blk_drew|apply blk_alloc));refine blk_put (cs:=#[.string (⟨#[]⟩ : ByteArray),.string (⟨#[]⟩ : ByteArray),.string (⟨#[]⟩ : ByteArray),.int .u8 0]) ?_ 0 _ rfl;(with_reducible repeat (first|apply blk_drewN|apply blk_drew|apply blk_alloc));exact BK223.out⟩,⟨by repeat (first|(with_reducible first|exact HB.out|apply below_alloc|apply pw_below_drewN|apply below_drew1|refine below_set ?_ GE221.out|refine below_set ?_ GE223.out)|exact HB.out)⟩⟩
      case rest =>
       clear HC9
       try clear c1
       try clear c2
       try clear c2b0
       try clear c2b1
       try clear p2
       try clear q2
       try clear hx2
       try clear c7
       try clear c7b0
       try clear c8
       try clear c8b0
       try clear c12
       try clear c15
       try clear c17
       try clear c20
       try clear hcz10_0
       try clear hcz10_1
       try clear hcz13_0
       try clear hcz13_1
       try clear hcz13_2
       try clear hcz13_3
       try clear hcz18_0
       try clear hcz18_1
       try clear hcz18_2
       try clear hcz18_3
       try clear hcz21_0
       try clear hcz21_1
       try clear hcz21_2
       try clear hcz21_3
       try clear hcz4_0
       try clear hcz4_1
       try clear hcz6_0
       try clear hcz6_1
       try clear hfz10_0
       try clear hfz10_1
       try clear hfz13_0
       try clear hfz13_1
       try clear hfz13_2
       try clear hfz13_3
       try clear hfz18_0
       try clear hfz18_1
       try clear hfz18_2
       try clear hfz18_3
       try clear hfz21_0
       try clear hfz21_1
       try clear hfz21_2
       try clear hfz21_3
       try clear hfz4_0
       try clear hfz4_1
       try clear hfz6_0
       try clear hfz6_1
       try clear hx222_0
       try clear hx222_1
       try clear hx222_2
       try clear hx222_3
       try clear p2
       try clear p222
       try clear q222
       obtain ⟨kq,x30_8,rfl,HA,HJ8,BK221,BK223,HB⟩:=hcut
       cases kq with
       | zero=>exact absurd HA.out (by simp [bosunref17_Check.j1])
       | succ kj8 =>
        have H:=HA.out
        clear HA
        simp only [bosunref17_Check.j1] at H
        by_cases c22 : x30_8 = true
        ·subst c22
         have H1 : (some 13) = some r:=by rw [if_pos rfl] at H;exact H
         clear H
         have H:=H1
         clear H1
         obtain rfl:=Option.some.inj H
         go_wp2
         repeat (go_quiet (fail);try go_wp2)
         go_ret
         exact ⟨by first|rfl|(simp [errW_none,errW_some] <;> rfl)|(simp [*,errW_none,errW_some] <;> rfl),by repeat (first|(with_reducible first|exact HB.out|apply below_alloc|apply pw_below_drewN|apply below_drew1|refine below_set ?_ GE221.out|refine below_set ?_ GE223.out)|exact HB.out)⟩
        ·replace c22:=Bool.eq_false_iff.mpr c22
         subst c22
         have H1 : ((bosunref13_Image.f kj8 ((rd_T67 l0_1 x3_1).f2)).bind fun t226=>(if t226 = true then (if x3_1 > 0 then (if 0 ≤ (wrap64 (x3_1 - 1)) then (if (wrap64 (x3_1 - 1)) < (l0_1.length : Int) then (bosunref17_Check.j2 kj8 x3_1 (!(Op.bytesLess (((rd_T67 l0_1 (wrap64 (x3_1 - 1))).f0).toList) ((rd_T67 l0_1 x3_1).f0).toList)) a0_0 l0_1 ((rd_T67 l0_1 x3_1).f0) ((rd_T67 l0_1 x3_1).f1) ((rd_T67 l0_1 x3_1).f2) ((rd_T67 l0_1 x3_1).f3)) else (none)) else (none)) else (bosunref17_Check.j2 kj8 x3_1 false a0_0 l0_1 ((rd_T67 l0_1 x3_1).f0) ((rd_T67 l0_1 x3_1).f1) ((rd_T67 l0_1 x3_1).f2) ((rd_T67 l0_1 x3_1).f3))) else (bosunref17_Check.j2 kj8 x3_1 true a0_0 l0_1 ((rd_T67 l0_1 x3_1).f0) ((rd_T67 l0_1 x3_1).f1) ((rd_T67 l0_1 x3_1).f2) ((rd_T67 l0_1 x3_1).f3)))) = some r:=by rw [if_neg (show ¬ (false = true) by decide)] at H;exact H
         clear H
         have H:=H1
         clear H1
         have HC23:=Aside0.mk H
         clear H
         go_upto_region 9 with (fail)
         repeat (go_quiet (fail);go_upto_region 9 with (fail))
         go_cut [50] (fun v50 wc=>∃ (kq : Nat) (x50_22 : Bool),v50 = .bool x50_22 ∧ Aside0 (bosunref17_Check.j2 kq x3_1 x50_22 a0_0 l0_1 ((rd_T67 l0_1 x3_1).f0) ((rd_T67 l0_1 x3_1).f1) ((rd_T67 l0_1 x3_1).f2) ((rd_T67 l0_1 x3_1).f3) = some r) ∧ Aside0 (kq ≤ kj8) ∧ Aside0 (wc.heap[gb221]? = some (.cells #[.int .u32 a0_0,(.slice (some ad222) l0_1.length c0_1)] 30 (0,0))) ∧ Aside0 (wc.heap[gb223]? = some (.cells #[.string ((rd_T67 l0_1 x3_1).f0),.string ((rd_T67 l0_1 x3_1).f1),.string ((rd_T67 l0_1 x3_1).f2),.int .u8 ((rd_T67 l0_1 x3_1).f3)] 67 (0,0))) ∧ Aside0 (Below w.heap.size w wc))
         case first =>
          have H:=HC23.out
          clear HC23
          replace H:=Option.bind_eq_some_iff.mp H
          obtain ⟨t226,A240,H⟩:=H
          replace H : (if t226 = true then (if x3_1 > 0 then (if 0 ≤ (wrap64 (x3_1 - 1)) then (if (wrap64 (x3_1 - 1)) < (l0_1.length : Int) then (bosunref17_Check.j2 kj8 x3_1 (!(Op.bytesLess (((rd_T67 l0_1 (wrap64 (x3_1 - 1))).f0).toList) ((rd_T67 l0_1 x3_1).f0).toList)) a0_0 l0_1 ((rd_T67 l0_1 x3_1).f0) ((rd_T67 l0_1 x3_1).f1) ((rd_T67 l0_1 x3_1).f2) ((rd_T67 l0_1 x3_1).f3)) else (none)) else (none)) else (bosunref17_Check.j2 kj8 x3_1 false a0_0 l0_1 ((rd_T67 l0_1 x3_1).f0) ((rd_T67 l0_1 x3_1).f1) ((rd_T67 l0_1 x3_1).f2) ((rd_T67 l0_1 x3_1).f3))) else (bosunref17_Check.j2 kj8 x3_1 true a0_0 l0_1 ((rd_T67 l0_1 x3_1).f0) ((rd_T67 l0_1 x3_1).f1) ((rd_T67 l0_1 x3_1).f2) ((rd_T67 l0_1 x3_1).f3))) = some r:=H
          have A24:=Aside0.mk A240
          clear A240
          by_cases c25 : t226 = true
          ·subst c25
           have H1 : (if x3_1 > 0 then (if 0 ≤ (wrap64 (x3_1 - 1)) then (if (wrap64 (x3_1 - 1)) < (l0_1.length : Int) then (bosunref17_Check.j2 kj8 x3_1 (!(Op.bytesLess (((rd_T67 l0_1 (wrap64 (x3_1 - 1))).f0).toList) ((rd_T67 l0_1 x3_1).f0).toList)) a0_0 l0_1 ((rd_T67 l0_1 x3_1).f0) ((rd_T67 l0_1 x3_1).f1) ((rd_T67 l0_1 x3_1).f2) ((rd_T67 l0_1 x3_1).f3)) else (none)) else (none)) else (bosunref17_Check.j2 kj8 x3_1 false a0_0 l0_1 ((rd_T67 l0_1 x3_1).f0) ((rd_T67 l0_1 x3_1).f1) ((rd_T67 l0_1 x3_1).f2) ((rd_T67 l0_1 x3_1).f3))) = some r:=by rw [if_pos rfl] at H;exact H
           clear H
           have H:=H1
           clear H1
           by_cases c26 : x3_1 > 0
           ·rw [if_pos c26] at H
            have c26b0 : decide (0 < x3_1) = true:=decide_eq_true c26
            clear c26
            (first|rw [c26b0]|(simp only [i64_w,i32_w];rw [c26b0])|skip)
            obtain ⟨ji27,hji27⟩ : ∃ j_ : Int,(wrap64 (x3_1 - 1)) = j_:=⟨_,rfl⟩
            replace H : (if 0 ≤ (ji27) then (if (ji27) < (l0_1.length : Int) then (bosunref17_Check.j2 kj8 x3_1 (!(Op.bytesLess (((rd_T67 l0_1 (ji27)).f0).toList) ((rd_T67 l0_1 x3_1).f0).toList)) a0_0 l0_1 ((rd_T67 l0_1 x3_1).f0) ((rd_T67 l0_1 x3_1).f1) ((rd_T67 l0_1 x3_1).f2) ((rd_T67 l0_1 x3_1).f3)) else (none)) else (none)) = some r:=by first|(rw [hji27] at H;exact H)|(simp only [hji27] at H ⊢;exact H)
            (try rw [hji27] at A24)
            have hji27w : (IntKind.i64.wrap (x3_1 - 1)) = ji27:=(i64_w _).trans hji27
            by_cases c28 : 0 ≤ (ji27)
            ·rw [if_pos c28] at H
             have c28b0 : decide (0 ≤ (ji27)) = true:=decide_eq_true c28
             clear c28
             by_cases c29 : (ji27) < (l0_1.length : Int)
             ·rw [if_pos c29] at H
              have c29b0 : decide ((ji27) < (l0_1.length : Int)) = true:=decide_eq_true c29
              clear c29
              have H':=Aside0.mk H
              clear H
              have hnb30:=NB223_221.out
              have hnc30:=NB221_223.out
              have hcz31_0 : wc.cell? ⟨gb223,0,none⟩ = some (.string ((rd_T67 l0_1 x3_1).f0)):=(blk_cell BK223.out 0).trans rfl
              have hcz31_1 : wc.cell? ⟨gb223,1,none⟩ = some (.string ((rd_T67 l0_1 x3_1).f1)):=(blk_cell BK223.out 1).trans rfl
              have hcz31_2 : wc.cell? ⟨gb223,2,none⟩ = some (.string ((rd_T67 l0_1 x3_1).f2)):=(blk_cell BK223.out 2).trans rfl
              have hcz31_3 : wc.cell? ⟨gb223,3,none⟩ = some (.int .u8 ((rd_T67 l0_1 x3_1).f3)):=(blk_cell BK223.out 3).trans rfl
              have hfz31_0:=blk_frozen BK223.out 0
              have hfz31_1:=blk_frozen BK223.out 1
              have hfz31_2:=blk_frozen BK223.out 2
              have hfz31_3:=blk_frozen BK223.out 3
              have hcz32_0 : wc.cell? ⟨gb221,0,none⟩ = some (.int .u32 a0_0):=(blk_cell BK221.out 0).trans rfl
              have hcz32_1 : wc.cell? ⟨gb221,1,none⟩ = some (.slice (some ad222) l0_1.length c0_1):=(blk_cell BK221.out 1).trans rfl
              have hfz32_0:=blk_frozen BK221.out 0
              have hfz32_1:=blk_frozen BK221.out 1
              have p227 : 0 ≤ ((ji27) : Int):=of_decide_eq_true (by first|(with_reducible assumption)|assumption)
              have q227 : (ji27) < (l0_1.length : Int):=of_decide_eq_true (by first|(with_reducible assumption)|assumption)
              obtain ⟨ad227,e227,hx227_0,hx227_1,hx227_2,hx227_3⟩:=at_T67 HR0_1.out (ji27) p227 q227
              obtain rfl : ad222 = ad227:=(by injection e227)
              replace hx227_0:=(HB.out.cell (World.block_lt_of_cell? w _ hx227_0)).trans hx227_0
              replace hx227_1:=(HB.out.cell (World.block_lt_of_cell? w _ hx227_1)).trans hx227_1
              replace hx227_2:=(HB.out.cell (World.block_lt_of_cell? w _ hx227_2)).trans hx227_2
              replace hx227_3:=(HB.out.cell (World.block_lt_of_cell? w _ hx227_3)).trans hx227_3
              replace p227:=eq_true p227
              replace q227:=eq_true q227
              go_wp2_with (first|(go_at_call 36;(with_reducible refine (bosunref13_Image.calls kj8 ((rd_T67 l0_1 x3_1).f2) true _ A24.out).mono ?_);rintro e w' ⟨rfl,⟨nd,rfl⟩⟩;(try first|exact ⟨rfl,_,World.drewN_drewN _ _ _⟩|exact ⟨rfl,_,Eq.trans (World.drewN_drewN _ _ _) (congrArg (World.drewN _) (Nat.add_assoc _ _ _))⟩)))
              repeat (go_quiet (first|(go_at_call 36;(with_reducible refine (bosunref13_Image.calls kj8 ((rd_T67 l0_1 x3_1).f2) true _ A24.out).mono ?_);rintro e w' ⟨rfl,⟨nd,rfl⟩⟩;(try first|exact ⟨rfl,_,World.drewN_drewN _ _ _⟩|exact ⟨rfl,_,Eq.trans (World.drewN_drewN _ _ _) (congrArg (World.drewN _) (Nat.add_assoc _ _ _))⟩)));try go_wp2_with (first|(go_at_call 36;(with_reducible refine (bosunref13_Image.calls kj8 ((rd_T67 l0_1 x3_1).f2) true _ A24.out).mono ?_);rintro e w' ⟨rfl,⟨nd,rfl⟩⟩;(try first|exact ⟨rfl,_,World.drewN_drewN _ _ _⟩|exact ⟨rfl,_,Eq.trans (World.drewN_drewN _ _ _) (congrArg (World.drewN _) (Nat.add_assoc _ _ _))⟩))))
              go_meet
              case rel=>exact ⟨_,(!(Op.bytesLess (((rd_T67 l0_1 (ji27)).f0).toList) ((rd_T67 l0_1 x3_1).f0).toList)),(by first|rfl|(simp;done)|(simp only [← hji27] <;> (first|rfl|simp))|(simp [*];done)),H',⟨by have:=HK1.out;have:=HJ8.out;first|omega|exact Nat.le_refl _⟩,⟨by (with_reducible repeat (first|apply blk_drewN|apply blk_drew|apply blk_alloc));exact BK221.out⟩,⟨by (with_reducible repeat (first|apply blk_drewN|apply blk_drew|apply blk_alloc));exact BK223.out⟩,⟨by repeat (first|(with_reducible first|exact HB.out|apply below_alloc|apply pw_below_drewN|apply below_drew1|refine below_set ?_ GE221.out|refine below_set ?_ GE223.out)|exact HB.out)⟩⟩
             ·rw [if_neg c29] at H
              exact absurd H (by simp)
            ·rw [if_neg c28] at H
             exact absurd H (by simp)
           ·rw [if_neg c26] at H
            have c26b0 : decide (0 < x3_1) = false:=decide_eq_false c26
            clear c26
            (first|rw [c26b0]|(simp only [i64_w,i32_w];rw [c26b0])|skip)
            have H':=Aside0.mk H
            clear H
            have hnb33:=NB223_221.out
            have hnc33:=NB221_223.out
            have hcz34_0 : wc.cell? ⟨gb223,0,none⟩ = some (.string ((rd_T67 l0_1 x3_1).f0)):=(blk_cell BK223.out 0).trans rfl
            have hcz34_1 : wc.cell? ⟨gb223,1,none⟩ = some (.string ((rd_T67 l0_1 x3_1).f1)):=(blk_cell BK223.out 1).trans rfl
            have hcz34_2 : wc.cell? ⟨gb223,2,none⟩ = some (.string ((rd_T67 l0_1 x3_1).f2)):=(blk_cell BK223.out 2).trans rfl
            have hcz34_3 : wc.cell? ⟨gb223,3,none⟩ = some (.int .u8 ((rd_T67 l0_1 x3_1).f3)):=(blk_cell BK223.out 3).trans rfl
            have hfz34_0:=blk_frozen BK223.out 0
            have hfz34_1:=blk_frozen BK223.out 1
            have hfz34_2:=blk_frozen BK223.out 2
            have hfz34_3:=blk_frozen BK223.out 3
            go_wp2_with (first|(go_at_call 36;(with_reducible refine (bosunref13_Image.calls kj8 ((rd_T67 l0_1 x3_1).f2) true _ A24.out).mono ?_);rintro e w' ⟨rfl,⟨nd,rfl⟩⟩;(try first|exact ⟨rfl,_,World.drewN_drewN _ _ _⟩|exact ⟨rfl,_,Eq.trans (World.drewN_drewN _ _ _) (congrArg (World.drewN _) (Nat.add_assoc _ _ _))⟩)))
            repeat (go_quiet (first|(go_at_call 36;(with_reducible refine (bosunref13_Image.calls kj8 ((rd_T67 l0_1 x3_1).f2) true _ A24.out).mono ?_);rintro e w' ⟨rfl,⟨nd,rfl⟩⟩;(try first|exact ⟨rfl,_,World.drewN_drewN _ _ _⟩|exact ⟨rfl,_,Eq.trans (World.drewN_drewN _ _ _) (congrArg (World.drewN _) (Nat.add_assoc _ _ _))⟩)));try go_wp2_with (first|(go_at_call 36;(with_reducible refine (bosunref13_Image.calls kj8 ((rd_T67 l0_1 x3_1).f2) true _ A24.out).mono ?_);rintro e w' ⟨rfl,⟨nd,rfl⟩⟩;(try first|exact ⟨rfl,_,World.drewN_drewN _ _ _⟩|exact ⟨rfl,_,Eq.trans (World.drewN_drewN _ _ _) (congrArg (World.drewN _) (Nat.add_assoc _ _ _))⟩))))
            go_meet
            case rel=>exact ⟨_,(false),(by first|rfl|(simp;done)|(simp [*];done)),H',⟨by have:=HK1.out;have:=HJ8.out;first|omega|exact Nat.le_refl _⟩,⟨by (with_reducible repeat (first|apply blk_drewN|apply blk_drew|apply blk_alloc));exact BK221.out⟩,⟨by (with_reducible repeat (first|apply blk_drewN|apply blk_drew|apply blk_alloc));exact BK223.out⟩,⟨by repeat (first|(with_reducible first|exact HB.out|apply below_alloc|apply pw_below_drewN|apply below_drew1|refine below_set ?_ GE221.out|refine below_set ?_ GE223.out)|exact HB.out)⟩⟩
          ·replace c25:=Bool.eq_false_iff.mpr c25
           subst c25
           have H1 : (bosunref17_Check.j2 kj8 x3_1 true a0_0 l0_1 ((rd_T67 l0_1 x3_1).f0) ((rd_T67 l0_1 x3_1).f1) ((rd_T67 l0_1 x3_1).f2) ((rd_T67 l0_1 x3_1).f3)) = some r:=by rw [if_neg (show ¬ (false = true) by decide)] at H;exact H
           clear H
           have H:=H1
           clear H1
           have H':=Aside0.mk H
           clear H
           have hnb35:=NB223_221.out
           have hnc35:=NB221_223.out
           have hcz36_0 : wc.cell? ⟨gb223,0,none⟩ = some (.string ((rd_T67 l0_1 x3_1).f0)):=(blk_cell BK223.out 0).trans rfl
           have hcz36_1 : wc.cell? ⟨gb223,1,none⟩ = some (.string ((rd_T67 l0_1 x3_1).f1)):=(blk_cell BK223.out 1).trans rfl
           have hcz36_2 : wc.cell? ⟨gb223,2,none⟩ = some (.string ((rd_T67 l0_1 x3_1).f2)):=(blk_cell BK223.out 2).trans rfl
           have hcz36_3 : wc.cell? ⟨gb223,3,none⟩ = some (.int .u8 ((rd_T67 l0_1 x3_1).f3)):=(blk_cell BK223.out 3).trans rfl
           have hfz36_0:=blk_frozen BK223.out 0
           have hfz36_1:=blk_frozen BK223.out 1
           have hfz36_2:=blk_frozen BK223.out 2
           have hfz36_3:=blk_frozen BK223.out 3
           go_wp2_with (first|(go_at_call 36;(with_reducible refine (bosunref13_Image.calls kj8 ((rd_T67 l0_1 x3_1).f2) false _ A24.out).mono ?_);rintro e w' ⟨rfl,⟨nd,rfl⟩⟩;(try first|exact ⟨rfl,_,World.drewN_drewN _ _ _⟩|exact ⟨rfl,_,Eq.trans (World.drewN_drewN _ _ _) (congrArg (World.drewN _) (Nat.add_assoc _ _ _))⟩)))
           repeat (go_quiet (first|(go_at_call 36;(with_reducible refine (bosunref13_Image.calls kj8 ((rd_T67 l0_1 x3_1).f2) false _ A24.out).mono ?_);rintro e w' ⟨rfl,⟨nd,rfl⟩⟩;(try first|exact ⟨rfl,_,World.drewN_drewN _ _ _⟩|exact ⟨rfl,_,Eq.trans (World.drewN_drewN _ _ _) (congrArg (World.drewN _) (Nat.add_assoc _ _ _))⟩)));try go_wp2_with (first|(go_at_call 36;(with_reducible refine (bosunref13_Image.calls kj8 ((rd_T67 l0_1 x3_1).f2) false _ A24.out).mono ?_);rintro e w' ⟨rfl,⟨nd,rfl⟩⟩;(try first|exact ⟨rfl,_,World.drewN_drewN _ _ _⟩|exact ⟨rfl,_,Eq.trans (World.drewN_drewN _ _ _) (congrArg (World.drewN _) (Nat.add_assoc _ _ _))⟩))))
           go_meet
           case rel=>exact ⟨_,(true),(by first|rfl|(simp;done)|(simp [*];done)),H',⟨by have:=HK1.out;have:=HJ8.out;first|omega|exact Nat.le_refl _⟩,⟨by (with_reducible repeat (first|apply blk_drewN|apply blk_drew|apply blk_alloc));exact BK221.out⟩,⟨by (with_reducible repeat (first|apply blk_drewN|apply blk_drew|apply blk_alloc));exact BK223.out⟩,⟨by repeat (first|(with_reducible first|exact HB.out|apply below_alloc|apply pw_below_drewN|apply below_drew1|refine below_set ?_ GE221.out|refine below_set ?_ GE223.out)|exact HB.out)⟩⟩
         case rest =>
          clear HC23
          try clear c1
          try clear c2
          try clear c2b0
          try clear c2b1
          try clear p2
          try clear q2
          try clear hx2
          try clear c3
          try clear p6
          try clear c7
          try clear c7b0
          try clear c8
          try clear c8b0
          try clear c12
          try clear c15
          try clear c17
          try clear c20
          try clear c22
          try clear p22
          try clear q22
          try clear hx22
          try clear c25
          try clear c26
          try clear c26b0
          try clear c28
          try clear c28b0
          try clear c29
          try clear c29b0
          try clear c30
          try clear c33
          try clear c35
          try clear hcz10_0
          try clear hcz10_1
          try clear hcz13_0
          try clear hcz13_1
          try clear hcz13_2
          try clear hcz13_3
          try clear hcz18_0
          try clear hcz18_1
          try clear hcz18_2
          try clear hcz18_3
          try clear hcz21_0
          try clear hcz21_1
          try clear hcz21_2
          try clear hcz21_3
          try clear hcz31_0
          try clear hcz31_1
          try clear hcz31_2
          try clear hcz31_3
          try clear hcz32_0
          try clear hcz32_1
          try clear hcz34_0
          try clear hcz34_1
          try clear hcz34_2
          try clear hcz34_3
          try clear hcz36_0
          try clear hcz36_1
          try clear hcz36_2
          try clear hcz36_3
          try clear hcz4_0
          try clear hcz4_1
          try clear hcz6_0
          try clear hcz6_1
          try clear hfz10_0
          try clear hfz10_1
          try clear hfz13_0
          try clear hfz13_1
          try clear hfz13_2
          try clear hfz13_3
          try clear hfz18_0
          try clear hfz18_1
          try clear hfz18_2
          try clear hfz18_3
          try clear hfz21_0
          try clear hfz21_1
          try clear hfz21_2
          try clear hfz21_3
          try clear hfz31_0
          try clear hfz31_1
          try clear hfz31_2
          try clear hfz31_3
          try clear hfz32_0
          try clear hfz32_1
          try clear hfz34_0
          try clear hfz34_1
          try clear hfz34_2
          try clear hfz34_3
          try clear hfz36_0
          try clear hfz36_1
          try clear hfz36_2
          try clear hfz36_3
          try clear hfz4_0
          try clear hfz4_1
          try clear hfz6_0
          try clear hfz6_1
          try clear hx222_0
          try clear hx222_1
          try clear hx222_2
          try clear hx222_3
          try clear hx227_0
          try clear hx227_1
          try clear hx227_2
          try clear hx227_3
          try clear p2
          try clear p222
          try clear p227
          try clear q2
          try clear q222
          try clear q227
          obtain ⟨kq,x50_22,rfl,HA,HJ22,BK221,BK223,HB⟩:=hcut
          cases kq with
          | zero=>exact absurd HA.out (by simp [bosunref17_Check.j2])
          | succ kj22 =>
           have H:=HA.out
           clear HA
           simp only [bosunref17_Check.j2] at H
           by_cases c37 : x50_22 = true
           ·subst c37
            have H1 : (some 6) = some r:=by rw [if_pos rfl] at H;exact H
            clear H
            have H:=H1
            clear H1
            obtain rfl:=Option.some.inj H
            go_wp2
            repeat (go_quiet (fail);try go_wp2)
            go_ret
            exact ⟨by first|rfl|(simp [errW_none,errW_some] <;> rfl)|(simp [*,errW_none,errW_some] <;> rfl),by repeat (first|(with_reducible first|exact HB.out|apply below_alloc|apply pw_below_drewN|apply below_drew1|refine below_set ?_ GE221.out|refine below_set ?_ GE223.out)|exact HB.out)⟩
           ·replace c37:=Bool.eq_false_iff.mpr c37
            subst c37
            have H1 : (if ((rd_T67 l0_1 x3_1).f3) > 2 then (some 7) else (bosunref17_Check.l0 kj22 (wrap64 (x3_1 + 1)) a0_0 l0_1)) = some r:=by rw [if_neg (show ¬ (false = true) by decide)] at H;exact H
            clear H
            have H:=H1
            clear H1
            by_cases c38 : ((rd_T67 l0_1 x3_1).f3) > 2
            ·rw [if_pos c38] at H
             have c38b0 : decide (2 < ((rd_T67 l0_1 x3_1).f3)) = true:=decide_eq_true c38
             clear c38
             obtain rfl:=Option.some.inj H
             have hnb39:=NB223_221.out
             have hnc39:=NB221_223.out
             have hcz40_0 : wc.cell? ⟨gb223,0,none⟩ = some (.string ((rd_T67 l0_1 x3_1).f0)):=(blk_cell BK223.out 0).trans rfl
             have hcz40_1 : wc.cell? ⟨gb223,1,none⟩ = some (.string ((rd_T67 l0_1 x3_1).f1)):=(blk_cell BK223.out 1).trans rfl
             have hcz40_2 : wc.cell? ⟨gb223,2,none⟩ = some (.string ((rd_T67 l0_1 x3_1).f2)):=(blk_cell BK223.out 2).trans rfl
             have hcz40_3 : wc.cell? ⟨gb223,3,none⟩ = some (.int .u8 ((rd_T67 l0_1 x3_1).f3)):=(blk_cell BK223.out 3).trans rfl
             have hfz40_0:=blk_frozen BK223.out 0
             have hfz40_1:=blk_frozen BK223.out 1
             have hfz40_2:=blk_frozen BK223.out 2
             have hfz40_3:=blk_frozen BK223.out 3
             go_wp2
             repeat (go_quiet (fail);try go_wp2)
             go_ret
             exact ⟨by first|rfl|(simp [errW_none,errW_some] <;> rfl)|(simp [*,errW_none,errW_some] <;> rfl),by repeat (first|(with_reducible first|exact HB.out|apply below_alloc|apply pw_below_drewN|apply below_drew1|refine below_set ?_ GE221.out|refine below_set ?_ GE223.out)|exact HB.out)⟩
            ·rw [if_neg c38] at H
             have c38b0 : decide (2 < ((rd_T67 l0_1 x3_1).f3)) = false:=decide_eq_false c38
             clear c38
             have H':=Aside0.mk H
             clear H
             have hnb41:=NB223_221.out
             have hnc41:=NB221_223.out
             have hcz42_0 : wc.cell? ⟨gb223,0,none⟩ = some (.string ((rd_T67 l0_1 x3_1).f0)):=(blk_cell BK223.out 0).trans rfl
             have hcz42_1 : wc.cell? ⟨gb223,1,none⟩ = some (.string ((rd_T67 l0_1 x3_1).f1)):=(blk_cell BK223.out 1).trans rfl
             have hcz42_2 : wc.cell? ⟨gb223,2,none⟩ = some (.string ((rd_T67 l0_1 x3_1).f2)):=(blk_cell BK223.out 2).trans rfl
             have hcz42_3 : wc.cell? ⟨gb223,3,none⟩ = some (.int .u8 ((rd_T67 l0_1 x3_1).f3)):=(blk_cell BK223.out 3).trans rfl
             have hfz42_0:=blk_frozen BK223.out 0
             have hfz42_1:=blk_frozen BK223.out 1
             have hfz42_2:=blk_frozen BK223.out 2
             have hfz42_3:=blk_frozen BK223.out 3
             go_wp2
             repeat (go_quiet (fail);try go_wp2)
             go_roundg kj22
             case measure=>have:=HK1.out;have:=HJ8.out;have:=HJ22.out;omega
             case rel=>exact ⟨(wrap64 (x3_1 + 1)),(by first|rfl|(simp;done)|(simp [*];done)),H',⟨by have:=HK1.out;have:=HJ8.out;have:=HJ22.out;omega⟩,⟨by (with_reducible repeat (first|apply blk_drewN|apply blk_drew|apply blk_alloc));exact BK221.out⟩,⟨by repeat (first|(with_reducible first|exact HB.out|apply below_alloc|apply pw_below_drewN|apply below_drew1|refine below_set ?_ GE221.out|refine below_set ?_ GE223.out)|exact HB.out)⟩⟩
     ·rw [if_neg c8] at H
      exact absurd H (by simp)
    ·rw [if_neg c7] at H
     have c7b0 : decide (x3_1 < (l0_1.length : Int)) = false:=decide_eq_false c7
     clear c7
     obtain rfl:=Option.some.inj H
     have hcz43_0 : wr.cell? ⟨gb221,0,none⟩ = some (.int .u32 a0_0):=(blk_cell BK221.out 0).trans rfl
     have hcz43_1 : wr.cell? ⟨gb221,1,none⟩ = some (.slice A0_1 l0_1.length c0_1):=(blk_cell BK221.out 1).trans rfl
     have hfz43_0:=blk_frozen BK221.out 0
     have hfz43_1:=blk_frozen BK221.out 1
     go_wp2
     repeat (go_quiet (fail);try go_wp2)
     go_ret
     exact ⟨by first|rfl|(simp [errW_none,errW_some] <;> rfl)|(simp [*,errW_none,errW_some] <;> rfl),by repeat (first|(with_reducible first|exact HB.out|apply below_alloc|apply pw_below_drewN|apply below_drew1|refine below_set ?_ GE221.out)|exact HB.out)⟩

/-! ### bosunref02_number: function 79 -/
def bosunref02_number.l0 : Nat → ByteArray → Int → Int → Option (Int)
 | 0,_,_,_=>none
 | k + 1,x0,x3,x4=>if x4 < (x0.size : Int) then (if 0 ≤ x4 then (bosunref02_number.l0 k x0 (IntKind.u64.wrap ((IntKind.u64.wrap (x3 * 256)) + (IntKind.u64.wrap (bt x0 x4)))) (wrap64 (x4 + 1))) else (none)) else (some x3)
def bosunref02_number.f (k : Nat) (a0 : ByteArray) : Option (Int):=bosunref02_number.l0 k a0 0 0
theorem bosunref02_number.mono_l : ∀ k,(∀ y0 y1 y2,LeO (bosunref02_number.l0 k y0 y1 y2) (bosunref02_number.l0 (k + 1) y0 y1 y2))
 | 0=>fun _ _ _ r h=>by simp [bosunref02_number.l0] at h
 | k + 1=>by
  have ih0:=bosunref02_number.mono_l k
  ·intro y0 y1 y2
   unfold bosunref02_number.l0
   repeat' first
   | (with_reducible exact ih0 _ _ _)
   | (with_reducible exact LeO.refl _)
   | (with_reducible exact LeO.none _)
   | (with_reducible refine LeO.ite ?_ ?_)
   | (with_reducible refine LeO.bind ?_ (fun _=>?_))
   | exact ih0 _ _ _
   | exact LeO.none _
   | refine LeO.ite ?_ ?_
   | refine LeO.bind ?_ (fun _=>?_)
theorem bosunref02_number.mono : ∀ a0 k,LeO (bosunref02_number.f k a0) (bosunref02_number.f (k + 1) a0):=by
 intro a0 k
 have ih0:=bosunref02_number.mono_l k
 unfold bosunref02_number.f
 repeat' first
   | (with_reducible exact ih0 _ _ _)
   | (with_reducible exact LeO.refl _)
   | (with_reducible exact LeO.none _)
   | (with_reducible refine LeO.ite ?_ ?_)
   | (with_reducible refine LeO.bind ?_ (fun _=>?_))
   | exact ih0 _ _ _
   | exact LeO.none _
   | refine LeO.ite ?_ ?_
   | refine LeO.bind ?_ (fun _=>?_)
set_option maxHeartbeats 8000000 in
set_option maxRecDepth 100000 in
theorem bosunref02_number.calls (k : Nat) (a0 : ByteArray) (r : Int) (w : World) (h : bosunref02_number.f k a0 = some r) :
  Calls Tryd.prog 79 #[.string a0] w fun e w'=>e = .returned (.int .u64 r) ∧ Drawn0 w w':=by
 have H : (bosunref02_number.l0 k a0 0 0) = some r:=h
 clear h
 have H':=Aside0.mk H
 clear H
 go_enter Tryd.func79,Tryd.ntmps79
 go_wp2
 go_loopg [3,4] k (fun kq v3 v4 w'=>∃ (x3_1 : Int) (x4_1 : Int),v3 = .int .u64 x3_1 ∧ v4 = .int .i64 x4_1 ∧ Aside0 (bosunref02_number.l0 kq a0 x3_1 x4_1 = some r) ∧ Aside0 (kq ≤ k) ∧ Drawn0 w w')
 case atStart=>exact ⟨(0),(0),(by first|rfl|(simp;done)|(simp [*];done)),(by first|rfl|(simp;done)|(simp [*];done)),H',⟨Nat.le_refl _⟩,by repeat (first|exact Drawn0.refl _|apply Drawn0.step)⟩
 case round =>
  clear H'
  obtain ⟨x3_1,x4_1,rfl,rfl,HA,HK1,⟨m1,rfl⟩⟩:=hrel
  cases gk with
  | zero=>exact absurd HA.out (by simp [bosunref02_number.l0])
  | succ k1 =>
   have H:=HA.out
   clear HA
   simp only [bosunref02_number.l0] at H
   by_cases c2 : x4_1 < (a0.size : Int)
   ·rw [if_pos c2] at H
    have c2b0 : decide (x4_1 < (a0.size : Int)) = true:=decide_eq_true c2
    clear c2
    by_cases c3 : 0 ≤ x4_1
    ·rw [if_pos c3] at H
     have c3b0 : decide (0 ≤ x4_1) = true:=decide_eq_true c3
     clear c3
     have H':=Aside0.mk H
     clear H
     have p4 : 0 ≤ (x4_1 : Int):=of_decide_eq_true (by first|(with_reducible assumption)|assumption)
     have q4 : x4_1 < (a0.size : Int):=of_decide_eq_true (by first|(with_reducible assumption)|assumption)
     have hx4:=bt_at a0 x4_1
     replace p4:=eq_true p4
     replace q4:=eq_true q4
     go_wp2
     go_roundg k1
     case measure=>have:=HK1.out;omega
     case rel=>exact ⟨(IntKind.u64.wrap ((IntKind.u64.wrap (x3_1 * 256)) + (IntKind.u64.wrap (bt a0 x4_1)))),(wrap64 (x4_1 + 1)),(by first|rfl|(simp;done)|(simp [*];done)),(by first|rfl|(simp;done)|(simp [*];done)),H',⟨by have:=HK1.out;omega⟩,by repeat (first|exact Drawn0.refl _|apply Drawn0.step)⟩
    ·rw [if_neg c3] at H
     exact absurd H (by simp)
   ·rw [if_neg c2] at H
    have c2b0 : decide (x4_1 < (a0.size : Int)) = false:=decide_eq_false c2
    clear c2
    obtain rfl:=Option.some.inj H
    go_wp2
    go_ret
    exact ⟨by first|rfl|(simp;done)|(simp [*];done),by repeat (first|exact Drawn0.refl _|apply Drawn0.step)⟩

end Go.Proofs.YtpmbdcljphpcnaaDoor.GCk
