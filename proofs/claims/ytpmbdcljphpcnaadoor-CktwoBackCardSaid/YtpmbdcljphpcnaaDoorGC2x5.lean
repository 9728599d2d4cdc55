/- Written by this session's own program (wip/gen.py) out of the translation: plain Lean functions of the Go functions, and proofs that the calls come to their answers. No conditions beside those in the statements. -/
import Derived.Test.YtpmbdcljphpcnaaDoorGC2x0
import Derived.Test.YtpmbdcljphpcnaaDoorGC2x2
import Derived.Test.YtpmbdcljphpcnaaDoorGC2x4
import Derived.Test.YtpmbdcljphpcnaaDoorGC2Name
namespace Go.Proofs.YtpmbdcljphpcnaaDoor.GC2
open Go.RowKit Go.Proofs.YtpmbdcljphpcnaaDoorW.PrintWords Go.Proofs.YtpmbdcljphpcnaaDoorW.PrintLast Go.Proofs.YtpmbdcljphpcnaaDoorW.PrintMore
attribute [local go_sem] max2_int min2_int max_two min_two max_three min_three max_four min_four   -- for this text's walks alone
set_option linter.unusedVariables false
set_option linter.unusedSimpArgs false

/-! ### ckone_State_Check: function 14 -/
mutual
def ckone_State_Check.l0 : Nat → List (S66) → Int → Int → Int → List (S66) → Option (Int)
 | 0,_,_,_,_,_=>none
 | k + 1,x10,x11,x12,x119000,x119001=>if x12 < x11 then (if 0 ≤ x12 then (if x12 < (x10.length : Int) then ((ckone_File.f k ((rd_T66 x10 x12).f0)).bind fun t121=>(if t121 = true then ((dns_Name.f k ((rd_T66 x10 x12).f1)).bind fun t122=>(ckone_State_Check.j1 k x12 x10 x11 x12 (!t122) x119000 x119001 ((rd_T66 x10 x12).f0) ((rd_T66 x10 x12).f1) ((rd_T66 x10 x12).f2) ((rd_T66 x10 x12).f3))) else (ckone_State_Check.j1 k x12 x10 x11 x12 true x119000 x119001 ((rd_T66 x10 x12).f0) ((rd_T66 x10 x12).f1) ((rd_T66 x10 x12).f2) ((rd_T66 x10 x12).f3)))) else (none)) else (none)) else (some 0)
def ckone_State_Check.j1 : Nat → Int → List (S66) → Int → Int → Bool → Int → List (S66) → ByteArray → ByteArray → ByteArray → Int → Option (Int)
 | 0,_,_,_,_,_,_,_,_,_,_,_=>none
 | k + 1,x3,x10,x11,x12,x17,x119000,x119001,x121000,x121001,x121002,x121003=>if x17 = true then (some 13) else ((dns_Image.f k x121002).bind fun t123=>(if t123 = true then (if x3 > 0 then (if 0 ≤ (wrap64 (x3 - 1)) then (if (wrap64 (x3 - 1)) < (x119001.length : Int) then (ckone_State_Check.j2 k x10 x11 x12 (!(Op.bytesLess (((rd_T66 x119001 (wrap64 (x3 - 1))).f0).toList) x121000.toList)) x119000 x119001 x121000 x121001 x121002 x121003) else (none)) else (none)) else (ckone_State_Check.j2 k x10 x11 x12 false x119000 x119001 x121000 x121001 x121002 x121003)) else (ckone_State_Check.j2 k x10 x11 x12 true x119000 x119001 x121000 x121001 x121002 x121003)))
def ckone_State_Check.j2 : Nat → List (S66) → Int → Int → Bool → Int → List (S66) → ByteArray → ByteArray → ByteArray → Int → Option (Int)
 | 0,_,_,_,_,_,_,_,_,_,_=>none
 | k + 1,x10,x11,x12,x28,x119000,x119001,x121000,x121001,x121002,x121003=>if x28 = true then (some 6) else (if x121003 > 2 then (some 7) else (ckone_State_Check.l0 k x10 x11 (wrap64 (x12 + 1)) x119000 x119001))
end
def ckone_State_Check.f (k : Nat) (a0_0 : Int) (l0_1 : List (S66)) : Option (Int):=if (l0_1.length : Int) > 1024 then (some 18) else (ckone_State_Check.l0 k l0_1 (l0_1.length : Int) 0 a0_0 l0_1)
theorem ckone_State_Check.mono_l : ∀ k,(∀ y0 y1 y2 y3 y4,LeO (ckone_State_Check.l0 k y0 y1 y2 y3 y4) (ckone_State_Check.l0 (k + 1) y0 y1 y2 y3 y4)) ∧ (∀ y0 y1 y2 y3 y4 y5 y6 y7 y8 y9 y10,LeO (ckone_State_Check.j1 k y0 y1 y2 y3 y4 y5 y6 y7 y8 y9 y10) (ckone_State_Check.j1 (k + 1) y0 y1 y2 y3 y4 y5 y6 y7 y8 y9 y10)) ∧ (∀ y0 y1 y2 y3 y4 y5 y6 y7 y8 y9,LeO (ckone_State_Check.j2 k y0 y1 y2 y3 y4 y5 y6 y7 y8 y9) (ckone_State_Check.j2 (k + 1) y0 y1 y2 y3 y4 y5 y6 y7 y8 y9))
 | 0=>⟨fun _ _ _ _ _ r h=>by simp [ckone_State_Check.l0] at h,fun _ _ _ _ _ _ _ _ _ _ _ r h=>by simp [ckone_State_Check.j1] at h,fun _ _ _ _ _ _ _ _ _ _ r h=>by simp [ckone_State_Check.j2] at h⟩
 | k + 1=>by
  obtain ⟨ih0,ih1,ih2⟩:=ckone_State_Check.mono_l k
  refine ⟨?_,?_,?_⟩
  ·intro y0 y1 y2 y3 y4
   unfold ckone_State_Check.l0
   repeat' first
   | (with_reducible exact ih0 _ _ _ _ _)
   | (with_reducible exact ih1 _ _ _ _ _ _ _ _ _ _ _)
   | (with_reducible exact ih2 _ _ _ _ _ _ _ _ _ _)
   | (with_reducible exact ckone_File.mono _ _)
   | (with_reducible exact dns_Image.mono _ _)
   | (with_reducible exact dns_Name.mono _ _)
   | (with_reducible exact LeO.refl _)
   | (with_reducible exact LeO.none _)
   | (with_reducible refine LeO.ite ?_ ?_)
   | (with_reducible refine LeO.bind ?_ (fun _=>?_))
   | exact ih0 _ _ _ _ _
   | exact ih1 _ _ _ _ _ _ _ _ _ _ _
   | exact ih2 _ _ _ _ _ _ _ _ _ _
   | exact ckone_File.mono _ _
   | exact dns_Image.mono _ _
   | exact dns_Name.mono _ _
   | exact LeO.none _
   | refine LeO.ite ?_ ?_
   | refine LeO.bind ?_ (fun _=>?_)
  ·intro y0 y1 y2 y3 y4 y5 y6 y7 y8 y9 y10
   unfold ckone_State_Check.j1
   repeat' first
   | (with_reducible exact ih0 _ _ _ _ _)
   | (with_reducible exact ih1 _ _ _ _ _ _ _ _ _ _ _)
   | (with_reducible exact ih2 _ _ _ _ _ _ _ _ _ _)
   | (with_reducible exact ckone_File.mono _ _)
   | (with_reducible exact dns_Image.mono _ _)
   | (with_reducible exact dns_Name.mono _ _)
   | (with_reducible exact LeO.refl _)
   | (with_reducible exact LeO.none _)
   | (with_reducible refine LeO.ite ?_ ?_)
   | (with_reducible refine LeO.bind ?_ (fun _=>?_))
   | exact ih0 _ _ _ _ _
   | exact ih1 _ _ _ _ _ _ _ _ _ _ _
   | exact ih2 _ _ _ _ _ _ _ _ _ _
   | exact ckone_File.mono _ _
   | exact dns_Image.mono _ _
   | exact dns_Name.mono _ _
   | exact LeO.none _
   | refine LeO.ite ?_ ?_
   | refine LeO.bind ?_ (fun _=>?_)
  ·intro y0 y1 y2 y3 y4 y5 y6 y7 y8 y9
   unfold ckone_State_Check.j2
   repeat' first
   | (with_reducible exact ih0 _ _ _ _ _)
   | (with_reducible exact ih1 _ _ _ _ _ _ _ _ _ _ _)
   | (with_reducible exact ih2 _ _ _ _ _ _ _ _ _ _)
   | (with_reducible exact ckone_File.mono _ _)
   | (with_reducible exact dns_Image.mono _ _)
   | (with_reducible exact dns_Name.mono _ _)
   | (with_reducible exact LeO.refl _)
   | (with_reducible exact LeO.none _)
   | (with_reducible refine LeO.ite ?_ ?_)
   | (with_reducible refine LeO.bind ?_ (fun _=>?_))
   | exact ih0 _ _ _ _ _
   | exact ih1 _ _ _ _ _ _ _ _ _ _ _
   | exact ih2 _ _ _ _ _ _ _ _ _ _
   | exact ckone_File.mono _ _
   | exact dns_Image.mono _ _
   | exact dns_Name.mono _ _
   | exact LeO.none _
   | refine LeO.ite ?_ ?_
   | refine LeO.bind ?_ (fun _=>?_)
theorem ckone_State_Check.mono : ∀ a0 a1 k,LeO (ckone_State_Check.f k a0 a1) (ckone_State_Check.f (k + 1) a0 a1):=by
 intro a0 a1 k
 obtain ⟨ih0,ih1,ih2⟩:=ckone_State_Check.mono_l k
 unfold ckone_State_Check.f
 repeat' first
   | (with_reducible exact ih0 _ _ _ _ _)
   | (with_reducible exact ih1 _ _ _ _ _ _ _ _ _ _ _)
   | (with_reducible exact ih2 _ _ _ _ _ _ _ _ _ _)
   | (with_reducible exact ckone_File.mono _ _)
   | (with_reducible exact dns_Image.mono _ _)
   | (with_reducible exact dns_Name.mono _ _)
   | (with_reducible exact LeO.refl _)
   | (with_reducible exact LeO.none _)
   | (with_reducible refine LeO.ite ?_ ?_)
   | (with_reducible refine LeO.bind ?_ (fun _=>?_))
   | exact ih0 _ _ _ _ _
   | exact ih1 _ _ _ _ _ _ _ _ _ _ _
   | exact ih2 _ _ _ _ _ _ _ _ _ _
   | exact ckone_File.mono _ _
   | exact dns_Image.mono _ _
   | exact dns_Name.mono _ _
   | exact LeO.none _
   | refine LeO.ite ?_ ?_
   | refine LeO.bind ?_ (fun _=>?_)
set_option maxHeartbeats 8000000 in
set_option maxRecDepth 100000 in
theorem ckone_State_Check.calls (k : Nat) (a0_0 : Int) (A0_1 : Option Addr) (c0_1 : Nat) (l0_1 : List (S66)) (r : Int) (w : World) (hr0_1 : Kd.C k66 w A0_1 l0_1.length l0_1) (hc0_1 : l0_1.length ≤ c0_1) (h : ckone_State_Check.f k a0_0 l0_1 = some r) :
  Calls Tryd.prog 14 #[.agg #[.int .u32 a0_0,.slice A0_1 l0_1.length c0_1]] w fun e w'=>e = .returned (.int .i64 r) ∧ Below w.heap.size w w':=by
 have hu25:=Tryd.underlying25
 have hu66:=Tryd.underlying66
 have HR0_1:=Aside0.mk hr0_1
 have HC0_1:=Aside0.mk hc0_1
 clear hr0_1 hc0_1
 have HB:=Aside0.mk (Below.refl w.heap.size w)
 have H : (if (l0_1.length : Int) > 1024 then (some 18) else (ckone_State_Check.l0 k l0_1 (l0_1.length : Int) 0 a0_0 l0_1)) = some r:=h
 clear h
 by_cases c2 : (l0_1.length : Int) > 1024
 ·rw [if_pos c2] at H
  have c2b0 : decide (1024 < (l0_1.length : Int)) = true:=decide_eq_true c2
  have c2b1 : decide (1024 < l0_1.length) = true:=decide_eq_true (by omega)
  clear c2
  obtain rfl:=Option.some.inj H
  go_enter Tryd.func14,Tryd.ntmps14
  go_wp2_with (first|((with_reducible refine gate_dst (N:=1) rfl ?_);refine box_event ?hg (N:=1) ?hd (cs:=#[.int .u32 a0_0,.slice A0_1 l0_1.length c0_1]) (t:=25) ?hr ?_;(case hd=>rfl);(case hg=>rfl);(case hr=>first|(go_simp;done)|(go_simp;rfl));intro gb118 hg w3 hbox hb;have n0_:=Aside0.mk (below_step (by repeat (first|(with_reducible first|exact HB.out|apply below_alloc|apply pw_below_drewN|apply below_drew1)|exact HB.out)) hb);have n1_:=Aside0.mk (hbox);have n2_:=Aside0.mk ((by rw [hg];exact (below_size (by repeat (first|(with_reducible first|exact HB.out|apply below_alloc|apply pw_below_drewN|apply below_drew1)|exact HB.out))) : w.heap.size ≤ gb118));have n3_:=Aside0.mk ((by rw [hg];exact (below_size (by repeat (first|(with_reducible first|exact HB.out|apply below_alloc|apply pw_below_drewN|apply below_drew1)|exact HB.out))) : w.heap.size ≤ gb118));clear HB;have HB:=n0_;have BK118:=n1_;have GW118:=n2_;have GE118:=n3_;clear n0_ n1_ n2_ n3_;clear hb hbox hg;have hcz4_0 : w3.cell? ⟨gb118,0,none⟩ = some (.int .u32 a0_0):=(blk_cell BK118.out 0).trans rfl;have hcz4_1 : w3.cell? ⟨gb118,1,none⟩ = some (.slice A0_1 l0_1.length c0_1):=(blk_cell BK118.out 1).trans rfl;have hfz4_0:=blk_frozen BK118.out 0;have hfz4_1:=blk_frozen BK118.out 1))
  repeat (go_quiet (first|((with_reducible refine gate_dst (N:=1) rfl ?_);refine box_event ?hg (N:=1) ?hd (cs:=#[.int .u32 a0_0,.slice A0_1 l0_1.length c0_1]) (t:=25) ?hr ?_;(case hd=>rfl);(case hg=>rfl);(case hr=>first|(go_simp;done)|(go_simp;rfl));intro gb118 hg w3 hbox hb;have n0_:=Aside0.mk (below_step (by repeat (first|(with_reducible first|exact HB.out|apply below_alloc|apply pw_below_drewN|apply below_drew1)|exact HB.out)) hb);have n1_:=Aside0.mk (hbox);have n2_:=Aside0.mk ((by rw [hg];exact (below_size (by repeat (first|(with_reducible first|exact HB.out|apply below_alloc|apply pw_below_drewN|apply below_drew1)|exact HB.out))) : w.heap.size ≤ gb118));have n3_:=Aside0.mk ((by rw [hg];exact (below_size (by repeat (first|(with_reducible first|exact HB.out|apply below_alloc|apply pw_below_drewN|apply below_drew1)|exact HB.out))) : w.heap.size ≤ gb118));clear HB;have HB:=n0_;have BK118:=n1_;have GW118:=n2_;have GE118:=n3_;clear n0_ n1_ n2_ n3_;clear hb hbox hg;have hcz4_0 : w3.cell? ⟨gb118,0,none⟩ = some (.int .u32 a0_0):=(blk_cell BK118.out 0).trans rfl;have hcz4_1 : w3.cell? ⟨gb118,1,none⟩ = some (.slice A0_1 l0_1.length c0_1):=(blk_cell BK118.out 1).trans rfl;have hfz4_0:=blk_frozen BK118.out 0;have hfz4_1:=blk_frozen BK118.out 1));try go_wp2_with (first|((with_reducible refine gate_dst (N:=1) rfl ?_);refine box_event ?hg (N:=1) ?hd (cs:=#[.int .u32 a0_0,.slice A0_1 l0_1.length c0_1]) (t:=25) ?hr ?_;(case hd=>rfl);(case hg=>rfl);(case hr=>first|(go_simp;done)|(go_simp;rfl));intro gb118 hg w3 hbox hb;have n0_:=Aside0.mk (below_step (by repeat (first|(with_reducible first|exact HB.out|apply below_alloc|apply pw_below_drewN|apply below_drew1)|exact HB.out)) hb);have n1_:=Aside0.mk (hbox);have n2_:=Aside0.mk ((by rw [hg];exact (below_size (by repeat (first|(with_reducible first|exact HB.out|apply below_alloc|apply pw_below_drewN|apply below_drew1)|exact HB.out))) : w.heap.size ≤ gb118));have n3_:=Aside0.mk ((by rw [hg];exact (below_size (by repeat (first|(with_reducible first|exact HB.out|apply below_alloc|apply pw_below_drewN|apply below_drew1)|exact HB.out))) : w.heap.size ≤ gb118));clear HB;have HB:=n0_;have BK118:=n1_;have GW118:=n2_;have GE118:=n3_;clear n0_ n1_ n2_ n3_;clear hb hbox hg;have hcz4_0 : w3.cell? ⟨gb118,0,none⟩ = some (.int .u32 a0_0):=(blk_cell BK118.out 0).trans rfl;have hcz4_1 : w3.cell? ⟨gb118,1,none⟩ = some (.slice A0_1 l0_1.length c0_1):=(blk_cell BK118.out 1).trans rfl;have hfz4_0:=blk_frozen BK118.out 0;have hfz4_1:=blk_frozen BK118.out 1)))
  go_ret
  exact ⟨by first|rfl|(simp [errW_none,errW_some] <;> rfl)|(simp [*,errW_none,errW_some] <;> rfl),by repeat (first|(with_reducible first|exact HB.out|apply below_alloc|apply pw_below_drewN|apply below_drew1|refine below_set ?_ GE118.out)|exact HB.out)⟩
 ·rw [if_neg c2] at H
  have c2b0 : decide (1024 < (l0_1.length : Int)) = false:=decide_eq_false c2
  have c2b1 : decide (1024 < l0_1.length) = false:=decide_eq_false (by omega)
  clear c2
  have H':=Aside0.mk H
  clear H
  go_enter Tryd.func14,Tryd.ntmps14
  go_wp2_with (first|((with_reducible refine gate_dst (N:=1) rfl ?_);refine box_event ?hg (N:=1) ?hd (cs:=#[.int .u32 a0_0,.slice A0_1 l0_1.length c0_1]) (t:=25) ?hr ?_;(case hd=>rfl);(case hg=>rfl);(case hr=>first|(go_simp;done)|(go_simp;rfl));intro gb118 hg w5 hbox hb;have n0_:=Aside0.mk (below_step (by repeat (first|(with_reducible first|exact HB.out|apply below_alloc|apply pw_below_drewN|apply below_drew1)|exact HB.out)) hb);have n1_:=Aside0.mk (hbox);have n2_:=Aside0.mk ((by rw [hg];exact (below_size (by repeat (first|(with_reducible first|exact HB.out|apply below_alloc|apply pw_below_drewN|apply below_drew1)|exact HB.out))) : w.heap.size ≤ gb118));have n3_:=Aside0.mk ((by rw [hg];exact (below_size (by repeat (first|(with_reducible first|exact HB.out|apply below_alloc|apply pw_below_drewN|apply below_drew1)|exact HB.out))) : w.heap.size ≤ gb118));clear HB;have HB:=n0_;have BK118:=n1_;have GW118:=n2_;have GE118:=n3_;clear n0_ n1_ n2_ n3_;clear hb hbox hg;have hcz6_0 : w5.cell? ⟨gb118,0,none⟩ = some (.int .u32 a0_0):=(blk_cell BK118.out 0).trans rfl;have hcz6_1 : w5.cell? ⟨gb118,1,none⟩ = some (.slice A0_1 l0_1.length c0_1):=(blk_cell BK118.out 1).trans rfl;have hfz6_0:=blk_frozen BK118.out 0;have hfz6_1:=blk_frozen BK118.out 1))
  repeat (go_quiet (first|((with_reducible refine gate_dst (N:=1) rfl ?_);refine box_event ?hg (N:=1) ?hd (cs:=#[.int .u32 a0_0,.slice A0_1 l0_1.length c0_1]) (t:=25) ?hr ?_;(case hd=>rfl);(case hg=>rfl);(case hr=>first|(go_simp;done)|(go_simp;rfl));intro gb118 hg w5 hbox hb;have n0_:=Aside0.mk (below_step (by repeat (first|(with_reducible first|exact HB.out|apply below_alloc|apply pw_below_drewN|apply below_drew1)|exact HB.out)) hb);have n1_:=Aside0.mk (hbox);have n2_:=Aside0.mk ((by rw [hg];exact (below_size (by repeat (first|(with_reducible first|exact HB.out|apply below_alloc|apply pw_below_drewN|apply below_drew1)|exact HB.out))) : w.heap.size ≤ gb118));have n3_:=Aside0.mk ((by rw [hg];exact (below_size (by repeat (first|(with_reducible first|exact HB.out|apply below_alloc|apply pw_below_drewN|apply below_drew1)|exact HB.out))) : w.heap.size ≤ gb118));clear HB;have HB:=n0_;have BK118:=n1_;have GW118:=n2_;have GE118:=n3_;clear n0_ n1_ n2_ n3_;clear hb hbox hg;have hcz6_0 : w5.cell? ⟨gb118,0,none⟩ = some (.int .u32 a0_0):=(blk_cell BK118.out 0).trans rfl;have hcz6_1 : w5.cell? ⟨gb118,1,none⟩ = some (.slice A0_1 l0_1.length c0_1):=(blk_cell BK118.out 1).trans rfl;have hfz6_0:=blk_frozen BK118.out 0;have hfz6_1:=blk_frozen BK118.out 1));try go_wp2_with (first|((with_reducible refine gate_dst (N:=1) rfl ?_);refine box_event ?hg (N:=1) ?hd (cs:=#[.int .u32 a0_0,.slice A0_1 l0_1.length c0_1]) (t:=25) ?hr ?_;(case hd=>rfl);(case hg=>rfl);(case hr=>first|(go_simp;done)|(go_simp;rfl));intro gb118 hg w5 hbox hb;have n0_:=Aside0.mk (below_step (by repeat (first|(with_reducible first|exact HB.out|apply below_alloc|apply pw_below_drewN|apply below_drew1)|exact HB.out)) hb);have n1_:=Aside0.mk (hbox);have n2_:=Aside0.mk ((by rw [hg];exact (below_size (by repeat (first|(with_reducible first|exact HB.out|apply below_alloc|apply pw_below_drewN|apply below_drew1)|exact HB.out))) : w.heap.size ≤ gb118));have n3_:=Aside0.mk ((by rw [hg];exact (below_size (by repeat (first|(with_reducible first|exact HB.out|apply below_alloc|apply pw_below_drewN|apply below_drew1)|exact HB.out))) : w.heap.size ≤ gb118));clear HB;have HB:=n0_;have BK118:=n1_;have GW118:=n2_;have GE118:=n3_;clear n0_ n1_ n2_ n3_;clear hb hbox hg;have hcz6_0 : w5.cell? ⟨gb118,0,none⟩ = some (.int .u32 a0_0):=(blk_cell BK118.out 0).trans rfl;have hcz6_1 : w5.cell? ⟨gb118,1,none⟩ = some (.slice A0_1 l0_1.length c0_1):=(blk_cell BK118.out 1).trans rfl;have hfz6_0:=blk_frozen BK118.out 0;have hfz6_1:=blk_frozen BK118.out 1)))
  go_loopg [12] k (fun kq v12 w'=>∃ (x12_1 : Int),v12 = .int .i64 x12_1 ∧ Aside0 (ckone_State_Check.l0 kq l0_1 (l0_1.length : Int) x12_1 a0_0 l0_1 = some r) ∧ Aside0 (kq ≤ k) ∧ Aside0 (w'.heap[gb118]? = some (.cells #[.int .u32 a0_0,(.slice A0_1 l0_1.length c0_1)] 25 (0,0))) ∧ Aside0 (Below w.heap.size w w'))
  case atStart=>exact ⟨(0),(by first|rfl|(simp;done)|(simp [*];done)),H',⟨Nat.le_refl _⟩,⟨by (with_reducible repeat (first|apply blk_drewN|apply blk_drew|apply blk_alloc));exact BK118.out⟩,⟨by repeat (first|(with_reducible first|exact HB.out|apply below_alloc|apply pw_below_drewN|apply below_drew1|refine below_set ?_ GE118.out)|exact HB.out)⟩⟩
  case round =>
   clear H'
   try clear c1
   try clear c2
   try clear c2b0
   try clear c2b1
   try clear p2
   try clear hcz4_0
   try clear hcz4_1
   try clear hcz6_0
   try clear hcz6_1
   try clear hfz4_0
   try clear hfz4_1
   try clear hfz6_0
   try clear hfz6_1
   obtain ⟨x12_1,rfl,HA,HK1,BK118,HB⟩:=hrel
   cases gk with
   | zero=>exact absurd HA.out (by simp [ckone_State_Check.l0])
   | succ k1 =>
    have H:=HA.out
    clear HA
    simp only [ckone_State_Check.l0] at H
    by_cases c7 : x12_1 < (l0_1.length : Int)
    ·rw [if_pos c7] at H
     have c7b0 : decide (x12_1 < (l0_1.length : Int)) = true:=decide_eq_true c7
     clear c7
     by_cases c8 : 0 ≤ x12_1
     ·rw [if_pos c8] at H
      have c8b0 : decide (0 ≤ x12_1) = true:=decide_eq_true c8
      clear c8
      by_cases c9 : x12_1 < (l0_1.length : Int)
      ·rw [if_pos c9] at H
       have c9b0 : decide (x12_1 < (l0_1.length : Int)) = true:=decide_eq_true c9
       clear c9
       have HC10:=Aside0.mk H
       clear H
       have p119 : 0 ≤ (x12_1 : Int):=of_decide_eq_true (by first|(with_reducible assumption)|assumption)
       have q119 : x12_1 < (l0_1.length : Int):=of_decide_eq_true (by first|(with_reducible assumption)|assumption)
       obtain ⟨ad119,e119,hx119_0,hx119_1,hx119_2,hx119_3⟩:=at_T66 HR0_1.out x12_1 p119 q119
       cases e119
       replace hx119_0:=(HB.out.cell (World.block_lt_of_cell? w _ hx119_0)).trans hx119_0
       replace hx119_1:=(HB.out.cell (World.block_lt_of_cell? w _ hx119_1)).trans hx119_1
       replace hx119_2:=(HB.out.cell (World.block_lt_of_cell? w _ hx119_2)).trans hx119_2
       replace hx119_3:=(HB.out.cell (World.block_lt_of_cell? w _ hx119_3)).trans hx119_3
       replace p119:=eq_true p119
       replace q119:=eq_true q119
       go_upto_region 6 with (first|((with_reducible refine gate_dst (N:=4) rfl ?_);refine box_event ?hg (N:=4) ?hd (cs:=#[.string (⟨#[]⟩ : ByteArray),.string (⟨#[]⟩ : ByteArray),.string (⟨#[]⟩ : ByteArray),.int .u8 0]) (t:=66) ?hr ?_;(case hd=>rfl);(case hg=>rfl);(case hr=>first|(go_simp;done)|(go_simp;rfl));intro gb120 hg w11 hbox hb;have n0_:=Aside0.mk (blk_below (g:=gb118) (o:=.cells #[.int .u32 a0_0,.slice (some ad119) l0_1.length c0_1] 25 (0,0)) (by (with_reducible repeat (first|apply blk_drewN|apply blk_drew|apply blk_alloc));exact BK118.out) hb);have n1_:=Aside0.mk (below_step (by repeat (first|(with_reducible first|exact HB.out|apply below_alloc|apply pw_below_drewN|apply below_drew1|refine below_set ?_ GE118.out)|exact HB.out)) hb);have n2_:=Aside0.mk (hbox);have n3_:=Aside0.mk ((by rw [hg];exact (below_size (by repeat (first|(with_reducible first|exact HB.out|apply below_alloc|apply pw_below_drewN|apply below_drew1|refine below_set ?_ GE118.out)|exact HB.out))) : w.heap.size ≤ gb120));have n4_:=Aside0.mk ((by rw [hg];exact (below_size (by repeat (first|(with_reducible first|exact HB.out|apply below_alloc|apply pw_below_drewN|apply below_drew1|refine below_set ?_ GE118.out)|exact HB.out))) : w.heap.size ≤ gb120));have n5_:=Aside0.mk ((by rw [hg];exact Nat.ne_of_lt (blk_lt (g:=gb118) (o:=.cells #[.int .u32 a0_0,.slice (some ad119) l0_1.length c0_1] 25 (0,0)) (by (with_reducible repeat (first|apply blk_drewN|apply blk_drew|apply blk_alloc));exact BK118.out)) : gb118 ≠ gb120));have n6_:=Aside0.mk ((by rw [hg];exact Nat.ne_of_gt (blk_lt (g:=gb118) (o:=.cells #[.int .u32 a0_0,.slice (some ad119) l0_1.length c0_1] 25 (0,0)) (by (with_reducible repeat (first|apply blk_drewN|apply blk_drew|apply blk_alloc));exact BK118.out)) : gb120 ≠ gb118));clear BK118;clear HB;have BK118:=n0_;have HB:=n1_;have BK120:=n2_;have GW120:=n3_;have GE120:=n4_;have NB118_120:=n5_;have NB120_118:=n6_;clear n0_ n1_ n2_ n3_ n4_ n5_ n6_;clear hb hbox hg;have hnb12:=NB120_118.out;have hnc12:=NB118_120.out;have hcz13_0 : w11.cell? ⟨gb120,0,none⟩ = some (.string (⟨#[]⟩ : ByteArray)):=(blk_cell BK120.out 0).trans rfl;have hcz13_1 : w11.cell? ⟨gb120,1,none⟩ = some (.string (⟨#[]⟩ : ByteArray)):=(blk_cell BK120.out 1).trans rfl;have hcz13_2 : w11.cell? ⟨gb120,2,none⟩ = some (.string (⟨#[]⟩ : ByteArray)):=(blk_cell BK120.out 2).trans rfl;have hcz13_3 : w11.cell? ⟨gb120,3,none⟩ = some (.int .u8 0):=(blk_cell BK120.out 3).trans rfl;have hfz13_0:=blk_frozen BK120.out 0;have hfz13_1:=blk_frozen BK120.out 1;have hfz13_2:=blk_frozen BK120.out 2;have hfz13_3:=blk_frozen BK120.out 3))
       repeat (go_quiet (first|((with_reducible refine gate_dst (N:=4) rfl ?_);refine box_event ?hg (N:=4) ?hd (cs:=#[.string (⟨#[]⟩ : ByteArray),.string (⟨#[]⟩ : ByteArray),.string (⟨#[]⟩ : ByteArray),.int .u8 0]) (t:=66) ?hr ?_;(case hd=>rfl);(case hg=>rfl);(case hr=>first|(go_simp;done)|(go_simp;rfl));intro gb120 hg w11 hbox hb;have n0_:=Aside0.mk (blk_below (g:=gb118) (o:=.cells #[.int .u32 a0_0,.slice (some ad119) l0_1.length c0_1] 25 (0,0)) (by (with_reducible repeat (first|apply blk_drewN|apply blk_drew|apply blk_alloc));exact BK118.out) hb);have n1_:=Aside0.mk (below_step (by repeat (first|(with_reducible first|exact HB.out|apply below_alloc|apply pw_below_drewN|apply below_drew1|refine below_set ?_ GE118.out)|exact HB.out)) hb);have n2_:=Aside0.mk (hbox);have n3_:=Aside0.mk ((by rw [hg];exact (below_size (by repeat (first|(with_reducible first|exact HB.out|apply below_alloc|apply pw_below_drewN|apply below_drew1|refine below_set ?_ GE118.out)|exact HB.out))) : w.heap.size ≤ gb120));have n4_:=Aside0.mk ((by rw [hg];exact (below_size (by repeat (first|(with_reducible first|exact HB.out|apply below_alloc|apply pw_below_drewN|apply below_drew1|refine below_set ?_ GE118.out)|exact HB.out))) : w.heap.size ≤ gb120));have n5_:=Aside0.mk ((by rw [hg];exact Nat.ne_of_lt (blk_lt (g:=gb118) (o:=.cells #[.int .u32 a0_0,.slice (some ad119) l0_1.length c0_1] 25 (0,0)) (by (with_reducible repeat (first|apply blk_drewN|apply blk_drew|apply blk_alloc));exact BK118.out)) : gb118 ≠ gb120));have n6_:=Aside0.mk ((by rw [hg];exact Nat.ne_of_gt (blk_lt (g:=gb118) (o:=.cells #[.int .u32 a0_0,.slice (some ad119) l0_1.length c0_1] 25 (0,0)) (by (with_reducible repeat (first|apply blk_drewN|apply blk_drew|apply blk_alloc));exact BK118.out)) : gb120 ≠ gb118));clear BK118;clear HB;have BK118:=n0_;have HB:=n1_;have BK120:=n2_;have GW120:=n3_;have GE120:=n4_;have NB118_120:=n5_;have NB120_118:=n6_;clear n0_ n1_ n2_ n3_ n4_ n5_ n6_;clear hb hbox hg;have hnb12:=NB120_118.out;have hnc12:=NB118_120.out;have hcz13_0 : w11.cell? ⟨gb120,0,none⟩ = some (.string (⟨#[]⟩ : ByteArray)):=(blk_cell BK120.out 0).trans rfl;have hcz13_1 : w11.cell? ⟨gb120,1,none⟩ = some (.string (⟨#[]⟩ : ByteArray)):=(blk_cell BK120.out 1).trans rfl;have hcz13_2 : w11.cell? ⟨gb120,2,none⟩ = some (.string (⟨#[]⟩ : ByteArray)):=(blk_cell BK120.out 2).trans rfl;have hcz13_3 : w11.cell? ⟨gb120,3,none⟩ = some (.int .u8 0):=(blk_cell BK120.out 3).trans rfl;have hfz13_0:=blk_frozen BK120.out 0;have hfz13_1:=blk_frozen BK120.out 1;have hfz13_2:=blk_frozen BK120.out 2;have hfz13_3:=blk_frozen BK120.out 3));go_upto_region 6 with (first|((with_reducible refine gate_dst (N:=4) rfl ?_);refine box_event ?hg (N:=4) ?hd (cs:=#[.string (⟨#[]⟩ : ByteArray),.string (⟨#[]⟩ : ByteArray),.string (⟨#[]⟩ : ByteArray),.int .u8 0]) (t:=66) ?hr ?_;(case hd=>rfl);(case hg=>rfl);(case hr=>first|(go_simp;done)|(go_simp;rfl));intro gb120 hg w11 hbox hb;have n0_:=Aside0.mk (blk_below (g:=gb118) (o:=.cells #[.int .u32 a0_0,.slice (some ad119) l0_1.length c0_1] 25 (0,0)) (by (with_reducible repeat (first|apply blk_drewN|apply blk_drew|apply blk_alloc));exact BK118.out) hb);have n1_:=Aside0.mk (below_step (by repeat (first|(with_reducible first|exact HB.out|apply below_alloc|apply pw_below_drewN|apply below_drew1|refine below_set ?_ GE118.out)|exact HB.out)) hb);have n2_:=Aside0.mk (hbox);have n3_:=Aside0.mk ((by rw [hg];exact (below_size (by repeat (first|(with_reducible first|exact HB.out|apply below_alloc|apply pw_below_drewN|apply below_drew1|refine below_set ?_ GE118.out)|exact HB.out))) : w.heap.size ≤ gb120));have n4_:=Aside0.mk ((by rw [hg];exact (below_size (by repeat (first|(with_reducible first|exact HB.out|apply below_alloc|apply pw_below_drewN|apply below_drew1|refine below_set ?_ GE118.out)|exact HB.out))) : w.heap.size ≤ gb120));have n5_:=Aside0.mk ((by rw [hg];exact Nat.ne_of_lt (blk_lt (g:=gb118) (o:=.cells #[.int .u32 a0_0,.slice (some ad119) l0_1.length c0_1] 25 (0,0)) (by (with_reducible repeat (first|apply blk_drewN|apply blk_drew|apply blk_alloc));exact BK118.out)) : gb118 ≠ gb120));have n6_:=Aside0.mk ((by rw [hg];exact Nat.ne_of_gt (blk_lt (g:=gb118) (o:=.cells #[.int .u32 a0_0,.slice (some ad119) l0_1.length c0_1] 25 (0,0)) (by (with_reducible repeat (first|apply blk_drewN|apply blk_drew|apply blk_alloc));exact BK118.out)) : gb120 ≠ gb118));clear BK118;clear HB;have BK118:=n0_;have HB:=n1_;have BK120:=n2_;have GW120:=n3_;have GE120:=n4_;have NB118_120:=n5_;have NB120_118:=n6_;clear n0_ n1_ n2_ n3_ n4_ n5_ n6_;clear hb hbox hg;have hnb12:=NB120_118.out;have hnc12:=NB118_120.out;have hcz13_0 : w11.cell? ⟨gb120,0,none⟩ = some (.string (⟨#[]⟩ : ByteArray)):=(blk_cell BK120.out 0).trans rfl;have hcz13_1 : w11.cell? ⟨gb120,1,none⟩ = some (.string (⟨#[]⟩ : ByteArray)):=(blk_cell BK120.out 1).trans rfl;have hcz13_2 : w11.cell? ⟨gb120,2,none⟩ = some (.string (⟨#[]⟩ : ByteArray)):=(blk_cell BK120.out 2).trans rfl;have hcz13_3 : w11.cell? ⟨gb120,3,none⟩ = some (.int .u8 0):=(blk_cell BK120.out 3).trans rfl;have hfz13_0:=blk_frozen BK120.out 0;have hfz13_1:=blk_frozen BK120.out 1;have hfz13_2:=blk_frozen BK120.out 2;have hfz13_3:=blk_frozen BK120.out 3)))
       (try simp only [Act.put,List.setIfInBounds_toArray,List.set_cons_zero,List.set_cons_succ])
       go_cut [17] (fun v17 wc=>∃ (kq : Nat) (x17_9 : Bool),v17 = .bool x17_9 ∧ Aside0 (ckone_State_Check.j1 kq x12_1 l0_1 (l0_1.length : Int) x12_1 x17_9 a0_0 l0_1 ((rd_T66 l0_1 x12_1).f0) ((rd_T66 l0_1 x12_1).f1) ((rd_T66 l0_1 x12_1).f2) ((rd_T66 l0_1 x12_1).f3) = some r) ∧ Aside0 (kq ≤ k1) ∧ Aside0 (wc.heap[gb118]? = some (.cells #[.int .u32 a0_0,(.slice (some ad119) l0_1.length c0_1)] 25 (0,0))) ∧ Aside0 (wc.heap[gb120]? = some (.cells #[.string ((rd_T66 l0_1 x12_1).f0),.string ((rd_T66 l0_1 x12_1).f1),.string ((rd_T66 l0_1 x12_1).f2),.int .u8 ((rd_T66 l0_1 x12_1).f3)] 66 (0,0))) ∧ Aside0 (Below w.heap.size w wc))
       case first =>
        have H:=HC10.out
        clear HC10
        replace H:=Option.bind_eq_some_iff.mp H
        obtain ⟨t121,A140,H⟩:=H
        replace H : (if t121 = true then ((dns_Name.f k1 ((rd_T66 l0_1 x12_1).f1)).bind fun t122=>(ckone_State_Check.j1 k1 x12_1 l0_1 (l0_1.length : Int) x12_1 (!t122) a0_0 l0_1 ((rd_T66 l0_1 x12_1).f0) ((rd_T66 l0_1 x12_1).f1) ((rd_T66 l0_1 x12_1).f2) ((rd_T66 l0_1 x12_1).f3))) else (ckone_State_Check.j1 k1 x12_1 l0_1 (l0_1.length : Int) x12_1 true a0_0 l0_1 ((rd_T66 l0_1 x12_1).f0) ((rd_T66 l0_1 x12_1).f1) ((rd_T66 l0_1 x12_1).f2) ((rd_T66 l0_1 x12_1).f3))) = some r:=H
        have A14:=Aside0.mk A140
        clear A140
        by_cases c15 : t121 = true
        ·subst c15
         have H1 : ((dns_Name.f k1 ((rd_T66 l0_1 x12_1).f1)).bind fun t122=>(ckone_State_Check.j1 k1 x12_1 l0_1 (l0_1.length : Int) x12_1 (!t122) a0_0 l0_1 ((rd_T66 l0_1 x12_1).f0) ((rd_T66 l0_1 x12_1).f1) ((rd_T66 l0_1 x12_1).f2) ((rd_T66 l0_1 x12_1).f3))) = some r:=by rw [if_pos rfl] at H;exact H
         clear H
         have H:=H1
         clear H1
         replace H:=Option.bind_eq_some_iff.mp H
         obtain ⟨t122,A160,H⟩:=H
         replace H : (ckone_State_Check.j1 k1 x12_1 l0_1 (l0_1.length : Int) x12_1 (!t122) a0_0 l0_1 ((rd_T66 l0_1 x12_1).f0) ((rd_T66 l0_1 x12_1).f1) ((rd_T66 l0_1 x12_1).f2) ((rd_T66 l0_1 x12_1).f3)) = some r:=H
         have A16:=Aside0.mk A160
         clear A160
         have H':=Aside0.mk H
         clear H
         have hnb17:=NB120_118.out
         have hnc17:=NB118_120.out
         have hcz18_0 : w11.cell? ⟨gb120,0,none⟩ = some (.string (⟨#[]⟩ : ByteArray)):=(blk_cell BK120.out 0).trans rfl
         have hcz18_1 : w11.cell? ⟨gb120,1,none⟩ = some (.string (⟨#[]⟩ : ByteArray)):=(blk_cell BK120.out 1).trans rfl
         have hcz18_2 : w11.cell? ⟨gb120,2,none⟩ = some (.string (⟨#[]⟩ : ByteArray)):=(blk_cell BK120.out 2).trans rfl
         have hcz18_3 : w11.cell? ⟨gb120,3,none⟩ = some (.int .u8 0):=(blk_cell BK120.out 3).trans rfl
         have hfz18_0:=blk_frozen BK120.out 0
         have hfz18_1:=blk_frozen BK120.out 1
         have hfz18_2:=blk_frozen BK120.out 2
         have hfz18_3:=blk_frozen BK120.out 3
         go_wp2_with (first|(go_at_call 18;(with_reducible refine (ckone_File.calls k1 ((rd_T66 l0_1 x12_1).f0) true _ A14.out).mono ?_);rintro e w' ⟨rfl,⟨nd,rfl⟩⟩;(try first|exact ⟨rfl,_,World.drewN_drewN _ _ _⟩|exact ⟨rfl,_,Eq.trans (World.drewN_drewN _ _ _) (congrArg (World.drewN _) (Nat.add_assoc _ _ _))⟩))|(go_at_call 41;(with_reducible refine (dns_Name.calls k1 ((rd_T66 l0_1 x12_1).f1) t122 _ A16.out).mono ?_);rintro e w19 ⟨rfl,hb⟩;have n0_:=Aside0.mk (blk_below (g:=gb118) (o:=.cells #[.int .u32 a0_0,.slice (some ad119) l0_1.length c0_1] 25 (0,0)) (by (with_reducible repeat (first|apply blk_drewN|apply blk_drew|apply blk_alloc));refine blk_far ?_ NB118_120.out _;(with_reducible repeat (first|apply blk_drewN|apply blk_drew|apply blk_alloc));refine blk_far ?_ NB118_120.out _;(with_reducible repeat (first|apply blk_drewN|apply blk_drew|apply blk_alloc));refine blk_far ?_ NB118_120.out _;(with_reducible repeat (first|apply blk_drewN|apply blk_drew|apply blk_alloc));refine blk_far ?_ NB118_120.out _;(with_reducible repeat (first|apply blk_drewN|apply blk_drew|apply blk_alloc));exact BK118.out) hb);have n1_:=Aside0.mk (blk_below (g:=gb120) (o:=.cells #[.string ((rd_T66 l0_1 x12_1).f0),.string ((rd_T66 l0_1 x12_1).f1),.string ((rd_T66 l0_1 x12_1).f2),.int .u8 ((rd_T66 l0_1 x12_1).f3)] 66 (0,0)) (by (with_reducible repeat (first|apply blk_drewN|apply blk_drew|apply blk_alloc));refine blk_put (cs:=#[.string ((rd_T66 l0_1 x12_1).f0),.string ((rd_T66 l0_1 x12_1).f1),.string ((rd_T66 l0_1 x12_1).f2),.int .u8 0]) ?_ 3 _ rfl;(with_reducible repeat (first|apply blk_drewN|apply blk_drew|apply blk_alloc));refine blk_put (cs:=#[.string ((rd_T66 l0_1 x12_1).f0),.string ((rd_T66 l0_1 x12_1).f1),.string (⟨#[]⟩ : ByteArray),.int .u8 0]) ?_ 2 _ rfl;(with_reducible repeat (first|apply blk_drewN|apply blk_drew|apply blk_alloc));refine blk_put (cs:=#[.string ((rd_T66 l0_1 x12_1).f0),.string (⟨#[]⟩ : ByteArray),.string (⟨#[]⟩ : ByteArray),.int .u8 0]) ?_ 1 _ rfl;(with_reducible repeat (first|apply blk_drewN|apply blk_drew|apply blk_alloc));refine blk_put (cs:=#[.string (⟨#[]⟩ : ByteArray),.string (⟨#[]⟩ : ByteArray),.string (⟨#[]⟩ : ByteArray),.int .u8 0]) ?_ 0 _ rfl;(with_reducible repeat (first|apply blk_drewN|apply blk_drew|apply blk_alloc));exact BK120.out) hb);have n2_:=Aside0.mk (below_step (by repeat (first|(with_reducible first|exact HB.out|apply below_alloc|apply pw_below_drewN|apply below_drew1|refine below_set ?_ GE118.out|refine below_set ?_ GE120.out)|exact HB.out)) hb);clear BK118;clear BK120;clear HB;have BK118:=n0_;have BK120:=n1_;have HB:=n2_;clear n0_ n1_ n2_;(try clear hb);(try clear hb2);(try clear hk);(try clear hi)))
         repeat (go_quiet (first|(go_at_call 18;(with_reducible refine (ckone_File.calls k1 ((rd_T66 l0_1 x12_1).f0) true _ A14.out).mono ?_);rintro e w' ⟨rfl,⟨nd,rfl⟩⟩;(try first|exact ⟨rfl,_,World.drewN_drewN _ _ _⟩|exact ⟨rfl,_,Eq.trans (World.drewN_drewN _ _ _) (congrArg (World.drewN _) (Nat.add_assoc _ _ _))⟩))|(go_at_call 41;(with_reducible refine (dns_Name.calls k1 ((rd_T66 l0_1 x12_1).f1) t122 _ A16.out).mono ?_);rintro e w19 ⟨rfl,hb⟩;have n0_:=Aside0.mk (blk_below (g:=gb118) (o:=.cells #[.int .u32 a0_0,.slice (some ad119) l0_1.length c0_1] 25 (0,0)) (by (with_reducible repeat (first|apply blk_drewN|apply blk_drew|apply blk_alloc));refine blk_far ?_ NB118_120.out _;(with_reducible repeat (first|apply blk_drewN|apply blk_drew|apply blk_alloc));refine blk_far ?_ NB118_120.out _;(with_reducible repeat (first|apply blk_drewN|apply blk_drew|apply blk_alloc));refine blk_far ?_ NB118_120.out _;(with_reducible repeat (first|apply blk_drewN|apply blk_drew|apply blk_alloc));refine blk_far ?_ NB118_120.out _;(with_reducible repeat (first|apply blk_drewN|apply blk_drew|apply blk_alloc));exact BK118.out) hb);have n1_:=Aside0.mk (blk_below (g:=gb120) (o:=.cells #[.string ((rd_T66 l0_1 x12_1).f0),.string ((rd_T66 l0_1 x12_1).f1),.string ((rd_T66 l0_1 x12_1).f2),.int .u8 ((rd_T66 l0_1 x12_1).f3)] 66 (0,0)) (by (with_reducible repeat (first|apply blk_drewN|apply blk_drew|apply blk_alloc));refine blk_put (cs:=#[.string ((rd_T66 l0_1 x12_1).f0),.string ((rd_T66 l0_1 x12_1).f1),.string ((rd_T66 l0_1 x12_1).f2),.int .u8 0]) ?_ 3 _ rfl;(with_reducible repeat (first|apply blk_drewN|apply blk_drew|apply blk_alloc));refine blk_put (cs:=#[.string ((rd_T66 l0_1 x12_1).f0),.string ((rd_T66 l0_1 x12_1).f1),.string (⟨#[]⟩ : ByteArray),.int .u8 0]) ?_ 2 _ rfl;(with_reducible repeat (first|apply blk_drewN|apply blk_drew|apply blk_alloc));refine blk_put (cs:=#[.string ((rd_T66 l0_1 x12_1).f0),.string (⟨#[]⟩ : ByteArray),.string (⟨#[]⟩ : ByteArray),.int .u8 0]) ?_ 1 _ rfl;(with_reducible repeat (first|apply blk_drewN|apply blk_drew|apply blk_alloc));refine blk_put (cs:=#[.string (⟨#[]⟩ : ByteArray),.string (⟨#[]⟩ : ByteArray),.string (⟨#[]⟩ : ByteArray),.int .u8 0]) ?_ 0 _ rfl;(with_reducible repeat (first|apply blk_drewN|apply blk_drew|apply blk_alloc));exact BK120.out) hb);have n2_:=Aside0.mk (below_step (by repeat (first|(with_reducible first|exact HB.out|apply below_alloc|apply pw_below_drewN|apply below_drew1|refine below_set ?_ GE118.out|refine below_set ?_ GE120.out)|exact HB.out)) hb);clear BK118;clear BK120;clear HB;have BK118:=n0_;have BK120:=n1_;have HB:=n2_;clear n0_ n1_ n2_;(try clear hb);(try clear hb2);(try clear hk);(try clear hi)));try go_wp2_with (first|(go_at_call 18;(with_reducible refine (ckone_File.calls k1 ((rd_T66 l0_1 x12_1).f0) true _ A14.out).mono ?_);rintro e w' ⟨rfl,⟨nd,rfl⟩⟩;(try first|exact ⟨rfl,_,World.drewN_drewN _ _ _⟩|exact ⟨rfl,_,Eq.trans (World.drewN_drewN _ _ _) (congrArg (World.drewN _) (Nat.add_assoc _ _ _))⟩))|(go_at_call 41;(with_reducible refine (dns_Name.calls k1 ((rd_T66 l0_1 x12_1).f1) t122 _ A16.out).mono ?_);rintro e w19 ⟨rfl,hb⟩;have n0_:=Aside0.mk (blk_below (g:=gb118) (o:=.cells #[.int .u32 a0_0,.slice (some ad119) l0_1.length c0_1] 25 (0,0)) (by (with_reducible repeat (first|apply blk_drewN|apply blk_drew|apply blk_alloc));refine blk_far ?_ NB118_120.out _;(with_reducible repeat (first|apply blk_drewN|apply blk_drew|apply blk_alloc));refine blk_far ?_ NB118_120.out _;(with_reducible repeat (first|apply blk_drewN|apply blk_drew|apply blk_alloc));refine blk_far ?_ NB118_120.out _;(with_reducible repeat (first|apply blk_drewN|apply blk_drew|apply blk_alloc));refine blk_far ?_ NB118_120.out _;(with_reducible repeat (first|apply blk_drewN|apply blk_drew|apply blk_alloc));exact BK118.out) hb);have n1_:=Aside0.mk (blk_below (g:=gb120) (o:=.cells #[.string ((rd_T66 l0_1 x12_1).f0),.string ((rd_T66 l0_1 x12_1).f1),.string ((rd_T66 l0_1 x12_1).f2),.int .u8 ((rd_T66 l0_1 x12_1).f3)] 66 (0,0)) (by (with_reducible repeat (first|apply blk_drewN|apply blk_drew|apply blk_alloc));refine blk_put (cs:=#[.string ((rd_T66 l0_1 x12_1).f0),.string ((rd_T66 l0_1 x12_1).f1),.string ((rd_T66 l0_1 x12_1).f2),.int .u8 0]) ?_ 3 _ rfl;(with_reducible repeat (first|apply blk_drewN|apply blk_drew|apply blk_alloc));refine blk_put (cs:=#[.string ((rd_T66 l0_1 x12_1).f0),.string ((rd_T66 l0_1 x12_1).f1),.string (⟨#[]⟩ : ByteArray),.int .u8 0]) ?_ 2 _ rfl;(with_reducible repeat (first|apply blk_drewN|apply blk_drew|apply blk_alloc));refine blk_put (cs:=#[.string ((rd_T66 l0_1 x12_1).f0),.string (⟨#[]⟩ : ByteArray),.string (⟨#[]⟩ : ByteArray),.int .u8 0]) ?_ 1 _ rfl;(with_reducible repeat (first|apply blk_drewN|apply blk_drew|apply blk_alloc));refine blk_put (cs:=#[.string (⟨#[]⟩ : ByteArray),.string (⟨#[]⟩ : ByteArray),.string (⟨#[]⟩ : ByteArray),.int .u8 0]) ?_ 0 _ rfl;(with_reducible repeat (first|apply blk_drewN|apply blk_drew|apply blk_alloc));exact BK120.out) hb);have n2_:=Aside0.mk (below_step (by repeat (first|(with_reducible first|exact HB.out|apply below_alloc|apply pw_below_drewN|apply below_drew1|refine below_set ?_ GE118.out|refine below_set ?_ GE120.out)|exact HB.out)) hb);clear BK118;clear BK120;clear HB;have BK118:=n0_;have BK120:=n1_;have HB:=n2_;clear n0_ n1_ n2_;(try clear hb);(try clear hb2);(try clear hk);(try clear hi))))
         go_meet
         case rel=>exact ⟨_,(!t122),(by first|rfl|(simp;done)|(simp [*];done)),H',⟨by have:=HK1.out;first|omega|exact Nat.le_refl _⟩,⟨by (with_reducible repeat (first|apply blk_drewN|apply blk_drew|apply blk_alloc));exact BK118.out⟩,⟨by (with_reducible repeat (first|apply blk_drewN|apply blk_drew|apply blk_alloc));exact BK120.out⟩,⟨by repeat (first|(with_reducible first|exact HB.out|apply below_alloc|apply pw_below_drewN|apply below_drew1|refine below_set ?_ GE118.out|refine below_set ?_ GE120.out)|exact HB.out)⟩⟩
        ·replace c15:=Bool.eq_false_iff.mpr c15
         subst c15
         have H1 : (ckone_State_Check.j1 k1 x12_1 l0_1 (l0_1.length : Int) x12_1 true a0_0 l0_1 ((rd_T66 l0_1 x12_1).f0) ((rd_T66 l0_1 x12_1).f1) ((rd_T66 l0_1 x12_1).f2) ((rd_T66 l0_1 x12_1).f3)) = some r:=by rw [if_neg (show ¬ (false = true) by decide)] at H;exact H
         clear H
         have H:=H1
         clear H1
         have H':=Aside0.mk H
         clear H
         have hnb20:=NB120_118.out
         have hnc20:=NB118_120.out
         have hcz21_0 : w11.cell? ⟨gb120,0,none⟩ = some (.string (⟨#[]⟩ : ByteArray)):=(blk_cell BK120.out 0).trans rfl
         have hcz21_1 : w11.cell? ⟨gb120,1,none⟩ = some (.string (⟨#[]⟩ : ByteArray)):=(blk_cell BK120.out 1).trans rfl
         have hcz21_2 : w11.cell? ⟨gb120,2,none⟩ = some (.string (⟨#[]⟩ : ByteArray)):=(blk_cell BK120.out 2).trans rfl
         have hcz21_3 : w11.cell? ⟨gb120,3,none⟩ = some (.int .u8 0):=(blk_cell BK120.out 3).trans rfl
         have hfz21_0:=blk_frozen BK120.out 0
         have hfz21_1:=blk_frozen BK120.out 1
         have hfz21_2:=blk_frozen BK120.out 2
         have hfz21_3:=blk_frozen BK120.out 3
         go_wp2_with (first|(go_at_call 18;(with_reducible refine (ckone_File.calls k1 ((rd_T66 l0_1 x12_1).f0) false _ A14.out).mono ?_);rintro e w' ⟨rfl,⟨nd,rfl⟩⟩;(try first|exact ⟨rfl,_,World.drewN_drewN _ _ _⟩|exact ⟨rfl,_,Eq.trans (World.drewN_drewN _ _ _) (congrArg (World.drewN _) (Nat.add_assoc _ _ _))⟩)))
         repeat (go_quiet (first|(go_at_call 18;(with_reducible refine (ckone_File.calls k1 ((rd_T66 l0_1 x12_1).f0) false _ A14.out).mono ?_);rintro e w' ⟨rfl,⟨nd,rfl⟩⟩;(try first|exact ⟨rfl,_,World.drewN_drewN _ _ _⟩|exact ⟨rfl,_,Eq.trans (World.drewN_drewN _ _ _) (congrArg (World.drewN _) (Nat.add_assoc _ _ _))⟩)));try go_wp2_with (first|(go_at_call 18;(with_reducible refine (ckone_File.calls k1 ((rd_T66 l0_1 x12_1).f0) false _ A14.out).mono ?_);rintro e w' ⟨rfl,⟨nd,rfl⟩⟩;(try first|exact ⟨rfl,_,World.drewN_drewN _ _ _⟩|exact ⟨rfl,_,Eq.trans (World.drewN_drewN _ _ _) (congrArg (World.drewN _) (Nat.add_assoc _ _ _))⟩))))
         go_meet
         case rel=>exact ⟨_,(true),(by first|rfl|(simp;done)|(simp [*];done)),H',⟨by have:=HK1.out;first|omega|exact Nat.le_refl _⟩,⟨by (with_reducible repeat (first|apply blk_drewN|apply blk_drew|apply blk_alloc));refine blk_far ?_ NB118_120.out _;(with_reducible repeat (first|apply blk_drewN|apply blk_drew|apply blk_alloc));refine blk_far ?_ NB118_120.out _;(with_reducible repeat (first|apply blk_drewN|apply blk_drew|apply blk_alloc));refine blk_far ?_ NB118_120.out _;(with_reducible repeat (first|apply blk_drewN|apply blk_drew|apply blk_alloc));refine blk_far ?_ NB118_120.out _;(with_reducible repeat (first|apply blk_drewN|apply blk_drew|apply blk_alloc));exact BK118.out⟩,⟨by (with_reducible repeat (first|apply blk_drewN|apply blk_drew|apply blk_alloc));refine blk_put (cs:=#[.string ((rd_T66 l0_1 x12_1).f0),.string ((rd_T66 l0_1 x12_1).f1),.string ((rd_T66 l0_1 x12_1).f2),.int .u8 0]) ?_ 3 _ rfl;(with_reducible repeat (first|apply blk_drewN|apply blk_drew|apply blk_alloc));refine blk_put (cs:=#[.string ((rd_T66 l0_1 x12_1).f0),.string ((rd_T66 l0_1 x12_1).f1),.string (⟨#[]⟩ : ByteArray),.int .u8 0]) ?_ 2 _ rfl;(with_reducible repeat (first|apply blk_drewN|apply blk_drew|apply blk_alloc));refine blk_put (cs:=#[.string ((rd_T66 l0_1 x12_1).f0),.string (⟨#[]⟩ : ByteArray),.string (⟨#[]⟩ : ByteArray),.int .u8 0]) ?_ 1 _ rfl;(with_reducible repeat (first|apply blk_drewN|apply blk_drew|apply blk_alloc));refine blk_put (cs:=#[.string (⟨#[]⟩ : ByteArray),.string (⟨#[]⟩ : ByteArray),.string (⟨#[]⟩ : ByteArray),.int .u8 0]) ?_ 0 _ rfl;(with_reducible repeat (first|apply blk_drewN|apply blk_drew|apply blk_alloc));exact BK120.out⟩,⟨by repeat (first|(with_reducible first|exact HB.out|apply below_alloc|apply pw_below_drewN|apply below_drew1|refine below_set ?_ GE118.out|refine below_set ?_ GE120.out)|exact HB.out)⟩⟩
       case rest =>
        clear HC10
        try clear c1
        try clear p1
        try clear q1
        try clear hx1
        try clear c2
        try clear c2b0
        try clear c2b1
        try clear p2
        try clear c7
        try clear c7b0
        try clear c8
        try clear c8b0
        try clear c9
        try clear c9b0
        try clear p11
        try clear q11
        try clear hx11
        try clear c12
        try clear c14
        try clear c15
        try clear c17
        try clear c20
        try clear hcz13_0
        try clear hcz13_1
        try clear hcz13_2
        try clear hcz13_3
        try clear hcz18_0
        try clear hcz18_1
        try clear hcz18_2
        try clear hcz18_3
        try clear hcz21_0
        try clear hcz21_1
        try clear hcz21_2
        try clear hcz21_3
        try clear hcz4_0
        try clear hcz4_1
        try clear hcz6_0
        try clear hcz6_1
        try clear hfz13_0
        try clear hfz13_1
        try clear hfz13_2
        try clear hfz13_3
        try clear hfz18_0
        try clear hfz18_1
        try clear hfz18_2
        try clear hfz18_3
        try clear hfz21_0
        try clear hfz21_1
        try clear hfz21_2
        try clear hfz21_3
        try clear hfz4_0
        try clear hfz4_1
        try clear hfz6_0
        try clear hfz6_1
        try clear hx119_0
        try clear hx119_1
        try clear hx119_2
        try clear hx119_3
        try clear p119
        try clear p2
        try clear q119
        obtain ⟨kq,x17_9,rfl,HA,HJ9,BK118,BK120,HB⟩:=hcut
        cases kq with
        | zero=>exact absurd HA.out (by simp [ckone_State_Check.j1])
        | succ kj9 =>
         have H:=HA.out
         clear HA
         simp only [ckone_State_Check.j1] at H
         by_cases c22 : x17_9 = true
         ·subst c22
          have H1 : (some 13) = some r:=by rw [if_pos rfl] at H;exact H
          clear H
          have H:=H1
          clear H1
          obtain rfl:=Option.some.inj H
          go_wp2
          repeat (go_quiet (fail);try go_wp2)
          go_ret
          exact ⟨by first|rfl|(simp [errW_none,errW_some] <;> rfl)|(simp [*,errW_none,errW_some] <;> rfl),by repeat (first|(with_reducible first|exact HB.out|apply below_alloc|apply pw_below_drewN|apply below_drew1|refine below_set ?_ GE118.out|refine below_set ?_ GE120.out)|exact HB.out)⟩
         ·replace c22:=Bool.eq_false_iff.mpr c22
          subst c22
          have H1 : ((dns_Image.f kj9 ((rd_T66 l0_1 x12_1).f2)).bind fun t123=>(if t123 = true then (if x12_1 > 0 then (if 0 ≤ (wrap64 (x12_1 - 1)) then (if (wrap64 (x12_1 - 1)) < (l0_1.length : Int) then (ckone_State_Check.j2 kj9 l0_1 (l0_1.length : Int) x12_1 (!(Op.bytesLess (((rd_T66 l0_1 (wrap64 (x12_1 - 1))).f0).toList) ((rd_T66 l0_1 x12_1).f0).toList)) a0_0 l0_1 ((rd_T66 l0_1 x12_1).f0) ((rd_T66 l0_1 x12_1).f1) ((rd_T66 l0_1 x12_1).f2) ((rd_T66 l0_1 x12_1).f3)) else (none)) else (none)) else (ckone_State_Check.j2 kj9 l0_1 (l0_1.length : Int) x12_1 false a0_0 l0_1 ((rd_T66 l0_1 x12_1).f0) ((rd_T66 l0_1 x12_1).f1) ((rd_T66 l0_1 x12_1).f2) ((rd_T66 l0_1 x12_1).f3))) else (ckone_State_Check.j2 kj9 l0_1 (l0_1.length : Int) x12_1 true a0_0 l0_1 ((rd_T66 l0_1 x12_1).f0) ((rd_T66 l0_1 x12_1).f1) ((rd_T66 l0_1 x12_1).f2) ((rd_T66 l0_1 x12_1).f3)))) = some r:=by rw [if_neg (show ¬ (false = true) by decide)] at H;exact H
          clear H
          have H:=H1
          clear H1
          have HC23:=Aside0.mk H
          clear H
          go_upto_region 8 with (fail)
          repeat (go_quiet (fail);go_upto_region 8 with (fail))
          go_cut [28] (fun v28 wc=>∃ (kq : Nat) (x28_22 : Bool),v28 = .bool x28_22 ∧ Aside0 (ckone_State_Check.j2 kq l0_1 (l0_1.length : Int) x12_1 x28_22 a0_0 l0_1 ((rd_T66 l0_1 x12_1).f0) ((rd_T66 l0_1 x12_1).f1) ((rd_T66 l0_1 x12_1).f2) ((rd_T66 l0_1 x12_1).f3) = some r) ∧ Aside0 (kq ≤ kj9) ∧ Aside0 (wc.heap[gb118]? = some (.cells #[.int .u32 a0_0,(.slice (some ad119) l0_1.length c0_1)] 25 (0,0))) ∧ Aside0 (wc.heap[gb120]? = some (.cells #[.string ((rd_T66 l0_1 x12_1).f0),.string ((rd_T66 l0_1 x12_1).f1),.string ((rd_T66 l0_1 x12_1).f2),.int .u8 ((rd_T66 l0_1 x12_1).f3)] 66 (0,0))) ∧ Aside0 (Below w.heap.size w wc))
          case first =>
           have H:=HC23.out
           clear HC23
           replace H:=Option.bind_eq_some_iff.mp H
           obtain ⟨t123,A240,H⟩:=H
           replace H : (if t123 = true then (if x12_1 > 0 then (if 0 ≤ (wrap64 (x12_1 - 1)) then (if (wrap64 (x12_1 - 1)) < (l0_1.length : Int) then (ckone_State_Check.j2 kj9 l0_1 (l0_1.length : Int) x12_1 (!(Op.bytesLess (((rd_T66 l0_1 (wrap64 (x12_1 - 1))).f0).toList) ((rd_T66 l0_1 x12_1).f0).toList)) a0_0 l0_1 ((rd_T66 l0_1 x12_1).f0) ((rd_T66 l0_1 x12_1).f1) ((rd_T66 l0_1 x12_1).f2) ((rd_T66 l0_1 x12_1).f3)) else (none)) else (none)) else (ckone_State_Check.j2 kj9 l0_1 (l0_1.length : Int) x12_1 false a0_0 l0_1 ((rd_T66 l0_1 x12_1).f0) ((rd_T66 l0_1 x12_1).f1) ((rd_T66 l0_1 x12_1).f2) ((rd_T66 l0_1 x12_1).f3))) else (ckone_State_Check.j2 kj9 l0_1 (l0_1.length : Int) x12_1 true a0_0 l0_1 ((rd_T66 l0_1 x12_1).f0) ((rd_T66 l0_1 x12_1).f1) ((rd_T66 l0_1 x12_1).f2) ((rd_T66 l0_1 x12_1).f3))) = some r:=H
           have A24:=Aside0.mk A240
           clear A240
           by_cases c25 : t123 = true
           ·subst c25
            have H1 : (if x12_1 > 0 then (if 0 ≤ (wrap64 (x12_1 - 1)) then (if (wrap64 (x12_1 - 1)) < (l0_1.length : Int) then (ckone_State_Check.j2 kj9 l0_1 (l0_1.length : Int) x12_1 (!(Op.bytesLess (((rd_T66 l0_1 (wrap64 (x12_1 - 1))).f0).toList) ((rd_T66 l0_1 x12_1).f0).toList)) a0_0 l0_1 ((rd_T66 l0_1 x12_1).f0) ((rd_T66 l0_1 x12_1).f1) ((rd_T66 l0_1 x12_1).f2) ((rd_T66 l0_1 x12_1).f3)) else (none)) else (none)) else (ckone_State_Check.j2 kj9 l0_1 (l0_1.length : Int) x12_1 false a0_0 l0_1 ((rd_T66 l0_1 x12_1).f0) ((rd_T66 l0_1 x12_1).f1) ((rd_T66 l0_1 x12_1).f2) ((rd_T66 l0_1 x12_1).f3))) = some r:=by rw [if_pos rfl] at H;exact H
            clear H
            have H:=H1
            clear H1
            by_cases c26 : x12_1 > 0
            ·rw [if_pos c26] at H
             have c26b0 : decide (0 < x12_1) = true:=decide_eq_true c26
             clear c26
             (first|rw [c26b0]|(simp only [i64_w,i32_w];rw [c26b0])|skip)
             obtain ⟨ji27,hji27⟩ : ∃ j_ : Int,(wrap64 (x12_1 - 1)) = j_:=⟨_,rfl⟩
             replace H : (if 0 ≤ (ji27) then (if (ji27) < (l0_1.length : Int) then (ckone_State_Check.j2 kj9 l0_1 (l0_1.length : Int) x12_1 (!(Op.bytesLess (((rd_T66 l0_1 (ji27)).f0).toList) ((rd_T66 l0_1 x12_1).f0).toList)) a0_0 l0_1 ((rd_T66 l0_1 x12_1).f0) ((rd_T66 l0_1 x12_1).f1) ((rd_T66 l0_1 x12_1).f2) ((rd_T66 l0_1 x12_1).f3)) else (none)) else (none)) = some r:=by first|(rw [hji27] at H;exact H)|(simp only [hji27] at H ⊢;exact H)
             (try rw [hji27] at A24)
             have hji27w : (IntKind.i64.wrap (x12_1 - 1)) = ji27:=(i64_w _).trans hji27
             by_cases c28 : 0 ≤ (ji27)
             ·rw [if_pos c28] at H
              have c28b0 : decide (0 ≤ (ji27)) = true:=decide_eq_true c28
              clear c28
              by_cases c29 : (ji27) < (l0_1.length : Int)
              ·rw [if_pos c29] at H
               have c29b0 : decide ((ji27) < (l0_1.length : Int)) = true:=decide_eq_true c29
               clear c29
               have H':=Aside0.mk H
               clear H
               have hnb30:=NB120_118.out
               have hnc30:=NB118_120.out
               have hcz31_0 : wc.cell? ⟨gb120,0,none⟩ = some (.string ((rd_T66 l0_1 x12_1).f0)):=(blk_cell BK120.out 0).trans rfl
               have hcz31_1 : wc.cell? ⟨gb120,1,none⟩ = some (.string ((rd_T66 l0_1 x12_1).f1)):=(blk_cell BK120.out 1).trans rfl
               have hcz31_2 : wc.cell? ⟨gb120,2,none⟩ = some (.string ((rd_T66 l0_1 x12_1).f2)):=(blk_cell BK120.out 2).trans rfl
               have hcz31_3 : wc.cell? ⟨gb120,3,none⟩ = some (.int .u8 ((rd_T66 l0_1 x12_1).f3)):=(blk_cell BK120.out 3).trans rfl
               have hfz31_0:=blk_frozen BK120.out 0
               have hfz31_1:=blk_frozen BK120.out 1
               have hfz31_2:=blk_frozen BK120.out 2
               have hfz31_3:=blk_frozen BK120.out 3
               have hcz32_0 : wc.cell? ⟨gb118,0,none⟩ = some (.int .u32 a0_0):=(blk_cell BK118.out 0).trans rfl
               have hcz32_1 : wc.cell? ⟨gb118,1,none⟩ = some (.slice (some ad119) l0_1.length c0_1):=(blk_cell BK118.out 1).trans rfl
               have hfz32_0:=blk_frozen BK118.out 0
               have hfz32_1:=blk_frozen BK118.out 1
               have p124 : 0 ≤ ((ji27) : Int):=of_decide_eq_true (by first|(with_reducible assumption)|assumption)
               have q124 : (ji27) < (l0_1.length : Int):=of_decide_eq_true (by first|(with_reducible assumption)|assumption)
               obtain ⟨ad124,e124,hx124_0,hx124_1,hx124_2,hx124_3⟩:=at_T66 HR0_1.out (ji27) p124 q124
               obtain rfl : ad119 = ad124:=(by injection e124)
               replace hx124_0:=(HB.out.cell (World.block_lt_of_cell? w _ hx124_0)).trans hx124_0
               replace hx124_1:=(HB.out.cell (World.block_lt_of_cell? w _ hx124_1)).trans hx124_1
               replace hx124_2:=(HB.out.cell (World.block_lt_of_cell? w _ hx124_2)).trans hx124_2
               replace hx124_3:=(HB.out.cell (World.block_lt_of_cell? w _ hx124_3)).trans hx124_3
               replace p124:=eq_true p124
               replace q124:=eq_true q124
               go_wp2_with (first|(go_at_call 42;(with_reducible refine (dns_Image.calls kj9 ((rd_T66 l0_1 x12_1).f2) true _ A24.out).mono ?_);rintro e w' ⟨rfl,⟨nd,rfl⟩⟩;(try first|exact ⟨rfl,_,World.drewN_drewN _ _ _⟩|exact ⟨rfl,_,Eq.trans (World.drewN_drewN _ _ _) (congrArg (World.drewN _) (Nat.add_assoc _ _ _))⟩)))
               repeat (go_quiet (first|(go_at_call 42;(with_reducible refine (dns_Image.calls kj9 ((rd_T66 l0_1 x12_1).f2) true _ A24.out).mono ?_);rintro e w' ⟨rfl,⟨nd,rfl⟩⟩;(try first|exact ⟨rfl,_,World.drewN_drewN _ _ _⟩|exact ⟨rfl,_,Eq.trans (World.drewN_drewN _ _ _) (congrArg (World.drewN _) (Nat.add_assoc _ _ _))⟩)));try go_wp2_with (first|(go_at_call 42;(with_reducible refine (dns_Image.calls kj9 ((rd_T66 l0_1 x12_1).f2) true _ A24.out).mono ?_);rintro e w' ⟨rfl,⟨nd,rfl⟩⟩;(try first|exact ⟨rfl,_,World.drewN_drewN _ _ _⟩|exact ⟨rfl,_,Eq.trans (World.drewN_drewN _ _ _) (congrArg (World.drewN _) (Nat.add_assoc _ _ _))⟩))))
               go_meet
               case rel=>exact ⟨_,(!(Op.bytesLess (((rd_T66 l0_1 (ji27)).f0).toList) ((rd_T66 l0_1 x12_1).f0).toList)),(by first|rfl|(simp;done)|(simp only [← hji27] <;> (first|rfl|simp))|(simp [*];done)),H',⟨by have:=HK1.out;have:=HJ9.out;first|omega|exact Nat.le_refl _⟩,⟨by (with_reducible repeat (first|apply blk_drewN|apply blk_drew|apply blk_alloc));exact BK118.out⟩,⟨by (with_reducible repeat (first|apply blk_drewN|apply blk_drew|apply blk_alloc));exact BK120.out⟩,⟨by repeat (first|(with_reducible first|exact HB.out|apply below_alloc|apply pw_below_drewN|apply below_drew1|refine below_set ?_ GE118.out|refine below_set ?_ GE120.out)|exact HB.out)⟩⟩
              ·rw [if_neg c29] at H
               exact absurd H (by simp)
             ·rw [if_neg c28] at H
              exact absurd H (by simp)
            ·rw [if_neg c26] at H
             have c26b0 : decide (0 < x12_1) = false:=decide_eq_false c26
             clear c26
             (first|rw [c26b0]|(simp only [i64_w,i32_w];rw [c26b0])|skip)
             have H':=Aside0.mk H
             clear H
             have hnb33:=NB120_118.out
             have hnc33:=NB118_120.out
             have hcz34_0 : wc.cell? ⟨gb120,0,none⟩ = some (.string ((rd_T66 l0_1 x12_1).f0)):=(blk_cell BK120.out 0).trans rfl
             have hcz34_1 : wc.cell? ⟨gb120,1,none⟩ = some (.string ((rd_T66 l0_1 x12_1).f1)):=(blk_cell BK120.out 1).trans rfl
             have hcz34_2 : wc.cell? ⟨gb120,2,none⟩ = some (.string ((rd_T66 l0_1 x12_1).f2)):=(blk_cell BK120.out 2).trans rfl
             have hcz34_3 : wc.cell? ⟨gb120,3,none⟩ = some (.int .u8 ((rd_T66 l0_1 x12_1).f3)):=(blk_cell BK120.out 3).trans rfl
             have hfz34_0:=blk_frozen BK120.out 0
             have hfz34_1:=blk_frozen BK120.out 1
             have hfz34_2:=blk_frozen BK120.out 2
             have hfz34_3:=blk_frozen BK120.out 3
             go_wp2_with (first|(go_at_call 42;(with_reducible refine (dns_Image.calls kj9 ((rd_T66 l0_1 x12_1).f2) true _ A24.out).mono ?_);rintro e w' ⟨rfl,⟨nd,rfl⟩⟩;(try first|exact ⟨rfl,_,World.drewN_drewN _ _ _⟩|exact ⟨rfl,_,Eq.trans (World.drewN_drewN _ _ _) (congrArg (World.drewN _) (Nat.add_assoc _ _ _))⟩)))
             repeat (go_quiet (first|(go_at_call 42;(with_reducible refine (dns_Image.calls kj9 ((rd_T66 l0_1 x12_1).f2) true _ A24.out).mono ?_);rintro e w' ⟨rfl,⟨nd,rfl⟩⟩;(try first|exact ⟨rfl,_,World.drewN_drewN _ _ _⟩|exact ⟨rfl,_,Eq.trans (World.drewN_drewN _ _ _) (congrArg (World.drewN _) (Nat.add_assoc _ _ _))⟩)));try go_wp2_with (first|(go_at_call 42;(with_reducible refine (dns_Image.calls kj9 ((rd_T66 l0_1 x12_1).f2) true _ A24.out).mono ?_);rintro e w' ⟨rfl,⟨nd,rfl⟩⟩;(try first|exact ⟨rfl,_,World.drewN_drewN _ _ _⟩|exact ⟨rfl,_,Eq.trans (World.drewN_drewN _ _ _) (congrArg (World.drewN _) (Nat.add_assoc _ _ _))⟩))))
             go_meet
             case rel=>exact ⟨_,(false),(by first|rfl|(simp;done)|(simp [*];done)),H',⟨by have:=HK1.out;have:=HJ9.out;first|omega|exact Nat.le_refl _⟩,⟨by (with_reducible repeat (first|apply blk_drewN|apply blk_drew|apply blk_alloc));exact BK118.out⟩,⟨by (with_reducible repeat (first|apply blk_drewN|apply blk_drew|apply blk_alloc));exact BK120.out⟩,⟨by repeat (first|(with_reducible first|exact HB.out|apply below_alloc|apply pw_below_drewN|apply below_drew1|refine below_set ?_ GE118.out|refine below_set ?_ GE120.out)|exact HB.out)⟩⟩
           ·replace c25:=Bool.eq_false_iff.mpr c25
            subst c25
            have H1 : (ckone_State_Check.j2 kj9 l0_1 (l0_1.length : Int) x12_1 true a0_0 l0_1 ((rd_T66 l0_1 x12_1).f0) ((rd_T66 l0_1 x12_1).f1) ((rd_T66 l0_1 x12_1).f2) ((rd_T66 l0_1 x12_1).f3)) = some r:=by rw [if_neg (show ¬ (false = true) by decide)] at H;exact H
            clear H
            have H:=H1
            clear H1
            have H':=Aside0.mk H
            clear H
            have hnb35:=NB120_118.out
            have hnc35:=NB118_120.out
            have hcz36_0 : wc.cell? ⟨gb120,0,none⟩ = some (.string ((rd_T66 l0_1 x12_1).f0)):=(blk_cell BK120.out 0).trans rfl
            have hcz36_1 : wc.cell? ⟨gb120,1,none⟩ = some (.string ((rd_T66 l0_1 x12_1).f1)):=(blk_cell BK120.out 1).trans rfl
            have hcz36_2 : wc.cell? ⟨gb120,2,none⟩ = some (.string ((rd_T66 l0_1 x12_1).f2)):=(blk_cell BK120.out 2).trans rfl
            have hcz36_3 : wc.cell? ⟨gb120,3,none⟩ = some (.int .u8 ((rd_T66 l0_1 x12_1).f3)):=(blk_cell BK120.out 3).trans rfl
            have hfz36_0:=blk_frozen BK120.out 0
            have hfz36_1:=blk_frozen BK120.out 1
            have hfz36_2:=blk_frozen BK120.out 2
            have hfz36_3:=blk_frozen BK120.out 3
            go_wp2_with (first|(go_at_call 42;(with_reducible refine (dns_Image.calls kj9 ((rd_T66 l0_1 x12_1).f2) false _ A24.out).mono ?_);rintro e w' ⟨rfl,⟨nd,rfl⟩⟩;(try first|exact ⟨rfl,_,World.drewN_drewN _ _ _⟩|exact ⟨rfl,_,Eq.trans (World.drewN_drewN _ _ _) (congrArg (World.drewN _) (Nat.add_assoc _ _ _))⟩)))
            repeat (go_quiet (first|(go_at_call 42;(with_reducible refine (dns_Image.calls kj9 ((rd_T66 l0_1 x12_1).f2) false _ A24.out).mono ?_);rintro e w' ⟨rfl,⟨nd,rfl⟩⟩;(try first|exact ⟨rfl,_,World.drewN_drewN _ _ _⟩|exact ⟨rfl,_,Eq.trans (World.drewN_drewN _ _ _) (congrArg (World.drewN _) (Nat.add_assoc _ _ _))⟩)));try go_wp2_with (first|(go_at_call 42;(with_reducible refine (dns_Image.calls kj9 ((rd_T66 l0_1 x12_1).f2) false _ A24.out).mono ?_);rintro e w' ⟨rfl,⟨nd,rfl⟩⟩;(try first|exact ⟨rfl,_,World.drewN_drewN _ _ _⟩|exact ⟨rfl,_,Eq.trans (World.drewN_drewN _ _ _) (congrArg (World.drewN _) (Nat.add_assoc _ _ _))⟩))))
            go_meet
            case rel=>exact ⟨_,(true),(by first|rfl|(simp;done)|(simp [*];done)),H',⟨by have:=HK1.out;have:=HJ9.out;first|omega|exact Nat.le_refl _⟩,⟨by (with_reducible repeat (first|apply blk_drewN|apply blk_drew|apply blk_alloc));exact BK118.out⟩,⟨by (with_reducible repeat (first|apply blk_drewN|apply blk_drew|apply blk_alloc));exact BK120.out⟩,⟨by repeat (first|(with_reducible first|exact HB.out|apply below_alloc|apply pw_below_drewN|apply below_drew1|refine below_set ?_ GE118.out|refine below_set ?_ GE120.out)|exact HB.out)⟩⟩
          case rest =>
           clear HC23
           try clear c1
           try clear p1
           try clear q1
           try clear hx1
           try clear c2
           try clear c2b0
           try clear c2b1
           try clear p2
           try clear c3
           try clear p6
           try clear c7
           try clear c7b0
           try clear c8
           try clear c8b0
           try clear c9
           try clear c9b0
           try clear p11
           try clear q11
           try clear hx11
           try clear c12
           try clear p12
           try clear q12
           try clear hx12
           try clear c14
           try clear c15
           try clear c17
           try clear c20
           try clear c22
           try clear c25
           try clear c26
           try clear c26b0
           try clear c28
           try clear c28b0
           try clear c29
           try clear c29b0
           try clear c30
           try clear c33
           try clear c35
           try clear hcz13_0
           try clear hcz13_1
           try clear hcz13_2
           try clear hcz13_3
           try clear hcz18_0
           try clear hcz18_1
           try clear hcz18_2
           try clear hcz18_3
           try clear hcz21_0
           try clear hcz21_1
           try clear hcz21_2
           try clear hcz21_3
           try clear hcz31_0
           try clear hcz31_1
           try clear hcz31_2
           try clear hcz31_3
           try clear hcz32_0
           try clear hcz32_1
           try clear hcz34_0
           try clear hcz34_1
           try clear hcz34_2
           try clear hcz34_3
           try clear hcz36_0
           try clear hcz36_1
           try clear hcz36_2
           try clear hcz36_3
           try clear hcz4_0
           try clear hcz4_1
           try clear hcz6_0
           try clear hcz6_1
           try clear hfz13_0
           try clear hfz13_1
           try clear hfz13_2
           try clear hfz13_3
           try clear hfz18_0
           try clear hfz18_1
           try clear hfz18_2
           try clear hfz18_3
           try clear hfz21_0
           try clear hfz21_1
           try clear hfz21_2
           try clear hfz21_3
           try clear hfz31_0
           try clear hfz31_1
           try clear hfz31_2
           try clear hfz31_3
           try clear hfz32_0
           try clear hfz32_1
           try clear hfz34_0
           try clear hfz34_1
           try clear hfz34_2
           try clear hfz34_3
           try clear hfz36_0
           try clear hfz36_1
           try clear hfz36_2
           try clear hfz36_3
           try clear hfz4_0
           try clear hfz4_1
           try clear hfz6_0
           try clear hfz6_1
           try clear hx119_0
           try clear hx119_1
           try clear hx119_2
           try clear hx119_3
           try clear hx124_0
           try clear hx124_1
           try clear hx124_2
           try clear hx124_3
           try clear p1
           try clear p11
           try clear p119
           try clear p124
           try clear p2
           try clear q1
           try clear q11
           try clear q119
           try clear q124
           obtain ⟨kq,x28_22,rfl,HA,HJ22,BK118,BK120,HB⟩:=hcut
           cases kq with
           | zero=>exact absurd HA.out (by simp [ckone_State_Check.j2])
           | succ kj22 =>
            have H:=HA.out
            clear HA
            simp only [ckone_State_Check.j2] at H
            by_cases c37 : x28_22 = true
            ·subst c37
             have H1 : (some 6) = some r:=by rw [if_pos rfl] at H;exact H
             clear H
             have H:=H1
             clear H1
             obtain rfl:=Option.some.inj H
             go_wp2
             repeat (go_quiet (fail);try go_wp2)
             go_ret
             exact ⟨by first|rfl|(simp [errW_none,errW_some] <;> rfl)|(simp [*,errW_none,errW_some] <;> rfl),by repeat (first|(with_reducible first|exact HB.out|apply below_alloc|apply pw_below_drewN|apply below_drew1|refine below_set ?_ GE118.out|refine below_set ?_ GE120.out)|exact HB.out)⟩
            ·replace c37:=Bool.eq_false_iff.mpr c37
             subst c37
             have H1 : (if ((rd_T66 l0_1 x12_1).f3) > 2 then (some 7) else (ckone_State_Check.l0 kj22 l0_1 (l0_1.length : Int) (wrap64 (x12_1 + 1)) a0_0 l0_1)) = some r:=by rw [if_neg (show ¬ (false = true) by decide)] at H;exact H
             clear H
             have H:=H1
             clear H1
             by_cases c38 : ((rd_T66 l0_1 x12_1).f3) > 2
             ·rw [if_pos c38] at H
              have c38b0 : decide (2 < ((rd_T66 l0_1 x12_1).f3)) = true:=decide_eq_true c38
              clear c38
              obtain rfl:=Option.some.inj H
              have hnb39:=NB120_118.out
              have hnc39:=NB118_120.out
              have hcz40_0 : wc.cell? ⟨gb120,0,none⟩ = some (.string ((rd_T66 l0_1 x12_1).f0)):=(blk_cell BK120.out 0).trans rfl
              have hcz40_1 : wc.cell? ⟨gb120,1,none⟩ = some (.string ((rd_T66 l0_1 x12_1).f1)):=(blk_cell BK120.out 1).trans rfl
              have hcz40_2 : wc.cell? ⟨gb120,2,none⟩ = some (.string ((rd_T66 l0_1 x12_1).f2)):=(blk_cell BK120.out 2).trans rfl
              have hcz40_3 : wc.cell? ⟨gb120,3,none⟩ = some (.int .u8 ((rd_T66 l0_1 x12_1).f3)):=(blk_cell BK120.out 3).trans rfl
              have hfz40_0:=blk_frozen BK120.out 0
              have hfz40_1:=blk_frozen BK120.out 1
              have hfz40_2:=blk_frozen BK120.out 2
              have hfz40_3:=blk_frozen BK120.out 3
              go_wp2
              repeat (go_quiet (fail);try go_wp2)
              go_ret
              exact ⟨by first|rfl|(simp [errW_none,errW_some] <;> rfl)|(simp [*,errW_none,errW_some] <;> rfl),by repeat (first|(with_reducible first|exact HB.out|apply below_alloc|apply pw_below_drewN|apply below_drew1|refine below_set ?_ GE118.out|refine below_set ?_ GE120.out)|exact HB.out)⟩
             ·rw [if_neg c38] at H
              have c38b0 : decide (2 < ((rd_T66 l0_1 x12_1).f3)) = false:=decide_eq_false c38
              clear c38
              have H':=Aside0.mk H
              clear H
              have hnb41:=NB120_118.out
              have hnc41:=NB118_120.out
              have hcz42_0 : wc.cell? ⟨gb120,0,none⟩ = some (.string ((rd_T66 l0_1 x12_1).f0)):=(blk_cell BK120.out 0).trans rfl
              have hcz42_1 : wc.cell? ⟨gb120,1,none⟩ = some (.string ((rd_T66 l0_1 x12_1).f1)):=(blk_cell BK120.out 1).trans rfl
              have hcz42_2 : wc.cell? ⟨gb120,2,none⟩ = some (.string ((rd_T66 l0_1 x12_1).f2)):=(blk_cell BK120.out 2).trans rfl
              have hcz42_3 : wc.cell? ⟨gb120,3,none⟩ = some (.int .u8 ((rd_T66 l0_1 x12_1).f3)):=(blk_cell BK120.out 3).trans rfl
              have hfz42_0:=blk_frozen BK120.out 0
              have hfz42_1:=blk_frozen BK120.out 1
              have hfz42_2:=blk_frozen BK120.out 2
              have hfz42_3:=blk_frozen BK120.out 3
              go_wp2
              repeat (go_quiet (fail);try go_wp2)
              go_roundg kj22
              case measure=>have:=HK1.out;have:=HJ9.out;have:=HJ22.out;omega
              case rel=>exact ⟨(wrap64 (x12_1 + 1)),(by first|rfl|(simp;done)|(simp [*];done)),H',⟨by have:=HK1.out;have:=HJ9.out;have:=HJ22.out;omega⟩,⟨by (with_reducible repeat (first|apply blk_drewN|apply blk_drew|apply blk_alloc));exact BK118.out⟩,⟨by repeat (first|(with_reducible first|exact HB.out|apply below_alloc|apply pw_below_drewN|apply below_drew1|refine below_set ?_ GE118.out|refine below_set ?_ GE120.out)|exact HB.out)⟩⟩
      ·rw [if_neg c9] at H
       exact absurd H (by simp)
     ·rw [if_neg c8] at H
      exact absurd H (by simp)
    ·rw [if_neg c7] at H
     have c7b0 : decide (x12_1 < (l0_1.length : Int)) = false:=decide_eq_false c7
     clear c7
     obtain rfl:=Option.some.inj H
     go_wp2
     repeat (go_quiet (fail);try go_wp2)
     go_ret
     exact ⟨by first|rfl|(simp [errW_none,errW_some] <;> rfl)|(simp [*,errW_none,errW_some] <;> rfl),by repeat (first|(with_reducible first|exact HB.out|apply below_alloc|apply pw_below_drewN|apply below_drew1|refine below_set ?_ GE118.out)|exact HB.out)⟩

end Go.Proofs.YtpmbdcljphpcnaaDoor.GC2
