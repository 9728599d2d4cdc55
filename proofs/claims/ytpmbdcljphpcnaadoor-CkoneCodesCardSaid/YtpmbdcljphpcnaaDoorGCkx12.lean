/- Written by this session's own program (wip/gen.py) out of the translation: plain Lean functions of the Go functions, and proofs that the calls come to their answers. No conditions beside those in the statements. -/
import Derived.Test.YtpmbdcljphpcnaaDoorGCkx0
import Derived.Test.YtpmbdcljphpcnaaDoorGCkx10
import Derived.Test.YtpmbdcljphpcnaaDoorGCkx11
namespace Go.Proofs.YtpmbdcljphpcnaaDoor.GCk
open Go.RowKit Go.Proofs.YtpmbdcljphpcnaaDoorW.PrintWords Go.Proofs.YtpmbdcljphpcnaaDoorW.PrintLast
set_option linter.unusedVariables false
set_option linter.unusedSimpArgs false

/-! ### bosunref17_Check: function 12 -/
mutual
def bosunref17_Check.l0 : Nat → Int → Int → List (S67) → Option (Int)
 | 0,_,_,_=>none
 | k + 1,x3,x175000,x175001=>if x3 < (x175001.length : Int) then (if 0 ≤ x3 then ((bosunref04_Name.f k ((rd_T67 x175001 x3).f0)).bind fun t177=>(if t177 = true then ((bosunref13_Name.f k ((rd_T67 x175001 x3).f1)).bind fun t178=>(bosunref17_Check.j1 k x3 (!t178) x175000 x175001 ((rd_T67 x175001 x3).f0) ((rd_T67 x175001 x3).f1) ((rd_T67 x175001 x3).f2) ((rd_T67 x175001 x3).f3))) else (bosunref17_Check.j1 k x3 true x175000 x175001 ((rd_T67 x175001 x3).f0) ((rd_T67 x175001 x3).f1) ((rd_T67 x175001 x3).f2) ((rd_T67 x175001 x3).f3)))) else (none)) else (some 0)
def bosunref17_Check.j1 : Nat → Int → Bool → Int → List (S67) → ByteArray → ByteArray → ByteArray → Int → Option (Int)
 | 0,_,_,_,_,_,_,_,_=>none
 | k + 1,x3,x30,x175000,x175001,x177000,x177001,x177002,x177003=>if x30 = true then (some 13) else ((bosunref13_Image.f k x177002).bind fun t179=>(if t179 = true then (if x3 > 0 then (if 0 ≤ (wrap64 (x3 - 1)) then (if (wrap64 (x3 - 1)) < (x175001.length : Int) then (bosunref17_Check.j2 k x3 (!(Op.bytesLess (((rd_T67 x175001 (wrap64 (x3 - 1))).f0).toList) x177000.toList)) x175000 x175001 x177000 x177001 x177002 x177003) else (none)) else (none)) else (bosunref17_Check.j2 k x3 false x175000 x175001 x177000 x177001 x177002 x177003)) else (bosunref17_Check.j2 k x3 true x175000 x175001 x177000 x177001 x177002 x177003)))
def bosunref17_Check.j2 : Nat → Int → Bool → Int → List (S67) → ByteArray → ByteArray → ByteArray → Int → Option (Int)
 | 0,_,_,_,_,_,_,_,_=>none
 | k + 1,x3,x50,x175000,x175001,x177000,x177001,x177002,x177003=>if x50 = true then (some 6) else (if x177003 > 2 then (some 7) else (bosunref17_Check.l0 k (wrap64 (x3 + 1)) x175000 x175001))
end
def bosunref17_Check.f (k : Nat) (a0_0 : Int) (l0_1 : List (S67)) : Option (Int):=if (l0_1.length : Int) > 1024 then (some 18) else (bosunref17_Check.l0 k 0 a0_0 l0_1)
theorem bosunref17_Check.mono_l : ∀ k,(∀ y0 y1 y2,LeO (bosunref17_Check.l0 k y0 y1 y2) (bosunref17_Check.l0 (k + 1) y0 y1 y2)) ∧ (∀ y0 y1 y2 y3 y4 y5 y6 y7,LeO (bosunref17_Check.j1 k y0 y1 y2 y3 y4 y5 y6 y7) (bosunref17_Check.j1 (k + 1) y0 y1 y2 y3 y4 y5 y6 y7)) ∧ (∀ y0 y1 y2 y3 y4 y5 y6 y7,LeO (bosunref17_Check.j2 k y0 y1 y2 y3 y4 y5 y6 y7) (bosunref17_Check.j2 (k + 1) y0 y1 y2 y3 y4 y5 y6 y7))
 | 0=>⟨fun _ _ _ r h=>by simp [bosunref17_Check.l0] at h,fun _ _ _ _ _ _ _ _ r h=>by simp [bosunref17_Check.j1] at h,fun _ _ _ _ _ _ _ _ r h=>by simp [bosunref17_Check.j2] at h⟩
 | k + 1=>by
  obtain ⟨ih0,ih1,ih2⟩:=bosunref17_Check.mono_l k
  refine ⟨?_,?_,?_⟩
  ·intro y0 y1 y2
   unfold bosunref17_Check.l0
   repeat' first
   | (with_reducible exact ih0 _ _ _)
   | (with_reducible exact ih1 _ _ _ _ _ _ _ _)
   | (with_reducible exact ih2 _ _ _ _ _ _ _ _)
   | (with_reducible exact bosunref04_Name.mono _ _)
   | (with_reducible exact bosunref13_Image.mono _ _)
   | (with_reducible exact bosunref13_Name.mono _ _)
   | (with_reducible exact LeO.refl _)
   | (with_reducible exact LeO.none _)
   | (with_reducible refine LeO.ite ?_ ?_)
   | (with_reducible refine LeO.bind ?_ (fun _=>?_))
   | exact ih0 _ _ _
   | exact ih1 _ _ _ _ _ _ _ _
   | exact ih2 _ _ _ _ _ _ _ _
   | exact bosunref04_Name.mono _ _
   | exact bosunref13_Image.mono _ _
   | exact bosunref13_Name.mono _ _
   | exact LeO.none _
   | refine LeO.ite ?_ ?_
   | refine LeO.bind ?_ (fun _=>?_)
  ·intro y0 y1 y2 y3 y4 y5 y6 y7
   unfold bosunref17_Check.j1
   repeat' first
   | (with_reducible exact ih0 _ _ _)
   | (with_reducible exact ih1 _ _ _ _ _ _ _ _)
   | (with_reducible exact ih2 _ _ _ _ _ _ _ _)
   | (with_reducible exact bosunref04_Name.mono _ _)
   | (with_reducible exact bosunref13_Image.mono _ _)
   | (with_reducible exact bosunref13_Name.mono _ _)
   | (with_reducible exact LeO.refl _)
   | (with_reducible exact LeO.none _)
   | (with_reducible refine LeO.ite ?_ ?_)
   | (with_reducible refine LeO.bind ?_ (fun _=>?_))
   | exact ih0 _ _ _
   | exact ih1 _ _ _ _ _ _ _ _
   | exact ih2 _ _ _ _ _ _ _ _
   | exact bosunref04_Name.mono _ _
   | exact bosunref13_Image.mono _ _
   | exact bosunref13_Name.mono _ _
   | exact LeO.none _
   | refine LeO.ite ?_ ?_
   | refine LeO.bind ?_ (fun _=>?_)
  ·intro y0 y1 y2 y3 y4 y5 y6 y7
   unfold bosunref17_Check.j2
   repeat' first
   | (with_reducible exact ih0 _ _ _)
   | (with_reducible exact ih1 _ _ _ _ _ _ _ _)
   | (with_reducible exact ih2 _ _ _ _ _ _ _ _)
   | (with_reducible exact bosunref04_Name.mono _ _)
   | (with_reducible exact bosunref13_Image.mono _ _)
   | (with_reducible exact bosunref13_Name.mono _ _)
   | (with_reducible exact LeO.refl _)
   | (with_reducible exact LeO.none _)
   | (with_reducible refine LeO.ite ?_ ?_)
   | (with_reducible refine LeO.bind ?_ (fun _=>?_))
   | exact ih0 _ _ _
   | exact ih1 _ _ _ _ _ _ _ _
   | exact ih2 _ _ _ _ _ _ _ _
   | exact bosunref04_Name.mono _ _
   | exact bosunref13_Image.mono _ _
   | exact bosunref13_Name.mono _ _
   | exact LeO.none _
   | refine LeO.ite ?_ ?_
   | refine LeO.bind ?_ (fun _=>?_)
theorem bosunref17_Check.mono : ∀ a0 a1 k,LeO (bosunref17_Check.f k a0 a1) (bosunref17_Check.f (k + 1) a0 a1):=by
 intro a0 a1 k
 obtain ⟨ih0,ih1,ih2⟩:=bosunref17_Check.mono_l k
 unfold bosunref17_Check.f
 repeat' first
   | (with_reducible exact ih0 _ _ _)
   | (with_reducible exact ih1 _ _ _ _ _ _ _ _)
   | (with_reducible exact ih2 _ _ _ _ _ _ _ _)
   | (with_reducible exact bosunref04_Name.mono _ _)
   | (with_reducible exact bosunref13_Image.mono _ _)
   | (with_reducible exact bosunref13_Name.mono _ _)
   | (with_reducible exact LeO.refl _)
   | (with_reducible exact LeO.none _)
   | (with_reducible refine LeO.ite ?_ ?_)
   | (with_reducible refine LeO.bind ?_ (fun _=>?_))
   | exact ih0 _ _ _
   | exact ih1 _ _ _ _ _ _ _ _
   | exact ih2 _ _ _ _ _ _ _ _
   | exact bosunref04_Name.mono _ _
   | exact bosunref13_Image.mono _ _
   | exact bosunref13_Name.mono _ _
   | exact LeO.none _
   | refine LeO.ite ?_ ?_
   | refine LeO.bind ?_ (fun _=>?_)
set_option maxHeartbeats 8000000 in
set_option maxRecDepth 100000 in
theorem bosunref17_Check.calls (k : Nat) (a0_0 : Int) (A0_1 : Option Addr) (c0_1 : Nat) (l0_1 : List (S67)) (r : Int) (w : World) (hr0_1 : Kd.C k67 w A0_1 l0_1.length l0_1) (hc0_1 : l0_1.length ≤ c0_1) (h : bosunref17_Check.f k a0_0 l0_1 = some r) :
  Calls Tryd.prog 12 #[.agg #[.int .u32 a0_0,.slice A0_1 l0_1.length c0_1]] w fun e w'=>e = .returned (.int .i64 r) ∧ Below w.heap.size w w':=by
 have hu30:=Tryd.underlying30
 have hu67:=Tryd.underlying67
 have HR0_1:=Aside0.mk hr0_1
 have HC0_1:=Aside0.mk hc0_1
 clear hr0_1 hc0_1
 have HB:=Aside0.mk (Below.refl w.heap.size w)
 have H : (if (l0_1.length : Int) > 1024 then (some 18) else (bosunref17_Check.l0 k 0 a0_0 l0_1)) = some r:=h
 clear h
 by_cases c2 : (l0_1.length : Int) > 1024
 ·rw [if_pos c2] at H
  have c2b0 : decide (1024 < (l0_1.length : Int)) = true:=decide_eq_true c2
  have c2b1 : decide (1024 < l0_1.length) = true:=decide_eq_true (by omega)
  clear c2
  obtain rfl:=Option.some.inj H
  go_enter Tryd.func12,Tryd.ntmps12
  go_wp2_with (first|((with_reducible refine gate_dst (N:=1) rfl ?_);refine box_event ?hg (N:=1) ?hd (cs:=#[.int .u32 a0_0,.slice A0_1 l0_1.length c0_1]) (t:=30) ?hr ?_;(case hd=>rfl);(case hg=>rfl);(case hr=>first|(go_simp;done)|(go_simp;rfl));intro gb174 hg w3 hbox hb;have n0_:=Aside0.mk (below_step (by repeat (first|(with_reducible first|exact HB.out|apply below_alloc|apply pw_below_drewN|apply below_drew1)|exact HB.out)) hb);have n1_:=Aside0.mk (hbox);have n2_:=Aside0.mk ((by rw [hg];exact (below_size (by repeat (first|(with_reducible first|exact HB.out|apply below_alloc|apply pw_below_drewN|apply below_drew1)|exact HB.out))) : w.heap.size ≤ gb174));have n3_:=Aside0.mk ((by rw [hg];exact (below_size (by repeat (first|(with_reducible first|exact HB.out|apply below_alloc|apply pw_below_drewN|apply below_drew1)|exact HB.out))) : w.heap.size ≤ gb174));clear HB;have HB:=n0_;have BK174:=n1_;have GW174:=n2_;have GE174:=n3_;clear n0_ n1_ n2_ n3_;clear hb hbox hg;have hcz4_0 : w3.cell? ⟨gb174,0,none⟩ = some (.int .u32 a0_0):=(blk_cell BK174.out 0).trans rfl;have hcz4_1 : w3.cell? ⟨gb174,1,none⟩ = some (.slice A0_1 l0_1.length c0_1):=(blk_cell BK174.out 1).trans rfl;have hfz4_0:=blk_frozen BK174.out 0;have hfz4_1:=blk_frozen BK174.out 1))
  repeat (go_quiet (first|((with_reducible refine gate_dst (N:=1) rfl ?_);refine box_event ?hg (N:=1) ?hd (cs:=#[.int .u32 a0_0,.slice A0_1 l0_1.length c0_1]) (t:=30) ?hr ?_;(case hd=>rfl);(case hg=>rfl);(case hr=>first|(go_simp;done)|(go_simp;rfl));intro gb174 hg w3 hbox hb;have n0_:=Aside0.mk (below_step (by repeat (first|(with_reducible first|exact HB.out|apply below_alloc|apply pw_below_drewN|apply below_drew1)|exact HB.out)) hb);have n1_:=Aside0.mk (hbox);have n2_:=Aside0.mk ((by rw [hg];exact (below_size (by repeat (first|(with_reducible first|exact HB.out|apply below_alloc|apply pw_below_drewN|apply below_drew1)|exact HB.out))) : w.heap.size ≤ gb174));have n3_:=Aside0.mk ((by rw [hg];exact (below_size (by repeat (first|(with_reducible first|exact HB.out|apply below_alloc|apply pw_below_drewN|apply below_drew1)|exact HB.out))) : w.heap.size ≤ gb174));clear HB;have HB:=n0_;have BK174:=n1_;have GW174:=n2_;have GE174:=n3_;clear n0_ n1_ n2_ n3_;clear hb hbox hg;have hcz4_0 : w3.cell? ⟨gb174,0,none⟩ = some (.int .u32 a0_0):=(blk_cell BK174.out 0).trans rfl;have hcz4_1 : w3.cell? ⟨gb174,1,none⟩ = some (.slice A0_1 l0_1.length c0_1):=(blk_cell BK174.out 1).trans rfl;have hfz4_0:=blk_frozen BK174.out 0;have hfz4_1:=blk_frozen BK174.out 1));try go_wp2_with (first|((with_reducible refine gate_dst (N:=1) rfl ?_);refine box_event ?hg (N:=1) ?hd (cs:=#[.int .u32 a0_0,.slice A0_1 l0_1.length c0_1]) (t:=30) ?hr ?_;(case hd=>rfl);(case hg=>rfl);(case hr=>first|(go_simp;done)|(go_simp;rfl));intro gb174 hg w3 hbox hb;have n0_:=Aside0.mk (below_step (by repeat (first|(with_reducible first|exact HB.out|apply below_alloc|apply pw_below_drewN|apply below_drew1)|exact HB.out)) hb);have n1_:=Aside0.mk (hbox);have n2_:=Aside0.mk ((by rw [hg];exact (below_size (by repeat (first|(with_reducible first|exact HB.out|apply below_alloc|apply pw_below_drewN|apply below_drew1)|exact HB.out))) : w.heap.size ≤ gb174));have n3_:=Aside0.mk ((by rw [hg];exact (below_size (by repeat (first|(with_reducible first|exact HB.out|apply below_alloc|apply pw_below_drewN|apply below_drew1)|exact HB.out))) : w.heap.size ≤ gb174));clear HB;have HB:=n0_;have BK174:=n1_;have GW174:=n2_;have GE174:=n3_;clear n0_ n1_ n2_ n3_;clear hb hbox hg;have hcz4_0 : w3.cell? ⟨gb174,0,none⟩ = some (.int .u32 a0_0):=(blk_cell BK174.out 0).trans rfl;have hcz4_1 : w3.cell? ⟨gb174,1,none⟩ = some (.slice A0_1 l0_1.length c0_1):=(blk_cell BK174.out 1).trans rfl;have hfz4_0:=blk_frozen BK174.out 0;have hfz4_1:=blk_frozen BK174.out 1)))
  go_ret
  exact ⟨by first|rfl|(simp [errW_none,errW_some] <;> rfl)|(simp [*,errW_none,errW_some] <;> rfl),by repeat (first|(with_reducible first|exact HB.out|apply below_alloc|apply pw_below_drewN|apply below_drew1|refine below_set ?_ GE174.out)|exact HB.out)⟩
 ·rw [if_neg c2] at H
  have c2b0 : decide (1024 < (l0_1.length : Int)) = false:=decide_eq_false c2
  have c2b1 : decide (1024 < l0_1.length) = false:=decide_eq_false (by omega)
  clear c2
  have H':=Aside0.mk H
  clear H
  go_enter Tryd.func12,Tryd.ntmps12
  go_wp2_with (first|((with_reducible refine gate_dst (N:=1) rfl ?_);refine box_event ?hg (N:=1) ?hd (cs:=#[.int .u32 a0_0,.slice A0_1 l0_1.length c0_1]) (t:=30) ?hr ?_;(case hd=>rfl);(case hg=>rfl);(case hr=>first|(go_simp;done)|(go_simp;rfl));intro gb174 hg w5 hbox hb;have n0_:=Aside0.mk (below_step (by repeat (first|(with_reducible first|exact HB.out|apply below_alloc|apply pw_below_drewN|apply below_drew1)|exact HB.out)) hb);have n1_:=Aside0.mk (hbox);have n2_:=Aside0.mk ((by rw [hg];exact (below_size (by repeat (first|(with_reducible first|exact HB.out|apply below_alloc|apply pw_below_drewN|apply below_drew1)|exact HB.out))) : w.heap.size ≤ gb174));have n3_:=Aside0.mk ((by rw [hg];exact (below_size (by repeat (first|(with_reducible first|exact HB.out|apply below_alloc|apply pw_below_drewN|apply below_drew1)|exact HB.out))) : w.heap.size ≤ gb174));clear HB;have HB:=n0_;have BK174:=n1_;have GW174:=n2_;have GE174:=n3_;clear n0_ n1_ n2_ n3_;clear hb hbox hg;have hcz6_0 : w5.cell? ⟨gb174,0,none⟩ = some (.int .u32 a0_0):=(blk_cell BK174.out 0).trans rfl;have hcz6_1 : w5.cell? ⟨gb174,1,none⟩ = some (.slice A0_1 l0_1.length c0_1):=(blk_cell BK174.out 1).trans rfl;have hfz6_0:=blk_frozen BK174.out 0;have hfz6_1:=blk_frozen BK174.out 1))
  repeat (go_quiet (first|((with_reducible refine gate_dst (N:=1) rfl ?_);refine box_event ?hg (N:=1) ?hd (cs:=#[.int .u32 a0_0,.slice A0_1 l0_1.length c0_1]) (t:=30) ?hr ?_;(case hd=>rfl);(case hg=>rfl);(case hr=>first|(go_simp;done)|(go_simp;rfl));intro gb174 hg w5 hbox hb;have n0_:=Aside0.mk (below_step (by repeat (first|(with_reducible first|exact HB.out|apply below_alloc|apply pw_below_drewN|apply below_drew1)|exact HB.out)) hb);have n1_:=Aside0.mk (hbox);have n2_:=Aside0.mk ((by rw [hg];exact (below_size (by repeat (first|(with_reducible first|exact HB.out|apply below_alloc|apply pw_below_drewN|apply below_drew1)|exact HB.out))) : w.heap.size ≤ gb174));have n3_:=Aside0.mk ((by rw [hg];exact (below_size (by repeat (first|(with_reducible first|exact HB.out|apply below_alloc|apply pw_below_drewN|apply below_drew1)|exact HB.out))) : w.heap.size ≤ gb174));clear HB;have HB:=n0_;have BK174:=n1_;have GW174:=n2_;have GE174:=n3_;clear n0_ n1_ n2_ n3_;clear hb hbox hg;have hcz6_0 : w5.cell? ⟨gb174,0,none⟩ = some (.int .u32 a0_0):=(blk_cell BK174.out 0).trans rfl;have hcz6_1 : w5.cell? ⟨gb174,1,none⟩ = some (.slice A0_1 l0_1.length c0_1):=(blk_cell BK174.out 1).trans rfl;have hfz6_0:=blk_frozen BK174.out 0;have hfz6_1:=blk_frozen BK174.out 1));try go_wp2_with (first|((with_reducible refine gate_dst (N:=1) rfl ?_);refine box_event ?hg (N:=1) ?hd (cs:=#[.int .u32 a0_0,.slice A0_1 l0_1.length c0_1]) (t:=30) ?hr ?_;(case hd=>rfl);(case hg=>rfl);(case hr=>first|(go_simp;done)|(go_simp;rfl));intro gb174 hg w5 hbox hb;have n0_:=Aside0.mk (below_step (by repeat (first|(with_reducible first|exact HB.out|apply below_alloc|apply pw_below_drewN|apply below_drew1)|exact HB.out)) hb);have n1_:=Aside0.mk (hbox);have n2_:=Aside0.mk ((by rw [hg];exact (below_size (by repeat (first|(with_reducible first|exact HB.out|apply below_alloc|apply pw_below_drewN|apply below_drew1)|exact HB.out))) : w.heap.size ≤ gb174));have n3_:=Aside0.mk ((by rw [hg];exact (below_size (by repeat (first|(with_reducible first|exact HB.out|apply below_alloc|apply pw_below_drewN|apply below_drew1)|exact HB.out))) : w.heap.size ≤ gb174));clear HB;have HB:=n0_;have BK174:=n1_;have GW174:=n2_;have GE174:=n3_;clear n0_ n1_ n2_ n3_;clear hb hbox hg;have hcz6_0 : w5.cell? ⟨gb174,0,none⟩ = some (.int .u32 a0_0):=(blk_cell BK174.out 0).trans rfl;have hcz6_1 : w5.cell? ⟨gb174,1,none⟩ = some (.slice A0_1 l0_1.length c0_1):=(blk_cell BK174.out 1).trans rfl;have hfz6_0:=blk_frozen BK174.out 0;have hfz6_1:=blk_frozen BK174.out 1)))
  go_loopg [3] k (fun kq v3 w'=>∃ (x3_1 : Int),v3 = .int .i64 x3_1 ∧ Aside0 (bosunref17_Check.l0 kq x3_1 a0_0 l0_1 = some r) ∧ Aside0 (kq ≤ k) ∧ Aside0 (w'.heap[gb174]? = some (.cells #[.int .u32 a0_0,(.slice A0_1 l0_1.length c0_1)] 30 (0,0))) ∧ Aside0 (Below w.heap.size w w'))
  case atStart=>exact ⟨(0),(by first|rfl|(simp;done)|(simp [*];done)),H',⟨Nat.le_refl _⟩,⟨by (with_reducible repeat (first|apply blk_drewN|apply blk_drew|apply blk_alloc));exact BK174.out⟩,⟨by repeat (first|(with_reducible first|exact HB.out|apply below_alloc|apply pw_below_drewN|apply below_drew1|refine below_set ?_ GE174.out)|exact HB.out)⟩⟩
  case round =>
   clear H'
   try clear c1
   try clear c2
   try clear c2b0
   try clear c2b1
   try clear p2
   try clear hcz4_0
   try clear hcz4_1
   try clear hcz6_0
   try clear hcz6_1
   try clear hfz4_0
   try clear hfz4_1
   try clear hfz6_0
   try clear hfz6_1
   obtain ⟨x3_1,rfl,HA,HK1,BK174,HB⟩:=hrel
   cases gk with
   | zero=>exact absurd HA.out (by simp [bosunref17_Check.l0])
   | succ k1 =>
    have H:=HA.out
    clear HA
    simp only [bosunref17_Check.l0] at H
    by_cases c7 : x3_1 < (l0_1.length : Int)
    ·rw [if_pos c7] at H
     have c7b0 : decide (x3_1 < (l0_1.length : Int)) = true:=decide_eq_true c7
     clear c7
     by_cases c8 : 0 ≤ x3_1
     ·rw [if_pos c8] at H
      have c8b0 : decide (0 ≤ x3_1) = true:=decide_eq_true c8
      clear c8
      have HC9:=Aside0.mk H
      clear H
      have hcz10_0 : wr.cell? ⟨gb174,0,none⟩ = some (.int .u32 a0_0):=(blk_cell BK174.out 0).trans rfl
      have hcz10_1 : wr.cell? ⟨gb174,1,none⟩ = some (.slice A0_1 l0_1.length c0_1):=(blk_cell BK174.out 1).trans rfl
      have hfz10_0:=blk_frozen BK174.out 0
      have hfz10_1:=blk_frozen BK174.out 1
      have p175 : 0 ≤ (x3_1 : Int):=of_decide_eq_true (by first|(with_reducible assumption)|assumption)
      have q175 : x3_1 < (l0_1.length : Int):=of_decide_eq_true (by first|(with_reducible assumption)|assumption)
      obtain ⟨ad175,e175,hx175_0,hx175_1,hx175_2,hx175_3⟩:=at_T67 HR0_1.out x3_1 p175 q175
      cases e175
      replace hx175_0:=(HB.out.cell (World.block_lt_of_cell? w _ hx175_0)).trans hx175_0
      replace hx175_1:=(HB.out.cell (World.block_lt_of_cell? w _ hx175_1)).trans hx175_1
      replace hx175_2:=(HB.out.cell (World.block_lt_of_cell? w _ hx175_2)).trans hx175_2
      replace hx175_3:=(HB.out.cell (World.block_lt_of_cell? w _ hx175_3)).trans hx175_3
      replace p175:=eq_true p175
      replace q175:=eq_true q175
      go_upto_region 7 with (first|((with_reducible refine gate_dst (N:=4) rfl ?_);refine box_event ?hg (N:=4) ?hd (cs:=#[.string (⟨#[]⟩ : ByteArray),.string (⟨#[]⟩ : ByteArray),.string (⟨#[]⟩ : ByteArray),.int .u8 0]) (t:=67) ?hr ?_;(case hd=>rfl);(case hg=>rfl);(case hr=>first|(go_simp;done)|(go_simp;rfl));intro gb176 hg w11 hbox hb;have n0_:=Aside0.mk (blk_below (g:=gb174) (o:=.cells #[.int .u32 a0_0,.slice (some ad175) l0_1.length c0_1] 30 (0,0)) (by (with_reducible repeat (first|apply blk_drewN|apply blk_drew|apply blk_alloc));exact BK174.out) hb);have n1_:=Aside0.mk (below_step (by repeat (first|(with_reducible first|exact HB.out|apply below_alloc|apply pw_below_drewN|apply below_drew1|refine below_set ?_ GE174.out)|exact HB.out)) hb);have n2_:=Aside0.mk (hbox);have n3_:=Aside0.mk ((by rw [hg];exact (below_size (by repeat (first|(with_reducible first|exact HB.out|apply below_alloc|apply pw_below_drewN|apply below_drew1|refine below_set ?_ GE174.out)|exact HB.out))) : w.heap.size ≤ gb176));have n4_:=Aside0.mk ((by rw [hg];exact (below_size (by repeat (first|(with_reducible first|exact HB.out|apply below_alloc|apply pw_below_drewN|apply below_drew1|refine below_set ?_ GE174.out)|exact HB.out))) : w.heap.size ≤ gb176));have n5_:=Aside0.mk ((by rw [hg];exact Nat.ne_of_lt (blk_lt (g:=gb174) (o:=.cells #[.int .u32 a0_0,.slice (some ad175) l0_1.length c0_1] 30 (0,0)) (by (with_reducible repeat (first|apply blk_drewN|apply blk_drew|apply blk_alloc));exact BK174.out)) : gb174 ≠ gb176));have n6_:=Aside0.mk ((by rw [hg];exact Nat.ne_of_gt (blk_lt (g:=gb174) (o:=.cells #[.int .u32 a0_0,.slice (some ad175) l0_1.length c0_1] 30 (0,0)) (by (with_reducible repeat (first|apply blk_drewN|apply blk_drew|apply blk_alloc));exact BK174.out)) : gb176 ≠ gb174));clear BK174;clear HB;have BK174:=n0_;have HB:=n1_;have BK176:=n2_;have GW176:=n3_;have GE176:=n4_;have NB174_176:=n5_;have NB176_174:=n6_;clear n0_ n1_ n2_ n3_ n4_ n5_ n6_;clear hb hbox hg;have hnb12:=NB176_174.out;have hnc12:=NB174_176.out;have hcz13_0 : w11.cell? ⟨gb176,0,none⟩ = some (.string (⟨#[]⟩ : ByteArray)):=(blk_cell BK176.out 0).trans rfl;have hcz13_1 : w11.cell? ⟨gb176,1,none⟩ = some (.string (⟨#[]⟩ : ByteArray)):=(blk_cell BK176.out 1).trans rfl;have hcz13_2 : w11.cell? ⟨gb176,2,none⟩ = some (.string (⟨#[]⟩ : ByteArray)):=(blk_cell BK176.out 2).trans rfl;have hcz13_3 : w11.cell? ⟨gb176,3,none⟩ = some (.int .u8 0):=(blk_cell BK176.out 3).trans rfl;have hfz13_0:=blk_frozen BK176.out 0;have hfz13_1:=blk_frozen BK176.out 1;have hfz13_2:=blk_frozen BK176.out 2;have hfz13_3:=blk_frozen BK176.out 3))
      repeat (go_quiet (first|((with_reducible refine gate_dst (N:=4) rfl ?_);refine box_event ?hg (N:=4) ?hd (cs:=#[.string (⟨#[]⟩ : ByteArray),.string (⟨#[]⟩ : ByteArray),.string (⟨#[]⟩ : ByteArray),.int .u8 0]) (t:=67) ?hr ?_;(case hd=>rfl);(case hg=>rfl);(case hr=>first|(go_simp;done)|(go_simp;rfl));intro gb176 hg w11 hbox hb;have n0_:=Aside0.mk (blk_below (g:=gb174) (o:=.cells #[.int .u32 a0_0,.slice (some ad175) l0_1.length c0_1] 30 (0,0)) (by (with_reducible repeat (first|apply blk_drewN|apply blk_drew|apply blk_alloc));exact BK174.out) hb);have n1_:=Aside0.mk (below_step (by repeat (first|(with_reducible first|exact HB.out|apply below_alloc|apply pw_below_drewN|apply below_drew1|refine below_set ?_ GE174.out)|exact HB.out)) hb);have n2_:=Aside0.mk (hbox);have n3_:=Aside0.mk ((by rw [hg];exact (below_size (by repeat (first|(with_reducible first|exact HB.out|apply below_alloc|apply pw_below_drewN|apply below_drew1|refine below_set ?_ GE174.out)|exact HB.out))) : w.heap.size ≤ gb176));have n4_:=Aside0.mk ((by rw [hg];exact (below_size (by repeat (first|(with_reducible first|exact HB.out|apply below_alloc|apply pw_below_drewN|apply below_drew1|refine below_set ?_ GE174.out)|exact HB.out))) : w.heap.size ≤ gb176));have n5_:=Aside0.mk ((by rw [hg];exact Nat.ne_of_lt (blk_lt (g:=gb174) (o:=.cells #[.int .u32 a0_0,.slice (some ad175) l0_1.length c0_1] 30 (0,0)) (by (with_reducible repeat (first|apply blk_drewN|apply blk_drew|apply blk_alloc));exact BK174.out)) : gb174 ≠ gb176));have n6_:=Aside0.mk ((by rw [hg];exact Nat.ne_of_gt (blk_lt (g:=gb174) (o:=.cells #[.int .u32 a0_0,.slice (some ad175) l0_1.length c0_1] 30 (0,0)) (by (with_reducible repeat (first|apply blk_drewN|apply blk_drew|apply blk_alloc));exact BK174.out)) : gb176 ≠ gb174));clear BK174;clear HB;have BK174:=n0_;have HB:=n1_;have BK176:=n2_;have GW176:=n3_;have GE176:=n4_;have NB174_176:=n5_;have NB176_174:=n6_;clear n0_ n1_ n2_ n3_ n4_ n5_ n6_;clear hb hbox hg;have hnb12:=NB176_174.out;have hnc12:=NB174_176.out;have hcz13_0 : w11.cell? ⟨gb176,0,none⟩ = some (.string (⟨#[]⟩ : ByteArray)):=(blk_cell BK176.out 0).trans rfl;have hcz13_1 : w11.cell? ⟨gb176,1,none⟩ = some (.string (⟨#[]⟩ : ByteArray)):=(blk_cell BK176.out 1).trans rfl;have hcz13_2 : w11.cell? ⟨gb176,2,none⟩ = some (.string (⟨#[]⟩ : ByteArray)):=(blk_cell BK176.out 2).trans rfl;have hcz13_3 : w11.cell? ⟨gb176,3,none⟩ = some (.int .u8 0):=(blk_cell BK176.out 3).trans rfl;have hfz13_0:=blk_frozen BK176.out 0;have hfz13_1:=blk_frozen BK176.out 1;have hfz13_2:=blk_frozen BK176.out 2;have hfz13_3:=blk_frozen BK176.out 3));go_upto_region 7 with (first|((with_reducible refine gate_dst (N:=4) rfl ?_);refine box_event ?hg (N:=4) ?hd (cs:=#[.string (⟨#[]⟩ : ByteArray),.string (⟨#[]⟩ : ByteArray),.string (⟨#[]⟩ : ByteArray),.int .u8 0]) (t:=67) ?hr ?_;(case hd=>rfl);(case hg=>rfl);(case hr=>first|(go_simp;done)|(go_simp;rfl));intro gb176 hg w11 hbox hb;have n0_:=Aside0.mk (blk_below (g:=gb174) (o:=.cells #[.int .u32 a0_0,.slice (some ad175) l0_1.length c0_1] 30 (0,0)) (by (with_reducible repeat (first|apply blk_drewN|apply blk_drew|apply blk_alloc));exact BK174.out) hb);have n1_:=Aside0.mk (below_step (by repeat (first|(with_reducible first|exact HB.out|apply below_alloc|apply pw_below_drewN|apply below_drew1|refine below_set ?_ GE174.out)|exact HB.out)) hb);have n2_:=Aside0.mk (hbox);have n3_:=Aside0.mk ((by rw [hg];exact (below_size (by repeat (first|(with_reducible first|exact HB.out|apply below_alloc|apply pw_below_drewN|apply below_drew1|refine below_set ?_ GE174.out)|exact HB.out))) : w.heap.size ≤ gb176));have n4_:=Aside0.mk ((by rw [hg];exact (below_size (by repeat (first|(with_reducible first|exact HB.out|apply below_alloc|apply pw_below_drewN|apply below_drew1|refine below_set ?_ GE174.out)|exact HB.out))) : w.heap.size ≤ gb176));have n5_:=Aside0.mk ((by rw [hg];exact Nat.ne_of_lt (blk_lt (g:=gb174) (o:=.cells #[.int .u32 a0_0,.slice (some ad175) l0_1.length c0_1] 30 (0,0)) (by (with_reducible repeat (first|apply blk_drewN|apply blk_drew|apply blk_alloc));exact BK174.out)) : gb174 ≠ gb176));have n6_:=Aside0.mk ((by rw [hg];exact Nat.ne_of_gt (blk_lt (g:=gb174) (o:=.cells #[.int .u32 a0_0,.slice (some ad175) l0_1.length c0_1] 30 (0,0)) (by (with_reducible repeat (first|apply blk_drewN|apply blk_drew|apply blk_alloc));exact BK174.out)) : gb176 ≠ gb174));clear BK174;clear HB;have BK174:=n0_;have HB:=n1_;have BK176:=n2_;have GW176:=n3_;have GE176:=n4_;have NB174_176:=n5_;have NB176_174:=n6_;clear n0_ n1_ n2_ n3_ n4_ n5_ n6_;clear hb hbox hg;have hnb12:=NB176_174.out;have hnc12:=NB174_176.out;have hcz13_0 : w11.cell? ⟨gb176,0,none⟩ = some (.string (⟨#[]⟩ : ByteArray)):=(blk_cell BK176.out 0).trans rfl;have hcz13_1 : w11.cell? ⟨gb176,1,none⟩ = some (.string (⟨#[]⟩ : ByteArray)):=(blk_cell BK176.out 1).trans rfl;have hcz13_2 : w11.cell? ⟨gb176,2,none⟩ = some (.string (⟨#[]⟩ : ByteArray)):=(blk_cell BK176.out 2).trans rfl;have hcz13_3 : w11.cell? ⟨gb176,3,none⟩ = some (.int .u8 0):=(blk_cell BK176.out 3).trans rfl;have hfz13_0:=blk_frozen BK176.out 0;have hfz13_1:=blk_frozen BK176.out 1;have hfz13_2:=blk_frozen BK176.out 2;have hfz13_3:=blk_frozen BK176.out 3)))
      (try simp only [Act.put,List.setIfInBounds_toArray,List.set_cons_zero,List.set_cons_succ])
      go_cut [30] (fun v30 wc=>∃ (kq : Nat) (x30_8 : Bool),v30 = .bool x30_8 ∧ Aside0 (bosunref17_Check.j1 kq x3_1 x30_8 a0_0 l0_1 ((rd_T67 l0_1 x3_1).f0) ((rd_T67 l0_1 x3_1).f1) ((rd_T67 l0_1 x3_1).f2) ((rd_T67 l0_1 x3_1).f3) = some r) ∧ Aside0 (kq ≤ k1) ∧ Aside0 (wc.heap[gb174]? = some (.cells #[.int .u32 a0_0,(.slice (some ad175) l0_1.length c0_1)] 30 (0,0))) ∧ Aside0 (wc.heap[gb176]? = some (.cells #[.string ((rd_T67 l0_1 x3_1).f0),.string ((rd_T67 l0_1 x3_1).f1),.string ((rd_T67 l0_1 x3_1).f2),.int .u8 ((rd_T67 l0_1 x3_1).f3)] 67 (0,0))) ∧ Aside0 (Below w.heap.size w wc))
      case first =>
       have H:=HC9.out
       clear HC9
       replace H:=Option.bind_eq_some_iff.mp H
       obtain ⟨t177,A140,H⟩:=H
       replace H : (if t177 = true then ((bosunref13_Name.f k1 ((rd_T67 l0_1 x3_1).f1)).bind fun t178=>(bosunref17_Check.j1 k1 x3_1 (!t178) a0_0 l0_1 ((rd_T67 l0_1 x3_1).f0) ((rd_T67 l0_1 x3_1).f1) ((rd_T67 l0_1 x3_1).f2) ((rd_T67 l0_1 x3_1).f3))) else (bosunref17_Check.j1 k1 x3_1 true a0_0 l0_1 ((rd_T67 l0_1 x3_1).f0) ((rd_T67 l0_1 x3_1).f1) ((rd_T67 l0_1 x3_1).f2) ((rd_T67 l0_1 x3_1).f3))) = some r:=H
       have A14:=Aside0.mk A140
       clear A140
       by_cases c15 : t177 = true
       ·subst c15
        have H1 : ((bosunref13_Name.f k1 ((rd_T67 l0_1 x3_1).f1)).bind fun t178=>(bosunref17_Check.j1 k1 x3_1 (!t178) a0_0 l0_1 ((rd_T67 l0_1 x3_1).f0) ((rd_T67 l0_1 x3_1).f1) ((rd_T67 l0_1 x3_1).f2) ((rd_T67 l0_1 x3_1).f3))) = some r:=by rw [if_pos rfl] at H;exact H
        clear H
        have H:=H1
        clear H1
        replace H:=Option.bind_eq_some_iff.mp H
        obtain ⟨t178,A160,H⟩:=H
        replace H : (bosunref17_Check.j1 k1 x3_1 (!t178) a0_0 l0_1 ((rd_T67 l0_1 x3_1).f0) ((rd_T67 l0_1 x3_1).f1) ((rd_T67 l0_1 x3_1).f2) ((rd_T67 l0_1 x3_1).f3)) = some r:=H
        have A16:=Aside0.mk A160
        clear A160
        have H':=Aside0.mk H
        clear H
        have hnb17:=NB176_174.out
        have hnc17:=NB174_176.out
        have hcz18_0 : w11.cell? ⟨gb176,0,none⟩ = some (.string (⟨#[]⟩ : ByteArray)):=(blk_cell BK176.out 0).trans rfl
        have hcz18_1 : w11.cell? ⟨gb176,1,none⟩ = some (.string (⟨#[]⟩ : ByteArray)):=(blk_cell BK176.out 1).trans rfl
        have hcz18_2 : w11.cell? ⟨gb176,2,none⟩ = some (.string (⟨#[]⟩ : ByteArray)):=(blk_cell BK176.out 2).trans rfl
        have hcz18_3 : w11.cell? ⟨gb176,3,none⟩ = some (.int .u8 0):=(blk_cell BK176.out 3).trans rfl
        have hfz18_0:=blk_frozen BK176.out 0
        have hfz18_1:=blk_frozen BK176.out 1
        have hfz18_2:=blk_frozen BK176.out 2
        have hfz18_3:=blk_frozen BK176.out 3
        go_wp2_with (first|(go_at_call 19;(with_reducible refine (bosunref04_Name.calls k1 ((rd_T67 l0_1 x3_1).f0) true _ A14.out).mono ?_);rintro e w' ⟨rfl,⟨nd,rfl⟩⟩;(try first|exact ⟨rfl,_,World.drewN_drewN _ _ _⟩|exact ⟨rfl,_,Eq.trans (World.drewN_drewN _ _ _) (congrArg (World.drewN _) (Nat.add_assoc _ _ _))⟩))|(go_at_call 35;(with_reducible refine (bosunref13_Name.calls k1 ((rd_T67 l0_1 x3_1).f1) t178 _ A16.out).mono ?_);rintro e w19 ⟨rfl,hb⟩;have n0_:=Aside0.mk (blk_below (g:=gb174) (o:=.cells #[.int .u32 a0_0,.slice (some ad175) l0_1.length c0_1] 30 (0,0)) (by (with_reducible repeat (first|apply blk_drewN|apply blk_drew|apply blk_alloc));refine blk_far ?_ NB174_176.out _;(with_reducible repeat (first|apply blk_drewN|apply blk_drew|apply blk_alloc));refine blk_far ?_ NB174_176.out _;(with_reducible repeat (first|apply blk_drewN|apply blk_drew|apply blk_alloc));refine blk_far ?_ NB174_176.out _;(with_reducible repeat (first|apply blk_drewN|apply blk_drew|apply blk_alloc));refine blk_far ?_ NB174_176.out _;(with_reducible repeat (first|apply blk_drewN|apply blk_drew|apply blk_alloc));exact BK174.out) hb);have n1_:=Aside0.mk (blk_below (g:=gb176) (o:=.cells #[.string ((rd_T67 l0_1 x3_1).f0),.string ((rd_T67 l0_1 x3_1).f1),.string ((rd_T67 l0_1 x3_1).f2),.int .u8 ((rd_T67 l0_1 x3_1).f3)] 67 (0,0)) (by (with_reducible repeat (first|apply blk_drewN|apply blk_drew|apply blk_alloc));refine blk_put (cs:=#[.string ((rd_T67 l0_1 x3_1).f0),.string ((rd_T67 l0_1 x3_1).f1),.string ((rd_T67 l0_1 x3_1).f2),.int .u8 0]) ?_ 3 _ rfl;(with_reducible repeat (first|apply blk_drewN|apply blk_drew|apply blk_alloc));refine blk_put (cs:=#[.string ((rd_T67 l0_1 x3_1).f0),.string ((rd_T67 l0_1 x3_1).f1),.string (⟨#[]⟩ : ByteArray),.int .u8 0]) ?_ 2 _ rfl;(with_reducible repeat (first|apply blk_drewN|apply blk_drew|apply blk_alloc));refine blk_put (cs:=#[.string ((rd_T67 l0_1 x3_1).f0),.string (⟨#[]⟩ : ByteArray),.string (⟨#[]⟩ : ByteArray),.int .u8 0]) ?_ 1 _ rfl;(with_reducible repeat (first|apply blk_drewN|apply blk_drew|apply blk_alloc));refine blk_put (cs:=#[.string (⟨#[]⟩ : ByteArray),.string (⟨#[]⟩ : ByteArray),.string (⟨#[]⟩ : ByteArray),.int .u8 0]) ?_ 0 _ rfl;(with_reducible repeat (first|apply blk_drewN|apply blk_drew|apply blk_alloc));exact BK176.out) hb);have n2_:=Aside0.mk (below_step (by repeat (first|(with_reducible first|exact HB.out|apply below_alloc|apply pw_below_drewN|apply below_drew1|refine below_set ?_ GE174.out|refine below_set ?_ GE176.out)|exact HB.out)) hb);clear BK174;clear BK176;clear HB;have BK174:=n0_;have BK176:=n1_;have HB:=n2_;clear n0_ n1_ n2_;(try clear hb);(try clear hb2);(try clear hk);(try clear hi)))
        repeat (go_quiet (first|(go_at_call 19;(with_reducible refine (bosunref04_Name.calls k1 ((rd_T67 l0_1 x3_1).f0) true _ A14.out).mono ?_);rintro e w' ⟨rfl,⟨nd,rfl⟩⟩;(try first|exact ⟨rfl,_,World.drewN_drewN _ _ _⟩|exact ⟨rfl,_,Eq.trans (World.drewN_drewN _ _ _) (congrArg (World.drewN _) (Nat.add_assoc _ _ _))⟩))|(go_at_call 35;(with_reducible refine (bosunref13_Name.calls k1 ((rd_T67 l0_1 x3_1).f1) t178 _ A16.out).mono ?_);rintro e w19 ⟨rfl,hb⟩;have n0_:=Aside0.mk (blk_below (g:=gb174) (o:=.cells #[.int .u32 a0_0,.slice (some ad175) l0_1.length c0_1] 30 (0,0)) (by (with_reducible repeat (first|apply blk_drewN|apply blk_drew|apply blk_alloc));refine blk_far ?_ NB174_176.out _;(with_reducible repeat (first|apply blk_drewN|apply blk_drew|apply blk_alloc));refine blk_far ?_ NB174_176.out _;(with_reducible repeat (first|apply blk_drewN|apply blk_drew|apply blk_alloc));refine blk_far ?_ NB174_176.out _;(with_reducible repeat (first|apply blk_drewN|apply blk_drew|apply blk_alloc));refine blk_far ?_ NB174_176.out _;(with_reducible repeat (first|apply blk_drewN|apply blk_drew|apply blk_alloc));exact BK174.out) hb);have n1_:=Aside0.mk (blk_below (g:=gb176) (o:=.cells #[.string ((rd_T67 l0_1 x3_1).f0),.string ((rd_T67 l0_1 x3_1).f1),.string ((rd_T67 l0_1 x3_1).f2),.int .u8 ((rd_T67 l0_1 x3_1).f3)] 67 (0,0)) (by (with_reducible repeat (first|apply blk_drewN|apply blk_drew|apply blk_alloc));refine blk_put (cs:=#[.string ((rd_T67 l0_1 x3_1).f0),.string ((rd_T67 l0_1 x3_1).f1),.string ((rd_T67 l0_1 x3_1).f2),.int .u8 0]) ?_ 3 _ rfl;(with_reducible repeat (first|apply blk_drewN|apply blk_drew|apply blk_alloc));refine blk_put (cs:=#[.string ((rd_T67 l0_1 x3_1).f0),.string ((rd_T67 l0_1 x3_1).f1),.string (⟨#[]⟩ : ByteArray),.int .u8 0]) ?_ 2 _ rfl;(with_reducible repeat (first|apply blk_drewN|apply blk_drew|apply blk_alloc));refine blk_put (cs:=#[.string ((rd_T67 l0_1 x3_1).f0),.string (⟨#[]⟩ : ByteArray),.string (⟨#[]⟩ : ByteArray),.int .u8 0]) ?_ 1 _ rfl;(with_reducible repeat (first|apply blk_drewN|apply blk_drew|apply blk_alloc));refine blk_put (cs:=#[.string (⟨#[]⟩ : ByteArray),.string (⟨#[]⟩ : ByteArray),.string (⟨#[]⟩ : ByteArray),.int .u8 0]) ?_ 0 _ rfl;(with_reducible repeat (first|apply blk_drewN|apply blk_drew|apply blk_alloc));exact BK176.out) hb);have n2_:=Aside0.mk (below_step (by repeat (first|(with_reducible first|exact HB.out|apply below_alloc|apply pw_below_drewN|apply below_drew1|refine below_set ?_ GE174.out|refine below_set ?_ GE176.out)|exact HB.out)) hb);clear BK174;clear BK176;clear HB;have BK174:=n0_;have BK176:=n1_;have HB:=n2_;clear n0_ n1_ n2_;(try clear hb);(try clear hb2);(try clear hk);(try clear hi)));try go_wp2_with (first|(go_at_call 19;(with_reducible refine (bosunref04_Name.calls k1 ((rd_T67 l0_1 x3_1).f0) true _ A14.out).mono ?_);rintro e w' ⟨rfl,⟨nd,rfl⟩⟩;(try first|exact ⟨rfl,_,World.drewN_drewN _ _ _⟩|exact ⟨rfl,_,Eq.trans (World.drewN_drewN _ _ _) (congrArg (World.drewN _) (Nat.add_assoc _ _ _))⟩))|(go_at_call 35;(with_reducible refine (bosunref13_Name.calls k1 ((rd_T67 l0_1 x3_1).f1) t178 _ A16.out).mono ?_);rintro e w19 ⟨rfl,hb⟩;have n0_:=Aside0.mk (blk_below (g:=gb174) (o:=.cells #[.int .u32 a0_0,.slice (some ad175) l0_1.length c0_1] 30 (0,0)) (by (with_reducible repeat (first|apply blk_drewN|apply blk_drew|apply blk_alloc));refine blk_far ?_ NB174_176.out _;(with_reducible repeat (first|apply blk_drewN|apply blk_drew|apply blk_alloc));refine blk_far ?_ NB174_176.out _;(with_reducible repeat (first|apply blk_drewN|apply blk_drew|apply blk_alloc));refine blk_far ?_ NB174_176.out _;(with_reducible repeat (first|apply blk_drewN|apply blk_drew|apply blk_alloc));refine blk_far ?_ NB174_176.out _;(with_reducible repeat (first|apply blk_drewN|apply blk_drew|apply blk_alloc));exact BK174.out) hb);have n1_:=Aside0.mk (blk_below (g:=gb176) (o:=.cells #[.string ((rd_T67 l0_1 x3_1).f0),.string ((rd_T67 l0_1 x3_1).f1),.string ((rd_T67 l0_1 x3_1).f2),.int .u8 ((rd_T67 l0_1 x3_1).f3)] 67 (0,0)) (by (with_reducible repeat (first|apply blk_drewN|apply blk_drew|apply blk_alloc));refine blk_put (cs:=#[.string ((rd_T67 l0_1 x3_1).f0),.string ((rd_T67 l0_1 x3_1).f1),.string ((rd_T67 l0_1 x3_1).f2),.int .u8 0]) ?_ 3 _ rfl;(with_reducible repeat (first|apply blk_drewN|apply blk_drew|apply blk_alloc));refine blk_put (cs:=#[.string ((rd_T67 l0_1 x3_1).f0),.string ((rd_T67 l0_1 x3_1).f1),.string (⟨#[]⟩ : ByteArray),.int .u8 0]) ?_ 2 _ rfl;(with_reducible repeat (first|apply blk_drewN|apply blk_drew|apply blk_alloc));refine blk_put (cs:=#[.string ((rd_T67 l0_1 x3_1).f0),.string (⟨#[]⟩ : ByteArray),.string (⟨#[]⟩ : ByteArray),.int .u8 0]) ?_ 1 _ rfl;(with_reducible repeat (first|apply blk_drewN|apply blk_drew|apply blk_alloc));refine blk_put (cs:=#[.string (⟨#[]⟩ : ByteArray),.string (⟨#[]⟩ : ByteArray),.string (⟨#[]⟩ : ByteArray),.int .u8 0]) ?_ 0 _ rfl;(with_reducible repeat (first|apply blk_drewN|apply blk_drew|apply blk_alloc));exact BK176.out) hb);have n2_:=Aside0.mk (below_step (by repeat (first|(with_reducible first|exact HB.out|apply below_alloc|apply pw_below_drewN|apply below_drew1|refine below_set ?_ GE174.out|refine below_set ?_ GE176.out)|exact HB.out)) hb);clear BK174;clear BK176;clear HB;have BK174:=n0_;have BK176:=n1_;have HB:=n2_;clear n0_ n1_ n2_;(try clear hb);(try clear hb2);(try clear hk);(try clear hi))))
        go_meet
        case rel=>exact ⟨_,(!t178),(by first|rfl|(simp;done)|(simp [*];done)),H',⟨by have:=HK1.out;first|omega|exact Nat.le_refl _⟩,⟨by (with_reducible repeat (first|apply blk_drewN|apply blk_drew|apply blk_alloc));exact BK174.out⟩,⟨by (with_reducible repeat (first|apply blk_drewN|apply blk_drew|apply blk_alloc));exact BK176.out⟩,⟨by repeat (first|(with_reducible first|exact HB.out|apply below_alloc|apply pw_below_drewN|apply below_drew1|refine below_set ?_ GE174.out|refine below_set ?_ GE176.out)|exact HB.out)⟩⟩
       ·replace c15:=Bool.eq_false_iff.mpr c15
        subst c15
        have H1 : (bosunref17_Check.j1 k1 x3_1 true a0_0 l0_1 ((rd_T67 l0_1 x3_1).f0) ((rd_T67 l0_1 x3_1).f1) ((rd_T67 l0_1 x3_1).f2) ((rd_T67 l0_1 x3_1).f3)) = some r:=by rw [if_neg (show ¬ (false = true) by decide)] at H;exact H
        clear H
        have H:=H1
        clear H1
        have H':=Aside0.mk H
        clear H
        have hnb20:=NB176_174.out
        have hnc20:=NB174_176.out
        have hcz21_0 : w11.cell? ⟨gb176,0,none⟩ = some (.string (⟨#[]⟩ : ByteArray)):=(blk_cell BK176.out 0).trans rfl
        have hcz21_1 : w11.cell? ⟨gb176,1,none⟩ = some (.string (⟨#[]⟩ : ByteArray)):=(blk_cell BK176.out 1).trans rfl
        have hcz21_2 : w11.cell? ⟨gb176,2,none⟩ = some (.string (⟨#[]⟩ : ByteArray)):=(blk_cell BK176.out 2).trans rfl
        have hcz21_3 : w11.cell? ⟨gb176,3,none⟩ = some (.int .u8 0):=(blk_cell BK176.out 3).trans rfl
        have hfz21_0:=blk_frozen BK176.out 0
        have hfz21_1:=blk_frozen BK176.out 1
        have hfz21_2:=blk_frozen BK176.out 2
        have hfz21_3:=blk_frozen BK176.out 3
        go_wp2_with (first|(go_at_call 19;(with_reducible refine (bosunref04_Name.calls k1 ((rd_T67 l0_1 x3_1).f0) false _ A14.out).mono ?_);rintro e w' ⟨rfl,⟨nd,rfl⟩⟩;(try first|exact ⟨rfl,_,World.drewN_drewN _ _ _⟩|exact ⟨rfl,_,Eq.trans (World.drewN_drewN _ _ _) (congrArg (World.drewN _) (Nat.add_assoc _ _ _))⟩)))
        repeat (go_quiet (first|(go_at_call 19;(with_reducible refine (bosunref04_Name.calls k1 ((rd_T67 l0_1 x3_1).f0) false _ A14.out).mono ?_);rintro e w' ⟨rfl,⟨nd,rfl⟩⟩;(try first|exact ⟨rfl,_,World.drewN_drewN _ _ _⟩|exact ⟨rfl,_,Eq.trans (World.drewN_drewN _ _ _) (congrArg (World.drewN _) (Nat.add_assoc _ _ _))⟩)));try go_wp2_with (first|(go_at_call 19;(with_reducible refine (bosunref04_Name.calls k1 ((rd_T67 l0_1 x3_1).f0) false _ A14.out).mono ?_);rintro e w' ⟨rfl,⟨nd,rfl⟩⟩;(try first|exact ⟨rfl,_,World.drewN_drewN _ _ _⟩|exact ⟨rfl,_,Eq.trans (World.drewN_drewN _ _ _) (congrArg (World.drewN _) (Nat.add_assoc _ _ _))⟩))))
        go_meet
        case rel=>exact ⟨_,(true),(by first|rfl|(simp;done)|(simp [*];done)),H',⟨by have:=HK1.out;first|omega|exact Nat.le_refl _⟩,⟨by (with_reducible repeat (first|apply blk_drewN|apply blk_drew|apply blk_alloc));refine blk_far ?_ NB174_176.out _;(with_reducible repeat (first|apply blk_drewN|apply blk_drew|apply blk_alloc));refine blk_far ?_ NB174_176.out _;(with_reducible repeat (first|apply blk_drewN|apply blk_drew|apply blk_alloc));refine blk_far ?_ NB174_176.out _;(with_reducible repeat (first|apply blk_drewN|apply blk_drew|apply blk_alloc));refine blk_far ?_ NB174_176.out _;(with_reducible repeat (first|apply blk_drewN|apply blk_drew|apply blk_alloc));exact BK174.out⟩,⟨by (with_reducible repeat (first|apply blk_drewN|apply blk_drew|apply blk_alloc));refine blk_put (cs:=#[.string ((rd_T67 l0_1 x3_1).f0),.string ((rd_T67 l0_1 x3_1).f1),.string ((rd_T67 l0_1 x3_1).f2),.int .u8 0]) ?_ 3 _ rfl;(with_reducible repeat (first|apply blk_drewN|apply blk_drew|apply blk_alloc));refine blk_put (cs:=#[.string ((rd_T67 l0_1 x3_1).f0),.string ((rd_T67 l0_1 x3_1).f1),.string (⟨#[]⟩ : ByteArray),.int .u8 0]) ?_ 2 _ rfl;(with_reducible repeat (first|apply blk_drewN|apply blk_drew|apply blk_alloc));refine blk_put (cs:=#[.string ((rd_T67 l0_1 x3_1).f0),.string (⟨#[]⟩ : ByteArray),.string (⟨#[]⟩ : ByteArray),.int .u8 0]) ?_ 1 _ rfl;(with_reducible repeat (first|apply blk_drewN|apply blk_drew|apply blk_alloc));refine blk_put (cs:=#[.string (⟨#[]⟩ : ByteArray),.string (⟨#[]⟩ : ByteArray),.string (⟨#[]⟩ : ByteArray),.int .u8 0]) ?_ 0 _ rfl;(with_reducible repeat (first|apply blk_drewN|apply blk_drew|apply blk_alloc));exact BK176.out⟩,⟨by repeat (first|(with_reducible first|exact HB.out|apply below_alloc|apply pw_below_drewN|apply below_drew1|refine below_set ?_ GE174.out|refine below_set ?_ GE176.out)|exact HB.out)⟩⟩
      case rest =>
       clear HC9
       try clear c1
       try clear p1
       try clear q1
       try clear hx1
       try clear c2
       try clear c2b0
       try clear c2b1
       try clear p2
       try clear c7
       try clear c7b0
       try clear c8
       try clear c8b0
       try clear c12
       try clear c15
       try clear c17
       try clear p17
       try clear q17
       try clear hx17
       try clear c20
       try clear hcz10_0
       try clear hcz10_1
       try clear hcz13_0
       try clear hcz13_1
       try clear hcz13_2
       try clear hcz13_3
       try clear hcz18_0
       try clear hcz18_1
       try clear hcz18_2
       try clear hcz18_3
       try clear hcz21_0
       try clear hcz21_1
       try clear hcz21_2
       try clear hcz21_3
       try clear hcz4_0
       try clear hcz4_1
       try clear hcz6_0
       try clear hcz6_1
       try clear hfz10_0
       try clear hfz10_1
       try clear hfz13_0
       try clear hfz13_1
       try clear hfz13_2
       try clear hfz13_3
       try clear hfz18_0
       try clear hfz18_1
       try clear hfz18_2
       try clear hfz18_3
       try clear hfz21_0
       try clear hfz21_1
       try clear hfz21_2
       try clear hfz21_3
       try clear hfz4_0
       try clear hfz4_1
       try clear hfz6_0
       try clear hfz6_1
       try clear hx175_0
       try clear hx175_1
       try clear hx175_2
       try clear hx175_3
       try clear p175
       try clear p2
       try clear q175
       obtain ⟨kq,x30_8,rfl,HA,HJ8,BK174,BK176,HB⟩:=hcut
       cases kq with
       | zero=>exact absurd HA.out (by simp [bosunref17_Check.j1])
       | succ kj8 =>
        have H:=HA.out
        clear HA
        simp only [bosunref17_Check.j1] at H
        by_cases c22 : x30_8 = true
        ·subst c22
         have H1 : (some 13) = some r:=by rw [if_pos rfl] at H;exact H
         clear H
         have H:=H1
         clear H1
         obtain rfl:=Option.some.inj H
         go_wp2
         repeat (go_quiet (fail);try go_wp2)
         go_ret
         exact ⟨by first|rfl|(simp [errW_none,errW_some] <;> rfl)|(simp [*,errW_none,errW_some] <;> rfl),by repeat (first|(with_reducible first|exact HB.out|apply below_alloc|apply pw_below_drewN|apply below_drew1|refine below_set ?_ GE174.out|refine below_set ?_ GE176.out)|exact HB.out)⟩
        ·replace c22:=Bool.eq_false_iff.mpr c22
         subst c22
         have H1 : ((bosunref13_Image.f kj8 ((rd_T67 l0_1 x3_1).f2)).bind fun t179=>(if t179 = true then (if x3_1 > 0 then (if 0 ≤ (wrap64 (x3_1 - 1)) then (if (wrap64 (x3_1 - 1)) < (l0_1.length : Int) then (bosunref17_Check.j2 kj8 x3_1 (!(Op.bytesLess (((rd_T67 l0_1 (wrap64 (x3_1 - 1))).f0).toList) ((rd_T67 l0_1 x3_1).f0).toList)) a0_0 l0_1 ((rd_T67 l0_1 x3_1).f0) ((rd_T67 l0_1 x3_1).f1) ((rd_T67 l0_1 x3_1).f2) ((rd_T67 l0_1 x3_1).f3)) else (none)) else (none)) else (bosunref17_Check.j2 kj8 x3_1 false a0_0 l0_1 ((rd_T67 l0_1 x3_1).f0) ((rd_T67 l0_1 x3_1).f1) ((rd_T67 l0_1 x3_1).f2) ((rd_T67 l0_1 x3_1).f3))) else (bosunref17_Check.j2 kj8 x3_1 true a0_0 l0_1 ((rd_T67 l0_1 x3_1).f0) ((rd_T67 l0_1 x3_1).f1) ((rd_T67 l0_1 x3_1).f2) ((rd_T67 l0_1 x3_1).f3)))) = some r:=by rw [if_neg (show ¬ (false = true) by decide)] at H;exact H
         clear H
         have H:=H1
         clear H1
         have HC23:=Aside0.mk H
         clear H
         go_upto_region 9 with (fail)
         repeat (go_quiet (fail);go_upto_region 9 with (fail))
         go_cut [50] (fun v50 wc=>∃ (kq : Nat) (x50_22 : Bool),v50 = .bool x50_22 ∧ Aside0 (bosunref17_Check.j2 kq x3_1 x50_22 a0_0 l0_1 ((rd_T67 l0_1 x3_1).f0) ((rd_T67 l0_1 x3_1).f1) ((rd_T67 l0_1 x3_1).f2) ((rd_T67 l0_1 x3_1).f3) = some r) ∧ Aside0 (kq ≤ kj8) ∧ Aside0 (wc.heap[gb174]? = some (.cells #[.int .u32 a0_0,(.slice (some ad175) l0_1.length c0_1)] 30 (0,0))) ∧ Aside0 (wc.heap[gb176]? = some (.cells #[.string ((rd_T67 l0_1 x3_1).f0),.string ((rd_T67 l0_1 x3_1).f1),.string ((rd_T67 l0_1 x3_1).f2),.int .u8 ((rd_T67 l0_1 x3_1).f3)] 67 (0,0))) ∧ Aside0 (Below w.heap.size w wc))
         case first =>
          have H:=HC23.out
          clear HC23
          replace H:=Option.bind_eq_some_iff.mp H
          obtain ⟨t179,A240,H⟩:=H
          replace H : (if t179 = true then (if x3_1 > 0 then (if 0 ≤ (wrap64 (x3_1 - 1)) then (if (wrap64 (x3_1 - 1)) < (l0_1.length : Int) then (bosunref17_Check.j2 kj8 x3_1 (!(Op.bytesLess (((rd_T67 l0_1 (wrap64 (x3_1 - 1))).f0).toList) ((rd_T67 l0_1 x3_1).f0).toList)) a0_0 l0_1 ((rd_T67 l0_1 x3_1).f0) ((rd_T67 l0_1 x3_1).f1) ((rd_T67 l0_1 x3_1).f2) ((rd_T67 l0_1 x3_1).f3)) else (none)) else (none)) else (bosunref17_Check.j2 kj8 x3_1 false a0_0 l0_1 ((rd_T67 l0_1 x3_1).f0) ((rd_T67 l0_1 x3_1).f1) ((rd_T67 l0_1 x3_1).f2) ((rd_T67 l0_1 x3_1).f3))) else (bosunref17_Check.j2 kj8 x3_1 true a0_0 l0_1 ((rd_T67 l0_1 x3_1).f0) ((rd_T67 l0_1 x3_1).f1) ((rd_T67 l0_1 x3_1).f2) ((rd_T67 l0_1 x3_1).f3))) = some r:=H
          have A24:=Aside0.mk A240
          clear A240
          by_cases c25 : t179 = true
          ·subst c25
           have H1 : (if x3_1 > 0 then (if 0 ≤ (wrap64 (x3_1 - 1)) then (if (wrap64 (x3_1 - 1)) < (l0_1.length : Int) then (bosunref17_Check.j2 kj8 x3_1 (!(Op.bytesLess (((rd_T67 l0_1 (wrap64 (x3_1 - 1))).f0).toList) ((rd_T67 l0_1 x3_1).f0).toList)) a0_0 l0_1 ((rd_T67 l0_1 x3_1).f0) ((rd_T67 l0_1 x3_1).f1) ((rd_T67 l0_1 x3_1).f2) ((rd_T67 l0_1 x3_1).f3)) else (none)) else (none)) else (bosunref17_Check.j2 kj8 x3_1 false a0_0 l0_1 ((rd_T67 l0_1 x3_1).f0) ((rd_T67 l0_1 x3_1).f1) ((rd_T67 l0_1 x3_1).f2) ((rd_T67 l0_1 x3_1).f3))) = some r:=by rw [if_pos rfl] at H;exact H
           clear H
           have H:=H1
           clear H1
           by_cases c26 : x3_1 > 0
           ·rw [if_pos c26] at H
            have c26b0 : decide (0 < x3_1) = true:=decide_eq_true c26
            clear c26
            (first|rw [c26b0]|(simp only [i64_w,i32_w];rw [c26b0])|skip)
            obtain ⟨ji27,hji27⟩ : ∃ j_ : Int,(wrap64 (x3_1 - 1)) = j_:=⟨_,rfl⟩
            replace H : (if 0 ≤ (ji27) then (if (ji27) < (l0_1.length : Int) then (bosunref17_Check.j2 kj8 x3_1 (!(Op.bytesLess (((rd_T67 l0_1 (ji27)).f0).toList) ((rd_T67 l0_1 x3_1).f0).toList)) a0_0 l0_1 ((rd_T67 l0_1 x3_1).f0) ((rd_T67 l0_1 x3_1).f1) ((rd_T67 l0_1 x3_1).f2) ((rd_T67 l0_1 x3_1).f3)) else (none)) else (none)) = some r:=by first|(rw [hji27] at H;exact H)|(simp only [hji27] at H ⊢;exact H)
            (try rw [hji27] at A24)
            have hji27w : (IntKind.i64.wrap (x3_1 - 1)) = ji27:=(i64_w _).trans hji27
            by_cases c28 : 0 ≤ (ji27)
            ·rw [if_pos c28] at H
             have c28b0 : decide (0 ≤ (ji27)) = true:=decide_eq_true c28
             clear c28
             by_cases c29 : (ji27) < (l0_1.length : Int)
             ·rw [if_pos c29] at H
              have c29b0 : decide ((ji27) < (l0_1.length : Int)) = true:=decide_eq_true c29
              clear c29
              have H':=Aside0.mk H
              clear H
              have hnb30:=NB176_174.out
              have hnc30:=NB174_176.out
              have hcz31_0 : wc.cell? ⟨gb176,0,none⟩ = some (.string ((rd_T67 l0_1 x3_1).f0)):=(blk_cell BK176.out 0).trans rfl
              have hcz31_1 : wc.cell? ⟨gb176,1,none⟩ = some (.string ((rd_T67 l0_1 x3_1).f1)):=(blk_cell BK176.out 1).trans rfl
              have hcz31_2 : wc.cell? ⟨gb176,2,none⟩ = some (.string ((rd_T67 l0_1 x3_1).f2)):=(blk_cell BK176.out 2).trans rfl
              have hcz31_3 : wc.cell? ⟨gb176,3,none⟩ = some (.int .u8 ((rd_T67 l0_1 x3_1).f3)):=(blk_cell BK176.out 3).trans rfl
              have hfz31_0:=blk_frozen BK176.out 0
              have hfz31_1:=blk_frozen BK176.out 1
              have hfz31_2:=blk_frozen BK176.out 2
              have hfz31_3:=blk_frozen BK176.out 3
              have hcz32_0 : wc.cell? ⟨gb174,0,none⟩ = some (.int .u32 a0_0):=(blk_cell BK174.out 0).trans rfl
              have hcz32_1 : wc.cell? ⟨gb174,1,none⟩ = some (.slice (some ad175) l0_1.length c0_1):=(blk_cell BK174.out 1).trans rfl
              have hfz32_0:=blk_frozen BK174.out 0
              have hfz32_1:=blk_frozen BK174.out 1
              have p180 : 0 ≤ ((ji27) : Int):=of_decide_eq_true (by first|(with_reducible assumption)|assumption)
              have q180 : (ji27) < (l0_1.length : Int):=of_decide_eq_true (by first|(with_reducible assumption)|assumption)
              obtain ⟨ad180,e180,hx180_0,hx180_1,hx180_2,hx180_3⟩:=at_T67 HR0_1.out (ji27) p180 q180
              obtain rfl : ad175 = ad180:=(by injection e180)
              replace hx180_0:=(HB.out.cell (World.block_lt_of_cell? w _ hx180_0)).trans hx180_0
              replace hx180_1:=(HB.out.cell (World.block_lt_of_cell? w _ hx180_1)).trans hx180_1
              replace hx180_2:=(HB.out.cell (World.block_lt_of_cell? w _ hx180_2)).trans hx180_2
              replace hx180_3:=(HB.out.cell (World.block_lt_of_cell? w _ hx180_3)).trans hx180_3
              replace p180:=eq_true p180
              replace q180:=eq_true q180
              go_wp2_with (first|(go_at_call 36;(with_reducible refine (bosunref13_Image.calls kj8 ((rd_T67 l0_1 x3_1).f2) true _ A24.out).mono ?_);rintro e w' ⟨rfl,⟨nd,rfl⟩⟩;(try first|exact ⟨rfl,_,World.drewN_drewN _ _ _⟩|exact ⟨rfl,_,Eq.trans (World.drewN_drewN _ _ _) (congrArg (World.drewN _) (Nat.add_assoc _ _ _))⟩)))
              repeat (go_quiet (first|(go_at_call 36;(with_reducible refine (bosunref13_Image.calls kj8 ((rd_T67 l0_1 x3_1).f2) true _ A24.out).mono ?_);rintro e w' ⟨rfl,⟨nd,rfl⟩⟩;(try first|exact ⟨rfl,_,World.drewN_drewN _ _ _⟩|exact ⟨rfl,_,Eq.trans (World.drewN_drewN _ _ _) (congrArg (World.drewN _) (Nat.add_assoc _ _ _))⟩)));try go_wp2_with (first|(go_at_call 36;(with_reducible refine (bosunref13_Image.calls kj8 ((rd_T67 l0_1 x3_1).f2) true _ A24.out).mono ?_);rintro e w' ⟨rfl,⟨nd,rfl⟩⟩;(try first|exact ⟨rfl,_,World.drewN_drewN _ _ _⟩|exact ⟨rfl,_,Eq.trans (World.drewN_drewN _ _ _) (congrArg (World.drewN _) (Nat.add_assoc _ _ _))⟩))))
              go_meet
              case rel=>exact ⟨_,(!(Op.bytesLess (((rd_T67 l0_1 (ji27)).f0).toList) ((rd_T67 l0_1 x3_1).f0).toList)),(by first|rfl|(simp;done)|(simp only [← hji27] <;> (first|rfl|simp))|(simp [*];done)),H',⟨by have:=HK1.out;have:=HJ8.out;first|omega|exact Nat.le_refl _⟩,⟨by (with_reducible repeat (first|apply blk_drewN|apply blk_drew|apply blk_alloc));exact BK174.out⟩,⟨by (with_reducible repeat (first|apply blk_drewN|apply blk_drew|apply blk_alloc));exact BK176.out⟩,⟨by repeat (first|(with_reducible first|exact HB.out|apply below_alloc|apply pw_below_drewN|apply below_drew1|refine below_set ?_ GE174.out|refine below_set ?_ GE176.out)|exact HB.out)⟩⟩
             ·rw [if_neg c29] at H
              exact absurd H (by simp)
            ·rw [if_neg c28] at H
             exact absurd H (by simp)
           ·rw [if_neg c26] at H
            have c26b0 : decide (0 < x3_1) = false:=decide_eq_false c26
            clear c26
            (first|rw [c26b0]|(simp only [i64_w,i32_w];rw [c26b0])|skip)
            have H':=Aside0.mk H
            clear H
            have hnb33:=NB176_174.out
            have hnc33:=NB174_176.out
            have hcz34_0 : wc.cell? ⟨gb176,0,none⟩ = some (.string ((rd_T67 l0_1 x3_1).f0)):=(blk_cell BK176.out 0).trans rfl
            have hcz34_1 : wc.cell? ⟨gb176,1,none⟩ = some (.string ((rd_T67 l0_1 x3_1).f1)):=(blk_cell BK176.out 1).trans rfl
            have hcz34_2 : wc.cell? ⟨gb176,2,none⟩ = some (.string ((rd_T67 l0_1 x3_1).f2)):=(blk_cell BK176.out 2).trans rfl
            have hcz34_3 : wc.cell? ⟨gb176,3,none⟩ = some (.int .u8 ((rd_T67 l0_1 x3_1).f3)):=(blk_cell BK176.out 3).trans rfl
            have hfz34_0:=blk_frozen BK176.out 0
            have hfz34_1:=blk_frozen BK176.out 1
            have hfz34_2:=blk_frozen BK176.out 2
            have hfz34_3:=blk_frozen BK176.out 3
            go_wp2_with (first|(go_at_call 36;(with_reducible refine (bosunref13_Image.calls kj8 ((rd_T67 l0_1 x3_1).f2) true _ A24.out).mono ?_);rintro e w' ⟨rfl,⟨nd,rfl⟩⟩;(try first|exact ⟨rfl,_,World.drewN_drewN _ _ _⟩|exact ⟨rfl,_,Eq.trans (World.drewN_drewN _ _ _) (congrArg (World.drewN _) (Nat.add_assoc _ _ _))⟩)))
            repeat (go_quiet (first|(go_at_call 36;(with_reducible refine (bosunref13_Image.calls kj8 ((rd_T67 l0_1 x3_1).f2) true _ A24.out).mono ?_);rintro e w' ⟨rfl,⟨nd,rfl⟩⟩;(try first|exact ⟨rfl,_,World.drewN_drewN _ _ _⟩|exact ⟨rfl,_,Eq.trans (World.drewN_drewN _ _ _) (congrArg (World.drewN _) (Nat.add_assoc _ _ _))⟩)));try go_wp2_with (first|(go_at_call 36;(with_reducible refine (bosunref13_Image.calls kj8 ((rd_T67 l0_1 x3_1).f2) true _ A24.out).mono ?_);rintro e w' ⟨rfl,⟨nd,rfl⟩⟩;(try first|exact ⟨rfl,_,World.drewN_drewN _ _ _⟩|exact ⟨rfl,_,Eq.trans (World.drewN_drewN _ _ _) (congrArg (World.drewN _) (Nat.add_assoc _ _ _))⟩))))
            go_meet
            case rel=>exact ⟨_,(false),(by first|rfl|(simp;done)|(simp [*];done)),H',⟨by have:=HK1.out;have:=HJ8.out;first|omega|exact Nat.le_refl _⟩,⟨by (with_reducible repeat (first|apply blk_drewN|apply blk_drew|apply blk_alloc));exact BK174.out⟩,⟨by (with_reducible repeat (first|apply blk_drewN|apply blk_drew|apply blk_alloc));exact BK176.out⟩,⟨by repeat (first|(with_reducible first|exact HB.out|apply below_alloc|apply pw_below_drewN|apply below_drew1|refine below_set ?_ GE174.out|refine below_set ?_ GE176.out)|exact HB.out)⟩⟩
          ·replace c25:=Bool.eq_false_iff.mpr c25
           subst c25
           have H1 : (bosunref17_Check.j2 kj8 x3_1 true a0_0 l0_1 ((rd_T67 l0_1 x3_1).f0) ((rd_T67 l0_1 x3_1).f1) ((rd_T67 l0_1 x3_1).f2) ((rd_T67 l0_1 x3_1).f3)) = some r:=by rw [if_neg (show ¬ (false = true) by decide)] at H;exact H
           clear H
           have H:=H1
           clear H1
           have H':=Aside0.mk H
           clear H
           have hnb35:=NB176_174.out
           have hnc35:=NB174_176.out
           have hcz36_0 : wc.cell? ⟨gb176,0,none⟩ = some (.string ((rd_T67 l0_1 x3_1).f0)):=(blk_cell BK176.out 0).trans rfl
           have hcz36_1 : wc.cell? ⟨gb176,1,none⟩ = some (.string ((rd_T67 l0_1 x3_1).f1)):=(blk_cell BK176.out 1).trans rfl
           have hcz36_2 : wc.cell? ⟨gb176,2,none⟩ = some (.string ((rd_T67 l0_1 x3_1).f2)):=(blk_cell BK176.out 2).trans rfl
           have hcz36_3 : wc.cell? ⟨gb176,3,none⟩ = some (.int .u8 ((rd_T67 l0_1 x3_1).f3)):=(blk_cell BK176.out 3).trans rfl
           have hfz36_0:=blk_frozen BK176.out 0
           have hfz36_1:=blk_frozen BK176.out 1
           have hfz36_2:=blk_frozen BK176.out 2
           have hfz36_3:=blk_frozen BK176.out 3
           go_wp2_with (first|(go_at_call 36;(with_reducible refine (bosunref13_Image.calls kj8 ((rd_T67 l0_1 x3_1).f2) false _ A24.out).mono ?_);rintro e w' ⟨rfl,⟨nd,rfl⟩⟩;(try first|exact ⟨rfl,_,World.drewN_drewN _ _ _⟩|exact ⟨rfl,_,Eq.trans (World.drewN_drewN _ _ _) (congrArg (World.drewN _) (Nat.add_assoc _ _ _))⟩)))
           repeat (go_quiet (first|(go_at_call 36;(with_reducible refine (bosunref13_Image.calls kj8 ((rd_T67 l0_1 x3_1).f2) false _ A24.out).mono ?_);rintro e w' ⟨rfl,⟨nd,rfl⟩⟩;(try first|exact ⟨rfl,_,World.drewN_drewN _ _ _⟩|exact ⟨rfl,_,Eq.trans (World.drewN_drewN _ _ _) (congrArg (World.drewN _) (Nat.add_assoc _ _ _))⟩)));try go_wp2_with (first|(go_at_call 36;(with_reducible refine (bosunref13_Image.calls kj8 ((rd_T67 l0_1 x3_1).f2) false _ A24.out).mono ?_);rintro e w' ⟨rfl,⟨nd,rfl⟩⟩;(try first|exact ⟨rfl,_,World.drewN_drewN _ _ _⟩|exact ⟨rfl,_,Eq.trans (World.drewN_drewN _ _ _) (congrArg (World.drewN _) (Nat.add_assoc _ _ _))⟩))))
           go_meet
           case rel=>exact ⟨_,(true),(by first|rfl|(simp;done)|(simp [*];done)),H',⟨by have:=HK1.out;have:=HJ8.out;first|omega|exact Nat.le_refl _⟩,⟨by (with_reducible repeat (first|apply blk_drewN|apply blk_drew|apply blk_alloc));exact BK174.out⟩,⟨by (with_reducible repeat (first|apply blk_drewN|apply blk_drew|apply blk_alloc));exact BK176.out⟩,⟨by repeat (first|(with_reducible first|exact HB.out|apply below_alloc|apply pw_below_drewN|apply below_drew1|refine below_set ?_ GE174.out|refine below_set ?_ GE176.out)|exact HB.out)⟩⟩
         case rest =>
          clear HC23
          try clear c1
          try clear p1
          try clear q1
          try clear hx1
          try clear c2
          try clear c2b0
          try clear c2b1
          try clear p2
          try clear c3
          try clear p6
          try clear c7
          try clear c7b0
          try clear c8
          try clear c8b0
          try clear c12
          try clear c15
          try clear c17
          try clear p17
          try clear q17
          try clear hx17
          try clear p18
          try clear q18
          try clear hx18
          try clear c20
          try clear c22
          try clear c25
          try clear c26
          try clear c26b0
          try clear c28
          try clear c28b0
          try clear c29
          try clear c29b0
          try clear c30
          try clear c33
          try clear c35
          try clear hcz10_0
          try clear hcz10_1
          try clear hcz13_0
          try clear hcz13_1
          try clear hcz13_2
          try clear hcz13_3
          try clear hcz18_0
          try clear hcz18_1
          try clear hcz18_2
          try clear hcz18_3
          try clear hcz21_0
          try clear hcz21_1
          try clear hcz21_2
          try clear hcz21_3
          try clear hcz31_0
          try clear hcz31_1
          try clear hcz31_2
          try clear hcz31_3
          try clear hcz32_0
          try clear hcz32_1
          try clear hcz34_0
          try clear hcz34_1
          try clear hcz34_2
          try clear hcz34_3
          try clear hcz36_0
          try clear hcz36_1
          try clear hcz36_2
          try clear hcz36_3
          try clear hcz4_0
          try clear hcz4_1
          try clear hcz6_0
          try clear hcz6_1
          try clear hfz10_0
          try clear hfz10_1
          try clear hfz13_0
          try clear hfz13_1
          try clear hfz13_2
          try clear hfz13_3
          try clear hfz18_0
          try clear hfz18_1
          try clear hfz18_2
          try clear hfz18_3
          try clear hfz21_0
          try clear hfz21_1
          try clear hfz21_2
          try clear hfz21_3
          try clear hfz31_0
          try clear hfz31_1
          try clear hfz31_2
          try clear hfz31_3
          try clear hfz32_0
          try clear hfz32_1
          try clear hfz34_0
          try clear hfz34_1
          try clear hfz34_2
          try clear hfz34_3
          try clear hfz36_0
          try clear hfz36_1
          try clear hfz36_2
          try clear hfz36_3
          try clear hfz4_0
          try clear hfz4_1
          try clear hfz6_0
          try clear hfz6_1
          try clear hx175_0
          try clear hx175_1
          try clear hx175_2
          try clear hx175_3
          try clear hx180_0
          try clear hx180_1
          try clear hx180_2
          try clear hx180_3
          try clear p1
          try clear p17
          try clear p175
          try clear p180
          try clear p2
          try clear q1
          try clear q17
          try clear q175
          try clear q180
          obtain ⟨kq,x50_22,rfl,HA,HJ22,BK174,BK176,HB⟩:=hcut
          cases kq with
          | zero=>exact absurd HA.out (by simp [bosunref17_Check.j2])
          | succ kj22 =>
           have H:=HA.out
           clear HA
           simp only [bosunref17_Check.j2] at H
           by_cases c37 : x50_22 = true
           ·subst c37
            have H1 : (some 6) = some r:=by rw [if_pos rfl] at H;exact H
            clear H
            have H:=H1
            clear H1
            obtain rfl:=Option.some.inj H
            go_wp2
            repeat (go_quiet (fail);try go_wp2)
            go_ret
            exact ⟨by first|rfl|(simp [errW_none,errW_some] <;> rfl)|(simp [*,errW_none,errW_some] <;> rfl),by repeat (first|(with_reducible first|exact HB.out|apply below_alloc|apply pw_below_drewN|apply below_drew1|refine below_set ?_ GE174.out|refine below_set ?_ GE176.out)|exact HB.out)⟩
           ·replace c37:=Bool.eq_false_iff.mpr c37
            subst c37
            have H1 : (if ((rd_T67 l0_1 x3_1).f3) > 2 then (some 7) else (bosunref17_Check.l0 kj22 (wrap64 (x3_1 + 1)) a0_0 l0_1)) = some r:=by rw [if_neg (show ¬ (false = true) by decide)] at H;exact H
            clear H
            have H:=H1
            clear H1
            by_cases c38 : ((rd_T67 l0_1 x3_1).f3) > 2
            ·rw [if_pos c38] at H
             have c38b0 : decide (2 < ((rd_T67 l0_1 x3_1).f3)) = true:=decide_eq_true c38
             clear c38
             obtain rfl:=Option.some.inj H
             have hnb39:=NB176_174.out
             have hnc39:=NB174_176.out
             have hcz40_0 : wc.cell? ⟨gb176,0,none⟩ = some (.string ((rd_T67 l0_1 x3_1).f0)):=(blk_cell BK176.out 0).trans rfl
             have hcz40_1 : wc.cell? ⟨gb176,1,none⟩ = some (.string ((rd_T67 l0_1 x3_1).f1)):=(blk_cell BK176.out 1).trans rfl
             have hcz40_2 : wc.cell? ⟨gb176,2,none⟩ = some (.string ((rd_T67 l0_1 x3_1).f2)):=(blk_cell BK176.out 2).trans rfl
             have hcz40_3 : wc.cell? ⟨gb176,3,none⟩ = some (.int .u8 ((rd_T67 l0_1 x3_1).f3)):=(blk_cell BK176.out 3).trans rfl
             have hfz40_0:=blk_frozen BK176.out 0
             have hfz40_1:=blk_frozen BK176.out 1
             have hfz40_2:=blk_frozen BK176.out 2
             have hfz40_3:=blk_frozen BK176.out 3
             go_wp2
             repeat (go_quiet (fail);try go_wp2)
             go_ret
             exact ⟨by first|rfl|(simp [errW_none,errW_some] <;> rfl)|(simp [*,errW_none,errW_some] <;> rfl),by repeat (first|(with_reducible first|exact HB.out|apply below_alloc|apply pw_below_drewN|apply below_drew1|refine below_set ?_ GE174.out|refine below_set ?_ GE176.out)|exact HB.out)⟩
            ·rw [if_neg c38] at H
             have c38b0 : decide (2 < ((rd_T67 l0_1 x3_1).f3)) = false:=decide_eq_false c38
             clear c38
             have H':=Aside0.mk H
             clear H
             have hnb41:=NB176_174.out
             have hnc41:=NB174_176.out
             have hcz42_0 : wc.cell? ⟨gb176,0,none⟩ = some (.string ((rd_T67 l0_1 x3_1).f0)):=(blk_cell BK176.out 0).trans rfl
             have hcz42_1 : wc.cell? ⟨gb176,1,none⟩ = some (.string ((rd_T67 l0_1 x3_1).f1)):=(blk_cell BK176.out 1).trans rfl
             have hcz42_2 : wc.cell? ⟨gb176,2,none⟩ = some (.string ((rd_T67 l0_1 x3_1).f2)):=(blk_cell BK176.out 2).trans rfl
             have hcz42_3 : wc.cell? ⟨gb176,3,none⟩ = some (.int .u8 ((rd_T67 l0_1 x3_1).f3)):=(blk_cell BK176.out 3).trans rfl
             have hfz42_0:=blk_frozen BK176.out 0
             have hfz42_1:=blk_frozen BK176.out 1
             have hfz42_2:=blk_frozen BK176.out 2
             have hfz42_3:=blk_frozen BK176.out 3
             go_wp2
             repeat (go_quiet (fail);try go_wp2)
             go_roundg kj22
             case measure=>have:=HK1.out;have:=HJ8.out;have:=HJ22.out;omega
             case rel=>exact ⟨(wrap64 (x3_1 + 1)),(by first|rfl|(simp;done)|(simp [*];done)),H',⟨by have:=HK1.out;have:=HJ8.out;have:=HJ22.out;omega⟩,⟨by (with_reducible repeat (first|apply blk_drewN|apply blk_drew|apply blk_alloc));exact BK174.out⟩,⟨by repeat (first|(with_reducible first|exact HB.out|apply below_alloc|apply pw_below_drewN|apply below_drew1|refine below_set ?_ GE174.out|refine below_set ?_ GE176.out)|exact HB.out)⟩⟩
     ·rw [if_neg c8] at H
      exact absurd H (by simp)
    ·rw [if_neg c7] at H
     have c7b0 : decide (x3_1 < (l0_1.length : Int)) = false:=decide_eq_false c7
     clear c7
     obtain rfl:=Option.some.inj H
     have hcz43_0 : wr.cell? ⟨gb174,0,none⟩ = some (.int .u32 a0_0):=(blk_cell BK174.out 0).trans rfl
     have hcz43_1 : wr.cell? ⟨gb174,1,none⟩ = some (.slice A0_1 l0_1.length c0_1):=(blk_cell BK174.out 1).trans rfl
     have hfz43_0:=blk_frozen BK174.out 0
     have hfz43_1:=blk_frozen BK174.out 1
     go_wp2
     repeat (go_quiet (fail);try go_wp2)
     go_ret
     exact ⟨by first|rfl|(simp [errW_none,errW_some] <;> rfl)|(simp [*,errW_none,errW_some] <;> rfl),by repeat (first|(with_reducible first|exact HB.out|apply below_alloc|apply pw_below_drewN|apply below_drew1|refine below_set ?_ GE174.out)|exact HB.out)⟩

/-! ### bosunref02_Put: function 43 -/
mutual
def bosunref02_Put.j0 : Nat → Int → Int → Bool → Option (ByteArray)
 | 0,_,_,_=>none
 | k + 1,x0,x1,x20=>if x20 = true then (some (⟨#[]⟩ : ByteArray)) else (bosunref02_Put.l0 k x0 x1 (⟨#[]⟩ : ByteArray) 0)
def bosunref02_Put.l0 : Nat → Int → Int → ByteArray → Int → Option (ByteArray)
 | 0,_,_,_,_=>none
 | k + 1,x0,x1,x5,x6=>if x6 < x0 then ((some (([(Int.tmod x1 256) % 256] : List Int) : List Int)).bind fun y181=>(if (strOfNums y181).size + x5.size ≤ 9223372036854775807 then (bosunref02_Put.l0 k x0 (IntKind.u64.wrap (Int.tdiv x1 256)) ((strOfNums y181) ++ x5) (wrap64 (x6 + 1))) else (none))) else (some x5)
end
def bosunref02_Put.f (k : Nat) (a0 : Int) (a1 : Int) : Option (ByteArray):=if a0 = 1 then (bosunref02_Put.j0 k a0 a1 false) else (if a0 = 2 then (bosunref02_Put.j0 k a0 a1 false) else (if a0 = 4 then (bosunref02_Put.j0 k a0 a1 false) else (bosunref02_Put.j0 k a0 a1 (a0 != 8))))
theorem bosunref02_Put.mono_l : ∀ k,(∀ y0 y1 y2,LeO (bosunref02_Put.j0 k y0 y1 y2) (bosunref02_Put.j0 (k + 1) y0 y1 y2)) ∧ (∀ y0 y1 y2 y3,LeO (bosunref02_Put.l0 k y0 y1 y2 y3) (bosunref02_Put.l0 (k + 1) y0 y1 y2 y3))
 | 0=>⟨fun _ _ _ r h=>by simp [bosunref02_Put.j0] at h,fun _ _ _ _ r h=>by simp [bosunref02_Put.l0] at h⟩
 | k + 1=>by
  obtain ⟨ih0,ih1⟩:=bosunref02_Put.mono_l k
  refine ⟨?_,?_⟩
  ·intro y0 y1 y2
   unfold bosunref02_Put.j0
   repeat' first
   | (with_reducible exact ih0 _ _ _)
   | (with_reducible exact ih1 _ _ _ _)
   | (with_reducible exact LeO.refl _)
   | (with_reducible exact LeO.none _)
   | (with_reducible refine LeO.ite ?_ ?_)
   | (with_reducible refine LeO.bind ?_ (fun _=>?_))
   | exact ih0 _ _ _
   | exact ih1 _ _ _ _
   | exact LeO.none _
   | refine LeO.ite ?_ ?_
   | refine LeO.bind ?_ (fun _=>?_)
  ·intro y0 y1 y2 y3
   unfold bosunref02_Put.l0
   repeat' first
   | (with_reducible exact ih0 _ _ _)
   | (with_reducible exact ih1 _ _ _ _)
   | (with_reducible exact LeO.refl _)
   | (with_reducible exact LeO.none _)
   | (with_reducible refine LeO.ite ?_ ?_)
   | (with_reducible refine LeO.bind ?_ (fun _=>?_))
   | exact ih0 _ _ _
   | exact ih1 _ _ _ _
   | exact LeO.none _
   | refine LeO.ite ?_ ?_
   | refine LeO.bind ?_ (fun _=>?_)
theorem bosunref02_Put.mono : ∀ a0 a1 k,LeO (bosunref02_Put.f k a0 a1) (bosunref02_Put.f (k + 1) a0 a1):=by
 intro a0 a1 k
 obtain ⟨ih0,ih1⟩:=bosunref02_Put.mono_l k
 unfold bosunref02_Put.f
 repeat' first
   | (with_reducible exact ih0 _ _ _)
   | (with_reducible exact ih1 _ _ _ _)
   | (with_reducible exact LeO.refl _)
   | (with_reducible exact LeO.none _)
   | (with_reducible refine LeO.ite ?_ ?_)
   | (with_reducible refine LeO.bind ?_ (fun _=>?_))
   | exact ih0 _ _ _
   | exact ih1 _ _ _ _
   | exact LeO.none _
   | refine LeO.ite ?_ ?_
   | refine LeO.bind ?_ (fun _=>?_)
set_option maxHeartbeats 8000000 in
set_option maxRecDepth 100000 in
theorem bosunref02_Put.calls (k : Nat) (a0 : Int) (a1 : Int) (r : ByteArray) (w : World) (h : bosunref02_Put.f k a0 a1 = some r) :
  Calls Tryd.prog 43 #[.int .i64 a0,.int .u64 a1] w fun e w'=>e = .returned (.string r) ∧ Below w.heap.size w w':=by
 have HB:=Aside0.mk (Below.refl w.heap.size w)
 have H : (if a0 = 1 then (bosunref02_Put.j0 k a0 a1 false) else (if a0 = 2 then (bosunref02_Put.j0 k a0 a1 false) else (if a0 = 4 then (bosunref02_Put.j0 k a0 a1 false) else (bosunref02_Put.j0 k a0 a1 (a0 != 8))))) = some r:=h
 clear h
 have HC3:=Aside0.mk H
 clear H
 go_enter Tryd.func43,Tryd.ntmps43
 go_upto_region 1 with (fail)
 go_cut [20] (fun v20 wc=>∃ (kq : Nat) (x20_2 : Bool),v20 = .bool x20_2 ∧ Aside0 (bosunref02_Put.j0 kq a0 a1 x20_2 = some r) ∧ Aside0 (kq ≤ k) ∧ Aside0 (Below w.heap.size w wc))
 case first =>
  have H:=HC3.out
  clear HC3
  by_cases c4 : a0 = 1
  ·rw [if_pos c4] at H
   have c4b0 : (a0 == 1) = true:=beq_iff_eq.mpr c4
   have c4b1 : (a0 != 1) = false:=bne_eq_false_iff_eq.mpr c4
   clear c4
   (first|rw [c4b0]|(simp only [i64_w,i32_w];rw [c4b0])|skip)
   have H':=Aside0.mk H
   clear H
   go_wp2
   go_meet
   case rel=>exact ⟨_,(false),(by first|rfl|(simp;done)|(simp [*];done)),H',⟨by first|omega|exact Nat.le_refl _⟩,⟨by repeat (first|(with_reducible first|exact HB.out|apply below_alloc|apply pw_below_drewN|apply below_drew1)|exact HB.out)⟩⟩
  ·rw [if_neg c4] at H
   have c4b0 : (a0 == 1) = false:=beq_eq_false_iff_ne.mpr c4
   have c4b1 : (a0 != 1) = true:=bne_iff_ne.mpr c4
   (first|rw [c4b0]|(simp only [i64_w,i32_w];rw [c4b0])|skip)
   by_cases c5 : a0 = 2
   ·rw [if_pos c5] at H
    have c5b0 : (a0 == 2) = true:=beq_iff_eq.mpr c5
    have c5b1 : (a0 != 2) = false:=bne_eq_false_iff_eq.mpr c5
    clear c5
    have H':=Aside0.mk H
    clear H
    go_wp2
    go_meet
    case rel=>exact ⟨_,(false),(by first|rfl|(simp;done)|(simp [*];done)),H',⟨by first|omega|exact Nat.le_refl _⟩,⟨by repeat (first|(with_reducible first|exact HB.out|apply below_alloc|apply pw_below_drewN|apply below_drew1)|exact HB.out)⟩⟩
   ·rw [if_neg c5] at H
    have c5b0 : (a0 == 2) = false:=beq_eq_false_iff_ne.mpr c5
    have c5b1 : (a0 != 2) = true:=bne_iff_ne.mpr c5
    by_cases c6 : a0 = 4
    ·rw [if_pos c6] at H
     have c6b0 : (a0 == 4) = true:=beq_iff_eq.mpr c6
     have c6b1 : (a0 != 4) = false:=bne_eq_false_iff_eq.mpr c6
     clear c6
     have H':=Aside0.mk H
     clear H
     go_wp2
     go_meet
     case rel=>exact ⟨_,(false),(by first|rfl|(simp;done)|(simp [*];done)),H',⟨by first|omega|exact Nat.le_refl _⟩,⟨by repeat (first|(with_reducible first|exact HB.out|apply below_alloc|apply pw_below_drewN|apply below_drew1)|exact HB.out)⟩⟩
    ·rw [if_neg c6] at H
     have c6b0 : (a0 == 4) = false:=beq_eq_false_iff_ne.mpr c6
     have c6b1 : (a0 != 4) = true:=bne_iff_ne.mpr c6
     have H':=Aside0.mk H
     clear H
     go_wp2
     go_meet
     case rel=>exact ⟨_,((a0 != 8)),(by first|rfl|(simp;done)|(simp [*];done)),H',⟨by first|omega|exact Nat.le_refl _⟩,⟨by repeat (first|(with_reducible first|exact HB.out|apply below_alloc|apply pw_below_drewN|apply below_drew1)|exact HB.out)⟩⟩
 case rest =>
  clear HC3
  try clear p2
  try clear c4
  try clear c4b0
  try clear c4b1
  try clear c5
  try clear c5b0
  try clear c5b1
  try clear c6
  try clear c6b0
  try clear c6b1
  obtain ⟨kq,x20_2,rfl,HA,HJ2,HB⟩:=hcut
  cases kq with
  | zero=>exact absurd HA.out (by simp [bosunref02_Put.j0])
  | succ kj2 =>
   have H:=HA.out
   clear HA
   simp only [bosunref02_Put.j0] at H
   by_cases c7 : x20_2 = true
   ·subst c7
    have H1 : (some (⟨#[]⟩ : ByteArray)) = some r:=by rw [if_pos rfl] at H;exact H
    clear H
    have H:=H1
    clear H1
    obtain rfl:=Option.some.inj H
    go_wp2
    go_ret
    exact ⟨by first|rfl|(simp [errW_none,errW_some] <;> rfl)|(simp [*,errW_none,errW_some] <;> rfl),by repeat (first|(with_reducible first|exact HB.out|apply below_alloc|apply pw_below_drewN|apply below_drew1)|exact HB.out)⟩
   ·replace c7:=Bool.eq_false_iff.mpr c7
    subst c7
    have H1 : (bosunref02_Put.l0 kj2 a0 a1 (⟨#[]⟩ : ByteArray) 0) = some r:=by rw [if_neg (show ¬ (false = true) by decide)] at H;exact H
    clear H
    have H:=H1
    clear H1
    have H':=Aside0.mk H
    clear H
    go_wp2
    go_loopg [1,5,6] kj2 (fun kq v1 v5 v6 w'=>∃ (x1_2 : Int) (x5_2 : ByteArray) (x6_2 : Int),v1 = .int .u64 x1_2 ∧ v5 = .string x5_2 ∧ v6 = .int .i64 x6_2 ∧ Aside0 (bosunref02_Put.l0 kq a0 x1_2 x5_2 x6_2 = some r) ∧ Aside0 (kq ≤ kj2) ∧ Aside0 (Below w.heap.size w w'))
    case atStart=>exact ⟨(a1),((⟨#[]⟩ : ByteArray)),(0),(by first|rfl|(simp;done)|(simp [*];done)),(by first|rfl|(simp;done)|(simp [*];done)),(by first|rfl|(simp;done)|(simp [*];done)),H',⟨Nat.le_refl _⟩,⟨by repeat (first|(with_reducible first|exact HB.out|apply below_alloc|apply pw_below_drewN|apply below_drew1)|exact HB.out)⟩⟩
    case round =>
     clear H'
     try clear p2
     try clear c4
     try clear c4b0
     try clear c4b1
     try clear c5
     try clear c5b0
     try clear c5b1
     try clear c6
     try clear c6b0
     try clear c6b1
     try clear c7
     try clear p2
     obtain ⟨x1_2,x5_2,x6_2,rfl,rfl,rfl,HA,HK2,HB⟩:=hrel
     cases gk with
     | zero=>exact absurd HA.out (by simp [bosunref02_Put.l0])
     | succ k2 =>
      have H:=HA.out
      clear HA
      simp only [bosunref02_Put.l0] at H
      by_cases c8 : x6_2 < a0
      ·rw [if_pos c8] at H
       have c8b0 : decide (x6_2 < a0) = true:=decide_eq_true c8
       clear c8
       obtain ⟨y181,hy181⟩ : ∃ y_ : List Int,y_ = (([(Int.tmod x1_2 256) % 256] : List Int)):=⟨_,rfl⟩
       replace H : (if (strOfNums y181).size + x5_2.size ≤ 9223372036854775807 then (bosunref02_Put.l0 k2 a0 (IntKind.u64.wrap (Int.tdiv x1_2 256)) ((strOfNums y181) ++ x5_2) (wrap64 (x6_2 + 1))) else (none)) = some r:=by first|(rw [hy181];with_reducible exact H)|(have H2_:=(Option.bind_some _ _).symm.trans H;rw [hy181];with_reducible exact H2_)|(have H2_:=(Option.bind_some _ _).symm.trans H;with_reducible exact H2_)|with_reducible exact H|(rw [hy181];exact H)|exact H
       have Ny181:=Aside0.mk hy181
       clear hy181
       by_cases c9 : (strOfNums y181).size + x5_2.size ≤ 9223372036854775807
       ·rw [if_pos c9] at H
        have c9b0:=eq_true c9
        have c9b1 : decide ((strOfNums y181).size + x5_2.size ≤ 9223372036854775807) = true:=decide_eq_true c9
        try have c9b2 : (9223372036854775807 < (strOfNums y181).size + x5_2.size) = False:=eq_false (Nat.not_lt.2 c9)
        have H':=Aside0.mk H
        clear H
        go_wp2_with (first|((with_reducible refine gate_dst (N:=29) rfl ?_);refine Kd.R_lit (Kd.int .u8) _ 5 ?hg (N:=29) ?hd (xs:=([(Int.tmod x1_2 256) % 256] : List Int)) (inner:=[.int .u8 ((Int.tmod x1_2 256) % 256)]) (ok:=fun _=>True) (okp:=fun _=>True) ?hr ?hp (fun _ hk=>hk) trivial (Below.refl _ _) (Nat.le_refl _) (by simp) ?_;(case hd=>rfl);(case hg=>rfl);(case hr=>first|(go_simp;done)|(go_simp;rfl));(case hp=>exact (Reps.one (show Kd.M (Kd.int .u8) _ _ _ ((Int.tmod x1_2 256) % 256) [.int .u8 ((Int.tmod x1_2 256) % 256)] from rfl) (Reps.none _ _)));intro v182 w10 ho11 hb hg_ hnew_;clear hg_ hnew_;(first|rw [← Ny181.out] at ho11|(simp only [Int.reduceToNat] at ho11;rw [← Ny181.out] at ho11));have n0_:=Aside0.mk (Kd.R_lower ho11 (below_size (by repeat (first|(with_reducible first|exact HB.out|apply below_alloc|apply pw_below_drewN|apply below_drew1)|exact HB.out))));have n1_:=Aside0.mk (below_step (by repeat (first|(with_reducible first|exact HB.out|apply below_alloc|apply pw_below_drewN|apply below_drew1)|exact HB.out)) hb);clear HB;have HO183:=n0_;have HB:=n1_;clear n0_ n1_;clear hb ho11;have hcv12:=own_string (P:=Tryd.prog) Tryd.underlying69 Tryd.underlying5 Tryd.underlying9 (Kd.own_of_R HO183.out)))
        go_roundg k2
        case measure=>have:=HJ2.out;have:=HK2.out;omega
        case rel=>exact ⟨(IntKind.u64.wrap (Int.tdiv x1_2 256)),((strOfNums y181) ++ x5_2),(wrap64 (x6_2 + 1)),(by first|rfl|(simp;done)|(simp [*];done)),(by first|rfl|(simp;done)|(simp [*];done)),(by first|rfl|(simp;done)|(simp [*];done)),H',⟨by have:=HJ2.out;have:=HK2.out;omega⟩,⟨by repeat (first|(with_reducible first|exact HB.out|apply below_alloc|apply pw_below_drewN|apply below_drew1)|exact HB.out)⟩⟩
       ·rw [if_neg c9] at H
        exact absurd H (by simp)
      ·rw [if_neg c8] at H
       have c8b0 : decide (x6_2 < a0) = false:=decide_eq_false c8
       clear c8
       obtain rfl:=Option.some.inj H
       go_wp2
       go_ret
       exact ⟨by first|rfl|(simp [errW_none,errW_some] <;> rfl)|(simp [*,errW_none,errW_some] <;> rfl),by repeat (first|(with_reducible first|exact HB.out|apply below_alloc|apply pw_below_drewN|apply below_drew1)|exact HB.out)⟩

/-! ### bosunref02_Text: function 44 -/
def bosunref02_Text.f (k : Nat) (a0 : ByteArray) : Option (ByteArray):=(bosunref02_Put.f k 2 (IntKind.u64.wrap ((a0.size : Int)))).bind fun t184=>(if t184.size + a0.size ≤ 9223372036854775807 then (some (t184 ++ a0)) else (none))
theorem bosunref02_Text.mono : ∀ a0 k,LeO (bosunref02_Text.f k a0) (bosunref02_Text.f (k + 1) a0):=by
 intro a0 k
 unfold bosunref02_Text.f
 repeat' first
   | (with_reducible exact bosunref02_Put.mono _ _ _)
   | (with_reducible exact LeO.refl _)
   | (with_reducible exact LeO.none _)
   | (with_reducible refine LeO.ite ?_ ?_)
   | (with_reducible refine LeO.bind ?_ (fun _=>?_))
   | exact bosunref02_Put.mono _ _ _
   | exact LeO.none _
   | refine LeO.ite ?_ ?_
   | refine LeO.bind ?_ (fun _=>?_)
set_option maxHeartbeats 8000000 in
set_option maxRecDepth 100000 in
theorem bosunref02_Text.calls (k : Nat) (a0 : ByteArray) (r : ByteArray) (w : World) (h : bosunref02_Text.f k a0 = some r) :
  Calls Tryd.prog 44 #[.string a0] w fun e w'=>e = .returned (.string r) ∧ Below w.heap.size w w':=by
 have HB:=Aside0.mk (Below.refl w.heap.size w)
 have H : ((bosunref02_Put.f k 2 (IntKind.u64.wrap ((a0.size : Int)))).bind fun t184=>(if t184.size + a0.size ≤ 9223372036854775807 then (some (t184 ++ a0)) else (none))) = some r:=h
 clear h
 replace H:=Option.bind_eq_some_iff.mp H
 obtain ⟨t184,A20,H⟩:=H
 replace H : (if t184.size + a0.size ≤ 9223372036854775807 then (some (t184 ++ a0)) else (none)) = some r:=H
 have A2:=Aside0.mk A20
 clear A20
 by_cases c3 : t184.size + a0.size ≤ 9223372036854775807
 ·rw [if_pos c3] at H
  have c3b0:=eq_true c3
  have c3b1 : decide (t184.size + a0.size ≤ 9223372036854775807) = true:=decide_eq_true c3
  try have c3b2 : (9223372036854775807 < t184.size + a0.size) = False:=eq_false (Nat.not_lt.2 c3)
  obtain rfl:=Option.some.inj H
  go_enter Tryd.func44,Tryd.ntmps44
  go_wp2_with (first|((with_reducible refine gate_callee (f:=43) rfl ?_);refine goesL_ (some 6) rfl rfl Tryd.func43 (by kernel_rfl) rfl #[.int .i64 2,.int .u64 (IntKind.u64.wrap ((a0.size : Int)))] rfl (by (try simp only [List.map_toArray,List.map_cons,List.map_nil]);first|done|rfl|(simp only [List.length_drop,List.length_take];rfl)|(simp (disch:=first|omega|(simp at *;omega)) only [u64_id,i64_id,u8_id];rfl)) ?_;(with_reducible refine (bosunref02_Put.calls k 2 (IntKind.u64.wrap ((a0.size : Int))) t184 _ A2.out).mono ?_);rintro e w4 ⟨rfl,hb⟩;refine ⟨_,rfl,?_⟩;have n0_:=Aside0.mk (below_step (by repeat (first|(with_reducible first|exact HB.out|apply below_alloc|apply pw_below_drewN|apply below_drew1)|exact HB.out)) hb);clear HB;have HB:=n0_;clear n0_;(try clear hb);(try clear hb2);(try clear hk);(try clear hi)))
  go_ret
  exact ⟨by first|rfl|(simp [errW_none,errW_some] <;> rfl)|(simp [*,errW_none,errW_some] <;> rfl),by repeat (first|(with_reducible first|exact HB.out|apply below_alloc|apply pw_below_drewN|apply below_drew1)|exact HB.out)⟩
 ·rw [if_neg c3] at H
  exact absurd H (by simp)

end Go.Proofs.YtpmbdcljphpcnaaDoor.GCk
