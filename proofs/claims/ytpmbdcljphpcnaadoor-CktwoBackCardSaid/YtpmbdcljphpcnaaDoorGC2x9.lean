/- Written by this session's own program (wip/gen.py) out of the translation: plain Lean functions of the Go functions, and proofs that the calls come to their answers. No conditions beside those in the statements. -/
import Derived.Test.YtpmbdcljphpcnaaDoorGC2x0
import Derived.Test.YtpmbdcljphpcnaaDoorGC2x2
import Derived.Test.YtpmbdcljphpcnaaDoorGC2x3
import Derived.Test.YtpmbdcljphpcnaaDoorGC2Cons
import Derived.Test.YtpmbdcljphpcnaaDoorGC2Name
namespace Go.Proofs.YtpmbdcljphpcnaaDoor.GC2
open Go.RowKit Go.Proofs.YtpmbdcljphpcnaaDoorW.PrintWords Go.Proofs.YtpmbdcljphpcnaaDoorW.PrintLast Go.Proofs.YtpmbdcljphpcnaaDoorW.PrintMore
attribute [local go_sem] max2_int min2_int max_two min_two max_three min_three max_four min_four   -- for this text's walks alone
set_option linter.unusedVariables false
set_option linter.unusedSimpArgs false

/-! ### cktwo_State_Check: function 27 -/
mutual
def cktwo_State_Check.l0 : Nat → List (S98) → Int → Int → Int → List (S98) → Option (Int)
 | 0,_,_,_,_,_=>none
 | k + 1,x11,x12,x13,x147000,x147001=>if x13 < x12 then (if 0 ≤ x13 then (if x13 < (x11.length : Int) then ((ckone_File.f k ((rd_T98 x11 x13).f0)).bind fun t149=>(if t149 = true then ((dns_Name.f k ((rd_T98 x11 x13).f1)).bind fun t150=>(if t150 = true then ((dns_Label.f k ((rd_T98 x11 x13).f2)).bind fun t151=>(cktwo_State_Check.j1 k x13 x11 x12 x13 (!t151) x147000 x147001 ((rd_T98 x11 x13).f0) ((rd_T98 x11 x13).f1) ((rd_T98 x11 x13).f2) ((rd_T98 x11 x13).f3) ((rd_T98 x11 x13).f4) ((rd_T98 x11 x13).f5))) else (cktwo_State_Check.j1 k x13 x11 x12 x13 true x147000 x147001 ((rd_T98 x11 x13).f0) ((rd_T98 x11 x13).f1) ((rd_T98 x11 x13).f2) ((rd_T98 x11 x13).f3) ((rd_T98 x11 x13).f4) ((rd_T98 x11 x13).f5)))) else (cktwo_State_Check.j1 k x13 x11 x12 x13 true x147000 x147001 ((rd_T98 x11 x13).f0) ((rd_T98 x11 x13).f1) ((rd_T98 x11 x13).f2) ((rd_T98 x11 x13).f3) ((rd_T98 x11 x13).f4) ((rd_T98 x11 x13).f5)))) else (none)) else (none)) else (some 0)
def cktwo_State_Check.j1 : Nat → Int → List (S98) → Int → Int → Bool → Int → List (S98) → ByteArray → ByteArray → ByteArray → Int → Int → List (S100) → Option (Int)
 | 0,_,_,_,_,_,_,_,_,_,_,_,_,_=>none
 | k + 1,x3,x11,x12,x13,x18,x147000,x147001,x149000,x149001,x149002,x149003,x149004,x149005=>if x18 = true then (some 13) else (if x3 > 0 then (if 0 ≤ (wrap64 (x3 - 1)) then (if (wrap64 (x3 - 1)) < (x147001.length : Int) then (cktwo_State_Check.j2 k x11 x12 x13 (!(Op.bytesLess (((rd_T98 x147001 (wrap64 (x3 - 1))).f0).toList) x149000.toList)) x147000 x147001 x149000 x149001 x149002 x149003 x149004 x149005) else (none)) else (none)) else (cktwo_State_Check.j2 k x11 x12 x13 false x147000 x147001 x149000 x149001 x149002 x149003 x149004 x149005))
def cktwo_State_Check.j2 : Nat → List (S98) → Int → Int → Bool → Int → List (S98) → ByteArray → ByteArray → ByteArray → Int → Int → List (S100) → Option (Int)
 | 0,_,_,_,_,_,_,_,_,_,_,_,_=>none
 | k + 1,x11,x12,x13,x35,x147000,x147001,x149000,x149001,x149002,x149003,x149004,x149005=>if x35 = true then (some 6) else (if x149003 > 2 then (cktwo_State_Check.j3 k x11 x12 x13 true x147000 x147001 x149000 x149001 x149002 x149003 x149004 x149005) else (if x149004 < 1 then (cktwo_State_Check.j3 k x11 x12 x13 true x147000 x147001 x149000 x149001 x149002 x149003 x149004 x149005) else (cktwo_State_Check.j3 k x11 x12 x13 (decide (x149004 > 3600)) x147000 x147001 x149000 x149001 x149002 x149003 x149004 x149005)))
def cktwo_State_Check.j3 : Nat → List (S98) → Int → Int → Bool → Int → List (S98) → ByteArray → ByteArray → ByteArray → Int → Int → List (S100) → Option (Int)
 | 0,_,_,_,_,_,_,_,_,_,_,_,_=>none
 | k + 1,x11,x12,x13,x50,x147000,x147001,x149000,x149001,x149002,x149003,x149004,x149005=>if x50 = true then (some 7) else ((cktwo_containers.f k x149005).bind fun t153=>(if t153 = 0 then (cktwo_State_Check.l0 k x11 x12 (wrap64 (x13 + 1)) x147000 x147001) else (some t153)))
end
def cktwo_State_Check.f (k : Nat) (a0_0 : Int) (l0_1 : List (S98)) : Option (Int):=if (l0_1.length : Int) > 1024 then (some 18) else (cktwo_State_Check.l0 k l0_1 (l0_1.length : Int) 0 a0_0 l0_1)
theorem cktwo_State_Check.mono_l : ∀ k,(∀ y0 y1 y2 y3 y4,LeO (cktwo_State_Check.l0 k y0 y1 y2 y3 y4) (cktwo_State_Check.l0 (k + 1) y0 y1 y2 y3 y4)) ∧ (∀ y0 y1 y2 y3 y4 y5 y6 y7 y8 y9 y10 y11 y12,LeO (cktwo_State_Check.j1 k y0 y1 y2 y3 y4 y5 y6 y7 y8 y9 y10 y11 y12) (cktwo_State_Check.j1 (k + 1) y0 y1 y2 y3 y4 y5 y6 y7 y8 y9 y10 y11 y12)) ∧ (∀ y0 y1 y2 y3 y4 y5 y6 y7 y8 y9 y10 y11,LeO (cktwo_State_Check.j2 k y0 y1 y2 y3 y4 y5 y6 y7 y8 y9 y10 y11) (cktwo_State_Check.j2 (k + 1) y0 y1 y2 y3 y4 y5 y6 y7 y8 y9 y10 y11)) ∧ (∀ y0 y1 y2 y3 y4 y5 y6 y7 y8 y9 y10 y11,LeO (cktwo_State_Check.j3 k y0 y1 y2 y3 y4 y5 y6 y7 y8 y9 y10 y11) (cktwo_State_Check.j3 (k + 1) y0 y1 y2 y3 y4 y5 y6 y7 y8 y9 y10 y11))
 | 0=>⟨fun _ _ _ _ _ r h=>by simp [cktwo_State_Check.l0] at h,fun _ _ _ _ _ _ _ _ _ _ _ _ _ r h=>by simp [cktwo_State_Check.j1] at h,fun _ _ _ _ _ _ _ _ _ _ _ _ r h=>by simp [cktwo_State_Check.j2] at h,fun _ _ _ _ _ _ _ _ _ _ _ _ r h=>by simp [cktwo_State_Check.j3] at h⟩
 | k + 1=>by
  obtain ⟨ih0,ih1,ih2,ih3⟩:=cktwo_State_Check.mono_l k
  refine ⟨?_,?_,?_,?_⟩
  ·intro y0 y1 y2 y3 y4
   unfold cktwo_State_Check.l0
   repeat' first
   | (with_reducible exact ih0 _ _ _ _ _)
   | (with_reducible exact ih1 _ _ _ _ _ _ _ _ _ _ _ _ _)
   | (with_reducible exact ih2 _ _ _ _ _ _ _ _ _ _ _ _)
   | (with_reducible exact ih3 _ _ _ _ _ _ _ _ _ _ _ _)
   | (with_reducible exact ckone_File.mono _ _)
   | (with_reducible exact cktwo_containers.mono _ _)
   | (with_reducible exact dns_Label.mono _ _)
   | (with_reducible exact dns_Name.mono _ _)
   | (with_reducible exact LeO.refl _)
   | (with_reducible exact LeO.none _)
   | (with_reducible refine LeO.ite ?_ ?_)
   | (with_reducible refine LeO.bind ?_ (fun _=>?_))
   | exact ih0 _ _ _ _ _
   | exact ih1 _ _ _ _ _ _ _ _ _ _ _ _ _
   | exact ih2 _ _ _ _ _ _ _ _ _ _ _ _
   | exact ih3 _ _ _ _ _ _ _ _ _ _ _ _
   | exact ckone_File.mono _ _
   | exact cktwo_containers.mono _ _
   | exact dns_Label.mono _ _
   | exact dns_Name.mono _ _
   | exact LeO.none _
   | refine LeO.ite ?_ ?_
   | refine LeO.bind ?_ (fun _=>?_)
  ·intro y0 y1 y2 y3 y4 y5 y6 y7 y8 y9 y10 y11 y12
   unfold cktwo_State_Check.j1
   repeat' first
   | (with_reducible exact ih0 _ _ _ _ _)
   | (with_reducible exact ih1 _ _ _ _ _ _ _ _ _ _ _ _ _)
   | (with_reducible exact ih2 _ _ _ _ _ _ _ _ _ _ _ _)
   | (with_reducible exact ih3 _ _ _ _ _ _ _ _ _ _ _ _)
   | (with_reducible exact ckone_File.mono _ _)
   | (with_reducible exact cktwo_containers.mono _ _)
   | (with_reducible exact dns_Label.mono _ _)
   | (with_reducible exact dns_Name.mono _ _)
   | (with_reducible exact LeO.refl _)
   | (with_reducible exact LeO.none _)
   | (with_reducible refine LeO.ite ?_ ?_)
   | (with_reducible refine LeO.bind ?_ (fun _=>?_))
   | exact ih0 _ _ _ _ _
   | exact ih1 _ _ _ _ _ _ _ _ _ _ _ _ _
   | exact ih2 _ _ _ _ _ _ _ _ _ _ _ _
   | exact ih3 _ _ _ _ _ _ _ _ _ _ _ _
   | exact ckone_File.mono _ _
   | exact cktwo_containers.mono _ _
   | exact dns_Label.mono _ _
   | exact dns_Name.mono _ _
   | exact LeO.none _
   | refine LeO.ite ?_ ?_
   | refine LeO.bind ?_ (fun _=>?_)
  ·intro y0 y1 y2 y3 y4 y5 y6 y7 y8 y9 y10 y11
   unfold cktwo_State_Check.j2
   repeat' first
   | (with_reducible exact ih0 _ _ _ _ _)
   | (with_reducible exact ih1 _ _ _ _ _ _ _ _ _ _ _ _ _)
   | (with_reducible exact ih2 _ _ _ _ _ _ _ _ _ _ _ _)
   | (with_reducible exact ih3 _ _ _ _ _ _ _ _ _ _ _ _)
   | (with_reducible exact ckone_File.mono _ _)
   | (with_reducible exact cktwo_containers.mono _ _)
   | (with_reducible exact dns_Label.mono _ _)
   | (with_reducible exact dns_Name.mono _ _)
   | (with_reducible exact LeO.refl _)
   | (with_reducible exact LeO.none _)
   | (with_reducible refine LeO.ite ?_ ?_)
   | (with_reducible refine LeO.bind ?_ (fun _=>?_))
   | exact ih0 _ _ _ _ _
   | exact ih1 _ _ _ _ _ _ _ _ _ _ _ _ _
   | exact ih2 _ _ _ _ _ _ _ _ _ _ _ _
   | exact ih3 _ _ _ _ _ _ _ _ _ _ _ _
   | exact ckone_File.mono _ _
   | exact cktwo_containers.mono _ _
   | exact dns_Label.mono _ _
   | exact dns_Name.mono _ _
   | exact LeO.none _
   | refine LeO.ite ?_ ?_
   | refine LeO.bind ?_ (fun _=>?_)
  ·intro y0 y1 y2 y3 y4 y5 y6 y7 y8 y9 y10 y11
   unfold cktwo_State_Check.j3
   repeat' first
   | (with_reducible exact ih0 _ _ _ _ _)
   | (with_reducible exact ih1 _ _ _ _ _ _ _ _ _ _ _ _ _)
   | (with_reducible exact ih2 _ _ _ _ _ _ _ _ _ _ _ _)
   | (with_reducible exact ih3 _ _ _ _ _ _ _ _ _ _ _ _)
   | (with_reducible exact ckone_File.mono _ _)
   | (with_reducible exact cktwo_containers.mono _ _)
   | (with_reducible exact dns_Label.mono _ _)
   | (with_reducible exact dns_Name.mono _ _)
   | (with_reducible exact LeO.refl _)
   | (with_reducible exact LeO.none _)
   | (with_reducible refine LeO.ite ?_ ?_)
   | (with_reducible refine LeO.bind ?_ (fun _=>?_))
   | exact ih0 _ _ _ _ _
   | exact ih1 _ _ _ _ _ _ _ _ _ _ _ _ _
   | exact ih2 _ _ _ _ _ _ _ _ _ _ _ _
   | exact ih3 _ _ _ _ _ _ _ _ _ _ _ _
   | exact ckone_File.mono _ _
   | exact cktwo_containers.mono _ _
   | exact dns_Label.mono _ _
   | exact dns_Name.mono _ _
   | exact LeO.none _
   | refine LeO.ite ?_ ?_
   | refine LeO.bind ?_ (fun _=>?_)
theorem cktwo_State_Check.mono : ∀ a0 a1 k,LeO (cktwo_State_Check.f k a0 a1) (cktwo_State_Check.f (k + 1) a0 a1):=by
 intro a0 a1 k
 obtain ⟨ih0,ih1,ih2,ih3⟩:=cktwo_State_Check.mono_l k
 unfold cktwo_State_Check.f
 repeat' first
   | (with_reducible exact ih0 _ _ _ _ _)
   | (with_reducible exact ih1 _ _ _ _ _ _ _ _ _ _ _ _ _)
   | (with_reducible exact ih2 _ _ _ _ _ _ _ _ _ _ _ _)
   | (with_reducible exact ih3 _ _ _ _ _ _ _ _ _ _ _ _)
   | (with_reducible exact ckone_File.mono _ _)
   | (with_reducible exact cktwo_containers.mono _ _)
   | (with_reducible exact dns_Label.mono _ _)
   | (with_reducible exact dns_Name.mono _ _)
   | (with_reducible exact LeO.refl _)
   | (with_reducible exact LeO.none _)
   | (with_reducible refine LeO.ite ?_ ?_)
   | (with_reducible refine LeO.bind ?_ (fun _=>?_))
   | exact ih0 _ _ _ _ _
   | exact ih1 _ _ _ _ _ _ _ _ _ _ _ _ _
   | exact ih2 _ _ _ _ _ _ _ _ _ _ _ _
   | exact ih3 _ _ _ _ _ _ _ _ _ _ _ _
   | exact ckone_File.mono _ _
   | exact cktwo_containers.mono _ _
   | exact dns_Label.mono _ _
   | exact dns_Name.mono _ _
   | exact LeO.none _
   | refine LeO.ite ?_ ?_
   | refine LeO.bind ?_ (fun _=>?_)
set_option maxHeartbeats 8000000 in
set_option maxRecDepth 100000 in
theorem cktwo_State_Check.calls (k : Nat) (a0_0 : Int) (A0_1 : Option Addr) (c0_1 : Nat) (l0_1 : List (S98)) (r : Int) (w : World) (hr0_1 : Kd.C k98 w A0_1 l0_1.length l0_1) (hc0_1 : l0_1.length ≤ c0_1) (h : cktwo_State_Check.f k a0_0 l0_1 = some r) :
  Calls Tryd.prog 27 #[.agg #[.int .u64 a0_0,.slice A0_1 l0_1.length c0_1]] w fun e w'=>e = .returned (.int .i64 r) ∧ Below w.heap.size w w':=by
 have hu49:=Tryd.underlying49
 have hu98:=Tryd.underlying98
 have HR0_1:=Aside0.mk hr0_1
 have HC0_1:=Aside0.mk hc0_1
 clear hr0_1 hc0_1
 have HB:=Aside0.mk (Below.refl w.heap.size w)
 have H : (if (l0_1.length : Int) > 1024 then (some 18) else (cktwo_State_Check.l0 k l0_1 (l0_1.length : Int) 0 a0_0 l0_1)) = some r:=h
 clear h
 by_cases c2 : (l0_1.length : Int) > 1024
 ·rw [if_pos c2] at H
  have c2b0 : decide (1024 < (l0_1.length : Int)) = true:=decide_eq_true c2
  have c2b1 : decide (1024 < l0_1.length) = true:=decide_eq_true (by omega)
  clear c2
  obtain rfl:=Option.some.inj H
  go_enter Tryd.func27,Tryd.ntmps27
  go_wp2_with (first|((with_reducible refine gate_dst (N:=1) rfl ?_);refine box_event ?hg (N:=1) ?hd (cs:=#[.int .u64 a0_0,.slice A0_1 l0_1.length c0_1]) (t:=49) ?hr ?_;(case hd=>rfl);(case hg=>rfl);(case hr=>first|(go_simp;done)|(go_simp;rfl));intro gb146 hg w3 hbox hb;have n0_:=Aside0.mk (below_step (by repeat (first|(with_reducible first|exact HB.out|apply below_alloc|apply pw_below_drewN|apply below_drew1)|exact HB.out)) hb);have n1_:=Aside0.mk (hbox);have n2_:=Aside0.mk ((by rw [hg];exact (below_size (by repeat (first|(with_reducible first|exact HB.out|apply below_alloc|apply pw_below_drewN|apply below_drew1)|exact HB.out))) : w.heap.size ≤ gb146));have n3_:=Aside0.mk ((by rw [hg];exact (below_size (by repeat (first|(with_reducible first|exact HB.out|apply below_alloc|apply pw_below_drewN|apply below_drew1)|exact HB.out))) : w.heap.size ≤ gb146));clear HB;have HB:=n0_;have BK146:=n1_;have GW146:=n2_;have GE146:=n3_;clear n0_ n1_ n2_ n3_;clear hb hbox hg;have hcz4_0 : w3.cell? ⟨gb146,0,none⟩ = some (.int .u64 a0_0):=(blk_cell BK146.out 0).trans rfl;have hcz4_1 : w3.cell? ⟨gb146,1,none⟩ = some (.slice A0_1 l0_1.length c0_1):=(blk_cell BK146.out 1).trans rfl;have hfz4_0:=blk_frozen BK146.out 0;have hfz4_1:=blk_frozen BK146.out 1))
  repeat (go_quiet (first|((with_reducible refine gate_dst (N:=1) rfl ?_);refine box_event ?hg (N:=1) ?hd (cs:=#[.int .u64 a0_0,.slice A0_1 l0_1.length c0_1]) (t:=49) ?hr ?_;(case hd=>rfl);(case hg=>rfl);(case hr=>first|(go_simp;done)|(go_simp;rfl));intro gb146 hg w3 hbox hb;have n0_:=Aside0.mk (below_step (by repeat (first|(with_reducible first|exact HB.out|apply below_alloc|apply pw_below_drewN|apply below_drew1)|exact HB.out)) hb);have n1_:=Aside0.mk (hbox);have n2_:=Aside0.mk ((by rw [hg];exact (below_size (by repeat (first|(with_reducible first|exact HB.out|apply below_alloc|apply pw_below_drewN|apply below_drew1)|exact HB.out))) : w.heap.size ≤ gb146));have n3_:=Aside0.mk ((by rw [hg];exact (below_size (by repeat (first|(with_reducible first|exact HB.out|apply below_alloc|apply pw_below_drewN|apply below_drew1)|exact HB.out))) : w.heap.size ≤ gb146));clear HB;have HB:=n0_;have BK146:=n1_;have GW146:=n2_;have GE146:=n3_;clear n0_ n1_ n2_ n3_;clear hb hbox hg;have hcz4_0 : w3.cell? ⟨gb146,0,none⟩ = some (.int .u64 a0_0):=(blk_cell BK146.out 0).trans rfl;have hcz4_1 : w3.cell? ⟨gb146,1,none⟩ = some (.slice A0_1 l0_1.length c0_1):=(blk_cell BK146.out 1).trans rfl;have hfz4_0:=blk_frozen BK146.out 0;have hfz4_1:=blk_frozen BK146.out 1));try go_wp2_with (first|((with_reducible refine gate_dst (N:=1) rfl ?_);refine box_event ?hg (N:=1) ?hd (cs:=#[.int .u64 a0_0,.slice A0_1 l0_1.length c0_1]) (t:=49) ?hr ?_;(case hd=>rfl);(case hg=>rfl);(case hr=>first|(go_simp;done)|(go_simp;rfl));intro gb146 hg w3 hbox hb;have n0_:=Aside0.mk (below_step (by repeat (first|(with_reducible first|exact HB.out|apply below_alloc|apply pw_below_drewN|apply below_drew1)|exact HB.out)) hb);have n1_:=Aside0.mk (hbox);have n2_:=Aside0.mk ((by rw [hg];exact (below_size (by repeat (first|(with_reducible first|exact HB.out|apply below_alloc|apply pw_below_drewN|apply below_drew1)|exact HB.out))) : w.heap.size ≤ gb146));have n3_:=Aside0.mk ((by rw [hg];exact (below_size (by repeat (first|(with_reducible first|exact HB.out|apply below_alloc|apply pw_below_drewN|apply below_drew1)|exact HB.out))) : w.heap.size ≤ gb146));clear HB;have HB:=n0_;have BK146:=n1_;have GW146:=n2_;have GE146:=n3_;clear n0_ n1_ n2_ n3_;clear hb hbox hg;have hcz4_0 : w3.cell? ⟨gb146,0,none⟩ = some (.int .u64 a0_0):=(blk_cell BK146.out 0).trans rfl;have hcz4_1 : w3.cell? ⟨gb146,1,none⟩ = some (.slice A0_1 l0_1.length c0_1):=(blk_cell BK146.out 1).trans rfl;have hfz4_0:=blk_frozen BK146.out 0;have hfz4_1:=blk_frozen BK146.out 1)))
  go_ret
  exact ⟨by first|rfl|(simp [errW_none,errW_some] <;> rfl)|(simp [*,errW_none,errW_some] <;> rfl),by repeat (first|(with_reducible first|exact HB.out|apply below_alloc|apply pw_below_drewN|apply below_drew1|refine below_set ?_ GE146.out)|exact HB.out)⟩
 ·rw [if_neg c2] at H
  have c2b0 : decide (1024 < (l0_1.length : Int)) = false:=decide_eq_false c2
  have c2b1 : decide (1024 < l0_1.length) = false:=decide_eq_false (by omega)
  clear c2
  have H':=Aside0.mk H
  clear H
  go_enter Tryd.func27,Tryd.ntmps27
  go_wp2_with (first|((with_reducible refine gate_dst (N:=1) rfl ?_);refine box_event ?hg (N:=1) ?hd (cs:=#[.int .u64 a0_0,.slice A0_1 l0_1.length c0_1]) (t:=49) ?hr ?_;(case hd=>rfl);(case hg=>rfl);(case hr=>first|(go_simp;done)|(go_simp;rfl));intro gb146 hg w5 hbox hb;have n0_:=Aside0.mk (below_step (by repeat (first|(with_reducible first|exact HB.out|apply below_alloc|apply pw_below_drewN|apply below_drew1)|exact HB.out)) hb);have n1_:=Aside0.mk (hbox);have n2_:=Aside0.mk ((by rw [hg];exact (below_size (by repeat (first|(with_reducible first|exact HB.out|apply below_alloc|apply pw_below_drewN|apply below_drew1)|exact HB.out))) : w.heap.size ≤ gb146));have n3_:=Aside0.mk ((by rw [hg];exact (below_size (by repeat (first|(with_reducible first|exact HB.out|apply below_alloc|apply pw_below_drewN|apply below_drew1)|exact HB.out))) : w.heap.size ≤ gb146));clear HB;have HB:=n0_;have BK146:=n1_;have GW146:=n2_;have GE146:=n3_;clear n0_ n1_ n2_ n3_;clear hb hbox hg;have hcz6_0 : w5.cell? ⟨gb146,0,none⟩ = some (.int .u64 a0_0):=(blk_cell BK146.out 0).trans rfl;have hcz6_1 : w5.cell? ⟨gb146,1,none⟩ = some (.slice A0_1 l0_1.length c0_1):=(blk_cell BK146.out 1).trans rfl;have hfz6_0:=blk_frozen BK146.out 0;have hfz6_1:=blk_frozen BK146.out 1))
  repeat (go_quiet (first|((with_reducible refine gate_dst (N:=1) rfl ?_);refine box_event ?hg (N:=1) ?hd (cs:=#[.int .u64 a0_0,.slice A0_1 l0_1.length c0_1]) (t:=49) ?hr ?_;(case hd=>rfl);(case hg=>rfl);(case hr=>first|(go_simp;done)|(go_simp;rfl));intro gb146 hg w5 hbox hb;have n0_:=Aside0.mk (below_step (by repeat (first|(with_reducible first|exact HB.out|apply below_alloc|apply pw_below_drewN|apply below_drew1)|exact HB.out)) hb);have n1_:=Aside0.mk (hbox);have n2_:=Aside0.mk ((by rw [hg];exact (below_size (by repeat (first|(with_reducible first|exact HB.out|apply below_alloc|apply pw_below_drewN|apply below_drew1)|exact HB.out))) : w.heap.size ≤ gb146));have n3_:=Aside0.mk ((by rw [hg];exact (below_size (by repeat (first|(with_reducible first|exact HB.out|apply below_alloc|apply pw_below_drewN|apply below_drew1)|exact HB.out))) : w.heap.size ≤ gb146));clear HB;have HB:=n0_;have BK146:=n1_;have GW146:=n2_;have GE146:=n3_;clear n0_ n1_ n2_ n3_;clear hb hbox hg;have hcz6_0 : w5.cell? ⟨gb146,0,none⟩ = some (.int .u64 a0_0):=(blk_cell BK146.out 0).trans rfl;have hcz6_1 : w5.cell? ⟨gb146,1,none⟩ = some (.slice A0_1 l0_1.length c0_1):=(blk_cell BK146.out 1).trans rfl;have hfz6_0:=blk_frozen BK146.out 0;have hfz6_1:=blk_frozen BK146.out 1));try go_wp2_with (first|((with_reducible refine gate_dst (N:=1) rfl ?_);refine box_event ?hg (N:=1) ?hd (cs:=#[.int .u64 a0_0,.slice A0_1 l0_1.length c0_1]) (t:=49) ?hr ?_;(case hd=>rfl);(case hg=>rfl);(case hr=>first|(go_simp;done)|(go_simp;rfl));intro gb146 hg w5 hbox hb;have n0_:=Aside0.mk (below_step (by repeat (first|(with_reducible first|exact HB.out|apply below_alloc|apply pw_below_drewN|apply below_drew1)|exact HB.out)) hb);have n1_:=Aside0.mk (hbox);have n2_:=Aside0.mk ((by rw [hg];exact (below_size (by repeat (first|(with_reducible first|exact HB.out|apply below_alloc|apply pw_below_drewN|apply below_drew1)|exact HB.out))) : w.heap.size ≤ gb146));have n3_:=Aside0.mk ((by rw [hg];exact (below_size (by repeat (first|(with_reducible first|exact HB.out|apply below_alloc|apply pw_below_drewN|apply below_drew1)|exact HB.out))) : w.heap.size ≤ gb146));clear HB;have HB:=n0_;have BK146:=n1_;have GW146:=n2_;have GE146:=n3_;clear n0_ n1_ n2_ n3_;clear hb hbox hg;have hcz6_0 : w5.cell? ⟨gb146,0,none⟩ = some (.int .u64 a0_0):=(blk_cell BK146.out 0).trans rfl;have hcz6_1 : w5.cell? ⟨gb146,1,none⟩ = some (.slice A0_1 l0_1.length c0_1):=(blk_cell BK146.out 1).trans rfl;have hfz6_0:=blk_frozen BK146.out 0;have hfz6_1:=blk_frozen BK146.out 1)))
  go_loopg [13] k (fun kq v13 w'=>∃ (x13_1 : Int),v13 = .int .i64 x13_1 ∧ Aside0 (cktwo_State_Check.l0 kq l0_1 (l0_1.length : Int) x13_1 a0_0 l0_1 = some r) ∧ Aside0 (kq ≤ k) ∧ Aside0 (w'.heap[gb146]? = some (.cells #[.int .u64 a0_0,(.slice A0_1 l0_1.length c0_1)] 49 (0,0))) ∧ Aside0 (Below w.heap.size w w'))
  case atStart=>exact ⟨(0),(by first|rfl|(simp;done)|(simp [*];done)),H',⟨Nat.le_refl _⟩,⟨by (with_reducible repeat (first|apply blk_drewN|apply blk_drew|apply blk_alloc));exact BK146.out⟩,⟨by repeat (first|(with_reducible first|exact HB.out|apply below_alloc|apply pw_below_drewN|apply below_drew1|refine below_set ?_ GE146.out)|exact HB.out)⟩⟩
  case round =>
   clear H'
   try clear c2
   try clear c2b0
   try clear c2b1
   try clear p2
   try clear hcz4_0
   try clear hcz4_1
   try clear hcz6_0
   try clear hcz6_1
   try clear hfz4_0
   try clear hfz4_1
   try clear hfz6_0
   try clear hfz6_1
   obtain ⟨x13_1,rfl,HA,HK1,BK146,HB⟩:=hrel
   cases gk with
   | zero=>exact absurd HA.out (by simp [cktwo_State_Check.l0])
   | succ k1 =>
    have H:=HA.out
    clear HA
    simp only [cktwo_State_Check.l0] at H
    by_cases c7 : x13_1 < (l0_1.length : Int)
    ·rw [if_pos c7] at H
     have c7b0 : decide (x13_1 < (l0_1.length : Int)) = true:=decide_eq_true c7
     clear c7
     by_cases c8 : 0 ≤ x13_1
     ·rw [if_pos c8] at H
      have c8b0 : decide (0 ≤ x13_1) = true:=decide_eq_true c8
      clear c8
      by_cases c9 : x13_1 < (l0_1.length : Int)
      ·rw [if_pos c9] at H
       have c9b0 : decide (x13_1 < (l0_1.length : Int)) = true:=decide_eq_true c9
       clear c9
       have HC10:=Aside0.mk H
       clear H
       have p147 : 0 ≤ (x13_1 : Int):=of_decide_eq_true (by first|(with_reducible assumption)|assumption)
       have q147 : x13_1 < (l0_1.length : Int):=of_decide_eq_true (by first|(with_reducible assumption)|assumption)
       obtain ⟨ad147,A147_5,c147_5,e147,hx147_0,hx147_1,hx147_2,hx147_3,hx147_4,hx147_5,hl147_5,hi147_5⟩:=at_T98 HR0_1.out x13_1 p147 q147
       cases e147
       replace hx147_0:=(HB.out.cell (World.block_lt_of_cell? w _ hx147_0)).trans hx147_0
       replace hx147_1:=(HB.out.cell (World.block_lt_of_cell? w _ hx147_1)).trans hx147_1
       replace hx147_2:=(HB.out.cell (World.block_lt_of_cell? w _ hx147_2)).trans hx147_2
       replace hx147_3:=(HB.out.cell (World.block_lt_of_cell? w _ hx147_3)).trans hx147_3
       replace hx147_4:=(HB.out.cell (World.block_lt_of_cell? w _ hx147_4)).trans hx147_4
       replace hx147_5:=(HB.out.cell (World.block_lt_of_cell? w _ hx147_5)).trans hx147_5
       have HR147_5:=Aside0.mk hi147_5
       have HC147_5:=Aside0.mk hl147_5
       clear hi147_5 hl147_5
       replace p147:=eq_true p147
       replace q147:=eq_true q147
       go_upto_region 6 with (first|((with_reducible refine gate_dst (N:=4) rfl ?_);refine box_event ?hg (N:=4) ?hd (cs:=#[.string (⟨#[]⟩ : ByteArray),.string (⟨#[]⟩ : ByteArray),.string (⟨#[]⟩ : ByteArray),.int .u8 0,.int .u16 0,.slice none 0 0]) (t:=98) ?hr ?_;(case hd=>rfl);(case hg=>rfl);(case hr=>first|(go_simp;done)|(go_simp;rfl));intro gb148 hg w11 hbox hb;have n0_:=Aside0.mk (blk_below (g:=gb146) (o:=.cells #[.int .u64 a0_0,.slice (some ad147) l0_1.length c0_1] 49 (0,0)) (by (with_reducible repeat (first|apply blk_drewN|apply blk_drew|apply blk_alloc));exact BK146.out) hb);have n1_:=Aside0.mk (below_step (by repeat (first|(with_reducible first|exact HB.out|apply below_alloc|apply pw_below_drewN|apply below_drew1|refine below_set ?_ GE146.out)|exact HB.out)) hb);have n2_:=Aside0.mk (hbox);have n3_:=Aside0.mk ((by rw [hg];exact (below_size (by repeat (first|(with_reducible first|exact HB.out|apply below_alloc|apply pw_below_drewN|apply below_drew1|refine below_set ?_ GE146.out)|exact HB.out))) : w.heap.size ≤ gb148));have n4_:=Aside0.mk ((by rw [hg];exact (below_size (by repeat (first|(with_reducible first|exact HB.out|apply below_alloc|apply pw_below_drewN|apply below_drew1|refine below_set ?_ GE146.out)|exact HB.out))) : w.heap.size ≤ gb148));have n5_:=Aside0.mk ((by rw [hg];exact Nat.ne_of_lt (blk_lt (g:=gb146) (o:=.cells #[.int .u64 a0_0,.slice (some ad147) l0_1.length c0_1] 49 (0,0)) (by (with_reducible repeat (first|apply blk_drewN|apply blk_drew|apply blk_alloc));exact BK146.out)) : gb146 ≠ gb148));have n6_:=Aside0.mk ((by rw [hg];exact Nat.ne_of_gt (blk_lt (g:=gb146) (o:=.cells #[.int .u64 a0_0,.slice (some ad147) l0_1.length c0_1] 49 (0,0)) (by (with_reducible repeat (first|apply blk_drewN|apply blk_drew|apply blk_alloc));exact BK146.out)) : gb148 ≠ gb146));clear BK146;clear HB;have BK146:=n0_;have HB:=n1_;have BK148:=n2_;have GW148:=n3_;have GE148:=n4_;have NB146_148:=n5_;have NB148_146:=n6_;clear n0_ n1_ n2_ n3_ n4_ n5_ n6_;clear hb hbox hg;have hnb12:=NB148_146.out;have hnc12:=NB146_148.out;have hcz13_0 : w11.cell? ⟨gb148,0,none⟩ = some (.string (⟨#[]⟩ : ByteArray)):=(blk_cell BK148.out 0).trans rfl;have hcz13_1 : w11.cell? ⟨gb148,1,none⟩ = some (.string (⟨#[]⟩ : ByteArray)):=(blk_cell BK148.out 1).trans rfl;have hcz13_2 : w11.cell? ⟨gb148,2,none⟩ = some (.string (⟨#[]⟩ : ByteArray)):=(blk_cell BK148.out 2).trans rfl;have hcz13_3 : w11.cell? ⟨gb148,3,none⟩ = some (.int .u8 0):=(blk_cell BK148.out 3).trans rfl;have hcz13_4 : w11.cell? ⟨gb148,4,none⟩ = some (.int .u16 0):=(blk_cell BK148.out 4).trans rfl;have hcz13_5 : w11.cell? ⟨gb148,5,none⟩ = some (.slice none 0 0):=(blk_cell BK148.out 5).trans rfl;have hfz13_0:=blk_frozen BK148.out 0;have hfz13_1:=blk_frozen BK148.out 1;have hfz13_2:=blk_frozen BK148.out 2;have hfz13_3:=blk_frozen BK148.out 3;have hfz13_4:=blk_frozen BK148.out 4;have hfz13_5:=blk_frozen BK148.out 5))
       repeat (go_quiet (first|((with_reducible refine gate_dst (N:=4) rfl ?_);refine box_event ?hg (N:=4) ?hd (cs:=#[.string (⟨#[]⟩ : ByteArray),.string (⟨#[]⟩ : ByteArray),.string (⟨#[]⟩ : ByteArray),.int .u8 0,.int .u16 0,.slice none 0 0]) (t:=98) ?hr ?_;(case hd=>rfl);(case hg=>rfl);(case hr=>first|(go_simp;done)|(go_simp;rfl));intro gb148 hg w11 hbox hb;have n0_:=Aside0.mk (blk_below (g:=gb146) (o:=.cells #[.int .u64 a0_0,.slice (some ad147) l0_1.length c0_1] 49 (0,0)) (by (with_reducible repeat (first|apply blk_drewN|apply blk_drew|apply blk_alloc));exact BK146.out) hb);have n1_:=Aside0.mk (below_step (by repeat (first|(with_reducible first|exact HB.out|apply below_alloc|apply pw_below_drewN|apply below_drew1|refine below_set ?_ GE146.out)|exact HB.out)) hb);have n2_:=Aside0.mk (hbox);have n3_:=Aside0.mk ((by rw [hg];exact (below_size (by repeat (first|(with_reducible first|exact HB.out|apply below_alloc|apply pw_below_drewN|apply below_drew1|refine below_set ?_ GE146.out)|exact HB.out))) : w.heap.size ≤ gb148));have n4_:=Aside0.mk ((by rw [hg];exact (below_size (by repeat (first|(with_reducible first|exact HB.out|apply below_alloc|apply pw_below_drewN|apply below_drew1|refine below_set ?_ GE146.out)|exact HB.out))) : w.heap.size ≤ gb148));have n5_:=Aside0.mk ((by rw [hg];exact Nat.ne_of_lt (blk_lt (g:=gb146) (o:=.cells #[.int .u64 a0_0,.slice (some ad147) l0_1.length c0_1] 49 (0,0)) (by (with_reducible repeat (first|apply blk_drewN|apply blk_drew|apply blk_alloc));exact BK146.out)) : gb146 ≠ gb148));have n6_:=Aside0.mk ((by rw [hg];exact Nat.ne_of_gt (blk_lt (g:=gb146) (o:=.cells #[.int .u64 a0_0,.slice (some ad147) l0_1.length c0_1] 49 (0,0)) (by (with_reducible repeat (first|apply blk_drewN|apply blk_drew|apply blk_alloc));exact BK146.out)) : gb148 ≠ gb146));clear BK146;clear HB;have BK146:=n0_;have HB:=n1_;have BK148:=n2_;have GW148:=n3_;have GE148:=n4_;have NB146_148:=n5_;have NB148_146:=n6_;clear n0_ n1_ n2_ n3_ n4_ n5_ n6_;clear hb hbox hg;have hnb12:=NB148_146.out;have hnc12:=NB146_148.out;have hcz13_0 : w11.cell? ⟨gb148,0,none⟩ = some (.string (⟨#[]⟩ : ByteArray)):=(blk_cell BK148.out 0).trans rfl;have hcz13_1 : w11.cell? ⟨gb148,1,none⟩ = some (.string (⟨#[]⟩ : ByteArray)):=(blk_cell BK148.out 1).trans rfl;have hcz13_2 : w11.cell? ⟨gb148,2,none⟩ = some (.string (⟨#[]⟩ : ByteArray)):=(blk_cell BK148.out 2).trans rfl;have hcz13_3 : w11.cell? ⟨gb148,3,none⟩ = some (.int .u8 0):=(blk_cell BK148.out 3).trans rfl;have hcz13_4 : w11.cell? ⟨gb148,4,none⟩ = some (.int .u16 0):=(blk_cell BK148.out 4).trans rfl;have hcz13_5 : w11.cell? ⟨gb148,5,none⟩ = some (.slice none 0 0):=(blk_cell BK148.out 5).trans rfl;have hfz13_0:=blk_frozen BK148.out 0;have hfz13_1:=blk_frozen BK148.out 1;have hfz13_2:=blk_frozen BK148.out 2;have hfz13_3:=blk_frozen BK148.out 3;have hfz13_4:=blk_frozen BK148.out 4;have hfz13_5:=blk_frozen BK148.out 5));go_upto_region 6 with (first|((with_reducible refine gate_dst (N:=4) rfl ?_);refine box_event ?hg (N:=4) ?hd (cs:=#[.string (⟨#[]⟩ : ByteArray),.string (⟨#[]⟩ : ByteArray),.string (⟨#[]⟩ : ByteArray),.int .u8 0,.int .u16 0,.slice none 0 0]) (t:=98) ?hr ?_;(case hd=>rfl);(case hg=>rfl);(case hr=>first|(go_simp;done)|(go_simp;rfl));intro gb148 hg w11 hbox hb;have n0_:=Aside0.mk (blk_below (g:=gb146) (o:=.cells #[.int .u64 a0_0,.slice (some ad147) l0_1.length c0_1] 49 (0,0)) (by (with_reducible repeat (first|apply blk_drewN|apply blk_drew|apply blk_alloc));exact BK146.out) hb);have n1_:=Aside0.mk (below_step (by repeat (first|(with_reducible first|exact HB.out|apply below_alloc|apply pw_below_drewN|apply below_drew1|refine below_set ?_ GE146.out)|exact HB.out)) hb);have n2_:=Aside0.mk (hbox);have n3_:=Aside0.mk ((by rw [hg];exact (below_size (by repeat (first|(with_reducible first|exact HB.out|apply below_alloc|apply pw_below_drewN|apply below_drew1|refine below_set ?_ GE146.out)|exact HB.out))) : w.heap.size ≤ gb148));have n4_:=Aside0.mk ((by rw [hg];exact (below_size (by repeat (first|(with_reducible first|exact HB.out|apply below_alloc|apply pw_below_drewN|apply below_drew1|refine below_set ?_ GE146.out)|exact HB.out))) : w.heap.size ≤ gb148));have n5_:=Aside0.mk ((by rw [hg];exact Nat.ne_of_lt (blk_lt (g:=gb146) (o:=.cells #[.int .u64 a0_0,.slice (some ad147) l0_1.length c0_1] 49 (0,0)) (by (with_reducible repeat (first|apply blk_drewN|apply blk_drew|apply blk_alloc));exact BK146.out)) : gb146 ≠ gb148));have n6_:=Aside0.mk ((by rw [hg];exact Nat.ne_of_gt (blk_lt (g:=gb146) (o:=.cells #[.int .u64 a0_0,.slice (some ad147) l0_1.length c0_1] 49 (0,0)) (by (with_reducible repeat (first|apply blk_drewN|apply blk_drew|apply blk_alloc));exact BK146.out)) : gb148 ≠ gb146));clear BK146;clear HB;have BK146:=n0_;have HB:=n1_;have BK148:=n2_;have GW148:=n3_;have GE148:=n4_;have NB146_148:=n5_;have NB148_146:=n6_;clear n0_ n1_ n2_ n3_ n4_ n5_ n6_;clear hb hbox hg;have hnb12:=NB148_146.out;have hnc12:=NB146_148.out;have hcz13_0 : w11.cell? ⟨gb148,0,none⟩ = some (.string (⟨#[]⟩ : ByteArray)):=(blk_cell BK148.out 0).trans rfl;have hcz13_1 : w11.cell? ⟨gb148,1,none⟩ = some (.string (⟨#[]⟩ : ByteArray)):=(blk_cell BK148.out 1).trans rfl;have hcz13_2 : w11.cell? ⟨gb148,2,none⟩ = some (.string (⟨#[]⟩ : ByteArray)):=(blk_cell BK148.out 2).trans rfl;have hcz13_3 : w11.cell? ⟨gb148,3,none⟩ = some (.int .u8 0):=(blk_cell BK148.out 3).trans rfl;have hcz13_4 : w11.cell? ⟨gb148,4,none⟩ = some (.int .u16 0):=(blk_cell BK148.out 4).trans rfl;have hcz13_5 : w11.cell? ⟨gb148,5,none⟩ = some (.slice none 0 0):=(blk_cell BK148.out 5).trans rfl;have hfz13_0:=blk_frozen BK148.out 0;have hfz13_1:=blk_frozen BK148.out 1;have hfz13_2:=blk_frozen BK148.out 2;have hfz13_3:=blk_frozen BK148.out 3;have hfz13_4:=blk_frozen BK148.out 4;have hfz13_5:=blk_frozen BK148.out 5)))
       (try simp only [Act.put,List.setIfInBounds_toArray,List.set_cons_zero,List.set_cons_succ])
       go_cut [18] (fun v18 wc=>∃ (kq : Nat) (x18_9 : Bool),v18 = .bool x18_9 ∧ Aside0 (cktwo_State_Check.j1 kq x13_1 l0_1 (l0_1.length : Int) x13_1 x18_9 a0_0 l0_1 ((rd_T98 l0_1 x13_1).f0) ((rd_T98 l0_1 x13_1).f1) ((rd_T98 l0_1 x13_1).f2) ((rd_T98 l0_1 x13_1).f3) ((rd_T98 l0_1 x13_1).f4) ((rd_T98 l0_1 x13_1).f5) = some r) ∧ Aside0 (kq ≤ k1) ∧ Aside0 (wc.heap[gb146]? = some (.cells #[.int .u64 a0_0,(.slice (some ad147) l0_1.length c0_1)] 49 (0,0))) ∧ Aside0 (wc.heap[gb148]? = some (.cells #[.string ((rd_T98 l0_1 x13_1).f0),.string ((rd_T98 l0_1 x13_1).f1),.string ((rd_T98 l0_1 x13_1).f2),.int .u8 ((rd_T98 l0_1 x13_1).f3),.int .u16 ((rd_T98 l0_1 x13_1).f4),(.slice A147_5 ((rd_T98 l0_1 x13_1).f5).length c147_5)] 98 (0,0))) ∧ Aside0 (Below w.heap.size w wc))
       case first =>
        have H:=HC10.out
        clear HC10
        replace H:=Option.bind_eq_some_iff.mp H
        obtain ⟨t149,A140,H⟩:=H
        replace H : (if t149 = true then ((dns_Name.f k1 ((rd_T98 l0_1 x13_1).f1)).bind fun t150=>(if t150 = true then ((dns_Label.f k1 ((rd_T98 l0_1 x13_1).f2)).bind fun t151=>(cktwo_State_Check.j1 k1 x13_1 l0_1 (l0_1.length : Int) x13_1 (!t151) a0_0 l0_1 ((rd_T98 l0_1 x13_1).f0) ((rd_T98 l0_1 x13_1).f1) ((rd_T98 l0_1 x13_1).f2) ((rd_T98 l0_1 x13_1).f3) ((rd_T98 l0_1 x13_1).f4) ((rd_T98 l0_1 x13_1).f5))) else (cktwo_State_Check.j1 k1 x13_1 l0_1 (l0_1.length : Int) x13_1 true a0_0 l0_1 ((rd_T98 l0_1 x13_1).f0) ((rd_T98 l0_1 x13_1).f1) ((rd_T98 l0_1 x13_1).f2) ((rd_T98 l0_1 x13_1).f3) ((rd_T98 l0_1 x13_1).f4) ((rd_T98 l0_1 x13_1).f5)))) else (cktwo_State_Check.j1 k1 x13_1 l0_1 (l0_1.length : Int) x13_1 true a0_0 l0_1 ((rd_T98 l0_1 x13_1).f0) ((rd_T98 l0_1 x13_1).f1) ((rd_T98 l0_1 x13_1).f2) ((rd_T98 l0_1 x13_1).f3) ((rd_T98 l0_1 x13_1).f4) ((rd_T98 l0_1 x13_1).f5))) = some r:=H
        have A14:=Aside0.mk A140
        clear A140
        by_cases c15 : t149 = true
        ·subst c15
         have H1 : ((dns_Name.f k1 ((rd_T98 l0_1 x13_1).f1)).bind fun t150=>(if t150 = true then ((dns_Label.f k1 ((rd_T98 l0_1 x13_1).f2)).bind fun t151=>(cktwo_State_Check.j1 k1 x13_1 l0_1 (l0_1.length : Int) x13_1 (!t151) a0_0 l0_1 ((rd_T98 l0_1 x13_1).f0) ((rd_T98 l0_1 x13_1).f1) ((rd_T98 l0_1 x13_1).f2) ((rd_T98 l0_1 x13_1).f3) ((rd_T98 l0_1 x13_1).f4) ((rd_T98 l0_1 x13_1).f5))) else (cktwo_State_Check.j1 k1 x13_1 l0_1 (l0_1.length : Int) x13_1 true a0_0 l0_1 ((rd_T98 l0_1 x13_1).f0) ((rd_T98 l0_1 x13_1).f1) ((rd_T98 l0_1 x13_1).f2) ((rd_T98 l0_1 x13_1).f3) ((rd_T98 l0_1 x13_1).f4) ((rd_T98 l0_1 x13_1).f5)))) = some r:=by rw [if_pos rfl] at H;exact H
         clear H
         have H:=H1
         clear H1
         replace H:=Option.bind_eq_some_iff.mp H
         obtain ⟨t150,A160,H⟩:=H
         replace H : (if t150 = true then ((dns_Label.f k1 ((rd_T98 l0_1 x13_1).f2)).bind fun t151=>(cktwo_State_Check.j1 k1 x13_1 l0_1 (l0_1.length : Int) x13_1 (!t151) a0_0 l0_1 ((rd_T98 l0_1 x13_1).f0) ((rd_T98 l0_1 x13_1).f1) ((rd_T98 l0_1 x13_1).f2) ((rd_T98 l0_1 x13_1).f3) ((rd_T98 l0_1 x13_1).f4) ((rd_T98 l0_1 x13_1).f5))) else (cktwo_State_Check.j1 k1 x13_1 l0_1 (l0_1.length : Int) x13_1 true a0_0 l0_1 ((rd_T98 l0_1 x13_1).f0) ((rd_T98 l0_1 x13_1).f1) ((rd_T98 l0_1 x13_1).f2) ((rd_T98 l0_1 x13_1).f3) ((rd_T98 l0_1 x13_1).f4) ((rd_T98 l0_1 x13_1).f5))) = some r:=H
         have A16:=Aside0.mk A160
         clear A160
         by_cases c17 : t150 = true
         ·subst c17
          have H1 : ((dns_Label.f k1 ((rd_T98 l0_1 x13_1).f2)).bind fun t151=>(cktwo_State_Check.j1 k1 x13_1 l0_1 (l0_1.length : Int) x13_1 (!t151) a0_0 l0_1 ((rd_T98 l0_1 x13_1).f0) ((rd_T98 l0_1 x13_1).f1) ((rd_T98 l0_1 x13_1).f2) ((rd_T98 l0_1 x13_1).f3) ((rd_T98 l0_1 x13_1).f4) ((rd_T98 l0_1 x13_1).f5))) = some r:=by rw [if_pos rfl] at H;exact H
          clear H
          have H:=H1
          clear H1
          replace H:=Option.bind_eq_some_iff.mp H
          obtain ⟨t151,A180,H⟩:=H
          replace H : (cktwo_State_Check.j1 k1 x13_1 l0_1 (l0_1.length : Int) x13_1 (!t151) a0_0 l0_1 ((rd_T98 l0_1 x13_1).f0) ((rd_T98 l0_1 x13_1).f1) ((rd_T98 l0_1 x13_1).f2) ((rd_T98 l0_1 x13_1).f3) ((rd_T98 l0_1 x13_1).f4) ((rd_T98 l0_1 x13_1).f5)) = some r:=H
          have A18:=Aside0.mk A180
          clear A180
          have H':=Aside0.mk H
          clear H
          have hnb19:=NB148_146.out
          have hnc19:=NB146_148.out
          have hcz20_0 : w11.cell? ⟨gb148,0,none⟩ = some (.string (⟨#[]⟩ : ByteArray)):=(blk_cell BK148.out 0).trans rfl
          have hcz20_1 : w11.cell? ⟨gb148,1,none⟩ = some (.string (⟨#[]⟩ : ByteArray)):=(blk_cell BK148.out 1).trans rfl
          have hcz20_2 : w11.cell? ⟨gb148,2,none⟩ = some (.string (⟨#[]⟩ : ByteArray)):=(blk_cell BK148.out 2).trans rfl
          have hcz20_3 : w11.cell? ⟨gb148,3,none⟩ = some (.int .u8 0):=(blk_cell BK148.out 3).trans rfl
          have hcz20_4 : w11.cell? ⟨gb148,4,none⟩ = some (.int .u16 0):=(blk_cell BK148.out 4).trans rfl
          have hcz20_5 : w11.cell? ⟨gb148,5,none⟩ = some (.slice none 0 0):=(blk_cell BK148.out 5).trans rfl
          have hfz20_0:=blk_frozen BK148.out 0
          have hfz20_1:=blk_frozen BK148.out 1
          have hfz20_2:=blk_frozen BK148.out 2
          have hfz20_3:=blk_frozen BK148.out 3
          have hfz20_4:=blk_frozen BK148.out 4
          have hfz20_5:=blk_frozen BK148.out 5
          go_wp2_with (first|(go_at_call 18;(with_reducible refine (ckone_File.calls k1 ((rd_T98 l0_1 x13_1).f0) true _ A14.out).mono ?_);rintro e w' ⟨rfl,⟨nd,rfl⟩⟩;(try first|exact ⟨rfl,_,World.drewN_drewN _ _ _⟩|exact ⟨rfl,_,Eq.trans (World.drewN_drewN _ _ _) (congrArg (World.drewN _) (Nat.add_assoc _ _ _))⟩))|(go_at_call 41;(with_reducible refine (dns_Name.calls k1 ((rd_T98 l0_1 x13_1).f1) true _ A16.out).mono ?_);rintro e w21 ⟨rfl,hb⟩;have n0_:=Aside0.mk (blk_below (g:=gb146) (o:=.cells #[.int .u64 a0_0,.slice (some ad147) l0_1.length c0_1] 49 (0,0)) (by (with_reducible repeat (first|apply blk_drewN|apply blk_drew|apply blk_alloc));refine blk_far ?_ NB146_148.out _;(with_reducible repeat (first|apply blk_drewN|apply blk_drew|apply blk_alloc));refine blk_far ?_ NB146_148.out _;(with_reducible repeat (first|apply blk_drewN|apply blk_drew|apply blk_alloc));refine blk_far ?_ NB146_148.out _;(with_reducible repeat (first|apply blk_drewN|apply blk_drew|apply blk_alloc));refine blk_far ?_ NB146_148.out _;(with_reducible repeat (first|apply blk_drewN|apply blk_drew|apply blk_alloc));refine blk_far ?_ NB146_148.out _;(with_reducible repeat (first|apply blk_drewN|apply blk_drew|apply blk_alloc));refine blk_far ?_ NB146_148.out _;(with_reducible repeat (first|apply blk_drewN|apply blk_drew|apply blk_alloc));exact BK146.out) hb);have n1_:=Aside0.mk (blk_below (g:=gb148) (o:=.cells #[.string ((rd_T98 l0_1 x13_1).f0),.string ((rd_T98 l0_1 x13_1).f1),.string ((rd_T98 l0_1 x13_1).f2),.int .u8 ((rd_T98 l0_1 x13_1).f3),.int .u16 ((rd_T98 l0_1 x13_1).f4),.slice A147_5 ((rd_T98 l0_1 x13_1).f5).length c147_5] 98 (0,0)) (by (with_reducible repeat (first|apply blk_drewN|apply blk_drew|apply blk_alloc));refine blk_put (cs:=#[.string ((rd_T98 l0_1 x13_1).f0),.string ((rd_T98 l0_1 x13_1).f1),.string ((rd_T98 l0_1 x13_1).f2),.int .u8 ((rd_T98 l0_1 x13_1).f3),.int .u16 ((rd_T98 l0_1 x13_1).f4),.slice none 0 0]) ?_ 5 _ rfl;(with_reducible repeat (first|apply blk_drewN|apply blk_drew|apply blk_alloc));refine blk_put (cs:=#[.string ((rd_T98 l0_1 x13_1).f0),.string ((rd_T98 l0_1 x13_1).f1),.string ((rd_T98 l0_1 x13_1).f2),.int .u8 ((rd_T98 l0_1 x13_1).f3),.int .u16 0,.slice none 0 0]) ?_ 4 _ rfl;(with_reducible repeat (first|apply blk_drewN|apply blk_drew|apply blk_alloc));refine blk_put (cs:=#[.string ((rd_T98 l0_1 x13_1).f0),.string ((rd_T98 l0_1 x13_1).f1),.string ((rd_T98 l0_1 x13_1).f2),.int .u8 0,.int .u16 0,.slice none 0 0]) ?_ 3 _ rfl;(with_reducible repeat (first|apply blk_drewN|apply blk_drew|apply blk_alloc));refine blk_put (cs:=#[.string ((rd_T98 l0_1 x13_1).f0),.string ((rd_T98 l0_1 x13_1).f1),.string (⟨#[]⟩ : ByteArray),.int .u8 0,.int .u16 0,.slice none 0 0]) ?_ 2 _ rfl;(with_reducible repeat (first|apply blk_drewN|apply blk_drew|apply blk_alloc));refine blk_put (cs:=#[.string ((rd_T98 l0_1 x13_1).f0),.string (⟨#[]⟩ : ByteArray),.string (⟨#[]⟩ : ByteArray),.int .u8 0,.int .u16 0,.slice none 0 0]) ?_ 1 _ rfl;(with_reducible repeat (first|apply blk_drewN|apply blk_drew|apply blk_alloc));refine blk_put (cs:=#[.string (⟨#[]⟩ : ByteArray),.string (⟨#[]⟩ : ByteArray),.string (⟨#[]⟩ : ByteArray),.int .u8 0,.int .u16 0,.slice none 0 0]) ?_ 0 _ rfl;(with_reducible repeat (first|apply blk_drewN|apply blk_drew|apply blk_alloc));exact BK148.out) hb);have n2_:=Aside0.mk (below_step (by repeat (first|(with_reducible first|exact HB.out|apply below_alloc|apply pw_below_drewN|apply below_drew1|refine below_set ?_ GE146.out|refine below_set ?_ GE148.out)|exact HB.out)) hb);clear BK146;clear BK148;clear HB;have BK146:=n0_;have BK148:=n1_;have HB:=n2_;clear n0_ n1_ n2_;(try clear hb);(try clear hb2);(try clear hk);(try clear hi);have hcz22_0 : w21.cell? ⟨gb148,0,none⟩ = some (.string ((rd_T98 l0_1 x13_1).f0)):=(blk_cell BK148.out 0).trans rfl;have hcz22_1 : w21.cell? ⟨gb148,1,none⟩ = some (.string ((rd_T98 l0_1 x13_1).f1)):=(blk_cell BK148.out 1).trans rfl;have hcz22_2 : w21.cell? ⟨gb148,2,none⟩ = some (.string ((rd_T98 l0_1 x13_1).f2)):=(blk_cell BK148.out 2).trans rfl;have hcz22_3 : w21.cell? ⟨gb148,3,none⟩ = some (.int .u8 ((rd_T98 l0_1 x13_1).f3)):=(blk_cell BK148.out 3).trans rfl;have hcz22_4 : w21.cell? ⟨gb148,4,none⟩ = some (.int .u16 ((rd_T98 l0_1 x13_1).f4)):=(blk_cell BK148.out 4).trans rfl;have hcz22_5 : w21.cell? ⟨gb148,5,none⟩ = some (.slice A147_5 ((rd_T98 l0_1 x13_1).f5).length c147_5):=(blk_cell BK148.out 5).trans rfl;have hfz22_0:=blk_frozen BK148.out 0;have hfz22_1:=blk_frozen BK148.out 1;have hfz22_2:=blk_frozen BK148.out 2;have hfz22_3:=blk_frozen BK148.out 3;have hfz22_4:=blk_frozen BK148.out 4;have hfz22_5:=blk_frozen BK148.out 5)|(go_at_call 56;(with_reducible refine (dns_Label.calls k1 ((rd_T98 l0_1 x13_1).f2) t151 _ A18.out).mono ?_);rintro e w' ⟨rfl,⟨nd,rfl⟩⟩;(try first|exact ⟨rfl,_,World.drewN_drewN _ _ _⟩|exact ⟨rfl,_,Eq.trans (World.drewN_drewN _ _ _) (congrArg (World.drewN _) (Nat.add_assoc _ _ _))⟩)))
          repeat (go_quiet (first|(go_at_call 18;(with_reducible refine (ckone_File.calls k1 ((rd_T98 l0_1 x13_1).f0) true _ A14.out).mono ?_);rintro e w' ⟨rfl,⟨nd,rfl⟩⟩;(try first|exact ⟨rfl,_,World.drewN_drewN _ _ _⟩|exact ⟨rfl,_,Eq.trans (World.drewN_drewN _ _ _) (congrArg (World.drewN _) (Nat.add_assoc _ _ _))⟩))|(go_at_call 41;(with_reducible refine (dns_Name.calls k1 ((rd_T98 l0_1 x13_1).f1) true _ A16.out).mono ?_);rintro e w21 ⟨rfl,hb⟩;have n0_:=Aside0.mk (blk_below (g:=gb146) (o:=.cells #[.int .u64 a0_0,.slice (some ad147) l0_1.length c0_1] 49 (0,0)) (by (with_reducible repeat (first|apply blk_drewN|apply blk_drew|apply blk_alloc));refine blk_far ?_ NB146_148.out _;(with_reducible repeat (first|apply blk_drewN|apply blk_drew|apply blk_alloc));refine blk_far ?_ NB146_148.out _;(with_reducible repeat (first|apply blk_drewN|apply blk_drew|apply blk_alloc));refine blk_far ?_ NB146_148.out _;(with_reducible repeat (first|apply blk_drewN|apply blk_drew|apply blk_alloc));refine blk_far ?_ NB146_148.out _;(with_reducible repeat (first|apply blk_drewN|apply blk_drew|apply blk_alloc));refine blk_far ?_ NB146_148.out _;(with_reducible repeat (first|apply blk_drewN|apply blk_drew|apply blk_alloc));refine blk_far ?_ NB146_148.out _;(with_reducible repeat (first|apply blk_drewN|apply blk_drew|apply blk_alloc));exact BK146.out) hb);have n1_:=Aside0.mk (blk_below (g:=gb148) (o:=.cells #[.string ((rd_T98 l0_1 x13_1).f0),.string ((rd_T98 l0_1 x13_1).f1),.string ((rd_T98 l0_1 x13_1).f2),.int .u8 ((rd_T98 l0_1 x13_1).f3),.int .u16 ((rd_T98 l0_1 x13_1).f4),.slice A147_5 ((rd_T98 l0_1 x13_1).f5).length c147_5] 98 (0,0)) (by (with_reducible repeat (first|apply blk_drewN|apply blk_drew|apply blk_alloc));refine blk_put (cs:=#[.string ((rd_T98 l0_1 x13_1).f0),.string ((rd_T98 l0_1 x13_1).f1),.string ((rd_T98 l0_1 x13_1).f2),.int .u8 ((rd_T98 l0_1 x13_1).f3),.int .u16 ((rd_T98 l0_1 x13_1).f4),.slice none 0 0]) ?_ 5 _ rfl;(with_reducible repeat (first|apply blk_drewN|apply blk_drew|apply blk_alloc));refine blk_put (cs:=#[.string ((rd_T98 l0_1 x13_1).f0),.string ((rd_T98 l0_1 x13_1).f1),.string ((rd_T98 l0_1 x13_1).f2),.int .u8 ((rd_T98 l0_1 x13_1).f3),.int .u16 0,.slice none 0 0]) ?_ 4 _ rfl;(with_reducible repeat (first|apply blk_drewN|apply blk_drew|apply blk_alloc));refine blk_put (cs:=#[.string ((rd_T98 l0_1 x13_1).f0),.string ((rd_T98 l0_1 x13_1).f1),.string ((rd_T98 l0_1 x13_1).f2),.int .u8 0,.int .u16 0,.slice none 0 0]) ?_ 3 _ rfl;(with_reducible repeat (first|apply blk_drewN|apply blk_drew|apply blk_alloc));refine blk_put (cs:=#[.string ((rd_T98 l0_1 x13_1).f0),.string ((rd_T98 l0_1 x13_1).f1),.string (⟨#[]⟩ : ByteArray),.int .u8 0,.int .u16 0,.slice none 0 0]) ?_ 2 _ rfl;(with_reducible repeat (first|apply blk_drewN|apply blk_drew|apply blk_alloc));refine blk_put (cs:=#[.string ((rd_T98 l0_1 x13_1).f0),.string (⟨#[]⟩ : ByteArray),.string (⟨#[]⟩ : ByteArray),.int .u8 0,.int .u16 0,.slice none 0 0]) ?_ 1 _ rfl;(with_reducible repeat (first|apply blk_drewN|apply blk_drew|apply blk_alloc));refine blk_put (cs:=#[.string (⟨#[]⟩ : ByteArray),.string (⟨#[]⟩ : ByteArray),.string (⟨#[]⟩ : ByteArray),.int .u8 0,.int .u16 0,.slice none 0 0]) ?_ 0 _ rfl;(with_reducible repeat (first|apply blk_drewN|apply blk_drew|apply blk_alloc));exact BK148.out) hb);have n2_:=Aside0.mk (below_step (by repeat (first|(with_reducible first|exact HB.out|apply below_alloc|apply pw_below_drewN|apply below_drew1|refine below_set ?_ GE146.out|refine below_set ?_ GE148.out)|exact HB.out)) hb);clear BK146;clear BK148;clear HB;have BK146:=n0_;have BK148:=n1_;have HB:=n2_;clear n0_ n1_ n2_;(try clear hb);(try clear hb2);(try clear hk);(try clear hi);have hcz22_0 : w21.cell? ⟨gb148,0,none⟩ = some (.string ((rd_T98 l0_1 x13_1).f0)):=(blk_cell BK148.out 0).trans rfl;have hcz22_1 : w21.cell? ⟨gb148,1,none⟩ = some (.string ((rd_T98 l0_1 x13_1).f1)):=(blk_cell BK148.out 1).trans rfl;have hcz22_2 : w21.cell? ⟨gb148,2,none⟩ = some (.string ((rd_T98 l0_1 x13_1).f2)):=(blk_cell BK148.out 2).trans rfl;have hcz22_3 : w21.cell? ⟨gb148,3,none⟩ = some (.int .u8 ((rd_T98 l0_1 x13_1).f3)):=(blk_cell BK148.out 3).trans rfl;have hcz22_4 : w21.cell? ⟨gb148,4,none⟩ = some (.int .u16 ((rd_T98 l0_1 x13_1).f4)):=(blk_cell BK148.out 4).trans rfl;have hcz22_5 : w21.cell? ⟨gb148,5,none⟩ = some (.slice A147_5 ((rd_T98 l0_1 x13_1).f5).length c147_5):=(blk_cell BK148.out 5).trans rfl;have hfz22_0:=blk_frozen BK148.out 0;have hfz22_1:=blk_frozen BK148.out 1;have hfz22_2:=blk_frozen BK148.out 2;have hfz22_3:=blk_frozen BK148.out 3;have hfz22_4:=blk_frozen BK148.out 4;have hfz22_5:=blk_frozen BK148.out 5)|(go_at_call 56;(with_reducible refine (dns_Label.calls k1 ((rd_T98 l0_1 x13_1).f2) t151 _ A18.out).mono ?_);rintro e w' ⟨rfl,⟨nd,rfl⟩⟩;(try first|exact ⟨rfl,_,World.drewN_drewN _ _ _⟩|exact ⟨rfl,_,Eq.trans (World.drewN_drewN _ _ _) (congrArg (World.drewN _) (Nat.add_assoc _ _ _))⟩)));try go_wp2_with (first|(go_at_call 18;(with_reducible refine (ckone_File.calls k1 ((rd_T98 l0_1 x13_1).f0) true _ A14.out).mono ?_);rintro e w' ⟨rfl,⟨nd,rfl⟩⟩;(try first|exact ⟨rfl,_,World.drewN_drewN _ _ _⟩|exact ⟨rfl,_,Eq.trans (World.drewN_drewN _ _ _) (congrArg (World.drewN _) (Nat.add_assoc _ _ _))⟩))|(go_at_call 41;(with_reducible refine (dns_Name.calls k1 ((rd_T98 l0_1 x13_1).f1) true _ A16.out).mono ?_);rintro e w21 ⟨rfl,hb⟩;have n0_:=Aside0.mk (blk_below (g:=gb146) (o:=.cells #[.int .u64 a0_0,.slice (some ad147) l0_1.length c0_1] 49 (0,0)) (by (with_reducible repeat (first|apply blk_drewN|apply blk_drew|apply blk_alloc));refine blk_far ?_ NB146_148.out _;(with_reducible repeat (first|apply blk_drewN|apply blk_drew|apply blk_alloc));refine blk_far ?_ NB146_148.out _;(with_reducible repeat (first|apply blk_drewN|apply blk_drew|apply blk_alloc));refine blk_far ?_ NB146_148.out _;(with_reducible repeat (first|apply blk_drewN|apply blk_drew|apply blk_alloc));refine blk_far ?_ NB146_148.out _;(with_reducible repeat (first|apply blk_drewN|apply blk_drew|apply blk_alloc));refine blk_far ?_ NB146_148.out _;(with_reducible repeat (first|apply blk_drewN|apply blk_drew|apply blk_alloc));refine blk_far ?_ NB146_148.out _;(with_reducible repeat (first|apply blk_drewN|apply blk_drew|apply blk_alloc));exact BK146.out) hb);have n1_:=Aside0.mk (blk_below (g:=gb148) (o:=.cells #[.string ((rd_T98 l0_1 x13_1).f0),.string ((rd_T98 l0_1 x13_1).f1),.string ((rd_T98 l0_1 x13_1).f2),.int .u8 ((rd_T98 l0_1 x13_1).f3),.int .u16 ((rd_T98 l0_1 x13_1).f4),.slice A147_5 ((rd_T98 l0_1 x13_1).f5).length c147_5] 98 (0,0)) (by (with_reducible repeat (first|apply blk_drewN|apply blk_drew|apply blk_alloc));refine blk_put (cs:=#[.string ((rd_T98 l0_1 x13_1).f0),.string ((rd_T98 l0_1 x13_1).f1),.string ((rd_T98 l0_1 x13_1).f2),.int .u8 ((rd_T98 l0_1 x13_1).f3),.int .u16 ((rd_T98 l0_1 x13_1).f4),.slice none 0 0]) ?_ 5 _ rfl;(with_reducible repeat (first|apply blk_drewN|apply blk_drew|apply blk_alloc));refine blk_put (cs:=#[.string ((rd_T98 l0_1 x13_1).f0),.string ((rd_T98 l0_1 x13_1).f1),.string ((rd_T98 l0_1 x13_1).f2),.int .u8 ((rd_T98 l0_1 x13_1).f3),.int .u16 0,.slice none 0 0]) ?_ 4 _ rfl;(with_reducible repeat (first|apply blk_drewN|apply blk_drew|apply blk_alloc));refine blk_put (cs:=#[.string ((rd_T98 l0_1 x13_1).f0),.string ((rd_T98 l0_1 x13_1).f1),.string ((rd_T98 l0_1 x13_1).f2),.int .u8 0,.int .u16 0,.slice none 0 0]) ?_ 3 _ rfl;(with_reducible repeat (first|apply blk_drewN|apply blk_drew|apply blk_alloc));refine blk_put (cs:=#[.string ((rd_T98 l0_1 x13_1).f0),.string ((rd_T98 l0_1 x13_1).f1),.string (⟨#[]⟩ : ByteArray),.int .u8 0,.int .u16 0,.slice none 0 0]) ?_ 2 _ rfl;(with_reducible repeat (first|apply blk_drewN|apply blk_drew|apply blk_alloc));refine blk_put (cs:=#[.string ((rd_T98 l0_1 x13_1).f0),.string (⟨#[]⟩ : ByteArray),.string (⟨#[]⟩ : ByteArray),.int .u8 0,.int .u16 0,.slice none 0 0]) ?_ 1 _ rfl;(with_reducible repeat (first|apply blk_drewN|apply blk_drew|apply blk_alloc));refine blk_put (cs:=#[.string (⟨#[]⟩ : ByteArray),.string (⟨#[]⟩ : ByteArray),.string (⟨#[]⟩ : ByteArray),.int .u8 0,.int .u16 0,.slice none 0 0]) ?_ 0 _ rfl;(with_reducible repeat (first|apply blk_drewN|apply blk_drew|apply blk_alloc));exact BK148.out) hb);have n2_:=Aside0.mk (below_step (by repeat (first|(with_reducible first|exact HB.out|apply below_alloc|apply pw_below_drewN|apply below_drew1|refine below_set ?_ GE146.out|refine below_set ?_ GE148.out)|exact HB.out)) hb);clear BK146;clear BK148;clear HB;have BK146:=n0_;have BK148:=n1_;have HB:=n2_;clear n0_ n1_ n2_;(try clear hb);(try clear hb2);(try clear hk);(try clear hi);have hcz22_0 : w21.cell? ⟨gb148,0,none⟩ = some (.string ((rd_T98 l0_1 x13_1).f0)):=(blk_cell BK148.out 0).trans rfl;have hcz22_1 : w21.cell? ⟨gb148,1,none⟩ = some (.string ((rd_T98 l0_1 x13_1).f1)):=(blk_cell BK148.out 1).trans rfl;have hcz22_2 : w21.cell? ⟨gb148,2,none⟩ = some (.string ((rd_T98 l0_1 x13_1).f2)):=(blk_cell BK148.out 2).trans rfl;have hcz22_3 : w21.cell? ⟨gb148,3,none⟩ = some (.int .u8 ((rd_T98 l0_1 x13_1).f3)):=(blk_cell BK148.out 3).trans rfl;have hcz22_4 : w21.cell? ⟨gb148,4,none⟩ = some (.int .u16 ((rd_T98 l0_1 x13_1).f4)):=(blk_cell BK148.out 4).trans rfl;have hcz22_5 : w21.cell? ⟨gb148,5,none⟩ = some (.slice A147_5 ((rd_T98 l0_1 x13_1).f5).length c147_5):=(blk_cell BK148.out 5).trans rfl;have hfz22_0:=blk_frozen BK148.out 0;have hfz22_1:=blk_frozen BK148.out 1;have hfz22_2:=blk_frozen BK148.out 2;have hfz22_3:=blk_frozen BK148.out 3;have hfz22_4:=blk_frozen BK148.out 4;have hfz22_5:=blk_frozen BK148.out 5)|(go_at_call 56;(with_reducible refine (dns_Label.calls k1 ((rd_T98 l0_1 x13_1).f2) t151 _ A18.out).mono ?_);rintro e w' ⟨rfl,⟨nd,rfl⟩⟩;(try first|exact ⟨rfl,_,World.drewN_drewN _ _ _⟩|exact ⟨rfl,_,Eq.trans (World.drewN_drewN _ _ _) (congrArg (World.drewN _) (Nat.add_assoc _ _ _))⟩))))
          go_meet
          case rel=>exact ⟨_,(!t151),(by first|rfl|(simp;done)|(simp [*];done)),H',⟨by have:=HK1.out;first|omega|exact Nat.le_refl _⟩,⟨by (with_reducible repeat (first|apply blk_drewN|apply blk_drew|apply blk_alloc));exact BK146.out⟩,⟨by (with_reducible repeat (first|apply blk_drewN|apply blk_drew|apply blk_alloc));exact BK148.out⟩,⟨by repeat (first|(with_reducible first|exact HB.out|apply below_alloc|apply pw_below_drewN|apply below_drew1|refine below_set ?_ GE146.out|refine below_set ?_ GE148.out)|exact HB.out)⟩⟩
         ·replace c17:=Bool.eq_false_iff.mpr c17
          subst c17
          have H1 : (cktwo_State_Check.j1 k1 x13_1 l0_1 (l0_1.length : Int) x13_1 true a0_0 l0_1 ((rd_T98 l0_1 x13_1).f0) ((rd_T98 l0_1 x13_1).f1) ((rd_T98 l0_1 x13_1).f2) ((rd_T98 l0_1 x13_1).f3) ((rd_T98 l0_1 x13_1).f4) ((rd_T98 l0_1 x13_1).f5)) = some r:=by rw [if_neg (show ¬ (false = true) by decide)] at H;exact H
          clear H
          have H:=H1
          clear H1
          have H':=Aside0.mk H
          clear H
          have hnb23:=NB148_146.out
          have hnc23:=NB146_148.out
          have hcz24_0 : w11.cell? ⟨gb148,0,none⟩ = some (.string (⟨#[]⟩ : ByteArray)):=(blk_cell BK148.out 0).trans rfl
          have hcz24_1 : w11.cell? ⟨gb148,1,none⟩ = some (.string (⟨#[]⟩ : ByteArray)):=(blk_cell BK148.out 1).trans rfl
          have hcz24_2 : w11.cell? ⟨gb148,2,none⟩ = some (.string (⟨#[]⟩ : ByteArray)):=(blk_cell BK148.out 2).trans rfl
          have hcz24_3 : w11.cell? ⟨gb148,3,none⟩ = some (.int .u8 0):=(blk_cell BK148.out 3).trans rfl
          have hcz24_4 : w11.cell? ⟨gb148,4,none⟩ = some (.int .u16 0):=(blk_cell BK148.out 4).trans rfl
          have hcz24_5 : w11.cell? ⟨gb148,5,none⟩ = some (.slice none 0 0):=(blk_cell BK148.out 5).trans rfl
          have hfz24_0:=blk_frozen BK148.out 0
          have hfz24_1:=blk_frozen BK148.out 1
          have hfz24_2:=blk_frozen BK148.out 2
          have hfz24_3:=blk_frozen BK148.out 3
          have hfz24_4:=blk_frozen BK148.out 4
          have hfz24_5:=blk_frozen BK148.out 5
          go_wp2_with (first|(go_at_call 18;(with_reducible refine (ckone_File.calls k1 ((rd_T98 l0_1 x13_1).f0) true _ A14.out).mono ?_);rintro e w' ⟨rfl,⟨nd,rfl⟩⟩;(try first|exact ⟨rfl,_,World.drewN_drewN _ _ _⟩|exact ⟨rfl,_,Eq.trans (World.drewN_drewN _ _ _) (congrArg (World.drewN _) (Nat.add_assoc _ _ _))⟩))|(go_at_call 41;(with_reducible refine (dns_Name.calls k1 ((rd_T98 l0_1 x13_1).f1) false _ A16.out).mono ?_);rintro e w25 ⟨rfl,hb⟩;have n0_:=Aside0.mk (blk_below (g:=gb146) (o:=.cells #[.int .u64 a0_0,.slice (some ad147) l0_1.length c0_1] 49 (0,0)) (by (with_reducible repeat (first|apply blk_drewN|apply blk_drew|apply blk_alloc));refine blk_far ?_ NB146_148.out _;(with_reducible repeat (first|apply blk_drewN|apply blk_drew|apply blk_alloc));refine blk_far ?_ NB146_148.out _;(with_reducible repeat (first|apply blk_drewN|apply blk_drew|apply blk_alloc));refine blk_far ?_ NB146_148.out _;(with_reducible repeat (first|apply blk_drewN|apply blk_drew|apply blk_alloc));refine blk_far ?_ NB146_148.out _;(with_reducible repeat (first|apply blk_drewN|apply blk_drew|apply blk_alloc));refine blk_far ?_ NB146_148.out _;(with_reducible repeat (first|apply blk_drewN|apply blk_drew|apply blk_alloc));refine blk_far ?_ NB146_148.out _;(with_reducible repeat (first|apply blk_drewN|apply blk_drew|apply blk_alloc));exact BK146.out) hb);have n1_:=Aside0.mk (blk_below (g:=gb148) (o:=.cells #[.string ((rd_T98 l0_1 x13_1).f0),.string ((rd_T98 l0_1 x13_1).f1),.string ((rd_T98 l0_1 x13_1).f2),.int .u8 ((rd_T98 l0_1 x13_1).f3),.int .u16 ((rd_T98 l0_1 x13_1).f4),.slice A147_5 ((rd_T98 l0_1 x13_1).f5).length c147_5] 98 (0,0)) (by (with_reducible repeat (first|apply blk_drewN|apply blk_drew|apply blk_alloc));refine blk_put (cs:=#[.string ((rd_T98 l0_1 x13_1).f0),.string ((rd_T98 l0_1 x13_1).f1),.string ((rd_T98 l0_1 x13_1).f2),.int .u8 ((rd_T98 l0_1 x13_1).f3),.int .u16 ((rd_T98 l0_1 x13_1).f4),.slice none 0 0]) ?_ 5 _ rfl;(with_reducible repeat (first|apply blk_drewN|apply blk_drew|apply blk_alloc));refine blk_put (cs:=#[.string ((rd_T98 l0_1 x13_1).f0),.string ((rd_T98 l0_1 x13_1).f1),.string ((rd_T98 l0_1 x13_1).f2),.int .u8 ((rd_T98 l0_1 x13_1).f3),.int .u16 0,.slice none 0 0]) ?_ 4 _ rfl;(with_reducible repeat (first|apply blk_drewN|apply blk_drew|apply blk_alloc));refine blk_put (cs:=#[.string ((rd_T98 l0_1 x13_1).f0),.string ((rd_T98 l0_1 x13_1).f1),.string ((rd_T98 l0_1 x13_1).f2),.int .u8 0,.int .u16 0,.slice none 0 0]) ?_ 3 _ rfl;(with_reducible repeat (first|apply blk_drewN|apply blk_drew|apply blk_alloc));refine blk_put (cs:=#[.string ((rd_T98 l0_1 x13_1).f0),.string ((rd_T98 l0_1 x13_1).f1),.string (⟨#[]⟩ : ByteArray),.int .u8 0,.int .u16 0,.slice none 0 0]) ?_ 2 _ rfl;(with_reducible repeat (first|apply blk_drewN|apply blk_drew|apply blk_alloc));refine blk_put (cs:=#[.string ((rd_T98 l0_1 x13_1).f0),.string (⟨#[]⟩ : ByteArray),.string (⟨#[]⟩ : ByteArray),.int .u8 0,.int .u16 0,.slice none 0 0]) ?_ 1 _ rfl;(with_reducible repeat (first|apply blk_drewN|apply blk_drew|apply blk_alloc));refine blk_put (cs:=#[.string (⟨#[]⟩ : ByteArray),.string (⟨#[]⟩ : ByteArray),.string (⟨#[]⟩ : ByteArray),.int .u8 0,.int .u16 0,.slice none 0 0]) ?_ 0 _ rfl;(with_reducible repeat (first|apply blk_drewN|apply blk_drew|apply blk_alloc));exact BK148.out) hb);have n2_:=Aside0.mk (below_step (by repeat (first|(with_reducible first|exact HB.out|apply below_alloc|apply pw_below_drewN|apply below_drew1|refine below_set ?_ GE146.out|refine below_set ?_ GE148.out)|exact HB.out)) hb);clear BK146;clear BK148;clear HB;have BK146:=n0_;have BK148:=n1_;have HB:=n2_;clear n0_ n1_ n2_;(try clear hb);(try clear hb2);(try clear hk);(try clear hi)))
          repeat (go_quiet (first|(go_at_call 18;(with_reducible refine (ckone_File.calls k1 ((rd_T98 l0_1 x13_1).f0) true _ A14.out).mono ?_);rintro e w' ⟨rfl,⟨nd,rfl⟩⟩;(try first|exact ⟨rfl,_,World.drewN_drewN _ _ _⟩|exact ⟨rfl,_,Eq.trans (World.drewN_drewN _ _ _) (congrArg (World.drewN _) (Nat.add_assoc _ _ _))⟩))|(go_at_call 41;(with_reducible refine (dns_Name.calls k1 ((rd_T98 l0_1 x13_1).f1) false _ A16.out).mono ?_);rintro e w25 ⟨rfl,hb⟩;have n0_:=Aside0.mk (blk_below (g:=gb146) (o:=.cells #[.int .u64 a0_0,.slice (some ad147) l0_1.length c0_1] 49 (0,0)) (by (with_reducible repeat (first|apply blk_drewN|apply blk_drew|apply blk_alloc));refine blk_far ?_ NB146_148.out _;(with_reducible repeat (first|apply blk_drewN|apply blk_drew|apply blk_alloc));refine blk_far ?_ NB146_148.out _;(with_reducible repeat (first|apply blk_drewN|apply blk_drew|apply blk_alloc));refine blk_far ?_ NB146_148.out _;(with_reducible repeat (first|apply blk_drewN|apply blk_drew|apply blk_alloc));refine blk_far ?_ NB146_148.out _;(with_reducible repeat (first|apply blk_drewN|apply blk_drew|apply blk_alloc));refine blk_far ?_ NB146_148.out _;(with_reducible repeat (first|apply blk_drewN|apply blk_drew|apply blk_alloc));refine blk_far ?_ NB146_148.out _;(with_reducible repeat (first|apply blk_drewN|apply blk_drew|apply blk_alloc));exact BK146.out) hb);have n1_:=Aside0.mk (blk_below (g:=gb148) (o:=.cells #[.string ((rd_T98 l0_1 x13_1).f0),.string ((rd_T98 l0_1 x13_1).f1),.string ((rd_T98 l0_1 x13_1).f2),.int .u8 ((rd_T98 l0_1 x13_1).f3),.int .u16 ((rd_T98 l0_1 x13_1).f4),.slice A147_5 ((rd_T98 l0_1 x13_1).f5).length c147_5] 98 (0,0)) (by (with_reducible repeat (first|apply blk_drewN|apply blk_drew|apply blk_alloc));refine blk_put (cs:=#[.string ((rd_T98 l0_1 x13_1).f0),.string ((rd_T98 l0_1 x13_1).f1),.string ((rd_T98 l0_1 x13_1).f2),.int .u8 ((rd_T98 l0_1 x13_1).f3),.int .u16 ((rd_T98 l0_1 x13_1).f4),.slice none 0 0]) ?_ 5 _ rfl;(with_reducible repeat (first|apply blk_drewN|apply blk_drew|apply blk_alloc));refine blk_put (cs:=#[.string ((rd_T98 l0_1 x13_1).f0),.string ((rd_T98 l0_1 x13_1).f1),.string ((rd_T98 l0_1 x13_1).f2),.int .u8 ((rd_T98 l0_1 x13_1).f3),.int .u16 0,.slice none 0 0]) ?_ 4 _ rfl;(with_reducible repeat (first|apply blk_drewN|apply blk_drew|apply blk_alloc));refine blk_put (cs:=#[.string ((rd_T98 l0_1 x13_1).f0),.string ((rd_T98 l0_1 x13_1).f1),.string ((rd_T98 l0_1 x13_1).f2),.int .u8 0,.int .u16 0,.slice none 0 0]) ?_ 3 _ rfl;(with_reducible repeat (first|apply blk_drewN|apply blk_drew|apply blk_alloc));refine blk_put (cs:=#[.string ((rd_T98 l0_1 x13_1).f0),.string ((rd_T98 l0_1 x13_1).f1),.string (⟨#[]⟩ : ByteArray),.int .u8 0,.int .u16 0,.slice none 0 0]) ?_ 2 _ rfl;(with_reducible repeat (first|apply blk_drewN|apply blk_drew|apply blk_alloc));refine blk_put (cs:=#[.string ((rd_T98 l0_1 x13_1).f0),.string (⟨#[]⟩ : ByteArray),.string (⟨#[]⟩ : ByteArray),.int .u8 0,.int .u16 0,.slice none 0 0]) ?_ 1 _ rfl;(with_reducible repeat (first|apply blk_drewN|apply blk_drew|apply blk_alloc));refine blk_put (cs:=#[.string (⟨#[]⟩ : ByteArray),.string (⟨#[]⟩ : ByteArray),.string (⟨#[]⟩ : ByteArray),.int .u8 0,.int .u16 0,.slice none 0 0]) ?_ 0 _ rfl;(with_reducible repeat (first|apply blk_drewN|apply blk_drew|apply blk_alloc));exact BK148.out) hb);have n2_:=Aside0.mk (below_step (by repeat (first|(with_reducible first|exact HB.out|apply below_alloc|apply pw_below_drewN|apply below_drew1|refine below_set ?_ GE146.out|refine below_set ?_ GE148.out)|exact HB.out)) hb);clear BK146;clear BK148;clear HB;have BK146:=n0_;have BK148:=n1_;have HB:=n2_;clear n0_ n1_ n2_;(try clear hb);(try clear hb2);(try clear hk);(try clear hi)));try go_wp2_with (first|(go_at_call 18;(with_reducible refine (ckone_File.calls k1 ((rd_T98 l0_1 x13_1).f0) true _ A14.out).mono ?_);rintro e w' ⟨rfl,⟨nd,rfl⟩⟩;(try first|exact ⟨rfl,_,World.drewN_drewN _ _ _⟩|exact ⟨rfl,_,Eq.trans (World.drewN_drewN _ _ _) (congrArg (World.drewN _) (Nat.add_assoc _ _ _))⟩))|(go_at_call 41;(with_reducible refine (dns_Name.calls k1 ((rd_T98 l0_1 x13_1).f1) false _ A16.out).mono ?_);rintro e w25 ⟨rfl,hb⟩;have n0_:=Aside0.mk (blk_below (g:=gb146) (o:=.cells #[.int .u64 a0_0,.slice (some ad147) l0_1.length c0_1] 49 (0,0)) (by (with_reducible repeat (first|apply blk_drewN|apply blk_drew|apply blk_alloc));refine blk_far ?_ NB146_148.out _;(with_reducible repeat (first|apply blk_drewN|apply blk_drew|apply blk_alloc));refine blk_far ?_ NB146_148.out _;(with_reducible repeat (first|apply blk_drewN|apply blk_drew|apply blk_alloc));refine blk_far ?_ NB146_148.out _;(with_reducible repeat (first|apply blk_drewN|apply blk_drew|apply blk_alloc));refine blk_far ?_ NB146_148.out _;(with_reducible repeat (first|apply blk_drewN|apply blk_drew|apply blk_alloc));refine blk_far ?_ NB146_148.out _;(with_reducible repeat (first|apply blk_drewN|apply blk_drew|apply blk_alloc));refine blk_far ?_ NB146_148.out _;(with_reducible repeat (first|apply blk_drewN|apply blk_drew|apply blk_alloc));exact BK146.out) hb);have n1_:=Aside0.mk (blk_below (g:=gb148) (o:=.cells #[.string ((rd_T98 l0_1 x13_1).f0),.string ((rd_T98 l0_1 x13_1).f1),.string ((rd_T98 l0_1 x13_1).f2),.int .u8 ((rd_T98 l0_1 x13_1).f3),.int .u16 ((rd_T98 l0_1 x13_1).f4),.slice A147_5 ((rd_T98 l0_1 x13_1).f5).length c147_5] 98 (0,0)) (by (with_reducible repeat (first|apply blk_drewN|apply blk_drew|apply blk_alloc));refine blk_put (cs:=#[.string ((rd_T98 l0_1 x13_1).f0),.string ((rd_T98 l0_1 x13_1).f1),.string ((rd_T98 l0_1 x13_1).f2),.int .u8 ((rd_T98 l0_1 x13_1).f3),.int .u16 ((rd_T98 l0_1 x13_1).f4),.slice none 0 0]) ?_ 5 _ rfl;(with_reducible repeat (first|apply blk_drewN|apply blk_drew|apply blk_alloc));refine blk_put (cs:=#[.string ((rd_T98 l0_1 x13_1).f0),.string ((rd_T98 l0_1 x13_1).f1),.string ((rd_T98 l0_1 x13_1).f2),.int .u8 ((rd_T98 l0_1 x13_1).f3),.int .u16 0,.slice none 0 0]) ?_ 4 _ rfl;(with_reducible repeat (first|apply blk_drewN|apply blk_drew|apply blk_alloc));refine blk_put (cs:=#[.string ((rd_T98 l0_1 x13_1).f0),.string ((rd_T98 l0_1 x13_1).f1),.string ((rd_T98 l0_1 x13_1).f2),.int .u8 0,.int .u16 0,.slice none 0 0]) ?_ 3 _ rfl;(with_reducible repeat (first|apply blk_drewN|apply blk_drew|apply blk_alloc));refine blk_put (cs:=#[.string ((rd_T98 l0_1 x13_1).f0),.string ((rd_T98 l0_1 x13_1).f1),.string (⟨#[]⟩ : ByteArray),.int .u8 0,.int .u16 0,.slice none 0 0]) ?_ 2 _ rfl;(with_reducible repeat (first|apply blk_drewN|apply blk_drew|apply blk_alloc));refine blk_put (cs:=#[.string ((rd_T98 l0_1 x13_1).f0),.string (⟨#[]⟩ : ByteArray),.string (⟨#[]⟩ : ByteArray),.int .u8 0,.int .u16 0,.slice none 0 0]) ?_ 1 _ rfl;(with_reducible repeat (first|apply blk_drewN|apply blk_drew|apply blk_alloc));refine blk_put (cs:=#[.string (⟨#[]⟩ : ByteArray),.string (⟨#[]⟩ : ByteArray),.string (⟨#[]⟩ : ByteArray),.int .u8 0,.int .u16 0,.slice none 0 0]) ?_ 0 _ rfl;(with_reducible repeat (first|apply blk_drewN|apply blk_drew|apply blk_alloc));exact BK148.out) hb);have n2_:=Aside0.mk (below_step (by repeat (first|(with_reducible first|exact HB.out|apply below_alloc|apply pw_below_drewN|apply below_drew1|refine below_set ?_ GE146.out|refine below_set ?_ GE148.out)|exact HB.out)) hb);clear BK146;clear BK148;clear HB;have BK146:=n0_;have BK148:=n1_;have HB:=n2_;clear n0_ n1_ n2_;(try clear hb);(try clear hb2);(try clear hk);(try clear hi))))
          go_meet
          case rel=>exact ⟨_,(true),(by first|rfl|(simp;done)|(simp [*];done)),H',⟨by have:=HK1.out;first|omega|exact Nat.le_refl _⟩,⟨by (with_reducible repeat (first|apply blk_drewN|apply blk_drew|apply blk_alloc));exact BK146.out⟩,⟨by (with_reducible repeat (first|apply blk_drewN|apply blk_drew|apply blk_alloc));exact BK148.out⟩,⟨by repeat (first|(with_reducible first|exact HB.out|apply below_alloc|apply pw_below_drewN|apply below_drew1|refine below_set ?_ GE146.out|refine below_set ?_ GE148.out)|exact HB.out)⟩⟩
        ·replace c15:=Bool.eq_false_iff.mpr c15
         subst c15
         have H1 : (cktwo_State_Check.j1 k1 x13_1 l0_1 (l0_1.length : Int) x13_1 true a0_0 l0_1 ((rd_T98 l0_1 x13_1).f0) ((rd_T98 l0_1 x13_1).f1) ((rd_T98 l0_1 x13_1).f2) ((rd_T98 l0_1 x13_1).f3) ((rd_T98 l0_1 x13_1).f4) ((rd_T98 l0_1 x13_1).f5)) = some r:=by rw [if_neg (show ¬ (false = true) by decide)] at H;exact H
         clear H
         have H:=H1
         clear H1
         have H':=Aside0.mk H
         clear H
         have hnb26:=NB148_146.out
         have hnc26:=NB146_148.out
         have hcz27_0 : w11.cell? ⟨gb148,0,none⟩ = some (.string (⟨#[]⟩ : ByteArray)):=(blk_cell BK148.out 0).trans rfl
         have hcz27_1 : w11.cell? ⟨gb148,1,none⟩ = some (.string (⟨#[]⟩ : ByteArray)):=(blk_cell BK148.out 1).trans rfl
         have hcz27_2 : w11.cell? ⟨gb148,2,none⟩ = some (.string (⟨#[]⟩ : ByteArray)):=(blk_cell BK148.out 2).trans rfl
         have hcz27_3 : w11.cell? ⟨gb148,3,none⟩ = some (.int .u8 0):=(blk_cell BK148.out 3).trans rfl
         have hcz27_4 : w11.cell? ⟨gb148,4,none⟩ = some (.int .u16 0):=(blk_cell BK148.out 4).trans rfl
         have hcz27_5 : w11.cell? ⟨gb148,5,none⟩ = some (.slice none 0 0):=(blk_cell BK148.out 5).trans rfl
         have hfz27_0:=blk_frozen BK148.out 0
         have hfz27_1:=blk_frozen BK148.out 1
         have hfz27_2:=blk_frozen BK148.out 2
         have hfz27_3:=blk_frozen BK148.out 3
         have hfz27_4:=blk_frozen BK148.out 4
         have hfz27_5:=blk_frozen BK148.out 5
         go_wp2_with (first|(go_at_call 18;(with_reducible refine (ckone_File.calls k1 ((rd_T98 l0_1 x13_1).f0) false _ A14.out).mono ?_);rintro e w' ⟨rfl,⟨nd,rfl⟩⟩;(try first|exact ⟨rfl,_,World.drewN_drewN _ _ _⟩|exact ⟨rfl,_,Eq.trans (World.drewN_drewN _ _ _) (congrArg (World.drewN _) (Nat.add_assoc _ _ _))⟩)))
         repeat (go_quiet (first|(go_at_call 18;(with_reducible refine (ckone_File.calls k1 ((rd_T98 l0_1 x13_1).f0) false _ A14.out).mono ?_);rintro e w' ⟨rfl,⟨nd,rfl⟩⟩;(try first|exact ⟨rfl,_,World.drewN_drewN _ _ _⟩|exact ⟨rfl,_,Eq.trans (World.drewN_drewN _ _ _) (congrArg (World.drewN _) (Nat.add_assoc _ _ _))⟩)));try go_wp2_with (first|(go_at_call 18;(with_reducible refine (ckone_File.calls k1 ((rd_T98 l0_1 x13_1).f0) false _ A14.out).mono ?_);rintro e w' ⟨rfl,⟨nd,rfl⟩⟩;(try first|exact ⟨rfl,_,World.drewN_drewN _ _ _⟩|exact ⟨rfl,_,Eq.trans (World.drewN_drewN _ _ _) (congrArg (World.drewN _) (Nat.add_assoc _ _ _))⟩))))
         go_meet
         case rel=>exact ⟨_,(true),(by first|rfl|(simp;done)|(simp [*];done)),H',⟨by have:=HK1.out;first|omega|exact Nat.le_refl _⟩,⟨by (with_reducible repeat (first|apply blk_drewN|apply blk_drew|apply blk_alloc));refine blk_far ?_ NB146_148.out _;(with_reducible repeat (first|apply blk_drewN|apply blk_drew|apply blk_alloc));refine blk_far ?_ NB146_148.out _;(with_reducible repeat (first|apply blk_drewN|apply blk_drew|apply blk_alloc));refine blk_far ?_ NB146_148.out _;(with_reducible repeat (first|apply blk_drewN|apply blk_drew|apply blk_alloc));refine blk_far ?_ NB146_148.out _;(with_reducible repeat (first|apply blk_drewN|apply blk_drew|apply blk_alloc));refine blk_far ?_ NB146_148.out _;(with_reducible repeat (first|apply blk_drewN|apply blk_drew|apply blk_alloc));refine blk_far ?_ NB146_148.out _;(with_reducible repeat (first|apply blk_drewN|apply blk_drew|apply blk_alloc));exact BK146.out⟩,⟨by (with_reducible repeat (first|apply blk_drewN|apply blk_drew|apply blk_alloc));refine blk_put (cs:=#[.string ((rd_T98 l0_1 x13_1).f0),.string ((rd_T98 l0_1 x13_1).f1),.string ((rd_T98 l0_1 x13_1).f2),.int .u8 ((rd_T98 l0_1 x13_1).f3),.int .u16 ((rd_T98 l0_1 x13_1).f4),.slice none 0 0]) ?_ 5 _ rfl;(with_reducible repeat (first|apply blk_drewN|apply blk_drew|apply blk_alloc));refine blk_put (cs:=#[.string ((rd_T98 l0_1 x13_1).f0),.string ((rd_T98 l0_1 x13_1).f1),.string ((rd_T98 l0_1 x13_1).f2),.int .u8 ((rd_T98 l0_1 x13_1).f3),.int .u16 0,.slice none 0 0]) ?_ 4 _ rfl;(with_reducible repeat (first|apply blk_drewN|apply blk_drew|apply blk_alloc));refine blk_put (cs:=#[.string ((rd_T98 l0_1 x13_1).f0),.string ((rd_T98 l0_1 x13_1).f1),.string ((rd_T98 l0_1 x13_1).f2),.int .u8 0,.int .u16 0,.slice none 0 0]) ?_ 3 _ rfl;(with_reducible repeat (first|apply blk_drewN|apply blk_drew|apply blk_alloc));refine blk_put (cs:=#[.string ((rd_T98 l0_1 x13_1).f0),.string ((rd_T98 l0_1 x13_1).f1),.string (⟨#[]⟩ : ByteArray),.int .u8 0,.int .u16 0,.slice none 0 0]) ?_ 2 _ rfl;(with_reducible repeat (first|apply blk_drewN|apply blk_drew|apply blk_alloc));refine blk_put (cs:=#[.string ((rd_T98 l0_1 x13_1).f0),.string (⟨#[]⟩ : ByteArray),.string (⟨#[]⟩ : ByteArray),.int .u8 0,.int .u16 0,.slice none 0 0]) ?_ 1 _ rfl;(with_reducible repeat (first|apply blk_drewN|apply blk_drew|apply blk_alloc));refine blk_put (cs:=#[.string (⟨#[]⟩ : ByteArray),.string (⟨#[]⟩ : ByteArray),.string (⟨#[]⟩ : ByteArray),.int .u8 0,.int .u16 0,.slice none 0 0]) ?_ 0 _ rfl;(with_reducible repeat (first|apply blk_drewN|apply blk_drew|apply blk_alloc));exact BK148.out⟩,⟨by repeat (first|(with_reducible first|exact HB.out|apply below_alloc|apply pw_below_drewN|apply below_drew1|refine below_set ?_ GE146.out|refine below_set ?_ GE148.out)|exact HB.out)⟩⟩
       case rest =>
        clear HC10
        try clear c1
        try clear p1
        try clear q1
        try clear hx1
        try clear c2
        try clear c2b0
        try clear c2b1
        try clear p2
        try clear c7
        try clear c7b0
        try clear c8
        try clear c8b0
        try clear c9
        try clear c9b0
        try clear c12
        try clear c14
        try clear p14
        try clear q14
        try clear hx14
        try clear c15
        try clear c17
        try clear c19
        try clear c23
        try clear c26
        try clear c27
        try clear hcz13_0
        try clear hcz13_1
        try clear hcz13_2
        try clear hcz13_3
        try clear hcz13_4
        try clear hcz13_5
        try clear hcz20_0
        try clear hcz20_1
        try clear hcz20_2
        try clear hcz20_3
        try clear hcz20_4
        try clear hcz20_5
        try clear hcz22_0
        try clear hcz22_1
        try clear hcz22_2
        try clear hcz22_3
        try clear hcz22_4
        try clear hcz22_5
        try clear hcz24_0
        try clear hcz24_1
        try clear hcz24_2
        try clear hcz24_3
        try clear hcz24_4
        try clear hcz24_5
        try clear hcz27_0
        try clear hcz27_1
        try clear hcz27_2
        try clear hcz27_3
        try clear hcz27_4
        try clear hcz27_5
        try clear hcz4_0
        try clear hcz4_1
        try clear hcz6_0
        try clear hcz6_1
        try clear hfz13_0
        try clear hfz13_1
        try clear hfz13_2
        try clear hfz13_3
        try clear hfz13_4
        try clear hfz13_5
        try clear hfz20_0
        try clear hfz20_1
        try clear hfz20_2
        try clear hfz20_3
        try clear hfz20_4
        try clear hfz20_5
        try clear hfz22_0
        try clear hfz22_1
        try clear hfz22_2
        try clear hfz22_3
        try clear hfz22_4
        try clear hfz22_5
        try clear hfz24_0
        try clear hfz24_1
        try clear hfz24_2
        try clear hfz24_3
        try clear hfz24_4
        try clear hfz24_5
        try clear hfz27_0
        try clear hfz27_1
        try clear hfz27_2
        try clear hfz27_3
        try clear hfz27_4
        try clear hfz27_5
        try clear hfz4_0
        try clear hfz4_1
        try clear hfz6_0
        try clear hfz6_1
        try clear hx147_0
        try clear hx147_1
        try clear hx147_2
        try clear hx147_3
        try clear hx147_4
        try clear hx147_5
        try clear p147
        try clear p2
        try clear q147
        obtain ⟨kq,x18_9,rfl,HA,HJ9,BK146,BK148,HB⟩:=hcut
        cases kq with
        | zero=>exact absurd HA.out (by simp [cktwo_State_Check.j1])
        | succ kj9 =>
         have H:=HA.out
         clear HA
         simp only [cktwo_State_Check.j1] at H
         by_cases c28 : x18_9 = true
         ·subst c28
          have H1 : (some 13) = some r:=by rw [if_pos rfl] at H;exact H
          clear H
          have H:=H1
          clear H1
          obtain rfl:=Option.some.inj H
          go_wp2
          repeat (go_quiet (fail);try go_wp2)
          go_ret
          exact ⟨by first|rfl|(simp [errW_none,errW_some] <;> rfl)|(simp [*,errW_none,errW_some] <;> rfl),by repeat (first|(with_reducible first|exact HB.out|apply below_alloc|apply pw_below_drewN|apply below_drew1|refine below_set ?_ GE146.out|refine below_set ?_ GE148.out)|exact HB.out)⟩
         ·replace c28:=Bool.eq_false_iff.mpr c28
          subst c28
          have H1 : (if x13_1 > 0 then (if 0 ≤ (wrap64 (x13_1 - 1)) then (if (wrap64 (x13_1 - 1)) < (l0_1.length : Int) then (cktwo_State_Check.j2 kj9 l0_1 (l0_1.length : Int) x13_1 (!(Op.bytesLess (((rd_T98 l0_1 (wrap64 (x13_1 - 1))).f0).toList) ((rd_T98 l0_1 x13_1).f0).toList)) a0_0 l0_1 ((rd_T98 l0_1 x13_1).f0) ((rd_T98 l0_1 x13_1).f1) ((rd_T98 l0_1 x13_1).f2) ((rd_T98 l0_1 x13_1).f3) ((rd_T98 l0_1 x13_1).f4) ((rd_T98 l0_1 x13_1).f5)) else (none)) else (none)) else (cktwo_State_Check.j2 kj9 l0_1 (l0_1.length : Int) x13_1 false a0_0 l0_1 ((rd_T98 l0_1 x13_1).f0) ((rd_T98 l0_1 x13_1).f1) ((rd_T98 l0_1 x13_1).f2) ((rd_T98 l0_1 x13_1).f3) ((rd_T98 l0_1 x13_1).f4) ((rd_T98 l0_1 x13_1).f5))) = some r:=by rw [if_neg (show ¬ (false = true) by decide)] at H;exact H
          clear H
          have H:=H1
          clear H1
          have HC29:=Aside0.mk H
          clear H
          go_upto_region 8 with (fail)
          repeat (go_quiet (fail);go_upto_region 8 with (fail))
          go_cut [35] (fun v35 wc=>∃ (kq : Nat) (x35_28 : Bool),v35 = .bool x35_28 ∧ Aside0 (cktwo_State_Check.j2 kq l0_1 (l0_1.length : Int) x13_1 x35_28 a0_0 l0_1 ((rd_T98 l0_1 x13_1).f0) ((rd_T98 l0_1 x13_1).f1) ((rd_T98 l0_1 x13_1).f2) ((rd_T98 l0_1 x13_1).f3) ((rd_T98 l0_1 x13_1).f4) ((rd_T98 l0_1 x13_1).f5) = some r) ∧ Aside0 (kq ≤ kj9) ∧ Aside0 (wc.heap[gb146]? = some (.cells #[.int .u64 a0_0,(.slice (some ad147) l0_1.length c0_1)] 49 (0,0))) ∧ Aside0 (wc.heap[gb148]? = some (.cells #[.string ((rd_T98 l0_1 x13_1).f0),.string ((rd_T98 l0_1 x13_1).f1),.string ((rd_T98 l0_1 x13_1).f2),.int .u8 ((rd_T98 l0_1 x13_1).f3),.int .u16 ((rd_T98 l0_1 x13_1).f4),(.slice A147_5 ((rd_T98 l0_1 x13_1).f5).length c147_5)] 98 (0,0))) ∧ Aside0 (Below w.heap.size w wc))
          case first =>
           have H:=HC29.out
           clear HC29
           by_cases c30 : x13_1 > 0
           ·rw [if_pos c30] at H
            have c30b0 : decide (0 < x13_1) = true:=decide_eq_true c30
            clear c30
            (first|rw [c30b0]|(simp only [i64_w,i32_w];rw [c30b0])|skip)
            obtain ⟨ji31,hji31⟩ : ∃ j_ : Int,(wrap64 (x13_1 - 1)) = j_:=⟨_,rfl⟩
            replace H : (if 0 ≤ (ji31) then (if (ji31) < (l0_1.length : Int) then (cktwo_State_Check.j2 kj9 l0_1 (l0_1.length : Int) x13_1 (!(Op.bytesLess (((rd_T98 l0_1 (ji31)).f0).toList) ((rd_T98 l0_1 x13_1).f0).toList)) a0_0 l0_1 ((rd_T98 l0_1 x13_1).f0) ((rd_T98 l0_1 x13_1).f1) ((rd_T98 l0_1 x13_1).f2) ((rd_T98 l0_1 x13_1).f3) ((rd_T98 l0_1 x13_1).f4) ((rd_T98 l0_1 x13_1).f5)) else (none)) else (none)) = some r:=by first|(rw [hji31] at H;exact H)|(simp only [hji31] at H ⊢;exact H)
            have hji31w : (IntKind.i64.wrap (x13_1 - 1)) = ji31:=(i64_w _).trans hji31
            by_cases c32 : 0 ≤ (ji31)
            ·rw [if_pos c32] at H
             have c32b0 : decide (0 ≤ (ji31)) = true:=decide_eq_true c32
             clear c32
             by_cases c33 : (ji31) < (l0_1.length : Int)
             ·rw [if_pos c33] at H
              have c33b0 : decide ((ji31) < (l0_1.length : Int)) = true:=decide_eq_true c33
              clear c33
              have H':=Aside0.mk H
              clear H
              have hnb34:=NB148_146.out
              have hnc34:=NB146_148.out
              have hcz35_0 : wc.cell? ⟨gb148,0,none⟩ = some (.string ((rd_T98 l0_1 x13_1).f0)):=(blk_cell BK148.out 0).trans rfl
              have hcz35_1 : wc.cell? ⟨gb148,1,none⟩ = some (.string ((rd_T98 l0_1 x13_1).f1)):=(blk_cell BK148.out 1).trans rfl
              have hcz35_2 : wc.cell? ⟨gb148,2,none⟩ = some (.string ((rd_T98 l0_1 x13_1).f2)):=(blk_cell BK148.out 2).trans rfl
              have hcz35_3 : wc.cell? ⟨gb148,3,none⟩ = some (.int .u8 ((rd_T98 l0_1 x13_1).f3)):=(blk_cell BK148.out 3).trans rfl
              have hcz35_4 : wc.cell? ⟨gb148,4,none⟩ = some (.int .u16 ((rd_T98 l0_1 x13_1).f4)):=(blk_cell BK148.out 4).trans rfl
              have hcz35_5 : wc.cell? ⟨gb148,5,none⟩ = some (.slice A147_5 ((rd_T98 l0_1 x13_1).f5).length c147_5):=(blk_cell BK148.out 5).trans rfl
              have hfz35_0:=blk_frozen BK148.out 0
              have hfz35_1:=blk_frozen BK148.out 1
              have hfz35_2:=blk_frozen BK148.out 2
              have hfz35_3:=blk_frozen BK148.out 3
              have hfz35_4:=blk_frozen BK148.out 4
              have hfz35_5:=blk_frozen BK148.out 5
              have hcz36_0 : wc.cell? ⟨gb146,0,none⟩ = some (.int .u64 a0_0):=(blk_cell BK146.out 0).trans rfl
              have hcz36_1 : wc.cell? ⟨gb146,1,none⟩ = some (.slice (some ad147) l0_1.length c0_1):=(blk_cell BK146.out 1).trans rfl
              have hfz36_0:=blk_frozen BK146.out 0
              have hfz36_1:=blk_frozen BK146.out 1
              have p152 : 0 ≤ ((ji31) : Int):=of_decide_eq_true (by first|(with_reducible assumption)|assumption)
              have q152 : (ji31) < (l0_1.length : Int):=of_decide_eq_true (by first|(with_reducible assumption)|assumption)
              obtain ⟨ad152,A152_5,c152_5,e152,hx152_0,hx152_1,hx152_2,hx152_3,hx152_4,hx152_5,hl152_5,hi152_5⟩:=at_T98 HR0_1.out (ji31) p152 q152
              obtain rfl : ad147 = ad152:=(by injection e152)
              replace hx152_0:=(HB.out.cell (World.block_lt_of_cell? w _ hx152_0)).trans hx152_0
              replace hx152_1:=(HB.out.cell (World.block_lt_of_cell? w _ hx152_1)).trans hx152_1
              replace hx152_2:=(HB.out.cell (World.block_lt_of_cell? w _ hx152_2)).trans hx152_2
              replace hx152_3:=(HB.out.cell (World.block_lt_of_cell? w _ hx152_3)).trans hx152_3
              replace hx152_4:=(HB.out.cell (World.block_lt_of_cell? w _ hx152_4)).trans hx152_4
              replace hx152_5:=(HB.out.cell (World.block_lt_of_cell? w _ hx152_5)).trans hx152_5
              have HR152_5:=Aside0.mk hi152_5
              have HC152_5:=Aside0.mk hl152_5
              clear hi152_5 hl152_5
              replace p152:=eq_true p152
              replace q152:=eq_true q152
              go_wp2
              repeat (go_quiet (fail);try go_wp2)
              go_meet
              case rel=>exact ⟨_,(!(Op.bytesLess (((rd_T98 l0_1 (ji31)).f0).toList) ((rd_T98 l0_1 x13_1).f0).toList)),(by first|rfl|(simp;done)|(simp only [← hji31] <;> (first|rfl|simp))|(simp [*];done)),H',⟨by have:=HK1.out;have:=HJ9.out;first|omega|exact Nat.le_refl _⟩,⟨by (with_reducible repeat (first|apply blk_drewN|apply blk_drew|apply blk_alloc));exact BK146.out⟩,⟨by (with_reducible repeat (first|apply blk_drewN|apply blk_drew|apply blk_alloc));exact BK148.out⟩,⟨by repeat (first|(with_reducible first|exact HB.out|apply below_alloc|apply pw_below_drewN|apply below_drew1|refine below_set ?_ GE146.out|refine below_set ?_ GE148.out)|exact HB.out)⟩⟩
             ·rw [if_neg c33] at H
              exact absurd H (by simp)
            ·rw [if_neg c32] at H
             exact absurd H (by simp)
           ·rw [if_neg c30] at H
            have c30b0 : decide (0 < x13_1) = false:=decide_eq_false c30
            clear c30
            (first|rw [c30b0]|(simp only [i64_w,i32_w];rw [c30b0])|skip)
            have H':=Aside0.mk H
            clear H
            go_wp2
            repeat (go_quiet (fail);try go_wp2)
            go_meet
            case rel=>exact ⟨_,(false),(by first|rfl|(simp;done)|(simp [*];done)),H',⟨by have:=HK1.out;have:=HJ9.out;first|omega|exact Nat.le_refl _⟩,⟨by (with_reducible repeat (first|apply blk_drewN|apply blk_drew|apply blk_alloc));exact BK146.out⟩,⟨by (with_reducible repeat (first|apply blk_drewN|apply blk_drew|apply blk_alloc));exact BK148.out⟩,⟨by repeat (first|(with_reducible first|exact HB.out|apply below_alloc|apply pw_below_drewN|apply below_drew1|refine below_set ?_ GE146.out|refine below_set ?_ GE148.out)|exact HB.out)⟩⟩
          case rest =>
           clear HC29
           try clear c1
           try clear p1
           try clear q1
           try clear hx1
           try clear c2
           try clear c2b0
           try clear c2b1
           try clear p2
           try clear c3
           try clear p6
           try clear c7
           try clear c7b0
           try clear c8
           try clear c8b0
           try clear c9
           try clear c9b0
           try clear c12
           try clear c14
           try clear p14
           try clear q14
           try clear hx14
           try clear c15
           try clear p15
           try clear q15
           try clear hx15
           try clear c17
           try clear c19
           try clear c23
           try clear c26
           try clear c27
           try clear c28
           try clear c30
           try clear c30b0
           try clear c32
           try clear c32b0
           try clear c33
           try clear c33b0
           try clear c34
           try clear hcz13_0
           try clear hcz13_1
           try clear hcz13_2
           try clear hcz13_3
           try clear hcz13_4
           try clear hcz13_5
           try clear hcz20_0
           try clear hcz20_1
           try clear hcz20_2
           try clear hcz20_3
           try clear hcz20_4
           try clear hcz20_5
           try clear hcz22_0
           try clear hcz22_1
           try clear hcz22_2
           try clear hcz22_3
           try clear hcz22_4
           try clear hcz22_5
           try clear hcz24_0
           try clear hcz24_1
           try clear hcz24_2
           try clear hcz24_3
           try clear hcz24_4
           try clear hcz24_5
           try clear hcz27_0
           try clear hcz27_1
           try clear hcz27_2
           try clear hcz27_3
           try clear hcz27_4
           try clear hcz27_5
           try clear hcz35_0
           try clear hcz35_1
           try clear hcz35_2
           try clear hcz35_3
           try clear hcz35_4
           try clear hcz35_5
           try clear hcz36_0
           try clear hcz36_1
           try clear hcz4_0
           try clear hcz4_1
           try clear hcz6_0
           try clear hcz6_1
           try clear hfz13_0
           try clear hfz13_1
           try clear hfz13_2
           try clear hfz13_3
           try clear hfz13_4
           try clear hfz13_5
           try clear hfz20_0
           try clear hfz20_1
           try clear hfz20_2
           try clear hfz20_3
           try clear hfz20_4
           try clear hfz20_5
           try clear hfz22_0
           try clear hfz22_1
           try clear hfz22_2
           try clear hfz22_3
           try clear hfz22_4
           try clear hfz22_5
           try clear hfz24_0
           try clear hfz24_1
           try clear hfz24_2
           try clear hfz24_3
           try clear hfz24_4
           try clear hfz24_5
           try clear hfz27_0
           try clear hfz27_1
           try clear hfz27_2
           try clear hfz27_3
           try clear hfz27_4
           try clear hfz27_5
           try clear hfz35_0
           try clear hfz35_1
           try clear hfz35_2
           try clear hfz35_3
           try clear hfz35_4
           try clear hfz35_5
           try clear hfz36_0
           try clear hfz36_1
           try clear hfz4_0
           try clear hfz4_1
           try clear hfz6_0
           try clear hfz6_1
           try clear hx147_0
           try clear hx147_1
           try clear hx147_2
           try clear hx147_3
           try clear hx147_4
           try clear hx147_5
           try clear hx152_0
           try clear hx152_1
           try clear hx152_2
           try clear hx152_3
           try clear hx152_4
           try clear hx152_5
           try clear p1
           try clear p14
           try clear p147
           try clear p152
           try clear p2
           try clear q1
           try clear q14
           try clear q147
           try clear q152
           obtain ⟨kq,x35_28,rfl,HA,HJ28,BK146,BK148,HB⟩:=hcut
           cases kq with
           | zero=>exact absurd HA.out (by simp [cktwo_State_Check.j2])
           | succ kj28 =>
            have H:=HA.out
            clear HA
            simp only [cktwo_State_Check.j2] at H
            by_cases c37 : x35_28 = true
            ·subst c37
             have H1 : (some 6) = some r:=by rw [if_pos rfl] at H;exact H
             clear H
             have H:=H1
             clear H1
             obtain rfl:=Option.some.inj H
             go_wp2
             repeat (go_quiet (fail);try go_wp2)
             go_ret
             exact ⟨by first|rfl|(simp [errW_none,errW_some] <;> rfl)|(simp [*,errW_none,errW_some] <;> rfl),by repeat (first|(with_reducible first|exact HB.out|apply below_alloc|apply pw_below_drewN|apply below_drew1|refine below_set ?_ GE146.out|refine below_set ?_ GE148.out)|exact HB.out)⟩
            ·replace c37:=Bool.eq_false_iff.mpr c37
             subst c37
             have H1 : (if ((rd_T98 l0_1 x13_1).f3) > 2 then (cktwo_State_Check.j3 kj28 l0_1 (l0_1.length : Int) x13_1 true a0_0 l0_1 ((rd_T98 l0_1 x13_1).f0) ((rd_T98 l0_1 x13_1).f1) ((rd_T98 l0_1 x13_1).f2) ((rd_T98 l0_1 x13_1).f3) ((rd_T98 l0_1 x13_1).f4) ((rd_T98 l0_1 x13_1).f5)) else (if ((rd_T98 l0_1 x13_1).f4) < 1 then (cktwo_State_Check.j3 kj28 l0_1 (l0_1.length : Int) x13_1 true a0_0 l0_1 ((rd_T98 l0_1 x13_1).f0) ((rd_T98 l0_1 x13_1).f1) ((rd_T98 l0_1 x13_1).f2) ((rd_T98 l0_1 x13_1).f3) ((rd_T98 l0_1 x13_1).f4) ((rd_T98 l0_1 x13_1).f5)) else (cktwo_State_Check.j3 kj28 l0_1 (l0_1.length : Int) x13_1 (decide (((rd_T98 l0_1 x13_1).f4) > 3600)) a0_0 l0_1 ((rd_T98 l0_1 x13_1).f0) ((rd_T98 l0_1 x13_1).f1) ((rd_T98 l0_1 x13_1).f2) ((rd_T98 l0_1 x13_1).f3) ((rd_T98 l0_1 x13_1).f4) ((rd_T98 l0_1 x13_1).f5)))) = some r:=by rw [if_neg (show ¬ (false = true) by decide)] at H;exact H
             clear H
             have H:=H1
             clear H1
             have HC38:=Aside0.mk H
             clear H
             go_upto_region 10 with (fail)
             repeat (go_quiet (fail);go_upto_region 10 with (fail))
             go_cut [50] (fun v50 wc=>∃ (kq : Nat) (x50_37 : Bool),v50 = .bool x50_37 ∧ Aside0 (cktwo_State_Check.j3 kq l0_1 (l0_1.length : Int) x13_1 x50_37 a0_0 l0_1 ((rd_T98 l0_1 x13_1).f0) ((rd_T98 l0_1 x13_1).f1) ((rd_T98 l0_1 x13_1).f2) ((rd_T98 l0_1 x13_1).f3) ((rd_T98 l0_1 x13_1).f4) ((rd_T98 l0_1 x13_1).f5) = some r) ∧ Aside0 (kq ≤ kj28) ∧ Aside0 (wc.heap[gb146]? = some (.cells #[.int .u64 a0_0,(.slice (some ad147) l0_1.length c0_1)] 49 (0,0))) ∧ Aside0 (wc.heap[gb148]? = some (.cells #[.string ((rd_T98 l0_1 x13_1).f0),.string ((rd_T98 l0_1 x13_1).f1),.string ((rd_T98 l0_1 x13_1).f2),.int .u8 ((rd_T98 l0_1 x13_1).f3),.int .u16 ((rd_T98 l0_1 x13_1).f4),(.slice A147_5 ((rd_T98 l0_1 x13_1).f5).length c147_5)] 98 (0,0))) ∧ Aside0 (Below w.heap.size w wc))
             case first =>
              have H:=HC38.out
              clear HC38
              by_cases c39 : ((rd_T98 l0_1 x13_1).f3) > 2
              ·rw [if_pos c39] at H
               have c39b0 : decide (2 < ((rd_T98 l0_1 x13_1).f3)) = true:=decide_eq_true c39
               clear c39
               (first|rw [c39b0]|(simp only [i64_w,i32_w];rw [c39b0])|skip)
               have H':=Aside0.mk H
               clear H
               have hnb40:=NB148_146.out
               have hnc40:=NB146_148.out
               have hcz41_0 : wc.cell? ⟨gb148,0,none⟩ = some (.string ((rd_T98 l0_1 x13_1).f0)):=(blk_cell BK148.out 0).trans rfl
               have hcz41_1 : wc.cell? ⟨gb148,1,none⟩ = some (.string ((rd_T98 l0_1 x13_1).f1)):=(blk_cell BK148.out 1).trans rfl
               have hcz41_2 : wc.cell? ⟨gb148,2,none⟩ = some (.string ((rd_T98 l0_1 x13_1).f2)):=(blk_cell BK148.out 2).trans rfl
               have hcz41_3 : wc.cell? ⟨gb148,3,none⟩ = some (.int .u8 ((rd_T98 l0_1 x13_1).f3)):=(blk_cell BK148.out 3).trans rfl
               have hcz41_4 : wc.cell? ⟨gb148,4,none⟩ = some (.int .u16 ((rd_T98 l0_1 x13_1).f4)):=(blk_cell BK148.out 4).trans rfl
               have hcz41_5 : wc.cell? ⟨gb148,5,none⟩ = some (.slice A147_5 ((rd_T98 l0_1 x13_1).f5).length c147_5):=(blk_cell BK148.out 5).trans rfl
               have hfz41_0:=blk_frozen BK148.out 0
               have hfz41_1:=blk_frozen BK148.out 1
               have hfz41_2:=blk_frozen BK148.out 2
               have hfz41_3:=blk_frozen BK148.out 3
               have hfz41_4:=blk_frozen BK148.out 4
               have hfz41_5:=blk_frozen BK148.out 5
               go_wp2
               repeat (go_quiet (fail);try go_wp2)
               go_meet
               case rel=>exact ⟨_,(true),(by first|rfl|(simp;done)|(simp [*];done)),H',⟨by have:=HK1.out;have:=HJ9.out;have:=HJ28.out;first|omega|exact Nat.le_refl _⟩,⟨by (with_reducible repeat (first|apply blk_drewN|apply blk_drew|apply blk_alloc));exact BK146.out⟩,⟨by (with_reducible repeat (first|apply blk_drewN|apply blk_drew|apply blk_alloc));exact BK148.out⟩,⟨by repeat (first|(with_reducible first|exact HB.out|apply below_alloc|apply pw_below_drewN|apply below_drew1|refine below_set ?_ GE146.out|refine below_set ?_ GE148.out)|exact HB.out)⟩⟩
              ·rw [if_neg c39] at H
               have c39b0 : decide (2 < ((rd_T98 l0_1 x13_1).f3)) = false:=decide_eq_false c39
               clear c39
               (first|rw [c39b0]|(simp only [i64_w,i32_w];rw [c39b0])|skip)
               by_cases c42 : ((rd_T98 l0_1 x13_1).f4) < 1
               ·rw [if_pos c42] at H
                have c42b0 : decide (((rd_T98 l0_1 x13_1).f4) < 1) = true:=decide_eq_true c42
                clear c42
                have H':=Aside0.mk H
                clear H
                have hnb43:=NB148_146.out
                have hnc43:=NB146_148.out
                have hcz44_0 : wc.cell? ⟨gb148,0,none⟩ = some (.string ((rd_T98 l0_1 x13_1).f0)):=(blk_cell BK148.out 0).trans rfl
                have hcz44_1 : wc.cell? ⟨gb148,1,none⟩ = some (.string ((rd_T98 l0_1 x13_1).f1)):=(blk_cell BK148.out 1).trans rfl
                have hcz44_2 : wc.cell? ⟨gb148,2,none⟩ = some (.string ((rd_T98 l0_1 x13_1).f2)):=(blk_cell BK148.out 2).trans rfl
                have hcz44_3 : wc.cell? ⟨gb148,3,none⟩ = some (.int .u8 ((rd_T98 l0_1 x13_1).f3)):=(blk_cell BK148.out 3).trans rfl
                have hcz44_4 : wc.cell? ⟨gb148,4,none⟩ = some (.int .u16 ((rd_T98 l0_1 x13_1).f4)):=(blk_cell BK148.out 4).trans rfl
                have hcz44_5 : wc.cell? ⟨gb148,5,none⟩ = some (.slice A147_5 ((rd_T98 l0_1 x13_1).f5).length c147_5):=(blk_cell BK148.out 5).trans rfl
                have hfz44_0:=blk_frozen BK148.out 0
                have hfz44_1:=blk_frozen BK148.out 1
                have hfz44_2:=blk_frozen BK148.out 2
                have hfz44_3:=blk_frozen BK148.out 3
                have hfz44_4:=blk_frozen BK148.out 4
                have hfz44_5:=blk_frozen BK148.out 5
                go_wp2
                repeat (go_quiet (fail);try go_wp2)
                go_meet
                case rel=>exact ⟨_,(true),(by first|rfl|(simp;done)|(simp [*];done)),H',⟨by have:=HK1.out;have:=HJ9.out;have:=HJ28.out;first|omega|exact Nat.le_refl _⟩,⟨by (with_reducible repeat (first|apply blk_drewN|apply blk_drew|apply blk_alloc));exact BK146.out⟩,⟨by (with_reducible repeat (first|apply blk_drewN|apply blk_drew|apply blk_alloc));exact BK148.out⟩,⟨by repeat (first|(with_reducible first|exact HB.out|apply below_alloc|apply pw_below_drewN|apply below_drew1|refine below_set ?_ GE146.out|refine below_set ?_ GE148.out)|exact HB.out)⟩⟩
               ·rw [if_neg c42] at H
                have c42b0 : decide (((rd_T98 l0_1 x13_1).f4) < 1) = false:=decide_eq_false c42
                clear c42
                have H':=Aside0.mk H
                clear H
                have hnb45:=NB148_146.out
                have hnc45:=NB146_148.out
                have hcz46_0 : wc.cell? ⟨gb148,0,none⟩ = some (.string ((rd_T98 l0_1 x13_1).f0)):=(blk_cell BK148.out 0).trans rfl
                have hcz46_1 : wc.cell? ⟨gb148,1,none⟩ = some (.string ((rd_T98 l0_1 x13_1).f1)):=(blk_cell BK148.out 1).trans rfl
                have hcz46_2 : wc.cell? ⟨gb148,2,none⟩ = some (.string ((rd_T98 l0_1 x13_1).f2)):=(blk_cell BK148.out 2).trans rfl
                have hcz46_3 : wc.cell? ⟨gb148,3,none⟩ = some (.int .u8 ((rd_T98 l0_1 x13_1).f3)):=(blk_cell BK148.out 3).trans rfl
                have hcz46_4 : wc.cell? ⟨gb148,4,none⟩ = some (.int .u16 ((rd_T98 l0_1 x13_1).f4)):=(blk_cell BK148.out 4).trans rfl
                have hcz46_5 : wc.cell? ⟨gb148,5,none⟩ = some (.slice A147_5 ((rd_T98 l0_1 x13_1).f5).length c147_5):=(blk_cell BK148.out 5).trans rfl
                have hfz46_0:=blk_frozen BK148.out 0
                have hfz46_1:=blk_frozen BK148.out 1
                have hfz46_2:=blk_frozen BK148.out 2
                have hfz46_3:=blk_frozen BK148.out 3
                have hfz46_4:=blk_frozen BK148.out 4
                have hfz46_5:=blk_frozen BK148.out 5
                go_wp2
                repeat (go_quiet (fail);try go_wp2)
                go_meet
                case rel=>exact ⟨_,(decide (((rd_T98 l0_1 x13_1).f4) > 3600)),(by first|rfl|(simp;done)|(simp [*];done)),H',⟨by have:=HK1.out;have:=HJ9.out;have:=HJ28.out;first|omega|exact Nat.le_refl _⟩,⟨by (with_reducible repeat (first|apply blk_drewN|apply blk_drew|apply blk_alloc));exact BK146.out⟩,⟨by (with_reducible repeat (first|apply blk_drewN|apply blk_drew|apply blk_alloc));exact BK148.out⟩,⟨by repeat (first|(with_reducible first|exact HB.out|apply below_alloc|apply pw_below_drewN|apply below_drew1|refine below_set ?_ GE146.out|refine below_set ?_ GE148.out)|exact HB.out)⟩⟩
             case rest =>
              clear HC38
              try clear c1
              try clear p1
              try clear q1
              try clear hx1
              try clear c2
              try clear c2b0
              try clear c2b1
              try clear p2
              try clear c3
              try clear c4
              try clear p6
              try clear c7
              try clear c7b0
              try clear c8
              try clear c8b0
              try clear c9
              try clear c9b0
              try clear c12
              try clear c14
              try clear p14
              try clear q14
              try clear hx14
              try clear c15
              try clear p15
              try clear q15
              try clear hx15
              try clear c17
              try clear c19
              try clear c23
              try clear c26
              try clear c27
              try clear c28
              try clear c30
              try clear c30b0
              try clear c32
              try clear c32b0
              try clear c33
              try clear c33b0
              try clear c34
              try clear c37
              try clear c39
              try clear c39b0
              try clear c40
              try clear c42
              try clear c42b0
              try clear c43
              try clear c45
              try clear hcz13_0
              try clear hcz13_1
              try clear hcz13_2
              try clear hcz13_3
              try clear hcz13_4
              try clear hcz13_5
              try clear hcz20_0
              try clear hcz20_1
              try clear hcz20_2
              try clear hcz20_3
              try clear hcz20_4
              try clear hcz20_5
              try clear hcz22_0
              try clear hcz22_1
              try clear hcz22_2
              try clear hcz22_3
              try clear hcz22_4
              try clear hcz22_5
              try clear hcz24_0
              try clear hcz24_1
              try clear hcz24_2
              try clear hcz24_3
              try clear hcz24_4
              try clear hcz24_5
              try clear hcz27_0
              try clear hcz27_1
              try clear hcz27_2
              try clear hcz27_3
              try clear hcz27_4
              try clear hcz27_5
              try clear hcz35_0
              try clear hcz35_1
              try clear hcz35_2
              try clear hcz35_3
              try clear hcz35_4
              try clear hcz35_5
              try clear hcz36_0
              try clear hcz36_1
              try clear hcz41_0
              try clear hcz41_1
              try clear hcz41_2
              try clear hcz41_3
              try clear hcz41_4
              try clear hcz41_5
              try clear hcz44_0
              try clear hcz44_1
              try clear hcz44_2
              try clear hcz44_3
              try clear hcz44_4
              try clear hcz44_5
              try clear hcz46_0
              try clear hcz46_1
              try clear hcz46_2
              try clear hcz46_3
              try clear hcz46_4
              try clear hcz46_5
              try clear hcz4_0
              try clear hcz4_1
              try clear hcz6_0
              try clear hcz6_1
              try clear hfz13_0
              try clear hfz13_1
              try clear hfz13_2
              try clear hfz13_3
              try clear hfz13_4
              try clear hfz13_5
              try clear hfz20_0
              try clear hfz20_1
              try clear hfz20_2
              try clear hfz20_3
              try clear hfz20_4
              try clear hfz20_5
              try clear hfz22_0
              try clear hfz22_1
              try clear hfz22_2
              try clear hfz22_3
              try clear hfz22_4
              try clear hfz22_5
              try clear hfz24_0
              try clear hfz24_1
              try clear hfz24_2
              try clear hfz24_3
              try clear hfz24_4
              try clear hfz24_5
              try clear hfz27_0
              try clear hfz27_1
              try clear hfz27_2
              try clear hfz27_3
              try clear hfz27_4
              try clear hfz27_5
              try clear hfz35_0
              try clear hfz35_1
              try clear hfz35_2
              try clear hfz35_3
              try clear hfz35_4
              try clear hfz35_5
              try clear hfz36_0
              try clear hfz36_1
              try clear hfz41_0
              try clear hfz41_1
              try clear hfz41_2
              try clear hfz41_3
              try clear hfz41_4
              try clear hfz41_5
              try clear hfz44_0
              try clear hfz44_1
              try clear hfz44_2
              try clear hfz44_3
              try clear hfz44_4
              try clear hfz44_5
              try clear hfz46_0
              try clear hfz46_1
              try clear hfz46_2
              try clear hfz46_3
              try clear hfz46_4
              try clear hfz46_5
              try clear hfz4_0
              try clear hfz4_1
              try clear hfz6_0
              try clear hfz6_1
              try clear hx147_0
              try clear hx147_1
              try clear hx147_2
              try clear hx147_3
              try clear hx147_4
              try clear hx147_5
              try clear hx152_0
              try clear hx152_1
              try clear hx152_2
              try clear hx152_3
              try clear hx152_4
              try clear hx152_5
              try clear p1
              try clear p14
              try clear p147
              try clear p15
              try clear p152
              try clear p2
              try clear p6
              try clear q1
              try clear q14
              try clear q147
              try clear q15
              try clear q152
              obtain ⟨kq,x50_37,rfl,HA,HJ37,BK146,BK148,HB⟩:=hcut
              cases kq with
              | zero=>exact absurd HA.out (by simp [cktwo_State_Check.j3])
              | succ kj37 =>
               have H:=HA.out
               clear HA
               simp only [cktwo_State_Check.j3] at H
               by_cases c47 : x50_37 = true
               ·subst c47
                have H1 : (some 7) = some r:=by rw [if_pos rfl] at H;exact H
                clear H
                have H:=H1
                clear H1
                obtain rfl:=Option.some.inj H
                go_wp2
                repeat (go_quiet (fail);try go_wp2)
                go_ret
                exact ⟨by first|rfl|(simp [errW_none,errW_some] <;> rfl)|(simp [*,errW_none,errW_some] <;> rfl),by repeat (first|(with_reducible first|exact HB.out|apply below_alloc|apply pw_below_drewN|apply below_drew1|refine below_set ?_ GE146.out|refine below_set ?_ GE148.out)|exact HB.out)⟩
               ·replace c47:=Bool.eq_false_iff.mpr c47
                subst c47
                have H1 : ((cktwo_containers.f kj37 ((rd_T98 l0_1 x13_1).f5)).bind fun t153=>(if t153 = 0 then (cktwo_State_Check.l0 kj37 l0_1 (l0_1.length : Int) (wrap64 (x13_1 + 1)) a0_0 l0_1) else (some t153))) = some r:=by rw [if_neg (show ¬ (false = true) by decide)] at H;exact H
                clear H
                have H:=H1
                clear H1
                replace H:=Option.bind_eq_some_iff.mp H
                obtain ⟨t153,A480,H⟩:=H
                replace H : (if t153 = 0 then (cktwo_State_Check.l0 kj37 l0_1 (l0_1.length : Int) (wrap64 (x13_1 + 1)) a0_0 l0_1) else (some t153)) = some r:=H
                have A48:=Aside0.mk A480
                clear A480
                by_cases c49 : t153 = 0
                ·rw [if_pos c49] at H
                 have c49b0 : (t153 == 0) = true:=beq_iff_eq.mpr c49
                 have c49b1 : (t153 != 0) = false:=bne_eq_false_iff_eq.mpr c49
                 clear c49
                 have H':=Aside0.mk H
                 clear H
                 have hnb50:=NB148_146.out
                 have hnc50:=NB146_148.out
                 have hcz51_0 : wc.cell? ⟨gb148,0,none⟩ = some (.string ((rd_T98 l0_1 x13_1).f0)):=(blk_cell BK148.out 0).trans rfl
                 have hcz51_1 : wc.cell? ⟨gb148,1,none⟩ = some (.string ((rd_T98 l0_1 x13_1).f1)):=(blk_cell BK148.out 1).trans rfl
                 have hcz51_2 : wc.cell? ⟨gb148,2,none⟩ = some (.string ((rd_T98 l0_1 x13_1).f2)):=(blk_cell BK148.out 2).trans rfl
                 have hcz51_3 : wc.cell? ⟨gb148,3,none⟩ = some (.int .u8 ((rd_T98 l0_1 x13_1).f3)):=(blk_cell BK148.out 3).trans rfl
                 have hcz51_4 : wc.cell? ⟨gb148,4,none⟩ = some (.int .u16 ((rd_T98 l0_1 x13_1).f4)):=(blk_cell BK148.out 4).trans rfl
                 have hcz51_5 : wc.cell? ⟨gb148,5,none⟩ = some (.slice A147_5 ((rd_T98 l0_1 x13_1).f5).length c147_5):=(blk_cell BK148.out 5).trans rfl
                 have hfz51_0:=blk_frozen BK148.out 0
                 have hfz51_1:=blk_frozen BK148.out 1
                 have hfz51_2:=blk_frozen BK148.out 2
                 have hfz51_3:=blk_frozen BK148.out 3
                 have hfz51_4:=blk_frozen BK148.out 4
                 have hfz51_5:=blk_frozen BK148.out 5
                 go_wp2_with (first|(go_at_call 57;(with_reducible refine (cktwo_containers.calls kj37 _ _ ((rd_T98 l0_1 x13_1).f5) t153 _ ?side1 ?side2 A48.out).mono ?_);(case side1=>repeat (first|exact (Kd.C_below HR147_5.out HB.out)|(with_reducible refine Kd.C_alloc ?_ _)|(with_reducible refine Kd.C_drewN ?_ _)|(with_reducible refine Kd.C_drew ?_)));(case side2=>exact HC147_5.out);rintro e w52 ⟨rfl,hb⟩;have n0_:=Aside0.mk (blk_below (g:=gb146) (o:=.cells #[.int .u64 a0_0,.slice (some ad147) l0_1.length c0_1] 49 (0,0)) (by (with_reducible repeat (first|apply blk_drewN|apply blk_drew|apply blk_alloc));exact BK146.out) hb);have n1_:=Aside0.mk (blk_below (g:=gb148) (o:=.cells #[.string ((rd_T98 l0_1 x13_1).f0),.string ((rd_T98 l0_1 x13_1).f1),.string ((rd_T98 l0_1 x13_1).f2),.int .u8 ((rd_T98 l0_1 x13_1).f3),.int .u16 ((rd_T98 l0_1 x13_1).f4),.slice A147_5 ((rd_T98 l0_1 x13_1).f5).length c147_5] 98 (0,0)) (by (with_reducible repeat (first|apply blk_drewN|apply blk_drew|apply blk_alloc));exact BK148.out) hb);have n2_:=Aside0.mk (below_step (by repeat (first|(with_reducible first|exact HB.out|apply below_alloc|apply pw_below_drewN|apply below_drew1|refine below_set ?_ GE146.out|refine below_set ?_ GE148.out)|exact HB.out)) hb);clear BK146;clear BK148;clear HB;have BK146:=n0_;have BK148:=n1_;have HB:=n2_;clear n0_ n1_ n2_;(try clear hb);(try clear hb2);(try clear hk);(try clear hi)))
                 repeat (go_quiet (first|(go_at_call 57;(with_reducible refine (cktwo_containers.calls kj37 _ _ ((rd_T98 l0_1 x13_1).f5) t153 _ ?side1 ?side2 A48.out).mono ?_);(case side1=>repeat (first|exact (Kd.C_below HR147_5.out HB.out)|(with_reducible refine Kd.C_alloc ?_ _)|(with_reducible refine Kd.C_drewN ?_ _)|(with_reducible refine Kd.C_drew ?_)));(case side2=>exact HC147_5.out);rintro e w52 ⟨rfl,hb⟩;have n0_:=Aside0.mk (blk_below (g:=gb146) (o:=.cells #[.int .u64 a0_0,.slice (some ad147) l0_1.length c0_1] 49 (0,0)) (by (with_reducible repeat (first|apply blk_drewN|apply blk_drew|apply blk_alloc));exact BK146.out) hb);have n1_:=Aside0.mk (blk_below (g:=gb148) (o:=.cells #[.string ((rd_T98 l0_1 x13_1).f0),.string ((rd_T98 l0_1 x13_1).f1),.string ((rd_T98 l0_1 x13_1).f2),.int .u8 ((rd_T98 l0_1 x13_1).f3),.int .u16 ((rd_T98 l0_1 x13_1).f4),.slice A147_5 ((rd_T98 l0_1 x13_1).f5).length c147_5] 98 (0,0)) (by (with_reducible repeat (first|apply blk_drewN|apply blk_drew|apply blk_alloc));exact BK148.out) hb);have n2_:=Aside0.mk (below_step (by repeat (first|(with_reducible first|exact HB.out|apply below_alloc|apply pw_below_drewN|apply below_drew1|refine below_set ?_ GE146.out|refine below_set ?_ GE148.out)|exact HB.out)) hb);clear BK146;clear BK148;clear HB;have BK146:=n0_;have BK148:=n1_;have HB:=n2_;clear n0_ n1_ n2_;(try clear hb);(try clear hb2);(try clear hk);(try clear hi)));try go_wp2_with (first|(go_at_call 57;(with_reducible refine (cktwo_containers.calls kj37 _ _ ((rd_T98 l0_1 x13_1).f5) t153 _ ?side1 ?side2 A48.out).mono ?_);(case side1=>repeat (first|exact (Kd.C_below HR147_5.out HB.out)|(with_reducible refine Kd.C_alloc ?_ _)|(with_reducible refine Kd.C_drewN ?_ _)|(with_reducible refine Kd.C_drew ?_)));(case side2=>exact HC147_5.out);rintro e w52 ⟨rfl,hb⟩;have n0_:=Aside0.mk (blk_below (g:=gb146) (o:=.cells #[.int .u64 a0_0,.slice (some ad147) l0_1.length c0_1] 49 (0,0)) (by (with_reducible repeat (first|apply blk_drewN|apply blk_drew|apply blk_alloc));exact BK146.out) hb);have n1_:=Aside0.mk (blk_below (g:=gb148) (o:=.cells #[.string ((rd_T98 l0_1 x13_1).f0),.string ((rd_T98 l0_1 x13_1).f1),.string ((rd_T98 l0_1 x13_1).f2),.int .u8 ((rd_T98 l0_1 x13_1).f3),.int .u16 ((rd_T98 l0_1 x13_1).f4),.slice A147_5 ((rd_T98 l0_1 x13_1).f5).length c147_5] 98 (0,0)) (by (with_reducible repeat (first|apply blk_drewN|apply blk_drew|apply blk_alloc));exact BK148.out) hb);have n2_:=Aside0.mk (below_step (by repeat (first|(with_reducible first|exact HB.out|apply below_alloc|apply pw_below_drewN|apply below_drew1|refine below_set ?_ GE146.out|refine below_set ?_ GE148.out)|exact HB.out)) hb);clear BK146;clear BK148;clear HB;have BK146:=n0_;have BK148:=n1_;have HB:=n2_;clear n0_ n1_ n2_;(try clear hb);(try clear hb2);(try clear hk);(try clear hi))))
                 go_roundg kj37
                 case measure=>have:=HK1.out;have:=HJ9.out;have:=HJ28.out;have:=HJ37.out;omega
                 case rel=>exact ⟨(wrap64 (x13_1 + 1)),(by first|rfl|(simp;done)|(simp [*];done)),H',⟨by have:=HK1.out;have:=HJ9.out;have:=HJ28.out;have:=HJ37.out;omega⟩,⟨by (with_reducible repeat (first|apply blk_drewN|apply blk_drew|apply blk_alloc));exact BK146.out⟩,⟨by repeat (first|(with_reducible first|exact HB.out|apply below_alloc|apply pw_below_drewN|apply below_drew1|refine below_set ?_ GE146.out|refine below_set ?_ GE148.out)|exact HB.out)⟩⟩
                ·rw [if_neg c49] at H
                 have c49b0 : (t153 == 0) = false:=beq_eq_false_iff_ne.mpr c49
                 have c49b1 : (t153 != 0) = true:=bne_iff_ne.mpr c49
                 obtain rfl:=Option.some.inj H
                 have hnb53:=NB148_146.out
                 have hnc53:=NB146_148.out
                 have hcz54_0 : wc.cell? ⟨gb148,0,none⟩ = some (.string ((rd_T98 l0_1 x13_1).f0)):=(blk_cell BK148.out 0).trans rfl
                 have hcz54_1 : wc.cell? ⟨gb148,1,none⟩ = some (.string ((rd_T98 l0_1 x13_1).f1)):=(blk_cell BK148.out 1).trans rfl
                 have hcz54_2 : wc.cell? ⟨gb148,2,none⟩ = some (.string ((rd_T98 l0_1 x13_1).f2)):=(blk_cell BK148.out 2).trans rfl
                 have hcz54_3 : wc.cell? ⟨gb148,3,none⟩ = some (.int .u8 ((rd_T98 l0_1 x13_1).f3)):=(blk_cell BK148.out 3).trans rfl
                 have hcz54_4 : wc.cell? ⟨gb148,4,none⟩ = some (.int .u16 ((rd_T98 l0_1 x13_1).f4)):=(blk_cell BK148.out 4).trans rfl
                 have hcz54_5 : wc.cell? ⟨gb148,5,none⟩ = some (.slice A147_5 ((rd_T98 l0_1 x13_1).f5).length c147_5):=(blk_cell BK148.out 5).trans rfl
                 have hfz54_0:=blk_frozen BK148.out 0
                 have hfz54_1:=blk_frozen BK148.out 1
                 have hfz54_2:=blk_frozen BK148.out 2
                 have hfz54_3:=blk_frozen BK148.out 3
                 have hfz54_4:=blk_frozen BK148.out 4
                 have hfz54_5:=blk_frozen BK148.out 5
                 go_wp2_with (first|(go_at_call 57;(with_reducible refine (cktwo_containers.calls kj37 _ _ ((rd_T98 l0_1 x13_1).f5) t153 _ ?side1 ?side2 A48.out).mono ?_);(case side1=>repeat (first|exact (Kd.C_below HR147_5.out HB.out)|(with_reducible refine Kd.C_alloc ?_ _)|(with_reducible refine Kd.C_drewN ?_ _)|(with_reducible refine Kd.C_drew ?_)));(case side2=>exact HC147_5.out);rintro e w55 ⟨rfl,hb⟩;have n0_:=Aside0.mk (blk_below (g:=gb146) (o:=.cells #[.int .u64 a0_0,.slice (some ad147) l0_1.length c0_1] 49 (0,0)) (by (with_reducible repeat (first|apply blk_drewN|apply blk_drew|apply blk_alloc));exact BK146.out) hb);have n1_:=Aside0.mk (blk_below (g:=gb148) (o:=.cells #[.string ((rd_T98 l0_1 x13_1).f0),.string ((rd_T98 l0_1 x13_1).f1),.string ((rd_T98 l0_1 x13_1).f2),.int .u8 ((rd_T98 l0_1 x13_1).f3),.int .u16 ((rd_T98 l0_1 x13_1).f4),.slice A147_5 ((rd_T98 l0_1 x13_1).f5).length c147_5] 98 (0,0)) (by (with_reducible repeat (first|apply blk_drewN|apply blk_drew|apply blk_alloc));exact BK148.out) hb);have n2_:=Aside0.mk (below_step (by repeat (first|(with_reducible first|exact HB.out|apply below_alloc|apply pw_below_drewN|apply below_drew1|refine below_set ?_ GE146.out|refine below_set ?_ GE148.out)|exact HB.out)) hb);clear BK146;clear BK148;clear HB;have BK146:=n0_;have BK148:=n1_;have HB:=n2_;clear n0_ n1_ n2_;(try clear hb);(try clear hb2);(try clear hk);(try clear hi)))
                 repeat (go_quiet (first|(go_at_call 57;(with_reducible refine (cktwo_containers.calls kj37 _ _ ((rd_T98 l0_1 x13_1).f5) t153 _ ?side1 ?side2 A48.out).mono ?_);(case side1=>repeat (first|exact (Kd.C_below HR147_5.out HB.out)|(with_reducible refine Kd.C_alloc ?_ _)|(with_reducible refine Kd.C_drewN ?_ _)|(with_reducible refine Kd.C_drew ?_)));(case side2=>exact HC147_5.out);rintro e w55 ⟨rfl,hb⟩;have n0_:=Aside0.mk (blk_below (g:=gb146) (o:=.cells #[.int .u64 a0_0,.slice (some ad147) l0_1.length c0_1] 49 (0,0)) (by (with_reducible repeat (first|apply blk_drewN|apply blk_drew|apply blk_alloc));exact BK146.out) hb);have n1_:=Aside0.mk (blk_below (g:=gb148) (o:=.cells #[.string ((rd_T98 l0_1 x13_1).f0),.string ((rd_T98 l0_1 x13_1).f1),.string ((rd_T98 l0_1 x13_1).f2),.int .u8 ((rd_T98 l0_1 x13_1).f3),.int .u16 ((rd_T98 l0_1 x13_1).f4),.slice A147_5 ((rd_T98 l0_1 x13_1).f5).length c147_5] 98 (0,0)) (by (with_reducible repeat (first|apply blk_drewN|apply blk_drew|apply blk_alloc));exact BK148.out) hb);have n2_:=Aside0.mk (below_step (by repeat (first|(with_reducible first|exact HB.out|apply below_alloc|apply pw_below_drewN|apply below_drew1|refine below_set ?_ GE146.out|refine below_set ?_ GE148.out)|exact HB.out)) hb);clear BK146;clear BK148;clear HB;have BK146:=n0_;have BK148:=n1_;have HB:=n2_;clear n0_ n1_ n2_;(try clear hb);(try clear hb2);(try clear hk);(try clear hi)));try go_wp2_with (first|(go_at_call 57;(with_reducible refine (cktwo_containers.calls kj37 _ _ ((rd_T98 l0_1 x13_1).f5) t153 _ ?side1 ?side2 A48.out).mono ?_);(case side1=>repeat (first|exact (Kd.C_below HR147_5.out HB.out)|(with_reducible refine Kd.C_alloc ?_ _)|(with_reducible refine Kd.C_drewN ?_ _)|(with_reducible refine Kd.C_drew ?_)));(case side2=>exact HC147_5.out);rintro e w55 ⟨rfl,hb⟩;have n0_:=Aside0.mk (blk_below (g:=gb146) (o:=.cells #[.int .u64 a0_0,.slice (some ad147) l0_1.length c0_1] 49 (0,0)) (by (with_reducible repeat (first|apply blk_drewN|apply blk_drew|apply blk_alloc));exact BK146.out) hb);have n1_:=Aside0.mk (blk_below (g:=gb148) (o:=.cells #[.string ((rd_T98 l0_1 x13_1).f0),.string ((rd_T98 l0_1 x13_1).f1),.string ((rd_T98 l0_1 x13_1).f2),.int .u8 ((rd_T98 l0_1 x13_1).f3),.int .u16 ((rd_T98 l0_1 x13_1).f4),.slice A147_5 ((rd_T98 l0_1 x13_1).f5).length c147_5] 98 (0,0)) (by (with_reducible repeat (first|apply blk_drewN|apply blk_drew|apply blk_alloc));exact BK148.out) hb);have n2_:=Aside0.mk (below_step (by repeat (first|(with_reducible first|exact HB.out|apply below_alloc|apply pw_below_drewN|apply below_drew1|refine below_set ?_ GE146.out|refine below_set ?_ GE148.out)|exact HB.out)) hb);clear BK146;clear BK148;clear HB;have BK146:=n0_;have BK148:=n1_;have HB:=n2_;clear n0_ n1_ n2_;(try clear hb);(try clear hb2);(try clear hk);(try clear hi))))
                 go_ret
                 exact ⟨by first|rfl|(simp [errW_none,errW_some] <;> rfl)|(simp [*,errW_none,errW_some] <;> rfl),by repeat (first|(with_reducible first|exact HB.out|apply below_alloc|apply pw_below_drewN|apply below_drew1|refine below_set ?_ GE146.out|refine below_set ?_ GE148.out)|exact HB.out)⟩
      ·rw [if_neg c9] at H
       exact absurd H (by simp)
     ·rw [if_neg c8] at H
      exact absurd H (by simp)
    ·rw [if_neg c7] at H
     have c7b0 : decide (x13_1 < (l0_1.length : Int)) = false:=decide_eq_false c7
     clear c7
     obtain rfl:=Option.some.inj H
     go_wp2
     repeat (go_quiet (fail);try go_wp2)
     go_ret
     exact ⟨by first|rfl|(simp [errW_none,errW_some] <;> rfl)|(simp [*,errW_none,errW_some] <;> rfl),by repeat (first|(with_reducible first|exact HB.out|apply below_alloc|apply pw_below_drewN|apply below_drew1|refine below_set ?_ GE146.out)|exact HB.out)⟩

end Go.Proofs.YtpmbdcljphpcnaaDoor.GC2
