/- Written by this session's own program (wip/gen.py) out of the translation: plain Lean functions of the Go functions, and proofs that the calls come to their answers. No conditions beside those in the statements. -/
import Derived.Test.YtpmbdcljphpcnaaDoorGCkx15d
namespace Go.Proofs.YtpmbdcljphpcnaaDoor.GCk
open Go.RowKit Go.Proofs.YtpmbdcljphpcnaaDoorW.PrintWords Go.Proofs.YtpmbdcljphpcnaaDoorW.PrintLast
set_option linter.unusedVariables false
set_option linter.unusedSimpArgs false

set_option maxHeartbeats 8000000 in
set_option maxRecDepth 100000 in
theorem bosunlaw17_CkoneCodes.calls (k : Nat) (a0_0 : Int) (A0_1 : Option Addr) (c0_1 : Nat) (l0_1 : List (S66)) (a1_0 : Int) (A1_1 : Option Addr) (c1_1 : Nat) (l1_1 : List (S66)) (a2 : ByteArray) (r : Bool) (w : World) (hr0_1 : Kd.C k66 w A0_1 l0_1.length l0_1) (hc0_1 : l0_1.length ≤ c0_1) (hr1_1 : Kd.C k66 w A1_1 l1_1.length l1_1) (hc1_1 : l1_1.length ≤ c1_1) (h : bosunlaw17_CkoneCodes.f k a0_0 l0_1 a1_0 l1_1 a2 = some r) :
  Calls Tryd.prog 3 #[.agg #[.int .u32 a0_0,.slice A0_1 l0_1.length c0_1],.agg #[.int .u32 a1_0,.slice A1_1 l1_1.length c1_1],.string a2] w fun e w'=>e = .returned (.bool r) ∧ Below w.heap.size w w':=by
 have hu25:=Tryd.underlying25
 have hu30:=Tryd.underlying30
 have HR0_1:=Aside0.mk hr0_1
 have HC0_1:=Aside0.mk hc0_1
 clear hr0_1 hc0_1
 have HR1_1:=Aside0.mk hr1_1
 have HC1_1:=Aside0.mk hc1_1
 clear hr1_1 hc1_1
 have HB:=Aside0.mk (Below.refl w.heap.size w)
 have H : ((bosunlaw17_Small.f k a0_0 l0_1).bind fun t202=>(if t202 = true then ((bosunlaw17_Small.f k a1_0 l1_1).bind fun t203=>(if t203 = true then (bosunlaw17_CkoneCodes.j0 k a2 (decide ((a2.size : Int) > 200)) a0_0 l0_1 a1_0 l1_1) else (bosunlaw17_CkoneCodes.j0 k a2 true a0_0 l0_1 a1_0 l1_1))) else (bosunlaw17_CkoneCodes.j0 k a2 true a0_0 l0_1 a1_0 l1_1))) = some r:=h
 clear h
 have HC4:=Aside0.mk H
 clear H
 go_enter Tryd.func3,Tryd.ntmps3
 go_upto_region 1 with (first|((with_reducible refine gate_dst (N:=3) rfl ?_);refine box_event ?hg (N:=3) ?hd (cs:=#[.int .u32 a0_0,.slice A0_1 l0_1.length c0_1]) (t:=25) ?hr ?_;(case hd=>rfl);(case hg=>rfl);(case hr=>first|(go_simp;done)|(go_simp;rfl));intro gb200 hg w5 hbox hb;have n0_:=Aside0.mk (below_step (by repeat (first|(with_reducible first|exact HB.out|apply below_alloc|apply pw_below_drewN|apply below_drew1)|exact HB.out)) hb);have n1_:=Aside0.mk (hbox);have n2_:=Aside0.mk ((by rw [hg];exact (below_size (by repeat (first|(with_reducible first|exact HB.out|apply below_alloc|apply pw_below_drewN|apply below_drew1)|exact HB.out))) : w.heap.size ≤ gb200));have n3_:=Aside0.mk ((by rw [hg];exact (below_size (by repeat (first|(with_reducible first|exact HB.out|apply below_alloc|apply pw_below_drewN|apply below_drew1)|exact HB.out))) : w.heap.size ≤ gb200));clear HB;have HB:=n0_;have BK200:=n1_;have GW200:=n2_;have GE200:=n3_;clear n0_ n1_ n2_ n3_;clear hb hbox hg)|((with_reducible refine gate_dst (N:=4) rfl ?_);refine box_event ?hg (N:=4) ?hd (cs:=#[.int .u32 a1_0,.slice A1_1 l1_1.length c1_1]) (t:=25) ?hr ?_;(case hd=>rfl);(case hg=>rfl);(case hr=>first|(go_simp;done)|(go_simp;rfl));intro gb201 hg w6 hbox hb;have n0_:=Aside0.mk (blk_below (g:=gb200) (o:=.cells #[.int .u32 a0_0,.slice A0_1 l0_1.length c0_1] 25 (0,0)) (by (with_reducible repeat (first|apply blk_drewN|apply blk_drew|apply blk_alloc));exact BK200.out) hb);have n1_:=Aside0.mk (below_step (by repeat (first|(with_reducible first|exact HB.out|apply below_alloc|apply pw_below_drewN|apply below_drew1|refine below_set ?_ GE200.out)|exact HB.out)) hb);have n2_:=Aside0.mk (hbox);have n3_:=Aside0.mk ((by rw [hg];exact (below_size (by repeat (first|(with_reducible first|exact HB.out|apply below_alloc|apply pw_below_drewN|apply below_drew1|refine below_set ?_ GE200.out)|exact HB.out))) : w.heap.size ≤ gb201));have n4_:=Aside0.mk ((by rw [hg];exact (below_size (by repeat (first|(with_reducible first|exact HB.out|apply below_alloc|apply pw_below_drewN|apply below_drew1|refine below_set ?_ GE200.out)|exact HB.out))) : w.heap.size ≤ gb201));have n5_:=Aside0.mk ((by rw [hg];exact Nat.ne_of_lt (blk_lt (g:=gb200) (o:=.cells #[.int .u32 a0_0,.slice A0_1 l0_1.length c0_1] 25 (0,0)) (by (with_reducible repeat (first|apply blk_drewN|apply blk_drew|apply blk_alloc));exact BK200.out)) : gb200 ≠ gb201));have n6_:=Aside0.mk ((by rw [hg];exact Nat.ne_of_gt (blk_lt (g:=gb200) (o:=.cells #[.int .u32 a0_0,.slice A0_1 l0_1.length c0_1] 25 (0,0)) (by (with_reducible repeat (first|apply blk_drewN|apply blk_drew|apply blk_alloc));exact BK200.out)) : gb201 ≠ gb200));clear BK200;clear HB;have BK200:=n0_;have HB:=n1_;have BK201:=n2_;have GW201:=n3_;have GE201:=n4_;have NB200_201:=n5_;have NB201_200:=n6_;clear n0_ n1_ n2_ n3_ n4_ n5_ n6_;clear hb hbox hg))
 (try simp only [Act.put,sB,sZ,sS])
 go_cut [24] (fun v24 wc=>∃ (kq : Nat) (x24_3 : Bool),v24 = .bool x24_3 ∧ Aside0 (bosunlaw17_CkoneCodes.j0 kq a2 x24_3 a0_0 l0_1 a1_0 l1_1 = some r) ∧ Aside0 (kq ≤ k) ∧ Aside0 (wc.heap[gb200]? = some (.cells #[.int .u32 a0_0,(.slice A0_1 l0_1.length c0_1)] 25 (0,0))) ∧ Aside0 (wc.heap[gb201]? = some (.cells #[.int .u32 a1_0,(.slice A1_1 l1_1.length c1_1)] 25 (0,0))) ∧ Aside0 (Below w.heap.size w wc))
 case first =>
  have H:=HC4.out
  clear HC4
  replace H:=Option.bind_eq_some_iff.mp H
  obtain ⟨t202,A70,H⟩:=H
  replace H : (if t202 = true then ((bosunlaw17_Small.f k a1_0 l1_1).bind fun t203=>(if t203 = true then (bosunlaw17_CkoneCodes.j0 k a2 (decide ((a2.size : Int) > 200)) a0_0 l0_1 a1_0 l1_1) else (bosunlaw17_CkoneCodes.j0 k a2 true a0_0 l0_1 a1_0 l1_1))) else (bosunlaw17_CkoneCodes.j0 k a2 true a0_0 l0_1 a1_0 l1_1)) = some r:=H
  have A7:=Aside0.mk A70
  clear A70
  by_cases c8 : t202 = true
  ·subst c8
   have H1 : ((bosunlaw17_Small.f k a1_0 l1_1).bind fun t203=>(if t203 = true then (bosunlaw17_CkoneCodes.j0 k a2 (decide ((a2.size : Int) > 200)) a0_0 l0_1 a1_0 l1_1) else (bosunlaw17_CkoneCodes.j0 k a2 true a0_0 l0_1 a1_0 l1_1))) = some r:=by rw [if_pos rfl] at H;exact H
   clear H
   have H:=H1
   clear H1
   replace H:=Option.bind_eq_some_iff.mp H
   obtain ⟨t203,A90,H⟩:=H
   replace H : (if t203 = true then (bosunlaw17_CkoneCodes.j0 k a2 (decide ((a2.size : Int) > 200)) a0_0 l0_1 a1_0 l1_1) else (bosunlaw17_CkoneCodes.j0 k a2 true a0_0 l0_1 a1_0 l1_1)) = some r:=H
   have A9:=Aside0.mk A90
   clear A90
   by_cases c10 : t203 = true
   ·subst c10
    have H1 : (bosunlaw17_CkoneCodes.j0 k a2 (decide ((a2.size : Int) > 200)) a0_0 l0_1 a1_0 l1_1) = some r:=by rw [if_pos rfl] at H;exact H
    clear H
    have H:=H1
    clear H1
    have H':=Aside0.mk H
    clear H
    have hnb11:=NB200_201.out
    have hnc11:=NB201_200.out
    have hcz12_0 : w6.cell? ⟨gb200,0,none⟩ = some (.int .u32 a0_0):=(blk_cell BK200.out 0).trans rfl
    have hcz12_1 : w6.cell? ⟨gb200,1,none⟩ = some (.slice A0_1 l0_1.length c0_1):=(blk_cell BK200.out 1).trans rfl
    have hfz12_0:=blk_frozen BK200.out 0
    have hfz12_1:=blk_frozen BK200.out 1
    go_wp2_with (first|((with_reducible refine gate_callee (f:=9) rfl ?_);refine goesL_ (some 13) rfl rfl Tryd.func9 (by kernel_rfl) rfl #[.agg #[.int .u32 a0_0,.slice A0_1 l0_1.length c0_1]] rfl (by (try simp only [List.map_toArray,List.map_cons,List.map_nil]);first|done|rfl|(simp only [List.length_drop,List.length_take];rfl)|(simp (disch:=first|omega|(simp at *;omega)) only [u64_id,i64_id,u8_id];rfl)) ?_;(with_reducible refine (bosunlaw17_Small.calls k a0_0 _ _ l0_1 true _ ?side1 ?side2 A7.out).mono ?_);(case side1=>repeat (first|exact (Kd.C_below HR0_1.out HB.out)|(with_reducible refine Kd.C_alloc ?_ _)|(with_reducible refine Kd.C_drewN ?_ _)|(with_reducible refine Kd.C_drew ?_)));(case side2=>exact HC0_1.out);rintro e w13 ⟨rfl,hb⟩;refine ⟨_,rfl,?_⟩;have n0_:=Aside0.mk (blk_below (g:=gb200) (o:=.cells #[.int .u32 a0_0,.slice A0_1 l0_1.length c0_1] 25 (0,0)) (by (with_reducible repeat (first|apply blk_drewN|apply blk_drew|apply blk_alloc));exact BK200.out) hb);have n1_:=Aside0.mk (blk_below (g:=gb201) (o:=.cells #[.int .u32 a1_0,.slice A1_1 l1_1.length c1_1] 25 (0,0)) (by (with_reducible repeat (first|apply blk_drewN|apply blk_drew|apply blk_alloc));exact BK201.out) hb);have n2_:=Aside0.mk (below_step (by repeat (first|(with_reducible first|exact HB.out|apply below_alloc|apply pw_below_drewN|apply below_drew1|refine below_set ?_ GE200.out|refine below_set ?_ GE201.out)|exact HB.out)) hb);clear BK200;clear BK201;clear HB;have BK200:=n0_;have BK201:=n1_;have HB:=n2_;clear n0_ n1_ n2_;(try clear hb);(try clear hb2);(try clear hk);(try clear hi);have hcz14_0 : w13.cell? ⟨gb201,0,none⟩ = some (.int .u32 a1_0):=(blk_cell BK201.out 0).trans rfl;have hcz14_1 : w13.cell? ⟨gb201,1,none⟩ = some (.slice A1_1 l1_1.length c1_1):=(blk_cell BK201.out 1).trans rfl;have hfz14_0:=blk_frozen BK201.out 0;have hfz14_1:=blk_frozen BK201.out 1)|(go_at_call 9;(with_reducible refine (bosunlaw17_Small.calls k a1_0 _ _ l1_1 true _ ?side1 ?side2 A9.out).mono ?_);(case side1=>repeat (first|exact (Kd.C_below HR1_1.out HB.out)|(with_reducible refine Kd.C_alloc ?_ _)|(with_reducible refine Kd.C_drewN ?_ _)|(with_reducible refine Kd.C_drew ?_)));(case side2=>exact HC1_1.out);rintro e w15 ⟨rfl,hb⟩;have n0_:=Aside0.mk (blk_below (g:=gb200) (o:=.cells #[.int .u32 a0_0,.slice A0_1 l0_1.length c0_1] 25 (0,0)) (by (with_reducible repeat (first|apply blk_drewN|apply blk_drew|apply blk_alloc));exact BK200.out) hb);have n1_:=Aside0.mk (blk_below (g:=gb201) (o:=.cells #[.int .u32 a1_0,.slice A1_1 l1_1.length c1_1] 25 (0,0)) (by (with_reducible repeat (first|apply blk_drewN|apply blk_drew|apply blk_alloc));exact BK201.out) hb);have n2_:=Aside0.mk (below_step (by repeat (first|(with_reducible first|exact HB.out|apply below_alloc|apply pw_below_drewN|apply below_drew1|refine below_set ?_ GE200.out|refine below_set ?_ GE201.out)|exact HB.out)) hb);clear BK200;clear BK201;clear HB;have BK200:=n0_;have BK201:=n1_;have HB:=n2_;clear n0_ n1_ n2_;(try clear hb);(try clear hb2);(try clear hk);(try clear hi)))
    go_meet
    case rel=>exact ⟨_,(decide ((a2.size : Int) > 200)),(by first|rfl|(simp;done)|(simp [*];done)),H',⟨by first|omega|exact Nat.le_refl _⟩,⟨by (with_reducible repeat (first|apply blk_drewN|apply blk_drew|apply blk_alloc));exact BK200.out⟩,⟨by (with_reducible repeat (first|apply blk_drewN|apply blk_drew|apply blk_alloc));exact BK201.out⟩,⟨by repeat (first|(with_reducible first|exact HB.out|apply below_alloc|apply pw_below_drewN|apply below_drew1|refine below_set ?_ GE200.out|refine below_set ?_ GE201.out)|exact HB.out)⟩⟩
   ·replace c10:=Bool.eq_false_iff.mpr c10
    subst c10
    have H1 : (bosunlaw17_CkoneCodes.j0 k a2 true a0_0 l0_1 a1_0 l1_1) = some r:=by rw [if_neg (show ¬ (false = true) by decide)] at H;exact H
    clear H
    have H:=H1
    clear H1
    have H':=Aside0.mk H
    clear H
    have hnb16:=NB200_201.out
    have hnc16:=NB201_200.out
    have hcz17_0 : w6.cell? ⟨gb200,0,none⟩ = some (.int .u32 a0_0):=(blk_cell BK200.out 0).trans rfl
    have hcz17_1 : w6.cell? ⟨gb200,1,none⟩ = some (.slice A0_1 l0_1.length c0_1):=(blk_cell BK200.out 1).trans rfl
    have hfz17_0:=blk_frozen BK200.out 0
    have hfz17_1:=blk_frozen BK200.out 1
    go_wp2_with (first|((with_reducible refine gate_callee (f:=9) rfl ?_);refine goesL_ (some 13) rfl rfl Tryd.func9 (by kernel_rfl) rfl #[.agg #[.int .u32 a0_0,.slice A0_1 l0_1.length c0_1]] rfl (by (try simp only [List.map_toArray,List.map_cons,List.map_nil]);first|done|rfl|(simp only [List.length_drop,List.length_take];rfl)|(simp (disch:=first|omega|(simp at *;omega)) only [u64_id,i64_id,u8_id];rfl)) ?_;(with_reducible refine (bosunlaw17_Small.calls k a0_0 _ _ l0_1 true _ ?side1 ?side2 A7.out).mono ?_);(case side1=>repeat (first|exact (Kd.C_below HR0_1.out HB.out)|(with_reducible refine Kd.C_alloc ?_ _)|(with_reducible refine Kd.C_drewN ?_ _)|(with_reducible refine Kd.C_drew ?_)));(case side2=>exact HC0_1.out);rintro e w18 ⟨rfl,hb⟩;refine ⟨_,rfl,?_⟩;have n0_:=Aside0.mk (blk_below (g:=gb200) (o:=.cells #[.int .u32 a0_0,.slice A0_1 l0_1.length c0_1] 25 (0,0)) (by (with_reducible repeat (first|apply blk_drewN|apply blk_drew|apply blk_alloc));exact BK200.out) hb);have n1_:=Aside0.mk (blk_below (g:=gb201) (o:=.cells #[.int .u32 a1_0,.slice A1_1 l1_1.length c1_1] 25 (0,0)) (by (with_reducible repeat (first|apply blk_drewN|apply blk_drew|apply blk_alloc));exact BK201.out) hb);have n2_:=Aside0.mk (below_step (by repeat (first|(with_reducible first|exact HB.out|apply below_alloc|apply pw_below_drewN|apply below_drew1|refine below_set ?_ GE200.out|refine below_set ?_ GE201.out)|exact HB.out)) hb);clear BK200;clear BK201;clear HB;have BK200:=n0_;have BK201:=n1_;have HB:=n2_;clear n0_ n1_ n2_;(try clear hb);(try clear hb2);(try clear hk);(try clear hi);have hcz19_0 : w18.cell? ⟨gb201,0,none⟩ = some (.int .u32 a1_0):=(blk_cell BK201.out 0).trans rfl;have hcz19_1 : w18.cell? ⟨gb201,1,none⟩ = some (.slice A1_1 l1_1.length c1_1):=(blk_cell BK201.out 1).trans rfl;have hfz19_0:=blk_frozen BK201.out 0;have hfz19_1:=blk_frozen BK201.out 1)|(go_at_call 9;(with_reducible refine (bosunlaw17_Small.calls k a1_0 _ _ l1_1 false _ ?side1 ?side2 A9.out).mono ?_);(case side1=>repeat (first|exact (Kd.C_below HR1_1.out HB.out)|(with_reducible refine Kd.C_alloc ?_ _)|(with_reducible refine Kd.C_drewN ?_ _)|(with_reducible refine Kd.C_drew ?_)));(case side2=>exact HC1_1.out);rintro e w20 ⟨rfl,hb⟩;have n0_:=Aside0.mk (blk_below (g:=gb200) (o:=.cells #[.int .u32 a0_0,.slice A0_1 l0_1.length c0_1] 25 (0,0)) (by (with_reducible repeat (first|apply blk_drewN|apply blk_drew|apply blk_alloc));exact BK200.out) hb);have n1_:=Aside0.mk (blk_below (g:=gb201) (o:=.cells #[.int .u32 a1_0,.slice A1_1 l1_1.length c1_1] 25 (0,0)) (by (with_reducible repeat (first|apply blk_drewN|apply blk_drew|apply blk_alloc));exact BK201.out) hb);have n2_:=Aside0.mk (below_step (by repeat (first|(with_reducible first|exact HB.out|apply below_alloc|apply pw_below_drewN|apply below_drew1|refine below_set ?_ GE200.out|refine below_set ?_ GE201.out)|exact HB.out)) hb);clear BK200;clear BK201;clear HB;have BK200:=n0_;have BK201:=n1_;have HB:=n2_;clear n0_ n1_ n2_;(try clear hb);(try clear hb2);(try clear hk);(try clear hi)))
    go_meet
    case rel=>exact ⟨_,(true),(by first|rfl|(simp;done)|(simp [*];done)),H',⟨by first|omega|exact Nat.le_refl _⟩,⟨by (with_reducible repeat (first|apply blk_drewN|apply blk_drew|apply blk_alloc));exact BK200.out⟩,⟨by (with_reducible repeat (first|apply blk_drewN|apply blk_drew|apply blk_alloc));exact BK201.out⟩,⟨by repeat (first|(with_reducible first|exact HB.out|apply below_alloc|apply pw_below_drewN|apply below_drew1|refine below_set ?_ GE200.out|refine below_set ?_ GE201.out)|exact HB.out)⟩⟩
  ·replace c8:=Bool.eq_false_iff.mpr c8
   subst c8
   have H1 : (bosunlaw17_CkoneCodes.j0 k a2 true a0_0 l0_1 a1_0 l1_1) = some r:=by rw [if_neg (show ¬ (false = true) by decide)] at H;exact H
   clear H
   have H:=H1
   clear H1
   have H':=Aside0.mk H
   clear H
   have hnb21:=NB200_201.out
   have hnc21:=NB201_200.out
   have hcz22_0 : w6.cell? ⟨gb200,0,none⟩ = some (.int .u32 a0_0):=(blk_cell BK200.out 0).trans rfl
   have hcz22_1 : w6.cell? ⟨gb200,1,none⟩ = some (.slice A0_1 l0_1.length c0_1):=(blk_cell BK200.out 1).trans rfl
   have hfz22_0:=blk_frozen BK200.out 0
   have hfz22_1:=blk_frozen BK200.out 1
   go_wp2_with (first|((with_reducible refine gate_callee (f:=9) rfl ?_);refine goesL_ (some 13) rfl rfl Tryd.func9 (by kernel_rfl) rfl #[.agg #[.int .u32 a0_0,.slice A0_1 l0_1.length c0_1]] rfl (by (try simp only [List.map_toArray,List.map_cons,List.map_nil]);first|done|rfl|(simp only [List.length_drop,List.length_take];rfl)|(simp (disch:=first|omega|(simp at *;omega)) only [u64_id,i64_id,u8_id];rfl)) ?_;(with_reducible refine (bosunlaw17_Small.calls k a0_0 _ _ l0_1 false _ ?side1 ?side2 A7.out).mono ?_);(case side1=>repeat (first|exact (Kd.C_below HR0_1.out HB.out)|(with_reducible refine Kd.C_alloc ?_ _)|(with_reducible refine Kd.C_drewN ?_ _)|(with_reducible refine Kd.C_drew ?_)));(case side2=>exact HC0_1.out);rintro e w23 ⟨rfl,hb⟩;refine ⟨_,rfl,?_⟩;have n0_:=Aside0.mk (blk_below (g:=gb200) (o:=.cells #[.int .u32 a0_0,.slice A0_1 l0_1.length c0_1] 25 (0,0)) (by (with_reducible repeat (first|apply blk_drewN|apply blk_drew|apply blk_alloc));exact BK200.out) hb);have n1_:=Aside0.mk (blk_below (g:=gb201) (o:=.cells #[.int .u32 a1_0,.slice A1_1 l1_1.length c1_1] 25 (0,0)) (by (with_reducible repeat (first|apply blk_drewN|apply blk_drew|apply blk_alloc));exact BK201.out) hb);have n2_:=Aside0.mk (below_step (by repeat (first|(with_reducible first|exact HB.out|apply below_alloc|apply pw_below_drewN|apply below_drew1|refine below_set ?_ GE200.out|refine below_set ?_ GE201.out)|exact HB.out)) hb);clear BK200;clear BK201;clear HB;have BK200:=n0_;have BK201:=n1_;have HB:=n2_;clear n0_ n1_ n2_;(try clear hb);(try clear hb2);(try clear hk);(try clear hi)))
   go_meet
   case rel=>exact ⟨_,(true),(by first|rfl|(simp;done)|(simp [*];done)),H',⟨by first|omega|exact Nat.le_refl _⟩,⟨by (with_reducible repeat (first|apply blk_drewN|apply blk_drew|apply blk_alloc));exact BK200.out⟩,⟨by (with_reducible repeat (first|apply blk_drewN|apply blk_drew|apply blk_alloc));exact BK201.out⟩,⟨by repeat (first|(with_reducible first|exact HB.out|apply below_alloc|apply pw_below_drewN|apply below_drew1|refine below_set ?_ GE200.out|refine below_set ?_ GE201.out)|exact HB.out)⟩⟩
 case rest =>
  clear HC4
  try clear c1
  try clear c2
  try clear p2
  try clear c3
  try clear c8
  try clear c9
  try clear c10
  try clear c11
  try clear c16
  try clear c21
  try clear hcz12_0
  try clear hcz12_1
  try clear hcz14_0
  try clear hcz14_1
  try clear hcz17_0
  try clear hcz17_1
  try clear hcz19_0
  try clear hcz19_1
  try clear hcz22_0
  try clear hcz22_1
  try clear hfz12_0
  try clear hfz12_1
  try clear hfz14_0
  try clear hfz14_1
  try clear hfz17_0
  try clear hfz17_1
  try clear hfz19_0
  try clear hfz19_1
  try clear hfz22_0
  try clear hfz22_1
  obtain ⟨kq,x24_3,rfl,HA,HJ3,BK200,BK201,HB⟩:=hcut
  cases kq with
  | zero=>exact absurd HA.out (by simp [bosunlaw17_CkoneCodes.j0])
  | succ kj3 =>
   have H:=HA.out
   clear HA
   simp only [bosunlaw17_CkoneCodes.j0] at H
   by_cases c24 : x24_3 = true
   ·subst c24
    have H1 : ((bosunlaw17_Awake.f kj3).bind fun t204=>(some t204)) = some r:=by rw [if_pos rfl] at H;exact H
    clear H
    have H:=H1
    clear H1
    replace H:=Option.bind_eq_some_iff.mp H
    obtain ⟨t204,A250,H⟩:=H
    replace H : (some t204) = some r:=H
    have A25:=Aside0.mk A250
    clear A250
    obtain rfl:=Option.some.inj H
    go_wp2_with (first|((with_reducible refine gate_callee (f:=10) rfl ?_);refine goesL_ (some 25) rfl rfl Tryd.func10 (by kernel_rfl) rfl #[] rfl (by (try simp only [List.map_toArray,List.map_cons,List.map_nil]);first|done|rfl|(simp only [List.length_drop,List.length_take];rfl)|(simp (disch:=first|omega|(simp at *;omega)) only [u64_id,i64_id,u8_id];rfl)) ?_;(with_reducible refine (bosunlaw17_Awake.calls kj3  t204 _ A25.out).mono ?_);rintro e w26 ⟨rfl,hb⟩;refine ⟨_,rfl,?_⟩;have n0_:=Aside0.mk (blk_below (g:=gb200) (o:=.cells #[.int .u32 a0_0,.slice A0_1 l0_1.length c0_1] 25 (0,0)) (by (with_reducible repeat (first|apply blk_drewN|apply blk_drew|apply blk_alloc));exact BK200.out) hb);have n1_:=Aside0.mk (blk_below (g:=gb201) (o:=.cells #[.int .u32 a1_0,.slice A1_1 l1_1.length c1_1] 25 (0,0)) (by (with_reducible repeat (first|apply blk_drewN|apply blk_drew|apply blk_alloc));exact BK201.out) hb);have n2_:=Aside0.mk (below_step (by repeat (first|(with_reducible first|exact HB.out|apply below_alloc|apply pw_below_drewN|apply below_drew1|refine below_set ?_ GE200.out|refine below_set ?_ GE201.out)|exact HB.out)) hb);clear BK200;clear BK201;clear HB;have BK200:=n0_;have BK201:=n1_;have HB:=n2_;clear n0_ n1_ n2_;(try clear hb);(try clear hb2);(try clear hk);(try clear hi)))
    go_ret
    exact ⟨by first|rfl|(simp [errW_none,errW_some] <;> rfl)|(simp [*,errW_none,errW_some] <;> rfl),by repeat (first|(with_reducible first|exact HB.out|apply below_alloc|apply pw_below_drewN|apply below_drew1|refine below_set ?_ GE200.out|refine below_set ?_ GE201.out)|exact HB.out)⟩
   ·replace c24:=Bool.eq_false_iff.mpr c24
    subst c24
    have H1 : ((bosunlaw17_Of.f kj3 a0_0 l0_1).bind fun bt205=>((bosunlaw17_Of.f kj3 a1_0 l1_1).bind fun bt209=>((bosunref17_Check.f kj3 bt205.1 bt205.2).bind fun t215=>((ckone_Encode.f kj3 a0_0 l0_1).bind fun bt216=>((ckone_State_Check.f kj3 a0_0 l0_1).bind fun t218=>(if t218 = t215 then (if bt216.2 = t215 then (if t215 = 0 then ((bosunref17_Bytes.f kj3 bt205.1 bt205.2).bind fun t219=>(if bt216.1.toList = t219.toList then (bosunlaw17_CkoneCodes.j1 kj3 a2 false a0_0 l0_1 a1_0 l1_1 bt205.1 bt205.2 bt209.1 bt209.2) else (bosunlaw17_CkoneCodes.j1 kj3 a2 true a0_0 l0_1 a1_0 l1_1 bt205.1 bt205.2 bt209.1 bt209.2))) else (bosunlaw17_CkoneCodes.j1 kj3 a2 (bt216.1.toList != ([] : List UInt8)) a0_0 l0_1 a1_0 l1_1 bt205.1 bt205.2 bt209.1 bt209.2)) else (bosunlaw17_CkoneCodes.j1 kj3 a2 true a0_0 l0_1 a1_0 l1_1 bt205.1 bt205.2 bt209.1 bt209.2)) else (bosunlaw17_CkoneCodes.j1 kj3 a2 true a0_0 l0_1 a1_0 l1_1 bt205.1 bt205.2 bt209.1 bt209.2))))))) = some r:=by rw [if_neg (show ¬ (false = true) by decide)] at H;exact H
    clear H
    have H:=H1
    clear H1
    replace H:=Option.bind_eq_some_iff.mp H
    obtain ⟨⟨t205,t206⟩,A270,H⟩:=H
    replace H : ((bosunlaw17_Of.f kj3 a1_0 l1_1).bind fun bt209=>((bosunref17_Check.f kj3 t205 t206).bind fun t215=>((ckone_Encode.f kj3 a0_0 l0_1).bind fun bt216=>((ckone_State_Check.f kj3 a0_0 l0_1).bind fun t218=>(if t218 = t215 then (if bt216.2 = t215 then (if t215 = 0 then ((bosunref17_Bytes.f kj3 t205 t206).bind fun t219=>(if bt216.1.toList = t219.toList then (bosunlaw17_CkoneCodes.j1 kj3 a2 false a0_0 l0_1 a1_0 l1_1 t205 t206 bt209.1 bt209.2) else (bosunlaw17_CkoneCodes.j1 kj3 a2 true a0_0 l0_1 a1_0 l1_1 t205 t206 bt209.1 bt209.2))) else (bosunlaw17_CkoneCodes.j1 kj3 a2 (bt216.1.toList != ([] : List UInt8)) a0_0 l0_1 a1_0 l1_1 t205 t206 bt209.1 bt209.2)) else (bosunlaw17_CkoneCodes.j1 kj3 a2 true a0_0 l0_1 a1_0 l1_1 t205 t206 bt209.1 bt209.2)) else (bosunlaw17_CkoneCodes.j1 kj3 a2 true a0_0 l0_1 a1_0 l1_1 t205 t206 bt209.1 bt209.2)))))) = some r:=H
    have A27:=Aside0.mk A270
    clear A270
    replace H:=Option.bind_eq_some_iff.mp H
    obtain ⟨⟨t209,t210⟩,A280,H⟩:=H
    replace H : ((bosunref17_Check.f kj3 t205 t206).bind fun t215=>((ckone_Encode.f kj3 a0_0 l0_1).bind fun bt216=>((ckone_State_Check.f kj3 a0_0 l0_1).bind fun t218=>(if t218 = t215 then (if bt216.2 = t215 then (if t215 = 0 then ((bosunref17_Bytes.f kj3 t205 t206).bind fun t219=>(if bt216.1.toList = t219.toList then (bosunlaw17_CkoneCodes.j1 kj3 a2 false a0_0 l0_1 a1_0 l1_1 t205 t206 t209 t210) else (bosunlaw17_CkoneCodes.j1 kj3 a2 true a0_0 l0_1 a1_0 l1_1 t205 t206 t209 t210))) else (bosunlaw17_CkoneCodes.j1 kj3 a2 (bt216.1.toList != ([] : List UInt8)) a0_0 l0_1 a1_0 l1_1 t205 t206 t209 t210)) else (bosunlaw17_CkoneCodes.j1 kj3 a2 true a0_0 l0_1 a1_0 l1_1 t205 t206 t209 t210)) else (bosunlaw17_CkoneCodes.j1 kj3 a2 true a0_0 l0_1 a1_0 l1_1 t205 t206 t209 t210))))) = some r:=H
    have A28:=Aside0.mk A280
    clear A280
    replace H:=Option.bind_eq_some_iff.mp H
    obtain ⟨t215,A290,H⟩:=H
    replace H : ((ckone_Encode.f kj3 a0_0 l0_1).bind fun bt216=>((ckone_State_Check.f kj3 a0_0 l0_1).bind fun t218=>(if t218 = t215 then (if bt216.2 = t215 then (if t215 = 0 then ((bosunref17_Bytes.f kj3 t205 t206).bind fun t219=>(if bt216.1.toList = t219.toList then (bosunlaw17_CkoneCodes.j1 kj3 a2 false a0_0 l0_1 a1_0 l1_1 t205 t206 t209 t210) else (bosunlaw17_CkoneCodes.j1 kj3 a2 true a0_0 l0_1 a1_0 l1_1 t205 t206 t209 t210))) else (bosunlaw17_CkoneCodes.j1 kj3 a2 (bt216.1.toList != ([] : List UInt8)) a0_0 l0_1 a1_0 l1_1 t205 t206 t209 t210)) else (bosunlaw17_CkoneCodes.j1 kj3 a2 true a0_0 l0_1 a1_0 l1_1 t205 t206 t209 t210)) else (bosunlaw17_CkoneCodes.j1 kj3 a2 true a0_0 l0_1 a1_0 l1_1 t205 t206 t209 t210)))) = some r:=H
    have A29:=Aside0.mk A290
    clear A290
    replace H:=Option.bind_eq_some_iff.mp H
    obtain ⟨⟨t216,t217⟩,A300,H⟩:=H
    replace H : ((ckone_State_Check.f kj3 a0_0 l0_1).bind fun t218=>(if t218 = t215 then (if t217 = t215 then (if t215 = 0 then ((bosunref17_Bytes.f kj3 t205 t206).bind fun t219=>(if t216.toList = t219.toList then (bosunlaw17_CkoneCodes.j1 kj3 a2 false a0_0 l0_1 a1_0 l1_1 t205 t206 t209 t210) else (bosunlaw17_CkoneCodes.j1 kj3 a2 true a0_0 l0_1 a1_0 l1_1 t205 t206 t209 t210))) else (bosunlaw17_CkoneCodes.j1 kj3 a2 (t216.toList != ([] : List UInt8)) a0_0 l0_1 a1_0 l1_1 t205 t206 t209 t210)) else (bosunlaw17_CkoneCodes.j1 kj3 a2 true a0_0 l0_1 a1_0 l1_1 t205 t206 t209 t210)) else (bosunlaw17_CkoneCodes.j1 kj3 a2 true a0_0 l0_1 a1_0 l1_1 t205 t206 t209 t210))) = some r:=H
    have A30:=Aside0.mk A300
    clear A300
    have HC31:=Aside0.mk H
    clear H
    try go_wp2
    have n0_:=Aside0.mk (blk_drew BK200.out)
    have n1_:=Aside0.mk (blk_drew BK201.out)
    have n2_:=Aside0.mk (below_drew1 HB.out)
    clear BK200
    clear BK201
    clear HB
    have BK200:=n0_
    have BK201:=n1_
    have HB:=n2_
    clear n0_ n1_ n2_
    refine start_ (n:=8) (S:=fun w'=>w'.cell? ⟨gb200,0,none⟩ = some (.int .u32 a0_0) ∧ w'.cell? ⟨gb200,1,none⟩ = some (.slice A0_1 l0_1.length c0_1) ∧ w'.cell? ⟨gb201,0,none⟩ = some (.int .u32 a1_0) ∧ w'.cell? ⟨gb201,1,none⟩ = some (.slice A1_1 l1_1.length c1_1)) (ds:=[]) #[false,false,false,false,false,false,false,false] (by kernel_rfl) rfl rfl ⟨(blk_cell BK200.out 0).trans rfl,(blk_cell BK200.out 1).trans rfl,(blk_cell BK201.out 0).trans rfl,(blk_cell BK201.out 1).trans rfl⟩ (fun hHeld=>?_);refine with_tabW bosunlaw17_CkoneCodes.tab3 bosunlaw17_CkoneCodes.bits3 (fun HT_ HW_=>?_)
    generalize wc.drew = w32 at BK200 BK201 HB hHeld ⊢
    refine take_ (i:=0) (N:=some 26) (v:=?_) (a':=?_) #[true,false,false,false,false,false,false,false] rfl rfl (take_ofW HT_.out HW_.out (by kernel_rfl)) (fun _ _ _ h=>h) (Or.inl ⟨by rfl,?_⟩) hHeld ?_ ?_
    rotate_left
    ·rintro w' ⟨s0,s1,s2,s3⟩
     go_simp
     with_reducible rfl
    rotate_left
    ·simp only [Act.put,sB,sZ,sS,i64_w,i32_w]
     rfl
    refine take_ (i:=2) (N:=some 28) (v:=?_) (a':=?_) #[true,false,true,false,false,false,false,false] rfl rfl (take_ofW HT_.out HW_.out (by kernel_rfl)) (fun _ _ _ h=>h) (Or.inl ⟨by rfl,?_⟩) hHeld ?_ ?_
    rotate_left
    ·rintro w' ⟨s0,s1,s2,s3⟩
     go_simp
     with_reducible rfl
    rotate_left
    ·simp only [Act.put,sB,sZ,sS,i64_w,i32_w]
     rfl
    refine join_ (σ:=Value × Value × Nat × Nat) 2 #[true,true,true,true,true,true,false,false] (fun s_=>[(27,.agg #[.int .u32 t205,s_.1]),(29,.agg #[.int .u32 t209,s_.2.1]),(7,.pointer (some ⟨s_.2.2.1,0,none⟩)),(8,.pointer (some ⟨s_.2.2.2,0,none⟩))]) (fun s_ w'=>(w'.cell? ⟨gb200,0,none⟩ = some (.int .u32 a0_0) ∧ w'.cell? ⟨gb200,1,none⟩ = some (.slice A0_1 l0_1.length c0_1) ∧ w'.cell? ⟨gb201,0,none⟩ = some (.int .u32 a1_0) ∧ w'.cell? ⟨gb201,1,none⟩ = some (.slice A1_1 l1_1.length c1_1)) ∧ (Kd.R k67 67 w' w.heap.size (fun k_=>some k_ ≠ (s_.2.1 : Value).ownBlock) s_.1 t206) ∧ (Kd.R k67 67 w' w.heap.size (fun k_=>some k_ ≠ (s_.1 : Value).ownBlock) s_.2.1 t210) ∧ (w'.heap[gb200]? = some (.cells #[.int .u32 a0_0,.slice A0_1 l0_1.length c0_1] 25 (0,0))) ∧ (w'.heap[gb201]? = some (.cells #[.int .u32 a1_0,.slice A1_1 l1_1.length c1_1] 25 (0,0))) ∧ (w'.heap[s_.2.2.1]? = some (.cells #[.int .u32 0,.slice none 0 0] 30 (0,0))) ∧ (w'.heap[s_.2.2.2]? = some (.cells #[.int .u32 0,.slice none 0 0] 30 (0,0))) ∧ (w.heap.size ≤ s_.2.2.1) ∧ (w.heap.size ≤ s_.2.2.1) ∧ (gb200 ≠ s_.2.2.1) ∧ (s_.2.2.1 ≠ gb200) ∧ (gb201 ≠ s_.2.2.1) ∧ (s_.2.2.1 ≠ gb201) ∧ (s_.2.2.2 ≠ s_.2.2.1) ∧ (s_.2.2.1 ≠ s_.2.2.2) ∧ (w.heap.size ≤ s_.2.2.2) ∧ (w.heap.size ≤ s_.2.2.2) ∧ (gb200 ≠ s_.2.2.2) ∧ (s_.2.2.2 ≠ gb200) ∧ (gb201 ≠ s_.2.2.2) ∧ (s_.2.2.2 ≠ gb201) ∧ (Below w.heap.size w w')) ?_ ?_
    rotate_left
    ·intro hJ1_3_4_5
     refine join_ (σ:=Value × Value × Nat) 3 #[true,true,true,true,true,false,false,false] (fun s_=>[(27,.agg #[.int .u32 t205,s_.1]),(29,.agg #[.int .u32 t209,s_.2.1]),(7,.pointer (some ⟨s_.2.2,0,none⟩))]) (fun s_ w'=>(w'.cell? ⟨gb200,0,none⟩ = some (.int .u32 a0_0) ∧ w'.cell? ⟨gb200,1,none⟩ = some (.slice A0_1 l0_1.length c0_1) ∧ w'.cell? ⟨gb201,0,none⟩ = some (.int .u32 a1_0) ∧ w'.cell? ⟨gb201,1,none⟩ = some (.slice A1_1 l1_1.length c1_1)) ∧ (Kd.R k67 67 w' w.heap.size (fun k_=>some k_ ≠ (s_.2.1 : Value).ownBlock) s_.1 t206) ∧ (Kd.R k67 67 w' w.heap.size (fun k_=>some k_ ≠ (s_.1 : Value).ownBlock) s_.2.1 t210) ∧ (w'.heap[gb200]? = some (.cells #[.int .u32 a0_0,.slice A0_1 l0_1.length c0_1] 25 (0,0))) ∧ (w'.heap[gb201]? = some (.cells #[.int .u32 a1_0,.slice A1_1 l1_1.length c1_1] 25 (0,0))) ∧ (w'.heap[s_.2.2]? = some (.cells #[.int .u32 0,.slice none 0 0] 30 (0,0))) ∧ (w.heap.size ≤ s_.2.2) ∧ (w.heap.size ≤ s_.2.2) ∧ (gb200 ≠ s_.2.2) ∧ (s_.2.2 ≠ gb200) ∧ (gb201 ≠ s_.2.2) ∧ (s_.2.2 ≠ gb201) ∧ (Below w.heap.size w w')) ?_ ?_
     rotate_left
     ·intro hJ1_3_4
      refine join_ (σ:=Value × Value × Nat) 3 #[true,true,true,true,false,true,false,false] (fun s_=>[(27,.agg #[.int .u32 t205,s_.1]),(29,.agg #[.int .u32 t209,s_.2.1]),(8,.pointer (some ⟨s_.2.2,0,none⟩))]) (fun s_ w'=>(w'.cell? ⟨gb200,0,none⟩ = some (.int .u32 a0_0) ∧ w'.cell? ⟨gb200,1,none⟩ = some (.slice A0_1 l0_1.length c0_1) ∧ w'.cell? ⟨gb201,0,none⟩ = some (.int .u32 a1_0) ∧ w'.cell? ⟨gb201,1,none⟩ = some (.slice A1_1 l1_1.length c1_1)) ∧ (Kd.R k67 67 w' w.heap.size (fun k_=>some k_ ≠ (s_.2.1 : Value).ownBlock) s_.1 t206) ∧ (Kd.R k67 67 w' w.heap.size (fun k_=>some k_ ≠ (s_.1 : Value).ownBlock) s_.2.1 t210) ∧ (w'.heap[gb200]? = some (.cells #[.int .u32 a0_0,.slice A0_1 l0_1.length c0_1] 25 (0,0))) ∧ (w'.heap[gb201]? = some (.cells #[.int .u32 a1_0,.slice A1_1 l1_1.length c1_1] 25 (0,0))) ∧ (w'.heap[s_.2.2]? = some (.cells #[.int .u32 0,.slice none 0 0] 30 (0,0))) ∧ (w.heap.size ≤ s_.2.2) ∧ (w.heap.size ≤ s_.2.2) ∧ (gb200 ≠ s_.2.2) ∧ (s_.2.2 ≠ gb200) ∧ (gb201 ≠ s_.2.2) ∧ (s_.2.2 ≠ gb201) ∧ (Below w.heap.size w w')) ?_ ?_
      rotate_left
      ·intro hJ1_3_5
       refine join_ (σ:=Value × Nat × Nat) 3 #[true,true,true,false,true,true,false,false] (fun s_=>[(27,.agg #[.int .u32 t205,s_.1]),(7,.pointer (some ⟨s_.2.1,0,none⟩)),(8,.pointer (some ⟨s_.2.2,0,none⟩))]) (fun s_ w'=>(w'.cell? ⟨gb200,0,none⟩ = some (.int .u32 a0_0) ∧ w'.cell? ⟨gb200,1,none⟩ = some (.slice A0_1 l0_1.length c0_1) ∧ w'.cell? ⟨gb201,0,none⟩ = some (.int .u32 a1_0) ∧ w'.cell? ⟨gb201,1,none⟩ = some (.slice A1_1 l1_1.length c1_1)) ∧ (Kd.R k67 67 w' w.heap.size (fun _=>True) s_.1 t206) ∧ (w'.heap[gb200]? = some (.cells #[.int .u32 a0_0,.slice A0_1 l0_1.length c0_1] 25 (0,0))) ∧ (w'.heap[gb201]? = some (.cells #[.int .u32 a1_0,.slice A1_1 l1_1.length c1_1] 25 (0,0))) ∧ (w'.heap[s_.2.1]? = some (.cells #[.int .u32 0,.slice none 0 0] 30 (0,0))) ∧ (w'.heap[s_.2.2]? = some (.cells #[.int .u32 0,.slice none 0 0] 30 (0,0))) ∧ (w.heap.size ≤ s_.2.1) ∧ (w.heap.size ≤ s_.2.1) ∧ (gb200 ≠ s_.2.1) ∧ (s_.2.1 ≠ gb200) ∧ (gb201 ≠ s_.2.1) ∧ (s_.2.1 ≠ gb201) ∧ (s_.2.2 ≠ s_.2.1) ∧ (s_.2.1 ≠ s_.2.2) ∧ (w.heap.size ≤ s_.2.2) ∧ (w.heap.size ≤ s_.2.2) ∧ (gb200 ≠ s_.2.2) ∧ (s_.2.2 ≠ gb200) ∧ (gb201 ≠ s_.2.2) ∧ (s_.2.2 ≠ gb201) ∧ (Below w.heap.size w w')) ?_ ?_
       rotate_left
       ·intro hJ1_4_5
        refine join_ (σ:=Value × Value) 4 #[true,true,true,true,false,false,false,false] (fun s_=>[(27,.agg #[.int .u32 t205,s_.1]),(29,.agg #[.int .u32 t209,s_.2])]) (fun s_ w'=>(w'.cell? ⟨gb200,0,none⟩ = some (.int .u32 a0_0) ∧ w'.cell? ⟨gb200,1,none⟩ = some (.slice A0_1 l0_1.length c0_1) ∧ w'.cell? ⟨gb201,0,none⟩ = some (.int .u32 a1_0) ∧ w'.cell? ⟨gb201,1,none⟩ = some (.slice A1_1 l1_1.length c1_1)) ∧ (Kd.R k67 67 w' w.heap.size (fun k_=>some k_ ≠ (s_.2 : Value).ownBlock) s_.1 t206) ∧ (Kd.R k67 67 w' w.heap.size (fun k_=>some k_ ≠ (s_.1 : Value).ownBlock) s_.2 t210) ∧ (w'.heap[gb200]? = some (.cells #[.int .u32 a0_0,.slice A0_1 l0_1.length c0_1] 25 (0,0))) ∧ (w'.heap[gb201]? = some (.cells #[.int .u32 a1_0,.slice A1_1 l1_1.length c1_1] 25 (0,0))) ∧ (Below w.heap.size w w')) ?_ ?_
        rotate_left
        ·intro hJ1_3
         refine join_ (σ:=Value × Nat) 4 #[true,true,true,false,true,false,false,false] (fun s_=>[(27,.agg #[.int .u32 t205,s_.1]),(7,.pointer (some ⟨s_.2,0,none⟩))]) (fun s_ w'=>(w'.cell? ⟨gb200,0,none⟩ = some (.int .u32 a0_0) ∧ w'.cell? ⟨gb200,1,none⟩ = some (.slice A0_1 l0_1.length c0_1) ∧ w'.cell? ⟨gb201,0,none⟩ = some (.int .u32 a1_0) ∧ w'.cell? ⟨gb201,1,none⟩ = some (.slice A1_1 l1_1.length c1_1)) ∧ (Kd.R k67 67 w' w.heap.size (fun _=>True) s_.1 t206) ∧ (w'.heap[gb200]? = some (.cells #[.int .u32 a0_0,.slice A0_1 l0_1.length c0_1] 25 (0,0))) ∧ (w'.heap[gb201]? = some (.cells #[.int .u32 a1_0,.slice A1_1 l1_1.length c1_1] 25 (0,0))) ∧ (w'.heap[s_.2]? = some (.cells #[.int .u32 0,.slice none 0 0] 30 (0,0))) ∧ (w.heap.size ≤ s_.2) ∧ (w.heap.size ≤ s_.2) ∧ (gb200 ≠ s_.2) ∧ (s_.2 ≠ gb200) ∧ (gb201 ≠ s_.2) ∧ (s_.2 ≠ gb201) ∧ (Below w.heap.size w w')) ?_ ?_
         rotate_left
         ·intro hJ1_4
          refine join_ (σ:=Value × Nat) 4 #[true,true,true,false,false,true,false,false] (fun s_=>[(27,.agg #[.int .u32 t205,s_.1]),(8,.pointer (some ⟨s_.2,0,none⟩))]) (fun s_ w'=>(w'.cell? ⟨gb200,0,none⟩ = some (.int .u32 a0_0) ∧ w'.cell? ⟨gb200,1,none⟩ = some (.slice A0_1 l0_1.length c0_1) ∧ w'.cell? ⟨gb201,0,none⟩ = some (.int .u32 a1_0) ∧ w'.cell? ⟨gb201,1,none⟩ = some (.slice A1_1 l1_1.length c1_1)) ∧ (Kd.R k67 67 w' w.heap.size (fun _=>True) s_.1 t206) ∧ (w'.heap[gb200]? = some (.cells #[.int .u32 a0_0,.slice A0_1 l0_1.length c0_1] 25 (0,0))) ∧ (w'.heap[gb201]? = some (.cells #[.int .u32 a1_0,.slice A1_1 l1_1.length c1_1] 25 (0,0))) ∧ (w'.heap[s_.2]? = some (.cells #[.int .u32 0,.slice none 0 0] 30 (0,0))) ∧ (w.heap.size ≤ s_.2) ∧ (w.heap.size ≤ s_.2) ∧ (gb200 ≠ s_.2) ∧ (s_.2 ≠ gb200) ∧ (gb201 ≠ s_.2) ∧ (s_.2 ≠ gb201) ∧ (Below w.heap.size w w')) ?_ ?_
          rotate_left
          ·intro hJ1_5
           refine join_ (σ:=Nat × Nat) 4 #[true,false,true,false,true,true,false,false] (fun s_=>[(7,.pointer (some ⟨s_.1,0,none⟩)),(8,.pointer (some ⟨s_.2,0,none⟩))]) (fun s_ w'=>(w'.cell? ⟨gb200,0,none⟩ = some (.int .u32 a0_0) ∧ w'.cell? ⟨gb200,1,none⟩ = some (.slice A0_1 l0_1.length c0_1) ∧ w'.cell? ⟨gb201,0,none⟩ = some (.int .u32 a1_0) ∧ w'.cell? ⟨gb201,1,none⟩ = some (.slice A1_1 l1_1.length c1_1)) ∧ (w'.heap[gb200]? = some (.cells #[.int .u32 a0_0,.slice A0_1 l0_1.length c0_1] 25 (0,0))) ∧ (w'.heap[gb201]? = some (.cells #[.int .u32 a1_0,.slice A1_1 l1_1.length c1_1] 25 (0,0))) ∧ (w'.heap[s_.1]? = some (.cells #[.int .u32 0,.slice none 0 0] 30 (0,0))) ∧ (w'.heap[s_.2]? = some (.cells #[.int .u32 0,.slice none 0 0] 30 (0,0))) ∧ (w.heap.size ≤ s_.1) ∧ (w.heap.size ≤ s_.1) ∧ (gb200 ≠ s_.1) ∧ (s_.1 ≠ gb200) ∧ (gb201 ≠ s_.1) ∧ (s_.1 ≠ gb201) ∧ (s_.2 ≠ s_.1) ∧ (s_.1 ≠ s_.2) ∧ (w.heap.size ≤ s_.2) ∧ (w.heap.size ≤ s_.2) ∧ (gb200 ≠ s_.2) ∧ (s_.2 ≠ gb200) ∧ (gb201 ≠ s_.2) ∧ (s_.2 ≠ gb201) ∧ (Below w.heap.size w w')) ?_ ?_
           rotate_left
           ·intro hJ4_5
            refine join_ (σ:=Value) 5 #[true,true,true,false,false,false,false,false] (fun s_=>[(27,.agg #[.int .u32 t205,s_])]) (fun s_ w'=>(w'.cell? ⟨gb200,0,none⟩ = some (.int .u32 a0_0) ∧ w'.cell? ⟨gb200,1,none⟩ = some (.slice A0_1 l0_1.length c0_1) ∧ w'.cell? ⟨gb201,0,none⟩ = some (.int .u32 a1_0) ∧ w'.cell? ⟨gb201,1,none⟩ = some (.slice A1_1 l1_1.length c1_1)) ∧ (Kd.R k67 67 w' w.heap.size (fun _=>True) s_ t206) ∧ (w'.heap[gb200]? = some (.cells #[.int .u32 a0_0,.slice A0_1 l0_1.length c0_1] 25 (0,0))) ∧ (w'.heap[gb201]? = some (.cells #[.int .u32 a1_0,.slice A1_1 l1_1.length c1_1] 25 (0,0))) ∧ (Below w.heap.size w w')) ?_ ?_
            rotate_left
            ·intro hJ1
             refine join_ (σ:=Nat) 5 #[true,false,true,false,true,false,false,false] (fun s_=>[(7,.pointer (some ⟨s_,0,none⟩))]) (fun s_ w'=>(w'.cell? ⟨gb200,0,none⟩ = some (.int .u32 a0_0) ∧ w'.cell? ⟨gb200,1,none⟩ = some (.slice A0_1 l0_1.length c0_1) ∧ w'.cell? ⟨gb201,0,none⟩ = some (.int .u32 a1_0) ∧ w'.cell? ⟨gb201,1,none⟩ = some (.slice A1_1 l1_1.length c1_1)) ∧ (w'.heap[gb200]? = some (.cells #[.int .u32 a0_0,.slice A0_1 l0_1.length c0_1] 25 (0,0))) ∧ (w'.heap[gb201]? = some (.cells #[.int .u32 a1_0,.slice A1_1 l1_1.length c1_1] 25 (0,0))) ∧ (w'.heap[s_]? = some (.cells #[.int .u32 0,.slice none 0 0] 30 (0,0))) ∧ (w.heap.size ≤ s_) ∧ (w.heap.size ≤ s_) ∧ (gb200 ≠ s_) ∧ (s_ ≠ gb200) ∧ (gb201 ≠ s_) ∧ (s_ ≠ gb201) ∧ (Below w.heap.size w w')) ?_ ?_
             rotate_left
             ·intro hJ4
              refine join_ (σ:=Nat) 5 #[true,false,true,false,false,true,false,false] (fun s_=>[(8,.pointer (some ⟨s_,0,none⟩))]) (fun s_ w'=>(w'.cell? ⟨gb200,0,none⟩ = some (.int .u32 a0_0) ∧ w'.cell? ⟨gb200,1,none⟩ = some (.slice A0_1 l0_1.length c0_1) ∧ w'.cell? ⟨gb201,0,none⟩ = some (.int .u32 a1_0) ∧ w'.cell? ⟨gb201,1,none⟩ = some (.slice A1_1 l1_1.length c1_1)) ∧ (w'.heap[gb200]? = some (.cells #[.int .u32 a0_0,.slice A0_1 l0_1.length c0_1] 25 (0,0))) ∧ (w'.heap[gb201]? = some (.cells #[.int .u32 a1_0,.slice A1_1 l1_1.length c1_1] 25 (0,0))) ∧ (w'.heap[s_]? = some (.cells #[.int .u32 0,.slice none 0 0] 30 (0,0))) ∧ (w.heap.size ≤ s_) ∧ (w.heap.size ≤ s_) ∧ (gb200 ≠ s_) ∧ (s_ ≠ gb200) ∧ (gb201 ≠ s_) ∧ (s_ ≠ gb201) ∧ (Below w.heap.size w w')) ?_ ?_
              rotate_left
              ·intro hJ5
               refine three_ (i:=1) (j:=4) (k:=5) (Ni:=some 27) (Nj:=some 7) (Nk:=some 8) #[true,true,true,false,false,false,false,false] #[true,false,true,false,true,false,false,false] #[true,false,true,false,false,true,false,false] rfl rfl rfl rfl rfl rfl (three_of HT_.out (by kernel_rfl)) (by decide) (by decide) (by decide) (fun K hK=>?_) (fun K hK=>?_) (fun K hK=>?_)
               ·skip
                refine goes_ Tryd.func11 (by kernel_rfl) rfl #[.agg #[.int .u32 a0_0,.slice A0_1 l0_1.length c0_1]] (by rfl) rfl rfl (by (try simp only [List.map_toArray,List.map_cons,List.map_nil]);first|done|rfl|(simp only [List.length_drop,List.length_take];rfl)) ?_
                with_reducible refine (bosunlaw17_Of.calls kj3 a0_0 _ _ l0_1 t205 t206 _ ?side1 ?side2 A27.out).mono ?_
                (case side1=>repeat (first|exact (Kd.C_below HR0_1.out HB.out)|(with_reducible refine Kd.C_alloc ?_ _)|(with_reducible refine Kd.C_drewN ?_ _)|(with_reducible refine Kd.C_drew ?_)))
                (case side2=>exact HC0_1.out)
                rintro e w33 ⟨v207,rfl,ho0,hb⟩
                refine ⟨_,rfl,?_⟩
                have n0_:=Aside0.mk (Kd.R_lower ho0 (below_size (by repeat (first|(with_reducible first|exact HB.out|apply below_alloc|apply pw_below_drewN|apply below_drew1|refine below_set ?_ GE200.out|refine below_set ?_ GE201.out)|exact HB.out))))
                have n1_:=Aside0.mk (blk_below (g:=gb200) (o:=.cells #[.int .u32 a0_0,.slice A0_1 l0_1.length c0_1] 25 (0,0)) (by (with_reducible repeat (first|apply blk_drewN|apply blk_drew|apply blk_alloc));exact BK200.out) hb)
                have n2_:=Aside0.mk (blk_below (g:=gb201) (o:=.cells #[.int .u32 a1_0,.slice A1_1 l1_1.length c1_1] 25 (0,0)) (by (with_reducible repeat (first|apply blk_drewN|apply blk_drew|apply blk_alloc));exact BK201.out) hb)
                have n3_:=Aside0.mk (below_step (by repeat (first|(with_reducible first|exact HB.out|apply below_alloc|apply pw_below_drewN|apply below_drew1|refine below_set ?_ GE200.out|refine below_set ?_ GE201.out)|exact HB.out)) hb)
                clear BK200
                clear BK201
                clear HB
                have HO208:=n0_
                have BK200:=n1_
                have BK201:=n2_
                have HB:=n3_
                clear n0_ n1_ n2_ n3_
                (try clear hb)
                (try clear hb2)
                (try clear hk)
                (try clear hi)
                (try clear ho0)
                refine hK.out _ _ ⟨(blk_cell BK200.out 0).trans rfl,(blk_cell BK200.out 1).trans rfl,(blk_cell BK201.out 0).trans rfl,(blk_cell BK201.out 1).trans rfl⟩ (fun hHeld=>?_)
                clear hK K
                refine norm_ (a':=?_) ?_ ?_
                rotate_left
                ·show Act.put _ (some 27) _ = _
                 simp only [Act.put,sB,sZ,sS,i64_w,i32_w]
                 rfl
                exact norm_ (by first|(simp only [putAll,Act.put,sB,sZ,sS];done)|(simp only [putAll,Act.put,sB,sZ,sS];rfl)) (hJ1 (v207) _ ⟨hHeld,(by (with_reducible repeat (first|apply Kd.R_alloc|apply Kd.R_drewN|apply Kd.R_drew));exact HO208.out),(by (with_reducible repeat (first|apply blk_drewN|apply blk_drew|apply blk_alloc));exact BK200.out),(by (with_reducible repeat (first|apply blk_drewN|apply blk_drew|apply blk_alloc));exact BK201.out),(by repeat (first|(with_reducible first|exact HB.out|apply below_alloc|apply pw_below_drewN|apply below_drew1|refine below_set ?_ GE200.out|refine below_set ?_ GE201.out)|exact HB.out))⟩)
               ·skip
                refine box_step ?hg (N:=7) ?hd (cs:=#[.int .u32 0,.slice none 0 0]) (t:=30) ?hr ?_;(case hd=>rfl);(case hg=>rfl);(case hr=>first|(go_simp;done)|(go_simp;rfl))
                intro gb213 hg w33 hbox hb
                have n0_:=Aside0.mk (blk_below (g:=gb200) (o:=.cells #[.int .u32 a0_0,.slice A0_1 l0_1.length c0_1] 25 (0,0)) (by (with_reducible repeat (first|apply blk_drewN|apply blk_drew|apply blk_alloc));exact BK200.out) hb)
                have n1_:=Aside0.mk (blk_below (g:=gb201) (o:=.cells #[.int .u32 a1_0,.slice A1_1 l1_1.length c1_1] 25 (0,0)) (by (with_reducible repeat (first|apply blk_drewN|apply blk_drew|apply blk_alloc));exact BK201.out) hb)
                have n2_:=Aside0.mk (below_step (by repeat (first|(with_reducible first|exact HB.out|apply below_alloc|apply pw_below_drewN|apply below_drew1|refine below_set ?_ GE200.out|refine below_set ?_ GE201.out)|exact HB.out)) hb)
                have n3_:=Aside0.mk (hbox)
                have n4_:=Aside0.mk ((by rw [hg];exact (below_size (by repeat (first|(with_reducible first|exact HB.out|apply below_alloc|apply pw_below_drewN|apply below_drew1|refine below_set ?_ GE200.out|refine below_set ?_ GE201.out)|exact HB.out))) : w.heap.size ≤ gb213))
                have n5_:=Aside0.mk ((by rw [hg];exact (below_size (by repeat (first|(with_reducible first|exact HB.out|apply below_alloc|apply pw_below_drewN|apply below_drew1|refine below_set ?_ GE200.out|refine below_set ?_ GE201.out)|exact HB.out))) : w.heap.size ≤ gb213))
                have n6_:=Aside0.mk ((by rw [hg];exact Nat.ne_of_lt (blk_lt (g:=gb200) (o:=.cells #[.int .u32 a0_0,.slice A0_1 l0_1.length c0_1] 25 (0,0)) (by (with_reducible repeat (first|apply blk_drewN|apply blk_drew|apply blk_alloc));exact BK200.out)) : gb200 ≠ gb213))
                have n7_:=Aside0.mk ((by rw [hg];exact Nat.ne_of_gt (blk_lt (g:=gb200) (o:=.cells #[.int .u32 a0_0,.slice A0_1 l0_1.length c0_1] 25 (0,0)) (by (with_reducible repeat (first|apply blk_drewN|apply blk_drew|apply blk_alloc));exact BK200.out)) : gb213 ≠ gb200))
                have n8_:=Aside0.mk ((by rw [hg];exact Nat.ne_of_lt (blk_lt (g:=gb201) (o:=.cells #[.int .u32 a1_0,.slice A1_1 l1_1.length c1_1] 25 (0,0)) (by (with_reducible repeat (first|apply blk_drewN|apply blk_drew|apply blk_alloc));exact BK201.out)) : gb201 ≠ gb213))
                have n9_:=Aside0.mk ((by rw [hg];exact Nat.ne_of_gt (blk_lt (g:=gb201) (o:=.cells #[.int .u32 a1_0,.slice A1_1 l1_1.length c1_1] 25 (0,0)) (by (with_reducible repeat (first|apply blk_drewN|apply blk_drew|apply blk_alloc));exact BK201.out)) : gb213 ≠ gb201))
                clear BK200
                clear BK201
                clear HB
                have BK200:=n0_
                have BK201:=n1_
                have HB:=n2_
                have BK213:=n3_
                have GW213:=n4_
                have GE213:=n5_
                have NB200_213:=n6_
                have NB213_200:=n7_
                have NB201_213:=n8_
                have NB213_201:=n9_
                clear n0_ n1_ n2_ n3_ n4_ n5_ n6_ n7_ n8_ n9_
                clear hb hbox hg
                refine hK.out _ _ ⟨(blk_cell BK200.out 0).trans rfl,(blk_cell BK200.out 1).trans rfl,(blk_cell BK201.out 0).trans rfl,(blk_cell BK201.out 1).trans rfl⟩ (fun hHeld=>?_)
                clear hK K
                refine norm_ (a':=?_) ?_ ?_
                rotate_left
                ·show Act.put _ (some 7) _ = _
                 simp only [Act.put,sB,sZ,sS,i64_w,i32_w]
                 rfl
                exact norm_ (by first|(simp only [putAll,Act.put,sB,sZ,sS];done)|(simp only [putAll,Act.put,sB,sZ,sS];rfl)) (hJ4 (gb213) _ ⟨hHeld,(by (with_reducible repeat (first|apply blk_drewN|apply blk_drew|apply blk_alloc));exact BK200.out),(by (with_reducible repeat (first|apply blk_drewN|apply blk_drew|apply blk_alloc));exact BK201.out),(by (with_reducible repeat (first|apply blk_drewN|apply blk_drew|apply blk_alloc));exact BK213.out),GW213.out,GE213.out,NB200_213.out,NB213_200.out,NB201_213.out,NB213_201.out,(by repeat (first|(with_reducible first|exact HB.out|apply below_alloc|apply pw_below_drewN|apply below_drew1|refine below_set ?_ GE200.out|refine below_set ?_ GE201.out|refine below_set ?_ GE213.out)|exact HB.out))⟩)
               ·skip
                refine box_step ?hg (N:=8) ?hd (cs:=#[.int .u32 0,.slice none 0 0]) (t:=30) ?hr ?_;(case hd=>rfl);(case hg=>rfl);(case hr=>first|(go_simp;done)|(go_simp;rfl))
                intro gb214 hg w33 hbox hb
                have n0_:=Aside0.mk (blk_below (g:=gb200) (o:=.cells #[.int .u32 a0_0,.slice A0_1 l0_1.length c0_1] 25 (0,0)) (by (with_reducible repeat (first|apply blk_drewN|apply blk_drew|apply blk_alloc));exact BK200.out) hb)
                have n1_:=Aside0.mk (blk_below (g:=gb201) (o:=.cells #[.int .u32 a1_0,.slice A1_1 l1_1.length c1_1] 25 (0,0)) (by (with_reducible repeat (first|apply blk_drewN|apply blk_drew|apply blk_alloc));exact BK201.out) hb)
                have n2_:=Aside0.mk (below_step (by repeat (first|(with_reducible first|exact HB.out|apply below_alloc|apply pw_below_drewN|apply below_drew1|refine below_set ?_ GE200.out|refine below_set ?_ GE201.out)|exact HB.out)) hb)
                have n3_:=Aside0.mk (hbox)
                have n4_:=Aside0.mk ((by rw [hg];exact (below_size (by repeat (first|(with_reducible first|exact HB.out|apply below_alloc|apply pw_below_drewN|apply below_drew1|refine below_set ?_ GE200.out|refine below_set ?_ GE201.out)|exact HB.out))) : w.heap.size ≤ gb214))
                have n5_:=Aside0.mk ((by rw [hg];exact (below_size (by repeat (first|(with_reducible first|exact HB.out|apply below_alloc|apply pw_below_drewN|apply below_drew1|refine below_set ?_ GE200.out|refine below_set ?_ GE201.out)|exact HB.out))) : w.heap.size ≤ gb214))
                have n6_:=Aside0.mk ((by rw [hg];exact Nat.ne_of_lt (blk_lt (g:=gb200) (o:=.cells #[.int .u32 a0_0,.slice A0_1 l0_1.length c0_1] 25 (0,0)) (by (with_reducible repeat (first|apply blk_drewN|apply blk_drew|apply blk_alloc));exact BK200.out)) : gb200 ≠ gb214))
                have n7_:=Aside0.mk ((by rw [hg];exact Nat.ne_of_gt (blk_lt (g:=gb200) (o:=.cells #[.int .u32 a0_0,.slice A0_1 l0_1.length c0_1] 25 (0,0)) (by (with_reducible repeat (first|apply blk_drewN|apply blk_drew|apply blk_alloc));exact BK200.out)) : gb214 ≠ gb200))
                have n8_:=Aside0.mk ((by rw [hg];exact Nat.ne_of_lt (blk_lt (g:=gb201) (o:=.cells #[.int .u32 a1_0,.slice A1_1 l1_1.length c1_1] 25 (0,0)) (by (with_reducible repeat (first|apply blk_drewN|apply blk_drew|apply blk_alloc));exact BK201.out)) : gb201 ≠ gb214))
                have n9_:=Aside0.mk ((by rw [hg];exact Nat.ne_of_gt (blk_lt (g:=gb201) (o:=.cells #[.int .u32 a1_0,.slice A1_1 l1_1.length c1_1] 25 (0,0)) (by (with_reducible repeat (first|apply blk_drewN|apply blk_drew|apply blk_alloc));exact BK201.out)) : gb214 ≠ gb201))
                clear BK200
                clear BK201
                clear HB
                have BK200:=n0_
                have BK201:=n1_
                have HB:=n2_
                have BK214:=n3_
                have GW214:=n4_
                have GE214:=n5_
                have NB200_214:=n6_
                have NB214_200:=n7_
                have NB201_214:=n8_
                have NB214_201:=n9_
                clear n0_ n1_ n2_ n3_ n4_ n5_ n6_ n7_ n8_ n9_
                clear hb hbox hg
                refine hK.out _ _ ⟨(blk_cell BK200.out 0).trans rfl,(blk_cell BK200.out 1).trans rfl,(blk_cell BK201.out 0).trans rfl,(blk_cell BK201.out 1).trans rfl⟩ (fun hHeld=>?_)
                clear hK K
                refine norm_ (a':=?_) ?_ ?_
                rotate_left
                ·show Act.put _ (some 8) _ = _
                 simp only [Act.put,sB,sZ,sS,i64_w,i32_w]
                 rfl
                exact norm_ (by first|(simp only [putAll,Act.put,sB,sZ,sS];done)|(simp only [putAll,Act.put,sB,sZ,sS];rfl)) (hJ5 (gb214) _ ⟨hHeld,(by (with_reducible repeat (first|apply blk_drewN|apply blk_drew|apply blk_alloc));exact BK200.out),(by (with_reducible repeat (first|apply blk_drewN|apply blk_drew|apply blk_alloc));exact BK201.out),(by (with_reducible repeat (first|apply blk_drewN|apply blk_drew|apply blk_alloc));exact BK214.out),GW214.out,GE214.out,NB200_214.out,NB214_200.out,NB201_214.out,NB214_201.out,(by repeat (first|(with_reducible first|exact HB.out|apply below_alloc|apply pw_below_drewN|apply below_drew1|refine below_set ?_ GE200.out|refine below_set ?_ GE201.out|refine below_set ?_ GE214.out)|exact HB.out))⟩)
              ·skip
               rintro gb214 w34 ⟨hS_,h0_,h1_,h2_,h3_,h4_,h5_,h6_,h7_,h8_,h9_⟩
               have n0_ : Aside0 (w34.heap[gb200]? = some (.cells #[.int .u32 a0_0,.slice A0_1 l0_1.length c0_1] 25 (0,0))):=⟨h0_⟩
               have n1_ : Aside0 (w34.heap[gb201]? = some (.cells #[.int .u32 a1_0,.slice A1_1 l1_1.length c1_1] 25 (0,0))):=⟨h1_⟩
               have n2_ : Aside0 (w34.heap[gb214]? = some (.cells #[.int .u32 0,.slice none 0 0] 30 (0,0))):=⟨h2_⟩
               have n3_ : Aside0 (w.heap.size ≤ gb214):=⟨h3_⟩
               have n4_ : Aside0 (w.heap.size ≤ gb214):=⟨h4_⟩
               have n5_ : Aside0 (gb200 ≠ gb214):=⟨h5_⟩
               have n6_ : Aside0 (gb214 ≠ gb200):=⟨h6_⟩
               have n7_ : Aside0 (gb201 ≠ gb214):=⟨h7_⟩
               have n8_ : Aside0 (gb214 ≠ gb201):=⟨h8_⟩
               have n9_ : Aside0 (Below w.heap.size w w34):=⟨h9_⟩
               clear BK200
               clear BK201
               clear HB
               clear h0_ h1_ h2_ h3_ h4_ h5_ h6_ h7_ h8_ h9_
               have BK200:=n0_
               have BK201:=n1_
               have BK214:=n2_
               have GW214:=n3_
               have GE214:=n4_
               have NB200_214:=n5_
               have NB214_200:=n6_
               have NB201_214:=n7_
               have NB214_201:=n8_
               have HB:=n9_
               clear n0_ n1_ n2_ n3_ n4_ n5_ n6_ n7_ n8_ n9_
               have hHeld : w34.cell? ⟨gb200,0,none⟩ = some (.int .u32 a0_0) ∧ w34.cell? ⟨gb200,1,none⟩ = some (.slice A0_1 l0_1.length c0_1) ∧ w34.cell? ⟨gb201,0,none⟩ = some (.int .u32 a1_0) ∧ w34.cell? ⟨gb201,1,none⟩ = some (.slice A1_1 l1_1.length c1_1):=hS_
               refine norm_ (a':=?_) ?_ ?_
               rotate_left
               ·simp only [putAll,Act.put,sB,sZ,sS]
                rfl
               refine two_ (i:=1) (j:=4) (Ni:=some 27) (Nj:=some 7) #[true,true,true,false,false,true,false,false] #[true,false,true,false,true,true,false,false] rfl rfl rfl rfl (two_of HT_.out (by kernel_rfl)) (by decide) (by decide) (fun K hK=>?_) (fun K hK=>?_)
               ·skip
                refine goes_ Tryd.func11 (by kernel_rfl) rfl #[.agg #[.int .u32 a0_0,.slice A0_1 l0_1.length c0_1]] (by rfl) rfl rfl (by (try simp only [List.map_toArray,List.map_cons,List.map_nil]);first|done|rfl|(simp only [List.length_drop,List.length_take];rfl)) ?_
                with_reducible refine (bosunlaw17_Of.calls kj3 a0_0 _ _ l0_1 t205 t206 _ ?side1 ?side2 A27.out).mono ?_
                (case side1=>repeat (first|exact (Kd.C_below HR0_1.out HB.out)|(with_reducible refine Kd.C_alloc ?_ _)|(with_reducible refine Kd.C_drewN ?_ _)|(with_reducible refine Kd.C_drew ?_)))
                (case side2=>exact HC0_1.out)
                rintro e w35 ⟨v207,rfl,ho0,hb⟩
                refine ⟨_,rfl,?_⟩
                have n0_:=Aside0.mk (Kd.R_lower ho0 (below_size (by repeat (first|(with_reducible first|exact HB.out|apply below_alloc|apply pw_below_drewN|apply below_drew1|refine below_set ?_ GE200.out|refine below_set ?_ GE201.out|refine below_set ?_ GE214.out)|exact HB.out))))
                have n1_:=Aside0.mk (blk_below (g:=gb200) (o:=.cells #[.int .u32 a0_0,.slice A0_1 l0_1.length c0_1] 25 (0,0)) (by (with_reducible repeat (first|apply blk_drewN|apply blk_drew|apply blk_alloc));exact BK200.out) hb)
                have n2_:=Aside0.mk (blk_below (g:=gb201) (o:=.cells #[.int .u32 a1_0,.slice A1_1 l1_1.length c1_1] 25 (0,0)) (by (with_reducible repeat (first|apply blk_drewN|apply blk_drew|apply blk_alloc));exact BK201.out) hb)
                have n3_:=Aside0.mk (blk_below (g:=gb214) (o:=.cells #[.int .u32 0,.slice none 0 0] 30 (0,0)) (by (with_reducible repeat (first|apply blk_drewN|apply blk_drew|apply blk_alloc));exact BK214.out) hb)
                have n4_:=Aside0.mk (below_step (by repeat (first|(with_reducible first|exact HB.out|apply below_alloc|apply pw_below_drewN|apply below_drew1|refine below_set ?_ GE200.out|refine below_set ?_ GE201.out|refine below_set ?_ GE214.out)|exact HB.out)) hb)
                clear BK200
                clear BK201
                clear BK214
                clear HB
                have HO208:=n0_
                have BK200:=n1_
                have BK201:=n2_
                have BK214:=n3_
                have HB:=n4_
                clear n0_ n1_ n2_ n3_ n4_
                (try clear hb)
                (try clear hb2)
                (try clear hk)
                (try clear hi)
                (try clear ho0)
                refine hK.out _ _ ⟨(blk_cell BK200.out 0).trans rfl,(blk_cell BK200.out 1).trans rfl,(blk_cell BK201.out 0).trans rfl,(blk_cell BK201.out 1).trans rfl⟩ (fun hHeld=>?_)
                clear hK K
                refine norm_ (a':=?_) ?_ ?_
                rotate_left
                ·show Act.put _ (some 27) _ = _
                 simp only [Act.put,sB,sZ,sS,i64_w,i32_w]
                 rfl
                exact norm_ (by first|(simp only [putAll,Act.put,sB,sZ,sS];done)|(simp only [putAll,Act.put,sB,sZ,sS];rfl)) (hJ1_5 (v207,gb214) _ ⟨hHeld,(by (with_reducible repeat (first|apply Kd.R_alloc|apply Kd.R_drewN|apply Kd.R_drew));exact HO208.out),(by (with_reducible repeat (first|apply blk_drewN|apply blk_drew|apply blk_alloc));exact BK200.out),(by (with_reducible repeat (first|apply blk_drewN|apply blk_drew|apply blk_alloc));exact BK201.out),(by (with_reducible repeat (first|apply blk_drewN|apply blk_drew|apply blk_alloc));exact BK214.out),GW214.out,GE214.out,NB200_214.out,NB214_200.out,NB201_214.out,NB214_201.out,(by repeat (first|(with_reducible first|exact HB.out|apply below_alloc|apply pw_below_drewN|apply below_drew1|refine below_set ?_ GE200.out|refine below_set ?_ GE201.out|refine below_set ?_ GE214.out)|exact HB.out))⟩)
               ·skip
                refine box_step ?hg (N:=7) ?hd (cs:=#[.int .u32 0,.slice none 0 0]) (t:=30) ?hr ?_;(case hd=>rfl);(case hg=>rfl);(case hr=>first|(go_simp;done)|(go_simp;rfl))
                intro gb213 hg w35 hbox hb
                have n0_:=Aside0.mk (blk_below (g:=gb200) (o:=.cells #[.int .u32 a0_0,.slice A0_1 l0_1.length c0_1] 25 (0,0)) (by (with_reducible repeat (first|apply blk_drewN|apply blk_drew|apply blk_alloc));exact BK200.out) hb)
                have n1_:=Aside0.mk (blk_below (g:=gb201) (o:=.cells #[.int .u32 a1_0,.slice A1_1 l1_1.length c1_1] 25 (0,0)) (by (with_reducible repeat (first|apply blk_drewN|apply blk_drew|apply blk_alloc));exact BK201.out) hb)
                have n2_:=Aside0.mk (blk_below (g:=gb214) (o:=.cells #[.int .u32 0,.slice none 0 0] 30 (0,0)) (by (with_reducible repeat (first|apply blk_drewN|apply blk_drew|apply blk_alloc));exact BK214.out) hb)
                have n3_:=Aside0.mk (below_step (by repeat (first|(with_reducible first|exact HB.out|apply below_alloc|apply pw_below_drewN|apply below_drew1|refine below_set ?_ GE200.out|refine below_set ?_ GE201.out|refine below_set ?_ GE214.out)|exact HB.out)) hb)
                have n4_:=Aside0.mk (hbox)
                have n5_:=Aside0.mk ((by rw [hg];exact (below_size (by repeat (first|(with_reducible first|exact HB.out|apply below_alloc|apply pw_below_drewN|apply below_drew1|refine below_set ?_ GE200.out|refine below_set ?_ GE201.out|refine below_set ?_ GE214.out)|exact HB.out))) : w.heap.size ≤ gb213))
                have n6_:=Aside0.mk ((by rw [hg];exact (below_size (by repeat (first|(with_reducible first|exact HB.out|apply below_alloc|apply pw_below_drewN|apply below_drew1|refine below_set ?_ GE200.out|refine below_set ?_ GE201.out|refine below_set ?_ GE214.out)|exact HB.out))) : w.heap.size ≤ gb213))
                have n7_:=Aside0.mk ((by rw [hg];exact Nat.ne_of_lt (blk_lt (g:=gb200) (o:=.cells #[.int .u32 a0_0,.slice A0_1 l0_1.length c0_1] 25 (0,0)) (by (with_reducible repeat (first|apply blk_drewN|apply blk_drew|apply blk_alloc));exact BK200.out)) : gb200 ≠ gb213))
                have n8_:=Aside0.mk ((by rw [hg];exact Nat.ne_of_gt (blk_lt (g:=gb200) (o:=.cells #[.int .u32 a0_0,.slice A0_1 l0_1.length c0_1] 25 (0,0)) (by (with_reducible repeat (first|apply blk_drewN|apply blk_drew|apply blk_alloc));exact BK200.out)) : gb213 ≠ gb200))
                have n9_:=Aside0.mk ((by rw [hg];exact Nat.ne_of_lt (blk_lt (g:=gb201) (o:=.cells #[.int .u32 a1_0,.slice A1_1 l1_1.length c1_1] 25 (0,0)) (by (with_reducible repeat (first|apply blk_drewN|apply blk_drew|apply blk_alloc));exact BK201.out)) : gb201 ≠ gb213))
                have n10_:=Aside0.mk ((by rw [hg];exact Nat.ne_of_gt (blk_lt (g:=gb201) (o:=.cells #[.int .u32 a1_0,.slice A1_1 l1_1.length c1_1] 25 (0,0)) (by (with_reducible repeat (first|apply blk_drewN|apply blk_drew|apply blk_alloc));exact BK201.out)) : gb213 ≠ gb201))
                have n11_:=Aside0.mk ((by rw [hg];exact Nat.ne_of_lt (blk_lt (g:=gb214) (o:=.cells #[.int .u32 0,.slice none 0 0] 30 (0,0)) (by (with_reducible repeat (first|apply blk_drewN|apply blk_drew|apply blk_alloc));exact BK214.out)) : gb214 ≠ gb213))
                have n12_:=Aside0.mk ((by rw [hg];exact Nat.ne_of_gt (blk_lt (g:=gb214) (o:=.cells #[.int .u32 0,.slice none 0 0] 30 (0,0)) (by (with_reducible repeat (first|apply blk_drewN|apply blk_drew|apply blk_alloc));exact BK214.out)) : gb213 ≠ gb214))
                clear BK200
                clear BK201
                clear BK214
                clear HB
                have BK200:=n0_
                have BK201:=n1_
                have BK214:=n2_
                have HB:=n3_
                have BK213:=n4_
                have GW213:=n5_
                have GE213:=n6_
                have NB200_213:=n7_
                have NB213_200:=n8_
                have NB201_213:=n9_
                have NB213_201:=n10_
                have NB214_213:=n11_
                have NB213_214:=n12_
                clear n0_ n1_ n2_ n3_ n4_ n5_ n6_ n7_ n8_ n9_ n10_ n11_ n12_
                clear hb hbox hg
                refine hK.out _ _ ⟨(blk_cell BK200.out 0).trans rfl,(blk_cell BK200.out 1).trans rfl,(blk_cell BK201.out 0).trans rfl,(blk_cell BK201.out 1).trans rfl⟩ (fun hHeld=>?_)
                clear hK K
                refine norm_ (a':=?_) ?_ ?_
                rotate_left
                ·show Act.put _ (some 7) _ = _
                 simp only [Act.put,sB,sZ,sS,i64_w,i32_w]
                 rfl
                exact norm_ (by first|(simp only [putAll,Act.put,sB,sZ,sS];done)|(simp only [putAll,Act.put,sB,sZ,sS];rfl)) (hJ4_5 (gb213,gb214) _ ⟨hHeld,(by (with_reducible repeat (first|apply blk_drewN|apply blk_drew|apply blk_alloc));exact BK200.out),(by (with_reducible repeat (first|apply blk_drewN|apply blk_drew|apply blk_alloc));exact BK201.out),(by (with_reducible repeat (first|apply blk_drewN|apply blk_drew|apply blk_alloc));exact BK213.out),(by (with_reducible repeat (first|apply blk_drewN|apply blk_drew|apply blk_alloc));exact BK214.out),GW213.out,GE213.out,NB200_213.out,NB213_200.out,NB201_213.out,NB213_201.out,NB214_213.out,NB213_214.out,GW214.out,GE214.out,NB200_214.out,NB214_200.out,NB201_214.out,NB214_201.out,(by repeat (first|(with_reducible first|exact HB.out|apply below_alloc|apply pw_below_drewN|apply below_drew1|refine below_set ?_ GE200.out|refine below_set ?_ GE201.out|refine below_set ?_ GE214.out|refine below_set ?_ GE213.out)|exact HB.out))⟩)
             ·skip
              rintro gb213 w34 ⟨hS_,h0_,h1_,h2_,h3_,h4_,h5_,h6_,h7_,h8_,h9_⟩
              have n0_ : Aside0 (w34.heap[gb200]? = some (.cells #[.int .u32 a0_0,.slice A0_1 l0_1.length c0_1] 25 (0,0))):=⟨h0_⟩
              have n1_ : Aside0 (w34.heap[gb201]? = some (.cells #[.int .u32 a1_0,.slice A1_1 l1_1.length c1_1] 25 (0,0))):=⟨h1_⟩
              have n2_ : Aside0 (w34.heap[gb213]? = some (.cells #[.int .u32 0,.slice none 0 0] 30 (0,0))):=⟨h2_⟩
              have n3_ : Aside0 (w.heap.size ≤ gb213):=⟨h3_⟩
              have n4_ : Aside0 (w.heap.size ≤ gb213):=⟨h4_⟩
              have n5_ : Aside0 (gb200 ≠ gb213):=⟨h5_⟩
              have n6_ : Aside0 (gb213 ≠ gb200):=⟨h6_⟩
              have n7_ : Aside0 (gb201 ≠ gb213):=⟨h7_⟩
              have n8_ : Aside0 (gb213 ≠ gb201):=⟨h8_⟩
              have n9_ : Aside0 (Below w.heap.size w w34):=⟨h9_⟩
              clear BK200
              clear BK201
              clear HB
              clear h0_ h1_ h2_ h3_ h4_ h5_ h6_ h7_ h8_ h9_
              have BK200:=n0_
              have BK201:=n1_
              have BK213:=n2_
              have GW213:=n3_
              have GE213:=n4_
              have NB200_213:=n5_
              have NB213_200:=n6_
              have NB201_213:=n7_
              have NB213_201:=n8_
              have HB:=n9_
              clear n0_ n1_ n2_ n3_ n4_ n5_ n6_ n7_ n8_ n9_
              have hHeld : w34.cell? ⟨gb200,0,none⟩ = some (.int .u32 a0_0) ∧ w34.cell? ⟨gb200,1,none⟩ = some (.slice A0_1 l0_1.length c0_1) ∧ w34.cell? ⟨gb201,0,none⟩ = some (.int .u32 a1_0) ∧ w34.cell? ⟨gb201,1,none⟩ = some (.slice A1_1 l1_1.length c1_1):=hS_
              refine norm_ (a':=?_) ?_ ?_
              rotate_left
              ·simp only [putAll,Act.put,sB,sZ,sS]
               rfl
              refine two_ (i:=1) (j:=5) (Ni:=some 27) (Nj:=some 8) #[true,true,true,false,true,false,false,false] #[true,false,true,false,true,true,false,false] rfl rfl rfl rfl (two_of HT_.out (by kernel_rfl)) (by decide) (by decide) (fun K hK=>?_) (fun K hK=>?_)
              ·skip
               refine goes_ Tryd.func11 (by kernel_rfl) rfl #[.agg #[.int .u32 a0_0,.slice A0_1 l0_1.length c0_1]] (by rfl) rfl rfl (by (try simp only [List.map_toArray,List.map_cons,List.map_nil]);first|done|rfl|(simp only [List.length_drop,List.length_take];rfl)) ?_
               with_reducible refine (bosunlaw17_Of.calls kj3 a0_0 _ _ l0_1 t205 t206 _ ?side1 ?side2 A27.out).mono ?_
               (case side1=>repeat (first|exact (Kd.C_below HR0_1.out HB.out)|(with_reducible refine Kd.C_alloc ?_ _)|(with_reducible refine Kd.C_drewN ?_ _)|(with_reducible refine Kd.C_drew ?_)))
               (case side2=>exact HC0_1.out)
               rintro e w35 ⟨v207,rfl,ho0,hb⟩
               refine ⟨_,rfl,?_⟩
               have n0_:=Aside0.mk (Kd.R_lower ho0 (below_size (by repeat (first|(with_reducible first|exact HB.out|apply below_alloc|apply pw_below_drewN|apply below_drew1|refine below_set ?_ GE200.out|refine below_set ?_ GE201.out|refine below_set ?_ GE213.out)|exact HB.out))))
               have n1_:=Aside0.mk (blk_below (g:=gb200) (o:=.cells #[.int .u32 a0_0,.slice A0_1 l0_1.length c0_1] 25 (0,0)) (by (with_reducible repeat (first|apply blk_drewN|apply blk_drew|apply blk_alloc));exact BK200.out) hb)
               have n2_:=Aside0.mk (blk_below (g:=gb201) (o:=.cells #[.int .u32 a1_0,.slice A1_1 l1_1.length c1_1] 25 (0,0)) (by (with_reducible repeat (first|apply blk_drewN|apply blk_drew|apply blk_alloc));exact BK201.out) hb)
               have n3_:=Aside0.mk (blk_below (g:=gb213) (o:=.cells #[.int .u32 0,.slice none 0 0] 30 (0,0)) (by (with_reducible repeat (first|apply blk_drewN|apply blk_drew|apply blk_alloc));exact BK213.out) hb)
               have n4_:=Aside0.mk (below_step (by repeat (first|(with_reducible first|exact HB.out|apply below_alloc|apply pw_below_drewN|apply below_drew1|refine below_set ?_ GE200.out|refine below_set ?_ GE201.out|refine below_set ?_ GE213.out)|exact HB.out)) hb)
               clear BK200
               clear BK201
               clear BK213
               clear HB
               have HO208:=n0_
               have BK200:=n1_
               have BK201:=n2_
               have BK213:=n3_
               have HB:=n4_
               clear n0_ n1_ n2_ n3_ n4_
               (try clear hb)
               (try clear hb2)
               (try clear hk)
               (try clear hi)
               (try clear ho0)
               refine hK.out _ _ ⟨(blk_cell BK200.out 0).trans rfl,(blk_cell BK200.out 1).trans rfl,(blk_cell BK201.out 0).trans rfl,(blk_cell BK201.out 1).trans rfl⟩ (fun hHeld=>?_)
               clear hK K
               refine norm_ (a':=?_) ?_ ?_
               rotate_left
               ·show Act.put _ (some 27) _ = _
                simp only [Act.put,sB,sZ,sS,i64_w,i32_w]
                rfl
               exact norm_ (by first|(simp only [putAll,Act.put,sB,sZ,sS];done)|(simp only [putAll,Act.put,sB,sZ,sS];rfl)) (hJ1_4 (v207,gb213) _ ⟨hHeld,(by (with_reducible repeat (first|apply Kd.R_alloc|apply Kd.R_drewN|apply Kd.R_drew));exact HO208.out),(by (with_reducible repeat (first|apply blk_drewN|apply blk_drew|apply blk_alloc));exact BK200.out),(by (with_reducible repeat (first|apply blk_drewN|apply blk_drew|apply blk_alloc));exact BK201.out),(by (with_reducible repeat (first|apply blk_drewN|apply blk_drew|apply blk_alloc));exact BK213.out),GW213.out,GE213.out,NB200_213.out,NB213_200.out,NB201_213.out,NB213_201.out,(by repeat (first|(with_reducible first|exact HB.out|apply below_alloc|apply pw_below_drewN|apply below_drew1|refine below_set ?_ GE200.out|refine below_set ?_ GE201.out|refine below_set ?_ GE213.out)|exact HB.out))⟩)
              ·skip
               refine box_step ?hg (N:=8) ?hd (cs:=#[.int .u32 0,.slice none 0 0]) (t:=30) ?hr ?_;(case hd=>rfl);(case hg=>rfl);(case hr=>first|(go_simp;done)|(go_simp;rfl))
               intro gb214 hg w35 hbox hb
               have n0_:=Aside0.mk (blk_below (g:=gb200) (o:=.cells #[.int .u32 a0_0,.slice A0_1 l0_1.length c0_1] 25 (0,0)) (by (with_reducible repeat (first|apply blk_drewN|apply blk_drew|apply blk_alloc));exact BK200.out) hb)
               have n1_:=Aside0.mk (blk_below (g:=gb201) (o:=.cells #[.int .u32 a1_0,.slice A1_1 l1_1.length c1_1] 25 (0,0)) (by (with_reducible repeat (first|apply blk_drewN|apply blk_drew|apply blk_alloc));exact BK201.out) hb)
               have n2_:=Aside0.mk (blk_below (g:=gb213) (o:=.cells #[.int .u32 0,.slice none 0 0] 30 (0,0)) (by (with_reducible repeat (first|apply blk_drewN|apply blk_drew|apply blk_alloc));exact BK213.out) hb)
               have n3_:=Aside0.mk (below_step (by repeat (first|(with_reducible first|exact HB.out|apply below_alloc|apply pw_below_drewN|apply below_drew1|refine below_set ?_ GE200.out|refine below_set ?_ GE201.out|refine below_set ?_ GE213.out)|exact HB.out)) hb)
               have n4_:=Aside0.mk (hbox)
               have n5_:=Aside0.mk ((by rw [hg];exact (below_size (by repeat (first|(with_reducible first|exact HB.out|apply below_alloc|apply pw_below_drewN|apply below_drew1|refine below_set ?_ GE200.out|refine below_set ?_ GE201.out|refine below_set ?_ GE213.out)|exact HB.out))) : w.heap.size ≤ gb214))
               have n6_:=Aside0.mk ((by rw [hg];exact (below_size (by repeat (first|(with_reducible first|exact HB.out|apply below_alloc|apply pw_below_drewN|apply below_drew1|refine below_set ?_ GE200.out|refine below_set ?_ GE201.out|refine below_set ?_ GE213.out)|exact HB.out))) : w.heap.size ≤ gb214))
               have n7_:=Aside0.mk ((by rw [hg];exact Nat.ne_of_lt (blk_lt (g:=gb200) (o:=.cells #[.int .u32 a0_0,.slice A0_1 l0_1.length c0_1] 25 (0,0)) (by (with_reducible repeat (first|apply blk_drewN|apply blk_drew|apply blk_alloc));exact BK200.out)) : gb200 ≠ gb214))
               have n8_:=Aside0.mk ((by rw [hg];exact Nat.ne_of_gt (blk_lt (g:=gb200) (o:=.cells #[.int .u32 a0_0,.slice A0_1 l0_1.length c0_1] 25 (0,0)) (by (with_reducible repeat (first|apply blk_drewN|apply blk_drew|apply blk_alloc));exact BK200.out)) : gb214 ≠ gb200))
               have n9_:=Aside0.mk ((by rw [hg];exact Nat.ne_of_lt (blk_lt (g:=gb201) (o:=.cells #[.int .u32 a1_0,.slice A1_1 l1_1.length c1_1] 25 (0,0)) (by (with_reducible repeat (first|apply blk_drewN|apply blk_drew|apply blk_alloc));exact BK201.out)) : gb201 ≠ gb214))
               have n10_:=Aside0.mk ((by rw [hg];exact Nat.ne_of_gt (blk_lt (g:=gb201) (o:=.cells #[.int .u32 a1_0,.slice A1_1 l1_1.length c1_1] 25 (0,0)) (by (with_reducible repeat (first|apply blk_drewN|apply blk_drew|apply blk_alloc));exact BK201.out)) : gb214 ≠ gb201))
               have n11_:=Aside0.mk ((by rw [hg];exact Nat.ne_of_lt (blk_lt (g:=gb213) (o:=.cells #[.int .u32 0,.slice none 0 0] 30 (0,0)) (by (with_reducible repeat (first|apply blk_drewN|apply blk_drew|apply blk_alloc));exact BK213.out)) : gb213 ≠ gb214))
               have n12_:=Aside0.mk ((by rw [hg];exact Nat.ne_of_gt (blk_lt (g:=gb213) (o:=.cells #[.int .u32 0,.slice none 0 0] 30 (0,0)) (by (with_reducible repeat (first|apply blk_drewN|apply blk_drew|apply blk_alloc));exact BK213.out)) : gb214 ≠ gb213))
               clear BK200
               clear BK201
               clear BK213
               clear HB
               have BK200:=n0_
               have BK201:=n1_
               have BK213:=n2_
               have HB:=n3_
               have BK214:=n4_
               have GW214:=n5_
               have GE214:=n6_
               have NB200_214:=n7_
               have NB214_200:=n8_
               have NB201_214:=n9_
               have NB214_201:=n10_
               have NB213_214:=n11_
               have NB214_213:=n12_
               clear n0_ n1_ n2_ n3_ n4_ n5_ n6_ n7_ n8_ n9_ n10_ n11_ n12_
               clear hb hbox hg
               refine hK.out _ _ ⟨(blk_cell BK200.out 0).trans rfl,(blk_cell BK200.out 1).trans rfl,(blk_cell BK201.out 0).trans rfl,(blk_cell BK201.out 1).trans rfl⟩ (fun hHeld=>?_)
               clear hK K
               refine norm_ (a':=?_) ?_ ?_
               rotate_left
               ·show Act.put _ (some 8) _ = _
                simp only [Act.put,sB,sZ,sS,i64_w,i32_w]
                rfl
               exact norm_ (by first|(simp only [putAll,Act.put,sB,sZ,sS];done)|(simp only [putAll,Act.put,sB,sZ,sS];rfl)) (hJ4_5 (gb213,gb214) _ ⟨hHeld,(by (with_reducible repeat (first|apply blk_drewN|apply blk_drew|apply blk_alloc));exact BK200.out),(by (with_reducible repeat (first|apply blk_drewN|apply blk_drew|apply blk_alloc));exact BK201.out),(by (with_reducible repeat (first|apply blk_drewN|apply blk_drew|apply blk_alloc));exact BK213.out),(by (with_reducible repeat (first|apply blk_drewN|apply blk_drew|apply blk_alloc));exact BK214.out),GW213.out,GE213.out,NB200_213.out,NB213_200.out,NB201_213.out,NB213_201.out,NB214_213.out,NB213_214.out,GW214.out,GE214.out,NB200_214.out,NB214_200.out,NB201_214.out,NB214_201.out,(by repeat (first|(with_reducible first|exact HB.out|apply below_alloc|apply pw_below_drewN|apply below_drew1|refine below_set ?_ GE200.out|refine below_set ?_ GE201.out|refine below_set ?_ GE213.out|refine below_set ?_ GE214.out)|exact HB.out))⟩)
            ·skip
             rintro v207 w34 ⟨hS_,h0_,h1_,h2_,h3_⟩
             have n0_ : Aside0 (Kd.R k67 67 w34 w.heap.size (fun _=>True) v207 t206):=⟨h0_⟩
             have n1_ : Aside0 (w34.heap[gb200]? = some (.cells #[.int .u32 a0_0,.slice A0_1 l0_1.length c0_1] 25 (0,0))):=⟨h1_⟩
             have n2_ : Aside0 (w34.heap[gb201]? = some (.cells #[.int .u32 a1_0,.slice A1_1 l1_1.length c1_1] 25 (0,0))):=⟨h2_⟩
             have n3_ : Aside0 (Below w.heap.size w w34):=⟨h3_⟩
             clear BK200
             clear BK201
             clear HB
             clear h0_ h1_ h2_ h3_
             have HO208:=n0_
             have BK200:=n1_
             have BK201:=n2_
             have HB:=n3_
             clear n0_ n1_ n2_ n3_
             have hHeld : w34.cell? ⟨gb200,0,none⟩ = some (.int .u32 a0_0) ∧ w34.cell? ⟨gb200,1,none⟩ = some (.slice A0_1 l0_1.length c0_1) ∧ w34.cell? ⟨gb201,0,none⟩ = some (.int .u32 a1_0) ∧ w34.cell? ⟨gb201,1,none⟩ = some (.slice A1_1 l1_1.length c1_1):=hS_
             refine norm_ (a':=?_) ?_ ?_
             rotate_left
             ·simp only [putAll,Act.put,sB,sZ,sS]
              rfl
             refine three_ (i:=3) (j:=4) (k:=5) (Ni:=some 29) (Nj:=some 7) (Nk:=some 8) #[true,true,true,true,false,false,false,false] #[true,true,true,false,true,false,false,false] #[true,true,true,false,false,true,false,false] rfl rfl rfl rfl rfl rfl (three_of HT_.out (by kernel_rfl)) (by decide) (by decide) (by decide) (fun K hK=>?_) (fun K hK=>?_) (fun K hK=>?_)
             ·skip
              refine goes_ Tryd.func11 (by kernel_rfl) rfl #[.agg #[.int .u32 a1_0,.slice A1_1 l1_1.length c1_1]] (by rfl) rfl rfl (by (try simp only [List.map_toArray,List.map_cons,List.map_nil]);first|done|rfl|(simp only [List.length_drop,List.length_take];rfl)) ?_
              with_reducible refine (bosunlaw17_Of.calls kj3 a1_0 _ _ l1_1 t209 t210 _ ?side1 ?side2 A28.out).mono ?_
              (case side1=>repeat (first|exact (Kd.C_below HR1_1.out HB.out)|(with_reducible refine Kd.C_alloc ?_ _)|(with_reducible refine Kd.C_drewN ?_ _)|(with_reducible refine Kd.C_drew ?_)))
              (case side2=>exact HC1_1.out)
              rintro e w35 ⟨v211,rfl,ho0,hb⟩
              refine ⟨_,rfl,?_⟩
              have n0_:=Aside0.mk (Kd.R_elder' (by (with_reducible repeat (first|apply Kd.R_alloc|apply Kd.R_drewN|apply Kd.R_drew));exact HO208.out) (Kd.R_base ho0) hb)
              have n1_:=Aside0.mk (Kd.R_lower (Kd.R_new' ho0 (Kd.R_lt (by (with_reducible repeat (first|apply Kd.R_alloc|apply Kd.R_drewN|apply Kd.R_drew));exact HO208.out))) (below_size (by repeat (first|(with_reducible first|exact HB.out|apply below_alloc|apply pw_below_drewN|apply below_drew1|refine below_set ?_ GE200.out|refine below_set ?_ GE201.out)|exact HB.out))))
              have n2_:=Aside0.mk (blk_below (g:=gb200) (o:=.cells #[.int .u32 a0_0,.slice A0_1 l0_1.length c0_1] 25 (0,0)) (by (with_reducible repeat (first|apply blk_drewN|apply blk_drew|apply blk_alloc));exact BK200.out) hb)
              have n3_:=Aside0.mk (blk_below (g:=gb201) (o:=.cells #[.int .u32 a1_0,.slice A1_1 l1_1.length c1_1] 25 (0,0)) (by (with_reducible repeat (first|apply blk_drewN|apply blk_drew|apply blk_alloc));exact BK201.out) hb)
              have n4_:=Aside0.mk (below_step (by repeat (first|(with_reducible first|exact HB.out|apply below_alloc|apply pw_below_drewN|apply below_drew1|refine below_set ?_ GE200.out|refine below_set ?_ GE201.out)|exact HB.out)) hb)
              clear HO208
              clear BK200
              clear BK201
              clear HB
              have HO208:=n0_
              have HO212:=n1_
              have BK200:=n2_
              have BK201:=n3_
              have HB:=n4_
              clear n0_ n1_ n2_ n3_ n4_
              (try clear hb)
              (try clear hb2)
              (try clear hk)
              (try clear hi)
              (try clear ho0)
              refine hK.out _ _ ⟨(blk_cell BK200.out 0).trans rfl,(blk_cell BK200.out 1).trans rfl,(blk_cell BK201.out 0).trans rfl,(blk_cell BK201.out 1).trans rfl⟩ (fun hHeld=>?_)
              clear hK K
              refine norm_ (a':=?_) ?_ ?_
              rotate_left
              ·show Act.put _ (some 29) _ = _
               simp only [Act.put,sB,sZ,sS,i64_w,i32_w]
               rfl
              exact norm_ (by first|(simp only [putAll,Act.put,sB,sZ,sS];done)|(simp only [putAll,Act.put,sB,sZ,sS];rfl)) (hJ1_3 (v207,v211) _ ⟨hHeld,(by (with_reducible repeat (first|apply Kd.R_alloc|apply Kd.R_drewN|apply Kd.R_drew));exact Kd.R_mono HO208.out (fun _ hk=>hk.2)),(by (with_reducible repeat (first|apply Kd.R_alloc|apply Kd.R_drewN|apply Kd.R_drew));exact Kd.R_mono HO212.out (fun _ hk=>hk.2)),(by (with_reducible repeat (first|apply blk_drewN|apply blk_drew|apply blk_alloc));exact BK200.out),(by (with_reducible repeat (first|apply blk_drewN|apply blk_drew|apply blk_alloc));exact BK201.out),(by repeat (first|(with_reducible first|exact HB.out|apply below_alloc|apply pw_below_drewN|apply below_drew1|refine below_set ?_ GE200.out|refine below_set ?_ GE201.out)|exact HB.out))⟩)
             ·skip
              refine box_step ?hg (N:=7) ?hd (cs:=#[.int .u32 0,.slice none 0 0]) (t:=30) ?hr ?_;(case hd=>rfl);(case hg=>rfl);(case hr=>first|(go_simp;done)|(go_simp;rfl))
              intro gb213 hg w35 hbox hb
              have n0_:=Aside0.mk (Kd.R_below (by (with_reducible repeat (first|apply Kd.R_alloc|apply Kd.R_drewN|apply Kd.R_drew));exact HO208.out) hb)
              have n1_:=Aside0.mk (blk_below (g:=gb200) (o:=.cells #[.int .u32 a0_0,.slice A0_1 l0_1.length c0_1] 25 (0,0)) (by (with_reducible repeat (first|apply blk_drewN|apply blk_drew|apply blk_alloc));exact BK200.out) hb)
              have n2_:=Aside0.mk (blk_below (g:=gb201) (o:=.cells #[.int .u32 a1_0,.slice A1_1 l1_1.length c1_1] 25 (0,0)) (by (with_reducible repeat (first|apply blk_drewN|apply blk_drew|apply blk_alloc));exact BK201.out) hb)
              have n3_:=Aside0.mk (below_step (by repeat (first|(with_reducible first|exact HB.out|apply below_alloc|apply pw_below_drewN|apply below_drew1|refine below_set ?_ GE200.out|refine below_set ?_ GE201.out)|exact HB.out)) hb)
              have n4_:=Aside0.mk (hbox)
              have n5_:=Aside0.mk ((by rw [hg];exact (below_size (by repeat (first|(with_reducible first|exact HB.out|apply below_alloc|apply pw_below_drewN|apply below_drew1|refine below_set ?_ GE200.out|refine below_set ?_ GE201.out)|exact HB.out))) : w.heap.size ≤ gb213))
              have n6_:=Aside0.mk ((by rw [hg];exact (below_size (by repeat (first|(with_reducible first|exact HB.out|apply below_alloc|apply pw_below_drewN|apply below_drew1|refine below_set ?_ GE200.out|refine below_set ?_ GE201.out)|exact HB.out))) : w.heap.size ≤ gb213))
              have n7_:=Aside0.mk ((by rw [hg];exact Nat.ne_of_lt (blk_lt (g:=gb200) (o:=.cells #[.int .u32 a0_0,.slice A0_1 l0_1.length c0_1] 25 (0,0)) (by (with_reducible repeat (first|apply blk_drewN|apply blk_drew|apply blk_alloc));exact BK200.out)) : gb200 ≠ gb213))
              have n8_:=Aside0.mk ((by rw [hg];exact Nat.ne_of_gt (blk_lt (g:=gb200) (o:=.cells #[.int .u32 a0_0,.slice A0_1 l0_1.length c0_1] 25 (0,0)) (by (with_reducible repeat (first|apply blk_drewN|apply blk_drew|apply blk_alloc));exact BK200.out)) : gb213 ≠ gb200))
              have n9_:=Aside0.mk ((by rw [hg];exact Nat.ne_of_lt (blk_lt (g:=gb201) (o:=.cells #[.int .u32 a1_0,.slice A1_1 l1_1.length c1_1] 25 (0,0)) (by (with_reducible repeat (first|apply blk_drewN|apply blk_drew|apply blk_alloc));exact BK201.out)) : gb201 ≠ gb213))
              have n10_:=Aside0.mk ((by rw [hg];exact Nat.ne_of_gt (blk_lt (g:=gb201) (o:=.cells #[.int .u32 a1_0,.slice A1_1 l1_1.length c1_1] 25 (0,0)) (by (with_reducible repeat (first|apply blk_drewN|apply blk_drew|apply blk_alloc));exact BK201.out)) : gb213 ≠ gb201))
              clear HO208
              clear BK200
              clear BK201
              clear HB
              have HO208:=n0_
              have BK200:=n1_
              have BK201:=n2_
              have HB:=n3_
              have BK213:=n4_
              have GW213:=n5_
              have GE213:=n6_
              have NB200_213:=n7_
              have NB213_200:=n8_
              have NB201_213:=n9_
              have NB213_201:=n10_
              clear n0_ n1_ n2_ n3_ n4_ n5_ n6_ n7_ n8_ n9_ n10_
              clear hb hbox hg
              refine hK.out _ _ ⟨(blk_cell BK200.out 0).trans rfl,(blk_cell BK200.out 1).trans rfl,(blk_cell BK201.out 0).trans rfl,(blk_cell BK201.out 1).trans rfl⟩ (fun hHeld=>?_)
              clear hK K
              refine norm_ (a':=?_) ?_ ?_
              rotate_left
              ·show Act.put _ (some 7) _ = _
               simp only [Act.put,sB,sZ,sS,i64_w,i32_w]
               rfl
              exact norm_ (by first|(simp only [putAll,Act.put,sB,sZ,sS];done)|(simp only [putAll,Act.put,sB,sZ,sS];rfl)) (hJ1_4 (v207,gb213) _ ⟨hHeld,(by (with_reducible repeat (first|apply Kd.R_alloc|apply Kd.R_drewN|apply Kd.R_drew));exact HO208.out),(by (with_reducible repeat (first|apply blk_drewN|apply blk_drew|apply blk_alloc));exact BK200.out),(by (with_reducible repeat (first|apply blk_drewN|apply blk_drew|apply blk_alloc));exact BK201.out),(by (with_reducible repeat (first|apply blk_drewN|apply blk_drew|apply blk_alloc));exact BK213.out),GW213.out,GE213.out,NB200_213.out,NB213_200.out,NB201_213.out,NB213_201.out,(by repeat (first|(with_reducible first|exact HB.out|apply below_alloc|apply pw_below_drewN|apply below_drew1|refine below_set ?_ GE200.out|refine below_set ?_ GE201.out|refine below_set ?_ GE213.out)|exact HB.out))⟩)
             ·skip
              refine box_step ?hg (N:=8) ?hd (cs:=#[.int .u32 0,.slice none 0 0]) (t:=30) ?hr ?_;(case hd=>rfl);(case hg=>rfl);(case hr=>first|(go_simp;done)|(go_simp;rfl))
              intro gb214 hg w35 hbox hb
              have n0_:=Aside0.mk (Kd.R_below (by (with_reducible repeat (first|apply Kd.R_alloc|apply Kd.R_drewN|apply Kd.R_drew));exact HO208.out) hb)
              have n1_:=Aside0.mk (blk_below (g:=gb200) (o:=.cells #[.int .u32 a0_0,.slice A0_1 l0_1.length c0_1] 25 (0,0)) (by (with_reducible repeat (first|apply blk_drewN|apply blk_drew|apply blk_alloc));exact BK200.out) hb)
              have n2_:=Aside0.mk (blk_below (g:=gb201) (o:=.cells #[.int .u32 a1_0,.slice A1_1 l1_1.length c1_1] 25 (0,0)) (by (with_reducible repeat (first|apply blk_drewN|apply blk_drew|apply blk_alloc));exact BK201.out) hb)
              have n3_:=Aside0.mk (below_step (by repeat (first|(with_reducible first|exact HB.out|apply below_alloc|apply pw_below_drewN|apply below_drew1|refine below_set ?_ GE200.out|refine below_set ?_ GE201.out)|exact HB.out)) hb)
              have n4_:=Aside0.mk (hbox)
              have n5_:=Aside0.mk ((by rw [hg];exact (below_size (by repeat (first|(with_reducible first|exact HB.out|apply below_alloc|apply pw_below_drewN|apply below_drew1|refine below_set ?_ GE200.out|refine below_set ?_ GE201.out)|exact HB.out))) : w.heap.size ≤ gb214))
              have n6_:=Aside0.mk ((by rw [hg];exact (below_size (by repeat (first|(with_reducible first|exact HB.out|apply below_alloc|apply pw_below_drewN|apply below_drew1|refine below_set ?_ GE200.out|refine below_set ?_ GE201.out)|exact HB.out))) : w.heap.size ≤ gb214))
              have n7_:=Aside0.mk ((by rw [hg];exact Nat.ne_of_lt (blk_lt (g:=gb200) (o:=.cells #[.int .u32 a0_0,.slice A0_1 l0_1.length c0_1] 25 (0,0)) (by (with_reducible repeat (first|apply blk_drewN|apply blk_drew|apply blk_alloc));exact BK200.out)) : gb200 ≠ gb214))
              have n8_:=Aside0.mk ((by rw [hg];exact Nat.ne_of_gt (blk_lt (g:=gb200) (o:=.cells #[.int .u32 a0_0,.slice A0_1 l0_1.length c0_1] 25 (0,0)) (by (with_reducible repeat (first|apply blk_drewN|apply blk_drew|apply blk_alloc));exact BK200.out)) : gb214 ≠ gb200))
              have n9_:=Aside0.mk ((by rw [hg];exact Nat.ne_of_lt (blk_lt (g:=gb201) (o:=.cells #[.int .u32 a1_0,.slice A1_1 l1_1.length c1_1] 25 (0,0)) (by (with_reducible repeat (first|apply blk_drewN|apply blk_drew|apply blk_alloc));exact BK201.out)) : gb201 ≠ gb214))
              have n10_:=Aside0.mk ((by rw [hg];exact Nat.ne_of_gt (blk_lt (g:=gb201) (o:=.cells #[.int .u32 a1_0,.slice A1_1 l1_1.length c1_1] 25 (0,0)) (by (with_reducible repeat (first|apply blk_drewN|apply blk_drew|apply blk_alloc));exact BK201.out)) : gb214 ≠ gb201))
              clear HO208
              clear BK200
              clear BK201
              clear HB
              have HO208:=n0_
              have BK200:=n1_
              have BK201:=n2_
              have HB:=n3_
              have BK214:=n4_
              have GW214:=n5_
              have GE214:=n6_
              have NB200_214:=n7_
              have NB214_200:=n8_
              have NB201_214:=n9_
              have NB214_201:=n10_
              clear n0_ n1_ n2_ n3_ n4_ n5_ n6_ n7_ n8_ n9_ n10_
              clear hb hbox hg
              refine hK.out _ _ ⟨(blk_cell BK200.out 0).trans rfl,(blk_cell BK200.out 1).trans rfl,(blk_cell BK201.out 0).trans rfl,(blk_cell BK201.out 1).trans rfl⟩ (fun hHeld=>?_)
              clear hK K
              refine norm_ (a':=?_) ?_ ?_
              rotate_left
              ·show Act.put _ (some 8) _ = _
               simp only [Act.put,sB,sZ,sS,i64_w,i32_w]
               rfl
              exact norm_ (by first|(simp only [putAll,Act.put,sB,sZ,sS];done)|(simp only [putAll,Act.put,sB,sZ,sS];rfl)) (hJ1_5 (v207,gb214) _ ⟨hHeld,(by (with_reducible repeat (first|apply Kd.R_alloc|apply Kd.R_drewN|apply Kd.R_drew));exact HO208.out),(by (with_reducible repeat (first|apply blk_drewN|apply blk_drew|apply blk_alloc));exact BK200.out),(by (with_reducible repeat (first|apply blk_drewN|apply blk_drew|apply blk_alloc));exact BK201.out),(by (with_reducible repeat (first|apply blk_drewN|apply blk_drew|apply blk_alloc));exact BK214.out),GW214.out,GE214.out,NB200_214.out,NB214_200.out,NB201_214.out,NB214_201.out,(by repeat (first|(with_reducible first|exact HB.out|apply below_alloc|apply pw_below_drewN|apply below_drew1|refine below_set ?_ GE200.out|refine below_set ?_ GE201.out|refine below_set ?_ GE214.out)|exact HB.out))⟩)
           ·skip
            rintro ⟨gb213,gb214⟩ w35 ⟨hS_,h0_,h1_,h2_,h3_,h4_,h5_,h6_,h7_,h8_,h9_,h10_,h11_,h12_,h13_,h14_,h15_,h16_,h17_,h18_⟩
            have n0_ : Aside0 (w35.heap[gb200]? = some (.cells #[.int .u32 a0_0,.slice A0_1 l0_1.length c0_1] 25 (0,0))):=⟨h0_⟩
            have n1_ : Aside0 (w35.heap[gb201]? = some (.cells #[.int .u32 a1_0,.slice A1_1 l1_1.length c1_1] 25 (0,0))):=⟨h1_⟩
            have n2_ : Aside0 (w35.heap[gb213]? = some (.cells #[.int .u32 0,.slice none 0 0] 30 (0,0))):=⟨h2_⟩
            have n3_ : Aside0 (w35.heap[gb214]? = some (.cells #[.int .u32 0,.slice none 0 0] 30 (0,0))):=⟨h3_⟩
            have n4_ : Aside0 (w.heap.size ≤ gb213):=⟨h4_⟩
            have n5_ : Aside0 (w.heap.size ≤ gb213):=⟨h5_⟩
            have n6_ : Aside0 (gb200 ≠ gb213):=⟨h6_⟩
            have n7_ : Aside0 (gb213 ≠ gb200):=⟨h7_⟩
            have n8_ : Aside0 (gb201 ≠ gb213):=⟨h8_⟩
            have n9_ : Aside0 (gb213 ≠ gb201):=⟨h9_⟩
            have n10_ : Aside0 (gb214 ≠ gb213):=⟨h10_⟩
            have n11_ : Aside0 (gb213 ≠ gb214):=⟨h11_⟩
            have n12_ : Aside0 (w.heap.size ≤ gb214):=⟨h12_⟩
            have n13_ : Aside0 (w.heap.size ≤ gb214):=⟨h13_⟩
            have n14_ : Aside0 (gb200 ≠ gb214):=⟨h14_⟩
            have n15_ : Aside0 (gb214 ≠ gb200):=⟨h15_⟩
            have n16_ : Aside0 (gb201 ≠ gb214):=⟨h16_⟩
            have n17_ : Aside0 (gb214 ≠ gb201):=⟨h17_⟩
            have n18_ : Aside0 (Below w.heap.size w w35):=⟨h18_⟩
            clear BK200
            clear BK201
            clear HB
            clear h0_ h1_ h2_ h3_ h4_ h5_ h6_ h7_ h8_ h9_ h10_ h11_ h12_ h13_ h14_ h15_ h16_ h17_ h18_
            have BK200:=n0_
            have BK201:=n1_
            have BK213:=n2_
            have BK214:=n3_
            have GW213:=n4_
            have GE213:=n5_
            have NB200_213:=n6_
            have NB213_200:=n7_
            have NB201_213:=n8_
            have NB213_201:=n9_
            have NB214_213:=n10_
            have NB213_214:=n11_
            have GW214:=n12_
            have GE214:=n13_
            have NB200_214:=n14_
            have NB214_200:=n15_
            have NB201_214:=n16_
            have NB214_201:=n17_
            have HB:=n18_
            clear n0_ n1_ n2_ n3_ n4_ n5_ n6_ n7_ n8_ n9_ n10_ n11_ n12_ n13_ n14_ n15_ n16_ n17_ n18_
            have hHeld : w35.cell? ⟨gb200,0,none⟩ = some (.int .u32 a0_0) ∧ w35.cell? ⟨gb200,1,none⟩ = some (.slice A0_1 l0_1.length c0_1) ∧ w35.cell? ⟨gb201,0,none⟩ = some (.int .u32 a1_0) ∧ w35.cell? ⟨gb201,1,none⟩ = some (.slice A1_1 l1_1.length c1_1):=hS_
            refine norm_ (a':=?_) ?_ ?_
            rotate_left
            ·simp only [putAll,Act.put,sB,sZ,sS]
             rfl
            refine one_ (i:=1) (N:=some 27) #[true,true,true,false,true,true,false,false] rfl rfl (one_of HT_.out (by kernel_rfl)) (by decide) (fun K hK=>?_)
            refine goes_ Tryd.func11 (by kernel_rfl) rfl #[.agg #[.int .u32 a0_0,.slice A0_1 l0_1.length c0_1]] (by rfl) rfl rfl (by (try simp only [List.map_toArray,List.map_cons,List.map_nil]);first|done|rfl|(simp only [List.length_drop,List.length_take];rfl)) ?_
            with_reducible refine (bosunlaw17_Of.calls kj3 a0_0 _ _ l0_1 t205 t206 _ ?side1 ?side2 A27.out).mono ?_
            (case side1=>repeat (first|exact (Kd.C_below HR0_1.out HB.out)|(with_reducible refine Kd.C_alloc ?_ _)|(with_reducible refine Kd.C_drewN ?_ _)|(with_reducible refine Kd.C_drew ?_)))
            (case side2=>exact HC0_1.out)
            rintro e w36 ⟨v207,rfl,ho0,hb⟩
            refine ⟨_,rfl,?_⟩
            have n0_:=Aside0.mk (Kd.R_lower ho0 (below_size (by repeat (first|(with_reducible first|exact HB.out|apply below_alloc|apply pw_below_drewN|apply below_drew1|refine below_set ?_ GE200.out|refine below_set ?_ GE201.out|refine below_set ?_ GE213.out|refine below_set ?_ GE214.out)|exact HB.out))))
            have n1_:=Aside0.mk (blk_below (g:=gb200) (o:=.cells #[.int .u32 a0_0,.slice A0_1 l0_1.length c0_1] 25 (0,0)) (by (with_reducible repeat (first|apply blk_drewN|apply blk_drew|apply blk_alloc));exact BK200.out) hb)
            have n2_:=Aside0.mk (blk_below (g:=gb201) (o:=.cells #[.int .u32 a1_0,.slice A1_1 l1_1.length c1_1] 25 (0,0)) (by (with_reducible repeat (first|apply blk_drewN|apply blk_drew|apply blk_alloc));exact BK201.out) hb)
            have n3_:=Aside0.mk (blk_below (g:=gb213) (o:=.cells #[.int .u32 0,.slice none 0 0] 30 (0,0)) (by (with_reducible repeat (first|apply blk_drewN|apply blk_drew|apply blk_alloc));exact BK213.out) hb)
            have n4_:=Aside0.mk (blk_below (g:=gb214) (o:=.cells #[.int .u32 0,.slice none 0 0] 30 (0,0)) (by (with_reducible repeat (first|apply blk_drewN|apply blk_drew|apply blk_alloc));exact BK214.out) hb)
            have n5_:=Aside0.mk (below_step (by repeat (first|(with_reducible first|exact HB.out|apply below_alloc|apply pw_below_drewN|apply below_drew1|refine below_set ?_ GE200.out|refine below_set ?_ GE201.out|refine below_set ?_ GE213.out|refine below_set ?_ GE214.out)|exact HB.out)) hb)
            clear BK200
            clear BK201
            clear BK213
            clear BK214
            clear HB
            have HO208:=n0_
            have BK200:=n1_
            have BK201:=n2_
            have BK213:=n3_
            have BK214:=n4_
            have HB:=n5_
            clear n0_ n1_ n2_ n3_ n4_ n5_
            (try clear hb)
            (try clear hb2)
            (try clear hk)
            (try clear hi)
            (try clear ho0)
            refine hK.out _ _ ⟨(blk_cell BK200.out 0).trans rfl,(blk_cell BK200.out 1).trans rfl,(blk_cell BK201.out 0).trans rfl,(blk_cell BK201.out 1).trans rfl⟩ (fun hHeld=>?_)
            clear hK K
            refine norm_ (a':=?_) ?_ ?_
            rotate_left
            ·show Act.put _ (some 27) _ = _
             simp only [Act.put,sB,sZ,sS,i64_w,i32_w]
             rfl
            exact norm_ (by first|(simp only [putAll,Act.put,sB,sZ,sS];done)|(simp only [putAll,Act.put,sB,sZ,sS];rfl)) (hJ1_4_5 (v207,gb213,gb214) _ ⟨hHeld,(by (with_reducible repeat (first|apply Kd.R_alloc|apply Kd.R_drewN|apply Kd.R_drew));exact HO208.out),(by (with_reducible repeat (first|apply blk_drewN|apply blk_drew|apply blk_alloc));exact BK200.out),(by (with_reducible repeat (first|apply blk_drewN|apply blk_drew|apply blk_alloc));exact BK201.out),(by (with_reducible repeat (first|apply blk_drewN|apply blk_drew|apply blk_alloc));exact BK213.out),(by (with_reducible repeat (first|apply blk_drewN|apply blk_drew|apply blk_alloc));exact BK214.out),GW213.out,GE213.out,NB200_213.out,NB213_200.out,NB201_213.out,NB213_201.out,NB214_213.out,NB213_214.out,GW214.out,GE214.out,NB200_214.out,NB214_200.out,NB201_214.out,NB214_201.out,(by repeat (first|(with_reducible first|exact HB.out|apply below_alloc|apply pw_below_drewN|apply below_drew1|refine below_set ?_ GE200.out|refine below_set ?_ GE201.out|refine below_set ?_ GE213.out|refine below_set ?_ GE214.out)|exact HB.out))⟩)
          ·skip
           rintro ⟨v207,gb214⟩ w35 ⟨hS_,h0_,h1_,h2_,h3_,h4_,h5_,h6_,h7_,h8_,h9_,h10_⟩
           have n0_ : Aside0 (Kd.R k67 67 w35 w.heap.size (fun _=>True) v207 t206):=⟨h0_⟩
           have n1_ : Aside0 (w35.heap[gb200]? = some (.cells #[.int .u32 a0_0,.slice A0_1 l0_1.length c0_1] 25 (0,0))):=⟨h1_⟩
           have n2_ : Aside0 (w35.heap[gb201]? = some (.cells #[.int .u32 a1_0,.slice A1_1 l1_1.length c1_1] 25 (0,0))):=⟨h2_⟩
           have n3_ : Aside0 (w35.heap[gb214]? = some (.cells #[.int .u32 0,.slice none 0 0] 30 (0,0))):=⟨h3_⟩
           have n4_ : Aside0 (w.heap.size ≤ gb214):=⟨h4_⟩
           have n5_ : Aside0 (w.heap.size ≤ gb214):=⟨h5_⟩
           have n6_ : Aside0 (gb200 ≠ gb214):=⟨h6_⟩
           have n7_ : Aside0 (gb214 ≠ gb200):=⟨h7_⟩
           have n8_ : Aside0 (gb201 ≠ gb214):=⟨h8_⟩
           have n9_ : Aside0 (gb214 ≠ gb201):=⟨h9_⟩
           have n10_ : Aside0 (Below w.heap.size w w35):=⟨h10_⟩
           clear BK200
           clear BK201
           clear HB
           clear h0_ h1_ h2_ h3_ h4_ h5_ h6_ h7_ h8_ h9_ h10_
           have HO208:=n0_
           have BK200:=n1_
           have BK201:=n2_
           have BK214:=n3_
           have GW214:=n4_
           have GE214:=n5_
           have NB200_214:=n6_
           have NB214_200:=n7_
           have NB201_214:=n8_
           have NB214_201:=n9_
           have HB:=n10_
           clear n0_ n1_ n2_ n3_ n4_ n5_ n6_ n7_ n8_ n9_ n10_
           have hHeld : w35.cell? ⟨gb200,0,none⟩ = some (.int .u32 a0_0) ∧ w35.cell? ⟨gb200,1,none⟩ = some (.slice A0_1 l0_1.length c0_1) ∧ w35.cell? ⟨gb201,0,none⟩ = some (.int .u32 a1_0) ∧ w35.cell? ⟨gb201,1,none⟩ = some (.slice A1_1 l1_1.length c1_1):=hS_
           refine norm_ (a':=?_) ?_ ?_
           rotate_left
           ·simp only [putAll,Act.put,sB,sZ,sS]
            rfl
           refine two_ (i:=3) (j:=4) (Ni:=some 29) (Nj:=some 7) #[true,true,true,true,false,true,false,false] #[true,true,true,false,true,true,false,false] rfl rfl rfl rfl (two_of HT_.out (by kernel_rfl)) (by decide) (by decide) (fun K hK=>?_) (fun K hK=>?_)
           ·skip
            refine goes_ Tryd.func11 (by kernel_rfl) rfl #[.agg #[.int .u32 a1_0,.slice A1_1 l1_1.length c1_1]] (by rfl) rfl rfl (by (try simp only [List.map_toArray,List.map_cons,List.map_nil]);first|done|rfl|(simp only [List.length_drop,List.length_take];rfl)) ?_
            with_reducible refine (bosunlaw17_Of.calls kj3 a1_0 _ _ l1_1 t209 t210 _ ?side1 ?side2 A28.out).mono ?_
            (case side1=>repeat (first|exact (Kd.C_below HR1_1.out HB.out)|(with_reducible refine Kd.C_alloc ?_ _)|(with_reducible refine Kd.C_drewN ?_ _)|(with_reducible refine Kd.C_drew ?_)))
            (case side2=>exact HC1_1.out)
            rintro e w36 ⟨v211,rfl,ho0,hb⟩
            refine ⟨_,rfl,?_⟩
            have n0_:=Aside0.mk (Kd.R_elder' (by (with_reducible repeat (first|apply Kd.R_alloc|apply Kd.R_drewN|apply Kd.R_drew));exact HO208.out) (Kd.R_base ho0) hb)
            have n1_:=Aside0.mk (Kd.R_lower (Kd.R_new' ho0 (Kd.R_lt (by (with_reducible repeat (first|apply Kd.R_alloc|apply Kd.R_drewN|apply Kd.R_drew));exact HO208.out))) (below_size (by repeat (first|(with_reducible first|exact HB.out|apply below_alloc|apply pw_below_drewN|apply below_drew1|refine below_set ?_ GE200.out|refine below_set ?_ GE201.out|refine below_set ?_ GE214.out)|exact HB.out))))
            have n2_:=Aside0.mk (blk_below (g:=gb200) (o:=.cells #[.int .u32 a0_0,.slice A0_1 l0_1.length c0_1] 25 (0,0)) (by (with_reducible repeat (first|apply blk_drewN|apply blk_drew|apply blk_alloc));exact BK200.out) hb)
            have n3_:=Aside0.mk (blk_below (g:=gb201) (o:=.cells #[.int .u32 a1_0,.slice A1_1 l1_1.length c1_1] 25 (0,0)) (by (with_reducible repeat (first|apply blk_drewN|apply blk_drew|apply blk_alloc));exact BK201.out) hb)
            have n4_:=Aside0.mk (blk_below (g:=gb214) (o:=.cells #[.int .u32 0,.slice none 0 0] 30 (0,0)) (by (with_reducible repeat (first|apply blk_drewN|apply blk_drew|apply blk_alloc));exact BK214.out) hb)
            have n5_:=Aside0.mk (below_step (by repeat (first|(with_reducible first|exact HB.out|apply below_alloc|apply pw_below_drewN|apply below_drew1|refine below_set ?_ GE200.out|refine below_set ?_ GE201.out|refine below_set ?_ GE214.out)|exact HB.out)) hb)
            clear HO208
            clear BK200
            clear BK201
            clear BK214
            clear HB
            have HO208:=n0_
            have HO212:=n1_
            have BK200:=n2_
            have BK201:=n3_
            have BK214:=n4_
            have HB:=n5_
            clear n0_ n1_ n2_ n3_ n4_ n5_
            (try clear hb)
            (try clear hb2)
            (try clear hk)
            (try clear hi)
            (try clear ho0)
            refine hK.out _ _ ⟨(blk_cell BK200.out 0).trans rfl,(blk_cell BK200.out 1).trans rfl,(blk_cell BK201.out 0).trans rfl,(blk_cell BK201.out 1).trans rfl⟩ (fun hHeld=>?_)
            clear hK K
            refine norm_ (a':=?_) ?_ ?_
            rotate_left
            ·show Act.put _ (some 29) _ = _
             simp only [Act.put,sB,sZ,sS,i64_w,i32_w]
             rfl
            exact norm_ (by first|(simp only [putAll,Act.put,sB,sZ,sS];done)|(simp only [putAll,Act.put,sB,sZ,sS];rfl)) (hJ1_3_5 (v207,v211,gb214) _ ⟨hHeld,(by (with_reducible repeat (first|apply Kd.R_alloc|apply Kd.R_drewN|apply Kd.R_drew));exact Kd.R_mono HO208.out (fun _ hk=>hk.2)),(by (with_reducible repeat (first|apply Kd.R_alloc|apply Kd.R_drewN|apply Kd.R_drew));exact Kd.R_mono HO212.out (fun _ hk=>hk.2)),(by (with_reducible repeat (first|apply blk_drewN|apply blk_drew|apply blk_alloc));exact BK200.out),(by (with_reducible repeat (first|apply blk_drewN|apply blk_drew|apply blk_alloc));exact BK201.out),(by (with_reducible repeat (first|apply blk_drewN|apply blk_drew|apply blk_alloc));exact BK214.out),GW214.out,GE214.out,NB200_214.out,NB214_200.out,NB201_214.out,NB214_201.out,(by repeat (first|(with_reducible first|exact HB.out|apply below_alloc|apply pw_below_drewN|apply below_drew1|refine below_set ?_ GE200.out|refine below_set ?_ GE201.out|refine below_set ?_ GE214.out)|exact HB.out))⟩)
           ·skip
            refine box_step ?hg (N:=7) ?hd (cs:=#[.int .u32 0,.slice none 0 0]) (t:=30) ?hr ?_;(case hd=>rfl);(case hg=>rfl);(case hr=>first|(go_simp;done)|(go_simp;rfl))
            intro gb213 hg w36 hbox hb
            have n0_:=Aside0.mk (Kd.R_below (by (with_reducible repeat (first|apply Kd.R_alloc|apply Kd.R_drewN|apply Kd.R_drew));exact HO208.out) hb)
            have n1_:=Aside0.mk (blk_below (g:=gb200) (o:=.cells #[.int .u32 a0_0,.slice A0_1 l0_1.length c0_1] 25 (0,0)) (by (with_reducible repeat (first|apply blk_drewN|apply blk_drew|apply blk_alloc));exact BK200.out) hb)
            have n2_:=Aside0.mk (blk_below (g:=gb201) (o:=.cells #[.int .u32 a1_0,.slice A1_1 l1_1.length c1_1] 25 (0,0)) (by (with_reducible repeat (first|apply blk_drewN|apply blk_drew|apply blk_alloc));exact BK201.out) hb)
            have n3_:=Aside0.mk (blk_below (g:=gb214) (o:=.cells #[.int .u32 0,.slice none 0 0] 30 (0,0)) (by (with_reducible repeat (first|apply blk_drewN|apply blk_drew|apply blk_alloc));exact BK214.out) hb)
            have n4_:=Aside0.mk (below_step (by repeat (first|(with_reducible first|exact HB.out|apply below_alloc|apply pw_below_drewN|apply below_drew1|refine below_set ?_ GE200.out|refine below_set ?_ GE201.out|refine below_set ?_ GE214.out)|exact HB.out)) hb)
            have n5_:=Aside0.mk (hbox)
            have n6_:=Aside0.mk ((by rw [hg];exact (below_size (by repeat (first|(with_reducible first|exact HB.out|apply below_alloc|apply pw_below_drewN|apply below_drew1|refine below_set ?_ GE200.out|refine below_set ?_ GE201.out|refine below_set ?_ GE214.out)|exact HB.out))) : w.heap.size ≤ gb213))
            have n7_:=Aside0.mk ((by rw [hg];exact (below_size (by repeat (first|(with_reducible first|exact HB.out|apply below_alloc|apply pw_below_drewN|apply below_drew1|refine below_set ?_ GE200.out|refine below_set ?_ GE201.out|refine below_set ?_ GE214.out)|exact HB.out))) : w.heap.size ≤ gb213))
            have n8_:=Aside0.mk ((by rw [hg];exact Nat.ne_of_lt (blk_lt (g:=gb200) (o:=.cells #[.int .u32 a0_0,.slice A0_1 l0_1.length c0_1] 25 (0,0)) (by (with_reducible repeat (first|apply blk_drewN|apply blk_drew|apply blk_alloc));exact BK200.out)) : gb200 ≠ gb213))
            have n9_:=Aside0.mk ((by rw [hg];exact Nat.ne_of_gt (blk_lt (g:=gb200) (o:=.cells #[.int .u32 a0_0,.slice A0_1 l0_1.length c0_1] 25 (0,0)) (by (with_reducible repeat (first|apply blk_drewN|apply blk_drew|apply blk_alloc));exact BK200.out)) : gb213 ≠ gb200))
            have n10_:=Aside0.mk ((by rw [hg];exact Nat.ne_of_lt (blk_lt (g:=gb201) (o:=.cells #[.int .u32 a1_0,.slice A1_1 l1_1.length c1_1] 25 (0,0)) (by (with_reducible repeat (first|apply blk_drewN|apply blk_drew|apply blk_alloc));exact BK201.out)) : gb201 ≠ gb213))
            have n11_:=Aside0.mk ((by rw [hg];exact Nat.ne_of_gt (blk_lt (g:=gb201) (o:=.cells #[.int .u32 a1_0,.slice A1_1 l1_1.length c1_1] 25 (0,0)) (by (with_reducible repeat (first|apply blk_drewN|apply blk_drew|apply blk_alloc));exact BK201.out)) : gb213 ≠ gb201))
            have n12_:=Aside0.mk ((by rw [hg];exact Nat.ne_of_lt (blk_lt (g:=gb214) (o:=.cells #[.int .u32 0,.slice none 0 0] 30 (0,0)) (by (with_reducible repeat (first|apply blk_drewN|apply blk_drew|apply blk_alloc));exact BK214.out)) : gb214 ≠ gb213))
            have n13_:=Aside0.mk ((by rw [hg];exact Nat.ne_of_gt (blk_lt (g:=gb214) (o:=.cells #[.int .u32 0,.slice none 0 0] 30 (0,0)) (by (with_reducible repeat (first|apply blk_drewN|apply blk_drew|apply blk_alloc));exact BK214.out)) : gb213 ≠ gb214))
            clear HO208
            clear BK200
            clear BK201
            clear BK214
            clear HB
            have HO208:=n0_
            have BK200:=n1_
            have BK201:=n2_
            have BK214:=n3_
            have HB:=n4_
            have BK213:=n5_
            have GW213:=n6_
            have GE213:=n7_
            have NB200_213:=n8_
            have NB213_200:=n9_
            have NB201_213:=n10_
            have NB213_201:=n11_
            have NB214_213:=n12_
            have NB213_214:=n13_
            clear n0_ n1_ n2_ n3_ n4_ n5_ n6_ n7_ n8_ n9_ n10_ n11_ n12_ n13_
            clear hb hbox hg
            refine hK.out _ _ ⟨(blk_cell BK200.out 0).trans rfl,(blk_cell BK200.out 1).trans rfl,(blk_cell BK201.out 0).trans rfl,(blk_cell BK201.out 1).trans rfl⟩ (fun hHeld=>?_)
            clear hK K
            refine norm_ (a':=?_) ?_ ?_
            rotate_left
            ·show Act.put _ (some 7) _ = _
             simp only [Act.put,sB,sZ,sS,i64_w,i32_w]
             rfl
            exact norm_ (by first|(simp only [putAll,Act.put,sB,sZ,sS];done)|(simp only [putAll,Act.put,sB,sZ,sS];rfl)) (hJ1_4_5 (v207,gb213,gb214) _ ⟨hHeld,(by (with_reducible repeat (first|apply Kd.R_alloc|apply Kd.R_drewN|apply Kd.R_drew));exact HO208.out),(by (with_reducible repeat (first|apply blk_drewN|apply blk_drew|apply blk_alloc));exact BK200.out),(by (with_reducible repeat (first|apply blk_drewN|apply blk_drew|apply blk_alloc));exact BK201.out),(by (with_reducible repeat (first|apply blk_drewN|apply blk_drew|apply blk_alloc));exact BK213.out),(by (with_reducible repeat (first|apply blk_drewN|apply blk_drew|apply blk_alloc));exact BK214.out),GW213.out,GE213.out,NB200_213.out,NB213_200.out,NB201_213.out,NB213_201.out,NB214_213.out,NB213_214.out,GW214.out,GE214.out,NB200_214.out,NB214_200.out,NB201_214.out,NB214_201.out,(by repeat (first|(with_reducible first|exact HB.out|apply below_alloc|apply pw_below_drewN|apply below_drew1|refine below_set ?_ GE200.out|refine below_set ?_ GE201.out|refine below_set ?_ GE214.out|refine below_set ?_ GE213.out)|exact HB.out))⟩)
         ·skip
          rintro ⟨v207,gb213⟩ w35 ⟨hS_,h0_,h1_,h2_,h3_,h4_,h5_,h6_,h7_,h8_,h9_,h10_⟩
          have n0_ : Aside0 (Kd.R k67 67 w35 w.heap.size (fun _=>True) v207 t206):=⟨h0_⟩
          have n1_ : Aside0 (w35.heap[gb200]? = some (.cells #[.int .u32 a0_0,.slice A0_1 l0_1.length c0_1] 25 (0,0))):=⟨h1_⟩
          have n2_ : Aside0 (w35.heap[gb201]? = some (.cells #[.int .u32 a1_0,.slice A1_1 l1_1.length c1_1] 25 (0,0))):=⟨h2_⟩
          have n3_ : Aside0 (w35.heap[gb213]? = some (.cells #[.int .u32 0,.slice none 0 0] 30 (0,0))):=⟨h3_⟩
          have n4_ : Aside0 (w.heap.size ≤ gb213):=⟨h4_⟩
          have n5_ : Aside0 (w.heap.size ≤ gb213):=⟨h5_⟩
          have n6_ : Aside0 (gb200 ≠ gb213):=⟨h6_⟩
          have n7_ : Aside0 (gb213 ≠ gb200):=⟨h7_⟩
          have n8_ : Aside0 (gb201 ≠ gb213):=⟨h8_⟩
          have n9_ : Aside0 (gb213 ≠ gb201):=⟨h9_⟩
          have n10_ : Aside0 (Below w.heap.size w w35):=⟨h10_⟩
          clear BK200
          clear BK201
          clear HB
          clear h0_ h1_ h2_ h3_ h4_ h5_ h6_ h7_ h8_ h9_ h10_
          have HO208:=n0_
          have BK200:=n1_
          have BK201:=n2_
          have BK213:=n3_
          have GW213:=n4_
          have GE213:=n5_
          have NB200_213:=n6_
          have NB213_200:=n7_
          have NB201_213:=n8_
          have NB213_201:=n9_
          have HB:=n10_
          clear n0_ n1_ n2_ n3_ n4_ n5_ n6_ n7_ n8_ n9_ n10_
          have hHeld : w35.cell? ⟨gb200,0,none⟩ = some (.int .u32 a0_0) ∧ w35.cell? ⟨gb200,1,none⟩ = some (.slice A0_1 l0_1.length c0_1) ∧ w35.cell? ⟨gb201,0,none⟩ = some (.int .u32 a1_0) ∧ w35.cell? ⟨gb201,1,none⟩ = some (.slice A1_1 l1_1.length c1_1):=hS_
          refine norm_ (a':=?_) ?_ ?_
          rotate_left
          ·simp only [putAll,Act.put,sB,sZ,sS]
           rfl
          refine two_ (i:=3) (j:=5) (Ni:=some 29) (Nj:=some 8) #[true,true,true,true,true,false,false,false] #[true,true,true,false,true,true,false,false] rfl rfl rfl rfl (two_of HT_.out (by kernel_rfl)) (by decide) (by decide) (fun K hK=>?_) (fun K hK=>?_)
          ·skip
           refine goes_ Tryd.func11 (by kernel_rfl) rfl #[.agg #[.int .u32 a1_0,.slice A1_1 l1_1.length c1_1]] (by rfl) rfl rfl (by (try simp only [List.map_toArray,List.map_cons,List.map_nil]);first|done|rfl|(simp only [List.length_drop,List.length_take];rfl)) ?_
           with_reducible refine (bosunlaw17_Of.calls kj3 a1_0 _ _ l1_1 t209 t210 _ ?side1 ?side2 A28.out).mono ?_
           (case side1=>repeat (first|exact (Kd.C_below HR1_1.out HB.out)|(with_reducible refine Kd.C_alloc ?_ _)|(with_reducible refine Kd.C_drewN ?_ _)|(with_reducible refine Kd.C_drew ?_)))
           (case side2=>exact HC1_1.out)
           rintro e w36 ⟨v211,rfl,ho0,hb⟩
           refine ⟨_,rfl,?_⟩
           have n0_:=Aside0.mk (Kd.R_elder' (by (with_reducible repeat (first|apply Kd.R_alloc|apply Kd.R_drewN|apply Kd.R_drew));exact HO208.out) (Kd.R_base ho0) hb)
           have n1_:=Aside0.mk (Kd.R_lower (Kd.R_new' ho0 (Kd.R_lt (by (with_reducible repeat (first|apply Kd.R_alloc|apply Kd.R_drewN|apply Kd.R_drew));exact HO208.out))) (below_size (by repeat (first|(with_reducible first|exact HB.out|apply below_alloc|apply pw_below_drewN|apply below_drew1|refine below_set ?_ GE200.out|refine below_set ?_ GE201.out|refine below_set ?_ GE213.out)|exact HB.out))))
           have n2_:=Aside0.mk (blk_below (g:=gb200) (o:=.cells #[.int .u32 a0_0,.slice A0_1 l0_1.length c0_1] 25 (0,0)) (by (with_reducible repeat (first|apply blk_drewN|apply blk_drew|apply blk_alloc));exact BK200.out) hb)
           have n3_:=Aside0.mk (blk_below (g:=gb201) (o:=.cells #[.int .u32 a1_0,.slice A1_1 l1_1.length c1_1] 25 (0,0)) (by (with_reducible repeat (first|apply blk_drewN|apply blk_drew|apply blk_alloc));exact BK201.out) hb)
           have n4_:=Aside0.mk (blk_below (g:=gb213) (o:=.cells #[.int .u32 0,.slice none 0 0] 30 (0,0)) (by (with_reducible repeat (first|apply blk_drewN|apply blk_drew|apply blk_alloc));exact BK213.out) hb)
           have n5_:=Aside0.mk (below_step (by repeat (first|(with_reducible first|exact HB.out|apply below_alloc|apply pw_below_drewN|apply below_drew1|refine below_set ?_ GE200.out|refine below_set ?_ GE201.out|refine below_set ?_ GE213.out)|exact HB.out)) hb)
           clear HO208
           clear BK200
           clear BK201
           clear BK213
           clear HB
           have HO208:=n0_
           have HO212:=n1_
           have BK200:=n2_
           have BK201:=n3_
           have BK213:=n4_
           have HB:=n5_
           clear n0_ n1_ n2_ n3_ n4_ n5_
           (try clear hb)
           (try clear hb2)
           (try clear hk)
           (try clear hi)
           (try clear ho0)
           refine hK.out _ _ ⟨(blk_cell BK200.out 0).trans rfl,(blk_cell BK200.out 1).trans rfl,(blk_cell BK201.out 0).trans rfl,(blk_cell BK201.out 1).trans rfl⟩ (fun hHeld=>?_)
           clear hK K
           refine norm_ (a':=?_) ?_ ?_
           rotate_left
           ·show Act.put _ (some 29) _ = _
            simp only [Act.put,sB,sZ,sS,i64_w,i32_w]
            rfl
           exact norm_ (by first|(simp only [putAll,Act.put,sB,sZ,sS];done)|(simp only [putAll,Act.put,sB,sZ,sS];rfl)) (hJ1_3_4 (v207,v211,gb213) _ ⟨hHeld,(by (with_reducible repeat (first|apply Kd.R_alloc|apply Kd.R_drewN|apply Kd.R_drew));exact Kd.R_mono HO208.out (fun _ hk=>hk.2)),(by (with_reducible repeat (first|apply Kd.R_alloc|apply Kd.R_drewN|apply Kd.R_drew));exact Kd.R_mono HO212.out (fun _ hk=>hk.2)),(by (with_reducible repeat (first|apply blk_drewN|apply blk_drew|apply blk_alloc));exact BK200.out),(by (with_reducible repeat (first|apply blk_drewN|apply blk_drew|apply blk_alloc));exact BK201.out),(by (with_reducible repeat (first|apply blk_drewN|apply blk_drew|apply blk_alloc));exact BK213.out),GW213.out,GE213.out,NB200_213.out,NB213_200.out,NB201_213.out,NB213_201.out,(by repeat (first|(with_reducible first|exact HB.out|apply below_alloc|apply pw_below_drewN|apply below_drew1|refine below_set ?_ GE200.out|refine below_set ?_ GE201.out|refine below_set ?_ GE213.out)|exact HB.out))⟩)
          ·skip
           refine box_step ?hg (N:=8) ?hd (cs:=#[.int .u32 0,.slice none 0 0]) (t:=30) ?hr ?_;(case hd=>rfl);(case hg=>rfl);(case hr=>first|(go_simp;done)|(go_simp;rfl))
           intro gb214 hg w36 hbox hb
           have n0_:=Aside0.mk (Kd.R_below (by (with_reducible repeat (first|apply Kd.R_alloc|apply Kd.R_drewN|apply Kd.R_drew));exact HO208.out) hb)
           have n1_:=Aside0.mk (blk_below (g:=gb200) (o:=.cells #[.int .u32 a0_0,.slice A0_1 l0_1.length c0_1] 25 (0,0)) (by (with_reducible repeat (first|apply blk_drewN|apply blk_drew|apply blk_alloc));exact BK200.out) hb)
           have n2_:=Aside0.mk (blk_below (g:=gb201) (o:=.cells #[.int .u32 a1_0,.slice A1_1 l1_1.length c1_1] 25 (0,0)) (by (with_reducible repeat (first|apply blk_drewN|apply blk_drew|apply blk_alloc));exact BK201.out) hb)
           have n3_:=Aside0.mk (blk_below (g:=gb213) (o:=.cells #[.int .u32 0,.slice none 0 0] 30 (0,0)) (by (with_reducible repeat (first|apply blk_drewN|apply blk_drew|apply blk_alloc));exact BK213.out) hb)
           have n4_:=Aside0.mk (below_step (by repeat (first|(with_reducible first|exact HB.out|apply below_alloc|apply pw_below_drewN|apply below_drew1|refine below_set ?_ GE200.out|refine below_set ?_ GE201.out|refine below_set ?_ GE213.out)|exact HB.out)) hb)
           have n5_:=Aside0.mk (hbox)
           have n6_:=Aside0.mk ((by rw [hg];exact (below_size (by repeat (first|(with_reducible first|exact HB.out|apply below_alloc|apply pw_below_drewN|apply below_drew1|refine below_set ?_ GE200.out|refine below_set ?_ GE201.out|refine below_set ?_ GE213.out)|exact HB.out))) : w.heap.size ≤ gb214))
           have n7_:=Aside0.mk ((by rw [hg];exact (below_size (by repeat (first|(with_reducible first|exact HB.out|apply below_alloc|apply pw_below_drewN|apply below_drew1|refine below_set ?_ GE200.out|refine below_set ?_ GE201.out|refine below_set ?_ GE213.out)|exact HB.out))) : w.heap.size ≤ gb214))
           have n8_:=Aside0.mk ((by rw [hg];exact Nat.ne_of_lt (blk_lt (g:=gb200) (o:=.cells #[.int .u32 a0_0,.slice A0_1 l0_1.length c0_1] 25 (0,0)) (by (with_reducible repeat (first|apply blk_drewN|apply blk_drew|apply blk_alloc));exact BK200.out)) : gb200 ≠ gb214))
           have n9_:=Aside0.mk ((by rw [hg];exact Nat.ne_of_gt (blk_lt (g:=gb200) (o:=.cells #[.int .u32 a0_0,.slice A0_1 l0_1.length c0_1] 25 (0,0)) (by (with_reducible repeat (first|apply blk_drewN|apply blk_drew|apply blk_alloc));exact BK200.out)) : gb214 ≠ gb200))
           have n10_:=Aside0.mk ((by rw [hg];exact Nat.ne_of_lt (blk_lt (g:=gb201) (o:=.cells #[.int .u32 a1_0,.slice A1_1 l1_1.length c1_1] 25 (0,0)) (by (with_reducible repeat (first|apply blk_drewN|apply blk_drew|apply blk_alloc));exact BK201.out)) : gb201 ≠ gb214))
           have n11_:=Aside0.mk ((by rw [hg];exact Nat.ne_of_gt (blk_lt (g:=gb201) (o:=.cells #[.int .u32 a1_0,.slice A1_1 l1_1.length c1_1] 25 (0,0)) (by (with_reducible repeat (first|apply blk_drewN|apply blk_drew|apply blk_alloc));exact BK201.out)) : gb214 ≠ gb201))
           have n12_:=Aside0.mk ((by rw [hg];exact Nat.ne_of_lt (blk_lt (g:=gb213) (o:=.cells #[.int .u32 0,.slice none 0 0] 30 (0,0)) (by (with_reducible repeat (first|apply blk_drewN|apply blk_drew|apply blk_alloc));exact BK213.out)) : gb213 ≠ gb214))
           have n13_:=Aside0.mk ((by rw [hg];exact Nat.ne_of_gt (blk_lt (g:=gb213) (o:=.cells #[.int .u32 0,.slice none 0 0] 30 (0,0)) (by (with_reducible repeat (first|apply blk_drewN|apply blk_drew|apply blk_alloc));exact BK213.out)) : gb214 ≠ gb213))
           clear HO208
           clear BK200
           clear BK201
           clear BK213
           clear HB
           have HO208:=n0_
           have BK200:=n1_
           have BK201:=n2_
           have BK213:=n3_
           have HB:=n4_
           have BK214:=n5_
           have GW214:=n6_
           have GE214:=n7_
           have NB200_214:=n8_
           have NB214_200:=n9_
           have NB201_214:=n10_
           have NB214_201:=n11_
           have NB213_214:=n12_
           have NB214_213:=n13_
           clear n0_ n1_ n2_ n3_ n4_ n5_ n6_ n7_ n8_ n9_ n10_ n11_ n12_ n13_
           clear hb hbox hg
           refine hK.out _ _ ⟨(blk_cell BK200.out 0).trans rfl,(blk_cell BK200.out 1).trans rfl,(blk_cell BK201.out 0).trans rfl,(blk_cell BK201.out 1).trans rfl⟩ (fun hHeld=>?_)
           clear hK K
           refine norm_ (a':=?_) ?_ ?_
           rotate_left
           ·show Act.put _ (some 8) _ = _
            simp only [Act.put,sB,sZ,sS,i64_w,i32_w]
            rfl
           exact norm_ (by first|(simp only [putAll,Act.put,sB,sZ,sS];done)|(simp only [putAll,Act.put,sB,sZ,sS];rfl)) (hJ1_4_5 (v207,gb213,gb214) _ ⟨hHeld,(by (with_reducible repeat (first|apply Kd.R_alloc|apply Kd.R_drewN|apply Kd.R_drew));exact HO208.out),(by (with_reducible repeat (first|apply blk_drewN|apply blk_drew|apply blk_alloc));exact BK200.out),(by (with_reducible repeat (first|apply blk_drewN|apply blk_drew|apply blk_alloc));exact BK201.out),(by (with_reducible repeat (first|apply blk_drewN|apply blk_drew|apply blk_alloc));exact BK213.out),(by (with_reducible repeat (first|apply blk_drewN|apply blk_drew|apply blk_alloc));exact BK214.out),GW213.out,GE213.out,NB200_213.out,NB213_200.out,NB201_213.out,NB213_201.out,NB214_213.out,NB213_214.out,GW214.out,GE214.out,NB200_214.out,NB214_200.out,NB201_214.out,NB214_201.out,(by repeat (first|(with_reducible first|exact HB.out|apply below_alloc|apply pw_below_drewN|apply below_drew1|refine below_set ?_ GE200.out|refine below_set ?_ GE201.out|refine below_set ?_ GE213.out|refine below_set ?_ GE214.out)|exact HB.out))⟩)
        ·skip
         rintro ⟨v207,v211⟩ w35 ⟨hS_,h0_,h1_,h2_,h3_,h4_⟩
         have n0_ : Aside0 (Kd.R k67 67 w35 w.heap.size (fun k_=>some k_ ≠ (v211 : Value).ownBlock) v207 t206):=⟨h0_⟩
         have n1_ : Aside0 (Kd.R k67 67 w35 w.heap.size (fun k_=>some k_ ≠ (v207 : Value).ownBlock) v211 t210):=⟨h1_⟩
         have n2_ : Aside0 (w35.heap[gb200]? = some (.cells #[.int .u32 a0_0,.slice A0_1 l0_1.length c0_1] 25 (0,0))):=⟨h2_⟩
         have n3_ : Aside0 (w35.heap[gb201]? = some (.cells #[.int .u32 a1_0,.slice A1_1 l1_1.length c1_1] 25 (0,0))):=⟨h3_⟩
         have n4_ : Aside0 (Below w.heap.size w w35):=⟨h4_⟩
         clear BK200
         clear BK201
         clear HB
         clear h0_ h1_ h2_ h3_ h4_
         have HO208:=n0_
         have HO212:=n1_
         have BK200:=n2_
         have BK201:=n3_
         have HB:=n4_
         clear n0_ n1_ n2_ n3_ n4_
         have hHeld : w35.cell? ⟨gb200,0,none⟩ = some (.int .u32 a0_0) ∧ w35.cell? ⟨gb200,1,none⟩ = some (.slice A0_1 l0_1.length c0_1) ∧ w35.cell? ⟨gb201,0,none⟩ = some (.int .u32 a1_0) ∧ w35.cell? ⟨gb201,1,none⟩ = some (.slice A1_1 l1_1.length c1_1):=hS_
         refine norm_ (a':=?_) ?_ ?_
         rotate_left
         ·simp only [putAll,Act.put,sB,sZ,sS]
          rfl
         refine two_ (i:=4) (j:=5) (Ni:=some 7) (Nj:=some 8) #[true,true,true,true,true,false,false,false] #[true,true,true,true,false,true,false,false] rfl rfl rfl rfl (two_of HT_.out (by kernel_rfl)) (by decide) (by decide) (fun K hK=>?_) (fun K hK=>?_)
         ·skip
          refine box_step ?hg (N:=7) ?hd (cs:=#[.int .u32 0,.slice none 0 0]) (t:=30) ?hr ?_;(case hd=>rfl);(case hg=>rfl);(case hr=>first|(go_simp;done)|(go_simp;rfl))
          intro gb213 hg w36 hbox hb
          have n0_:=Aside0.mk (Kd.R_below (by (with_reducible repeat (first|apply Kd.R_alloc|apply Kd.R_drewN|apply Kd.R_drew));exact HO208.out) hb)
          have n1_:=Aside0.mk (Kd.R_below (by (with_reducible repeat (first|apply Kd.R_alloc|apply Kd.R_drewN|apply Kd.R_drew));exact HO212.out) hb)
          have n2_:=Aside0.mk (blk_below (g:=gb200) (o:=.cells #[.int .u32 a0_0,.slice A0_1 l0_1.length c0_1] 25 (0,0)) (by (with_reducible repeat (first|apply blk_drewN|apply blk_drew|apply blk_alloc));exact BK200.out) hb)
          have n3_:=Aside0.mk (blk_below (g:=gb201) (o:=.cells #[.int .u32 a1_0,.slice A1_1 l1_1.length c1_1] 25 (0,0)) (by (with_reducible repeat (first|apply blk_drewN|apply blk_drew|apply blk_alloc));exact BK201.out) hb)
          have n4_:=Aside0.mk (below_step (by repeat (first|(with_reducible first|exact HB.out|apply below_alloc|apply pw_below_drewN|apply below_drew1|refine below_set ?_ GE200.out|refine below_set ?_ GE201.out)|exact HB.out)) hb)
          have n5_:=Aside0.mk (hbox)
          have n6_:=Aside0.mk ((by rw [hg];exact (below_size (by repeat (first|(with_reducible first|exact HB.out|apply below_alloc|apply pw_below_drewN|apply below_drew1|refine below_set ?_ GE200.out|refine below_set ?_ GE201.out)|exact HB.out))) : w.heap.size ≤ gb213))
          have n7_:=Aside0.mk ((by rw [hg];exact (below_size (by repeat (first|(with_reducible first|exact HB.out|apply below_alloc|apply pw_below_drewN|apply below_drew1|refine below_set ?_ GE200.out|refine below_set ?_ GE201.out)|exact HB.out))) : w.heap.size ≤ gb213))
          have n8_:=Aside0.mk ((by rw [hg];exact Nat.ne_of_lt (blk_lt (g:=gb200) (o:=.cells #[.int .u32 a0_0,.slice A0_1 l0_1.length c0_1] 25 (0,0)) (by (with_reducible repeat (first|apply blk_drewN|apply blk_drew|apply blk_alloc));exact BK200.out)) : gb200 ≠ gb213))
          have n9_:=Aside0.mk ((by rw [hg];exact Nat.ne_of_gt (blk_lt (g:=gb200) (o:=.cells #[.int .u32 a0_0,.slice A0_1 l0_1.length c0_1] 25 (0,0)) (by (with_reducible repeat (first|apply blk_drewN|apply blk_drew|apply blk_alloc));exact BK200.out)) : gb213 ≠ gb200))
          have n10_:=Aside0.mk ((by rw [hg];exact Nat.ne_of_lt (blk_lt (g:=gb201) (o:=.cells #[.int .u32 a1_0,.slice A1_1 l1_1.length c1_1] 25 (0,0)) (by (with_reducible repeat (first|apply blk_drewN|apply blk_drew|apply blk_alloc));exact BK201.out)) : gb201 ≠ gb213))
          have n11_:=Aside0.mk ((by rw [hg];exact Nat.ne_of_gt (blk_lt (g:=gb201) (o:=.cells #[.int .u32 a1_0,.slice A1_1 l1_1.length c1_1] 25 (0,0)) (by (with_reducible repeat (first|apply blk_drewN|apply blk_drew|apply blk_alloc));exact BK201.out)) : gb213 ≠ gb201))
          clear HO208
          clear HO212
          clear BK200
          clear BK201
          clear HB
          have HO208:=n0_
          have HO212:=n1_
          have BK200:=n2_
          have BK201:=n3_
          have HB:=n4_
          have BK213:=n5_
          have GW213:=n6_
          have GE213:=n7_
          have NB200_213:=n8_
          have NB213_200:=n9_
          have NB201_213:=n10_
          have NB213_201:=n11_
          clear n0_ n1_ n2_ n3_ n4_ n5_ n6_ n7_ n8_ n9_ n10_ n11_
          clear hb hbox hg
          refine hK.out _ _ ⟨(blk_cell BK200.out 0).trans rfl,(blk_cell BK200.out 1).trans rfl,(blk_cell BK201.out 0).trans rfl,(blk_cell BK201.out 1).trans rfl⟩ (fun hHeld=>?_)
          clear hK K
          refine norm_ (a':=?_) ?_ ?_
          rotate_left
          ·show Act.put _ (some 7) _ = _
           simp only [Act.put,sB,sZ,sS,i64_w,i32_w]
           rfl
          exact norm_ (by first|(simp only [putAll,Act.put,sB,sZ,sS];done)|(simp only [putAll,Act.put,sB,sZ,sS];rfl)) (hJ1_3_4 (v207,v211,gb213) _ ⟨hHeld,(by (with_reducible repeat (first|apply Kd.R_alloc|apply Kd.R_drewN|apply Kd.R_drew));exact HO208.out),(by (with_reducible repeat (first|apply Kd.R_alloc|apply Kd.R_drewN|apply Kd.R_drew));exact HO212.out),(by (with_reducible repeat (first|apply blk_drewN|apply blk_drew|apply blk_alloc));exact BK200.out),(by (with_reducible repeat (first|apply blk_drewN|apply blk_drew|apply blk_alloc));exact BK201.out),(by (with_reducible repeat (first|apply blk_drewN|apply blk_drew|apply blk_alloc));exact BK213.out),GW213.out,GE213.out,NB200_213.out,NB213_200.out,NB201_213.out,NB213_201.out,(by repeat (first|(with_reducible first|exact HB.out|apply below_alloc|apply pw_below_drewN|apply below_drew1|refine below_set ?_ GE200.out|refine below_set ?_ GE201.out|refine below_set ?_ GE213.out)|exact HB.out))⟩)
         ·skip
          refine box_step ?hg (N:=8) ?hd (cs:=#[.int .u32 0,.slice none 0 0]) (t:=30) ?hr ?_;(case hd=>rfl);(case hg=>rfl);(case hr=>first|(go_simp;done)|(go_simp;rfl))
          intro gb214 hg w36 hbox hb
          have n0_:=Aside0.mk (Kd.R_below (by (with_reducible repeat (first|apply Kd.R_alloc|apply Kd.R_drewN|apply Kd.R_drew));exact HO208.out) hb)
          have n1_:=Aside0.mk (Kd.R_below (by (with_reducible repeat (first|apply Kd.R_alloc|apply Kd.R_drewN|apply Kd.R_drew));exact HO212.out) hb)
          have n2_:=Aside0.mk (blk_below (g:=gb200) (o:=.cells #[.int .u32 a0_0,.slice A0_1 l0_1.length c0_1] 25 (0,0)) (by (with_reducible repeat (first|apply blk_drewN|apply blk_drew|apply blk_alloc));exact BK200.out) hb)
          have n3_:=Aside0.mk (blk_below (g:=gb201) (o:=.cells #[.int .u32 a1_0,.slice A1_1 l1_1.length c1_1] 25 (0,0)) (by (with_reducible repeat (first|apply blk_drewN|apply blk_drew|apply blk_alloc));exact BK201.out) hb)
          have n4_:=Aside0.mk (below_step (by repeat (first|(with_reducible first|exact HB.out|apply below_alloc|apply pw_below_drewN|apply below_drew1|refine below_set ?_ GE200.out|refine below_set ?_ GE201.out)|exact HB.out)) hb)
          have n5_:=Aside0.mk (hbox)
          have n6_:=Aside0.mk ((by rw [hg];exact (below_size (by repeat (first|(with_reducible first|exact HB.out|apply below_alloc|apply pw_below_drewN|apply below_drew1|refine below_set ?_ GE200.out|refine below_set ?_ GE201.out)|exact HB.out))) : w.heap.size ≤ gb214))
          have n7_:=Aside0.mk ((by rw [hg];exact (below_size (by repeat (first|(with_reducible first|exact HB.out|apply below_alloc|apply pw_below_drewN|apply below_drew1|refine below_set ?_ GE200.out|refine below_set ?_ GE201.out)|exact HB.out))) : w.heap.size ≤ gb214))
          have n8_:=Aside0.mk ((by rw [hg];exact Nat.ne_of_lt (blk_lt (g:=gb200) (o:=.cells #[.int .u32 a0_0,.slice A0_1 l0_1.length c0_1] 25 (0,0)) (by (with_reducible repeat (first|apply blk_drewN|apply blk_drew|apply blk_alloc));exact BK200.out)) : gb200 ≠ gb214))
          have n9_:=Aside0.mk ((by rw [hg];exact Nat.ne_of_gt (blk_lt (g:=gb200) (o:=.cells #[.int .u32 a0_0,.slice A0_1 l0_1.length c0_1] 25 (0,0)) (by (with_reducible repeat (first|apply blk_drewN|apply blk_drew|apply blk_alloc));exact BK200.out)) : gb214 ≠ gb200))
          have n10_:=Aside0.mk ((by rw [hg];exact Nat.ne_of_lt (blk_lt (g:=gb201) (o:=.cells #[.int .u32 a1_0,.slice A1_1 l1_1.length c1_1] 25 (0,0)) (by (with_reducible repeat (first|apply blk_drewN|apply blk_drew|apply blk_alloc));exact BK201.out)) : gb201 ≠ gb214))
          have n11_:=Aside0.mk ((by rw [hg];exact Nat.ne_of_gt (blk_lt (g:=gb201) (o:=.cells #[.int .u32 a1_0,.slice A1_1 l1_1.length c1_1] 25 (0,0)) (by (with_reducible repeat (first|apply blk_drewN|apply blk_drew|apply blk_alloc));exact BK201.out)) : gb214 ≠ gb201))
          clear HO208
          clear HO212
          clear BK200
          clear BK201
          clear HB
          have HO208:=n0_
          have HO212:=n1_
          have BK200:=n2_
          have BK201:=n3_
          have HB:=n4_
          have BK214:=n5_
          have GW214:=n6_
          have GE214:=n7_
          have NB200_214:=n8_
          have NB214_200:=n9_
          have NB201_214:=n10_
          have NB214_201:=n11_
          clear n0_ n1_ n2_ n3_ n4_ n5_ n6_ n7_ n8_ n9_ n10_ n11_
          clear hb hbox hg
          refine hK.out _ _ ⟨(blk_cell BK200.out 0).trans rfl,(blk_cell BK200.out 1).trans rfl,(blk_cell BK201.out 0).trans rfl,(blk_cell BK201.out 1).trans rfl⟩ (fun hHeld=>?_)
          clear hK K
          refine norm_ (a':=?_) ?_ ?_
          rotate_left
          ·show Act.put _ (some 8) _ = _
           simp only [Act.put,sB,sZ,sS,i64_w,i32_w]
           rfl
          exact norm_ (by first|(simp only [putAll,Act.put,sB,sZ,sS];done)|(simp only [putAll,Act.put,sB,sZ,sS];rfl)) (hJ1_3_5 (v207,v211,gb214) _ ⟨hHeld,(by (with_reducible repeat (first|apply Kd.R_alloc|apply Kd.R_drewN|apply Kd.R_drew));exact HO208.out),(by (with_reducible repeat (first|apply Kd.R_alloc|apply Kd.R_drewN|apply Kd.R_drew));exact HO212.out),(by (with_reducible repeat (first|apply blk_drewN|apply blk_drew|apply blk_alloc));exact BK200.out),(by (with_reducible repeat (first|apply blk_drewN|apply blk_drew|apply blk_alloc));exact BK201.out),(by (with_reducible repeat (first|apply blk_drewN|apply blk_drew|apply blk_alloc));exact BK214.out),GW214.out,GE214.out,NB200_214.out,NB214_200.out,NB201_214.out,NB214_201.out,(by repeat (first|(with_reducible first|exact HB.out|apply below_alloc|apply pw_below_drewN|apply below_drew1|refine below_set ?_ GE200.out|refine below_set ?_ GE201.out|refine below_set ?_ GE214.out)|exact HB.out))⟩)
       ·skip
        rintro ⟨v207,gb213,gb214⟩ w36 ⟨hS_,h0_,h1_,h2_,h3_,h4_,h5_,h6_,h7_,h8_,h9_,h10_,h11_,h12_,h13_,h14_,h15_,h16_,h17_,h18_,h19_⟩
        have n0_ : Aside0 (Kd.R k67 67 w36 w.heap.size (fun _=>True) v207 t206):=⟨h0_⟩
        have n1_ : Aside0 (w36.heap[gb200]? = some (.cells #[.int .u32 a0_0,.slice A0_1 l0_1.length c0_1] 25 (0,0))):=⟨h1_⟩
        have n2_ : Aside0 (w36.heap[gb201]? = some (.cells #[.int .u32 a1_0,.slice A1_1 l1_1.length c1_1] 25 (0,0))):=⟨h2_⟩
        have n3_ : Aside0 (w36.heap[gb213]? = some (.cells #[.int .u32 0,.slice none 0 0] 30 (0,0))):=⟨h3_⟩
        have n4_ : Aside0 (w36.heap[gb214]? = some (.cells #[.int .u32 0,.slice none 0 0] 30 (0,0))):=⟨h4_⟩
        have n5_ : Aside0 (w.heap.size ≤ gb213):=⟨h5_⟩
        have n6_ : Aside0 (w.heap.size ≤ gb213):=⟨h6_⟩
        have n7_ : Aside0 (gb200 ≠ gb213):=⟨h7_⟩
        have n8_ : Aside0 (gb213 ≠ gb200):=⟨h8_⟩
        have n9_ : Aside0 (gb201 ≠ gb213):=⟨h9_⟩
        have n10_ : Aside0 (gb213 ≠ gb201):=⟨h10_⟩
        have n11_ : Aside0 (gb214 ≠ gb213):=⟨h11_⟩
        have n12_ : Aside0 (gb213 ≠ gb214):=⟨h12_⟩
        have n13_ : Aside0 (w.heap.size ≤ gb214):=⟨h13_⟩
        have n14_ : Aside0 (w.heap.size ≤ gb214):=⟨h14_⟩
        have n15_ : Aside0 (gb200 ≠ gb214):=⟨h15_⟩
        have n16_ : Aside0 (gb214 ≠ gb200):=⟨h16_⟩
        have n17_ : Aside0 (gb201 ≠ gb214):=⟨h17_⟩
        have n18_ : Aside0 (gb214 ≠ gb201):=⟨h18_⟩
        have n19_ : Aside0 (Below w.heap.size w w36):=⟨h19_⟩
        clear BK200
        clear BK201
        clear HB
        clear h0_ h1_ h2_ h3_ h4_ h5_ h6_ h7_ h8_ h9_ h10_ h11_ h12_ h13_ h14_ h15_ h16_ h17_ h18_ h19_
        have HO208:=n0_
        have BK200:=n1_
        have BK201:=n2_
        have BK213:=n3_
        have BK214:=n4_
        have GW213:=n5_
        have GE213:=n6_
        have NB200_213:=n7_
        have NB213_200:=n8_
        have NB201_213:=n9_
        have NB213_201:=n10_
        have NB214_213:=n11_
        have NB213_214:=n12_
        have GW214:=n13_
        have GE214:=n14_
        have NB200_214:=n15_
        have NB214_200:=n16_
        have NB201_214:=n17_
        have NB214_201:=n18_
        have HB:=n19_
        clear n0_ n1_ n2_ n3_ n4_ n5_ n6_ n7_ n8_ n9_ n10_ n11_ n12_ n13_ n14_ n15_ n16_ n17_ n18_ n19_
        have hHeld : w36.cell? ⟨gb200,0,none⟩ = some (.int .u32 a0_0) ∧ w36.cell? ⟨gb200,1,none⟩ = some (.slice A0_1 l0_1.length c0_1) ∧ w36.cell? ⟨gb201,0,none⟩ = some (.int .u32 a1_0) ∧ w36.cell? ⟨gb201,1,none⟩ = some (.slice A1_1 l1_1.length c1_1):=hS_
        refine norm_ (a':=?_) ?_ ?_
        rotate_left
        ·simp only [putAll,Act.put,sB,sZ,sS]
         rfl
        refine one_ (i:=3) (N:=some 29) #[true,true,true,true,true,true,false,false] rfl rfl (one_of HT_.out (by kernel_rfl)) (by decide) (fun K hK=>?_)
        refine goes_ Tryd.func11 (by kernel_rfl) rfl #[.agg #[.int .u32 a1_0,.slice A1_1 l1_1.length c1_1]] (by rfl) rfl rfl (by (try simp only [List.map_toArray,List.map_cons,List.map_nil]);first|done|rfl|(simp only [List.length_drop,List.length_take];rfl)) ?_
        with_reducible refine (bosunlaw17_Of.calls kj3 a1_0 _ _ l1_1 t209 t210 _ ?side1 ?side2 A28.out).mono ?_
        (case side1=>repeat (first|exact (Kd.C_below HR1_1.out HB.out)|(with_reducible refine Kd.C_alloc ?_ _)|(with_reducible refine Kd.C_drewN ?_ _)|(with_reducible refine Kd.C_drew ?_)))
        (case side2=>exact HC1_1.out)
        rintro e w37 ⟨v211,rfl,ho0,hb⟩
        refine ⟨_,rfl,?_⟩
        have n0_:=Aside0.mk (Kd.R_elder' (by (with_reducible repeat (first|apply Kd.R_alloc|apply Kd.R_drewN|apply Kd.R_drew));exact HO208.out) (Kd.R_base ho0) hb)
        have n1_:=Aside0.mk (Kd.R_lower (Kd.R_new' ho0 (Kd.R_lt (by (with_reducible repeat (first|apply Kd.R_alloc|apply Kd.R_drewN|apply Kd.R_drew));exact HO208.out))) (below_size (by repeat (first|(with_reducible first|exact HB.out|apply below_alloc|apply pw_below_drewN|apply below_drew1|refine below_set ?_ GE200.out|refine below_set ?_ GE201.out|refine below_set ?_ GE213.out|refine below_set ?_ GE214.out)|exact HB.out))))
        have n2_:=Aside0.mk (blk_below (g:=gb200) (o:=.cells #[.int .u32 a0_0,.slice A0_1 l0_1.length c0_1] 25 (0,0)) (by (with_reducible repeat (first|apply blk_drewN|apply blk_drew|apply blk_alloc));exact BK200.out) hb)
        have n3_:=Aside0.mk (blk_below (g:=gb201) (o:=.cells #[.int .u32 a1_0,.slice A1_1 l1_1.length c1_1] 25 (0,0)) (by (with_reducible repeat (first|apply blk_drewN|apply blk_drew|apply blk_alloc));exact BK201.out) hb)
        have n4_:=Aside0.mk (blk_below (g:=gb213) (o:=.cells #[.int .u32 0,.slice none 0 0] 30 (0,0)) (by (with_reducible repeat (first|apply blk_drewN|apply blk_drew|apply blk_alloc));exact BK213.out) hb)
        have n5_:=Aside0.mk (blk_below (g:=gb214) (o:=.cells #[.int .u32 0,.slice none 0 0] 30 (0,0)) (by (with_reducible repeat (first|apply blk_drewN|apply blk_drew|apply blk_alloc));exact BK214.out) hb)
        have n6_:=Aside0.mk (below_step (by repeat (first|(with_reducible first|exact HB.out|apply below_alloc|apply pw_below_drewN|apply below_drew1|refine below_set ?_ GE200.out|refine below_set ?_ GE201.out|refine below_set ?_ GE213.out|refine below_set ?_ GE214.out)|exact HB.out)) hb)
        clear HO208
        clear BK200
        clear BK201
        clear BK213
        clear BK214
        clear HB
        have HO208:=n0_
        have HO212:=n1_
        have BK200:=n2_
        have BK201:=n3_
        have BK213:=n4_
        have BK214:=n5_
        have HB:=n6_
        clear n0_ n1_ n2_ n3_ n4_ n5_ n6_
        (try clear hb)
        (try clear hb2)
        (try clear hk)
        (try clear hi)
        (try clear ho0)
        refine hK.out _ _ ⟨(blk_cell BK200.out 0).trans rfl,(blk_cell BK200.out 1).trans rfl,(blk_cell BK201.out 0).trans rfl,(blk_cell BK201.out 1).trans rfl⟩ (fun hHeld=>?_)
        clear hK K
        refine norm_ (a':=?_) ?_ ?_
        rotate_left
        ·show Act.put _ (some 29) _ = _
         simp only [Act.put,sB,sZ,sS,i64_w,i32_w]
         rfl
        exact norm_ (by first|(simp only [putAll,Act.put,sB,sZ,sS];done)|(simp only [putAll,Act.put,sB,sZ,sS];rfl)) (hJ1_3_4_5 (v207,v211,gb213,gb214) _ ⟨hHeld,(by (with_reducible repeat (first|apply Kd.R_alloc|apply Kd.R_drewN|apply Kd.R_drew));exact Kd.R_mono HO208.out (fun _ hk=>hk.2)),(by (with_reducible repeat (first|apply Kd.R_alloc|apply Kd.R_drewN|apply Kd.R_drew));exact Kd.R_mono HO212.out (fun _ hk=>hk.2)),(by (with_reducible repeat (first|apply blk_drewN|apply blk_drew|apply blk_alloc));exact BK200.out),(by (with_reducible repeat (first|apply blk_drewN|apply blk_drew|apply blk_alloc));exact BK201.out),(by (with_reducible repeat (first|apply blk_drewN|apply blk_drew|apply blk_alloc));exact BK213.out),(by (with_reducible repeat (first|apply blk_drewN|apply blk_drew|apply blk_alloc));exact BK214.out),GW213.out,GE213.out,NB200_213.out,NB213_200.out,NB201_213.out,NB213_201.out,NB214_213.out,NB213_214.out,GW214.out,GE214.out,NB200_214.out,NB214_200.out,NB201_214.out,NB214_201.out,(by repeat (first|(with_reducible first|exact HB.out|apply below_alloc|apply pw_below_drewN|apply below_drew1|refine below_set ?_ GE200.out|refine below_set ?_ GE201.out|refine below_set ?_ GE213.out|refine below_set ?_ GE214.out)|exact HB.out))⟩)
      ·skip
       rintro ⟨v207,v211,gb214⟩ w36 ⟨hS_,h0_,h1_,h2_,h3_,h4_,h5_,h6_,h7_,h8_,h9_,h10_,h11_⟩
       have n0_ : Aside0 (Kd.R k67 67 w36 w.heap.size (fun k_=>some k_ ≠ (v211 : Value).ownBlock) v207 t206):=⟨h0_⟩
       have n1_ : Aside0 (Kd.R k67 67 w36 w.heap.size (fun k_=>some k_ ≠ (v207 : Value).ownBlock) v211 t210):=⟨h1_⟩
       have n2_ : Aside0 (w36.heap[gb200]? = some (.cells #[.int .u32 a0_0,.slice A0_1 l0_1.length c0_1] 25 (0,0))):=⟨h2_⟩
       have n3_ : Aside0 (w36.heap[gb201]? = some (.cells #[.int .u32 a1_0,.slice A1_1 l1_1.length c1_1] 25 (0,0))):=⟨h3_⟩
       have n4_ : Aside0 (w36.heap[gb214]? = some (.cells #[.int .u32 0,.slice none 0 0] 30 (0,0))):=⟨h4_⟩
       have n5_ : Aside0 (w.heap.size ≤ gb214):=⟨h5_⟩
       have n6_ : Aside0 (w.heap.size ≤ gb214):=⟨h6_⟩
       have n7_ : Aside0 (gb200 ≠ gb214):=⟨h7_⟩
       have n8_ : Aside0 (gb214 ≠ gb200):=⟨h8_⟩
       have n9_ : Aside0 (gb201 ≠ gb214):=⟨h9_⟩
       have n10_ : Aside0 (gb214 ≠ gb201):=⟨h10_⟩
       have n11_ : Aside0 (Below w.heap.size w w36):=⟨h11_⟩
       clear BK200
       clear BK201
       clear HB
       clear h0_ h1_ h2_ h3_ h4_ h5_ h6_ h7_ h8_ h9_ h10_ h11_
       have HO208:=n0_
       have HO212:=n1_
       have BK200:=n2_
       have BK201:=n3_
       have BK214:=n4_
       have GW214:=n5_
       have GE214:=n6_
       have NB200_214:=n7_
       have NB214_200:=n8_
       have NB201_214:=n9_
       have NB214_201:=n10_
       have HB:=n11_
       clear n0_ n1_ n2_ n3_ n4_ n5_ n6_ n7_ n8_ n9_ n10_ n11_
       have hHeld : w36.cell? ⟨gb200,0,none⟩ = some (.int .u32 a0_0) ∧ w36.cell? ⟨gb200,1,none⟩ = some (.slice A0_1 l0_1.length c0_1) ∧ w36.cell? ⟨gb201,0,none⟩ = some (.int .u32 a1_0) ∧ w36.cell? ⟨gb201,1,none⟩ = some (.slice A1_1 l1_1.length c1_1):=hS_
       refine norm_ (a':=?_) ?_ ?_
       rotate_left
       ·simp only [putAll,Act.put,sB,sZ,sS]
        rfl
       refine one_ (i:=4) (N:=some 7) #[true,true,true,true,true,true,false,false] rfl rfl (one_of HT_.out (by kernel_rfl)) (by decide) (fun K hK=>?_)
       refine box_step ?hg (N:=7) ?hd (cs:=#[.int .u32 0,.slice none 0 0]) (t:=30) ?hr ?_;(case hd=>rfl);(case hg=>rfl);(case hr=>first|(go_simp;done)|(go_simp;rfl))
       intro gb213 hg w37 hbox hb
       have n0_:=Aside0.mk (Kd.R_below (by (with_reducible repeat (first|apply Kd.R_alloc|apply Kd.R_drewN|apply Kd.R_drew));exact HO208.out) hb)
       have n1_:=Aside0.mk (Kd.R_below (by (with_reducible repeat (first|apply Kd.R_alloc|apply Kd.R_drewN|apply Kd.R_drew));exact HO212.out) hb)
       have n2_:=Aside0.mk (blk_below (g:=gb200) (o:=.cells #[.int .u32 a0_0,.slice A0_1 l0_1.length c0_1] 25 (0,0)) (by (with_reducible repeat (first|apply blk_drewN|apply blk_drew|apply blk_alloc));exact BK200.out) hb)
       have n3_:=Aside0.mk (blk_below (g:=gb201) (o:=.cells #[.int .u32 a1_0,.slice A1_1 l1_1.length c1_1] 25 (0,0)) (by (with_reducible repeat (first|apply blk_drewN|apply blk_drew|apply blk_alloc));exact BK201.out) hb)
       have n4_:=Aside0.mk (blk_below (g:=gb214) (o:=.cells #[.int .u32 0,.slice none 0 0] 30 (0,0)) (by (with_reducible repeat (first|apply blk_drewN|apply blk_drew|apply blk_alloc));exact BK214.out) hb)
       have n5_:=Aside0.mk (below_step (by repeat (first|(with_reducible first|exact HB.out|apply below_alloc|apply pw_below_drewN|apply below_drew1|refine below_set ?_ GE200.out|refine below_set ?_ GE201.out|refine below_set ?_ GE214.out)|exact HB.out)) hb)
       have n6_:=Aside0.mk (hbox)
       have n7_:=Aside0.mk ((by rw [hg];exact (below_size (by repeat (first|(with_reducible first|exact HB.out|apply below_alloc|apply pw_below_drewN|apply below_drew1|refine below_set ?_ GE200.out|refine below_set ?_ GE201.out|refine below_set ?_ GE214.out)|exact HB.out))) : w.heap.size ≤ gb213))
       have n8_:=Aside0.mk ((by rw [hg];exact (below_size (by repeat (first|(with_reducible first|exact HB.out|apply below_alloc|apply pw_below_drewN|apply below_drew1|refine below_set ?_ GE200.out|refine below_set ?_ GE201.out|refine below_set ?_ GE214.out)|exact HB.out))) : w.heap.size ≤ gb213))
       have n9_:=Aside0.mk ((by rw [hg];exact Nat.ne_of_lt (blk_lt (g:=gb200) (o:=.cells #[.int .u32 a0_0,.slice A0_1 l0_1.length c0_1] 25 (0,0)) (by (with_reducible repeat (first|apply blk_drewN|apply blk_drew|apply blk_alloc));exact BK200.out)) : gb200 ≠ gb213))
       have n10_:=Aside0.mk ((by rw [hg];exact Nat.ne_of_gt (blk_lt (g:=gb200) (o:=.cells #[.int .u32 a0_0,.slice A0_1 l0_1.length c0_1] 25 (0,0)) (by (with_reducible repeat (first|apply blk_drewN|apply blk_drew|apply blk_alloc));exact BK200.out)) : gb213 ≠ gb200))
       have n11_:=Aside0.mk ((by rw [hg];exact Nat.ne_of_lt (blk_lt (g:=gb201) (o:=.cells #[.int .u32 a1_0,.slice A1_1 l1_1.length c1_1] 25 (0,0)) (by (with_reducible repeat (first|apply blk_drewN|apply blk_drew|apply blk_alloc));exact BK201.out)) : gb201 ≠ gb213))
       have n12_:=Aside0.mk ((by rw [hg];exact Nat.ne_of_gt (blk_lt (g:=gb201) (o:=.cells #[.int .u32 a1_0,.slice A1_1 l1_1.length c1_1] 25 (0,0)) (by (with_reducible repeat (first|apply blk_drewN|apply blk_drew|apply blk_alloc));exact BK201.out)) : gb213 ≠ gb201))
       have n13_:=Aside0.mk ((by rw [hg];exact Nat.ne_of_lt (blk_lt (g:=gb214) (o:=.cells #[.int .u32 0,.slice none 0 0] 30 (0,0)) (by (with_reducible repeat (first|apply blk_drewN|apply blk_drew|apply blk_alloc));exact BK214.out)) : gb214 ≠ gb213))
       have n14_:=Aside0.mk ((by rw [hg];exact Nat.ne_of_gt (blk_lt (g:=gb214) (o:=.cells #[.int .u32 0,.slice none 0 0] 30 (0,0)) (by (with_reducible repeat (first|apply blk_drewN|apply blk_drew|apply blk_alloc));exact BK214.out)) : gb213 ≠ gb214))
       clear HO208
       clear HO212
       clear BK200
       clear BK201
       clear BK214
       clear HB
       have HO208:=n0_
       have HO212:=n1_
       have BK200:=n2_
       have BK201:=n3_
       have BK214:=n4_
       have HB:=n5_
       have BK213:=n6_
       have GW213:=n7_
       have GE213:=n8_
       have NB200_213:=n9_
       have NB213_200:=n10_
       have NB201_213:=n11_
       have NB213_201:=n12_
       have NB214_213:=n13_
       have NB213_214:=n14_
       clear n0_ n1_ n2_ n3_ n4_ n5_ n6_ n7_ n8_ n9_ n10_ n11_ n12_ n13_ n14_
       clear hb hbox hg
       refine hK.out _ _ ⟨(blk_cell BK200.out 0).trans rfl,(blk_cell BK200.out 1).trans rfl,(blk_cell BK201.out 0).trans rfl,(blk_cell BK201.out 1).trans rfl⟩ (fun hHeld=>?_)
       clear hK K
       refine norm_ (a':=?_) ?_ ?_
       rotate_left
       ·show Act.put _ (some 7) _ = _
        simp only [Act.put,sB,sZ,sS,i64_w,i32_w]
        rfl
       exact norm_ (by first|(simp only [putAll,Act.put,sB,sZ,sS];done)|(simp only [putAll,Act.put,sB,sZ,sS];rfl)) (hJ1_3_4_5 (v207,v211,gb213,gb214) _ ⟨hHeld,(by (with_reducible repeat (first|apply Kd.R_alloc|apply Kd.R_drewN|apply Kd.R_drew));exact HO208.out),(by (with_reducible repeat (first|apply Kd.R_alloc|apply Kd.R_drewN|apply Kd.R_drew));exact HO212.out),(by (with_reducible repeat (first|apply blk_drewN|apply blk_drew|apply blk_alloc));exact BK200.out),(by (with_reducible repeat (first|apply blk_drewN|apply blk_drew|apply blk_alloc));exact BK201.out),(by (with_reducible repeat (first|apply blk_drewN|apply blk_drew|apply blk_alloc));exact BK213.out),(by (with_reducible repeat (first|apply blk_drewN|apply blk_drew|apply blk_alloc));exact BK214.out),GW213.out,GE213.out,NB200_213.out,NB213_200.out,NB201_213.out,NB213_201.out,NB214_213.out,NB213_214.out,GW214.out,GE214.out,NB200_214.out,NB214_200.out,NB201_214.out,NB214_201.out,(by repeat (first|(with_reducible first|exact HB.out|apply below_alloc|apply pw_below_drewN|apply below_drew1|refine below_set ?_ GE200.out|refine below_set ?_ GE201.out|refine below_set ?_ GE214.out|refine below_set ?_ GE213.out)|exact HB.out))⟩)
     ·skip
      rintro ⟨v207,v211,gb213⟩ w36 ⟨hS_,h0_,h1_,h2_,h3_,h4_,h5_,h6_,h7_,h8_,h9_,h10_,h11_⟩
      have n0_ : Aside0 (Kd.R k67 67 w36 w.heap.size (fun k_=>some k_ ≠ (v211 : Value).ownBlock) v207 t206):=⟨h0_⟩
      have n1_ : Aside0 (Kd.R k67 67 w36 w.heap.size (fun k_=>some k_ ≠ (v207 : Value).ownBlock) v211 t210):=⟨h1_⟩
      have n2_ : Aside0 (w36.heap[gb200]? = some (.cells #[.int .u32 a0_0,.slice A0_1 l0_1.length c0_1] 25 (0,0))):=⟨h2_⟩
      have n3_ : Aside0 (w36.heap[gb201]? = some (.cells #[.int .u32 a1_0,.slice A1_1 l1_1.length c1_1] 25 (0,0))):=⟨h3_⟩
      have n4_ : Aside0 (w36.heap[gb213]? = some (.cells #[.int .u32 0,.slice none 0 0] 30 (0,0))):=⟨h4_⟩
      have n5_ : Aside0 (w.heap.size ≤ gb213):=⟨h5_⟩
      have n6_ : Aside0 (w.heap.size ≤ gb213):=⟨h6_⟩
      have n7_ : Aside0 (gb200 ≠ gb213):=⟨h7_⟩
      have n8_ : Aside0 (gb213 ≠ gb200):=⟨h8_⟩
      have n9_ : Aside0 (gb201 ≠ gb213):=⟨h9_⟩
      have n10_ : Aside0 (gb213 ≠ gb201):=⟨h10_⟩
      have n11_ : Aside0 (Below w.heap.size w w36):=⟨h11_⟩
      clear BK200
      clear BK201
      clear HB
      clear h0_ h1_ h2_ h3_ h4_ h5_ h6_ h7_ h8_ h9_ h10_ h11_
      have HO208:=n0_
      have HO212:=n1_
      have BK200:=n2_
      have BK201:=n3_
      have BK213:=n4_
      have GW213:=n5_
      have GE213:=n6_
      have NB200_213:=n7_
      have NB213_200:=n8_
      have NB201_213:=n9_
      have NB213_201:=n10_
      have HB:=n11_
      clear n0_ n1_ n2_ n3_ n4_ n5_ n6_ n7_ n8_ n9_ n10_ n11_
      have hHeld : w36.cell? ⟨gb200,0,none⟩ = some (.int .u32 a0_0) ∧ w36.cell? ⟨gb200,1,none⟩ = some (.slice A0_1 l0_1.length c0_1) ∧ w36.cell? ⟨gb201,0,none⟩ = some (.int .u32 a1_0) ∧ w36.cell? ⟨gb201,1,none⟩ = some (.slice A1_1 l1_1.length c1_1):=hS_
      refine norm_ (a':=?_) ?_ ?_
      rotate_left
      ·simp only [putAll,Act.put,sB,sZ,sS]
       rfl
      refine one_ (i:=5) (N:=some 8) #[true,true,true,true,true,true,false,false] rfl rfl (one_of HT_.out (by kernel_rfl)) (by decide) (fun K hK=>?_)
      refine box_step ?hg (N:=8) ?hd (cs:=#[.int .u32 0,.slice none 0 0]) (t:=30) ?hr ?_;(case hd=>rfl);(case hg=>rfl);(case hr=>first|(go_simp;done)|(go_simp;rfl))
      intro gb214 hg w37 hbox hb
      have n0_:=Aside0.mk (Kd.R_below (by (with_reducible repeat (first|apply Kd.R_alloc|apply Kd.R_drewN|apply Kd.R_drew));exact HO208.out) hb)
      have n1_:=Aside0.mk (Kd.R_below (by (with_reducible repeat (first|apply Kd.R_alloc|apply Kd.R_drewN|apply Kd.R_drew));exact HO212.out) hb)
      have n2_:=Aside0.mk (blk_below (g:=gb200) (o:=.cells #[.int .u32 a0_0,.slice A0_1 l0_1.length c0_1] 25 (0,0)) (by (with_reducible repeat (first|apply blk_drewN|apply blk_drew|apply blk_alloc));exact BK200.out) hb)
      have n3_:=Aside0.mk (blk_below (g:=gb201) (o:=.cells #[.int .u32 a1_0,.slice A1_1 l1_1.length c1_1] 25 (0,0)) (by (with_reducible repeat (first|apply blk_drewN|apply blk_drew|apply blk_alloc));exact BK201.out) hb)
      have n4_:=Aside0.mk (blk_below (g:=gb213) (o:=.cells #[.int .u32 0,.slice none 0 0] 30 (0,0)) (by (with_reducible repeat (first|apply blk_drewN|apply blk_drew|apply blk_alloc));exact BK213.out) hb)
      have n5_:=Aside0.mk (below_step (by repeat (first|(with_reducible first|exact HB.out|apply below_alloc|apply pw_below_drewN|apply below_drew1|refine below_set ?_ GE200.out|refine below_set ?_ GE201.out|refine below_set ?_ GE213.out)|exact HB.out)) hb)
      have n6_:=Aside0.mk (hbox)
      have n7_:=Aside0.mk ((by rw [hg];exact (below_size (by repeat (first|(with_reducible first|exact HB.out|apply below_alloc|apply pw_below_drewN|apply below_drew1|refine below_set ?_ GE200.out|refine below_set ?_ GE201.out|refine below_set ?_ GE213.out)|exact HB.out))) : w.heap.size ≤ gb214))
      have n8_:=Aside0.mk ((by rw [hg];exact (below_size (by repeat (first|(with_reducible first|exact HB.out|apply below_alloc|apply pw_below_drewN|apply below_drew1|refine below_set ?_ GE200.out|refine below_set ?_ GE201.out|refine below_set ?_ GE213.out)|exact HB.out))) : w.heap.size ≤ gb214))
      have n9_:=Aside0.mk ((by rw [hg];exact Nat.ne_of_lt (blk_lt (g:=gb200) (o:=.cells #[.int .u32 a0_0,.slice A0_1 l0_1.length c0_1] 25 (0,0)) (by (with_reducible repeat (first|apply blk_drewN|apply blk_drew|apply blk_alloc));exact BK200.out)) : gb200 ≠ gb214))
      have n10_:=Aside0.mk ((by rw [hg];exact Nat.ne_of_gt (blk_lt (g:=gb200) (o:=.cells #[.int .u32 a0_0,.slice A0_1 l0_1.length c0_1] 25 (0,0)) (by (with_reducible repeat (first|apply blk_drewN|apply blk_drew|apply blk_alloc));exact BK200.out)) : gb214 ≠ gb200))
      have n11_:=Aside0.mk ((by rw [hg];exact Nat.ne_of_lt (blk_lt (g:=gb201) (o:=.cells #[.int .u32 a1_0,.slice A1_1 l1_1.length c1_1] 25 (0,0)) (by (with_reducible repeat (first|apply blk_drewN|apply blk_drew|apply blk_alloc));exact BK201.out)) : gb201 ≠ gb214))
      have n12_:=Aside0.mk ((by rw [hg];exact Nat.ne_of_gt (blk_lt (g:=gb201) (o:=.cells #[.int .u32 a1_0,.slice A1_1 l1_1.length c1_1] 25 (0,0)) (by (with_reducible repeat (first|apply blk_drewN|apply blk_drew|apply blk_alloc));exact BK201.out)) : gb214 ≠ gb201))
      have n13_:=Aside0.mk ((by rw [hg];exact Nat.ne_of_lt (blk_lt (g:=gb213) (o:=.cells #[.int .u32 0,.slice none 0 0] 30 (0,0)) (by (with_reducible repeat (first|apply blk_drewN|apply blk_drew|apply blk_alloc));exact BK213.out)) : gb213 ≠ gb214))
      have n14_:=Aside0.mk ((by rw [hg];exact Nat.ne_of_gt (blk_lt (g:=gb213) (o:=.cells #[.int .u32 0,.slice none 0 0] 30 (0,0)) (by (with_reducible repeat (first|apply blk_drewN|apply blk_drew|apply blk_alloc));exact BK213.out)) : gb214 ≠ gb213))
      clear HO208
      clear HO212
      clear BK200
      clear BK201
      clear BK213
      clear HB
      have HO208:=n0_
      have HO212:=n1_
      have BK200:=n2_
      have BK201:=n3_
      have BK213:=n4_
      have HB:=n5_
      have BK214:=n6_
      have GW214:=n7_
      have GE214:=n8_
      have NB200_214:=n9_
      have NB214_200:=n10_
      have NB201_214:=n11_
      have NB214_201:=n12_
      have NB213_214:=n13_
      have NB214_213:=n14_
      clear n0_ n1_ n2_ n3_ n4_ n5_ n6_ n7_ n8_ n9_ n10_ n11_ n12_ n13_ n14_
      clear hb hbox hg
      refine hK.out _ _ ⟨(blk_cell BK200.out 0).trans rfl,(blk_cell BK200.out 1).trans rfl,(blk_cell BK201.out 0).trans rfl,(blk_cell BK201.out 1).trans rfl⟩ (fun hHeld=>?_)
      clear hK K
      refine norm_ (a':=?_) ?_ ?_
      rotate_left
      ·show Act.put _ (some 8) _ = _
       simp only [Act.put,sB,sZ,sS,i64_w,i32_w]
       rfl
      exact norm_ (by first|(simp only [putAll,Act.put,sB,sZ,sS];done)|(simp only [putAll,Act.put,sB,sZ,sS];rfl)) (hJ1_3_4_5 (v207,v211,gb213,gb214) _ ⟨hHeld,(by (with_reducible repeat (first|apply Kd.R_alloc|apply Kd.R_drewN|apply Kd.R_drew));exact HO208.out),(by (with_reducible repeat (first|apply Kd.R_alloc|apply Kd.R_drewN|apply Kd.R_drew));exact HO212.out),(by (with_reducible repeat (first|apply blk_drewN|apply blk_drew|apply blk_alloc));exact BK200.out),(by (with_reducible repeat (first|apply blk_drewN|apply blk_drew|apply blk_alloc));exact BK201.out),(by (with_reducible repeat (first|apply blk_drewN|apply blk_drew|apply blk_alloc));exact BK213.out),(by (with_reducible repeat (first|apply blk_drewN|apply blk_drew|apply blk_alloc));exact BK214.out),GW213.out,GE213.out,NB200_213.out,NB213_200.out,NB201_213.out,NB213_201.out,NB214_213.out,NB213_214.out,GW214.out,GE214.out,NB200_214.out,NB214_200.out,NB201_214.out,NB214_201.out,(by repeat (first|(with_reducible first|exact HB.out|apply below_alloc|apply pw_below_drewN|apply below_drew1|refine below_set ?_ GE200.out|refine below_set ?_ GE201.out|refine below_set ?_ GE213.out|refine below_set ?_ GE214.out)|exact HB.out))⟩)
    rintro ⟨v207,v211,gb213,gb214⟩ w37 ⟨hS_,h0_,h1_,h2_,h3_,h4_,h5_,h6_,h7_,h8_,h9_,h10_,h11_,h12_,h13_,h14_,h15_,h16_,h17_,h18_,h19_,h20_⟩
    have n0_ : Aside0 (Kd.R k67 67 w37 w.heap.size (fun k_=>some k_ ≠ (v211 : Value).ownBlock) v207 t206):=⟨h0_⟩
    have n1_ : Aside0 (Kd.R k67 67 w37 w.heap.size (fun k_=>some k_ ≠ (v207 : Value).ownBlock) v211 t210):=⟨h1_⟩
    have n2_ : Aside0 (w37.heap[gb200]? = some (.cells #[.int .u32 a0_0,.slice A0_1 l0_1.length c0_1] 25 (0,0))):=⟨h2_⟩
    have n3_ : Aside0 (w37.heap[gb201]? = some (.cells #[.int .u32 a1_0,.slice A1_1 l1_1.length c1_1] 25 (0,0))):=⟨h3_⟩
    have n4_ : Aside0 (w37.heap[gb213]? = some (.cells #[.int .u32 0,.slice none 0 0] 30 (0,0))):=⟨h4_⟩
    have n5_ : Aside0 (w37.heap[gb214]? = some (.cells #[.int .u32 0,.slice none 0 0] 30 (0,0))):=⟨h5_⟩
    have n6_ : Aside0 (w.heap.size ≤ gb213):=⟨h6_⟩
    have n7_ : Aside0 (w.heap.size ≤ gb213):=⟨h7_⟩
    have n8_ : Aside0 (gb200 ≠ gb213):=⟨h8_⟩
    have n9_ : Aside0 (gb213 ≠ gb200):=⟨h9_⟩
    have n10_ : Aside0 (gb201 ≠ gb213):=⟨h10_⟩
    have n11_ : Aside0 (gb213 ≠ gb201):=⟨h11_⟩
    have n12_ : Aside0 (gb214 ≠ gb213):=⟨h12_⟩
    have n13_ : Aside0 (gb213 ≠ gb214):=⟨h13_⟩
    have n14_ : Aside0 (w.heap.size ≤ gb214):=⟨h14_⟩
    have n15_ : Aside0 (w.heap.size ≤ gb214):=⟨h15_⟩
    have n16_ : Aside0 (gb200 ≠ gb214):=⟨h16_⟩
    have n17_ : Aside0 (gb214 ≠ gb200):=⟨h17_⟩
    have n18_ : Aside0 (gb201 ≠ gb214):=⟨h18_⟩
    have n19_ : Aside0 (gb214 ≠ gb201):=⟨h19_⟩
    have n20_ : Aside0 (Below w.heap.size w w37):=⟨h20_⟩
    clear BK200
    clear BK201
    clear HB
    clear h0_ h1_ h2_ h3_ h4_ h5_ h6_ h7_ h8_ h9_ h10_ h11_ h12_ h13_ h14_ h15_ h16_ h17_ h18_ h19_ h20_
    have HO208:=n0_
    have HO212:=n1_
    have BK200:=n2_
    have BK201:=n3_
    have BK213:=n4_
    have BK214:=n5_
    have GW213:=n6_
    have GE213:=n7_
    have NB200_213:=n8_
    have NB213_200:=n9_
    have NB201_213:=n10_
    have NB213_201:=n11_
    have NB214_213:=n12_
    have NB213_214:=n13_
    have GW214:=n14_
    have GE214:=n15_
    have NB200_214:=n16_
    have NB214_200:=n17_
    have NB201_214:=n18_
    have NB214_201:=n19_
    have HB:=n20_
    clear n0_ n1_ n2_ n3_ n4_ n5_ n6_ n7_ n8_ n9_ n10_ n11_ n12_ n13_ n14_ n15_ n16_ n17_ n18_ n19_ n20_
    have hHeld : w37.cell? ⟨gb200,0,none⟩ = some (.int .u32 a0_0) ∧ w37.cell? ⟨gb200,1,none⟩ = some (.slice A0_1 l0_1.length c0_1) ∧ w37.cell? ⟨gb201,0,none⟩ = some (.int .u32 a1_0) ∧ w37.cell? ⟨gb201,1,none⟩ = some (.slice A1_1 l1_1.length c1_1):=hS_
    obtain ⟨Ao39,co39,eo39⟩:=Kd.R_slice HO208.out
    (first|subst eo39|(injection eo39 with f1_ f2_ f3_;have f4_:=f1_.symm;have f5_:=f3_.symm;clear f1_ f2_ f3_;subst f4_;subst f5_))
    obtain ⟨Ao42,co42,eo42⟩:=Kd.R_slice HO212.out
    (first|subst eo42|(injection eo42 with f1_ f2_ f3_;have f4_:=f1_.symm;have f5_:=f3_.symm;clear f1_ f2_ f3_;subst f4_;subst f5_))
    refine norm_ (a':=?_) ?_ ?_
    rotate_left
    ·simp only [putAll,Act.put,sB,sZ,sS]
     rfl
    refine one_ (i:=6) (N:=none) #[true,true,true,true,true,true,true,false] rfl rfl (one_of HT_.out (by kernel_rfl)) (by decide) (fun K hK=>?_)
    have hs38 : w37.cell? ⟨gb213,0,none⟩ = some (.int .u32 0):=(blk_cell BK213.out 0).trans rfl
    have hfs38:=blk_frozen BK213.out 0
    have hns38_0:=NB200_213.out
    have hns38_1:=NB201_213.out
    have hns38_3:=NB214_213.out
    have hms38_0:=NB213_200.out
    have hms38_1:=NB213_201.out
    have hms38_3:=NB213_214.out
    have hs40 : w37.cell? ⟨gb213,1,none⟩ = some (.slice none 0 0):=(blk_cell BK213.out 1).trans rfl
    have hfs40:=blk_frozen BK213.out 1
    have hns40_0:=NB200_213.out
    have hns40_1:=NB201_213.out
    have hns40_3:=NB214_213.out
    have hms40_0:=NB213_200.out
    have hms40_1:=NB213_201.out
    have hms40_3:=NB213_214.out
    refine skip_ (w1:=?_) (by rfl) rfl ?_ ?_
    rotate_left
    ·go_simp
     rfl
    refine hK.out _ _ ⟨((cell_far (p:=⟨gb213,_,none⟩) NB200_213.out _).trans (((cell_far (p:=⟨gb213,_,none⟩) NB200_213.out _).trans (hHeld.1)))),((cell_far (p:=⟨gb213,_,none⟩) NB200_213.out _).trans (((cell_far (p:=⟨gb213,_,none⟩) NB200_213.out _).trans (hHeld.2.1)))),((cell_far (p:=⟨gb213,_,none⟩) NB201_213.out _).trans (((cell_far (p:=⟨gb213,_,none⟩) NB201_213.out _).trans (hHeld.2.2.1)))),((cell_far (p:=⟨gb213,_,none⟩) NB201_213.out _).trans (((cell_far (p:=⟨gb213,_,none⟩) NB201_213.out _).trans (hHeld.2.2.2))))⟩ (fun hHeld=>?_)
    clear hK K
    refine one_ (i:=7) (N:=none) #[true,true,true,true,true,true,true,true] rfl rfl (one_of HT_.out (by kernel_rfl)) (by decide) (fun K hK=>?_)
    have hs41 : w37.cell? ⟨gb214,0,none⟩ = some (.int .u32 0):=(blk_cell BK214.out 0).trans rfl
    have hfs41:=blk_frozen BK214.out 0
    have hns41_0:=NB200_214.out
    have hns41_1:=NB201_214.out
    have hns41_2:=NB213_214.out
    have hms41_0:=NB214_200.out
    have hms41_1:=NB214_201.out
    have hms41_2:=NB214_213.out
    have hs43 : w37.cell? ⟨gb214,1,none⟩ = some (.slice none 0 0):=(blk_cell BK214.out 1).trans rfl
    have hfs43:=blk_frozen BK214.out 1
    have hns43_0:=NB200_214.out
    have hns43_1:=NB201_214.out
    have hns43_2:=NB213_214.out
    have hms43_0:=NB214_200.out
    have hms43_1:=NB214_201.out
    have hms43_2:=NB214_213.out
    refine skip_ (w1:=?_) (by rfl) rfl ?_ ?_
    rotate_left
    ·go_simp
     rfl
    refine hK.out _ _ ⟨((cell_far (p:=⟨gb214,_,none⟩) NB200_214.out _).trans (((cell_far (p:=⟨gb214,_,none⟩) NB200_214.out _).trans (hHeld.1)))),((cell_far (p:=⟨gb214,_,none⟩) NB200_214.out _).trans (((cell_far (p:=⟨gb214,_,none⟩) NB200_214.out _).trans (hHeld.2.1)))),((cell_far (p:=⟨gb214,_,none⟩) NB201_214.out _).trans (((cell_far (p:=⟨gb214,_,none⟩) NB201_214.out _).trans (hHeld.2.2.1)))),((cell_far (p:=⟨gb214,_,none⟩) NB201_214.out _).trans (((cell_far (p:=⟨gb214,_,none⟩) NB201_214.out _).trans (hHeld.2.2.2))))⟩ (fun hHeld=>?_)
    clear hK K
    refine done_ (done_of HT_.out (by kernel_rfl)) ?_
    have hnb44:=NB213_200.out
    have hnc44:=NB200_213.out
    have hnb45:=NB213_201.out
    have hnc45:=NB201_213.out
    have hnb46:=NB213_214.out
    have hnc46:=NB214_213.out
    have hcz47_0 : w37.cell? ⟨gb213,0,none⟩ = some (.int .u32 0):=(blk_cell BK213.out 0).trans rfl
    have hcz47_1 : w37.cell? ⟨gb213,1,none⟩ = some (.slice none 0 0):=(blk_cell BK213.out 1).trans rfl
    have hfz47_0:=blk_frozen BK213.out 0
    have hfz47_1:=blk_frozen BK213.out 1
    go_upto_region 6 with (first|((with_reducible refine gate_callee (f:=12) rfl ?_);refine goesL_ (some 31) rfl rfl Tryd.func12 (by kernel_rfl) rfl #[.agg #[.int .u32 t205,.slice Ao39 t206.length co39]] rfl (by (try simp only [List.map_toArray,List.map_cons,List.map_nil]);first|done|rfl|(simp only [List.length_drop,List.length_take];rfl)|(simp (disch:=first|omega|(simp at *;omega)) only [u64_id,i64_id,u8_id];rfl)) ?_;(with_reducible refine (bosunref17_Check.calls kj3 t205 _ _ t206 t215 _ ?side1 ?side2 A29.out).mono ?_);(case side1=>refine (Kd.R_reads' (e:=67) (base:=w.heap.size) (ok:=fun k_=>some k_ ≠ (.slice Ao42 t210.length co42 : Value).ownBlock) (n:=t206.length) (c:=co39) ?_).2.2;exact (by (with_reducible repeat (first|apply Kd.R_alloc|apply Kd.R_drewN|apply Kd.R_drew));exact (Kd.R_mono (Kd.R_mono (Kd.R_far (p:=⟨gb214,1,none⟩) (Kd.R_far (p:=⟨gb214,0,none⟩) (Kd.R_far (p:=⟨gb213,1,none⟩) (Kd.R_far (p:=⟨gb213,0,none⟩) (Kd.R_types (Kd.R_types HO208.out BK213.out (by decide)) BK214.out (by decide)) (fun _ hk=>hk.1.2) (.int .u32 t205)) (fun _ hk=>hk.1.2) (.slice Ao39 t206.length co39)) (fun _ hk=>hk.2) (.int .u32 t209)) (fun _ hk=>hk.2) (.slice Ao42 t210.length co42)) (fun _ h_=>h_.1)) (fun _ h_=>h_.1))));(case side2=>exact (Kd.R_reads' HO208.out).2.1);rintro e w48 ⟨rfl,hb⟩;refine ⟨_,rfl,?_⟩;have n0_:=Aside0.mk (Kd.R_below (by (with_reducible repeat (first|apply Kd.R_alloc|apply Kd.R_drewN|apply Kd.R_drew));exact (Kd.R_mono (Kd.R_mono (Kd.R_far (p:=⟨gb214,1,none⟩) (Kd.R_far (p:=⟨gb214,0,none⟩) (Kd.R_far (p:=⟨gb213,1,none⟩) (Kd.R_far (p:=⟨gb213,0,none⟩) (Kd.R_types (Kd.R_types HO208.out BK213.out (by decide)) BK214.out (by decide)) (fun _ hk=>hk.1.2) (.int .u32 t205)) (fun _ hk=>hk.1.2) (.slice Ao39 t206.length co39)) (fun _ hk=>hk.2) (.int .u32 t209)) (fun _ hk=>hk.2) (.slice Ao42 t210.length co42)) (fun _ h_=>h_.1)) (fun _ h_=>h_.1))) hb);have n1_:=Aside0.mk (Kd.R_below (by (with_reducible repeat (first|apply Kd.R_alloc|apply Kd.R_drewN|apply Kd.R_drew));exact (Kd.R_mono (Kd.R_mono (Kd.R_far (p:=⟨gb214,1,none⟩) (Kd.R_far (p:=⟨gb214,0,none⟩) (Kd.R_far (p:=⟨gb213,1,none⟩) (Kd.R_far (p:=⟨gb213,0,none⟩) (Kd.R_types (Kd.R_types HO212.out BK213.out (by decide)) BK214.out (by decide)) (fun _ hk=>hk.1.2) (.int .u32 t205)) (fun _ hk=>hk.1.2) (.slice Ao39 t206.length co39)) (fun _ hk=>hk.2) (.int .u32 t209)) (fun _ hk=>hk.2) (.slice Ao42 t210.length co42)) (fun _ h_=>h_.1)) (fun _ h_=>h_.1))) hb);have n2_:=Aside0.mk (blk_below (g:=gb200) (o:=.cells #[.int .u32 a0_0,.slice A0_1 l0_1.length c0_1] 25 (0,0)) (by (with_reducible repeat (first|apply blk_drewN|apply blk_drew|apply blk_alloc));refine blk_far ?_ NB200_214.out _;(with_reducible repeat (first|apply blk_drewN|apply blk_drew|apply blk_alloc));refine blk_far ?_ NB200_214.out _;(with_reducible repeat (first|apply blk_drewN|apply blk_drew|apply blk_alloc));refine blk_far ?_ NB200_213.out _;(with_reducible repeat (first|apply blk_drewN|apply blk_drew|apply blk_alloc));refine blk_far ?_ NB200_213.out _;(with_reducible repeat (first|apply blk_drewN|apply blk_drew|apply blk_alloc));exact BK200.out) hb);have n3_:=Aside0.mk (blk_below (g:=gb201) (o:=.cells #[.int .u32 a1_0,.slice A1_1 l1_1.length c1_1] 25 (0,0)) (by (with_reducible repeat (first|apply blk_drewN|apply blk_drew|apply blk_alloc));refine blk_far ?_ NB201_214.out _;(with_reducible repeat (first|apply blk_drewN|apply blk_drew|apply blk_alloc));refine blk_far ?_ NB201_214.out _;(with_reducible repeat (first|apply blk_drewN|apply blk_drew|apply blk_alloc));refine blk_far ?_ NB201_213.out _;(with_reducible repeat (first|apply blk_drewN|apply blk_drew|apply blk_alloc));refine blk_far ?_ NB201_213.out _;(with_reducible repeat (first|apply blk_drewN|apply blk_drew|apply blk_alloc));exact BK201.out) hb);have n4_:=Aside0.mk (blk_below (g:=gb213) (o:=.cells #[.int .u32 t205,.slice Ao39 t206.length co39] 30 (0,0)) (by (with_reducible repeat (first|apply blk_drewN|apply blk_drew|apply blk_alloc));refine blk_far ?_ NB213_214.out _;(with_reducible repeat (first|apply blk_drewN|apply blk_drew|apply blk_alloc));refine blk_far ?_ NB213_214.out _;(with_reducible repeat (first|apply blk_drewN|apply blk_drew|apply blk_alloc));refine blk_put (cs:=#[.int .u32 t205,.slice none 0 0]) ?_ 1 _ rfl;(with_reducible repeat (first|apply blk_drewN|apply blk_drew|apply blk_alloc));refine blk_put (cs:=#[.int .u32 0,.slice none 0 0]) ?_ 0 _ rfl;(with_reducible repeat (first|apply blk_drewN|apply blk_drew|apply blk_alloc));exact BK213.out) hb);have n5_:=Aside0.mk (blk_below (g:=gb214) (o:=.cells #[.int .u32 t209,.slice Ao42 t210.length co42] 30 (0,0)) (by (with_reducible repeat (first|apply blk_drewN|apply blk_drew|apply blk_alloc));refine blk_put (cs:=#[.int .u32 t209,.slice none 0 0]) ?_ 1 _ rfl;(with_reducible repeat (first|apply blk_drewN|apply blk_drew|apply blk_alloc));refine blk_put (cs:=#[.int .u32 0,.slice none 0 0]) ?_ 0 _ rfl;(with_reducible repeat (first|apply blk_drewN|apply blk_drew|apply blk_alloc));refine blk_far ?_ NB214_213.out _;(with_reducible repeat (first|apply blk_drewN|apply blk_drew|apply blk_alloc));refine blk_far ?_ NB214_213.out _;(with_reducible repeat (first|apply blk_drewN|apply blk_drew|apply blk_alloc));exact BK214.out) hb);have n6_:=Aside0.mk (below_step (by repeat (first|(with_reducible first|exact HB.out|apply below_alloc|apply pw_below_drewN|apply below_drew1|refine below_set ?_ GE200.out|refine below_set ?_ GE201.out|refine below_set ?_ GE213.out|refine below_set ?_ GE214.out)|exact HB.out)) hb);clear HO208;clear HO212;clear BK200;clear BK201;clear BK213;clear BK214;clear HB;have HO208:=n0_;have HO212:=n1_;have BK200:=n2_;have BK201:=n3_;have BK213:=n4_;have BK214:=n5_;have HB:=n6_;clear n0_ n1_ n2_ n3_ n4_ n5_ n6_;(try clear hb);(try clear hb2);(try clear hk);(try clear hi);have hnb49:=NB200_201.out;have hnc49:=NB201_200.out;have hnb50:=NB200_214.out;have hnc50:=NB214_200.out;have hcz51_0 : w48.cell? ⟨gb200,0,none⟩ = some (.int .u32 a0_0):=(blk_cell BK200.out 0).trans rfl;have hcz51_1 : w48.cell? ⟨gb200,1,none⟩ = some (.slice A0_1 l0_1.length c0_1):=(blk_cell BK200.out 1).trans rfl;have hfz51_0:=blk_frozen BK200.out 0;have hfz51_1:=blk_frozen BK200.out 1)|((with_reducible refine gate_callee (f:=13) rfl ?_);refine goesL_ (some 34) rfl rfl Tryd.func13 (by kernel_rfl) rfl #[.agg #[.int .u32 a0_0,.slice A0_1 l0_1.length c0_1]] rfl (by (try simp only [List.map_toArray,List.map_cons,List.map_nil]);first|done|rfl|(simp only [List.length_drop,List.length_take];rfl)|(simp (disch:=first|omega|(simp at *;omega)) only [u64_id,i64_id,u8_id];rfl)) ?_;(with_reducible refine (ckone_Encode.calls kj3 a0_0 _ _ l0_1 t216 t217 _ ?side1 ?side2 A30.out).mono ?_);(case side1=>repeat (first|exact (Kd.C_below HR0_1.out HB.out)|(with_reducible refine Kd.C_alloc ?_ _)|(with_reducible refine Kd.C_drewN ?_ _)|(with_reducible refine Kd.C_drew ?_)));(case side2=>exact HC0_1.out);rintro e w52 ⟨rfl,hb⟩;refine ⟨_,rfl,?_⟩;have n0_:=Aside0.mk (Kd.R_below (by (with_reducible repeat (first|apply Kd.R_alloc|apply Kd.R_drewN|apply Kd.R_drew));exact HO208.out) hb);have n1_:=Aside0.mk (Kd.R_below (by (with_reducible repeat (first|apply Kd.R_alloc|apply Kd.R_drewN|apply Kd.R_drew));exact HO212.out) hb);have n2_:=Aside0.mk (blk_below (g:=gb200) (o:=.cells #[.int .u32 a0_0,.slice A0_1 l0_1.length c0_1] 25 (0,0)) (by (with_reducible repeat (first|apply blk_drewN|apply blk_drew|apply blk_alloc));exact BK200.out) hb);have n3_:=Aside0.mk (blk_below (g:=gb201) (o:=.cells #[.int .u32 a1_0,.slice A1_1 l1_1.length c1_1] 25 (0,0)) (by (with_reducible repeat (first|apply blk_drewN|apply blk_drew|apply blk_alloc));exact BK201.out) hb);have n4_:=Aside0.mk (blk_below (g:=gb213) (o:=.cells #[.int .u32 t205,.slice Ao39 t206.length co39] 30 (0,0)) (by (with_reducible repeat (first|apply blk_drewN|apply blk_drew|apply blk_alloc));exact BK213.out) hb);have n5_:=Aside0.mk (blk_below (g:=gb214) (o:=.cells #[.int .u32 t209,.slice Ao42 t210.length co42] 30 (0,0)) (by (with_reducible repeat (first|apply blk_drewN|apply blk_drew|apply blk_alloc));exact BK214.out) hb);have n6_:=Aside0.mk (below_step (by repeat (first|(with_reducible first|exact HB.out|apply below_alloc|apply pw_below_drewN|apply below_drew1|refine below_set ?_ GE200.out|refine below_set ?_ GE201.out|refine below_set ?_ GE213.out|refine below_set ?_ GE214.out)|exact HB.out)) hb);clear HO208;clear HO212;clear BK200;clear BK201;clear BK213;clear BK214;clear HB;have HO208:=n0_;have HO212:=n1_;have BK200:=n2_;have BK201:=n3_;have BK213:=n4_;have BK214:=n5_;have HB:=n6_;clear n0_ n1_ n2_ n3_ n4_ n5_ n6_;(try clear hb);(try clear hb2);(try clear hk);(try clear hi)))
    (try simp only [Act.put,sB,sZ,sS])
    go_cut [63] (fun v63 wc=>∃ (kq : Nat) (x63_30 : Bool),v63 = .bool x63_30 ∧ Aside0 (bosunlaw17_CkoneCodes.j1 kq a2 x63_30 a0_0 l0_1 a1_0 l1_1 t205 t206 t209 t210 = some r) ∧ Aside0 (kq ≤ kj3) ∧ Aside0 (Kd.R k67 67 wc w.heap.size (fun k_=>some k_ ≠ ((.slice Ao42 t210.length co42) : Value).ownBlock) (.slice Ao39 t206.length co39) t206) ∧ Aside0 (Kd.R k67 67 wc w.heap.size (fun k_=>some k_ ≠ ((.slice Ao39 t206.length co39) : Value).ownBlock) (.slice Ao42 t210.length co42) t210) ∧ Aside0 (wc.heap[gb200]? = some (.cells #[.int .u32 a0_0,(.slice A0_1 l0_1.length c0_1)] 25 (0,0))) ∧ Aside0 (wc.heap[gb201]? = some (.cells #[.int .u32 a1_0,(.slice A1_1 l1_1.length c1_1)] 25 (0,0))) ∧ Aside0 (wc.heap[gb213]? = some (.cells #[.int .u32 t205,(.slice Ao39 t206.length co39)] 30 (0,0))) ∧ Aside0 (wc.heap[gb214]? = some (.cells #[.int .u32 t209,(.slice Ao42 t210.length co42)] 30 (0,0))) ∧ Aside0 (Below w.heap.size w wc))
    case first =>
     have H:=HC31.out
     clear HC31
     replace H:=Option.bind_eq_some_iff.mp H
     obtain ⟨t218,A530,H⟩:=H
     replace H : (if t218 = t215 then (if t217 = t215 then (if t215 = 0 then ((bosunref17_Bytes.f kj3 t205 t206).bind fun t219=>(if t216.toList = t219.toList then (bosunlaw17_CkoneCodes.j1 kj3 a2 false a0_0 l0_1 a1_0 l1_1 t205 t206 t209 t210) else (bosunlaw17_CkoneCodes.j1 kj3 a2 true a0_0 l0_1 a1_0 l1_1 t205 t206 t209 t210))) else (bosunlaw17_CkoneCodes.j1 kj3 a2 (t216.toList != ([] : List UInt8)) a0_0 l0_1 a1_0 l1_1 t205 t206 t209 t210)) else (bosunlaw17_CkoneCodes.j1 kj3 a2 true a0_0 l0_1 a1_0 l1_1 t205 t206 t209 t210)) else (bosunlaw17_CkoneCodes.j1 kj3 a2 true a0_0 l0_1 a1_0 l1_1 t205 t206 t209 t210)) = some r:=H
     have A53:=Aside0.mk A530
     clear A530
     by_cases c54 : t218 = t215
     ·rw [if_pos c54] at H
      have c54b0 : (t218 == t215) = true:=beq_iff_eq.mpr c54
      have c54b1 : (t218 != t215) = false:=bne_eq_false_iff_eq.mpr c54
      clear c54
      (first|rw [c54b0]|(simp only [i64_w,i32_w];rw [c54b0])|skip)
      by_cases c55 : t217 = t215
      ·rw [if_pos c55] at H
       have c55b0 : (t217 == t215) = true:=beq_iff_eq.mpr c55
       have c55b1 : (t217 != t215) = false:=bne_eq_false_iff_eq.mpr c55
       clear c55
       by_cases c56 : t215 = 0
       ·rw [if_pos c56] at H
        have c56b0 : (t215 == 0) = true:=beq_iff_eq.mpr c56
        have c56b1 : (t215 != 0) = false:=bne_eq_false_iff_eq.mpr c56
        clear c56
        replace H:=Option.bind_eq_some_iff.mp H
        obtain ⟨t219,A570,H⟩:=H
        replace H : (if t216.toList = t219.toList then (bosunlaw17_CkoneCodes.j1 kj3 a2 false a0_0 l0_1 a1_0 l1_1 t205 t206 t209 t210) else (bosunlaw17_CkoneCodes.j1 kj3 a2 true a0_0 l0_1 a1_0 l1_1 t205 t206 t209 t210)) = some r:=H
        have A57:=Aside0.mk A570
        clear A570
        by_cases c58 : t216.toList = t219.toList
        ·rw [if_pos c58] at H
         have c58b0 : (t216.toList == t219.toList) = true:=beq_iff_eq.mpr c58
         have c58b1 : (t216.toList != t219.toList) = false:=bne_eq_false_iff_eq.mpr c58
         clear c58
         have H':=Aside0.mk H
         clear H
         have hnb59:=NB200_201.out
         have hnc59:=NB201_200.out
         have hnb60:=NB200_213.out
         have hnc60:=NB213_200.out
         have hnb61:=NB200_214.out
         have hnc61:=NB214_200.out
         have hcz62_0 : w52.cell? ⟨gb200,0,none⟩ = some (.int .u32 a0_0):=(blk_cell BK200.out 0).trans rfl
         have hcz62_1 : w52.cell? ⟨gb200,1,none⟩ = some (.slice A0_1 l0_1.length c0_1):=(blk_cell BK200.out 1).trans rfl
         have hfz62_0:=blk_frozen BK200.out 0
         have hfz62_1:=blk_frozen BK200.out 1
         go_wp2_with (first|((with_reducible refine gate_callee (f:=14) rfl ?_);refine goesL_ (some 38) rfl rfl Tryd.func14 (by kernel_rfl) rfl #[.agg #[.int .u32 a0_0,.slice A0_1 l0_1.length c0_1]] rfl (by (try simp only [List.map_toArray,List.map_cons,List.map_nil]);first|done|rfl|(simp only [List.length_drop,List.length_take];rfl)|(simp (disch:=first|omega|(simp at *;omega)) only [u64_id,i64_id,u8_id];rfl)) ?_;(with_reducible refine (ckone_State_Check.calls kj3 a0_0 _ _ l0_1 t218 _ ?side1 ?side2 A53.out).mono ?_);(case side1=>repeat (first|exact (Kd.C_below HR0_1.out HB.out)|(with_reducible refine Kd.C_alloc ?_ _)|(with_reducible refine Kd.C_drewN ?_ _)|(with_reducible refine Kd.C_drew ?_)));(case side2=>exact HC0_1.out);rintro e w63 ⟨rfl,hb⟩;refine ⟨_,rfl,?_⟩;have n0_:=Aside0.mk (Kd.R_below (by (with_reducible repeat (first|apply Kd.R_alloc|apply Kd.R_drewN|apply Kd.R_drew));exact HO208.out) hb);have n1_:=Aside0.mk (Kd.R_below (by (with_reducible repeat (first|apply Kd.R_alloc|apply Kd.R_drewN|apply Kd.R_drew));exact HO212.out) hb);have n2_:=Aside0.mk (blk_below (g:=gb200) (o:=.cells #[.int .u32 a0_0,.slice A0_1 l0_1.length c0_1] 25 (0,0)) (by (with_reducible repeat (first|apply blk_drewN|apply blk_drew|apply blk_alloc));exact BK200.out) hb);have n3_:=Aside0.mk (blk_below (g:=gb201) (o:=.cells #[.int .u32 a1_0,.slice A1_1 l1_1.length c1_1] 25 (0,0)) (by (with_reducible repeat (first|apply blk_drewN|apply blk_drew|apply blk_alloc));exact BK201.out) hb);have n4_:=Aside0.mk (blk_below (g:=gb213) (o:=.cells #[.int .u32 t205,.slice Ao39 t206.length co39] 30 (0,0)) (by (with_reducible repeat (first|apply blk_drewN|apply blk_drew|apply blk_alloc));exact BK213.out) hb);have n5_:=Aside0.mk (blk_below (g:=gb214) (o:=.cells #[.int .u32 t209,.slice Ao42 t210.length co42] 30 (0,0)) (by (with_reducible repeat (first|apply blk_drewN|apply blk_drew|apply blk_alloc));exact BK214.out) hb);have n6_:=Aside0.mk (below_step (by repeat (first|(with_reducible first|exact HB.out|apply below_alloc|apply pw_below_drewN|apply below_drew1|refine below_set ?_ GE200.out|refine below_set ?_ GE201.out|refine below_set ?_ GE213.out|refine below_set ?_ GE214.out)|exact HB.out)) hb);clear HO208;clear HO212;clear BK200;clear BK201;clear BK213;clear BK214;clear HB;have HO208:=n0_;have HO212:=n1_;have BK200:=n2_;have BK201:=n3_;have BK213:=n4_;have BK214:=n5_;have HB:=n6_;clear n0_ n1_ n2_ n3_ n4_ n5_ n6_;(try clear hb);(try clear hb2);(try clear hk);(try clear hi);have hnb64:=NB213_201.out;have hnc64:=NB201_213.out;have hnb65:=NB213_214.out;have hnc65:=NB214_213.out;have hcz66_0 : w63.cell? ⟨gb213,0,none⟩ = some (.int .u32 t205):=(blk_cell BK213.out 0).trans rfl;have hcz66_1 : w63.cell? ⟨gb213,1,none⟩ = some (.slice Ao39 t206.length co39):=(blk_cell BK213.out 1).trans rfl;have hfz66_0:=blk_frozen BK213.out 0;have hfz66_1:=blk_frozen BK213.out 1)|(go_at_call 15;(with_reducible refine (bosunref17_Bytes.calls kj3 t205 _ _ t206 t219 _ ?side1 ?side2 A57.out).mono ?_);(case side1=>repeat (first|exact (Kd.R_reads' HO208.out).2.2|(with_reducible refine Kd.C_alloc ?_ _)|(with_reducible refine Kd.C_drewN ?_ _)|(with_reducible refine Kd.C_drew ?_)));(case side2=>exact (Kd.R_reads' HO208.out).2.1);rintro e w67 ⟨rfl,hb⟩;have n0_:=Aside0.mk (Kd.R_below (by (with_reducible repeat (first|apply Kd.R_alloc|apply Kd.R_drewN|apply Kd.R_drew));exact HO208.out) hb);have n1_:=Aside0.mk (Kd.R_below (by (with_reducible repeat (first|apply Kd.R_alloc|apply Kd.R_drewN|apply Kd.R_drew));exact HO212.out) hb);have n2_:=Aside0.mk (blk_below (g:=gb200) (o:=.cells #[.int .u32 a0_0,.slice A0_1 l0_1.length c0_1] 25 (0,0)) (by (with_reducible repeat (first|apply blk_drewN|apply blk_drew|apply blk_alloc));exact BK200.out) hb);have n3_:=Aside0.mk (blk_below (g:=gb201) (o:=.cells #[.int .u32 a1_0,.slice A1_1 l1_1.length c1_1] 25 (0,0)) (by (with_reducible repeat (first|apply blk_drewN|apply blk_drew|apply blk_alloc));exact BK201.out) hb);have n4_:=Aside0.mk (blk_below (g:=gb213) (o:=.cells #[.int .u32 t205,.slice Ao39 t206.length co39] 30 (0,0)) (by (with_reducible repeat (first|apply blk_drewN|apply blk_drew|apply blk_alloc));exact BK213.out) hb);have n5_:=Aside0.mk (blk_below (g:=gb214) (o:=.cells #[.int .u32 t209,.slice Ao42 t210.length co42] 30 (0,0)) (by (with_reducible repeat (first|apply blk_drewN|apply blk_drew|apply blk_alloc));exact BK214.out) hb);have n6_:=Aside0.mk (below_step (by repeat (first|(with_reducible first|exact HB.out|apply below_alloc|apply pw_below_drewN|apply below_drew1|refine below_set ?_ GE200.out|refine below_set ?_ GE201.out|refine below_set ?_ GE213.out|refine below_set ?_ GE214.out)|exact HB.out)) hb);clear HO208;clear HO212;clear BK200;clear BK201;clear BK213;clear BK214;clear HB;have HO208:=n0_;have HO212:=n1_;have BK200:=n2_;have BK201:=n3_;have BK213:=n4_;have BK214:=n5_;have HB:=n6_;clear n0_ n1_ n2_ n3_ n4_ n5_ n6_;(try clear hb);(try clear hb2);(try clear hk);(try clear hi)))
         go_meet
         case rel=>exact ⟨_,(false),(by first|rfl|(simp;done)|(simp [*];done)),H',⟨by have:=HJ3.out;first|omega|exact Nat.le_refl _⟩,⟨by (with_reducible repeat (first|apply Kd.R_alloc|apply Kd.R_drewN|apply Kd.R_drew));exact HO208.out⟩,⟨by (with_reducible repeat (first|apply Kd.R_alloc|apply Kd.R_drewN|apply Kd.R_drew));exact HO212.out⟩,⟨by (with_reducible repeat (first|apply blk_drewN|apply blk_drew|apply blk_alloc));exact BK200.out⟩,⟨by (with_reducible repeat (first|apply blk_drewN|apply blk_drew|apply blk_alloc));exact BK201.out⟩,⟨by (with_reducible repeat (first|apply blk_drewN|apply blk_drew|apply blk_alloc));exact BK213.out⟩,⟨by (with_reducible repeat (first|apply blk_drewN|apply blk_drew|apply blk_alloc));exact BK214.out⟩,⟨by repeat (first|(with_reducible first|exact HB.out|apply below_alloc|apply pw_below_drewN|apply below_drew1|refine below_set ?_ GE200.out|refine below_set ?_ GE201.out|refine below_set ?_ GE213.out|refine below_set ?_ GE214.out)|exact HB.out)⟩⟩
        ·rw [if_neg c58] at H
         have c58b0 : (t216.toList == t219.toList) = false:=beq_eq_false_iff_ne.mpr c58
         have c58b1 : (t216.toList != t219.toList) = true:=bne_iff_ne.mpr c58
         have H':=Aside0.mk H
         clear H
         have hnb68:=NB200_201.out
         have hnc68:=NB201_200.out
         have hnb69:=NB200_213.out
         have hnc69:=NB213_200.out
         have hnb70:=NB200_214.out
         have hnc70:=NB214_200.out
         have hcz71_0 : w52.cell? ⟨gb200,0,none⟩ = some (.int .u32 a0_0):=(blk_cell BK200.out 0).trans rfl
         have hcz71_1 : w52.cell? ⟨gb200,1,none⟩ = some (.slice A0_1 l0_1.length c0_1):=(blk_cell BK200.out 1).trans rfl
         have hfz71_0:=blk_frozen BK200.out 0
         have hfz71_1:=blk_frozen BK200.out 1
         go_wp2_with (first|((with_reducible refine gate_callee (f:=14) rfl ?_);refine goesL_ (some 38) rfl rfl Tryd.func14 (by kernel_rfl) rfl #[.agg #[.int .u32 a0_0,.slice A0_1 l0_1.length c0_1]] rfl (by (try simp only [List.map_toArray,List.map_cons,List.map_nil]);first|done|rfl|(simp only [List.length_drop,List.length_take];rfl)|(simp (disch:=first|omega|(simp at *;omega)) only [u64_id,i64_id,u8_id];rfl)) ?_;(with_reducible refine (ckone_State_Check.calls kj3 a0_0 _ _ l0_1 t218 _ ?side1 ?side2 A53.out).mono ?_);(case side1=>repeat (first|exact (Kd.C_below HR0_1.out HB.out)|(with_reducible refine Kd.C_alloc ?_ _)|(with_reducible refine Kd.C_drewN ?_ _)|(with_reducible refine Kd.C_drew ?_)));(case side2=>exact HC0_1.out);rintro e w72 ⟨rfl,hb⟩;refine ⟨_,rfl,?_⟩;have n0_:=Aside0.mk (Kd.R_below (by (with_reducible repeat (first|apply Kd.R_alloc|apply Kd.R_drewN|apply Kd.R_drew));exact HO208.out) hb);have n1_:=Aside0.mk (Kd.R_below (by (with_reducible repeat (first|apply Kd.R_alloc|apply Kd.R_drewN|apply Kd.R_drew));exact HO212.out) hb);have n2_:=Aside0.mk (blk_below (g:=gb200) (o:=.cells #[.int .u32 a0_0,.slice A0_1 l0_1.length c0_1] 25 (0,0)) (by (with_reducible repeat (first|apply blk_drewN|apply blk_drew|apply blk_alloc));exact BK200.out) hb);have n3_:=Aside0.mk (blk_below (g:=gb201) (o:=.cells #[.int .u32 a1_0,.slice A1_1 l1_1.length c1_1] 25 (0,0)) (by (with_reducible repeat (first|apply blk_drewN|apply blk_drew|apply blk_alloc));exact BK201.out) hb);have n4_:=Aside0.mk (blk_below (g:=gb213) (o:=.cells #[.int .u32 t205,.slice Ao39 t206.length co39] 30 (0,0)) (by (with_reducible repeat (first|apply blk_drewN|apply blk_drew|apply blk_alloc));exact BK213.out) hb);have n5_:=Aside0.mk (blk_below (g:=gb214) (o:=.cells #[.int .u32 t209,.slice Ao42 t210.length co42] 30 (0,0)) (by (with_reducible repeat (first|apply blk_drewN|apply blk_drew|apply blk_alloc));exact BK214.out) hb);have n6_:=Aside0.mk (below_step (by repeat (first|(with_reducible first|exact HB.out|apply below_alloc|apply pw_below_drewN|apply below_drew1|refine below_set ?_ GE200.out|refine below_set ?_ GE201.out|refine below_set ?_ GE213.out|refine below_set ?_ GE214.out)|exact HB.out)) hb);clear HO208;clear HO212;clear BK200;clear BK201;clear BK213;clear BK214;clear HB;have HO208:=n0_;have HO212:=n1_;have BK200:=n2_;have BK201:=n3_;have BK213:=n4_;have BK214:=n5_;have HB:=n6_;clear n0_ n1_ n2_ n3_ n4_ n5_ n6_;(try clear hb);(try clear hb2);(try clear hk);(try clear hi);have hnb73:=NB213_201.out;have hnc73:=NB201_213.out;have hnb74:=NB213_214.out;have hnc74:=NB214_213.out;have hcz75_0 : w72.cell? ⟨gb213,0,none⟩ = some (.int .u32 t205):=(blk_cell BK213.out 0).trans rfl;have hcz75_1 : w72.cell? ⟨gb213,1,none⟩ = some (.slice Ao39 t206.length co39):=(blk_cell BK213.out 1).trans rfl;have hfz75_0:=blk_frozen BK213.out 0;have hfz75_1:=blk_frozen BK213.out 1)|(go_at_call 15;(with_reducible refine (bosunref17_Bytes.calls kj3 t205 _ _ t206 t219 _ ?side1 ?side2 A57.out).mono ?_);(case side1=>repeat (first|exact (Kd.R_reads' HO208.out).2.2|(with_reducible refine Kd.C_alloc ?_ _)|(with_reducible refine Kd.C_drewN ?_ _)|(with_reducible refine Kd.C_drew ?_)));(case side2=>exact (Kd.R_reads' HO208.out).2.1);rintro e w76 ⟨rfl,hb⟩;have n0_:=Aside0.mk (Kd.R_below (by (with_reducible repeat (first|apply Kd.R_alloc|apply Kd.R_drewN|apply Kd.R_drew));exact HO208.out) hb);have n1_:=Aside0.mk (Kd.R_below (by (with_reducible repeat (first|apply Kd.R_alloc|apply Kd.R_drewN|apply Kd.R_drew));exact HO212.out) hb);have n2_:=Aside0.mk (blk_below (g:=gb200) (o:=.cells #[.int .u32 a0_0,.slice A0_1 l0_1.length c0_1] 25 (0,0)) (by (with_reducible repeat (first|apply blk_drewN|apply blk_drew|apply blk_alloc));exact BK200.out) hb);have n3_:=Aside0.mk (blk_below (g:=gb201) (o:=.cells #[.int .u32 a1_0,.slice A1_1 l1_1.length c1_1] 25 (0,0)) (by (with_reducible repeat (first|apply blk_drewN|apply blk_drew|apply blk_alloc));exact BK201.out) hb);have n4_:=Aside0.mk (blk_below (g:=gb213) (o:=.cells #[.int .u32 t205,.slice Ao39 t206.length co39] 30 (0,0)) (by (with_reducible repeat (first|apply blk_drewN|apply blk_drew|apply blk_alloc));exact BK213.out) hb);have n5_:=Aside0.mk (blk_below (g:=gb214) (o:=.cells #[.int .u32 t209,.slice Ao42 t210.length co42] 30 (0,0)) (by (with_reducible repeat (first|apply blk_drewN|apply blk_drew|apply blk_alloc));exact BK214.out) hb);have n6_:=Aside0.mk (below_step (by repeat (first|(with_reducible first|exact HB.out|apply below_alloc|apply pw_below_drewN|apply below_drew1|refine below_set ?_ GE200.out|refine below_set ?_ GE201.out|refine below_set ?_ GE213.out|refine below_set ?_ GE214.out)|exact HB.out)) hb);clear HO208;clear HO212;clear BK200;clear BK201;clear BK213;clear BK214;clear HB;have HO208:=n0_;have HO212:=n1_;have BK200:=n2_;have BK201:=n3_;have BK213:=n4_;have BK214:=n5_;have HB:=n6_;clear n0_ n1_ n2_ n3_ n4_ n5_ n6_;(try clear hb);(try clear hb2);(try clear hk);(try clear hi)))
         go_meet
         case rel=>exact ⟨_,(true),(by first|rfl|(simp;done)|(simp [*];done)),H',⟨by have:=HJ3.out;first|omega|exact Nat.le_refl _⟩,⟨by (with_reducible repeat (first|apply Kd.R_alloc|apply Kd.R_drewN|apply Kd.R_drew));exact HO208.out⟩,⟨by (with_reducible repeat (first|apply Kd.R_alloc|apply Kd.R_drewN|apply Kd.R_drew));exact HO212.out⟩,⟨by (with_reducible repeat (first|apply blk_drewN|apply blk_drew|apply blk_alloc));exact BK200.out⟩,⟨by (with_reducible repeat (first|apply blk_drewN|apply blk_drew|apply blk_alloc));exact BK201.out⟩,⟨by (with_reducible repeat (first|apply blk_drewN|apply blk_drew|apply blk_alloc));exact BK213.out⟩,⟨by (with_reducible repeat (first|apply blk_drewN|apply blk_drew|apply blk_alloc));exact BK214.out⟩,⟨by repeat (first|(with_reducible first|exact HB.out|apply below_alloc|apply pw_below_drewN|apply below_drew1|refine below_set ?_ GE200.out|refine below_set ?_ GE201.out|refine below_set ?_ GE213.out|refine below_set ?_ GE214.out)|exact HB.out)⟩⟩
       ·rw [if_neg c56] at H
        have c56b0 : (t215 == 0) = false:=beq_eq_false_iff_ne.mpr c56
        have c56b1 : (t215 != 0) = true:=bne_iff_ne.mpr c56
        have H':=Aside0.mk H
        clear H
        have hnb77:=NB200_201.out
        have hnc77:=NB201_200.out
        have hnb78:=NB200_213.out
        have hnc78:=NB213_200.out
        have hnb79:=NB200_214.out
        have hnc79:=NB214_200.out
        have hcz80_0 : w52.cell? ⟨gb200,0,none⟩ = some (.int .u32 a0_0):=(blk_cell BK200.out 0).trans rfl
        have hcz80_1 : w52.cell? ⟨gb200,1,none⟩ = some (.slice A0_1 l0_1.length c0_1):=(blk_cell BK200.out 1).trans rfl
        have hfz80_0:=blk_frozen BK200.out 0
        have hfz80_1:=blk_frozen BK200.out 1
        go_wp2_with (first|((with_reducible refine gate_callee (f:=14) rfl ?_);refine goesL_ (some 38) rfl rfl Tryd.func14 (by kernel_rfl) rfl #[.agg #[.int .u32 a0_0,.slice A0_1 l0_1.length c0_1]] rfl (by (try simp only [List.map_toArray,List.map_cons,List.map_nil]);first|done|rfl|(simp only [List.length_drop,List.length_take];rfl)|(simp (disch:=first|omega|(simp at *;omega)) only [u64_id,i64_id,u8_id];rfl)) ?_;(with_reducible refine (ckone_State_Check.calls kj3 a0_0 _ _ l0_1 t218 _ ?side1 ?side2 A53.out).mono ?_);(case side1=>repeat (first|exact (Kd.C_below HR0_1.out HB.out)|(with_reducible refine Kd.C_alloc ?_ _)|(with_reducible refine Kd.C_drewN ?_ _)|(with_reducible refine Kd.C_drew ?_)));(case side2=>exact HC0_1.out);rintro e w81 ⟨rfl,hb⟩;refine ⟨_,rfl,?_⟩;have n0_:=Aside0.mk (Kd.R_below (by (with_reducible repeat (first|apply Kd.R_alloc|apply Kd.R_drewN|apply Kd.R_drew));exact HO208.out) hb);have n1_:=Aside0.mk (Kd.R_below (by (with_reducible repeat (first|apply Kd.R_alloc|apply Kd.R_drewN|apply Kd.R_drew));exact HO212.out) hb);have n2_:=Aside0.mk (blk_below (g:=gb200) (o:=.cells #[.int .u32 a0_0,.slice A0_1 l0_1.length c0_1] 25 (0,0)) (by (with_reducible repeat (first|apply blk_drewN|apply blk_drew|apply blk_alloc));exact BK200.out) hb);have n3_:=Aside0.mk (blk_below (g:=gb201) (o:=.cells #[.int .u32 a1_0,.slice A1_1 l1_1.length c1_1] 25 (0,0)) (by (with_reducible repeat (first|apply blk_drewN|apply blk_drew|apply blk_alloc));exact BK201.out) hb);have n4_:=Aside0.mk (blk_below (g:=gb213) (o:=.cells #[.int .u32 t205,.slice Ao39 t206.length co39] 30 (0,0)) (by (with_reducible repeat (first|apply blk_drewN|apply blk_drew|apply blk_alloc));exact BK213.out) hb);have n5_:=Aside0.mk (blk_below (g:=gb214) (o:=.cells #[.int .u32 t209,.slice Ao42 t210.length co42] 30 (0,0)) (by (with_reducible repeat (first|apply blk_drewN|apply blk_drew|apply blk_alloc));exact BK214.out) hb);have n6_:=Aside0.mk (below_step (by repeat (first|(with_reducible first|exact HB.out|apply below_alloc|apply pw_below_drewN|apply below_drew1|refine below_set ?_ GE200.out|refine below_set ?_ GE201.out|refine below_set ?_ GE213.out|refine below_set ?_ GE214.out)|exact HB.out)) hb);clear HO208;clear HO212;clear BK200;clear BK201;clear BK213;clear BK214;clear HB;have HO208:=n0_;have HO212:=n1_;have BK200:=n2_;have BK201:=n3_;have BK213:=n4_;have BK214:=n5_;have HB:=n6_;clear n0_ n1_ n2_ n3_ n4_ n5_ n6_;(try clear hb);(try clear hb2);(try clear hk);(try clear hi)))
        go_meet
        case rel=>exact ⟨_,((t216.toList != ([] : List UInt8))),(by first|rfl|(generalize t216.toList=l_;cases l_ <;> rfl)|(simp;done)|(simp [*];done)),H',⟨by have:=HJ3.out;first|omega|exact Nat.le_refl _⟩,⟨by (with_reducible repeat (first|apply Kd.R_alloc|apply Kd.R_drewN|apply Kd.R_drew));exact HO208.out⟩,⟨by (with_reducible repeat (first|apply Kd.R_alloc|apply Kd.R_drewN|apply Kd.R_drew));exact HO212.out⟩,⟨by (with_reducible repeat (first|apply blk_drewN|apply blk_drew|apply blk_alloc));exact BK200.out⟩,⟨by (with_reducible repeat (first|apply blk_drewN|apply blk_drew|apply blk_alloc));exact BK201.out⟩,⟨by (with_reducible repeat (first|apply blk_drewN|apply blk_drew|apply blk_alloc));exact BK213.out⟩,⟨by (with_reducible repeat (first|apply blk_drewN|apply blk_drew|apply blk_alloc));exact BK214.out⟩,⟨by repeat (first|(with_reducible first|exact HB.out|apply below_alloc|apply pw_below_drewN|apply below_drew1|refine below_set ?_ GE200.out|refine below_set ?_ GE201.out|refine below_set ?_ GE213.out|refine below_set ?_ GE214.out)|exact HB.out)⟩⟩
      ·rw [if_neg c55] at H
       have c55b0 : (t217 == t215) = false:=beq_eq_false_iff_ne.mpr c55
       have c55b1 : (t217 != t215) = true:=bne_iff_ne.mpr c55
       have H':=Aside0.mk H
       clear H
       have hnb82:=NB200_201.out
       have hnc82:=NB201_200.out
       have hnb83:=NB200_213.out
       have hnc83:=NB213_200.out
       have hnb84:=NB200_214.out
       have hnc84:=NB214_200.out
       have hcz85_0 : w52.cell? ⟨gb200,0,none⟩ = some (.int .u32 a0_0):=(blk_cell BK200.out 0).trans rfl
       have hcz85_1 : w52.cell? ⟨gb200,1,none⟩ = some (.slice A0_1 l0_1.length c0_1):=(blk_cell BK200.out 1).trans rfl
       have hfz85_0:=blk_frozen BK200.out 0
       have hfz85_1:=blk_frozen BK200.out 1
       go_wp2_with (first|((with_reducible refine gate_callee (f:=14) rfl ?_);refine goesL_ (some 38) rfl rfl Tryd.func14 (by kernel_rfl) rfl #[.agg #[.int .u32 a0_0,.slice A0_1 l0_1.length c0_1]] rfl (by (try simp only [List.map_toArray,List.map_cons,List.map_nil]);first|done|rfl|(simp only [List.length_drop,List.length_take];rfl)|(simp (disch:=first|omega|(simp at *;omega)) only [u64_id,i64_id,u8_id];rfl)) ?_;(with_reducible refine (ckone_State_Check.calls kj3 a0_0 _ _ l0_1 t218 _ ?side1 ?side2 A53.out).mono ?_);(case side1=>repeat (first|exact (Kd.C_below HR0_1.out HB.out)|(with_reducible refine Kd.C_alloc ?_ _)|(with_reducible refine Kd.C_drewN ?_ _)|(with_reducible refine Kd.C_drew ?_)));(case side2=>exact HC0_1.out);rintro e w86 ⟨rfl,hb⟩;refine ⟨_,rfl,?_⟩;have n0_:=Aside0.mk (Kd.R_below (by (with_reducible repeat (first|apply Kd.R_alloc|apply Kd.R_drewN|apply Kd.R_drew));exact HO208.out) hb);have n1_:=Aside0.mk (Kd.R_below (by (with_reducible repeat (first|apply Kd.R_alloc|apply Kd.R_drewN|apply Kd.R_drew));exact HO212.out) hb);have n2_:=Aside0.mk (blk_below (g:=gb200) (o:=.cells #[.int .u32 a0_0,.slice A0_1 l0_1.length c0_1] 25 (0,0)) (by (with_reducible repeat (first|apply blk_drewN|apply blk_drew|apply blk_alloc));exact BK200.out) hb);have n3_:=Aside0.mk (blk_below (g:=gb201) (o:=.cells #[.int .u32 a1_0,.slice A1_1 l1_1.length c1_1] 25 (0,0)) (by (with_reducible repeat (first|apply blk_drewN|apply blk_drew|apply blk_alloc));exact BK201.out) hb);have n4_:=Aside0.mk (blk_below (g:=gb213) (o:=.cells #[.int .u32 t205,.slice Ao39 t206.length co39] 30 (0,0)) (by (with_reducible repeat (first|apply blk_drewN|apply blk_drew|apply blk_alloc));exact BK213.out) hb);have n5_:=Aside0.mk (blk_below (g:=gb214) (o:=.cells #[.int .u32 t209,.slice Ao42 t210.length co42] 30 (0,0)) (by (with_reducible repeat (first|apply blk_drewN|apply blk_drew|apply blk_alloc));exact BK214.out) hb);have n6_:=Aside0.mk (below_step (by repeat (first|(with_reducible first|exact HB.out|apply below_alloc|apply pw_below_drewN|apply below_drew1|refine below_set ?_ GE200.out|refine below_set ?_ GE201.out|refine below_set ?_ GE213.out|refine below_set ?_ GE214.out)|exact HB.out)) hb);clear HO208;clear HO212;clear BK200;clear BK201;clear BK213;clear BK214;clear HB;have HO208:=n0_;have HO212:=n1_;have BK200:=n2_;have BK201:=n3_;have BK213:=n4_;have BK214:=n5_;have HB:=n6_;clear n0_ n1_ n2_ n3_ n4_ n5_ n6_;(try clear hb);(try clear hb2);(try clear hk);(try clear hi)))
       go_meet
       case rel=>exact ⟨_,(true),(by first|rfl|(simp;done)|(simp [*];done)),H',⟨by have:=HJ3.out;first|omega|exact Nat.le_refl _⟩,⟨by (with_reducible repeat (first|apply Kd.R_alloc|apply Kd.R_drewN|apply Kd.R_drew));exact HO208.out⟩,⟨by (with_reducible repeat (first|apply Kd.R_alloc|apply Kd.R_drewN|apply Kd.R_drew));exact HO212.out⟩,⟨by (with_reducible repeat (first|apply blk_drewN|apply blk_drew|apply blk_alloc));exact BK200.out⟩,⟨by (with_reducible repeat (first|apply blk_drewN|apply blk_drew|apply blk_alloc));exact BK201.out⟩,⟨by (with_reducible repeat (first|apply blk_drewN|apply blk_drew|apply blk_alloc));exact BK213.out⟩,⟨by (with_reducible repeat (first|apply blk_drewN|apply blk_drew|apply blk_alloc));exact BK214.out⟩,⟨by repeat (first|(with_reducible first|exact HB.out|apply below_alloc|apply pw_below_drewN|apply below_drew1|refine below_set ?_ GE200.out|refine below_set ?_ GE201.out|refine below_set ?_ GE213.out|refine below_set ?_ GE214.out)|exact HB.out)⟩⟩
     ·rw [if_neg c54] at H
      have c54b0 : (t218 == t215) = false:=beq_eq_false_iff_ne.mpr c54
      have c54b1 : (t218 != t215) = true:=bne_iff_ne.mpr c54
      (first|rw [c54b0]|(simp only [i64_w,i32_w];rw [c54b0])|skip)
      have H':=Aside0.mk H
      clear H
      have hnb87:=NB200_201.out
      have hnc87:=NB201_200.out
      have hnb88:=NB200_213.out
      have hnc88:=NB213_200.out
      have hnb89:=NB200_214.out
      have hnc89:=NB214_200.out
      have hcz90_0 : w52.cell? ⟨gb200,0,none⟩ = some (.int .u32 a0_0):=(blk_cell BK200.out 0).trans rfl
      have hcz90_1 : w52.cell? ⟨gb200,1,none⟩ = some (.slice A0_1 l0_1.length c0_1):=(blk_cell BK200.out 1).trans rfl
      have hfz90_0:=blk_frozen BK200.out 0
      have hfz90_1:=blk_frozen BK200.out 1
      go_wp2_with (first|((with_reducible refine gate_callee (f:=14) rfl ?_);refine goesL_ (some 38) rfl rfl Tryd.func14 (by kernel_rfl) rfl #[.agg #[.int .u32 a0_0,.slice A0_1 l0_1.length c0_1]] rfl (by (try simp only [List.map_toArray,List.map_cons,List.map_nil]);first|done|rfl|(simp only [List.length_drop,List.length_take];rfl)|(simp (disch:=first|omega|(simp at *;omega)) only [u64_id,i64_id,u8_id];rfl)) ?_;(with_reducible refine (ckone_State_Check.calls kj3 a0_0 _ _ l0_1 t218 _ ?side1 ?side2 A53.out).mono ?_);(case side1=>repeat (first|exact (Kd.C_below HR0_1.out HB.out)|(with_reducible refine Kd.C_alloc ?_ _)|(with_reducible refine Kd.C_drewN ?_ _)|(with_reducible refine Kd.C_drew ?_)));(case side2=>exact HC0_1.out);rintro e w91 ⟨rfl,hb⟩;refine ⟨_,rfl,?_⟩;have n0_:=Aside0.mk (Kd.R_below (by (with_reducible repeat (first|apply Kd.R_alloc|apply Kd.R_drewN|apply Kd.R_drew));exact HO208.out) hb);have n1_:=Aside0.mk (Kd.R_below (by (with_reducible repeat (first|apply Kd.R_alloc|apply Kd.R_drewN|apply Kd.R_drew));exact HO212.out) hb);have n2_:=Aside0.mk (blk_below (g:=gb200) (o:=.cells #[.int .u32 a0_0,.slice A0_1 l0_1.length c0_1] 25 (0,0)) (by (with_reducible repeat (first|apply blk_drewN|apply blk_drew|apply blk_alloc));exact BK200.out) hb);have n3_:=Aside0.mk (blk_below (g:=gb201) (o:=.cells #[.int .u32 a1_0,.slice A1_1 l1_1.length c1_1] 25 (0,0)) (by (with_reducible repeat (first|apply blk_drewN|apply blk_drew|apply blk_alloc));exact BK201.out) hb);have n4_:=Aside0.mk (blk_below (g:=gb213) (o:=.cells #[.int .u32 t205,.slice Ao39 t206.length co39] 30 (0,0)) (by (with_reducible repeat (first|apply blk_drewN|apply blk_drew|apply blk_alloc));exact BK213.out) hb);have n5_:=Aside0.mk (blk_below (g:=gb214) (o:=.cells #[.int .u32 t209,.slice Ao42 t210.length co42] 30 (0,0)) (by (with_reducible repeat (first|apply blk_drewN|apply blk_drew|apply blk_alloc));exact BK214.out) hb);have n6_:=Aside0.mk (below_step (by repeat (first|(with_reducible first|exact HB.out|apply below_alloc|apply pw_below_drewN|apply below_drew1|refine below_set ?_ GE200.out|refine below_set ?_ GE201.out|refine below_set ?_ GE213.out|refine below_set ?_ GE214.out)|exact HB.out)) hb);clear HO208;clear HO212;clear BK200;clear BK201;clear BK213;clear BK214;clear HB;have HO208:=n0_;have HO212:=n1_;have BK200:=n2_;have BK201:=n3_;have BK213:=n4_;have BK214:=n5_;have HB:=n6_;clear n0_ n1_ n2_ n3_ n4_ n5_ n6_;(try clear hb);(try clear hb2);(try clear hk);(try clear hi)))
      go_meet
      case rel=>exact ⟨_,(true),(by first|rfl|(simp;done)|(simp [*];done)),H',⟨by have:=HJ3.out;first|omega|exact Nat.le_refl _⟩,⟨by (with_reducible repeat (first|apply Kd.R_alloc|apply Kd.R_drewN|apply Kd.R_drew));exact HO208.out⟩,⟨by (with_reducible repeat (first|apply Kd.R_alloc|apply Kd.R_drewN|apply Kd.R_drew));exact HO212.out⟩,⟨by (with_reducible repeat (first|apply blk_drewN|apply blk_drew|apply blk_alloc));exact BK200.out⟩,⟨by (with_reducible repeat (first|apply blk_drewN|apply blk_drew|apply blk_alloc));exact BK201.out⟩,⟨by (with_reducible repeat (first|apply blk_drewN|apply blk_drew|apply blk_alloc));exact BK213.out⟩,⟨by (with_reducible repeat (first|apply blk_drewN|apply blk_drew|apply blk_alloc));exact BK214.out⟩,⟨by repeat (first|(with_reducible first|exact HB.out|apply below_alloc|apply pw_below_drewN|apply below_drew1|refine below_set ?_ GE200.out|refine below_set ?_ GE201.out|refine below_set ?_ GE213.out|refine below_set ?_ GE214.out)|exact HB.out)⟩⟩
    case rest =>
     clear HC31
     try clear c1
     try clear p2
     try clear c4
     try clear c5
     try clear c6
     try clear c7
     try clear c8
     try clear c11
     try clear c12
     try clear c13
     try clear c14
     try clear c44
     try clear c45
     try clear c46
     try clear c49
     try clear c50
     try clear c54
     try clear c54b0
     try clear c54b1
     try clear c55
     try clear c55b0
     try clear c55b1
     try clear c56
     try clear c56b0
     try clear c56b1
     try clear c58
     try clear c58b0
     try clear c58b1
     try clear c59
     try clear c60
     try clear c61
     try clear c64
     try clear c65
     try clear c68
     try clear c69
     try clear c70
     try clear c73
     try clear c74
     try clear c77
     try clear c78
     try clear c79
     try clear c82
     try clear c83
     try clear c84
     try clear c87
     try clear c88
     try clear c89
     try clear hcz47_0
     try clear hcz47_1
     try clear hcz51_0
     try clear hcz51_1
     try clear hcz62_0
     try clear hcz62_1
     try clear hcz66_0
     try clear hcz66_1
     try clear hcz71_0
     try clear hcz71_1
     try clear hcz75_0
     try clear hcz75_1
     try clear hcz80_0
     try clear hcz80_1
     try clear hcz85_0
     try clear hcz85_1
     try clear hcz90_0
     try clear hcz90_1
     try clear hfz47_0
     try clear hfz47_1
     try clear hfz51_0
     try clear hfz51_1
     try clear hfz62_0
     try clear hfz62_1
     try clear hfz66_0
     try clear hfz66_1
     try clear hfz71_0
     try clear hfz71_1
     try clear hfz75_0
     try clear hfz75_1
     try clear hfz80_0
     try clear hfz80_1
     try clear hfz85_0
     try clear hfz85_1
     try clear hfz90_0
     try clear hfz90_1
     obtain ⟨kq,x63_30,rfl,HA,HJ30,HO_214001,HO_215001,BK200,BK201,BK213,BK214,HB⟩:=hcut
     cases kq with
     | zero=>exact absurd HA.out (by simp [bosunlaw17_CkoneCodes.j1])
     | succ kj30 =>
      have H:=HA.out
      clear HA
      simp only [bosunlaw17_CkoneCodes.j1] at H
      by_cases c92 : x63_30 = true
      ·subst c92
       have H1 : (some false) = some r:=by rw [if_pos rfl] at H;exact H
       clear H
       have H:=H1
       clear H1
       obtain rfl:=Option.some.inj H
       go_wp2
       go_ret
       exact ⟨by first|rfl|(simp [errW_none,errW_some] <;> rfl)|(simp [*,errW_none,errW_some] <;> rfl),by repeat (first|(with_reducible first|exact HB.out|apply below_alloc|apply pw_below_drewN|apply below_drew1|refine below_set ?_ GE200.out|refine below_set ?_ GE201.out|refine below_set ?_ GE213.out|refine below_set ?_ GE214.out)|exact HB.out)⟩
      ·replace c92:=Bool.eq_false_iff.mpr c92
       subst c92
       have H1 : ((bosunlaw17_Awake.f kj30).bind fun t220=>(if t220 = true then ((ckone_State_Same.f a0_0 l0_1 a1_0 l1_1).bind fun t221=>((bosunref17_Same.f kj30 t205 t206 t209 t210).bind fun t222=>(if (t221 == t222) = true then ((ckone_State_Same.f a0_0 l0_1 a0_0 l0_1).bind fun t223=>(if t223 = true then ((ckone_File.f kj30 a2).bind fun t224=>((bosunref04_Name.f kj30 a2).bind fun t225=>(some (t224 == t225)))) else (some false))) else (some false)))) else (some false))) = some r:=by rw [if_neg (show ¬ (false = true) by decide)] at H;exact H
       clear H
       have H:=H1
       clear H1
       replace H:=Option.bind_eq_some_iff.mp H
       obtain ⟨t220,A930,H⟩:=H
       replace H : (if t220 = true then ((ckone_State_Same.f a0_0 l0_1 a1_0 l1_1).bind fun t221=>((bosunref17_Same.f kj30 t205 t206 t209 t210).bind fun t222=>(if (t221 == t222) = true then ((ckone_State_Same.f a0_0 l0_1 a0_0 l0_1).bind fun t223=>(if t223 = true then ((ckone_File.f kj30 a2).bind fun t224=>((bosunref04_Name.f kj30 a2).bind fun t225=>(some (t224 == t225)))) else (some false))) else (some false)))) else (some false)) = some r:=H
       have A93:=Aside0.mk A930
       clear A930
       by_cases c94 : t220 = true
       ·subst c94
        have H1 : ((ckone_State_Same.f a0_0 l0_1 a1_0 l1_1).bind fun t221=>((bosunref17_Same.f kj30 t205 t206 t209 t210).bind fun t222=>(if (t221 == t222) = true then ((ckone_State_Same.f a0_0 l0_1 a0_0 l0_1).bind fun t223=>(if t223 = true then ((ckone_File.f kj30 a2).bind fun t224=>((bosunref04_Name.f kj30 a2).bind fun t225=>(some (t224 == t225)))) else (some false))) else (some false)))) = some r:=by rw [if_pos rfl] at H;exact H
        clear H
        have H:=H1
        clear H1
        replace H:=Option.bind_eq_some_iff.mp H
        obtain ⟨t221,A950,H⟩:=H
        replace H : ((bosunref17_Same.f kj30 t205 t206 t209 t210).bind fun t222=>(if (t221 == t222) = true then ((ckone_State_Same.f a0_0 l0_1 a0_0 l0_1).bind fun t223=>(if t223 = true then ((ckone_File.f kj30 a2).bind fun t224=>((bosunref04_Name.f kj30 a2).bind fun t225=>(some (t224 == t225)))) else (some false))) else (some false))) = some r:=H
        have A95:=Aside0.mk A950
        clear A950
        replace H:=Option.bind_eq_some_iff.mp H
        obtain ⟨t222,A960,H⟩:=H
        replace H : (if (t221 == t222) = true then ((ckone_State_Same.f a0_0 l0_1 a0_0 l0_1).bind fun t223=>(if t223 = true then ((ckone_File.f kj30 a2).bind fun t224=>((bosunref04_Name.f kj30 a2).bind fun t225=>(some (t224 == t225)))) else (some false))) else (some false)) = some r:=H
        have A96:=Aside0.mk A960
        clear A960
        by_cases c97 : (t221 == t222) = true
        ·rw [if_pos c97] at H
         have c97b0 : (t221 == t222) = true:=c97
         (try (have c97b1 : decide (t221 = t222) = true:=by simpa using c97))
         (try (have c97b2 : (t221 == t222) = true:=by simpa using c97))
         clear c97
         replace H:=Option.bind_eq_some_iff.mp H
         obtain ⟨t223,A980,H⟩:=H
         replace H : (if t223 = true then ((ckone_File.f kj30 a2).bind fun t224=>((bosunref04_Name.f kj30 a2).bind fun t225=>(some (t224 == t225)))) else (some false)) = some r:=H
         have A98:=Aside0.mk A980
         clear A980
         by_cases c99 : t223 = true
         ·subst c99
          have H1 : ((ckone_File.f kj30 a2).bind fun t224=>((bosunref04_Name.f kj30 a2).bind fun t225=>(some (t224 == t225)))) = some r:=by rw [if_pos rfl] at H;exact H
          clear H
          have H:=H1
          clear H1
          replace H:=Option.bind_eq_some_iff.mp H
          obtain ⟨t224,A1000,H⟩:=H
          replace H : ((bosunref04_Name.f kj30 a2).bind fun t225=>(some (t224 == t225))) = some r:=H
          have A100:=Aside0.mk A1000
          clear A1000
          replace H:=Option.bind_eq_some_iff.mp H
          obtain ⟨t225,A1010,H⟩:=H
          replace H : (some (t224 == t225)) = some r:=H
          have A101:=Aside0.mk A1010
          clear A1010
          obtain rfl:=Option.some.inj H
          try go_wp2
          have n0_:=Aside0.mk (Kd.R_drew HO_214001.out)
          have n1_:=Aside0.mk (Kd.R_drew HO_215001.out)
          have n2_:=Aside0.mk (blk_drew BK200.out)
          have n3_:=Aside0.mk (blk_drew BK201.out)
          have n4_:=Aside0.mk (blk_drew BK213.out)
          have n5_:=Aside0.mk (blk_drew BK214.out)
          have n6_:=Aside0.mk (below_drew1 HB.out)
          clear HO_214001
          clear HO_215001
          clear BK200
          clear BK201
          clear BK213
          clear BK214
          clear HB
          have HO_214001:=n0_
          have HO_215001:=n1_
          have BK200:=n2_
          have BK201:=n3_
          have BK213:=n4_
          have BK214:=n5_
          have HB:=n6_
          clear n0_ n1_ n2_ n3_ n4_ n5_ n6_
          refine start_ (n:=23) (S:=fun w'=>w'.cell? ⟨gb200,0,none⟩ = some (.int .u32 a0_0) ∧ w'.cell? ⟨gb200,1,none⟩ = some (.slice A0_1 l0_1.length c0_1) ∧ w'.cell? ⟨gb201,0,none⟩ = some (.int .u32 a1_0) ∧ w'.cell? ⟨gb201,1,none⟩ = some (.slice A1_1 l1_1.length c1_1) ∧ w'.cell? ⟨gb213,0,none⟩ = some (.int .u32 t205) ∧ w'.cell? ⟨gb213,1,none⟩ = some (.slice Ao39 t206.length co39) ∧ w'.cell? ⟨gb214,0,none⟩ = some (.int .u32 t209) ∧ w'.cell? ⟨gb214,1,none⟩ = some (.slice Ao42 t210.length co42)) (ds:=[]) #[false,false,false,false,false,false,false,false,false,false,false,false,false,false,false,false,false,false,false,false,false,false,false] (by kernel_rfl) rfl rfl ⟨(blk_cell BK200.out 0).trans rfl,(blk_cell BK200.out 1).trans rfl,(blk_cell BK201.out 0).trans rfl,(blk_cell BK201.out 1).trans rfl,(blk_cell BK213.out 0).trans rfl,(blk_cell BK213.out 1).trans rfl,(blk_cell BK214.out 0).trans rfl,(blk_cell BK214.out 1).trans rfl⟩ (fun hHeld=>?_);refine with_tabW bosunlaw17_CkoneCodes.tab8 bosunlaw17_CkoneCodes.bits8 (fun HT_ HW_=>?_)
          generalize wc.drew = w102 at HO_214001 HO_215001 BK200 BK201 BK213 BK214 HB hHeld ⊢
          refine one_ (i:=0) (N:=some 64) #[true,false,false,false,false,false,false,false,false,false,false,false,false,false,false,false,false,false,false,false,false,false,false] rfl rfl (one_of HT_.out (by kernel_rfl)) (by decide) (fun K hK=>?_)
          refine goes_ Tryd.func10 (by kernel_rfl) rfl #[] (by rfl) rfl rfl (by (try simp only [List.map_toArray,List.map_cons,List.map_nil]);first|done|rfl|(simp only [List.length_drop,List.length_take];rfl)) ?_
          with_reducible refine (bosunlaw17_Awake.calls kj30  true _ A93.out).mono ?_
          rintro e w103 ⟨rfl,hb⟩
          refine ⟨_,rfl,?_⟩
          have n0_:=Aside0.mk (Kd.R_below (by (with_reducible repeat (first|apply Kd.R_alloc|apply Kd.R_drewN|apply Kd.R_drew));exact HO_214001.out) hb)
          have n1_:=Aside0.mk (Kd.R_below (by (with_reducible repeat (first|apply Kd.R_alloc|apply Kd.R_drewN|apply Kd.R_drew));exact HO_215001.out) hb)
          have n2_:=Aside0.mk (blk_below (g:=gb200) (o:=.cells #[.int .u32 a0_0,.slice A0_1 l0_1.length c0_1] 25 (0,0)) (by (with_reducible repeat (first|apply blk_drewN|apply blk_drew|apply blk_alloc));exact BK200.out) hb)
          have n3_:=Aside0.mk (blk_below (g:=gb201) (o:=.cells #[.int .u32 a1_0,.slice A1_1 l1_1.length c1_1] 25 (0,0)) (by (with_reducible repeat (first|apply blk_drewN|apply blk_drew|apply blk_alloc));exact BK201.out) hb)
          have n4_:=Aside0.mk (blk_below (g:=gb213) (o:=.cells #[.int .u32 t205,.slice Ao39 t206.length co39] 30 (0,0)) (by (with_reducible repeat (first|apply blk_drewN|apply blk_drew|apply blk_alloc));exact BK213.out) hb)
          have n5_:=Aside0.mk (blk_below (g:=gb214) (o:=.cells #[.int .u32 t209,.slice Ao42 t210.length co42] 30 (0,0)) (by (with_reducible repeat (first|apply blk_drewN|apply blk_drew|apply blk_alloc));exact BK214.out) hb)
          have n6_:=Aside0.mk (below_step (by repeat (first|(with_reducible first|exact HB.out|apply below_alloc|apply pw_below_drewN|apply below_drew1|refine below_set ?_ GE200.out|refine below_set ?_ GE201.out|refine below_set ?_ GE213.out|refine below_set ?_ GE214.out)|exact HB.out)) hb)
          clear HO_214001
          clear HO_215001
          clear BK200
          clear BK201
          clear BK213
          clear BK214
          clear HB
          have HO_214001:=n0_
          have HO_215001:=n1_
          have BK200:=n2_
          have BK201:=n3_
          have BK213:=n4_
          have BK214:=n5_
          have HB:=n6_
          clear n0_ n1_ n2_ n3_ n4_ n5_ n6_
          (try clear hb)
          (try clear hb2)
          (try clear hk)
          (try clear hi)
          refine hK.out _ _ ⟨(blk_cell BK200.out 0).trans rfl,(blk_cell BK200.out 1).trans rfl,(blk_cell BK201.out 0).trans rfl,(blk_cell BK201.out 1).trans rfl,(blk_cell BK213.out 0).trans rfl,(blk_cell BK213.out 1).trans rfl,(blk_cell BK214.out 0).trans rfl,(blk_cell BK214.out 1).trans rfl⟩ (fun hHeld=>?_)
          clear hK K
          refine norm_ (a':=?_) ?_ ?_
          rotate_left
          ·show Act.put _ (some 64) _ = _
           simp only [Act.put,sB,sZ,sS,i64_w,i32_w]
           rfl
          refine pure_ (i:=1) (N:=some 65) (v:=?_) (a':=?_) #[true,true,false,false,false,false,false,false,false,false,false,false,false,false,false,false,false,false,false,false,false,false,false] rfl rfl (any_of HT_.out (by kernel_rfl)) (fun _ _ _ h=>h) (Or.inl ⟨by rfl,?_⟩) ?_ ?_
          rotate_left
          ·intro w'
           go_simp
           with_reducible rfl
          rotate_left
          ·simp only [Act.put,sB,sZ,sS,i64_w,i32_w]
           rfl
          refine take_ (i:=2) (N:=some 66) (v:=?_) (a':=?_) #[true,true,true,false,false,false,false,false,false,false,false,false,false,false,false,false,false,false,false,false,false,false,false] rfl rfl (take_ofW HT_.out HW_.out (by kernel_rfl)) (fun _ _ _ h=>h) (Or.inl ⟨by rfl,?_⟩) hHeld ?_ ?_
          rotate_left
          ·rintro w' ⟨s0,s1,s2,s3,s4,s5,s6,s7⟩
           go_simp
           with_reducible rfl
          rotate_left
          ·simp only [Act.put,sB,sZ,sS,i64_w,i32_w]
           rfl
          refine take_ (i:=3) (N:=some 67) (v:=?_) (a':=?_) #[true,true,true,true,false,false,false,false,false,false,false,false,false,false,false,false,false,false,false,false,false,false,false] rfl rfl (take_ofW HT_.out HW_.out (by kernel_rfl)) (fun _ _ _ h=>h) (Or.inl ⟨by rfl,?_⟩) hHeld ?_ ?_
          rotate_left
          ·rintro w' ⟨s0,s1,s2,s3,s4,s5,s6,s7⟩
           go_simp
           with_reducible rfl
          rotate_left
          ·simp only [Act.put,sB,sZ,sS,i64_w,i32_w]
           rfl
          refine take_ (i:=5) (N:=some 69) (v:=?_) (a':=?_) #[true,true,true,true,false,true,false,false,false,false,false,false,false,false,false,false,false,false,false,false,false,false,false] rfl rfl (take_ofW HT_.out HW_.out (by kernel_rfl)) (fun _ _ _ h=>h) (Or.inl ⟨by rfl,?_⟩) hHeld ?_ ?_
          rotate_left
          ·rintro w' ⟨s0,s1,s2,s3,s4,s5,s6,s7⟩
           go_simp
           with_reducible rfl
          rotate_left
          ·simp only [Act.put,sB,sZ,sS,i64_w,i32_w]
           rfl
          refine take_ (i:=6) (N:=some 70) (v:=?_) (a':=?_) #[true,true,true,true,false,true,true,false,false,false,false,false,false,false,false,false,false,false,false,false,false,false,false] rfl rfl (take_ofW HT_.out HW_.out (by kernel_rfl)) (fun _ _ _ h=>h) (Or.inl ⟨by rfl,?_⟩) hHeld ?_ ?_
          rotate_left
          ·rintro w' ⟨s0,s1,s2,s3,s4,s5,s6,s7⟩
           go_simp
           with_reducible rfl
          rotate_left
          ·simp only [Act.put,sB,sZ,sS,i64_w,i32_w]
           rfl
          refine one_ (i:=4) (N:=some 68) #[true,true,true,true,true,true,true,false,false,false,false,false,false,false,false,false,false,false,false,false,false,false,false] rfl rfl (one_of HT_.out (by kernel_rfl)) (by decide) (fun K hK=>?_)
          refine goes_ Tryd.func16 (by kernel_rfl) rfl #[.agg #[.int .u32 a0_0,.slice A0_1 l0_1.length c0_1],.agg #[.int .u32 a1_0,.slice A1_1 l1_1.length c1_1]] (by rfl) rfl rfl (by (try simp only [List.map_toArray,List.map_cons,List.map_nil]);first|done|rfl|(simp only [List.length_drop,List.length_take];rfl)) ?_
          with_reducible refine (ckone_State_Same.calls a0_0 _ _ l0_1 a1_0 _ _ l1_1 t221 _ ?side1 ?side2 ?side3 ?side4 A95.out).mono ?_
          (case side1=>repeat (first|exact (Kd.C_below HR0_1.out HB.out)|(with_reducible refine Kd.C_alloc ?_ _)|(with_reducible refine Kd.C_drewN ?_ _)|(with_reducible refine Kd.C_drew ?_)))
          (case side2=>exact HC0_1.out)
          (case side3=>repeat (first|exact (Kd.C_below HR1_1.out HB.out)|(with_reducible refine Kd.C_alloc ?_ _)|(with_reducible refine Kd.C_drewN ?_ _)|(with_reducible refine Kd.C_drew ?_)))
          (case side4=>exact HC1_1.out)
          rintro e w104 ⟨rfl,hb⟩
          refine ⟨_,rfl,?_⟩
          have n0_:=Aside0.mk (Kd.R_below (by (with_reducible repeat (first|apply Kd.R_alloc|apply Kd.R_drewN|apply Kd.R_drew));exact HO_214001.out) hb)
          have n1_:=Aside0.mk (Kd.R_below (by (with_reducible repeat (first|apply Kd.R_alloc|apply Kd.R_drewN|apply Kd.R_drew));exact HO_215001.out) hb)
          have n2_:=Aside0.mk (blk_below (g:=gb200) (o:=.cells #[.int .u32 a0_0,.slice A0_1 l0_1.length c0_1] 25 (0,0)) (by (with_reducible repeat (first|apply blk_drewN|apply blk_drew|apply blk_alloc));exact BK200.out) hb)
          have n3_:=Aside0.mk (blk_below (g:=gb201) (o:=.cells #[.int .u32 a1_0,.slice A1_1 l1_1.length c1_1] 25 (0,0)) (by (with_reducible repeat (first|apply blk_drewN|apply blk_drew|apply blk_alloc));exact BK201.out) hb)
          have n4_:=Aside0.mk (blk_below (g:=gb213) (o:=.cells #[.int .u32 t205,.slice Ao39 t206.length co39] 30 (0,0)) (by (with_reducible repeat (first|apply blk_drewN|apply blk_drew|apply blk_alloc));exact BK213.out) hb)
          have n5_:=Aside0.mk (blk_below (g:=gb214) (o:=.cells #[.int .u32 t209,.slice Ao42 t210.length co42] 30 (0,0)) (by (with_reducible repeat (first|apply blk_drewN|apply blk_drew|apply blk_alloc));exact BK214.out) hb)
          have n6_:=Aside0.mk (below_step (by repeat (first|(with_reducible first|exact HB.out|apply below_alloc|apply pw_below_drewN|apply below_drew1|refine below_set ?_ GE200.out|refine below_set ?_ GE201.out|refine below_set ?_ GE213.out|refine below_set ?_ GE214.out)|exact HB.out)) hb)
          clear HO_214001
          clear HO_215001
          clear BK200
          clear BK201
          clear BK213
          clear BK214
          clear HB
          have HO_214001:=n0_
          have HO_215001:=n1_
          have BK200:=n2_
          have BK201:=n3_
          have BK213:=n4_
          have BK214:=n5_
          have HB:=n6_
          clear n0_ n1_ n2_ n3_ n4_ n5_ n6_
          (try clear hb)
          (try clear hb2)
          (try clear hk)
          (try clear hi)
          refine hK.out _ _ ⟨(blk_cell BK200.out 0).trans rfl,(blk_cell BK200.out 1).trans rfl,(blk_cell BK201.out 0).trans rfl,(blk_cell BK201.out 1).trans rfl,(blk_cell BK213.out 0).trans rfl,(blk_cell BK213.out 1).trans rfl,(blk_cell BK214.out 0).trans rfl,(blk_cell BK214.out 1).trans rfl⟩ (fun hHeld=>?_)
          clear hK K
          refine norm_ (a':=?_) ?_ ?_
          rotate_left
          ·show Act.put _ (some 68) _ = _
           simp only [Act.put,sB,sZ,sS,i64_w,i32_w]
           rfl
          refine one_ (i:=7) (N:=some 71) #[true,true,true,true,true,true,true,true,false,false,false,false,false,false,false,false,false,false,false,false,false,false,false] rfl rfl (one_of HT_.out (by kernel_rfl)) (by decide) (fun K hK=>?_)
          refine goes_ Tryd.func17 (by kernel_rfl) rfl #[.agg #[.int .u32 t205,.slice Ao39 t206.length co39],.agg #[.int .u32 t209,.slice Ao42 t210.length co42]] (by rfl) rfl rfl (by (try simp only [List.map_toArray,List.map_cons,List.map_nil]);first|done|rfl|(simp only [List.length_drop,List.length_take];rfl)) ?_
          with_reducible refine (bosunref17_Same.calls kj30 t205 _ _ t206 t209 _ _ t210 t222 _ ?side1 ?side2 ?side3 ?side4 A96.out).mono ?_
          (case side1=>repeat (first|exact (Kd.R_reads' HO_214001.out).2.2|(with_reducible refine Kd.C_alloc ?_ _)|(with_reducible refine Kd.C_drewN ?_ _)|(with_reducible refine Kd.C_drew ?_)))
          (case side2=>exact (Kd.R_reads' HO_214001.out).2.1)
          (case side3=>repeat (first|exact (Kd.R_reads' HO_215001.out).2.2|(with_reducible refine Kd.C_alloc ?_ _)|(with_reducible refine Kd.C_drewN ?_ _)|(with_reducible refine Kd.C_drew ?_)))
          (case side4=>exact (Kd.R_reads' HO_215001.out).2.1)
          rintro e w105 ⟨rfl,hb⟩
          refine ⟨_,rfl,?_⟩
          have n0_:=Aside0.mk (Kd.R_below (by (with_reducible repeat (first|apply Kd.R_alloc|apply Kd.R_drewN|apply Kd.R_drew));exact HO_214001.out) hb)
          have n1_:=Aside0.mk (Kd.R_below (by (with_reducible repeat (first|apply Kd.R_alloc|apply Kd.R_drewN|apply Kd.R_drew));exact HO_215001.out) hb)
          have n2_:=Aside0.mk (blk_below (g:=gb200) (o:=.cells #[.int .u32 a0_0,.slice A0_1 l0_1.length c0_1] 25 (0,0)) (by (with_reducible repeat (first|apply blk_drewN|apply blk_drew|apply blk_alloc));exact BK200.out) hb)
          have n3_:=Aside0.mk (blk_below (g:=gb201) (o:=.cells #[.int .u32 a1_0,.slice A1_1 l1_1.length c1_1] 25 (0,0)) (by (with_reducible repeat (first|apply blk_drewN|apply blk_drew|apply blk_alloc));exact BK201.out) hb)
          have n4_:=Aside0.mk (blk_below (g:=gb213) (o:=.cells #[.int .u32 t205,.slice Ao39 t206.length co39] 30 (0,0)) (by (with_reducible repeat (first|apply blk_drewN|apply blk_drew|apply blk_alloc));exact BK213.out) hb)
          have n5_:=Aside0.mk (blk_below (g:=gb214) (o:=.cells #[.int .u32 t209,.slice Ao42 t210.length co42] 30 (0,0)) (by (with_reducible repeat (first|apply blk_drewN|apply blk_drew|apply blk_alloc));exact BK214.out) hb)
          have n6_:=Aside0.mk (below_step (by repeat (first|(with_reducible first|exact HB.out|apply below_alloc|apply pw_below_drewN|apply below_drew1|refine below_set ?_ GE200.out|refine below_set ?_ GE201.out|refine below_set ?_ GE213.out|refine below_set ?_ GE214.out)|exact HB.out)) hb)
          clear HO_214001
          clear HO_215001
          clear BK200
          clear BK201
          clear BK213
          clear BK214
          clear HB
          have HO_214001:=n0_
          have HO_215001:=n1_
          have BK200:=n2_
          have BK201:=n3_
          have BK213:=n4_
          have BK214:=n5_
          have HB:=n6_
          clear n0_ n1_ n2_ n3_ n4_ n5_ n6_
          (try clear hb)
          (try clear hb2)
          (try clear hk)
          (try clear hi)
          refine hK.out _ _ ⟨(blk_cell BK200.out 0).trans rfl,(blk_cell BK200.out 1).trans rfl,(blk_cell BK201.out 0).trans rfl,(blk_cell BK201.out 1).trans rfl,(blk_cell BK213.out 0).trans rfl,(blk_cell BK213.out 1).trans rfl,(blk_cell BK214.out 0).trans rfl,(blk_cell BK214.out 1).trans rfl⟩ (fun hHeld=>?_)
          clear hK K
          refine norm_ (a':=?_) ?_ ?_
          rotate_left
          ·show Act.put _ (some 71) _ = _
           simp only [Act.put,sB,sZ,sS,i64_w,i32_w]
           rfl
          refine pure_ (i:=8) (N:=some 72) (v:=?_) (a':=?_) #[true,true,true,true,true,true,true,true,true,false,false,false,false,false,false,false,false,false,false,false,false,false,false] rfl rfl (any_of HT_.out (by kernel_rfl)) (fun _ _ _ h=>h) (Or.inl ⟨by rfl,?_⟩) ?_ ?_
          rotate_left
          ·intro w'
           go_simp
           with_reducible rfl
          rotate_left
          ·simp only [Act.put,sB,sZ,sS,i64_w,i32_w]
           rfl
          refine pure_ (i:=9) (N:=some 73) (v:=?_) (a':=?_) #[true,true,true,true,true,true,true,true,true,true,false,false,false,false,false,false,false,false,false,false,false,false,false] rfl rfl (any_of HT_.out (by kernel_rfl)) (fun _ _ _ h=>h) (Or.inl ⟨by rfl,?_⟩) ?_ ?_
          rotate_left
          ·intro w'
           go_simp
           with_reducible rfl
          rotate_left
          ·simp only [Act.put,sB,sZ,sS,i64_w,i32_w]
           rfl
          refine pure_ (i:=10) (N:=some 74) (v:=?_) (a':=?_) #[true,true,true,true,true,true,true,true,true,true,true,false,false,false,false,false,false,false,false,false,false,false,false] rfl rfl (any_of HT_.out (by kernel_rfl)) (fun _ _ _ h=>h) (Or.inl ⟨by rfl,?_⟩) ?_ ?_
          rotate_left
          ·intro w'
           go_simp
           with_reducible rfl
          rotate_left
          ·simp only [Act.put,sB,sZ,sS,i64_w,i32_w]
           rfl
          refine take_ (i:=11) (N:=some 75) (v:=?_) (a':=?_) #[true,true,true,true,true,true,true,true,true,true,true,true,false,false,false,false,false,false,false,false,false,false,false] rfl rfl (take_ofW HT_.out HW_.out (by kernel_rfl)) (fun _ _ _ h=>h) (Or.inl ⟨by rfl,?_⟩) hHeld ?_ ?_
          rotate_left
          ·rintro w' ⟨s0,s1,s2,s3,s4,s5,s6,s7⟩
           go_simp
           with_reducible rfl
          rotate_left
          ·simp only [Act.put,sB,sZ,sS,i64_w,i32_w]
           rfl
          refine take_ (i:=12) (N:=some 76) (v:=?_) (a':=?_) #[true,true,true,true,true,true,true,true,true,true,true,true,true,false,false,false,false,false,false,false,false,false,false] rfl rfl (take_ofW HT_.out HW_.out (by kernel_rfl)) (fun _ _ _ h=>h) (Or.inl ⟨by rfl,?_⟩) hHeld ?_ ?_
          rotate_left
          ·rintro w' ⟨s0,s1,s2,s3,s4,s5,s6,s7⟩
           go_simp
           with_reducible rfl
          rotate_left
          ·simp only [Act.put,sB,sZ,sS,i64_w,i32_w]
           rfl
          refine one_ (i:=13) (N:=some 77) #[true,true,true,true,true,true,true,true,true,true,true,true,true,true,false,false,false,false,false,false,false,false,false] rfl rfl (one_of HT_.out (by kernel_rfl)) (by decide) (fun K hK=>?_)
          refine goes_ Tryd.func16 (by kernel_rfl) rfl #[.agg #[.int .u32 a0_0,.slice A0_1 l0_1.length c0_1],.agg #[.int .u32 a0_0,.slice A0_1 l0_1.length c0_1]] (by rfl) rfl rfl (by (try simp only [List.map_toArray,List.map_cons,List.map_nil]);first|done|rfl|(simp only [List.length_drop,List.length_take];rfl)) ?_
          with_reducible refine (ckone_State_Same.calls a0_0 _ _ l0_1 a0_0 _ _ l0_1 true _ ?side1 ?side2 ?side3 ?side4 A98.out).mono ?_
          (case side1=>repeat (first|exact (Kd.C_below HR0_1.out HB.out)|(with_reducible refine Kd.C_alloc ?_ _)|(with_reducible refine Kd.C_drewN ?_ _)|(with_reducible refine Kd.C_drew ?_)))
          (case side2=>exact HC0_1.out)
          (case side3=>repeat (first|exact (Kd.C_below HR0_1.out HB.out)|(with_reducible refine Kd.C_alloc ?_ _)|(with_reducible refine Kd.C_drewN ?_ _)|(with_reducible refine Kd.C_drew ?_)))
          (case side4=>exact HC0_1.out)
          rintro e w106 ⟨rfl,hb⟩
          refine ⟨_,rfl,?_⟩
          have n0_:=Aside0.mk (Kd.R_below (by (with_reducible repeat (first|apply Kd.R_alloc|apply Kd.R_drewN|apply Kd.R_drew));exact HO_214001.out) hb)
          have n1_:=Aside0.mk (Kd.R_below (by (with_reducible repeat (first|apply Kd.R_alloc|apply Kd.R_drewN|apply Kd.R_drew));exact HO_215001.out) hb)
          have n2_:=Aside0.mk (blk_below (g:=gb200) (o:=.cells #[.int .u32 a0_0,.slice A0_1 l0_1.length c0_1] 25 (0,0)) (by (with_reducible repeat (first|apply blk_drewN|apply blk_drew|apply blk_alloc));exact BK200.out) hb)
          have n3_:=Aside0.mk (blk_below (g:=gb201) (o:=.cells #[.int .u32 a1_0,.slice A1_1 l1_1.length c1_1] 25 (0,0)) (by (with_reducible repeat (first|apply blk_drewN|apply blk_drew|apply blk_alloc));exact BK201.out) hb)
          have n4_:=Aside0.mk (blk_below (g:=gb213) (o:=.cells #[.int .u32 t205,.slice Ao39 t206.length co39] 30 (0,0)) (by (with_reducible repeat (first|apply blk_drewN|apply blk_drew|apply blk_alloc));exact BK213.out) hb)
          have n5_:=Aside0.mk (blk_below (g:=gb214) (o:=.cells #[.int .u32 t209,.slice Ao42 t210.length co42] 30 (0,0)) (by (with_reducible repeat (first|apply blk_drewN|apply blk_drew|apply blk_alloc));exact BK214.out) hb)
          have n6_:=Aside0.mk (below_step (by repeat (first|(with_reducible first|exact HB.out|apply below_alloc|apply pw_below_drewN|apply below_drew1|refine below_set ?_ GE200.out|refine below_set ?_ GE201.out|refine below_set ?_ GE213.out|refine below_set ?_ GE214.out)|exact HB.out)) hb)
          clear HO_214001
          clear HO_215001
          clear BK200
          clear BK201
          clear BK213
          clear BK214
          clear HB
          have HO_214001:=n0_
          have HO_215001:=n1_
          have BK200:=n2_
          have BK201:=n3_
          have BK213:=n4_
          have BK214:=n5_
          have HB:=n6_
          clear n0_ n1_ n2_ n3_ n4_ n5_ n6_
          (try clear hb)
          (try clear hb2)
          (try clear hk)
          (try clear hi)
          refine hK.out _ _ ⟨(blk_cell BK200.out 0).trans rfl,(blk_cell BK200.out 1).trans rfl,(blk_cell BK201.out 0).trans rfl,(blk_cell BK201.out 1).trans rfl,(blk_cell BK213.out 0).trans rfl,(blk_cell BK213.out 1).trans rfl,(blk_cell BK214.out 0).trans rfl,(blk_cell BK214.out 1).trans rfl⟩ (fun hHeld=>?_)
          clear hK K
          refine norm_ (a':=?_) ?_ ?_
          rotate_left
          ·show Act.put _ (some 77) _ = _
           simp only [Act.put,sB,sZ,sS,i64_w,i32_w]
           rfl
          refine pure_ (i:=14) (N:=some 78) (v:=?_) (a':=?_) #[true,true,true,true,true,true,true,true,true,true,true,true,true,true,true,false,false,false,false,false,false,false,false] rfl rfl (any_of HT_.out (by kernel_rfl)) (fun _ _ _ h=>h) (Or.inl ⟨by rfl,?_⟩) ?_ ?_
          rotate_left
          ·intro w'
           go_simp
           with_reducible rfl
          rotate_left
          ·simp only [Act.put,sB,sZ,sS,i64_w,i32_w]
           rfl
          refine pure_ (i:=15) (N:=some 79) (v:=?_) (a':=?_) #[true,true,true,true,true,true,true,true,true,true,true,true,true,true,true,true,false,false,false,false,false,false,false] rfl rfl (any_of HT_.out (by kernel_rfl)) (fun _ _ _ h=>h) (Or.inl ⟨by rfl,?_⟩) ?_ ?_
          rotate_left
          ·intro w'
           go_simp
           with_reducible rfl
          rotate_left
          ·simp only [Act.put,sB,sZ,sS,i64_w,i32_w]
           rfl
          refine pure_ (i:=16) (N:=some 80) (v:=?_) (a':=?_) #[true,true,true,true,true,true,true,true,true,true,true,true,true,true,true,true,true,false,false,false,false,false,false] rfl rfl (any_of HT_.out (by kernel_rfl)) (fun _ _ _ h=>h) (Or.inl ⟨by rfl,?_⟩) ?_ ?_
          rotate_left
          ·intro w'
           go_simp
           with_reducible rfl
          rotate_left
          ·simp only [Act.put,sB,sZ,sS,i64_w,i32_w]
           rfl
          refine pure_ (i:=18) (N:=some 82) (v:=?_) (a':=?_) #[true,true,true,true,true,true,true,true,true,true,true,true,true,true,true,true,true,false,true,false,false,false,false] rfl rfl (any_of HT_.out (by kernel_rfl)) (fun _ _ _ h=>h) (Or.inl ⟨by rfl,?_⟩) ?_ ?_
          rotate_left
          ·intro w'
           go_simp
           with_reducible rfl
          rotate_left
          ·simp only [Act.put,sB,sZ,sS,i64_w,i32_w]
           rfl
          refine one_ (i:=17) (N:=some 81) #[true,true,true,true,true,true,true,true,true,true,true,true,true,true,true,true,true,true,true,false,false,false,false] rfl rfl (one_of HT_.out (by kernel_rfl)) (by decide) (fun K hK=>?_)
          refine goes_ Tryd.func18 (by kernel_rfl) rfl #[.string a2] (by rfl) rfl rfl (by (try simp only [List.map_toArray,List.map_cons,List.map_nil]);first|done|rfl|(simp only [List.length_drop,List.length_take];rfl)) ?_
          with_reducible refine (ckone_File.calls kj30 a2 t224 _ A100.out).mono ?_
          rintro e w' ⟨rfl,⟨nd,rfl⟩⟩
          refine ⟨_,rfl,?_⟩
          refine hK.out _ _ ⟨(blk_cell BK200.out 0).trans rfl,(blk_cell BK200.out 1).trans rfl,(blk_cell BK201.out 0).trans rfl,(blk_cell BK201.out 1).trans rfl,(blk_cell BK213.out 0).trans rfl,(blk_cell BK213.out 1).trans rfl,(blk_cell BK214.out 0).trans rfl,(blk_cell BK214.out 1).trans rfl⟩ (fun hHeld=>?_)
          clear hK K
          refine norm_ (a':=?_) ?_ ?_
          rotate_left
          ·show Act.put _ (some 81) _ = _
           simp only [Act.put,sB,sZ,sS,i64_w,i32_w]
           rfl
          refine one_ (i:=19) (N:=some 83) #[true,true,true,true,true,true,true,true,true,true,true,true,true,true,true,true,true,true,true,true,false,false,false] rfl rfl (one_of HT_.out (by kernel_rfl)) (by decide) (fun K hK=>?_)
          refine goes_ Tryd.func19 (by kernel_rfl) rfl #[.string a2] (by rfl) rfl rfl (by (try simp only [List.map_toArray,List.map_cons,List.map_nil]);first|done|rfl|(simp only [List.length_drop,List.length_take];rfl)) ?_
          with_reducible refine (bosunref04_Name.calls kj30 a2 t225 _ A101.out).mono ?_
          rintro e w' ⟨rfl,⟨nd,rfl⟩⟩
          refine ⟨_,rfl,?_⟩
          refine hK.out _ _ ⟨(blk_cell BK200.out 0).trans rfl,(blk_cell BK200.out 1).trans rfl,(blk_cell BK201.out 0).trans rfl,(blk_cell BK201.out 1).trans rfl,(blk_cell BK213.out 0).trans rfl,(blk_cell BK213.out 1).trans rfl,(blk_cell BK214.out 0).trans rfl,(blk_cell BK214.out 1).trans rfl⟩ (fun hHeld=>?_)
          clear hK K
          refine norm_ (a':=?_) ?_ ?_
          rotate_left
          ·show Act.put _ (some 83) _ = _
           simp only [Act.put,sB,sZ,sS,i64_w,i32_w]
           rfl
          refine pure_ (i:=20) (N:=some 84) (v:=?_) (a':=?_) #[true,true,true,true,true,true,true,true,true,true,true,true,true,true,true,true,true,true,true,true,true,false,false] rfl rfl (any_of HT_.out (by kernel_rfl)) (fun _ _ _ h=>h) (Or.inl ⟨by rfl,?_⟩) ?_ ?_
          rotate_left
          ·intro w'
           go_simp
           with_reducible rfl
          rotate_left
          ·simp only [Act.put,sB,sZ,sS,i64_w,i32_w]
           rfl
          refine pure_ (i:=21) (N:=some 85) (v:=?_) (a':=?_) #[true,true,true,true,true,true,true,true,true,true,true,true,true,true,true,true,true,true,true,true,true,true,false] rfl rfl (any_of HT_.out (by kernel_rfl)) (fun _ _ _ h=>h) (Or.inl ⟨by rfl,?_⟩) ?_ ?_
          rotate_left
          ·intro w'
           go_simp
           with_reducible rfl
          rotate_left
          ·simp only [Act.put,sB,sZ,sS,i64_w,i32_w]
           rfl
          refine pure_ (i:=22) (N:=some 6) (v:=?_) (a':=?_) #[true,true,true,true,true,true,true,true,true,true,true,true,true,true,true,true,true,true,true,true,true,true,true] rfl rfl (any_of HT_.out (by kernel_rfl)) (fun _ _ _ h=>h) (Or.inl ⟨by rfl,?_⟩) ?_ ?_
          rotate_left
          ·intro w'
           go_simp
           with_reducible rfl
          rotate_left
          ·simp only [Act.put,sB,sZ,sS,i64_w,i32_w]
           rfl
          refine done_ (done_of HT_.out (by kernel_rfl)) ?_
          try go_wp2
          go_ret
          exact ⟨by first|rfl|(simp [errW_none,errW_some] <;> rfl)|(simp [*,errW_none,errW_some] <;> rfl),by repeat (first|(with_reducible first|exact HB.out|apply below_alloc|apply pw_below_drewN|apply below_drew1|refine below_set ?_ GE200.out|refine below_set ?_ GE201.out|refine below_set ?_ GE213.out|refine below_set ?_ GE214.out)|exact HB.out)⟩
         ·replace c99:=Bool.eq_false_iff.mpr c99
          subst c99
          have H1 : (some false) = some r:=by rw [if_neg (show ¬ (false = true) by decide)] at H;exact H
          clear H
          have H:=H1
          clear H1
          obtain rfl:=Option.some.inj H
          try go_wp2
          have n0_:=Aside0.mk (Kd.R_drew HO_214001.out)
          have n1_:=Aside0.mk (Kd.R_drew HO_215001.out)
          have n2_:=Aside0.mk (blk_drew BK200.out)
          have n3_:=Aside0.mk (blk_drew BK201.out)
          have n4_:=Aside0.mk (blk_drew BK213.out)
          have n5_:=Aside0.mk (blk_drew BK214.out)
          have n6_:=Aside0.mk (below_drew1 HB.out)
          clear HO_214001
          clear HO_215001
          clear BK200
          clear BK201
          clear BK213
          clear BK214
          clear HB
          have HO_214001:=n0_
          have HO_215001:=n1_
          have BK200:=n2_
          have BK201:=n3_
          have BK213:=n4_
          have BK214:=n5_
          have HB:=n6_
          clear n0_ n1_ n2_ n3_ n4_ n5_ n6_
          refine start_ (n:=23) (S:=fun w'=>w'.cell? ⟨gb200,0,none⟩ = some (.int .u32 a0_0) ∧ w'.cell? ⟨gb200,1,none⟩ = some (.slice A0_1 l0_1.length c0_1) ∧ w'.cell? ⟨gb201,0,none⟩ = some (.int .u32 a1_0) ∧ w'.cell? ⟨gb201,1,none⟩ = some (.slice A1_1 l1_1.length c1_1) ∧ w'.cell? ⟨gb213,0,none⟩ = some (.int .u32 t205) ∧ w'.cell? ⟨gb213,1,none⟩ = some (.slice Ao39 t206.length co39) ∧ w'.cell? ⟨gb214,0,none⟩ = some (.int .u32 t209) ∧ w'.cell? ⟨gb214,1,none⟩ = some (.slice Ao42 t210.length co42)) (ds:=[]) #[false,false,false,false,false,false,false,false,false,false,false,false,false,false,false,false,false,false,false,false,false,false,false] (by kernel_rfl) rfl rfl ⟨(blk_cell BK200.out 0).trans rfl,(blk_cell BK200.out 1).trans rfl,(blk_cell BK201.out 0).trans rfl,(blk_cell BK201.out 1).trans rfl,(blk_cell BK213.out 0).trans rfl,(blk_cell BK213.out 1).trans rfl,(blk_cell BK214.out 0).trans rfl,(blk_cell BK214.out 1).trans rfl⟩ (fun hHeld=>?_);refine with_tabW bosunlaw17_CkoneCodes.tab8 bosunlaw17_CkoneCodes.bits8 (fun HT_ HW_=>?_)
          generalize wc.drew = w107 at HO_214001 HO_215001 BK200 BK201 BK213 BK214 HB hHeld ⊢
          refine one_ (i:=0) (N:=some 64) #[true,false,false,false,false,false,false,false,false,false,false,false,false,false,false,false,false,false,false,false,false,false,false] rfl rfl (one_of HT_.out (by kernel_rfl)) (by decide) (fun K hK=>?_)
          refine goes_ Tryd.func10 (by kernel_rfl) rfl #[] (by rfl) rfl rfl (by (try simp only [List.map_toArray,List.map_cons,List.map_nil]);first|done|rfl|(simp only [List.length_drop,List.length_take];rfl)) ?_
          with_reducible refine (bosunlaw17_Awake.calls kj30  true _ A93.out).mono ?_
          rintro e w108 ⟨rfl,hb⟩
          refine ⟨_,rfl,?_⟩
          have n0_:=Aside0.mk (Kd.R_below (by (with_reducible repeat (first|apply Kd.R_alloc|apply Kd.R_drewN|apply Kd.R_drew));exact HO_214001.out) hb)
          have n1_:=Aside0.mk (Kd.R_below (by (with_reducible repeat (first|apply Kd.R_alloc|apply Kd.R_drewN|apply Kd.R_drew));exact HO_215001.out) hb)
          have n2_:=Aside0.mk (blk_below (g:=gb200) (o:=.cells #[.int .u32 a0_0,.slice A0_1 l0_1.length c0_1] 25 (0,0)) (by (with_reducible repeat (first|apply blk_drewN|apply blk_drew|apply blk_alloc));exact BK200.out) hb)
          have n3_:=Aside0.mk (blk_below (g:=gb201) (o:=.cells #[.int .u32 a1_0,.slice A1_1 l1_1.length c1_1] 25 (0,0)) (by (with_reducible repeat (first|apply blk_drewN|apply blk_drew|apply blk_alloc));exact BK201.out) hb)
          have n4_:=Aside0.mk (blk_below (g:=gb213) (o:=.cells #[.int .u32 t205,.slice Ao39 t206.length co39] 30 (0,0)) (by (with_reducible repeat (first|apply blk_drewN|apply blk_drew|apply blk_alloc));exact BK213.out) hb)
          have n5_:=Aside0.mk (blk_below (g:=gb214) (o:=.cells #[.int .u32 t209,.slice Ao42 t210.length co42] 30 (0,0)) (by (with_reducible repeat (first|apply blk_drewN|apply blk_drew|apply blk_alloc));exact BK214.out) hb)
          have n6_:=Aside0.mk (below_step (by repeat (first|(with_reducible first|exact HB.out|apply below_alloc|apply pw_below_drewN|apply below_drew1|refine below_set ?_ GE200.out|refine below_set ?_ GE201.out|refine below_set ?_ GE213.out|refine below_set ?_ GE214.out)|exact HB.out)) hb)
          clear HO_214001
          clear HO_215001
          clear BK200
          clear BK201
          clear BK213
          clear BK214
          clear HB
          have HO_214001:=n0_
          have HO_215001:=n1_
          have BK200:=n2_
          have BK201:=n3_
          have BK213:=n4_
          have BK214:=n5_
          have HB:=n6_
          clear n0_ n1_ n2_ n3_ n4_ n5_ n6_
          (try clear hb)
          (try clear hb2)
          (try clear hk)
          (try clear hi)
          refine hK.out _ _ ⟨(blk_cell BK200.out 0).trans rfl,(blk_cell BK200.out 1).trans rfl,(blk_cell BK201.out 0).trans rfl,(blk_cell BK201.out 1).trans rfl,(blk_cell BK213.out 0).trans rfl,(blk_cell BK213.out 1).trans rfl,(blk_cell BK214.out 0).trans rfl,(blk_cell BK214.out 1).trans rfl⟩ (fun hHeld=>?_)
          clear hK K
          refine norm_ (a':=?_) ?_ ?_
          rotate_left
          ·show Act.put _ (some 64) _ = _
           simp only [Act.put,sB,sZ,sS,i64_w,i32_w]
           rfl
          refine pure_ (i:=1) (N:=some 65) (v:=?_) (a':=?_) #[true,true,false,false,false,false,false,false,false,false,false,false,false,false,false,false,false,false,false,false,false,false,false] rfl rfl (any_of HT_.out (by kernel_rfl)) (fun _ _ _ h=>h) (Or.inl ⟨by rfl,?_⟩) ?_ ?_
          rotate_left
          ·intro w'
           go_simp
           with_reducible rfl
          rotate_left
          ·simp only [Act.put,sB,sZ,sS,i64_w,i32_w]
           rfl
          refine take_ (i:=2) (N:=some 66) (v:=?_) (a':=?_) #[true,true,true,false,false,false,false,false,false,false,false,false,false,false,false,false,false,false,false,false,false,false,false] rfl rfl (take_ofW HT_.out HW_.out (by kernel_rfl)) (fun _ _ _ h=>h) (Or.inl ⟨by rfl,?_⟩) hHeld ?_ ?_
          rotate_left
          ·rintro w' ⟨s0,s1,s2,s3,s4,s5,s6,s7⟩
           go_simp
           with_reducible rfl
          rotate_left
          ·simp only [Act.put,sB,sZ,sS,i64_w,i32_w]
           rfl
          refine take_ (i:=3) (N:=some 67) (v:=?_) (a':=?_) #[true,true,true,true,false,false,false,false,false,false,false,false,false,false,false,false,false,false,false,false,false,false,false] rfl rfl (take_ofW HT_.out HW_.out (by kernel_rfl)) (fun _ _ _ h=>h) (Or.inl ⟨by rfl,?_⟩) hHeld ?_ ?_
          rotate_left
          ·rintro w' ⟨s0,s1,s2,s3,s4,s5,s6,s7⟩
           go_simp
           with_reducible rfl
          rotate_left
          ·simp only [Act.put,sB,sZ,sS,i64_w,i32_w]
           rfl
          refine take_ (i:=5) (N:=some 69) (v:=?_) (a':=?_) #[true,true,true,true,false,true,false,false,false,false,false,false,false,false,false,false,false,false,false,false,false,false,false] rfl rfl (take_ofW HT_.out HW_.out (by kernel_rfl)) (fun _ _ _ h=>h) (Or.inl ⟨by rfl,?_⟩) hHeld ?_ ?_
          rotate_left
          ·rintro w' ⟨s0,s1,s2,s3,s4,s5,s6,s7⟩
           go_simp
           with_reducible rfl
          rotate_left
          ·simp only [Act.put,sB,sZ,sS,i64_w,i32_w]
           rfl
          refine take_ (i:=6) (N:=some 70) (v:=?_) (a':=?_) #[true,true,true,true,false,true,true,false,false,false,false,false,false,false,false,false,false,false,false,false,false,false,false] rfl rfl (take_ofW HT_.out HW_.out (by kernel_rfl)) (fun _ _ _ h=>h) (Or.inl ⟨by rfl,?_⟩) hHeld ?_ ?_
          rotate_left
          ·rintro w' ⟨s0,s1,s2,s3,s4,s5,s6,s7⟩
           go_simp
           with_reducible rfl
          rotate_left
          ·simp only [Act.put,sB,sZ,sS,i64_w,i32_w]
           rfl
          refine one_ (i:=4) (N:=some 68) #[true,true,true,true,true,true,true,false,false,false,false,false,false,false,false,false,false,false,false,false,false,false,false] rfl rfl (one_of HT_.out (by kernel_rfl)) (by decide) (fun K hK=>?_)
          refine goes_ Tryd.func16 (by kernel_rfl) rfl #[.agg #[.int .u32 a0_0,.slice A0_1 l0_1.length c0_1],.agg #[.int .u32 a1_0,.slice A1_1 l1_1.length c1_1]] (by rfl) rfl rfl (by (try simp only [List.map_toArray,List.map_cons,List.map_nil]);first|done|rfl|(simp only [List.length_drop,List.length_take];rfl)) ?_
          with_reducible refine (ckone_State_Same.calls a0_0 _ _ l0_1 a1_0 _ _ l1_1 t221 _ ?side1 ?side2 ?side3 ?side4 A95.out).mono ?_
          (case side1=>repeat (first|exact (Kd.C_below HR0_1.out HB.out)|(with_reducible refine Kd.C_alloc ?_ _)|(with_reducible refine Kd.C_drewN ?_ _)|(with_reducible refine Kd.C_drew ?_)))
          (case side2=>exact HC0_1.out)
          (case side3=>repeat (first|exact (Kd.C_below HR1_1.out HB.out)|(with_reducible refine Kd.C_alloc ?_ _)|(with_reducible refine Kd.C_drewN ?_ _)|(with_reducible refine Kd.C_drew ?_)))
          (case side4=>exact HC1_1.out)
          rintro e w109 ⟨rfl,hb⟩
          refine ⟨_,rfl,?_⟩
          have n0_:=Aside0.mk (Kd.R_below (by (with_reducible repeat (first|apply Kd.R_alloc|apply Kd.R_drewN|apply Kd.R_drew));exact HO_214001.out) hb)
          have n1_:=Aside0.mk (Kd.R_below (by (with_reducible repeat (first|apply Kd.R_alloc|apply Kd.R_drewN|apply Kd.R_drew));exact HO_215001.out) hb)
          have n2_:=Aside0.mk (blk_below (g:=gb200) (o:=.cells #[.int .u32 a0_0,.slice A0_1 l0_1.length c0_1] 25 (0,0)) (by (with_reducible repeat (first|apply blk_drewN|apply blk_drew|apply blk_alloc));exact BK200.out) hb)
          have n3_:=Aside0.mk (blk_below (g:=gb201) (o:=.cells #[.int .u32 a1_0,.slice A1_1 l1_1.length c1_1] 25 (0,0)) (by (with_reducible repeat (first|apply blk_drewN|apply blk_drew|apply blk_alloc));exact BK201.out) hb)
          have n4_:=Aside0.mk (blk_below (g:=gb213) (o:=.cells #[.int .u32 t205,.slice Ao39 t206.length co39] 30 (0,0)) (by (with_reducible repeat (first|apply blk_drewN|apply blk_drew|apply blk_alloc));exact BK213.out) hb)
          have n5_:=Aside0.mk (blk_below (g:=gb214) (o:=.cells #[.int .u32 t209,.slice Ao42 t210.length co42] 30 (0,0)) (by (with_reducible repeat (first|apply blk_drewN|apply blk_drew|apply blk_alloc));exact BK214.out) hb)
          have n6_:=Aside0.mk (below_step (by repeat (first|(with_reducible first|exact HB.out|apply below_alloc|apply pw_below_drewN|apply below_drew1|refine below_set ?_ GE200.out|refine below_set ?_ GE201.out|refine below_set ?_ GE213.out|refine below_set ?_ GE214.out)|exact HB.out)) hb)
          clear HO_214001
          clear HO_215001
          clear BK200
          clear BK201
          clear BK213
          clear BK214
          clear HB
          have HO_214001:=n0_
          have HO_215001:=n1_
          have BK200:=n2_
          have BK201:=n3_
          have BK213:=n4_
          have BK214:=n5_
          have HB:=n6_
          clear n0_ n1_ n2_ n3_ n4_ n5_ n6_
          (try clear hb)
          (try clear hb2)
          (try clear hk)
          (try clear hi)
          refine hK.out _ _ ⟨(blk_cell BK200.out 0).trans rfl,(blk_cell BK200.out 1).trans rfl,(blk_cell BK201.out 0).trans rfl,(blk_cell BK201.out 1).trans rfl,(blk_cell BK213.out 0).trans rfl,(blk_cell BK213.out 1).trans rfl,(blk_cell BK214.out 0).trans rfl,(blk_cell BK214.out 1).trans rfl⟩ (fun hHeld=>?_)
          clear hK K
          refine norm_ (a':=?_) ?_ ?_
          rotate_left
          ·show Act.put _ (some 68) _ = _
           simp only [Act.put,sB,sZ,sS,i64_w,i32_w]
           rfl
          refine one_ (i:=7) (N:=some 71) #[true,true,true,true,true,true,true,true,false,false,false,false,false,false,false,false,false,false,false,false,false,false,false] rfl rfl (one_of HT_.out (by kernel_rfl)) (by decide) (fun K hK=>?_)
          refine goes_ Tryd.func17 (by kernel_rfl) rfl #[.agg #[.int .u32 t205,.slice Ao39 t206.length co39],.agg #[.int .u32 t209,.slice Ao42 t210.length co42]] (by rfl) rfl rfl (by (try simp only [List.map_toArray,List.map_cons,List.map_nil]);first|done|rfl|(simp only [List.length_drop,List.length_take];rfl)) ?_
          with_reducible refine (bosunref17_Same.calls kj30 t205 _ _ t206 t209 _ _ t210 t222 _ ?side1 ?side2 ?side3 ?side4 A96.out).mono ?_
          (case side1=>repeat (first|exact (Kd.R_reads' HO_214001.out).2.2|(with_reducible refine Kd.C_alloc ?_ _)|(with_reducible refine Kd.C_drewN ?_ _)|(with_reducible refine Kd.C_drew ?_)))
          (case side2=>exact (Kd.R_reads' HO_214001.out).2.1)
          (case side3=>repeat (first|exact (Kd.R_reads' HO_215001.out).2.2|(with_reducible refine Kd.C_alloc ?_ _)|(with_reducible refine Kd.C_drewN ?_ _)|(with_reducible refine Kd.C_drew ?_)))
          (case side4=>exact (Kd.R_reads' HO_215001.out).2.1)
          rintro e w110 ⟨rfl,hb⟩
          refine ⟨_,rfl,?_⟩
          have n0_:=Aside0.mk (Kd.R_below (by (with_reducible repeat (first|apply Kd.R_alloc|apply Kd.R_drewN|apply Kd.R_drew));exact HO_214001.out) hb)
          have n1_:=Aside0.mk (Kd.R_below (by (with_reducible repeat (first|apply Kd.R_alloc|apply Kd.R_drewN|apply Kd.R_drew));exact HO_215001.out) hb)
          have n2_:=Aside0.mk (blk_below (g:=gb200) (o:=.cells #[.int .u32 a0_0,.slice A0_1 l0_1.length c0_1] 25 (0,0)) (by (with_reducible repeat (first|apply blk_drewN|apply blk_drew|apply blk_alloc));exact BK200.out) hb)
          have n3_:=Aside0.mk (blk_below (g:=gb201) (o:=.cells #[.int .u32 a1_0,.slice A1_1 l1_1.length c1_1] 25 (0,0)) (by (with_reducible repeat (first|apply blk_drewN|apply blk_drew|apply blk_alloc));exact BK201.out) hb)
          have n4_:=Aside0.mk (blk_below (g:=gb213) (o:=.cells #[.int .u32 t205,.slice Ao39 t206.length co39] 30 (0,0)) (by (with_reducible repeat (first|apply blk_drewN|apply blk_drew|apply blk_alloc));exact BK213.out) hb)
          have n5_:=Aside0.mk (blk_below (g:=gb214) (o:=.cells #[.int .u32 t209,.slice Ao42 t210.length co42] 30 (0,0)) (by (with_reducible repeat (first|apply blk_drewN|apply blk_drew|apply blk_alloc));exact BK214.out) hb)
          have n6_:=Aside0.mk (below_step (by repeat (first|(with_reducible first|exact HB.out|apply below_alloc|apply pw_below_drewN|apply below_drew1|refine below_set ?_ GE200.out|refine below_set ?_ GE201.out|refine below_set ?_ GE213.out|refine below_set ?_ GE214.out)|exact HB.out)) hb)
          clear HO_214001
          clear HO_215001
          clear BK200
          clear BK201
          clear BK213
          clear BK214
          clear HB
          have HO_214001:=n0_
          have HO_215001:=n1_
          have BK200:=n2_
          have BK201:=n3_
          have BK213:=n4_
          have BK214:=n5_
          have HB:=n6_
          clear n0_ n1_ n2_ n3_ n4_ n5_ n6_
          (try clear hb)
          (try clear hb2)
          (try clear hk)
          (try clear hi)
          refine hK.out _ _ ⟨(blk_cell BK200.out 0).trans rfl,(blk_cell BK200.out 1).trans rfl,(blk_cell BK201.out 0).trans rfl,(blk_cell BK201.out 1).trans rfl,(blk_cell BK213.out 0).trans rfl,(blk_cell BK213.out 1).trans rfl,(blk_cell BK214.out 0).trans rfl,(blk_cell BK214.out 1).trans rfl⟩ (fun hHeld=>?_)
          clear hK K
          refine norm_ (a':=?_) ?_ ?_
          rotate_left
          ·show Act.put _ (some 71) _ = _
           simp only [Act.put,sB,sZ,sS,i64_w,i32_w]
           rfl
          refine pure_ (i:=8) (N:=some 72) (v:=?_) (a':=?_) #[true,true,true,true,true,true,true,true,true,false,false,false,false,false,false,false,false,false,false,false,false,false,false] rfl rfl (any_of HT_.out (by kernel_rfl)) (fun _ _ _ h=>h) (Or.inl ⟨by rfl,?_⟩) ?_ ?_
          rotate_left
          ·intro w'
           go_simp
           with_reducible rfl
          rotate_left
          ·simp only [Act.put,sB,sZ,sS,i64_w,i32_w]
           rfl
          refine pure_ (i:=9) (N:=some 73) (v:=?_) (a':=?_) #[true,true,true,true,true,true,true,true,true,true,false,false,false,false,false,false,false,false,false,false,false,false,false] rfl rfl (any_of HT_.out (by kernel_rfl)) (fun _ _ _ h=>h) (Or.inl ⟨by rfl,?_⟩) ?_ ?_
          rotate_left
          ·intro w'
           go_simp
           with_reducible rfl
          rotate_left
          ·simp only [Act.put,sB,sZ,sS,i64_w,i32_w]
           rfl
          refine pure_ (i:=10) (N:=some 74) (v:=?_) (a':=?_) #[true,true,true,true,true,true,true,true,true,true,true,false,false,false,false,false,false,false,false,false,false,false,false] rfl rfl (any_of HT_.out (by kernel_rfl)) (fun _ _ _ h=>h) (Or.inl ⟨by rfl,?_⟩) ?_ ?_
          rotate_left
          ·intro w'
           go_simp
           with_reducible rfl
          rotate_left
          ·simp only [Act.put,sB,sZ,sS,i64_w,i32_w]
           rfl
          refine take_ (i:=11) (N:=some 75) (v:=?_) (a':=?_) #[true,true,true,true,true,true,true,true,true,true,true,true,false,false,false,false,false,false,false,false,false,false,false] rfl rfl (take_ofW HT_.out HW_.out (by kernel_rfl)) (fun _ _ _ h=>h) (Or.inl ⟨by rfl,?_⟩) hHeld ?_ ?_
          rotate_left
          ·rintro w' ⟨s0,s1,s2,s3,s4,s5,s6,s7⟩
           go_simp
           with_reducible rfl
          rotate_left
          ·simp only [Act.put,sB,sZ,sS,i64_w,i32_w]
           rfl
          refine take_ (i:=12) (N:=some 76) (v:=?_) (a':=?_) #[true,true,true,true,true,true,true,true,true,true,true,true,true,false,false,false,false,false,false,false,false,false,false] rfl rfl (take_ofW HT_.out HW_.out (by kernel_rfl)) (fun _ _ _ h=>h) (Or.inl ⟨by rfl,?_⟩) hHeld ?_ ?_
          rotate_left
          ·rintro w' ⟨s0,s1,s2,s3,s4,s5,s6,s7⟩
           go_simp
           with_reducible rfl
          rotate_left
          ·simp only [Act.put,sB,sZ,sS,i64_w,i32_w]
           rfl
          refine one_ (i:=13) (N:=some 77) #[true,true,true,true,true,true,true,true,true,true,true,true,true,true,false,false,false,false,false,false,false,false,false] rfl rfl (one_of HT_.out (by kernel_rfl)) (by decide) (fun K hK=>?_)
          refine goes_ Tryd.func16 (by kernel_rfl) rfl #[.agg #[.int .u32 a0_0,.slice A0_1 l0_1.length c0_1],.agg #[.int .u32 a0_0,.slice A0_1 l0_1.length c0_1]] (by rfl) rfl rfl (by (try simp only [List.map_toArray,List.map_cons,List.map_nil]);first|done|rfl|(simp only [List.length_drop,List.length_take];rfl)) ?_
          with_reducible refine (ckone_State_Same.calls a0_0 _ _ l0_1 a0_0 _ _ l0_1 false _ ?side1 ?side2 ?side3 ?side4 A98.out).mono ?_
          (case side1=>repeat (first|exact (Kd.C_below HR0_1.out HB.out)|(with_reducible refine Kd.C_alloc ?_ _)|(with_reducible refine Kd.C_drewN ?_ _)|(with_reducible refine Kd.C_drew ?_)))
          (case side2=>exact HC0_1.out)
          (case side3=>repeat (first|exact (Kd.C_below HR0_1.out HB.out)|(with_reducible refine Kd.C_alloc ?_ _)|(with_reducible refine Kd.C_drewN ?_ _)|(with_reducible refine Kd.C_drew ?_)))
          (case side4=>exact HC0_1.out)
          rintro e w111 ⟨rfl,hb⟩
          refine ⟨_,rfl,?_⟩
          have n0_:=Aside0.mk (Kd.R_below (by (with_reducible repeat (first|apply Kd.R_alloc|apply Kd.R_drewN|apply Kd.R_drew));exact HO_214001.out) hb)
          have n1_:=Aside0.mk (Kd.R_below (by (with_reducible repeat (first|apply Kd.R_alloc|apply Kd.R_drewN|apply Kd.R_drew));exact HO_215001.out) hb)
          have n2_:=Aside0.mk (blk_below (g:=gb200) (o:=.cells #[.int .u32 a0_0,.slice A0_1 l0_1.length c0_1] 25 (0,0)) (by (with_reducible repeat (first|apply blk_drewN|apply blk_drew|apply blk_alloc));exact BK200.out) hb)
          have n3_:=Aside0.mk (blk_below (g:=gb201) (o:=.cells #[.int .u32 a1_0,.slice A1_1 l1_1.length c1_1] 25 (0,0)) (by (with_reducible repeat (first|apply blk_drewN|apply blk_drew|apply blk_alloc));exact BK201.out) hb)
          have n4_:=Aside0.mk (blk_below (g:=gb213) (o:=.cells #[.int .u32 t205,.slice Ao39 t206.length co39] 30 (0,0)) (by (with_reducible repeat (first|apply blk_drewN|apply blk_drew|apply blk_alloc));exact BK213.out) hb)
          have n5_:=Aside0.mk (blk_below (g:=gb214) (o:=.cells #[.int .u32 t209,.slice Ao42 t210.length co42] 30 (0,0)) (by (with_reducible repeat (first|apply blk_drewN|apply blk_drew|apply blk_alloc));exact BK214.out) hb)
          have n6_:=Aside0.mk (below_step (by repeat (first|(with_reducible first|exact HB.out|apply below_alloc|apply pw_below_drewN|apply below_drew1|refine below_set ?_ GE200.out|refine below_set ?_ GE201.out|refine below_set ?_ GE213.out|refine below_set ?_ GE214.out)|exact HB.out)) hb)
          clear HO_214001
          clear HO_215001
          clear BK200
          clear BK201
          clear BK213
          clear BK214
          clear HB
          have HO_214001:=n0_
          have HO_215001:=n1_
          have BK200:=n2_
          have BK201:=n3_
          have BK213:=n4_
          have BK214:=n5_
          have HB:=n6_
          clear n0_ n1_ n2_ n3_ n4_ n5_ n6_
          (try clear hb)
          (try clear hb2)
          (try clear hk)
          (try clear hi)
          refine hK.out _ _ ⟨(blk_cell BK200.out 0).trans rfl,(blk_cell BK200.out 1).trans rfl,(blk_cell BK201.out 0).trans rfl,(blk_cell BK201.out 1).trans rfl,(blk_cell BK213.out 0).trans rfl,(blk_cell BK213.out 1).trans rfl,(blk_cell BK214.out 0).trans rfl,(blk_cell BK214.out 1).trans rfl⟩ (fun hHeld=>?_)
          clear hK K
          refine norm_ (a':=?_) ?_ ?_
          rotate_left
          ·show Act.put _ (some 77) _ = _
           simp only [Act.put,sB,sZ,sS,i64_w,i32_w]
           rfl
          refine pure_ (i:=14) (N:=some 78) (v:=?_) (a':=?_) #[true,true,true,true,true,true,true,true,true,true,true,true,true,true,true,false,false,false,false,false,false,false,false] rfl rfl (any_of HT_.out (by kernel_rfl)) (fun _ _ _ h=>h) (Or.inl ⟨by rfl,?_⟩) ?_ ?_
          rotate_left
          ·intro w'
           go_simp
           with_reducible rfl
          rotate_left
          ·simp only [Act.put,sB,sZ,sS,i64_w,i32_w]
           rfl
          refine pure_ (i:=15) (N:=some 79) (v:=?_) (a':=?_) #[true,true,true,true,true,true,true,true,true,true,true,true,true,true,true,true,false,false,false,false,false,false,false] rfl rfl (any_of HT_.out (by kernel_rfl)) (fun _ _ _ h=>h) (Or.inl ⟨by rfl,?_⟩) ?_ ?_
          rotate_left
          ·intro w'
           go_simp
           with_reducible rfl
          rotate_left
          ·simp only [Act.put,sB,sZ,sS,i64_w,i32_w]
           rfl
          refine pure_ (i:=16) (N:=some 80) (v:=undef) (a':=?_) #[true,true,true,true,true,true,true,true,true,true,true,true,true,true,true,true,true,false,false,false,false,false,false] rfl rfl (any_of HT_.out (by kernel_rfl)) (fun _ _ _ h=>h) (Or.inr ⟨by rfl,rfl⟩) ?_ ?_
          rotate_left
          ·simp only [Act.put,sB,sZ,sS,i64_w,i32_w]
           rfl
          refine pure_ (i:=17) (N:=some 81) (v:=undef) (a':=?_) #[true,true,true,true,true,true,true,true,true,true,true,true,true,true,true,true,true,true,false,false,false,false,false] rfl rfl (any_of HT_.out (by kernel_rfl)) (fun _ _ _ h=>h) (Or.inr ⟨by rfl,rfl⟩) ?_ ?_
          rotate_left
          ·simp only [Act.put,sB,sZ,sS,i64_w,i32_w]
           rfl
          refine pure_ (i:=18) (N:=some 82) (v:=undef) (a':=?_) #[true,true,true,true,true,true,true,true,true,true,true,true,true,true,true,true,true,true,true,false,false,false,false] rfl rfl (any_of HT_.out (by kernel_rfl)) (fun _ _ _ h=>h) (Or.inr ⟨by rfl,rfl⟩) ?_ ?_
          rotate_left
          ·simp only [Act.put,sB,sZ,sS,i64_w,i32_w]
           rfl
          refine pure_ (i:=19) (N:=some 83) (v:=undef) (a':=?_) #[true,true,true,true,true,true,true,true,true,true,true,true,true,true,true,true,true,true,true,true,false,false,false] rfl rfl (any_of HT_.out (by kernel_rfl)) (fun _ _ _ h=>h) (Or.inr ⟨by rfl,rfl⟩) ?_ ?_
          rotate_left
          ·simp only [Act.put,sB,sZ,sS,i64_w,i32_w]
           rfl
          refine pure_ (i:=20) (N:=some 84) (v:=undef) (a':=?_) #[true,true,true,true,true,true,true,true,true,true,true,true,true,true,true,true,true,true,true,true,true,false,false] rfl rfl (any_of HT_.out (by kernel_rfl)) (fun _ _ _ h=>h) (Or.inr ⟨by rfl,rfl⟩) ?_ ?_
          rotate_left
          ·simp only [Act.put,sB,sZ,sS,i64_w,i32_w]
           rfl
          refine pure_ (i:=21) (N:=some 85) (v:=?_) (a':=?_) #[true,true,true,true,true,true,true,true,true,true,true,true,true,true,true,true,true,true,true,true,true,true,false] rfl rfl (any_of HT_.out (by kernel_rfl)) (fun _ _ _ h=>h) (Or.inl ⟨by rfl,?_⟩) ?_ ?_
          rotate_left
          ·intro w'
           go_simp
           with_reducible rfl
          rotate_left
          ·simp only [Act.put,sB,sZ,sS,i64_w,i32_w]
           rfl
          refine pure_ (i:=22) (N:=some 6) (v:=?_) (a':=?_) #[true,true,true,true,true,true,true,true,true,true,true,true,true,true,true,true,true,true,true,true,true,true,true] rfl rfl (any_of HT_.out (by kernel_rfl)) (fun _ _ _ h=>h) (Or.inl ⟨by rfl,?_⟩) ?_ ?_
          rotate_left
          ·intro w'
           go_simp
           with_reducible rfl
          rotate_left
          ·simp only [Act.put,sB,sZ,sS,i64_w,i32_w]
           rfl
          refine done_ (done_of HT_.out (by kernel_rfl)) ?_
          try go_wp2
          go_ret
          exact ⟨by first|rfl|(simp [errW_none,errW_some] <;> rfl)|(simp [*,errW_none,errW_some] <;> rfl),by repeat (first|(with_reducible first|exact HB.out|apply below_alloc|apply pw_below_drewN|apply below_drew1|refine below_set ?_ GE200.out|refine below_set ?_ GE201.out|refine below_set ?_ GE213.out|refine below_set ?_ GE214.out)|exact HB.out)⟩
        ·rw [if_neg c97] at H
         have c97b0 : (t221 == t222) = false:=by simpa using c97
         (try (have c97b1 : decide (t221 = t222) = false:=by simpa using c97))
         (try (have c97b2 : (t221 == t222) = false:=by simpa using c97))
         (try (have c97b3 : ¬ (t221 = t222):=by simpa using c97))
         clear c97
         obtain rfl:=Option.some.inj H
         try go_wp2
         have n0_:=Aside0.mk (Kd.R_drew HO_214001.out)
         have n1_:=Aside0.mk (Kd.R_drew HO_215001.out)
         have n2_:=Aside0.mk (blk_drew BK200.out)
         have n3_:=Aside0.mk (blk_drew BK201.out)
         have n4_:=Aside0.mk (blk_drew BK213.out)
         have n5_:=Aside0.mk (blk_drew BK214.out)
         have n6_:=Aside0.mk (below_drew1 HB.out)
         clear HO_214001
         clear HO_215001
         clear BK200
         clear BK201
         clear BK213
         clear BK214
         clear HB
         have HO_214001:=n0_
         have HO_215001:=n1_
         have BK200:=n2_
         have BK201:=n3_
         have BK213:=n4_
         have BK214:=n5_
         have HB:=n6_
         clear n0_ n1_ n2_ n3_ n4_ n5_ n6_
         refine start_ (n:=23) (S:=fun w'=>w'.cell? ⟨gb200,0,none⟩ = some (.int .u32 a0_0) ∧ w'.cell? ⟨gb200,1,none⟩ = some (.slice A0_1 l0_1.length c0_1) ∧ w'.cell? ⟨gb201,0,none⟩ = some (.int .u32 a1_0) ∧ w'.cell? ⟨gb201,1,none⟩ = some (.slice A1_1 l1_1.length c1_1) ∧ w'.cell? ⟨gb213,0,none⟩ = some (.int .u32 t205) ∧ w'.cell? ⟨gb213,1,none⟩ = some (.slice Ao39 t206.length co39) ∧ w'.cell? ⟨gb214,0,none⟩ = some (.int .u32 t209) ∧ w'.cell? ⟨gb214,1,none⟩ = some (.slice Ao42 t210.length co42)) (ds:=[]) #[false,false,false,false,false,false,false,false,false,false,false,false,false,false,false,false,false,false,false,false,false,false,false] (by kernel_rfl) rfl rfl ⟨(blk_cell BK200.out 0).trans rfl,(blk_cell BK200.out 1).trans rfl,(blk_cell BK201.out 0).trans rfl,(blk_cell BK201.out 1).trans rfl,(blk_cell BK213.out 0).trans rfl,(blk_cell BK213.out 1).trans rfl,(blk_cell BK214.out 0).trans rfl,(blk_cell BK214.out 1).trans rfl⟩ (fun hHeld=>?_);refine with_tabW bosunlaw17_CkoneCodes.tab8 bosunlaw17_CkoneCodes.bits8 (fun HT_ HW_=>?_)
         generalize wc.drew = w112 at HO_214001 HO_215001 BK200 BK201 BK213 BK214 HB hHeld ⊢
         refine one_ (i:=0) (N:=some 64) #[true,false,false,false,false,false,false,false,false,false,false,false,false,false,false,false,false,false,false,false,false,false,false] rfl rfl (one_of HT_.out (by kernel_rfl)) (by decide) (fun K hK=>?_)
         refine goes_ Tryd.func10 (by kernel_rfl) rfl #[] (by rfl) rfl rfl (by (try simp only [List.map_toArray,List.map_cons,List.map_nil]);first|done|rfl|(simp only [List.length_drop,List.length_take];rfl)) ?_
         with_reducible refine (bosunlaw17_Awake.calls kj30  true _ A93.out).mono ?_
         rintro e w113 ⟨rfl,hb⟩
         refine ⟨_,rfl,?_⟩
         have n0_:=Aside0.mk (Kd.R_below (by (with_reducible repeat (first|apply Kd.R_alloc|apply Kd.R_drewN|apply Kd.R_drew));exact HO_214001.out) hb)
         have n1_:=Aside0.mk (Kd.R_below (by (with_reducible repeat (first|apply Kd.R_alloc|apply Kd.R_drewN|apply Kd.R_drew));exact HO_215001.out) hb)
         have n2_:=Aside0.mk (blk_below (g:=gb200) (o:=.cells #[.int .u32 a0_0,.slice A0_1 l0_1.length c0_1] 25 (0,0)) (by (with_reducible repeat (first|apply blk_drewN|apply blk_drew|apply blk_alloc));exact BK200.out) hb)
         have n3_:=Aside0.mk (blk_below (g:=gb201) (o:=.cells #[.int .u32 a1_0,.slice A1_1 l1_1.length c1_1] 25 (0,0)) (by (with_reducible repeat (first|apply blk_drewN|apply blk_drew|apply blk_alloc));exact BK201.out) hb)
         have n4_:=Aside0.mk (blk_below (g:=gb213) (o:=.cells #[.int .u32 t205,.slice Ao39 t206.length co39] 30 (0,0)) (by (with_reducible repeat (first|apply blk_drewN|apply blk_drew|apply blk_alloc));exact BK213.out) hb)
         have n5_:=Aside0.mk (blk_below (g:=gb214) (o:=.cells #[.int .u32 t209,.slice Ao42 t210.length co42] 30 (0,0)) (by (with_reducible repeat (first|apply blk_drewN|apply blk_drew|apply blk_alloc));exact BK214.out) hb)
         have n6_:=Aside0.mk (below_step (by repeat (first|(with_reducible first|exact HB.out|apply below_alloc|apply pw_below_drewN|apply below_drew1|refine below_set ?_ GE200.out|refine below_set ?_ GE201.out|refine below_set ?_ GE213.out|refine below_set ?_ GE214.out)|exact HB.out)) hb)
         clear HO_214001
         clear HO_215001
         clear BK200
         clear BK201
         clear BK213
         clear BK214
         clear HB
         have HO_214001:=n0_
         have HO_215001:=n1_
         have BK200:=n2_
         have BK201:=n3_
         have BK213:=n4_
         have BK214:=n5_
         have HB:=n6_
         clear n0_ n1_ n2_ n3_ n4_ n5_ n6_
         (try clear hb)
         (try clear hb2)
         (try clear hk)
         (try clear hi)
         refine hK.out _ _ ⟨(blk_cell BK200.out 0).trans rfl,(blk_cell BK200.out 1).trans rfl,(blk_cell BK201.out 0).trans rfl,(blk_cell BK201.out 1).trans rfl,(blk_cell BK213.out 0).trans rfl,(blk_cell BK213.out 1).trans rfl,(blk_cell BK214.out 0).trans rfl,(blk_cell BK214.out 1).trans rfl⟩ (fun hHeld=>?_)
         clear hK K
         refine norm_ (a':=?_) ?_ ?_
         rotate_left
         ·show Act.put _ (some 64) _ = _
          simp only [Act.put,sB,sZ,sS,i64_w,i32_w]
          rfl
         refine pure_ (i:=1) (N:=some 65) (v:=?_) (a':=?_) #[true,true,false,false,false,false,false,false,false,false,false,false,false,false,false,false,false,false,false,false,false,false,false] rfl rfl (any_of HT_.out (by kernel_rfl)) (fun _ _ _ h=>h) (Or.inl ⟨by rfl,?_⟩) ?_ ?_
         rotate_left
         ·intro w'
          go_simp
          with_reducible rfl
         rotate_left
         ·simp only [Act.put,sB,sZ,sS,i64_w,i32_w]
          rfl
         refine take_ (i:=2) (N:=some 66) (v:=?_) (a':=?_) #[true,true,true,false,false,false,false,false,false,false,false,false,false,false,false,false,false,false,false,false,false,false,false] rfl rfl (take_ofW HT_.out HW_.out (by kernel_rfl)) (fun _ _ _ h=>h) (Or.inl ⟨by rfl,?_⟩) hHeld ?_ ?_
         rotate_left
         ·rintro w' ⟨s0,s1,s2,s3,s4,s5,s6,s7⟩
          go_simp
          with_reducible rfl
         rotate_left
         ·simp only [Act.put,sB,sZ,sS,i64_w,i32_w]
          rfl
         refine take_ (i:=3) (N:=some 67) (v:=?_) (a':=?_) #[true,true,true,true,false,false,false,false,false,false,false,false,false,false,false,false,false,false,false,false,false,false,false] rfl rfl (take_ofW HT_.out HW_.out (by kernel_rfl)) (fun _ _ _ h=>h) (Or.inl ⟨by rfl,?_⟩) hHeld ?_ ?_
         rotate_left
         ·rintro w' ⟨s0,s1,s2,s3,s4,s5,s6,s7⟩
          go_simp
          with_reducible rfl
         rotate_left
         ·simp only [Act.put,sB,sZ,sS,i64_w,i32_w]
          rfl
         refine take_ (i:=5) (N:=some 69) (v:=?_) (a':=?_) #[true,true,true,true,false,true,false,false,false,false,false,false,false,false,false,false,false,false,false,false,false,false,false] rfl rfl (take_ofW HT_.out HW_.out (by kernel_rfl)) (fun _ _ _ h=>h) (Or.inl ⟨by rfl,?_⟩) hHeld ?_ ?_
         rotate_left
         ·rintro w' ⟨s0,s1,s2,s3,s4,s5,s6,s7⟩
          go_simp
          with_reducible rfl
         rotate_left
         ·simp only [Act.put,sB,sZ,sS,i64_w,i32_w]
          rfl
         refine take_ (i:=6) (N:=some 70) (v:=?_) (a':=?_) #[true,true,true,true,false,true,true,false,false,false,false,false,false,false,false,false,false,false,false,false,false,false,false] rfl rfl (take_ofW HT_.out HW_.out (by kernel_rfl)) (fun _ _ _ h=>h) (Or.inl ⟨by rfl,?_⟩) hHeld ?_ ?_
         rotate_left
         ·rintro w' ⟨s0,s1,s2,s3,s4,s5,s6,s7⟩
          go_simp
          with_reducible rfl
         rotate_left
         ·simp only [Act.put,sB,sZ,sS,i64_w,i32_w]
          rfl
         refine one_ (i:=4) (N:=some 68) #[true,true,true,true,true,true,true,false,false,false,false,false,false,false,false,false,false,false,false,false,false,false,false] rfl rfl (one_of HT_.out (by kernel_rfl)) (by decide) (fun K hK=>?_)
         refine goes_ Tryd.func16 (by kernel_rfl) rfl #[.agg #[.int .u32 a0_0,.slice A0_1 l0_1.length c0_1],.agg #[.int .u32 a1_0,.slice A1_1 l1_1.length c1_1]] (by rfl) rfl rfl (by (try simp only [List.map_toArray,List.map_cons,List.map_nil]);first|done|rfl|(simp only [List.length_drop,List.length_take];rfl)) ?_
         with_reducible refine (ckone_State_Same.calls a0_0 _ _ l0_1 a1_0 _ _ l1_1 t221 _ ?side1 ?side2 ?side3 ?side4 A95.out).mono ?_
         (case side1=>repeat (first|exact (Kd.C_below HR0_1.out HB.out)|(with_reducible refine Kd.C_alloc ?_ _)|(with_reducible refine Kd.C_drewN ?_ _)|(with_reducible refine Kd.C_drew ?_)))
         (case side2=>exact HC0_1.out)
         (case side3=>repeat (first|exact (Kd.C_below HR1_1.out HB.out)|(with_reducible refine Kd.C_alloc ?_ _)|(with_reducible refine Kd.C_drewN ?_ _)|(with_reducible refine Kd.C_drew ?_)))
         (case side4=>exact HC1_1.out)
         rintro e w114 ⟨rfl,hb⟩
         refine ⟨_,rfl,?_⟩
         have n0_:=Aside0.mk (Kd.R_below (by (with_reducible repeat (first|apply Kd.R_alloc|apply Kd.R_drewN|apply Kd.R_drew));exact HO_214001.out) hb)
         have n1_:=Aside0.mk (Kd.R_below (by (with_reducible repeat (first|apply Kd.R_alloc|apply Kd.R_drewN|apply Kd.R_drew));exact HO_215001.out) hb)
         have n2_:=Aside0.mk (blk_below (g:=gb200) (o:=.cells #[.int .u32 a0_0,.slice A0_1 l0_1.length c0_1] 25 (0,0)) (by (with_reducible repeat (first|apply blk_drewN|apply blk_drew|apply blk_alloc));exact BK200.out) hb)
         have n3_:=Aside0.mk (blk_below (g:=gb201) (o:=.cells #[.int .u32 a1_0,.slice A1_1 l1_1.length c1_1] 25 (0,0)) (by (with_reducible repeat (first|apply blk_drewN|apply blk_drew|apply blk_alloc));exact BK201.out) hb)
         have n4_:=Aside0.mk (blk_below (g:=gb213) (o:=.cells #[.int .u32 t205,.slice Ao39 t206.length co39] 30 (0,0)) (by (with_reducible repeat (first|apply blk_drewN|apply blk_drew|apply blk_alloc));exact BK213.out) hb)
         have n5_:=Aside0.mk (blk_below (g:=gb214) (o:=.cells #[.int .u32 t209,.slice Ao42 t210.length co42] 30 (0,0)) (by (with_reducible repeat (first|apply blk_drewN|apply blk_drew|apply blk_alloc));exact BK214.out) hb)
         have n6_:=Aside0.mk (below_step (by repeat (first|(with_reducible first|exact HB.out|apply below_alloc|apply pw_below_drewN|apply below_drew1|refine below_set ?_ GE200.out|refine below_set ?_ GE201.out|refine below_set ?_ GE213.out|refine below_set ?_ GE214.out)|exact HB.out)) hb)
         clear HO_214001
         clear HO_215001
         clear BK200
         clear BK201
         clear BK213
         clear BK214
         clear HB
         have HO_214001:=n0_
         have HO_215001:=n1_
         have BK200:=n2_
         have BK201:=n3_
         have BK213:=n4_
         have BK214:=n5_
         have HB:=n6_
         clear n0_ n1_ n2_ n3_ n4_ n5_ n6_
         (try clear hb)
         (try clear hb2)
         (try clear hk)
         (try clear hi)
         refine hK.out _ _ ⟨(blk_cell BK200.out 0).trans rfl,(blk_cell BK200.out 1).trans rfl,(blk_cell BK201.out 0).trans rfl,(blk_cell BK201.out 1).trans rfl,(blk_cell BK213.out 0).trans rfl,(blk_cell BK213.out 1).trans rfl,(blk_cell BK214.out 0).trans rfl,(blk_cell BK214.out 1).trans rfl⟩ (fun hHeld=>?_)
         clear hK K
         refine norm_ (a':=?_) ?_ ?_
         rotate_left
         ·show Act.put _ (some 68) _ = _
          simp only [Act.put,sB,sZ,sS,i64_w,i32_w]
          rfl
         refine one_ (i:=7) (N:=some 71) #[true,true,true,true,true,true,true,true,false,false,false,false,false,false,false,false,false,false,false,false,false,false,false] rfl rfl (one_of HT_.out (by kernel_rfl)) (by decide) (fun K hK=>?_)
         refine goes_ Tryd.func17 (by kernel_rfl) rfl #[.agg #[.int .u32 t205,.slice Ao39 t206.length co39],.agg #[.int .u32 t209,.slice Ao42 t210.length co42]] (by rfl) rfl rfl (by (try simp only [List.map_toArray,List.map_cons,List.map_nil]);first|done|rfl|(simp only [List.length_drop,List.length_take];rfl)) ?_
         with_reducible refine (bosunref17_Same.calls kj30 t205 _ _ t206 t209 _ _ t210 t222 _ ?side1 ?side2 ?side3 ?side4 A96.out).mono ?_
         (case side1=>repeat (first|exact (Kd.R_reads' HO_214001.out).2.2|(with_reducible refine Kd.C_alloc ?_ _)|(with_reducible refine Kd.C_drewN ?_ _)|(with_reducible refine Kd.C_drew ?_)))
         (case side2=>exact (Kd.R_reads' HO_214001.out).2.1)
         (case side3=>repeat (first|exact (Kd.R_reads' HO_215001.out).2.2|(with_reducible refine Kd.C_alloc ?_ _)|(with_reducible refine Kd.C_drewN ?_ _)|(with_reducible refine Kd.C_drew ?_)))
         (case side4=>exact (Kd.R_reads' HO_215001.out).2.1)
         rintro e w115 ⟨rfl,hb⟩
         refine ⟨_,rfl,?_⟩
         have n0_:=Aside0.mk (Kd.R_below (by (with_reducible repeat (first|apply Kd.R_alloc|apply Kd.R_drewN|apply Kd.R_drew));exact HO_214001.out) hb)
         have n1_:=Aside0.mk (Kd.R_below (by (with_reducible repeat (first|apply Kd.R_alloc|apply Kd.R_drewN|apply Kd.R_drew));exact HO_215001.out) hb)
         have n2_:=Aside0.mk (blk_below (g:=gb200) (o:=.cells #[.int .u32 a0_0,.slice A0_1 l0_1.length c0_1] 25 (0,0)) (by (with_reducible repeat (first|apply blk_drewN|apply blk_drew|apply blk_alloc));exact BK200.out) hb)
         have n3_:=Aside0.mk (blk_below (g:=gb201) (o:=.cells #[.int .u32 a1_0,.slice A1_1 l1_1.length c1_1] 25 (0,0)) (by (with_reducible repeat (first|apply blk_drewN|apply blk_drew|apply blk_alloc));exact BK201.out) hb)
         have n4_:=Aside0.mk (blk_below (g:=gb213) (o:=.cells #[.int .u32 t205,.slice Ao39 t206.length co39] 30 (0,0)) (by (with_reducible repeat (first|apply blk_drewN|apply blk_drew|apply blk_alloc));exact BK213.out) hb)
         have n5_:=Aside0.mk (blk_below (g:=gb214) (o:=.cells #[.int .u32 t209,.slice Ao42 t210.length co42] 30 (0,0)) (by (with_reducible repeat (first|apply blk_drewN|apply blk_drew|apply blk_alloc));exact BK214.out) hb)
         have n6_:=Aside0.mk (below_step (by repeat (first|(with_reducible first|exact HB.out|apply below_alloc|apply pw_below_drewN|apply below_drew1|refine below_set ?_ GE200.out|refine below_set ?_ GE201.out|refine below_set ?_ GE213.out|refine below_set ?_ GE214.out)|exact HB.out)) hb)
         clear HO_214001
         clear HO_215001
         clear BK200
         clear BK201
         clear BK213
         clear BK214
         clear HB
         have HO_214001:=n0_
         have HO_215001:=n1_
         have BK200:=n2_
         have BK201:=n3_
         have BK213:=n4_
         have BK214:=n5_
         have HB:=n6_
         clear n0_ n1_ n2_ n3_ n4_ n5_ n6_
         (try clear hb)
         (try clear hb2)
         (try clear hk)
         (try clear hi)
         refine hK.out _ _ ⟨(blk_cell BK200.out 0).trans rfl,(blk_cell BK200.out 1).trans rfl,(blk_cell BK201.out 0).trans rfl,(blk_cell BK201.out 1).trans rfl,(blk_cell BK213.out 0).trans rfl,(blk_cell BK213.out 1).trans rfl,(blk_cell BK214.out 0).trans rfl,(blk_cell BK214.out 1).trans rfl⟩ (fun hHeld=>?_)
         clear hK K
         refine norm_ (a':=?_) ?_ ?_
         rotate_left
         ·show Act.put _ (some 71) _ = _
          simp only [Act.put,sB,sZ,sS,i64_w,i32_w]
          rfl
         refine pure_ (i:=8) (N:=some 72) (v:=?_) (a':=?_) #[true,true,true,true,true,true,true,true,true,false,false,false,false,false,false,false,false,false,false,false,false,false,false] rfl rfl (any_of HT_.out (by kernel_rfl)) (fun _ _ _ h=>h) (Or.inl ⟨by rfl,?_⟩) ?_ ?_
         rotate_left
         ·intro w'
          go_simp
          with_reducible rfl
         rotate_left
         ·simp only [Act.put,sB,sZ,sS,i64_w,i32_w]
          rfl
         refine pure_ (i:=9) (N:=some 73) (v:=?_) (a':=?_) #[true,true,true,true,true,true,true,true,true,true,false,false,false,false,false,false,false,false,false,false,false,false,false] rfl rfl (any_of HT_.out (by kernel_rfl)) (fun _ _ _ h=>h) (Or.inl ⟨by rfl,?_⟩) ?_ ?_
         rotate_left
         ·intro w'
          go_simp
          with_reducible rfl
         rotate_left
         ·simp only [Act.put,sB,sZ,sS,i64_w,i32_w]
          rfl
         refine pure_ (i:=10) (N:=some 74) (v:=?_) (a':=?_) #[true,true,true,true,true,true,true,true,true,true,true,false,false,false,false,false,false,false,false,false,false,false,false] rfl rfl (any_of HT_.out (by kernel_rfl)) (fun _ _ _ h=>h) (Or.inl ⟨by rfl,?_⟩) ?_ ?_
         rotate_left
         ·intro w'
          go_simp
          with_reducible rfl
         rotate_left
         ·simp only [Act.put,sB,sZ,sS,i64_w,i32_w]
          rfl
         refine pure_ (i:=11) (N:=some 75) (v:=undef) (a':=?_) #[true,true,true,true,true,true,true,true,true,true,true,true,false,false,false,false,false,false,false,false,false,false,false] rfl rfl (any_of HT_.out (by kernel_rfl)) (fun _ _ _ h=>h) (Or.inr ⟨by rfl,rfl⟩) ?_ ?_
         rotate_left
         ·simp only [Act.put,sB,sZ,sS,i64_w,i32_w]
          rfl
         refine pure_ (i:=12) (N:=some 76) (v:=undef) (a':=?_) #[true,true,true,true,true,true,true,true,true,true,true,true,true,false,false,false,false,false,false,false,false,false,false] rfl rfl (any_of HT_.out (by kernel_rfl)) (fun _ _ _ h=>h) (Or.inr ⟨by rfl,rfl⟩) ?_ ?_
         rotate_left
         ·simp only [Act.put,sB,sZ,sS,i64_w,i32_w]
          rfl
         refine pure_ (i:=13) (N:=some 77) (v:=undef) (a':=?_) #[true,true,true,true,true,true,true,true,true,true,true,true,true,true,false,false,false,false,false,false,false,false,false] rfl rfl (any_of HT_.out (by kernel_rfl)) (fun _ _ _ h=>h) (Or.inr ⟨by rfl,rfl⟩) ?_ ?_
         rotate_left
         ·simp only [Act.put,sB,sZ,sS,i64_w,i32_w]
          rfl
         refine pure_ (i:=14) (N:=some 78) (v:=?_) (a':=?_) #[true,true,true,true,true,true,true,true,true,true,true,true,true,true,true,false,false,false,false,false,false,false,false] rfl rfl (any_of HT_.out (by kernel_rfl)) (fun _ _ _ h=>h) (Or.inl ⟨by rfl,?_⟩) ?_ ?_
         rotate_left
         ·intro w'
          go_simp
          with_reducible rfl
         rotate_left
         ·simp only [Act.put,sB,sZ,sS,i64_w,i32_w]
          rfl
         refine pure_ (i:=15) (N:=some 79) (v:=?_) (a':=?_) #[true,true,true,true,true,true,true,true,true,true,true,true,true,true,true,true,false,false,false,false,false,false,false] rfl rfl (any_of HT_.out (by kernel_rfl)) (fun _ _ _ h=>h) (Or.inl ⟨by rfl,?_⟩) ?_ ?_
         rotate_left
         ·intro w'
          go_simp
          with_reducible rfl
         rotate_left
         ·simp only [Act.put,sB,sZ,sS,i64_w,i32_w]
          rfl
         refine pure_ (i:=16) (N:=some 80) (v:=undef) (a':=?_) #[true,true,true,true,true,true,true,true,true,true,true,true,true,true,true,true,true,false,false,false,false,false,false] rfl rfl (any_of HT_.out (by kernel_rfl)) (fun _ _ _ h=>h) (Or.inr ⟨by rfl,rfl⟩) ?_ ?_
         rotate_left
         ·simp only [Act.put,sB,sZ,sS,i64_w,i32_w]
          rfl
         refine pure_ (i:=17) (N:=some 81) (v:=undef) (a':=?_) #[true,true,true,true,true,true,true,true,true,true,true,true,true,true,true,true,true,true,false,false,false,false,false] rfl rfl (any_of HT_.out (by kernel_rfl)) (fun _ _ _ h=>h) (Or.inr ⟨by rfl,rfl⟩) ?_ ?_
         rotate_left
         ·simp only [Act.put,sB,sZ,sS,i64_w,i32_w]
          rfl
         refine pure_ (i:=18) (N:=some 82) (v:=undef) (a':=?_) #[true,true,true,true,true,true,true,true,true,true,true,true,true,true,true,true,true,true,true,false,false,false,false] rfl rfl (any_of HT_.out (by kernel_rfl)) (fun _ _ _ h=>h) (Or.inr ⟨by rfl,rfl⟩) ?_ ?_
         rotate_left
         ·simp only [Act.put,sB,sZ,sS,i64_w,i32_w]
          rfl
         refine pure_ (i:=19) (N:=some 83) (v:=undef) (a':=?_) #[true,true,true,true,true,true,true,true,true,true,true,true,true,true,true,true,true,true,true,true,false,false,false] rfl rfl (any_of HT_.out (by kernel_rfl)) (fun _ _ _ h=>h) (Or.inr ⟨by rfl,rfl⟩) ?_ ?_
         rotate_left
         ·simp only [Act.put,sB,sZ,sS,i64_w,i32_w]
          rfl
         refine pure_ (i:=20) (N:=some 84) (v:=undef) (a':=?_) #[true,true,true,true,true,true,true,true,true,true,true,true,true,true,true,true,true,true,true,true,true,false,false] rfl rfl (any_of HT_.out (by kernel_rfl)) (fun _ _ _ h=>h) (Or.inr ⟨by rfl,rfl⟩) ?_ ?_
         rotate_left
         ·simp only [Act.put,sB,sZ,sS,i64_w,i32_w]
          rfl
         refine pure_ (i:=21) (N:=some 85) (v:=?_) (a':=?_) #[true,true,true,true,true,true,true,true,true,true,true,true,true,true,true,true,true,true,true,true,true,true,false] rfl rfl (any_of HT_.out (by kernel_rfl)) (fun _ _ _ h=>h) (Or.inl ⟨by rfl,?_⟩) ?_ ?_
         rotate_left
         ·intro w'
          go_simp
          with_reducible rfl
         rotate_left
         ·simp only [Act.put,sB,sZ,sS,i64_w,i32_w]
          rfl
         refine pure_ (i:=22) (N:=some 6) (v:=?_) (a':=?_) #[true,true,true,true,true,true,true,true,true,true,true,true,true,true,true,true,true,true,true,true,true,true,true] rfl rfl (any_of HT_.out (by kernel_rfl)) (fun _ _ _ h=>h) (Or.inl ⟨by rfl,?_⟩) ?_ ?_
         rotate_left
         ·intro w'
          go_simp
          with_reducible rfl
         rotate_left
         ·simp only [Act.put,sB,sZ,sS,i64_w,i32_w]
          rfl
         refine done_ (done_of HT_.out (by kernel_rfl)) ?_
         try go_wp2
         go_ret
         exact ⟨by first|rfl|(simp [errW_none,errW_some] <;> rfl)|(simp [*,errW_none,errW_some] <;> rfl),by repeat (first|(with_reducible first|exact HB.out|apply below_alloc|apply pw_below_drewN|apply below_drew1|refine below_set ?_ GE200.out|refine below_set ?_ GE201.out|refine below_set ?_ GE213.out|refine below_set ?_ GE214.out)|exact HB.out)⟩
       ·replace c94:=Bool.eq_false_iff.mpr c94
        subst c94
        have H1 : (some false) = some r:=by rw [if_neg (show ¬ (false = true) by decide)] at H;exact H
        clear H
        have H:=H1
        clear H1
        obtain rfl:=Option.some.inj H
        try go_wp2
        have n0_:=Aside0.mk (Kd.R_drew HO_214001.out)
        have n1_:=Aside0.mk (Kd.R_drew HO_215001.out)
        have n2_:=Aside0.mk (blk_drew BK200.out)
        have n3_:=Aside0.mk (blk_drew BK201.out)
        have n4_:=Aside0.mk (blk_drew BK213.out)
        have n5_:=Aside0.mk (blk_drew BK214.out)
        have n6_:=Aside0.mk (below_drew1 HB.out)
        clear HO_214001
        clear HO_215001
        clear BK200
        clear BK201
        clear BK213
        clear BK214
        clear HB
        have HO_214001:=n0_
        have HO_215001:=n1_
        have BK200:=n2_
        have BK201:=n3_
        have BK213:=n4_
        have BK214:=n5_
        have HB:=n6_
        clear n0_ n1_ n2_ n3_ n4_ n5_ n6_
        refine start_ (n:=23) (S:=fun w'=>True) (ds:=[]) #[false,false,false,false,false,false,false,false,false,false,false,false,false,false,false,false,false,false,false,false,false,false,false] (by kernel_rfl) rfl rfl trivial (fun hHeld=>?_);refine with_tabW bosunlaw17_CkoneCodes.tab8 bosunlaw17_CkoneCodes.bits8 (fun HT_ HW_=>?_)
        generalize wc.drew = w116 at HO_214001 HO_215001 BK200 BK201 BK213 BK214 HB hHeld ⊢
        refine one_ (i:=0) (N:=some 64) #[true,false,false,false,false,false,false,false,false,false,false,false,false,false,false,false,false,false,false,false,false,false,false] rfl rfl (one_of HT_.out (by kernel_rfl)) (by decide) (fun K hK=>?_)
        refine goes_ Tryd.func10 (by kernel_rfl) rfl #[] (by rfl) rfl rfl (by (try simp only [List.map_toArray,List.map_cons,List.map_nil]);first|done|rfl|(simp only [List.length_drop,List.length_take];rfl)) ?_
        with_reducible refine (bosunlaw17_Awake.calls kj30  false _ A93.out).mono ?_
        rintro e w117 ⟨rfl,hb⟩
        refine ⟨_,rfl,?_⟩
        have n0_:=Aside0.mk (Kd.R_below (by (with_reducible repeat (first|apply Kd.R_alloc|apply Kd.R_drewN|apply Kd.R_drew));exact HO_214001.out) hb)
        have n1_:=Aside0.mk (Kd.R_below (by (with_reducible repeat (first|apply Kd.R_alloc|apply Kd.R_drewN|apply Kd.R_drew));exact HO_215001.out) hb)
        have n2_:=Aside0.mk (blk_below (g:=gb200) (o:=.cells #[.int .u32 a0_0,.slice A0_1 l0_1.length c0_1] 25 (0,0)) (by (with_reducible repeat (first|apply blk_drewN|apply blk_drew|apply blk_alloc));exact BK200.out) hb)
        have n3_:=Aside0.mk (blk_below (g:=gb201) (o:=.cells #[.int .u32 a1_0,.slice A1_1 l1_1.length c1_1] 25 (0,0)) (by (with_reducible repeat (first|apply blk_drewN|apply blk_drew|apply blk_alloc));exact BK201.out) hb)
        have n4_:=Aside0.mk (blk_below (g:=gb213) (o:=.cells #[.int .u32 t205,.slice Ao39 t206.length co39] 30 (0,0)) (by (with_reducible repeat (first|apply blk_drewN|apply blk_drew|apply blk_alloc));exact BK213.out) hb)
        have n5_:=Aside0.mk (blk_below (g:=gb214) (o:=.cells #[.int .u32 t209,.slice Ao42 t210.length co42] 30 (0,0)) (by (with_reducible repeat (first|apply blk_drewN|apply blk_drew|apply blk_alloc));exact BK214.out) hb)
        have n6_:=Aside0.mk (below_step (by repeat (first|(with_reducible first|exact HB.out|apply below_alloc|apply pw_below_drewN|apply below_drew1|refine below_set ?_ GE200.out|refine below_set ?_ GE201.out|refine below_set ?_ GE213.out|refine below_set ?_ GE214.out)|exact HB.out)) hb)
        clear HO_214001
        clear HO_215001
        clear BK200
        clear BK201
        clear BK213
        clear BK214
        clear HB
        have HO_214001:=n0_
        have HO_215001:=n1_
        have BK200:=n2_
        have BK201:=n3_
        have BK213:=n4_
        have BK214:=n5_
        have HB:=n6_
        clear n0_ n1_ n2_ n3_ n4_ n5_ n6_
        (try clear hb)
        (try clear hb2)
        (try clear hk)
        (try clear hi)
        refine hK.out _ _ trivial (fun hHeld=>?_)
        clear hK K
        refine norm_ (a':=?_) ?_ ?_
        rotate_left
        ·show Act.put _ (some 64) _ = _
         simp only [Act.put,sB,sZ,sS,i64_w,i32_w]
         rfl
        refine pure_ (i:=1) (N:=some 65) (v:=?_) (a':=?_) #[true,true,false,false,false,false,false,false,false,false,false,false,false,false,false,false,false,false,false,false,false,false,false] rfl rfl (any_of HT_.out (by kernel_rfl)) (fun _ _ _ h=>h) (Or.inl ⟨by rfl,?_⟩) ?_ ?_
        rotate_left
        ·intro w'
         go_simp
         with_reducible rfl
        rotate_left
        ·simp only [Act.put,sB,sZ,sS,i64_w,i32_w]
         rfl
        refine pure_ (i:=2) (N:=some 66) (v:=undef) (a':=?_) #[true,true,true,false,false,false,false,false,false,false,false,false,false,false,false,false,false,false,false,false,false,false,false] rfl rfl (any_of HT_.out (by kernel_rfl)) (fun _ _ _ h=>h) (Or.inr ⟨by rfl,rfl⟩) ?_ ?_
        rotate_left
        ·simp only [Act.put,sB,sZ,sS,i64_w,i32_w]
         rfl
        refine pure_ (i:=3) (N:=some 67) (v:=undef) (a':=?_) #[true,true,true,true,false,false,false,false,false,false,false,false,false,false,false,false,false,false,false,false,false,false,false] rfl rfl (any_of HT_.out (by kernel_rfl)) (fun _ _ _ h=>h) (Or.inr ⟨by rfl,rfl⟩) ?_ ?_
        rotate_left
        ·simp only [Act.put,sB,sZ,sS,i64_w,i32_w]
         rfl
        refine pure_ (i:=4) (N:=some 68) (v:=undef) (a':=?_) #[true,true,true,true,true,false,false,false,false,false,false,false,false,false,false,false,false,false,false,false,false,false,false] rfl rfl (any_of HT_.out (by kernel_rfl)) (fun _ _ _ h=>h) (Or.inr ⟨by rfl,rfl⟩) ?_ ?_
        rotate_left
        ·simp only [Act.put,sB,sZ,sS,i64_w,i32_w]
         rfl
        refine pure_ (i:=5) (N:=some 69) (v:=undef) (a':=?_) #[true,true,true,true,true,true,false,false,false,false,false,false,false,false,false,false,false,false,false,false,false,false,false] rfl rfl (any_of HT_.out (by kernel_rfl)) (fun _ _ _ h=>h) (Or.inr ⟨by rfl,rfl⟩) ?_ ?_
        rotate_left
        ·simp only [Act.put,sB,sZ,sS,i64_w,i32_w]
         rfl
        refine pure_ (i:=6) (N:=some 70) (v:=undef) (a':=?_) #[true,true,true,true,true,true,true,false,false,false,false,false,false,false,false,false,false,false,false,false,false,false,false] rfl rfl (any_of HT_.out (by kernel_rfl)) (fun _ _ _ h=>h) (Or.inr ⟨by rfl,rfl⟩) ?_ ?_
        rotate_left
        ·simp only [Act.put,sB,sZ,sS,i64_w,i32_w]
         rfl
        refine pure_ (i:=7) (N:=some 71) (v:=undef) (a':=?_) #[true,true,true,true,true,true,true,true,false,false,false,false,false,false,false,false,false,false,false,false,false,false,false] rfl rfl (any_of HT_.out (by kernel_rfl)) (fun _ _ _ h=>h) (Or.inr ⟨by rfl,rfl⟩) ?_ ?_
        rotate_left
        ·simp only [Act.put,sB,sZ,sS,i64_w,i32_w]
         rfl
        refine pure_ (i:=8) (N:=some 72) (v:=undef) (a':=?_) #[true,true,true,true,true,true,true,true,true,false,false,false,false,false,false,false,false,false,false,false,false,false,false] rfl rfl (any_of HT_.out (by kernel_rfl)) (fun _ _ _ h=>h) (Or.inr ⟨by rfl,rfl⟩) ?_ ?_
        rotate_left
        ·simp only [Act.put,sB,sZ,sS,i64_w,i32_w]
         rfl
        refine pure_ (i:=9) (N:=some 73) (v:=?_) (a':=?_) #[true,true,true,true,true,true,true,true,true,true,false,false,false,false,false,false,false,false,false,false,false,false,false] rfl rfl (any_of HT_.out (by kernel_rfl)) (fun _ _ _ h=>h) (Or.inl ⟨by rfl,?_⟩) ?_ ?_
        rotate_left
        ·intro w'
         go_simp
         with_reducible rfl
        rotate_left
        ·simp only [Act.put,sB,sZ,sS,i64_w,i32_w]
         rfl
        refine pure_ (i:=10) (N:=some 74) (v:=?_) (a':=?_) #[true,true,true,true,true,true,true,true,true,true,true,false,false,false,false,false,false,false,false,false,false,false,false] rfl rfl (any_of HT_.out (by kernel_rfl)) (fun _ _ _ h=>h) (Or.inl ⟨by rfl,?_⟩) ?_ ?_
        rotate_left
        ·intro w'
         go_simp
         with_reducible rfl
        rotate_left
        ·simp only [Act.put,sB,sZ,sS,i64_w,i32_w]
         rfl
        refine pure_ (i:=11) (N:=some 75) (v:=undef) (a':=?_) #[true,true,true,true,true,true,true,true,true,true,true,true,false,false,false,false,false,false,false,false,false,false,false] rfl rfl (any_of HT_.out (by kernel_rfl)) (fun _ _ _ h=>h) (Or.inr ⟨by rfl,rfl⟩) ?_ ?_
        rotate_left
        ·simp only [Act.put,sB,sZ,sS,i64_w,i32_w]
         rfl
        refine pure_ (i:=12) (N:=some 76) (v:=undef) (a':=?_) #[true,true,true,true,true,true,true,true,true,true,true,true,true,false,false,false,false,false,false,false,false,false,false] rfl rfl (any_of HT_.out (by kernel_rfl)) (fun _ _ _ h=>h) (Or.inr ⟨by rfl,rfl⟩) ?_ ?_
        rotate_left
        ·simp only [Act.put,sB,sZ,sS,i64_w,i32_w]
         rfl
        refine pure_ (i:=13) (N:=some 77) (v:=undef) (a':=?_) #[true,true,true,true,true,true,true,true,true,true,true,true,true,true,false,false,false,false,false,false,false,false,false] rfl rfl (any_of HT_.out (by kernel_rfl)) (fun _ _ _ h=>h) (Or.inr ⟨by rfl,rfl⟩) ?_ ?_
        rotate_left
        ·simp only [Act.put,sB,sZ,sS,i64_w,i32_w]
         rfl
        refine pure_ (i:=14) (N:=some 78) (v:=?_) (a':=?_) #[true,true,true,true,true,true,true,true,true,true,true,true,true,true,true,false,false,false,false,false,false,false,false] rfl rfl (any_of HT_.out (by kernel_rfl)) (fun _ _ _ h=>h) (Or.inl ⟨by rfl,?_⟩) ?_ ?_
        rotate_left
        ·intro w'
         go_simp
         with_reducible rfl
        rotate_left
        ·simp only [Act.put,sB,sZ,sS,i64_w,i32_w]
         rfl
        refine pure_ (i:=15) (N:=some 79) (v:=?_) (a':=?_) #[true,true,true,true,true,true,true,true,true,true,true,true,true,true,true,true,false,false,false,false,false,false,false] rfl rfl (any_of HT_.out (by kernel_rfl)) (fun _ _ _ h=>h) (Or.inl ⟨by rfl,?_⟩) ?_ ?_
        rotate_left
        ·intro w'
         go_simp
         with_reducible rfl
        rotate_left
        ·simp only [Act.put,sB,sZ,sS,i64_w,i32_w]
         rfl
        refine pure_ (i:=16) (N:=some 80) (v:=undef) (a':=?_) #[true,true,true,true,true,true,true,true,true,true,true,true,true,true,true,true,true,false,false,false,false,false,false] rfl rfl (any_of HT_.out (by kernel_rfl)) (fun _ _ _ h=>h) (Or.inr ⟨by rfl,rfl⟩) ?_ ?_
        rotate_left
        ·simp only [Act.put,sB,sZ,sS,i64_w,i32_w]
         rfl
        refine pure_ (i:=17) (N:=some 81) (v:=undef) (a':=?_) #[true,true,true,true,true,true,true,true,true,true,true,true,true,true,true,true,true,true,false,false,false,false,false] rfl rfl (any_of HT_.out (by kernel_rfl)) (fun _ _ _ h=>h) (Or.inr ⟨by rfl,rfl⟩) ?_ ?_
        rotate_left
        ·simp only [Act.put,sB,sZ,sS,i64_w,i32_w]
         rfl
        refine pure_ (i:=18) (N:=some 82) (v:=undef) (a':=?_) #[true,true,true,true,true,true,true,true,true,true,true,true,true,true,true,true,true,true,true,false,false,false,false] rfl rfl (any_of HT_.out (by kernel_rfl)) (fun _ _ _ h=>h) (Or.inr ⟨by rfl,rfl⟩) ?_ ?_
        rotate_left
        ·simp only [Act.put,sB,sZ,sS,i64_w,i32_w]
         rfl
        refine pure_ (i:=19) (N:=some 83) (v:=undef) (a':=?_) #[true,true,true,true,true,true,true,true,true,true,true,true,true,true,true,true,true,true,true,true,false,false,false] rfl rfl (any_of HT_.out (by kernel_rfl)) (fun _ _ _ h=>h) (Or.inr ⟨by rfl,rfl⟩) ?_ ?_
        rotate_left
        ·simp only [Act.put,sB,sZ,sS,i64_w,i32_w]
         rfl
        refine pure_ (i:=20) (N:=some 84) (v:=undef) (a':=?_) #[true,true,true,true,true,true,true,true,true,true,true,true,true,true,true,true,true,true,true,true,true,false,false] rfl rfl (any_of HT_.out (by kernel_rfl)) (fun _ _ _ h=>h) (Or.inr ⟨by rfl,rfl⟩) ?_ ?_
        rotate_left
        ·simp only [Act.put,sB,sZ,sS,i64_w,i32_w]
         rfl
        refine pure_ (i:=21) (N:=some 85) (v:=?_) (a':=?_) #[true,true,true,true,true,true,true,true,true,true,true,true,true,true,true,true,true,true,true,true,true,true,false] rfl rfl (any_of HT_.out (by kernel_rfl)) (fun _ _ _ h=>h) (Or.inl ⟨by rfl,?_⟩) ?_ ?_
        rotate_left
        ·intro w'
         go_simp
         with_reducible rfl
        rotate_left
        ·simp only [Act.put,sB,sZ,sS,i64_w,i32_w]
         rfl
        refine pure_ (i:=22) (N:=some 6) (v:=?_) (a':=?_) #[true,true,true,true,true,true,true,true,true,true,true,true,true,true,true,true,true,true,true,true,true,true,true] rfl rfl (any_of HT_.out (by kernel_rfl)) (fun _ _ _ h=>h) (Or.inl ⟨by rfl,?_⟩) ?_ ?_
        rotate_left
        ·intro w'
         go_simp
         with_reducible rfl
        rotate_left
        ·simp only [Act.put,sB,sZ,sS,i64_w,i32_w]
         rfl
        refine done_ (done_of HT_.out (by kernel_rfl)) ?_
        try go_wp2
        go_ret
        exact ⟨by first|rfl|(simp [errW_none,errW_some] <;> rfl)|(simp [*,errW_none,errW_some] <;> rfl),by repeat (first|(with_reducible first|exact HB.out|apply below_alloc|apply pw_below_drewN|apply below_drew1|refine below_set ?_ GE200.out|refine below_set ?_ GE201.out|refine below_set ?_ GE213.out|refine below_set ?_ GE214.out)|exact HB.out)⟩

end Go.Proofs.YtpmbdcljphpcnaaDoor.GCk
