/- Written by this session's own program (wip/gen.py) out of the translation: plain Lean functions of the Go functions, and proofs that the calls come to their answers. No conditions beside those in the statements. -/
import Derived.Test.YtpmbdcljphpcnaaDoorGCkx0
import Derived.Test.YtpmbdcljphpcnaaDoorGCkx8
import Derived.Test.YtpmbdcljphpcnaaDoorGCkx9
import Derived.Test.YtpmbdcljphpcnaaDoorGCkx11
import Derived.Test.YtpmbdcljphpcnaaDoorGCkx16
namespace Go.Proofs.YtpmbdcljphpcnaaDoor.GCk
open Go.RowKit Go.Proofs.YtpmbdcljphpcnaaDoorW.PrintWords Go.Proofs.YtpmbdcljphpcnaaDoorW.PrintLast Go.Proofs.YtpmbdcljphpcnaaDoorW.PrintMore
attribute [local go_sem] max2_int min2_int max_two min_two max_three min_three max_four min_four   -- for this text's walks alone
set_option linter.unusedVariables false
set_option linter.unusedSimpArgs false

/-! ### bosunlaw17_CkoneReads: function 4 -/
def bosunlaw17_CkoneReads.f (k : Nat) (a0 : ByteArray) : Option (Bool):=if (a0.size : Int) > 20000 then ((bosunlaw17_Awake.f k).bind fun t265=>(some t265)) else ((ckone_Decode.f k a0).bind fun bt266=>((bosunref17_Decode.f k a0).bind fun bt272=>((bosunlaw17_Awake.f k).bind fun t278=>(if t278 = true then (if bt266.2.2 = bt272.2.2 then ((bosunlaw17_Of.f k bt266.1 bt266.2.1).bind fun bt279=>((bosunref17_Same.f k bt279.1 bt279.2 bt272.1 bt272.2.1).bind fun t283=>(some t283))) else (some false)) else (some false)))))
theorem bosunlaw17_CkoneReads.mono : ∀ a0 k,LeO (bosunlaw17_CkoneReads.f k a0) (bosunlaw17_CkoneReads.f (k + 1) a0):=by
 intro a0 k
 unfold bosunlaw17_CkoneReads.f
 repeat' first
   | (with_reducible exact bosunlaw17_Awake.mono _)
   | (with_reducible exact bosunlaw17_Of.mono _ _ _)
   | (with_reducible exact bosunref17_Decode.mono _ _)
   | (with_reducible exact bosunref17_Same.mono _ _ _ _ _)
   | (with_reducible exact ckone_Decode.mono _ _)
   | (with_reducible exact LeO.refl _)
   | (with_reducible exact LeO.none _)
   | (with_reducible refine LeO.ite ?_ ?_)
   | (with_reducible refine LeO.bind ?_ (fun _=>?_))
   | exact bosunlaw17_Awake.mono _
   | exact bosunlaw17_Of.mono _ _ _
   | exact bosunref17_Decode.mono _ _
   | exact bosunref17_Same.mono _ _ _ _ _
   | exact ckone_Decode.mono _ _
   | exact LeO.none _
   | refine LeO.ite ?_ ?_
   | refine LeO.bind ?_ (fun _=>?_)
def bosunlaw17_CkoneReads.T5 : Bool × List (List Nat × List Nat):=(true,[([],[]),([0,0],[0]),([1],[1]),([1],[1]),([2,3,1],[1,2,3]),([1,4],[1,4]),([5,1],[5]),([6],[6]),([7,6,6],[6,7]),([6],[6]),([8,9,8,6],[6,8,9]),([6,10],[6,10]),([11,10,0,1,2,3,4,5,6,7,8,9,10,11],[11])])
def bosunlaw17_CkoneReads.B5 : List Nat:=[0,1,3,3,15,31,63,127,255,127,1023,2047,4095]
theorem bosunlaw17_CkoneReads.tab5 : rtab .any (opsOf Tryd.f4 5) = bosunlaw17_CkoneReads.T5:=by kernel_rfl
theorem bosunlaw17_CkoneReads.bits5 : waitsOk bosunlaw17_CkoneReads.T5.2 bosunlaw17_CkoneReads.B5 = true:=by kernel_rfl
set_option maxHeartbeats 8000000 in
set_option maxRecDepth 100000 in
theorem bosunlaw17_CkoneReads.calls (k : Nat) (a0 : ByteArray) (r : Bool) (w : World) (h : bosunlaw17_CkoneReads.f k a0 = some r) :
  Calls Tryd.prog 4 #[.string a0] w fun e w'=>e = .returned (.bool r) ∧ Below w.heap.size w w':=by
 have hu25:=Tryd.underlying25
 have hu30:=Tryd.underlying30
 have HB:=Aside0.mk (Below.refl w.heap.size w)
 have H : (if (a0.size : Int) > 20000 then ((bosunlaw17_Awake.f k).bind fun t265=>(some t265)) else ((ckone_Decode.f k a0).bind fun bt266=>((bosunref17_Decode.f k a0).bind fun bt272=>((bosunlaw17_Awake.f k).bind fun t278=>(if t278 = true then (if bt266.2.2 = bt272.2.2 then ((bosunlaw17_Of.f k bt266.1 bt266.2.1).bind fun bt279=>((bosunref17_Same.f k bt279.1 bt279.2 bt272.1 bt272.2.1).bind fun t283=>(some t283))) else (some false)) else (some false)))))) = some r:=h
 clear h
 by_cases c2 : (a0.size : Int) > 20000
 ·rw [if_pos c2] at H
  have c2b0 : decide (20000 < (a0.size : Int)) = true:=decide_eq_true c2
  have c2b1 : decide (20000 < a0.size) = true:=decide_eq_true (by omega)
  clear c2
  replace H:=Option.bind_eq_some_iff.mp H
  obtain ⟨t265,A30,H⟩:=H
  replace H : (some t265) = some r:=H
  have A3:=Aside0.mk A30
  clear A30
  obtain rfl:=Option.some.inj H
  go_enter Tryd.func4,Tryd.ntmps4
  go_wp2_with (first|((with_reducible refine gate_callee (f:=10) rfl ?_);refine goesL_ (some 10) rfl rfl Tryd.func10 (by kernel_rfl) rfl #[] rfl (by (try simp only [List.map_toArray,List.map_cons,List.map_nil]);first|done|rfl|(simp only [List.length_drop,List.length_take];rfl)|(simp (disch:=first|omega|(simp at *;omega)) only [u64_id,i64_id,u8_id];rfl)) ?_;(with_reducible refine (bosunlaw17_Awake.calls k  t265 _ A3.out).mono ?_);rintro e w4 ⟨rfl,hb⟩;refine ⟨_,rfl,?_⟩;have n0_:=Aside0.mk (below_step (by repeat (first|(with_reducible first|exact HB.out|apply below_alloc|apply pw_below_drewN|apply below_drew1)|exact HB.out)) hb);clear HB;have HB:=n0_;clear n0_;(try clear hb);(try clear hb2);(try clear hk);(try clear hi)))
  go_ret
  exact ⟨by first|rfl|(simp [errW_none,errW_some] <;> rfl)|(simp [*,errW_none,errW_some] <;> rfl),by repeat (first|(with_reducible first|exact HB.out|apply below_alloc|apply pw_below_drewN|apply below_drew1)|exact HB.out)⟩
 ·rw [if_neg c2] at H
  have c2b0 : decide (20000 < (a0.size : Int)) = false:=decide_eq_false c2
  have c2b1 : decide (20000 < a0.size) = false:=decide_eq_false (by omega)
  clear c2
  replace H:=Option.bind_eq_some_iff.mp H
  obtain ⟨⟨t266,t267,t270⟩,A50,H⟩:=H
  replace H : ((bosunref17_Decode.f k a0).bind fun bt272=>((bosunlaw17_Awake.f k).bind fun t278=>(if t278 = true then (if t270 = bt272.2.2 then ((bosunlaw17_Of.f k t266 t267).bind fun bt279=>((bosunref17_Same.f k bt279.1 bt279.2 bt272.1 bt272.2.1).bind fun t283=>(some t283))) else (some false)) else (some false)))) = some r:=H
  have A5:=Aside0.mk A50
  clear A50
  replace H:=Option.bind_eq_some_iff.mp H
  obtain ⟨⟨t272,t273,t276⟩,A60,H⟩:=H
  replace H : ((bosunlaw17_Awake.f k).bind fun t278=>(if t278 = true then (if t270 = t276 then ((bosunlaw17_Of.f k t266 t267).bind fun bt279=>((bosunref17_Same.f k bt279.1 bt279.2 t272 t273).bind fun t283=>(some t283))) else (some false)) else (some false))) = some r:=H
  have A6:=Aside0.mk A60
  clear A60
  replace H:=Option.bind_eq_some_iff.mp H
  obtain ⟨t278,A70,H⟩:=H
  replace H : (if t278 = true then (if t270 = t276 then ((bosunlaw17_Of.f k t266 t267).bind fun bt279=>((bosunref17_Same.f k bt279.1 bt279.2 t272 t273).bind fun t283=>(some t283))) else (some false)) else (some false)) = some r:=H
  have A7:=Aside0.mk A70
  clear A70
  by_cases c8 : t278 = true
  ·subst c8
   have H1 : (if t270 = t276 then ((bosunlaw17_Of.f k t266 t267).bind fun bt279=>((bosunref17_Same.f k bt279.1 bt279.2 t272 t273).bind fun t283=>(some t283))) else (some false)) = some r:=by rw [if_pos rfl] at H;exact H
   clear H
   have H:=H1
   clear H1
   by_cases c9 : t270 = t276
   ·rw [if_pos c9] at H
    have c9b0 : (t270 == t276) = true:=beq_iff_eq.mpr c9
    have c9b1 : (t270 != t276) = false:=bne_eq_false_iff_eq.mpr c9
    clear c9
    replace H:=Option.bind_eq_some_iff.mp H
    obtain ⟨⟨t279,t280⟩,A100,H⟩:=H
    replace H : ((bosunref17_Same.f k t279 t280 t272 t273).bind fun t283=>(some t283)) = some r:=H
    have A10:=Aside0.mk A100
    clear A100
    replace H:=Option.bind_eq_some_iff.mp H
    obtain ⟨t283,A110,H⟩:=H
    replace H : (some t283) = some r:=H
    have A11:=Aside0.mk A110
    clear A110
    obtain rfl:=Option.some.inj H
    go_enter Tryd.func4,Tryd.ntmps4
    try go_wp2_with (first|((with_reducible refine gate_callee (f:=20) rfl ?_);refine goesL_ (some 13) rfl rfl Tryd.func20 (by kernel_rfl) rfl #[.string a0] rfl (by (try simp only [List.map_toArray,List.map_cons,List.map_nil]);first|done|rfl|(simp only [List.length_drop,List.length_take];rfl)|(simp (disch:=first|omega|(simp at *;omega)) only [u64_id,i64_id,u8_id];rfl)) ?_;(with_reducible refine (ckone_Decode.calls k a0 t266 t267 t270 _ A5.out).mono ?_);rintro e w12 ⟨v268,rfl,ho0,hb⟩;refine ⟨_,rfl,?_⟩;have n0_:=Aside0.mk (Kd.R_lower ho0 (below_size (by repeat (first|(with_reducible first|exact HB.out|apply below_alloc|apply pw_below_drewN|apply below_drew1)|exact HB.out))));have n1_:=Aside0.mk (below_step (by repeat (first|(with_reducible first|exact HB.out|apply below_alloc|apply pw_below_drewN|apply below_drew1)|exact HB.out)) hb);clear HB;have HO269:=n0_;have HB:=n1_;clear n0_ n1_;(try clear hb);(try clear hb2);(try clear hk);(try clear hi);(try clear ho0))|((with_reducible refine gate_dst (N:=3) rfl ?_);refine box_event ?hg (N:=3) ?hd (cs:=#[.int .u32 0,.slice none 0 0]) (t:=25) ?hr ?_;(case hd=>rfl);(case hg=>rfl);(case hr=>first|(go_simp;done)|(go_simp;rfl));intro gb271 hg w13 hbox hb;have n0_:=Aside0.mk (Kd.R_below (by (with_reducible repeat (first|apply Kd.R_alloc|apply Kd.R_drewN|apply Kd.R_drew));exact HO269.out) hb);have n1_:=Aside0.mk (below_step (by repeat (first|(with_reducible first|exact HB.out|apply below_alloc|apply pw_below_drewN|apply below_drew1)|exact HB.out)) hb);have n2_:=Aside0.mk (hbox);have n3_:=Aside0.mk ((by rw [hg];exact (below_size (by repeat (first|(with_reducible first|exact HB.out|apply below_alloc|apply pw_below_drewN|apply below_drew1)|exact HB.out))) : w.heap.size ≤ gb271));have n4_:=Aside0.mk ((by rw [hg];exact (below_size (by repeat (first|(with_reducible first|exact HB.out|apply below_alloc|apply pw_below_drewN|apply below_drew1)|exact HB.out))) : w.heap.size ≤ gb271));clear HO269;clear HB;have HO269:=n0_;have HB:=n1_;have BK271:=n2_;have GW271:=n3_;have GE271:=n4_;clear n0_ n1_ n2_ n3_ n4_;clear hb hbox hg;have hcz14_0 : w13.cell? ⟨gb271,0,none⟩ = some (.int .u32 0):=(blk_cell BK271.out 0).trans rfl;have hcz14_1 : w13.cell? ⟨gb271,1,none⟩ = some (.slice none 0 0):=(blk_cell BK271.out 1).trans rfl;have hfz14_0:=blk_frozen BK271.out 0;have hfz14_1:=blk_frozen BK271.out 1;obtain ⟨Ao15,co15,eo15⟩:=Kd.R_slice HO269.out;subst eo15)|((with_reducible refine gate_callee (f:=21) rfl ?_);refine goesL_ (some 18) rfl rfl Tryd.func21 (by kernel_rfl) rfl #[.string a0] rfl (by (try simp only [List.map_toArray,List.map_cons,List.map_nil]);first|done|rfl|(simp only [List.length_drop,List.length_take];rfl)|(simp (disch:=first|omega|(simp at *;omega)) only [u64_id,i64_id,u8_id];rfl)) ?_;(with_reducible refine (bosunref17_Decode.calls k a0 t272 t273 t276 _ A6.out).mono ?_);rintro e w16 ⟨v274,rfl,ho0,hb⟩;refine ⟨_,rfl,?_⟩;have n0_:=Aside0.mk (Kd.R_below (by (with_reducible repeat (first|apply Kd.R_alloc|apply Kd.R_drewN|apply Kd.R_drew));exact (Kd.R_mono (Kd.R_far (p:=⟨gb271,1,none⟩) (Kd.R_far (p:=⟨gb271,0,none⟩) (Kd.R_types HO269.out BK271.out (by decide)) (fun _ hk=>hk.2) (.int .u32 t266)) (fun _ hk=>hk.2) (.slice Ao15 t267.length co15)) (fun _ h_=>h_.1))) hb);have n1_:=Aside0.mk (Kd.R_lower ho0 (below_size (by repeat (first|(with_reducible first|exact HB.out|apply below_alloc|apply pw_below_drewN|apply below_drew1|refine below_set ?_ GE271.out)|exact HB.out))));have n2_:=Aside0.mk (blk_below (g:=gb271) (o:=.cells #[.int .u32 t266,.slice Ao15 t267.length co15] 25 (0,0)) (by (with_reducible repeat (first|apply blk_drewN|apply blk_drew|apply blk_alloc));refine blk_put (cs:=#[.int .u32 t266,.slice none 0 0]) ?_ 1 _ rfl;(with_reducible repeat (first|apply blk_drewN|apply blk_drew|apply blk_alloc));refine blk_put (cs:=#[.int .u32 0,.slice none 0 0]) ?_ 0 _ rfl;(with_reducible repeat (first|apply blk_drewN|apply blk_drew|apply blk_alloc));exact BK271.out) hb);have n3_:=Aside0.mk (below_step (by repeat (first|(with_reducible first|exact HB.out|apply below_alloc|apply pw_below_drewN|apply below_drew1|refine below_set ?_ GE271.out)|exact HB.out)) hb);clear HO269;clear BK271;clear HB;have HO269:=n0_;have HO275:=n1_;have BK271:=n2_;have HB:=n3_;clear n0_ n1_ n2_ n3_;(try clear hb);(try clear hb2);(try clear hk);(try clear hi);(try clear ho0))|((with_reducible refine gate_dst (N:=5) rfl ?_);refine box_event ?hg (N:=5) ?hd (cs:=#[.int .u32 0,.slice none 0 0]) (t:=30) ?hr ?_;(case hd=>rfl);(case hg=>rfl);(case hr=>first|(go_simp;done)|(go_simp;rfl));intro gb277 hg w17 hbox hb;have n0_:=Aside0.mk (Kd.R_below (by (with_reducible repeat (first|apply Kd.R_alloc|apply Kd.R_drewN|apply Kd.R_drew));exact HO269.out) hb);have n1_:=Aside0.mk (Kd.R_below (by (with_reducible repeat (first|apply Kd.R_alloc|apply Kd.R_drewN|apply Kd.R_drew));exact HO275.out) hb);have n2_:=Aside0.mk (blk_below (g:=gb271) (o:=.cells #[.int .u32 t266,.slice Ao15 t267.length co15] 25 (0,0)) (by (with_reducible repeat (first|apply blk_drewN|apply blk_drew|apply blk_alloc));exact BK271.out) hb);have n3_:=Aside0.mk (below_step (by repeat (first|(with_reducible first|exact HB.out|apply below_alloc|apply pw_below_drewN|apply below_drew1|refine below_set ?_ GE271.out)|exact HB.out)) hb);have n4_:=Aside0.mk (hbox);have n5_:=Aside0.mk ((by rw [hg];exact (below_size (by repeat (first|(with_reducible first|exact HB.out|apply below_alloc|apply pw_below_drewN|apply below_drew1|refine below_set ?_ GE271.out)|exact HB.out))) : w.heap.size ≤ gb277));have n6_:=Aside0.mk ((by rw [hg];exact (below_size (by repeat (first|(with_reducible first|exact HB.out|apply below_alloc|apply pw_below_drewN|apply below_drew1|refine below_set ?_ GE271.out)|exact HB.out))) : w.heap.size ≤ gb277));have n7_:=Aside0.mk ((by rw [hg];exact Nat.ne_of_lt (blk_lt (g:=gb271) (o:=.cells #[.int .u32 t266,.slice Ao15 t267.length co15] 25 (0,0)) (by (with_reducible repeat (first|apply blk_drewN|apply blk_drew|apply blk_alloc));exact BK271.out)) : gb271 ≠ gb277));have n8_:=Aside0.mk ((by rw [hg];exact Nat.ne_of_gt (blk_lt (g:=gb271) (o:=.cells #[.int .u32 t266,.slice Ao15 t267.length co15] 25 (0,0)) (by (with_reducible repeat (first|apply blk_drewN|apply blk_drew|apply blk_alloc));exact BK271.out)) : gb277 ≠ gb271));clear HO269;clear HO275;clear BK271;clear HB;have HO269:=n0_;have HO275:=n1_;have BK271:=n2_;have HB:=n3_;have BK277:=n4_;have GW277:=n5_;have GE277:=n6_;have NB271_277:=n7_;have NB277_271:=n8_;clear n0_ n1_ n2_ n3_ n4_ n5_ n6_ n7_ n8_;clear hb hbox hg;have hnb18:=NB277_271.out;have hnc18:=NB271_277.out;have hcz19_0 : w17.cell? ⟨gb277,0,none⟩ = some (.int .u32 0):=(blk_cell BK277.out 0).trans rfl;have hcz19_1 : w17.cell? ⟨gb277,1,none⟩ = some (.slice none 0 0):=(blk_cell BK277.out 1).trans rfl;have hfz19_0:=blk_frozen BK277.out 0;have hfz19_1:=blk_frozen BK277.out 1;obtain ⟨Ao20,co20,eo20⟩:=Kd.R_slice HO275.out;subst eo20))
    have n0_ : Aside0 (Kd.R k66 66 ((w17.setCell ⟨gb277,0,none⟩ (.int .u32 t272)).setCell ⟨gb277,1,none⟩ (.slice Ao20 t273.length co20)) w.heap.size (fun _=>True) (.slice Ao15 t267.length co15) t267):=⟨by (with_reducible repeat (first|apply Kd.R_alloc|apply Kd.R_drewN|apply Kd.R_drew));exact Kd.R_mono (Kd.R_far (p:=⟨gb277,1,none⟩) (Kd.R_far (p:=⟨gb277,0,none⟩) (Kd.R_types HO269.out BK277.out (by decide)) (fun _ hk=>hk.2) (.int .u32 t272)) (fun _ hk=>hk.2) (.slice Ao20 t273.length co20)) (fun _ hk=>trivial)⟩
    have n1_ : Aside0 (Kd.R k67 67 ((w17.setCell ⟨gb277,0,none⟩ (.int .u32 t272)).setCell ⟨gb277,1,none⟩ (.slice Ao20 t273.length co20)) w.heap.size (fun _=>True) (.slice Ao20 t273.length co20) t273):=⟨by (with_reducible repeat (first|apply Kd.R_alloc|apply Kd.R_drewN|apply Kd.R_drew));exact Kd.R_mono (Kd.R_far (p:=⟨gb277,1,none⟩) (Kd.R_far (p:=⟨gb277,0,none⟩) (Kd.R_types HO275.out BK277.out (by decide)) (fun _ hk=>hk.2) (.int .u32 t272)) (fun _ hk=>hk.2) (.slice Ao20 t273.length co20)) (fun _ hk=>trivial)⟩
    have n2_ : Aside0 (((w17.setCell ⟨gb277,0,none⟩ (.int .u32 t272)).setCell ⟨gb277,1,none⟩ (.slice Ao20 t273.length co20)).heap[gb271]? = some (.cells #[.int .u32 t266,.slice Ao15 t267.length co15] 25 (0,0))):=⟨by (with_reducible repeat (first|apply blk_drewN|apply blk_drew|apply blk_alloc));refine blk_far ?_ NB271_277.out _;(with_reducible repeat (first|apply blk_drewN|apply blk_drew|apply blk_alloc));refine blk_far ?_ NB271_277.out _;(with_reducible repeat (first|apply blk_drewN|apply blk_drew|apply blk_alloc));exact BK271.out⟩
    have n3_ : Aside0 (((w17.setCell ⟨gb277,0,none⟩ (.int .u32 t272)).setCell ⟨gb277,1,none⟩ (.slice Ao20 t273.length co20)).heap[gb277]? = some (.cells #[.int .u32 t272,.slice Ao20 t273.length co20] 30 (0,0))):=⟨by (with_reducible repeat (first|apply blk_drewN|apply blk_drew|apply blk_alloc));refine blk_put (cs:=#[.int .u32 t272,.slice none 0 0]) ?_ 1 _ rfl;(with_reducible repeat (first|apply blk_drewN|apply blk_drew|apply blk_alloc));refine blk_put (cs:=#[.int .u32 0,.slice none 0 0]) ?_ 0 _ rfl;(with_reducible repeat (first|apply blk_drewN|apply blk_drew|apply blk_alloc));exact BK277.out⟩
    have n4_ : Aside0 (Below w.heap.size w ((w17.setCell ⟨gb277,0,none⟩ (.int .u32 t272)).setCell ⟨gb277,1,none⟩ (.slice Ao20 t273.length co20))):=⟨by repeat (first|(with_reducible first|exact HB.out|apply below_alloc|apply pw_below_drewN|apply below_drew1|refine below_set ?_ GE271.out|refine below_set ?_ GE277.out)|exact HB.out)⟩
    (try clear HO269)
    (try clear HO275)
    (try clear BK271)
    (try clear BK277)
    (try clear HB)
    generalize ((w17.setCell ⟨gb277,0,none⟩ (.int .u32 t272)).setCell ⟨gb277,1,none⟩ (.slice Ao20 t273.length co20)) = w21 at n0_ n1_ n2_ n3_ n4_ ⊢
    have HO269:=n0_
    have HO275:=n1_
    have BK271:=n2_
    have BK277:=n3_
    have HB:=n4_
    clear n0_ n1_ n2_ n3_ n4_
    have n0_:=Aside0.mk (Kd.R_drew HO269.out)
    have n1_:=Aside0.mk (Kd.R_drew HO275.out)
    have n2_:=Aside0.mk (blk_drew BK271.out)
    have n3_:=Aside0.mk (blk_drew BK277.out)
    have n4_:=Aside0.mk (below_drew1 HB.out)
    clear HO269
    clear HO275
    clear BK271
    clear BK277
    clear HB
    have HO269:=n0_
    have HO275:=n1_
    have BK271:=n2_
    have BK277:=n3_
    have HB:=n4_
    clear n0_ n1_ n2_ n3_ n4_
    refine start_ (n:=13) (S:=fun w'=>w'.cell? ⟨gb271,0,none⟩ = some (.int .u32 t266) ∧ w'.cell? ⟨gb271,1,none⟩ = some (.slice Ao15 t267.length co15) ∧ w'.cell? ⟨gb277,0,none⟩ = some (.int .u32 t272) ∧ w'.cell? ⟨gb277,1,none⟩ = some (.slice Ao20 t273.length co20)) (ds:=[]) #[false,false,false,false,false,false,false,false,false,false,false,false,false] (by kernel_rfl) rfl rfl ⟨(blk_cell BK271.out 0).trans rfl,(blk_cell BK271.out 1).trans rfl,(blk_cell BK277.out 0).trans rfl,(blk_cell BK277.out 1).trans rfl⟩ (fun hHeld=>?_);refine with_tabW bosunlaw17_CkoneReads.tab5 bosunlaw17_CkoneReads.bits5 (fun HT_ HW_=>?_)
    generalize w21.drew = w22 at HO269 HO275 BK271 BK277 HB hHeld ⊢
    refine one_ (i:=0) (N:=some 21) #[true,false,false,false,false,false,false,false,false,false,false,false,false] rfl rfl (one_of HT_.out (by kernel_rfl)) (by decide) (fun K hK=>?_)
    refine goes_ Tryd.func10 (by kernel_rfl) rfl #[] (by rfl) rfl rfl (by (try simp only [List.map_toArray,List.map_cons,List.map_nil]);first|done|rfl|(simp only [List.length_drop,List.length_take];rfl)) ?_
    with_reducible refine (bosunlaw17_Awake.calls k  true _ A7.out).mono ?_
    rintro e w23 ⟨rfl,hb⟩
    refine ⟨_,rfl,?_⟩
    have n0_:=Aside0.mk (Kd.R_below (by (with_reducible repeat (first|apply Kd.R_alloc|apply Kd.R_drewN|apply Kd.R_drew));exact HO269.out) hb)
    have n1_:=Aside0.mk (Kd.R_below (by (with_reducible repeat (first|apply Kd.R_alloc|apply Kd.R_drewN|apply Kd.R_drew));exact HO275.out) hb)
    have n2_:=Aside0.mk (blk_below (g:=gb271) (o:=.cells #[.int .u32 t266,.slice Ao15 t267.length co15] 25 (0,0)) (by (with_reducible repeat (first|apply blk_drewN|apply blk_drew|apply blk_alloc));exact BK271.out) hb)
    have n3_:=Aside0.mk (blk_below (g:=gb277) (o:=.cells #[.int .u32 t272,.slice Ao20 t273.length co20] 30 (0,0)) (by (with_reducible repeat (first|apply blk_drewN|apply blk_drew|apply blk_alloc));exact BK277.out) hb)
    have n4_:=Aside0.mk (below_step (by repeat (first|(with_reducible first|exact HB.out|apply below_alloc|apply pw_below_drewN|apply below_drew1|refine below_set ?_ GE271.out|refine below_set ?_ GE277.out)|exact HB.out)) hb)
    clear HO269
    clear HO275
    clear BK271
    clear BK277
    clear HB
    have HO269:=n0_
    have HO275:=n1_
    have BK271:=n2_
    have BK277:=n3_
    have HB:=n4_
    clear n0_ n1_ n2_ n3_ n4_
    (try clear hb)
    (try clear hb2)
    (try clear hk)
    (try clear hi)
    refine hK.out _ _ ⟨(blk_cell BK271.out 0).trans rfl,(blk_cell BK271.out 1).trans rfl,(blk_cell BK277.out 0).trans rfl,(blk_cell BK277.out 1).trans rfl⟩ (fun hHeld=>?_)
    clear hK K
    refine norm_ (a':=?_) ?_ ?_
    rotate_left
    ·show Act.put _ (some 21) _ = _
     simp only [Act.put,List.setIfInBounds_toArray,List.set_cons_zero,List.set_cons_succ,i64_w,i32_w]
     rfl
    refine pure_ (i:=1) (N:=some 22) (v:=?_) (a':=?_) #[true,true,false,false,false,false,false,false,false,false,false,false,false] rfl rfl (any_of HT_.out (by kernel_rfl)) (fun _ _ _ h=>h) (Or.inl ⟨by rfl,?_⟩) ?_ ?_
    rotate_left
    ·intro w'
     go_simp
     with_reducible rfl
    rotate_left
    ·simp only [Act.put,List.setIfInBounds_toArray,List.set_cons_zero,List.set_cons_succ,i64_w,i32_w]
     rfl
    refine pure_ (i:=2) (N:=some 23) (v:=?_) (a':=?_) #[true,true,true,false,false,false,false,false,false,false,false,false,false] rfl rfl (any_of HT_.out (by kernel_rfl)) (fun _ _ _ h=>h) (Or.inl ⟨by rfl,?_⟩) ?_ ?_
    rotate_left
    ·intro w'
     go_simp
     with_reducible rfl
    rotate_left
    ·simp only [Act.put,List.setIfInBounds_toArray,List.set_cons_zero,List.set_cons_succ,i64_w,i32_w]
     rfl
    refine pure_ (i:=3) (N:=some 24) (v:=?_) (a':=?_) #[true,true,true,true,false,false,false,false,false,false,false,false,false] rfl rfl (any_of HT_.out (by kernel_rfl)) (fun _ _ _ h=>h) (Or.inl ⟨by rfl,?_⟩) ?_ ?_
    rotate_left
    ·intro w'
     go_simp
     with_reducible rfl
    rotate_left
    ·simp only [Act.put,List.setIfInBounds_toArray,List.set_cons_zero,List.set_cons_succ,i64_w,i32_w]
     rfl
    refine pure_ (i:=4) (N:=some 25) (v:=?_) (a':=?_) #[true,true,true,true,true,false,false,false,false,false,false,false,false] rfl rfl (any_of HT_.out (by kernel_rfl)) (fun _ _ _ h=>h) (Or.inl ⟨by rfl,?_⟩) ?_ ?_
    rotate_left
    ·intro w'
     go_simp
     with_reducible rfl
    rotate_left
    ·simp only [Act.put,List.setIfInBounds_toArray,List.set_cons_zero,List.set_cons_succ,i64_w,i32_w]
     rfl
    refine pure_ (i:=5) (N:=some 26) (v:=?_) (a':=?_) #[true,true,true,true,true,true,false,false,false,false,false,false,false] rfl rfl (any_of HT_.out (by kernel_rfl)) (fun _ _ _ h=>h) (Or.inl ⟨by rfl,?_⟩) ?_ ?_
    rotate_left
    ·intro w'
     go_simp
     with_reducible rfl
    rotate_left
    ·simp only [Act.put,List.setIfInBounds_toArray,List.set_cons_zero,List.set_cons_succ,i64_w,i32_w]
     rfl
    refine pure_ (i:=6) (N:=some 27) (v:=?_) (a':=?_) #[true,true,true,true,true,true,true,false,false,false,false,false,false] rfl rfl (any_of HT_.out (by kernel_rfl)) (fun _ _ _ h=>h) (Or.inl ⟨by rfl,?_⟩) ?_ ?_
    rotate_left
    ·intro w'
     go_simp
     with_reducible rfl
    rotate_left
    ·simp only [Act.put,List.setIfInBounds_toArray,List.set_cons_zero,List.set_cons_succ,i64_w,i32_w]
     rfl
    refine take_ (i:=7) (N:=some 28) (v:=?_) (a':=?_) #[true,true,true,true,true,true,true,true,false,false,false,false,false] rfl rfl (take_ofW HT_.out HW_.out (by kernel_rfl)) (fun _ _ _ h=>h) (Or.inl ⟨by rfl,?_⟩) hHeld ?_ ?_
    rotate_left
    ·rintro w' ⟨s0,s1,s2,s3⟩
     go_simp
     with_reducible rfl
    rotate_left
    ·simp only [Act.put,List.setIfInBounds_toArray,List.set_cons_zero,List.set_cons_succ,i64_w,i32_w]
     rfl
    refine take_ (i:=9) (N:=some 30) (v:=?_) (a':=?_) #[true,true,true,true,true,true,true,true,false,true,false,false,false] rfl rfl (take_ofW HT_.out HW_.out (by kernel_rfl)) (fun _ _ _ h=>h) (Or.inl ⟨by rfl,?_⟩) hHeld ?_ ?_
    rotate_left
    ·rintro w' ⟨s0,s1,s2,s3⟩
     go_simp
     with_reducible rfl
    rotate_left
    ·simp only [Act.put,List.setIfInBounds_toArray,List.set_cons_zero,List.set_cons_succ,i64_w,i32_w]
     rfl
    refine one_ (i:=8) (N:=some 29) #[true,true,true,true,true,true,true,true,true,true,false,false,false] rfl rfl (one_of HT_.out (by kernel_rfl)) (by decide) (fun K hK=>?_)
    refine goes_ Tryd.func11 (by kernel_rfl) rfl #[.agg #[.int .u32 t266,.slice Ao15 t267.length co15]] (by rfl) rfl rfl (by (try simp only [List.map_toArray,List.map_cons,List.map_nil]);first|done|rfl|(simp only [List.length_drop,List.length_take];rfl)) ?_
    with_reducible refine (bosunlaw17_Of.calls k t266 _ _ t267 t279 t280 _ ?side1 ?side2 A10.out).mono ?_
    (case side1=>repeat (first|exact (Kd.R_reads' HO269.out).2.2|(with_reducible refine Kd.C_alloc ?_ _)|(with_reducible refine Kd.C_drewN ?_ _)|(with_reducible refine Kd.C_drew ?_)))
    (case side2=>exact (Kd.R_reads' HO269.out).2.1)
    rintro e w24 ⟨v281,rfl,ho0,hb⟩
    refine ⟨_,rfl,?_⟩
    have n0_:=Aside0.mk (Kd.R_below (by (with_reducible repeat (first|apply Kd.R_alloc|apply Kd.R_drewN|apply Kd.R_drew));exact HO269.out) hb)
    have n1_:=Aside0.mk (Kd.R_elder' (by (with_reducible repeat (first|apply Kd.R_alloc|apply Kd.R_drewN|apply Kd.R_drew));exact HO275.out) (Kd.R_base ho0) hb)
    have n2_:=Aside0.mk (Kd.R_lower (Kd.R_new' ho0 (Kd.R_lt (by (with_reducible repeat (first|apply Kd.R_alloc|apply Kd.R_drewN|apply Kd.R_drew));exact HO275.out))) (below_size (by repeat (first|(with_reducible first|exact HB.out|apply below_alloc|apply pw_below_drewN|apply below_drew1|refine below_set ?_ GE271.out|refine below_set ?_ GE277.out)|exact HB.out))))
    have n3_:=Aside0.mk (blk_below (g:=gb271) (o:=.cells #[.int .u32 t266,.slice Ao15 t267.length co15] 25 (0,0)) (by (with_reducible repeat (first|apply blk_drewN|apply blk_drew|apply blk_alloc));exact BK271.out) hb)
    have n4_:=Aside0.mk (blk_below (g:=gb277) (o:=.cells #[.int .u32 t272,.slice Ao20 t273.length co20] 30 (0,0)) (by (with_reducible repeat (first|apply blk_drewN|apply blk_drew|apply blk_alloc));exact BK277.out) hb)
    have n5_:=Aside0.mk (below_step (by repeat (first|(with_reducible first|exact HB.out|apply below_alloc|apply pw_below_drewN|apply below_drew1|refine below_set ?_ GE271.out|refine below_set ?_ GE277.out)|exact HB.out)) hb)
    clear HO269
    clear HO275
    clear BK271
    clear BK277
    clear HB
    have HO269:=n0_
    have HO275:=n1_
    have HO282:=n2_
    have BK271:=n3_
    have BK277:=n4_
    have HB:=n5_
    clear n0_ n1_ n2_ n3_ n4_ n5_
    (try clear hb)
    (try clear hb2)
    (try clear hk)
    (try clear hi)
    (try clear ho0)
    obtain ⟨Ao25,co25,eo25⟩:=Kd.R_slice HO282.out
    (first|subst eo25|(injection eo25 with f1_ f2_ f3_;have f4_:=f1_.symm;have f5_:=f3_.symm;clear f1_ f2_ f3_;subst f4_;subst f5_))
    refine hK.out _ _ ⟨(blk_cell BK271.out 0).trans rfl,(blk_cell BK271.out 1).trans rfl,(blk_cell BK277.out 0).trans rfl,(blk_cell BK277.out 1).trans rfl⟩ (fun hHeld=>?_)
    clear hK K
    refine norm_ (a':=?_) ?_ ?_
    rotate_left
    ·show Act.put _ (some 29) _ = _
     simp only [Act.put,List.setIfInBounds_toArray,List.set_cons_zero,List.set_cons_succ,i64_w,i32_w]
     rfl
    refine one_ (i:=10) (N:=some 31) #[true,true,true,true,true,true,true,true,true,true,true,false,false] rfl rfl (one_of HT_.out (by kernel_rfl)) (by decide) (fun K hK=>?_)
    refine goes_ Tryd.func17 (by kernel_rfl) rfl #[.agg #[.int .u32 t279,.slice Ao25 t280.length co25],.agg #[.int .u32 t272,.slice Ao20 t273.length co20]] (by rfl) rfl rfl (by (try simp only [List.map_toArray,List.map_cons,List.map_nil]);first|done|rfl|(simp only [List.length_drop,List.length_take];rfl)) ?_
    with_reducible refine (bosunref17_Same.calls k t279 _ _ t280 t272 _ _ t273 t283 _ ?side1 ?side2 ?side3 ?side4 A11.out).mono ?_
    (case side1=>repeat (first|exact (Kd.R_reads' HO282.out).2.2|(with_reducible refine Kd.C_alloc ?_ _)|(with_reducible refine Kd.C_drewN ?_ _)|(with_reducible refine Kd.C_drew ?_)))
    (case side2=>exact (Kd.R_reads' HO282.out).2.1)
    (case side3=>repeat (first|exact (Kd.R_reads' HO275.out).2.2|(with_reducible refine Kd.C_alloc ?_ _)|(with_reducible refine Kd.C_drewN ?_ _)|(with_reducible refine Kd.C_drew ?_)))
    (case side4=>exact (Kd.R_reads' HO275.out).2.1)
    rintro e w26 ⟨rfl,hb⟩
    refine ⟨_,rfl,?_⟩
    have n0_:=Aside0.mk (Kd.R_below (by (with_reducible repeat (first|apply Kd.R_alloc|apply Kd.R_drewN|apply Kd.R_drew));exact HO269.out) hb)
    have n1_:=Aside0.mk (Kd.R_below (by (with_reducible repeat (first|apply Kd.R_alloc|apply Kd.R_drewN|apply Kd.R_drew));exact HO275.out) hb)
    have n2_:=Aside0.mk (Kd.R_below (by (with_reducible repeat (first|apply Kd.R_alloc|apply Kd.R_drewN|apply Kd.R_drew));exact HO282.out) hb)
    have n3_:=Aside0.mk (blk_below (g:=gb271) (o:=.cells #[.int .u32 t266,.slice Ao15 t267.length co15] 25 (0,0)) (by (with_reducible repeat (first|apply blk_drewN|apply blk_drew|apply blk_alloc));exact BK271.out) hb)
    have n4_:=Aside0.mk (blk_below (g:=gb277) (o:=.cells #[.int .u32 t272,.slice Ao20 t273.length co20] 30 (0,0)) (by (with_reducible repeat (first|apply blk_drewN|apply blk_drew|apply blk_alloc));exact BK277.out) hb)
    have n5_:=Aside0.mk (below_step (by repeat (first|(with_reducible first|exact HB.out|apply below_alloc|apply pw_below_drewN|apply below_drew1|refine below_set ?_ GE271.out|refine below_set ?_ GE277.out)|exact HB.out)) hb)
    clear HO269
    clear HO275
    clear HO282
    clear BK271
    clear BK277
    clear HB
    have HO269:=n0_
    have HO275:=n1_
    have HO282:=n2_
    have BK271:=n3_
    have BK277:=n4_
    have HB:=n5_
    clear n0_ n1_ n2_ n3_ n4_ n5_
    (try clear hb)
    (try clear hb2)
    (try clear hk)
    (try clear hi)
    refine hK.out _ _ ⟨(blk_cell BK271.out 0).trans rfl,(blk_cell BK271.out 1).trans rfl,(blk_cell BK277.out 0).trans rfl,(blk_cell BK277.out 1).trans rfl⟩ (fun hHeld=>?_)
    clear hK K
    refine norm_ (a':=?_) ?_ ?_
    rotate_left
    ·show Act.put _ (some 31) _ = _
     simp only [Act.put,List.setIfInBounds_toArray,List.set_cons_zero,List.set_cons_succ,i64_w,i32_w]
     rfl
    refine pure_ (i:=11) (N:=some 32) (v:=?_) (a':=?_) #[true,true,true,true,true,true,true,true,true,true,true,true,false] rfl rfl (any_of HT_.out (by kernel_rfl)) (fun _ _ _ h=>h) (Or.inl ⟨by rfl,?_⟩) ?_ ?_
    rotate_left
    ·intro w'
     go_simp
     with_reducible rfl
    rotate_left
    ·simp only [Act.put,List.setIfInBounds_toArray,List.set_cons_zero,List.set_cons_succ,i64_w,i32_w]
     rfl
    refine pure_ (i:=12) (N:=some 2) (v:=?_) (a':=?_) #[true,true,true,true,true,true,true,true,true,true,true,true,true] rfl rfl (any_of HT_.out (by kernel_rfl)) (fun _ _ _ h=>h) (Or.inl ⟨by rfl,?_⟩) ?_ ?_
    rotate_left
    ·intro w'
     go_simp
     with_reducible rfl
    rotate_left
    ·simp only [Act.put,List.setIfInBounds_toArray,List.set_cons_zero,List.set_cons_succ,i64_w,i32_w]
     rfl
    refine done_ (done_of HT_.out (by kernel_rfl)) ?_
    try go_wp2
    go_ret
    exact ⟨by first|rfl|(simp [errW_none,errW_some] <;> rfl)|(simp [*,errW_none,errW_some] <;> rfl),by repeat (first|(with_reducible first|exact HB.out|apply below_alloc|apply pw_below_drewN|apply below_drew1|refine below_set ?_ GE271.out|refine below_set ?_ GE277.out)|exact HB.out)⟩
   ·rw [if_neg c9] at H
    have c9b0 : (t270 == t276) = false:=beq_eq_false_iff_ne.mpr c9
    have c9b1 : (t270 != t276) = true:=bne_iff_ne.mpr c9
    obtain rfl:=Option.some.inj H
    go_enter Tryd.func4,Tryd.ntmps4
    try go_wp2_with (first|((with_reducible refine gate_callee (f:=20) rfl ?_);refine goesL_ (some 13) rfl rfl Tryd.func20 (by kernel_rfl) rfl #[.string a0] rfl (by (try simp only [List.map_toArray,List.map_cons,List.map_nil]);first|done|rfl|(simp only [List.length_drop,List.length_take];rfl)|(simp (disch:=first|omega|(simp at *;omega)) only [u64_id,i64_id,u8_id];rfl)) ?_;(with_reducible refine (ckone_Decode.calls k a0 t266 t267 t270 _ A5.out).mono ?_);rintro e w27 ⟨v268,rfl,ho0,hb⟩;refine ⟨_,rfl,?_⟩;have n0_:=Aside0.mk (Kd.R_lower ho0 (below_size (by repeat (first|(with_reducible first|exact HB.out|apply below_alloc|apply pw_below_drewN|apply below_drew1)|exact HB.out))));have n1_:=Aside0.mk (below_step (by repeat (first|(with_reducible first|exact HB.out|apply below_alloc|apply pw_below_drewN|apply below_drew1)|exact HB.out)) hb);clear HB;have HO269:=n0_;have HB:=n1_;clear n0_ n1_;(try clear hb);(try clear hb2);(try clear hk);(try clear hi);(try clear ho0))|((with_reducible refine gate_dst (N:=3) rfl ?_);refine box_event ?hg (N:=3) ?hd (cs:=#[.int .u32 0,.slice none 0 0]) (t:=25) ?hr ?_;(case hd=>rfl);(case hg=>rfl);(case hr=>first|(go_simp;done)|(go_simp;rfl));intro gb271 hg w28 hbox hb;have n0_:=Aside0.mk (Kd.R_below (by (with_reducible repeat (first|apply Kd.R_alloc|apply Kd.R_drewN|apply Kd.R_drew));exact HO269.out) hb);have n1_:=Aside0.mk (below_step (by repeat (first|(with_reducible first|exact HB.out|apply below_alloc|apply pw_below_drewN|apply below_drew1)|exact HB.out)) hb);have n2_:=Aside0.mk (hbox);have n3_:=Aside0.mk ((by rw [hg];exact (below_size (by repeat (first|(with_reducible first|exact HB.out|apply below_alloc|apply pw_below_drewN|apply below_drew1)|exact HB.out))) : w.heap.size ≤ gb271));have n4_:=Aside0.mk ((by rw [hg];exact (below_size (by repeat (first|(with_reducible first|exact HB.out|apply below_alloc|apply pw_below_drewN|apply below_drew1)|exact HB.out))) : w.heap.size ≤ gb271));clear HO269;clear HB;have HO269:=n0_;have HB:=n1_;have BK271:=n2_;have GW271:=n3_;have GE271:=n4_;clear n0_ n1_ n2_ n3_ n4_;clear hb hbox hg;have hcz29_0 : w28.cell? ⟨gb271,0,none⟩ = some (.int .u32 0):=(blk_cell BK271.out 0).trans rfl;have hcz29_1 : w28.cell? ⟨gb271,1,none⟩ = some (.slice none 0 0):=(blk_cell BK271.out 1).trans rfl;have hfz29_0:=blk_frozen BK271.out 0;have hfz29_1:=blk_frozen BK271.out 1;obtain ⟨Ao30,co30,eo30⟩:=Kd.R_slice HO269.out;subst eo30)|((with_reducible refine gate_callee (f:=21) rfl ?_);refine goesL_ (some 18) rfl rfl Tryd.func21 (by kernel_rfl) rfl #[.string a0] rfl (by (try simp only [List.map_toArray,List.map_cons,List.map_nil]);first|done|rfl|(simp only [List.length_drop,List.length_take];rfl)|(simp (disch:=first|omega|(simp at *;omega)) only [u64_id,i64_id,u8_id];rfl)) ?_;(with_reducible refine (bosunref17_Decode.calls k a0 t272 t273 t276 _ A6.out).mono ?_);rintro e w31 ⟨v274,rfl,ho0,hb⟩;refine ⟨_,rfl,?_⟩;have n0_:=Aside0.mk (Kd.R_below (by (with_reducible repeat (first|apply Kd.R_alloc|apply Kd.R_drewN|apply Kd.R_drew));exact (Kd.R_mono (Kd.R_far (p:=⟨gb271,1,none⟩) (Kd.R_far (p:=⟨gb271,0,none⟩) (Kd.R_types HO269.out BK271.out (by decide)) (fun _ hk=>hk.2) (.int .u32 t266)) (fun _ hk=>hk.2) (.slice Ao30 t267.length co30)) (fun _ h_=>h_.1))) hb);have n1_:=Aside0.mk (Kd.R_lower ho0 (below_size (by repeat (first|(with_reducible first|exact HB.out|apply below_alloc|apply pw_below_drewN|apply below_drew1|refine below_set ?_ GE271.out)|exact HB.out))));have n2_:=Aside0.mk (blk_below (g:=gb271) (o:=.cells #[.int .u32 t266,.slice Ao30 t267.length co30] 25 (0,0)) (by (with_reducible repeat (first|apply blk_drewN|apply blk_drew|apply blk_alloc));refine blk_put (cs:=#[.int .u32 t266,.slice none 0 0]) ?_ 1 _ rfl;(with_reducible repeat (first|apply blk_drewN|apply blk_drew|apply blk_alloc));refine blk_put (cs:=#[.int .u32 0,.slice none 0 0]) ?_ 0 _ rfl;(with_reducible repeat (first|apply blk_drewN|apply blk_drew|apply blk_alloc));exact BK271.out) hb);have n3_:=Aside0.mk (below_step (by repeat (first|(with_reducible first|exact HB.out|apply below_alloc|apply pw_below_drewN|apply below_drew1|refine below_set ?_ GE271.out)|exact HB.out)) hb);clear HO269;clear BK271;clear HB;have HO269:=n0_;have HO275:=n1_;have BK271:=n2_;have HB:=n3_;clear n0_ n1_ n2_ n3_;(try clear hb);(try clear hb2);(try clear hk);(try clear hi);(try clear ho0))|((with_reducible refine gate_dst (N:=5) rfl ?_);refine box_event ?hg (N:=5) ?hd (cs:=#[.int .u32 0,.slice none 0 0]) (t:=30) ?hr ?_;(case hd=>rfl);(case hg=>rfl);(case hr=>first|(go_simp;done)|(go_simp;rfl));intro gb277 hg w32 hbox hb;have n0_:=Aside0.mk (Kd.R_below (by (with_reducible repeat (first|apply Kd.R_alloc|apply Kd.R_drewN|apply Kd.R_drew));exact HO269.out) hb);have n1_:=Aside0.mk (Kd.R_below (by (with_reducible repeat (first|apply Kd.R_alloc|apply Kd.R_drewN|apply Kd.R_drew));exact HO275.out) hb);have n2_:=Aside0.mk (blk_below (g:=gb271) (o:=.cells #[.int .u32 t266,.slice Ao30 t267.length co30] 25 (0,0)) (by (with_reducible repeat (first|apply blk_drewN|apply blk_drew|apply blk_alloc));exact BK271.out) hb);have n3_:=Aside0.mk (below_step (by repeat (first|(with_reducible first|exact HB.out|apply below_alloc|apply pw_below_drewN|apply below_drew1|refine below_set ?_ GE271.out)|exact HB.out)) hb);have n4_:=Aside0.mk (hbox);have n5_:=Aside0.mk ((by rw [hg];exact (below_size (by repeat (first|(with_reducible first|exact HB.out|apply below_alloc|apply pw_below_drewN|apply below_drew1|refine below_set ?_ GE271.out)|exact HB.out))) : w.heap.size ≤ gb277));have n6_:=Aside0.mk ((by rw [hg];exact (below_size (by repeat (first|(with_reducible first|exact HB.out|apply below_alloc|apply pw_below_drewN|apply below_drew1|refine below_set ?_ GE271.out)|exact HB.out))) : w.heap.size ≤ gb277));have n7_:=Aside0.mk ((by rw [hg];exact Nat.ne_of_lt (blk_lt (g:=gb271) (o:=.cells #[.int .u32 t266,.slice Ao30 t267.length co30] 25 (0,0)) (by (with_reducible repeat (first|apply blk_drewN|apply blk_drew|apply blk_alloc));exact BK271.out)) : gb271 ≠ gb277));have n8_:=Aside0.mk ((by rw [hg];exact Nat.ne_of_gt (blk_lt (g:=gb271) (o:=.cells #[.int .u32 t266,.slice Ao30 t267.length co30] 25 (0,0)) (by (with_reducible repeat (first|apply blk_drewN|apply blk_drew|apply blk_alloc));exact BK271.out)) : gb277 ≠ gb271));clear HO269;clear HO275;clear BK271;clear HB;have HO269:=n0_;have HO275:=n1_;have BK271:=n2_;have HB:=n3_;have BK277:=n4_;have GW277:=n5_;have GE277:=n6_;have NB271_277:=n7_;have NB277_271:=n8_;clear n0_ n1_ n2_ n3_ n4_ n5_ n6_ n7_ n8_;clear hb hbox hg;have hnb33:=NB277_271.out;have hnc33:=NB271_277.out;have hcz34_0 : w32.cell? ⟨gb277,0,none⟩ = some (.int .u32 0):=(blk_cell BK277.out 0).trans rfl;have hcz34_1 : w32.cell? ⟨gb277,1,none⟩ = some (.slice none 0 0):=(blk_cell BK277.out 1).trans rfl;have hfz34_0:=blk_frozen BK277.out 0;have hfz34_1:=blk_frozen BK277.out 1;obtain ⟨Ao35,co35,eo35⟩:=Kd.R_slice HO275.out;subst eo35))
    have n0_ : Aside0 (Kd.R k66 66 ((w32.setCell ⟨gb277,0,none⟩ (.int .u32 t272)).setCell ⟨gb277,1,none⟩ (.slice Ao35 t273.length co35)) w.heap.size (fun _=>True) (.slice Ao30 t267.length co30) t267):=⟨by (with_reducible repeat (first|apply Kd.R_alloc|apply Kd.R_drewN|apply Kd.R_drew));exact Kd.R_mono (Kd.R_far (p:=⟨gb277,1,none⟩) (Kd.R_far (p:=⟨gb277,0,none⟩) (Kd.R_types HO269.out BK277.out (by decide)) (fun _ hk=>hk.2) (.int .u32 t272)) (fun _ hk=>hk.2) (.slice Ao35 t273.length co35)) (fun _ hk=>trivial)⟩
    have n1_ : Aside0 (Kd.R k67 67 ((w32.setCell ⟨gb277,0,none⟩ (.int .u32 t272)).setCell ⟨gb277,1,none⟩ (.slice Ao35 t273.length co35)) w.heap.size (fun _=>True) (.slice Ao35 t273.length co35) t273):=⟨by (with_reducible repeat (first|apply Kd.R_alloc|apply Kd.R_drewN|apply Kd.R_drew));exact Kd.R_mono (Kd.R_far (p:=⟨gb277,1,none⟩) (Kd.R_far (p:=⟨gb277,0,none⟩) (Kd.R_types HO275.out BK277.out (by decide)) (fun _ hk=>hk.2) (.int .u32 t272)) (fun _ hk=>hk.2) (.slice Ao35 t273.length co35)) (fun _ hk=>trivial)⟩
    have n2_ : Aside0 (((w32.setCell ⟨gb277,0,none⟩ (.int .u32 t272)).setCell ⟨gb277,1,none⟩ (.slice Ao35 t273.length co35)).heap[gb271]? = some (.cells #[.int .u32 t266,.slice Ao30 t267.length co30] 25 (0,0))):=⟨by (with_reducible repeat (first|apply blk_drewN|apply blk_drew|apply blk_alloc));refine blk_far ?_ NB271_277.out _;(with_reducible repeat (first|apply blk_drewN|apply blk_drew|apply blk_alloc));refine blk_far ?_ NB271_277.out _;(with_reducible repeat (first|apply blk_drewN|apply blk_drew|apply blk_alloc));exact BK271.out⟩
    have n3_ : Aside0 (((w32.setCell ⟨gb277,0,none⟩ (.int .u32 t272)).setCell ⟨gb277,1,none⟩ (.slice Ao35 t273.length co35)).heap[gb277]? = some (.cells #[.int .u32 t272,.slice Ao35 t273.length co35] 30 (0,0))):=⟨by (with_reducible repeat (first|apply blk_drewN|apply blk_drew|apply blk_alloc));refine blk_put (cs:=#[.int .u32 t272,.slice none 0 0]) ?_ 1 _ rfl;(with_reducible repeat (first|apply blk_drewN|apply blk_drew|apply blk_alloc));refine blk_put (cs:=#[.int .u32 0,.slice none 0 0]) ?_ 0 _ rfl;(with_reducible repeat (first|apply blk_drewN|apply blk_drew|apply blk_alloc));exact BK277.out⟩
    have n4_ : Aside0 (Below w.heap.size w ((w32.setCell ⟨gb277,0,none⟩ (.int .u32 t272)).setCell ⟨gb277,1,none⟩ (.slice Ao35 t273.length co35))):=⟨by repeat (first|(with_reducible first|exact HB.out|apply below_alloc|apply pw_below_drewN|apply below_drew1|refine below_set ?_ GE271.out|refine below_set ?_ GE277.out)|exact HB.out)⟩
    (try clear HO269)
    (try clear HO275)
    (try clear BK271)
    (try clear BK277)
    (try clear HB)
    generalize ((w32.setCell ⟨gb277,0,none⟩ (.int .u32 t272)).setCell ⟨gb277,1,none⟩ (.slice Ao35 t273.length co35)) = w36 at n0_ n1_ n2_ n3_ n4_ ⊢
    have HO269:=n0_
    have HO275:=n1_
    have BK271:=n2_
    have BK277:=n3_
    have HB:=n4_
    clear n0_ n1_ n2_ n3_ n4_
    have n0_:=Aside0.mk (Kd.R_drew HO269.out)
    have n1_:=Aside0.mk (Kd.R_drew HO275.out)
    have n2_:=Aside0.mk (blk_drew BK271.out)
    have n3_:=Aside0.mk (blk_drew BK277.out)
    have n4_:=Aside0.mk (below_drew1 HB.out)
    clear HO269
    clear HO275
    clear BK271
    clear BK277
    clear HB
    have HO269:=n0_
    have HO275:=n1_
    have BK271:=n2_
    have BK277:=n3_
    have HB:=n4_
    clear n0_ n1_ n2_ n3_ n4_
    refine start_ (n:=13) (S:=fun w'=>True) (ds:=[]) #[false,false,false,false,false,false,false,false,false,false,false,false,false] (by kernel_rfl) rfl rfl trivial (fun hHeld=>?_);refine with_tabW bosunlaw17_CkoneReads.tab5 bosunlaw17_CkoneReads.bits5 (fun HT_ HW_=>?_)
    generalize w36.drew = w37 at HO269 HO275 BK271 BK277 HB hHeld ⊢
    refine one_ (i:=0) (N:=some 21) #[true,false,false,false,false,false,false,false,false,false,false,false,false] rfl rfl (one_of HT_.out (by kernel_rfl)) (by decide) (fun K hK=>?_)
    refine goes_ Tryd.func10 (by kernel_rfl) rfl #[] (by rfl) rfl rfl (by (try simp only [List.map_toArray,List.map_cons,List.map_nil]);first|done|rfl|(simp only [List.length_drop,List.length_take];rfl)) ?_
    with_reducible refine (bosunlaw17_Awake.calls k  true _ A7.out).mono ?_
    rintro e w38 ⟨rfl,hb⟩
    refine ⟨_,rfl,?_⟩
    have n0_:=Aside0.mk (Kd.R_below (by (with_reducible repeat (first|apply Kd.R_alloc|apply Kd.R_drewN|apply Kd.R_drew));exact HO269.out) hb)
    have n1_:=Aside0.mk (Kd.R_below (by (with_reducible repeat (first|apply Kd.R_alloc|apply Kd.R_drewN|apply Kd.R_drew));exact HO275.out) hb)
    have n2_:=Aside0.mk (blk_below (g:=gb271) (o:=.cells #[.int .u32 t266,.slice Ao30 t267.length co30] 25 (0,0)) (by (with_reducible repeat (first|apply blk_drewN|apply blk_drew|apply blk_alloc));exact BK271.out) hb)
    have n3_:=Aside0.mk (blk_below (g:=gb277) (o:=.cells #[.int .u32 t272,.slice Ao35 t273.length co35] 30 (0,0)) (by (with_reducible repeat (first|apply blk_drewN|apply blk_drew|apply blk_alloc));exact BK277.out) hb)
    have n4_:=Aside0.mk (below_step (by repeat (first|(with_reducible first|exact HB.out|apply below_alloc|apply pw_below_drewN|apply below_drew1|refine below_set ?_ GE271.out|refine below_set ?_ GE277.out)|exact HB.out)) hb)
    clear HO269
    clear HO275
    clear BK271
    clear BK277
    clear HB
    have HO269:=n0_
    have HO275:=n1_
    have BK271:=n2_
    have BK277:=n3_
    have HB:=n4_
    clear n0_ n1_ n2_ n3_ n4_
    (try clear hb)
    (try clear hb2)
    (try clear hk)
    (try clear hi)
    refine hK.out _ _ trivial (fun hHeld=>?_)
    clear hK K
    refine norm_ (a':=?_) ?_ ?_
    rotate_left
    ·show Act.put _ (some 21) _ = _
     simp only [Act.put,List.setIfInBounds_toArray,List.set_cons_zero,List.set_cons_succ,i64_w,i32_w]
     rfl
    refine pure_ (i:=1) (N:=some 22) (v:=?_) (a':=?_) #[true,true,false,false,false,false,false,false,false,false,false,false,false] rfl rfl (any_of HT_.out (by kernel_rfl)) (fun _ _ _ h=>h) (Or.inl ⟨by rfl,?_⟩) ?_ ?_
    rotate_left
    ·intro w'
     go_simp
     with_reducible rfl
    rotate_left
    ·simp only [Act.put,List.setIfInBounds_toArray,List.set_cons_zero,List.set_cons_succ,i64_w,i32_w]
     rfl
    refine pure_ (i:=2) (N:=some 23) (v:=?_) (a':=?_) #[true,true,true,false,false,false,false,false,false,false,false,false,false] rfl rfl (any_of HT_.out (by kernel_rfl)) (fun _ _ _ h=>h) (Or.inl ⟨by rfl,?_⟩) ?_ ?_
    rotate_left
    ·intro w'
     go_simp
     with_reducible rfl
    rotate_left
    ·simp only [Act.put,List.setIfInBounds_toArray,List.set_cons_zero,List.set_cons_succ,i64_w,i32_w]
     rfl
    refine pure_ (i:=3) (N:=some 24) (v:=?_) (a':=?_) #[true,true,true,true,false,false,false,false,false,false,false,false,false] rfl rfl (any_of HT_.out (by kernel_rfl)) (fun _ _ _ h=>h) (Or.inl ⟨by rfl,?_⟩) ?_ ?_
    rotate_left
    ·intro w'
     go_simp
     with_reducible rfl
    rotate_left
    ·simp only [Act.put,List.setIfInBounds_toArray,List.set_cons_zero,List.set_cons_succ,i64_w,i32_w]
     rfl
    refine pure_ (i:=4) (N:=some 25) (v:=?_) (a':=?_) #[true,true,true,true,true,false,false,false,false,false,false,false,false] rfl rfl (any_of HT_.out (by kernel_rfl)) (fun _ _ _ h=>h) (Or.inl ⟨by rfl,?_⟩) ?_ ?_
    rotate_left
    ·intro w'
     go_simp
     with_reducible rfl
    rotate_left
    ·simp only [Act.put,List.setIfInBounds_toArray,List.set_cons_zero,List.set_cons_succ,i64_w,i32_w]
     rfl
    refine pure_ (i:=5) (N:=some 26) (v:=?_) (a':=?_) #[true,true,true,true,true,true,false,false,false,false,false,false,false] rfl rfl (any_of HT_.out (by kernel_rfl)) (fun _ _ _ h=>h) (Or.inl ⟨by rfl,?_⟩) ?_ ?_
    rotate_left
    ·intro w'
     go_simp
     with_reducible rfl
    rotate_left
    ·simp only [Act.put,List.setIfInBounds_toArray,List.set_cons_zero,List.set_cons_succ,i64_w,i32_w]
     rfl
    refine pure_ (i:=6) (N:=some 27) (v:=?_) (a':=?_) #[true,true,true,true,true,true,true,false,false,false,false,false,false] rfl rfl (any_of HT_.out (by kernel_rfl)) (fun _ _ _ h=>h) (Or.inl ⟨by rfl,?_⟩) ?_ ?_
    rotate_left
    ·intro w'
     go_simp
     with_reducible rfl
    rotate_left
    ·simp only [Act.put,List.setIfInBounds_toArray,List.set_cons_zero,List.set_cons_succ,i64_w,i32_w]
     rfl
    refine pure_ (i:=7) (N:=some 28) (v:=undef) (a':=?_) #[true,true,true,true,true,true,true,true,false,false,false,false,false] rfl rfl (any_of HT_.out (by kernel_rfl)) (fun _ _ _ h=>h) (Or.inr ⟨by rfl,rfl⟩) ?_ ?_
    rotate_left
    ·simp only [Act.put,List.setIfInBounds_toArray,List.set_cons_zero,List.set_cons_succ,i64_w,i32_w]
     rfl
    refine pure_ (i:=8) (N:=some 29) (v:=undef) (a':=?_) #[true,true,true,true,true,true,true,true,true,false,false,false,false] rfl rfl (any_of HT_.out (by kernel_rfl)) (fun _ _ _ h=>h) (Or.inr ⟨by rfl,rfl⟩) ?_ ?_
    rotate_left
    ·simp only [Act.put,List.setIfInBounds_toArray,List.set_cons_zero,List.set_cons_succ,i64_w,i32_w]
     rfl
    refine pure_ (i:=9) (N:=some 30) (v:=undef) (a':=?_) #[true,true,true,true,true,true,true,true,true,true,false,false,false] rfl rfl (any_of HT_.out (by kernel_rfl)) (fun _ _ _ h=>h) (Or.inr ⟨by rfl,rfl⟩) ?_ ?_
    rotate_left
    ·simp only [Act.put,List.setIfInBounds_toArray,List.set_cons_zero,List.set_cons_succ,i64_w,i32_w]
     rfl
    refine pure_ (i:=10) (N:=some 31) (v:=undef) (a':=?_) #[true,true,true,true,true,true,true,true,true,true,true,false,false] rfl rfl (any_of HT_.out (by kernel_rfl)) (fun _ _ _ h=>h) (Or.inr ⟨by rfl,rfl⟩) ?_ ?_
    rotate_left
    ·simp only [Act.put,List.setIfInBounds_toArray,List.set_cons_zero,List.set_cons_succ,i64_w,i32_w]
     rfl
    refine pure_ (i:=11) (N:=some 32) (v:=?_) (a':=?_) #[true,true,true,true,true,true,true,true,true,true,true,true,false] rfl rfl (any_of HT_.out (by kernel_rfl)) (fun _ _ _ h=>h) (Or.inl ⟨by rfl,?_⟩) ?_ ?_
    rotate_left
    ·intro w'
     go_simp
     with_reducible rfl
    rotate_left
    ·simp only [Act.put,List.setIfInBounds_toArray,List.set_cons_zero,List.set_cons_succ,i64_w,i32_w]
     rfl
    refine pure_ (i:=12) (N:=some 2) (v:=?_) (a':=?_) #[true,true,true,true,true,true,true,true,true,true,true,true,true] rfl rfl (any_of HT_.out (by kernel_rfl)) (fun _ _ _ h=>h) (Or.inl ⟨by rfl,?_⟩) ?_ ?_
    rotate_left
    ·intro w'
     go_simp
     with_reducible rfl
    rotate_left
    ·simp only [Act.put,List.setIfInBounds_toArray,List.set_cons_zero,List.set_cons_succ,i64_w,i32_w]
     rfl
    refine done_ (done_of HT_.out (by kernel_rfl)) ?_
    try go_wp2
    go_ret
    exact ⟨by first|rfl|(simp [errW_none,errW_some] <;> rfl)|(simp [*,errW_none,errW_some] <;> rfl),by repeat (first|(with_reducible first|exact HB.out|apply below_alloc|apply pw_below_drewN|apply below_drew1|refine below_set ?_ GE271.out|refine below_set ?_ GE277.out)|exact HB.out)⟩
  ·replace c8:=Bool.eq_false_iff.mpr c8
   subst c8
   have H1 : (some false) = some r:=by rw [if_neg (show ¬ (false = true) by decide)] at H;exact H
   clear H
   have H:=H1
   clear H1
   obtain rfl:=Option.some.inj H
   go_enter Tryd.func4,Tryd.ntmps4
   try go_wp2_with (first|((with_reducible refine gate_callee (f:=20) rfl ?_);refine goesL_ (some 13) rfl rfl Tryd.func20 (by kernel_rfl) rfl #[.string a0] rfl (by (try simp only [List.map_toArray,List.map_cons,List.map_nil]);first|done|rfl|(simp only [List.length_drop,List.length_take];rfl)|(simp (disch:=first|omega|(simp at *;omega)) only [u64_id,i64_id,u8_id];rfl)) ?_;(with_reducible refine (ckone_Decode.calls k a0 t266 t267 t270 _ A5.out).mono ?_);rintro e w39 ⟨v268,rfl,ho0,hb⟩;refine ⟨_,rfl,?_⟩;have n0_:=Aside0.mk (Kd.R_lower ho0 (below_size (by repeat (first|(with_reducible first|exact HB.out|apply below_alloc|apply pw_below_drewN|apply below_drew1)|exact HB.out))));have n1_:=Aside0.mk (below_step (by repeat (first|(with_reducible first|exact HB.out|apply below_alloc|apply pw_below_drewN|apply below_drew1)|exact HB.out)) hb);clear HB;have HO269:=n0_;have HB:=n1_;clear n0_ n1_;(try clear hb);(try clear hb2);(try clear hk);(try clear hi);(try clear ho0))|((with_reducible refine gate_dst (N:=3) rfl ?_);refine box_event ?hg (N:=3) ?hd (cs:=#[.int .u32 0,.slice none 0 0]) (t:=25) ?hr ?_;(case hd=>rfl);(case hg=>rfl);(case hr=>first|(go_simp;done)|(go_simp;rfl));intro gb271 hg w40 hbox hb;have n0_:=Aside0.mk (Kd.R_below (by (with_reducible repeat (first|apply Kd.R_alloc|apply Kd.R_drewN|apply Kd.R_drew));exact HO269.out) hb);have n1_:=Aside0.mk (below_step (by repeat (first|(with_reducible first|exact HB.out|apply below_alloc|apply pw_below_drewN|apply below_drew1)|exact HB.out)) hb);have n2_:=Aside0.mk (hbox);have n3_:=Aside0.mk ((by rw [hg];exact (below_size (by repeat (first|(with_reducible first|exact HB.out|apply below_alloc|apply pw_below_drewN|apply below_drew1)|exact HB.out))) : w.heap.size ≤ gb271));have n4_:=Aside0.mk ((by rw [hg];exact (below_size (by repeat (first|(with_reducible first|exact HB.out|apply below_alloc|apply pw_below_drewN|apply below_drew1)|exact HB.out))) : w.heap.size ≤ gb271));clear HO269;clear HB;have HO269:=n0_;have HB:=n1_;have BK271:=n2_;have GW271:=n3_;have GE271:=n4_;clear n0_ n1_ n2_ n3_ n4_;clear hb hbox hg;have hcz41_0 : w40.cell? ⟨gb271,0,none⟩ = some (.int .u32 0):=(blk_cell BK271.out 0).trans rfl;have hcz41_1 : w40.cell? ⟨gb271,1,none⟩ = some (.slice none 0 0):=(blk_cell BK271.out 1).trans rfl;have hfz41_0:=blk_frozen BK271.out 0;have hfz41_1:=blk_frozen BK271.out 1;obtain ⟨Ao42,co42,eo42⟩:=Kd.R_slice HO269.out;subst eo42)|((with_reducible refine gate_callee (f:=21) rfl ?_);refine goesL_ (some 18) rfl rfl Tryd.func21 (by kernel_rfl) rfl #[.string a0] rfl (by (try simp only [List.map_toArray,List.map_cons,List.map_nil]);first|done|rfl|(simp only [List.length_drop,List.length_take];rfl)|(simp (disch:=first|omega|(simp at *;omega)) only [u64_id,i64_id,u8_id];rfl)) ?_;(with_reducible refine (bosunref17_Decode.calls k a0 t272 t273 t276 _ A6.out).mono ?_);rintro e w43 ⟨v274,rfl,ho0,hb⟩;refine ⟨_,rfl,?_⟩;have n0_:=Aside0.mk (Kd.R_below (by (with_reducible repeat (first|apply Kd.R_alloc|apply Kd.R_drewN|apply Kd.R_drew));exact (Kd.R_mono (Kd.R_far (p:=⟨gb271,1,none⟩) (Kd.R_far (p:=⟨gb271,0,none⟩) (Kd.R_types HO269.out BK271.out (by decide)) (fun _ hk=>hk.2) (.int .u32 t266)) (fun _ hk=>hk.2) (.slice Ao42 t267.length co42)) (fun _ h_=>h_.1))) hb);have n1_:=Aside0.mk (Kd.R_lower ho0 (below_size (by repeat (first|(with_reducible first|exact HB.out|apply below_alloc|apply pw_below_drewN|apply below_drew1|refine below_set ?_ GE271.out)|exact HB.out))));have n2_:=Aside0.mk (blk_below (g:=gb271) (o:=.cells #[.int .u32 t266,.slice Ao42 t267.length co42] 25 (0,0)) (by (with_reducible repeat (first|apply blk_drewN|apply blk_drew|apply blk_alloc));refine blk_put (cs:=#[.int .u32 t266,.slice none 0 0]) ?_ 1 _ rfl;(with_reducible repeat (first|apply blk_drewN|apply blk_drew|apply blk_alloc));refine blk_put (cs:=#[.int .u32 0,.slice none 0 0]) ?_ 0 _ rfl;(with_reducible repeat (first|apply blk_drewN|apply blk_drew|apply blk_alloc));exact BK271.out) hb);have n3_:=Aside0.mk (below_step (by repeat (first|(with_reducible first|exact HB.out|apply below_alloc|apply pw_below_drewN|apply below_drew1|refine below_set ?_ GE271.out)|exact HB.out)) hb);clear HO269;clear BK271;clear HB;have HO269:=n0_;have HO275:=n1_;have BK271:=n2_;have HB:=n3_;clear n0_ n1_ n2_ n3_;(try clear hb);(try clear hb2);(try clear hk);(try clear hi);(try clear ho0))|((with_reducible refine gate_dst (N:=5) rfl ?_);refine box_event ?hg (N:=5) ?hd (cs:=#[.int .u32 0,.slice none 0 0]) (t:=30) ?hr ?_;(case hd=>rfl);(case hg=>rfl);(case hr=>first|(go_simp;done)|(go_simp;rfl));intro gb277 hg w44 hbox hb;have n0_:=Aside0.mk (Kd.R_below (by (with_reducible repeat (first|apply Kd.R_alloc|apply Kd.R_drewN|apply Kd.R_drew));exact HO269.out) hb);have n1_:=Aside0.mk (Kd.R_below (by (with_reducible repeat (first|apply Kd.R_alloc|apply Kd.R_drewN|apply Kd.R_drew));exact HO275.out) hb);have n2_:=Aside0.mk (blk_below (g:=gb271) (o:=.cells #[.int .u32 t266,.slice Ao42 t267.length co42] 25 (0,0)) (by (with_reducible repeat (first|apply blk_drewN|apply blk_drew|apply blk_alloc));exact BK271.out) hb);have n3_:=Aside0.mk (below_step (by repeat (first|(with_reducible first|exact HB.out|apply below_alloc|apply pw_below_drewN|apply below_drew1|refine below_set ?_ GE271.out)|exact HB.out)) hb);have n4_:=Aside0.mk (hbox);have n5_:=Aside0.mk ((by rw [hg];exact (below_size (by repeat (first|(with_reducible first|exact HB.out|apply below_alloc|apply pw_below_drewN|apply below_drew1|refine below_set ?_ GE271.out)|exact HB.out))) : w.heap.size ≤ gb277));have n6_:=Aside0.mk ((by rw [hg];exact (below_size (by repeat (first|(with_reducible first|exact HB.out|apply below_alloc|apply pw_below_drewN|apply below_drew1|refine below_set ?_ GE271.out)|exact HB.out))) : w.heap.size ≤ gb277));have n7_:=Aside0.mk ((by rw [hg];exact Nat.ne_of_lt (blk_lt (g:=gb271) (o:=.cells #[.int .u32 t266,.slice Ao42 t267.length co42] 25 (0,0)) (by (with_reducible repeat (first|apply blk_drewN|apply blk_drew|apply blk_alloc));exact BK271.out)) : gb271 ≠ gb277));have n8_:=Aside0.mk ((by rw [hg];exact Nat.ne_of_gt (blk_lt (g:=gb271) (o:=.cells #[.int .u32 t266,.slice Ao42 t267.length co42] 25 (0,0)) (by (with_reducible repeat (first|apply blk_drewN|apply blk_drew|apply blk_alloc));exact BK271.out)) : gb277 ≠ gb271));clear HO269;clear HO275;clear BK271;clear HB;have HO269:=n0_;have HO275:=n1_;have BK271:=n2_;have HB:=n3_;have BK277:=n4_;have GW277:=n5_;have GE277:=n6_;have NB271_277:=n7_;have NB277_271:=n8_;clear n0_ n1_ n2_ n3_ n4_ n5_ n6_ n7_ n8_;clear hb hbox hg;have hnb45:=NB277_271.out;have hnc45:=NB271_277.out;have hcz46_0 : w44.cell? ⟨gb277,0,none⟩ = some (.int .u32 0):=(blk_cell BK277.out 0).trans rfl;have hcz46_1 : w44.cell? ⟨gb277,1,none⟩ = some (.slice none 0 0):=(blk_cell BK277.out 1).trans rfl;have hfz46_0:=blk_frozen BK277.out 0;have hfz46_1:=blk_frozen BK277.out 1;obtain ⟨Ao47,co47,eo47⟩:=Kd.R_slice HO275.out;subst eo47))
   have n0_ : Aside0 (Kd.R k66 66 ((w44.setCell ⟨gb277,0,none⟩ (.int .u32 t272)).setCell ⟨gb277,1,none⟩ (.slice Ao47 t273.length co47)) w.heap.size (fun _=>True) (.slice Ao42 t267.length co42) t267):=⟨by (with_reducible repeat (first|apply Kd.R_alloc|apply Kd.R_drewN|apply Kd.R_drew));exact Kd.R_mono (Kd.R_far (p:=⟨gb277,1,none⟩) (Kd.R_far (p:=⟨gb277,0,none⟩) (Kd.R_types HO269.out BK277.out (by decide)) (fun _ hk=>hk.2) (.int .u32 t272)) (fun _ hk=>hk.2) (.slice Ao47 t273.length co47)) (fun _ hk=>trivial)⟩
   have n1_ : Aside0 (Kd.R k67 67 ((w44.setCell ⟨gb277,0,none⟩ (.int .u32 t272)).setCell ⟨gb277,1,none⟩ (.slice Ao47 t273.length co47)) w.heap.size (fun _=>True) (.slice Ao47 t273.length co47) t273):=⟨by (with_reducible repeat (first|apply Kd.R_alloc|apply Kd.R_drewN|apply Kd.R_drew));exact Kd.R_mono (Kd.R_far (p:=⟨gb277,1,none⟩) (Kd.R_far (p:=⟨gb277,0,none⟩) (Kd.R_types HO275.out BK277.out (by decide)) (fun _ hk=>hk.2) (.int .u32 t272)) (fun _ hk=>hk.2) (.slice Ao47 t273.length co47)) (fun _ hk=>trivial)⟩
   have n2_ : Aside0 (((w44.setCell ⟨gb277,0,none⟩ (.int .u32 t272)).setCell ⟨gb277,1,none⟩ (.slice Ao47 t273.length co47)).heap[gb271]? = some (.cells #[.int .u32 t266,.slice Ao42 t267.length co42] 25 (0,0))):=⟨by (with_reducible repeat (first|apply blk_drewN|apply blk_drew|apply blk_alloc));refine blk_far ?_ NB271_277.out _;(with_reducible repeat (first|apply blk_drewN|apply blk_drew|apply blk_alloc));refine blk_far ?_ NB271_277.out _;(with_reducible repeat (first|apply blk_drewN|apply blk_drew|apply blk_alloc));exact BK271.out⟩
   have n3_ : Aside0 (((w44.setCell ⟨gb277,0,none⟩ (.int .u32 t272)).setCell ⟨gb277,1,none⟩ (.slice Ao47 t273.length co47)).heap[gb277]? = some (.cells #[.int .u32 t272,.slice Ao47 t273.length co47] 30 (0,0))):=⟨by (with_reducible repeat (first|apply blk_drewN|apply blk_drew|apply blk_alloc));refine blk_put (cs:=#[.int .u32 t272,.slice none 0 0]) ?_ 1 _ rfl;(with_reducible repeat (first|apply blk_drewN|apply blk_drew|apply blk_alloc));refine blk_put (cs:=#[.int .u32 0,.slice none 0 0]) ?_ 0 _ rfl;(with_reducible repeat (first|apply blk_drewN|apply blk_drew|apply blk_alloc));exact BK277.out⟩
   have n4_ : Aside0 (Below w.heap.size w ((w44.setCell ⟨gb277,0,none⟩ (.int .u32 t272)).setCell ⟨gb277,1,none⟩ (.slice Ao47 t273.length co47))):=⟨by repeat (first|(with_reducible first|exact HB.out|apply below_alloc|apply pw_below_drewN|apply below_drew1|refine below_set ?_ GE271.out|refine below_set ?_ GE277.out)|exact HB.out)⟩
   (try clear HO269)
   (try clear HO275)
   (try clear BK271)
   (try clear BK277)
   (try clear HB)
   generalize ((w44.setCell ⟨gb277,0,none⟩ (.int .u32 t272)).setCell ⟨gb277,1,none⟩ (.slice Ao47 t273.length co47)) = w48 at n0_ n1_ n2_ n3_ n4_ ⊢
   have HO269:=n0_
   have HO275:=n1_
   have BK271:=n2_
   have BK277:=n3_
   have HB:=n4_
   clear n0_ n1_ n2_ n3_ n4_
   have n0_:=Aside0.mk (Kd.R_drew HO269.out)
   have n1_:=Aside0.mk (Kd.R_drew HO275.out)
   have n2_:=Aside0.mk (blk_drew BK271.out)
   have n3_:=Aside0.mk (blk_drew BK277.out)
   have n4_:=Aside0.mk (below_drew1 HB.out)
   clear HO269
   clear HO275
   clear BK271
   clear BK277
   clear HB
   have HO269:=n0_
   have HO275:=n1_
   have BK271:=n2_
   have BK277:=n3_
   have HB:=n4_
   clear n0_ n1_ n2_ n3_ n4_
   refine start_ (n:=13) (S:=fun w'=>True) (ds:=[]) #[false,false,false,false,false,false,false,false,false,false,false,false,false] (by kernel_rfl) rfl rfl trivial (fun hHeld=>?_);refine with_tabW bosunlaw17_CkoneReads.tab5 bosunlaw17_CkoneReads.bits5 (fun HT_ HW_=>?_)
   generalize w48.drew = w49 at HO269 HO275 BK271 BK277 HB hHeld ⊢
   refine one_ (i:=0) (N:=some 21) #[true,false,false,false,false,false,false,false,false,false,false,false,false] rfl rfl (one_of HT_.out (by kernel_rfl)) (by decide) (fun K hK=>?_)
   refine goes_ Tryd.func10 (by kernel_rfl) rfl #[] (by rfl) rfl rfl (by (try simp only [List.map_toArray,List.map_cons,List.map_nil]);first|done|rfl|(simp only [List.length_drop,List.length_take];rfl)) ?_
   with_reducible refine (bosunlaw17_Awake.calls k  false _ A7.out).mono ?_
   rintro e w50 ⟨rfl,hb⟩
   refine ⟨_,rfl,?_⟩
   have n0_:=Aside0.mk (Kd.R_below (by (with_reducible repeat (first|apply Kd.R_alloc|apply Kd.R_drewN|apply Kd.R_drew));exact HO269.out) hb)
   have n1_:=Aside0.mk (Kd.R_below (by (with_reducible repeat (first|apply Kd.R_alloc|apply Kd.R_drewN|apply Kd.R_drew));exact HO275.out) hb)
   have n2_:=Aside0.mk (blk_below (g:=gb271) (o:=.cells #[.int .u32 t266,.slice Ao42 t267.length co42] 25 (0,0)) (by (with_reducible repeat (first|apply blk_drewN|apply blk_drew|apply blk_alloc));exact BK271.out) hb)
   have n3_:=Aside0.mk (blk_below (g:=gb277) (o:=.cells #[.int .u32 t272,.slice Ao47 t273.length co47] 30 (0,0)) (by (with_reducible repeat (first|apply blk_drewN|apply blk_drew|apply blk_alloc));exact BK277.out) hb)
   have n4_:=Aside0.mk (below_step (by repeat (first|(with_reducible first|exact HB.out|apply below_alloc|apply pw_below_drewN|apply below_drew1|refine below_set ?_ GE271.out|refine below_set ?_ GE277.out)|exact HB.out)) hb)
   clear HO269
   clear HO275
   clear BK271
   clear BK277
   clear HB
   have HO269:=n0_
   have HO275:=n1_
   have BK271:=n2_
   have BK277:=n3_
   have HB:=n4_
   clear n0_ n1_ n2_ n3_ n4_
   (try clear hb)
   (try clear hb2)
   (try clear hk)
   (try clear hi)
   refine hK.out _ _ trivial (fun hHeld=>?_)
   clear hK K
   refine norm_ (a':=?_) ?_ ?_
   rotate_left
   ·show Act.put _ (some 21) _ = _
    simp only [Act.put,List.setIfInBounds_toArray,List.set_cons_zero,List.set_cons_succ,i64_w,i32_w]
    rfl
   refine pure_ (i:=1) (N:=some 22) (v:=?_) (a':=?_) #[true,true,false,false,false,false,false,false,false,false,false,false,false] rfl rfl (any_of HT_.out (by kernel_rfl)) (fun _ _ _ h=>h) (Or.inl ⟨by rfl,?_⟩) ?_ ?_
   rotate_left
   ·intro w'
    go_simp
    with_reducible rfl
   rotate_left
   ·simp only [Act.put,List.setIfInBounds_toArray,List.set_cons_zero,List.set_cons_succ,i64_w,i32_w]
    rfl
   refine pure_ (i:=2) (N:=some 23) (v:=undef) (a':=?_) #[true,true,true,false,false,false,false,false,false,false,false,false,false] rfl rfl (any_of HT_.out (by kernel_rfl)) (fun _ _ _ h=>h) (Or.inr ⟨by rfl,rfl⟩) ?_ ?_
   rotate_left
   ·simp only [Act.put,List.setIfInBounds_toArray,List.set_cons_zero,List.set_cons_succ,i64_w,i32_w]
    rfl
   refine pure_ (i:=3) (N:=some 24) (v:=undef) (a':=?_) #[true,true,true,true,false,false,false,false,false,false,false,false,false] rfl rfl (any_of HT_.out (by kernel_rfl)) (fun _ _ _ h=>h) (Or.inr ⟨by rfl,rfl⟩) ?_ ?_
   rotate_left
   ·simp only [Act.put,List.setIfInBounds_toArray,List.set_cons_zero,List.set_cons_succ,i64_w,i32_w]
    rfl
   refine pure_ (i:=4) (N:=some 25) (v:=undef) (a':=?_) #[true,true,true,true,true,false,false,false,false,false,false,false,false] rfl rfl (any_of HT_.out (by kernel_rfl)) (fun _ _ _ h=>h) (Or.inr ⟨by rfl,rfl⟩) ?_ ?_
   rotate_left
   ·simp only [Act.put,List.setIfInBounds_toArray,List.set_cons_zero,List.set_cons_succ,i64_w,i32_w]
    rfl
   refine pure_ (i:=5) (N:=some 26) (v:=?_) (a':=?_) #[true,true,true,true,true,true,false,false,false,false,false,false,false] rfl rfl (any_of HT_.out (by kernel_rfl)) (fun _ _ _ h=>h) (Or.inl ⟨by rfl,?_⟩) ?_ ?_
   rotate_left
   ·intro w'
    go_simp
    with_reducible rfl
   rotate_left
   ·simp only [Act.put,List.setIfInBounds_toArray,List.set_cons_zero,List.set_cons_succ,i64_w,i32_w]
    rfl
   refine pure_ (i:=6) (N:=some 27) (v:=?_) (a':=?_) #[true,true,true,true,true,true,true,false,false,false,false,false,false] rfl rfl (any_of HT_.out (by kernel_rfl)) (fun _ _ _ h=>h) (Or.inl ⟨by rfl,?_⟩) ?_ ?_
   rotate_left
   ·intro w'
    go_simp
    with_reducible rfl
   rotate_left
   ·simp only [Act.put,List.setIfInBounds_toArray,List.set_cons_zero,List.set_cons_succ,i64_w,i32_w]
    rfl
   refine pure_ (i:=7) (N:=some 28) (v:=undef) (a':=?_) #[true,true,true,true,true,true,true,true,false,false,false,false,false] rfl rfl (any_of HT_.out (by kernel_rfl)) (fun _ _ _ h=>h) (Or.inr ⟨by rfl,rfl⟩) ?_ ?_
   rotate_left
   ·simp only [Act.put,List.setIfInBounds_toArray,List.set_cons_zero,List.set_cons_succ,i64_w,i32_w]
    rfl
   refine pure_ (i:=8) (N:=some 29) (v:=undef) (a':=?_) #[true,true,true,true,true,true,true,true,true,false,false,false,false] rfl rfl (any_of HT_.out (by kernel_rfl)) (fun _ _ _ h=>h) (Or.inr ⟨by rfl,rfl⟩) ?_ ?_
   rotate_left
   ·simp only [Act.put,List.setIfInBounds_toArray,List.set_cons_zero,List.set_cons_succ,i64_w,i32_w]
    rfl
   refine pure_ (i:=9) (N:=some 30) (v:=undef) (a':=?_) #[true,true,true,true,true,true,true,true,true,true,false,false,false] rfl rfl (any_of HT_.out (by kernel_rfl)) (fun _ _ _ h=>h) (Or.inr ⟨by rfl,rfl⟩) ?_ ?_
   rotate_left
   ·simp only [Act.put,List.setIfInBounds_toArray,List.set_cons_zero,List.set_cons_succ,i64_w,i32_w]
    rfl
   refine pure_ (i:=10) (N:=some 31) (v:=undef) (a':=?_) #[true,true,true,true,true,true,true,true,true,true,true,false,false] rfl rfl (any_of HT_.out (by kernel_rfl)) (fun _ _ _ h=>h) (Or.inr ⟨by rfl,rfl⟩) ?_ ?_
   rotate_left
   ·simp only [Act.put,List.setIfInBounds_toArray,List.set_cons_zero,List.set_cons_succ,i64_w,i32_w]
    rfl
   refine pure_ (i:=11) (N:=some 32) (v:=?_) (a':=?_) #[true,true,true,true,true,true,true,true,true,true,true,true,false] rfl rfl (any_of HT_.out (by kernel_rfl)) (fun _ _ _ h=>h) (Or.inl ⟨by rfl,?_⟩) ?_ ?_
   rotate_left
   ·intro w'
    go_simp
    with_reducible rfl
   rotate_left
   ·simp only [Act.put,List.setIfInBounds_toArray,List.set_cons_zero,List.set_cons_succ,i64_w,i32_w]
    rfl
   refine pure_ (i:=12) (N:=some 2) (v:=?_) (a':=?_) #[true,true,true,true,true,true,true,true,true,true,true,true,true] rfl rfl (any_of HT_.out (by kernel_rfl)) (fun _ _ _ h=>h) (Or.inl ⟨by rfl,?_⟩) ?_ ?_
   rotate_left
   ·intro w'
    go_simp
    with_reducible rfl
   rotate_left
   ·simp only [Act.put,List.setIfInBounds_toArray,List.set_cons_zero,List.set_cons_succ,i64_w,i32_w]
    rfl
   refine done_ (done_of HT_.out (by kernel_rfl)) ?_
   try go_wp2
   go_ret
   exact ⟨by first|rfl|(simp [errW_none,errW_some] <;> rfl)|(simp [*,errW_none,errW_some] <;> rfl),by repeat (first|(with_reducible first|exact HB.out|apply below_alloc|apply pw_below_drewN|apply below_drew1|refine below_set ?_ GE271.out|refine below_set ?_ GE277.out)|exact HB.out)⟩

end Go.Proofs.YtpmbdcljphpcnaaDoor.GCk
