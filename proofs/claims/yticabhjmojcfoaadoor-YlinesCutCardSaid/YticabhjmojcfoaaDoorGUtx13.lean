/- Written by this session's own program (wip/gen.py) out of the translation: plain Lean functions of the Go functions, and proofs that the calls come to their answers. No conditions beside those in the statements. -/
import Derived.Test.YticabhjmojcfoaaDoorGUtx0
import Derived.Test.YticabhjmojcfoaaDoorGUtx1
import Derived.Test.YticabhjmojcfoaaDoorGUtx8
import Derived.Test.YticabhjmojcfoaaDoorGUtx12
import Derived.Test.YticabhjmojcfoaaDoorGUtCut
import Derived.Test.YticabhjmojcfoaaDoorGW
namespace Go.Proofs.YticabhjmojcfoaaDoor.GUt
open Go.RowKit Go.Proofs.YticabhjmojcfoaaDoorW.PrintWords Go.Proofs.YticabhjmojcfoaaDoorW.PrintLast Go.Proofs.YticabhjmojcfoaaDoorW.PrintMore
attribute [local go_sem] max2_int min2_int max_two min_two max_three min_three max_four min_four   -- for this text's walks alone
set_option linter.unusedVariables false
set_option linter.unusedSimpArgs false

theorem eqA31 (d : Nat) (w : World) (x0 y0 : Int) (x1 y1 : Int) (x2 y2 : Bool) (x3 y3 : ByteArray) :
  (Op.equalIn (d + 2) 31 (.agg #[.int .i64 x0,.int .i64 x1,.bool x2,.string x3]) (.agg #[.int .i64 y0,.int .i64 y1,.bool y2,.string y3])).run Tryd.prog w = .ok (x0 == y0 && (x1 == y1 && (x2 == y2 && (x3.toList == y3.toList)))) w:=by
 refine eqA_of Tryd.underlying31 (by kernel_rfl) ?_
 refine eqf_cons (by rfl) (by go_simp;rfl) (by go_simp;rfl) (by go_simp) ?_
 refine eqf_cons (by rfl) (by go_simp;rfl) (by go_simp;rfl) (by go_simp) ?_
 refine eqf_cons (by rfl) (by go_simp;rfl) (by go_simp;rfl) (by go_simp) ?_
 exact eqf_last (by rfl) (by go_simp;rfl) (by go_simp;rfl) (by go_simp)
attribute [local go_sem high] eqA32 eqA31
/-! ### bosunlaw10_YlinesCut: function 3 -/
mutual
def bosunlaw10_YlinesCut.j0 : Nat → List (S32) → List (S31) → Bool → Option (Bool)
 | 0,_,_,_=>none
 | k + 1,x3,x6,x40=>if x40 = true then (some false) else (bosunlaw10_YlinesCut.l0 k x3 x6 (x3.length : Int) 0)
def bosunlaw10_YlinesCut.l0 : Nat → List (S32) → List (S31) → Int → Int → Option (Bool)
 | 0,_,_,_,_=>none
 | k + 1,x3,x6,x42,x43=>if x43 < x42 then (if 0 ≤ x43 then (if x43 < (x3.length : Int) then (if x43 < (x6.length : Int) then (if (!(((rd_T32 x3 x43).f0) == ((rd_T31 x6 x43).f0)) || (!(((rd_T32 x3 x43).f1) == ((rd_T31 x6 x43).f1)) || (!(((rd_T32 x3 x43).f2) == ((rd_T31 x6 x43).f2)) || (!((((rd_T32 x3 x43).f3).toList) == (((rd_T31 x6 x43).f3).toList)))))) = true then (some false) else (bosunlaw10_YlinesCut.l0 k x3 x6 x42 (wrap64 (x43 + 1)))) else (none)) else (none)) else (none)) else ((bosunlaw10_Awake.f k).bind fun t165=>(some t165))
end
def bosunlaw10_YlinesCut.f (k : Nat) (a0 : ByteArray) : Option (Bool):=if (a0.size : Int) > 3000 then ((bosunlaw10_Awake.f k).bind fun t152=>(some t152)) else ((ylines_Cut.f k a0).bind fun bt153=>((bosunref10_Cut.f k a0).bind fun bt158=>(if bt153.2.1 = bt158.2.1 then (if bt153.2.2 = bt158.2.2 then (bosunlaw10_YlinesCut.j0 k bt153.1 bt158.1 ((bt153.1.length : Int) != (bt158.1.length : Int))) else (bosunlaw10_YlinesCut.j0 k bt153.1 bt158.1 true)) else (bosunlaw10_YlinesCut.j0 k bt153.1 bt158.1 true))))
theorem bosunlaw10_YlinesCut.mono_l : ∀ k,(∀ y0 y1 y2,LeO (bosunlaw10_YlinesCut.j0 k y0 y1 y2) (bosunlaw10_YlinesCut.j0 (k + 1) y0 y1 y2)) ∧ (∀ y0 y1 y2 y3,LeO (bosunlaw10_YlinesCut.l0 k y0 y1 y2 y3) (bosunlaw10_YlinesCut.l0 (k + 1) y0 y1 y2 y3))
 | 0=>⟨fun _ _ _ r h=>by simp [bosunlaw10_YlinesCut.j0] at h,fun _ _ _ _ r h=>by simp [bosunlaw10_YlinesCut.l0] at h⟩
 | k + 1=>by
  obtain ⟨ih0,ih1⟩:=bosunlaw10_YlinesCut.mono_l k
  refine ⟨?_,?_⟩
  ·intro y0 y1 y2
   unfold bosunlaw10_YlinesCut.j0
   repeat' first
   | (with_reducible exact ih0 _ _ _)
   | (with_reducible exact ih1 _ _ _ _)
   | (with_reducible exact bosunlaw10_Awake.mono _)
   | (with_reducible exact bosunref10_Cut.mono _ _)
   | (with_reducible exact ylines_Cut.mono _ _)
   | (with_reducible exact LeO.refl _)
   | (with_reducible exact LeO.none _)
   | (with_reducible refine LeO.ite ?_ ?_)
   | (with_reducible refine LeO.bind ?_ (fun _=>?_))
   | exact ih0 _ _ _
   | exact ih1 _ _ _ _
   | exact bosunlaw10_Awake.mono _
   | exact bosunref10_Cut.mono _ _
   | exact ylines_Cut.mono _ _
   | exact LeO.none _
   | refine LeO.ite ?_ ?_
   | refine LeO.bind ?_ (fun _=>?_)
  ·intro y0 y1 y2 y3
   unfold bosunlaw10_YlinesCut.l0
   repeat' first
   | (with_reducible exact ih0 _ _ _)
   | (with_reducible exact ih1 _ _ _ _)
   | (with_reducible exact bosunlaw10_Awake.mono _)
   | (with_reducible exact bosunref10_Cut.mono _ _)
   | (with_reducible exact ylines_Cut.mono _ _)
   | (with_reducible exact LeO.refl _)
   | (with_reducible exact LeO.none _)
   | (with_reducible refine LeO.ite ?_ ?_)
   | (with_reducible refine LeO.bind ?_ (fun _=>?_))
   | exact ih0 _ _ _
   | exact ih1 _ _ _ _
   | exact bosunlaw10_Awake.mono _
   | exact bosunref10_Cut.mono _ _
   | exact ylines_Cut.mono _ _
   | exact LeO.none _
   | refine LeO.ite ?_ ?_
   | refine LeO.bind ?_ (fun _=>?_)
theorem bosunlaw10_YlinesCut.mono : ∀ a0 k,LeO (bosunlaw10_YlinesCut.f k a0) (bosunlaw10_YlinesCut.f (k + 1) a0):=by
 intro a0 k
 obtain ⟨ih0,ih1⟩:=bosunlaw10_YlinesCut.mono_l k
 unfold bosunlaw10_YlinesCut.f
 repeat' first
   | (with_reducible exact ih0 _ _ _)
   | (with_reducible exact ih1 _ _ _ _)
   | (with_reducible exact bosunlaw10_Awake.mono _)
   | (with_reducible exact bosunref10_Cut.mono _ _)
   | (with_reducible exact ylines_Cut.mono _ _)
   | (with_reducible exact LeO.refl _)
   | (with_reducible exact LeO.none _)
   | (with_reducible refine LeO.ite ?_ ?_)
   | (with_reducible refine LeO.bind ?_ (fun _=>?_))
   | exact ih0 _ _ _
   | exact ih1 _ _ _ _
   | exact bosunlaw10_Awake.mono _
   | exact bosunref10_Cut.mono _ _
   | exact ylines_Cut.mono _ _
   | exact LeO.none _
   | refine LeO.ite ?_ ?_
   | refine LeO.bind ?_ (fun _=>?_)
set_option maxHeartbeats 8000000 in
set_option maxRecDepth 100000 in
theorem bosunlaw10_YlinesCut.calls (k : Nat) (a0 : ByteArray) (r : Bool) (w : World) (h : bosunlaw10_YlinesCut.f k a0 = some r) (hG : GW.GW w) :
  Calls Tryd.prog 3 #[.string a0] w fun e w'=>e = .returned (.bool r) ∧ Below w.heap.size w w':=by
 have hu32:=Tryd.underlying32
 have hu31:=Tryd.underlying31
 have HB:=Aside0.mk (Below.refl w.heap.size w)
 have H : (if (a0.size : Int) > 3000 then ((bosunlaw10_Awake.f k).bind fun t152=>(some t152)) else ((ylines_Cut.f k a0).bind fun bt153=>((bosunref10_Cut.f k a0).bind fun bt158=>(if bt153.2.1 = bt158.2.1 then (if bt153.2.2 = bt158.2.2 then (bosunlaw10_YlinesCut.j0 k bt153.1 bt158.1 ((bt153.1.length : Int) != (bt158.1.length : Int))) else (bosunlaw10_YlinesCut.j0 k bt153.1 bt158.1 true)) else (bosunlaw10_YlinesCut.j0 k bt153.1 bt158.1 true))))) = some r:=h
 clear h
 by_cases c2 : (a0.size : Int) > 3000
 ·rw [if_pos c2] at H
  have c2b0 : decide (3000 < (a0.size : Int)) = true:=decide_eq_true c2
  have c2b1 : decide (3000 < a0.size) = true:=decide_eq_true (by omega)
  clear c2
  replace H:=Option.bind_eq_some_iff.mp H
  obtain ⟨t152,A30,H⟩:=H
  replace H : (some t152) = some r:=H
  have A3:=Aside0.mk A30
  clear A30
  obtain rfl:=Option.some.inj H
  go_enter Tryd.func3,Tryd.ntmps3
  go_wp2_with (first|(go_at_call 5;(with_reducible refine (bosunlaw10_Awake.calls k  t152 _ A3.out (by first|assumption|exact GW.below hG (by first|exact HB.out|assumption|(repeat (first|(with_reducible first|exact HB.out|apply below_alloc|apply pw_below_drewN|apply below_drew1)|exact HB.out)))|exact GW.drawn hG (by first|assumption|(repeat (first|exact Drawn0.refl _|assumption|apply Drawn0.step))))).mono ?_);rintro e w4 ⟨rfl,hb⟩;have n0_:=Aside0.mk (below_step (by repeat (first|(with_reducible first|exact HB.out|apply below_alloc|apply pw_below_drewN|apply below_drew1)|exact HB.out)) hb);clear HB;have HB:=n0_;clear n0_;(try clear hb);(try clear hb2);(try clear hk);(try clear hi)))
  repeat (go_quiet (first|(go_at_call 5;(with_reducible refine (bosunlaw10_Awake.calls k  t152 _ A3.out (by first|assumption|exact GW.below hG (by first|exact HB.out|assumption|(repeat (first|(with_reducible first|exact HB.out|apply below_alloc|apply pw_below_drewN|apply below_drew1)|exact HB.out)))|exact GW.drawn hG (by first|assumption|(repeat (first|exact Drawn0.refl _|assumption|apply Drawn0.step))))).mono ?_);rintro e w4 ⟨rfl,hb⟩;have n0_:=Aside0.mk (below_step (by repeat (first|(with_reducible first|exact HB.out|apply below_alloc|apply pw_below_drewN|apply below_drew1)|exact HB.out)) hb);clear HB;have HB:=n0_;clear n0_;(try clear hb);(try clear hb2);(try clear hk);(try clear hi)));try go_wp2_with (first|(go_at_call 5;(with_reducible refine (bosunlaw10_Awake.calls k  t152 _ A3.out (by first|assumption|exact GW.below hG (by first|exact HB.out|assumption|(repeat (first|(with_reducible first|exact HB.out|apply below_alloc|apply pw_below_drewN|apply below_drew1)|exact HB.out)))|exact GW.drawn hG (by first|assumption|(repeat (first|exact Drawn0.refl _|assumption|apply Drawn0.step))))).mono ?_);rintro e w4 ⟨rfl,hb⟩;have n0_:=Aside0.mk (below_step (by repeat (first|(with_reducible first|exact HB.out|apply below_alloc|apply pw_below_drewN|apply below_drew1)|exact HB.out)) hb);clear HB;have HB:=n0_;clear n0_;(try clear hb);(try clear hb2);(try clear hk);(try clear hi))))
  go_ret
  exact ⟨by first|rfl|(simp [errW_none,errW_some] <;> rfl)|(simp [*,errW_none,errW_some] <;> rfl),by repeat (first|(with_reducible first|exact HB.out|apply below_alloc|apply pw_below_drewN|apply below_drew1)|exact HB.out)⟩
 ·rw [if_neg c2] at H
  have c2b0 : decide (3000 < (a0.size : Int)) = false:=decide_eq_false c2
  have c2b1 : decide (3000 < a0.size) = false:=decide_eq_false (by omega)
  clear c2
  replace H:=Option.bind_eq_some_iff.mp H
  obtain ⟨⟨t153,t154,t155⟩,A50,H⟩:=H
  replace H : ((bosunref10_Cut.f k a0).bind fun bt158=>(if t154 = bt158.2.1 then (if t155 = bt158.2.2 then (bosunlaw10_YlinesCut.j0 k t153 bt158.1 ((t153.length : Int) != (bt158.1.length : Int))) else (bosunlaw10_YlinesCut.j0 k t153 bt158.1 true)) else (bosunlaw10_YlinesCut.j0 k t153 bt158.1 true))) = some r:=H
  have A5:=Aside0.mk A50
  clear A50
  replace H:=Option.bind_eq_some_iff.mp H
  obtain ⟨⟨t158,t159,t160⟩,A60,H⟩:=H
  replace H : (if t154 = t159 then (if t155 = t160 then (bosunlaw10_YlinesCut.j0 k t153 t158 ((t153.length : Int) != (t158.length : Int))) else (bosunlaw10_YlinesCut.j0 k t153 t158 true)) else (bosunlaw10_YlinesCut.j0 k t153 t158 true)) = some r:=H
  have A6:=Aside0.mk A60
  clear A60
  have HC7:=Aside0.mk H
  clear H
  go_enter Tryd.func3,Tryd.ntmps3
  go_upto_region 5 with (first|(go_at_call 6;(with_reducible refine (ylines_Cut.calls k a0 t153 t154 t155 _ A5.out (by first|assumption|exact GW.below hG (by first|exact HB.out|assumption|(repeat (first|(with_reducible first|exact HB.out|apply below_alloc|apply pw_below_drewN|apply below_drew1)|exact HB.out)))|exact GW.drawn hG (by first|assumption|(repeat (first|exact Drawn0.refl _|assumption|apply Drawn0.step))))).mono ?_);rintro e w8 ⟨v156,rfl,ho0,hb⟩;have n0_:=Aside0.mk (Kd.R_lower ho0 (below_size (by repeat (first|(with_reducible first|exact HB.out|apply below_alloc|apply pw_below_drewN|apply below_drew1)|exact HB.out))));have n1_:=Aside0.mk (below_step (by repeat (first|(with_reducible first|exact HB.out|apply below_alloc|apply pw_below_drewN|apply below_drew1)|exact HB.out)) hb);clear HB;have HO157:=n0_;have HB:=n1_;clear n0_ n1_;(try clear hb);(try clear hb2);(try clear hk);(try clear hi);(try clear ho0))|(go_at_call 7;(with_reducible refine (bosunref10_Cut.calls k a0 t158 t159 t160 _ A6.out).mono ?_);rintro e w9 ⟨v161,rfl,ho0,hb⟩;have n0_:=Aside0.mk (Kd.R_below (by (with_reducible repeat (first|apply Kd.R_alloc|apply Kd.R_drewN|apply Kd.R_drew));exact HO157.out) hb);have n1_:=Aside0.mk (Kd.R_lower ho0 (below_size (by repeat (first|(with_reducible first|exact HB.out|apply below_alloc|apply pw_below_drewN|apply below_drew1)|exact HB.out))));have n2_:=Aside0.mk (below_step (by repeat (first|(with_reducible first|exact HB.out|apply below_alloc|apply pw_below_drewN|apply below_drew1)|exact HB.out)) hb);clear HO157;clear HB;have HO157:=n0_;have HO162:=n1_;have HB:=n2_;clear n0_ n1_ n2_;(try clear hb);(try clear hb2);(try clear hk);(try clear hi);(try clear ho0)))
  repeat (go_quiet (first|(go_at_call 6;(with_reducible refine (ylines_Cut.calls k a0 t153 t154 t155 _ A5.out (by first|assumption|exact GW.below hG (by first|exact HB.out|assumption|(repeat (first|(with_reducible first|exact HB.out|apply below_alloc|apply pw_below_drewN|apply below_drew1)|exact HB.out)))|exact GW.drawn hG (by first|assumption|(repeat (first|exact Drawn0.refl _|assumption|apply Drawn0.step))))).mono ?_);rintro e w8 ⟨v156,rfl,ho0,hb⟩;have n0_:=Aside0.mk (Kd.R_lower ho0 (below_size (by repeat (first|(with_reducible first|exact HB.out|apply below_alloc|apply pw_below_drewN|apply below_drew1)|exact HB.out))));have n1_:=Aside0.mk (below_step (by repeat (first|(with_reducible first|exact HB.out|apply below_alloc|apply pw_below_drewN|apply below_drew1)|exact HB.out)) hb);clear HB;have HO157:=n0_;have HB:=n1_;clear n0_ n1_;(try clear hb);(try clear hb2);(try clear hk);(try clear hi);(try clear ho0))|(go_at_call 7;(with_reducible refine (bosunref10_Cut.calls k a0 t158 t159 t160 _ A6.out).mono ?_);rintro e w9 ⟨v161,rfl,ho0,hb⟩;have n0_:=Aside0.mk (Kd.R_below (by (with_reducible repeat (first|apply Kd.R_alloc|apply Kd.R_drewN|apply Kd.R_drew));exact HO157.out) hb);have n1_:=Aside0.mk (Kd.R_lower ho0 (below_size (by repeat (first|(with_reducible first|exact HB.out|apply below_alloc|apply pw_below_drewN|apply below_drew1)|exact HB.out))));have n2_:=Aside0.mk (below_step (by repeat (first|(with_reducible first|exact HB.out|apply below_alloc|apply pw_below_drewN|apply below_drew1)|exact HB.out)) hb);clear HO157;clear HB;have HO157:=n0_;have HO162:=n1_;have HB:=n2_;clear n0_ n1_ n2_;(try clear hb);(try clear hb2);(try clear hk);(try clear hi);(try clear ho0)));go_upto_region 5 with (first|(go_at_call 6;(with_reducible refine (ylines_Cut.calls k a0 t153 t154 t155 _ A5.out (by first|assumption|exact GW.below hG (by first|exact HB.out|assumption|(repeat (first|(with_reducible first|exact HB.out|apply below_alloc|apply pw_below_drewN|apply below_drew1)|exact HB.out)))|exact GW.drawn hG (by first|assumption|(repeat (first|exact Drawn0.refl _|assumption|apply Drawn0.step))))).mono ?_);rintro e w8 ⟨v156,rfl,ho0,hb⟩;have n0_:=Aside0.mk (Kd.R_lower ho0 (below_size (by repeat (first|(with_reducible first|exact HB.out|apply below_alloc|apply pw_below_drewN|apply below_drew1)|exact HB.out))));have n1_:=Aside0.mk (below_step (by repeat (first|(with_reducible first|exact HB.out|apply below_alloc|apply pw_below_drewN|apply below_drew1)|exact HB.out)) hb);clear HB;have HO157:=n0_;have HB:=n1_;clear n0_ n1_;(try clear hb);(try clear hb2);(try clear hk);(try clear hi);(try clear ho0))|(go_at_call 7;(with_reducible refine (bosunref10_Cut.calls k a0 t158 t159 t160 _ A6.out).mono ?_);rintro e w9 ⟨v161,rfl,ho0,hb⟩;have n0_:=Aside0.mk (Kd.R_below (by (with_reducible repeat (first|apply Kd.R_alloc|apply Kd.R_drewN|apply Kd.R_drew));exact HO157.out) hb);have n1_:=Aside0.mk (Kd.R_lower ho0 (below_size (by repeat (first|(with_reducible first|exact HB.out|apply below_alloc|apply pw_below_drewN|apply below_drew1)|exact HB.out))));have n2_:=Aside0.mk (below_step (by repeat (first|(with_reducible first|exact HB.out|apply below_alloc|apply pw_below_drewN|apply below_drew1)|exact HB.out)) hb);clear HO157;clear HB;have HO157:=n0_;have HO162:=n1_;have HB:=n2_;clear n0_ n1_ n2_;(try clear hb);(try clear hb2);(try clear hk);(try clear hi);(try clear ho0))))
  (try simp only [Act.put,List.setIfInBounds_toArray,List.set_cons_zero,List.set_cons_succ])
  go_cut [40] (fun v40 wc=>∃ (kq : Nat) (x40_6 : Bool),v40 = .bool x40_6 ∧ Aside0 (bosunlaw10_YlinesCut.j0 kq t153 t158 x40_6 = some r) ∧ Aside0 (kq ≤ k) ∧ Aside0 (Kd.R k32 32 wc w.heap.size (fun _=>True) v156 t153) ∧ Aside0 (Kd.R k31 31 wc w.heap.size (fun _=>True) v161 t158) ∧ Aside0 (Below w.heap.size w wc))
  case first =>
   have H:=HC7.out
   clear HC7
   by_cases c10 : t154 = t159
   ·rw [if_pos c10] at H
    have c10b0 : (t154 == t159) = true:=beq_iff_eq.mpr c10
    have c10b1 : (t154 != t159) = false:=bne_eq_false_iff_eq.mpr c10
    clear c10
    (first|rw [c10b0]|(simp only [i64_w,i32_w];rw [c10b0])|skip)
    by_cases c11 : t155 = t160
    ·rw [if_pos c11] at H
     have c11b0 : (t155 == t160) = true:=beq_iff_eq.mpr c11
     have c11b1 : (t155 != t160) = false:=bne_eq_false_iff_eq.mpr c11
     clear c11
     have H':=Aside0.mk H
     clear H
     obtain ⟨Ao12,co12,eo12⟩:=Kd.R_slice HO157.out
     subst eo12
     obtain ⟨Ao13,co13,eo13⟩:=Kd.R_slice HO162.out
     subst eo13
     go_wp2
     repeat (go_quiet (fail);try go_wp2)
     go_meet
     case rel=>exact ⟨_,(((t153.length : Int) != (t158.length : Int))),(by first|rfl|(simp;done)|(simp [*];done)),H',⟨by first|omega|exact Nat.le_refl _⟩,⟨by (with_reducible repeat (first|apply Kd.R_alloc|apply Kd.R_drewN|apply Kd.R_drew));exact HO157.out⟩,⟨by (with_reducible repeat (first|apply Kd.R_alloc|apply Kd.R_drewN|apply Kd.R_drew));exact HO162.out⟩,⟨by repeat (first|(with_reducible first|exact HB.out|apply below_alloc|apply pw_below_drewN|apply below_drew1)|exact HB.out)⟩⟩
    ·rw [if_neg c11] at H
     have c11b0 : (t155 == t160) = false:=beq_eq_false_iff_ne.mpr c11
     have c11b1 : (t155 != t160) = true:=bne_iff_ne.mpr c11
     have H':=Aside0.mk H
     clear H
     go_wp2
     repeat (go_quiet (fail);try go_wp2)
     go_meet
     case rel=>exact ⟨_,(true),(by first|rfl|(simp;done)|(simp [*];done)),H',⟨by first|omega|exact Nat.le_refl _⟩,⟨by (with_reducible repeat (first|apply Kd.R_alloc|apply Kd.R_drewN|apply Kd.R_drew));exact HO157.out⟩,⟨by (with_reducible repeat (first|apply Kd.R_alloc|apply Kd.R_drewN|apply Kd.R_drew));exact HO162.out⟩,⟨by repeat (first|(with_reducible first|exact HB.out|apply below_alloc|apply pw_below_drewN|apply below_drew1)|exact HB.out)⟩⟩
   ·rw [if_neg c10] at H
    have c10b0 : (t154 == t159) = false:=beq_eq_false_iff_ne.mpr c10
    have c10b1 : (t154 != t159) = true:=bne_iff_ne.mpr c10
    (first|rw [c10b0]|(simp only [i64_w,i32_w];rw [c10b0])|skip)
    have H':=Aside0.mk H
    clear H
    go_wp2
    repeat (go_quiet (fail);try go_wp2)
    go_meet
    case rel=>exact ⟨_,(true),(by first|rfl|(simp;done)|(simp [*];done)),H',⟨by first|omega|exact Nat.le_refl _⟩,⟨by (with_reducible repeat (first|apply Kd.R_alloc|apply Kd.R_drewN|apply Kd.R_drew));exact HO157.out⟩,⟨by (with_reducible repeat (first|apply Kd.R_alloc|apply Kd.R_drewN|apply Kd.R_drew));exact HO162.out⟩,⟨by repeat (first|(with_reducible first|exact HB.out|apply below_alloc|apply pw_below_drewN|apply below_drew1)|exact HB.out)⟩⟩
  case rest =>
   clear HC7
   try clear c1
   try clear c2
   try clear c2b0
   try clear c2b1
   try clear p2
   try clear c3
   try clear c10
   try clear c10b0
   try clear c10b1
   try clear c11
   try clear c11b0
   try clear c11b1
   obtain ⟨kq,x40_6,rfl,HA,HJ6,HO_3,HO_6,HB⟩:=hcut
   cases kq with
   | zero=>exact absurd HA.out (by simp [bosunlaw10_YlinesCut.j0])
   | succ kj6 =>
    have H:=HA.out
    clear HA
    simp only [bosunlaw10_YlinesCut.j0] at H
    by_cases c14 : x40_6 = true
    ·subst c14
     have H1 : (some false) = some r:=by rw [if_pos rfl] at H;exact H
     clear H
     have H:=H1
     clear H1
     obtain rfl:=Option.some.inj H
     go_wp2
     repeat (go_quiet (fail);try go_wp2)
     go_ret
     exact ⟨by first|rfl|(simp [errW_none,errW_some] <;> rfl)|(simp [*,errW_none,errW_some] <;> rfl),by repeat (first|(with_reducible first|exact HB.out|apply below_alloc|apply pw_below_drewN|apply below_drew1)|exact HB.out)⟩
    ·replace c14:=Bool.eq_false_iff.mpr c14
     subst c14
     have H1 : (bosunlaw10_YlinesCut.l0 kj6 t153 t158 (t153.length : Int) 0) = some r:=by rw [if_neg (show ¬ (false = true) by decide)] at H;exact H
     clear H
     have H:=H1
     clear H1
     have H':=Aside0.mk H
     clear H
     obtain ⟨Ao15,co15,eo15⟩:=Kd.R_slice HO_3.out
     subst eo15
     go_wp2
     repeat (go_quiet (fail);try go_wp2)
     go_loopg [43] kj6 (fun kq v43 w'=>∃ (x43_2 : Int),v43 = .int .i64 x43_2 ∧ Aside0 (bosunlaw10_YlinesCut.l0 kq t153 t158 (t153.length : Int) x43_2 = some r) ∧ Aside0 (kq ≤ kj6) ∧ Aside0 (Kd.R k32 32 w' w.heap.size (fun _=>True) (.slice Ao15 t153.length co15) t153) ∧ Aside0 (Kd.R k31 31 w' w.heap.size (fun _=>True) v161 t158) ∧ Aside0 (Below w.heap.size w w'))
     case atStart=>exact ⟨(0),(by first|rfl|(simp;done)|(simp [*];done)),H',⟨Nat.le_refl _⟩,⟨by (with_reducible repeat (first|apply Kd.R_alloc|apply Kd.R_drewN|apply Kd.R_drew));exact HO_3.out⟩,⟨by (with_reducible repeat (first|apply Kd.R_alloc|apply Kd.R_drewN|apply Kd.R_drew));exact HO_6.out⟩,⟨by repeat (first|(with_reducible first|exact HB.out|apply below_alloc|apply pw_below_drewN|apply below_drew1)|exact HB.out)⟩⟩
     case round =>
      clear H'
      try clear c1
      try clear c2
      try clear c2b0
      try clear c2b1
      try clear p2
      try clear c3
      try clear c10
      try clear c10b0
      try clear c10b1
      try clear c11
      try clear c11b0
      try clear c11b1
      try clear c14
      try clear p2
      obtain ⟨x43_2,rfl,HA,HK2,HO_3,HO_6,HB⟩:=hrel
      cases gk with
      | zero=>exact absurd HA.out (by simp [bosunlaw10_YlinesCut.l0])
      | succ k2 =>
       have H:=HA.out
       clear HA
       simp only [bosunlaw10_YlinesCut.l0] at H
       by_cases c16 : x43_2 < (t153.length : Int)
       ·rw [if_pos c16] at H
        have c16b0 : decide (x43_2 < (t153.length : Int)) = true:=decide_eq_true c16
        clear c16
        by_cases c17 : 0 ≤ x43_2
        ·rw [if_pos c17] at H
         have c17b0 : decide (0 ≤ x43_2) = true:=decide_eq_true c17
         clear c17
         by_cases c18 : x43_2 < (t153.length : Int)
         ·rw [if_pos c18] at H
          have c18b0 : decide (x43_2 < (t153.length : Int)) = true:=decide_eq_true c18
          clear c18
          by_cases c19 : x43_2 < (t158.length : Int)
          ·rw [if_pos c19] at H
           have c19b0 : decide (x43_2 < (t158.length : Int)) = true:=decide_eq_true c19
           clear c19
           by_cases c20 : (!(((rd_T32 t153 x43_2).f0) == ((rd_T31 t158 x43_2).f0)) || (!(((rd_T32 t153 x43_2).f1) == ((rd_T31 t158 x43_2).f1)) || (!(((rd_T32 t153 x43_2).f2) == ((rd_T31 t158 x43_2).f2)) || (!((((rd_T32 t153 x43_2).f3).toList) == (((rd_T31 t158 x43_2).f3).toList)))))) = true
           ·rw [if_pos c20] at H
            have c20b0 : (!(((rd_T32 t153 x43_2).f0) == ((rd_T31 t158 x43_2).f0)) || (!(((rd_T32 t153 x43_2).f1) == ((rd_T31 t158 x43_2).f1)) || (!(((rd_T32 t153 x43_2).f2) == ((rd_T31 t158 x43_2).f2)) || (!((((rd_T32 t153 x43_2).f3).toList) == (((rd_T31 t158 x43_2).f3).toList)))))) = true:=c20
            clear c20
            obtain rfl:=Option.some.inj H
            have p163 : 0 ≤ (x43_2 : Int):=of_decide_eq_true (by first|(with_reducible assumption)|assumption)
            have q163 : x43_2 < (t153.length : Int):=of_decide_eq_true (by first|(with_reducible assumption)|assumption)
            obtain ⟨ad163,e163,hx163_0,hx163_1,hx163_2,hx163_3⟩:=at_T32 (Kd.R_reads' HO_3.out).2.2 x43_2 p163 q163
            cases e163
            replace p163:=eq_true p163
            replace q163:=eq_true q163
            obtain ⟨Ao21,co21,eo21⟩:=Kd.R_slice HO_6.out
            subst eo21
            have p164 : 0 ≤ (x43_2 : Int):=of_decide_eq_true (by first|(with_reducible assumption)|assumption)
            have q164 : x43_2 < (t158.length : Int):=of_decide_eq_true (by first|(with_reducible assumption)|assumption)
            obtain ⟨ad164,e164,hx164_0,hx164_1,hx164_2,hx164_3⟩:=at_T31 (Kd.R_reads' HO_6.out).2.2 x43_2 p164 q164
            cases e164
            replace p164:=eq_true p164
            replace q164:=eq_true q164
            go_wp2
            repeat (go_quiet (fail);try go_wp2)
            go_ret
            exact ⟨by first|rfl|(simp [errW_none,errW_some] <;> rfl)|(simp [*,errW_none,errW_some] <;> rfl),by repeat (first|(with_reducible first|exact HB.out|apply below_alloc|apply pw_below_drewN|apply below_drew1)|exact HB.out)⟩
           ·rw [if_neg c20] at H
            have c20b0 : (!(((rd_T32 t153 x43_2).f0) == ((rd_T31 t158 x43_2).f0)) || (!(((rd_T32 t153 x43_2).f1) == ((rd_T31 t158 x43_2).f1)) || (!(((rd_T32 t153 x43_2).f2) == ((rd_T31 t158 x43_2).f2)) || (!((((rd_T32 t153 x43_2).f3).toList) == (((rd_T31 t158 x43_2).f3).toList)))))) = false:=by simpa using c20
            clear c20
            have H':=Aside0.mk H
            clear H
            have p163 : 0 ≤ (x43_2 : Int):=of_decide_eq_true (by first|(with_reducible assumption)|assumption)
            have q163 : x43_2 < (t153.length : Int):=of_decide_eq_true (by first|(with_reducible assumption)|assumption)
            obtain ⟨ad163,e163,hx163_0,hx163_1,hx163_2,hx163_3⟩:=at_T32 (Kd.R_reads' HO_3.out).2.2 x43_2 p163 q163
            cases e163
            replace p163:=eq_true p163
            replace q163:=eq_true q163
            obtain ⟨Ao22,co22,eo22⟩:=Kd.R_slice HO_6.out
            subst eo22
            have p164 : 0 ≤ (x43_2 : Int):=of_decide_eq_true (by first|(with_reducible assumption)|assumption)
            have q164 : x43_2 < (t158.length : Int):=of_decide_eq_true (by first|(with_reducible assumption)|assumption)
            obtain ⟨ad164,e164,hx164_0,hx164_1,hx164_2,hx164_3⟩:=at_T31 (Kd.R_reads' HO_6.out).2.2 x43_2 p164 q164
            cases e164
            replace p164:=eq_true p164
            replace q164:=eq_true q164
            go_wp2
            repeat (go_quiet (fail);try go_wp2)
            go_roundg k2
            case measure=>have:=HJ6.out;have:=HK2.out;omega
            case rel=>exact ⟨(wrap64 (x43_2 + 1)),(by first|rfl|(simp;done)|(simp [*];done)),H',⟨by have:=HJ6.out;have:=HK2.out;omega⟩,⟨by (with_reducible repeat (first|apply Kd.R_alloc|apply Kd.R_drewN|apply Kd.R_drew));exact HO_3.out⟩,⟨by (with_reducible repeat (first|apply Kd.R_alloc|apply Kd.R_drewN|apply Kd.R_drew));exact HO_6.out⟩,⟨by repeat (first|(with_reducible first|exact HB.out|apply below_alloc|apply pw_below_drewN|apply below_drew1)|exact HB.out)⟩⟩
          ·rw [if_neg c19] at H
           exact absurd H (by simp)
         ·rw [if_neg c18] at H
          exact absurd H (by simp)
        ·rw [if_neg c17] at H
         exact absurd H (by simp)
       ·rw [if_neg c16] at H
        have c16b0 : decide (x43_2 < (t153.length : Int)) = false:=decide_eq_false c16
        clear c16
        replace H:=Option.bind_eq_some_iff.mp H
        obtain ⟨t165,A230,H⟩:=H
        replace H : (some t165) = some r:=H
        have A23:=Aside0.mk A230
        clear A230
        obtain rfl:=Option.some.inj H
        go_wp2_with (first|(go_at_call 5;(with_reducible refine (bosunlaw10_Awake.calls k2  t165 _ A23.out (by first|assumption|exact GW.below hG (by first|exact HB.out|assumption|(repeat (first|(with_reducible first|exact HB.out|apply below_alloc|apply pw_below_drewN|apply below_drew1)|exact HB.out)))|exact GW.drawn hG (by first|assumption|(repeat (first|exact Drawn0.refl _|assumption|apply Drawn0.step))))).mono ?_);rintro e w24 ⟨rfl,hb⟩;have n0_:=Aside0.mk (Kd.R_below (by (with_reducible repeat (first|apply Kd.R_alloc|apply Kd.R_drewN|apply Kd.R_drew));exact HO_3.out) hb);have n1_:=Aside0.mk (Kd.R_below (by (with_reducible repeat (first|apply Kd.R_alloc|apply Kd.R_drewN|apply Kd.R_drew));exact HO_6.out) hb);have n2_:=Aside0.mk (below_step (by repeat (first|(with_reducible first|exact HB.out|apply below_alloc|apply pw_below_drewN|apply below_drew1)|exact HB.out)) hb);clear HO_3;clear HO_6;clear HB;have HO_3:=n0_;have HO_6:=n1_;have HB:=n2_;clear n0_ n1_ n2_;(try clear hb);(try clear hb2);(try clear hk);(try clear hi)))
        repeat (go_quiet (first|(go_at_call 5;(with_reducible refine (bosunlaw10_Awake.calls k2  t165 _ A23.out (by first|assumption|exact GW.below hG (by first|exact HB.out|assumption|(repeat (first|(with_reducible first|exact HB.out|apply below_alloc|apply pw_below_drewN|apply below_drew1)|exact HB.out)))|exact GW.drawn hG (by first|assumption|(repeat (first|exact Drawn0.refl _|assumption|apply Drawn0.step))))).mono ?_);rintro e w24 ⟨rfl,hb⟩;have n0_:=Aside0.mk (Kd.R_below (by (with_reducible repeat (first|apply Kd.R_alloc|apply Kd.R_drewN|apply Kd.R_drew));exact HO_3.out) hb);have n1_:=Aside0.mk (Kd.R_below (by (with_reducible repeat (first|apply Kd.R_alloc|apply Kd.R_drewN|apply Kd.R_drew));exact HO_6.out) hb);have n2_:=Aside0.mk (below_step (by repeat (first|(with_reducible first|exact HB.out|apply below_alloc|apply pw_below_drewN|apply below_drew1)|exact HB.out)) hb);clear HO_3;clear HO_6;clear HB;have HO_3:=n0_;have HO_6:=n1_;have HB:=n2_;clear n0_ n1_ n2_;(try clear hb);(try clear hb2);(try clear hk);(try clear hi)));try go_wp2_with (first|(go_at_call 5;(with_reducible refine (bosunlaw10_Awake.calls k2  t165 _ A23.out (by first|assumption|exact GW.below hG (by first|exact HB.out|assumption|(repeat (first|(with_reducible first|exact HB.out|apply below_alloc|apply pw_below_drewN|apply below_drew1)|exact HB.out)))|exact GW.drawn hG (by first|assumption|(repeat (first|exact Drawn0.refl _|assumption|apply Drawn0.step))))).mono ?_);rintro e w24 ⟨rfl,hb⟩;have n0_:=Aside0.mk (Kd.R_below (by (with_reducible repeat (first|apply Kd.R_alloc|apply Kd.R_drewN|apply Kd.R_drew));exact HO_3.out) hb);have n1_:=Aside0.mk (Kd.R_below (by (with_reducible repeat (first|apply Kd.R_alloc|apply Kd.R_drewN|apply Kd.R_drew));exact HO_6.out) hb);have n2_:=Aside0.mk (below_step (by repeat (first|(with_reducible first|exact HB.out|apply below_alloc|apply pw_below_drewN|apply below_drew1)|exact HB.out)) hb);clear HO_3;clear HO_6;clear HB;have HO_3:=n0_;have HO_6:=n1_;have HB:=n2_;clear n0_ n1_ n2_;(try clear hb);(try clear hb2);(try clear hk);(try clear hi))))
        go_ret
        exact ⟨by first|rfl|(simp [errW_none,errW_some] <;> rfl)|(simp [*,errW_none,errW_some] <;> rfl),by repeat (first|(with_reducible first|exact HB.out|apply below_alloc|apply pw_below_drewN|apply below_drew1)|exact HB.out)⟩

end Go.Proofs.YticabhjmojcfoaaDoor.GUt
