/- Written by this session's own program (wip/gen.py) out of the translation: plain Lean functions of the Go functions, and proofs that the calls come to their answers. No conditions beside those in the statements. -/
import Derived.Test.YtnkkbiabloodaaaDoorGUtx0
import Derived.Test.YtnkkbiabloodaaaDoorGUtx5
import Derived.Test.YtnkkbiabloodaaaDoorGUtx8
import Derived.Test.YtnkkbiabloodaaaDoorGUtx12
import Derived.Test.YtnkkbiabloodaaaDoorGW
namespace Go.Proofs.YtnkkbiabloodaaaDoor.GUt
open Go.RowKit Go.Proofs.YtnkkbiabloodaaaDoorW.PrintWords Go.Proofs.YtnkkbiabloodaaaDoorW.PrintLast Go.Proofs.YtnkkbiabloodaaaDoorW.PrintMore
attribute [local go_sem] max2_int min2_int max_two min_two max_three min_three max_four min_four   -- for this text's walks alone
set_option linter.unusedVariables false
set_option linter.unusedSimpArgs false

/-! ### bosunlaw07_JlexAgain: function 7 -/
mutual
def bosunlaw07_JlexAgain.l0 : Nat → ByteArray → List (S69) → ByteArray → List (S69) → Int → Int → Option (Bool)
 | 0,_,_,_,_,_,_=>none
 | k + 1,x0,x3,x6,x30,x31,x32=>if x32 < x31 then (if 0 ≤ x32 then (if x32 < (x30.length : Int) then (if ((rd_T69 x30 x32).f0) < 0 then (bosunlaw07_JlexAgain.j1 k x0 x3 x6 x30 x31 x32 true ((rd_T69 x30 x32).f0) ((rd_T69 x30 x32).f1) ((rd_T69 x30 x32).f2) ((rd_T69 x30 x32).f3)) else (if ((rd_T69 x30 x32).f0) > 11 then (bosunlaw07_JlexAgain.j1 k x0 x3 x6 x30 x31 x32 true ((rd_T69 x30 x32).f0) ((rd_T69 x30 x32).f1) ((rd_T69 x30 x32).f2) ((rd_T69 x30 x32).f3)) else (if ((rd_T69 x30 x32).f3) < 0 then (bosunlaw07_JlexAgain.j1 k x0 x3 x6 x30 x31 x32 true ((rd_T69 x30 x32).f0) ((rd_T69 x30 x32).f1) ((rd_T69 x30 x32).f2) ((rd_T69 x30 x32).f3)) else (if ((rd_T69 x30 x32).f3) > (x0.size : Int) then (bosunlaw07_JlexAgain.j1 k x0 x3 x6 x30 x31 x32 true ((rd_T69 x30 x32).f0) ((rd_T69 x30 x32).f1) ((rd_T69 x30 x32).f2) ((rd_T69 x30 x32).f3)) else (if x32 > 0 then (if 0 ≤ (wrap64 (x32 - 1)) then (if (wrap64 (x32 - 1)) < (x3.length : Int) then (bosunlaw07_JlexAgain.j1 k x0 x3 x6 x30 x31 x32 (decide (((rd_T69 x30 x32).f3) ≤ ((rd_T69 x3 (wrap64 (x32 - 1))).f3))) ((rd_T69 x30 x32).f0) ((rd_T69 x30 x32).f1) ((rd_T69 x30 x32).f2) ((rd_T69 x30 x32).f3)) else (none)) else (none)) else (bosunlaw07_JlexAgain.j1 k x0 x3 x6 x30 x31 x32 false ((rd_T69 x30 x32).f0) ((rd_T69 x30 x32).f1) ((rd_T69 x30 x32).f2) ((rd_T69 x30 x32).f3))))))) else (none)) else (none)) else ((jlex_Lex.f k x6).bind fun bt222=>(if bt222.2.2 = 0 then (bosunlaw07_JlexAgain.j2 k x3 bt222.1 ((bt222.1.length : Int) != (x3.length : Int))) else (bosunlaw07_JlexAgain.j2 k x3 bt222.1 true)))
def bosunlaw07_JlexAgain.j1 : Nat → ByteArray → List (S69) → ByteArray → List (S69) → Int → Int → Bool → Int → ByteArray → Int → Int → Option (Bool)
 | 0,_,_,_,_,_,_,_,_,_,_,_=>none
 | k + 1,x0,x3,x6,x30,x31,x32,x71,x216000,x216001,x216002,x216003=>if x71 = true then (some false) else ((bosunlaw07_of.f x216000 x216001 x216002 x216003).bind fun bt217=>((bosunlaw07_show.f k bt217.1 bt217.2.1 bt217.2.2.1 bt217.2.2.2).bind fun t221=>(if t221.size + 1 ≤ 9223372036854775807 then (if x6.size + (t221 ++ (⟨#[32]⟩ : ByteArray)).size ≤ 9223372036854775807 then (bosunlaw07_JlexAgain.l0 k x0 x3 (x6 ++ (t221 ++ (⟨#[32]⟩ : ByteArray))) x30 x31 (wrap64 (x32 + 1))) else (none)) else (none))))
def bosunlaw07_JlexAgain.j2 : Nat → List (S69) → List (S69) → Bool → Option (Bool)
 | 0,_,_,_=>none
 | k + 1,x3,x9,x93=>if x93 = true then (some false) else (bosunlaw07_JlexAgain.l1 k x3 x9 (x3.length : Int) 0)
def bosunlaw07_JlexAgain.l1 : Nat → List (S69) → List (S69) → Int → Int → Option (Bool)
 | 0,_,_,_,_=>none
 | k + 1,x3,x9,x95,x96=>if x96 < x95 then (if 0 ≤ x96 then (if x96 < (x3.length : Int) then (if x96 < (x9.length : Int) then (if ((rd_T69 x3 x96).f0) = ((rd_T69 x9 x96).f0) then (if ((rd_T69 x3 x96).f1).toList = ((rd_T69 x9 x96).f1).toList then (if ((rd_T69 x3 x96).f2) = ((rd_T69 x9 x96).f2) then (bosunlaw07_JlexAgain.l1 k x3 x9 x95 (wrap64 (x96 + 1))) else (some false)) else (some false)) else (some false)) else (none)) else (none)) else (none)) else ((bosunlaw07_Awake.f k).bind fun t233=>(some t233))
end
def bosunlaw07_JlexAgain.f (k : Nat) (a0 : ByteArray) : Option (Bool):=if (a0.size : Int) > 3000 then ((bosunlaw07_Awake.f k).bind fun t207=>(some t207)) else ((jlex_Lex.f k a0).bind fun bt208=>(if bt208.2.2 = 0 then (bosunlaw07_JlexAgain.l0 k a0 bt208.1 (⟨#[]⟩ : ByteArray) bt208.1 (bt208.1.length : Int) 0) else ((bosunlaw07_Awake.f k).bind fun t213=>(if t213 = true then (some ((bt208.1.length : Int) == 0)) else (some false)))))
theorem bosunlaw07_JlexAgain.mono_l : ∀ k,(∀ y0 y1 y2 y3 y4 y5,LeO (bosunlaw07_JlexAgain.l0 k y0 y1 y2 y3 y4 y5) (bosunlaw07_JlexAgain.l0 (k + 1) y0 y1 y2 y3 y4 y5)) ∧ (∀ y0 y1 y2 y3 y4 y5 y6 y7 y8 y9 y10,LeO (bosunlaw07_JlexAgain.j1 k y0 y1 y2 y3 y4 y5 y6 y7 y8 y9 y10) (bosunlaw07_JlexAgain.j1 (k + 1) y0 y1 y2 y3 y4 y5 y6 y7 y8 y9 y10)) ∧ (∀ y0 y1 y2,LeO (bosunlaw07_JlexAgain.j2 k y0 y1 y2) (bosunlaw07_JlexAgain.j2 (k + 1) y0 y1 y2)) ∧ (∀ y0 y1 y2 y3,LeO (bosunlaw07_JlexAgain.l1 k y0 y1 y2 y3) (bosunlaw07_JlexAgain.l1 (k + 1) y0 y1 y2 y3))
 | 0=>⟨fun _ _ _ _ _ _ r h=>by simp [bosunlaw07_JlexAgain.l0] at h,fun _ _ _ _ _ _ _ _ _ _ _ r h=>by simp [bosunlaw07_JlexAgain.j1] at h,fun _ _ _ r h=>by simp [bosunlaw07_JlexAgain.j2] at h,fun _ _ _ _ r h=>by simp [bosunlaw07_JlexAgain.l1] at h⟩
 | k + 1=>by
  obtain ⟨ih0,ih1,ih2,ih3⟩:=bosunlaw07_JlexAgain.mono_l k
  refine ⟨?_,?_,?_,?_⟩
  ·intro y0 y1 y2 y3 y4 y5
   unfold bosunlaw07_JlexAgain.l0
   repeat' first
   | (with_reducible exact ih0 _ _ _ _ _ _)
   | (with_reducible exact ih1 _ _ _ _ _ _ _ _ _ _ _)
   | (with_reducible exact ih2 _ _ _)
   | (with_reducible exact ih3 _ _ _ _)
   | (with_reducible exact bosunlaw07_Awake.mono _)
   | (with_reducible exact bosunlaw07_show.mono _ _ _ _ _)
   | (with_reducible exact jlex_Lex.mono _ _)
   | (with_reducible exact LeO.refl _)
   | (with_reducible exact LeO.none _)
   | (with_reducible refine LeO.ite ?_ ?_)
   | (with_reducible refine LeO.bind ?_ (fun _=>?_))
   | exact ih0 _ _ _ _ _ _
   | exact ih1 _ _ _ _ _ _ _ _ _ _ _
   | exact ih2 _ _ _
   | exact ih3 _ _ _ _
   | exact bosunlaw07_Awake.mono _
   | exact bosunlaw07_show.mono _ _ _ _ _
   | exact jlex_Lex.mono _ _
   | exact LeO.none _
   | refine LeO.ite ?_ ?_
   | refine LeO.bind ?_ (fun _=>?_)
  ·intro y0 y1 y2 y3 y4 y5 y6 y7 y8 y9 y10
   unfold bosunlaw07_JlexAgain.j1
   repeat' first
   | (with_reducible exact ih0 _ _ _ _ _ _)
   | (with_reducible exact ih1 _ _ _ _ _ _ _ _ _ _ _)
   | (with_reducible exact ih2 _ _ _)
   | (with_reducible exact ih3 _ _ _ _)
   | (with_reducible exact bosunlaw07_Awake.mono _)
   | (with_reducible exact bosunlaw07_show.mono _ _ _ _ _)
   | (with_reducible exact jlex_Lex.mono _ _)
   | (with_reducible exact LeO.refl _)
   | (with_reducible exact LeO.none _)
   | (with_reducible refine LeO.ite ?_ ?_)
   | (with_reducible refine LeO.bind ?_ (fun _=>?_))
   | exact ih0 _ _ _ _ _ _
   | exact ih1 _ _ _ _ _ _ _ _ _ _ _
   | exact ih2 _ _ _
   | exact ih3 _ _ _ _
   | exact bosunlaw07_Awake.mono _
   | exact bosunlaw07_show.mono _ _ _ _ _
   | exact jlex_Lex.mono _ _
   | exact LeO.none _
   | refine LeO.ite ?_ ?_
   | refine LeO.bind ?_ (fun _=>?_)
  ·intro y0 y1 y2
   unfold bosunlaw07_JlexAgain.j2
   repeat' first
   | (with_reducible exact ih0 _ _ _ _ _ _)
   | (with_reducible exact ih1 _ _ _ _ _ _ _ _ _ _ _)
   | (with_reducible exact ih2 _ _ _)
   | (with_reducible exact ih3 _ _ _ _)
   | (with_reducible exact bosunlaw07_Awake.mono _)
   | (with_reducible exact bosunlaw07_show.mono _ _ _ _ _)
   | (with_reducible exact jlex_Lex.mono _ _)
   | (with_reducible exact LeO.refl _)
   | (with_reducible exact LeO.none _)
   | (with_reducible refine LeO.ite ?_ ?_)
   | (with_reducible refine LeO.bind ?_ (fun _=>?_))
   | exact ih0 _ _ _ _ _ _
   | exact ih1 _ _ _ _ _ _ _ _ _ _ _
   | exact ih2 _ _ _
   | exact ih3 _ _ _ _
   | exact bosunlaw07_Awake.mono _
   | exact bosunlaw07_show.mono _ _ _ _ _
   | exact jlex_Lex.mono _ _
   | exact LeO.none _
   | refine LeO.ite ?_ ?_
   | refine LeO.bind ?_ (fun _=>?_)
  ·intro y0 y1 y2 y3
   unfold bosunlaw07_JlexAgain.l1
   repeat' first
   | (with_reducible exact ih0 _ _ _ _ _ _)
   | (with_reducible exact ih1 _ _ _ _ _ _ _ _ _ _ _)
   | (with_reducible exact ih2 _ _ _)
   | (with_reducible exact ih3 _ _ _ _)
   | (with_reducible exact bosunlaw07_Awake.mono _)
   | (with_reducible exact bosunlaw07_show.mono _ _ _ _ _)
   | (with_reducible exact jlex_Lex.mono _ _)
   | (with_reducible exact LeO.refl _)
   | (with_reducible exact LeO.none _)
   | (with_reducible refine LeO.ite ?_ ?_)
   | (with_reducible refine LeO.bind ?_ (fun _=>?_))
   | exact ih0 _ _ _ _ _ _
   | exact ih1 _ _ _ _ _ _ _ _ _ _ _
   | exact ih2 _ _ _
   | exact ih3 _ _ _ _
   | exact bosunlaw07_Awake.mono _
   | exact bosunlaw07_show.mono _ _ _ _ _
   | exact jlex_Lex.mono _ _
   | exact LeO.none _
   | refine LeO.ite ?_ ?_
   | refine LeO.bind ?_ (fun _=>?_)
theorem bosunlaw07_JlexAgain.mono : ∀ a0 k,LeO (bosunlaw07_JlexAgain.f k a0) (bosunlaw07_JlexAgain.f (k + 1) a0):=by
 intro a0 k
 obtain ⟨ih0,ih1,ih2,ih3⟩:=bosunlaw07_JlexAgain.mono_l k
 unfold bosunlaw07_JlexAgain.f
 repeat' first
   | (with_reducible exact ih0 _ _ _ _ _ _)
   | (with_reducible exact ih1 _ _ _ _ _ _ _ _ _ _ _)
   | (with_reducible exact ih2 _ _ _)
   | (with_reducible exact ih3 _ _ _ _)
   | (with_reducible exact bosunlaw07_Awake.mono _)
   | (with_reducible exact bosunlaw07_show.mono _ _ _ _ _)
   | (with_reducible exact jlex_Lex.mono _ _)
   | (with_reducible exact LeO.refl _)
   | (with_reducible exact LeO.none _)
   | (with_reducible refine LeO.ite ?_ ?_)
   | (with_reducible refine LeO.bind ?_ (fun _=>?_))
   | exact ih0 _ _ _ _ _ _
   | exact ih1 _ _ _ _ _ _ _ _ _ _ _
   | exact ih2 _ _ _
   | exact ih3 _ _ _ _
   | exact bosunlaw07_Awake.mono _
   | exact bosunlaw07_show.mono _ _ _ _ _
   | exact jlex_Lex.mono _ _
   | exact LeO.none _
   | refine LeO.ite ?_ ?_
   | refine LeO.bind ?_ (fun _=>?_)
set_option maxHeartbeats 8000000 in
set_option maxRecDepth 100000 in
theorem bosunlaw07_JlexAgain.calls (k : Nat) (a0 : ByteArray) (r : Bool) (w : World) (h : bosunlaw07_JlexAgain.f k a0 = some r) (hG : GW.GW w) :
  Calls Tryd.prog 7 #[.string a0] w fun e w'=>e = .returned (.bool r) ∧ Below w.heap.size w w':=by
 have hu69:=Tryd.underlying69
 have HB:=Aside0.mk (Below.refl w.heap.size w)
 have H : (if (a0.size : Int) > 3000 then ((bosunlaw07_Awake.f k).bind fun t207=>(some t207)) else ((jlex_Lex.f k a0).bind fun bt208=>(if bt208.2.2 = 0 then (bosunlaw07_JlexAgain.l0 k a0 bt208.1 (⟨#[]⟩ : ByteArray) bt208.1 (bt208.1.length : Int) 0) else ((bosunlaw07_Awake.f k).bind fun t213=>(if t213 = true then (some ((bt208.1.length : Int) == 0)) else (some false)))))) = some r:=h
 clear h
 by_cases c2 : (a0.size : Int) > 3000
 ·rw [if_pos c2] at H
  have c2b0 : decide (3000 < (a0.size : Int)) = true:=decide_eq_true c2
  have c2b1 : decide (3000 < a0.size) = true:=decide_eq_true (by omega)
  clear c2
  replace H:=Option.bind_eq_some_iff.mp H
  obtain ⟨t207,A30,H⟩:=H
  replace H : (some t207) = some r:=H
  have A3:=Aside0.mk A30
  clear A30
  obtain rfl:=Option.some.inj H
  go_enter Tryd.func7,Tryd.ntmps7
  go_wp2_with (first|(go_at_call 25;(with_reducible refine (bosunlaw07_Awake.calls k  t207 _ A3.out (by first|assumption|exact GW.below hG (by first|exact HB.out|assumption|(repeat (first|(with_reducible first|exact HB.out|apply below_alloc|apply pw_below_drewN|apply below_drew1)|exact HB.out)))|exact GW.drawn hG (by first|assumption|(repeat (first|exact Drawn0.refl _|assumption|apply Drawn0.step))))).mono ?_);rintro e w4 ⟨rfl,hb⟩;have n0_:=Aside0.mk (below_step (by repeat (first|(with_reducible first|exact HB.out|apply below_alloc|apply pw_below_drewN|apply below_drew1)|exact HB.out)) hb);clear HB;have HB:=n0_;clear n0_;(try clear hb);(try clear hb2);(try clear hk);(try clear hi)))
  repeat (go_quiet (first|(go_at_call 25;(with_reducible refine (bosunlaw07_Awake.calls k  t207 _ A3.out (by first|assumption|exact GW.below hG (by first|exact HB.out|assumption|(repeat (first|(with_reducible first|exact HB.out|apply below_alloc|apply pw_below_drewN|apply below_drew1)|exact HB.out)))|exact GW.drawn hG (by first|assumption|(repeat (first|exact Drawn0.refl _|assumption|apply Drawn0.step))))).mono ?_);rintro e w4 ⟨rfl,hb⟩;have n0_:=Aside0.mk (below_step (by repeat (first|(with_reducible first|exact HB.out|apply below_alloc|apply pw_below_drewN|apply below_drew1)|exact HB.out)) hb);clear HB;have HB:=n0_;clear n0_;(try clear hb);(try clear hb2);(try clear hk);(try clear hi)));try go_wp2_with (first|(go_at_call 25;(with_reducible refine (bosunlaw07_Awake.calls k  t207 _ A3.out (by first|assumption|exact GW.below hG (by first|exact HB.out|assumption|(repeat (first|(with_reducible first|exact HB.out|apply below_alloc|apply pw_below_drewN|apply below_drew1)|exact HB.out)))|exact GW.drawn hG (by first|assumption|(repeat (first|exact Drawn0.refl _|assumption|apply Drawn0.step))))).mono ?_);rintro e w4 ⟨rfl,hb⟩;have n0_:=Aside0.mk (below_step (by repeat (first|(with_reducible first|exact HB.out|apply below_alloc|apply pw_below_drewN|apply below_drew1)|exact HB.out)) hb);clear HB;have HB:=n0_;clear n0_;(try clear hb);(try clear hb2);(try clear hk);(try clear hi))))
  go_ret
  exact ⟨by first|rfl|(simp [errW_none,errW_some] <;> rfl)|(simp [*,errW_none,errW_some] <;> rfl),by repeat (first|(with_reducible first|exact HB.out|apply below_alloc|apply pw_below_drewN|apply below_drew1)|exact HB.out)⟩
 ·rw [if_neg c2] at H
  have c2b0 : decide (3000 < (a0.size : Int)) = false:=decide_eq_false c2
  have c2b1 : decide (3000 < a0.size) = false:=decide_eq_false (by omega)
  clear c2
  replace H:=Option.bind_eq_some_iff.mp H
  obtain ⟨⟨t208,t209,t210⟩,A50,H⟩:=H
  replace H : (if t210 = 0 then (bosunlaw07_JlexAgain.l0 k a0 t208 (⟨#[]⟩ : ByteArray) t208 (t208.length : Int) 0) else ((bosunlaw07_Awake.f k).bind fun t213=>(if t213 = true then (some ((t208.length : Int) == 0)) else (some false)))) = some r:=H
  have A5:=Aside0.mk A50
  clear A50
  by_cases c6 : t210 = 0
  ·rw [if_pos c6] at H
   have c6b0 : (t210 == 0) = true:=beq_iff_eq.mpr c6
   have c6b1 : (t210 != 0) = false:=bne_eq_false_iff_eq.mpr c6
   clear c6
   have H':=Aside0.mk H
   clear H
   go_enter Tryd.func7,Tryd.ntmps7
   go_wp2_with (first|(go_at_call 28;(with_reducible refine (jlex_Lex.calls k a0 t208 t209 t210 _ A5.out (by first|assumption|exact GW.below hG (by first|exact HB.out|assumption|(repeat (first|(with_reducible first|exact HB.out|apply below_alloc|apply pw_below_drewN|apply below_drew1)|exact HB.out)))|exact GW.drawn hG (by first|assumption|(repeat (first|exact Drawn0.refl _|assumption|apply Drawn0.step))))).mono ?_);rintro e w7 ⟨v211,rfl,ho0,hb⟩;have n0_:=Aside0.mk (Kd.R_lower ho0 (below_size (by repeat (first|(with_reducible first|exact HB.out|apply below_alloc|apply pw_below_drewN|apply below_drew1)|exact HB.out))));have n1_:=Aside0.mk (below_step (by repeat (first|(with_reducible first|exact HB.out|apply below_alloc|apply pw_below_drewN|apply below_drew1)|exact HB.out)) hb);clear HB;have HO212:=n0_;have HB:=n1_;clear n0_ n1_;(try clear hb);(try clear hb2);(try clear hk);(try clear hi);(try clear ho0);obtain ⟨Ao8,co8,eo8⟩:=Kd.R_slice HO212.out;subst eo8))
   repeat (go_quiet (first|(go_at_call 28;(with_reducible refine (jlex_Lex.calls k a0 t208 t209 t210 _ A5.out (by first|assumption|exact GW.below hG (by first|exact HB.out|assumption|(repeat (first|(with_reducible first|exact HB.out|apply below_alloc|apply pw_below_drewN|apply below_drew1)|exact HB.out)))|exact GW.drawn hG (by first|assumption|(repeat (first|exact Drawn0.refl _|assumption|apply Drawn0.step))))).mono ?_);rintro e w7 ⟨v211,rfl,ho0,hb⟩;have n0_:=Aside0.mk (Kd.R_lower ho0 (below_size (by repeat (first|(with_reducible first|exact HB.out|apply below_alloc|apply pw_below_drewN|apply below_drew1)|exact HB.out))));have n1_:=Aside0.mk (below_step (by repeat (first|(with_reducible first|exact HB.out|apply below_alloc|apply pw_below_drewN|apply below_drew1)|exact HB.out)) hb);clear HB;have HO212:=n0_;have HB:=n1_;clear n0_ n1_;(try clear hb);(try clear hb2);(try clear hk);(try clear hi);(try clear ho0);obtain ⟨Ao8,co8,eo8⟩:=Kd.R_slice HO212.out;subst eo8));try go_wp2_with (first|(go_at_call 28;(with_reducible refine (jlex_Lex.calls k a0 t208 t209 t210 _ A5.out (by first|assumption|exact GW.below hG (by first|exact HB.out|assumption|(repeat (first|(with_reducible first|exact HB.out|apply below_alloc|apply pw_below_drewN|apply below_drew1)|exact HB.out)))|exact GW.drawn hG (by first|assumption|(repeat (first|exact Drawn0.refl _|assumption|apply Drawn0.step))))).mono ?_);rintro e w7 ⟨v211,rfl,ho0,hb⟩;have n0_:=Aside0.mk (Kd.R_lower ho0 (below_size (by repeat (first|(with_reducible first|exact HB.out|apply below_alloc|apply pw_below_drewN|apply below_drew1)|exact HB.out))));have n1_:=Aside0.mk (below_step (by repeat (first|(with_reducible first|exact HB.out|apply below_alloc|apply pw_below_drewN|apply below_drew1)|exact HB.out)) hb);clear HB;have HO212:=n0_;have HB:=n1_;clear n0_ n1_;(try clear hb);(try clear hb2);(try clear hk);(try clear hi);(try clear ho0);obtain ⟨Ao8,co8,eo8⟩:=Kd.R_slice HO212.out;subst eo8)))
   go_loopg [6,32] k (fun kq v6 v32 w'=>∃ (x6_1 : ByteArray) (x32_1 : Int),v6 = .string x6_1 ∧ v32 = .int .i64 x32_1 ∧ Aside0 (bosunlaw07_JlexAgain.l0 kq a0 t208 x6_1 t208 (t208.length : Int) x32_1 = some r) ∧ Aside0 (kq ≤ k) ∧ Aside0 (Kd.R k69 69 w' w.heap.size (fun _=>True) (.slice Ao8 t208.length co8) t208) ∧ Aside0 (Kd.R k69 69 w' w.heap.size (fun _=>True) (.slice Ao8 t208.length co8) t208) ∧ Aside0 (Below w.heap.size w w'))
   case atStart=>exact ⟨((⟨#[]⟩ : ByteArray)),(0),(by first|rfl|(simp;done)|(simp [*];done)),(by first|rfl|(simp;done)|(simp [*];done)),H',⟨Nat.le_refl _⟩,⟨by (with_reducible repeat (first|apply Kd.R_alloc|apply Kd.R_drewN|apply Kd.R_drew));exact HO212.out⟩,⟨by (with_reducible repeat (first|apply Kd.R_alloc|apply Kd.R_drewN|apply Kd.R_drew));exact HO212.out⟩,⟨by repeat (first|(with_reducible first|exact HB.out|apply below_alloc|apply pw_below_drewN|apply below_drew1)|exact HB.out)⟩⟩
   case round =>
    clear H'
    try clear c2
    try clear c2b0
    try clear c2b1
    try clear p2
    try clear c6
    try clear c6b0
    try clear c6b1
    try clear c7
    obtain ⟨x6_1,x32_1,rfl,rfl,HA,HK1,HO_3,HO_30,HB⟩:=hrel
    cases gk with
    | zero=>exact absurd HA.out (by simp [bosunlaw07_JlexAgain.l0])
    | succ k1 =>
     have H:=HA.out
     clear HA
     simp only [bosunlaw07_JlexAgain.l0] at H
     by_cases c9 : x32_1 < (t208.length : Int)
     ·rw [if_pos c9] at H
      have c9b0 : decide (x32_1 < (t208.length : Int)) = true:=decide_eq_true c9
      clear c9
      by_cases c10 : 0 ≤ x32_1
      ·rw [if_pos c10] at H
       have c10b0 : decide (0 ≤ x32_1) = true:=decide_eq_true c10
       clear c10
       by_cases c11 : x32_1 < (t208.length : Int)
       ·rw [if_pos c11] at H
        have c11b0 : decide (x32_1 < (t208.length : Int)) = true:=decide_eq_true c11
        clear c11
        have HC12:=Aside0.mk H
        clear H
        have p214 : 0 ≤ (x32_1 : Int):=of_decide_eq_true (by first|(with_reducible assumption)|assumption)
        have q214 : x32_1 < (t208.length : Int):=of_decide_eq_true (by first|(with_reducible assumption)|assumption)
        obtain ⟨ad214,e214,hx214_0,hx214_1,hx214_2,hx214_3⟩:=at_T69 (Kd.R_reads' HO_30.out).2.2 x32_1 p214 q214
        cases e214
        replace p214:=eq_true p214
        replace q214:=eq_true q214
        go_upto_region 10 with (first|((with_reducible refine gate_dst (N:=8) rfl ?_);(try (refine gate_guard (by rfl) ?_;dsimp only));refine box_event ?hg (N:=8) ?hd (cs:=#[.int .i64 0,.string (⟨#[]⟩ : ByteArray),.int .i64 0,.int .i64 0]) (t:=69) ?hr ?_;(case hd=>rfl);(case hg=>rfl);(case hr=>first|(go_simp;done)|(go_simp;rfl));intro gb215 hg w13 hbox hb;have n0_:=Aside0.mk (Kd.R_below (Kd.R_elderB (by (with_reducible repeat (first|apply Kd.R_alloc|apply Kd.R_drewN|apply Kd.R_drew));exact HO_3.out) gb215 (Nat.le_of_eq hg.symm)) hb);have n1_:=Aside0.mk (Kd.R_below (Kd.R_elderB (by (with_reducible repeat (first|apply Kd.R_alloc|apply Kd.R_drewN|apply Kd.R_drew));exact HO_30.out) gb215 (Nat.le_of_eq hg.symm)) hb);have n2_:=Aside0.mk (below_step (by repeat (first|(with_reducible first|exact HB.out|apply below_alloc|apply pw_below_drewN|apply below_drew1)|exact HB.out)) hb);have n3_:=Aside0.mk (hbox);have n4_:=Aside0.mk ((by rw [hg];exact (below_size (by repeat (first|(with_reducible first|exact HB.out|apply below_alloc|apply pw_below_drewN|apply below_drew1)|exact HB.out))) : w.heap.size ≤ gb215));have n5_:=Aside0.mk ((by rw [hg];exact (below_size (by repeat (first|(with_reducible first|exact HB.out|apply below_alloc|apply pw_below_drewN|apply below_drew1)|exact HB.out))) : w.heap.size ≤ gb215));clear HO_3;clear HO_30;clear HB;have HO_3:=n0_;have HO_30:=n1_;have HB:=n2_;have BK215:=n3_;have GW215:=n4_;have GE215:=n5_;clear n0_ n1_ n2_ n3_ n4_ n5_;clear hb hbox hg;have hcz14_0 : w13.cell? ⟨gb215,0,none⟩ = some (.int .i64 0):=(blk_cell BK215.out 0).trans rfl;have hcz14_1 : w13.cell? ⟨gb215,1,none⟩ = some (.string (⟨#[]⟩ : ByteArray)):=(blk_cell BK215.out 1).trans rfl;have hcz14_2 : w13.cell? ⟨gb215,2,none⟩ = some (.int .i64 0):=(blk_cell BK215.out 2).trans rfl;have hcz14_3 : w13.cell? ⟨gb215,3,none⟩ = some (.int .i64 0):=(blk_cell BK215.out 3).trans rfl;have hfz14_0:=blk_frozen BK215.out 0;have hfz14_1:=blk_frozen BK215.out 1;have hfz14_2:=blk_frozen BK215.out 2;have hfz14_3:=blk_frozen BK215.out 3))
        repeat (go_quiet (first|((with_reducible refine gate_dst (N:=8) rfl ?_);(try (refine gate_guard (by rfl) ?_;dsimp only));refine box_event ?hg (N:=8) ?hd (cs:=#[.int .i64 0,.string (⟨#[]⟩ : ByteArray),.int .i64 0,.int .i64 0]) (t:=69) ?hr ?_;(case hd=>rfl);(case hg=>rfl);(case hr=>first|(go_simp;done)|(go_simp;rfl));intro gb215 hg w13 hbox hb;have n0_:=Aside0.mk (Kd.R_below (Kd.R_elderB (by (with_reducible repeat (first|apply Kd.R_alloc|apply Kd.R_drewN|apply Kd.R_drew));exact HO_3.out) gb215 (Nat.le_of_eq hg.symm)) hb);have n1_:=Aside0.mk (Kd.R_below (Kd.R_elderB (by (with_reducible repeat (first|apply Kd.R_alloc|apply Kd.R_drewN|apply Kd.R_drew));exact HO_30.out) gb215 (Nat.le_of_eq hg.symm)) hb);have n2_:=Aside0.mk (below_step (by repeat (first|(with_reducible first|exact HB.out|apply below_alloc|apply pw_below_drewN|apply below_drew1)|exact HB.out)) hb);have n3_:=Aside0.mk (hbox);have n4_:=Aside0.mk ((by rw [hg];exact (below_size (by repeat (first|(with_reducible first|exact HB.out|apply below_alloc|apply pw_below_drewN|apply below_drew1)|exact HB.out))) : w.heap.size ≤ gb215));have n5_:=Aside0.mk ((by rw [hg];exact (below_size (by repeat (first|(with_reducible first|exact HB.out|apply below_alloc|apply pw_below_drewN|apply below_drew1)|exact HB.out))) : w.heap.size ≤ gb215));clear HO_3;clear HO_30;clear HB;have HO_3:=n0_;have HO_30:=n1_;have HB:=n2_;have BK215:=n3_;have GW215:=n4_;have GE215:=n5_;clear n0_ n1_ n2_ n3_ n4_ n5_;clear hb hbox hg;have hcz14_0 : w13.cell? ⟨gb215,0,none⟩ = some (.int .i64 0):=(blk_cell BK215.out 0).trans rfl;have hcz14_1 : w13.cell? ⟨gb215,1,none⟩ = some (.string (⟨#[]⟩ : ByteArray)):=(blk_cell BK215.out 1).trans rfl;have hcz14_2 : w13.cell? ⟨gb215,2,none⟩ = some (.int .i64 0):=(blk_cell BK215.out 2).trans rfl;have hcz14_3 : w13.cell? ⟨gb215,3,none⟩ = some (.int .i64 0):=(blk_cell BK215.out 3).trans rfl;have hfz14_0:=blk_frozen BK215.out 0;have hfz14_1:=blk_frozen BK215.out 1;have hfz14_2:=blk_frozen BK215.out 2;have hfz14_3:=blk_frozen BK215.out 3));go_upto_region 10 with (first|((with_reducible refine gate_dst (N:=8) rfl ?_);(try (refine gate_guard (by rfl) ?_;dsimp only));refine box_event ?hg (N:=8) ?hd (cs:=#[.int .i64 0,.string (⟨#[]⟩ : ByteArray),.int .i64 0,.int .i64 0]) (t:=69) ?hr ?_;(case hd=>rfl);(case hg=>rfl);(case hr=>first|(go_simp;done)|(go_simp;rfl));intro gb215 hg w13 hbox hb;have n0_:=Aside0.mk (Kd.R_below (Kd.R_elderB (by (with_reducible repeat (first|apply Kd.R_alloc|apply Kd.R_drewN|apply Kd.R_drew));exact HO_3.out) gb215 (Nat.le_of_eq hg.symm)) hb);have n1_:=Aside0.mk (Kd.R_below (Kd.R_elderB (by (with_reducible repeat (first|apply Kd.R_alloc|apply Kd.R_drewN|apply Kd.R_drew));exact HO_30.out) gb215 (Nat.le_of_eq hg.symm)) hb);have n2_:=Aside0.mk (below_step (by repeat (first|(with_reducible first|exact HB.out|apply below_alloc|apply pw_below_drewN|apply below_drew1)|exact HB.out)) hb);have n3_:=Aside0.mk (hbox);have n4_:=Aside0.mk ((by rw [hg];exact (below_size (by repeat (first|(with_reducible first|exact HB.out|apply below_alloc|apply pw_below_drewN|apply below_drew1)|exact HB.out))) : w.heap.size ≤ gb215));have n5_:=Aside0.mk ((by rw [hg];exact (below_size (by repeat (first|(with_reducible first|exact HB.out|apply below_alloc|apply pw_below_drewN|apply below_drew1)|exact HB.out))) : w.heap.size ≤ gb215));clear HO_3;clear HO_30;clear HB;have HO_3:=n0_;have HO_30:=n1_;have HB:=n2_;have BK215:=n3_;have GW215:=n4_;have GE215:=n5_;clear n0_ n1_ n2_ n3_ n4_ n5_;clear hb hbox hg;have hcz14_0 : w13.cell? ⟨gb215,0,none⟩ = some (.int .i64 0):=(blk_cell BK215.out 0).trans rfl;have hcz14_1 : w13.cell? ⟨gb215,1,none⟩ = some (.string (⟨#[]⟩ : ByteArray)):=(blk_cell BK215.out 1).trans rfl;have hcz14_2 : w13.cell? ⟨gb215,2,none⟩ = some (.int .i64 0):=(blk_cell BK215.out 2).trans rfl;have hcz14_3 : w13.cell? ⟨gb215,3,none⟩ = some (.int .i64 0):=(blk_cell BK215.out 3).trans rfl;have hfz14_0:=blk_frozen BK215.out 0;have hfz14_1:=blk_frozen BK215.out 1;have hfz14_2:=blk_frozen BK215.out 2;have hfz14_3:=blk_frozen BK215.out 3)))
        (try simp only [Act.put,List.setIfInBounds_toArray,List.set_cons_zero,List.set_cons_succ])
        go_cut [71] (fun v71 wc=>∃ (kq : Nat) (x71_11 : Bool),v71 = .bool x71_11 ∧ Aside0 (bosunlaw07_JlexAgain.j1 kq a0 t208 x6_1 t208 (t208.length : Int) x32_1 x71_11 ((rd_T69 t208 x32_1).f0) ((rd_T69 t208 x32_1).f1) ((rd_T69 t208 x32_1).f2) ((rd_T69 t208 x32_1).f3) = some r) ∧ Aside0 (kq ≤ k1) ∧ Aside0 (Kd.R k69 69 wc w.heap.size (fun k_=>k_ ≠ gb215) (.slice (some ad214) t208.length co8) t208) ∧ Aside0 (Kd.R k69 69 wc w.heap.size (fun k_=>k_ ≠ gb215) (.slice (some ad214) t208.length co8) t208) ∧ Aside0 (wc.heap[gb215]? = some (.cells #[.int .i64 ((rd_T69 t208 x32_1).f0),.string ((rd_T69 t208 x32_1).f1),.int .i64 ((rd_T69 t208 x32_1).f2),.int .i64 ((rd_T69 t208 x32_1).f3)] 69 (0,0))) ∧ Aside0 (Below w.heap.size w wc))
        case first =>
         have H:=HC12.out
         clear HC12
         by_cases c15 : ((rd_T69 t208 x32_1).f0) < 0
         ·rw [if_pos c15] at H
          have c15b0 : decide (((rd_T69 t208 x32_1).f0) < 0) = true:=decide_eq_true c15
          clear c15
          (first|rw [c15b0]|(simp only [i64_w,i32_w];rw [c15b0])|skip)
          have H':=Aside0.mk H
          clear H
          have hcz16_0 : w13.cell? ⟨gb215,0,none⟩ = some (.int .i64 0):=(blk_cell BK215.out 0).trans rfl
          have hcz16_1 : w13.cell? ⟨gb215,1,none⟩ = some (.string (⟨#[]⟩ : ByteArray)):=(blk_cell BK215.out 1).trans rfl
          have hcz16_2 : w13.cell? ⟨gb215,2,none⟩ = some (.int .i64 0):=(blk_cell BK215.out 2).trans rfl
          have hcz16_3 : w13.cell? ⟨gb215,3,none⟩ = some (.int .i64 0):=(blk_cell BK215.out 3).trans rfl
          have hfz16_0:=blk_frozen BK215.out 0
          have hfz16_1:=blk_frozen BK215.out 1
          have hfz16_2:=blk_frozen BK215.out 2
          have hfz16_3:=blk_frozen BK215.out 3
          go_wp2
          repeat (go_quiet (fail);try go_wp2)
          go_meet
          case rel=>exact ⟨_,(true),(by first|rfl|(simp;done)|(simp [*];done)),H',⟨by have:=HK1.out;first|omega|exact Nat.le_refl _⟩,⟨by (with_reducible repeat (first|apply Kd.R_alloc|apply Kd.R_drewN|apply Kd.R_drew));exact Kd.R_mono (Kd.R_far (p:=⟨gb215,3,none⟩) (Kd.R_far (p:=⟨gb215,2,none⟩) (Kd.R_far (p:=⟨gb215,1,none⟩) (Kd.R_far (p:=⟨gb215,0,none⟩) (Kd.R_mono HO_3.out (fun k_ hk=>(⟨hk,hk.2⟩ : _ ∧ k_ ≠ gb215))) (fun _ hk=>hk.2) (.int .i64 ((rd_T69 t208 x32_1).f0))) (fun _ hk=>hk.2) (.string ((rd_T69 t208 x32_1).f1))) (fun _ hk=>hk.2) (.int .i64 ((rd_T69 t208 x32_1).f2))) (fun _ hk=>hk.2) (.int .i64 ((rd_T69 t208 x32_1).f3))) (fun _ hk=>hk.1.2)⟩,⟨by (with_reducible repeat (first|apply Kd.R_alloc|apply Kd.R_drewN|apply Kd.R_drew));exact Kd.R_mono (Kd.R_far (p:=⟨gb215,3,none⟩) (Kd.R_far (p:=⟨gb215,2,none⟩) (Kd.R_far (p:=⟨gb215,1,none⟩) (Kd.R_far (p:=⟨gb215,0,none⟩) (Kd.R_mono HO_30.out (fun k_ hk=>(⟨hk,hk.2⟩ : _ ∧ k_ ≠ gb215))) (fun _ hk=>hk.2) (.int .i64 ((rd_T69 t208 x32_1).f0))) (fun _ hk=>hk.2) (.string ((rd_T69 t208 x32_1).f1))) (fun _ hk=>hk.2) (.int .i64 ((rd_T69 t208 x32_1).f2))) (fun _ hk=>hk.2) (.int .i64 ((rd_T69 t208 x32_1).f3))) (fun _ hk=>hk.1.2)⟩,⟨by (with_reducible repeat (first|apply blk_drewN|apply blk_drew|apply blk_alloc));refine blk_put (cs:=#[.int .i64 ((rd_T69 t208 x32_1).f0),.string ((rd_T69 t208 x32_1).f1),.int .i64 ((rd_T69 t208 x32_1).f2),.int .i64 0]) ?_ 3 _ rfl;(with_reducible repeat (first|apply blk_drewN|apply blk_drew|apply blk_alloc));refine blk_put (cs:=#[.int .i64 ((rd_T69 t208 x32_1).f0),.string ((rd_T69 t208 x32_1).f1),.int .i64 0,.int .i64 0]) ?_ 2 _ rfl;(with_reducible repeat (first|apply blk_drewN|apply blk_drew|apply blk_alloc));refine blk_put (cs:=#[.int .i64 ((rd_T69 t208 x32_1).f0),.string (⟨#[]⟩ : ByteArray),.int .i64 0,.int .i64 0]) ?_ 1 _ rfl;(with_reducible repeat (first|apply blk_drewN|apply blk_drew|apply blk_alloc));refine blk_put (cs:=#[.int .i64 0,.string (⟨#[]⟩ : ByteArray),.int .i64 0,.int .i64 0]) ?_ 0 _ rfl;(with_reducible repeat (first|apply blk_drewN|apply blk_drew|apply blk_alloc));exact BK215.out⟩,⟨by repeat (first|(with_reducible first|exact HB.out|apply below_alloc|apply pw_below_drewN|apply below_drew1|refine below_set ?_ GE215.out)|exact HB.out)⟩⟩
         ·rw [if_neg c15] at H
          have c15b0 : decide (((rd_T69 t208 x32_1).f0) < 0) = false:=decide_eq_false c15
          clear c15
          (first|rw [c15b0]|(simp only [i64_w,i32_w];rw [c15b0])|skip)
          by_cases c17 : ((rd_T69 t208 x32_1).f0) > 11
          ·rw [if_pos c17] at H
           have c17b0 : decide (11 < ((rd_T69 t208 x32_1).f0)) = true:=decide_eq_true c17
           clear c17
           have H':=Aside0.mk H
           clear H
           have hcz18_0 : w13.cell? ⟨gb215,0,none⟩ = some (.int .i64 0):=(blk_cell BK215.out 0).trans rfl
           have hcz18_1 : w13.cell? ⟨gb215,1,none⟩ = some (.string (⟨#[]⟩ : ByteArray)):=(blk_cell BK215.out 1).trans rfl
           have hcz18_2 : w13.cell? ⟨gb215,2,none⟩ = some (.int .i64 0):=(blk_cell BK215.out 2).trans rfl
           have hcz18_3 : w13.cell? ⟨gb215,3,none⟩ = some (.int .i64 0):=(blk_cell BK215.out 3).trans rfl
           have hfz18_0:=blk_frozen BK215.out 0
           have hfz18_1:=blk_frozen BK215.out 1
           have hfz18_2:=blk_frozen BK215.out 2
           have hfz18_3:=blk_frozen BK215.out 3
           go_wp2
           repeat (go_quiet (fail);try go_wp2)
           go_meet
           case rel=>exact ⟨_,(true),(by first|rfl|(simp;done)|(simp [*];done)),H',⟨by have:=HK1.out;first|omega|exact Nat.le_refl _⟩,⟨by (with_reducible repeat (first|apply Kd.R_alloc|apply Kd.R_drewN|apply Kd.R_drew));exact Kd.R_mono (Kd.R_far (p:=⟨gb215,3,none⟩) (Kd.R_far (p:=⟨gb215,2,none⟩) (Kd.R_far (p:=⟨gb215,1,none⟩) (Kd.R_far (p:=⟨gb215,0,none⟩) (Kd.R_mono HO_3.out (fun k_ hk=>(⟨hk,hk.2⟩ : _ ∧ k_ ≠ gb215))) (fun _ hk=>hk.2) (.int .i64 ((rd_T69 t208 x32_1).f0))) (fun _ hk=>hk.2) (.string ((rd_T69 t208 x32_1).f1))) (fun _ hk=>hk.2) (.int .i64 ((rd_T69 t208 x32_1).f2))) (fun _ hk=>hk.2) (.int .i64 ((rd_T69 t208 x32_1).f3))) (fun _ hk=>hk.1.2)⟩,⟨by (with_reducible repeat (first|apply Kd.R_alloc|apply Kd.R_drewN|apply Kd.R_drew));exact Kd.R_mono (Kd.R_far (p:=⟨gb215,3,none⟩) (Kd.R_far (p:=⟨gb215,2,none⟩) (Kd.R_far (p:=⟨gb215,1,none⟩) (Kd.R_far (p:=⟨gb215,0,none⟩) (Kd.R_mono HO_30.out (fun k_ hk=>(⟨hk,hk.2⟩ : _ ∧ k_ ≠ gb215))) (fun _ hk=>hk.2) (.int .i64 ((rd_T69 t208 x32_1).f0))) (fun _ hk=>hk.2) (.string ((rd_T69 t208 x32_1).f1))) (fun _ hk=>hk.2) (.int .i64 ((rd_T69 t208 x32_1).f2))) (fun _ hk=>hk.2) (.int .i64 ((rd_T69 t208 x32_1).f3))) (fun _ hk=>hk.1.2)⟩,⟨by (with_reducible repeat (first|apply blk_drewN|apply blk_drew|apply blk_alloc));refine blk_put (cs:=#[.int .i64 ((rd_T69 t208 x32_1).f0),.string ((rd_T69 t208 x32_1).f1),.int .i64 ((rd_T69 t208 x32_1).f2),.int .i64 0]) ?_ 3 _ rfl;(with_reducible repeat (first|apply blk_drewN|apply blk_drew|apply blk_alloc));refine blk_put (cs:=#[.int .i64 ((rd_T69 t208 x32_1).f0),.string ((rd_T69 t208 x32_1).f1),.int .i64 0,.int .i64 0]) ?_ 2 _ rfl;(with_reducible repeat (first|apply blk_drewN|apply blk_drew|apply blk_alloc));refine blk_put (cs:=#[.int .i64 ((rd_T69 t208 x32_1).f0),.string (⟨#[]⟩ : ByteArray),.int .i64 0,.int .i64 0]) ?_ 1 _ rfl;(with_reducible repeat (first|apply blk_drewN|apply blk_drew|apply blk_alloc));refine blk_put (cs:=#[.int .i64 0,.string (⟨#[]⟩ : ByteArray),.int .i64 0,.int .i64 0]) ?_ 0 _ rfl;(with_reducible repeat (first|apply blk_drewN|apply blk_drew|apply blk_alloc));exact BK215.out⟩,⟨by repeat (first|(with_reducible first|exact HB.out|apply below_alloc|apply pw_below_drewN|apply below_drew1|refine below_set ?_ GE215.out)|exact HB.out)⟩⟩
          ·rw [if_neg c17] at H
           have c17b0 : decide (11 < ((rd_T69 t208 x32_1).f0)) = false:=decide_eq_false c17
           clear c17
           by_cases c19 : ((rd_T69 t208 x32_1).f3) < 0
           ·rw [if_pos c19] at H
            have c19b0 : decide (((rd_T69 t208 x32_1).f3) < 0) = true:=decide_eq_true c19
            clear c19
            have H':=Aside0.mk H
            clear H
            have hcz20_0 : w13.cell? ⟨gb215,0,none⟩ = some (.int .i64 0):=(blk_cell BK215.out 0).trans rfl
            have hcz20_1 : w13.cell? ⟨gb215,1,none⟩ = some (.string (⟨#[]⟩ : ByteArray)):=(blk_cell BK215.out 1).trans rfl
            have hcz20_2 : w13.cell? ⟨gb215,2,none⟩ = some (.int .i64 0):=(blk_cell BK215.out 2).trans rfl
            have hcz20_3 : w13.cell? ⟨gb215,3,none⟩ = some (.int .i64 0):=(blk_cell BK215.out 3).trans rfl
            have hfz20_0:=blk_frozen BK215.out 0
            have hfz20_1:=blk_frozen BK215.out 1
            have hfz20_2:=blk_frozen BK215.out 2
            have hfz20_3:=blk_frozen BK215.out 3
            go_wp2
            repeat (go_quiet (fail);try go_wp2)
            go_meet
            case rel=>exact ⟨_,(true),(by first|rfl|(simp;done)|(simp [*];done)),H',⟨by have:=HK1.out;first|omega|exact Nat.le_refl _⟩,⟨by (with_reducible repeat (first|apply Kd.R_alloc|apply Kd.R_drewN|apply Kd.R_drew));exact Kd.R_mono (Kd.R_far (p:=⟨gb215,3,none⟩) (Kd.R_far (p:=⟨gb215,2,none⟩) (Kd.R_far (p:=⟨gb215,1,none⟩) (Kd.R_far (p:=⟨gb215,0,none⟩) (Kd.R_mono HO_3.out (fun k_ hk=>(⟨hk,hk.2⟩ : _ ∧ k_ ≠ gb215))) (fun _ hk=>hk.2) (.int .i64 ((rd_T69 t208 x32_1).f0))) (fun _ hk=>hk.2) (.string ((rd_T69 t208 x32_1).f1))) (fun _ hk=>hk.2) (.int .i64 ((rd_T69 t208 x32_1).f2))) (fun _ hk=>hk.2) (.int .i64 ((rd_T69 t208 x32_1).f3))) (fun _ hk=>hk.1.2)⟩,⟨by (with_reducible repeat (first|apply Kd.R_alloc|apply Kd.R_drewN|apply Kd.R_drew));exact Kd.R_mono (Kd.R_far (p:=⟨gb215,3,none⟩) (Kd.R_far (p:=⟨gb215,2,none⟩) (Kd.R_far (p:=⟨gb215,1,none⟩) (Kd.R_far (p:=⟨gb215,0,none⟩) (Kd.R_mono HO_30.out (fun k_ hk=>(⟨hk,hk.2⟩ : _ ∧ k_ ≠ gb215))) (fun _ hk=>hk.2) (.int .i64 ((rd_T69 t208 x32_1).f0))) (fun _ hk=>hk.2) (.string ((rd_T69 t208 x32_1).f1))) (fun _ hk=>hk.2) (.int .i64 ((rd_T69 t208 x32_1).f2))) (fun _ hk=>hk.2) (.int .i64 ((rd_T69 t208 x32_1).f3))) (fun _ hk=>hk.1.2)⟩,⟨by (with_reducible repeat (first|apply blk_drewN|apply blk_drew|apply blk_alloc));refine blk_put (cs:=#[.int .i64 ((rd_T69 t208 x32_1).f0),.string ((rd_T69 t208 x32_1).f1),.int .i64 ((rd_T69 t208 x32_1).f2),.int .i64 0]) ?_ 3 _ rfl;(with_reducible repeat (first|apply blk_drewN|apply blk_drew|apply blk_alloc));refine blk_put (cs:=#[.int .i64 ((rd_T69 t208 x32_1).f0),.string ((rd_T69 t208 x32_1).f1),.int .i64 0,.int .i64 0]) ?_ 2 _ rfl;(with_reducible repeat (first|apply blk_drewN|apply blk_drew|apply blk_alloc));refine blk_put (cs:=#[.int .i64 ((rd_T69 t208 x32_1).f0),.string (⟨#[]⟩ : ByteArray),.int .i64 0,.int .i64 0]) ?_ 1 _ rfl;(with_reducible repeat (first|apply blk_drewN|apply blk_drew|apply blk_alloc));refine blk_put (cs:=#[.int .i64 0,.string (⟨#[]⟩ : ByteArray),.int .i64 0,.int .i64 0]) ?_ 0 _ rfl;(with_reducible repeat (first|apply blk_drewN|apply blk_drew|apply blk_alloc));exact BK215.out⟩,⟨by repeat (first|(with_reducible first|exact HB.out|apply below_alloc|apply pw_below_drewN|apply below_drew1|refine below_set ?_ GE215.out)|exact HB.out)⟩⟩
           ·rw [if_neg c19] at H
            have c19b0 : decide (((rd_T69 t208 x32_1).f3) < 0) = false:=decide_eq_false c19
            clear c19
            by_cases c21 : ((rd_T69 t208 x32_1).f3) > (a0.size : Int)
            ·rw [if_pos c21] at H
             have c21b0 : decide ((a0.size : Int) < ((rd_T69 t208 x32_1).f3)) = true:=decide_eq_true c21
             clear c21
             have H':=Aside0.mk H
             clear H
             have hcz22_0 : w13.cell? ⟨gb215,0,none⟩ = some (.int .i64 0):=(blk_cell BK215.out 0).trans rfl
             have hcz22_1 : w13.cell? ⟨gb215,1,none⟩ = some (.string (⟨#[]⟩ : ByteArray)):=(blk_cell BK215.out 1).trans rfl
             have hcz22_2 : w13.cell? ⟨gb215,2,none⟩ = some (.int .i64 0):=(blk_cell BK215.out 2).trans rfl
             have hcz22_3 : w13.cell? ⟨gb215,3,none⟩ = some (.int .i64 0):=(blk_cell BK215.out 3).trans rfl
             have hfz22_0:=blk_frozen BK215.out 0
             have hfz22_1:=blk_frozen BK215.out 1
             have hfz22_2:=blk_frozen BK215.out 2
             have hfz22_3:=blk_frozen BK215.out 3
             go_wp2
             repeat (go_quiet (fail);try go_wp2)
             go_meet
             case rel=>exact ⟨_,(true),(by first|rfl|(simp;done)|(simp [*];done)),H',⟨by have:=HK1.out;first|omega|exact Nat.le_refl _⟩,⟨by (with_reducible repeat (first|apply Kd.R_alloc|apply Kd.R_drewN|apply Kd.R_drew));exact Kd.R_mono (Kd.R_far (p:=⟨gb215,3,none⟩) (Kd.R_far (p:=⟨gb215,2,none⟩) (Kd.R_far (p:=⟨gb215,1,none⟩) (Kd.R_far (p:=⟨gb215,0,none⟩) (Kd.R_mono HO_3.out (fun k_ hk=>(⟨hk,hk.2⟩ : _ ∧ k_ ≠ gb215))) (fun _ hk=>hk.2) (.int .i64 ((rd_T69 t208 x32_1).f0))) (fun _ hk=>hk.2) (.string ((rd_T69 t208 x32_1).f1))) (fun _ hk=>hk.2) (.int .i64 ((rd_T69 t208 x32_1).f2))) (fun _ hk=>hk.2) (.int .i64 ((rd_T69 t208 x32_1).f3))) (fun _ hk=>hk.1.2)⟩,⟨by (with_reducible repeat (first|apply Kd.R_alloc|apply Kd.R_drewN|apply Kd.R_drew));exact Kd.R_mono (Kd.R_far (p:=⟨gb215,3,none⟩) (Kd.R_far (p:=⟨gb215,2,none⟩) (Kd.R_far (p:=⟨gb215,1,none⟩) (Kd.R_far (p:=⟨gb215,0,none⟩) (Kd.R_mono HO_30.out (fun k_ hk=>(⟨hk,hk.2⟩ : _ ∧ k_ ≠ gb215))) (fun _ hk=>hk.2) (.int .i64 ((rd_T69 t208 x32_1).f0))) (fun _ hk=>hk.2) (.string ((rd_T69 t208 x32_1).f1))) (fun _ hk=>hk.2) (.int .i64 ((rd_T69 t208 x32_1).f2))) (fun _ hk=>hk.2) (.int .i64 ((rd_T69 t208 x32_1).f3))) (fun _ hk=>hk.1.2)⟩,⟨by (with_reducible repeat (first|apply blk_drewN|apply blk_drew|apply blk_alloc));refine blk_put (cs:=#[.int .i64 ((rd_T69 t208 x32_1).f0),.string ((rd_T69 t208 x32_1).f1),.int .i64 ((rd_T69 t208 x32_1).f2),.int .i64 0]) ?_ 3 _ rfl;(with_reducible repeat (first|apply blk_drewN|apply blk_drew|apply blk_alloc));refine blk_put (cs:=#[.int .i64 ((rd_T69 t208 x32_1).f0),.string ((rd_T69 t208 x32_1).f1),.int .i64 0,.int .i64 0]) ?_ 2 _ rfl;(with_reducible repeat (first|apply blk_drewN|apply blk_drew|apply blk_alloc));refine blk_put (cs:=#[.int .i64 ((rd_T69 t208 x32_1).f0),.string (⟨#[]⟩ : ByteArray),.int .i64 0,.int .i64 0]) ?_ 1 _ rfl;(with_reducible repeat (first|apply blk_drewN|apply blk_drew|apply blk_alloc));refine blk_put (cs:=#[.int .i64 0,.string (⟨#[]⟩ : ByteArray),.int .i64 0,.int .i64 0]) ?_ 0 _ rfl;(with_reducible repeat (first|apply blk_drewN|apply blk_drew|apply blk_alloc));exact BK215.out⟩,⟨by repeat (first|(with_reducible first|exact HB.out|apply below_alloc|apply pw_below_drewN|apply below_drew1|refine below_set ?_ GE215.out)|exact HB.out)⟩⟩
            ·rw [if_neg c21] at H
             have c21b0 : decide ((a0.size : Int) < ((rd_T69 t208 x32_1).f3)) = false:=decide_eq_false c21
             clear c21
             by_cases c23 : x32_1 > 0
             ·rw [if_pos c23] at H
              have c23b0 : decide (0 < x32_1) = true:=decide_eq_true c23
              clear c23
              obtain ⟨ji24,hji24⟩ : ∃ j_ : Int,(wrap64 (x32_1 - 1)) = j_:=⟨_,rfl⟩
              replace H : (if 0 ≤ (ji24) then (if (ji24) < (t208.length : Int) then (bosunlaw07_JlexAgain.j1 k1 a0 t208 x6_1 t208 (t208.length : Int) x32_1 (decide (((rd_T69 t208 x32_1).f3) ≤ ((rd_T69 t208 (ji24)).f3))) ((rd_T69 t208 x32_1).f0) ((rd_T69 t208 x32_1).f1) ((rd_T69 t208 x32_1).f2) ((rd_T69 t208 x32_1).f3)) else (none)) else (none)) = some r:=by first|(rw [hji24] at H;exact H)|(simp only [hji24] at H ⊢;exact H)
              have hji24w : (IntKind.i64.wrap (x32_1 - 1)) = ji24:=(i64_w _).trans hji24
              by_cases c25 : 0 ≤ (ji24)
              ·rw [if_pos c25] at H
               have c25b0 : decide (0 ≤ (ji24)) = true:=decide_eq_true c25
               clear c25
               by_cases c26 : (ji24) < (t208.length : Int)
               ·rw [if_pos c26] at H
                have c26b0 : decide ((ji24) < (t208.length : Int)) = true:=decide_eq_true c26
                clear c26
                have H':=Aside0.mk H
                clear H
                have hcz27_0 : w13.cell? ⟨gb215,0,none⟩ = some (.int .i64 0):=(blk_cell BK215.out 0).trans rfl
                have hcz27_1 : w13.cell? ⟨gb215,1,none⟩ = some (.string (⟨#[]⟩ : ByteArray)):=(blk_cell BK215.out 1).trans rfl
                have hcz27_2 : w13.cell? ⟨gb215,2,none⟩ = some (.int .i64 0):=(blk_cell BK215.out 2).trans rfl
                have hcz27_3 : w13.cell? ⟨gb215,3,none⟩ = some (.int .i64 0):=(blk_cell BK215.out 3).trans rfl
                have hfz27_0:=blk_frozen BK215.out 0
                have hfz27_1:=blk_frozen BK215.out 1
                have hfz27_2:=blk_frozen BK215.out 2
                have hfz27_3:=blk_frozen BK215.out 3
                have p216 : 0 ≤ ((ji24) : Int):=of_decide_eq_true (by first|(with_reducible assumption)|assumption)
                have q216 : (ji24) < (t208.length : Int):=of_decide_eq_true (by first|(with_reducible assumption)|assumption)
                obtain ⟨ad216,e216,hx216_0,hx216_1,hx216_2,hx216_3⟩:=at_T69 (Kd.R_reads' HO_3.out).2.2 (ji24) p216 q216
                obtain rfl : ad214 = ad216:=(by injection e216)
                have hn216_0 : ad214.block ≠ gb215:=Kd.own_blk (fun e_=>(HO_3.out.1 gb215 e_.symm).2 rfl)
                have hn216_1 : ad214.block ≠ gb215:=Kd.own_blk (fun e_=>(HO_3.out.1 gb215 e_.symm).2 rfl)
                have hn216_2 : ad214.block ≠ gb215:=Kd.own_blk (fun e_=>(HO_3.out.1 gb215 e_.symm).2 rfl)
                have hn216_3 : ad214.block ≠ gb215:=Kd.own_blk (fun e_=>(HO_3.out.1 gb215 e_.symm).2 rfl)
                replace hx216_0:=(cell_far (p:=⟨gb215,0,none⟩) (by first|(rw [add_block];exact hn216_0)|(show (Addr.add _ _).block ≠ _;rw [add_block];exact hn216_0)|exact hn216_0) (.int .i64 ((rd_T69 t208 x32_1).f0))).trans hx216_0
                replace hx216_1:=(cell_far (p:=⟨gb215,0,none⟩) (by first|(rw [add_block];exact hn216_0)|(show (Addr.add _ _).block ≠ _;rw [add_block];exact hn216_0)|exact hn216_0) (.int .i64 ((rd_T69 t208 x32_1).f0))).trans hx216_1
                replace hx216_2:=(cell_far (p:=⟨gb215,0,none⟩) (by first|(rw [add_block];exact hn216_0)|(show (Addr.add _ _).block ≠ _;rw [add_block];exact hn216_0)|exact hn216_0) (.int .i64 ((rd_T69 t208 x32_1).f0))).trans hx216_2
                replace hx216_3:=(cell_far (p:=⟨gb215,0,none⟩) (by first|(rw [add_block];exact hn216_0)|(show (Addr.add _ _).block ≠ _;rw [add_block];exact hn216_0)|exact hn216_0) (.int .i64 ((rd_T69 t208 x32_1).f0))).trans hx216_3
                replace hx216_0:=(cell_far (p:=⟨gb215,1,none⟩) (by first|(rw [add_block];exact hn216_1)|(show (Addr.add _ _).block ≠ _;rw [add_block];exact hn216_1)|exact hn216_1) (.string ((rd_T69 t208 x32_1).f1))).trans hx216_0
                replace hx216_1:=(cell_far (p:=⟨gb215,1,none⟩) (by first|(rw [add_block];exact hn216_1)|(show (Addr.add _ _).block ≠ _;rw [add_block];exact hn216_1)|exact hn216_1) (.string ((rd_T69 t208 x32_1).f1))).trans hx216_1
                replace hx216_2:=(cell_far (p:=⟨gb215,1,none⟩) (by first|(rw [add_block];exact hn216_1)|(show (Addr.add _ _).block ≠ _;rw [add_block];exact hn216_1)|exact hn216_1) (.string ((rd_T69 t208 x32_1).f1))).trans hx216_2
                replace hx216_3:=(cell_far (p:=⟨gb215,1,none⟩) (by first|(rw [add_block];exact hn216_1)|(show (Addr.add _ _).block ≠ _;rw [add_block];exact hn216_1)|exact hn216_1) (.string ((rd_T69 t208 x32_1).f1))).trans hx216_3
                replace hx216_0:=(cell_far (p:=⟨gb215,2,none⟩) (by first|(rw [add_block];exact hn216_2)|(show (Addr.add _ _).block ≠ _;rw [add_block];exact hn216_2)|exact hn216_2) (.int .i64 ((rd_T69 t208 x32_1).f2))).trans hx216_0
                replace hx216_1:=(cell_far (p:=⟨gb215,2,none⟩) (by first|(rw [add_block];exact hn216_2)|(show (Addr.add _ _).block ≠ _;rw [add_block];exact hn216_2)|exact hn216_2) (.int .i64 ((rd_T69 t208 x32_1).f2))).trans hx216_1
                replace hx216_2:=(cell_far (p:=⟨gb215,2,none⟩) (by first|(rw [add_block];exact hn216_2)|(show (Addr.add _ _).block ≠ _;rw [add_block];exact hn216_2)|exact hn216_2) (.int .i64 ((rd_T69 t208 x32_1).f2))).trans hx216_2
                replace hx216_3:=(cell_far (p:=⟨gb215,2,none⟩) (by first|(rw [add_block];exact hn216_2)|(show (Addr.add _ _).block ≠ _;rw [add_block];exact hn216_2)|exact hn216_2) (.int .i64 ((rd_T69 t208 x32_1).f2))).trans hx216_3
                replace hx216_0:=(cell_far (p:=⟨gb215,3,none⟩) (by first|(rw [add_block];exact hn216_3)|(show (Addr.add _ _).block ≠ _;rw [add_block];exact hn216_3)|exact hn216_3) (.int .i64 ((rd_T69 t208 x32_1).f3))).trans hx216_0
                replace hx216_1:=(cell_far (p:=⟨gb215,3,none⟩) (by first|(rw [add_block];exact hn216_3)|(show (Addr.add _ _).block ≠ _;rw [add_block];exact hn216_3)|exact hn216_3) (.int .i64 ((rd_T69 t208 x32_1).f3))).trans hx216_1
                replace hx216_2:=(cell_far (p:=⟨gb215,3,none⟩) (by first|(rw [add_block];exact hn216_3)|(show (Addr.add _ _).block ≠ _;rw [add_block];exact hn216_3)|exact hn216_3) (.int .i64 ((rd_T69 t208 x32_1).f3))).trans hx216_2
                replace hx216_3:=(cell_far (p:=⟨gb215,3,none⟩) (by first|(rw [add_block];exact hn216_3)|(show (Addr.add _ _).block ≠ _;rw [add_block];exact hn216_3)|exact hn216_3) (.int .i64 ((rd_T69 t208 x32_1).f3))).trans hx216_3
                (try have hy216_0:=fun (n_ : Nat)=>(show ((((((w13.drewN n_).setCell ⟨gb215,0,none⟩ (.int .i64 ((rd_T69 t208 x32_1).f0))).setCell ⟨gb215,1,none⟩ (.string ((rd_T69 t208 x32_1).f1))).setCell ⟨gb215,2,none⟩ (.int .i64 ((rd_T69 t208 x32_1).f2))).setCell ⟨gb215,3,none⟩ (.int .i64 ((rd_T69 t208 x32_1).f3)))).cell? _ = some _ from hx216_0))
                (try have hy216_1:=fun (n_ : Nat)=>(show ((((((w13.drewN n_).setCell ⟨gb215,0,none⟩ (.int .i64 ((rd_T69 t208 x32_1).f0))).setCell ⟨gb215,1,none⟩ (.string ((rd_T69 t208 x32_1).f1))).setCell ⟨gb215,2,none⟩ (.int .i64 ((rd_T69 t208 x32_1).f2))).setCell ⟨gb215,3,none⟩ (.int .i64 ((rd_T69 t208 x32_1).f3)))).cell? _ = some _ from hx216_1))
                (try have hy216_2:=fun (n_ : Nat)=>(show ((((((w13.drewN n_).setCell ⟨gb215,0,none⟩ (.int .i64 ((rd_T69 t208 x32_1).f0))).setCell ⟨gb215,1,none⟩ (.string ((rd_T69 t208 x32_1).f1))).setCell ⟨gb215,2,none⟩ (.int .i64 ((rd_T69 t208 x32_1).f2))).setCell ⟨gb215,3,none⟩ (.int .i64 ((rd_T69 t208 x32_1).f3)))).cell? _ = some _ from hx216_2))
                (try have hy216_3:=fun (n_ : Nat)=>(show ((((((w13.drewN n_).setCell ⟨gb215,0,none⟩ (.int .i64 ((rd_T69 t208 x32_1).f0))).setCell ⟨gb215,1,none⟩ (.string ((rd_T69 t208 x32_1).f1))).setCell ⟨gb215,2,none⟩ (.int .i64 ((rd_T69 t208 x32_1).f2))).setCell ⟨gb215,3,none⟩ (.int .i64 ((rd_T69 t208 x32_1).f3)))).cell? _ = some _ from hx216_3))
                clear hn216_0
                clear hn216_1
                clear hn216_2
                clear hn216_3
                replace p216:=eq_true p216
                replace q216:=eq_true q216
                go_wp2
                repeat (go_quiet (fail);try go_wp2)
                go_meet
                case rel=>exact ⟨_,(decide (((rd_T69 t208 x32_1).f3) ≤ ((rd_T69 t208 (ji24)).f3))),(by first|rfl|(simp;done)|(simp only [← hji24] <;> (first|rfl|simp))|(simp [*];done)),H',⟨by have:=HK1.out;first|omega|exact Nat.le_refl _⟩,⟨by (with_reducible repeat (first|apply Kd.R_alloc|apply Kd.R_drewN|apply Kd.R_drew));exact Kd.R_mono (Kd.R_far (p:=⟨gb215,3,none⟩) (Kd.R_far (p:=⟨gb215,2,none⟩) (Kd.R_far (p:=⟨gb215,1,none⟩) (Kd.R_far (p:=⟨gb215,0,none⟩) (Kd.R_mono HO_3.out (fun k_ hk=>(⟨hk,hk.2⟩ : _ ∧ k_ ≠ gb215))) (fun _ hk=>hk.2) (.int .i64 ((rd_T69 t208 x32_1).f0))) (fun _ hk=>hk.2) (.string ((rd_T69 t208 x32_1).f1))) (fun _ hk=>hk.2) (.int .i64 ((rd_T69 t208 x32_1).f2))) (fun _ hk=>hk.2) (.int .i64 ((rd_T69 t208 x32_1).f3))) (fun _ hk=>hk.1.2)⟩,⟨by (with_reducible repeat (first|apply Kd.R_alloc|apply Kd.R_drewN|apply Kd.R_drew));exact Kd.R_mono (Kd.R_far (p:=⟨gb215,3,none⟩) (Kd.R_far (p:=⟨gb215,2,none⟩) (Kd.R_far (p:=⟨gb215,1,none⟩) (Kd.R_far (p:=⟨gb215,0,none⟩) (Kd.R_mono HO_30.out (fun k_ hk=>(⟨hk,hk.2⟩ : _ ∧ k_ ≠ gb215))) (fun _ hk=>hk.2) (.int .i64 ((rd_T69 t208 x32_1).f0))) (fun _ hk=>hk.2) (.string ((rd_T69 t208 x32_1).f1))) (fun _ hk=>hk.2) (.int .i64 ((rd_T69 t208 x32_1).f2))) (fun _ hk=>hk.2) (.int .i64 ((rd_T69 t208 x32_1).f3))) (fun _ hk=>hk.1.2)⟩,⟨by (with_reducible repeat (first|apply blk_drewN|apply blk_drew|apply blk_alloc));refine blk_put (cs:=#[.int .i64 ((rd_T69 t208 x32_1).f0),.string ((rd_T69 t208 x32_1).f1),.int .i64 ((rd_T69 t208 x32_1).f2),.int .i64 0]) ?_ 3 _ rfl;(with_reducible repeat (first|apply blk_drewN|apply blk_drew|apply blk_alloc));refine blk_put (cs:=#[.int .i64 ((rd_T69 t208 x32_1).f0),.string ((rd_T69 t208 x32_1).f1),.int .i64 0,.int .i64 0]) ?_ 2 _ rfl;(with_reducible repeat (first|apply blk_drewN|apply blk_drew|apply blk_alloc));refine blk_put (cs:=#[.int .i64 ((rd_T69 t208 x32_1).f0),.string (⟨#[]⟩ : ByteArray),.int .i64 0,.int .i64 0]) ?_ 1 _ rfl;(with_reducible repeat (first|apply blk_drewN|apply blk_drew|apply blk_alloc));refine blk_put (cs:=#[.int .i64 0,.string (⟨#[]⟩ : ByteArray),.int .i64 0,.int .i64 0]) ?_ 0 _ rfl;(with_reducible repeat (first|apply blk_drewN|apply blk_drew|apply blk_alloc));exact BK215.out⟩,⟨by repeat (first|(with_reducible first|exact HB.out|apply below_alloc|apply pw_below_drewN|apply below_drew1|refine below_set ?_ GE215.out)|exact HB.out)⟩⟩
               ·rw [if_neg c26] at H
                exact absurd H (by simp)
              ·rw [if_neg c25] at H
               exact absurd H (by simp)
             ·rw [if_neg c23] at H
              have c23b0 : decide (0 < x32_1) = false:=decide_eq_false c23
              clear c23
              have H':=Aside0.mk H
              clear H
              have hcz28_0 : w13.cell? ⟨gb215,0,none⟩ = some (.int .i64 0):=(blk_cell BK215.out 0).trans rfl
              have hcz28_1 : w13.cell? ⟨gb215,1,none⟩ = some (.string (⟨#[]⟩ : ByteArray)):=(blk_cell BK215.out 1).trans rfl
              have hcz28_2 : w13.cell? ⟨gb215,2,none⟩ = some (.int .i64 0):=(blk_cell BK215.out 2).trans rfl
              have hcz28_3 : w13.cell? ⟨gb215,3,none⟩ = some (.int .i64 0):=(blk_cell BK215.out 3).trans rfl
              have hfz28_0:=blk_frozen BK215.out 0
              have hfz28_1:=blk_frozen BK215.out 1
              have hfz28_2:=blk_frozen BK215.out 2
              have hfz28_3:=blk_frozen BK215.out 3
              go_wp2
              repeat (go_quiet (fail);try go_wp2)
              go_meet
              case rel=>exact ⟨_,(false),(by first|rfl|(simp;done)|(simp [*];done)),H',⟨by have:=HK1.out;first|omega|exact Nat.le_refl _⟩,⟨by (with_reducible repeat (first|apply Kd.R_alloc|apply Kd.R_drewN|apply Kd.R_drew));exact Kd.R_mono (Kd.R_far (p:=⟨gb215,3,none⟩) (Kd.R_far (p:=⟨gb215,2,none⟩) (Kd.R_far (p:=⟨gb215,1,none⟩) (Kd.R_far (p:=⟨gb215,0,none⟩) (Kd.R_mono HO_3.out (fun k_ hk=>(⟨hk,hk.2⟩ : _ ∧ k_ ≠ gb215))) (fun _ hk=>hk.2) (.int .i64 ((rd_T69 t208 x32_1).f0))) (fun _ hk=>hk.2) (.string ((rd_T69 t208 x32_1).f1))) (fun _ hk=>hk.2) (.int .i64 ((rd_T69 t208 x32_1).f2))) (fun _ hk=>hk.2) (.int .i64 ((rd_T69 t208 x32_1).f3))) (fun _ hk=>hk.1.2)⟩,⟨by (with_reducible repeat (first|apply Kd.R_alloc|apply Kd.R_drewN|apply Kd.R_drew));exact Kd.R_mono (Kd.R_far (p:=⟨gb215,3,none⟩) (Kd.R_far (p:=⟨gb215,2,none⟩) (Kd.R_far (p:=⟨gb215,1,none⟩) (Kd.R_far (p:=⟨gb215,0,none⟩) (Kd.R_mono HO_30.out (fun k_ hk=>(⟨hk,hk.2⟩ : _ ∧ k_ ≠ gb215))) (fun _ hk=>hk.2) (.int .i64 ((rd_T69 t208 x32_1).f0))) (fun _ hk=>hk.2) (.string ((rd_T69 t208 x32_1).f1))) (fun _ hk=>hk.2) (.int .i64 ((rd_T69 t208 x32_1).f2))) (fun _ hk=>hk.2) (.int .i64 ((rd_T69 t208 x32_1).f3))) (fun _ hk=>hk.1.2)⟩,⟨by (with_reducible repeat (first|apply blk_drewN|apply blk_drew|apply blk_alloc));refine blk_put (cs:=#[.int .i64 ((rd_T69 t208 x32_1).f0),.string ((rd_T69 t208 x32_1).f1),.int .i64 ((rd_T69 t208 x32_1).f2),.int .i64 0]) ?_ 3 _ rfl;(with_reducible repeat (first|apply blk_drewN|apply blk_drew|apply blk_alloc));refine blk_put (cs:=#[.int .i64 ((rd_T69 t208 x32_1).f0),.string ((rd_T69 t208 x32_1).f1),.int .i64 0,.int .i64 0]) ?_ 2 _ rfl;(with_reducible repeat (first|apply blk_drewN|apply blk_drew|apply blk_alloc));refine blk_put (cs:=#[.int .i64 ((rd_T69 t208 x32_1).f0),.string (⟨#[]⟩ : ByteArray),.int .i64 0,.int .i64 0]) ?_ 1 _ rfl;(with_reducible repeat (first|apply blk_drewN|apply blk_drew|apply blk_alloc));refine blk_put (cs:=#[.int .i64 0,.string (⟨#[]⟩ : ByteArray),.int .i64 0,.int .i64 0]) ?_ 0 _ rfl;(with_reducible repeat (first|apply blk_drewN|apply blk_drew|apply blk_alloc));exact BK215.out⟩,⟨by repeat (first|(with_reducible first|exact HB.out|apply below_alloc|apply pw_below_drewN|apply below_drew1|refine below_set ?_ GE215.out)|exact HB.out)⟩⟩
        case rest =>
         clear HC12
         try clear c1
         try clear c2
         try clear c2b0
         try clear c2b1
         try clear p2
         try clear q2
         try clear hx2
         try clear c6
         try clear c6b0
         try clear c6b1
         try clear p6
         try clear c7
         try clear c9
         try clear c9b0
         try clear c10
         try clear c10b0
         try clear c11
         try clear c11b0
         try clear c15
         try clear c15b0
         try clear c17
         try clear c17b0
         try clear c19
         try clear c19b0
         try clear c21
         try clear c21b0
         try clear p21
         try clear q21
         try clear hx21
         try clear c23
         try clear c23b0
         try clear c25
         try clear c25b0
         try clear c26
         try clear c26b0
         try clear hcz14_0
         try clear hcz14_1
         try clear hcz14_2
         try clear hcz14_3
         try clear hcz16_0
         try clear hcz16_1
         try clear hcz16_2
         try clear hcz16_3
         try clear hcz18_0
         try clear hcz18_1
         try clear hcz18_2
         try clear hcz18_3
         try clear hcz20_0
         try clear hcz20_1
         try clear hcz20_2
         try clear hcz20_3
         try clear hcz22_0
         try clear hcz22_1
         try clear hcz22_2
         try clear hcz22_3
         try clear hcz27_0
         try clear hcz27_1
         try clear hcz27_2
         try clear hcz27_3
         try clear hcz28_0
         try clear hcz28_1
         try clear hcz28_2
         try clear hcz28_3
         try clear hfz14_0
         try clear hfz14_1
         try clear hfz14_2
         try clear hfz14_3
         try clear hfz16_0
         try clear hfz16_1
         try clear hfz16_2
         try clear hfz16_3
         try clear hfz18_0
         try clear hfz18_1
         try clear hfz18_2
         try clear hfz18_3
         try clear hfz20_0
         try clear hfz20_1
         try clear hfz20_2
         try clear hfz20_3
         try clear hfz22_0
         try clear hfz22_1
         try clear hfz22_2
         try clear hfz22_3
         try clear hfz27_0
         try clear hfz27_1
         try clear hfz27_2
         try clear hfz27_3
         try clear hfz28_0
         try clear hfz28_1
         try clear hfz28_2
         try clear hfz28_3
         try clear hx214_0
         try clear hx214_1
         try clear hx214_2
         try clear hx214_3
         try clear hx216_0
         try clear hx216_1
         try clear hx216_2
         try clear hx216_3
         try clear p2
         try clear p214
         try clear p216
         try clear q214
         try clear q216
         obtain ⟨kq,x71_11,rfl,HA,HJ11,HO_3,HO_30,BK215,HB⟩:=hcut
         cases kq with
         | zero=>exact absurd HA.out (by simp [bosunlaw07_JlexAgain.j1])
         | succ kj11 =>
          have H:=HA.out
          clear HA
          simp only [bosunlaw07_JlexAgain.j1] at H
          by_cases c29 : x71_11 = true
          ·subst c29
           have H1 : (some false) = some r:=by rw [if_pos rfl] at H;exact H
           clear H
           have H:=H1
           clear H1
           obtain rfl:=Option.some.inj H
           go_wp2
           repeat (go_quiet (fail);try go_wp2)
           go_ret
           exact ⟨by first|rfl|(simp [errW_none,errW_some] <;> rfl)|(simp [*,errW_none,errW_some] <;> rfl),by repeat (first|(with_reducible first|exact HB.out|apply below_alloc|apply pw_below_drewN|apply below_drew1|refine below_set ?_ GE215.out)|exact HB.out)⟩
          ·replace c29:=Bool.eq_false_iff.mpr c29
           subst c29
           have H1 : ((bosunlaw07_of.f ((rd_T69 t208 x32_1).f0) ((rd_T69 t208 x32_1).f1) ((rd_T69 t208 x32_1).f2) ((rd_T69 t208 x32_1).f3)).bind fun bt217=>((bosunlaw07_show.f kj11 bt217.1 bt217.2.1 bt217.2.2.1 bt217.2.2.2).bind fun t221=>(if t221.size + 1 ≤ 9223372036854775807 then (if x6_1.size + (t221 ++ (⟨#[32]⟩ : ByteArray)).size ≤ 9223372036854775807 then (bosunlaw07_JlexAgain.l0 kj11 a0 t208 (x6_1 ++ (t221 ++ (⟨#[32]⟩ : ByteArray))) t208 (t208.length : Int) (wrap64 (x32_1 + 1))) else (none)) else (none)))) = some r:=by rw [if_neg (show ¬ (false = true) by decide)] at H;exact H
           clear H
           have H:=H1
           clear H1
           replace H:=Option.bind_eq_some_iff.mp H
           obtain ⟨⟨t217,t218,t219,t220⟩,A300,H⟩:=H
           replace H : ((bosunlaw07_show.f kj11 t217 t218 t219 t220).bind fun t221=>(if t221.size + 1 ≤ 9223372036854775807 then (if x6_1.size + (t221 ++ (⟨#[32]⟩ : ByteArray)).size ≤ 9223372036854775807 then (bosunlaw07_JlexAgain.l0 kj11 a0 t208 (x6_1 ++ (t221 ++ (⟨#[32]⟩ : ByteArray))) t208 (t208.length : Int) (wrap64 (x32_1 + 1))) else (none)) else (none))) = some r:=H
           have A30:=Aside0.mk A300
           clear A300
           replace H:=Option.bind_eq_some_iff.mp H
           obtain ⟨t221,A310,H⟩:=H
           replace H : (if t221.size + 1 ≤ 9223372036854775807 then (if x6_1.size + (t221 ++ (⟨#[32]⟩ : ByteArray)).size ≤ 9223372036854775807 then (bosunlaw07_JlexAgain.l0 kj11 a0 t208 (x6_1 ++ (t221 ++ (⟨#[32]⟩ : ByteArray))) t208 (t208.length : Int) (wrap64 (x32_1 + 1))) else (none)) else (none)) = some r:=H
           have A31:=Aside0.mk A310
           clear A310
           by_cases c32 : t221.size + 1 ≤ 9223372036854775807
           ·rw [if_pos c32] at H
            have c32b0:=eq_true c32
            have c32b1 : decide (t221.size + 1 ≤ 9223372036854775807) = true:=decide_eq_true c32
            try have c32b2 : (9223372036854775807 < t221.size + 1) = False:=eq_false (Nat.not_lt.2 c32)
            by_cases c33 : x6_1.size + (t221 ++ (⟨#[32]⟩ : ByteArray)).size ≤ 9223372036854775807
            ·rw [if_pos c33] at H
             have c33b0:=eq_true c33
             have c33b1 : decide (x6_1.size + (t221 ++ (⟨#[32]⟩ : ByteArray)).size ≤ 9223372036854775807) = true:=decide_eq_true c33
             try have c33b2 : (9223372036854775807 < x6_1.size + (t221 ++ (⟨#[32]⟩ : ByteArray)).size) = False:=eq_false (Nat.not_lt.2 c33)
             have c33s:=c33
             try simp only [ByteArray.size_append] at c33s
             try have c33s0:=eq_false (Nat.not_lt.2 c33s)
             try have c33s1:=eq_true c33s
             have H':=Aside0.mk H
             clear H
             have hcz34_0 : wc.cell? ⟨gb215,0,none⟩ = some (.int .i64 ((rd_T69 t208 x32_1).f0)):=(blk_cell BK215.out 0).trans rfl
             have hcz34_1 : wc.cell? ⟨gb215,1,none⟩ = some (.string ((rd_T69 t208 x32_1).f1)):=(blk_cell BK215.out 1).trans rfl
             have hcz34_2 : wc.cell? ⟨gb215,2,none⟩ = some (.int .i64 ((rd_T69 t208 x32_1).f2)):=(blk_cell BK215.out 2).trans rfl
             have hcz34_3 : wc.cell? ⟨gb215,3,none⟩ = some (.int .i64 ((rd_T69 t208 x32_1).f3)):=(blk_cell BK215.out 3).trans rfl
             have hfz34_0:=blk_frozen BK215.out 0
             have hfz34_1:=blk_frozen BK215.out 1
             have hfz34_2:=blk_frozen BK215.out 2
             have hfz34_3:=blk_frozen BK215.out 3
             go_wp2_with (first|(go_at_call 30;(with_reducible refine (bosunlaw07_of.calls ((rd_T69 t208 x32_1).f0) ((rd_T69 t208 x32_1).f1) ((rd_T69 t208 x32_1).f2) ((rd_T69 t208 x32_1).f3) t217 t218 t219 t220 _ A30.out).mono ?_);rintro e w35 ⟨rfl,hb⟩;have n0_:=Aside0.mk (Kd.R_below (by (with_reducible repeat (first|apply Kd.R_alloc|apply Kd.R_drewN|apply Kd.R_drew));exact HO_3.out) hb);have n1_:=Aside0.mk (Kd.R_below (by (with_reducible repeat (first|apply Kd.R_alloc|apply Kd.R_drewN|apply Kd.R_drew));exact HO_30.out) hb);have n2_:=Aside0.mk (blk_below (g:=gb215) (o:=.cells #[.int .i64 ((rd_T69 t208 x32_1).f0),.string ((rd_T69 t208 x32_1).f1),.int .i64 ((rd_T69 t208 x32_1).f2),.int .i64 ((rd_T69 t208 x32_1).f3)] 69 (0,0)) (by (with_reducible repeat (first|apply blk_drewN|apply blk_drew|apply blk_alloc));exact BK215.out) hb);have n3_:=Aside0.mk (below_step (by repeat (first|(with_reducible first|exact HB.out|apply below_alloc|apply pw_below_drewN|apply below_drew1|refine below_set ?_ GE215.out)|exact HB.out)) hb);clear HO_3;clear HO_30;clear BK215;clear HB;have HO_3:=n0_;have HO_30:=n1_;have BK215:=n2_;have HB:=n3_;clear n0_ n1_ n2_ n3_;(try clear hb);(try clear hb2);(try clear hk);(try clear hi))|(go_at_call 29;(with_reducible refine (bosunlaw07_show.calls kj11 t217 t218 t219 t220 t221 _ A31.out).mono ?_);rintro e w36 ⟨rfl,hb⟩;have n0_:=Aside0.mk (Kd.R_below (by (with_reducible repeat (first|apply Kd.R_alloc|apply Kd.R_drewN|apply Kd.R_drew));exact HO_3.out) hb);have n1_:=Aside0.mk (Kd.R_below (by (with_reducible repeat (first|apply Kd.R_alloc|apply Kd.R_drewN|apply Kd.R_drew));exact HO_30.out) hb);have n2_:=Aside0.mk (blk_below (g:=gb215) (o:=.cells #[.int .i64 ((rd_T69 t208 x32_1).f0),.string ((rd_T69 t208 x32_1).f1),.int .i64 ((rd_T69 t208 x32_1).f2),.int .i64 ((rd_T69 t208 x32_1).f3)] 69 (0,0)) (by (with_reducible repeat (first|apply blk_drewN|apply blk_drew|apply blk_alloc));exact BK215.out) hb);have n3_:=Aside0.mk (below_step (by repeat (first|(with_reducible first|exact HB.out|apply below_alloc|apply pw_below_drewN|apply below_drew1|refine below_set ?_ GE215.out)|exact HB.out)) hb);clear HO_3;clear HO_30;clear BK215;clear HB;have HO_3:=n0_;have HO_30:=n1_;have BK215:=n2_;have HB:=n3_;clear n0_ n1_ n2_ n3_;(try clear hb);(try clear hb2);(try clear hk);(try clear hi)))
             repeat (go_quiet (first|(go_at_call 30;(with_reducible refine (bosunlaw07_of.calls ((rd_T69 t208 x32_1).f0) ((rd_T69 t208 x32_1).f1) ((rd_T69 t208 x32_1).f2) ((rd_T69 t208 x32_1).f3) t217 t218 t219 t220 _ A30.out).mono ?_);rintro e w35 ⟨rfl,hb⟩;have n0_:=Aside0.mk (Kd.R_below (by (with_reducible repeat (first|apply Kd.R_alloc|apply Kd.R_drewN|apply Kd.R_drew));exact HO_3.out) hb);have n1_:=Aside0.mk (Kd.R_below (by (with_reducible repeat (first|apply Kd.R_alloc|apply Kd.R_drewN|apply Kd.R_drew));exact HO_30.out) hb);have n2_:=Aside0.mk (blk_below (g:=gb215) (o:=.cells #[.int .i64 ((rd_T69 t208 x32_1).f0),.string ((rd_T69 t208 x32_1).f1),.int .i64 ((rd_T69 t208 x32_1).f2),.int .i64 ((rd_T69 t208 x32_1).f3)] 69 (0,0)) (by (with_reducible repeat (first|apply blk_drewN|apply blk_drew|apply blk_alloc));exact BK215.out) hb);have n3_:=Aside0.mk (below_step (by repeat (first|(with_reducible first|exact HB.out|apply below_alloc|apply pw_below_drewN|apply below_drew1|refine below_set ?_ GE215.out)|exact HB.out)) hb);clear HO_3;clear HO_30;clear BK215;clear HB;have HO_3:=n0_;have HO_30:=n1_;have BK215:=n2_;have HB:=n3_;clear n0_ n1_ n2_ n3_;(try clear hb);(try clear hb2);(try clear hk);(try clear hi))|(go_at_call 29;(with_reducible refine (bosunlaw07_show.calls kj11 t217 t218 t219 t220 t221 _ A31.out).mono ?_);rintro e w36 ⟨rfl,hb⟩;have n0_:=Aside0.mk (Kd.R_below (by (with_reducible repeat (first|apply Kd.R_alloc|apply Kd.R_drewN|apply Kd.R_drew));exact HO_3.out) hb);have n1_:=Aside0.mk (Kd.R_below (by (with_reducible repeat (first|apply Kd.R_alloc|apply Kd.R_drewN|apply Kd.R_drew));exact HO_30.out) hb);have n2_:=Aside0.mk (blk_below (g:=gb215) (o:=.cells #[.int .i64 ((rd_T69 t208 x32_1).f0),.string ((rd_T69 t208 x32_1).f1),.int .i64 ((rd_T69 t208 x32_1).f2),.int .i64 ((rd_T69 t208 x32_1).f3)] 69 (0,0)) (by (with_reducible repeat (first|apply blk_drewN|apply blk_drew|apply blk_alloc));exact BK215.out) hb);have n3_:=Aside0.mk (below_step (by repeat (first|(with_reducible first|exact HB.out|apply below_alloc|apply pw_below_drewN|apply below_drew1|refine below_set ?_ GE215.out)|exact HB.out)) hb);clear HO_3;clear HO_30;clear BK215;clear HB;have HO_3:=n0_;have HO_30:=n1_;have BK215:=n2_;have HB:=n3_;clear n0_ n1_ n2_ n3_;(try clear hb);(try clear hb2);(try clear hk);(try clear hi)));try go_wp2_with (first|(go_at_call 30;(with_reducible refine (bosunlaw07_of.calls ((rd_T69 t208 x32_1).f0) ((rd_T69 t208 x32_1).f1) ((rd_T69 t208 x32_1).f2) ((rd_T69 t208 x32_1).f3) t217 t218 t219 t220 _ A30.out).mono ?_);rintro e w35 ⟨rfl,hb⟩;have n0_:=Aside0.mk (Kd.R_below (by (with_reducible repeat (first|apply Kd.R_alloc|apply Kd.R_drewN|apply Kd.R_drew));exact HO_3.out) hb);have n1_:=Aside0.mk (Kd.R_below (by (with_reducible repeat (first|apply Kd.R_alloc|apply Kd.R_drewN|apply Kd.R_drew));exact HO_30.out) hb);have n2_:=Aside0.mk (blk_below (g:=gb215) (o:=.cells #[.int .i64 ((rd_T69 t208 x32_1).f0),.string ((rd_T69 t208 x32_1).f1),.int .i64 ((rd_T69 t208 x32_1).f2),.int .i64 ((rd_T69 t208 x32_1).f3)] 69 (0,0)) (by (with_reducible repeat (first|apply blk_drewN|apply blk_drew|apply blk_alloc));exact BK215.out) hb);have n3_:=Aside0.mk (below_step (by repeat (first|(with_reducible first|exact HB.out|apply below_alloc|apply pw_below_drewN|apply below_drew1|refine below_set ?_ GE215.out)|exact HB.out)) hb);clear HO_3;clear HO_30;clear BK215;clear HB;have HO_3:=n0_;have HO_30:=n1_;have BK215:=n2_;have HB:=n3_;clear n0_ n1_ n2_ n3_;(try clear hb);(try clear hb2);(try clear hk);(try clear hi))|(go_at_call 29;(with_reducible refine (bosunlaw07_show.calls kj11 t217 t218 t219 t220 t221 _ A31.out).mono ?_);rintro e w36 ⟨rfl,hb⟩;have n0_:=Aside0.mk (Kd.R_below (by (with_reducible repeat (first|apply Kd.R_alloc|apply Kd.R_drewN|apply Kd.R_drew));exact HO_3.out) hb);have n1_:=Aside0.mk (Kd.R_below (by (with_reducible repeat (first|apply Kd.R_alloc|apply Kd.R_drewN|apply Kd.R_drew));exact HO_30.out) hb);have n2_:=Aside0.mk (blk_below (g:=gb215) (o:=.cells #[.int .i64 ((rd_T69 t208 x32_1).f0),.string ((rd_T69 t208 x32_1).f1),.int .i64 ((rd_T69 t208 x32_1).f2),.int .i64 ((rd_T69 t208 x32_1).f3)] 69 (0,0)) (by (with_reducible repeat (first|apply blk_drewN|apply blk_drew|apply blk_alloc));exact BK215.out) hb);have n3_:=Aside0.mk (below_step (by repeat (first|(with_reducible first|exact HB.out|apply below_alloc|apply pw_below_drewN|apply below_drew1|refine below_set ?_ GE215.out)|exact HB.out)) hb);clear HO_3;clear HO_30;clear BK215;clear HB;have HO_3:=n0_;have HO_30:=n1_;have BK215:=n2_;have HB:=n3_;clear n0_ n1_ n2_ n3_;(try clear hb);(try clear hb2);(try clear hk);(try clear hi))))
             go_roundg kj11
             case measure=>have:=HK1.out;have:=HJ11.out;omega
             case rel=>exact ⟨(x6_1 ++ (t221 ++ (⟨#[32]⟩ : ByteArray))),(wrap64 (x32_1 + 1)),(by first|rfl|(simp;done)|(simp [*];done)),(by first|rfl|(simp;done)|(simp [*];done)),H',⟨by have:=HK1.out;have:=HJ11.out;omega⟩,⟨by (with_reducible repeat (first|apply Kd.R_alloc|apply Kd.R_drewN|apply Kd.R_drew));exact Kd.R_mono HO_3.out (fun _ hk=>trivial)⟩,⟨by (with_reducible repeat (first|apply Kd.R_alloc|apply Kd.R_drewN|apply Kd.R_drew));exact Kd.R_mono HO_30.out (fun _ hk=>trivial)⟩,⟨by repeat (first|(with_reducible first|exact HB.out|apply below_alloc|apply pw_below_drewN|apply below_drew1|refine below_set ?_ GE215.out)|exact HB.out)⟩⟩
            ·rw [if_neg c33] at H
             exact absurd H (by simp)
           ·rw [if_neg c32] at H
            exact absurd H (by simp)
       ·rw [if_neg c11] at H
        exact absurd H (by simp)
      ·rw [if_neg c10] at H
       exact absurd H (by simp)
     ·rw [if_neg c9] at H
      have c9b0 : decide (x32_1 < (t208.length : Int)) = false:=decide_eq_false c9
      clear c9
      replace H:=Option.bind_eq_some_iff.mp H
      obtain ⟨⟨t222,t223,t224⟩,A370,H⟩:=H
      replace H : (if t224 = 0 then (bosunlaw07_JlexAgain.j2 k1 t208 t222 ((t222.length : Int) != (t208.length : Int))) else (bosunlaw07_JlexAgain.j2 k1 t208 t222 true)) = some r:=H
      have A37:=Aside0.mk A370
      clear A370
      have HC38:=Aside0.mk H
      clear H
      go_upto_region 15 with (first|(go_at_call 28;(with_reducible refine (jlex_Lex.calls k1 x6_1 t222 t223 t224 _ A37.out (by first|assumption|exact GW.below hG (by first|exact HB.out|assumption|(repeat (first|(with_reducible first|exact HB.out|apply below_alloc|apply pw_below_drewN|apply below_drew1)|exact HB.out)))|exact GW.drawn hG (by first|assumption|(repeat (first|exact Drawn0.refl _|assumption|apply Drawn0.step))))).mono ?_);rintro e w39 ⟨v225,rfl,ho0,hb⟩;have n0_:=Aside0.mk (Kd.R_elder' (by (with_reducible repeat (first|apply Kd.R_alloc|apply Kd.R_drewN|apply Kd.R_drew));exact HO_3.out) (Kd.R_base ho0) hb);have n1_:=Aside0.mk (Kd.R_elder' (by (with_reducible repeat (first|apply Kd.R_alloc|apply Kd.R_drewN|apply Kd.R_drew));exact HO_30.out) (Kd.R_base ho0) hb);have n2_:=Aside0.mk (Kd.R_lower (Kd.R_new' (Kd.R_new' ho0 (Kd.R_lt (by (with_reducible repeat (first|apply Kd.R_alloc|apply Kd.R_drewN|apply Kd.R_drew));exact HO_3.out))) (Kd.R_lt (by (with_reducible repeat (first|apply Kd.R_alloc|apply Kd.R_drewN|apply Kd.R_drew));exact HO_30.out))) (below_size (by repeat (first|(with_reducible first|exact HB.out|apply below_alloc|apply pw_below_drewN|apply below_drew1)|exact HB.out))));have n3_:=Aside0.mk (below_step (by repeat (first|(with_reducible first|exact HB.out|apply below_alloc|apply pw_below_drewN|apply below_drew1)|exact HB.out)) hb);clear HO_3;clear HO_30;clear HB;have HO_3:=n0_;have HO_30:=n1_;have HO226:=n2_;have HB:=n3_;clear n0_ n1_ n2_ n3_;(try clear hb);(try clear hb2);(try clear hk);(try clear hi);(try clear ho0)))
      repeat (go_quiet (first|(go_at_call 28;(with_reducible refine (jlex_Lex.calls k1 x6_1 t222 t223 t224 _ A37.out (by first|assumption|exact GW.below hG (by first|exact HB.out|assumption|(repeat (first|(with_reducible first|exact HB.out|apply below_alloc|apply pw_below_drewN|apply below_drew1)|exact HB.out)))|exact GW.drawn hG (by first|assumption|(repeat (first|exact Drawn0.refl _|assumption|apply Drawn0.step))))).mono ?_);rintro e w39 ⟨v225,rfl,ho0,hb⟩;have n0_:=Aside0.mk (Kd.R_elder' (by (with_reducible repeat (first|apply Kd.R_alloc|apply Kd.R_drewN|apply Kd.R_drew));exact HO_3.out) (Kd.R_base ho0) hb);have n1_:=Aside0.mk (Kd.R_elder' (by (with_reducible repeat (first|apply Kd.R_alloc|apply Kd.R_drewN|apply Kd.R_drew));exact HO_30.out) (Kd.R_base ho0) hb);have n2_:=Aside0.mk (Kd.R_lower (Kd.R_new' (Kd.R_new' ho0 (Kd.R_lt (by (with_reducible repeat (first|apply Kd.R_alloc|apply Kd.R_drewN|apply Kd.R_drew));exact HO_3.out))) (Kd.R_lt (by (with_reducible repeat (first|apply Kd.R_alloc|apply Kd.R_drewN|apply Kd.R_drew));exact HO_30.out))) (below_size (by repeat (first|(with_reducible first|exact HB.out|apply below_alloc|apply pw_below_drewN|apply below_drew1)|exact HB.out))));have n3_:=Aside0.mk (below_step (by repeat (first|(with_reducible first|exact HB.out|apply below_alloc|apply pw_below_drewN|apply below_drew1)|exact HB.out)) hb);clear HO_3;clear HO_30;clear HB;have HO_3:=n0_;have HO_30:=n1_;have HO226:=n2_;have HB:=n3_;clear n0_ n1_ n2_ n3_;(try clear hb);(try clear hb2);(try clear hk);(try clear hi);(try clear ho0)));go_upto_region 15 with (first|(go_at_call 28;(with_reducible refine (jlex_Lex.calls k1 x6_1 t222 t223 t224 _ A37.out (by first|assumption|exact GW.below hG (by first|exact HB.out|assumption|(repeat (first|(with_reducible first|exact HB.out|apply below_alloc|apply pw_below_drewN|apply below_drew1)|exact HB.out)))|exact GW.drawn hG (by first|assumption|(repeat (first|exact Drawn0.refl _|assumption|apply Drawn0.step))))).mono ?_);rintro e w39 ⟨v225,rfl,ho0,hb⟩;have n0_:=Aside0.mk (Kd.R_elder' (by (with_reducible repeat (first|apply Kd.R_alloc|apply Kd.R_drewN|apply Kd.R_drew));exact HO_3.out) (Kd.R_base ho0) hb);have n1_:=Aside0.mk (Kd.R_elder' (by (with_reducible repeat (first|apply Kd.R_alloc|apply Kd.R_drewN|apply Kd.R_drew));exact HO_30.out) (Kd.R_base ho0) hb);have n2_:=Aside0.mk (Kd.R_lower (Kd.R_new' (Kd.R_new' ho0 (Kd.R_lt (by (with_reducible repeat (first|apply Kd.R_alloc|apply Kd.R_drewN|apply Kd.R_drew));exact HO_3.out))) (Kd.R_lt (by (with_reducible repeat (first|apply Kd.R_alloc|apply Kd.R_drewN|apply Kd.R_drew));exact HO_30.out))) (below_size (by repeat (first|(with_reducible first|exact HB.out|apply below_alloc|apply pw_below_drewN|apply below_drew1)|exact HB.out))));have n3_:=Aside0.mk (below_step (by repeat (first|(with_reducible first|exact HB.out|apply below_alloc|apply pw_below_drewN|apply below_drew1)|exact HB.out)) hb);clear HO_3;clear HO_30;clear HB;have HO_3:=n0_;have HO_30:=n1_;have HO226:=n2_;have HB:=n3_;clear n0_ n1_ n2_ n3_;(try clear hb);(try clear hb2);(try clear hk);(try clear hi);(try clear ho0))))
      (try simp only [Act.put,List.setIfInBounds_toArray,List.set_cons_zero,List.set_cons_succ])
      go_cut [93] (fun v93 wc=>∃ (kq : Nat) (x93_37 : Bool),v93 = .bool x93_37 ∧ Aside0 (bosunlaw07_JlexAgain.j2 kq t208 t222 x93_37 = some r) ∧ Aside0 (kq ≤ k1) ∧ Aside0 (Kd.R k69 69 wc w.heap.size (fun k_=>some k_ ≠ (v225 : Value).ownBlock) (.slice Ao8 t208.length co8) t208) ∧ Aside0 (Kd.R k69 69 wc w.heap.size (fun k_=>some k_ ≠ ((.slice Ao8 t208.length co8) : Value).ownBlock) v225 t222) ∧ Aside0 (Below w.heap.size w wc))
      case first =>
       have H:=HC38.out
       clear HC38
       by_cases c40 : t224 = 0
       ·rw [if_pos c40] at H
        have c40b0 : (t224 == 0) = true:=beq_iff_eq.mpr c40
        have c40b1 : (t224 != 0) = false:=bne_eq_false_iff_eq.mpr c40
        clear c40
        (first|rw [c40b0]|(simp only [i64_w,i32_w];rw [c40b0])|skip)
        have H':=Aside0.mk H
        clear H
        obtain ⟨Ao41,co41,eo41⟩:=Kd.R_slice HO226.out
        subst eo41
        go_wp2
        repeat (go_quiet (fail);try go_wp2)
        go_meet
        case rel=>exact ⟨_,(((t222.length : Int) != (t208.length : Int))),(by first|rfl|(simp;done)|(simp [*];done)),H',⟨by have:=HK1.out;first|omega|exact Nat.le_refl _⟩,⟨by (with_reducible repeat (first|apply Kd.R_alloc|apply Kd.R_drewN|apply Kd.R_drew));exact Kd.R_mono HO_3.out (fun _ hk=>hk.2)⟩,⟨by (with_reducible repeat (first|apply Kd.R_alloc|apply Kd.R_drewN|apply Kd.R_drew));exact Kd.R_mono HO226.out (fun _ hk=>hk.1.2)⟩,⟨by repeat (first|(with_reducible first|exact HB.out|apply below_alloc|apply pw_below_drewN|apply below_drew1)|exact HB.out)⟩⟩
       ·rw [if_neg c40] at H
        have c40b0 : (t224 == 0) = false:=beq_eq_false_iff_ne.mpr c40
        have c40b1 : (t224 != 0) = true:=bne_iff_ne.mpr c40
        (first|rw [c40b0]|(simp only [i64_w,i32_w];rw [c40b0])|skip)
        have H':=Aside0.mk H
        clear H
        go_wp2
        repeat (go_quiet (fail);try go_wp2)
        go_meet
        case rel=>exact ⟨_,(true),(by first|rfl|(simp;done)|(simp [*];done)),H',⟨by have:=HK1.out;first|omega|exact Nat.le_refl _⟩,⟨by (with_reducible repeat (first|apply Kd.R_alloc|apply Kd.R_drewN|apply Kd.R_drew));exact Kd.R_mono HO_3.out (fun _ hk=>hk.2)⟩,⟨by (with_reducible repeat (first|apply Kd.R_alloc|apply Kd.R_drewN|apply Kd.R_drew));exact Kd.R_mono HO226.out (fun _ hk=>hk.1.2)⟩,⟨by repeat (first|(with_reducible first|exact HB.out|apply below_alloc|apply pw_below_drewN|apply below_drew1)|exact HB.out)⟩⟩
      case rest =>
       clear HC38
       try clear c1
       try clear c2
       try clear c2b0
       try clear c2b1
       try clear p2
       try clear q2
       try clear hx2
       try clear c3
       try clear c4
       try clear c6
       try clear c6b0
       try clear c6b1
       try clear p6
       try clear c7
       try clear c9
       try clear c9b0
       try clear c10
       try clear c10b0
       try clear c11
       try clear c11b0
       try clear c15
       try clear c15b0
       try clear c17
       try clear c17b0
       try clear c19
       try clear c19b0
       try clear c21
       try clear c21b0
       try clear p21
       try clear q21
       try clear hx21
       try clear c23
       try clear c23b0
       try clear c25
       try clear c25b0
       try clear c26
       try clear c26b0
       try clear c29
       try clear c32
       try clear c32b0
       try clear c32b1
       try clear c32b2
       try clear c33
       try clear c33b0
       try clear c33b1
       try clear c33b2
       try clear c40
       try clear c40b0
       try clear c40b1
       try clear hcz14_0
       try clear hcz14_1
       try clear hcz14_2
       try clear hcz14_3
       try clear hcz16_0
       try clear hcz16_1
       try clear hcz16_2
       try clear hcz16_3
       try clear hcz18_0
       try clear hcz18_1
       try clear hcz18_2
       try clear hcz18_3
       try clear hcz20_0
       try clear hcz20_1
       try clear hcz20_2
       try clear hcz20_3
       try clear hcz22_0
       try clear hcz22_1
       try clear hcz22_2
       try clear hcz22_3
       try clear hcz27_0
       try clear hcz27_1
       try clear hcz27_2
       try clear hcz27_3
       try clear hcz28_0
       try clear hcz28_1
       try clear hcz28_2
       try clear hcz28_3
       try clear hcz34_0
       try clear hcz34_1
       try clear hcz34_2
       try clear hcz34_3
       try clear hfz14_0
       try clear hfz14_1
       try clear hfz14_2
       try clear hfz14_3
       try clear hfz16_0
       try clear hfz16_1
       try clear hfz16_2
       try clear hfz16_3
       try clear hfz18_0
       try clear hfz18_1
       try clear hfz18_2
       try clear hfz18_3
       try clear hfz20_0
       try clear hfz20_1
       try clear hfz20_2
       try clear hfz20_3
       try clear hfz22_0
       try clear hfz22_1
       try clear hfz22_2
       try clear hfz22_3
       try clear hfz27_0
       try clear hfz27_1
       try clear hfz27_2
       try clear hfz27_3
       try clear hfz28_0
       try clear hfz28_1
       try clear hfz28_2
       try clear hfz28_3
       try clear hfz34_0
       try clear hfz34_1
       try clear hfz34_2
       try clear hfz34_3
       try clear hx214_0
       try clear hx214_1
       try clear hx214_2
       try clear hx214_3
       try clear hx216_0
       try clear hx216_1
       try clear hx216_2
       try clear hx216_3
       try clear p2
       try clear p21
       try clear p214
       try clear p216
       try clear p6
       try clear q2
       try clear q21
       try clear q214
       try clear q216
       obtain ⟨kq,x93_37,rfl,HA,HJ37,HO_3,HO_9,HB⟩:=hcut
       cases kq with
       | zero=>exact absurd HA.out (by simp [bosunlaw07_JlexAgain.j2])
       | succ kj37 =>
        have H:=HA.out
        clear HA
        simp only [bosunlaw07_JlexAgain.j2] at H
        by_cases c42 : x93_37 = true
        ·subst c42
         have H1 : (some false) = some r:=by rw [if_pos rfl] at H;exact H
         clear H
         have H:=H1
         clear H1
         obtain rfl:=Option.some.inj H
         go_wp2
         repeat (go_quiet (fail);try go_wp2)
         go_ret
         exact ⟨by first|rfl|(simp [errW_none,errW_some] <;> rfl)|(simp [*,errW_none,errW_some] <;> rfl),by repeat (first|(with_reducible first|exact HB.out|apply below_alloc|apply pw_below_drewN|apply below_drew1)|exact HB.out)⟩
        ·replace c42:=Bool.eq_false_iff.mpr c42
         subst c42
         have H1 : (bosunlaw07_JlexAgain.l1 kj37 t208 t222 (t208.length : Int) 0) = some r:=by rw [if_neg (show ¬ (false = true) by decide)] at H;exact H
         clear H
         have H:=H1
         clear H1
         have H':=Aside0.mk H
         clear H
         go_wp2
         repeat (go_quiet (fail);try go_wp2)
         go_loopg [96] kj37 (fun kq v96 w'=>∃ (x96_3 : Int),v96 = .int .i64 x96_3 ∧ Aside0 (bosunlaw07_JlexAgain.l1 kq t208 t222 (t208.length : Int) x96_3 = some r) ∧ Aside0 (kq ≤ kj37) ∧ Aside0 (Kd.R k69 69 w' w.heap.size (fun k_=>some k_ ≠ (v225 : Value).ownBlock) (.slice Ao8 t208.length co8) t208) ∧ Aside0 (Kd.R k69 69 w' w.heap.size (fun k_=>some k_ ≠ ((.slice Ao8 t208.length co8) : Value).ownBlock) v225 t222) ∧ Aside0 (Below w.heap.size w w'))
         case atStart=>exact ⟨(0),(by first|rfl|(simp;done)|(simp [*];done)),H',⟨Nat.le_refl _⟩,⟨by (with_reducible repeat (first|apply Kd.R_alloc|apply Kd.R_drewN|apply Kd.R_drew));exact HO_3.out⟩,⟨by (with_reducible repeat (first|apply Kd.R_alloc|apply Kd.R_drewN|apply Kd.R_drew));exact HO_9.out⟩,⟨by repeat (first|(with_reducible first|exact HB.out|apply below_alloc|apply pw_below_drewN|apply below_drew1)|exact HB.out)⟩⟩
         case round =>
          clear H'
          try clear c1
          try clear c2
          try clear c2b0
          try clear c2b1
          try clear p2
          try clear q2
          try clear hx2
          try clear c3
          try clear c4
          try clear c6
          try clear c6b0
          try clear c6b1
          try clear p6
          try clear c7
          try clear c9
          try clear c9b0
          try clear c10
          try clear c10b0
          try clear c11
          try clear c11b0
          try clear c15
          try clear c15b0
          try clear c17
          try clear c17b0
          try clear c19
          try clear c19b0
          try clear c21
          try clear c21b0
          try clear p21
          try clear q21
          try clear hx21
          try clear c23
          try clear c23b0
          try clear c25
          try clear c25b0
          try clear c26
          try clear c26b0
          try clear c29
          try clear c32
          try clear c32b0
          try clear c32b1
          try clear c32b2
          try clear c33
          try clear c33b0
          try clear c33b1
          try clear c33b2
          try clear c40
          try clear c40b0
          try clear c40b1
          try clear c42
          try clear hcz14_0
          try clear hcz14_1
          try clear hcz14_2
          try clear hcz14_3
          try clear hcz16_0
          try clear hcz16_1
          try clear hcz16_2
          try clear hcz16_3
          try clear hcz18_0
          try clear hcz18_1
          try clear hcz18_2
          try clear hcz18_3
          try clear hcz20_0
          try clear hcz20_1
          try clear hcz20_2
          try clear hcz20_3
          try clear hcz22_0
          try clear hcz22_1
          try clear hcz22_2
          try clear hcz22_3
          try clear hcz27_0
          try clear hcz27_1
          try clear hcz27_2
          try clear hcz27_3
          try clear hcz28_0
          try clear hcz28_1
          try clear hcz28_2
          try clear hcz28_3
          try clear hcz34_0
          try clear hcz34_1
          try clear hcz34_2
          try clear hcz34_3
          try clear hfz14_0
          try clear hfz14_1
          try clear hfz14_2
          try clear hfz14_3
          try clear hfz16_0
          try clear hfz16_1
          try clear hfz16_2
          try clear hfz16_3
          try clear hfz18_0
          try clear hfz18_1
          try clear hfz18_2
          try clear hfz18_3
          try clear hfz20_0
          try clear hfz20_1
          try clear hfz20_2
          try clear hfz20_3
          try clear hfz22_0
          try clear hfz22_1
          try clear hfz22_2
          try clear hfz22_3
          try clear hfz27_0
          try clear hfz27_1
          try clear hfz27_2
          try clear hfz27_3
          try clear hfz28_0
          try clear hfz28_1
          try clear hfz28_2
          try clear hfz28_3
          try clear hfz34_0
          try clear hfz34_1
          try clear hfz34_2
          try clear hfz34_3
          try clear hx214_0
          try clear hx214_1
          try clear hx214_2
          try clear hx214_3
          try clear hx216_0
          try clear hx216_1
          try clear hx216_2
          try clear hx216_3
          try clear p2
          try clear p21
          try clear p214
          try clear p216
          try clear p6
          try clear q2
          try clear q21
          try clear q214
          try clear q216
          obtain ⟨x96_3,rfl,HA,HK3,HO_3,HO_9,HB⟩:=hrel
          cases gk with
          | zero=>exact absurd HA.out (by simp [bosunlaw07_JlexAgain.l1])
          | succ k3 =>
           have H:=HA.out
           clear HA
           simp only [bosunlaw07_JlexAgain.l1] at H
           by_cases c43 : x96_3 < (t208.length : Int)
           ·rw [if_pos c43] at H
            have c43b0 : decide (x96_3 < (t208.length : Int)) = true:=decide_eq_true c43
            clear c43
            by_cases c44 : 0 ≤ x96_3
            ·rw [if_pos c44] at H
             have c44b0 : decide (0 ≤ x96_3) = true:=decide_eq_true c44
             clear c44
             by_cases c45 : x96_3 < (t208.length : Int)
             ·rw [if_pos c45] at H
              have c45b0 : decide (x96_3 < (t208.length : Int)) = true:=decide_eq_true c45
              clear c45
              by_cases c46 : x96_3 < (t222.length : Int)
              ·rw [if_pos c46] at H
               have c46b0 : decide (x96_3 < (t222.length : Int)) = true:=decide_eq_true c46
               clear c46
               by_cases c47 : ((rd_T69 t208 x96_3).f0) = ((rd_T69 t222 x96_3).f0)
               ·rw [if_pos c47] at H
                have c47b0 : (((rd_T69 t208 x96_3).f0) == ((rd_T69 t222 x96_3).f0)) = true:=beq_iff_eq.mpr c47
                have c47b1 : (((rd_T69 t208 x96_3).f0) != ((rd_T69 t222 x96_3).f0)) = false:=bne_eq_false_iff_eq.mpr c47
                clear c47
                by_cases c48 : ((rd_T69 t208 x96_3).f1).toList = ((rd_T69 t222 x96_3).f1).toList
                ·rw [if_pos c48] at H
                 have c48b0 : (((rd_T69 t208 x96_3).f1).toList == ((rd_T69 t222 x96_3).f1).toList) = true:=beq_iff_eq.mpr c48
                 have c48b1 : (((rd_T69 t208 x96_3).f1).toList != ((rd_T69 t222 x96_3).f1).toList) = false:=bne_eq_false_iff_eq.mpr c48
                 clear c48
                 by_cases c49 : ((rd_T69 t208 x96_3).f2) = ((rd_T69 t222 x96_3).f2)
                 ·rw [if_pos c49] at H
                  have c49b0 : (((rd_T69 t208 x96_3).f2) == ((rd_T69 t222 x96_3).f2)) = true:=beq_iff_eq.mpr c49
                  have c49b1 : (((rd_T69 t208 x96_3).f2) != ((rd_T69 t222 x96_3).f2)) = false:=bne_eq_false_iff_eq.mpr c49
                  clear c49
                  have H':=Aside0.mk H
                  clear H
                  have p227 : 0 ≤ (x96_3 : Int):=of_decide_eq_true (by first|(with_reducible assumption)|assumption)
                  have q227 : x96_3 < (t208.length : Int):=of_decide_eq_true (by first|(with_reducible assumption)|assumption)
                  obtain ⟨ad227,e227,hx227_0,hx227_1,hx227_2,hx227_3⟩:=at_T69 (Kd.R_reads' HO_3.out).2.2 x96_3 p227 q227
                  cases e227
                  replace p227:=eq_true p227
                  replace q227:=eq_true q227
                  obtain ⟨Ao50,co50,eo50⟩:=Kd.R_slice HO_9.out
                  subst eo50
                  have p228 : 0 ≤ (x96_3 : Int):=of_decide_eq_true (by first|(with_reducible assumption)|assumption)
                  have q228 : x96_3 < (t222.length : Int):=of_decide_eq_true (by first|(with_reducible assumption)|assumption)
                  obtain ⟨ad228,e228,hx228_0,hx228_1,hx228_2,hx228_3⟩:=at_T69 (Kd.R_reads' HO_9.out).2.2 x96_3 p228 q228
                  cases e228
                  replace p228:=eq_true p228
                  replace q228:=eq_true q228
                  have p229 : 0 ≤ (x96_3 : Int):=of_decide_eq_true (by first|(with_reducible assumption)|assumption)
                  have q229 : x96_3 < (t208.length : Int):=of_decide_eq_true (by first|(with_reducible assumption)|assumption)
                  obtain ⟨ad229,e229,hx229_0,hx229_1,hx229_2,hx229_3⟩:=at_T69 (Kd.R_reads' HO_3.out).2.2 x96_3 p229 q229
                  obtain rfl : ad227 = ad229:=(by injection e229)
                  replace p229:=eq_true p229
                  replace q229:=eq_true q229
                  have p230 : 0 ≤ (x96_3 : Int):=of_decide_eq_true (by first|(with_reducible assumption)|assumption)
                  have q230 : x96_3 < (t222.length : Int):=of_decide_eq_true (by first|(with_reducible assumption)|assumption)
                  obtain ⟨ad230,e230,hx230_0,hx230_1,hx230_2,hx230_3⟩:=at_T69 (Kd.R_reads' HO_9.out).2.2 x96_3 p230 q230
                  obtain rfl : ad228 = ad230:=(by injection e230)
                  replace p230:=eq_true p230
                  replace q230:=eq_true q230
                  have p231 : 0 ≤ (x96_3 : Int):=of_decide_eq_true (by first|(with_reducible assumption)|assumption)
                  have q231 : x96_3 < (t208.length : Int):=of_decide_eq_true (by first|(with_reducible assumption)|assumption)
                  obtain ⟨ad231,e231,hx231_0,hx231_1,hx231_2,hx231_3⟩:=at_T69 (Kd.R_reads' HO_3.out).2.2 x96_3 p231 q231
                  obtain rfl : ad227 = ad231:=(by injection e231)
                  replace p231:=eq_true p231
                  replace q231:=eq_true q231
                  have p232 : 0 ≤ (x96_3 : Int):=of_decide_eq_true (by first|(with_reducible assumption)|assumption)
                  have q232 : x96_3 < (t222.length : Int):=of_decide_eq_true (by first|(with_reducible assumption)|assumption)
                  obtain ⟨ad232,e232,hx232_0,hx232_1,hx232_2,hx232_3⟩:=at_T69 (Kd.R_reads' HO_9.out).2.2 x96_3 p232 q232
                  obtain rfl : ad228 = ad232:=(by injection e232)
                  replace p232:=eq_true p232
                  replace q232:=eq_true q232
                  go_wp2
                  repeat (go_quiet (fail);try go_wp2)
                  go_roundg k3
                  case measure=>have:=HK1.out;have:=HJ37.out;have:=HK3.out;omega
                  case rel=>exact ⟨(wrap64 (x96_3 + 1)),(by first|rfl|(simp;done)|(simp [*];done)),H',⟨by have:=HK1.out;have:=HJ37.out;have:=HK3.out;omega⟩,⟨by (with_reducible repeat (first|apply Kd.R_alloc|apply Kd.R_drewN|apply Kd.R_drew));exact HO_3.out⟩,⟨by (with_reducible repeat (first|apply Kd.R_alloc|apply Kd.R_drewN|apply Kd.R_drew));exact HO_9.out⟩,⟨by repeat (first|(with_reducible first|exact HB.out|apply below_alloc|apply pw_below_drewN|apply below_drew1)|exact HB.out)⟩⟩
                 ·rw [if_neg c49] at H
                  have c49b0 : (((rd_T69 t208 x96_3).f2) == ((rd_T69 t222 x96_3).f2)) = false:=beq_eq_false_iff_ne.mpr c49
                  have c49b1 : (((rd_T69 t208 x96_3).f2) != ((rd_T69 t222 x96_3).f2)) = true:=bne_iff_ne.mpr c49
                  obtain rfl:=Option.some.inj H
                  have p227 : 0 ≤ (x96_3 : Int):=of_decide_eq_true (by first|(with_reducible assumption)|assumption)
                  have q227 : x96_3 < (t208.length : Int):=of_decide_eq_true (by first|(with_reducible assumption)|assumption)
                  obtain ⟨ad227,e227,hx227_0,hx227_1,hx227_2,hx227_3⟩:=at_T69 (Kd.R_reads' HO_3.out).2.2 x96_3 p227 q227
                  cases e227
                  replace p227:=eq_true p227
                  replace q227:=eq_true q227
                  obtain ⟨Ao51,co51,eo51⟩:=Kd.R_slice HO_9.out
                  subst eo51
                  have p228 : 0 ≤ (x96_3 : Int):=of_decide_eq_true (by first|(with_reducible assumption)|assumption)
                  have q228 : x96_3 < (t222.length : Int):=of_decide_eq_true (by first|(with_reducible assumption)|assumption)
                  obtain ⟨ad228,e228,hx228_0,hx228_1,hx228_2,hx228_3⟩:=at_T69 (Kd.R_reads' HO_9.out).2.2 x96_3 p228 q228
                  cases e228
                  replace p228:=eq_true p228
                  replace q228:=eq_true q228
                  have p229 : 0 ≤ (x96_3 : Int):=of_decide_eq_true (by first|(with_reducible assumption)|assumption)
                  have q229 : x96_3 < (t208.length : Int):=of_decide_eq_true (by first|(with_reducible assumption)|assumption)
                  obtain ⟨ad229,e229,hx229_0,hx229_1,hx229_2,hx229_3⟩:=at_T69 (Kd.R_reads' HO_3.out).2.2 x96_3 p229 q229
                  obtain rfl : ad227 = ad229:=(by injection e229)
                  replace p229:=eq_true p229
                  replace q229:=eq_true q229
                  have p230 : 0 ≤ (x96_3 : Int):=of_decide_eq_true (by first|(with_reducible assumption)|assumption)
                  have q230 : x96_3 < (t222.length : Int):=of_decide_eq_true (by first|(with_reducible assumption)|assumption)
                  obtain ⟨ad230,e230,hx230_0,hx230_1,hx230_2,hx230_3⟩:=at_T69 (Kd.R_reads' HO_9.out).2.2 x96_3 p230 q230
                  obtain rfl : ad228 = ad230:=(by injection e230)
                  replace p230:=eq_true p230
                  replace q230:=eq_true q230
                  have p231 : 0 ≤ (x96_3 : Int):=of_decide_eq_true (by first|(with_reducible assumption)|assumption)
                  have q231 : x96_3 < (t208.length : Int):=of_decide_eq_true (by first|(with_reducible assumption)|assumption)
                  obtain ⟨ad231,e231,hx231_0,hx231_1,hx231_2,hx231_3⟩:=at_T69 (Kd.R_reads' HO_3.out).2.2 x96_3 p231 q231
                  obtain rfl : ad227 = ad231:=(by injection e231)
                  replace p231:=eq_true p231
                  replace q231:=eq_true q231
                  have p232 : 0 ≤ (x96_3 : Int):=of_decide_eq_true (by first|(with_reducible assumption)|assumption)
                  have q232 : x96_3 < (t222.length : Int):=of_decide_eq_true (by first|(with_reducible assumption)|assumption)
                  obtain ⟨ad232,e232,hx232_0,hx232_1,hx232_2,hx232_3⟩:=at_T69 (Kd.R_reads' HO_9.out).2.2 x96_3 p232 q232
                  obtain rfl : ad228 = ad232:=(by injection e232)
                  replace p232:=eq_true p232
                  replace q232:=eq_true q232
                  go_wp2
                  repeat (go_quiet (fail);try go_wp2)
                  go_ret
                  exact ⟨by first|rfl|(simp [errW_none,errW_some] <;> rfl)|(simp [*,errW_none,errW_some] <;> rfl),by repeat (first|(with_reducible first|exact HB.out|apply below_alloc|apply pw_below_drewN|apply below_drew1)|exact HB.out)⟩
                ·rw [if_neg c48] at H
                 have c48b0 : (((rd_T69 t208 x96_3).f1).toList == ((rd_T69 t222 x96_3).f1).toList) = false:=beq_eq_false_iff_ne.mpr c48
                 have c48b1 : (((rd_T69 t208 x96_3).f1).toList != ((rd_T69 t222 x96_3).f1).toList) = true:=bne_iff_ne.mpr c48
                 obtain rfl:=Option.some.inj H
                 have p227 : 0 ≤ (x96_3 : Int):=of_decide_eq_true (by first|(with_reducible assumption)|assumption)
                 have q227 : x96_3 < (t208.length : Int):=of_decide_eq_true (by first|(with_reducible assumption)|assumption)
                 obtain ⟨ad227,e227,hx227_0,hx227_1,hx227_2,hx227_3⟩:=at_T69 (Kd.R_reads' HO_3.out).2.2 x96_3 p227 q227
                 cases e227
                 replace p227:=eq_true p227
                 replace q227:=eq_true q227
                 obtain ⟨Ao52,co52,eo52⟩:=Kd.R_slice HO_9.out
                 subst eo52
                 have p228 : 0 ≤ (x96_3 : Int):=of_decide_eq_true (by first|(with_reducible assumption)|assumption)
                 have q228 : x96_3 < (t222.length : Int):=of_decide_eq_true (by first|(with_reducible assumption)|assumption)
                 obtain ⟨ad228,e228,hx228_0,hx228_1,hx228_2,hx228_3⟩:=at_T69 (Kd.R_reads' HO_9.out).2.2 x96_3 p228 q228
                 cases e228
                 replace p228:=eq_true p228
                 replace q228:=eq_true q228
                 have p229 : 0 ≤ (x96_3 : Int):=of_decide_eq_true (by first|(with_reducible assumption)|assumption)
                 have q229 : x96_3 < (t208.length : Int):=of_decide_eq_true (by first|(with_reducible assumption)|assumption)
                 obtain ⟨ad229,e229,hx229_0,hx229_1,hx229_2,hx229_3⟩:=at_T69 (Kd.R_reads' HO_3.out).2.2 x96_3 p229 q229
                 obtain rfl : ad227 = ad229:=(by injection e229)
                 replace p229:=eq_true p229
                 replace q229:=eq_true q229
                 have p230 : 0 ≤ (x96_3 : Int):=of_decide_eq_true (by first|(with_reducible assumption)|assumption)
                 have q230 : x96_3 < (t222.length : Int):=of_decide_eq_true (by first|(with_reducible assumption)|assumption)
                 obtain ⟨ad230,e230,hx230_0,hx230_1,hx230_2,hx230_3⟩:=at_T69 (Kd.R_reads' HO_9.out).2.2 x96_3 p230 q230
                 obtain rfl : ad228 = ad230:=(by injection e230)
                 replace p230:=eq_true p230
                 replace q230:=eq_true q230
                 go_wp2
                 repeat (go_quiet (fail);try go_wp2)
                 go_ret
                 exact ⟨by first|rfl|(simp [errW_none,errW_some] <;> rfl)|(simp [*,errW_none,errW_some] <;> rfl),by repeat (first|(with_reducible first|exact HB.out|apply below_alloc|apply pw_below_drewN|apply below_drew1)|exact HB.out)⟩
               ·rw [if_neg c47] at H
                have c47b0 : (((rd_T69 t208 x96_3).f0) == ((rd_T69 t222 x96_3).f0)) = false:=beq_eq_false_iff_ne.mpr c47
                have c47b1 : (((rd_T69 t208 x96_3).f0) != ((rd_T69 t222 x96_3).f0)) = true:=bne_iff_ne.mpr c47
                obtain rfl:=Option.some.inj H
                have p227 : 0 ≤ (x96_3 : Int):=of_decide_eq_true (by first|(with_reducible assumption)|assumption)
                have q227 : x96_3 < (t208.length : Int):=of_decide_eq_true (by first|(with_reducible assumption)|assumption)
                obtain ⟨ad227,e227,hx227_0,hx227_1,hx227_2,hx227_3⟩:=at_T69 (Kd.R_reads' HO_3.out).2.2 x96_3 p227 q227
                cases e227
                replace p227:=eq_true p227
                replace q227:=eq_true q227
                obtain ⟨Ao53,co53,eo53⟩:=Kd.R_slice HO_9.out
                subst eo53
                have p228 : 0 ≤ (x96_3 : Int):=of_decide_eq_true (by first|(with_reducible assumption)|assumption)
                have q228 : x96_3 < (t222.length : Int):=of_decide_eq_true (by first|(with_reducible assumption)|assumption)
                obtain ⟨ad228,e228,hx228_0,hx228_1,hx228_2,hx228_3⟩:=at_T69 (Kd.R_reads' HO_9.out).2.2 x96_3 p228 q228
                cases e228
                replace p228:=eq_true p228
                replace q228:=eq_true q228
                go_wp2
                repeat (go_quiet (fail);try go_wp2)
                go_ret
                exact ⟨by first|rfl|(simp [errW_none,errW_some] <;> rfl)|(simp [*,errW_none,errW_some] <;> rfl),by repeat (first|(with_reducible first|exact HB.out|apply below_alloc|apply pw_below_drewN|apply below_drew1)|exact HB.out)⟩
              ·rw [if_neg c46] at H
               exact absurd H (by simp)
             ·rw [if_neg c45] at H
              exact absurd H (by simp)
            ·rw [if_neg c44] at H
             exact absurd H (by simp)
           ·rw [if_neg c43] at H
            have c43b0 : decide (x96_3 < (t208.length : Int)) = false:=decide_eq_false c43
            clear c43
            replace H:=Option.bind_eq_some_iff.mp H
            obtain ⟨t233,A540,H⟩:=H
            replace H : (some t233) = some r:=H
            have A54:=Aside0.mk A540
            clear A540
            obtain rfl:=Option.some.inj H
            go_wp2_with (first|(go_at_call 25;(with_reducible refine (bosunlaw07_Awake.calls k3  t233 _ A54.out (by first|assumption|exact GW.below hG (by first|exact HB.out|assumption|(repeat (first|(with_reducible first|exact HB.out|apply below_alloc|apply pw_below_drewN|apply below_drew1)|exact HB.out)))|exact GW.drawn hG (by first|assumption|(repeat (first|exact Drawn0.refl _|assumption|apply Drawn0.step))))).mono ?_);rintro e w55 ⟨rfl,hb⟩;have n0_:=Aside0.mk (Kd.R_below (by (with_reducible repeat (first|apply Kd.R_alloc|apply Kd.R_drewN|apply Kd.R_drew));exact HO_3.out) hb);have n1_:=Aside0.mk (Kd.R_below (by (with_reducible repeat (first|apply Kd.R_alloc|apply Kd.R_drewN|apply Kd.R_drew));exact HO_9.out) hb);have n2_:=Aside0.mk (below_step (by repeat (first|(with_reducible first|exact HB.out|apply below_alloc|apply pw_below_drewN|apply below_drew1)|exact HB.out)) hb);clear HO_3;clear HO_9;clear HB;have HO_3:=n0_;have HO_9:=n1_;have HB:=n2_;clear n0_ n1_ n2_;(try clear hb);(try clear hb2);(try clear hk);(try clear hi)))
            repeat (go_quiet (first|(go_at_call 25;(with_reducible refine (bosunlaw07_Awake.calls k3  t233 _ A54.out (by first|assumption|exact GW.below hG (by first|exact HB.out|assumption|(repeat (first|(with_reducible first|exact HB.out|apply below_alloc|apply pw_below_drewN|apply below_drew1)|exact HB.out)))|exact GW.drawn hG (by first|assumption|(repeat (first|exact Drawn0.refl _|assumption|apply Drawn0.step))))).mono ?_);rintro e w55 ⟨rfl,hb⟩;have n0_:=Aside0.mk (Kd.R_below (by (with_reducible repeat (first|apply Kd.R_alloc|apply Kd.R_drewN|apply Kd.R_drew));exact HO_3.out) hb);have n1_:=Aside0.mk (Kd.R_below (by (with_reducible repeat (first|apply Kd.R_alloc|apply Kd.R_drewN|apply Kd.R_drew));exact HO_9.out) hb);have n2_:=Aside0.mk (below_step (by repeat (first|(with_reducible first|exact HB.out|apply below_alloc|apply pw_below_drewN|apply below_drew1)|exact HB.out)) hb);clear HO_3;clear HO_9;clear HB;have HO_3:=n0_;have HO_9:=n1_;have HB:=n2_;clear n0_ n1_ n2_;(try clear hb);(try clear hb2);(try clear hk);(try clear hi)));try go_wp2_with (first|(go_at_call 25;(with_reducible refine (bosunlaw07_Awake.calls k3  t233 _ A54.out (by first|assumption|exact GW.below hG (by first|exact HB.out|assumption|(repeat (first|(with_reducible first|exact HB.out|apply below_alloc|apply pw_below_drewN|apply below_drew1)|exact HB.out)))|exact GW.drawn hG (by first|assumption|(repeat (first|exact Drawn0.refl _|assumption|apply Drawn0.step))))).mono ?_);rintro e w55 ⟨rfl,hb⟩;have n0_:=Aside0.mk (Kd.R_below (by (with_reducible repeat (first|apply Kd.R_alloc|apply Kd.R_drewN|apply Kd.R_drew));exact HO_3.out) hb);have n1_:=Aside0.mk (Kd.R_below (by (with_reducible repeat (first|apply Kd.R_alloc|apply Kd.R_drewN|apply Kd.R_drew));exact HO_9.out) hb);have n2_:=Aside0.mk (below_step (by repeat (first|(with_reducible first|exact HB.out|apply below_alloc|apply pw_below_drewN|apply below_drew1)|exact HB.out)) hb);clear HO_3;clear HO_9;clear HB;have HO_3:=n0_;have HO_9:=n1_;have HB:=n2_;clear n0_ n1_ n2_;(try clear hb);(try clear hb2);(try clear hk);(try clear hi))))
            go_ret
            exact ⟨by first|rfl|(simp [errW_none,errW_some] <;> rfl)|(simp [*,errW_none,errW_some] <;> rfl),by repeat (first|(with_reducible first|exact HB.out|apply below_alloc|apply pw_below_drewN|apply below_drew1)|exact HB.out)⟩
  ·rw [if_neg c6] at H
   have c6b0 : (t210 == 0) = false:=beq_eq_false_iff_ne.mpr c6
   have c6b1 : (t210 != 0) = true:=bne_iff_ne.mpr c6
   replace H:=Option.bind_eq_some_iff.mp H
   obtain ⟨t213,A560,H⟩:=H
   replace H : (if t213 = true then (some ((t208.length : Int) == 0)) else (some false)) = some r:=H
   have A56:=Aside0.mk A560
   clear A560
   by_cases c57 : t213 = true
   ·subst c57
    have H1 : (some ((t208.length : Int) == 0)) = some r:=by rw [if_pos rfl] at H;exact H
    clear H
    have H:=H1
    clear H1
    obtain rfl:=Option.some.inj H
    go_enter Tryd.func7,Tryd.ntmps7
    go_wp2_with (first|(go_at_call 28;(with_reducible refine (jlex_Lex.calls k a0 t208 t209 t210 _ A5.out (by first|assumption|exact GW.below hG (by first|exact HB.out|assumption|(repeat (first|(with_reducible first|exact HB.out|apply below_alloc|apply pw_below_drewN|apply below_drew1)|exact HB.out)))|exact GW.drawn hG (by first|assumption|(repeat (first|exact Drawn0.refl _|assumption|apply Drawn0.step))))).mono ?_);rintro e w58 ⟨v211,rfl,ho0,hb⟩;have n0_:=Aside0.mk (Kd.R_lower ho0 (below_size (by repeat (first|(with_reducible first|exact HB.out|apply below_alloc|apply pw_below_drewN|apply below_drew1)|exact HB.out))));have n1_:=Aside0.mk (below_step (by repeat (first|(with_reducible first|exact HB.out|apply below_alloc|apply pw_below_drewN|apply below_drew1)|exact HB.out)) hb);clear HB;have HO212:=n0_;have HB:=n1_;clear n0_ n1_;(try clear hb);(try clear hb2);(try clear hk);(try clear hi);(try clear ho0))|(go_at_call 25;(with_reducible refine (bosunlaw07_Awake.calls k  true _ A56.out (by first|assumption|exact GW.below hG (by first|exact HB.out|assumption|(repeat (first|(with_reducible first|exact HB.out|apply below_alloc|apply pw_below_drewN|apply below_drew1)|exact HB.out)))|exact GW.drawn hG (by first|assumption|(repeat (first|exact Drawn0.refl _|assumption|apply Drawn0.step))))).mono ?_);rintro e w59 ⟨rfl,hb⟩;have n0_:=Aside0.mk (Kd.R_below (by (with_reducible repeat (first|apply Kd.R_alloc|apply Kd.R_drewN|apply Kd.R_drew));exact HO212.out) hb);have n1_:=Aside0.mk (below_step (by repeat (first|(with_reducible first|exact HB.out|apply below_alloc|apply pw_below_drewN|apply below_drew1)|exact HB.out)) hb);clear HO212;clear HB;have HO212:=n0_;have HB:=n1_;clear n0_ n1_;(try clear hb);(try clear hb2);(try clear hk);(try clear hi);obtain ⟨Ao60,co60,eo60⟩:=Kd.R_slice HO212.out;subst eo60))
    repeat (go_quiet (first|(go_at_call 28;(with_reducible refine (jlex_Lex.calls k a0 t208 t209 t210 _ A5.out (by first|assumption|exact GW.below hG (by first|exact HB.out|assumption|(repeat (first|(with_reducible first|exact HB.out|apply below_alloc|apply pw_below_drewN|apply below_drew1)|exact HB.out)))|exact GW.drawn hG (by first|assumption|(repeat (first|exact Drawn0.refl _|assumption|apply Drawn0.step))))).mono ?_);rintro e w58 ⟨v211,rfl,ho0,hb⟩;have n0_:=Aside0.mk (Kd.R_lower ho0 (below_size (by repeat (first|(with_reducible first|exact HB.out|apply below_alloc|apply pw_below_drewN|apply below_drew1)|exact HB.out))));have n1_:=Aside0.mk (below_step (by repeat (first|(with_reducible first|exact HB.out|apply below_alloc|apply pw_below_drewN|apply below_drew1)|exact HB.out)) hb);clear HB;have HO212:=n0_;have HB:=n1_;clear n0_ n1_;(try clear hb);(try clear hb2);(try clear hk);(try clear hi);(try clear ho0))|(go_at_call 25;(with_reducible refine (bosunlaw07_Awake.calls k  true _ A56.out (by first|assumption|exact GW.below hG (by first|exact HB.out|assumption|(repeat (first|(with_reducible first|exact HB.out|apply below_alloc|apply pw_below_drewN|apply below_drew1)|exact HB.out)))|exact GW.drawn hG (by first|assumption|(repeat (first|exact Drawn0.refl _|assumption|apply Drawn0.step))))).mono ?_);rintro e w59 ⟨rfl,hb⟩;have n0_:=Aside0.mk (Kd.R_below (by (with_reducible repeat (first|apply Kd.R_alloc|apply Kd.R_drewN|apply Kd.R_drew));exact HO212.out) hb);have n1_:=Aside0.mk (below_step (by repeat (first|(with_reducible first|exact HB.out|apply below_alloc|apply pw_below_drewN|apply below_drew1)|exact HB.out)) hb);clear HO212;clear HB;have HO212:=n0_;have HB:=n1_;clear n0_ n1_;(try clear hb);(try clear hb2);(try clear hk);(try clear hi);obtain ⟨Ao60,co60,eo60⟩:=Kd.R_slice HO212.out;subst eo60));try go_wp2_with (first|(go_at_call 28;(with_reducible refine (jlex_Lex.calls k a0 t208 t209 t210 _ A5.out (by first|assumption|exact GW.below hG (by first|exact HB.out|assumption|(repeat (first|(with_reducible first|exact HB.out|apply below_alloc|apply pw_below_drewN|apply below_drew1)|exact HB.out)))|exact GW.drawn hG (by first|assumption|(repeat (first|exact Drawn0.refl _|assumption|apply Drawn0.step))))).mono ?_);rintro e w58 ⟨v211,rfl,ho0,hb⟩;have n0_:=Aside0.mk (Kd.R_lower ho0 (below_size (by repeat (first|(with_reducible first|exact HB.out|apply below_alloc|apply pw_below_drewN|apply below_drew1)|exact HB.out))));have n1_:=Aside0.mk (below_step (by repeat (first|(with_reducible first|exact HB.out|apply below_alloc|apply pw_below_drewN|apply below_drew1)|exact HB.out)) hb);clear HB;have HO212:=n0_;have HB:=n1_;clear n0_ n1_;(try clear hb);(try clear hb2);(try clear hk);(try clear hi);(try clear ho0))|(go_at_call 25;(with_reducible refine (bosunlaw07_Awake.calls k  true _ A56.out (by first|assumption|exact GW.below hG (by first|exact HB.out|assumption|(repeat (first|(with_reducible first|exact HB.out|apply below_alloc|apply pw_below_drewN|apply below_drew1)|exact HB.out)))|exact GW.drawn hG (by first|assumption|(repeat (first|exact Drawn0.refl _|assumption|apply Drawn0.step))))).mono ?_);rintro e w59 ⟨rfl,hb⟩;have n0_:=Aside0.mk (Kd.R_below (by (with_reducible repeat (first|apply Kd.R_alloc|apply Kd.R_drewN|apply Kd.R_drew));exact HO212.out) hb);have n1_:=Aside0.mk (below_step (by repeat (first|(with_reducible first|exact HB.out|apply below_alloc|apply pw_below_drewN|apply below_drew1)|exact HB.out)) hb);clear HO212;clear HB;have HO212:=n0_;have HB:=n1_;clear n0_ n1_;(try clear hb);(try clear hb2);(try clear hk);(try clear hi);obtain ⟨Ao60,co60,eo60⟩:=Kd.R_slice HO212.out;subst eo60)))
    go_ret
    exact ⟨by first|rfl|(simp [errW_none,errW_some] <;> rfl)|(simp [*,errW_none,errW_some] <;> rfl),by repeat (first|(with_reducible first|exact HB.out|apply below_alloc|apply pw_below_drewN|apply below_drew1)|exact HB.out)⟩
   ·replace c57:=Bool.eq_false_iff.mpr c57
    subst c57
    have H1 : (some false) = some r:=by rw [if_neg (show ¬ (false = true) by decide)] at H;exact H
    clear H
    have H:=H1
    clear H1
    obtain rfl:=Option.some.inj H
    go_enter Tryd.func7,Tryd.ntmps7
    go_wp2_with (first|(go_at_call 28;(with_reducible refine (jlex_Lex.calls k a0 t208 t209 t210 _ A5.out (by first|assumption|exact GW.below hG (by first|exact HB.out|assumption|(repeat (first|(with_reducible first|exact HB.out|apply below_alloc|apply pw_below_drewN|apply below_drew1)|exact HB.out)))|exact GW.drawn hG (by first|assumption|(repeat (first|exact Drawn0.refl _|assumption|apply Drawn0.step))))).mono ?_);rintro e w61 ⟨v211,rfl,ho0,hb⟩;have n0_:=Aside0.mk (Kd.R_lower ho0 (below_size (by repeat (first|(with_reducible first|exact HB.out|apply below_alloc|apply pw_below_drewN|apply below_drew1)|exact HB.out))));have n1_:=Aside0.mk (below_step (by repeat (first|(with_reducible first|exact HB.out|apply below_alloc|apply pw_below_drewN|apply below_drew1)|exact HB.out)) hb);clear HB;have HO212:=n0_;have HB:=n1_;clear n0_ n1_;(try clear hb);(try clear hb2);(try clear hk);(try clear hi);(try clear ho0))|(go_at_call 25;(with_reducible refine (bosunlaw07_Awake.calls k  false _ A56.out (by first|assumption|exact GW.below hG (by first|exact HB.out|assumption|(repeat (first|(with_reducible first|exact HB.out|apply below_alloc|apply pw_below_drewN|apply below_drew1)|exact HB.out)))|exact GW.drawn hG (by first|assumption|(repeat (first|exact Drawn0.refl _|assumption|apply Drawn0.step))))).mono ?_);rintro e w62 ⟨rfl,hb⟩;have n0_:=Aside0.mk (Kd.R_below (by (with_reducible repeat (first|apply Kd.R_alloc|apply Kd.R_drewN|apply Kd.R_drew));exact HO212.out) hb);have n1_:=Aside0.mk (below_step (by repeat (first|(with_reducible first|exact HB.out|apply below_alloc|apply pw_below_drewN|apply below_drew1)|exact HB.out)) hb);clear HO212;clear HB;have HO212:=n0_;have HB:=n1_;clear n0_ n1_;(try clear hb);(try clear hb2);(try clear hk);(try clear hi)))
    repeat (go_quiet (first|(go_at_call 28;(with_reducible refine (jlex_Lex.calls k a0 t208 t209 t210 _ A5.out (by first|assumption|exact GW.below hG (by first|exact HB.out|assumption|(repeat (first|(with_reducible first|exact HB.out|apply below_alloc|apply pw_below_drewN|apply below_drew1)|exact HB.out)))|exact GW.drawn hG (by first|assumption|(repeat (first|exact Drawn0.refl _|assumption|apply Drawn0.step))))).mono ?_);rintro e w61 ⟨v211,rfl,ho0,hb⟩;have n0_:=Aside0.mk (Kd.R_lower ho0 (below_size (by repeat (first|(with_reducible first|exact HB.out|apply below_alloc|apply pw_below_drewN|apply below_drew1)|exact HB.out))));have n1_:=Aside0.mk (below_step (by repeat (first|(with_reducible first|exact HB.out|apply below_alloc|apply pw_below_drewN|apply below_drew1)|exact HB.out)) hb);clear HB;have HO212:=n0_;have HB:=n1_;clear n0_ n1_;(try clear hb);(try clear hb2);(try clear hk);(try clear hi);(try clear ho0))|(go_at_call 25;(with_reducible refine (bosunlaw07_Awake.calls k  false _ A56.out (by first|assumption|exact GW.below hG (by first|exact HB.out|assumption|(repeat (first|(with_reducible first|exact HB.out|apply below_alloc|apply pw_below_drewN|apply below_drew1)|exact HB.out)))|exact GW.drawn hG (by first|assumption|(repeat (first|exact Drawn0.refl _|assumption|apply Drawn0.step))))).mono ?_);rintro e w62 ⟨rfl,hb⟩;have n0_:=Aside0.mk (Kd.R_below (by (with_reducible repeat (first|apply Kd.R_alloc|apply Kd.R_drewN|apply Kd.R_drew));exact HO212.out) hb);have n1_:=Aside0.mk (below_step (by repeat (first|(with_reducible first|exact HB.out|apply below_alloc|apply pw_below_drewN|apply below_drew1)|exact HB.out)) hb);clear HO212;clear HB;have HO212:=n0_;have HB:=n1_;clear n0_ n1_;(try clear hb);(try clear hb2);(try clear hk);(try clear hi)));try go_wp2_with (first|(go_at_call 28;(with_reducible refine (jlex_Lex.calls k a0 t208 t209 t210 _ A5.out (by first|assumption|exact GW.below hG (by first|exact HB.out|assumption|(repeat (first|(with_reducible first|exact HB.out|apply below_alloc|apply pw_below_drewN|apply below_drew1)|exact HB.out)))|exact GW.drawn hG (by first|assumption|(repeat (first|exact Drawn0.refl _|assumption|apply Drawn0.step))))).mono ?_);rintro e w61 ⟨v211,rfl,ho0,hb⟩;have n0_:=Aside0.mk (Kd.R_lower ho0 (below_size (by repeat (first|(with_reducible first|exact HB.out|apply below_alloc|apply pw_below_drewN|apply below_drew1)|exact HB.out))));have n1_:=Aside0.mk (below_step (by repeat (first|(with_reducible first|exact HB.out|apply below_alloc|apply pw_below_drewN|apply below_drew1)|exact HB.out)) hb);clear HB;have HO212:=n0_;have HB:=n1_;clear n0_ n1_;(try clear hb);(try clear hb2);(try clear hk);(try clear hi);(try clear ho0))|(go_at_call 25;(with_reducible refine (bosunlaw07_Awake.calls k  false _ A56.out (by first|assumption|exact GW.below hG (by first|exact HB.out|assumption|(repeat (first|(with_reducible first|exact HB.out|apply below_alloc|apply pw_below_drewN|apply below_drew1)|exact HB.out)))|exact GW.drawn hG (by first|assumption|(repeat (first|exact Drawn0.refl _|assumption|apply Drawn0.step))))).mono ?_);rintro e w62 ⟨rfl,hb⟩;have n0_:=Aside0.mk (Kd.R_below (by (with_reducible repeat (first|apply Kd.R_alloc|apply Kd.R_drewN|apply Kd.R_drew));exact HO212.out) hb);have n1_:=Aside0.mk (below_step (by repeat (first|(with_reducible first|exact HB.out|apply below_alloc|apply pw_below_drewN|apply below_drew1)|exact HB.out)) hb);clear HO212;clear HB;have HO212:=n0_;have HB:=n1_;clear n0_ n1_;(try clear hb);(try clear hb2);(try clear hk);(try clear hi))))
    go_ret
    exact ⟨by first|rfl|(simp [errW_none,errW_some] <;> rfl)|(simp [*,errW_none,errW_some] <;> rfl),by repeat (first|(with_reducible first|exact HB.out|apply below_alloc|apply pw_below_drewN|apply below_drew1)|exact HB.out)⟩

end Go.Proofs.YtnkkbiabloodaaaDoor.GUt
