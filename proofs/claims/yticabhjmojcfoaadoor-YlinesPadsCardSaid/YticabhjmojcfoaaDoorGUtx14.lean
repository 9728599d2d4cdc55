/- Written by this session's own program (wip/gen.py) out of the translation: plain Lean functions of the Go functions, and proofs that the calls come to their answers. No conditions beside those in the statements. -/
import Derived.Test.YticabhjmojcfoaaDoorGUtx0
import Derived.Test.YticabhjmojcfoaaDoorGUtx8
import Derived.Test.YticabhjmojcfoaaDoorGUtCut
import Derived.Test.YticabhjmojcfoaaDoorGW
namespace Go.Proofs.YticabhjmojcfoaaDoor.GUt
open Go.RowKit Go.Proofs.YticabhjmojcfoaaDoorW.PrintWords Go.Proofs.YticabhjmojcfoaaDoorW.PrintLast Go.Proofs.YticabhjmojcfoaaDoorW.PrintMore
attribute [local go_sem] max2_int min2_int max_two min_two max_three min_three max_four min_four   -- for this text's walks alone
set_option linter.unusedVariables false
set_option linter.unusedSimpArgs false

/-! ### bosunlaw10_YlinesPads: function 4 -/
mutual
def bosunlaw10_YlinesPads.j0 : Nat → List ByteArray → List Int → Bool → Option (Bool)
 | 0,_,_,_=>none
 | k + 1,x0,x1,x24=>if x24 = true then ((bosunlaw10_Awake.f k).bind fun t166=>(some t166)) else (bosunlaw10_YlinesPads.l0 k x1 (⟨#[]⟩ : ByteArray) (⟨#[]⟩ : ByteArray) x0 (x0.length : Int) 0)
def bosunlaw10_YlinesPads.l0 : Nat → List Int → ByteArray → ByteArray → List ByteArray → Int → Int → Option (Bool)
 | 0,_,_,_,_,_,_=>none
 | k + 1,x1,x5,x6,x26,x27,x28=>if x28 < x27 then (if 0 ≤ x28 then (if x28 < (x26.length : Int) then (if ((rdOf ByteArray.empty x26 x28).size : Int) > 100 then ((bosunlaw10_Awake.f k).bind fun t168=>(some t168)) else (bosunlaw10_YlinesPads.l1 k x1 x5 x6 x28 (rdOf ByteArray.empty x26 x28) x26 x27 x28 ((rdOf ByteArray.empty x26 x28).size : Int) 0)) else (none)) else (none)) else ((ylines_Cut.f k x5).bind fun bt177=>((ylines_Cut.f k x6).bind fun bt182=>(if bt177.2.2 = bt182.2.2 then (bosunlaw10_YlinesPads.j3 k bt177.1 bt182.1 ((bt177.1.length : Int) != (bt182.1.length : Int))) else (bosunlaw10_YlinesPads.j3 k bt177.1 bt182.1 true))))
def bosunlaw10_YlinesPads.l1 : Nat → List Int → ByteArray → ByteArray → Int → ByteArray → List ByteArray → Int → Int → Int → Int → Option (Bool)
 | 0,_,_,_,_,_,_,_,_,_,_=>none
 | k + 1,x1,x5,x6,x7,x8,x26,x27,x28,x38,x39=>if x39 < x38 then (if 0 ≤ x39 then (if x39 < (x8.size : Int) then (if (bt x8 x39) = 10 then ((bosunlaw10_Awake.f k).bind fun t169=>(some t169)) else (if (bt x8 x39) = 35 then ((bosunlaw10_Awake.f k).bind fun t170=>(some t170)) else (if (bt x8 x39) = 34 then ((bosunlaw10_Awake.f k).bind fun t171=>(some t171)) else (bosunlaw10_YlinesPads.l1 k x1 x5 x6 x7 x8 x26 x27 x28 x38 (wrap64 (x39 + 1)))))) else (none)) else (none)) else (if x8.size + 1 ≤ 9223372036854775807 then (if x5.size + (x8 ++ (⟨#[10]⟩ : ByteArray)).size ≤ 9223372036854775807 then (if x7 < (x1.length : Int) then ((some (([(⟨#[]⟩ : ByteArray),(⟨#[32]⟩ : ByteArray),(⟨#[32,35,32,120]⟩ : ByteArray),(⟨#[10]⟩ : ByteArray),(⟨#[10,32,32,35,32,34]⟩ : ByteArray),(⟨#[32,32,32]⟩ : ByteArray)] : List ByteArray) : List ByteArray)).bind fun y172=>(if 0 ≤ x7 then (if 0 ≤ (Int.tmod (rd x1 x7) 6) then (if (Int.tmod (rd x1 x7) 6) < (y172.length : Int) then (if x8.size + (rdOf ByteArray.empty y172 (Int.tmod (rd x1 x7) 6)).size ≤ 9223372036854775807 then (if (x8 ++ (rdOf ByteArray.empty y172 (Int.tmod (rd x1 x7) 6))).size + 1 ≤ 9223372036854775807 then (if x6.size + ((x8 ++ (rdOf ByteArray.empty y172 (Int.tmod (rd x1 x7) 6))) ++ (⟨#[10]⟩ : ByteArray)).size ≤ 9223372036854775807 then (bosunlaw10_YlinesPads.l0 k x1 (x5 ++ (x8 ++ (⟨#[10]⟩ : ByteArray))) (x6 ++ ((x8 ++ (rdOf ByteArray.empty y172 (Int.tmod (rd x1 x7) 6))) ++ (⟨#[10]⟩ : ByteArray))) x26 x27 (wrap64 (x28 + 1))) else (none)) else (none)) else (none)) else (none)) else (none)) else (none))) else (if x6.size + (x8 ++ (⟨#[10]⟩ : ByteArray)).size ≤ 9223372036854775807 then (bosunlaw10_YlinesPads.l0 k x1 (x5 ++ (x8 ++ (⟨#[10]⟩ : ByteArray))) (x6 ++ (x8 ++ (⟨#[10]⟩ : ByteArray))) x26 x27 (wrap64 (x28 + 1))) else (none))) else (none)) else (none))
def bosunlaw10_YlinesPads.j3 : Nat → List (S32) → List (S32) → Bool → Option (Bool)
 | 0,_,_,_=>none
 | k + 1,x10,x13,x104=>if x104 = true then (some false) else (bosunlaw10_YlinesPads.l2 k x10 x13 (x10.length : Int) 0)
def bosunlaw10_YlinesPads.l2 : Nat → List (S32) → List (S32) → Int → Int → Option (Bool)
 | 0,_,_,_,_=>none
 | k + 1,x10,x13,x106,x107=>if x107 < x106 then (if 0 ≤ x107 then (if x107 < (x10.length : Int) then (if x107 < (x13.length : Int) then (if ((rd_T32 x10 x107).f1) = ((rd_T32 x13 x107).f1) then (if (((rd_T32 x10 x107).f2) != ((rd_T32 x13 x107).f2)) = true then (some false) else (if ((rd_T32 x10 x107).f3).toList = ((rd_T32 x13 x107).f3).toList then (bosunlaw10_YlinesPads.l2 k x10 x13 x106 (wrap64 (x107 + 1))) else (some false))) else (some false)) else (none)) else (none)) else (none)) else ((bosunlaw10_Awake.f k).bind fun t193=>(some t193))
end
def bosunlaw10_YlinesPads.f (k : Nat) (l0 : List ByteArray) (l1 : List Int) : Option (Bool):=if (l0.length : Int) > 30 then (bosunlaw10_YlinesPads.j0 k l0 l1 true) else (bosunlaw10_YlinesPads.j0 k l0 l1 (decide ((l1.length : Int) > 30)))
theorem bosunlaw10_YlinesPads.mono_l : ∀ k,(∀ y0 y1 y2,LeO (bosunlaw10_YlinesPads.j0 k y0 y1 y2) (bosunlaw10_YlinesPads.j0 (k + 1) y0 y1 y2)) ∧ (∀ y0 y1 y2 y3 y4 y5,LeO (bosunlaw10_YlinesPads.l0 k y0 y1 y2 y3 y4 y5) (bosunlaw10_YlinesPads.l0 (k + 1) y0 y1 y2 y3 y4 y5)) ∧ (∀ y0 y1 y2 y3 y4 y5 y6 y7 y8 y9,LeO (bosunlaw10_YlinesPads.l1 k y0 y1 y2 y3 y4 y5 y6 y7 y8 y9) (bosunlaw10_YlinesPads.l1 (k + 1) y0 y1 y2 y3 y4 y5 y6 y7 y8 y9)) ∧ (∀ y0 y1 y2,LeO (bosunlaw10_YlinesPads.j3 k y0 y1 y2) (bosunlaw10_YlinesPads.j3 (k + 1) y0 y1 y2)) ∧ (∀ y0 y1 y2 y3,LeO (bosunlaw10_YlinesPads.l2 k y0 y1 y2 y3) (bosunlaw10_YlinesPads.l2 (k + 1) y0 y1 y2 y3))
 | 0=>⟨fun _ _ _ r h=>by simp [bosunlaw10_YlinesPads.j0] at h,fun _ _ _ _ _ _ r h=>by simp [bosunlaw10_YlinesPads.l0] at h,fun _ _ _ _ _ _ _ _ _ _ r h=>by simp [bosunlaw10_YlinesPads.l1] at h,fun _ _ _ r h=>by simp [bosunlaw10_YlinesPads.j3] at h,fun _ _ _ _ r h=>by simp [bosunlaw10_YlinesPads.l2] at h⟩
 | k + 1=>by
  obtain ⟨ih0,ih1,ih2,ih3,ih4⟩:=bosunlaw10_YlinesPads.mono_l k
  refine ⟨?_,?_,?_,?_,?_⟩
  ·intro y0 y1 y2
   unfold bosunlaw10_YlinesPads.j0
   repeat' first
   | (with_reducible exact ih0 _ _ _)
   | (with_reducible exact ih1 _ _ _ _ _ _)
   | (with_reducible exact ih2 _ _ _ _ _ _ _ _ _ _)
   | (with_reducible exact ih3 _ _ _)
   | (with_reducible exact ih4 _ _ _ _)
   | (with_reducible exact bosunlaw10_Awake.mono _)
   | (with_reducible exact ylines_Cut.mono _ _)
   | (with_reducible exact LeO.refl _)
   | (with_reducible exact LeO.none _)
   | (with_reducible refine LeO.ite ?_ ?_)
   | (with_reducible refine LeO.bind ?_ (fun _=>?_))
   | exact ih0 _ _ _
   | exact ih1 _ _ _ _ _ _
   | exact ih2 _ _ _ _ _ _ _ _ _ _
   | exact ih3 _ _ _
   | exact ih4 _ _ _ _
   | exact bosunlaw10_Awake.mono _
   | exact ylines_Cut.mono _ _
   | exact LeO.none _
   | refine LeO.ite ?_ ?_
   | refine LeO.bind ?_ (fun _=>?_)
  ·intro y0 y1 y2 y3 y4 y5
   unfold bosunlaw10_YlinesPads.l0
   repeat' first
   | (with_reducible exact ih0 _ _ _)
   | (with_reducible exact ih1 _ _ _ _ _ _)
   | (with_reducible exact ih2 _ _ _ _ _ _ _ _ _ _)
   | (with_reducible exact ih3 _ _ _)
   | (with_reducible exact ih4 _ _ _ _)
   | (with_reducible exact bosunlaw10_Awake.mono _)
   | (with_reducible exact ylines_Cut.mono _ _)
   | (with_reducible exact LeO.refl _)
   | (with_reducible exact LeO.none _)
   | (with_reducible refine LeO.ite ?_ ?_)
   | (with_reducible refine LeO.bind ?_ (fun _=>?_))
   | exact ih0 _ _ _
   | exact ih1 _ _ _ _ _ _
   | exact ih2 _ _ _ _ _ _ _ _ _ _
   | exact ih3 _ _ _
   | exact ih4 _ _ _ _
   | exact bosunlaw10_Awake.mono _
   | exact ylines_Cut.mono _ _
   | exact LeO.none _
   | refine LeO.ite ?_ ?_
   | refine LeO.bind ?_ (fun _=>?_)
  ·intro y0 y1 y2 y3 y4 y5 y6 y7 y8 y9
   unfold bosunlaw10_YlinesPads.l1
   repeat' first
   | (with_reducible exact ih0 _ _ _)
   | (with_reducible exact ih1 _ _ _ _ _ _)
   | (with_reducible exact ih2 _ _ _ _ _ _ _ _ _ _)
   | (with_reducible exact ih3 _ _ _)
   | (with_reducible exact ih4 _ _ _ _)
   | (with_reducible exact bosunlaw10_Awake.mono _)
   | (with_reducible exact ylines_Cut.mono _ _)
   | (with_reducible exact LeO.refl _)
   | (with_reducible exact LeO.none _)
   | (with_reducible refine LeO.ite ?_ ?_)
   | (with_reducible refine LeO.bind ?_ (fun _=>?_))
   | exact ih0 _ _ _
   | exact ih1 _ _ _ _ _ _
   | exact ih2 _ _ _ _ _ _ _ _ _ _
   | exact ih3 _ _ _
   | exact ih4 _ _ _ _
   | exact bosunlaw10_Awake.mono _
   | exact ylines_Cut.mono _ _
   | exact LeO.none _
   | refine LeO.ite ?_ ?_
   | refine LeO.bind ?_ (fun _=>?_)
  ·intro y0 y1 y2
   unfold bosunlaw10_YlinesPads.j3
   repeat' first
   | (with_reducible exact ih0 _ _ _)
   | (with_reducible exact ih1 _ _ _ _ _ _)
   | (with_reducible exact ih2 _ _ _ _ _ _ _ _ _ _)
   | (with_reducible exact ih3 _ _ _)
   | (with_reducible exact ih4 _ _ _ _)
   | (with_reducible exact bosunlaw10_Awake.mono _)
   | (with_reducible exact ylines_Cut.mono _ _)
   | (with_reducible exact LeO.refl _)
   | (with_reducible exact LeO.none _)
   | (with_reducible refine LeO.ite ?_ ?_)
   | (with_reducible refine LeO.bind ?_ (fun _=>?_))
   | exact ih0 _ _ _
   | exact ih1 _ _ _ _ _ _
   | exact ih2 _ _ _ _ _ _ _ _ _ _
   | exact ih3 _ _ _
   | exact ih4 _ _ _ _
   | exact bosunlaw10_Awake.mono _
   | exact ylines_Cut.mono _ _
   | exact LeO.none _
   | refine LeO.ite ?_ ?_
   | refine LeO.bind ?_ (fun _=>?_)
  ·intro y0 y1 y2 y3
   unfold bosunlaw10_YlinesPads.l2
   repeat' first
   | (with_reducible exact ih0 _ _ _)
   | (with_reducible exact ih1 _ _ _ _ _ _)
   | (with_reducible exact ih2 _ _ _ _ _ _ _ _ _ _)
   | (with_reducible exact ih3 _ _ _)
   | (with_reducible exact ih4 _ _ _ _)
   | (with_reducible exact bosunlaw10_Awake.mono _)
   | (with_reducible exact ylines_Cut.mono _ _)
   | (with_reducible exact LeO.refl _)
   | (with_reducible exact LeO.none _)
   | (with_reducible refine LeO.ite ?_ ?_)
   | (with_reducible refine LeO.bind ?_ (fun _=>?_))
   | exact ih0 _ _ _
   | exact ih1 _ _ _ _ _ _
   | exact ih2 _ _ _ _ _ _ _ _ _ _
   | exact ih3 _ _ _
   | exact ih4 _ _ _ _
   | exact bosunlaw10_Awake.mono _
   | exact ylines_Cut.mono _ _
   | exact LeO.none _
   | refine LeO.ite ?_ ?_
   | refine LeO.bind ?_ (fun _=>?_)
theorem bosunlaw10_YlinesPads.mono : ∀ a0 a1 k,LeO (bosunlaw10_YlinesPads.f k a0 a1) (bosunlaw10_YlinesPads.f (k + 1) a0 a1):=by
 intro a0 a1 k
 obtain ⟨ih0,ih1,ih2,ih3,ih4⟩:=bosunlaw10_YlinesPads.mono_l k
 unfold bosunlaw10_YlinesPads.f
 repeat' first
   | (with_reducible exact ih0 _ _ _)
   | (with_reducible exact ih1 _ _ _ _ _ _)
   | (with_reducible exact ih2 _ _ _ _ _ _ _ _ _ _)
   | (with_reducible exact ih3 _ _ _)
   | (with_reducible exact ih4 _ _ _ _)
   | (with_reducible exact bosunlaw10_Awake.mono _)
   | (with_reducible exact ylines_Cut.mono _ _)
   | (with_reducible exact LeO.refl _)
   | (with_reducible exact LeO.none _)
   | (with_reducible refine LeO.ite ?_ ?_)
   | (with_reducible refine LeO.bind ?_ (fun _=>?_))
   | exact ih0 _ _ _
   | exact ih1 _ _ _ _ _ _
   | exact ih2 _ _ _ _ _ _ _ _ _ _
   | exact ih3 _ _ _
   | exact ih4 _ _ _ _
   | exact bosunlaw10_Awake.mono _
   | exact ylines_Cut.mono _ _
   | exact LeO.none _
   | refine LeO.ite ?_ ?_
   | refine LeO.bind ?_ (fun _=>?_)
set_option maxHeartbeats 8000000 in
set_option maxRecDepth 100000 in
theorem bosunlaw10_YlinesPads.calls (k : Nat) (A0 : Option Addr) (c0 : Nat) (l0 : List ByteArray) (A1 : Option Addr) (c1 : Nat) (l1 : List Int) (r : Bool) (w : World) (hr0 : Kd.C Kd.string w A0 l0.length l0) (hc0 : l0.length ≤ c0) (hr1 : Kd.C (Kd.int .u8) w A1 l1.length l1) (hc1 : l1.length ≤ c1) (h : bosunlaw10_YlinesPads.f k l0 l1 = some r) (hG : GW.GW w) :
  Calls Tryd.prog 4 #[.slice A0 l0.length c0,.slice A1 l1.length c1] w fun e w'=>e = .returned (.bool r) ∧ Below w.heap.size w w':=by
 have HR0:=Aside0.mk hr0
 have HC0:=Aside0.mk hc0
 clear hr0 hc0
 have HR1:=Aside0.mk hr1
 have HC1:=Aside0.mk hc1
 clear hr1 hc1
 have HB:=Aside0.mk (Below.refl w.heap.size w)
 have H : (if (l0.length : Int) > 30 then (bosunlaw10_YlinesPads.j0 k l0 l1 true) else (bosunlaw10_YlinesPads.j0 k l0 l1 (decide ((l1.length : Int) > 30)))) = some r:=h
 clear h
 have HC3:=Aside0.mk H
 clear H
 go_enter Tryd.func4,Tryd.ntmps4
 go_upto_region 1 with (fail)
 repeat (go_quiet (fail);go_upto_region 1 with (fail))
 go_cut [24] (fun v24 wc=>∃ (kq : Nat) (x24_2 : Bool),v24 = .bool x24_2 ∧ Aside0 (bosunlaw10_YlinesPads.j0 kq l0 l1 x24_2 = some r) ∧ Aside0 (kq ≤ k) ∧ Aside0 (Below w.heap.size w wc))
 case first =>
  have H:=HC3.out
  clear HC3
  by_cases c4 : (l0.length : Int) > 30
  ·rw [if_pos c4] at H
   have c4b0 : decide (30 < (l0.length : Int)) = true:=decide_eq_true c4
   have c4b1 : decide (30 < l0.length) = true:=decide_eq_true (by omega)
   clear c4
   (first|rw [c4b0]|(simp only [i64_w,i32_w];rw [c4b0])|skip)
   have H':=Aside0.mk H
   clear H
   go_wp2
   repeat (go_quiet (fail);try go_wp2)
   go_meet
   case rel=>exact ⟨_,(true),(by first|rfl|(simp;done)|(simp [*];done)),H',⟨by first|omega|exact Nat.le_refl _⟩,⟨by repeat (first|(with_reducible first|exact HB.out|apply below_alloc|apply pw_below_drewN|apply below_drew1)|exact HB.out)⟩⟩
  ·rw [if_neg c4] at H
   have c4b0 : decide (30 < (l0.length : Int)) = false:=decide_eq_false c4
   have c4b1 : decide (30 < l0.length) = false:=decide_eq_false (by omega)
   clear c4
   (first|rw [c4b0]|(simp only [i64_w,i32_w];rw [c4b0])|skip)
   have H':=Aside0.mk H
   clear H
   go_wp2
   repeat (go_quiet (fail);try go_wp2)
   go_meet
   case rel=>exact ⟨_,(decide ((l1.length : Int) > 30)),(by first|rfl|(simp;done)|(simp [*];done)),H',⟨by first|omega|exact Nat.le_refl _⟩,⟨by repeat (first|(with_reducible first|exact HB.out|apply below_alloc|apply pw_below_drewN|apply below_drew1)|exact HB.out)⟩⟩
 case rest =>
  clear HC3
  try clear c1
  try clear p2
  try clear c4
  try clear c4b0
  try clear c4b1
  obtain ⟨kq,x24_2,rfl,HA,HJ2,HB⟩:=hcut
  cases kq with
  | zero=>exact absurd HA.out (by simp [bosunlaw10_YlinesPads.j0])
  | succ kj2 =>
   have H:=HA.out
   clear HA
   simp only [bosunlaw10_YlinesPads.j0] at H
   by_cases c5 : x24_2 = true
   ·subst c5
    have H1 : ((bosunlaw10_Awake.f kj2).bind fun t166=>(some t166)) = some r:=by rw [if_pos rfl] at H;exact H
    clear H
    have H:=H1
    clear H1
    replace H:=Option.bind_eq_some_iff.mp H
    obtain ⟨t166,A60,H⟩:=H
    replace H : (some t166) = some r:=H
    have A6:=Aside0.mk A60
    clear A60
    obtain rfl:=Option.some.inj H
    go_wp2_with (first|(go_at_call 5;(with_reducible refine (bosunlaw10_Awake.calls kj2  t166 _ A6.out (by first|assumption|exact GW.below hG (by first|exact HB.out|assumption|(repeat (first|(with_reducible first|exact HB.out|apply below_alloc|apply pw_below_drewN|apply below_drew1)|exact HB.out)))|exact GW.drawn hG (by first|assumption|(repeat (first|exact Drawn0.refl _|assumption|apply Drawn0.step))))).mono ?_);rintro e w7 ⟨rfl,hb⟩;have n0_:=Aside0.mk (below_step (by repeat (first|(with_reducible first|exact HB.out|apply below_alloc|apply pw_below_drewN|apply below_drew1)|exact HB.out)) hb);clear HB;have HB:=n0_;clear n0_;(try clear hb);(try clear hb2);(try clear hk);(try clear hi)))
    repeat (go_quiet (first|(go_at_call 5;(with_reducible refine (bosunlaw10_Awake.calls kj2  t166 _ A6.out (by first|assumption|exact GW.below hG (by first|exact HB.out|assumption|(repeat (first|(with_reducible first|exact HB.out|apply below_alloc|apply pw_below_drewN|apply below_drew1)|exact HB.out)))|exact GW.drawn hG (by first|assumption|(repeat (first|exact Drawn0.refl _|assumption|apply Drawn0.step))))).mono ?_);rintro e w7 ⟨rfl,hb⟩;have n0_:=Aside0.mk (below_step (by repeat (first|(with_reducible first|exact HB.out|apply below_alloc|apply pw_below_drewN|apply below_drew1)|exact HB.out)) hb);clear HB;have HB:=n0_;clear n0_;(try clear hb);(try clear hb2);(try clear hk);(try clear hi)));try go_wp2_with (first|(go_at_call 5;(with_reducible refine (bosunlaw10_Awake.calls kj2  t166 _ A6.out (by first|assumption|exact GW.below hG (by first|exact HB.out|assumption|(repeat (first|(with_reducible first|exact HB.out|apply below_alloc|apply pw_below_drewN|apply below_drew1)|exact HB.out)))|exact GW.drawn hG (by first|assumption|(repeat (first|exact Drawn0.refl _|assumption|apply Drawn0.step))))).mono ?_);rintro e w7 ⟨rfl,hb⟩;have n0_:=Aside0.mk (below_step (by repeat (first|(with_reducible first|exact HB.out|apply below_alloc|apply pw_below_drewN|apply below_drew1)|exact HB.out)) hb);clear HB;have HB:=n0_;clear n0_;(try clear hb);(try clear hb2);(try clear hk);(try clear hi))))
    go_ret
    exact ⟨by first|rfl|(simp [errW_none,errW_some] <;> rfl)|(simp [*,errW_none,errW_some] <;> rfl),by repeat (first|(with_reducible first|exact HB.out|apply below_alloc|apply pw_below_drewN|apply below_drew1)|exact HB.out)⟩
   ·replace c5:=Bool.eq_false_iff.mpr c5
    subst c5
    have H1 : (bosunlaw10_YlinesPads.l0 kj2 l1 (⟨#[]⟩ : ByteArray) (⟨#[]⟩ : ByteArray) l0 (l0.length : Int) 0) = some r:=by rw [if_neg (show ¬ (false = true) by decide)] at H;exact H
    clear H
    have H:=H1
    clear H1
    have H':=Aside0.mk H
    clear H
    go_wp2
    repeat (go_quiet (fail);try go_wp2)
    go_loopg [5,6,28] kj2 (fun kq v5 v6 v28 w'=>∃ (x5_2 : ByteArray) (x6_2 : ByteArray) (x28_2 : Int),v5 = .string x5_2 ∧ v6 = .string x6_2 ∧ v28 = .int .i64 x28_2 ∧ Aside0 (bosunlaw10_YlinesPads.l0 kq l1 x5_2 x6_2 l0 (l0.length : Int) x28_2 = some r) ∧ Aside0 (kq ≤ kj2) ∧ Aside0 (Below w.heap.size w w'))
    case atStart=>exact ⟨((⟨#[]⟩ : ByteArray)),((⟨#[]⟩ : ByteArray)),(0),(by first|rfl|(simp;done)|(simp [*];done)),(by first|rfl|(simp;done)|(simp [*];done)),(by first|rfl|(simp;done)|(simp [*];done)),H',⟨Nat.le_refl _⟩,⟨by repeat (first|(with_reducible first|exact HB.out|apply below_alloc|apply pw_below_drewN|apply below_drew1)|exact HB.out)⟩⟩
    case round =>
     clear H'
     try clear c1
     try clear p2
     try clear c4
     try clear c4b0
     try clear c4b1
     try clear c5
     try clear p2
     obtain ⟨x5_2,x6_2,x28_2,rfl,rfl,rfl,HA,HK2,HB⟩:=hrel
     cases gk with
     | zero=>exact absurd HA.out (by simp [bosunlaw10_YlinesPads.l0])
     | succ k2 =>
      have H:=HA.out
      clear HA
      simp only [bosunlaw10_YlinesPads.l0] at H
      by_cases c8 : x28_2 < (l0.length : Int)
      ·rw [if_pos c8] at H
       have c8b0 : decide (x28_2 < (l0.length : Int)) = true:=decide_eq_true c8
       clear c8
       by_cases c9 : 0 ≤ x28_2
       ·rw [if_pos c9] at H
        have c9b0 : decide (0 ≤ x28_2) = true:=decide_eq_true c9
        clear c9
        by_cases c10 : x28_2 < (l0.length : Int)
        ·rw [if_pos c10] at H
         have c10b0 : decide (x28_2 < (l0.length : Int)) = true:=decide_eq_true c10
         clear c10
         by_cases c11 : ((rdOf ByteArray.empty l0 x28_2).size : Int) > 100
         ·rw [if_pos c11] at H
          have c11b0 : decide (100 < ((rdOf ByteArray.empty l0 x28_2).size : Int)) = true:=decide_eq_true c11
          have c11b1 : decide (100 < (rdOf ByteArray.empty l0 x28_2).size) = true:=decide_eq_true (by omega)
          clear c11
          replace H:=Option.bind_eq_some_iff.mp H
          obtain ⟨t168,A120,H⟩:=H
          replace H : (some t168) = some r:=H
          have A12:=Aside0.mk A120
          clear A120
          obtain rfl:=Option.some.inj H
          have p167 : 0 ≤ (x28_2 : Int):=of_decide_eq_true (by first|(with_reducible assumption)|assumption)
          have q167 : x28_2 < (l0.length : Int):=of_decide_eq_true (by first|(with_reducible assumption)|assumption)
          obtain ⟨ad167,e167,hx167_0⟩:=Kd.at_string HR0.out x28_2 p167 q167
          cases e167
          replace hx167_0:=(HB.out.cell (World.block_lt_of_cell? w _ hx167_0)).trans hx167_0
          replace p167:=eq_true p167
          replace q167:=eq_true q167
          go_wp2_with (first|(go_at_call 5;(with_reducible refine (bosunlaw10_Awake.calls k2  t168 _ A12.out (by first|assumption|exact GW.below hG (by first|exact HB.out|assumption|(repeat (first|(with_reducible first|exact HB.out|apply below_alloc|apply pw_below_drewN|apply below_drew1)|exact HB.out)))|exact GW.drawn hG (by first|assumption|(repeat (first|exact Drawn0.refl _|assumption|apply Drawn0.step))))).mono ?_);rintro e w13 ⟨rfl,hb⟩;have n0_:=Aside0.mk (below_step (by repeat (first|(with_reducible first|exact HB.out|apply below_alloc|apply pw_below_drewN|apply below_drew1)|exact HB.out)) hb);clear HB;have HB:=n0_;clear n0_;(try clear hb);(try clear hb2);(try clear hk);(try clear hi)))
          repeat (go_quiet (first|(go_at_call 5;(with_reducible refine (bosunlaw10_Awake.calls k2  t168 _ A12.out (by first|assumption|exact GW.below hG (by first|exact HB.out|assumption|(repeat (first|(with_reducible first|exact HB.out|apply below_alloc|apply pw_below_drewN|apply below_drew1)|exact HB.out)))|exact GW.drawn hG (by first|assumption|(repeat (first|exact Drawn0.refl _|assumption|apply Drawn0.step))))).mono ?_);rintro e w13 ⟨rfl,hb⟩;have n0_:=Aside0.mk (below_step (by repeat (first|(with_reducible first|exact HB.out|apply below_alloc|apply pw_below_drewN|apply below_drew1)|exact HB.out)) hb);clear HB;have HB:=n0_;clear n0_;(try clear hb);(try clear hb2);(try clear hk);(try clear hi)));try go_wp2_with (first|(go_at_call 5;(with_reducible refine (bosunlaw10_Awake.calls k2  t168 _ A12.out (by first|assumption|exact GW.below hG (by first|exact HB.out|assumption|(repeat (first|(with_reducible first|exact HB.out|apply below_alloc|apply pw_below_drewN|apply below_drew1)|exact HB.out)))|exact GW.drawn hG (by first|assumption|(repeat (first|exact Drawn0.refl _|assumption|apply Drawn0.step))))).mono ?_);rintro e w13 ⟨rfl,hb⟩;have n0_:=Aside0.mk (below_step (by repeat (first|(with_reducible first|exact HB.out|apply below_alloc|apply pw_below_drewN|apply below_drew1)|exact HB.out)) hb);clear HB;have HB:=n0_;clear n0_;(try clear hb);(try clear hb2);(try clear hk);(try clear hi))))
          go_ret
          exact ⟨by first|rfl|(simp [errW_none,errW_some] <;> rfl)|(simp [*,errW_none,errW_some] <;> rfl),by repeat (first|(with_reducible first|exact HB.out|apply below_alloc|apply pw_below_drewN|apply below_drew1)|exact HB.out)⟩
         ·rw [if_neg c11] at H
          have c11b0 : decide (100 < ((rdOf ByteArray.empty l0 x28_2).size : Int)) = false:=decide_eq_false c11
          have c11b1 : decide (100 < (rdOf ByteArray.empty l0 x28_2).size) = false:=decide_eq_false (by omega)
          clear c11
          have H':=Aside0.mk H
          clear H
          have p167 : 0 ≤ (x28_2 : Int):=of_decide_eq_true (by first|(with_reducible assumption)|assumption)
          have q167 : x28_2 < (l0.length : Int):=of_decide_eq_true (by first|(with_reducible assumption)|assumption)
          obtain ⟨ad167,e167,hx167_0⟩:=Kd.at_string HR0.out x28_2 p167 q167
          cases e167
          replace hx167_0:=(HB.out.cell (World.block_lt_of_cell? w _ hx167_0)).trans hx167_0
          replace p167:=eq_true p167
          replace q167:=eq_true q167
          go_wp2
          repeat (go_quiet (fail);try go_wp2)
          go_loopg [39] k2 (fun kq v39 w'=>∃ (x39_3 : Int),v39 = .int .i64 x39_3 ∧ Aside0 (bosunlaw10_YlinesPads.l1 kq l1 x5_2 x6_2 x28_2 (rdOf ByteArray.empty l0 x28_2) l0 (l0.length : Int) x28_2 ((rdOf ByteArray.empty l0 x28_2).size : Int) x39_3 = some r) ∧ Aside0 (kq ≤ k2) ∧ Aside0 (Below w.heap.size w w'))
          case atStart=>exact ⟨(0),(by first|rfl|(simp;done)|(simp [*];done)),H',⟨Nat.le_refl _⟩,⟨by repeat (first|(with_reducible first|exact HB.out|apply below_alloc|apply pw_below_drewN|apply below_drew1)|exact HB.out)⟩⟩
          case round =>
           clear H'
           try clear c1
           try clear p1
           try clear q1
           try clear hx1
           try clear p2
           try clear c4
           try clear c4b0
           try clear c4b1
           try clear c5
           try clear c8
           try clear c8b0
           try clear c9
           try clear c9b0
           try clear c10
           try clear c10b0
           try clear c11
           try clear c11b0
           try clear c11b1
           try clear hx167_0
           try clear p167
           try clear p2
           try clear q167
           obtain ⟨x39_3,rfl,HA,HK3,HB⟩:=hrel
           cases gk with
           | zero=>exact absurd HA.out (by simp [bosunlaw10_YlinesPads.l1])
           | succ k3 =>
            have H:=HA.out
            clear HA
            simp only [bosunlaw10_YlinesPads.l1] at H
            by_cases c14 : x39_3 < ((rdOf ByteArray.empty l0 x28_2).size : Int)
            ·rw [if_pos c14] at H
             have c14b0 : decide (x39_3 < ((rdOf ByteArray.empty l0 x28_2).size : Int)) = true:=decide_eq_true c14
             clear c14
             by_cases c15 : 0 ≤ x39_3
             ·rw [if_pos c15] at H
              have c15b0 : decide (0 ≤ x39_3) = true:=decide_eq_true c15
              clear c15
              by_cases c16 : x39_3 < ((rdOf ByteArray.empty l0 x28_2).size : Int)
              ·rw [if_pos c16] at H
               have c16b0 : decide (x39_3 < ((rdOf ByteArray.empty l0 x28_2).size : Int)) = true:=decide_eq_true c16
               clear c16
               by_cases c18 : (bt (rdOf ByteArray.empty l0 x28_2) x39_3) = 10
               ·rw [if_pos c18] at H
                have c18b0 : ((bt (rdOf ByteArray.empty l0 x28_2) x39_3) == 10) = true:=beq_iff_eq.mpr c18
                have c18b1 : ((bt (rdOf ByteArray.empty l0 x28_2) x39_3) != 10) = false:=bne_eq_false_iff_eq.mpr c18
                clear c18
                replace H:=Option.bind_eq_some_iff.mp H
                obtain ⟨t169,A190,H⟩:=H
                replace H : (some t169) = some r:=H
                have A19:=Aside0.mk A190
                clear A190
                obtain rfl:=Option.some.inj H
                have p17 : 0 ≤ (x39_3 : Int):=of_decide_eq_true (by first|(with_reducible assumption)|assumption)
                have q17 : x39_3 < ((rdOf ByteArray.empty l0 x28_2).size : Int):=of_decide_eq_true (by first|(with_reducible assumption)|assumption)
                have hx17:=bt_at (rdOf ByteArray.empty l0 x28_2) x39_3
                replace p17:=eq_true p17
                replace q17:=eq_true q17
                go_wp2_with (first|(go_at_call 5;(with_reducible refine (bosunlaw10_Awake.calls k3  t169 _ A19.out (by first|assumption|exact GW.below hG (by first|exact HB.out|assumption|(repeat (first|(with_reducible first|exact HB.out|apply below_alloc|apply pw_below_drewN|apply below_drew1)|exact HB.out)))|exact GW.drawn hG (by first|assumption|(repeat (first|exact Drawn0.refl _|assumption|apply Drawn0.step))))).mono ?_);rintro e w20 ⟨rfl,hb⟩;have n0_:=Aside0.mk (below_step (by repeat (first|(with_reducible first|exact HB.out|apply below_alloc|apply pw_below_drewN|apply below_drew1)|exact HB.out)) hb);clear HB;have HB:=n0_;clear n0_;(try clear hb);(try clear hb2);(try clear hk);(try clear hi)))
                repeat (go_quiet (first|(go_at_call 5;(with_reducible refine (bosunlaw10_Awake.calls k3  t169 _ A19.out (by first|assumption|exact GW.below hG (by first|exact HB.out|assumption|(repeat (first|(with_reducible first|exact HB.out|apply below_alloc|apply pw_below_drewN|apply below_drew1)|exact HB.out)))|exact GW.drawn hG (by first|assumption|(repeat (first|exact Drawn0.refl _|assumption|apply Drawn0.step))))).mono ?_);rintro e w20 ⟨rfl,hb⟩;have n0_:=Aside0.mk (below_step (by repeat (first|(with_reducible first|exact HB.out|apply below_alloc|apply pw_below_drewN|apply below_drew1)|exact HB.out)) hb);clear HB;have HB:=n0_;clear n0_;(try clear hb);(try clear hb2);(try clear hk);(try clear hi)));try go_wp2_with (first|(go_at_call 5;(with_reducible refine (bosunlaw10_Awake.calls k3  t169 _ A19.out (by first|assumption|exact GW.below hG (by first|exact HB.out|assumption|(repeat (first|(with_reducible first|exact HB.out|apply below_alloc|apply pw_below_drewN|apply below_drew1)|exact HB.out)))|exact GW.drawn hG (by first|assumption|(repeat (first|exact Drawn0.refl _|assumption|apply Drawn0.step))))).mono ?_);rintro e w20 ⟨rfl,hb⟩;have n0_:=Aside0.mk (below_step (by repeat (first|(with_reducible first|exact HB.out|apply below_alloc|apply pw_below_drewN|apply below_drew1)|exact HB.out)) hb);clear HB;have HB:=n0_;clear n0_;(try clear hb);(try clear hb2);(try clear hk);(try clear hi))))
                go_ret
                exact ⟨by first|rfl|(simp [errW_none,errW_some] <;> rfl)|(simp [*,errW_none,errW_some] <;> rfl),by repeat (first|(with_reducible first|exact HB.out|apply below_alloc|apply pw_below_drewN|apply below_drew1)|exact HB.out)⟩
               ·rw [if_neg c18] at H
                have c18b0 : ((bt (rdOf ByteArray.empty l0 x28_2) x39_3) == 10) = false:=beq_eq_false_iff_ne.mpr c18
                have c18b1 : ((bt (rdOf ByteArray.empty l0 x28_2) x39_3) != 10) = true:=bne_iff_ne.mpr c18
                by_cases c22 : (bt (rdOf ByteArray.empty l0 x28_2) x39_3) = 35
                ·rw [if_pos c22] at H
                 have c22b0 : ((bt (rdOf ByteArray.empty l0 x28_2) x39_3) == 35) = true:=beq_iff_eq.mpr c22
                 have c22b1 : ((bt (rdOf ByteArray.empty l0 x28_2) x39_3) != 35) = false:=bne_eq_false_iff_eq.mpr c22
                 clear c22
                 replace H:=Option.bind_eq_some_iff.mp H
                 obtain ⟨t170,A230,H⟩:=H
                 replace H : (some t170) = some r:=H
                 have A23:=Aside0.mk A230
                 clear A230
                 obtain rfl:=Option.some.inj H
                 have p17 : 0 ≤ (x39_3 : Int):=of_decide_eq_true (by first|(with_reducible assumption)|assumption)
                 have q17 : x39_3 < ((rdOf ByteArray.empty l0 x28_2).size : Int):=of_decide_eq_true (by first|(with_reducible assumption)|assumption)
                 have hx17:=bt_at (rdOf ByteArray.empty l0 x28_2) x39_3
                 replace p17:=eq_true p17
                 replace q17:=eq_true q17
                 have p21 : 0 ≤ (x39_3 : Int):=of_decide_eq_true (by first|(with_reducible assumption)|assumption)
                 have q21 : x39_3 < ((rdOf ByteArray.empty l0 x28_2).size : Int):=of_decide_eq_true (by first|(with_reducible assumption)|assumption)
                 have hx21:=bt_at (rdOf ByteArray.empty l0 x28_2) x39_3
                 replace p21:=eq_true p21
                 replace q21:=eq_true q21
                 go_wp2_with (first|(go_at_call 5;(with_reducible refine (bosunlaw10_Awake.calls k3  t170 _ A23.out (by first|assumption|exact GW.below hG (by first|exact HB.out|assumption|(repeat (first|(with_reducible first|exact HB.out|apply below_alloc|apply pw_below_drewN|apply below_drew1)|exact HB.out)))|exact GW.drawn hG (by first|assumption|(repeat (first|exact Drawn0.refl _|assumption|apply Drawn0.step))))).mono ?_);rintro e w24 ⟨rfl,hb⟩;have n0_:=Aside0.mk (below_step (by repeat (first|(with_reducible first|exact HB.out|apply below_alloc|apply pw_below_drewN|apply below_drew1)|exact HB.out)) hb);clear HB;have HB:=n0_;clear n0_;(try clear hb);(try clear hb2);(try clear hk);(try clear hi)))
                 repeat (go_quiet (first|(go_at_call 5;(with_reducible refine (bosunlaw10_Awake.calls k3  t170 _ A23.out (by first|assumption|exact GW.below hG (by first|exact HB.out|assumption|(repeat (first|(with_reducible first|exact HB.out|apply below_alloc|apply pw_below_drewN|apply below_drew1)|exact HB.out)))|exact GW.drawn hG (by first|assumption|(repeat (first|exact Drawn0.refl _|assumption|apply Drawn0.step))))).mono ?_);rintro e w24 ⟨rfl,hb⟩;have n0_:=Aside0.mk (below_step (by repeat (first|(with_reducible first|exact HB.out|apply below_alloc|apply pw_below_drewN|apply below_drew1)|exact HB.out)) hb);clear HB;have HB:=n0_;clear n0_;(try clear hb);(try clear hb2);(try clear hk);(try clear hi)));try go_wp2_with (first|(go_at_call 5;(with_reducible refine (bosunlaw10_Awake.calls k3  t170 _ A23.out (by first|assumption|exact GW.below hG (by first|exact HB.out|assumption|(repeat (first|(with_reducible first|exact HB.out|apply below_alloc|apply pw_below_drewN|apply below_drew1)|exact HB.out)))|exact GW.drawn hG (by first|assumption|(repeat (first|exact Drawn0.refl _|assumption|apply Drawn0.step))))).mono ?_);rintro e w24 ⟨rfl,hb⟩;have n0_:=Aside0.mk (below_step (by repeat (first|(with_reducible first|exact HB.out|apply below_alloc|apply pw_below_drewN|apply below_drew1)|exact HB.out)) hb);clear HB;have HB:=n0_;clear n0_;(try clear hb);(try clear hb2);(try clear hk);(try clear hi))))
                 go_ret
                 exact ⟨by first|rfl|(simp [errW_none,errW_some] <;> rfl)|(simp [*,errW_none,errW_some] <;> rfl),by repeat (first|(with_reducible first|exact HB.out|apply below_alloc|apply pw_below_drewN|apply below_drew1)|exact HB.out)⟩
                ·rw [if_neg c22] at H
                 have c22b0 : ((bt (rdOf ByteArray.empty l0 x28_2) x39_3) == 35) = false:=beq_eq_false_iff_ne.mpr c22
                 have c22b1 : ((bt (rdOf ByteArray.empty l0 x28_2) x39_3) != 35) = true:=bne_iff_ne.mpr c22
                 by_cases c26 : (bt (rdOf ByteArray.empty l0 x28_2) x39_3) = 34
                 ·rw [if_pos c26] at H
                  have c26b0 : ((bt (rdOf ByteArray.empty l0 x28_2) x39_3) == 34) = true:=beq_iff_eq.mpr c26
                  have c26b1 : ((bt (rdOf ByteArray.empty l0 x28_2) x39_3) != 34) = false:=bne_eq_false_iff_eq.mpr c26
                  clear c26
                  replace H:=Option.bind_eq_some_iff.mp H
                  obtain ⟨t171,A270,H⟩:=H
                  replace H : (some t171) = some r:=H
                  have A27:=Aside0.mk A270
                  clear A270
                  obtain rfl:=Option.some.inj H
                  have p17 : 0 ≤ (x39_3 : Int):=of_decide_eq_true (by first|(with_reducible assumption)|assumption)
                  have q17 : x39_3 < ((rdOf ByteArray.empty l0 x28_2).size : Int):=of_decide_eq_true (by first|(with_reducible assumption)|assumption)
                  have hx17:=bt_at (rdOf ByteArray.empty l0 x28_2) x39_3
                  replace p17:=eq_true p17
                  replace q17:=eq_true q17
                  have p21 : 0 ≤ (x39_3 : Int):=of_decide_eq_true (by first|(with_reducible assumption)|assumption)
                  have q21 : x39_3 < ((rdOf ByteArray.empty l0 x28_2).size : Int):=of_decide_eq_true (by first|(with_reducible assumption)|assumption)
                  have hx21:=bt_at (rdOf ByteArray.empty l0 x28_2) x39_3
                  replace p21:=eq_true p21
                  replace q21:=eq_true q21
                  have p25 : 0 ≤ (x39_3 : Int):=of_decide_eq_true (by first|(with_reducible assumption)|assumption)
                  have q25 : x39_3 < ((rdOf ByteArray.empty l0 x28_2).size : Int):=of_decide_eq_true (by first|(with_reducible assumption)|assumption)
                  have hx25:=bt_at (rdOf ByteArray.empty l0 x28_2) x39_3
                  replace p25:=eq_true p25
                  replace q25:=eq_true q25
                  go_wp2_with (first|(go_at_call 5;(with_reducible refine (bosunlaw10_Awake.calls k3  t171 _ A27.out (by first|assumption|exact GW.below hG (by first|exact HB.out|assumption|(repeat (first|(with_reducible first|exact HB.out|apply below_alloc|apply pw_below_drewN|apply below_drew1)|exact HB.out)))|exact GW.drawn hG (by first|assumption|(repeat (first|exact Drawn0.refl _|assumption|apply Drawn0.step))))).mono ?_);rintro e w28 ⟨rfl,hb⟩;have n0_:=Aside0.mk (below_step (by repeat (first|(with_reducible first|exact HB.out|apply below_alloc|apply pw_below_drewN|apply below_drew1)|exact HB.out)) hb);clear HB;have HB:=n0_;clear n0_;(try clear hb);(try clear hb2);(try clear hk);(try clear hi)))
                  repeat (go_quiet (first|(go_at_call 5;(with_reducible refine (bosunlaw10_Awake.calls k3  t171 _ A27.out (by first|assumption|exact GW.below hG (by first|exact HB.out|assumption|(repeat (first|(with_reducible first|exact HB.out|apply below_alloc|apply pw_below_drewN|apply below_drew1)|exact HB.out)))|exact GW.drawn hG (by first|assumption|(repeat (first|exact Drawn0.refl _|assumption|apply Drawn0.step))))).mono ?_);rintro e w28 ⟨rfl,hb⟩;have n0_:=Aside0.mk (below_step (by repeat (first|(with_reducible first|exact HB.out|apply below_alloc|apply pw_below_drewN|apply below_drew1)|exact HB.out)) hb);clear HB;have HB:=n0_;clear n0_;(try clear hb);(try clear hb2);(try clear hk);(try clear hi)));try go_wp2_with (first|(go_at_call 5;(with_reducible refine (bosunlaw10_Awake.calls k3  t171 _ A27.out (by first|assumption|exact GW.below hG (by first|exact HB.out|assumption|(repeat (first|(with_reducible first|exact HB.out|apply below_alloc|apply pw_below_drewN|apply below_drew1)|exact HB.out)))|exact GW.drawn hG (by first|assumption|(repeat (first|exact Drawn0.refl _|assumption|apply Drawn0.step))))).mono ?_);rintro e w28 ⟨rfl,hb⟩;have n0_:=Aside0.mk (below_step (by repeat (first|(with_reducible first|exact HB.out|apply below_alloc|apply pw_below_drewN|apply below_drew1)|exact HB.out)) hb);clear HB;have HB:=n0_;clear n0_;(try clear hb);(try clear hb2);(try clear hk);(try clear hi))))
                  go_ret
                  exact ⟨by first|rfl|(simp [errW_none,errW_some] <;> rfl)|(simp [*,errW_none,errW_some] <;> rfl),by repeat (first|(with_reducible first|exact HB.out|apply below_alloc|apply pw_below_drewN|apply below_drew1)|exact HB.out)⟩
                 ·rw [if_neg c26] at H
                  have c26b0 : ((bt (rdOf ByteArray.empty l0 x28_2) x39_3) == 34) = false:=beq_eq_false_iff_ne.mpr c26
                  have c26b1 : ((bt (rdOf ByteArray.empty l0 x28_2) x39_3) != 34) = true:=bne_iff_ne.mpr c26
                  have H':=Aside0.mk H
                  clear H
                  have p17 : 0 ≤ (x39_3 : Int):=of_decide_eq_true (by first|(with_reducible assumption)|assumption)
                  have q17 : x39_3 < ((rdOf ByteArray.empty l0 x28_2).size : Int):=of_decide_eq_true (by first|(with_reducible assumption)|assumption)
                  have hx17:=bt_at (rdOf ByteArray.empty l0 x28_2) x39_3
                  replace p17:=eq_true p17
                  replace q17:=eq_true q17
                  have p21 : 0 ≤ (x39_3 : Int):=of_decide_eq_true (by first|(with_reducible assumption)|assumption)
                  have q21 : x39_3 < ((rdOf ByteArray.empty l0 x28_2).size : Int):=of_decide_eq_true (by first|(with_reducible assumption)|assumption)
                  have hx21:=bt_at (rdOf ByteArray.empty l0 x28_2) x39_3
                  replace p21:=eq_true p21
                  replace q21:=eq_true q21
                  have p25 : 0 ≤ (x39_3 : Int):=of_decide_eq_true (by first|(with_reducible assumption)|assumption)
                  have q25 : x39_3 < ((rdOf ByteArray.empty l0 x28_2).size : Int):=of_decide_eq_true (by first|(with_reducible assumption)|assumption)
                  have hx25:=bt_at (rdOf ByteArray.empty l0 x28_2) x39_3
                  replace p25:=eq_true p25
                  replace q25:=eq_true q25
                  go_wp2
                  repeat (go_quiet (fail);try go_wp2)
                  go_roundg k3
                  case measure=>have:=HJ2.out;have:=HK2.out;have:=HK3.out;omega
                  case rel=>exact ⟨(wrap64 (x39_3 + 1)),(by first|rfl|(simp;done)|(simp [*];done)),H',⟨by have:=HJ2.out;have:=HK2.out;have:=HK3.out;omega⟩,⟨by repeat (first|(with_reducible first|exact HB.out|apply below_alloc|apply pw_below_drewN|apply below_drew1)|exact HB.out)⟩⟩
              ·rw [if_neg c16] at H
               exact absurd H (by simp)
             ·rw [if_neg c15] at H
              exact absurd H (by simp)
            ·rw [if_neg c14] at H
             have c14b0 : decide (x39_3 < ((rdOf ByteArray.empty l0 x28_2).size : Int)) = false:=decide_eq_false c14
             clear c14
             by_cases c29 : (rdOf ByteArray.empty l0 x28_2).size + 1 ≤ 9223372036854775807
             ·rw [if_pos c29] at H
              have c29b0:=eq_true c29
              have c29b1 : decide ((rdOf ByteArray.empty l0 x28_2).size + 1 ≤ 9223372036854775807) = true:=decide_eq_true c29
              try have c29b2 : (9223372036854775807 < (rdOf ByteArray.empty l0 x28_2).size + 1) = False:=eq_false (Nat.not_lt.2 c29)
              by_cases c30 : x5_2.size + ((rdOf ByteArray.empty l0 x28_2) ++ (⟨#[10]⟩ : ByteArray)).size ≤ 9223372036854775807
              ·rw [if_pos c30] at H
               have c30b0:=eq_true c30
               have c30b1 : decide (x5_2.size + ((rdOf ByteArray.empty l0 x28_2) ++ (⟨#[10]⟩ : ByteArray)).size ≤ 9223372036854775807) = true:=decide_eq_true c30
               try have c30b2 : (9223372036854775807 < x5_2.size + ((rdOf ByteArray.empty l0 x28_2) ++ (⟨#[10]⟩ : ByteArray)).size) = False:=eq_false (Nat.not_lt.2 c30)
               have c30s:=c30
               try simp only [ByteArray.size_append] at c30s
               try have c30s0:=eq_false (Nat.not_lt.2 c30s)
               try have c30s1:=eq_true c30s
               by_cases c31 : x28_2 < (l1.length : Int)
               ·rw [if_pos c31] at H
                have c31b0 : decide (x28_2 < (l1.length : Int)) = true:=decide_eq_true c31
                clear c31
                obtain ⟨y172,hy172⟩ : ∃ y_ : List ByteArray,y_ = (([(⟨#[]⟩ : ByteArray),(⟨#[32]⟩ : ByteArray),(⟨#[32,35,32,120]⟩ : ByteArray),(⟨#[10]⟩ : ByteArray),(⟨#[10,32,32,35,32,34]⟩ : ByteArray),(⟨#[32,32,32]⟩ : ByteArray)] : List ByteArray)):=⟨_,rfl⟩
                replace H : (if 0 ≤ x28_2 then (if 0 ≤ (Int.tmod (rd l1 x28_2) 6) then (if (Int.tmod (rd l1 x28_2) 6) < (y172.length : Int) then (if (rdOf ByteArray.empty l0 x28_2).size + (rdOf ByteArray.empty y172 (Int.tmod (rd l1 x28_2) 6)).size ≤ 9223372036854775807 then (if ((rdOf ByteArray.empty l0 x28_2) ++ (rdOf ByteArray.empty y172 (Int.tmod (rd l1 x28_2) 6))).size + 1 ≤ 9223372036854775807 then (if x6_2.size + (((rdOf ByteArray.empty l0 x28_2) ++ (rdOf ByteArray.empty y172 (Int.tmod (rd l1 x28_2) 6))) ++ (⟨#[10]⟩ : ByteArray)).size ≤ 9223372036854775807 then (bosunlaw10_YlinesPads.l0 k3 l1 (x5_2 ++ ((rdOf ByteArray.empty l0 x28_2) ++ (⟨#[10]⟩ : ByteArray))) (x6_2 ++ (((rdOf ByteArray.empty l0 x28_2) ++ (rdOf ByteArray.empty y172 (Int.tmod (rd l1 x28_2) 6))) ++ (⟨#[10]⟩ : ByteArray))) l0 (l0.length : Int) (wrap64 (x28_2 + 1))) else (none)) else (none)) else (none)) else (none)) else (none)) else (none)) = some r:=by first|(rw [hy172];with_reducible exact H)|(have H2_:=(Option.bind_some _ _).symm.trans H;rw [hy172];with_reducible exact H2_)|(have H2_:=(Option.bind_some _ _).symm.trans H;with_reducible exact H2_)|with_reducible exact H|(rw [hy172];exact H)|exact H
                have Ny172:=Aside0.mk hy172
                clear hy172
                by_cases c32 : 0 ≤ x28_2
                ·rw [if_pos c32] at H
                 have c32b0 : decide (0 ≤ x28_2) = true:=decide_eq_true c32
                 clear c32
                 obtain ⟨ji33,hji33⟩ : ∃ j_ : Int,(Int.tmod (rd l1 x28_2) 6) = j_:=⟨_,rfl⟩
                 replace H : (if 0 ≤ (ji33) then (if (ji33) < (y172.length : Int) then (if (rdOf ByteArray.empty l0 x28_2).size + (rdOf ByteArray.empty y172 (ji33)).size ≤ 9223372036854775807 then (if ((rdOf ByteArray.empty l0 x28_2) ++ (rdOf ByteArray.empty y172 (ji33))).size + 1 ≤ 9223372036854775807 then (if x6_2.size + (((rdOf ByteArray.empty l0 x28_2) ++ (rdOf ByteArray.empty y172 (ji33))) ++ (⟨#[10]⟩ : ByteArray)).size ≤ 9223372036854775807 then (bosunlaw10_YlinesPads.l0 k3 l1 (x5_2 ++ ((rdOf ByteArray.empty l0 x28_2) ++ (⟨#[10]⟩ : ByteArray))) (x6_2 ++ (((rdOf ByteArray.empty l0 x28_2) ++ (rdOf ByteArray.empty y172 (ji33))) ++ (⟨#[10]⟩ : ByteArray))) l0 (l0.length : Int) (wrap64 (x28_2 + 1))) else (none)) else (none)) else (none)) else (none)) else (none)) = some r:=by first|(rw [hji33] at H;exact H)|(simp only [hji33] at H ⊢;exact H)
                 by_cases c34 : 0 ≤ (ji33)
                 ·rw [if_pos c34] at H
                  have c34b0 : decide (0 ≤ (ji33)) = true:=decide_eq_true c34
                  clear c34
                  by_cases c35 : (ji33) < (y172.length : Int)
                  ·rw [if_pos c35] at H
                   have c35b0 : decide ((ji33) < (y172.length : Int)) = true:=decide_eq_true c35
                   clear c35
                   by_cases c36 : (rdOf ByteArray.empty l0 x28_2).size + (rdOf ByteArray.empty y172 (ji33)).size ≤ 9223372036854775807
                   ·rw [if_pos c36] at H
                    have c36b0:=eq_true c36
                    have c36b1 : decide ((rdOf ByteArray.empty l0 x28_2).size + (rdOf ByteArray.empty y172 (ji33)).size ≤ 9223372036854775807) = true:=decide_eq_true c36
                    try have c36b2 : (9223372036854775807 < (rdOf ByteArray.empty l0 x28_2).size + (rdOf ByteArray.empty y172 (ji33)).size) = False:=eq_false (Nat.not_lt.2 c36)
                    by_cases c37 : ((rdOf ByteArray.empty l0 x28_2) ++ (rdOf ByteArray.empty y172 (ji33))).size + 1 ≤ 9223372036854775807
                    ·rw [if_pos c37] at H
                     have c37b0:=eq_true c37
                     have c37b1 : decide (((rdOf ByteArray.empty l0 x28_2) ++ (rdOf ByteArray.empty y172 (ji33))).size + 1 ≤ 9223372036854775807) = true:=decide_eq_true c37
                     try have c37b2 : (9223372036854775807 < ((rdOf ByteArray.empty l0 x28_2) ++ (rdOf ByteArray.empty y172 (ji33))).size + 1) = False:=eq_false (Nat.not_lt.2 c37)
                     have c37s:=c37
                     try simp only [ByteArray.size_append] at c37s
                     try have c37s0:=eq_false (Nat.not_lt.2 c37s)
                     try have c37s1:=eq_true c37s
                     by_cases c38 : x6_2.size + (((rdOf ByteArray.empty l0 x28_2) ++ (rdOf ByteArray.empty y172 (ji33))) ++ (⟨#[10]⟩ : ByteArray)).size ≤ 9223372036854775807
                     ·rw [if_pos c38] at H
                      have c38b0:=eq_true c38
                      have c38b1 : decide (x6_2.size + (((rdOf ByteArray.empty l0 x28_2) ++ (rdOf ByteArray.empty y172 (ji33))) ++ (⟨#[10]⟩ : ByteArray)).size ≤ 9223372036854775807) = true:=decide_eq_true c38
                      try have c38b2 : (9223372036854775807 < x6_2.size + (((rdOf ByteArray.empty l0 x28_2) ++ (rdOf ByteArray.empty y172 (ji33))) ++ (⟨#[10]⟩ : ByteArray)).size) = False:=eq_false (Nat.not_lt.2 c38)
                      have c38s:=c38
                      try simp only [ByteArray.size_append] at c38s
                      try have c38s0:=eq_false (Nat.not_lt.2 c38s)
                      try have c38s1:=eq_true c38s
                      have H':=Aside0.mk H
                      clear H
                      go_wp2_with (first|((with_reducible refine gate_dst (N:=69) rfl ?_);(try (refine gate_guard (by rfl) ?_;dsimp only));refine Kd.R_lit Kd.string _ 9 ?hg (N:=69) ?hd (xs:=([(⟨#[]⟩ : ByteArray),(⟨#[32]⟩ : ByteArray),(⟨#[32,35,32,120]⟩ : ByteArray),(⟨#[10]⟩ : ByteArray),(⟨#[10,32,32,35,32,34]⟩ : ByteArray),(⟨#[32,32,32]⟩ : ByteArray)] : List ByteArray)) (inner:=[.string (⟨#[]⟩ : ByteArray),.string (⟨#[32]⟩ : ByteArray),.string (⟨#[32,35,32,120]⟩ : ByteArray),.string (⟨#[10]⟩ : ByteArray),.string (⟨#[10,32,32,35,32,34]⟩ : ByteArray),.string (⟨#[32,32,32]⟩ : ByteArray)]) (ok:=fun _=>True) (okp:=fun _=>True) ?hr ?hp (fun _ hk=>hk) trivial (Below.refl _ _) (Nat.le_refl _) (by simp) ?_;(case hd=>rfl);(case hg=>rfl);(case hr=>first|(go_simp;done)|(go_simp;rfl));(case hp=>exact (Reps.one (show Kd.M Kd.string _ _ _ (⟨#[]⟩ : ByteArray) [.string (⟨#[]⟩ : ByteArray)] from rfl) (Reps.one (show Kd.M Kd.string _ _ _ (⟨#[32]⟩ : ByteArray) [.string (⟨#[32]⟩ : ByteArray)] from rfl) (Reps.one (show Kd.M Kd.string _ _ _ (⟨#[32,35,32,120]⟩ : ByteArray) [.string (⟨#[32,35,32,120]⟩ : ByteArray)] from rfl) (Reps.one (show Kd.M Kd.string _ _ _ (⟨#[10]⟩ : ByteArray) [.string (⟨#[10]⟩ : ByteArray)] from rfl) (Reps.one (show Kd.M Kd.string _ _ _ (⟨#[10,32,32,35,32,34]⟩ : ByteArray) [.string (⟨#[10,32,32,35,32,34]⟩ : ByteArray)] from rfl) (Reps.one (show Kd.M Kd.string _ _ _ (⟨#[32,32,32]⟩ : ByteArray) [.string (⟨#[32,32,32]⟩ : ByteArray)] from rfl) (Reps.none _ _))))))));intro v173 w39 ho40 hb hg_ hnew_;clear hg_ hnew_;(first|rw [← Ny172.out] at ho40|(simp only [Int.reduceToNat] at ho40;rw [← Ny172.out] at ho40));have n0_:=Aside0.mk (Kd.R_lower ho40 (below_size (by repeat (first|(with_reducible first|exact HB.out|apply below_alloc|apply pw_below_drewN|apply below_drew1)|exact HB.out))));have n1_:=Aside0.mk (below_step (by repeat (first|(with_reducible first|exact HB.out|apply below_alloc|apply pw_below_drewN|apply below_drew1)|exact HB.out)) hb);clear HB;have HO174:=n0_;have HB:=n1_;clear n0_ n1_;clear hb ho40;have p175 : 0 ≤ (x28_2 : Int):=of_decide_eq_true (by first|(with_reducible assumption)|assumption);have q175 : x28_2 < (l1.length : Int):=of_decide_eq_true (by first|(with_reducible assumption)|assumption);obtain ⟨ad175,e175,hx175_0⟩:=Kd.at_int HR1.out x28_2 p175 q175;cases e175;replace hx175_0:=(HB.out.cell (World.block_lt_of_cell? w _ hx175_0)).trans hx175_0;replace p175:=eq_true p175;replace q175:=eq_true q175;obtain ⟨Ao41,co41,eo41⟩:=Kd.R_slice HO174.out;subst eo41;have p176 : 0 ≤ ((ji33) : Int):=of_decide_eq_true (by first|(with_reducible assumption)|assumption);have q176 : (ji33) < (y172.length : Int):=of_decide_eq_true (by first|(with_reducible assumption)|assumption);obtain ⟨ad176,e176,hx176_0⟩:=Kd.at_string (Kd.R_reads' HO174.out).2.2 (ji33) p176 q176;cases e176;replace p176:=eq_true p176;replace q176:=eq_true q176))
                      repeat (go_quiet (first|((with_reducible refine gate_dst (N:=69) rfl ?_);(try (refine gate_guard (by rfl) ?_;dsimp only));refine Kd.R_lit Kd.string _ 9 ?hg (N:=69) ?hd (xs:=([(⟨#[]⟩ : ByteArray),(⟨#[32]⟩ : ByteArray),(⟨#[32,35,32,120]⟩ : ByteArray),(⟨#[10]⟩ : ByteArray),(⟨#[10,32,32,35,32,34]⟩ : ByteArray),(⟨#[32,32,32]⟩ : ByteArray)] : List ByteArray)) (inner:=[.string (⟨#[]⟩ : ByteArray),.string (⟨#[32]⟩ : ByteArray),.string (⟨#[32,35,32,120]⟩ : ByteArray),.string (⟨#[10]⟩ : ByteArray),.string (⟨#[10,32,32,35,32,34]⟩ : ByteArray),.string (⟨#[32,32,32]⟩ : ByteArray)]) (ok:=fun _=>True) (okp:=fun _=>True) ?hr ?hp (fun _ hk=>hk) trivial (Below.refl _ _) (Nat.le_refl _) (by simp) ?_;(case hd=>rfl);(case hg=>rfl);(case hr=>first|(go_simp;done)|(go_simp;rfl));(case hp=>exact (Reps.one (show Kd.M Kd.string _ _ _ (⟨#[]⟩ : ByteArray) [.string (⟨#[]⟩ : ByteArray)] from rfl) (Reps.one (show Kd.M Kd.string _ _ _ (⟨#[32]⟩ : ByteArray) [.string (⟨#[32]⟩ : ByteArray)] from rfl) (Reps.one (show Kd.M Kd.string _ _ _ (⟨#[32,35,32,120]⟩ : ByteArray) [.string (⟨#[32,35,32,120]⟩ : ByteArray)] from rfl) (Reps.one (show Kd.M Kd.string _ _ _ (⟨#[10]⟩ : ByteArray) [.string (⟨#[10]⟩ : ByteArray)] from rfl) (Reps.one (show Kd.M Kd.string _ _ _ (⟨#[10,32,32,35,32,34]⟩ : ByteArray) [.string (⟨#[10,32,32,35,32,34]⟩ : ByteArray)] from rfl) (Reps.one (show Kd.M Kd.string _ _ _ (⟨#[32,32,32]⟩ : ByteArray) [.string (⟨#[32,32,32]⟩ : ByteArray)] from rfl) (Reps.none _ _))))))));intro v173 w39 ho40 hb hg_ hnew_;clear hg_ hnew_;(first|rw [← Ny172.out] at ho40|(simp only [Int.reduceToNat] at ho40;rw [← Ny172.out] at ho40));have n0_:=Aside0.mk (Kd.R_lower ho40 (below_size (by repeat (first|(with_reducible first|exact HB.out|apply below_alloc|apply pw_below_drewN|apply below_drew1)|exact HB.out))));have n1_:=Aside0.mk (below_step (by repeat (first|(with_reducible first|exact HB.out|apply below_alloc|apply pw_below_drewN|apply below_drew1)|exact HB.out)) hb);clear HB;have HO174:=n0_;have HB:=n1_;clear n0_ n1_;clear hb ho40;have p175 : 0 ≤ (x28_2 : Int):=of_decide_eq_true (by first|(with_reducible assumption)|assumption);have q175 : x28_2 < (l1.length : Int):=of_decide_eq_true (by first|(with_reducible assumption)|assumption);obtain ⟨ad175,e175,hx175_0⟩:=Kd.at_int HR1.out x28_2 p175 q175;cases e175;replace hx175_0:=(HB.out.cell (World.block_lt_of_cell? w _ hx175_0)).trans hx175_0;replace p175:=eq_true p175;replace q175:=eq_true q175;obtain ⟨Ao41,co41,eo41⟩:=Kd.R_slice HO174.out;subst eo41;have p176 : 0 ≤ ((ji33) : Int):=of_decide_eq_true (by first|(with_reducible assumption)|assumption);have q176 : (ji33) < (y172.length : Int):=of_decide_eq_true (by first|(with_reducible assumption)|assumption);obtain ⟨ad176,e176,hx176_0⟩:=Kd.at_string (Kd.R_reads' HO174.out).2.2 (ji33) p176 q176;cases e176;replace p176:=eq_true p176;replace q176:=eq_true q176));try go_wp2_with (first|((with_reducible refine gate_dst (N:=69) rfl ?_);(try (refine gate_guard (by rfl) ?_;dsimp only));refine Kd.R_lit Kd.string _ 9 ?hg (N:=69) ?hd (xs:=([(⟨#[]⟩ : ByteArray),(⟨#[32]⟩ : ByteArray),(⟨#[32,35,32,120]⟩ : ByteArray),(⟨#[10]⟩ : ByteArray),(⟨#[10,32,32,35,32,34]⟩ : ByteArray),(⟨#[32,32,32]⟩ : ByteArray)] : List ByteArray)) (inner:=[.string (⟨#[]⟩ : ByteArray),.string (⟨#[32]⟩ : ByteArray),.string (⟨#[32,35,32,120]⟩ : ByteArray),.string (⟨#[10]⟩ : ByteArray),.string (⟨#[10,32,32,35,32,34]⟩ : ByteArray),.string (⟨#[32,32,32]⟩ : ByteArray)]) (ok:=fun _=>True) (okp:=fun _=>True) ?hr ?hp (fun _ hk=>hk) trivial (Below.refl _ _) (Nat.le_refl _) (by simp) ?_;(case hd=>rfl);(case hg=>rfl);(case hr=>first|(go_simp;done)|(go_simp;rfl));(case hp=>exact (Reps.one (show Kd.M Kd.string _ _ _ (⟨#[]⟩ : ByteArray) [.string (⟨#[]⟩ : ByteArray)] from rfl) (Reps.one (show Kd.M Kd.string _ _ _ (⟨#[32]⟩ : ByteArray) [.string (⟨#[32]⟩ : ByteArray)] from rfl) (Reps.one (show Kd.M Kd.string _ _ _ (⟨#[32,35,32,120]⟩ : ByteArray) [.string (⟨#[32,35,32,120]⟩ : ByteArray)] from rfl) (Reps.one (show Kd.M Kd.string _ _ _ (⟨#[10]⟩ : ByteArray) [.string (⟨#[10]⟩ : ByteArray)] from rfl) (Reps.one (show Kd.M Kd.string _ _ _ (⟨#[10,32,32,35,32,34]⟩ : ByteArray) [.string (⟨#[10,32,32,35,32,34]⟩ : ByteArray)] from rfl) (Reps.one (show Kd.M Kd.string _ _ _ (⟨#[32,32,32]⟩ : ByteArray) [.string (⟨#[32,32,32]⟩ : ByteArray)] from rfl) (Reps.none _ _))))))));intro v173 w39 ho40 hb hg_ hnew_;clear hg_ hnew_;(first|rw [← Ny172.out] at ho40|(simp only [Int.reduceToNat] at ho40;rw [← Ny172.out] at ho40));have n0_:=Aside0.mk (Kd.R_lower ho40 (below_size (by repeat (first|(with_reducible first|exact HB.out|apply below_alloc|apply pw_below_drewN|apply below_drew1)|exact HB.out))));have n1_:=Aside0.mk (below_step (by repeat (first|(with_reducible first|exact HB.out|apply below_alloc|apply pw_below_drewN|apply below_drew1)|exact HB.out)) hb);clear HB;have HO174:=n0_;have HB:=n1_;clear n0_ n1_;clear hb ho40;have p175 : 0 ≤ (x28_2 : Int):=of_decide_eq_true (by first|(with_reducible assumption)|assumption);have q175 : x28_2 < (l1.length : Int):=of_decide_eq_true (by first|(with_reducible assumption)|assumption);obtain ⟨ad175,e175,hx175_0⟩:=Kd.at_int HR1.out x28_2 p175 q175;cases e175;replace hx175_0:=(HB.out.cell (World.block_lt_of_cell? w _ hx175_0)).trans hx175_0;replace p175:=eq_true p175;replace q175:=eq_true q175;obtain ⟨Ao41,co41,eo41⟩:=Kd.R_slice HO174.out;subst eo41;have p176 : 0 ≤ ((ji33) : Int):=of_decide_eq_true (by first|(with_reducible assumption)|assumption);have q176 : (ji33) < (y172.length : Int):=of_decide_eq_true (by first|(with_reducible assumption)|assumption);obtain ⟨ad176,e176,hx176_0⟩:=Kd.at_string (Kd.R_reads' HO174.out).2.2 (ji33) p176 q176;cases e176;replace p176:=eq_true p176;replace q176:=eq_true q176)))
                      go_roundg k3
                      case measure=>have:=HJ2.out;have:=HK2.out;have:=HK3.out;omega
                      case rel=>exact ⟨(x5_2 ++ ((rdOf ByteArray.empty l0 x28_2) ++ (⟨#[10]⟩ : ByteArray))),(x6_2 ++ (((rdOf ByteArray.empty l0 x28_2) ++ (rdOf ByteArray.empty y172 (ji33))) ++ (⟨#[10]⟩ : ByteArray))),(wrap64 (x28_2 + 1)),(by first|rfl|(simp;done)|(simp [*];done)),(by first|rfl|(simp;done)|(simp only [← hji33] <;> (first|rfl|simp))|(simp [*];done)),(by first|rfl|(simp;done)|(simp [*];done)),H',⟨by have:=HJ2.out;have:=HK2.out;have:=HK3.out;omega⟩,⟨by repeat (first|(with_reducible first|exact HB.out|apply below_alloc|apply pw_below_drewN|apply below_drew1)|exact HB.out)⟩⟩
                     ·rw [if_neg c38] at H
                      exact absurd H (by simp)
                    ·rw [if_neg c37] at H
                     exact absurd H (by simp)
                   ·rw [if_neg c36] at H
                    exact absurd H (by simp)
                  ·rw [if_neg c35] at H
                   exact absurd H (by simp)
                 ·rw [if_neg c34] at H
                  exact absurd H (by simp)
                ·rw [if_neg c32] at H
                 exact absurd H (by simp)
               ·rw [if_neg c31] at H
                have c31b0 : decide (x28_2 < (l1.length : Int)) = false:=decide_eq_false c31
                clear c31
                by_cases c42 : x6_2.size + ((rdOf ByteArray.empty l0 x28_2) ++ (⟨#[10]⟩ : ByteArray)).size ≤ 9223372036854775807
                ·rw [if_pos c42] at H
                 have c42b0:=eq_true c42
                 have c42b1 : decide (x6_2.size + ((rdOf ByteArray.empty l0 x28_2) ++ (⟨#[10]⟩ : ByteArray)).size ≤ 9223372036854775807) = true:=decide_eq_true c42
                 try have c42b2 : (9223372036854775807 < x6_2.size + ((rdOf ByteArray.empty l0 x28_2) ++ (⟨#[10]⟩ : ByteArray)).size) = False:=eq_false (Nat.not_lt.2 c42)
                 have c42s:=c42
                 try simp only [ByteArray.size_append] at c42s
                 try have c42s0:=eq_false (Nat.not_lt.2 c42s)
                 try have c42s1:=eq_true c42s
                 have H':=Aside0.mk H
                 clear H
                 go_wp2
                 repeat (go_quiet (fail);try go_wp2)
                 go_roundg k3
                 case measure=>have:=HJ2.out;have:=HK2.out;have:=HK3.out;omega
                 case rel=>exact ⟨(x5_2 ++ ((rdOf ByteArray.empty l0 x28_2) ++ (⟨#[10]⟩ : ByteArray))),(x6_2 ++ ((rdOf ByteArray.empty l0 x28_2) ++ (⟨#[10]⟩ : ByteArray))),(wrap64 (x28_2 + 1)),(by first|rfl|(simp;done)|(simp [*];done)),(by first|rfl|(simp;done)|(simp [*];done)),(by first|rfl|(simp;done)|(simp [*];done)),H',⟨by have:=HJ2.out;have:=HK2.out;have:=HK3.out;omega⟩,⟨by repeat (first|(with_reducible first|exact HB.out|apply below_alloc|apply pw_below_drewN|apply below_drew1)|exact HB.out)⟩⟩
                ·rw [if_neg c42] at H
                 exact absurd H (by simp)
              ·rw [if_neg c30] at H
               exact absurd H (by simp)
             ·rw [if_neg c29] at H
              exact absurd H (by simp)
        ·rw [if_neg c10] at H
         exact absurd H (by simp)
       ·rw [if_neg c9] at H
        exact absurd H (by simp)
      ·rw [if_neg c8] at H
       have c8b0 : decide (x28_2 < (l0.length : Int)) = false:=decide_eq_false c8
       clear c8
       replace H:=Option.bind_eq_some_iff.mp H
       obtain ⟨⟨t177,t178,t179⟩,A430,H⟩:=H
       replace H : ((ylines_Cut.f k2 x6_2).bind fun bt182=>(if t179 = bt182.2.2 then (bosunlaw10_YlinesPads.j3 k2 t177 bt182.1 ((t177.length : Int) != (bt182.1.length : Int))) else (bosunlaw10_YlinesPads.j3 k2 t177 bt182.1 true))) = some r:=H
       have A43:=Aside0.mk A430
       clear A430
       replace H:=Option.bind_eq_some_iff.mp H
       obtain ⟨⟨t182,t183,t184⟩,A440,H⟩:=H
       replace H : (if t179 = t184 then (bosunlaw10_YlinesPads.j3 k2 t177 t182 ((t177.length : Int) != (t182.length : Int))) else (bosunlaw10_YlinesPads.j3 k2 t177 t182 true)) = some r:=H
       have A44:=Aside0.mk A440
       clear A440
       have HC45:=Aside0.mk H
       clear H
       go_upto_region 22 with (first|(go_at_call 6;(with_reducible refine (ylines_Cut.calls k2 x5_2 t177 t178 t179 _ A43.out (by first|assumption|exact GW.below hG (by first|exact HB.out|assumption|(repeat (first|(with_reducible first|exact HB.out|apply below_alloc|apply pw_below_drewN|apply below_drew1)|exact HB.out)))|exact GW.drawn hG (by first|assumption|(repeat (first|exact Drawn0.refl _|assumption|apply Drawn0.step))))).mono ?_);rintro e w46 ⟨v180,rfl,ho0,hb⟩;have n0_:=Aside0.mk (Kd.R_lower ho0 (below_size (by repeat (first|(with_reducible first|exact HB.out|apply below_alloc|apply pw_below_drewN|apply below_drew1)|exact HB.out))));have n1_:=Aside0.mk (below_step (by repeat (first|(with_reducible first|exact HB.out|apply below_alloc|apply pw_below_drewN|apply below_drew1)|exact HB.out)) hb);clear HB;have HO181:=n0_;have HB:=n1_;clear n0_ n1_;(try clear hb);(try clear hb2);(try clear hk);(try clear hi);(try clear ho0))|(go_at_call 6;(with_reducible refine (ylines_Cut.calls k2 x6_2 t182 t183 t184 _ A44.out (by first|assumption|exact GW.below hG (by first|exact HB.out|assumption|(repeat (first|(with_reducible first|exact HB.out|apply below_alloc|apply pw_below_drewN|apply below_drew1)|exact HB.out)))|exact GW.drawn hG (by first|assumption|(repeat (first|exact Drawn0.refl _|assumption|apply Drawn0.step))))).mono ?_);rintro e w47 ⟨v185,rfl,ho0,hb⟩;have n0_:=Aside0.mk (Kd.R_elder' (by (with_reducible repeat (first|apply Kd.R_alloc|apply Kd.R_drewN|apply Kd.R_drew));exact HO181.out) (Kd.R_base ho0) hb);have n1_:=Aside0.mk (Kd.R_lower (Kd.R_new' ho0 (Kd.R_lt (by (with_reducible repeat (first|apply Kd.R_alloc|apply Kd.R_drewN|apply Kd.R_drew));exact HO181.out))) (below_size (by repeat (first|(with_reducible first|exact HB.out|apply below_alloc|apply pw_below_drewN|apply below_drew1)|exact HB.out))));have n2_:=Aside0.mk (below_step (by repeat (first|(with_reducible first|exact HB.out|apply below_alloc|apply pw_below_drewN|apply below_drew1)|exact HB.out)) hb);clear HO181;clear HB;have HO181:=n0_;have HO186:=n1_;have HB:=n2_;clear n0_ n1_ n2_;(try clear hb);(try clear hb2);(try clear hk);(try clear hi);(try clear ho0)))
       repeat (go_quiet (first|(go_at_call 6;(with_reducible refine (ylines_Cut.calls k2 x5_2 t177 t178 t179 _ A43.out (by first|assumption|exact GW.below hG (by first|exact HB.out|assumption|(repeat (first|(with_reducible first|exact HB.out|apply below_alloc|apply pw_below_drewN|apply below_drew1)|exact HB.out)))|exact GW.drawn hG (by first|assumption|(repeat (first|exact Drawn0.refl _|assumption|apply Drawn0.step))))).mono ?_);rintro e w46 ⟨v180,rfl,ho0,hb⟩;have n0_:=Aside0.mk (Kd.R_lower ho0 (below_size (by repeat (first|(with_reducible first|exact HB.out|apply below_alloc|apply pw_below_drewN|apply below_drew1)|exact HB.out))));have n1_:=Aside0.mk (below_step (by repeat (first|(with_reducible first|exact HB.out|apply below_alloc|apply pw_below_drewN|apply below_drew1)|exact HB.out)) hb);clear HB;have HO181:=n0_;have HB:=n1_;clear n0_ n1_;(try clear hb);(try clear hb2);(try clear hk);(try clear hi);(try clear ho0))|(go_at_call 6;(with_reducible refine (ylines_Cut.calls k2 x6_2 t182 t183 t184 _ A44.out (by first|assumption|exact GW.below hG (by first|exact HB.out|assumption|(repeat (first|(with_reducible first|exact HB.out|apply below_alloc|apply pw_below_drewN|apply below_drew1)|exact HB.out)))|exact GW.drawn hG (by first|assumption|(repeat (first|exact Drawn0.refl _|assumption|apply Drawn0.step))))).mono ?_);rintro e w47 ⟨v185,rfl,ho0,hb⟩;have n0_:=Aside0.mk (Kd.R_elder' (by (with_reducible repeat (first|apply Kd.R_alloc|apply Kd.R_drewN|apply Kd.R_drew));exact HO181.out) (Kd.R_base ho0) hb);have n1_:=Aside0.mk (Kd.R_lower (Kd.R_new' ho0 (Kd.R_lt (by (with_reducible repeat (first|apply Kd.R_alloc|apply Kd.R_drewN|apply Kd.R_drew));exact HO181.out))) (below_size (by repeat (first|(with_reducible first|exact HB.out|apply below_alloc|apply pw_below_drewN|apply below_drew1)|exact HB.out))));have n2_:=Aside0.mk (below_step (by repeat (first|(with_reducible first|exact HB.out|apply below_alloc|apply pw_below_drewN|apply below_drew1)|exact HB.out)) hb);clear HO181;clear HB;have HO181:=n0_;have HO186:=n1_;have HB:=n2_;clear n0_ n1_ n2_;(try clear hb);(try clear hb2);(try clear hk);(try clear hi);(try clear ho0)));go_upto_region 22 with (first|(go_at_call 6;(with_reducible refine (ylines_Cut.calls k2 x5_2 t177 t178 t179 _ A43.out (by first|assumption|exact GW.below hG (by first|exact HB.out|assumption|(repeat (first|(with_reducible first|exact HB.out|apply below_alloc|apply pw_below_drewN|apply below_drew1)|exact HB.out)))|exact GW.drawn hG (by first|assumption|(repeat (first|exact Drawn0.refl _|assumption|apply Drawn0.step))))).mono ?_);rintro e w46 ⟨v180,rfl,ho0,hb⟩;have n0_:=Aside0.mk (Kd.R_lower ho0 (below_size (by repeat (first|(with_reducible first|exact HB.out|apply below_alloc|apply pw_below_drewN|apply below_drew1)|exact HB.out))));have n1_:=Aside0.mk (below_step (by repeat (first|(with_reducible first|exact HB.out|apply below_alloc|apply pw_below_drewN|apply below_drew1)|exact HB.out)) hb);clear HB;have HO181:=n0_;have HB:=n1_;clear n0_ n1_;(try clear hb);(try clear hb2);(try clear hk);(try clear hi);(try clear ho0))|(go_at_call 6;(with_reducible refine (ylines_Cut.calls k2 x6_2 t182 t183 t184 _ A44.out (by first|assumption|exact GW.below hG (by first|exact HB.out|assumption|(repeat (first|(with_reducible first|exact HB.out|apply below_alloc|apply pw_below_drewN|apply below_drew1)|exact HB.out)))|exact GW.drawn hG (by first|assumption|(repeat (first|exact Drawn0.refl _|assumption|apply Drawn0.step))))).mono ?_);rintro e w47 ⟨v185,rfl,ho0,hb⟩;have n0_:=Aside0.mk (Kd.R_elder' (by (with_reducible repeat (first|apply Kd.R_alloc|apply Kd.R_drewN|apply Kd.R_drew));exact HO181.out) (Kd.R_base ho0) hb);have n1_:=Aside0.mk (Kd.R_lower (Kd.R_new' ho0 (Kd.R_lt (by (with_reducible repeat (first|apply Kd.R_alloc|apply Kd.R_drewN|apply Kd.R_drew));exact HO181.out))) (below_size (by repeat (first|(with_reducible first|exact HB.out|apply below_alloc|apply pw_below_drewN|apply below_drew1)|exact HB.out))));have n2_:=Aside0.mk (below_step (by repeat (first|(with_reducible first|exact HB.out|apply below_alloc|apply pw_below_drewN|apply below_drew1)|exact HB.out)) hb);clear HO181;clear HB;have HO181:=n0_;have HO186:=n1_;have HB:=n2_;clear n0_ n1_ n2_;(try clear hb);(try clear hb2);(try clear hk);(try clear hi);(try clear ho0))))
       (try simp only [Act.put,List.setIfInBounds_toArray,List.set_cons_zero,List.set_cons_succ])
       go_cut [104] (fun v104 wc=>∃ (kq : Nat) (x104_44 : Bool),v104 = .bool x104_44 ∧ Aside0 (bosunlaw10_YlinesPads.j3 kq t177 t182 x104_44 = some r) ∧ Aside0 (kq ≤ k2) ∧ Aside0 (Kd.R k32 32 wc w.heap.size (fun k_=>some k_ ≠ (v185 : Value).ownBlock) v180 t177) ∧ Aside0 (Kd.R k32 32 wc w.heap.size (fun k_=>some k_ ≠ (v180 : Value).ownBlock) v185 t182) ∧ Aside0 (Below w.heap.size w wc))
       case first =>
        have H:=HC45.out
        clear HC45
        by_cases c48 : t179 = t184
        ·rw [if_pos c48] at H
         have c48b0 : (t179 == t184) = true:=beq_iff_eq.mpr c48
         have c48b1 : (t179 != t184) = false:=bne_eq_false_iff_eq.mpr c48
         clear c48
         (first|rw [c48b0]|(simp only [i64_w,i32_w];rw [c48b0])|skip)
         have H':=Aside0.mk H
         clear H
         obtain ⟨Ao49,co49,eo49⟩:=Kd.R_slice HO181.out
         subst eo49
         obtain ⟨Ao50,co50,eo50⟩:=Kd.R_slice HO186.out
         subst eo50
         go_wp2
         repeat (go_quiet (fail);try go_wp2)
         go_meet
         case rel=>exact ⟨_,(((t177.length : Int) != (t182.length : Int))),(by first|rfl|(simp;done)|(simp [*];done)),H',⟨by have:=HJ2.out;have:=HK2.out;first|omega|exact Nat.le_refl _⟩,⟨by (with_reducible repeat (first|apply Kd.R_alloc|apply Kd.R_drewN|apply Kd.R_drew));exact Kd.R_mono HO181.out (fun _ hk=>hk.2)⟩,⟨by (with_reducible repeat (first|apply Kd.R_alloc|apply Kd.R_drewN|apply Kd.R_drew));exact Kd.R_mono HO186.out (fun _ hk=>hk.2)⟩,⟨by repeat (first|(with_reducible first|exact HB.out|apply below_alloc|apply pw_below_drewN|apply below_drew1)|exact HB.out)⟩⟩
        ·rw [if_neg c48] at H
         have c48b0 : (t179 == t184) = false:=beq_eq_false_iff_ne.mpr c48
         have c48b1 : (t179 != t184) = true:=bne_iff_ne.mpr c48
         (first|rw [c48b0]|(simp only [i64_w,i32_w];rw [c48b0])|skip)
         have H':=Aside0.mk H
         clear H
         go_wp2
         repeat (go_quiet (fail);try go_wp2)
         go_meet
         case rel=>exact ⟨_,(true),(by first|rfl|(simp;done)|(simp [*];done)),H',⟨by have:=HJ2.out;have:=HK2.out;first|omega|exact Nat.le_refl _⟩,⟨by (with_reducible repeat (first|apply Kd.R_alloc|apply Kd.R_drewN|apply Kd.R_drew));exact Kd.R_mono HO181.out (fun _ hk=>hk.2)⟩,⟨by (with_reducible repeat (first|apply Kd.R_alloc|apply Kd.R_drewN|apply Kd.R_drew));exact Kd.R_mono HO186.out (fun _ hk=>hk.2)⟩,⟨by repeat (first|(with_reducible first|exact HB.out|apply below_alloc|apply pw_below_drewN|apply below_drew1)|exact HB.out)⟩⟩
       case rest =>
        clear HC45
        try clear c1
        try clear p1
        try clear q1
        try clear hx1
        try clear c2
        try clear p2
        try clear q2
        try clear hx2
        try clear c3
        try clear c4
        try clear c4b0
        try clear c4b1
        try clear c5
        try clear p6
        try clear c8
        try clear c8b0
        try clear c9
        try clear c9b0
        try clear c10
        try clear c10b0
        try clear c11
        try clear c11b0
        try clear c11b1
        try clear c14
        try clear c14b0
        try clear c15
        try clear c15b0
        try clear c16
        try clear c16b0
        try clear p16
        try clear q16
        try clear hx16
        try clear p17
        try clear q17
        try clear hx17
        try clear c18
        try clear c18b0
        try clear c18b1
        try clear p21
        try clear q21
        try clear hx21
        try clear c22
        try clear c22b0
        try clear c22b1
        try clear p25
        try clear q25
        try clear hx25
        try clear c26
        try clear c26b0
        try clear c26b1
        try clear c29
        try clear c29b0
        try clear c29b1
        try clear c29b2
        try clear c30
        try clear c30b0
        try clear c30b1
        try clear c30b2
        try clear c31
        try clear c31b0
        try clear c32
        try clear c32b0
        try clear c34
        try clear c34b0
        try clear c35
        try clear c35b0
        try clear c36
        try clear c36b0
        try clear c36b1
        try clear c36b2
        try clear c37
        try clear c37b0
        try clear c37b1
        try clear c37b2
        try clear c38
        try clear c38b0
        try clear c38b1
        try clear c38b2
        try clear c42
        try clear c42b0
        try clear c42b1
        try clear c42b2
        try clear c48
        try clear c48b0
        try clear c48b1
        try clear hx167_0
        try clear hx175_0
        try clear hx176_0
        try clear p1
        try clear p167
        try clear p17
        try clear p175
        try clear p176
        try clear p2
        try clear p21
        try clear p25
        try clear q1
        try clear q167
        try clear q17
        try clear q175
        try clear q176
        try clear q21
        try clear q25
        obtain ⟨kq,x104_44,rfl,HA,HJ44,HO_10,HO_13,HB⟩:=hcut
        cases kq with
        | zero=>exact absurd HA.out (by simp [bosunlaw10_YlinesPads.j3])
        | succ kj44 =>
         have H:=HA.out
         clear HA
         simp only [bosunlaw10_YlinesPads.j3] at H
         by_cases c51 : x104_44 = true
         ·subst c51
          have H1 : (some false) = some r:=by rw [if_pos rfl] at H;exact H
          clear H
          have H:=H1
          clear H1
          obtain rfl:=Option.some.inj H
          go_wp2
          repeat (go_quiet (fail);try go_wp2)
          go_ret
          exact ⟨by first|rfl|(simp [errW_none,errW_some] <;> rfl)|(simp [*,errW_none,errW_some] <;> rfl),by repeat (first|(with_reducible first|exact HB.out|apply below_alloc|apply pw_below_drewN|apply below_drew1)|exact HB.out)⟩
         ·replace c51:=Bool.eq_false_iff.mpr c51
          subst c51
          have H1 : (bosunlaw10_YlinesPads.l2 kj44 t177 t182 (t177.length : Int) 0) = some r:=by rw [if_neg (show ¬ (false = true) by decide)] at H;exact H
          clear H
          have H:=H1
          clear H1
          have H':=Aside0.mk H
          clear H
          obtain ⟨Ao52,co52,eo52⟩:=Kd.R_slice HO_10.out
          subst eo52
          go_wp2
          repeat (go_quiet (fail);try go_wp2)
          go_loopg [107] kj44 (fun kq v107 w'=>∃ (x107_4 : Int),v107 = .int .i64 x107_4 ∧ Aside0 (bosunlaw10_YlinesPads.l2 kq t177 t182 (t177.length : Int) x107_4 = some r) ∧ Aside0 (kq ≤ kj44) ∧ Aside0 (Kd.R k32 32 w' w.heap.size (fun k_=>some k_ ≠ (v185 : Value).ownBlock) (.slice Ao52 t177.length co52) t177) ∧ Aside0 (Kd.R k32 32 w' w.heap.size (fun k_=>some k_ ≠ ((.slice Ao52 t177.length co52) : Value).ownBlock) v185 t182) ∧ Aside0 (Below w.heap.size w w'))
          case atStart=>exact ⟨(0),(by first|rfl|(simp;done)|(simp [*];done)),H',⟨Nat.le_refl _⟩,⟨by (with_reducible repeat (first|apply Kd.R_alloc|apply Kd.R_drewN|apply Kd.R_drew));exact HO_10.out⟩,⟨by (with_reducible repeat (first|apply Kd.R_alloc|apply Kd.R_drewN|apply Kd.R_drew));exact HO_13.out⟩,⟨by repeat (first|(with_reducible first|exact HB.out|apply below_alloc|apply pw_below_drewN|apply below_drew1)|exact HB.out)⟩⟩
          case round =>
           clear H'
           try clear c1
           try clear p1
           try clear q1
           try clear hx1
           try clear c2
           try clear p2
           try clear q2
           try clear hx2
           try clear c3
           try clear c4
           try clear c4b0
           try clear c4b1
           try clear c5
           try clear p6
           try clear c8
           try clear c8b0
           try clear c9
           try clear c9b0
           try clear c10
           try clear c10b0
           try clear c11
           try clear c11b0
           try clear c11b1
           try clear c14
           try clear c14b0
           try clear c15
           try clear c15b0
           try clear c16
           try clear c16b0
           try clear p16
           try clear q16
           try clear hx16
           try clear p17
           try clear q17
           try clear hx17
           try clear c18
           try clear c18b0
           try clear c18b1
           try clear p21
           try clear q21
           try clear hx21
           try clear c22
           try clear c22b0
           try clear c22b1
           try clear p25
           try clear q25
           try clear hx25
           try clear c26
           try clear c26b0
           try clear c26b1
           try clear c29
           try clear c29b0
           try clear c29b1
           try clear c29b2
           try clear c30
           try clear c30b0
           try clear c30b1
           try clear c30b2
           try clear c31
           try clear c31b0
           try clear c32
           try clear c32b0
           try clear c34
           try clear c34b0
           try clear c35
           try clear c35b0
           try clear c36
           try clear c36b0
           try clear c36b1
           try clear c36b2
           try clear c37
           try clear c37b0
           try clear c37b1
           try clear c37b2
           try clear c38
           try clear c38b0
           try clear c38b1
           try clear c38b2
           try clear c42
           try clear c42b0
           try clear c42b1
           try clear c42b2
           try clear c48
           try clear c48b0
           try clear c48b1
           try clear c51
           try clear hx167_0
           try clear hx175_0
           try clear hx176_0
           try clear p1
           try clear p16
           try clear p167
           try clear p17
           try clear p175
           try clear p176
           try clear p2
           try clear p21
           try clear p25
           try clear p6
           try clear q1
           try clear q16
           try clear q167
           try clear q17
           try clear q175
           try clear q176
           try clear q2
           try clear q21
           try clear q25
           obtain ⟨x107_4,rfl,HA,HK4,HO_10,HO_13,HB⟩:=hrel
           cases gk with
           | zero=>exact absurd HA.out (by simp [bosunlaw10_YlinesPads.l2])
           | succ k4 =>
            have H:=HA.out
            clear HA
            simp only [bosunlaw10_YlinesPads.l2] at H
            by_cases c53 : x107_4 < (t177.length : Int)
            ·rw [if_pos c53] at H
             have c53b0 : decide (x107_4 < (t177.length : Int)) = true:=decide_eq_true c53
             clear c53
             by_cases c54 : 0 ≤ x107_4
             ·rw [if_pos c54] at H
              have c54b0 : decide (0 ≤ x107_4) = true:=decide_eq_true c54
              clear c54
              by_cases c55 : x107_4 < (t177.length : Int)
              ·rw [if_pos c55] at H
               have c55b0 : decide (x107_4 < (t177.length : Int)) = true:=decide_eq_true c55
               clear c55
               by_cases c56 : x107_4 < (t182.length : Int)
               ·rw [if_pos c56] at H
                have c56b0 : decide (x107_4 < (t182.length : Int)) = true:=decide_eq_true c56
                clear c56
                by_cases c57 : ((rd_T32 t177 x107_4).f1) = ((rd_T32 t182 x107_4).f1)
                ·rw [if_pos c57] at H
                 have c57b0 : (((rd_T32 t177 x107_4).f1) == ((rd_T32 t182 x107_4).f1)) = true:=beq_iff_eq.mpr c57
                 have c57b1 : (((rd_T32 t177 x107_4).f1) != ((rd_T32 t182 x107_4).f1)) = false:=bne_eq_false_iff_eq.mpr c57
                 clear c57
                 by_cases c58 : (((rd_T32 t177 x107_4).f2) != ((rd_T32 t182 x107_4).f2)) = true
                 ·rw [if_pos c58] at H
                  have c58b0 : (((rd_T32 t177 x107_4).f2) != ((rd_T32 t182 x107_4).f2)) = true:=c58
                  (try (have c58b1 : decide (((rd_T32 t177 x107_4).f2) = ((rd_T32 t182 x107_4).f2)) = false:=by simpa using c58))
                  (try (have c58b2 : (((rd_T32 t177 x107_4).f2) == ((rd_T32 t182 x107_4).f2)) = false:=by simpa using c58))
                  (try (have c58b3 : ¬ (((rd_T32 t177 x107_4).f2) = ((rd_T32 t182 x107_4).f2)):=by simpa using c58))
                  clear c58
                  obtain rfl:=Option.some.inj H
                  have p187 : 0 ≤ (x107_4 : Int):=of_decide_eq_true (by first|(with_reducible assumption)|assumption)
                  have q187 : x107_4 < (t177.length : Int):=of_decide_eq_true (by first|(with_reducible assumption)|assumption)
                  obtain ⟨ad187,e187,hx187_0,hx187_1,hx187_2,hx187_3⟩:=at_T32 (Kd.R_reads' HO_10.out).2.2 x107_4 p187 q187
                  cases e187
                  replace p187:=eq_true p187
                  replace q187:=eq_true q187
                  obtain ⟨Ao59,co59,eo59⟩:=Kd.R_slice HO_13.out
                  subst eo59
                  have p188 : 0 ≤ (x107_4 : Int):=of_decide_eq_true (by first|(with_reducible assumption)|assumption)
                  have q188 : x107_4 < (t182.length : Int):=of_decide_eq_true (by first|(with_reducible assumption)|assumption)
                  obtain ⟨ad188,e188,hx188_0,hx188_1,hx188_2,hx188_3⟩:=at_T32 (Kd.R_reads' HO_13.out).2.2 x107_4 p188 q188
                  cases e188
                  replace p188:=eq_true p188
                  replace q188:=eq_true q188
                  have p189 : 0 ≤ (x107_4 : Int):=of_decide_eq_true (by first|(with_reducible assumption)|assumption)
                  have q189 : x107_4 < (t177.length : Int):=of_decide_eq_true (by first|(with_reducible assumption)|assumption)
                  obtain ⟨ad189,e189,hx189_0,hx189_1,hx189_2,hx189_3⟩:=at_T32 (Kd.R_reads' HO_10.out).2.2 x107_4 p189 q189
                  obtain rfl : ad187 = ad189:=(by injection e189)
                  replace p189:=eq_true p189
                  replace q189:=eq_true q189
                  have p190 : 0 ≤ (x107_4 : Int):=of_decide_eq_true (by first|(with_reducible assumption)|assumption)
                  have q190 : x107_4 < (t182.length : Int):=of_decide_eq_true (by first|(with_reducible assumption)|assumption)
                  obtain ⟨ad190,e190,hx190_0,hx190_1,hx190_2,hx190_3⟩:=at_T32 (Kd.R_reads' HO_13.out).2.2 x107_4 p190 q190
                  obtain rfl : ad188 = ad190:=(by injection e190)
                  replace p190:=eq_true p190
                  replace q190:=eq_true q190
                  go_wp2
                  repeat (go_quiet (fail);try go_wp2)
                  go_ret
                  exact ⟨by first|rfl|(simp [errW_none,errW_some] <;> rfl)|(simp [*,errW_none,errW_some] <;> rfl),by repeat (first|(with_reducible first|exact HB.out|apply below_alloc|apply pw_below_drewN|apply below_drew1)|exact HB.out)⟩
                 ·rw [if_neg c58] at H
                  have c58b0 : (((rd_T32 t177 x107_4).f2) != ((rd_T32 t182 x107_4).f2)) = false:=by simpa using c58
                  (try (have c58b1 : decide (((rd_T32 t177 x107_4).f2) = ((rd_T32 t182 x107_4).f2)) = true:=by simpa using c58))
                  (try (have c58b2 : (((rd_T32 t177 x107_4).f2) == ((rd_T32 t182 x107_4).f2)) = true:=by simpa using c58))
                  clear c58
                  by_cases c60 : ((rd_T32 t177 x107_4).f3).toList = ((rd_T32 t182 x107_4).f3).toList
                  ·rw [if_pos c60] at H
                   have c60b0 : (((rd_T32 t177 x107_4).f3).toList == ((rd_T32 t182 x107_4).f3).toList) = true:=beq_iff_eq.mpr c60
                   have c60b1 : (((rd_T32 t177 x107_4).f3).toList != ((rd_T32 t182 x107_4).f3).toList) = false:=bne_eq_false_iff_eq.mpr c60
                   clear c60
                   have H':=Aside0.mk H
                   clear H
                   have p187 : 0 ≤ (x107_4 : Int):=of_decide_eq_true (by first|(with_reducible assumption)|assumption)
                   have q187 : x107_4 < (t177.length : Int):=of_decide_eq_true (by first|(with_reducible assumption)|assumption)
                   obtain ⟨ad187,e187,hx187_0,hx187_1,hx187_2,hx187_3⟩:=at_T32 (Kd.R_reads' HO_10.out).2.2 x107_4 p187 q187
                   cases e187
                   replace p187:=eq_true p187
                   replace q187:=eq_true q187
                   obtain ⟨Ao61,co61,eo61⟩:=Kd.R_slice HO_13.out
                   subst eo61
                   have p188 : 0 ≤ (x107_4 : Int):=of_decide_eq_true (by first|(with_reducible assumption)|assumption)
                   have q188 : x107_4 < (t182.length : Int):=of_decide_eq_true (by first|(with_reducible assumption)|assumption)
                   obtain ⟨ad188,e188,hx188_0,hx188_1,hx188_2,hx188_3⟩:=at_T32 (Kd.R_reads' HO_13.out).2.2 x107_4 p188 q188
                   cases e188
                   replace p188:=eq_true p188
                   replace q188:=eq_true q188
                   have p189 : 0 ≤ (x107_4 : Int):=of_decide_eq_true (by first|(with_reducible assumption)|assumption)
                   have q189 : x107_4 < (t177.length : Int):=of_decide_eq_true (by first|(with_reducible assumption)|assumption)
                   obtain ⟨ad189,e189,hx189_0,hx189_1,hx189_2,hx189_3⟩:=at_T32 (Kd.R_reads' HO_10.out).2.2 x107_4 p189 q189
                   obtain rfl : ad187 = ad189:=(by injection e189)
                   replace p189:=eq_true p189
                   replace q189:=eq_true q189
                   have p190 : 0 ≤ (x107_4 : Int):=of_decide_eq_true (by first|(with_reducible assumption)|assumption)
                   have q190 : x107_4 < (t182.length : Int):=of_decide_eq_true (by first|(with_reducible assumption)|assumption)
                   obtain ⟨ad190,e190,hx190_0,hx190_1,hx190_2,hx190_3⟩:=at_T32 (Kd.R_reads' HO_13.out).2.2 x107_4 p190 q190
                   obtain rfl : ad188 = ad190:=(by injection e190)
                   replace p190:=eq_true p190
                   replace q190:=eq_true q190
                   have p191 : 0 ≤ (x107_4 : Int):=of_decide_eq_true (by first|(with_reducible assumption)|assumption)
                   have q191 : x107_4 < (t177.length : Int):=of_decide_eq_true (by first|(with_reducible assumption)|assumption)
                   obtain ⟨ad191,e191,hx191_0,hx191_1,hx191_2,hx191_3⟩:=at_T32 (Kd.R_reads' HO_10.out).2.2 x107_4 p191 q191
                   obtain rfl : ad187 = ad191:=(by injection e191)
                   replace p191:=eq_true p191
                   replace q191:=eq_true q191
                   have p192 : 0 ≤ (x107_4 : Int):=of_decide_eq_true (by first|(with_reducible assumption)|assumption)
                   have q192 : x107_4 < (t182.length : Int):=of_decide_eq_true (by first|(with_reducible assumption)|assumption)
                   obtain ⟨ad192,e192,hx192_0,hx192_1,hx192_2,hx192_3⟩:=at_T32 (Kd.R_reads' HO_13.out).2.2 x107_4 p192 q192
                   obtain rfl : ad188 = ad192:=(by injection e192)
                   replace p192:=eq_true p192
                   replace q192:=eq_true q192
                   go_wp2
                   repeat (go_quiet (fail);try go_wp2)
                   go_roundg k4
                   case measure=>have:=HJ2.out;have:=HK2.out;have:=HJ44.out;have:=HK4.out;omega
                   case rel=>exact ⟨(wrap64 (x107_4 + 1)),(by first|rfl|(simp;done)|(simp [*];done)),H',⟨by have:=HJ2.out;have:=HK2.out;have:=HJ44.out;have:=HK4.out;omega⟩,⟨by (with_reducible repeat (first|apply Kd.R_alloc|apply Kd.R_drewN|apply Kd.R_drew));exact HO_10.out⟩,⟨by (with_reducible repeat (first|apply Kd.R_alloc|apply Kd.R_drewN|apply Kd.R_drew));exact HO_13.out⟩,⟨by repeat (first|(with_reducible first|exact HB.out|apply below_alloc|apply pw_below_drewN|apply below_drew1)|exact HB.out)⟩⟩
                  ·rw [if_neg c60] at H
                   have c60b0 : (((rd_T32 t177 x107_4).f3).toList == ((rd_T32 t182 x107_4).f3).toList) = false:=beq_eq_false_iff_ne.mpr c60
                   have c60b1 : (((rd_T32 t177 x107_4).f3).toList != ((rd_T32 t182 x107_4).f3).toList) = true:=bne_iff_ne.mpr c60
                   obtain rfl:=Option.some.inj H
                   have p187 : 0 ≤ (x107_4 : Int):=of_decide_eq_true (by first|(with_reducible assumption)|assumption)
                   have q187 : x107_4 < (t177.length : Int):=of_decide_eq_true (by first|(with_reducible assumption)|assumption)
                   obtain ⟨ad187,e187,hx187_0,hx187_1,hx187_2,hx187_3⟩:=at_T32 (Kd.R_reads' HO_10.out).2.2 x107_4 p187 q187
                   cases e187
                   replace p187:=eq_true p187
                   replace q187:=eq_true q187
                   obtain ⟨Ao62,co62,eo62⟩:=Kd.R_slice HO_13.out
                   subst eo62
                   have p188 : 0 ≤ (x107_4 : Int):=of_decide_eq_true (by first|(with_reducible assumption)|assumption)
                   have q188 : x107_4 < (t182.length : Int):=of_decide_eq_true (by first|(with_reducible assumption)|assumption)
                   obtain ⟨ad188,e188,hx188_0,hx188_1,hx188_2,hx188_3⟩:=at_T32 (Kd.R_reads' HO_13.out).2.2 x107_4 p188 q188
                   cases e188
                   replace p188:=eq_true p188
                   replace q188:=eq_true q188
                   have p189 : 0 ≤ (x107_4 : Int):=of_decide_eq_true (by first|(with_reducible assumption)|assumption)
                   have q189 : x107_4 < (t177.length : Int):=of_decide_eq_true (by first|(with_reducible assumption)|assumption)
                   obtain ⟨ad189,e189,hx189_0,hx189_1,hx189_2,hx189_3⟩:=at_T32 (Kd.R_reads' HO_10.out).2.2 x107_4 p189 q189
                   obtain rfl : ad187 = ad189:=(by injection e189)
                   replace p189:=eq_true p189
                   replace q189:=eq_true q189
                   have p190 : 0 ≤ (x107_4 : Int):=of_decide_eq_true (by first|(with_reducible assumption)|assumption)
                   have q190 : x107_4 < (t182.length : Int):=of_decide_eq_true (by first|(with_reducible assumption)|assumption)
                   obtain ⟨ad190,e190,hx190_0,hx190_1,hx190_2,hx190_3⟩:=at_T32 (Kd.R_reads' HO_13.out).2.2 x107_4 p190 q190
                   obtain rfl : ad188 = ad190:=(by injection e190)
                   replace p190:=eq_true p190
                   replace q190:=eq_true q190
                   have p191 : 0 ≤ (x107_4 : Int):=of_decide_eq_true (by first|(with_reducible assumption)|assumption)
                   have q191 : x107_4 < (t177.length : Int):=of_decide_eq_true (by first|(with_reducible assumption)|assumption)
                   obtain ⟨ad191,e191,hx191_0,hx191_1,hx191_2,hx191_3⟩:=at_T32 (Kd.R_reads' HO_10.out).2.2 x107_4 p191 q191
                   obtain rfl : ad187 = ad191:=(by injection e191)
                   replace p191:=eq_true p191
                   replace q191:=eq_true q191
                   have p192 : 0 ≤ (x107_4 : Int):=of_decide_eq_true (by first|(with_reducible assumption)|assumption)
                   have q192 : x107_4 < (t182.length : Int):=of_decide_eq_true (by first|(with_reducible assumption)|assumption)
                   obtain ⟨ad192,e192,hx192_0,hx192_1,hx192_2,hx192_3⟩:=at_T32 (Kd.R_reads' HO_13.out).2.2 x107_4 p192 q192
                   obtain rfl : ad188 = ad192:=(by injection e192)
                   replace p192:=eq_true p192
                   replace q192:=eq_true q192
                   go_wp2
                   repeat (go_quiet (fail);try go_wp2)
                   go_ret
                   exact ⟨by first|rfl|(simp [errW_none,errW_some] <;> rfl)|(simp [*,errW_none,errW_some] <;> rfl),by repeat (first|(with_reducible first|exact HB.out|apply below_alloc|apply pw_below_drewN|apply below_drew1)|exact HB.out)⟩
                ·rw [if_neg c57] at H
                 have c57b0 : (((rd_T32 t177 x107_4).f1) == ((rd_T32 t182 x107_4).f1)) = false:=beq_eq_false_iff_ne.mpr c57
                 have c57b1 : (((rd_T32 t177 x107_4).f1) != ((rd_T32 t182 x107_4).f1)) = true:=bne_iff_ne.mpr c57
                 obtain rfl:=Option.some.inj H
                 have p187 : 0 ≤ (x107_4 : Int):=of_decide_eq_true (by first|(with_reducible assumption)|assumption)
                 have q187 : x107_4 < (t177.length : Int):=of_decide_eq_true (by first|(with_reducible assumption)|assumption)
                 obtain ⟨ad187,e187,hx187_0,hx187_1,hx187_2,hx187_3⟩:=at_T32 (Kd.R_reads' HO_10.out).2.2 x107_4 p187 q187
                 cases e187
                 replace p187:=eq_true p187
                 replace q187:=eq_true q187
                 obtain ⟨Ao63,co63,eo63⟩:=Kd.R_slice HO_13.out
                 subst eo63
                 have p188 : 0 ≤ (x107_4 : Int):=of_decide_eq_true (by first|(with_reducible assumption)|assumption)
                 have q188 : x107_4 < (t182.length : Int):=of_decide_eq_true (by first|(with_reducible assumption)|assumption)
                 obtain ⟨ad188,e188,hx188_0,hx188_1,hx188_2,hx188_3⟩:=at_T32 (Kd.R_reads' HO_13.out).2.2 x107_4 p188 q188
                 cases e188
                 replace p188:=eq_true p188
                 replace q188:=eq_true q188
                 go_wp2
                 repeat (go_quiet (fail);try go_wp2)
                 go_ret
                 exact ⟨by first|rfl|(simp [errW_none,errW_some] <;> rfl)|(simp [*,errW_none,errW_some] <;> rfl),by repeat (first|(with_reducible first|exact HB.out|apply below_alloc|apply pw_below_drewN|apply below_drew1)|exact HB.out)⟩
               ·rw [if_neg c56] at H
                exact absurd H (by simp)
              ·rw [if_neg c55] at H
               exact absurd H (by simp)
             ·rw [if_neg c54] at H
              exact absurd H (by simp)
            ·rw [if_neg c53] at H
             have c53b0 : decide (x107_4 < (t177.length : Int)) = false:=decide_eq_false c53
             clear c53
             replace H:=Option.bind_eq_some_iff.mp H
             obtain ⟨t193,A640,H⟩:=H
             replace H : (some t193) = some r:=H
             have A64:=Aside0.mk A640
             clear A640
             obtain rfl:=Option.some.inj H
             go_wp2_with (first|(go_at_call 5;(with_reducible refine (bosunlaw10_Awake.calls k4  t193 _ A64.out (by first|assumption|exact GW.below hG (by first|exact HB.out|assumption|(repeat (first|(with_reducible first|exact HB.out|apply below_alloc|apply pw_below_drewN|apply below_drew1)|exact HB.out)))|exact GW.drawn hG (by first|assumption|(repeat (first|exact Drawn0.refl _|assumption|apply Drawn0.step))))).mono ?_);rintro e w65 ⟨rfl,hb⟩;have n0_:=Aside0.mk (Kd.R_below (by (with_reducible repeat (first|apply Kd.R_alloc|apply Kd.R_drewN|apply Kd.R_drew));exact HO_10.out) hb);have n1_:=Aside0.mk (Kd.R_below (by (with_reducible repeat (first|apply Kd.R_alloc|apply Kd.R_drewN|apply Kd.R_drew));exact HO_13.out) hb);have n2_:=Aside0.mk (below_step (by repeat (first|(with_reducible first|exact HB.out|apply below_alloc|apply pw_below_drewN|apply below_drew1)|exact HB.out)) hb);clear HO_10;clear HO_13;clear HB;have HO_10:=n0_;have HO_13:=n1_;have HB:=n2_;clear n0_ n1_ n2_;(try clear hb);(try clear hb2);(try clear hk);(try clear hi)))
             repeat (go_quiet (first|(go_at_call 5;(with_reducible refine (bosunlaw10_Awake.calls k4  t193 _ A64.out (by first|assumption|exact GW.below hG (by first|exact HB.out|assumption|(repeat (first|(with_reducible first|exact HB.out|apply below_alloc|apply pw_below_drewN|apply below_drew1)|exact HB.out)))|exact GW.drawn hG (by first|assumption|(repeat (first|exact Drawn0.refl _|assumption|apply Drawn0.step))))).mono ?_);rintro e w65 ⟨rfl,hb⟩;have n0_:=Aside0.mk (Kd.R_below (by (with_reducible repeat (first|apply Kd.R_alloc|apply Kd.R_drewN|apply Kd.R_drew));exact HO_10.out) hb);have n1_:=Aside0.mk (Kd.R_below (by (with_reducible repeat (first|apply Kd.R_alloc|apply Kd.R_drewN|apply Kd.R_drew));exact HO_13.out) hb);have n2_:=Aside0.mk (below_step (by repeat (first|(with_reducible first|exact HB.out|apply below_alloc|apply pw_below_drewN|apply below_drew1)|exact HB.out)) hb);clear HO_10;clear HO_13;clear HB;have HO_10:=n0_;have HO_13:=n1_;have HB:=n2_;clear n0_ n1_ n2_;(try clear hb);(try clear hb2);(try clear hk);(try clear hi)));try go_wp2_with (first|(go_at_call 5;(with_reducible refine (bosunlaw10_Awake.calls k4  t193 _ A64.out (by first|assumption|exact GW.below hG (by first|exact HB.out|assumption|(repeat (first|(with_reducible first|exact HB.out|apply below_alloc|apply pw_below_drewN|apply below_drew1)|exact HB.out)))|exact GW.drawn hG (by first|assumption|(repeat (first|exact Drawn0.refl _|assumption|apply Drawn0.step))))).mono ?_);rintro e w65 ⟨rfl,hb⟩;have n0_:=Aside0.mk (Kd.R_below (by (with_reducible repeat (first|apply Kd.R_alloc|apply Kd.R_drewN|apply Kd.R_drew));exact HO_10.out) hb);have n1_:=Aside0.mk (Kd.R_below (by (with_reducible repeat (first|apply Kd.R_alloc|apply Kd.R_drewN|apply Kd.R_drew));exact HO_13.out) hb);have n2_:=Aside0.mk (below_step (by repeat (first|(with_reducible first|exact HB.out|apply below_alloc|apply pw_below_drewN|apply below_drew1)|exact HB.out)) hb);clear HO_10;clear HO_13;clear HB;have HO_10:=n0_;have HO_13:=n1_;have HB:=n2_;clear n0_ n1_ n2_;(try clear hb);(try clear hb2);(try clear hk);(try clear hi))))
             go_ret
             exact ⟨by first|rfl|(simp [errW_none,errW_some] <;> rfl)|(simp [*,errW_none,errW_some] <;> rfl),by repeat (first|(with_reducible first|exact HB.out|apply below_alloc|apply pw_below_drewN|apply below_drew1)|exact HB.out)⟩

end Go.Proofs.YticabhjmojcfoaaDoor.GUt
