/- Written by this session's own program (wip/gen.py) out of the translation: plain Lean functions of the Go functions, and proofs that the calls come to their answers. No conditions beside those in the statements. -/
import Derived.Test.YticabhjmojcfoaaDoorGUtx0
import Derived.Test.YticabhjmojcfoaaDoorGUtx2
import Derived.Test.YticabhjmojcfoaaDoorGW
namespace Go.Proofs.YticabhjmojcfoaaDoor.GUt
open Go.RowKit Go.Proofs.YticabhjmojcfoaaDoorW.PrintWords Go.Proofs.YticabhjmojcfoaaDoorW.PrintLast Go.Proofs.YticabhjmojcfoaaDoorW.PrintMore
attribute [local go_sem] max2_int min2_int max_two min_two max_three min_three max_four min_four   -- for this text's walks alone
set_option linter.unusedVariables false
set_option linter.unusedSimpArgs false

/-! ### ylines_wrong: function 10 -/
def ylines_wrong.l0 : Nat → ByteArray → Int → Int → Option (Int)
 | 0,_,_,_=>none
 | k + 1,x0,x5,x6=>if x6 < x5 then (if 0 ≤ x6 then (if x6 < (x0.size : Int) then (if (bt x0 x6) < 32 then (some 10) else (ylines_wrong.l0 k x0 x5 (wrap64 (x6 + 1)))) else (none)) else (none)) else ((utf_Valid.f x0).bind fun t102=>(if t102 = true then (some 0) else (some 10)))
def ylines_wrong.f (k : Nat) (a0 : ByteArray) : Option (Int):=ylines_wrong.l0 k a0 (a0.size : Int) 0
theorem ylines_wrong.mono_l : ∀ k,(∀ y0 y1 y2,LeO (ylines_wrong.l0 k y0 y1 y2) (ylines_wrong.l0 (k + 1) y0 y1 y2))
 | 0=>fun _ _ _ r h=>by simp [ylines_wrong.l0] at h
 | k + 1=>by
  have ih0:=ylines_wrong.mono_l k
  ·intro y0 y1 y2
   unfold ylines_wrong.l0
   repeat' first
   | (with_reducible exact ih0 _ _ _)
   | (with_reducible exact LeO.refl _)
   | (with_reducible exact LeO.none _)
   | (with_reducible refine LeO.ite ?_ ?_)
   | (with_reducible refine LeO.bind ?_ (fun _=>?_))
   | exact ih0 _ _ _
   | exact LeO.none _
   | refine LeO.ite ?_ ?_
   | refine LeO.bind ?_ (fun _=>?_)
theorem ylines_wrong.mono : ∀ a0 k,LeO (ylines_wrong.f k a0) (ylines_wrong.f (k + 1) a0):=by
 intro a0 k
 have ih0:=ylines_wrong.mono_l k
 unfold ylines_wrong.f
 repeat' first
   | (with_reducible exact ih0 _ _ _)
   | (with_reducible exact LeO.refl _)
   | (with_reducible exact LeO.none _)
   | (with_reducible refine LeO.ite ?_ ?_)
   | (with_reducible refine LeO.bind ?_ (fun _=>?_))
   | exact ih0 _ _ _
   | exact LeO.none _
   | refine LeO.ite ?_ ?_
   | refine LeO.bind ?_ (fun _=>?_)
set_option maxHeartbeats 8000000 in
set_option maxRecDepth 100000 in
theorem ylines_wrong.calls (k : Nat) (a0 : ByteArray) (r : Int) (w : World) (h : ylines_wrong.f k a0 = some r) (hG : GW.GW w) :
  Calls Tryd.prog 10 #[.string a0] w fun e w'=>e = .returned (.int .i64 r) ∧ Below w.heap.size w w':=by
 have HB:=Aside0.mk (Below.refl w.heap.size w)
 have H : (ylines_wrong.l0 k a0 (a0.size : Int) 0) = some r:=h
 clear h
 have H':=Aside0.mk H
 clear H
 go_enter Tryd.func10,Tryd.ntmps10
 go_wp2
 go_loopg [6] k (fun kq v6 w'=>∃ (x6_1 : Int),v6 = .int .i64 x6_1 ∧ Aside0 (ylines_wrong.l0 kq a0 (a0.size : Int) x6_1 = some r) ∧ Aside0 (kq ≤ k) ∧ Aside0 (Below w.heap.size w w'))
 case atStart=>exact ⟨(0),(by first|rfl|(simp;done)|(simp [*];done)),H',⟨Nat.le_refl _⟩,⟨by repeat (first|(with_reducible first|exact HB.out|apply below_alloc|apply pw_below_drewN|apply below_drew1)|exact HB.out)⟩⟩
 case round =>
  clear H'
  try clear c1
  obtain ⟨x6_1,rfl,HA,HK1,HB⟩:=hrel
  cases gk with
  | zero=>exact absurd HA.out (by simp [ylines_wrong.l0])
  | succ k1 =>
   have H:=HA.out
   clear HA
   simp only [ylines_wrong.l0] at H
   by_cases c2 : x6_1 < (a0.size : Int)
   ·rw [if_pos c2] at H
    have c2b0 : decide (x6_1 < (a0.size : Int)) = true:=decide_eq_true c2
    clear c2
    by_cases c3 : 0 ≤ x6_1
    ·rw [if_pos c3] at H
     have c3b0 : decide (0 ≤ x6_1) = true:=decide_eq_true c3
     clear c3
     by_cases c4 : x6_1 < (a0.size : Int)
     ·rw [if_pos c4] at H
      have c4b0 : decide (x6_1 < (a0.size : Int)) = true:=decide_eq_true c4
      clear c4
      by_cases c6 : (bt a0 x6_1) < 32
      ·rw [if_pos c6] at H
       have c6b0 : decide ((bt a0 x6_1) < 32) = true:=decide_eq_true c6
       clear c6
       obtain rfl:=Option.some.inj H
       have p5 : 0 ≤ (x6_1 : Int):=of_decide_eq_true (by first|(with_reducible assumption)|assumption)
       have q5 : x6_1 < (a0.size : Int):=of_decide_eq_true (by first|(with_reducible assumption)|assumption)
       have hx5:=bt_at a0 x6_1
       replace p5:=eq_true p5
       replace q5:=eq_true q5
       go_wp2
       go_ret
       exact ⟨by first|rfl|(simp [errW_none,errW_some] <;> rfl)|(simp [*,errW_none,errW_some] <;> rfl),by repeat (first|(with_reducible first|exact HB.out|apply below_alloc|apply pw_below_drewN|apply below_drew1)|exact HB.out)⟩
      ·rw [if_neg c6] at H
       have c6b0 : decide ((bt a0 x6_1) < 32) = false:=decide_eq_false c6
       clear c6
       have H':=Aside0.mk H
       clear H
       have p5 : 0 ≤ (x6_1 : Int):=of_decide_eq_true (by first|(with_reducible assumption)|assumption)
       have q5 : x6_1 < (a0.size : Int):=of_decide_eq_true (by first|(with_reducible assumption)|assumption)
       have hx5:=bt_at a0 x6_1
       replace p5:=eq_true p5
       replace q5:=eq_true q5
       go_wp2
       go_roundg k1
       case measure=>have:=HK1.out;omega
       case rel=>exact ⟨(wrap64 (x6_1 + 1)),(by first|rfl|(simp;done)|(simp [*];done)),H',⟨by have:=HK1.out;omega⟩,⟨by repeat (first|(with_reducible first|exact HB.out|apply below_alloc|apply pw_below_drewN|apply below_drew1)|exact HB.out)⟩⟩
     ·rw [if_neg c4] at H
      exact absurd H (by simp)
    ·rw [if_neg c3] at H
     exact absurd H (by simp)
   ·rw [if_neg c2] at H
    have c2b0 : decide (x6_1 < (a0.size : Int)) = false:=decide_eq_false c2
    clear c2
    replace H:=Option.bind_eq_some_iff.mp H
    obtain ⟨t102,A70,H⟩:=H
    replace H : (if t102 = true then (some 0) else (some 10)) = some r:=H
    have A7:=Aside0.mk A70
    clear A70
    by_cases c8 : t102 = true
    ·subst c8
     have H1 : (some 0) = some r:=by rw [if_pos rfl] at H;exact H
     clear H
     have H:=H1
     clear H1
     obtain rfl:=Option.some.inj H
     go_wp2_with (first|((with_reducible refine gate_callee (f:=19) rfl ?_);refine goesL_ (some 15) rfl rfl Tryd.func19 (by kernel_rfl) rfl #[.string a0] rfl (by (try simp only [List.map_toArray,List.map_cons,List.map_nil]);first|done|rfl|(simp only [List.length_drop,List.length_take];rfl)|(simp (disch:=first|omega|(simp at *;omega)) only [u64_id,i64_id,u8_id];rfl)) ?_;(with_reducible refine (utf_Valid.calls a0 true _ A7.out (by first|assumption|exact GW.below hG (by first|exact HB.out|assumption|(repeat (first|(with_reducible first|exact HB.out|apply below_alloc|apply pw_below_drewN|apply below_drew1)|exact HB.out)))|exact GW.drawn hG (by first|assumption|(repeat (first|exact Drawn0.refl _|assumption|apply Drawn0.step))))).mono ?_);rintro e w9 ⟨rfl,hb⟩;refine ⟨_,rfl,?_⟩;have n0_:=Aside0.mk (below_step (by repeat (first|(with_reducible first|exact HB.out|apply below_alloc|apply pw_below_drewN|apply below_drew1)|exact HB.out)) hb);clear HB;have HB:=n0_;clear n0_;(try clear hb);(try clear hb2);(try clear hk);(try clear hi)))
     go_ret
     exact ⟨by first|rfl|(simp [errW_none,errW_some] <;> rfl)|(simp [*,errW_none,errW_some] <;> rfl),by repeat (first|(with_reducible first|exact HB.out|apply below_alloc|apply pw_below_drewN|apply below_drew1)|exact HB.out)⟩
    ·replace c8:=Bool.eq_false_iff.mpr c8
     subst c8
     have H1 : (some 10) = some r:=by rw [if_neg (show ¬ (false = true) by decide)] at H;exact H
     clear H
     have H:=H1
     clear H1
     obtain rfl:=Option.some.inj H
     go_wp2_with (first|((with_reducible refine gate_callee (f:=19) rfl ?_);refine goesL_ (some 15) rfl rfl Tryd.func19 (by kernel_rfl) rfl #[.string a0] rfl (by (try simp only [List.map_toArray,List.map_cons,List.map_nil]);first|done|rfl|(simp only [List.length_drop,List.length_take];rfl)|(simp (disch:=first|omega|(simp at *;omega)) only [u64_id,i64_id,u8_id];rfl)) ?_;(with_reducible refine (utf_Valid.calls a0 false _ A7.out (by first|assumption|exact GW.below hG (by first|exact HB.out|assumption|(repeat (first|(with_reducible first|exact HB.out|apply below_alloc|apply pw_below_drewN|apply below_drew1)|exact HB.out)))|exact GW.drawn hG (by first|assumption|(repeat (first|exact Drawn0.refl _|assumption|apply Drawn0.step))))).mono ?_);rintro e w10 ⟨rfl,hb⟩;refine ⟨_,rfl,?_⟩;have n0_:=Aside0.mk (below_step (by repeat (first|(with_reducible first|exact HB.out|apply below_alloc|apply pw_below_drewN|apply below_drew1)|exact HB.out)) hb);clear HB;have HB:=n0_;clear n0_;(try clear hb);(try clear hb2);(try clear hk);(try clear hi)))
     go_ret
     exact ⟨by first|rfl|(simp [errW_none,errW_some] <;> rfl)|(simp [*,errW_none,errW_some] <;> rfl),by repeat (first|(with_reducible first|exact HB.out|apply below_alloc|apply pw_below_drewN|apply below_drew1)|exact HB.out)⟩

end Go.Proofs.YticabhjmojcfoaaDoor.GUt
