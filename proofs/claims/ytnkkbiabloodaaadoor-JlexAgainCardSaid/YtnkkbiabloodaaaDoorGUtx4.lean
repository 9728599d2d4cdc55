/- Written by this session's own program (wip/gen.py) out of the translation: plain Lean functions of the Go functions, and proofs that the calls come to their answers. No conditions beside those in the statements. -/
import Derived.Test.YtnkkbiabloodaaaDoorGUtx0
import Derived.Test.YtnkkbiabloodaaaDoorGUtx2
import Derived.Test.YtnkkbiabloodaaaDoorGUtx3
namespace Go.Proofs.YtnkkbiabloodaaaDoor.GUt
open Go.RowKit Go.Proofs.YtnkkbiabloodaaaDoorW.PrintWords Go.Proofs.YtnkkbiabloodaaaDoorW.PrintLast Go.Proofs.YtnkkbiabloodaaaDoorW.PrintMore
attribute [local go_sem] max2_int min2_int max_two min_two max_three min_three max_four min_four   -- for this text's walks alone
set_option linter.unusedVariables false
set_option linter.unusedSimpArgs false

/-! ### jlex_run: function 52 -/
def jlex_run.l0 : Nat → ByteArray → Bool → Int → Option (Int)
 | 0,_,_,_=>none
 | k + 1,x0,x1,x5=>if x5 < (x0.size : Int) then (if 0 ≤ x5 then ((jlex_letter.f (bt x0 x5)).bind fun t102=>(if t102 = true then (jlex_run.l0 k x0 x1 (wrap64 (x5 + 1))) else (if x1 = true then ((jlex_digit.f (bt x0 x5)).bind fun t103=>(if t103 = true then (jlex_run.l0 k x0 x1 (wrap64 (x5 + 1))) else (if (bt x0 x5) = 46 then (jlex_run.l0 k x0 x1 (wrap64 (x5 + 1))) else (if (bt x0 x5) = 43 then (jlex_run.l0 k x0 x1 (wrap64 (x5 + 1))) else (if (bt x0 x5) = 45 then (jlex_run.l0 k x0 x1 (wrap64 (x5 + 1))) else (some x5)))))) else (some x5)))) else (none)) else (some x5)
def jlex_run.f (k : Nat) (a0 : ByteArray) (a1 : Bool) : Option (Int):=jlex_run.l0 k a0 a1 0
theorem jlex_run.mono_l : ∀ k,(∀ y0 y1 y2,LeO (jlex_run.l0 k y0 y1 y2) (jlex_run.l0 (k + 1) y0 y1 y2))
 | 0=>fun _ _ _ r h=>by simp [jlex_run.l0] at h
 | k + 1=>by
  have ih0:=jlex_run.mono_l k
  ·intro y0 y1 y2
   unfold jlex_run.l0
   repeat' first
   | (with_reducible exact ih0 _ _ _)
   | (with_reducible exact LeO.refl _)
   | (with_reducible exact LeO.none _)
   | (with_reducible refine LeO.ite ?_ ?_)
   | (with_reducible refine LeO.bind ?_ (fun _=>?_))
   | exact ih0 _ _ _
   | exact LeO.none _
   | refine LeO.ite ?_ ?_
   | refine LeO.bind ?_ (fun _=>?_)
theorem jlex_run.mono : ∀ a0 a1 k,LeO (jlex_run.f k a0 a1) (jlex_run.f (k + 1) a0 a1):=by
 intro a0 a1 k
 have ih0:=jlex_run.mono_l k
 unfold jlex_run.f
 repeat' first
   | (with_reducible exact ih0 _ _ _)
   | (with_reducible exact LeO.refl _)
   | (with_reducible exact LeO.none _)
   | (with_reducible refine LeO.ite ?_ ?_)
   | (with_reducible refine LeO.bind ?_ (fun _=>?_))
   | exact ih0 _ _ _
   | exact LeO.none _
   | refine LeO.ite ?_ ?_
   | refine LeO.bind ?_ (fun _=>?_)
set_option maxHeartbeats 8000000 in
set_option maxRecDepth 100000 in
theorem jlex_run.calls (k : Nat) (a0 : ByteArray) (a1 : Bool) (r : Int) (w : World) (h : jlex_run.f k a0 a1 = some r) :
  Calls Tryd.prog 52 #[.string a0,.bool a1] w fun e w'=>e = .returned (.int .i64 r) ∧ Drawn0 w w':=by
 have H : (jlex_run.l0 k a0 a1 0) = some r:=h
 clear h
 have H':=Aside0.mk H
 clear H
 go_enter Tryd.func52,Tryd.ntmps52
 go_wp2
 go_loopg [5] k (fun kq v5 w'=>∃ (x5_1 : Int),v5 = .int .i64 x5_1 ∧ Aside0 (jlex_run.l0 kq a0 a1 x5_1 = some r) ∧ Aside0 (kq ≤ k) ∧ Drawn0 w w')
 case atStart=>exact ⟨(0),(by first|rfl|(simp;done)|(simp [*];done)),H',⟨Nat.le_refl _⟩,by repeat (first|exact Drawn0.refl _|apply Drawn0.step)⟩
 case round =>
  clear H'
  try clear p2
  obtain ⟨x5_1,rfl,HA,HK1,⟨m1,rfl⟩⟩:=hrel
  cases gk with
  | zero=>exact absurd HA.out (by simp [jlex_run.l0])
  | succ k1 =>
   have H:=HA.out
   clear HA
   simp only [jlex_run.l0] at H
   by_cases c3 : x5_1 < (a0.size : Int)
   ·rw [if_pos c3] at H
    have c3b0 : decide (x5_1 < (a0.size : Int)) = true:=decide_eq_true c3
    clear c3
    by_cases c4 : 0 ≤ x5_1
    ·rw [if_pos c4] at H
     have c4b0 : decide (0 ≤ x5_1) = true:=decide_eq_true c4
     clear c4
     replace H:=Option.bind_eq_some_iff.mp H
     obtain ⟨t102,A60,H⟩:=H
     replace H : (if t102 = true then (jlex_run.l0 k1 a0 a1 (wrap64 (x5_1 + 1))) else (if a1 = true then ((jlex_digit.f (bt a0 x5_1)).bind fun t103=>(if t103 = true then (jlex_run.l0 k1 a0 a1 (wrap64 (x5_1 + 1))) else (if (bt a0 x5_1) = 46 then (jlex_run.l0 k1 a0 a1 (wrap64 (x5_1 + 1))) else (if (bt a0 x5_1) = 43 then (jlex_run.l0 k1 a0 a1 (wrap64 (x5_1 + 1))) else (if (bt a0 x5_1) = 45 then (jlex_run.l0 k1 a0 a1 (wrap64 (x5_1 + 1))) else (some x5_1)))))) else (some x5_1))) = some r:=H
     have A6:=Aside0.mk A60
     clear A60
     by_cases c7 : t102 = true
     ·subst c7
      have H1 : (jlex_run.l0 k1 a0 a1 (wrap64 (x5_1 + 1))) = some r:=by rw [if_pos rfl] at H;exact H
      clear H
      have H:=H1
      clear H1
      have H':=Aside0.mk H
      clear H
      have p5 : 0 ≤ (x5_1 : Int):=of_decide_eq_true (by first|(with_reducible assumption)|assumption)
      have q5 : x5_1 < (a0.size : Int):=of_decide_eq_true (by first|(with_reducible assumption)|assumption)
      have hx5:=bt_at a0 x5_1
      replace p5:=eq_true p5
      replace q5:=eq_true q5
      go_wp2_with (first|(go_at_call 62;(with_reducible refine (jlex_letter.calls (bt a0 x5_1) true _ A6.out).mono ?_);rintro e w' ⟨rfl,⟨nd,rfl⟩⟩))
      go_roundg k1
      case measure=>have:=HK1.out;omega
      case rel=>exact ⟨(wrap64 (x5_1 + 1)),(by first|rfl|(simp;done)|(simp [*];done)),H',⟨by have:=HK1.out;omega⟩,by repeat (first|exact Drawn0.refl _|apply Drawn0.step)⟩
     ·replace c7:=Bool.eq_false_iff.mpr c7
      subst c7
      have H1 : (if a1 = true then ((jlex_digit.f (bt a0 x5_1)).bind fun t103=>(if t103 = true then (jlex_run.l0 k1 a0 a1 (wrap64 (x5_1 + 1))) else (if (bt a0 x5_1) = 46 then (jlex_run.l0 k1 a0 a1 (wrap64 (x5_1 + 1))) else (if (bt a0 x5_1) = 43 then (jlex_run.l0 k1 a0 a1 (wrap64 (x5_1 + 1))) else (if (bt a0 x5_1) = 45 then (jlex_run.l0 k1 a0 a1 (wrap64 (x5_1 + 1))) else (some x5_1)))))) else (some x5_1)) = some r:=by rw [if_neg (show ¬ (false = true) by decide)] at H;exact H
      clear H
      have H:=H1
      clear H1
      by_cases c8 : a1 = true
      ·subst c8
       have H1 : ((jlex_digit.f (bt a0 x5_1)).bind fun t103=>(if t103 = true then (jlex_run.l0 k1 a0 true (wrap64 (x5_1 + 1))) else (if (bt a0 x5_1) = 46 then (jlex_run.l0 k1 a0 true (wrap64 (x5_1 + 1))) else (if (bt a0 x5_1) = 43 then (jlex_run.l0 k1 a0 true (wrap64 (x5_1 + 1))) else (if (bt a0 x5_1) = 45 then (jlex_run.l0 k1 a0 true (wrap64 (x5_1 + 1))) else (some x5_1)))))) = some r:=by rw [if_pos rfl] at H;exact H
       clear H
       have H:=H1
       clear H1
       replace H:=Option.bind_eq_some_iff.mp H
       obtain ⟨t103,A100,H⟩:=H
       replace H : (if t103 = true then (jlex_run.l0 k1 a0 true (wrap64 (x5_1 + 1))) else (if (bt a0 x5_1) = 46 then (jlex_run.l0 k1 a0 true (wrap64 (x5_1 + 1))) else (if (bt a0 x5_1) = 43 then (jlex_run.l0 k1 a0 true (wrap64 (x5_1 + 1))) else (if (bt a0 x5_1) = 45 then (jlex_run.l0 k1 a0 true (wrap64 (x5_1 + 1))) else (some x5_1))))) = some r:=H
       have A10:=Aside0.mk A100
       clear A100
       by_cases c11 : t103 = true
       ·subst c11
        have H1 : (jlex_run.l0 k1 a0 true (wrap64 (x5_1 + 1))) = some r:=by rw [if_pos rfl] at H;exact H
        clear H
        have H:=H1
        clear H1
        have H':=Aside0.mk H
        clear H
        have p5 : 0 ≤ (x5_1 : Int):=of_decide_eq_true (by first|(with_reducible assumption)|assumption)
        have q5 : x5_1 < (a0.size : Int):=of_decide_eq_true (by first|(with_reducible assumption)|assumption)
        have hx5:=bt_at a0 x5_1
        replace p5:=eq_true p5
        replace q5:=eq_true q5
        go_wp2_with (first|(go_at_call 62;(with_reducible refine (jlex_letter.calls (bt a0 x5_1) false _ A6.out).mono ?_);rintro e w' ⟨rfl,⟨nd,rfl⟩⟩;have p9 : 0 ≤ (x5_1 : Int):=of_decide_eq_true (by first|(with_reducible assumption)|assumption);have q9 : x5_1 < (a0.size : Int):=of_decide_eq_true (by first|(with_reducible assumption)|assumption);have hx9:=bt_at a0 x5_1;replace p9:=eq_true p9;replace q9:=eq_true q9)|(go_at_call 41;(with_reducible refine (jlex_digit.calls (bt a0 x5_1) true _ A10.out).mono ?_);rintro e w' ⟨rfl,⟨nd,rfl⟩⟩))
        go_roundg k1
        case measure=>have:=HK1.out;omega
        case rel=>exact ⟨(wrap64 (x5_1 + 1)),(by first|rfl|(simp;done)|(simp [*];done)),H',⟨by have:=HK1.out;omega⟩,by repeat (first|exact Drawn0.refl _|apply Drawn0.step)⟩
       ·replace c11:=Bool.eq_false_iff.mpr c11
        subst c11
        have H1 : (if (bt a0 x5_1) = 46 then (jlex_run.l0 k1 a0 true (wrap64 (x5_1 + 1))) else (if (bt a0 x5_1) = 43 then (jlex_run.l0 k1 a0 true (wrap64 (x5_1 + 1))) else (if (bt a0 x5_1) = 45 then (jlex_run.l0 k1 a0 true (wrap64 (x5_1 + 1))) else (some x5_1)))) = some r:=by rw [if_neg (show ¬ (false = true) by decide)] at H;exact H
        clear H
        have H:=H1
        clear H1
        by_cases c13 : (bt a0 x5_1) = 46
        ·rw [if_pos c13] at H
         have c13b0 : ((bt a0 x5_1) == 46) = true:=beq_iff_eq.mpr c13
         have c13b1 : ((bt a0 x5_1) != 46) = false:=bne_eq_false_iff_eq.mpr c13
         clear c13
         have H':=Aside0.mk H
         clear H
         have p5 : 0 ≤ (x5_1 : Int):=of_decide_eq_true (by first|(with_reducible assumption)|assumption)
         have q5 : x5_1 < (a0.size : Int):=of_decide_eq_true (by first|(with_reducible assumption)|assumption)
         have hx5:=bt_at a0 x5_1
         replace p5:=eq_true p5
         replace q5:=eq_true q5
         go_wp2_with (first|(go_at_call 62;(with_reducible refine (jlex_letter.calls (bt a0 x5_1) false _ A6.out).mono ?_);rintro e w' ⟨rfl,⟨nd,rfl⟩⟩;have p9 : 0 ≤ (x5_1 : Int):=of_decide_eq_true (by first|(with_reducible assumption)|assumption);have q9 : x5_1 < (a0.size : Int):=of_decide_eq_true (by first|(with_reducible assumption)|assumption);have hx9:=bt_at a0 x5_1;replace p9:=eq_true p9;replace q9:=eq_true q9)|(go_at_call 41;(with_reducible refine (jlex_digit.calls (bt a0 x5_1) false _ A10.out).mono ?_);rintro e w' ⟨rfl,⟨nd,rfl⟩⟩;have p12 : 0 ≤ (x5_1 : Int):=of_decide_eq_true (by first|(with_reducible assumption)|assumption);have q12 : x5_1 < (a0.size : Int):=of_decide_eq_true (by first|(with_reducible assumption)|assumption);have hx12:=bt_at a0 x5_1;replace p12:=eq_true p12;replace q12:=eq_true q12))
         go_roundg k1
         case measure=>have:=HK1.out;omega
         case rel=>exact ⟨(wrap64 (x5_1 + 1)),(by first|rfl|(simp;done)|(simp [*];done)),H',⟨by have:=HK1.out;omega⟩,by repeat (first|exact Drawn0.refl _|apply Drawn0.step)⟩
        ·rw [if_neg c13] at H
         have c13b0 : ((bt a0 x5_1) == 46) = false:=beq_eq_false_iff_ne.mpr c13
         have c13b1 : ((bt a0 x5_1) != 46) = true:=bne_iff_ne.mpr c13
         by_cases c15 : (bt a0 x5_1) = 43
         ·rw [if_pos c15] at H
          have c15b0 : ((bt a0 x5_1) == 43) = true:=beq_iff_eq.mpr c15
          have c15b1 : ((bt a0 x5_1) != 43) = false:=bne_eq_false_iff_eq.mpr c15
          clear c15
          have H':=Aside0.mk H
          clear H
          have p5 : 0 ≤ (x5_1 : Int):=of_decide_eq_true (by first|(with_reducible assumption)|assumption)
          have q5 : x5_1 < (a0.size : Int):=of_decide_eq_true (by first|(with_reducible assumption)|assumption)
          have hx5:=bt_at a0 x5_1
          replace p5:=eq_true p5
          replace q5:=eq_true q5
          go_wp2_with (first|(go_at_call 62;(with_reducible refine (jlex_letter.calls (bt a0 x5_1) false _ A6.out).mono ?_);rintro e w' ⟨rfl,⟨nd,rfl⟩⟩;have p9 : 0 ≤ (x5_1 : Int):=of_decide_eq_true (by first|(with_reducible assumption)|assumption);have q9 : x5_1 < (a0.size : Int):=of_decide_eq_true (by first|(with_reducible assumption)|assumption);have hx9:=bt_at a0 x5_1;replace p9:=eq_true p9;replace q9:=eq_true q9)|(go_at_call 41;(with_reducible refine (jlex_digit.calls (bt a0 x5_1) false _ A10.out).mono ?_);rintro e w' ⟨rfl,⟨nd,rfl⟩⟩;have p12 : 0 ≤ (x5_1 : Int):=of_decide_eq_true (by first|(with_reducible assumption)|assumption);have q12 : x5_1 < (a0.size : Int):=of_decide_eq_true (by first|(with_reducible assumption)|assumption);have hx12:=bt_at a0 x5_1;replace p12:=eq_true p12;replace q12:=eq_true q12;have p14 : 0 ≤ (x5_1 : Int):=of_decide_eq_true (by first|(with_reducible assumption)|assumption);have q14 : x5_1 < (a0.size : Int):=of_decide_eq_true (by first|(with_reducible assumption)|assumption);have hx14:=bt_at a0 x5_1;replace p14:=eq_true p14;replace q14:=eq_true q14))
          go_roundg k1
          case measure=>have:=HK1.out;omega
          case rel=>exact ⟨(wrap64 (x5_1 + 1)),(by first|rfl|(simp;done)|(simp [*];done)),H',⟨by have:=HK1.out;omega⟩,by repeat (first|exact Drawn0.refl _|apply Drawn0.step)⟩
         ·rw [if_neg c15] at H
          have c15b0 : ((bt a0 x5_1) == 43) = false:=beq_eq_false_iff_ne.mpr c15
          have c15b1 : ((bt a0 x5_1) != 43) = true:=bne_iff_ne.mpr c15
          by_cases c17 : (bt a0 x5_1) = 45
          ·rw [if_pos c17] at H
           have c17b0 : ((bt a0 x5_1) == 45) = true:=beq_iff_eq.mpr c17
           have c17b1 : ((bt a0 x5_1) != 45) = false:=bne_eq_false_iff_eq.mpr c17
           clear c17
           have H':=Aside0.mk H
           clear H
           have p5 : 0 ≤ (x5_1 : Int):=of_decide_eq_true (by first|(with_reducible assumption)|assumption)
           have q5 : x5_1 < (a0.size : Int):=of_decide_eq_true (by first|(with_reducible assumption)|assumption)
           have hx5:=bt_at a0 x5_1
           replace p5:=eq_true p5
           replace q5:=eq_true q5
           go_wp2_with (first|(go_at_call 62;(with_reducible refine (jlex_letter.calls (bt a0 x5_1) false _ A6.out).mono ?_);rintro e w' ⟨rfl,⟨nd,rfl⟩⟩;have p9 : 0 ≤ (x5_1 : Int):=of_decide_eq_true (by first|(with_reducible assumption)|assumption);have q9 : x5_1 < (a0.size : Int):=of_decide_eq_true (by first|(with_reducible assumption)|assumption);have hx9:=bt_at a0 x5_1;replace p9:=eq_true p9;replace q9:=eq_true q9)|(go_at_call 41;(with_reducible refine (jlex_digit.calls (bt a0 x5_1) false _ A10.out).mono ?_);rintro e w' ⟨rfl,⟨nd,rfl⟩⟩;have p12 : 0 ≤ (x5_1 : Int):=of_decide_eq_true (by first|(with_reducible assumption)|assumption);have q12 : x5_1 < (a0.size : Int):=of_decide_eq_true (by first|(with_reducible assumption)|assumption);have hx12:=bt_at a0 x5_1;replace p12:=eq_true p12;replace q12:=eq_true q12;have p14 : 0 ≤ (x5_1 : Int):=of_decide_eq_true (by first|(with_reducible assumption)|assumption);have q14 : x5_1 < (a0.size : Int):=of_decide_eq_true (by first|(with_reducible assumption)|assumption);have hx14:=bt_at a0 x5_1;replace p14:=eq_true p14;replace q14:=eq_true q14;have p16 : 0 ≤ (x5_1 : Int):=of_decide_eq_true (by first|(with_reducible assumption)|assumption);have q16 : x5_1 < (a0.size : Int):=of_decide_eq_true (by first|(with_reducible assumption)|assumption);have hx16:=bt_at a0 x5_1;replace p16:=eq_true p16;replace q16:=eq_true q16))
           go_roundg k1
           case measure=>have:=HK1.out;omega
           case rel=>exact ⟨(wrap64 (x5_1 + 1)),(by first|rfl|(simp;done)|(simp [*];done)),H',⟨by have:=HK1.out;omega⟩,by repeat (first|exact Drawn0.refl _|apply Drawn0.step)⟩
          ·rw [if_neg c17] at H
           have c17b0 : ((bt a0 x5_1) == 45) = false:=beq_eq_false_iff_ne.mpr c17
           have c17b1 : ((bt a0 x5_1) != 45) = true:=bne_iff_ne.mpr c17
           obtain rfl:=Option.some.inj H
           have p5 : 0 ≤ (x5_1 : Int):=of_decide_eq_true (by first|(with_reducible assumption)|assumption)
           have q5 : x5_1 < (a0.size : Int):=of_decide_eq_true (by first|(with_reducible assumption)|assumption)
           have hx5:=bt_at a0 x5_1
           replace p5:=eq_true p5
           replace q5:=eq_true q5
           go_wp2_with (first|(go_at_call 62;(with_reducible refine (jlex_letter.calls (bt a0 x5_1) false _ A6.out).mono ?_);rintro e w' ⟨rfl,⟨nd,rfl⟩⟩;have p9 : 0 ≤ (x5_1 : Int):=of_decide_eq_true (by first|(with_reducible assumption)|assumption);have q9 : x5_1 < (a0.size : Int):=of_decide_eq_true (by first|(with_reducible assumption)|assumption);have hx9:=bt_at a0 x5_1;replace p9:=eq_true p9;replace q9:=eq_true q9)|(go_at_call 41;(with_reducible refine (jlex_digit.calls (bt a0 x5_1) false _ A10.out).mono ?_);rintro e w' ⟨rfl,⟨nd,rfl⟩⟩;have p12 : 0 ≤ (x5_1 : Int):=of_decide_eq_true (by first|(with_reducible assumption)|assumption);have q12 : x5_1 < (a0.size : Int):=of_decide_eq_true (by first|(with_reducible assumption)|assumption);have hx12:=bt_at a0 x5_1;replace p12:=eq_true p12;replace q12:=eq_true q12;have p14 : 0 ≤ (x5_1 : Int):=of_decide_eq_true (by first|(with_reducible assumption)|assumption);have q14 : x5_1 < (a0.size : Int):=of_decide_eq_true (by first|(with_reducible assumption)|assumption);have hx14:=bt_at a0 x5_1;replace p14:=eq_true p14;replace q14:=eq_true q14;have p16 : 0 ≤ (x5_1 : Int):=of_decide_eq_true (by first|(with_reducible assumption)|assumption);have q16 : x5_1 < (a0.size : Int):=of_decide_eq_true (by first|(with_reducible assumption)|assumption);have hx16:=bt_at a0 x5_1;replace p16:=eq_true p16;replace q16:=eq_true q16))
           go_ret
           exact ⟨by first|rfl|(simp;done)|(simp [*];done),by repeat (first|exact Drawn0.refl _|apply Drawn0.step)⟩
      ·replace c8:=Bool.eq_false_iff.mpr c8
       subst c8
       have H1 : (some x5_1) = some r:=by rw [if_neg (show ¬ (false = true) by decide)] at H;exact H
       clear H
       have H:=H1
       clear H1
       obtain rfl:=Option.some.inj H
       have p5 : 0 ≤ (x5_1 : Int):=of_decide_eq_true (by first|(with_reducible assumption)|assumption)
       have q5 : x5_1 < (a0.size : Int):=of_decide_eq_true (by first|(with_reducible assumption)|assumption)
       have hx5:=bt_at a0 x5_1
       replace p5:=eq_true p5
       replace q5:=eq_true q5
       go_wp2_with (first|(go_at_call 62;(with_reducible refine (jlex_letter.calls (bt a0 x5_1) false _ A6.out).mono ?_);rintro e w' ⟨rfl,⟨nd,rfl⟩⟩))
       go_ret
       exact ⟨by first|rfl|(simp;done)|(simp [*];done),by repeat (first|exact Drawn0.refl _|apply Drawn0.step)⟩
    ·rw [if_neg c4] at H
     exact absurd H (by simp)
   ·rw [if_neg c3] at H
    have c3b0 : decide (x5_1 < (a0.size : Int)) = false:=decide_eq_false c3
    clear c3
    obtain rfl:=Option.some.inj H
    go_wp2
    go_ret
    exact ⟨by first|rfl|(simp;done)|(simp [*];done),by repeat (first|exact Drawn0.refl _|apply Drawn0.step)⟩

end Go.Proofs.YtnkkbiabloodaaaDoor.GUt
