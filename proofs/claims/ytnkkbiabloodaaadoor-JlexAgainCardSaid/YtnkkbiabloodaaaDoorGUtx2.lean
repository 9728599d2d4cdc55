/- Written by this session's own program (wip/gen.py) out of the translation: plain Lean functions of the Go functions, and proofs that the calls come to their answers. No conditions beside those in the statements. -/
import Derived.Test.YtnkkbiabloodaaaDoorGUtx0
namespace Go.Proofs.YtnkkbiabloodaaaDoor.GUt
open Go.RowKit Go.Proofs.YtnkkbiabloodaaaDoorW.PrintWords Go.Proofs.YtnkkbiabloodaaaDoorW.PrintLast Go.Proofs.YtnkkbiabloodaaaDoorW.PrintMore
attribute [local go_sem] max2_int min2_int max_two min_two max_three min_three max_four min_four   -- for this text's walks alone
set_option linter.unusedVariables false
set_option linter.unusedSimpArgs false

/-! ### jlex_skip: function 43 -/
mutual
def jlex_skip.l0 : Nat → ByteArray → Int → Option (Int)
 | 0,_,_=>none
 | k + 1,x0,x1=>if x1 < (x0.size : Int) then (if 0 ≤ x1 then (if (bt x0 x1) = 32 then (jlex_skip.j1 k x0 x1 (bt x0 x1) ((bt x0 x1) == 32)) else (jlex_skip.j1 k x0 x1 (bt x0 x1) ((bt x0 x1) == 9))) else (none)) else (some x1)
def jlex_skip.j1 : Nat → ByteArray → Int → Int → Bool → Option (Int)
 | 0,_,_,_,_=>none
 | k + 1,x0,x1,x11,x12=>if x12 = true then (jlex_skip.l0 k x0 (wrap64 (x1 + 1))) else (if x11 = 10 then (jlex_skip.l0 k x0 (wrap64 (x1 + 1))) else (if x11 = 13 then (jlex_skip.l0 k x0 (wrap64 (x1 + 1))) else (some x1)))
end
def jlex_skip.f (k : Nat) (a0 : ByteArray) (a1 : Int) : Option (Int):=jlex_skip.l0 k a0 a1
theorem jlex_skip.mono_l : ∀ k,(∀ y0 y1,LeO (jlex_skip.l0 k y0 y1) (jlex_skip.l0 (k + 1) y0 y1)) ∧ (∀ y0 y1 y2 y3,LeO (jlex_skip.j1 k y0 y1 y2 y3) (jlex_skip.j1 (k + 1) y0 y1 y2 y3))
 | 0=>⟨fun _ _ r h=>by simp [jlex_skip.l0] at h,fun _ _ _ _ r h=>by simp [jlex_skip.j1] at h⟩
 | k + 1=>by
  obtain ⟨ih0,ih1⟩:=jlex_skip.mono_l k
  refine ⟨?_,?_⟩
  ·intro y0 y1
   unfold jlex_skip.l0
   repeat' first
   | (with_reducible exact ih0 _ _)
   | (with_reducible exact ih1 _ _ _ _)
   | (with_reducible exact LeO.refl _)
   | (with_reducible exact LeO.none _)
   | (with_reducible refine LeO.ite ?_ ?_)
   | (with_reducible refine LeO.bind ?_ (fun _=>?_))
   | exact ih0 _ _
   | exact ih1 _ _ _ _
   | exact LeO.none _
   | refine LeO.ite ?_ ?_
   | refine LeO.bind ?_ (fun _=>?_)
  ·intro y0 y1 y2 y3
   unfold jlex_skip.j1
   repeat' first
   | (with_reducible exact ih0 _ _)
   | (with_reducible exact ih1 _ _ _ _)
   | (with_reducible exact LeO.refl _)
   | (with_reducible exact LeO.none _)
   | (with_reducible refine LeO.ite ?_ ?_)
   | (with_reducible refine LeO.bind ?_ (fun _=>?_))
   | exact ih0 _ _
   | exact ih1 _ _ _ _
   | exact LeO.none _
   | refine LeO.ite ?_ ?_
   | refine LeO.bind ?_ (fun _=>?_)
theorem jlex_skip.mono : ∀ a0 a1 k,LeO (jlex_skip.f k a0 a1) (jlex_skip.f (k + 1) a0 a1):=by
 intro a0 a1 k
 obtain ⟨ih0,ih1⟩:=jlex_skip.mono_l k
 unfold jlex_skip.f
 repeat' first
   | (with_reducible exact ih0 _ _)
   | (with_reducible exact ih1 _ _ _ _)
   | (with_reducible exact LeO.refl _)
   | (with_reducible exact LeO.none _)
   | (with_reducible refine LeO.ite ?_ ?_)
   | (with_reducible refine LeO.bind ?_ (fun _=>?_))
   | exact ih0 _ _
   | exact ih1 _ _ _ _
   | exact LeO.none _
   | refine LeO.ite ?_ ?_
   | refine LeO.bind ?_ (fun _=>?_)
set_option maxHeartbeats 8000000 in
set_option maxRecDepth 100000 in
theorem jlex_skip.calls (k : Nat) (a0 : ByteArray) (a1 : Int) (r : Int) (w : World) (h : jlex_skip.f k a0 a1 = some r) :
  Calls Tryd.prog 43 #[.string a0,.int .i64 a1] w fun e w'=>e = .returned (.int .i64 r) ∧ Drawn0 w w':=by
 have H : (jlex_skip.l0 k a0 a1) = some r:=h
 clear h
 have H':=Aside0.mk H
 clear H
 go_enter Tryd.func43,Tryd.ntmps43
 go_wp2
 go_loopg [1] k (fun kq v1 w'=>∃ (x1_1 : Int),v1 = .int .i64 x1_1 ∧ Aside0 (jlex_skip.l0 kq a0 x1_1 = some r) ∧ Aside0 (kq ≤ k) ∧ Drawn0 w w')
 case atStart=>exact ⟨(a1),(by first|rfl|(simp;done)|(simp [*];done)),H',⟨Nat.le_refl _⟩,by repeat (first|exact Drawn0.refl _|apply Drawn0.step)⟩
 case round =>
  clear H'
  try clear p2
  obtain ⟨x1_1,rfl,HA,HK1,⟨m1,rfl⟩⟩:=hrel
  cases gk with
  | zero=>exact absurd HA.out (by simp [jlex_skip.l0])
  | succ k1 =>
   have H:=HA.out
   clear HA
   simp only [jlex_skip.l0] at H
   by_cases c3 : x1_1 < (a0.size : Int)
   ·rw [if_pos c3] at H
    have c3b0 : decide (x1_1 < (a0.size : Int)) = true:=decide_eq_true c3
    clear c3
    by_cases c4 : 0 ≤ x1_1
    ·rw [if_pos c4] at H
     have c4b0 : decide (0 ≤ x1_1) = true:=decide_eq_true c4
     clear c4
     have HC6:=Aside0.mk H
     clear H
     have p5 : 0 ≤ (x1_1 : Int):=of_decide_eq_true (by first|(with_reducible assumption)|assumption)
     have q5 : x1_1 < (a0.size : Int):=of_decide_eq_true (by first|(with_reducible assumption)|assumption)
     have hx5:=bt_at a0 x1_1
     replace p5:=eq_true p5
     replace q5:=eq_true q5
     go_upto_if 12 with (fail)
     go_cut [12] (fun v12 wc=>∃ (kq : Nat) (x12_5 : Bool),v12 = .bool x12_5 ∧ Aside0 (jlex_skip.j1 kq a0 x1_1 (bt a0 x1_1) x12_5 = some r) ∧ Aside0 (kq ≤ k1) ∧ Drawn0 w wc)
     case first =>
      have H:=HC6.out
      clear HC6
      by_cases c7 : (bt a0 x1_1) = 32
      ·rw [if_pos c7] at H
       have c7b0 : ((bt a0 x1_1) == 32) = true:=beq_iff_eq.mpr c7
       have c7b1 : ((bt a0 x1_1) != 32) = false:=bne_eq_false_iff_eq.mpr c7
       clear c7
       (first|rw [c7b0]|(simp only [i64_w,i32_w];rw [c7b0])|skip)
       have H':=Aside0.mk H
       clear H
       go_wp2
       go_meet
       case rel=>exact ⟨_,(((bt a0 x1_1) == 32)),(by first|rfl|(simp;done)|(simp [*];done)),H',⟨by have:=HK1.out;first|omega|exact Nat.le_refl _⟩,by repeat (first|exact Drawn0.refl _|apply Drawn0.step)⟩
      ·rw [if_neg c7] at H
       have c7b0 : ((bt a0 x1_1) == 32) = false:=beq_eq_false_iff_ne.mpr c7
       have c7b1 : ((bt a0 x1_1) != 32) = true:=bne_iff_ne.mpr c7
       (first|rw [c7b0]|(simp only [i64_w,i32_w];rw [c7b0])|skip)
       have H':=Aside0.mk H
       clear H
       go_wp2
       go_meet
       case rel=>exact ⟨_,(((bt a0 x1_1) == 9)),(by first|rfl|(simp;done)|(simp [*];done)),H',⟨by have:=HK1.out;first|omega|exact Nat.le_refl _⟩,by repeat (first|exact Drawn0.refl _|apply Drawn0.step)⟩
     case rest =>
      clear HC6
      try clear p2
      try clear c3
      try clear c3b0
      try clear c4
      try clear c4b0
      try clear p5
      try clear q5
      try clear hx5
      try clear c7
      try clear c7b0
      try clear c7b1
      try clear p2
      try clear p5
      try clear q5
      obtain ⟨kq,x12_5,rfl,HA,HJ5,⟨mc5,rfl⟩⟩:=hcut
      cases kq with
      | zero=>exact absurd HA.out (by simp [jlex_skip.j1])
      | succ kj5 =>
       have H:=HA.out
       clear HA
       simp only [jlex_skip.j1] at H
       by_cases c8 : x12_5 = true
       ·subst c8
        have H1 : (jlex_skip.l0 kj5 a0 (wrap64 (x1_1 + 1))) = some r:=by rw [if_pos rfl] at H;exact H
        clear H
        have H:=H1
        clear H1
        have H':=Aside0.mk H
        clear H
        go_wp2
        go_roundg kj5
        case measure=>have:=HK1.out;have:=HJ5.out;omega
        case rel=>exact ⟨(wrap64 (x1_1 + 1)),(by first|rfl|(simp;done)|(simp [*];done)),H',⟨by have:=HK1.out;have:=HJ5.out;omega⟩,by repeat (first|exact Drawn0.refl _|apply Drawn0.step)⟩
       ·replace c8:=Bool.eq_false_iff.mpr c8
        subst c8
        have H1 : (if (bt a0 x1_1) = 10 then (jlex_skip.l0 kj5 a0 (wrap64 (x1_1 + 1))) else (if (bt a0 x1_1) = 13 then (jlex_skip.l0 kj5 a0 (wrap64 (x1_1 + 1))) else (some x1_1))) = some r:=by rw [if_neg (show ¬ (false = true) by decide)] at H;exact H
        clear H
        have H:=H1
        clear H1
        by_cases c9 : (bt a0 x1_1) = 10
        ·rw [if_pos c9] at H
         have c9b0 : ((bt a0 x1_1) == 10) = true:=beq_iff_eq.mpr c9
         have c9b1 : ((bt a0 x1_1) != 10) = false:=bne_eq_false_iff_eq.mpr c9
         clear c9
         have H':=Aside0.mk H
         clear H
         go_wp2
         go_roundg kj5
         case measure=>have:=HK1.out;have:=HJ5.out;omega
         case rel=>exact ⟨(wrap64 (x1_1 + 1)),(by first|rfl|(simp;done)|(simp [*];done)),H',⟨by have:=HK1.out;have:=HJ5.out;omega⟩,by repeat (first|exact Drawn0.refl _|apply Drawn0.step)⟩
        ·rw [if_neg c9] at H
         have c9b0 : ((bt a0 x1_1) == 10) = false:=beq_eq_false_iff_ne.mpr c9
         have c9b1 : ((bt a0 x1_1) != 10) = true:=bne_iff_ne.mpr c9
         by_cases c10 : (bt a0 x1_1) = 13
         ·rw [if_pos c10] at H
          have c10b0 : ((bt a0 x1_1) == 13) = true:=beq_iff_eq.mpr c10
          have c10b1 : ((bt a0 x1_1) != 13) = false:=bne_eq_false_iff_eq.mpr c10
          clear c10
          have H':=Aside0.mk H
          clear H
          go_wp2
          go_roundg kj5
          case measure=>have:=HK1.out;have:=HJ5.out;omega
          case rel=>exact ⟨(wrap64 (x1_1 + 1)),(by first|rfl|(simp;done)|(simp [*];done)),H',⟨by have:=HK1.out;have:=HJ5.out;omega⟩,by repeat (first|exact Drawn0.refl _|apply Drawn0.step)⟩
         ·rw [if_neg c10] at H
          have c10b0 : ((bt a0 x1_1) == 13) = false:=beq_eq_false_iff_ne.mpr c10
          have c10b1 : ((bt a0 x1_1) != 13) = true:=bne_iff_ne.mpr c10
          obtain rfl:=Option.some.inj H
          go_wp2
          go_ret
          exact ⟨by first|rfl|(simp;done)|(simp [*];done),by repeat (first|exact Drawn0.refl _|apply Drawn0.step)⟩
    ·rw [if_neg c4] at H
     exact absurd H (by simp)
   ·rw [if_neg c3] at H
    have c3b0 : decide (x1_1 < (a0.size : Int)) = false:=decide_eq_false c3
    clear c3
    obtain rfl:=Option.some.inj H
    go_wp2
    go_ret
    exact ⟨by first|rfl|(simp;done)|(simp [*];done),by repeat (first|exact Drawn0.refl _|apply Drawn0.step)⟩

/-! ### jlex_digit: function 41 -/
def jlex_digit.f (a0 : Int) : Option (Bool):=if a0 ≥ 48 then (some (decide (a0 ≤ 57))) else (some false)
set_option maxHeartbeats 8000000 in
set_option maxRecDepth 100000 in
theorem jlex_digit.calls (a0 : Int) (r : Bool) (w : World) (h : jlex_digit.f a0 = some r) :
  Calls Tryd.prog 41 #[.int .u8 a0] w fun e w'=>e = .returned (.bool r) ∧ Drawn0 w w':=by
 have H : (if a0 ≥ 48 then (some (decide (a0 ≤ 57))) else (some false)) = some r:=h
 clear h
 by_cases c2 : a0 ≥ 48
 ·rw [if_pos c2] at H
  have c2b0 : decide (48 ≤ a0) = true:=decide_eq_true c2
  clear c2
  obtain rfl:=Option.some.inj H
  go_enter Tryd.func41,Tryd.ntmps41
  go_wp2
  go_ret
  exact ⟨by first|rfl|(simp;done)|(simp [*];done),by repeat (first|exact Drawn0.refl _|apply Drawn0.step)⟩
 ·rw [if_neg c2] at H
  have c2b0 : decide (48 ≤ a0) = false:=decide_eq_false c2
  clear c2
  obtain rfl:=Option.some.inj H
  go_enter Tryd.func41,Tryd.ntmps41
  go_wp2
  go_ret
  exact ⟨by first|rfl|(simp;done)|(simp [*];done),by repeat (first|exact Drawn0.refl _|apply Drawn0.step)⟩

end Go.Proofs.YtnkkbiabloodaaaDoor.GUt
