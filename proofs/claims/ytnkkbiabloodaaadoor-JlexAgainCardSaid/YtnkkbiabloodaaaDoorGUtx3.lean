/- Written by this session's own program (wip/gen.py) out of the translation: plain Lean functions of the Go functions, and proofs that the calls come to their answers. No conditions beside those in the statements. -/
import Derived.Test.YtnkkbiabloodaaaDoorGUtx0
import Derived.Test.YtnkkbiabloodaaaDoorGUtx2
namespace Go.Proofs.YtnkkbiabloodaaaDoor.GUt
open Go.RowKit Go.Proofs.YtnkkbiabloodaaaDoorW.PrintWords Go.Proofs.YtnkkbiabloodaaaDoorW.PrintLast Go.Proofs.YtnkkbiabloodaaaDoorW.PrintMore
attribute [local go_sem] max2_int min2_int max_two min_two max_three min_three max_four min_four   -- for this text's walks alone
set_option linter.unusedVariables false
set_option linter.unusedSimpArgs false

/-! ### jlex_Whole: function 26 -/
mutual
def jlex_Whole.j0 : Nat → ByteArray → Bool → Option (Int × Int)
 | 0,_,_=>none
 | k + 1,x0,x4=>if x4 = true then (if 1 ≤ (x0.size : Int) then (jlex_Whole.j1 k (x0.extract 1 x0.size) x4) else (none)) else (jlex_Whole.j1 k x0 x4)
def jlex_Whole.j1 : Nat → ByteArray → Bool → Option (Int × Int)
 | 0,_,_=>none
 | k + 1,x0,x4=>if x0.toList = ([] : List UInt8) then (jlex_Whole.j2 k x0 x4 true) else (if (x0.size : Int) > 1 then (if 0 < (x0.size : Int) then (jlex_Whole.j2 k x0 x4 ((bt x0 0) == 48)) else (none)) else (jlex_Whole.j2 k x0 x4 false))
def jlex_Whole.j2 : Nat → ByteArray → Bool → Bool → Option (Int × Int)
 | 0,_,_,_=>none
 | k + 1,x0,x4,x31=>if x31 = true then (some (0,12)) else (if x4 = true then (jlex_Whole.j3 k x0 x4 (9223372036854775807 + 1)) else (jlex_Whole.j3 k x0 x4 9223372036854775807))
def jlex_Whole.j3 : Nat → ByteArray → Bool → Int → Option (Int × Int)
 | 0,_,_,_=>none
 | k + 1,x0,x4,x5=>jlex_Whole.l0 k x0 x4 x5 0 false (x0.size : Int) 0
def jlex_Whole.l0 : Nat → ByteArray → Bool → Int → Int → Bool → Int → Int → Option (Int × Int)
 | 0,_,_,_,_,_,_,_=>none
 | k + 1,x0,x4,x5,x6,x7,x36,x37=>if x37 < x36 then (if 0 ≤ x37 then (if x37 < (x0.size : Int) then ((jlex_digit.f (bt x0 x37)).bind fun t101=>(if t101 = true then (if x6 > (IntKind.u64.wrap (Int.tdiv (IntKind.u64.wrap (x5 - (((bt x0 x37) - 48) % 256))) 10)) then (jlex_Whole.l0 k x0 x4 x5 x6 true x36 (wrap64 (x37 + 1))) else (if x7 = true then (jlex_Whole.l0 k x0 x4 x5 x6 x7 x36 (wrap64 (x37 + 1))) else (jlex_Whole.l0 k x0 x4 x5 (IntKind.u64.wrap ((IntKind.u64.wrap (10 * x6)) + (((bt x0 x37) - 48) % 256))) x7 x36 (wrap64 (x37 + 1))))) else (some (0,12)))) else (none)) else (none)) else (if x7 = true then (some (0,7)) else (if x4 = true then (some (wrap64 (IntKind.u64.wrap (-x6)),0)) else (some (wrap64 (x6),0))))
end
def jlex_Whole.f (k : Nat) (a0 : ByteArray) : Option (Int × Int):=if a0.toList = ([] : List UInt8) then (jlex_Whole.j0 k a0 false) else (if 0 < (a0.size : Int) then (jlex_Whole.j0 k a0 ((bt a0 0) == 45)) else (none))
theorem jlex_Whole.mono_l : ∀ k,(∀ y0 y1,LeO (jlex_Whole.j0 k y0 y1) (jlex_Whole.j0 (k + 1) y0 y1)) ∧ (∀ y0 y1,LeO (jlex_Whole.j1 k y0 y1) (jlex_Whole.j1 (k + 1) y0 y1)) ∧ (∀ y0 y1 y2,LeO (jlex_Whole.j2 k y0 y1 y2) (jlex_Whole.j2 (k + 1) y0 y1 y2)) ∧ (∀ y0 y1 y2,LeO (jlex_Whole.j3 k y0 y1 y2) (jlex_Whole.j3 (k + 1) y0 y1 y2)) ∧ (∀ y0 y1 y2 y3 y4 y5 y6,LeO (jlex_Whole.l0 k y0 y1 y2 y3 y4 y5 y6) (jlex_Whole.l0 (k + 1) y0 y1 y2 y3 y4 y5 y6))
 | 0=>⟨fun _ _ r h=>by simp [jlex_Whole.j0] at h,fun _ _ r h=>by simp [jlex_Whole.j1] at h,fun _ _ _ r h=>by simp [jlex_Whole.j2] at h,fun _ _ _ r h=>by simp [jlex_Whole.j3] at h,fun _ _ _ _ _ _ _ r h=>by simp [jlex_Whole.l0] at h⟩
 | k + 1=>by
  obtain ⟨ih0,ih1,ih2,ih3,ih4⟩:=jlex_Whole.mono_l k
  refine ⟨?_,?_,?_,?_,?_⟩
  ·intro y0 y1
   unfold jlex_Whole.j0
   repeat' first
   | (with_reducible exact ih0 _ _)
   | (with_reducible exact ih1 _ _)
   | (with_reducible exact ih2 _ _ _)
   | (with_reducible exact ih3 _ _ _)
   | (with_reducible exact ih4 _ _ _ _ _ _ _)
   | (with_reducible exact LeO.refl _)
   | (with_reducible exact LeO.none _)
   | (with_reducible refine LeO.ite ?_ ?_)
   | (with_reducible refine LeO.bind ?_ (fun _=>?_))
   | exact ih0 _ _
   | exact ih1 _ _
   | exact ih2 _ _ _
   | exact ih3 _ _ _
   | exact ih4 _ _ _ _ _ _ _
   | exact LeO.none _
   | refine LeO.ite ?_ ?_
   | refine LeO.bind ?_ (fun _=>?_)
  ·intro y0 y1
   unfold jlex_Whole.j1
   repeat' first
   | (with_reducible exact ih0 _ _)
   | (with_reducible exact ih1 _ _)
   | (with_reducible exact ih2 _ _ _)
   | (with_reducible exact ih3 _ _ _)
   | (with_reducible exact ih4 _ _ _ _ _ _ _)
   | (with_reducible exact LeO.refl _)
   | (with_reducible exact LeO.none _)
   | (with_reducible refine LeO.ite ?_ ?_)
   | (with_reducible refine LeO.bind ?_ (fun _=>?_))
   | exact ih0 _ _
   | exact ih1 _ _
   | exact ih2 _ _ _
   | exact ih3 _ _ _
   | exact ih4 _ _ _ _ _ _ _
   | exact LeO.none _
   | refine LeO.ite ?_ ?_
   | refine LeO.bind ?_ (fun _=>?_)
  ·intro y0 y1 y2
   unfold jlex_Whole.j2
   repeat' first
   | (with_reducible exact ih0 _ _)
   | (with_reducible exact ih1 _ _)
   | (with_reducible exact ih2 _ _ _)
   | (with_reducible exact ih3 _ _ _)
   | (with_reducible exact ih4 _ _ _ _ _ _ _)
   | (with_reducible exact LeO.refl _)
   | (with_reducible exact LeO.none _)
   | (with_reducible refine LeO.ite ?_ ?_)
   | (with_reducible refine LeO.bind ?_ (fun _=>?_))
   | exact ih0 _ _
   | exact ih1 _ _
   | exact ih2 _ _ _
   | exact ih3 _ _ _
   | exact ih4 _ _ _ _ _ _ _
   | exact LeO.none _
   | refine LeO.ite ?_ ?_
   | refine LeO.bind ?_ (fun _=>?_)
  ·intro y0 y1 y2
   unfold jlex_Whole.j3
   repeat' first
   | (with_reducible exact ih0 _ _)
   | (with_reducible exact ih1 _ _)
   | (with_reducible exact ih2 _ _ _)
   | (with_reducible exact ih3 _ _ _)
   | (with_reducible exact ih4 _ _ _ _ _ _ _)
   | (with_reducible exact LeO.refl _)
   | (with_reducible exact LeO.none _)
   | (with_reducible refine LeO.ite ?_ ?_)
   | (with_reducible refine LeO.bind ?_ (fun _=>?_))
   | exact ih0 _ _
   | exact ih1 _ _
   | exact ih2 _ _ _
   | exact ih3 _ _ _
   | exact ih4 _ _ _ _ _ _ _
   | exact LeO.none _
   | refine LeO.ite ?_ ?_
   | refine LeO.bind ?_ (fun _=>?_)
  ·intro y0 y1 y2 y3 y4 y5 y6
   unfold jlex_Whole.l0
   repeat' first
   | (with_reducible exact ih0 _ _)
   | (with_reducible exact ih1 _ _)
   | (with_reducible exact ih2 _ _ _)
   | (with_reducible exact ih3 _ _ _)
   | (with_reducible exact ih4 _ _ _ _ _ _ _)
   | (with_reducible exact LeO.refl _)
   | (with_reducible exact LeO.none _)
   | (with_reducible refine LeO.ite ?_ ?_)
   | (with_reducible refine LeO.bind ?_ (fun _=>?_))
   | exact ih0 _ _
   | exact ih1 _ _
   | exact ih2 _ _ _
   | exact ih3 _ _ _
   | exact ih4 _ _ _ _ _ _ _
   | exact LeO.none _
   | refine LeO.ite ?_ ?_
   | refine LeO.bind ?_ (fun _=>?_)
theorem jlex_Whole.mono : ∀ a0 k,LeO (jlex_Whole.f k a0) (jlex_Whole.f (k + 1) a0):=by
 intro a0 k
 obtain ⟨ih0,ih1,ih2,ih3,ih4⟩:=jlex_Whole.mono_l k
 unfold jlex_Whole.f
 repeat' first
   | (with_reducible exact ih0 _ _)
   | (with_reducible exact ih1 _ _)
   | (with_reducible exact ih2 _ _ _)
   | (with_reducible exact ih3 _ _ _)
   | (with_reducible exact ih4 _ _ _ _ _ _ _)
   | (with_reducible exact LeO.refl _)
   | (with_reducible exact LeO.none _)
   | (with_reducible refine LeO.ite ?_ ?_)
   | (with_reducible refine LeO.bind ?_ (fun _=>?_))
   | exact ih0 _ _
   | exact ih1 _ _
   | exact ih2 _ _ _
   | exact ih3 _ _ _
   | exact ih4 _ _ _ _ _ _ _
   | exact LeO.none _
   | refine LeO.ite ?_ ?_
   | refine LeO.bind ?_ (fun _=>?_)
set_option maxHeartbeats 8000000 in
set_option maxRecDepth 100000 in
theorem jlex_Whole.calls (k : Nat) (a0 : ByteArray) (r1 : Int) (r2 : Int) (w : World) (h : jlex_Whole.f k a0 = some (r1,r2)) :
  Calls Tryd.prog 26 #[.string a0] w fun e w'=>e = .returned (.tuple #[.int .i64 r1,.int .i64 r2]) ∧ Drawn0 w w':=by
 have H : (if a0.toList = ([] : List UInt8) then (jlex_Whole.j0 k a0 false) else (if 0 < (a0.size : Int) then (jlex_Whole.j0 k a0 ((bt a0 0) == 45)) else (none))) = some (r1,r2):=h
 clear h
 have HC2:=Aside0.mk H
 clear H
 go_enter Tryd.func26,Tryd.ntmps26
 go_upto_region 1 with (fail)
 go_cut [4] (fun v4 wc=>∃ (kq : Nat) (x4_1 : Bool),v4 = .bool x4_1 ∧ Aside0 (jlex_Whole.j0 kq a0 x4_1 = some (r1,r2)) ∧ Aside0 (kq ≤ k) ∧ Drawn0 w wc)
 case first =>
  have H:=HC2.out
  clear HC2
  by_cases c3 : a0.toList = ([] : List UInt8)
  ·rw [if_pos c3] at H
   have c3b0 : (a0.toList == ([] : List UInt8)) = true:=beq_iff_eq.mpr c3
   have c3b1 : (a0.toList != ([] : List UInt8)) = false:=bne_eq_false_iff_eq.mpr c3
   clear c3
   (first|rw [c3b0]|(simp only [i64_w,i32_w];rw [c3b0])|skip)
   have H':=Aside0.mk H
   clear H
   go_wp2
   go_meet
   case rel=>exact ⟨_,(false),(by first|rfl|(simp;done)|(simp [*];done)|exact congrArg Value.bool (nil_ne_ _)|exact congrArg Value.bool (nil_ne_ _).symm),H',⟨by first|omega|exact Nat.le_refl _⟩,by repeat (first|exact Drawn0.refl _|apply Drawn0.step)⟩
  ·rw [if_neg c3] at H
   have c3b0 : (a0.toList == ([] : List UInt8)) = false:=beq_eq_false_iff_ne.mpr c3
   have c3b1 : (a0.toList != ([] : List UInt8)) = true:=bne_iff_ne.mpr c3
   (first|rw [c3b0]|(simp only [i64_w,i32_w];rw [c3b0])|skip)
   by_cases c4 : 0 < (a0.size : Int)
   ·rw [if_pos c4] at H
    have c4b0 : decide (0 < (a0.size : Int)) = true:=decide_eq_true c4
    have c4b1 : decide (0 < a0.size) = true:=decide_eq_true (by omega)
    clear c4
    have H':=Aside0.mk H
    clear H
    have p5 : 0 ≤ (0 : Int):=(by omega)
    have q5 : 0 < a0.size:=(by have : (0 : Int) < (a0.size : Int):=of_decide_eq_true (by first|(with_reducible assumption)|assumption);omega)
    have hx5 : ∀ h : 0 < a0.size,((a0[0]'h).toNat : Int) = bt a0 0:=bt_at a0 0
    clear p5
    have qi5 : (0 < (a0.size : Int)) = True:=eq_true (of_decide_eq_true (by first|(with_reducible assumption)|assumption))
    replace q5:=eq_true q5
    go_wp2
    go_meet
    case rel=>exact ⟨_,(((bt a0 0) == 45)),(by first|rfl|(simp;done)|(simp [*];done)|exact congrArg Value.bool (nil_ne_ _)|exact congrArg Value.bool (nil_ne_ _).symm),H',⟨by first|omega|exact Nat.le_refl _⟩,by repeat (first|exact Drawn0.refl _|apply Drawn0.step)⟩
   ·rw [if_neg c4] at H
    exact absurd H (by simp)
 case rest =>
  clear HC2
  try clear c2
  try clear p2
  try clear c3
  try clear c3b0
  try clear c3b1
  try clear c4
  try clear c4b0
  try clear c4b1
  try clear p5
  try clear q5
  try clear hx5
  try clear qi5
  try clear p5
  try clear q5
  obtain ⟨kq,x4_1,rfl,HA,HJ1,⟨mc1,rfl⟩⟩:=hcut
  cases kq with
  | zero=>exact absurd HA.out (by simp [jlex_Whole.j0])
  | succ kj1 =>
   have H:=HA.out
   clear HA
   simp only [jlex_Whole.j0] at H
   have HC6:=Aside0.mk H
   clear H
   go_upto_if 17 with (fail)
   go_cut [0] (fun v0 wc=>∃ (kq : Nat) (x0_5 : ByteArray),v0 = .string x0_5 ∧ Aside0 (jlex_Whole.j1 kq x0_5 x4_1 = some (r1,r2)) ∧ Aside0 (kq ≤ kj1) ∧ Drawn0 w wc)
   case first =>
    have H:=HC6.out
    clear HC6
    by_cases c7 : x4_1 = true
    ·subst c7
     have H1 : (if 1 ≤ (a0.size : Int) then (jlex_Whole.j1 kj1 (a0.extract 1 a0.size) true) else (none)) = some (r1,r2):=by rw [if_pos rfl] at H;exact H
     clear H
     have H:=H1
     clear H1
     by_cases c8 : 1 ≤ (a0.size : Int)
     ·rw [if_pos c8] at H
      have c8b0:=eq_true c8
      have c8b1 : decide (1 ≤ (a0.size : Int)) = true:=decide_eq_true c8
      clear c8
      have H':=Aside0.mk H
      clear H
      go_wp2
      go_meet
      case rel=>exact ⟨_,(a0.extract 1 a0.size),(by first|rfl|(simp;done)|(simp [*];done)|exact congrArg Value.bool (nil_ne_ _)|exact congrArg Value.bool (nil_ne_ _).symm),H',⟨by have:=HJ1.out;first|omega|exact Nat.le_refl _⟩,by repeat (first|exact Drawn0.refl _|apply Drawn0.step)⟩
     ·rw [if_neg c8] at H
      exact absurd H (by simp)
    ·replace c7:=Bool.eq_false_iff.mpr c7
     subst c7
     have H1 : (jlex_Whole.j1 kj1 a0 false) = some (r1,r2):=by rw [if_neg (show ¬ (false = true) by decide)] at H;exact H
     clear H
     have H:=H1
     clear H1
     have H':=Aside0.mk H
     clear H
     go_wp2
     go_meet
     case rel=>exact ⟨_,(a0),(by first|rfl|(simp;done)|(simp [*];done)|exact congrArg Value.bool (nil_ne_ _)|exact congrArg Value.bool (nil_ne_ _).symm),H',⟨by have:=HJ1.out;first|omega|exact Nat.le_refl _⟩,by repeat (first|exact Drawn0.refl _|apply Drawn0.step)⟩
   case rest =>
    clear HC6
    try clear c1
    try clear c2
    try clear p2
    try clear c3
    try clear c3b0
    try clear c3b1
    try clear c4
    try clear c4b0
    try clear c4b1
    try clear p5
    try clear q5
    try clear hx5
    try clear qi5
    try clear c7
    try clear c8
    try clear c8b0
    try clear c8b1
    try clear p2
    try clear p5
    try clear q5
    obtain ⟨kq,x0_5,rfl,HA,HJ5,⟨mc5,rfl⟩⟩:=hcut
    cases kq with
    | zero=>exact absurd HA.out (by simp [jlex_Whole.j1])
    | succ kj5 =>
     have H:=HA.out
     clear HA
     simp only [jlex_Whole.j1] at H
     have HC9:=Aside0.mk H
     clear H
     go_upto_region 4 with (fail)
     go_cut [31] (fun v31 wc=>∃ (kq : Nat) (x31_8 : Bool),v31 = .bool x31_8 ∧ Aside0 (jlex_Whole.j2 kq x0_5 x4_1 x31_8 = some (r1,r2)) ∧ Aside0 (kq ≤ kj5) ∧ Drawn0 w wc)
     case first =>
      have H:=HC9.out
      clear HC9
      by_cases c10 : x0_5.toList = ([] : List UInt8)
      ·rw [if_pos c10] at H
       have c10b0 : (x0_5.toList == ([] : List UInt8)) = true:=beq_iff_eq.mpr c10
       have c10b1 : (x0_5.toList != ([] : List UInt8)) = false:=bne_eq_false_iff_eq.mpr c10
       clear c10
       (first|rw [c10b0]|(simp only [i64_w,i32_w];rw [c10b0])|skip)
       have H':=Aside0.mk H
       clear H
       go_wp2
       go_meet
       case rel=>exact ⟨_,(true),(by first|rfl|(simp;done)|(simp [*];done)|exact congrArg Value.bool (nil_ne_ _)|exact congrArg Value.bool (nil_ne_ _).symm),H',⟨by have:=HJ1.out;have:=HJ5.out;first|omega|exact Nat.le_refl _⟩,by repeat (first|exact Drawn0.refl _|apply Drawn0.step)⟩
      ·rw [if_neg c10] at H
       have c10b0 : (x0_5.toList == ([] : List UInt8)) = false:=beq_eq_false_iff_ne.mpr c10
       have c10b1 : (x0_5.toList != ([] : List UInt8)) = true:=bne_iff_ne.mpr c10
       (first|rw [c10b0]|(simp only [i64_w,i32_w];rw [c10b0])|skip)
       by_cases c11 : (x0_5.size : Int) > 1
       ·rw [if_pos c11] at H
        have c11b0 : decide (1 < (x0_5.size : Int)) = true:=decide_eq_true c11
        have c11b1 : decide (1 < x0_5.size) = true:=decide_eq_true (by omega)
        clear c11
        by_cases c12 : 0 < (x0_5.size : Int)
        ·rw [if_pos c12] at H
         have c12b0 : decide (0 < (x0_5.size : Int)) = true:=decide_eq_true c12
         have c12b1 : decide (0 < x0_5.size) = true:=decide_eq_true (by omega)
         clear c12
         have H':=Aside0.mk H
         clear H
         have p13 : 0 ≤ (0 : Int):=(by omega)
         have q13 : 0 < x0_5.size:=(by have : (0 : Int) < (x0_5.size : Int):=of_decide_eq_true (by first|(with_reducible assumption)|assumption);omega)
         have hx13 : ∀ h : 0 < x0_5.size,((x0_5[0]'h).toNat : Int) = bt x0_5 0:=bt_at x0_5 0
         clear p13
         have qi13 : (0 < (x0_5.size : Int)) = True:=eq_true (of_decide_eq_true (by first|(with_reducible assumption)|assumption))
         replace q13:=eq_true q13
         go_wp2
         go_meet
         case rel=>exact ⟨_,(((bt x0_5 0) == 48)),(by first|rfl|(simp;done)|(simp [*];done)|exact congrArg Value.bool (nil_ne_ _)|exact congrArg Value.bool (nil_ne_ _).symm),H',⟨by have:=HJ1.out;have:=HJ5.out;first|omega|exact Nat.le_refl _⟩,by repeat (first|exact Drawn0.refl _|apply Drawn0.step)⟩
        ·rw [if_neg c12] at H
         exact absurd H (by simp)
       ·rw [if_neg c11] at H
        have c11b0 : decide (1 < (x0_5.size : Int)) = false:=decide_eq_false c11
        have c11b1 : decide (1 < x0_5.size) = false:=decide_eq_false (by omega)
        clear c11
        have H':=Aside0.mk H
        clear H
        go_wp2
        go_meet
        case rel=>exact ⟨_,(false),(by first|rfl|(simp;done)|(simp [*];done)|exact congrArg Value.bool (nil_ne_ _)|exact congrArg Value.bool (nil_ne_ _).symm),H',⟨by have:=HJ1.out;have:=HJ5.out;first|omega|exact Nat.le_refl _⟩,by repeat (first|exact Drawn0.refl _|apply Drawn0.step)⟩
     case rest =>
      clear HC9
      try clear c1
      try clear p1
      try clear q1
      try clear hx1
      try clear qi1
      try clear c2
      try clear p2
      try clear c3
      try clear c3b0
      try clear c3b1
      try clear c4
      try clear c4b0
      try clear c4b1
      try clear c5
      try clear p5
      try clear q5
      try clear hx5
      try clear qi5
      try clear c7
      try clear c8
      try clear c8b0
      try clear c8b1
      try clear c10
      try clear c10b0
      try clear c10b1
      try clear c11
      try clear c11b0
      try clear c11b1
      try clear c12
      try clear c12b0
      try clear c12b1
      try clear p13
      try clear q13
      try clear hx13
      try clear qi13
      try clear p13
      try clear p2
      try clear p5
      try clear q13
      try clear q5
      obtain ⟨kq,x31_8,rfl,HA,HJ8,⟨mc8,rfl⟩⟩:=hcut
      cases kq with
      | zero=>exact absurd HA.out (by simp [jlex_Whole.j2])
      | succ kj8 =>
       have H:=HA.out
       clear HA
       simp only [jlex_Whole.j2] at H
       by_cases c14 : x31_8 = true
       ·subst c14
        have H1 : (some (0,12)) = some (r1,r2):=by rw [if_pos rfl] at H;exact H
        clear H
        have H:=H1
        clear H1
        simp only [Option.some.injEq,Prod.mk.injEq] at H
        obtain ⟨rfl,rfl⟩:=H
        go_wp2
        go_ret2
        exact ⟨by first|rfl|(simp;done)|(simp [*];done),by repeat (first|exact Drawn0.refl _|apply Drawn0.step)⟩
       ·replace c14:=Bool.eq_false_iff.mpr c14
        subst c14
        have H1 : (if x4_1 = true then (jlex_Whole.j3 kj8 x0_5 x4_1 (9223372036854775807 + 1)) else (jlex_Whole.j3 kj8 x0_5 x4_1 9223372036854775807)) = some (r1,r2):=by rw [if_neg (show ¬ (false = true) by decide)] at H;exact H
        clear H
        have H:=H1
        clear H1
        have HC15:=Aside0.mk H
        clear H
        go_upto_if 32 with (fail)
        go_cut [5] (fun v5 wc=>∃ (kq : Nat) (x5_14 : Int),v5 = .int .u64 x5_14 ∧ Aside0 (jlex_Whole.j3 kq x0_5 x4_1 x5_14 = some (r1,r2)) ∧ Aside0 (kq ≤ kj8) ∧ Drawn0 w wc)
        case first =>
         have H:=HC15.out
         clear HC15
         by_cases c16 : x4_1 = true
         ·subst c16
          have H1 : (jlex_Whole.j3 kj8 x0_5 true (9223372036854775807 + 1)) = some (r1,r2):=by rw [if_pos rfl] at H;exact H
          clear H
          have H:=H1
          clear H1
          have H':=Aside0.mk H
          clear H
          go_wp2
          go_meet
          case rel=>exact ⟨_,(9223372036854775807 + 1),(by first|rfl|(simp;done)|(simp [*];done)|exact congrArg Value.bool (nil_ne_ _)|exact congrArg Value.bool (nil_ne_ _).symm),H',⟨by have:=HJ1.out;have:=HJ5.out;have:=HJ8.out;first|omega|exact Nat.le_refl _⟩,by repeat (first|exact Drawn0.refl _|apply Drawn0.step)⟩
         ·replace c16:=Bool.eq_false_iff.mpr c16
          subst c16
          have H1 : (jlex_Whole.j3 kj8 x0_5 false 9223372036854775807) = some (r1,r2):=by rw [if_neg (show ¬ (false = true) by decide)] at H;exact H
          clear H
          have H:=H1
          clear H1
          have H':=Aside0.mk H
          clear H
          go_wp2
          go_meet
          case rel=>exact ⟨_,(9223372036854775807),(by first|rfl|(simp;done)|(simp [*];done)|exact congrArg Value.bool (nil_ne_ _)|exact congrArg Value.bool (nil_ne_ _).symm),H',⟨by have:=HJ1.out;have:=HJ5.out;have:=HJ8.out;first|omega|exact Nat.le_refl _⟩,by repeat (first|exact Drawn0.refl _|apply Drawn0.step)⟩
        case rest =>
         clear HC15
         try clear c1
         try clear p1
         try clear q1
         try clear hx1
         try clear qi1
         try clear c2
         try clear p2
         try clear c3
         try clear c3b0
         try clear c3b1
         try clear c4
         try clear c4b0
         try clear c4b1
         try clear c5
         try clear p5
         try clear q5
         try clear hx5
         try clear qi5
         try clear c7
         try clear c8
         try clear c8b0
         try clear c8b1
         try clear c10
         try clear c10b0
         try clear c10b1
         try clear c11
         try clear c11b0
         try clear c11b1
         try clear c12
         try clear c12b0
         try clear c12b1
         try clear p13
         try clear q13
         try clear hx13
         try clear qi13
         try clear c14
         try clear c16
         try clear p1
         try clear p13
         try clear p2
         try clear p5
         try clear q1
         try clear q13
         try clear q5
         obtain ⟨kq,x5_14,rfl,HA,HJ14,⟨mc14,rfl⟩⟩:=hcut
         cases kq with
         | zero=>exact absurd HA.out (by simp [jlex_Whole.j3])
         | succ kj14 =>
          have H:=HA.out
          clear HA
          simp only [jlex_Whole.j3] at H
          have H':=Aside0.mk H
          clear H
          go_wp2
          go_loopg [6,7,37] kj14 (fun kq v6 v7 v37 w'=>∃ (x6_5 : Int) (x7_5 : Bool) (x37_5 : Int),v6 = .int .u64 x6_5 ∧ v7 = .bool x7_5 ∧ v37 = .int .i64 x37_5 ∧ Aside0 (jlex_Whole.l0 kq x0_5 x4_1 x5_14 x6_5 x7_5 (x0_5.size : Int) x37_5 = some (r1,r2)) ∧ Aside0 (kq ≤ kj14) ∧ Drawn0 w w')
          case atStart=>exact ⟨(0),(false),(0),(by first|rfl|(simp;done)|(simp [*];done)|exact congrArg Value.bool (nil_ne_ _)|exact congrArg Value.bool (nil_ne_ _).symm),(by first|rfl|(simp;done)|(simp [*];done)|exact congrArg Value.bool (nil_ne_ _)|exact congrArg Value.bool (nil_ne_ _).symm),(by first|rfl|(simp;done)|(simp [*];done)|exact congrArg Value.bool (nil_ne_ _)|exact congrArg Value.bool (nil_ne_ _).symm),H',⟨Nat.le_refl _⟩,by repeat (first|exact Drawn0.refl _|apply Drawn0.step)⟩
          case round =>
           clear H'
           try clear c1
           try clear p1
           try clear q1
           try clear hx1
           try clear qi1
           try clear c2
           try clear p2
           try clear c3
           try clear c3b0
           try clear c3b1
           try clear c4
           try clear c4b0
           try clear c4b1
           try clear c5
           try clear p5
           try clear q5
           try clear hx5
           try clear qi5
           try clear c7
           try clear c8
           try clear c8b0
           try clear c8b1
           try clear c10
           try clear c10b0
           try clear c10b1
           try clear c11
           try clear c11b0
           try clear c11b1
           try clear c12
           try clear c12b0
           try clear c12b1
           try clear p13
           try clear q13
           try clear hx13
           try clear qi13
           try clear c14
           try clear c16
           try clear p1
           try clear p13
           try clear p2
           try clear p5
           try clear q1
           try clear q13
           try clear q5
           obtain ⟨x6_5,x7_5,x37_5,rfl,rfl,rfl,HA,HK5,⟨m5,rfl⟩⟩:=hrel
           cases gk with
           | zero=>exact absurd HA.out (by simp [jlex_Whole.l0])
           | succ k5 =>
            have H:=HA.out
            clear HA
            simp only [jlex_Whole.l0] at H
            by_cases c17 : x37_5 < (x0_5.size : Int)
            ·rw [if_pos c17] at H
             have c17b0 : decide (x37_5 < (x0_5.size : Int)) = true:=decide_eq_true c17
             clear c17
             by_cases c18 : 0 ≤ x37_5
             ·rw [if_pos c18] at H
              have c18b0 : decide (0 ≤ x37_5) = true:=decide_eq_true c18
              clear c18
              by_cases c19 : x37_5 < (x0_5.size : Int)
              ·rw [if_pos c19] at H
               have c19b0 : decide (x37_5 < (x0_5.size : Int)) = true:=decide_eq_true c19
               clear c19
               replace H:=Option.bind_eq_some_iff.mp H
               obtain ⟨t101,A210,H⟩:=H
               replace H : (if t101 = true then (if x6_5 > (IntKind.u64.wrap (Int.tdiv (IntKind.u64.wrap (x5_14 - (((bt x0_5 x37_5) - 48) % 256))) 10)) then (jlex_Whole.l0 k5 x0_5 x4_1 x5_14 x6_5 true (x0_5.size : Int) (wrap64 (x37_5 + 1))) else (if x7_5 = true then (jlex_Whole.l0 k5 x0_5 x4_1 x5_14 x6_5 x7_5 (x0_5.size : Int) (wrap64 (x37_5 + 1))) else (jlex_Whole.l0 k5 x0_5 x4_1 x5_14 (IntKind.u64.wrap ((IntKind.u64.wrap (10 * x6_5)) + (((bt x0_5 x37_5) - 48) % 256))) x7_5 (x0_5.size : Int) (wrap64 (x37_5 + 1))))) else (some (0,12))) = some (r1,r2):=H
               have A21:=Aside0.mk A210
               clear A210
               by_cases c22 : t101 = true
               ·subst c22
                have H1 : (if x6_5 > (IntKind.u64.wrap (Int.tdiv (IntKind.u64.wrap (x5_14 - (((bt x0_5 x37_5) - 48) % 256))) 10)) then (jlex_Whole.l0 k5 x0_5 x4_1 x5_14 x6_5 true (x0_5.size : Int) (wrap64 (x37_5 + 1))) else (if x7_5 = true then (jlex_Whole.l0 k5 x0_5 x4_1 x5_14 x6_5 x7_5 (x0_5.size : Int) (wrap64 (x37_5 + 1))) else (jlex_Whole.l0 k5 x0_5 x4_1 x5_14 (IntKind.u64.wrap ((IntKind.u64.wrap (10 * x6_5)) + (((bt x0_5 x37_5) - 48) % 256))) x7_5 (x0_5.size : Int) (wrap64 (x37_5 + 1))))) = some (r1,r2):=by rw [if_pos rfl] at H;exact H
                clear H
                have H:=H1
                clear H1
                by_cases c24 : x6_5 > (IntKind.u64.wrap (Int.tdiv (IntKind.u64.wrap (x5_14 - (((bt x0_5 x37_5) - 48) % 256))) 10))
                ·rw [if_pos c24] at H
                 have c24b0 : decide ((IntKind.u64.wrap (Int.tdiv (IntKind.u64.wrap (x5_14 - (((bt x0_5 x37_5) - 48) % 256))) 10)) < x6_5) = true:=decide_eq_true c24
                 clear c24
                 have H':=Aside0.mk H
                 clear H
                 have p20 : 0 ≤ (x37_5 : Int):=of_decide_eq_true (by first|(with_reducible assumption)|assumption)
                 have q20 : x37_5 < (x0_5.size : Int):=of_decide_eq_true (by first|(with_reducible assumption)|assumption)
                 have hx20:=bt_at x0_5 x37_5
                 replace p20:=eq_true p20
                 replace q20:=eq_true q20
                 go_wp2_with (first|((with_reducible refine gate_callee (f:=41) rfl ?_);refine goesL_ (some 43) rfl rfl Tryd.func41 (by kernel_rfl) rfl #[.int .u8 (bt x0_5 x37_5)] rfl (by (try simp only [List.map_toArray,List.map_cons,List.map_nil]);first|done|rfl|(simp only [List.length_drop,List.length_take];rfl)|(simp (disch:=first|omega|(simp at *;omega)) only [u64_id,i64_id,u8_id];rfl)) ?_;(with_reducible refine (jlex_digit.calls (bt x0_5 x37_5) true _ A21.out).mono ?_);rintro e w' ⟨rfl,⟨nd,rfl⟩⟩;refine ⟨_,rfl,?_⟩;have p23 : 0 ≤ (x37_5 : Int):=of_decide_eq_true (by first|(with_reducible assumption)|assumption);have q23 : x37_5 < (x0_5.size : Int):=of_decide_eq_true (by first|(with_reducible assumption)|assumption);have hx23:=bt_at x0_5 x37_5;replace p23:=eq_true p23;replace q23:=eq_true q23))
                 go_roundg k5
                 case measure=>have:=HJ1.out;have:=HJ5.out;have:=HJ8.out;have:=HJ14.out;have:=HK5.out;omega
                 case rel=>exact ⟨(x6_5),(true),(wrap64 (x37_5 + 1)),(by first|rfl|(simp;done)|(simp [*];done)|exact congrArg Value.bool (nil_ne_ _)|exact congrArg Value.bool (nil_ne_ _).symm),(by first|rfl|(simp;done)|(simp [*];done)|exact congrArg Value.bool (nil_ne_ _)|exact congrArg Value.bool (nil_ne_ _).symm),(by first|rfl|(simp;done)|(simp [*];done)|exact congrArg Value.bool (nil_ne_ _)|exact congrArg Value.bool (nil_ne_ _).symm),H',⟨by have:=HJ1.out;have:=HJ5.out;have:=HJ8.out;have:=HJ14.out;have:=HK5.out;omega⟩,by repeat (first|exact Drawn0.refl _|apply Drawn0.step)⟩
                ·rw [if_neg c24] at H
                 have c24b0 : decide ((IntKind.u64.wrap (Int.tdiv (IntKind.u64.wrap (x5_14 - (((bt x0_5 x37_5) - 48) % 256))) 10)) < x6_5) = false:=decide_eq_false c24
                 clear c24
                 by_cases c25 : x7_5 = true
                 ·subst c25
                  have H1 : (jlex_Whole.l0 k5 x0_5 x4_1 x5_14 x6_5 true (x0_5.size : Int) (wrap64 (x37_5 + 1))) = some (r1,r2):=by rw [if_pos rfl] at H;exact H
                  clear H
                  have H:=H1
                  clear H1
                  have H':=Aside0.mk H
                  clear H
                  have p20 : 0 ≤ (x37_5 : Int):=of_decide_eq_true (by first|(with_reducible assumption)|assumption)
                  have q20 : x37_5 < (x0_5.size : Int):=of_decide_eq_true (by first|(with_reducible assumption)|assumption)
                  have hx20:=bt_at x0_5 x37_5
                  replace p20:=eq_true p20
                  replace q20:=eq_true q20
                  go_wp2_with (first|((with_reducible refine gate_callee (f:=41) rfl ?_);refine goesL_ (some 43) rfl rfl Tryd.func41 (by kernel_rfl) rfl #[.int .u8 (bt x0_5 x37_5)] rfl (by (try simp only [List.map_toArray,List.map_cons,List.map_nil]);first|done|rfl|(simp only [List.length_drop,List.length_take];rfl)|(simp (disch:=first|omega|(simp at *;omega)) only [u64_id,i64_id,u8_id];rfl)) ?_;(with_reducible refine (jlex_digit.calls (bt x0_5 x37_5) true _ A21.out).mono ?_);rintro e w' ⟨rfl,⟨nd,rfl⟩⟩;refine ⟨_,rfl,?_⟩;have p23 : 0 ≤ (x37_5 : Int):=of_decide_eq_true (by first|(with_reducible assumption)|assumption);have q23 : x37_5 < (x0_5.size : Int):=of_decide_eq_true (by first|(with_reducible assumption)|assumption);have hx23:=bt_at x0_5 x37_5;replace p23:=eq_true p23;replace q23:=eq_true q23))
                  go_roundg k5
                  case measure=>have:=HJ1.out;have:=HJ5.out;have:=HJ8.out;have:=HJ14.out;have:=HK5.out;omega
                  case rel=>exact ⟨(x6_5),(true),(wrap64 (x37_5 + 1)),(by first|rfl|(simp;done)|(simp [*];done)|exact congrArg Value.bool (nil_ne_ _)|exact congrArg Value.bool (nil_ne_ _).symm),(by first|rfl|(simp;done)|(simp [*];done)|exact congrArg Value.bool (nil_ne_ _)|exact congrArg Value.bool (nil_ne_ _).symm),(by first|rfl|(simp;done)|(simp [*];done)|exact congrArg Value.bool (nil_ne_ _)|exact congrArg Value.bool (nil_ne_ _).symm),H',⟨by have:=HJ1.out;have:=HJ5.out;have:=HJ8.out;have:=HJ14.out;have:=HK5.out;omega⟩,by repeat (first|exact Drawn0.refl _|apply Drawn0.step)⟩
                 ·replace c25:=Bool.eq_false_iff.mpr c25
                  subst c25
                  have H1 : (jlex_Whole.l0 k5 x0_5 x4_1 x5_14 (IntKind.u64.wrap ((IntKind.u64.wrap (10 * x6_5)) + (((bt x0_5 x37_5) - 48) % 256))) false (x0_5.size : Int) (wrap64 (x37_5 + 1))) = some (r1,r2):=by rw [if_neg (show ¬ (false = true) by decide)] at H;exact H
                  clear H
                  have H:=H1
                  clear H1
                  have H':=Aside0.mk H
                  clear H
                  have p20 : 0 ≤ (x37_5 : Int):=of_decide_eq_true (by first|(with_reducible assumption)|assumption)
                  have q20 : x37_5 < (x0_5.size : Int):=of_decide_eq_true (by first|(with_reducible assumption)|assumption)
                  have hx20:=bt_at x0_5 x37_5
                  replace p20:=eq_true p20
                  replace q20:=eq_true q20
                  go_wp2_with (first|((with_reducible refine gate_callee (f:=41) rfl ?_);refine goesL_ (some 43) rfl rfl Tryd.func41 (by kernel_rfl) rfl #[.int .u8 (bt x0_5 x37_5)] rfl (by (try simp only [List.map_toArray,List.map_cons,List.map_nil]);first|done|rfl|(simp only [List.length_drop,List.length_take];rfl)|(simp (disch:=first|omega|(simp at *;omega)) only [u64_id,i64_id,u8_id];rfl)) ?_;(with_reducible refine (jlex_digit.calls (bt x0_5 x37_5) true _ A21.out).mono ?_);rintro e w' ⟨rfl,⟨nd,rfl⟩⟩;refine ⟨_,rfl,?_⟩;have p23 : 0 ≤ (x37_5 : Int):=of_decide_eq_true (by first|(with_reducible assumption)|assumption);have q23 : x37_5 < (x0_5.size : Int):=of_decide_eq_true (by first|(with_reducible assumption)|assumption);have hx23:=bt_at x0_5 x37_5;replace p23:=eq_true p23;replace q23:=eq_true q23))
                  go_roundg k5
                  case measure=>have:=HJ1.out;have:=HJ5.out;have:=HJ8.out;have:=HJ14.out;have:=HK5.out;omega
                  case rel=>exact ⟨(IntKind.u64.wrap ((IntKind.u64.wrap (10 * x6_5)) + (((bt x0_5 x37_5) - 48) % 256))),(false),(wrap64 (x37_5 + 1)),(by first|rfl|(simp;done)|(simp [*];done)|exact congrArg Value.bool (nil_ne_ _)|exact congrArg Value.bool (nil_ne_ _).symm),(by first|rfl|(simp;done)|(simp [*];done)|exact congrArg Value.bool (nil_ne_ _)|exact congrArg Value.bool (nil_ne_ _).symm),(by first|rfl|(simp;done)|(simp [*];done)|exact congrArg Value.bool (nil_ne_ _)|exact congrArg Value.bool (nil_ne_ _).symm),H',⟨by have:=HJ1.out;have:=HJ5.out;have:=HJ8.out;have:=HJ14.out;have:=HK5.out;omega⟩,by repeat (first|exact Drawn0.refl _|apply Drawn0.step)⟩
               ·replace c22:=Bool.eq_false_iff.mpr c22
                subst c22
                have H1 : (some (0,12)) = some (r1,r2):=by rw [if_neg (show ¬ (false = true) by decide)] at H;exact H
                clear H
                have H:=H1
                clear H1
                simp only [Option.some.injEq,Prod.mk.injEq] at H
                obtain ⟨rfl,rfl⟩:=H
                have p20 : 0 ≤ (x37_5 : Int):=of_decide_eq_true (by first|(with_reducible assumption)|assumption)
                have q20 : x37_5 < (x0_5.size : Int):=of_decide_eq_true (by first|(with_reducible assumption)|assumption)
                have hx20:=bt_at x0_5 x37_5
                replace p20:=eq_true p20
                replace q20:=eq_true q20
                go_wp2_with (first|((with_reducible refine gate_callee (f:=41) rfl ?_);refine goesL_ (some 43) rfl rfl Tryd.func41 (by kernel_rfl) rfl #[.int .u8 (bt x0_5 x37_5)] rfl (by (try simp only [List.map_toArray,List.map_cons,List.map_nil]);first|done|rfl|(simp only [List.length_drop,List.length_take];rfl)|(simp (disch:=first|omega|(simp at *;omega)) only [u64_id,i64_id,u8_id];rfl)) ?_;(with_reducible refine (jlex_digit.calls (bt x0_5 x37_5) false _ A21.out).mono ?_);rintro e w' ⟨rfl,⟨nd,rfl⟩⟩;refine ⟨_,rfl,?_⟩))
                go_ret2
                exact ⟨by first|rfl|(simp;done)|(simp [*];done),by repeat (first|exact Drawn0.refl _|apply Drawn0.step)⟩
              ·rw [if_neg c19] at H
               exact absurd H (by simp)
             ·rw [if_neg c18] at H
              exact absurd H (by simp)
            ·rw [if_neg c17] at H
             have c17b0 : decide (x37_5 < (x0_5.size : Int)) = false:=decide_eq_false c17
             clear c17
             by_cases c26 : x7_5 = true
             ·subst c26
              have H1 : (some (0,7)) = some (r1,r2):=by rw [if_pos rfl] at H;exact H
              clear H
              have H:=H1
              clear H1
              simp only [Option.some.injEq,Prod.mk.injEq] at H
              obtain ⟨rfl,rfl⟩:=H
              go_wp2
              go_ret2
              exact ⟨by first|rfl|(simp;done)|(simp [*];done),by repeat (first|exact Drawn0.refl _|apply Drawn0.step)⟩
             ·replace c26:=Bool.eq_false_iff.mpr c26
              subst c26
              have H1 : (if x4_1 = true then (some (wrap64 (IntKind.u64.wrap (-x6_5)),0)) else (some (wrap64 (x6_5),0))) = some (r1,r2):=by rw [if_neg (show ¬ (false = true) by decide)] at H;exact H
              clear H
              have H:=H1
              clear H1
              by_cases c27 : x4_1 = true
              ·subst c27
               have H1 : (some (wrap64 (IntKind.u64.wrap (-x6_5)),0)) = some (r1,r2):=by rw [if_pos rfl] at H;exact H
               clear H
               have H:=H1
               clear H1
               simp only [Option.some.injEq,Prod.mk.injEq] at H
               obtain ⟨rfl,rfl⟩:=H
               go_wp2
               go_ret2
               exact ⟨by first|rfl|(simp;done)|(simp [*];done),by repeat (first|exact Drawn0.refl _|apply Drawn0.step)⟩
              ·replace c27:=Bool.eq_false_iff.mpr c27
               subst c27
               have H1 : (some (wrap64 (x6_5),0)) = some (r1,r2):=by rw [if_neg (show ¬ (false = true) by decide)] at H;exact H
               clear H
               have H:=H1
               clear H1
               simp only [Option.some.injEq,Prod.mk.injEq] at H
               obtain ⟨rfl,rfl⟩:=H
               go_wp2
               go_ret2
               exact ⟨by first|rfl|(simp;done)|(simp [*];done),by repeat (first|exact Drawn0.refl _|apply Drawn0.step)⟩

/-! ### jlex_letter: function 62 -/
def jlex_letter.f (a0 : Int) : Option (Bool):=if a0 ≥ 97 then (if a0 ≤ 122 then (some true) else (if a0 ≥ 65 then (some (decide (a0 ≤ 90))) else (some false))) else (if a0 ≥ 65 then (some (decide (a0 ≤ 90))) else (some false))
set_option maxHeartbeats 8000000 in
set_option maxRecDepth 100000 in
theorem jlex_letter.calls (a0 : Int) (r : Bool) (w : World) (h : jlex_letter.f a0 = some r) :
  Calls Tryd.prog 62 #[.int .u8 a0] w fun e w'=>e = .returned (.bool r) ∧ Drawn0 w w':=by
 have H : (if a0 ≥ 97 then (if a0 ≤ 122 then (some true) else (if a0 ≥ 65 then (some (decide (a0 ≤ 90))) else (some false))) else (if a0 ≥ 65 then (some (decide (a0 ≤ 90))) else (some false))) = some r:=h
 clear h
 by_cases c2 : a0 ≥ 97
 ·rw [if_pos c2] at H
  have c2b0 : decide (97 ≤ a0) = true:=decide_eq_true c2
  clear c2
  by_cases c3 : a0 ≤ 122
  ·rw [if_pos c3] at H
   have c3b0 : decide (a0 ≤ 122) = true:=decide_eq_true c3
   clear c3
   obtain rfl:=Option.some.inj H
   go_enter Tryd.func62,Tryd.ntmps62
   go_wp2
   go_ret
   exact ⟨by first|rfl|(simp;done)|(simp [*];done),by repeat (first|exact Drawn0.refl _|apply Drawn0.step)⟩
  ·rw [if_neg c3] at H
   have c3b0 : decide (a0 ≤ 122) = false:=decide_eq_false c3
   clear c3
   by_cases c4 : a0 ≥ 65
   ·rw [if_pos c4] at H
    have c4b0 : decide (65 ≤ a0) = true:=decide_eq_true c4
    clear c4
    obtain rfl:=Option.some.inj H
    go_enter Tryd.func62,Tryd.ntmps62
    go_wp2
    go_ret
    exact ⟨by first|rfl|(simp;done)|(simp [*];done),by repeat (first|exact Drawn0.refl _|apply Drawn0.step)⟩
   ·rw [if_neg c4] at H
    have c4b0 : decide (65 ≤ a0) = false:=decide_eq_false c4
    clear c4
    obtain rfl:=Option.some.inj H
    go_enter Tryd.func62,Tryd.ntmps62
    go_wp2
    go_ret
    exact ⟨by first|rfl|(simp;done)|(simp [*];done),by repeat (first|exact Drawn0.refl _|apply Drawn0.step)⟩
 ·rw [if_neg c2] at H
  have c2b0 : decide (97 ≤ a0) = false:=decide_eq_false c2
  clear c2
  by_cases c5 : a0 ≥ 65
  ·rw [if_pos c5] at H
   have c5b0 : decide (65 ≤ a0) = true:=decide_eq_true c5
   clear c5
   obtain rfl:=Option.some.inj H
   go_enter Tryd.func62,Tryd.ntmps62
   go_wp2
   go_ret
   exact ⟨by first|rfl|(simp;done)|(simp [*];done),by repeat (first|exact Drawn0.refl _|apply Drawn0.step)⟩
  ·rw [if_neg c5] at H
   have c5b0 : decide (65 ≤ a0) = false:=decide_eq_false c5
   clear c5
   obtain rfl:=Option.some.inj H
   go_enter Tryd.func62,Tryd.ntmps62
   go_wp2
   go_ret
   exact ⟨by first|rfl|(simp;done)|(simp [*];done),by repeat (first|exact Drawn0.refl _|apply Drawn0.step)⟩

end Go.Proofs.YtnkkbiabloodaaaDoor.GUt
