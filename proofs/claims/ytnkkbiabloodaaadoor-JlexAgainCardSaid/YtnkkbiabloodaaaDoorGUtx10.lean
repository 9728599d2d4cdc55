/- Written by this session's own program (wip/gen.py) out of the translation: plain Lean functions of the Go functions, and proofs that the calls come to their answers. No conditions beside those in the statements. -/
import Derived.Test.YtnkkbiabloodaaaDoorGUtx0
import Derived.Test.YtnkkbiabloodaaaDoorGUtx9
namespace Go.Proofs.YtnkkbiabloodaaaDoor.GUt
open Go.RowKit Go.Proofs.YtnkkbiabloodaaaDoorW.PrintWords Go.Proofs.YtnkkbiabloodaaaDoorW.PrintLast Go.Proofs.YtnkkbiabloodaaaDoorW.PrintMore
attribute [local go_sem] max2_int min2_int max_two min_two max_three min_three max_four min_four   -- for this text's walks alone
set_option linter.unusedVariables false
set_option linter.unusedSimpArgs false

/-! ### bosunref07_Whole: function 27 -/
mutual
def bosunref07_Whole.j0 : Nat → ByteArray → ByteArray → Bool → Option (Int × Int)
 | 0,_,_,_=>none
 | k + 1,x0,x4,x16=>if x16 = true then (if 1 ≤ (x0.size : Int) then (bosunref07_Whole.j1 k (x0.extract 1 x0.size) (⟨#[45]⟩ : ByteArray)) else (none)) else (bosunref07_Whole.j1 k x0 x4)
def bosunref07_Whole.j1 : Nat → ByteArray → ByteArray → Option (Int × Int)
 | 0,_,_=>none
 | k + 1,x0,x4=>if (x0.size : Int) = 0 then (bosunref07_Whole.j2 k x0 x4 true) else (if (x0.size : Int) > 1 then (if 0 < (x0.size : Int) then (bosunref07_Whole.j2 k x0 x4 ((bt x0 0) == 48)) else (none)) else (bosunref07_Whole.j2 k x0 x4 false))
def bosunref07_Whole.j2 : Nat → ByteArray → ByteArray → Bool → Option (Int × Int)
 | 0,_,_,_=>none
 | k + 1,x0,x4,x31=>if x31 = true then (some (0,12)) else (bosunref07_Whole.l0 k x0 x4 0)
def bosunref07_Whole.l0 : Nat → ByteArray → ByteArray → Int → Option (Int × Int)
 | 0,_,_,_=>none
 | k + 1,x0,x4,x5=>if x5 < (x0.size : Int) then (if 0 ≤ x5 then ((bosunref07_digit.f (bt x0 x5)).bind fun t132=>(if t132 = true then (bosunref07_Whole.l0 k x0 x4 (wrap64 (x5 + 1))) else (some (0,12)))) else (none)) else (if x4.toList = ([45] : List UInt8) then (bosunref07_Whole.j4 k x0 x4 (⟨#[57,50,50,51,51,55,50,48,51,54,56,53,52,55,55,53,56,48,56]⟩ : ByteArray)) else (bosunref07_Whole.j4 k x0 x4 (⟨#[57,50,50,51,51,55,50,48,51,54,56,53,52,55,55,53,56,48,55]⟩ : ByteArray)))
def bosunref07_Whole.j4 : Nat → ByteArray → ByteArray → ByteArray → Option (Int × Int)
 | 0,_,_,_=>none
 | k + 1,x0,x4,x6=>if (x0.size : Int) > 19 then (bosunref07_Whole.j5 k x0 x4 true) else (if (x0.size : Int) = 19 then (bosunref07_Whole.j5 k x0 x4 (Op.bytesLess x6.toList x0.toList)) else (bosunref07_Whole.j5 k x0 x4 false))
def bosunref07_Whole.j5 : Nat → ByteArray → ByteArray → Bool → Option (Int × Int)
 | 0,_,_,_=>none
 | k + 1,x0,x4,x57=>if x57 = true then (some (0,7)) else (bosunref07_Whole.l1 k x0 x4 0 0)
def bosunref07_Whole.l1 : Nat → ByteArray → ByteArray → Int → Int → Option (Int × Int)
 | 0,_,_,_,_=>none
 | k + 1,x0,x4,x7,x8=>if x8 < (x0.size : Int) then (if x4.toList = ([45] : List UInt8) then (if 0 ≤ x8 then (bosunref07_Whole.l1 k x0 x4 (wrap64 ((wrap64 (x7 * 10)) - (((bt x0 x8) - 48) % 256))) (wrap64 (x8 + 1))) else (none)) else (if 0 ≤ x8 then (bosunref07_Whole.l1 k x0 x4 (wrap64 ((wrap64 (x7 * 10)) + (((bt x0 x8) - 48) % 256))) (wrap64 (x8 + 1))) else (none))) else (some (x7,0))
end
def bosunref07_Whole.f (k : Nat) (a0 : ByteArray) : Option (Int × Int):=if (a0.size : Int) > 0 then (if 0 < (a0.size : Int) then (bosunref07_Whole.j0 k a0 (⟨#[]⟩ : ByteArray) ((bt a0 0) == 45)) else (none)) else (bosunref07_Whole.j0 k a0 (⟨#[]⟩ : ByteArray) false)
theorem bosunref07_Whole.mono_l : ∀ k,(∀ y0 y1 y2,LeO (bosunref07_Whole.j0 k y0 y1 y2) (bosunref07_Whole.j0 (k + 1) y0 y1 y2)) ∧ (∀ y0 y1,LeO (bosunref07_Whole.j1 k y0 y1) (bosunref07_Whole.j1 (k + 1) y0 y1)) ∧ (∀ y0 y1 y2,LeO (bosunref07_Whole.j2 k y0 y1 y2) (bosunref07_Whole.j2 (k + 1) y0 y1 y2)) ∧ (∀ y0 y1 y2,LeO (bosunref07_Whole.l0 k y0 y1 y2) (bosunref07_Whole.l0 (k + 1) y0 y1 y2)) ∧ (∀ y0 y1 y2,LeO (bosunref07_Whole.j4 k y0 y1 y2) (bosunref07_Whole.j4 (k + 1) y0 y1 y2)) ∧ (∀ y0 y1 y2,LeO (bosunref07_Whole.j5 k y0 y1 y2) (bosunref07_Whole.j5 (k + 1) y0 y1 y2)) ∧ (∀ y0 y1 y2 y3,LeO (bosunref07_Whole.l1 k y0 y1 y2 y3) (bosunref07_Whole.l1 (k + 1) y0 y1 y2 y3))
 | 0=>⟨fun _ _ _ r h=>by simp [bosunref07_Whole.j0] at h,fun _ _ r h=>by simp [bosunref07_Whole.j1] at h,fun _ _ _ r h=>by simp [bosunref07_Whole.j2] at h,fun _ _ _ r h=>by simp [bosunref07_Whole.l0] at h,fun _ _ _ r h=>by simp [bosunref07_Whole.j4] at h,fun _ _ _ r h=>by simp [bosunref07_Whole.j5] at h,fun _ _ _ _ r h=>by simp [bosunref07_Whole.l1] at h⟩
 | k + 1=>by
  obtain ⟨ih0,ih1,ih2,ih3,ih4,ih5,ih6⟩:=bosunref07_Whole.mono_l k
  refine ⟨?_,?_,?_,?_,?_,?_,?_⟩
  ·intro y0 y1 y2
   unfold bosunref07_Whole.j0
   repeat' first
   | (with_reducible exact ih0 _ _ _)
   | (with_reducible exact ih1 _ _)
   | (with_reducible exact ih2 _ _ _)
   | (with_reducible exact ih3 _ _ _)
   | (with_reducible exact ih4 _ _ _)
   | (with_reducible exact ih5 _ _ _)
   | (with_reducible exact ih6 _ _ _ _)
   | (with_reducible exact LeO.refl _)
   | (with_reducible exact LeO.none _)
   | (with_reducible refine LeO.ite ?_ ?_)
   | (with_reducible refine LeO.bind ?_ (fun _=>?_))
   | exact ih0 _ _ _
   | exact ih1 _ _
   | exact ih2 _ _ _
   | exact ih3 _ _ _
   | exact ih4 _ _ _
   | exact ih5 _ _ _
   | exact ih6 _ _ _ _
   | exact LeO.none _
   | refine LeO.ite ?_ ?_
   | refine LeO.bind ?_ (fun _=>?_)
  ·intro y0 y1
   unfold bosunref07_Whole.j1
   repeat' first
   | (with_reducible exact ih0 _ _ _)
   | (with_reducible exact ih1 _ _)
   | (with_reducible exact ih2 _ _ _)
   | (with_reducible exact ih3 _ _ _)
   | (with_reducible exact ih4 _ _ _)
   | (with_reducible exact ih5 _ _ _)
   | (with_reducible exact ih6 _ _ _ _)
   | (with_reducible exact LeO.refl _)
   | (with_reducible exact LeO.none _)
   | (with_reducible refine LeO.ite ?_ ?_)
   | (with_reducible refine LeO.bind ?_ (fun _=>?_))
   | exact ih0 _ _ _
   | exact ih1 _ _
   | exact ih2 _ _ _
   | exact ih3 _ _ _
   | exact ih4 _ _ _
   | exact ih5 _ _ _
   | exact ih6 _ _ _ _
   | exact LeO.none _
   | refine LeO.ite ?_ ?_
   | refine LeO.bind ?_ (fun _=>?_)
  ·intro y0 y1 y2
   unfold bosunref07_Whole.j2
   repeat' first
   | (with_reducible exact ih0 _ _ _)
   | (with_reducible exact ih1 _ _)
   | (with_reducible exact ih2 _ _ _)
   | (with_reducible exact ih3 _ _ _)
   | (with_reducible exact ih4 _ _ _)
   | (with_reducible exact ih5 _ _ _)
   | (with_reducible exact ih6 _ _ _ _)
   | (with_reducible exact LeO.refl _)
   | (with_reducible exact LeO.none _)
   | (with_reducible refine LeO.ite ?_ ?_)
   | (with_reducible refine LeO.bind ?_ (fun _=>?_))
   | exact ih0 _ _ _
   | exact ih1 _ _
   | exact ih2 _ _ _
   | exact ih3 _ _ _
   | exact ih4 _ _ _
   | exact ih5 _ _ _
   | exact ih6 _ _ _ _
   | exact LeO.none _
   | refine LeO.ite ?_ ?_
   | refine LeO.bind ?_ (fun _=>?_)
  ·intro y0 y1 y2
   unfold bosunref07_Whole.l0
   repeat' first
   | (with_reducible exact ih0 _ _ _)
   | (with_reducible exact ih1 _ _)
   | (with_reducible exact ih2 _ _ _)
   | (with_reducible exact ih3 _ _ _)
   | (with_reducible exact ih4 _ _ _)
   | (with_reducible exact ih5 _ _ _)
   | (with_reducible exact ih6 _ _ _ _)
   | (with_reducible exact LeO.refl _)
   | (with_reducible exact LeO.none _)
   | (with_reducible refine LeO.ite ?_ ?_)
   | (with_reducible refine LeO.bind ?_ (fun _=>?_))
   | exact ih0 _ _ _
   | exact ih1 _ _
   | exact ih2 _ _ _
   | exact ih3 _ _ _
   | exact ih4 _ _ _
   | exact ih5 _ _ _
   | exact ih6 _ _ _ _
   | exact LeO.none _
   | refine LeO.ite ?_ ?_
   | refine LeO.bind ?_ (fun _=>?_)
  ·intro y0 y1 y2
   unfold bosunref07_Whole.j4
   repeat' first
   | (with_reducible exact ih0 _ _ _)
   | (with_reducible exact ih1 _ _)
   | (with_reducible exact ih2 _ _ _)
   | (with_reducible exact ih3 _ _ _)
   | (with_reducible exact ih4 _ _ _)
   | (with_reducible exact ih5 _ _ _)
   | (with_reducible exact ih6 _ _ _ _)
   | (with_reducible exact LeO.refl _)
   | (with_reducible exact LeO.none _)
   | (with_reducible refine LeO.ite ?_ ?_)
   | (with_reducible refine LeO.bind ?_ (fun _=>?_))
   | exact ih0 _ _ _
   | exact ih1 _ _
   | exact ih2 _ _ _
   | exact ih3 _ _ _
   | exact ih4 _ _ _
   | exact ih5 _ _ _
   | exact ih6 _ _ _ _
   | exact LeO.none _
   | refine LeO.ite ?_ ?_
   | refine LeO.bind ?_ (fun _=>?_)
  ·intro y0 y1 y2
   unfold bosunref07_Whole.j5
   repeat' first
   | (with_reducible exact ih0 _ _ _)
   | (with_reducible exact ih1 _ _)
   | (with_reducible exact ih2 _ _ _)
   | (with_reducible exact ih3 _ _ _)
   | (with_reducible exact ih4 _ _ _)
   | (with_reducible exact ih5 _ _ _)
   | (with_reducible exact ih6 _ _ _ _)
   | (with_reducible exact LeO.refl _)
   | (with_reducible exact LeO.none _)
   | (with_reducible refine LeO.ite ?_ ?_)
   | (with_reducible refine LeO.bind ?_ (fun _=>?_))
   | exact ih0 _ _ _
   | exact ih1 _ _
   | exact ih2 _ _ _
   | exact ih3 _ _ _
   | exact ih4 _ _ _
   | exact ih5 _ _ _
   | exact ih6 _ _ _ _
   | exact LeO.none _
   | refine LeO.ite ?_ ?_
   | refine LeO.bind ?_ (fun _=>?_)
  ·intro y0 y1 y2 y3
   unfold bosunref07_Whole.l1
   repeat' first
   | (with_reducible exact ih0 _ _ _)
   | (with_reducible exact ih1 _ _)
   | (with_reducible exact ih2 _ _ _)
   | (with_reducible exact ih3 _ _ _)
   | (with_reducible exact ih4 _ _ _)
   | (with_reducible exact ih5 _ _ _)
   | (with_reducible exact ih6 _ _ _ _)
   | (with_reducible exact LeO.refl _)
   | (with_reducible exact LeO.none _)
   | (with_reducible refine LeO.ite ?_ ?_)
   | (with_reducible refine LeO.bind ?_ (fun _=>?_))
   | exact ih0 _ _ _
   | exact ih1 _ _
   | exact ih2 _ _ _
   | exact ih3 _ _ _
   | exact ih4 _ _ _
   | exact ih5 _ _ _
   | exact ih6 _ _ _ _
   | exact LeO.none _
   | refine LeO.ite ?_ ?_
   | refine LeO.bind ?_ (fun _=>?_)
theorem bosunref07_Whole.mono : ∀ a0 k,LeO (bosunref07_Whole.f k a0) (bosunref07_Whole.f (k + 1) a0):=by
 intro a0 k
 obtain ⟨ih0,ih1,ih2,ih3,ih4,ih5,ih6⟩:=bosunref07_Whole.mono_l k
 unfold bosunref07_Whole.f
 repeat' first
   | (with_reducible exact ih0 _ _ _)
   | (with_reducible exact ih1 _ _)
   | (with_reducible exact ih2 _ _ _)
   | (with_reducible exact ih3 _ _ _)
   | (with_reducible exact ih4 _ _ _)
   | (with_reducible exact ih5 _ _ _)
   | (with_reducible exact ih6 _ _ _ _)
   | (with_reducible exact LeO.refl _)
   | (with_reducible exact LeO.none _)
   | (with_reducible refine LeO.ite ?_ ?_)
   | (with_reducible refine LeO.bind ?_ (fun _=>?_))
   | exact ih0 _ _ _
   | exact ih1 _ _
   | exact ih2 _ _ _
   | exact ih3 _ _ _
   | exact ih4 _ _ _
   | exact ih5 _ _ _
   | exact ih6 _ _ _ _
   | exact LeO.none _
   | refine LeO.ite ?_ ?_
   | refine LeO.bind ?_ (fun _=>?_)
set_option maxHeartbeats 8000000 in
set_option maxRecDepth 100000 in
theorem bosunref07_Whole.calls (k : Nat) (a0 : ByteArray) (r1 : Int) (r2 : Int) (w : World) (h : bosunref07_Whole.f k a0 = some (r1,r2)) :
  Calls Tryd.prog 27 #[.string a0] w fun e w'=>e = .returned (.tuple #[.int .i64 r1,.int .i64 r2]) ∧ Drawn0 w w':=by
 have H : (if (a0.size : Int) > 0 then (if 0 < (a0.size : Int) then (bosunref07_Whole.j0 k a0 (⟨#[]⟩ : ByteArray) ((bt a0 0) == 45)) else (none)) else (bosunref07_Whole.j0 k a0 (⟨#[]⟩ : ByteArray) false)) = some (r1,r2):=h
 clear h
 have HC2:=Aside0.mk H
 clear H
 go_enter Tryd.func27,Tryd.ntmps27
 go_upto_region 2 with (fail)
 go_cut [16] (fun v16 wc=>∃ (kq : Nat) (x16_1 : Bool),v16 = .bool x16_1 ∧ Aside0 (bosunref07_Whole.j0 kq a0 (⟨#[]⟩ : ByteArray) x16_1 = some (r1,r2)) ∧ Aside0 (kq ≤ k) ∧ Drawn0 w wc)
 case first =>
  have H:=HC2.out
  clear HC2
  by_cases c3 : (a0.size : Int) > 0
  ·rw [if_pos c3] at H
   have c3b0 : decide (0 < (a0.size : Int)) = true:=decide_eq_true c3
   have c3b1 : decide (0 < a0.size) = true:=decide_eq_true (by omega)
   clear c3
   (first|rw [c3b0]|(simp only [i64_w,i32_w];rw [c3b0])|skip)
   by_cases c4 : 0 < (a0.size : Int)
   ·rw [if_pos c4] at H
    have c4b0 : decide (0 < (a0.size : Int)) = true:=decide_eq_true c4
    have c4b1 : decide (0 < a0.size) = true:=decide_eq_true (by omega)
    clear c4
    have H':=Aside0.mk H
    clear H
    have p5 : 0 ≤ (0 : Int):=(by omega)
    have q5 : 0 < a0.size:=(by have : (0 : Int) < (a0.size : Int):=of_decide_eq_true (by first|(with_reducible assumption)|assumption);omega)
    have hx5 : ∀ h : 0 < a0.size,((a0[0]'h).toNat : Int) = bt a0 0:=bt_at a0 0
    clear p5
    have qi5 : (0 < (a0.size : Int)) = True:=eq_true (of_decide_eq_true (by first|(with_reducible assumption)|assumption))
    replace q5:=eq_true q5
    go_wp2
    go_meet
    case rel=>exact ⟨_,(((bt a0 0) == 45)),(by first|rfl|(simp;done)|(simp [*];done)),H',⟨by first|omega|exact Nat.le_refl _⟩,by repeat (first|exact Drawn0.refl _|apply Drawn0.step)⟩
   ·rw [if_neg c4] at H
    exact absurd H (by simp)
  ·rw [if_neg c3] at H
   have c3b0 : decide (0 < (a0.size : Int)) = false:=decide_eq_false c3
   have c3b1 : decide (0 < a0.size) = false:=decide_eq_false (by omega)
   clear c3
   (first|rw [c3b0]|(simp only [i64_w,i32_w];rw [c3b0])|skip)
   have H':=Aside0.mk H
   clear H
   go_wp2
   go_meet
   case rel=>exact ⟨_,(false),(by first|rfl|(simp;done)|(simp [*];done)),H',⟨by first|omega|exact Nat.le_refl _⟩,by repeat (first|exact Drawn0.refl _|apply Drawn0.step)⟩
 case rest =>
  clear HC2
  try clear c2
  try clear p2
  try clear c3
  try clear c3b0
  try clear c3b1
  try clear c4
  try clear c4b0
  try clear c4b1
  try clear p5
  try clear q5
  try clear hx5
  try clear qi5
  try clear p5
  try clear q5
  obtain ⟨kq,x16_1,rfl,HA,HJ1,⟨mc1,rfl⟩⟩:=hcut
  cases kq with
  | zero=>exact absurd HA.out (by simp [bosunref07_Whole.j0])
  | succ kj1 =>
   have H:=HA.out
   clear HA
   simp only [bosunref07_Whole.j0] at H
   have HC6:=Aside0.mk H
   clear H
   go_upto_if 16 with (fail)
   go_cut [0,4] (fun v0 v4 wc=>∃ (kq : Nat) (x0_5 : ByteArray) (x4_5 : ByteArray),v0 = .string x0_5 ∧ v4 = .string x4_5 ∧ Aside0 (bosunref07_Whole.j1 kq x0_5 x4_5 = some (r1,r2)) ∧ Aside0 (kq ≤ kj1) ∧ Drawn0 w wc)
   case first =>
    have H:=HC6.out
    clear HC6
    by_cases c7 : x16_1 = true
    ·subst c7
     have H1 : (if 1 ≤ (a0.size : Int) then (bosunref07_Whole.j1 kj1 (a0.extract 1 a0.size) (⟨#[45]⟩ : ByteArray)) else (none)) = some (r1,r2):=by rw [if_pos rfl] at H;exact H
     clear H
     have H:=H1
     clear H1
     by_cases c8 : 1 ≤ (a0.size : Int)
     ·rw [if_pos c8] at H
      have c8b0:=eq_true c8
      have c8b1 : decide (1 ≤ (a0.size : Int)) = true:=decide_eq_true c8
      clear c8
      have H':=Aside0.mk H
      clear H
      go_wp2
      go_meet
      case rel=>exact ⟨_,(a0.extract 1 a0.size),((⟨#[45]⟩ : ByteArray)),(by first|rfl|(simp;done)|(simp [*];done)),(by first|rfl|(simp;done)|(simp [*];done)),H',⟨by have:=HJ1.out;first|omega|exact Nat.le_refl _⟩,by repeat (first|exact Drawn0.refl _|apply Drawn0.step)⟩
     ·rw [if_neg c8] at H
      exact absurd H (by simp)
    ·replace c7:=Bool.eq_false_iff.mpr c7
     subst c7
     have H1 : (bosunref07_Whole.j1 kj1 a0 (⟨#[]⟩ : ByteArray)) = some (r1,r2):=by rw [if_neg (show ¬ (false = true) by decide)] at H;exact H
     clear H
     have H:=H1
     clear H1
     have H':=Aside0.mk H
     clear H
     go_wp2
     go_meet
     case rel=>exact ⟨_,(a0),((⟨#[]⟩ : ByteArray)),(by first|rfl|(simp;done)|(simp [*];done)),(by first|rfl|(simp;done)|(simp [*];done)),H',⟨by have:=HJ1.out;first|omega|exact Nat.le_refl _⟩,by repeat (first|exact Drawn0.refl _|apply Drawn0.step)⟩
   case rest =>
    clear HC6
    try clear c1
    try clear c2
    try clear p2
    try clear c3
    try clear c3b0
    try clear c3b1
    try clear c4
    try clear c4b0
    try clear c4b1
    try clear p5
    try clear q5
    try clear hx5
    try clear qi5
    try clear c7
    try clear c8
    try clear c8b0
    try clear c8b1
    try clear p2
    try clear p5
    try clear q5
    obtain ⟨kq,x0_5,x4_5,rfl,rfl,HA,HJ5,⟨mc5,rfl⟩⟩:=hcut
    cases kq with
    | zero=>exact absurd HA.out (by simp [bosunref07_Whole.j1])
    | succ kj5 =>
     have H:=HA.out
     clear HA
     simp only [bosunref07_Whole.j1] at H
     have HC9:=Aside0.mk H
     clear H
     go_upto_region 5 with (fail)
     go_cut [31] (fun v31 wc=>∃ (kq : Nat) (x31_8 : Bool),v31 = .bool x31_8 ∧ Aside0 (bosunref07_Whole.j2 kq x0_5 x4_5 x31_8 = some (r1,r2)) ∧ Aside0 (kq ≤ kj5) ∧ Drawn0 w wc)
     case first =>
      have H:=HC9.out
      clear HC9
      by_cases c10 : (x0_5.size : Int) = 0
      ·rw [if_pos c10] at H
       have c10b0 : ((x0_5.size : Int) == 0) = true:=beq_iff_eq.mpr c10
       have c10b1 : ((x0_5.size : Int) != 0) = false:=bne_eq_false_iff_eq.mpr c10
       clear c10
       (first|rw [c10b0]|(simp only [i64_w,i32_w];rw [c10b0])|skip)
       have H':=Aside0.mk H
       clear H
       go_wp2
       go_meet
       case rel=>exact ⟨_,(true),(by first|rfl|(simp;done)|(simp [*];done)),H',⟨by have:=HJ1.out;have:=HJ5.out;first|omega|exact Nat.le_refl _⟩,by repeat (first|exact Drawn0.refl _|apply Drawn0.step)⟩
      ·rw [if_neg c10] at H
       have c10b0 : ((x0_5.size : Int) == 0) = false:=beq_eq_false_iff_ne.mpr c10
       have c10b1 : ((x0_5.size : Int) != 0) = true:=bne_iff_ne.mpr c10
       (first|rw [c10b0]|(simp only [i64_w,i32_w];rw [c10b0])|skip)
       by_cases c11 : (x0_5.size : Int) > 1
       ·rw [if_pos c11] at H
        have c11b0 : decide (1 < (x0_5.size : Int)) = true:=decide_eq_true c11
        have c11b1 : decide (1 < x0_5.size) = true:=decide_eq_true (by omega)
        clear c11
        by_cases c12 : 0 < (x0_5.size : Int)
        ·rw [if_pos c12] at H
         have c12b0 : decide (0 < (x0_5.size : Int)) = true:=decide_eq_true c12
         have c12b1 : decide (0 < x0_5.size) = true:=decide_eq_true (by omega)
         clear c12
         have H':=Aside0.mk H
         clear H
         have p13 : 0 ≤ (0 : Int):=(by omega)
         have q13 : 0 < x0_5.size:=(by have : (0 : Int) < (x0_5.size : Int):=of_decide_eq_true (by first|(with_reducible assumption)|assumption);omega)
         have hx13 : ∀ h : 0 < x0_5.size,((x0_5[0]'h).toNat : Int) = bt x0_5 0:=bt_at x0_5 0
         clear p13
         have qi13 : (0 < (x0_5.size : Int)) = True:=eq_true (of_decide_eq_true (by first|(with_reducible assumption)|assumption))
         replace q13:=eq_true q13
         go_wp2
         go_meet
         case rel=>exact ⟨_,(((bt x0_5 0) == 48)),(by first|rfl|(simp;done)|(simp [*];done)),H',⟨by have:=HJ1.out;have:=HJ5.out;first|omega|exact Nat.le_refl _⟩,by repeat (first|exact Drawn0.refl _|apply Drawn0.step)⟩
        ·rw [if_neg c12] at H
         exact absurd H (by simp)
       ·rw [if_neg c11] at H
        have c11b0 : decide (1 < (x0_5.size : Int)) = false:=decide_eq_false c11
        have c11b1 : decide (1 < x0_5.size) = false:=decide_eq_false (by omega)
        clear c11
        have H':=Aside0.mk H
        clear H
        go_wp2
        go_meet
        case rel=>exact ⟨_,(false),(by first|rfl|(simp;done)|(simp [*];done)),H',⟨by have:=HJ1.out;have:=HJ5.out;first|omega|exact Nat.le_refl _⟩,by repeat (first|exact Drawn0.refl _|apply Drawn0.step)⟩
     case rest =>
      clear HC9
      try clear c1
      try clear p1
      try clear q1
      try clear hx1
      try clear qi1
      try clear c2
      try clear p2
      try clear c3
      try clear c3b0
      try clear c3b1
      try clear c4
      try clear c4b0
      try clear c4b1
      try clear c5
      try clear p5
      try clear q5
      try clear hx5
      try clear qi5
      try clear c7
      try clear c8
      try clear c8b0
      try clear c8b1
      try clear c10
      try clear c10b0
      try clear c10b1
      try clear c11
      try clear c11b0
      try clear c11b1
      try clear c12
      try clear c12b0
      try clear c12b1
      try clear p13
      try clear q13
      try clear hx13
      try clear qi13
      try clear p13
      try clear p2
      try clear p5
      try clear q13
      try clear q5
      obtain ⟨kq,x31_8,rfl,HA,HJ8,⟨mc8,rfl⟩⟩:=hcut
      cases kq with
      | zero=>exact absurd HA.out (by simp [bosunref07_Whole.j2])
      | succ kj8 =>
       have H:=HA.out
       clear HA
       simp only [bosunref07_Whole.j2] at H
       by_cases c14 : x31_8 = true
       ·subst c14
        have H1 : (some (0,12)) = some (r1,r2):=by rw [if_pos rfl] at H;exact H
        clear H
        have H:=H1
        clear H1
        simp only [Option.some.injEq,Prod.mk.injEq] at H
        obtain ⟨rfl,rfl⟩:=H
        go_wp2
        go_ret2
        exact ⟨by first|rfl|(simp;done)|(simp [*];done),by repeat (first|exact Drawn0.refl _|apply Drawn0.step)⟩
       ·replace c14:=Bool.eq_false_iff.mpr c14
        subst c14
        have H1 : (bosunref07_Whole.l0 kj8 x0_5 x4_5 0) = some (r1,r2):=by rw [if_neg (show ¬ (false = true) by decide)] at H;exact H
        clear H
        have H:=H1
        clear H1
        have H':=Aside0.mk H
        clear H
        go_wp2
        go_loopg [5] kj8 (fun kq v5 w'=>∃ (x5_4 : Int),v5 = .int .i64 x5_4 ∧ Aside0 (bosunref07_Whole.l0 kq x0_5 x4_5 x5_4 = some (r1,r2)) ∧ Aside0 (kq ≤ kj8) ∧ Drawn0 w w')
        case atStart=>exact ⟨(0),(by first|rfl|(simp;done)|(simp [*];done)),H',⟨Nat.le_refl _⟩,by repeat (first|exact Drawn0.refl _|apply Drawn0.step)⟩
        case round =>
         clear H'
         try clear c1
         try clear p1
         try clear q1
         try clear hx1
         try clear qi1
         try clear c2
         try clear p2
         try clear c3
         try clear c3b0
         try clear c3b1
         try clear c4
         try clear c4b0
         try clear c4b1
         try clear c5
         try clear p5
         try clear q5
         try clear hx5
         try clear qi5
         try clear c7
         try clear c8
         try clear c8b0
         try clear c8b1
         try clear c10
         try clear c10b0
         try clear c10b1
         try clear c11
         try clear c11b0
         try clear c11b1
         try clear c12
         try clear c12b0
         try clear c12b1
         try clear p13
         try clear q13
         try clear hx13
         try clear qi13
         try clear c14
         try clear p1
         try clear p13
         try clear p2
         try clear p5
         try clear q1
         try clear q13
         try clear q5
         obtain ⟨x5_4,rfl,HA,HK4,⟨m4,rfl⟩⟩:=hrel
         cases gk with
         | zero=>exact absurd HA.out (by simp [bosunref07_Whole.l0])
         | succ k4 =>
          have H:=HA.out
          clear HA
          simp only [bosunref07_Whole.l0] at H
          by_cases c15 : x5_4 < (x0_5.size : Int)
          ·rw [if_pos c15] at H
           have c15b0 : decide (x5_4 < (x0_5.size : Int)) = true:=decide_eq_true c15
           clear c15
           by_cases c16 : 0 ≤ x5_4
           ·rw [if_pos c16] at H
            have c16b0 : decide (0 ≤ x5_4) = true:=decide_eq_true c16
            clear c16
            replace H:=Option.bind_eq_some_iff.mp H
            obtain ⟨t132,A180,H⟩:=H
            replace H : (if t132 = true then (bosunref07_Whole.l0 k4 x0_5 x4_5 (wrap64 (x5_4 + 1))) else (some (0,12))) = some (r1,r2):=H
            have A18:=Aside0.mk A180
            clear A180
            by_cases c19 : t132 = true
            ·subst c19
             have H1 : (bosunref07_Whole.l0 k4 x0_5 x4_5 (wrap64 (x5_4 + 1))) = some (r1,r2):=by rw [if_pos rfl] at H;exact H
             clear H
             have H:=H1
             clear H1
             have H':=Aside0.mk H
             clear H
             have p17 : 0 ≤ (x5_4 : Int):=of_decide_eq_true (by first|(with_reducible assumption)|assumption)
             have q17 : x5_4 < (x0_5.size : Int):=of_decide_eq_true (by first|(with_reducible assumption)|assumption)
             have hx17:=bt_at x0_5 x5_4
             replace p17:=eq_true p17
             replace q17:=eq_true q17
             go_wp2_with (first|((with_reducible refine gate_callee (f:=42) rfl ?_);refine goesL_ (some 41) rfl rfl Tryd.func42 (by kernel_rfl) rfl #[.int .u8 (bt x0_5 x5_4)] rfl (by (try simp only [List.map_toArray,List.map_cons,List.map_nil]);first|done|rfl|(simp only [List.length_drop,List.length_take];rfl)|(simp (disch:=first|omega|(simp at *;omega)) only [u64_id,i64_id,u8_id];rfl)) ?_;(with_reducible refine (bosunref07_digit.calls (bt x0_5 x5_4) true _ A18.out).mono ?_);rintro e w' ⟨rfl,⟨nd,rfl⟩⟩;refine ⟨_,rfl,?_⟩))
             go_roundg k4
             case measure=>have:=HJ1.out;have:=HJ5.out;have:=HJ8.out;have:=HK4.out;omega
             case rel=>exact ⟨(wrap64 (x5_4 + 1)),(by first|rfl|(simp;done)|(simp [*];done)),H',⟨by have:=HJ1.out;have:=HJ5.out;have:=HJ8.out;have:=HK4.out;omega⟩,by repeat (first|exact Drawn0.refl _|apply Drawn0.step)⟩
            ·replace c19:=Bool.eq_false_iff.mpr c19
             subst c19
             have H1 : (some (0,12)) = some (r1,r2):=by rw [if_neg (show ¬ (false = true) by decide)] at H;exact H
             clear H
             have H:=H1
             clear H1
             simp only [Option.some.injEq,Prod.mk.injEq] at H
             obtain ⟨rfl,rfl⟩:=H
             have p17 : 0 ≤ (x5_4 : Int):=of_decide_eq_true (by first|(with_reducible assumption)|assumption)
             have q17 : x5_4 < (x0_5.size : Int):=of_decide_eq_true (by first|(with_reducible assumption)|assumption)
             have hx17:=bt_at x0_5 x5_4
             replace p17:=eq_true p17
             replace q17:=eq_true q17
             go_wp2_with (first|((with_reducible refine gate_callee (f:=42) rfl ?_);refine goesL_ (some 41) rfl rfl Tryd.func42 (by kernel_rfl) rfl #[.int .u8 (bt x0_5 x5_4)] rfl (by (try simp only [List.map_toArray,List.map_cons,List.map_nil]);first|done|rfl|(simp only [List.length_drop,List.length_take];rfl)|(simp (disch:=first|omega|(simp at *;omega)) only [u64_id,i64_id,u8_id];rfl)) ?_;(with_reducible refine (bosunref07_digit.calls (bt x0_5 x5_4) false _ A18.out).mono ?_);rintro e w' ⟨rfl,⟨nd,rfl⟩⟩;refine ⟨_,rfl,?_⟩))
             go_ret2
             exact ⟨by first|rfl|(simp;done)|(simp [*];done),by repeat (first|exact Drawn0.refl _|apply Drawn0.step)⟩
           ·rw [if_neg c16] at H
            exact absurd H (by simp)
          ·rw [if_neg c15] at H
           have c15b0 : decide (x5_4 < (x0_5.size : Int)) = false:=decide_eq_false c15
           clear c15
           have HC20:=Aside0.mk H
           clear H
           go_upto_if 44 with (fail)
           go_cut [6] (fun v6 wc=>∃ (kq : Nat) (x6_19 : ByteArray),v6 = .string x6_19 ∧ Aside0 (bosunref07_Whole.j4 kq x0_5 x4_5 x6_19 = some (r1,r2)) ∧ Aside0 (kq ≤ k4) ∧ Drawn0 w wc)
           case first =>
            have H:=HC20.out
            clear HC20
            by_cases c21 : x4_5.toList = ([45] : List UInt8)
            ·rw [if_pos c21] at H
             have c21b0 : (x4_5.toList == ([45] : List UInt8)) = true:=beq_iff_eq.mpr c21
             have c21b1 : (x4_5.toList != ([45] : List UInt8)) = false:=bne_eq_false_iff_eq.mpr c21
             clear c21
             (first|rw [c21b0]|(simp only [i64_w,i32_w];rw [c21b0])|skip)
             have H':=Aside0.mk H
             clear H
             go_wp2
             go_meet
             case rel=>exact ⟨_,((⟨#[57,50,50,51,51,55,50,48,51,54,56,53,52,55,55,53,56,48,56]⟩ : ByteArray)),(by first|rfl|(simp;done)|(simp [*];done)),H',⟨by have:=HJ1.out;have:=HJ5.out;have:=HJ8.out;have:=HK4.out;first|omega|exact Nat.le_refl _⟩,by repeat (first|exact Drawn0.refl _|apply Drawn0.step)⟩
            ·rw [if_neg c21] at H
             have c21b0 : (x4_5.toList == ([45] : List UInt8)) = false:=beq_eq_false_iff_ne.mpr c21
             have c21b1 : (x4_5.toList != ([45] : List UInt8)) = true:=bne_iff_ne.mpr c21
             (first|rw [c21b0]|(simp only [i64_w,i32_w];rw [c21b0])|skip)
             have H':=Aside0.mk H
             clear H
             go_wp2
             go_meet
             case rel=>exact ⟨_,((⟨#[57,50,50,51,51,55,50,48,51,54,56,53,52,55,55,53,56,48,55]⟩ : ByteArray)),(by first|rfl|(simp;done)|(simp [*];done)),H',⟨by have:=HJ1.out;have:=HJ5.out;have:=HJ8.out;have:=HK4.out;first|omega|exact Nat.le_refl _⟩,by repeat (first|exact Drawn0.refl _|apply Drawn0.step)⟩
           case rest =>
            clear HC20
            try clear c1
            try clear p1
            try clear q1
            try clear hx1
            try clear qi1
            try clear c2
            try clear p2
            try clear c3
            try clear c3b0
            try clear c3b1
            try clear c4
            try clear c4b0
            try clear c4b1
            try clear c5
            try clear p5
            try clear q5
            try clear hx5
            try clear qi5
            try clear p6
            try clear c7
            try clear c8
            try clear c8b0
            try clear c8b1
            try clear c10
            try clear c10b0
            try clear c10b1
            try clear c11
            try clear c11b0
            try clear c11b1
            try clear c12
            try clear c12b0
            try clear c12b1
            try clear p13
            try clear q13
            try clear hx13
            try clear qi13
            try clear c14
            try clear c15
            try clear c15b0
            try clear c16
            try clear c16b0
            try clear p17
            try clear q17
            try clear hx17
            try clear c19
            try clear c21
            try clear c21b0
            try clear c21b1
            try clear p1
            try clear p13
            try clear p17
            try clear p2
            try clear p5
            try clear q1
            try clear q13
            try clear q17
            try clear q5
            obtain ⟨kq,x6_19,rfl,HA,HJ19,⟨mc19,rfl⟩⟩:=hcut
            cases kq with
            | zero=>exact absurd HA.out (by simp [bosunref07_Whole.j4])
            | succ kj19 =>
             have H:=HA.out
             clear HA
             simp only [bosunref07_Whole.j4] at H
             have HC22:=Aside0.mk H
             clear H
             go_upto_region 15 with (fail)
             go_cut [57] (fun v57 wc=>∃ (kq : Nat) (x57_21 : Bool),v57 = .bool x57_21 ∧ Aside0 (bosunref07_Whole.j5 kq x0_5 x4_5 x57_21 = some (r1,r2)) ∧ Aside0 (kq ≤ kj19) ∧ Drawn0 w wc)
             case first =>
              have H:=HC22.out
              clear HC22
              by_cases c23 : (x0_5.size : Int) > 19
              ·rw [if_pos c23] at H
               have c23b0 : decide (19 < (x0_5.size : Int)) = true:=decide_eq_true c23
               have c23b1 : decide (19 < x0_5.size) = true:=decide_eq_true (by omega)
               clear c23
               (first|rw [c23b0]|(simp only [i64_w,i32_w];rw [c23b0])|skip)
               have H':=Aside0.mk H
               clear H
               go_wp2
               go_meet
               case rel=>exact ⟨_,(true),(by first|rfl|(simp;done)|(simp [*];done)),H',⟨by have:=HJ1.out;have:=HJ5.out;have:=HJ8.out;have:=HK4.out;have:=HJ19.out;first|omega|exact Nat.le_refl _⟩,by repeat (first|exact Drawn0.refl _|apply Drawn0.step)⟩
              ·rw [if_neg c23] at H
               have c23b0 : decide (19 < (x0_5.size : Int)) = false:=decide_eq_false c23
               have c23b1 : decide (19 < x0_5.size) = false:=decide_eq_false (by omega)
               clear c23
               (first|rw [c23b0]|(simp only [i64_w,i32_w];rw [c23b0])|skip)
               by_cases c24 : (x0_5.size : Int) = 19
               ·rw [if_pos c24] at H
                have c24b0 : ((x0_5.size : Int) == 19) = true:=beq_iff_eq.mpr c24
                have c24b1 : ((x0_5.size : Int) != 19) = false:=bne_eq_false_iff_eq.mpr c24
                clear c24
                have H':=Aside0.mk H
                clear H
                go_wp2
                go_meet
                case rel=>exact ⟨_,((Op.bytesLess x6_19.toList x0_5.toList)),(by first|rfl|(simp;done)|(simp [*];done)),H',⟨by have:=HJ1.out;have:=HJ5.out;have:=HJ8.out;have:=HK4.out;have:=HJ19.out;first|omega|exact Nat.le_refl _⟩,by repeat (first|exact Drawn0.refl _|apply Drawn0.step)⟩
               ·rw [if_neg c24] at H
                have c24b0 : ((x0_5.size : Int) == 19) = false:=beq_eq_false_iff_ne.mpr c24
                have c24b1 : ((x0_5.size : Int) != 19) = true:=bne_iff_ne.mpr c24
                have H':=Aside0.mk H
                clear H
                go_wp2
                go_meet
                case rel=>exact ⟨_,(false),(by first|rfl|(simp;done)|(simp [*];done)),H',⟨by have:=HJ1.out;have:=HJ5.out;have:=HJ8.out;have:=HK4.out;have:=HJ19.out;first|omega|exact Nat.le_refl _⟩,by repeat (first|exact Drawn0.refl _|apply Drawn0.step)⟩
             case rest =>
              clear HC22
              try clear c1
              try clear p1
              try clear q1
              try clear hx1
              try clear qi1
              try clear c2
              try clear p2
              try clear c3
              try clear c3b0
              try clear c3b1
              try clear c4
              try clear c4b0
              try clear c4b1
              try clear c5
              try clear p5
              try clear q5
              try clear hx5
              try clear qi5
              try clear p6
              try clear c7
              try clear c8
              try clear c8b0
              try clear c8b1
              try clear c10
              try clear c10b0
              try clear c10b1
              try clear c11
              try clear c11b0
              try clear c11b1
              try clear c12
              try clear c12b0
              try clear c12b1
              try clear p13
              try clear q13
              try clear hx13
              try clear qi13
              try clear c14
              try clear c15
              try clear c15b0
              try clear c16
              try clear c16b0
              try clear p17
              try clear q17
              try clear hx17
              try clear c19
              try clear c21
              try clear c21b0
              try clear c21b1
              try clear c23
              try clear c23b0
              try clear c23b1
              try clear c24
              try clear c24b0
              try clear c24b1
              try clear p1
              try clear p13
              try clear p17
              try clear p2
              try clear p5
              try clear p6
              try clear q1
              try clear q13
              try clear q17
              try clear q5
              obtain ⟨kq,x57_21,rfl,HA,HJ21,⟨mc21,rfl⟩⟩:=hcut
              cases kq with
              | zero=>exact absurd HA.out (by simp [bosunref07_Whole.j5])
              | succ kj21 =>
               have H:=HA.out
               clear HA
               simp only [bosunref07_Whole.j5] at H
               by_cases c25 : x57_21 = true
               ·subst c25
                have H1 : (some (0,7)) = some (r1,r2):=by rw [if_pos rfl] at H;exact H
                clear H
                have H:=H1
                clear H1
                simp only [Option.some.injEq,Prod.mk.injEq] at H
                obtain ⟨rfl,rfl⟩:=H
                go_wp2
                go_ret2
                exact ⟨by first|rfl|(simp;done)|(simp [*];done),by repeat (first|exact Drawn0.refl _|apply Drawn0.step)⟩
               ·replace c25:=Bool.eq_false_iff.mpr c25
                subst c25
                have H1 : (bosunref07_Whole.l1 kj21 x0_5 x4_5 0 0) = some (r1,r2):=by rw [if_neg (show ¬ (false = true) by decide)] at H;exact H
                clear H
                have H:=H1
                clear H1
                have H':=Aside0.mk H
                clear H
                go_wp2
                go_loopg [7,8] kj21 (fun kq v7 v8 w'=>∃ (x7_7 : Int) (x8_7 : Int),v7 = .int .i64 x7_7 ∧ v8 = .int .i64 x8_7 ∧ Aside0 (bosunref07_Whole.l1 kq x0_5 x4_5 x7_7 x8_7 = some (r1,r2)) ∧ Aside0 (kq ≤ kj21) ∧ Drawn0 w w')
                case atStart=>exact ⟨(0),(0),(by first|rfl|(simp;done)|(simp [*];done)),(by first|rfl|(simp;done)|(simp [*];done)),H',⟨Nat.le_refl _⟩,by repeat (first|exact Drawn0.refl _|apply Drawn0.step)⟩
                case round =>
                 clear H'
                 try clear c1
                 try clear p1
                 try clear q1
                 try clear hx1
                 try clear qi1
                 try clear c2
                 try clear p2
                 try clear c3
                 try clear c3b0
                 try clear c3b1
                 try clear c4
                 try clear c4b0
                 try clear c4b1
                 try clear c5
                 try clear p5
                 try clear q5
                 try clear hx5
                 try clear qi5
                 try clear p6
                 try clear c7
                 try clear c8
                 try clear c8b0
                 try clear c8b1
                 try clear c10
                 try clear c10b0
                 try clear c10b1
                 try clear c11
                 try clear c11b0
                 try clear c11b1
                 try clear c12
                 try clear c12b0
                 try clear c12b1
                 try clear p13
                 try clear q13
                 try clear hx13
                 try clear qi13
                 try clear c14
                 try clear c15
                 try clear c15b0
                 try clear c16
                 try clear c16b0
                 try clear p17
                 try clear q17
                 try clear hx17
                 try clear c19
                 try clear c21
                 try clear c21b0
                 try clear c21b1
                 try clear c23
                 try clear c23b0
                 try clear c23b1
                 try clear c24
                 try clear c24b0
                 try clear c24b1
                 try clear c25
                 try clear p1
                 try clear p13
                 try clear p17
                 try clear p2
                 try clear p5
                 try clear p6
                 try clear q1
                 try clear q13
                 try clear q17
                 try clear q5
                 obtain ⟨x7_7,x8_7,rfl,rfl,HA,HK7,⟨m7,rfl⟩⟩:=hrel
                 cases gk with
                 | zero=>exact absurd HA.out (by simp [bosunref07_Whole.l1])
                 | succ k7 =>
                  have H:=HA.out
                  clear HA
                  simp only [bosunref07_Whole.l1] at H
                  by_cases c26 : x8_7 < (x0_5.size : Int)
                  ·rw [if_pos c26] at H
                   have c26b0 : decide (x8_7 < (x0_5.size : Int)) = true:=decide_eq_true c26
                   clear c26
                   by_cases c27 : x4_5.toList = ([45] : List UInt8)
                   ·rw [if_pos c27] at H
                    have c27b0 : (x4_5.toList == ([45] : List UInt8)) = true:=beq_iff_eq.mpr c27
                    have c27b1 : (x4_5.toList != ([45] : List UInt8)) = false:=bne_eq_false_iff_eq.mpr c27
                    clear c27
                    by_cases c28 : 0 ≤ x8_7
                    ·rw [if_pos c28] at H
                     have c28b0 : decide (0 ≤ x8_7) = true:=decide_eq_true c28
                     clear c28
                     have H':=Aside0.mk H
                     clear H
                     have p29 : 0 ≤ (x8_7 : Int):=of_decide_eq_true (by first|(with_reducible assumption)|assumption)
                     have q29 : x8_7 < (x0_5.size : Int):=of_decide_eq_true (by first|(with_reducible assumption)|assumption)
                     have hx29:=bt_at x0_5 x8_7
                     replace p29:=eq_true p29
                     replace q29:=eq_true q29
                     go_wp2
                     go_roundg k7
                     case measure=>have:=HJ1.out;have:=HJ5.out;have:=HJ8.out;have:=HK4.out;have:=HJ19.out;have:=HJ21.out;have:=HK7.out;omega
                     case rel=>exact ⟨(wrap64 ((wrap64 (x7_7 * 10)) - (((bt x0_5 x8_7) - 48) % 256))),(wrap64 (x8_7 + 1)),(by first|rfl|(simp;done)|(simp [*];done)),(by first|rfl|(simp;done)|(simp [*];done)),H',⟨by have:=HJ1.out;have:=HJ5.out;have:=HJ8.out;have:=HK4.out;have:=HJ19.out;have:=HJ21.out;have:=HK7.out;omega⟩,by repeat (first|exact Drawn0.refl _|apply Drawn0.step)⟩
                    ·rw [if_neg c28] at H
                     exact absurd H (by simp)
                   ·rw [if_neg c27] at H
                    have c27b0 : (x4_5.toList == ([45] : List UInt8)) = false:=beq_eq_false_iff_ne.mpr c27
                    have c27b1 : (x4_5.toList != ([45] : List UInt8)) = true:=bne_iff_ne.mpr c27
                    by_cases c30 : 0 ≤ x8_7
                    ·rw [if_pos c30] at H
                     have c30b0 : decide (0 ≤ x8_7) = true:=decide_eq_true c30
                     clear c30
                     have H':=Aside0.mk H
                     clear H
                     have p31 : 0 ≤ (x8_7 : Int):=of_decide_eq_true (by first|(with_reducible assumption)|assumption)
                     have q31 : x8_7 < (x0_5.size : Int):=of_decide_eq_true (by first|(with_reducible assumption)|assumption)
                     have hx31:=bt_at x0_5 x8_7
                     replace p31:=eq_true p31
                     replace q31:=eq_true q31
                     go_wp2
                     go_roundg k7
                     case measure=>have:=HJ1.out;have:=HJ5.out;have:=HJ8.out;have:=HK4.out;have:=HJ19.out;have:=HJ21.out;have:=HK7.out;omega
                     case rel=>exact ⟨(wrap64 ((wrap64 (x7_7 * 10)) + (((bt x0_5 x8_7) - 48) % 256))),(wrap64 (x8_7 + 1)),(by first|rfl|(simp;done)|(simp [*];done)),(by first|rfl|(simp;done)|(simp [*];done)),H',⟨by have:=HJ1.out;have:=HJ5.out;have:=HJ8.out;have:=HK4.out;have:=HJ19.out;have:=HJ21.out;have:=HK7.out;omega⟩,by repeat (first|exact Drawn0.refl _|apply Drawn0.step)⟩
                    ·rw [if_neg c30] at H
                     exact absurd H (by simp)
                  ·rw [if_neg c26] at H
                   have c26b0 : decide (x8_7 < (x0_5.size : Int)) = false:=decide_eq_false c26
                   clear c26
                   simp only [Option.some.injEq,Prod.mk.injEq] at H
                   obtain ⟨rfl,rfl⟩:=H
                   go_wp2
                   go_ret2
                   exact ⟨by first|rfl|(simp;done)|(simp [*];done),by repeat (first|exact Drawn0.refl _|apply Drawn0.step)⟩

end Go.Proofs.YtnkkbiabloodaaaDoor.GUt
