/- Written by this session's own program (wip/gen.py) out of the translation: plain Lean functions of the Go functions, and proofs that the calls come to their answers. No conditions beside those in the statements. -/
import Derived.Test.YtpmbdcljphpcnaaDoorGC2x0
namespace Go.Proofs.YtpmbdcljphpcnaaDoor.GC2
open Go.RowKit Go.Proofs.YtpmbdcljphpcnaaDoorW.PrintWords Go.Proofs.YtpmbdcljphpcnaaDoorW.PrintLast Go.Proofs.YtpmbdcljphpcnaaDoorW.PrintMore
attribute [local go_sem] max2_int min2_int max_two min_two max_three min_three max_four min_four   -- for this text's walks alone
set_option linter.unusedVariables false
set_option linter.unusedSimpArgs false

/-! ### dns_small: function 73 -/
def dns_small.f (a0 : Int) : Option (Bool):=if a0 ≥ 97 then (some (decide (a0 ≤ 122))) else (some false)
set_option maxHeartbeats 8000000 in
set_option maxRecDepth 100000 in
theorem dns_small.calls (a0 : Int) (r : Bool) (w : World) (h : dns_small.f a0 = some r) :
  Calls Tryd.prog 73 #[.int .u8 a0] w fun e w'=>e = .returned (.bool r) ∧ Drawn0 w w':=by
 have H : (if a0 ≥ 97 then (some (decide (a0 ≤ 122))) else (some false)) = some r:=h
 clear h
 by_cases c2 : a0 ≥ 97
 ·rw [if_pos c2] at H
  have c2b0 : decide (97 ≤ a0) = true:=decide_eq_true c2
  clear c2
  obtain rfl:=Option.some.inj H
  go_enter Tryd.func73,Tryd.ntmps73
  go_wp2
  go_ret
  exact ⟨by first|rfl|(simp;done)|(simp [*];done),by repeat (first|exact Drawn0.refl _|apply Drawn0.step)⟩
 ·rw [if_neg c2] at H
  have c2b0 : decide (97 ≤ a0) = false:=decide_eq_false c2
  clear c2
  obtain rfl:=Option.some.inj H
  go_enter Tryd.func73,Tryd.ntmps73
  go_wp2
  go_ret
  exact ⟨by first|rfl|(simp;done)|(simp [*];done),by repeat (first|exact Drawn0.refl _|apply Drawn0.step)⟩

/-! ### dns_digit: function 74 -/
def dns_digit.f (a0 : Int) : Option (Bool):=if a0 ≥ 48 then (some (decide (a0 ≤ 57))) else (some false)
set_option maxHeartbeats 8000000 in
set_option maxRecDepth 100000 in
theorem dns_digit.calls (a0 : Int) (r : Bool) (w : World) (h : dns_digit.f a0 = some r) :
  Calls Tryd.prog 74 #[.int .u8 a0] w fun e w'=>e = .returned (.bool r) ∧ Drawn0 w w':=by
 have H : (if a0 ≥ 48 then (some (decide (a0 ≤ 57))) else (some false)) = some r:=h
 clear h
 by_cases c2 : a0 ≥ 48
 ·rw [if_pos c2] at H
  have c2b0 : decide (48 ≤ a0) = true:=decide_eq_true c2
  clear c2
  obtain rfl:=Option.some.inj H
  go_enter Tryd.func74,Tryd.ntmps74
  go_wp2
  go_ret
  exact ⟨by first|rfl|(simp;done)|(simp [*];done),by repeat (first|exact Drawn0.refl _|apply Drawn0.step)⟩
 ·rw [if_neg c2] at H
  have c2b0 : decide (48 ≤ a0) = false:=decide_eq_false c2
  clear c2
  obtain rfl:=Option.some.inj H
  go_enter Tryd.func74,Tryd.ntmps74
  go_wp2
  go_ret
  exact ⟨by first|rfl|(simp;done)|(simp [*];done),by repeat (first|exact Drawn0.refl _|apply Drawn0.step)⟩

/-! ### dns_Label: function 56 -/
mutual
def dns_Label.j0 : Nat → ByteArray → Bool → Option (Bool)
 | 0,_,_=>none
 | k + 1,x0,x23=>if x23 = true then (some false) else (dns_Label.l0 k x0 (x0.size : Int) 0)
def dns_Label.l0 : Nat → ByteArray → Int → Int → Option (Bool)
 | 0,_,_,_=>none
 | k + 1,x0,x25,x26=>if x26 < x25 then (if 0 ≤ x26 then (if x26 < (x0.size : Int) then ((dns_small.f (bt x0 x26)).bind fun t110=>(if t110 = true then (dns_Label.l0 k x0 x25 (wrap64 (x26 + 1))) else ((dns_digit.f (bt x0 x26)).bind fun t111=>(if t111 = true then (dns_Label.l0 k x0 x25 (wrap64 (x26 + 1))) else (if (bt x0 x26) = 45 then (dns_Label.l0 k x0 x25 (wrap64 (x26 + 1))) else (some false)))))) else (none)) else (none)) else (some true)
end
def dns_Label.f (k : Nat) (a0 : ByteArray) : Option (Bool):=if a0.toList = ([] : List UInt8) then (dns_Label.j0 k a0 true) else (if (a0.size : Int) > 63 then (dns_Label.j0 k a0 true) else (if 0 < (a0.size : Int) then (if (bt a0 0) = 45 then (dns_Label.j0 k a0 true) else (if 0 ≤ (wrap64 ((a0.size : Int) - 1)) then (if (wrap64 ((a0.size : Int) - 1)) < (a0.size : Int) then (dns_Label.j0 k a0 ((bt a0 (wrap64 ((a0.size : Int) - 1))) == 45)) else (none)) else (none))) else (none)))
theorem dns_Label.mono_l : ∀ k,(∀ y0 y1,LeO (dns_Label.j0 k y0 y1) (dns_Label.j0 (k + 1) y0 y1)) ∧ (∀ y0 y1 y2,LeO (dns_Label.l0 k y0 y1 y2) (dns_Label.l0 (k + 1) y0 y1 y2))
 | 0=>⟨fun _ _ r h=>by simp [dns_Label.j0] at h,fun _ _ _ r h=>by simp [dns_Label.l0] at h⟩
 | k + 1=>by
  obtain ⟨ih0,ih1⟩:=dns_Label.mono_l k
  refine ⟨?_,?_⟩
  ·intro y0 y1
   unfold dns_Label.j0
   repeat' first
   | (with_reducible exact ih0 _ _)
   | (with_reducible exact ih1 _ _ _)
   | (with_reducible exact LeO.refl _)
   | (with_reducible exact LeO.none _)
   | (with_reducible refine LeO.ite ?_ ?_)
   | (with_reducible refine LeO.bind ?_ (fun _=>?_))
   | exact ih0 _ _
   | exact ih1 _ _ _
   | exact LeO.none _
   | refine LeO.ite ?_ ?_
   | refine LeO.bind ?_ (fun _=>?_)
  ·intro y0 y1 y2
   unfold dns_Label.l0
   repeat' first
   | (with_reducible exact ih0 _ _)
   | (with_reducible exact ih1 _ _ _)
   | (with_reducible exact LeO.refl _)
   | (with_reducible exact LeO.none _)
   | (with_reducible refine LeO.ite ?_ ?_)
   | (with_reducible refine LeO.bind ?_ (fun _=>?_))
   | exact ih0 _ _
   | exact ih1 _ _ _
   | exact LeO.none _
   | refine LeO.ite ?_ ?_
   | refine LeO.bind ?_ (fun _=>?_)
theorem dns_Label.mono : ∀ a0 k,LeO (dns_Label.f k a0) (dns_Label.f (k + 1) a0):=by
 intro a0 k
 obtain ⟨ih0,ih1⟩:=dns_Label.mono_l k
 unfold dns_Label.f
 repeat' first
   | (with_reducible exact ih0 _ _)
   | (with_reducible exact ih1 _ _ _)
   | (with_reducible exact LeO.refl _)
   | (with_reducible exact LeO.none _)
   | (with_reducible refine LeO.ite ?_ ?_)
   | (with_reducible refine LeO.bind ?_ (fun _=>?_))
   | exact ih0 _ _
   | exact ih1 _ _ _
   | exact LeO.none _
   | refine LeO.ite ?_ ?_
   | refine LeO.bind ?_ (fun _=>?_)
set_option maxHeartbeats 8000000 in
set_option maxRecDepth 100000 in
theorem dns_Label.calls (k : Nat) (a0 : ByteArray) (r : Bool) (w : World) (h : dns_Label.f k a0 = some r) :
  Calls Tryd.prog 56 #[.string a0] w fun e w'=>e = .returned (.bool r) ∧ Drawn0 w w':=by
 have H : (if a0.toList = ([] : List UInt8) then (dns_Label.j0 k a0 true) else (if (a0.size : Int) > 63 then (dns_Label.j0 k a0 true) else (if 0 < (a0.size : Int) then (if (bt a0 0) = 45 then (dns_Label.j0 k a0 true) else (if 0 ≤ (wrap64 ((a0.size : Int) - 1)) then (if (wrap64 ((a0.size : Int) - 1)) < (a0.size : Int) then (dns_Label.j0 k a0 ((bt a0 (wrap64 ((a0.size : Int) - 1))) == 45)) else (none)) else (none))) else (none)))) = some r:=h
 clear h
 have HC2:=Aside0.mk H
 clear H
 go_enter Tryd.func56,Tryd.ntmps56
 go_upto_region 1 with (fail)
 go_cut [23] (fun v23 wc=>∃ (kq : Nat) (x23_1 : Bool),v23 = .bool x23_1 ∧ Aside0 (dns_Label.j0 kq a0 x23_1 = some r) ∧ Aside0 (kq ≤ k) ∧ Drawn0 w wc)
 case first =>
  have H:=HC2.out
  clear HC2
  by_cases c3 : a0.toList = ([] : List UInt8)
  ·rw [if_pos c3] at H
   have c3b0 : (a0.toList == ([] : List UInt8)) = true:=beq_iff_eq.mpr c3
   have c3b1 : (a0.toList != ([] : List UInt8)) = false:=bne_eq_false_iff_eq.mpr c3
   clear c3
   (first|rw [c3b0]|(simp only [i64_w,i32_w];rw [c3b0])|skip)
   have H':=Aside0.mk H
   clear H
   go_wp2
   go_meet
   case rel=>exact ⟨_,(true),(by first|rfl|(simp;done)|(simp [*];done)),H',⟨by first|omega|exact Nat.le_refl _⟩,by repeat (first|exact Drawn0.refl _|apply Drawn0.step)⟩
  ·rw [if_neg c3] at H
   have c3b0 : (a0.toList == ([] : List UInt8)) = false:=beq_eq_false_iff_ne.mpr c3
   have c3b1 : (a0.toList != ([] : List UInt8)) = true:=bne_iff_ne.mpr c3
   (first|rw [c3b0]|(simp only [i64_w,i32_w];rw [c3b0])|skip)
   by_cases c4 : (a0.size : Int) > 63
   ·rw [if_pos c4] at H
    have c4b0 : decide (63 < (a0.size : Int)) = true:=decide_eq_true c4
    have c4b1 : decide (63 < a0.size) = true:=decide_eq_true (by omega)
    clear c4
    have H':=Aside0.mk H
    clear H
    go_wp2
    go_meet
    case rel=>exact ⟨_,(true),(by first|rfl|(simp;done)|(simp [*];done)),H',⟨by first|omega|exact Nat.le_refl _⟩,by repeat (first|exact Drawn0.refl _|apply Drawn0.step)⟩
   ·rw [if_neg c4] at H
    have c4b0 : decide (63 < (a0.size : Int)) = false:=decide_eq_false c4
    have c4b1 : decide (63 < a0.size) = false:=decide_eq_false (by omega)
    clear c4
    by_cases c5 : 0 < (a0.size : Int)
    ·rw [if_pos c5] at H
     have c5b0 : decide (0 < (a0.size : Int)) = true:=decide_eq_true c5
     have c5b1 : decide (0 < a0.size) = true:=decide_eq_true (by omega)
     clear c5
     by_cases c7 : (bt a0 0) = 45
     ·rw [if_pos c7] at H
      have c7b0 : ((bt a0 0) == 45) = true:=beq_iff_eq.mpr c7
      have c7b1 : ((bt a0 0) != 45) = false:=bne_eq_false_iff_eq.mpr c7
      clear c7
      have H':=Aside0.mk H
      clear H
      have p6 : 0 ≤ (0 : Int):=(by omega)
      have q6 : 0 < a0.size:=(by have : (0 : Int) < (a0.size : Int):=of_decide_eq_true (by first|(with_reducible assumption)|assumption);omega)
      have hx6 : ∀ h : 0 < a0.size,((a0[0]'h).toNat : Int) = bt a0 0:=bt_at a0 0
      clear p6
      have qi6 : (0 < (a0.size : Int)) = True:=eq_true (of_decide_eq_true (by first|(with_reducible assumption)|assumption))
      replace q6:=eq_true q6
      go_wp2
      go_meet
      case rel=>exact ⟨_,(true),(by first|rfl|(simp;done)|(simp [*];done)),H',⟨by first|omega|exact Nat.le_refl _⟩,by repeat (first|exact Drawn0.refl _|apply Drawn0.step)⟩
     ·rw [if_neg c7] at H
      have c7b0 : ((bt a0 0) == 45) = false:=beq_eq_false_iff_ne.mpr c7
      have c7b1 : ((bt a0 0) != 45) = true:=bne_iff_ne.mpr c7
      obtain ⟨ji8,hji8⟩ : ∃ j_ : Int,(wrap64 ((a0.size : Int) - 1)) = j_:=⟨_,rfl⟩
      replace H : (if 0 ≤ (ji8) then (if (ji8) < (a0.size : Int) then (dns_Label.j0 k a0 ((bt a0 (ji8)) == 45)) else (none)) else (none)) = some r:=by first|(rw [hji8] at H;exact H)|(simp only [hji8] at H ⊢;exact H)
      have hji8w : (IntKind.i64.wrap ((a0.size : Int) - 1)) = ji8:=(i64_w _).trans hji8
      by_cases c9 : 0 ≤ (ji8)
      ·rw [if_pos c9] at H
       have c9b0 : decide (0 ≤ (ji8)) = true:=decide_eq_true c9
       clear c9
       by_cases c10 : (ji8) < (a0.size : Int)
       ·rw [if_pos c10] at H
        have c10b0 : decide ((ji8) < (a0.size : Int)) = true:=decide_eq_true c10
        clear c10
        have H':=Aside0.mk H
        clear H
        have p6 : 0 ≤ (0 : Int):=(by omega)
        have q6 : 0 < a0.size:=(by have : (0 : Int) < (a0.size : Int):=of_decide_eq_true (by first|(with_reducible assumption)|assumption);omega)
        have hx6 : ∀ h : 0 < a0.size,((a0[0]'h).toNat : Int) = bt a0 0:=bt_at a0 0
        clear p6
        have qi6 : (0 < (a0.size : Int)) = True:=eq_true (of_decide_eq_true (by first|(with_reducible assumption)|assumption))
        replace q6:=eq_true q6
        have p11 : 0 ≤ ((ji8) : Int):=of_decide_eq_true (by first|(with_reducible assumption)|assumption)
        have q11 : (ji8) < (a0.size : Int):=of_decide_eq_true (by first|(with_reducible assumption)|assumption)
        have hx11:=bt_at a0 (ji8)
        replace p11:=eq_true p11
        replace q11:=eq_true q11
        go_wp2
        go_meet
        case rel=>exact ⟨_,(((bt a0 (ji8)) == 45)),(by first|rfl|(simp;done)|(simp only [← hji8] <;> (first|rfl|simp))|(simp [*];done)),H',⟨by first|omega|exact Nat.le_refl _⟩,by repeat (first|exact Drawn0.refl _|apply Drawn0.step)⟩
       ·rw [if_neg c10] at H
        exact absurd H (by simp)
      ·rw [if_neg c9] at H
       exact absurd H (by simp)
    ·rw [if_neg c5] at H
     exact absurd H (by simp)
 case rest =>
  clear HC2
  try clear c1
  try clear p1
  try clear q1
  try clear hx1
  try clear p2
  try clear c3
  try clear c3b0
  try clear c3b1
  try clear c4
  try clear c4b0
  try clear c4b1
  try clear c5
  try clear c5b0
  try clear c5b1
  try clear p6
  try clear q6
  try clear hx6
  try clear qi6
  try clear c7
  try clear c7b0
  try clear c7b1
  try clear c9
  try clear c9b0
  try clear c10
  try clear c10b0
  try clear p11
  try clear q11
  try clear hx11
  try clear p11
  try clear p6
  try clear q11
  try clear q6
  obtain ⟨kq,x23_1,rfl,HA,HJ1,⟨mc1,rfl⟩⟩:=hcut
  cases kq with
  | zero=>exact absurd HA.out (by simp [dns_Label.j0])
  | succ kj1 =>
   have H:=HA.out
   clear HA
   simp only [dns_Label.j0] at H
   by_cases c12 : x23_1 = true
   ·subst c12
    have H1 : (some false) = some r:=by rw [if_pos rfl] at H;exact H
    clear H
    have H:=H1
    clear H1
    obtain rfl:=Option.some.inj H
    go_wp2
    go_ret
    exact ⟨by first|rfl|(simp;done)|(simp [*];done),by repeat (first|exact Drawn0.refl _|apply Drawn0.step)⟩
   ·replace c12:=Bool.eq_false_iff.mpr c12
    subst c12
    have H1 : (dns_Label.l0 kj1 a0 (a0.size : Int) 0) = some r:=by rw [if_neg (show ¬ (false = true) by decide)] at H;exact H
    clear H
    have H:=H1
    clear H1
    have H':=Aside0.mk H
    clear H
    go_wp2
    go_loopg [26] kj1 (fun kq v26 w'=>∃ (x26_2 : Int),v26 = .int .i64 x26_2 ∧ Aside0 (dns_Label.l0 kq a0 (a0.size : Int) x26_2 = some r) ∧ Aside0 (kq ≤ kj1) ∧ Drawn0 w w')
    case atStart=>exact ⟨(0),(by first|rfl|(simp;done)|(simp [*];done)),H',⟨Nat.le_refl _⟩,by repeat (first|exact Drawn0.refl _|apply Drawn0.step)⟩
    case round =>
     clear H'
     try clear c1
     try clear p1
     try clear q1
     try clear hx1
     try clear p2
     try clear c3
     try clear c3b0
     try clear c3b1
     try clear c4
     try clear c4b0
     try clear c4b1
     try clear c5
     try clear c5b0
     try clear c5b1
     try clear p6
     try clear q6
     try clear hx6
     try clear qi6
     try clear c7
     try clear c7b0
     try clear c7b1
     try clear c9
     try clear c9b0
     try clear c10
     try clear c10b0
     try clear p11
     try clear q11
     try clear hx11
     try clear c12
     try clear p1
     try clear p11
     try clear p2
     try clear p6
     try clear q1
     try clear q11
     try clear q6
     obtain ⟨x26_2,rfl,HA,HK2,⟨m2,rfl⟩⟩:=hrel
     cases gk with
     | zero=>exact absurd HA.out (by simp [dns_Label.l0])
     | succ k2 =>
      have H:=HA.out
      clear HA
      simp only [dns_Label.l0] at H
      by_cases c13 : x26_2 < (a0.size : Int)
      ·rw [if_pos c13] at H
       have c13b0 : decide (x26_2 < (a0.size : Int)) = true:=decide_eq_true c13
       clear c13
       by_cases c14 : 0 ≤ x26_2
       ·rw [if_pos c14] at H
        have c14b0 : decide (0 ≤ x26_2) = true:=decide_eq_true c14
        clear c14
        by_cases c15 : x26_2 < (a0.size : Int)
        ·rw [if_pos c15] at H
         have c15b0 : decide (x26_2 < (a0.size : Int)) = true:=decide_eq_true c15
         clear c15
         replace H:=Option.bind_eq_some_iff.mp H
         obtain ⟨t110,A170,H⟩:=H
         replace H : (if t110 = true then (dns_Label.l0 k2 a0 (a0.size : Int) (wrap64 (x26_2 + 1))) else ((dns_digit.f (bt a0 x26_2)).bind fun t111=>(if t111 = true then (dns_Label.l0 k2 a0 (a0.size : Int) (wrap64 (x26_2 + 1))) else (if (bt a0 x26_2) = 45 then (dns_Label.l0 k2 a0 (a0.size : Int) (wrap64 (x26_2 + 1))) else (some false))))) = some r:=H
         have A17:=Aside0.mk A170
         clear A170
         by_cases c18 : t110 = true
         ·subst c18
          have H1 : (dns_Label.l0 k2 a0 (a0.size : Int) (wrap64 (x26_2 + 1))) = some r:=by rw [if_pos rfl] at H;exact H
          clear H
          have H:=H1
          clear H1
          have H':=Aside0.mk H
          clear H
          have p16 : 0 ≤ (x26_2 : Int):=of_decide_eq_true (by first|(with_reducible assumption)|assumption)
          have q16 : x26_2 < (a0.size : Int):=of_decide_eq_true (by first|(with_reducible assumption)|assumption)
          have hx16:=bt_at a0 x26_2
          replace p16:=eq_true p16
          replace q16:=eq_true q16
          go_wp2_with (first|((with_reducible refine gate_callee (f:=73) rfl ?_);refine goesL_ (some 32) rfl rfl Tryd.func73 (by kernel_rfl) rfl #[.int .u8 (bt a0 x26_2)] rfl (by (try simp only [List.map_toArray,List.map_cons,List.map_nil]);first|done|rfl|(simp only [List.length_drop,List.length_take];rfl)|(simp (disch:=first|omega|(simp at *;omega)) only [u64_id,i64_id,u8_id];rfl)) ?_;(with_reducible refine (dns_small.calls (bt a0 x26_2) true _ A17.out).mono ?_);rintro e w' ⟨rfl,⟨nd,rfl⟩⟩;refine ⟨_,rfl,?_⟩))
          go_roundg k2
          case measure=>have:=HJ1.out;have:=HK2.out;omega
          case rel=>exact ⟨(wrap64 (x26_2 + 1)),(by first|rfl|(simp;done)|(simp [*];done)),H',⟨by have:=HJ1.out;have:=HK2.out;omega⟩,by repeat (first|exact Drawn0.refl _|apply Drawn0.step)⟩
         ·replace c18:=Bool.eq_false_iff.mpr c18
          subst c18
          have H1 : ((dns_digit.f (bt a0 x26_2)).bind fun t111=>(if t111 = true then (dns_Label.l0 k2 a0 (a0.size : Int) (wrap64 (x26_2 + 1))) else (if (bt a0 x26_2) = 45 then (dns_Label.l0 k2 a0 (a0.size : Int) (wrap64 (x26_2 + 1))) else (some false)))) = some r:=by rw [if_neg (show ¬ (false = true) by decide)] at H;exact H
          clear H
          have H:=H1
          clear H1
          replace H:=Option.bind_eq_some_iff.mp H
          obtain ⟨t111,A200,H⟩:=H
          replace H : (if t111 = true then (dns_Label.l0 k2 a0 (a0.size : Int) (wrap64 (x26_2 + 1))) else (if (bt a0 x26_2) = 45 then (dns_Label.l0 k2 a0 (a0.size : Int) (wrap64 (x26_2 + 1))) else (some false))) = some r:=H
          have A20:=Aside0.mk A200
          clear A200
          by_cases c21 : t111 = true
          ·subst c21
           have H1 : (dns_Label.l0 k2 a0 (a0.size : Int) (wrap64 (x26_2 + 1))) = some r:=by rw [if_pos rfl] at H;exact H
           clear H
           have H:=H1
           clear H1
           have H':=Aside0.mk H
           clear H
           have p16 : 0 ≤ (x26_2 : Int):=of_decide_eq_true (by first|(with_reducible assumption)|assumption)
           have q16 : x26_2 < (a0.size : Int):=of_decide_eq_true (by first|(with_reducible assumption)|assumption)
           have hx16:=bt_at a0 x26_2
           replace p16:=eq_true p16
           replace q16:=eq_true q16
           go_wp2_with (first|((with_reducible refine gate_callee (f:=73) rfl ?_);refine goesL_ (some 32) rfl rfl Tryd.func73 (by kernel_rfl) rfl #[.int .u8 (bt a0 x26_2)] rfl (by (try simp only [List.map_toArray,List.map_cons,List.map_nil]);first|done|rfl|(simp only [List.length_drop,List.length_take];rfl)|(simp (disch:=first|omega|(simp at *;omega)) only [u64_id,i64_id,u8_id];rfl)) ?_;(with_reducible refine (dns_small.calls (bt a0 x26_2) false _ A17.out).mono ?_);rintro e w' ⟨rfl,⟨nd,rfl⟩⟩;refine ⟨_,rfl,?_⟩;have p19 : 0 ≤ (x26_2 : Int):=of_decide_eq_true (by first|(with_reducible assumption)|assumption);have q19 : x26_2 < (a0.size : Int):=of_decide_eq_true (by first|(with_reducible assumption)|assumption);have hx19:=bt_at a0 x26_2;replace p19:=eq_true p19;replace q19:=eq_true q19)|(go_at_call 74;(with_reducible refine (dns_digit.calls (bt a0 x26_2) true _ A20.out).mono ?_);rintro e w' ⟨rfl,⟨nd,rfl⟩⟩))
           go_roundg k2
           case measure=>have:=HJ1.out;have:=HK2.out;omega
           case rel=>exact ⟨(wrap64 (x26_2 + 1)),(by first|rfl|(simp;done)|(simp [*];done)),H',⟨by have:=HJ1.out;have:=HK2.out;omega⟩,by repeat (first|exact Drawn0.refl _|apply Drawn0.step)⟩
          ·replace c21:=Bool.eq_false_iff.mpr c21
           subst c21
           have H1 : (if (bt a0 x26_2) = 45 then (dns_Label.l0 k2 a0 (a0.size : Int) (wrap64 (x26_2 + 1))) else (some false)) = some r:=by rw [if_neg (show ¬ (false = true) by decide)] at H;exact H
           clear H
           have H:=H1
           clear H1
           by_cases c23 : (bt a0 x26_2) = 45
           ·rw [if_pos c23] at H
            have c23b0 : ((bt a0 x26_2) == 45) = true:=beq_iff_eq.mpr c23
            have c23b1 : ((bt a0 x26_2) != 45) = false:=bne_eq_false_iff_eq.mpr c23
            clear c23
            have H':=Aside0.mk H
            clear H
            have p16 : 0 ≤ (x26_2 : Int):=of_decide_eq_true (by first|(with_reducible assumption)|assumption)
            have q16 : x26_2 < (a0.size : Int):=of_decide_eq_true (by first|(with_reducible assumption)|assumption)
            have hx16:=bt_at a0 x26_2
            replace p16:=eq_true p16
            replace q16:=eq_true q16
            go_wp2_with (first|((with_reducible refine gate_callee (f:=73) rfl ?_);refine goesL_ (some 32) rfl rfl Tryd.func73 (by kernel_rfl) rfl #[.int .u8 (bt a0 x26_2)] rfl (by (try simp only [List.map_toArray,List.map_cons,List.map_nil]);first|done|rfl|(simp only [List.length_drop,List.length_take];rfl)|(simp (disch:=first|omega|(simp at *;omega)) only [u64_id,i64_id,u8_id];rfl)) ?_;(with_reducible refine (dns_small.calls (bt a0 x26_2) false _ A17.out).mono ?_);rintro e w' ⟨rfl,⟨nd,rfl⟩⟩;refine ⟨_,rfl,?_⟩;have p19 : 0 ≤ (x26_2 : Int):=of_decide_eq_true (by first|(with_reducible assumption)|assumption);have q19 : x26_2 < (a0.size : Int):=of_decide_eq_true (by first|(with_reducible assumption)|assumption);have hx19:=bt_at a0 x26_2;replace p19:=eq_true p19;replace q19:=eq_true q19)|(go_at_call 74;(with_reducible refine (dns_digit.calls (bt a0 x26_2) false _ A20.out).mono ?_);rintro e w' ⟨rfl,⟨nd,rfl⟩⟩;have p22 : 0 ≤ (x26_2 : Int):=of_decide_eq_true (by first|(with_reducible assumption)|assumption);have q22 : x26_2 < (a0.size : Int):=of_decide_eq_true (by first|(with_reducible assumption)|assumption);have hx22:=bt_at a0 x26_2;replace p22:=eq_true p22;replace q22:=eq_true q22))
            go_roundg k2
            case measure=>have:=HJ1.out;have:=HK2.out;omega
            case rel=>exact ⟨(wrap64 (x26_2 + 1)),(by first|rfl|(simp;done)|(simp [*];done)),H',⟨by have:=HJ1.out;have:=HK2.out;omega⟩,by repeat (first|exact Drawn0.refl _|apply Drawn0.step)⟩
           ·rw [if_neg c23] at H
            have c23b0 : ((bt a0 x26_2) == 45) = false:=beq_eq_false_iff_ne.mpr c23
            have c23b1 : ((bt a0 x26_2) != 45) = true:=bne_iff_ne.mpr c23
            obtain rfl:=Option.some.inj H
            have p16 : 0 ≤ (x26_2 : Int):=of_decide_eq_true (by first|(with_reducible assumption)|assumption)
            have q16 : x26_2 < (a0.size : Int):=of_decide_eq_true (by first|(with_reducible assumption)|assumption)
            have hx16:=bt_at a0 x26_2
            replace p16:=eq_true p16
            replace q16:=eq_true q16
            go_wp2_with (first|((with_reducible refine gate_callee (f:=73) rfl ?_);refine goesL_ (some 32) rfl rfl Tryd.func73 (by kernel_rfl) rfl #[.int .u8 (bt a0 x26_2)] rfl (by (try simp only [List.map_toArray,List.map_cons,List.map_nil]);first|done|rfl|(simp only [List.length_drop,List.length_take];rfl)|(simp (disch:=first|omega|(simp at *;omega)) only [u64_id,i64_id,u8_id];rfl)) ?_;(with_reducible refine (dns_small.calls (bt a0 x26_2) false _ A17.out).mono ?_);rintro e w' ⟨rfl,⟨nd,rfl⟩⟩;refine ⟨_,rfl,?_⟩;have p19 : 0 ≤ (x26_2 : Int):=of_decide_eq_true (by first|(with_reducible assumption)|assumption);have q19 : x26_2 < (a0.size : Int):=of_decide_eq_true (by first|(with_reducible assumption)|assumption);have hx19:=bt_at a0 x26_2;replace p19:=eq_true p19;replace q19:=eq_true q19)|(go_at_call 74;(with_reducible refine (dns_digit.calls (bt a0 x26_2) false _ A20.out).mono ?_);rintro e w' ⟨rfl,⟨nd,rfl⟩⟩;have p22 : 0 ≤ (x26_2 : Int):=of_decide_eq_true (by first|(with_reducible assumption)|assumption);have q22 : x26_2 < (a0.size : Int):=of_decide_eq_true (by first|(with_reducible assumption)|assumption);have hx22:=bt_at a0 x26_2;replace p22:=eq_true p22;replace q22:=eq_true q22))
            go_ret
            exact ⟨by first|rfl|(simp;done)|(simp [*];done),by repeat (first|exact Drawn0.refl _|apply Drawn0.step)⟩
        ·rw [if_neg c15] at H
         exact absurd H (by simp)
       ·rw [if_neg c14] at H
        exact absurd H (by simp)
      ·rw [if_neg c13] at H
       have c13b0 : decide (x26_2 < (a0.size : Int)) = false:=decide_eq_false c13
       clear c13
       obtain rfl:=Option.some.inj H
       go_wp2
       go_ret
       exact ⟨by first|rfl|(simp;done)|(simp [*];done),by repeat (first|exact Drawn0.refl _|apply Drawn0.step)⟩

/-! ### dns_great: function 75 -/
def dns_great.f (a0 : Int) : Option (Bool):=if a0 ≥ 65 then (some (decide (a0 ≤ 90))) else (some false)
set_option maxHeartbeats 8000000 in
set_option maxRecDepth 100000 in
theorem dns_great.calls (a0 : Int) (r : Bool) (w : World) (h : dns_great.f a0 = some r) :
  Calls Tryd.prog 75 #[.int .u8 a0] w fun e w'=>e = .returned (.bool r) ∧ Drawn0 w w':=by
 have H : (if a0 ≥ 65 then (some (decide (a0 ≤ 90))) else (some false)) = some r:=h
 clear h
 by_cases c2 : a0 ≥ 65
 ·rw [if_pos c2] at H
  have c2b0 : decide (65 ≤ a0) = true:=decide_eq_true c2
  clear c2
  obtain rfl:=Option.some.inj H
  go_enter Tryd.func75,Tryd.ntmps75
  go_wp2
  go_ret
  exact ⟨by first|rfl|(simp;done)|(simp [*];done),by repeat (first|exact Drawn0.refl _|apply Drawn0.step)⟩
 ·rw [if_neg c2] at H
  have c2b0 : decide (65 ≤ a0) = false:=decide_eq_false c2
  clear c2
  obtain rfl:=Option.some.inj H
  go_enter Tryd.func75,Tryd.ntmps75
  go_wp2
  go_ret
  exact ⟨by first|rfl|(simp;done)|(simp [*];done),by repeat (first|exact Drawn0.refl _|apply Drawn0.step)⟩

end Go.Proofs.YtpmbdcljphpcnaaDoor.GC2
