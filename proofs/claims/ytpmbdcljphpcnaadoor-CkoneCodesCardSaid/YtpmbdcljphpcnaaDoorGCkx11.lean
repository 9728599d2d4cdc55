/- Written by this session's own program (wip/gen.py) out of the translation: plain Lean functions of the Go functions, and proofs that the calls come to their answers. No conditions beside those in the statements. -/
import Derived.Test.YtpmbdcljphpcnaaDoorGCkx0
import Derived.Test.YtpmbdcljphpcnaaDoorGCkx10
namespace Go.Proofs.YtpmbdcljphpcnaaDoor.GCk
open Go.RowKit Go.Proofs.YtpmbdcljphpcnaaDoorW.PrintWords Go.Proofs.YtpmbdcljphpcnaaDoorW.PrintLast
set_option linter.unusedVariables false
set_option linter.unusedSimpArgs false

/-! ### bosunref13_all: function 65 -/
def bosunref13_all.l0 : Nat → ByteArray → ByteArray → Int → Option (Bool)
 | 0,_,_,_=>none
 | k + 1,x0,x1,x5=>if x5 < (x0.size : Int) then (if 0 ≤ x5 then ((bosunref13_in.f k (bt x0 x5) x1).bind fun t152=>(if t152 = true then (bosunref13_all.l0 k x0 x1 (wrap64 (x5 + 1))) else (some false))) else (none)) else (some true)
def bosunref13_all.f (k : Nat) (a0 : ByteArray) (a1 : ByteArray) : Option (Bool):=bosunref13_all.l0 k a0 a1 0
theorem bosunref13_all.mono_l : ∀ k,(∀ y0 y1 y2,LeO (bosunref13_all.l0 k y0 y1 y2) (bosunref13_all.l0 (k + 1) y0 y1 y2))
 | 0=>fun _ _ _ r h=>by simp [bosunref13_all.l0] at h
 | k + 1=>by
  have ih0:=bosunref13_all.mono_l k
  ·intro y0 y1 y2
   unfold bosunref13_all.l0
   repeat' first
   | (with_reducible exact ih0 _ _ _)
   | (with_reducible exact bosunref13_in.mono _ _ _)
   | (with_reducible exact LeO.refl _)
   | (with_reducible exact LeO.none _)
   | (with_reducible refine LeO.ite ?_ ?_)
   | (with_reducible refine LeO.bind ?_ (fun _=>?_))
   | exact ih0 _ _ _
   | exact bosunref13_in.mono _ _ _
   | exact LeO.none _
   | refine LeO.ite ?_ ?_
   | refine LeO.bind ?_ (fun _=>?_)
theorem bosunref13_all.mono : ∀ a0 a1 k,LeO (bosunref13_all.f k a0 a1) (bosunref13_all.f (k + 1) a0 a1):=by
 intro a0 a1 k
 have ih0:=bosunref13_all.mono_l k
 unfold bosunref13_all.f
 repeat' first
   | (with_reducible exact ih0 _ _ _)
   | (with_reducible exact bosunref13_in.mono _ _ _)
   | (with_reducible exact LeO.refl _)
   | (with_reducible exact LeO.none _)
   | (with_reducible refine LeO.ite ?_ ?_)
   | (with_reducible refine LeO.bind ?_ (fun _=>?_))
   | exact ih0 _ _ _
   | exact bosunref13_in.mono _ _ _
   | exact LeO.none _
   | refine LeO.ite ?_ ?_
   | refine LeO.bind ?_ (fun _=>?_)
set_option maxHeartbeats 8000000 in
set_option maxRecDepth 100000 in
theorem bosunref13_all.calls (k : Nat) (a0 : ByteArray) (a1 : ByteArray) (r : Bool) (w : World) (h : bosunref13_all.f k a0 a1 = some r) :
  Calls Tryd.prog 65 #[.string a0,.string a1] w fun e w'=>e = .returned (.bool r) ∧ Drawn0 w w':=by
 have H : (bosunref13_all.l0 k a0 a1 0) = some r:=h
 clear h
 have H':=Aside0.mk H
 clear H
 go_enter Tryd.func65,Tryd.ntmps65
 go_wp2
 go_loopg [5] k (fun kq v5 w'=>∃ (x5_1 : Int),v5 = .int .i64 x5_1 ∧ Aside0 (bosunref13_all.l0 kq a0 a1 x5_1 = some r) ∧ Aside0 (kq ≤ k) ∧ Drawn0 w w')
 case atStart=>exact ⟨(0),(by first|rfl|(simp;done)|(simp [*];done)),H',⟨Nat.le_refl _⟩,by repeat (first|exact Drawn0.refl _|apply Drawn0.step)⟩
 case round =>
  clear H'
  try clear p2
  obtain ⟨x5_1,rfl,HA,HK1,⟨m1,rfl⟩⟩:=hrel
  cases gk with
  | zero=>exact absurd HA.out (by simp [bosunref13_all.l0])
  | succ k1 =>
   have H:=HA.out
   clear HA
   simp only [bosunref13_all.l0] at H
   by_cases c3 : x5_1 < (a0.size : Int)
   ·rw [if_pos c3] at H
    have c3b0 : decide (x5_1 < (a0.size : Int)) = true:=decide_eq_true c3
    clear c3
    by_cases c4 : 0 ≤ x5_1
    ·rw [if_pos c4] at H
     have c4b0 : decide (0 ≤ x5_1) = true:=decide_eq_true c4
     clear c4
     replace H:=Option.bind_eq_some_iff.mp H
     obtain ⟨t152,A60,H⟩:=H
     replace H : (if t152 = true then (bosunref13_all.l0 k1 a0 a1 (wrap64 (x5_1 + 1))) else (some false)) = some r:=H
     have A6:=Aside0.mk A60
     clear A60
     by_cases c7 : t152 = true
     ·subst c7
      have H1 : (bosunref13_all.l0 k1 a0 a1 (wrap64 (x5_1 + 1))) = some r:=by rw [if_pos rfl] at H;exact H
      clear H
      have H:=H1
      clear H1
      have H':=Aside0.mk H
      clear H
      have p5 : 0 ≤ (x5_1 : Int):=of_decide_eq_true (by first|(with_reducible assumption)|assumption)
      have q5 : x5_1 < (a0.size : Int):=of_decide_eq_true (by first|(with_reducible assumption)|assumption)
      have hx5:=bt_at a0 x5_1
      replace p5:=eq_true p5
      replace q5:=eq_true q5
      go_wp2_with (first|((with_reducible refine gate_callee (f:=69) rfl ?_);refine goesL_ (some 16) rfl rfl Tryd.func69 (by kernel_rfl) rfl #[.int .u8 (bt a0 x5_1),.string a1] rfl (by (try simp only [List.map_toArray,List.map_cons,List.map_nil]);first|done|rfl|(simp only [List.length_drop,List.length_take];rfl)|(simp (disch:=first|omega|(simp at *;omega)) only [u64_id,i64_id,u8_id];rfl)) ?_;(with_reducible refine (bosunref13_in.calls k1 (bt a0 x5_1) a1 true _ A6.out).mono ?_);rintro e w' ⟨rfl,⟨nd,rfl⟩⟩;refine ⟨_,rfl,?_⟩))
      go_roundg k1
      case measure=>have:=HK1.out;omega
      case rel=>exact ⟨(wrap64 (x5_1 + 1)),(by first|rfl|(simp;done)|(simp [*];done)),H',⟨by have:=HK1.out;omega⟩,by repeat (first|exact Drawn0.refl _|apply Drawn0.step)⟩
     ·replace c7:=Bool.eq_false_iff.mpr c7
      subst c7
      have H1 : (some false) = some r:=by rw [if_neg (show ¬ (false = true) by decide)] at H;exact H
      clear H
      have H:=H1
      clear H1
      obtain rfl:=Option.some.inj H
      have p5 : 0 ≤ (x5_1 : Int):=of_decide_eq_true (by first|(with_reducible assumption)|assumption)
      have q5 : x5_1 < (a0.size : Int):=of_decide_eq_true (by first|(with_reducible assumption)|assumption)
      have hx5:=bt_at a0 x5_1
      replace p5:=eq_true p5
      replace q5:=eq_true q5
      go_wp2_with (first|((with_reducible refine gate_callee (f:=69) rfl ?_);refine goesL_ (some 16) rfl rfl Tryd.func69 (by kernel_rfl) rfl #[.int .u8 (bt a0 x5_1),.string a1] rfl (by (try simp only [List.map_toArray,List.map_cons,List.map_nil]);first|done|rfl|(simp only [List.length_drop,List.length_take];rfl)|(simp (disch:=first|omega|(simp at *;omega)) only [u64_id,i64_id,u8_id];rfl)) ?_;(with_reducible refine (bosunref13_in.calls k1 (bt a0 x5_1) a1 false _ A6.out).mono ?_);rintro e w' ⟨rfl,⟨nd,rfl⟩⟩;refine ⟨_,rfl,?_⟩))
      go_ret
      exact ⟨by first|rfl|(simp;done)|(simp [*];done),by repeat (first|exact Drawn0.refl _|apply Drawn0.step)⟩
    ·rw [if_neg c4] at H
     exact absurd H (by simp)
   ·rw [if_neg c3] at H
    have c3b0 : decide (x5_1 < (a0.size : Int)) = false:=decide_eq_false c3
    clear c3
    obtain rfl:=Option.some.inj H
    go_wp2
    go_ret
    exact ⟨by first|rfl|(simp;done)|(simp [*];done),by repeat (first|exact Drawn0.refl _|apply Drawn0.step)⟩

/-! ### bosunref13_Small: function 66 -/
def bosunref13_Small.f  : Option (ByteArray):=some (⟨#[97,98,99,100,101,102,103,104,105,106,107,108,109,110,111,112,113,114,115,116,117,118,119,120,121,122]⟩ : ByteArray)
set_option maxHeartbeats 8000000 in
set_option maxRecDepth 100000 in
theorem bosunref13_Small.calls  (r : ByteArray) (w : World) (h : bosunref13_Small.f  = some r) :
  Calls Tryd.prog 66 #[] w fun e w'=>e = .returned (.string r) ∧ Drawn0 w w':=by
 have H : (some (⟨#[97,98,99,100,101,102,103,104,105,106,107,108,109,110,111,112,113,114,115,116,117,118,119,120,121,122]⟩ : ByteArray)) = some r:=h
 clear h
 obtain rfl:=Option.some.inj H
 go_enter Tryd.func66,Tryd.ntmps66
 go_wp2
 go_ret
 exact ⟨by first|rfl|(simp;done)|(simp [*];done),by repeat (first|exact Drawn0.refl _|apply Drawn0.step)⟩

/-! ### bosunref13_Digits: function 68 -/
def bosunref13_Digits.f  : Option (ByteArray):=some (⟨#[48,49,50,51,52,53,54,55,56,57]⟩ : ByteArray)
set_option maxHeartbeats 8000000 in
set_option maxRecDepth 100000 in
theorem bosunref13_Digits.calls  (r : ByteArray) (w : World) (h : bosunref13_Digits.f  = some r) :
  Calls Tryd.prog 68 #[] w fun e w'=>e = .returned (.string r) ∧ Drawn0 w w':=by
 have H : (some (⟨#[48,49,50,51,52,53,54,55,56,57]⟩ : ByteArray)) = some r:=h
 clear h
 obtain rfl:=Option.some.inj H
 go_enter Tryd.func68,Tryd.ntmps68
 go_wp2
 go_ret
 exact ⟨by first|rfl|(simp;done)|(simp [*];done),by repeat (first|exact Drawn0.refl _|apply Drawn0.step)⟩

/-! ### bosunref13_Label: function 54 -/
def bosunref13_Label.f (k : Nat) (a0 : ByteArray) : Option (Bool):=if (a0.size : Int) ≥ 1 then (if (a0.size : Int) ≤ 63 then ((bosunref13_Small.f).bind fun t153=>((bosunref13_Digits.f).bind fun t154=>(if t153.size + t154.size ≤ 9223372036854775807 then (if (t153 ++ t154).size + 1 ≤ 9223372036854775807 then ((bosunref13_all.f k a0 ((t153 ++ t154) ++ (⟨#[45]⟩ : ByteArray))).bind fun t155=>(if t155 = true then (if 0 < (a0.size : Int) then (if (bt a0 0) = 45 then (some false) else (if 0 ≤ (wrap64 ((a0.size : Int) - 1)) then (if (wrap64 ((a0.size : Int) - 1)) < (a0.size : Int) then (some ((bt a0 (wrap64 ((a0.size : Int) - 1))) != 45)) else (none)) else (none))) else (none)) else (some false))) else (none)) else (none)))) else (some false)) else (some false)
theorem bosunref13_Label.mono : ∀ a0 k,LeO (bosunref13_Label.f k a0) (bosunref13_Label.f (k + 1) a0):=by
 intro a0 k
 unfold bosunref13_Label.f
 repeat' first
   | (with_reducible exact bosunref13_all.mono _ _ _)
   | (with_reducible exact LeO.refl _)
   | (with_reducible exact LeO.none _)
   | (with_reducible refine LeO.ite ?_ ?_)
   | (with_reducible refine LeO.bind ?_ (fun _=>?_))
   | exact bosunref13_all.mono _ _ _
   | exact LeO.none _
   | refine LeO.ite ?_ ?_
   | refine LeO.bind ?_ (fun _=>?_)
set_option maxHeartbeats 8000000 in
set_option maxRecDepth 100000 in
theorem bosunref13_Label.calls (k : Nat) (a0 : ByteArray) (r : Bool) (w : World) (h : bosunref13_Label.f k a0 = some r) :
  Calls Tryd.prog 54 #[.string a0] w fun e w'=>e = .returned (.bool r) ∧ Drawn0 w w':=by
 have H : (if (a0.size : Int) ≥ 1 then (if (a0.size : Int) ≤ 63 then ((bosunref13_Small.f).bind fun t153=>((bosunref13_Digits.f).bind fun t154=>(if t153.size + t154.size ≤ 9223372036854775807 then (if (t153 ++ t154).size + 1 ≤ 9223372036854775807 then ((bosunref13_all.f k a0 ((t153 ++ t154) ++ (⟨#[45]⟩ : ByteArray))).bind fun t155=>(if t155 = true then (if 0 < (a0.size : Int) then (if (bt a0 0) = 45 then (some false) else (if 0 ≤ (wrap64 ((a0.size : Int) - 1)) then (if (wrap64 ((a0.size : Int) - 1)) < (a0.size : Int) then (some ((bt a0 (wrap64 ((a0.size : Int) - 1))) != 45)) else (none)) else (none))) else (none)) else (some false))) else (none)) else (none)))) else (some false)) else (some false)) = some r:=h
 clear h
 by_cases c2 : (a0.size : Int) ≥ 1
 ·rw [if_pos c2] at H
  have c2b0 : decide (1 ≤ (a0.size : Int)) = true:=decide_eq_true c2
  have c2b1 : decide (1 ≤ a0.size) = true:=decide_eq_true (by omega)
  clear c2
  by_cases c3 : (a0.size : Int) ≤ 63
  ·rw [if_pos c3] at H
   have c3b0 : decide ((a0.size : Int) ≤ 63) = true:=decide_eq_true c3
   have c3b1 : decide (a0.size ≤ 63) = true:=decide_eq_true (by omega)
   clear c3
   replace H:=Option.bind_eq_some_iff.mp H
   obtain ⟨t153,A40,H⟩:=H
   replace H : ((bosunref13_Digits.f).bind fun t154=>(if t153.size + t154.size ≤ 9223372036854775807 then (if (t153 ++ t154).size + 1 ≤ 9223372036854775807 then ((bosunref13_all.f k a0 ((t153 ++ t154) ++ (⟨#[45]⟩ : ByteArray))).bind fun t155=>(if t155 = true then (if 0 < (a0.size : Int) then (if (bt a0 0) = 45 then (some false) else (if 0 ≤ (wrap64 ((a0.size : Int) - 1)) then (if (wrap64 ((a0.size : Int) - 1)) < (a0.size : Int) then (some ((bt a0 (wrap64 ((a0.size : Int) - 1))) != 45)) else (none)) else (none))) else (none)) else (some false))) else (none)) else (none))) = some r:=H
   have A4:=Aside0.mk A40
   clear A40
   replace H:=Option.bind_eq_some_iff.mp H
   obtain ⟨t154,A50,H⟩:=H
   replace H : (if t153.size + t154.size ≤ 9223372036854775807 then (if (t153 ++ t154).size + 1 ≤ 9223372036854775807 then ((bosunref13_all.f k a0 ((t153 ++ t154) ++ (⟨#[45]⟩ : ByteArray))).bind fun t155=>(if t155 = true then (if 0 < (a0.size : Int) then (if (bt a0 0) = 45 then (some false) else (if 0 ≤ (wrap64 ((a0.size : Int) - 1)) then (if (wrap64 ((a0.size : Int) - 1)) < (a0.size : Int) then (some ((bt a0 (wrap64 ((a0.size : Int) - 1))) != 45)) else (none)) else (none))) else (none)) else (some false))) else (none)) else (none)) = some r:=H
   have A5:=Aside0.mk A50
   clear A50
   by_cases c6 : t153.size + t154.size ≤ 9223372036854775807
   ·rw [if_pos c6] at H
    have c6b0:=eq_true c6
    have c6b1 : decide (t153.size + t154.size ≤ 9223372036854775807) = true:=decide_eq_true c6
    try have c6b2 : (9223372036854775807 < t153.size + t154.size) = False:=eq_false (Nat.not_lt.2 c6)
    by_cases c7 : (t153 ++ t154).size + 1 ≤ 9223372036854775807
    ·rw [if_pos c7] at H
     have c7b0:=eq_true c7
     have c7b1 : decide ((t153 ++ t154).size + 1 ≤ 9223372036854775807) = true:=decide_eq_true c7
     try have c7b2 : (9223372036854775807 < (t153 ++ t154).size + 1) = False:=eq_false (Nat.not_lt.2 c7)
     have c7s:=c7
     try simp only [ByteArray.size_append] at c7s
     try have c7s0:=eq_false (Nat.not_lt.2 c7s)
     try have c7s1:=eq_true c7s
     replace H:=Option.bind_eq_some_iff.mp H
     obtain ⟨t155,A80,H⟩:=H
     replace H : (if t155 = true then (if 0 < (a0.size : Int) then (if (bt a0 0) = 45 then (some false) else (if 0 ≤ (wrap64 ((a0.size : Int) - 1)) then (if (wrap64 ((a0.size : Int) - 1)) < (a0.size : Int) then (some ((bt a0 (wrap64 ((a0.size : Int) - 1))) != 45)) else (none)) else (none))) else (none)) else (some false)) = some r:=H
     have A8:=Aside0.mk A80
     clear A80
     by_cases c9 : t155 = true
     ·subst c9
      have H1 : (if 0 < (a0.size : Int) then (if (bt a0 0) = 45 then (some false) else (if 0 ≤ (wrap64 ((a0.size : Int) - 1)) then (if (wrap64 ((a0.size : Int) - 1)) < (a0.size : Int) then (some ((bt a0 (wrap64 ((a0.size : Int) - 1))) != 45)) else (none)) else (none))) else (none)) = some r:=by rw [if_pos rfl] at H;exact H
      clear H
      have H:=H1
      clear H1
      by_cases c10 : 0 < (a0.size : Int)
      ·rw [if_pos c10] at H
       have c10b0 : decide (0 < (a0.size : Int)) = true:=decide_eq_true c10
       have c10b1 : decide (0 < a0.size) = true:=decide_eq_true (by omega)
       clear c10
       by_cases c12 : (bt a0 0) = 45
       ·rw [if_pos c12] at H
        have c12b0 : ((bt a0 0) == 45) = true:=beq_iff_eq.mpr c12
        have c12b1 : ((bt a0 0) != 45) = false:=bne_eq_false_iff_eq.mpr c12
        clear c12
        obtain rfl:=Option.some.inj H
        go_enter Tryd.func54,Tryd.ntmps54
        go_wp2_with (first|(go_at_call 66;(with_reducible refine (bosunref13_Small.calls  t153 _ A4.out).mono ?_);rintro e w' ⟨rfl,⟨nd,rfl⟩⟩)|(go_at_call 68;(with_reducible refine (bosunref13_Digits.calls  t154 _ A5.out).mono ?_);rintro e w' ⟨rfl,⟨nd,rfl⟩⟩)|(go_at_call 65;(with_reducible refine (bosunref13_all.calls k a0 ((t153 ++ t154) ++ (⟨#[45]⟩ : ByteArray)) true _ A8.out).mono ?_);rintro e w' ⟨rfl,⟨nd,rfl⟩⟩;have p11 : 0 ≤ (0 : Int):=(by omega);have q11 : 0 < a0.size:=(by have : (0 : Int) < (a0.size : Int):=of_decide_eq_true (by first|(with_reducible assumption)|assumption);omega);have hx11 : ∀ h : 0 < a0.size,((a0[0]'h).toNat : Int) = bt a0 0:=bt_at a0 0;clear p11;have qi11 : (0 < (a0.size : Int)) = True:=eq_true (of_decide_eq_true (by first|(with_reducible assumption)|assumption));replace q11:=eq_true q11))
        go_ret
        exact ⟨by first|rfl|(simp;done)|(simp [*];done),by repeat (first|exact Drawn0.refl _|apply Drawn0.step)⟩
       ·rw [if_neg c12] at H
        have c12b0 : ((bt a0 0) == 45) = false:=beq_eq_false_iff_ne.mpr c12
        have c12b1 : ((bt a0 0) != 45) = true:=bne_iff_ne.mpr c12
        obtain ⟨ji13,hji13⟩ : ∃ j_ : Int,(wrap64 ((a0.size : Int) - 1)) = j_:=⟨_,rfl⟩
        replace H : (if 0 ≤ (ji13) then (if (ji13) < (a0.size : Int) then (some ((bt a0 (ji13)) != 45)) else (none)) else (none)) = some r:=by first|(rw [hji13] at H;exact H)|(simp only [hji13] at H ⊢;exact H)
        (try rw [hji13] at A4)
        (try rw [hji13] at A5)
        (try rw [hji13] at A8)
        have hji13w : (IntKind.i64.wrap ((a0.size : Int) - 1)) = ji13:=(i64_w _).trans hji13
        by_cases c14 : 0 ≤ (ji13)
        ·rw [if_pos c14] at H
         have c14b0 : decide (0 ≤ (ji13)) = true:=decide_eq_true c14
         clear c14
         by_cases c15 : (ji13) < (a0.size : Int)
         ·rw [if_pos c15] at H
          have c15b0 : decide ((ji13) < (a0.size : Int)) = true:=decide_eq_true c15
          clear c15
          obtain rfl:=Option.some.inj H
          go_enter Tryd.func54,Tryd.ntmps54
          go_wp2_with (first|(go_at_call 66;(with_reducible refine (bosunref13_Small.calls  t153 _ A4.out).mono ?_);rintro e w' ⟨rfl,⟨nd,rfl⟩⟩)|(go_at_call 68;(with_reducible refine (bosunref13_Digits.calls  t154 _ A5.out).mono ?_);rintro e w' ⟨rfl,⟨nd,rfl⟩⟩)|(go_at_call 65;(with_reducible refine (bosunref13_all.calls k a0 ((t153 ++ t154) ++ (⟨#[45]⟩ : ByteArray)) true _ A8.out).mono ?_);rintro e w' ⟨rfl,⟨nd,rfl⟩⟩;have p11 : 0 ≤ (0 : Int):=(by omega);have q11 : 0 < a0.size:=(by have : (0 : Int) < (a0.size : Int):=of_decide_eq_true (by first|(with_reducible assumption)|assumption);omega);have hx11 : ∀ h : 0 < a0.size,((a0[0]'h).toNat : Int) = bt a0 0:=bt_at a0 0;clear p11;have qi11 : (0 < (a0.size : Int)) = True:=eq_true (of_decide_eq_true (by first|(with_reducible assumption)|assumption));replace q11:=eq_true q11;have p16 : 0 ≤ ((ji13) : Int):=of_decide_eq_true (by first|(with_reducible assumption)|assumption);have q16 : (ji13) < (a0.size : Int):=of_decide_eq_true (by first|(with_reducible assumption)|assumption);have hx16:=bt_at a0 (ji13);replace p16:=eq_true p16;replace q16:=eq_true q16))
          go_ret
          exact ⟨by first|rfl|(simp;done)|(simp only [← hji13] <;> (first|rfl|simp))|(simp [*];done),by repeat (first|exact Drawn0.refl _|apply Drawn0.step)⟩
         ·rw [if_neg c15] at H
          exact absurd H (by simp)
        ·rw [if_neg c14] at H
         exact absurd H (by simp)
      ·rw [if_neg c10] at H
       exact absurd H (by simp)
     ·replace c9:=Bool.eq_false_iff.mpr c9
      subst c9
      have H1 : (some false) = some r:=by rw [if_neg (show ¬ (false = true) by decide)] at H;exact H
      clear H
      have H:=H1
      clear H1
      obtain rfl:=Option.some.inj H
      go_enter Tryd.func54,Tryd.ntmps54
      go_wp2_with (first|(go_at_call 66;(with_reducible refine (bosunref13_Small.calls  t153 _ A4.out).mono ?_);rintro e w' ⟨rfl,⟨nd,rfl⟩⟩)|(go_at_call 68;(with_reducible refine (bosunref13_Digits.calls  t154 _ A5.out).mono ?_);rintro e w' ⟨rfl,⟨nd,rfl⟩⟩)|(go_at_call 65;(with_reducible refine (bosunref13_all.calls k a0 ((t153 ++ t154) ++ (⟨#[45]⟩ : ByteArray)) false _ A8.out).mono ?_);rintro e w' ⟨rfl,⟨nd,rfl⟩⟩))
      go_ret
      exact ⟨by first|rfl|(simp;done)|(simp [*];done),by repeat (first|exact Drawn0.refl _|apply Drawn0.step)⟩
    ·rw [if_neg c7] at H
     exact absurd H (by simp)
   ·rw [if_neg c6] at H
    exact absurd H (by simp)
  ·rw [if_neg c3] at H
   have c3b0 : decide ((a0.size : Int) ≤ 63) = false:=decide_eq_false c3
   have c3b1 : decide (a0.size ≤ 63) = false:=decide_eq_false (by omega)
   clear c3
   obtain rfl:=Option.some.inj H
   go_enter Tryd.func54,Tryd.ntmps54
   go_wp2
   go_ret
   exact ⟨by first|rfl|(simp;done)|(simp [*];done),by repeat (first|exact Drawn0.refl _|apply Drawn0.step)⟩
 ·rw [if_neg c2] at H
  have c2b0 : decide (1 ≤ (a0.size : Int)) = false:=decide_eq_false c2
  have c2b1 : decide (1 ≤ a0.size) = false:=decide_eq_false (by omega)
  clear c2
  obtain rfl:=Option.some.inj H
  go_enter Tryd.func54,Tryd.ntmps54
  go_wp2
  go_ret
  exact ⟨by first|rfl|(simp;done)|(simp [*];done),by repeat (first|exact Drawn0.refl _|apply Drawn0.step)⟩

/-! ### bosunref13_cut: function 64 -/
def bosunref13_cut.l0 : Nat → ByteArray → List ByteArray → Int → Int → Option (List ByteArray)
 | 0,_,_,_,_=>none
 | k + 1,x0,x3,x4,x5=>if x5 ≤ (x0.size : Int) then (if x5 = (x0.size : Int) then (if 0 ≤ x4 then (if x4 ≤ x5 then (if x3.length < 8796093022208 then (bosunref13_cut.l0 k x0 (x3 ++ [x0.extract (x4 : Int).toNat (x5 : Int).toNat]) (wrap64 (x5 + 1)) (wrap64 (x5 + 1))) else (none)) else (none)) else (none)) else (if 0 ≤ x5 then (if x5 < (x0.size : Int) then (if (bt x0 x5) = 46 then (if 0 ≤ x4 then (if x4 ≤ x5 then (if x3.length < 8796093022208 then (bosunref13_cut.l0 k x0 (x3 ++ [x0.extract (x4 : Int).toNat (x5 : Int).toNat]) (wrap64 (x5 + 1)) (wrap64 (x5 + 1))) else (none)) else (none)) else (none)) else (bosunref13_cut.l0 k x0 x3 x4 (wrap64 (x5 + 1)))) else (none)) else (none))) else (some x3)
def bosunref13_cut.f (k : Nat) (a0 : ByteArray) : Option (List ByteArray):=bosunref13_cut.l0 k a0 ([] : List ByteArray) 0 0
theorem bosunref13_cut.mono_l : ∀ k,(∀ y0 y1 y2 y3,LeO (bosunref13_cut.l0 k y0 y1 y2 y3) (bosunref13_cut.l0 (k + 1) y0 y1 y2 y3))
 | 0=>fun _ _ _ _ r h=>by simp [bosunref13_cut.l0] at h
 | k + 1=>by
  have ih0:=bosunref13_cut.mono_l k
  ·intro y0 y1 y2 y3
   unfold bosunref13_cut.l0
   repeat' first
   | (with_reducible exact ih0 _ _ _ _)
   | (with_reducible exact LeO.refl _)
   | (with_reducible exact LeO.none _)
   | (with_reducible refine LeO.ite ?_ ?_)
   | (with_reducible refine LeO.bind ?_ (fun _=>?_))
   | exact ih0 _ _ _ _
   | exact LeO.none _
   | refine LeO.ite ?_ ?_
   | refine LeO.bind ?_ (fun _=>?_)
theorem bosunref13_cut.mono : ∀ a0 k,LeO (bosunref13_cut.f k a0) (bosunref13_cut.f (k + 1) a0):=by
 intro a0 k
 have ih0:=bosunref13_cut.mono_l k
 unfold bosunref13_cut.f
 repeat' first
   | (with_reducible exact ih0 _ _ _ _)
   | (with_reducible exact LeO.refl _)
   | (with_reducible exact LeO.none _)
   | (with_reducible refine LeO.ite ?_ ?_)
   | (with_reducible refine LeO.bind ?_ (fun _=>?_))
   | exact ih0 _ _ _ _
   | exact LeO.none _
   | refine LeO.ite ?_ ?_
   | refine LeO.bind ?_ (fun _=>?_)
set_option maxHeartbeats 8000000 in
set_option maxRecDepth 100000 in
theorem bosunref13_cut.calls (k : Nat) (a0 : ByteArray) (r : List ByteArray) (w : World) (h : bosunref13_cut.f k a0 = some r) :
  Calls Tryd.prog 64 #[.string a0] w fun e w'=>∃ v0_ : Value,e = .returned (v0_) ∧ Kd.R Kd.string 9 w' w.heap.size (fun _=>True) v0_ r ∧ Below w.heap.size w w':=by
 have HB:=Aside0.mk (Below.refl w.heap.size w)
 have H : (bosunref13_cut.l0 k a0 ([] : List ByteArray) 0 0) = some r:=h
 clear h
 have H':=Aside0.mk H
 clear H
 go_enter Tryd.func64,Tryd.ntmps64
 go_wp2
 go_loopg [3,4,5] k (fun kq v3 v4 v5 w'=>∃ (x3_1 : List ByteArray) (x4_1 : Int) (x5_1 : Int),v4 = .int .i64 x4_1 ∧ v5 = .int .i64 x5_1 ∧ Aside0 (bosunref13_cut.l0 kq a0 x3_1 x4_1 x5_1 = some r) ∧ Aside0 (kq ≤ k) ∧ Aside0 (Kd.R Kd.string 9 w' w.heap.size (fun _=>True) v3 x3_1) ∧ Aside0 (Below w.heap.size w w'))
 case atStart=>exact ⟨(([] : List ByteArray)),(0),(0),(by first|rfl|(simp;done)|(simp [*];done)),(by first|rfl|(simp;done)|(simp [*];done)),H',⟨Nat.le_refl _⟩,⟨by first|exact Kd.R_nil _ _ _ _ _|exact Kd.N_nil _ _ _ _ _|exact Kd.V_nil _ _ _ _ _|exact Kd.Q_nil _ _ _ _ _|exact Kd.S_nil _ _ _ _ _⟩,⟨by repeat (first|(with_reducible first|exact HB.out|apply below_alloc|apply pw_below_drewN|apply below_drew1)|exact HB.out)⟩⟩
 case round =>
  clear H'
  obtain ⟨x3_1,x4_1,x5_1,rfl,rfl,HA,HK1,HO_3,HB⟩:=hrel
  cases gk with
  | zero=>exact absurd HA.out (by simp [bosunref13_cut.l0])
  | succ k1 =>
   have H:=HA.out
   clear HA
   simp only [bosunref13_cut.l0] at H
   by_cases c2 : x5_1 ≤ (a0.size : Int)
   ·rw [if_pos c2] at H
    have c2b0 : decide (x5_1 ≤ (a0.size : Int)) = true:=decide_eq_true c2
    clear c2
    by_cases c3 : x5_1 = (a0.size : Int)
    ·rw [if_pos c3] at H
     have c3b0 : (x5_1 == (a0.size : Int)) = true:=beq_iff_eq.mpr c3
     have c3b1 : (x5_1 != (a0.size : Int)) = false:=bne_eq_false_iff_eq.mpr c3
     clear c3
     by_cases c4 : 0 ≤ x4_1
     ·rw [if_pos c4] at H
      have c4b0:=eq_true c4
      have c4b1 : decide (0 ≤ x4_1) = true:=decide_eq_true c4
      clear c4
      by_cases c5 : x4_1 ≤ x5_1
      ·rw [if_pos c5] at H
       have c5b0:=eq_true c5
       have c5b1 : decide (x4_1 ≤ x5_1) = true:=decide_eq_true c5
       clear c5
       have c6b0:=eq_true (of_decide_eq_true (by first|(with_reducible assumption)|assumption) : x5_1 ≤ (a0.size : Int))
       by_cases c7 : x3_1.length < 8796093022208
       ·rw [if_pos c7] at H
        have LMc7:=Aside0.mk c7
        clear c7
        obtain ⟨y156,hy156⟩ : ∃ y_ : List ByteArray,y_ = (x3_1 ++ [a0.extract (x4_1 : Int).toNat (x5_1 : Int).toNat]):=⟨_,rfl⟩
        replace H : (bosunref13_cut.l0 k1 a0 y156 (wrap64 (x5_1 + 1)) (wrap64 (x5_1 + 1))) = some r:=by first|(rw [hy156];with_reducible exact H)|(have H2_:=(Option.bind_some _ _).symm.trans H;rw [hy156];with_reducible exact H2_)|(have H2_:=(Option.bind_some _ _).symm.trans H;with_reducible exact H2_)|with_reducible exact H|(rw [hy156];exact H)|exact H
        have Ny156:=Aside0.mk hy156
        clear hy156
        have H':=Aside0.mk H
        clear H
        go_wp2_with (first|((with_reducible refine gate_builtin (b:=.append) (xs:=#[.tmp 22,.tmp 27]) rfl ?_);at_builtin;refine Kd.R_append Kd.string (w0:=w) w.heap.size rfl (.tmp 22) (.tmp 27) 77 9 (.string ⟨#[]⟩) 16 rfl Tryd.underlying77 info9 rfl (by decide) (by omega) u3 x3_1 (a0.extract (x4_1 : Int).toNat (x5_1 : Int).toNat) [.string (a0.extract (x4_1 : Int).toNat (x5_1 : Int).toNat)] (fun _=>True) (fun _=>False) rfl rfl ?aP (fun _ hk=>hk.elim) ?aF ?aO ?aB ?aS ?aL ?_;(case aP=>exact rfl);(case aB=>exact (by repeat (first|(with_reducible first|exact HB.out|apply below_alloc|apply pw_below_drewN|apply below_drew1)|exact HB.out)));(case aF=>exact (fun _ _=>trivial));(case aO=>exact (by (with_reducible repeat (first|apply Kd.R_alloc|apply Kd.R_drewN|apply Kd.R_drew));exact HO_3.out));(case aS=>exact (below_size (by repeat (first|(with_reducible first|exact HB.out|apply below_alloc|apply pw_below_drewN|apply below_drew1)|exact HB.out))));(case aL=>have:=LMc7.out;omega);intro v157 w8 ho hb hg hat;rw [← Ny156.out] at ho;have n0_:=Aside0.mk (hb);have n1_:=Aside0.mk (ho);clear HB;clear HO_3;have HB:=n0_;have HO158:=n1_;clear n0_ n1_;clear ho hb hg hat))
        go_roundg k1
        case measure=>have:=HK1.out;omega
        case rel=>exact ⟨(y156),(wrap64 (x5_1 + 1)),(wrap64 (x5_1 + 1)),(by first|rfl|(simp;done)|(simp [*];done)),(by first|rfl|(simp;done)|(simp [*];done)),H',⟨by have:=HK1.out;omega⟩,⟨by (with_reducible repeat (first|apply Kd.R_alloc|apply Kd.R_drewN|apply Kd.R_drew));exact HO158.out⟩,⟨by repeat (first|(with_reducible first|exact HB.out|apply below_alloc|apply pw_below_drewN|apply below_drew1)|exact HB.out)⟩⟩
       ·rw [if_neg c7] at H
        exact absurd H (by simp)
      ·rw [if_neg c5] at H
       exact absurd H (by simp)
     ·rw [if_neg c4] at H
      exact absurd H (by simp)
    ·rw [if_neg c3] at H
     have c3b0 : (x5_1 == (a0.size : Int)) = false:=beq_eq_false_iff_ne.mpr c3
     have c3b1 : (x5_1 != (a0.size : Int)) = true:=bne_iff_ne.mpr c3
     by_cases c9 : 0 ≤ x5_1
     ·rw [if_pos c9] at H
      have c9b0 : decide (0 ≤ x5_1) = true:=decide_eq_true c9
      clear c9
      by_cases c10 : x5_1 < (a0.size : Int)
      ·rw [if_pos c10] at H
       have c10b0 : decide (x5_1 < (a0.size : Int)) = true:=decide_eq_true c10
       clear c10
       by_cases c12 : (bt a0 x5_1) = 46
       ·rw [if_pos c12] at H
        have c12b0 : ((bt a0 x5_1) == 46) = true:=beq_iff_eq.mpr c12
        have c12b1 : ((bt a0 x5_1) != 46) = false:=bne_eq_false_iff_eq.mpr c12
        clear c12
        by_cases c13 : 0 ≤ x4_1
        ·rw [if_pos c13] at H
         have c13b0:=eq_true c13
         have c13b1 : decide (0 ≤ x4_1) = true:=decide_eq_true c13
         clear c13
         by_cases c14 : x4_1 ≤ x5_1
         ·rw [if_pos c14] at H
          have c14b0:=eq_true c14
          have c14b1 : decide (x4_1 ≤ x5_1) = true:=decide_eq_true c14
          clear c14
          have c15b0:=eq_true (of_decide_eq_true (by first|(with_reducible assumption)|assumption) : x5_1 ≤ (a0.size : Int))
          by_cases c16 : x3_1.length < 8796093022208
          ·rw [if_pos c16] at H
           have LMc16:=Aside0.mk c16
           clear c16
           obtain ⟨y159,hy159⟩ : ∃ y_ : List ByteArray,y_ = (x3_1 ++ [a0.extract (x4_1 : Int).toNat (x5_1 : Int).toNat]):=⟨_,rfl⟩
           replace H : (bosunref13_cut.l0 k1 a0 y159 (wrap64 (x5_1 + 1)) (wrap64 (x5_1 + 1))) = some r:=by first|(rw [hy159];with_reducible exact H)|(have H2_:=(Option.bind_some _ _).symm.trans H;rw [hy159];with_reducible exact H2_)|(have H2_:=(Option.bind_some _ _).symm.trans H;with_reducible exact H2_)|with_reducible exact H|(rw [hy159];exact H)|exact H
           have Ny159:=Aside0.mk hy159
           clear hy159
           have H':=Aside0.mk H
           clear H
           have p11 : 0 ≤ (x5_1 : Int):=of_decide_eq_true (by first|(with_reducible assumption)|assumption)
           have q11 : x5_1 < (a0.size : Int):=of_decide_eq_true (by first|(with_reducible assumption)|assumption)
           have hx11:=bt_at a0 x5_1
           replace p11:=eq_true p11
           replace q11:=eq_true q11
           go_wp2_with (first|((with_reducible refine gate_builtin (b:=.append) (xs:=#[.tmp 22,.tmp 27]) rfl ?_);at_builtin;refine Kd.R_append Kd.string (w0:=w) w.heap.size rfl (.tmp 22) (.tmp 27) 77 9 (.string ⟨#[]⟩) 16 rfl Tryd.underlying77 info9 rfl (by decide) (by omega) u3 x3_1 (a0.extract (x4_1 : Int).toNat (x5_1 : Int).toNat) [.string (a0.extract (x4_1 : Int).toNat (x5_1 : Int).toNat)] (fun _=>True) (fun _=>False) rfl rfl ?aP (fun _ hk=>hk.elim) ?aF ?aO ?aB ?aS ?aL ?_;(case aP=>exact rfl);(case aB=>exact (by repeat (first|(with_reducible first|exact HB.out|apply below_alloc|apply pw_below_drewN|apply below_drew1)|exact HB.out)));(case aF=>exact (fun _ _=>trivial));(case aO=>exact (by (with_reducible repeat (first|apply Kd.R_alloc|apply Kd.R_drewN|apply Kd.R_drew));exact HO_3.out));(case aS=>exact (below_size (by repeat (first|(with_reducible first|exact HB.out|apply below_alloc|apply pw_below_drewN|apply below_drew1)|exact HB.out))));(case aL=>have:=LMc16.out;omega);intro v160 w17 ho hb hg hat;rw [← Ny159.out] at ho;have n0_:=Aside0.mk (hb);have n1_:=Aside0.mk (ho);clear HB;clear HO_3;have HB:=n0_;have HO161:=n1_;clear n0_ n1_;clear ho hb hg hat))
           go_roundg k1
           case measure=>have:=HK1.out;omega
           case rel=>exact ⟨(y159),(wrap64 (x5_1 + 1)),(wrap64 (x5_1 + 1)),(by first|rfl|(simp;done)|(simp [*];done)),(by first|rfl|(simp;done)|(simp [*];done)),H',⟨by have:=HK1.out;omega⟩,⟨by (with_reducible repeat (first|apply Kd.R_alloc|apply Kd.R_drewN|apply Kd.R_drew));exact HO161.out⟩,⟨by repeat (first|(with_reducible first|exact HB.out|apply below_alloc|apply pw_below_drewN|apply below_drew1)|exact HB.out)⟩⟩
          ·rw [if_neg c16] at H
           exact absurd H (by simp)
         ·rw [if_neg c14] at H
          exact absurd H (by simp)
        ·rw [if_neg c13] at H
         exact absurd H (by simp)
       ·rw [if_neg c12] at H
        have c12b0 : ((bt a0 x5_1) == 46) = false:=beq_eq_false_iff_ne.mpr c12
        have c12b1 : ((bt a0 x5_1) != 46) = true:=bne_iff_ne.mpr c12
        have H':=Aside0.mk H
        clear H
        have p11 : 0 ≤ (x5_1 : Int):=of_decide_eq_true (by first|(with_reducible assumption)|assumption)
        have q11 : x5_1 < (a0.size : Int):=of_decide_eq_true (by first|(with_reducible assumption)|assumption)
        have hx11:=bt_at a0 x5_1
        replace p11:=eq_true p11
        replace q11:=eq_true q11
        go_wp2
        go_roundg k1
        case measure=>have:=HK1.out;omega
        case rel=>exact ⟨(x3_1),(x4_1),(wrap64 (x5_1 + 1)),(by first|rfl|(simp;done)|(simp [*];done)),(by first|rfl|(simp;done)|(simp [*];done)),H',⟨by have:=HK1.out;omega⟩,⟨by (with_reducible repeat (first|apply Kd.R_alloc|apply Kd.R_drewN|apply Kd.R_drew));exact HO_3.out⟩,⟨by repeat (first|(with_reducible first|exact HB.out|apply below_alloc|apply pw_below_drewN|apply below_drew1)|exact HB.out)⟩⟩
      ·rw [if_neg c10] at H
       exact absurd H (by simp)
     ·rw [if_neg c9] at H
      exact absurd H (by simp)
   ·rw [if_neg c2] at H
    have c2b0 : decide (x5_1 ≤ (a0.size : Int)) = false:=decide_eq_false c2
    clear c2
    obtain rfl:=Option.some.inj H
    go_wp2
    go_ret
    exact ⟨_,by first|rfl|(simp [errW_none,errW_some] <;> rfl)|(simp [*,errW_none,errW_some] <;> rfl),by (with_reducible repeat (first|apply Kd.R_alloc|apply Kd.R_drewN|apply Kd.R_drew));exact HO_3.out,by repeat (first|(with_reducible first|exact HB.out|apply below_alloc|apply pw_below_drewN|apply below_drew1)|exact HB.out)⟩

/-! ### bosunref13_Name: function 35 -/
def bosunref13_Name.l0 : Nat → ByteArray → List ByteArray → Int → Option (Bool)
 | 0,_,_,_=>none
 | k + 1,x0,x3,x4=>if x4 < (x3.length : Int) then (if 0 ≤ x4 then ((bosunref13_Label.f k (rdOf ByteArray.empty x3 x4)).bind fun t166=>(if t166 = true then (bosunref13_Name.l0 k x0 x3 (wrap64 (x4 + 1))) else (some false))) else (none)) else (some (decide ((x0.size : Int) ≤ 253)))
def bosunref13_Name.f (k : Nat) (a0 : ByteArray) : Option (Bool):=(bosunref13_cut.f k a0).bind fun t162=>(bosunref13_Name.l0 k a0 t162 0)
theorem bosunref13_Name.mono_l : ∀ k,(∀ y0 y1 y2,LeO (bosunref13_Name.l0 k y0 y1 y2) (bosunref13_Name.l0 (k + 1) y0 y1 y2))
 | 0=>fun _ _ _ r h=>by simp [bosunref13_Name.l0] at h
 | k + 1=>by
  have ih0:=bosunref13_Name.mono_l k
  ·intro y0 y1 y2
   unfold bosunref13_Name.l0
   repeat' first
   | (with_reducible exact ih0 _ _ _)
   | (with_reducible exact bosunref13_Label.mono _ _)
   | (with_reducible exact bosunref13_cut.mono _ _)
   | (with_reducible exact LeO.refl _)
   | (with_reducible exact LeO.none _)
   | (with_reducible refine LeO.ite ?_ ?_)
   | (with_reducible refine LeO.bind ?_ (fun _=>?_))
   | exact ih0 _ _ _
   | exact bosunref13_Label.mono _ _
   | exact bosunref13_cut.mono _ _
   | exact LeO.none _
   | refine LeO.ite ?_ ?_
   | refine LeO.bind ?_ (fun _=>?_)
theorem bosunref13_Name.mono : ∀ a0 k,LeO (bosunref13_Name.f k a0) (bosunref13_Name.f (k + 1) a0):=by
 intro a0 k
 have ih0:=bosunref13_Name.mono_l k
 unfold bosunref13_Name.f
 repeat' first
   | (with_reducible exact ih0 _ _ _)
   | (with_reducible exact bosunref13_Label.mono _ _)
   | (with_reducible exact bosunref13_cut.mono _ _)
   | (with_reducible exact LeO.refl _)
   | (with_reducible exact LeO.none _)
   | (with_reducible refine LeO.ite ?_ ?_)
   | (with_reducible refine LeO.bind ?_ (fun _=>?_))
   | exact ih0 _ _ _
   | exact bosunref13_Label.mono _ _
   | exact bosunref13_cut.mono _ _
   | exact LeO.none _
   | refine LeO.ite ?_ ?_
   | refine LeO.bind ?_ (fun _=>?_)
set_option maxHeartbeats 8000000 in
set_option maxRecDepth 100000 in
theorem bosunref13_Name.calls (k : Nat) (a0 : ByteArray) (r : Bool) (w : World) (h : bosunref13_Name.f k a0 = some r) :
  Calls Tryd.prog 35 #[.string a0] w fun e w'=>e = .returned (.bool r) ∧ Below w.heap.size w w':=by
 have HB:=Aside0.mk (Below.refl w.heap.size w)
 have H : ((bosunref13_cut.f k a0).bind fun t162=>(bosunref13_Name.l0 k a0 t162 0)) = some r:=h
 clear h
 replace H:=Option.bind_eq_some_iff.mp H
 obtain ⟨t162,A20,H⟩:=H
 replace H : (bosunref13_Name.l0 k a0 t162 0) = some r:=H
 have A2:=Aside0.mk A20
 clear A20
 have H':=Aside0.mk H
 clear H
 go_enter Tryd.func35,Tryd.ntmps35
 go_wp2_with (first|((with_reducible refine gate_callee (f:=64) rfl ?_);refine goesL_ (some 6) rfl rfl Tryd.func64 (by kernel_rfl) rfl #[.string a0] rfl (by (try simp only [List.map_toArray,List.map_cons,List.map_nil]);first|done|rfl|(simp only [List.length_drop,List.length_take];rfl)|(simp (disch:=first|omega|(simp at *;omega)) only [u64_id,i64_id,u8_id];rfl)) ?_;(with_reducible refine (bosunref13_cut.calls k a0 t162 _ A2.out).mono ?_);rintro e w3 ⟨v163,rfl,ho0,hb⟩;refine ⟨_,rfl,?_⟩;have n0_:=Aside0.mk (Kd.R_lower ho0 (below_size (by repeat (first|(with_reducible first|exact HB.out|apply below_alloc|apply pw_below_drewN|apply below_drew1)|exact HB.out))));have n1_:=Aside0.mk (below_step (by repeat (first|(with_reducible first|exact HB.out|apply below_alloc|apply pw_below_drewN|apply below_drew1)|exact HB.out)) hb);clear HB;have HO164:=n0_;have HB:=n1_;clear n0_ n1_;(try clear hb);(try clear hb2);(try clear hk);(try clear hi);(try clear ho0)))
 go_loopg [4] k (fun kq v4 w'=>∃ (x4_1 : Int),v4 = .int .i64 x4_1 ∧ Aside0 (bosunref13_Name.l0 kq a0 t162 x4_1 = some r) ∧ Aside0 (kq ≤ k) ∧ Aside0 (Kd.R Kd.string 9 w' w.heap.size (fun _=>True) v163 t162) ∧ Aside0 (Below w.heap.size w w'))
 case atStart=>exact ⟨(0),(by first|rfl|(simp;done)|(simp [*];done)),H',⟨Nat.le_refl _⟩,⟨by (with_reducible repeat (first|apply Kd.R_alloc|apply Kd.R_drewN|apply Kd.R_drew));exact HO164.out⟩,⟨by repeat (first|(with_reducible first|exact HB.out|apply below_alloc|apply pw_below_drewN|apply below_drew1)|exact HB.out)⟩⟩
 case round =>
  clear H'
  try clear p2
  try clear c3
  obtain ⟨x4_1,rfl,HA,HK1,HO_3,HB⟩:=hrel
  cases gk with
  | zero=>exact absurd HA.out (by simp [bosunref13_Name.l0])
  | succ k1 =>
   have H:=HA.out
   clear HA
   simp only [bosunref13_Name.l0] at H
   by_cases c4 : x4_1 < (t162.length : Int)
   ·rw [if_pos c4] at H
    have c4b0 : decide (x4_1 < (t162.length : Int)) = true:=decide_eq_true c4
    clear c4
    by_cases c5 : 0 ≤ x4_1
    ·rw [if_pos c5] at H
     have c5b0 : decide (0 ≤ x4_1) = true:=decide_eq_true c5
     clear c5
     replace H:=Option.bind_eq_some_iff.mp H
     obtain ⟨t166,A60,H⟩:=H
     replace H : (if t166 = true then (bosunref13_Name.l0 k1 a0 t162 (wrap64 (x4_1 + 1))) else (some false)) = some r:=H
     have A6:=Aside0.mk A60
     clear A60
     by_cases c7 : t166 = true
     ·subst c7
      have H1 : (bosunref13_Name.l0 k1 a0 t162 (wrap64 (x4_1 + 1))) = some r:=by rw [if_pos rfl] at H;exact H
      clear H
      have H:=H1
      clear H1
      have H':=Aside0.mk H
      clear H
      obtain ⟨Ao8,co8,eo8⟩:=Kd.R_slice HO_3.out
      subst eo8
      have p165 : 0 ≤ (x4_1 : Int):=of_decide_eq_true (by first|(with_reducible assumption)|assumption)
      have q165 : x4_1 < (t162.length : Int):=of_decide_eq_true (by first|(with_reducible assumption)|assumption)
      obtain ⟨ad165,e165,hx165_0⟩:=Kd.at_string (Kd.R_reads' HO_3.out).2.2 x4_1 p165 q165
      cases e165
      replace p165:=eq_true p165
      replace q165:=eq_true q165
      go_wp2_with (first|((with_reducible refine gate_callee (f:=54) rfl ?_);refine goesL_ (some 17) rfl rfl Tryd.func54 (by kernel_rfl) rfl #[.string (rdOf ByteArray.empty t162 x4_1)] rfl (by (try simp only [List.map_toArray,List.map_cons,List.map_nil]);first|done|rfl|(simp only [List.length_drop,List.length_take];rfl)|(simp (disch:=first|omega|(simp at *;omega)) only [u64_id,i64_id,u8_id];rfl)) ?_;(with_reducible refine (bosunref13_Label.calls k1 (rdOf ByteArray.empty t162 x4_1) true _ A6.out).mono ?_);rintro e w' ⟨rfl,⟨nd,rfl⟩⟩;refine ⟨_,rfl,?_⟩))
      go_roundg k1
      case measure=>have:=HK1.out;omega
      case rel=>exact ⟨(wrap64 (x4_1 + 1)),(by first|rfl|(simp;done)|(simp [*];done)),H',⟨by have:=HK1.out;omega⟩,⟨by (with_reducible repeat (first|apply Kd.R_alloc|apply Kd.R_drewN|apply Kd.R_drew));exact HO_3.out⟩,⟨by repeat (first|(with_reducible first|exact HB.out|apply below_alloc|apply pw_below_drewN|apply below_drew1)|exact HB.out)⟩⟩
     ·replace c7:=Bool.eq_false_iff.mpr c7
      subst c7
      have H1 : (some false) = some r:=by rw [if_neg (show ¬ (false = true) by decide)] at H;exact H
      clear H
      have H:=H1
      clear H1
      obtain rfl:=Option.some.inj H
      obtain ⟨Ao9,co9,eo9⟩:=Kd.R_slice HO_3.out
      subst eo9
      have p165 : 0 ≤ (x4_1 : Int):=of_decide_eq_true (by first|(with_reducible assumption)|assumption)
      have q165 : x4_1 < (t162.length : Int):=of_decide_eq_true (by first|(with_reducible assumption)|assumption)
      obtain ⟨ad165,e165,hx165_0⟩:=Kd.at_string (Kd.R_reads' HO_3.out).2.2 x4_1 p165 q165
      cases e165
      replace p165:=eq_true p165
      replace q165:=eq_true q165
      go_wp2_with (first|((with_reducible refine gate_callee (f:=54) rfl ?_);refine goesL_ (some 17) rfl rfl Tryd.func54 (by kernel_rfl) rfl #[.string (rdOf ByteArray.empty t162 x4_1)] rfl (by (try simp only [List.map_toArray,List.map_cons,List.map_nil]);first|done|rfl|(simp only [List.length_drop,List.length_take];rfl)|(simp (disch:=first|omega|(simp at *;omega)) only [u64_id,i64_id,u8_id];rfl)) ?_;(with_reducible refine (bosunref13_Label.calls k1 (rdOf ByteArray.empty t162 x4_1) false _ A6.out).mono ?_);rintro e w' ⟨rfl,⟨nd,rfl⟩⟩;refine ⟨_,rfl,?_⟩))
      go_ret
      exact ⟨by first|rfl|(simp [errW_none,errW_some] <;> rfl)|(simp [*,errW_none,errW_some] <;> rfl),by repeat (first|(with_reducible first|exact HB.out|apply below_alloc|apply pw_below_drewN|apply below_drew1)|exact HB.out)⟩
    ·rw [if_neg c5] at H
     exact absurd H (by simp)
   ·rw [if_neg c4] at H
    have c4b0 : decide (x4_1 < (t162.length : Int)) = false:=decide_eq_false c4
    clear c4
    obtain rfl:=Option.some.inj H
    obtain ⟨Ao10,co10,eo10⟩:=Kd.R_slice HO_3.out
    subst eo10
    go_wp2
    go_ret
    exact ⟨by first|rfl|(simp [errW_none,errW_some] <;> rfl)|(simp [*,errW_none,errW_some] <;> rfl),by repeat (first|(with_reducible first|exact HB.out|apply below_alloc|apply pw_below_drewN|apply below_drew1)|exact HB.out)⟩

/-! ### bosunref13_Great: function 67 -/
def bosunref13_Great.f  : Option (ByteArray):=some (⟨#[65,66,67,68,69,70,71,72,73,74,75,76,77,78,79,80,81,82,83,84,85,86,87,88,89,90]⟩ : ByteArray)
set_option maxHeartbeats 8000000 in
set_option maxRecDepth 100000 in
theorem bosunref13_Great.calls  (r : ByteArray) (w : World) (h : bosunref13_Great.f  = some r) :
  Calls Tryd.prog 67 #[] w fun e w'=>e = .returned (.string r) ∧ Drawn0 w w':=by
 have H : (some (⟨#[65,66,67,68,69,70,71,72,73,74,75,76,77,78,79,80,81,82,83,84,85,86,87,88,89,90]⟩ : ByteArray)) = some r:=h
 clear h
 obtain rfl:=Option.some.inj H
 go_enter Tryd.func67,Tryd.ntmps67
 go_wp2
 go_ret
 exact ⟨by first|rfl|(simp;done)|(simp [*];done),by repeat (first|exact Drawn0.refl _|apply Drawn0.step)⟩

/-! ### bosunref13_Image: function 36 -/
def bosunref13_Image.f (k : Nat) (a0 : ByteArray) : Option (Bool):=if (a0.size : Int) ≥ 1 then (if (a0.size : Int) ≤ 255 then ((bosunref13_Small.f).bind fun t167=>((bosunref13_Great.f).bind fun t168=>(if t167.size + t168.size ≤ 9223372036854775807 then ((bosunref13_Digits.f).bind fun t169=>(if (t167 ++ t168).size + t169.size ≤ 9223372036854775807 then (if ((t167 ++ t168) ++ t169).size + 6 ≤ 9223372036854775807 then ((bosunref13_all.f k a0 (((t167 ++ t168) ++ t169) ++ (⟨#[46,95,45,47,58,64]⟩ : ByteArray))).bind fun t170=>(if t170 = true then (if 0 < (a0.size : Int) then ((bosunref13_Small.f).bind fun t171=>((bosunref13_Digits.f).bind fun t172=>(if t171.size + t172.size ≤ 9223372036854775807 then ((bosunref13_in.f k (bt a0 0) (t171 ++ t172)).bind fun t173=>(some t173)) else (none)))) else (none)) else (some false))) else (none)) else (none))) else (none)))) else (some false)) else (some false)
theorem bosunref13_Image.mono : ∀ a0 k,LeO (bosunref13_Image.f k a0) (bosunref13_Image.f (k + 1) a0):=by
 intro a0 k
 unfold bosunref13_Image.f
 repeat' first
   | (with_reducible exact bosunref13_all.mono _ _ _)
   | (with_reducible exact bosunref13_in.mono _ _ _)
   | (with_reducible exact LeO.refl _)
   | (with_reducible exact LeO.none _)
   | (with_reducible refine LeO.ite ?_ ?_)
   | (with_reducible refine LeO.bind ?_ (fun _=>?_))
   | exact bosunref13_all.mono _ _ _
   | exact bosunref13_in.mono _ _ _
   | exact LeO.none _
   | refine LeO.ite ?_ ?_
   | refine LeO.bind ?_ (fun _=>?_)
set_option maxHeartbeats 8000000 in
set_option maxRecDepth 100000 in
theorem bosunref13_Image.calls (k : Nat) (a0 : ByteArray) (r : Bool) (w : World) (h : bosunref13_Image.f k a0 = some r) :
  Calls Tryd.prog 36 #[.string a0] w fun e w'=>e = .returned (.bool r) ∧ Drawn0 w w':=by
 have H : (if (a0.size : Int) ≥ 1 then (if (a0.size : Int) ≤ 255 then ((bosunref13_Small.f).bind fun t167=>((bosunref13_Great.f).bind fun t168=>(if t167.size + t168.size ≤ 9223372036854775807 then ((bosunref13_Digits.f).bind fun t169=>(if (t167 ++ t168).size + t169.size ≤ 9223372036854775807 then (if ((t167 ++ t168) ++ t169).size + 6 ≤ 9223372036854775807 then ((bosunref13_all.f k a0 (((t167 ++ t168) ++ t169) ++ (⟨#[46,95,45,47,58,64]⟩ : ByteArray))).bind fun t170=>(if t170 = true then (if 0 < (a0.size : Int) then ((bosunref13_Small.f).bind fun t171=>((bosunref13_Digits.f).bind fun t172=>(if t171.size + t172.size ≤ 9223372036854775807 then ((bosunref13_in.f k (bt a0 0) (t171 ++ t172)).bind fun t173=>(some t173)) else (none)))) else (none)) else (some false))) else (none)) else (none))) else (none)))) else (some false)) else (some false)) = some r:=h
 clear h
 by_cases c2 : (a0.size : Int) ≥ 1
 ·rw [if_pos c2] at H
  have c2b0 : decide (1 ≤ (a0.size : Int)) = true:=decide_eq_true c2
  have c2b1 : decide (1 ≤ a0.size) = true:=decide_eq_true (by omega)
  clear c2
  by_cases c3 : (a0.size : Int) ≤ 255
  ·rw [if_pos c3] at H
   have c3b0 : decide ((a0.size : Int) ≤ 255) = true:=decide_eq_true c3
   have c3b1 : decide (a0.size ≤ 255) = true:=decide_eq_true (by omega)
   clear c3
   replace H:=Option.bind_eq_some_iff.mp H
   obtain ⟨t167,A40,H⟩:=H
   replace H : ((bosunref13_Great.f).bind fun t168=>(if t167.size + t168.size ≤ 9223372036854775807 then ((bosunref13_Digits.f).bind fun t169=>(if (t167 ++ t168).size + t169.size ≤ 9223372036854775807 then (if ((t167 ++ t168) ++ t169).size + 6 ≤ 9223372036854775807 then ((bosunref13_all.f k a0 (((t167 ++ t168) ++ t169) ++ (⟨#[46,95,45,47,58,64]⟩ : ByteArray))).bind fun t170=>(if t170 = true then (if 0 < (a0.size : Int) then ((bosunref13_Small.f).bind fun t171=>((bosunref13_Digits.f).bind fun t172=>(if t171.size + t172.size ≤ 9223372036854775807 then ((bosunref13_in.f k (bt a0 0) (t171 ++ t172)).bind fun t173=>(some t173)) else (none)))) else (none)) else (some false))) else (none)) else (none))) else (none))) = some r:=H
   have A4:=Aside0.mk A40
   clear A40
   replace H:=Option.bind_eq_some_iff.mp H
   obtain ⟨t168,A50,H⟩:=H
   replace H : (if t167.size + t168.size ≤ 9223372036854775807 then ((bosunref13_Digits.f).bind fun t169=>(if (t167 ++ t168).size + t169.size ≤ 9223372036854775807 then (if ((t167 ++ t168) ++ t169).size + 6 ≤ 9223372036854775807 then ((bosunref13_all.f k a0 (((t167 ++ t168) ++ t169) ++ (⟨#[46,95,45,47,58,64]⟩ : ByteArray))).bind fun t170=>(if t170 = true then (if 0 < (a0.size : Int) then ((bosunref13_Small.f).bind fun t171=>((bosunref13_Digits.f).bind fun t172=>(if t171.size + t172.size ≤ 9223372036854775807 then ((bosunref13_in.f k (bt a0 0) (t171 ++ t172)).bind fun t173=>(some t173)) else (none)))) else (none)) else (some false))) else (none)) else (none))) else (none)) = some r:=H
   have A5:=Aside0.mk A50
   clear A50
   by_cases c6 : t167.size + t168.size ≤ 9223372036854775807
   ·rw [if_pos c6] at H
    have c6b0:=eq_true c6
    have c6b1 : decide (t167.size + t168.size ≤ 9223372036854775807) = true:=decide_eq_true c6
    try have c6b2 : (9223372036854775807 < t167.size + t168.size) = False:=eq_false (Nat.not_lt.2 c6)
    replace H:=Option.bind_eq_some_iff.mp H
    obtain ⟨t169,A70,H⟩:=H
    replace H : (if (t167 ++ t168).size + t169.size ≤ 9223372036854775807 then (if ((t167 ++ t168) ++ t169).size + 6 ≤ 9223372036854775807 then ((bosunref13_all.f k a0 (((t167 ++ t168) ++ t169) ++ (⟨#[46,95,45,47,58,64]⟩ : ByteArray))).bind fun t170=>(if t170 = true then (if 0 < (a0.size : Int) then ((bosunref13_Small.f).bind fun t171=>((bosunref13_Digits.f).bind fun t172=>(if t171.size + t172.size ≤ 9223372036854775807 then ((bosunref13_in.f k (bt a0 0) (t171 ++ t172)).bind fun t173=>(some t173)) else (none)))) else (none)) else (some false))) else (none)) else (none)) = some r:=H
    have A7:=Aside0.mk A70
    clear A70
    by_cases c8 : (t167 ++ t168).size + t169.size ≤ 9223372036854775807
    ·rw [if_pos c8] at H
     have c8b0:=eq_true c8
     have c8b1 : decide ((t167 ++ t168).size + t169.size ≤ 9223372036854775807) = true:=decide_eq_true c8
     try have c8b2 : (9223372036854775807 < (t167 ++ t168).size + t169.size) = False:=eq_false (Nat.not_lt.2 c8)
     have c8s:=c8
     try simp only [ByteArray.size_append] at c8s
     try have c8s0:=eq_false (Nat.not_lt.2 c8s)
     try have c8s1:=eq_true c8s
     by_cases c9 : ((t167 ++ t168) ++ t169).size + 6 ≤ 9223372036854775807
     ·rw [if_pos c9] at H
      have c9b0:=eq_true c9
      have c9b1 : decide (((t167 ++ t168) ++ t169).size + 6 ≤ 9223372036854775807) = true:=decide_eq_true c9
      try have c9b2 : (9223372036854775807 < ((t167 ++ t168) ++ t169).size + 6) = False:=eq_false (Nat.not_lt.2 c9)
      have c9s:=c9
      try simp only [ByteArray.size_append] at c9s
      try have c9s0:=eq_false (Nat.not_lt.2 c9s)
      try have c9s1:=eq_true c9s
      replace H:=Option.bind_eq_some_iff.mp H
      obtain ⟨t170,A100,H⟩:=H
      replace H : (if t170 = true then (if 0 < (a0.size : Int) then ((bosunref13_Small.f).bind fun t171=>((bosunref13_Digits.f).bind fun t172=>(if t171.size + t172.size ≤ 9223372036854775807 then ((bosunref13_in.f k (bt a0 0) (t171 ++ t172)).bind fun t173=>(some t173)) else (none)))) else (none)) else (some false)) = some r:=H
      have A10:=Aside0.mk A100
      clear A100
      by_cases c11 : t170 = true
      ·subst c11
       have H1 : (if 0 < (a0.size : Int) then ((bosunref13_Small.f).bind fun t171=>((bosunref13_Digits.f).bind fun t172=>(if t171.size + t172.size ≤ 9223372036854775807 then ((bosunref13_in.f k (bt a0 0) (t171 ++ t172)).bind fun t173=>(some t173)) else (none)))) else (none)) = some r:=by rw [if_pos rfl] at H;exact H
       clear H
       have H:=H1
       clear H1
       by_cases c12 : 0 < (a0.size : Int)
       ·rw [if_pos c12] at H
        have c12b0 : decide (0 < (a0.size : Int)) = true:=decide_eq_true c12
        have c12b1 : decide (0 < a0.size) = true:=decide_eq_true (by omega)
        clear c12
        replace H:=Option.bind_eq_some_iff.mp H
        obtain ⟨t171,A140,H⟩:=H
        replace H : ((bosunref13_Digits.f).bind fun t172=>(if t171.size + t172.size ≤ 9223372036854775807 then ((bosunref13_in.f k (bt a0 0) (t171 ++ t172)).bind fun t173=>(some t173)) else (none))) = some r:=H
        have A14:=Aside0.mk A140
        clear A140
        have e_ : t167 = t171:=Option.some.inj (A4.out.symm.trans A14.out)
        subst e_
        replace H:=Option.bind_eq_some_iff.mp H
        obtain ⟨t172,A150,H⟩:=H
        replace H : (if t167.size + t172.size ≤ 9223372036854775807 then ((bosunref13_in.f k (bt a0 0) (t167 ++ t172)).bind fun t173=>(some t173)) else (none)) = some r:=H
        have A15:=Aside0.mk A150
        clear A150
        have e_ : t169 = t172:=Option.some.inj (A7.out.symm.trans A15.out)
        subst e_
        by_cases c16 : t167.size + t169.size ≤ 9223372036854775807
        ·rw [if_pos c16] at H
         have c16b0:=eq_true c16
         have c16b1 : decide (t167.size + t169.size ≤ 9223372036854775807) = true:=decide_eq_true c16
         try have c16b2 : (9223372036854775807 < t167.size + t169.size) = False:=eq_false (Nat.not_lt.2 c16)
         replace H:=Option.bind_eq_some_iff.mp H
         obtain ⟨t173,A170,H⟩:=H
         replace H : (some t173) = some r:=H
         have A17:=Aside0.mk A170
         clear A170
         obtain rfl:=Option.some.inj H
         go_enter Tryd.func36,Tryd.ntmps36
         have p13 : 0 ≤ (0 : Int):=(by omega)
         have q13 : 0 < a0.size:=(by have : (0 : Int) < (a0.size : Int):=of_decide_eq_true (by first|(with_reducible assumption)|assumption);omega)
         have hx13 : ∀ h : 0 < a0.size,((a0[0]'h).toNat : Int) = bt a0 0:=bt_at a0 0
         clear p13
         have qi13 : (0 < (a0.size : Int)) = True:=eq_true (of_decide_eq_true (by first|(with_reducible assumption)|assumption))
         replace q13:=eq_true q13
         go_wp2_with (first|(go_at_call 66;(with_reducible refine (bosunref13_Small.calls  t167 _ A4.out).mono ?_);rintro e w' ⟨rfl,⟨nd,rfl⟩⟩;(try first|exact ⟨rfl,_,World.drewN_drewN _ _ _⟩|exact ⟨rfl,_,Eq.trans (World.drewN_drewN _ _ _) (congrArg (World.drewN _) (Nat.add_assoc _ _ _))⟩))|(go_at_call 67;(with_reducible refine (bosunref13_Great.calls  t168 _ A5.out).mono ?_);rintro e w' ⟨rfl,⟨nd,rfl⟩⟩;(try first|exact ⟨rfl,_,World.drewN_drewN _ _ _⟩|exact ⟨rfl,_,Eq.trans (World.drewN_drewN _ _ _) (congrArg (World.drewN _) (Nat.add_assoc _ _ _))⟩))|(go_at_call 68;(with_reducible refine (bosunref13_Digits.calls  t169 _ A7.out).mono ?_);rintro e w' ⟨rfl,⟨nd,rfl⟩⟩;(try first|exact ⟨rfl,_,World.drewN_drewN _ _ _⟩|exact ⟨rfl,_,Eq.trans (World.drewN_drewN _ _ _) (congrArg (World.drewN _) (Nat.add_assoc _ _ _))⟩))|(go_at_call 65;(with_reducible refine (bosunref13_all.calls k a0 (((t167 ++ t168) ++ t169) ++ (⟨#[46,95,45,47,58,64]⟩ : ByteArray)) true _ A10.out).mono ?_);rintro e w' ⟨rfl,⟨nd,rfl⟩⟩;(try first|exact ⟨rfl,_,World.drewN_drewN _ _ _⟩|exact ⟨rfl,_,Eq.trans (World.drewN_drewN _ _ _) (congrArg (World.drewN _) (Nat.add_assoc _ _ _))⟩))|(go_at_call 66;(with_reducible refine (bosunref13_Small.calls  t167 _ A14.out).mono ?_);rintro e w' ⟨rfl,⟨nd,rfl⟩⟩;(try first|exact ⟨rfl,_,World.drewN_drewN _ _ _⟩|exact ⟨rfl,_,Eq.trans (World.drewN_drewN _ _ _) (congrArg (World.drewN _) (Nat.add_assoc _ _ _))⟩))|(go_at_call 68;(with_reducible refine (bosunref13_Digits.calls  t169 _ A15.out).mono ?_);rintro e w' ⟨rfl,⟨nd,rfl⟩⟩;(try first|exact ⟨rfl,_,World.drewN_drewN _ _ _⟩|exact ⟨rfl,_,Eq.trans (World.drewN_drewN _ _ _) (congrArg (World.drewN _) (Nat.add_assoc _ _ _))⟩))|(go_at_call 69;(with_reducible refine (bosunref13_in.calls k (bt a0 0) (t167 ++ t169) t173 _ A17.out).mono ?_);rintro e w' ⟨rfl,⟨nd,rfl⟩⟩;(try first|exact ⟨rfl,_,World.drewN_drewN _ _ _⟩|exact ⟨rfl,_,Eq.trans (World.drewN_drewN _ _ _) (congrArg (World.drewN _) (Nat.add_assoc _ _ _))⟩)))
         repeat (go_quiet (first|(go_at_call 66;(with_reducible refine (bosunref13_Small.calls  t167 _ A4.out).mono ?_);rintro e w' ⟨rfl,⟨nd,rfl⟩⟩;(try first|exact ⟨rfl,_,World.drewN_drewN _ _ _⟩|exact ⟨rfl,_,Eq.trans (World.drewN_drewN _ _ _) (congrArg (World.drewN _) (Nat.add_assoc _ _ _))⟩))|(go_at_call 67;(with_reducible refine (bosunref13_Great.calls  t168 _ A5.out).mono ?_);rintro e w' ⟨rfl,⟨nd,rfl⟩⟩;(try first|exact ⟨rfl,_,World.drewN_drewN _ _ _⟩|exact ⟨rfl,_,Eq.trans (World.drewN_drewN _ _ _) (congrArg (World.drewN _) (Nat.add_assoc _ _ _))⟩))|(go_at_call 68;(with_reducible refine (bosunref13_Digits.calls  t169 _ A7.out).mono ?_);rintro e w' ⟨rfl,⟨nd,rfl⟩⟩;(try first|exact ⟨rfl,_,World.drewN_drewN _ _ _⟩|exact ⟨rfl,_,Eq.trans (World.drewN_drewN _ _ _) (congrArg (World.drewN _) (Nat.add_assoc _ _ _))⟩))|(go_at_call 65;(with_reducible refine (bosunref13_all.calls k a0 (((t167 ++ t168) ++ t169) ++ (⟨#[46,95,45,47,58,64]⟩ : ByteArray)) true _ A10.out).mono ?_);rintro e w' ⟨rfl,⟨nd,rfl⟩⟩;(try first|exact ⟨rfl,_,World.drewN_drewN _ _ _⟩|exact ⟨rfl,_,Eq.trans (World.drewN_drewN _ _ _) (congrArg (World.drewN _) (Nat.add_assoc _ _ _))⟩))|(go_at_call 66;(with_reducible refine (bosunref13_Small.calls  t167 _ A14.out).mono ?_);rintro e w' ⟨rfl,⟨nd,rfl⟩⟩;(try first|exact ⟨rfl,_,World.drewN_drewN _ _ _⟩|exact ⟨rfl,_,Eq.trans (World.drewN_drewN _ _ _) (congrArg (World.drewN _) (Nat.add_assoc _ _ _))⟩))|(go_at_call 68;(with_reducible refine (bosunref13_Digits.calls  t169 _ A15.out).mono ?_);rintro e w' ⟨rfl,⟨nd,rfl⟩⟩;(try first|exact ⟨rfl,_,World.drewN_drewN _ _ _⟩|exact ⟨rfl,_,Eq.trans (World.drewN_drewN _ _ _) (congrArg (World.drewN _) (Nat.add_assoc _ _ _))⟩))|(go_at_call 69;(with_reducible refine (bosunref13_in.calls k (bt a0 0) (t167 ++ t169) t173 _ A17.out).mono ?_);rintro e w' ⟨rfl,⟨nd,rfl⟩⟩;(try first|exact ⟨rfl,_,World.drewN_drewN _ _ _⟩|exact ⟨rfl,_,Eq.trans (World.drewN_drewN _ _ _) (congrArg (World.drewN _) (Nat.add_assoc _ _ _))⟩)));try go_wp2_with (first|(go_at_call 66;(with_reducible refine (bosunref13_Small.calls  t167 _ A4.out).mono ?_);rintro e w' ⟨rfl,⟨nd,rfl⟩⟩;(try first|exact ⟨rfl,_,World.drewN_drewN _ _ _⟩|exact ⟨rfl,_,Eq.trans (World.drewN_drewN _ _ _) (congrArg (World.drewN _) (Nat.add_assoc _ _ _))⟩))|(go_at_call 67;(with_reducible refine (bosunref13_Great.calls  t168 _ A5.out).mono ?_);rintro e w' ⟨rfl,⟨nd,rfl⟩⟩;(try first|exact ⟨rfl,_,World.drewN_drewN _ _ _⟩|exact ⟨rfl,_,Eq.trans (World.drewN_drewN _ _ _) (congrArg (World.drewN _) (Nat.add_assoc _ _ _))⟩))|(go_at_call 68;(with_reducible refine (bosunref13_Digits.calls  t169 _ A7.out).mono ?_);rintro e w' ⟨rfl,⟨nd,rfl⟩⟩;(try first|exact ⟨rfl,_,World.drewN_drewN _ _ _⟩|exact ⟨rfl,_,Eq.trans (World.drewN_drewN _ _ _) (congrArg (World.drewN _) (Nat.add_assoc _ _ _))⟩))|(go_at_call 65;(with_reducible refine (bosunref13_all.calls k a0 (((t167 ++ t168) ++ t169) ++ (⟨#[46,95,45,47,58,64]⟩ : ByteArray)) true _ A10.out).mono ?_);rintro e w' ⟨rfl,⟨nd,rfl⟩⟩;(try first|exact ⟨rfl,_,World.drewN_drewN _ _ _⟩|exact ⟨rfl,_,Eq.trans (World.drewN_drewN _ _ _) (congrArg (World.drewN _) (Nat.add_assoc _ _ _))⟩))|(go_at_call 66;(with_reducible refine (bosunref13_Small.calls  t167 _ A14.out).mono ?_);rintro e w' ⟨rfl,⟨nd,rfl⟩⟩;(try first|exact ⟨rfl,_,World.drewN_drewN _ _ _⟩|exact ⟨rfl,_,Eq.trans (World.drewN_drewN _ _ _) (congrArg (World.drewN _) (Nat.add_assoc _ _ _))⟩))|(go_at_call 68;(with_reducible refine (bosunref13_Digits.calls  t169 _ A15.out).mono ?_);rintro e w' ⟨rfl,⟨nd,rfl⟩⟩;(try first|exact ⟨rfl,_,World.drewN_drewN _ _ _⟩|exact ⟨rfl,_,Eq.trans (World.drewN_drewN _ _ _) (congrArg (World.drewN _) (Nat.add_assoc _ _ _))⟩))|(go_at_call 69;(with_reducible refine (bosunref13_in.calls k (bt a0 0) (t167 ++ t169) t173 _ A17.out).mono ?_);rintro e w' ⟨rfl,⟨nd,rfl⟩⟩;(try first|exact ⟨rfl,_,World.drewN_drewN _ _ _⟩|exact ⟨rfl,_,Eq.trans (World.drewN_drewN _ _ _) (congrArg (World.drewN _) (Nat.add_assoc _ _ _))⟩))))
         go_ret
         exact ⟨by first|rfl|(simp;done)|(simp [*];done),by repeat (first|exact Drawn0.refl _|apply Drawn0.step)⟩
        ·rw [if_neg c16] at H
         exact absurd H (by simp)
       ·rw [if_neg c12] at H
        exact absurd H (by simp)
      ·replace c11:=Bool.eq_false_iff.mpr c11
       subst c11
       have H1 : (some false) = some r:=by rw [if_neg (show ¬ (false = true) by decide)] at H;exact H
       clear H
       have H:=H1
       clear H1
       obtain rfl:=Option.some.inj H
       go_enter Tryd.func36,Tryd.ntmps36
       go_wp2_with (first|(go_at_call 66;(with_reducible refine (bosunref13_Small.calls  t167 _ A4.out).mono ?_);rintro e w' ⟨rfl,⟨nd,rfl⟩⟩;(try first|exact ⟨rfl,_,World.drewN_drewN _ _ _⟩|exact ⟨rfl,_,Eq.trans (World.drewN_drewN _ _ _) (congrArg (World.drewN _) (Nat.add_assoc _ _ _))⟩))|(go_at_call 67;(with_reducible refine (bosunref13_Great.calls  t168 _ A5.out).mono ?_);rintro e w' ⟨rfl,⟨nd,rfl⟩⟩;(try first|exact ⟨rfl,_,World.drewN_drewN _ _ _⟩|exact ⟨rfl,_,Eq.trans (World.drewN_drewN _ _ _) (congrArg (World.drewN _) (Nat.add_assoc _ _ _))⟩))|(go_at_call 68;(with_reducible refine (bosunref13_Digits.calls  t169 _ A7.out).mono ?_);rintro e w' ⟨rfl,⟨nd,rfl⟩⟩;(try first|exact ⟨rfl,_,World.drewN_drewN _ _ _⟩|exact ⟨rfl,_,Eq.trans (World.drewN_drewN _ _ _) (congrArg (World.drewN _) (Nat.add_assoc _ _ _))⟩))|(go_at_call 65;(with_reducible refine (bosunref13_all.calls k a0 (((t167 ++ t168) ++ t169) ++ (⟨#[46,95,45,47,58,64]⟩ : ByteArray)) false _ A10.out).mono ?_);rintro e w' ⟨rfl,⟨nd,rfl⟩⟩;(try first|exact ⟨rfl,_,World.drewN_drewN _ _ _⟩|exact ⟨rfl,_,Eq.trans (World.drewN_drewN _ _ _) (congrArg (World.drewN _) (Nat.add_assoc _ _ _))⟩)))
       repeat (go_quiet (first|(go_at_call 66;(with_reducible refine (bosunref13_Small.calls  t167 _ A4.out).mono ?_);rintro e w' ⟨rfl,⟨nd,rfl⟩⟩;(try first|exact ⟨rfl,_,World.drewN_drewN _ _ _⟩|exact ⟨rfl,_,Eq.trans (World.drewN_drewN _ _ _) (congrArg (World.drewN _) (Nat.add_assoc _ _ _))⟩))|(go_at_call 67;(with_reducible refine (bosunref13_Great.calls  t168 _ A5.out).mono ?_);rintro e w' ⟨rfl,⟨nd,rfl⟩⟩;(try first|exact ⟨rfl,_,World.drewN_drewN _ _ _⟩|exact ⟨rfl,_,Eq.trans (World.drewN_drewN _ _ _) (congrArg (World.drewN _) (Nat.add_assoc _ _ _))⟩))|(go_at_call 68;(with_reducible refine (bosunref13_Digits.calls  t169 _ A7.out).mono ?_);rintro e w' ⟨rfl,⟨nd,rfl⟩⟩;(try first|exact ⟨rfl,_,World.drewN_drewN _ _ _⟩|exact ⟨rfl,_,Eq.trans (World.drewN_drewN _ _ _) (congrArg (World.drewN _) (Nat.add_assoc _ _ _))⟩))|(go_at_call 65;(with_reducible refine (bosunref13_all.calls k a0 (((t167 ++ t168) ++ t169) ++ (⟨#[46,95,45,47,58,64]⟩ : ByteArray)) false _ A10.out).mono ?_);rintro e w' ⟨rfl,⟨nd,rfl⟩⟩;(try first|exact ⟨rfl,_,World.drewN_drewN _ _ _⟩|exact ⟨rfl,_,Eq.trans (World.drewN_drewN _ _ _) (congrArg (World.drewN _) (Nat.add_assoc _ _ _))⟩)));try go_wp2_with (first|(go_at_call 66;(with_reducible refine (bosunref13_Small.calls  t167 _ A4.out).mono ?_);rintro e w' ⟨rfl,⟨nd,rfl⟩⟩;(try first|exact ⟨rfl,_,World.drewN_drewN _ _ _⟩|exact ⟨rfl,_,Eq.trans (World.drewN_drewN _ _ _) (congrArg (World.drewN _) (Nat.add_assoc _ _ _))⟩))|(go_at_call 67;(with_reducible refine (bosunref13_Great.calls  t168 _ A5.out).mono ?_);rintro e w' ⟨rfl,⟨nd,rfl⟩⟩;(try first|exact ⟨rfl,_,World.drewN_drewN _ _ _⟩|exact ⟨rfl,_,Eq.trans (World.drewN_drewN _ _ _) (congrArg (World.drewN _) (Nat.add_assoc _ _ _))⟩))|(go_at_call 68;(with_reducible refine (bosunref13_Digits.calls  t169 _ A7.out).mono ?_);rintro e w' ⟨rfl,⟨nd,rfl⟩⟩;(try first|exact ⟨rfl,_,World.drewN_drewN _ _ _⟩|exact ⟨rfl,_,Eq.trans (World.drewN_drewN _ _ _) (congrArg (World.drewN _) (Nat.add_assoc _ _ _))⟩))|(go_at_call 65;(with_reducible refine (bosunref13_all.calls k a0 (((t167 ++ t168) ++ t169) ++ (⟨#[46,95,45,47,58,64]⟩ : ByteArray)) false _ A10.out).mono ?_);rintro e w' ⟨rfl,⟨nd,rfl⟩⟩;(try first|exact ⟨rfl,_,World.drewN_drewN _ _ _⟩|exact ⟨rfl,_,Eq.trans (World.drewN_drewN _ _ _) (congrArg (World.drewN _) (Nat.add_assoc _ _ _))⟩))))
       go_ret
       exact ⟨by first|rfl|(simp;done)|(simp [*];done),by repeat (first|exact Drawn0.refl _|apply Drawn0.step)⟩
     ·rw [if_neg c9] at H
      exact absurd H (by simp)
    ·rw [if_neg c8] at H
     exact absurd H (by simp)
   ·rw [if_neg c6] at H
    exact absurd H (by simp)
  ·rw [if_neg c3] at H
   have c3b0 : decide ((a0.size : Int) ≤ 255) = false:=decide_eq_false c3
   have c3b1 : decide (a0.size ≤ 255) = false:=decide_eq_false (by omega)
   clear c3
   obtain rfl:=Option.some.inj H
   go_enter Tryd.func36,Tryd.ntmps36
   go_wp2
   repeat (go_quiet (fail);try go_wp2)
   go_ret
   exact ⟨by first|rfl|(simp;done)|(simp [*];done),by repeat (first|exact Drawn0.refl _|apply Drawn0.step)⟩
 ·rw [if_neg c2] at H
  have c2b0 : decide (1 ≤ (a0.size : Int)) = false:=decide_eq_false c2
  have c2b1 : decide (1 ≤ a0.size) = false:=decide_eq_false (by omega)
  clear c2
  obtain rfl:=Option.some.inj H
  go_enter Tryd.func36,Tryd.ntmps36
  go_wp2
  repeat (go_quiet (fail);try go_wp2)
  go_ret
  exact ⟨by first|rfl|(simp;done)|(simp [*];done),by repeat (first|exact Drawn0.refl _|apply Drawn0.step)⟩

end Go.Proofs.YtpmbdcljphpcnaaDoor.GCk
