/- Written by this session's own program (wip/gen.py) out of the translation: plain Lean functions of the Go functions, and proofs that the calls come to their answers. No conditions beside those in the statements. -/
import Derived.Test.YtpmbdcljphpcnaaDoorGC2x0
import Derived.Test.YtpmbdcljphpcnaaDoorGC2Index
namespace Go.Proofs.YtpmbdcljphpcnaaDoor.GC2
open Go.RowKit Go.Proofs.YtpmbdcljphpcnaaDoorW.PrintWords Go.Proofs.YtpmbdcljphpcnaaDoorW.PrintLast Go.Proofs.YtpmbdcljphpcnaaDoorW.PrintMore
attribute [local go_sem] max2_int min2_int max_two min_two max_three min_three max_four min_four   -- for this text's walks alone
set_option linter.unusedVariables false
set_option linter.unusedSimpArgs false

/-! ### ckone_File: function 18 -/
def ckone_File.l0 : Nat → ByteArray → Int → Int → Option (Bool)
 | 0,_,_,_=>none
 | k + 1,x0,x6,x7=>if x7 < x6 then (if 0 ≤ x7 then (if x7 < (x0.size : Int) then (if (bt x0 x7) < 97 then (if (bt x0 x7) < 48 then ((strings_IndexByte.f (⟨#[46,95,45,47]⟩ : ByteArray) (bt x0 x7)).bind fun t106=>(if t106 < 0 then (some false) else (ckone_File.l0 k x0 x6 (wrap64 (x7 + 1))))) else (if (bt x0 x7) > 57 then ((strings_IndexByte.f (⟨#[46,95,45,47]⟩ : ByteArray) (bt x0 x7)).bind fun t107=>(if t107 < 0 then (some false) else (ckone_File.l0 k x0 x6 (wrap64 (x7 + 1))))) else (ckone_File.l0 k x0 x6 (wrap64 (x7 + 1))))) else (if (bt x0 x7) > 122 then (if (bt x0 x7) < 48 then ((strings_IndexByte.f (⟨#[46,95,45,47]⟩ : ByteArray) (bt x0 x7)).bind fun t108=>(if t108 < 0 then (some false) else (ckone_File.l0 k x0 x6 (wrap64 (x7 + 1))))) else (if (bt x0 x7) > 57 then ((strings_IndexByte.f (⟨#[46,95,45,47]⟩ : ByteArray) (bt x0 x7)).bind fun t109=>(if t109 < 0 then (some false) else (ckone_File.l0 k x0 x6 (wrap64 (x7 + 1))))) else (ckone_File.l0 k x0 x6 (wrap64 (x7 + 1))))) else (ckone_File.l0 k x0 x6 (wrap64 (x7 + 1))))) else (none)) else (none)) else (if x0.toList = ([] : List UInt8) then (some false) else (some (decide ((x0.size : Int) ≤ 64))))
def ckone_File.f (k : Nat) (a0 : ByteArray) : Option (Bool):=ckone_File.l0 k a0 (a0.size : Int) 0
theorem ckone_File.mono_l : ∀ k,(∀ y0 y1 y2,LeO (ckone_File.l0 k y0 y1 y2) (ckone_File.l0 (k + 1) y0 y1 y2))
 | 0=>fun _ _ _ r h=>by simp [ckone_File.l0] at h
 | k + 1=>by
  have ih0:=ckone_File.mono_l k
  ·intro y0 y1 y2
   unfold ckone_File.l0
   repeat' first
   | (with_reducible exact ih0 _ _ _)
   | (with_reducible exact LeO.refl _)
   | (with_reducible exact LeO.none _)
   | (with_reducible refine LeO.ite ?_ ?_)
   | (with_reducible refine LeO.bind ?_ (fun _=>?_))
   | exact ih0 _ _ _
   | exact LeO.none _
   | refine LeO.ite ?_ ?_
   | refine LeO.bind ?_ (fun _=>?_)
theorem ckone_File.mono : ∀ a0 k,LeO (ckone_File.f k a0) (ckone_File.f (k + 1) a0):=by
 intro a0 k
 have ih0:=ckone_File.mono_l k
 unfold ckone_File.f
 repeat' first
   | (with_reducible exact ih0 _ _ _)
   | (with_reducible exact LeO.refl _)
   | (with_reducible exact LeO.none _)
   | (with_reducible refine LeO.ite ?_ ?_)
   | (with_reducible refine LeO.bind ?_ (fun _=>?_))
   | exact ih0 _ _ _
   | exact LeO.none _
   | refine LeO.ite ?_ ?_
   | refine LeO.bind ?_ (fun _=>?_)
set_option maxHeartbeats 8000000 in
set_option maxRecDepth 100000 in
theorem ckone_File.calls (k : Nat) (a0 : ByteArray) (r : Bool) (w : World) (h : ckone_File.f k a0 = some r) :
  Calls Tryd.prog 18 #[.string a0] w fun e w'=>e = .returned (.bool r) ∧ Drawn0 w w':=by
 have H : (ckone_File.l0 k a0 (a0.size : Int) 0) = some r:=h
 clear h
 have H':=Aside0.mk H
 clear H
 go_enter Tryd.func18,Tryd.ntmps18
 go_wp2
 go_loopg [7] k (fun kq v7 w'=>∃ (x7_1 : Int),v7 = .int .i64 x7_1 ∧ Aside0 (ckone_File.l0 kq a0 (a0.size : Int) x7_1 = some r) ∧ Aside0 (kq ≤ k) ∧ Drawn0 w w')
 case atStart=>exact ⟨(0),(by first|rfl|(simp;done)|(simp [*];done)),H',⟨Nat.le_refl _⟩,by repeat (first|exact Drawn0.refl _|apply Drawn0.step)⟩
 case round =>
  clear H'
  try clear c1
  obtain ⟨x7_1,rfl,HA,HK1,⟨m1,rfl⟩⟩:=hrel
  cases gk with
  | zero=>exact absurd HA.out (by simp [ckone_File.l0])
  | succ k1 =>
   have H:=HA.out
   clear HA
   simp only [ckone_File.l0] at H
   by_cases c2 : x7_1 < (a0.size : Int)
   ·rw [if_pos c2] at H
    have c2b0 : decide (x7_1 < (a0.size : Int)) = true:=decide_eq_true c2
    clear c2
    by_cases c3 : 0 ≤ x7_1
    ·rw [if_pos c3] at H
     have c3b0 : decide (0 ≤ x7_1) = true:=decide_eq_true c3
     clear c3
     by_cases c4 : x7_1 < (a0.size : Int)
     ·rw [if_pos c4] at H
      have c4b0 : decide (x7_1 < (a0.size : Int)) = true:=decide_eq_true c4
      clear c4
      by_cases c6 : (bt a0 x7_1) < 97
      ·rw [if_pos c6] at H
       have c6b0 : decide ((bt a0 x7_1) < 97) = true:=decide_eq_true c6
       clear c6
       by_cases c7 : (bt a0 x7_1) < 48
       ·rw [if_pos c7] at H
        have c7b0 : decide ((bt a0 x7_1) < 48) = true:=decide_eq_true c7
        clear c7
        replace H:=Option.bind_eq_some_iff.mp H
        obtain ⟨t106,A80,H⟩:=H
        replace H : (if t106 < 0 then (some false) else (ckone_File.l0 k1 a0 (a0.size : Int) (wrap64 (x7_1 + 1)))) = some r:=H
        have A8:=Aside0.mk A80
        clear A80
        by_cases c9 : t106 < 0
        ·rw [if_pos c9] at H
         have c9b0 : decide (t106 < 0) = true:=decide_eq_true c9
         clear c9
         obtain rfl:=Option.some.inj H
         have p5 : 0 ≤ (x7_1 : Int):=of_decide_eq_true (by first|(with_reducible assumption)|assumption)
         have q5 : x7_1 < (a0.size : Int):=of_decide_eq_true (by first|(with_reducible assumption)|assumption)
         have hx5:=bt_at a0 x7_1
         replace p5:=eq_true p5
         replace q5:=eq_true q5
         go_wp2_with (first|(go_at_call 47;(with_reducible refine (strings_IndexByte.calls (⟨#[46,95,45,47]⟩ : ByteArray) (bt a0 x7_1) t106 _ A8.out).mono ?_);rintro e w' ⟨rfl,⟨nd,rfl⟩⟩))
         go_ret
         exact ⟨by first|rfl|(simp;done)|(simp [*];done),by repeat (first|exact Drawn0.refl _|apply Drawn0.step)⟩
        ·rw [if_neg c9] at H
         have c9b0 : decide (t106 < 0) = false:=decide_eq_false c9
         clear c9
         have H':=Aside0.mk H
         clear H
         have p5 : 0 ≤ (x7_1 : Int):=of_decide_eq_true (by first|(with_reducible assumption)|assumption)
         have q5 : x7_1 < (a0.size : Int):=of_decide_eq_true (by first|(with_reducible assumption)|assumption)
         have hx5:=bt_at a0 x7_1
         replace p5:=eq_true p5
         replace q5:=eq_true q5
         go_wp2_with (first|(go_at_call 47;(with_reducible refine (strings_IndexByte.calls (⟨#[46,95,45,47]⟩ : ByteArray) (bt a0 x7_1) t106 _ A8.out).mono ?_);rintro e w' ⟨rfl,⟨nd,rfl⟩⟩))
         go_roundg k1
         case measure=>have:=HK1.out;omega
         case rel=>exact ⟨(wrap64 (x7_1 + 1)),(by first|rfl|(simp;done)|(simp [*];done)),H',⟨by have:=HK1.out;omega⟩,by repeat (first|exact Drawn0.refl _|apply Drawn0.step)⟩
       ·rw [if_neg c7] at H
        have c7b0 : decide ((bt a0 x7_1) < 48) = false:=decide_eq_false c7
        clear c7
        by_cases c10 : (bt a0 x7_1) > 57
        ·rw [if_pos c10] at H
         have c10b0 : decide (57 < (bt a0 x7_1)) = true:=decide_eq_true c10
         clear c10
         replace H:=Option.bind_eq_some_iff.mp H
         obtain ⟨t107,A110,H⟩:=H
         replace H : (if t107 < 0 then (some false) else (ckone_File.l0 k1 a0 (a0.size : Int) (wrap64 (x7_1 + 1)))) = some r:=H
         have A11:=Aside0.mk A110
         clear A110
         by_cases c12 : t107 < 0
         ·rw [if_pos c12] at H
          have c12b0 : decide (t107 < 0) = true:=decide_eq_true c12
          clear c12
          obtain rfl:=Option.some.inj H
          have p5 : 0 ≤ (x7_1 : Int):=of_decide_eq_true (by first|(with_reducible assumption)|assumption)
          have q5 : x7_1 < (a0.size : Int):=of_decide_eq_true (by first|(with_reducible assumption)|assumption)
          have hx5:=bt_at a0 x7_1
          replace p5:=eq_true p5
          replace q5:=eq_true q5
          go_wp2_with (first|(go_at_call 47;(with_reducible refine (strings_IndexByte.calls (⟨#[46,95,45,47]⟩ : ByteArray) (bt a0 x7_1) t107 _ A11.out).mono ?_);rintro e w' ⟨rfl,⟨nd,rfl⟩⟩))
          go_ret
          exact ⟨by first|rfl|(simp;done)|(simp [*];done),by repeat (first|exact Drawn0.refl _|apply Drawn0.step)⟩
         ·rw [if_neg c12] at H
          have c12b0 : decide (t107 < 0) = false:=decide_eq_false c12
          clear c12
          have H':=Aside0.mk H
          clear H
          have p5 : 0 ≤ (x7_1 : Int):=of_decide_eq_true (by first|(with_reducible assumption)|assumption)
          have q5 : x7_1 < (a0.size : Int):=of_decide_eq_true (by first|(with_reducible assumption)|assumption)
          have hx5:=bt_at a0 x7_1
          replace p5:=eq_true p5
          replace q5:=eq_true q5
          go_wp2_with (first|(go_at_call 47;(with_reducible refine (strings_IndexByte.calls (⟨#[46,95,45,47]⟩ : ByteArray) (bt a0 x7_1) t107 _ A11.out).mono ?_);rintro e w' ⟨rfl,⟨nd,rfl⟩⟩))
          go_roundg k1
          case measure=>have:=HK1.out;omega
          case rel=>exact ⟨(wrap64 (x7_1 + 1)),(by first|rfl|(simp;done)|(simp [*];done)),H',⟨by have:=HK1.out;omega⟩,by repeat (first|exact Drawn0.refl _|apply Drawn0.step)⟩
        ·rw [if_neg c10] at H
         have c10b0 : decide (57 < (bt a0 x7_1)) = false:=decide_eq_false c10
         clear c10
         have H':=Aside0.mk H
         clear H
         have p5 : 0 ≤ (x7_1 : Int):=of_decide_eq_true (by first|(with_reducible assumption)|assumption)
         have q5 : x7_1 < (a0.size : Int):=of_decide_eq_true (by first|(with_reducible assumption)|assumption)
         have hx5:=bt_at a0 x7_1
         replace p5:=eq_true p5
         replace q5:=eq_true q5
         go_wp2
         go_roundg k1
         case measure=>have:=HK1.out;omega
         case rel=>exact ⟨(wrap64 (x7_1 + 1)),(by first|rfl|(simp;done)|(simp [*];done)),H',⟨by have:=HK1.out;omega⟩,by repeat (first|exact Drawn0.refl _|apply Drawn0.step)⟩
      ·rw [if_neg c6] at H
       have c6b0 : decide ((bt a0 x7_1) < 97) = false:=decide_eq_false c6
       clear c6
       by_cases c13 : (bt a0 x7_1) > 122
       ·rw [if_pos c13] at H
        have c13b0 : decide (122 < (bt a0 x7_1)) = true:=decide_eq_true c13
        clear c13
        by_cases c14 : (bt a0 x7_1) < 48
        ·rw [if_pos c14] at H
         have c14b0 : decide ((bt a0 x7_1) < 48) = true:=decide_eq_true c14
         clear c14
         replace H:=Option.bind_eq_some_iff.mp H
         obtain ⟨t108,A150,H⟩:=H
         replace H : (if t108 < 0 then (some false) else (ckone_File.l0 k1 a0 (a0.size : Int) (wrap64 (x7_1 + 1)))) = some r:=H
         have A15:=Aside0.mk A150
         clear A150
         by_cases c16 : t108 < 0
         ·rw [if_pos c16] at H
          have c16b0 : decide (t108 < 0) = true:=decide_eq_true c16
          clear c16
          obtain rfl:=Option.some.inj H
          have p5 : 0 ≤ (x7_1 : Int):=of_decide_eq_true (by first|(with_reducible assumption)|assumption)
          have q5 : x7_1 < (a0.size : Int):=of_decide_eq_true (by first|(with_reducible assumption)|assumption)
          have hx5:=bt_at a0 x7_1
          replace p5:=eq_true p5
          replace q5:=eq_true q5
          go_wp2_with (first|(go_at_call 47;(with_reducible refine (strings_IndexByte.calls (⟨#[46,95,45,47]⟩ : ByteArray) (bt a0 x7_1) t108 _ A15.out).mono ?_);rintro e w' ⟨rfl,⟨nd,rfl⟩⟩))
          go_ret
          exact ⟨by first|rfl|(simp;done)|(simp [*];done),by repeat (first|exact Drawn0.refl _|apply Drawn0.step)⟩
         ·rw [if_neg c16] at H
          have c16b0 : decide (t108 < 0) = false:=decide_eq_false c16
          clear c16
          have H':=Aside0.mk H
          clear H
          have p5 : 0 ≤ (x7_1 : Int):=of_decide_eq_true (by first|(with_reducible assumption)|assumption)
          have q5 : x7_1 < (a0.size : Int):=of_decide_eq_true (by first|(with_reducible assumption)|assumption)
          have hx5:=bt_at a0 x7_1
          replace p5:=eq_true p5
          replace q5:=eq_true q5
          go_wp2_with (first|(go_at_call 47;(with_reducible refine (strings_IndexByte.calls (⟨#[46,95,45,47]⟩ : ByteArray) (bt a0 x7_1) t108 _ A15.out).mono ?_);rintro e w' ⟨rfl,⟨nd,rfl⟩⟩))
          go_roundg k1
          case measure=>have:=HK1.out;omega
          case rel=>exact ⟨(wrap64 (x7_1 + 1)),(by first|rfl|(simp;done)|(simp [*];done)),H',⟨by have:=HK1.out;omega⟩,by repeat (first|exact Drawn0.refl _|apply Drawn0.step)⟩
        ·rw [if_neg c14] at H
         have c14b0 : decide ((bt a0 x7_1) < 48) = false:=decide_eq_false c14
         clear c14
         by_cases c17 : (bt a0 x7_1) > 57
         ·rw [if_pos c17] at H
          have c17b0 : decide (57 < (bt a0 x7_1)) = true:=decide_eq_true c17
          clear c17
          replace H:=Option.bind_eq_some_iff.mp H
          obtain ⟨t109,A180,H⟩:=H
          replace H : (if t109 < 0 then (some false) else (ckone_File.l0 k1 a0 (a0.size : Int) (wrap64 (x7_1 + 1)))) = some r:=H
          have A18:=Aside0.mk A180
          clear A180
          by_cases c19 : t109 < 0
          ·rw [if_pos c19] at H
           have c19b0 : decide (t109 < 0) = true:=decide_eq_true c19
           clear c19
           obtain rfl:=Option.some.inj H
           have p5 : 0 ≤ (x7_1 : Int):=of_decide_eq_true (by first|(with_reducible assumption)|assumption)
           have q5 : x7_1 < (a0.size : Int):=of_decide_eq_true (by first|(with_reducible assumption)|assumption)
           have hx5:=bt_at a0 x7_1
           replace p5:=eq_true p5
           replace q5:=eq_true q5
           go_wp2_with (first|(go_at_call 47;(with_reducible refine (strings_IndexByte.calls (⟨#[46,95,45,47]⟩ : ByteArray) (bt a0 x7_1) t109 _ A18.out).mono ?_);rintro e w' ⟨rfl,⟨nd,rfl⟩⟩))
           go_ret
           exact ⟨by first|rfl|(simp;done)|(simp [*];done),by repeat (first|exact Drawn0.refl _|apply Drawn0.step)⟩
          ·rw [if_neg c19] at H
           have c19b0 : decide (t109 < 0) = false:=decide_eq_false c19
           clear c19
           have H':=Aside0.mk H
           clear H
           have p5 : 0 ≤ (x7_1 : Int):=of_decide_eq_true (by first|(with_reducible assumption)|assumption)
           have q5 : x7_1 < (a0.size : Int):=of_decide_eq_true (by first|(with_reducible assumption)|assumption)
           have hx5:=bt_at a0 x7_1
           replace p5:=eq_true p5
           replace q5:=eq_true q5
           go_wp2_with (first|(go_at_call 47;(with_reducible refine (strings_IndexByte.calls (⟨#[46,95,45,47]⟩ : ByteArray) (bt a0 x7_1) t109 _ A18.out).mono ?_);rintro e w' ⟨rfl,⟨nd,rfl⟩⟩))
           go_roundg k1
           case measure=>have:=HK1.out;omega
           case rel=>exact ⟨(wrap64 (x7_1 + 1)),(by first|rfl|(simp;done)|(simp [*];done)),H',⟨by have:=HK1.out;omega⟩,by repeat (first|exact Drawn0.refl _|apply Drawn0.step)⟩
         ·rw [if_neg c17] at H
          have c17b0 : decide (57 < (bt a0 x7_1)) = false:=decide_eq_false c17
          clear c17
          have H':=Aside0.mk H
          clear H
          have p5 : 0 ≤ (x7_1 : Int):=of_decide_eq_true (by first|(with_reducible assumption)|assumption)
          have q5 : x7_1 < (a0.size : Int):=of_decide_eq_true (by first|(with_reducible assumption)|assumption)
          have hx5:=bt_at a0 x7_1
          replace p5:=eq_true p5
          replace q5:=eq_true q5
          go_wp2
          go_roundg k1
          case measure=>have:=HK1.out;omega
          case rel=>exact ⟨(wrap64 (x7_1 + 1)),(by first|rfl|(simp;done)|(simp [*];done)),H',⟨by have:=HK1.out;omega⟩,by repeat (first|exact Drawn0.refl _|apply Drawn0.step)⟩
       ·rw [if_neg c13] at H
        have c13b0 : decide (122 < (bt a0 x7_1)) = false:=decide_eq_false c13
        clear c13
        have H':=Aside0.mk H
        clear H
        have p5 : 0 ≤ (x7_1 : Int):=of_decide_eq_true (by first|(with_reducible assumption)|assumption)
        have q5 : x7_1 < (a0.size : Int):=of_decide_eq_true (by first|(with_reducible assumption)|assumption)
        have hx5:=bt_at a0 x7_1
        replace p5:=eq_true p5
        replace q5:=eq_true q5
        go_wp2
        go_roundg k1
        case measure=>have:=HK1.out;omega
        case rel=>exact ⟨(wrap64 (x7_1 + 1)),(by first|rfl|(simp;done)|(simp [*];done)),H',⟨by have:=HK1.out;omega⟩,by repeat (first|exact Drawn0.refl _|apply Drawn0.step)⟩
     ·rw [if_neg c4] at H
      exact absurd H (by simp)
    ·rw [if_neg c3] at H
     exact absurd H (by simp)
   ·rw [if_neg c2] at H
    have c2b0 : decide (x7_1 < (a0.size : Int)) = false:=decide_eq_false c2
    clear c2
    by_cases c20 : a0.toList = ([] : List UInt8)
    ·rw [if_pos c20] at H
     have c20b0 : (a0.toList == ([] : List UInt8)) = true:=beq_iff_eq.mpr c20
     have c20b1 : (a0.toList != ([] : List UInt8)) = false:=bne_eq_false_iff_eq.mpr c20
     clear c20
     obtain rfl:=Option.some.inj H
     go_wp2
     go_ret
     exact ⟨by first|rfl|(simp;done)|(simp [*];done),by repeat (first|exact Drawn0.refl _|apply Drawn0.step)⟩
    ·rw [if_neg c20] at H
     have c20b0 : (a0.toList == ([] : List UInt8)) = false:=beq_eq_false_iff_ne.mpr c20
     have c20b1 : (a0.toList != ([] : List UInt8)) = true:=bne_iff_ne.mpr c20
     obtain rfl:=Option.some.inj H
     go_wp2
     go_ret
     exact ⟨by first|rfl|(simp;done)|(simp [*];done),by repeat (first|exact Drawn0.refl _|apply Drawn0.step)⟩

end Go.Proofs.YtpmbdcljphpcnaaDoor.GC2
