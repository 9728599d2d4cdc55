/- Written by this session's own program (wip/gen.py) out of the translation: plain Lean functions of the Go functions, and proofs that the calls come to their answers. No conditions beside those in the statements. -/
import Derived.Test.YtpmbdcljphpcnaaDoorGC2x0
import Derived.Test.YtpmbdcljphpcnaaDoorGC2x1
import Derived.Test.YtpmbdcljphpcnaaDoorGC2x2
import Derived.Test.YtpmbdcljphpcnaaDoorGC2Index
namespace Go.Proofs.YtpmbdcljphpcnaaDoor.GC2
open Go.RowKit Go.Proofs.YtpmbdcljphpcnaaDoorW.PrintWords Go.Proofs.YtpmbdcljphpcnaaDoorW.PrintLast Go.Proofs.YtpmbdcljphpcnaaDoorW.PrintMore
attribute [local go_sem] eY eZ fJ fK eP eT fq fu
set_option linter.unusedVariables false
set_option linter.unusedSimpArgs false
def bQ.l0 : Nat → ByteArray → Int → Int → Option (Bool)
 | 0,_,_,_=>none
 | k + 1,x0,x6,x7=>if x7 < x6 then (if 0 ≤ x7 then (if x7 < (x0.size : Int) then (if (bt x0 x7) < 97 then (if (bt x0 x7) < 48 then ((strings_IndexByte.f (⟨#[46,95,45,47]⟩ : ByteArray) (bt x0 x7)).bind fun xM=>(if xM < 0 then (some false) else (bQ.l0 k x0 x6 (wrap64 (x7 + 1))))) else (if (bt x0 x7) > 57 then ((strings_IndexByte.f (⟨#[46,95,45,47]⟩ : ByteArray) (bt x0 x7)).bind fun t130=>(if t130 < 0 then (some false) else (bQ.l0 k x0 x6 (wrap64 (x7 + 1))))) else (bQ.l0 k x0 x6 (wrap64 (x7 + 1))))) else (if (bt x0 x7) > 122 then (if (bt x0 x7) < 48 then ((strings_IndexByte.f (⟨#[46,95,45,47]⟩ : ByteArray) (bt x0 x7)).bind fun t131=>(if t131 < 0 then (some false) else (bQ.l0 k x0 x6 (wrap64 (x7 + 1))))) else (if (bt x0 x7) > 57 then ((strings_IndexByte.f (⟨#[46,95,45,47]⟩ : ByteArray) (bt x0 x7)).bind fun xO=>(if xO < 0 then (some false) else (bQ.l0 k x0 x6 (wrap64 (x7 + 1))))) else (bQ.l0 k x0 x6 (wrap64 (x7 + 1))))) else (bQ.l0 k x0 x6 (wrap64 (x7 + 1))))) else (none)) else (none)) else (if x0.toList = ([] : List UInt8) then (some false) else (some (decide ((x0.size : Int) ≤ 64))))
def bQ.f (k : Nat) (a0 : ByteArray) : Option (Bool):=bQ.l0 k a0 (a0.size : Int) 0
theorem bQ.dO : ∀ k,(∀ y0 y1 y2,LeO (bQ.l0 k y0 y1 y2) (bQ.l0 (k + 1) y0 y1 y2))
 | 0=>fun _ _ _ r h=>by simp [bQ.l0] at h
 | k + 1=>by
  have xV:=bQ.dO k
  ·intro y0 y1 y2
   unfold bQ.l0
   repeat' first
   | (with_reducible exact xV _ _ _)
   | (with_reducible exact LeO.refl _)
   | (with_reducible exact LeO.none _)
   | (with_reducible refine LeO.ite ?_ ?_)
   | (with_reducible refine LeO.bind ?_ (fun _=>?_))
   | exact xV _ _ _
   | exact LeO.none _
   | refine LeO.ite ?_ ?_
   | refine LeO.bind ?_ (fun _=>?_)
theorem bQ.mono : ∀ a0 k,LeO (bQ.f k a0) (bQ.f (k + 1) a0):=by
 intro a0 k
 have xV:=bQ.dO k
 unfold bQ.f
 repeat' first
   | (with_reducible exact xV _ _ _)
   | (with_reducible exact LeO.refl _)
   | (with_reducible exact LeO.none _)
   | (with_reducible refine LeO.ite ?_ ?_)
   | (with_reducible refine LeO.bind ?_ (fun _=>?_))
   | exact xV _ _ _
   | exact LeO.none _
   | refine LeO.ite ?_ ?_
   | refine LeO.bind ?_ (fun _=>?_)
set_option maxHeartbeats 8000000 in
set_option maxRecDepth 100000 in
theorem bQ.calls (k : Nat) (a0 : ByteArray) (r : Bool) (w : World) (h : bQ.f k a0 = some r) :
  Calls Tryd.prog 18 #[.string a0] w fun e w'=>e = .returned (.bool r) ∧ Drawn0 w w':=by
 have H : (bQ.l0 k a0 (a0.size : Int) 0) = some r:=h
 clear h
 have H':=Aside0.mk H
 clear H
 go_enter Tryd.func18,Tryd.ntmps18
 go_wp2
 go_loopg [7] k (fun kq v7 w'=>∃ (xJ : Int),v7 = .int .i64 xJ ∧ Aside0 (bQ.l0 kq a0 (a0.size : Int) xJ = some r) ∧ Aside0 (kq ≤ k) ∧ Drawn0 w w')
 case atStart=>exact ⟨(0),(by first|rfl|(simp;done)|(simp [*];done)|exact congrArg Value.bool (bZ _)|exact congrArg Value.bool (bZ _).symm),H',⟨Nat.le_refl _⟩,by repeat (first|exact Drawn0.refl _|apply Drawn0.step)⟩
 case round =>
  clear H'
  try clear c1
  obtain ⟨xJ,rfl,HA,xQ,⟨m1,rfl⟩⟩:=hrel
  cases gk with
  | zero=>exact absurd HA.out (by simp [bQ.l0])
  | succ k1 =>
   have H:=HA.out
   clear HA
   simp only [bQ.l0] at H
   by_cases c2 : xJ < (a0.size : Int)
   ·rw [if_pos c2] at H
    have c2b0 : decide (xJ < (a0.size : Int)) = true:=decide_eq_true c2
    clear c2
    by_cases c3 : 0 ≤ xJ
    ·rw [if_pos c3] at H
     have c3b0 : decide (0 ≤ xJ) = true:=decide_eq_true c3
     clear c3
     by_cases c4 : xJ < (a0.size : Int)
     ·rw [if_pos c4] at H
      have c4b0 : decide (xJ < (a0.size : Int)) = true:=decide_eq_true c4
      clear c4
      by_cases c6 : (bt a0 xJ) < 97
      ·rw [if_pos c6] at H
       have c6b0 : decide ((bt a0 xJ) < 97) = true:=decide_eq_true c6
       clear c6
       by_cases c7 : (bt a0 xJ) < 48
       ·rw [if_pos c7] at H
        have c7b0 : decide ((bt a0 xJ) < 48) = true:=decide_eq_true c7
        clear c7
        replace H:=Option.bind_eq_some_iff.mp H
        obtain ⟨xM,yP,H⟩:=H
        replace H : (if xM < 0 then (some false) else (bQ.l0 k1 a0 (a0.size : Int) (wrap64 (xJ + 1)))) = some r:=H
        have A8:=Aside0.mk yP
        clear yP
        by_cases c9 : xM < 0
        ·rw [if_pos c9] at H
         have c9b0 : decide (xM < 0) = true:=decide_eq_true c9
         clear c9
         obtain rfl:=Option.some.inj H
         have p5 : 0 ≤ (xJ : Int):=of_decide_eq_true (by first|(with_reducible assumption)|assumption)
         have q5 : xJ < (a0.size : Int):=of_decide_eq_true (by first|(with_reducible assumption)|assumption)
         have hx5:=dx a0 xJ
         replace p5:=eq_true p5
         replace q5:=eq_true q5
         go_wp2_with (first|(go_at_call 47;(with_reducible refine (strings_IndexByte.calls (⟨#[46,95,45,47]⟩ : ByteArray) (bt a0 xJ) xM _ A8.out).mono ?_);rintro e w' ⟨rfl,⟨nd,rfl⟩⟩))
         go_ret
         exact ⟨by first|rfl|(simp;done)|(simp [*];done),by repeat (first|exact Drawn0.refl _|apply Drawn0.step)⟩
        ·rw [if_neg c9] at H
         have c9b0 : decide (xM < 0) = false:=decide_eq_false c9
         clear c9
         have H':=Aside0.mk H
         clear H
         have p5 : 0 ≤ (xJ : Int):=of_decide_eq_true (by first|(with_reducible assumption)|assumption)
         have q5 : xJ < (a0.size : Int):=of_decide_eq_true (by first|(with_reducible assumption)|assumption)
         have hx5:=dx a0 xJ
         replace p5:=eq_true p5
         replace q5:=eq_true q5
         go_wp2_with (first|(go_at_call 47;(with_reducible refine (strings_IndexByte.calls (⟨#[46,95,45,47]⟩ : ByteArray) (bt a0 xJ) xM _ A8.out).mono ?_);rintro e w' ⟨rfl,⟨nd,rfl⟩⟩))
         go_roundg k1
         case measure=>have:=xQ.out;omega
         case rel=>exact ⟨(wrap64 (xJ + 1)),(by first|rfl|(simp;done)|(simp [*];done)|exact congrArg Value.bool (bZ _)|exact congrArg Value.bool (bZ _).symm),H',⟨by have:=xQ.out;omega⟩,by repeat (first|exact Drawn0.refl _|apply Drawn0.step)⟩
       ·rw [if_neg c7] at H
        have c7b0 : decide ((bt a0 xJ) < 48) = false:=decide_eq_false c7
        clear c7
        by_cases c10 : (bt a0 xJ) > 57
        ·rw [if_pos c10] at H
         have c10b0 : decide (57 < (bt a0 xJ)) = true:=decide_eq_true c10
         clear c10
         replace H:=Option.bind_eq_some_iff.mp H
         obtain ⟨t130,yx,H⟩:=H
         replace H : (if t130 < 0 then (some false) else (bQ.l0 k1 a0 (a0.size : Int) (wrap64 (xJ + 1)))) = some r:=H
         have yQ:=Aside0.mk yx
         clear yx
         by_cases c12 : t130 < 0
         ·rw [if_pos c12] at H
          have c12b0 : decide (t130 < 0) = true:=decide_eq_true c12
          clear c12
          obtain rfl:=Option.some.inj H
          have p5 : 0 ≤ (xJ : Int):=of_decide_eq_true (by first|(with_reducible assumption)|assumption)
          have q5 : xJ < (a0.size : Int):=of_decide_eq_true (by first|(with_reducible assumption)|assumption)
          have hx5:=dx a0 xJ
          replace p5:=eq_true p5
          replace q5:=eq_true q5
          go_wp2_with (first|(go_at_call 47;(with_reducible refine (strings_IndexByte.calls (⟨#[46,95,45,47]⟩ : ByteArray) (bt a0 xJ) t130 _ yQ.out).mono ?_);rintro e w' ⟨rfl,⟨nd,rfl⟩⟩))
          go_ret
          exact ⟨by first|rfl|(simp;done)|(simp [*];done),by repeat (first|exact Drawn0.refl _|apply Drawn0.step)⟩
         ·rw [if_neg c12] at H
          have c12b0 : decide (t130 < 0) = false:=decide_eq_false c12
          clear c12
          have H':=Aside0.mk H
          clear H
          have p5 : 0 ≤ (xJ : Int):=of_decide_eq_true (by first|(with_reducible assumption)|assumption)
          have q5 : xJ < (a0.size : Int):=of_decide_eq_true (by first|(with_reducible assumption)|assumption)
          have hx5:=dx a0 xJ
          replace p5:=eq_true p5
          replace q5:=eq_true q5
          go_wp2_with (first|(go_at_call 47;(with_reducible refine (strings_IndexByte.calls (⟨#[46,95,45,47]⟩ : ByteArray) (bt a0 xJ) t130 _ yQ.out).mono ?_);rintro e w' ⟨rfl,⟨nd,rfl⟩⟩))
          go_roundg k1
          case measure=>have:=xQ.out;omega
          case rel=>exact ⟨(wrap64 (xJ + 1)),(by first|rfl|(simp;done)|(simp [*];done)|exact congrArg Value.bool (bZ _)|exact congrArg Value.bool (bZ _).symm),H',⟨by have:=xQ.out;omega⟩,by repeat (first|exact Drawn0.refl _|apply Drawn0.step)⟩
        ·rw [if_neg c10] at H
         have c10b0 : decide (57 < (bt a0 xJ)) = false:=decide_eq_false c10
         clear c10
         have H':=Aside0.mk H
         clear H
         have p5 : 0 ≤ (xJ : Int):=of_decide_eq_true (by first|(with_reducible assumption)|assumption)
         have q5 : xJ < (a0.size : Int):=of_decide_eq_true (by first|(with_reducible assumption)|assumption)
         have hx5:=dx a0 xJ
         replace p5:=eq_true p5
         replace q5:=eq_true q5
         go_wp2
         go_roundg k1
         case measure=>have:=xQ.out;omega
         case rel=>exact ⟨(wrap64 (xJ + 1)),(by first|rfl|(simp;done)|(simp [*];done)|exact congrArg Value.bool (bZ _)|exact congrArg Value.bool (bZ _).symm),H',⟨by have:=xQ.out;omega⟩,by repeat (first|exact Drawn0.refl _|apply Drawn0.step)⟩
      ·rw [if_neg c6] at H
       have c6b0 : decide ((bt a0 xJ) < 97) = false:=decide_eq_false c6
       clear c6
       by_cases c13 : (bt a0 xJ) > 122
       ·rw [if_pos c13] at H
        have c13b0 : decide (122 < (bt a0 xJ)) = true:=decide_eq_true c13
        clear c13
        by_cases c14 : (bt a0 xJ) < 48
        ·rw [if_pos c14] at H
         have c14b0 : decide ((bt a0 xJ) < 48) = true:=decide_eq_true c14
         clear c14
         replace H:=Option.bind_eq_some_iff.mp H
         obtain ⟨t131,yA,H⟩:=H
         replace H : (if t131 < 0 then (some false) else (bQ.l0 k1 a0 (a0.size : Int) (wrap64 (xJ + 1)))) = some r:=H
         have yR:=Aside0.mk yA
         clear yA
         by_cases c16 : t131 < 0
         ·rw [if_pos c16] at H
          have c16b0 : decide (t131 < 0) = true:=decide_eq_true c16
          clear c16
          obtain rfl:=Option.some.inj H
          have p5 : 0 ≤ (xJ : Int):=of_decide_eq_true (by first|(with_reducible assumption)|assumption)
          have q5 : xJ < (a0.size : Int):=of_decide_eq_true (by first|(with_reducible assumption)|assumption)
          have hx5:=dx a0 xJ
          replace p5:=eq_true p5
          replace q5:=eq_true q5
          go_wp2_with (first|(go_at_call 47;(with_reducible refine (strings_IndexByte.calls (⟨#[46,95,45,47]⟩ : ByteArray) (bt a0 xJ) t131 _ yR.out).mono ?_);rintro e w' ⟨rfl,⟨nd,rfl⟩⟩))
          go_ret
          exact ⟨by first|rfl|(simp;done)|(simp [*];done),by repeat (first|exact Drawn0.refl _|apply Drawn0.step)⟩
         ·rw [if_neg c16] at H
          have c16b0 : decide (t131 < 0) = false:=decide_eq_false c16
          clear c16
          have H':=Aside0.mk H
          clear H
          have p5 : 0 ≤ (xJ : Int):=of_decide_eq_true (by first|(with_reducible assumption)|assumption)
          have q5 : xJ < (a0.size : Int):=of_decide_eq_true (by first|(with_reducible assumption)|assumption)
          have hx5:=dx a0 xJ
          replace p5:=eq_true p5
          replace q5:=eq_true q5
          go_wp2_with (first|(go_at_call 47;(with_reducible refine (strings_IndexByte.calls (⟨#[46,95,45,47]⟩ : ByteArray) (bt a0 xJ) t131 _ yR.out).mono ?_);rintro e w' ⟨rfl,⟨nd,rfl⟩⟩))
          go_roundg k1
          case measure=>have:=xQ.out;omega
          case rel=>exact ⟨(wrap64 (xJ + 1)),(by first|rfl|(simp;done)|(simp [*];done)|exact congrArg Value.bool (bZ _)|exact congrArg Value.bool (bZ _).symm),H',⟨by have:=xQ.out;omega⟩,by repeat (first|exact Drawn0.refl _|apply Drawn0.step)⟩
        ·rw [if_neg c14] at H
         have c14b0 : decide ((bt a0 xJ) < 48) = false:=decide_eq_false c14
         clear c14
         by_cases c17 : (bt a0 xJ) > 57
         ·rw [if_pos c17] at H
          have c17b0 : decide (57 < (bt a0 xJ)) = true:=decide_eq_true c17
          clear c17
          replace H:=Option.bind_eq_some_iff.mp H
          obtain ⟨xO,yB,H⟩:=H
          replace H : (if xO < 0 then (some false) else (bQ.l0 k1 a0 (a0.size : Int) (wrap64 (xJ + 1)))) = some r:=H
          have yS:=Aside0.mk yB
          clear yB
          by_cases c19 : xO < 0
          ·rw [if_pos c19] at H
           have c19b0 : decide (xO < 0) = true:=decide_eq_true c19
           clear c19
           obtain rfl:=Option.some.inj H
           have p5 : 0 ≤ (xJ : Int):=of_decide_eq_true (by first|(with_reducible assumption)|assumption)
           have q5 : xJ < (a0.size : Int):=of_decide_eq_true (by first|(with_reducible assumption)|assumption)
           have hx5:=dx a0 xJ
           replace p5:=eq_true p5
           replace q5:=eq_true q5
           go_wp2_with (first|(go_at_call 47;(with_reducible refine (strings_IndexByte.calls (⟨#[46,95,45,47]⟩ : ByteArray) (bt a0 xJ) xO _ yS.out).mono ?_);rintro e w' ⟨rfl,⟨nd,rfl⟩⟩))
           go_ret
           exact ⟨by first|rfl|(simp;done)|(simp [*];done),by repeat (first|exact Drawn0.refl _|apply Drawn0.step)⟩
          ·rw [if_neg c19] at H
           have c19b0 : decide (xO < 0) = false:=decide_eq_false c19
           clear c19
           have H':=Aside0.mk H
           clear H
           have p5 : 0 ≤ (xJ : Int):=of_decide_eq_true (by first|(with_reducible assumption)|assumption)
           have q5 : xJ < (a0.size : Int):=of_decide_eq_true (by first|(with_reducible assumption)|assumption)
           have hx5:=dx a0 xJ
           replace p5:=eq_true p5
           replace q5:=eq_true q5
           go_wp2_with (first|(go_at_call 47;(with_reducible refine (strings_IndexByte.calls (⟨#[46,95,45,47]⟩ : ByteArray) (bt a0 xJ) xO _ yS.out).mono ?_);rintro e w' ⟨rfl,⟨nd,rfl⟩⟩))
           go_roundg k1
           case measure=>have:=xQ.out;omega
           case rel=>exact ⟨(wrap64 (xJ + 1)),(by first|rfl|(simp;done)|(simp [*];done)|exact congrArg Value.bool (bZ _)|exact congrArg Value.bool (bZ _).symm),H',⟨by have:=xQ.out;omega⟩,by repeat (first|exact Drawn0.refl _|apply Drawn0.step)⟩
         ·rw [if_neg c17] at H
          have c17b0 : decide (57 < (bt a0 xJ)) = false:=decide_eq_false c17
          clear c17
          have H':=Aside0.mk H
          clear H
          have p5 : 0 ≤ (xJ : Int):=of_decide_eq_true (by first|(with_reducible assumption)|assumption)
          have q5 : xJ < (a0.size : Int):=of_decide_eq_true (by first|(with_reducible assumption)|assumption)
          have hx5:=dx a0 xJ
          replace p5:=eq_true p5
          replace q5:=eq_true q5
          go_wp2
          go_roundg k1
          case measure=>have:=xQ.out;omega
          case rel=>exact ⟨(wrap64 (xJ + 1)),(by first|rfl|(simp;done)|(simp [*];done)|exact congrArg Value.bool (bZ _)|exact congrArg Value.bool (bZ _).symm),H',⟨by have:=xQ.out;omega⟩,by repeat (first|exact Drawn0.refl _|apply Drawn0.step)⟩
       ·rw [if_neg c13] at H
        have c13b0 : decide (122 < (bt a0 xJ)) = false:=decide_eq_false c13
        clear c13
        have H':=Aside0.mk H
        clear H
        have p5 : 0 ≤ (xJ : Int):=of_decide_eq_true (by first|(with_reducible assumption)|assumption)
        have q5 : xJ < (a0.size : Int):=of_decide_eq_true (by first|(with_reducible assumption)|assumption)
        have hx5:=dx a0 xJ
        replace p5:=eq_true p5
        replace q5:=eq_true q5
        go_wp2
        go_roundg k1
        case measure=>have:=xQ.out;omega
        case rel=>exact ⟨(wrap64 (xJ + 1)),(by first|rfl|(simp;done)|(simp [*];done)|exact congrArg Value.bool (bZ _)|exact congrArg Value.bool (bZ _).symm),H',⟨by have:=xQ.out;omega⟩,by repeat (first|exact Drawn0.refl _|apply Drawn0.step)⟩
     ·rw [if_neg c4] at H
      exact absurd H (by simp)
    ·rw [if_neg c3] at H
     exact absurd H (by simp)
   ·rw [if_neg c2] at H
    have c2b0 : decide (xJ < (a0.size : Int)) = false:=decide_eq_false c2
    clear c2
    by_cases c20 : a0.toList = ([] : List UInt8)
    ·rw [if_pos c20] at H
     have c20b0 : (a0.toList == ([] : List UInt8)) = true:=beq_iff_eq.mpr c20
     have c20b1 : (a0.toList != ([] : List UInt8)) = false:=bne_eq_false_iff_eq.mpr c20
     clear c20
     obtain rfl:=Option.some.inj H
     go_wp2
     go_ret
     exact ⟨by first|rfl|(simp;done)|(simp [*];done),by repeat (first|exact Drawn0.refl _|apply Drawn0.step)⟩
    ·rw [if_neg c20] at H
     have c20b0 : (a0.toList == ([] : List UInt8)) = false:=beq_eq_false_iff_ne.mpr c20
     have c20b1 : (a0.toList != ([] : List UInt8)) = true:=bne_iff_ne.mpr c20
     obtain rfl:=Option.some.inj H
     go_wp2
     go_ret
     exact ⟨by first|rfl|(simp;done)|(simp [*];done),by repeat (first|exact Drawn0.refl _|apply Drawn0.step)⟩
mutual
def bI.j0 : Nat → ByteArray → Bool → Option (Bool)
 | 0,_,_=>none
 | k + 1,x0,yY=>if yY = true then (some false) else (bI.l0 k x0 (x0.size : Int) 0)
def bI.l0 : Nat → ByteArray → Int → Int → Option (Bool)
 | 0,_,_,_=>none
 | k + 1,x0,x24,x25=>if x25 < x24 then (if 0 ≤ x25 then (if x25 < (x0.size : Int) then ((dP.f (bt x0 x25)).bind fun xZ=>(if xZ = true then (bI.l0 k x0 x24 (wrap64 (x25 + 1))) else ((eG.f (bt x0 x25)).bind fun xP=>(if xP = true then (bI.l0 k x0 x24 (wrap64 (x25 + 1))) else ((dA.f (bt x0 x25)).bind fun xK=>(if xK = true then (bI.l0 k x0 x24 (wrap64 (x25 + 1))) else ((strings_IndexByte.f (⟨#[46,95,45,47,58,64]⟩ : ByteArray) (bt x0 x25)).bind fun t138=>(if t138 < 0 then (some false) else (bI.l0 k x0 x24 (wrap64 (x25 + 1))))))))))) else (none)) else (none)) else (some true)
end
def bI.f (k : Nat) (a0 : ByteArray) : Option (Bool):=if a0.toList = ([] : List UInt8) then (bI.j0 k a0 true) else (if (a0.size : Int) > 255 then (bI.j0 k a0 true) else (if 0 < (a0.size : Int) then ((dP.f (bt a0 0)).bind fun xW=>(if xW = true then (bI.j0 k a0 false) else ((dA.f (bt a0 0)).bind fun xL=>(bI.j0 k a0 (!xL))))) else (none)))
theorem bI.dO : ∀ k,(∀ y0 y1,LeO (bI.j0 k y0 y1) (bI.j0 (k + 1) y0 y1)) ∧ (∀ y0 y1 y2,LeO (bI.l0 k y0 y1 y2) (bI.l0 (k + 1) y0 y1 y2))
 | 0=>⟨fun _ _ r h=>by simp [bI.j0] at h,fun _ _ _ r h=>by simp [bI.l0] at h⟩
 | k + 1=>by
  obtain ⟨xV,ih1⟩:=bI.dO k
  refine ⟨?_,?_⟩
  ·intro y0 y1
   unfold bI.j0
   repeat' first
   | (with_reducible exact xV _ _)
   | (with_reducible exact ih1 _ _ _)
   | (with_reducible exact LeO.refl _)
   | (with_reducible exact LeO.none _)
   | (with_reducible refine LeO.ite ?_ ?_)
   | (with_reducible refine LeO.bind ?_ (fun _=>?_))
   | exact xV _ _
   | exact ih1 _ _ _
   | exact LeO.none _
   | refine LeO.ite ?_ ?_
   | refine LeO.bind ?_ (fun _=>?_)
  ·intro y0 y1 y2
   unfold bI.l0
   repeat' first
   | (with_reducible exact xV _ _)
   | (with_reducible exact ih1 _ _ _)
   | (with_reducible exact LeO.refl _)
   | (with_reducible exact LeO.none _)
   | (with_reducible refine LeO.ite ?_ ?_)
   | (with_reducible refine LeO.bind ?_ (fun _=>?_))
   | exact xV _ _
   | exact ih1 _ _ _
   | exact LeO.none _
   | refine LeO.ite ?_ ?_
   | refine LeO.bind ?_ (fun _=>?_)
theorem bI.mono : ∀ a0 k,LeO (bI.f k a0) (bI.f (k + 1) a0):=by
 intro a0 k
 obtain ⟨xV,ih1⟩:=bI.dO k
 unfold bI.f
 repeat' first
   | (with_reducible exact xV _ _)
   | (with_reducible exact ih1 _ _ _)
   | (with_reducible exact LeO.refl _)
   | (with_reducible exact LeO.none _)
   | (with_reducible refine LeO.ite ?_ ?_)
   | (with_reducible refine LeO.bind ?_ (fun _=>?_))
   | exact xV _ _
   | exact ih1 _ _ _
   | exact LeO.none _
   | refine LeO.ite ?_ ?_
   | refine LeO.bind ?_ (fun _=>?_)
set_option maxHeartbeats 8000000 in
set_option maxRecDepth 100000 in
theorem bI.calls (k : Nat) (a0 : ByteArray) (r : Bool) (w : World) (h : bI.f k a0 = some r) :
  Calls Tryd.prog 42 #[.string a0] w fun e w'=>e = .returned (.bool r) ∧ Drawn0 w w':=by
 have H : (if a0.toList = ([] : List UInt8) then (bI.j0 k a0 true) else (if (a0.size : Int) > 255 then (bI.j0 k a0 true) else (if 0 < (a0.size : Int) then ((dP.f (bt a0 0)).bind fun xW=>(if xW = true then (bI.j0 k a0 false) else ((dA.f (bt a0 0)).bind fun xL=>(bI.j0 k a0 (!xL))))) else (none)))) = some r:=h
 clear h
 have yL:=Aside0.mk H
 clear H
 go_enter Tryd.func42,Tryd.ntmps42
 go_upto_region 1 with (fail)
 go_cut [22] (fun v22 wc=>∃ (kq : Nat) (xR : Bool),v22 = .bool xR ∧ Aside0 (bI.j0 kq a0 xR = some r) ∧ Aside0 (kq ≤ k) ∧ Drawn0 w wc)
 case first =>
  have H:=yL.out
  clear yL
  by_cases c3 : a0.toList = ([] : List UInt8)
  ·rw [if_pos c3] at H
   have c3b0 : (a0.toList == ([] : List UInt8)) = true:=beq_iff_eq.mpr c3
   have c3b1 : (a0.toList != ([] : List UInt8)) = false:=bne_eq_false_iff_eq.mpr c3
   clear c3
   (first|rw [c3b0]|(simp only [bD,bG];rw [c3b0])|skip)
   have H':=Aside0.mk H
   clear H
   go_wp2
   go_meet
   case rel=>exact ⟨_,(true),(by first|rfl|(simp;done)|(simp [*];done)|exact congrArg Value.bool (bZ _)|exact congrArg Value.bool (bZ _).symm),H',⟨by first|omega|exact Nat.le_refl _⟩,by repeat (first|exact Drawn0.refl _|apply Drawn0.step)⟩
  ·rw [if_neg c3] at H
   have c3b0 : (a0.toList == ([] : List UInt8)) = false:=beq_eq_false_iff_ne.mpr c3
   have c3b1 : (a0.toList != ([] : List UInt8)) = true:=bne_iff_ne.mpr c3
   (first|rw [c3b0]|(simp only [bD,bG];rw [c3b0])|skip)
   by_cases c4 : (a0.size : Int) > 255
   ·rw [if_pos c4] at H
    have c4b0 : decide (255 < (a0.size : Int)) = true:=decide_eq_true c4
    have c4b1 : decide (255 < a0.size) = true:=decide_eq_true (by omega)
    clear c4
    have H':=Aside0.mk H
    clear H
    go_wp2
    go_meet
    case rel=>exact ⟨_,(true),(by first|rfl|(simp;done)|(simp [*];done)|exact congrArg Value.bool (bZ _)|exact congrArg Value.bool (bZ _).symm),H',⟨by first|omega|exact Nat.le_refl _⟩,by repeat (first|exact Drawn0.refl _|apply Drawn0.step)⟩
   ·rw [if_neg c4] at H
    have c4b0 : decide (255 < (a0.size : Int)) = false:=decide_eq_false c4
    have c4b1 : decide (255 < a0.size) = false:=decide_eq_false (by omega)
    clear c4
    by_cases c5 : 0 < (a0.size : Int)
    ·rw [if_pos c5] at H
     have c5b0 : decide (0 < (a0.size : Int)) = true:=decide_eq_true c5
     have c5b1 : decide (0 < a0.size) = true:=decide_eq_true (by omega)
     clear c5
     replace H:=Option.bind_eq_some_iff.mp H
     obtain ⟨xW,yT,H⟩:=H
     replace H : (if xW = true then (bI.j0 k a0 false) else ((dA.f (bt a0 0)).bind fun xL=>(bI.j0 k a0 (!xL)))) = some r:=H
     have A7:=Aside0.mk yT
     clear yT
     by_cases c8 : xW = true
     ·subst c8
      have H1 : (bI.j0 k a0 false) = some r:=by rw [if_pos rfl] at H;exact H
      clear H
      have H:=H1
      clear H1
      have H':=Aside0.mk H
      clear H
      have p6 : 0 ≤ (0 : Int):=(by omega)
      have q6 : 0 < a0.size:=(by have : (0 : Int) < (a0.size : Int):=of_decide_eq_true (by first|(with_reducible assumption)|assumption);omega)
      have hx6 : ∀ h : 0 < a0.size,((a0[0]'h).toNat : Int) = bt a0 0:=dx a0 0
      clear p6
      have yM : (0 < (a0.size : Int)) = True:=eq_true (of_decide_eq_true (by first|(with_reducible assumption)|assumption))
      replace q6:=eq_true q6
      go_wp2_with (first|(go_at_call 73;(with_reducible refine (dP.calls (bt a0 0) true _ A7.out).mono ?_);rintro e w' ⟨rfl,⟨nd,rfl⟩⟩))
      go_meet
      case rel=>exact ⟨_,(false),(by first|rfl|(simp;done)|(simp [*];done)|exact congrArg Value.bool (bZ _)|exact congrArg Value.bool (bZ _).symm),H',⟨by first|omega|exact Nat.le_refl _⟩,by repeat (first|exact Drawn0.refl _|apply Drawn0.step)⟩
     ·replace c8:=Bool.eq_false_iff.mpr c8
      subst c8
      have H1 : ((dA.f (bt a0 0)).bind fun xL=>(bI.j0 k a0 (!xL))) = some r:=by rw [if_neg (show ¬ (false = true) by decide)] at H;exact H
      clear H
      have H:=H1
      clear H1
      replace H:=Option.bind_eq_some_iff.mp H
      obtain ⟨xL,yC,H⟩:=H
      replace H : (bI.j0 k a0 (!xL)) = some r:=H
      have yZ:=Aside0.mk yC
      clear yC
      have H':=Aside0.mk H
      clear H
      have p6 : 0 ≤ (0 : Int):=(by omega)
      have q6 : 0 < a0.size:=(by have : (0 : Int) < (a0.size : Int):=of_decide_eq_true (by first|(with_reducible assumption)|assumption);omega)
      have hx6 : ∀ h : 0 < a0.size,((a0[0]'h).toNat : Int) = bt a0 0:=dx a0 0
      clear p6
      have yM : (0 < (a0.size : Int)) = True:=eq_true (of_decide_eq_true (by first|(with_reducible assumption)|assumption))
      replace q6:=eq_true q6
      go_wp2_with (first|(go_at_call 73;(with_reducible refine (dP.calls (bt a0 0) false _ A7.out).mono ?_);rintro e w' ⟨rfl,⟨nd,rfl⟩⟩;have p9 : 0 ≤ (0 : Int):=(by omega);have q9 : 0 < a0.size:=(by have : (0 : Int) < (a0.size : Int):=of_decide_eq_true (by first|(with_reducible assumption)|assumption);omega);have yU : ∀ h : 0 < a0.size,((a0[0]'h).toNat : Int) = bt a0 0:=dx a0 0;clear p9;have yV : (0 < (a0.size : Int)) = True:=eq_true (of_decide_eq_true (by first|(with_reducible assumption)|assumption));replace q9:=eq_true q9)|(go_at_call 74;(with_reducible refine (dA.calls (bt a0 0) xL _ yZ.out).mono ?_);rintro e w' ⟨rfl,⟨nd,rfl⟩⟩))
      go_meet
      case rel=>exact ⟨_,(!xL),(by first|rfl|(simp;done)|(simp [*];done)|exact congrArg Value.bool (bZ _)|exact congrArg Value.bool (bZ _).symm),H',⟨by first|omega|exact Nat.le_refl _⟩,by repeat (first|exact Drawn0.refl _|apply Drawn0.step)⟩
    ·rw [if_neg c5] at H
     exact absurd H (by simp)
 case rest =>
  clear yL
  try clear p2
  try clear c3
  try clear c3b0
  try clear c3b1
  try clear c4
  try clear c4b0
  try clear c4b1
  try clear c5
  try clear c5b0
  try clear c5b1
  try clear p6
  try clear q6
  try clear hx6
  try clear yM
  try clear c8
  try clear p9
  try clear q9
  try clear yU
  try clear yV
  try clear p6
  try clear p9
  try clear q6
  try clear q9
  obtain ⟨kq,xR,rfl,HA,yg,⟨za,rfl⟩⟩:=hcut
  cases kq with
  | zero=>exact absurd HA.out (by simp [bI.j0])
  | succ yN =>
   have H:=HA.out
   clear HA
   simp only [bI.j0] at H
   by_cases c11 : xR = true
   ·subst c11
    have H1 : (some false) = some r:=by rw [if_pos rfl] at H;exact H
    clear H
    have H:=H1
    clear H1
    obtain rfl:=Option.some.inj H
    go_wp2
    go_ret
    exact ⟨by first|rfl|(simp;done)|(simp [*];done),by repeat (first|exact Drawn0.refl _|apply Drawn0.step)⟩
   ·replace c11:=Bool.eq_false_iff.mpr c11
    subst c11
    have H1 : (bI.l0 yN a0 (a0.size : Int) 0) = some r:=by rw [if_neg (show ¬ (false = true) by decide)] at H;exact H
    clear H
    have H:=H1
    clear H1
    have H':=Aside0.mk H
    clear H
    go_wp2
    go_loopg [25] yN (fun kq v25 w'=>∃ (xI : Int),v25 = .int .i64 xI ∧ Aside0 (bI.l0 kq a0 (a0.size : Int) xI = some r) ∧ Aside0 (kq ≤ yN) ∧ Drawn0 w w')
    case atStart=>exact ⟨(0),(by first|rfl|(simp;done)|(simp [*];done)|exact congrArg Value.bool (bZ _)|exact congrArg Value.bool (bZ _).symm),H',⟨Nat.le_refl _⟩,by repeat (first|exact Drawn0.refl _|apply Drawn0.step)⟩
    case round =>
     clear H'
     try clear c1
     try clear p2
     try clear c3
     try clear c3b0
     try clear c3b1
     try clear c4
     try clear c4b0
     try clear c4b1
     try clear c5
     try clear c5b0
     try clear c5b1
     try clear p6
     try clear q6
     try clear hx6
     try clear yM
     try clear c8
     try clear p9
     try clear q9
     try clear yU
     try clear yV
     try clear c11
     try clear p2
     try clear p6
     try clear p9
     try clear q6
     try clear q9
     obtain ⟨xI,rfl,HA,yh,⟨m2,rfl⟩⟩:=hrel
     cases gk with
     | zero=>exact absurd HA.out (by simp [bI.l0])
     | succ k2 =>
      have H:=HA.out
      clear HA
      simp only [bI.l0] at H
      by_cases c12 : xI < (a0.size : Int)
      ·rw [if_pos c12] at H
       have c12b0 : decide (xI < (a0.size : Int)) = true:=decide_eq_true c12
       clear c12
       by_cases c13 : 0 ≤ xI
       ·rw [if_pos c13] at H
        have c13b0 : decide (0 ≤ xI) = true:=decide_eq_true c13
        clear c13
        by_cases c14 : xI < (a0.size : Int)
        ·rw [if_pos c14] at H
         have c14b0 : decide (xI < (a0.size : Int)) = true:=decide_eq_true c14
         clear c14
         replace H:=Option.bind_eq_some_iff.mp H
         obtain ⟨xZ,yD,H⟩:=H
         replace H : (if xZ = true then (bI.l0 k2 a0 (a0.size : Int) (wrap64 (xI + 1))) else ((eG.f (bt a0 xI)).bind fun xP=>(if xP = true then (bI.l0 k2 a0 (a0.size : Int) (wrap64 (xI + 1))) else ((dA.f (bt a0 xI)).bind fun xK=>(if xK = true then (bI.l0 k2 a0 (a0.size : Int) (wrap64 (xI + 1))) else ((strings_IndexByte.f (⟨#[46,95,45,47,58,64]⟩ : ByteArray) (bt a0 xI)).bind fun t138=>(if t138 < 0 then (some false) else (bI.l0 k2 a0 (a0.size : Int) (wrap64 (xI + 1)))))))))) = some r:=H
         have yE:=Aside0.mk yD
         clear yD
         by_cases c17 : xZ = true
         ·subst c17
          have H1 : (bI.l0 k2 a0 (a0.size : Int) (wrap64 (xI + 1))) = some r:=by rw [if_pos rfl] at H;exact H
          clear H
          have H:=H1
          clear H1
          have H':=Aside0.mk H
          clear H
          have xS : 0 ≤ (xI : Int):=of_decide_eq_true (by first|(with_reducible assumption)|assumption)
          have xU : xI < (a0.size : Int):=of_decide_eq_true (by first|(with_reducible assumption)|assumption)
          have yc:=dx a0 xI
          replace xS:=eq_true xS
          replace xU:=eq_true xU
          go_wp2_with (first|((with_reducible refine bK (f:=73) rfl ?_);refine dH (some 31) rfl rfl Tryd.func73 (by kernel_rfl) rfl #[.int .u8 (bt a0 xI)] rfl (by (try simp only [List.map_toArray,List.map_cons,List.map_nil]);first|done|rfl|(simp only [List.length_drop,List.length_take];rfl)|(simp (disch:=first|omega|(simp at *;omega)) only [dh,bY,dY];rfl)) ?_;(with_reducible refine (dP.calls (bt a0 xI) true _ yE.out).mono ?_);rintro e w' ⟨rfl,⟨nd,rfl⟩⟩;refine ⟨_,rfl,?_⟩))
          go_roundg k2
          case measure=>have:=yg.out;have:=yh.out;omega
          case rel=>exact ⟨(wrap64 (xI + 1)),(by first|rfl|(simp;done)|(simp [*];done)|exact congrArg Value.bool (bZ _)|exact congrArg Value.bool (bZ _).symm),H',⟨by have:=yg.out;have:=yh.out;omega⟩,by repeat (first|exact Drawn0.refl _|apply Drawn0.step)⟩
         ·replace c17:=Bool.eq_false_iff.mpr c17
          subst c17
          have H1 : ((eG.f (bt a0 xI)).bind fun xP=>(if xP = true then (bI.l0 k2 a0 (a0.size : Int) (wrap64 (xI + 1))) else ((dA.f (bt a0 xI)).bind fun xK=>(if xK = true then (bI.l0 k2 a0 (a0.size : Int) (wrap64 (xI + 1))) else ((strings_IndexByte.f (⟨#[46,95,45,47,58,64]⟩ : ByteArray) (bt a0 xI)).bind fun t138=>(if t138 < 0 then (some false) else (bI.l0 k2 a0 (a0.size : Int) (wrap64 (xI + 1))))))))) = some r:=by rw [if_neg (show ¬ (false = true) by decide)] at H;exact H
          clear H
          have H:=H1
          clear H1
          replace H:=Option.bind_eq_some_iff.mp H
          obtain ⟨xP,yF,H⟩:=H
          replace H : (if xP = true then (bI.l0 k2 a0 (a0.size : Int) (wrap64 (xI + 1))) else ((dA.f (bt a0 xI)).bind fun xK=>(if xK = true then (bI.l0 k2 a0 (a0.size : Int) (wrap64 (xI + 1))) else ((strings_IndexByte.f (⟨#[46,95,45,47,58,64]⟩ : ByteArray) (bt a0 xI)).bind fun t138=>(if t138 < 0 then (some false) else (bI.l0 k2 a0 (a0.size : Int) (wrap64 (xI + 1)))))))) = some r:=H
          have yK:=Aside0.mk yF
          clear yF
          by_cases c20 : xP = true
          ·subst c20
           have H1 : (bI.l0 k2 a0 (a0.size : Int) (wrap64 (xI + 1))) = some r:=by rw [if_pos rfl] at H;exact H
           clear H
           have H:=H1
           clear H1
           have H':=Aside0.mk H
           clear H
           have xS : 0 ≤ (xI : Int):=of_decide_eq_true (by first|(with_reducible assumption)|assumption)
           have xU : xI < (a0.size : Int):=of_decide_eq_true (by first|(with_reducible assumption)|assumption)
           have yc:=dx a0 xI
           replace xS:=eq_true xS
           replace xU:=eq_true xU
           go_wp2_with (first|((with_reducible refine bK (f:=73) rfl ?_);refine dH (some 31) rfl rfl Tryd.func73 (by kernel_rfl) rfl #[.int .u8 (bt a0 xI)] rfl (by (try simp only [List.map_toArray,List.map_cons,List.map_nil]);first|done|rfl|(simp only [List.length_drop,List.length_take];rfl)|(simp (disch:=first|omega|(simp at *;omega)) only [dh,bY,dY];rfl)) ?_;(with_reducible refine (dP.calls (bt a0 xI) false _ yE.out).mono ?_);rintro e w' ⟨rfl,⟨nd,rfl⟩⟩;refine ⟨_,rfl,?_⟩;have xX : 0 ≤ (xI : Int):=of_decide_eq_true (by first|(with_reducible assumption)|assumption);have xY : xI < (a0.size : Int):=of_decide_eq_true (by first|(with_reducible assumption)|assumption);have yu:=dx a0 xI;replace xX:=eq_true xX;replace xY:=eq_true xY)|(go_at_call 75;(with_reducible refine (eG.calls (bt a0 xI) true _ yK.out).mono ?_);rintro e w' ⟨rfl,⟨nd,rfl⟩⟩))
           go_roundg k2
           case measure=>have:=yg.out;have:=yh.out;omega
           case rel=>exact ⟨(wrap64 (xI + 1)),(by first|rfl|(simp;done)|(simp [*];done)|exact congrArg Value.bool (bZ _)|exact congrArg Value.bool (bZ _).symm),H',⟨by have:=yg.out;have:=yh.out;omega⟩,by repeat (first|exact Drawn0.refl _|apply Drawn0.step)⟩
          ·replace c20:=Bool.eq_false_iff.mpr c20
           subst c20
           have H1 : ((dA.f (bt a0 xI)).bind fun xK=>(if xK = true then (bI.l0 k2 a0 (a0.size : Int) (wrap64 (xI + 1))) else ((strings_IndexByte.f (⟨#[46,95,45,47,58,64]⟩ : ByteArray) (bt a0 xI)).bind fun t138=>(if t138 < 0 then (some false) else (bI.l0 k2 a0 (a0.size : Int) (wrap64 (xI + 1))))))) = some r:=by rw [if_neg (show ¬ (false = true) by decide)] at H;exact H
           clear H
           have H:=H1
           clear H1
           replace H:=Option.bind_eq_some_iff.mp H
           obtain ⟨xK,yG,H⟩:=H
           replace H : (if xK = true then (bI.l0 k2 a0 (a0.size : Int) (wrap64 (xI + 1))) else ((strings_IndexByte.f (⟨#[46,95,45,47,58,64]⟩ : ByteArray) (bt a0 xI)).bind fun t138=>(if t138 < 0 then (some false) else (bI.l0 k2 a0 (a0.size : Int) (wrap64 (xI + 1)))))) = some r:=H
           have yO:=Aside0.mk yG
           clear yG
           by_cases c23 : xK = true
           ·subst c23
            have H1 : (bI.l0 k2 a0 (a0.size : Int) (wrap64 (xI + 1))) = some r:=by rw [if_pos rfl] at H;exact H
            clear H
            have H:=H1
            clear H1
            have H':=Aside0.mk H
            clear H
            have xS : 0 ≤ (xI : Int):=of_decide_eq_true (by first|(with_reducible assumption)|assumption)
            have xU : xI < (a0.size : Int):=of_decide_eq_true (by first|(with_reducible assumption)|assumption)
            have yc:=dx a0 xI
            replace xS:=eq_true xS
            replace xU:=eq_true xU
            go_wp2_with (first|((with_reducible refine bK (f:=73) rfl ?_);refine dH (some 31) rfl rfl Tryd.func73 (by kernel_rfl) rfl #[.int .u8 (bt a0 xI)] rfl (by (try simp only [List.map_toArray,List.map_cons,List.map_nil]);first|done|rfl|(simp only [List.length_drop,List.length_take];rfl)|(simp (disch:=first|omega|(simp at *;omega)) only [dh,bY,dY];rfl)) ?_;(with_reducible refine (dP.calls (bt a0 xI) false _ yE.out).mono ?_);rintro e w' ⟨rfl,⟨nd,rfl⟩⟩;refine ⟨_,rfl,?_⟩;have xX : 0 ≤ (xI : Int):=of_decide_eq_true (by first|(with_reducible assumption)|assumption);have xY : xI < (a0.size : Int):=of_decide_eq_true (by first|(with_reducible assumption)|assumption);have yu:=dx a0 xI;replace xX:=eq_true xX;replace xY:=eq_true xY)|(go_at_call 75;(with_reducible refine (eG.calls (bt a0 xI) false _ yK.out).mono ?_);rintro e w' ⟨rfl,⟨nd,rfl⟩⟩;have yj : 0 ≤ (xI : Int):=of_decide_eq_true (by first|(with_reducible assumption)|assumption);have yt : xI < (a0.size : Int):=of_decide_eq_true (by first|(with_reducible assumption)|assumption);have yH:=dx a0 xI;replace yj:=eq_true yj;replace yt:=eq_true yt)|(go_at_call 74;(with_reducible refine (dA.calls (bt a0 xI) true _ yO.out).mono ?_);rintro e w' ⟨rfl,⟨nd,rfl⟩⟩))
            go_roundg k2
            case measure=>have:=yg.out;have:=yh.out;omega
            case rel=>exact ⟨(wrap64 (xI + 1)),(by first|rfl|(simp;done)|(simp [*];done)|exact congrArg Value.bool (bZ _)|exact congrArg Value.bool (bZ _).symm),H',⟨by have:=yg.out;have:=yh.out;omega⟩,by repeat (first|exact Drawn0.refl _|apply Drawn0.step)⟩
           ·replace c23:=Bool.eq_false_iff.mpr c23
            subst c23
            have H1 : ((strings_IndexByte.f (⟨#[46,95,45,47,58,64]⟩ : ByteArray) (bt a0 xI)).bind fun t138=>(if t138 < 0 then (some false) else (bI.l0 k2 a0 (a0.size : Int) (wrap64 (xI + 1))))) = some r:=by rw [if_neg (show ¬ (false = true) by decide)] at H;exact H
            clear H
            have H:=H1
            clear H1
            replace H:=Option.bind_eq_some_iff.mp H
            obtain ⟨t138,yI,H⟩:=H
            replace H : (if t138 < 0 then (some false) else (bI.l0 k2 a0 (a0.size : Int) (wrap64 (xI + 1)))) = some r:=H
            have yX:=Aside0.mk yI
            clear yI
            by_cases yw : t138 < 0
            ·rw [if_pos yw] at H
             have c26b0 : decide (t138 < 0) = true:=decide_eq_true yw
             clear yw
             obtain rfl:=Option.some.inj H
             have xS : 0 ≤ (xI : Int):=of_decide_eq_true (by first|(with_reducible assumption)|assumption)
             have xU : xI < (a0.size : Int):=of_decide_eq_true (by first|(with_reducible assumption)|assumption)
             have yc:=dx a0 xI
             replace xS:=eq_true xS
             replace xU:=eq_true xU
             go_wp2_with (first|((with_reducible refine bK (f:=73) rfl ?_);refine dH (some 31) rfl rfl Tryd.func73 (by kernel_rfl) rfl #[.int .u8 (bt a0 xI)] rfl (by (try simp only [List.map_toArray,List.map_cons,List.map_nil]);first|done|rfl|(simp only [List.length_drop,List.length_take];rfl)|(simp (disch:=first|omega|(simp at *;omega)) only [dh,bY,dY];rfl)) ?_;(with_reducible refine (dP.calls (bt a0 xI) false _ yE.out).mono ?_);rintro e w' ⟨rfl,⟨nd,rfl⟩⟩;refine ⟨_,rfl,?_⟩;have xX : 0 ≤ (xI : Int):=of_decide_eq_true (by first|(with_reducible assumption)|assumption);have xY : xI < (a0.size : Int):=of_decide_eq_true (by first|(with_reducible assumption)|assumption);have yu:=dx a0 xI;replace xX:=eq_true xX;replace xY:=eq_true xY)|(go_at_call 75;(with_reducible refine (eG.calls (bt a0 xI) false _ yK.out).mono ?_);rintro e w' ⟨rfl,⟨nd,rfl⟩⟩;have yj : 0 ≤ (xI : Int):=of_decide_eq_true (by first|(with_reducible assumption)|assumption);have yt : xI < (a0.size : Int):=of_decide_eq_true (by first|(with_reducible assumption)|assumption);have yH:=dx a0 xI;replace yj:=eq_true yj;replace yt:=eq_true yt)|(go_at_call 74;(with_reducible refine (dA.calls (bt a0 xI) false _ yO.out).mono ?_);rintro e w' ⟨rfl,⟨nd,rfl⟩⟩;have yJ : 0 ≤ (xI : Int):=of_decide_eq_true (by first|(with_reducible assumption)|assumption);have q24 : xI < (a0.size : Int):=of_decide_eq_true (by first|(with_reducible assumption)|assumption);have hx24:=dx a0 xI;replace yJ:=eq_true yJ;replace q24:=eq_true q24)|(go_at_call 47;(with_reducible refine (strings_IndexByte.calls (⟨#[46,95,45,47,58,64]⟩ : ByteArray) (bt a0 xI) t138 _ yX.out).mono ?_);rintro e w' ⟨rfl,⟨nd,rfl⟩⟩))
             go_ret
             exact ⟨by first|rfl|(simp;done)|(simp [*];done),by repeat (first|exact Drawn0.refl _|apply Drawn0.step)⟩
            ·rw [if_neg yw] at H
             have c26b0 : decide (t138 < 0) = false:=decide_eq_false yw
             clear yw
             have H':=Aside0.mk H
             clear H
             have xS : 0 ≤ (xI : Int):=of_decide_eq_true (by first|(with_reducible assumption)|assumption)
             have xU : xI < (a0.size : Int):=of_decide_eq_true (by first|(with_reducible assumption)|assumption)
             have yc:=dx a0 xI
             replace xS:=eq_true xS
             replace xU:=eq_true xU
             go_wp2_with (first|((with_reducible refine bK (f:=73) rfl ?_);refine dH (some 31) rfl rfl Tryd.func73 (by kernel_rfl) rfl #[.int .u8 (bt a0 xI)] rfl (by (try simp only [List.map_toArray,List.map_cons,List.map_nil]);first|done|rfl|(simp only [List.length_drop,List.length_take];rfl)|(simp (disch:=first|omega|(simp at *;omega)) only [dh,bY,dY];rfl)) ?_;(with_reducible refine (dP.calls (bt a0 xI) false _ yE.out).mono ?_);rintro e w' ⟨rfl,⟨nd,rfl⟩⟩;refine ⟨_,rfl,?_⟩;have xX : 0 ≤ (xI : Int):=of_decide_eq_true (by first|(with_reducible assumption)|assumption);have xY : xI < (a0.size : Int):=of_decide_eq_true (by first|(with_reducible assumption)|assumption);have yu:=dx a0 xI;replace xX:=eq_true xX;replace xY:=eq_true xY)|(go_at_call 75;(with_reducible refine (eG.calls (bt a0 xI) false _ yK.out).mono ?_);rintro e w' ⟨rfl,⟨nd,rfl⟩⟩;have yj : 0 ≤ (xI : Int):=of_decide_eq_true (by first|(with_reducible assumption)|assumption);have yt : xI < (a0.size : Int):=of_decide_eq_true (by first|(with_reducible assumption)|assumption);have yH:=dx a0 xI;replace yj:=eq_true yj;replace yt:=eq_true yt)|(go_at_call 74;(with_reducible refine (dA.calls (bt a0 xI) false _ yO.out).mono ?_);rintro e w' ⟨rfl,⟨nd,rfl⟩⟩;have yJ : 0 ≤ (xI : Int):=of_decide_eq_true (by first|(with_reducible assumption)|assumption);have q24 : xI < (a0.size : Int):=of_decide_eq_true (by first|(with_reducible assumption)|assumption);have hx24:=dx a0 xI;replace yJ:=eq_true yJ;replace q24:=eq_true q24)|(go_at_call 47;(with_reducible refine (strings_IndexByte.calls (⟨#[46,95,45,47,58,64]⟩ : ByteArray) (bt a0 xI) t138 _ yX.out).mono ?_);rintro e w' ⟨rfl,⟨nd,rfl⟩⟩))
             go_roundg k2
             case measure=>have:=yg.out;have:=yh.out;omega
             case rel=>exact ⟨(wrap64 (xI + 1)),(by first|rfl|(simp;done)|(simp [*];done)|exact congrArg Value.bool (bZ _)|exact congrArg Value.bool (bZ _).symm),H',⟨by have:=yg.out;have:=yh.out;omega⟩,by repeat (first|exact Drawn0.refl _|apply Drawn0.step)⟩
        ·rw [if_neg c14] at H
         exact absurd H (by simp)
       ·rw [if_neg c13] at H
        exact absurd H (by simp)
      ·rw [if_neg c12] at H
       have c12b0 : decide (xI < (a0.size : Int)) = false:=decide_eq_false c12
       clear c12
       obtain rfl:=Option.some.inj H
       go_wp2
       go_ret
       exact ⟨by first|rfl|(simp;done)|(simp [*];done),by repeat (first|exact Drawn0.refl _|apply Drawn0.step)⟩
end Go.Proofs.YtpmbdcljphpcnaaDoor.GC2
