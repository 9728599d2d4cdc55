/- Written by this session's own program (wip/gen.py) out of the translation: plain Lean functions of the Go functions, and proofs that the calls come to their answers. No conditions beside those in the statements. -/
import Derived.Test.YtpmbdcljphpcnaaDoorGC2x0
import Derived.Test.YtpmbdcljphpcnaaDoorGC2x1
namespace Go.Proofs.YtpmbdcljphpcnaaDoor.GC2
open Go.RowKit Go.Proofs.YtpmbdcljphpcnaaDoorW.PrintWords Go.Proofs.YtpmbdcljphpcnaaDoorW.PrintLast Go.Proofs.YtpmbdcljphpcnaaDoorW.PrintMore
attribute [local go_sem] eY eZ fJ fK eP eT fq fu
set_option linter.unusedVariables false
set_option linter.unusedSimpArgs false
mutual
def aX.j0 : Nat → ByteArray → Bool → Option (Bool)
 | 0,_,_=>none
 | k + 1,x0,x23=>if x23 = true then (some false) else (aX.l0 k x0 (x0.size : Int) 0)
def aX.l0 : Nat → ByteArray → Int → Int → Option (Bool)
 | 0,_,_,_=>none
 | k + 1,x0,x25,xX=>if xX < x25 then (if 0 ≤ xX then (if xX < (x0.size : Int) then ((dP.f (bt x0 xX)).bind fun xY=>(if xY = true then (aX.l0 k x0 x25 (wrap64 (xX + 1))) else ((dA.f (bt x0 xX)).bind fun t116=>(if t116 = true then (aX.l0 k x0 x25 (wrap64 (xX + 1))) else (if (bt x0 xX) = 45 then (aX.l0 k x0 x25 (wrap64 (xX + 1))) else (some false)))))) else (none)) else (none)) else (some true)
end
def aX.f (k : Nat) (a0 : ByteArray) : Option (Bool):=if a0.toList = ([] : List UInt8) then (aX.j0 k a0 true) else (if (a0.size : Int) > 63 then (aX.j0 k a0 true) else (if 0 < (a0.size : Int) then (if (bt a0 0) = 45 then (aX.j0 k a0 true) else (if 0 ≤ (wrap64 ((a0.size : Int) - 1)) then (if (wrap64 ((a0.size : Int) - 1)) < (a0.size : Int) then (aX.j0 k a0 ((bt a0 (wrap64 ((a0.size : Int) - 1))) == 45)) else (none)) else (none))) else (none)))
theorem aX.dO : ∀ k,(∀ y0 y1,LeO (aX.j0 k y0 y1) (aX.j0 (k + 1) y0 y1)) ∧ (∀ y0 y1 y2,LeO (aX.l0 k y0 y1 y2) (aX.l0 (k + 1) y0 y1 y2))
 | 0=>⟨fun _ _ r h=>by simp [aX.j0] at h,fun _ _ _ r h=>by simp [aX.l0] at h⟩
 | k + 1=>by
  obtain ⟨xL,ih1⟩:=aX.dO k
  refine ⟨?_,?_⟩
  ·intro y0 y1
   unfold aX.j0
   repeat' first
   | (with_reducible exact xL _ _)
   | (with_reducible exact ih1 _ _ _)
   | (with_reducible exact LeO.refl _)
   | (with_reducible exact LeO.none _)
   | (with_reducible refine LeO.ite ?_ ?_)
   | (with_reducible refine LeO.bind ?_ (fun _=>?_))
   | exact xL _ _
   | exact ih1 _ _ _
   | exact LeO.none _
   | refine LeO.ite ?_ ?_
   | refine LeO.bind ?_ (fun _=>?_)
  ·intro y0 y1 y2
   unfold aX.l0
   repeat' first
   | (with_reducible exact xL _ _)
   | (with_reducible exact ih1 _ _ _)
   | (with_reducible exact LeO.refl _)
   | (with_reducible exact LeO.none _)
   | (with_reducible refine LeO.ite ?_ ?_)
   | (with_reducible refine LeO.bind ?_ (fun _=>?_))
   | exact xL _ _
   | exact ih1 _ _ _
   | exact LeO.none _
   | refine LeO.ite ?_ ?_
   | refine LeO.bind ?_ (fun _=>?_)
theorem aX.mono : ∀ a0 k,LeO (aX.f k a0) (aX.f (k + 1) a0):=by
 intro a0 k
 obtain ⟨xL,ih1⟩:=aX.dO k
 unfold aX.f
 repeat' first
   | (with_reducible exact xL _ _)
   | (with_reducible exact ih1 _ _ _)
   | (with_reducible exact LeO.refl _)
   | (with_reducible exact LeO.none _)
   | (with_reducible refine LeO.ite ?_ ?_)
   | (with_reducible refine LeO.bind ?_ (fun _=>?_))
   | exact xL _ _
   | exact ih1 _ _ _
   | exact LeO.none _
   | refine LeO.ite ?_ ?_
   | refine LeO.bind ?_ (fun _=>?_)
set_option maxHeartbeats 8000000 in
set_option maxRecDepth 100000 in
theorem aX.calls (k : Nat) (a0 : ByteArray) (r : Bool) (w : World) (h : aX.f k a0 = some r) :
  Calls Tryd.prog 56 #[.string a0] w fun e w'=>e = .returned (.bool r) ∧ Drawn0 w w':=by
 have H : (if a0.toList = ([] : List UInt8) then (aX.j0 k a0 true) else (if (a0.size : Int) > 63 then (aX.j0 k a0 true) else (if 0 < (a0.size : Int) then (if (bt a0 0) = 45 then (aX.j0 k a0 true) else (if 0 ≤ (wrap64 ((a0.size : Int) - 1)) then (if (wrap64 ((a0.size : Int) - 1)) < (a0.size : Int) then (aX.j0 k a0 ((bt a0 (wrap64 ((a0.size : Int) - 1))) == 45)) else (none)) else (none))) else (none)))) = some r:=h
 clear h
 have yw:=Aside0.mk H
 clear H
 go_enter Tryd.func56,Tryd.ntmps56
 go_upto_region 1 with (fail)
 go_cut [23] (fun v23 wc=>∃ (kq : Nat) (xP : Bool),v23 = .bool xP ∧ Aside0 (aX.j0 kq a0 xP = some r) ∧ Aside0 (kq ≤ k) ∧ Drawn0 w wc)
 case first =>
  have H:=yw.out
  clear yw
  by_cases c3 : a0.toList = ([] : List UInt8)
  ·rw [if_pos c3] at H
   have c3b0 : (a0.toList == ([] : List UInt8)) = true:=beq_iff_eq.mpr c3
   have c3b1 : (a0.toList != ([] : List UInt8)) = false:=bne_eq_false_iff_eq.mpr c3
   clear c3
   (first|rw [c3b0]|(simp only [bD,bG];rw [c3b0])|skip)
   have H':=Aside0.mk H
   clear H
   go_wp2
   go_meet
   case rel=>exact ⟨_,(true),(by first|rfl|(simp;done)|(simp [*];done)|exact congrArg Value.bool (bZ _)|exact congrArg Value.bool (bZ _).symm),H',⟨by first|omega|exact Nat.le_refl _⟩,by repeat (first|exact Drawn0.refl _|apply Drawn0.step)⟩
  ·rw [if_neg c3] at H
   have c3b0 : (a0.toList == ([] : List UInt8)) = false:=beq_eq_false_iff_ne.mpr c3
   have c3b1 : (a0.toList != ([] : List UInt8)) = true:=bne_iff_ne.mpr c3
   (first|rw [c3b0]|(simp only [bD,bG];rw [c3b0])|skip)
   by_cases c4 : (a0.size : Int) > 63
   ·rw [if_pos c4] at H
    have c4b0 : decide (63 < (a0.size : Int)) = true:=decide_eq_true c4
    have c4b1 : decide (63 < a0.size) = true:=decide_eq_true (by omega)
    clear c4
    have H':=Aside0.mk H
    clear H
    go_wp2
    go_meet
    case rel=>exact ⟨_,(true),(by first|rfl|(simp;done)|(simp [*];done)|exact congrArg Value.bool (bZ _)|exact congrArg Value.bool (bZ _).symm),H',⟨by first|omega|exact Nat.le_refl _⟩,by repeat (first|exact Drawn0.refl _|apply Drawn0.step)⟩
   ·rw [if_neg c4] at H
    have c4b0 : decide (63 < (a0.size : Int)) = false:=decide_eq_false c4
    have c4b1 : decide (63 < a0.size) = false:=decide_eq_false (by omega)
    clear c4
    by_cases c5 : 0 < (a0.size : Int)
    ·rw [if_pos c5] at H
     have c5b0 : decide (0 < (a0.size : Int)) = true:=decide_eq_true c5
     have c5b1 : decide (0 < a0.size) = true:=decide_eq_true (by omega)
     clear c5
     by_cases c7 : (bt a0 0) = 45
     ·rw [if_pos c7] at H
      have c7b0 : ((bt a0 0) == 45) = true:=beq_iff_eq.mpr c7
      have c7b1 : ((bt a0 0) != 45) = false:=bne_eq_false_iff_eq.mpr c7
      clear c7
      have H':=Aside0.mk H
      clear H
      have p6 : 0 ≤ (0 : Int):=(by omega)
      have q6 : 0 < a0.size:=(by have : (0 : Int) < (a0.size : Int):=of_decide_eq_true (by first|(with_reducible assumption)|assumption);omega)
      have hx6 : ∀ h : 0 < a0.size,((a0[0]'h).toNat : Int) = bt a0 0:=dx a0 0
      clear p6
      have yC : (0 < (a0.size : Int)) = True:=eq_true (of_decide_eq_true (by first|(with_reducible assumption)|assumption))
      replace q6:=eq_true q6
      go_wp2
      go_meet
      case rel=>exact ⟨_,(true),(by first|rfl|(simp;done)|(simp [*];done)|exact congrArg Value.bool (bZ _)|exact congrArg Value.bool (bZ _).symm),H',⟨by first|omega|exact Nat.le_refl _⟩,by repeat (first|exact Drawn0.refl _|apply Drawn0.step)⟩
     ·rw [if_neg c7] at H
      have c7b0 : ((bt a0 0) == 45) = false:=beq_eq_false_iff_ne.mpr c7
      have c7b1 : ((bt a0 0) != 45) = true:=bne_iff_ne.mpr c7
      obtain ⟨xU,xZ⟩ : ∃ j_ : Int,(wrap64 ((a0.size : Int) - 1)) = j_:=⟨_,rfl⟩
      replace H : (if 0 ≤ (xU) then (if (xU) < (a0.size : Int) then (aX.j0 k a0 ((bt a0 (xU)) == 45)) else (none)) else (none)) = some r:=by first|(rw [xZ] at H;exact H)|(simp only [xZ] at H ⊢;exact H)
      have hji8w : (IntKind.i64.wrap ((a0.size : Int) - 1)) = xU:=(bD _).trans xZ
      by_cases c9 : 0 ≤ (xU)
      ·rw [if_pos c9] at H
       have c9b0 : decide (0 ≤ (xU)) = true:=decide_eq_true c9
       clear c9
       by_cases c10 : (xU) < (a0.size : Int)
       ·rw [if_pos c10] at H
        have c10b0 : decide ((xU) < (a0.size : Int)) = true:=decide_eq_true c10
        clear c10
        have H':=Aside0.mk H
        clear H
        have p6 : 0 ≤ (0 : Int):=(by omega)
        have q6 : 0 < a0.size:=(by have : (0 : Int) < (a0.size : Int):=of_decide_eq_true (by first|(with_reducible assumption)|assumption);omega)
        have hx6 : ∀ h : 0 < a0.size,((a0[0]'h).toNat : Int) = bt a0 0:=dx a0 0
        clear p6
        have yC : (0 < (a0.size : Int)) = True:=eq_true (of_decide_eq_true (by first|(with_reducible assumption)|assumption))
        replace q6:=eq_true q6
        have yD : 0 ≤ ((xU) : Int):=of_decide_eq_true (by first|(with_reducible assumption)|assumption)
        have yE : (xU) < (a0.size : Int):=of_decide_eq_true (by first|(with_reducible assumption)|assumption)
        have yF:=dx a0 (xU)
        replace yD:=eq_true yD
        replace yE:=eq_true yE
        go_wp2
        go_meet
        case rel=>exact ⟨_,(((bt a0 (xU)) == 45)),(by first|rfl|(simp;done)|(simp only [← xZ] <;> (first|rfl|simp))|(simp [*];done)|exact congrArg Value.bool (bZ _)|exact congrArg Value.bool (bZ _).symm),H',⟨by first|omega|exact Nat.le_refl _⟩,by repeat (first|exact Drawn0.refl _|apply Drawn0.step)⟩
       ·rw [if_neg c10] at H
        exact absurd H (by simp)
      ·rw [if_neg c9] at H
       exact absurd H (by simp)
    ·rw [if_neg c5] at H
     exact absurd H (by simp)
 case rest =>
  clear yw
  try clear c1
  try clear p1
  try clear q1
  try clear hx1
  try clear p2
  try clear c3
  try clear c3b0
  try clear c3b1
  try clear c4
  try clear c4b0
  try clear c4b1
  try clear c5
  try clear c5b0
  try clear c5b1
  try clear p6
  try clear q6
  try clear hx6
  try clear yC
  try clear c7
  try clear c7b0
  try clear c7b1
  try clear c9
  try clear c9b0
  try clear c10
  try clear c10b0
  try clear yD
  try clear yE
  try clear yF
  try clear yD
  try clear p6
  try clear yE
  try clear q6
  obtain ⟨kq,xP,rfl,HA,xM,⟨za,rfl⟩⟩:=hcut
  cases kq with
  | zero=>exact absurd HA.out (by simp [aX.j0])
  | succ yx =>
   have H:=HA.out
   clear HA
   simp only [aX.j0] at H
   by_cases c12 : xP = true
   ·subst c12
    have H1 : (some false) = some r:=by rw [if_pos rfl] at H;exact H
    clear H
    have H:=H1
    clear H1
    obtain rfl:=Option.some.inj H
    go_wp2
    go_ret
    exact ⟨by first|rfl|(simp;done)|(simp [*];done),by repeat (first|exact Drawn0.refl _|apply Drawn0.step)⟩
   ·replace c12:=Bool.eq_false_iff.mpr c12
    subst c12
    have H1 : (aX.l0 yx a0 (a0.size : Int) 0) = some r:=by rw [if_neg (show ¬ (false = true) by decide)] at H;exact H
    clear H
    have H:=H1
    clear H1
    have H':=Aside0.mk H
    clear H
    go_wp2
    go_loopg [26] yx (fun kq v26 w'=>∃ (xJ : Int),v26 = .int .i64 xJ ∧ Aside0 (aX.l0 kq a0 (a0.size : Int) xJ = some r) ∧ Aside0 (kq ≤ yx) ∧ Drawn0 w w')
    case atStart=>exact ⟨(0),(by first|rfl|(simp;done)|(simp [*];done)|exact congrArg Value.bool (bZ _)|exact congrArg Value.bool (bZ _).symm),H',⟨Nat.le_refl _⟩,by repeat (first|exact Drawn0.refl _|apply Drawn0.step)⟩
    case round =>
     clear H'
     try clear c1
     try clear p1
     try clear q1
     try clear hx1
     try clear p2
     try clear c3
     try clear c3b0
     try clear c3b1
     try clear c4
     try clear c4b0
     try clear c4b1
     try clear c5
     try clear c5b0
     try clear c5b1
     try clear p6
     try clear q6
     try clear hx6
     try clear yC
     try clear c7
     try clear c7b0
     try clear c7b1
     try clear c9
     try clear c9b0
     try clear c10
     try clear c10b0
     try clear yD
     try clear yE
     try clear yF
     try clear c12
     try clear p1
     try clear yD
     try clear p2
     try clear p6
     try clear q1
     try clear yE
     try clear q6
     obtain ⟨xJ,rfl,HA,xO,⟨m2,rfl⟩⟩:=hrel
     cases gk with
     | zero=>exact absurd HA.out (by simp [aX.l0])
     | succ k2 =>
      have H:=HA.out
      clear HA
      simp only [aX.l0] at H
      by_cases c13 : xJ < (a0.size : Int)
      ·rw [if_pos c13] at H
       have c13b0 : decide (xJ < (a0.size : Int)) = true:=decide_eq_true c13
       clear c13
       by_cases c14 : 0 ≤ xJ
       ·rw [if_pos c14] at H
        have c14b0 : decide (0 ≤ xJ) = true:=decide_eq_true c14
        clear c14
        by_cases c15 : xJ < (a0.size : Int)
        ·rw [if_pos c15] at H
         have c15b0 : decide (xJ < (a0.size : Int)) = true:=decide_eq_true c15
         clear c15
         replace H:=Option.bind_eq_some_iff.mp H
         obtain ⟨xY,yG,H⟩:=H
         replace H : (if xY = true then (aX.l0 k2 a0 (a0.size : Int) (wrap64 (xJ + 1))) else ((dA.f (bt a0 xJ)).bind fun t116=>(if t116 = true then (aX.l0 k2 a0 (a0.size : Int) (wrap64 (xJ + 1))) else (if (bt a0 xJ) = 45 then (aX.l0 k2 a0 (a0.size : Int) (wrap64 (xJ + 1))) else (some false))))) = some r:=H
         have yS:=Aside0.mk yG
         clear yG
         by_cases c18 : xY = true
         ·subst c18
          have H1 : (aX.l0 k2 a0 (a0.size : Int) (wrap64 (xJ + 1))) = some r:=by rw [if_pos rfl] at H;exact H
          clear H
          have H:=H1
          clear H1
          have H':=Aside0.mk H
          clear H
          have p16 : 0 ≤ (xJ : Int):=of_decide_eq_true (by first|(with_reducible assumption)|assumption)
          have q16 : xJ < (a0.size : Int):=of_decide_eq_true (by first|(with_reducible assumption)|assumption)
          have hx16:=dx a0 xJ
          replace p16:=eq_true p16
          replace q16:=eq_true q16
          go_wp2_with (first|((with_reducible refine bK (f:=73) rfl ?_);refine dH (some 32) rfl rfl Tryd.func73 (by kernel_rfl) rfl #[.int .u8 (bt a0 xJ)] rfl (by (try simp only [List.map_toArray,List.map_cons,List.map_nil]);first|done|rfl|(simp only [List.length_drop,List.length_take];rfl)|(simp (disch:=first|omega|(simp at *;omega)) only [dh,bY,dY];rfl)) ?_;(with_reducible refine (dP.calls (bt a0 xJ) true _ yS.out).mono ?_);rintro e w' ⟨rfl,⟨nd,rfl⟩⟩;refine ⟨_,rfl,?_⟩))
          go_roundg k2
          case measure=>have:=xM.out;have:=xO.out;omega
          case rel=>exact ⟨(wrap64 (xJ + 1)),(by first|rfl|(simp;done)|(simp [*];done)|exact congrArg Value.bool (bZ _)|exact congrArg Value.bool (bZ _).symm),H',⟨by have:=xM.out;have:=xO.out;omega⟩,by repeat (first|exact Drawn0.refl _|apply Drawn0.step)⟩
         ·replace c18:=Bool.eq_false_iff.mpr c18
          subst c18
          have H1 : ((dA.f (bt a0 xJ)).bind fun t116=>(if t116 = true then (aX.l0 k2 a0 (a0.size : Int) (wrap64 (xJ + 1))) else (if (bt a0 xJ) = 45 then (aX.l0 k2 a0 (a0.size : Int) (wrap64 (xJ + 1))) else (some false)))) = some r:=by rw [if_neg (show ¬ (false = true) by decide)] at H;exact H
          clear H
          have H:=H1
          clear H1
          replace H:=Option.bind_eq_some_iff.mp H
          obtain ⟨t116,yH,H⟩:=H
          replace H : (if t116 = true then (aX.l0 k2 a0 (a0.size : Int) (wrap64 (xJ + 1))) else (if (bt a0 xJ) = 45 then (aX.l0 k2 a0 (a0.size : Int) (wrap64 (xJ + 1))) else (some false))) = some r:=H
          have yU:=Aside0.mk yH
          clear yH
          by_cases c21 : t116 = true
          ·subst c21
           have H1 : (aX.l0 k2 a0 (a0.size : Int) (wrap64 (xJ + 1))) = some r:=by rw [if_pos rfl] at H;exact H
           clear H
           have H:=H1
           clear H1
           have H':=Aside0.mk H
           clear H
           have p16 : 0 ≤ (xJ : Int):=of_decide_eq_true (by first|(with_reducible assumption)|assumption)
           have q16 : xJ < (a0.size : Int):=of_decide_eq_true (by first|(with_reducible assumption)|assumption)
           have hx16:=dx a0 xJ
           replace p16:=eq_true p16
           replace q16:=eq_true q16
           go_wp2_with (first|((with_reducible refine bK (f:=73) rfl ?_);refine dH (some 32) rfl rfl Tryd.func73 (by kernel_rfl) rfl #[.int .u8 (bt a0 xJ)] rfl (by (try simp only [List.map_toArray,List.map_cons,List.map_nil]);first|done|rfl|(simp only [List.length_drop,List.length_take];rfl)|(simp (disch:=first|omega|(simp at *;omega)) only [dh,bY,dY];rfl)) ?_;(with_reducible refine (dP.calls (bt a0 xJ) false _ yS.out).mono ?_);rintro e w' ⟨rfl,⟨nd,rfl⟩⟩;refine ⟨_,rfl,?_⟩;have yh : 0 ≤ (xJ : Int):=of_decide_eq_true (by first|(with_reducible assumption)|assumption);have yj : xJ < (a0.size : Int):=of_decide_eq_true (by first|(with_reducible assumption)|assumption);have yI:=dx a0 xJ;replace yh:=eq_true yh;replace yj:=eq_true yj)|(go_at_call 74;(with_reducible refine (dA.calls (bt a0 xJ) true _ yU.out).mono ?_);rintro e w' ⟨rfl,⟨nd,rfl⟩⟩))
           go_roundg k2
           case measure=>have:=xM.out;have:=xO.out;omega
           case rel=>exact ⟨(wrap64 (xJ + 1)),(by first|rfl|(simp;done)|(simp [*];done)|exact congrArg Value.bool (bZ _)|exact congrArg Value.bool (bZ _).symm),H',⟨by have:=xM.out;have:=xO.out;omega⟩,by repeat (first|exact Drawn0.refl _|apply Drawn0.step)⟩
          ·replace c21:=Bool.eq_false_iff.mpr c21
           subst c21
           have H1 : (if (bt a0 xJ) = 45 then (aX.l0 k2 a0 (a0.size : Int) (wrap64 (xJ + 1))) else (some false)) = some r:=by rw [if_neg (show ¬ (false = true) by decide)] at H;exact H
           clear H
           have H:=H1
           clear H1
           by_cases c23 : (bt a0 xJ) = 45
           ·rw [if_pos c23] at H
            have c23b0 : ((bt a0 xJ) == 45) = true:=beq_iff_eq.mpr c23
            have c23b1 : ((bt a0 xJ) != 45) = false:=bne_eq_false_iff_eq.mpr c23
            clear c23
            have H':=Aside0.mk H
            clear H
            have p16 : 0 ≤ (xJ : Int):=of_decide_eq_true (by first|(with_reducible assumption)|assumption)
            have q16 : xJ < (a0.size : Int):=of_decide_eq_true (by first|(with_reducible assumption)|assumption)
            have hx16:=dx a0 xJ
            replace p16:=eq_true p16
            replace q16:=eq_true q16
            go_wp2_with (first|((with_reducible refine bK (f:=73) rfl ?_);refine dH (some 32) rfl rfl Tryd.func73 (by kernel_rfl) rfl #[.int .u8 (bt a0 xJ)] rfl (by (try simp only [List.map_toArray,List.map_cons,List.map_nil]);first|done|rfl|(simp only [List.length_drop,List.length_take];rfl)|(simp (disch:=first|omega|(simp at *;omega)) only [dh,bY,dY];rfl)) ?_;(with_reducible refine (dP.calls (bt a0 xJ) false _ yS.out).mono ?_);rintro e w' ⟨rfl,⟨nd,rfl⟩⟩;refine ⟨_,rfl,?_⟩;have yh : 0 ≤ (xJ : Int):=of_decide_eq_true (by first|(with_reducible assumption)|assumption);have yj : xJ < (a0.size : Int):=of_decide_eq_true (by first|(with_reducible assumption)|assumption);have yI:=dx a0 xJ;replace yh:=eq_true yh;replace yj:=eq_true yj)|(go_at_call 74;(with_reducible refine (dA.calls (bt a0 xJ) false _ yU.out).mono ?_);rintro e w' ⟨rfl,⟨nd,rfl⟩⟩;have yJ : 0 ≤ (xJ : Int):=of_decide_eq_true (by first|(with_reducible assumption)|assumption);have q22 : xJ < (a0.size : Int):=of_decide_eq_true (by first|(with_reducible assumption)|assumption);have yV:=dx a0 xJ;replace yJ:=eq_true yJ;replace q22:=eq_true q22))
            go_roundg k2
            case measure=>have:=xM.out;have:=xO.out;omega
            case rel=>exact ⟨(wrap64 (xJ + 1)),(by first|rfl|(simp;done)|(simp [*];done)|exact congrArg Value.bool (bZ _)|exact congrArg Value.bool (bZ _).symm),H',⟨by have:=xM.out;have:=xO.out;omega⟩,by repeat (first|exact Drawn0.refl _|apply Drawn0.step)⟩
           ·rw [if_neg c23] at H
            have c23b0 : ((bt a0 xJ) == 45) = false:=beq_eq_false_iff_ne.mpr c23
            have c23b1 : ((bt a0 xJ) != 45) = true:=bne_iff_ne.mpr c23
            obtain rfl:=Option.some.inj H
            have p16 : 0 ≤ (xJ : Int):=of_decide_eq_true (by first|(with_reducible assumption)|assumption)
            have q16 : xJ < (a0.size : Int):=of_decide_eq_true (by first|(with_reducible assumption)|assumption)
            have hx16:=dx a0 xJ
            replace p16:=eq_true p16
            replace q16:=eq_true q16
            go_wp2_with (first|((with_reducible refine bK (f:=73) rfl ?_);refine dH (some 32) rfl rfl Tryd.func73 (by kernel_rfl) rfl #[.int .u8 (bt a0 xJ)] rfl (by (try simp only [List.map_toArray,List.map_cons,List.map_nil]);first|done|rfl|(simp only [List.length_drop,List.length_take];rfl)|(simp (disch:=first|omega|(simp at *;omega)) only [dh,bY,dY];rfl)) ?_;(with_reducible refine (dP.calls (bt a0 xJ) false _ yS.out).mono ?_);rintro e w' ⟨rfl,⟨nd,rfl⟩⟩;refine ⟨_,rfl,?_⟩;have yh : 0 ≤ (xJ : Int):=of_decide_eq_true (by first|(with_reducible assumption)|assumption);have yj : xJ < (a0.size : Int):=of_decide_eq_true (by first|(with_reducible assumption)|assumption);have yI:=dx a0 xJ;replace yh:=eq_true yh;replace yj:=eq_true yj)|(go_at_call 74;(with_reducible refine (dA.calls (bt a0 xJ) false _ yU.out).mono ?_);rintro e w' ⟨rfl,⟨nd,rfl⟩⟩;have yJ : 0 ≤ (xJ : Int):=of_decide_eq_true (by first|(with_reducible assumption)|assumption);have q22 : xJ < (a0.size : Int):=of_decide_eq_true (by first|(with_reducible assumption)|assumption);have yV:=dx a0 xJ;replace yJ:=eq_true yJ;replace q22:=eq_true q22))
            go_ret
            exact ⟨by first|rfl|(simp;done)|(simp [*];done),by repeat (first|exact Drawn0.refl _|apply Drawn0.step)⟩
        ·rw [if_neg c15] at H
         exact absurd H (by simp)
       ·rw [if_neg c14] at H
        exact absurd H (by simp)
      ·rw [if_neg c13] at H
       have c13b0 : decide (xJ < (a0.size : Int)) = false:=decide_eq_false c13
       clear c13
       obtain rfl:=Option.some.inj H
       go_wp2
       go_ret
       exact ⟨by first|rfl|(simp;done)|(simp [*];done),by repeat (first|exact Drawn0.refl _|apply Drawn0.step)⟩
def eG.f (a0 : Int) : Option (Bool):=if a0 ≥ 65 then (some (decide (a0 ≤ 90))) else (some false)
set_option maxHeartbeats 8000000 in
set_option maxRecDepth 100000 in
theorem eG.calls (a0 : Int) (r : Bool) (w : World) (h : eG.f a0 = some r) :
  Calls Tryd.prog 75 #[.int .u8 a0] w fun e w'=>e = .returned (.bool r) ∧ Drawn0 w w':=by
 have H : (if a0 ≥ 65 then (some (decide (a0 ≤ 90))) else (some false)) = some r:=h
 clear h
 by_cases c2 : a0 ≥ 65
 ·rw [if_pos c2] at H
  have c2b0 : decide (65 ≤ a0) = true:=decide_eq_true c2
  clear c2
  obtain rfl:=Option.some.inj H
  go_enter Tryd.func75,Tryd.ntmps75
  go_wp2
  go_ret
  exact ⟨by first|rfl|(simp;done)|(simp [*];done),by repeat (first|exact Drawn0.refl _|apply Drawn0.step)⟩
 ·rw [if_neg c2] at H
  have c2b0 : decide (65 ≤ a0) = false:=decide_eq_false c2
  clear c2
  obtain rfl:=Option.some.inj H
  go_enter Tryd.func75,Tryd.ntmps75
  go_wp2
  go_ret
  exact ⟨by first|rfl|(simp;done)|(simp [*];done),by repeat (first|exact Drawn0.refl _|apply Drawn0.step)⟩
mutual
def bB.j0 : Nat → ByteArray → Bool → Option (Bool)
 | 0,_,_=>none
 | k + 1,x0,ze=>if ze = true then (some false) else (bB.l0 k x0 (x0.size : Int) 0)
def bB.l0 : Nat → ByteArray → Int → Int → Option (Bool)
 | 0,_,_,_=>none
 | k + 1,x0,yK,x18=>if x18 < yK then (if 0 ≤ x18 then (if x18 < (x0.size : Int) then ((dP.f (bt x0 x18)).bind fun yc=>(if yc = true then (bB.l0 k x0 yK (wrap64 (x18 + 1))) else ((eG.f (bt x0 x18)).bind fun t119=>(if t119 = true then (bB.l0 k x0 yK (wrap64 (x18 + 1))) else ((dA.f (bt x0 x18)).bind fun xK=>(if xK = true then (bB.l0 k x0 yK (wrap64 (x18 + 1))) else (if (bt x0 x18) = 95 then (bB.l0 k x0 yK (wrap64 (x18 + 1))) else (some false)))))))) else (none)) else (none)) else (some true)
end
def bB.f (k : Nat) (a0 : ByteArray) : Option (Bool):=if a0.toList = ([] : List UInt8) then (bB.j0 k a0 true) else (if (a0.size : Int) > 63 then (bB.j0 k a0 true) else (if 0 < (a0.size : Int) then ((dA.f (bt a0 0)).bind fun t117=>(bB.j0 k a0 t117)) else (none)))
theorem bB.dO : ∀ k,(∀ y0 y1,LeO (bB.j0 k y0 y1) (bB.j0 (k + 1) y0 y1)) ∧ (∀ y0 y1 y2,LeO (bB.l0 k y0 y1 y2) (bB.l0 (k + 1) y0 y1 y2))
 | 0=>⟨fun _ _ r h=>by simp [bB.j0] at h,fun _ _ _ r h=>by simp [bB.l0] at h⟩
 | k + 1=>by
  obtain ⟨xL,ih1⟩:=bB.dO k
  refine ⟨?_,?_⟩
  ·intro y0 y1
   unfold bB.j0
   repeat' first
   | (with_reducible exact xL _ _)
   | (with_reducible exact ih1 _ _ _)
   | (with_reducible exact LeO.refl _)
   | (with_reducible exact LeO.none _)
   | (with_reducible refine LeO.ite ?_ ?_)
   | (with_reducible refine LeO.bind ?_ (fun _=>?_))
   | exact xL _ _
   | exact ih1 _ _ _
   | exact LeO.none _
   | refine LeO.ite ?_ ?_
   | refine LeO.bind ?_ (fun _=>?_)
  ·intro y0 y1 y2
   unfold bB.l0
   repeat' first
   | (with_reducible exact xL _ _)
   | (with_reducible exact ih1 _ _ _)
   | (with_reducible exact LeO.refl _)
   | (with_reducible exact LeO.none _)
   | (with_reducible refine LeO.ite ?_ ?_)
   | (with_reducible refine LeO.bind ?_ (fun _=>?_))
   | exact xL _ _
   | exact ih1 _ _ _
   | exact LeO.none _
   | refine LeO.ite ?_ ?_
   | refine LeO.bind ?_ (fun _=>?_)
theorem bB.mono : ∀ a0 k,LeO (bB.f k a0) (bB.f (k + 1) a0):=by
 intro a0 k
 obtain ⟨xL,ih1⟩:=bB.dO k
 unfold bB.f
 repeat' first
   | (with_reducible exact xL _ _)
   | (with_reducible exact ih1 _ _ _)
   | (with_reducible exact LeO.refl _)
   | (with_reducible exact LeO.none _)
   | (with_reducible refine LeO.ite ?_ ?_)
   | (with_reducible refine LeO.bind ?_ (fun _=>?_))
   | exact xL _ _
   | exact ih1 _ _ _
   | exact LeO.none _
   | refine LeO.ite ?_ ?_
   | refine LeO.bind ?_ (fun _=>?_)
set_option maxHeartbeats 8000000 in
set_option maxRecDepth 100000 in
theorem bB.calls (k : Nat) (a0 : ByteArray) (r : Bool) (w : World) (h : bB.f k a0 = some r) :
  Calls Tryd.prog 63 #[.string a0] w fun e w'=>e = .returned (.bool r) ∧ Drawn0 w w':=by
 have H : (if a0.toList = ([] : List UInt8) then (bB.j0 k a0 true) else (if (a0.size : Int) > 63 then (bB.j0 k a0 true) else (if 0 < (a0.size : Int) then ((dA.f (bt a0 0)).bind fun t117=>(bB.j0 k a0 t117)) else (none)))) = some r:=h
 clear h
 have yw:=Aside0.mk H
 clear H
 go_enter Tryd.func63,Tryd.ntmps63
 go_upto_region 1 with (fail)
 go_cut [15] (fun v15 wc=>∃ (kq : Nat) (xQ : Bool),v15 = .bool xQ ∧ Aside0 (bB.j0 kq a0 xQ = some r) ∧ Aside0 (kq ≤ k) ∧ Drawn0 w wc)
 case first =>
  have H:=yw.out
  clear yw
  by_cases c3 : a0.toList = ([] : List UInt8)
  ·rw [if_pos c3] at H
   have c3b0 : (a0.toList == ([] : List UInt8)) = true:=beq_iff_eq.mpr c3
   have c3b1 : (a0.toList != ([] : List UInt8)) = false:=bne_eq_false_iff_eq.mpr c3
   clear c3
   (first|rw [c3b0]|(simp only [bD,bG];rw [c3b0])|skip)
   have H':=Aside0.mk H
   clear H
   go_wp2
   go_meet
   case rel=>exact ⟨_,(true),(by first|rfl|(simp;done)|(simp [*];done)|exact congrArg Value.bool (bZ _)|exact congrArg Value.bool (bZ _).symm),H',⟨by first|omega|exact Nat.le_refl _⟩,by repeat (first|exact Drawn0.refl _|apply Drawn0.step)⟩
  ·rw [if_neg c3] at H
   have c3b0 : (a0.toList == ([] : List UInt8)) = false:=beq_eq_false_iff_ne.mpr c3
   have c3b1 : (a0.toList != ([] : List UInt8)) = true:=bne_iff_ne.mpr c3
   (first|rw [c3b0]|(simp only [bD,bG];rw [c3b0])|skip)
   by_cases c4 : (a0.size : Int) > 63
   ·rw [if_pos c4] at H
    have c4b0 : decide (63 < (a0.size : Int)) = true:=decide_eq_true c4
    have c4b1 : decide (63 < a0.size) = true:=decide_eq_true (by omega)
    clear c4
    have H':=Aside0.mk H
    clear H
    go_wp2
    go_meet
    case rel=>exact ⟨_,(true),(by first|rfl|(simp;done)|(simp [*];done)|exact congrArg Value.bool (bZ _)|exact congrArg Value.bool (bZ _).symm),H',⟨by first|omega|exact Nat.le_refl _⟩,by repeat (first|exact Drawn0.refl _|apply Drawn0.step)⟩
   ·rw [if_neg c4] at H
    have c4b0 : decide (63 < (a0.size : Int)) = false:=decide_eq_false c4
    have c4b1 : decide (63 < a0.size) = false:=decide_eq_false (by omega)
    clear c4
    by_cases c5 : 0 < (a0.size : Int)
    ·rw [if_pos c5] at H
     have c5b0 : decide (0 < (a0.size : Int)) = true:=decide_eq_true c5
     have c5b1 : decide (0 < a0.size) = true:=decide_eq_true (by omega)
     clear c5
     replace H:=Option.bind_eq_some_iff.mp H
     obtain ⟨t117,yZ,H⟩:=H
     replace H : (bB.j0 k a0 t117) = some r:=H
     have A7:=Aside0.mk yZ
     clear yZ
     have H':=Aside0.mk H
     clear H
     have p6 : 0 ≤ (0 : Int):=(by omega)
     have q6 : 0 < a0.size:=(by have : (0 : Int) < (a0.size : Int):=of_decide_eq_true (by first|(with_reducible assumption)|assumption);omega)
     have hx6 : ∀ h : 0 < a0.size,((a0[0]'h).toNat : Int) = bt a0 0:=dx a0 0
     clear p6
     have yC : (0 < (a0.size : Int)) = True:=eq_true (of_decide_eq_true (by first|(with_reducible assumption)|assumption))
     replace q6:=eq_true q6
     go_wp2_with (first|(go_at_call 74;(with_reducible refine (dA.calls (bt a0 0) t117 _ A7.out).mono ?_);rintro e w' ⟨rfl,⟨nd,rfl⟩⟩))
     go_meet
     case rel=>exact ⟨_,(t117),(by first|rfl|(simp;done)|(simp [*];done)|exact congrArg Value.bool (bZ _)|exact congrArg Value.bool (bZ _).symm),H',⟨by first|omega|exact Nat.le_refl _⟩,by repeat (first|exact Drawn0.refl _|apply Drawn0.step)⟩
    ·rw [if_neg c5] at H
     exact absurd H (by simp)
 case rest =>
  clear yw
  try clear p2
  try clear c3
  try clear c3b0
  try clear c3b1
  try clear c4
  try clear c4b0
  try clear c4b1
  try clear c5
  try clear c5b0
  try clear c5b1
  try clear c6
  try clear p6
  try clear q6
  try clear hx6
  try clear yC
  try clear p6
  try clear q6
  obtain ⟨kq,xQ,rfl,HA,xM,⟨za,rfl⟩⟩:=hcut
  cases kq with
  | zero=>exact absurd HA.out (by simp [bB.j0])
  | succ yx =>
   have H:=HA.out
   clear HA
   simp only [bB.j0] at H
   by_cases c8 : xQ = true
   ·subst c8
    have H1 : (some false) = some r:=by rw [if_pos rfl] at H;exact H
    clear H
    have H:=H1
    clear H1
    obtain rfl:=Option.some.inj H
    go_wp2
    go_ret
    exact ⟨by first|rfl|(simp;done)|(simp [*];done),by repeat (first|exact Drawn0.refl _|apply Drawn0.step)⟩
   ·replace c8:=Bool.eq_false_iff.mpr c8
    subst c8
    have H1 : (bB.l0 yx a0 (a0.size : Int) 0) = some r:=by rw [if_neg (show ¬ (false = true) by decide)] at H;exact H
    clear H
    have H:=H1
    clear H1
    have H':=Aside0.mk H
    clear H
    go_wp2
    go_loopg [18] yx (fun kq v18 w'=>∃ (xI : Int),v18 = .int .i64 xI ∧ Aside0 (bB.l0 kq a0 (a0.size : Int) xI = some r) ∧ Aside0 (kq ≤ yx) ∧ Drawn0 w w')
    case atStart=>exact ⟨(0),(by first|rfl|(simp;done)|(simp [*];done)|exact congrArg Value.bool (bZ _)|exact congrArg Value.bool (bZ _).symm),H',⟨Nat.le_refl _⟩,by repeat (first|exact Drawn0.refl _|apply Drawn0.step)⟩
    case round =>
     clear H'
     try clear c1
     try clear p2
     try clear c3
     try clear c3b0
     try clear c3b1
     try clear c4
     try clear c4b0
     try clear c4b1
     try clear c5
     try clear c5b0
     try clear c5b1
     try clear c6
     try clear p6
     try clear q6
     try clear hx6
     try clear yC
     try clear c8
     try clear p2
     try clear p6
     try clear q6
     obtain ⟨xI,rfl,HA,xO,⟨m2,rfl⟩⟩:=hrel
     cases gk with
     | zero=>exact absurd HA.out (by simp [bB.l0])
     | succ k2 =>
      have H:=HA.out
      clear HA
      simp only [bB.l0] at H
      by_cases c9 : xI < (a0.size : Int)
      ·rw [if_pos c9] at H
       have c9b0 : decide (xI < (a0.size : Int)) = true:=decide_eq_true c9
       clear c9
       by_cases c10 : 0 ≤ xI
       ·rw [if_pos c10] at H
        have c10b0 : decide (0 ≤ xI) = true:=decide_eq_true c10
        clear c10
        by_cases c11 : xI < (a0.size : Int)
        ·rw [if_pos c11] at H
         have c11b0 : decide (xI < (a0.size : Int)) = true:=decide_eq_true c11
         clear c11
         replace H:=Option.bind_eq_some_iff.mp H
         obtain ⟨yc,yL,H⟩:=H
         replace H : (if yc = true then (bB.l0 k2 a0 (a0.size : Int) (wrap64 (xI + 1))) else ((eG.f (bt a0 xI)).bind fun t119=>(if t119 = true then (bB.l0 k2 a0 (a0.size : Int) (wrap64 (xI + 1))) else ((dA.f (bt a0 xI)).bind fun xK=>(if xK = true then (bB.l0 k2 a0 (a0.size : Int) (wrap64 (xI + 1))) else (if (bt a0 xI) = 95 then (bB.l0 k2 a0 (a0.size : Int) (wrap64 (xI + 1))) else (some false))))))) = some r:=H
         have yM:=Aside0.mk yL
         clear yL
         by_cases c14 : yc = true
         ·subst c14
          have H1 : (bB.l0 k2 a0 (a0.size : Int) (wrap64 (xI + 1))) = some r:=by rw [if_pos rfl] at H;exact H
          clear H
          have H:=H1
          clear H1
          have H':=Aside0.mk H
          clear H
          have xR : 0 ≤ (xI : Int):=of_decide_eq_true (by first|(with_reducible assumption)|assumption)
          have xS : xI < (a0.size : Int):=of_decide_eq_true (by first|(with_reducible assumption)|assumption)
          have yg:=dx a0 xI
          replace xR:=eq_true xR
          replace xS:=eq_true xS
          go_wp2_with (first|((with_reducible refine bK (f:=73) rfl ?_);refine dH (some 24) rfl rfl Tryd.func73 (by kernel_rfl) rfl #[.int .u8 (bt a0 xI)] rfl (by (try simp only [List.map_toArray,List.map_cons,List.map_nil]);first|done|rfl|(simp only [List.length_drop,List.length_take];rfl)|(simp (disch:=first|omega|(simp at *;omega)) only [dh,bY,dY];rfl)) ?_;(with_reducible refine (dP.calls (bt a0 xI) true _ yM.out).mono ?_);rintro e w' ⟨rfl,⟨nd,rfl⟩⟩;refine ⟨_,rfl,?_⟩))
          go_roundg k2
          case measure=>have:=xM.out;have:=xO.out;omega
          case rel=>exact ⟨(wrap64 (xI + 1)),(by first|rfl|(simp;done)|(simp [*];done)|exact congrArg Value.bool (bZ _)|exact congrArg Value.bool (bZ _).symm),H',⟨by have:=xM.out;have:=xO.out;omega⟩,by repeat (first|exact Drawn0.refl _|apply Drawn0.step)⟩
         ·replace c14:=Bool.eq_false_iff.mpr c14
          subst c14
          have H1 : ((eG.f (bt a0 xI)).bind fun t119=>(if t119 = true then (bB.l0 k2 a0 (a0.size : Int) (wrap64 (xI + 1))) else ((dA.f (bt a0 xI)).bind fun xK=>(if xK = true then (bB.l0 k2 a0 (a0.size : Int) (wrap64 (xI + 1))) else (if (bt a0 xI) = 95 then (bB.l0 k2 a0 (a0.size : Int) (wrap64 (xI + 1))) else (some false)))))) = some r:=by rw [if_neg (show ¬ (false = true) by decide)] at H;exact H
          clear H
          have H:=H1
          clear H1
          replace H:=Option.bind_eq_some_iff.mp H
          obtain ⟨t119,yN,H⟩:=H
          replace H : (if t119 = true then (bB.l0 k2 a0 (a0.size : Int) (wrap64 (xI + 1))) else ((dA.f (bt a0 xI)).bind fun xK=>(if xK = true then (bB.l0 k2 a0 (a0.size : Int) (wrap64 (xI + 1))) else (if (bt a0 xI) = 95 then (bB.l0 k2 a0 (a0.size : Int) (wrap64 (xI + 1))) else (some false))))) = some r:=H
          have yT:=Aside0.mk yN
          clear yN
          by_cases c17 : t119 = true
          ·subst c17
           have H1 : (bB.l0 k2 a0 (a0.size : Int) (wrap64 (xI + 1))) = some r:=by rw [if_pos rfl] at H;exact H
           clear H
           have H:=H1
           clear H1
           have H':=Aside0.mk H
           clear H
           have xR : 0 ≤ (xI : Int):=of_decide_eq_true (by first|(with_reducible assumption)|assumption)
           have xS : xI < (a0.size : Int):=of_decide_eq_true (by first|(with_reducible assumption)|assumption)
           have yg:=dx a0 xI
           replace xR:=eq_true xR
           replace xS:=eq_true xS
           go_wp2_with (first|((with_reducible refine bK (f:=73) rfl ?_);refine dH (some 24) rfl rfl Tryd.func73 (by kernel_rfl) rfl #[.int .u8 (bt a0 xI)] rfl (by (try simp only [List.map_toArray,List.map_cons,List.map_nil]);first|done|rfl|(simp only [List.length_drop,List.length_take];rfl)|(simp (disch:=first|omega|(simp at *;omega)) only [dh,bY,dY];rfl)) ?_;(with_reducible refine (dP.calls (bt a0 xI) false _ yM.out).mono ?_);rintro e w' ⟨rfl,⟨nd,rfl⟩⟩;refine ⟨_,rfl,?_⟩;have xV : 0 ≤ (xI : Int):=of_decide_eq_true (by first|(with_reducible assumption)|assumption);have xW : xI < (a0.size : Int):=of_decide_eq_true (by first|(with_reducible assumption)|assumption);have yA:=dx a0 xI;replace xV:=eq_true xV;replace xW:=eq_true xW)|(go_at_call 75;(with_reducible refine (eG.calls (bt a0 xI) true _ yT.out).mono ?_);rintro e w' ⟨rfl,⟨nd,rfl⟩⟩))
           go_roundg k2
           case measure=>have:=xM.out;have:=xO.out;omega
           case rel=>exact ⟨(wrap64 (xI + 1)),(by first|rfl|(simp;done)|(simp [*];done)|exact congrArg Value.bool (bZ _)|exact congrArg Value.bool (bZ _).symm),H',⟨by have:=xM.out;have:=xO.out;omega⟩,by repeat (first|exact Drawn0.refl _|apply Drawn0.step)⟩
          ·replace c17:=Bool.eq_false_iff.mpr c17
           subst c17
           have H1 : ((dA.f (bt a0 xI)).bind fun xK=>(if xK = true then (bB.l0 k2 a0 (a0.size : Int) (wrap64 (xI + 1))) else (if (bt a0 xI) = 95 then (bB.l0 k2 a0 (a0.size : Int) (wrap64 (xI + 1))) else (some false)))) = some r:=by rw [if_neg (show ¬ (false = true) by decide)] at H;exact H
           clear H
           have H:=H1
           clear H1
           replace H:=Option.bind_eq_some_iff.mp H
           obtain ⟨xK,yO,H⟩:=H
           replace H : (if xK = true then (bB.l0 k2 a0 (a0.size : Int) (wrap64 (xI + 1))) else (if (bt a0 xI) = 95 then (bB.l0 k2 a0 (a0.size : Int) (wrap64 (xI + 1))) else (some false))) = some r:=H
           have yX:=Aside0.mk yO
           clear yO
           by_cases c20 : xK = true
           ·subst c20
            have H1 : (bB.l0 k2 a0 (a0.size : Int) (wrap64 (xI + 1))) = some r:=by rw [if_pos rfl] at H;exact H
            clear H
            have H:=H1
            clear H1
            have H':=Aside0.mk H
            clear H
            have xR : 0 ≤ (xI : Int):=of_decide_eq_true (by first|(with_reducible assumption)|assumption)
            have xS : xI < (a0.size : Int):=of_decide_eq_true (by first|(with_reducible assumption)|assumption)
            have yg:=dx a0 xI
            replace xR:=eq_true xR
            replace xS:=eq_true xS
            go_wp2_with (first|((with_reducible refine bK (f:=73) rfl ?_);refine dH (some 24) rfl rfl Tryd.func73 (by kernel_rfl) rfl #[.int .u8 (bt a0 xI)] rfl (by (try simp only [List.map_toArray,List.map_cons,List.map_nil]);first|done|rfl|(simp only [List.length_drop,List.length_take];rfl)|(simp (disch:=first|omega|(simp at *;omega)) only [dh,bY,dY];rfl)) ?_;(with_reducible refine (dP.calls (bt a0 xI) false _ yM.out).mono ?_);rintro e w' ⟨rfl,⟨nd,rfl⟩⟩;refine ⟨_,rfl,?_⟩;have xV : 0 ≤ (xI : Int):=of_decide_eq_true (by first|(with_reducible assumption)|assumption);have xW : xI < (a0.size : Int):=of_decide_eq_true (by first|(with_reducible assumption)|assumption);have yA:=dx a0 xI;replace xV:=eq_true xV;replace xW:=eq_true xW)|(go_at_call 75;(with_reducible refine (eG.calls (bt a0 xI) false _ yT.out).mono ?_);rintro e w' ⟨rfl,⟨nd,rfl⟩⟩;have yt : 0 ≤ (xI : Int):=of_decide_eq_true (by first|(with_reducible assumption)|assumption);have yu : xI < (a0.size : Int):=of_decide_eq_true (by first|(with_reducible assumption)|assumption);have yP:=dx a0 xI;replace yt:=eq_true yt;replace yu:=eq_true yu)|(go_at_call 74;(with_reducible refine (dA.calls (bt a0 xI) true _ yX.out).mono ?_);rintro e w' ⟨rfl,⟨nd,rfl⟩⟩))
            go_roundg k2
            case measure=>have:=xM.out;have:=xO.out;omega
            case rel=>exact ⟨(wrap64 (xI + 1)),(by first|rfl|(simp;done)|(simp [*];done)|exact congrArg Value.bool (bZ _)|exact congrArg Value.bool (bZ _).symm),H',⟨by have:=xM.out;have:=xO.out;omega⟩,by repeat (first|exact Drawn0.refl _|apply Drawn0.step)⟩
           ·replace c20:=Bool.eq_false_iff.mpr c20
            subst c20
            have H1 : (if (bt a0 xI) = 95 then (bB.l0 k2 a0 (a0.size : Int) (wrap64 (xI + 1))) else (some false)) = some r:=by rw [if_neg (show ¬ (false = true) by decide)] at H;exact H
            clear H
            have H:=H1
            clear H1
            by_cases yB : (bt a0 xI) = 95
            ·rw [if_pos yB] at H
             have c22b0 : ((bt a0 xI) == 95) = true:=beq_iff_eq.mpr yB
             have c22b1 : ((bt a0 xI) != 95) = false:=bne_eq_false_iff_eq.mpr yB
             clear yB
             have H':=Aside0.mk H
             clear H
             have xR : 0 ≤ (xI : Int):=of_decide_eq_true (by first|(with_reducible assumption)|assumption)
             have xS : xI < (a0.size : Int):=of_decide_eq_true (by first|(with_reducible assumption)|assumption)
             have yg:=dx a0 xI
             replace xR:=eq_true xR
             replace xS:=eq_true xS
             go_wp2_with (first|((with_reducible refine bK (f:=73) rfl ?_);refine dH (some 24) rfl rfl Tryd.func73 (by kernel_rfl) rfl #[.int .u8 (bt a0 xI)] rfl (by (try simp only [List.map_toArray,List.map_cons,List.map_nil]);first|done|rfl|(simp only [List.length_drop,List.length_take];rfl)|(simp (disch:=first|omega|(simp at *;omega)) only [dh,bY,dY];rfl)) ?_;(with_reducible refine (dP.calls (bt a0 xI) false _ yM.out).mono ?_);rintro e w' ⟨rfl,⟨nd,rfl⟩⟩;refine ⟨_,rfl,?_⟩;have xV : 0 ≤ (xI : Int):=of_decide_eq_true (by first|(with_reducible assumption)|assumption);have xW : xI < (a0.size : Int):=of_decide_eq_true (by first|(with_reducible assumption)|assumption);have yA:=dx a0 xI;replace xV:=eq_true xV;replace xW:=eq_true xW)|(go_at_call 75;(with_reducible refine (eG.calls (bt a0 xI) false _ yT.out).mono ?_);rintro e w' ⟨rfl,⟨nd,rfl⟩⟩;have yt : 0 ≤ (xI : Int):=of_decide_eq_true (by first|(with_reducible assumption)|assumption);have yu : xI < (a0.size : Int):=of_decide_eq_true (by first|(with_reducible assumption)|assumption);have yP:=dx a0 xI;replace yt:=eq_true yt;replace yu:=eq_true yu)|(go_at_call 74;(with_reducible refine (dA.calls (bt a0 xI) false _ yX.out).mono ?_);rintro e w' ⟨rfl,⟨nd,rfl⟩⟩;have yQ : 0 ≤ (xI : Int):=of_decide_eq_true (by first|(with_reducible assumption)|assumption);have yR : xI < (a0.size : Int):=of_decide_eq_true (by first|(with_reducible assumption)|assumption);have yY:=dx a0 xI;replace yQ:=eq_true yQ;replace yR:=eq_true yR))
             go_roundg k2
             case measure=>have:=xM.out;have:=xO.out;omega
             case rel=>exact ⟨(wrap64 (xI + 1)),(by first|rfl|(simp;done)|(simp [*];done)|exact congrArg Value.bool (bZ _)|exact congrArg Value.bool (bZ _).symm),H',⟨by have:=xM.out;have:=xO.out;omega⟩,by repeat (first|exact Drawn0.refl _|apply Drawn0.step)⟩
            ·rw [if_neg yB] at H
             have c22b0 : ((bt a0 xI) == 95) = false:=beq_eq_false_iff_ne.mpr yB
             have c22b1 : ((bt a0 xI) != 95) = true:=bne_iff_ne.mpr yB
             obtain rfl:=Option.some.inj H
             have xR : 0 ≤ (xI : Int):=of_decide_eq_true (by first|(with_reducible assumption)|assumption)
             have xS : xI < (a0.size : Int):=of_decide_eq_true (by first|(with_reducible assumption)|assumption)
             have yg:=dx a0 xI
             replace xR:=eq_true xR
             replace xS:=eq_true xS
             go_wp2_with (first|((with_reducible refine bK (f:=73) rfl ?_);refine dH (some 24) rfl rfl Tryd.func73 (by kernel_rfl) rfl #[.int .u8 (bt a0 xI)] rfl (by (try simp only [List.map_toArray,List.map_cons,List.map_nil]);first|done|rfl|(simp only [List.length_drop,List.length_take];rfl)|(simp (disch:=first|omega|(simp at *;omega)) only [dh,bY,dY];rfl)) ?_;(with_reducible refine (dP.calls (bt a0 xI) false _ yM.out).mono ?_);rintro e w' ⟨rfl,⟨nd,rfl⟩⟩;refine ⟨_,rfl,?_⟩;have xV : 0 ≤ (xI : Int):=of_decide_eq_true (by first|(with_reducible assumption)|assumption);have xW : xI < (a0.size : Int):=of_decide_eq_true (by first|(with_reducible assumption)|assumption);have yA:=dx a0 xI;replace xV:=eq_true xV;replace xW:=eq_true xW)|(go_at_call 75;(with_reducible refine (eG.calls (bt a0 xI) false _ yT.out).mono ?_);rintro e w' ⟨rfl,⟨nd,rfl⟩⟩;have yt : 0 ≤ (xI : Int):=of_decide_eq_true (by first|(with_reducible assumption)|assumption);have yu : xI < (a0.size : Int):=of_decide_eq_true (by first|(with_reducible assumption)|assumption);have yP:=dx a0 xI;replace yt:=eq_true yt;replace yu:=eq_true yu)|(go_at_call 74;(with_reducible refine (dA.calls (bt a0 xI) false _ yX.out).mono ?_);rintro e w' ⟨rfl,⟨nd,rfl⟩⟩;have yQ : 0 ≤ (xI : Int):=of_decide_eq_true (by first|(with_reducible assumption)|assumption);have yR : xI < (a0.size : Int):=of_decide_eq_true (by first|(with_reducible assumption)|assumption);have yY:=dx a0 xI;replace yQ:=eq_true yQ;replace yR:=eq_true yR))
             go_ret
             exact ⟨by first|rfl|(simp;done)|(simp [*];done),by repeat (first|exact Drawn0.refl _|apply Drawn0.step)⟩
        ·rw [if_neg c11] at H
         exact absurd H (by simp)
       ·rw [if_neg c10] at H
        exact absurd H (by simp)
      ·rw [if_neg c9] at H
       have c9b0 : decide (xI < (a0.size : Int)) = false:=decide_eq_false c9
       clear c9
       obtain rfl:=Option.some.inj H
       go_wp2
       go_ret
       exact ⟨by first|rfl|(simp;done)|(simp [*];done),by repeat (first|exact Drawn0.refl _|apply Drawn0.step)⟩
end Go.Proofs.YtpmbdcljphpcnaaDoor.GC2
