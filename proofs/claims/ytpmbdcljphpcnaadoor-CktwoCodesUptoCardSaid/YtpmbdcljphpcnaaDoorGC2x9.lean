/- Written by this session's own program (wip/gen.py) out of the translation: plain Lean functions of the Go functions, and proofs that the calls come to their answers. No conditions beside those in the statements. -/
import Derived.Test.YtpmbdcljphpcnaaDoorGC2x0
namespace Go.Proofs.YtpmbdcljphpcnaaDoor.GC2
open Go.RowKit Go.Proofs.YtpmbdcljphpcnaaDoorW.PrintWords Go.Proofs.YtpmbdcljphpcnaaDoorW.PrintLast Go.Proofs.YtpmbdcljphpcnaaDoorW.PrintMore
attribute [local go_sem] eY eZ fJ fK eP eT fq fu
set_option linter.unusedVariables false
set_option linter.unusedSimpArgs false
mutual
def aR.j0 : Nat → ByteArray → Bool → Option (Bool)
 | 0,_,_=>none
 | k + 1,x0,xZ=>if xZ = true then (some false) else (aR.l0 k x0 0)
def aR.l0 : Nat → ByteArray → Int → Option (Bool)
 | 0,_,_=>none
 | k + 1,x0,x3=>if x3 < (x0.size : Int) then (if 0 ≤ x3 then (if (bt x0 x3) ≥ 97 then (if (bt x0 x3) ≤ 122 then (aR.l0 k x0 (wrap64 (x3 + 1))) else (if (bt x0 x3) ≥ 48 then (if (bt x0 x3) ≤ 57 then (aR.l0 k x0 (wrap64 (x3 + 1))) else (if (bt x0 x3) = 46 then (aR.l0 k x0 (wrap64 (x3 + 1))) else (if (bt x0 x3) = 95 then (aR.l0 k x0 (wrap64 (x3 + 1))) else (if (bt x0 x3) = 45 then (aR.l0 k x0 (wrap64 (x3 + 1))) else (if ((bt x0 x3) = 47) then (aR.l0 k x0 (wrap64 (x3 + 1))) else (some false)))))) else (if (bt x0 x3) = 46 then (aR.l0 k x0 (wrap64 (x3 + 1))) else (if (bt x0 x3) = 95 then (aR.l0 k x0 (wrap64 (x3 + 1))) else (if (bt x0 x3) = 45 then (aR.l0 k x0 (wrap64 (x3 + 1))) else (if ((bt x0 x3) = 47) then (aR.l0 k x0 (wrap64 (x3 + 1))) else (some false))))))) else (if (bt x0 x3) ≥ 48 then (if (bt x0 x3) ≤ 57 then (aR.l0 k x0 (wrap64 (x3 + 1))) else (if (bt x0 x3) = 46 then (aR.l0 k x0 (wrap64 (x3 + 1))) else (if (bt x0 x3) = 95 then (aR.l0 k x0 (wrap64 (x3 + 1))) else (if (bt x0 x3) = 45 then (aR.l0 k x0 (wrap64 (x3 + 1))) else (if ((bt x0 x3) = 47) then (aR.l0 k x0 (wrap64 (x3 + 1))) else (some false)))))) else (if (bt x0 x3) = 46 then (aR.l0 k x0 (wrap64 (x3 + 1))) else (if (bt x0 x3) = 95 then (aR.l0 k x0 (wrap64 (x3 + 1))) else (if (bt x0 x3) = 45 then (aR.l0 k x0 (wrap64 (x3 + 1))) else (if ((bt x0 x3) = 47) then (aR.l0 k x0 (wrap64 (x3 + 1))) else (some false))))))) else (none)) else (some true)
end
def aR.f (k : Nat) (a0 : ByteArray) : Option (Bool):=if (a0.size : Int) < 1 then (aR.j0 k a0 true) else (aR.j0 k a0 (decide ((a0.size : Int) > 64)))
theorem aR.dO : ∀ k,(∀ y0 y1,LeO (aR.j0 k y0 y1) (aR.j0 (k + 1) y0 y1)) ∧ (∀ y0 y1,LeO (aR.l0 k y0 y1) (aR.l0 (k + 1) y0 y1))
 | 0=>⟨fun _ _ r h=>by simp [aR.j0] at h,fun _ _ r h=>by simp [aR.l0] at h⟩
 | k + 1=>by
  obtain ⟨xM,ih1⟩:=aR.dO k
  refine ⟨?_,?_⟩
  ·intro y0 y1
   unfold aR.j0
   repeat' first
   | (with_reducible exact xM _ _)
   | (with_reducible exact ih1 _ _)
   | (with_reducible exact LeO.refl _)
   | (with_reducible exact LeO.none _)
   | (with_reducible refine LeO.ite ?_ ?_)
   | (with_reducible refine LeO.bind ?_ (fun _=>?_))
   | exact xM _ _
   | exact ih1 _ _
   | exact LeO.none _
   | refine LeO.ite ?_ ?_
   | refine LeO.bind ?_ (fun _=>?_)
  ·intro y0 y1
   unfold aR.l0
   repeat' first
   | (with_reducible exact xM _ _)
   | (with_reducible exact ih1 _ _)
   | (with_reducible exact LeO.refl _)
   | (with_reducible exact LeO.none _)
   | (with_reducible refine LeO.ite ?_ ?_)
   | (with_reducible refine LeO.bind ?_ (fun _=>?_))
   | exact xM _ _
   | exact ih1 _ _
   | exact LeO.none _
   | refine LeO.ite ?_ ?_
   | refine LeO.bind ?_ (fun _=>?_)
theorem aR.mono : ∀ a0 k,LeO (aR.f k a0) (aR.f (k + 1) a0):=by
 intro a0 k
 obtain ⟨xM,ih1⟩:=aR.dO k
 unfold aR.f
 repeat' first
   | (with_reducible exact xM _ _)
   | (with_reducible exact ih1 _ _)
   | (with_reducible exact LeO.refl _)
   | (with_reducible exact LeO.none _)
   | (with_reducible refine LeO.ite ?_ ?_)
   | (with_reducible refine LeO.bind ?_ (fun _=>?_))
   | exact xM _ _
   | exact ih1 _ _
   | exact LeO.none _
   | refine LeO.ite ?_ ?_
   | refine LeO.bind ?_ (fun _=>?_)
set_option maxHeartbeats 8000000 in
set_option maxRecDepth 100000 in
theorem aR.calls (k : Nat) (a0 : ByteArray) (r : Bool) (w : World) (h : aR.f k a0 = some r) :
  Calls Tryd.prog 19 #[.string a0] w fun e w'=>e = .returned (.bool r) ∧ Drawn0 w w':=by
 have H : (if (a0.size : Int) < 1 then (aR.j0 k a0 true) else (aR.j0 k a0 (decide ((a0.size : Int) > 64)))) = some r:=h
 clear h
 have xW:=Aside0.mk H
 clear H
 go_enter Tryd.func19,Tryd.ntmps19
 go_upto_region 1 with (fail)
 go_cut [12] (fun v12 wc=>∃ (kq : Nat) (xO : Bool),v12 = .bool xO ∧ Aside0 (aR.j0 kq a0 xO = some r) ∧ Aside0 (kq ≤ k) ∧ Drawn0 w wc)
 case first =>
  have H:=xW.out
  clear xW
  by_cases c3 : (a0.size : Int) < 1
  ·rw [if_pos c3] at H
   have c3b0 : decide ((a0.size : Int) < 1) = true:=decide_eq_true c3
   have c3b1 : decide (a0.size < 1) = true:=decide_eq_true (by omega)
   clear c3
   (first|rw [c3b0]|(simp only [bD,bG];rw [c3b0])|skip)
   have H':=Aside0.mk H
   clear H
   go_wp2
   go_meet
   case rel=>exact ⟨_,(true),(by first|rfl|(simp;done)|(simp [*];done)),H',⟨by first|omega|exact Nat.le_refl _⟩,by repeat (first|exact Drawn0.refl _|apply Drawn0.step)⟩
  ·rw [if_neg c3] at H
   have c3b0 : decide ((a0.size : Int) < 1) = false:=decide_eq_false c3
   have c3b1 : decide (a0.size < 1) = false:=decide_eq_false (by omega)
   clear c3
   (first|rw [c3b0]|(simp only [bD,bG];rw [c3b0])|skip)
   have H':=Aside0.mk H
   clear H
   go_wp2
   go_meet
   case rel=>exact ⟨_,(decide ((a0.size : Int) > 64)),(by first|rfl|(simp;done)|(simp [*];done)),H',⟨by first|omega|exact Nat.le_refl _⟩,by repeat (first|exact Drawn0.refl _|apply Drawn0.step)⟩
 case rest =>
  clear xW
  try clear c1
  try clear p2
  try clear c3
  try clear c3b0
  try clear c3b1
  obtain ⟨kq,xO,rfl,HA,xK,⟨yc,rfl⟩⟩:=hcut
  cases kq with
  | zero=>exact absurd HA.out (by simp [aR.j0])
  | succ xX =>
   have H:=HA.out
   clear HA
   simp only [aR.j0] at H
   by_cases c4 : xO = true
   ·subst c4
    have H1 : (some false) = some r:=by rw [if_pos rfl] at H;exact H
    clear H
    have H:=H1
    clear H1
    obtain rfl:=Option.some.inj H
    go_wp2
    go_ret
    exact ⟨by first|rfl|(simp;done)|(simp [*];done),by repeat (first|exact Drawn0.refl _|apply Drawn0.step)⟩
   ·replace c4:=Bool.eq_false_iff.mpr c4
    subst c4
    have H1 : (aR.l0 xX a0 0) = some r:=by rw [if_neg (show ¬ (false = true) by decide)] at H;exact H
    clear H
    have H:=H1
    clear H1
    have H':=Aside0.mk H
    clear H
    go_wp2
    go_loopg [3] xX (fun kq v3 w'=>∃ (xI : Int),v3 = .int .i64 xI ∧ Aside0 (aR.l0 kq a0 xI = some r) ∧ Aside0 (kq ≤ xX) ∧ Drawn0 w w')
    case atStart=>exact ⟨(0),(by first|rfl|(simp;done)|(simp [*];done)),H',⟨Nat.le_refl _⟩,by repeat (first|exact Drawn0.refl _|apply Drawn0.step)⟩
    case round =>
     clear H'
     try clear c1
     try clear p2
     try clear c3
     try clear c3b0
     try clear c3b1
     try clear c4
     try clear p2
     obtain ⟨xI,rfl,HA,xL,⟨m2,rfl⟩⟩:=hrel
     cases gk with
     | zero=>exact absurd HA.out (by simp [aR.l0])
     | succ k2 =>
      have H:=HA.out
      clear HA
      simp only [aR.l0] at H
      by_cases c5 : xI < (a0.size : Int)
      ·rw [if_pos c5] at H
       have c5b0 : decide (xI < (a0.size : Int)) = true:=decide_eq_true c5
       clear c5
       by_cases c6 : 0 ≤ xI
       ·rw [if_pos c6] at H
        have c6b0 : decide (0 ≤ xI) = true:=decide_eq_true c6
        clear c6
        by_cases c8 : (bt a0 xI) ≥ 97
        ·rw [if_pos c8] at H
         have c8b0 : decide (97 ≤ (bt a0 xI)) = true:=decide_eq_true c8
         clear c8
         by_cases c9 : (bt a0 xI) ≤ 122
         ·rw [if_pos c9] at H
          have c9b0 : decide ((bt a0 xI) ≤ 122) = true:=decide_eq_true c9
          clear c9
          have H':=Aside0.mk H
          clear H
          have p7 : 0 ≤ (xI : Int):=of_decide_eq_true (by first|(with_reducible assumption)|assumption)
          have q7 : xI < (a0.size : Int):=of_decide_eq_true (by first|(with_reducible assumption)|assumption)
          have hx7:=dx a0 xI
          replace p7:=eq_true p7
          replace q7:=eq_true q7
          go_wp2
          go_roundg k2
          case measure=>have:=xK.out;have:=xL.out;omega
          case rel=>exact ⟨(wrap64 (xI + 1)),(by first|rfl|(simp;done)|(simp [*];done)),H',⟨by have:=xK.out;have:=xL.out;omega⟩,by repeat (first|exact Drawn0.refl _|apply Drawn0.step)⟩
         ·rw [if_neg c9] at H
          have c9b0 : decide ((bt a0 xI) ≤ 122) = false:=decide_eq_false c9
          clear c9
          by_cases c10 : (bt a0 xI) ≥ 48
          ·rw [if_pos c10] at H
           have c10b0 : decide (48 ≤ (bt a0 xI)) = true:=decide_eq_true c10
           clear c10
           by_cases c11 : (bt a0 xI) ≤ 57
           ·rw [if_pos c11] at H
            have c11b0 : decide ((bt a0 xI) ≤ 57) = true:=decide_eq_true c11
            clear c11
            have H':=Aside0.mk H
            clear H
            have p7 : 0 ≤ (xI : Int):=of_decide_eq_true (by first|(with_reducible assumption)|assumption)
            have q7 : xI < (a0.size : Int):=of_decide_eq_true (by first|(with_reducible assumption)|assumption)
            have hx7:=dx a0 xI
            replace p7:=eq_true p7
            replace q7:=eq_true q7
            go_wp2
            go_roundg k2
            case measure=>have:=xK.out;have:=xL.out;omega
            case rel=>exact ⟨(wrap64 (xI + 1)),(by first|rfl|(simp;done)|(simp [*];done)),H',⟨by have:=xK.out;have:=xL.out;omega⟩,by repeat (first|exact Drawn0.refl _|apply Drawn0.step)⟩
           ·rw [if_neg c11] at H
            have c11b0 : decide ((bt a0 xI) ≤ 57) = false:=decide_eq_false c11
            clear c11
            by_cases c12 : (bt a0 xI) = 46
            ·rw [if_pos c12] at H
             have c12b0 : ((bt a0 xI) == 46) = true:=beq_iff_eq.mpr c12
             have c12b1 : ((bt a0 xI) != 46) = false:=bne_eq_false_iff_eq.mpr c12
             clear c12
             have H':=Aside0.mk H
             clear H
             have p7 : 0 ≤ (xI : Int):=of_decide_eq_true (by first|(with_reducible assumption)|assumption)
             have q7 : xI < (a0.size : Int):=of_decide_eq_true (by first|(with_reducible assumption)|assumption)
             have hx7:=dx a0 xI
             replace p7:=eq_true p7
             replace q7:=eq_true q7
             go_wp2
             go_roundg k2
             case measure=>have:=xK.out;have:=xL.out;omega
             case rel=>exact ⟨(wrap64 (xI + 1)),(by first|rfl|(simp;done)|(simp [*];done)),H',⟨by have:=xK.out;have:=xL.out;omega⟩,by repeat (first|exact Drawn0.refl _|apply Drawn0.step)⟩
            ·rw [if_neg c12] at H
             have c12b0 : ((bt a0 xI) == 46) = false:=beq_eq_false_iff_ne.mpr c12
             have c12b1 : ((bt a0 xI) != 46) = true:=bne_iff_ne.mpr c12
             by_cases c13 : (bt a0 xI) = 95
             ·rw [if_pos c13] at H
              have c13b0 : ((bt a0 xI) == 95) = true:=beq_iff_eq.mpr c13
              have c13b1 : ((bt a0 xI) != 95) = false:=bne_eq_false_iff_eq.mpr c13
              clear c13
              have H':=Aside0.mk H
              clear H
              have p7 : 0 ≤ (xI : Int):=of_decide_eq_true (by first|(with_reducible assumption)|assumption)
              have q7 : xI < (a0.size : Int):=of_decide_eq_true (by first|(with_reducible assumption)|assumption)
              have hx7:=dx a0 xI
              replace p7:=eq_true p7
              replace q7:=eq_true q7
              go_wp2
              go_roundg k2
              case measure=>have:=xK.out;have:=xL.out;omega
              case rel=>exact ⟨(wrap64 (xI + 1)),(by first|rfl|(simp;done)|(simp [*];done)),H',⟨by have:=xK.out;have:=xL.out;omega⟩,by repeat (first|exact Drawn0.refl _|apply Drawn0.step)⟩
             ·rw [if_neg c13] at H
              have c13b0 : ((bt a0 xI) == 95) = false:=beq_eq_false_iff_ne.mpr c13
              have c13b1 : ((bt a0 xI) != 95) = true:=bne_iff_ne.mpr c13
              by_cases c14 : (bt a0 xI) = 45
              ·rw [if_pos c14] at H
               have c14b0 : ((bt a0 xI) == 45) = true:=beq_iff_eq.mpr c14
               have c14b1 : ((bt a0 xI) != 45) = false:=bne_eq_false_iff_eq.mpr c14
               clear c14
               have H':=Aside0.mk H
               clear H
               have p7 : 0 ≤ (xI : Int):=of_decide_eq_true (by first|(with_reducible assumption)|assumption)
               have q7 : xI < (a0.size : Int):=of_decide_eq_true (by first|(with_reducible assumption)|assumption)
               have hx7:=dx a0 xI
               replace p7:=eq_true p7
               replace q7:=eq_true q7
               go_wp2
               go_roundg k2
               case measure=>have:=xK.out;have:=xL.out;omega
               case rel=>exact ⟨(wrap64 (xI + 1)),(by first|rfl|(simp;done)|(simp [*];done)),H',⟨by have:=xK.out;have:=xL.out;omega⟩,by repeat (first|exact Drawn0.refl _|apply Drawn0.step)⟩
              ·rw [if_neg c14] at H
               have c14b0 : ((bt a0 xI) == 45) = false:=beq_eq_false_iff_ne.mpr c14
               have c14b1 : ((bt a0 xI) != 45) = true:=bne_iff_ne.mpr c14
               by_cases c15 : ((bt a0 xI) = 47)
               ·rw [if_pos c15] at H
                have c15b0 : ((bt a0 xI) == 47) = true:=beq_iff_eq.mpr c15
                have c15b1 : ((bt a0 xI) != 47) = false:=bne_eq_false_iff_eq.mpr c15
                clear c15
                have H':=Aside0.mk H
                clear H
                have p7 : 0 ≤ (xI : Int):=of_decide_eq_true (by first|(with_reducible assumption)|assumption)
                have q7 : xI < (a0.size : Int):=of_decide_eq_true (by first|(with_reducible assumption)|assumption)
                have hx7:=dx a0 xI
                replace p7:=eq_true p7
                replace q7:=eq_true q7
                go_wp2
                go_roundg k2
                case measure=>have:=xK.out;have:=xL.out;omega
                case rel=>exact ⟨(wrap64 (xI + 1)),(by first|rfl|(simp;done)|(simp [*];done)),H',⟨by have:=xK.out;have:=xL.out;omega⟩,by repeat (first|exact Drawn0.refl _|apply Drawn0.step)⟩
               ·rw [if_neg c15] at H
                have c15b0 : ((bt a0 xI) == 47) = false:=beq_eq_false_iff_ne.mpr c15
                have c15b1 : ((bt a0 xI) != 47) = true:=bne_iff_ne.mpr c15
                obtain rfl:=Option.some.inj H
                have p7 : 0 ≤ (xI : Int):=of_decide_eq_true (by first|(with_reducible assumption)|assumption)
                have q7 : xI < (a0.size : Int):=of_decide_eq_true (by first|(with_reducible assumption)|assumption)
                have hx7:=dx a0 xI
                replace p7:=eq_true p7
                replace q7:=eq_true q7
                go_wp2
                go_ret
                exact ⟨by first|rfl|(simp;done)|(simp [*];done),by repeat (first|exact Drawn0.refl _|apply Drawn0.step)⟩
          ·rw [if_neg c10] at H
           have c10b0 : decide (48 ≤ (bt a0 xI)) = false:=decide_eq_false c10
           clear c10
           by_cases c16 : (bt a0 xI) = 46
           ·rw [if_pos c16] at H
            have c16b0 : ((bt a0 xI) == 46) = true:=beq_iff_eq.mpr c16
            have c16b1 : ((bt a0 xI) != 46) = false:=bne_eq_false_iff_eq.mpr c16
            clear c16
            have H':=Aside0.mk H
            clear H
            have p7 : 0 ≤ (xI : Int):=of_decide_eq_true (by first|(with_reducible assumption)|assumption)
            have q7 : xI < (a0.size : Int):=of_decide_eq_true (by first|(with_reducible assumption)|assumption)
            have hx7:=dx a0 xI
            replace p7:=eq_true p7
            replace q7:=eq_true q7
            go_wp2
            go_roundg k2
            case measure=>have:=xK.out;have:=xL.out;omega
            case rel=>exact ⟨(wrap64 (xI + 1)),(by first|rfl|(simp;done)|(simp [*];done)),H',⟨by have:=xK.out;have:=xL.out;omega⟩,by repeat (first|exact Drawn0.refl _|apply Drawn0.step)⟩
           ·rw [if_neg c16] at H
            have c16b0 : ((bt a0 xI) == 46) = false:=beq_eq_false_iff_ne.mpr c16
            have c16b1 : ((bt a0 xI) != 46) = true:=bne_iff_ne.mpr c16
            by_cases c17 : (bt a0 xI) = 95
            ·rw [if_pos c17] at H
             have c17b0 : ((bt a0 xI) == 95) = true:=beq_iff_eq.mpr c17
             have c17b1 : ((bt a0 xI) != 95) = false:=bne_eq_false_iff_eq.mpr c17
             clear c17
             have H':=Aside0.mk H
             clear H
             have p7 : 0 ≤ (xI : Int):=of_decide_eq_true (by first|(with_reducible assumption)|assumption)
             have q7 : xI < (a0.size : Int):=of_decide_eq_true (by first|(with_reducible assumption)|assumption)
             have hx7:=dx a0 xI
             replace p7:=eq_true p7
             replace q7:=eq_true q7
             go_wp2
             go_roundg k2
             case measure=>have:=xK.out;have:=xL.out;omega
             case rel=>exact ⟨(wrap64 (xI + 1)),(by first|rfl|(simp;done)|(simp [*];done)),H',⟨by have:=xK.out;have:=xL.out;omega⟩,by repeat (first|exact Drawn0.refl _|apply Drawn0.step)⟩
            ·rw [if_neg c17] at H
             have c17b0 : ((bt a0 xI) == 95) = false:=beq_eq_false_iff_ne.mpr c17
             have c17b1 : ((bt a0 xI) != 95) = true:=bne_iff_ne.mpr c17
             by_cases c18 : (bt a0 xI) = 45
             ·rw [if_pos c18] at H
              have c18b0 : ((bt a0 xI) == 45) = true:=beq_iff_eq.mpr c18
              have c18b1 : ((bt a0 xI) != 45) = false:=bne_eq_false_iff_eq.mpr c18
              clear c18
              have H':=Aside0.mk H
              clear H
              have p7 : 0 ≤ (xI : Int):=of_decide_eq_true (by first|(with_reducible assumption)|assumption)
              have q7 : xI < (a0.size : Int):=of_decide_eq_true (by first|(with_reducible assumption)|assumption)
              have hx7:=dx a0 xI
              replace p7:=eq_true p7
              replace q7:=eq_true q7
              go_wp2
              go_roundg k2
              case measure=>have:=xK.out;have:=xL.out;omega
              case rel=>exact ⟨(wrap64 (xI + 1)),(by first|rfl|(simp;done)|(simp [*];done)),H',⟨by have:=xK.out;have:=xL.out;omega⟩,by repeat (first|exact Drawn0.refl _|apply Drawn0.step)⟩
             ·rw [if_neg c18] at H
              have c18b0 : ((bt a0 xI) == 45) = false:=beq_eq_false_iff_ne.mpr c18
              have c18b1 : ((bt a0 xI) != 45) = true:=bne_iff_ne.mpr c18
              by_cases c19 : ((bt a0 xI) = 47)
              ·rw [if_pos c19] at H
               have c19b0 : ((bt a0 xI) == 47) = true:=beq_iff_eq.mpr c19
               have c19b1 : ((bt a0 xI) != 47) = false:=bne_eq_false_iff_eq.mpr c19
               clear c19
               have H':=Aside0.mk H
               clear H
               have p7 : 0 ≤ (xI : Int):=of_decide_eq_true (by first|(with_reducible assumption)|assumption)
               have q7 : xI < (a0.size : Int):=of_decide_eq_true (by first|(with_reducible assumption)|assumption)
               have hx7:=dx a0 xI
               replace p7:=eq_true p7
               replace q7:=eq_true q7
               go_wp2
               go_roundg k2
               case measure=>have:=xK.out;have:=xL.out;omega
               case rel=>exact ⟨(wrap64 (xI + 1)),(by first|rfl|(simp;done)|(simp [*];done)),H',⟨by have:=xK.out;have:=xL.out;omega⟩,by repeat (first|exact Drawn0.refl _|apply Drawn0.step)⟩
              ·rw [if_neg c19] at H
               have c19b0 : ((bt a0 xI) == 47) = false:=beq_eq_false_iff_ne.mpr c19
               have c19b1 : ((bt a0 xI) != 47) = true:=bne_iff_ne.mpr c19
               obtain rfl:=Option.some.inj H
               have p7 : 0 ≤ (xI : Int):=of_decide_eq_true (by first|(with_reducible assumption)|assumption)
               have q7 : xI < (a0.size : Int):=of_decide_eq_true (by first|(with_reducible assumption)|assumption)
               have hx7:=dx a0 xI
               replace p7:=eq_true p7
               replace q7:=eq_true q7
               go_wp2
               go_ret
               exact ⟨by first|rfl|(simp;done)|(simp [*];done),by repeat (first|exact Drawn0.refl _|apply Drawn0.step)⟩
        ·rw [if_neg c8] at H
         have c8b0 : decide (97 ≤ (bt a0 xI)) = false:=decide_eq_false c8
         clear c8
         by_cases c20 : (bt a0 xI) ≥ 48
         ·rw [if_pos c20] at H
          have c20b0 : decide (48 ≤ (bt a0 xI)) = true:=decide_eq_true c20
          clear c20
          by_cases c21 : (bt a0 xI) ≤ 57
          ·rw [if_pos c21] at H
           have c21b0 : decide ((bt a0 xI) ≤ 57) = true:=decide_eq_true c21
           clear c21
           have H':=Aside0.mk H
           clear H
           have p7 : 0 ≤ (xI : Int):=of_decide_eq_true (by first|(with_reducible assumption)|assumption)
           have q7 : xI < (a0.size : Int):=of_decide_eq_true (by first|(with_reducible assumption)|assumption)
           have hx7:=dx a0 xI
           replace p7:=eq_true p7
           replace q7:=eq_true q7
           go_wp2
           go_roundg k2
           case measure=>have:=xK.out;have:=xL.out;omega
           case rel=>exact ⟨(wrap64 (xI + 1)),(by first|rfl|(simp;done)|(simp [*];done)),H',⟨by have:=xK.out;have:=xL.out;omega⟩,by repeat (first|exact Drawn0.refl _|apply Drawn0.step)⟩
          ·rw [if_neg c21] at H
           have c21b0 : decide ((bt a0 xI) ≤ 57) = false:=decide_eq_false c21
           clear c21
           by_cases xP : (bt a0 xI) = 46
           ·rw [if_pos xP] at H
            have c22b0 : ((bt a0 xI) == 46) = true:=beq_iff_eq.mpr xP
            have c22b1 : ((bt a0 xI) != 46) = false:=bne_eq_false_iff_eq.mpr xP
            clear xP
            have H':=Aside0.mk H
            clear H
            have p7 : 0 ≤ (xI : Int):=of_decide_eq_true (by first|(with_reducible assumption)|assumption)
            have q7 : xI < (a0.size : Int):=of_decide_eq_true (by first|(with_reducible assumption)|assumption)
            have hx7:=dx a0 xI
            replace p7:=eq_true p7
            replace q7:=eq_true q7
            go_wp2
            go_roundg k2
            case measure=>have:=xK.out;have:=xL.out;omega
            case rel=>exact ⟨(wrap64 (xI + 1)),(by first|rfl|(simp;done)|(simp [*];done)),H',⟨by have:=xK.out;have:=xL.out;omega⟩,by repeat (first|exact Drawn0.refl _|apply Drawn0.step)⟩
           ·rw [if_neg xP] at H
            have c22b0 : ((bt a0 xI) == 46) = false:=beq_eq_false_iff_ne.mpr xP
            have c22b1 : ((bt a0 xI) != 46) = true:=bne_iff_ne.mpr xP
            by_cases c23 : (bt a0 xI) = 95
            ·rw [if_pos c23] at H
             have c23b0 : ((bt a0 xI) == 95) = true:=beq_iff_eq.mpr c23
             have c23b1 : ((bt a0 xI) != 95) = false:=bne_eq_false_iff_eq.mpr c23
             clear c23
             have H':=Aside0.mk H
             clear H
             have p7 : 0 ≤ (xI : Int):=of_decide_eq_true (by first|(with_reducible assumption)|assumption)
             have q7 : xI < (a0.size : Int):=of_decide_eq_true (by first|(with_reducible assumption)|assumption)
             have hx7:=dx a0 xI
             replace p7:=eq_true p7
             replace q7:=eq_true q7
             go_wp2
             go_roundg k2
             case measure=>have:=xK.out;have:=xL.out;omega
             case rel=>exact ⟨(wrap64 (xI + 1)),(by first|rfl|(simp;done)|(simp [*];done)),H',⟨by have:=xK.out;have:=xL.out;omega⟩,by repeat (first|exact Drawn0.refl _|apply Drawn0.step)⟩
            ·rw [if_neg c23] at H
             have c23b0 : ((bt a0 xI) == 95) = false:=beq_eq_false_iff_ne.mpr c23
             have c23b1 : ((bt a0 xI) != 95) = true:=bne_iff_ne.mpr c23
             by_cases c24 : (bt a0 xI) = 45
             ·rw [if_pos c24] at H
              have c24b0 : ((bt a0 xI) == 45) = true:=beq_iff_eq.mpr c24
              have c24b1 : ((bt a0 xI) != 45) = false:=bne_eq_false_iff_eq.mpr c24
              clear c24
              have H':=Aside0.mk H
              clear H
              have p7 : 0 ≤ (xI : Int):=of_decide_eq_true (by first|(with_reducible assumption)|assumption)
              have q7 : xI < (a0.size : Int):=of_decide_eq_true (by first|(with_reducible assumption)|assumption)
              have hx7:=dx a0 xI
              replace p7:=eq_true p7
              replace q7:=eq_true q7
              go_wp2
              go_roundg k2
              case measure=>have:=xK.out;have:=xL.out;omega
              case rel=>exact ⟨(wrap64 (xI + 1)),(by first|rfl|(simp;done)|(simp [*];done)),H',⟨by have:=xK.out;have:=xL.out;omega⟩,by repeat (first|exact Drawn0.refl _|apply Drawn0.step)⟩
             ·rw [if_neg c24] at H
              have c24b0 : ((bt a0 xI) == 45) = false:=beq_eq_false_iff_ne.mpr c24
              have c24b1 : ((bt a0 xI) != 45) = true:=bne_iff_ne.mpr c24
              by_cases xQ : ((bt a0 xI) = 47)
              ·rw [if_pos xQ] at H
               have c25b0 : ((bt a0 xI) == 47) = true:=beq_iff_eq.mpr xQ
               have c25b1 : ((bt a0 xI) != 47) = false:=bne_eq_false_iff_eq.mpr xQ
               clear xQ
               have H':=Aside0.mk H
               clear H
               have p7 : 0 ≤ (xI : Int):=of_decide_eq_true (by first|(with_reducible assumption)|assumption)
               have q7 : xI < (a0.size : Int):=of_decide_eq_true (by first|(with_reducible assumption)|assumption)
               have hx7:=dx a0 xI
               replace p7:=eq_true p7
               replace q7:=eq_true q7
               go_wp2
               go_roundg k2
               case measure=>have:=xK.out;have:=xL.out;omega
               case rel=>exact ⟨(wrap64 (xI + 1)),(by first|rfl|(simp;done)|(simp [*];done)),H',⟨by have:=xK.out;have:=xL.out;omega⟩,by repeat (first|exact Drawn0.refl _|apply Drawn0.step)⟩
              ·rw [if_neg xQ] at H
               have c25b0 : ((bt a0 xI) == 47) = false:=beq_eq_false_iff_ne.mpr xQ
               have c25b1 : ((bt a0 xI) != 47) = true:=bne_iff_ne.mpr xQ
               obtain rfl:=Option.some.inj H
               have p7 : 0 ≤ (xI : Int):=of_decide_eq_true (by first|(with_reducible assumption)|assumption)
               have q7 : xI < (a0.size : Int):=of_decide_eq_true (by first|(with_reducible assumption)|assumption)
               have hx7:=dx a0 xI
               replace p7:=eq_true p7
               replace q7:=eq_true q7
               go_wp2
               go_ret
               exact ⟨by first|rfl|(simp;done)|(simp [*];done),by repeat (first|exact Drawn0.refl _|apply Drawn0.step)⟩
         ·rw [if_neg c20] at H
          have c20b0 : decide (48 ≤ (bt a0 xI)) = false:=decide_eq_false c20
          clear c20
          by_cases xR : (bt a0 xI) = 46
          ·rw [if_pos xR] at H
           have c26b0 : ((bt a0 xI) == 46) = true:=beq_iff_eq.mpr xR
           have c26b1 : ((bt a0 xI) != 46) = false:=bne_eq_false_iff_eq.mpr xR
           clear xR
           have H':=Aside0.mk H
           clear H
           have p7 : 0 ≤ (xI : Int):=of_decide_eq_true (by first|(with_reducible assumption)|assumption)
           have q7 : xI < (a0.size : Int):=of_decide_eq_true (by first|(with_reducible assumption)|assumption)
           have hx7:=dx a0 xI
           replace p7:=eq_true p7
           replace q7:=eq_true q7
           go_wp2
           go_roundg k2
           case measure=>have:=xK.out;have:=xL.out;omega
           case rel=>exact ⟨(wrap64 (xI + 1)),(by first|rfl|(simp;done)|(simp [*];done)),H',⟨by have:=xK.out;have:=xL.out;omega⟩,by repeat (first|exact Drawn0.refl _|apply Drawn0.step)⟩
          ·rw [if_neg xR] at H
           have c26b0 : ((bt a0 xI) == 46) = false:=beq_eq_false_iff_ne.mpr xR
           have c26b1 : ((bt a0 xI) != 46) = true:=bne_iff_ne.mpr xR
           by_cases xS : (bt a0 xI) = 95
           ·rw [if_pos xS] at H
            have c27b0 : ((bt a0 xI) == 95) = true:=beq_iff_eq.mpr xS
            have c27b1 : ((bt a0 xI) != 95) = false:=bne_eq_false_iff_eq.mpr xS
            clear xS
            have H':=Aside0.mk H
            clear H
            have p7 : 0 ≤ (xI : Int):=of_decide_eq_true (by first|(with_reducible assumption)|assumption)
            have q7 : xI < (a0.size : Int):=of_decide_eq_true (by first|(with_reducible assumption)|assumption)
            have hx7:=dx a0 xI
            replace p7:=eq_true p7
            replace q7:=eq_true q7
            go_wp2
            go_roundg k2
            case measure=>have:=xK.out;have:=xL.out;omega
            case rel=>exact ⟨(wrap64 (xI + 1)),(by first|rfl|(simp;done)|(simp [*];done)),H',⟨by have:=xK.out;have:=xL.out;omega⟩,by repeat (first|exact Drawn0.refl _|apply Drawn0.step)⟩
           ·rw [if_neg xS] at H
            have c27b0 : ((bt a0 xI) == 95) = false:=beq_eq_false_iff_ne.mpr xS
            have c27b1 : ((bt a0 xI) != 95) = true:=bne_iff_ne.mpr xS
            by_cases c28 : (bt a0 xI) = 45
            ·rw [if_pos c28] at H
             have c28b0 : ((bt a0 xI) == 45) = true:=beq_iff_eq.mpr c28
             have c28b1 : ((bt a0 xI) != 45) = false:=bne_eq_false_iff_eq.mpr c28
             clear c28
             have H':=Aside0.mk H
             clear H
             have p7 : 0 ≤ (xI : Int):=of_decide_eq_true (by first|(with_reducible assumption)|assumption)
             have q7 : xI < (a0.size : Int):=of_decide_eq_true (by first|(with_reducible assumption)|assumption)
             have hx7:=dx a0 xI
             replace p7:=eq_true p7
             replace q7:=eq_true q7
             go_wp2
             go_roundg k2
             case measure=>have:=xK.out;have:=xL.out;omega
             case rel=>exact ⟨(wrap64 (xI + 1)),(by first|rfl|(simp;done)|(simp [*];done)),H',⟨by have:=xK.out;have:=xL.out;omega⟩,by repeat (first|exact Drawn0.refl _|apply Drawn0.step)⟩
            ·rw [if_neg c28] at H
             have c28b0 : ((bt a0 xI) == 45) = false:=beq_eq_false_iff_ne.mpr c28
             have c28b1 : ((bt a0 xI) != 45) = true:=bne_iff_ne.mpr c28
             by_cases xU : ((bt a0 xI) = 47)
             ·rw [if_pos xU] at H
              have c29b0 : ((bt a0 xI) == 47) = true:=beq_iff_eq.mpr xU
              have c29b1 : ((bt a0 xI) != 47) = false:=bne_eq_false_iff_eq.mpr xU
              clear xU
              have H':=Aside0.mk H
              clear H
              have p7 : 0 ≤ (xI : Int):=of_decide_eq_true (by first|(with_reducible assumption)|assumption)
              have q7 : xI < (a0.size : Int):=of_decide_eq_true (by first|(with_reducible assumption)|assumption)
              have hx7:=dx a0 xI
              replace p7:=eq_true p7
              replace q7:=eq_true q7
              go_wp2
              go_roundg k2
              case measure=>have:=xK.out;have:=xL.out;omega
              case rel=>exact ⟨(wrap64 (xI + 1)),(by first|rfl|(simp;done)|(simp [*];done)),H',⟨by have:=xK.out;have:=xL.out;omega⟩,by repeat (first|exact Drawn0.refl _|apply Drawn0.step)⟩
             ·rw [if_neg xU] at H
              have c29b0 : ((bt a0 xI) == 47) = false:=beq_eq_false_iff_ne.mpr xU
              have c29b1 : ((bt a0 xI) != 47) = true:=bne_iff_ne.mpr xU
              obtain rfl:=Option.some.inj H
              have p7 : 0 ≤ (xI : Int):=of_decide_eq_true (by first|(with_reducible assumption)|assumption)
              have q7 : xI < (a0.size : Int):=of_decide_eq_true (by first|(with_reducible assumption)|assumption)
              have hx7:=dx a0 xI
              replace p7:=eq_true p7
              replace q7:=eq_true q7
              go_wp2
              go_ret
              exact ⟨by first|rfl|(simp;done)|(simp [*];done),by repeat (first|exact Drawn0.refl _|apply Drawn0.step)⟩
       ·rw [if_neg c6] at H
        exact absurd H (by simp)
      ·rw [if_neg c5] at H
       have c5b0 : decide (xI < (a0.size : Int)) = false:=decide_eq_false c5
       clear c5
       obtain rfl:=Option.some.inj H
       go_wp2
       go_ret
       exact ⟨by first|rfl|(simp;done)|(simp [*];done),by repeat (first|exact Drawn0.refl _|apply Drawn0.step)⟩
def bH.l0 : Nat → Int → ByteArray → Int → Option (Bool)
 | 0,_,_,_=>none
 | k + 1,x0,x1,x5=>if x5 < (x1.size : Int) then (if 0 ≤ x5 then (if (bt x1 x5) = x0 then (some true) else (bH.l0 k x0 x1 (wrap64 (x5 + 1)))) else (none)) else (some false)
def bH.f (k : Nat) (a0 : Int) (a1 : ByteArray) : Option (Bool):=bH.l0 k a0 a1 0
theorem bH.dO : ∀ k,(∀ y0 y1 y2,LeO (bH.l0 k y0 y1 y2) (bH.l0 (k + 1) y0 y1 y2))
 | 0=>fun _ _ _ r h=>by simp [bH.l0] at h
 | k + 1=>by
  have xM:=bH.dO k
  ·intro y0 y1 y2
   unfold bH.l0
   repeat' first
   | (with_reducible exact xM _ _ _)
   | (with_reducible exact LeO.refl _)
   | (with_reducible exact LeO.none _)
   | (with_reducible refine LeO.ite ?_ ?_)
   | (with_reducible refine LeO.bind ?_ (fun _=>?_))
   | exact xM _ _ _
   | exact LeO.none _
   | refine LeO.ite ?_ ?_
   | refine LeO.bind ?_ (fun _=>?_)
theorem bH.mono : ∀ a0 a1 k,LeO (bH.f k a0 a1) (bH.f (k + 1) a0 a1):=by
 intro a0 a1 k
 have xM:=bH.dO k
 unfold bH.f
 repeat' first
   | (with_reducible exact xM _ _ _)
   | (with_reducible exact LeO.refl _)
   | (with_reducible exact LeO.none _)
   | (with_reducible refine LeO.ite ?_ ?_)
   | (with_reducible refine LeO.bind ?_ (fun _=>?_))
   | exact xM _ _ _
   | exact LeO.none _
   | refine LeO.ite ?_ ?_
   | refine LeO.bind ?_ (fun _=>?_)
set_option maxHeartbeats 8000000 in
set_option maxRecDepth 100000 in
theorem bH.calls (k : Nat) (a0 : Int) (a1 : ByteArray) (r : Bool) (w : World) (h : bH.f k a0 a1 = some r) :
  Calls Tryd.prog 69 #[.int .u8 a0,.string a1] w fun e w'=>e = .returned (.bool r) ∧ Drawn0 w w':=by
 have H : (bH.l0 k a0 a1 0) = some r:=h
 clear h
 have H':=Aside0.mk H
 clear H
 go_enter Tryd.func69,Tryd.ntmps69
 go_wp2
 go_loopg [5] k (fun kq v5 w'=>∃ (xJ : Int),v5 = .int .i64 xJ ∧ Aside0 (bH.l0 kq a0 a1 xJ = some r) ∧ Aside0 (kq ≤ k) ∧ Drawn0 w w')
 case atStart=>exact ⟨(0),(by first|rfl|(simp;done)|(simp [*];done)),H',⟨Nat.le_refl _⟩,by repeat (first|exact Drawn0.refl _|apply Drawn0.step)⟩
 case round =>
  clear H'
  try clear p2
  obtain ⟨xJ,rfl,HA,xV,⟨m1,rfl⟩⟩:=hrel
  cases gk with
  | zero=>exact absurd HA.out (by simp [bH.l0])
  | succ k1 =>
   have H:=HA.out
   clear HA
   simp only [bH.l0] at H
   by_cases c3 : xJ < (a1.size : Int)
   ·rw [if_pos c3] at H
    have c3b0 : decide (xJ < (a1.size : Int)) = true:=decide_eq_true c3
    clear c3
    by_cases c4 : 0 ≤ xJ
    ·rw [if_pos c4] at H
     have c4b0 : decide (0 ≤ xJ) = true:=decide_eq_true c4
     clear c4
     by_cases c6 : (bt a1 xJ) = a0
     ·rw [if_pos c6] at H
      have c6b0 : ((bt a1 xJ) == a0) = true:=beq_iff_eq.mpr c6
      have c6b1 : ((bt a1 xJ) != a0) = false:=bne_eq_false_iff_eq.mpr c6
      clear c6
      obtain rfl:=Option.some.inj H
      have p5 : 0 ≤ (xJ : Int):=of_decide_eq_true (by first|(with_reducible assumption)|assumption)
      have q5 : xJ < (a1.size : Int):=of_decide_eq_true (by first|(with_reducible assumption)|assumption)
      have hx5:=dx a1 xJ
      replace p5:=eq_true p5
      replace q5:=eq_true q5
      go_wp2
      go_ret
      exact ⟨by first|rfl|(simp;done)|(simp [*];done),by repeat (first|exact Drawn0.refl _|apply Drawn0.step)⟩
     ·rw [if_neg c6] at H
      have c6b0 : ((bt a1 xJ) == a0) = false:=beq_eq_false_iff_ne.mpr c6
      have c6b1 : ((bt a1 xJ) != a0) = true:=bne_iff_ne.mpr c6
      have H':=Aside0.mk H
      clear H
      have p5 : 0 ≤ (xJ : Int):=of_decide_eq_true (by first|(with_reducible assumption)|assumption)
      have q5 : xJ < (a1.size : Int):=of_decide_eq_true (by first|(with_reducible assumption)|assumption)
      have hx5:=dx a1 xJ
      replace p5:=eq_true p5
      replace q5:=eq_true q5
      go_wp2
      go_roundg k1
      case measure=>have:=xV.out;omega
      case rel=>exact ⟨(wrap64 (xJ + 1)),(by first|rfl|(simp;done)|(simp [*];done)),H',⟨by have:=xV.out;omega⟩,by repeat (first|exact Drawn0.refl _|apply Drawn0.step)⟩
    ·rw [if_neg c4] at H
     exact absurd H (by simp)
   ·rw [if_neg c3] at H
    have c3b0 : decide (xJ < (a1.size : Int)) = false:=decide_eq_false c3
    clear c3
    obtain rfl:=Option.some.inj H
    go_wp2
    go_ret
    exact ⟨by first|rfl|(simp;done)|(simp [*];done),by repeat (first|exact Drawn0.refl _|apply Drawn0.step)⟩
def bA.l0 : Nat → ByteArray → ByteArray → Int → Option (Bool)
 | 0,_,_,_=>none
 | k + 1,x0,x1,x5=>if x5 < (x0.size : Int) then (if 0 ≤ x5 then ((bH.f k (bt x0 x5) x1).bind fun t164=>(if t164 = true then (bA.l0 k x0 x1 (wrap64 (x5 + 1))) else (some false))) else (none)) else (some true)
def bA.f (k : Nat) (a0 : ByteArray) (a1 : ByteArray) : Option (Bool):=bA.l0 k a0 a1 0
theorem bA.dO : ∀ k,(∀ y0 y1 y2,LeO (bA.l0 k y0 y1 y2) (bA.l0 (k + 1) y0 y1 y2))
 | 0=>fun _ _ _ r h=>by simp [bA.l0] at h
 | k + 1=>by
  have xM:=bA.dO k
  ·intro y0 y1 y2
   unfold bA.l0
   repeat' first
   | (with_reducible exact xM _ _ _)
   | (with_reducible exact bH.mono _ _ _)
   | (with_reducible exact LeO.refl _)
   | (with_reducible exact LeO.none _)
   | (with_reducible refine LeO.ite ?_ ?_)
   | (with_reducible refine LeO.bind ?_ (fun _=>?_))
   | exact xM _ _ _
   | exact bH.mono _ _ _
   | exact LeO.none _
   | refine LeO.ite ?_ ?_
   | refine LeO.bind ?_ (fun _=>?_)
theorem bA.mono : ∀ a0 a1 k,LeO (bA.f k a0 a1) (bA.f (k + 1) a0 a1):=by
 intro a0 a1 k
 have xM:=bA.dO k
 unfold bA.f
 repeat' first
   | (with_reducible exact xM _ _ _)
   | (with_reducible exact bH.mono _ _ _)
   | (with_reducible exact LeO.refl _)
   | (with_reducible exact LeO.none _)
   | (with_reducible refine LeO.ite ?_ ?_)
   | (with_reducible refine LeO.bind ?_ (fun _=>?_))
   | exact xM _ _ _
   | exact bH.mono _ _ _
   | exact LeO.none _
   | refine LeO.ite ?_ ?_
   | refine LeO.bind ?_ (fun _=>?_)
set_option maxHeartbeats 8000000 in
set_option maxRecDepth 100000 in
theorem bA.calls (k : Nat) (a0 : ByteArray) (a1 : ByteArray) (r : Bool) (w : World) (h : bA.f k a0 a1 = some r) :
  Calls Tryd.prog 65 #[.string a0,.string a1] w fun e w'=>e = .returned (.bool r) ∧ Drawn0 w w':=by
 have H : (bA.l0 k a0 a1 0) = some r:=h
 clear h
 have H':=Aside0.mk H
 clear H
 go_enter Tryd.func65,Tryd.ntmps65
 go_wp2
 go_loopg [5] k (fun kq v5 w'=>∃ (xJ : Int),v5 = .int .i64 xJ ∧ Aside0 (bA.l0 kq a0 a1 xJ = some r) ∧ Aside0 (kq ≤ k) ∧ Drawn0 w w')
 case atStart=>exact ⟨(0),(by first|rfl|(simp;done)|(simp [*];done)),H',⟨Nat.le_refl _⟩,by repeat (first|exact Drawn0.refl _|apply Drawn0.step)⟩
 case round =>
  clear H'
  try clear p2
  obtain ⟨xJ,rfl,HA,xV,⟨m1,rfl⟩⟩:=hrel
  cases gk with
  | zero=>exact absurd HA.out (by simp [bA.l0])
  | succ k1 =>
   have H:=HA.out
   clear HA
   simp only [bA.l0] at H
   by_cases c3 : xJ < (a0.size : Int)
   ·rw [if_pos c3] at H
    have c3b0 : decide (xJ < (a0.size : Int)) = true:=decide_eq_true c3
    clear c3
    by_cases c4 : 0 ≤ xJ
    ·rw [if_pos c4] at H
     have c4b0 : decide (0 ≤ xJ) = true:=decide_eq_true c4
     clear c4
     replace H:=Option.bind_eq_some_iff.mp H
     obtain ⟨t164,xY,H⟩:=H
     replace H : (if t164 = true then (bA.l0 k1 a0 a1 (wrap64 (xJ + 1))) else (some false)) = some r:=H
     have A6:=Aside0.mk xY
     clear xY
     by_cases c7 : t164 = true
     ·subst c7
      have H1 : (bA.l0 k1 a0 a1 (wrap64 (xJ + 1))) = some r:=by rw [if_pos rfl] at H;exact H
      clear H
      have H:=H1
      clear H1
      have H':=Aside0.mk H
      clear H
      have p5 : 0 ≤ (xJ : Int):=of_decide_eq_true (by first|(with_reducible assumption)|assumption)
      have q5 : xJ < (a0.size : Int):=of_decide_eq_true (by first|(with_reducible assumption)|assumption)
      have hx5:=dx a0 xJ
      replace p5:=eq_true p5
      replace q5:=eq_true q5
      go_wp2_with (first|((with_reducible refine bK (f:=69) rfl ?_);refine dH (some 16) rfl rfl Tryd.func69 (by kernel_rfl) rfl #[.int .u8 (bt a0 xJ),.string a1] rfl (by (try simp only [List.map_toArray,List.map_cons,List.map_nil]);first|done|rfl|(simp only [List.length_drop,List.length_take];rfl)|(simp (disch:=first|omega|(simp at *;omega)) only [dh,bY,dY];rfl)) ?_;(with_reducible refine (bH.calls k1 (bt a0 xJ) a1 true _ A6.out).mono ?_);rintro e w' ⟨rfl,⟨nd,rfl⟩⟩;refine ⟨_,rfl,?_⟩))
      go_roundg k1
      case measure=>have:=xV.out;omega
      case rel=>exact ⟨(wrap64 (xJ + 1)),(by first|rfl|(simp;done)|(simp [*];done)),H',⟨by have:=xV.out;omega⟩,by repeat (first|exact Drawn0.refl _|apply Drawn0.step)⟩
     ·replace c7:=Bool.eq_false_iff.mpr c7
      subst c7
      have H1 : (some false) = some r:=by rw [if_neg (show ¬ (false = true) by decide)] at H;exact H
      clear H
      have H:=H1
      clear H1
      obtain rfl:=Option.some.inj H
      have p5 : 0 ≤ (xJ : Int):=of_decide_eq_true (by first|(with_reducible assumption)|assumption)
      have q5 : xJ < (a0.size : Int):=of_decide_eq_true (by first|(with_reducible assumption)|assumption)
      have hx5:=dx a0 xJ
      replace p5:=eq_true p5
      replace q5:=eq_true q5
      go_wp2_with (first|((with_reducible refine bK (f:=69) rfl ?_);refine dH (some 16) rfl rfl Tryd.func69 (by kernel_rfl) rfl #[.int .u8 (bt a0 xJ),.string a1] rfl (by (try simp only [List.map_toArray,List.map_cons,List.map_nil]);first|done|rfl|(simp only [List.length_drop,List.length_take];rfl)|(simp (disch:=first|omega|(simp at *;omega)) only [dh,bY,dY];rfl)) ?_;(with_reducible refine (bH.calls k1 (bt a0 xJ) a1 false _ A6.out).mono ?_);rintro e w' ⟨rfl,⟨nd,rfl⟩⟩;refine ⟨_,rfl,?_⟩))
      go_ret
      exact ⟨by first|rfl|(simp;done)|(simp [*];done),by repeat (first|exact Drawn0.refl _|apply Drawn0.step)⟩
    ·rw [if_neg c4] at H
     exact absurd H (by simp)
   ·rw [if_neg c3] at H
    have c3b0 : decide (xJ < (a0.size : Int)) = false:=decide_eq_false c3
    clear c3
    obtain rfl:=Option.some.inj H
    go_wp2
    go_ret
    exact ⟨by first|rfl|(simp;done)|(simp [*];done),by repeat (first|exact Drawn0.refl _|apply Drawn0.step)⟩
def cu.f  : Option (ByteArray):=some (⟨#[97,98,99,100,101,102,103,104,105,106,107,108,109,110,111,112,113,114,115,116,117,118,119,120,121,122]⟩ : ByteArray)
set_option maxHeartbeats 8000000 in
set_option maxRecDepth 100000 in
theorem cu.calls  (r : ByteArray) (w : World) (h : cu.f  = some r) :
  Calls Tryd.prog 66 #[] w fun e w'=>e = .returned (.string r) ∧ Drawn0 w w':=by
 have H : (some (⟨#[97,98,99,100,101,102,103,104,105,106,107,108,109,110,111,112,113,114,115,116,117,118,119,120,121,122]⟩ : ByteArray)) = some r:=h
 clear h
 obtain rfl:=Option.some.inj H
 go_enter Tryd.func66,Tryd.ntmps66
 go_wp2
 go_ret
 exact ⟨by first|rfl|(simp;done)|(simp [*];done),by repeat (first|exact Drawn0.refl _|apply Drawn0.step)⟩
def bO.f  : Option (ByteArray):=some (⟨#[48,49,50,51,52,53,54,55,56,57]⟩ : ByteArray)
set_option maxHeartbeats 8000000 in
set_option maxRecDepth 100000 in
theorem bO.calls  (r : ByteArray) (w : World) (h : bO.f  = some r) :
  Calls Tryd.prog 68 #[] w fun e w'=>e = .returned (.string r) ∧ Drawn0 w w':=by
 have H : (some (⟨#[48,49,50,51,52,53,54,55,56,57]⟩ : ByteArray)) = some r:=h
 clear h
 obtain rfl:=Option.some.inj H
 go_enter Tryd.func68,Tryd.ntmps68
 go_wp2
 go_ret
 exact ⟨by first|rfl|(simp;done)|(simp [*];done),by repeat (first|exact Drawn0.refl _|apply Drawn0.step)⟩
end Go.Proofs.YtpmbdcljphpcnaaDoor.GC2
