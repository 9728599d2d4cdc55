/- Written by this session's own program (wip/gen.py) out of the translation: plain Lean functions of the Go functions, and proofs that the calls come to their answers. No conditions beside those in the statements. -/
import Derived.Test.YtpflenjhmeaeoaaDoorGUtx0
namespace Go.Proofs.YtpflenjhmeaeoaaDoor.GUt
open Go.RowKit Go.Proofs.YtpflenjhmeaeoaaDoorW.PrintWords Go.Proofs.YtpflenjhmeaeoaaDoorW.PrintLast Go.Proofs.YtpflenjhmeaeoaaDoorW.PrintMore
attribute [local go_sem] dS dU eG eH dI dJ dV dW
set_option linter.unusedVariables false
set_option linter.unusedSimpArgs false
def aG.l0 : Nat → List ByteArray → ByteArray → Int → Int → Option (Int)
 | 0,_,_,_,_=>none
 | k + 1,x0,x1,x7,x8=>if x8 < x7 then (if 0 ≤ x8 then (if x8 < (x0.length : Int) then (if x1.toList = (gL ByteArray.empty x0 x8).toList then (some x8) else (aG.l0 k x0 x1 x7 (wrap64 (x8 + 1)))) else (none)) else (none)) else (some (-1))
def aG.f (k : Nat) (l0 : List ByteArray) (a1 : ByteArray) : Option (Int):=aG.l0 k l0 a1 (l0.length : Int) 0
theorem aG.eu : ∀ k,(∀ y0 y1 y2 y3,LeO (aG.l0 k y0 y1 y2 y3) (aG.l0 (k + 1) y0 y1 y2 y3))
 | 0=>fun _ _ _ _ r h=>by simp [aG.l0] at h
 | k + 1=>by
  have sJ:=aG.eu k
  ·intro y0 y1 y2 y3
   unfold aG.l0
   repeat' first
   | (with_reducible exact sJ _ _ _ _)
   | (with_reducible exact LeO.refl _)
   | (with_reducible exact LeO.none _)
   | (with_reducible refine LeO.ite ?_ ?_)
   | (with_reducible refine LeO.bind ?_ (fun _=>?_))
   | exact sJ _ _ _ _
   | exact LeO.none _
   | refine LeO.ite ?_ ?_
   | refine LeO.bind ?_ (fun _=>?_)
theorem aG.mono : ∀ a0 a1 k,LeO (aG.f k a0 a1) (aG.f (k + 1) a0 a1):=by
 intro a0 a1 k
 have sJ:=aG.eu k
 unfold aG.f
 repeat' first
   | (with_reducible exact sJ _ _ _ _)
   | (with_reducible exact LeO.refl _)
   | (with_reducible exact LeO.none _)
   | (with_reducible refine LeO.ite ?_ ?_)
   | (with_reducible refine LeO.bind ?_ (fun _=>?_))
   | exact sJ _ _ _ _
   | exact LeO.none _
   | refine LeO.ite ?_ ?_
   | refine LeO.bind ?_ (fun _=>?_)
set_option maxHeartbeats 8000000 in
set_option maxRecDepth 100000 in
theorem aG.calls (k : Nat) (A0 : Option Addr) (c0 : Nat) (l0 : List ByteArray) (a1 : ByteArray) (r : Int) (w : World) (hr0 : Kd.C Kd.string w A0 l0.length l0) (hc0 : l0.length ≤ c0) (h : aG.f k l0 a1 = some r) :
  Calls Tryd.prog 53 #[.slice A0 l0.length c0,.string a1] w fun e w'=>e = .returned (.int .i64 r) ∧ Drawn0 w w':=by
 have sM:=Aside0.mk hr0
 have sO:=Aside0.mk hc0
 clear hr0 hc0
 have H : (aG.l0 k l0 a1 (l0.length : Int) 0) = some r:=h
 clear h
 have H':=Aside0.mk H
 clear H
 go_enter Tryd.func53,Tryd.ntmps53
 go_wp2
 go_loopg [8] k (fun kq v8 w'=>∃ (sD : Int),v8 = .int .i64 sD ∧ Aside0 (aG.l0 kq l0 a1 (l0.length : Int) sD = some r) ∧ Aside0 (kq ≤ k) ∧ Drawn0 w w')
 case atStart=>exact ⟨(0),(by first|rfl|(simp;done)|(simp [*];done)),H',⟨Nat.le_refl _⟩,by repeat (first|exact Drawn0.refl _|apply Drawn0.step)⟩
 case round =>
  clear H'
  try clear p2
  obtain ⟨sD,rfl,HA,sN,⟨m1,rfl⟩⟩:=hrel
  cases gk with
  | zero=>exact absurd HA.out (by simp [aG.l0])
  | succ k1 =>
   have H:=HA.out
   clear HA
   simp only [aG.l0] at H
   by_cases c3 : sD < (l0.length : Int)
   ·rw [if_pos c3] at H
    have c3b0 : decide (sD < (l0.length : Int)) = true:=decide_eq_true c3
    clear c3
    by_cases c4 : 0 ≤ sD
    ·rw [if_pos c4] at H
     have c4b0 : decide (0 ≤ sD) = true:=decide_eq_true c4
     clear c4
     by_cases c5 : sD < (l0.length : Int)
     ·rw [if_pos c5] at H
      have c5b0 : decide (sD < (l0.length : Int)) = true:=decide_eq_true c5
      clear c5
      by_cases c6 : a1.toList = (gL ByteArray.empty l0 sD).toList
      ·rw [if_pos c6] at H
       have c6b0 : (a1.toList == (gL ByteArray.empty l0 sD).toList) = true:=beq_iff_eq.mpr c6
       have c6b1 : (a1.toList != (gL ByteArray.empty l0 sD).toList) = false:=bne_eq_false_iff_eq.mpr c6
       clear c6
       obtain rfl:=Option.some.inj H
       have sF : 0 ≤ (sD : Int):=of_decide_eq_true (by first|(with_reducible assumption)|assumption)
       have sG : sD < (l0.length : Int):=of_decide_eq_true (by first|(with_reducible assumption)|assumption)
       obtain ⟨sK,sI,sH⟩:=Kd.gy sM.out sD sF sG
       cases sI
       replace sF:=eq_true sF
       replace sG:=eq_true sG
       go_wp2
       go_ret
       exact ⟨by first|rfl|(simp;done)|(simp [*];done),by repeat (first|exact Drawn0.refl _|apply Drawn0.step)⟩
      ·rw [if_neg c6] at H
       have c6b0 : (a1.toList == (gL ByteArray.empty l0 sD).toList) = false:=beq_eq_false_iff_ne.mpr c6
       have c6b1 : (a1.toList != (gL ByteArray.empty l0 sD).toList) = true:=bne_iff_ne.mpr c6
       have H':=Aside0.mk H
       clear H
       have sF : 0 ≤ (sD : Int):=of_decide_eq_true (by first|(with_reducible assumption)|assumption)
       have sG : sD < (l0.length : Int):=of_decide_eq_true (by first|(with_reducible assumption)|assumption)
       obtain ⟨sK,sI,sH⟩:=Kd.gy sM.out sD sF sG
       cases sI
       replace sF:=eq_true sF
       replace sG:=eq_true sG
       go_wp2
       go_roundg k1
       case measure=>have:=sN.out;omega
       case rel=>exact ⟨(wrap64 (sD + 1)),(by first|rfl|(simp;done)|(simp [*];done)),H',⟨by have:=sN.out;omega⟩,by repeat (first|exact Drawn0.refl _|apply Drawn0.step)⟩
     ·rw [if_neg c5] at H
      exact absurd H (by simp)
    ·rw [if_neg c4] at H
     exact absurd H (by simp)
   ·rw [if_neg c3] at H
    have c3b0 : decide (sD < (l0.length : Int)) = false:=decide_eq_false c3
    clear c3
    obtain rfl:=Option.some.inj H
    go_wp2
    go_ret
    exact ⟨by first|rfl|(simp;done)|(simp [*];done),by repeat (first|exact Drawn0.refl _|apply Drawn0.step)⟩
end Go.Proofs.YtpflenjhmeaeoaaDoor.GUt
