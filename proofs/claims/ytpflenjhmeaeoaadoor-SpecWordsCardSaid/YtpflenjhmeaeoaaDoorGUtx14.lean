/- Written by this session's own program (wip/gen.py) out of the translation: plain Lean functions of the Go functions, and proofs that the calls come to their answers. No conditions beside those in the statements. -/
import Derived.Test.YtpflenjhmeaeoaaDoorGUtx0
namespace Go.Proofs.YtpflenjhmeaeoaaDoor.GUt
open Go.RowKit Go.Proofs.YtpflenjhmeaeoaaDoorW.PrintWords Go.Proofs.YtpflenjhmeaeoaaDoorW.PrintLast Go.Proofs.YtpflenjhmeaeoaaDoorW.PrintMore
attribute [local go_sem] dS dU eG eH dI dJ dV dW
set_option linter.unusedVariables false
set_option linter.unusedSimpArgs false
def bD.f (l0 : List ByteArray) (a1 : Int) : Option (ByteArray):=if a1 < 0 then (some (⟨#[110,111,110,101]⟩ : ByteArray)) else (if a1 ≥ (l0.length : Int) then (some (⟨#[110,111,110,101]⟩ : ByteArray)) else (if 0 ≤ a1 then (if a1 < (l0.length : Int) then (some (gL ByteArray.empty l0 a1)) else (none)) else (none)))
set_option maxHeartbeats 8000000 in
set_option maxRecDepth 100000 in
theorem bD.calls (A0 : Option Addr) (c0 : Nat) (l0 : List ByteArray) (a1 : Int) (r : ByteArray) (w : World) (hr0 : Kd.C Kd.string w A0 l0.length l0) (hc0 : l0.length ≤ c0) (h : bD.f l0 a1 = some r) :
  Calls Tryd.prog 22 #[.slice A0 l0.length c0,.int .i64 a1] w fun e w'=>e = .returned (.string r) ∧ Drawn0 w w':=by
 have sJ:=Aside0.mk hr0
 have sK:=Aside0.mk hc0
 clear hr0 hc0
 have H : (if a1 < 0 then (some (⟨#[110,111,110,101]⟩ : ByteArray)) else (if a1 ≥ (l0.length : Int) then (some (⟨#[110,111,110,101]⟩ : ByteArray)) else (if 0 ≤ a1 then (if a1 < (l0.length : Int) then (some (gL ByteArray.empty l0 a1)) else (none)) else (none)))) = some r:=h
 clear h
 by_cases c3 : a1 < 0
 ·rw [if_pos c3] at H
  have c3b0 : decide (a1 < 0) = true:=decide_eq_true c3
  clear c3
  obtain rfl:=Option.some.inj H
  go_enter Tryd.func22,Tryd.ntmps22
  go_wp2
  go_ret
  exact ⟨by first|rfl|(simp;done)|(simp [*];done),by repeat (first|exact Drawn0.refl _|apply Drawn0.step)⟩
 ·rw [if_neg c3] at H
  have c3b0 : decide (a1 < 0) = false:=decide_eq_false c3
  clear c3
  by_cases c4 : a1 ≥ (l0.length : Int)
  ·rw [if_pos c4] at H
   have c4b0 : decide ((l0.length : Int) ≤ a1) = true:=decide_eq_true c4
   clear c4
   obtain rfl:=Option.some.inj H
   go_enter Tryd.func22,Tryd.ntmps22
   go_wp2
   go_ret
   exact ⟨by first|rfl|(simp;done)|(simp [*];done),by repeat (first|exact Drawn0.refl _|apply Drawn0.step)⟩
  ·rw [if_neg c4] at H
   have c4b0 : decide ((l0.length : Int) ≤ a1) = false:=decide_eq_false c4
   clear c4
   by_cases c5 : 0 ≤ a1
   ·rw [if_pos c5] at H
    have c5b0 : decide (0 ≤ a1) = true:=decide_eq_true c5
    clear c5
    by_cases c6 : a1 < (l0.length : Int)
    ·rw [if_pos c6] at H
     have c6b0 : decide (a1 < (l0.length : Int)) = true:=decide_eq_true c6
     clear c6
     obtain rfl:=Option.some.inj H
     have sD : 0 ≤ (a1 : Int):=of_decide_eq_true (by first|(with_reducible assumption)|assumption)
     have sF : a1 < (l0.length : Int):=of_decide_eq_true (by first|(with_reducible assumption)|assumption)
     obtain ⟨sI,sH,sG⟩:=Kd.gy sJ.out a1 sD sF
     cases sH
     replace sD:=eq_true sD
     replace sF:=eq_true sF
     go_enter Tryd.func22,Tryd.ntmps22
     go_wp2
     go_ret
     exact ⟨by first|rfl|(simp;done)|(simp [*];done),by repeat (first|exact Drawn0.refl _|apply Drawn0.step)⟩
    ·rw [if_neg c6] at H
     exact absurd H (by simp)
   ·rw [if_neg c5] at H
    exact absurd H (by simp)
end Go.Proofs.YtpflenjhmeaeoaaDoor.GUt
