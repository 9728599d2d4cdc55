/- Written by this session's own program (wip/gen.py) out of the translation: plain Lean functions of the Go functions, and proofs that the calls come to their answers. No conditions beside those in the statements. -/
import Derived.Test.YtpflenjhmeaeoaaGreatDoorGUtx0
namespace Go.Proofs.YtpflenjhmeaeoaaGreatDoor.GUt
open Go.RowKit Go.Proofs.YtpflenjhmeaeoaaGreatDoorW.PrintWords Go.Proofs.YtpflenjhmeaeoaaGreatDoorW.PrintLast Go.Proofs.YtpflenjhmeaeoaaGreatDoorW.PrintMore
attribute [local go_sem] fJ fK gH gI eO eP fM fO
set_option linter.unusedVariables false
set_option linter.unusedSimpArgs false
def aQ.l0 : Nat → List Int → Int → Int → Option (Int)
 | 0,_,_,_=>none
 | k + 1,x5,x6,x7=>if x7 < x6 then (if 0 ≤ x7 then (if x7 < (x5.length : Int) then (if (rd x5 x7) = 0 then (aQ.l0 k x5 x6 (wrap64 (x7 + 1))) else (some (rd x5 x7))) else (none)) else (none)) else (some 0)
def aQ.f (k : Nat) (l0 : List Int) : Option (Int):=aQ.l0 k l0 (l0.length : Int) 0
theorem aQ.dQ : ∀ k,(∀ y0 y1 y2,LeO (aQ.l0 k y0 y1 y2) (aQ.l0 (k + 1) y0 y1 y2))
 | 0=>fun _ _ _ r h=>by simp [aQ.l0] at h
 | k + 1=>by
  have Bj:=aQ.dQ k
  ·intro y0 y1 y2
   unfold aQ.l0
   repeat' first
   | (with_reducible exact Bj _ _ _)
   | (with_reducible exact LeO.refl _)
   | (with_reducible exact LeO.none _)
   | (with_reducible refine LeO.ite ?_ ?_)
   | (with_reducible refine LeO.bind ?_ (fun _=>?_))
   | exact Bj _ _ _
   | exact LeO.none _
   | refine LeO.ite ?_ ?_
   | refine LeO.bind ?_ (fun _=>?_)
theorem aQ.mono : ∀ a0 k,LeO (aQ.f k a0) (aQ.f (k + 1) a0):=by
 intro a0 k
 have Bj:=aQ.dQ k
 unfold aQ.f
 repeat' first
   | (with_reducible exact Bj _ _ _)
   | (with_reducible exact LeO.refl _)
   | (with_reducible exact LeO.none _)
   | (with_reducible refine LeO.ite ?_ ?_)
   | (with_reducible refine LeO.bind ?_ (fun _=>?_))
   | exact Bj _ _ _
   | exact LeO.none _
   | refine LeO.ite ?_ ?_
   | refine LeO.bind ?_ (fun _=>?_)
set_option maxHeartbeats 8000000 in
set_option maxRecDepth 100000 in
theorem aQ.calls (k : Nat) (A0 : Option Addr) (c0 : Nat) (l0 : List Int) (r : Int) (w : World) (hr0 : Kd.C (Kd.int .i64) w A0 l0.length l0) (hc0 : l0.length ≤ c0) (h : aQ.f k l0 = some r) :
  Calls Tryz.prog 59 #[.slice A0 l0.length c0] w fun e w'=>e = .returned (.int .i64 r) ∧ Drawn0 w w':=by
 have Bn:=Aside0.mk hr0
 have Bp:=Aside0.mk hc0
 clear hr0 hc0
 have H : (aQ.l0 k l0 (l0.length : Int) 0) = some r:=h
 clear h
 have H':=Aside0.mk H
 clear H
 go_enter Tryz.func59,Tryz.ntmps59
 go_wp2
 go_loopg [7] k (fun kq v7 w'=>∃ (AZ : Int),v7 = .int .i64 AZ ∧ Aside0 (aQ.l0 kq l0 (l0.length : Int) AZ = some r) ∧ Aside0 (kq ≤ k) ∧ Drawn0 w w')
 case atStart=>exact ⟨(0),(by first|rfl|(simp;done)|(simp [*];done)),H',⟨Nat.le_refl _⟩,by repeat (first|exact Drawn0.refl _|apply Drawn0.step)⟩
 case round =>
  clear H'
  obtain ⟨AZ,rfl,HA,Bo,⟨m1,rfl⟩⟩:=hrel
  cases gk with
  | zero=>exact absurd HA.out (by simp [aQ.l0])
  | succ k1 =>
   have H:=HA.out
   clear HA
   simp only [aQ.l0] at H
   by_cases c2 : AZ < (l0.length : Int)
   ·rw [if_pos c2] at H
    have c2b0 : decide (AZ < (l0.length : Int)) = true:=decide_eq_true c2
    clear c2
    by_cases c3 : 0 ≤ AZ
    ·rw [if_pos c3] at H
     have c3b0 : decide (0 ≤ AZ) = true:=decide_eq_true c3
     clear c3
     by_cases c4 : AZ < (l0.length : Int)
     ·rw [if_pos c4] at H
      have c4b0 : decide (AZ < (l0.length : Int)) = true:=decide_eq_true c4
      clear c4
      by_cases c5 : (rd l0 AZ) = 0
      ·rw [if_pos c5] at H
       have c5b0 : ((rd l0 AZ) == 0) = true:=beq_iff_eq.mpr c5
       have c5b1 : ((rd l0 AZ) != 0) = false:=bne_eq_false_iff_eq.mpr c5
       clear c5
       have H':=Aside0.mk H
       clear H
       have Bf : 0 ≤ (AZ : Int):=of_decide_eq_true (by first|(with_reducible assumption)|assumption)
       have Bg : AZ < (l0.length : Int):=of_decide_eq_true (by first|(with_reducible assumption)|assumption)
       obtain ⟨Bl,e204,Bh⟩:=Kd.uW Bn.out AZ Bf Bg
       cases e204
       replace Bf:=eq_true Bf
       replace Bg:=eq_true Bg
       go_wp2
       go_roundg k1
       case measure=>have:=Bo.out;omega
       case rel=>exact ⟨(wrap64 (AZ + 1)),(by first|rfl|(simp;done)|(simp [*];done)),H',⟨by have:=Bo.out;omega⟩,by repeat (first|exact Drawn0.refl _|apply Drawn0.step)⟩
      ·rw [if_neg c5] at H
       have c5b0 : ((rd l0 AZ) == 0) = false:=beq_eq_false_iff_ne.mpr c5
       have c5b1 : ((rd l0 AZ) != 0) = true:=bne_iff_ne.mpr c5
       obtain rfl:=Option.some.inj H
       have Bf : 0 ≤ (AZ : Int):=of_decide_eq_true (by first|(with_reducible assumption)|assumption)
       have Bg : AZ < (l0.length : Int):=of_decide_eq_true (by first|(with_reducible assumption)|assumption)
       obtain ⟨Bl,e204,Bh⟩:=Kd.uW Bn.out AZ Bf Bg
       cases e204
       replace Bf:=eq_true Bf
       replace Bg:=eq_true Bg
       go_wp2
       go_ret
       exact ⟨by first|rfl|(simp;done)|(simp [*];done),by repeat (first|exact Drawn0.refl _|apply Drawn0.step)⟩
     ·rw [if_neg c4] at H
      exact absurd H (by simp)
    ·rw [if_neg c3] at H
     exact absurd H (by simp)
   ·rw [if_neg c2] at H
    have c2b0 : decide (AZ < (l0.length : Int)) = false:=decide_eq_false c2
    clear c2
    obtain rfl:=Option.some.inj H
    go_wp2
    go_ret
    exact ⟨by first|rfl|(simp;done)|(simp [*];done),by repeat (first|exact Drawn0.refl _|apply Drawn0.step)⟩
def aI.f (a0 : Bool) (a1 : Int) : Option (Int):=if a0 = true then (some a1) else (some 0)
set_option maxHeartbeats 8000000 in
set_option maxRecDepth 100000 in
theorem aI.calls (a0 : Bool) (a1 : Int) (r : Int) (w : World) (h : aI.f a0 a1 = some r) :
  Calls Tryz.prog 60 #[.bool a0,.int .i64 a1] w fun e w'=>e = .returned (.int .i64 r) ∧ Drawn0 w w':=by
 have H : (if a0 = true then (some a1) else (some 0)) = some r:=h
 clear h
 by_cases c3 : a0 = true
 ·subst c3
  have H1 : (some a1) = some r:=by rw [if_pos rfl] at H;exact H
  clear H
  have H:=H1
  clear H1
  obtain rfl:=Option.some.inj H
  go_enter Tryz.func60,Tryz.ntmps60
  go_wp2
  go_ret
  exact ⟨by first|rfl|(simp;done)|(simp [*];done),by repeat (first|exact Drawn0.refl _|apply Drawn0.step)⟩
 ·replace c3:=Bool.eq_false_iff.mpr c3
  subst c3
  have H1 : (some 0) = some r:=by rw [if_neg (show ¬ (false = true) by decide)] at H;exact H
  clear H
  have H:=H1
  clear H1
  obtain rfl:=Option.some.inj H
  go_enter Tryz.func60,Tryz.ntmps60
  go_wp2
  go_ret
  exact ⟨by first|rfl|(simp;done)|(simp [*];done),by repeat (first|exact Drawn0.refl _|apply Drawn0.step)⟩
def bG.f (a0 : Int) (a1 : Int) : Option (Bool):=if a0 ≥ 1 then (some (decide (a0 ≤ a1))) else (some false)
set_option maxHeartbeats 8000000 in
set_option maxRecDepth 100000 in
theorem bG.calls (a0 : Int) (a1 : Int) (r : Bool) (w : World) (h : bG.f a0 a1 = some r) :
  Calls Tryz.prog 61 #[.int .i64 a0,.int .i64 a1] w fun e w'=>e = .returned (.bool r) ∧ Drawn0 w w':=by
 have H : (if a0 ≥ 1 then (some (decide (a0 ≤ a1))) else (some false)) = some r:=h
 clear h
 by_cases c3 : a0 ≥ 1
 ·rw [if_pos c3] at H
  have c3b0 : decide (1 ≤ a0) = true:=decide_eq_true c3
  clear c3
  obtain rfl:=Option.some.inj H
  go_enter Tryz.func61,Tryz.ntmps61
  go_wp2
  go_ret
  exact ⟨by first|rfl|(simp;done)|(simp [*];done),by repeat (first|exact Drawn0.refl _|apply Drawn0.step)⟩
 ·rw [if_neg c3] at H
  have c3b0 : decide (1 ≤ a0) = false:=decide_eq_false c3
  clear c3
  obtain rfl:=Option.some.inj H
  go_enter Tryz.func61,Tryz.ntmps61
  go_wp2
  go_ret
  exact ⟨by first|rfl|(simp;done)|(simp [*];done),by repeat (first|exact Drawn0.refl _|apply Drawn0.step)⟩
def bP.f (a0 : Int) : Option (Bool):=some (decide (a0 > 16))
set_option maxHeartbeats 8000000 in
set_option maxRecDepth 100000 in
theorem bP.calls (a0 : Int) (r : Bool) (w : World) (h : bP.f a0 = some r) :
  Calls Tryz.prog 62 #[.int .i64 a0] w fun e w'=>e = .returned (.bool r) ∧ Drawn0 w w':=by
 have H : (some (decide (a0 > 16))) = some r:=h
 clear h
 obtain rfl:=Option.some.inj H
 go_enter Tryz.func62,Tryz.ntmps62
 go_wp2
 go_ret
 exact ⟨by first|rfl|(simp;done)|(simp [*];done),by repeat (first|exact Drawn0.refl _|apply Drawn0.step)⟩
end Go.Proofs.YtpflenjhmeaeoaaGreatDoor.GUt
