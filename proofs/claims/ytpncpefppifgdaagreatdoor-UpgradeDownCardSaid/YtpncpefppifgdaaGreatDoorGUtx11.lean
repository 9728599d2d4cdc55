/- Written by this session's own program (wip/gen.py) out of the translation: plain Lean functions of the Go functions, and proofs that the calls come to their answers. No conditions beside those in the statements. -/
import Derived.Test.YtpncpefppifgdaaGreatDoorGUtx0
namespace Go.Proofs.YtpncpefppifgdaaGreatDoor.GUt
open Go.RowKit Go.Proofs.YtpncpefppifgdaaGreatDoorW.PrintWords Go.Proofs.YtpncpefppifgdaaGreatDoorW.PrintLast Go.Proofs.YtpncpefppifgdaaGreatDoorW.PrintMore
attribute [local go_sem] fH fI gF gG eZ fq fJ fK
set_option linter.unusedVariables false
set_option linter.unusedSimpArgs false
def aM.l0 : Nat → List Int → Int → Int → Option (Int)
 | 0,_,_,_=>none
 | k + 1,x5,x6,x7=>if x7 < x6 then (if 0 ≤ x7 then (if x7 < (x5.length : Int) then (if (rd x5 x7) = 0 then (aM.l0 k x5 x6 (wrap64 (x7 + 1))) else (some (rd x5 x7))) else (none)) else (none)) else (some 0)
def aM.f (k : Nat) (l0 : List Int) : Option (Int):=aM.l0 k l0 (l0.length : Int) 0
theorem aM.eB : ∀ k,(∀ y0 y1 y2,LeO (aM.l0 k y0 y1 y2) (aM.l0 (k + 1) y0 y1 y2))
 | 0=>fun _ _ _ r h=>by simp [aM.l0] at h
 | k + 1=>by
  have BH:=aM.eB k
  ·intro y0 y1 y2
   unfold aM.l0
   repeat' first
   | (with_reducible exact BH _ _ _)
   | (with_reducible exact LeO.refl _)
   | (with_reducible exact LeO.none _)
   | (with_reducible refine LeO.ite ?_ ?_)
   | (with_reducible refine LeO.bind ?_ (fun _=>?_))
   | exact BH _ _ _
   | exact LeO.none _
   | refine LeO.ite ?_ ?_
   | refine LeO.bind ?_ (fun _=>?_)
theorem aM.mono : ∀ a0 k,LeO (aM.f k a0) (aM.f (k + 1) a0):=by
 intro a0 k
 have BH:=aM.eB k
 unfold aM.f
 repeat' first
   | (with_reducible exact BH _ _ _)
   | (with_reducible exact LeO.refl _)
   | (with_reducible exact LeO.none _)
   | (with_reducible refine LeO.ite ?_ ?_)
   | (with_reducible refine LeO.bind ?_ (fun _=>?_))
   | exact BH _ _ _
   | exact LeO.none _
   | refine LeO.ite ?_ ?_
   | refine LeO.bind ?_ (fun _=>?_)
set_option maxHeartbeats 8000000 in
set_option maxRecDepth 100000 in
theorem aM.calls (k : Nat) (A0 : Option Addr) (c0 : Nat) (l0 : List Int) (r : Int) (w : World) (hr0 : Kd.C (Kd.int .i64) w A0 l0.length l0) (hc0 : l0.length ≤ c0) (h : aM.f k l0 = some r) :
  Calls Tryz.prog 104 #[.slice A0 l0.length c0] w fun e w'=>e = .returned (.int .i64 r) ∧ Drawn0 w w':=by
 have BJ:=Aside0.mk hr0
 have BL:=Aside0.mk hc0
 clear hr0 hc0
 have H : (aM.l0 k l0 (l0.length : Int) 0) = some r:=h
 clear h
 have H':=Aside0.mk H
 clear H
 go_enter Tryz.func104,Tryz.ntmps104
 go_wp2
 go_loopg [7] k (fun kq v7 w'=>∃ (Bw : Int),v7 = .int .i64 Bw ∧ Aside0 (aM.l0 kq l0 (l0.length : Int) Bw = some r) ∧ Aside0 (kq ≤ k) ∧ Drawn0 w w')
 case atStart=>exact ⟨(0),(by first|rfl|(simp;done)|(simp [*];done)),H',⟨Nat.le_refl _⟩,by repeat (first|exact Drawn0.refl _|apply Drawn0.step)⟩
 case round =>
  clear H'
  try clear c1
  obtain ⟨Bw,rfl,HA,BK,⟨m1,rfl⟩⟩:=hrel
  cases gk with
  | zero=>exact absurd HA.out (by simp [aM.l0])
  | succ k1 =>
   have H:=HA.out
   clear HA
   simp only [aM.l0] at H
   by_cases c2 : Bw < (l0.length : Int)
   ·rw [if_pos c2] at H
    have c2b0 : decide (Bw < (l0.length : Int)) = true:=decide_eq_true c2
    clear c2
    by_cases c3 : 0 ≤ Bw
    ·rw [if_pos c3] at H
     have c3b0 : decide (0 ≤ Bw) = true:=decide_eq_true c3
     clear c3
     by_cases c4 : Bw < (l0.length : Int)
     ·rw [if_pos c4] at H
      have c4b0 : decide (Bw < (l0.length : Int)) = true:=decide_eq_true c4
      clear c4
      by_cases c5 : (rd l0 Bw) = 0
      ·rw [if_pos c5] at H
       have c5b0 : ((rd l0 Bw) == 0) = true:=beq_iff_eq.mpr c5
       have c5b1 : ((rd l0 Bw) != 0) = false:=bne_eq_false_iff_eq.mpr c5
       clear c5
       have H':=Aside0.mk H
       clear H
       have Bz : 0 ≤ (Bw : Int):=of_decide_eq_true (by first|(with_reducible assumption)|assumption)
       have BD : Bw < (l0.length : Int):=of_decide_eq_true (by first|(with_reducible assumption)|assumption)
       obtain ⟨BI,BG,BF⟩:=Kd.uU BJ.out Bw Bz BD
       cases BG
       replace Bz:=eq_true Bz
       replace BD:=eq_true BD
       go_wp2
       go_roundg k1
       case measure=>have:=BK.out;omega
       case rel=>exact ⟨(wrap64 (Bw + 1)),(by first|rfl|(simp;done)|(simp [*];done)),H',⟨by have:=BK.out;omega⟩,by repeat (first|exact Drawn0.refl _|apply Drawn0.step)⟩
      ·rw [if_neg c5] at H
       have c5b0 : ((rd l0 Bw) == 0) = false:=beq_eq_false_iff_ne.mpr c5
       have c5b1 : ((rd l0 Bw) != 0) = true:=bne_iff_ne.mpr c5
       obtain rfl:=Option.some.inj H
       have Bz : 0 ≤ (Bw : Int):=of_decide_eq_true (by first|(with_reducible assumption)|assumption)
       have BD : Bw < (l0.length : Int):=of_decide_eq_true (by first|(with_reducible assumption)|assumption)
       obtain ⟨BI,BG,BF⟩:=Kd.uU BJ.out Bw Bz BD
       cases BG
       replace Bz:=eq_true Bz
       replace BD:=eq_true BD
       go_wp2
       go_ret
       exact ⟨by first|rfl|(simp;done)|(simp [*];done),by repeat (first|exact Drawn0.refl _|apply Drawn0.step)⟩
     ·rw [if_neg c4] at H
      exact absurd H (by simp)
    ·rw [if_neg c3] at H
     exact absurd H (by simp)
   ·rw [if_neg c2] at H
    have c2b0 : decide (Bw < (l0.length : Int)) = false:=decide_eq_false c2
    clear c2
    obtain rfl:=Option.some.inj H
    go_wp2
    go_ret
    exact ⟨by first|rfl|(simp;done)|(simp [*];done),by repeat (first|exact Drawn0.refl _|apply Drawn0.step)⟩
def aH.f (a0 : Bool) (a1 : Int) : Option (Int):=if a0 = true then (some a1) else (some 0)
set_option maxHeartbeats 8000000 in
set_option maxRecDepth 100000 in
theorem aH.calls (a0 : Bool) (a1 : Int) (r : Int) (w : World) (h : aH.f a0 a1 = some r) :
  Calls Tryz.prog 105 #[.bool a0,.int .i64 a1] w fun e w'=>e = .returned (.int .i64 r) ∧ Drawn0 w w':=by
 have H : (if a0 = true then (some a1) else (some 0)) = some r:=h
 clear h
 by_cases c3 : a0 = true
 ·subst c3
  have H1 : (some a1) = some r:=by rw [if_pos rfl] at H;exact H
  clear H
  have H:=H1
  clear H1
  obtain rfl:=Option.some.inj H
  go_enter Tryz.func105,Tryz.ntmps105
  go_wp2
  go_ret
  exact ⟨by first|rfl|(simp;done)|(simp [*];done),by repeat (first|exact Drawn0.refl _|apply Drawn0.step)⟩
 ·replace c3:=Bool.eq_false_iff.mpr c3
  subst c3
  have H1 : (some 0) = some r:=by rw [if_neg (show ¬ (false = true) by decide)] at H;exact H
  clear H
  have H:=H1
  clear H1
  obtain rfl:=Option.some.inj H
  go_enter Tryz.func105,Tryz.ntmps105
  go_wp2
  go_ret
  exact ⟨by first|rfl|(simp;done)|(simp [*];done),by repeat (first|exact Drawn0.refl _|apply Drawn0.step)⟩
def bD.f (a0 : Int) (a1 : Int) : Option (Bool):=if a0 ≥ 1 then (some (decide (a0 ≤ a1))) else (some false)
set_option maxHeartbeats 8000000 in
set_option maxRecDepth 100000 in
theorem bD.calls (a0 : Int) (a1 : Int) (r : Bool) (w : World) (h : bD.f a0 a1 = some r) :
  Calls Tryz.prog 106 #[.int .i64 a0,.int .i64 a1] w fun e w'=>e = .returned (.bool r) ∧ Drawn0 w w':=by
 have H : (if a0 ≥ 1 then (some (decide (a0 ≤ a1))) else (some false)) = some r:=h
 clear h
 by_cases c3 : a0 ≥ 1
 ·rw [if_pos c3] at H
  have c3b0 : decide (1 ≤ a0) = true:=decide_eq_true c3
  clear c3
  obtain rfl:=Option.some.inj H
  go_enter Tryz.func106,Tryz.ntmps106
  go_wp2
  go_ret
  exact ⟨by first|rfl|(simp;done)|(simp [*];done),by repeat (first|exact Drawn0.refl _|apply Drawn0.step)⟩
 ·rw [if_neg c3] at H
  have c3b0 : decide (1 ≤ a0) = false:=decide_eq_false c3
  clear c3
  obtain rfl:=Option.some.inj H
  go_enter Tryz.func106,Tryz.ntmps106
  go_wp2
  go_ret
  exact ⟨by first|rfl|(simp;done)|(simp [*];done),by repeat (first|exact Drawn0.refl _|apply Drawn0.step)⟩
def bK.f (a0 : Int) : Option (Bool):=some (decide (a0 > 16))
set_option maxHeartbeats 8000000 in
set_option maxRecDepth 100000 in
theorem bK.calls (a0 : Int) (r : Bool) (w : World) (h : bK.f a0 = some r) :
  Calls Tryz.prog 107 #[.int .i64 a0] w fun e w'=>e = .returned (.bool r) ∧ Drawn0 w w':=by
 have H : (some (decide (a0 > 16))) = some r:=h
 clear h
 obtain rfl:=Option.some.inj H
 go_enter Tryz.func107,Tryz.ntmps107
 go_wp2
 go_ret
 exact ⟨by first|rfl|(simp;done)|(simp [*];done),by repeat (first|exact Drawn0.refl _|apply Drawn0.step)⟩
end Go.Proofs.YtpncpefppifgdaaGreatDoor.GUt
