/- Written by this session's own program (wip/gen.py) out of the translation: plain Lean functions of the Go functions, and proofs that the calls come to their answers. No conditions beside those in the statements. -/
import Derived.Test.YtpflenjhmeaeoaaDoorGUtx0
namespace Go.Proofs.YtpflenjhmeaeoaaDoor.GUt
open Go.RowKit Go.Proofs.YtpflenjhmeaeoaaDoorW.PrintWords Go.Proofs.YtpflenjhmeaeoaaDoorW.PrintLast Go.Proofs.YtpflenjhmeaeoaaDoorW.PrintMore
attribute [local go_sem] dS dU eG eH dI dJ dV dW
set_option linter.unusedVariables false
set_option linter.unusedSimpArgs false
def aD.l0 : Nat → List Int → Int → Int → Option (Int)
 | 0,_,_,_=>none
 | k + 1,x5,x6,x7=>if x7 < x6 then (if 0 ≤ x7 then (if x7 < (x5.length : Int) then (if (rd x5 x7) = 0 then (aD.l0 k x5 x6 (wrap64 (x7 + 1))) else (some (rd x5 x7))) else (none)) else (none)) else (some 0)
def aD.f (k : Nat) (l0 : List Int) : Option (Int):=aD.l0 k l0 (l0.length : Int) 0
theorem aD.eu : ∀ k,(∀ y0 y1 y2,LeO (aD.l0 k y0 y1 y2) (aD.l0 (k + 1) y0 y1 y2))
 | 0=>fun _ _ _ r h=>by simp [aD.l0] at h
 | k + 1=>by
  have sK:=aD.eu k
  ·intro y0 y1 y2
   unfold aD.l0
   repeat' first
   | (with_reducible exact sK _ _ _)
   | (with_reducible exact LeO.refl _)
   | (with_reducible exact LeO.none _)
   | (with_reducible refine LeO.ite ?_ ?_)
   | (with_reducible refine LeO.bind ?_ (fun _=>?_))
   | exact sK _ _ _
   | exact LeO.none _
   | refine LeO.ite ?_ ?_
   | refine LeO.bind ?_ (fun _=>?_)
theorem aD.mono : ∀ a0 k,LeO (aD.f k a0) (aD.f (k + 1) a0):=by
 intro a0 k
 have sK:=aD.eu k
 unfold aD.f
 repeat' first
   | (with_reducible exact sK _ _ _)
   | (with_reducible exact LeO.refl _)
   | (with_reducible exact LeO.none _)
   | (with_reducible refine LeO.ite ?_ ?_)
   | (with_reducible refine LeO.bind ?_ (fun _=>?_))
   | exact sK _ _ _
   | exact LeO.none _
   | refine LeO.ite ?_ ?_
   | refine LeO.bind ?_ (fun _=>?_)
set_option maxHeartbeats 8000000 in
set_option maxRecDepth 100000 in
theorem aD.calls (k : Nat) (A0 : Option Addr) (c0 : Nat) (l0 : List Int) (r : Int) (w : World) (hr0 : Kd.C (Kd.int .i64) w A0 l0.length l0) (hc0 : l0.length ≤ c0) (h : aD.f k l0 = some r) :
  Calls Tryd.prog 34 #[.slice A0 l0.length c0] w fun e w'=>e = .returned (.int .i64 r) ∧ Drawn0 w w':=by
 have tY:=Aside0.mk hr0
 have uf:=Aside0.mk hc0
 clear hr0 hc0
 have H : (aD.l0 k l0 (l0.length : Int) 0) = some r:=h
 clear h
 have H':=Aside0.mk H
 clear H
 go_enter Tryd.func34,Tryd.ntmps34
 go_wp2
 go_loopg [7] k (fun kq v7 w'=>∃ (sF : Int),v7 = .int .i64 sF ∧ Aside0 (aD.l0 kq l0 (l0.length : Int) sF = some r) ∧ Aside0 (kq ≤ k) ∧ Drawn0 w w')
 case atStart=>exact ⟨(0),(by first|rfl|(simp;done)|(simp [*];done)|exact congrArg Value.bool (bL _)|exact congrArg Value.bool (bL _).symm),H',⟨Nat.le_refl _⟩,by repeat (first|exact Drawn0.refl _|apply Drawn0.step)⟩
 case round =>
  clear H'
  obtain ⟨sF,rfl,HA,tZ,⟨m1,rfl⟩⟩:=hrel
  cases gk with
  | zero=>exact absurd HA.out (by simp [aD.l0])
  | succ k1 =>
   have H:=HA.out
   clear HA
   simp only [aD.l0] at H
   by_cases c2 : sF < (l0.length : Int)
   ·rw [if_pos c2] at H
    have c2b0 : decide (sF < (l0.length : Int)) = true:=decide_eq_true c2
    clear c2
    by_cases c3 : 0 ≤ sF
    ·rw [if_pos c3] at H
     have c3b0 : decide (0 ≤ sF) = true:=decide_eq_true c3
     clear c3
     by_cases c4 : sF < (l0.length : Int)
     ·rw [if_pos c4] at H
      have c4b0 : decide (sF < (l0.length : Int)) = true:=decide_eq_true c4
      clear c4
      by_cases c5 : (rd l0 sF) = 0
      ·rw [if_pos c5] at H
       have c5b0 : ((rd l0 sF) == 0) = true:=beq_iff_eq.mpr c5
       have c5b1 : ((rd l0 sF) != 0) = false:=bne_eq_false_iff_eq.mpr c5
       clear c5
       have H':=Aside0.mk H
       clear H
       have sH : 0 ≤ (sF : Int):=of_decide_eq_true (by first|(with_reducible assumption)|assumption)
       have sI : sF < (l0.length : Int):=of_decide_eq_true (by first|(with_reducible assumption)|assumption)
       obtain ⟨tC,sV,sN⟩:=Kd.nC tY.out sF sH sI
       cases sV
       replace sH:=eq_true sH
       replace sI:=eq_true sI
       go_wp2
       go_roundg k1
       case measure=>have:=tZ.out;omega
       case rel=>exact ⟨(wrap64 (sF + 1)),(by first|rfl|(simp;done)|(simp [*];done)|exact congrArg Value.bool (bL _)|exact congrArg Value.bool (bL _).symm),H',⟨by have:=tZ.out;omega⟩,by repeat (first|exact Drawn0.refl _|apply Drawn0.step)⟩
      ·rw [if_neg c5] at H
       have c5b0 : ((rd l0 sF) == 0) = false:=beq_eq_false_iff_ne.mpr c5
       have c5b1 : ((rd l0 sF) != 0) = true:=bne_iff_ne.mpr c5
       obtain rfl:=Option.some.inj H
       have sH : 0 ≤ (sF : Int):=of_decide_eq_true (by first|(with_reducible assumption)|assumption)
       have sI : sF < (l0.length : Int):=of_decide_eq_true (by first|(with_reducible assumption)|assumption)
       obtain ⟨tC,sV,sN⟩:=Kd.nC tY.out sF sH sI
       cases sV
       replace sH:=eq_true sH
       replace sI:=eq_true sI
       go_wp2
       go_ret
       exact ⟨by first|rfl|(simp;done)|(simp [*];done),by repeat (first|exact Drawn0.refl _|apply Drawn0.step)⟩
     ·rw [if_neg c4] at H
      exact absurd H (by simp)
    ·rw [if_neg c3] at H
     exact absurd H (by simp)
   ·rw [if_neg c2] at H
    have c2b0 : decide (sF < (l0.length : Int)) = false:=decide_eq_false c2
    clear c2
    obtain rfl:=Option.some.inj H
    go_wp2
    go_ret
    exact ⟨by first|rfl|(simp;done)|(simp [*];done),by repeat (first|exact Drawn0.refl _|apply Drawn0.step)⟩
def aB.f (a0 : Bool) (a1 : Int) : Option (Int):=if a0 = true then (some a1) else (some 0)
set_option maxHeartbeats 8000000 in
set_option maxRecDepth 100000 in
theorem aB.calls (a0 : Bool) (a1 : Int) (r : Int) (w : World) (h : aB.f a0 a1 = some r) :
  Calls Tryd.prog 35 #[.bool a0,.int .i64 a1] w fun e w'=>e = .returned (.int .i64 r) ∧ Drawn0 w w':=by
 have H : (if a0 = true then (some a1) else (some 0)) = some r:=h
 clear h
 by_cases c3 : a0 = true
 ·subst c3
  have H1 : (some a1) = some r:=by rw [if_pos rfl] at H;exact H
  clear H
  have H:=H1
  clear H1
  obtain rfl:=Option.some.inj H
  go_enter Tryd.func35,Tryd.ntmps35
  go_wp2
  go_ret
  exact ⟨by first|rfl|(simp;done)|(simp [*];done),by repeat (first|exact Drawn0.refl _|apply Drawn0.step)⟩
 ·replace c3:=Bool.eq_false_iff.mpr c3
  subst c3
  have H1 : (some 0) = some r:=by rw [if_neg (show ¬ (false = true) by decide)] at H;exact H
  clear H
  have H:=H1
  clear H1
  obtain rfl:=Option.some.inj H
  go_enter Tryd.func35,Tryd.ntmps35
  go_wp2
  go_ret
  exact ⟨by first|rfl|(simp;done)|(simp [*];done),by repeat (first|exact Drawn0.refl _|apply Drawn0.step)⟩
def dx.f (a0 : Int) : Option (Bool):=if a0 ≥ 97 then (some (decide (a0 ≤ 122))) else (some false)
set_option maxHeartbeats 8000000 in
set_option maxRecDepth 100000 in
theorem dx.calls (a0 : Int) (r : Bool) (w : World) (h : dx.f a0 = some r) :
  Calls Tryd.prog 63 #[.int .u8 a0] w fun e w'=>e = .returned (.bool r) ∧ Drawn0 w w':=by
 have H : (if a0 ≥ 97 then (some (decide (a0 ≤ 122))) else (some false)) = some r:=h
 clear h
 by_cases c2 : a0 ≥ 97
 ·rw [if_pos c2] at H
  have c2b0 : decide (97 ≤ a0) = true:=decide_eq_true c2
  clear c2
  obtain rfl:=Option.some.inj H
  go_enter Tryd.func63,Tryd.ntmps63
  go_wp2
  go_ret
  exact ⟨by first|rfl|(simp;done)|(simp [*];done),by repeat (first|exact Drawn0.refl _|apply Drawn0.step)⟩
 ·rw [if_neg c2] at H
  have c2b0 : decide (97 ≤ a0) = false:=decide_eq_false c2
  clear c2
  obtain rfl:=Option.some.inj H
  go_enter Tryd.func63,Tryd.ntmps63
  go_wp2
  go_ret
  exact ⟨by first|rfl|(simp;done)|(simp [*];done),by repeat (first|exact Drawn0.refl _|apply Drawn0.step)⟩
def bR.f (a0 : Int) : Option (Bool):=if a0 ≥ 48 then (some (decide (a0 ≤ 57))) else (some false)
set_option maxHeartbeats 8000000 in
set_option maxRecDepth 100000 in
theorem bR.calls (a0 : Int) (r : Bool) (w : World) (h : bR.f a0 = some r) :
  Calls Tryd.prog 64 #[.int .u8 a0] w fun e w'=>e = .returned (.bool r) ∧ Drawn0 w w':=by
 have H : (if a0 ≥ 48 then (some (decide (a0 ≤ 57))) else (some false)) = some r:=h
 clear h
 by_cases c2 : a0 ≥ 48
 ·rw [if_pos c2] at H
  have c2b0 : decide (48 ≤ a0) = true:=decide_eq_true c2
  clear c2
  obtain rfl:=Option.some.inj H
  go_enter Tryd.func64,Tryd.ntmps64
  go_wp2
  go_ret
  exact ⟨by first|rfl|(simp;done)|(simp [*];done),by repeat (first|exact Drawn0.refl _|apply Drawn0.step)⟩
 ·rw [if_neg c2] at H
  have c2b0 : decide (48 ≤ a0) = false:=decide_eq_false c2
  clear c2
  obtain rfl:=Option.some.inj H
  go_enter Tryd.func64,Tryd.ntmps64
  go_wp2
  go_ret
  exact ⟨by first|rfl|(simp;done)|(simp [*];done),by repeat (first|exact Drawn0.refl _|apply Drawn0.step)⟩
mutual
def aK.j0 : Nat → ByteArray → Bool → Option (Bool)
 | 0,_,_=>none
 | k + 1,x0,x23=>if x23 = true then (some false) else (aK.l0 k x0 (x0.size : Int) 0)
def aK.l0 : Nat → ByteArray → Int → Int → Option (Bool)
 | 0,_,_,_=>none
 | k + 1,x0,x25,sO=>if sO < x25 then (if 0 ≤ sO then (if sO < (x0.size : Int) then ((dx.f (bt x0 sO)).bind fun sP=>(if sP = true then (aK.l0 k x0 x25 (wrap64 (sO + 1))) else ((bR.f (bt x0 sO)).bind fun sG=>(if sG = true then (aK.l0 k x0 x25 (wrap64 (sO + 1))) else (if (bt x0 sO) = 45 then (aK.l0 k x0 x25 (wrap64 (sO + 1))) else (some false)))))) else (none)) else (none)) else (some true)
end
def aK.f (k : Nat) (a0 : ByteArray) : Option (Bool):=if a0.toList = ([] : List UInt8) then (aK.j0 k a0 true) else (if (a0.size : Int) > 63 then (aK.j0 k a0 true) else (if 0 < (a0.size : Int) then (if (bt a0 0) = 45 then (aK.j0 k a0 true) else (if 0 ≤ (wrap64 ((a0.size : Int) - 1)) then (if (wrap64 ((a0.size : Int) - 1)) < (a0.size : Int) then (aK.j0 k a0 ((bt a0 (wrap64 ((a0.size : Int) - 1))) == 45)) else (none)) else (none))) else (none)))
theorem aK.eu : ∀ k,(∀ y0 y1,LeO (aK.j0 k y0 y1) (aK.j0 (k + 1) y0 y1)) ∧ (∀ y0 y1 y2,LeO (aK.l0 k y0 y1 y2) (aK.l0 (k + 1) y0 y1 y2))
 | 0=>⟨fun _ _ r h=>by simp [aK.j0] at h,fun _ _ _ r h=>by simp [aK.l0] at h⟩
 | k + 1=>by
  obtain ⟨sK,ih1⟩:=aK.eu k
  refine ⟨?_,?_⟩
  ·intro y0 y1
   unfold aK.j0
   repeat' first
   | (with_reducible exact sK _ _)
   | (with_reducible exact ih1 _ _ _)
   | (with_reducible exact LeO.refl _)
   | (with_reducible exact LeO.none _)
   | (with_reducible refine LeO.ite ?_ ?_)
   | (with_reducible refine LeO.bind ?_ (fun _=>?_))
   | exact sK _ _
   | exact ih1 _ _ _
   | exact LeO.none _
   | refine LeO.ite ?_ ?_
   | refine LeO.bind ?_ (fun _=>?_)
  ·intro y0 y1 y2
   unfold aK.l0
   repeat' first
   | (with_reducible exact sK _ _)
   | (with_reducible exact ih1 _ _ _)
   | (with_reducible exact LeO.refl _)
   | (with_reducible exact LeO.none _)
   | (with_reducible refine LeO.ite ?_ ?_)
   | (with_reducible refine LeO.bind ?_ (fun _=>?_))
   | exact sK _ _
   | exact ih1 _ _ _
   | exact LeO.none _
   | refine LeO.ite ?_ ?_
   | refine LeO.bind ?_ (fun _=>?_)
theorem aK.mono : ∀ a0 k,LeO (aK.f k a0) (aK.f (k + 1) a0):=by
 intro a0 k
 obtain ⟨sK,ih1⟩:=aK.eu k
 unfold aK.f
 repeat' first
   | (with_reducible exact sK _ _)
   | (with_reducible exact ih1 _ _ _)
   | (with_reducible exact LeO.refl _)
   | (with_reducible exact LeO.none _)
   | (with_reducible refine LeO.ite ?_ ?_)
   | (with_reducible refine LeO.bind ?_ (fun _=>?_))
   | exact sK _ _
   | exact ih1 _ _ _
   | exact LeO.none _
   | refine LeO.ite ?_ ?_
   | refine LeO.bind ?_ (fun _=>?_)
set_option maxHeartbeats 8000000 in
set_option maxRecDepth 100000 in
theorem aK.calls (k : Nat) (a0 : ByteArray) (r : Bool) (w : World) (h : aK.f k a0 = some r) :
  Calls Tryd.prog 37 #[.string a0] w fun e w'=>e = .returned (.bool r) ∧ Drawn0 w w':=by
 have H : (if a0.toList = ([] : List UInt8) then (aK.j0 k a0 true) else (if (a0.size : Int) > 63 then (aK.j0 k a0 true) else (if 0 < (a0.size : Int) then (if (bt a0 0) = 45 then (aK.j0 k a0 true) else (if 0 ≤ (wrap64 ((a0.size : Int) - 1)) then (if (wrap64 ((a0.size : Int) - 1)) < (a0.size : Int) then (aK.j0 k a0 ((bt a0 (wrap64 ((a0.size : Int) - 1))) == 45)) else (none)) else (none))) else (none)))) = some r:=h
 clear h
 have tO:=Aside0.mk H
 clear H
 go_enter Tryd.func37,Tryd.ntmps37
 go_upto_region 1 with (fail)
 go_cut [23] (fun v23 wc=>∃ (kq : Nat) (sJ : Bool),v23 = .bool sJ ∧ Aside0 (aK.j0 kq a0 sJ = some r) ∧ Aside0 (kq ≤ k) ∧ Drawn0 w wc)
 case first =>
  have H:=tO.out
  clear tO
  by_cases c3 : a0.toList = ([] : List UInt8)
  ·rw [if_pos c3] at H
   have c3b0 : (a0.toList == ([] : List UInt8)) = true:=beq_iff_eq.mpr c3
   have c3b1 : (a0.toList != ([] : List UInt8)) = false:=bne_eq_false_iff_eq.mpr c3
   clear c3
   (first|rw [c3b0]|(simp only [aV,aW];rw [c3b0])|skip)
   have H':=Aside0.mk H
   clear H
   go_wp2
   go_meet
   case rel=>exact ⟨_,(true),(by first|rfl|(simp;done)|(simp [*];done)|exact congrArg Value.bool (bL _)|exact congrArg Value.bool (bL _).symm),H',⟨by first|omega|exact Nat.le_refl _⟩,by repeat (first|exact Drawn0.refl _|apply Drawn0.step)⟩
  ·rw [if_neg c3] at H
   have c3b0 : (a0.toList == ([] : List UInt8)) = false:=beq_eq_false_iff_ne.mpr c3
   have c3b1 : (a0.toList != ([] : List UInt8)) = true:=bne_iff_ne.mpr c3
   (first|rw [c3b0]|(simp only [aV,aW];rw [c3b0])|skip)
   by_cases c4 : (a0.size : Int) > 63
   ·rw [if_pos c4] at H
    have c4b0 : decide (63 < (a0.size : Int)) = true:=decide_eq_true c4
    have c4b1 : decide (63 < a0.size) = true:=decide_eq_true (by omega)
    clear c4
    have H':=Aside0.mk H
    clear H
    go_wp2
    go_meet
    case rel=>exact ⟨_,(true),(by first|rfl|(simp;done)|(simp [*];done)|exact congrArg Value.bool (bL _)|exact congrArg Value.bool (bL _).symm),H',⟨by first|omega|exact Nat.le_refl _⟩,by repeat (first|exact Drawn0.refl _|apply Drawn0.step)⟩
   ·rw [if_neg c4] at H
    have c4b0 : decide (63 < (a0.size : Int)) = false:=decide_eq_false c4
    have c4b1 : decide (63 < a0.size) = false:=decide_eq_false (by omega)
    clear c4
    by_cases c5 : 0 < (a0.size : Int)
    ·rw [if_pos c5] at H
     have c5b0 : decide (0 < (a0.size : Int)) = true:=decide_eq_true c5
     have c5b1 : decide (0 < a0.size) = true:=decide_eq_true (by omega)
     clear c5
     by_cases c7 : (bt a0 0) = 45
     ·rw [if_pos c7] at H
      have c7b0 : ((bt a0 0) == 45) = true:=beq_iff_eq.mpr c7
      have c7b1 : ((bt a0 0) != 45) = false:=bne_eq_false_iff_eq.mpr c7
      clear c7
      have H':=Aside0.mk H
      clear H
      have p6 : 0 ≤ (0 : Int):=(by omega)
      have q6 : 0 < a0.size:=(by have : (0 : Int) < (a0.size : Int):=of_decide_eq_true (by first|(with_reducible assumption)|assumption);omega)
      have hx6 : ∀ h : 0 < a0.size,((a0[0]'h).toNat : Int) = bt a0 0:=dA a0 0
      clear p6
      have tQ : (0 < (a0.size : Int)) = True:=eq_true (of_decide_eq_true (by first|(with_reducible assumption)|assumption))
      replace q6:=eq_true q6
      go_wp2
      go_meet
      case rel=>exact ⟨_,(true),(by first|rfl|(simp;done)|(simp [*];done)|exact congrArg Value.bool (bL _)|exact congrArg Value.bool (bL _).symm),H',⟨by first|omega|exact Nat.le_refl _⟩,by repeat (first|exact Drawn0.refl _|apply Drawn0.step)⟩
     ·rw [if_neg c7] at H
      have c7b0 : ((bt a0 0) == 45) = false:=beq_eq_false_iff_ne.mpr c7
      have c7b1 : ((bt a0 0) != 45) = true:=bne_iff_ne.mpr c7
      obtain ⟨sM,sQ⟩ : ∃ j_ : Int,(wrap64 ((a0.size : Int) - 1)) = j_:=⟨_,rfl⟩
      replace H : (if 0 ≤ (sM) then (if (sM) < (a0.size : Int) then (aK.j0 k a0 ((bt a0 (sM)) == 45)) else (none)) else (none)) = some r:=by first|(rw [sQ] at H;exact H)|(simp only [sQ] at H ⊢;exact H)
      have hji8w : (IntKind.i64.wrap ((a0.size : Int) - 1)) = sM:=(aV _).trans sQ
      by_cases c9 : 0 ≤ (sM)
      ·rw [if_pos c9] at H
       have c9b0 : decide (0 ≤ (sM)) = true:=decide_eq_true c9
       clear c9
       by_cases c10 : (sM) < (a0.size : Int)
       ·rw [if_pos c10] at H
        have c10b0 : decide ((sM) < (a0.size : Int)) = true:=decide_eq_true c10
        clear c10
        have H':=Aside0.mk H
        clear H
        have p6 : 0 ≤ (0 : Int):=(by omega)
        have q6 : 0 < a0.size:=(by have : (0 : Int) < (a0.size : Int):=of_decide_eq_true (by first|(with_reducible assumption)|assumption);omega)
        have hx6 : ∀ h : 0 < a0.size,((a0[0]'h).toNat : Int) = bt a0 0:=dA a0 0
        clear p6
        have tQ : (0 < (a0.size : Int)) = True:=eq_true (of_decide_eq_true (by first|(with_reducible assumption)|assumption))
        replace q6:=eq_true q6
        have sW : 0 ≤ ((sM) : Int):=of_decide_eq_true (by first|(with_reducible assumption)|assumption)
        have sZ : (sM) < (a0.size : Int):=of_decide_eq_true (by first|(with_reducible assumption)|assumption)
        have tF:=dA a0 (sM)
        replace sW:=eq_true sW
        replace sZ:=eq_true sZ
        go_wp2
        go_meet
        case rel=>exact ⟨_,(((bt a0 (sM)) == 45)),(by first|rfl|(simp;done)|(simp only [← sQ] <;> (first|rfl|simp))|(simp [*];done)|exact congrArg Value.bool (bL _)|exact congrArg Value.bool (bL _).symm),H',⟨by first|omega|exact Nat.le_refl _⟩,by repeat (first|exact Drawn0.refl _|apply Drawn0.step)⟩
       ·rw [if_neg c10] at H
        exact absurd H (by simp)
      ·rw [if_neg c9] at H
       exact absurd H (by simp)
    ·rw [if_neg c5] at H
     exact absurd H (by simp)
 case rest =>
  clear tO
  try clear c1
  try clear p1
  try clear q1
  try clear hx1
  try clear p2
  try clear c3
  try clear c3b0
  try clear c3b1
  try clear c4
  try clear c4b0
  try clear c4b1
  try clear c5
  try clear c5b0
  try clear c5b1
  try clear p6
  try clear q6
  try clear hx6
  try clear tQ
  try clear c7
  try clear c7b0
  try clear c7b1
  try clear c9
  try clear c9b0
  try clear c10
  try clear c10b0
  try clear sW
  try clear sZ
  try clear tF
  try clear sW
  try clear p6
  try clear sZ
  try clear q6
  obtain ⟨kq,sJ,rfl,HA,tq,⟨ug,rfl⟩⟩:=hcut
  cases kq with
  | zero=>exact absurd HA.out (by simp [aK.j0])
  | succ tT =>
   have H:=HA.out
   clear HA
   simp only [aK.j0] at H
   by_cases c12 : sJ = true
   ·subst c12
    have H1 : (some false) = some r:=by rw [if_pos rfl] at H;exact H
    clear H
    have H:=H1
    clear H1
    obtain rfl:=Option.some.inj H
    go_wp2
    go_ret
    exact ⟨by first|rfl|(simp;done)|(simp [*];done),by repeat (first|exact Drawn0.refl _|apply Drawn0.step)⟩
   ·replace c12:=Bool.eq_false_iff.mpr c12
    subst c12
    have H1 : (aK.l0 tT a0 (a0.size : Int) 0) = some r:=by rw [if_neg (show ¬ (false = true) by decide)] at H;exact H
    clear H
    have H:=H1
    clear H1
    have H':=Aside0.mk H
    clear H
    go_wp2
    go_loopg [26] tT (fun kq v26 w'=>∃ (sD : Int),v26 = .int .i64 sD ∧ Aside0 (aK.l0 kq a0 (a0.size : Int) sD = some r) ∧ Aside0 (kq ≤ tT) ∧ Drawn0 w w')
    case atStart=>exact ⟨(0),(by first|rfl|(simp;done)|(simp [*];done)|exact congrArg Value.bool (bL _)|exact congrArg Value.bool (bL _).symm),H',⟨Nat.le_refl _⟩,by repeat (first|exact Drawn0.refl _|apply Drawn0.step)⟩
    case round =>
     clear H'
     try clear c1
     try clear p1
     try clear q1
     try clear hx1
     try clear p2
     try clear c3
     try clear c3b0
     try clear c3b1
     try clear c4
     try clear c4b0
     try clear c4b1
     try clear c5
     try clear c5b0
     try clear c5b1
     try clear p6
     try clear q6
     try clear hx6
     try clear tQ
     try clear c7
     try clear c7b0
     try clear c7b1
     try clear c9
     try clear c9b0
     try clear c10
     try clear c10b0
     try clear sW
     try clear sZ
     try clear tF
     try clear c12
     try clear p1
     try clear sW
     try clear p2
     try clear p6
     try clear q1
     try clear sZ
     try clear q6
     obtain ⟨sD,rfl,HA,tu,⟨m2,rfl⟩⟩:=hrel
     cases gk with
     | zero=>exact absurd HA.out (by simp [aK.l0])
     | succ k2 =>
      have H:=HA.out
      clear HA
      simp only [aK.l0] at H
      by_cases c13 : sD < (a0.size : Int)
      ·rw [if_pos c13] at H
       have c13b0 : decide (sD < (a0.size : Int)) = true:=decide_eq_true c13
       clear c13
       by_cases c14 : 0 ≤ sD
       ·rw [if_pos c14] at H
        have c14b0 : decide (0 ≤ sD) = true:=decide_eq_true c14
        clear c14
        by_cases c15 : sD < (a0.size : Int)
        ·rw [if_pos c15] at H
         have c15b0 : decide (sD < (a0.size : Int)) = true:=decide_eq_true c15
         clear c15
         replace H:=Option.bind_eq_some_iff.mp H
         obtain ⟨sP,tH,H⟩:=H
         replace H : (if sP = true then (aK.l0 k2 a0 (a0.size : Int) (wrap64 (sD + 1))) else ((bR.f (bt a0 sD)).bind fun sG=>(if sG = true then (aK.l0 k2 a0 (a0.size : Int) (wrap64 (sD + 1))) else (if (bt a0 sD) = 45 then (aK.l0 k2 a0 (a0.size : Int) (wrap64 (sD + 1))) else (some false))))) = some r:=H
         have tN:=Aside0.mk tH
         clear tH
         by_cases c18 : sP = true
         ·subst c18
          have H1 : (aK.l0 k2 a0 (a0.size : Int) (wrap64 (sD + 1))) = some r:=by rw [if_pos rfl] at H;exact H
          clear H
          have H:=H1
          clear H1
          have H':=Aside0.mk H
          clear H
          have p16 : 0 ≤ (sD : Int):=of_decide_eq_true (by first|(with_reducible assumption)|assumption)
          have q16 : sD < (a0.size : Int):=of_decide_eq_true (by first|(with_reducible assumption)|assumption)
          have hx16:=dA a0 sD
          replace p16:=eq_true p16
          replace q16:=eq_true q16
          go_wp2_with (first|((with_reducible refine aM (f:=63) rfl ?_);refine bE (some 32) rfl rfl Tryd.func63 (by kernel_rfl) rfl #[.int .u8 (bt a0 sD)] rfl (by (try simp only [List.map_toArray,List.map_cons,List.map_nil]);first|done|rfl|(simp only [List.length_drop,List.length_take];rfl)|(simp (disch:=first|omega|(simp at *;omega)) only [bF,bg,bU];rfl)) ?_;(with_reducible refine (dx.calls (bt a0 sD) true _ tN.out).mono ?_);rintro e w' ⟨rfl,⟨nd,rfl⟩⟩;refine ⟨_,rfl,?_⟩))
          go_roundg k2
          case measure=>have:=tq.out;have:=tu.out;omega
          case rel=>exact ⟨(wrap64 (sD + 1)),(by first|rfl|(simp;done)|(simp [*];done)|exact congrArg Value.bool (bL _)|exact congrArg Value.bool (bL _).symm),H',⟨by have:=tq.out;have:=tu.out;omega⟩,by repeat (first|exact Drawn0.refl _|apply Drawn0.step)⟩
         ·replace c18:=Bool.eq_false_iff.mpr c18
          subst c18
          have H1 : ((bR.f (bt a0 sD)).bind fun sG=>(if sG = true then (aK.l0 k2 a0 (a0.size : Int) (wrap64 (sD + 1))) else (if (bt a0 sD) = 45 then (aK.l0 k2 a0 (a0.size : Int) (wrap64 (sD + 1))) else (some false)))) = some r:=by rw [if_neg (show ¬ (false = true) by decide)] at H;exact H
          clear H
          have H:=H1
          clear H1
          replace H:=Option.bind_eq_some_iff.mp H
          obtain ⟨sG,tJ,H⟩:=H
          replace H : (if sG = true then (aK.l0 k2 a0 (a0.size : Int) (wrap64 (sD + 1))) else (if (bt a0 sD) = 45 then (aK.l0 k2 a0 (a0.size : Int) (wrap64 (sD + 1))) else (some false))) = some r:=H
          have tV:=Aside0.mk tJ
          clear tJ
          by_cases c21 : sG = true
          ·subst c21
           have H1 : (aK.l0 k2 a0 (a0.size : Int) (wrap64 (sD + 1))) = some r:=by rw [if_pos rfl] at H;exact H
           clear H
           have H:=H1
           clear H1
           have H':=Aside0.mk H
           clear H
           have p16 : 0 ≤ (sD : Int):=of_decide_eq_true (by first|(with_reducible assumption)|assumption)
           have q16 : sD < (a0.size : Int):=of_decide_eq_true (by first|(with_reducible assumption)|assumption)
           have hx16:=dA a0 sD
           replace p16:=eq_true p16
           replace q16:=eq_true q16
           go_wp2_with (first|((with_reducible refine aM (f:=63) rfl ?_);refine bE (some 32) rfl rfl Tryd.func63 (by kernel_rfl) rfl #[.int .u8 (bt a0 sD)] rfl (by (try simp only [List.map_toArray,List.map_cons,List.map_nil]);first|done|rfl|(simp only [List.length_drop,List.length_take];rfl)|(simp (disch:=first|omega|(simp at *;omega)) only [bF,bg,bU];rfl)) ?_;(with_reducible refine (dx.calls (bt a0 sD) false _ tN.out).mono ?_);rintro e w' ⟨rfl,⟨nd,rfl⟩⟩;refine ⟨_,rfl,?_⟩;have sS : 0 ≤ (sD : Int):=of_decide_eq_true (by first|(with_reducible assumption)|assumption);have sU : sD < (a0.size : Int):=of_decide_eq_true (by first|(with_reducible assumption)|assumption);have tK:=dA a0 sD;replace sS:=eq_true sS;replace sU:=eq_true sU)|(go_at_call 64;(with_reducible refine (bR.calls (bt a0 sD) true _ tV.out).mono ?_);rintro e w' ⟨rfl,⟨nd,rfl⟩⟩))
           go_roundg k2
           case measure=>have:=tq.out;have:=tu.out;omega
           case rel=>exact ⟨(wrap64 (sD + 1)),(by first|rfl|(simp;done)|(simp [*];done)|exact congrArg Value.bool (bL _)|exact congrArg Value.bool (bL _).symm),H',⟨by have:=tq.out;have:=tu.out;omega⟩,by repeat (first|exact Drawn0.refl _|apply Drawn0.step)⟩
          ·replace c21:=Bool.eq_false_iff.mpr c21
           subst c21
           have H1 : (if (bt a0 sD) = 45 then (aK.l0 k2 a0 (a0.size : Int) (wrap64 (sD + 1))) else (some false)) = some r:=by rw [if_neg (show ¬ (false = true) by decide)] at H;exact H
           clear H
           have H:=H1
           clear H1
           by_cases c23 : (bt a0 sD) = 45
           ·rw [if_pos c23] at H
            have c23b0 : ((bt a0 sD) == 45) = true:=beq_iff_eq.mpr c23
            have c23b1 : ((bt a0 sD) != 45) = false:=bne_eq_false_iff_eq.mpr c23
            clear c23
            have H':=Aside0.mk H
            clear H
            have p16 : 0 ≤ (sD : Int):=of_decide_eq_true (by first|(with_reducible assumption)|assumption)
            have q16 : sD < (a0.size : Int):=of_decide_eq_true (by first|(with_reducible assumption)|assumption)
            have hx16:=dA a0 sD
            replace p16:=eq_true p16
            replace q16:=eq_true q16
            go_wp2_with (first|((with_reducible refine aM (f:=63) rfl ?_);refine bE (some 32) rfl rfl Tryd.func63 (by kernel_rfl) rfl #[.int .u8 (bt a0 sD)] rfl (by (try simp only [List.map_toArray,List.map_cons,List.map_nil]);first|done|rfl|(simp only [List.length_drop,List.length_take];rfl)|(simp (disch:=first|omega|(simp at *;omega)) only [bF,bg,bU];rfl)) ?_;(with_reducible refine (dx.calls (bt a0 sD) false _ tN.out).mono ?_);rintro e w' ⟨rfl,⟨nd,rfl⟩⟩;refine ⟨_,rfl,?_⟩;have sS : 0 ≤ (sD : Int):=of_decide_eq_true (by first|(with_reducible assumption)|assumption);have sU : sD < (a0.size : Int):=of_decide_eq_true (by first|(with_reducible assumption)|assumption);have tK:=dA a0 sD;replace sS:=eq_true sS;replace sU:=eq_true sU)|(go_at_call 64;(with_reducible refine (bR.calls (bt a0 sD) false _ tV.out).mono ?_);rintro e w' ⟨rfl,⟨nd,rfl⟩⟩;have tL : 0 ≤ (sD : Int):=of_decide_eq_true (by first|(with_reducible assumption)|assumption);have q22 : sD < (a0.size : Int):=of_decide_eq_true (by first|(with_reducible assumption)|assumption);have tX:=dA a0 sD;replace tL:=eq_true tL;replace q22:=eq_true q22))
            go_roundg k2
            case measure=>have:=tq.out;have:=tu.out;omega
            case rel=>exact ⟨(wrap64 (sD + 1)),(by first|rfl|(simp;done)|(simp [*];done)|exact congrArg Value.bool (bL _)|exact congrArg Value.bool (bL _).symm),H',⟨by have:=tq.out;have:=tu.out;omega⟩,by repeat (first|exact Drawn0.refl _|apply Drawn0.step)⟩
           ·rw [if_neg c23] at H
            have c23b0 : ((bt a0 sD) == 45) = false:=beq_eq_false_iff_ne.mpr c23
            have c23b1 : ((bt a0 sD) != 45) = true:=bne_iff_ne.mpr c23
            obtain rfl:=Option.some.inj H
            have p16 : 0 ≤ (sD : Int):=of_decide_eq_true (by first|(with_reducible assumption)|assumption)
            have q16 : sD < (a0.size : Int):=of_decide_eq_true (by first|(with_reducible assumption)|assumption)
            have hx16:=dA a0 sD
            replace p16:=eq_true p16
            replace q16:=eq_true q16
            go_wp2_with (first|((with_reducible refine aM (f:=63) rfl ?_);refine bE (some 32) rfl rfl Tryd.func63 (by kernel_rfl) rfl #[.int .u8 (bt a0 sD)] rfl (by (try simp only [List.map_toArray,List.map_cons,List.map_nil]);first|done|rfl|(simp only [List.length_drop,List.length_take];rfl)|(simp (disch:=first|omega|(simp at *;omega)) only [bF,bg,bU];rfl)) ?_;(with_reducible refine (dx.calls (bt a0 sD) false _ tN.out).mono ?_);rintro e w' ⟨rfl,⟨nd,rfl⟩⟩;refine ⟨_,rfl,?_⟩;have sS : 0 ≤ (sD : Int):=of_decide_eq_true (by first|(with_reducible assumption)|assumption);have sU : sD < (a0.size : Int):=of_decide_eq_true (by first|(with_reducible assumption)|assumption);have tK:=dA a0 sD;replace sS:=eq_true sS;replace sU:=eq_true sU)|(go_at_call 64;(with_reducible refine (bR.calls (bt a0 sD) false _ tV.out).mono ?_);rintro e w' ⟨rfl,⟨nd,rfl⟩⟩;have tL : 0 ≤ (sD : Int):=of_decide_eq_true (by first|(with_reducible assumption)|assumption);have q22 : sD < (a0.size : Int):=of_decide_eq_true (by first|(with_reducible assumption)|assumption);have tX:=dA a0 sD;replace tL:=eq_true tL;replace q22:=eq_true q22))
            go_ret
            exact ⟨by first|rfl|(simp;done)|(simp [*];done),by repeat (first|exact Drawn0.refl _|apply Drawn0.step)⟩
        ·rw [if_neg c15] at H
         exact absurd H (by simp)
       ·rw [if_neg c14] at H
        exact absurd H (by simp)
      ·rw [if_neg c13] at H
       have c13b0 : decide (sD < (a0.size : Int)) = false:=decide_eq_false c13
       clear c13
       obtain rfl:=Option.some.inj H
       go_wp2
       go_ret
       exact ⟨by first|rfl|(simp;done)|(simp [*];done),by repeat (first|exact Drawn0.refl _|apply Drawn0.step)⟩
def aS.f (a0 : Int) (a1 : Int) : Option (Bool):=if a0 ≥ 1 then (some (decide (a0 ≤ a1))) else (some false)
set_option maxHeartbeats 8000000 in
set_option maxRecDepth 100000 in
theorem aS.calls (a0 : Int) (a1 : Int) (r : Bool) (w : World) (h : aS.f a0 a1 = some r) :
  Calls Tryd.prog 38 #[.int .i64 a0,.int .i64 a1] w fun e w'=>e = .returned (.bool r) ∧ Drawn0 w w':=by
 have H : (if a0 ≥ 1 then (some (decide (a0 ≤ a1))) else (some false)) = some r:=h
 clear h
 by_cases c3 : a0 ≥ 1
 ·rw [if_pos c3] at H
  have c3b0 : decide (1 ≤ a0) = true:=decide_eq_true c3
  clear c3
  obtain rfl:=Option.some.inj H
  go_enter Tryd.func38,Tryd.ntmps38
  go_wp2
  go_ret
  exact ⟨by first|rfl|(simp;done)|(simp [*];done),by repeat (first|exact Drawn0.refl _|apply Drawn0.step)⟩
 ·rw [if_neg c3] at H
  have c3b0 : decide (1 ≤ a0) = false:=decide_eq_false c3
  clear c3
  obtain rfl:=Option.some.inj H
  go_enter Tryd.func38,Tryd.ntmps38
  go_wp2
  go_ret
  exact ⟨by first|rfl|(simp;done)|(simp [*];done),by repeat (first|exact Drawn0.refl _|apply Drawn0.step)⟩
def aX.f (a0 : Int) : Option (Bool):=some (decide (a0 > 16))
set_option maxHeartbeats 8000000 in
set_option maxRecDepth 100000 in
theorem aX.calls (a0 : Int) (r : Bool) (w : World) (h : aX.f a0 = some r) :
  Calls Tryd.prog 39 #[.int .i64 a0] w fun e w'=>e = .returned (.bool r) ∧ Drawn0 w w':=by
 have H : (some (decide (a0 > 16))) = some r:=h
 clear h
 obtain rfl:=Option.some.inj H
 go_enter Tryd.func39,Tryd.ntmps39
 go_wp2
 go_ret
 exact ⟨by first|rfl|(simp;done)|(simp [*];done),by repeat (first|exact Drawn0.refl _|apply Drawn0.step)⟩
def dP.f (a0 : Int) : Option (Bool):=if a0 ≥ 65 then (some (decide (a0 ≤ 90))) else (some false)
set_option maxHeartbeats 8000000 in
set_option maxRecDepth 100000 in
theorem dP.calls (a0 : Int) (r : Bool) (w : World) (h : dP.f a0 = some r) :
  Calls Tryd.prog 65 #[.int .u8 a0] w fun e w'=>e = .returned (.bool r) ∧ Drawn0 w w':=by
 have H : (if a0 ≥ 65 then (some (decide (a0 ≤ 90))) else (some false)) = some r:=h
 clear h
 by_cases c2 : a0 ≥ 65
 ·rw [if_pos c2] at H
  have c2b0 : decide (65 ≤ a0) = true:=decide_eq_true c2
  clear c2
  obtain rfl:=Option.some.inj H
  go_enter Tryd.func65,Tryd.ntmps65
  go_wp2
  go_ret
  exact ⟨by first|rfl|(simp;done)|(simp [*];done),by repeat (first|exact Drawn0.refl _|apply Drawn0.step)⟩
 ·rw [if_neg c2] at H
  have c2b0 : decide (65 ≤ a0) = false:=decide_eq_false c2
  clear c2
  obtain rfl:=Option.some.inj H
  go_enter Tryd.func65,Tryd.ntmps65
  go_wp2
  go_ret
  exact ⟨by first|rfl|(simp;done)|(simp [*];done),by repeat (first|exact Drawn0.refl _|apply Drawn0.step)⟩
end Go.Proofs.YtpflenjhmeaeoaaDoor.GUt
